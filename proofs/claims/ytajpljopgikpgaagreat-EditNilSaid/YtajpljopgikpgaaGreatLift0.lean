/- A part of the proof that the named laws of this program answer true, whatever the input. -/
import Derived.OrdersIn
import Derived.Below
import Derived.WalkKit
import Derived.RangeFuncRecord
import Derived.DefersIn
open BitVec renaming ofInt→ad
open List renaming rec→cO,replicate→eu,length_cons→aQ
open Nat renaming succ→cV,beq→aI,ble→nR,min→bU,blt→nQ,land→eR,lor→bo,pred→nH,eq_of_beq_eq_true→au
open Option renaming some→aN
namespace Go.Lift
abbrev ac:=Array Obj
def aP(h:ac)(a:Addr):Option Value:=
 match h[a.block]? with
 |some (.cells c _ _)=>if a.spot.isSome then none else c[a.off]?
 |_=>none
def r4(h:ac)(a:Addr):Bool:=
 match h[a.block]? with
 |some (.cells _ _ (lo,hi))=>lo≤a.off&&a.off<hi
 |_=>false
def hset(h:ac)(a:Addr)(v:Value):ac:=
 h.modify a.block fun
  | .cells c elem frozen=>.cells (if a.spot.isSome then c else c.setIfInBounds a.off v) elem frozen
  |o=>o
noncomputable def adr(a:Addr)(n:Nat):Addr:=Nat.rec (motive:=fun _=>Addr) a (fun n _=>⟨a.block,a.off+cV n,none⟩) n
def Wr(h:ac)(a:Addr):Prop:=(∃v,aP h a=some v)∧r4 h a=false
structure Tame(w w':World):Prop where
 os:w'.os=w.os
 tape:w'.tape=w.tape
 output:w'.output=w.output
structure SliceV where
 a:Option Addr
 len:Nat
 cap:Nat
def vx:IntKind→IntKind→Bool
 | .i8,.i8=>true| .i16,.i16=>true| .i32,.i32=>true| .i64,.i64=>true
 | .u8,.u8=>true| .u16,.u16=>true| .u32,.u32=>true| .u64,.u64=>true
 |_,_=>false
inductive CK where
 |int (k:IntKind)|bool|str|ptr|slice|map|chan|raw|adr
def CK.den:CK→Type
 | .int _=>Int| .bool=>Bool| .str=>ByteArray| .ptr=>Option Addr| .slice=>SliceV| .map=>Option Nat| .chan=>Option Nat| .raw=>Value| .adr=>Addr
def CK.enc:(c:CK)→c.den→Value
 | .int k,n=>.int k n
 | .bool,b=>.bool b
 | .str,s=>.string s
 | .ptr,p=>.pointer p
 | .slice,s=>.slice s.a s.len s.cap
 | .map,r=>.map r
 | .chan,r=>.chan r
 | .raw,v=>v
 | .adr,a=>.pointer (some a)
def CK.dec:(c:CK)→Value→(c.den→Prop)→Prop
 | .int k,.int k' n,f=>bif vx k' k then f n else False
 | .bool,.bool b,f=>f b
 | .str,.string s,f=>f s
 | .ptr,.pointer p,f=>f p
 | .slice,.slice a l c,f=>f ⟨a,l,c⟩
 | .map,.map r,f=>f r
 | .chan,.chan r,f=>f r
 | .raw,v,f=>f v
 | .adr,.pointer (some a),f=>f a
 |_,_,_=>False
def B5:List CK→Type
 | []=>Unit
 | [c]=>c.den
 |c::d::cs=>c.den×B5 (d::cs)
def BO:(cs:List CK)→B5 cs→List Value
 | [],_=> []
 | [c],x=> [c.enc x]
 |c::d::cs,(x,t)=>c.enc x::BO (d::cs) t
def zw:(cs:List CK)→List Value→(B5 cs→Prop)→Prop
 | [],[],f=>f ()
 | [c],[v],f=>c.dec v f
 |c::d::cs,v::u::vs,f=>c.dec v fun x=>zw (d::cs) (u::vs) fun t=>f (x,t)
 |_,_,_=>False
inductive Kind where
 |c (k:CK)
 |agg (cs:List CK)
def Kind.den:Kind→Type
 | .c k=>k.den
 | .agg cs=>B5 cs
def Kind.enc:(k:Kind)→k.den→Value
 | .c k,x=>k.enc x
 | .agg cs,t=>.agg (BO cs t).toArray
def Kind.dec:(k:Kind)→Value→(k.den→Prop)→Prop
 | .c k,v,f=>k.dec v f
 | .agg cs,.agg vs,f=>zw cs vs.toList f
 |_,_,_=>False
def mo:List Kind→Type
 | []=>Unit
 | [k]=>k.den
 |k::l::ks=>k.den×mo (l::ks)
def gK:(ks:List Kind)→mo ks→List Value
 | [],_=> []
 | [k],x=> [k.enc x]
 |k::l::ks,(x,t)=>k.enc x::gK (l::ks) t
def rM:(ks:List Kind)→List Value→(mo ks→Prop)→Prop
 | [],[],f=>f ()
 | [k],[v],f=>k.dec v f
 |k::l::ks,v::u::vs,f=>k.dec v fun x=>rM (l::ks) (u::vs) fun t=>f (x,t)
 |_,_,_=>False
def rE(ks:List Kind)(vs:List Value):Value:=
 match ks,vs with
 | [_],[v]=>v
 |_,vs=>.tuple vs.toArray
def DN:Value→Option CK
 | .int k _=>some (.int k)
 | .bool _=>some .bool
 | .string _=>some .str
 | .pointer _=>some .ptr
 | .slice .. =>some .slice
 | .map _=>some .map
 | .chan _=>some .chan
 | .nilFunc=>some .raw
 | .nilIface=>some .raw
 |_=>none
def tA:List Value→Option (List CK)
 | []=>some []
 |v::vs=>match DN v,tA vs with
  |some c,some cs=>some (c::cs)
  |_,_=>none
def mI(P:Program)(t:TypeId):Bool:=
 match P.underlying t with
 |some (.struct _)|some (.array _ _)=>true
 |_=>false
def aO(P:Program)(t:TypeId):Nat:=match P.info? t with|some i=>i.size|none=>0
def jQ(P:Program)(t:TypeId):Nat:=match P.info? t with|some i=>i.bytes|none=>0
def nZ(P:Program)(t:TypeId):Option Value:=match P.info? t with|some i=>i.zero|none=>none
def zi(P:Program)(t:TypeId):Option Kind:=
 match nZ P t with
 |some (.agg vs)=>bif mI P t&&aI vs.toList.length (aO P t)then(match tA vs.toList with|some cs=>some (.agg cs)|none=>none)else none
 |some v=>bif mI P t then none else(match DN v with|some c=>some (.c c)|none=>none)
 |none=>none
def sY(P:Program)(t:TypeId):Option Kind:=
 match P.underlying t with
 |none=>none
 |some _=>zi P t
structure HC(P:Program)(f:FuncId)(args:List Value)(ks:List Kind)(K:mo ks→ac→Prop)(h:ac):Prop where
 run:∀w:World,w.heap=h→
  ((callFunc f args.toArray).run P w=.ok (.enter f args.toArray) w∧
   Calls P f args.toArray w fun e w'=>Tame w w'∧∃t:mo ks,e=.returned (rE ks (gK ks t))∧K t w'.heap)∨
  (∃v w',(callFunc f args.toArray).run P w=.ok (.value v) w'∧Tame w w'∧∃t:mo ks,v=rE ks (gK ks t)∧K t w'.heap)
structure HE(P:Program)(f:FuncId)(args:List Value)(ks:List Kind)(K:mo ks→ac→Prop)(h:ac):Prop where
 run:∀w:World,w.heap=h→(∀(args:Array Value) (w:World),(callFunc f args).run P w=.ok (.enter f args) w)∧
  Calls P f args.toArray w fun e w'=>Tame w w'∧∃t:mo ks,e=.returned (rE ks (gK ks t))∧K t w'.heap
theorem HE.hc{P:Program}{f:FuncId}{args:List Value}{ks:List Kind}{K:mo ks→ac→Prop}{h:ac}(e:HE P f args ks K h):HC P f args ks K h:=
 ⟨fun w a=>.inl ⟨(e.run w a).1 _ w,(e.run w a).2⟩⟩
structure HY(P:Program)(l:Nat)(args:List Value)(K:Bool→ac→Prop)(h:ac):Prop where
 run:∀w:World,w.heap=h→∃fn tmps assign body,(Instr.yield l args.toArray).run P w=.ok (.round l fn tmps assign body) w∧
  ∀(c:Frame) (cs:List Frame),∃b w',Tame w w'∧K b w'.heap∧Steps P (lone (Frame.round l fn tmps assign body .normal) (c::cs) w) (lone (c.finish (.bool b)) cs w')
structure HV(P:Program)(fv:Value)(args:List Value)(ks:List Kind)(K:mo ks→ac→Prop)(h:ac):Prop where
 run:(∃f first cap,fv=.func (.func f) first cap∧HC P f (first.toList++args++cap.toList) ks K h)∨
  (∃l,fv=.func (.yield l) #[] #[]∧HY P l args (fun b h'=>rM ks [.bool b] fun t=>K t h') h)
noncomputable def CondP(b:Bool)(t e:Prop):Prop:=Bool.rec (motive:=fun _=>Prop) e t b
theorem CondP.yes{b:Bool}{t e:Prop}(h:CondP b t e)(a:b=true):t:=by subst a;exact h
theorem CondP.no{b:Bool}{t e:Prop}(h:CondP b t e)(a:b=false):e:=by subst a;exact h
theorem CondP.intro{b:Bool}{t e:Prop}(a:b=true→t)(c:b=false→e):CondP b t e:=by cases b;exact c rfl;exact a rfl
theorem ao{t e:Prop}:CondP true t e↔t:=Iff.rfl
theorem al{t e:Prop}:CondP false t e↔e:=Iff.rfl
attribute [irreducible] CondP
def At(h:ac)(k:ac→Prop):Prop:=k h
def Bd{T:Type}(x:T)(k:T→Prop):Prop:=k x
structure Join{T:Type}(rest:T→ac→Prop)(k:(T→ac→Prop)→Prop):Prop where
 run:k rest
structure LoopP{T:Type}(F:(T→ac→Prop)→T→ac→Prop)(t:T)(h:ac):Prop where
 run:∀I:T→ac→Prop,(∀t h,F I t h→I t h)→I t h
abbrev be:=List (Nat×Value)
noncomputable def fo(r:be)(t:Nat):Option Value:=
 cO (motive:=fun _=>Option Value) none (fun a _ b=>bif aI a.1 t then some a.2 else b) r
theorem sN(k:Nat)(v:Value)(r:be)(t:Nat):fo ((k,v)::r) t=bif aI k t then some v else fo r t:=rfl
noncomputable def bI(r:be):Operand→Option Value
 | .tmp t=>fo r t
 | .const v=>some v
 | .global g=>some (.pointer (some ⟨g,0,none⟩))
 | .func f=>some (.func (.func f) #[] #[])
noncomputable def hG(r:be):List Operand→Option (List Value)
 | []=>some []
 |o::os=>match bI r o,hG r os with
  |some v,some vs=>some (v::vs)
  |_,_=>none
noncomputable def vC:List CK→Nat→Addr→ac→(List Value→Prop)→Prop
 | [],_,_,_,k=>k []
 |c::cs,i,a,h,k=>∃x:c.den,aP h (adr a i)=some (c.enc x)∧vC cs (i+1) a h fun vs=>k (c.enc x::vs)
noncomputable def ll:List Value→Nat→Addr→ac→Prop
 | [],_,_,_=>True
 | [v],i,a,h=>aP h (adr a i)=some v
 |v::u::vs,i,a,h=>aP h (adr a i)=some v∧ll (u::vs) (i+1) a h
abbrev RK:=Value→Option (ac→Prop)→Prop
noncomputable def wp(P:Program)(t:TypeId)(v:Value)(K:RK)(h:ac):Prop:=
 match v with
 | .pointer (some a)=>
  match sY P t with
  |some (.c c)=>∃x:c.den,aP h a=some (c.enc x)∧K (c.enc x) (some fun b=>aP b a=some (c.enc x))
  |some (.agg cs)=>vC cs 0 a h fun vs=>K (.agg vs.toArray) (some fun b=>ll vs 0 a b)
  |none=>False
 |_=>False
def ns(P:Program)(t:TypeId)(f:Nat):Option (TypeId×Nat):=
 match P.underlying t with
 |some (.struct fs)=>match fs.toList[f]? with
  |some g=>some (g.type,g.offset)
  |none=>none
 |_=>none
def mN(P:Program)(t:TypeId):Option TypeId:=
 match P.underlying t with
 |some (.slice e)=>some e
 |_=>none
def xz(c:BinOp)(k:IntKind)(a b:Int)(K:RK):Prop:=
 match c with
 | .shl=>0≤b∧K (.int k (k.wrap (a*2^(min b.toNat k.bits)))) none
 | .shr=>0≤b∧K (.int k (a.fdiv (2^(min b.toNat k.bits)))) none
 |_=>False
def Du(c:BinOp)(k:IntKind)(a b:Int)(K:RK):Prop:=
 match c with
 | .add=>K (.int k (k.wrap (a+b))) none
 | .sub=>K (.int k (k.wrap (a-b))) none
 | .mul=>K (.int k (k.wrap (a*b))) none
 | .quo=>b≠0∧K (.int k (k.wrap (a.tdiv b))) none
 | .rem=>b≠0∧K (.int k (a.tmod b)) none
 | .and=>K (.int k (k.wrap (ad k.bits a&&&ad k.bits b).toNat)) none
 | .or=>K (.int k (k.wrap (ad k.bits a|||ad k.bits b).toNat)) none
 | .xor=>K (.int k (k.wrap (ad k.bits a^^^ad k.bits b).toNat)) none
 | .andNot=>K (.int k (k.wrap (ad k.bits a&&& ~~~ad k.bits b).toNat)) none
 | .eql=>K (.bool (a==b)) none
 | .neq=>K (.bool (a !=b)) none
 | .lss=>K (.bool (decide (a<b))) none
 | .leq=>K (.bool (decide (a≤b))) none
 | .gtr=>K (.bool (decide (a>b))) none
 | .geq=>K (.bool (decide (a≥b))) none
 |_=>False
def De(c:BinOp)(a b:ByteArray)(K:RK):Prop:=
 match c with
 | .add=>((a.size+b.size:Nat):Int)≤9223372036854775807∧K (.string (a++b)) none
 | .eql=>K (.bool (a.toList==b.toList)) none
 | .neq=>K (.bool (!(a.toList==b.toList))) none
 | .lss=>K (.bool (Op.bytesLess a.toList b.toList)) none
 | .leq=>K (.bool (Op.bytesLess a.toList b.toList||a.toList==b.toList)) none
 | .gtr=>K (.bool (!(Op.bytesLess a.toList b.toList||a.toList==b.toList))) none
 | .geq=>K (.bool (!(Op.bytesLess a.toList b.toList))) none
 |_=>False
def cq(h:ac)(a:Addr):Prop:=(∃c e,h[a.block]? =some (.cells c e (0,0))∧0<c.size)
def Cv(P:Program)(t:TypeId)(neg:Bool)(x y:Value)(K:RK):Prop:=
 match P.underlying t,x,y with
 |some (.pointer _),.pointer a,.pointer none=>K (.bool (bif neg then !a.isNone else a.isNone)) none
 |some (.map _ _),.map a,.map none=>K (.bool (bif neg then !a.isNone else a.isNone)) none
 |some (.slice _),.slice a _ _,.slice none _ _=>K (.bool (bif neg then !a.isNone else a.isNone)) none
 |_,_,_=>False
def Dt:Operand→Bool
 | .const (.pointer none)=>true
 | .const (.map none)=>true
 | .const (.slice none 0 0)=>true
 |_=>false
def C1(P:Program)(t:TypeId)(neg:Bool)(x y:Value)(K:RK)(h:ac):Prop:=
 match P.underlying t,x,y with
 |some .bool,.bool a,.bool b=>K (.bool (bif neg then !(a==b)else a==b)) none
 |some (.pointer e),.pointer a,.pointer b=>
  (bif aI (aO P e) 0 then False else True)∧
  (∀x y,a=some x→b=some y→cq h x∧cq h y)∧
  K (.bool (bif neg then !(a==b)else a==b)) (some fun c=>∀x y,a=some x→b=some y→cq c x∧cq c y)
 |_,_,_=>False
def Dl(P:Program)(c:BinOp)(t:TypeId)(x y:Value)(K:RK)(h:ac):Prop:=
 match x,y with
 | .int k a,.int k' b=>
  match c with
  | .shl=>xz .shl k a b K
  | .shr=>xz .shr k a b K
  |c=>bif vx k' k then Du c k a b K else False
 | .string a,.string b=>De c a b K
 |x,y=>match c with
  | .eql=>C1 P t false x y K h
  | .neq=>C1 P t true x y K h
  |_=>False
def ki(h:ac):List (Option Addr×Option Addr)→Prop
 | []=>True
 |(a,b)::l=>(∀x y,a=some x→b=some y→cq h x∧cq h y)∧ki h l
def Bo(P:Program)(t:TypeId)(x y:Value):Option (Bool×List (Option Addr×Option Addr)):=
 match P.underlying t,x,y with
 |some (.int _),.int k a,.int k' b=>bif vx k' k then some (a==b,[])else none
 |some .bool,.bool a,.bool b=>some (a==b,[])
 |some .string,.string a,.string b=>some (a.toList==b.toList,[])
 |some (.pointer e),.pointer a,.pointer b=>bif aI (aO P e) 0 then none else some (a==b,[(a,b)])
 |_,_,_=>none
def CG(P:Program)(rec:TypeId→List Value→List Value→Option (Bool×List (Option Addr×Option Addr)))(xs ys:List Value):List Field→Option (Bool×List (Option Addr×Option Addr))
 | []=>some (true,[])
 |f::fs=>
  if f.name= "_" then none else
  bif (P.underlying f.type).isSome&&(P.info? f.type).isSome then
   match(bif mI P f.type then rec f.type ((xs.drop f.offset).take (aO P f.type)) ((ys.drop f.offset).take (aO P f.type))
    else match xs[f.offset]?,ys[f.offset]? with|some x,some y=>Bo P f.type x y|_,_=>none),CG P rec xs ys fs with
   |some (b,l),some (c,m)=>some (b&&c,l++m)
   |_,_=>none
  else none
def Bp(P:Program):Nat→TypeId→List Value→List Value→Option (Bool×List (Option Addr×Option Addr))
 |0,_,_,_=>none
 |d+1,t,xs,ys=>match P.underlying t with
  |some (.struct fs)=>bif P.stoodInHeld t then none else CG P (Bp P d) xs ys fs.toList
  |_=>none
def EY(neg b:Bool)(K:RK)(h:ac):List (Option Addr×Option Addr)→Prop
 | []=>K (.bool (bif neg then !b else b)) none
 |p::l=>ki h (p::l)∧K (.bool (bif neg then !b else b)) (some fun a=>ki a (p::l))
def Dm(P:Program)(a:BinOp)(t:TypeId)(xs ys:List Value)(K:RK)(h:ac):Prop:=
 bif P.eqGuardType P.depth t then False else
 match a with
 | .eql=>(match Bp P 10 t xs ys with|some (b,l)=>EY false b K h l|none=>False)
 | .neq=>(match Bp P 10 t xs ys with|some (b,l)=>EY true b K h l|none=>False)
 |_=>False
def EK(a:UnOp)(x:Value)(K:RK):Prop:=
 match a,x with
 | .neg,.int k n=>K (.int k (k.wrap (0-n))) none
 | .xor,.int k n=>K (.int k (k.wrap (ad k.bits (if k.signed then-1 else k.max)^^^ad k.bits n).toNat)) none
 | .not,.bool b=>K (.bool (!b)) none
 |_,_=>False
def cN(s:ByteArray):List Value:=s.data.toList.map fun b=>.int .u8 b.toNat
noncomputable def Row(h:ac)(a:Addr)(vs:List Value):Prop:=∀i v,vs[i]? =some v→aP h (adr a i)=some v
noncomputable def SRow(h:ac)(a:Option Addr)(n:Nat)(vs:List Value):Prop:=vs.length=n∧(vs= []∨∃b,a=some b∧Row h b vs)
def ye(P:Program)(e:TypeId):Bool:=match P.underlying e with|some (.int .u8)=>true|_=>false
def Ds(P:Program)(s d:TypeId):Bool:=
 match P.underlying s,P.underlying d with
 |some .string,some (.slice e)=>ye P e
 |_,_=>false
def ByP(e:TypeId)(s:ByteArray)(h:ac)(K:Nat→ac→Prop):Prop:=
 ∀c,s.size≤c→K c (h.push (.cells (cN s++eu (c-s.size) (Value.int .u8 0)).toArray e (c,c+1)))
noncomputable def AW(P:Program)(b c:TypeId)(x:Value)(K:RK)(h:ac):Prop:=
 match P.underlying b,P.underlying c,x with
 |some (.int _),some (.int k),.int _ n=>K (.int k (k.wrap n)) none
 |some .string,some .string,.string s=>K (.string s) none
 |some (.slice e),some .string,.slice a n _=>bif ye P e then∃s:ByteArray,SRow h a n (cN s)∧K (.string s) (some fun d=>SRow d a n (cN s))else False
 |_,_,_=>False
def BS(v:Option Value)(d y:Nat)(K:Nat→Prop):Prop:=
 match v with
 |none=>K d
 |some (.int _ i)=>(0≤i∧i≤y)∧K i.toNat
 |_=>False
noncomputable def aF(a:Option Addr)(l m size:Nat):Option Addr:=if m=l then a else a.map (adr · (l*size))
def A7(P:Program)(t:TypeId)(K:Prop):Prop:=match P.info? t with|some _=>K|none=>False
noncomputable def xJ(P:Program)(t:TypeId)(x:Value)(lo b c:Option Value)(K:RK):Prop:=
 match P.underlying t,x with
 |some .string,.string s=>match c with
  |some _=>False
  |none=>BS b s.size s.size fun h=>BS lo 0 h fun l=>K (.string (s.extract l h)) none
 |some (.slice e),.slice a len cap=>A7 P e (
  match c with
  |none=>BS b len cap fun h=>BS lo 0 h fun l=>K (.slice (aF a l cap (aO P e)) (h-l) (cap-l)) none
  |some m=>match b with
   |none=>False
   |some b=>BS (some m) 0 cap fun m=>BS (some b) 0 m fun h=>BS lo 0 h fun l=>K (.slice (aF a l m (aO P e)) (h-l) (m-l)) none)
 |some (.array n e),.pointer (some a)=>A7 P e (
  match c with
  |none=>BS b n n fun h=>BS lo 0 h fun l=>K (.slice (aF (some a) l n (aO P e)) (h-l) (n-l)) none
  |some _=>False)
 |_,_=>False
noncomputable def uF(r:be):Option Operand→Option (Option Value)
 |none=>some none
 |some o=>match bI r o with
  |some v=>some (some v)
  |none=>none
noncomputable def oJ(P:Program)(t:TypeId)(x i:Value)(K:RK):Prop:=
 match P.underlying t,x,i with
 |some (.array n e),.pointer (some a),.int _ i=>A7 P e ((0≤i∧i<n)∧K (.pointer (some (adr a (i.toNat*aO P e)))) none)
 |some (.slice e),.slice b len _,.int _ i=>A7 P e ((0≤i∧i<len)∧∃a,b=some a∧K (.pointer (some (adr a (i.toNat*aO P e)))) none)
 |_,_,_=>False
def xL(P:Program)(t:TypeId)(x i:Value)(K:RK):Prop:=
 match P.underlying t,x,i with
 |some .string,.string s,.int _ i=>∃b:UInt8,0≤i∧s[i.toNat]? =some b∧K (.int .u8 b.toNat) none
 |_,_,_=>False
noncomputable def xM(P:Program)(t:TypeId)(x:Value)(f:Nat)(K:RK):Prop:=
 match ns P t f,x with
 |some (u,off),.agg cs=>bif (P.underlying u).isSome&&(P.info? u).isSome then(bif mI P u then K (.agg ((cs.toList.drop off).take (aO P u)).toArray) none
  else(match cs.toList[off]? with|some v=>K v none|none=>False))else False
 |_,_=>False
def CX(c a b:Value)(K:RK):Prop:=
 match c with
 | .bool c=>(match a,b with
  | .bool x,.bool y=>K (.bool (bif c then x else y)) none
  |_,_=>(match c with|true=>K a none|false=>K b none))
 |_=>False
def dI:Value→Value→Bool
 | .int _ a,.int _ b=>a==b
 | .string a,.string b=>a==b
 | .bool a,.bool b=>a==b
 |_,_=>false
def wP(k:Value):List MapEntry→Option Value
 | []=>none
 |e::es=>if dI k e.key then some e.val else wP k es
def sZ(c:CK)(es:List MapEntry):Prop:=∀e∈es,∃x:c.den,e.key=c.enc x
def yD(c:CK)(z:Value)(h:ac)(m:Option Nat)(k v:Value)(a:Bool):Prop:=
 match m with
 |none=>v=z∧a=false
 |some r=>∃es clock,h[r]? =some (.map es clock)∧sZ c es.toList∧
  (match wP k es.toList with|some u=>v=u∧a=true|none=>v=z∧a=false)
def wH(P:Program)(t:TypeId):Option (CK×TypeId):=
 match P.underlying t with
 |some (.map k e)=>match P.underlying k with
  |some (.int i)=>some (.int i,e)
  |some .string=>some (.str,e)
  |some .bool=>some (.bool,e)
  |_=>none
 |_=>none
def vf(P:Program)(t:TypeId)(x k:Value)(d:Bool)(K:RK)(h:ac):Prop:=
 match wH P t,x with
 |some (c,e),.map m=>c.dec k fun _=>
  (match sY P e,nZ P e with
   |some ek,some z=>∃(y:ek.den) (b:Bool),yD c z h m k (ek.enc y) b∧
    K (bif d then .tuple #[ek.enc y,.bool b]else ek.enc y) (some fun a=>yD c z a m k (ek.enc y) b)
   |_,_=>False)
 |_,_=>False
def B2(h:ac)(m:Option Nat)(n:Nat):Prop:=
 match m with
 |none=>n=0
 |some r=>∃es clock,h[r]? =some (.map es clock)∧n=es.size
def zB(c:Bool)(h:ac)(m:Option Nat)(n:Nat):Prop:=
 match m with
 |none=>n=0
 |some r=>∃cap buf cl s q,h[r]? =some (.chan cap buf cl s q false)∧n=bif c then cap else buf.size
def Di(P:Program)(t:TypeId)(x:Value)(K:RK)(h:ac):Prop:=
 match P.underlying t,x with
 |some .string,.string s=>K (.int .i64 s.size) none
 |some (.array n _),_=>K (.int .i64 n) none
 |some (.slice _),.slice _ n _=>K (.int .i64 n) none
 |some (.map _ _),.map m=>∃n:Nat,B2 h m n∧K (.int .i64 n) (some fun a=>B2 a m n)
 |some (.chan _ _),.chan m=>∃n:Nat,zB false h m n∧K (.int .i64 n) (some fun a=>zB false a m n)
 |_,_=>False
def Dk(P:Program)(t:TypeId)(x:Value)(K:RK)(h:ac):Prop:=
 match P.underlying t,x with
 |some (.slice _),.slice _ _ n=>K (.int .i64 n) none
 |some (.chan _ _),.chan m=>∃n:Nat,zB true h m n∧K (.int .i64 n) (some fun a=>zB true a m n)
 |_,_=>False
def vt(c:Bool)(k:IntKind):Int→List Value→(Value→Prop)→Prop
 |a,[],f=>f (.int k a)
 |a,.int k' b::vs,f=>bif vx k' k then vt c k (bif c then(if b>a then b else a)else(if b<a then b else a)) vs f else False
 |_,_,_=>False
def rX(b:Bool)(vs:List Value)(f:Value→Prop):Prop:=
 match vs with
 | .int k a::vs=>vt b k a vs f
 |_=>False
def yE(h:ac)(i:Nat)(e:MapEntry):Prop:=
 ∃m since seen last stamp es,h[i]? =some (.mapIter (some m) since seen last)∧seen.back? =some stamp∧h[m]? =some (.map es last)∧es.find? (fun e=>e.born==stamp)=some e
def jC(P:Program)(t:TypeId):Bool:=match P.underlying t with|some (.interface _)=>false|some _=>true|none=>false
def y3(P:Program)(t:TypeId)(x:Value)(K:RK):Prop:=
 bif jC P t then(match sY P t with
  |some k=>∃y:k.den,x=.iface t (k.enc y)∧K (k.enc y) none
  |none=>False)else False
def ww(cs:List Value)(off:Nat)(vs:List Value):List Value:=cs.take off++vs++cs.drop (off+vs.length)
def rq(a:Nat→Option (Nat×Nat)):List Value→List (Nat×Value)→Option (List Value)
 |cs,[]=>some cs
 |cs,(i,v)::rest=>match a i with
  |none=>none
  |some (off,size)=>bif aI v.cells.toList.length size&&nR (off+v.cells.toList.length) cs.length then rq a (ww cs off v.cells.toList) rest else none
noncomputable def jB(r:be):List (Nat×Operand)→Option (List (Nat×Value))
 | []=>some []
 |(i,o)::ps=>match bI r o,jB r ps with
  |some v,some vs=>some ((i,v)::vs)
  |_,_=>none
def jL(P:Program)(t:TypeId):Option (List Value):=match nZ P t with|some z=>some z.cells.toList|none=>none
def cd(n:Nat)(z:List Value):List Value:=(eu n z).flatten
def nN(P:Program)(t:TypeId):Bool:=match P.info? t with|some _=>true|none=>false
def pR(P:Program):List Field→Bool
 | []=>true
 |f::fs=>bif nN P f.type then pR P fs else false
def xV(P:Program)(a:List Field)(i:Nat):Option (Nat×Nat):=match a[i]? with|some f=>some (f.offset,aO P f.type)|none=>none
def vG(P:Program)(t:TypeId)(a:List (Nat×Value)):Option (List Value):=
 match P.underlying t,jL P t with
 |some (.struct fs),some z=>bif pR P fs.toList then rq (xV P fs.toList) z a else none
 |some (.array _ e),some z=>bif nN P e then rq (fun i=>some (i*aO P e,aO P e)) z a else none
 |_,_=>none
noncomputable def qi(P:Program)(ek:Option (Kind×Kind))(o:Op)(r:be)(K:RK)(h:ac):Prop:=
 match o with
 | .entry it=>match bI r it,ek with
  |some (.pointer (some a)),some (kk,vk)=>a.off=0∧∃(e:MapEntry) (x:kk.den) (y:vk.den),yE h a.block e∧e.key=kk.enc x∧e.val=vk.enc y∧
    K (.tuple #[kk.enc x,vk.enc y]) (some fun g=>yE g a.block e)
  |_,_=>False
 | .move x| .assign x=>match bI r x with|some v=>K v none|none=>False
 | .load t a=>match bI r a with|some v=>wp P t v K h|none=>False
 | .nilCheck x=>match bI r x with|some (.pointer p)=>∃a,p=some a∧K (.pointer (some a)) none|_=>False
 | .binOp op t x y _=>match bI r x,bI r y with
  |some (.agg v),some (.agg u)=>Dm P op t v.toList u.toList K h
  |some v,some u=>(match op,Dt y with
   | .eql,true=>Cv P t false v u K
   | .neq,true=>Cv P t true v u K
   |op,_=>Dl P op t v u K h)
  |_,_=>False
 | .unOp op _ x=>match bI r x with|some v=>EK op v K|none=>False
 | .convert s d x=>match bI r x with|some v=>AW P s d v K h|none=>False
 | .pick c a b=>match bI r c,bI r a,bI r b with|some c,some a,some b=>CX c a b K|_,_,_=>False
 | .extract x i=>match bI r x with
  |some (.tuple vs)=>(match vs.toList[i]? with|some v=>K v none|none=>False)
  |_=>False
 | .fieldAddr t x f=>match bI r x,ns P t f with
  |some (.pointer (some a)),some (u,off)=>bif aI (aO P u) 0 then False else K (.pointer (some (adr a off))) none
  |_,_=>False
 | .field t x f=>match bI r x with|some v=>xM P t v f K|none=>False
 | .indexAddr t x i=>match bI r x,bI r i with|some v,some u=>oJ P t v u K|_,_=>False
 | .index t x i=>match bI r x,bI r i with|some v,some u=>xL P t v u K|_,_=>False
 | .slice t x lo hi mx=>match bI r x,uF r lo,uF r hi,uF r mx with
  |some v,some l,some g,some m=>xJ P t v l g m K
  |_,_,_,_=>False
 | .lookup t x k ok=>match bI r x,bI r k with|some v,some u=>vf P t v u ok K h|_,_=>False
 | .makeInterface t x=>match bI r x with|some v=>bif jC P t then K (.iface t v) none else False|none=>False
 | .typeAssert x _ t ok=>match bI r x with|some v=>bif ok then False else y3 P t v K|none=>False
 | .build t ps=>match jB r ps.toList with
  |some vs=>(match vG P t vs with|some cs=>K (.agg cs.toArray) none|none=>False)
  |none=>False
 | .makeFunc fn first cap=>match hG r first.toList,hG r cap.toList with
  |some vs,some us=>K (.func fn vs.toArray us.toArray) none
  |_,_=>False
 | .call c=>match c.callee,hG r c.args.toList,c.argTypes.toList with
  | .builtin .len,some [v],[t]=>Di P t v K h
  | .builtin .cap,some [v],[t]=>Dk P t v K h
  | .builtin .min,some vs,_=>rX false vs fun v=>K v none
  | .builtin .max,some vs,_=>rX true vs fun v=>K v none
  |_,_,_=>False
 |_=>False
abbrev WK:=Value→ac→Prop
def bN(h:ac):Addr:=⟨h.size,0,none⟩
def hnew(h:ac)(cs:List Value)(t:TypeId):ac:=h.push (.cells cs.toArray t (0,0))
def aY:List Value→Bool
 | []=>true
 |v::vs=>(match v with| .agg _=>false| .tuple _=>false|_=>true)&&aY vs
noncomputable def fX(h:ac)(a:Addr):Nat→List Value→ac
 |_,[]=>h
 |i,v::vs=>fX (hset h (adr a i) v) a (i+1) vs
noncomputable def cY(h:ac)(a:Option Addr)(i:Nat)(vs:List Value):ac:=match a with|some a=>fX h a i vs|none=>h
noncomputable def nO(h:ac)(a:Option Addr)(i:Nat)(vs:List Value):Prop:=vs= []∨∃b,a=some b∧∀j,j<vs.length→Wr h (adr b (i+j))
noncomputable def xn(P:Program)(t:TypeId)(a v:Value)(K:WK)(h:ac):Prop:=
 match a with
 | .pointer (some a)=>bif aI v.cells.toList.length (aO P t)&&aY v.cells.toList then A7 P t
   (match v.cells.toList with
    | [v]=>Wr h a∧K undef (hset h a v)
    |vs=>nO h (some a) 0 vs∧K undef (fX h a 0 vs))
  else False
 |_=>False
noncomputable def BV(P:Program)(e:TypeId)(a:Option Addr)(sl c b:Nat)(xs:List Value)(K:WK)(h:ac):Prop:=
 (sl+b≤c→nO h a (sl*aO P e) xs∧aY xs=true∧K (.slice a (sl+b) c) (cY h a (sl*aO P e) xs))∧
 (c<sl+b→∃old z,SRow h a (sl*aO P e) old∧jL P e=some z∧0<jQ P e∧Builtin.nextslicecap (sl+b) c*jQ P e≤2^48∧
  ∀nc,sl+b≤nc→K (.slice (some (bN h)) (sl+b) nc) (hnew h (old++xs++cd (nc-(sl+b)) z) e))
noncomputable def rU(P:Program)(t:TypeId)(s x:Value)(K:WK)(h:ac):Prop:=
 match mN P t,s,x with
 |some e,.slice b sl sc,.slice a xl _=>A7 P e (∃xs,SRow h a (xl*aO P e) xs∧BV P e b sl sc xl xs K h)
 |some e,.slice b sl sc,.string x=>bif aI (aO P e) 1 then BV P e b sl sc x.size (cN x) K h else False
 |_,_,_=>False
noncomputable def su(P:Program)(t:TypeId)(s x:Value)(K:WK)(h:ac):Prop:=
 match mN P t,s,x with
 |some e,.slice b sl sc,.int _ l=>(match jL P e with
  |some z=>bif aI z.length (aO P e)then(0≤l∧l*jQ P e≤2^48∧l≤9223372036854775807∧((sl+l.toNat:Nat):Int)≤9223372036854775807)∧BV P e b sl sc l.toNat (cd l.toNat z) K h else False
  |none=>False)
 |_,_,_=>False
noncomputable def xo(P:Program)(t:TypeId)(x:Value)(K:WK)(h:ac):Prop:=
 match mN P t,x with
 |some e,.slice a n _=>(match jL P e with
  |some z=>bif aY z then nO h a 0 (cd n z)∧K (.tuple #[]) (cY h a 0 (cd n z))else False
  |none=>False)
 |_,_=>False
noncomputable def AE(P:Program)(t:TypeId)(d s:Value)(K:WK)(h:ac):Prop:=
 match mN P t,d,s with
 |some e,.slice b dl _,.slice a sl _=>A7 P e (∃xs,SRow h a (bU sl dl*aO P e) xs∧nO h b 0 xs∧aY xs=true∧K (.int .i64 (bU sl dl)) (cY h b 0 xs))
 |some e,.slice b dl _,.string x=>bif aI (aO P e) 1 then nO h b 0 ((cN x).take dl)∧K (.int .i64 (bU x.size dl)) (cY h b 0 ((cN x).take dl))else False
 |_,_,_=>False
def xQ(k v:Value)(a:Nat):List MapEntry→List MapEntry×Nat
 | []=>([{key:=k,val:=v,born:=a}],a+1)
 |e::es=>if dI k e.key then({e with key:=k,val:=v}::es,a)else let r:=xQ k v a es;(e::r.1,r.2)
def wZ(k:Value):List MapEntry→List MapEntry
 | []=> []
 |e::es=>if dI k e.key then es else e::wZ k es
def zA(c:CK)(h:ac)(r:Nat):Prop:=∃es clock,h[r]? =some (.map es clock)∧sZ c es.toList
def Cx(h:ac)(r:Nat)(k v:Value):ac:=
 match h[r]? with
 |some (.map es clock)=>h.setIfInBounds r (.map (xQ k v clock es.toList).1.toArray (xQ k v clock es.toList).2)
 |_=>h
def zg(h:ac)(r:Nat)(k:Value):ac:=
 match h[r]? with
 |some (.map es clock)=>h.setIfInBounds r (.map (wZ k es.toList).toArray clock)
 |_=>h
def rT(P:Program)(t:TypeId)(m k v:Value)(K:WK)(h:ac):Prop:=
 match wH P t,m with
 |some (c,_),.map m=>c.dec k fun _=>∃r,m=some r∧zA c h r∧K undef (Cx h r k v)
 |_,_=>False
def sr(P:Program)(t:TypeId)(m k:Value)(K:WK)(h:ac):Prop:=
 match wH P t,m with
 |some (c,_),.map m=>c.dec k fun _=>(m=none∧K (.tuple #[]) h)∨(∃r,m=some r∧zA c h r∧K (.tuple #[]) (zg h r k))
 |_,_=>False
def AU(P:Program):List TypeId→Option (List Kind)
 | []=>some []
 |t::ts=>match sY P t,AU P ts with
  |some k,some ks=>some (k::ks)
  |_,_=>none
def AV(P:Program)(t:TypeId):Option (List Kind):=
 match P.underlying t with
 |some (.tuple ts)=>AU P ts.toList
 |_=>AU P [t]
noncomputable def CQ(P:Program)(f:Operand)(r:be)(args:List Value)(t:TypeId)(K:WK)(h:ac):Prop:=
 match AV P t with
 |none=>False
 |some ks=>match f with
  | .func f=>HC P f args ks (fun x a=>K (rE ks (gK ks x)) a) h
  |f=>match bI r f with
   |some fv=>HV P fv args ks (fun x a=>K (rE ks (gK ks x)) a) h
   |none=>False
def AD(b:Value)(K:WK)(h:ac):Prop:=
 match b with
 | .pointer (some a)=>a.off=0∧
  ∃m since seen last,h[a.block]? =some (.mapIter m since seen last)∧
   ((m=none∧K (.tuple #[.bool false]) h)∨
    (∃r es clock,m=some r∧h[r]? =some (.map es clock)∧(seen.isEmpty=true∨es.isEmpty=true∨es.all (fun e=>decide (e.born≥last))=false)∧
     ((∀e∈es.toList,e.born<since→seen.contains e.born=true)→K (.tuple #[.bool false]) h)∧
     (∀e∈es.toList,seen.contains e.born=false→K (.tuple #[.bool true,e.key,e.val]) (h.setIfInBounds a.block (.mapIter (some r) since (seen.push e.born) clock)))))
 |_=>False
noncomputable def tX(P:Program)(o:Oper)(r:be)(K:WK)(h:ac):Prop:=
 match o.op with
 | .alloc t=>(match jL P t with|some z=>K (.pointer (some (bN h))) (hnew h z t)|none=>False)
 | .box t x=>(match bI r x with|some v=>K (.pointer (some (bN h))) (hnew h v.cells.toList t)|none=>False)
 | .build t ps=>(match jB r ps.toList with
  |some vs=>(match vG P t vs with|some cs=>K (.agg cs.toArray) h|none=>False)
  |none=>False)
 | .buildSlice t n ps=>(match mN P t,jB r ps.toList with
  |some e,some vs=>(match jL P e with
   |some z=>bif nR (n*aO P e) 16777216&&aI z.length (aO P e)then
     (match rq (fun i=>some (i*aO P e,aO P e)) (cd n z) vs with|some cs=>K (.slice (some (bN h)) n n) (hnew h cs e)|none=>False)
    else False
   |none=>False)
  |_,_=>False)
 | .store t a x=>(match bI r a,bI r x with|some a,some v=>xn P t a v K h|_,_=>False)
 | .mapUpdate t m k x=>(match bI r m,bI r k,bI r x with|some m,some k,some v=>rT P t m k v K h|_,_,_=>False)
 | .insert t m k x=>(match bI r m,bI r k,bI r x with|some m,some k,some v=>rT P t m k v K h|_,_,_=>False)
 | .makeMap t n=>(match n with
  |none=>K (.map (some h.size)) (h.push (.map #[] 0))
  |some n=>(match bI r n,P.underlying t with|some (.int _ _),some (.map _ _)=>K (.map (some h.size)) (h.push (.map #[] 0))|_,_=>False))
 | .makeSlice t l c=>(match mN P t,bI r l,bI r c with
  |some e,some (.int _ l),some (.int _ c)=>(match jL P e with
   |some z=>bif aI z.length (aO P e)then(0≤l∧l≤c∧c≤9223372036854775807∧jQ P e*c≤2^48)∧K (.slice (some (bN h)) l.toNat c.toNat) (hnew h (cd c.toNat z) e)else False
   |none=>False)
  |_,_,_=>False)
 | .convert s d x=>(match P.underlying s,P.underlying d,bI r x with
  |some .string,some (.slice e),some (.string v)=>bif ye P e then ByP e v h (fun c b=>K (.slice (some (bN h)) v.size c) b)else False
  |_,_,_=>False)
 | .range t x=>(match P.underlying t,bI r x with
  |some (.map _ _),some (.map m)=>∃clock,(m=none∧clock=0∨∃r es,m=some r∧h[r]? =some (.map es clock))∧K (.pointer (some (bN h))) (h.push (.mapIter m clock #[] clock))
  |_,_=>False)
 | .next it false=>(match bI r it with|some it=>AD it K h|none=>False)
 | .call c=>(match c.callee,hG r c.args.toList with
  | .builtin .append,some [s,x]=>(match c.argTypes.toList with| [t,u]=>(match P.underlying u with|some (.slice _)=>rU P t s x K h|some .string=>rU P t s x K h|some (.int _)=>su P t s x K h|_=>False)|_=>False)
  | .builtin .clear,some [x]=>(match c.argTypes.toList with| [t]=>xo P t x K h|_=>False)
  | .builtin .copy,some [d,s]=>(match c.argTypes.toList with| [t,_]=>AE P t d s K h|_=>False)
  | .builtin .delete,some [m,k]=>(match c.argTypes.toList with| [t,_]=>sr P t m k K h|_=>False)
  | .value f,some args=>CQ P f r args o.type K h
  |_,_=>False)
 |_=>False
def mO(P:Program):Op→Bool
 | .convert s d _=> !Ds P s d
 | .alloc _| .box .. | .buildSlice .. | .store .. | .mapUpdate .. | .insert .. | .makeMap .. | .makeSlice .. | .range .. | .next .. =>false
 | .call c=>match c.callee with
  | .builtin .len| .builtin .cap| .builtin .min| .builtin .max=>true
  |_=>false
 |_=>true
def oX(N:Nat)(o:Oper)(v:Value)(r:be)(K:be→Prop):Prop:=
 match o.dst with
 |none=>K r
 |some d=>bif nQ d N then K ((d,v)::r)else False
noncomputable def DW(P:Program)(N:Nat)(ek:Option (Kind×Kind))(o:Oper)(r:be)(K:be→ac→Prop)(h:ac):Prop:=
 bif mO P o.op then qi P ek o.op r (fun v _=>oX N o v r fun a=>K a h) h
 else tX P o r (fun v b=>oX N o v r fun a=>K a b) h
inductive DV where
 |f|t|u|x
abbrev mh:=List (Nat×DV)
noncomputable def jZ(d:mh)(t:Nat):DV:=
 cO (motive:=fun _=>DV) .x (fun a _ b=>bif aI a.1 t then a.2 else b) d
noncomputable def pL(d:mh):Operand→DV
 | .tmp t=>jZ d t
 | .const (.bool true)=>.t
 | .const (.bool false)=>.f
 |_=>.x
noncomputable def vS(d:mh):Op→DV
 | .move x=>pL d x
 | .assign x=>pL d x
 | .pick c a b=>match pL d c with
  | .t=>pL d a
  | .f=>pL d b
  |_=>.x
 | .unOp .not _ x=>match pL d x with
  | .t=>.f
  | .f=>.t
  |_=>.x
 |_=>.x
def j8(d:mh)(o:Oper)(v:DV):mh:=match o.dst with|some t=>(t,v)::d|none=>d
noncomputable def ez(ops:List Oper)(d:mh)(o:Oper):Option Bool:=
 match o.guard with
 |none=>some true
 |some (j,want)=>match ops[j]? with
  |none=>none
  |some oj=>match oj.dst with
   |none=>none
   |some t=>match jZ d t with
    | .t=>some want
    | .f=>some (!want)
    | .u=>some false
    | .x=>none
def te(ops:List Oper)(o:Oper):Option Nat:=
 match o.guard with
 |none=>none
 |some (j,_)=>match ops[j]? with
  |none=>none
  |some oj=>oj.dst
noncomputable def uw(P:Program)(N:Nat)(ek:Option (Kind×Kind))(ops:List Oper)(o:Oper)(d:mh)(r:be)(h:ac)(K:mh→be→ac→Prop):Prop:=
 match ez ops d o with
 |some true=>DW P N ek o r (K (j8 d o (vS d o.op))) h
 |some false=>oX N o undef r fun a=>K (j8 d o .u) a h
 |none=>False
noncomputable def sK(P:Program)(N:Nat)(ek:Option (Kind×Kind))(ops:List Oper)(l:List Oper):mh→(be→ac→Prop)→be→ac→Prop:=
 cO (motive:=fun _=>mh→(be→ac→Prop)→be→ac→Prop) (fun _ K r h=>K r h)
  (fun o _ e d K r h=>
  match ez ops d o with
  |some true=>DW P N ek o r (fun a c=>e (j8 d o (vS d o.op)) K a c) h
  |some false=>oX N o undef r fun a=>e (j8 d o .u) K a h
  |none=>match te ops o with
   |none=>False
   |some t=>match fo r t with
    |some (.bool b)=>CondP b
     (uw P N ek ops o ((t,.t)::d) ((t,.bool true)::r) h fun f a c=>e f K a c)
     (uw P N ek ops o ((t,.f)::d) ((t,.bool false)::r) h fun f a c=>e f K a c)
    |_=>False) l
inductive DA where
 |done
 |take (i:Nat) (rest:DA)
 |all (l:DA)
 |pick (i:Nat) (rest more:DA)
 |last (i:Nat) (rest:DA)
 |lastT (i:Nat) (rest:DA)
 |split (t:Nat) (yes no:DA)
abbrev jR:=List (Nat×(ac→Prop))
def tb(m i:Nat):Bool:=aI (eR (Nat.shiftRight m i) 1) 1
def dC(i:Nat):Nat:=Nat.pow 2 i
inductive DM where
 |mk (am fr lk ds:Nat)
def DM.am:DM→Nat| .mk a _ _ _=>a
def DM.fr:DM→Nat| .mk _ f _ _=>f
def DM.lk:DM→Nat| .mk _ _ l _=>l
def DM.ds:DM→Nat| .mk _ _ _ d=>d
def eA(o:Oper)(i:Nat):Bool:=o.after.toList.any fun e=>aI e.on i&&Region.binds .any e
noncomputable def gy(l:List Edge):Nat:=
 cO (motive:=fun _=>Nat) 0 (fun e _ a=>bif Region.binds .any e then bo (dC e.on) a else a) l
noncomputable def gb(l:List Operand):Nat:=
 cO (motive:=fun _=>Nat) 0 (fun o _ a=>match o with| .tmp t=>bo (dC t) a|_=>a) l
def g6(o:Oper):Nat:=match o.dst with|some d=>dC d|none=>0
noncomputable def ik(ops:List Oper)(o:Oper):Nat:=
 bo (gb o.op.operands.toList) (match o.guard with
  |some (g,_)=>(match ops[g]? with|some og=>g6 og|none=>0)
  |none=>0)
noncomputable def nf(ops:List Oper)(l:List Oper):List DM→Bool:=
 cO (motive:=fun _=>List DM→Bool) (fun ms=>match ms with| []=>true|_=>false)
  (fun o _ a ms=>match ms with
   |m::ms=>aI (gy o.after.toList) m.am&&aI (ik ops o) m.lk&&aI (g6 o) m.ds&&a ms
   | []=>false) l
def qL(x y:DM):Bool:=aI (eR x.ds (bo y.lk y.ds)) 0&&aI (eR y.ds x.lk) 0
noncomputable def uL(i:Nat)(m:DM)(l:List DM):Nat→Bool:=
 cO (motive:=fun _=>Nat→Bool) (fun _=>true)
  (fun n _ a j=>(!(tb m.fr j)||aI j i||tb n.am i||qL m n)&&a (cV j)) l
noncomputable def pF(a:List DM)(l:List DM):Nat→Bool:=
 cO (motive:=fun _=>Nat→Bool) (fun _=>true) (fun m _ b i=>uL i m a 0&&b (cV i)) l
def wE:List Oper→Bool
 | []=>true
 |o::os=>(match o.op with| .select .. =>false| .defer _=>false|_=>true)&&wE os
noncomputable def rY(ops:List Oper)(ms:List DM):Bool:=nf ops ops ms&&pF ms ms 0&&wE ops
def iy(o:Oper):jR→jR
 | []=> []
 |(k,S)::l=>bif eA o k then iy o l else(k,S)::iy o l
def ko:jR→ac→Prop→Prop
 | [],_,R=>R
 |(_,S)::l,h,R=>S h∧ko l h R
def vR(m:DM)(ls:Nat):Bool:=aI (eR m.am ls) m.am
noncomputable def gf(ls:Nat)(l:List DM):Nat→List Nat:=
 cO (motive:=fun _=>Nat→List Nat) (fun _=> []) (fun m _ a j=>bif !(tb ls j)&&vR m ls then j::a (cV j)else a (cV j)) l
def sD(m:DM)(i ls n:Nat):Bool:= !(tb ls i)&&vR m ls&&aI (eR (bo ls m.fr) (nH (dC n))) (nH (dC n))
def mz:List Nat→List Nat→Bool
 | [],[]=>true
 |a::as,b::bs=>aI a b&&mz as bs
 |_,_=>false
def qB:DA→List Nat
 | .pick i _ l=>i::qB l
 | .last i _=> [i]
 | .lastT i _=> [i]
 |_=> []
noncomputable def zJ(P:Program)(N:Nat)(ops:List Oper)(i:Nat)(L:jR)(d:mh)(r:be)(h:ac)(K:jR→mh→be→ac→Prop):Prop:=
 match ops[i]? with
 |none=>False
 |some o=>match ez ops d o with
  |some true=>bif mO P o.op then qi P none o.op r (fun v _=>oX N o v r fun a=>ko (iy o L) h (K (iy o L) (j8 d o .x) a h)) h else tX P o r (fun v b=>oX N o v r fun a=>ko (iy o L) b (K (iy o L) (j8 d o .x) a b)) h
  |_=>False
noncomputable def upM(m:Nat)(l:List DM):Nat→Nat:=
 cO (motive:=fun _=>Nat→Nat) (fun _=>m) (fun n _ a j=>bif tb m j then bo n.am (a (cV j))else a (cV j)) l
noncomputable def pM(ms:List DM)(m:Nat):Nat:=upM (upM (upM (upM m ms 0) ms 0) ms 0) ms 0
def vL(ms:List DM)(i:Nat):Nat:=match ms[i]? with|some m=>m.am|none=>0
def pu(m:Nat):jR→jR
 | []=> []
 |(k,S)::l=>bif tb m k then pu m l else(k,S)::pu m l
noncomputable def y2(P:Program)(N:Nat)(ops:List Oper)(ms:List DM)(i:Nat)(L:jR)(d:mh)(r:be)(h:ac)(K:jR→mh→be→ac→Prop):Prop:=
 match ops[i]? with
 |none=>False
 |some o=>match ez ops d o with
  |some true=>bif mO P o.op then False else tX P o r (fun v a=>oX N o v r fun b=>ko (pu (pM ms (vL ms i)) L) a (K (pu (pM ms (vL ms i)) L) (j8 d o .x) b a)) h
  |_=>False
noncomputable def gR(P:Program)(N:Nat)(ops:List Oper)(ms:List DM)(n:DA):Bool→Nat→jR→mh→(be→ac→Prop)→be→ac→Prop:=
 DA.rec (motive:=fun _=>Bool→Nat→jR→mh→(be→ac→Prop)→be→ac→Prop)
  (fun m ls _ _ K r h=>bif !m&&mz (gf ls ms 0) []then K r h else False)
  (fun i _ c m ls L d K r h=>
   match ops[i]?,ms[i]? with
   |some o,some mi=>bif !m&&sD mi i ls ops.length then
     (match ez ops d o with
      |none=>False
      |some false=>oX N o undef r fun a=>c false (bo ls (dC i)) L (j8 d o .u) K a h
      |some true=>bif mO P o.op then
       qi P none o.op r (fun v S=>oX N o v r fun a=>match S with
        |none=>c false (bo ls (dC i)) L (j8 d o (vS d o.op)) K a h
        |some S=>c false (bo ls (dC i)) ((i,S)::L) (j8 d o (vS d o.op)) K a h) h
       else False)
    else False
   |_,_=>False)
  (fun l c m ls L d K r h=>bif !m&&mz (gf ls ms 0) (qB l)then c true ls L d K r h else False)
  (fun i _ _ f e m ls L d K r h=>bif m then zJ P N ops i L d r h (fun k g a j=>f false (bo ls (dC i)) k g K a j)∧e true ls L d K r h else False)
  (fun i _ c m ls L d K r h=>bif m then zJ P N ops i L d r h (fun k g a j=>c false (bo ls (dC i)) k g K a j)else False)
  (fun i _ c m ls L d K r h=>bif m then y2 P N ops ms i L d r h (fun k g a j=>c false (bo ls (dC i)) k g K a j)else False)
  (fun t _ _ f e m ls L d K r h=>
   bif m then False else match fo r t with
   |some (.bool b)=>CondP b (f false ls L ((t,.t)::d) K ((t,.bool true)::r) h) (e false ls L ((t,.f)::d) K ((t,.bool false)::r) h)
   |_=>False)
  n
noncomputable def EW(b:Oper)(i:Nat)(ds lk:Nat)(ops:List Oper)(l:List Oper):Nat→Nat:=
 cO (motive:=fun _=>Nat→Nat) (fun _=>0) (fun p _ a j=>bif (aI j i||eA p i||(aI (eR ds (bo (ik ops p) (g6 p))) 0&&aI (eR (g6 p) lk) 0))then bo (dC j) (a (cV j))else a (cV j)) l
noncomputable def EM(ops:List Oper)(l:List Oper):Nat→List DM:=
 cO (motive:=fun _=>Nat→List DM) (fun _=> []) (fun o _ a i=>.mk (gy o.after.toList) (EW o i (g6 o) (ik ops o) ops ops 0) (ik ops o) (g6 o)::a (cV i)) l
def D3(P:Program)(w:Option Bool)(o:Oper):Bool:=match w with|some false=>true|some true=>mO P o.op|none=>false
noncomputable def Dy(P:Program)(ops:List Oper)(d:mh)(ls n:Nat)(l:List Oper):List DM→Nat→Option (Nat×Oper):=
 cO (motive:=fun _=>List DM→Nat→Option (Nat×Oper)) (fun _ _=>none)
  (fun o _ a ms j=>match ms with
   | []=>none
   |m::ms=>bif sD m j ls n&&D3 P (ez ops d o) o then some (j,o)else a ms (cV j)) l
noncomputable def Dz(ops:List Oper)(d:mh)(ls:Nat)(l:List Oper):List DM→Nat→Option Nat:=
 cO (motive:=fun _=>List DM→Nat→Option Nat) (fun _ _=>none)
  (fun o _ a ms j=>match ms with
   | []=>none
   |m::ms=>match bif !(tb ls j)&&vR m ls then(match ez ops d o with|none=>te ops o|some _=>none)else none with
    |some t=>some t
    |none=>a ms (cV j)) l
noncomputable def Ef(ops:List Oper)(k:Nat→mh→DA)(ls:Nat)(d:mh)(l:List Nat):DA:=
 cO (motive:=fun _=>DA) .done (fun i a b=>match ops[i]? with
  |none=>.done
  |some o=>match a with
   | []=>.last i (k (bo ls (dC i)) (j8 d o .x))
   |_=>.pick i (k (bo ls (dC i)) (j8 d o .x)) b) l
noncomputable def DQ(P:Program)(ops:List Oper)(ms:List DM)(fuel:Nat):Nat→mh→DA:=
 Nat.rec (motive:=fun _=>Nat→mh→DA) (fun _ _=>.done) (fun _ a ls d=>
  match Dy P ops d ls ops.length ops ms 0 with
  |some (i,o)=>.take i (a (bo ls (dC i)) (match ez ops d o with|some false=>j8 d o .u|_=>j8 d o (vS d o.op)))
  |none=>match Dz ops d ls ops ms 0 with
   |some t=>.split t (a ls ((t,.t)::d)) (a ls ((t,.f)::d))
   |none=>match gf ls ms 0 with
    | []=>.done
    |l=>.all (Ef ops a ls d l)) fuel
noncomputable def za(ops:List Oper):List DM:=EM ops ops 0
inductive Ex where
 |exit (id:Nat)
 |ret
abbrev St:=List (Nat×Kind)
def oE:St→List Kind
 | []=> []
 |(_,k)::l=>k::oE l
noncomputable def sI(r:be):St→Option (List Value)
 | []=>some []
 |(i,_)::l=>match fo r i,sI r l with
  |some v,some vs=>some (v::vs)
  |_,_=>none
noncomputable def re(a:St)(r:be)(f:mo (oE a)→Prop):Prop:=
 match sI r a with
 |some vs=>rM (oE a) vs f
 |none=>False
def gZ:St→List Value→be→be
 |(i,_)::l,v::vs,r=>(i,v)::gZ l vs r
 |_,_,r=>r
noncomputable def zk(r:be)(l:List Nat):Option be:=
 cO (motive:=fun _=>Option be) (some []) (fun t _ a=>match fo r t,a with
  |some v,some l=>some ((t,v)::l)
  |_,_=>none) l
noncomputable def ga(t:Nat)(l:List Oper):Bool:=
 cO (motive:=fun _=>Bool) false (fun o _ a=>match o.dst with|some d=>bif aI d t then true else a|none=>a) l
noncomputable def dq(t:Nat)(c:Code):Bool:=
 Code.rec (motive:=fun _=>Bool) false (fun _ ops _=>ga t ops.toList) (fun _ _ a b=>bif a then true else b) (fun _ _ _ a b=>bif a then true else b)
  (fun _ _ b=>b) (fun _ b=>b) (fun _ _ _ _ _ _=>true) (fun _=>false) (fun _ b=>b) (fun _=>false) (fun _=>false) false (fun _=>false) c
inductive Ann where
 |nil
 |node (a b:Ann)
 |join (st:St) (a b:Ann)
 |loop (st:St) (b:Ann)
 |draw (d:DA)
 |kinds (k v:Kind)
 |reg (keep:List Nat) (inner:Ann)
 |rf (ks:List Kind) (a b:Ann)
def Ann.l:Ann→Ann
 | .node a _=>a
 | .rf _ a _=>a
 |_=>.nil
def Ann.r:Ann→Ann
 | .node _ b=>b
 | .rf _ _ b=>b
 |_=>.nil
noncomputable def AC(l:List Oper):Nat:=cO (motive:=fun _=>Nat) 0 (fun o _ a=>bo (g6 o) a) l
def Eg:Option Nat→Option Nat→Option Nat
 |some a,some b=>some (bo a b)
 |_,_=>none
noncomputable def oa(c:Code):Option Nat:=
 Code.rec (motive:=fun _=>Option Nat) (some 0) (fun _ ops _=>some (AC ops.toList)) (fun _ _ a b=>Eg a b) (fun _ _ _ a b=>Eg a b)
  (fun _ _ b=>b) (fun _ b=>b) (fun _ _ _ _ _ _=>none) (fun _=>some 0) (fun _ b=>b) (fun _=>some 0) (fun _=>some 0) (some 0) (fun _=>some 0) c
noncomputable def ni(m:Nat)(r:be):be:=cO (motive:=fun _=>be) [] (fun a _ b=>bif tb m a.1 then b else a::b) r
noncomputable def qp(P:Program)(N:Nat)(ops:List Oper)(b:Bool)(a:Ann)(Kn:be→ac→Prop)(r:be)(h:ac):Prop:=
 match b with
 |false=>(match a with
  | .kinds kk vk=>sK P N (some (kk,vk)) ops ops [] Kn r h
  |_=>sK P N none ops ops [] Kn r h)
 |true=>bif rY ops (za ops)then gR P N ops (za ops) (match a with| .draw da=>da|_=>DQ P ops (za ops) (Nat.add (Nat.add ops.length ops.length) 2) 0 []) false 0 [] [] Kn r h else False
noncomputable def fF(P:Program)(N:Nat)(c:Code):Ann→(be→ac→Prop)→(Ex→be→ac→Prop)→be→ac→Prop:=
 Code.rec (motive:=fun _=>Ann→(be→ac→Prop)→(Ex→be→ac→Prop)→be→ac→Prop)
  (fun _ Kn _ r h=>Kn r h)
  (fun _ ops q d Kn _ r h=>match d with
   | .reg keep d=>qp P N ops.toList q d (fun g f=>match zk g keep with|some r0=>Kn r0 f|none=>False) r h
   |d=>qp P N ops.toList q d Kn r h)
  (fun a _ j k d Kn Kx r h=>match d with
   | .join st aa ab=>(match oa a with
     |none=>False
     |some m=>Join (T:=mo (oE st)) (fun t f=>k ab Kn Kx (gZ st (gK (oE st) t) (ni m r)) f)
      fun J=>j aa (fun g f=>re st g fun t=>J t f) Kx r h)
   |d=>j d.l (fun g f=>k d.r Kn Kx g f) Kx r h)
  (fun c _ _ j k d Kn Kx r h=>match bI r c with
   |some (.bool t)=>CondP t (j d.l Kn Kx r h) (k d.r Kn Kx r h)
   |_=>False)
  (fun id _ o d Kn Kx r h=>o d Kn (fun e g f=>match e with
    | .exit i=>bif aI i id then Kn g f else Kx (.exit i) g f
    | .ret=>Kx .ret g f) r h)
  (fun b o d _ Kx r h=>match d with
   | .loop st ab=>(match oa b with
     |none=>False
     |some m=>re st r fun s=>LoopP (T:=mo (oE st)) (fun n t f=>o ab (fun g p=>re st g fun u=>n u p) Kx (gZ st (gK (oE st) t) (ni m r)) f) s h)
   |_=>False)
  (fun _ _ _ _ _ _ _ _ _ _ _=>False)
  (fun id _ _ Kx r h=>Kx (.exit id) r h)
  (fun _ _ _ _ _ _ _=>False)
  (fun _ _ Kn _ r h=>Kn r h)
  (fun _ _ _ _ _ _=>False)
  (fun _ _ Kx r h=>Kx .ret r h)
  (fun _ _ _ _ _ _=>False)
  c
noncomputable def g3(P:Program)(r:be)(h:ac):List ResultVar→(List Value→Prop)→Prop
 | [],K=>K []
 | .tmp t::l,K=>(match fo r t with|some v=>g3 P r h l fun vs=>K (v::vs)|none=>False)
 | .cell a t::l,K=>(match fo r a with
  |some v=>wp P t v (fun x _=>g3 P r h l fun vs=>K (x::vs)) h
  |none=>False)
def jy:Nat→List Value→be
 |_,[]=> []
 |i,v::vs=>(i,v)::jy (i+1) vs
noncomputable def ux(P:Program)(fn:Func)(c:Code)(b:Ann)(args:List Value)(ks:List Kind)(K:mo ks→ac→Prop)(h:ac):Prop:=
 fF P fn.ntmps c b
  (fun r a=>g3 P r a fn.results.toList fun vs=>rM ks vs fun t=>K t a)
  (fun e r a=>match e with
   | .ret=>g3 P r a fn.results.toList fun vs=>rM ks vs fun t=>K t a
   | .exit _=>False)
  (jy 0 args) h
def tx:List Oper→Option (Oper×Oper×Operand×Nat×FuncId×List Operand)
 | [m,o]=>match m.op,m.guard,m.dst,o.op,o.dst,o.guard with
  | .move x,none,some d,.defer c,none,none=>(match c.callee with
   | .value (.func f)=>some (m,o,x,d,f,c.args.toList)
   |_=>none)
  |_,_,_,_,_,_=>none
 |_=>none
inductive Mk where
 |it (n:Nat)
 |call (f:FuncId) (vs:List Value)
def HD(P:Program)(f:FuncId)(args:List Value)(K:ac→Prop)(h:ac):Prop:=
 ∀w:World,w.heap=h→(∀(args:Array Value) (w:World),(callFunc f args).run P w=.ok (.enter f args) w)∧∀n:Nat,CallsDIn {fn:=fun _=>True,depth:=none,alive:=false,round:=none} n P f args.toArray .returning w fun e u w'=>u=.returning∧Tame w w'∧(∃v,e=.returned v)∧K w'.heap
noncomputable def kq(c:Code):Bool:=
 Code.rec (motive:=fun _=>Bool) false (fun _ ops _=>(tx ops.toList).isSome) (fun _ _ a b=>bif a then true else b) (fun _ _ _ a b=>bif a then true else b)
  (fun _ _ b=>b) (fun _ b=>b) (fun _ _ _ _ _ _=>true) (fun _=>false) (fun _ b=>b) (fun _=>false) (fun _=>false) false (fun _=>false) c
def vB:Option Ex→Option Code
 |none=>none
 |some (.exit i)=>some (.exit i)
 |some .ret=>some .ret
def EX(N:ac→Prop)(X:Nat→ac→Prop)(R:ac→Prop):Option Ex→ac→Prop
 |none=>N
 |some (.exit i)=>X i
 |some .ret=>R
structure RangeP(P:Program)(fv:Value)(ks:List Kind)(h:ac)(RT:Obj→Obj→mo ks→(Option Ex→ac→Prop)→ac→Prop)(N:ac→Prop)(X:Nat→ac→Prop)(R:ac→Prop):Prop where
 run:∀lo:LoopState→Option Ex→Obj,(∀s j,∃r,lo s j=.loop r)→
  (∀x h' K,h'[h.size+1]? =some (lo .ready none)→
   RT (lo .ready none) (lo .busy none) x (fun j h2=>h2[h.size+1]? =some (lo .busy none)∧K j.isNone (h2.setIfInBounds (h.size+1) (lo (if j.isNone then .ready else .done) j))) h'→
   HV P (.func (.yield (h.size+1)) #[] #[]) (gK ks x) [.c .bool] K h')→
  ∃f first cap,fv=.func (.func f) first cap∧HE P f (first.toList++ [.func (.yield (h.size+1)) #[] #[]]++cap.toList) []
   (fun _ h2=>∃s j,s≠ .busy∧h2[h.size+1]? =some (lo s j)∧EX N X R j (h2.setIfInBounds (h.size+1) (lo .exhausted j))) ((h.push (.deferred (some []))).push (lo .ready none))
def Cb:List Nat→List Value→be→be
 |i::l,v::vs,r=>Cb l vs ((i,v)::r)
 |_,_,r=>r
noncomputable def xA(P:Program)(N:Nat)(ps:List Nat)(ks:List Kind)(assign body:Code)(c:Ann)(r:be)(l:Nat)(vR d:Obj)(x:mo ks)(k:Option Ex→ac→Prop)(h:ac):Prop:=
 fF P N assign c.l (fun f b=>b[l]? =some vR∧fF P N body c.r (fun _ a=>k none a) (fun e _ a=>k (some e) a) f (b.setIfInBounds l d)) (fun _ _ _=>False) (Cb ps (gK ks x) r) h
def oM(N:Nat):List Nat→Bool
 | []=>true
 |n::l=>nQ n N&&oM N l
noncomputable def oH(P:Program)(N:Nat)(c:Code):Ann→(List Mk→be→ac→Prop)→(Ex→List Mk→be→ac→Prop)→List Mk→be→ac→Prop:=
 Code.rec (motive:=fun _=>Ann→(List Mk→be→ac→Prop)→(Ex→List Mk→be→ac→Prop)→List Mk→be→ac→Prop)
  (fun j Kn Kx ms r h=>fF P N .skip j (Kn ms) (fun e=>Kx e ms) r h)
  (fun id ops q j Kn Kx ms r h=>match tx ops.toList with
   |none=>fF P N (.region id ops q) j (Kn ms) (fun e=>Kx e ms) r h
   |some (_,_,x,d,f,as)=>bif q then False else match bI r x with
    |some v=>bif nQ d N then(match hG ((d,v)::r) as with|some vs=>Kn (.call f vs::ms) ((d,v)::r) h|none=>False)else False
    |none=>False)
  (fun a b n o j Kn Kx ms r h=>bif (bif kq a then true else kq b)then n j.l (fun ms p m=>o j.r Kn Kx ms p m) Kx ms r h
   else fF P N (.seq a b) j (Kn ms) (fun e=>Kx e ms) r h)
  (fun c a b n o j Kn Kx ms r h=>bif (bif kq a then true else kq b)then
    (match bI r c with
     |some (.bool t)=>CondP t (n j.l Kn Kx ms r h) (o j.r Kn Kx ms r h)
     |_=>False)
   else fF P N (.cond c a b) j (Kn ms) (fun e=>Kx e ms) r h)
  (fun id b s j Kn Kx ms r h=>bif kq b then s j Kn (fun e ms p m=>match e with
    | .exit i=>bif aI i id then Kn ms p m else Kx (.exit i) ms p m
    | .ret=>Kx .ret ms p m) ms r h
   else fF P N (.block id b) j (Kn ms) (fun e=>Kx e ms) r h)
  (fun b _ j Kn Kx ms r h=>fF P N (.loop b) j (Kn ms) (fun e=>Kx e ms) r h)
  (fun g ps assign body _ _ j Kn Kx ms r h=>match j with
   | .rf ks aa ab=>bif oM N ps.toList&&aI ps.toList.length ks.length then
    (match bI r g with
     |some fv=>RangeP P fv ks h (fun vR u x k m=>xA P N ps.toList ks assign body (.node aa ab) r (h.size+1) vR u x k m)
      (fun m=>Kn (.it h.size::ms) r m) (fun i m=>Kx (.exit i) (.it h.size::ms) r m) (fun m=>Kx .ret (.it h.size::ms) r m)
     |none=>False)else False
   |_=>False)
  (fun id j Kn Kx ms r h=>fF P N (.exit id) j (Kn ms) (fun e=>Kx e ms) r h)
  (fun _ _ _ _ _ _ _ _=>False)
  (fun l j Kn Kx ms r h=>fF P N (.label l) j (Kn ms) (fun e=>Kx e ms) r h)
  (fun _ _ _ _ _ _ _=>False)
  (fun j Kn Kx ms r h=>fF P N .ret j (Kn ms) (fun e=>Kx e ms) r h)
  (fun _ _ _ _ _ _ _=>False)
  c
def wa(P:Program):List Mk→(ac→Prop)→ac→Prop
 | [],K,h=>K h
 | .it D::ms,K,h=>h[D]? =some (.deferred (some []))∧wa P ms K (h.setIfInBounds D (.deferred none))
 | .call f vs::ms,K,h=>HD P f vs (fun a=>wa P ms K a) h
noncomputable def xB(P:Program)(fn:Func)(c:Code)(b:Ann)(args:List Value)(ks:List Kind)(K:mo ks→ac→Prop)(h:ac):Prop:=
 oH P fn.ntmps c b
  (fun ms r a=>wa P ms (fun a=>g3 P r a fn.results.toList fun vs=>rM ks vs fun t=>K t a) a)
  (fun e ms r a=>match e with
   | .ret=>wa P ms (fun a=>g3 P r a fn.results.toList fun vs=>rM ks vs fun t=>K t a) a
   | .exit _=>False)
  [] (jy 0 args) h
end Go.Lift
namespace Go.Lift
open Go
theorem tJ(a:Addr):adr a 0=a:=rfl
theorem pT(a:Addr)(n:Nat):adr a (n+1)=⟨a.block,a.off+(n+1),none⟩:=rfl
theorem lP(a:Addr)(n:Nat):adr a n=a.add n:=by
 cases n with
 |zero=>simp[tJ,Addr.add]
 |succ n=>simp[pT,Addr.add]
theorem r9(a:Addr)(m n:Nat):adr (adr a m) n=adr a (m+n):=by
 cases n with
 |zero=>rfl
 |succ n=>cases m with
  |zero=>simp[tJ]
  |succ m=>rw[pT,pT,show m+1+(n+1)=(m+1+n)+1 from rfl,pT];simp;omega
theorem Tame.refl(w:World):Tame w w:=⟨rfl,rfl,rfl⟩
theorem Tame.trans{a b c:World}(h:Tame a b)(k:Tame b c):Tame a c:=⟨k.os.trans h.os,k.tape.trans h.tape,k.output.trans h.output⟩
theorem pD{a b:IntKind}(h:vx a b=true):a=b:=by cases a<;>cases b<;>first|rfl|cases h
theorem CK.dec_sound{c:CK}{v:Value}{f:c.den→Prop}(h:c.dec v f):∃x,v=c.enc x∧f x:=by
 cases c<;>cases v<;>try simp only[CK.dec]at h
 case int.int k k' n=>
  cases hk:vx k' k with
  |false=>rw[hk]at h;exact h.elim
  |true=>rw[hk]at h;have:=pD hk;subst this;exact⟨n,rfl,h⟩
 case adr.pointer p=>cases p with
  |none=>exact h.elim
  |some a=>exact⟨a,rfl,h⟩
 all_goals first|exact h.elim|exact⟨_,rfl,h⟩
theorem rr:∀{cs:List CK} {vs:List Value} {f:B5 cs→Prop},zw cs vs f→∃t,vs=BO cs t∧f t
 | [],[],f,h=>⟨(),rfl,h⟩
 | [],_::_,f,h=>h.elim
 | [c],[v],f,h=>by obtain⟨x,rfl,i⟩:=CK.dec_sound h;exact⟨x,rfl,i⟩
 | [c],[],f,h=>h.elim
 | [c],_::_::_,f,h=>h.elim
 |c::d::cs,[],f,h=>h.elim
 |c::d::cs,[_],f,h=>h.elim
 |c::d::cs,v::u::vs,f,h=>by
  have a:c.dec v fun x=>zw (d::cs) (u::vs) fun t=>f (x,t):=h
  obtain⟨x,hx,e⟩:=CK.dec_sound a;obtain⟨t,g,b⟩:=rr (cs:=d::cs) (vs:=u::vs) e;exact⟨(x,t),by rw[g,hx];rfl,b⟩
theorem Kind.dec_sound{k:Kind}{v:Value}{f:k.den→Prop}(h:k.dec v f):∃x,v=k.enc x∧f x:=by
 cases k with
 |c k=>exact CK.dec_sound h
 |agg cs=>
  cases v<;>simp only[Kind.dec]at h
  case agg vs=>
   obtain⟨t,a,b⟩:=rr h;exact⟨t,by simp only[Kind.enc,←a],b⟩
theorem kA:∀{ks:List Kind} {vs:List Value} {f:mo ks→Prop},rM ks vs f→∃t,vs=gK ks t∧f t
 | [],[],f,h=>⟨(),rfl,h⟩
 | [],_::_,f,h=>h.elim
 | [c],[v],f,h=>by obtain⟨x,rfl,i⟩:=Kind.dec_sound h;exact⟨x,rfl,i⟩
 | [c],[],f,h=>h.elim
 | [c],_::_::_,f,h=>h.elim
 |c::d::cs,[],f,h=>h.elim
 |c::d::cs,[_],f,h=>h.elim
 |c::d::cs,v::u::vs,f,h=>by
  have a:c.dec v fun x=>rM (d::cs) (u::vs) fun t=>f (x,t):=h
  obtain⟨x,hx,e⟩:=Kind.dec_sound a;obtain⟨t,g,b⟩:=kA (ks:=d::cs) (vs:=u::vs) e;exact⟨(x,t),by rw[g,hx];rfl,b⟩
theorem li:∀(ks:List Kind) (t:mo ks),(gK ks t).length=ks.length
 | [],_=>rfl
 | [_],_=>rfl
 |_::l::ks,(_,t)=>by simp only[gK,aQ,li (l::ks) t]
structure Agree(N:Nat)(r:be)(a:Act):Prop where
 size:a.tmps.size=N
 look:∀t v,fo r t=some v→a.tmps.getD t undef=v
theorem dY(k:Nat)(v:Value)(r:be):fo ((k,v)::r) k=some v:=by rw[sN,show aI k k=true from Nat.beq_refl k];rfl
theorem dD{k t:Nat}(v:Value)(r:be)(h:k≠t):fo ((k,v)::r) t=fo r t:=by
 rw[sN];have:aI k t=false:=Bool.eq_false_iff.2 fun e=>h (au e)
 rw[this];rfl
theorem Agree.put{N:Nat}{r:be}{a:Act}(h:Agree N r a)(d:Nat)(v:Value)(hd:d<N):Agree N ((d,v)::r) (a.put (some d) v):=by
 refine⟨by simp[Act.put,h.size],fun t u b=>?_⟩
 by_cases e:d=t
 ·subst e
  rw[dY]at b;cases b;simp[Act.put,h.size,hd]
 ·rw[dD v r e]at b
  have:=h.look t u b;simpa[Act.put,Array.getElem?_setIfInBounds_ne e]using this
theorem Agree.known{N:Nat}{r:be}{a:Act}(h:Agree N r a){t:Nat}{v:Value}(hv:fo r t=some v):Agree N ((t,v)::r) a:=by
 refine⟨h.size,fun s u b=>?_⟩
 by_cases e:t=s
 ·subst e;rw[dY]at b;cases b;exact h.look t v hv
 ·rw[dD v r e]at b;exact h.look s u b
theorem fp{N:Nat}{r:be}{a:Act}(h:Agree N r a){o:Operand}{v:Value}(hv:bI r o=some v):a.eval o=v:=by
 cases o with
 |tmp t=>exact h.look t v hv
 |const c=>simp[bI]at hv;subst hv;rfl
 |global g=>simp[bI]at hv;subst hv;rfl
 |func f=>simp[bI]at hv;subst hv;rfl
theorem gq{N:Nat}{r:be}{a:Act}(h:Agree N r a):∀{os:List Operand} {vs:List Value},hG r os=some vs→os.map a.eval=vs
 | [],vs,hv=>by simp[hG]at hv;subst hv;rfl
 |o::os,vs,hv=>by
  simp only[hG]at hv;cases ho:bI r o with
  |none=>simp[ho]at hv
  |some v=>cases hos:hG r os with
   |none=>simp[ho,hos]at hv
   |some us=>simp[ho,hos]at hv;subst hv;simp[fp h ho,gq h hos]
theorem af{P:Program}{t:TypeId}{d:TypeDesc}(h:P.underlying t=some d)(w:World):(underlying t).run P w=.ok d w:=by
 simp only[underlying,program,bind,Sem.bind,Sem.run,h,pure]
theorem bj{P:Program}{t:TypeId}{i:TypeInfo}(h:P.info? t=some i)(w:World):(typeInfo t).run P w=.ok i w:=by
 simp only[typeInfo,program,bind,Sem.bind,Sem.run,h,pure]
theorem eF{P:Program}{s:Sem Value}{v:Value}{w w':World}(h:s.run P w=.ok v w'):(do pure (Next.value (←s)):Sem Next).run P w=.ok (.value v) w':=by
 simp[h]
theorem AS{P:Program}{s:Sem Unit}{w w':World}(h:s.run P w=.ok () w'):(do s;pure Next.skip:Sem Next).run P w=.ok .skip w':=by
 simp[h]
theorem pt{P:Program}{w:World}{a:Addr}{v:Value}(h:aP w.heap a=some v):(load a).run P w=.ok v w:=by
 have b:w.cell? a=some v:=h;simp[b]
theorem pO{v:Value}{vs:List Value}{i:Nat}{a:Addr}{h:ac}:ll (v::vs) i a h↔aP h (adr a i)=some v∧ll vs (i+1) a h:=by
 cases vs with
 |nil=>simp[ll]
 |cons u us=>rfl
theorem kW{P:Program}{w:World}{a:Addr}:∀(vs:List Value) (i:Nat) (acc:Array Value),ll vs i a w.heap→
  (loadCellsFrom a i vs.length acc).run P w=.ok (acc++vs.toArray) w
 | [],i,acc,_=>by simp[loadCellsFrom]
 |v::vs,i,acc,h=>by
  obtain⟨b,c⟩:=pO.1 h;rw[lP]at b;have:=kW (P:=P) (w:=w) (a:=a) vs (i+1) (acc.push v) c;simp only[aQ,loadCellsFrom,Sem.run_bind,pt b,Result.andThen_ok,this];simp
theorem tZ{P:Program}{w:World}{a:Addr}{vs:List Value}(h:ll vs 0 a w.heap):(loadCells a vs.length).run P w=.ok vs.toArray w:=by
 have:=kW (P:=P) (w:=w) (a:=a) vs 0 #[] h;simpa[loadCells]using this
theorem oo:∀(cs:List CK) (i:Nat) (a:Addr) (h:ac) (k:List Value→Prop),vC cs i a h k→∃vs,vs.length=cs.length∧ll vs i a h∧k vs
 | [],i,a,h,k,b=>⟨[],rfl,trivial,b⟩
 |c::cs,i,a,h,k,b=>by
  obtain⟨x,hx,b⟩:=b;obtain⟨vs,d,hc,b⟩:=oo cs (i+1) a h _ b;exact⟨c.enc x::vs,by simp[d],pO.2 ⟨hx,hc⟩,b⟩
theorem pN:∀{vs:List Value} {cs:List CK},tA vs=some cs→cs.length=vs.length
 | [],cs,h=>by simp[tA]at h;subst h;rfl
 |v::vs,cs,h=>by
  simp only[tA]at h;cases h1:DN v with
  |none=>simp[h1]at h
  |some c=>cases h2:tA vs with
   |none=>simp[h1,h2]at h
   |some ds=>simp[h1,h2]at h;subst h;simp[pN h2]
def B4(P:Program)(t:TypeId)(i:TypeInfo):Kind→Prop
 | .c _=>mI P t=false
 | .agg cs=>mI P t=true∧i.size=cs.length
theorem ya{P:Program}{t:TypeId}{k:Kind}(h:zi P t=some k):∃i,P.info? t=some i∧B4 P t i k:=by
 unfold zi nZ at h;cases hi:P.info? t with
 |none=>simp[hi]at h
 |some i=>
  refine⟨i,rfl,?_⟩;cases hz:i.zero with
  |none=>simp[hi,hz]at h
  |some z=>
   rw[hi]at h;simp only[hz]at h;cases z;case agg vs=>
    simp only at h;cases hb:(mI P t&&aI vs.toList.length (aO P t))with
    |false=>rw[hb]at h;simp at h
    |true=>
     rw[hb]at h;simp only[cond_true]at h;simp only[Bool.and_eq_true]at hb;have a:=au hb.2;cases hd:tA vs.toList with
     |none=>rw[hd]at h;simp at h
     |some ds=>
      rw[hd]at h;simp only[aN.injEq]at h;subst h;exact⟨hb.1,by rw[pN hd,a];simp[aO,hi]⟩
   all_goals
    simp only at h;cases ha:mI P t
    ·rw[ha]at h
     simp only[cond_false]at h;split at h
     ·simp only[aN.injEq]at h;subst h;exact ha
     ·simp at h
    ·rw[ha]at h;simp at h
theorem yb{P:Program}{t:TypeId}{k:Kind}(h:sY P t=some k):(∀w,(isAgg t).run P w=.ok (mI P t) w)∧zi P t=some k:=by
 unfold sY at h;cases hu:P.underlying t with
 |none=>simp[hu]at h
 |some d=>
  simp only[hu]at h;refine⟨fun w=>?_,h⟩
  simp only[isAgg,Sem.run_bind,af hu,Result.andThen_ok];unfold mI;rw[hu];cases d<;>rfl
theorem rj{P:Program}{t:TypeId}{v:Value}{K:RK}{h:ac}(b:wp P t v K h):
  ∃u S,K u (some S)∧S h∧∀w:World,S w.heap→(Instr.loadAt t v).run P w=.ok u w:=by
 unfold wp at b;cases v with
 |pointer p=>
  cases p with
  |none=>exact b.elim
  |some a=>
   simp only at b;cases hk:sY P t with
   |none=>simp[hk]at b
   |some k=>
    obtain⟨d,hz⟩:=yb hk;obtain⟨i,o,hc⟩:=ya hz;rw[hk]at b;cases k with
    |c c=>
     obtain⟨x,hx,g⟩:=b;refine⟨_,_,g,hx,fun w j=>?_⟩
     have hc:mI P t=false:=hc;simp only[Instr.loadAt,Instr.sureAddr,loadVar,Sem.run_bind,Sem.run_pure,Result.andThen_ok,d,hc];simp[pt j]
    |agg cs=>
     obtain⟨vs,e,f,g⟩:=oo cs 0 a h _ b;obtain⟨n,m⟩:mI P t=true∧i.size=cs.length:=hc;refine⟨_,_,g,f,fun w j=>?_⟩
     have hz:(sizeOf t).run P w=.ok vs.length w:=by simp[sizeOf,bj o,m,e]
     simp only[Instr.loadAt,Instr.sureAddr,loadVar,Sem.run_bind,Sem.run_pure,Result.andThen_ok,d,n];simp[hz,tZ j]
 |_=>exact b.elim
end Go.Lift
