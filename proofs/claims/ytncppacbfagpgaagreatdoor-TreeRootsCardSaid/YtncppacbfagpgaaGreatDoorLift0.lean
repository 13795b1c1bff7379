/- A part of the proof that the named laws of this program answer true, whatever the input. -/
import Derived.OrdersIn
import Derived.Below
import Derived.WalkKit
import Derived.RangeFuncRecord
open BitVec renaming ofInt→aj
open Iff renaming rfl→vt
open List renaming rec→fy,replicate→fW,length_cons→ax
open Nat renaming succ→fK,beq→bJ,ble→vr,min→dW,land→je,lor→cT,pred→uX,eq_of_beq_eq_true→aU
open Option renaming some→bH
namespace Go.Lift
abbrev ad:=Array Obj
def aN(h:ad)(a:Addr):Option Value:=
 match h[a.block]? with
 |some (.cells c _ _)=>if a.spot.isSome then none else c[a.off]?
 |_=>none
def AS(h:ad)(a:Addr):Bool:=
 match h[a.block]? with
 |some (.cells _ _ (lo,hi))=>lo≤a.off&&a.off<hi
 |_=>false
def hset(h:ad)(a:Addr)(v:Value):ad:=
 h.modify a.block fun
  | .cells c elem frozen=>.cells (if a.spot.isSome then c else c.setIfInBounds a.off v) elem frozen
  |o=>o
noncomputable def adr(a:Addr)(n:Nat):Addr:=Nat.rec (motive:=fun _=>Addr) a (fun n _=>⟨a.block,a.off+fK n,none⟩) n
def Wr(h:ad)(a:Addr):Prop:=(∃v,aN h a=some v)∧AS h a=false
structure Tame(w w':World):Prop where
 os:w'.os=w.os
 tape:w'.tape=w.tape
 output:w'.output=w.output
structure SliceV where
 a:Option Addr
 len:Nat
 cap:Nat
def E8:IntKind→IntKind→Bool
 | .i8,.i8=>true| .i16,.i16=>true| .i32,.i32=>true| .i64,.i64=>true
 | .u8,.u8=>true| .u16,.u16=>true| .u32,.u32=>true| .u64,.u64=>true
 |_,_=>false
inductive CK where
 |int (k:IntKind)|bool|str|ptr|slice|map|chan|raw|adr
def CK.den:CK→Type
 | .int _=>Int| .bool=>Bool| .str=>ByteArray| .ptr=>Option Addr| .slice=>SliceV| .map=>Option Nat| .chan=>Option Nat| .raw=>Value| .adr=>Addr
def CK.enc:(c:CK)→c.den→Value
 | .int k,n=>.int k n
 | .bool,b=>.bool b
 | .str,s=>.string s
 | .ptr,p=>.pointer p
 | .slice,s=>.slice s.a s.len s.cap
 | .map,r=>.map r
 | .chan,r=>.chan r
 | .raw,v=>v
 | .adr,a=>.pointer (some a)
def CK.dec:(c:CK)→Value→(c.den→Prop)→Prop
 | .int k,.int k' n,f=>bif E8 k' k then f n else False
 | .bool,.bool b,f=>f b
 | .str,.string s,f=>f s
 | .ptr,.pointer p,f=>f p
 | .slice,.slice a l c,f=>f ⟨a,l,c⟩
 | .map,.map r,f=>f r
 | .chan,.chan r,f=>f r
 | .raw,v,f=>f v
 | .adr,.pointer (some a),f=>f a
 |_,_,_=>False
def N8:List CK→Type
 | []=>Unit
 | [c]=>c.den
 |c::d::cs=>c.den×N8 (d::cs)
def NQ:(cs:List CK)→N8 cs→List Value
 | [],_=> []
 | [c],x=> [c.enc x]
 |c::d::cs,(x,t)=>c.enc x::NQ (d::cs) t
def K2:(cs:List CK)→List Value→(N8 cs→Prop)→Prop
 | [],[],f=>f ()
 | [c],[v],f=>c.dec v f
 |c::d::cs,v::u::vs,f=>c.dec v fun x=>K2 (d::cs) (u::vs) fun t=>f (x,t)
 |_,_,_=>False
inductive Kind where
 |c (k:CK)
 |agg (cs:List CK)
def Kind.den:Kind→Type
 | .c k=>k.den
 | .agg cs=>N8 cs
def Kind.enc:(k:Kind)→k.den→Value
 | .c k,x=>k.enc x
 | .agg cs,t=>.agg (NQ cs t).toArray
def Kind.dec:(k:Kind)→Value→(k.den→Prop)→Prop
 | .c k,v,f=>k.dec v f
 | .agg cs,.agg vs,f=>K2 cs vs.toList f
 |_,_,_=>False
def cW:List Kind→Type
 | []=>Unit
 | [k]=>k.den
 |k::l::ks=>k.den×cW (l::ks)
def mz:(ks:List Kind)→cW ks→List Value
 | [],_=> []
 | [k],x=> [k.enc x]
 |k::l::ks,(x,t)=>k.enc x::mz (l::ks) t
def As:(ks:List Kind)→List Value→(cW ks→Prop)→Prop
 | [],[],f=>f ()
 | [k],[v],f=>k.dec v f
 |k::l::ks,v::u::vs,f=>k.dec v fun x=>As (l::ks) (u::vs) fun t=>f (x,t)
 |_,_,_=>False
def BB(ks:List Kind)(vs:List Value):Value:=
 match ks,vs with
 | [_],[v]=>v
 |_,vs=>.tuple vs.toArray
def Qs:Value→Option CK
 | .int k _=>some (.int k)
 | .bool _=>some .bool
 | .string _=>some .str
 | .pointer _=>some .ptr
 | .slice .. =>some .slice
 | .map _=>some .map
 | .chan _=>some .chan
 | .nilFunc=>some .raw
 | .nilIface=>some .raw
 |_=>none
def Cd:List Value→Option (List CK)
 | []=>some []
 |v::vs=>match Qs v,Cd vs with
  |some c,some cs=>some (c::cs)
  |_,_=>none
def tD(P:Program)(t:TypeId):Bool:=
 match P.underlying t with
 |some (.struct _)|some (.array _ _)=>true
 |_=>false
def ce(P:Program)(t:TypeId):Nat:=match P.info? t with|some i=>i.size|none=>0
def pE(P:Program)(t:TypeId):Nat:=match P.info? t with|some i=>i.bytes|none=>0
def vE(P:Program)(t:TypeId):Option Value:=match P.info? t with|some i=>i.zero|none=>none
def KF(P:Program)(t:TypeId):Option Kind:=
 match vE P t with
 |some (.agg vs)=>bif tD P t&&bJ vs.toList.length (ce P t)then(match Cd vs.toList with|some cs=>some (.agg cs)|none=>none)else none
 |some v=>bif tD P t then none else(match Qs v with|some c=>some (.c c)|none=>none)
 |none=>none
def BP(P:Program)(t:TypeId):Option Kind:=
 match P.underlying t with
 |none=>none
 |some _=>KF P t
structure HC(P:Program)(f:FuncId)(args:List Value)(ks:List Kind)(K:cW ks→ad→Prop)(h:ad):Prop where
 run:∀w:World,w.heap=h→
  ((callFunc f args.toArray).run P w=.ok (.enter f args.toArray) w∧
   Calls P f args.toArray w fun e w'=>Tame w w'∧∃t:cW ks,e=.returned (BB ks (mz ks t))∧K t w'.heap)∨
  (∃v w',(callFunc f args.toArray).run P w=.ok (.value v) w'∧Tame w w'∧∃t:cW ks,v=BB ks (mz ks t)∧K t w'.heap)
structure HE(P:Program)(f:FuncId)(args:List Value)(ks:List Kind)(K:cW ks→ad→Prop)(h:ad):Prop where
 run:∀w:World,w.heap=h→(∀(args:Array Value) (w:World),(callFunc f args).run P w=.ok (.enter f args) w)∧
  Calls P f args.toArray w fun e w'=>Tame w w'∧∃t:cW ks,e=.returned (BB ks (mz ks t))∧K t w'.heap
theorem HE.hc{P:Program}{f:FuncId}{args:List Value}{ks:List Kind}{K:cW ks→ad→Prop}{h:ad}(e:HE P f args ks K h):HC P f args ks K h:=
 ⟨fun w hw=>.inl ⟨(e.run w hw).1 _ w,(e.run w hw).2⟩⟩
structure HY(P:Program)(l:Nat)(args:List Value)(K:Bool→ad→Prop)(h:ad):Prop where
 run:∀w:World,w.heap=h→∃fn tmps assign body,(Instr.yield l args.toArray).run P w=.ok (.round l fn tmps assign body) w∧
  ∀(c:Frame) (cs:List Frame),∃b w',Tame w w'∧K b w'.heap∧Steps P (lone (Frame.round l fn tmps assign body .normal) (c::cs) w) (lone (c.finish (.bool b)) cs w')
structure HV(P:Program)(fv:Value)(args:List Value)(ks:List Kind)(K:cW ks→ad→Prop)(h:ad):Prop where
 run:(∃f first cap,fv=.func (.func f) first cap∧HC P f (first.toList++args++cap.toList) ks K h)∨
  (∃l,fv=.func (.yield l) #[] #[]∧HY P l args (fun b h'=>As ks [.bool b] fun t=>K t h') h)
noncomputable def CondP(b:Bool)(t e:Prop):Prop:=Bool.rec (motive:=fun _=>Prop) e t b
theorem CondP.yes{b:Bool}{t e:Prop}(h:CondP b t e)(hb:b=true):t:=by subst hb;exact h
theorem CondP.no{b:Bool}{t e:Prop}(h:CondP b t e)(hb:b=false):e:=by subst hb;exact h
theorem CondP.intro{b:Bool}{t e:Prop}(h1:b=true→t)(h2:b=false→e):CondP b t e:=by cases b;exact h2 rfl;exact h1 rfl
theorem aw{t e:Prop}:CondP true t e↔t:=vt
theorem al{t e:Prop}:CondP false t e↔e:=vt
attribute [irreducible] CondP
def At(h:ad)(k:ad→Prop):Prop:=k h
def Bd{T:Type}(x:T)(k:T→Prop):Prop:=k x
structure Join{T:Type}(rest:T→ad→Prop)(k:(T→ad→Prop)→Prop):Prop where
 run:k rest
structure LoopP{T:Type}(F:(T→ad→Prop)→T→ad→Prop)(t:T)(h:ad):Prop where
 run:∀I:T→ad→Prop,(∀t h,F I t h→I t h)→I t h
abbrev cH:=List (Nat×Value)
noncomputable def jM(r:cH)(t:Nat):Option Value:=
 fy (motive:=fun _=>Option Value) none (fun kv _ ih=>bif bJ kv.1 t then some kv.2 else ih) r
theorem Bx(k:Nat)(v:Value)(r:cH)(t:Nat):jM ((k,v)::r) t=bif bJ k t then some v else jM r t:=rfl
noncomputable def dK(r:cH):Operand→Option Value
 | .tmp t=>jM r t
 | .const v=>some v
 | .global g=>some (.pointer (some ⟨g,0,none⟩))
 | .func f=>some (.func (.func f) #[] #[])
noncomputable def pw(r:cH):List Operand→Option (List Value)
 | []=>some []
 |o::os=>match dK r o,pw r os with
  |some v,some vs=>some (v::vs)
  |_,_=>none
noncomputable def Ff:List CK→Nat→Addr→ad→(List Value→Prop)→Prop
 | [],_,_,_,k=>k []
 |c::cs,i,a,h,k=>∃x:c.den,aN h (adr a i)=some (c.enc x)∧Ff cs (i+1) a h fun vs=>k (c.enc x::vs)
noncomputable def qX:List Value→Nat→Addr→ad→Prop
 | [],_,_,_=>True
 | [v],i,a,h=>aN h (adr a i)=some v
 |v::u::vs,i,a,h=>aN h (adr a i)=some v∧qX (u::vs) (i+1) a h
abbrev RK:=Value→Option (ad→Prop)→Prop
noncomputable def Gs(P:Program)(t:TypeId)(v:Value)(K:RK)(h:ad):Prop:=
 match v with
 | .pointer (some a)=>
  match BP P t with
  |some (.c c)=>∃x:c.den,aN h a=some (c.enc x)∧K (c.enc x) (some fun h'=>aN h' a=some (c.enc x))
  |some (.agg cs)=>Ff cs 0 a h fun vs=>K (.agg vs.toArray) (some fun h'=>qX vs 0 a h')
  |none=>False
 |_=>False
def uC(P:Program)(t:TypeId)(f:Nat):Option (TypeId×Nat):=
 match P.underlying t with
 |some (.struct fs)=>match fs.toList[f]? with
  |some g=>some (g.type,g.offset)
  |none=>none
 |_=>none
def tO(P:Program)(t:TypeId):Option TypeId:=
 match P.underlying t with
 |some (.slice e)=>some e
 |_=>none
def H6(op:BinOp)(k:IntKind)(a b:Int)(K:RK):Prop:=
 match op with
 | .shl=>0≤b∧K (.int k (k.wrap (a*2^(min b.toNat k.bits)))) none
 | .shr=>0≤b∧K (.int k (a.fdiv (2^(min b.toNat k.bits)))) none
 |_=>False
def Qk(op:BinOp)(k:IntKind)(a b:Int)(K:RK):Prop:=
 match op with
 | .add=>K (.int k (k.wrap (a+b))) none
 | .sub=>K (.int k (k.wrap (a-b))) none
 | .mul=>K (.int k (k.wrap (a*b))) none
 | .quo=>b≠0∧K (.int k (k.wrap (a.tdiv b))) none
 | .rem=>b≠0∧K (.int k (a.tmod b)) none
 | .and=>K (.int k (k.wrap (aj k.bits a&&&aj k.bits b).toNat)) none
 | .or=>K (.int k (k.wrap (aj k.bits a|||aj k.bits b).toNat)) none
 | .xor=>K (.int k (k.wrap (aj k.bits a^^^aj k.bits b).toNat)) none
 | .andNot=>K (.int k (k.wrap (aj k.bits a&&& ~~~aj k.bits b).toNat)) none
 | .eql=>K (.bool (a==b)) none
 | .neq=>K (.bool (a !=b)) none
 | .lss=>K (.bool (decide (a<b))) none
 | .leq=>K (.bool (decide (a≤b))) none
 | .gtr=>K (.bool (decide (a>b))) none
 | .geq=>K (.bool (decide (a≥b))) none
 |_=>False
def P3(op:BinOp)(a b:ByteArray)(K:RK):Prop:=
 match op with
 | .add=>((a.size+b.size:Nat):Int)≤9223372036854775807∧K (.string (a++b)) none
 | .eql=>K (.bool (a.toList==b.toList)) none
 | .neq=>K (.bool (!(a.toList==b.toList))) none
 | .lss=>K (.bool (Op.bytesLess a.toList b.toList)) none
 | .leq=>K (.bool (Op.bytesLess a.toList b.toList||a.toList==b.toList)) none
 | .gtr=>K (.bool (!(Op.bytesLess a.toList b.toList||a.toList==b.toList))) none
 | .geq=>K (.bool (!(Op.bytesLess a.toList b.toList))) none
 |_=>False
def gA(h:ad)(a:Addr):Prop:=(∃c e,h[a.block]? =some (.cells c e (0,0))∧0<c.size)
def OZ(P:Program)(t:TypeId)(neg:Bool)(x y:Value)(K:RK):Prop:=
 match P.underlying t,x,y with
 |some (.pointer _),.pointer a,.pointer none=>K (.bool (bif neg then !a.isNone else a.isNone)) none
 |some (.map _ _),.map a,.map none=>K (.bool (bif neg then !a.isNone else a.isNone)) none
 |some (.slice _),.slice a _ _,.slice none _ _=>K (.bool (bif neg then !a.isNone else a.isNone)) none
 |_,_,_=>False
def Qj:Operand→Bool
 | .const (.pointer none)=>true
 | .const (.map none)=>true
 | .const (.slice none 0 0)=>true
 |_=>false
def Rp(P:Program)(t:TypeId)(neg:Bool)(x y:Value)(K:RK)(h:ad):Prop:=
 match P.underlying t,x,y with
 |some .bool,.bool a,.bool b=>K (.bool (bif neg then !(a==b)else a==b)) none
 |some (.pointer e),.pointer a,.pointer b=>
  (bif bJ (ce P e) 0 then False else True)∧
  (∀x y,a=some x→b=some y→gA h x∧gA h y)∧
  K (.bool (bif neg then !(a==b)else a==b)) (some fun h'=>∀x y,a=some x→b=some y→gA h' x∧gA h' y)
 |_,_,_=>False
def Qb(P:Program)(op:BinOp)(t:TypeId)(x y:Value)(K:RK)(h:ad):Prop:=
 match x,y with
 | .int k a,.int k' b=>
  match op with
  | .shl=>H6 .shl k a b K
  | .shr=>H6 .shr k a b K
  |op=>bif E8 k' k then Qk op k a b K else False
 | .string a,.string b=>P3 op a b K
 |x,y=>match op with
  | .eql=>Rp P t false x y K h
  | .neq=>Rp P t true x y K h
  |_=>False
def px(h:ad):List (Option Addr×Option Addr)→Prop
 | []=>True
 |(a,b)::l=>(∀x y,a=some x→b=some y→gA h x∧gA h y)∧px h l
def NH(P:Program)(t:TypeId)(x y:Value):Option (Bool×List (Option Addr×Option Addr)):=
 match P.underlying t,x,y with
 |some (.int _),.int k a,.int k' b=>bif E8 k' k then some (a==b,[])else none
 |some .bool,.bool a,.bool b=>some (a==b,[])
 |some .string,.string a,.string b=>some (a.toList==b.toList,[])
 |some (.pointer e),.pointer a,.pointer b=>bif bJ (ce P e) 0 then none else some (a==b,[(a,b)])
 |_,_,_=>none
def Pd(P:Program)(rec:TypeId→List Value→List Value→Option (Bool×List (Option Addr×Option Addr)))(xs ys:List Value):List Field→Option (Bool×List (Option Addr×Option Addr))
 | []=>some (true,[])
 |f::fs=>
  if f.name= "_" then none else
  bif (P.underlying f.type).isSome&&(P.info? f.type).isSome then
   match(bif tD P f.type then rec f.type ((xs.drop f.offset).take (ce P f.type)) ((ys.drop f.offset).take (ce P f.type))
    else match xs[f.offset]?,ys[f.offset]? with|some x,some y=>NH P f.type x y|_,_=>none),Pd P rec xs ys fs with
   |some (b,l),some (c,m)=>some (b&&c,l++m)
   |_,_=>none
  else none
def NI(P:Program):Nat→TypeId→List Value→List Value→Option (Bool×List (Option Addr×Option Addr))
 |0,_,_,_=>none
 |d+1,t,xs,ys=>match P.underlying t with
  |some (.struct fs)=>bif P.stoodInHeld t then none else Pd P (NI P d) xs ys fs.toList
  |_=>none
def RH(neg b:Bool)(K:RK)(h:ad):List (Option Addr×Option Addr)→Prop
 | []=>K (.bool (bif neg then !b else b)) none
 |p::l=>px h (p::l)∧K (.bool (bif neg then !b else b)) (some fun h'=>px h' (p::l))
def Qd(P:Program)(op:BinOp)(t:TypeId)(xs ys:List Value)(K:RK)(h:ad):Prop:=
 bif P.eqGuardType P.depth t then False else
 match op with
 | .eql=>(match NI P 10 t xs ys with|some (b,l)=>RH false b K h l|none=>False)
 | .neq=>(match NI P 10 t xs ys with|some (b,l)=>RH true b K h l|none=>False)
 |_=>False
def RA(op:UnOp)(x:Value)(K:RK):Prop:=
 match op,x with
 | .neg,.int k n=>K (.int k (k.wrap (0-n))) none
 | .xor,.int k n=>K (.int k (k.wrap (aj k.bits (if k.signed then-1 else k.max)^^^aj k.bits n).toNat)) none
 | .not,.bool b=>K (.bool (!b)) none
 |_,_=>False
def dR(s:ByteArray):List Value:=s.data.toList.map fun b=>.int .u8 b.toNat
noncomputable def Row(h:ad)(a:Addr)(vs:List Value):Prop:=∀i v,vs[i]? =some v→aN h (adr a i)=some v
noncomputable def SRow(h:ad)(a:Option Addr)(n:Nat)(vs:List Value):Prop:=vs.length=n∧(vs= []∨∃b,a=some b∧Row h b vs)
def IW(P:Program)(e:TypeId):Bool:=match P.underlying e with|some (.int .u8)=>true|_=>false
def Qi(P:Program)(s d:TypeId):Bool:=
 match P.underlying s,P.underlying d with
 |some .string,some (.slice e)=>IW P e
 |_,_=>false
def ByP(e:TypeId)(s:ByteArray)(h:ad)(K:Nat→ad→Prop):Prop:=
 ∀c,s.size≤c→K c (h.push (.cells (dR s++fW (c-s.size) (Value.int .u8 0)).toArray e (c,c+1)))
noncomputable def Nb(P:Program)(src dst:TypeId)(x:Value)(K:RK)(h:ad):Prop:=
 match P.underlying src,P.underlying dst,x with
 |some (.int _),some (.int k),.int _ n=>K (.int k (k.wrap n)) none
 |some .string,some .string,.string s=>K (.string s) none
 |some (.slice e),some .string,.slice a n _=>bif IW P e then∃s:ByteArray,SRow h a n (dR s)∧K (.string s) (some fun h'=>SRow h' a n (dR s))else False
 |_,_,_=>False
def NU(v:Option Value)(d y:Nat)(K:Nat→Prop):Prop:=
 match v with
 |none=>K d
 |some (.int _ i)=>(0≤i∧i≤y)∧K i.toNat
 |_=>False
noncomputable def aY(a:Option Addr)(l m size:Nat):Option Addr:=if m=l then a else a.map (adr · (l*size))
def Nj(P:Program)(t:TypeId)(K:Prop):Prop:=match P.info? t with|some _=>K|none=>False
noncomputable def Ik(P:Program)(t:TypeId)(x:Value)(lo hi mx:Option Value)(K:RK):Prop:=
 match P.underlying t,x with
 |some .string,.string s=>match mx with
  |some _=>False
  |none=>NU hi s.size s.size fun h=>NU lo 0 h fun l=>K (.string (s.extract l h)) none
 |some (.slice e),.slice a len cap=>Nj P e (
  match mx with
  |none=>NU hi len cap fun h=>NU lo 0 h fun l=>K (.slice (aY a l cap (ce P e)) (h-l) (cap-l)) none
  |some m=>match hi with
   |none=>False
   |some hi=>NU (some m) 0 cap fun m=>NU (some hi) 0 m fun h=>NU lo 0 h fun l=>K (.slice (aY a l m (ce P e)) (h-l) (m-l)) none)
 |some (.array n e),.pointer (some a)=>Nj P e (
  match mx with
  |none=>NU hi n n fun h=>NU lo 0 h fun l=>K (.slice (aY (some a) l n (ce P e)) (h-l) (n-l)) none
  |some _=>False)
 |_,_=>False
noncomputable def DU(r:cH):Option Operand→Option (Option Value)
 |none=>some none
 |some o=>match dK r o with
  |some v=>some (some v)
  |none=>none
noncomputable def wA(P:Program)(t:TypeId)(x i:Value)(K:RK):Prop:=
 match P.underlying t,x,i with
 |some (.array n e),.pointer (some a),.int _ i=>Nj P e ((0≤i∧i<n)∧K (.pointer (some (adr a (i.toNat*ce P e)))) none)
 |some (.slice e),.slice b len _,.int _ i=>Nj P e ((0≤i∧i<len)∧∃a,b=some a∧K (.pointer (some (adr a (i.toNat*ce P e)))) none)
 |_,_,_=>False
def Im(P:Program)(t:TypeId)(x i:Value)(K:RK):Prop:=
 match P.underlying t,x,i with
 |some .string,.string s,.int _ i=>∃b:UInt8,0≤i∧s[i.toNat]? =some b∧K (.int .u8 b.toNat) none
 |_,_,_=>False
noncomputable def Ip(P:Program)(t:TypeId)(x:Value)(f:Nat)(K:RK):Prop:=
 match uC P t f,x with
 |some (u,off),.agg cs=>bif (P.underlying u).isSome&&(P.info? u).isSome then(bif tD P u then K (.agg ((cs.toList.drop off).take (ce P u)).toArray) none
  else(match cs.toList[off]? with|some v=>K v none|none=>False))else False
 |_,_=>False
def PH(c a b:Value)(K:RK):Prop:=
 match c with
 | .bool c=>(match a,b with
  | .bool x,.bool y=>K (.bool (bif c then x else y)) none
  |_,_=>(match c with|true=>K a none|false=>K b none))
 |_=>False
def gK:Value→Value→Bool
 | .int _ a,.int _ b=>a==b
 | .string a,.string b=>a==b
 | .bool a,.bool b=>a==b
 |_,_=>false
def GZ(k:Value):List MapEntry→Option Value
 | []=>none
 |e::es=>if gK k e.key then some e.val else GZ k es
def BQ(c:CK)(es:List MapEntry):Prop:=∀e∈es,∃x:c.den,e.key=c.enc x
def Js(c:CK)(z:Value)(h:ad)(m:Option Nat)(k v:Value)(ok:Bool):Prop:=
 match m with
 |none=>v=z∧ok=false
 |some r=>∃es clock,h[r]? =some (.map es clock)∧BQ c es.toList∧
  (match GZ k es.toList with|some u=>v=u∧ok=true|none=>v=z∧ok=false)
def GM(P:Program)(t:TypeId):Option (CK×TypeId):=
 match P.underlying t with
 |some (.map k e)=>match P.underlying k with
  |some (.int i)=>some (.int i,e)
  |some .string=>some (.str,e)
  |some .bool=>some (.bool,e)
  |_=>none
 |_=>none
def ET(P:Program)(t:TypeId)(x k:Value)(ok:Bool)(K:RK)(h:ad):Prop:=
 match GM P t,x with
 |some (c,e),.map m=>c.dec k fun _=>
  (match BP P e,vE P e with
   |some ek,some z=>∃(y:ek.den) (b:Bool),Js c z h m k (ek.enc y) b∧
    K (bif ok then .tuple #[ek.enc y,.bool b]else ek.enc y) (some fun h'=>Js c z h' m k (ek.enc y) b)
   |_,_=>False)
 |_,_=>False
def N3(h:ad)(m:Option Nat)(n:Nat):Prop:=
 match m with
 |none=>n=0
 |some r=>∃es clock,h[r]? =some (.map es clock)∧n=es.size
def P9(P:Program)(t:TypeId)(x:Value)(K:RK)(h:ad):Prop:=
 match P.underlying t,x with
 |some .string,.string s=>K (.int .i64 s.size) none
 |some (.array n _),_=>K (.int .i64 n) none
 |some (.slice _),.slice _ n _=>K (.int .i64 n) none
 |some (.map _ _),.map m=>∃n:Nat,N3 h m n∧K (.int .i64 n) (some fun h'=>N3 h' m n)
 |_,_=>False
def Qa(P:Program)(t:TypeId)(x:Value)(K:RK):Prop:=
 match P.underlying t,x with
 |some (.slice _),.slice _ _ n=>K (.int .i64 n) none
 |_,_=>False
def E3(mx:Bool)(k:IntKind):Int→List Value→(Value→Prop)→Prop
 |a,[],f=>f (.int k a)
 |a,.int k' b::vs,f=>bif E8 k' k then E3 mx k (bif mx then(if b>a then b else a)else(if b<a then b else a)) vs f else False
 |_,_,_=>False
def AN(mx:Bool)(vs:List Value)(f:Value→Prop):Prop:=
 match vs with
 | .int k a::vs=>E3 mx k a vs f
 |_=>False
def Jt(h:ad)(i:Nat)(e:MapEntry):Prop:=
 ∃m since seen last stamp es,h[i]? =some (.mapIter (some m) since seen last)∧seen.back? =some stamp∧h[m]? =some (.map es last)∧es.find? (fun e=>e.born==stamp)=some e
def pe(P:Program)(t:TypeId):Bool:=match P.underlying t with|some (.interface _)=>false|some _=>true|none=>false
def Kp(P:Program)(t:TypeId)(x:Value)(K:RK):Prop:=
 bif pe P t then(match BP P t with
  |some k=>∃y:k.den,x=.iface t (k.enc y)∧K (k.enc y) none
  |none=>False)else False
def Gx(cs:List Value)(off:Nat)(vs:List Value):List Value:=cs.take off++vs++cs.drop (off+vs.length)
def zU(place:Nat→Option (Nat×Nat)):List Value→List (Nat×Value)→Option (List Value)
 |cs,[]=>some cs
 |cs,(i,v)::rest=>match place i with
  |none=>none
  |some (off,size)=>bif bJ v.cells.toList.length size&&vr (off+v.cells.toList.length) cs.length then zU place (Gx cs off v.cells.toList) rest else none
noncomputable def pa(r:cH):List (Nat×Operand)→Option (List (Nat×Value))
 | []=>some []
 |(i,o)::ps=>match dK r o,pa r ps with
  |some v,some vs=>some ((i,v)::vs)
  |_,_=>none
def pr(P:Program)(t:TypeId):Option (List Value):=match vE P t with|some z=>some z.cells.toList|none=>none
def dU(n:Nat)(z:List Value):List Value:=(fW n z).flatten
def vm(P:Program)(t:TypeId):Bool:=match P.info? t with|some _=>true|none=>false
def x8(P:Program):List Field→Bool
 | []=>true
 |f::fs=>bif vm P f.type then x8 P fs else false
def IA(P:Program)(fs:List Field)(i:Nat):Option (Nat×Nat):=match fs[i]? with|some f=>some (f.offset,ce P f.type)|none=>none
def Fq(P:Program)(t:TypeId)(parts:List (Nat×Value)):Option (List Value):=
 match P.underlying t,pr P t with
 |some (.struct fs),some z=>bif x8 P fs.toList then zU (IA P fs.toList) z parts else none
 |some (.array _ e),some z=>bif vm P e then zU (fun i=>some (i*ce P e,ce P e)) z parts else none
 |_,_=>none
noncomputable def yT(P:Program)(ek:Option (Kind×Kind))(o:Op)(r:cH)(K:RK)(h:ad):Prop:=
 match o with
 | .entry it=>match dK r it,ek with
  |some (.pointer (some a)),some (kk,vk)=>a.off=0∧∃(e:MapEntry) (x:kk.den) (y:vk.den),Jt h a.block e∧e.key=kk.enc x∧e.val=vk.enc y∧
    K (.tuple #[kk.enc x,vk.enc y]) (some fun h'=>Jt h' a.block e)
  |_,_=>False
 | .move x| .assign x=>match dK r x with|some v=>K v none|none=>False
 | .load t a=>match dK r a with|some v=>Gs P t v K h|none=>False
 | .nilCheck x=>match dK r x with|some (.pointer p)=>∃a,p=some a∧K (.pointer (some a)) none|_=>False
 | .binOp op t x y _=>match dK r x,dK r y with
  |some (.agg v),some (.agg u)=>Qd P op t v.toList u.toList K h
  |some v,some u=>(match op,Qj y with
   | .eql,true=>OZ P t false v u K
   | .neq,true=>OZ P t true v u K
   |op,_=>Qb P op t v u K h)
  |_,_=>False
 | .unOp op _ x=>match dK r x with|some v=>RA op v K|none=>False
 | .convert s d x=>match dK r x with|some v=>Nb P s d v K h|none=>False
 | .pick c a b=>match dK r c,dK r a,dK r b with|some c,some a,some b=>PH c a b K|_,_,_=>False
 | .extract x i=>match dK r x with
  |some (.tuple vs)=>(match vs.toList[i]? with|some v=>K v none|none=>False)
  |_=>False
 | .fieldAddr t x f=>match dK r x,uC P t f with
  |some (.pointer (some a)),some (u,off)=>bif bJ (ce P u) 0 then False else K (.pointer (some (adr a off))) none
  |_,_=>False
 | .field t x f=>match dK r x with|some v=>Ip P t v f K|none=>False
 | .indexAddr t x i=>match dK r x,dK r i with|some v,some u=>wA P t v u K|_,_=>False
 | .index t x i=>match dK r x,dK r i with|some v,some u=>Im P t v u K|_,_=>False
 | .slice t x lo hi mx=>match dK r x,DU r lo,DU r hi,DU r mx with
  |some v,some l,some h',some m=>Ik P t v l h' m K
  |_,_,_,_=>False
 | .lookup t x k ok=>match dK r x,dK r k with|some v,some u=>ET P t v u ok K h|_,_=>False
 | .makeInterface t x=>match dK r x with|some v=>bif pe P t then K (.iface t v) none else False|none=>False
 | .typeAssert x _ t ok=>match dK r x with|some v=>bif ok then False else Kp P t v K|none=>False
 | .build t ps=>match pa r ps.toList with
  |some vs=>(match Fq P t vs with|some cs=>K (.agg cs.toArray) none|none=>False)
  |none=>False
 | .makeFunc fn first cap=>match pw r first.toList,pw r cap.toList with
  |some vs,some us=>K (.func fn vs.toArray us.toArray) none
  |_,_=>False
 | .call c=>match c.callee,pw r c.args.toList,c.argTypes.toList with
  | .builtin .len,some [v],[t]=>P9 P t v K h
  | .builtin .cap,some [v],[t]=>Qa P t v K
  | .builtin .min,some vs,_=>AN false vs fun v=>K v none
  | .builtin .max,some vs,_=>AN true vs fun v=>K v none
  |_,_,_=>False
 |_=>False
abbrev WK:=Value→ad→Prop
def az(h:ad):Addr:=⟨h.size,0,none⟩
def hnew(h:ad)(cs:List Value)(t:TypeId):ad:=h.push (.cells cs.toArray t (0,0))
def cj:List Value→Bool
 | []=>true
 |v::vs=>(match v with| .agg _=>false| .tuple _=>false|_=>true)&&cj vs
noncomputable def jA(h:ad)(a:Addr):Nat→List Value→ad
 |_,[]=>h
 |i,v::vs=>jA (hset h (adr a i) v) a (i+1) vs
noncomputable def fP(h:ad)(a:Option Addr)(i:Nat)(vs:List Value):ad:=match a with|some a=>jA h a i vs|none=>h
noncomputable def uc(h:ad)(a:Option Addr)(i:Nat)(vs:List Value):Prop:=vs= []∨∃b,a=some b∧∀j,j<vs.length→Wr h (adr b (i+j))
noncomputable def HQ(P:Program)(t:TypeId)(a v:Value)(K:WK)(h:ad):Prop:=
 match a with
 | .pointer (some a)=>bif bJ v.cells.toList.length (ce P t)&&cj v.cells.toList then Nj P t
   (match v.cells.toList with
    | [v]=>Wr h a∧K undef (hset h a v)
    |vs=>uc h (some a) 0 vs∧K undef (jA h a 0 vs))
  else False
 |_=>False
noncomputable def NX(P:Program)(e:TypeId)(base:Option Addr)(sl sc xl:Nat)(xs:List Value)(K:WK)(h:ad):Prop:=
 (sl+xl≤sc→uc h base (sl*ce P e) xs∧cj xs=true∧K (.slice base (sl+xl) sc) (fP h base (sl*ce P e) xs))∧
 (sc<sl+xl→∃old z,SRow h base (sl*ce P e) old∧pr P e=some z∧0<pE P e∧Builtin.nextslicecap (sl+xl) sc*pE P e≤2^48∧
  ∀nc,sl+xl≤nc→K (.slice (some (az h)) (sl+xl) nc) (hnew h (old++xs++dU (nc-(sl+xl)) z) e))
noncomputable def AG(P:Program)(t:TypeId)(s x:Value)(K:WK)(h:ad):Prop:=
 match tO P t,s,x with
 |some e,.slice b sl sc,.slice a xl _=>Nj P e (∃xs,SRow h a (xl*ce P e) xs∧NX P e b sl sc xl xs K h)
 |some e,.slice b sl sc,.string x=>bif bJ (ce P e) 1 then NX P e b sl sc x.size (dR x) K h else False
 |_,_,_=>False
noncomputable def A8(P:Program)(t:TypeId)(s x:Value)(K:WK)(h:ad):Prop:=
 match tO P t,s,x with
 |some e,.slice b sl sc,.int _ l=>(match pr P e with
  |some z=>bif bJ z.length (ce P e)then(0≤l∧l*pE P e≤2^48∧l≤9223372036854775807∧((sl+l.toNat:Nat):Int)≤9223372036854775807)∧NX P e b sl sc l.toNat (dU l.toNat z) K h else False
  |none=>False)
 |_,_,_=>False
noncomputable def HR(P:Program)(t:TypeId)(x:Value)(K:WK)(h:ad):Prop:=
 match tO P t,x with
 |some e,.slice a n _=>(match pr P e with
  |some z=>bif cj z then uc h a 0 (dU n z)∧K (.tuple #[]) (fP h a 0 (dU n z))else False
  |none=>False)
 |_,_=>False
noncomputable def MC(P:Program)(t:TypeId)(d s:Value)(K:WK)(h:ad):Prop:=
 match tO P t,d,s with
 |some e,.slice b dl _,.slice a sl _=>Nj P e (∃xs,SRow h a (dW sl dl*ce P e) xs∧uc h b 0 xs∧cj xs=true∧K (.int .i64 (dW sl dl)) (fP h b 0 xs))
 |some e,.slice b dl _,.string x=>bif bJ (ce P e) 1 then uc h b 0 ((dR x).take dl)∧K (.int .i64 (dW x.size dl)) (fP h b 0 ((dR x).take dl))else False
 |_,_,_=>False
def Iw(k v:Value)(clock:Nat):List MapEntry→List MapEntry×Nat
 | []=>([{key:=k,val:=v,born:=clock}],clock+1)
 |e::es=>if gK k e.key then({e with key:=k,val:=v}::es,clock)else let r:=Iw k v clock es;(e::r.1,r.2)
def G6(k:Value):List MapEntry→List MapEntry
 | []=> []
 |e::es=>if gK k e.key then es else e::G6 k es
def K7(c:CK)(h:ad)(r:Nat):Prop:=∃es clock,h[r]? =some (.map es clock)∧BQ c es.toList
def O1(h:ad)(r:Nat)(k v:Value):ad:=
 match h[r]? with
 |some (.map es clock)=>h.setIfInBounds r (.map (Iw k v clock es.toList).1.toArray (Iw k v clock es.toList).2)
 |_=>h
def KB(h:ad)(r:Nat)(k:Value):ad:=
 match h[r]? with
 |some (.map es clock)=>h.setIfInBounds r (.map (G6 k es.toList).toArray clock)
 |_=>h
def AF(P:Program)(t:TypeId)(m k v:Value)(K:WK)(h:ad):Prop:=
 match GM P t,m with
 |some (c,_),.map m=>c.dec k fun _=>∃r,m=some r∧K7 c h r∧K undef (O1 h r k v)
 |_,_=>False
def A6(P:Program)(t:TypeId)(m k:Value)(K:WK)(h:ad):Prop:=
 match GM P t,m with
 |some (c,_),.map m=>c.dec k fun _=>(m=none∧K (.tuple #[]) h)∨(∃r,m=some r∧K7 c h r∧K (.tuple #[]) (KB h r k))
 |_,_=>False
def M3(P:Program):List TypeId→Option (List Kind)
 | []=>some []
 |t::ts=>match BP P t,M3 P ts with
  |some k,some ks=>some (k::ks)
  |_,_=>none
def M4(P:Program)(t:TypeId):Option (List Kind):=
 match P.underlying t with
 |some (.tuple ts)=>M3 P ts.toList
 |_=>M3 P [t]
noncomputable def Pw(P:Program)(f:Operand)(r:cH)(args:List Value)(t:TypeId)(K:WK)(h:ad):Prop:=
 match M4 P t with
 |none=>False
 |some ks=>match f with
  | .func f=>HC P f args ks (fun x h'=>K (BB ks (mz ks x)) h') h
  |f=>match dK r f with
   |some fv=>HV P fv args ks (fun x h'=>K (BB ks (mz ks x)) h') h
   |none=>False
def MB(it:Value)(K:WK)(h:ad):Prop:=
 match it with
 | .pointer (some a)=>a.off=0∧
  ∃m since seen last,h[a.block]? =some (.mapIter m since seen last)∧
   ((m=none∧K (.tuple #[.bool false]) h)∨
    (∃r es clock,m=some r∧h[r]? =some (.map es clock)∧(seen.isEmpty=true∨es.isEmpty=true∨es.all (fun e=>decide (e.born≥last))=false)∧
     ((∀e∈es.toList,e.born<since→seen.contains e.born=true)→K (.tuple #[.bool false]) h)∧
     (∀e∈es.toList,seen.contains e.born=false→K (.tuple #[.bool true,e.key,e.val]) (h.setIfInBounds a.block (.mapIter (some r) since (seen.push e.born) clock)))))
 |_=>False
noncomputable def CV(P:Program)(o:Oper)(r:cH)(K:WK)(h:ad):Prop:=
 match o.op with
 | .alloc t=>(match pr P t with|some z=>K (.pointer (some (az h))) (hnew h z t)|none=>False)
 | .box t x=>(match dK r x with|some v=>K (.pointer (some (az h))) (hnew h v.cells.toList t)|none=>False)
 | .build t ps=>(match pa r ps.toList with
  |some vs=>(match Fq P t vs with|some cs=>K (.agg cs.toArray) h|none=>False)
  |none=>False)
 | .buildSlice t n ps=>(match tO P t,pa r ps.toList with
  |some e,some vs=>(match pr P e with
   |some z=>bif vr (n*ce P e) 16777216&&bJ z.length (ce P e)then
     (match zU (fun i=>some (i*ce P e,ce P e)) (dU n z) vs with|some cs=>K (.slice (some (az h)) n n) (hnew h cs e)|none=>False)
    else False
   |none=>False)
  |_,_=>False)
 | .store t a x=>(match dK r a,dK r x with|some a,some v=>HQ P t a v K h|_,_=>False)
 | .mapUpdate t m k x=>(match dK r m,dK r k,dK r x with|some m,some k,some v=>AF P t m k v K h|_,_,_=>False)
 | .insert t m k x=>(match dK r m,dK r k,dK r x with|some m,some k,some v=>AF P t m k v K h|_,_,_=>False)
 | .makeMap t n=>(match n with
  |none=>K (.map (some h.size)) (h.push (.map #[] 0))
  |some n=>(match dK r n,P.underlying t with|some (.int _ _),some (.map _ _)=>K (.map (some h.size)) (h.push (.map #[] 0))|_,_=>False))
 | .makeSlice t l c=>(match tO P t,dK r l,dK r c with
  |some e,some (.int _ l),some (.int _ c)=>(match pr P e with
   |some z=>bif bJ z.length (ce P e)then(0≤l∧l≤c∧c≤9223372036854775807∧pE P e*c≤2^48)∧K (.slice (some (az h)) l.toNat c.toNat) (hnew h (dU c.toNat z) e)else False
   |none=>False)
  |_,_,_=>False)
 | .convert s d x=>(match P.underlying s,P.underlying d,dK r x with
  |some .string,some (.slice e),some (.string v)=>bif IW P e then ByP e v h (fun c h'=>K (.slice (some (az h)) v.size c) h')else False
  |_,_,_=>False)
 | .range t x=>(match P.underlying t,dK r x with
  |some (.map _ _),some (.map m)=>∃clock,(m=none∧clock=0∨∃r es,m=some r∧h[r]? =some (.map es clock))∧K (.pointer (some (az h))) (h.push (.mapIter m clock #[] clock))
  |_,_=>False)
 | .next it false=>(match dK r it with|some it=>MB it K h|none=>False)
 | .call c=>(match c.callee,pw r c.args.toList with
  | .builtin .append,some [s,x]=>(match c.argTypes.toList with| [t,u]=>(match P.underlying u with|some (.slice _)=>AG P t s x K h|some .string=>AG P t s x K h|some (.int _)=>A8 P t s x K h|_=>False)|_=>False)
  | .builtin .clear,some [x]=>(match c.argTypes.toList with| [t]=>HR P t x K h|_=>False)
  | .builtin .copy,some [d,s]=>(match c.argTypes.toList with| [t,_]=>MC P t d s K h|_=>False)
  | .builtin .delete,some [m,k]=>(match c.argTypes.toList with| [t,_]=>A6 P t m k K h|_=>False)
  | .value f,some args=>Pw P f r args o.type K h
  |_,_=>False)
 |_=>False
def tP(P:Program):Op→Bool
 | .convert s d _=> !Qi P s d
 | .alloc _| .box .. | .buildSlice .. | .store .. | .mapUpdate .. | .insert .. | .makeMap .. | .makeSlice .. | .range .. | .next .. =>false
 | .call c=>match c.callee with
  | .builtin .len| .builtin .cap| .builtin .min| .builtin .max=>true
  |_=>false
 |_=>true
def xV(N:Nat)(o:Oper)(v:Value)(r:cH)(K:cH→Prop):Prop:=
 match o.dst with
 |none=>K r
 |some d=>bif Nat.blt d N then K ((d,v)::r)else False
noncomputable def QC(P:Program)(N:Nat)(ek:Option (Kind×Kind))(o:Oper)(r:cH)(K:cH→ad→Prop)(h:ad):Prop:=
 bif tP P o.op then yT P ek o.op r (fun v _=>xV N o v r fun r'=>K r' h) h
 else CV P o r (fun v h'=>xV N o v r fun r'=>K r' h') h
inductive DV where
 |f|t|u|x
abbrev sG:=List (Nat×DV)
noncomputable def pP(d:sG)(t:Nat):DV:=
 fy (motive:=fun _=>DV) .x (fun kv _ ih=>bif bJ kv.1 t then kv.2 else ih) d
noncomputable def xW(d:sG):Operand→DV
 | .tmp t=>pP d t
 | .const (.bool true)=>.t
 | .const (.bool false)=>.f
 |_=>.x
noncomputable def F0(d:sG):Op→DV
 | .move x=>xW d x
 | .assign x=>xW d x
 | .pick c a b=>match xW d c with
  | .t=>xW d a
  | .f=>xW d b
  |_=>.x
 | .unOp .not _ x=>match xW d x with
  | .t=>.f
  | .f=>.t
  |_=>.x
 |_=>.x
def ql(d:sG)(o:Oper)(v:DV):sG:=match o.dst with|some t=>(t,v)::d|none=>d
noncomputable def iG(ops:List Oper)(d:sG)(o:Oper):Option Bool:=
 match o.guard with
 |none=>some true
 |some (j,want)=>match ops[j]? with
  |none=>none
  |some oj=>match oj.dst with
   |none=>none
   |some t=>match pP d t with
    | .t=>some want
    | .f=>some (!want)
    | .u=>some false
    | .x=>none
def BX(ops:List Oper)(o:Oper):Option Nat:=
 match o.guard with
 |none=>none
 |some (j,_)=>match ops[j]? with
  |none=>none
  |some oj=>oj.dst
noncomputable def DE(P:Program)(N:Nat)(ek:Option (Kind×Kind))(ops:List Oper)(o:Oper)(d:sG)(r:cH)(h:ad)(K:sG→cH→ad→Prop):Prop:=
 match iG ops d o with
 |some true=>QC P N ek o r (K (ql d o (F0 d o.op))) h
 |some false=>xV N o undef r fun r'=>K (ql d o .u) r' h
 |none=>False
noncomputable def Bo(P:Program)(N:Nat)(ek:Option (Kind×Kind))(ops:List Oper)(l:List Oper):sG→(cH→ad→Prop)→cH→ad→Prop:=
 fy (motive:=fun _=>sG→(cH→ad→Prop)→cH→ad→Prop) (fun _ K r h=>K r h)
  (fun o _ ih d K r h=>
  match iG ops d o with
  |some true=>QC P N ek o r (fun r' h'=>ih (ql d o (F0 d o.op)) K r' h') h
  |some false=>xV N o undef r fun r'=>ih (ql d o .u) K r' h
  |none=>match BX ops o with
   |none=>False
   |some t=>match jM r t with
    |some (.bool b)=>CondP b
     (DE P N ek ops o ((t,.t)::d) ((t,.bool true)::r) h fun d' r' h'=>ih d' K r' h')
     (DE P N ek ops o ((t,.f)::d) ((t,.bool false)::r) h fun d' r' h'=>ih d' K r' h')
    |_=>False) l
inductive DA where
 |done
 |take (i:Nat) (rest:DA)
 |all (l:DA)
 |pick (i:Nat) (rest more:DA)
 |last (i:Nat) (rest:DA)
 |lastT (i:Nat) (rest:DA)
 |split (t:Nat) (yes no:DA)
abbrev pF:=List (Nat×(ad→Prop))
def tb(m i:Nat):Bool:=bJ (je (Nat.shiftRight m i) 1) 1
def gt(i:Nat):Nat:=Nat.pow 2 i
inductive DM where
 |mk (am fr lk ds:Nat)
def DM.am:DM→Nat| .mk a _ _ _=>a
def DM.fr:DM→Nat| .mk _ f _ _=>f
def DM.lk:DM→Nat| .mk _ _ l _=>l
def DM.ds:DM→Nat| .mk _ _ _ d=>d
def i4(o:Oper)(i:Nat):Bool:=o.after.toList.any fun e=>bJ e.on i&&Region.binds .any e
noncomputable def lV(l:List Edge):Nat:=
 fy (motive:=fun _=>Nat) 0 (fun e _ ih=>bif Region.binds .any e then cT (gt e.on) ih else ih) l
noncomputable def kY(l:List Operand):Nat:=
 fy (motive:=fun _=>Nat) 0 (fun o _ ih=>match o with| .tmp t=>cT (gt t) ih|_=>ih) l
def mK(o:Oper):Nat:=match o.dst with|some d=>gt d|none=>0
noncomputable def ng(ops:List Oper)(o:Oper):Nat:=
 cT (kY o.op.operands.toList) (match o.guard with
  |some (g,_)=>(match ops[g]? with|some og=>mK og|none=>0)
  |none=>0)
noncomputable def uq(ops:List Oper)(l:List Oper):List DM→Bool:=
 fy (motive:=fun _=>List DM→Bool) (fun ms=>match ms with| []=>true|_=>false)
  (fun o _ ih ms=>match ms with
   |m::ms=>bJ (lV o.after.toList) m.am&&bJ (ng ops o) m.lk&&bJ (mK o) m.ds&&ih ms
   | []=>false) l
def zj(x y:DM):Bool:=bJ (je x.ds (cT y.lk y.ds)) 0&&bJ (je y.ds x.lk) 0
noncomputable def Ed(i:Nat)(m:DM)(l:List DM):Nat→Bool:=
 fy (motive:=fun _=>Nat→Bool) (fun _=>true)
  (fun n _ ih j=>(!(tb m.fr j)||bJ j i||tb n.am i||zj m n)&&ih (fK j)) l
noncomputable def xP(all:List DM)(l:List DM):Nat→Bool:=
 fy (motive:=fun _=>Nat→Bool) (fun _=>true) (fun m _ ih i=>Ed i m all 0&&ih (fK i)) l
def GF:List Oper→Bool
 | []=>true
 |o::os=>(match o.op with| .select .. =>false| .defer _=>false|_=>true)&&GF os
noncomputable def AO(ops:List Oper)(ms:List DM):Bool:=uq ops ops ms&&xP ms ms 0&&GF ops
def qM(o:Oper):pF→pF
 | []=> []
 |(k,S)::l=>bif i4 o k then qM o l else(k,S)::qM o l
def rY:pF→ad→Prop→Prop
 | [],_,R=>R
 |(_,S)::l,h,R=>S h∧rY l h R
def DK(m:DM)(ls:Nat):Bool:=bJ (je m.am ls) m.am
noncomputable def li(ls:Nat)(l:List DM):Nat→List Nat:=
 fy (motive:=fun _=>Nat→List Nat) (fun _=> []) (fun m _ ih j=>bif !(tb ls j)&&DK m ls then j::ih (fK j)else ih (fK j)) l
def Be(m:DM)(i ls n:Nat):Bool:= !(tb ls i)&&DK m ls&&bJ (je (cT ls m.fr) (uX (gt n))) (uX (gt n))
def sQ:List Nat→List Nat→Bool
 | [],[]=>true
 |a::as,b::bs=>bJ a b&&sQ as bs
 |_,_=>false
def y4:DA→List Nat
 | .pick i _ l=>i::y4 l
 | .last i _=> [i]
 | .lastT i _=> [i]
 |_=> []
noncomputable def Lw(P:Program)(N:Nat)(ops:List Oper)(i:Nat)(L:pF)(d:sG)(r:cH)(h:ad)(K:pF→sG→cH→ad→Prop):Prop:=
 match ops[i]? with
 |none=>False
 |some o=>match iG ops d o with
  |some true=>bif tP P o.op then False else CV P o r (fun v h'=>xV N o v r fun r'=>rY (qM o L) h' (K (qM o L) (ql d o .x) r' h')) h
  |_=>False
noncomputable def Mk(m:Nat)(l:List DM):Nat→Nat:=
 fy (motive:=fun _=>Nat→Nat) (fun _=>m) (fun n _ ih j=>bif tb m j then cT n.am (ih (fK j))else ih (fK j)) l
noncomputable def xY(ms:List DM)(m:Nat):Nat:=Mk (Mk (Mk (Mk m ms 0) ms 0) ms 0) ms 0
def Fz(ms:List DM)(i:Nat):Nat:=match ms[i]? with|some m=>m.am|none=>0
def xC(m:Nat):pF→pF
 | []=> []
 |(k,S)::l=>bif tb m k then xC m l else(k,S)::xC m l
noncomputable def Km(P:Program)(N:Nat)(ops:List Oper)(ms:List DM)(i:Nat)(L:pF)(d:sG)(r:cH)(h:ad)(K:pF→sG→cH→ad→Prop):Prop:=
 match ops[i]? with
 |none=>False
 |some o=>match iG ops d o with
  |some true=>bif tP P o.op then False else CV P o r (fun v h'=>xV N o v r fun r'=>rY (xC (xY ms (Fz ms i)) L) h' (K (xC (xY ms (Fz ms i)) L) (ql d o .x) r' h')) h
  |_=>False
noncomputable def mo(P:Program)(N:Nat)(ops:List Oper)(ms:List DM)(da:DA):Bool→Nat→pF→sG→(cH→ad→Prop)→cH→ad→Prop:=
 DA.rec (motive:=fun _=>Bool→Nat→pF→sG→(cH→ad→Prop)→cH→ad→Prop)
  (fun m ls _ _ K r h=>bif !m&&sQ (li ls ms 0) []then K r h else False)
  (fun i _ ih m ls L d K r h=>
   match ops[i]?,ms[i]? with
   |some o,some mi=>bif !m&&Be mi i ls ops.length then
     (match iG ops d o with
      |none=>False
      |some false=>xV N o undef r fun r'=>ih false (cT ls (gt i)) L (ql d o .u) K r' h
      |some true=>bif tP P o.op then
       yT P none o.op r (fun v S=>xV N o v r fun r'=>match S with
        |none=>ih false (cT ls (gt i)) L (ql d o (F0 d o.op)) K r' h
        |some S=>ih false (cT ls (gt i)) ((i,S)::L) (ql d o (F0 d o.op)) K r' h) h
       else False)
    else False
   |_,_=>False)
  (fun l ih m ls L d K r h=>bif !m&&sQ (li ls ms 0) (y4 l)then ih true ls L d K r h else False)
  (fun i _ _ ih1 ih2 m ls L d K r h=>bif m then Lw P N ops i L d r h (fun L' d' r' h'=>ih1 false (cT ls (gt i)) L' d' K r' h')∧ih2 true ls L d K r h else False)
  (fun i _ ih m ls L d K r h=>bif m then Lw P N ops i L d r h (fun L' d' r' h'=>ih false (cT ls (gt i)) L' d' K r' h')else False)
  (fun i _ ih m ls L d K r h=>bif m then Km P N ops ms i L d r h (fun L' d' r' h'=>ih false (cT ls (gt i)) L' d' K r' h')else False)
  (fun t _ _ ih1 ih2 m ls L d K r h=>
   bif m then False else match jM r t with
   |some (.bool b)=>CondP b (ih1 false ls L ((t,.t)::d) K ((t,.bool true)::r) h) (ih2 false ls L ((t,.f)::d) K ((t,.bool false)::r) h)
   |_=>False)
  da
noncomputable def RF(_o:Oper)(i:Nat)(ds lk:Nat)(ops:List Oper)(l:List Oper):Nat→Nat:=
 fy (motive:=fun _=>Nat→Nat) (fun _=>0) (fun p _ ih j=>bif (bJ j i||i4 p i||(bJ (je ds (cT (ng ops p) (mK p))) 0&&bJ (je (mK p) lk) 0))then cT (gt j) (ih (fK j))else ih (fK j)) l
noncomputable def RE(ops:List Oper)(l:List Oper):Nat→List DM:=
 fy (motive:=fun _=>Nat→List DM) (fun _=> []) (fun o _ ih i=>.mk (lV o.after.toList) (RF o i (mK o) (ng ops o) ops ops 0) (ng ops o) (mK o)::ih (fK i)) l
def QH(P:Program)(w:Option Bool)(o:Oper):Bool:=match w with|some false=>true|some true=>tP P o.op|none=>false
noncomputable def Qn(P:Program)(ops:List Oper)(d:sG)(ls n:Nat)(l:List Oper):List DM→Nat→Option (Nat×Oper):=
 fy (motive:=fun _=>List DM→Nat→Option (Nat×Oper)) (fun _ _=>none)
  (fun o _ ih ms j=>match ms with
   | []=>none
   |m::ms=>bif Be m j ls n&&QH P (iG ops d o) o then some (j,o)else ih ms (fK j)) l
noncomputable def Qo(ops:List Oper)(d:sG)(ls:Nat)(l:List Oper):List DM→Nat→Option Nat:=
 fy (motive:=fun _=>List DM→Nat→Option Nat) (fun _ _=>none)
  (fun o _ ih ms j=>match ms with
   | []=>none
   |m::ms=>match bif !(tb ls j)&&DK m ls then(match iG ops d o with|none=>BX ops o|some _=>none)else none with
    |some t=>some t
    |none=>ih ms (fK j)) l
noncomputable def QX(ops:List Oper)(k:Nat→sG→DA)(ls:Nat)(d:sG)(l:List Nat):DA:=
 fy (motive:=fun _=>DA) .done (fun i rest ih=>match ops[i]? with
  |none=>.done
  |some o=>match rest with
   | []=>.last i (k (cT ls (gt i)) (ql d o .x))
   |_=>.pick i (k (cT ls (gt i)) (ql d o .x)) ih) l
noncomputable def Qv(P:Program)(ops:List Oper)(ms:List DM)(fuel:Nat):Nat→sG→DA:=
 Nat.rec (motive:=fun _=>Nat→sG→DA) (fun _ _=>.done) (fun _ ih ls d=>
  match Qn P ops d ls ops.length ops ms 0 with
  |some (i,o)=>.take i (ih (cT ls (gt i)) (match iG ops d o with|some false=>ql d o .u|_=>ql d o (F0 d o.op)))
  |none=>match Qo ops d ls ops ms 0 with
   |some t=>.split t (ih ls ((t,.t)::d)) (ih ls ((t,.f)::d))
   |none=>match li ls ms 0 with
    | []=>.done
    |l=>.all (QX ops ih ls d l)) fuel
noncomputable def Ky(ops:List Oper):List DM:=RE ops ops 0
inductive Ex where
 |exit (id:Nat)
 |ret
abbrev St:=List (Nat×Kind)
def wr:St→List Kind
 | []=> []
 |(_,k)::l=>k::wr l
noncomputable def Bi(r:cH):St→Option (List Value)
 | []=>some []
 |(i,_)::l=>match jM r i,Bi r l with
  |some v,some vs=>some (v::vs)
  |_,_=>none
noncomputable def zH(st:St)(r:cH)(f:cW (wr st)→Prop):Prop:=
 match Bi r st with
 |some vs=>As (wr st) vs f
 |none=>False
def mH:St→List Value→cH→cH
 |(i,_)::l,v::vs,r=>(i,v)::mH l vs r
 |_,_,r=>r
noncomputable def KH(r:cH)(l:List Nat):Option cH:=
 fy (motive:=fun _=>Option cH) (some []) (fun t _ ih=>match jM r t,ih with
  |some v,some l=>some ((t,v)::l)
  |_,_=>none) l
noncomputable def kW(t:Nat)(l:List Oper):Bool:=
 fy (motive:=fun _=>Bool) false (fun o _ ih=>match o.dst with|some d=>bif bJ d t then true else ih|none=>ih) l
noncomputable def ga(t:Nat)(c:Code):Bool:=
 Code.rec (motive:=fun _=>Bool) false (fun _ ops _=>kW t ops.toList) (fun _ _ a b=>bif a then true else b) (fun _ _ _ a b=>bif a then true else b)
  (fun _ _ b=>b) (fun _ b=>b) (fun _ _ _ _ _ _=>true) (fun _=>false) (fun _ b=>b) (fun _=>false) (fun _=>false) false (fun _=>false) c
inductive Ann where
 |nil
 |node (a b:Ann)
 |join (st:St) (a b:Ann)
 |loop (st:St) (b:Ann)
 |draw (d:DA)
 |kinds (k v:Kind)
 |reg (keep:List Nat) (inner:Ann)
 |rf (ks:List Kind) (a b:Ann)
def Ann.l:Ann→Ann
 | .node a _=>a
 | .rf _ a _=>a
 |_=>.nil
def Ann.r:Ann→Ann
 | .node _ b=>b
 | .rf _ _ b=>b
 |_=>.nil
noncomputable def MA(l:List Oper):Nat:=fy (motive:=fun _=>Nat) 0 (fun o _ ih=>cT (mK o) ih) l
def QZ:Option Nat→Option Nat→Option Nat
 |some a,some b=>some (cT a b)
 |_,_=>none
noncomputable def vG(c:Code):Option Nat:=
 Code.rec (motive:=fun _=>Option Nat) (some 0) (fun _ ops _=>some (MA ops.toList)) (fun _ _ a b=>QZ a b) (fun _ _ _ a b=>QZ a b)
  (fun _ _ b=>b) (fun _ b=>b) (fun _ _ _ _ _ _=>none) (fun _=>some 0) (fun _ b=>b) (fun _=>some 0) (fun _=>some 0) (some 0) (fun _=>some 0) c
noncomputable def uv(m:Nat)(r:cH):cH:=fy (motive:=fun _=>cH) [] (fun kv _ ih=>bif tb m kv.1 then ih else kv::ih) r
noncomputable def yN(P:Program)(N:Nat)(ops:List Oper)(dr:Bool)(an:Ann)(Kn:cH→ad→Prop)(r:cH)(h:ad):Prop:=
 match dr with
 |false=>(match an with
  | .kinds kk vk=>Bo P N (some (kk,vk)) ops ops [] Kn r h
  |_=>Bo P N none ops ops [] Kn r h)
 |true=>bif AO ops (Ky ops)then mo P N ops (Ky ops) (match an with| .draw da=>da|_=>Qv P ops (Ky ops) (Nat.add (Nat.add ops.length ops.length) 2) 0 []) false 0 [] [] Kn r h else False
noncomputable def kD(P:Program)(N:Nat)(c:Code):Ann→(cH→ad→Prop)→(Ex→cH→ad→Prop)→cH→ad→Prop:=
 Code.rec (motive:=fun _=>Ann→(cH→ad→Prop)→(Ex→cH→ad→Prop)→cH→ad→Prop)
  (fun _ Kn _ r h=>Kn r h)
  (fun _ ops dr an Kn _ r h=>match an with
   | .reg keep an=>yN P N ops.toList dr an (fun r' h'=>match KH r' keep with|some r0=>Kn r0 h'|none=>False) r h
   |an=>yN P N ops.toList dr an Kn r h)
  (fun a _ iha ihb an Kn Kx r h=>match an with
   | .join st aa ab=>(match vG a with
     |none=>False
     |some m=>Join (T:=cW (wr st)) (fun t h'=>ihb ab Kn Kx (mH st (mz (wr st) t) (uv m r)) h')
      fun J=>iha aa (fun r' h'=>zH st r' fun t=>J t h') Kx r h)
   |an=>iha an.l (fun r' h'=>ihb an.r Kn Kx r' h') Kx r h)
  (fun c _ _ iha ihb an Kn Kx r h=>match dK r c with
   |some (.bool t)=>CondP t (iha an.l Kn Kx r h) (ihb an.r Kn Kx r h)
   |_=>False)
  (fun id _ ih an Kn Kx r h=>ih an Kn (fun e r' h'=>match e with
    | .exit i=>bif bJ i id then Kn r' h' else Kx (.exit i) r' h'
    | .ret=>Kx .ret r' h') r h)
  (fun b ih an _ Kx r h=>match an with
   | .loop st ab=>(match vG b with
     |none=>False
     |some m=>zH st r fun t0=>LoopP (T:=cW (wr st)) (fun self t h'=>ih ab (fun r' h''=>zH st r' fun t'=>self t' h'') Kx (mH st (mz (wr st) t) (uv m r)) h') t0 h)
   |_=>False)
  (fun _ _ _ _ _ _ _ _ _ _ _=>False)
  (fun id _ _ Kx r h=>Kx (.exit id) r h)
  (fun _ _ _ _ _ _ _=>False)
  (fun _ _ Kn _ r h=>Kn r h)
  (fun _ _ _ _ _ _=>False)
  (fun _ _ Kx r h=>Kx .ret r h)
  (fun _ _ _ _ _ _=>False)
  c
noncomputable def mI(P:Program)(r:cH)(h:ad):List ResultVar→(List Value→Prop)→Prop
 | [],K=>K []
 | .tmp t::l,K=>(match jM r t with|some v=>mI P r h l fun vs=>K (v::vs)|none=>False)
 | .cell a t::l,K=>(match jM r a with
  |some v=>Gs P t v (fun x _=>mI P r h l fun vs=>K (x::vs)) h
  |none=>False)
def oZ:Nat→List Value→cH
 |_,[]=> []
 |i,v::vs=>(i,v)::oZ (i+1) vs
noncomputable def Ko(P:Program)(fn:Func)(c:Code)(an:Ann)(args:List Value)(ks:List Kind)(K:cW ks→ad→Prop)(h:ad):Prop:=
 kD P fn.ntmps c an
  (fun r h'=>mI P r h' fn.results.toList fun vs=>As ks vs fun t=>K t h')
  (fun e r h'=>match e with
   | .ret=>mI P r h' fn.results.toList fun vs=>As ks vs fun t=>K t h'
   | .exit _=>False)
  (oZ 0 args) h
noncomputable def qj(c:Code):Bool:=
 Code.rec (motive:=fun _=>Bool) false (fun _ _ _=>false) (fun _ _ a b=>bif a then true else b) (fun _ _ _ a b=>bif a then true else b)
  (fun _ _ b=>b) (fun _ b=>b) (fun _ _ _ _ _ _=>true) (fun _=>false) (fun _ b=>b) (fun _=>false) (fun _=>false) false (fun _=>false) c
def Fe:Option Ex→Option Code
 |none=>none
 |some (.exit i)=>some (.exit i)
 |some .ret=>some .ret
def RG(N:ad→Prop)(X:Nat→ad→Prop)(R:ad→Prop):Option Ex→ad→Prop
 |none=>N
 |some (.exit i)=>X i
 |some .ret=>R
structure RangeP(P:Program)(fv:Value)(ks:List Kind)(h:ad)(RT:Obj→Obj→cW ks→(Option Ex→ad→Prop)→ad→Prop)(N:ad→Prop)(X:Nat→ad→Prop)(R:ad→Prop):Prop where
 run:∀lo:LoopState→Option Ex→Obj,(∀s j,∃r,lo s j=.loop r)→
  (∀x h' K,h'[h.size+1]? =some (lo .ready none)→
   RT (lo .ready none) (lo .busy none) x (fun j h2=>h2[h.size+1]? =some (lo .busy none)∧K j.isNone (h2.setIfInBounds (h.size+1) (lo (if j.isNone then .ready else .done) j))) h'→
   HV P (.func (.yield (h.size+1)) #[] #[]) (mz ks x) [.c .bool] K h')→
  ∃f first cap,fv=.func (.func f) first cap∧HE P f (first.toList++ [.func (.yield (h.size+1)) #[] #[]]++cap.toList) []
   (fun _ h2=>∃s j,s≠ .busy∧h2[h.size+1]? =some (lo s j)∧RG N X R j (h2.setIfInBounds (h.size+1) (lo .exhausted j))) ((h.push (.deferred (some []))).push (lo .ready none))
def On:List Nat→List Value→cH→cH
 |i::l,v::vs,r=>On l vs ((i,v)::r)
 |_,_,r=>r
noncomputable def H7(P:Program)(N:Nat)(ps:List Nat)(ks:List Kind)(assign body:Code)(an:Ann)(r:cH)(l:Nat)(DK bz:Obj)(x:cW ks)(k:Option Ex→ad→Prop)(h:ad):Prop:=
 kD P N assign an.l (fun r1 h1=>h1[l]? =some DK∧kD P N body an.r (fun _ h2=>k none h2) (fun e _ h2=>k (some e) h2) r1 (h1.setIfInBounds l bz)) (fun _ _ _=>False) (On ps (mz ks x) r) h
def wD(N:Nat):List Nat→Bool
 | []=>true
 |n::l=>Nat.blt n N&&wD N l
noncomputable def wy(P:Program)(N:Nat)(c:Code):Ann→(List Nat→cH→ad→Prop)→(Ex→List Nat→cH→ad→Prop)→List Nat→cH→ad→Prop:=
 Code.rec (motive:=fun _=>Ann→(List Nat→cH→ad→Prop)→(Ex→List Nat→cH→ad→Prop)→List Nat→cH→ad→Prop)
  (fun an Kn Kx ms r h=>kD P N .skip an (Kn ms) (fun e=>Kx e ms) r h)
  (fun id ops dr an Kn Kx ms r h=>kD P N (.region id ops dr) an (Kn ms) (fun e=>Kx e ms) r h)
  (fun a b iha ihb an Kn Kx ms r h=>bif (bif qj a then true else qj b)then iha an.l (fun ms r' h'=>ihb an.r Kn Kx ms r' h') Kx ms r h
   else kD P N (.seq a b) an (Kn ms) (fun e=>Kx e ms) r h)
  (fun c a b iha ihb an Kn Kx ms r h=>bif (bif qj a then true else qj b)then
    (match dK r c with
     |some (.bool t)=>CondP t (iha an.l Kn Kx ms r h) (ihb an.r Kn Kx ms r h)
     |_=>False)
   else kD P N (.cond c a b) an (Kn ms) (fun e=>Kx e ms) r h)
  (fun id b ih an Kn Kx ms r h=>bif qj b then ih an Kn (fun e ms r' h'=>match e with
    | .exit i=>bif bJ i id then Kn ms r' h' else Kx (.exit i) ms r' h'
    | .ret=>Kx .ret ms r' h') ms r h
   else kD P N (.block id b) an (Kn ms) (fun e=>Kx e ms) r h)
  (fun b _ an Kn Kx ms r h=>kD P N (.loop b) an (Kn ms) (fun e=>Kx e ms) r h)
  (fun g ps assign body _ _ an Kn Kx ms r h=>match an with
   | .rf ks aa ab=>bif wD N ps.toList&&bJ ps.toList.length ks.length then
    (match dK r g with
     |some fv=>RangeP P fv ks h (fun DK bz x k h'=>H7 P N ps.toList ks assign body (.node aa ab) r (h.size+1) DK bz x k h')
      (fun h'=>Kn (h.size::ms) r h') (fun i h'=>Kx (.exit i) (h.size::ms) r h') (fun h'=>Kx .ret (h.size::ms) r h')
     |none=>False)else False
   |_=>False)
  (fun id an Kn Kx ms r h=>kD P N (.exit id) an (Kn ms) (fun e=>Kx e ms) r h)
  (fun _ _ _ _ _ _ _ _=>False)
  (fun l an Kn Kx ms r h=>kD P N (.label l) an (Kn ms) (fun e=>Kx e ms) r h)
  (fun _ _ _ _ _ _ _=>False)
  (fun an Kn Kx ms r h=>kD P N .ret an (Kn ms) (fun e=>Kx e ms) r h)
  (fun _ _ _ _ _ _ _=>False)
  c
def Kl:List Nat→(ad→Prop)→ad→Prop
 | [],K,h=>K h
 |D::ms,K,h=>h[D]? =some (.deferred (some []))∧Kl ms K (h.setIfInBounds D (.deferred none))
noncomputable def H8(P:Program)(fn:Func)(c:Code)(an:Ann)(args:List Value)(ks:List Kind)(K:cW ks→ad→Prop)(h:ad):Prop:=
 wy P fn.ntmps c an
  (fun ms r h'=>Kl ms (fun h'=>mI P r h' fn.results.toList fun vs=>As ks vs fun t=>K t h') h')
  (fun e ms r h'=>match e with
   | .ret=>Kl ms (fun h'=>mI P r h' fn.results.toList fun vs=>As ks vs fun t=>K t h') h'
   | .exit _=>False)
  [] (oZ 0 args) h
end Go.Lift
namespace Go.Lift
open Go
theorem Cp(a:Addr):adr a 0=a:=rfl
theorem ya(a:Addr)(n:Nat):adr a (n+1)=⟨a.block,a.off+(n+1),none⟩:=rfl
theorem rI(a:Addr)(n:Nat):adr a n=a.add n:=by
 cases n with
 |zero=>simp[Cp,Addr.add]
 |succ n=>simp[ya,Addr.add]
theorem yb(a:Addr)(m n:Nat):adr (adr a m) n=adr a (m+n):=by
 cases n with
 |zero=>rfl
 |succ n=>cases m with
  |zero=>simp[Cp]
  |succ m=>rw[ya,ya,show m+1+(n+1)=(m+1+n)+1 from rfl,ya];simp;omega
theorem Tame.refl(w:World):Tame w w:=⟨rfl,rfl,rfl⟩
theorem Tame.trans{a b c:World}(h:Tame a b)(k:Tame b c):Tame a c:=⟨k.os.trans h.os,k.tape.trans h.tape,k.output.trans h.output⟩
theorem xN{a b:IntKind}(h:E8 a b=true):a=b:=by cases a<;>cases b<;>first|rfl|cases h
theorem CK.dec_sound{c:CK}{v:Value}{f:c.den→Prop}(h:c.dec v f):∃x,v=c.enc x∧f x:=by
 cases c<;>cases v<;>try simp only[CK.dec]at h
 case int.int k k' n=>
  cases hk:E8 k' k with
  |false=>rw[hk]at h;exact h.elim
  |true=>rw[hk]at h;have:=xN hk;subst this;exact⟨n,rfl,h⟩
 case adr.pointer p=>cases p with
  |none=>exact h.elim
  |some a=>exact⟨a,rfl,h⟩
 all_goals first|exact h.elim|exact⟨_,rfl,h⟩
theorem zY:∀{cs:List CK} {vs:List Value} {f:N8 cs→Prop},K2 cs vs f→∃t,vs=NQ cs t∧f t
 | [],[],f,h=>⟨(),rfl,h⟩
 | [],_::_,f,h=>h.elim
 | [c],[v],f,h=>by obtain⟨x,rfl,hf⟩:=CK.dec_sound h;exact⟨x,rfl,hf⟩
 | [c],[],f,h=>h.elim
 | [c],_::_::_,f,h=>h.elim
 |c::d::cs,[],f,h=>h.elim
 |c::d::cs,[_],f,h=>h.elim
 |c::d::cs,v::u::vs,f,h=>by
  have h0:c.dec v fun x=>K2 (d::cs) (u::vs) fun t=>f (x,t):=h
  obtain⟨x,hx,h1⟩:=CK.dec_sound h0;obtain⟨t,ht,h2⟩:=zY (cs:=d::cs) (vs:=u::vs) h1;exact⟨(x,t),by rw[ht,hx];rfl,h2⟩
theorem Kind.dec_sound{k:Kind}{v:Value}{f:k.den→Prop}(h:k.dec v f):∃x,v=k.enc x∧f x:=by
 cases k with
 |c k=>exact CK.dec_sound h
 |agg cs=>
  cases v<;>simp only[Kind.dec]at h
  case agg vs=>
   obtain⟨t,ht,hf⟩:=zY h;exact⟨t,by simp only[Kind.enc,←ht],hf⟩
theorem qk:∀{ks:List Kind} {vs:List Value} {f:cW ks→Prop},As ks vs f→∃t,vs=mz ks t∧f t
 | [],[],f,h=>⟨(),rfl,h⟩
 | [],_::_,f,h=>h.elim
 | [c],[v],f,h=>by obtain⟨x,rfl,hf⟩:=Kind.dec_sound h;exact⟨x,rfl,hf⟩
 | [c],[],f,h=>h.elim
 | [c],_::_::_,f,h=>h.elim
 |c::d::cs,[],f,h=>h.elim
 |c::d::cs,[_],f,h=>h.elim
 |c::d::cs,v::u::vs,f,h=>by
  have h0:c.dec v fun x=>As (d::cs) (u::vs) fun t=>f (x,t):=h
  obtain⟨x,hx,h1⟩:=Kind.dec_sound h0;obtain⟨t,ht,h2⟩:=qk (ks:=d::cs) (vs:=u::vs) h1;exact⟨(x,t),by rw[ht,hx];rfl,h2⟩
theorem qW:∀(ks:List Kind) (t:cW ks),(mz ks t).length=ks.length
 | [],_=>rfl
 | [_],_=>rfl
 |_::l::ks,(_,t)=>by simp only[mz,ax,qW (l::ks) t]
structure Agree(N:Nat)(r:cH)(a:Act):Prop where
 size:a.tmps.size=N
 look:∀t v,jM r t=some v→a.tmps.getD t undef=v
theorem hJ(k:Nat)(v:Value)(r:cH):jM ((k,v)::r) k=some v:=by rw[Bx,show bJ k k=true from Nat.beq_refl k];rfl
theorem gv{k t:Nat}(v:Value)(r:cH)(h:k≠t):jM ((k,v)::r) t=jM r t:=by
 rw[Bx];have:bJ k t=false:=Bool.eq_false_iff.2 fun e=>h (aU e)
 rw[this];rfl
theorem Agree.put{N:Nat}{r:cH}{a:Act}(h:Agree N r a)(d:Nat)(v:Value)(hd:d<N):Agree N ((d,v)::r) (a.put (some d) v):=by
 refine⟨by simp[Act.put,h.size],fun t u hu=>?_⟩
 by_cases e:d=t
 ·subst e
  rw[hJ]at hu;cases hu;simp[Act.put,h.size,hd]
 ·rw[gv v r e]at hu
  have:=h.look t u hu;simpa[Act.put,Array.getElem?_setIfInBounds_ne e]using this
theorem Agree.known{N:Nat}{r:cH}{a:Act}(h:Agree N r a){t:Nat}{v:Value}(hv:jM r t=some v):Agree N ((t,v)::r) a:=by
 refine⟨h.size,fun s u hu=>?_⟩
 by_cases e:t=s
 ·subst e;rw[hJ]at hu;cases hu;exact h.look t v hv
 ·rw[gv v r e]at hu;exact h.look s u hu
theorem lh{N:Nat}{r:cH}{a:Act}(h:Agree N r a){o:Operand}{v:Value}(hv:dK r o=some v):a.eval o=v:=by
 cases o with
 |tmp t=>exact h.look t v hv
 |const c=>simp[dK]at hv;subst hv;rfl
 |global g=>simp[dK]at hv;subst hv;rfl
 |func f=>simp[dK]at hv;subst hv;rfl
theorem nu{N:Nat}{r:cH}{a:Act}(h:Agree N r a):∀{os:List Operand} {vs:List Value},pw r os=some vs→os.map a.eval=vs
 | [],vs,hv=>by simp[pw]at hv;subst hv;rfl
 |o::os,vs,hv=>by
  simp only[pw]at hv;cases ho:dK r o with
  |none=>simp[ho]at hv
  |some v=>cases hos:pw r os with
   |none=>simp[ho,hos]at hv
   |some us=>simp[ho,hos]at hv;subst hv;simp[lh h ho,nu h hos]
theorem ay{P:Program}{t:TypeId}{d:TypeDesc}(h:P.underlying t=some d)(w:World):(underlying t).run P w=.ok d w:=by
 simp only[underlying,program,bind,Sem.bind,Sem.run,h,pure]
theorem cQ{P:Program}{t:TypeId}{i:TypeInfo}(h:P.info? t=some i)(w:World):(typeInfo t).run P w=.ok i w:=by
 simp only[typeInfo,program,bind,Sem.bind,Sem.run,h,pure]
theorem iQ{P:Program}{s:Sem Value}{v:Value}{w w':World}(h:s.run P w=.ok v w'):(do pure (Next.value (←s)):Sem Next).run P w=.ok (.value v) w':=by
 simp[h]
theorem M1{P:Program}{s:Sem Unit}{w w':World}(h:s.run P w=.ok () w'):(do s;pure Next.skip:Sem Next).run P w=.ok .skip w':=by
 simp[h]
theorem xB{P:Program}{w:World}{a:Addr}{v:Value}(h:aN w.heap a=some v):(load a).run P w=.ok v w:=by
 have h':w.cell? a=some v:=h;simp[h']
theorem x6{v:Value}{vs:List Value}{i:Nat}{a:Addr}{h:ad}:qX (v::vs) i a h↔aN h (adr a i)=some v∧qX vs (i+1) a h:=by
 cases vs with
 |nil=>simp[qX]
 |cons u us=>rfl
theorem qL{P:Program}{w:World}{a:Addr}:∀(vs:List Value) (i:Nat) (acc:Array Value),qX vs i a w.heap→
  (loadCellsFrom a i vs.length acc).run P w=.ok (acc++vs.toArray) w
 | [],i,acc,_=>by simp[loadCellsFrom]
 |v::vs,i,acc,h=>by
  obtain⟨h1,h2⟩:=x6.1 h;rw[rI]at h1;have:=qL (P:=P) (w:=w) (a:=a) vs (i+1) (acc.push v) h2;simp only[ax,loadCellsFrom,Sem.run_bind,xB h1,Result.andThen_ok,this];simp
theorem C2{P:Program}{w:World}{a:Addr}{vs:List Value}(h:qX vs 0 a w.heap):(loadCells a vs.length).run P w=.ok vs.toArray w:=by
 have:=qL (P:=P) (w:=w) (a:=a) vs 0 #[] h;simpa[loadCells]using this
theorem vQ:∀(cs:List CK) (i:Nat) (a:Addr) (h:ad) (k:List Value→Prop),Ff cs i a h k→∃vs,vs.length=cs.length∧qX vs i a h∧k vs
 | [],i,a,h,k,hk=>⟨[],rfl,trivial,hk⟩
 |c::cs,i,a,h,k,hk=>by
  obtain⟨x,hx,hk⟩:=hk;obtain⟨vs,hl,hc,hk⟩:=vQ cs (i+1) a h _ hk;exact⟨c.enc x::vs,by simp[hl],x6.2 ⟨hx,hc⟩,hk⟩
theorem xZ:∀{vs:List Value} {cs:List CK},Cd vs=some cs→cs.length=vs.length
 | [],cs,h=>by simp[Cd]at h;subst h;rfl
 |v::vs,cs,h=>by
  simp only[Cd]at h;cases h1:Qs v with
  |none=>simp[h1]at h
  |some c=>cases h2:Cd vs with
   |none=>simp[h1,h2]at h
   |some ds=>simp[h1,h2]at h;subst h;simp[xZ h2]
def N4(P:Program)(t:TypeId)(i:TypeInfo):Kind→Prop
 | .c _=>tD P t=false
 | .agg cs=>tD P t=true∧i.size=cs.length
theorem IQ{P:Program}{t:TypeId}{k:Kind}(h:KF P t=some k):∃i,P.info? t=some i∧N4 P t i k:=by
 unfold KF vE at h;cases hi:P.info? t with
 |none=>simp[hi]at h
 |some i=>
  refine⟨i,rfl,?_⟩;cases hz:i.zero with
  |none=>simp[hi,hz]at h
  |some z=>
   rw[hi]at h;simp only[hz]at h;cases z;case agg vs=>
    simp only at h;cases hb:(tD P t&&bJ vs.toList.length (ce P t))with
    |false=>rw[hb]at h;simp at h
    |true=>
     rw[hb]at h;simp only[cond_true]at h;simp only[Bool.and_eq_true]at hb;have hs:=aU hb.2;cases hd:Cd vs.toList with
     |none=>rw[hd]at h;simp at h
     |some ds=>
      rw[hd]at h;simp only[bH.injEq]at h;subst h;exact⟨hb.1,by rw[xZ hd,hs];simp[ce,hi]⟩
   all_goals
    simp only at h;cases ha:tD P t
    ·rw[ha]at h
     simp only[cond_false]at h;split at h
     ·simp only[bH.injEq]at h;subst h;exact ha
     ·simp at h
    ·rw[ha]at h;simp at h
theorem IR{P:Program}{t:TypeId}{k:Kind}(h:BP P t=some k):(∀w,(isAgg t).run P w=.ok (tD P t) w)∧KF P t=some k:=by
 unfold BP at h;cases hu:P.underlying t with
 |none=>simp[hu]at h
 |some d=>
  simp only[hu]at h;refine⟨fun w=>?_,h⟩
  simp only[isAgg,Sem.run_bind,ay hu,Result.andThen_ok];unfold tD;rw[hu];cases d<;>rfl
theorem zM{P:Program}{t:TypeId}{v:Value}{K:RK}{h:ad}(hl:Gs P t v K h):
  ∃u S,K u (some S)∧S h∧∀w:World,S w.heap→(Instr.loadAt t v).run P w=.ok u w:=by
 unfold Gs at hl;cases v with
 |pointer p=>
  cases p with
  |none=>exact hl.elim
  |some a=>
   simp only at hl;cases hk:BP P t with
   |none=>simp[hk]at hl
   |some k=>
    obtain⟨hagg,hz⟩:=IR hk;obtain⟨i,hi,hc⟩:=IQ hz;rw[hk]at hl;cases k with
    |c c=>
     obtain⟨x,hx,hK⟩:=hl;refine⟨_,_,hK,hx,fun w hw=>?_⟩
     have hc:tD P t=false:=hc;simp only[Instr.loadAt,Instr.sureAddr,loadVar,Sem.run_bind,Sem.run_pure,Result.andThen_ok,hagg,hc];simp[xB hw]
    |agg cs=>
     obtain⟨vs,hlen,hcs,hK⟩:=vQ cs 0 a h _ hl;obtain⟨h1,h2⟩:tD P t=true∧i.size=cs.length:=hc;refine⟨_,_,hK,hcs,fun w hw=>?_⟩
     have hz:(sizeOf t).run P w=.ok vs.length w:=by simp[sizeOf,cQ hi,h2,hlen]
     simp only[Instr.loadAt,Instr.sureAddr,loadVar,Sem.run_bind,Sem.run_pure,Result.andThen_ok,hagg,h1];simp[hz,C2 hw]
 |_=>exact hl.elim
end Go.Lift
