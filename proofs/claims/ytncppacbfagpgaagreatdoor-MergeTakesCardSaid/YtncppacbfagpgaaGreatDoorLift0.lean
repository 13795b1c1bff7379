/- A part of the proof that the named laws of this program answer true, whatever the input. -/
import Derived.OrdersIn
import Derived.Below
import Derived.WalkKit
import Derived.RangeFuncRecord
open BitVec renaming ofInt→ao
open Iff renaming rfl→zO
open List renaming rec→g8,replicate→iJ,length_cons→ar
open Nat renaming succ→ik,beq→bX,ble→BL,min→eX,land→md,lor→dB,pred→Bp,eq_of_beq_eq_true→bw
open Option renaming some→bO
namespace Go.Lift
abbrev ad:=Array Obj
def aJ(h:ad)(a:Addr):Option Value:=
 match h[a.block]? with
 |some (.cells c _ _)=>if a.spot.isSome then none else c[a.off]?
 |_=>none
def H7(h:ad)(a:Addr):Bool:=
 match h[a.block]? with
 |some (.cells _ _ (lo,hi))=>lo≤a.off&&a.off<hi
 |_=>false
def hset(h:ad)(a:Addr)(v:Value):ad:=
 h.modify a.block fun
  | .cells c elem frozen=>.cells (if a.spot.isSome then c else c.setIfInBounds a.off v) elem frozen
  |o=>o
noncomputable def adr(a:Addr)(n:Nat):Addr:=Nat.rec (motive:=fun _=>Addr) a (fun n _=>⟨a.block,a.off+ik n,none⟩) n
def Wr(h:ad)(a:Addr):Prop:=(∃v,aJ h a=some v)∧H7 h a=false
structure Tame(w w':World):Prop where
 os:w'.os=w.os
 tape:w'.tape=w.tape
 output:w'.output=w.output
structure SliceV where
 a:Option Addr
 len:Nat
 cap:Nat
def N1:IntKind→IntKind→Bool
 | .i8,.i8=>true| .i16,.i16=>true| .i32,.i32=>true| .i64,.i64=>true
 | .u8,.u8=>true| .u16,.u16=>true| .u32,.u32=>true| .u64,.u64=>true
 |_,_=>false
inductive CK where
 |int (k:IntKind)|bool|str|ptr|slice|map|chan|raw|adr
def CK.den:CK→Type
 | .int _=>Int| .bool=>Bool| .str=>ByteArray| .ptr=>Option Addr| .slice=>SliceV| .map=>Option Nat| .chan=>Option Nat| .raw=>Value| .adr=>Addr
def CK.enc:(c:CK)→c.den→Value
 | .int k,n=>.int k n
 | .bool,b=>.bool b
 | .str,s=>.string s
 | .ptr,p=>.pointer p
 | .slice,s=>.slice s.a s.len s.cap
 | .map,r=>.map r
 | .chan,r=>.chan r
 | .raw,v=>v
 | .adr,a=>.pointer (some a)
def CK.dec:(c:CK)→Value→(c.den→Prop)→Prop
 | .int k,.int k' n,f=>bif N1 k' k then f n else False
 | .bool,.bool b,f=>f b
 | .str,.string s,f=>f s
 | .ptr,.pointer p,f=>f p
 | .slice,.slice a l c,f=>f ⟨a,l,c⟩
 | .map,.map r,f=>f r
 | .chan,.chan r,f=>f r
 | .raw,v,f=>f v
 | .adr,.pointer (some a),f=>f a
 |_,_,_=>False
def Zb:List CK→Type
 | []=>Unit
 | [c]=>c.den
 |c::d::cs=>c.den×Zb (d::cs)
def YO:(cs:List CK)→Zb cs→List Value
 | [],_=> []
 | [c],x=> [c.enc x]
 |c::d::cs,(x,t)=>c.enc x::YO (d::cs) t
def Vd:(cs:List CK)→List Value→(Zb cs→Prop)→Prop
 | [],[],f=>f ()
 | [c],[v],f=>c.dec v f
 |c::d::cs,v::u::vs,f=>c.dec v fun x=>Vd (d::cs) (u::vs) fun t=>f (x,t)
 |_,_,_=>False
inductive Kind where
 |c (k:CK)
 |agg (cs:List CK)
def Kind.den:Kind→Type
 | .c k=>k.den
 | .agg cs=>Zb cs
def Kind.enc:(k:Kind)→k.den→Value
 | .c k,x=>k.enc x
 | .agg cs,t=>.agg (YO cs t).toArray
def Kind.dec:(k:Kind)→Value→(k.den→Prop)→Prop
 | .c k,v,f=>k.dec v f
 | .agg cs,.agg vs,f=>Vd cs vs.toList f
 |_,_,_=>False
def zU:List Kind→Type
 | []=>Unit
 | [k]=>k.den
 |k::l::ks=>k.den×zU (l::ks)
def qq:(ks:List Kind)→zU ks→List Value
 | [],_=> []
 | [k],x=> [k.enc x]
 |k::l::ks,(x,t)=>k.enc x::qq (l::ks) t
def HJ:(ks:List Kind)→List Value→(zU ks→Prop)→Prop
 | [],[],f=>f ()
 | [k],[v],f=>k.dec v f
 |k::l::ks,v::u::vs,f=>k.dec v fun x=>HJ (l::ks) (u::vs) fun t=>f (x,t)
 |_,_,_=>False
def I0(ks:List Kind)(vs:List Value):Value:=
 match ks,vs with
 | [_],[v]=>v
 |_,vs=>.tuple vs.toArray
def abY:Value→Option CK
 | .int k _=>some (.int k)
 | .bool _=>some .bool
 | .string _=>some .str
 | .pointer _=>some .ptr
 | .slice .. =>some .slice
 | .map _=>some .map
 | .chan _=>some .chan
 | .nilFunc=>some .raw
 | .nilIface=>some .raw
 |_=>none
def JP:List Value→Option (List CK)
 | []=>some []
 |v::vs=>match abY v,JP vs with
  |some c,some cs=>some (c::cs)
  |_,_=>none
def zH(P:Program)(t:TypeId):Bool:=
 match P.underlying t with
 |some (.struct _)|some (.array _ _)=>true
 |_=>false
def cB(P:Program)(t:TypeId):Nat:=match P.info? t with|some i=>i.size|none=>0
def u0(P:Program)(t:TypeId):Nat:=match P.info? t with|some i=>i.bytes|none=>0
def B5(P:Program)(t:TypeId):Option Value:=match P.info? t with|some i=>i.zero|none=>none
def UR(P:Program)(t:TypeId):Option Kind:=
 match B5 P t with
 |some (.agg vs)=>bif zH P t&&bX vs.toList.length (cB P t)then(match JP vs.toList with|some cs=>some (.agg cs)|none=>none)else none
 |some v=>bif zH P t then none else(match abY v with|some c=>some (.c c)|none=>none)
 |none=>none
def Js(P:Program)(t:TypeId):Option Kind:=
 match P.underlying t with
 |none=>none
 |some _=>UR P t
structure HC(P:Program)(f:FuncId)(args:List Value)(ks:List Kind)(K:zU ks→ad→Prop)(h:ad):Prop where
 run:∀w:World,w.heap=h→
  ((callFunc f args.toArray).run P w=.ok (.enter f args.toArray) w∧
   Calls P f args.toArray w fun e w'=>Tame w w'∧∃t:zU ks,e=.returned (I0 ks (qq ks t))∧K t w'.heap)∨
  (∃v w',(callFunc f args.toArray).run P w=.ok (.value v) w'∧Tame w w'∧∃t:zU ks,v=I0 ks (qq ks t)∧K t w'.heap)
structure HE(P:Program)(f:FuncId)(args:List Value)(ks:List Kind)(K:zU ks→ad→Prop)(h:ad):Prop where
 run:∀w:World,w.heap=h→(∀(args:Array Value) (w:World),(callFunc f args).run P w=.ok (.enter f args) w)∧
  Calls P f args.toArray w fun e w'=>Tame w w'∧∃t:zU ks,e=.returned (I0 ks (qq ks t))∧K t w'.heap
theorem HE.hc{P:Program}{f:FuncId}{args:List Value}{ks:List Kind}{K:zU ks→ad→Prop}{h:ad}(e:HE P f args ks K h):HC P f args ks K h:=
 ⟨fun w a=>.inl ⟨(e.run w a).1 _ w,(e.run w a).2⟩⟩
structure HY(P:Program)(l:Nat)(args:List Value)(K:Bool→ad→Prop)(h:ad):Prop where
 run:∀w:World,w.heap=h→∃fn tmps assign body,(Instr.yield l args.toArray).run P w=.ok (.round l fn tmps assign body) w∧
  ∀(c:Frame) (cs:List Frame),∃b w',Tame w w'∧K b w'.heap∧Steps P (lone (Frame.round l fn tmps assign body .normal) (c::cs) w) (lone (c.finish (.bool b)) cs w')
structure HV(P:Program)(fv:Value)(args:List Value)(ks:List Kind)(K:zU ks→ad→Prop)(h:ad):Prop where
 run:(∃f first cap,fv=.func (.func f) first cap∧HC P f (first.toList++args++cap.toList) ks K h)∨
  (∃l,fv=.func (.yield l) #[] #[]∧HY P l args (fun b h'=>HJ ks [.bool b] fun t=>K t h') h)
noncomputable def CondP(b:Bool)(t e:Prop):Prop:=Bool.rec (motive:=fun _=>Prop) e t b
theorem CondP.yes{b:Bool}{t e:Prop}(h:CondP b t e)(a:b=true):t:=by subst a;exact h
theorem CondP.no{b:Bool}{t e:Prop}(h:CondP b t e)(a:b=false):e:=by subst a;exact h
theorem CondP.intro{b:Bool}{t e:Prop}(a:b=true→t)(h2:b=false→e):CondP b t e:=by cases b;exact h2 rfl;exact a rfl
theorem aw{t e:Prop}:CondP true t e↔t:=zO
theorem ag{t e:Prop}:CondP false t e↔e:=zO
attribute [irreducible] CondP
def At(h:ad)(k:ad→Prop):Prop:=k h
def Bd{T:Type}(x:T)(k:T→Prop):Prop:=k x
structure Join{T:Type}(rest:T→ad→Prop)(k:(T→ad→Prop)→Prop):Prop where
 run:k rest
structure LoopP{T:Type}(F:(T→ad→Prop)→T→ad→Prop)(t:T)(h:ad):Prop where
 run:∀I:T→ad→Prop,(∀t h,F I t h→I t h)→I t h
abbrev cZ:=List (Nat×Value)
noncomputable def mU(r:cZ)(t:Nat):Option Value:=
 g8 (motive:=fun _=>Option Value) none (fun a _ b=>bif bX a.1 t then some a.2 else b) r
theorem IW(k:Nat)(v:Value)(r:cZ)(t:Nat):mU ((k,v)::r) t=bif bX k t then some v else mU r t:=rfl
noncomputable def eD(r:cZ):Operand→Option Value
 | .tmp t=>mU r t
 | .const v=>some v
 | .global g=>some (.pointer (some ⟨g,0,none⟩))
 | .func f=>some (.func (.func f) #[] #[])
noncomputable def uU(r:cZ):List Operand→Option (List Value)
 | []=>some []
 |o::os=>match eD r o,uU r os with
  |some v,some vs=>some (v::vs)
  |_,_=>none
noncomputable def N9:List CK→Nat→Addr→ad→(List Value→Prop)→Prop
 | [],_,_,_,k=>k []
 |c::cs,i,a,h,k=>∃x:c.den,aJ h (adr a i)=some (c.enc x)∧N9 cs (i+1) a h fun vs=>k (c.enc x::vs)
noncomputable def xd:List Value→Nat→Addr→ad→Prop
 | [],_,_,_=>True
 | [v],i,a,h=>aJ h (adr a i)=some v
 |v::u::vs,i,a,h=>aJ h (adr a i)=some v∧xd (u::vs) (i+1) a h
abbrev RK:=Value→Option (ad→Prop)→Prop
noncomputable def PD(P:Program)(t:TypeId)(v:Value)(K:RK)(h:ad):Prop:=
 match v with
 | .pointer (some a)=>
  match Js P t with
  |some (.c c)=>∃x:c.den,aJ h a=some (c.enc x)∧K (c.enc x) (some fun h'=>aJ h' a=some (c.enc x))
  |some (.agg cs)=>N9 cs 0 a h fun vs=>K (.agg vs.toArray) (some fun h'=>xd vs 0 a h')
  |none=>False
 |_=>False
def AS(P:Program)(t:TypeId)(f:Nat):Option (TypeId×Nat):=
 match P.underlying t with
 |some (.struct fs)=>match fs.toList[f]? with
  |some g=>some (g.type,g.offset)
  |none=>none
 |_=>none
def zS(P:Program)(t:TypeId):Option TypeId:=
 match P.underlying t with
 |some (.slice e)=>some e
 |_=>none
def RI(c:BinOp)(k:IntKind)(a b:Int)(K:RK):Prop:=
 match c with
 | .shl=>0≤b∧K (.int k (k.wrap (a*2^(min b.toNat k.bits)))) none
 | .shr=>0≤b∧K (.int k (a.fdiv (2^(min b.toNat k.bits)))) none
 |_=>False
def abN(c:BinOp)(k:IntKind)(a b:Int)(K:RK):Prop:=
 match c with
 | .add=>K (.int k (k.wrap (a+b))) none
 | .sub=>K (.int k (k.wrap (a-b))) none
 | .mul=>K (.int k (k.wrap (a*b))) none
 | .quo=>b≠0∧K (.int k (k.wrap (a.tdiv b))) none
 | .rem=>b≠0∧K (.int k (a.tmod b)) none
 | .and=>K (.int k (k.wrap (ao k.bits a&&&ao k.bits b).toNat)) none
 | .or=>K (.int k (k.wrap (ao k.bits a|||ao k.bits b).toNat)) none
 | .xor=>K (.int k (k.wrap (ao k.bits a^^^ao k.bits b).toNat)) none
 | .andNot=>K (.int k (k.wrap (ao k.bits a&&& ~~~ao k.bits b).toNat)) none
 | .eql=>K (.bool (a==b)) none
 | .neq=>K (.bool (a !=b)) none
 | .lss=>K (.bool (decide (a<b))) none
 | .leq=>K (.bool (decide (a≤b))) none
 | .gtr=>K (.bool (decide (a>b))) none
 | .geq=>K (.bool (decide (a≥b))) none
 |_=>False
def abp(c:BinOp)(a b:ByteArray)(K:RK):Prop:=
 match c with
 | .add=>((a.size+b.size:Nat):Int)≤9223372036854775807∧K (.string (a++b)) none
 | .eql=>K (.bool (a.toList==b.toList)) none
 | .neq=>K (.bool (!(a.toList==b.toList))) none
 | .lss=>K (.bool (Op.bytesLess a.toList b.toList)) none
 | .leq=>K (.bool (Op.bytesLess a.toList b.toList||a.toList==b.toList)) none
 | .gtr=>K (.bool (!(Op.bytesLess a.toList b.toList||a.toList==b.toList))) none
 | .geq=>K (.bool (!(Op.bytesLess a.toList b.toList))) none
 |_=>False
def gV(h:ad)(a:Addr):Prop:=(∃c e,h[a.block]? =some (.cells c e (0,0))∧0<c.size)
def Z7(P:Program)(t:TypeId)(neg:Bool)(x y:Value)(K:RK):Prop:=
 match P.underlying t,x,y with
 |some (.pointer _),.pointer a,.pointer none=>K (.bool (bif neg then !a.isNone else a.isNone)) none
 |some (.map _ _),.map a,.map none=>K (.bool (bif neg then !a.isNone else a.isNone)) none
 |some (.slice _),.slice a _ _,.slice none _ _=>K (.bool (bif neg then !a.isNone else a.isNone)) none
 |_,_,_=>False
def abM:Operand→Bool
 | .const (.pointer none)=>true
 | .const (.map none)=>true
 | .const (.slice none 0 0)=>true
 |_=>false
def adj(P:Program)(t:TypeId)(neg:Bool)(x y:Value)(K:RK)(h:ad):Prop:=
 match P.underlying t,x,y with
 |some .bool,.bool a,.bool b=>K (.bool (bif neg then !(a==b)else a==b)) none
 |some (.pointer e),.pointer a,.pointer b=>
  (bif bX (cB P e) 0 then False else True)∧
  (∀x y,a=some x→b=some y→gV h x∧gV h y)∧
  K (.bool (bif neg then !(a==b)else a==b)) (some fun h'=>∀x y,a=some x→b=some y→gV h' x∧gV h' y)
 |_,_,_=>False
def abz(P:Program)(c:BinOp)(t:TypeId)(x y:Value)(K:RK)(h:ad):Prop:=
 match x,y with
 | .int k a,.int k' b=>
  match c with
  | .shl=>RI .shl k a b K
  | .shr=>RI .shr k a b K
  |c=>bif N1 k' k then abN c k a b K else False
 | .string a,.string b=>abp c a b K
 |x,y=>match c with
  | .eql=>adj P t false x y K h
  | .neq=>adj P t true x y K h
  |_=>False
def uV(h:ad):List (Option Addr×Option Addr)→Prop
 | []=>True
 |(a,b)::l=>(∀x y,a=some x→b=some y→gV h x∧gV h y)∧uV h l
def Yw(P:Program)(t:TypeId)(x y:Value):Option (Bool×List (Option Addr×Option Addr)):=
 match P.underlying t,x,y with
 |some (.int _),.int k a,.int k' b=>bif N1 k' k then some (a==b,[])else none
 |some .bool,.bool a,.bool b=>some (a==b,[])
 |some .string,.string a,.string b=>some (a.toList==b.toList,[])
 |some (.pointer e),.pointer a,.pointer b=>bif bX (cB P e) 0 then none else some (a==b,[(a,b)])
 |_,_,_=>none
def aat(P:Program)(rec:TypeId→List Value→List Value→Option (Bool×List (Option Addr×Option Addr)))(xs ys:List Value):List Field→Option (Bool×List (Option Addr×Option Addr))
 | []=>some (true,[])
 |f::fs=>
  if f.name= "_" then none else
  bif (P.underlying f.type).isSome&&(P.info? f.type).isSome then
   match(bif zH P f.type then rec f.type ((xs.drop f.offset).take (cB P f.type)) ((ys.drop f.offset).take (cB P f.type))
    else match xs[f.offset]?,ys[f.offset]? with|some x,some y=>Yw P f.type x y|_,_=>none),aat P rec xs ys fs with
   |some (b,l),some (c,m)=>some (b&&c,l++m)
   |_,_=>none
  else none
def Yx(P:Program):Nat→TypeId→List Value→List Value→Option (Bool×List (Option Addr×Option Addr))
 |0,_,_,_=>none
 |d+1,t,xs,ys=>match P.underlying t with
  |some (.struct fs)=>bif P.stoodInHeld t then none else aat P (Yx P d) xs ys fs.toList
  |_=>none
def adN(neg b:Bool)(K:RK)(h:ad):List (Option Addr×Option Addr)→Prop
 | []=>K (.bool (bif neg then !b else b)) none
 |p::l=>uV h (p::l)∧K (.bool (bif neg then !b else b)) (some fun h'=>uV h' (p::l))
def abB(P:Program)(a:BinOp)(t:TypeId)(xs ys:List Value)(K:RK)(h:ad):Prop:=
 bif P.eqGuardType P.depth t then False else
 match a with
 | .eql=>(match Yx P 10 t xs ys with|some (b,l)=>adN false b K h l|none=>False)
 | .neq=>(match Yx P 10 t xs ys with|some (b,l)=>adN true b K h l|none=>False)
 |_=>False
def adv(a:UnOp)(x:Value)(K:RK):Prop:=
 match a,x with
 | .neg,.int k n=>K (.int k (k.wrap (0-n))) none
 | .xor,.int k n=>K (.int k (k.wrap (ao k.bits (if k.signed then-1 else k.max)^^^ao k.bits n).toNat)) none
 | .not,.bool b=>K (.bool (!b)) none
 |_,_=>False
def fc(s:ByteArray):List Value:=s.data.toList.map fun b=>.int .u8 b.toNat
noncomputable def Row(h:ad)(a:Addr)(vs:List Value):Prop:=∀i v,vs[i]? =some v→aJ h (adr a i)=some v
noncomputable def SRow(h:ad)(a:Option Addr)(n:Nat)(vs:List Value):Prop:=vs.length=n∧(vs= []∨∃b,a=some b∧Row h b vs)
def SJ(P:Program)(e:TypeId):Bool:=match P.underlying e with|some (.int .u8)=>true|_=>false
def abL(P:Program)(s d:TypeId):Bool:=
 match P.underlying s,P.underlying d with
 |some .string,some (.slice e)=>SJ P e
 |_,_=>false
def ByP(e:TypeId)(s:ByteArray)(h:ad)(K:Nat→ad→Prop):Prop:=
 ∀c,s.size≤c→K c (h.push (.cells (fc s++iJ (c-s.size) (Value.int .u8 0)).toArray e (c,c+1)))
noncomputable def XW(P:Program)(c b:TypeId)(x:Value)(K:RK)(h:ad):Prop:=
 match P.underlying c,P.underlying b,x with
 |some (.int _),some (.int k),.int _ n=>K (.int k (k.wrap n)) none
 |some .string,some .string,.string s=>K (.string s) none
 |some (.slice e),some .string,.slice a n _=>bif SJ P e then∃s:ByteArray,SRow h a n (fc s)∧K (.string s) (some fun h'=>SRow h' a n (fc s))else False
 |_,_,_=>False
def YS(v:Option Value)(d y:Nat)(K:Nat→Prop):Prop:=
 match v with
 |none=>K d
 |some (.int _ i)=>(0≤i∧i≤y)∧K i.toNat
 |_=>False
noncomputable def aW(a:Option Addr)(l m size:Nat):Option Addr:=if m=l then a else a.map (adr · (l*size))
def X6(P:Program)(t:TypeId)(K:Prop):Prop:=match P.info? t with|some _=>K|none=>False
noncomputable def RX(P:Program)(t:TypeId)(x:Value)(lo hi b:Option Value)(K:RK):Prop:=
 match P.underlying t,x with
 |some .string,.string s=>match b with
  |some _=>False
  |none=>YS hi s.size s.size fun h=>YS lo 0 h fun l=>K (.string (s.extract l h)) none
 |some (.slice e),.slice a len cap=>X6 P e (
  match b with
  |none=>YS hi len cap fun h=>YS lo 0 h fun l=>K (.slice (aW a l cap (cB P e)) (h-l) (cap-l)) none
  |some m=>match hi with
   |none=>False
   |some hi=>YS (some m) 0 cap fun m=>YS (some hi) 0 m fun h=>YS lo 0 h fun l=>K (.slice (aW a l m (cB P e)) (h-l) (m-l)) none)
 |some (.array n e),.pointer (some a)=>X6 P e (
  match b with
  |none=>YS hi n n fun h=>YS lo 0 h fun l=>K (.slice (aW (some a) l n (cB P e)) (h-l) (n-l)) none
  |some _=>False)
 |_,_=>False
noncomputable def Mq(r:cZ):Option Operand→Option (Option Value)
 |none=>some none
 |some o=>match eD r o with
  |some v=>some (some v)
  |none=>none
noncomputable def CR(P:Program)(t:TypeId)(x i:Value)(K:RK):Prop:=
 match P.underlying t,x,i with
 |some (.array n e),.pointer (some a),.int _ i=>X6 P e ((0≤i∧i<n)∧K (.pointer (some (adr a (i.toNat*cB P e)))) none)
 |some (.slice e),.slice b len _,.int _ i=>X6 P e ((0≤i∧i<len)∧∃a,b=some a∧K (.pointer (some (adr a (i.toNat*cB P e)))) none)
 |_,_,_=>False
def RZ(P:Program)(t:TypeId)(x i:Value)(K:RK):Prop:=
 match P.underlying t,x,i with
 |some .string,.string s,.int _ i=>∃b:UInt8,0≤i∧s[i.toNat]? =some b∧K (.int .u8 b.toNat) none
 |_,_,_=>False
noncomputable def R8(P:Program)(t:TypeId)(x:Value)(f:Nat)(K:RK):Prop:=
 match AS P t f,x with
 |some (u,off),.agg cs=>bif (P.underlying u).isSome&&(P.info? u).isSome then(bif zH P u then K (.agg ((cs.toList.drop off).take (cB P u)).toArray) none
  else(match cs.toList[off]? with|some v=>K v none|none=>False))else False
 |_,_=>False
def aaW(c a b:Value)(K:RK):Prop:=
 match c with
 | .bool c=>(match a,b with
  | .bool x,.bool y=>K (.bool (bif c then x else y)) none
  |_,_=>(match c with|true=>K a none|false=>K b none))
 |_=>False
def jT:Value→Value→Bool
 | .int _ a,.int _ b=>a==b
 | .string a,.string b=>a==b
 | .bool a,.bool b=>a==b
 |_,_=>false
def Qr(k:Value):List MapEntry→Option Value
 | []=>none
 |e::es=>if jT k e.key then some e.val else Qr k es
def Jt(c:CK)(es:List MapEntry):Prop:=∀e∈es,∃x:c.den,e.key=c.enc x
def Tq(c:CK)(z:Value)(h:ad)(m:Option Nat)(k v:Value)(ok:Bool):Prop:=
 match m with
 |none=>v=z∧ok=false
 |some r=>∃es clock,h[r]? =some (.map es clock)∧Jt c es.toList∧
  (match Qr k es.toList with|some u=>v=u∧ok=true|none=>v=z∧ok=false)
def P8(P:Program)(t:TypeId):Option (CK×TypeId):=
 match P.underlying t with
 |some (.map k e)=>match P.underlying k with
  |some (.int i)=>some (.int i,e)
  |some .string=>some (.str,e)
  |some .bool=>some (.bool,e)
  |_=>none
 |_=>none
def NJ(P:Program)(t:TypeId)(x k:Value)(ok:Bool)(K:RK)(h:ad):Prop:=
 match P8 P t,x with
 |some (c,e),.map m=>c.dec k fun _=>
  (match Js P e,B5 P e with
   |some ek,some z=>∃(y:ek.den) (b:Bool),Tq c z h m k (ek.enc y) b∧
    K (bif ok then .tuple #[ek.enc y,.bool b]else ek.enc y) (some fun h'=>Tq c z h' m k (ek.enc y) b)
   |_,_=>False)
 |_,_=>False
def Y6(h:ad)(m:Option Nat)(n:Nat):Prop:=
 match m with
 |none=>n=0
 |some r=>∃es clock,h[r]? =some (.map es clock)∧n=es.size
def abx(P:Program)(t:TypeId)(x:Value)(K:RK)(h:ad):Prop:=
 match P.underlying t,x with
 |some .string,.string s=>K (.int .i64 s.size) none
 |some (.array n _),_=>K (.int .i64 n) none
 |some (.slice _),.slice _ n _=>K (.int .i64 n) none
 |some (.map _ _),.map m=>∃n:Nat,Y6 h m n∧K (.int .i64 n) (some fun h'=>Y6 h' m n)
 |_,_=>False
def aby(P:Program)(t:TypeId)(x:Value)(K:RK):Prop:=
 match P.underlying t,x with
 |some (.slice _),.slice _ _ n=>K (.int .i64 n) none
 |_,_=>False
def NW(c:Bool)(k:IntKind):Int→List Value→(Value→Prop)→Prop
 |a,[],f=>f (.int k a)
 |a,.int k' b::vs,f=>bif N1 k' k then NW c k (bif c then(if b>a then b else a)else(if b<a then b else a)) vs f else False
 |_,_,_=>False
def H4(b:Bool)(vs:List Value)(f:Value→Prop):Prop:=
 match vs with
 | .int k a::vs=>NW b k a vs f
 |_=>False
def Ts(h:ad)(i:Nat)(e:MapEntry):Prop:=
 ∃m since seen last stamp es,h[i]? =some (.mapIter (some m) since seen last)∧seen.back? =some stamp∧h[m]? =some (.map es last)∧es.find? (fun e=>e.born==stamp)=some e
def ux(P:Program)(t:TypeId):Bool:=match P.underlying t with|some (.interface _)=>false|some _=>true|none=>false
def UA(P:Program)(t:TypeId)(x:Value)(K:RK):Prop:=
 bif ux P t then(match Js P t with
  |some k=>∃y:k.den,x=.iface t (k.enc y)∧K (k.enc y) none
  |none=>False)else False
def PN(cs:List Value)(off:Nat)(vs:List Value):List Value:=cs.take off++vs++cs.drop (off+vs.length)
def Ha(a:Nat→Option (Nat×Nat)):List Value→List (Nat×Value)→Option (List Value)
 |cs,[]=>some cs
 |cs,(i,v)::rest=>match a i with
  |none=>none
  |some (off,size)=>bif bX v.cells.toList.length size&&BL (off+v.cells.toList.length) cs.length then Ha a (PN cs off v.cells.toList) rest else none
noncomputable def uw(r:cZ):List (Nat×Operand)→Option (List (Nat×Value))
 | []=>some []
 |(i,o)::ps=>match eD r o,uw r ps with
  |some v,some vs=>some ((i,v)::vs)
  |_,_=>none
def uR(P:Program)(t:TypeId):Option (List Value):=match B5 P t with|some z=>some z.cells.toList|none=>none
def eK(n:Nat)(z:List Value):List Value:=(iJ n z).flatten
def BE(P:Program)(t:TypeId):Bool:=match P.info? t with|some _=>true|none=>false
def ED(P:Program):List Field→Bool
 | []=>true
 |f::fs=>bif BE P f.type then ED P fs else false
def Sh(P:Program)(a:List Field)(i:Nat):Option (Nat×Nat):=match a[i]? with|some f=>some (f.offset,cB P f.type)|none=>none
def Oi(P:Program)(t:TypeId)(a:List (Nat×Value)):Option (List Value):=
 match P.underlying t,uR P t with
 |some (.struct fs),some z=>bif ED P fs.toList then Ha (Sh P fs.toList) z a else none
 |some (.array _ e),some z=>bif BE P e then Ha (fun i=>some (i*cB P e,cB P e)) z a else none
 |_,_=>none
noncomputable def FS(P:Program)(ek:Option (Kind×Kind))(o:Op)(r:cZ)(K:RK)(h:ad):Prop:=
 match o with
 | .entry it=>match eD r it,ek with
  |some (.pointer (some a)),some (kk,vk)=>a.off=0∧∃(e:MapEntry) (x:kk.den) (y:vk.den),Ts h a.block e∧e.key=kk.enc x∧e.val=vk.enc y∧
    K (.tuple #[kk.enc x,vk.enc y]) (some fun h'=>Ts h' a.block e)
  |_,_=>False
 | .move x| .assign x=>match eD r x with|some v=>K v none|none=>False
 | .load t a=>match eD r a with|some v=>PD P t v K h|none=>False
 | .nilCheck x=>match eD r x with|some (.pointer p)=>∃a,p=some a∧K (.pointer (some a)) none|_=>False
 | .binOp op t x y _=>match eD r x,eD r y with
  |some (.agg v),some (.agg u)=>abB P op t v.toList u.toList K h
  |some v,some u=>(match op,abM y with
   | .eql,true=>Z7 P t false v u K
   | .neq,true=>Z7 P t true v u K
   |op,_=>abz P op t v u K h)
  |_,_=>False
 | .unOp op _ x=>match eD r x with|some v=>adv op v K|none=>False
 | .convert s d x=>match eD r x with|some v=>XW P s d v K h|none=>False
 | .pick c a b=>match eD r c,eD r a,eD r b with|some c,some a,some b=>aaW c a b K|_,_,_=>False
 | .extract x i=>match eD r x with
  |some (.tuple vs)=>(match vs.toList[i]? with|some v=>K v none|none=>False)
  |_=>False
 | .fieldAddr t x f=>match eD r x,AS P t f with
  |some (.pointer (some a)),some (u,off)=>bif bX (cB P u) 0 then False else K (.pointer (some (adr a off))) none
  |_,_=>False
 | .field t x f=>match eD r x with|some v=>R8 P t v f K|none=>False
 | .indexAddr t x i=>match eD r x,eD r i with|some v,some u=>CR P t v u K|_,_=>False
 | .index t x i=>match eD r x,eD r i with|some v,some u=>RZ P t v u K|_,_=>False
 | .slice t x lo hi mx=>match eD r x,Mq r lo,Mq r hi,Mq r mx with
  |some v,some l,some h',some m=>RX P t v l h' m K
  |_,_,_,_=>False
 | .lookup t x k ok=>match eD r x,eD r k with|some v,some u=>NJ P t v u ok K h|_,_=>False
 | .makeInterface t x=>match eD r x with|some v=>bif ux P t then K (.iface t v) none else False|none=>False
 | .typeAssert x _ t ok=>match eD r x with|some v=>bif ok then False else UA P t v K|none=>False
 | .build t ps=>match uw r ps.toList with
  |some vs=>(match Oi P t vs with|some cs=>K (.agg cs.toArray) none|none=>False)
  |none=>False
 | .makeFunc fn first cap=>match uU r first.toList,uU r cap.toList with
  |some vs,some us=>K (.func fn vs.toArray us.toArray) none
  |_,_=>False
 | .call c=>match c.callee,uU r c.args.toList,c.argTypes.toList with
  | .builtin .len,some [v],[t]=>abx P t v K h
  | .builtin .cap,some [v],[t]=>aby P t v K
  | .builtin .min,some vs,_=>H4 false vs fun v=>K v none
  | .builtin .max,some vs,_=>H4 true vs fun v=>K v none
  |_,_,_=>False
 |_=>False
abbrev WK:=Value→ad→Prop
def ay(h:ad):Addr:=⟨h.size,0,none⟩
def hnew(h:ad)(cs:List Value)(t:TypeId):ad:=h.push (.cells cs.toArray t (0,0))
def cH:List Value→Bool
 | []=>true
 |v::vs=>(match v with| .agg _=>false| .tuple _=>false|_=>true)&&cH vs
noncomputable def fS(h:ad)(a:Addr):Nat→List Value→ad
 |_,[]=>h
 |i,v::vs=>fS (hset h (adr a i) v) a (i+1) vs
noncomputable def ia(h:ad)(a:Option Addr)(i:Nat)(vs:List Value):ad:=match a with|some a=>fS h a i vs|none=>h
noncomputable def rE(h:ad)(a:Option Addr)(i:Nat)(vs:List Value):Prop:=vs= []∨∃b,a=some b∧∀j,j<vs.length→Wr h (adr b (i+j))
noncomputable def Ry(P:Program)(t:TypeId)(a v:Value)(K:WK)(h:ad):Prop:=
 match a with
 | .pointer (some a)=>bif bX v.cells.toList.length (cB P t)&&cH v.cells.toList then X6 P t
   (match v.cells.toList with
    | [v]=>Wr h a∧K undef (hset h a v)
    |vs=>rE h (some a) 0 vs∧K undef (fS h a 0 vs))
  else False
 |_=>False
noncomputable def YY(P:Program)(e:TypeId)(a:Option Addr)(sl c b:Nat)(xs:List Value)(K:WK)(h:ad):Prop:=
 (sl+b≤c→rE h a (sl*cB P e) xs∧cH xs=true∧K (.slice a (sl+b) c) (ia h a (sl*cB P e) xs))∧
 (c<sl+b→∃old z,SRow h a (sl*cB P e) old∧uR P e=some z∧0<u0 P e∧Builtin.nextslicecap (sl+b) c*u0 P e≤2^48∧
  ∀nc,sl+b≤nc→K (.slice (some (ay h)) (sl+b) nc) (hnew h (old++xs++eK (nc-(sl+b)) z) e))
noncomputable def HW(P:Program)(t:TypeId)(s x:Value)(K:WK)(h:ad):Prop:=
 match zS P t,s,x with
 |some e,.slice b sl sc,.slice a xl _=>X6 P e (∃xs,SRow h a (xl*cB P e) xs∧YY P e b sl sc xl xs K h)
 |some e,.slice b sl sc,.string x=>bif bX (cB P e) 1 then YY P e b sl sc x.size (fc x) K h else False
 |_,_,_=>False
noncomputable def Im(P:Program)(t:TypeId)(s x:Value)(K:WK)(h:ad):Prop:=
 match zS P t,s,x with
 |some e,.slice b sl sc,.int _ l=>(match uR P e with
  |some z=>bif bX z.length (cB P e)then(0≤l∧l*u0 P e≤2^48∧l≤9223372036854775807∧((sl+l.toNat:Nat):Int)≤9223372036854775807)∧YY P e b sl sc l.toNat (eK l.toNat z) K h else False
  |none=>False)
 |_,_,_=>False
noncomputable def Rz(P:Program)(t:TypeId)(x:Value)(K:WK)(h:ad):Prop:=
 match zS P t,x with
 |some e,.slice a n _=>(match uR P e with
  |some z=>bif cH z then rE h a 0 (eK n z)∧K (.tuple #[]) (ia h a 0 (eK n z))else False
  |none=>False)
 |_,_=>False
noncomputable def Xj(P:Program)(t:TypeId)(d s:Value)(K:WK)(h:ad):Prop:=
 match zS P t,d,s with
 |some e,.slice b dl _,.slice a sl _=>X6 P e (∃xs,SRow h a (eX sl dl*cB P e) xs∧rE h b 0 xs∧cH xs=true∧K (.int .i64 (eX sl dl)) (ia h b 0 xs))
 |some e,.slice b dl _,.string x=>bif bX (cB P e) 1 then rE h b 0 ((fc x).take dl)∧K (.int .i64 (eX x.size dl)) (ia h b 0 ((fc x).take dl))else False
 |_,_,_=>False
def Se(k v:Value)(a:Nat):List MapEntry→List MapEntry×Nat
 | []=>([{key:=k,val:=v,born:=a}],a+1)
 |e::es=>if jT k e.key then({e with key:=k,val:=v}::es,a)else let r:=Se k v a es;(e::r.1,r.2)
def Qu(k:Value):List MapEntry→List MapEntry
 | []=> []
 |e::es=>if jT k e.key then es else e::Qu k es
def Vj(c:CK)(h:ad)(r:Nat):Prop:=∃es clock,h[r]? =some (.map es clock)∧Jt c es.toList
def aab(h:ad)(r:Nat)(k v:Value):ad:=
 match h[r]? with
 |some (.map es clock)=>h.setIfInBounds r (.map (Se k v clock es.toList).1.toArray (Se k v clock es.toList).2)
 |_=>h
def UN(h:ad)(r:Nat)(k:Value):ad:=
 match h[r]? with
 |some (.map es clock)=>h.setIfInBounds r (.map (Qu k es.toList).toArray clock)
 |_=>h
def HU(P:Program)(t:TypeId)(m k v:Value)(K:WK)(h:ad):Prop:=
 match P8 P t,m with
 |some (c,_),.map m=>c.dec k fun _=>∃r,m=some r∧Vj c h r∧K undef (aab h r k v)
 |_,_=>False
def Ik(P:Program)(t:TypeId)(m k:Value)(K:WK)(h:ad):Prop:=
 match P8 P t,m with
 |some (c,_),.map m=>c.dec k fun _=>(m=none∧K (.tuple #[]) h)∨(∃r,m=some r∧Vj c h r∧K (.tuple #[]) (UN h r k))
 |_,_=>False
def XO(P:Program):List TypeId→Option (List Kind)
 | []=>some []
 |t::ts=>match Js P t,XO P ts with
  |some k,some ks=>some (k::ks)
  |_,_=>none
def XP(P:Program)(t:TypeId):Option (List Kind):=
 match P.underlying t with
 |some (.tuple ts)=>XO P ts.toList
 |_=>XO P [t]
noncomputable def aaK(P:Program)(f:Operand)(r:cZ)(args:List Value)(t:TypeId)(K:WK)(h:ad):Prop:=
 match XP P t with
 |none=>False
 |some ks=>match f with
  | .func f=>HC P f args ks (fun x h'=>K (I0 ks (qq ks x)) h') h
  |f=>match eD r f with
   |some fv=>HV P fv args ks (fun x h'=>K (I0 ks (qq ks x)) h') h
   |none=>False
def Xi(b:Value)(K:WK)(h:ad):Prop:=
 match b with
 | .pointer (some a)=>a.off=0∧
  ∃m since seen last,h[a.block]? =some (.mapIter m since seen last)∧
   ((m=none∧K (.tuple #[.bool false]) h)∨
    (∃r es clock,m=some r∧h[r]? =some (.map es clock)∧(seen.isEmpty=true∨es.isEmpty=true∨es.all (fun e=>decide (e.born≥last))=false)∧
     ((∀e∈es.toList,e.born<since→seen.contains e.born=true)→K (.tuple #[.bool false]) h)∧
     (∀e∈es.toList,seen.contains e.born=false→K (.tuple #[.bool true,e.key,e.val]) (h.setIfInBounds a.block (.mapIter (some r) since (seen.push e.born) clock)))))
 |_=>False
noncomputable def KY(P:Program)(o:Oper)(r:cZ)(K:WK)(h:ad):Prop:=
 match o.op with
 | .alloc t=>(match uR P t with|some z=>K (.pointer (some (ay h))) (hnew h z t)|none=>False)
 | .box t x=>(match eD r x with|some v=>K (.pointer (some (ay h))) (hnew h v.cells.toList t)|none=>False)
 | .build t ps=>(match uw r ps.toList with
  |some vs=>(match Oi P t vs with|some cs=>K (.agg cs.toArray) h|none=>False)
  |none=>False)
 | .buildSlice t n ps=>(match zS P t,uw r ps.toList with
  |some e,some vs=>(match uR P e with
   |some z=>bif BL (n*cB P e) 16777216&&bX z.length (cB P e)then
     (match Ha (fun i=>some (i*cB P e,cB P e)) (eK n z) vs with|some cs=>K (.slice (some (ay h)) n n) (hnew h cs e)|none=>False)
    else False
   |none=>False)
  |_,_=>False)
 | .store t a x=>(match eD r a,eD r x with|some a,some v=>Ry P t a v K h|_,_=>False)
 | .mapUpdate t m k x=>(match eD r m,eD r k,eD r x with|some m,some k,some v=>HU P t m k v K h|_,_,_=>False)
 | .insert t m k x=>(match eD r m,eD r k,eD r x with|some m,some k,some v=>HU P t m k v K h|_,_,_=>False)
 | .makeMap t n=>(match n with
  |none=>K (.map (some h.size)) (h.push (.map #[] 0))
  |some n=>(match eD r n,P.underlying t with|some (.int _ _),some (.map _ _)=>K (.map (some h.size)) (h.push (.map #[] 0))|_,_=>False))
 | .makeSlice t l c=>(match zS P t,eD r l,eD r c with
  |some e,some (.int _ l),some (.int _ c)=>(match uR P e with
   |some z=>bif bX z.length (cB P e)then(0≤l∧l≤c∧c≤9223372036854775807∧u0 P e*c≤2^48)∧K (.slice (some (ay h)) l.toNat c.toNat) (hnew h (eK c.toNat z) e)else False
   |none=>False)
  |_,_,_=>False)
 | .convert s d x=>(match P.underlying s,P.underlying d,eD r x with
  |some .string,some (.slice e),some (.string v)=>bif SJ P e then ByP e v h (fun c h'=>K (.slice (some (ay h)) v.size c) h')else False
  |_,_,_=>False)
 | .range t x=>(match P.underlying t,eD r x with
  |some (.map _ _),some (.map m)=>∃clock,(m=none∧clock=0∨∃r es,m=some r∧h[r]? =some (.map es clock))∧K (.pointer (some (ay h))) (h.push (.mapIter m clock #[] clock))
  |_,_=>False)
 | .next it false=>(match eD r it with|some it=>Xi it K h|none=>False)
 | .call c=>(match c.callee,uU r c.args.toList with
  | .builtin .append,some [s,x]=>(match c.argTypes.toList with| [t,u]=>(match P.underlying u with|some (.slice _)=>HW P t s x K h|some .string=>HW P t s x K h|some (.int _)=>Im P t s x K h|_=>False)|_=>False)
  | .builtin .clear,some [x]=>(match c.argTypes.toList with| [t]=>Rz P t x K h|_=>False)
  | .builtin .copy,some [d,s]=>(match c.argTypes.toList with| [t,_]=>Xj P t d s K h|_=>False)
  | .builtin .delete,some [m,k]=>(match c.argTypes.toList with| [t,_]=>Ik P t m k K h|_=>False)
  | .value f,some args=>aaK P f r args o.type K h
  |_,_=>False)
 |_=>False
def zV(P:Program):Op→Bool
 | .convert s d _=> !abL P s d
 | .alloc _| .box .. | .buildSlice .. | .store .. | .mapUpdate .. | .insert .. | .makeMap .. | .makeSlice .. | .range .. | .next .. =>false
 | .call c=>match c.callee with
  | .builtin .len| .builtin .cap| .builtin .min| .builtin .max=>true
  |_=>false
 |_=>true
def Ev(N:Nat)(o:Oper)(v:Value)(r:cZ)(K:cZ→Prop):Prop:=
 match o.dst with
 |none=>K r
 |some d=>bif Nat.blt d N then K ((d,v)::r)else False
noncomputable def ab8(P:Program)(N:Nat)(ek:Option (Kind×Kind))(o:Oper)(r:cZ)(K:cZ→ad→Prop)(h:ad):Prop:=
 bif zV P o.op then FS P ek o.op r (fun v _=>Ev N o v r fun a=>K a h) h
 else KY P o r (fun v h'=>Ev N o v r fun a=>K a h') h
inductive DV where
 |f|t|u|x
abbrev yW:=List (Nat×DV)
noncomputable def vp(d:yW)(t:Nat):DV:=
 g8 (motive:=fun _=>DV) .x (fun a _ b=>bif bX a.1 t then a.2 else b) d
noncomputable def Ew(d:yW):Operand→DV
 | .tmp t=>vp d t
 | .const (.bool true)=>.t
 | .const (.bool false)=>.f
 |_=>.x
noncomputable def OZ(d:yW):Op→DV
 | .move x=>Ew d x
 | .assign x=>Ew d x
 | .pick c a b=>match Ew d c with
  | .t=>Ew d a
  | .f=>Ew d b
  |_=>.x
 | .unOp .not _ x=>match Ew d x with
  | .t=>.f
  | .f=>.t
  |_=>.x
 |_=>.x
def vZ(d:yW)(o:Oper)(v:DV):yW:=match o.dst with|some t=>(t,v)::d|none=>d
noncomputable def lB(ops:List Oper)(d:yW)(o:Oper):Option Bool:=
 match o.guard with
 |none=>some true
 |some (j,want)=>match ops[j]? with
  |none=>none
  |some oj=>match oj.dst with
   |none=>none
   |some t=>match vp d t with
    | .t=>some want
    | .f=>some (!want)
    | .u=>some false
    | .x=>none
def JA(ops:List Oper)(o:Oper):Option Nat:=
 match o.guard with
 |none=>none
 |some (j,_)=>match ops[j]? with
  |none=>none
  |some oj=>oj.dst
noncomputable def Mc(P:Program)(N:Nat)(ek:Option (Kind×Kind))(ops:List Oper)(o:Oper)(d:yW)(r:cZ)(h:ad)(K:yW→cZ→ad→Prop):Prop:=
 match lB ops d o with
 |some true=>ab8 P N ek o r (K (vZ d o (OZ d o.op))) h
 |some false=>Ev N o undef r fun a=>K (vZ d o .u) a h
 |none=>False
noncomputable def IM(P:Program)(N:Nat)(ek:Option (Kind×Kind))(ops:List Oper)(l:List Oper):yW→(cZ→ad→Prop)→cZ→ad→Prop:=
 g8 (motive:=fun _=>yW→(cZ→ad→Prop)→cZ→ad→Prop) (fun _ K r h=>K r h)
  (fun o _ c d K r h=>
  match lB ops d o with
  |some true=>ab8 P N ek o r (fun a h'=>c (vZ d o (OZ d o.op)) K a h') h
  |some false=>Ev N o undef r fun a=>c (vZ d o .u) K a h
  |none=>match JA ops o with
   |none=>False
   |some t=>match mU r t with
    |some (.bool b)=>CondP b
     (Mc P N ek ops o ((t,.t)::d) ((t,.bool true)::r) h fun e a h'=>c e K a h')
     (Mc P N ek ops o ((t,.f)::d) ((t,.bool false)::r) h fun e a h'=>c e K a h')
    |_=>False) l
inductive DA where
 |done
 |take (i:Nat) (rest:DA)
 |all (l:DA)
 |pick (i:Nat) (rest more:DA)
 |last (i:Nat) (rest:DA)
 |lastT (i:Nat) (rest:DA)
 |split (t:Nat) (yes no:DA)
abbrev vd:=List (Nat×(ad→Prop))
def tb(m i:Nat):Bool:=bX (md (Nat.shiftRight m i) 1) 1
def jB(i:Nat):Nat:=Nat.pow 2 i
inductive DM where
 |mk (am fr lk ds:Nat)
def DM.am:DM→Nat| .mk a _ _ _=>a
def DM.fr:DM→Nat| .mk _ f _ _=>f
def DM.lk:DM→Nat| .mk _ _ l _=>l
def DM.ds:DM→Nat| .mk _ _ _ d=>d
def lY(o:Oper)(i:Nat):Bool:=o.after.toList.any fun e=>bX e.on i&&Region.binds .any e
noncomputable def pL(l:List Edge):Nat:=
 g8 (motive:=fun _=>Nat) 0 (fun e _ a=>bif Region.binds .any e then dB (jB e.on) a else a) l
noncomputable def oV(l:List Operand):Nat:=
 g8 (motive:=fun _=>Nat) 0 (fun o _ a=>match o with| .tmp t=>dB (jB t) a|_=>a) l
def qF(o:Oper):Nat:=match o.dst with|some d=>jB d|none=>0
noncomputable def rq(ops:List Oper)(o:Oper):Nat:=
 dB (oV o.op.operands.toList) (match o.guard with
  |some (g,_)=>(match ops[g]? with|some og=>qF og|none=>0)
  |none=>0)
noncomputable def AG(ops:List Oper)(l:List Oper):List DM→Bool:=
 g8 (motive:=fun _=>List DM→Bool) (fun ms=>match ms with| []=>true|_=>false)
  (fun o _ a ms=>match ms with
   |m::ms=>bX (pL o.after.toList) m.am&&bX (rq ops o) m.lk&&bX (qF o) m.ds&&a ms
   | []=>false) l
def Gk(x y:DM):Bool:=bX (md x.ds (dB y.lk y.ds)) 0&&bX (md y.ds x.lk) 0
noncomputable def MR(i:Nat)(m:DM)(l:List DM):Nat→Bool:=
 g8 (motive:=fun _=>Nat→Bool) (fun _=>true)
  (fun n _ a j=>(!(tb m.fr j)||bX j i||tb n.am i||Gk m n)&&a (ik j)) l
noncomputable def Em(all:List DM)(l:List DM):Nat→Bool:=
 g8 (motive:=fun _=>Nat→Bool) (fun _=>true) (fun m _ a i=>MR i m all 0&&a (ik i)) l
def PV:List Oper→Bool
 | []=>true
 |o::os=>(match o.op with| .select .. =>false| .defer _=>false|_=>true)&&PV os
noncomputable def H5(ops:List Oper)(ms:List DM):Bool:=AG ops ops ms&&Em ms ms 0&&PV ops
def wS(o:Oper):vd→vd
 | []=> []
 |(k,S)::l=>bif lY o k then wS o l else(k,S)::wS o l
def yp:vd→ad→Prop→Prop
 | [],_,R=>R
 |(_,S)::l,h,R=>S h∧yp l h R
def Mi(m:DM)(ls:Nat):Bool:=bX (md m.am ls) m.am
noncomputable def o8(ls:Nat)(l:List DM):Nat→List Nat:=
 g8 (motive:=fun _=>Nat→List Nat) (fun _=> []) (fun m _ a j=>bif !(tb ls j)&&Mi m ls then j::a (ik j)else a (ik j)) l
def Iy(m:DM)(i ls n:Nat):Bool:= !(tb ls i)&&Mi m ls&&bX (md (dB ls m.fr) (Bp (jB n))) (Bp (jB n))
def ze:List Nat→List Nat→Bool
 | [],[]=>true
 |a::as,b::bs=>bX a b&&ze as bs
 |_,_=>false
def F7:DA→List Nat
 | .pick i _ l=>i::F7 l
 | .last i _=> [i]
 | .lastT i _=> [i]
 |_=> []
noncomputable def VI(P:Program)(N:Nat)(ops:List Oper)(i:Nat)(L:vd)(d:yW)(r:cZ)(h:ad)(K:vd→yW→cZ→ad→Prop):Prop:=
 match ops[i]? with
 |none=>False
 |some o=>match lB ops d o with
  |some true=>bif zV P o.op then False else KY P o r (fun v h'=>Ev N o v r fun a=>yp (wS o L) h' (K (wS o L) (vZ d o .x) a h')) h
  |_=>False
noncomputable def W4(m:Nat)(l:List DM):Nat→Nat:=
 g8 (motive:=fun _=>Nat→Nat) (fun _=>m) (fun n _ a j=>bif tb m j then dB n.am (a (ik j))else a (ik j)) l
noncomputable def Ey(ms:List DM)(m:Nat):Nat:=W4 (W4 (W4 (W4 m ms 0) ms 0) ms 0) ms 0
def Ou(ms:List DM)(i:Nat):Nat:=match ms[i]? with|some m=>m.am|none=>0
def D3(m:Nat):vd→vd
 | []=> []
 |(k,S)::l=>bif tb m k then D3 m l else(k,S)::D3 m l
noncomputable def Uu(P:Program)(N:Nat)(ops:List Oper)(ms:List DM)(i:Nat)(L:vd)(d:yW)(r:cZ)(h:ad)(K:vd→yW→cZ→ad→Prop):Prop:=
 match ops[i]? with
 |none=>False
 |some o=>match lB ops d o with
  |some true=>bif zV P o.op then False else KY P o r (fun v h'=>Ev N o v r fun a=>yp (D3 (Ey ms (Ou ms i)) L) h' (K (D3 (Ey ms (Ou ms i)) L) (vZ d o .x) a h')) h
  |_=>False
noncomputable def qi(P:Program)(N:Nat)(ops:List Oper)(ms:List DM)(j:DA):Bool→Nat→vd→yW→(cZ→ad→Prop)→cZ→ad→Prop:=
 DA.rec (motive:=fun _=>Bool→Nat→vd→yW→(cZ→ad→Prop)→cZ→ad→Prop)
  (fun m ls _ _ K r h=>bif !m&&ze (o8 ls ms 0) []then K r h else False)
  (fun i _ c m ls L d K r h=>
   match ops[i]?,ms[i]? with
   |some o,some mi=>bif !m&&Iy mi i ls ops.length then
     (match lB ops d o with
      |none=>False
      |some false=>Ev N o undef r fun a=>c false (dB ls (jB i)) L (vZ d o .u) K a h
      |some true=>bif zV P o.op then
       FS P none o.op r (fun v S=>Ev N o v r fun a=>match S with
        |none=>c false (dB ls (jB i)) L (vZ d o (OZ d o.op)) K a h
        |some S=>c false (dB ls (jB i)) ((i,S)::L) (vZ d o (OZ d o.op)) K a h) h
       else False)
    else False
   |_,_=>False)
  (fun l c m ls L d K r h=>bif !m&&ze (o8 ls ms 0) (F7 l)then c true ls L d K r h else False)
  (fun i _ _ e f m ls L d K r h=>bif m then VI P N ops i L d r h (fun L' g a h'=>e false (dB ls (jB i)) L' g K a h')∧f true ls L d K r h else False)
  (fun i _ c m ls L d K r h=>bif m then VI P N ops i L d r h (fun L' g a h'=>c false (dB ls (jB i)) L' g K a h')else False)
  (fun i _ c m ls L d K r h=>bif m then Uu P N ops ms i L d r h (fun L' g a h'=>c false (dB ls (jB i)) L' g K a h')else False)
  (fun t _ _ e f m ls L d K r h=>
   bif m then False else match mU r t with
   |some (.bool b)=>CondP b (e false ls L ((t,.t)::d) K ((t,.bool true)::r) h) (f false ls L ((t,.f)::d) K ((t,.bool false)::r) h)
   |_=>False)
  j
noncomputable def adL(b:Oper)(i:Nat)(ds lk:Nat)(ops:List Oper)(l:List Oper):Nat→Nat:=
 g8 (motive:=fun _=>Nat→Nat) (fun _=>0) (fun p _ a j=>bif (bX j i||lY p i||(bX (md ds (dB (rq ops p) (qF p))) 0&&bX (md (qF p) lk) 0))then dB (jB j) (a (ik j))else a (ik j)) l
noncomputable def ady(ops:List Oper)(l:List Oper):Nat→List DM:=
 g8 (motive:=fun _=>Nat→List DM) (fun _=> []) (fun o _ a i=>.mk (pL o.after.toList) (adL o i (qF o) (rq ops o) ops ops 0) (rq ops o) (qF o)::a (ik i)) l
def acf(P:Program)(w:Option Bool)(o:Oper):Bool:=match w with|some false=>true|some true=>zV P o.op|none=>false
noncomputable def abQ(P:Program)(ops:List Oper)(d:yW)(ls n:Nat)(l:List Oper):List DM→Nat→Option (Nat×Oper):=
 g8 (motive:=fun _=>List DM→Nat→Option (Nat×Oper)) (fun _ _=>none)
  (fun o _ a ms j=>match ms with
   | []=>none
   |m::ms=>bif Iy m j ls n&&acf P (lB ops d o) o then some (j,o)else a ms (ik j)) l
noncomputable def abR(ops:List Oper)(d:yW)(ls:Nat)(l:List Oper):List DM→Nat→Option Nat:=
 g8 (motive:=fun _=>List DM→Nat→Option Nat) (fun _ _=>none)
  (fun o _ a ms j=>match ms with
   | []=>none
   |m::ms=>match bif !(tb ls j)&&Mi m ls then(match lB ops d o with|none=>JA ops o|some _=>none)else none with
    |some t=>some t
    |none=>a ms (ik j)) l
noncomputable def acz(ops:List Oper)(k:Nat→yW→DA)(ls:Nat)(d:yW)(l:List Nat):DA:=
 g8 (motive:=fun _=>DA) .done (fun i a b=>match ops[i]? with
  |none=>.done
  |some o=>match a with
   | []=>.last i (k (dB ls (jB i)) (vZ d o .x))
   |_=>.pick i (k (dB ls (jB i)) (vZ d o .x)) b) l
noncomputable def ab1(P:Program)(ops:List Oper)(ms:List DM)(fuel:Nat):Nat→yW→DA:=
 Nat.rec (motive:=fun _=>Nat→yW→DA) (fun _ _=>.done) (fun _ a ls d=>
  match abQ P ops d ls ops.length ops ms 0 with
  |some (i,o)=>.take i (a (dB ls (jB i)) (match lB ops d o with|some false=>vZ d o .u|_=>vZ d o (OZ d o.op)))
  |none=>match abR ops d ls ops ms 0 with
   |some t=>.split t (a ls ((t,.t)::d)) (a ls ((t,.f)::d))
   |none=>match o8 ls ms 0 with
    | []=>.done
    |l=>.all (acz ops a ls d l)) fuel
noncomputable def UK(ops:List Oper):List DM:=ady ops ops 0
inductive Ex where
 |exit (id:Nat)
 |ret
abbrev St:=List (Nat×Kind)
def CL:St→List Kind
 | []=> []
 |(_,k)::l=>k::CL l
noncomputable def IE(r:cZ):St→Option (List Value)
 | []=>some []
 |(i,_)::l=>match mU r i,IE r l with
  |some v,some vs=>some (v::vs)
  |_,_=>none
noncomputable def GN(st:St)(r:cZ)(f:zU (CL st)→Prop):Prop:=
 match IE r st with
 |some vs=>HJ (CL st) vs f
 |none=>False
def qA:St→List Value→cZ→cZ
 |(i,_)::l,v::vs,r=>(i,v)::qA l vs r
 |_,_,r=>r
noncomputable def UT(r:cZ)(l:List Nat):Option cZ:=
 g8 (motive:=fun _=>Option cZ) (some []) (fun t _ a=>match mU r t,a with
  |some v,some l=>some ((t,v)::l)
  |_,_=>none) l
noncomputable def oT(t:Nat)(l:List Oper):Bool:=
 g8 (motive:=fun _=>Bool) false (fun o _ a=>match o.dst with|some d=>bif bX d t then true else a|none=>a) l
noncomputable def je(t:Nat)(c:Code):Bool:=
 Code.rec (motive:=fun _=>Bool) false (fun _ ops _=>oT t ops.toList) (fun _ _ a b=>bif a then true else b) (fun _ _ _ a b=>bif a then true else b)
  (fun _ _ b=>b) (fun _ b=>b) (fun _ _ _ _ _ _=>true) (fun _=>false) (fun _ b=>b) (fun _=>false) (fun _=>false) false (fun _=>false) c
inductive Ann where
 |nil
 |node (a b:Ann)
 |join (st:St) (a b:Ann)
 |loop (st:St) (b:Ann)
 |draw (d:DA)
 |kinds (k v:Kind)
 |reg (keep:List Nat) (inner:Ann)
 |rf (ks:List Kind) (a b:Ann)
def Ann.l:Ann→Ann
 | .node a _=>a
 | .rf _ a _=>a
 |_=>.nil
def Ann.r:Ann→Ann
 | .node _ b=>b
 | .rf _ _ b=>b
 |_=>.nil
noncomputable def Xh(l:List Oper):Nat:=g8 (motive:=fun _=>Nat) 0 (fun o _ a=>dB (qF o) a) l
def acC:Option Nat→Option Nat→Option Nat
 |some a,some b=>some (dB a b)
 |_,_=>none
noncomputable def B7(c:Code):Option Nat:=
 Code.rec (motive:=fun _=>Option Nat) (some 0) (fun _ ops _=>some (Xh ops.toList)) (fun _ _ a b=>acC a b) (fun _ _ _ a b=>acC a b)
  (fun _ _ b=>b) (fun _ b=>b) (fun _ _ _ _ _ _=>none) (fun _=>some 0) (fun _ b=>b) (fun _=>some 0) (fun _=>some 0) (some 0) (fun _=>some 0) c
noncomputable def AK(m:Nat)(r:cZ):cZ:=g8 (motive:=fun _=>cZ) [] (fun b _ a=>bif tb m b.1 then a else b::a) r
noncomputable def FJ(P:Program)(N:Nat)(ops:List Oper)(b:Bool)(a:Ann)(Kn:cZ→ad→Prop)(r:cZ)(h:ad):Prop:=
 match b with
 |false=>(match a with
  | .kinds kk vk=>IM P N (some (kk,vk)) ops ops [] Kn r h
  |_=>IM P N none ops ops [] Kn r h)
 |true=>bif H5 ops (UK ops)then qi P N ops (UK ops) (match a with| .draw da=>da|_=>ab1 P ops (UK ops) (Nat.add (Nat.add ops.length ops.length) 2) 0 []) false 0 [] [] Kn r h else False
noncomputable def ot(P:Program)(N:Nat)(c:Code):Ann→(cZ→ad→Prop)→(Ex→cZ→ad→Prop)→cZ→ad→Prop:=
 Code.rec (motive:=fun _=>Ann→(cZ→ad→Prop)→(Ex→cZ→ad→Prop)→cZ→ad→Prop)
  (fun _ Kn _ r h=>Kn r h)
  (fun _ ops p d Kn _ r h=>match d with
   | .reg keep d=>FJ P N ops.toList p d (fun f h'=>match UT f keep with|some r0=>Kn r0 h'|none=>False) r h
   |d=>FJ P N ops.toList p d Kn r h)
  (fun a _ g j d Kn Kx r h=>match d with
   | .join st aa ab=>(match B7 a with
     |none=>False
     |some m=>Join (T:=zU (CL st)) (fun t h'=>j ab Kn Kx (qA st (qq (CL st) t) (AK m r)) h')
      fun J=>g aa (fun f h'=>GN st f fun t=>J t h') Kx r h)
   |d=>g d.l (fun f h'=>j d.r Kn Kx f h') Kx r h)
  (fun c _ _ g j d Kn Kx r h=>match eD r c with
   |some (.bool t)=>CondP t (g d.l Kn Kx r h) (j d.r Kn Kx r h)
   |_=>False)
  (fun id _ o d Kn Kx r h=>o d Kn (fun e f h'=>match e with
    | .exit i=>bif bX i id then Kn f h' else Kx (.exit i) f h'
    | .ret=>Kx .ret f h') r h)
  (fun b o d _ Kx r h=>match d with
   | .loop st ab=>(match B7 b with
     |none=>False
     |some m=>GN st r fun t0=>LoopP (T:=zU (CL st)) (fun k t h'=>o ab (fun f n=>GN st f fun q=>k q n) Kx (qA st (qq (CL st) t) (AK m r)) h') t0 h)
   |_=>False)
  (fun _ _ _ _ _ _ _ _ _ _ _=>False)
  (fun id _ _ Kx r h=>Kx (.exit id) r h)
  (fun _ _ _ _ _ _ _=>False)
  (fun _ _ Kn _ r h=>Kn r h)
  (fun _ _ _ _ _ _=>False)
  (fun _ _ Kx r h=>Kx .ret r h)
  (fun _ _ _ _ _ _=>False)
  c
noncomputable def qB(P:Program)(r:cZ)(h:ad):List ResultVar→(List Value→Prop)→Prop
 | [],K=>K []
 | .tmp t::l,K=>(match mU r t with|some v=>qB P r h l fun vs=>K (v::vs)|none=>False)
 | .cell a t::l,K=>(match mU r a with
  |some v=>PD P t v (fun x _=>qB P r h l fun vs=>K (x::vs)) h
  |none=>False)
def uo:Nat→List Value→cZ
 |_,[]=> []
 |i,v::vs=>(i,v)::uo (i+1) vs
noncomputable def Uv(P:Program)(fn:Func)(c:Code)(a:Ann)(args:List Value)(ks:List Kind)(K:zU ks→ad→Prop)(h:ad):Prop:=
 ot P fn.ntmps c a
  (fun r h'=>qB P r h' fn.results.toList fun vs=>HJ ks vs fun t=>K t h')
  (fun e r h'=>match e with
   | .ret=>qB P r h' fn.results.toList fun vs=>HJ ks vs fun t=>K t h'
   | .exit _=>False)
  (uo 0 args) h
noncomputable def vT(c:Code):Bool:=
 Code.rec (motive:=fun _=>Bool) false (fun _ _ _=>false) (fun _ _ a b=>bif a then true else b) (fun _ _ _ a b=>bif a then true else b)
  (fun _ _ b=>b) (fun _ b=>b) (fun _ _ _ _ _ _=>true) (fun _=>false) (fun _ b=>b) (fun _=>false) (fun _=>false) false (fun _=>false) c
def N8:Option Ex→Option Code
 |none=>none
 |some (.exit i)=>some (.exit i)
 |some .ret=>some .ret
def adM(N:ad→Prop)(X:Nat→ad→Prop)(R:ad→Prop):Option Ex→ad→Prop
 |none=>N
 |some (.exit i)=>X i
 |some .ret=>R
structure RangeP(P:Program)(fv:Value)(ks:List Kind)(h:ad)(RT:Obj→Obj→zU ks→(Option Ex→ad→Prop)→ad→Prop)(N:ad→Prop)(X:Nat→ad→Prop)(R:ad→Prop):Prop where
 run:∀lo:LoopState→Option Ex→Obj,(∀s j,∃r,lo s j=.loop r)→
  (∀x h' K,h'[h.size+1]? =some (lo .ready none)→
   RT (lo .ready none) (lo .busy none) x (fun j h2=>h2[h.size+1]? =some (lo .busy none)∧K j.isNone (h2.setIfInBounds (h.size+1) (lo (if j.isNone then .ready else .done) j))) h'→
   HV P (.func (.yield (h.size+1)) #[] #[]) (qq ks x) [.c .bool] K h')→
  ∃f first cap,fv=.func (.func f) first cap∧HE P f (first.toList++ [.func (.yield (h.size+1)) #[] #[]]++cap.toList) []
   (fun _ h2=>∃s j,s≠ .busy∧h2[h.size+1]? =some (lo s j)∧adM N X R j (h2.setIfInBounds (h.size+1) (lo .exhausted j))) ((h.push (.deferred (some []))).push (lo .ready none))
def Zs:List Nat→List Value→cZ→cZ
 |i::l,v::vs,r=>Zs l vs ((i,v)::r)
 |_,_,r=>r
noncomputable def RL(P:Program)(N:Nat)(ps:List Nat)(ks:List Kind)(assign body:Code)(a:Ann)(r:cZ)(l:Nat)(Mi c:Obj)(x:zU ks)(k:Option Ex→ad→Prop)(h:ad):Prop:=
 ot P N assign a.l (fun r1 b=>b[l]? =some Mi∧ot P N body a.r (fun _ h2=>k none h2) (fun e _ h2=>k (some e) h2) r1 (b.setIfInBounds l c)) (fun _ _ _=>False) (Zs ps (qq ks x) r) h
def CV(N:Nat):List Nat→Bool
 | []=>true
 |n::l=>Nat.blt n N&&CV N l
noncomputable def CQ(P:Program)(N:Nat)(c:Code):Ann→(List Nat→cZ→ad→Prop)→(Ex→List Nat→cZ→ad→Prop)→List Nat→cZ→ad→Prop:=
 Code.rec (motive:=fun _=>Ann→(List Nat→cZ→ad→Prop)→(Ex→List Nat→cZ→ad→Prop)→List Nat→cZ→ad→Prop)
  (fun d Kn Kx ms r h=>ot P N .skip d (Kn ms) (fun e=>Kx e ms) r h)
  (fun id ops p d Kn Kx ms r h=>ot P N (.region id ops p) d (Kn ms) (fun e=>Kx e ms) r h)
  (fun a b f j d Kn Kx ms r h=>bif (bif vT a then true else vT b)then f d.l (fun ms m h'=>j d.r Kn Kx ms m h') Kx ms r h
   else ot P N (.seq a b) d (Kn ms) (fun e=>Kx e ms) r h)
  (fun c a b f j d Kn Kx ms r h=>bif (bif vT a then true else vT b)then
    (match eD r c with
     |some (.bool t)=>CondP t (f d.l Kn Kx ms r h) (j d.r Kn Kx ms r h)
     |_=>False)
   else ot P N (.cond c a b) d (Kn ms) (fun e=>Kx e ms) r h)
  (fun id b o d Kn Kx ms r h=>bif vT b then o d Kn (fun e ms m h'=>match e with
    | .exit i=>bif bX i id then Kn ms m h' else Kx (.exit i) ms m h'
    | .ret=>Kx .ret ms m h') ms r h
   else ot P N (.block id b) d (Kn ms) (fun e=>Kx e ms) r h)
  (fun b _ d Kn Kx ms r h=>ot P N (.loop b) d (Kn ms) (fun e=>Kx e ms) r h)
  (fun g ps assign body _ _ d Kn Kx ms r h=>match d with
   | .rf ks aa ab=>bif CV N ps.toList&&bX ps.toList.length ks.length then
    (match eD r g with
     |some fv=>RangeP P fv ks h (fun Mi n x k h'=>RL P N ps.toList ks assign body (.node aa ab) r (h.size+1) Mi n x k h')
      (fun h'=>Kn (h.size::ms) r h') (fun i h'=>Kx (.exit i) (h.size::ms) r h') (fun h'=>Kx .ret (h.size::ms) r h')
     |none=>False)else False
   |_=>False)
  (fun id d Kn Kx ms r h=>ot P N (.exit id) d (Kn ms) (fun e=>Kx e ms) r h)
  (fun _ _ _ _ _ _ _ _=>False)
  (fun l d Kn Kx ms r h=>ot P N (.label l) d (Kn ms) (fun e=>Kx e ms) r h)
  (fun _ _ _ _ _ _ _=>False)
  (fun d Kn Kx ms r h=>ot P N .ret d (Kn ms) (fun e=>Kx e ms) r h)
  (fun _ _ _ _ _ _ _=>False)
  c
def Ut:List Nat→(ad→Prop)→ad→Prop
 | [],K,h=>K h
 |D::ms,K,h=>h[D]? =some (.deferred (some []))∧Ut ms K (h.setIfInBounds D (.deferred none))
noncomputable def RM(P:Program)(fn:Func)(c:Code)(a:Ann)(args:List Value)(ks:List Kind)(K:zU ks→ad→Prop)(h:ad):Prop:=
 CQ P fn.ntmps c a
  (fun ms r h'=>Ut ms (fun h'=>qB P r h' fn.results.toList fun vs=>HJ ks vs fun t=>K t h') h')
  (fun e ms r h'=>match e with
   | .ret=>Ut ms (fun h'=>qB P r h' fn.results.toList fun vs=>HJ ks vs fun t=>K t h') h'
   | .exit _=>False)
  [] (uo 0 args) h
end Go.Lift
namespace Go.Lift
open Go
theorem Ka(a:Addr):adr a 0=a:=rfl
theorem EF(a:Addr)(n:Nat):adr a (n+1)=⟨a.block,a.off+(n+1),none⟩:=rfl
theorem xY(a:Addr)(n:Nat):adr a n=a.add n:=by
 cases n with
 |zero=>simp[Ka,Addr.add]
 |succ n=>simp[EF,Addr.add]
theorem sy(a:Addr)(m n:Nat):adr (adr a m) n=adr a (m+n):=by
 cases n with
 |zero=>rfl
 |succ n=>cases m with
  |zero=>simp[Ka]
  |succ m=>rw[EF,EF,show m+1+(n+1)=(m+1+n)+1 from rfl,EF];simp;omega
theorem Tame.refl(w:World):Tame w w:=⟨rfl,rfl,rfl⟩
theorem Tame.trans{a b c:World}(h:Tame a b)(k:Tame b c):Tame a c:=⟨k.os.trans h.os,k.tape.trans h.tape,k.output.trans h.output⟩
theorem Ej{a b:IntKind}(h:N1 a b=true):a=b:=by cases a<;>cases b<;>first|rfl|cases h
theorem CK.dec_sound{c:CK}{v:Value}{f:c.den→Prop}(h:c.dec v f):∃x,v=c.enc x∧f x:=by
 cases c<;>cases v<;>try simp only[CK.dec]at h
 case int.int k k' n=>
  cases hk:N1 k' k with
  |false=>rw[hk]at h;exact h.elim
  |true=>rw[hk]at h;have:=Ej hk;subst this;exact⟨n,rfl,h⟩
 case adr.pointer p=>cases p with
  |none=>exact h.elim
  |some a=>exact⟨a,rfl,h⟩
 all_goals first|exact h.elim|exact⟨_,rfl,h⟩
theorem He:∀{cs:List CK} {vs:List Value} {f:Zb cs→Prop},Vd cs vs f→∃t,vs=YO cs t∧f t
 | [],[],f,h=>⟨(),rfl,h⟩
 | [],_::_,f,h=>h.elim
 | [c],[v],f,h=>by obtain⟨x,rfl,a⟩:=CK.dec_sound h;exact⟨x,rfl,a⟩
 | [c],[],f,h=>h.elim
 | [c],_::_::_,f,h=>h.elim
 |c::d::cs,[],f,h=>h.elim
 |c::d::cs,[_],f,h=>h.elim
 |c::d::cs,v::u::vs,f,h=>by
  have e:c.dec v fun x=>Vd (d::cs) (u::vs) fun t=>f (x,t):=h
  obtain⟨x,hx,b⟩:=CK.dec_sound e;obtain⟨t,g,h2⟩:=He (cs:=d::cs) (vs:=u::vs) b;exact⟨(x,t),by rw[g,hx];rfl,h2⟩
theorem Kind.dec_sound{k:Kind}{v:Value}{f:k.den→Prop}(h:k.dec v f):∃x,v=k.enc x∧f x:=by
 cases k with
 |c k=>exact CK.dec_sound h
 |agg cs=>
  cases v<;>simp only[Kind.dec]at h
  case agg vs=>
   obtain⟨t,b,a⟩:=He h;exact⟨t,by simp only[Kind.enc,←b],a⟩
theorem vY:∀{ks:List Kind} {vs:List Value} {f:zU ks→Prop},HJ ks vs f→∃t,vs=qq ks t∧f t
 | [],[],f,h=>⟨(),rfl,h⟩
 | [],_::_,f,h=>h.elim
 | [c],[v],f,h=>by obtain⟨x,rfl,a⟩:=Kind.dec_sound h;exact⟨x,rfl,a⟩
 | [c],[],f,h=>h.elim
 | [c],_::_::_,f,h=>h.elim
 |c::d::cs,[],f,h=>h.elim
 |c::d::cs,[_],f,h=>h.elim
 |c::d::cs,v::u::vs,f,h=>by
  have e:c.dec v fun x=>HJ (d::cs) (u::vs) fun t=>f (x,t):=h
  obtain⟨x,hx,b⟩:=Kind.dec_sound e;obtain⟨t,g,h2⟩:=vY (ks:=d::cs) (vs:=u::vs) b;exact⟨(x,t),by rw[g,hx];rfl,h2⟩
theorem w8:∀(ks:List Kind) (t:zU ks),(qq ks t).length=ks.length
 | [],_=>rfl
 | [_],_=>rfl
 |_::l::ks,(_,t)=>by simp only[qq,ar,w8 (l::ks) t]
structure Agree(N:Nat)(r:cZ)(a:Act):Prop where
 size:a.tmps.size=N
 look:∀t v,mU r t=some v→a.tmps.getD t undef=v
theorem kO(k:Nat)(v:Value)(r:cZ):mU ((k,v)::r) k=some v:=by rw[IW,show bX k k=true from Nat.beq_refl k];rfl
theorem jF{k t:Nat}(v:Value)(r:cZ)(h:k≠t):mU ((k,v)::r) t=mU r t:=by
 rw[IW];have:bX k t=false:=Bool.eq_false_iff.2 fun e=>h (bw e)
 rw[this];rfl
theorem Agree.put{N:Nat}{r:cZ}{a:Act}(h:Agree N r a)(d:Nat)(v:Value)(hd:d<N):Agree N ((d,v)::r) (a.put (some d) v):=by
 refine⟨by simp[Act.put,h.size],fun t u b=>?_⟩
 by_cases e:d=t
 ·subst e
  rw[kO]at b;cases b;simp[Act.put,h.size,hd]
 ·rw[jF v r e]at b
  have:=h.look t u b;simpa[Act.put,Array.getElem?_setIfInBounds_ne e]using this
theorem Agree.known{N:Nat}{r:cZ}{a:Act}(h:Agree N r a){t:Nat}{v:Value}(hv:mU r t=some v):Agree N ((t,v)::r) a:=by
 refine⟨h.size,fun s u b=>?_⟩
 by_cases e:t=s
 ·subst e;rw[kO]at b;cases b;exact h.look t v hv
 ·rw[jF v r e]at b;exact h.look s u b
theorem oZ{N:Nat}{r:cZ}{a:Act}(h:Agree N r a){o:Operand}{v:Value}(hv:eD r o=some v):a.eval o=v:=by
 cases o with
 |tmp t=>exact h.look t v hv
 |const c=>simp[eD]at hv;subst hv;rfl
 |global g=>simp[eD]at hv;subst hv;rfl
 |func f=>simp[eD]at hv;subst hv;rfl
theorem rL{N:Nat}{r:cZ}{a:Act}(h:Agree N r a):∀{os:List Operand} {vs:List Value},uU r os=some vs→os.map a.eval=vs
 | [],vs,hv=>by simp[uU]at hv;subst hv;rfl
 |o::os,vs,hv=>by
  simp only[uU]at hv;cases ho:eD r o with
  |none=>simp[ho]at hv
  |some v=>cases hos:uU r os with
   |none=>simp[ho,hos]at hv
   |some us=>simp[ho,hos]at hv;subst hv;simp[oZ h ho,rL h hos]
theorem aH{P:Program}{t:TypeId}{d:TypeDesc}(h:P.underlying t=some d)(w:World):(underlying t).run P w=.ok d w:=by
 simp only[underlying,program,bind,Sem.bind,Sem.run,h,pure]
theorem dz{P:Program}{t:TypeId}{i:TypeInfo}(h:P.info? t=some i)(w:World):(typeInfo t).run P w=.ok i w:=by
 simp only[typeInfo,program,bind,Sem.bind,Sem.run,h,pure]
theorem lP{P:Program}{s:Sem Value}{v:Value}{w a:World}(h:s.run P w=.ok v a):(do pure (Next.value (←s)):Sem Next).run P w=.ok (.value v) a:=by
 simp[h]
theorem XL{P:Program}{s:Sem Unit}{w a:World}(h:s.run P w=.ok () a):(do s;pure Next.skip:Sem Next).run P w=.ok .skip a:=by
 simp[h]
theorem D1{P:Program}{w:World}{a:Addr}{v:Value}(h:aJ w.heap a=some v):(load a).run P w=.ok v w:=by
 have h':w.cell? a=some v:=h;simp[h']
theorem EB{v:Value}{vs:List Value}{i:Nat}{a:Addr}{h:ad}:xd (v::vs) i a h↔aJ h (adr a i)=some v∧xd vs (i+1) a h:=by
 cases vs with
 |nil=>simp[xd]
 |cons u us=>rfl
theorem wR{P:Program}{w:World}{a:Addr}:∀(vs:List Value) (i:Nat) (acc:Array Value),xd vs i a w.heap→
  (loadCellsFrom a i vs.length acc).run P w=.ok (acc++vs.toArray) w
 | [],i,acc,_=>by simp[loadCellsFrom]
 |v::vs,i,acc,h=>by
  obtain⟨b,h2⟩:=EB.1 h;rw[xY]at b;have:=wR (P:=P) (w:=w) (a:=a) vs (i+1) (acc.push v) h2;simp only[ar,loadCellsFrom,Sem.run_bind,D1 b,Result.andThen_ok,this];simp
theorem K6{P:Program}{w:World}{a:Addr}{vs:List Value}(h:xd vs 0 a w.heap):(loadCells a vs.length).run P w=.ok vs.toArray w:=by
 have:=wR (P:=P) (w:=w) (a:=a) vs 0 #[] h;simpa[loadCells]using this
theorem Cg:∀(cs:List CK) (i:Nat) (a:Addr) (h:ad) (k:List Value→Prop),N9 cs i a h k→∃vs,vs.length=cs.length∧xd vs i a h∧k vs
 | [],i,a,h,k,b=>⟨[],rfl,trivial,b⟩
 |c::cs,i,a,h,k,b=>by
  obtain⟨x,hx,b⟩:=b;obtain⟨vs,d,hc,b⟩:=Cg cs (i+1) a h _ b;exact⟨c.enc x::vs,by simp[d],EB.2 ⟨hx,hc⟩,b⟩
theorem Ez:∀{vs:List Value} {cs:List CK},JP vs=some cs→cs.length=vs.length
 | [],cs,h=>by simp[JP]at h;subst h;rfl
 |v::vs,cs,h=>by
  simp only[JP]at h;cases h1:abY v with
  |none=>simp[h1]at h
  |some c=>cases h2:JP vs with
   |none=>simp[h1,h2]at h
   |some ds=>simp[h1,h2]at h;subst h;simp[Ez h2]
def Y7(P:Program)(t:TypeId)(i:TypeInfo):Kind→Prop
 | .c _=>zH P t=false
 | .agg cs=>zH P t=true∧i.size=cs.length
theorem SE{P:Program}{t:TypeId}{k:Kind}(h:UR P t=some k):∃i,P.info? t=some i∧Y7 P t i k:=by
 unfold UR B5 at h;cases hi:P.info? t with
 |none=>simp[hi]at h
 |some i=>
  refine⟨i,rfl,?_⟩;cases hz:i.zero with
  |none=>simp[hi,hz]at h
  |some z=>
   rw[hi]at h;simp only[hz]at h;cases z;case agg vs=>
    simp only at h;cases hb:(zH P t&&bX vs.toList.length (cB P t))with
    |false=>rw[hb]at h;simp at h
    |true=>
     rw[hb]at h;simp only[cond_true]at h;simp only[Bool.and_eq_true]at hb;have a:=bw hb.2;cases hd:JP vs.toList with
     |none=>rw[hd]at h;simp at h
     |some ds=>
      rw[hd]at h;simp only[bO.injEq]at h;subst h;exact⟨hb.1,by rw[Ez hd,a];simp[cB,hi]⟩
   all_goals
    simp only at h;cases ha:zH P t
    ·rw[ha]at h
     simp only[cond_false]at h;split at h
     ·simp only[bO.injEq]at h;subst h;exact ha
     ·simp at h
    ·rw[ha]at h;simp at h
theorem SF{P:Program}{t:TypeId}{k:Kind}(h:Js P t=some k):(∀w,(isAgg t).run P w=.ok (zH P t) w)∧UR P t=some k:=by
 unfold Js at h;cases hu:P.underlying t with
 |none=>simp[hu]at h
 |some d=>
  simp only[hu]at h;refine⟨fun w=>?_,h⟩
  simp only[isAgg,Sem.run_bind,aH hu,Result.andThen_ok];unfold zH;rw[hu];cases d<;>rfl
theorem GT{P:Program}{t:TypeId}{v:Value}{K:RK}{h:ad}(b:PD P t v K h):
  ∃u S,K u (some S)∧S h∧∀w:World,S w.heap→(Instr.loadAt t v).run P w=.ok u w:=by
 unfold PD at b;cases v with
 |pointer p=>
  cases p with
  |none=>exact b.elim
  |some a=>
   simp only at b;cases hk:Js P t with
   |none=>simp[hk]at b
   |some k=>
    obtain⟨d,f⟩:=SF hk;obtain⟨i,hi,hc⟩:=SE f;rw[hk]at b;cases k with
    |c c=>
     obtain⟨x,hx,j⟩:=b;refine⟨_,_,j,hx,fun w g=>?_⟩
     have hc:zH P t=false:=hc;simp only[Instr.loadAt,Instr.sureAddr,loadVar,Sem.run_bind,Sem.run_pure,Result.andThen_ok,d,hc];simp[D1 g]
    |agg cs=>
     obtain⟨vs,e,m,j⟩:=Cg cs 0 a h _ b;obtain⟨n,h2⟩:zH P t=true∧i.size=cs.length:=hc;refine⟨_,_,j,m,fun w g=>?_⟩
     have f:(sizeOf t).run P w=.ok vs.length w:=by simp[sizeOf,dz hi,h2,e]
     simp only[Instr.loadAt,Instr.sureAddr,loadVar,Sem.run_bind,Sem.run_pure,Result.andThen_ok,d,n];simp[f,K6 g]
 |_=>exact b.elim
end Go.Lift
