/- A part of the proof that the named laws of this program answer true, whatever the input. -/
import Derived.OrdersIn
import Derived.Below
import Derived.WalkKit
import Derived.RangeFuncRecord
open BitVec renaming ofInt→ao
open Iff renaming rfl→yZ
open List renaming rec→gg,replicate→gQ,length_cons→ar
open Nat renaming succ→gv,beq→bU,ble→yY,min→eB,land→kG,lor→dw,pred→yC,eq_of_beq_eq_true→bm
open Option renaming some→bK
namespace Go.Lift
abbrev ae:=Array Obj
def aP(h:ae)(a:Addr):Option Value:=
 match h[a.block]? with
 |some (.cells c _ _)=>if a.spot.isSome then none else c[a.off]?
 |_=>none
def Ff(h:ae)(a:Addr):Bool:=
 match h[a.block]? with
 |some (.cells _ _ (lo,hi))=>lo≤a.off&&a.off<hi
 |_=>false
def hset(h:ae)(a:Addr)(v:Value):ae:=
 h.modify a.block fun
  | .cells c elem frozen=>.cells (if a.spot.isSome then c else c.setIfInBounds a.off v) elem frozen
  |o=>o
noncomputable def adr(a:Addr)(n:Nat):Addr:=Nat.rec (motive:=fun _=>Addr) a (fun n _=>⟨a.block,a.off+gv n,none⟩) n
def Wr(h:ae)(a:Addr):Prop:=(∃v,aP h a=some v)∧Ff h a=false
structure Tame(w w':World):Prop where
 os:w'.os=w.os
 tape:w'.tape=w.tape
 output:w'.output=w.output
structure SliceV where
 a:Option Addr
 len:Nat
 cap:Nat
def KW:IntKind→IntKind→Bool
 | .i8,.i8=>true| .i16,.i16=>true| .i32,.i32=>true| .i64,.i64=>true
 | .u8,.u8=>true| .u16,.u16=>true| .u32,.u32=>true| .u64,.u64=>true
 |_,_=>false
inductive CK where
 |int (k:IntKind)|bool|str|ptr|slice|map|chan|raw|adr
def CK.den:CK→Type
 | .int _=>Int| .bool=>Bool| .str=>ByteArray| .ptr=>Option Addr| .slice=>SliceV| .map=>Option Nat| .chan=>Option Nat| .raw=>Value| .adr=>Addr
def CK.enc:(c:CK)→c.den→Value
 | .int k,n=>.int k n
 | .bool,b=>.bool b
 | .str,s=>.string s
 | .ptr,p=>.pointer p
 | .slice,s=>.slice s.a s.len s.cap
 | .map,r=>.map r
 | .chan,r=>.chan r
 | .raw,v=>v
 | .adr,a=>.pointer (some a)
def CK.dec:(c:CK)→Value→(c.den→Prop)→Prop
 | .int k,.int k' n,f=>bif KW k' k then f n else False
 | .bool,.bool b,f=>f b
 | .str,.string s,f=>f s
 | .ptr,.pointer p,f=>f p
 | .slice,.slice a l c,f=>f ⟨a,l,c⟩
 | .map,.map r,f=>f r
 | .chan,.chan r,f=>f r
 | .raw,v,f=>f v
 | .adr,.pointer (some a),f=>f a
 |_,_,_=>False
def Vh:List CK→Type
 | []=>Unit
 | [c]=>c.den
 |c::d::cs=>c.den×Vh (d::cs)
def UT:(cs:List CK)→Vh cs→List Value
 | [],_=> []
 | [c],x=> [c.enc x]
 |c::d::cs,(x,t)=>c.enc x::UT (d::cs) t
def Rd:(cs:List CK)→List Value→(Vh cs→Prop)→Prop
 | [],[],f=>f ()
 | [c],[v],f=>c.dec v f
 |c::d::cs,v::u::vs,f=>c.dec v fun x=>Rd (d::cs) (u::vs) fun t=>f (x,t)
 |_,_,_=>False
inductive Kind where
 |c (k:CK)
 |agg (cs:List CK)
def Kind.den:Kind→Type
 | .c k=>k.den
 | .agg cs=>Vh cs
def Kind.enc:(k:Kind)→k.den→Value
 | .c k,x=>k.enc x
 | .agg cs,t=>.agg (UT cs t).toArray
def Kind.dec:(k:Kind)→Value→(k.den→Prop)→Prop
 | .c k,v,f=>k.dec v f
 | .agg cs,.agg vs,f=>Rd cs vs.toList f
 |_,_,_=>False
def cQ:List Kind→Type
 | []=>Unit
 | [k]=>k.den
 |k::l::ks=>k.den×cQ (l::ks)
def oA:(ks:List Kind)→cQ ks→List Value
 | [],_=> []
 | [k],x=> [k.enc x]
 |k::l::ks,(x,t)=>k.enc x::oA (l::ks) t
def EU:(ks:List Kind)→List Value→(cQ ks→Prop)→Prop
 | [],[],f=>f ()
 | [k],[v],f=>k.dec v f
 |k::l::ks,v::u::vs,f=>k.dec v fun x=>EU (l::ks) (u::vs) fun t=>f (x,t)
 |_,_,_=>False
def F0(ks:List Kind)(vs:List Value):Value:=
 match ks,vs with
 | [_],[v]=>v
 |_,vs=>.tuple vs.toArray
def X6:Value→Option CK
 | .int k _=>some (.int k)
 | .bool _=>some .bool
 | .string _=>some .str
 | .pointer _=>some .ptr
 | .slice .. =>some .slice
 | .map _=>some .map
 | .chan _=>some .chan
 | .nilFunc=>some .raw
 | .nilIface=>some .raw
 |_=>none
def GH:List Value→Option (List CK)
 | []=>some []
 |v::vs=>match X6 v,GH vs with
  |some c,some cs=>some (c::cs)
  |_,_=>none
def wY(P:Program)(t:TypeId):Bool:=
 match P.underlying t with
 |some (.struct _)|some (.array _ _)=>true
 |_=>false
def cz(P:Program)(t:TypeId):Nat:=match P.info? t with|some i=>i.size|none=>0
def rO(P:Program)(t:TypeId):Nat:=match P.info? t with|some i=>i.bytes|none=>0
def zh(P:Program)(t:TypeId):Option Value:=match P.info? t with|some i=>i.zero|none=>none
def QU(P:Program)(t:TypeId):Option Kind:=
 match zh P t with
 |some (.agg vs)=>bif wY P t&&bU vs.toList.length (cz P t)then(match GH vs.toList with|some cs=>some (.agg cs)|none=>none)else none
 |some v=>bif wY P t then none else(match X6 v with|some c=>some (.c c)|none=>none)
 |none=>none
def Gk(P:Program)(t:TypeId):Option Kind:=
 match P.underlying t with
 |none=>none
 |some _=>QU P t
structure HC(P:Program)(f:FuncId)(args:List Value)(ks:List Kind)(K:cQ ks→ae→Prop)(h:ae):Prop where
 run:∀w:World,w.heap=h→
  ((callFunc f args.toArray).run P w=.ok (.enter f args.toArray) w∧
   Calls P f args.toArray w fun e w'=>Tame w w'∧∃t:cQ ks,e=.returned (F0 ks (oA ks t))∧K t w'.heap)∨
  (∃v w',(callFunc f args.toArray).run P w=.ok (.value v) w'∧Tame w w'∧∃t:cQ ks,v=F0 ks (oA ks t)∧K t w'.heap)
structure HE(P:Program)(f:FuncId)(args:List Value)(ks:List Kind)(K:cQ ks→ae→Prop)(h:ae):Prop where
 run:∀w:World,w.heap=h→(∀(args:Array Value) (w:World),(callFunc f args).run P w=.ok (.enter f args) w)∧
  Calls P f args.toArray w fun e w'=>Tame w w'∧∃t:cQ ks,e=.returned (F0 ks (oA ks t))∧K t w'.heap
theorem HE.hc{P:Program}{f:FuncId}{args:List Value}{ks:List Kind}{K:cQ ks→ae→Prop}{h:ae}(e:HE P f args ks K h):HC P f args ks K h:=
 ⟨fun w hw=>.inl ⟨(e.run w hw).1 _ w,(e.run w hw).2⟩⟩
structure HY(P:Program)(l:Nat)(args:List Value)(K:Bool→ae→Prop)(h:ae):Prop where
 run:∀w:World,w.heap=h→∃fn tmps assign body,(Instr.yield l args.toArray).run P w=.ok (.round l fn tmps assign body) w∧
  ∀(c:Frame) (cs:List Frame),∃b w',Tame w w'∧K b w'.heap∧Steps P (lone (Frame.round l fn tmps assign body .normal) (c::cs) w) (lone (c.finish (.bool b)) cs w')
structure HV(P:Program)(fv:Value)(args:List Value)(ks:List Kind)(K:cQ ks→ae→Prop)(h:ae):Prop where
 run:(∃f first cap,fv=.func (.func f) first cap∧HC P f (first.toList++args++cap.toList) ks K h)∨
  (∃l,fv=.func (.yield l) #[] #[]∧HY P l args (fun b h'=>EU ks [.bool b] fun t=>K t h') h)
noncomputable def CondP(b:Bool)(t e:Prop):Prop:=Bool.rec (motive:=fun _=>Prop) e t b
theorem CondP.yes{b:Bool}{t e:Prop}(h:CondP b t e)(hb:b=true):t:=by subst hb;exact h
theorem CondP.no{b:Bool}{t e:Prop}(h:CondP b t e)(hb:b=false):e:=by subst hb;exact h
theorem CondP.intro{b:Bool}{t e:Prop}(h1:b=true→t)(h2:b=false→e):CondP b t e:=by cases b;exact h2 rfl;exact h1 rfl
theorem ay{t e:Prop}:CondP true t e↔t:=yZ
theorem aj{t e:Prop}:CondP false t e↔e:=yZ
attribute [irreducible] CondP
def At(h:ae)(k:ae→Prop):Prop:=k h
def Bd{T:Type}(x:T)(k:T→Prop):Prop:=k x
structure Join{T:Type}(rest:T→ae→Prop)(k:(T→ae→Prop)→Prop):Prop where
 run:k rest
structure LoopP{T:Type}(F:(T→ae→Prop)→T→ae→Prop)(t:T)(h:ae):Prop where
 run:∀I:T→ae→Prop,(∀t h,F I t h→I t h)→I t h
abbrev cU:=List (Nat×Value)
noncomputable def lz(r:cU)(t:Nat):Option Value:=
 gg (motive:=fun _=>Option Value) none (fun kv _ ih=>bif bU kv.1 t then some kv.2 else ih) r
theorem FV(k:Nat)(v:Value)(r:cU)(t:Nat):lz ((k,v)::r) t=bif bU k t then some v else lz r t:=rfl
noncomputable def d9(r:cU):Operand→Option Value
 | .tmp t=>lz r t
 | .const v=>some v
 | .global g=>some (.pointer (some ⟨g,0,none⟩))
 | .func f=>some (.func (.func f) #[] #[])
noncomputable def rI(r:cU):List Operand→Option (List Value)
 | []=>some []
 |o::os=>match d9 r o,rI r os with
  |some v,some vs=>some (v::vs)
  |_,_=>none
noncomputable def K7:List CK→Nat→Addr→ae→(List Value→Prop)→Prop
 | [],_,_,_,k=>k []
 |c::cs,i,a,h,k=>∃x:c.den,aP h (adr a i)=some (c.enc x)∧K7 cs (i+1) a h fun vs=>k (c.enc x::vs)
noncomputable def ux:List Value→Nat→Addr→ae→Prop
 | [],_,_,_=>True
 | [v],i,a,h=>aP h (adr a i)=some v
 |v::u::vs,i,a,h=>aP h (adr a i)=some v∧ux (u::vs) (i+1) a h
abbrev RK:=Value→Option (ae→Prop)→Prop
noncomputable def Ml(P:Program)(t:TypeId)(v:Value)(K:RK)(h:ae):Prop:=
 match v with
 | .pointer (some a)=>
  match Gk P t with
  |some (.c c)=>∃x:c.den,aP h a=some (c.enc x)∧K (c.enc x) (some fun h'=>aP h' a=some (c.enc x))
  |some (.agg cs)=>K7 cs 0 a h fun vs=>K (.agg vs.toArray) (some fun h'=>ux vs 0 a h')
  |none=>False
 |_=>False
def yc(P:Program)(t:TypeId)(f:Nat):Option (TypeId×Nat):=
 match P.underlying t with
 |some (.struct fs)=>match fs.toList[f]? with
  |some g=>some (g.type,g.offset)
  |none=>none
 |_=>none
def xe(P:Program)(t:TypeId):Option TypeId:=
 match P.underlying t with
 |some (.slice e)=>some e
 |_=>none
def N8(op:BinOp)(k:IntKind)(a b:Int)(K:RK):Prop:=
 match op with
 | .shl=>0≤b∧K (.int k (k.wrap (a*2^(min b.toNat k.bits)))) none
 | .shr=>0≤b∧K (.int k (a.fdiv (2^(min b.toNat k.bits)))) none
 |_=>False
def XW(op:BinOp)(k:IntKind)(a b:Int)(K:RK):Prop:=
 match op with
 | .add=>K (.int k (k.wrap (a+b))) none
 | .sub=>K (.int k (k.wrap (a-b))) none
 | .mul=>K (.int k (k.wrap (a*b))) none
 | .quo=>b≠0∧K (.int k (k.wrap (a.tdiv b))) none
 | .rem=>b≠0∧K (.int k (a.tmod b)) none
 | .and=>K (.int k (k.wrap (ao k.bits a&&&ao k.bits b).toNat)) none
 | .or=>K (.int k (k.wrap (ao k.bits a|||ao k.bits b).toNat)) none
 | .xor=>K (.int k (k.wrap (ao k.bits a^^^ao k.bits b).toNat)) none
 | .andNot=>K (.int k (k.wrap (ao k.bits a&&& ~~~ao k.bits b).toNat)) none
 | .eql=>K (.bool (a==b)) none
 | .neq=>K (.bool (a !=b)) none
 | .lss=>K (.bool (decide (a<b))) none
 | .leq=>K (.bool (decide (a≤b))) none
 | .gtr=>K (.bool (decide (a>b))) none
 | .geq=>K (.bool (decide (a≥b))) none
 |_=>False
def Xy(op:BinOp)(a b:ByteArray)(K:RK):Prop:=
 match op with
 | .add=>((a.size+b.size:Nat):Int)≤9223372036854775807∧K (.string (a++b)) none
 | .eql=>K (.bool (a.toList==b.toList)) none
 | .neq=>K (.bool (!(a.toList==b.toList))) none
 | .lss=>K (.bool (Op.bytesLess a.toList b.toList)) none
 | .leq=>K (.bool (Op.bytesLess a.toList b.toList||a.toList==b.toList)) none
 | .gtr=>K (.bool (!(Op.bytesLess a.toList b.toList||a.toList==b.toList))) none
 | .geq=>K (.bool (!(Op.bytesLess a.toList b.toList))) none
 |_=>False
def f8(h:ae)(a:Addr):Prop:=(∃c e,h[a.block]? =some (.cells c e (0,0))∧0<c.size)
def Wd(P:Program)(t:TypeId)(neg:Bool)(x y:Value)(K:RK):Prop:=
 match P.underlying t,x,y with
 |some (.pointer _),.pointer a,.pointer none=>K (.bool (bif neg then !a.isNone else a.isNone)) none
 |some (.map _ _),.map a,.map none=>K (.bool (bif neg then !a.isNone else a.isNone)) none
 |some (.slice _),.slice a _ _,.slice none _ _=>K (.bool (bif neg then !a.isNone else a.isNone)) none
 |_,_,_=>False
def XV:Operand→Bool
 | .const (.pointer none)=>true
 | .const (.map none)=>true
 | .const (.slice none 0 0)=>true
 |_=>false
def Ze(P:Program)(t:TypeId)(neg:Bool)(x y:Value)(K:RK)(h:ae):Prop:=
 match P.underlying t,x,y with
 |some .bool,.bool a,.bool b=>K (.bool (bif neg then !(a==b)else a==b)) none
 |some (.pointer e),.pointer a,.pointer b=>
  (bif bU (cz P e) 0 then False else True)∧
  (∀x y,a=some x→b=some y→f8 h x∧f8 h y)∧
  K (.bool (bif neg then !(a==b)else a==b)) (some fun h'=>∀x y,a=some x→b=some y→f8 h' x∧f8 h' y)
 |_,_,_=>False
def XJ(P:Program)(op:BinOp)(t:TypeId)(x y:Value)(K:RK)(h:ae):Prop:=
 match x,y with
 | .int k a,.int k' b=>
  match op with
  | .shl=>N8 .shl k a b K
  | .shr=>N8 .shr k a b K
  |op=>bif KW k' k then XW op k a b K else False
 | .string a,.string b=>Xy op a b K
 |x,y=>match op with
  | .eql=>Ze P t false x y K h
  | .neq=>Ze P t true x y K h
  |_=>False
def sX(h:ae):List (Option Addr×Option Addr)→Prop
 | []=>True
 |(a,b)::l=>(∀x y,a=some x→b=some y→f8 h x∧f8 h y)∧sX h l
def UD(P:Program)(t:TypeId)(x y:Value):Option (Bool×List (Option Addr×Option Addr)):=
 match P.underlying t,x,y with
 |some (.int _),.int k a,.int k' b=>bif KW k' k then some (a==b,[])else none
 |some .bool,.bool a,.bool b=>some (a==b,[])
 |some .string,.string a,.string b=>some (a.toList==b.toList,[])
 |some (.pointer e),.pointer a,.pointer b=>bif bU (cz P e) 0 then none else some (a==b,[(a,b)])
 |_,_,_=>none
def WB(P:Program)(rec:TypeId→List Value→List Value→Option (Bool×List (Option Addr×Option Addr)))(xs ys:List Value):List Field→Option (Bool×List (Option Addr×Option Addr))
 | []=>some (true,[])
 |f::fs=>
  if f.name= "_" then none else
  bif (P.underlying f.type).isSome&&(P.info? f.type).isSome then
   match(bif wY P f.type then rec f.type ((xs.drop f.offset).take (cz P f.type)) ((ys.drop f.offset).take (cz P f.type))
    else match xs[f.offset]?,ys[f.offset]? with|some x,some y=>UD P f.type x y|_,_=>none),WB P rec xs ys fs with
   |some (b,l),some (c,m)=>some (b&&c,l++m)
   |_,_=>none
  else none
def UE(P:Program):Nat→TypeId→List Value→List Value→Option (Bool×List (Option Addr×Option Addr))
 |0,_,_,_=>none
 |d+1,t,xs,ys=>match P.underlying t with
  |some (.struct fs)=>bif P.stoodInHeld t then none else WB P (UE P d) xs ys fs.toList
  |_=>none
def Zt(neg b:Bool)(K:RK)(h:ae):List (Option Addr×Option Addr)→Prop
 | []=>K (.bool (bif neg then !b else b)) none
 |p::l=>sX h (p::l)∧K (.bool (bif neg then !b else b)) (some fun h'=>sX h' (p::l))
def XL(P:Program)(op:BinOp)(t:TypeId)(xs ys:List Value)(K:RK)(h:ae):Prop:=
 bif P.eqGuardType P.depth t then False else
 match op with
 | .eql=>(match UE P 10 t xs ys with|some (b,l)=>Zt false b K h l|none=>False)
 | .neq=>(match UE P 10 t xs ys with|some (b,l)=>Zt true b K h l|none=>False)
 |_=>False
def Zo(op:UnOp)(x:Value)(K:RK):Prop:=
 match op,x with
 | .neg,.int k n=>K (.int k (k.wrap (0-n))) none
 | .xor,.int k n=>K (.int k (k.wrap (ao k.bits (if k.signed then-1 else k.max)^^^ao k.bits n).toNat)) none
 | .not,.bool b=>K (.bool (!b)) none
 |_,_=>False
def eH(s:ByteArray):List Value:=s.data.toList.map fun b=>.int .u8 b.toNat
noncomputable def Row(h:ae)(a:Addr)(vs:List Value):Prop:=∀i v,vs[i]? =some v→aP h (adr a i)=some v
noncomputable def SRow(h:ae)(a:Option Addr)(n:Nat)(vs:List Value):Prop:=vs.length=n∧(vs= []∨∃b,a=some b∧Row h b vs)
def OX(P:Program)(e:TypeId):Bool:=match P.underlying e with|some (.int .u8)=>true|_=>false
def XU(P:Program)(s d:TypeId):Bool:=
 match P.underlying s,P.underlying d with
 |some .string,some (.slice e)=>OX P e
 |_,_=>false
def ByP(e:TypeId)(s:ByteArray)(h:ae)(K:Nat→ae→Prop):Prop:=
 ∀c,s.size≤c→K c (h.push (.cells (eH s++gQ (c-s.size) (Value.int .u8 0)).toArray e (c,c+1)))
noncomputable def T0(P:Program)(src dst:TypeId)(x:Value)(K:RK)(h:ae):Prop:=
 match P.underlying src,P.underlying dst,x with
 |some (.int _),some (.int k),.int _ n=>K (.int k (k.wrap n)) none
 |some .string,some .string,.string s=>K (.string s) none
 |some (.slice e),some .string,.slice a n _=>bif OX P e then∃s:ByteArray,SRow h a n (eH s)∧K (.string s) (some fun h'=>SRow h' a n (eH s))else False
 |_,_,_=>False
def UX(v:Option Value)(d y:Nat)(K:Nat→Prop):Prop:=
 match v with
 |none=>K d
 |some (.int _ i)=>(0≤i∧i≤y)∧K i.toNat
 |_=>False
noncomputable def bj(a:Option Addr)(l m size:Nat):Option Addr:=if m=l then a else a.map (adr · (l*size))
def Ue(P:Program)(t:TypeId)(K:Prop):Prop:=match P.info? t with|some _=>K|none=>False
noncomputable def Oo(P:Program)(t:TypeId)(x:Value)(lo hi mx:Option Value)(K:RK):Prop:=
 match P.underlying t,x with
 |some .string,.string s=>match mx with
  |some _=>False
  |none=>UX hi s.size s.size fun h=>UX lo 0 h fun l=>K (.string (s.extract l h)) none
 |some (.slice e),.slice a len cap=>Ue P e (
  match mx with
  |none=>UX hi len cap fun h=>UX lo 0 h fun l=>K (.slice (bj a l cap (cz P e)) (h-l) (cap-l)) none
  |some m=>match hi with
   |none=>False
   |some hi=>UX (some m) 0 cap fun m=>UX (some hi) 0 m fun h=>UX lo 0 h fun l=>K (.slice (bj a l m (cz P e)) (h-l) (m-l)) none)
 |some (.array n e),.pointer (some a)=>Ue P e (
  match mx with
  |none=>UX hi n n fun h=>UX lo 0 h fun l=>K (.slice (bj (some a) l n (cz P e)) (h-l) (n-l)) none
  |some _=>False)
 |_,_=>False
noncomputable def Ji(r:cU):Option Operand→Option (Option Value)
 |none=>some none
 |some o=>match d9 r o with
  |some v=>some (some v)
  |none=>none
noncomputable def Ag(P:Program)(t:TypeId)(x i:Value)(K:RK):Prop:=
 match P.underlying t,x,i with
 |some (.array n e),.pointer (some a),.int _ i=>Ue P e ((0≤i∧i<n)∧K (.pointer (some (adr a (i.toNat*cz P e)))) none)
 |some (.slice e),.slice b len _,.int _ i=>Ue P e ((0≤i∧i<len)∧∃a,b=some a∧K (.pointer (some (adr a (i.toNat*cz P e)))) none)
 |_,_,_=>False
def Ot(P:Program)(t:TypeId)(x i:Value)(K:RK):Prop:=
 match P.underlying t,x,i with
 |some .string,.string s,.int _ i=>∃b:UInt8,0≤i∧s[i.toNat]? =some b∧K (.int .u8 b.toNat) none
 |_,_,_=>False
noncomputable def Ou(P:Program)(t:TypeId)(x:Value)(f:Nat)(K:RK):Prop:=
 match yc P t f,x with
 |some (u,off),.agg cs=>bif (P.underlying u).isSome&&(P.info? u).isSome then(bif wY P u then K (.agg ((cs.toList.drop off).take (cz P u)).toArray) none
  else(match cs.toList[off]? with|some v=>K v none|none=>False))else False
 |_,_=>False
def W4(c a b:Value)(K:RK):Prop:=
 match c with
 | .bool c=>(match a,b with
  | .bool x,.bool y=>K (.bool (bif c then x else y)) none
  |_,_=>(match c with|true=>K a none|false=>K b none))
 |_=>False
def iJ:Value→Value→Bool
 | .int _ a,.int _ b=>a==b
 | .string a,.string b=>a==b
 | .bool a,.bool b=>a==b
 |_,_=>false
def M0(k:Value):List MapEntry→Option Value
 | []=>none
 |e::es=>if iJ k e.key then some e.val else M0 k es
def Gl(c:CK)(es:List MapEntry):Prop:=∀e∈es,∃x:c.den,e.key=c.enc x
def Px(c:CK)(z:Value)(h:ae)(m:Option Nat)(k v:Value)(ok:Bool):Prop:=
 match m with
 |none=>v=z∧ok=false
 |some r=>∃es clock,h[r]? =some (.map es clock)∧Gl c es.toList∧
  (match M0 k es.toList with|some u=>v=u∧ok=true|none=>v=z∧ok=false)
def MJ(P:Program)(t:TypeId):Option (CK×TypeId):=
 match P.underlying t with
 |some (.map k e)=>match P.underlying k with
  |some (.int i)=>some (.int i,e)
  |some .string=>some (.str,e)
  |some .bool=>some (.bool,e)
  |_=>none
 |_=>none
def KB(P:Program)(t:TypeId)(x k:Value)(ok:Bool)(K:RK)(h:ae):Prop:=
 match MJ P t,x with
 |some (c,e),.map m=>c.dec k fun _=>
  (match Gk P e,zh P e with
   |some ek,some z=>∃(y:ek.den) (b:Bool),Px c z h m k (ek.enc y) b∧
    K (bif ok then .tuple #[ek.enc y,.bool b]else ek.enc y) (some fun h'=>Px c z h' m k (ek.enc y) b)
   |_,_=>False)
 |_,_=>False
def Vc(h:ae)(m:Option Nat)(n:Nat):Prop:=
 match m with
 |none=>n=0
 |some r=>∃es clock,h[r]? =some (.map es clock)∧n=es.size
def XH(P:Program)(t:TypeId)(x:Value)(K:RK)(h:ae):Prop:=
 match P.underlying t,x with
 |some .string,.string s=>K (.int .i64 s.size) none
 |some (.array n _),_=>K (.int .i64 n) none
 |some (.slice _),.slice _ n _=>K (.int .i64 n) none
 |some (.map _ _),.map m=>∃n:Nat,Vc h m n∧K (.int .i64 n) (some fun h'=>Vc h' m n)
 |_,_=>False
def XI(P:Program)(t:TypeId)(x:Value)(K:RK):Prop:=
 match P.underlying t,x with
 |some (.slice _),.slice _ _ n=>K (.int .i64 n) none
 |_,_=>False
def KQ(mx:Bool)(k:IntKind):Int→List Value→(Value→Prop)→Prop
 |a,[],f=>f (.int k a)
 |a,.int k' b::vs,f=>bif KW k' k then KQ mx k (bif mx then(if b>a then b else a)else(if b<a then b else a)) vs f else False
 |_,_,_=>False
def Fc(mx:Bool)(vs:List Value)(f:Value→Prop):Prop:=
 match vs with
 | .int k a::vs=>KQ mx k a vs f
 |_=>False
def Py(h:ae)(i:Nat)(e:MapEntry):Prop:=
 ∃m since seen last stamp es,h[i]? =some (.mapIter (some m) since seen last)∧seen.back? =some stamp∧h[m]? =some (.map es last)∧es.find? (fun e=>e.born==stamp)=some e
def rg(P:Program)(t:TypeId):Bool:=match P.underlying t with|some (.interface _)=>false|some _=>true|none=>false
def QC(P:Program)(t:TypeId)(x:Value)(K:RK):Prop:=
 bif rg P t then(match Gk P t with
  |some k=>∃y:k.den,x=.iface t (k.enc y)∧K (k.enc y) none
  |none=>False)else False
def Mt(cs:List Value)(off:Nat)(vs:List Value):List Value:=cs.take off++vs++cs.drop (off+vs.length)
def El(place:Nat→Option (Nat×Nat)):List Value→List (Nat×Value)→Option (List Value)
 |cs,[]=>some cs
 |cs,(i,v)::rest=>match place i with
  |none=>none
  |some (off,size)=>bif bU v.cells.toList.length size&&yY (off+v.cells.toList.length) cs.length then El place (Mt cs off v.cells.toList) rest else none
noncomputable def rc(r:cU):List (Nat×Operand)→Option (List (Nat×Value))
 | []=>some []
 |(i,o)::ps=>match d9 r o,rc r ps with
  |some v,some vs=>some ((i,v)::vs)
  |_,_=>none
def rE(P:Program)(t:TypeId):Option (List Value):=match zh P t with|some z=>some z.cells.toList|none=>none
def eD(n:Nat)(z:List Value):List Value:=(gQ n z).flatten
def yQ(P:Program)(t:TypeId):Bool:=match P.info? t with|some _=>true|none=>false
def B5(P:Program):List Field→Bool
 | []=>true
 |f::fs=>bif yQ P f.type then B5 P fs else false
def OD(P:Program)(fs:List Field)(i:Nat):Option (Nat×Nat):=match fs[i]? with|some f=>some (f.offset,cz P f.type)|none=>none
def Lg(P:Program)(t:TypeId)(parts:List (Nat×Value)):Option (List Value):=
 match P.underlying t,rE P t with
 |some (.struct fs),some z=>bif B5 P fs.toList then El (OD P fs.toList) z parts else none
 |some (.array _ e),some z=>bif yQ P e then El (fun i=>some (i*cz P e,cz P e)) z parts else none
 |_,_=>none
noncomputable def Dd(P:Program)(ek:Option (Kind×Kind))(o:Op)(r:cU)(K:RK)(h:ae):Prop:=
 match o with
 | .entry it=>match d9 r it,ek with
  |some (.pointer (some a)),some (kk,vk)=>a.off=0∧∃(e:MapEntry) (x:kk.den) (y:vk.den),Py h a.block e∧e.key=kk.enc x∧e.val=vk.enc y∧
    K (.tuple #[kk.enc x,vk.enc y]) (some fun h'=>Py h' a.block e)
  |_,_=>False
 | .move x| .assign x=>match d9 r x with|some v=>K v none|none=>False
 | .load t a=>match d9 r a with|some v=>Ml P t v K h|none=>False
 | .nilCheck x=>match d9 r x with|some (.pointer p)=>∃a,p=some a∧K (.pointer (some a)) none|_=>False
 | .binOp op t x y _=>match d9 r x,d9 r y with
  |some (.agg v),some (.agg u)=>XL P op t v.toList u.toList K h
  |some v,some u=>(match op,XV y with
   | .eql,true=>Wd P t false v u K
   | .neq,true=>Wd P t true v u K
   |op,_=>XJ P op t v u K h)
  |_,_=>False
 | .unOp op _ x=>match d9 r x with|some v=>Zo op v K|none=>False
 | .convert s d x=>match d9 r x with|some v=>T0 P s d v K h|none=>False
 | .pick c a b=>match d9 r c,d9 r a,d9 r b with|some c,some a,some b=>W4 c a b K|_,_,_=>False
 | .extract x i=>match d9 r x with
  |some (.tuple vs)=>(match vs.toList[i]? with|some v=>K v none|none=>False)
  |_=>False
 | .fieldAddr t x f=>match d9 r x,yc P t f with
  |some (.pointer (some a)),some (u,off)=>bif bU (cz P u) 0 then False else K (.pointer (some (adr a off))) none
  |_,_=>False
 | .field t x f=>match d9 r x with|some v=>Ou P t v f K|none=>False
 | .indexAddr t x i=>match d9 r x,d9 r i with|some v,some u=>Ag P t v u K|_,_=>False
 | .index t x i=>match d9 r x,d9 r i with|some v,some u=>Ot P t v u K|_,_=>False
 | .slice t x lo hi mx=>match d9 r x,Ji r lo,Ji r hi,Ji r mx with
  |some v,some l,some h',some m=>Oo P t v l h' m K
  |_,_,_,_=>False
 | .lookup t x k ok=>match d9 r x,d9 r k with|some v,some u=>KB P t v u ok K h|_,_=>False
 | .makeInterface t x=>match d9 r x with|some v=>bif rg P t then K (.iface t v) none else False|none=>False
 | .typeAssert x _ t ok=>match d9 r x with|some v=>bif ok then False else QC P t v K|none=>False
 | .build t ps=>match rc r ps.toList with
  |some vs=>(match Lg P t vs with|some cs=>K (.agg cs.toArray) none|none=>False)
  |none=>False
 | .makeFunc fn first cap=>match rI r first.toList,rI r cap.toList with
  |some vs,some us=>K (.func fn vs.toArray us.toArray) none
  |_,_=>False
 | .call c=>match c.callee,rI r c.args.toList,c.argTypes.toList with
  | .builtin .len,some [v],[t]=>XH P t v K h
  | .builtin .cap,some [v],[t]=>XI P t v K
  | .builtin .min,some vs,_=>Fc false vs fun v=>K v none
  | .builtin .max,some vs,_=>Fc true vs fun v=>K v none
  |_,_,_=>False
 |_=>False
abbrev WK:=Value→ae→Prop
def aE(h:ae):Addr:=⟨h.size,0,none⟩
def hnew(h:ae)(cs:List Value)(t:TypeId):ae:=h.push (.cells cs.toArray t (0,0))
def cE:List Value→Bool
 | []=>true
 |v::vs=>(match v with| .agg _=>false| .tuple _=>false|_=>true)&&cE vs
noncomputable def gG(h:ae)(a:Addr):Nat→List Value→ae
 |_,[]=>h
 |i,v::vs=>gG (hset h (adr a i) v) a (i+1) vs
noncomputable def gF(h:ae)(a:Option Addr)(i:Nat)(vs:List Value):ae:=match a with|some a=>gG h a i vs|none=>h
noncomputable def r9(h:ae)(a:Option Addr)(i:Nat)(vs:List Value):Prop:=vs= []∨∃b,a=some b∧∀j,j<vs.length→Wr h (adr b (i+j))
noncomputable def NZ(P:Program)(t:TypeId)(a v:Value)(K:WK)(h:ae):Prop:=
 match a with
 | .pointer (some a)=>bif bU v.cells.toList.length (cz P t)&&cE v.cells.toList then Ue P t
   (match v.cells.toList with
    | [v]=>Wr h a∧K undef (hset h a v)
    |vs=>r9 h (some a) 0 vs∧K undef (gG h a 0 vs))
  else False
 |_=>False
noncomputable def U4(P:Program)(e:TypeId)(base:Option Addr)(sl sc xl:Nat)(xs:List Value)(K:WK)(h:ae):Prop:=
 (sl+xl≤sc→r9 h base (sl*cz P e) xs∧cE xs=true∧K (.slice base (sl+xl) sc) (gF h base (sl*cz P e) xs))∧
 (sc<sl+xl→∃old z,SRow h base (sl*cz P e) old∧rE P e=some z∧0<rO P e∧Builtin.nextslicecap (sl+xl) sc*rO P e≤2^48∧
  ∀nc,sl+xl≤nc→K (.slice (some (aE h)) (sl+xl) nc) (hnew h (old++xs++eD (nc-(sl+xl)) z) e))
noncomputable def E7(P:Program)(t:TypeId)(s x:Value)(K:WK)(h:ae):Prop:=
 match xe P t,s,x with
 |some e,.slice b sl sc,.slice a xl _=>Ue P e (∃xs,SRow h a (xl*cz P e) xs∧U4 P e b sl sc xl xs K h)
 |some e,.slice b sl sc,.string x=>bif bU (cz P e) 1 then U4 P e b sl sc x.size (eH x) K h else False
 |_,_,_=>False
noncomputable def Fx(P:Program)(t:TypeId)(s x:Value)(K:WK)(h:ae):Prop:=
 match xe P t,s,x with
 |some e,.slice b sl sc,.int _ l=>(match rE P e with
  |some z=>bif bU z.length (cz P e)then(0≤l∧l*rO P e≤2^48∧l≤9223372036854775807∧((sl+l.toNat:Nat):Int)≤9223372036854775807)∧U4 P e b sl sc l.toNat (eD l.toNat z) K h else False
  |none=>False)
 |_,_,_=>False
noncomputable def N0(P:Program)(t:TypeId)(x:Value)(K:WK)(h:ae):Prop:=
 match xe P t,x with
 |some e,.slice a n _=>(match rE P e with
  |some z=>bif cE z then r9 h a 0 (eD n z)∧K (.tuple #[]) (gF h a 0 (eD n z))else False
  |none=>False)
 |_,_=>False
noncomputable def Tn(P:Program)(t:TypeId)(d s:Value)(K:WK)(h:ae):Prop:=
 match xe P t,d,s with
 |some e,.slice b dl _,.slice a sl _=>Ue P e (∃xs,SRow h a (eB sl dl*cz P e) xs∧r9 h b 0 xs∧cE xs=true∧K (.int .i64 (eB sl dl)) (gF h b 0 xs))
 |some e,.slice b dl _,.string x=>bif bU (cz P e) 1 then r9 h b 0 ((eH x).take dl)∧K (.int .i64 (eB x.size dl)) (gF h b 0 ((eH x).take dl))else False
 |_,_,_=>False
def Oz(k v:Value)(clock:Nat):List MapEntry→List MapEntry×Nat
 | []=>([{key:=k,val:=v,born:=clock}],clock+1)
 |e::es=>if iJ k e.key then({e with key:=k,val:=v}::es,clock)else let r:=Oz k v clock es;(e::r.1,r.2)
def M3(k:Value):List MapEntry→List MapEntry
 | []=> []
 |e::es=>if iJ k e.key then es else e::M3 k es
def Rl(c:CK)(h:ae)(r:Nat):Prop:=∃es clock,h[r]? =some (.map es clock)∧Gl c es.toList
def Wg(h:ae)(r:Nat)(k v:Value):ae:=
 match h[r]? with
 |some (.map es clock)=>h.setIfInBounds r (.map (Oz k v clock es.toList).1.toArray (Oz k v clock es.toList).2)
 |_=>h
def QQ(h:ae)(r:Nat)(k:Value):ae:=
 match h[r]? with
 |some (.map es clock)=>h.setIfInBounds r (.map (M3 k es.toList).toArray clock)
 |_=>h
def E6(P:Program)(t:TypeId)(m k v:Value)(K:WK)(h:ae):Prop:=
 match MJ P t,m with
 |some (c,_),.map m=>c.dec k fun _=>∃r,m=some r∧Rl c h r∧K undef (Wg h r k v)
 |_,_=>False
def Fv(P:Program)(t:TypeId)(m k:Value)(K:WK)(h:ae):Prop:=
 match MJ P t,m with
 |some (c,_),.map m=>c.dec k fun _=>(m=none∧K (.tuple #[]) h)∨(∃r,m=some r∧Rl c h r∧K (.tuple #[]) (QQ h r k))
 |_,_=>False
def TR(P:Program):List TypeId→Option (List Kind)
 | []=>some []
 |t::ts=>match Gk P t,TR P ts with
  |some k,some ks=>some (k::ks)
  |_,_=>none
def TS(P:Program)(t:TypeId):Option (List Kind):=
 match P.underlying t with
 |some (.tuple ts)=>TR P ts.toList
 |_=>TR P [t]
noncomputable def WU(P:Program)(f:Operand)(r:cU)(args:List Value)(t:TypeId)(K:WK)(h:ae):Prop:=
 match TS P t with
 |none=>False
 |some ks=>match f with
  | .func f=>HC P f args ks (fun x h'=>K (F0 ks (oA ks x)) h') h
  |f=>match d9 r f with
   |some fv=>HV P fv args ks (fun x h'=>K (F0 ks (oA ks x)) h') h
   |none=>False
def Tm(it:Value)(K:WK)(h:ae):Prop:=
 match it with
 | .pointer (some a)=>a.off=0∧
  ∃m since seen last,h[a.block]? =some (.mapIter m since seen last)∧
   ((m=none∧K (.tuple #[.bool false]) h)∨
    (∃r es clock,m=some r∧h[r]? =some (.map es clock)∧(seen.isEmpty=true∨es.isEmpty=true∨es.all (fun e=>decide (e.born≥last))=false)∧
     ((∀e∈es.toList,e.born<since→seen.contains e.born=true)→K (.tuple #[.bool false]) h)∧
     (∀e∈es.toList,seen.contains e.born=false→K (.tuple #[.bool true,e.key,e.val]) (h.setIfInBounds a.block (.mapIter (some r) since (seen.push e.born) clock)))))
 |_=>False
noncomputable def HI(P:Program)(o:Oper)(r:cU)(K:WK)(h:ae):Prop:=
 match o.op with
 | .alloc t=>(match rE P t with|some z=>K (.pointer (some (aE h))) (hnew h z t)|none=>False)
 | .box t x=>(match d9 r x with|some v=>K (.pointer (some (aE h))) (hnew h v.cells.toList t)|none=>False)
 | .build t ps=>(match rc r ps.toList with
  |some vs=>(match Lg P t vs with|some cs=>K (.agg cs.toArray) h|none=>False)
  |none=>False)
 | .buildSlice t n ps=>(match xe P t,rc r ps.toList with
  |some e,some vs=>(match rE P e with
   |some z=>bif yY (n*cz P e) 16777216&&bU z.length (cz P e)then
     (match El (fun i=>some (i*cz P e,cz P e)) (eD n z) vs with|some cs=>K (.slice (some (aE h)) n n) (hnew h cs e)|none=>False)
    else False
   |none=>False)
  |_,_=>False)
 | .store t a x=>(match d9 r a,d9 r x with|some a,some v=>NZ P t a v K h|_,_=>False)
 | .mapUpdate t m k x=>(match d9 r m,d9 r k,d9 r x with|some m,some k,some v=>E6 P t m k v K h|_,_,_=>False)
 | .insert t m k x=>(match d9 r m,d9 r k,d9 r x with|some m,some k,some v=>E6 P t m k v K h|_,_,_=>False)
 | .makeMap t n=>(match n with
  |none=>K (.map (some h.size)) (h.push (.map #[] 0))
  |some n=>(match d9 r n,P.underlying t with|some (.int _ _),some (.map _ _)=>K (.map (some h.size)) (h.push (.map #[] 0))|_,_=>False))
 | .makeSlice t l c=>(match xe P t,d9 r l,d9 r c with
  |some e,some (.int _ l),some (.int _ c)=>(match rE P e with
   |some z=>bif bU z.length (cz P e)then(0≤l∧l≤c∧c≤9223372036854775807∧rO P e*c≤2^48)∧K (.slice (some (aE h)) l.toNat c.toNat) (hnew h (eD c.toNat z) e)else False
   |none=>False)
  |_,_,_=>False)
 | .convert s d x=>(match P.underlying s,P.underlying d,d9 r x with
  |some .string,some (.slice e),some (.string v)=>bif OX P e then ByP e v h (fun c h'=>K (.slice (some (aE h)) v.size c) h')else False
  |_,_,_=>False)
 | .range t x=>(match P.underlying t,d9 r x with
  |some (.map _ _),some (.map m)=>∃clock,(m=none∧clock=0∨∃r es,m=some r∧h[r]? =some (.map es clock))∧K (.pointer (some (aE h))) (h.push (.mapIter m clock #[] clock))
  |_,_=>False)
 | .next it false=>(match d9 r it with|some it=>Tm it K h|none=>False)
 | .call c=>(match c.callee,rI r c.args.toList with
  | .builtin .append,some [s,x]=>(match c.argTypes.toList with| [t,u]=>(match P.underlying u with|some (.slice _)=>E7 P t s x K h|some .string=>E7 P t s x K h|some (.int _)=>Fx P t s x K h|_=>False)|_=>False)
  | .builtin .clear,some [x]=>(match c.argTypes.toList with| [t]=>N0 P t x K h|_=>False)
  | .builtin .copy,some [d,s]=>(match c.argTypes.toList with| [t,_]=>Tn P t d s K h|_=>False)
  | .builtin .delete,some [m,k]=>(match c.argTypes.toList with| [t,_]=>Fv P t m k K h|_=>False)
  | .value f,some args=>WU P f r args o.type K h
  |_,_=>False)
 |_=>False
def xf(P:Program):Op→Bool
 | .convert s d _=> !XU P s d
 | .alloc _| .box .. | .buildSlice .. | .store .. | .mapUpdate .. | .insert .. | .makeMap .. | .makeSlice .. | .range .. | .next .. =>false
 | .call c=>match c.callee with
  | .builtin .len| .builtin .cap| .builtin .min| .builtin .max=>true
  |_=>false
 |_=>true
def BT(N:Nat)(o:Oper)(v:Value)(r:cU)(K:cU→Prop):Prop:=
 match o.dst with
 |none=>K r
 |some d=>bif Nat.blt d N then K ((d,v)::r)else False
noncomputable def Yd(P:Program)(N:Nat)(ek:Option (Kind×Kind))(o:Oper)(r:cU)(K:cU→ae→Prop)(h:ae):Prop:=
 bif xf P o.op then Dd P ek o.op r (fun v _=>BT N o v r fun r'=>K r' h) h
 else HI P o r (fun v h'=>BT N o v r fun r'=>K r' h') h
inductive DV where
 |f|t|u|x
abbrev wn:=List (Nat×DV)
noncomputable def r8(d:wn)(t:Nat):DV:=
 gg (motive:=fun _=>DV) .x (fun kv _ ih=>bif bU kv.1 t then kv.2 else ih) d
noncomputable def BU(d:wn):Operand→DV
 | .tmp t=>r8 d t
 | .const (.bool true)=>.t
 | .const (.bool false)=>.f
 |_=>.x
noncomputable def LM(d:wn):Op→DV
 | .move x=>BU d x
 | .assign x=>BU d x
 | .pick c a b=>match BU d c with
  | .t=>BU d a
  | .f=>BU d b
  |_=>.x
 | .unOp .not _ x=>match BU d x with
  | .t=>.f
  | .f=>.t
  |_=>.x
 |_=>.x
def tw(d:wn)(o:Oper)(v:DV):wn:=match o.dst with|some t=>(t,v)::d|none=>d
noncomputable def j3(ops:List Oper)(d:wn)(o:Oper):Option Bool:=
 match o.guard with
 |none=>some true
 |some (j,want)=>match ops[j]? with
  |none=>none
  |some oj=>match oj.dst with
   |none=>none
   |some t=>match r8 d t with
    | .t=>some want
    | .f=>some (!want)
    | .u=>some false
    | .x=>none
def Gs(ops:List Oper)(o:Oper):Option Nat:=
 match o.guard with
 |none=>none
 |some (j,_)=>match ops[j]? with
  |none=>none
  |some oj=>oj.dst
noncomputable def IT(P:Program)(N:Nat)(ek:Option (Kind×Kind))(ops:List Oper)(o:Oper)(d:wn)(r:cU)(h:ae)(K:wn→cU→ae→Prop):Prop:=
 match j3 ops d o with
 |some true=>Yd P N ek o r (K (tw d o (LM d o.op))) h
 |some false=>BT N o undef r fun r'=>K (tw d o .u) r' h
 |none=>False
noncomputable def FO(P:Program)(N:Nat)(ek:Option (Kind×Kind))(ops:List Oper)(l:List Oper):wn→(cU→ae→Prop)→cU→ae→Prop:=
 gg (motive:=fun _=>wn→(cU→ae→Prop)→cU→ae→Prop) (fun _ K r h=>K r h)
  (fun o _ ih d K r h=>
  match j3 ops d o with
  |some true=>Yd P N ek o r (fun r' h'=>ih (tw d o (LM d o.op)) K r' h') h
  |some false=>BT N o undef r fun r'=>ih (tw d o .u) K r' h
  |none=>match Gs ops o with
   |none=>False
   |some t=>match lz r t with
    |some (.bool b)=>CondP b
     (IT P N ek ops o ((t,.t)::d) ((t,.bool true)::r) h fun d' r' h'=>ih d' K r' h')
     (IT P N ek ops o ((t,.f)::d) ((t,.bool false)::r) h fun d' r' h'=>ih d' K r' h')
    |_=>False) l
inductive DA where
 |done
 |take (i:Nat) (rest:DA)
 |all (l:DA)
 |pick (i:Nat) (rest more:DA)
 |last (i:Nat) (rest:DA)
 |lastT (i:Nat) (rest:DA)
 |split (t:Nat) (yes no:DA)
abbrev rP:=List (Nat×(ae→Prop))
def tb(m i:Nat):Bool:=bU (kG (Nat.shiftRight m i) 1) 1
def ix(i:Nat):Nat:=Nat.pow 2 i
inductive DM where
 |mk (am fr lk ds:Nat)
def DM.am:DM→Nat| .mk a _ _ _=>a
def DM.fr:DM→Nat| .mk _ f _ _=>f
def DM.lk:DM→Nat| .mk _ _ l _=>l
def DM.ds:DM→Nat| .mk _ _ _ d=>d
def kw(o:Oper)(i:Nat):Bool:=o.after.toList.any fun e=>bU e.on i&&Region.binds .any e
noncomputable def nG(l:List Edge):Nat:=
 gg (motive:=fun _=>Nat) 0 (fun e _ ih=>bif Region.binds .any e then dw (ix e.on) ih else ih) l
noncomputable def mL(l:List Operand):Nat:=
 gg (motive:=fun _=>Nat) 0 (fun o _ ih=>match o with| .tmp t=>dw (ix t) ih|_=>ih) l
def oQ(o:Oper):Nat:=match o.dst with|some d=>ix d|none=>0
noncomputable def pm(ops:List Oper)(o:Oper):Nat:=
 dw (mL o.op.operands.toList) (match o.guard with
  |some (g,_)=>(match ops[g]? with|some og=>oQ og|none=>0)
  |none=>0)
noncomputable def xR(ops:List Oper)(l:List Oper):List DM→Bool:=
 gg (motive:=fun _=>List DM→Bool) (fun ms=>match ms with| []=>true|_=>false)
  (fun o _ ih ms=>match ms with
   |m::ms=>bU (nG o.after.toList) m.am&&bU (pm ops o) m.lk&&bU (oQ o) m.ds&&ih ms
   | []=>false) l
def DC(x y:DM):Bool:=bU (kG x.ds (dw y.lk y.ds)) 0&&bU (kG y.ds x.lk) 0
noncomputable def JG(i:Nat)(m:DM)(l:List DM):Nat→Bool:=
 gg (motive:=fun _=>Nat→Bool) (fun _=>true)
  (fun n _ ih j=>(!(tb m.fr j)||bU j i||tb n.am i||DC m n)&&ih (gv j)) l
noncomputable def BI(all:List DM)(l:List DM):Nat→Bool:=
 gg (motive:=fun _=>Nat→Bool) (fun _=>true) (fun m _ ih i=>JG i m all 0&&ih (gv i)) l
def Mz:List Oper→Bool
 | []=>true
 |o::os=>(match o.op with| .select .. =>false| .defer _=>false|_=>true)&&Mz os
noncomputable def Fd(ops:List Oper)(ms:List DM):Bool:=xR ops ops ms&&BI ms ms 0&&Mz ops
def ud(o:Oper):rP→rP
 | []=> []
 |(k,S)::l=>bif kw o k then ud o l else(k,S)::ud o l
def vF:rP→ae→Prop→Prop
 | [],_,R=>R
 |(_,S)::l,h,R=>S h∧vF l h R
def I6(m:DM)(ls:Nat):Bool:=bU (kG m.am ls) m.am
noncomputable def mR(ls:Nat)(l:List DM):Nat→List Nat:=
 gg (motive:=fun _=>Nat→List Nat) (fun _=> []) (fun m _ ih j=>bif !(tb ls j)&&I6 m ls then j::ih (gv j)else ih (gv j)) l
def FE(m:DM)(i ls n:Nat):Bool:= !(tb ls i)&&I6 m ls&&bU (kG (dw ls m.fr) (yC (ix n))) (yC (ix n))
def wC:List Nat→List Nat→Bool
 | [],[]=>true
 |a::as,b::bs=>bU a b&&wC as bs
 |_,_=>false
def Dm:DA→List Nat
 | .pick i _ l=>i::Dm l
 | .last i _=> [i]
 | .lastT i _=> [i]
 |_=> []
noncomputable def RN(P:Program)(N:Nat)(ops:List Oper)(i:Nat)(L:rP)(d:wn)(r:cU)(h:ae)(K:rP→wn→cU→ae→Prop):Prop:=
 match ops[i]? with
 |none=>False
 |some o=>match j3 ops d o with
  |some true=>bif xf P o.op then False else HI P o r (fun v h'=>BT N o v r fun r'=>vF (ud o L) h' (K (ud o L) (tw d o .x) r' h')) h
  |_=>False
noncomputable def S9(m:Nat)(l:List DM):Nat→Nat:=
 gg (motive:=fun _=>Nat→Nat) (fun _=>m) (fun n _ ih j=>bif tb m j then dw n.am (ih (gv j))else ih (gv j)) l
noncomputable def BW(ms:List DM)(m:Nat):Nat:=S9 (S9 (S9 (S9 m ms 0) ms 0) ms 0) ms 0
def Lo(ms:List DM)(i:Nat):Nat:=match ms[i]? with|some m=>m.am|none=>0
def Bl(m:Nat):rP→rP
 | []=> []
 |(k,S)::l=>bif tb m k then Bl m l else(k,S)::Bl m l
noncomputable def Qx(P:Program)(N:Nat)(ops:List Oper)(ms:List DM)(i:Nat)(L:rP)(d:wn)(r:cU)(h:ae)(K:rP→wn→cU→ae→Prop):Prop:=
 match ops[i]? with
 |none=>False
 |some o=>match j3 ops d o with
  |some true=>bif xf P o.op then False else HI P o r (fun v h'=>BT N o v r fun r'=>vF (Bl (BW ms (Lo ms i)) L) h' (K (Bl (BW ms (Lo ms i)) L) (tw d o .x) r' h')) h
  |_=>False
noncomputable def oo(P:Program)(N:Nat)(ops:List Oper)(ms:List DM)(da:DA):Bool→Nat→rP→wn→(cU→ae→Prop)→cU→ae→Prop:=
 DA.rec (motive:=fun _=>Bool→Nat→rP→wn→(cU→ae→Prop)→cU→ae→Prop)
  (fun m ls _ _ K r h=>bif !m&&wC (mR ls ms 0) []then K r h else False)
  (fun i _ ih m ls L d K r h=>
   match ops[i]?,ms[i]? with
   |some o,some mi=>bif !m&&FE mi i ls ops.length then
     (match j3 ops d o with
      |none=>False
      |some false=>BT N o undef r fun r'=>ih false (dw ls (ix i)) L (tw d o .u) K r' h
      |some true=>bif xf P o.op then
       Dd P none o.op r (fun v S=>BT N o v r fun r'=>match S with
        |none=>ih false (dw ls (ix i)) L (tw d o (LM d o.op)) K r' h
        |some S=>ih false (dw ls (ix i)) ((i,S)::L) (tw d o (LM d o.op)) K r' h) h
       else False)
    else False
   |_,_=>False)
  (fun l ih m ls L d K r h=>bif !m&&wC (mR ls ms 0) (Dm l)then ih true ls L d K r h else False)
  (fun i _ _ ih1 ih2 m ls L d K r h=>bif m then RN P N ops i L d r h (fun L' d' r' h'=>ih1 false (dw ls (ix i)) L' d' K r' h')∧ih2 true ls L d K r h else False)
  (fun i _ ih m ls L d K r h=>bif m then RN P N ops i L d r h (fun L' d' r' h'=>ih false (dw ls (ix i)) L' d' K r' h')else False)
  (fun i _ ih m ls L d K r h=>bif m then Qx P N ops ms i L d r h (fun L' d' r' h'=>ih false (dw ls (ix i)) L' d' K r' h')else False)
  (fun t _ _ ih1 ih2 m ls L d K r h=>
   bif m then False else match lz r t with
   |some (.bool b)=>CondP b (ih1 false ls L ((t,.t)::d) K ((t,.bool true)::r) h) (ih2 false ls L ((t,.f)::d) K ((t,.bool false)::r) h)
   |_=>False)
  da
noncomputable def Zr(_o:Oper)(i:Nat)(ds lk:Nat)(ops:List Oper)(l:List Oper):Nat→Nat:=
 gg (motive:=fun _=>Nat→Nat) (fun _=>0) (fun p _ ih j=>bif (bU j i||kw p i||(bU (kG ds (dw (pm ops p) (oQ p))) 0&&bU (kG (oQ p) lk) 0))then dw (ix j) (ih (gv j))else ih (gv j)) l
noncomputable def Zq(ops:List Oper)(l:List Oper):Nat→List DM:=
 gg (motive:=fun _=>Nat→List DM) (fun _=> []) (fun o _ ih i=>.mk (nG o.after.toList) (Zr o i (oQ o) (pm ops o) ops ops 0) (pm ops o) (oQ o)::ih (gv i)) l
def Yk(P:Program)(w:Option Bool)(o:Oper):Bool:=match w with|some false=>true|some true=>xf P o.op|none=>false
noncomputable def XY(P:Program)(ops:List Oper)(d:wn)(ls n:Nat)(l:List Oper):List DM→Nat→Option (Nat×Oper):=
 gg (motive:=fun _=>List DM→Nat→Option (Nat×Oper)) (fun _ _=>none)
  (fun o _ ih ms j=>match ms with
   | []=>none
   |m::ms=>bif FE m j ls n&&Yk P (j3 ops d o) o then some (j,o)else ih ms (gv j)) l
noncomputable def XZ(ops:List Oper)(d:wn)(ls:Nat)(l:List Oper):List DM→Nat→Option Nat:=
 gg (motive:=fun _=>List DM→Nat→Option Nat) (fun _ _=>none)
  (fun o _ ih ms j=>match ms with
   | []=>none
   |m::ms=>match bif !(tb ls j)&&I6 m ls then(match j3 ops d o with|none=>Gs ops o|some _=>none)else none with
    |some t=>some t
    |none=>ih ms (gv j)) l
noncomputable def YF(ops:List Oper)(k:Nat→wn→DA)(ls:Nat)(d:wn)(l:List Nat):DA:=
 gg (motive:=fun _=>DA) .done (fun i rest ih=>match ops[i]? with
  |none=>.done
  |some o=>match rest with
   | []=>.last i (k (dw ls (ix i)) (tw d o .x))
   |_=>.pick i (k (dw ls (ix i)) (tw d o .x)) ih) l
noncomputable def X9(P:Program)(ops:List Oper)(ms:List DM)(fuel:Nat):Nat→wn→DA:=
 Nat.rec (motive:=fun _=>Nat→wn→DA) (fun _ _=>.done) (fun _ ih ls d=>
  match XY P ops d ls ops.length ops ms 0 with
  |some (i,o)=>.take i (ih (dw ls (ix i)) (match j3 ops d o with|some false=>tw d o .u|_=>tw d o (LM d o.op)))
  |none=>match XZ ops d ls ops ms 0 with
   |some t=>.split t (ih ls ((t,.t)::d)) (ih ls ((t,.f)::d))
   |none=>match mR ls ms 0 with
    | []=>.done
    |l=>.all (YF ops ih ls d l)) fuel
noncomputable def QN(ops:List Oper):List DM:=Zq ops ops 0
inductive Ex where
 |exit (id:Nat)
 |ret
abbrev St:=List (Nat×Kind)
def zY:St→List Kind
 | []=> []
 |(_,k)::l=>k::zY l
noncomputable def FH(r:cU):St→Option (List Value)
 | []=>some []
 |(i,_)::l=>match lz r i,FH r l with
  |some v,some vs=>some (v::vs)
  |_,_=>none
noncomputable def D3(st:St)(r:cU)(f:cQ (zY st)→Prop):Prop:=
 match FH r st with
 |some vs=>EU (zY st) vs f
 |none=>False
def oL:St→List Value→cU→cU
 |(i,_)::l,v::vs,r=>(i,v)::oL l vs r
 |_,_,r=>r
noncomputable def QW(r:cU)(l:List Nat):Option cU:=
 gg (motive:=fun _=>Option cU) (some []) (fun t _ ih=>match lz r t,ih with
  |some v,some l=>some ((t,v)::l)
  |_,_=>none) l
noncomputable def mK(t:Nat)(l:List Oper):Bool:=
 gg (motive:=fun _=>Bool) false (fun o _ ih=>match o.dst with|some d=>bif bU d t then true else ih|none=>ih) l
noncomputable def hE(t:Nat)(c:Code):Bool:=
 Code.rec (motive:=fun _=>Bool) false (fun _ ops _=>mK t ops.toList) (fun _ _ a b=>bif a then true else b) (fun _ _ _ a b=>bif a then true else b)
  (fun _ _ b=>b) (fun _ b=>b) (fun _ _ _ _ _ _=>true) (fun _=>false) (fun _ b=>b) (fun _=>false) (fun _=>false) false (fun _=>false) c
inductive Ann where
 |nil
 |node (a b:Ann)
 |join (st:St) (a b:Ann)
 |loop (st:St) (b:Ann)
 |draw (d:DA)
 |kinds (k v:Kind)
 |reg (keep:List Nat) (inner:Ann)
 |rf (ks:List Kind) (a b:Ann)
def Ann.l:Ann→Ann
 | .node a _=>a
 | .rf _ a _=>a
 |_=>.nil
def Ann.r:Ann→Ann
 | .node _ b=>b
 | .rf _ _ b=>b
 |_=>.nil
noncomputable def Tl(l:List Oper):Nat:=gg (motive:=fun _=>Nat) 0 (fun o _ ih=>dw (oQ o) ih) l
def YK:Option Nat→Option Nat→Option Nat
 |some a,some b=>some (dw a b)
 |_,_=>none
noncomputable def zj(c:Code):Option Nat:=
 Code.rec (motive:=fun _=>Option Nat) (some 0) (fun _ ops _=>some (Tl ops.toList)) (fun _ _ a b=>YK a b) (fun _ _ _ a b=>YK a b)
  (fun _ _ b=>b) (fun _ b=>b) (fun _ _ _ _ _ _=>none) (fun _=>some 0) (fun _ b=>b) (fun _=>some 0) (fun _=>some 0) (some 0) (fun _=>some 0) c
noncomputable def xV(m:Nat)(r:cU):cU:=gg (motive:=fun _=>cU) [] (fun kv _ ih=>bif tb m kv.1 then ih else kv::ih) r
noncomputable def CY(P:Program)(N:Nat)(ops:List Oper)(dr:Bool)(an:Ann)(Kn:cU→ae→Prop)(r:cU)(h:ae):Prop:=
 match dr with
 |false=>(match an with
  | .kinds kk vk=>FO P N (some (kk,vk)) ops ops [] Kn r h
  |_=>FO P N none ops ops [] Kn r h)
 |true=>bif Fd ops (QN ops)then oo P N ops (QN ops) (match an with| .draw da=>da|_=>X9 P ops (QN ops) (Nat.add (Nat.add ops.length ops.length) 2) 0 []) false 0 [] [] Kn r h else False
noncomputable def mw(P:Program)(N:Nat)(c:Code):Ann→(cU→ae→Prop)→(Ex→cU→ae→Prop)→cU→ae→Prop:=
 Code.rec (motive:=fun _=>Ann→(cU→ae→Prop)→(Ex→cU→ae→Prop)→cU→ae→Prop)
  (fun _ Kn _ r h=>Kn r h)
  (fun _ ops dr an Kn _ r h=>match an with
   | .reg keep an=>CY P N ops.toList dr an (fun r' h'=>match QW r' keep with|some r0=>Kn r0 h'|none=>False) r h
   |an=>CY P N ops.toList dr an Kn r h)
  (fun a _ iha ihb an Kn Kx r h=>match an with
   | .join st aa ab=>(match zj a with
     |none=>False
     |some m=>Join (T:=cQ (zY st)) (fun t h'=>ihb ab Kn Kx (oL st (oA (zY st) t) (xV m r)) h')
      fun J=>iha aa (fun r' h'=>D3 st r' fun t=>J t h') Kx r h)
   |an=>iha an.l (fun r' h'=>ihb an.r Kn Kx r' h') Kx r h)
  (fun c _ _ iha ihb an Kn Kx r h=>match d9 r c with
   |some (.bool t)=>CondP t (iha an.l Kn Kx r h) (ihb an.r Kn Kx r h)
   |_=>False)
  (fun id _ ih an Kn Kx r h=>ih an Kn (fun e r' h'=>match e with
    | .exit i=>bif bU i id then Kn r' h' else Kx (.exit i) r' h'
    | .ret=>Kx .ret r' h') r h)
  (fun b ih an _ Kx r h=>match an with
   | .loop st ab=>(match zj b with
     |none=>False
     |some m=>D3 st r fun t0=>LoopP (T:=cQ (zY st)) (fun self t h'=>ih ab (fun r' h''=>D3 st r' fun t'=>self t' h'') Kx (oL st (oA (zY st) t) (xV m r)) h') t0 h)
   |_=>False)
  (fun _ _ _ _ _ _ _ _ _ _ _=>False)
  (fun id _ _ Kx r h=>Kx (.exit id) r h)
  (fun _ _ _ _ _ _ _=>False)
  (fun _ _ Kn _ r h=>Kn r h)
  (fun _ _ _ _ _ _=>False)
  (fun _ _ Kx r h=>Kx .ret r h)
  (fun _ _ _ _ _ _=>False)
  c
noncomputable def oN(P:Program)(r:cU)(h:ae):List ResultVar→(List Value→Prop)→Prop
 | [],K=>K []
 | .tmp t::l,K=>(match lz r t with|some v=>oN P r h l fun vs=>K (v::vs)|none=>False)
 | .cell a t::l,K=>(match lz r a with
  |some v=>Ml P t v (fun x _=>oN P r h l fun vs=>K (x::vs)) h
  |none=>False)
def qX:Nat→List Value→cU
 |_,[]=> []
 |i,v::vs=>(i,v)::qX (i+1) vs
noncomputable def Qy(P:Program)(fn:Func)(c:Code)(an:Ann)(args:List Value)(ks:List Kind)(K:cQ ks→ae→Prop)(h:ae):Prop:=
 mw P fn.ntmps c an
  (fun r h'=>oN P r h' fn.results.toList fun vs=>EU ks vs fun t=>K t h')
  (fun e r h'=>match e with
   | .ret=>oN P r h' fn.results.toList fun vs=>EU ks vs fun t=>K t h'
   | .exit _=>False)
  (qX 0 args) h
noncomputable def te(c:Code):Bool:=
 Code.rec (motive:=fun _=>Bool) false (fun _ _ _=>false) (fun _ _ a b=>bif a then true else b) (fun _ _ _ a b=>bif a then true else b)
  (fun _ _ b=>b) (fun _ b=>b) (fun _ _ _ _ _ _=>true) (fun _=>false) (fun _ b=>b) (fun _=>false) (fun _=>false) false (fun _=>false) c
def K6:Option Ex→Option Code
 |none=>none
 |some (.exit i)=>some (.exit i)
 |some .ret=>some .ret
def Zs(N:ae→Prop)(X:Nat→ae→Prop)(R:ae→Prop):Option Ex→ae→Prop
 |none=>N
 |some (.exit i)=>X i
 |some .ret=>R
structure RangeP(P:Program)(fv:Value)(ks:List Kind)(h:ae)(RT:Obj→Obj→cQ ks→(Option Ex→ae→Prop)→ae→Prop)(N:ae→Prop)(X:Nat→ae→Prop)(R:ae→Prop):Prop where
 run:∀lo:LoopState→Option Ex→Obj,(∀s j,∃r,lo s j=.loop r)→
  (∀x h' K,h'[h.size+1]? =some (lo .ready none)→
   RT (lo .ready none) (lo .busy none) x (fun j h2=>h2[h.size+1]? =some (lo .busy none)∧K j.isNone (h2.setIfInBounds (h.size+1) (lo (if j.isNone then .ready else .done) j))) h'→
   HV P (.func (.yield (h.size+1)) #[] #[]) (oA ks x) [.c .bool] K h')→
  ∃f first cap,fv=.func (.func f) first cap∧HE P f (first.toList++ [.func (.yield (h.size+1)) #[] #[]]++cap.toList) []
   (fun _ h2=>∃s j,s≠ .busy∧h2[h.size+1]? =some (lo s j)∧Zs N X R j (h2.setIfInBounds (h.size+1) (lo .exhausted j))) ((h.push (.deferred (some []))).push (lo .ready none))
def Vx:List Nat→List Value→cU→cU
 |i::l,v::vs,r=>Vx l vs ((i,v)::r)
 |_,_,r=>r
noncomputable def Ob(P:Program)(N:Nat)(ps:List Nat)(ks:List Kind)(assign body:Code)(an:Ann)(r:cU)(l:Nat)(I6 bz:Obj)(x:cQ ks)(k:Option Ex→ae→Prop)(h:ae):Prop:=
 mw P N assign an.l (fun r1 h1=>h1[l]? =some I6∧mw P N body an.r (fun _ h2=>k none h2) (fun e _ h2=>k (some e) h2) r1 (h1.setIfInBounds l bz)) (fun _ _ _=>False) (Vx ps (oA ks x) r) h
def Ak(N:Nat):List Nat→Bool
 | []=>true
 |n::l=>Nat.blt n N&&Ak N l
noncomputable def Ad(P:Program)(N:Nat)(c:Code):Ann→(List Nat→cU→ae→Prop)→(Ex→List Nat→cU→ae→Prop)→List Nat→cU→ae→Prop:=
 Code.rec (motive:=fun _=>Ann→(List Nat→cU→ae→Prop)→(Ex→List Nat→cU→ae→Prop)→List Nat→cU→ae→Prop)
  (fun an Kn Kx ms r h=>mw P N .skip an (Kn ms) (fun e=>Kx e ms) r h)
  (fun id ops dr an Kn Kx ms r h=>mw P N (.region id ops dr) an (Kn ms) (fun e=>Kx e ms) r h)
  (fun a b iha ihb an Kn Kx ms r h=>bif (bif te a then true else te b)then iha an.l (fun ms r' h'=>ihb an.r Kn Kx ms r' h') Kx ms r h
   else mw P N (.seq a b) an (Kn ms) (fun e=>Kx e ms) r h)
  (fun c a b iha ihb an Kn Kx ms r h=>bif (bif te a then true else te b)then
    (match d9 r c with
     |some (.bool t)=>CondP t (iha an.l Kn Kx ms r h) (ihb an.r Kn Kx ms r h)
     |_=>False)
   else mw P N (.cond c a b) an (Kn ms) (fun e=>Kx e ms) r h)
  (fun id b ih an Kn Kx ms r h=>bif te b then ih an Kn (fun e ms r' h'=>match e with
    | .exit i=>bif bU i id then Kn ms r' h' else Kx (.exit i) ms r' h'
    | .ret=>Kx .ret ms r' h') ms r h
   else mw P N (.block id b) an (Kn ms) (fun e=>Kx e ms) r h)
  (fun b _ an Kn Kx ms r h=>mw P N (.loop b) an (Kn ms) (fun e=>Kx e ms) r h)
  (fun g ps assign body _ _ an Kn Kx ms r h=>match an with
   | .rf ks aa ab=>bif Ak N ps.toList&&bU ps.toList.length ks.length then
    (match d9 r g with
     |some fv=>RangeP P fv ks h (fun I6 bz x k h'=>Ob P N ps.toList ks assign body (.node aa ab) r (h.size+1) I6 bz x k h')
      (fun h'=>Kn (h.size::ms) r h') (fun i h'=>Kx (.exit i) (h.size::ms) r h') (fun h'=>Kx .ret (h.size::ms) r h')
     |none=>False)else False
   |_=>False)
  (fun id an Kn Kx ms r h=>mw P N (.exit id) an (Kn ms) (fun e=>Kx e ms) r h)
  (fun _ _ _ _ _ _ _ _=>False)
  (fun l an Kn Kx ms r h=>mw P N (.label l) an (Kn ms) (fun e=>Kx e ms) r h)
  (fun _ _ _ _ _ _ _=>False)
  (fun an Kn Kx ms r h=>mw P N .ret an (Kn ms) (fun e=>Kx e ms) r h)
  (fun _ _ _ _ _ _ _=>False)
  c
def Qw:List Nat→(ae→Prop)→ae→Prop
 | [],K,h=>K h
 |D::ms,K,h=>h[D]? =some (.deferred (some []))∧Qw ms K (h.setIfInBounds D (.deferred none))
noncomputable def Oc(P:Program)(fn:Func)(c:Code)(an:Ann)(args:List Value)(ks:List Kind)(K:cQ ks→ae→Prop)(h:ae):Prop:=
 Ad P fn.ntmps c an
  (fun ms r h'=>Qw ms (fun h'=>oN P r h' fn.results.toList fun vs=>EU ks vs fun t=>K t h') h')
  (fun e ms r h'=>match e with
   | .ret=>Qw ms (fun h'=>oN P r h' fn.results.toList fun vs=>EU ks vs fun t=>K t h') h'
   | .exit _=>False)
  [] (qX 0 args) h
end Go.Lift
namespace Go.Lift
open Go
theorem GV(a:Addr):adr a 0=a:=rfl
theorem B7(a:Addr)(n:Nat):adr a (n+1)=⟨a.block,a.off+(n+1),none⟩:=rfl
theorem vi(a:Addr)(n:Nat):adr a n=a.add n:=by
 cases n with
 |zero=>simp[GV,Addr.add]
 |succ n=>simp[B7,Addr.add]
theorem pW(a:Addr)(m n:Nat):adr (adr a m) n=adr a (m+n):=by
 cases n with
 |zero=>rfl
 |succ n=>cases m with
  |zero=>simp[GV]
  |succ m=>rw[B7,B7,show m+1+(n+1)=(m+1+n)+1 from rfl,B7];simp;omega
theorem Tame.refl(w:World):Tame w w:=⟨rfl,rfl,rfl⟩
theorem Tame.trans{a b c:World}(h:Tame a b)(k:Tame b c):Tame a c:=⟨k.os.trans h.os,k.tape.trans h.tape,k.output.trans h.output⟩
theorem BF{a b:IntKind}(h:KW a b=true):a=b:=by cases a<;>cases b<;>first|rfl|cases h
theorem CK.dec_sound{c:CK}{v:Value}{f:c.den→Prop}(h:c.dec v f):∃x,v=c.enc x∧f x:=by
 cases c<;>cases v<;>try simp only[CK.dec]at h
 case int.int k k' n=>
  cases hk:KW k' k with
  |false=>rw[hk]at h;exact h.elim
  |true=>rw[hk]at h;have:=BF hk;subst this;exact⟨n,rfl,h⟩
 case adr.pointer p=>cases p with
  |none=>exact h.elim
  |some a=>exact⟨a,rfl,h⟩
 all_goals first|exact h.elim|exact⟨_,rfl,h⟩
theorem Eo:∀{cs:List CK} {vs:List Value} {f:Vh cs→Prop},Rd cs vs f→∃t,vs=UT cs t∧f t
 | [],[],f,h=>⟨(),rfl,h⟩
 | [],_::_,f,h=>h.elim
 | [c],[v],f,h=>by obtain⟨x,rfl,hf⟩:=CK.dec_sound h;exact⟨x,rfl,hf⟩
 | [c],[],f,h=>h.elim
 | [c],_::_::_,f,h=>h.elim
 |c::d::cs,[],f,h=>h.elim
 |c::d::cs,[_],f,h=>h.elim
 |c::d::cs,v::u::vs,f,h=>by
  have h0:c.dec v fun x=>Rd (d::cs) (u::vs) fun t=>f (x,t):=h
  obtain⟨x,hx,h1⟩:=CK.dec_sound h0;obtain⟨t,ht,h2⟩:=Eo (cs:=d::cs) (vs:=u::vs) h1;exact⟨(x,t),by rw[ht,hx];rfl,h2⟩
theorem Kind.dec_sound{k:Kind}{v:Value}{f:k.den→Prop}(h:k.dec v f):∃x,v=k.enc x∧f x:=by
 cases k with
 |c k=>exact CK.dec_sound h
 |agg cs=>
  cases v<;>simp only[Kind.dec]at h
  case agg vs=>
   obtain⟨t,ht,hf⟩:=Eo h;exact⟨t,by simp only[Kind.enc,←ht],hf⟩
theorem tu:∀{ks:List Kind} {vs:List Value} {f:cQ ks→Prop},EU ks vs f→∃t,vs=oA ks t∧f t
 | [],[],f,h=>⟨(),rfl,h⟩
 | [],_::_,f,h=>h.elim
 | [c],[v],f,h=>by obtain⟨x,rfl,hf⟩:=Kind.dec_sound h;exact⟨x,rfl,hf⟩
 | [c],[],f,h=>h.elim
 | [c],_::_::_,f,h=>h.elim
 |c::d::cs,[],f,h=>h.elim
 |c::d::cs,[_],f,h=>h.elim
 |c::d::cs,v::u::vs,f,h=>by
  have h0:c.dec v fun x=>EU (d::cs) (u::vs) fun t=>f (x,t):=h
  obtain⟨x,hx,h1⟩:=Kind.dec_sound h0;obtain⟨t,ht,h2⟩:=tu (ks:=d::cs) (vs:=u::vs) h1;exact⟨(x,t),by rw[ht,hx];rfl,h2⟩
theorem uv:∀(ks:List Kind) (t:cQ ks),(oA ks t).length=ks.length
 | [],_=>rfl
 | [_],_=>rfl
 |_::l::ks,(_,t)=>by simp only[oA,ar,uv (l::ks) t]
structure Agree(N:Nat)(r:cU)(a:Act):Prop where
 size:a.tmps.size=N
 look:∀t v,lz r t=some v→a.tmps.getD t undef=v
theorem jA(k:Nat)(v:Value)(r:cU):lz ((k,v)::r) k=some v:=by rw[FV,show bU k k=true from Nat.beq_refl k];rfl
theorem iz{k t:Nat}(v:Value)(r:cU)(h:k≠t):lz ((k,v)::r) t=lz r t:=by
 rw[FV];have:bU k t=false:=Bool.eq_false_iff.2 fun e=>h (bm e)
 rw[this];rfl
theorem Agree.put{N:Nat}{r:cU}{a:Act}(h:Agree N r a)(d:Nat)(v:Value)(hd:d<N):Agree N ((d,v)::r) (a.put (some d) v):=by
 refine⟨by simp[Act.put,h.size],fun t u hu=>?_⟩
 by_cases e:d=t
 ·subst e
  rw[jA]at hu;cases hu;simp[Act.put,h.size,hd]
 ·rw[iz v r e]at hu
  have:=h.look t u hu;simpa[Act.put,Array.getElem?_setIfInBounds_ne e]using this
theorem Agree.known{N:Nat}{r:cU}{a:Act}(h:Agree N r a){t:Nat}{v:Value}(hv:lz r t=some v):Agree N ((t,v)::r) a:=by
 refine⟨h.size,fun s u hu=>?_⟩
 by_cases e:t=s
 ·subst e;rw[jA]at hu;cases hu;exact h.look t v hv
 ·rw[iz v r e]at hu;exact h.look s u hu
theorem mQ{N:Nat}{r:cU}{a:Act}(h:Agree N r a){o:Operand}{v:Value}(hv:d9 r o=some v):a.eval o=v:=by
 cases o with
 |tmp t=>exact h.look t v hv
 |const c=>simp[d9]at hv;subst hv;rfl
 |global g=>simp[d9]at hv;subst hv;rfl
 |func f=>simp[d9]at hv;subst hv;rfl
theorem py{N:Nat}{r:cU}{a:Act}(h:Agree N r a):∀{os:List Operand} {vs:List Value},rI r os=some vs→os.map a.eval=vs
 | [],vs,hv=>by simp[rI]at hv;subst hv;rfl
 |o::os,vs,hv=>by
  simp only[rI]at hv;cases ho:d9 r o with
  |none=>simp[ho]at hv
  |some v=>cases hos:rI r os with
   |none=>simp[ho,hos]at hv
   |some us=>simp[ho,hos]at hv;subst hv;simp[mQ h ho,py h hos]
theorem aG{P:Program}{t:TypeId}{d:TypeDesc}(h:P.underlying t=some d)(w:World):(underlying t).run P w=.ok d w:=by
 simp only[underlying,program,bind,Sem.bind,Sem.run,h,pure]
theorem dq{P:Program}{t:TypeId}{i:TypeInfo}(h:P.info? t=some i)(w:World):(typeInfo t).run P w=.ok i w:=by
 simp only[typeInfo,program,bind,Sem.bind,Sem.run,h,pure]
theorem ki{P:Program}{s:Sem Value}{v:Value}{w w':World}(h:s.run P w=.ok v w'):(do pure (Next.value (←s)):Sem Next).run P w=.ok (.value v) w':=by
 simp[h]
theorem TO{P:Program}{s:Sem Unit}{w w':World}(h:s.run P w=.ok () w'):(do s;pure Next.skip:Sem Next).run P w=.ok .skip w':=by
 simp[h]
theorem Bj{P:Program}{w:World}{a:Addr}{v:Value}(h:aP w.heap a=some v):(load a).run P w=.ok v w:=by
 have h':w.cell? a=some v:=h;simp[h']
theorem B0{v:Value}{vs:List Value}{i:Nat}{a:Addr}{h:ae}:ux (v::vs) i a h↔aP h (adr a i)=some v∧ux vs (i+1) a h:=by
 cases vs with
 |nil=>simp[ux]
 |cons u us=>rfl
theorem uc{P:Program}{w:World}{a:Addr}:∀(vs:List Value) (i:Nat) (acc:Array Value),ux vs i a w.heap→
  (loadCellsFrom a i vs.length acc).run P w=.ok (acc++vs.toArray) w
 | [],i,acc,_=>by simp[loadCellsFrom]
 |v::vs,i,acc,h=>by
  obtain⟨h1,h2⟩:=B0.1 h;rw[vi]at h1;have:=uc (P:=P) (w:=w) (a:=a) vs (i+1) (acc.push v) h2;simp only[ar,loadCellsFrom,Sem.run_bind,Bj h1,Result.andThen_ok,this];simp
theorem HQ{P:Program}{w:World}{a:Addr}{vs:List Value}(h:ux vs 0 a w.heap):(loadCells a vs.length).run P w=.ok vs.toArray w:=by
 have:=uc (P:=P) (w:=w) (a:=a) vs 0 #[] h;simpa[loadCells]using this
theorem zx:∀(cs:List CK) (i:Nat) (a:Addr) (h:ae) (k:List Value→Prop),K7 cs i a h k→∃vs,vs.length=cs.length∧ux vs i a h∧k vs
 | [],i,a,h,k,hk=>⟨[],rfl,trivial,hk⟩
 |c::cs,i,a,h,k,hk=>by
  obtain⟨x,hx,hk⟩:=hk;obtain⟨vs,hl,hc,hk⟩:=zx cs (i+1) a h _ hk;exact⟨c.enc x::vs,by simp[hl],B0.2 ⟨hx,hc⟩,hk⟩
theorem BX:∀{vs:List Value} {cs:List CK},GH vs=some cs→cs.length=vs.length
 | [],cs,h=>by simp[GH]at h;subst h;rfl
 |v::vs,cs,h=>by
  simp only[GH]at h;cases h1:X6 v with
  |none=>simp[h1]at h
  |some c=>cases h2:GH vs with
   |none=>simp[h1,h2]at h
   |some ds=>simp[h1,h2]at h;subst h;simp[BX h2]
def Vd(P:Program)(t:TypeId)(i:TypeInfo):Kind→Prop
 | .c _=>wY P t=false
 | .agg cs=>wY P t=true∧i.size=cs.length
theorem OS{P:Program}{t:TypeId}{k:Kind}(h:QU P t=some k):∃i,P.info? t=some i∧Vd P t i k:=by
 unfold QU zh at h;cases hi:P.info? t with
 |none=>simp[hi]at h
 |some i=>
  refine⟨i,rfl,?_⟩;cases hz:i.zero with
  |none=>simp[hi,hz]at h
  |some z=>
   rw[hi]at h;simp only[hz]at h;cases z;case agg vs=>
    simp only at h;cases hb:(wY P t&&bU vs.toList.length (cz P t))with
    |false=>rw[hb]at h;simp at h
    |true=>
     rw[hb]at h;simp only[cond_true]at h;simp only[Bool.and_eq_true]at hb;have hs:=bm hb.2;cases hd:GH vs.toList with
     |none=>rw[hd]at h;simp at h
     |some ds=>
      rw[hd]at h;simp only[bK.injEq]at h;subst h;exact⟨hb.1,by rw[BX hd,hs];simp[cz,hi]⟩
   all_goals
    simp only at h;cases ha:wY P t
    ·rw[ha]at h
     simp only[cond_false]at h;split at h
     ·simp only[bK.injEq]at h;subst h;exact ha
     ·simp at h
    ·rw[ha]at h;simp at h
theorem OT{P:Program}{t:TypeId}{k:Kind}(h:Gk P t=some k):(∀w,(isAgg t).run P w=.ok (wY P t) w)∧QU P t=some k:=by
 unfold Gk at h;cases hu:P.underlying t with
 |none=>simp[hu]at h
 |some d=>
  simp only[hu]at h;refine⟨fun w=>?_,h⟩
  simp only[isAgg,Sem.run_bind,aG hu,Result.andThen_ok];unfold wY;rw[hu];cases d<;>rfl
theorem D7{P:Program}{t:TypeId}{v:Value}{K:RK}{h:ae}(hl:Ml P t v K h):
  ∃u S,K u (some S)∧S h∧∀w:World,S w.heap→(Instr.loadAt t v).run P w=.ok u w:=by
 unfold Ml at hl;cases v with
 |pointer p=>
  cases p with
  |none=>exact hl.elim
  |some a=>
   simp only at hl;cases hk:Gk P t with
   |none=>simp[hk]at hl
   |some k=>
    obtain⟨hagg,hz⟩:=OT hk;obtain⟨i,hi,hc⟩:=OS hz;rw[hk]at hl;cases k with
    |c c=>
     obtain⟨x,hx,hK⟩:=hl;refine⟨_,_,hK,hx,fun w hw=>?_⟩
     have hc:wY P t=false:=hc;simp only[Instr.loadAt,Instr.sureAddr,loadVar,Sem.run_bind,Sem.run_pure,Result.andThen_ok,hagg,hc];simp[Bj hw]
    |agg cs=>
     obtain⟨vs,hlen,hcs,hK⟩:=zx cs 0 a h _ hl;obtain⟨h1,h2⟩:wY P t=true∧i.size=cs.length:=hc;refine⟨_,_,hK,hcs,fun w hw=>?_⟩
     have hz:(sizeOf t).run P w=.ok vs.length w:=by simp[sizeOf,dq hi,h2,hlen]
     simp only[Instr.loadAt,Instr.sureAddr,loadVar,Sem.run_bind,Sem.run_pure,Result.andThen_ok,hagg,h1];simp[hz,HQ hw]
 |_=>exact hl.elim
end Go.Lift
