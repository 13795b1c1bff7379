/- A part of the proof that the named laws of this program answer true, whatever the input. -/
import Derived.OrdersIn
import Derived.Below
import Derived.WalkKit
import Derived.RangeFuncRecord
open BitVec renaming ofInt→ao
open Iff renaming rfl→tN
open List renaming rec→fV,replicate→dT,length_cons→az
open Nat renaming succ→gf,beq→bN,ble→xE,min→dZ,land→jF,lor→cV,pred→xa,eq_of_beq_eq_true→aZ
open Option renaming some→bA
namespace Go.Lift
abbrev ae:=Array Obj
def aJ(h:ae)(a:Addr):Option Value:=
 match h[a.block]? with
 |some (.cells c _ _)=>if a.spot.isSome then none else c[a.off]?
 |_=>none
def Dm(h:ae)(a:Addr):Bool:=
 match h[a.block]? with
 |some (.cells _ _ (lo,hi))=>lo≤a.off&&a.off<hi
 |_=>false
def hset(h:ae)(a:Addr)(v:Value):ae:=
 h.modify a.block fun
  | .cells c elem frozen=>.cells (if a.spot.isSome then c else c.setIfInBounds a.off v) elem frozen
  |o=>o
noncomputable def adr(a:Addr)(n:Nat):Addr:=Nat.rec (motive:=fun _=>Addr) a (fun n _=>⟨a.block,a.off+gf n,none⟩) n
def Wr(h:ae)(a:Addr):Prop:=(∃v,aJ h a=some v)∧Dm h a=false
structure Tame(w w':World):Prop where
 os:w'.os=w.os
 tape:w'.tape=w.tape
 output:w'.output=w.output
structure SliceV where
 a:Option Addr
 len:Nat
 cap:Nat
def H6:IntKind→IntKind→Bool
 | .i8,.i8=>true| .i16,.i16=>true| .i32,.i32=>true| .i64,.i64=>true
 | .u8,.u8=>true| .u16,.u16=>true| .u32,.u32=>true| .u64,.u64=>true
 |_,_=>false
inductive CK where
 |int (k:IntKind)|bool|str|ptr|slice|map|chan|raw|adr
def CK.den:CK→Type
 | .int _=>Int| .bool=>Bool| .str=>ByteArray| .ptr=>Option Addr| .slice=>SliceV| .map=>Option Nat| .chan=>Option Nat| .raw=>Value| .adr=>Addr
def CK.enc:(c:CK)→c.den→Value
 | .int k,n=>.int k n
 | .bool,b=>.bool b
 | .str,s=>.string s
 | .ptr,p=>.pointer p
 | .slice,s=>.slice s.a s.len s.cap
 | .map,r=>.map r
 | .chan,r=>.chan r
 | .raw,v=>v
 | .adr,a=>.pointer (some a)
def CK.dec:(c:CK)→Value→(c.den→Prop)→Prop
 | .int k,.int k' n,f=>bif H6 k' k then f n else False
 | .bool,.bool b,f=>f b
 | .str,.string s,f=>f s
 | .ptr,.pointer p,f=>f p
 | .slice,.slice a l c,f=>f ⟨a,l,c⟩
 | .map,.map r,f=>f r
 | .chan,.chan r,f=>f r
 | .raw,v,f=>f v
 | .adr,.pointer (some a),f=>f a
 |_,_,_=>False
def SC:List CK→Type
 | []=>Unit
 | [c]=>c.den
 |c::d::cs=>c.den×SC (d::cs)
def Sb:(cs:List CK)→SC cs→List Value
 | [],_=> []
 | [c],x=> [c.enc x]
 |c::d::cs,(x,t)=>c.enc x::Sb (d::cs) t
def OA:(cs:List CK)→List Value→(SC cs→Prop)→Prop
 | [],[],f=>f ()
 | [c],[v],f=>c.dec v f
 |c::d::cs,v::u::vs,f=>c.dec v fun x=>OA (d::cs) (u::vs) fun t=>f (x,t)
 |_,_,_=>False
inductive Kind where
 |c (k:CK)
 |agg (cs:List CK)
def Kind.den:Kind→Type
 | .c k=>k.den
 | .agg cs=>SC cs
def Kind.enc:(k:Kind)→k.den→Value
 | .c k,x=>k.enc x
 | .agg cs,t=>.agg (Sb cs t).toArray
def Kind.dec:(k:Kind)→Value→(k.den→Prop)→Prop
 | .c k,v,f=>k.dec v f
 | .agg cs,.agg vs,f=>OA cs vs.toList f
 |_,_,_=>False
def vR:List Kind→Type
 | []=>Unit
 | [k]=>k.den
 |k::l::ks=>k.den×vR (l::ks)
def np:(ks:List Kind)→vR ks→List Value
 | [],_=> []
 | [k],x=> [k.enc x]
 |k::l::ks,(x,t)=>k.enc x::np (l::ks) t
def CV:(ks:List Kind)→List Value→(vR ks→Prop)→Prop
 | [],[],f=>f ()
 | [k],[v],f=>k.dec v f
 |k::l::ks,v::u::vs,f=>k.dec v fun x=>CV (l::ks) (u::vs) fun t=>f (x,t)
 |_,_,_=>False
def D9(ks:List Kind)(vs:List Value):Value:=
 match ks,vs with
 | [_],[v]=>v
 |_,vs=>.tuple vs.toArray
def Vt:Value→Option CK
 | .int k _=>some (.int k)
 | .bool _=>some .bool
 | .string _=>some .str
 | .pointer _=>some .ptr
 | .slice .. =>some .slice
 | .map _=>some .map
 | .chan _=>some .chan
 | .nilFunc=>some .raw
 | .nilIface=>some .raw
 |_=>none
def EH:List Value→Option (List CK)
 | []=>some []
 |v::vs=>match Vt v,EH vs with
  |some c,some cs=>some (c::cs)
  |_,_=>none
def vE(P:Program)(t:TypeId):Bool:=
 match P.underlying t with
 |some (.struct _)|some (.array _ _)=>true
 |_=>false
def ce(P:Program)(t:TypeId):Nat:=match P.info? t with|some i=>i.size|none=>0
def qI(P:Program)(t:TypeId):Nat:=match P.info? t with|some i=>i.bytes|none=>0
def xQ(P:Program)(t:TypeId):Option Value:=match P.info? t with|some i=>i.zero|none=>none
def Ob(P:Program)(t:TypeId):Option Kind:=
 match xQ P t with
 |some (.agg vs)=>bif vE P t&&bN vs.toList.length (ce P t)then(match EH vs.toList with|some cs=>some (.agg cs)|none=>none)else none
 |some v=>bif vE P t then none else(match Vt v with|some c=>some (.c c)|none=>none)
 |none=>none
def En(P:Program)(t:TypeId):Option Kind:=
 match P.underlying t with
 |none=>none
 |some _=>Ob P t
structure HC(P:Program)(f:FuncId)(args:List Value)(ks:List Kind)(K:vR ks→ae→Prop)(h:ae):Prop where
 run:∀w:World,w.heap=h→
  ((callFunc f args.toArray).run P w=.ok (.enter f args.toArray) w∧
   Calls P f args.toArray w fun e w'=>Tame w w'∧∃t:vR ks,e=.returned (D9 ks (np ks t))∧K t w'.heap)∨
  (∃v w',(callFunc f args.toArray).run P w=.ok (.value v) w'∧Tame w w'∧∃t:vR ks,v=D9 ks (np ks t)∧K t w'.heap)
structure HE(P:Program)(f:FuncId)(args:List Value)(ks:List Kind)(K:vR ks→ae→Prop)(h:ae):Prop where
 run:∀w:World,w.heap=h→(∀(args:Array Value) (w:World),(callFunc f args).run P w=.ok (.enter f args) w)∧
  Calls P f args.toArray w fun e w'=>Tame w w'∧∃t:vR ks,e=.returned (D9 ks (np ks t))∧K t w'.heap
theorem HE.hc{P:Program}{f:FuncId}{args:List Value}{ks:List Kind}{K:vR ks→ae→Prop}{h:ae}(e:HE P f args ks K h):HC P f args ks K h:=
 ⟨fun w a=>.inl ⟨(e.run w a).1 _ w,(e.run w a).2⟩⟩
structure HY(P:Program)(l:Nat)(args:List Value)(K:Bool→ae→Prop)(h:ae):Prop where
 run:∀w:World,w.heap=h→∃fn tmps assign body,(Instr.yield l args.toArray).run P w=.ok (.round l fn tmps assign body) w∧
  ∀(c:Frame) (cs:List Frame),∃b w',Tame w w'∧K b w'.heap∧Steps P (lone (Frame.round l fn tmps assign body .normal) (c::cs) w) (lone (c.finish (.bool b)) cs w')
structure HV(P:Program)(fv:Value)(args:List Value)(ks:List Kind)(K:vR ks→ae→Prop)(h:ae):Prop where
 run:(∃f first cap,fv=.func (.func f) first cap∧HC P f (first.toList++args++cap.toList) ks K h)∨
  (∃l,fv=.func (.yield l) #[] #[]∧HY P l args (fun b h'=>CV ks [.bool b] fun t=>K t h') h)
noncomputable def CondP(b:Bool)(t e:Prop):Prop:=Bool.rec (motive:=fun _=>Prop) e t b
theorem CondP.yes{b:Bool}{t e:Prop}(h:CondP b t e)(a:b=true):t:=by subst a;exact h
theorem CondP.no{b:Bool}{t e:Prop}(h:CondP b t e)(a:b=false):e:=by subst a;exact h
theorem CondP.intro{b:Bool}{t e:Prop}(c:b=true→t)(a:b=false→e):CondP b t e:=by cases b;exact a rfl;exact c rfl
theorem ax{t e:Prop}:CondP true t e↔t:=tN
theorem al{t e:Prop}:CondP false t e↔e:=tN
attribute [irreducible] CondP
def At(h:ae)(k:ae→Prop):Prop:=k h
def Bd{T:Type}(x:T)(k:T→Prop):Prop:=k x
structure Join{T:Type}(rest:T→ae→Prop)(k:(T→ae→Prop)→Prop):Prop where
 run:k rest
structure LoopP{T:Type}(F:(T→ae→Prop)→T→ae→Prop)(t:T)(h:ae):Prop where
 run:∀I:T→ae→Prop,(∀t h,F I t h→I t h)→I t h
abbrev cH:=List (Nat×Value)
noncomputable def kw(r:cH)(t:Nat):Option Value:=
 fV (motive:=fun _=>Option Value) none (fun a _ b=>bif bN a.1 t then some a.2 else b) r
theorem D6(k:Nat)(v:Value)(r:cH)(t:Nat):kw ((k,v)::r) t=bif bN k t then some v else kw r t:=rfl
noncomputable def dK(r:cH):Operand→Option Value
 | .tmp t=>kw r t
 | .const v=>some v
 | .global g=>some (.pointer (some ⟨g,0,none⟩))
 | .func f=>some (.func (.func f) #[] #[])
noncomputable def qC(r:cH):List Operand→Option (List Value)
 | []=>some []
 |o::os=>match dK r o,qC r os with
  |some v,some vs=>some (v::vs)
  |_,_=>none
noncomputable def Ie:List CK→Nat→Addr→ae→(List Value→Prop)→Prop
 | [],_,_,_,k=>k []
 |c::cs,i,a,h,k=>∃x:c.den,aJ h (adr a i)=some (c.enc x)∧Ie cs (i+1) a h fun vs=>k (c.enc x::vs)
noncomputable def sQ:List Value→Nat→Addr→ae→Prop
 | [],_,_,_=>True
 | [v],i,a,h=>aJ h (adr a i)=some v
 |v::u::vs,i,a,h=>aJ h (adr a i)=some v∧sQ (u::vs) (i+1) a h
abbrev RK:=Value→Option (ae→Prop)→Prop
noncomputable def JI(P:Program)(t:TypeId)(v:Value)(K:RK)(h:ae):Prop:=
 match v with
 | .pointer (some a)=>
  match En P t with
  |some (.c c)=>∃x:c.den,aJ h a=some (c.enc x)∧K (c.enc x) (some fun b=>aJ b a=some (c.enc x))
  |some (.agg cs)=>Ie cs 0 a h fun vs=>K (.agg vs.toArray) (some fun b=>sQ vs 0 a b)
  |none=>False
 |_=>False
def wI(P:Program)(t:TypeId)(f:Nat):Option (TypeId×Nat):=
 match P.underlying t with
 |some (.struct fs)=>match fs.toList[f]? with
  |some g=>some (g.type,g.offset)
  |none=>none
 |_=>none
def vQ(P:Program)(t:TypeId):Option TypeId:=
 match P.underlying t with
 |some (.slice e)=>some e
 |_=>none
def LK(c:BinOp)(k:IntKind)(a b:Int)(K:RK):Prop:=
 match c with
 | .shl=>0≤b∧K (.int k (k.wrap (a*2^(min b.toNat k.bits)))) none
 | .shr=>0≤b∧K (.int k (a.fdiv (2^(min b.toNat k.bits)))) none
 |_=>False
def U8(c:BinOp)(k:IntKind)(a b:Int)(K:RK):Prop:=
 match c with
 | .add=>K (.int k (k.wrap (a+b))) none
 | .sub=>K (.int k (k.wrap (a-b))) none
 | .mul=>K (.int k (k.wrap (a*b))) none
 | .quo=>b≠0∧K (.int k (k.wrap (a.tdiv b))) none
 | .rem=>b≠0∧K (.int k (a.tmod b)) none
 | .and=>K (.int k (k.wrap (ao k.bits a&&&ao k.bits b).toNat)) none
 | .or=>K (.int k (k.wrap (ao k.bits a|||ao k.bits b).toNat)) none
 | .xor=>K (.int k (k.wrap (ao k.bits a^^^ao k.bits b).toNat)) none
 | .andNot=>K (.int k (k.wrap (ao k.bits a&&& ~~~ao k.bits b).toNat)) none
 | .eql=>K (.bool (a==b)) none
 | .neq=>K (.bool (a !=b)) none
 | .lss=>K (.bool (decide (a<b))) none
 | .leq=>K (.bool (decide (a≤b))) none
 | .gtr=>K (.bool (decide (a>b))) none
 | .geq=>K (.bool (decide (a≥b))) none
 |_=>False
def UM(c:BinOp)(a b:ByteArray)(K:RK):Prop:=
 match c with
 | .add=>((a.size+b.size:Nat):Int)≤9223372036854775807∧K (.string (a++b)) none
 | .eql=>K (.bool (a.toList==b.toList)) none
 | .neq=>K (.bool (!(a.toList==b.toList))) none
 | .lss=>K (.bool (Op.bytesLess a.toList b.toList)) none
 | .leq=>K (.bool (Op.bytesLess a.toList b.toList||a.toList==b.toList)) none
 | .gtr=>K (.bool (!(Op.bytesLess a.toList b.toList||a.toList==b.toList))) none
 | .geq=>K (.bool (!(Op.bytesLess a.toList b.toList))) none
 |_=>False
def eY(h:ae)(a:Addr):Prop:=(∃c e,h[a.block]? =some (.cells c e (0,0))∧0<c.size)
def TB(P:Program)(t:TypeId)(neg:Bool)(x y:Value)(K:RK):Prop:=
 match P.underlying t,x,y with
 |some (.pointer _),.pointer a,.pointer none=>K (.bool (bif neg then !a.isNone else a.isNone)) none
 |some (.map _ _),.map a,.map none=>K (.bool (bif neg then !a.isNone else a.isNone)) none
 |some (.slice _),.slice a _ _,.slice none _ _=>K (.bool (bif neg then !a.isNone else a.isNone)) none
 |_,_,_=>False
def U7:Operand→Bool
 | .const (.pointer none)=>true
 | .const (.map none)=>true
 | .const (.slice none 0 0)=>true
 |_=>false
def Ut(P:Program)(t:TypeId)(neg:Bool)(x y:Value)(K:RK)(h:ae):Prop:=
 match P.underlying t,x,y with
 |some .bool,.bool a,.bool b=>K (.bool (bif neg then !(a==b)else a==b)) none
 |some (.pointer e),.pointer a,.pointer b=>
  (bif bN (ce P e) 0 then False else True)∧
  (∀x y,a=some x→b=some y→eY h x∧eY h y)∧
  K (.bool (bif neg then !(a==b)else a==b)) (some fun c=>∀x y,a=some x→b=some y→eY c x∧eY c y)
 |_,_,_=>False
def UT(P:Program)(c:BinOp)(t:TypeId)(x y:Value)(K:RK)(h:ae):Prop:=
 match x,y with
 | .int k a,.int k' b=>
  match c with
  | .shl=>LK .shl k a b K
  | .shr=>LK .shr k a b K
  |c=>bif H6 k' k then U8 c k a b K else False
 | .string a,.string b=>UM c a b K
 |x,y=>match c with
  | .eql=>Ut P t false x y K h
  | .neq=>Ut P t true x y K h
  |_=>False
def rG(h:ae):List (Option Addr×Option Addr)→Prop
 | []=>True
 |(a,b)::l=>(∀x y,a=some x→b=some y→eY h x∧eY h y)∧rG h l
def RA(P:Program)(t:TypeId)(x y:Value):Option (Bool×List (Option Addr×Option Addr)):=
 match P.underlying t,x,y with
 |some (.int _),.int k a,.int k' b=>bif H6 k' k then some (a==b,[])else none
 |some .bool,.bool a,.bool b=>some (a==b,[])
 |some .string,.string a,.string b=>some (a.toList==b.toList,[])
 |some (.pointer e),.pointer a,.pointer b=>bif bN (ce P e) 0 then none else some (a==b,[(a,b)])
 |_,_,_=>none
def TS(P:Program)(rec:TypeId→List Value→List Value→Option (Bool×List (Option Addr×Option Addr)))(xs ys:List Value):List Field→Option (Bool×List (Option Addr×Option Addr))
 | []=>some (true,[])
 |f::fs=>
  if f.name= "_" then none else
  bif (P.underlying f.type).isSome&&(P.info? f.type).isSome then
   match(bif vE P f.type then rec f.type ((xs.drop f.offset).take (ce P f.type)) ((ys.drop f.offset).take (ce P f.type))
    else match xs[f.offset]?,ys[f.offset]? with|some x,some y=>RA P f.type x y|_,_=>none),TS P rec xs ys fs with
   |some (b,l),some (c,m)=>some (b&&c,l++m)
   |_,_=>none
  else none
def RB(P:Program):Nat→TypeId→List Value→List Value→Option (Bool×List (Option Addr×Option Addr))
 |0,_,_,_=>none
 |d+1,t,xs,ys=>match P.underlying t with
  |some (.struct fs)=>bif P.stoodInHeld t then none else TS P (RB P d) xs ys fs.toList
  |_=>none
def W8(neg b:Bool)(K:RK)(h:ae):List (Option Addr×Option Addr)→Prop
 | []=>K (.bool (bif neg then !b else b)) none
 |p::l=>rG h (p::l)∧K (.bool (bif neg then !b else b)) (some fun a=>rG a (p::l))
def UV(P:Program)(a:BinOp)(t:TypeId)(xs ys:List Value)(K:RK)(h:ae):Prop:=
 bif P.eqGuardType P.depth t then False else
 match a with
 | .eql=>(match RB P 10 t xs ys with|some (b,l)=>W8 false b K h l|none=>False)
 | .neq=>(match RB P 10 t xs ys with|some (b,l)=>W8 true b K h l|none=>False)
 |_=>False
def WR(a:UnOp)(x:Value)(K:RK):Prop:=
 match a,x with
 | .neg,.int k n=>K (.int k (k.wrap (0-n))) none
 | .xor,.int k n=>K (.int k (k.wrap (ao k.bits (if k.signed then-1 else k.max)^^^ao k.bits n).toNat)) none
 | .not,.bool b=>K (.bool (!b)) none
 |_,_=>False
def dS(s:ByteArray):List Value:=s.data.toList.map fun b=>.int .u8 b.toNat
noncomputable def Row(h:ae)(a:Addr)(vs:List Value):Prop:=∀i v,vs[i]? =some v→aJ h (adr a i)=some v
noncomputable def SRow(h:ae)(a:Option Addr)(n:Nat)(vs:List Value):Prop:=vs.length=n∧(vs= []∨∃b,a=some b∧Row h b vs)
def Mv(P:Program)(e:TypeId):Bool:=match P.underlying e with|some (.int .u8)=>true|_=>false
def U6(P:Program)(s d:TypeId):Bool:=
 match P.underlying s,P.underlying d with
 |some .string,some (.slice e)=>Mv P e
 |_,_=>false
def ByP(e:TypeId)(s:ByteArray)(h:ae)(K:Nat→ae→Prop):Prop:=
 ∀c,s.size≤c→K c (h.push (.cells (dS s++dT (c-s.size) (Value.int .u8 0)).toArray e (c,c+1)))
noncomputable def QS(P:Program)(b c:TypeId)(x:Value)(K:RK)(h:ae):Prop:=
 match P.underlying b,P.underlying c,x with
 |some (.int _),some (.int k),.int _ n=>K (.int k (k.wrap n)) none
 |some .string,some .string,.string s=>K (.string s) none
 |some (.slice e),some .string,.slice a n _=>bif Mv P e then∃s:ByteArray,SRow h a n (dS s)∧K (.string s) (some fun d=>SRow d a n (dS s))else False
 |_,_,_=>False
def Sg(v:Option Value)(d y:Nat)(K:Nat→Prop):Prop:=
 match v with
 |none=>K d
 |some (.int _ i)=>(0≤i∧i≤y)∧K i.toNat
 |_=>False
noncomputable def aV(a:Option Addr)(l m size:Nat):Option Addr:=if m=l then a else a.map (adr · (l*size))
def Q2(P:Program)(t:TypeId)(K:Prop):Prop:=match P.info? t with|some _=>K|none=>False
noncomputable def LY(P:Program)(t:TypeId)(x:Value)(lo hi b:Option Value)(K:RK):Prop:=
 match P.underlying t,x with
 |some .string,.string s=>match b with
  |some _=>False
  |none=>Sg hi s.size s.size fun h=>Sg lo 0 h fun l=>K (.string (s.extract l h)) none
 |some (.slice e),.slice a len cap=>Q2 P e (
  match b with
  |none=>Sg hi len cap fun h=>Sg lo 0 h fun l=>K (.slice (aV a l cap (ce P e)) (h-l) (cap-l)) none
  |some m=>match hi with
   |none=>False
   |some hi=>Sg (some m) 0 cap fun m=>Sg (some hi) 0 m fun h=>Sg lo 0 h fun l=>K (.slice (aV a l m (ce P e)) (h-l) (m-l)) none)
 |some (.array n e),.pointer (some a)=>Q2 P e (
  match b with
  |none=>Sg hi n n fun h=>Sg lo 0 h fun l=>K (.slice (aV (some a) l n (ce P e)) (h-l) (n-l)) none
  |some _=>False)
 |_,_=>False
noncomputable def GF(r:cH):Option Operand→Option (Option Value)
 |none=>some none
 |some o=>match dK r o with
  |some v=>some (some v)
  |none=>none
noncomputable def yF(P:Program)(t:TypeId)(x i:Value)(K:RK):Prop:=
 match P.underlying t,x,i with
 |some (.array n e),.pointer (some a),.int _ i=>Q2 P e ((0≤i∧i<n)∧K (.pointer (some (adr a (i.toNat*ce P e)))) none)
 |some (.slice e),.slice b len _,.int _ i=>Q2 P e ((0≤i∧i<len)∧∃a,b=some a∧K (.pointer (some (adr a (i.toNat*ce P e)))) none)
 |_,_,_=>False
def L0(P:Program)(t:TypeId)(x i:Value)(K:RK):Prop:=
 match P.underlying t,x,i with
 |some .string,.string s,.int _ i=>∃b:UInt8,0≤i∧s[i.toNat]? =some b∧K (.int .u8 b.toNat) none
 |_,_,_=>False
noncomputable def L1(P:Program)(t:TypeId)(x:Value)(f:Nat)(K:RK):Prop:=
 match wI P t f,x with
 |some (u,off),.agg cs=>bif (P.underlying u).isSome&&(P.info? u).isSome then(bif vE P u then K (.agg ((cs.toList.drop off).take (ce P u)).toArray) none
  else(match cs.toList[off]? with|some v=>K v none|none=>False))else False
 |_,_=>False
def Uk(c a b:Value)(K:RK):Prop:=
 match c with
 | .bool c=>(match a,b with
  | .bool x,.bool y=>K (.bool (bif c then x else y)) none
  |_,_=>(match c with|true=>K a none|false=>K b none))
 |_=>False
def ie:Value→Value→Bool
 | .int _ a,.int _ b=>a==b
 | .string a,.string b=>a==b
 | .bool a,.bool b=>a==b
 |_,_=>false
def Kw(k:Value):List MapEntry→Option Value
 | []=>none
 |e::es=>if ie k e.key then some e.val else Kw k es
def Eo(c:CK)(es:List MapEntry):Prop:=∀e∈es,∃x:c.den,e.key=c.enc x
def M5(c:CK)(z:Value)(h:ae)(m:Option Nat)(k v:Value)(ok:Bool):Prop:=
 match m with
 |none=>v=z∧ok=false
 |some r=>∃es clock,h[r]? =some (.map es clock)∧Eo c es.toList∧
  (match Kw k es.toList with|some u=>v=u∧ok=true|none=>v=z∧ok=false)
def Kh(P:Program)(t:TypeId):Option (CK×TypeId):=
 match P.underlying t with
 |some (.map k e)=>match P.underlying k with
  |some (.int i)=>some (.int i,e)
  |some .string=>some (.str,e)
  |some .bool=>some (.bool,e)
  |_=>none
 |_=>none
def HN(P:Program)(t:TypeId)(x k:Value)(ok:Bool)(K:RK)(h:ae):Prop:=
 match Kh P t,x with
 |some (c,e),.map m=>c.dec k fun _=>
  (match En P e,xQ P e with
   |some ek,some z=>∃(y:ek.den) (b:Bool),M5 c z h m k (ek.enc y) b∧
    K (bif ok then .tuple #[ek.enc y,.bool b]else ek.enc y) (some fun a=>M5 c z a m k (ek.enc y) b)
   |_,_=>False)
 |_,_=>False
def Sv(h:ae)(m:Option Nat)(n:Nat):Prop:=
 match m with
 |none=>n=0
 |some r=>∃es clock,h[r]? =some (.map es clock)∧n=es.size
def UR(P:Program)(t:TypeId)(x:Value)(K:RK)(h:ae):Prop:=
 match P.underlying t,x with
 |some .string,.string s=>K (.int .i64 s.size) none
 |some (.array n _),_=>K (.int .i64 n) none
 |some (.slice _),.slice _ n _=>K (.int .i64 n) none
 |some (.map _ _),.map m=>∃n:Nat,Sv h m n∧K (.int .i64 n) (some fun a=>Sv a m n)
 |_,_=>False
def US(P:Program)(t:TypeId)(x:Value)(K:RK):Prop:=
 match P.underlying t,x with
 |some (.slice _),.slice _ _ n=>K (.int .i64 n) none
 |_,_=>False
def H2(c:Bool)(k:IntKind):Int→List Value→(Value→Prop)→Prop
 |a,[],f=>f (.int k a)
 |a,.int k' b::vs,f=>bif H6 k' k then H2 c k (bif c then(if b>a then b else a)else(if b<a then b else a)) vs f else False
 |_,_,_=>False
def Dg(b:Bool)(vs:List Value)(f:Value→Prop):Prop:=
 match vs with
 | .int k a::vs=>H2 b k a vs f
 |_=>False
def M6(h:ae)(i:Nat)(e:MapEntry):Prop:=
 ∃m since seen last stamp es,h[i]? =some (.mapIter (some m) since seen last)∧seen.back? =some stamp∧h[m]? =some (.map es last)∧es.find? (fun e=>e.born==stamp)=some e
def qk(P:Program)(t:TypeId):Bool:=match P.underlying t with|some (.interface _)=>false|some _=>true|none=>false
def NW(P:Program)(t:TypeId)(x:Value)(K:RK):Prop:=
 bif qk P t then(match En P t with
  |some k=>∃y:k.den,x=.iface t (k.enc y)∧K (k.enc y) none
  |none=>False)else False
def JP(cs:List Value)(off:Nat)(vs:List Value):List Value:=cs.take off++vs++cs.drop (off+vs.length)
def Cw(a:Nat→Option (Nat×Nat)):List Value→List (Nat×Value)→Option (List Value)
 |cs,[]=>some cs
 |cs,(i,v)::rest=>match a i with
  |none=>none
  |some (off,size)=>bif bN v.cells.toList.length size&&xE (off+v.cells.toList.length) cs.length then Cw a (JP cs off v.cells.toList) rest else none
noncomputable def qj(r:cH):List (Nat×Operand)→Option (List (Nat×Value))
 | []=>some []
 |(i,o)::ps=>match dK r o,qj r ps with
  |some v,some vs=>some ((i,v)::vs)
  |_,_=>none
def qz(P:Program)(t:TypeId):Option (List Value):=match xQ P t with|some z=>some z.cells.toList|none=>none
def dH(n:Nat)(z:List Value):List Value:=(dT n z).flatten
def xr(P:Program)(t:TypeId):Bool:=match P.info? t with|some _=>true|none=>false
def Av(P:Program):List Field→Bool
 | []=>true
 |f::fs=>bif xr P f.type then Av P fs else false
def Mb(P:Program)(a:List Field)(i:Nat):Option (Nat×Nat):=match a[i]? with|some f=>some (f.offset,ce P f.type)|none=>none
def Ir(P:Program)(t:TypeId)(a:List (Nat×Value)):Option (List Value):=
 match P.underlying t,qz P t with
 |some (.struct fs),some z=>bif Av P fs.toList then Cw (Mb P fs.toList) z a else none
 |some (.array _ e),some z=>bif xr P e then Cw (fun i=>some (i*ce P e,ce P e)) z a else none
 |_,_=>none
noncomputable def Bc(P:Program)(ek:Option (Kind×Kind))(o:Op)(r:cH)(K:RK)(h:ae):Prop:=
 match o with
 | .entry it=>match dK r it,ek with
  |some (.pointer (some a)),some (kk,vk)=>a.off=0∧∃(e:MapEntry) (x:kk.den) (y:vk.den),M6 h a.block e∧e.key=kk.enc x∧e.val=vk.enc y∧
    K (.tuple #[kk.enc x,vk.enc y]) (some fun g=>M6 g a.block e)
  |_,_=>False
 | .move x| .assign x=>match dK r x with|some v=>K v none|none=>False
 | .load t a=>match dK r a with|some v=>JI P t v K h|none=>False
 | .nilCheck x=>match dK r x with|some (.pointer p)=>∃a,p=some a∧K (.pointer (some a)) none|_=>False
 | .binOp op t x y _=>match dK r x,dK r y with
  |some (.agg v),some (.agg u)=>UV P op t v.toList u.toList K h
  |some v,some u=>(match op,U7 y with
   | .eql,true=>TB P t false v u K
   | .neq,true=>TB P t true v u K
   |op,_=>UT P op t v u K h)
  |_,_=>False
 | .unOp op _ x=>match dK r x with|some v=>WR op v K|none=>False
 | .convert s d x=>match dK r x with|some v=>QS P s d v K h|none=>False
 | .pick c a b=>match dK r c,dK r a,dK r b with|some c,some a,some b=>Uk c a b K|_,_,_=>False
 | .extract x i=>match dK r x with
  |some (.tuple vs)=>(match vs.toList[i]? with|some v=>K v none|none=>False)
  |_=>False
 | .fieldAddr t x f=>match dK r x,wI P t f with
  |some (.pointer (some a)),some (u,off)=>bif bN (ce P u) 0 then False else K (.pointer (some (adr a off))) none
  |_,_=>False
 | .field t x f=>match dK r x with|some v=>L1 P t v f K|none=>False
 | .indexAddr t x i=>match dK r x,dK r i with|some v,some u=>yF P t v u K|_,_=>False
 | .index t x i=>match dK r x,dK r i with|some v,some u=>L0 P t v u K|_,_=>False
 | .slice t x lo hi mx=>match dK r x,GF r lo,GF r hi,GF r mx with
  |some v,some l,some g,some m=>LY P t v l g m K
  |_,_,_,_=>False
 | .lookup t x k ok=>match dK r x,dK r k with|some v,some u=>HN P t v u ok K h|_,_=>False
 | .makeInterface t x=>match dK r x with|some v=>bif qk P t then K (.iface t v) none else False|none=>False
 | .typeAssert x _ t ok=>match dK r x with|some v=>bif ok then False else NW P t v K|none=>False
 | .build t ps=>match qj r ps.toList with
  |some vs=>(match Ir P t vs with|some cs=>K (.agg cs.toArray) none|none=>False)
  |none=>False
 | .makeFunc fn first cap=>match qC r first.toList,qC r cap.toList with
  |some vs,some us=>K (.func fn vs.toArray us.toArray) none
  |_,_=>False
 | .call c=>match c.callee,qC r c.args.toList,c.argTypes.toList with
  | .builtin .len,some [v],[t]=>UR P t v K h
  | .builtin .cap,some [v],[t]=>US P t v K
  | .builtin .min,some vs,_=>Dg false vs fun v=>K v none
  | .builtin .max,some vs,_=>Dg true vs fun v=>K v none
  |_,_,_=>False
 |_=>False
abbrev WK:=Value→ae→Prop
def aC(h:ae):Addr:=⟨h.size,0,none⟩
def hnew(h:ae)(cs:List Value)(t:TypeId):ae:=h.push (.cells cs.toArray t (0,0))
def cl:List Value→Bool
 | []=>true
 |v::vs=>(match v with| .agg _=>false| .tuple _=>false|_=>true)&&cl vs
noncomputable def iC(h:ae)(a:Addr):Nat→List Value→ae
 |_,[]=>h
 |i,v::vs=>iC (hset h (adr a i) v) a (i+1) vs
noncomputable def ga(h:ae)(a:Option Addr)(i:Nat)(vs:List Value):ae:=match a with|some a=>iC h a i vs|none=>h
noncomputable def uD(h:ae)(a:Option Addr)(i:Nat)(vs:List Value):Prop:=vs= []∨∃b,a=some b∧∀j,j<vs.length→Wr h (adr b (i+j))
noncomputable def Lx(P:Program)(t:TypeId)(a v:Value)(K:WK)(h:ae):Prop:=
 match a with
 | .pointer (some a)=>bif bN v.cells.toList.length (ce P t)&&cl v.cells.toList then Q2 P t
   (match v.cells.toList with
    | [v]=>Wr h a∧K undef (hset h a v)
    |vs=>uD h (some a) 0 vs∧K undef (iC h a 0 vs))
  else False
 |_=>False
noncomputable def Sj(P:Program)(e:TypeId)(a:Option Addr)(sl c b:Nat)(xs:List Value)(K:WK)(h:ae):Prop:=
 (sl+b≤c→uD h a (sl*ce P e) xs∧cl xs=true∧K (.slice a (sl+b) c) (ga h a (sl*ce P e) xs))∧
 (c<sl+b→∃old z,SRow h a (sl*ce P e) old∧qz P e=some z∧0<qI P e∧Builtin.nextslicecap (sl+b) c*qI P e≤2^48∧
  ∀nc,sl+b≤nc→K (.slice (some (aC h)) (sl+b) nc) (hnew h (old++xs++dH (nc-(sl+b)) z) e))
noncomputable def C8(P:Program)(t:TypeId)(s x:Value)(K:WK)(h:ae):Prop:=
 match vQ P t,s,x with
 |some e,.slice b sl sc,.slice a xl _=>Q2 P e (∃xs,SRow h a (xl*ce P e) xs∧Sj P e b sl sc xl xs K h)
 |some e,.slice b sl sc,.string x=>bif bN (ce P e) 1 then Sj P e b sl sc x.size (dS x) K h else False
 |_,_,_=>False
noncomputable def DC(P:Program)(t:TypeId)(s x:Value)(K:WK)(h:ae):Prop:=
 match vQ P t,s,x with
 |some e,.slice b sl sc,.int _ l=>(match qz P e with
  |some z=>bif bN z.length (ce P e)then(0≤l∧l*qI P e≤2^48∧l≤9223372036854775807∧((sl+l.toNat:Nat):Int)≤9223372036854775807)∧Sj P e b sl sc l.toNat (dH l.toNat z) K h else False
  |none=>False)
 |_,_,_=>False
noncomputable def Ly(P:Program)(t:TypeId)(x:Value)(K:WK)(h:ae):Prop:=
 match vQ P t,x with
 |some e,.slice a n _=>(match qz P e with
  |some z=>bif cl z then uD h a 0 (dH n z)∧K (.tuple #[]) (ga h a 0 (dH n z))else False
  |none=>False)
 |_,_=>False
noncomputable def Ql(P:Program)(t:TypeId)(d s:Value)(K:WK)(h:ae):Prop:=
 match vQ P t,d,s with
 |some e,.slice b dl _,.slice a sl _=>Q2 P e (∃xs,SRow h a (dZ sl dl*ce P e) xs∧uD h b 0 xs∧cl xs=true∧K (.int .i64 (dZ sl dl)) (ga h b 0 xs))
 |some e,.slice b dl _,.string x=>bif bN (ce P e) 1 then uD h b 0 ((dS x).take dl)∧K (.int .i64 (dZ x.size dl)) (ga h b 0 ((dS x).take dl))else False
 |_,_,_=>False
def L6(k v:Value)(a:Nat):List MapEntry→List MapEntry×Nat
 | []=>([{key:=k,val:=v,born:=a}],a+1)
 |e::es=>if ie k e.key then({e with key:=k,val:=v}::es,a)else let r:=L6 k v a es;(e::r.1,r.2)
def KB(k:Value):List MapEntry→List MapEntry
 | []=> []
 |e::es=>if ie k e.key then es else e::KB k es
def OE(c:CK)(h:ae)(r:Nat):Prop:=∃es clock,h[r]? =some (.map es clock)∧Eo c es.toList
def TE(h:ae)(r:Nat)(k v:Value):ae:=
 match h[r]? with
 |some (.map es clock)=>h.setIfInBounds r (.map (L6 k v clock es.toList).1.toArray (L6 k v clock es.toList).2)
 |_=>h
def N8(h:ae)(r:Nat)(k:Value):ae:=
 match h[r]? with
 |some (.map es clock)=>h.setIfInBounds r (.map (KB k es.toList).toArray clock)
 |_=>h
def C7(P:Program)(t:TypeId)(m k v:Value)(K:WK)(h:ae):Prop:=
 match Kh P t,m with
 |some (c,_),.map m=>c.dec k fun _=>∃r,m=some r∧OE c h r∧K undef (TE h r k v)
 |_,_=>False
def Dz(P:Program)(t:TypeId)(m k:Value)(K:WK)(h:ae):Prop:=
 match Kh P t,m with
 |some (c,_),.map m=>c.dec k fun _=>(m=none∧K (.tuple #[]) h)∨(∃r,m=some r∧OE c h r∧K (.tuple #[]) (N8 h r k))
 |_,_=>False
def QL(P:Program):List TypeId→Option (List Kind)
 | []=>some []
 |t::ts=>match En P t,QL P ts with
  |some k,some ks=>some (k::ks)
  |_,_=>none
def QM(P:Program)(t:TypeId):Option (List Kind):=
 match P.underlying t with
 |some (.tuple ts)=>QL P ts.toList
 |_=>QL P [t]
noncomputable def Ub(P:Program)(f:Operand)(r:cH)(args:List Value)(t:TypeId)(K:WK)(h:ae):Prop:=
 match QM P t with
 |none=>False
 |some ks=>match f with
  | .func f=>HC P f args ks (fun x a=>K (D9 ks (np ks x)) a) h
  |f=>match dK r f with
   |some fv=>HV P fv args ks (fun x a=>K (D9 ks (np ks x)) a) h
   |none=>False
def Qk(it:Value)(K:WK)(h:ae):Prop:=
 match it with
 | .pointer (some a)=>a.off=0∧
  ∃m since seen last,h[a.block]? =some (.mapIter m since seen last)∧
   ((m=none∧K (.tuple #[.bool false]) h)∨
    (∃r es clock,m=some r∧h[r]? =some (.map es clock)∧(seen.isEmpty=true∨es.isEmpty=true∨es.all (fun e=>decide (e.born≥last))=false)∧
     ((∀e∈es.toList,e.born<since→seen.contains e.born=true)→K (.tuple #[.bool false]) h)∧
     (∀e∈es.toList,seen.contains e.born=false→K (.tuple #[.bool true,e.key,e.val]) (h.setIfInBounds a.block (.mapIter (some r) since (seen.push e.born) clock)))))
 |_=>False
noncomputable def Fz(P:Program)(o:Oper)(r:cH)(K:WK)(h:ae):Prop:=
 match o.op with
 | .alloc t=>(match qz P t with|some z=>K (.pointer (some (aC h))) (hnew h z t)|none=>False)
 | .box t x=>(match dK r x with|some v=>K (.pointer (some (aC h))) (hnew h v.cells.toList t)|none=>False)
 | .build t ps=>(match qj r ps.toList with
  |some vs=>(match Ir P t vs with|some cs=>K (.agg cs.toArray) h|none=>False)
  |none=>False)
 | .buildSlice t n ps=>(match vQ P t,qj r ps.toList with
  |some e,some vs=>(match qz P e with
   |some z=>bif xE (n*ce P e) 16777216&&bN z.length (ce P e)then
     (match Cw (fun i=>some (i*ce P e,ce P e)) (dH n z) vs with|some cs=>K (.slice (some (aC h)) n n) (hnew h cs e)|none=>False)
    else False
   |none=>False)
  |_,_=>False)
 | .store t a x=>(match dK r a,dK r x with|some a,some v=>Lx P t a v K h|_,_=>False)
 | .mapUpdate t m k x=>(match dK r m,dK r k,dK r x with|some m,some k,some v=>C7 P t m k v K h|_,_,_=>False)
 | .insert t m k x=>(match dK r m,dK r k,dK r x with|some m,some k,some v=>C7 P t m k v K h|_,_,_=>False)
 | .makeMap t n=>(match n with
  |none=>K (.map (some h.size)) (h.push (.map #[] 0))
  |some n=>(match dK r n,P.underlying t with|some (.int _ _),some (.map _ _)=>K (.map (some h.size)) (h.push (.map #[] 0))|_,_=>False))
 | .makeSlice t l c=>(match vQ P t,dK r l,dK r c with
  |some e,some (.int _ l),some (.int _ c)=>(match qz P e with
   |some z=>bif bN z.length (ce P e)then(0≤l∧l≤c∧c≤9223372036854775807∧qI P e*c≤2^48)∧K (.slice (some (aC h)) l.toNat c.toNat) (hnew h (dH c.toNat z) e)else False
   |none=>False)
  |_,_,_=>False)
 | .convert s d x=>(match P.underlying s,P.underlying d,dK r x with
  |some .string,some (.slice e),some (.string v)=>bif Mv P e then ByP e v h (fun c b=>K (.slice (some (aC h)) v.size c) b)else False
  |_,_,_=>False)
 | .range t x=>(match P.underlying t,dK r x with
  |some (.map _ _),some (.map m)=>∃clock,(m=none∧clock=0∨∃r es,m=some r∧h[r]? =some (.map es clock))∧K (.pointer (some (aC h))) (h.push (.mapIter m clock #[] clock))
  |_,_=>False)
 | .next it false=>(match dK r it with|some it=>Qk it K h|none=>False)
 | .call c=>(match c.callee,qC r c.args.toList with
  | .builtin .append,some [s,x]=>(match c.argTypes.toList with| [t,u]=>(match P.underlying u with|some (.slice _)=>C8 P t s x K h|some .string=>C8 P t s x K h|some (.int _)=>DC P t s x K h|_=>False)|_=>False)
  | .builtin .clear,some [x]=>(match c.argTypes.toList with| [t]=>Ly P t x K h|_=>False)
  | .builtin .copy,some [d,s]=>(match c.argTypes.toList with| [t,_]=>Ql P t d s K h|_=>False)
  | .builtin .delete,some [m,k]=>(match c.argTypes.toList with| [t,_]=>Dz P t m k K h|_=>False)
  | .value f,some args=>Ub P f r args o.type K h
  |_,_=>False)
 |_=>False
def vS(P:Program):Op→Bool
 | .convert s d _=> !U6 P s d
 | .alloc _| .box .. | .buildSlice .. | .store .. | .mapUpdate .. | .insert .. | .makeMap .. | .makeSlice .. | .range .. | .next .. =>false
 | .call c=>match c.callee with
  | .builtin .len| .builtin .cap| .builtin .min| .builtin .max=>true
  |_=>false
 |_=>true
def yW(N:Nat)(o:Oper)(v:Value)(r:cH)(K:cH→Prop):Prop:=
 match o.dst with
 |none=>K r
 |some d=>bif Nat.blt d N then K ((d,v)::r)else False
noncomputable def VG(P:Program)(N:Nat)(ek:Option (Kind×Kind))(o:Oper)(r:cH)(K:cH→ae→Prop)(h:ae):Prop:=
 bif vS P o.op then Bc P ek o.op r (fun v _=>yW N o v r fun a=>K a h) h
 else Fz P o r (fun v b=>yW N o v r fun a=>K a b) h
inductive DV where
 |f|t|u|x
abbrev uT:=List (Nat×DV)
noncomputable def qU(d:uT)(t:Nat):DV:=
 fV (motive:=fun _=>DV) .x (fun a _ b=>bif bN a.1 t then a.2 else b) d
noncomputable def Ao(d:uT):Operand→DV
 | .tmp t=>qU d t
 | .const (.bool true)=>.t
 | .const (.bool false)=>.f
 |_=>.x
noncomputable def Jb(d:uT):Op→DV
 | .move x=>Ao d x
 | .assign x=>Ao d x
 | .pick c a b=>match Ao d c with
  | .t=>Ao d a
  | .f=>Ao d b
  |_=>.x
 | .unOp .not _ x=>match Ao d x with
  | .t=>.f
  | .f=>.t
  |_=>.x
 |_=>.x
def rl(d:uT)(o:Oper)(v:DV):uT:=match o.dst with|some t=>(t,v)::d|none=>d
noncomputable def je(ops:List Oper)(d:uT)(o:Oper):Option Bool:=
 match o.guard with
 |none=>some true
 |some (j,want)=>match ops[j]? with
  |none=>none
  |some oj=>match oj.dst with
   |none=>none
   |some t=>match qU d t with
    | .t=>some want
    | .f=>some (!want)
    | .u=>some false
    | .x=>none
def Ev(ops:List Oper)(o:Oper):Option Nat:=
 match o.guard with
 |none=>none
 |some (j,_)=>match ops[j]? with
  |none=>none
  |some oj=>oj.dst
noncomputable def Gs(P:Program)(N:Nat)(ek:Option (Kind×Kind))(ops:List Oper)(o:Oper)(d:uT)(r:cH)(h:ae)(K:uT→cH→ae→Prop):Prop:=
 match je ops d o with
 |some true=>VG P N ek o r (K (rl d o (Jb d o.op))) h
 |some false=>yW N o undef r fun a=>K (rl d o .u) a h
 |none=>False
noncomputable def DX(P:Program)(N:Nat)(ek:Option (Kind×Kind))(ops:List Oper)(l:List Oper):uT→(cH→ae→Prop)→cH→ae→Prop:=
 fV (motive:=fun _=>uT→(cH→ae→Prop)→cH→ae→Prop) (fun _ K r h=>K r h)
  (fun o _ e d K r h=>
  match je ops d o with
  |some true=>VG P N ek o r (fun a c=>e (rl d o (Jb d o.op)) K a c) h
  |some false=>yW N o undef r fun a=>e (rl d o .u) K a h
  |none=>match Ev ops o with
   |none=>False
   |some t=>match kw r t with
    |some (.bool b)=>CondP b
     (Gs P N ek ops o ((t,.t)::d) ((t,.bool true)::r) h fun f a c=>e f K a c)
     (Gs P N ek ops o ((t,.f)::d) ((t,.bool false)::r) h fun f a c=>e f K a c)
    |_=>False) l
inductive DA where
 |done
 |take (i:Nat) (rest:DA)
 |all (l:DA)
 |pick (i:Nat) (rest more:DA)
 |last (i:Nat) (rest:DA)
 |lastT (i:Nat) (rest:DA)
 |split (t:Nat) (yes no:DA)
abbrev qK:=List (Nat×(ae→Prop))
def tb(m i:Nat):Bool:=bN (jF (Nat.shiftRight m i) 1) 1
def g5(i:Nat):Nat:=Nat.pow 2 i
inductive DM where
 |mk (am fr lk ds:Nat)
def DM.am:DM→Nat| .mk a _ _ _=>a
def DM.fr:DM→Nat| .mk _ f _ _=>f
def DM.lk:DM→Nat| .mk _ _ l _=>l
def DM.ds:DM→Nat| .mk _ _ _ d=>d
def jf(o:Oper)(i:Nat):Bool:=o.after.toList.any fun e=>bN e.on i&&Region.binds .any e
noncomputable def mN(l:List Edge):Nat:=
 fV (motive:=fun _=>Nat) 0 (fun e _ a=>bif Region.binds .any e then cV (g5 e.on) a else a) l
noncomputable def lW(l:List Operand):Nat:=
 fV (motive:=fun _=>Nat) 0 (fun o _ a=>match o with| .tmp t=>cV (g5 t) a|_=>a) l
def nF(o:Oper):Nat:=match o.dst with|some d=>g5 d|none=>0
noncomputable def ou(ops:List Oper)(o:Oper):Nat:=
 cV (lW o.op.operands.toList) (match o.guard with
  |some (g,_)=>(match ops[g]? with|some og=>nF og|none=>0)
  |none=>0)
noncomputable def wy(ops:List Oper)(l:List Oper):List DM→Bool:=
 fV (motive:=fun _=>List DM→Bool) (fun ms=>match ms with| []=>true|_=>false)
  (fun o _ a ms=>match ms with
   |m::ms=>bN (mN o.after.toList) m.am&&bN (ou ops o) m.lk&&bN (nF o) m.ds&&a ms
   | []=>false) l
def BS(x y:DM):Bool:=bN (jF x.ds (cV y.lk y.ds)) 0&&bN (jF y.ds x.lk) 0
noncomputable def GW(i:Nat)(m:DM)(l:List DM):Nat→Bool:=
 fV (motive:=fun _=>Nat→Bool) (fun _=>true)
  (fun n _ a j=>(!(tb m.fr j)||bN j i||tb n.am i||BS m n)&&a (gf j)) l
noncomputable def Ah(a:List DM)(l:List DM):Nat→Bool:=
 fV (motive:=fun _=>Nat→Bool) (fun _=>true) (fun m _ b i=>GW i m a 0&&b (gf i)) l
def Kb:List Oper→Bool
 | []=>true
 |o::os=>(match o.op with| .select .. =>false| .defer _=>false|_=>true)&&Kb os
noncomputable def Dh(ops:List Oper)(ms:List DM):Bool:=wy ops ops ms&&Ah ms ms 0&&Kb ops
def oF(o:Oper):qK→qK
 | []=> []
 |(k,S)::l=>bif jf o k then oF o l else(k,S)::oF o l
def rI:qK→ae→Prop→Prop
 | [],_,R=>R
 |(_,S)::l,h,R=>S h∧rI l h R
def GA(m:DM)(ls:Nat):Bool:=bN (jF m.am ls) m.am
noncomputable def l4(ls:Nat)(l:List DM):Nat→List Nat:=
 fV (motive:=fun _=>Nat→List Nat) (fun _=> []) (fun m _ a j=>bif !(tb ls j)&&GA m ls then j::a (gf j)else a (gf j)) l
def DL(m:DM)(i ls n:Nat):Bool:= !(tb ls i)&&GA m ls&&bN (jF (cV ls m.fr) (xa (g5 n))) (xa (g5 n))
def vi:List Nat→List Nat→Bool
 | [],[]=>true
 |a::as,b::bs=>bN a b&&vi as bs
 |_,_=>false
def BG:DA→List Nat
 | .pick i _ l=>i::BG l
 | .last i _=> [i]
 | .lastT i _=> [i]
 |_=> []
noncomputable def O6(P:Program)(N:Nat)(ops:List Oper)(i:Nat)(L:qK)(d:uT)(r:cH)(h:ae)(K:qK→uT→cH→ae→Prop):Prop:=
 match ops[i]? with
 |none=>False
 |some o=>match je ops d o with
  |some true=>bif vS P o.op then Bc P none o.op r (fun v _=>yW N o v r fun a=>rI (oF o L) h (K (oF o L) (rl d o .x) a h)) h else Fz P o r (fun v b=>yW N o v r fun a=>rI (oF o L) b (K (oF o L) (rl d o .x) a b)) h
  |_=>False
noncomputable def P3(m:Nat)(l:List DM):Nat→Nat:=
 fV (motive:=fun _=>Nat→Nat) (fun _=>m) (fun n _ a j=>bif tb m j then cV n.am (a (gf j))else a (gf j)) l
noncomputable def Aq(ms:List DM)(m:Nat):Nat:=P3 (P3 (P3 (P3 m ms 0) ms 0) ms 0) ms 0
def IA(ms:List DM)(i:Nat):Nat:=match ms[i]? with|some m=>m.am|none=>0
def zR(m:Nat):qK→qK
 | []=> []
 |(k,S)::l=>bif tb m k then zR m l else(k,S)::zR m l
noncomputable def NU(P:Program)(N:Nat)(ops:List Oper)(ms:List DM)(i:Nat)(L:qK)(d:uT)(r:cH)(h:ae)(K:qK→uT→cH→ae→Prop):Prop:=
 match ops[i]? with
 |none=>False
 |some o=>match je ops d o with
  |some true=>bif vS P o.op then False else Fz P o r (fun v a=>yW N o v r fun b=>rI (zR (Aq ms (IA ms i)) L) a (K (zR (Aq ms (IA ms i)) L) (rl d o .x) b a)) h
  |_=>False
noncomputable def ng(P:Program)(N:Nat)(ops:List Oper)(ms:List DM)(k:DA):Bool→Nat→qK→uT→(cH→ae→Prop)→cH→ae→Prop:=
 DA.rec (motive:=fun _=>Bool→Nat→qK→uT→(cH→ae→Prop)→cH→ae→Prop)
  (fun m ls _ _ K r h=>bif !m&&vi (l4 ls ms 0) []then K r h else False)
  (fun i _ c m ls L d K r h=>
   match ops[i]?,ms[i]? with
   |some o,some mi=>bif !m&&DL mi i ls ops.length then
     (match je ops d o with
      |none=>False
      |some false=>yW N o undef r fun a=>c false (cV ls (g5 i)) L (rl d o .u) K a h
      |some true=>bif vS P o.op then
       Bc P none o.op r (fun v S=>yW N o v r fun a=>match S with
        |none=>c false (cV ls (g5 i)) L (rl d o (Jb d o.op)) K a h
        |some S=>c false (cV ls (g5 i)) ((i,S)::L) (rl d o (Jb d o.op)) K a h) h
       else False)
    else False
   |_,_=>False)
  (fun l c m ls L d K r h=>bif !m&&vi (l4 ls ms 0) (BG l)then c true ls L d K r h else False)
  (fun i _ _ f e m ls L d K r h=>bif m then O6 P N ops i L d r h (fun L' g a j=>f false (cV ls (g5 i)) L' g K a j)∧e true ls L d K r h else False)
  (fun i _ c m ls L d K r h=>bif m then O6 P N ops i L d r h (fun L' g a j=>c false (cV ls (g5 i)) L' g K a j)else False)
  (fun i _ c m ls L d K r h=>bif m then NU P N ops ms i L d r h (fun L' g a j=>c false (cV ls (g5 i)) L' g K a j)else False)
  (fun t _ _ f e m ls L d K r h=>
   bif m then False else match kw r t with
   |some (.bool b)=>CondP b (f false ls L ((t,.t)::d) K ((t,.bool true)::r) h) (e false ls L ((t,.f)::d) K ((t,.bool false)::r) h)
   |_=>False)
  k
noncomputable def W6(b:Oper)(i:Nat)(ds lk:Nat)(ops:List Oper)(l:List Oper):Nat→Nat:=
 fV (motive:=fun _=>Nat→Nat) (fun _=>0) (fun p _ a j=>bif (bN j i||jf p i||(bN (jF ds (cV (ou ops p) (nF p))) 0&&bN (jF (nF p) lk) 0))then cV (g5 j) (a (gf j))else a (gf j)) l
noncomputable def WV(ops:List Oper)(l:List Oper):Nat→List DM:=
 fV (motive:=fun _=>Nat→List DM) (fun _=> []) (fun o _ a i=>.mk (mN o.after.toList) (W6 o i (nF o) (ou ops o) ops ops 0) (ou ops o) (nF o)::a (gf i)) l
def VO(P:Program)(w:Option Bool)(o:Oper):Bool:=match w with|some false=>true|some true=>vS P o.op|none=>false
noncomputable def Vd(P:Program)(ops:List Oper)(d:uT)(ls n:Nat)(l:List Oper):List DM→Nat→Option (Nat×Oper):=
 fV (motive:=fun _=>List DM→Nat→Option (Nat×Oper)) (fun _ _=>none)
  (fun o _ a ms j=>match ms with
   | []=>none
   |m::ms=>bif DL m j ls n&&VO P (je ops d o) o then some (j,o)else a ms (gf j)) l
noncomputable def Ve(ops:List Oper)(d:uT)(ls:Nat)(l:List Oper):List DM→Nat→Option Nat:=
 fV (motive:=fun _=>List DM→Nat→Option Nat) (fun _ _=>none)
  (fun o _ a ms j=>match ms with
   | []=>none
   |m::ms=>match bif !(tb ls j)&&GA m ls then(match je ops d o with|none=>Ev ops o|some _=>none)else none with
    |some t=>some t
    |none=>a ms (gf j)) l
noncomputable def V6(ops:List Oper)(k:Nat→uT→DA)(ls:Nat)(d:uT)(l:List Nat):DA:=
 fV (motive:=fun _=>DA) .done (fun i a b=>match ops[i]? with
  |none=>.done
  |some o=>match a with
   | []=>.last i (k (cV ls (g5 i)) (rl d o .x))
   |_=>.pick i (k (cV ls (g5 i)) (rl d o .x)) b) l
noncomputable def Vx(P:Program)(ops:List Oper)(ms:List DM)(fuel:Nat):Nat→uT→DA:=
 Nat.rec (motive:=fun _=>Nat→uT→DA) (fun _ _=>.done) (fun _ a ls d=>
  match Vd P ops d ls ops.length ops ms 0 with
  |some (i,o)=>.take i (a (cV ls (g5 i)) (match je ops d o with|some false=>rl d o .u|_=>rl d o (Jb d o.op)))
  |none=>match Ve ops d ls ops ms 0 with
   |some t=>.split t (a ls ((t,.t)::d)) (a ls ((t,.f)::d))
   |none=>match l4 ls ms 0 with
    | []=>.done
    |l=>.all (V6 ops a ls d l)) fuel
noncomputable def N5(ops:List Oper):List DM:=WV ops ops 0
inductive Ex where
 |exit (id:Nat)
 |ret
abbrev St:=List (Nat×Kind)
def yz:St→List Kind
 | []=> []
 |(_,k)::l=>k::yz l
noncomputable def DR(r:cH):St→Option (List Value)
 | []=>some []
 |(i,_)::l=>match kw r i,DR r l with
  |some v,some vs=>some (v::vs)
  |_,_=>none
noncomputable def Cg(a:St)(r:cH)(f:vR (yz a)→Prop):Prop:=
 match DR r a with
 |some vs=>CV (yz a) vs f
 |none=>False
def nB:St→List Value→cH→cH
 |(i,_)::l,v::vs,r=>(i,v)::nB l vs r
 |_,_,r=>r
noncomputable def Od(r:cH)(l:List Nat):Option cH:=
 fV (motive:=fun _=>Option cH) (some []) (fun t _ a=>match kw r t,a with
  |some v,some l=>some ((t,v)::l)
  |_,_=>none) l
noncomputable def lV(t:Nat)(l:List Oper):Bool:=
 fV (motive:=fun _=>Bool) false (fun o _ a=>match o.dst with|some d=>bif bN d t then true else a|none=>a) l
noncomputable def gH(t:Nat)(c:Code):Bool:=
 Code.rec (motive:=fun _=>Bool) false (fun _ ops _=>lV t ops.toList) (fun _ _ a b=>bif a then true else b) (fun _ _ _ a b=>bif a then true else b)
  (fun _ _ b=>b) (fun _ b=>b) (fun _ _ _ _ _ _=>true) (fun _=>false) (fun _ b=>b) (fun _=>false) (fun _=>false) false (fun _=>false) c
inductive Ann where
 |nil
 |node (a b:Ann)
 |join (st:St) (a b:Ann)
 |loop (st:St) (b:Ann)
 |draw (d:DA)
 |kinds (k v:Kind)
 |reg (keep:List Nat) (inner:Ann)
 |rf (ks:List Kind) (a b:Ann)
def Ann.l:Ann→Ann
 | .node a _=>a
 | .rf _ a _=>a
 |_=>.nil
def Ann.r:Ann→Ann
 | .node _ b=>b
 | .rf _ _ b=>b
 |_=>.nil
noncomputable def Qj(l:List Oper):Nat:=fV (motive:=fun _=>Nat) 0 (fun o _ a=>cV (nF o) a) l
def V7:Option Nat→Option Nat→Option Nat
 |some a,some b=>some (cV a b)
 |_,_=>none
noncomputable def xS(c:Code):Option Nat:=
 Code.rec (motive:=fun _=>Option Nat) (some 0) (fun _ ops _=>some (Qj ops.toList)) (fun _ _ a b=>V7 a b) (fun _ _ _ a b=>V7 a b)
  (fun _ _ b=>b) (fun _ b=>b) (fun _ _ _ _ _ _=>none) (fun _=>some 0) (fun _ b=>b) (fun _=>some 0) (fun _=>some 0) (some 0) (fun _=>some 0) c
noncomputable def wB(m:Nat)(r:cH):cH:=fV (motive:=fun _=>cH) [] (fun b _ a=>bif tb m b.1 then a else b::a) r
noncomputable def Bo(P:Program)(N:Nat)(ops:List Oper)(b:Bool)(a:Ann)(Kn:cH→ae→Prop)(r:cH)(h:ae):Prop:=
 match b with
 |false=>(match a with
  | .kinds kk vk=>DX P N (some (kk,vk)) ops ops [] Kn r h
  |_=>DX P N none ops ops [] Kn r h)
 |true=>bif Dh ops (N5 ops)then ng P N ops (N5 ops) (match a with| .draw da=>da|_=>Vx P ops (N5 ops) (Nat.add (Nat.add ops.length ops.length) 2) 0 []) false 0 [] [] Kn r h else False
noncomputable def lB(P:Program)(N:Nat)(c:Code):Ann→(cH→ae→Prop)→(Ex→cH→ae→Prop)→cH→ae→Prop:=
 Code.rec (motive:=fun _=>Ann→(cH→ae→Prop)→(Ex→cH→ae→Prop)→cH→ae→Prop)
  (fun _ Kn _ r h=>Kn r h)
  (fun _ ops q d Kn _ r h=>match d with
   | .reg keep d=>Bo P N ops.toList q d (fun g f=>match Od g keep with|some r0=>Kn r0 f|none=>False) r h
   |d=>Bo P N ops.toList q d Kn r h)
  (fun a _ k j d Kn Kx r h=>match d with
   | .join st aa ab=>(match xS a with
     |none=>False
     |some m=>Join (T:=vR (yz st)) (fun t f=>j ab Kn Kx (nB st (np (yz st) t) (wB m r)) f)
      fun J=>k aa (fun g f=>Cg st g fun t=>J t f) Kx r h)
   |d=>k d.l (fun g f=>j d.r Kn Kx g f) Kx r h)
  (fun c _ _ k j d Kn Kx r h=>match dK r c with
   |some (.bool t)=>CondP t (k d.l Kn Kx r h) (j d.r Kn Kx r h)
   |_=>False)
  (fun id _ p d Kn Kx r h=>p d Kn (fun e g f=>match e with
    | .exit i=>bif bN i id then Kn g f else Kx (.exit i) g f
    | .ret=>Kx .ret g f) r h)
  (fun b p d _ Kx r h=>match d with
   | .loop st ab=>(match xS b with
     |none=>False
     |some m=>Cg st r fun s=>LoopP (T:=vR (yz st)) (fun n t f=>p ab (fun g o=>Cg st g fun u=>n u o) Kx (nB st (np (yz st) t) (wB m r)) f) s h)
   |_=>False)
  (fun _ _ _ _ _ _ _ _ _ _ _=>False)
  (fun id _ _ Kx r h=>Kx (.exit id) r h)
  (fun _ _ _ _ _ _ _=>False)
  (fun _ _ Kn _ r h=>Kn r h)
  (fun _ _ _ _ _ _=>False)
  (fun _ _ Kx r h=>Kx .ret r h)
  (fun _ _ _ _ _ _=>False)
  c
noncomputable def nC(P:Program)(r:cH)(h:ae):List ResultVar→(List Value→Prop)→Prop
 | [],K=>K []
 | .tmp t::l,K=>(match kw r t with|some v=>nC P r h l fun vs=>K (v::vs)|none=>False)
 | .cell a t::l,K=>(match kw r a with
  |some v=>JI P t v (fun x _=>nC P r h l fun vs=>K (x::vs)) h
  |none=>False)
def qd:Nat→List Value→cH
 |_,[]=> []
 |i,v::vs=>(i,v)::qd (i+1) vs
noncomputable def NV(P:Program)(fn:Func)(c:Code)(b:Ann)(args:List Value)(ks:List Kind)(K:vR ks→ae→Prop)(h:ae):Prop:=
 lB P fn.ntmps c b
  (fun r a=>nC P r a fn.results.toList fun vs=>CV ks vs fun t=>K t a)
  (fun e r a=>match e with
   | .ret=>nC P r a fn.results.toList fun vs=>CV ks vs fun t=>K t a
   | .exit _=>False)
  (qd 0 args) h
noncomputable def rJ(c:Code):Bool:=
 Code.rec (motive:=fun _=>Bool) false (fun _ _ _=>false) (fun _ _ a b=>bif a then true else b) (fun _ _ _ a b=>bif a then true else b)
  (fun _ _ b=>b) (fun _ b=>b) (fun _ _ _ _ _ _=>true) (fun _=>false) (fun _ b=>b) (fun _=>false) (fun _=>false) false (fun _=>false) c
def Ic:Option Ex→Option Code
 |none=>none
 |some (.exit i)=>some (.exit i)
 |some .ret=>some .ret
def W7(N:ae→Prop)(X:Nat→ae→Prop)(R:ae→Prop):Option Ex→ae→Prop
 |none=>N
 |some (.exit i)=>X i
 |some .ret=>R
structure RangeP(P:Program)(fv:Value)(ks:List Kind)(h:ae)(RT:Obj→Obj→vR ks→(Option Ex→ae→Prop)→ae→Prop)(N:ae→Prop)(X:Nat→ae→Prop)(R:ae→Prop):Prop where
 run:∀lo:LoopState→Option Ex→Obj,(∀s j,∃r,lo s j=.loop r)→
  (∀x h' K,h'[h.size+1]? =some (lo .ready none)→
   RT (lo .ready none) (lo .busy none) x (fun j h2=>h2[h.size+1]? =some (lo .busy none)∧K j.isNone (h2.setIfInBounds (h.size+1) (lo (if j.isNone then .ready else .done) j))) h'→
   HV P (.func (.yield (h.size+1)) #[] #[]) (np ks x) [.c .bool] K h')→
  ∃f first cap,fv=.func (.func f) first cap∧HE P f (first.toList++ [.func (.yield (h.size+1)) #[] #[]]++cap.toList) []
   (fun _ h2=>∃s j,s≠ .busy∧h2[h.size+1]? =some (lo s j)∧W7 N X R j (h2.setIfInBounds (h.size+1) (lo .exhausted j))) ((h.push (.deferred (some []))).push (lo .ready none))
def SS:List Nat→List Value→cH→cH
 |i::l,v::vs,r=>SS l vs ((i,v)::r)
 |_,_,r=>r
noncomputable def LL(P:Program)(N:Nat)(ps:List Nat)(ks:List Kind)(assign body:Code)(c:Ann)(r:cH)(l:Nat)(GA d:Obj)(x:vR ks)(k:Option Ex→ae→Prop)(h:ae):Prop:=
 lB P N assign c.l (fun f b=>b[l]? =some GA∧lB P N body c.r (fun _ a=>k none a) (fun e _ a=>k (some e) a) f (b.setIfInBounds l d)) (fun _ _ _=>False) (SS ps (np ks x) r) h
def yI(N:Nat):List Nat→Bool
 | []=>true
 |n::l=>Nat.blt n N&&yI N l
noncomputable def yE(P:Program)(N:Nat)(c:Code):Ann→(List Nat→cH→ae→Prop)→(Ex→List Nat→cH→ae→Prop)→List Nat→cH→ae→Prop:=
 Code.rec (motive:=fun _=>Ann→(List Nat→cH→ae→Prop)→(Ex→List Nat→cH→ae→Prop)→List Nat→cH→ae→Prop)
  (fun d Kn Kx ms r h=>lB P N .skip d (Kn ms) (fun e=>Kx e ms) r h)
  (fun id ops o d Kn Kx ms r h=>lB P N (.region id ops o) d (Kn ms) (fun e=>Kx e ms) r h)
  (fun a b m j d Kn Kx ms r h=>bif (bif rJ a then true else rJ b)then m d.l (fun ms n f=>j d.r Kn Kx ms n f) Kx ms r h
   else lB P N (.seq a b) d (Kn ms) (fun e=>Kx e ms) r h)
  (fun c a b m j d Kn Kx ms r h=>bif (bif rJ a then true else rJ b)then
    (match dK r c with
     |some (.bool t)=>CondP t (m d.l Kn Kx ms r h) (j d.r Kn Kx ms r h)
     |_=>False)
   else lB P N (.cond c a b) d (Kn ms) (fun e=>Kx e ms) r h)
  (fun id b q d Kn Kx ms r h=>bif rJ b then q d Kn (fun e ms n f=>match e with
    | .exit i=>bif bN i id then Kn ms n f else Kx (.exit i) ms n f
    | .ret=>Kx .ret ms n f) ms r h
   else lB P N (.block id b) d (Kn ms) (fun e=>Kx e ms) r h)
  (fun b _ d Kn Kx ms r h=>lB P N (.loop b) d (Kn ms) (fun e=>Kx e ms) r h)
  (fun g ps assign body _ _ d Kn Kx ms r h=>match d with
   | .rf ks aa ab=>bif yI N ps.toList&&bN ps.toList.length ks.length then
    (match dK r g with
     |some fv=>RangeP P fv ks h (fun GA p x k f=>LL P N ps.toList ks assign body (.node aa ab) r (h.size+1) GA p x k f)
      (fun f=>Kn (h.size::ms) r f) (fun i f=>Kx (.exit i) (h.size::ms) r f) (fun f=>Kx .ret (h.size::ms) r f)
     |none=>False)else False
   |_=>False)
  (fun id d Kn Kx ms r h=>lB P N (.exit id) d (Kn ms) (fun e=>Kx e ms) r h)
  (fun _ _ _ _ _ _ _ _=>False)
  (fun l d Kn Kx ms r h=>lB P N (.label l) d (Kn ms) (fun e=>Kx e ms) r h)
  (fun _ _ _ _ _ _ _=>False)
  (fun d Kn Kx ms r h=>lB P N .ret d (Kn ms) (fun e=>Kx e ms) r h)
  (fun _ _ _ _ _ _ _=>False)
  c
def NT:List Nat→(ae→Prop)→ae→Prop
 | [],K,h=>K h
 |D::ms,K,h=>h[D]? =some (.deferred (some []))∧NT ms K (h.setIfInBounds D (.deferred none))
noncomputable def LM(P:Program)(fn:Func)(c:Code)(b:Ann)(args:List Value)(ks:List Kind)(K:vR ks→ae→Prop)(h:ae):Prop:=
 yE P fn.ntmps c b
  (fun ms r a=>NT ms (fun a=>nC P r a fn.results.toList fun vs=>CV ks vs fun t=>K t a) a)
  (fun e ms r a=>match e with
   | .ret=>NT ms (fun a=>nC P r a fn.results.toList fun vs=>CV ks vs fun t=>K t a) a
   | .exit _=>False)
  [] (qd 0 args) h
end Go.Lift
namespace Go.Lift
open Go
theorem ET(a:Addr):adr a 0=a:=rfl
theorem Ax(a:Addr)(n:Nat):adr a (n+1)=⟨a.block,a.off+(n+1),none⟩:=rfl
theorem uh(a:Addr)(n:Nat):adr a n=a.add n:=by
 cases n with
 |zero=>simp[ET,Addr.add]
 |succ n=>simp[Ax,Addr.add]
theorem Ay(a:Addr)(m n:Nat):adr (adr a m) n=adr a (m+n):=by
 cases n with
 |zero=>rfl
 |succ n=>cases m with
  |zero=>simp[ET]
  |succ m=>rw[Ax,Ax,show m+1+(n+1)=(m+1+n)+1 from rfl,Ax];simp;omega
theorem Tame.refl(w:World):Tame w w:=⟨rfl,rfl,rfl⟩
theorem Tame.trans{a b c:World}(h:Tame a b)(k:Tame b c):Tame a c:=⟨k.os.trans h.os,k.tape.trans h.tape,k.output.trans h.output⟩
theorem Ad{a b:IntKind}(h:H6 a b=true):a=b:=by cases a<;>cases b<;>first|rfl|cases h
theorem CK.dec_sound{c:CK}{v:Value}{f:c.den→Prop}(h:c.dec v f):∃x,v=c.enc x∧f x:=by
 cases c<;>cases v<;>try simp only[CK.dec]at h
 case int.int k k' n=>
  cases hk:H6 k' k with
  |false=>rw[hk]at h;exact h.elim
  |true=>rw[hk]at h;have:=Ad hk;subst this;exact⟨n,rfl,h⟩
 case adr.pointer p=>cases p with
  |none=>exact h.elim
  |some a=>exact⟨a,rfl,h⟩
 all_goals first|exact h.elim|exact⟨_,rfl,h⟩
theorem CA:∀{cs:List CK} {vs:List Value} {f:SC cs→Prop},OA cs vs f→∃t,vs=Sb cs t∧f t
 | [],[],f,h=>⟨(),rfl,h⟩
 | [],_::_,f,h=>h.elim
 | [c],[v],f,h=>by obtain⟨x,rfl,g⟩:=CK.dec_sound h;exact⟨x,rfl,g⟩
 | [c],[],f,h=>h.elim
 | [c],_::_::_,f,h=>h.elim
 |c::d::cs,[],f,h=>h.elim
 |c::d::cs,[_],f,h=>h.elim
 |c::d::cs,v::u::vs,f,h=>by
  have e:c.dec v fun x=>OA (d::cs) (u::vs) fun t=>f (x,t):=h
  obtain⟨x,hx,b⟩:=CK.dec_sound e;obtain⟨t,i,a⟩:=CA (cs:=d::cs) (vs:=u::vs) b;exact⟨(x,t),by rw[i,hx];rfl,a⟩
theorem Kind.dec_sound{k:Kind}{v:Value}{f:k.den→Prop}(h:k.dec v f):∃x,v=k.enc x∧f x:=by
 cases k with
 |c k=>exact CK.dec_sound h
 |agg cs=>
  cases v<;>simp only[Kind.dec]at h
  case agg vs=>
   obtain⟨t,b,a⟩:=CA h;exact⟨t,by simp only[Kind.enc,←b],a⟩
theorem rO:∀{ks:List Kind} {vs:List Value} {f:vR ks→Prop},CV ks vs f→∃t,vs=np ks t∧f t
 | [],[],f,h=>⟨(),rfl,h⟩
 | [],_::_,f,h=>h.elim
 | [c],[v],f,h=>by obtain⟨x,rfl,g⟩:=Kind.dec_sound h;exact⟨x,rfl,g⟩
 | [c],[],f,h=>h.elim
 | [c],_::_::_,f,h=>h.elim
 |c::d::cs,[],f,h=>h.elim
 |c::d::cs,[_],f,h=>h.elim
 |c::d::cs,v::u::vs,f,h=>by
  have e:c.dec v fun x=>CV (d::cs) (u::vs) fun t=>f (x,t):=h
  obtain⟨x,hx,b⟩:=Kind.dec_sound e;obtain⟨t,i,a⟩:=rO (ks:=d::cs) (vs:=u::vs) b;exact⟨(x,t),by rw[i,hx];rfl,a⟩
theorem sO:∀(ks:List Kind) (t:vR ks),(np ks t).length=ks.length
 | [],_=>rfl
 | [_],_=>rfl
 |_::l::ks,(_,t)=>by simp only[np,az,sO (l::ks) t]
structure Agree(N:Nat)(r:cH)(a:Act):Prop where
 size:a.tmps.size=N
 look:∀t v,kw r t=some v→a.tmps.getD t undef=v
theorem iK(k:Nat)(v:Value)(r:cH):kw ((k,v)::r) k=some v:=by rw[D6,show bN k k=true from Nat.beq_refl k];rfl
theorem g7{k t:Nat}(v:Value)(r:cH)(h:k≠t):kw ((k,v)::r) t=kw r t:=by
 rw[D6];have:bN k t=false:=Bool.eq_false_iff.2 fun e=>h (aZ e)
 rw[this];rfl
theorem Agree.put{N:Nat}{r:cH}{a:Act}(h:Agree N r a)(d:Nat)(v:Value)(hd:d<N):Agree N ((d,v)::r) (a.put (some d) v):=by
 refine⟨by simp[Act.put,h.size],fun t u b=>?_⟩
 by_cases e:d=t
 ·subst e
  rw[iK]at b;cases b;simp[Act.put,h.size,hd]
 ·rw[g7 v r e]at b
  have:=h.look t u b;simpa[Act.put,Array.getElem?_setIfInBounds_ne e]using this
theorem Agree.known{N:Nat}{r:cH}{a:Act}(h:Agree N r a){t:Nat}{v:Value}(hv:kw r t=some v):Agree N ((t,v)::r) a:=by
 refine⟨h.size,fun s u b=>?_⟩
 by_cases e:t=s
 ·subst e;rw[iK]at b;cases b;exact h.look t v hv
 ·rw[g7 v r e]at b;exact h.look s u b
theorem l3{N:Nat}{r:cH}{a:Act}(h:Agree N r a){o:Operand}{v:Value}(hv:dK r o=some v):a.eval o=v:=by
 cases o with
 |tmp t=>exact h.look t v hv
 |const c=>simp[dK]at hv;subst hv;rfl
 |global g=>simp[dK]at hv;subst hv;rfl
 |func f=>simp[dK]at hv;subst hv;rfl
theorem oE{N:Nat}{r:cH}{a:Act}(h:Agree N r a):∀{os:List Operand} {vs:List Value},qC r os=some vs→os.map a.eval=vs
 | [],vs,hv=>by simp[qC]at hv;subst hv;rfl
 |o::os,vs,hv=>by
  simp only[qC]at hv;cases ho:dK r o with
  |none=>simp[ho]at hv
  |some v=>cases hos:qC r os with
   |none=>simp[ho,hos]at hv
   |some us=>simp[ho,hos]at hv;subst hv;simp[l3 h ho,oE h hos]
theorem aA{P:Program}{t:TypeId}{d:TypeDesc}(h:P.underlying t=some d)(w:World):(underlying t).run P w=.ok d w:=by
 simp only[underlying,program,bind,Sem.bind,Sem.run,h,pure]
theorem cT{P:Program}{t:TypeId}{i:TypeInfo}(h:P.info? t=some i)(w:World):(typeInfo t).run P w=.ok i w:=by
 simp only[typeInfo,program,bind,Sem.bind,Sem.run,h,pure]
theorem jl{P:Program}{s:Sem Value}{v:Value}{w w':World}(h:s.run P w=.ok v w'):(do pure (Next.value (←s)):Sem Next).run P w=.ok (.value v) w':=by
 simp[h]
theorem QJ{P:Program}{s:Sem Unit}{w w':World}(h:s.run P w=.ok () w'):(do s;pure Next.skip:Sem Next).run P w=.ok .skip w':=by
 simp[h]
theorem zQ{P:Program}{w:World}{a:Addr}{v:Value}(h:aJ w.heap a=some v):(load a).run P w=.ok v w:=by
 have b:w.cell? a=some v:=h;simp[b]
theorem As{v:Value}{vs:List Value}{i:Nat}{a:Addr}{h:ae}:sQ (v::vs) i a h↔aJ h (adr a i)=some v∧sQ vs (i+1) a h:=by
 cases vs with
 |nil=>simp[sQ]
 |cons u us=>rfl
theorem sE{P:Program}{w:World}{a:Addr}:∀(vs:List Value) (i:Nat) (acc:Array Value),sQ vs i a w.heap→
  (loadCellsFrom a i vs.length acc).run P w=.ok (acc++vs.toArray) w
 | [],i,acc,_=>by simp[loadCellsFrom]
 |v::vs,i,acc,h=>by
  obtain⟨b,c⟩:=As.1 h;rw[uh]at b;have:=sE (P:=P) (w:=w) (a:=a) vs (i+1) (acc.push v) c;simp only[az,loadCellsFrom,Sem.run_bind,zQ b,Result.andThen_ok,this];simp
theorem FE{P:Program}{w:World}{a:Addr}{vs:List Value}(h:sQ vs 0 a w.heap):(loadCells a vs.length).run P w=.ok vs.toArray w:=by
 have:=sE (P:=P) (w:=w) (a:=a) vs 0 #[] h;simpa[loadCells]using this
theorem x7:∀(cs:List CK) (i:Nat) (a:Addr) (h:ae) (k:List Value→Prop),Ie cs i a h k→∃vs,vs.length=cs.length∧sQ vs i a h∧k vs
 | [],i,a,h,k,b=>⟨[],rfl,trivial,b⟩
 |c::cs,i,a,h,k,b=>by
  obtain⟨x,hx,b⟩:=b;obtain⟨vs,d,hc,b⟩:=x7 cs (i+1) a h _ b;exact⟨c.enc x::vs,by simp[d],As.2 ⟨hx,hc⟩,b⟩
theorem Ar:∀{vs:List Value} {cs:List CK},EH vs=some cs→cs.length=vs.length
 | [],cs,h=>by simp[EH]at h;subst h;rfl
 |v::vs,cs,h=>by
  simp only[EH]at h;cases h1:Vt v with
  |none=>simp[h1]at h
  |some c=>cases h2:EH vs with
   |none=>simp[h1,h2]at h
   |some ds=>simp[h1,h2]at h;subst h;simp[Ar h2]
def Sx(P:Program)(t:TypeId)(i:TypeInfo):Kind→Prop
 | .c _=>vE P t=false
 | .agg cs=>vE P t=true∧i.size=cs.length
theorem Mp{P:Program}{t:TypeId}{k:Kind}(h:Ob P t=some k):∃i,P.info? t=some i∧Sx P t i k:=by
 unfold Ob xQ at h;cases hi:P.info? t with
 |none=>simp[hi]at h
 |some i=>
  refine⟨i,rfl,?_⟩;cases hz:i.zero with
  |none=>simp[hi,hz]at h
  |some z=>
   rw[hi]at h;simp only[hz]at h;cases z;case agg vs=>
    simp only at h;cases hb:(vE P t&&bN vs.toList.length (ce P t))with
    |false=>rw[hb]at h;simp at h
    |true=>
     rw[hb]at h;simp only[cond_true]at h;simp only[Bool.and_eq_true]at hb;have a:=aZ hb.2;cases hd:EH vs.toList with
     |none=>rw[hd]at h;simp at h
     |some ds=>
      rw[hd]at h;simp only[bA.injEq]at h;subst h;exact⟨hb.1,by rw[Ar hd,a];simp[ce,hi]⟩
   all_goals
    simp only at h;cases ha:vE P t
    ·rw[ha]at h
     simp only[cond_false]at h;split at h
     ·simp only[bA.injEq]at h;subst h;exact ha
     ·simp at h
    ·rw[ha]at h;simp at h
theorem Mq{P:Program}{t:TypeId}{k:Kind}(h:En P t=some k):(∀w,(isAgg t).run P w=.ok (vE P t) w)∧Ob P t=some k:=by
 unfold En at h;cases hu:P.underlying t with
 |none=>simp[hu]at h
 |some d=>
  simp only[hu]at h;refine⟨fun w=>?_,h⟩
  simp only[isAgg,Sem.run_bind,aA hu,Result.andThen_ok];unfold vE;rw[hu];cases d<;>rfl
theorem Cl{P:Program}{t:TypeId}{v:Value}{K:RK}{h:ae}(b:JI P t v K h):
  ∃u S,K u (some S)∧S h∧∀w:World,S w.heap→(Instr.loadAt t v).run P w=.ok u w:=by
 unfold JI at b;cases v with
 |pointer p=>
  cases p with
  |none=>exact b.elim
  |some a=>
   simp only at b;cases hk:En P t with
   |none=>simp[hk]at b
   |some k=>
    obtain⟨d,hz⟩:=Mq hk;obtain⟨i,hi,hc⟩:=Mp hz;rw[hk]at b;cases k with
    |c c=>
     obtain⟨x,hx,f⟩:=b;refine⟨_,_,f,hx,fun w j=>?_⟩
     have hc:vE P t=false:=hc;simp only[Instr.loadAt,Instr.sureAddr,loadVar,Sem.run_bind,Sem.run_pure,Result.andThen_ok,d,hc];simp[zQ j]
    |agg cs=>
     obtain⟨vs,e,g,f⟩:=x7 cs 0 a h _ b;obtain⟨n,m⟩:vE P t=true∧i.size=cs.length:=hc;refine⟨_,_,f,g,fun w j=>?_⟩
     have hz:(sizeOf t).run P w=.ok vs.length w:=by simp[sizeOf,cT hi,m,e]
     simp only[Instr.loadAt,Instr.sureAddr,loadVar,Sem.run_bind,Sem.run_pure,Result.andThen_ok,d,n];simp[hz,FE j]
 |_=>exact b.elim
end Go.Lift
