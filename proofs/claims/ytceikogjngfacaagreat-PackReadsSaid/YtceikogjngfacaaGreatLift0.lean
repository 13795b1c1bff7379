/- A part of the proof that the named laws of this program answer true, whatever the input. -/
import Derived.OrdersIn
import Derived.Below
import Derived.WalkKit
import Derived.RangeFuncRecord
import Derived.DefersIn
open BitVec renaming ofInt→az
open Go.Instr renaming sureAddr→mU
open Go.Op renaming bytesLess→bH
open Go.Result renaming andThen_ok→aF
open Go.Sem renaming run→ml,run_bind→bf,run_pure→cd
open Iff renaming rfl→xH
open List renaming rec→fP,replicate→gg,length_cons→av
open Nat renaming succ→fW,beq→aM,ble→xE,min→fX,blt→Ae,land→ki,lor→dC,pred→zG,eq_of_beq_eq_true→bG
open Option renaming some→bX
namespace Go.Lift
abbrev ae:=Array Obj
def bh(h:ae)(a:Addr):Option Value:=
 match h[a.block]? with
 |some (.cells c _ _)=>if a.spot.isSome then none else c[a.off]?
 |_=>none
def F1(h:ae)(a:Addr):Bool:=
 match h[a.block]? with
 |some (.cells _ _ (lo,hi))=>lo≤a.off&&a.off<hi
 |_=>false
def hset(h:ae)(a:Addr)(v:Value):ae:=
 h.modify a.block fun
  | .cells c elem frozen=>.cells (if a.spot.isSome then c else c.setIfInBounds a.off v) elem frozen
  |o=>o
noncomputable def adr(a:Addr)(n:Nat):Addr:=Nat.rec (motive:=fun _=>Addr) a (fun n _=>⟨a.block,a.off+fW n,none⟩) n
def Wr(h:ae)(a:Addr):Prop:=(∃v,bh h a=some v)∧F1 h a=false
structure Tame(w w':World):Prop where
 os:w'.os=w.os
 tape:w'.tape=w.tape
 output:w'.output=w.output
structure SliceV where
 a:Option Addr
 len:Nat
 cap:Nat
def LF:IntKind→IntKind→Bool
 | .i8,.i8=>true| .i16,.i16=>true| .i32,.i32=>true| .i64,.i64=>true
 | .u8,.u8=>true| .u16,.u16=>true| .u32,.u32=>true| .u64,.u64=>true
 |_,_=>false
inductive CK where
 |int (k:IntKind)|bool|str|ptr|slice|map|chan|raw|adr
def CK.den:CK→Type
 | .int _=>Int| .bool=>Bool| .str=>ByteArray| .ptr=>Option Addr| .slice=>SliceV| .map=>Option Nat| .chan=>Option Nat| .raw=>Value| .adr=>Addr
def CK.enc:(c:CK)→c.den→Value
 | .int k,n=>.int k n
 | .bool,b=>.bool b
 | .str,s=>.string s
 | .ptr,p=>.pointer p
 | .slice,s=>.slice s.a s.len s.cap
 | .map,r=>.map r
 | .chan,r=>.chan r
 | .raw,v=>v
 | .adr,a=>.pointer (some a)
def CK.dec:(c:CK)→Value→(c.den→Prop)→Prop
 | .int k,.int k' n,f=>bif LF k' k then f n else False
 | .bool,.bool b,f=>f b
 | .str,.string s,f=>f s
 | .ptr,.pointer p,f=>f p
 | .slice,.slice a l c,f=>f ⟨a,l,c⟩
 | .map,.map r,f=>f r
 | .chan,.chan r,f=>f r
 | .raw,v,f=>f v
 | .adr,.pointer (some a),f=>f a
 |_,_,_=>False
def V0:List CK→Type
 | []=>Unit
 | [c]=>c.den
 |c::d::cs=>c.den×V0 (d::cs)
def Vx:(cs:List CK)→V0 cs→List Value
 | [],_=> []
 | [c],x=> [c.enc x]
 |c::d::cs,(x,t)=>c.enc x::Vx (d::cs) t
def Ra:(cs:List CK)→List Value→(V0 cs→Prop)→Prop
 | [],[],f=>f ()
 | [c],[v],f=>c.dec v f
 |c::d::cs,v::u::vs,f=>c.dec v fun x=>Ra (d::cs) (u::vs) fun t=>f (x,t)
 |_,_,_=>False
inductive Kind where
 |c (k:CK)
 |agg (cs:List CK)
def Kind.den:Kind→Type
 | .c k=>k.den
 | .agg cs=>V0 cs
def Kind.enc:(k:Kind)→k.den→Value
 | .c k,x=>k.enc x
 | .agg cs,t=>.agg (Vx cs t).toArray
def Kind.dec:(k:Kind)→Value→(k.den→Prop)→Prop
 | .c k,v,f=>k.dec v f
 | .agg cs,.agg vs,f=>Ra cs vs.toList f
 |_,_,_=>False
def uO:List Kind→Type
 | []=>Unit
 | [k]=>k.den
 |k::l::ks=>k.den×uO (l::ks)
def na:(ks:List Kind)→uO ks→List Value
 | [],_=> []
 | [k],x=> [k.enc x]
 |k::l::ks,(x,t)=>k.enc x::na (l::ks) t
def Fy:(ks:List Kind)→List Value→(uO ks→Prop)→Prop
 | [],[],f=>f ()
 | [k],[v],f=>k.dec v f
 |k::l::ks,v::u::vs,f=>k.dec v fun x=>Fy (l::ks) (u::vs) fun t=>f (x,t)
 |_,_,_=>False
def DG(ks:List Kind)(vs:List Value):Value:=
 match ks,vs with
 | [_],[v]=>v
 |_,vs=>.tuple vs.toArray
def Y0:Value→Option CK
 | .int k _=>some (.int k)
 | .bool _=>some .bool
 | .string _=>some .str
 | .pointer _=>some .ptr
 | .slice .. =>some .slice
 | .map _=>some .map
 | .chan _=>some .chan
 | .nilFunc=>some .raw
 | .nilIface=>some .raw
 |_=>none
def Hw:List Value→Option (List CK)
 | []=>some []
 |v::vs=>match Y0 v,Hw vs with
  |some c,some cs=>some (c::cs)
  |_,_=>none
def xt(P:Program)(t:TypeId):Bool:=
 match P.underlying t with
 |some (.struct _)|some (.array _ _)=>true
 |_=>false
def cx(P:Program)(t:TypeId):Nat:=match P.info? t with|some i=>i.size|none=>0
def ru(P:Program)(t:TypeId):Nat:=match P.info? t with|some i=>i.bytes|none=>0
def An(P:Program)(t:TypeId):Option Value:=match P.info? t with|some i=>i.zero|none=>none
def QW(P:Program)(t:TypeId):Option Kind:=
 match An P t with
 |some (.agg vs)=>bif xt P t&&aM vs.toList.length (cx P t)then(match Hw vs.toList with|some cs=>some (.agg cs)|none=>none)else none
 |some v=>bif xt P t then none else(match Y0 v with|some c=>some (.c c)|none=>none)
 |none=>none
def G6(P:Program)(t:TypeId):Option Kind:=
 match P.underlying t with
 |none=>none
 |some _=>QW P t
structure HC(P:Program)(f:FuncId)(args:List Value)(ks:List Kind)(K:uO ks→ae→Prop)(h:ae):Prop where
 run:∀w:World,w.heap=h→
  ((callFunc f args.toArray).run P w=.ok (.enter f args.toArray) w∧
   Calls P f args.toArray w fun e w'=>Tame w w'∧∃t:uO ks,e=.returned (DG ks (na ks t))∧K t w'.heap)∨
  (∃v w',(callFunc f args.toArray).run P w=.ok (.value v) w'∧Tame w w'∧∃t:uO ks,v=DG ks (na ks t)∧K t w'.heap)
structure HE(P:Program)(f:FuncId)(args:List Value)(ks:List Kind)(K:uO ks→ae→Prop)(h:ae):Prop where
 run:∀w:World,w.heap=h→(∀(args:Array Value) (w:World),(callFunc f args).run P w=.ok (.enter f args) w)∧
  Calls P f args.toArray w fun e w'=>Tame w w'∧∃t:uO ks,e=.returned (DG ks (na ks t))∧K t w'.heap
theorem HE.hc{P:Program}{f:FuncId}{args:List Value}{ks:List Kind}{K:uO ks→ae→Prop}{h:ae}(e:HE P f args ks K h):HC P f args ks K h:=
 ⟨fun w b=>.inl ⟨(e.run w b).1 _ w,(e.run w b).2⟩⟩
structure HY(P:Program)(l:Nat)(args:List Value)(K:Bool→ae→Prop)(h:ae):Prop where
 run:∀w:World,w.heap=h→∃fn tmps assign body,(Instr.yield l args.toArray).run P w=.ok (.round l fn tmps assign body) w∧
  ∀(c:Frame) (cs:List Frame),∃b w',Tame w w'∧K b w'.heap∧Steps P (lone (Frame.round l fn tmps assign body .normal) (c::cs) w) (lone (c.finish (.bool b)) cs w')
structure HV(P:Program)(fv:Value)(args:List Value)(ks:List Kind)(K:uO ks→ae→Prop)(h:ae):Prop where
 run:(∃f first cap,fv=.func (.func f) first cap∧HC P f (first.toList++args++cap.toList) ks K h)∨
  (∃l,fv=.func (.yield l) #[] #[]∧HY P l args (fun b h'=>Fy ks [.bool b] fun t=>K t h') h)
noncomputable def CondP(b:Bool)(t e:Prop):Prop:=Bool.rec (motive:=fun _=>Prop) e t b
theorem CondP.yes{b:Bool}{t e:Prop}(h:CondP b t e)(c:b=true):t:=by subst c;exact h
theorem CondP.no{b:Bool}{t e:Prop}(h:CondP b t e)(c:b=false):e:=by subst c;exact h
theorem CondP.intro{b:Bool}{t e:Prop}(c:b=true→t)(h2:b=false→e):CondP b t e:=by cases b;exact h2 rfl;exact c rfl
theorem aV{t e:Prop}:CondP true t e↔t:=xH
theorem ay{t e:Prop}:CondP false t e↔e:=xH
attribute [irreducible] CondP
def At(h:ae)(k:ae→Prop):Prop:=k h
def Bd{T:Type}(x:T)(k:T→Prop):Prop:=k x
structure Join{T:Type}(rest:T→ae→Prop)(k:(T→ae→Prop)→Prop):Prop where
 run:k rest
structure LoopP{T:Type}(F:(T→ae→Prop)→T→ae→Prop)(t:T)(h:ae):Prop where
 run:∀I:T→ae→Prop,(∀t h,F I t h→I t h)→I t h
abbrev cY:=List (Nat×Value)
noncomputable def kU(r:cY)(t:Nat):Option Value:=
 fP (motive:=fun _=>Option Value) none (fun b _ c=>bif aM b.1 t then some b.2 else c) r
theorem Gx(k:Nat)(v:Value)(r:cY)(t:Nat):kU ((k,v)::r) t=bif aM k t then some v else kU r t:=rfl
noncomputable def dQ(r:cY):Operand→Option Value
 | .tmp t=>kU r t
 | .const v=>some v
 | .global g=>some (.pointer (some ⟨g,0,none⟩))
 | .func f=>some (.func (.func f) #[] #[])
noncomputable def oz(r:cY):List Operand→Option (List Value)
 | []=>some []
 |o::os=>match dQ r o,oz r os with
  |some v,some vs=>some (v::vs)
  |_,_=>none
noncomputable def LO:List CK→Nat→Addr→ae→(List Value→Prop)→Prop
 | [],_,_,_,k=>k []
 |c::cs,i,a,h,k=>∃x:c.den,bh h (adr a i)=some (c.enc x)∧LO cs (i+1) a h fun vs=>k (c.enc x::vs)
noncomputable def uL:List Value→Nat→Addr→ae→Prop
 | [],_,_,_=>True
 | [v],i,a,h=>bh h (adr a i)=some v
 |v::u::vs,i,a,h=>bh h (adr a i)=some v∧uL (u::vs) (i+1) a h
abbrev RK:=Value→Option (ae→Prop)→Prop
noncomputable def M5(P:Program)(t:TypeId)(v:Value)(K:RK)(h:ae):Prop:=
 match v with
 | .pointer (some a)=>
  match G6 P t with
  |some (.c c)=>∃x:c.den,bh h a=some (c.enc x)∧K (c.enc x) (some fun b=>bh b a=some (c.enc x))
  |some (.agg cs)=>LO cs 0 a h fun vs=>K (.agg vs.toArray) (some fun b=>uL vs 0 a b)
  |none=>False
 |_=>False
def yO(P:Program)(t:TypeId)(f:Nat):Option (TypeId×Nat):=
 match P.underlying t with
 |some (.struct fs)=>match fs.toList[f]? with
  |some g=>some (g.type,g.offset)
  |none=>none
 |_=>none
def xL(P:Program)(t:TypeId):Option TypeId:=
 match P.underlying t with
 |some (.slice e)=>some e
 |_=>none
def OZ(c:BinOp)(k:IntKind)(a b:Int)(K:RK):Prop:=
 match c with
 | .shl=>0≤b∧K (.int k (k.wrap (a*2^(min b.toNat k.bits)))) none
 | .shr=>0≤b∧K (.int k (a.fdiv (2^(min b.toNat k.bits)))) none
 |_=>False
def YF(c:BinOp)(k:IntKind)(a b:Int)(K:RK):Prop:=
 match c with
 | .add=>K (.int k (k.wrap (a+b))) none
 | .sub=>K (.int k (k.wrap (a-b))) none
 | .mul=>K (.int k (k.wrap (a*b))) none
 | .quo=>b≠0∧K (.int k (k.wrap (a.tdiv b))) none
 | .rem=>b≠0∧K (.int k (a.tmod b)) none
 | .and=>K (.int k (k.wrap (az k.bits a&&&az k.bits b).toNat)) none
 | .or=>K (.int k (k.wrap (az k.bits a|||az k.bits b).toNat)) none
 | .xor=>K (.int k (k.wrap (az k.bits a^^^az k.bits b).toNat)) none
 | .andNot=>K (.int k (k.wrap (az k.bits a&&& ~~~az k.bits b).toNat)) none
 | .eql=>K (.bool (a==b)) none
 | .neq=>K (.bool (a !=b)) none
 | .lss=>K (.bool (decide (a<b))) none
 | .leq=>K (.bool (decide (a≤b))) none
 | .gtr=>K (.bool (decide (a>b))) none
 | .geq=>K (.bool (decide (a≥b))) none
 |_=>False
def Ym(c:BinOp)(a b:ByteArray)(K:RK):Prop:=
 match c with
 | .add=>((a.size+b.size:Nat):Int)≤9223372036854775807∧K (.string (a++b)) none
 | .eql=>K (.bool (a.toList==b.toList)) none
 | .neq=>K (.bool (!(a.toList==b.toList))) none
 | .lss=>K (.bool (bH a.toList b.toList)) none
 | .leq=>K (.bool (bH a.toList b.toList||a.toList==b.toList)) none
 | .gtr=>K (.bool (!(bH a.toList b.toList||a.toList==b.toList))) none
 | .geq=>K (.bool (!(bH a.toList b.toList))) none
 |_=>False
def iS(h:ae)(a:Addr):Prop:=(∃c e,h[a.block]? =some (.cells c e (0,0))∧0<c.size)
def Z4:Value→Bool
 | .func _ _ _=>true
 | .nilFunc=>true
 |_=>false
def ZL:Value→Bool
 | .nilFunc=>true
 |_=>false
def Z3:Value→Bool
 | .iface _ _=>true
 | .nilIface=>true
 |_=>false
def ZK:Value→Bool
 | .nilIface=>true
 |_=>false
def W4(P:Program)(t:TypeId)(neg:Bool)(x y:Value)(K:RK):Prop:=
 match P.underlying t,x,y with
 |some (.pointer _),.pointer a,.pointer none=>K (.bool (bif neg then !a.isNone else a.isNone)) none
 |some (.map _ _),.map a,.map none=>K (.bool (bif neg then !a.isNone else a.isNone)) none
 |some (.slice _),.slice a _ _,.slice none _ _=>K (.bool (bif neg then !a.isNone else a.isNone)) none
 |some (.func _ _ _),x,.nilFunc=>Z4 x=true∧K (.bool (bif neg then !(ZL x)else ZL x)) none
 |some (.interface _),x,.nilIface=>Z3 x=true∧K (.bool (bif neg then !(ZK x)else ZK x)) none
 |_,_,_=>False
def UN:Operand→Bool
 | .const (.pointer none)=>true
 | .const (.map none)=>true
 | .const (.slice none 0 0)=>true
 | .const .nilFunc=>true
 | .const .nilIface=>true
 |_=>false
def X1(P:Program)(t:TypeId)(neg:Bool)(x y:Value)(K:RK)(h:ae):Prop:=
 match P.underlying t,x,y with
 |some .bool,.bool a,.bool b=>K (.bool (bif neg then !(a==b)else a==b)) none
 |some (.pointer e),.pointer a,.pointer b=>
  (bif aM (cx P e) 0 then False else True)∧
  (∀x y,a=some x→b=some y→iS h x∧iS h y)∧
  K (.bool (bif neg then !(a==b)else a==b)) (some fun c=>∀x y,a=some x→b=some y→iS c x∧iS c y)
 |_,_,_=>False
def WM(P:Program)(c:BinOp)(t:TypeId)(x y:Value)(K:RK)(h:ae):Prop:=
 match x,y with
 | .int k a,.int k' b=>
  match c with
  | .shl=>OZ .shl k a b K
  | .shr=>OZ .shr k a b K
  |c=>bif LF k' k then YF c k a b K else False
 | .string a,.string b=>Ym c a b K
 |x,y=>match c with
  | .eql=>X1 P t false x y K h
  | .neq=>X1 P t true x y K h
  |_=>False
def tC(h:ae):List (Option Addr×Option Addr)→Prop
 | []=>True
 |(a,b)::l=>(∀x y,a=some x→b=some y→iS h x∧iS h y)∧tC h l
def Vb(P:Program)(t:TypeId)(x y:Value):Option (Bool×List (Option Addr×Option Addr)):=
 match P.underlying t,x,y with
 |some (.int _),.int k a,.int k' b=>bif LF k' k then some (a==b,[])else none
 |some .bool,.bool a,.bool b=>some (a==b,[])
 |some .string,.string a,.string b=>some (a.toList==b.toList,[])
 |some (.pointer e),.pointer a,.pointer b=>bif aM (cx P e) 0 then none else some (a==b,[(a,b)])
 |_,_,_=>none
def Xn(P:Program)(rec:TypeId→List Value→List Value→Option (Bool×List (Option Addr×Option Addr)))(xs ys:List Value):List Field→Option (Bool×List (Option Addr×Option Addr))
 | []=>some (true,[])
 |f::fs=>
  if f.name= "_" then none else
  bif (P.underlying f.type).isSome&&(P.info? f.type).isSome then
   match(bif xt P f.type then rec f.type ((xs.drop f.offset).take (cx P f.type)) ((ys.drop f.offset).take (cx P f.type))
    else match xs[f.offset]?,ys[f.offset]? with|some x,some y=>Vb P f.type x y|_,_=>none),Xn P rec xs ys fs with
   |some (b,l),some (c,m)=>some (b&&c,l++m)
   |_,_=>none
  else none
def Vc(P:Program):Nat→TypeId→List Value→List Value→Option (Bool×List (Option Addr×Option Addr))
 |0,_,_,_=>none
 |d+1,t,xs,ys=>match P.underlying t with
  |some (.struct fs)=>bif P.stoodInHeld t then none else Xn P (Vc P d) xs ys fs.toList
  |_=>none
def aa3(neg b:Bool)(K:RK)(h:ae):List (Option Addr×Option Addr)→Prop
 | []=>K (.bool (bif neg then !b else b)) none
 |p::l=>tC h (p::l)∧K (.bool (bif neg then !b else b)) (some fun c=>tC c (p::l))
def Yu(P:Program)(c:BinOp)(t:TypeId)(xs ys:List Value)(K:RK)(h:ae):Prop:=
 bif P.eqGuardType P.depth t then False else
 match c with
 | .eql=>(match Vc P 10 t xs ys with|some (b,l)=>aa3 false b K h l|none=>False)
 | .neq=>(match Vc P 10 t xs ys with|some (b,l)=>aa3 true b K h l|none=>False)
 |_=>False
def aaH(c:UnOp)(x:Value)(K:RK):Prop:=
 match c,x with
 | .neg,.int k n=>K (.int k (k.wrap (0-n))) none
 | .xor,.int k n=>K (.int k (k.wrap (az k.bits (if k.signed then-1 else k.max)^^^az k.bits n).toNat)) none
 | .not,.bool b=>K (.bool (!b)) none
 |_,_=>False
def dN(s:ByteArray):List Value:=s.data.toList.map fun b=>.int .u8 b.toNat
noncomputable def Row(h:ae)(a:Addr)(vs:List Value):Prop:=∀i v,vs[i]? =some v→bh h (adr a i)=some v
noncomputable def SRow(h:ae)(a:Option Addr)(n:Nat)(vs:List Value):Prop:=vs.length=n∧(vs= []∨∃b,a=some b∧Row h b vs)
def PP(P:Program)(e:TypeId):Bool:=match P.underlying e with|some (.int .u8)=>true|_=>false
def YE(P:Program)(s d:TypeId):Bool:=
 match P.underlying s,P.underlying d with
 |some .string,some (.slice e)=>PP P e
 |_,_=>false
def ByP(e:TypeId)(s:ByteArray)(h:ae)(K:Nat→ae→Prop):Prop:=
 ∀c,s.size≤c→K c (h.push (.cells (dN s++gg (c-s.size) (Value.int .u8 0)).toArray e (c,c+1)))
noncomputable def Ui(P:Program)(c b:TypeId)(x:Value)(K:RK)(h:ae):Prop:=
 match P.underlying c,P.underlying b,x with
 |some (.int _),some (.int k),.int _ n=>K (.int k (k.wrap n)) none
 |some .string,some .string,.string s=>K (.string s) none
 |some (.slice e),some .string,.slice a n _=>bif PP P e then∃s:ByteArray,SRow h a n (dN s)∧K (.string s) (some fun d=>SRow d a n (dN s))else False
 |_,_,_=>False
def VA(v:Option Value)(d y:Nat)(K:Nat→Prop):Prop:=
 match v with
 |none=>K d
 |some (.int _ i)=>(0≤i∧i≤y)∧K i.toNat
 |_=>False
noncomputable def bN(a:Option Addr)(l m size:Nat):Option Addr:=if m=l then a else a.map (adr · (l*size))
def Uz(P:Program)(t:TypeId)(K:Prop):Prop:=match P.info? t with|some _=>K|none=>False
noncomputable def Ph(P:Program)(t:TypeId)(x:Value)(lo hi b:Option Value)(K:RK):Prop:=
 match P.underlying t,x with
 |some .string,.string s=>match b with
  |some _=>False
  |none=>VA hi s.size s.size fun h=>VA lo 0 h fun l=>K (.string (s.extract l h)) none
 |some (.slice e),.slice a len cap=>Uz P e (
  match b with
  |none=>VA hi len cap fun h=>VA lo 0 h fun l=>K (.slice (bN a l cap (cx P e)) (h-l) (cap-l)) none
  |some m=>match hi with
   |none=>False
   |some hi=>VA (some m) 0 cap fun m=>VA (some hi) 0 m fun h=>VA lo 0 h fun l=>K (.slice (bN a l m (cx P e)) (h-l) (m-l)) none)
 |some (.array n e),.pointer (some a)=>Uz P e (
  match b with
  |none=>VA hi n n fun h=>VA lo 0 h fun l=>K (.slice (bN (some a) l n (cx P e)) (h-l) (n-l)) none
  |some _=>False)
 |_,_=>False
noncomputable def JX(r:cY):Option Operand→Option (Option Value)
 |none=>some none
 |some o=>match dQ r o with
  |some v=>some (some v)
  |none=>none
noncomputable def A8(P:Program)(t:TypeId)(x i:Value)(K:RK):Prop:=
 match P.underlying t,x,i with
 |some (.array n e),.pointer (some a),.int _ i=>Uz P e ((0≤i∧i<n)∧K (.pointer (some (adr a (i.toNat*cx P e)))) none)
 |some (.slice e),.slice b len _,.int _ i=>Uz P e ((0≤i∧i<len)∧∃a,b=some a∧K (.pointer (some (adr a (i.toNat*cx P e)))) none)
 |_,_,_=>False
def Pm(P:Program)(t:TypeId)(x i:Value)(K:RK):Prop:=
 match P.underlying t,x,i with
 |some .string,.string s,.int _ i=>∃b:UInt8,0≤i∧s[i.toNat]? =some b∧K (.int .u8 b.toNat) none
 |_,_,_=>False
noncomputable def Pn(P:Program)(t:TypeId)(x:Value)(f:Nat)(K:RK):Prop:=
 match yO P t f,x with
 |some (u,off),.agg cs=>bif (P.underlying u).isSome&&(P.info? u).isSome then(bif xt P u then K (.agg ((cs.toList.drop off).take (cx P u)).toArray) none
  else(match cs.toList[off]? with|some v=>K v none|none=>False))else False
 |_,_=>False
def XX(c a b:Value)(K:RK):Prop:=
 match c with
 | .bool c=>(match a,b with
  | .bool x,.bool y=>K (.bool (bif c then x else y)) none
  |_,_=>(match c with|true=>K a none|false=>K b none))
 |_=>False
def f6:Value→Value→Bool
 | .int _ a,.int _ b=>a==b
 | .string a,.string b=>a==b
 | .bool a,.bool b=>a==b
 |_,_=>false
def Hi(k:Value):List MapEntry→Option Value
 | []=>none
 |e::es=>if f6 k e.key then some e.val else Hi k es
def keysOf(c:CK)(es:List MapEntry):Prop:=∀e∈es,∃x:c.den,e.key=c.enc x
def xy(c:CK)(z:Value)(h:ae)(m:Option Nat)(k v:Value)(ok:Bool):Prop:=
 match m with
 |none=>v=z∧ok=false
 |some r=>∃es clock,h[r]? =some (.map es clock)∧keysOf c es.toList∧
  (match Hi k es.toList with|some u=>v=u∧ok=true|none=>v=z∧ok=false)
def NG(P:Program)(t:TypeId):Option (CK×TypeId):=
 match P.underlying t with
 |some (.map k e)=>match P.underlying k with
  |some (.int i)=>some (.int i,e)
  |some .string=>some (.str,e)
  |some .bool=>some (.bool,e)
  |_=>none
 |_=>none
def Lk(P:Program)(t:TypeId)(x k:Value)(ok:Bool)(K:RK)(h:ae):Prop:=
 match NG P t,x with
 |some (c,e),.map m=>c.dec k fun _=>
  (match G6 P e,An P e with
   |some ek,some z=>∃(y:ek.den) (b:Bool),xy c z h m k (ek.enc y) b∧
    K (bif ok then .tuple #[ek.enc y,.bool b]else ek.enc y) (some fun d=>xy c z d m k (ek.enc y) b)
   |_,_=>False)
 |_,_=>False
def HM(h:ae)(m:Option Nat)(n:Nat):Prop:=
 match m with
 |none=>n=0
 |some r=>∃es clock,h[r]? =some (.map es clock)∧n=es.size
def Rl(c:Bool)(h:ae)(m:Option Nat)(n:Nat):Prop:=
 match m with
 |none=>n=0
 |some r=>∃cap buf cl s q,h[r]? =some (.chan cap buf cl s q false)∧n=bif c then cap else buf.size
def Ys(P:Program)(t:TypeId)(x:Value)(K:RK)(h:ae):Prop:=
 match P.underlying t,x with
 |some .string,.string s=>K (.int .i64 s.size) none
 |some (.array n _),_=>K (.int .i64 n) none
 |some (.slice _),.slice _ n _=>K (.int .i64 n) none
 |some (.map _ _),.map m=>∃n:Nat,HM h m n∧K (.int .i64 n) (some fun b=>HM b m n)
 |some (.chan _ _),.chan m=>∃n:Nat,Rl false h m n∧K (.int .i64 n) (some fun b=>Rl false b m n)
 |_,_=>False
def Yt(P:Program)(t:TypeId)(x:Value)(K:RK)(h:ae):Prop:=
 match P.underlying t,x with
 |some (.slice _),.slice _ _ n=>K (.int .i64 n) none
 |some (.chan _ _),.chan m=>∃n:Nat,Rl true h m n∧K (.int .i64 n) (some fun b=>Rl true b m n)
 |_,_=>False
def Ly(c:Bool)(k:IntKind):Int→List Value→(Value→Prop)→Prop
 |a,[],f=>f (.int k a)
 |a,.int k' b::vs,f=>bif LF k' k then Ly c k (bif c then(if b>a then b else a)else(if b<a then b else a)) vs f else False
 |_,_,_=>False
def FY(b:Bool)(vs:List Value)(f:Value→Prop):Prop:=
 match vs with
 | .int k a::vs=>Ly b k a vs f
 |_=>False
def yW(h:ae)(i:Nat)(e:MapEntry):Prop:=
 ∃m since seen last stamp es,h[i]? =some (.mapIter (some m) since seen last)∧seen.back? =some stamp∧h[m]? =some (.map es last)∧es.find? (fun e=>e.born==stamp)=some e
def qJ(P:Program)(t:TypeId):Bool:=match P.underlying t with|some (.interface _)=>false|some _=>true|none=>false
def QK(P:Program)(t:TypeId)(x:Value)(K:RK):Prop:=
 bif qJ P t then(match G6 P t with
  |some k=>∃y:k.den,x=.iface t (k.enc y)∧K (k.enc y) none
  |none=>False)else False
def Nc(cs:List Value)(off:Nat)(vs:List Value):List Value:=cs.take off++vs++cs.drop (off+vs.length)
def EU(b:Nat→Option (Nat×Nat)):List Value→List (Nat×Value)→Option (List Value)
 |cs,[]=>some cs
 |cs,(i,v)::rest=>match b i with
  |none=>none
  |some (off,size)=>bif aM v.cells.toList.length size&&xE (off+v.cells.toList.length) cs.length then EU b (Nc cs off v.cells.toList) rest else none
noncomputable def qI(r:cY):List (Nat×Operand)→Option (List (Nat×Value))
 | []=>some []
 |(i,o)::ps=>match dQ r o,qI r ps with
  |some v,some vs=>some ((i,v)::vs)
  |_,_=>none
def rm(P:Program)(t:TypeId):Option (List Value):=match An P t with|some z=>some z.cells.toList|none=>none
def fb(n:Nat)(z:List Value):List Value:=(gg n z).flatten
def zX(P:Program)(t:TypeId):Bool:=match P.info? t with|some _=>true|none=>false
def CN(P:Program):List Field→Bool
 | []=>true
 |f::fs=>bif zX P f.type then CN P fs else false
def Px(P:Program)(b:List Field)(i:Nat):Option (Nat×Nat):=match b[i]? with|some f=>some (f.offset,cx P f.type)|none=>none
def LW(P:Program)(t:TypeId)(b:List (Nat×Value)):Option (List Value):=
 match P.underlying t,rm P t with
 |some (.struct fs),some z=>bif CN P fs.toList then EU (Px P fs.toList) z b else none
 |some (.array _ e),some z=>bif zX P e then EU (fun i=>some (i*cx P e,cx P e)) z b else none
 |_,_=>none
def Pi(v:Value)(K:RK):Prop:=
 match v with
 | .slice a _ c=>(a=none∨c≠0)∧K (.pointer a) none
 |_=>False
noncomputable def Dp(P:Program)(ek:Option (Kind×Kind))(o:Op)(r:cY)(K:RK)(h:ae):Prop:=
 match o with
 | .entry it=>match dQ r it,ek with
  |some (.pointer (some a)),some (kk,vk)=>a.off=0∧∃(e:MapEntry) (x:kk.den) (y:vk.den),yW h a.block e∧e.key=kk.enc x∧e.val=vk.enc y∧
    K (.tuple #[kk.enc x,vk.enc y]) (some fun g=>yW g a.block e)
  |_,_=>False
 | .move x| .assign x=>match dQ r x with|some v=>K v none|none=>False
 | .load t a=>match dQ r a with|some v=>M5 P t v K h|none=>False
 | .nilCheck x=>match dQ r x with|some (.pointer p)=>∃a,p=some a∧K (.pointer (some a)) none|_=>False
 | .binOp op t x y _=>match UN y,dQ r x,dQ r y with
  |true,some v,some u=>(match op with
   | .eql=>W4 P t false v u K
   | .neq=>W4 P t true v u K
   |op=>WM P op t v u K h)
  |false,some (.agg v),some (.agg u)=>Yu P op t v.toList u.toList K h
  |false,some v,some u=>WM P op t v u K h
  |_,_,_=>False
 | .unOp op _ x=>match dQ r x with|some v=>aaH op v K|none=>False
 | .convert s d x=>match dQ r x with|some v=>Ui P s d v K h|none=>False
 | .pick c a b=>match dQ r c,dQ r a,dQ r b with|some c,some a,some b=>XX c a b K|_,_,_=>False
 | .extract x i=>match dQ r x with
  |some (.tuple vs)=>(match vs.toList[i]? with|some v=>K v none|none=>False)
  |_=>False
 | .fieldAddr t x f=>match dQ r x,yO P t f with
  |some (.pointer (some a)),some (u,off)=>bif aM (cx P u) 0 then False else K (.pointer (some (adr a off))) none
  |_,_=>False
 | .field t x f=>match dQ r x with|some v=>Pn P t v f K|none=>False
 | .indexAddr t x i=>match dQ r x,dQ r i with|some v,some u=>A8 P t v u K|_,_=>False
 | .index t x i=>match dQ r x,dQ r i with|some v,some u=>Pm P t v u K|_,_=>False
 | .slice t x lo hi mx=>match dQ r x,JX r lo,JX r hi,JX r mx with
  |some v,some l,some g,some m=>Ph P t v l g m K
  |_,_,_,_=>False
 | .lookup t x k ok=>match dQ r x,dQ r k with|some v,some u=>Lk P t v u ok K h|_,_=>False
 | .makeInterface t x=>match dQ r x with|some v=>bif qJ P t then K (.iface t v) none else False|none=>False
 | .typeAssert x _ t ok=>match dQ r x with|some v=>bif ok then False else QK P t v K|none=>False
 | .build t ps=>match qI r ps.toList with
  |some vs=>(match LW P t vs with|some cs=>K (.agg cs.toArray) none|none=>False)
  |none=>False
 | .makeFunc fn first cap=>match oz r first.toList,oz r cap.toList with
  |some vs,some us=>K (.func fn vs.toArray us.toArray) none
  |_,_=>False
 | .call c=>match c.callee,oz r c.args.toList,c.argTypes.toList with
  | .builtin .len,some [v],[t]=>Ys P t v K h
  | .builtin .cap,some [v],[t]=>Yt P t v K h
  | .builtin .min,some vs,_=>FY false vs fun v=>K v none
  | .builtin .max,some vs,_=>FY true vs fun v=>K v none
  | .builtin .unsafeSliceData,some [v],_=>Pi v K
  |_,_,_=>False
 |_=>False
abbrev WK:=Value→ae→Prop
def aJ(h:ae):Addr:=⟨h.size,0,none⟩
def hnew(h:ae)(cs:List Value)(t:TypeId):ae:=h.push (.cells cs.toArray t (0,0))
def cF:List Value→Bool
 | []=>true
 |v::vs=>(match v with| .agg _=>false| .tuple _=>false|_=>true)&&cF vs
noncomputable def iw(h:ae)(a:Addr):Nat→List Value→ae
 |_,[]=>h
 |i,v::vs=>iw (hset h (adr a i) v) a (i+1) vs
noncomputable def ik(h:ae)(a:Option Addr)(i:Nat)(vs:List Value):ae:=match a with|some a=>iw h a i vs|none=>h
noncomputable def xw(h:ae)(a:Option Addr)(i:Nat)(vs:List Value):Prop:=vs= []∨∃b,a=some b∧∀j,j<vs.length→Wr h (adr b (i+j))
noncomputable def OF(P:Program)(t:TypeId)(a v:Value)(K:WK)(h:ae):Prop:=
 match a with
 | .pointer (some a)=>bif aM v.cells.toList.length (cx P t)&&cF v.cells.toList then Uz P t
   (match v.cells.toList with
    | [v]=>Wr h a∧K undef (hset h a v)
    |vs=>xw h (some a) 0 vs∧K undef (iw h a 0 vs))
  else False
 |_=>False
noncomputable def VI(P:Program)(e:TypeId)(b:Option Addr)(sl d c:Nat)(xs:List Value)(K:WK)(h:ae):Prop:=
 (sl+c≤d→xw h b (sl*cx P e) xs∧cF xs=true∧K (.slice b (sl+c) d) (ik h b (sl*cx P e) xs))∧
 (d<sl+c→∃old z,SRow h b (sl*cx P e) old∧rm P e=some z∧0<ru P e∧Builtin.nextslicecap (sl+c) d*ru P e≤2^48∧
  ∀nc,sl+c≤nc→K (.slice (some (aJ h)) (sl+c) nc) (hnew h (old++xs++fb (nc-(sl+c)) z) e))
noncomputable def FR(P:Program)(t:TypeId)(s x:Value)(K:WK)(h:ae):Prop:=
 match xL P t,s,x with
 |some e,.slice b sl sc,.slice a xl _=>Uz P e (∃xs,SRow h a (xl*cx P e) xs∧VI P e b sl sc xl xs K h)
 |some e,.slice b sl sc,.string x=>bif aM (cx P e) 1 then VI P e b sl sc x.size (dN x) K h else False
 |_,_,_=>False
noncomputable def Gh(P:Program)(t:TypeId)(s x:Value)(K:WK)(h:ae):Prop:=
 match xL P t,s,x with
 |some e,.slice b sl sc,.int _ l=>(match rm P e with
  |some z=>bif aM z.length (cx P e)then(0≤l∧l*ru P e≤2^48∧l≤9223372036854775807∧((sl+l.toNat:Nat):Int)≤9223372036854775807)∧VI P e b sl sc l.toNat (fb l.toNat z) K h else False
  |none=>False)
 |_,_,_=>False
noncomputable def OH(P:Program)(t:TypeId)(x:Value)(K:WK)(h:ae):Prop:=
 match xL P t,x with
 |some e,.slice a n _=>(match rm P e with
  |some z=>bif cF z then xw h a 0 (fb n z)∧K (.tuple #[]) (ik h a 0 (fb n z))else False
  |none=>False)
 |_,_=>False
noncomputable def TG(P:Program)(t:TypeId)(d s:Value)(K:WK)(h:ae):Prop:=
 match xL P t,d,s with
 |some e,.slice b dl _,.slice a sl _=>Uz P e (∃xs,SRow h a (fX sl dl*cx P e) xs∧xw h b 0 xs∧cF xs=true∧K (.int .i64 (fX sl dl)) (ik h b 0 xs))
 |some e,.slice b dl _,.string x=>bif aM (cx P e) 1 then xw h b 0 ((dN x).take dl)∧K (.int .i64 (fX x.size dl)) (ik h b 0 ((dN x).take dl))else False
 |_,_,_=>False
def Ln(k v:Value)(b:Nat):List MapEntry→List MapEntry×Nat
 | []=>([{key:=k,val:=v,born:=b}],b+1)
 |e::es=>if f6 k e.key then({e with key:=k,val:=v}::es,b)else let r:=Ln k v b es;(e::r.1,r.2)
def Hn(k:Value):List MapEntry→List MapEntry
 | []=> []
 |e::es=>if f6 k e.key then es else e::Hn k es
def CV(c:CK)(h:ae)(r:Nat):Prop:=∃es clock,h[r]? =some (.map es clock)∧keysOf c es.toList
def qM(h:ae)(r:Nat)(k v:Value):ae:=
 match h[r]? with
 |some (.map es clock)=>h.setIfInBounds r (.map (Ln k v clock es.toList).1.toArray (Ln k v clock es.toList).2)
 |_=>h
def GV(h:ae)(r:Nat)(k:Value):ae:=
 match h[r]? with
 |some (.map es clock)=>h.setIfInBounds r (.map (Hn k es.toList).toArray clock)
 |_=>h
def FQ(P:Program)(t:TypeId)(m k v:Value)(K:WK)(h:ae):Prop:=
 match NG P t,m with
 |some (c,_),.map m=>c.dec k fun _=>∃r,m=some r∧CV c h r∧K undef (qM h r k v)
 |_,_=>False
def Gf(P:Program)(t:TypeId)(m k:Value)(K:WK)(h:ae):Prop:=
 match NG P t,m with
 |some (c,_),.map m=>c.dec k fun _=>(m=none∧K (.tuple #[]) h)∨(∃r,m=some r∧CV c h r∧K (.tuple #[]) (GV h r k))
 |_,_=>False
def T9(P:Program):List TypeId→Option (List Kind)
 | []=>some []
 |t::ts=>match G6 P t,T9 P ts with
  |some k,some ks=>some (k::ks)
  |_,_=>none
def Ua(P:Program)(t:TypeId):Option (List Kind):=
 match P.underlying t with
 |some (.tuple ts)=>T9 P ts.toList
 |_=>T9 P [t]
noncomputable def XN(P:Program)(f:Operand)(r:cY)(args:List Value)(t:TypeId)(K:WK)(h:ae):Prop:=
 match Ua P t with
 |none=>False
 |some ks=>match f with
  | .func f=>HC P f args ks (fun x b=>K (DG ks (na ks x)) b) h
  |f=>match dQ r f with
   |some fv=>HV P fv args ks (fun x b=>K (DG ks (na ks x)) b) h
   |none=>False
def TF(b:Value)(K:WK)(h:ae):Prop:=
 match b with
 | .pointer (some a)=>a.off=0∧
  ∃m since seen last,h[a.block]? =some (.mapIter m since seen last)∧
   ((m=none∧K (.tuple #[.bool false]) h)∨
    (∃r es clock,m=some r∧h[r]? =some (.map es clock)∧(seen.isEmpty=true∨es.isEmpty=true∨es.all (fun e=>decide (e.born≥last))=false)∧
     ((∀e∈es.toList,e.born<since→seen.contains e.born=true)→K (.tuple #[.bool false]) h)∧
     (∀e∈es.toList,seen.contains e.born=false→K (.tuple #[.bool true,e.key,e.val]) (h.setIfInBounds a.block (.mapIter (some r) since (seen.push e.born) clock)))))
 |_=>False
def OG(c:Value)(K:WK)(h:ae):Prop:=
 match c with
 | .pointer (some a)=>a.off=0∧∃s pos,h[a.block]? =some (.stringIter s pos)∧
  ((s.size≤pos∧K (.tuple #[.bool false]) h)∨
   (∃b:UInt8,s[pos]? =some b∧b.toNat<128∧K (.tuple #[.bool true,.int .i64 pos,.int .i32 b.toNat]) (h.setIfInBounds a.block (.stringIter s (pos+1)))))
 |_=>False
def Q2(h:ae)(g n:Nat):ae:=
 h.modify g fun
  | .cells c elem (lo,hi)=>.cells c elem (if lo==hi then(0,0+n)else(min lo 0,max hi (0+n)))
  |o=>o
def aak(e:TypeId)(a:Option Addr)(n:Int)(h:ae)(K:ByteArray→ae→Prop):Prop:=
 (n=0∧K ⟨#[]⟩ h)∨∃(l:List UInt8) (g:Nat) (cs:Array Value),a=some ⟨g,0,none⟩∧n=l.length∧l≠[]∧l.length≤9223372036854775807∧h[g]? =some (.cells cs e (0,0))∧l.length≤cs.size∧
  (∀(j:Nat) (x:UInt8),l[j]? =some x→cs[j]? =some (.int .u8 x.toNat))∧K ⟨l.toArray⟩ (Q2 h g l.length)
def TE(P:Program)(t:TypeId)(p n:Value)(K:WK)(h:ae):Prop:=
 match P.underlying t,p,n with
 |some (.pointer e),.pointer a,.int .i64 n=>bif aM (P.cellsOf e) 1 then aak e a n h (fun s b=>K (.string s) b)else False
 |_,_,_=>False
noncomputable def Iu(P:Program)(o:Oper)(r:cY)(K:WK)(h:ae):Prop:=
 match o.op with
 | .alloc t=>(match rm P t with|some z=>K (.pointer (some (aJ h))) (hnew h z t)|none=>False)
 | .box t x=>(match dQ r x with|some v=>K (.pointer (some (aJ h))) (hnew h v.cells.toList t)|none=>False)
 | .build t ps=>(match qI r ps.toList with
  |some vs=>(match LW P t vs with|some cs=>K (.agg cs.toArray) h|none=>False)
  |none=>False)
 | .buildSlice t n ps=>(match xL P t,qI r ps.toList with
  |some e,some vs=>(match rm P e with
   |some z=>bif xE (n*cx P e) 16777216&&aM z.length (cx P e)then
     (match EU (fun i=>some (i*cx P e,cx P e)) (fb n z) vs with|some cs=>K (.slice (some (aJ h)) n n) (hnew h cs e)|none=>False)
    else False
   |none=>False)
  |_,_=>False)
 | .store t a x=>(match dQ r a,dQ r x with|some a,some v=>OF P t a v K h|_,_=>False)
 | .mapUpdate t m k x=>(match dQ r m,dQ r k,dQ r x with|some m,some k,some v=>FQ P t m k v K h|_,_,_=>False)
 | .insert t m k x=>(match dQ r m,dQ r k,dQ r x with|some m,some k,some v=>FQ P t m k v K h|_,_,_=>False)
 | .makeMap t n=>(match n with
  |none=>K (.map (some h.size)) (h.push (.map #[] 0))
  |some n=>(match dQ r n,P.underlying t with|some (.int _ _),some (.map _ _)=>K (.map (some h.size)) (h.push (.map #[] 0))|_,_=>False))
 | .makeSlice t l c=>(match xL P t,dQ r l,dQ r c with
  |some e,some (.int _ l),some (.int _ c)=>(match rm P e with
   |some z=>bif aM z.length (cx P e)then(0≤l∧l≤c∧c≤9223372036854775807∧ru P e*c≤2^48)∧K (.slice (some (aJ h)) l.toNat c.toNat) (hnew h (fb c.toNat z) e)else False
   |none=>False)
  |_,_,_=>False)
 | .convert s d x=>(match P.underlying s,P.underlying d,dQ r x with
  |some .string,some (.slice e),some (.string v)=>bif PP P e then ByP e v h (fun c b=>K (.slice (some (aJ h)) v.size c) b)else False
  |_,_,_=>False)
 | .range t x=>(match P.underlying t,dQ r x with
  |some (.map _ _),some (.map m)=>∃clock,(m=none∧clock=0∨∃r es,m=some r∧h[r]? =some (.map es clock))∧K (.pointer (some (aJ h))) (h.push (.mapIter m clock #[] clock))
  |some .string,some (.string s)=>K (.pointer (some (aJ h))) (h.push (.stringIter s 0))
  |_,_=>False)
 | .next it false=>(match dQ r it with|some it=>TF it K h|none=>False)
 | .next it true=>(match dQ r it with|some it=>OG it K h|none=>False)
 | .call c=>(match c.callee,oz r c.args.toList with
  | .builtin .append,some [s,x]=>(match c.argTypes.toList with| [t,u]=>(match P.underlying u with|some (.slice _)=>FR P t s x K h|some .string=>FR P t s x K h|some (.int _)=>Gh P t s x K h|_=>False)|_=>False)
  | .builtin .clear,some [x]=>(match c.argTypes.toList with| [t]=>OH P t x K h|_=>False)
  | .builtin .copy,some [d,s]=>(match c.argTypes.toList with| [t,_]=>TG P t d s K h|_=>False)
  | .builtin .unsafeString,some [p,n]=>(match c.argTypes.toList with| [t,_]=>TE P t p n K h|_=>False)
  | .builtin .delete,some [m,k]=>(match c.argTypes.toList with| [t,_]=>Gf P t m k K h|_=>False)
  | .value f,some args=>XN P f r args o.type K h
  |_,_=>False)
 |_=>False
def xO(P:Program):Op→Bool
 | .convert s d _=> !YE P s d
 | .alloc _| .box .. | .buildSlice .. | .store .. | .mapUpdate .. | .insert .. | .makeMap .. | .makeSlice .. | .range .. | .next .. =>false
 | .call c=>match c.callee with
  | .builtin .len| .builtin .cap| .builtin .min| .builtin .max| .builtin .unsafeSliceData=>true
  |_=>false
 |_=>true
def Bk(N:Nat)(o:Oper)(v:Value)(r:cY)(K:cY→Prop):Prop:=
 match o.dst with
 |none=>K r
 |some d=>bif Ae d N then K ((d,v)::r)else False
noncomputable def Zg(P:Program)(N:Nat)(ek:Option (Kind×Kind))(o:Oper)(r:cY)(K:cY→ae→Prop)(h:ae):Prop:=
 bif xO P o.op then Dp P ek o.op r (fun v _=>Bk N o v r fun b=>K b h) h
 else Iu P o r (fun v c=>Bk N o v r fun b=>K b c) h
inductive DV where
 |f|t|u|x
abbrev wV:=List (Nat×DV)
noncomputable def rW(d:wV)(t:Nat):DV:=
 fP (motive:=fun _=>DV) .x (fun b _ c=>bif aM b.1 t then b.2 else c) d
noncomputable def CE(d:wV):Operand→DV
 | .tmp t=>rW d t
 | .const (.bool true)=>.t
 | .const (.bool false)=>.f
 |_=>.x
noncomputable def MA(d:wV):Op→DV
 | .move x=>CE d x
 | .assign x=>CE d x
 | .pick c a b=>match CE d c with
  | .t=>CE d a
  | .f=>CE d b
  |_=>.x
 | .unOp .not _ x=>match CE d x with
  | .t=>.f
  | .f=>.t
  |_=>.x
 |_=>.x
def sK(d:wV)(o:Oper)(v:DV):wV:=match o.dst with|some t=>(t,v)::d|none=>d
noncomputable def jE(ops:List Oper)(d:wV)(o:Oper):Option Bool:=
 match o.guard with
 |none=>some true
 |some (j,want)=>match ops[j]? with
  |none=>none
  |some oj=>match oj.dst with
   |none=>none
   |some t=>match rW d t with
    | .t=>some want
    | .f=>some (!want)
    | .u=>some false
    | .x=>none
def He(ops:List Oper)(o:Oper):Option Nat:=
 match o.guard with
 |none=>none
 |some (j,_)=>match ops[j]? with
  |none=>none
  |some oj=>oj.dst
noncomputable def JF(P:Program)(N:Nat)(ek:Option (Kind×Kind))(ops:List Oper)(o:Oper)(d:wV)(r:cY)(h:ae)(K:wV→cY→ae→Prop):Prop:=
 match jE ops d o with
 |some true=>Zg P N ek o r (K (sK d o (MA d o.op))) h
 |some false=>Bk N o undef r fun b=>K (sK d o .u) b h
 |none=>False
noncomputable def Gu(P:Program)(N:Nat)(ek:Option (Kind×Kind))(ops:List Oper)(l:List Oper):wV→(cY→ae→Prop)→cY→ae→Prop:=
 fP (motive:=fun _=>wV→(cY→ae→Prop)→cY→ae→Prop) (fun _ K r h=>K r h)
  (fun o _ f d K r h=>
  match jE ops d o with
  |some true=>Zg P N ek o r (fun c e=>f (sK d o (MA d o.op)) K c e) h
  |some false=>Bk N o undef r fun c=>f (sK d o .u) K c h
  |none=>match He ops o with
   |none=>False
   |some t=>match kU r t with
    |some (.bool b)=>CondP b
     (JF P N ek ops o ((t,.t)::d) ((t,.bool true)::r) h fun g c e=>f g K c e)
     (JF P N ek ops o ((t,.f)::d) ((t,.bool false)::r) h fun g c e=>f g K c e)
    |_=>False) l
inductive DA where
 |done
 |take (i:Nat) (rest:DA)
 |all (l:DA)
 |pick (i:Nat) (rest more:DA)
 |last (i:Nat) (rest:DA)
 |lastT (i:Nat) (rest:DA)
 |split (t:Nat) (yes no:DA)
abbrev ry:=List (Nat×(ae→Prop))
def tb(m i:Nat):Bool:=aM (ki (Nat.shiftRight m i) 1) 1
def gY(i:Nat):Nat:=Nat.pow 2 i
inductive DM where
 |mk (am fr lk ds:Nat)
def DM.am:DM→Nat| .mk a _ _ _=>a
def DM.fr:DM→Nat| .mk _ f _ _=>f
def DM.lk:DM→Nat| .mk _ _ l _=>l
def DM.ds:DM→Nat| .mk _ _ _ d=>d
def jG(o:Oper)(i:Nat):Bool:=o.after.toList.any fun e=>aM e.on i&&Region.binds .any e
noncomputable def ng(l:List Edge):Nat:=
 fP (motive:=fun _=>Nat) 0 (fun e _ b=>bif Region.binds .any e then dC (gY e.on) b else b) l
noncomputable def mB(l:List Operand):Nat:=
 fP (motive:=fun _=>Nat) 0 (fun o _ b=>match o with| .tmp t=>dC (gY t) b|_=>b) l
def ot(o:Oper):Nat:=match o.dst with|some d=>gY d|none=>0
noncomputable def oN(ops:List Oper)(o:Oper):Nat:=
 dC (mB o.op.operands.toList) (match o.guard with
  |some (g,_)=>(match ops[g]? with|some og=>ot og|none=>0)
  |none=>0)
noncomputable def yE(ops:List Oper)(l:List Oper):List DM→Bool:=
 fP (motive:=fun _=>List DM→Bool) (fun ms=>match ms with| []=>true|_=>false)
  (fun o _ b ms=>match ms with
   |m::ms=>aM (ng o.after.toList) m.am&&aM (oN ops o) m.lk&&aM (ot o) m.ds&&b ms
   | []=>false) l
def D8(x y:DM):Bool:=aM (ki x.ds (dC y.lk y.ds)) 0&&aM (ki y.ds x.lk) 0
noncomputable def Kp(i:Nat)(m:DM)(l:List DM):Nat→Bool:=
 fP (motive:=fun _=>Nat→Bool) (fun _=>true)
  (fun n _ b j=>(!(tb m.fr j)||aM j i||tb n.am i||D8 m n)&&b (fW j)) l
noncomputable def CA(b:List DM)(l:List DM):Nat→Bool:=
 fP (motive:=fun _=>Nat→Bool) (fun _=>true) (fun m _ c i=>Kp i m b 0&&c (fW i)) l
def Nn:List Oper→Bool
 | []=>true
 |o::os=>(match o.op with| .select .. =>false| .defer _=>false|_=>true)&&Nn os
noncomputable def F0(ops:List Oper)(ms:List DM):Bool:=yE ops ops ms&&CA ms ms 0&&Nn ops
def pg(o:Oper):ry→ry
 | []=> []
 |(k,S)::l=>bif jG o k then pg o l else(k,S)::pg o l
def tF:ry→ae→Prop→Prop
 | [],_,R=>R
 |(_,S)::l,h,R=>S h∧tF l h R
def Mz(m:DM)(ls:Nat):Bool:=aM (ki m.am ls) m.am
noncomputable def mE(ls:Nat)(l:List DM):Nat→List Nat:=
 fP (motive:=fun _=>Nat→List Nat) (fun _=> []) (fun m _ b j=>bif !(tb ls j)&&Mz m ls then j::b (fW j)else b (fW j)) l
def Gn(m:DM)(i ls n:Nat):Bool:= !(tb ls i)&&Mz m ls&&aM (ki (dC ls m.fr) (zG (gY n))) (zG (gY n))
def xm:List Nat→List Nat→Bool
 | [],[]=>true
 |a::as,b::bs=>aM a b&&xm as bs
 |_,_=>false
def D2:DA→List Nat
 | .pick i _ l=>i::D2 l
 | .last i _=> [i]
 | .lastT i _=> [i]
 |_=> []
noncomputable def Sa(P:Program)(N:Nat)(ops:List Oper)(i:Nat)(L:ry)(d:wV)(r:cY)(h:ae)(K:ry→wV→cY→ae→Prop):Prop:=
 match ops[i]? with
 |none=>False
 |some o=>match jE ops d o with
  |some true=>bif xO P o.op then Dp P none o.op r (fun v _=>Bk N o v r fun b=>tF (pg o L) h (K (pg o L) (sK d o .x) b h)) h else Iu P o r (fun v c=>Bk N o v r fun b=>tF (pg o L) c (K (pg o L) (sK d o .x) b c)) h
  |_=>False
noncomputable def Tv(m:Nat)(l:List DM):Nat→Nat:=
 fP (motive:=fun _=>Nat→Nat) (fun _=>m) (fun n _ b j=>bif tb m j then dC n.am (b (fW j))else b (fW j)) l
noncomputable def CF(ms:List DM)(m:Nat):Nat:=Tv (Tv (Tv (Tv m ms 0) ms 0) ms 0) ms 0
def L5(ms:List DM)(i:Nat):Nat:=match ms[i]? with|some m=>m.am|none=>0
def Cb(m:Nat):ry→ry
 | []=> []
 |(k,S)::l=>bif tb m k then Cb m l else(k,S)::Cb m l
noncomputable def QH(P:Program)(N:Nat)(ops:List Oper)(ms:List DM)(i:Nat)(L:ry)(d:wV)(r:cY)(h:ae)(K:ry→wV→cY→ae→Prop):Prop:=
 match ops[i]? with
 |none=>False
 |some o=>match jE ops d o with
  |some true=>bif xO P o.op then False else Iu P o r (fun v b=>Bk N o v r fun c=>tF (Cb (CF ms (L5 ms i)) L) b (K (Cb (CF ms (L5 ms i)) L) (sK d o .x) c b)) h
  |_=>False
noncomputable def nS(P:Program)(N:Nat)(ops:List Oper)(ms:List DM)(p:DA):Bool→Nat→ry→wV→(cY→ae→Prop)→cY→ae→Prop:=
 DA.rec (motive:=fun _=>Bool→Nat→ry→wV→(cY→ae→Prop)→cY→ae→Prop)
  (fun m ls _ _ K r h=>bif !m&&xm (mE ls ms 0) []then K r h else False)
  (fun i _ e m ls L d K r h=>
   match ops[i]?,ms[i]? with
   |some o,some mi=>bif !m&&Gn mi i ls ops.length then
     (match jE ops d o with
      |none=>False
      |some false=>Bk N o undef r fun c=>e false (dC ls (gY i)) L (sK d o .u) K c h
      |some true=>bif xO P o.op then
       Dp P none o.op r (fun v S=>Bk N o v r fun c=>match S with
        |none=>e false (dC ls (gY i)) L (sK d o (MA d o.op)) K c h
        |some S=>e false (dC ls (gY i)) ((i,S)::L) (sK d o (MA d o.op)) K c h) h
       else False)
    else False
   |_,_=>False)
  (fun l e m ls L d K r h=>bif !m&&xm (mE ls ms 0) (D2 l)then e true ls L d K r h else False)
  (fun i _ _ f g m ls L d K r h=>bif m then Sa P N ops i L d r h (fun L' j c n=>f false (dC ls (gY i)) L' j K c n)∧g true ls L d K r h else False)
  (fun i _ e m ls L d K r h=>bif m then Sa P N ops i L d r h (fun L' j c n=>e false (dC ls (gY i)) L' j K c n)else False)
  (fun i _ e m ls L d K r h=>bif m then QH P N ops ms i L d r h (fun L' j c n=>e false (dC ls (gY i)) L' j K c n)else False)
  (fun t _ _ f g m ls L d K r h=>
   bif m then False else match kU r t with
   |some (.bool b)=>CondP b (f false ls L ((t,.t)::d) K ((t,.bool true)::r) h) (g false ls L ((t,.f)::d) K ((t,.bool false)::r) h)
   |_=>False)
  p
noncomputable def aa1(_:Oper)(i:Nat)(ds lk:Nat)(ops:List Oper)(l:List Oper):Nat→Nat:=
 fP (motive:=fun _=>Nat→Nat) (fun _=>0) (fun p _ b j=>bif (aM j i||jG p i||(aM (ki ds (dC (oN ops p) (ot p))) 0&&aM (ki (ot p) lk) 0))then dC (gY j) (b (fW j))else b (fW j)) l
noncomputable def aaO(ops:List Oper)(l:List Oper):Nat→List DM:=
 fP (motive:=fun _=>Nat→List DM) (fun _=> []) (fun o _ b i=>.mk (ng o.after.toList) (aa1 o i (ot o) (oN ops o) ops ops 0) (oN ops o) (ot o)::b (fW i)) l
def Zr(P:Program)(w:Option Bool)(o:Oper):Bool:=match w with|some false=>true|some true=>xO P o.op|none=>false
noncomputable def YM(P:Program)(ops:List Oper)(d:wV)(ls n:Nat)(l:List Oper):List DM→Nat→Option (Nat×Oper):=
 fP (motive:=fun _=>List DM→Nat→Option (Nat×Oper)) (fun _ _=>none)
  (fun o _ b ms j=>match ms with
   | []=>none
   |m::ms=>bif Gn m j ls n&&Zr P (jE ops d o) o then some (j,o)else b ms (fW j)) l
noncomputable def YN(ops:List Oper)(d:wV)(ls:Nat)(l:List Oper):List DM→Nat→Option Nat:=
 fP (motive:=fun _=>List DM→Nat→Option Nat) (fun _ _=>none)
  (fun o _ b ms j=>match ms with
   | []=>none
   |m::ms=>match bif !(tb ls j)&&Mz m ls then(match jE ops d o with|none=>He ops o|some _=>none)else none with
    |some t=>some t
    |none=>b ms (fW j)) l
noncomputable def ZH(ops:List Oper)(k:Nat→wV→DA)(ls:Nat)(d:wV)(l:List Nat):DA:=
 fP (motive:=fun _=>DA) .done (fun i b c=>match ops[i]? with
  |none=>.done
  |some o=>match b with
   | []=>.last i (k (dC ls (gY i)) (sK d o .x))
   |_=>.pick i (k (dC ls (gY i)) (sK d o .x)) c) l
noncomputable def Y2(P:Program)(ops:List Oper)(ms:List DM)(fuel:Nat):Nat→wV→DA:=
 Nat.rec (motive:=fun _=>Nat→wV→DA) (fun _ _=>.done) (fun _ b ls d=>
  match YM P ops d ls ops.length ops ms 0 with
  |some (i,o)=>.take i (b (dC ls (gY i)) (match jE ops d o with|some false=>sK d o .u|_=>sK d o (MA d o.op)))
  |none=>match YN ops d ls ops ms 0 with
   |some t=>.split t (b ls ((t,.t)::d)) (b ls ((t,.f)::d))
   |none=>match mE ls ms 0 with
    | []=>.done
    |l=>.all (ZH ops b ls d l)) fuel
noncomputable def QS(ops:List Oper):List DM:=aaO ops ops 0
inductive Ex where
 |exit (id:Nat)
 |ret
abbrev St:=List (Nat×Kind)
def AX:St→List Kind
 | []=> []
 |(_,k)::l=>k::AX l
noncomputable def Gr(r:cY):St→Option (List Value)
 | []=>some []
 |(i,_)::l=>match kU r i,Gr r l with
  |some v,some vs=>some (v::vs)
  |_,_=>none
noncomputable def EA(st:St)(r:cY)(f:uO (AX st)→Prop):Prop:=
 match Gr r st with
 |some vs=>Fy (AX st) vs f
 |none=>False
def om:St→List Value→cY→cY
 |(i,_)::l,v::vs,r=>(i,v)::om l vs r
 |_,_,r=>r
noncomputable def QY(r:cY)(l:List Nat):Option cY:=
 fP (motive:=fun _=>Option cY) (some []) (fun t _ b=>match kU r t,b with
  |some v,some l=>some ((t,v)::l)
  |_,_=>none) l
noncomputable def mA(t:Nat)(l:List Oper):Bool:=
 fP (motive:=fun _=>Bool) false (fun o _ b=>match o.dst with|some d=>bif aM d t then true else b|none=>b) l
noncomputable def gu(t:Nat)(c:Code):Bool:=
 Code.rec (motive:=fun _=>Bool) false (fun _ ops _=>mA t ops.toList) (fun _ _ a b=>bif a then true else b) (fun _ _ _ a b=>bif a then true else b)
  (fun _ _ b=>b) (fun _ b=>b) (fun _ _ _ _ _ _=>true) (fun _=>false) (fun _ b=>b) (fun _=>false) (fun _=>false) false (fun _=>false) c
inductive Ann where
 |nil
 |node (a b:Ann)
 |join (st:St) (a b:Ann)
 |loop (st:St) (b:Ann)
 |draw (d:DA)
 |kinds (k v:Kind)
 |reg (keep:List Nat) (inner:Ann)
 |rf (ks:List Kind) (a b:Ann)
def Ann.l:Ann→Ann
 | .node a _=>a
 | .rf _ a _=>a
 |_=>.nil
def Ann.r:Ann→Ann
 | .node _ b=>b
 | .rf _ _ b=>b
 |_=>.nil
noncomputable def TC(l:List Oper):Nat:=fP (motive:=fun _=>Nat) 0 (fun o _ b=>dC (ot o) b) l
def ZJ:Option Nat→Option Nat→Option Nat
 |some a,some b=>some (dC a b)
 |_,_=>none
noncomputable def Ao(c:Code):Option Nat:=
 Code.rec (motive:=fun _=>Option Nat) (some 0) (fun _ ops _=>some (TC ops.toList)) (fun _ _ a b=>ZJ a b) (fun _ _ _ a b=>ZJ a b)
  (fun _ _ b=>b) (fun _ b=>b) (fun _ _ _ _ _ _=>none) (fun _=>some 0) (fun _ b=>b) (fun _=>some 0) (fun _=>some 0) (some 0) (fun _=>some 0) c
noncomputable def yJ(m:Nat)(r:cY):cY:=fP (motive:=fun _=>cY) [] (fun c _ b=>bif tb m c.1 then b else c::b) r
noncomputable def Dz(P:Program)(N:Nat)(ops:List Oper)(c:Bool)(b:Ann)(Kn:cY→ae→Prop)(r:cY)(h:ae):Prop:=
 match c with
 |false=>(match b with
  | .kinds kk vk=>Gu P N (some (kk,vk)) ops ops [] Kn r h
  |_=>Gu P N none ops ops [] Kn r h)
 |true=>bif F0 ops (QS ops)then nS P N ops (QS ops) (match b with| .draw da=>da|_=>Y2 P ops (QS ops) (Nat.add (Nat.add ops.length ops.length) 2) 0 []) false 0 [] [] Kn r h else False
noncomputable def lC(P:Program)(N:Nat)(c:Code):Ann→(cY→ae→Prop)→(Ex→cY→ae→Prop)→cY→ae→Prop:=
 Code.rec (motive:=fun _=>Ann→(cY→ae→Prop)→(Ex→cY→ae→Prop)→cY→ae→Prop)
  (fun _ Kn _ r h=>Kn r h)
  (fun _ ops s d Kn _ r h=>match d with
   | .reg keep d=>Dz P N ops.toList s d (fun g f=>match QY g keep with|some r0=>Kn r0 f|none=>False) r h
   |d=>Dz P N ops.toList s d Kn r h)
  (fun a _ n j d Kn Kx r h=>match d with
   | .join st aa ab=>(match Ao a with
     |none=>False
     |some m=>Join (T:=uO (AX st)) (fun t f=>j ab Kn Kx (om st (na (AX st) t) (yJ m r)) f)
      fun J=>n aa (fun g f=>EA st g fun t=>J t f) Kx r h)
   |d=>n d.l (fun g f=>j d.r Kn Kx g f) Kx r h)
  (fun c _ _ n j d Kn Kx r h=>match dQ r c with
   |some (.bool t)=>CondP t (n d.l Kn Kx r h) (j d.r Kn Kx r h)
   |_=>False)
  (fun id _ q d Kn Kx r h=>q d Kn (fun e g f=>match e with
    | .exit i=>bif aM i id then Kn g f else Kx (.exit i) g f
    | .ret=>Kx .ret g f) r h)
  (fun b q d _ Kx r h=>match d with
   | .loop st ab=>(match Ao b with
     |none=>False
     |some m=>EA st r fun v=>LoopP (T:=uO (AX st)) (fun o t f=>q ab (fun g p=>EA st g fun u=>o u p) Kx (om st (na (AX st) t) (yJ m r)) f) v h)
   |_=>False)
  (fun _ _ _ _ _ _ _ _ _ _ _=>False)
  (fun id _ _ Kx r h=>Kx (.exit id) r h)
  (fun _ _ _ _ _ _ _=>False)
  (fun _ _ Kn _ r h=>Kn r h)
  (fun _ _ _ _ _ _=>False)
  (fun _ _ Kx r h=>Kx .ret r h)
  (fun _ _ _ _ _ _=>False)
  c
noncomputable def oq(P:Program)(r:cY)(h:ae):List ResultVar→(List Value→Prop)→Prop
 | [],K=>K []
 | .tmp t::l,K=>(match kU r t with|some v=>oq P r h l fun vs=>K (v::vs)|none=>False)
 | .cell a t::l,K=>(match kU r a with
  |some v=>M5 P t v (fun x _=>oq P r h l fun vs=>K (x::vs)) h
  |none=>False)
def qv:Nat→List Value→cY
 |_,[]=> []
 |i,v::vs=>(i,v)::qv (i+1) vs
noncomputable def Gv(P:Program)(fn:Func)(c:Code)(d:Ann)(args:List Value)(ks:List Kind)(K:uO ks→ae→Prop)(h:ae):Prop:=
 lC P fn.ntmps c d
  (fun r b=>oq P r b fn.results.toList fun vs=>Fy ks vs fun t=>K t b)
  (fun e r b=>match e with
   | .ret=>oq P r b fn.results.toList fun vs=>Fy ks vs fun t=>K t b
   | .exit _=>False)
  (qv 0 args) h
def Hp:List Oper→Option (Oper×Oper×Operand×Nat×FuncId×List Operand)
 | [m,o]=>match m.op,m.guard,m.dst,o.op,o.dst,o.guard with
  | .move x,none,some d,.defer c,none,none=>(match c.callee with
   | .value (.func f)=>some (m,o,x,d,f,c.args.toList)
   |_=>none)
  |_,_,_,_,_,_=>none
 |_=>none
inductive Mk where
 |it (n:Nat)
 |call (f:FuncId) (vs:List Value)
def HD(P:Program)(f:FuncId)(args:List Value)(K:ae→Prop)(h:ae):Prop:=
 ∀w:World,w.heap=h→(∀(args:Array Value) (w:World),(callFunc f args).run P w=.ok (.enter f args) w)∧∀n:Nat,CallsDIn {fn:=fun _=>True,depth:=none,alive:=false,round:=none} n P f args.toArray .returning w fun e u w'=>u=.returning∧Tame w w'∧(∃v,e=.returned v)∧K w'.heap
noncomputable def tG(c:Code):Bool:=
 Code.rec (motive:=fun _=>Bool) false (fun _ ops _=>(Hp ops.toList).isSome) (fun _ _ a b=>bif a then true else b) (fun _ _ _ a b=>bif a then true else b)
  (fun _ _ b=>b) (fun _ b=>b) (fun _ _ _ _ _ _=>true) (fun _=>false) (fun _ b=>b) (fun _=>false) (fun _=>false) false (fun _=>false) c
def LN:Option Ex→Option Code
 |none=>none
 |some (.exit i)=>some (.exit i)
 |some .ret=>some .ret
def aa2(N:ae→Prop)(X:Nat→ae→Prop)(R:ae→Prop):Option Ex→ae→Prop
 |none=>N
 |some (.exit i)=>X i
 |some .ret=>R
structure RangeP(P:Program)(fv:Value)(ks:List Kind)(h:ae)(RT:Obj→Obj→uO ks→(Option Ex→ae→Prop)→ae→Prop)(N:ae→Prop)(X:Nat→ae→Prop)(R:ae→Prop):Prop where
 run:∀lo:LoopState→Option Ex→Obj,(∀s j,∃r,lo s j=.loop r)→
  (∀x h' K,h'[h.size+1]? =some (lo .ready none)→
   RT (lo .ready none) (lo .busy none) x (fun j h2=>h2[h.size+1]? =some (lo .busy none)∧K j.isNone (h2.setIfInBounds (h.size+1) (lo (if j.isNone then .ready else .done) j))) h'→
   HV P (.func (.yield (h.size+1)) #[] #[]) (na ks x) [.c .bool] K h')→
  ∃f first cap,fv=.func (.func f) first cap∧HE P f (first.toList++ [.func (.yield (h.size+1)) #[] #[]]++cap.toList) []
   (fun _ h2=>∃s j,s≠ .busy∧h2[h.size+1]? =some (lo s j)∧aa2 N X R j (h2.setIfInBounds (h.size+1) (lo .exhausted j))) ((h.push (.deferred (some []))).push (lo .ready none))
def Wc:List Nat→List Value→cY→cY
 |i::l,v::vs,r=>Wc l vs ((i,v)::r)
 |_,_,r=>r
noncomputable def O2(P:Program)(N:Nat)(ps:List Nat)(ks:List Kind)(assign body:Code)(b:Ann)(r:cY)(l:Nat)(Mz f:Obj)(x:uO ks)(k:Option Ex→ae→Prop)(h:ae):Prop:=
 lC P N assign b.l (fun d c=>c[l]? =some Mz∧lC P N body b.r (fun _ h2=>k none h2) (fun e _ h2=>k (some e) h2) d (c.setIfInBounds l f)) (fun _ _ _=>False) (Wc ps (na ks x) r) h
def Bf(N:Nat):List Nat→Bool
 | []=>true
 |n::l=>Ae n N&&Bf N l
noncomputable def A2(P:Program)(N:Nat)(c:Code):Ann→(List Mk→cY→ae→Prop)→(Ex→List Mk→cY→ae→Prop)→List Mk→cY→ae→Prop:=
 Code.rec (motive:=fun _=>Ann→(List Mk→cY→ae→Prop)→(Ex→List Mk→cY→ae→Prop)→List Mk→cY→ae→Prop)
  (fun j Kn Kx ms r h=>lC P N .skip j (Kn ms) (fun e=>Kx e ms) r h)
  (fun id ops q j Kn Kx ms r h=>match Hp ops.toList with
   |none=>lC P N (.region id ops q) j (Kn ms) (fun e=>Kx e ms) r h
   |some (_,_,x,d,f,as)=>bif q then False else match dQ r x with
    |some v=>bif Ae d N then(match oz ((d,v)::r) as with|some vs=>Kn (.call f vs::ms) ((d,v)::r) h|none=>False)else False
    |none=>False)
  (fun a b o n j Kn Kx ms r h=>bif (bif tG a then true else tG b)then o j.l (fun ms p m=>n j.r Kn Kx ms p m) Kx ms r h
   else lC P N (.seq a b) j (Kn ms) (fun e=>Kx e ms) r h)
  (fun c a b o n j Kn Kx ms r h=>bif (bif tG a then true else tG b)then
    (match dQ r c with
     |some (.bool t)=>CondP t (o j.l Kn Kx ms r h) (n j.r Kn Kx ms r h)
     |_=>False)
   else lC P N (.cond c a b) j (Kn ms) (fun e=>Kx e ms) r h)
  (fun id b u j Kn Kx ms r h=>bif tG b then u j Kn (fun e ms p m=>match e with
    | .exit i=>bif aM i id then Kn ms p m else Kx (.exit i) ms p m
    | .ret=>Kx .ret ms p m) ms r h
   else lC P N (.block id b) j (Kn ms) (fun e=>Kx e ms) r h)
  (fun b _ j Kn Kx ms r h=>lC P N (.loop b) j (Kn ms) (fun e=>Kx e ms) r h)
  (fun g ps assign body _ _ j Kn Kx ms r h=>match j with
   | .rf ks aa ab=>bif Bf N ps.toList&&aM ps.toList.length ks.length then
    (match dQ r g with
     |some fv=>RangeP P fv ks h (fun Mz s x k m=>O2 P N ps.toList ks assign body (.node aa ab) r (h.size+1) Mz s x k m)
      (fun m=>Kn (.it h.size::ms) r m) (fun i m=>Kx (.exit i) (.it h.size::ms) r m) (fun m=>Kx .ret (.it h.size::ms) r m)
     |none=>False)else False
   |_=>False)
  (fun id j Kn Kx ms r h=>lC P N (.exit id) j (Kn ms) (fun e=>Kx e ms) r h)
  (fun _ _ _ _ _ _ _ _=>False)
  (fun l j Kn Kx ms r h=>lC P N (.label l) j (Kn ms) (fun e=>Kx e ms) r h)
  (fun _ _ _ _ _ _ _=>False)
  (fun j Kn Kx ms r h=>lC P N .ret j (Kn ms) (fun e=>Kx e ms) r h)
  (fun _ _ _ _ _ _ _=>False)
  c
def MR(P:Program):List Mk→(ae→Prop)→ae→Prop
 | [],K,h=>K h
 | .it D::ms,K,h=>h[D]? =some (.deferred (some []))∧MR P ms K (h.setIfInBounds D (.deferred none))
 | .call f vs::ms,K,h=>HD P f vs (fun b=>MR P ms K b) h
noncomputable def O3(P:Program)(fn:Func)(c:Code)(d:Ann)(args:List Value)(ks:List Kind)(K:uO ks→ae→Prop)(h:ae):Prop:=
 A2 P fn.ntmps c d
  (fun ms r b=>MR P ms (fun b=>oq P r b fn.results.toList fun vs=>Fy ks vs fun t=>K t b) b)
  (fun e ms r b=>match e with
   | .ret=>MR P ms (fun b=>oq P r b fn.results.toList fun vs=>Fy ks vs fun t=>K t b) b
   | .exit _=>False)
  [] (qv 0 args) h
end Go.Lift
namespace Go.Lift
open Go
theorem HJ(a:Addr):adr a 0=a:=rfl
theorem CP(a:Addr)(n:Nat):adr a (n+1)=⟨a.block,a.off+(n+1),none⟩:=rfl
theorem vH(a:Addr)(n:Nat):adr a n=a.add n:=by
 cases n with
 |zero=>simp[HJ,Addr.add]
 |succ n=>simp[CP,Addr.add]
theorem CQ(a:Addr)(m n:Nat):adr (adr a m) n=adr a (m+n):=by
 cases n with
 |zero=>rfl
 |succ n=>cases m with
  |zero=>simp[HJ]
  |succ m=>rw[CP,CP,show m+1+(n+1)=(m+1+n)+1 from rfl,CP];simp;omega
theorem Tame.refl(w:World):Tame w w:=⟨rfl,rfl,rfl⟩
theorem Tame.trans{a b c:World}(h:Tame a b)(k:Tame b c):Tame a c:=⟨k.os.trans h.os,k.tape.trans h.tape,k.output.trans h.output⟩
theorem Cy{a b:IntKind}(h:LF a b=true):a=b:=by cases a<;>cases b<;>first|rfl|cases h
theorem CK.dec_sound{c:CK}{v:Value}{f:c.den→Prop}(h:c.dec v f):∃x,v=c.enc x∧f x:=by
 cases c<;>cases v<;>try simp only[CK.dec]at h
 case int.int k k' n=>
  cases hk:LF k' k with
  |false=>rw[hk]at h;exact h.elim
  |true=>rw[hk]at h;have:=Cy hk;subst this;exact⟨n,rfl,h⟩
 case adr.pointer p=>cases p with
  |none=>exact h.elim
  |some a=>exact⟨a,rfl,h⟩
 all_goals first|exact h.elim|exact⟨_,rfl,h⟩
theorem EY:∀{cs:List CK} {vs:List Value} {f:V0 cs→Prop},Ra cs vs f→∃t,vs=Vx cs t∧f t
 | [],[],f,h=>⟨(),rfl,h⟩
 | [],_::_,f,h=>h.elim
 | [c],[v],f,h=>by obtain⟨x,rfl,b⟩:=CK.dec_sound h;exact⟨x,rfl,b⟩
 | [c],[],f,h=>h.elim
 | [c],_::_::_,f,h=>h.elim
 |c::d::cs,[],f,h=>h.elim
 |c::d::cs,[_],f,h=>h.elim
 |c::d::cs,v::u::vs,f,h=>by
  have e:c.dec v fun x=>Ra (d::cs) (u::vs) fun t=>f (x,t):=h
  obtain⟨x,hx,i⟩:=CK.dec_sound e;obtain⟨t,g,h2⟩:=EY (cs:=d::cs) (vs:=u::vs) i;exact⟨(x,t),by rw[g,hx];rfl,h2⟩
theorem Kind.dec_sound{k:Kind}{v:Value}{f:k.den→Prop}(h:k.dec v f):∃x,v=k.enc x∧f x:=by
 cases k with
 |c k=>exact CK.dec_sound h
 |agg cs=>
  cases v<;>simp only[Kind.dec]at h
  case agg vs=>
   obtain⟨t,d,b⟩:=EY h;exact⟨t,by simp only[Kind.enc,←d],b⟩
theorem tI:∀{ks:List Kind} {vs:List Value} {f:uO ks→Prop},Fy ks vs f→∃t,vs=na ks t∧f t
 | [],[],f,h=>⟨(),rfl,h⟩
 | [],_::_,f,h=>h.elim
 | [c],[v],f,h=>by obtain⟨x,rfl,b⟩:=Kind.dec_sound h;exact⟨x,rfl,b⟩
 | [c],[],f,h=>h.elim
 | [c],_::_::_,f,h=>h.elim
 |c::d::cs,[],f,h=>h.elim
 |c::d::cs,[_],f,h=>h.elim
 |c::d::cs,v::u::vs,f,h=>by
  have e:c.dec v fun x=>Fy (d::cs) (u::vs) fun t=>f (x,t):=h
  obtain⟨x,hx,i⟩:=Kind.dec_sound e;obtain⟨t,g,h2⟩:=tI (ks:=d::cs) (vs:=u::vs) i;exact⟨(x,t),by rw[g,hx];rfl,h2⟩
theorem uz:∀(ks:List Kind) (t:uO ks),(na ks t).length=ks.length
 | [],_=>rfl
 | [_],_=>rfl
 |_::l::ks,(_,t)=>by simp only[na,av,uz (l::ks) t]
structure Agree(N:Nat)(r:cY)(a:Act):Prop where
 size:a.tmps.size=N
 look:∀t v,kU r t=some v→a.tmps.getD t undef=v
theorem jh(k:Nat)(v:Value)(r:cY):kU ((k,v)::r) k=some v:=by rw[Gx,show aM k k=true from Nat.beq_refl k];rfl
theorem ia{k t:Nat}(v:Value)(r:cY)(h:k≠t):kU ((k,v)::r) t=kU r t:=by
 rw[Gx];have:aM k t=false:=Bool.eq_false_iff.2 fun e=>h (bG e)
 rw[this];rfl
theorem Agree.put{N:Nat}{r:cY}{a:Act}(h:Agree N r a)(d:Nat)(v:Value)(hd:d<N):Agree N ((d,v)::r) (a.put (some d) v):=by
 refine⟨by simp[Act.put,h.size],fun t u b=>?_⟩
 by_cases e:d=t
 ·subst e
  rw[jh]at b;cases b;simp[Act.put,h.size,hd]
 ·rw[ia v r e]at b
  have:=h.look t u b;simpa[Act.put,Array.getElem?_setIfInBounds_ne e]using this
theorem Agree.known{N:Nat}{r:cY}{a:Act}(h:Agree N r a){t:Nat}{v:Value}(hv:kU r t=some v):Agree N ((t,v)::r) a:=by
 refine⟨h.size,fun s u b=>?_⟩
 by_cases e:t=s
 ·subst e;rw[jh]at b;cases b;exact h.look t v hv
 ·rw[ia v r e]at b;exact h.look s u b
theorem kW{N:Nat}{r:cY}{a:Act}(h:Agree N r a){o:Operand}{v:Value}(hv:dQ r o=some v):a.eval o=v:=by
 cases o with
 |tmp t=>exact h.look t v hv
 |const c=>simp[dQ]at hv;subst hv;rfl
 |global g=>simp[dQ]at hv;subst hv;rfl
 |func f=>simp[dQ]at hv;subst hv;rfl
theorem mY{N:Nat}{r:cY}{a:Act}(h:Agree N r a):∀{os:List Operand} {vs:List Value},oz r os=some vs→os.map a.eval=vs
 | [],vs,hv=>by simp[oz]at hv;subst hv;rfl
 |o::os,vs,hv=>by
  simp only[oz]at hv;cases ho:dQ r o with
  |none=>simp[ho]at hv
  |some v=>cases hos:oz r os with
   |none=>simp[ho,hos]at hv
   |some us=>simp[ho,hos]at hv;subst hv;simp[kW h ho,mY h hos]
theorem aE{P:Program}{t:TypeId}{d:TypeDesc}(h:P.underlying t=some d)(w:World):(underlying t).run P w=.ok d w:=by
 simp only[underlying,program,bind,Sem.bind,ml,h,pure]
theorem dz{P:Program}{t:TypeId}{i:TypeInfo}(h:P.info? t=some i)(w:World):(typeInfo t).run P w=.ok i w:=by
 simp only[typeInfo,program,bind,Sem.bind,ml,h,pure]
theorem jp{P:Program}{s:Sem Value}{v:Value}{w w':World}(h:s.run P w=.ok v w'):(do pure (Next.value (←s)):Sem Next).run P w=.ok (.value v) w':=by
 simp[h]
theorem T0{P:Program}{s:Sem Unit}{w w':World}(h:s.run P w=.ok () w'):(do s;pure Next.skip:Sem Next).run P w=.ok .skip w':=by
 simp[h]
theorem Ca{P:Program}{w:World}{a:Addr}{v:Value}(h:bh w.heap a=some v):(load a).run P w=.ok v w:=by
 have b:w.cell? a=some v:=h;simp[b]
theorem CH{v:Value}{vs:List Value}{i:Nat}{a:Addr}{h:ae}:uL (v::vs) i a h↔bh h (adr a i)=some v∧uL vs (i+1) a h:=by
 cases vs with
 |nil=>simp[uL]
 |cons u us=>rfl
theorem uo{P:Program}{w:World}{a:Addr}:∀(vs:List Value) (i:Nat) (acc:Array Value),uL vs i a w.heap→
  (loadCellsFrom a i vs.length acc).run P w=.ok (acc++vs.toArray) w
 | [],i,acc,_=>by simp[loadCellsFrom]
 |v::vs,i,acc,h=>by
  obtain⟨b,h2⟩:=CH.1 h;rw[vH]at b;have:=uo (P:=P) (w:=w) (a:=a) vs (i+1) (acc.push v) h2;simp only[av,loadCellsFrom,bf,Ca b,aF,this];simp
theorem Ix{P:Program}{w:World}{a:Addr}{vs:List Value}(h:uL vs 0 a w.heap):(loadCells a vs.length).run P w=.ok vs.toArray w:=by
 have:=uo (P:=P) (w:=w) (a:=a) vs 0 #[] h;simpa[loadCells]using this
theorem Av:∀(cs:List CK) (i:Nat) (a:Addr) (h:ae) (k:List Value→Prop),LO cs i a h k→∃vs,vs.length=cs.length∧uL vs i a h∧k vs
 | [],i,a,h,k,b=>⟨[],rfl,trivial,b⟩
 |c::cs,i,a,h,k,b=>by
  obtain⟨x,hx,b⟩:=b;obtain⟨vs,d,hc,b⟩:=Av cs (i+1) a h _ b;exact⟨c.enc x::vs,by simp[d],CH.2 ⟨hx,hc⟩,b⟩
theorem CG:∀{vs:List Value} {cs:List CK},Hw vs=some cs→cs.length=vs.length
 | [],cs,h=>by simp[Hw]at h;subst h;rfl
 |v::vs,cs,h=>by
  simp only[Hw]at h;cases h1:Y0 v with
  |none=>simp[h1]at h
  |some c=>cases h2:Hw vs with
   |none=>simp[h1,h2]at h
   |some ds=>simp[h1,h2]at h;subst h;simp[CG h2]
def VV(P:Program)(t:TypeId)(i:TypeInfo):Kind→Prop
 | .c _=>xt P t=false
 | .agg cs=>xt P t=true∧i.size=cs.length
theorem PN{P:Program}{t:TypeId}{k:Kind}(h:QW P t=some k):∃i,P.info? t=some i∧VV P t i k:=by
 unfold QW An at h;cases hi:P.info? t with
 |none=>simp[hi]at h
 |some i=>
  refine⟨i,rfl,?_⟩;cases hz:i.zero with
  |none=>simp[hi,hz]at h
  |some z=>
   rw[hi]at h;simp only[hz]at h;cases z;case agg vs=>
    simp only at h;cases hb:(xt P t&&aM vs.toList.length (cx P t))with
    |false=>rw[hb]at h;simp at h
    |true=>
     rw[hb]at h;simp only[cond_true]at h;simp only[Bool.and_eq_true]at hb;have b:=bG hb.2;cases hd:Hw vs.toList with
     |none=>rw[hd]at h;simp at h
     |some ds=>
      rw[hd]at h;simp only[bX.injEq]at h;subst h;exact⟨hb.1,by rw[CG hd,b];simp[cx,hi]⟩
   all_goals
    simp only at h;cases ha:xt P t
    ·rw[ha]at h
     simp only[cond_false]at h;split at h
     ·simp only[bX.injEq]at h;subst h;exact ha
     ·simp at h
    ·rw[ha]at h;simp at h
theorem PO{P:Program}{t:TypeId}{k:Kind}(h:G6 P t=some k):(∀w,(isAgg t).run P w=.ok (xt P t) w)∧QW P t=some k:=by
 unfold G6 at h;cases hu:P.underlying t with
 |none=>simp[hu]at h
 |some d=>
  simp only[hu]at h;refine⟨fun w=>?_,h⟩
  simp only[isAgg,bf,aE hu,aF];unfold xt;rw[hu];cases d<;>rfl
theorem EH{P:Program}{t:TypeId}{v:Value}{K:RK}{h:ae}(d:M5 P t v K h):
  ∃u S,K u (some S)∧S h∧∀w:World,S w.heap→(Instr.loadAt t v).run P w=.ok u w:=by
 unfold M5 at d;cases v with
 |pointer p=>
  cases p with
  |none=>exact d.elim
  |some a=>
   simp only at d;cases hk:G6 P t with
   |none=>simp[hk]at d
   |some k=>
    obtain⟨b,g⟩:=PO hk;obtain⟨i,hi,hc⟩:=PN g;rw[hk]at d;cases k with
    |c c=>
     obtain⟨x,hx,m⟩:=d;refine⟨_,_,m,hx,fun w j=>?_⟩
     have hc:xt P t=false:=hc;simp only[Instr.loadAt,mU,loadVar,bf,cd,aF,b,hc];simp[Ca j]
    |agg cs=>
     obtain⟨vs,e,f,m⟩:=Av cs 0 a h _ d;obtain⟨n,h2⟩:xt P t=true∧i.size=cs.length:=hc;refine⟨_,_,m,f,fun w j=>?_⟩
     have g:(sizeOf t).run P w=.ok vs.length w:=by simp[sizeOf,dz hi,h2,e]
     simp only[Instr.loadAt,mU,loadVar,bf,cd,aF,b,n];simp[g,Ix j]
 |_=>exact d.elim
end Go.Lift
