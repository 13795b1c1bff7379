/- A part of the proof that the named laws of this program answer true, whatever the input. -/
import Derived.OrdersIn
import Derived.Below
import Derived.WalkKit
import Derived.RangeFuncRecord
import Derived.DefersIn
open BitVec renaming ofInt→aA
open Go.Instr renaming sureAddr→lP
open Go.Op renaming bytesLess→bI
open Go.Result renaming andThen_ok→aC
open Go.Sem renaming run→mg,run_bind→aZ,run_pure→bV
open Iff renaming rfl→rv
open List renaming rec→eI,replicate→fh,length_cons→au
open Nat renaming succ→eR,beq→aJ,ble→vU,min→dh,blt→yf,land→ja,lor→cO,pred→xL,eq_of_beq_eq_true→bo
open Option renaming some→bK
namespace Go.Lift
abbrev ad:=Array Obj
def aK(h:ad)(a:Addr):Option Value:=
 match h[a.block]? with
 |some (.cells c _ _)=>if a.spot.isSome then none else c[a.off]?
 |_=>none
def Er(h:ad)(a:Addr):Bool:=
 match h[a.block]? with
 |some (.cells _ _ (lo,hi))=>lo≤a.off&&a.off<hi
 |_=>false
def hset(h:ad)(a:Addr)(v:Value):ad:=
 h.modify a.block fun
  | .cells c elem frozen=>.cells (if a.spot.isSome then c else c.setIfInBounds a.off v) elem frozen
  |o=>o
noncomputable def adr(a:Addr)(n:Nat):Addr:=Nat.rec (motive:=fun _=>Addr) a (fun n _=>⟨a.block,a.off+eR n,none⟩) n
def Wr(h:ad)(a:Addr):Prop:=(∃v,aK h a=some v)∧Er h a=false
structure Tame(w w':World):Prop where
 os:w'.os=w.os
 tape:w'.tape=w.tape
 output:w'.output=w.output
structure SliceV where
 a:Option Addr
 len:Nat
 cap:Nat
def JM:IntKind→IntKind→Bool
 | .i8,.i8=>true| .i16,.i16=>true| .i32,.i32=>true| .i64,.i64=>true
 | .u8,.u8=>true| .u16,.u16=>true| .u32,.u32=>true| .u64,.u64=>true
 |_,_=>false
inductive CK where
 |int (k:IntKind)|bool|str|ptr|slice|map|chan|raw|adr
def CK.den:CK→Type
 | .int _=>Int| .bool=>Bool| .str=>ByteArray| .ptr=>Option Addr| .slice=>SliceV| .map=>Option Nat| .chan=>Option Nat| .raw=>Value| .adr=>Addr
def CK.enc:(c:CK)→c.den→Value
 | .int k,n=>.int k n
 | .bool,b=>.bool b
 | .str,s=>.string s
 | .ptr,p=>.pointer p
 | .slice,s=>.slice s.a s.len s.cap
 | .map,r=>.map r
 | .chan,r=>.chan r
 | .raw,v=>v
 | .adr,a=>.pointer (some a)
def CK.dec:(c:CK)→Value→(c.den→Prop)→Prop
 | .int k,.int k' n,f=>bif JM k' k then f n else False
 | .bool,.bool b,f=>f b
 | .str,.string s,f=>f s
 | .ptr,.pointer p,f=>f p
 | .slice,.slice a l c,f=>f ⟨a,l,c⟩
 | .map,.map r,f=>f r
 | .chan,.chan r,f=>f r
 | .raw,v,f=>f v
 | .adr,.pointer (some a),f=>f a
 |_,_,_=>False
def TX:List CK→Type
 | []=>Unit
 | [c]=>c.den
 |c::d::cs=>c.den×TX (d::cs)
def Ty:(cs:List CK)→TX cs→List Value
 | [],_=> []
 | [c],x=> [c.enc x]
 |c::d::cs,(x,t)=>c.enc x::Ty (d::cs) t
def PP:(cs:List CK)→List Value→(TX cs→Prop)→Prop
 | [],[],f=>f ()
 | [c],[v],f=>c.dec v f
 |c::d::cs,v::u::vs,f=>c.dec v fun x=>PP (d::cs) (u::vs) fun t=>f (x,t)
 |_,_,_=>False
inductive Kind where
 |c (k:CK)
 |agg (cs:List CK)
def Kind.den:Kind→Type
 | .c k=>k.den
 | .agg cs=>TX cs
def Kind.enc:(k:Kind)→k.den→Value
 | .c k,x=>k.enc x
 | .agg cs,t=>.agg (Ty cs t).toArray
def Kind.dec:(k:Kind)→Value→(k.den→Prop)→Prop
 | .c k,v,f=>k.dec v f
 | .agg cs,.agg vs,f=>PP cs vs.toList f
 |_,_,_=>False
def sW:List Kind→Type
 | []=>Unit
 | [k]=>k.den
 |k::l::ks=>k.den×sW (l::ks)
def lZ:(ks:List Kind)→sW ks→List Value
 | [],_=> []
 | [k],x=> [k.enc x]
 |k::l::ks,(x,t)=>k.enc x::lZ (l::ks) t
def DT:(ks:List Kind)→List Value→(sW ks→Prop)→Prop
 | [],[],f=>f ()
 | [k],[v],f=>k.dec v f
 |k::l::ks,v::u::vs,f=>k.dec v fun x=>DT (l::ks) (u::vs) fun t=>f (x,t)
 |_,_,_=>False
def BS(ks:List Kind)(vs:List Value):Value:=
 match ks,vs with
 | [_],[v]=>v
 |_,vs=>.tuple vs.toArray
def WC:Value→Option CK
 | .int k _=>some (.int k)
 | .bool _=>some .bool
 | .string _=>some .str
 | .pointer _=>some .ptr
 | .slice .. =>some .slice
 | .map _=>some .map
 | .chan _=>some .chan
 | .nilFunc=>some .raw
 | .nilIface=>some .raw
 |_=>none
def FY:List Value→Option (List CK)
 | []=>some []
 |v::vs=>match WC v,FY vs with
  |some c,some cs=>some (c::cs)
  |_,_=>none
def vM(P:Program)(t:TypeId):Bool:=
 match P.underlying t with
 |some (.struct _)|some (.array _ _)=>true
 |_=>false
def cq(P:Program)(t:TypeId):Nat:=match P.info? t with|some i=>i.size|none=>0
def qr(P:Program)(t:TypeId):Nat:=match P.info? t with|some i=>i.bytes|none=>0
def yp(P:Program)(t:TypeId):Option Value:=match P.info? t with|some i=>i.zero|none=>none
def Py(P:Program)(t:TypeId):Option Kind:=
 match yp P t with
 |some (.agg vs)=>bif vM P t&&aJ vs.toList.length (cq P t)then(match FY vs.toList with|some cs=>some (.agg cs)|none=>none)else none
 |some v=>bif vM P t then none else(match WC v with|some c=>some (.c c)|none=>none)
 |none=>none
def Fw(P:Program)(t:TypeId):Option Kind:=
 match P.underlying t with
 |none=>none
 |some _=>Py P t
structure HC(P:Program)(f:FuncId)(args:List Value)(ks:List Kind)(K:sW ks→ad→Prop)(h:ad):Prop where
 run:∀w:World,w.heap=h→
  ((callFunc f args.toArray).run P w=.ok (.enter f args.toArray) w∧
   Calls P f args.toArray w fun e w'=>Tame w w'∧∃t:sW ks,e=.returned (BS ks (lZ ks t))∧K t w'.heap)∨
  (∃v w',(callFunc f args.toArray).run P w=.ok (.value v) w'∧Tame w w'∧∃t:sW ks,v=BS ks (lZ ks t)∧K t w'.heap)
structure HE(P:Program)(f:FuncId)(args:List Value)(ks:List Kind)(K:sW ks→ad→Prop)(h:ad):Prop where
 run:∀w:World,w.heap=h→(∀(args:Array Value) (w:World),(callFunc f args).run P w=.ok (.enter f args) w)∧
  Calls P f args.toArray w fun e w'=>Tame w w'∧∃t:sW ks,e=.returned (BS ks (lZ ks t))∧K t w'.heap
theorem HE.hc{P:Program}{f:FuncId}{args:List Value}{ks:List Kind}{K:sW ks→ad→Prop}{h:ad}(e:HE P f args ks K h):HC P f args ks K h:=
 ⟨fun w a=>.inl ⟨(e.run w a).1 _ w,(e.run w a).2⟩⟩
structure HY(P:Program)(l:Nat)(args:List Value)(K:Bool→ad→Prop)(h:ad):Prop where
 run:∀w:World,w.heap=h→∃fn tmps assign body,(Instr.yield l args.toArray).run P w=.ok (.round l fn tmps assign body) w∧
  ∀(c:Frame) (cs:List Frame),∃b w',Tame w w'∧K b w'.heap∧Steps P (lone (Frame.round l fn tmps assign body .normal) (c::cs) w) (lone (c.finish (.bool b)) cs w')
structure HV(P:Program)(fv:Value)(args:List Value)(ks:List Kind)(K:sW ks→ad→Prop)(h:ad):Prop where
 run:(∃f first cap,fv=.func (.func f) first cap∧HC P f (first.toList++args++cap.toList) ks K h)∨
  (∃l,fv=.func (.yield l) #[] #[]∧HY P l args (fun b h'=>DT ks [.bool b] fun t=>K t h') h)
noncomputable def CondP(b:Bool)(t e:Prop):Prop:=Bool.rec (motive:=fun _=>Prop) e t b
theorem CondP.yes{b:Bool}{t e:Prop}(h:CondP b t e)(hb:b=true):t:=by subst hb;exact h
theorem CondP.no{b:Bool}{t e:Prop}(h:CondP b t e)(hb:b=false):e:=by subst hb;exact h
theorem CondP.intro{b:Bool}{t e:Prop}(c:b=true→t)(a:b=false→e):CondP b t e:=by cases b;exact a rfl;exact c rfl
theorem aw{t e:Prop}:CondP true t e↔t:=rv
theorem ag{t e:Prop}:CondP false t e↔e:=rv
attribute [irreducible] CondP
def At(h:ad)(k:ad→Prop):Prop:=k h
def Bd{T:Type}(x:T)(k:T→Prop):Prop:=k x
structure Join{T:Type}(rest:T→ad→Prop)(k:(T→ad→Prop)→Prop):Prop where
 run:k rest
structure LoopP{T:Type}(F:(T→ad→Prop)→T→ad→Prop)(t:T)(h:ad):Prop where
 run:∀I:T→ad→Prop,(∀t h,F I t h→I t h)→I t h
abbrev cG:=List (Nat×Value)
noncomputable def jF(r:cG)(t:Nat):Option Value:=
 eI (motive:=fun _=>Option Value) none (fun a _ b=>bif aJ a.1 t then some a.2 else b) r
theorem E3(k:Nat)(v:Value)(r:cG)(t:Nat):jF ((k,v)::r) t=bif aJ k t then some v else jF r t:=rfl
noncomputable def cR(r:cG):Operand→Option Value
 | .tmp t=>jF r t
 | .const v=>some v
 | .global g=>some (.pointer (some ⟨g,0,none⟩))
 | .func f=>some (.func (.func f) #[] #[])
noncomputable def nr(r:cG):List Operand→Option (List Value)
 | []=>some []
 |o::os=>match cR r o,nr r os with
  |some v,some vs=>some (v::vs)
  |_,_=>none
noncomputable def JU:List CK→Nat→Addr→ad→(List Value→Prop)→Prop
 | [],_,_,_,k=>k []
 |c::cs,i,a,h,k=>∃x:c.den,aK h (adr a i)=some (c.enc x)∧JU cs (i+1) a h fun vs=>k (c.enc x::vs)
noncomputable def tB:List Value→Nat→Addr→ad→Prop
 | [],_,_,_=>True
 | [v],i,a,h=>aK h (adr a i)=some v
 |v::u::vs,i,a,h=>aK h (adr a i)=some v∧tB (u::vs) (i+1) a h
abbrev RK:=Value→Option (ad→Prop)→Prop
noncomputable def Ln(P:Program)(t:TypeId)(v:Value)(K:RK)(h:ad):Prop:=
 match v with
 | .pointer (some a)=>
  match Fw P t with
  |some (.c c)=>∃x:c.den,aK h a=some (c.enc x)∧K (c.enc x) (some fun h'=>aK h' a=some (c.enc x))
  |some (.agg cs)=>JU cs 0 a h fun vs=>K (.agg vs.toArray) (some fun h'=>tB vs 0 a h')
  |none=>False
 |_=>False
def xm(P:Program)(t:TypeId)(f:Nat):Option (TypeId×Nat):=
 match P.underlying t with
 |some (.struct fs)=>match fs.toList[f]? with
  |some g=>some (g.type,g.offset)
  |none=>none
 |_=>none
def wh(P:Program)(t:TypeId):Option TypeId:=
 match P.underlying t with
 |some (.slice e)=>some e
 |_=>none
def M9(c:BinOp)(k:IntKind)(a b:Int)(K:RK):Prop:=
 match c with
 | .shl=>0≤b∧K (.int k (k.wrap (a*2^(min b.toNat k.bits)))) none
 | .shr=>0≤b∧K (.int k (a.fdiv (2^(min b.toNat k.bits)))) none
 |_=>False
def Wp(c:BinOp)(k:IntKind)(a b:Int)(K:RK):Prop:=
 match c with
 | .add=>K (.int k (k.wrap (a+b))) none
 | .sub=>K (.int k (k.wrap (a-b))) none
 | .mul=>K (.int k (k.wrap (a*b))) none
 | .quo=>b≠0∧K (.int k (k.wrap (a.tdiv b))) none
 | .rem=>b≠0∧K (.int k (a.tmod b)) none
 | .and=>K (.int k (k.wrap (aA k.bits a&&&aA k.bits b).toNat)) none
 | .or=>K (.int k (k.wrap (aA k.bits a|||aA k.bits b).toNat)) none
 | .xor=>K (.int k (k.wrap (aA k.bits a^^^aA k.bits b).toNat)) none
 | .andNot=>K (.int k (k.wrap (aA k.bits a&&& ~~~aA k.bits b).toNat)) none
 | .eql=>K (.bool (a==b)) none
 | .neq=>K (.bool (a !=b)) none
 | .lss=>K (.bool (decide (a<b))) none
 | .leq=>K (.bool (decide (a≤b))) none
 | .gtr=>K (.bool (decide (a>b))) none
 | .geq=>K (.bool (decide (a≥b))) none
 |_=>False
def V6(c:BinOp)(a b:ByteArray)(K:RK):Prop:=
 match c with
 | .add=>((a.size+b.size:Nat):Int)≤9223372036854775807∧K (.string (a++b)) none
 | .eql=>K (.bool (a.toList==b.toList)) none
 | .neq=>K (.bool (!(a.toList==b.toList))) none
 | .lss=>K (.bool (bI a.toList b.toList)) none
 | .leq=>K (.bool (bI a.toList b.toList||a.toList==b.toList)) none
 | .gtr=>K (.bool (!(bI a.toList b.toList||a.toList==b.toList))) none
 | .geq=>K (.bool (!(bI a.toList b.toList))) none
 |_=>False
def eE(h:ad)(a:Addr):Prop:=(∃c e,h[a.block]? =some (.cells c e (0,0))∧0<c.size)
def XI:Value→Bool
 | .func _ _ _=>true
 | .nilFunc=>true
 |_=>false
def Xm:Value→Bool
 | .nilFunc=>true
 |_=>false
def XH:Value→Bool
 | .iface _ _=>true
 | .nilIface=>true
 |_=>false
def Xl:Value→Bool
 | .nilIface=>true
 |_=>false
def UN(P:Program)(t:TypeId)(neg:Bool)(x y:Value)(K:RK):Prop:=
 match P.underlying t,x,y with
 |some (.pointer _),.pointer a,.pointer none=>K (.bool (bif neg then !a.isNone else a.isNone)) none
 |some (.map _ _),.map a,.map none=>K (.bool (bif neg then !a.isNone else a.isNone)) none
 |some (.slice _),.slice a _ _,.slice none _ _=>K (.bool (bif neg then !a.isNone else a.isNone)) none
 |some (.func _ _ _),x,.nilFunc=>XI x=true∧K (.bool (bif neg then !(Xm x)else Xm x)) none
 |some (.interface _),x,.nilIface=>XH x=true∧K (.bool (bif neg then !(Xl x)else Xl x)) none
 |_,_,_=>False
def SN:Operand→Bool
 | .const (.pointer none)=>true
 | .const (.map none)=>true
 | .const (.slice none 0 0)=>true
 | .const .nilFunc=>true
 | .const .nilIface=>true
 |_=>false
def Yb(P:Program)(t:TypeId)(neg:Bool)(x y:Value)(K:RK)(h:ad):Prop:=
 match P.underlying t,x,y with
 |some .bool,.bool a,.bool b=>K (.bool (bif neg then !(a==b)else a==b)) none
 |some (.pointer e),.pointer a,.pointer b=>
  (bif aJ (cq P e) 0 then False else True)∧
  (∀x y,a=some x→b=some y→eE h x∧eE h y)∧
  K (.bool (bif neg then !(a==b)else a==b)) (some fun h'=>∀x y,a=some x→b=some y→eE h' x∧eE h' y)
 |_,_,_=>False
def UG(P:Program)(c:BinOp)(t:TypeId)(x y:Value)(K:RK)(h:ad):Prop:=
 match x,y with
 | .int k a,.int k' b=>
  match c with
  | .shl=>M9 .shl k a b K
  | .shr=>M9 .shr k a b K
  |c=>bif JM k' k then Wp c k a b K else False
 | .string a,.string b=>V6 c a b K
 |x,y=>match c with
  | .eql=>Yb P t false x y K h
  | .neq=>Yb P t true x y K h
  |_=>False
def rH(h:ad):List (Option Addr×Option Addr)→Prop
 | []=>True
 |(a,b)::l=>(∀x y,a=some x→b=some y→eE h x∧eE h y)∧rH h l
def Tg(P:Program)(t:TypeId)(x y:Value):Option (Bool×List (Option Addr×Option Addr)):=
 match P.underlying t,x,y with
 |some (.int _),.int k a,.int k' b=>bif JM k' k then some (a==b,[])else none
 |some .bool,.bool a,.bool b=>some (a==b,[])
 |some .string,.string a,.string b=>some (a.toList==b.toList,[])
 |some (.pointer e),.pointer a,.pointer b=>bif aJ (cq P e) 0 then none else some (a==b,[(a,b)])
 |_,_,_=>none
def Vc(P:Program)(rec:TypeId→List Value→List Value→Option (Bool×List (Option Addr×Option Addr)))(xs ys:List Value):List Field→Option (Bool×List (Option Addr×Option Addr))
 | []=>some (true,[])
 |f::fs=>
  if f.name= "_" then none else
  bif (P.underlying f.type).isSome&&(P.info? f.type).isSome then
   match(bif vM P f.type then rec f.type ((xs.drop f.offset).take (cq P f.type)) ((ys.drop f.offset).take (cq P f.type))
    else match xs[f.offset]?,ys[f.offset]? with|some x,some y=>Tg P f.type x y|_,_=>none),Vc P rec xs ys fs with
   |some (b,l),some (c,m)=>some (b&&c,l++m)
   |_,_=>none
  else none
def Th(P:Program):Nat→TypeId→List Value→List Value→Option (Bool×List (Option Addr×Option Addr))
 |0,_,_,_=>none
 |d+1,t,xs,ys=>match P.underlying t with
  |some (.struct fs)=>bif P.stoodInHeld t then none else Vc P (Th P d) xs ys fs.toList
  |_=>none
def YL(neg b:Bool)(K:RK)(h:ad):List (Option Addr×Option Addr)→Prop
 | []=>K (.bool (bif neg then !b else b)) none
 |p::l=>rH h (p::l)∧K (.bool (bif neg then !b else b)) (some fun h'=>rH h' (p::l))
def Wd(P:Program)(a:BinOp)(t:TypeId)(xs ys:List Value)(K:RK)(h:ad):Prop:=
 bif P.eqGuardType P.depth t then False else
 match a with
 | .eql=>(match Th P 10 t xs ys with|some (b,l)=>YL false b K h l|none=>False)
 | .neq=>(match Th P 10 t xs ys with|some (b,l)=>YL true b K h l|none=>False)
 |_=>False
def Ys(a:UnOp)(x:Value)(K:RK):Prop:=
 match a,x with
 | .neg,.int k n=>K (.int k (k.wrap (0-n))) none
 | .xor,.int k n=>K (.int k (k.wrap (aA k.bits (if k.signed then-1 else k.max)^^^aA k.bits n).toNat)) none
 | .not,.bool b=>K (.bool (!b)) none
 |_,_=>False
def dB(s:ByteArray):List Value:=s.data.toList.map fun b=>.int .u8 b.toNat
noncomputable def Row(h:ad)(a:Addr)(vs:List Value):Prop:=∀i v,vs[i]? =some v→aK h (adr a i)=some v
noncomputable def SRow(h:ad)(a:Option Addr)(n:Nat)(vs:List Value):Prop:=vs.length=n∧(vs= []∨∃b,a=some b∧Row h b vs)
def NQ(P:Program)(e:TypeId):Bool:=match P.underlying e with|some (.int .u8)=>true|_=>false
def Wo(P:Program)(s d:TypeId):Bool:=
 match P.underlying s,P.underlying d with
 |some .string,some (.slice e)=>NQ P e
 |_,_=>false
def ByP(e:TypeId)(s:ByteArray)(h:ad)(K:Nat→ad→Prop):Prop:=
 ∀c,s.size≤c→K c (h.push (.cells (dB s++fh (c-s.size) (Value.int .u8 0)).toArray e (c,c+1)))
noncomputable def Sg(P:Program)(b c:TypeId)(x:Value)(K:RK)(h:ad):Prop:=
 match P.underlying b,P.underlying c,x with
 |some (.int _),some (.int k),.int _ n=>K (.int k (k.wrap n)) none
 |some .string,some .string,.string s=>K (.string s) none
 |some (.slice e),some .string,.slice a n _=>bif NQ P e then∃s:ByteArray,SRow h a n (dB s)∧K (.string s) (some fun h'=>SRow h' a n (dB s))else False
 |_,_,_=>False
def TC(v:Option Value)(d y:Nat)(K:Nat→Prop):Prop:=
 match v with
 |none=>K d
 |some (.int _ i)=>(0≤i∧i≤y)∧K i.toNat
 |_=>False
noncomputable def aV(a:Option Addr)(l m size:Nat):Option Addr:=if m=l then a else a.map (adr · (l*size))
def Sw(P:Program)(t:TypeId)(K:Prop):Prop:=match P.info? t with|some _=>K|none=>False
noncomputable def Np(P:Program)(t:TypeId)(x:Value)(lo hi b:Option Value)(K:RK):Prop:=
 match P.underlying t,x with
 |some .string,.string s=>match b with
  |some _=>False
  |none=>TC hi s.size s.size fun h=>TC lo 0 h fun l=>K (.string (s.extract l h)) none
 |some (.slice e),.slice a len cap=>Sw P e (
  match b with
  |none=>TC hi len cap fun h=>TC lo 0 h fun l=>K (.slice (aV a l cap (cq P e)) (h-l) (cap-l)) none
  |some m=>match hi with
   |none=>False
   |some hi=>TC (some m) 0 cap fun m=>TC (some hi) 0 m fun h=>TC lo 0 h fun l=>K (.slice (aV a l m (cq P e)) (h-l) (m-l)) none)
 |some (.array n e),.pointer (some a)=>Sw P e (
  match b with
  |none=>TC hi n n fun h=>TC lo 0 h fun l=>K (.slice (aV (some a) l n (cq P e)) (h-l) (n-l)) none
  |some _=>False)
 |_,_=>False
noncomputable def HN(r:cG):Option Operand→Option (Option Value)
 |none=>some none
 |some o=>match cR r o with
  |some v=>some (some v)
  |none=>none
noncomputable def za(P:Program)(t:TypeId)(x i:Value)(K:RK):Prop:=
 match P.underlying t,x,i with
 |some (.array n e),.pointer (some a),.int _ i=>Sw P e ((0≤i∧i<n)∧K (.pointer (some (adr a (i.toNat*cq P e)))) none)
 |some (.slice e),.slice b len _,.int _ i=>Sw P e ((0≤i∧i<len)∧∃a,b=some a∧K (.pointer (some (adr a (i.toNat*cq P e)))) none)
 |_,_,_=>False
def Ns(P:Program)(t:TypeId)(x i:Value)(K:RK):Prop:=
 match P.underlying t,x,i with
 |some .string,.string s,.int _ i=>∃b:UInt8,0≤i∧s[i.toNat]? =some b∧K (.int .u8 b.toNat) none
 |_,_,_=>False
noncomputable def Nt(P:Program)(t:TypeId)(x:Value)(f:Nat)(K:RK):Prop:=
 match xm P t f,x with
 |some (u,off),.agg cs=>bif (P.underlying u).isSome&&(P.info? u).isSome then(bif vM P u then K (.agg ((cs.toList.drop off).take (cq P u)).toArray) none
  else(match cs.toList[off]? with|some v=>K v none|none=>False))else False
 |_,_=>False
def VH(c a b:Value)(K:RK):Prop:=
 match c with
 | .bool c=>(match a,b with
  | .bool x,.bool y=>K (.bool (bif c then x else y)) none
  |_,_=>(match c with|true=>K a none|false=>K b none))
 |_=>False
def fa:Value→Value→Bool
 | .int _ a,.int _ b=>a==b
 | .string a,.string b=>a==b
 | .bool a,.bool b=>a==b
 |_,_=>false
def FH(k:Value):List MapEntry→Option Value
 | []=>none
 |e::es=>if fa k e.key then some e.val else FH k es
def keysOf(c:CK)(es:List MapEntry):Prop:=∀e∈es,∃x:c.den,e.key=c.enc x
def jv(c:CK)(z:Value)(h:ad)(m:Option Nat)(k v:Value)(ok:Bool):Prop:=
 match m with
 |none=>v=z∧ok=false
 |some r=>∃es clock,h[r]? =some (.map es clock)∧keysOf c es.toList∧
  (match FH k es.toList with|some u=>v=u∧ok=true|none=>v=z∧ok=false)
def LQ(P:Program)(t:TypeId):Option (CK×TypeId):=
 match P.underlying t with
 |some (.map k e)=>match P.underlying k with
  |some (.int i)=>some (.int i,e)
  |some .string=>some (.str,e)
  |some .bool=>some (.bool,e)
  |_=>none
 |_=>none
def Ju(P:Program)(t:TypeId)(x k:Value)(ok:Bool)(K:RK)(h:ad):Prop:=
 match LQ P t,x with
 |some (c,e),.map m=>c.dec k fun _=>
  (match Fw P e,yp P e with
   |some ek,some z=>∃(y:ek.den) (b:Bool),jv c z h m k (ek.enc y) b∧
    K (bif ok then .tuple #[ek.enc y,.bool b]else ek.enc y) (some fun h'=>jv c z h' m k (ek.enc y) b)
   |_,_=>False)
 |_,_=>False
def Gk(h:ad)(m:Option Nat)(n:Nat):Prop:=
 match m with
 |none=>n=0
 |some r=>∃es clock,h[r]? =some (.map es clock)∧n=es.size
def PV(c:Bool)(h:ad)(m:Option Nat)(n:Nat):Prop:=
 match m with
 |none=>n=0
 |some r=>∃cap buf cl s q,h[r]? =some (.chan cap buf cl s q false)∧n=bif c then cap else buf.size
def Wb(P:Program)(t:TypeId)(x:Value)(K:RK)(h:ad):Prop:=
 match P.underlying t,x with
 |some .string,.string s=>K (.int .i64 s.size) none
 |some (.array n _),_=>K (.int .i64 n) none
 |some (.slice _),.slice _ n _=>K (.int .i64 n) none
 |some (.map _ _),.map m=>∃n:Nat,Gk h m n∧K (.int .i64 n) (some fun h'=>Gk h' m n)
 |some (.chan _ _),.chan m=>∃n:Nat,PV false h m n∧K (.int .i64 n) (some fun h'=>PV false h' m n)
 |_,_=>False
def Wc(P:Program)(t:TypeId)(x:Value)(K:RK)(h:ad):Prop:=
 match P.underlying t,x with
 |some (.slice _),.slice _ _ n=>K (.int .i64 n) none
 |some (.chan _ _),.chan m=>∃n:Nat,PV true h m n∧K (.int .i64 n) (some fun h'=>PV true h' m n)
 |_,_=>False
def JF(c:Bool)(k:IntKind):Int→List Value→(Value→Prop)→Prop
 |a,[],f=>f (.int k a)
 |a,.int k' b::vs,f=>bif JM k' k then JF c k (bif c then(if b>a then b else a)else(if b<a then b else a)) vs f else False
 |_,_,_=>False
def El(b:Bool)(vs:List Value)(f:Value→Prop):Prop:=
 match vs with
 | .int k a::vs=>JF b k a vs f
 |_=>False
def vO(h:ad)(i:Nat)(e:MapEntry):Prop:=
 ∃m since seen last stamp es,h[i]? =some (.mapIter (some m) since seen last)∧seen.back? =some stamp∧h[m]? =some (.map es last)∧es.find? (fun e=>e.born==stamp)=some e
def pT(P:Program)(t:TypeId):Bool:=match P.underlying t with|some (.interface _)=>false|some _=>true|none=>false
def Pf(P:Program)(t:TypeId)(x:Value)(K:RK):Prop:=
 bif pT P t then(match Fw P t with
  |some k=>∃y:k.den,x=.iface t (k.enc y)∧K (k.enc y) none
  |none=>False)else False
def Lv(cs:List Value)(off:Nat)(vs:List Value):List Value:=cs.take off++vs++cs.drop (off+vs.length)
def CY(a:Nat→Option (Nat×Nat)):List Value→List (Nat×Value)→Option (List Value)
 |cs,[]=>some cs
 |cs,(i,v)::rest=>match a i with
  |none=>none
  |some (off,size)=>bif aJ v.cells.toList.length size&&vU (off+v.cells.toList.length) cs.length then CY a (Lv cs off v.cells.toList) rest else none
noncomputable def pS(r:cG):List (Nat×Operand)→Option (List (Nat×Value))
 | []=>some []
 |(i,o)::ps=>match cR r o,pS r ps with
  |some v,some vs=>some ((i,v)::vs)
  |_,_=>none
def qm(P:Program)(t:TypeId):Option (List Value):=match yp P t with|some z=>some z.cells.toList|none=>none
def cU(n:Nat)(z:List Value):List Value:=(fh n z).flatten
def xZ(P:Program)(t:TypeId):Bool:=match P.info? t with|some _=>true|none=>false
def AP(P:Program):List Field→Bool
 | []=>true
 |f::fs=>bif xZ P f.type then AP P fs else false
def Nz(P:Program)(a:List Field)(i:Nat):Option (Nat×Nat):=match a[i]? with|some f=>some (f.offset,cq P f.type)|none=>none
def Kb(P:Program)(t:TypeId)(a:List (Nat×Value)):Option (List Value):=
 match P.underlying t,qm P t with
 |some (.struct fs),some z=>bif AP P fs.toList then CY (Nz P fs.toList) z a else none
 |some (.array _ e),some z=>bif xZ P e then CY (fun i=>some (i*cq P e,cq P e)) z a else none
 |_,_=>none
def Nq(v:Value)(K:RK):Prop:=
 match v with
 | .slice a _ c=>(a=none∨c≠0)∧K (.pointer a) none
 |_=>False
noncomputable def BA(P:Program)(ek:Option (Kind×Kind))(o:Op)(r:cG)(K:RK)(h:ad):Prop:=
 match o with
 | .entry it=>match cR r it,ek with
  |some (.pointer (some a)),some (kk,vk)=>a.off=0∧∃(e:MapEntry) (x:kk.den) (y:vk.den),vO h a.block e∧e.key=kk.enc x∧e.val=vk.enc y∧
    K (.tuple #[kk.enc x,vk.enc y]) (some fun h'=>vO h' a.block e)
  |_,_=>False
 | .move x| .assign x=>match cR r x with|some v=>K v none|none=>False
 | .load t a=>match cR r a with|some v=>Ln P t v K h|none=>False
 | .nilCheck x=>match cR r x with|some (.pointer p)=>∃a,p=some a∧K (.pointer (some a)) none|_=>False
 | .binOp op t x y _=>match SN y,cR r x,cR r y with
  |true,some v,some u=>(match op with
   | .eql=>UN P t false v u K
   | .neq=>UN P t true v u K
   |op=>UG P op t v u K h)
  |false,some (.agg v),some (.agg u)=>Wd P op t v.toList u.toList K h
  |false,some v,some u=>UG P op t v u K h
  |_,_,_=>False
 | .unOp op _ x=>match cR r x with|some v=>Ys op v K|none=>False
 | .convert s d x=>match cR r x with|some v=>Sg P s d v K h|none=>False
 | .pick c a b=>match cR r c,cR r a,cR r b with|some c,some a,some b=>VH c a b K|_,_,_=>False
 | .extract x i=>match cR r x with
  |some (.tuple vs)=>(match vs.toList[i]? with|some v=>K v none|none=>False)
  |_=>False
 | .fieldAddr t x f=>match cR r x,xm P t f with
  |some (.pointer (some a)),some (u,off)=>bif aJ (cq P u) 0 then False else K (.pointer (some (adr a off))) none
  |_,_=>False
 | .field t x f=>match cR r x with|some v=>Nt P t v f K|none=>False
 | .indexAddr t x i=>match cR r x,cR r i with|some v,some u=>za P t v u K|_,_=>False
 | .index t x i=>match cR r x,cR r i with|some v,some u=>Ns P t v u K|_,_=>False
 | .slice t x lo hi mx=>match cR r x,HN r lo,HN r hi,HN r mx with
  |some v,some l,some h',some m=>Np P t v l h' m K
  |_,_,_,_=>False
 | .lookup t x k ok=>match cR r x,cR r k with|some v,some u=>Ju P t v u ok K h|_,_=>False
 | .makeInterface t x=>match cR r x with|some v=>bif pT P t then K (.iface t v) none else False|none=>False
 | .typeAssert x _ t ok=>match cR r x with|some v=>bif ok then False else Pf P t v K|none=>False
 | .build t ps=>match pS r ps.toList with
  |some vs=>(match Kb P t vs with|some cs=>K (.agg cs.toArray) none|none=>False)
  |none=>False
 | .makeFunc fn first cap=>match nr r first.toList,nr r cap.toList with
  |some vs,some us=>K (.func fn vs.toArray us.toArray) none
  |_,_=>False
 | .call c=>match c.callee,nr r c.args.toList,c.argTypes.toList with
  | .builtin .len,some [v],[t]=>Wb P t v K h
  | .builtin .cap,some [v],[t]=>Wc P t v K h
  | .builtin .min,some vs,_=>El false vs fun v=>K v none
  | .builtin .max,some vs,_=>El true vs fun v=>K v none
  | .builtin .unsafeSliceData,some [v],_=>Nq v K
  |_,_,_=>False
 |_=>False
abbrev WK:=Value→ad→Prop
def aL(h:ad):Addr:=⟨h.size,0,none⟩
def hnew(h:ad)(cs:List Value)(t:TypeId):ad:=h.push (.cells cs.toArray t (0,0))
def cx:List Value→Bool
 | []=>true
 |v::vs=>(match v with| .agg _=>false| .tuple _=>false|_=>true)&&cx vs
noncomputable def eN(h:ad)(a:Addr):Nat→List Value→ad
 |_,[]=>h
 |i,v::vs=>eN (hset h (adr a i) v) a (i+1) vs
noncomputable def eG(h:ad)(a:Option Addr)(i:Nat)(vs:List Value):ad:=match a with|some a=>eN h a i vs|none=>h
noncomputable def pk(h:ad)(a:Option Addr)(i:Nat)(vs:List Value):Prop:=vs= []∨∃b,a=some b∧∀j,j<vs.length→Wr h (adr b (i+j))
noncomputable def MR(P:Program)(t:TypeId)(a v:Value)(K:WK)(h:ad):Prop:=
 match a with
 | .pointer (some a)=>bif aJ v.cells.toList.length (cq P t)&&cx v.cells.toList then Sw P t
   (match v.cells.toList with
    | [v]=>Wr h a∧K undef (hset h a v)
    |vs=>pk h (some a) 0 vs∧K undef (eN h a 0 vs))
  else False
 |_=>False
noncomputable def TK(P:Program)(e:TypeId)(base:Option Addr)(sl b a:Nat)(xs:List Value)(K:WK)(h:ad):Prop:=
 (sl+a≤b→pk h base (sl*cq P e) xs∧cx xs=true∧K (.slice base (sl+a) b) (eG h base (sl*cq P e) xs))∧
 (b<sl+a→∃old z,SRow h base (sl*cq P e) old∧qm P e=some z∧0<qr P e∧Builtin.nextslicecap (sl+a) b*qr P e≤2^48∧
  ∀nc,sl+a≤nc→K (.slice (some (aL h)) (sl+a) nc) (hnew h (old++xs++cU (nc-(sl+a)) z) e))
noncomputable def Ee(P:Program)(t:TypeId)(s x:Value)(K:WK)(h:ad):Prop:=
 match wh P t,s,x with
 |some e,.slice b sl sc,.slice a xl _=>Sw P e (∃xs,SRow h a (xl*cq P e) xs∧TK P e b sl sc xl xs K h)
 |some e,.slice b sl sc,.string x=>bif aJ (cq P e) 1 then TK P e b sl sc x.size (dB x) K h else False
 |_,_,_=>False
noncomputable def EJ(P:Program)(t:TypeId)(s x:Value)(K:WK)(h:ad):Prop:=
 match wh P t,s,x with
 |some e,.slice b sl sc,.int _ l=>(match qm P e with
  |some z=>bif aJ z.length (cq P e)then(0≤l∧l*qr P e≤2^48∧l≤9223372036854775807∧((sl+l.toNat:Nat):Int)≤9223372036854775807)∧TK P e b sl sc l.toNat (cU l.toNat z) K h else False
  |none=>False)
 |_,_,_=>False
noncomputable def MU(P:Program)(t:TypeId)(x:Value)(K:WK)(h:ad):Prop:=
 match wh P t,x with
 |some e,.slice a n _=>(match qm P e with
  |some z=>bif cx z then pk h a 0 (cU n z)∧K (.tuple #[]) (eG h a 0 (cU n z))else False
  |none=>False)
 |_,_=>False
noncomputable def RC(P:Program)(t:TypeId)(d s:Value)(K:WK)(h:ad):Prop:=
 match wh P t,d,s with
 |some e,.slice b dl _,.slice a sl _=>Sw P e (∃xs,SRow h a (dh sl dl*cq P e) xs∧pk h b 0 xs∧cx xs=true∧K (.int .i64 (dh sl dl)) (eG h b 0 xs))
 |some e,.slice b dl _,.string x=>bif aJ (cq P e) 1 then pk h b 0 ((dB x).take dl)∧K (.int .i64 (dh x.size dl)) (eG h b 0 ((dB x).take dl))else False
 |_,_,_=>False
def Jx(k v:Value)(a:Nat):List MapEntry→List MapEntry×Nat
 | []=>([{key:=k,val:=v,born:=a}],a+1)
 |e::es=>if fa k e.key then({e with key:=k,val:=v}::es,a)else let r:=Jx k v a es;(e::r.1,r.2)
def FQ(k:Value):List MapEntry→List MapEntry
 | []=> []
 |e::es=>if fa k e.key then es else e::FQ k es
def uS(c:CK)(h:ad)(r:Nat):Prop:=∃es clock,h[r]? =some (.map es clock)∧keysOf c es.toList
def lY(h:ad)(r:Nat)(k v:Value):ad:=
 match h[r]? with
 |some (.map es clock)=>h.setIfInBounds r (.map (Jx k v clock es.toList).1.toArray (Jx k v clock es.toList).2)
 |_=>h
def pW(h:ad)(r:Nat)(k:Value):ad:=
 match h[r]? with
 |some (.map es clock)=>h.setIfInBounds r (.map (FQ k es.toList).toArray clock)
 |_=>h
def Ed(P:Program)(t:TypeId)(m k v:Value)(K:WK)(h:ad):Prop:=
 match LQ P t,m with
 |some (c,_),.map m=>c.dec k fun _=>∃r,m=some r∧uS c h r∧K undef (lY h r k v)
 |_,_=>False
def EH(P:Program)(t:TypeId)(m k:Value)(K:WK)(h:ad):Prop:=
 match LQ P t,m with
 |some (c,_),.map m=>c.dec k fun _=>(m=none∧K (.tuple #[]) h)∨(∃r,m=some r∧uS c h r∧K (.tuple #[]) (pW h r k))
 |_,_=>False
def R9(P:Program):List TypeId→Option (List Kind)
 | []=>some []
 |t::ts=>match Fw P t,R9 P ts with
  |some k,some ks=>some (k::ks)
  |_,_=>none
def Sa(P:Program)(t:TypeId):Option (List Kind):=
 match P.underlying t with
 |some (.tuple ts)=>R9 P ts.toList
 |_=>R9 P [t]
noncomputable def VD(P:Program)(f:Operand)(r:cG)(args:List Value)(t:TypeId)(K:WK)(h:ad):Prop:=
 match Sa P t with
 |none=>False
 |some ks=>match f with
  | .func f=>HC P f args ks (fun x h'=>K (BS ks (lZ ks x)) h') h
  |f=>match cR r f with
   |some fv=>HV P fv args ks (fun x h'=>K (BS ks (lZ ks x)) h') h
   |none=>False
def RB(b:Value)(K:WK)(h:ad):Prop:=
 match b with
 | .pointer (some a)=>a.off=0∧
  ∃m since seen last,h[a.block]? =some (.mapIter m since seen last)∧
   ((m=none∧K (.tuple #[.bool false]) h)∨
    (∃r es clock,m=some r∧h[r]? =some (.map es clock)∧(seen.isEmpty=true∨es.isEmpty=true∨es.all (fun e=>decide (e.born≥last))=false)∧
     ((∀e∈es.toList,e.born<since→seen.contains e.born=true)→K (.tuple #[.bool false]) h)∧
     (∀e∈es.toList,seen.contains e.born=false→K (.tuple #[.bool true,e.key,e.val]) (h.setIfInBounds a.block (.mapIter (some r) since (seen.push e.born) clock)))))
 |_=>False
def MS(c:Value)(K:WK)(h:ad):Prop:=
 match c with
 | .pointer (some a)=>a.off=0∧∃s pos,h[a.block]? =some (.stringIter s pos)∧
  ((s.size≤pos∧K (.tuple #[.bool false]) h)∨
   (∃b:UInt8,s[pos]? =some b∧b.toNat<128∧K (.tuple #[.bool true,.int .i64 pos,.int .i32 b.toNat]) (h.setIfInBounds a.block (.stringIter s (pos+1)))))
 |_=>False
def PB(h:ad)(g n:Nat):ad:=
 h.modify g fun
  | .cells c elem (lo,hi)=>.cells c elem (if lo==hi then(0,0+n)else(min lo 0,max hi (0+n)))
  |o=>o
def X0(e:TypeId)(a:Option Addr)(n:Int)(h:ad)(K:ByteArray→ad→Prop):Prop:=
 (n=0∧K ⟨#[]⟩ h)∨∃(l:List UInt8) (g:Nat) (cs:Array Value),a=some ⟨g,0,none⟩∧n=l.length∧l≠[]∧l.length≤9223372036854775807∧h[g]? =some (.cells cs e (0,0))∧l.length≤cs.size∧
  (∀(j:Nat) (x:UInt8),l[j]? =some x→cs[j]? =some (.int .u8 x.toNat))∧K ⟨l.toArray⟩ (PB h g l.length)
def RA(P:Program)(t:TypeId)(p n:Value)(K:WK)(h:ad):Prop:=
 match P.underlying t,p,n with
 |some (.pointer e),.pointer a,.int .i64 n=>bif aJ (P.cellsOf e) 1 then X0 e a n h (fun s h'=>K (.string s) h')else False
 |_,_,_=>False
noncomputable def GQ(P:Program)(o:Oper)(r:cG)(K:WK)(h:ad):Prop:=
 match o.op with
 | .alloc t=>(match qm P t with|some z=>K (.pointer (some (aL h))) (hnew h z t)|none=>False)
 | .box t x=>(match cR r x with|some v=>K (.pointer (some (aL h))) (hnew h v.cells.toList t)|none=>False)
 | .build t ps=>(match pS r ps.toList with
  |some vs=>(match Kb P t vs with|some cs=>K (.agg cs.toArray) h|none=>False)
  |none=>False)
 | .buildSlice t n ps=>(match wh P t,pS r ps.toList with
  |some e,some vs=>(match qm P e with
   |some z=>bif vU (n*cq P e) 16777216&&aJ z.length (cq P e)then
     (match CY (fun i=>some (i*cq P e,cq P e)) (cU n z) vs with|some cs=>K (.slice (some (aL h)) n n) (hnew h cs e)|none=>False)
    else False
   |none=>False)
  |_,_=>False)
 | .store t a x=>(match cR r a,cR r x with|some a,some v=>MR P t a v K h|_,_=>False)
 | .mapUpdate t m k x=>(match cR r m,cR r k,cR r x with|some m,some k,some v=>Ed P t m k v K h|_,_,_=>False)
 | .insert t m k x=>(match cR r m,cR r k,cR r x with|some m,some k,some v=>Ed P t m k v K h|_,_,_=>False)
 | .makeMap t n=>(match n with
  |none=>K (.map (some h.size)) (h.push (.map #[] 0))
  |some n=>(match cR r n,P.underlying t with|some (.int _ _),some (.map _ _)=>K (.map (some h.size)) (h.push (.map #[] 0))|_,_=>False))
 | .makeSlice t l c=>(match wh P t,cR r l,cR r c with
  |some e,some (.int _ l),some (.int _ c)=>(match qm P e with
   |some z=>bif aJ z.length (cq P e)then(0≤l∧l≤c∧c≤9223372036854775807∧qr P e*c≤2^48)∧K (.slice (some (aL h)) l.toNat c.toNat) (hnew h (cU c.toNat z) e)else False
   |none=>False)
  |_,_,_=>False)
 | .convert s d x=>(match P.underlying s,P.underlying d,cR r x with
  |some .string,some (.slice e),some (.string v)=>bif NQ P e then ByP e v h (fun c h'=>K (.slice (some (aL h)) v.size c) h')else False
  |_,_,_=>False)
 | .range t x=>(match P.underlying t,cR r x with
  |some (.map _ _),some (.map m)=>∃clock,(m=none∧clock=0∨∃r es,m=some r∧h[r]? =some (.map es clock))∧K (.pointer (some (aL h))) (h.push (.mapIter m clock #[] clock))
  |some .string,some (.string s)=>K (.pointer (some (aL h))) (h.push (.stringIter s 0))
  |_,_=>False)
 | .next it false=>(match cR r it with|some it=>RB it K h|none=>False)
 | .next it true=>(match cR r it with|some it=>MS it K h|none=>False)
 | .call c=>(match c.callee,nr r c.args.toList with
  | .builtin .append,some [s,x]=>(match c.argTypes.toList with| [t,u]=>(match P.underlying u with|some (.slice _)=>Ee P t s x K h|some .string=>Ee P t s x K h|some (.int _)=>EJ P t s x K h|_=>False)|_=>False)
  | .builtin .clear,some [x]=>(match c.argTypes.toList with| [t]=>MU P t x K h|_=>False)
  | .builtin .copy,some [d,s]=>(match c.argTypes.toList with| [t,_]=>RC P t d s K h|_=>False)
  | .builtin .unsafeString,some [p,n]=>(match c.argTypes.toList with| [t,_]=>RA P t p n K h|_=>False)
  | .builtin .delete,some [m,k]=>(match c.argTypes.toList with| [t,_]=>EH P t m k K h|_=>False)
  | .value f,some args=>VD P f r args o.type K h
  |_,_=>False)
 |_=>False
def wr(P:Program):Op→Bool
 | .convert s d _=> !Wo P s d
 | .alloc _| .box .. | .buildSlice .. | .store .. | .mapUpdate .. | .insert .. | .makeMap .. | .makeSlice .. | .range .. | .next .. =>false
 | .call c=>match c.callee with
  | .builtin .len| .builtin .cap| .builtin .min| .builtin .max| .builtin .unsafeSliceData=>true
  |_=>false
 |_=>true
def zu(N:Nat)(o:Oper)(v:Value)(r:cG)(K:cG→Prop):Prop:=
 match o.dst with
 |none=>K r
 |some d=>bif yf d N then K ((d,v)::r)else False
noncomputable def WR(P:Program)(N:Nat)(ek:Option (Kind×Kind))(o:Oper)(r:cG)(K:cG→ad→Prop)(h:ad):Prop:=
 bif wr P o.op then BA P ek o.op r (fun v _=>zu N o v r fun a=>K a h) h
 else GQ P o r (fun v h'=>zu N o v r fun a=>K a h') h
inductive DV where
 |f|t|u|x
abbrev vn:=List (Nat×DV)
noncomputable def qE(d:vn)(t:Nat):DV:=
 eI (motive:=fun _=>DV) .x (fun a _ b=>bif aJ a.1 t then a.2 else b) d
noncomputable def AI(d:vn):Operand→DV
 | .tmp t=>qE d t
 | .const (.bool true)=>.t
 | .const (.bool false)=>.f
 |_=>.x
noncomputable def Kz(d:vn):Op→DV
 | .move x=>AI d x
 | .assign x=>AI d x
 | .pick c a b=>match AI d c with
  | .t=>AI d a
  | .f=>AI d b
  |_=>.x
 | .unOp .not _ x=>match AI d x with
  | .t=>.f
  | .f=>.t
  |_=>.x
 |_=>.x
def rh(d:vn)(o:Oper)(v:DV):vn:=match o.dst with|some t=>(t,v)::d|none=>d
noncomputable def iE(ops:List Oper)(d:vn)(o:Oper):Option Bool:=
 match o.guard with
 |none=>some true
 |some (j,want)=>match ops[j]? with
  |none=>none
  |some oj=>match oj.dst with
   |none=>none
   |some t=>match qE d t with
    | .t=>some want
    | .f=>some (!want)
    | .u=>some false
    | .x=>none
def FE(ops:List Oper)(o:Oper):Option Nat:=
 match o.guard with
 |none=>none
 |some (j,_)=>match ops[j]? with
  |none=>none
  |some oj=>oj.dst
noncomputable def HA(P:Program)(N:Nat)(ek:Option (Kind×Kind))(ops:List Oper)(o:Oper)(d:vn)(r:cG)(h:ad)(K:vn→cG→ad→Prop):Prop:=
 match iE ops d o with
 |some true=>WR P N ek o r (K (rh d o (Kz d o.op))) h
 |some false=>zu N o undef r fun a=>K (rh d o .u) a h
 |none=>False
noncomputable def EZ(P:Program)(N:Nat)(ek:Option (Kind×Kind))(ops:List Oper)(l:List Oper):vn→(cG→ad→Prop)→cG→ad→Prop:=
 eI (motive:=fun _=>vn→(cG→ad→Prop)→cG→ad→Prop) (fun _ K r h=>K r h)
  (fun o _ c d K r h=>
  match iE ops d o with
  |some true=>WR P N ek o r (fun a h'=>c (rh d o (Kz d o.op)) K a h') h
  |some false=>zu N o undef r fun a=>c (rh d o .u) K a h
  |none=>match FE ops o with
   |none=>False
   |some t=>match jF r t with
    |some (.bool b)=>CondP b
     (HA P N ek ops o ((t,.t)::d) ((t,.bool true)::r) h fun e a h'=>c e K a h')
     (HA P N ek ops o ((t,.f)::d) ((t,.bool false)::r) h fun e a h'=>c e K a h')
    |_=>False) l
inductive DA where
 |done
 |take (i:Nat) (rest:DA)
 |all (l:DA)
 |pick (i:Nat) (rest more:DA)
 |last (i:Nat) (rest:DA)
 |lastT (i:Nat) (rest:DA)
 |split (t:Nat) (yes no:DA)
abbrev qt:=List (Nat×(ad→Prop))
def tb(m i:Nat):Bool:=aJ (ja (Nat.shiftRight m i) 1) 1
def gf(i:Nat):Nat:=Nat.pow 2 i
inductive DM where
 |mk (am fr lk ds:Nat)
def DM.am:DM→Nat| .mk a _ _ _=>a
def DM.fr:DM→Nat| .mk _ f _ _=>f
def DM.lk:DM→Nat| .mk _ _ l _=>l
def DM.ds:DM→Nat| .mk _ _ _ d=>d
def iG(o:Oper)(i:Nat):Bool:=o.after.toList.any fun e=>aJ e.on i&&Region.binds .any e
noncomputable def l5(l:List Edge):Nat:=
 eI (motive:=fun _=>Nat) 0 (fun e _ a=>bif Region.binds .any e then cO (gf e.on) a else a) l
noncomputable def kY(l:List Operand):Nat:=
 eI (motive:=fun _=>Nat) 0 (fun o _ a=>match o with| .tmp t=>cO (gf t) a|_=>a) l
def m9(o:Oper):Nat:=match o.dst with|some d=>gf d|none=>0
noncomputable def nJ(ops:List Oper)(o:Oper):Nat:=
 cO (kY o.op.operands.toList) (match o.guard with
  |some (g,_)=>(match ops[g]? with|some og=>m9 og|none=>0)
  |none=>0)
noncomputable def wZ(ops:List Oper)(l:List Oper):List DM→Bool:=
 eI (motive:=fun _=>List DM→Bool) (fun ms=>match ms with| []=>true|_=>false)
  (fun o _ a ms=>match ms with
   |m::ms=>aJ (l5 o.after.toList) m.am&&aJ (nJ ops o) m.lk&&aJ (m9 o) m.ds&&a ms
   | []=>false) l
def Ce(x y:DM):Bool:=aJ (ja x.ds (cO y.lk y.ds)) 0&&aJ (ja y.ds x.lk) 0
noncomputable def Ie(i:Nat)(m:DM)(l:List DM):Nat→Bool:=
 eI (motive:=fun _=>Nat→Bool) (fun _=>true)
  (fun n _ a j=>(!(tb m.fr j)||aJ j i||tb n.am i||Ce m n)&&a (eR j)) l
noncomputable def AF(all:List DM)(l:List DM):Nat→Bool:=
 eI (motive:=fun _=>Nat→Bool) (fun _=>true) (fun m _ a i=>Ie i m all 0&&a (eR i)) l
def LG:List Oper→Bool
 | []=>true
 |o::os=>(match o.op with| .select .. =>false| .defer _=>false|_=>true)&&LG os
noncomputable def En(ops:List Oper)(ms:List DM):Bool:=wZ ops ops ms&&AF ms ms 0&&LG ops
def oe(o:Oper):qt→qt
 | []=> []
 |(k,S)::l=>bif iG o k then oe o l else(k,S)::oe o l
def rM:qt→ad→Prop→Prop
 | [],_,R=>R
 |(_,S)::l,h,R=>S h∧rM l h R
def Ky(m:DM)(ls:Nat):Bool:=aJ (ja m.am ls) m.am
noncomputable def ll(ls:Nat)(l:List DM):Nat→List Nat:=
 eI (motive:=fun _=>Nat→List Nat) (fun _=> []) (fun m _ a j=>bif !(tb ls j)&&Ky m ls then j::a (eR j)else a (eR j)) l
def ET(m:DM)(i ls n:Nat):Bool:= !(tb ls i)&&Ky m ls&&aJ (ja (cO ls m.fr) (xL (gf n))) (xL (gf n))
def vE:List Nat→List Nat→Bool
 | [],[]=>true
 |a::as,b::bs=>aJ a b&&vE as bs
 |_,_=>false
def Ca:DA→List Nat
 | .pick i _ l=>i::Ca l
 | .last i _=> [i]
 | .lastT i _=> [i]
 |_=> []
noncomputable def Qa(P:Program)(N:Nat)(ops:List Oper)(i:Nat)(L:qt)(d:vn)(r:cG)(h:ad)(K:qt→vn→cG→ad→Prop):Prop:=
 match ops[i]? with
 |none=>False
 |some o=>match iE ops d o with
  |some true=>bif wr P o.op then BA P none o.op r (fun v _=>zu N o v r fun a=>rM (oe o L) h (K (oe o L) (rh d o .x) a h)) h else GQ P o r (fun v h'=>zu N o v r fun a=>rM (oe o L) h' (K (oe o L) (rh d o .x) a h')) h
  |_=>False
noncomputable def Rm(m:Nat)(l:List DM):Nat→Nat:=
 eI (motive:=fun _=>Nat→Nat) (fun _=>m) (fun n _ a j=>bif tb m j then cO n.am (a (eR j))else a (eR j)) l
noncomputable def AJ(ms:List DM)(m:Nat):Nat:=Rm (Rm (Rm (Rm m ms 0) ms 0) ms 0) ms 0
def Kj(ms:List DM)(i:Nat):Nat:=match ms[i]? with|some m=>m.am|none=>0
def Al(m:Nat):qt→qt
 | []=> []
 |(k,S)::l=>bif tb m k then Al m l else(k,S)::Al m l
noncomputable def O6(P:Program)(N:Nat)(ops:List Oper)(ms:List DM)(i:Nat)(L:qt)(d:vn)(r:cG)(h:ad)(K:qt→vn→cG→ad→Prop):Prop:=
 match ops[i]? with
 |none=>False
 |some o=>match iE ops d o with
  |some true=>bif wr P o.op then False else GQ P o r (fun v h'=>zu N o v r fun a=>rM (Al (AJ ms (Kj ms i)) L) h' (K (Al (AJ ms (Kj ms i)) L) (rh d o .x) a h')) h
  |_=>False
noncomputable def mJ(P:Program)(N:Nat)(ops:List Oper)(ms:List DM)(j:DA):Bool→Nat→qt→vn→(cG→ad→Prop)→cG→ad→Prop:=
 DA.rec (motive:=fun _=>Bool→Nat→qt→vn→(cG→ad→Prop)→cG→ad→Prop)
  (fun m ls _ _ K r h=>bif !m&&vE (ll ls ms 0) []then K r h else False)
  (fun i _ c m ls L d K r h=>
   match ops[i]?,ms[i]? with
   |some o,some mi=>bif !m&&ET mi i ls ops.length then
     (match iE ops d o with
      |none=>False
      |some false=>zu N o undef r fun a=>c false (cO ls (gf i)) L (rh d o .u) K a h
      |some true=>bif wr P o.op then
       BA P none o.op r (fun v S=>zu N o v r fun a=>match S with
        |none=>c false (cO ls (gf i)) L (rh d o (Kz d o.op)) K a h
        |some S=>c false (cO ls (gf i)) ((i,S)::L) (rh d o (Kz d o.op)) K a h) h
       else False)
    else False
   |_,_=>False)
  (fun l c m ls L d K r h=>bif !m&&vE (ll ls ms 0) (Ca l)then c true ls L d K r h else False)
  (fun i _ _ f e m ls L d K r h=>bif m then Qa P N ops i L d r h (fun L' g a h'=>f false (cO ls (gf i)) L' g K a h')∧e true ls L d K r h else False)
  (fun i _ c m ls L d K r h=>bif m then Qa P N ops i L d r h (fun L' g a h'=>c false (cO ls (gf i)) L' g K a h')else False)
  (fun i _ c m ls L d K r h=>bif m then O6 P N ops ms i L d r h (fun L' g a h'=>c false (cO ls (gf i)) L' g K a h')else False)
  (fun t _ _ f e m ls L d K r h=>
   bif m then False else match jF r t with
   |some (.bool b)=>CondP b (f false ls L ((t,.t)::d) K ((t,.bool true)::r) h) (e false ls L ((t,.f)::d) K ((t,.bool false)::r) h)
   |_=>False)
  j
noncomputable def YJ(_:Oper)(i:Nat)(ds lk:Nat)(ops:List Oper)(l:List Oper):Nat→Nat:=
 eI (motive:=fun _=>Nat→Nat) (fun _=>0) (fun p _ a j=>bif (aJ j i||iG p i||(aJ (ja ds (cO (nJ ops p) (m9 p))) 0&&aJ (ja (m9 p) lk) 0))then cO (gf j) (a (eR j))else a (eR j)) l
noncomputable def Yw(ops:List Oper)(l:List Oper):Nat→List DM:=
 eI (motive:=fun _=>Nat→List DM) (fun _=> []) (fun o _ a i=>.mk (l5 o.after.toList) (YJ o i (m9 o) (nJ ops o) ops ops 0) (nJ ops o) (m9 o)::a (eR i)) l
def WZ(P:Program)(w:Option Bool)(o:Oper):Bool:=match w with|some false=>true|some true=>wr P o.op|none=>false
noncomputable def Ws(P:Program)(ops:List Oper)(d:vn)(ls n:Nat)(l:List Oper):List DM→Nat→Option (Nat×Oper):=
 eI (motive:=fun _=>List DM→Nat→Option (Nat×Oper)) (fun _ _=>none)
  (fun o _ a ms j=>match ms with
   | []=>none
   |m::ms=>bif ET m j ls n&&WZ P (iE ops d o) o then some (j,o)else a ms (eR j)) l
noncomputable def Wt(ops:List Oper)(d:vn)(ls:Nat)(l:List Oper):List DM→Nat→Option Nat:=
 eI (motive:=fun _=>List DM→Nat→Option Nat) (fun _ _=>none)
  (fun o _ a ms j=>match ms with
   | []=>none
   |m::ms=>match bif !(tb ls j)&&Ky m ls then(match iE ops d o with|none=>FE ops o|some _=>none)else none with
    |some t=>some t
    |none=>a ms (eR j)) l
noncomputable def Xi(ops:List Oper)(k:Nat→vn→DA)(ls:Nat)(d:vn)(l:List Nat):DA:=
 eI (motive:=fun _=>DA) .done (fun i a b=>match ops[i]? with
  |none=>.done
  |some o=>match a with
   | []=>.last i (k (cO ls (gf i)) (rh d o .x))
   |_=>.pick i (k (cO ls (gf i)) (rh d o .x)) b) l
noncomputable def WG(P:Program)(ops:List Oper)(ms:List DM)(a:Nat):Nat→vn→DA:=
 Nat.rec (motive:=fun _=>Nat→vn→DA) (fun _ _=>.done) (fun _ b ls d=>
  match Ws P ops d ls ops.length ops ms 0 with
  |some (i,o)=>.take i (b (cO ls (gf i)) (match iE ops d o with|some false=>rh d o .u|_=>rh d o (Kz d o.op)))
  |none=>match Wt ops d ls ops ms 0 with
   |some t=>.split t (b ls ((t,.t)::d)) (b ls ((t,.f)::d))
   |none=>match ll ls ms 0 with
    | []=>.done
    |l=>.all (Xi ops b ls d l)) a
noncomputable def Pp(ops:List Oper):List DM:=Yw ops ops 0
inductive Ex where
 |exit (id:Nat)
 |ret
abbrev St:=List (Nat×Kind)
def yZ:St→List Kind
 | []=> []
 |(_,k)::l=>k::yZ l
noncomputable def EW(r:cG):St→Option (List Value)
 | []=>some []
 |(i,_)::l=>match jF r i,EW r l with
  |some v,some vs=>some (v::vs)
  |_,_=>none
noncomputable def CD(st:St)(r:cG)(f:sW (yZ st)→Prop):Prop:=
 match EW r st with
 |some vs=>DT (yZ st) vs f
 |none=>False
def mZ:St→List Value→cG→cG
 |(i,_)::l,v::vs,r=>(i,v)::mZ l vs r
 |_,_,r=>r
noncomputable def PA(r:cG)(l:List Nat):Option cG:=
 eI (motive:=fun _=>Option cG) (some []) (fun t _ a=>match jF r t,a with
  |some v,some l=>some ((t,v)::l)
  |_,_=>none) l
noncomputable def kW(t:Nat)(l:List Oper):Bool:=
 eI (motive:=fun _=>Bool) false (fun o _ a=>match o.dst with|some d=>bif aJ d t then true else a|none=>a) l
noncomputable def fF(t:Nat)(c:Code):Bool:=
 Code.rec (motive:=fun _=>Bool) false (fun _ ops _=>kW t ops.toList) (fun _ _ a b=>bif a then true else b) (fun _ _ _ a b=>bif a then true else b)
  (fun _ _ b=>b) (fun _ b=>b) (fun _ _ _ _ _ _=>true) (fun _=>false) (fun _ b=>b) (fun _=>false) (fun _=>false) false (fun _=>false) c
inductive Ann where
 |nil
 |node (a b:Ann)
 |join (st:St) (a b:Ann)
 |loop (st:St) (b:Ann)
 |draw (d:DA)
 |kinds (k v:Kind)
 |reg (keep:List Nat) (inner:Ann)
 |rf (ks:List Kind) (a b:Ann)
def Ann.l:Ann→Ann
 | .node a _=>a
 | .rf _ a _=>a
 |_=>.nil
def Ann.r:Ann→Ann
 | .node _ b=>b
 | .rf _ _ b=>b
 |_=>.nil
noncomputable def Rz(l:List Oper):Nat:=eI (motive:=fun _=>Nat) 0 (fun o _ a=>cO (m9 o) a) l
def Xk:Option Nat→Option Nat→Option Nat
 |some a,some b=>some (cO a b)
 |_,_=>none
noncomputable def yq(c:Code):Option Nat:=
 Code.rec (motive:=fun _=>Option Nat) (some 0) (fun _ ops _=>some (Rz ops.toList)) (fun _ _ a b=>Xk a b) (fun _ _ _ a b=>Xk a b)
  (fun _ _ b=>b) (fun _ b=>b) (fun _ _ _ _ _ _=>none) (fun _=>some 0) (fun _ b=>b) (fun _=>some 0) (fun _=>some 0) (some 0) (fun _=>some 0) c
noncomputable def xe(m:Nat)(r:cG):cG:=eI (motive:=fun _=>cG) [] (fun a _ b=>bif tb m a.1 then b else a::b) r
noncomputable def BM(P:Program)(N:Nat)(ops:List Oper)(b:Bool)(a:Ann)(Kn:cG→ad→Prop)(r:cG)(h:ad):Prop:=
 match b with
 |false=>(match a with
  | .kinds kk vk=>EZ P N (some (kk,vk)) ops ops [] Kn r h
  |_=>EZ P N none ops ops [] Kn r h)
 |true=>bif En ops (Pp ops)then mJ P N ops (Pp ops) (match a with| .draw da=>da|_=>WG P ops (Pp ops) (Nat.add (Nat.add ops.length ops.length) 2) 0 []) false 0 [] [] Kn r h else False
noncomputable def jY(P:Program)(N:Nat)(c:Code):Ann→(cG→ad→Prop)→(Ex→cG→ad→Prop)→cG→ad→Prop:=
 Code.rec (motive:=fun _=>Ann→(cG→ad→Prop)→(Ex→cG→ad→Prop)→cG→ad→Prop)
  (fun _ Kn _ r h=>Kn r h)
  (fun _ ops p d Kn _ r h=>match d with
   | .reg keep d=>BM P N ops.toList p d (fun f h'=>match PA f keep with|some r0=>Kn r0 h'|none=>False) r h
   |d=>BM P N ops.toList p d Kn r h)
  (fun a _ j g d Kn Kx r h=>match d with
   | .join st aa ab=>(match yq a with
     |none=>False
     |some m=>Join (T:=sW (yZ st)) (fun t h'=>g ab Kn Kx (mZ st (lZ (yZ st) t) (xe m r)) h')
      fun J=>j aa (fun f h'=>CD st f fun t=>J t h') Kx r h)
   |d=>j d.l (fun f h'=>g d.r Kn Kx f h') Kx r h)
  (fun c _ _ j g d Kn Kx r h=>match cR r c with
   |some (.bool t)=>CondP t (j d.l Kn Kx r h) (g d.r Kn Kx r h)
   |_=>False)
  (fun id _ n d Kn Kx r h=>n d Kn (fun e f h'=>match e with
    | .exit i=>bif aJ i id then Kn f h' else Kx (.exit i) f h'
    | .ret=>Kx .ret f h') r h)
  (fun b n d _ Kx r h=>match d with
   | .loop st ab=>(match yq b with
     |none=>False
     |some m=>CD st r fun q=>LoopP (T:=sW (yZ st)) (fun k t h'=>n ab (fun f o=>CD st f fun s=>k s o) Kx (mZ st (lZ (yZ st) t) (xe m r)) h') q h)
   |_=>False)
  (fun _ _ _ _ _ _ _ _ _ _ _=>False)
  (fun id _ _ Kx r h=>Kx (.exit id) r h)
  (fun _ _ _ _ _ _ _=>False)
  (fun _ _ Kn _ r h=>Kn r h)
  (fun _ _ _ _ _ _=>False)
  (fun _ _ Kx r h=>Kx .ret r h)
  (fun _ _ _ _ _ _=>False)
  c
noncomputable def m8(P:Program)(r:cG)(h:ad):List ResultVar→(List Value→Prop)→Prop
 | [],K=>K []
 | .tmp t::l,K=>(match jF r t with|some v=>m8 P r h l fun vs=>K (v::vs)|none=>False)
 | .cell a t::l,K=>(match jF r a with
  |some v=>Ln P t v (fun x _=>m8 P r h l fun vs=>K (x::vs)) h
  |none=>False)
def pJ:Nat→List Value→cG
 |_,[]=> []
 |i,v::vs=>(i,v)::pJ (i+1) vs
noncomputable def E0(P:Program)(fn:Func)(c:Code)(a:Ann)(args:List Value)(ks:List Kind)(K:sW ks→ad→Prop)(h:ad):Prop:=
 jY P fn.ntmps c a
  (fun r h'=>m8 P r h' fn.results.toList fun vs=>DT ks vs fun t=>K t h')
  (fun e r h'=>match e with
   | .ret=>m8 P r h' fn.results.toList fun vs=>DT ks vs fun t=>K t h'
   | .exit _=>False)
  (pJ 0 args) h
def FS:List Oper→Option (Oper×Oper×Operand×Nat×FuncId×List Operand)
 | [m,o]=>match m.op,m.guard,m.dst,o.op,o.dst,o.guard with
  | .move x,none,some d,.defer c,none,none=>(match c.callee with
   | .value (.func f)=>some (m,o,x,d,f,c.args.toList)
   |_=>none)
  |_,_,_,_,_,_=>none
 |_=>none
inductive Mk where
 |it (n:Nat)
 |call (f:FuncId) (vs:List Value)
def HD(P:Program)(f:FuncId)(args:List Value)(K:ad→Prop)(h:ad):Prop:=
 ∀w:World,w.heap=h→(∀(args:Array Value) (w:World),(callFunc f args).run P w=.ok (.enter f args) w)∧∀n:Nat,CallsDIn {fn:=fun _=>True,depth:=none,alive:=false,round:=none} n P f args.toArray .returning w fun e u a=>u=.returning∧Tame w a∧(∃v,e=.returned v)∧K a.heap
noncomputable def rN(c:Code):Bool:=
 Code.rec (motive:=fun _=>Bool) false (fun _ ops _=>(FS ops.toList).isSome) (fun _ _ a b=>bif a then true else b) (fun _ _ _ a b=>bif a then true else b)
  (fun _ _ b=>b) (fun _ b=>b) (fun _ _ _ _ _ _=>true) (fun _=>false) (fun _ b=>b) (fun _=>false) (fun _=>false) false (fun _=>false) c
def JT:Option Ex→Option Code
 |none=>none
 |some (.exit i)=>some (.exit i)
 |some .ret=>some .ret
def YK(N:ad→Prop)(X:Nat→ad→Prop)(R:ad→Prop):Option Ex→ad→Prop
 |none=>N
 |some (.exit i)=>X i
 |some .ret=>R
structure RangeP(P:Program)(fv:Value)(ks:List Kind)(h:ad)(RT:Obj→Obj→sW ks→(Option Ex→ad→Prop)→ad→Prop)(N:ad→Prop)(X:Nat→ad→Prop)(R:ad→Prop):Prop where
 run:∀lo:LoopState→Option Ex→Obj,(∀s j,∃r,lo s j=.loop r)→
  (∀x h' K,h'[h.size+1]? =some (lo .ready none)→
   RT (lo .ready none) (lo .busy none) x (fun j h2=>h2[h.size+1]? =some (lo .busy none)∧K j.isNone (h2.setIfInBounds (h.size+1) (lo (if j.isNone then .ready else .done) j))) h'→
   HV P (.func (.yield (h.size+1)) #[] #[]) (lZ ks x) [.c .bool] K h')→
  ∃f first cap,fv=.func (.func f) first cap∧HE P f (first.toList++ [.func (.yield (h.size+1)) #[] #[]]++cap.toList) []
   (fun _ h2=>∃s j,s≠ .busy∧h2[h.size+1]? =some (lo s j)∧YK N X R j (h2.setIfInBounds (h.size+1) (lo .exhausted j))) ((h.push (.deferred (some []))).push (lo .ready none))
def Ue:List Nat→List Value→cG→cG
 |i::l,v::vs,r=>Ue l vs ((i,v)::r)
 |_,_,r=>r
noncomputable def Nc(P:Program)(N:Nat)(ps:List Nat)(ks:List Kind)(assign body:Code)(c:Ann)(r:cG)(l:Nat)(Ky f:Obj)(x:sW ks)(k:Option Ex→ad→Prop)(h:ad):Prop:=
 jY P N assign c.l (fun d b=>b[l]? =some Ky∧jY P N body c.r (fun _ a=>k none a) (fun e _ a=>k (some e) a) d (b.setIfInBounds l f)) (fun _ _ _=>False) (Ue ps (lZ ks x) r) h
def zk(N:Nat):List Nat→Bool
 | []=>true
 |n::l=>yf n N&&zk N l
noncomputable def y7(P:Program)(N:Nat)(c:Code):Ann→(List Mk→cG→ad→Prop)→(Ex→List Mk→cG→ad→Prop)→List Mk→cG→ad→Prop:=
 Code.rec (motive:=fun _=>Ann→(List Mk→cG→ad→Prop)→(Ex→List Mk→cG→ad→Prop)→List Mk→cG→ad→Prop)
  (fun j Kn Kx ms r h=>jY P N .skip j (Kn ms) (fun e=>Kx e ms) r h)
  (fun id ops p j Kn Kx ms r h=>match FS ops.toList with
   |none=>jY P N (.region id ops p) j (Kn ms) (fun e=>Kx e ms) r h
   |some (_,_,x,d,f,as)=>bif p then False else match cR r x with
    |some v=>bif yf d N then(match nr ((d,v)::r) as with|some vs=>Kn (.call f vs::ms) ((d,v)::r) h|none=>False)else False
    |none=>False)
  (fun a b n m j Kn Kx ms r h=>bif (bif rN a then true else rN b)then n j.l (fun ms o h'=>m j.r Kn Kx ms o h') Kx ms r h
   else jY P N (.seq a b) j (Kn ms) (fun e=>Kx e ms) r h)
  (fun c a b n m j Kn Kx ms r h=>bif (bif rN a then true else rN b)then
    (match cR r c with
     |some (.bool t)=>CondP t (n j.l Kn Kx ms r h) (m j.r Kn Kx ms r h)
     |_=>False)
   else jY P N (.cond c a b) j (Kn ms) (fun e=>Kx e ms) r h)
  (fun id b q j Kn Kx ms r h=>bif rN b then q j Kn (fun e ms o h'=>match e with
    | .exit i=>bif aJ i id then Kn ms o h' else Kx (.exit i) ms o h'
    | .ret=>Kx .ret ms o h') ms r h
   else jY P N (.block id b) j (Kn ms) (fun e=>Kx e ms) r h)
  (fun b _ j Kn Kx ms r h=>jY P N (.loop b) j (Kn ms) (fun e=>Kx e ms) r h)
  (fun g ps assign body _ _ j Kn Kx ms r h=>match j with
   | .rf ks aa ab=>bif zk N ps.toList&&aJ ps.toList.length ks.length then
    (match cR r g with
     |some fv=>RangeP P fv ks h (fun Ky s x k h'=>Nc P N ps.toList ks assign body (.node aa ab) r (h.size+1) Ky s x k h')
      (fun h'=>Kn (.it h.size::ms) r h') (fun i h'=>Kx (.exit i) (.it h.size::ms) r h') (fun h'=>Kx .ret (.it h.size::ms) r h')
     |none=>False)else False
   |_=>False)
  (fun id j Kn Kx ms r h=>jY P N (.exit id) j (Kn ms) (fun e=>Kx e ms) r h)
  (fun _ _ _ _ _ _ _ _=>False)
  (fun l j Kn Kx ms r h=>jY P N (.label l) j (Kn ms) (fun e=>Kx e ms) r h)
  (fun _ _ _ _ _ _ _=>False)
  (fun j Kn Kx ms r h=>jY P N .ret j (Kn ms) (fun e=>Kx e ms) r h)
  (fun _ _ _ _ _ _ _=>False)
  c
def K8(P:Program):List Mk→(ad→Prop)→ad→Prop
 | [],K,h=>K h
 | .it D::ms,K,h=>h[D]? =some (.deferred (some []))∧K8 P ms K (h.setIfInBounds D (.deferred none))
 | .call f vs::ms,K,h=>HD P f vs (fun h'=>K8 P ms K h') h
noncomputable def Nd(P:Program)(fn:Func)(c:Code)(a:Ann)(args:List Value)(ks:List Kind)(K:sW ks→ad→Prop)(h:ad):Prop:=
 y7 P fn.ntmps c a
  (fun ms r h'=>K8 P ms (fun h'=>m8 P r h' fn.results.toList fun vs=>DT ks vs fun t=>K t h') h')
  (fun e ms r h'=>match e with
   | .ret=>K8 P ms (fun h'=>m8 P r h' fn.results.toList fun vs=>DT ks vs fun t=>K t h') h'
   | .exit _=>False)
  [] (pJ 0 args) h
end Go.Lift
namespace Go.Lift
open Go
theorem F8(a:Addr):adr a 0=a:=rfl
theorem AR(a:Addr)(n:Nat):adr a (n+1)=⟨a.block,a.off+(n+1),none⟩:=rfl
theorem un(a:Addr)(n:Nat):adr a n=a.add n:=by
 cases n with
 |zero=>simp[F8,Addr.add]
 |succ n=>simp[AR,Addr.add]
theorem nf(a:Addr)(m n:Nat):adr (adr a m) n=adr a (m+n):=by
 cases n with
 |zero=>rfl
 |succ n=>cases m with
  |zero=>simp[F8]
  |succ m=>rw[AR,AR,show m+1+(n+1)=(m+1+n)+1 from rfl,AR];simp;omega
theorem Tame.refl(w:World):Tame w w:=⟨rfl,rfl,rfl⟩
theorem Tame.trans{a b c:World}(h:Tame a b)(k:Tame b c):Tame a c:=⟨k.os.trans h.os,k.tape.trans h.tape,k.output.trans h.output⟩
theorem AA{a b:IntKind}(h:JM a b=true):a=b:=by cases a<;>cases b<;>first|rfl|cases h
theorem CK.dec_sound{c:CK}{v:Value}{f:c.den→Prop}(h:c.dec v f):∃x,v=c.enc x∧f x:=by
 cases c<;>cases v<;>try simp only[CK.dec]at h
 case int.int k k' n=>
  cases hk:JM k' k with
  |false=>rw[hk]at h;exact h.elim
  |true=>rw[hk]at h;have:=AA hk;subst this;exact⟨n,rfl,h⟩
 case adr.pointer p=>cases p with
  |none=>exact h.elim
  |some a=>exact⟨a,rfl,h⟩
 all_goals first|exact h.elim|exact⟨_,rfl,h⟩
theorem C7:∀{cs:List CK} {vs:List Value} {f:TX cs→Prop},PP cs vs f→∃t,vs=Ty cs t∧f t
 | [],[],f,h=>⟨(),rfl,h⟩
 | [],_::_,f,h=>h.elim
 | [c],[v],f,h=>by obtain⟨x,rfl,b⟩:=CK.dec_sound h;exact⟨x,rfl,b⟩
 | [c],[],f,h=>h.elim
 | [c],_::_::_,f,h=>h.elim
 |c::d::cs,[],f,h=>h.elim
 |c::d::cs,[_],f,h=>h.elim
 |c::d::cs,v::u::vs,f,h=>by
  have a:c.dec v fun x=>PP (d::cs) (u::vs) fun t=>f (x,t):=h
  obtain⟨x,hx,g⟩:=CK.dec_sound a;obtain⟨t,ht,e⟩:=C7 (cs:=d::cs) (vs:=u::vs) g;exact⟨(x,t),by rw[ht,hx];rfl,e⟩
theorem Kind.dec_sound{k:Kind}{v:Value}{f:k.den→Prop}(h:k.dec v f):∃x,v=k.enc x∧f x:=by
 cases k with
 |c k=>exact CK.dec_sound h
 |agg cs=>
  cases v<;>simp only[Kind.dec]at h
  case agg vs=>
   obtain⟨t,ht,a⟩:=C7 h;exact⟨t,by simp only[Kind.enc,←ht],a⟩
theorem rR:∀{ks:List Kind} {vs:List Value} {f:sW ks→Prop},DT ks vs f→∃t,vs=lZ ks t∧f t
 | [],[],f,h=>⟨(),rfl,h⟩
 | [],_::_,f,h=>h.elim
 | [c],[v],f,h=>by obtain⟨x,rfl,b⟩:=Kind.dec_sound h;exact⟨x,rfl,b⟩
 | [c],[],f,h=>h.elim
 | [c],_::_::_,f,h=>h.elim
 |c::d::cs,[],f,h=>h.elim
 |c::d::cs,[_],f,h=>h.elim
 |c::d::cs,v::u::vs,f,h=>by
  have a:c.dec v fun x=>DT (d::cs) (u::vs) fun t=>f (x,t):=h
  obtain⟨x,hx,g⟩:=Kind.dec_sound a;obtain⟨t,ht,e⟩:=rR (ks:=d::cs) (vs:=u::vs) g;exact⟨(x,t),by rw[ht,hx];rfl,e⟩
theorem tx:∀(ks:List Kind) (t:sW ks),(lZ ks t).length=ks.length
 | [],_=>rfl
 | [_],_=>rfl
 |_::l::ks,(_,t)=>by simp only[lZ,au,tx (l::ks) t]
structure Agree(N:Nat)(r:cG)(a:Act):Prop where
 size:a.tmps.size=N
 look:∀t v,jF r t=some v→a.tmps.getD t undef=v
theorem ic(k:Nat)(v:Value)(r:cG):jF ((k,v)::r) k=some v:=by rw[E3,show aJ k k=true from Nat.beq_refl k];rfl
theorem gi{k t:Nat}(v:Value)(r:cG)(h:k≠t):jF ((k,v)::r) t=jF r t:=by
 rw[E3];have:aJ k t=false:=Bool.eq_false_iff.2 fun e=>h (bo e)
 rw[this];rfl
theorem Agree.put{N:Nat}{r:cG}{a:Act}(h:Agree N r a)(d:Nat)(v:Value)(hd:d<N):Agree N ((d,v)::r) (a.put (some d) v):=by
 refine⟨by simp[Act.put,h.size],fun t u b=>?_⟩
 by_cases e:d=t
 ·subst e
  rw[ic]at b;cases b;simp[Act.put,h.size,hd]
 ·rw[gi v r e]at b
  have:=h.look t u b;simpa[Act.put,Array.getElem?_setIfInBounds_ne e]using this
theorem Agree.known{N:Nat}{r:cG}{a:Act}(h:Agree N r a){t:Nat}{v:Value}(hv:jF r t=some v):Agree N ((t,v)::r) a:=by
 refine⟨h.size,fun s u b=>?_⟩
 by_cases e:t=s
 ·subst e;rw[ic]at b;cases b;exact h.look t v hv
 ·rw[gi v r e]at b;exact h.look s u b
theorem jG{N:Nat}{r:cG}{a:Act}(h:Agree N r a){o:Operand}{v:Value}(hv:cR r o=some v):a.eval o=v:=by
 cases o with
 |tmp t=>exact h.look t v hv
 |const c=>simp[cR]at hv;subst hv;rfl
 |global g=>simp[cR]at hv;subst hv;rfl
 |func f=>simp[cR]at hv;subst hv;rfl
theorem lV{N:Nat}{r:cG}{a:Act}(h:Agree N r a):∀{os:List Operand} {vs:List Value},nr r os=some vs→os.map a.eval=vs
 | [],vs,hv=>by simp[nr]at hv;subst hv;rfl
 |o::os,vs,hv=>by
  simp only[nr]at hv;cases ho:cR r o with
  |none=>simp[ho]at hv
  |some v=>cases hos:nr r os with
   |none=>simp[ho,hos]at hv
   |some us=>simp[ho,hos]at hv;subst hv;simp[jG h ho,lV h hos]
theorem aB{P:Program}{t:TypeId}{d:TypeDesc}(h:P.underlying t=some d)(w:World):(underlying t).run P w=.ok d w:=by
 simp only[underlying,program,bind,Sem.bind,mg,h,pure]
theorem cN{P:Program}{t:TypeId}{i:TypeInfo}(h:P.info? t=some i)(w:World):(typeInfo t).run P w=.ok i w:=by
 simp only[typeInfo,program,bind,Sem.bind,mg,h,pure]
theorem im{P:Program}{s:Sem Value}{v:Value}{w a:World}(h:s.run P w=.ok v a):(do pure (Next.value (←s)):Sem Next).run P w=.ok (.value v) a:=by
 simp[h]
theorem R8{P:Program}{s:Sem Unit}{w a:World}(h:s.run P w=.ok () a):(do s;pure Next.skip:Sem Next).run P w=.ok .skip a:=by
 simp[h]
theorem Ak{P:Program}{w:World}{a:Addr}{v:Value}(h:aK w.heap a=some v):(load a).run P w=.ok v w:=by
 have h':w.cell? a=some v:=h;simp[h']
theorem AM{v:Value}{vs:List Value}{i:Nat}{a:Addr}{h:ad}:tB (v::vs) i a h↔aK h (adr a i)=some v∧tB vs (i+1) a h:=by
 cases vs with
 |nil=>simp[tB]
 |cons u us=>rfl
theorem td{P:Program}{w:World}{a:Addr}:∀(vs:List Value) (i:Nat) (acc:Array Value),tB vs i a w.heap→
  (loadCellsFrom a i vs.length acc).run P w=.ok (acc++vs.toArray) w
 | [],i,acc,_=>by simp[loadCellsFrom]
 |v::vs,i,acc,h=>by
  obtain⟨b,c⟩:=AM.1 h;rw[un]at b;have:=td (P:=P) (w:=w) (a:=a) vs (i+1) (acc.push v) c;simp only[au,loadCellsFrom,aZ,Ak b,aC,this];simp
theorem GV{P:Program}{w:World}{a:Addr}{vs:List Value}(h:tB vs 0 a w.heap):(loadCells a vs.length).run P w=.ok vs.toArray w:=by
 have:=td (P:=P) (w:=w) (a:=a) vs 0 #[] h;simpa[loadCells]using this
theorem yz:∀(cs:List CK) (i:Nat) (a:Addr) (h:ad) (k:List Value→Prop),JU cs i a h k→∃vs,vs.length=cs.length∧tB vs i a h∧k vs
 | [],i,a,h,k,b=>⟨[],rfl,trivial,b⟩
 |c::cs,i,a,h,k,b=>by
  obtain⟨x,hx,b⟩:=b;obtain⟨vs,d,hc,b⟩:=yz cs (i+1) a h _ b;exact⟨c.enc x::vs,by simp[d],AM.2 ⟨hx,hc⟩,b⟩
theorem AK:∀{vs:List Value} {cs:List CK},FY vs=some cs→cs.length=vs.length
 | [],cs,h=>by simp[FY]at h;subst h;rfl
 |v::vs,cs,h=>by
  simp only[FY]at h;cases h1:WC v with
  |none=>simp[h1]at h
  |some c=>cases h2:FY vs with
   |none=>simp[h1,h2]at h
   |some ds=>simp[h1,h2]at h;subst h;simp[AK h2]
def TW(P:Program)(t:TypeId)(i:TypeInfo):Kind→Prop
 | .c _=>vM P t=false
 | .agg cs=>vM P t=true∧i.size=cs.length
theorem NN{P:Program}{t:TypeId}{k:Kind}(h:Py P t=some k):∃i,P.info? t=some i∧TW P t i k:=by
 unfold Py yp at h;cases hi:P.info? t with
 |none=>simp[hi]at h
 |some i=>
  refine⟨i,rfl,?_⟩;cases hz:i.zero with
  |none=>simp[hi,hz]at h
  |some z=>
   rw[hi]at h;simp only[hz]at h;cases z;case agg vs=>
    simp only at h;cases hb:(vM P t&&aJ vs.toList.length (cq P t))with
    |false=>rw[hb]at h;simp at h
    |true=>
     rw[hb]at h;simp only[cond_true]at h;simp only[Bool.and_eq_true]at hb;have a:=bo hb.2;cases hd:FY vs.toList with
     |none=>rw[hd]at h;simp at h
     |some ds=>
      rw[hd]at h;simp only[bK.injEq]at h;subst h;exact⟨hb.1,by rw[AK hd,a];simp[cq,hi]⟩
   all_goals
    simp only at h;cases ha:vM P t
    ·rw[ha]at h
     simp only[cond_false]at h;split at h
     ·simp only[bK.injEq]at h;subst h;exact ha
     ·simp at h
    ·rw[ha]at h;simp at h
theorem NO{P:Program}{t:TypeId}{k:Kind}(h:Fw P t=some k):(∀w,(isAgg t).run P w=.ok (vM P t) w)∧Py P t=some k:=by
 unfold Fw at h;cases hu:P.underlying t with
 |none=>simp[hu]at h
 |some d=>
  simp only[hu]at h;refine⟨fun w=>?_,h⟩
  simp only[isAgg,aZ,aB hu,aC];unfold vM;rw[hu];cases d<;>rfl
theorem CL{P:Program}{t:TypeId}{v:Value}{K:RK}{h:ad}(d:Ln P t v K h):
  ∃u S,K u (some S)∧S h∧∀w:World,S w.heap→(Instr.loadAt t v).run P w=.ok u w:=by
 unfold Ln at d;cases v with
 |pointer p=>
  cases p with
  |none=>exact d.elim
  |some a=>
   simp only at d;cases hk:Fw P t with
   |none=>simp[hk]at d
   |some k=>
    obtain⟨b,m⟩:=NO hk;obtain⟨i,hi,hc⟩:=NN m;rw[hk]at d;cases k with
    |c c=>
     obtain⟨x,hx,f⟩:=d;refine⟨_,_,f,hx,fun w g=>?_⟩
     have hc:vM P t=false:=hc;simp only[Instr.loadAt,lP,loadVar,aZ,bV,aC,b,hc];simp[Ak g]
    |agg cs=>
     obtain⟨vs,e,j,f⟩:=yz cs 0 a h _ d;obtain⟨n,o⟩:vM P t=true∧i.size=cs.length:=hc;refine⟨_,_,f,j,fun w g=>?_⟩
     have m:(sizeOf t).run P w=.ok vs.length w:=by simp[sizeOf,cN hi,o,e]
     simp only[Instr.loadAt,lP,loadVar,aZ,bV,aC,b,n];simp[m,GV g]
 |_=>exact d.elim
end Go.Lift
