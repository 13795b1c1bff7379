/- A part of the proof that the named laws of this program answer true, whatever the input. -/
import Derived.OrdersIn
import Derived.Below
import Derived.WalkKit
import Derived.RangeFuncRecord
import Derived.DefersIn
open BitVec renaming ofInt→ao
open Go.Instr renaming sureAddr→lV
open Go.Op renaming bytesLess→cR
open Go.Result renaming andThen_ok→az
open Go.Sem renaming run→nG,run_bind→aO,run_pure→bB
open Iff renaming rfl→yS
open List renaming rec→fc,replicate→bO,length_cons→aG
open Nat renaming succ→fq,beq→av,ble→yR,min→dF,blt→yQ,land→jl,lor→cS,pred→yz,eq_of_beq_eq_true→aS
open Option renaming some→bh
namespace Go.Lift
abbrev ad:=Array Obj
def aC(h:ad)(a:Addr):Option Value:=
 match h[a.block]? with
 |some (.cells c _ _)=>if a.spot.isSome then none else c[a.off]?
 |_=>none
def E3(h:ad)(a:Addr):Bool:=
 match h[a.block]? with
 |some (.cells _ _ (lo,hi))=>lo≤a.off&&a.off<hi
 |_=>false
def hset(h:ad)(a:Addr)(v:Value):ad:=
 h.modify a.block fun
  | .cells c elem frozen=>.cells (if a.spot.isSome then c else c.setIfInBounds a.off v) elem frozen
  |o=>o
noncomputable def adr(a:Addr)(n:Nat):Addr:=Nat.rec (motive:=fun _=>Addr) a (fun n _=>⟨a.block,a.off+fq n,none⟩) n
def Wr(h:ad)(a:Addr):Prop:=(∃v,aC h a=some v)∧E3 h a=false
structure Tame(w w':World):Prop where
 os:w'.os=w.os
 tape:w'.tape=w.tape
 output:w'.output=w.output
structure SliceV where
 a:Option Addr
 len:Nat
 cap:Nat
def JU:IntKind→IntKind→Bool
 | .i8,.i8=>true| .i16,.i16=>true| .i32,.i32=>true| .i64,.i64=>true
 | .u8,.u8=>true| .u16,.u16=>true| .u32,.u32=>true| .u64,.u64=>true
 |_,_=>false
inductive CK where
 |int (k:IntKind)|bool|str|ptr|slice|map|chan|raw|adr
def CK.den:CK→Type
 | .int _=>Int| .bool=>Bool| .str=>ByteArray| .ptr=>Option Addr| .slice=>SliceV| .map=>Option Nat| .chan=>Option Nat| .raw=>Value| .adr=>Addr
def CK.enc:(c:CK)→c.den→Value
 | .int k,n=>.int k n
 | .bool,b=>.bool b
 | .str,s=>.string s
 | .ptr,p=>.pointer p
 | .slice,s=>.slice s.a s.len s.cap
 | .map,r=>.map r
 | .chan,r=>.chan r
 | .raw,v=>v
 | .adr,a=>.pointer (some a)
def CK.dec:(c:CK)→Value→(c.den→Prop)→Prop
 | .int k,.int k' n,f=>bif JU k' k then f n else False
 | .bool,.bool b,f=>f b
 | .str,.string s,f=>f s
 | .ptr,.pointer p,f=>f p
 | .slice,.slice a l c,f=>f ⟨a,l,c⟩
 | .map,.map r,f=>f r
 | .chan,.chan r,f=>f r
 | .raw,v,f=>f v
 | .adr,.pointer (some a),f=>f a
 |_,_,_=>False
def TF:List CK→Type
 | []=>Unit
 | [c]=>c.den
 |c::d::cs=>c.den×TF (d::cs)
def Tj:(cs:List CK)→TF cs→List Value
 | [],_=> []
 | [c],x=> [c.enc x]
 |c::d::cs,(x,t)=>c.enc x::Tj (d::cs) t
def Ps:(cs:List CK)→List Value→(TF cs→Prop)→Prop
 | [],[],f=>f ()
 | [c],[v],f=>c.dec v f
 |c::d::cs,v::u::vs,f=>c.dec v fun x=>Ps (d::cs) (u::vs) fun t=>f (x,t)
 |_,_,_=>False
inductive Kind where
 |c (k:CK)
 |agg (cs:List CK)
def Kind.den:Kind→Type
 | .c k=>k.den
 | .agg cs=>TF cs
def Kind.enc:(k:Kind)→k.den→Value
 | .c k,x=>k.enc x
 | .agg cs,t=>.agg (Tj cs t).toArray
def Kind.dec:(k:Kind)→Value→(k.den→Prop)→Prop
 | .c k,v,f=>k.dec v f
 | .agg cs,.agg vs,f=>Ps cs vs.toList f
 |_,_,_=>False
def uc:List Kind→Type
 | []=>Unit
 | [k]=>k.den
 |k::l::ks=>k.den×uc (l::ks)
def lO:(ks:List Kind)→uc ks→List Value
 | [],_=> []
 | [k],x=> [k.enc x]
 |k::l::ks,(x,t)=>k.enc x::lO (l::ks) t
def Eu:(ks:List Kind)→List Value→(uc ks→Prop)→Prop
 | [],[],f=>f ()
 | [k],[v],f=>k.dec v f
 |k::l::ks,v::u::vs,f=>k.dec v fun x=>Eu (l::ks) (u::vs) fun t=>f (x,t)
 |_,_,_=>False
def Bf(ks:List Kind)(vs:List Value):Value:=
 match ks,vs with
 | [_],[v]=>v
 |_,vs=>.tuple vs.toArray
def V8:Value→Option CK
 | .int k _=>some (.int k)
 | .bool _=>some .bool
 | .string _=>some .str
 | .pointer _=>some .ptr
 | .slice .. =>some .slice
 | .map _=>some .map
 | .chan _=>some .chan
 | .nilFunc=>some .raw
 | .nilIface=>some .raw
 |_=>none
def Gx:List Value→Option (List CK)
 | []=>some []
 |v::vs=>match V8 v,Gx vs with
  |some c,some cs=>some (c::cs)
  |_,_=>none
def wE(P:Program)(t:TypeId):Bool:=
 match P.underlying t with
 |some (.struct _)|some (.array _ _)=>true
 |_=>false
def bT(P:Program)(t:TypeId):Nat:=match P.info? t with|some i=>i.size|none=>0
def rq(P:Program)(t:TypeId):Nat:=match P.info? t with|some i=>i.bytes|none=>0
def zm(P:Program)(t:TypeId):Option Value:=match P.info? t with|some i=>i.zero|none=>none
def Pc(P:Program)(t:TypeId):Option Kind:=
 match zm P t with
 |some (.agg vs)=>bif wE P t&&av vs.toList.length (bT P t)then(match Gx vs.toList with|some cs=>some (.agg cs)|none=>none)else none
 |some v=>bif wE P t then none else(match V8 v with|some c=>some (.c c)|none=>none)
 |none=>none
def FZ(P:Program)(t:TypeId):Option Kind:=
 match P.underlying t with
 |none=>none
 |some _=>Pc P t
structure HC(P:Program)(f:FuncId)(args:List Value)(ks:List Kind)(K:uc ks→ad→Prop)(h:ad):Prop where
 run:∀w:World,w.heap=h→
  ((callFunc f args.toArray).run P w=.ok (.enter f args.toArray) w∧
   Calls P f args.toArray w fun e w'=>Tame w w'∧∃t:uc ks,e=.returned (Bf ks (lO ks t))∧K t w'.heap)∨
  (∃v w',(callFunc f args.toArray).run P w=.ok (.value v) w'∧Tame w w'∧∃t:uc ks,v=Bf ks (lO ks t)∧K t w'.heap)
structure HE(P:Program)(f:FuncId)(args:List Value)(ks:List Kind)(K:uc ks→ad→Prop)(h:ad):Prop where
 run:∀w:World,w.heap=h→(∀(args:Array Value) (w:World),(callFunc f args).run P w=.ok (.enter f args) w)∧
  Calls P f args.toArray w fun e w'=>Tame w w'∧∃t:uc ks,e=.returned (Bf ks (lO ks t))∧K t w'.heap
theorem HE.hc{P:Program}{f:FuncId}{args:List Value}{ks:List Kind}{K:uc ks→ad→Prop}{h:ad}(e:HE P f args ks K h):HC P f args ks K h:=
 ⟨fun w a=>.inl ⟨(e.run w a).1 _ w,(e.run w a).2⟩⟩
structure HY(P:Program)(l:Nat)(args:List Value)(K:Bool→ad→Prop)(h:ad):Prop where
 run:∀w:World,w.heap=h→∃fn tmps assign body,(Instr.yield l args.toArray).run P w=.ok (.round l fn tmps assign body) w∧
  ∀(c:Frame) (cs:List Frame),∃b w',Tame w w'∧K b w'.heap∧Steps P (lone (Frame.round l fn tmps assign body .normal) (c::cs) w) (lone (c.finish (.bool b)) cs w')
structure HV(P:Program)(fv:Value)(args:List Value)(ks:List Kind)(K:uc ks→ad→Prop)(h:ad):Prop where
 run:(∃f first cap,fv=.func (.func f) first cap∧HC P f (first.toList++args++cap.toList) ks K h)∨
  (∃l,fv=.func (.yield l) #[] #[]∧HY P l args (fun b h'=>Eu ks [.bool b] fun t=>K t h') h)
noncomputable def CondP(b:Bool)(t e:Prop):Prop:=Bool.rec (motive:=fun _=>Prop) e t b
theorem CondP.yes{b:Bool}{t e:Prop}(h:CondP b t e)(a:b=true):t:=by subst a;exact h
theorem CondP.no{b:Bool}{t e:Prop}(h:CondP b t e)(a:b=false):e:=by subst a;exact h
theorem CondP.intro{b:Bool}{t e:Prop}(a:b=true→t)(c:b=false→e):CondP b t e:=by cases b;exact c rfl;exact a rfl
theorem aB{t e:Prop}:CondP true t e↔t:=yS
theorem aj{t e:Prop}:CondP false t e↔e:=yS
attribute [irreducible] CondP
def At(h:ad)(k:ad→Prop):Prop:=k h
def Bd{T:Type}(x:T)(k:T→Prop):Prop:=k x
structure Join{T:Type}(rest:T→ad→Prop)(k:(T→ad→Prop)→Prop):Prop where
 run:k rest
structure LoopP{T:Type}(F:(T→ad→Prop)→T→ad→Prop)(t:T)(h:ad):Prop where
 run:∀I:T→ad→Prop,(∀t h,F I t h→I t h)→I t h
abbrev cB:=List (Nat×Value)
noncomputable def jZ(r:cB)(t:Nat):Option Value:=
 fc (motive:=fun _=>Option Value) none (fun a _ b=>bif av a.1 t then some a.2 else b) r
theorem FG(k:Nat)(v:Value)(r:cB)(t:Nat):jZ ((k,v)::r) t=bif av k t then some v else jZ r t:=rfl
noncomputable def cZ(r:cB):Operand→Option Value
 | .tmp t=>jZ r t
 | .const v=>some v
 | .global g=>some (.pointer (some ⟨g,0,none⟩))
 | .func f=>some (.func (.func f) #[] #[])
noncomputable def nN(r:cB):List Operand→Option (List Value)
 | []=>some []
 |o::os=>match cZ r o,nN r os with
  |some v,some vs=>some (v::vs)
  |_,_=>none
noncomputable def Ka:List CK→Nat→Addr→ad→(List Value→Prop)→Prop
 | [],_,_,_,k=>k []
 |c::cs,i,a,h,k=>∃x:c.den,aC h (adr a i)=some (c.enc x)∧Ka cs (i+1) a h fun vs=>k (c.enc x::vs)
noncomputable def ua:List Value→Nat→Addr→ad→Prop
 | [],_,_,_=>True
 | [v],i,a,h=>aC h (adr a i)=some v
 |v::u::vs,i,a,h=>aC h (adr a i)=some v∧ua (u::vs) (i+1) a h
abbrev RK:=Value→Option (ad→Prop)→Prop
noncomputable def Lv(P:Program)(t:TypeId)(v:Value)(K:RK)(h:ad):Prop:=
 match v with
 | .pointer (some a)=>
  match FZ P t with
  |some (.c c)=>∃x:c.den,aC h a=some (c.enc x)∧K (c.enc x) (some fun h'=>aC h' a=some (c.enc x))
  |some (.agg cs)=>Ka cs 0 a h fun vs=>K (.agg vs.toArray) (some fun h'=>ua vs 0 a h')
  |none=>False
 |_=>False
def xJ(P:Program)(t:TypeId)(f:Nat):Option (TypeId×Nat):=
 match P.underlying t with
 |some (.struct fs)=>match fs.toList[f]? with
  |some g=>some (g.type,g.offset)
  |none=>none
 |_=>none
def wP(P:Program)(t:TypeId):Option TypeId:=
 match P.underlying t with
 |some (.slice e)=>some e
 |_=>none
def Na(op:BinOp)(k:IntKind)(a b:Int)(K:RK):Prop:=
 match op with
 | .shl=>0≤b∧K (.int k (k.wrap (a*2^(min b.toNat k.bits)))) none
 | .shr=>0≤b∧K (.int k (a.fdiv (2^(min b.toNat k.bits)))) none
 |_=>False
def VX(op:BinOp)(k:IntKind)(a b:Int)(K:RK):Prop:=
 match op with
 | .add=>K (.int k (k.wrap (a+b))) none
 | .sub=>K (.int k (k.wrap (a-b))) none
 | .mul=>K (.int k (k.wrap (a*b))) none
 | .quo=>b≠0∧K (.int k (k.wrap (a.tdiv b))) none
 | .rem=>b≠0∧K (.int k (a.tmod b)) none
 | .and=>K (.int k (k.wrap (ao k.bits a&&&ao k.bits b).toNat)) none
 | .or=>K (.int k (k.wrap (ao k.bits a|||ao k.bits b).toNat)) none
 | .xor=>K (.int k (k.wrap (ao k.bits a^^^ao k.bits b).toNat)) none
 | .andNot=>K (.int k (k.wrap (ao k.bits a&&& ~~~ao k.bits b).toNat)) none
 | .eql=>K (.bool (a==b)) none
 | .neq=>K (.bool (a !=b)) none
 | .lss=>K (.bool (decide (a<b))) none
 | .leq=>K (.bool (decide (a≤b))) none
 | .gtr=>K (.bool (decide (a>b))) none
 | .geq=>K (.bool (decide (a≥b))) none
 |_=>False
def VG(op:BinOp)(a b:ByteArray)(K:RK):Prop:=
 match op with
 | .add=>((a.size+b.size:Nat):Int)≤9223372036854775807∧K (.string (a++b)) none
 | .eql=>K (.bool (a.toList==b.toList)) none
 | .neq=>K (.bool (!(a.toList==b.toList))) none
 | .lss=>K (.bool (cR a.toList b.toList)) none
 | .leq=>K (.bool (cR a.toList b.toList||a.toList==b.toList)) none
 | .gtr=>K (.bool (!(cR a.toList b.toList||a.toList==b.toList))) none
 | .geq=>K (.bool (!(cR a.toList b.toList))) none
 |_=>False
def gy(h:ad)(a:Addr):Prop:=(∃c e,h[a.block]? =some (.cells c e (0,0))∧0<c.size)
def VW:Value→Bool
 | .func _ _ _=>true
 | .nilFunc=>true
 |_=>false
def VT:Value→Bool
 | .nilFunc=>true
 |_=>false
def UC:Value→Bool
 | .iface _ _=>true
 | .nilIface=>true
 |_=>false
def P4:Value→Bool
 | .nilIface=>true
 |_=>false
def Us(P:Program)(t:TypeId)(neg:Bool)(x y:Value)(K:RK):Prop:=
 match P.underlying t,x,y with
 |some (.pointer _),.pointer a,.pointer none=>K (.bool (bif neg then !a.isNone else a.isNone)) none
 |some (.map _ _),.map a,.map none=>K (.bool (bif neg then !a.isNone else a.isNone)) none
 |some (.slice _),.slice a _ _,.slice none _ _=>K (.bool (bif neg then !a.isNone else a.isNone)) none
 |some (.func _ _ _),x,.nilFunc=>VW x=true∧K (.bool (bif neg then !(VT x)else VT x)) none
 |some (.interface _),x,.nilIface=>UC x=true∧K (.bool (bif neg then !(P4 x)else P4 x)) none
 |_,_,_=>False
def SF:Operand→Bool
 | .const (.pointer none)=>true
 | .const (.map none)=>true
 | .const (.slice none 0 0)=>true
 | .const .nilFunc=>true
 | .const .nilIface=>true
 |_=>false
def Xu(P:Program)(t:TypeId)(neg:Bool)(x y:Value)(K:RK)(h:ad):Prop:=
 match P.underlying t,x,y with
 |some .bool,.bool a,.bool b=>K (.bool (bif neg then !(a==b)else a==b)) none
 |some (.pointer e),.pointer a,.pointer b=>
  (bif av (bT P e) 0 then False else True)∧
  (∀x y,a=some x→b=some y→gy h x∧gy h y)∧
  K (.bool (bif neg then !(a==b)else a==b)) (some fun h'=>∀x y,a=some x→b=some y→gy h' x∧gy h' y)
 |_,_,_=>False
def Uk(P:Program)(op:BinOp)(t:TypeId)(x y:Value)(K:RK)(h:ad):Prop:=
 match x,y with
 | .int k a,.int k' b=>
  match op with
  | .shl=>Na .shl k a b K
  | .shr=>Na .shr k a b K
  |op=>bif JU k' k then VX op k a b K else False
 | .string a,.string b=>VG op a b K
 |x,y=>match op with
  | .eql=>Xu P t false x y K h
  | .neq=>Xu P t true x y K h
  |_=>False
def sE(h:ad):List (Option Addr×Option Addr)→Prop
 | []=>True
 |(a,b)::l=>(∀x y,a=some x→b=some y→gy h x∧gy h y)∧sE h l
def SW(P:Program)(t:TypeId)(x y:Value):Option (Bool×List (Option Addr×Option Addr)):=
 match P.underlying t,x,y with
 |some (.int _),.int k a,.int k' b=>bif JU k' k then some (a==b,[])else none
 |some .bool,.bool a,.bool b=>some (a==b,[])
 |some .string,.string a,.string b=>some (a.toList==b.toList,[])
 |some (.pointer e),.pointer a,.pointer b=>bif av (bT P e) 0 then none else some (a==b,[(a,b)])
 |_,_,_=>none
def UP(P:Program)(rec:TypeId→List Value→List Value→Option (Bool×List (Option Addr×Option Addr)))(xs ys:List Value):List Field→Option (Bool×List (Option Addr×Option Addr))
 | []=>some (true,[])
 |f::fs=>
  if f.name= "_" then none else
  bif (P.underlying f.type).isSome&&(P.info? f.type).isSome then
   match(bif wE P f.type then rec f.type ((xs.drop f.offset).take (bT P f.type)) ((ys.drop f.offset).take (bT P f.type))
    else match xs[f.offset]?,ys[f.offset]? with|some x,some y=>SW P f.type x y|_,_=>none),UP P rec xs ys fs with
   |some (b,l),some (c,m)=>some (b&&c,l++m)
   |_,_=>none
  else none
def SX(P:Program):Nat→TypeId→List Value→List Value→Option (Bool×List (Option Addr×Option Addr))
 |0,_,_,_=>none
 |d+1,t,xs,ys=>match P.underlying t with
  |some (.struct fs)=>bif P.stoodInHeld t then none else UP P (SX P d) xs ys fs.toList
  |_=>none
def X9(neg b:Bool)(K:RK)(h:ad):List (Option Addr×Option Addr)→Prop
 | []=>K (.bool (bif neg then !b else b)) none
 |p::l=>sE h (p::l)∧K (.bool (bif neg then !b else b)) (some fun h'=>sE h' (p::l))
def VM(P:Program)(op:BinOp)(t:TypeId)(xs ys:List Value)(K:RK)(h:ad):Prop:=
 bif P.eqGuardType P.depth t then False else
 match op with
 | .eql=>(match SX P 10 t xs ys with|some (b,l)=>X9 false b K h l|none=>False)
 | .neq=>(match SX P 10 t xs ys with|some (b,l)=>X9 true b K h l|none=>False)
 |_=>False
def XN(op:UnOp)(x:Value)(K:RK):Prop:=
 match op,x with
 | .neg,.int k n=>K (.int k (k.wrap (0-n))) none
 | .xor,.int k n=>K (.int k (k.wrap (ao k.bits (if k.signed then-1 else k.max)^^^ao k.bits n).toNat)) none
 | .not,.bool b=>K (.bool (!b)) none
 |_,_=>False
def cz(s:ByteArray):List Value:=s.data.toList.map fun b=>.int .u8 b.toNat
noncomputable def Row(h:ad)(a:Addr)(vs:List Value):Prop:=∀i v,vs[i]? =some v→aC h (adr a i)=some v
noncomputable def SRow(h:ad)(a:Option Addr)(n:Nat)(vs:List Value):Prop:=vs.length=n∧(vs= []∨∃b,a=some b∧Row h b vs)
def NO(P:Program)(e:TypeId):Bool:=match P.underlying e with|some (.int .u8)=>true|_=>false
def VV(P:Program)(s d:TypeId):Bool:=
 match P.underlying s,P.underlying d with
 |some .string,some (.slice e)=>NO P e
 |_,_=>false
def Xw(e:TypeId)(s:ByteArray)(h:ad)(K:Nat→ad→Prop):Prop:=
 ∀c,s.size≤c→K c (h.push (.cells (cz s++bO (c-s.size) (Value.int .u8 0)).toArray e (c,c+1)))
noncomputable def Sb(P:Program)(b c:TypeId)(x:Value)(K:RK)(h:ad):Prop:=
 match P.underlying b,P.underlying c,x with
 |some (.int _),some (.int k),.int _ n=>K (.int k (k.wrap n)) none
 |some .string,some .string,.string s=>K (.string s) none
 |some (.slice e),some .string,.slice a n _=>bif NO P e then∃s:ByteArray,SRow h a n (cz s)∧K (.string s) (some fun h'=>SRow h' a n (cz s))else False
 |_,_,_=>False
def To(v:Option Value)(d y:Nat)(K:Nat→Prop):Prop:=
 match v with
 |none=>K d
 |some (.int _ i)=>(0≤i∧i≤y)∧K i.toNat
 |_=>False
noncomputable def aN(a:Option Addr)(l m size:Nat):Option Addr:=if m=l then a else a.map (adr · (l*size))
def So(P:Program)(t:TypeId)(K:Prop):Prop:=match P.info? t with|some _=>K|none=>False
noncomputable def Nq(P:Program)(t:TypeId)(x:Value)(lo hi b:Option Value)(K:RK):Prop:=
 match P.underlying t,x with
 |some .string,.string s=>match b with
  |some _=>False
  |none=>To hi s.size s.size fun h=>To lo 0 h fun l=>K (.string (s.extract l h)) none
 |some (.slice e),.slice a len cap=>So P e (
  match b with
  |none=>To hi len cap fun h=>To lo 0 h fun l=>K (.slice (aN a l cap (bT P e)) (h-l) (cap-l)) none
  |some m=>match hi with
   |none=>False
   |some hi=>To (some m) 0 cap fun m=>To (some hi) 0 m fun h=>To lo 0 h fun l=>K (.slice (aN a l m (bT P e)) (h-l) (m-l)) none)
 |some (.array n e),.pointer (some a)=>So P e (
  match b with
  |none=>To hi n n fun h=>To lo 0 h fun l=>K (.slice (aN (some a) l n (bT P e)) (h-l) (n-l)) none
  |some _=>False)
 |_,_=>False
noncomputable def Iw(r:cB):Option Operand→Option (Option Value)
 |none=>some none
 |some o=>match cZ r o with
  |some v=>some (some v)
  |none=>none
noncomputable def Ak(P:Program)(t:TypeId)(x i:Value)(K:RK):Prop:=
 match P.underlying t,x,i with
 |some (.array n e),.pointer (some a),.int _ i=>So P e ((0≤i∧i<n)∧K (.pointer (some (adr a (i.toNat*bT P e)))) none)
 |some (.slice e),.slice b len _,.int _ i=>So P e ((0≤i∧i<len)∧∃a,b=some a∧K (.pointer (some (adr a (i.toNat*bT P e)))) none)
 |_,_,_=>False
def Nt(P:Program)(t:TypeId)(x i:Value)(K:RK):Prop:=
 match P.underlying t,x,i with
 |some .string,.string s,.int _ i=>∃b:UInt8,0≤i∧s[i.toNat]? =some b∧K (.int .u8 b.toNat) none
 |_,_,_=>False
noncomputable def Nu(P:Program)(t:TypeId)(x:Value)(f:Nat)(K:RK):Prop:=
 match xJ P t f,x with
 |some (u,off),.agg cs=>bif (P.underlying u).isSome&&(P.info? u).isSome then(bif wE P u then K (.agg ((cs.toList.drop off).take (bT P u)).toArray) none
  else(match cs.toList[off]? with|some v=>K v none|none=>False))else False
 |_,_=>False
def Vf(c a b:Value)(K:RK):Prop:=
 match c with
 | .bool c=>(match a,b with
  | .bool x,.bool y=>K (.bool (bif c then x else y)) none
  |_,_=>(match c with|true=>K a none|false=>K b none))
 |_=>False
def fC:Value→Value→Bool
 | .int _ a,.int _ b=>a==b
 | .string a,.string b=>a==b
 | .bool a,.bool b=>a==b
 |_,_=>false
def Gc(k:Value):List MapEntry→Option Value
 | []=>none
 |e::es=>if fC k e.key then some e.val else Gc k es
def keysOf(c:CK)(es:List MapEntry):Prop:=∀e∈es,∃x:c.den,e.key=c.enc x
def wF(c:CK)(z:Value)(h:ad)(m:Option Nat)(k v:Value)(a:Bool):Prop:=
 match m with
 |none=>v=z∧a=false
 |some r=>∃es clock,h[r]? =some (.map es clock)∧keysOf c es.toList∧
  (match Gc k es.toList with|some u=>v=u∧a=true|none=>v=z∧a=false)
def LS(P:Program)(t:TypeId):Option (CK×TypeId):=
 match P.underlying t with
 |some (.map k e)=>match P.underlying k with
  |some (.int i)=>some (.int i,e)
  |some .string=>some (.str,e)
  |some .bool=>some (.bool,e)
  |_=>none
 |_=>none
def JB(P:Program)(t:TypeId)(x k:Value)(a:Bool)(K:RK)(h:ad):Prop:=
 match LS P t,x with
 |some (c,e),.map m=>c.dec k fun _=>
  (match FZ P e,zm P e with
   |some ek,some z=>∃(y:ek.den) (b:Bool),wF c z h m k (ek.enc y) b∧
    K (bif a then .tuple #[ek.enc y,.bool b]else ek.enc y) (some fun h'=>wF c z h' m k (ek.enc y) b)
   |_,_=>False)
 |_,_=>False
def GJ(h:ad)(m:Option Nat)(n:Nat):Prop:=
 match m with
 |none=>n=0
 |some r=>∃es clock,h[r]? =some (.map es clock)∧n=es.size
def Pz(c:Bool)(h:ad)(m:Option Nat)(n:Nat):Prop:=
 match m with
 |none=>n=0
 |some r=>∃cap buf cl s q,h[r]? =some (.chan cap buf cl s q false)∧n=bif c then cap else buf.size
def VK(P:Program)(t:TypeId)(x:Value)(K:RK)(h:ad):Prop:=
 match P.underlying t,x with
 |some .string,.string s=>K (.int .i64 s.size) none
 |some (.array n _),_=>K (.int .i64 n) none
 |some (.slice _),.slice _ n _=>K (.int .i64 n) none
 |some (.map _ _),.map m=>∃n:Nat,GJ h m n∧K (.int .i64 n) (some fun h'=>GJ h' m n)
 |some (.chan _ _),.chan m=>∃n:Nat,Pz false h m n∧K (.int .i64 n) (some fun h'=>Pz false h' m n)
 |_,_=>False
def VL(P:Program)(t:TypeId)(x:Value)(K:RK)(h:ad):Prop:=
 match P.underlying t,x with
 |some (.slice _),.slice _ _ n=>K (.int .i64 n) none
 |some (.chan _ _),.chan m=>∃n:Nat,Pz true h m n∧K (.int .i64 n) (some fun h'=>Pz true h' m n)
 |_,_=>False
def JP(c:Bool)(k:IntKind):Int→List Value→(Value→Prop)→Prop
 |a,[],f=>f (.int k a)
 |a,.int k' b::vs,f=>bif JU k' k then JP c k (bif c then(if b>a then b else a)else(if b<a then b else a)) vs f else False
 |_,_,_=>False
def EY(b:Bool)(vs:List Value)(f:Value→Prop):Prop:=
 match vs with
 | .int k a::vs=>JP b k a vs f
 |_=>False
def Oq(h:ad)(i:Nat)(e:MapEntry):Prop:=
 ∃m since seen last stamp es,h[i]? =some (.mapIter (some m) since seen last)∧seen.back? =some stamp∧h[m]? =some (.map es last)∧es.find? (fun e=>e.born==stamp)=some e
def qz(P:Program)(t:TypeId):Bool:=match P.underlying t with|some (.interface _)=>false|some _=>true|none=>false
def O5(P:Program)(t:TypeId)(x:Value)(K:RK):Prop:=
 bif qz P t then(match FZ P t with
  |some k=>∃y:k.den,x=.iface t (k.enc y)∧K (k.enc y) none
  |none=>False)else False
def Lz(cs:List Value)(off:Nat)(vs:List Value):List Value:=cs.take off++vs++cs.drop (off+vs.length)
def DW(a:Nat→Option (Nat×Nat)):List Value→List (Nat×Value)→Option (List Value)
 |cs,[]=>some cs
 |cs,(i,v)::rest=>match a i with
  |none=>none
  |some (off,size)=>bif av v.cells.toList.length size&&yR (off+v.cells.toList.length) cs.length then DW a (Lz cs off v.cells.toList) rest else none
noncomputable def qy(r:cB):List (Nat×Operand)→Option (List (Nat×Value))
 | []=>some []
 |(i,o)::ps=>match cZ r o,qy r ps with
  |some v,some vs=>some ((i,v)::vs)
  |_,_=>none
def ra(P:Program)(t:TypeId):Option (List Value):=match zm P t with|some z=>some z.cells.toList|none=>none
def de(n:Nat)(z:List Value):List Value:=(bO n z).flatten
def yH(P:Program)(t:TypeId):Bool:=match P.info? t with|some _=>true|none=>false
def BN(P:Program):List Field→Bool
 | []=>true
 |f::fs=>bif yH P f.type then BN P fs else false
def NA(P:Program)(a:List Field)(i:Nat):Option (Nat×Nat):=match a[i]? with|some f=>some (f.offset,bT P f.type)|none=>none
def Kj(P:Program)(t:TypeId)(a:List (Nat×Value)):Option (List Value):=
 match P.underlying t,ra P t with
 |some (.struct fs),some z=>bif BN P fs.toList then DW (NA P fs.toList) z a else none
 |some (.array _ e),some z=>bif yH P e then DW (fun i=>some (i*bT P e,bT P e)) z a else none
 |_,_=>none
def Nr(v:Value)(K:RK):Prop:=
 match v with
 | .slice a _ c=>(a=none∨c≠0)∧K (.pointer a) none
 |_=>False
noncomputable def CE(P:Program)(ek:Option (Kind×Kind))(o:Op)(r:cB)(K:RK)(h:ad):Prop:=
 match o with
 | .entry it=>match cZ r it,ek with
  |some (.pointer (some a)),some (kk,vk)=>a.off=0∧∃(e:MapEntry) (x:kk.den) (y:vk.den),Oq h a.block e∧e.key=kk.enc x∧e.val=vk.enc y∧
    K (.tuple #[kk.enc x,vk.enc y]) (some fun h'=>Oq h' a.block e)
  |_,_=>False
 | .move x| .assign x=>match cZ r x with|some v=>K v none|none=>False
 | .load t a=>match cZ r a with|some v=>Lv P t v K h|none=>False
 | .nilCheck x=>match cZ r x with|some (.pointer p)=>∃a,p=some a∧K (.pointer (some a)) none|_=>False
 | .binOp op t x y _=>match SF y,cZ r x,cZ r y with
  |true,some v,some u=>(match op with
   | .eql=>Us P t false v u K
   | .neq=>Us P t true v u K
   |op=>Uk P op t v u K h)
  |false,some (.agg v),some (.agg u)=>VM P op t v.toList u.toList K h
  |false,some v,some u=>Uk P op t v u K h
  |_,_,_=>False
 | .unOp op _ x=>match cZ r x with|some v=>XN op v K|none=>False
 | .convert s d x=>match cZ r x with|some v=>Sb P s d v K h|none=>False
 | .pick c a b=>match cZ r c,cZ r a,cZ r b with|some c,some a,some b=>Vf c a b K|_,_,_=>False
 | .extract x i=>match cZ r x with
  |some (.tuple vs)=>(match vs.toList[i]? with|some v=>K v none|none=>False)
  |_=>False
 | .fieldAddr t x f=>match cZ r x,xJ P t f with
  |some (.pointer (some a)),some (u,off)=>bif av (bT P u) 0 then False else K (.pointer (some (adr a off))) none
  |_,_=>False
 | .field t x f=>match cZ r x with|some v=>Nu P t v f K|none=>False
 | .indexAddr t x i=>match cZ r x,cZ r i with|some v,some u=>Ak P t v u K|_,_=>False
 | .index t x i=>match cZ r x,cZ r i with|some v,some u=>Nt P t v u K|_,_=>False
 | .slice t x lo hi mx=>match cZ r x,Iw r lo,Iw r hi,Iw r mx with
  |some v,some l,some h',some m=>Nq P t v l h' m K
  |_,_,_,_=>False
 | .lookup t x k ok=>match cZ r x,cZ r k with|some v,some u=>JB P t v u ok K h|_,_=>False
 | .makeInterface t x=>match cZ r x with|some v=>bif qz P t then K (.iface t v) none else False|none=>False
 | .typeAssert x _ t ok=>match cZ r x with|some v=>bif ok then False else O5 P t v K|none=>False
 | .build t ps=>match qy r ps.toList with
  |some vs=>(match Kj P t vs with|some cs=>K (.agg cs.toArray) none|none=>False)
  |none=>False
 | .makeFunc fn first cap=>match nN r first.toList,nN r cap.toList with
  |some vs,some us=>K (.func fn vs.toArray us.toArray) none
  |_,_=>False
 | .call c=>match c.callee,nN r c.args.toList,c.argTypes.toList with
  | .builtin .len,some [v],[t]=>VK P t v K h
  | .builtin .cap,some [v],[t]=>VL P t v K h
  | .builtin .min,some vs,_=>EY false vs fun v=>K v none
  | .builtin .max,some vs,_=>EY true vs fun v=>K v none
  | .builtin .unsafeSliceData,some [v],_=>Nr v K
  |_,_,_=>False
 |_=>False
abbrev WK:=Value→ad→Prop
def aJ(h:ad):Addr:=⟨h.size,0,none⟩
def hnew(h:ad)(cs:List Value)(t:TypeId):ad:=h.push (.cells cs.toArray t (0,0))
def cj:List Value→Bool
 | []=>true
 |v::vs=>(match v with| .agg _=>false| .tuple _=>false|_=>true)&&cj vs
noncomputable def gP(h:ad)(a:Addr):Nat→List Value→ad
 |_,[]=>h
 |i,v::vs=>gP (hset h (adr a i) v) a (i+1) vs
noncomputable def eR(h:ad)(a:Option Addr)(i:Nat)(vs:List Value):ad:=match a with|some a=>gP h a i vs|none=>h
noncomputable def td(h:ad)(a:Option Addr)(i:Nat)(vs:List Value):Prop:=vs= []∨∃b,a=some b∧∀j,j<vs.length→Wr h (adr b (i+j))
noncomputable def MU(P:Program)(t:TypeId)(a v:Value)(K:WK)(h:ad):Prop:=
 match a with
 | .pointer (some a)=>bif av v.cells.toList.length (bT P t)&&cj v.cells.toList then So P t
   (match v.cells.toList with
    | [v]=>Wr h a∧K undef (hset h a v)
    |vs=>td h (some a) 0 vs∧K undef (gP h a 0 vs))
  else False
 |_=>False
noncomputable def Tx(P:Program)(e:TypeId)(a:Option Addr)(sl c b:Nat)(xs:List Value)(K:WK)(h:ad):Prop:=
 (sl+b≤c→td h a (sl*bT P e) xs∧cj xs=true∧K (.slice a (sl+b) c) (eR h a (sl*bT P e) xs))∧
 (c<sl+b→∃old z,SRow h a (sl*bT P e) old∧ra P e=some z∧0<rq P e∧Builtin.nextslicecap (sl+b) c*rq P e≤2^48∧
  ∀nc,sl+b≤nc→K (.slice (some (aJ h)) (sl+b) nc) (hnew h (old++xs++de (nc-(sl+b)) z) e))
noncomputable def EN(P:Program)(t:TypeId)(s x:Value)(K:WK)(h:ad):Prop:=
 match wP P t,s,x with
 |some e,.slice b sl sc,.slice a xl _=>So P e (∃xs,SRow h a (xl*bT P e) xs∧Tx P e b sl sc xl xs K h)
 |some e,.slice b sl sc,.string x=>bif av (bT P e) 1 then Tx P e b sl sc x.size (cz x) K h else False
 |_,_,_=>False
noncomputable def Fe(P:Program)(t:TypeId)(s x:Value)(K:WK)(h:ad):Prop:=
 match wP P t,s,x with
 |some e,.slice b sl sc,.int _ l=>(match ra P e with
  |some z=>bif av z.length (bT P e)then(0≤l∧l*rq P e≤2^48∧l≤9223372036854775807∧((sl+l.toNat:Nat):Int)≤9223372036854775807)∧Tx P e b sl sc l.toNat (de l.toNat z) K h else False
  |none=>False)
 |_,_,_=>False
noncomputable def MW(P:Program)(t:TypeId)(x:Value)(K:WK)(h:ad):Prop:=
 match wP P t,x with
 |some e,.slice a n _=>(match ra P e with
  |some z=>bif cj z then td h a 0 (de n z)∧K (.tuple #[]) (eR h a 0 (de n z))else False
  |none=>False)
 |_,_=>False
noncomputable def Rg(P:Program)(t:TypeId)(d s:Value)(K:WK)(h:ad):Prop:=
 match wP P t,d,s with
 |some e,.slice b dl _,.slice a sl _=>So P e (∃xs,SRow h a (dF sl dl*bT P e) xs∧td h b 0 xs∧cj xs=true∧K (.int .i64 (dF sl dl)) (eR h b 0 xs))
 |some e,.slice b dl _,.string x=>bif av (bT P e) 1 then td h b 0 ((cz x).take dl)∧K (.int .i64 (dF x.size dl)) (eR h b 0 ((cz x).take dl))else False
 |_,_,_=>False
def JE(k v:Value)(a:Nat):List MapEntry→List MapEntry×Nat
 | []=>([{key:=k,val:=v,born:=a}],a+1)
 |e::es=>if fC k e.key then({e with key:=k,val:=v}::es,a)else let r:=JE k v a es;(e::r.1,r.2)
def Gq(k:Value):List MapEntry→List MapEntry
 | []=> []
 |e::es=>if fC k e.key then es else e::Gq k es
def yg(c:CK)(h:ad)(r:Nat):Prop:=∃es clock,h[r]? =some (.map es clock)∧keysOf c es.toList
def me(h:ad)(r:Nat)(k v:Value):ad:=
 match h[r]? with
 |some (.map es clock)=>h.setIfInBounds r (.map (JE k v clock es.toList).1.toArray (JE k v clock es.toList).2)
 |_=>h
def FR(h:ad)(r:Nat)(k:Value):ad:=
 match h[r]? with
 |some (.map es clock)=>h.setIfInBounds r (.map (Gq k es.toList).toArray clock)
 |_=>h
def EM(P:Program)(t:TypeId)(m k v:Value)(K:WK)(h:ad):Prop:=
 match LS P t,m with
 |some (c,_),.map m=>c.dec k fun _=>∃r,m=some r∧yg c h r∧K undef (me h r k v)
 |_,_=>False
def Fb(P:Program)(t:TypeId)(m k:Value)(K:WK)(h:ad):Prop:=
 match LS P t,m with
 |some (c,_),.map m=>c.dec k fun _=>(m=none∧K (.tuple #[]) h)∨(∃r,m=some r∧yg c h r∧K (.tuple #[]) (FR h r k))
 |_,_=>False
def R0(P:Program):List TypeId→Option (List Kind)
 | []=>some []
 |t::ts=>match FZ P t,R0 P ts with
  |some k,some ks=>some (k::ks)
  |_,_=>none
def R8(P:Program)(t:TypeId):Option (List Kind):=
 match P.underlying t with
 |some (.tuple ts)=>R0 P ts.toList
 |_=>R0 P [t]
noncomputable def U8(P:Program)(f:Operand)(r:cB)(args:List Value)(t:TypeId)(K:WK)(h:ad):Prop:=
 match R8 P t with
 |none=>False
 |some ks=>match f with
  | .func f=>HC P f args ks (fun x h'=>K (Bf ks (lO ks x)) h') h
  |f=>match cZ r f with
   |some fv=>HV P fv args ks (fun x h'=>K (Bf ks (lO ks x)) h') h
   |none=>False
def Rf(b:Value)(K:WK)(h:ad):Prop:=
 match b with
 | .pointer (some a)=>a.off=0∧
  ∃m since seen last,h[a.block]? =some (.mapIter m since seen last)∧
   ((m=none∧K (.tuple #[.bool false]) h)∨
    (∃r es clock,m=some r∧h[r]? =some (.map es clock)∧(seen.isEmpty=true∨es.isEmpty=true∨es.all (fun e=>decide (e.born≥last))=false)∧
     ((∀e∈es.toList,e.born<since→seen.contains e.born=true)→K (.tuple #[.bool false]) h)∧
     (∀e∈es.toList,seen.contains e.born=false→K (.tuple #[.bool true,e.key,e.val]) (h.setIfInBounds a.block (.mapIter (some r) since (seen.push e.born) clock)))))
 |_=>False
def MV(c:Value)(K:WK)(h:ad):Prop:=
 match c with
 | .pointer (some a)=>a.off=0∧∃s pos,h[a.block]? =some (.stringIter s pos)∧
  ((s.size≤pos∧K (.tuple #[.bool false]) h)∨
   (∃b:UInt8,s[pos]? =some b∧b.toNat<128∧K (.tuple #[.bool true,.int .i64 pos,.int .i32 b.toNat]) (h.setIfInBounds a.block (.stringIter s (pos+1)))))
 |_=>False
def hfreeze(h:ad)(g n:Nat):ad:=
 h.modify g fun
  | .cells c elem (lo,hi)=>.cells c elem (if lo==hi then(0,0+n)else(min lo 0,max hi (0+n)))
  |o=>o
def Vl(e:TypeId)(a:Option Addr)(n:Int)(h:ad)(K:ByteArray→ad→Prop):Prop:=
 (n=0∧K ⟨#[]⟩ h)∨∃(l:List UInt8) (g:Nat) (cs:Array Value),a=some ⟨g,0,none⟩∧n=l.length∧l≠[]∧l.length≤9223372036854775807∧h[g]? =some (.cells cs e (0,0))∧l.length≤cs.size∧
  (∀(j:Nat) (x:UInt8),l[j]? =some x→cs[j]? =some (.int .u8 x.toNat))∧K ⟨l.toArray⟩ (hfreeze h g l.length)
def Re(P:Program)(t:TypeId)(p n:Value)(K:WK)(h:ad):Prop:=
 match P.underlying t,p,n with
 |some (.pointer e),.pointer a,.int .i64 n=>bif av (P.cellsOf e) 1 then Vl e a n h (fun s h'=>K (.string s) h')else False
 |_,_,_=>False
noncomputable def Hg(P:Program)(o:Oper)(r:cB)(K:WK)(h:ad):Prop:=
 match o.op with
 | .alloc t=>(match ra P t with|some z=>K (.pointer (some (aJ h))) (hnew h z t)|none=>False)
 | .box t x=>(match cZ r x with|some v=>K (.pointer (some (aJ h))) (hnew h v.cells.toList t)|none=>False)
 | .build t ps=>(match qy r ps.toList with
  |some vs=>(match Kj P t vs with|some cs=>K (.agg cs.toArray) h|none=>False)
  |none=>False)
 | .buildSlice t n ps=>(match wP P t,qy r ps.toList with
  |some e,some vs=>(match ra P e with
   |some z=>bif yR (n*bT P e) 16777216&&av z.length (bT P e)then
     (match DW (fun i=>some (i*bT P e,bT P e)) (de n z) vs with|some cs=>K (.slice (some (aJ h)) n n) (hnew h cs e)|none=>False)
    else False
   |none=>False)
  |_,_=>False)
 | .store t a x=>(match cZ r a,cZ r x with|some a,some v=>MU P t a v K h|_,_=>False)
 | .mapUpdate t m k x=>(match cZ r m,cZ r k,cZ r x with|some m,some k,some v=>EM P t m k v K h|_,_,_=>False)
 | .insert t m k x=>(match cZ r m,cZ r k,cZ r x with|some m,some k,some v=>EM P t m k v K h|_,_,_=>False)
 | .makeMap t n=>(match n with
  |none=>K (.map (some h.size)) (h.push (.map #[] 0))
  |some n=>(match cZ r n,P.underlying t with|some (.int _ _),some (.map _ _)=>K (.map (some h.size)) (h.push (.map #[] 0))|_,_=>False))
 | .makeSlice t l c=>(match wP P t,cZ r l,cZ r c with
  |some e,some (.int _ l),some (.int _ c)=>(match ra P e with
   |some z=>bif av z.length (bT P e)then(0≤l∧l≤c∧c≤9223372036854775807∧rq P e*c≤2^48)∧K (.slice (some (aJ h)) l.toNat c.toNat) (hnew h (de c.toNat z) e)else False
   |none=>False)
  |_,_,_=>False)
 | .convert s d x=>(match P.underlying s,P.underlying d,cZ r x with
  |some .string,some (.slice e),some (.string v)=>bif NO P e then Xw e v h (fun c h'=>K (.slice (some (aJ h)) v.size c) h')else False
  |_,_,_=>False)
 | .range t x=>(match P.underlying t,cZ r x with
  |some (.map _ _),some (.map m)=>∃clock,(m=none∧clock=0∨∃r es,m=some r∧h[r]? =some (.map es clock))∧K (.pointer (some (aJ h))) (h.push (.mapIter m clock #[] clock))
  |some .string,some (.string s)=>K (.pointer (some (aJ h))) (h.push (.stringIter s 0))
  |_,_=>False)
 | .next it false=>(match cZ r it with|some it=>Rf it K h|none=>False)
 | .next it true=>(match cZ r it with|some it=>MV it K h|none=>False)
 | .call c=>(match c.callee,nN r c.args.toList with
  | .builtin .append,some [s,x]=>(match c.argTypes.toList with| [t,u]=>(match P.underlying u with|some (.slice _)=>EN P t s x K h|some .string=>EN P t s x K h|some (.int _)=>Fe P t s x K h|_=>False)|_=>False)
  | .builtin .clear,some [x]=>(match c.argTypes.toList with| [t]=>MW P t x K h|_=>False)
  | .builtin .copy,some [d,s]=>(match c.argTypes.toList with| [t,_]=>Rg P t d s K h|_=>False)
  | .builtin .unsafeString,some [p,n]=>(match c.argTypes.toList with| [t,_]=>Re P t p n K h|_=>False)
  | .builtin .delete,some [m,k]=>(match c.argTypes.toList with| [t,_]=>Fb P t m k K h|_=>False)
  | .value f,some args=>U8 P f r args o.type K h
  |_,_=>False)
 |_=>False
def wR(P:Program):Op→Bool
 | .convert s d _=> !VV P s d
 | .alloc _| .box .. | .buildSlice .. | .store .. | .mapUpdate .. | .insert .. | .makeMap .. | .makeSlice .. | .range .. | .next .. =>false
 | .call c=>match c.callee with
  | .builtin .len| .builtin .cap| .builtin .min| .builtin .max| .builtin .unsafeSliceData=>true
  |_=>false
 |_=>true
def Ay(N:Nat)(o:Oper)(v:Value)(r:cB)(K:cB→Prop):Prop:=
 match o.dst with
 |none=>K r
 |some d=>bif yQ d N then K ((d,v)::r)else False
noncomputable def Wi(P:Program)(N:Nat)(ek:Option (Kind×Kind))(o:Oper)(r:cB)(K:cB→ad→Prop)(h:ad):Prop:=
 bif wR P o.op then CE P ek o.op r (fun v _=>Ay N o v r fun a=>K a h) h
 else Hg P o r (fun v h'=>Ay N o v r fun a=>K a h') h
inductive DV where
 |f|t|u|x
abbrev vP:=List (Nat×DV)
noncomputable def rM(d:vP)(t:Nat):DV:=
 fc (motive:=fun _=>DV) .x (fun a _ b=>bif av a.1 t then a.2 else b) d
noncomputable def BE(d:vP):Operand→DV
 | .tmp t=>rM d t
 | .const (.bool true)=>.t
 | .const (.bool false)=>.f
 |_=>.x
noncomputable def KV(d:vP):Op→DV
 | .move x=>BE d x
 | .assign x=>BE d x
 | .pick c a b=>match BE d c with
  | .t=>BE d a
  | .f=>BE d b
  |_=>.x
 | .unOp .not _ x=>match BE d x with
  | .t=>.f
  | .f=>.t
  |_=>.x
 |_=>.x
def sg(d:vP)(o:Oper)(v:DV):vP:=match o.dst with|some t=>(t,v)::d|none=>d
noncomputable def iA(ops:List Oper)(d:vP)(o:Oper):Option Bool:=
 match o.guard with
 |none=>some true
 |some (j,want)=>match ops[j]? with
  |none=>none
  |some oj=>match oj.dst with
   |none=>none
   |some t=>match rM d t with
    | .t=>some want
    | .f=>some (!want)
    | .u=>some false
    | .x=>none
def F9(ops:List Oper)(o:Oper):Option Nat:=
 match o.guard with
 |none=>none
 |some (j,_)=>match ops[j]? with
  |none=>none
  |some oj=>oj.dst
noncomputable def Ie(P:Program)(N:Nat)(ek:Option (Kind×Kind))(ops:List Oper)(o:Oper)(d:vP)(r:cB)(h:ad)(K:vP→cB→ad→Prop):Prop:=
 match iA ops d o with
 |some true=>Wi P N ek o r (K (sg d o (KV d o.op))) h
 |some false=>Ay N o undef r fun a=>K (sg d o .u) a h
 |none=>False
noncomputable def FC(P:Program)(N:Nat)(ek:Option (Kind×Kind))(ops:List Oper)(l:List Oper):vP→(cB→ad→Prop)→cB→ad→Prop:=
 fc (motive:=fun _=>vP→(cB→ad→Prop)→cB→ad→Prop) (fun _ K r h=>K r h)
  (fun o _ c d K r h=>
  match iA ops d o with
  |some true=>Wi P N ek o r (fun a h'=>c (sg d o (KV d o.op)) K a h') h
  |some false=>Ay N o undef r fun a=>c (sg d o .u) K a h
  |none=>match F9 ops o with
   |none=>False
   |some t=>match jZ r t with
    |some (.bool b)=>CondP b
     (Ie P N ek ops o ((t,.t)::d) ((t,.bool true)::r) h fun e a h'=>c e K a h')
     (Ie P N ek ops o ((t,.f)::d) ((t,.bool false)::r) h fun e a h'=>c e K a h')
    |_=>False) l
inductive DA where
 |done
 |take (i:Nat) (rest:DA)
 |all (l:DA)
 |pick (i:Nat) (rest more:DA)
 |last (i:Nat) (rest:DA)
 |lastT (i:Nat) (rest:DA)
 |split (t:Nat) (yes no:DA)
abbrev rt:=List (Nat×(ad→Prop))
def tb(m i:Nat):Bool:=av (jl (Nat.shiftRight m i) 1) 1
def gn(i:Nat):Nat:=Nat.pow 2 i
inductive DM where
 |mk (am fr lk ds:Nat)
def DM.am:DM→Nat| .mk a _ _ _=>a
def DM.fr:DM→Nat| .mk _ f _ _=>f
def DM.lk:DM→Nat| .mk _ _ l _=>l
def DM.ds:DM→Nat| .mk _ _ _ d=>d
def iC(o:Oper)(i:Nat):Bool:=o.after.toList.any fun e=>av e.on i&&Region.binds .any e
noncomputable def mq(l:List Edge):Nat:=
 fc (motive:=fun _=>Nat) 0 (fun e _ a=>bif Region.binds .any e then cS (gn e.on) a else a) l
noncomputable def lC(l:List Operand):Nat:=
 fc (motive:=fun _=>Nat) 0 (fun o _ a=>match o with| .tmp t=>cS (gn t) a|_=>a) l
def nF(o:Oper):Nat:=match o.dst with|some d=>gn d|none=>0
noncomputable def nX(ops:List Oper)(o:Oper):Nat:=
 cS (lC o.op.operands.toList) (match o.guard with
  |some (g,_)=>(match ops[g]? with|some og=>nF og|none=>0)
  |none=>0)
noncomputable def xz(ops:List Oper)(l:List Oper):List DM→Bool:=
 fc (motive:=fun _=>List DM→Bool) (fun ms=>match ms with| []=>true|_=>false)
  (fun o _ a ms=>match ms with
   |m::ms=>av (mq o.after.toList) m.am&&av (nX ops o) m.lk&&av (nF o) m.ds&&a ms
   | []=>false) l
def Dg(x y:DM):Bool:=av (jl x.ds (cS y.lk y.ds)) 0&&av (jl y.ds x.lk) 0
noncomputable def IS(i:Nat)(m:DM)(l:List DM):Nat→Bool:=
 fc (motive:=fun _=>Nat→Bool) (fun _=>true)
  (fun n _ a j=>(!(tb m.fr j)||av j i||tb n.am i||Dg m n)&&a (fq j)) l
noncomputable def Bz(a:List DM)(l:List DM):Nat→Bool:=
 fc (motive:=fun _=>Nat→Bool) (fun _=>true) (fun m _ b i=>IS i m a 0&&b (fq i)) l
def LL:List Oper→Bool
 | []=>true
 |o::os=>(match o.op with| .select .. =>false| .defer _=>false|_=>true)&&LL os
noncomputable def E0(ops:List Oper)(ms:List DM):Bool:=xz ops ops ms&&Bz ms ms 0&&LL ops
def oB(o:Oper):rt→rt
 | []=> []
 |(k,S)::l=>bif iC o k then oB o l else(k,S)::oB o l
def sI:rt→ad→Prop→Prop
 | [],_,R=>R
 |(_,S)::l,h,R=>S h∧sI l h R
def Im(m:DM)(ls:Nat):Bool:=av (jl m.am ls) m.am
noncomputable def lI(ls:Nat)(l:List DM):Nat→List Nat:=
 fc (motive:=fun _=>Nat→List Nat) (fun _=> []) (fun m _ a j=>bif !(tb ls j)&&Im m ls then j::a (fq j)else a (fq j)) l
def Fs(m:DM)(i ls n:Nat):Bool:= !(tb ls i)&&Im m ls&&av (jl (cS ls m.fr) (yz (gn n))) (yz (gn n))
def wa:List Nat→List Nat→Bool
 | [],[]=>true
 |a::as,b::bs=>av a b&&wa as bs
 |_,_=>false
def C6:DA→List Nat
 | .pick i _ l=>i::C6 l
 | .last i _=> [i]
 | .lastT i _=> [i]
 |_=> []
noncomputable def PM(P:Program)(N:Nat)(ops:List Oper)(i:Nat)(L:rt)(d:vP)(r:cB)(h:ad)(K:rt→vP→cB→ad→Prop):Prop:=
 match ops[i]? with
 |none=>False
 |some o=>match iA ops d o with
  |some true=>bif wR P o.op then CE P none o.op r (fun v _=>Ay N o v r fun a=>sI (oB o L) h (K (oB o L) (sg d o .x) a h)) h else Hg P o r (fun v h'=>Ay N o v r fun a=>sI (oB o L) h' (K (oB o L) (sg d o .x) a h')) h
  |_=>False
noncomputable def QW(m:Nat)(l:List DM):Nat→Nat:=
 fc (motive:=fun _=>Nat→Nat) (fun _=>m) (fun n _ a j=>bif tb m j then cS n.am (a (fq j))else a (fq j)) l
noncomputable def BG(ms:List DM)(m:Nat):Nat:=QW (QW (QW (QW m ms 0) ms 0) ms 0) ms 0
def Kq(ms:List DM)(i:Nat):Nat:=match ms[i]? with|some m=>m.am|none=>0
def Bh(m:Nat):rt→rt
 | []=> []
 |(k,S)::l=>bif tb m k then Bh m l else(k,S)::Bh m l
noncomputable def O4(P:Program)(N:Nat)(ops:List Oper)(ms:List DM)(i:Nat)(L:rt)(d:vP)(r:cB)(h:ad)(K:rt→vP→cB→ad→Prop):Prop:=
 match ops[i]? with
 |none=>False
 |some o=>match iA ops d o with
  |some true=>bif wR P o.op then False else Hg P o r (fun v h'=>Ay N o v r fun a=>sI (Bh (BG ms (Kq ms i)) L) h' (K (Bh (BG ms (Kq ms i)) L) (sg d o .x) a h')) h
  |_=>False
noncomputable def mY(P:Program)(N:Nat)(ops:List Oper)(ms:List DM)(k:DA):Bool→Nat→rt→vP→(cB→ad→Prop)→cB→ad→Prop:=
 DA.rec (motive:=fun _=>Bool→Nat→rt→vP→(cB→ad→Prop)→cB→ad→Prop)
  (fun m ls _ _ K r h=>bif !m&&wa (lI ls ms 0) []then K r h else False)
  (fun i _ c m ls L d K r h=>
   match ops[i]?,ms[i]? with
   |some o,some mi=>bif !m&&Fs mi i ls ops.length then
     (match iA ops d o with
      |none=>False
      |some false=>Ay N o undef r fun a=>c false (cS ls (gn i)) L (sg d o .u) K a h
      |some true=>bif wR P o.op then
       CE P none o.op r (fun v S=>Ay N o v r fun a=>match S with
        |none=>c false (cS ls (gn i)) L (sg d o (KV d o.op)) K a h
        |some S=>c false (cS ls (gn i)) ((i,S)::L) (sg d o (KV d o.op)) K a h) h
       else False)
    else False
   |_,_=>False)
  (fun l c m ls L d K r h=>bif !m&&wa (lI ls ms 0) (C6 l)then c true ls L d K r h else False)
  (fun i _ _ e f m ls L d K r h=>bif m then PM P N ops i L d r h (fun j g a h'=>e false (cS ls (gn i)) j g K a h')∧f true ls L d K r h else False)
  (fun i _ c m ls L d K r h=>bif m then PM P N ops i L d r h (fun j g a h'=>c false (cS ls (gn i)) j g K a h')else False)
  (fun i _ c m ls L d K r h=>bif m then O4 P N ops ms i L d r h (fun j g a h'=>c false (cS ls (gn i)) j g K a h')else False)
  (fun t _ _ e f m ls L d K r h=>
   bif m then False else match jZ r t with
   |some (.bool b)=>CondP b (e false ls L ((t,.t)::d) K ((t,.bool true)::r) h) (f false ls L ((t,.f)::d) K ((t,.bool false)::r) h)
   |_=>False)
  k
noncomputable def X7(_:Oper)(i:Nat)(ds lk:Nat)(ops:List Oper)(l:List Oper):Nat→Nat:=
 fc (motive:=fun _=>Nat→Nat) (fun _=>0) (fun p _ a j=>bif (av j i||iC p i||(av (jl ds (cS (nX ops p) (nF p))) 0&&av (jl (nF p) lk) 0))then cS (gn j) (a (fq j))else a (fq j)) l
noncomputable def XR(ops:List Oper)(l:List Oper):Nat→List DM:=
 fc (motive:=fun _=>Nat→List DM) (fun _=> []) (fun o _ a i=>.mk (mq o.after.toList) (X7 o i (nF o) (nX ops o) ops ops 0) (nX ops o) (nF o)::a (fq i)) l
def Wq(P:Program)(w:Option Bool)(o:Oper):Bool:=match w with|some false=>true|some true=>wR P o.op|none=>false
noncomputable def VZ(P:Program)(ops:List Oper)(d:vP)(ls n:Nat)(l:List Oper):List DM→Nat→Option (Nat×Oper):=
 fc (motive:=fun _=>List DM→Nat→Option (Nat×Oper)) (fun _ _=>none)
  (fun o _ a ms j=>match ms with
   | []=>none
   |m::ms=>bif Fs m j ls n&&Wq P (iA ops d o) o then some (j,o)else a ms (fq j)) l
noncomputable def V0(ops:List Oper)(d:vP)(ls:Nat)(l:List Oper):List DM→Nat→Option Nat:=
 fc (motive:=fun _=>List DM→Nat→Option Nat) (fun _ _=>none)
  (fun o _ a ms j=>match ms with
   | []=>none
   |m::ms=>match bif !(tb ls j)&&Im m ls then(match iA ops d o with|none=>F9 ops o|some _=>none)else none with
    |some t=>some t
    |none=>a ms (fq j)) l
noncomputable def WN(ops:List Oper)(k:Nat→vP→DA)(ls:Nat)(d:vP)(l:List Nat):DA:=
 fc (motive:=fun _=>DA) .done (fun i a b=>match ops[i]? with
  |none=>.done
  |some o=>match a with
   | []=>.last i (k (cS ls (gn i)) (sg d o .x))
   |_=>.pick i (k (cS ls (gn i)) (sg d o .x)) b) l
noncomputable def Wd(P:Program)(ops:List Oper)(ms:List DM)(a:Nat):Nat→vP→DA:=
 Nat.rec (motive:=fun _=>Nat→vP→DA) (fun _ _=>.done) (fun _ b ls d=>
  match VZ P ops d ls ops.length ops ms 0 with
  |some (i,o)=>.take i (b (cS ls (gn i)) (match iA ops d o with|some false=>sg d o .u|_=>sg d o (KV d o.op)))
  |none=>match V0 ops d ls ops ms 0 with
   |some t=>.split t (b ls ((t,.t)::d)) (b ls ((t,.f)::d))
   |none=>match lI ls ms 0 with
    | []=>.done
    |l=>.all (WN ops b ls d l)) a
noncomputable def O9(ops:List Oper):List DM:=XR ops ops 0
inductive Ex where
 |exit (id:Nat)
 |ret
abbrev St:=List (Nat×Kind)
def Ae:St→List Kind
 | []=> []
 |(_,k)::l=>k::Ae l
noncomputable def Fx(r:cB):St→Option (List Value)
 | []=>some []
 |(i,_)::l=>match jZ r i,Fx r l with
  |some v,some vs=>some (v::vs)
  |_,_=>none
noncomputable def DH(st:St)(r:cB)(f:uc (Ae st)→Prop):Prop:=
 match Fx r st with
 |some vs=>Eu (Ae st) vs f
 |none=>False
def nu:St→List Value→cB→cB
 |(i,_)::l,v::vs,r=>(i,v)::nu l vs r
 |_,_,r=>r
noncomputable def Pd(r:cB)(l:List Nat):Option cB:=
 fc (motive:=fun _=>Option cB) (some []) (fun t _ a=>match jZ r t,a with
  |some v,some l=>some ((t,v)::l)
  |_,_=>none) l
noncomputable def lB(t:Nat)(l:List Oper):Bool:=
 fc (motive:=fun _=>Bool) false (fun o _ a=>match o.dst with|some d=>bif av d t then true else a|none=>a) l
noncomputable def fW(t:Nat)(c:Code):Bool:=
 Code.rec (motive:=fun _=>Bool) false (fun _ ops _=>lB t ops.toList) (fun _ _ a b=>bif a then true else b) (fun _ _ _ a b=>bif a then true else b)
  (fun _ _ b=>b) (fun _ b=>b) (fun _ _ _ _ _ _=>true) (fun _=>false) (fun _ b=>b) (fun _=>false) (fun _=>false) false (fun _=>false) c
inductive Ann where
 |nil
 |node (a b:Ann)
 |join (st:St) (a b:Ann)
 |loop (st:St) (b:Ann)
 |draw (d:DA)
 |kinds (k v:Kind)
 |reg (keep:List Nat) (inner:Ann)
 |rf (ks:List Kind) (a b:Ann)
def Ann.l:Ann→Ann
 | .node a _=>a
 | .rf _ a _=>a
 |_=>.nil
def Ann.r:Ann→Ann
 | .node _ b=>b
 | .rf _ _ b=>b
 |_=>.nil
noncomputable def Rd(l:List Oper):Nat:=fc (motive:=fun _=>Nat) 0 (fun o _ a=>cS (nF o) a) l
def WP:Option Nat→Option Nat→Option Nat
 |some a,some b=>some (cS a b)
 |_,_=>none
noncomputable def zq(c:Code):Option Nat:=
 Code.rec (motive:=fun _=>Option Nat) (some 0) (fun _ ops _=>some (Rd ops.toList)) (fun _ _ a b=>WP a b) (fun _ _ _ a b=>WP a b)
  (fun _ _ b=>b) (fun _ b=>b) (fun _ _ _ _ _ _=>none) (fun _=>some 0) (fun _ b=>b) (fun _=>some 0) (fun _=>some 0) (some 0) (fun _=>some 0) c
noncomputable def xD(m:Nat)(r:cB):cB:=fc (motive:=fun _=>cB) [] (fun b _ a=>bif tb m b.1 then a else b::a) r
noncomputable def CN(P:Program)(N:Nat)(ops:List Oper)(b:Bool)(a:Ann)(Kn:cB→ad→Prop)(r:cB)(h:ad):Prop:=
 match b with
 |false=>(match a with
  | .kinds kk vk=>FC P N (some (kk,vk)) ops ops [] Kn r h
  |_=>FC P N none ops ops [] Kn r h)
 |true=>bif E0 ops (O9 ops)then mY P N ops (O9 ops) (match a with| .draw da=>da|_=>Wd P ops (O9 ops) (Nat.add (Nat.add ops.length ops.length) 2) 0 []) false 0 [] [] Kn r h else False
noncomputable def kJ(P:Program)(N:Nat)(c:Code):Ann→(cB→ad→Prop)→(Ex→cB→ad→Prop)→cB→ad→Prop:=
 Code.rec (motive:=fun _=>Ann→(cB→ad→Prop)→(Ex→cB→ad→Prop)→cB→ad→Prop)
  (fun _ Kn _ r h=>Kn r h)
  (fun _ ops p d Kn _ r h=>match d with
   | .reg keep d=>CN P N ops.toList p d (fun f h'=>match Pd f keep with|some r0=>Kn r0 h'|none=>False) r h
   |d=>CN P N ops.toList p d Kn r h)
  (fun a _ j g d Kn Kx r h=>match d with
   | .join st aa ab=>(match zq a with
     |none=>False
     |some m=>Join (T:=uc (Ae st)) (fun t h'=>g ab Kn Kx (nu st (lO (Ae st) t) (xD m r)) h')
      fun J=>j aa (fun f h'=>DH st f fun t=>J t h') Kx r h)
   |d=>j d.l (fun f h'=>g d.r Kn Kx f h') Kx r h)
  (fun c _ _ j g d Kn Kx r h=>match cZ r c with
   |some (.bool t)=>CondP t (j d.l Kn Kx r h) (g d.r Kn Kx r h)
   |_=>False)
  (fun id _ n d Kn Kx r h=>n d Kn (fun e f h'=>match e with
    | .exit i=>bif av i id then Kn f h' else Kx (.exit i) f h'
    | .ret=>Kx .ret f h') r h)
  (fun b n d _ Kx r h=>match d with
   | .loop st ab=>(match zq b with
     |none=>False
     |some m=>DH st r fun s=>LoopP (T:=uc (Ae st)) (fun k t h'=>n ab (fun f o=>DH st f fun q=>k q o) Kx (nu st (lO (Ae st) t) (xD m r)) h') s h)
   |_=>False)
  (fun _ _ _ _ _ _ _ _ _ _ _=>False)
  (fun id _ _ Kx r h=>Kx (.exit id) r h)
  (fun _ _ _ _ _ _ _=>False)
  (fun _ _ Kn _ r h=>Kn r h)
  (fun _ _ _ _ _ _=>False)
  (fun _ _ Kx r h=>Kx .ret r h)
  (fun _ _ _ _ _ _=>False)
  c
noncomputable def nA(P:Program)(r:cB)(h:ad):List ResultVar→(List Value→Prop)→Prop
 | [],K=>K []
 | .tmp t::l,K=>(match jZ r t with|some v=>nA P r h l fun vs=>K (v::vs)|none=>False)
 | .cell a t::l,K=>(match jZ r a with
  |some v=>Lv P t v (fun x _=>nA P r h l fun vs=>K (x::vs)) h
  |none=>False)
def qp:Nat→List Value→cB
 |_,[]=> []
 |i,v::vs=>(i,v)::qp (i+1) vs
noncomputable def Ig(P:Program)(fn:Func)(c:Code)(a:Ann)(args:List Value)(ks:List Kind)(K:uc ks→ad→Prop)(h:ad):Prop:=
 kJ P fn.ntmps c a
  (fun r h'=>nA P r h' fn.results.toList fun vs=>Eu ks vs fun t=>K t h')
  (fun e r h'=>match e with
   | .ret=>nA P r h' fn.results.toList fun vs=>Eu ks vs fun t=>K t h'
   | .exit _=>False)
  (qp 0 args) h
def Gt:List Oper→Option (Oper×Oper×Operand×Nat×FuncId×List Operand)
 | [m,o]=>match m.op,m.guard,m.dst,o.op,o.dst,o.guard with
  | .move x,none,some d,.defer c,none,none=>(match c.callee with
   | .value (.func f)=>some (m,o,x,d,f,c.args.toList)
   |_=>none)
  |_,_,_,_,_,_=>none
 |_=>none
inductive Mk where
 |it (n:Nat)
 |call (f:FuncId) (vs:List Value)
def HD(P:Program)(f:FuncId)(args:List Value)(K:ad→Prop)(h:ad):Prop:=
 ∀w:World,w.heap=h→(∀(args:Array Value) (w:World),(callFunc f args).run P w=.ok (.enter f args) w)∧∀n:Nat,CallsDIn {fn:=fun _=>True,depth:=none,alive:=false,round:=none} n P f args.toArray .returning w fun e u w'=>u=.returning∧Tame w w'∧(∃v,e=.returned v)∧K w'.heap
noncomputable def sJ(c:Code):Bool:=
 Code.rec (motive:=fun _=>Bool) false (fun _ ops _=>(Gt ops.toList).isSome) (fun _ _ a b=>bif a then true else b) (fun _ _ _ a b=>bif a then true else b)
  (fun _ _ b=>b) (fun _ b=>b) (fun _ _ _ _ _ _=>true) (fun _=>false) (fun _ b=>b) (fun _=>false) (fun _=>false) false (fun _=>false) c
def J0:Option Ex→Option Code
 |none=>none
 |some (.exit i)=>some (.exit i)
 |some .ret=>some .ret
def X8(N:ad→Prop)(X:Nat→ad→Prop)(R:ad→Prop):Option Ex→ad→Prop
 |none=>N
 |some (.exit i)=>X i
 |some .ret=>R
structure RangeP(P:Program)(fv:Value)(ks:List Kind)(h:ad)(RT:Obj→Obj→uc ks→(Option Ex→ad→Prop)→ad→Prop)(N:ad→Prop)(X:Nat→ad→Prop)(R:ad→Prop):Prop where
 run:∀lo:LoopState→Option Ex→Obj,(∀s j,∃r,lo s j=.loop r)→
  (∀x h' K,h'[h.size+1]? =some (lo .ready none)→
   RT (lo .ready none) (lo .busy none) x (fun j h2=>h2[h.size+1]? =some (lo .busy none)∧K j.isNone (h2.setIfInBounds (h.size+1) (lo (if j.isNone then .ready else .done) j))) h'→
   HV P (.func (.yield (h.size+1)) #[] #[]) (lO ks x) [.c .bool] K h')→
  ∃f first cap,fv=.func (.func f) first cap∧HE P f (first.toList++ [.func (.yield (h.size+1)) #[] #[]]++cap.toList) []
   (fun _ h2=>∃s j,s≠ .busy∧h2[h.size+1]? =some (lo s j)∧X8 N X R j (h2.setIfInBounds (h.size+1) (lo .exhausted j))) ((h.push (.deferred (some []))).push (lo .ready none))
def TU:List Nat→List Value→cB→cB
 |i::l,v::vs,r=>TU l vs ((i,v)::r)
 |_,_,r=>r
noncomputable def Nb(P:Program)(N:Nat)(ps:List Nat)(ks:List Kind)(assign body:Code)(c:Ann)(r:cB)(l:Nat)(Im d:Obj)(x:uc ks)(k:Option Ex→ad→Prop)(h:ad):Prop:=
 kJ P N assign c.l (fun f b=>b[l]? =some Im∧kJ P N body c.r (fun _ a=>k none a) (fun e _ a=>k (some e) a) f (b.setIfInBounds l d)) (fun _ _ _=>False) (TU ps (lO ks x) r) h
def Ao(N:Nat):List Nat→Bool
 | []=>true
 |n::l=>yQ n N&&Ao N l
noncomputable def Ah(P:Program)(N:Nat)(c:Code):Ann→(List Mk→cB→ad→Prop)→(Ex→List Mk→cB→ad→Prop)→List Mk→cB→ad→Prop:=
 Code.rec (motive:=fun _=>Ann→(List Mk→cB→ad→Prop)→(Ex→List Mk→cB→ad→Prop)→List Mk→cB→ad→Prop)
  (fun j Kn Kx ms r h=>kJ P N .skip j (Kn ms) (fun e=>Kx e ms) r h)
  (fun id ops p j Kn Kx ms r h=>match Gt ops.toList with
   |none=>kJ P N (.region id ops p) j (Kn ms) (fun e=>Kx e ms) r h
   |some (_,_,x,d,f,as)=>bif p then False else match cZ r x with
    |some v=>bif yQ d N then(match nN ((d,v)::r) as with|some vs=>Kn (.call f vs::ms) ((d,v)::r) h|none=>False)else False
    |none=>False)
  (fun a b n m j Kn Kx ms r h=>bif (bif sJ a then true else sJ b)then n j.l (fun ms o h'=>m j.r Kn Kx ms o h') Kx ms r h
   else kJ P N (.seq a b) j (Kn ms) (fun e=>Kx e ms) r h)
  (fun c a b n m j Kn Kx ms r h=>bif (bif sJ a then true else sJ b)then
    (match cZ r c with
     |some (.bool t)=>CondP t (n j.l Kn Kx ms r h) (m j.r Kn Kx ms r h)
     |_=>False)
   else kJ P N (.cond c a b) j (Kn ms) (fun e=>Kx e ms) r h)
  (fun id b s j Kn Kx ms r h=>bif sJ b then s j Kn (fun e ms o h'=>match e with
    | .exit i=>bif av i id then Kn ms o h' else Kx (.exit i) ms o h'
    | .ret=>Kx .ret ms o h') ms r h
   else kJ P N (.block id b) j (Kn ms) (fun e=>Kx e ms) r h)
  (fun b _ j Kn Kx ms r h=>kJ P N (.loop b) j (Kn ms) (fun e=>Kx e ms) r h)
  (fun g ps assign body _ _ j Kn Kx ms r h=>match j with
   | .rf ks aa ab=>bif Ao N ps.toList&&av ps.toList.length ks.length then
    (match cZ r g with
     |some fv=>RangeP P fv ks h (fun Im q x k h'=>Nb P N ps.toList ks assign body (.node aa ab) r (h.size+1) Im q x k h')
      (fun h'=>Kn (.it h.size::ms) r h') (fun i h'=>Kx (.exit i) (.it h.size::ms) r h') (fun h'=>Kx .ret (.it h.size::ms) r h')
     |none=>False)else False
   |_=>False)
  (fun id j Kn Kx ms r h=>kJ P N (.exit id) j (Kn ms) (fun e=>Kx e ms) r h)
  (fun _ _ _ _ _ _ _ _=>False)
  (fun l j Kn Kx ms r h=>kJ P N (.label l) j (Kn ms) (fun e=>Kx e ms) r h)
  (fun _ _ _ _ _ _ _=>False)
  (fun j Kn Kx ms r h=>kJ P N .ret j (Kn ms) (fun e=>Kx e ms) r h)
  (fun _ _ _ _ _ _ _=>False)
  c
def Lk(P:Program):List Mk→(ad→Prop)→ad→Prop
 | [],K,h=>K h
 | .it D::ms,K,h=>h[D]? =some (.deferred (some []))∧Lk P ms K (h.setIfInBounds D (.deferred none))
 | .call f vs::ms,K,h=>HD P f vs (fun h'=>Lk P ms K h') h
noncomputable def Nc(P:Program)(fn:Func)(c:Code)(a:Ann)(args:List Value)(ks:List Kind)(K:uc ks→ad→Prop)(h:ad):Prop:=
 Ah P fn.ntmps c a
  (fun ms r h'=>Lk P ms (fun h'=>nA P r h' fn.results.toList fun vs=>Eu ks vs fun t=>K t h') h')
  (fun e ms r h'=>match e with
   | .ret=>Lk P ms (fun h'=>nA P r h' fn.results.toList fun vs=>Eu ks vs fun t=>K t h') h'
   | .exit _=>False)
  [] (qp 0 args) h
end Go.Lift
namespace Go.Lift
open Go
theorem GH(a:Addr):adr a 0=a:=rfl
theorem BP(a:Addr)(n:Nat):adr a (n+1)=⟨a.block,a.off+(n+1),none⟩:=rfl
theorem uV(a:Addr)(n:Nat):adr a n=a.add n:=by
 cases n with
 |zero=>simp[GH,Addr.add]
 |succ n=>simp[BP,Addr.add]
theorem yO(a:Addr)(m n:Nat):adr (adr a m) n=adr a (m+n):=by
 cases n with
 |zero=>rfl
 |succ n=>cases m with
  |zero=>simp[GH]
  |succ m=>rw[BP,BP,show m+1+(n+1)=(m+1+n)+1 from rfl,BP];simp;omega
theorem Tame.refl(w:World):Tame w w:=⟨rfl,rfl,rfl⟩
theorem Tame.trans{a b c:World}(h:Tame a b)(k:Tame b c):Tame a c:=⟨k.os.trans h.os,k.tape.trans h.tape,k.output.trans h.output⟩
theorem Bv{a b:IntKind}(h:JU a b=true):a=b:=by cases a<;>cases b<;>first|rfl|cases h
theorem CK.dec_sound{c:CK}{v:Value}{f:c.den→Prop}(h:c.dec v f):∃x,v=c.enc x∧f x:=by
 cases c<;>cases v<;>try simp only[CK.dec]at h
 case int.int k k' n=>
  cases hk:JU k' k with
  |false=>rw[hk]at h;exact h.elim
  |true=>rw[hk]at h;have:=Bv hk;subst this;exact⟨n,rfl,h⟩
 case adr.pointer p=>cases p with
  |none=>exact h.elim
  |some a=>exact⟨a,rfl,h⟩
 all_goals first|exact h.elim|exact⟨_,rfl,h⟩
theorem D0:∀{cs:List CK} {vs:List Value} {f:TF cs→Prop},Ps cs vs f→∃t,vs=Tj cs t∧f t
 | [],[],f,h=>⟨(),rfl,h⟩
 | [],_::_,f,h=>h.elim
 | [c],[v],f,h=>by obtain⟨x,rfl,e⟩:=CK.dec_sound h;exact⟨x,rfl,e⟩
 | [c],[],f,h=>h.elim
 | [c],_::_::_,f,h=>h.elim
 |c::d::cs,[],f,h=>h.elim
 |c::d::cs,[_],f,h=>h.elim
 |c::d::cs,v::u::vs,f,h=>by
  have b:c.dec v fun x=>Ps (d::cs) (u::vs) fun t=>f (x,t):=h
  obtain⟨x,hx,a⟩:=CK.dec_sound b;obtain⟨t,g,i⟩:=D0 (cs:=d::cs) (vs:=u::vs) a;exact⟨(x,t),by rw[g,hx];rfl,i⟩
theorem Kind.dec_sound{k:Kind}{v:Value}{f:k.den→Prop}(h:k.dec v f):∃x,v=k.enc x∧f x:=by
 cases k with
 |c k=>exact CK.dec_sound h
 |agg cs=>
  cases v<;>simp only[Kind.dec]at h
  case agg vs=>
   obtain⟨t,a,b⟩:=D0 h;exact⟨t,by simp only[Kind.enc,←a],b⟩
theorem ta:∀{ks:List Kind} {vs:List Value} {f:uc ks→Prop},Eu ks vs f→∃t,vs=lO ks t∧f t
 | [],[],f,h=>⟨(),rfl,h⟩
 | [],_::_,f,h=>h.elim
 | [c],[v],f,h=>by obtain⟨x,rfl,e⟩:=Kind.dec_sound h;exact⟨x,rfl,e⟩
 | [c],[],f,h=>h.elim
 | [c],_::_::_,f,h=>h.elim
 |c::d::cs,[],f,h=>h.elim
 |c::d::cs,[_],f,h=>h.elim
 |c::d::cs,v::u::vs,f,h=>by
  have b:c.dec v fun x=>Eu (d::cs) (u::vs) fun t=>f (x,t):=h
  obtain⟨x,hx,a⟩:=Kind.dec_sound b;obtain⟨t,g,i⟩:=ta (ks:=d::cs) (vs:=u::vs) a;exact⟨(x,t),by rw[g,hx];rfl,i⟩
theorem tY:∀(ks:List Kind) (t:uc ks),(lO ks t).length=ks.length
 | [],_=>rfl
 | [_],_=>rfl
 |_::l::ks,(_,t)=>by simp only[lO,aG,tY (l::ks) t]
structure Agree(N:Nat)(r:cB)(a:Act):Prop where
 size:a.tmps.size=N
 look:∀t v,jZ r t=some v→a.tmps.getD t undef=v
theorem hG(k:Nat)(v:Value)(r:cB):jZ ((k,v)::r) k=some v:=by rw[FG,show av k k=true from Nat.beq_refl k];rfl
theorem gq{k t:Nat}(v:Value)(r:cB)(h:k≠t):jZ ((k,v)::r) t=jZ r t:=by
 rw[FG];have:av k t=false:=Bool.eq_false_iff.2 fun e=>h (aS e)
 rw[this];rfl
theorem Agree.put{N:Nat}{r:cB}{a:Act}(h:Agree N r a)(d:Nat)(v:Value)(hd:d<N):Agree N ((d,v)::r) (a.put (some d) v):=by
 refine⟨by simp[Act.put,h.size],fun t u b=>?_⟩
 by_cases e:d=t
 ·subst e
  rw[hG]at b;cases b;simp[Act.put,h.size,hd]
 ·rw[gq v r e]at b
  have:=h.look t u b;simpa[Act.put,Array.getElem?_setIfInBounds_ne e]using this
theorem Agree.known{N:Nat}{r:cB}{a:Act}(h:Agree N r a){t:Nat}{v:Value}(c:jZ r t=some v):Agree N ((t,v)::r) a:=by
 refine⟨h.size,fun s u b=>?_⟩
 by_cases e:t=s
 ·subst e;rw[hG]at b;cases b;exact h.look t v c
 ·rw[gq v r e]at b;exact h.look s u b
theorem j1{N:Nat}{r:cB}{a:Act}(h:Agree N r a){o:Operand}{v:Value}(b:cZ r o=some v):a.eval o=v:=by
 cases o with
 |tmp t=>exact h.look t v b
 |const c=>simp[cZ]at b;subst b;rfl
 |global g=>simp[cZ]at b;subst b;rfl
 |func f=>simp[cZ]at b;subst b;rfl
theorem l4{N:Nat}{r:cB}{a:Act}(h:Agree N r a):∀{os:List Operand} {vs:List Value},nN r os=some vs→os.map a.eval=vs
 | [],vs,hv=>by simp[nN]at hv;subst hv;rfl
 |o::os,vs,hv=>by
  simp only[nN]at hv;cases ho:cZ r o with
  |none=>simp[ho]at hv
  |some v=>cases hos:nN r os with
   |none=>simp[ho,hos]at hv
   |some us=>simp[ho,hos]at hv;subst hv;simp[j1 h ho,l4 h hos]
theorem ay{P:Program}{t:TypeId}{d:TypeDesc}(h:P.underlying t=some d)(w:World):(underlying t).run P w=.ok d w:=by
 simp only[underlying,program,bind,Sem.bind,nG,h,pure]
theorem cP{P:Program}{t:TypeId}{i:TypeInfo}(h:P.info? t=some i)(w:World):(typeInfo t).run P w=.ok i w:=by
 simp only[typeInfo,program,bind,Sem.bind,nG,h,pure]
theorem ib{P:Program}{s:Sem Value}{v:Value}{w w':World}(h:s.run P w=.ok v w'):(do pure (Next.value (←s)):Sem Next).run P w=.ok (.value v) w':=by
 simp[h]
theorem RW{P:Program}{s:Sem Unit}{w w':World}(h:s.run P w=.ok () w'):(do s;pure Next.skip:Sem Next).run P w=.ok .skip w':=by
 simp[h]
theorem Be{P:Program}{w:World}{a:Addr}{v:Value}(h:aC w.heap a=some v):(load a).run P w=.ok v w:=by
 have h':w.cell? a=some v:=h;simp[h']
theorem BJ{v:Value}{vs:List Value}{i:Nat}{a:Addr}{h:ad}:ua (v::vs) i a h↔aC h (adr a i)=some v∧ua vs (i+1) a h:=by
 cases vs with
 |nil=>simp[ua]
 |cons u us=>rfl
theorem tO{P:Program}{w:World}{a:Addr}:∀(vs:List Value) (i:Nat) (acc:Array Value),ua vs i a w.heap→
  (loadCellsFrom a i vs.length acc).run P w=.ok (acc++vs.toArray) w
 | [],i,acc,_=>by simp[loadCellsFrom]
 |v::vs,i,acc,h=>by
  obtain⟨b,c⟩:=BJ.1 h;rw[uV]at b;have:=tO (P:=P) (w:=w) (a:=a) vs (i+1) (acc.push v) c;simp only[aG,loadCellsFrom,aO,Be b,az,this];simp
theorem Hj{P:Program}{w:World}{a:Addr}{vs:List Value}(h:ua vs 0 a w.heap):(loadCells a vs.length).run P w=.ok vs.toArray w:=by
 have:=tO (P:=P) (w:=w) (a:=a) vs 0 #[] h;simpa[loadCells]using this
theorem zC:∀(cs:List CK) (i:Nat) (a:Addr) (h:ad) (k:List Value→Prop),Ka cs i a h k→∃vs,vs.length=cs.length∧ua vs i a h∧k vs
 | [],i,a,h,k,b=>⟨[],rfl,trivial,b⟩
 |c::cs,i,a,h,k,b=>by
  obtain⟨x,hx,b⟩:=b;obtain⟨vs,d,hc,b⟩:=zC cs (i+1) a h _ b;exact⟨c.enc x::vs,by simp[d],BJ.2 ⟨hx,hc⟩,b⟩
theorem BH:∀{vs:List Value} {cs:List CK},Gx vs=some cs→cs.length=vs.length
 | [],cs,h=>by simp[Gx]at h;subst h;rfl
 |v::vs,cs,h=>by
  simp only[Gx]at h;cases h1:V8 v with
  |none=>simp[h1]at h
  |some c=>cases h2:Gx vs with
   |none=>simp[h1,h2]at h
   |some ds=>simp[h1,h2]at h;subst h;simp[BH h2]
def TE(P:Program)(t:TypeId)(i:TypeInfo):Kind→Prop
 | .c _=>wE P t=false
 | .agg cs=>wE P t=true∧i.size=cs.length
theorem NM{P:Program}{t:TypeId}{k:Kind}(h:Pc P t=some k):∃i,P.info? t=some i∧TE P t i k:=by
 unfold Pc zm at h;cases hi:P.info? t with
 |none=>simp[hi]at h
 |some i=>
  refine⟨i,rfl,?_⟩;cases hz:i.zero with
  |none=>simp[hi,hz]at h
  |some z=>
   rw[hi]at h;simp only[hz]at h;cases z;case agg vs=>
    simp only at h;cases hb:(wE P t&&av vs.toList.length (bT P t))with
    |false=>rw[hb]at h;simp at h
    |true=>
     rw[hb]at h;simp only[cond_true]at h;simp only[Bool.and_eq_true]at hb;have a:=aS hb.2;cases hd:Gx vs.toList with
     |none=>rw[hd]at h;simp at h
     |some ds=>
      rw[hd]at h;simp only[bh.injEq]at h;subst h;exact⟨hb.1,by rw[BH hd,a];simp[bT,hi]⟩
   all_goals
    simp only at h;cases ha:wE P t
    ·rw[ha]at h
     simp only[cond_false]at h;split at h
     ·simp only[bh.injEq]at h;subst h;exact ha
     ·simp at h
    ·rw[ha]at h;simp at h
theorem NN{P:Program}{t:TypeId}{k:Kind}(h:FZ P t=some k):(∀w,(isAgg t).run P w=.ok (wE P t) w)∧Pc P t=some k:=by
 unfold FZ at h;cases hu:P.underlying t with
 |none=>simp[hu]at h
 |some d=>
  simp only[hu]at h;refine⟨fun w=>?_,h⟩
  simp only[isAgg,aO,ay hu,az];unfold wE;rw[hu];cases d<;>rfl
theorem DN{P:Program}{t:TypeId}{v:Value}{K:RK}{h:ad}(d:Lv P t v K h):
  ∃u S,K u (some S)∧S h∧∀w:World,S w.heap→(Instr.loadAt t v).run P w=.ok u w:=by
 unfold Lv at d;cases v with
 |pointer p=>
  cases p with
  |none=>exact d.elim
  |some a=>
   simp only at d;cases hk:FZ P t with
   |none=>simp[hk]at d
   |some k=>
    obtain⟨b,f⟩:=NN hk;obtain⟨i,hi,hc⟩:=NM f;rw[hk]at d;cases k with
    |c c=>
     obtain⟨x,hx,j⟩:=d;refine⟨_,_,j,hx,fun w m=>?_⟩
     have hc:wE P t=false:=hc;simp only[Instr.loadAt,lV,loadVar,aO,bB,az,b,hc];simp[Be m]
    |agg cs=>
     obtain⟨vs,e,g,j⟩:=zC cs 0 a h _ d;obtain⟨n,o⟩:wE P t=true∧i.size=cs.length:=hc;refine⟨_,_,j,g,fun w m=>?_⟩
     have f:(sizeOf t).run P w=.ok vs.length w:=by simp[sizeOf,cP hi,o,e]
     simp only[Instr.loadAt,lV,loadVar,aO,bB,az,b,n];simp[f,Hj m]
 |_=>exact d.elim
end Go.Lift
