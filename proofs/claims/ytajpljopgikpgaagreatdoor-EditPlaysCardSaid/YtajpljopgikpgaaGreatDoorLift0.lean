/- A part of the proof that the named laws of this program answer true, whatever the input. -/
import Derived.OrdersIn
import Derived.Below
import Derived.WalkKit
import Derived.RangeFuncRecord
import Derived.DefersIn
open BitVec renaming ofInt→aw
open Iff renaming rfl→vT
open List renaming rec→gp,replicate→eD,length_cons→aH
open Nat renaming succ→gH,beq→bX,ble→An,min→eN,blt→Am,land→kN,lor→dA,pred→zL,eq_of_beq_eq_true→bC
open Option renaming some→bQ
namespace Go.Lift
abbrev af:=Array Obj
def aR(h:af)(a:Addr):Option Value:=
 match h[a.block]? with
 |some (.cells c _ _)=>if a.spot.isSome then none else c[a.off]?
 |_=>none
def Gu(h:af)(a:Addr):Bool:=
 match h[a.block]? with
 |some (.cells _ _ (lo,hi))=>lo≤a.off&&a.off<hi
 |_=>false
def hset(h:af)(a:Addr)(v:Value):af:=
 h.modify a.block fun
  | .cells c elem frozen=>.cells (if a.spot.isSome then c else c.setIfInBounds a.off v) elem frozen
  |o=>o
noncomputable def adr(a:Addr)(n:Nat):Addr:=Nat.rec (motive:=fun _=>Addr) a (fun n _=>⟨a.block,a.off+gH n,none⟩) n
def Wr(h:af)(a:Addr):Prop:=(∃v,aR h a=some v)∧Gu h a=false
structure Tame(w w':World):Prop where
 os:w'.os=w.os
 tape:w'.tape=w.tape
 output:w'.output=w.output
structure SliceV where
 a:Option Addr
 len:Nat
 cap:Nat
def L7:IntKind→IntKind→Bool
 | .i8,.i8=>true| .i16,.i16=>true| .i32,.i32=>true| .i64,.i64=>true
 | .u8,.u8=>true| .u16,.u16=>true| .u32,.u32=>true| .u64,.u64=>true
 |_,_=>false
inductive CK where
 |int (k:IntKind)|bool|str|ptr|slice|map|chan|raw|adr
def CK.den:CK→Type
 | .int _=>Int| .bool=>Bool| .str=>ByteArray| .ptr=>Option Addr| .slice=>SliceV| .map=>Option Nat| .chan=>Option Nat| .raw=>Value| .adr=>Addr
def CK.enc:(c:CK)→c.den→Value
 | .int k,n=>.int k n
 | .bool,b=>.bool b
 | .str,s=>.string s
 | .ptr,p=>.pointer p
 | .slice,s=>.slice s.a s.len s.cap
 | .map,r=>.map r
 | .chan,r=>.chan r
 | .raw,v=>v
 | .adr,a=>.pointer (some a)
def CK.dec:(c:CK)→Value→(c.den→Prop)→Prop
 | .int k,.int k' n,f=>bif L7 k' k then f n else False
 | .bool,.bool b,f=>f b
 | .str,.string s,f=>f s
 | .ptr,.pointer p,f=>f p
 | .slice,.slice a l c,f=>f ⟨a,l,c⟩
 | .map,.map r,f=>f r
 | .chan,.chan r,f=>f r
 | .raw,v,f=>f v
 | .adr,.pointer (some a),f=>f a
 |_,_,_=>False
def Xf:List CK→Type
 | []=>Unit
 | [c]=>c.den
 |c::d::cs=>c.den×Xf (d::cs)
def WP:(cs:List CK)→Xf cs→List Value
 | [],_=> []
 | [c],x=> [c.enc x]
 |c::d::cs,(x,t)=>c.enc x::WP (d::cs) t
def SF:(cs:List CK)→List Value→(Xf cs→Prop)→Prop
 | [],[],f=>f ()
 | [c],[v],f=>c.dec v f
 |c::d::cs,v::u::vs,f=>c.dec v fun x=>SF (d::cs) (u::vs) fun t=>f (x,t)
 |_,_,_=>False
inductive Kind where
 |c (k:CK)
 |agg (cs:List CK)
def Kind.den:Kind→Type
 | .c k=>k.den
 | .agg cs=>Xf cs
def Kind.enc:(k:Kind)→k.den→Value
 | .c k,x=>k.enc x
 | .agg cs,t=>.agg (WP cs t).toArray
def Kind.dec:(k:Kind)→Value→(k.den→Prop)→Prop
 | .c k,v,f=>k.dec v f
 | .agg cs,.agg vs,f=>SF cs vs.toList f
 |_,_,_=>False
def wR:List Kind→Type
 | []=>Unit
 | [k]=>k.den
 |k::l::ks=>k.den×wR (l::ks)
def oA:(ks:List Kind)→wR ks→List Value
 | [],_=> []
 | [k],x=> [k.enc x]
 |k::l::ks,(x,t)=>k.enc x::oA (l::ks) t
def F0:(ks:List Kind)→List Value→(wR ks→Prop)→Prop
 | [],[],f=>f ()
 | [k],[v],f=>k.dec v f
 |k::l::ks,v::u::vs,f=>k.dec v fun x=>F0 (l::ks) (u::vs) fun t=>f (x,t)
 |_,_,_=>False
def FU(ks:List Kind)(vs:List Value):Value:=
 match ks,vs with
 | [_],[v]=>v
 |_,vs=>.tuple vs.toArray
def Z7:Value→Option CK
 | .int k _=>some (.int k)
 | .bool _=>some .bool
 | .string _=>some .str
 | .pointer _=>some .ptr
 | .slice .. =>some .slice
 | .map _=>some .map
 | .chan _=>some .chan
 | .nilFunc=>some .raw
 | .nilIface=>some .raw
 |_=>none
def H1:List Value→Option (List CK)
 | []=>some []
 |v::vs=>match Z7 v,H1 vs with
  |some c,some cs=>some (c::cs)
  |_,_=>none
def xZ(P:Program)(t:TypeId):Bool:=
 match P.underlying t with
 |some (.struct _)|some (.array _ _)=>true
 |_=>false
def cy(P:Program)(t:TypeId):Nat:=match P.info? t with|some i=>i.size|none=>0
def sN(P:Program)(t:TypeId):Nat:=match P.info? t with|some i=>i.bytes|none=>0
def AB(P:Program)(t:TypeId):Option Value:=match P.info? t with|some i=>i.zero|none=>none
def Sc(P:Program)(t:TypeId):Option Kind:=
 match AB P t with
 |some (.agg vs)=>bif xZ P t&&bX vs.toList.length (cy P t)then(match H1 vs.toList with|some cs=>some (.agg cs)|none=>none)else none
 |some v=>bif xZ P t then none else(match Z7 v with|some c=>some (.c c)|none=>none)
 |none=>none
def Hz(P:Program)(t:TypeId):Option Kind:=
 match P.underlying t with
 |none=>none
 |some _=>Sc P t
structure HC(P:Program)(f:FuncId)(args:List Value)(ks:List Kind)(K:wR ks→af→Prop)(h:af):Prop where
 run:∀w:World,w.heap=h→
  ((callFunc f args.toArray).run P w=.ok (.enter f args.toArray) w∧
   Calls P f args.toArray w fun e w'=>Tame w w'∧∃t:wR ks,e=.returned (FU ks (oA ks t))∧K t w'.heap)∨
  (∃v w',(callFunc f args.toArray).run P w=.ok (.value v) w'∧Tame w w'∧∃t:wR ks,v=FU ks (oA ks t)∧K t w'.heap)
structure HE(P:Program)(f:FuncId)(args:List Value)(ks:List Kind)(K:wR ks→af→Prop)(h:af):Prop where
 run:∀w:World,w.heap=h→(∀(args:Array Value) (w:World),(callFunc f args).run P w=.ok (.enter f args) w)∧
  Calls P f args.toArray w fun e w'=>Tame w w'∧∃t:wR ks,e=.returned (FU ks (oA ks t))∧K t w'.heap
theorem HE.hc{P:Program}{f:FuncId}{args:List Value}{ks:List Kind}{K:wR ks→af→Prop}{h:af}(e:HE P f args ks K h):HC P f args ks K h:=
 ⟨fun w a=>.inl ⟨(e.run w a).1 _ w,(e.run w a).2⟩⟩
structure HY(P:Program)(l:Nat)(args:List Value)(K:Bool→af→Prop)(h:af):Prop where
 run:∀w:World,w.heap=h→∃fn tmps assign body,(Instr.yield l args.toArray).run P w=.ok (.round l fn tmps assign body) w∧
  ∀(c:Frame) (cs:List Frame),∃b w',Tame w w'∧K b w'.heap∧Steps P (lone (Frame.round l fn tmps assign body .normal) (c::cs) w) (lone (c.finish (.bool b)) cs w')
structure HV(P:Program)(fv:Value)(args:List Value)(ks:List Kind)(K:wR ks→af→Prop)(h:af):Prop where
 run:(∃f first cap,fv=.func (.func f) first cap∧HC P f (first.toList++args++cap.toList) ks K h)∨
  (∃l,fv=.func (.yield l) #[] #[]∧HY P l args (fun b h'=>F0 ks [.bool b] fun t=>K t h') h)
noncomputable def CondP(b:Bool)(t e:Prop):Prop:=Bool.rec (motive:=fun _=>Prop) e t b
theorem CondP.yes{b:Bool}{t e:Prop}(h:CondP b t e)(a:b=true):t:=by subst a;exact h
theorem CondP.no{b:Bool}{t e:Prop}(h:CondP b t e)(a:b=false):e:=by subst a;exact h
theorem CondP.intro{b:Bool}{t e:Prop}(c:b=true→t)(a:b=false→e):CondP b t e:=by cases b;exact a rfl;exact c rfl
theorem aA{t e:Prop}:CondP true t e↔t:=vT
theorem aj{t e:Prop}:CondP false t e↔e:=vT
attribute [irreducible] CondP
def At(h:af)(k:af→Prop):Prop:=k h
def Bd{T:Type}(x:T)(k:T→Prop):Prop:=k x
structure Join{T:Type}(rest:T→af→Prop)(k:(T→af→Prop)→Prop):Prop where
 run:k rest
structure LoopP{T:Type}(F:(T→af→Prop)→T→af→Prop)(t:T)(h:af):Prop where
 run:∀I:T→af→Prop,(∀t h,F I t h→I t h)→I t h
abbrev cV:=List (Nat×Value)
noncomputable def lL(r:cV)(t:Nat):Option Value:=
 gp (motive:=fun _=>Option Value) none (fun a _ b=>bif bX a.1 t then some a.2 else b) r
theorem He(k:Nat)(v:Value)(r:cV)(t:Nat):lL ((k,v)::r) t=bif bX k t then some v else lL r t:=rfl
noncomputable def dV(r:cV):Operand→Option Value
 | .tmp t=>lL r t
 | .const v=>some v
 | .global g=>some (.pointer (some ⟨g,0,none⟩))
 | .func f=>some (.func (.func f) #[] #[])
noncomputable def po(r:cV):List Operand→Option (List Value)
 | []=>some []
 |o::os=>match dV r o,po r os with
  |some v,some vs=>some (v::vs)
  |_,_=>none
noncomputable def Mf:List CK→Nat→Addr→af→(List Value→Prop)→Prop
 | [],_,_,_,k=>k []
 |c::cs,i,a,h,k=>∃x:c.den,aR h (adr a i)=some (c.enc x)∧Mf cs (i+1) a h fun vs=>k (c.enc x::vs)
noncomputable def vl:List Value→Nat→Addr→af→Prop
 | [],_,_,_=>True
 | [v],i,a,h=>aR h (adr a i)=some v
 |v::u::vs,i,a,h=>aR h (adr a i)=some v∧vl (u::vs) (i+1) a h
abbrev RK:=Value→Option (af→Prop)→Prop
noncomputable def NC(P:Program)(t:TypeId)(v:Value)(K:RK)(h:af):Prop:=
 match v with
 | .pointer (some a)=>
  match Hz P t with
  |some (.c c)=>∃x:c.den,aR h a=some (c.enc x)∧K (c.enc x) (some fun b=>aR b a=some (c.enc x))
  |some (.agg cs)=>Mf cs 0 a h fun vs=>K (.agg vs.toArray) (some fun b=>vl vs 0 a b)
  |none=>False
 |_=>False
def y8(P:Program)(t:TypeId)(f:Nat):Option (TypeId×Nat):=
 match P.underlying t with
 |some (.struct fs)=>match fs.toList[f]? with
  |some g=>some (g.type,g.offset)
  |none=>none
 |_=>none
def yl(P:Program)(t:TypeId):Option TypeId:=
 match P.underlying t with
 |some (.slice e)=>some e
 |_=>none
def PA(c:BinOp)(k:IntKind)(a b:Int)(K:RK):Prop:=
 match c with
 | .shl=>0≤b∧K (.int k (k.wrap (a*2^(min b.toNat k.bits)))) none
 | .shr=>0≤b∧K (.int k (a.fdiv (2^(min b.toNat k.bits)))) none
 |_=>False
def ZN(c:BinOp)(k:IntKind)(a b:Int)(K:RK):Prop:=
 match c with
 | .add=>K (.int k (k.wrap (a+b))) none
 | .sub=>K (.int k (k.wrap (a-b))) none
 | .mul=>K (.int k (k.wrap (a*b))) none
 | .quo=>b≠0∧K (.int k (k.wrap (a.tdiv b))) none
 | .rem=>b≠0∧K (.int k (a.tmod b)) none
 | .and=>K (.int k (k.wrap (aw k.bits a&&&aw k.bits b).toNat)) none
 | .or=>K (.int k (k.wrap (aw k.bits a|||aw k.bits b).toNat)) none
 | .xor=>K (.int k (k.wrap (aw k.bits a^^^aw k.bits b).toNat)) none
 | .andNot=>K (.int k (k.wrap (aw k.bits a&&& ~~~aw k.bits b).toNat)) none
 | .eql=>K (.bool (a==b)) none
 | .neq=>K (.bool (a !=b)) none
 | .lss=>K (.bool (decide (a<b))) none
 | .leq=>K (.bool (decide (a≤b))) none
 | .gtr=>K (.bool (decide (a>b))) none
 | .geq=>K (.bool (decide (a≥b))) none
 |_=>False
def Zq(c:BinOp)(a b:ByteArray)(K:RK):Prop:=
 match c with
 | .add=>((a.size+b.size:Nat):Int)≤9223372036854775807∧K (.string (a++b)) none
 | .eql=>K (.bool (a.toList==b.toList)) none
 | .neq=>K (.bool (!(a.toList==b.toList))) none
 | .lss=>K (.bool (Op.bytesLess a.toList b.toList)) none
 | .leq=>K (.bool (Op.bytesLess a.toList b.toList||a.toList==b.toList)) none
 | .gtr=>K (.bool (!(Op.bytesLess a.toList b.toList||a.toList==b.toList))) none
 | .geq=>K (.bool (!(Op.bytesLess a.toList b.toList))) none
 |_=>False
def fA(h:af)(a:Addr):Prop:=(∃c e,h[a.block]? =some (.cells c e (0,0))∧0<c.size)
def Yb(P:Program)(t:TypeId)(neg:Bool)(x y:Value)(K:RK):Prop:=
 match P.underlying t,x,y with
 |some (.pointer _),.pointer a,.pointer none=>K (.bool (bif neg then !a.isNone else a.isNone)) none
 |some (.map _ _),.map a,.map none=>K (.bool (bif neg then !a.isNone else a.isNone)) none
 |some (.slice _),.slice a _ _,.slice none _ _=>K (.bool (bif neg then !a.isNone else a.isNone)) none
 |_,_,_=>False
def ZM:Operand→Bool
 | .const (.pointer none)=>true
 | .const (.map none)=>true
 | .const (.slice none 0 0)=>true
 |_=>false
def Y1(P:Program)(t:TypeId)(neg:Bool)(x y:Value)(K:RK)(h:af):Prop:=
 match P.underlying t,x,y with
 |some .bool,.bool a,.bool b=>K (.bool (bif neg then !(a==b)else a==b)) none
 |some (.pointer e),.pointer a,.pointer b=>
  (bif bX (cy P e) 0 then False else True)∧
  (∀x y,a=some x→b=some y→fA h x∧fA h y)∧
  K (.bool (bif neg then !(a==b)else a==b)) (some fun c=>∀x y,a=some x→b=some y→fA c x∧fA c y)
 |_,_,_=>False
def Zz(P:Program)(c:BinOp)(t:TypeId)(x y:Value)(K:RK)(h:af):Prop:=
 match x,y with
 | .int k a,.int k' b=>
  match c with
  | .shl=>PA .shl k a b K
  | .shr=>PA .shr k a b K
  |c=>bif L7 k' k then ZN c k a b K else False
 | .string a,.string b=>Zq c a b K
 |x,y=>match c with
  | .eql=>Y1 P t false x y K h
  | .neq=>Y1 P t true x y K h
  |_=>False
def tY(h:af):List (Option Addr×Option Addr)→Prop
 | []=>True
 |(a,b)::l=>(∀x y,a=some x→b=some y→fA h x∧fA h y)∧tY h l
def V9(P:Program)(t:TypeId)(x y:Value):Option (Bool×List (Option Addr×Option Addr)):=
 match P.underlying t,x,y with
 |some (.int _),.int k a,.int k' b=>bif L7 k' k then some (a==b,[])else none
 |some .bool,.bool a,.bool b=>some (a==b,[])
 |some .string,.string a,.string b=>some (a.toList==b.toList,[])
 |some (.pointer e),.pointer a,.pointer b=>bif bX (cy P e) 0 then none else some (a==b,[(a,b)])
 |_,_,_=>none
def Yu(P:Program)(rec:TypeId→List Value→List Value→Option (Bool×List (Option Addr×Option Addr)))(xs ys:List Value):List Field→Option (Bool×List (Option Addr×Option Addr))
 | []=>some (true,[])
 |f::fs=>
  if f.name= "_" then none else
  bif (P.underlying f.type).isSome&&(P.info? f.type).isSome then
   match(bif xZ P f.type then rec f.type ((xs.drop f.offset).take (cy P f.type)) ((ys.drop f.offset).take (cy P f.type))
    else match xs[f.offset]?,ys[f.offset]? with|some x,some y=>V9 P f.type x y|_,_=>none),Yu P rec xs ys fs with
   |some (b,l),some (c,m)=>some (b&&c,l++m)
   |_,_=>none
  else none
def Wa(P:Program):Nat→TypeId→List Value→List Value→Option (Bool×List (Option Addr×Option Addr))
 |0,_,_,_=>none
 |d+1,t,xs,ys=>match P.underlying t with
  |some (.struct fs)=>bif P.stoodInHeld t then none else Yu P (Wa P d) xs ys fs.toList
  |_=>none
def abM(neg b:Bool)(K:RK)(h:af):List (Option Addr×Option Addr)→Prop
 | []=>K (.bool (bif neg then !b else b)) none
 |p::l=>tY h (p::l)∧K (.bool (bif neg then !b else b)) (some fun a=>tY a (p::l))
def ZB(P:Program)(a:BinOp)(t:TypeId)(xs ys:List Value)(K:RK)(h:af):Prop:=
 bif P.eqGuardType P.depth t then False else
 match a with
 | .eql=>(match Wa P 10 t xs ys with|some (b,l)=>abM false b K h l|none=>False)
 | .neq=>(match Wa P 10 t xs ys with|some (b,l)=>abM true b K h l|none=>False)
 |_=>False
def abx(a:UnOp)(x:Value)(K:RK):Prop:=
 match a,x with
 | .neg,.int k n=>K (.int k (k.wrap (0-n))) none
 | .xor,.int k n=>K (.int k (k.wrap (aw k.bits (if k.signed then-1 else k.max)^^^aw k.bits n).toNat)) none
 | .not,.bool b=>K (.bool (!b)) none
 |_,_=>False
def eC(s:ByteArray):List Value:=s.data.toList.map fun b=>.int .u8 b.toNat
noncomputable def Row(h:af)(a:Addr)(vs:List Value):Prop:=∀i v,vs[i]? =some v→aR h (adr a i)=some v
noncomputable def SRow(h:af)(a:Option Addr)(n:Nat)(vs:List Value):Prop:=vs.length=n∧(vs= []∨∃b,a=some b∧Row h b vs)
def Qk(P:Program)(e:TypeId):Bool:=match P.underlying e with|some (.int .u8)=>true|_=>false
def ZL(P:Program)(s d:TypeId):Bool:=
 match P.underlying s,P.underlying d with
 |some .string,some (.slice e)=>Qk P e
 |_,_=>false
def ByP(e:TypeId)(s:ByteArray)(h:af)(K:Nat→af→Prop):Prop:=
 ∀c,s.size≤c→K c (h.push (.cells (eC s++eD (c-s.size) (Value.int .u8 0)).toArray e (c,c+1)))
noncomputable def VA(P:Program)(c b:TypeId)(x:Value)(K:RK)(h:af):Prop:=
 match P.underlying c,P.underlying b,x with
 |some (.int _),some (.int k),.int _ n=>K (.int k (k.wrap n)) none
 |some .string,some .string,.string s=>K (.string s) none
 |some (.slice e),some .string,.slice a n _=>bif Qk P e then∃s:ByteArray,SRow h a n (eC s)∧K (.string s) (some fun d=>SRow d a n (eC s))else False
 |_,_,_=>False
def WU(v:Option Value)(d y:Nat)(K:Nat→Prop):Prop:=
 match v with
 |none=>K d
 |some (.int _ i)=>(0≤i∧i≤y)∧K i.toNat
 |_=>False
noncomputable def bq(a:Option Addr)(l m size:Nat):Option Addr:=if m=l then a else a.map (adr · (l*size))
def VJ(P:Program)(t:TypeId)(K:Prop):Prop:=match P.info? t with|some _=>K|none=>False
noncomputable def PP(P:Program)(t:TypeId)(x:Value)(lo hi b:Option Value)(K:RK):Prop:=
 match P.underlying t,x with
 |some .string,.string s=>match b with
  |some _=>False
  |none=>WU hi s.size s.size fun h=>WU lo 0 h fun l=>K (.string (s.extract l h)) none
 |some (.slice e),.slice a len cap=>VJ P e (
  match b with
  |none=>WU hi len cap fun h=>WU lo 0 h fun l=>K (.slice (bq a l cap (cy P e)) (h-l) (cap-l)) none
  |some m=>match hi with
   |none=>False
   |some hi=>WU (some m) 0 cap fun m=>WU (some hi) 0 m fun h=>WU lo 0 h fun l=>K (.slice (bq a l m (cy P e)) (h-l) (m-l)) none)
 |some (.array n e),.pointer (some a)=>VJ P e (
  match b with
  |none=>WU hi n n fun h=>WU lo 0 h fun l=>K (.slice (bq (some a) l n (cy P e)) (h-l) (n-l)) none
  |some _=>False)
 |_,_=>False
noncomputable def Kt(r:cV):Option Operand→Option (Option Value)
 |none=>some none
 |some o=>match dV r o with
  |some v=>some (some v)
  |none=>none
noncomputable def Bo(P:Program)(t:TypeId)(x i:Value)(K:RK):Prop:=
 match P.underlying t,x,i with
 |some (.array n e),.pointer (some a),.int _ i=>VJ P e ((0≤i∧i<n)∧K (.pointer (some (adr a (i.toNat*cy P e)))) none)
 |some (.slice e),.slice b len _,.int _ i=>VJ P e ((0≤i∧i<len)∧∃a,b=some a∧K (.pointer (some (adr a (i.toNat*cy P e)))) none)
 |_,_,_=>False
def PR(P:Program)(t:TypeId)(x i:Value)(K:RK):Prop:=
 match P.underlying t,x,i with
 |some .string,.string s,.int _ i=>∃b:UInt8,0≤i∧s[i.toNat]? =some b∧K (.int .u8 b.toNat) none
 |_,_,_=>False
noncomputable def PS(P:Program)(t:TypeId)(x:Value)(f:Nat)(K:RK):Prop:=
 match y8 P t f,x with
 |some (u,off),.agg cs=>bif (P.underlying u).isSome&&(P.info? u).isSome then(bif xZ P u then K (.agg ((cs.toList.drop off).take (cy P u)).toArray) none
  else(match cs.toList[off]? with|some v=>K v none|none=>False))else False
 |_,_=>False
def YU(c a b:Value)(K:RK):Prop:=
 match c with
 | .bool c=>(match a,b with
  | .bool x,.bool y=>K (.bool (bif c then x else y)) none
  |_,_=>(match c with|true=>K a none|false=>K b none))
 |_=>False
def iW:Value→Value→Bool
 | .int _ a,.int _ b=>a==b
 | .string a,.string b=>a==b
 | .bool a,.bool b=>a==b
 |_,_=>false
def Ol(k:Value):List MapEntry→Option Value
 | []=>none
 |e::es=>if iW k e.key then some e.val else Ol k es
def HA(c:CK)(es:List MapEntry):Prop:=∀e∈es,∃x:c.den,e.key=c.enc x
def QU(c:CK)(z:Value)(h:af)(m:Option Nat)(k v:Value)(ok:Bool):Prop:=
 match m with
 |none=>v=z∧ok=false
 |some r=>∃es clock,h[r]? =some (.map es clock)∧HA c es.toList∧
  (match Ol k es.toList with|some u=>v=u∧ok=true|none=>v=z∧ok=false)
def N5(P:Program)(t:TypeId):Option (CK×TypeId):=
 match P.underlying t with
 |some (.map k e)=>match P.underlying k with
  |some (.int i)=>some (.int i,e)
  |some .string=>some (.str,e)
  |some .bool=>some (.bool,e)
  |_=>none
 |_=>none
def LO(P:Program)(t:TypeId)(x k:Value)(ok:Bool)(K:RK)(h:af):Prop:=
 match N5 P t,x with
 |some (c,e),.map m=>c.dec k fun _=>
  (match Hz P e,AB P e with
   |some ek,some z=>∃(y:ek.den) (b:Bool),QU c z h m k (ek.enc y) b∧
    K (bif ok then .tuple #[ek.enc y,.bool b]else ek.enc y) (some fun a=>QU c z a m k (ek.enc y) b)
   |_,_=>False)
 |_,_=>False
def W9(h:af)(m:Option Nat)(n:Nat):Prop:=
 match m with
 |none=>n=0
 |some r=>∃es clock,h[r]? =some (.map es clock)∧n=es.size
def SL(c:Bool)(h:af)(m:Option Nat)(n:Nat):Prop:=
 match m with
 |none=>n=0
 |some r=>∃cap buf cl s q,h[r]? =some (.chan cap buf cl s q false)∧n=bif c then cap else buf.size
def Zx(P:Program)(t:TypeId)(x:Value)(K:RK)(h:af):Prop:=
 match P.underlying t,x with
 |some .string,.string s=>K (.int .i64 s.size) none
 |some (.array n _),_=>K (.int .i64 n) none
 |some (.slice _),.slice _ n _=>K (.int .i64 n) none
 |some (.map _ _),.map m=>∃n:Nat,W9 h m n∧K (.int .i64 n) (some fun a=>W9 a m n)
 |some (.chan _ _),.chan m=>∃n:Nat,SL false h m n∧K (.int .i64 n) (some fun a=>SL false a m n)
 |_,_=>False
def Zy(P:Program)(t:TypeId)(x:Value)(K:RK)(h:af):Prop:=
 match P.underlying t,x with
 |some (.slice _),.slice _ _ n=>K (.int .i64 n) none
 |some (.chan _ _),.chan m=>∃n:Nat,SL true h m n∧K (.int .i64 n) (some fun a=>SL true a m n)
 |_,_=>False
def L4(c:Bool)(k:IntKind):Int→List Value→(Value→Prop)→Prop
 |a,[],f=>f (.int k a)
 |a,.int k' b::vs,f=>bif L7 k' k then L4 c k (bif c then(if b>a then b else a)else(if b<a then b else a)) vs f else False
 |_,_,_=>False
def Gn(b:Bool)(vs:List Value)(f:Value→Prop):Prop:=
 match vs with
 | .int k a::vs=>L4 b k a vs f
 |_=>False
def QV(h:af)(i:Nat)(e:MapEntry):Prop:=
 ∃m since seen last stamp es,h[i]? =some (.mapIter (some m) since seen last)∧seen.back? =some stamp∧h[m]? =some (.map es last)∧es.find? (fun e=>e.born==stamp)=some e
def rU(P:Program)(t:TypeId):Bool:=match P.underlying t with|some (.interface _)=>false|some _=>true|none=>false
def RQ(P:Program)(t:TypeId)(x:Value)(K:RK):Prop:=
 bif rU P t then(match Hz P t with
  |some k=>∃y:k.den,x=.iface t (k.enc y)∧K (k.enc y) none
  |none=>False)else False
def NL(cs:List Value)(off:Nat)(vs:List Value):List Value:=cs.take off++vs++cs.drop (off+vs.length)
def Fp(a:Nat→Option (Nat×Nat)):List Value→List (Nat×Value)→Option (List Value)
 |cs,[]=>some cs
 |cs,(i,v)::rest=>match a i with
  |none=>none
  |some (off,size)=>bif bX v.cells.toList.length size&&An (off+v.cells.toList.length) cs.length then Fp a (NL cs off v.cells.toList) rest else none
noncomputable def rT(r:cV):List (Nat×Operand)→Option (List (Nat×Value))
 | []=>some []
 |(i,o)::ps=>match dV r o,rT r ps with
  |some v,some vs=>some ((i,v)::vs)
  |_,_=>none
def sC(P:Program)(t:TypeId):Option (List Value):=match AB P t with|some z=>some z.cells.toList|none=>none
def eh(n:Nat)(z:List Value):List Value:=(eD n z).flatten
def Aa(P:Program)(t:TypeId):Bool:=match P.info? t with|some _=>true|none=>false
def C8(P:Program):List Field→Bool
 | []=>true
 |f::fs=>bif Aa P f.type then C8 P fs else false
def P4(P:Program)(a:List Field)(i:Nat):Option (Nat×Nat):=match a[i]? with|some f=>some (f.offset,cy P f.type)|none=>none
def Mu(P:Program)(t:TypeId)(a:List (Nat×Value)):Option (List Value):=
 match P.underlying t,sC P t with
 |some (.struct fs),some z=>bif C8 P fs.toList then Fp (P4 P fs.toList) z a else none
 |some (.array _ e),some z=>bif Aa P e then Fp (fun i=>some (i*cy P e,cy P e)) z a else none
 |_,_=>none
noncomputable def DX(P:Program)(ek:Option (Kind×Kind))(o:Op)(r:cV)(K:RK)(h:af):Prop:=
 match o with
 | .entry it=>match dV r it,ek with
  |some (.pointer (some a)),some (kk,vk)=>a.off=0∧∃(e:MapEntry) (x:kk.den) (y:vk.den),QV h a.block e∧e.key=kk.enc x∧e.val=vk.enc y∧
    K (.tuple #[kk.enc x,vk.enc y]) (some fun g=>QV g a.block e)
  |_,_=>False
 | .move x| .assign x=>match dV r x with|some v=>K v none|none=>False
 | .load t a=>match dV r a with|some v=>NC P t v K h|none=>False
 | .nilCheck x=>match dV r x with|some (.pointer p)=>∃a,p=some a∧K (.pointer (some a)) none|_=>False
 | .binOp op t x y _=>match dV r x,dV r y with
  |some (.agg v),some (.agg u)=>ZB P op t v.toList u.toList K h
  |some v,some u=>(match op,ZM y with
   | .eql,true=>Yb P t false v u K
   | .neq,true=>Yb P t true v u K
   |op,_=>Zz P op t v u K h)
  |_,_=>False
 | .unOp op _ x=>match dV r x with|some v=>abx op v K|none=>False
 | .convert s d x=>match dV r x with|some v=>VA P s d v K h|none=>False
 | .pick c a b=>match dV r c,dV r a,dV r b with|some c,some a,some b=>YU c a b K|_,_,_=>False
 | .extract x i=>match dV r x with
  |some (.tuple vs)=>(match vs.toList[i]? with|some v=>K v none|none=>False)
  |_=>False
 | .fieldAddr t x f=>match dV r x,y8 P t f with
  |some (.pointer (some a)),some (u,off)=>bif bX (cy P u) 0 then False else K (.pointer (some (adr a off))) none
  |_,_=>False
 | .field t x f=>match dV r x with|some v=>PS P t v f K|none=>False
 | .indexAddr t x i=>match dV r x,dV r i with|some v,some u=>Bo P t v u K|_,_=>False
 | .index t x i=>match dV r x,dV r i with|some v,some u=>PR P t v u K|_,_=>False
 | .slice t x lo hi mx=>match dV r x,Kt r lo,Kt r hi,Kt r mx with
  |some v,some l,some g,some m=>PP P t v l g m K
  |_,_,_,_=>False
 | .lookup t x k ok=>match dV r x,dV r k with|some v,some u=>LO P t v u ok K h|_,_=>False
 | .makeInterface t x=>match dV r x with|some v=>bif rU P t then K (.iface t v) none else False|none=>False
 | .typeAssert x _ t ok=>match dV r x with|some v=>bif ok then False else RQ P t v K|none=>False
 | .build t ps=>match rT r ps.toList with
  |some vs=>(match Mu P t vs with|some cs=>K (.agg cs.toArray) none|none=>False)
  |none=>False
 | .makeFunc fn first cap=>match po r first.toList,po r cap.toList with
  |some vs,some us=>K (.func fn vs.toArray us.toArray) none
  |_,_=>False
 | .call c=>match c.callee,po r c.args.toList,c.argTypes.toList with
  | .builtin .len,some [v],[t]=>Zx P t v K h
  | .builtin .cap,some [v],[t]=>Zy P t v K h
  | .builtin .min,some vs,_=>Gn false vs fun v=>K v none
  | .builtin .max,some vs,_=>Gn true vs fun v=>K v none
  |_,_,_=>False
 |_=>False
abbrev WK:=Value→af→Prop
def aI(h:af):Addr:=⟨h.size,0,none⟩
def hnew(h:af)(cs:List Value)(t:TypeId):af:=h.push (.cells cs.toArray t (0,0))
def cH:List Value→Bool
 | []=>true
 |v::vs=>(match v with| .agg _=>false| .tuple _=>false|_=>true)&&cH vs
noncomputable def g8(h:af)(a:Addr):Nat→List Value→af
 |_,[]=>h
 |i,v::vs=>g8 (hset h (adr a i) v) a (i+1) vs
noncomputable def gC(h:af)(a:Option Addr)(i:Nat)(vs:List Value):af:=match a with|some a=>g8 h a i vs|none=>h
noncomputable def vo(h:af)(a:Option Addr)(i:Nat)(vs:List Value):Prop:=vs= []∨∃b,a=some b∧∀j,j<vs.length→Wr h (adr b (i+j))
noncomputable def Pk(P:Program)(t:TypeId)(a v:Value)(K:WK)(h:af):Prop:=
 match a with
 | .pointer (some a)=>bif bX v.cells.toList.length (cy P t)&&cH v.cells.toList then VJ P t
   (match v.cells.toList with
    | [v]=>Wr h a∧K undef (hset h a v)
    |vs=>vo h (some a) 0 vs∧K undef (g8 h a 0 vs))
  else False
 |_=>False
noncomputable def W0(P:Program)(e:TypeId)(a:Option Addr)(sl c b:Nat)(xs:List Value)(K:WK)(h:af):Prop:=
 (sl+b≤c→vo h a (sl*cy P e) xs∧cH xs=true∧K (.slice a (sl+b) c) (gC h a (sl*cy P e) xs))∧
 (c<sl+b→∃old z,SRow h a (sl*cy P e) old∧sC P e=some z∧0<sN P e∧Builtin.nextslicecap (sl+b) c*sN P e≤2^48∧
  ∀nc,sl+b≤nc→K (.slice (some (aI h)) (sl+b) nc) (hnew h (old++xs++eh (nc-(sl+b)) z) e))
noncomputable def Gf(P:Program)(t:TypeId)(s x:Value)(K:WK)(h:af):Prop:=
 match yl P t,s,x with
 |some e,.slice b sl sc,.slice a xl _=>VJ P e (∃xs,SRow h a (xl*cy P e) xs∧W0 P e b sl sc xl xs K h)
 |some e,.slice b sl sc,.string x=>bif bX (cy P e) 1 then W0 P e b sl sc x.size (eC x) K h else False
 |_,_,_=>False
noncomputable def GI(P:Program)(t:TypeId)(s x:Value)(K:WK)(h:af):Prop:=
 match yl P t,s,x with
 |some e,.slice b sl sc,.int _ l=>(match sC P e with
  |some z=>bif bX z.length (cy P e)then(0≤l∧l*sN P e≤2^48∧l≤9223372036854775807∧((sl+l.toNat:Nat):Int)≤9223372036854775807)∧W0 P e b sl sc l.toNat (eh l.toNat z) K h else False
  |none=>False)
 |_,_,_=>False
noncomputable def Pl(P:Program)(t:TypeId)(x:Value)(K:WK)(h:af):Prop:=
 match yl P t,x with
 |some e,.slice a n _=>(match sC P e with
  |some z=>bif cH z then vo h a 0 (eh n z)∧K (.tuple #[]) (gC h a 0 (eh n z))else False
  |none=>False)
 |_,_=>False
noncomputable def UY(P:Program)(t:TypeId)(d s:Value)(K:WK)(h:af):Prop:=
 match yl P t,d,s with
 |some e,.slice b dl _,.slice a sl _=>VJ P e (∃xs,SRow h a (eN sl dl*cy P e) xs∧vo h b 0 xs∧cH xs=true∧K (.int .i64 (eN sl dl)) (gC h b 0 xs))
 |some e,.slice b dl _,.string x=>bif bX (cy P e) 1 then vo h b 0 ((eC x).take dl)∧K (.int .i64 (eN x.size dl)) (gC h b 0 ((eC x).take dl))else False
 |_,_,_=>False
def PZ(k v:Value)(a:Nat):List MapEntry→List MapEntry×Nat
 | []=>([{key:=k,val:=v,born:=a}],a+1)
 |e::es=>if iW k e.key then({e with key:=k,val:=v}::es,a)else let r:=PZ k v a es;(e::r.1,r.2)
def Ov(k:Value):List MapEntry→List MapEntry
 | []=> []
 |e::es=>if iW k e.key then es else e::Ov k es
def SK(c:CK)(h:af)(r:Nat):Prop:=∃es clock,h[r]? =some (.map es clock)∧HA c es.toList
def Ye(h:af)(r:Nat)(k v:Value):af:=
 match h[r]? with
 |some (.map es clock)=>h.setIfInBounds r (.map (PZ k v clock es.toList).1.toArray (PZ k v clock es.toList).2)
 |_=>h
def R9(h:af)(r:Nat)(k:Value):af:=
 match h[r]? with
 |some (.map es clock)=>h.setIfInBounds r (.map (Ov k es.toList).toArray clock)
 |_=>h
def Ge(P:Program)(t:TypeId)(m k v:Value)(K:WK)(h:af):Prop:=
 match N5 P t,m with
 |some (c,_),.map m=>c.dec k fun _=>∃r,m=some r∧SK c h r∧K undef (Ye h r k v)
 |_,_=>False
def GG(P:Program)(t:TypeId)(m k:Value)(K:WK)(h:af):Prop:=
 match N5 P t,m with
 |some (c,_),.map m=>c.dec k fun _=>(m=none∧K (.tuple #[]) h)∨(∃r,m=some r∧SK c h r∧K (.tuple #[]) (R9 h r k))
 |_,_=>False
def Vs(P:Program):List TypeId→Option (List Kind)
 | []=>some []
 |t::ts=>match Hz P t,Vs P ts with
  |some k,some ks=>some (k::ks)
  |_,_=>none
def Vt(P:Program)(t:TypeId):Option (List Kind):=
 match P.underlying t with
 |some (.tuple ts)=>Vs P ts.toList
 |_=>Vs P [t]
noncomputable def YN(P:Program)(f:Operand)(r:cV)(args:List Value)(t:TypeId)(K:WK)(h:af):Prop:=
 match Vt P t with
 |none=>False
 |some ks=>match f with
  | .func f=>HC P f args ks (fun x a=>K (FU ks (oA ks x)) a) h
  |f=>match dV r f with
   |some fv=>HV P fv args ks (fun x a=>K (FU ks (oA ks x)) a) h
   |none=>False
def UW(it:Value)(K:WK)(h:af):Prop:=
 match it with
 | .pointer (some a)=>a.off=0∧
  ∃m since seen last,h[a.block]? =some (.mapIter m since seen last)∧
   ((m=none∧K (.tuple #[.bool false]) h)∨
    (∃r es clock,m=some r∧h[r]? =some (.map es clock)∧(seen.isEmpty=true∨es.isEmpty=true∨es.all (fun e=>decide (e.born≥last))=false)∧
     ((∀e∈es.toList,e.born<since→seen.contains e.born=true)→K (.tuple #[.bool false]) h)∧
     (∀e∈es.toList,seen.contains e.born=false→K (.tuple #[.bool true,e.key,e.val]) (h.setIfInBounds a.block (.mapIter (some r) since (seen.push e.born) clock)))))
 |_=>False
noncomputable def I6(P:Program)(o:Oper)(r:cV)(K:WK)(h:af):Prop:=
 match o.op with
 | .alloc t=>(match sC P t with|some z=>K (.pointer (some (aI h))) (hnew h z t)|none=>False)
 | .box t x=>(match dV r x with|some v=>K (.pointer (some (aI h))) (hnew h v.cells.toList t)|none=>False)
 | .build t ps=>(match rT r ps.toList with
  |some vs=>(match Mu P t vs with|some cs=>K (.agg cs.toArray) h|none=>False)
  |none=>False)
 | .buildSlice t n ps=>(match yl P t,rT r ps.toList with
  |some e,some vs=>(match sC P e with
   |some z=>bif An (n*cy P e) 16777216&&bX z.length (cy P e)then
     (match Fp (fun i=>some (i*cy P e,cy P e)) (eh n z) vs with|some cs=>K (.slice (some (aI h)) n n) (hnew h cs e)|none=>False)
    else False
   |none=>False)
  |_,_=>False)
 | .store t a x=>(match dV r a,dV r x with|some a,some v=>Pk P t a v K h|_,_=>False)
 | .mapUpdate t m k x=>(match dV r m,dV r k,dV r x with|some m,some k,some v=>Ge P t m k v K h|_,_,_=>False)
 | .insert t m k x=>(match dV r m,dV r k,dV r x with|some m,some k,some v=>Ge P t m k v K h|_,_,_=>False)
 | .makeMap t n=>(match n with
  |none=>K (.map (some h.size)) (h.push (.map #[] 0))
  |some n=>(match dV r n,P.underlying t with|some (.int _ _),some (.map _ _)=>K (.map (some h.size)) (h.push (.map #[] 0))|_,_=>False))
 | .makeSlice t l c=>(match yl P t,dV r l,dV r c with
  |some e,some (.int _ l),some (.int _ c)=>(match sC P e with
   |some z=>bif bX z.length (cy P e)then(0≤l∧l≤c∧c≤9223372036854775807∧sN P e*c≤2^48)∧K (.slice (some (aI h)) l.toNat c.toNat) (hnew h (eh c.toNat z) e)else False
   |none=>False)
  |_,_,_=>False)
 | .convert s d x=>(match P.underlying s,P.underlying d,dV r x with
  |some .string,some (.slice e),some (.string v)=>bif Qk P e then ByP e v h (fun c b=>K (.slice (some (aI h)) v.size c) b)else False
  |_,_,_=>False)
 | .range t x=>(match P.underlying t,dV r x with
  |some (.map _ _),some (.map m)=>∃clock,(m=none∧clock=0∨∃r es,m=some r∧h[r]? =some (.map es clock))∧K (.pointer (some (aI h))) (h.push (.mapIter m clock #[] clock))
  |_,_=>False)
 | .next it false=>(match dV r it with|some it=>UW it K h|none=>False)
 | .call c=>(match c.callee,po r c.args.toList with
  | .builtin .append,some [s,x]=>(match c.argTypes.toList with| [t,u]=>(match P.underlying u with|some (.slice _)=>Gf P t s x K h|some .string=>Gf P t s x K h|some (.int _)=>GI P t s x K h|_=>False)|_=>False)
  | .builtin .clear,some [x]=>(match c.argTypes.toList with| [t]=>Pl P t x K h|_=>False)
  | .builtin .copy,some [d,s]=>(match c.argTypes.toList with| [t,_]=>UY P t d s K h|_=>False)
  | .builtin .delete,some [m,k]=>(match c.argTypes.toList with| [t,_]=>GG P t m k K h|_=>False)
  | .value f,some args=>YN P f r args o.type K h
  |_,_=>False)
 |_=>False
def yn(P:Program):Op→Bool
 | .convert s d _=> !ZL P s d
 | .alloc _| .box .. | .buildSlice .. | .store .. | .mapUpdate .. | .insert .. | .makeMap .. | .makeSlice .. | .range .. | .next .. =>false
 | .call c=>match c.callee with
  | .builtin .len| .builtin .cap| .builtin .min| .builtin .max=>true
  |_=>false
 |_=>true
def BG(N:Nat)(o:Oper)(v:Value)(r:cV)(K:cV→Prop):Prop:=
 match o.dst with
 |none=>K r
 |some d=>bif Am d N then K ((d,v)::r)else False
noncomputable def aal(P:Program)(N:Nat)(ek:Option (Kind×Kind))(o:Oper)(r:cV)(K:cV→af→Prop)(h:af):Prop:=
 bif yn P o.op then DX P ek o.op r (fun v _=>BG N o v r fun a=>K a h) h
 else I6 P o r (fun v b=>BG N o v r fun a=>K a b) h
inductive DV where
 |f|t|u|x
abbrev xo:=List (Nat×DV)
noncomputable def tg(d:xo)(t:Nat):DV:=
 gp (motive:=fun _=>DV) .x (fun a _ b=>bif bX a.1 t then a.2 else b) d
noncomputable def C2(d:xo):Operand→DV
 | .tmp t=>tg d t
 | .const (.bool true)=>.t
 | .const (.bool false)=>.f
 |_=>.x
noncomputable def M5(d:xo):Op→DV
 | .move x=>C2 d x
 | .assign x=>C2 d x
 | .pick c a b=>match C2 d c with
  | .t=>C2 d a
  | .f=>C2 d b
  |_=>.x
 | .unOp .not _ x=>match C2 d x with
  | .t=>.f
  | .f=>.t
  |_=>.x
 |_=>.x
def tK(d:xo)(o:Oper)(v:DV):xo:=match o.dst with|some t=>(t,v)::d|none=>d
noncomputable def jZ(ops:List Oper)(d:xo)(o:Oper):Option Bool:=
 match o.guard with
 |none=>some true
 |some (j,want)=>match ops[j]? with
  |none=>none
  |some oj=>match oj.dst with
   |none=>none
   |some t=>match tg d t with
    | .t=>some want
    | .f=>some (!want)
    | .u=>some false
    | .x=>none
def HJ(ops:List Oper)(o:Oper):Option Nat:=
 match o.guard with
 |none=>none
 |some (j,_)=>match ops[j]? with
  |none=>none
  |some oj=>oj.dst
noncomputable def Kc(P:Program)(N:Nat)(ek:Option (Kind×Kind))(ops:List Oper)(o:Oper)(d:xo)(r:cV)(h:af)(K:xo→cV→af→Prop):Prop:=
 match jZ ops d o with
 |some true=>aal P N ek o r (K (tK d o (M5 d o.op))) h
 |some false=>BG N o undef r fun a=>K (tK d o .u) a h
 |none=>False
noncomputable def G4(P:Program)(N:Nat)(ek:Option (Kind×Kind))(ops:List Oper)(l:List Oper):xo→(cV→af→Prop)→cV→af→Prop:=
 gp (motive:=fun _=>xo→(cV→af→Prop)→cV→af→Prop) (fun _ K r h=>K r h)
  (fun o _ f d K r h=>
  match jZ ops d o with
  |some true=>aal P N ek o r (fun a c=>f (tK d o (M5 d o.op)) K a c) h
  |some false=>BG N o undef r fun a=>f (tK d o .u) K a h
  |none=>match HJ ops o with
   |none=>False
   |some t=>match lL r t with
    |some (.bool b)=>CondP b
     (Kc P N ek ops o ((t,.t)::d) ((t,.bool true)::r) h fun g a c=>f g K a c)
     (Kc P N ek ops o ((t,.f)::d) ((t,.bool false)::r) h fun g a c=>f g K a c)
    |_=>False) l
inductive DA where
 |done
 |take (i:Nat) (rest:DA)
 |all (l:DA)
 |pick (i:Nat) (rest more:DA)
 |last (i:Nat) (rest:DA)
 |lastT (i:Nat) (rest:DA)
 |split (t:Nat) (yes no:DA)
abbrev sP:=List (Nat×(af→Prop))
def tb(m i:Nat):Bool:=bX (kN (Nat.shiftRight m i) 1) 1
def iH(i:Nat):Nat:=Nat.pow 2 i
inductive DM where
 |mk (am fr lk ds:Nat)
def DM.am:DM→Nat| .mk a _ _ _=>a
def DM.fr:DM→Nat| .mk _ f _ _=>f
def DM.lk:DM→Nat| .mk _ _ l _=>l
def DM.ds:DM→Nat| .mk _ _ _ d=>d
def j1(o:Oper)(i:Nat):Bool:=o.after.toList.any fun e=>bX e.on i&&Region.binds .any e
noncomputable def nZ(l:List Edge):Nat:=
 gp (motive:=fun _=>Nat) 0 (fun e _ a=>bif Region.binds .any e then dA (iH e.on) a else a) l
noncomputable def m5(l:List Operand):Nat:=
 gp (motive:=fun _=>Nat) 0 (fun o _ a=>match o with| .tmp t=>dA (iH t) a|_=>a) l
def pa(o:Oper):Nat:=match o.dst with|some d=>iH d|none=>0
noncomputable def pU(ops:List Oper)(o:Oper):Nat:=
 dA (m5 o.op.operands.toList) (match o.guard with
  |some (g,_)=>(match ops[g]? with|some og=>pa og|none=>0)
  |none=>0)
noncomputable def yW(ops:List Oper)(l:List Oper):List DM→Bool:=
 gp (motive:=fun _=>List DM→Bool) (fun ms=>match ms with| []=>true|_=>false)
  (fun o _ a ms=>match ms with
   |m::ms=>bX (nZ o.after.toList) m.am&&bX (pU ops o) m.lk&&bX (pa o) m.ds&&a ms
   | []=>false) l
def EC(x y:DM):Bool:=bX (kN x.ds (dA y.lk y.ds)) 0&&bX (kN y.ds x.lk) 0
noncomputable def KT(i:Nat)(m:DM)(l:List DM):Nat→Bool:=
 gp (motive:=fun _=>Nat→Bool) (fun _=>true)
  (fun n _ a j=>(!(tb m.fr j)||bX j i||tb n.am i||EC m n)&&a (gH j)) l
noncomputable def CT(a:List DM)(l:List DM):Nat→Bool:=
 gp (motive:=fun _=>Nat→Bool) (fun _=>true) (fun m _ b i=>KT i m a 0&&b (gH i)) l
def NY:List Oper→Bool
 | []=>true
 |o::os=>(match o.op with| .select .. =>false| .defer _=>false|_=>true)&&NY os
noncomputable def Gr(ops:List Oper)(ms:List DM):Bool:=yW ops ops ms&&CT ms ms 0&&NY ops
def p9(o:Oper):sP→sP
 | []=> []
 |(k,S)::l=>bif j1 o k then p9 o l else(k,S)::p9 o l
def ua:sP→af→Prop→Prop
 | [],_,R=>R
 |(_,S)::l,h,R=>S h∧ua l h R
def Kl(m:DM)(ls:Nat):Bool:=bX (kN m.am ls) m.am
noncomputable def nf(ls:Nat)(l:List DM):Nat→List Nat:=
 gp (motive:=fun _=>Nat→List Nat) (fun _=> []) (fun m _ a j=>bif !(tb ls j)&&Kl m ls then j::a (gH j)else a (gH j)) l
def GS(m:DM)(i ls n:Nat):Bool:= !(tb ls i)&&Kl m ls&&bX (kN (dA ls m.fr) (zL (iH n))) (zL (iH n))
def xC:List Nat→List Nat→Bool
 | [],[]=>true
 |a::as,b::bs=>bX a b&&xC as bs
 |_,_=>false
def En:DA→List Nat
 | .pick i _ l=>i::En l
 | .last i _=> [i]
 | .lastT i _=> [i]
 |_=> []
noncomputable def Tl(P:Program)(N:Nat)(ops:List Oper)(i:Nat)(L:sP)(d:xo)(r:cV)(h:af)(K:sP→xo→cV→af→Prop):Prop:=
 match ops[i]? with
 |none=>False
 |some o=>match jZ ops d o with
  |some true=>bif yn P o.op then DX P none o.op r (fun v _=>BG N o v r fun a=>ua (p9 o L) h (K (p9 o L) (tK d o .x) a h)) h else I6 P o r (fun v b=>BG N o v r fun a=>ua (p9 o L) b (K (p9 o L) (tK d o .x) a b)) h
  |_=>False
noncomputable def upM(m:Nat)(l:List DM):Nat→Nat:=
 gp (motive:=fun _=>Nat→Nat) (fun _=>m) (fun n _ a j=>bif tb m j then dA n.am (a (gH j))else a (gH j)) l
noncomputable def C4(ms:List DM)(m:Nat):Nat:=upM (upM (upM (upM m ms 0) ms 0) ms 0) ms 0
def MC(ms:List DM)(i:Nat):Nat:=match ms[i]? with|some m=>m.am|none=>0
def Cy(m:Nat):sP→sP
 | []=> []
 |(k,S)::l=>bif tb m k then Cy m l else(k,S)::Cy m l
noncomputable def RN(P:Program)(N:Nat)(ops:List Oper)(ms:List DM)(i:Nat)(L:sP)(d:xo)(r:cV)(h:af)(K:sP→xo→cV→af→Prop):Prop:=
 match ops[i]? with
 |none=>False
 |some o=>match jZ ops d o with
  |some true=>bif yn P o.op then False else I6 P o r (fun v a=>BG N o v r fun b=>ua (Cy (C4 ms (MC ms i)) L) a (K (Cy (C4 ms (MC ms i)) L) (tK d o .x) b a)) h
  |_=>False
noncomputable def oI(P:Program)(N:Nat)(ops:List Oper)(ms:List DM)(n:DA):Bool→Nat→sP→xo→(cV→af→Prop)→cV→af→Prop:=
 DA.rec (motive:=fun _=>Bool→Nat→sP→xo→(cV→af→Prop)→cV→af→Prop)
  (fun m ls _ _ K r h=>bif !m&&xC (nf ls ms 0) []then K r h else False)
  (fun i _ c m ls L d K r h=>
   match ops[i]?,ms[i]? with
   |some o,some mi=>bif !m&&GS mi i ls ops.length then
     (match jZ ops d o with
      |none=>False
      |some false=>BG N o undef r fun a=>c false (dA ls (iH i)) L (tK d o .u) K a h
      |some true=>bif yn P o.op then
       DX P none o.op r (fun v S=>BG N o v r fun a=>match S with
        |none=>c false (dA ls (iH i)) L (tK d o (M5 d o.op)) K a h
        |some S=>c false (dA ls (iH i)) ((i,S)::L) (tK d o (M5 d o.op)) K a h) h
       else False)
    else False
   |_,_=>False)
  (fun l c m ls L d K r h=>bif !m&&xC (nf ls ms 0) (En l)then c true ls L d K r h else False)
  (fun i _ _ g f m ls L d K r h=>bif m then Tl P N ops i L d r h (fun L' j a k=>g false (dA ls (iH i)) L' j K a k)∧f true ls L d K r h else False)
  (fun i _ c m ls L d K r h=>bif m then Tl P N ops i L d r h (fun L' j a k=>c false (dA ls (iH i)) L' j K a k)else False)
  (fun i _ c m ls L d K r h=>bif m then RN P N ops ms i L d r h (fun L' j a k=>c false (dA ls (iH i)) L' j K a k)else False)
  (fun t _ _ g f m ls L d K r h=>
   bif m then False else match lL r t with
   |some (.bool b)=>CondP b (g false ls L ((t,.t)::d) K ((t,.bool true)::r) h) (f false ls L ((t,.f)::d) K ((t,.bool false)::r) h)
   |_=>False)
  n
noncomputable def abK(b:Oper)(i:Nat)(ds lk:Nat)(ops:List Oper)(l:List Oper):Nat→Nat:=
 gp (motive:=fun _=>Nat→Nat) (fun _=>0) (fun p _ a j=>bif (bX j i||j1 p i||(bX (kN ds (dA (pU ops p) (pa p))) 0&&bX (kN (pa p) lk) 0))then dA (iH j) (a (gH j))else a (gH j)) l
noncomputable def abB(ops:List Oper)(l:List Oper):Nat→List DM:=
 gp (motive:=fun _=>Nat→List DM) (fun _=> []) (fun o _ a i=>.mk (nZ o.after.toList) (abK o i (pa o) (pU ops o) ops ops 0) (pU ops o) (pa o)::a (gH i)) l
def aau(P:Program)(w:Option Bool)(o:Oper):Bool:=match w with|some false=>true|some true=>yn P o.op|none=>false
noncomputable def ZR(P:Program)(ops:List Oper)(d:xo)(ls n:Nat)(l:List Oper):List DM→Nat→Option (Nat×Oper):=
 gp (motive:=fun _=>List DM→Nat→Option (Nat×Oper)) (fun _ _=>none)
  (fun o _ a ms j=>match ms with
   | []=>none
   |m::ms=>bif GS m j ls n&&aau P (jZ ops d o) o then some (j,o)else a ms (gH j)) l
noncomputable def ZS(ops:List Oper)(d:xo)(ls:Nat)(l:List Oper):List DM→Nat→Option Nat:=
 gp (motive:=fun _=>List DM→Nat→Option Nat) (fun _ _=>none)
  (fun o _ a ms j=>match ms with
   | []=>none
   |m::ms=>match bif !(tb ls j)&&Kl m ls then(match jZ ops d o with|none=>HJ ops o|some _=>none)else none with
    |some t=>some t
    |none=>a ms (gH j)) l
noncomputable def aaO(ops:List Oper)(k:Nat→xo→DA)(ls:Nat)(d:xo)(l:List Nat):DA:=
 gp (motive:=fun _=>DA) .done (fun i a b=>match ops[i]? with
  |none=>.done
  |some o=>match a with
   | []=>.last i (k (dA ls (iH i)) (tK d o .x))
   |_=>.pick i (k (dA ls (iH i)) (tK d o .x)) b) l
noncomputable def aab(P:Program)(ops:List Oper)(ms:List DM)(fuel:Nat):Nat→xo→DA:=
 Nat.rec (motive:=fun _=>Nat→xo→DA) (fun _ _=>.done) (fun _ a ls d=>
  match ZR P ops d ls ops.length ops ms 0 with
  |some (i,o)=>.take i (a (dA ls (iH i)) (match jZ ops d o with|some false=>tK d o .u|_=>tK d o (M5 d o.op)))
  |none=>match ZS ops d ls ops ms 0 with
   |some t=>.split t (a ls ((t,.t)::d)) (a ls ((t,.f)::d))
   |none=>match nf ls ms 0 with
    | []=>.done
    |l=>.all (aaO ops a ls d l)) fuel
noncomputable def RZ(ops:List Oper):List DM:=abB ops ops 0
inductive Ex where
 |exit (id:Nat)
 |ret
abbrev St:=List (Nat×Kind)
def Bi:St→List Kind
 | []=> []
 |(_,k)::l=>k::Bi l
noncomputable def GW(r:cV):St→Option (List Value)
 | []=>some []
 |(i,_)::l=>match lL r i,GW r l with
  |some v,some vs=>some (v::vs)
  |_,_=>none
noncomputable def E5(a:St)(r:cV)(f:wR (Bi a)→Prop):Prop:=
 match GW r a with
 |some vs=>F0 (Bi a) vs f
 |none=>False
def oY:St→List Value→cV→cV
 |(i,_)::l,v::vs,r=>(i,v)::oY l vs r
 |_,_,r=>r
noncomputable def Sf(r:cV)(l:List Nat):Option cV:=
 gp (motive:=fun _=>Option cV) (some []) (fun t _ a=>match lL r t,a with
  |some v,some l=>some ((t,v)::l)
  |_,_=>none) l
noncomputable def mY(t:Nat)(l:List Oper):Bool:=
 gp (motive:=fun _=>Bool) false (fun o _ a=>match o.dst with|some d=>bif bX d t then true else a|none=>a) l
noncomputable def ig(t:Nat)(c:Code):Bool:=
 Code.rec (motive:=fun _=>Bool) false (fun _ ops _=>mY t ops.toList) (fun _ _ a b=>bif a then true else b) (fun _ _ _ a b=>bif a then true else b)
  (fun _ _ b=>b) (fun _ b=>b) (fun _ _ _ _ _ _=>true) (fun _=>false) (fun _ b=>b) (fun _=>false) (fun _=>false) false (fun _=>false) c
inductive Ann where
 |nil
 |node (a b:Ann)
 |join (st:St) (a b:Ann)
 |loop (st:St) (b:Ann)
 |draw (d:DA)
 |kinds (k v:Kind)
 |reg (keep:List Nat) (inner:Ann)
 |rf (ks:List Kind) (a b:Ann)
def Ann.l:Ann→Ann
 | .node a _=>a
 | .rf _ a _=>a
 |_=>.nil
def Ann.r:Ann→Ann
 | .node _ b=>b
 | .rf _ _ b=>b
 |_=>.nil
noncomputable def UV(l:List Oper):Nat:=gp (motive:=fun _=>Nat) 0 (fun o _ a=>dA (pa o) a) l
def aaP:Option Nat→Option Nat→Option Nat
 |some a,some b=>some (dA a b)
 |_,_=>none
noncomputable def AD(c:Code):Option Nat:=
 Code.rec (motive:=fun _=>Option Nat) (some 0) (fun _ ops _=>some (UV ops.toList)) (fun _ _ a b=>aaP a b) (fun _ _ _ a b=>aaP a b)
  (fun _ _ b=>b) (fun _ b=>b) (fun _ _ _ _ _ _=>none) (fun _=>some 0) (fun _ b=>b) (fun _=>some 0) (fun _=>some 0) (some 0) (fun _=>some 0) c
noncomputable def yZ(m:Nat)(r:cV):cV:=gp (motive:=fun _=>cV) [] (fun a _ b=>bif tb m a.1 then b else a::b) r
noncomputable def D4(P:Program)(N:Nat)(ops:List Oper)(b:Bool)(a:Ann)(Kn:cV→af→Prop)(r:cV)(h:af):Prop:=
 match b with
 |false=>(match a with
  | .kinds kk vk=>G4 P N (some (kk,vk)) ops ops [] Kn r h
  |_=>G4 P N none ops ops [] Kn r h)
 |true=>bif Gr ops (RZ ops)then oI P N ops (RZ ops) (match a with| .draw da=>da|_=>aab P ops (RZ ops) (Nat.add (Nat.add ops.length ops.length) 2) 0 []) false 0 [] [] Kn r h else False
noncomputable def mg(P:Program)(N:Nat)(c:Code):Ann→(cV→af→Prop)→(Ex→cV→af→Prop)→cV→af→Prop:=
 Code.rec (motive:=fun _=>Ann→(cV→af→Prop)→(Ex→cV→af→Prop)→cV→af→Prop)
  (fun _ Kn _ r h=>Kn r h)
  (fun _ ops q d Kn _ r h=>match d with
   | .reg keep d=>D4 P N ops.toList q d (fun g f=>match Sf g keep with|some r0=>Kn r0 f|none=>False) r h
   |d=>D4 P N ops.toList q d Kn r h)
  (fun a _ k j d Kn Kx r h=>match d with
   | .join st aa ab=>(match AD a with
     |none=>False
     |some m=>Join (T:=wR (Bi st)) (fun t f=>j ab Kn Kx (oY st (oA (Bi st) t) (yZ m r)) f)
      fun J=>k aa (fun g f=>E5 st g fun t=>J t f) Kx r h)
   |d=>k d.l (fun g f=>j d.r Kn Kx g f) Kx r h)
  (fun c _ _ k j d Kn Kx r h=>match dV r c with
   |some (.bool t)=>CondP t (k d.l Kn Kx r h) (j d.r Kn Kx r h)
   |_=>False)
  (fun id _ p d Kn Kx r h=>p d Kn (fun e g f=>match e with
    | .exit i=>bif bX i id then Kn g f else Kx (.exit i) g f
    | .ret=>Kx .ret g f) r h)
  (fun b p d _ Kx r h=>match d with
   | .loop st ab=>(match AD b with
     |none=>False
     |some m=>E5 st r fun s=>LoopP (T:=wR (Bi st)) (fun n t f=>p ab (fun g o=>E5 st g fun u=>n u o) Kx (oY st (oA (Bi st) t) (yZ m r)) f) s h)
   |_=>False)
  (fun _ _ _ _ _ _ _ _ _ _ _=>False)
  (fun id _ _ Kx r h=>Kx (.exit id) r h)
  (fun _ _ _ _ _ _ _=>False)
  (fun _ _ Kn _ r h=>Kn r h)
  (fun _ _ _ _ _ _=>False)
  (fun _ _ Kx r h=>Kx .ret r h)
  (fun _ _ _ _ _ _=>False)
  c
noncomputable def o8(P:Program)(r:cV)(h:af):List ResultVar→(List Value→Prop)→Prop
 | [],K=>K []
 | .tmp t::l,K=>(match lL r t with|some v=>o8 P r h l fun vs=>K (v::vs)|none=>False)
 | .cell a t::l,K=>(match lL r a with
  |some v=>NC P t v (fun x _=>o8 P r h l fun vs=>K (x::vs)) h
  |none=>False)
def rN:Nat→List Value→cV
 |_,[]=> []
 |i,v::vs=>(i,v)::rN (i+1) vs
noncomputable def Kd(P:Program)(fn:Func)(c:Code)(b:Ann)(args:List Value)(ks:List Kind)(K:wR ks→af→Prop)(h:af):Prop:=
 mg P fn.ntmps c b
  (fun r a=>o8 P r a fn.results.toList fun vs=>F0 ks vs fun t=>K t a)
  (fun e r a=>match e with
   | .ret=>o8 P r a fn.results.toList fun vs=>F0 ks vs fun t=>K t a
   | .exit _=>False)
  (rN 0 args) h
def HW:List Oper→Option (Oper×Oper×Operand×Nat×FuncId×List Operand)
 | [m,o]=>match m.op,m.guard,m.dst,o.op,o.dst,o.guard with
  | .move x,none,some d,.defer c,none,none=>(match c.callee with
   | .value (.func f)=>some (m,o,x,d,f,c.args.toList)
   |_=>none)
  |_,_,_,_,_,_=>none
 |_=>none
inductive Mk where
 |it (n:Nat)
 |call (f:FuncId) (vs:List Value)
def HD(P:Program)(f:FuncId)(args:List Value)(K:af→Prop)(h:af):Prop:=
 ∀w:World,w.heap=h→(∀(args:Array Value) (w:World),(callFunc f args).run P w=.ok (.enter f args) w)∧∀n:Nat,CallsDIn {fn:=fun _=>True,depth:=none,alive:=false,round:=none} n P f args.toArray .returning w fun e u w'=>u=.returning∧Tame w w'∧(∃v,e=.returned v)∧K w'.heap
noncomputable def uc(c:Code):Bool:=
 Code.rec (motive:=fun _=>Bool) false (fun _ ops _=>(HW ops.toList).isSome) (fun _ _ a b=>bif a then true else b) (fun _ _ _ a b=>bif a then true else b)
  (fun _ _ b=>b) (fun _ b=>b) (fun _ _ _ _ _ _=>true) (fun _=>false) (fun _ b=>b) (fun _=>false) (fun _=>false) false (fun _=>false) c
def Md:Option Ex→Option Code
 |none=>none
 |some (.exit i)=>some (.exit i)
 |some .ret=>some .ret
def abL(N:af→Prop)(X:Nat→af→Prop)(R:af→Prop):Option Ex→af→Prop
 |none=>N
 |some (.exit i)=>X i
 |some .ret=>R
structure RangeP(P:Program)(fv:Value)(ks:List Kind)(h:af)(RT:Obj→Obj→wR ks→(Option Ex→af→Prop)→af→Prop)(N:af→Prop)(X:Nat→af→Prop)(R:af→Prop):Prop where
 run:∀lo:LoopState→Option Ex→Obj,(∀s j,∃r,lo s j=.loop r)→
  (∀x h' K,h'[h.size+1]? =some (lo .ready none)→
   RT (lo .ready none) (lo .busy none) x (fun j h2=>h2[h.size+1]? =some (lo .busy none)∧K j.isNone (h2.setIfInBounds (h.size+1) (lo (if j.isNone then .ready else .done) j))) h'→
   HV P (.func (.yield (h.size+1)) #[] #[]) (oA ks x) [.c .bool] K h')→
  ∃f first cap,fv=.func (.func f) first cap∧HE P f (first.toList++ [.func (.yield (h.size+1)) #[] #[]]++cap.toList) []
   (fun _ h2=>∃s j,s≠ .busy∧h2[h.size+1]? =some (lo s j)∧abL N X R j (h2.setIfInBounds (h.size+1) (lo .exhausted j))) ((h.push (.deferred (some []))).push (lo .ready none))
def Xx:List Nat→List Value→cV→cV
 |i::l,v::vs,r=>Xx l vs ((i,v)::r)
 |_,_,r=>r
noncomputable def PB(P:Program)(N:Nat)(ps:List Nat)(ks:List Kind)(assign body:Code)(b:Ann)(r:cV)(l:Nat)(Kl d:Obj)(x:wR ks)(k:Option Ex→af→Prop)(h:af):Prop:=
 mg P N assign b.l (fun f c=>c[l]? =some Kl∧mg P N body b.r (fun _ a=>k none a) (fun e _ a=>k (some e) a) f (c.setIfInBounds l d)) (fun _ _ _=>False) (Xx ps (oA ks x) r) h
def Bs(N:Nat):List Nat→Bool
 | []=>true
 |n::l=>Am n N&&Bs N l
noncomputable def Bm(P:Program)(N:Nat)(c:Code):Ann→(List Mk→cV→af→Prop)→(Ex→List Mk→cV→af→Prop)→List Mk→cV→af→Prop:=
 Code.rec (motive:=fun _=>Ann→(List Mk→cV→af→Prop)→(Ex→List Mk→cV→af→Prop)→List Mk→cV→af→Prop)
  (fun j Kn Kx ms r h=>mg P N .skip j (Kn ms) (fun e=>Kx e ms) r h)
  (fun id ops q j Kn Kx ms r h=>match HW ops.toList with
   |none=>mg P N (.region id ops q) j (Kn ms) (fun e=>Kx e ms) r h
   |some (_,_,x,d,f,as)=>bif q then False else match dV r x with
    |some v=>bif Am d N then(match po ((d,v)::r) as with|some vs=>Kn (.call f vs::ms) ((d,v)::r) h|none=>False)else False
    |none=>False)
  (fun a b o n j Kn Kx ms r h=>bif (bif uc a then true else uc b)then o j.l (fun ms p m=>n j.r Kn Kx ms p m) Kx ms r h
   else mg P N (.seq a b) j (Kn ms) (fun e=>Kx e ms) r h)
  (fun c a b o n j Kn Kx ms r h=>bif (bif uc a then true else uc b)then
    (match dV r c with
     |some (.bool t)=>CondP t (o j.l Kn Kx ms r h) (n j.r Kn Kx ms r h)
     |_=>False)
   else mg P N (.cond c a b) j (Kn ms) (fun e=>Kx e ms) r h)
  (fun id b u j Kn Kx ms r h=>bif uc b then u j Kn (fun e ms p m=>match e with
    | .exit i=>bif bX i id then Kn ms p m else Kx (.exit i) ms p m
    | .ret=>Kx .ret ms p m) ms r h
   else mg P N (.block id b) j (Kn ms) (fun e=>Kx e ms) r h)
  (fun b _ j Kn Kx ms r h=>mg P N (.loop b) j (Kn ms) (fun e=>Kx e ms) r h)
  (fun g ps assign body _ _ j Kn Kx ms r h=>match j with
   | .rf ks aa ab=>bif Bs N ps.toList&&bX ps.toList.length ks.length then
    (match dV r g with
     |some fv=>RangeP P fv ks h (fun Kl s x k m=>PB P N ps.toList ks assign body (.node aa ab) r (h.size+1) Kl s x k m)
      (fun m=>Kn (.it h.size::ms) r m) (fun i m=>Kx (.exit i) (.it h.size::ms) r m) (fun m=>Kx .ret (.it h.size::ms) r m)
     |none=>False)else False
   |_=>False)
  (fun id j Kn Kx ms r h=>mg P N (.exit id) j (Kn ms) (fun e=>Kx e ms) r h)
  (fun _ _ _ _ _ _ _ _=>False)
  (fun l j Kn Kx ms r h=>mg P N (.label l) j (Kn ms) (fun e=>Kx e ms) r h)
  (fun _ _ _ _ _ _ _=>False)
  (fun j Kn Kx ms r h=>mg P N .ret j (Kn ms) (fun e=>Kx e ms) r h)
  (fun _ _ _ _ _ _ _=>False)
  c
def Nr(P:Program):List Mk→(af→Prop)→af→Prop
 | [],K,h=>K h
 | .it D::ms,K,h=>h[D]? =some (.deferred (some []))∧Nr P ms K (h.setIfInBounds D (.deferred none))
 | .call f vs::ms,K,h=>HD P f vs (fun a=>Nr P ms K a) h
noncomputable def PC(P:Program)(fn:Func)(c:Code)(b:Ann)(args:List Value)(ks:List Kind)(K:wR ks→af→Prop)(h:af):Prop:=
 Bm P fn.ntmps c b
  (fun ms r a=>Nr P ms (fun a=>o8 P r a fn.results.toList fun vs=>F0 ks vs fun t=>K t a) a)
  (fun e ms r a=>match e with
   | .ret=>Nr P ms (fun a=>o8 P r a fn.results.toList fun vs=>F0 ks vs fun t=>K t a) a
   | .exit _=>False)
  [] (rN 0 args) h
end Go.Lift
namespace Go.Lift
open Go
theorem Ic(a:Addr):adr a 0=a:=rfl
theorem Da(a:Addr)(n:Nat):adr a (n+1)=⟨a.block,a.off+(n+1),none⟩:=rfl
theorem wn(a:Addr)(n:Nat):adr a n=a.add n:=by
 cases n with
 |zero=>simp[Ic,Addr.add]
 |succ n=>simp[Da,Addr.add]
theorem Db(a:Addr)(m n:Nat):adr (adr a m) n=adr a (m+n):=by
 cases n with
 |zero=>rfl
 |succ n=>cases m with
  |zero=>simp[Ic]
  |succ m=>rw[Da,Da,show m+1+(n+1)=(m+1+n)+1 from rfl,Da];simp;omega
theorem Tame.refl(w:World):Tame w w:=⟨rfl,rfl,rfl⟩
theorem Tame.trans{a b c:World}(h:Tame a b)(k:Tame b c):Tame a c:=⟨k.os.trans h.os,k.tape.trans h.tape,k.output.trans h.output⟩
theorem CQ{a b:IntKind}(h:L7 a b=true):a=b:=by cases a<;>cases b<;>first|rfl|cases h
theorem CK.dec_sound{c:CK}{v:Value}{f:c.den→Prop}(h:c.dec v f):∃x,v=c.enc x∧f x:=by
 cases c<;>cases v<;>try simp only[CK.dec]at h
 case int.int k k' n=>
  cases hk:L7 k' k with
  |false=>rw[hk]at h;exact h.elim
  |true=>rw[hk]at h;have:=CQ hk;subst this;exact⟨n,rfl,h⟩
 case adr.pointer p=>cases p with
  |none=>exact h.elim
  |some a=>exact⟨a,rfl,h⟩
 all_goals first|exact h.elim|exact⟨_,rfl,h⟩
theorem Fx:∀{cs:List CK} {vs:List Value} {f:Xf cs→Prop},SF cs vs f→∃t,vs=WP cs t∧f t
 | [],[],f,h=>⟨(),rfl,h⟩
 | [],_::_,f,h=>h.elim
 | [c],[v],f,h=>by obtain⟨x,rfl,a⟩:=CK.dec_sound h;exact⟨x,rfl,a⟩
 | [c],[],f,h=>h.elim
 | [c],_::_::_,f,h=>h.elim
 |c::d::cs,[],f,h=>h.elim
 |c::d::cs,[_],f,h=>h.elim
 |c::d::cs,v::u::vs,f,h=>by
  have g:c.dec v fun x=>SF (d::cs) (u::vs) fun t=>f (x,t):=h
  obtain⟨x,hx,i⟩:=CK.dec_sound g;obtain⟨t,j,b⟩:=Fx (cs:=d::cs) (vs:=u::vs) i;exact⟨(x,t),by rw[j,hx];rfl,b⟩
theorem Kind.dec_sound{k:Kind}{v:Value}{f:k.den→Prop}(h:k.dec v f):∃x,v=k.enc x∧f x:=by
 cases k with
 |c k=>exact CK.dec_sound h
 |agg cs=>
  cases v<;>simp only[Kind.dec]at h
  case agg vs=>
   obtain⟨t,b,a⟩:=Fx h;exact⟨t,by simp only[Kind.enc,←b],a⟩
theorem uk:∀{ks:List Kind} {vs:List Value} {f:wR ks→Prop},F0 ks vs f→∃t,vs=oA ks t∧f t
 | [],[],f,h=>⟨(),rfl,h⟩
 | [],_::_,f,h=>h.elim
 | [c],[v],f,h=>by obtain⟨x,rfl,a⟩:=Kind.dec_sound h;exact⟨x,rfl,a⟩
 | [c],[],f,h=>h.elim
 | [c],_::_::_,f,h=>h.elim
 |c::d::cs,[],f,h=>h.elim
 |c::d::cs,[_],f,h=>h.elim
 |c::d::cs,v::u::vs,f,h=>by
  have g:c.dec v fun x=>F0 (d::cs) (u::vs) fun t=>f (x,t):=h
  obtain⟨x,hx,i⟩:=Kind.dec_sound g;obtain⟨t,j,b⟩:=uk (ks:=d::cs) (vs:=u::vs) i;exact⟨(x,t),by rw[j,hx];rfl,b⟩
theorem vi:∀(ks:List Kind) (t:wR ks),(oA ks t).length=ks.length
 | [],_=>rfl
 | [_],_=>rfl
 |_::l::ks,(_,t)=>by simp only[oA,aH,vi (l::ks) t]
structure Agree(N:Nat)(r:cV)(a:Act):Prop where
 size:a.tmps.size=N
 look:∀t v,lL r t=some v→a.tmps.getD t undef=v
theorem jB(k:Nat)(v:Value)(r:cV):lL ((k,v)::r) k=some v:=by rw[He,show bX k k=true from Nat.beq_refl k];rfl
theorem iJ{k t:Nat}(v:Value)(r:cV)(h:k≠t):lL ((k,v)::r) t=lL r t:=by
 rw[He];have:bX k t=false:=Bool.eq_false_iff.2 fun e=>h (bC e)
 rw[this];rfl
theorem Agree.put{N:Nat}{r:cV}{a:Act}(h:Agree N r a)(d:Nat)(v:Value)(hd:d<N):Agree N ((d,v)::r) (a.put (some d) v):=by
 refine⟨by simp[Act.put,h.size],fun t u b=>?_⟩
 by_cases e:d=t
 ·subst e
  rw[jB]at b;cases b;simp[Act.put,h.size,hd]
 ·rw[iJ v r e]at b
  have:=h.look t u b;simpa[Act.put,Array.getElem?_setIfInBounds_ne e]using this
theorem Agree.known{N:Nat}{r:cV}{a:Act}(h:Agree N r a){t:Nat}{v:Value}(hv:lL r t=some v):Agree N ((t,v)::r) a:=by
 refine⟨h.size,fun s u b=>?_⟩
 by_cases e:t=s
 ·subst e;rw[jB]at b;cases b;exact h.look t v hv
 ·rw[iJ v r e]at b;exact h.look s u b
theorem lM{N:Nat}{r:cV}{a:Act}(h:Agree N r a){o:Operand}{v:Value}(hv:dV r o=some v):a.eval o=v:=by
 cases o with
 |tmp t=>exact h.look t v hv
 |const c=>simp[dV]at hv;subst hv;rfl
 |global g=>simp[dV]at hv;subst hv;rfl
 |func f=>simp[dV]at hv;subst hv;rfl
theorem nO{N:Nat}{r:cV}{a:Act}(h:Agree N r a):∀{os:List Operand} {vs:List Value},po r os=some vs→os.map a.eval=vs
 | [],vs,hv=>by simp[po]at hv;subst hv;rfl
 |o::os,vs,hv=>by
  simp only[po]at hv;cases ho:dV r o with
  |none=>simp[ho]at hv
  |some v=>cases hos:po r os with
   |none=>simp[ho,hos]at hv
   |some us=>simp[ho,hos]at hv;subst hv;simp[lM h ho,nO h hos]
theorem aJ{P:Program}{t:TypeId}{d:TypeDesc}(h:P.underlying t=some d)(w:World):(underlying t).run P w=.ok d w:=by
 simp only[underlying,program,bind,Sem.bind,Sem.run,h,pure]
theorem dy{P:Program}{t:TypeId}{i:TypeInfo}(h:P.info? t=some i)(w:World):(typeInfo t).run P w=.ok i w:=by
 simp only[typeInfo,program,bind,Sem.bind,Sem.run,h,pure]
theorem kg{P:Program}{s:Sem Value}{v:Value}{w w':World}(h:s.run P w=.ok v w'):(do pure (Next.value (←s)):Sem Next).run P w=.ok (.value v) w':=by
 simp[h]
theorem Vp{P:Program}{s:Sem Unit}{w w':World}(h:s.run P w=.ok () w'):(do s;pure Next.skip:Sem Next).run P w=.ok .skip w':=by
 simp[h]
theorem Cx{P:Program}{w:World}{a:Addr}{v:Value}(h:aR w.heap a=some v):(load a).run P w=.ok v w:=by
 have b:w.cell? a=some v:=h;simp[b]
theorem C6{v:Value}{vs:List Value}{i:Nat}{a:Addr}{h:af}:vl (v::vs) i a h↔aR h (adr a i)=some v∧vl vs (i+1) a h:=by
 cases vs with
 |nil=>simp[vl]
 |cons u us=>rfl
theorem uS{P:Program}{w:World}{a:Addr}:∀(vs:List Value) (i:Nat) (acc:Array Value),vl vs i a w.heap→
  (loadCellsFrom a i vs.length acc).run P w=.ok (acc++vs.toArray) w
 | [],i,acc,_=>by simp[loadCellsFrom]
 |v::vs,i,acc,h=>by
  obtain⟨b,c⟩:=C6.1 h;rw[wn]at b;have:=uS (P:=P) (w:=w) (a:=a) vs (i+1) (acc.push v) c;simp only[aH,loadCellsFrom,Sem.run_bind,Cx b,Result.andThen_ok,this];simp
theorem Je{P:Program}{w:World}{a:Addr}{vs:List Value}(h:vl vs 0 a w.heap):(loadCells a vs.length).run P w=.ok vs.toArray w:=by
 have:=uS (P:=P) (w:=w) (a:=a) vs 0 #[] h;simpa[loadCells]using this
theorem AM:∀(cs:List CK) (i:Nat) (a:Addr) (h:af) (k:List Value→Prop),Mf cs i a h k→∃vs,vs.length=cs.length∧vl vs i a h∧k vs
 | [],i,a,h,k,b=>⟨[],rfl,trivial,b⟩
 |c::cs,i,a,h,k,b=>by
  obtain⟨x,hx,b⟩:=b;obtain⟨vs,d,hc,b⟩:=AM cs (i+1) a h _ b;exact⟨c.enc x::vs,by simp[d],C6.2 ⟨hx,hc⟩,b⟩
theorem C5:∀{vs:List Value} {cs:List CK},H1 vs=some cs→cs.length=vs.length
 | [],cs,h=>by simp[H1]at h;subst h;rfl
 |v::vs,cs,h=>by
  simp only[H1]at h;cases h1:Z7 v with
  |none=>simp[h1]at h
  |some c=>cases h2:H1 vs with
   |none=>simp[h1,h2]at h
   |some ds=>simp[h1,h2]at h;subst h;simp[C5 h2]
def Xa(P:Program)(t:TypeId)(i:TypeInfo):Kind→Prop
 | .c _=>xZ P t=false
 | .agg cs=>xZ P t=true∧i.size=cs.length
theorem Qf{P:Program}{t:TypeId}{k:Kind}(h:Sc P t=some k):∃i,P.info? t=some i∧Xa P t i k:=by
 unfold Sc AB at h;cases hi:P.info? t with
 |none=>simp[hi]at h
 |some i=>
  refine⟨i,rfl,?_⟩;cases hz:i.zero with
  |none=>simp[hi,hz]at h
  |some z=>
   rw[hi]at h;simp only[hz]at h;cases z;case agg vs=>
    simp only at h;cases hb:(xZ P t&&bX vs.toList.length (cy P t))with
    |false=>rw[hb]at h;simp at h
    |true=>
     rw[hb]at h;simp only[cond_true]at h;simp only[Bool.and_eq_true]at hb;have a:=bC hb.2;cases hd:H1 vs.toList with
     |none=>rw[hd]at h;simp at h
     |some ds=>
      rw[hd]at h;simp only[bQ.injEq]at h;subst h;exact⟨hb.1,by rw[C5 hd,a];simp[cy,hi]⟩
   all_goals
    simp only at h;cases ha:xZ P t
    ·rw[ha]at h
     simp only[cond_false]at h;split at h
     ·simp only[bQ.injEq]at h;subst h;exact ha
     ·simp at h
    ·rw[ha]at h;simp at h
theorem Qg{P:Program}{t:TypeId}{k:Kind}(h:Hz P t=some k):(∀w,(isAgg t).run P w=.ok (xZ P t) w)∧Sc P t=some k:=by
 unfold Hz at h;cases hu:P.underlying t with
 |none=>simp[hu]at h
 |some d=>
  simp only[hu]at h;refine⟨fun w=>?_,h⟩
  simp only[isAgg,Sem.run_bind,aJ hu,Result.andThen_ok];unfold xZ;rw[hu];cases d<;>rfl
theorem Fa{P:Program}{t:TypeId}{v:Value}{K:RK}{h:af}(b:NC P t v K h):
  ∃u S,K u (some S)∧S h∧∀w:World,S w.heap→(Instr.loadAt t v).run P w=.ok u w:=by
 unfold NC at b;cases v with
 |pointer p=>
  cases p with
  |none=>exact b.elim
  |some a=>
   simp only at b;cases hk:Hz P t with
   |none=>simp[hk]at b
   |some k=>
    obtain⟨d,hz⟩:=Qg hk;obtain⟨i,hi,hc⟩:=Qf hz;rw[hk]at b;cases k with
    |c c=>
     obtain⟨x,hx,j⟩:=b;refine⟨_,_,j,hx,fun w m=>?_⟩
     have hc:xZ P t=false:=hc;simp only[Instr.loadAt,Instr.sureAddr,loadVar,Sem.run_bind,Sem.run_pure,Result.andThen_ok,d,hc];simp[Cx m]
    |agg cs=>
     obtain⟨vs,f,g,j⟩:=AM cs 0 a h _ b;obtain⟨o,n⟩:xZ P t=true∧i.size=cs.length:=hc;refine⟨_,_,j,g,fun w m=>?_⟩
     have hz:(sizeOf t).run P w=.ok vs.length w:=by simp[sizeOf,dy hi,n,f]
     simp only[Instr.loadAt,Instr.sureAddr,loadVar,Sem.run_bind,Sem.run_pure,Result.andThen_ok,d,o];simp[hz,Je m]
 |_=>exact b.elim
end Go.Lift
