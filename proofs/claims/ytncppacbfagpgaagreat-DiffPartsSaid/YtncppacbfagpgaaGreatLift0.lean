/- A part of the proof that the named laws of this program answer true, whatever the input. -/
import Derived.OrdersIn
import Derived.Below
import Derived.WalkKit
import Derived.RangeFuncRecord
open BitVec renaming ofInt→aw
open Iff renaming rfl→wU
open List renaming rec→fR,replicate→kO,length_cons→aj
open Nat renaming succ→gc,beq→bN,min→dM,land→jZ,lor→cQ,pred→yk,eq_of_beq_eq_true→aY
open Option renaming some→bG
namespace Go.Lift
abbrev af:=Array Obj
def aL(h:af)(a:Addr):Option Value:=
 match h[a.block]? with
 |some (.cells c _ _)=>if a.spot.isSome then none else c[a.off]?
 |_=>none
def Fc(h:af)(a:Addr):Bool:=
 match h[a.block]? with
 |some (.cells _ _ (lo,hi))=>lo≤a.off&&a.off<hi
 |_=>false
def hset(h:af)(a:Addr)(v:Value):af:=
 h.modify a.block fun
  | .cells c elem frozen=>.cells (if a.spot.isSome then c else c.setIfInBounds a.off v) elem frozen
  |o=>o
noncomputable def adr(a:Addr)(n:Nat):Addr:=Nat.rec (motive:=fun _=>Addr) a (fun n _=>⟨a.block,a.off+gc n,none⟩) n
def Wr(h:af)(a:Addr):Prop:=(∃v,aL h a=some v)∧Fc h a=false
structure Tame(w w':World):Prop where
 os:w'.os=w.os
 tape:w'.tape=w.tape
 output:w'.output=w.output
structure SliceV where
 a:Option Addr
 len:Nat
 cap:Nat
def Ka:IntKind→IntKind→Bool
 | .i8,.i8=>true| .i16,.i16=>true| .i32,.i32=>true| .i64,.i64=>true
 | .u8,.u8=>true| .u16,.u16=>true| .u32,.u32=>true| .u64,.u64=>true
 |_,_=>false
inductive CK where
 |int (k:IntKind)|bool|str|ptr|slice|map|chan|raw|adr
def CK.den:CK→Type
 | .int _=>Int| .bool=>Bool| .str=>ByteArray| .ptr=>Option Addr| .slice=>SliceV| .map=>Option Nat| .chan=>Option Nat| .raw=>Value| .adr=>Addr
def CK.enc:(c:CK)→c.den→Value
 | .int k,n=>.int k n
 | .bool,b=>.bool b
 | .str,s=>.string s
 | .ptr,p=>.pointer p
 | .slice,s=>.slice s.a s.len s.cap
 | .map,r=>.map r
 | .chan,r=>.chan r
 | .raw,v=>v
 | .adr,a=>.pointer (some a)
def CK.dec:(c:CK)→Value→(c.den→Prop)→Prop
 | .int k,.int k' n,f=>bif Ka k' k then f n else False
 | .bool,.bool b,f=>f b
 | .str,.string s,f=>f s
 | .ptr,.pointer p,f=>f p
 | .slice,.slice a l c,f=>f ⟨a,l,c⟩
 | .map,.map r,f=>f r
 | .chan,.chan r,f=>f r
 | .raw,v,f=>f v
 | .adr,.pointer (some a),f=>f a
 |_,_,_=>False
def TC:List CK→Type
 | []=>Unit
 | [c]=>c.den
 |c::d::cs=>c.den×TC (d::cs)
def Ti:(cs:List CK)→TC cs→List Value
 | [],_=> []
 | [c],x=> [c.enc x]
 |c::d::cs,(x,t)=>c.enc x::Ti (d::cs) t
def Qf:(cs:List CK)→List Value→(TC cs→Prop)→Prop
 | [],[],f=>f ()
 | [c],[v],f=>c.dec v f
 |c::d::cs,v::u::vs,f=>c.dec v fun x=>Qf (d::cs) (u::vs) fun t=>f (x,t)
 |_,_,_=>False
inductive Kind where
 |c (k:CK)
 |agg (cs:List CK)
def Kind.den:Kind→Type
 | .c k=>k.den
 | .agg cs=>TC cs
def Kind.enc:(k:Kind)→k.den→Value
 | .c k,x=>k.enc x
 | .agg cs,t=>.agg (Ti cs t).toArray
def Kind.dec:(k:Kind)→Value→(k.den→Prop)→Prop
 | .c k,v,f=>k.dec v f
 | .agg cs,.agg vs,f=>Qf cs vs.toList f
 |_,_,_=>False
def cD:List Kind→Type
 | []=>Unit
 | [k]=>k.den
 |k::l::ks=>k.den×cD (l::ks)
def oC:(ks:List Kind)→cD ks→List Value
 | [],_=> []
 | [k],x=> [k.enc x]
 |k::l::ks,(x,t)=>k.enc x::oC (l::ks) t
def EH:(ks:List Kind)→List Value→(cD ks→Prop)→Prop
 | [],[],f=>f ()
 | [k],[v],f=>k.dec v f
 |k::l::ks,v::u::vs,f=>k.dec v fun x=>EH (l::ks) (u::vs) fun t=>f (x,t)
 |_,_,_=>False
def FR(ks:List Kind)(vs:List Value):Value:=
 match ks,vs with
 | [_],[v]=>v
 |_,vs=>.tuple vs.toArray
def Vs:Value→Option CK
 | .int k _=>some (.int k)
 | .bool _=>some .bool
 | .string _=>some .str
 | .pointer _=>some .ptr
 | .slice .. =>some .slice
 | .map _=>some .map
 | .chan _=>some .chan
 | .nilFunc=>some .raw
 | .nilIface=>some .raw
 |_=>none
def Gr:List Value→Option (List CK)
 | []=>some []
 |v::vs=>match Vs v,Gr vs with
  |some c,some cs=>some (c::cs)
  |_,_=>none
def wK(P:Program)(t:TypeId):Bool:=
 match P.underlying t with
 |some (.struct _)|some (.array _ _)=>true
 |_=>false
def bW(P:Program)(t:TypeId):Nat:=match P.info? t with|some i=>i.size|none=>0
def rS(P:Program)(t:TypeId):Nat:=match P.info? t with|some i=>i.bytes|none=>0
def yR(P:Program)(t:TypeId):Option Value:=match P.info? t with|some i=>i.zero|none=>none
def P1(P:Program)(t:TypeId):Option Kind:=
 match yR P t with
 |some (.agg vs)=>bif wK P t&&bN vs.toList.length (bW P t)then(match Gr vs.toList with|some cs=>some (.agg cs)|none=>none)else none
 |some v=>bif wK P t then none else(match Vs v with|some c=>some (.c c)|none=>none)
 |none=>none
def F5(P:Program)(t:TypeId):Option Kind:=
 match P.underlying t with
 |none=>none
 |some _=>P1 P t
structure HC(P:Program)(f:FuncId)(args:List Value)(ks:List Kind)(K:cD ks→af→Prop)(h:af):Prop where
 run:∀w:World,w.heap=h→
  ((callFunc f args.toArray).run P w=.ok (.enter f args.toArray) w∧
   Calls P f args.toArray w fun e w'=>Tame w w'∧∃t:cD ks,e=.returned (FR ks (oC ks t))∧K t w'.heap)∨
  (∃v w',(callFunc f args.toArray).run P w=.ok (.value v) w'∧Tame w w'∧∃t:cD ks,v=FR ks (oC ks t)∧K t w'.heap)
structure HE(P:Program)(f:FuncId)(args:List Value)(ks:List Kind)(K:cD ks→af→Prop)(h:af):Prop where
 run:∀w:World,w.heap=h→(∀(args:Array Value) (w:World),(callFunc f args).run P w=.ok (.enter f args) w)∧
  Calls P f args.toArray w fun e w'=>Tame w w'∧∃t:cD ks,e=.returned (FR ks (oC ks t))∧K t w'.heap
theorem HE.hc{P:Program}{f:FuncId}{args:List Value}{ks:List Kind}{K:cD ks→af→Prop}{h:af}(e:HE P f args ks K h):HC P f args ks K h:=
 ⟨fun w hw=>.inl ⟨(e.run w hw).1 _ w,(e.run w hw).2⟩⟩
structure HY(P:Program)(l:Nat)(args:List Value)(K:Bool→af→Prop)(h:af):Prop where
 run:∀w:World,w.heap=h→∃fn tmps assign body,(Instr.yield l args.toArray).run P w=.ok (.round l fn tmps assign body) w∧
  ∀(c:Frame) (cs:List Frame),∃b w',Tame w w'∧K b w'.heap∧Steps P (lone (Frame.round l fn tmps assign body .normal) (c::cs) w) (lone (c.finish (.bool b)) cs w')
structure HV(P:Program)(fv:Value)(args:List Value)(ks:List Kind)(K:cD ks→af→Prop)(h:af):Prop where
 run:(∃f first cap,fv=.func (.func f) first cap∧HC P f (first.toList++args++cap.toList) ks K h)∨
  (∃l,fv=.func (.yield l) #[] #[]∧HY P l args (fun b h'=>EH ks [.bool b] fun t=>K t h') h)
noncomputable def CondP(b:Bool)(t e:Prop):Prop:=Bool.rec (motive:=fun _=>Prop) e t b
theorem CondP.yes{b:Bool}{t e:Prop}(h:CondP b t e)(hb:b=true):t:=by subst hb;exact h
theorem CondP.no{b:Bool}{t e:Prop}(h:CondP b t e)(hb:b=false):e:=by subst hb;exact h
theorem CondP.intro{b:Bool}{t e:Prop}(h1:b=true→t)(h2:b=false→e):CondP b t e:=by cases b;exact h2 rfl;exact h1 rfl
theorem au{t e:Prop}:CondP true t e↔t:=wU
theorem ak{t e:Prop}:CondP false t e↔e:=wU
attribute [irreducible] CondP
def At(h:af)(k:af→Prop):Prop:=k h
def Bd{T:Type}(x:T)(k:T→Prop):Prop:=k x
structure Join{T:Type}(rest:T→af→Prop)(k:(T→af→Prop)→Prop):Prop where
 run:k rest
structure LoopP{T:Type}(F:(T→af→Prop)→T→af→Prop)(t:T)(h:af):Prop where
 run:∀I:T→af→Prop,(∀t h,F I t h→I t h)→I t h
abbrev cE:=List (Nat×Value)
noncomputable def kX(r:cE)(t:Nat):Option Value:=
 fR (motive:=fun _=>Option Value) none (fun kv _ ih=>bif bN kv.1 t then some kv.2 else ih) r
theorem FO(k:Nat)(v:Value)(r:cE)(t:Nat):kX ((k,v)::r) t=bif bN k t then some v else kX r t:=rfl
noncomputable def dx(r:cE):Operand→Option Value
 | .tmp t=>kX r t
 | .const v=>some v
 | .global g=>some (.pointer (some ⟨g,0,none⟩))
 | .func f=>some (.func (.func f) #[] #[])
noncomputable def rO(r:cE):List Operand→Option (List Value)
 | []=>some []
 |o::os=>match dx r o,rO r os with
  |some v,some vs=>some (v::vs)
  |_,_=>none
noncomputable def Ki:List CK→Nat→Addr→af→(List Value→Prop)→Prop
 | [],_,_,_,k=>k []
 |c::cs,i,a,h,k=>∃x:c.den,aL h (adr a i)=some (c.enc x)∧Ki cs (i+1) a h fun vs=>k (c.enc x::vs)
noncomputable def ue:List Value→Nat→Addr→af→Prop
 | [],_,_,_=>True
 | [v],i,a,h=>aL h (adr a i)=some v
 |v::u::vs,i,a,h=>aL h (adr a i)=some v∧ue (u::vs) (i+1) a h
abbrev RK:=Value→Option (af→Prop)→Prop
noncomputable def LG(P:Program)(t:TypeId)(v:Value)(K:RK)(h:af):Prop:=
 match v with
 | .pointer (some a)=>
  match F5 P t with
  |some (.c c)=>∃x:c.den,aL h a=some (c.enc x)∧K (c.enc x) (some fun h'=>aL h' a=some (c.enc x))
  |some (.agg cs)=>Ki cs 0 a h fun vs=>K (.agg vs.toArray) (some fun h'=>ue vs 0 a h')
  |none=>False
 |_=>False
def xE(P:Program)(t:TypeId)(f:Nat):Option (TypeId×Nat):=
 match P.underlying t with
 |some (.struct fs)=>match fs.toList[f]? with
  |some g=>some (g.type,g.offset)
  |none=>none
 |_=>none
def wX(P:Program)(t:TypeId):Option TypeId:=
 match P.underlying t with
 |some (.slice e)=>some e
 |_=>none
def ND(op:BinOp)(k:IntKind)(a b:Int)(K:RK):Prop:=
 match op with
 | .shl=>0≤b∧K (.int k (k.wrap (a*2^(min b.toNat k.bits)))) none
 | .shr=>0≤b∧K (.int k (a.fdiv (2^(min b.toNat k.bits)))) none
 |_=>False
def Vl(op:BinOp)(k:IntKind)(a b:Int)(K:RK):Prop:=
 match op with
 | .add=>K (.int k (k.wrap (a+b))) none
 | .sub=>K (.int k (k.wrap (a-b))) none
 | .mul=>K (.int k (k.wrap (a*b))) none
 | .quo=>b≠0∧K (.int k (k.wrap (a.tdiv b))) none
 | .rem=>b≠0∧K (.int k (a.tmod b)) none
 | .and=>K (.int k (k.wrap (aw k.bits a&&&aw k.bits b).toNat)) none
 | .or=>K (.int k (k.wrap (aw k.bits a|||aw k.bits b).toNat)) none
 | .xor=>K (.int k (k.wrap (aw k.bits a^^^aw k.bits b).toNat)) none
 | .andNot=>K (.int k (k.wrap (aw k.bits a&&& ~~~aw k.bits b).toNat)) none
 | .eql=>K (.bool (a==b)) none
 | .neq=>K (.bool (a !=b)) none
 | .lss=>K (.bool (decide (a<b))) none
 | .leq=>K (.bool (decide (a≤b))) none
 | .gtr=>K (.bool (decide (a>b))) none
 | .geq=>K (.bool (decide (a≥b))) none
 |_=>False
def U7(op:BinOp)(a b:ByteArray)(K:RK):Prop:=
 match op with
 | .add=>((a.size+b.size:Nat):Int)≤9223372036854775807∧K (.string (a++b)) none
 | .eql=>K (.bool (a.toList==b.toList)) none
 | .neq=>K (.bool (!(a.toList==b.toList))) none
 | .lss=>K (.bool (Op.bytesLess a.toList b.toList)) none
 | .leq=>K (.bool (Op.bytesLess a.toList b.toList||a.toList==b.toList)) none
 | .gtr=>K (.bool (!(Op.bytesLess a.toList b.toList||a.toList==b.toList))) none
 | .geq=>K (.bool (!(Op.bytesLess a.toList b.toList))) none
 |_=>False
def fL(h:af)(a:Addr):Prop:=(∃c e,h[a.block]? =some (.cells c e (0,0))∧0<c.size)
def Ud(P:Program)(t:TypeId)(neg:Bool)(x y:Value)(K:RK):Prop:=
 match P.underlying t,x,y with
 |some (.pointer _),.pointer a,.pointer none=>K (.bool (bif neg then !a.isNone else a.isNone)) none
 |some (.map _ _),.map a,.map none=>K (.bool (bif neg then !a.isNone else a.isNone)) none
 |some (.slice _),.slice a _ _,.slice none _ _=>K (.bool (bif neg then !a.isNone else a.isNone)) none
 |_,_,_=>False
def Vk:Operand→Bool
 | .const (.pointer none)=>true
 | .const (.map none)=>true
 | .const (.slice none 0 0)=>true
 |_=>false
def VZ(P:Program)(t:TypeId)(neg:Bool)(x y:Value)(K:RK)(h:af):Prop:=
 match P.underlying t,x,y with
 |some .bool,.bool a,.bool b=>K (.bool (bif neg then !(a==b)else a==b)) none
 |some (.pointer e),.pointer a,.pointer b=>
  (bif bN (bW P e) 0 then False else True)∧
  (∀x y,a=some x→b=some y→fL h x∧fL h y)∧
  K (.bool (bif neg then !(a==b)else a==b)) (some fun h'=>∀x y,a=some x→b=some y→fL h' x∧fL h' y)
 |_,_,_=>False
def Vc(P:Program)(op:BinOp)(t:TypeId)(x y:Value)(K:RK)(h:af):Prop:=
 match x,y with
 | .int k a,.int k' b=>
  match op with
  | .shl=>ND .shl k a b K
  | .shr=>ND .shr k a b K
  |op=>bif Ka k' k then Vl op k a b K else False
 | .string a,.string b=>U7 op a b K
 |x,y=>match op with
  | .eql=>VZ P t false x y K h
  | .neq=>VZ P t true x y K h
  |_=>False
def sI(h:af):List (Option Addr×Option Addr)→Prop
 | []=>True
 |(a,b)::l=>(∀x y,a=some x→b=some y→fL h x∧fL h y)∧sI h l
def S6(P:Program)(t:TypeId)(x y:Value):Option (Bool×List (Option Addr×Option Addr)):=
 match P.underlying t,x,y with
 |some (.int _),.int k a,.int k' b=>bif Ka k' k then some (a==b,[])else none
 |some .bool,.bool a,.bool b=>some (a==b,[])
 |some .string,.string a,.string b=>some (a.toList==b.toList,[])
 |some (.pointer e),.pointer a,.pointer b=>bif bN (bW P e) 0 then none else some (a==b,[(a,b)])
 |_,_,_=>none
def Uu(P:Program)(rec:TypeId→List Value→List Value→Option (Bool×List (Option Addr×Option Addr)))(xs ys:List Value):List Field→Option (Bool×List (Option Addr×Option Addr))
 | []=>some (true,[])
 |f::fs=>
  if f.name= "_" then none else
  bif (P.underlying f.type).isSome&&(P.info? f.type).isSome then
   match(bif wK P f.type then rec f.type ((xs.drop f.offset).take (bW P f.type)) ((ys.drop f.offset).take (bW P f.type))
    else match xs[f.offset]?,ys[f.offset]? with|some x,some y=>S6 P f.type x y|_,_=>none),Uu P rec xs ys fs with
   |some (b,l),some (c,m)=>some (b&&c,l++m)
   |_,_=>none
  else none
def S7(P:Program):Nat→TypeId→List Value→List Value→Option (Bool×List (Option Addr×Option Addr))
 |0,_,_,_=>none
 |d+1,t,xs,ys=>match P.underlying t with
  |some (.struct fs)=>bif P.stoodInHeld t then none else Uu P (S7 P d) xs ys fs.toList
  |_=>none
def Wh(neg b:Bool)(K:RK)(h:af):List (Option Addr×Option Addr)→Prop
 | []=>K (.bool (bif neg then !b else b)) none
 |p::l=>sI h (p::l)∧K (.bool (bif neg then !b else b)) (some fun h'=>sI h' (p::l))
def Vd(P:Program)(op:BinOp)(t:TypeId)(xs ys:List Value)(K:RK)(h:af):Prop:=
 bif P.eqGuardType P.depth t then False else
 match op with
 | .eql=>(match S7 P 10 t xs ys with|some (b,l)=>Wh false b K h l|none=>False)
 | .neq=>(match S7 P 10 t xs ys with|some (b,l)=>Wh true b K h l|none=>False)
 |_=>False
def Wc(op:UnOp)(x:Value)(K:RK):Prop:=
 match op,x with
 | .neg,.int k n=>K (.int k (k.wrap (0-n))) none
 | .xor,.int k n=>K (.int k (k.wrap (aw k.bits (if k.signed then-1 else k.max)^^^aw k.bits n).toNat)) none
 | .not,.bool b=>K (.bool (!b)) none
 |_,_=>False
def ed(s:ByteArray):List Value:=s.data.toList.map fun b=>.int .u8 b.toNat
noncomputable def Row(h:af)(a:Addr)(vs:List Value):Prop:=∀i v,vs[i]? =some v→aL h (adr a i)=some v
noncomputable def SRow(h:af)(a:Option Addr)(n:Nat)(vs:List Value):Prop:=vs.length=n∧(vs= []∨∃b,a=some b∧Row h b vs)
def Oi(P:Program)(e:TypeId):Bool:=match P.underlying e with|some (.int .u8)=>true|_=>false
def Vj(P:Program)(s d:TypeId):Bool:=
 match P.underlying s,P.underlying d with
 |some .string,some (.slice e)=>Oi P e
 |_,_=>false
def ByP(e:TypeId)(s:ByteArray)(h:af)(K:Nat→af→Prop):Prop:=
 ∀c,s.size≤c→K c (h.push (.cells (ed s++kO (c-s.size) (Value.int .u8 0)).toArray e (c,c+1)))
noncomputable def SF(P:Program)(src dst:TypeId)(x:Value)(K:RK)(h:af):Prop:=
 match P.underlying src,P.underlying dst,x with
 |some (.int _),some (.int k),.int _ n=>K (.int k (k.wrap n)) none
 |some .string,some .string,.string s=>K (.string s) none
 |some (.slice e),some .string,.slice a n _=>bif Oi P e then∃s:ByteArray,SRow h a n (ed s)∧K (.string s) (some fun h'=>SRow h' a n (ed s))else False
 |_,_,_=>False
def Tl(v:Option Value)(d y:Nat)(K:Nat→Prop):Prop:=
 match v with
 |none=>K d
 |some (.int _ i)=>(0≤i∧i≤y)∧K i.toNat
 |_=>False
noncomputable def aM(a:Option Addr)(l m size:Nat):Option Addr:=if m=l then a else a.map (adr · (l*size))
def SL(P:Program)(t:TypeId)(K:Prop):Prop:=match P.info? t with|some _=>K|none=>False
noncomputable def NP(P:Program)(t:TypeId)(x:Value)(lo hi mx:Option Value)(K:RK):Prop:=
 match P.underlying t,x with
 |some .string,.string s=>match mx with
  |some _=>False
  |none=>Tl hi s.size s.size fun h=>Tl lo 0 h fun l=>K (.string (s.extract l h)) none
 |some (.slice e),.slice a len cap=>SL P e (
  match mx with
  |none=>Tl hi len cap fun h=>Tl lo 0 h fun l=>K (.slice (aM a l cap (bW P e)) (h-l) (cap-l)) none
  |some m=>match hi with
   |none=>False
   |some hi=>Tl (some m) 0 cap fun m=>Tl (some hi) 0 m fun h=>Tl lo 0 h fun l=>K (.slice (aM a l m (bW P e)) (h-l) (m-l)) none)
 |some (.array n e),.pointer (some a)=>SL P e (
  match mx with
  |none=>Tl hi n n fun h=>Tl lo 0 h fun l=>K (.slice (aM (some a) l n (bW P e)) (h-l) (n-l)) none
  |some _=>False)
 |_,_=>False
noncomputable def IB(r:cE):Option Operand→Option (Option Value)
 |none=>some none
 |some o=>match dx r o with
  |some v=>some (some v)
  |none=>none
noncomputable def zF(P:Program)(t:TypeId)(x i:Value)(K:RK):Prop:=
 match P.underlying t,x,i with
 |some (.array n e),.pointer (some a),.int _ i=>SL P e ((0≤i∧i<n)∧K (.pointer (some (adr a (i.toNat*bW P e)))) none)
 |some (.slice e),.slice b len _,.int _ i=>SL P e ((0≤i∧i<len)∧∃a,b=some a∧K (.pointer (some (adr a (i.toNat*bW P e)))) none)
 |_,_,_=>False
def NR(P:Program)(t:TypeId)(x i:Value)(K:RK):Prop:=
 match P.underlying t,x,i with
 |some .string,.string s,.int _ i=>∃b:UInt8,0≤i∧s[i.toNat]? =some b∧K (.int .u8 b.toNat) none
 |_,_,_=>False
noncomputable def NS(P:Program)(t:TypeId)(x:Value)(f:Nat)(K:RK):Prop:=
 match xE P t f,x with
 |some (u,off),.agg cs=>bif (P.underlying u).isSome&&(P.info? u).isSome then(bif wK P u then K (.agg ((cs.toList.drop off).take (bW P u)).toArray) none
  else(match cs.toList[off]? with|some v=>K v none|none=>False))else False
 |_,_=>False
def UR(c a b:Value)(K:RK):Prop:=
 match c with
 | .bool c=>(match a,b with
  | .bool x,.bool y=>K (.bool (bif c then x else y)) none
  |_,_=>(match c with|true=>K a none|false=>K b none))
 |_=>False
def iG:Value→Value→Bool
 | .int _ a,.int _ b=>a==b
 | .string a,.string b=>a==b
 | .bool a,.bool b=>a==b
 |_,_=>false
def Mu(k:Value):List MapEntry→Option Value
 | []=>none
 |e::es=>if iG k e.key then some e.val else Mu k es
def F6(c:CK)(es:List MapEntry):Prop:=∀e∈es,∃x:c.den,e.key=c.enc x
def OW(c:CK)(z:Value)(h:af)(m:Option Nat)(k v:Value)(ok:Bool):Prop:=
 match m with
 |none=>v=z∧ok=false
 |some r=>∃es clock,h[r]? =some (.map es clock)∧F6 c es.toList∧
  (match Mu k es.toList with|some u=>v=u∧ok=true|none=>v=z∧ok=false)
def L6(P:Program)(t:TypeId):Option (CK×TypeId):=
 match P.underlying t with
 |some (.map k e)=>match P.underlying k with
  |some (.int i)=>some (.int i,e)
  |some .string=>some (.str,e)
  |some .bool=>some (.bool,e)
  |_=>none
 |_=>none
def JM(P:Program)(t:TypeId)(x k:Value)(ok:Bool)(K:RK)(h:af):Prop:=
 match L6 P t,x with
 |some (c,e),.map m=>c.dec k fun _=>
  (match F5 P e,yR P e with
   |some ek,some z=>∃(y:ek.den) (b:Bool),OW c z h m k (ek.enc y) b∧
    K (bif ok then .tuple #[ek.enc y,.bool b]else ek.enc y) (some fun h'=>OW c z h' m k (ek.enc y) b)
   |_,_=>False)
 |_,_=>False
def TA(h:af)(m:Option Nat)(n:Nat):Prop:=
 match m with
 |none=>n=0
 |some r=>∃es clock,h[r]? =some (.map es clock)∧n=es.size
def Va(P:Program)(t:TypeId)(x:Value)(K:RK)(h:af):Prop:=
 match P.underlying t,x with
 |some .string,.string s=>K (.int .i64 s.size) none
 |some (.array n _),_=>K (.int .i64 n) none
 |some (.slice _),.slice _ n _=>K (.int .i64 n) none
 |some (.map _ _),.map m=>∃n:Nat,TA h m n∧K (.int .i64 n) (some fun h'=>TA h' m n)
 |_,_=>False
def Vb(P:Program)(t:TypeId)(x:Value)(K:RK):Prop:=
 match P.underlying t,x with
 |some (.slice _),.slice _ _ n=>K (.int .i64 n) none
 |_,_=>False
def JY(mx:Bool)(k:IntKind):Int→List Value→(Value→Prop)→Prop
 |a,[],f=>f (.int k a)
 |a,.int k' b::vs,f=>bif Ka k' k then JY mx k (bif mx then(if b>a then b else a)else(if b<a then b else a)) vs f else False
 |_,_,_=>False
def E8(mx:Bool)(vs:List Value)(f:Value→Prop):Prop:=
 match vs with
 | .int k a::vs=>JY mx k a vs f
 |_=>False
def OX(h:af)(i:Nat)(e:MapEntry):Prop:=
 ∃m since seen last stamp es,h[i]? =some (.mapIter (some m) since seen last)∧seen.back? =some stamp∧h[m]? =some (.map es last)∧es.find? (fun e=>e.born==stamp)=some e
def rm(P:Program)(t:TypeId):Bool:=match P.underlying t with|some (.interface _)=>false|some _=>true|none=>false
def PP(P:Program)(t:TypeId)(x:Value)(K:RK):Prop:=
 bif rm P t then(match F5 P t with
  |some k=>∃y:k.den,x=.iface t (k.enc y)∧K (k.enc y) none
  |none=>False)else False
def LM(cs:List Value)(off:Nat)(vs:List Value):List Value:=cs.take off++vs++cs.drop (off+vs.length)
def Eb(place:Nat→Option (Nat×Nat)):List Value→List (Nat×Value)→Option (List Value)
 |cs,[]=>some cs
 |cs,(i,v)::rest=>match place i with
  |none=>none
  |some (off,size)=>bif bN v.cells.toList.length size&&Nat.ble (off+v.cells.toList.length) cs.length then Eb place (LM cs off v.cells.toList) rest else none
noncomputable def rl(r:cE):List (Nat×Operand)→Option (List (Nat×Value))
 | []=>some []
 |(i,o)::ps=>match dx r o,rl r ps with
  |some v,some vs=>some ((i,v)::vs)
  |_,_=>none
def rM(P:Program)(t:TypeId):Option (List Value):=match yR P t with|some z=>some z.cells.toList|none=>none
def dD(n:Nat)(z:List Value):List Value:=(kO n z).flatten
def yz(P:Program)(t:TypeId):Bool:=match P.info? t with|some _=>true|none=>false
def Bk(P:Program):List Field→Bool
 | []=>true
 |f::fs=>bif yz P f.type then Bk P fs else false
def NZ(P:Program)(fs:List Field)(i:Nat):Option (Nat×Nat):=match fs[i]? with|some f=>some (f.offset,bW P f.type)|none=>none
def Kr(P:Program)(t:TypeId)(parts:List (Nat×Value)):Option (List Value):=
 match P.underlying t,rM P t with
 |some (.struct fs),some z=>bif Bk P fs.toList then Eb (NZ P fs.toList) z parts else none
 |some (.array _ e),some z=>bif yz P e then Eb (fun i=>some (i*bW P e,bW P e)) z parts else none
 |_,_=>none
noncomputable def CF(P:Program)(ek:Option (Kind×Kind))(o:Op)(r:cE)(K:RK)(h:af):Prop:=
 match o with
 | .entry it=>match dx r it,ek with
  |some (.pointer (some a)),some (kk,vk)=>a.off=0∧∃(e:MapEntry) (x:kk.den) (y:vk.den),OX h a.block e∧e.key=kk.enc x∧e.val=vk.enc y∧
    K (.tuple #[kk.enc x,vk.enc y]) (some fun h'=>OX h' a.block e)
  |_,_=>False
 | .move x| .assign x=>match dx r x with|some v=>K v none|none=>False
 | .load t a=>match dx r a with|some v=>LG P t v K h|none=>False
 | .nilCheck x=>match dx r x with|some (.pointer p)=>∃a,p=some a∧K (.pointer (some a)) none|_=>False
 | .binOp op t x y _=>match dx r x,dx r y with
  |some (.agg v),some (.agg u)=>Vd P op t v.toList u.toList K h
  |some v,some u=>(match op,Vk y with
   | .eql,true=>Ud P t false v u K
   | .neq,true=>Ud P t true v u K
   |op,_=>Vc P op t v u K h)
  |_,_=>False
 | .unOp op _ x=>match dx r x with|some v=>Wc op v K|none=>False
 | .convert s d x=>match dx r x with|some v=>SF P s d v K h|none=>False
 | .pick c a b=>match dx r c,dx r a,dx r b with|some c,some a,some b=>UR c a b K|_,_,_=>False
 | .extract x i=>match dx r x with
  |some (.tuple vs)=>(match vs.toList[i]? with|some v=>K v none|none=>False)
  |_=>False
 | .fieldAddr t x f=>match dx r x,xE P t f with
  |some (.pointer (some a)),some (u,off)=>bif bN (bW P u) 0 then False else K (.pointer (some (adr a off))) none
  |_,_=>False
 | .field t x f=>match dx r x with|some v=>NS P t v f K|none=>False
 | .indexAddr t x i=>match dx r x,dx r i with|some v,some u=>zF P t v u K|_,_=>False
 | .index t x i=>match dx r x,dx r i with|some v,some u=>NR P t v u K|_,_=>False
 | .slice t x lo hi mx=>match dx r x,IB r lo,IB r hi,IB r mx with
  |some v,some l,some h',some m=>NP P t v l h' m K
  |_,_,_,_=>False
 | .lookup t x k ok=>match dx r x,dx r k with|some v,some u=>JM P t v u ok K h|_,_=>False
 | .makeInterface t x=>match dx r x with|some v=>bif rm P t then K (.iface t v) none else False|none=>False
 | .typeAssert x _ t ok=>match dx r x with|some v=>bif ok then False else PP P t v K|none=>False
 | .build t ps=>match rl r ps.toList with
  |some vs=>(match Kr P t vs with|some cs=>K (.agg cs.toArray) none|none=>False)
  |none=>False
 | .makeFunc fn first cap=>match rO r first.toList,rO r cap.toList with
  |some vs,some us=>K (.func fn vs.toArray us.toArray) none
  |_,_=>False
 | .call c=>match c.callee,rO r c.args.toList,c.argTypes.toList with
  | .builtin .len,some [v],[t]=>Va P t v K h
  | .builtin .cap,some [v],[t]=>Vb P t v K
  | .builtin .min,some vs,_=>E8 false vs fun v=>K v none
  | .builtin .max,some vs,_=>E8 true vs fun v=>K v none
  |_,_,_=>False
 |_=>False
abbrev WK:=Value→af→Prop
def ag(h:af):Addr:=⟨h.size,0,none⟩
def hnew(h:af)(cs:List Value)(t:TypeId):af:=h.push (.cells cs.toArray t (0,0))
def ce:List Value→Bool
 | []=>true
 |v::vs=>(match v with| .agg _=>false| .tuple _=>false|_=>true)&&ce vs
noncomputable def aX(h:af)(a:Addr):Nat→List Value→af
 |_,[]=>h
 |i,v::vs=>aX (hset h (adr a i) v) a (i+1) vs
noncomputable def fY(h:af)(a:Option Addr)(i:Nat)(vs:List Value):af:=match a with|some a=>aX h a i vs|none=>h
noncomputable def dq(h:af)(a:Option Addr)(i:Nat)(vs:List Value):Prop:=vs= []∨∃b,a=some b∧∀j,j<vs.length→Wr h (adr b (i+j))
noncomputable def Ns(P:Program)(t:TypeId)(a v:Value)(K:WK)(h:af):Prop:=
 match a with
 | .pointer (some a)=>bif bN v.cells.toList.length (bW P t)&&ce v.cells.toList then SL P t
   (match v.cells.toList with
    | [v]=>Wr h a∧K undef (hset h a v)
    |vs=>dq h (some a) 0 vs∧K undef (aX h a 0 vs))
  else False
 |_=>False
noncomputable def Tt(P:Program)(e:TypeId)(base:Option Addr)(sl sc xl:Nat)(xs:List Value)(K:WK)(h:af):Prop:=
 (sl+xl≤sc→dq h base (sl*bW P e) xs∧ce xs=true∧K (.slice base (sl+xl) sc) (fY h base (sl*bW P e) xs))∧
 (sc<sl+xl→∃old z,SRow h base (sl*bW P e) old∧rM P e=some z∧0<rS P e∧Builtin.nextslicecap (sl+xl) sc*rS P e≤2^48∧
  ∀nc,sl+xl≤nc→K (.slice (some (ag h)) (sl+xl) nc) (hnew h (old++xs++dD (nc-(sl+xl)) z) e))
noncomputable def E2(P:Program)(t:TypeId)(s x:Value)(K:WK)(h:af):Prop:=
 match wX P t,s,x with
 |some e,.slice b sl sc,.slice a xl _=>SL P e (∃xs,SRow h a (xl*bW P e) xs∧Tt P e b sl sc xl xs K h)
 |some e,.slice b sl sc,.string x=>bif bN (bW P e) 1 then Tt P e b sl sc x.size (ed x) K h else False
 |_,_,_=>False
noncomputable def Ft(P:Program)(t:TypeId)(s x:Value)(K:WK)(h:af):Prop:=
 match wX P t,s,x with
 |some e,.slice b sl sc,.int _ l=>(match rM P e with
  |some z=>bif bN z.length (bW P e)then(0≤l∧l*rS P e≤2^48∧l≤9223372036854775807∧((sl+l.toNat:Nat):Int)≤9223372036854775807)∧Tt P e b sl sc l.toNat (dD l.toNat z) K h else False
  |none=>False)
 |_,_,_=>False
noncomputable def Nt(P:Program)(t:TypeId)(x:Value)(K:WK)(h:af):Prop:=
 match wX P t,x with
 |some e,.slice a n _=>(match rM P e with
  |some z=>bif ce z then dq h a 0 (dD n z)∧K (.tuple #[]) (fY h a 0 (dD n z))else False
  |none=>False)
 |_,_=>False
noncomputable def RQ(P:Program)(t:TypeId)(d s:Value)(K:WK)(h:af):Prop:=
 match wX P t,d,s with
 |some e,.slice b dl _,.slice a sl _=>SL P e (∃xs,SRow h a (dM sl dl*bW P e) xs∧dq h b 0 xs∧ce xs=true∧K (.int .i64 (dM sl dl)) (fY h b 0 xs))
 |some e,.slice b dl _,.string x=>bif bN (bW P e) 1 then dq h b 0 ((ed x).take dl)∧K (.int .i64 (dM x.size dl)) (fY h b 0 ((ed x).take dl))else False
 |_,_,_=>False
def NW(k v:Value)(clock:Nat):List MapEntry→List MapEntry×Nat
 | []=>([{key:=k,val:=v,born:=clock}],clock+1)
 |e::es=>if iG k e.key then({e with key:=k,val:=v}::es,clock)else let r:=NW k v clock es;(e::r.1,r.2)
def Mx(k:Value):List MapEntry→List MapEntry
 | []=> []
 |e::es=>if iG k e.key then es else e::Mx k es
def Ql(c:CK)(h:af)(r:Nat):Prop:=∃es clock,h[r]? =some (.map es clock)∧F6 c es.toList
def Ug(h:af)(r:Nat)(k v:Value):af:=
 match h[r]? with
 |some (.map es clock)=>h.setIfInBounds r (.map (NW k v clock es.toList).1.toArray (NW k v clock es.toList).2)
 |_=>h
def P0(h:af)(r:Nat)(k:Value):af:=
 match h[r]? with
 |some (.map es clock)=>h.setIfInBounds r (.map (Mx k es.toList).toArray clock)
 |_=>h
def E1(P:Program)(t:TypeId)(m k v:Value)(K:WK)(h:af):Prop:=
 match L6 P t,m with
 |some (c,_),.map m=>c.dec k fun _=>∃r,m=some r∧Ql c h r∧K undef (Ug h r k v)
 |_,_=>False
def Fq(P:Program)(t:TypeId)(m k:Value)(K:WK)(h:af):Prop:=
 match L6 P t,m with
 |some (c,_),.map m=>c.dec k fun _=>(m=none∧K (.tuple #[]) h)∨(∃r,m=some r∧Ql c h r∧K (.tuple #[]) (P0 h r k))
 |_,_=>False
def Sz(P:Program):List TypeId→Option (List Kind)
 | []=>some []
 |t::ts=>match F5 P t,Sz P ts with
  |some k,some ks=>some (k::ks)
  |_,_=>none
def SB(P:Program)(t:TypeId):Option (List Kind):=
 match P.underlying t with
 |some (.tuple ts)=>Sz P ts.toList
 |_=>Sz P [t]
noncomputable def UL(P:Program)(f:Operand)(r:cE)(args:List Value)(t:TypeId)(K:WK)(h:af):Prop:=
 match SB P t with
 |none=>False
 |some ks=>match f with
  | .func f=>HC P f args ks (fun x h'=>K (FR ks (oC ks x)) h') h
  |f=>match dx r f with
   |some fv=>HV P fv args ks (fun x h'=>K (FR ks (oC ks x)) h') h
   |none=>False
def RP(it:Value)(K:WK)(h:af):Prop:=
 match it with
 | .pointer (some a)=>a.off=0∧
  ∃m since seen last,h[a.block]? =some (.mapIter m since seen last)∧
   ((m=none∧K (.tuple #[.bool false]) h)∨
    (∃r es clock,m=some r∧h[r]? =some (.map es clock)∧(seen.isEmpty=true∨es.isEmpty=true∨es.all (fun e=>decide (e.born≥last))=false)∧
     ((∀e∈es.toList,e.born<since→seen.contains e.born=true)→K (.tuple #[.bool false]) h)∧
     (∀e∈es.toList,seen.contains e.born=false→K (.tuple #[.bool true,e.key,e.val]) (h.setIfInBounds a.block (.mapIter (some r) since (seen.push e.born) clock)))))
 |_=>False
noncomputable def Hg(P:Program)(o:Oper)(r:cE)(K:WK)(h:af):Prop:=
 match o.op with
 | .alloc t=>(match rM P t with|some z=>K (.pointer (some (ag h))) (hnew h z t)|none=>False)
 | .box t x=>(match dx r x with|some v=>K (.pointer (some (ag h))) (hnew h v.cells.toList t)|none=>False)
 | .build t ps=>(match rl r ps.toList with
  |some vs=>(match Kr P t vs with|some cs=>K (.agg cs.toArray) h|none=>False)
  |none=>False)
 | .buildSlice t n ps=>(match wX P t,rl r ps.toList with
  |some e,some vs=>(match rM P e with
   |some z=>bif Nat.ble (n*bW P e) 16777216&&bN z.length (bW P e)then
     (match Eb (fun i=>some (i*bW P e,bW P e)) (dD n z) vs with|some cs=>K (.slice (some (ag h)) n n) (hnew h cs e)|none=>False)
    else False
   |none=>False)
  |_,_=>False)
 | .store t a x=>(match dx r a,dx r x with|some a,some v=>Ns P t a v K h|_,_=>False)
 | .mapUpdate t m k x=>(match dx r m,dx r k,dx r x with|some m,some k,some v=>E1 P t m k v K h|_,_,_=>False)
 | .insert t m k x=>(match dx r m,dx r k,dx r x with|some m,some k,some v=>E1 P t m k v K h|_,_,_=>False)
 | .makeMap t n=>(match n with
  |none=>K (.map (some h.size)) (h.push (.map #[] 0))
  |some n=>(match dx r n,P.underlying t with|some (.int _ _),some (.map _ _)=>K (.map (some h.size)) (h.push (.map #[] 0))|_,_=>False))
 | .makeSlice t l c=>(match wX P t,dx r l,dx r c with
  |some e,some (.int _ l),some (.int _ c)=>(match rM P e with
   |some z=>bif bN z.length (bW P e)then(0≤l∧l≤c∧c≤9223372036854775807∧rS P e*c≤2^48)∧K (.slice (some (ag h)) l.toNat c.toNat) (hnew h (dD c.toNat z) e)else False
   |none=>False)
  |_,_,_=>False)
 | .convert s d x=>(match P.underlying s,P.underlying d,dx r x with
  |some .string,some (.slice e),some (.string v)=>bif Oi P e then ByP e v h (fun c h'=>K (.slice (some (ag h)) v.size c) h')else False
  |_,_,_=>False)
 | .range t x=>(match P.underlying t,dx r x with
  |some (.map _ _),some (.map m)=>∃clock,(m=none∧clock=0∨∃r es,m=some r∧h[r]? =some (.map es clock))∧K (.pointer (some (ag h))) (h.push (.mapIter m clock #[] clock))
  |_,_=>False)
 | .next it false=>(match dx r it with|some it=>RP it K h|none=>False)
 | .call c=>(match c.callee,rO r c.args.toList with
  | .builtin .append,some [s,x]=>(match c.argTypes.toList with| [t,u]=>(match P.underlying u with|some (.slice _)=>E2 P t s x K h|some .string=>E2 P t s x K h|some (.int _)=>Ft P t s x K h|_=>False)|_=>False)
  | .builtin .clear,some [x]=>(match c.argTypes.toList with| [t]=>Nt P t x K h|_=>False)
  | .builtin .copy,some [d,s]=>(match c.argTypes.toList with| [t,_]=>RQ P t d s K h|_=>False)
  | .builtin .delete,some [m,k]=>(match c.argTypes.toList with| [t,_]=>Fq P t m k K h|_=>False)
  | .value f,some args=>UL P f r args o.type K h
  |_,_=>False)
 |_=>False
def wY(P:Program):Op→Bool
 | .convert s d _=> !Vj P s d
 | .alloc _| .box .. | .buildSlice .. | .store .. | .mapUpdate .. | .insert .. | .makeMap .. | .makeSlice .. | .range .. | .next .. =>false
 | .call c=>match c.callee with
  | .builtin .len| .builtin .cap| .builtin .min| .builtin .max=>true
  |_=>false
 |_=>true
def A8(N:Nat)(o:Oper)(v:Value)(r:cE)(K:cE→Prop):Prop:=
 match o.dst with
 |none=>K r
 |some d=>bif Nat.blt d N then K ((d,v)::r)else False
noncomputable def Vx(P:Program)(N:Nat)(ek:Option (Kind×Kind))(o:Oper)(r:cE)(K:cE→af→Prop)(h:af):Prop:=
 bif wY P o.op then CF P ek o.op r (fun v _=>A8 N o v r fun r'=>K r' h) h
 else Hg P o r (fun v h'=>A8 N o v r fun r'=>K r' h') h
inductive DV where
 |f|t|u|x
abbrev vM:=List (Nat×DV)
noncomputable def r9(d:vM)(t:Nat):DV:=
 fR (motive:=fun _=>DV) .x (fun kv _ ih=>bif bN kv.1 t then kv.2 else ih) d
noncomputable def Ba(d:vM):Operand→DV
 | .tmp t=>r9 d t
 | .const (.bool true)=>.t
 | .const (.bool false)=>.f
 |_=>.x
noncomputable def K9(d:vM):Op→DV
 | .move x=>Ba d x
 | .assign x=>Ba d x
 | .pick c a b=>match Ba d c with
  | .t=>Ba d a
  | .f=>Ba d b
  |_=>.x
 | .unOp .not _ x=>match Ba d x with
  | .t=>.f
  | .f=>.t
  |_=>.x
 |_=>.x
def sZ(d:vM)(o:Oper)(v:DV):vM:=match o.dst with|some t=>(t,v)::d|none=>d
noncomputable def jA(ops:List Oper)(d:vM)(o:Oper):Option Bool:=
 match o.guard with
 |none=>some true
 |some (j,want)=>match ops[j]? with
  |none=>none
  |some oj=>match oj.dst with
   |none=>none
   |some t=>match r9 d t with
    | .t=>some want
    | .f=>some (!want)
    | .u=>some false
    | .x=>none
def Gc(ops:List Oper)(o:Oper):Option Nat:=
 match o.guard with
 |none=>none
 |some (j,_)=>match ops[j]? with
  |none=>none
  |some oj=>oj.dst
noncomputable def Il(P:Program)(N:Nat)(ek:Option (Kind×Kind))(ops:List Oper)(o:Oper)(d:vM)(r:cE)(h:af)(K:vM→cE→af→Prop):Prop:=
 match jA ops d o with
 |some true=>Vx P N ek o r (K (sZ d o (K9 d o.op))) h
 |some false=>A8 N o undef r fun r'=>K (sZ d o .u) r' h
 |none=>False
noncomputable def FK(P:Program)(N:Nat)(ek:Option (Kind×Kind))(ops:List Oper)(l:List Oper):vM→(cE→af→Prop)→cE→af→Prop:=
 fR (motive:=fun _=>vM→(cE→af→Prop)→cE→af→Prop) (fun _ K r h=>K r h)
  (fun o _ ih d K r h=>
  match jA ops d o with
  |some true=>Vx P N ek o r (fun r' h'=>ih (sZ d o (K9 d o.op)) K r' h') h
  |some false=>A8 N o undef r fun r'=>ih (sZ d o .u) K r' h
  |none=>match Gc ops o with
   |none=>False
   |some t=>match kX r t with
    |some (.bool b)=>CondP b
     (Il P N ek ops o ((t,.t)::d) ((t,.bool true)::r) h fun d' r' h'=>ih d' K r' h')
     (Il P N ek ops o ((t,.f)::d) ((t,.bool false)::r) h fun d' r' h'=>ih d' K r' h')
    |_=>False) l
inductive DA where
 |done
 |take (i:Nat) (rest:DA)
 |all (l:DA)
 |pick (i:Nat) (rest more:DA)
 |last (i:Nat) (rest:DA)
 |lastT (i:Nat) (rest:DA)
 |split (t:Nat) (yes no:DA)
abbrev rT:=List (Nat×(af→Prop))
def tb(m i:Nat):Bool:=bN (jZ (Nat.shiftRight m i) 1) 1
def im(i:Nat):Nat:=Nat.pow 2 i
inductive DM where
 |mk (am fr lk ds:Nat)
def DM.am:DM→Nat| .mk a _ _ _=>a
def DM.fr:DM→Nat| .mk _ f _ _=>f
def DM.lk:DM→Nat| .mk _ _ l _=>l
def DM.ds:DM→Nat| .mk _ _ _ d=>d
def jI(o:Oper)(i:Nat):Bool:=o.after.toList.any fun e=>bN e.on i&&Region.binds .any e
noncomputable def nG(l:List Edge):Nat:=
 fR (motive:=fun _=>Nat) 0 (fun e _ ih=>bif Region.binds .any e then cQ (im e.on) ih else ih) l
noncomputable def mL(l:List Operand):Nat:=
 fR (motive:=fun _=>Nat) 0 (fun o _ ih=>match o with| .tmp t=>cQ (im t) ih|_=>ih) l
def oW(o:Oper):Nat:=match o.dst with|some d=>im d|none=>0
noncomputable def pF(ops:List Oper)(o:Oper):Nat:=
 cQ (mL o.op.operands.toList) (match o.guard with
  |some (g,_)=>(match ops[g]? with|some og=>oW og|none=>0)
  |none=>0)
noncomputable def xw(ops:List Oper)(l:List Oper):List DM→Bool:=
 fR (motive:=fun _=>List DM→Bool) (fun ms=>match ms with| []=>true|_=>false)
  (fun o _ ih ms=>match ms with
   |m::ms=>bN (nG o.after.toList) m.am&&bN (pF ops o) m.lk&&bN (oW o) m.ds&&ih ms
   | []=>false) l
def Dd(x y:DM):Bool:=bN (jZ x.ds (cQ y.lk y.ds)) 0&&bN (jZ y.ds x.lk) 0
noncomputable def IZ(i:Nat)(m:DM)(l:List DM):Nat→Bool:=
 fR (motive:=fun _=>Nat→Bool) (fun _=>true)
  (fun n _ ih j=>(!(tb m.fr j)||bN j i||tb n.am i||Dd m n)&&ih (gc j)) l
noncomputable def A6(all:List DM)(l:List DM):Nat→Bool:=
 fR (motive:=fun _=>Nat→Bool) (fun _=>true) (fun m _ ih i=>IZ i m all 0&&ih (gc i)) l
def LX:List Oper→Bool
 | []=>true
 |o::os=>(match o.op with| .select .. =>false| .defer _=>false|_=>true)&&LX os
noncomputable def Fa(ops:List Oper)(ms:List DM):Bool:=xw ops ops ms&&A6 ms ms 0&&LX ops
def tT(o:Oper):rT→rT
 | []=> []
 |(k,S)::l=>bif jI o k then tT o l else(k,S)::tT o l
def vi:rT→af→Prop→Prop
 | [],_,R=>R
 |(_,S)::l,h,R=>S h∧vi l h R
def K8(m:DM)(ls:Nat):Bool:=bN (jZ m.am ls) m.am
noncomputable def mS(ls:Nat)(l:List DM):Nat→List Nat:=
 fR (motive:=fun _=>Nat→List Nat) (fun _=> []) (fun m _ ih j=>bif !(tb ls j)&&K8 m ls then j::ih (gc j)else ih (gc j)) l
def FB(m:DM)(i ls n:Nat):Bool:= !(tb ls i)&&K8 m ls&&bN (jZ (cQ ls m.fr) (yk (im n))) (yk (im n))
def vY:List Nat→List Nat→Bool
 | [],[]=>true
 |a::as,b::bs=>bN a b&&vY as bs
 |_,_=>false
def CR:DA→List Nat
 | .pick i _ l=>i::CR l
 | .last i _=> [i]
 | .lastT i _=> [i]
 |_=> []
noncomputable def Qu(P:Program)(N:Nat)(ops:List Oper)(i:Nat)(L:rT)(d:vM)(r:cE)(h:af)(K:rT→vM→cE→af→Prop):Prop:=
 match ops[i]? with
 |none=>False
 |some o=>match jA ops d o with
  |some true=>bif wY P o.op then False else Hg P o r (fun v h'=>A8 N o v r fun r'=>vi (tT o L) h' (K (tT o L) (sZ d o .x) r' h')) h
  |_=>False
noncomputable def RE(m:Nat)(l:List DM):Nat→Nat:=
 fR (motive:=fun _=>Nat→Nat) (fun _=>m) (fun n _ ih j=>bif tb m j then cQ n.am (ih (gc j))else ih (gc j)) l
noncomputable def Bc(ms:List DM)(m:Nat):Nat:=RE (RE (RE (RE m ms 0) ms 0) ms 0) ms 0
def Ky(ms:List DM)(i:Nat):Nat:=match ms[i]? with|some m=>m.am|none=>0
def AL(m:Nat):rT→rT
 | []=> []
 |(k,S)::l=>bif tb m k then AL m l else(k,S)::AL m l
noncomputable def PL(P:Program)(N:Nat)(ops:List Oper)(ms:List DM)(i:Nat)(L:rT)(d:vM)(r:cE)(h:af)(K:rT→vM→cE→af→Prop):Prop:=
 match ops[i]? with
 |none=>False
 |some o=>match jA ops d o with
  |some true=>bif wY P o.op then False else Hg P o r (fun v h'=>A8 N o v r fun r'=>vi (AL (Bc ms (Ky ms i)) L) h' (K (AL (Bc ms (Ky ms i)) L) (sZ d o .x) r' h')) h
  |_=>False
noncomputable def ou(P:Program)(N:Nat)(ops:List Oper)(ms:List DM)(da:DA):Bool→Nat→rT→vM→(cE→af→Prop)→cE→af→Prop:=
 DA.rec (motive:=fun _=>Bool→Nat→rT→vM→(cE→af→Prop)→cE→af→Prop)
  (fun m ls _ _ K r h=>bif !m&&vY (mS ls ms 0) []then K r h else False)
  (fun i _ ih m ls L d K r h=>
   match ops[i]?,ms[i]? with
   |some o,some mi=>bif !m&&FB mi i ls ops.length then
     (match jA ops d o with
      |none=>False
      |some false=>A8 N o undef r fun r'=>ih false (cQ ls (im i)) L (sZ d o .u) K r' h
      |some true=>bif wY P o.op then
       CF P none o.op r (fun v S=>A8 N o v r fun r'=>match S with
        |none=>ih false (cQ ls (im i)) L (sZ d o (K9 d o.op)) K r' h
        |some S=>ih false (cQ ls (im i)) ((i,S)::L) (sZ d o (K9 d o.op)) K r' h) h
       else False)
    else False
   |_,_=>False)
  (fun l ih m ls L d K r h=>bif !m&&vY (mS ls ms 0) (CR l)then ih true ls L d K r h else False)
  (fun i _ _ ih1 ih2 m ls L d K r h=>bif m then Qu P N ops i L d r h (fun L' d' r' h'=>ih1 false (cQ ls (im i)) L' d' K r' h')∧ih2 true ls L d K r h else False)
  (fun i _ ih m ls L d K r h=>bif m then Qu P N ops i L d r h (fun L' d' r' h'=>ih false (cQ ls (im i)) L' d' K r' h')else False)
  (fun i _ ih m ls L d K r h=>bif m then PL P N ops ms i L d r h (fun L' d' r' h'=>ih false (cQ ls (im i)) L' d' K r' h')else False)
  (fun t _ _ ih1 ih2 m ls L d K r h=>
   bif m then False else match kX r t with
   |some (.bool b)=>CondP b (ih1 false ls L ((t,.t)::d) K ((t,.bool true)::r) h) (ih2 false ls L ((t,.f)::d) K ((t,.bool false)::r) h)
   |_=>False)
  da
noncomputable def Wf(_o:Oper)(i:Nat)(ds lk:Nat)(ops:List Oper)(l:List Oper):Nat→Nat:=
 fR (motive:=fun _=>Nat→Nat) (fun _=>0) (fun p _ ih j=>bif (bN j i||jI p i||(bN (jZ ds (cQ (pF ops p) (oW p))) 0&&bN (jZ (oW p) lk) 0))then cQ (im j) (ih (gc j))else ih (gc j)) l
noncomputable def We(ops:List Oper)(l:List Oper):Nat→List DM:=
 fR (motive:=fun _=>Nat→List DM) (fun _=> []) (fun o _ ih i=>.mk (nG o.after.toList) (Wf o i (oW o) (pF ops o) ops ops 0) (pF ops o) (oW o)::ih (gc i)) l
def Vz(P:Program)(w:Option Bool)(o:Oper):Bool:=match w with|some false=>true|some true=>wY P o.op|none=>false
noncomputable def Vm(P:Program)(ops:List Oper)(d:vM)(ls n:Nat)(l:List Oper):List DM→Nat→Option (Nat×Oper):=
 fR (motive:=fun _=>List DM→Nat→Option (Nat×Oper)) (fun _ _=>none)
  (fun o _ ih ms j=>match ms with
   | []=>none
   |m::ms=>bif FB m j ls n&&Vz P (jA ops d o) o then some (j,o)else ih ms (gc j)) l
noncomputable def Vn(ops:List Oper)(d:vM)(ls:Nat)(l:List Oper):List DM→Nat→Option Nat:=
 fR (motive:=fun _=>List DM→Nat→Option Nat) (fun _ _=>none)
  (fun o _ ih ms j=>match ms with
   | []=>none
   |m::ms=>match bif !(tb ls j)&&K8 m ls then(match jA ops d o with|none=>Gc ops o|some _=>none)else none with
    |some t=>some t
    |none=>ih ms (gc j)) l
noncomputable def VH(ops:List Oper)(k:Nat→vM→DA)(ls:Nat)(d:vM)(l:List Nat):DA:=
 fR (motive:=fun _=>DA) .done (fun i rest ih=>match ops[i]? with
  |none=>.done
  |some o=>match rest with
   | []=>.last i (k (cQ ls (im i)) (sZ d o .x))
   |_=>.pick i (k (cQ ls (im i)) (sZ d o .x)) ih) l
noncomputable def Vt(P:Program)(ops:List Oper)(ms:List DM)(fuel:Nat):Nat→vM→DA:=
 Nat.rec (motive:=fun _=>Nat→vM→DA) (fun _ _=>.done) (fun _ ih ls d=>
  match Vm P ops d ls ops.length ops ms 0 with
  |some (i,o)=>.take i (ih (cQ ls (im i)) (match jA ops d o with|some false=>sZ d o .u|_=>sZ d o (K9 d o.op)))
  |none=>match Vn ops d ls ops ms 0 with
   |some t=>.split t (ih ls ((t,.t)::d)) (ih ls ((t,.f)::d))
   |none=>match mS ls ms 0 with
    | []=>.done
    |l=>.all (VH ops ih ls d l)) fuel
noncomputable def PY(ops:List Oper):List DM:=We ops ops 0
inductive Ex where
 |exit (id:Nat)
 |ret
abbrev St:=List (Nat×Kind)
def zy:St→List Kind
 | []=> []
 |(_,k)::l=>k::zy l
noncomputable def FF(r:cE):St→Option (List Value)
 | []=>some []
 |(i,_)::l=>match kX r i,FF r l with
  |some v,some vs=>some (v::vs)
  |_,_=>none
noncomputable def DT(st:St)(r:cE)(f:cD (zy st)→Prop):Prop:=
 match FF r st with
 |some vs=>EH (zy st) vs f
 |none=>False
def oR:St→List Value→cE→cE
 |(i,_)::l,v::vs,r=>(i,v)::oR l vs r
 |_,_,r=>r
noncomputable def P3(r:cE)(l:List Nat):Option cE:=
 fR (motive:=fun _=>Option cE) (some []) (fun t _ ih=>match kX r t,ih with
  |some v,some l=>some ((t,v)::l)
  |_,_=>none) l
noncomputable def mK(t:Nat)(l:List Oper):Bool:=
 fR (motive:=fun _=>Bool) false (fun o _ ih=>match o.dst with|some d=>bif bN d t then true else ih|none=>ih) l
noncomputable def gT(t:Nat)(c:Code):Bool:=
 Code.rec (motive:=fun _=>Bool) false (fun _ ops _=>mK t ops.toList) (fun _ _ a b=>bif a then true else b) (fun _ _ _ a b=>bif a then true else b)
  (fun _ _ b=>b) (fun _ b=>b) (fun _ _ _ _ _ _=>true) (fun _=>false) (fun _ b=>b) (fun _=>false) (fun _=>false) false (fun _=>false) c
inductive Ann where
 |nil
 |node (a b:Ann)
 |join (st:St) (a b:Ann)
 |loop (st:St) (b:Ann)
 |draw (d:DA)
 |kinds (k v:Kind)
 |reg (keep:List Nat) (inner:Ann)
 |rf (ks:List Kind) (a b:Ann)
def Ann.l:Ann→Ann
 | .node a _=>a
 | .rf _ a _=>a
 |_=>.nil
def Ann.r:Ann→Ann
 | .node _ b=>b
 | .rf _ _ b=>b
 |_=>.nil
noncomputable def RO(l:List Oper):Nat:=fR (motive:=fun _=>Nat) 0 (fun o _ ih=>cQ (oW o) ih) l
def VI:Option Nat→Option Nat→Option Nat
 |some a,some b=>some (cQ a b)
 |_,_=>none
noncomputable def yS(c:Code):Option Nat:=
 Code.rec (motive:=fun _=>Option Nat) (some 0) (fun _ ops _=>some (RO ops.toList)) (fun _ _ a b=>VI a b) (fun _ _ _ a b=>VI a b)
  (fun _ _ b=>b) (fun _ b=>b) (fun _ _ _ _ _ _=>none) (fun _=>some 0) (fun _ b=>b) (fun _=>some 0) (fun _=>some 0) (some 0) (fun _=>some 0) c
noncomputable def xz(m:Nat)(r:cE):cE:=fR (motive:=fun _=>cE) [] (fun kv _ ih=>bif tb m kv.1 then ih else kv::ih) r
noncomputable def Cy(P:Program)(N:Nat)(ops:List Oper)(dr:Bool)(an:Ann)(Kn:cE→af→Prop)(r:cE)(h:af):Prop:=
 match dr with
 |false=>(match an with
  | .kinds kk vk=>FK P N (some (kk,vk)) ops ops [] Kn r h
  |_=>FK P N none ops ops [] Kn r h)
 |true=>bif Fa ops (PY ops)then ou P N ops (PY ops) (match an with| .draw da=>da|_=>Vt P ops (PY ops) (Nat.add (Nat.add ops.length ops.length) 2) 0 []) false 0 [] [] Kn r h else False
noncomputable def mr(P:Program)(N:Nat)(c:Code):Ann→(cE→af→Prop)→(Ex→cE→af→Prop)→cE→af→Prop:=
 Code.rec (motive:=fun _=>Ann→(cE→af→Prop)→(Ex→cE→af→Prop)→cE→af→Prop)
  (fun _ Kn _ r h=>Kn r h)
  (fun _ ops dr an Kn _ r h=>match an with
   | .reg keep an=>Cy P N ops.toList dr an (fun r' h'=>match P3 r' keep with|some r0=>Kn r0 h'|none=>False) r h
   |an=>Cy P N ops.toList dr an Kn r h)
  (fun a _ iha ihb an Kn Kx r h=>match an with
   | .join st aa ab=>(match yS a with
     |none=>False
     |some m=>Join (T:=cD (zy st)) (fun t h'=>ihb ab Kn Kx (oR st (oC (zy st) t) (xz m r)) h')
      fun J=>iha aa (fun r' h'=>DT st r' fun t=>J t h') Kx r h)
   |an=>iha an.l (fun r' h'=>ihb an.r Kn Kx r' h') Kx r h)
  (fun c _ _ iha ihb an Kn Kx r h=>match dx r c with
   |some (.bool t)=>CondP t (iha an.l Kn Kx r h) (ihb an.r Kn Kx r h)
   |_=>False)
  (fun id _ ih an Kn Kx r h=>ih an Kn (fun e r' h'=>match e with
    | .exit i=>bif bN i id then Kn r' h' else Kx (.exit i) r' h'
    | .ret=>Kx .ret r' h') r h)
  (fun b ih an _ Kx r h=>match an with
   | .loop st ab=>(match yS b with
     |none=>False
     |some m=>DT st r fun t0=>LoopP (T:=cD (zy st)) (fun self t h'=>ih ab (fun r' h''=>DT st r' fun t'=>self t' h'') Kx (oR st (oC (zy st) t) (xz m r)) h') t0 h)
   |_=>False)
  (fun _ _ _ _ _ _ _ _ _ _ _=>False)
  (fun id _ _ Kx r h=>Kx (.exit id) r h)
  (fun _ _ _ _ _ _ _=>False)
  (fun _ _ Kn _ r h=>Kn r h)
  (fun _ _ _ _ _ _=>False)
  (fun _ _ Kx r h=>Kx .ret r h)
  (fun _ _ _ _ _ _=>False)
  c
noncomputable def oS(P:Program)(r:cE)(h:af):List ResultVar→(List Value→Prop)→Prop
 | [],K=>K []
 | .tmp t::l,K=>(match kX r t with|some v=>oS P r h l fun vs=>K (v::vs)|none=>False)
 | .cell a t::l,K=>(match kX r a with
  |some v=>LG P t v (fun x _=>oS P r h l fun vs=>K (x::vs)) h
  |none=>False)
def rg:Nat→List Value→cE
 |_,[]=> []
 |i,v::vs=>(i,v)::rg (i+1) vs
noncomputable def UO(P:Program)(fn:Func)(c:Code)(an:Ann)(args:List Value)(ks:List Kind)(K:cD ks→af→Prop)(h:af):Prop:=
 mr P fn.ntmps c an
  (fun r h'=>oS P r h' fn.results.toList fun vs=>EH ks vs fun t=>K t h')
  (fun e r h'=>match e with
   | .ret=>oS P r h' fn.results.toList fun vs=>EH ks vs fun t=>K t h'
   | .exit _=>False)
  (rg 0 args) h
noncomputable def sP(c:Code):Bool:=
 Code.rec (motive:=fun _=>Bool) false (fun _ _ _=>false) (fun _ _ a b=>bif a then true else b) (fun _ _ _ a b=>bif a then true else b)
  (fun _ _ b=>b) (fun _ b=>b) (fun _ _ _ _ _ _=>true) (fun _=>false) (fun _ b=>b) (fun _=>false) (fun _=>false) false (fun _=>false) c
def Kh:Option Ex→Option Code
 |none=>none
 |some (.exit i)=>some (.exit i)
 |some .ret=>some .ret
def Wg(N:af→Prop)(X:Nat→af→Prop)(R:af→Prop):Option Ex→af→Prop
 |none=>N
 |some (.exit i)=>X i
 |some .ret=>R
structure RangeP(P:Program)(fv:Value)(ks:List Kind)(h:af)(RT:Obj→Obj→cD ks→(Option Ex→af→Prop)→af→Prop)(N:af→Prop)(X:Nat→af→Prop)(R:af→Prop):Prop where
 run:∀lo:LoopState→Option Ex→Obj,(∀s j,∃r,lo s j=.loop r)→
  (∀x h' K,h'[h.size+1]? =some (lo .ready none)→
   RT (lo .ready none) (lo .busy none) x (fun j h2=>h2[h.size+1]? =some (lo .busy none)∧K j.isNone (h2.setIfInBounds (h.size+1) (lo (if j.isNone then .ready else .done) j))) h'→
   HV P (.func (.yield (h.size+1)) #[] #[]) (oC ks x) [.c .bool] K h')→
  ∃f first cap,fv=.func (.func f) first cap∧HE P f (first.toList++ [.func (.yield (h.size+1)) #[] #[]]++cap.toList) []
   (fun _ h2=>∃s j,s≠ .busy∧h2[h.size+1]? =some (lo s j)∧Wg N X R j (h2.setIfInBounds (h.size+1) (lo .exhausted j))) ((h.push (.deferred (some []))).push (lo .ready none))
def TL:List Nat→List Value→cE→cE
 |i::l,v::vs,r=>TL l vs ((i,v)::r)
 |_,_,r=>r
noncomputable def NF(P:Program)(N:Nat)(ps:List Nat)(ks:List Kind)(assign body:Code)(an:Ann)(r:cE)(l:Nat)(K8 bz:Obj)(x:cD ks)(k:Option Ex→af→Prop)(h:af):Prop:=
 mr P N assign an.l (fun r1 h1=>h1[l]? =some K8∧mr P N body an.r (fun _ h2=>k none h2) (fun e _ h2=>k (some e) h2) r1 (h1.setIfInBounds l bz)) (fun _ _ _=>False) (TL ps (oC ks x) r) h
def zI(N:Nat):List Nat→Bool
 | []=>true
 |n::l=>Nat.blt n N&&zI N l
noncomputable def zD(P:Program)(N:Nat)(c:Code):Ann→(List Nat→cE→af→Prop)→(Ex→List Nat→cE→af→Prop)→List Nat→cE→af→Prop:=
 Code.rec (motive:=fun _=>Ann→(List Nat→cE→af→Prop)→(Ex→List Nat→cE→af→Prop)→List Nat→cE→af→Prop)
  (fun an Kn Kx ms r h=>mr P N .skip an (Kn ms) (fun e=>Kx e ms) r h)
  (fun id ops dr an Kn Kx ms r h=>mr P N (.region id ops dr) an (Kn ms) (fun e=>Kx e ms) r h)
  (fun a b iha ihb an Kn Kx ms r h=>bif (bif sP a then true else sP b)then iha an.l (fun ms r' h'=>ihb an.r Kn Kx ms r' h') Kx ms r h
   else mr P N (.seq a b) an (Kn ms) (fun e=>Kx e ms) r h)
  (fun c a b iha ihb an Kn Kx ms r h=>bif (bif sP a then true else sP b)then
    (match dx r c with
     |some (.bool t)=>CondP t (iha an.l Kn Kx ms r h) (ihb an.r Kn Kx ms r h)
     |_=>False)
   else mr P N (.cond c a b) an (Kn ms) (fun e=>Kx e ms) r h)
  (fun id b ih an Kn Kx ms r h=>bif sP b then ih an Kn (fun e ms r' h'=>match e with
    | .exit i=>bif bN i id then Kn ms r' h' else Kx (.exit i) ms r' h'
    | .ret=>Kx .ret ms r' h') ms r h
   else mr P N (.block id b) an (Kn ms) (fun e=>Kx e ms) r h)
  (fun b _ an Kn Kx ms r h=>mr P N (.loop b) an (Kn ms) (fun e=>Kx e ms) r h)
  (fun g ps assign body _ _ an Kn Kx ms r h=>match an with
   | .rf ks aa ab=>bif zI N ps.toList&&bN ps.toList.length ks.length then
    (match dx r g with
     |some fv=>RangeP P fv ks h (fun K8 bz x k h'=>NF P N ps.toList ks assign body (.node aa ab) r (h.size+1) K8 bz x k h')
      (fun h'=>Kn (h.size::ms) r h') (fun i h'=>Kx (.exit i) (h.size::ms) r h') (fun h'=>Kx .ret (h.size::ms) r h')
     |none=>False)else False
   |_=>False)
  (fun id an Kn Kx ms r h=>mr P N (.exit id) an (Kn ms) (fun e=>Kx e ms) r h)
  (fun _ _ _ _ _ _ _ _=>False)
  (fun l an Kn Kx ms r h=>mr P N (.label l) an (Kn ms) (fun e=>Kx e ms) r h)
  (fun _ _ _ _ _ _ _=>False)
  (fun an Kn Kx ms r h=>mr P N .ret an (Kn ms) (fun e=>Kx e ms) r h)
  (fun _ _ _ _ _ _ _=>False)
  c
def PK:List Nat→(af→Prop)→af→Prop
 | [],K,h=>K h
 |D::ms,K,h=>h[D]? =some (.deferred (some []))∧PK ms K (h.setIfInBounds D (.deferred none))
noncomputable def Sm(P:Program)(fn:Func)(c:Code)(an:Ann)(args:List Value)(ks:List Kind)(K:cD ks→af→Prop)(h:af):Prop:=
 zD P fn.ntmps c an
  (fun ms r h'=>PK ms (fun h'=>oS P r h' fn.results.toList fun vs=>EH ks vs fun t=>K t h') h')
  (fun e ms r h'=>match e with
   | .ret=>PK ms (fun h'=>oS P r h' fn.results.toList fun vs=>EH ks vs fun t=>K t h') h'
   | .exit _=>False)
  [] (rg 0 args) h
end Go.Lift
namespace Go.Lift
open Go
theorem GD(a:Addr):adr a 0=a:=rfl
theorem Bm(a:Addr)(n:Nat):adr a (n+1)=⟨a.block,a.off+(n+1),none⟩:=rfl
theorem uR(a:Addr)(n:Nat):adr a n=a.add n:=by
 cases n with
 |zero=>simp[GD,Addr.add]
 |succ n=>simp[Bm,Addr.add]
theorem Bo(a:Addr)(m n:Nat):adr (adr a m) n=adr a (m+n):=by
 cases n with
 |zero=>rfl
 |succ n=>cases m with
  |zero=>simp[GD]
  |succ m=>rw[Bm,Bm,show m+1+(n+1)=(m+1+n)+1 from rfl,Bm];simp;omega
theorem Tame.refl(w:World):Tame w w:=⟨rfl,rfl,rfl⟩
theorem Tame.trans{a b c:World}(h:Tame a b)(k:Tame b c):Tame a c:=⟨k.os.trans h.os,k.tape.trans h.tape,k.output.trans h.output⟩
theorem A0{a b:IntKind}(h:Ka a b=true):a=b:=by cases a<;>cases b<;>first|rfl|cases h
theorem CK.dec_sound{c:CK}{v:Value}{f:c.den→Prop}(h:c.dec v f):∃x,v=c.enc x∧f x:=by
 cases c<;>cases v<;>try simp only[CK.dec]at h
 case int.int k k' n=>
  cases hk:Ka k' k with
  |false=>rw[hk]at h;exact h.elim
  |true=>rw[hk]at h;have:=A0 hk;subst this;exact⟨n,rfl,h⟩
 case adr.pointer p=>cases p with
  |none=>exact h.elim
  |some a=>exact⟨a,rfl,h⟩
 all_goals first|exact h.elim|exact⟨_,rfl,h⟩
theorem Ee:∀{cs:List CK} {vs:List Value} {f:TC cs→Prop},Qf cs vs f→∃t,vs=Ti cs t∧f t
 | [],[],f,h=>⟨(),rfl,h⟩
 | [],_::_,f,h=>h.elim
 | [c],[v],f,h=>by obtain⟨x,rfl,hf⟩:=CK.dec_sound h;exact⟨x,rfl,hf⟩
 | [c],[],f,h=>h.elim
 | [c],_::_::_,f,h=>h.elim
 |c::d::cs,[],f,h=>h.elim
 |c::d::cs,[_],f,h=>h.elim
 |c::d::cs,v::u::vs,f,h=>by
  have h0:c.dec v fun x=>Qf (d::cs) (u::vs) fun t=>f (x,t):=h
  obtain⟨x,hx,h1⟩:=CK.dec_sound h0;obtain⟨t,ht,h2⟩:=Ee (cs:=d::cs) (vs:=u::vs) h1;exact⟨(x,t),by rw[ht,hx];rfl,h2⟩
theorem Kind.dec_sound{k:Kind}{v:Value}{f:k.den→Prop}(h:k.dec v f):∃x,v=k.enc x∧f x:=by
 cases k with
 |c k=>exact CK.dec_sound h
 |agg cs=>
  cases v<;>simp only[Kind.dec]at h
  case agg vs=>
   obtain⟨t,ht,hf⟩:=Ee h;exact⟨t,by simp only[Kind.enc,←ht],hf⟩
theorem sY:∀{ks:List Kind} {vs:List Value} {f:cD ks→Prop},EH ks vs f→∃t,vs=oC ks t∧f t
 | [],[],f,h=>⟨(),rfl,h⟩
 | [],_::_,f,h=>h.elim
 | [c],[v],f,h=>by obtain⟨x,rfl,hf⟩:=Kind.dec_sound h;exact⟨x,rfl,hf⟩
 | [c],[],f,h=>h.elim
 | [c],_::_::_,f,h=>h.elim
 |c::d::cs,[],f,h=>h.elim
 |c::d::cs,[_],f,h=>h.elim
 |c::d::cs,v::u::vs,f,h=>by
  have h0:c.dec v fun x=>EH (d::cs) (u::vs) fun t=>f (x,t):=h
  obtain⟨x,hx,h1⟩:=Kind.dec_sound h0;obtain⟨t,ht,h2⟩:=sY (ks:=d::cs) (vs:=u::vs) h1;exact⟨(x,t),by rw[ht,hx];rfl,h2⟩
theorem ud:∀(ks:List Kind) (t:cD ks),(oC ks t).length=ks.length
 | [],_=>rfl
 | [_],_=>rfl
 |_::l::ks,(_,t)=>by simp only[oC,aj,ud (l::ks) t]
structure Agree(N:Nat)(r:cE)(a:Act):Prop where
 size:a.tmps.size=N
 look:∀t v,kX r t=some v→a.tmps.getD t undef=v
theorem je(k:Nat)(v:Value)(r:cE):kX ((k,v)::r) k=some v:=by rw[FO,show bN k k=true from Nat.beq_refl k];rfl
theorem is{k t:Nat}(v:Value)(r:cE)(h:k≠t):kX ((k,v)::r) t=kX r t:=by
 rw[FO];have:bN k t=false:=Bool.eq_false_iff.2 fun e=>h (aY e)
 rw[this];rfl
theorem Agree.put{N:Nat}{r:cE}{a:Act}(h:Agree N r a)(d:Nat)(v:Value)(hd:d<N):Agree N ((d,v)::r) (a.put (some d) v):=by
 refine⟨by simp[Act.put,h.size],fun t u hu=>?_⟩
 by_cases e:d=t
 ·subst e
  rw[je]at hu;cases hu;simp[Act.put,h.size,hd]
 ·rw[is v r e]at hu
  have:=h.look t u hu;simpa[Act.put,Array.getElem?_setIfInBounds_ne e]using this
theorem Agree.known{N:Nat}{r:cE}{a:Act}(h:Agree N r a){t:Nat}{v:Value}(hv:kX r t=some v):Agree N ((t,v)::r) a:=by
 refine⟨h.size,fun s u hu=>?_⟩
 by_cases e:t=s
 ·subst e;rw[je]at hu;cases hu;exact h.look t v hv
 ·rw[is v r e]at hu;exact h.look s u hu
theorem mR{N:Nat}{r:cE}{a:Act}(h:Agree N r a){o:Operand}{v:Value}(hv:dx r o=some v):a.eval o=v:=by
 cases o with
 |tmp t=>exact h.look t v hv
 |const c=>simp[dx]at hv;subst hv;rfl
 |global g=>simp[dx]at hv;subst hv;rfl
 |func f=>simp[dx]at hv;subst hv;rfl
theorem pN{N:Nat}{r:cE}{a:Act}(h:Agree N r a):∀{os:List Operand} {vs:List Value},rO r os=some vs→os.map a.eval=vs
 | [],vs,hv=>by simp[rO]at hv;subst hv;rfl
 |o::os,vs,hv=>by
  simp only[rO]at hv;cases ho:dx r o with
  |none=>simp[ho]at hv
  |some v=>cases hos:rO r os with
   |none=>simp[ho,hos]at hv
   |some us=>simp[ho,hos]at hv;subst hv;simp[mR h ho,pN h hos]
theorem aF{P:Program}{t:TypeId}{d:TypeDesc}(h:P.underlying t=some d)(w:World):(underlying t).run P w=.ok d w:=by
 simp only[underlying,program,bind,Sem.bind,Sem.run,h,pure]
theorem cO{P:Program}{t:TypeId}{i:TypeInfo}(h:P.info? t=some i)(w:World):(typeInfo t).run P w=.ok i w:=by
 simp only[typeInfo,program,bind,Sem.bind,Sem.run,h,pure]
theorem jE{P:Program}{s:Sem Value}{v:Value}{w w':World}(h:s.run P w=.ok v w'):(do pure (Next.value (←s)):Sem Next).run P w=.ok (.value v) w':=by
 simp[h]
theorem Sq{P:Program}{s:Sem Unit}{w w':World}(h:s.run P w=.ok () w'):(do s;pure Next.skip:Sem Next).run P w=.ok .skip w':=by
 simp[h]
theorem AK{P:Program}{w:World}{a:Addr}{v:Value}(h:aL w.heap a=some v):(load a).run P w=.ok v w:=by
 have h':w.cell? a=some v:=h;simp[h']
theorem Bg{v:Value}{vs:List Value}{i:Nat}{a:Addr}{h:af}:ue (v::vs) i a h↔aL h (adr a i)=some v∧ue vs (i+1) a h:=by
 cases vs with
 |nil=>simp[ue]
 |cons u us=>rfl
theorem tR{P:Program}{w:World}{a:Addr}:∀(vs:List Value) (i:Nat) (acc:Array Value),ue vs i a w.heap→
  (loadCellsFrom a i vs.length acc).run P w=.ok (acc++vs.toArray) w
 | [],i,acc,_=>by simp[loadCellsFrom]
 |v::vs,i,acc,h=>by
  obtain⟨h1,h2⟩:=Bg.1 h;rw[uR]at h1;have:=tR (P:=P) (w:=w) (a:=a) vs (i+1) (acc.push v) h2;simp only[aj,loadCellsFrom,Sem.run_bind,AK h1,Result.andThen_ok,this];simp
theorem Hj{P:Program}{w:World}{a:Addr}{vs:List Value}(h:ue vs 0 a w.heap):(loadCells a vs.length).run P w=.ok vs.toArray w:=by
 have:=tR (P:=P) (w:=w) (a:=a) vs 0 #[] h;simpa[loadCells]using this
theorem y5:∀(cs:List CK) (i:Nat) (a:Addr) (h:af) (k:List Value→Prop),Ki cs i a h k→∃vs,vs.length=cs.length∧ue vs i a h∧k vs
 | [],i,a,h,k,hk=>⟨[],rfl,trivial,hk⟩
 |c::cs,i,a,h,k,hk=>by
  obtain⟨x,hx,hk⟩:=hk;obtain⟨vs,hl,hc,hk⟩:=y5 cs (i+1) a h _ hk;exact⟨c.enc x::vs,by simp[hl],Bg.2 ⟨hx,hc⟩,hk⟩
theorem Be:∀{vs:List Value} {cs:List CK},Gr vs=some cs→cs.length=vs.length
 | [],cs,h=>by simp[Gr]at h;subst h;rfl
 |v::vs,cs,h=>by
  simp only[Gr]at h;cases h1:Vs v with
  |none=>simp[h1]at h
  |some c=>cases h2:Gr vs with
   |none=>simp[h1,h2]at h
   |some ds=>simp[h1,h2]at h;subst h;simp[Be h2]
def TB(P:Program)(t:TypeId)(i:TypeInfo):Kind→Prop
 | .c _=>wK P t=false
 | .agg cs=>wK P t=true∧i.size=cs.length
theorem Oe{P:Program}{t:TypeId}{k:Kind}(h:P1 P t=some k):∃i,P.info? t=some i∧TB P t i k:=by
 unfold P1 yR at h;cases hi:P.info? t with
 |none=>simp[hi]at h
 |some i=>
  refine⟨i,rfl,?_⟩;cases hz:i.zero with
  |none=>simp[hi,hz]at h
  |some z=>
   rw[hi]at h;simp only[hz]at h;cases z;case agg vs=>
    simp only at h;cases hb:(wK P t&&bN vs.toList.length (bW P t))with
    |false=>rw[hb]at h;simp at h
    |true=>
     rw[hb]at h;simp only[cond_true]at h;simp only[Bool.and_eq_true]at hb;have hs:=aY hb.2;cases hd:Gr vs.toList with
     |none=>rw[hd]at h;simp at h
     |some ds=>
      rw[hd]at h;simp only[bG.injEq]at h;subst h;exact⟨hb.1,by rw[Be hd,hs];simp[bW,hi]⟩
   all_goals
    simp only at h;cases ha:wK P t
    ·rw[ha]at h
     simp only[cond_false]at h;split at h
     ·simp only[bG.injEq]at h;subst h;exact ha
     ·simp at h
    ·rw[ha]at h;simp at h
theorem Of{P:Program}{t:TypeId}{k:Kind}(h:F5 P t=some k):(∀w,(isAgg t).run P w=.ok (wK P t) w)∧P1 P t=some k:=by
 unfold F5 at h;cases hu:P.underlying t with
 |none=>simp[hu]at h
 |some d=>
  simp only[hu]at h;refine⟨fun w=>?_,h⟩
  simp only[isAgg,Sem.run_bind,aF hu,Result.andThen_ok];unfold wK;rw[hu];cases d<;>rfl
theorem D0{P:Program}{t:TypeId}{v:Value}{K:RK}{h:af}(hl:LG P t v K h):
  ∃u S,K u (some S)∧S h∧∀w:World,S w.heap→(Instr.loadAt t v).run P w=.ok u w:=by
 unfold LG at hl;cases v with
 |pointer p=>
  cases p with
  |none=>exact hl.elim
  |some a=>
   simp only at hl;cases hk:F5 P t with
   |none=>simp[hk]at hl
   |some k=>
    obtain⟨hagg,hz⟩:=Of hk;obtain⟨i,hi,hc⟩:=Oe hz;rw[hk]at hl;cases k with
    |c c=>
     obtain⟨x,hx,hK⟩:=hl;refine⟨_,_,hK,hx,fun w hw=>?_⟩
     have hc:wK P t=false:=hc;simp only[Instr.loadAt,Instr.sureAddr,loadVar,Sem.run_bind,Sem.run_pure,Result.andThen_ok,hagg,hc];simp[AK hw]
    |agg cs=>
     obtain⟨vs,hlen,hcs,hK⟩:=y5 cs 0 a h _ hl;obtain⟨h1,h2⟩:wK P t=true∧i.size=cs.length:=hc;refine⟨_,_,hK,hcs,fun w hw=>?_⟩
     have hz:(sizeOf t).run P w=.ok vs.length w:=by simp[sizeOf,cO hi,h2,hlen]
     simp only[Instr.loadAt,Instr.sureAddr,loadVar,Sem.run_bind,Sem.run_pure,Result.andThen_ok,hagg,h1];simp[hz,Hj hw]
 |_=>exact hl.elim
end Go.Lift
