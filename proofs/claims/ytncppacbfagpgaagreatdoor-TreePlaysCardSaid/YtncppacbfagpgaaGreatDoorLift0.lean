/- A part of the proof that the named laws of this program answer true, whatever the input. -/
import Derived.OrdersIn
import Derived.Below
import Derived.WalkKit
import Derived.RangeFuncRecord
open BitVec renaming ofInt→aq
open Iff renaming rfl→uZ
open List renaming rec→fO,replicate→eg,length_cons→az
open Nat renaming succ→fY,beq→bN,ble→wU,min→dY,land→jz,lor→cW,pred→wy,eq_of_beq_eq_true→aX
open Option renaming some→bK
namespace Go.Lift
abbrev ad:=Array Obj
def aE(h:ad)(a:Addr):Option Value:=
 match h[a.block]? with
 |some (.cells c _ _)=>if a.spot.isSome then none else c[a.off]?
 |_=>none
def CL(h:ad)(a:Addr):Bool:=
 match h[a.block]? with
 |some (.cells _ _ (lo,hi))=>lo≤a.off&&a.off<hi
 |_=>false
def hset(h:ad)(a:Addr)(v:Value):ad:=
 h.modify a.block fun
  | .cells c elem frozen=>.cells (if a.spot.isSome then c else c.setIfInBounds a.off v) elem frozen
  |o=>o
noncomputable def adr(a:Addr)(n:Nat):Addr:=Nat.rec (motive:=fun _=>Addr) a (fun n _=>⟨a.block,a.off+fY n,none⟩) n
def Wr(h:ad)(a:Addr):Prop:=(∃v,aE h a=some v)∧CL h a=false
structure Tame(w w':World):Prop where
 os:w'.os=w.os
 tape:w'.tape=w.tape
 output:w'.output=w.output
structure SliceV where
 a:Option Addr
 len:Nat
 cap:Nat
def Hu:IntKind→IntKind→Bool
 | .i8,.i8=>true| .i16,.i16=>true| .i32,.i32=>true| .i64,.i64=>true
 | .u8,.u8=>true| .u16,.u16=>true| .u32,.u32=>true| .u64,.u64=>true
 |_,_=>false
inductive CK where
 |int (k:IntKind)|bool|str|ptr|slice|map|chan|raw|adr
def CK.den:CK→Type
 | .int _=>Int| .bool=>Bool| .str=>ByteArray| .ptr=>Option Addr| .slice=>SliceV| .map=>Option Nat| .chan=>Option Nat| .raw=>Value| .adr=>Addr
def CK.enc:(c:CK)→c.den→Value
 | .int k,n=>.int k n
 | .bool,b=>.bool b
 | .str,s=>.string s
 | .ptr,p=>.pointer p
 | .slice,s=>.slice s.a s.len s.cap
 | .map,r=>.map r
 | .chan,r=>.chan r
 | .raw,v=>v
 | .adr,a=>.pointer (some a)
def CK.dec:(c:CK)→Value→(c.den→Prop)→Prop
 | .int k,.int k' n,f=>bif Hu k' k then f n else False
 | .bool,.bool b,f=>f b
 | .str,.string s,f=>f s
 | .ptr,.pointer p,f=>f p
 | .slice,.slice a l c,f=>f ⟨a,l,c⟩
 | .map,.map r,f=>f r
 | .chan,.chan r,f=>f r
 | .raw,v,f=>f v
 | .adr,.pointer (some a),f=>f a
 |_,_,_=>False
def Rl:List CK→Type
 | []=>Unit
 | [c]=>c.den
 |c::d::cs=>c.den×Rl (d::cs)
def QV:(cs:List CK)→Rl cs→List Value
 | [],_=> []
 | [c],x=> [c.enc x]
 |c::d::cs,(x,t)=>c.enc x::QV (d::cs) t
def NQ:(cs:List CK)→List Value→(Rl cs→Prop)→Prop
 | [],[],f=>f ()
 | [c],[v],f=>c.dec v f
 |c::d::cs,v::u::vs,f=>c.dec v fun x=>NQ (d::cs) (u::vs) fun t=>f (x,t)
 |_,_,_=>False
inductive Kind where
 |c (k:CK)
 |agg (cs:List CK)
def Kind.den:Kind→Type
 | .c k=>k.den
 | .agg cs=>Rl cs
def Kind.enc:(k:Kind)→k.den→Value
 | .c k,x=>k.enc x
 | .agg cs,t=>.agg (QV cs t).toArray
def Kind.dec:(k:Kind)→Value→(k.den→Prop)→Prop
 | .c k,v,f=>k.dec v f
 | .agg cs,.agg vs,f=>NQ cs vs.toList f
 |_,_,_=>False
def cL:List Kind→Type
 | []=>Unit
 | [k]=>k.den
 |k::l::ks=>k.den×cL (l::ks)
def mX:(ks:List Kind)→cL ks→List Value
 | [],_=> []
 | [k],x=> [k.enc x]
 |k::l::ks,(x,t)=>k.enc x::mX (l::ks) t
def Cm:(ks:List Kind)→List Value→(cL ks→Prop)→Prop
 | [],[],f=>f ()
 | [k],[v],f=>k.dec v f
 |k::l::ks,v::u::vs,f=>k.dec v fun x=>Cm (l::ks) (u::vs) fun t=>f (x,t)
 |_,_,_=>False
def Dt(ks:List Kind)(vs:List Value):Value:=
 match ks,vs with
 | [_],[v]=>v
 |_,vs=>.tuple vs.toArray
def TZ:Value→Option CK
 | .int k _=>some (.int k)
 | .bool _=>some .bool
 | .string _=>some .str
 | .pointer _=>some .ptr
 | .slice .. =>some .slice
 | .map _=>some .map
 | .chan _=>some .chan
 | .nilFunc=>some .raw
 | .nilIface=>some .raw
 |_=>none
def D4:List Value→Option (List CK)
 | []=>some []
 |v::vs=>match TZ v,D4 vs with
  |some c,some cs=>some (c::cs)
  |_,_=>none
def uS(P:Program)(t:TypeId):Bool:=
 match P.underlying t with
 |some (.struct _)|some (.array _ _)=>true
 |_=>false
def bZ(P:Program)(t:TypeId):Nat:=match P.info? t with|some i=>i.size|none=>0
def qr(P:Program)(t:TypeId):Nat:=match P.info? t with|some i=>i.bytes|none=>0
def xb(P:Program)(t:TypeId):Option Value:=match P.info? t with|some i=>i.zero|none=>none
def Nw(P:Program)(t:TypeId):Option Kind:=
 match xb P t with
 |some (.agg vs)=>bif uS P t&&bN vs.toList.length (bZ P t)then(match D4 vs.toList with|some cs=>some (.agg cs)|none=>none)else none
 |some v=>bif uS P t then none else(match TZ v with|some c=>some (.c c)|none=>none)
 |none=>none
def DH(P:Program)(t:TypeId):Option Kind:=
 match P.underlying t with
 |none=>none
 |some _=>Nw P t
structure HC(P:Program)(f:FuncId)(args:List Value)(ks:List Kind)(K:cL ks→ad→Prop)(h:ad):Prop where
 run:∀w:World,w.heap=h→
  ((callFunc f args.toArray).run P w=.ok (.enter f args.toArray) w∧
   Calls P f args.toArray w fun e w'=>Tame w w'∧∃t:cL ks,e=.returned (Dt ks (mX ks t))∧K t w'.heap)∨
  (∃v w',(callFunc f args.toArray).run P w=.ok (.value v) w'∧Tame w w'∧∃t:cL ks,v=Dt ks (mX ks t)∧K t w'.heap)
structure HE(P:Program)(f:FuncId)(args:List Value)(ks:List Kind)(K:cL ks→ad→Prop)(h:ad):Prop where
 run:∀w:World,w.heap=h→(∀(args:Array Value) (w:World),(callFunc f args).run P w=.ok (.enter f args) w)∧
  Calls P f args.toArray w fun e w'=>Tame w w'∧∃t:cL ks,e=.returned (Dt ks (mX ks t))∧K t w'.heap
theorem HE.hc{P:Program}{f:FuncId}{args:List Value}{ks:List Kind}{K:cL ks→ad→Prop}{h:ad}(e:HE P f args ks K h):HC P f args ks K h:=
 ⟨fun w hw=>.inl ⟨(e.run w hw).1 _ w,(e.run w hw).2⟩⟩
structure HY(P:Program)(l:Nat)(args:List Value)(K:Bool→ad→Prop)(h:ad):Prop where
 run:∀w:World,w.heap=h→∃fn tmps assign body,(Instr.yield l args.toArray).run P w=.ok (.round l fn tmps assign body) w∧
  ∀(c:Frame) (cs:List Frame),∃b w',Tame w w'∧K b w'.heap∧Steps P (lone (Frame.round l fn tmps assign body .normal) (c::cs) w) (lone (c.finish (.bool b)) cs w')
structure HV(P:Program)(fv:Value)(args:List Value)(ks:List Kind)(K:cL ks→ad→Prop)(h:ad):Prop where
 run:(∃f first cap,fv=.func (.func f) first cap∧HC P f (first.toList++args++cap.toList) ks K h)∨
  (∃l,fv=.func (.yield l) #[] #[]∧HY P l args (fun b h'=>Cm ks [.bool b] fun t=>K t h') h)
noncomputable def CondP(b:Bool)(t e:Prop):Prop:=Bool.rec (motive:=fun _=>Prop) e t b
theorem CondP.yes{b:Bool}{t e:Prop}(h:CondP b t e)(hb:b=true):t:=by subst hb;exact h
theorem CondP.no{b:Bool}{t e:Prop}(h:CondP b t e)(hb:b=false):e:=by subst hb;exact h
theorem CondP.intro{b:Bool}{t e:Prop}(h1:b=true→t)(h2:b=false→e):CondP b t e:=by cases b;exact h2 rfl;exact h1 rfl
theorem au{t e:Prop}:CondP true t e↔t:=uZ
theorem ag{t e:Prop}:CondP false t e↔e:=uZ
attribute [irreducible] CondP
def At(h:ad)(k:ad→Prop):Prop:=k h
def Bd{T:Type}(x:T)(k:T→Prop):Prop:=k x
structure Join{T:Type}(rest:T→ad→Prop)(k:(T→ad→Prop)→Prop):Prop where
 run:k rest
structure LoopP{T:Type}(F:(T→ad→Prop)→T→ad→Prop)(t:T)(h:ad):Prop where
 run:∀I:T→ad→Prop,(∀t h,F I t h→I t h)→I t h
abbrev cH:=List (Nat×Value)
noncomputable def j5(r:cH)(t:Nat):Option Value:=
 fO (motive:=fun _=>Option Value) none (fun kv _ ih=>bif bN kv.1 t then some kv.2 else ih) r
theorem Dq(k:Nat)(v:Value)(r:cH)(t:Nat):j5 ((k,v)::r) t=bif bN k t then some v else j5 r t:=rfl
noncomputable def dM(r:cH):Operand→Option Value
 | .tmp t=>j5 r t
 | .const v=>some v
 | .global g=>some (.pointer (some ⟨g,0,none⟩))
 | .func f=>some (.func (.func f) #[] #[])
noncomputable def qk(r:cH):List Operand→Option (List Value)
 | []=>some []
 |o::os=>match dM r o,qk r os with
  |some v,some vs=>some (v::vs)
  |_,_=>none
noncomputable def HA:List CK→Nat→Addr→ad→(List Value→Prop)→Prop
 | [],_,_,_,k=>k []
 |c::cs,i,a,h,k=>∃x:c.den,aE h (adr a i)=some (c.enc x)∧HA cs (i+1) a h fun vs=>k (c.enc x::vs)
noncomputable def sd:List Value→Nat→Addr→ad→Prop
 | [],_,_,_=>True
 | [v],i,a,h=>aE h (adr a i)=some v
 |v::u::vs,i,a,h=>aE h (adr a i)=some v∧sd (u::vs) (i+1) a h
abbrev RK:=Value→Option (ad→Prop)→Prop
noncomputable def I6(P:Program)(t:TypeId)(v:Value)(K:RK)(h:ad):Prop:=
 match v with
 | .pointer (some a)=>
  match DH P t with
  |some (.c c)=>∃x:c.den,aE h a=some (c.enc x)∧K (c.enc x) (some fun h'=>aE h' a=some (c.enc x))
  |some (.agg cs)=>HA cs 0 a h fun vs=>K (.agg vs.toArray) (some fun h'=>sd vs 0 a h')
  |none=>False
 |_=>False
def vR(P:Program)(t:TypeId)(f:Nat):Option (TypeId×Nat):=
 match P.underlying t with
 |some (.struct fs)=>match fs.toList[f]? with
  |some g=>some (g.type,g.offset)
  |none=>none
 |_=>none
def vg(P:Program)(t:TypeId):Option TypeId:=
 match P.underlying t with
 |some (.slice e)=>some e
 |_=>none
def K8(op:BinOp)(k:IntKind)(a b:Int)(K:RK):Prop:=
 match op with
 | .shl=>0≤b∧K (.int k (k.wrap (a*2^(min b.toNat k.bits)))) none
 | .shr=>0≤b∧K (.int k (a.fdiv (2^(min b.toNat k.bits)))) none
 |_=>False
def TS(op:BinOp)(k:IntKind)(a b:Int)(K:RK):Prop:=
 match op with
 | .add=>K (.int k (k.wrap (a+b))) none
 | .sub=>K (.int k (k.wrap (a-b))) none
 | .mul=>K (.int k (k.wrap (a*b))) none
 | .quo=>b≠0∧K (.int k (k.wrap (a.tdiv b))) none
 | .rem=>b≠0∧K (.int k (a.tmod b)) none
 | .and=>K (.int k (k.wrap (aq k.bits a&&&aq k.bits b).toNat)) none
 | .or=>K (.int k (k.wrap (aq k.bits a|||aq k.bits b).toNat)) none
 | .xor=>K (.int k (k.wrap (aq k.bits a^^^aq k.bits b).toNat)) none
 | .andNot=>K (.int k (k.wrap (aq k.bits a&&& ~~~aq k.bits b).toNat)) none
 | .eql=>K (.bool (a==b)) none
 | .neq=>K (.bool (a !=b)) none
 | .lss=>K (.bool (decide (a<b))) none
 | .leq=>K (.bool (decide (a≤b))) none
 | .gtr=>K (.bool (decide (a>b))) none
 | .geq=>K (.bool (decide (a≥b))) none
 |_=>False
def TB(op:BinOp)(a b:ByteArray)(K:RK):Prop:=
 match op with
 | .add=>((a.size+b.size:Nat):Int)≤9223372036854775807∧K (.string (a++b)) none
 | .eql=>K (.bool (a.toList==b.toList)) none
 | .neq=>K (.bool (!(a.toList==b.toList))) none
 | .lss=>K (.bool (Op.bytesLess a.toList b.toList)) none
 | .leq=>K (.bool (Op.bytesLess a.toList b.toList||a.toList==b.toList)) none
 | .gtr=>K (.bool (!(Op.bytesLess a.toList b.toList||a.toList==b.toList))) none
 | .geq=>K (.bool (!(Op.bytesLess a.toList b.toList))) none
 |_=>False
def gS(h:ad)(a:Addr):Prop:=(∃c e,h[a.block]? =some (.cells c e (0,0))∧0<c.size)
def Sm(P:Program)(t:TypeId)(neg:Bool)(x y:Value)(K:RK):Prop:=
 match P.underlying t,x,y with
 |some (.pointer _),.pointer a,.pointer none=>K (.bool (bif neg then !a.isNone else a.isNone)) none
 |some (.map _ _),.map a,.map none=>K (.bool (bif neg then !a.isNone else a.isNone)) none
 |some (.slice _),.slice a _ _,.slice none _ _=>K (.bool (bif neg then !a.isNone else a.isNone)) none
 |_,_,_=>False
def TR:Operand→Bool
 | .const (.pointer none)=>true
 | .const (.map none)=>true
 | .const (.slice none 0 0)=>true
 |_=>false
def U8(P:Program)(t:TypeId)(neg:Bool)(x y:Value)(K:RK)(h:ad):Prop:=
 match P.underlying t,x,y with
 |some .bool,.bool a,.bool b=>K (.bool (bif neg then !(a==b)else a==b)) none
 |some (.pointer e),.pointer a,.pointer b=>
  (bif bN (bZ P e) 0 then False else True)∧
  (∀x y,a=some x→b=some y→gS h x∧gS h y)∧
  K (.bool (bif neg then !(a==b)else a==b)) (some fun h'=>∀x y,a=some x→b=some y→gS h' x∧gS h' y)
 |_,_,_=>False
def TI(P:Program)(op:BinOp)(t:TypeId)(x y:Value)(K:RK)(h:ad):Prop:=
 match x,y with
 | .int k a,.int k' b=>
  match op with
  | .shl=>K8 .shl k a b K
  | .shr=>K8 .shr k a b K
  |op=>bif Hu k' k then TS op k a b K else False
 | .string a,.string b=>TB op a b K
 |x,y=>match op with
  | .eql=>U8 P t false x y K h
  | .neq=>U8 P t true x y K h
  |_=>False
def ql(h:ad):List (Option Addr×Option Addr)→Prop
 | []=>True
 |(a,b)::l=>(∀x y,a=some x→b=some y→gS h x∧gS h y)∧ql h l
def QI(P:Program)(t:TypeId)(x y:Value):Option (Bool×List (Option Addr×Option Addr)):=
 match P.underlying t,x,y with
 |some (.int _),.int k a,.int k' b=>bif Hu k' k then some (a==b,[])else none
 |some .bool,.bool a,.bool b=>some (a==b,[])
 |some .string,.string a,.string b=>some (a.toList==b.toList,[])
 |some (.pointer e),.pointer a,.pointer b=>bif bN (bZ P e) 0 then none else some (a==b,[(a,b)])
 |_,_,_=>none
def SE(P:Program)(rec:TypeId→List Value→List Value→Option (Bool×List (Option Addr×Option Addr)))(xs ys:List Value):List Field→Option (Bool×List (Option Addr×Option Addr))
 | []=>some (true,[])
 |f::fs=>
  if f.name= "_" then none else
  bif (P.underlying f.type).isSome&&(P.info? f.type).isSome then
   match(bif uS P f.type then rec f.type ((xs.drop f.offset).take (bZ P f.type)) ((ys.drop f.offset).take (bZ P f.type))
    else match xs[f.offset]?,ys[f.offset]? with|some x,some y=>QI P f.type x y|_,_=>none),SE P rec xs ys fs with
   |some (b,l),some (c,m)=>some (b&&c,l++m)
   |_,_=>none
  else none
def QJ(P:Program):Nat→TypeId→List Value→List Value→Option (Bool×List (Option Addr×Option Addr))
 |0,_,_,_=>none
 |d+1,t,xs,ys=>match P.underlying t with
  |some (.struct fs)=>bif P.stoodInHeld t then none else SE P (QJ P d) xs ys fs.toList
  |_=>none
def Vs(neg b:Bool)(K:RK)(h:ad):List (Option Addr×Option Addr)→Prop
 | []=>K (.bool (bif neg then !b else b)) none
 |p::l=>ql h (p::l)∧K (.bool (bif neg then !b else b)) (some fun h'=>ql h' (p::l))
def TK(P:Program)(op:BinOp)(t:TypeId)(xs ys:List Value)(K:RK)(h:ad):Prop:=
 bif P.eqGuardType P.depth t then False else
 match op with
 | .eql=>(match QJ P 10 t xs ys with|some (b,l)=>Vs false b K h l|none=>False)
 | .neq=>(match QJ P 10 t xs ys with|some (b,l)=>Vs true b K h l|none=>False)
 |_=>False
def Vj(op:UnOp)(x:Value)(K:RK):Prop:=
 match op,x with
 | .neg,.int k n=>K (.int k (k.wrap (0-n))) none
 | .xor,.int k n=>K (.int k (k.wrap (aq k.bits (if k.signed then-1 else k.max)^^^aq k.bits n).toNat)) none
 | .not,.bool b=>K (.bool (!b)) none
 |_,_=>False
def dS(s:ByteArray):List Value:=s.data.toList.map fun b=>.int .u8 b.toNat
noncomputable def Row(h:ad)(a:Addr)(vs:List Value):Prop:=∀i v,vs[i]? =some v→aE h (adr a i)=some v
noncomputable def SRow(h:ad)(a:Option Addr)(n:Nat)(vs:List Value):Prop:=vs.length=n∧(vs= []∨∃b,a=some b∧Row h b vs)
def LS(P:Program)(e:TypeId):Bool:=match P.underlying e with|some (.int .u8)=>true|_=>false
def TQ(P:Program)(s d:TypeId):Bool:=
 match P.underlying s,P.underlying d with
 |some .string,some (.slice e)=>LS P e
 |_,_=>false
def ByP(e:TypeId)(s:ByteArray)(h:ad)(K:Nat→ad→Prop):Prop:=
 ∀c,s.size≤c→K c (h.push (.cells (dS s++eg (c-s.size) (Value.int .u8 0)).toArray e (c,c+1)))
noncomputable def Qe(P:Program)(src dst:TypeId)(x:Value)(K:RK)(h:ad):Prop:=
 match P.underlying src,P.underlying dst,x with
 |some (.int _),some (.int k),.int _ n=>K (.int k (k.wrap n)) none
 |some .string,some .string,.string s=>K (.string s) none
 |some (.slice e),some .string,.slice a n _=>bif LS P e then∃s:ByteArray,SRow h a n (dS s)∧K (.string s) (some fun h'=>SRow h' a n (dS s))else False
 |_,_,_=>False
def QZ(v:Option Value)(d y:Nat)(K:Nat→Prop):Prop:=
 match v with
 |none=>K d
 |some (.int _ i)=>(0≤i∧i≤y)∧K i.toNat
 |_=>False
noncomputable def aV(a:Option Addr)(l m size:Nat):Option Addr:=if m=l then a else a.map (adr · (l*size))
def Qm(P:Program)(t:TypeId)(K:Prop):Prop:=match P.info? t with|some _=>K|none=>False
noncomputable def Ln(P:Program)(t:TypeId)(x:Value)(lo hi mx:Option Value)(K:RK):Prop:=
 match P.underlying t,x with
 |some .string,.string s=>match mx with
  |some _=>False
  |none=>QZ hi s.size s.size fun h=>QZ lo 0 h fun l=>K (.string (s.extract l h)) none
 |some (.slice e),.slice a len cap=>Qm P e (
  match mx with
  |none=>QZ hi len cap fun h=>QZ lo 0 h fun l=>K (.slice (aV a l cap (bZ P e)) (h-l) (cap-l)) none
  |some m=>match hi with
   |none=>False
   |some hi=>QZ (some m) 0 cap fun m=>QZ (some hi) 0 m fun h=>QZ lo 0 h fun l=>K (.slice (aV a l m (bZ P e)) (h-l) (m-l)) none)
 |some (.array n e),.pointer (some a)=>Qm P e (
  match mx with
  |none=>QZ hi n n fun h=>QZ lo 0 h fun l=>K (.slice (aV (some a) l n (bZ P e)) (h-l) (n-l)) none
  |some _=>False)
 |_,_=>False
noncomputable def F4(r:cH):Option Operand→Option (Option Value)
 |none=>some none
 |some o=>match dM r o with
  |some v=>some (some v)
  |none=>none
noncomputable def xY(P:Program)(t:TypeId)(x i:Value)(K:RK):Prop:=
 match P.underlying t,x,i with
 |some (.array n e),.pointer (some a),.int _ i=>Qm P e ((0≤i∧i<n)∧K (.pointer (some (adr a (i.toNat*bZ P e)))) none)
 |some (.slice e),.slice b len _,.int _ i=>Qm P e ((0≤i∧i<len)∧∃a,b=some a∧K (.pointer (some (adr a (i.toNat*bZ P e)))) none)
 |_,_,_=>False
def Lq(P:Program)(t:TypeId)(x i:Value)(K:RK):Prop:=
 match P.underlying t,x,i with
 |some .string,.string s,.int _ i=>∃b:UInt8,0≤i∧s[i.toNat]? =some b∧K (.int .u8 b.toNat) none
 |_,_,_=>False
noncomputable def Lr(P:Program)(t:TypeId)(x:Value)(f:Nat)(K:RK):Prop:=
 match vR P t f,x with
 |some (u,off),.agg cs=>bif (P.underlying u).isSome&&(P.info? u).isSome then(bif uS P u then K (.agg ((cs.toList.drop off).take (bZ P u)).toArray) none
  else(match cs.toList[off]? with|some v=>K v none|none=>False))else False
 |_,_=>False
def S7(c a b:Value)(K:RK):Prop:=
 match c with
 | .bool c=>(match a,b with
  | .bool x,.bool y=>K (.bool (bif c then x else y)) none
  |_,_=>(match c with|true=>K a none|false=>K b none))
 |_=>False
def g6:Value→Value→Bool
 | .int _ a,.int _ b=>a==b
 | .string a,.string b=>a==b
 | .bool a,.bool b=>a==b
 |_,_=>false
def JL(k:Value):List MapEntry→Option Value
 | []=>none
 |e::es=>if g6 k e.key then some e.val else JL k es
def DI(c:CK)(es:List MapEntry):Prop:=∀e∈es,∃x:c.den,e.key=c.enc x
def Mn(c:CK)(z:Value)(h:ad)(m:Option Nat)(k v:Value)(ok:Bool):Prop:=
 match m with
 |none=>v=z∧ok=false
 |some r=>∃es clock,h[r]? =some (.map es clock)∧DI c es.toList∧
  (match JL k es.toList with|some u=>v=u∧ok=true|none=>v=z∧ok=false)
def Jy(P:Program)(t:TypeId):Option (CK×TypeId):=
 match P.underlying t with
 |some (.map k e)=>match P.underlying k with
  |some (.int i)=>some (.int i,e)
  |some .string=>some (.str,e)
  |some .bool=>some (.bool,e)
  |_=>none
 |_=>none
def Hb(P:Program)(t:TypeId)(x k:Value)(ok:Bool)(K:RK)(h:ad):Prop:=
 match Jy P t,x with
 |some (c,e),.map m=>c.dec k fun _=>
  (match DH P e,xb P e with
   |some ek,some z=>∃(y:ek.den) (b:Bool),Mn c z h m k (ek.enc y) b∧
    K (bif ok then .tuple #[ek.enc y,.bool b]else ek.enc y) (some fun h'=>Mn c z h' m k (ek.enc y) b)
   |_,_=>False)
 |_,_=>False
def Rd(h:ad)(m:Option Nat)(n:Nat):Prop:=
 match m with
 |none=>n=0
 |some r=>∃es clock,h[r]? =some (.map es clock)∧n=es.size
def TG(P:Program)(t:TypeId)(x:Value)(K:RK)(h:ad):Prop:=
 match P.underlying t,x with
 |some .string,.string s=>K (.int .i64 s.size) none
 |some (.array n _),_=>K (.int .i64 n) none
 |some (.slice _),.slice _ n _=>K (.int .i64 n) none
 |some (.map _ _),.map m=>∃n:Nat,Rd h m n∧K (.int .i64 n) (some fun h'=>Rd h' m n)
 |_,_=>False
def TH(P:Program)(t:TypeId)(x:Value)(K:RK):Prop:=
 match P.underlying t,x with
 |some (.slice _),.slice _ _ n=>K (.int .i64 n) none
 |_,_=>False
def Hm(mx:Bool)(k:IntKind):Int→List Value→(Value→Prop)→Prop
 |a,[],f=>f (.int k a)
 |a,.int k' b::vs,f=>bif Hu k' k then Hm mx k (bif mx then(if b>a then b else a)else(if b<a then b else a)) vs f else False
 |_,_,_=>False
def CF(mx:Bool)(vs:List Value)(f:Value→Prop):Prop:=
 match vs with
 | .int k a::vs=>Hm mx k a vs f
 |_=>False
def Mp(h:ad)(i:Nat)(e:MapEntry):Prop:=
 ∃m since seen last stamp es,h[i]? =some (.mapIter (some m) since seen last)∧seen.back? =some stamp∧h[m]? =some (.map es last)∧es.find? (fun e=>e.born==stamp)=some e
def pW(P:Program)(t:TypeId):Bool:=match P.underlying t with|some (.interface _)=>false|some _=>true|none=>false
def Nh(P:Program)(t:TypeId)(x:Value)(K:RK):Prop:=
 bif pW P t then(match DH P t with
  |some k=>∃y:k.den,x=.iface t (k.enc y)∧K (k.enc y) none
  |none=>False)else False
def Jg(cs:List Value)(off:Nat)(vs:List Value):List Value:=cs.take off++vs++cs.drop (off+vs.length)
def BQ(place:Nat→Option (Nat×Nat)):List Value→List (Nat×Value)→Option (List Value)
 |cs,[]=>some cs
 |cs,(i,v)::rest=>match place i with
  |none=>none
  |some (off,size)=>bif bN v.cells.toList.length size&&wU (off+v.cells.toList.length) cs.length then BQ place (Jg cs off v.cells.toList) rest else none
noncomputable def pV(r:cH):List (Nat×Operand)→Option (List (Nat×Value))
 | []=>some []
 |(i,o)::ps=>match dM r o,pV r ps with
  |some v,some vs=>some ((i,v)::vs)
  |_,_=>none
def qh(P:Program)(t:TypeId):Option (List Value):=match xb P t with|some z=>some z.cells.toList|none=>none
def dK(n:Nat)(z:List Value):List Value:=(eg n z).flatten
def wM(P:Program)(t:TypeId):Bool:=match P.info? t with|some _=>true|none=>false
def zI(P:Program):List Field→Bool
 | []=>true
 |f::fs=>bif wM P f.type then zI P fs else false
def LA(P:Program)(fs:List Field)(i:Nat):Option (Nat×Nat):=match fs[i]? with|some f=>some (f.offset,bZ P f.type)|none=>none
def HK(P:Program)(t:TypeId)(parts:List (Nat×Value)):Option (List Value):=
 match P.underlying t,qh P t with
 |some (.struct fs),some z=>bif zI P fs.toList then BQ (LA P fs.toList) z parts else none
 |some (.array _ e),some z=>bif wM P e then BQ (fun i=>some (i*bZ P e,bZ P e)) z parts else none
 |_,_=>none
noncomputable def AN(P:Program)(ek:Option (Kind×Kind))(o:Op)(r:cH)(K:RK)(h:ad):Prop:=
 match o with
 | .entry it=>match dM r it,ek with
  |some (.pointer (some a)),some (kk,vk)=>a.off=0∧∃(e:MapEntry) (x:kk.den) (y:vk.den),Mp h a.block e∧e.key=kk.enc x∧e.val=vk.enc y∧
    K (.tuple #[kk.enc x,vk.enc y]) (some fun h'=>Mp h' a.block e)
  |_,_=>False
 | .move x| .assign x=>match dM r x with|some v=>K v none|none=>False
 | .load t a=>match dM r a with|some v=>I6 P t v K h|none=>False
 | .nilCheck x=>match dM r x with|some (.pointer p)=>∃a,p=some a∧K (.pointer (some a)) none|_=>False
 | .binOp op t x y _=>match dM r x,dM r y with
  |some (.agg v),some (.agg u)=>TK P op t v.toList u.toList K h
  |some v,some u=>(match op,TR y with
   | .eql,true=>Sm P t false v u K
   | .neq,true=>Sm P t true v u K
   |op,_=>TI P op t v u K h)
  |_,_=>False
 | .unOp op _ x=>match dM r x with|some v=>Vj op v K|none=>False
 | .convert s d x=>match dM r x with|some v=>Qe P s d v K h|none=>False
 | .pick c a b=>match dM r c,dM r a,dM r b with|some c,some a,some b=>S7 c a b K|_,_,_=>False
 | .extract x i=>match dM r x with
  |some (.tuple vs)=>(match vs.toList[i]? with|some v=>K v none|none=>False)
  |_=>False
 | .fieldAddr t x f=>match dM r x,vR P t f with
  |some (.pointer (some a)),some (u,off)=>bif bN (bZ P u) 0 then False else K (.pointer (some (adr a off))) none
  |_,_=>False
 | .field t x f=>match dM r x with|some v=>Lr P t v f K|none=>False
 | .indexAddr t x i=>match dM r x,dM r i with|some v,some u=>xY P t v u K|_,_=>False
 | .index t x i=>match dM r x,dM r i with|some v,some u=>Lq P t v u K|_,_=>False
 | .slice t x lo hi mx=>match dM r x,F4 r lo,F4 r hi,F4 r mx with
  |some v,some l,some h',some m=>Ln P t v l h' m K
  |_,_,_,_=>False
 | .lookup t x k ok=>match dM r x,dM r k with|some v,some u=>Hb P t v u ok K h|_,_=>False
 | .makeInterface t x=>match dM r x with|some v=>bif pW P t then K (.iface t v) none else False|none=>False
 | .typeAssert x _ t ok=>match dM r x with|some v=>bif ok then False else Nh P t v K|none=>False
 | .build t ps=>match pV r ps.toList with
  |some vs=>(match HK P t vs with|some cs=>K (.agg cs.toArray) none|none=>False)
  |none=>False
 | .makeFunc fn first cap=>match qk r first.toList,qk r cap.toList with
  |some vs,some us=>K (.func fn vs.toArray us.toArray) none
  |_,_=>False
 | .call c=>match c.callee,qk r c.args.toList,c.argTypes.toList with
  | .builtin .len,some [v],[t]=>TG P t v K h
  | .builtin .cap,some [v],[t]=>TH P t v K
  | .builtin .min,some vs,_=>CF false vs fun v=>K v none
  | .builtin .max,some vs,_=>CF true vs fun v=>K v none
  |_,_,_=>False
 |_=>False
abbrev WK:=Value→ad→Prop
def aA(h:ad):Addr:=⟨h.size,0,none⟩
def hnew(h:ad)(cs:List Value)(t:TypeId):ad:=h.push (.cells cs.toArray t (0,0))
def cj:List Value→Bool
 | []=>true
 |v::vs=>(match v with| .agg _=>false| .tuple _=>false|_=>true)&&cj vs
noncomputable def g8(h:ad)(a:Addr):Nat→List Value→ad
 |_,[]=>h
 |i,v::vs=>g8 (hset h (adr a i) v) a (i+1) vs
noncomputable def fU(h:ad)(a:Option Addr)(i:Nat)(vs:List Value):ad:=match a with|some a=>g8 h a i vs|none=>h
noncomputable def rP(h:ad)(a:Option Addr)(i:Nat)(vs:List Value):Prop:=vs= []∨∃b,a=some b∧∀j,j<vs.length→Wr h (adr b (i+j))
noncomputable def KP(P:Program)(t:TypeId)(a v:Value)(K:WK)(h:ad):Prop:=
 match a with
 | .pointer (some a)=>bif bN v.cells.toList.length (bZ P t)&&cj v.cells.toList then Qm P t
   (match v.cells.toList with
    | [v]=>Wr h a∧K undef (hset h a v)
    |vs=>rP h (some a) 0 vs∧K undef (g8 h a 0 vs))
  else False
 |_=>False
noncomputable def Q5(P:Program)(e:TypeId)(base:Option Addr)(sl sc xl:Nat)(xs:List Value)(K:WK)(h:ad):Prop:=
 (sl+xl≤sc→rP h base (sl*bZ P e) xs∧cj xs=true∧K (.slice base (sl+xl) sc) (fU h base (sl*bZ P e) xs))∧
 (sc<sl+xl→∃old z,SRow h base (sl*bZ P e) old∧qh P e=some z∧0<qr P e∧Builtin.nextslicecap (sl+xl) sc*qr P e≤2^48∧
  ∀nc,sl+xl≤nc→K (.slice (some (aA h)) (sl+xl) nc) (hnew h (old++xs++dK (nc-(sl+xl)) z) e))
noncomputable def Cy(P:Program)(t:TypeId)(s x:Value)(K:WK)(h:ad):Prop:=
 match vg P t,s,x with
 |some e,.slice b sl sc,.slice a xl _=>Qm P e (∃xs,SRow h a (xl*bZ P e) xs∧Q5 P e b sl sc xl xs K h)
 |some e,.slice b sl sc,.string x=>bif bN (bZ P e) 1 then Q5 P e b sl sc x.size (dS x) K h else False
 |_,_,_=>False
noncomputable def CX(P:Program)(t:TypeId)(s x:Value)(K:WK)(h:ad):Prop:=
 match vg P t,s,x with
 |some e,.slice b sl sc,.int _ l=>(match qh P e with
  |some z=>bif bN z.length (bZ P e)then(0≤l∧l*qr P e≤2^48∧l≤9223372036854775807∧((sl+l.toNat:Nat):Int)≤9223372036854775807)∧Q5 P e b sl sc l.toNat (dK l.toNat z) K h else False
  |none=>False)
 |_,_,_=>False
noncomputable def KQ(P:Program)(t:TypeId)(x:Value)(K:WK)(h:ad):Prop:=
 match vg P t,x with
 |some e,.slice a n _=>(match qh P e with
  |some z=>bif cj z then rP h a 0 (dK n z)∧K (.tuple #[]) (fU h a 0 (dK n z))else False
  |none=>False)
 |_,_=>False
noncomputable def PF(P:Program)(t:TypeId)(d s:Value)(K:WK)(h:ad):Prop:=
 match vg P t,d,s with
 |some e,.slice b dl _,.slice a sl _=>Qm P e (∃xs,SRow h a (dY sl dl*bZ P e) xs∧rP h b 0 xs∧cj xs=true∧K (.int .i64 (dY sl dl)) (fU h b 0 xs))
 |some e,.slice b dl _,.string x=>bif bN (bZ P e) 1 then rP h b 0 ((dS x).take dl)∧K (.int .i64 (dY x.size dl)) (fU h b 0 ((dS x).take dl))else False
 |_,_,_=>False
def Lx(k v:Value)(clock:Nat):List MapEntry→List MapEntry×Nat
 | []=>([{key:=k,val:=v,born:=clock}],clock+1)
 |e::es=>if g6 k e.key then({e with key:=k,val:=v}::es,clock)else let r:=Lx k v clock es;(e::r.1,r.2)
def JO(k:Value):List MapEntry→List MapEntry
 | []=> []
 |e::es=>if g6 k e.key then es else e::JO k es
def NV(c:CK)(h:ad)(r:Nat):Prop:=∃es clock,h[r]? =some (.map es clock)∧DI c es.toList
def Sq(h:ad)(r:Nat)(k v:Value):ad:=
 match h[r]? with
 |some (.map es clock)=>h.setIfInBounds r (.map (Lx k v clock es.toList).1.toArray (Lx k v clock es.toList).2)
 |_=>h
def Nt(h:ad)(r:Nat)(k:Value):ad:=
 match h[r]? with
 |some (.map es clock)=>h.setIfInBounds r (.map (JO k es.toList).toArray clock)
 |_=>h
def Cx(P:Program)(t:TypeId)(m k v:Value)(K:WK)(h:ad):Prop:=
 match Jy P t,m with
 |some (c,_),.map m=>c.dec k fun _=>∃r,m=some r∧NV c h r∧K undef (Sq h r k v)
 |_,_=>False
def CV(P:Program)(t:TypeId)(m k:Value)(K:WK)(h:ad):Prop:=
 match Jy P t,m with
 |some (c,_),.map m=>c.dec k fun _=>(m=none∧K (.tuple #[]) h)∨(∃r,m=some r∧NV c h r∧K (.tuple #[]) (Nt h r k))
 |_,_=>False
def P5(P:Program):List TypeId→Option (List Kind)
 | []=>some []
 |t::ts=>match DH P t,P5 P ts with
  |some k,some ks=>some (k::ks)
  |_,_=>none
def P6(P:Program)(t:TypeId):Option (List Kind):=
 match P.underlying t with
 |some (.tuple ts)=>P5 P ts.toList
 |_=>P5 P [t]
noncomputable def SW(P:Program)(f:Operand)(r:cH)(args:List Value)(t:TypeId)(K:WK)(h:ad):Prop:=
 match P6 P t with
 |none=>False
 |some ks=>match f with
  | .func f=>HC P f args ks (fun x h'=>K (Dt ks (mX ks x)) h') h
  |f=>match dM r f with
   |some fv=>HV P fv args ks (fun x h'=>K (Dt ks (mX ks x)) h') h
   |none=>False
def PE(it:Value)(K:WK)(h:ad):Prop:=
 match it with
 | .pointer (some a)=>a.off=0∧
  ∃m since seen last,h[a.block]? =some (.mapIter m since seen last)∧
   ((m=none∧K (.tuple #[.bool false]) h)∨
    (∃r es clock,m=some r∧h[r]? =some (.map es clock)∧(seen.isEmpty=true∨es.isEmpty=true∨es.all (fun e=>decide (e.born≥last))=false)∧
     ((∀e∈es.toList,e.born<since→seen.contains e.born=true)→K (.tuple #[.bool false]) h)∧
     (∀e∈es.toList,seen.contains e.born=false→K (.tuple #[.bool true,e.key,e.val]) (h.setIfInBounds a.block (.mapIter (some r) since (seen.push e.born) clock)))))
 |_=>False
noncomputable def EP(P:Program)(o:Oper)(r:cH)(K:WK)(h:ad):Prop:=
 match o.op with
 | .alloc t=>(match qh P t with|some z=>K (.pointer (some (aA h))) (hnew h z t)|none=>False)
 | .box t x=>(match dM r x with|some v=>K (.pointer (some (aA h))) (hnew h v.cells.toList t)|none=>False)
 | .build t ps=>(match pV r ps.toList with
  |some vs=>(match HK P t vs with|some cs=>K (.agg cs.toArray) h|none=>False)
  |none=>False)
 | .buildSlice t n ps=>(match vg P t,pV r ps.toList with
  |some e,some vs=>(match qh P e with
   |some z=>bif wU (n*bZ P e) 16777216&&bN z.length (bZ P e)then
     (match BQ (fun i=>some (i*bZ P e,bZ P e)) (dK n z) vs with|some cs=>K (.slice (some (aA h)) n n) (hnew h cs e)|none=>False)
    else False
   |none=>False)
  |_,_=>False)
 | .store t a x=>(match dM r a,dM r x with|some a,some v=>KP P t a v K h|_,_=>False)
 | .mapUpdate t m k x=>(match dM r m,dM r k,dM r x with|some m,some k,some v=>Cx P t m k v K h|_,_,_=>False)
 | .insert t m k x=>(match dM r m,dM r k,dM r x with|some m,some k,some v=>Cx P t m k v K h|_,_,_=>False)
 | .makeMap t n=>(match n with
  |none=>K (.map (some h.size)) (h.push (.map #[] 0))
  |some n=>(match dM r n,P.underlying t with|some (.int _ _),some (.map _ _)=>K (.map (some h.size)) (h.push (.map #[] 0))|_,_=>False))
 | .makeSlice t l c=>(match vg P t,dM r l,dM r c with
  |some e,some (.int _ l),some (.int _ c)=>(match qh P e with
   |some z=>bif bN z.length (bZ P e)then(0≤l∧l≤c∧c≤9223372036854775807∧qr P e*c≤2^48)∧K (.slice (some (aA h)) l.toNat c.toNat) (hnew h (dK c.toNat z) e)else False
   |none=>False)
  |_,_,_=>False)
 | .convert s d x=>(match P.underlying s,P.underlying d,dM r x with
  |some .string,some (.slice e),some (.string v)=>bif LS P e then ByP e v h (fun c h'=>K (.slice (some (aA h)) v.size c) h')else False
  |_,_,_=>False)
 | .range t x=>(match P.underlying t,dM r x with
  |some (.map _ _),some (.map m)=>∃clock,(m=none∧clock=0∨∃r es,m=some r∧h[r]? =some (.map es clock))∧K (.pointer (some (aA h))) (h.push (.mapIter m clock #[] clock))
  |_,_=>False)
 | .next it false=>(match dM r it with|some it=>PE it K h|none=>False)
 | .call c=>(match c.callee,qk r c.args.toList with
  | .builtin .append,some [s,x]=>(match c.argTypes.toList with| [t,u]=>(match P.underlying u with|some (.slice _)=>Cy P t s x K h|some .string=>Cy P t s x K h|some (.int _)=>CX P t s x K h|_=>False)|_=>False)
  | .builtin .clear,some [x]=>(match c.argTypes.toList with| [t]=>KQ P t x K h|_=>False)
  | .builtin .copy,some [d,s]=>(match c.argTypes.toList with| [t,_]=>PF P t d s K h|_=>False)
  | .builtin .delete,some [m,k]=>(match c.argTypes.toList with| [t,_]=>CV P t m k K h|_=>False)
  | .value f,some args=>SW P f r args o.type K h
  |_,_=>False)
 |_=>False
def vh(P:Program):Op→Bool
 | .convert s d _=> !TQ P s d
 | .alloc _| .box .. | .buildSlice .. | .store .. | .mapUpdate .. | .insert .. | .makeMap .. | .makeSlice .. | .range .. | .next .. =>false
 | .call c=>match c.callee with
  | .builtin .len| .builtin .cap| .builtin .min| .builtin .max=>true
  |_=>false
 |_=>true
def zB(N:Nat)(o:Oper)(v:Value)(r:cH)(K:cH→Prop):Prop:=
 match o.dst with
 |none=>K r
 |some d=>bif Nat.blt d N then K ((d,v)::r)else False
noncomputable def Uf(P:Program)(N:Nat)(ek:Option (Kind×Kind))(o:Oper)(r:cH)(K:cH→ad→Prop)(h:ad):Prop:=
 bif vh P o.op then AN P ek o.op r (fun v _=>zB N o v r fun r'=>K r' h) h
 else EP P o r (fun v h'=>zB N o v r fun r'=>K r' h') h
inductive DV where
 |f|t|u|x
abbrev um:=List (Nat×DV)
noncomputable def qE(d:um)(t:Nat):DV:=
 fO (motive:=fun _=>DV) .x (fun kv _ ih=>bif bN kv.1 t then kv.2 else ih) d
noncomputable def zC(d:um):Operand→DV
 | .tmp t=>qE d t
 | .const (.bool true)=>.t
 | .const (.bool false)=>.f
 |_=>.x
noncomputable def Im(d:um):Op→DV
 | .move x=>zC d x
 | .assign x=>zC d x
 | .pick c a b=>match zC d c with
  | .t=>zC d a
  | .f=>zC d b
  |_=>.x
 | .unOp .not _ x=>match zC d x with
  | .t=>.f
  | .f=>.t
  |_=>.x
 |_=>.x
def rp(d:um)(o:Oper)(v:DV):um:=match o.dst with|some t=>(t,v)::d|none=>d
noncomputable def iZ(ops:List Oper)(d:um)(o:Oper):Option Bool:=
 match o.guard with
 |none=>some true
 |some (j,want)=>match ops[j]? with
  |none=>none
  |some oj=>match oj.dst with
   |none=>none
   |some t=>match qE d t with
    | .t=>some want
    | .f=>some (!want)
    | .u=>some false
    | .x=>none
def DR(ops:List Oper)(o:Oper):Option Nat:=
 match o.guard with
 |none=>none
 |some (j,_)=>match ops[j]? with
  |none=>none
  |some oj=>oj.dst
noncomputable def FM(P:Program)(N:Nat)(ek:Option (Kind×Kind))(ops:List Oper)(o:Oper)(d:um)(r:cH)(h:ad)(K:um→cH→ad→Prop):Prop:=
 match iZ ops d o with
 |some true=>Uf P N ek o r (K (rp d o (Im d o.op))) h
 |some false=>zB N o undef r fun r'=>K (rp d o .u) r' h
 |none=>False
noncomputable def Dh(P:Program)(N:Nat)(ek:Option (Kind×Kind))(ops:List Oper)(l:List Oper):um→(cH→ad→Prop)→cH→ad→Prop:=
 fO (motive:=fun _=>um→(cH→ad→Prop)→cH→ad→Prop) (fun _ K r h=>K r h)
  (fun o _ ih d K r h=>
  match iZ ops d o with
  |some true=>Uf P N ek o r (fun r' h'=>ih (rp d o (Im d o.op)) K r' h') h
  |some false=>zB N o undef r fun r'=>ih (rp d o .u) K r' h
  |none=>match DR ops o with
   |none=>False
   |some t=>match j5 r t with
    |some (.bool b)=>CondP b
     (FM P N ek ops o ((t,.t)::d) ((t,.bool true)::r) h fun d' r' h'=>ih d' K r' h')
     (FM P N ek ops o ((t,.f)::d) ((t,.bool false)::r) h fun d' r' h'=>ih d' K r' h')
    |_=>False) l
inductive DA where
 |done
 |take (i:Nat) (rest:DA)
 |all (l:DA)
 |pick (i:Nat) (rest more:DA)
 |last (i:Nat) (rest:DA)
 |lastT (i:Nat) (rest:DA)
 |split (t:Nat) (yes no:DA)
abbrev qt:=List (Nat×(ad→Prop))
def tb(m i:Nat):Bool:=bN (jz (Nat.shiftRight m i) 1) 1
def gM(i:Nat):Nat:=Nat.pow 2 i
inductive DM where
 |mk (am fr lk ds:Nat)
def DM.am:DM→Nat| .mk a _ _ _=>a
def DM.fr:DM→Nat| .mk _ f _ _=>f
def DM.lk:DM→Nat| .mk _ _ l _=>l
def DM.ds:DM→Nat| .mk _ _ _ d=>d
def jo(o:Oper)(i:Nat):Bool:=o.after.toList.any fun e=>bN e.on i&&Region.binds .any e
noncomputable def mr(l:List Edge):Nat:=
 fO (motive:=fun _=>Nat) 0 (fun e _ ih=>bif Region.binds .any e then cW (gM e.on) ih else ih) l
noncomputable def lK(l:List Operand):Nat:=
 fO (motive:=fun _=>Nat) 0 (fun o _ ih=>match o with| .tmp t=>cW (gM t) ih|_=>ih) l
def na(o:Oper):Nat:=match o.dst with|some d=>gM d|none=>0
noncomputable def nV(ops:List Oper)(o:Oper):Nat:=
 cW (lK o.op.operands.toList) (match o.guard with
  |some (g,_)=>(match ops[g]? with|some og=>na og|none=>0)
  |none=>0)
noncomputable def vH(ops:List Oper)(l:List Oper):List DM→Bool:=
 fO (motive:=fun _=>List DM→Bool) (fun ms=>match ms with| []=>true|_=>false)
  (fun o _ ih ms=>match ms with
   |m::ms=>bN (mr o.after.toList) m.am&&bN (nV ops o) m.lk&&bN (na o) m.ds&&ih ms
   | []=>false) l
def Bc(x y:DM):Bool:=bN (jz x.ds (cW y.lk y.ds)) 0&&bN (jz y.ds x.lk) 0
noncomputable def Gn(i:Nat)(m:DM)(l:List DM):Nat→Bool:=
 fO (motive:=fun _=>Nat→Bool) (fun _=>true)
  (fun n _ ih j=>(!(tb m.fr j)||bN j i||tb n.am i||Bc m n)&&ih (fY j)) l
noncomputable def zt(all:List DM)(l:List DM):Nat→Bool:=
 fO (motive:=fun _=>Nat→Bool) (fun _=>true) (fun m _ ih i=>Gn i m all 0&&ih (fY i)) l
def Jr:List Oper→Bool
 | []=>true
 |o::os=>(match o.op with| .select .. =>false| .defer _=>false|_=>true)&&Jr os
noncomputable def CG(ops:List Oper)(ms:List DM):Bool:=vH ops ops ms&&zt ms ms 0&&Jr ops
def rT(o:Oper):qt→qt
 | []=> []
 |(k,S)::l=>bif jo o k then rT o l else(k,S)::rT o l
def tP:qt→ad→Prop→Prop
 | [],_,R=>R
 |(_,S)::l,h,R=>S h∧tP l h R
def FU(m:DM)(ls:Nat):Bool:=bN (jz m.am ls) m.am
noncomputable def lP(ls:Nat)(l:List DM):Nat→List Nat:=
 fO (motive:=fun _=>Nat→List Nat) (fun _=> []) (fun m _ ih j=>bif !(tb ls j)&&FU m ls then j::ih (fY j)else ih (fY j)) l
def C7(m:DM)(i ls n:Nat):Bool:= !(tb ls i)&&FU m ls&&bN (jz (cW ls m.fr) (wy (gM n))) (wy (gM n))
def uy:List Nat→List Nat→Bool
 | [],[]=>true
 |a::as,b::bs=>bN a b&&uy as bs
 |_,_=>false
def A0:DA→List Nat
 | .pick i _ l=>i::A0 l
 | .last i _=> [i]
 | .lastT i _=> [i]
 |_=> []
noncomputable def Oj(P:Program)(N:Nat)(ops:List Oper)(i:Nat)(L:qt)(d:um)(r:cH)(h:ad)(K:qt→um→cH→ad→Prop):Prop:=
 match ops[i]? with
 |none=>False
 |some o=>match iZ ops d o with
  |some true=>bif vh P o.op then False else EP P o r (fun v h'=>zB N o v r fun r'=>tP (rT o L) h' (K (rT o L) (rp d o .x) r' h')) h
  |_=>False
noncomputable def Pm(m:Nat)(l:List DM):Nat→Nat:=
 fO (motive:=fun _=>Nat→Nat) (fun _=>m) (fun n _ ih j=>bif tb m j then cW n.am (ih (fY j))else ih (fY j)) l
noncomputable def zE(ms:List DM)(m:Nat):Nat:=Pm (Pm (Pm (Pm m ms 0) ms 0) ms 0) ms 0
def HR(ms:List DM)(i:Nat):Nat:=match ms[i]? with|some m=>m.am|none=>0
def y3(m:Nat):qt→qt
 | []=> []
 |(k,S)::l=>bif tb m k then y3 m l else(k,S)::y3 m l
noncomputable def Nd(P:Program)(N:Nat)(ops:List Oper)(ms:List DM)(i:Nat)(L:qt)(d:um)(r:cH)(h:ad)(K:qt→um→cH→ad→Prop):Prop:=
 match ops[i]? with
 |none=>False
 |some o=>match iZ ops d o with
  |some true=>bif vh P o.op then False else EP P o r (fun v h'=>zB N o v r fun r'=>tP (y3 (zE ms (HR ms i)) L) h' (K (y3 (zE ms (HR ms i)) L) (rp d o .x) r' h')) h
  |_=>False
noncomputable def mR(P:Program)(N:Nat)(ops:List Oper)(ms:List DM)(da:DA):Bool→Nat→qt→um→(cH→ad→Prop)→cH→ad→Prop:=
 DA.rec (motive:=fun _=>Bool→Nat→qt→um→(cH→ad→Prop)→cH→ad→Prop)
  (fun m ls _ _ K r h=>bif !m&&uy (lP ls ms 0) []then K r h else False)
  (fun i _ ih m ls L d K r h=>
   match ops[i]?,ms[i]? with
   |some o,some mi=>bif !m&&C7 mi i ls ops.length then
     (match iZ ops d o with
      |none=>False
      |some false=>zB N o undef r fun r'=>ih false (cW ls (gM i)) L (rp d o .u) K r' h
      |some true=>bif vh P o.op then
       AN P none o.op r (fun v S=>zB N o v r fun r'=>match S with
        |none=>ih false (cW ls (gM i)) L (rp d o (Im d o.op)) K r' h
        |some S=>ih false (cW ls (gM i)) ((i,S)::L) (rp d o (Im d o.op)) K r' h) h
       else False)
    else False
   |_,_=>False)
  (fun l ih m ls L d K r h=>bif !m&&uy (lP ls ms 0) (A0 l)then ih true ls L d K r h else False)
  (fun i _ _ ih1 ih2 m ls L d K r h=>bif m then Oj P N ops i L d r h (fun L' d' r' h'=>ih1 false (cW ls (gM i)) L' d' K r' h')∧ih2 true ls L d K r h else False)
  (fun i _ ih m ls L d K r h=>bif m then Oj P N ops i L d r h (fun L' d' r' h'=>ih false (cW ls (gM i)) L' d' K r' h')else False)
  (fun i _ ih m ls L d K r h=>bif m then Nd P N ops ms i L d r h (fun L' d' r' h'=>ih false (cW ls (gM i)) L' d' K r' h')else False)
  (fun t _ _ ih1 ih2 m ls L d K r h=>
   bif m then False else match j5 r t with
   |some (.bool b)=>CondP b (ih1 false ls L ((t,.t)::d) K ((t,.bool true)::r) h) (ih2 false ls L ((t,.f)::d) K ((t,.bool false)::r) h)
   |_=>False)
  da
noncomputable def Vp(_o:Oper)(i:Nat)(ds lk:Nat)(ops:List Oper)(l:List Oper):Nat→Nat:=
 fO (motive:=fun _=>Nat→Nat) (fun _=>0) (fun p _ ih j=>bif (bN j i||jo p i||(bN (jz ds (cW (nV ops p) (na p))) 0&&bN (jz (na p) lk) 0))then cW (gM j) (ih (fY j))else ih (fY j)) l
noncomputable def Vn(ops:List Oper)(l:List Oper):Nat→List DM:=
 fO (motive:=fun _=>Nat→List DM) (fun _=> []) (fun o _ ih i=>.mk (mr o.after.toList) (Vp o i (na o) (nV ops o) ops ops 0) (nV ops o) (na o)::ih (fY i)) l
def Um(P:Program)(w:Option Bool)(o:Oper):Bool:=match w with|some false=>true|some true=>vh P o.op|none=>false
noncomputable def TU(P:Program)(ops:List Oper)(d:um)(ls n:Nat)(l:List Oper):List DM→Nat→Option (Nat×Oper):=
 fO (motive:=fun _=>List DM→Nat→Option (Nat×Oper)) (fun _ _=>none)
  (fun o _ ih ms j=>match ms with
   | []=>none
   |m::ms=>bif C7 m j ls n&&Um P (iZ ops d o) o then some (j,o)else ih ms (fY j)) l
noncomputable def TV(ops:List Oper)(d:um)(ls:Nat)(l:List Oper):List DM→Nat→Option Nat:=
 fO (motive:=fun _=>List DM→Nat→Option Nat) (fun _ _=>none)
  (fun o _ ih ms j=>match ms with
   | []=>none
   |m::ms=>match bif !(tb ls j)&&FU m ls then(match iZ ops d o with|none=>DR ops o|some _=>none)else none with
    |some t=>some t
    |none=>ih ms (fY j)) l
noncomputable def UI(ops:List Oper)(k:Nat→um→DA)(ls:Nat)(d:um)(l:List Nat):DA:=
 fO (motive:=fun _=>DA) .done (fun i rest ih=>match ops[i]? with
  |none=>.done
  |some o=>match rest with
   | []=>.last i (k (cW ls (gM i)) (rp d o .x))
   |_=>.pick i (k (cW ls (gM i)) (rp d o .x)) ih) l
noncomputable def T7(P:Program)(ops:List Oper)(ms:List DM)(fuel:Nat):Nat→um→DA:=
 Nat.rec (motive:=fun _=>Nat→um→DA) (fun _ _=>.done) (fun _ ih ls d=>
  match TU P ops d ls ops.length ops ms 0 with
  |some (i,o)=>.take i (ih (cW ls (gM i)) (match iZ ops d o with|some false=>rp d o .u|_=>rp d o (Im d o.op)))
  |none=>match TV ops d ls ops ms 0 with
   |some t=>.split t (ih ls ((t,.t)::d)) (ih ls ((t,.f)::d))
   |none=>match lP ls ms 0 with
    | []=>.done
    |l=>.all (UI ops ih ls d l)) fuel
noncomputable def Nq(ops:List Oper):List DM:=Vn ops ops 0
inductive Ex where
 |exit (id:Nat)
 |ret
abbrev St:=List (Nat×Kind)
def xS:St→List Kind
 | []=> []
 |(_,k)::l=>k::xS l
noncomputable def Db(r:cH):St→Option (List Value)
 | []=>some []
 |(i,_)::l=>match j5 r i,Db r l with
  |some v,some vs=>some (v::vs)
  |_,_=>none
noncomputable def BC(st:St)(r:cH)(f:cL (xS st)→Prop):Prop:=
 match Db r st with
 |some vs=>Cm (xS st) vs f
 |none=>False
def m7:St→List Value→cH→cH
 |(i,_)::l,v::vs,r=>(i,v)::m7 l vs r
 |_,_,r=>r
noncomputable def Ny(r:cH)(l:List Nat):Option cH:=
 fO (motive:=fun _=>Option cH) (some []) (fun t _ ih=>match j5 r t,ih with
  |some v,some l=>some ((t,v)::l)
  |_,_=>none) l
noncomputable def lH(t:Nat)(l:List Oper):Bool:=
 fO (motive:=fun _=>Bool) false (fun o _ ih=>match o.dst with|some d=>bif bN d t then true else ih|none=>ih) l
noncomputable def gq(t:Nat)(c:Code):Bool:=
 Code.rec (motive:=fun _=>Bool) false (fun _ ops _=>lH t ops.toList) (fun _ _ a b=>bif a then true else b) (fun _ _ _ a b=>bif a then true else b)
  (fun _ _ b=>b) (fun _ b=>b) (fun _ _ _ _ _ _=>true) (fun _=>false) (fun _ b=>b) (fun _=>false) (fun _=>false) false (fun _=>false) c
inductive Ann where
 |nil
 |node (a b:Ann)
 |join (st:St) (a b:Ann)
 |loop (st:St) (b:Ann)
 |draw (d:DA)
 |kinds (k v:Kind)
 |reg (keep:List Nat) (inner:Ann)
 |rf (ks:List Kind) (a b:Ann)
def Ann.l:Ann→Ann
 | .node a _=>a
 | .rf _ a _=>a
 |_=>.nil
def Ann.r:Ann→Ann
 | .node _ b=>b
 | .rf _ _ b=>b
 |_=>.nil
noncomputable def PC(l:List Oper):Nat:=fO (motive:=fun _=>Nat) 0 (fun o _ ih=>cW (na o) ih) l
def UK:Option Nat→Option Nat→Option Nat
 |some a,some b=>some (cW a b)
 |_,_=>none
noncomputable def xe(c:Code):Option Nat:=
 Code.rec (motive:=fun _=>Option Nat) (some 0) (fun _ ops _=>some (PC ops.toList)) (fun _ _ a b=>UK a b) (fun _ _ _ a b=>UK a b)
  (fun _ _ b=>b) (fun _ b=>b) (fun _ _ _ _ _ _=>none) (fun _=>some 0) (fun _ b=>b) (fun _=>some 0) (fun _=>some 0) (some 0) (fun _=>some 0) c
noncomputable def vL(m:Nat)(r:cH):cH:=fO (motive:=fun _=>cH) [] (fun kv _ ih=>bif tb m kv.1 then ih else kv::ih) r
noncomputable def AF(P:Program)(N:Nat)(ops:List Oper)(dr:Bool)(an:Ann)(Kn:cH→ad→Prop)(r:cH)(h:ad):Prop:=
 match dr with
 |false=>(match an with
  | .kinds kk vk=>Dh P N (some (kk,vk)) ops ops [] Kn r h
  |_=>Dh P N none ops ops [] Kn r h)
 |true=>bif CG ops (Nq ops)then mR P N ops (Nq ops) (match an with| .draw da=>da|_=>T7 P ops (Nq ops) (Nat.add (Nat.add ops.length ops.length) 2) 0 []) false 0 [] [] Kn r h else False
noncomputable def lf(P:Program)(N:Nat)(c:Code):Ann→(cH→ad→Prop)→(Ex→cH→ad→Prop)→cH→ad→Prop:=
 Code.rec (motive:=fun _=>Ann→(cH→ad→Prop)→(Ex→cH→ad→Prop)→cH→ad→Prop)
  (fun _ Kn _ r h=>Kn r h)
  (fun _ ops dr an Kn _ r h=>match an with
   | .reg keep an=>AF P N ops.toList dr an (fun r' h'=>match Ny r' keep with|some r0=>Kn r0 h'|none=>False) r h
   |an=>AF P N ops.toList dr an Kn r h)
  (fun a _ iha ihb an Kn Kx r h=>match an with
   | .join st aa ab=>(match xe a with
     |none=>False
     |some m=>Join (T:=cL (xS st)) (fun t h'=>ihb ab Kn Kx (m7 st (mX (xS st) t) (vL m r)) h')
      fun J=>iha aa (fun r' h'=>BC st r' fun t=>J t h') Kx r h)
   |an=>iha an.l (fun r' h'=>ihb an.r Kn Kx r' h') Kx r h)
  (fun c _ _ iha ihb an Kn Kx r h=>match dM r c with
   |some (.bool t)=>CondP t (iha an.l Kn Kx r h) (ihb an.r Kn Kx r h)
   |_=>False)
  (fun id _ ih an Kn Kx r h=>ih an Kn (fun e r' h'=>match e with
    | .exit i=>bif bN i id then Kn r' h' else Kx (.exit i) r' h'
    | .ret=>Kx .ret r' h') r h)
  (fun b ih an _ Kx r h=>match an with
   | .loop st ab=>(match xe b with
     |none=>False
     |some m=>BC st r fun t0=>LoopP (T:=cL (xS st)) (fun self t h'=>ih ab (fun r' h''=>BC st r' fun t'=>self t' h'') Kx (m7 st (mX (xS st) t) (vL m r)) h') t0 h)
   |_=>False)
  (fun _ _ _ _ _ _ _ _ _ _ _=>False)
  (fun id _ _ Kx r h=>Kx (.exit id) r h)
  (fun _ _ _ _ _ _ _=>False)
  (fun _ _ Kn _ r h=>Kn r h)
  (fun _ _ _ _ _ _=>False)
  (fun _ _ Kx r h=>Kx .ret r h)
  (fun _ _ _ _ _ _=>False)
  c
noncomputable def m8(P:Program)(r:cH)(h:ad):List ResultVar→(List Value→Prop)→Prop
 | [],K=>K []
 | .tmp t::l,K=>(match j5 r t with|some v=>m8 P r h l fun vs=>K (v::vs)|none=>False)
 | .cell a t::l,K=>(match j5 r a with
  |some v=>I6 P t v (fun x _=>m8 P r h l fun vs=>K (x::vs)) h
  |none=>False)
def pT:Nat→List Value→cH
 |_,[]=> []
 |i,v::vs=>(i,v)::pT (i+1) vs
noncomputable def Nf(P:Program)(fn:Func)(c:Code)(an:Ann)(args:List Value)(ks:List Kind)(K:cL ks→ad→Prop)(h:ad):Prop:=
 lf P fn.ntmps c an
  (fun r h'=>m8 P r h' fn.results.toList fun vs=>Cm ks vs fun t=>K t h')
  (fun e r h'=>match e with
   | .ret=>m8 P r h' fn.results.toList fun vs=>Cm ks vs fun t=>K t h'
   | .exit _=>False)
  (pT 0 args) h
noncomputable def rh(c:Code):Bool:=
 Code.rec (motive:=fun _=>Bool) false (fun _ _ _=>false) (fun _ _ a b=>bif a then true else b) (fun _ _ _ a b=>bif a then true else b)
  (fun _ _ b=>b) (fun _ b=>b) (fun _ _ _ _ _ _=>true) (fun _=>false) (fun _ b=>b) (fun _=>false) (fun _=>false) false (fun _=>false) c
def Hz:Option Ex→Option Code
 |none=>none
 |some (.exit i)=>some (.exit i)
 |some .ret=>some .ret
def Vq(N:ad→Prop)(X:Nat→ad→Prop)(R:ad→Prop):Option Ex→ad→Prop
 |none=>N
 |some (.exit i)=>X i
 |some .ret=>R
structure RangeP(P:Program)(fv:Value)(ks:List Kind)(h:ad)(RT:Obj→Obj→cL ks→(Option Ex→ad→Prop)→ad→Prop)(N:ad→Prop)(X:Nat→ad→Prop)(R:ad→Prop):Prop where
 run:∀lo:LoopState→Option Ex→Obj,(∀s j,∃r,lo s j=.loop r)→
  (∀x h' K,h'[h.size+1]? =some (lo .ready none)→
   RT (lo .ready none) (lo .busy none) x (fun j h2=>h2[h.size+1]? =some (lo .busy none)∧K j.isNone (h2.setIfInBounds (h.size+1) (lo (if j.isNone then .ready else .done) j))) h'→
   HV P (.func (.yield (h.size+1)) #[] #[]) (mX ks x) [.c .bool] K h')→
  ∃f first cap,fv=.func (.func f) first cap∧HE P f (first.toList++ [.func (.yield (h.size+1)) #[] #[]]++cap.toList) []
   (fun _ h2=>∃s j,s≠ .busy∧h2[h.size+1]? =some (lo s j)∧Vq N X R j (h2.setIfInBounds (h.size+1) (lo .exhausted j))) ((h.push (.deferred (some []))).push (lo .ready none))
def RF:List Nat→List Value→cH→cH
 |i::l,v::vs,r=>RF l vs ((i,v)::r)
 |_,_,r=>r
noncomputable def K9(P:Program)(N:Nat)(ps:List Nat)(ks:List Kind)(assign body:Code)(an:Ann)(r:cH)(l:Nat)(FU bz:Obj)(x:cL ks)(k:Option Ex→ad→Prop)(h:ad):Prop:=
 lf P N assign an.l (fun r1 h1=>h1[l]? =some FU∧lf P N body an.r (fun _ h2=>k none h2) (fun e _ h2=>k (some e) h2) r1 (h1.setIfInBounds l bz)) (fun _ _ _=>False) (RF ps (mX ks x) r) h
def x7(N:Nat):List Nat→Bool
 | []=>true
 |n::l=>Nat.blt n N&&x7 N l
noncomputable def xX(P:Program)(N:Nat)(c:Code):Ann→(List Nat→cH→ad→Prop)→(Ex→List Nat→cH→ad→Prop)→List Nat→cH→ad→Prop:=
 Code.rec (motive:=fun _=>Ann→(List Nat→cH→ad→Prop)→(Ex→List Nat→cH→ad→Prop)→List Nat→cH→ad→Prop)
  (fun an Kn Kx ms r h=>lf P N .skip an (Kn ms) (fun e=>Kx e ms) r h)
  (fun id ops dr an Kn Kx ms r h=>lf P N (.region id ops dr) an (Kn ms) (fun e=>Kx e ms) r h)
  (fun a b iha ihb an Kn Kx ms r h=>bif (bif rh a then true else rh b)then iha an.l (fun ms r' h'=>ihb an.r Kn Kx ms r' h') Kx ms r h
   else lf P N (.seq a b) an (Kn ms) (fun e=>Kx e ms) r h)
  (fun c a b iha ihb an Kn Kx ms r h=>bif (bif rh a then true else rh b)then
    (match dM r c with
     |some (.bool t)=>CondP t (iha an.l Kn Kx ms r h) (ihb an.r Kn Kx ms r h)
     |_=>False)
   else lf P N (.cond c a b) an (Kn ms) (fun e=>Kx e ms) r h)
  (fun id b ih an Kn Kx ms r h=>bif rh b then ih an Kn (fun e ms r' h'=>match e with
    | .exit i=>bif bN i id then Kn ms r' h' else Kx (.exit i) ms r' h'
    | .ret=>Kx .ret ms r' h') ms r h
   else lf P N (.block id b) an (Kn ms) (fun e=>Kx e ms) r h)
  (fun b _ an Kn Kx ms r h=>lf P N (.loop b) an (Kn ms) (fun e=>Kx e ms) r h)
  (fun g ps assign body _ _ an Kn Kx ms r h=>match an with
   | .rf ks aa ab=>bif x7 N ps.toList&&bN ps.toList.length ks.length then
    (match dM r g with
     |some fv=>RangeP P fv ks h (fun FU bz x k h'=>K9 P N ps.toList ks assign body (.node aa ab) r (h.size+1) FU bz x k h')
      (fun h'=>Kn (h.size::ms) r h') (fun i h'=>Kx (.exit i) (h.size::ms) r h') (fun h'=>Kx .ret (h.size::ms) r h')
     |none=>False)else False
   |_=>False)
  (fun id an Kn Kx ms r h=>lf P N (.exit id) an (Kn ms) (fun e=>Kx e ms) r h)
  (fun _ _ _ _ _ _ _ _=>False)
  (fun l an Kn Kx ms r h=>lf P N (.label l) an (Kn ms) (fun e=>Kx e ms) r h)
  (fun _ _ _ _ _ _ _=>False)
  (fun an Kn Kx ms r h=>lf P N .ret an (Kn ms) (fun e=>Kx e ms) r h)
  (fun _ _ _ _ _ _ _=>False)
  c
def Nc:List Nat→(ad→Prop)→ad→Prop
 | [],K,h=>K h
 |D::ms,K,h=>h[D]? =some (.deferred (some []))∧Nc ms K (h.setIfInBounds D (.deferred none))
noncomputable def La(P:Program)(fn:Func)(c:Code)(an:Ann)(args:List Value)(ks:List Kind)(K:cL ks→ad→Prop)(h:ad):Prop:=
 xX P fn.ntmps c an
  (fun ms r h'=>Nc ms (fun h'=>m8 P r h' fn.results.toList fun vs=>Cm ks vs fun t=>K t h') h')
  (fun e ms r h'=>match e with
   | .ret=>Nc ms (fun h'=>m8 P r h' fn.results.toList fun vs=>Cm ks vs fun t=>K t h') h'
   | .exit _=>False)
  [] (pT 0 args) h
end Go.Lift
namespace Go.Lift
open Go
theorem Eg(a:Addr):adr a 0=a:=rfl
theorem zK(a:Addr)(n:Nat):adr a (n+1)=⟨a.block,a.off+(n+1),none⟩:=rfl
theorem tC(a:Addr)(n:Nat):adr a n=a.add n:=by
 cases n with
 |zero=>simp[Eg,Addr.add]
 |succ n=>simp[zK,Addr.add]
theorem zL(a:Addr)(m n:Nat):adr (adr a m) n=adr a (m+n):=by
 cases n with
 |zero=>rfl
 |succ n=>cases m with
  |zero=>simp[Eg]
  |succ m=>rw[zK,zK,show m+1+(n+1)=(m+1+n)+1 from rfl,zK];simp;omega
theorem Tame.refl(w:World):Tame w w:=⟨rfl,rfl,rfl⟩
theorem Tame.trans{a b c:World}(h:Tame a b)(k:Tame b c):Tame a c:=⟨k.os.trans h.os,k.tape.trans h.tape,k.output.trans h.output⟩
theorem zo{a b:IntKind}(h:Hu a b=true):a=b:=by cases a<;>cases b<;>first|rfl|cases h
theorem CK.dec_sound{c:CK}{v:Value}{f:c.den→Prop}(h:c.dec v f):∃x,v=c.enc x∧f x:=by
 cases c<;>cases v<;>try simp only[CK.dec]at h
 case int.int k k' n=>
  cases hk:Hu k' k with
  |false=>rw[hk]at h;exact h.elim
  |true=>rw[hk]at h;have:=zo hk;subst this;exact⟨n,rfl,h⟩
 case adr.pointer p=>cases p with
  |none=>exact h.elim
  |some a=>exact⟨a,rfl,h⟩
 all_goals first|exact h.elim|exact⟨_,rfl,h⟩
theorem BT:∀{cs:List CK} {vs:List Value} {f:Rl cs→Prop},NQ cs vs f→∃t,vs=QV cs t∧f t
 | [],[],f,h=>⟨(),rfl,h⟩
 | [],_::_,f,h=>h.elim
 | [c],[v],f,h=>by obtain⟨x,rfl,hf⟩:=CK.dec_sound h;exact⟨x,rfl,hf⟩
 | [c],[],f,h=>h.elim
 | [c],_::_::_,f,h=>h.elim
 |c::d::cs,[],f,h=>h.elim
 |c::d::cs,[_],f,h=>h.elim
 |c::d::cs,v::u::vs,f,h=>by
  have h0:c.dec v fun x=>NQ (d::cs) (u::vs) fun t=>f (x,t):=h
  obtain⟨x,hx,h1⟩:=CK.dec_sound h0;obtain⟨t,ht,h2⟩:=BT (cs:=d::cs) (vs:=u::vs) h1;exact⟨(x,t),by rw[ht,hx];rfl,h2⟩
theorem Kind.dec_sound{k:Kind}{v:Value}{f:k.den→Prop}(h:k.dec v f):∃x,v=k.enc x∧f x:=by
 cases k with
 |c k=>exact CK.dec_sound h
 |agg cs=>
  cases v<;>simp only[Kind.dec]at h
  case agg vs=>
   obtain⟨t,ht,hf⟩:=BT h;exact⟨t,by simp only[Kind.enc,←ht],hf⟩
theorem rm:∀{ks:List Kind} {vs:List Value} {f:cL ks→Prop},Cm ks vs f→∃t,vs=mX ks t∧f t
 | [],[],f,h=>⟨(),rfl,h⟩
 | [],_::_,f,h=>h.elim
 | [c],[v],f,h=>by obtain⟨x,rfl,hf⟩:=Kind.dec_sound h;exact⟨x,rfl,hf⟩
 | [c],[],f,h=>h.elim
 | [c],_::_::_,f,h=>h.elim
 |c::d::cs,[],f,h=>h.elim
 |c::d::cs,[_],f,h=>h.elim
 |c::d::cs,v::u::vs,f,h=>by
  have h0:c.dec v fun x=>Cm (d::cs) (u::vs) fun t=>f (x,t):=h
  obtain⟨x,hx,h1⟩:=Kind.dec_sound h0;obtain⟨t,ht,h2⟩:=rm (ks:=d::cs) (vs:=u::vs) h1;exact⟨(x,t),by rw[ht,hx];rfl,h2⟩
theorem r9:∀(ks:List Kind) (t:cL ks),(mX ks t).length=ks.length
 | [],_=>rfl
 | [_],_=>rfl
 |_::l::ks,(_,t)=>by simp only[mX,az,r9 (l::ks) t]
structure Agree(N:Nat)(r:cH)(a:Act):Prop where
 size:a.tmps.size=N
 look:∀t v,j5 r t=some v→a.tmps.getD t undef=v
theorem iE(k:Nat)(v:Value)(r:cH):j5 ((k,v)::r) k=some v:=by rw[Dq,show bN k k=true from Nat.beq_refl k];rfl
theorem gO{k t:Nat}(v:Value)(r:cH)(h:k≠t):j5 ((k,v)::r) t=j5 r t:=by
 rw[Dq];have:bN k t=false:=Bool.eq_false_iff.2 fun e=>h (aX e)
 rw[this];rfl
theorem Agree.put{N:Nat}{r:cH}{a:Act}(h:Agree N r a)(d:Nat)(v:Value)(hd:d<N):Agree N ((d,v)::r) (a.put (some d) v):=by
 refine⟨by simp[Act.put,h.size],fun t u hu=>?_⟩
 by_cases e:d=t
 ·subst e
  rw[iE]at hu;cases hu;simp[Act.put,h.size,hd]
 ·rw[gO v r e]at hu
  have:=h.look t u hu;simpa[Act.put,Array.getElem?_setIfInBounds_ne e]using this
theorem Agree.known{N:Nat}{r:cH}{a:Act}(h:Agree N r a){t:Nat}{v:Value}(hv:j5 r t=some v):Agree N ((t,v)::r) a:=by
 refine⟨h.size,fun s u hu=>?_⟩
 by_cases e:t=s
 ·subst e;rw[iE]at hu;cases hu;exact h.look t v hv
 ·rw[gO v r e]at hu;exact h.look s u hu
theorem lO{N:Nat}{r:cH}{a:Act}(h:Agree N r a){o:Operand}{v:Value}(hv:dM r o=some v):a.eval o=v:=by
 cases o with
 |tmp t=>exact h.look t v hv
 |const c=>simp[dM]at hv;subst hv;rfl
 |global g=>simp[dM]at hv;subst hv;rfl
 |func f=>simp[dM]at hv;subst hv;rfl
theorem oh{N:Nat}{r:cH}{a:Act}(h:Agree N r a):∀{os:List Operand} {vs:List Value},qk r os=some vs→os.map a.eval=vs
 | [],vs,hv=>by simp[qk]at hv;subst hv;rfl
 |o::os,vs,hv=>by
  simp only[qk]at hv;cases ho:dM r o with
  |none=>simp[ho]at hv
  |some v=>cases hos:qk r os with
   |none=>simp[ho,hos]at hv
   |some us=>simp[ho,hos]at hv;subst hv;simp[lO h ho,oh h hos]
theorem aB{P:Program}{t:TypeId}{d:TypeDesc}(h:P.underlying t=some d)(w:World):(underlying t).run P w=.ok d w:=by
 simp only[underlying,program,bind,Sem.bind,Sem.run,h,pure]
theorem cU{P:Program}{t:TypeId}{i:TypeInfo}(h:P.info? t=some i)(w:World):(typeInfo t).run P w=.ok i w:=by
 simp only[typeInfo,program,bind,Sem.bind,Sem.run,h,pure]
theorem je{P:Program}{s:Sem Value}{v:Value}{w w':World}(h:s.run P w=.ok v w'):(do pure (Next.value (←s)):Sem Next).run P w=.ok (.value v) w':=by
 simp[h]
theorem P3{P:Program}{s:Sem Unit}{w w':World}(h:s.run P w=.ok () w'):(do s;pure Next.skip:Sem Next).run P w=.ok .skip w':=by
 simp[h]
theorem yZ{P:Program}{w:World}{a:Addr}{v:Value}(h:aE w.heap a=some v):(load a).run P w=.ok v w:=by
 have h':w.cell? a=some v:=h;simp[h']
theorem zG{v:Value}{vs:List Value}{i:Nat}{a:Addr}{h:ad}:sd (v::vs) i a h↔aE h (adr a i)=some v∧sd vs (i+1) a h:=by
 cases vs with
 |nil=>simp[sd]
 |cons u us=>rfl
theorem rS{P:Program}{w:World}{a:Addr}:∀(vs:List Value) (i:Nat) (acc:Array Value),sd vs i a w.heap→
  (loadCellsFrom a i vs.length acc).run P w=.ok (acc++vs.toArray) w
 | [],i,acc,_=>by simp[loadCellsFrom]
 |v::vs,i,acc,h=>by
  obtain⟨h1,h2⟩:=zG.1 h;rw[tC]at h1;have:=rS (P:=P) (w:=w) (a:=a) vs (i+1) (acc.push v) h2;simp only[az,loadCellsFrom,Sem.run_bind,yZ h1,Result.andThen_ok,this];simp
theorem EV{P:Program}{w:World}{a:Addr}{vs:List Value}(h:sd vs 0 a w.heap):(loadCells a vs.length).run P w=.ok vs.toArray w:=by
 have:=rS (P:=P) (w:=w) (a:=a) vs 0 #[] h;simpa[loadCells]using this
theorem xo:∀(cs:List CK) (i:Nat) (a:Addr) (h:ad) (k:List Value→Prop),HA cs i a h k→∃vs,vs.length=cs.length∧sd vs i a h∧k vs
 | [],i,a,h,k,hk=>⟨[],rfl,trivial,hk⟩
 |c::cs,i,a,h,k,hk=>by
  obtain⟨x,hx,hk⟩:=hk;obtain⟨vs,hl,hc,hk⟩:=xo cs (i+1) a h _ hk;exact⟨c.enc x::vs,by simp[hl],zG.2 ⟨hx,hc⟩,hk⟩
theorem zF:∀{vs:List Value} {cs:List CK},D4 vs=some cs→cs.length=vs.length
 | [],cs,h=>by simp[D4]at h;subst h;rfl
 |v::vs,cs,h=>by
  simp only[D4]at h;cases h1:TZ v with
  |none=>simp[h1]at h
  |some c=>cases h2:D4 vs with
   |none=>simp[h1,h2]at h
   |some ds=>simp[h1,h2]at h;subst h;simp[zF h2]
def Re(P:Program)(t:TypeId)(i:TypeInfo):Kind→Prop
 | .c _=>uS P t=false
 | .agg cs=>uS P t=true∧i.size=cs.length
theorem LN{P:Program}{t:TypeId}{k:Kind}(h:Nw P t=some k):∃i,P.info? t=some i∧Re P t i k:=by
 unfold Nw xb at h;cases hi:P.info? t with
 |none=>simp[hi]at h
 |some i=>
  refine⟨i,rfl,?_⟩;cases hz:i.zero with
  |none=>simp[hi,hz]at h
  |some z=>
   rw[hi]at h;simp only[hz]at h;cases z;case agg vs=>
    simp only at h;cases hb:(uS P t&&bN vs.toList.length (bZ P t))with
    |false=>rw[hb]at h;simp at h
    |true=>
     rw[hb]at h;simp only[cond_true]at h;simp only[Bool.and_eq_true]at hb;have hs:=aX hb.2;cases hd:D4 vs.toList with
     |none=>rw[hd]at h;simp at h
     |some ds=>
      rw[hd]at h;simp only[bK.injEq]at h;subst h;exact⟨hb.1,by rw[zF hd,hs];simp[bZ,hi]⟩
   all_goals
    simp only at h;cases ha:uS P t
    ·rw[ha]at h
     simp only[cond_false]at h;split at h
     ·simp only[bK.injEq]at h;subst h;exact ha
     ·simp at h
    ·rw[ha]at h;simp at h
theorem LO{P:Program}{t:TypeId}{k:Kind}(h:DH P t=some k):(∀w,(isAgg t).run P w=.ok (uS P t) w)∧Nw P t=some k:=by
 unfold DH at h;cases hu:P.underlying t with
 |none=>simp[hu]at h
 |some d=>
  simp only[hu]at h;refine⟨fun w=>?_,h⟩
  simp only[isAgg,Sem.run_bind,aB hu,Result.andThen_ok];unfold uS;rw[hu];cases d<;>rfl
theorem BG{P:Program}{t:TypeId}{v:Value}{K:RK}{h:ad}(hl:I6 P t v K h):
  ∃u S,K u (some S)∧S h∧∀w:World,S w.heap→(Instr.loadAt t v).run P w=.ok u w:=by
 unfold I6 at hl;cases v with
 |pointer p=>
  cases p with
  |none=>exact hl.elim
  |some a=>
   simp only at hl;cases hk:DH P t with
   |none=>simp[hk]at hl
   |some k=>
    obtain⟨hagg,hz⟩:=LO hk;obtain⟨i,hi,hc⟩:=LN hz;rw[hk]at hl;cases k with
    |c c=>
     obtain⟨x,hx,hK⟩:=hl;refine⟨_,_,hK,hx,fun w hw=>?_⟩
     have hc:uS P t=false:=hc;simp only[Instr.loadAt,Instr.sureAddr,loadVar,Sem.run_bind,Sem.run_pure,Result.andThen_ok,hagg,hc];simp[yZ hw]
    |agg cs=>
     obtain⟨vs,hlen,hcs,hK⟩:=xo cs 0 a h _ hl;obtain⟨h1,h2⟩:uS P t=true∧i.size=cs.length:=hc;refine⟨_,_,hK,hcs,fun w hw=>?_⟩
     have hz:(sizeOf t).run P w=.ok vs.length w:=by simp[sizeOf,cU hi,h2,hlen]
     simp only[Instr.loadAt,Instr.sureAddr,loadVar,Sem.run_bind,Sem.run_pure,Result.andThen_ok,hagg,h1];simp[hz,EV hw]
 |_=>exact hl.elim
end Go.Lift
