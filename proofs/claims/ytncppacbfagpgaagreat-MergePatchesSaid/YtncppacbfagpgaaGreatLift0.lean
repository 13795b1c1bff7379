/- A part of the proof that the named laws of this program answer true, whatever the input. -/
import Derived.OrdersIn
import Derived.Below
import Derived.WalkKit
import Derived.RangeFuncRecord
open BitVec renaming ofInt→ar
open Iff renaming rfl→w9
open List renaming rec→f9,replicate→kT,length_cons→ak
open Nat renaming succ→gr,beq→bS,ble→yD,min→dZ,land→ki,lor→db,pred→yn,eq_of_beq_eq_true→aY
open Option renaming some→bR
namespace Go.Lift
abbrev ad:=Array Obj
def aS(h:ad)(a:Addr):Option Value:=
 match h[a.block]? with
 |some (.cells c _ _)=>if a.spot.isSome then none else c[a.off]?
 |_=>none
def En(h:ad)(a:Addr):Bool:=
 match h[a.block]? with
 |some (.cells _ _ (lo,hi))=>lo≤a.off&&a.off<hi
 |_=>false
def hset(h:ad)(a:Addr)(v:Value):ad:=
 h.modify a.block fun
  | .cells c elem frozen=>.cells (if a.spot.isSome then c else c.setIfInBounds a.off v) elem frozen
  |o=>o
noncomputable def adr(a:Addr)(n:Nat):Addr:=Nat.rec (motive:=fun _=>Addr) a (fun n _=>⟨a.block,a.off+gr n,none⟩) n
def Wr(h:ad)(a:Addr):Prop:=(∃v,aS h a=some v)∧En h a=false
structure Tame(w w':World):Prop where
 os:w'.os=w.os
 tape:w'.tape=w.tape
 output:w'.output=w.output
structure SliceV where
 a:Option Addr
 len:Nat
 cap:Nat
def IS:IntKind→IntKind→Bool
 | .i8,.i8=>true| .i16,.i16=>true| .i32,.i32=>true| .i64,.i64=>true
 | .u8,.u8=>true| .u16,.u16=>true| .u32,.u32=>true| .u64,.u64=>true
 |_,_=>false
inductive CK where
 |int (k:IntKind)|bool|str|ptr|slice|map|chan|raw|adr
def CK.den:CK→Type
 | .int _=>Int| .bool=>Bool| .str=>ByteArray| .ptr=>Option Addr| .slice=>SliceV| .map=>Option Nat| .chan=>Option Nat| .raw=>Value| .adr=>Addr
def CK.enc:(c:CK)→c.den→Value
 | .int k,n=>.int k n
 | .bool,b=>.bool b
 | .str,s=>.string s
 | .ptr,p=>.pointer p
 | .slice,s=>.slice s.a s.len s.cap
 | .map,r=>.map r
 | .chan,r=>.chan r
 | .raw,v=>v
 | .adr,a=>.pointer (some a)
def CK.dec:(c:CK)→Value→(c.den→Prop)→Prop
 | .int k,.int k' n,f=>bif IS k' k then f n else False
 | .bool,.bool b,f=>f b
 | .str,.string s,f=>f s
 | .ptr,.pointer p,f=>f p
 | .slice,.slice a l c,f=>f ⟨a,l,c⟩
 | .map,.map r,f=>f r
 | .chan,.chan r,f=>f r
 | .raw,v,f=>f v
 | .adr,.pointer (some a),f=>f a
 |_,_,_=>False
def Sh:List CK→Type
 | []=>Unit
 | [c]=>c.den
 |c::d::cs=>c.den×Sh (d::cs)
def RQ:(cs:List CK)→Sh cs→List Value
 | [],_=> []
 | [c],x=> [c.enc x]
 |c::d::cs,(x,t)=>c.enc x::RQ (d::cs) t
def OV:(cs:List CK)→List Value→(Sh cs→Prop)→Prop
 | [],[],f=>f ()
 | [c],[v],f=>c.dec v f
 |c::d::cs,v::u::vs,f=>c.dec v fun x=>OV (d::cs) (u::vs) fun t=>f (x,t)
 |_,_,_=>False
inductive Kind where
 |c (k:CK)
 |agg (cs:List CK)
def Kind.den:Kind→Type
 | .c k=>k.den
 | .agg cs=>Sh cs
def Kind.enc:(k:Kind)→k.den→Value
 | .c k,x=>k.enc x
 | .agg cs,t=>.agg (RQ cs t).toArray
def Kind.dec:(k:Kind)→Value→(k.den→Prop)→Prop
 | .c k,v,f=>k.dec v f
 | .agg cs,.agg vs,f=>OV cs vs.toList f
 |_,_,_=>False
def cQ:List Kind→Type
 | []=>Unit
 | [k]=>k.den
 |k::l::ks=>k.den×cQ (l::ks)
def oH:(ks:List Kind)→cQ ks→List Value
 | [],_=> []
 | [k],x=> [k.enc x]
 |k::l::ks,(x,t)=>k.enc x::oH (l::ks) t
def D4:(ks:List Kind)→List Value→(cQ ks→Prop)→Prop
 | [],[],f=>f ()
 | [k],[v],f=>k.dec v f
 |k::l::ks,v::u::vs,f=>k.dec v fun x=>D4 (l::ks) (u::vs) fun t=>f (x,t)
 |_,_,_=>False
def E5(ks:List Kind)(vs:List Value):Value:=
 match ks,vs with
 | [_],[v]=>v
 |_,vs=>.tuple vs.toArray
def UH:Value→Option CK
 | .int k _=>some (.int k)
 | .bool _=>some .bool
 | .string _=>some .str
 | .pointer _=>some .ptr
 | .slice .. =>some .slice
 | .map _=>some .map
 | .chan _=>some .chan
 | .nilFunc=>some .raw
 | .nilIface=>some .raw
 |_=>none
def FH:List Value→Option (List CK)
 | []=>some []
 |v::vs=>match UH v,FH vs with
  |some c,some cs=>some (c::cs)
  |_,_=>none
def wU(P:Program)(t:TypeId):Bool:=
 match P.underlying t with
 |some (.struct _)|some (.array _ _)=>true
 |_=>false
def cl(P:Program)(t:TypeId):Nat:=match P.info? t with|some i=>i.size|none=>0
def se(P:Program)(t:TypeId):Nat:=match P.info? t with|some i=>i.bytes|none=>0
def yO(P:Program)(t:TypeId):Option Value:=match P.info? t with|some i=>i.zero|none=>none
def OD(P:Program)(t:TypeId):Option Kind:=
 match yO P t with
 |some (.agg vs)=>bif wU P t&&bS vs.toList.length (cl P t)then(match FH vs.toList with|some cs=>some (.agg cs)|none=>none)else none
 |some v=>bif wU P t then none else(match UH v with|some c=>some (.c c)|none=>none)
 |none=>none
def Fi(P:Program)(t:TypeId):Option Kind:=
 match P.underlying t with
 |none=>none
 |some _=>OD P t
structure HC(P:Program)(f:FuncId)(args:List Value)(ks:List Kind)(K:cQ ks→ad→Prop)(h:ad):Prop where
 run:∀w:World,w.heap=h→
  ((callFunc f args.toArray).run P w=.ok (.enter f args.toArray) w∧
   Calls P f args.toArray w fun e w'=>Tame w w'∧∃t:cQ ks,e=.returned (E5 ks (oH ks t))∧K t w'.heap)∨
  (∃v w',(callFunc f args.toArray).run P w=.ok (.value v) w'∧Tame w w'∧∃t:cQ ks,v=E5 ks (oH ks t)∧K t w'.heap)
structure HE(P:Program)(f:FuncId)(args:List Value)(ks:List Kind)(K:cQ ks→ad→Prop)(h:ad):Prop where
 run:∀w:World,w.heap=h→(∀(args:Array Value) (w:World),(callFunc f args).run P w=.ok (.enter f args) w)∧
  Calls P f args.toArray w fun e w'=>Tame w w'∧∃t:cQ ks,e=.returned (E5 ks (oH ks t))∧K t w'.heap
theorem HE.hc{P:Program}{f:FuncId}{args:List Value}{ks:List Kind}{K:cQ ks→ad→Prop}{h:ad}(e:HE P f args ks K h):HC P f args ks K h:=
 ⟨fun w hw=>.inl ⟨(e.run w hw).1 _ w,(e.run w hw).2⟩⟩
structure HY(P:Program)(l:Nat)(args:List Value)(K:Bool→ad→Prop)(h:ad):Prop where
 run:∀w:World,w.heap=h→∃fn tmps assign body,(Instr.yield l args.toArray).run P w=.ok (.round l fn tmps assign body) w∧
  ∀(c:Frame) (cs:List Frame),∃b w',Tame w w'∧K b w'.heap∧Steps P (lone (Frame.round l fn tmps assign body .normal) (c::cs) w) (lone (c.finish (.bool b)) cs w')
structure HV(P:Program)(fv:Value)(args:List Value)(ks:List Kind)(K:cQ ks→ad→Prop)(h:ad):Prop where
 run:(∃f first cap,fv=.func (.func f) first cap∧HC P f (first.toList++args++cap.toList) ks K h)∨
  (∃l,fv=.func (.yield l) #[] #[]∧HY P l args (fun b h'=>D4 ks [.bool b] fun t=>K t h') h)
noncomputable def CondP(b:Bool)(t e:Prop):Prop:=Bool.rec (motive:=fun _=>Prop) e t b
theorem CondP.yes{b:Bool}{t e:Prop}(h:CondP b t e)(hb:b=true):t:=by subst hb;exact h
theorem CondP.no{b:Bool}{t e:Prop}(h:CondP b t e)(hb:b=false):e:=by subst hb;exact h
theorem CondP.intro{b:Bool}{t e:Prop}(h1:b=true→t)(h2:b=false→e):CondP b t e:=by cases b;exact h2 rfl;exact h1 rfl
theorem av{t e:Prop}:CondP true t e↔t:=w9
theorem aj{t e:Prop}:CondP false t e↔e:=w9
attribute [irreducible] CondP
def At(h:ad)(k:ad→Prop):Prop:=k h
def Bd{T:Type}(x:T)(k:T→Prop):Prop:=k x
structure Join{T:Type}(rest:T→ad→Prop)(k:(T→ad→Prop)→Prop):Prop where
 run:k rest
structure LoopP{T:Type}(F:(T→ad→Prop)→T→ad→Prop)(t:T)(h:ad):Prop where
 run:∀I:T→ad→Prop,(∀t h,F I t h→I t h)→I t h
abbrev cI:=List (Nat×Value)
noncomputable def lh(r:cI)(t:Nat):Option Value:=
 f9 (motive:=fun _=>Option Value) none (fun kv _ ih=>bif bS kv.1 t then some kv.2 else ih) r
theorem E2(k:Nat)(v:Value)(r:cI)(t:Nat):lh ((k,v)::r) t=bif bS k t then some v else lh r t:=rfl
noncomputable def dJ(r:cI):Operand→Option Value
 | .tmp t=>lh r t
 | .const v=>some v
 | .global g=>some (.pointer (some ⟨g,0,none⟩))
 | .func f=>some (.func (.func f) #[] #[])
noncomputable def rZ(r:cI):List Operand→Option (List Value)
 | []=>some []
 |o::os=>match dJ r o,rZ r os with
  |some v,some vs=>some (v::vs)
  |_,_=>none
noncomputable def IZ:List CK→Nat→Addr→ad→(List Value→Prop)→Prop
 | [],_,_,_,k=>k []
 |c::cs,i,a,h,k=>∃x:c.den,aS h (adr a i)=some (c.enc x)∧IZ cs (i+1) a h fun vs=>k (c.enc x::vs)
noncomputable def uo:List Value→Nat→Addr→ad→Prop
 | [],_,_,_=>True
 | [v],i,a,h=>aS h (adr a i)=some v
 |v::u::vs,i,a,h=>aS h (adr a i)=some v∧uo (u::vs) (i+1) a h
abbrev RK:=Value→Option (ad→Prop)→Prop
noncomputable def Kj(P:Program)(t:TypeId)(v:Value)(K:RK)(h:ad):Prop:=
 match v with
 | .pointer (some a)=>
  match Fi P t with
  |some (.c c)=>∃x:c.den,aS h a=some (c.enc x)∧K (c.enc x) (some fun h'=>aS h' a=some (c.enc x))
  |some (.agg cs)=>IZ cs 0 a h fun vs=>K (.agg vs.toArray) (some fun h'=>uo vs 0 a h')
  |none=>False
 |_=>False
def xP(P:Program)(t:TypeId)(f:Nat):Option (TypeId×Nat):=
 match P.underlying t with
 |some (.struct fs)=>match fs.toList[f]? with
  |some g=>some (g.type,g.offset)
  |none=>none
 |_=>none
def xb(P:Program)(t:TypeId):Option TypeId:=
 match P.underlying t with
 |some (.slice e)=>some e
 |_=>none
def Mg(op:BinOp)(k:IntKind)(a b:Int)(K:RK):Prop:=
 match op with
 | .shl=>0≤b∧K (.int k (k.wrap (a*2^(min b.toNat k.bits)))) none
 | .shr=>0≤b∧K (.int k (a.fdiv (2^(min b.toNat k.bits)))) none
 |_=>False
def Uz(op:BinOp)(k:IntKind)(a b:Int)(K:RK):Prop:=
 match op with
 | .add=>K (.int k (k.wrap (a+b))) none
 | .sub=>K (.int k (k.wrap (a-b))) none
 | .mul=>K (.int k (k.wrap (a*b))) none
 | .quo=>b≠0∧K (.int k (k.wrap (a.tdiv b))) none
 | .rem=>b≠0∧K (.int k (a.tmod b)) none
 | .and=>K (.int k (k.wrap (ar k.bits a&&&ar k.bits b).toNat)) none
 | .or=>K (.int k (k.wrap (ar k.bits a|||ar k.bits b).toNat)) none
 | .xor=>K (.int k (k.wrap (ar k.bits a^^^ar k.bits b).toNat)) none
 | .andNot=>K (.int k (k.wrap (ar k.bits a&&& ~~~ar k.bits b).toNat)) none
 | .eql=>K (.bool (a==b)) none
 | .neq=>K (.bool (a !=b)) none
 | .lss=>K (.bool (decide (a<b))) none
 | .leq=>K (.bool (decide (a≤b))) none
 | .gtr=>K (.bool (decide (a>b))) none
 | .geq=>K (.bool (decide (a≥b))) none
 |_=>False
def Ud(op:BinOp)(a b:ByteArray)(K:RK):Prop:=
 match op with
 | .add=>((a.size+b.size:Nat):Int)≤9223372036854775807∧K (.string (a++b)) none
 | .eql=>K (.bool (a.toList==b.toList)) none
 | .neq=>K (.bool (!(a.toList==b.toList))) none
 | .lss=>K (.bool (Op.bytesLess a.toList b.toList)) none
 | .leq=>K (.bool (Op.bytesLess a.toList b.toList||a.toList==b.toList)) none
 | .gtr=>K (.bool (!(Op.bytesLess a.toList b.toList||a.toList==b.toList))) none
 | .geq=>K (.bool (!(Op.bytesLess a.toList b.toList))) none
 |_=>False
def fW(h:ad)(a:Addr):Prop:=(∃c e,h[a.block]? =some (.cells c e (0,0))∧0<c.size)
def S4(P:Program)(t:TypeId)(neg:Bool)(x y:Value)(K:RK):Prop:=
 match P.underlying t,x,y with
 |some (.pointer _),.pointer a,.pointer none=>K (.bool (bif neg then !a.isNone else a.isNone)) none
 |some (.map _ _),.map a,.map none=>K (.bool (bif neg then !a.isNone else a.isNone)) none
 |some (.slice _),.slice a _ _,.slice none _ _=>K (.bool (bif neg then !a.isNone else a.isNone)) none
 |_,_,_=>False
def Uy:Operand→Bool
 | .const (.pointer none)=>true
 | .const (.map none)=>true
 | .const (.slice none 0 0)=>true
 |_=>false
def VH(P:Program)(t:TypeId)(neg:Bool)(x y:Value)(K:RK)(h:ad):Prop:=
 match P.underlying t,x,y with
 |some .bool,.bool a,.bool b=>K (.bool (bif neg then !(a==b)else a==b)) none
 |some (.pointer e),.pointer a,.pointer b=>
  (bif bS (cl P e) 0 then False else True)∧
  (∀x y,a=some x→b=some y→fW h x∧fW h y)∧
  K (.bool (bif neg then !(a==b)else a==b)) (some fun h'=>∀x y,a=some x→b=some y→fW h' x∧fW h' y)
 |_,_,_=>False
def Ul(P:Program)(op:BinOp)(t:TypeId)(x y:Value)(K:RK)(h:ad):Prop:=
 match x,y with
 | .int k a,.int k' b=>
  match op with
  | .shl=>Mg .shl k a b K
  | .shr=>Mg .shr k a b K
  |op=>bif IS k' k then Uz op k a b K else False
 | .string a,.string b=>Ud op a b K
 |x,y=>match op with
  | .eql=>VH P t false x y K h
  | .neq=>VH P t true x y K h
  |_=>False
def sY(h:ad):List (Option Addr×Option Addr)→Prop
 | []=>True
 |(a,b)::l=>(∀x y,a=some x→b=some y→fW h x∧fW h y)∧sY h l
def RB(P:Program)(t:TypeId)(x y:Value):Option (Bool×List (Option Addr×Option Addr)):=
 match P.underlying t,x,y with
 |some (.int _),.int k a,.int k' b=>bif IS k' k then some (a==b,[])else none
 |some .bool,.bool a,.bool b=>some (a==b,[])
 |some .string,.string a,.string b=>some (a.toList==b.toList,[])
 |some (.pointer e),.pointer a,.pointer b=>bif bS (cl P e) 0 then none else some (a==b,[(a,b)])
 |_,_,_=>none
def Tn(P:Program)(rec:TypeId→List Value→List Value→Option (Bool×List (Option Addr×Option Addr)))(xs ys:List Value):List Field→Option (Bool×List (Option Addr×Option Addr))
 | []=>some (true,[])
 |f::fs=>
  if f.name= "_" then none else
  bif (P.underlying f.type).isSome&&(P.info? f.type).isSome then
   match(bif wU P f.type then rec f.type ((xs.drop f.offset).take (cl P f.type)) ((ys.drop f.offset).take (cl P f.type))
    else match xs[f.offset]?,ys[f.offset]? with|some x,some y=>RB P f.type x y|_,_=>none),Tn P rec xs ys fs with
   |some (b,l),some (c,m)=>some (b&&c,l++m)
   |_,_=>none
  else none
def RC(P:Program):Nat→TypeId→List Value→List Value→Option (Bool×List (Option Addr×Option Addr))
 |0,_,_,_=>none
 |d+1,t,xs,ys=>match P.underlying t with
  |some (.struct fs)=>bif P.stoodInHeld t then none else Tn P (RC P d) xs ys fs.toList
  |_=>none
def V4(neg b:Bool)(K:RK)(h:ad):List (Option Addr×Option Addr)→Prop
 | []=>K (.bool (bif neg then !b else b)) none
 |p::l=>sY h (p::l)∧K (.bool (bif neg then !b else b)) (some fun h'=>sY h' (p::l))
def Um(P:Program)(op:BinOp)(t:TypeId)(xs ys:List Value)(K:RK)(h:ad):Prop:=
 bif P.eqGuardType P.depth t then False else
 match op with
 | .eql=>(match RC P 10 t xs ys with|some (b,l)=>V4 false b K h l|none=>False)
 | .neq=>(match RC P 10 t xs ys with|some (b,l)=>V4 true b K h l|none=>False)
 |_=>False
def VV(op:UnOp)(x:Value)(K:RK):Prop:=
 match op,x with
 | .neg,.int k n=>K (.int k (k.wrap (0-n))) none
 | .xor,.int k n=>K (.int k (k.wrap (ar k.bits (if k.signed then-1 else k.max)^^^ar k.bits n).toNat)) none
 | .not,.bool b=>K (.bool (!b)) none
 |_,_=>False
def eC(s:ByteArray):List Value:=s.data.toList.map fun b=>.int .u8 b.toNat
noncomputable def Row(h:ad)(a:Addr)(vs:List Value):Prop:=∀i v,vs[i]? =some v→aS h (adr a i)=some v
noncomputable def SRow(h:ad)(a:Option Addr)(n:Nat)(vs:List Value):Prop:=vs.length=n∧(vs= []∨∃b,a=some b∧Row h b vs)
def M0(P:Program)(e:TypeId):Bool:=match P.underlying e with|some (.int .u8)=>true|_=>false
def Ux(P:Program)(s d:TypeId):Bool:=
 match P.underlying s,P.underlying d with
 |some .string,some (.slice e)=>M0 P e
 |_,_=>false
def ByP(e:TypeId)(s:ByteArray)(h:ad)(K:Nat→ad→Prop):Prop:=
 ∀c,s.size≤c→K c (h.push (.cells (eC s++kT (c-s.size) (Value.int .u8 0)).toArray e (c,c+1)))
noncomputable def Q5(P:Program)(src dst:TypeId)(x:Value)(K:RK)(h:ad):Prop:=
 match P.underlying src,P.underlying dst,x with
 |some (.int _),some (.int k),.int _ n=>K (.int k (k.wrap n)) none
 |some .string,some .string,.string s=>K (.string s) none
 |some (.slice e),some .string,.slice a n _=>bif M0 P e then∃s:ByteArray,SRow h a n (eC s)∧K (.string s) (some fun h'=>SRow h' a n (eC s))else False
 |_,_,_=>False
def RS(v:Option Value)(d y:Nat)(K:Nat→Prop):Prop:=
 match v with
 |none=>K d
 |some (.int _ i)=>(0≤i∧i≤y)∧K i.toNat
 |_=>False
noncomputable def aW(a:Option Addr)(l m size:Nat):Option Addr:=if m=l then a else a.map (adr · (l*size))
def Rb(P:Program)(t:TypeId)(K:Prop):Prop:=match P.info? t with|some _=>K|none=>False
noncomputable def Ms(P:Program)(t:TypeId)(x:Value)(lo hi mx:Option Value)(K:RK):Prop:=
 match P.underlying t,x with
 |some .string,.string s=>match mx with
  |some _=>False
  |none=>RS hi s.size s.size fun h=>RS lo 0 h fun l=>K (.string (s.extract l h)) none
 |some (.slice e),.slice a len cap=>Rb P e (
  match mx with
  |none=>RS hi len cap fun h=>RS lo 0 h fun l=>K (.slice (aW a l cap (cl P e)) (h-l) (cap-l)) none
  |some m=>match hi with
   |none=>False
   |some hi=>RS (some m) 0 cap fun m=>RS (some hi) 0 m fun h=>RS lo 0 h fun l=>K (.slice (aW a l m (cl P e)) (h-l) (m-l)) none)
 |some (.array n e),.pointer (some a)=>Rb P e (
  match mx with
  |none=>RS hi n n fun h=>RS lo 0 h fun l=>K (.slice (aW (some a) l n (cl P e)) (h-l) (n-l)) none
  |some _=>False)
 |_,_=>False
noncomputable def Hn(r:cI):Option Operand→Option (Option Value)
 |none=>some none
 |some o=>match dJ r o with
  |some v=>some (some v)
  |none=>none
noncomputable def zC(P:Program)(t:TypeId)(x i:Value)(K:RK):Prop:=
 match P.underlying t,x,i with
 |some (.array n e),.pointer (some a),.int _ i=>Rb P e ((0≤i∧i<n)∧K (.pointer (some (adr a (i.toNat*cl P e)))) none)
 |some (.slice e),.slice b len _,.int _ i=>Rb P e ((0≤i∧i<len)∧∃a,b=some a∧K (.pointer (some (adr a (i.toNat*cl P e)))) none)
 |_,_,_=>False
def Mv(P:Program)(t:TypeId)(x i:Value)(K:RK):Prop:=
 match P.underlying t,x,i with
 |some .string,.string s,.int _ i=>∃b:UInt8,0≤i∧s[i.toNat]? =some b∧K (.int .u8 b.toNat) none
 |_,_,_=>False
noncomputable def Mw(P:Program)(t:TypeId)(x:Value)(f:Nat)(K:RK):Prop:=
 match xP P t f,x with
 |some (u,off),.agg cs=>bif (P.underlying u).isSome&&(P.info? u).isSome then(bif wU P u then K (.agg ((cs.toList.drop off).take (cl P u)).toArray) none
  else(match cs.toList[off]? with|some v=>K v none|none=>False))else False
 |_,_=>False
def TN(c a b:Value)(K:RK):Prop:=
 match c with
 | .bool c=>(match a,b with
  | .bool x,.bool y=>K (.bool (bif c then x else y)) none
  |_,_=>(match c with|true=>K a none|false=>K b none))
 |_=>False
def iQ:Value→Value→Bool
 | .int _ a,.int _ b=>a==b
 | .string a,.string b=>a==b
 | .bool a,.bool b=>a==b
 |_,_=>false
def Ld(k:Value):List MapEntry→Option Value
 | []=>none
 |e::es=>if iQ k e.key then some e.val else Ld k es
def Fj(c:CK)(es:List MapEntry):Prop:=∀e∈es,∃x:c.den,e.key=c.enc x
def Nw(c:CK)(z:Value)(h:ad)(m:Option Nat)(k v:Value)(ok:Bool):Prop:=
 match m with
 |none=>v=z∧ok=false
 |some r=>∃es clock,h[r]? =some (.map es clock)∧Fj c es.toList∧
  (match Ld k es.toList with|some u=>v=u∧ok=true|none=>v=z∧ok=false)
def KO(P:Program)(t:TypeId):Option (CK×TypeId):=
 match P.underlying t with
 |some (.map k e)=>match P.underlying k with
  |some (.int i)=>some (.int i,e)
  |some .string=>some (.str,e)
  |some .bool=>some (.bool,e)
  |_=>none
 |_=>none
def Iy(P:Program)(t:TypeId)(x k:Value)(ok:Bool)(K:RK)(h:ad):Prop:=
 match KO P t,x with
 |some (c,e),.map m=>c.dec k fun _=>
  (match Fi P e,yO P e with
   |some ek,some z=>∃(y:ek.den) (b:Bool),Nw c z h m k (ek.enc y) b∧
    K (bif ok then .tuple #[ek.enc y,.bool b]else ek.enc y) (some fun h'=>Nw c z h' m k (ek.enc y) b)
   |_,_=>False)
 |_,_=>False
def Sf(h:ad)(m:Option Nat)(n:Nat):Prop:=
 match m with
 |none=>n=0
 |some r=>∃es clock,h[r]? =some (.map es clock)∧n=es.size
def Uj(P:Program)(t:TypeId)(x:Value)(K:RK)(h:ad):Prop:=
 match P.underlying t,x with
 |some .string,.string s=>K (.int .i64 s.size) none
 |some (.array n _),_=>K (.int .i64 n) none
 |some (.slice _),.slice _ n _=>K (.int .i64 n) none
 |some (.map _ _),.map m=>∃n:Nat,Sf h m n∧K (.int .i64 n) (some fun h'=>Sf h' m n)
 |_,_=>False
def Uk(P:Program)(t:TypeId)(x:Value)(K:RK):Prop:=
 match P.underlying t,x with
 |some (.slice _),.slice _ _ n=>K (.int .i64 n) none
 |_,_=>False
def IM(mx:Bool)(k:IntKind):Int→List Value→(Value→Prop)→Prop
 |a,[],f=>f (.int k a)
 |a,.int k' b::vs,f=>bif IS k' k then IM mx k (bif mx then(if b>a then b else a)else(if b<a then b else a)) vs f else False
 |_,_,_=>False
def Ek(mx:Bool)(vs:List Value)(f:Value→Prop):Prop:=
 match vs with
 | .int k a::vs=>IM mx k a vs f
 |_=>False
def Nx(h:ad)(i:Nat)(e:MapEntry):Prop:=
 ∃m since seen last stamp es,h[i]? =some (.mapIter (some m) since seen last)∧seen.back? =some stamp∧h[m]? =some (.map es last)∧es.find? (fun e=>e.born==stamp)=some e
def rG(P:Program)(t:TypeId):Bool:=match P.underlying t with|some (.interface _)=>false|some _=>true|none=>false
def Ol(P:Program)(t:TypeId)(x:Value)(K:RK):Prop:=
 bif rG P t then(match Fi P t with
  |some k=>∃y:k.den,x=.iface t (k.enc y)∧K (k.enc y) none
  |none=>False)else False
def Kq(cs:List Value)(off:Nat)(vs:List Value):List Value:=cs.take off++vs++cs.drop (off+vs.length)
def Dw(place:Nat→Option (Nat×Nat)):List Value→List (Nat×Value)→Option (List Value)
 |cs,[]=>some cs
 |cs,(i,v)::rest=>match place i with
  |none=>none
  |some (off,size)=>bif bS v.cells.toList.length size&&yD (off+v.cells.toList.length) cs.length then Dw place (Kq cs off v.cells.toList) rest else none
noncomputable def rF(r:cI):List (Nat×Operand)→Option (List (Nat×Value))
 | []=>some []
 |(i,o)::ps=>match dJ r o,rF r ps with
  |some v,some vs=>some ((i,v)::vs)
  |_,_=>none
def rW(P:Program)(t:TypeId):Option (List Value):=match yO P t with|some z=>some z.cells.toList|none=>none
def dQ(n:Nat)(z:List Value):List Value:=(kT n z).flatten
def yB(P:Program)(t:TypeId):Bool:=match P.info? t with|some _=>true|none=>false
def A7(P:Program):List Field→Bool
 | []=>true
 |f::fs=>bif yB P f.type then A7 P fs else false
def MD(P:Program)(fs:List Field)(i:Nat):Option (Nat×Nat):=match fs[i]? with|some f=>some (f.offset,cl P f.type)|none=>none
def Je(P:Program)(t:TypeId)(parts:List (Nat×Value)):Option (List Value):=
 match P.underlying t,rW P t with
 |some (.struct fs),some z=>bif A7 P fs.toList then Dw (MD P fs.toList) z parts else none
 |some (.array _ e),some z=>bif yB P e then Dw (fun i=>some (i*cl P e,cl P e)) z parts else none
 |_,_=>none
noncomputable def Cc(P:Program)(ek:Option (Kind×Kind))(o:Op)(r:cI)(K:RK)(h:ad):Prop:=
 match o with
 | .entry it=>match dJ r it,ek with
  |some (.pointer (some a)),some (kk,vk)=>a.off=0∧∃(e:MapEntry) (x:kk.den) (y:vk.den),Nx h a.block e∧e.key=kk.enc x∧e.val=vk.enc y∧
    K (.tuple #[kk.enc x,vk.enc y]) (some fun h'=>Nx h' a.block e)
  |_,_=>False
 | .move x| .assign x=>match dJ r x with|some v=>K v none|none=>False
 | .load t a=>match dJ r a with|some v=>Kj P t v K h|none=>False
 | .nilCheck x=>match dJ r x with|some (.pointer p)=>∃a,p=some a∧K (.pointer (some a)) none|_=>False
 | .binOp op t x y _=>match dJ r x,dJ r y with
  |some (.agg v),some (.agg u)=>Um P op t v.toList u.toList K h
  |some v,some u=>(match op,Uy y with
   | .eql,true=>S4 P t false v u K
   | .neq,true=>S4 P t true v u K
   |op,_=>Ul P op t v u K h)
  |_,_=>False
 | .unOp op _ x=>match dJ r x with|some v=>VV op v K|none=>False
 | .convert s d x=>match dJ r x with|some v=>Q5 P s d v K h|none=>False
 | .pick c a b=>match dJ r c,dJ r a,dJ r b with|some c,some a,some b=>TN c a b K|_,_,_=>False
 | .extract x i=>match dJ r x with
  |some (.tuple vs)=>(match vs.toList[i]? with|some v=>K v none|none=>False)
  |_=>False
 | .fieldAddr t x f=>match dJ r x,xP P t f with
  |some (.pointer (some a)),some (u,off)=>bif bS (cl P u) 0 then False else K (.pointer (some (adr a off))) none
  |_,_=>False
 | .field t x f=>match dJ r x with|some v=>Mw P t v f K|none=>False
 | .indexAddr t x i=>match dJ r x,dJ r i with|some v,some u=>zC P t v u K|_,_=>False
 | .index t x i=>match dJ r x,dJ r i with|some v,some u=>Mv P t v u K|_,_=>False
 | .slice t x lo hi mx=>match dJ r x,Hn r lo,Hn r hi,Hn r mx with
  |some v,some l,some h',some m=>Ms P t v l h' m K
  |_,_,_,_=>False
 | .lookup t x k ok=>match dJ r x,dJ r k with|some v,some u=>Iy P t v u ok K h|_,_=>False
 | .makeInterface t x=>match dJ r x with|some v=>bif rG P t then K (.iface t v) none else False|none=>False
 | .typeAssert x _ t ok=>match dJ r x with|some v=>bif ok then False else Ol P t v K|none=>False
 | .build t ps=>match rF r ps.toList with
  |some vs=>(match Je P t vs with|some cs=>K (.agg cs.toArray) none|none=>False)
  |none=>False
 | .makeFunc fn first cap=>match rZ r first.toList,rZ r cap.toList with
  |some vs,some us=>K (.func fn vs.toArray us.toArray) none
  |_,_=>False
 | .call c=>match c.callee,rZ r c.args.toList,c.argTypes.toList with
  | .builtin .len,some [v],[t]=>Uj P t v K h
  | .builtin .cap,some [v],[t]=>Uk P t v K
  | .builtin .min,some vs,_=>Ek false vs fun v=>K v none
  | .builtin .max,some vs,_=>Ek true vs fun v=>K v none
  |_,_,_=>False
 |_=>False
abbrev WK:=Value→ad→Prop
def ag(h:ad):Addr:=⟨h.size,0,none⟩
def hnew(h:ad)(cs:List Value)(t:TypeId):ad:=h.push (.cells cs.toArray t (0,0))
def cz:List Value→Bool
 | []=>true
 |v::vs=>(match v with| .agg _=>false| .tuple _=>false|_=>true)&&cz vs
noncomputable def fk(h:ad)(a:Addr):Nat→List Value→ad
 |_,[]=>h
 |i,v::vs=>fk (hset h (adr a i) v) a (i+1) vs
noncomputable def gn(h:ad)(a:Option Addr)(i:Nat)(vs:List Value):ad:=match a with|some a=>fk h a i vs|none=>h
noncomputable def qE(h:ad)(a:Option Addr)(i:Nat)(vs:List Value):Prop:=vs= []∨∃b,a=some b∧∀j,j<vs.length→Wr h (adr b (i+j))
noncomputable def LZ(P:Program)(t:TypeId)(a v:Value)(K:WK)(h:ad):Prop:=
 match a with
 | .pointer (some a)=>bif bS v.cells.toList.length (cl P t)&&cz v.cells.toList then Rb P t
   (match v.cells.toList with
    | [v]=>Wr h a∧K undef (hset h a v)
    |vs=>qE h (some a) 0 vs∧K undef (fk h a 0 vs))
  else False
 |_=>False
noncomputable def RZ(P:Program)(e:TypeId)(base:Option Addr)(sl sc xl:Nat)(xs:List Value)(K:WK)(h:ad):Prop:=
 (sl+xl≤sc→qE h base (sl*cl P e) xs∧cz xs=true∧K (.slice base (sl+xl) sc) (gn h base (sl*cl P e) xs))∧
 (sc<sl+xl→∃old z,SRow h base (sl*cl P e) old∧rW P e=some z∧0<se P e∧Builtin.nextslicecap (sl+xl) sc*se P e≤2^48∧
  ∀nc,sl+xl≤nc→K (.slice (some (ag h)) (sl+xl) nc) (hnew h (old++xs++dQ (nc-(sl+xl)) z) e))
noncomputable def Ef(P:Program)(t:TypeId)(s x:Value)(K:WK)(h:ad):Prop:=
 match xb P t,s,x with
 |some e,.slice b sl sc,.slice a xl _=>Rb P e (∃xs,SRow h a (xl*cl P e) xs∧RZ P e b sl sc xl xs K h)
 |some e,.slice b sl sc,.string x=>bif bS (cl P e) 1 then RZ P e b sl sc x.size (eC x) K h else False
 |_,_,_=>False
noncomputable def EC(P:Program)(t:TypeId)(s x:Value)(K:WK)(h:ad):Prop:=
 match xb P t,s,x with
 |some e,.slice b sl sc,.int _ l=>(match rW P e with
  |some z=>bif bS z.length (cl P e)then(0≤l∧l*se P e≤2^48∧l≤9223372036854775807∧((sl+l.toNat:Nat):Int)≤9223372036854775807)∧RZ P e b sl sc l.toNat (dQ l.toNat z) K h else False
  |none=>False)
 |_,_,_=>False
noncomputable def L3(P:Program)(t:TypeId)(x:Value)(K:WK)(h:ad):Prop:=
 match xb P t,x with
 |some e,.slice a n _=>(match rW P e with
  |some z=>bif cz z then qE h a 0 (dQ n z)∧K (.tuple #[]) (gn h a 0 (dQ n z))else False
  |none=>False)
 |_,_=>False
noncomputable def Qu(P:Program)(t:TypeId)(d s:Value)(K:WK)(h:ad):Prop:=
 match xb P t,d,s with
 |some e,.slice b dl _,.slice a sl _=>Rb P e (∃xs,SRow h a (dZ sl dl*cl P e) xs∧qE h b 0 xs∧cz xs=true∧K (.int .i64 (dZ sl dl)) (gn h b 0 xs))
 |some e,.slice b dl _,.string x=>bif bS (cl P e) 1 then qE h b 0 ((eC x).take dl)∧K (.int .i64 (dZ x.size dl)) (gn h b 0 ((eC x).take dl))else False
 |_,_,_=>False
def MA(k v:Value)(clock:Nat):List MapEntry→List MapEntry×Nat
 | []=>([{key:=k,val:=v,born:=clock}],clock+1)
 |e::es=>if iQ k e.key then({e with key:=k,val:=v}::es,clock)else let r:=MA k v clock es;(e::r.1,r.2)
def Lh(k:Value):List MapEntry→List MapEntry
 | []=> []
 |e::es=>if iQ k e.key then es else e::Lh k es
def O1(c:CK)(h:ad)(r:Nat):Prop:=∃es clock,h[r]? =some (.map es clock)∧Fj c es.toList
def S8(h:ad)(r:Nat)(k v:Value):ad:=
 match h[r]? with
 |some (.map es clock)=>h.setIfInBounds r (.map (MA k v clock es.toList).1.toArray (MA k v clock es.toList).2)
 |_=>h
def OB(h:ad)(r:Nat)(k:Value):ad:=
 match h[r]? with
 |some (.map es clock)=>h.setIfInBounds r (.map (Lh k es.toList).toArray clock)
 |_=>h
def Ee(P:Program)(t:TypeId)(m k v:Value)(K:WK)(h:ad):Prop:=
 match KO P t,m with
 |some (c,_),.map m=>c.dec k fun _=>∃r,m=some r∧O1 c h r∧K undef (S8 h r k v)
 |_,_=>False
def EA(P:Program)(t:TypeId)(m k:Value)(K:WK)(h:ad):Prop:=
 match KO P t,m with
 |some (c,_),.map m=>c.dec k fun _=>(m=none∧K (.tuple #[]) h)∨(∃r,m=some r∧O1 c h r∧K (.tuple #[]) (OB h r k))
 |_,_=>False
def QZ(P:Program):List TypeId→Option (List Kind)
 | []=>some []
 |t::ts=>match Fi P t,QZ P ts with
  |some k,some ks=>some (k::ks)
  |_,_=>none
def Q0(P:Program)(t:TypeId):Option (List Kind):=
 match P.underlying t with
 |some (.tuple ts)=>QZ P ts.toList
 |_=>QZ P [t]
noncomputable def TD(P:Program)(f:Operand)(r:cI)(args:List Value)(t:TypeId)(K:WK)(h:ad):Prop:=
 match Q0 P t with
 |none=>False
 |some ks=>match f with
  | .func f=>HC P f args ks (fun x h'=>K (E5 ks (oH ks x)) h') h
  |f=>match dJ r f with
   |some fv=>HV P fv args ks (fun x h'=>K (E5 ks (oH ks x)) h') h
   |none=>False
def Qt(it:Value)(K:WK)(h:ad):Prop:=
 match it with
 | .pointer (some a)=>a.off=0∧
  ∃m since seen last,h[a.block]? =some (.mapIter m since seen last)∧
   ((m=none∧K (.tuple #[.bool false]) h)∨
    (∃r es clock,m=some r∧h[r]? =some (.map es clock)∧(seen.isEmpty=true∨es.isEmpty=true∨es.all (fun e=>decide (e.born≥last))=false)∧
     ((∀e∈es.toList,e.born<since→seen.contains e.born=true)→K (.tuple #[.bool false]) h)∧
     (∀e∈es.toList,seen.contains e.born=false→K (.tuple #[.bool true,e.key,e.val]) (h.setIfInBounds a.block (.mapIter (some r) since (seen.push e.born) clock)))))
 |_=>False
noncomputable def Gi(P:Program)(o:Oper)(r:cI)(K:WK)(h:ad):Prop:=
 match o.op with
 | .alloc t=>(match rW P t with|some z=>K (.pointer (some (ag h))) (hnew h z t)|none=>False)
 | .box t x=>(match dJ r x with|some v=>K (.pointer (some (ag h))) (hnew h v.cells.toList t)|none=>False)
 | .build t ps=>(match rF r ps.toList with
  |some vs=>(match Je P t vs with|some cs=>K (.agg cs.toArray) h|none=>False)
  |none=>False)
 | .buildSlice t n ps=>(match xb P t,rF r ps.toList with
  |some e,some vs=>(match rW P e with
   |some z=>bif yD (n*cl P e) 16777216&&bS z.length (cl P e)then
     (match Dw (fun i=>some (i*cl P e,cl P e)) (dQ n z) vs with|some cs=>K (.slice (some (ag h)) n n) (hnew h cs e)|none=>False)
    else False
   |none=>False)
  |_,_=>False)
 | .store t a x=>(match dJ r a,dJ r x with|some a,some v=>LZ P t a v K h|_,_=>False)
 | .mapUpdate t m k x=>(match dJ r m,dJ r k,dJ r x with|some m,some k,some v=>Ee P t m k v K h|_,_,_=>False)
 | .insert t m k x=>(match dJ r m,dJ r k,dJ r x with|some m,some k,some v=>Ee P t m k v K h|_,_,_=>False)
 | .makeMap t n=>(match n with
  |none=>K (.map (some h.size)) (h.push (.map #[] 0))
  |some n=>(match dJ r n,P.underlying t with|some (.int _ _),some (.map _ _)=>K (.map (some h.size)) (h.push (.map #[] 0))|_,_=>False))
 | .makeSlice t l c=>(match xb P t,dJ r l,dJ r c with
  |some e,some (.int _ l),some (.int _ c)=>(match rW P e with
   |some z=>bif bS z.length (cl P e)then(0≤l∧l≤c∧c≤9223372036854775807∧se P e*c≤2^48)∧K (.slice (some (ag h)) l.toNat c.toNat) (hnew h (dQ c.toNat z) e)else False
   |none=>False)
  |_,_,_=>False)
 | .convert s d x=>(match P.underlying s,P.underlying d,dJ r x with
  |some .string,some (.slice e),some (.string v)=>bif M0 P e then ByP e v h (fun c h'=>K (.slice (some (ag h)) v.size c) h')else False
  |_,_,_=>False)
 | .range t x=>(match P.underlying t,dJ r x with
  |some (.map _ _),some (.map m)=>∃clock,(m=none∧clock=0∨∃r es,m=some r∧h[r]? =some (.map es clock))∧K (.pointer (some (ag h))) (h.push (.mapIter m clock #[] clock))
  |_,_=>False)
 | .next it false=>(match dJ r it with|some it=>Qt it K h|none=>False)
 | .call c=>(match c.callee,rZ r c.args.toList with
  | .builtin .append,some [s,x]=>(match c.argTypes.toList with| [t,u]=>(match P.underlying u with|some (.slice _)=>Ef P t s x K h|some .string=>Ef P t s x K h|some (.int _)=>EC P t s x K h|_=>False)|_=>False)
  | .builtin .clear,some [x]=>(match c.argTypes.toList with| [t]=>L3 P t x K h|_=>False)
  | .builtin .copy,some [d,s]=>(match c.argTypes.toList with| [t,_]=>Qu P t d s K h|_=>False)
  | .builtin .delete,some [m,k]=>(match c.argTypes.toList with| [t,_]=>EA P t m k K h|_=>False)
  | .value f,some args=>TD P f r args o.type K h
  |_,_=>False)
 |_=>False
def xd(P:Program):Op→Bool
 | .convert s d _=> !Ux P s d
 | .alloc _| .box .. | .buildSlice .. | .store .. | .mapUpdate .. | .insert .. | .makeMap .. | .makeSlice .. | .range .. | .next .. =>false
 | .call c=>match c.callee with
  | .builtin .len| .builtin .cap| .builtin .min| .builtin .max=>true
  |_=>false
 |_=>true
def AX(N:Nat)(o:Oper)(v:Value)(r:cI)(K:cI→Prop):Prop:=
 match o.dst with
 |none=>K r
 |some d=>bif Nat.blt d N then K ((d,v)::r)else False
noncomputable def UP(P:Program)(N:Nat)(ek:Option (Kind×Kind))(o:Oper)(r:cI)(K:cI→ad→Prop)(h:ad):Prop:=
 bif xd P o.op then Cc P ek o.op r (fun v _=>AX N o v r fun r'=>K r' h) h
 else Gi P o r (fun v h'=>AX N o v r fun r'=>K r' h') h
inductive DV where
 |f|t|u|x
abbrev vY:=List (Nat×DV)
noncomputable def sB(d:vY)(t:Nat):DV:=
 f9 (motive:=fun _=>DV) .x (fun kv _ ih=>bif bS kv.1 t then kv.2 else ih) d
noncomputable def AY(d:vY):Operand→DV
 | .tmp t=>sB d t
 | .const (.bool true)=>.t
 | .const (.bool false)=>.f
 |_=>.x
noncomputable def JE(d:vY):Op→DV
 | .move x=>AY d x
 | .assign x=>AY d x
 | .pick c a b=>match AY d c with
  | .t=>AY d a
  | .f=>AY d b
  |_=>.x
 | .unOp .not _ x=>match AY d x with
  | .t=>.f
  | .f=>.t
  |_=>.x
 |_=>.x
def tA(d:vY)(o:Oper)(v:DV):vY:=match o.dst with|some t=>(t,v)::d|none=>d
noncomputable def jF(ops:List Oper)(d:vY)(o:Oper):Option Bool:=
 match o.guard with
 |none=>some true
 |some (j,want)=>match ops[j]? with
  |none=>none
  |some oj=>match oj.dst with
   |none=>none
   |some t=>match sB d t with
    | .t=>some want
    | .f=>some (!want)
    | .u=>some false
    | .x=>none
def Ft(ops:List Oper)(o:Oper):Option Nat:=
 match o.guard with
 |none=>none
 |some (j,_)=>match ops[j]? with
  |none=>none
  |some oj=>oj.dst
noncomputable def Hb(P:Program)(N:Nat)(ek:Option (Kind×Kind))(ops:List Oper)(o:Oper)(d:vY)(r:cI)(h:ad)(K:vY→cI→ad→Prop):Prop:=
 match jF ops d o with
 |some true=>UP P N ek o r (K (tA d o (JE d o.op))) h
 |some false=>AX N o undef r fun r'=>K (tA d o .u) r' h
 |none=>False
noncomputable def EY(P:Program)(N:Nat)(ek:Option (Kind×Kind))(ops:List Oper)(l:List Oper):vY→(cI→ad→Prop)→cI→ad→Prop:=
 f9 (motive:=fun _=>vY→(cI→ad→Prop)→cI→ad→Prop) (fun _ K r h=>K r h)
  (fun o _ ih d K r h=>
  match jF ops d o with
  |some true=>UP P N ek o r (fun r' h'=>ih (tA d o (JE d o.op)) K r' h') h
  |some false=>AX N o undef r fun r'=>ih (tA d o .u) K r' h
  |none=>match Ft ops o with
   |none=>False
   |some t=>match lh r t with
    |some (.bool b)=>CondP b
     (Hb P N ek ops o ((t,.t)::d) ((t,.bool true)::r) h fun d' r' h'=>ih d' K r' h')
     (Hb P N ek ops o ((t,.f)::d) ((t,.bool false)::r) h fun d' r' h'=>ih d' K r' h')
    |_=>False) l
inductive DA where
 |done
 |take (i:Nat) (rest:DA)
 |all (l:DA)
 |pick (i:Nat) (rest more:DA)
 |last (i:Nat) (rest:DA)
 |lastT (i:Nat) (rest:DA)
 |split (t:Nat) (yes no:DA)
abbrev si:=List (Nat×(ad→Prop))
def tb(m i:Nat):Bool:=bS (ki (Nat.shiftRight m i) 1) 1
def iA(i:Nat):Nat:=Nat.pow 2 i
inductive DM where
 |mk (am fr lk ds:Nat)
def DM.am:DM→Nat| .mk a _ _ _=>a
def DM.fr:DM→Nat| .mk _ f _ _=>f
def DM.lk:DM→Nat| .mk _ _ l _=>l
def DM.ds:DM→Nat| .mk _ _ _ d=>d
def jW(o:Oper)(i:Nat):Bool:=o.after.toList.any fun e=>bS e.on i&&Region.binds .any e
noncomputable def nJ(l:List Edge):Nat:=
 f9 (motive:=fun _=>Nat) 0 (fun e _ ih=>bif Region.binds .any e then db (iA e.on) ih else ih) l
noncomputable def mO(l:List Operand):Nat:=
 f9 (motive:=fun _=>Nat) 0 (fun o _ ih=>match o with| .tmp t=>db (iA t) ih|_=>ih) l
def o8(o:Oper):Nat:=match o.dst with|some d=>iA d|none=>0
noncomputable def pI(ops:List Oper)(o:Oper):Nat:=
 db (mO o.op.operands.toList) (match o.guard with
  |some (g,_)=>(match ops[g]? with|some og=>o8 og|none=>0)
  |none=>0)
noncomputable def xE(ops:List Oper)(l:List Oper):List DM→Bool:=
 f9 (motive:=fun _=>List DM→Bool) (fun ms=>match ms with| []=>true|_=>false)
  (fun o _ ih ms=>match ms with
   |m::ms=>bS (nJ o.after.toList) m.am&&bS (pI ops o) m.lk&&bS (o8 o) m.ds&&ih ms
   | []=>false) l
def CB(x y:DM):Bool:=bS (ki x.ds (db y.lk y.ds)) 0&&bS (ki y.ds x.lk) 0
noncomputable def HM(i:Nat)(m:DM)(l:List DM):Nat→Bool:=
 f9 (motive:=fun _=>Nat→Bool) (fun _=>true)
  (fun n _ ih j=>(!(tb m.fr j)||bS j i||tb n.am i||CB m n)&&ih (gr j)) l
noncomputable def AU(all:List DM)(l:List DM):Nat→Bool:=
 f9 (motive:=fun _=>Nat→Bool) (fun _=>true) (fun m _ ih i=>HM i m all 0&&ih (gr i)) l
def KC:List Oper→Bool
 | []=>true
 |o::os=>(match o.op with| .select .. =>false| .defer _=>false|_=>true)&&KC os
noncomputable def El(ops:List Oper)(ms:List DM):Bool:=xE ops ops ms&&AU ms ms 0&&KC ops
def ud(o:Oper):si→si
 | []=> []
 |(k,S)::l=>bif jW o k then ud o l else(k,S)::ud o l
def vu:si→ad→Prop→Prop
 | [],_,R=>R
 |(_,S)::l,h,R=>S h∧vu l h R
def JC(m:DM)(ls:Nat):Bool:=bS (ki m.am ls) m.am
noncomputable def mU(ls:Nat)(l:List DM):Nat→List Nat:=
 f9 (motive:=fun _=>Nat→List Nat) (fun _=> []) (fun m _ ih j=>bif !(tb ls j)&&JC m ls then j::ih (gr j)else ih (gr j)) l
def EL(m:DM)(i ls n:Nat):Bool:= !(tb ls i)&&JC m ls&&bS (ki (db ls m.fr) (yn (iA n))) (yn (iA n))
def wz:List Nat→List Nat→Bool
 | [],[]=>true
 |a::as,b::bs=>bS a b&&wz as bs
 |_,_=>false
def Cn:DA→List Nat
 | .pick i _ l=>i::Cn l
 | .last i _=> [i]
 | .lastT i _=> [i]
 |_=> []
noncomputable def Pf(P:Program)(N:Nat)(ops:List Oper)(i:Nat)(L:si)(d:vY)(r:cI)(h:ad)(K:si→vY→cI→ad→Prop):Prop:=
 match ops[i]? with
 |none=>False
 |some o=>match jF ops d o with
  |some true=>bif xd P o.op then False else Gi P o r (fun v h'=>AX N o v r fun r'=>vu (ud o L) h' (K (ud o L) (tA d o .x) r' h')) h
  |_=>False
noncomputable def Qg(m:Nat)(l:List DM):Nat→Nat:=
 f9 (motive:=fun _=>Nat→Nat) (fun _=>m) (fun n _ ih j=>bif tb m j then db n.am (ih (gr j))else ih (gr j)) l
noncomputable def AZ(ms:List DM)(m:Nat):Nat:=Qg (Qg (Qg (Qg m ms 0) ms 0) ms 0) ms 0
def Jl(ms:List DM)(i:Nat):Nat:=match ms[i]? with|some m=>m.am|none=>0
def AC(m:Nat):si→si
 | []=> []
 |(k,S)::l=>bif tb m k then AC m l else(k,S)::AC m l
noncomputable def Of(P:Program)(N:Nat)(ops:List Oper)(ms:List DM)(i:Nat)(L:si)(d:vY)(r:cI)(h:ad)(K:si→vY→cI→ad→Prop):Prop:=
 match ops[i]? with
 |none=>False
 |some o=>match jF ops d o with
  |some true=>bif xd P o.op then False else Gi P o r (fun v h'=>AX N o v r fun r'=>vu (AC (AZ ms (Jl ms i)) L) h' (K (AC (AZ ms (Jl ms i)) L) (tA d o .x) r' h')) h
  |_=>False
noncomputable def oC(P:Program)(N:Nat)(ops:List Oper)(ms:List DM)(da:DA):Bool→Nat→si→vY→(cI→ad→Prop)→cI→ad→Prop:=
 DA.rec (motive:=fun _=>Bool→Nat→si→vY→(cI→ad→Prop)→cI→ad→Prop)
  (fun m ls _ _ K r h=>bif !m&&wz (mU ls ms 0) []then K r h else False)
  (fun i _ ih m ls L d K r h=>
   match ops[i]?,ms[i]? with
   |some o,some mi=>bif !m&&EL mi i ls ops.length then
     (match jF ops d o with
      |none=>False
      |some false=>AX N o undef r fun r'=>ih false (db ls (iA i)) L (tA d o .u) K r' h
      |some true=>bif xd P o.op then
       Cc P none o.op r (fun v S=>AX N o v r fun r'=>match S with
        |none=>ih false (db ls (iA i)) L (tA d o (JE d o.op)) K r' h
        |some S=>ih false (db ls (iA i)) ((i,S)::L) (tA d o (JE d o.op)) K r' h) h
       else False)
    else False
   |_,_=>False)
  (fun l ih m ls L d K r h=>bif !m&&wz (mU ls ms 0) (Cn l)then ih true ls L d K r h else False)
  (fun i _ _ ih1 ih2 m ls L d K r h=>bif m then Pf P N ops i L d r h (fun L' d' r' h'=>ih1 false (db ls (iA i)) L' d' K r' h')∧ih2 true ls L d K r h else False)
  (fun i _ ih m ls L d K r h=>bif m then Pf P N ops i L d r h (fun L' d' r' h'=>ih false (db ls (iA i)) L' d' K r' h')else False)
  (fun i _ ih m ls L d K r h=>bif m then Of P N ops ms i L d r h (fun L' d' r' h'=>ih false (db ls (iA i)) L' d' K r' h')else False)
  (fun t _ _ ih1 ih2 m ls L d K r h=>
   bif m then False else match lh r t with
   |some (.bool b)=>CondP b (ih1 false ls L ((t,.t)::d) K ((t,.bool true)::r) h) (ih2 false ls L ((t,.f)::d) K ((t,.bool false)::r) h)
   |_=>False)
  da
noncomputable def V0(_o:Oper)(i:Nat)(ds lk:Nat)(ops:List Oper)(l:List Oper):Nat→Nat:=
 f9 (motive:=fun _=>Nat→Nat) (fun _=>0) (fun p _ ih j=>bif (bS j i||jW p i||(bS (ki ds (db (pI ops p) (o8 p))) 0&&bS (ki (o8 p) lk) 0))then db (iA j) (ih (gr j))else ih (gr j)) l
noncomputable def VY(ops:List Oper)(l:List Oper):Nat→List DM:=
 f9 (motive:=fun _=>Nat→List DM) (fun _=> []) (fun o _ ih i=>.mk (nJ o.after.toList) (V0 o i (o8 o) (pI ops o) ops ops 0) (pI ops o) (o8 o)::ih (gr i)) l
def UV(P:Program)(w:Option Bool)(o:Oper):Bool:=match w with|some false=>true|some true=>xd P o.op|none=>false
noncomputable def UA(P:Program)(ops:List Oper)(d:vY)(ls n:Nat)(l:List Oper):List DM→Nat→Option (Nat×Oper):=
 f9 (motive:=fun _=>List DM→Nat→Option (Nat×Oper)) (fun _ _=>none)
  (fun o _ ih ms j=>match ms with
   | []=>none
   |m::ms=>bif EL m j ls n&&UV P (jF ops d o) o then some (j,o)else ih ms (gr j)) l
noncomputable def UB(ops:List Oper)(d:vY)(ls:Nat)(l:List Oper):List DM→Nat→Option Nat:=
 f9 (motive:=fun _=>List DM→Nat→Option Nat) (fun _ _=>none)
  (fun o _ ih ms j=>match ms with
   | []=>none
   |m::ms=>match bif !(tb ls j)&&JC m ls then(match jF ops d o with|none=>Ft ops o|some _=>none)else none with
    |some t=>some t
    |none=>ih ms (gr j)) l
noncomputable def Vc(ops:List Oper)(k:Nat→vY→DA)(ls:Nat)(d:vY)(l:List Nat):DA:=
 f9 (motive:=fun _=>DA) .done (fun i rest ih=>match ops[i]? with
  |none=>.done
  |some o=>match rest with
   | []=>.last i (k (db ls (iA i)) (tA d o .x))
   |_=>.pick i (k (db ls (iA i)) (tA d o .x)) ih) l
noncomputable def UI(P:Program)(ops:List Oper)(ms:List DM)(fuel:Nat):Nat→vY→DA:=
 Nat.rec (motive:=fun _=>Nat→vY→DA) (fun _ _=>.done) (fun _ ih ls d=>
  match UA P ops d ls ops.length ops ms 0 with
  |some (i,o)=>.take i (ih (db ls (iA i)) (match jF ops d o with|some false=>tA d o .u|_=>tA d o (JE d o.op)))
  |none=>match UB ops d ls ops ms 0 with
   |some t=>.split t (ih ls ((t,.t)::d)) (ih ls ((t,.f)::d))
   |none=>match mU ls ms 0 with
    | []=>.done
    |l=>.all (Vc ops ih ls d l)) fuel
noncomputable def Oy(ops:List Oper):List DM:=VY ops ops 0
inductive Ex where
 |exit (id:Nat)
 |ret
abbrev St:=List (Nat×Kind)
def zw:St→List Kind
 | []=> []
 |(_,k)::l=>k::zw l
noncomputable def ES(r:cI):St→Option (List Value)
 | []=>some []
 |(i,_)::l=>match lh r i,ES r l with
  |some v,some vs=>some (v::vs)
  |_,_=>none
noncomputable def Dc(st:St)(r:cI)(f:cQ (zw st)→Prop):Prop:=
 match ES r st with
 |some vs=>D4 (zw st) vs f
 |none=>False
def oU:St→List Value→cI→cI
 |(i,_)::l,v::vs,r=>(i,v)::oU l vs r
 |_,_,r=>r
noncomputable def OF(r:cI)(l:List Nat):Option cI:=
 f9 (motive:=fun _=>Option cI) (some []) (fun t _ ih=>match lh r t,ih with
  |some v,some l=>some ((t,v)::l)
  |_,_=>none) l
noncomputable def mM(t:Nat)(l:List Oper):Bool:=
 f9 (motive:=fun _=>Bool) false (fun o _ ih=>match o.dst with|some d=>bif bS d t then true else ih|none=>ih) l
noncomputable def ic(t:Nat)(c:Code):Bool:=
 Code.rec (motive:=fun _=>Bool) false (fun _ ops _=>mM t ops.toList) (fun _ _ a b=>bif a then true else b) (fun _ _ _ a b=>bif a then true else b)
  (fun _ _ b=>b) (fun _ b=>b) (fun _ _ _ _ _ _=>true) (fun _=>false) (fun _ b=>b) (fun _=>false) (fun _=>false) false (fun _=>false) c
inductive Ann where
 |nil
 |node (a b:Ann)
 |join (st:St) (a b:Ann)
 |loop (st:St) (b:Ann)
 |draw (d:DA)
 |kinds (k v:Kind)
 |reg (keep:List Nat) (inner:Ann)
 |rf (ks:List Kind) (a b:Ann)
def Ann.l:Ann→Ann
 | .node a _=>a
 | .rf _ a _=>a
 |_=>.nil
def Ann.r:Ann→Ann
 | .node _ b=>b
 | .rf _ _ b=>b
 |_=>.nil
noncomputable def Qs(l:List Oper):Nat:=f9 (motive:=fun _=>Nat) 0 (fun o _ ih=>db (o8 o) ih) l
def Vf:Option Nat→Option Nat→Option Nat
 |some a,some b=>some (db a b)
 |_,_=>none
noncomputable def yP(c:Code):Option Nat:=
 Code.rec (motive:=fun _=>Option Nat) (some 0) (fun _ ops _=>some (Qs ops.toList)) (fun _ _ a b=>Vf a b) (fun _ _ _ a b=>Vf a b)
  (fun _ _ b=>b) (fun _ b=>b) (fun _ _ _ _ _ _=>none) (fun _=>some 0) (fun _ b=>b) (fun _=>some 0) (fun _=>some 0) (some 0) (fun _=>some 0) c
noncomputable def xH(m:Nat)(r:cI):cI:=f9 (motive:=fun _=>cI) [] (fun kv _ ih=>bif tb m kv.1 then ih else kv::ih) r
noncomputable def B5(P:Program)(N:Nat)(ops:List Oper)(dr:Bool)(an:Ann)(Kn:cI→ad→Prop)(r:cI)(h:ad):Prop:=
 match dr with
 |false=>(match an with
  | .kinds kk vk=>EY P N (some (kk,vk)) ops ops [] Kn r h
  |_=>EY P N none ops ops [] Kn r h)
 |true=>bif El ops (Oy ops)then oC P N ops (Oy ops) (match an with| .draw da=>da|_=>UI P ops (Oy ops) (Nat.add (Nat.add ops.length ops.length) 2) 0 []) false 0 [] [] Kn r h else False
noncomputable def mq(P:Program)(N:Nat)(c:Code):Ann→(cI→ad→Prop)→(Ex→cI→ad→Prop)→cI→ad→Prop:=
 Code.rec (motive:=fun _=>Ann→(cI→ad→Prop)→(Ex→cI→ad→Prop)→cI→ad→Prop)
  (fun _ Kn _ r h=>Kn r h)
  (fun _ ops dr an Kn _ r h=>match an with
   | .reg keep an=>B5 P N ops.toList dr an (fun r' h'=>match OF r' keep with|some r0=>Kn r0 h'|none=>False) r h
   |an=>B5 P N ops.toList dr an Kn r h)
  (fun a _ iha ihb an Kn Kx r h=>match an with
   | .join st aa ab=>(match yP a with
     |none=>False
     |some m=>Join (T:=cQ (zw st)) (fun t h'=>ihb ab Kn Kx (oU st (oH (zw st) t) (xH m r)) h')
      fun J=>iha aa (fun r' h'=>Dc st r' fun t=>J t h') Kx r h)
   |an=>iha an.l (fun r' h'=>ihb an.r Kn Kx r' h') Kx r h)
  (fun c _ _ iha ihb an Kn Kx r h=>match dJ r c with
   |some (.bool t)=>CondP t (iha an.l Kn Kx r h) (ihb an.r Kn Kx r h)
   |_=>False)
  (fun id _ ih an Kn Kx r h=>ih an Kn (fun e r' h'=>match e with
    | .exit i=>bif bS i id then Kn r' h' else Kx (.exit i) r' h'
    | .ret=>Kx .ret r' h') r h)
  (fun b ih an _ Kx r h=>match an with
   | .loop st ab=>(match yP b with
     |none=>False
     |some m=>Dc st r fun t0=>LoopP (T:=cQ (zw st)) (fun self t h'=>ih ab (fun r' h''=>Dc st r' fun t'=>self t' h'') Kx (oU st (oH (zw st) t) (xH m r)) h') t0 h)
   |_=>False)
  (fun _ _ _ _ _ _ _ _ _ _ _=>False)
  (fun id _ _ Kx r h=>Kx (.exit id) r h)
  (fun _ _ _ _ _ _ _=>False)
  (fun _ _ Kn _ r h=>Kn r h)
  (fun _ _ _ _ _ _=>False)
  (fun _ _ Kx r h=>Kx .ret r h)
  (fun _ _ _ _ _ _=>False)
  c
noncomputable def oW(P:Program)(r:cI)(h:ad):List ResultVar→(List Value→Prop)→Prop
 | [],K=>K []
 | .tmp t::l,K=>(match lh r t with|some v=>oW P r h l fun vs=>K (v::vs)|none=>False)
 | .cell a t::l,K=>(match lh r a with
  |some v=>Kj P t v (fun x _=>oW P r h l fun vs=>K (x::vs)) h
  |none=>False)
def ry:Nat→List Value→cI
 |_,[]=> []
 |i,v::vs=>(i,v)::ry (i+1) vs
noncomputable def Og(P:Program)(fn:Func)(c:Code)(an:Ann)(args:List Value)(ks:List Kind)(K:cQ ks→ad→Prop)(h:ad):Prop:=
 mq P fn.ntmps c an
  (fun r h'=>oW P r h' fn.results.toList fun vs=>D4 ks vs fun t=>K t h')
  (fun e r h'=>match e with
   | .ret=>oW P r h' fn.results.toList fun vs=>D4 ks vs fun t=>K t h'
   | .exit _=>False)
  (ry 0 args) h
noncomputable def tg(c:Code):Bool:=
 Code.rec (motive:=fun _=>Bool) false (fun _ _ _=>false) (fun _ _ a b=>bif a then true else b) (fun _ _ _ a b=>bif a then true else b)
  (fun _ _ b=>b) (fun _ b=>b) (fun _ _ _ _ _ _=>true) (fun _=>false) (fun _ b=>b) (fun _=>false) (fun _=>false) false (fun _=>false) c
def IY:Option Ex→Option Code
 |none=>none
 |some (.exit i)=>some (.exit i)
 |some .ret=>some .ret
def V3(N:ad→Prop)(X:Nat→ad→Prop)(R:ad→Prop):Option Ex→ad→Prop
 |none=>N
 |some (.exit i)=>X i
 |some .ret=>R
structure RangeP(P:Program)(fv:Value)(ks:List Kind)(h:ad)(RT:Obj→Obj→cQ ks→(Option Ex→ad→Prop)→ad→Prop)(N:ad→Prop)(X:Nat→ad→Prop)(R:ad→Prop):Prop where
 run:∀lo:LoopState→Option Ex→Obj,(∀s j,∃r,lo s j=.loop r)→
  (∀x h' K,h'[h.size+1]? =some (lo .ready none)→
   RT (lo .ready none) (lo .busy none) x (fun j h2=>h2[h.size+1]? =some (lo .busy none)∧K j.isNone (h2.setIfInBounds (h.size+1) (lo (if j.isNone then .ready else .done) j))) h'→
   HV P (.func (.yield (h.size+1)) #[] #[]) (oH ks x) [.c .bool] K h')→
  ∃f first cap,fv=.func (.func f) first cap∧HE P f (first.toList++ [.func (.yield (h.size+1)) #[] #[]]++cap.toList) []
   (fun _ h2=>∃s j,s≠ .busy∧h2[h.size+1]? =some (lo s j)∧V3 N X R j (h2.setIfInBounds (h.size+1) (lo .exhausted j))) ((h.push (.deferred (some []))).push (lo .ready none))
def Sv:List Nat→List Value→cI→cI
 |i::l,v::vs,r=>Sv l vs ((i,v)::r)
 |_,_,r=>r
noncomputable def Mi(P:Program)(N:Nat)(ps:List Nat)(ks:List Kind)(assign body:Code)(an:Ann)(r:cI)(l:Nat)(JC bz:Obj)(x:cQ ks)(k:Option Ex→ad→Prop)(h:ad):Prop:=
 mq P N assign an.l (fun r1 h1=>h1[l]? =some JC∧mq P N body an.r (fun _ h2=>k none h2) (fun e _ h2=>k (some e) h2) r1 (h1.setIfInBounds l bz)) (fun _ _ _=>False) (Sv ps (oH ks x) r) h
def zF(N:Nat):List Nat→Bool
 | []=>true
 |n::l=>Nat.blt n N&&zF N l
noncomputable def zB(P:Program)(N:Nat)(c:Code):Ann→(List Nat→cI→ad→Prop)→(Ex→List Nat→cI→ad→Prop)→List Nat→cI→ad→Prop:=
 Code.rec (motive:=fun _=>Ann→(List Nat→cI→ad→Prop)→(Ex→List Nat→cI→ad→Prop)→List Nat→cI→ad→Prop)
  (fun an Kn Kx ms r h=>mq P N .skip an (Kn ms) (fun e=>Kx e ms) r h)
  (fun id ops dr an Kn Kx ms r h=>mq P N (.region id ops dr) an (Kn ms) (fun e=>Kx e ms) r h)
  (fun a b iha ihb an Kn Kx ms r h=>bif (bif tg a then true else tg b)then iha an.l (fun ms r' h'=>ihb an.r Kn Kx ms r' h') Kx ms r h
   else mq P N (.seq a b) an (Kn ms) (fun e=>Kx e ms) r h)
  (fun c a b iha ihb an Kn Kx ms r h=>bif (bif tg a then true else tg b)then
    (match dJ r c with
     |some (.bool t)=>CondP t (iha an.l Kn Kx ms r h) (ihb an.r Kn Kx ms r h)
     |_=>False)
   else mq P N (.cond c a b) an (Kn ms) (fun e=>Kx e ms) r h)
  (fun id b ih an Kn Kx ms r h=>bif tg b then ih an Kn (fun e ms r' h'=>match e with
    | .exit i=>bif bS i id then Kn ms r' h' else Kx (.exit i) ms r' h'
    | .ret=>Kx .ret ms r' h') ms r h
   else mq P N (.block id b) an (Kn ms) (fun e=>Kx e ms) r h)
  (fun b _ an Kn Kx ms r h=>mq P N (.loop b) an (Kn ms) (fun e=>Kx e ms) r h)
  (fun g ps assign body _ _ an Kn Kx ms r h=>match an with
   | .rf ks aa ab=>bif zF N ps.toList&&bS ps.toList.length ks.length then
    (match dJ r g with
     |some fv=>RangeP P fv ks h (fun JC bz x k h'=>Mi P N ps.toList ks assign body (.node aa ab) r (h.size+1) JC bz x k h')
      (fun h'=>Kn (h.size::ms) r h') (fun i h'=>Kx (.exit i) (h.size::ms) r h') (fun h'=>Kx .ret (h.size::ms) r h')
     |none=>False)else False
   |_=>False)
  (fun id an Kn Kx ms r h=>mq P N (.exit id) an (Kn ms) (fun e=>Kx e ms) r h)
  (fun _ _ _ _ _ _ _ _=>False)
  (fun l an Kn Kx ms r h=>mq P N (.label l) an (Kn ms) (fun e=>Kx e ms) r h)
  (fun _ _ _ _ _ _ _=>False)
  (fun an Kn Kx ms r h=>mq P N .ret an (Kn ms) (fun e=>Kx e ms) r h)
  (fun _ _ _ _ _ _ _=>False)
  c
def Oe:List Nat→(ad→Prop)→ad→Prop
 | [],K,h=>K h
 |D::ms,K,h=>h[D]? =some (.deferred (some []))∧Oe ms K (h.setIfInBounds D (.deferred none))
noncomputable def Mj(P:Program)(fn:Func)(c:Code)(an:Ann)(args:List Value)(ks:List Kind)(K:cQ ks→ad→Prop)(h:ad):Prop:=
 zB P fn.ntmps c an
  (fun ms r h'=>Oe ms (fun h'=>oW P r h' fn.results.toList fun vs=>D4 ks vs fun t=>K t h') h')
  (fun e ms r h'=>match e with
   | .ret=>Oe ms (fun h'=>oW P r h' fn.results.toList fun vs=>D4 ks vs fun t=>K t h') h'
   | .exit _=>False)
  [] (ry 0 args) h
end Go.Lift
namespace Go.Lift
open Go
theorem FS(a:Addr):adr a 0=a:=rfl
theorem A9(a:Addr)(n:Nat):adr a (n+1)=⟨a.block,a.off+(n+1),none⟩:=rfl
theorem vd(a:Addr)(n:Nat):adr a n=a.add n:=by
 cases n with
 |zero=>simp[FS,Addr.add]
 |succ n=>simp[A9,Addr.add]
theorem Ba(a:Addr)(m n:Nat):adr (adr a m) n=adr a (m+n):=by
 cases n with
 |zero=>rfl
 |succ n=>cases m with
  |zero=>simp[FS]
  |succ m=>rw[A9,A9,show m+1+(n+1)=(m+1+n)+1 from rfl,A9];simp;omega
theorem Tame.refl(w:World):Tame w w:=⟨rfl,rfl,rfl⟩
theorem Tame.trans{a b c:World}(h:Tame a b)(k:Tame b c):Tame a c:=⟨k.os.trans h.os,k.tape.trans h.tape,k.output.trans h.output⟩
theorem AQ{a b:IntKind}(h:IS a b=true):a=b:=by cases a<;>cases b<;>first|rfl|cases h
theorem CK.dec_sound{c:CK}{v:Value}{f:c.den→Prop}(h:c.dec v f):∃x,v=c.enc x∧f x:=by
 cases c<;>cases v<;>try simp only[CK.dec]at h
 case int.int k k' n=>
  cases hk:IS k' k with
  |false=>rw[hk]at h;exact h.elim
  |true=>rw[hk]at h;have:=AQ hk;subst this;exact⟨n,rfl,h⟩
 case adr.pointer p=>cases p with
  |none=>exact h.elim
  |some a=>exact⟨a,rfl,h⟩
 all_goals first|exact h.elim|exact⟨_,rfl,h⟩
theorem Dz:∀{cs:List CK} {vs:List Value} {f:Sh cs→Prop},OV cs vs f→∃t,vs=RQ cs t∧f t
 | [],[],f,h=>⟨(),rfl,h⟩
 | [],_::_,f,h=>h.elim
 | [c],[v],f,h=>by obtain⟨x,rfl,hf⟩:=CK.dec_sound h;exact⟨x,rfl,hf⟩
 | [c],[],f,h=>h.elim
 | [c],_::_::_,f,h=>h.elim
 |c::d::cs,[],f,h=>h.elim
 |c::d::cs,[_],f,h=>h.elim
 |c::d::cs,v::u::vs,f,h=>by
  have h0:c.dec v fun x=>OV (d::cs) (u::vs) fun t=>f (x,t):=h
  obtain⟨x,hx,h1⟩:=CK.dec_sound h0;obtain⟨t,ht,h2⟩:=Dz (cs:=d::cs) (vs:=u::vs) h1;exact⟨(x,t),by rw[ht,hx];rfl,h2⟩
theorem Kind.dec_sound{k:Kind}{v:Value}{f:k.den→Prop}(h:k.dec v f):∃x,v=k.enc x∧f x:=by
 cases k with
 |c k=>exact CK.dec_sound h
 |agg cs=>
  cases v<;>simp only[Kind.dec]at h
  case agg vs=>
   obtain⟨t,ht,hf⟩:=Dz h;exact⟨t,by simp only[Kind.enc,←ht],hf⟩
theorem tx:∀{ks:List Kind} {vs:List Value} {f:cQ ks→Prop},D4 ks vs f→∃t,vs=oH ks t∧f t
 | [],[],f,h=>⟨(),rfl,h⟩
 | [],_::_,f,h=>h.elim
 | [c],[v],f,h=>by obtain⟨x,rfl,hf⟩:=Kind.dec_sound h;exact⟨x,rfl,hf⟩
 | [c],[],f,h=>h.elim
 | [c],_::_::_,f,h=>h.elim
 |c::d::cs,[],f,h=>h.elim
 |c::d::cs,[_],f,h=>h.elim
 |c::d::cs,v::u::vs,f,h=>by
  have h0:c.dec v fun x=>D4 (d::cs) (u::vs) fun t=>f (x,t):=h
  obtain⟨x,hx,h1⟩:=Kind.dec_sound h0;obtain⟨t,ht,h2⟩:=tx (ks:=d::cs) (vs:=u::vs) h1;exact⟨(x,t),by rw[ht,hx];rfl,h2⟩
theorem ul:∀(ks:List Kind) (t:cQ ks),(oH ks t).length=ks.length
 | [],_=>rfl
 | [_],_=>rfl
 |_::l::ks,(_,t)=>by simp only[oH,ak,ul (l::ks) t]
structure Agree(N:Nat)(r:cI)(a:Act):Prop where
 size:a.tmps.size=N
 look:∀t v,lh r t=some v→a.tmps.getD t undef=v
theorem jk(k:Nat)(v:Value)(r:cI):lh ((k,v)::r) k=some v:=by rw[E2,show bS k k=true from Nat.beq_refl k];rfl
theorem iE{k t:Nat}(v:Value)(r:cI)(h:k≠t):lh ((k,v)::r) t=lh r t:=by
 rw[E2];have:bS k t=false:=Bool.eq_false_iff.2 fun e=>h (aY e)
 rw[this];rfl
theorem Agree.put{N:Nat}{r:cI}{a:Act}(h:Agree N r a)(d:Nat)(v:Value)(hd:d<N):Agree N ((d,v)::r) (a.put (some d) v):=by
 refine⟨by simp[Act.put,h.size],fun t u hu=>?_⟩
 by_cases e:d=t
 ·subst e
  rw[jk]at hu;cases hu;simp[Act.put,h.size,hd]
 ·rw[iE v r e]at hu
  have:=h.look t u hu;simpa[Act.put,Array.getElem?_setIfInBounds_ne e]using this
theorem Agree.known{N:Nat}{r:cI}{a:Act}(h:Agree N r a){t:Nat}{v:Value}(hv:lh r t=some v):Agree N ((t,v)::r) a:=by
 refine⟨h.size,fun s u hu=>?_⟩
 by_cases e:t=s
 ·subst e;rw[jk]at hu;cases hu;exact h.look t v hv
 ·rw[iE v r e]at hu;exact h.look s u hu
theorem mS{N:Nat}{r:cI}{a:Act}(h:Agree N r a){o:Operand}{v:Value}(hv:dJ r o=some v):a.eval o=v:=by
 cases o with
 |tmp t=>exact h.look t v hv
 |const c=>simp[dJ]at hv;subst hv;rfl
 |global g=>simp[dJ]at hv;subst hv;rfl
 |func f=>simp[dJ]at hv;subst hv;rfl
theorem pU{N:Nat}{r:cI}{a:Act}(h:Agree N r a):∀{os:List Operand} {vs:List Value},rZ r os=some vs→os.map a.eval=vs
 | [],vs,hv=>by simp[rZ]at hv;subst hv;rfl
 |o::os,vs,hv=>by
  simp only[rZ]at hv;cases ho:dJ r o with
  |none=>simp[ho]at hv
  |some v=>cases hos:rZ r os with
   |none=>simp[ho,hos]at hv
   |some us=>simp[ho,hos]at hv;subst hv;simp[mS h ho,pU h hos]
theorem aF{P:Program}{t:TypeId}{d:TypeDesc}(h:P.underlying t=some d)(w:World):(underlying t).run P w=.ok d w:=by
 simp only[underlying,program,bind,Sem.bind,Sem.run,h,pure]
theorem cZ{P:Program}{t:TypeId}{i:TypeInfo}(h:P.info? t=some i)(w:World):(typeInfo t).run P w=.ok i w:=by
 simp only[typeInfo,program,bind,Sem.bind,Sem.run,h,pure]
theorem jO{P:Program}{s:Sem Value}{v:Value}{w w':World}(h:s.run P w=.ok v w'):(do pure (Next.value (←s)):Sem Next).run P w=.ok (.value v) w':=by
 simp[h]
theorem QW{P:Program}{s:Sem Unit}{w w':World}(h:s.run P w=.ok () w'):(do s;pure Next.skip:Sem Next).run P w=.ok .skip w':=by
 simp[h]
theorem AB{P:Program}{w:World}{a:Addr}{v:Value}(h:aS w.heap a=some v):(load a).run P w=.ok v w:=by
 have h':w.cell? a=some v:=h;simp[h']
theorem A5{v:Value}{vs:List Value}{i:Nat}{a:Addr}{h:ad}:uo (v::vs) i a h↔aS h (adr a i)=some v∧uo vs (i+1) a h:=by
 cases vs with
 |nil=>simp[uo]
 |cons u us=>rfl
theorem uc{P:Program}{w:World}{a:Addr}:∀(vs:List Value) (i:Nat) (acc:Array Value),uo vs i a w.heap→
  (loadCellsFrom a i vs.length acc).run P w=.ok (acc++vs.toArray) w
 | [],i,acc,_=>by simp[loadCellsFrom]
 |v::vs,i,acc,h=>by
  obtain⟨h1,h2⟩:=A5.1 h;rw[vd]at h1;have:=uc (P:=P) (w:=w) (a:=a) vs (i+1) (acc.push v) h2;simp only[ak,loadCellsFrom,Sem.run_bind,AB h1,Result.andThen_ok,this];simp
theorem Gm{P:Program}{w:World}{a:Addr}{vs:List Value}(h:uo vs 0 a w.heap):(loadCells a vs.length).run P w=.ok vs.toArray w:=by
 have:=uc (P:=P) (w:=w) (a:=a) vs 0 #[] h;simpa[loadCells]using this
theorem yX:∀(cs:List CK) (i:Nat) (a:Addr) (h:ad) (k:List Value→Prop),IZ cs i a h k→∃vs,vs.length=cs.length∧uo vs i a h∧k vs
 | [],i,a,h,k,hk=>⟨[],rfl,trivial,hk⟩
 |c::cs,i,a,h,k,hk=>by
  obtain⟨x,hx,hk⟩:=hk;obtain⟨vs,hl,hc,hk⟩:=yX cs (i+1) a h _ hk;exact⟨c.enc x::vs,by simp[hl],A5.2 ⟨hx,hc⟩,hk⟩
theorem A0:∀{vs:List Value} {cs:List CK},FH vs=some cs→cs.length=vs.length
 | [],cs,h=>by simp[FH]at h;subst h;rfl
 |v::vs,cs,h=>by
  simp only[FH]at h;cases h1:UH v with
  |none=>simp[h1]at h
  |some c=>cases h2:FH vs with
   |none=>simp[h1,h2]at h
   |some ds=>simp[h1,h2]at h;subst h;simp[A0 h2]
def Sg(P:Program)(t:TypeId)(i:TypeInfo):Kind→Prop
 | .c _=>wU P t=false
 | .agg cs=>wU P t=true∧i.size=cs.length
theorem MW{P:Program}{t:TypeId}{k:Kind}(h:OD P t=some k):∃i,P.info? t=some i∧Sg P t i k:=by
 unfold OD yO at h;cases hi:P.info? t with
 |none=>simp[hi]at h
 |some i=>
  refine⟨i,rfl,?_⟩;cases hz:i.zero with
  |none=>simp[hi,hz]at h
  |some z=>
   rw[hi]at h;simp only[hz]at h;cases z;case agg vs=>
    simp only at h;cases hb:(wU P t&&bS vs.toList.length (cl P t))with
    |false=>rw[hb]at h;simp at h
    |true=>
     rw[hb]at h;simp only[cond_true]at h;simp only[Bool.and_eq_true]at hb;have hs:=aY hb.2;cases hd:FH vs.toList with
     |none=>rw[hd]at h;simp at h
     |some ds=>
      rw[hd]at h;simp only[bR.injEq]at h;subst h;exact⟨hb.1,by rw[A0 hd,hs];simp[cl,hi]⟩
   all_goals
    simp only at h;cases ha:wU P t
    ·rw[ha]at h
     simp only[cond_false]at h;split at h
     ·simp only[bR.injEq]at h;subst h;exact ha
     ·simp at h
    ·rw[ha]at h;simp at h
theorem MX{P:Program}{t:TypeId}{k:Kind}(h:Fi P t=some k):(∀w,(isAgg t).run P w=.ok (wU P t) w)∧OD P t=some k:=by
 unfold Fi at h;cases hu:P.underlying t with
 |none=>simp[hu]at h
 |some d=>
  simp only[hu]at h;refine⟨fun w=>?_,h⟩
  simp only[isAgg,Sem.run_bind,aF hu,Result.andThen_ok];unfold wU;rw[hu];cases d<;>rfl
theorem Dj{P:Program}{t:TypeId}{v:Value}{K:RK}{h:ad}(hl:Kj P t v K h):
  ∃u S,K u (some S)∧S h∧∀w:World,S w.heap→(Instr.loadAt t v).run P w=.ok u w:=by
 unfold Kj at hl;cases v with
 |pointer p=>
  cases p with
  |none=>exact hl.elim
  |some a=>
   simp only at hl;cases hk:Fi P t with
   |none=>simp[hk]at hl
   |some k=>
    obtain⟨hagg,hz⟩:=MX hk;obtain⟨i,hi,hc⟩:=MW hz;rw[hk]at hl;cases k with
    |c c=>
     obtain⟨x,hx,hK⟩:=hl;refine⟨_,_,hK,hx,fun w hw=>?_⟩
     have hc:wU P t=false:=hc;simp only[Instr.loadAt,Instr.sureAddr,loadVar,Sem.run_bind,Sem.run_pure,Result.andThen_ok,hagg,hc];simp[AB hw]
    |agg cs=>
     obtain⟨vs,hlen,hcs,hK⟩:=yX cs 0 a h _ hl;obtain⟨h1,h2⟩:wU P t=true∧i.size=cs.length:=hc;refine⟨_,_,hK,hcs,fun w hw=>?_⟩
     have hz:(sizeOf t).run P w=.ok vs.length w:=by simp[sizeOf,cZ hi,h2,hlen]
     simp only[Instr.loadAt,Instr.sureAddr,loadVar,Sem.run_bind,Sem.run_pure,Result.andThen_ok,hagg,h1];simp[hz,Gm hw]
 |_=>exact hl.elim
end Go.Lift
