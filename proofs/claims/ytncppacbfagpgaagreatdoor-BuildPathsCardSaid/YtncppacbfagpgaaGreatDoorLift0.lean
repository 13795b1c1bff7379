/- A part of the proof that the named laws of this program answer true, whatever the input. -/
import Derived.OrdersIn
import Derived.Below
import Derived.WalkKit
import Derived.RangeFuncRecord
open BitVec renaming ofInt→ap
open List renaming rec→eT,replicate→iY,length_cons→aq
open Nat renaming succ→fh,beq→bm,min→dz,land→iv,lor→cG,pred→tQ,eq_of_beq_eq_true→aP
open Option renaming some→bG
namespace Go.Lift
abbrev ae:=Array Obj
def aE(h:ae)(a:Addr):Option Value:=
 match h[a.block]? with
 |some (.cells c _ _)=>if a.spot.isSome then none else c[a.off]?
 |_=>none
def Al(h:ae)(a:Addr):Bool:=
 match h[a.block]? with
 |some (.cells _ _ (lo,hi))=>lo≤a.off&&a.off<hi
 |_=>false
def hset(h:ae)(a:Addr)(v:Value):ae:=
 h.modify a.block fun
  | .cells c elem frozen=>.cells (if a.spot.isSome then c else c.setIfInBounds a.off v) elem frozen
  |o=>o
noncomputable def adr(a:Addr)(n:Nat):Addr:=Nat.rec (motive:=fun _=>Addr) a (fun n _=>⟨a.block,a.off+fh n,none⟩) n
def Wr(h:ae)(a:Addr):Prop:=(∃v,aE h a=some v)∧Al h a=false
structure Tame(w w':World):Prop where
 os:w'.os=w.os
 tape:w'.tape=w.tape
 output:w'.output=w.output
structure SliceV where
 a:Option Addr
 len:Nat
 cap:Nat
def EE:IntKind→IntKind→Bool
 | .i8,.i8=>true| .i16,.i16=>true| .i32,.i32=>true| .i64,.i64=>true
 | .u8,.u8=>true| .u16,.u16=>true| .u32,.u32=>true| .u64,.u64=>true
 |_,_=>false
inductive CK where
 |int (k:IntKind)|bool|str|ptr|slice|map|chan|raw|adr
def CK.den:CK→Type
 | .int _=>Int| .bool=>Bool| .str=>ByteArray| .ptr=>Option Addr| .slice=>SliceV| .map=>Option Nat| .chan=>Option Nat| .raw=>Value| .adr=>Addr
def CK.enc:(c:CK)→c.den→Value
 | .int k,n=>.int k n
 | .bool,b=>.bool b
 | .str,s=>.string s
 | .ptr,p=>.pointer p
 | .slice,s=>.slice s.a s.len s.cap
 | .map,r=>.map r
 | .chan,r=>.chan r
 | .raw,v=>v
 | .adr,a=>.pointer (some a)
def CK.dec:(c:CK)→Value→(c.den→Prop)→Prop
 | .int k,.int k' n,f=>bif EE k' k then f n else False
 | .bool,.bool b,f=>f b
 | .str,.string s,f=>f s
 | .ptr,.pointer p,f=>f p
 | .slice,.slice a l c,f=>f ⟨a,l,c⟩
 | .map,.map r,f=>f r
 | .chan,.chan r,f=>f r
 | .raw,v,f=>f v
 | .adr,.pointer (some a),f=>f a
 |_,_,_=>False
def Me:List CK→Type
 | []=>Unit
 | [c]=>c.den
 |c::d::cs=>c.den×Me (d::cs)
def LX:(cs:List CK)→Me cs→List Value
 | [],_=> []
 | [c],x=> [c.enc x]
 |c::d::cs,(x,t)=>c.enc x::LX (d::cs) t
def Ju:(cs:List CK)→List Value→(Me cs→Prop)→Prop
 | [],[],f=>f ()
 | [c],[v],f=>c.dec v f
 |c::d::cs,v::u::vs,f=>c.dec v fun x=>Ju (d::cs) (u::vs) fun t=>f (x,t)
 |_,_,_=>False
inductive Kind where
 |c (k:CK)
 |agg (cs:List CK)
def Kind.den:Kind→Type
 | .c k=>k.den
 | .agg cs=>Me cs
def Kind.enc:(k:Kind)→k.den→Value
 | .c k,x=>k.enc x
 | .agg cs,t=>.agg (LX cs t).toArray
def Kind.dec:(k:Kind)→Value→(k.den→Prop)→Prop
 | .c k,v,f=>k.dec v f
 | .agg cs,.agg vs,f=>Ju cs vs.toList f
 |_,_,_=>False
def cJ:List Kind→Type
 | []=>Unit
 | [k]=>k.den
 |k::l::ks=>k.den×cJ (l::ks)
def lR:(ks:List Kind)→cJ ks→List Value
 | [],_=> []
 | [k],x=> [k.enc x]
 |k::l::ks,(x,t)=>k.enc x::lR (l::ks) t
def zK:(ks:List Kind)→List Value→(cJ ks→Prop)→Prop
 | [],[],f=>f ()
 | [k],[v],f=>k.dec v f
 |k::l::ks,v::u::vs,f=>k.dec v fun x=>zK (l::ks) (u::vs) fun t=>f (x,t)
 |_,_,_=>False
def A2(ks:List Kind)(vs:List Value):Value:=
 match ks,vs with
 | [_],[v]=>v
 |_,vs=>.tuple vs.toArray
def NQ:Value→Option CK
 | .int k _=>some (.int k)
 | .bool _=>some .bool
 | .string _=>some .str
 | .pointer _=>some .ptr
 | .slice .. =>some .slice
 | .map _=>some .map
 | .chan _=>some .chan
 | .nilFunc=>some .raw
 | .nilIface=>some .raw
 |_=>none
def Bz:List Value→Option (List CK)
 | []=>some []
 |v::vs=>match NQ v,Bz vs with
  |some c,some cs=>some (c::cs)
  |_,_=>none
def sq(P:Program)(t:TypeId):Bool:=
 match P.underlying t with
 |some (.struct _)|some (.array _ _)=>true
 |_=>false
def bM(P:Program)(t:TypeId):Nat:=match P.info? t with|some i=>i.size|none=>0
def oQ(P:Program)(t:TypeId):Nat:=match P.info? t with|some i=>i.bytes|none=>0
def uw(P:Program)(t:TypeId):Option Value:=match P.info? t with|some i=>i.zero|none=>none
def Jh(P:Program)(t:TypeId):Option Kind:=
 match uw P t with
 |some (.agg vs)=>bif sq P t&&bm vs.toList.length (bM P t)then(match Bz vs.toList with|some cs=>some (.agg cs)|none=>none)else none
 |some v=>bif sq P t then none else(match NQ v with|some c=>some (.c c)|none=>none)
 |none=>none
def Be(P:Program)(t:TypeId):Option Kind:=
 match P.underlying t with
 |none=>none
 |some _=>Jh P t
structure HC(P:Program)(f:FuncId)(args:List Value)(ks:List Kind)(K:cJ ks→ae→Prop)(h:ae):Prop where
 run:∀w:World,w.heap=h→
  ((callFunc f args.toArray).run P w=.ok (.enter f args.toArray) w∧
   Calls P f args.toArray w fun e w'=>Tame w w'∧∃t:cJ ks,e=.returned (A2 ks (lR ks t))∧K t w'.heap)∨
  (∃v w',(callFunc f args.toArray).run P w=.ok (.value v) w'∧Tame w w'∧∃t:cJ ks,v=A2 ks (lR ks t)∧K t w'.heap)
structure HE(P:Program)(f:FuncId)(args:List Value)(ks:List Kind)(K:cJ ks→ae→Prop)(h:ae):Prop where
 run:∀w:World,w.heap=h→(∀(args:Array Value) (w:World),(callFunc f args).run P w=.ok (.enter f args) w)∧
  Calls P f args.toArray w fun e w'=>Tame w w'∧∃t:cJ ks,e=.returned (A2 ks (lR ks t))∧K t w'.heap
theorem HE.hc{P:Program}{f:FuncId}{args:List Value}{ks:List Kind}{K:cJ ks→ae→Prop}{h:ae}(e:HE P f args ks K h):HC P f args ks K h:=
 ⟨fun w hw=>.inl ⟨(e.run w hw).1 _ w,(e.run w hw).2⟩⟩
structure HY(P:Program)(l:Nat)(args:List Value)(K:Bool→ae→Prop)(h:ae):Prop where
 run:∀w:World,w.heap=h→∃fn tmps assign body,(Instr.yield l args.toArray).run P w=.ok (.round l fn tmps assign body) w∧
  ∀(c:Frame) (cs:List Frame),∃b w',Tame w w'∧K b w'.heap∧Steps P (lone (Frame.round l fn tmps assign body .normal) (c::cs) w) (lone (c.finish (.bool b)) cs w')
structure HV(P:Program)(fv:Value)(args:List Value)(ks:List Kind)(K:cJ ks→ae→Prop)(h:ae):Prop where
 run:(∃f first cap,fv=.func (.func f) first cap∧HC P f (first.toList++args++cap.toList) ks K h)∨
  (∃l,fv=.func (.yield l) #[] #[]∧HY P l args (fun b h'=>zK ks [.bool b] fun t=>K t h') h)
noncomputable def CondP(b:Bool)(t e:Prop):Prop:=Bool.rec (motive:=fun _=>Prop) e t b
theorem CondP.yes{b:Bool}{t e:Prop}(h:CondP b t e)(hb:b=true):t:=by subst hb;exact h
theorem CondP.no{b:Bool}{t e:Prop}(h:CondP b t e)(hb:b=false):e:=by subst hb;exact h
theorem CondP.intro{b:Bool}{t e:Prop}(h1:b=true→t)(h2:b=false→e):CondP b t e:=by cases b;exact h2 rfl;exact h1 rfl
theorem ax{t e:Prop}:CondP true t e↔t:=Iff.rfl
theorem ak{t e:Prop}:CondP false t e↔e:=Iff.rfl
attribute [irreducible] CondP
def At(h:ae)(k:ae→Prop):Prop:=k h
def Bd{T:Type}(x:T)(k:T→Prop):Prop:=k x
structure Join{T:Type}(rest:T→ae→Prop)(k:(T→ae→Prop)→Prop):Prop where
 run:k rest
structure LoopP{T:Type}(F:(T→ae→Prop)→T→ae→Prop)(t:T)(h:ae):Prop where
 run:∀I:T→ae→Prop,(∀t h,F I t h→I t h)→I t h
abbrev cg:=List (Nat×Value)
noncomputable def jh(r:cg)(t:Nat):Option Value:=
 eT (motive:=fun _=>Option Value) none (fun kv _ ih=>bif bm kv.1 t then some kv.2 else ih) r
theorem AZ(k:Nat)(v:Value)(r:cg)(t:Nat):jh ((k,v)::r) t=bif bm k t then some v else jh r t:=rfl
noncomputable def cZ(r:cg):Operand→Option Value
 | .tmp t=>jh r t
 | .const v=>some v
 | .global g=>some (.pointer (some ⟨g,0,none⟩))
 | .func f=>some (.func (.func f) #[] #[])
noncomputable def oN(r:cg):List Operand→Option (List Value)
 | []=>some []
 |o::os=>match cZ r o,oN r os with
  |some v,some vs=>some (v::vs)
  |_,_=>none
noncomputable def EL:List CK→Nat→Addr→ae→(List Value→Prop)→Prop
 | [],_,_,_,k=>k []
 |c::cs,i,a,h,k=>∃x:c.den,aE h (adr a i)=some (c.enc x)∧EL cs (i+1) a h fun vs=>k (c.enc x::vs)
noncomputable def qj:List Value→Nat→Addr→ae→Prop
 | [],_,_,_=>True
 | [v],i,a,h=>aE h (adr a i)=some v
 |v::u::vs,i,a,h=>aE h (adr a i)=some v∧qj (u::vs) (i+1) a h
abbrev RK:=Value→Option (ae→Prop)→Prop
noncomputable def FQ(P:Program)(t:TypeId)(v:Value)(K:RK)(h:ae):Prop:=
 match v with
 | .pointer (some a)=>
  match Be P t with
  |some (.c c)=>∃x:c.den,aE h a=some (c.enc x)∧K (c.enc x) (some fun h'=>aE h' a=some (c.enc x))
  |some (.agg cs)=>EL cs 0 a h fun vs=>K (.agg vs.toArray) (some fun h'=>qj vs 0 a h')
  |none=>False
 |_=>False
def tm(P:Program)(t:TypeId)(f:Nat):Option (TypeId×Nat):=
 match P.underlying t with
 |some (.struct fs)=>match fs.toList[f]? with
  |some g=>some (g.type,g.offset)
  |none=>none
 |_=>none
def sC(P:Program)(t:TypeId):Option TypeId:=
 match P.underlying t with
 |some (.slice e)=>some e
 |_=>none
def Hc(op:BinOp)(k:IntKind)(a b:Int)(K:RK):Prop:=
 match op with
 | .shl=>0≤b∧K (.int k (k.wrap (a*2^(min b.toNat k.bits)))) none
 | .shr=>0≤b∧K (.int k (a.fdiv (2^(min b.toNat k.bits)))) none
 |_=>False
def NI(op:BinOp)(k:IntKind)(a b:Int)(K:RK):Prop:=
 match op with
 | .add=>K (.int k (k.wrap (a+b))) none
 | .sub=>K (.int k (k.wrap (a-b))) none
 | .mul=>K (.int k (k.wrap (a*b))) none
 | .quo=>b≠0∧K (.int k (k.wrap (a.tdiv b))) none
 | .rem=>b≠0∧K (.int k (a.tmod b)) none
 | .and=>K (.int k (k.wrap (ap k.bits a&&&ap k.bits b).toNat)) none
 | .or=>K (.int k (k.wrap (ap k.bits a|||ap k.bits b).toNat)) none
 | .xor=>K (.int k (k.wrap (ap k.bits a^^^ap k.bits b).toNat)) none
 | .andNot=>K (.int k (k.wrap (ap k.bits a&&& ~~~ap k.bits b).toNat)) none
 | .eql=>K (.bool (a==b)) none
 | .neq=>K (.bool (a !=b)) none
 | .lss=>K (.bool (decide (a<b))) none
 | .leq=>K (.bool (decide (a≤b))) none
 | .gtr=>K (.bool (decide (a>b))) none
 | .geq=>K (.bool (decide (a≥b))) none
 |_=>False
def Nu(op:BinOp)(a b:ByteArray)(K:RK):Prop:=
 match op with
 | .add=>((a.size+b.size:Nat):Int)≤9223372036854775807∧K (.string (a++b)) none
 | .eql=>K (.bool (a.toList==b.toList)) none
 | .neq=>K (.bool (!(a.toList==b.toList))) none
 | .lss=>K (.bool (Op.bytesLess a.toList b.toList)) none
 | .leq=>K (.bool (Op.bytesLess a.toList b.toList||a.toList==b.toList)) none
 | .gtr=>K (.bool (!(Op.bytesLess a.toList b.toList||a.toList==b.toList))) none
 | .geq=>K (.bool (!(Op.bytesLess a.toList b.toList))) none
 |_=>False
def ig(h:ae)(a:Addr):Prop:=(∃c e,h[a.block]? =some (.cells c e (0,0))∧0<c.size)
def MG(P:Program)(t:TypeId)(neg:Bool)(x y:Value)(K:RK):Prop:=
 match P.underlying t,x,y with
 |some (.pointer _),.pointer a,.pointer none=>K (.bool (bif neg then !a.isNone else a.isNone)) none
 |some (.map _ _),.map a,.map none=>K (.bool (bif neg then !a.isNone else a.isNone)) none
 |some (.slice _),.slice a _ _,.slice none _ _=>K (.bool (bif neg then !a.isNone else a.isNone)) none
 |_,_,_=>False
def NH:Operand→Bool
 | .const (.pointer none)=>true
 | .const (.map none)=>true
 | .const (.slice none 0 0)=>true
 |_=>false
def Ol(P:Program)(t:TypeId)(neg:Bool)(x y:Value)(K:RK)(h:ae):Prop:=
 match P.underlying t,x,y with
 |some .bool,.bool a,.bool b=>K (.bool (bif neg then !(a==b)else a==b)) none
 |some (.pointer e),.pointer a,.pointer b=>
  (bif bm (bM P e) 0 then False else True)∧
  (∀x y,a=some x→b=some y→ig h x∧ig h y)∧
  K (.bool (bif neg then !(a==b)else a==b)) (some fun h'=>∀x y,a=some x→b=some y→ig h' x∧ig h' y)
 |_,_,_=>False
def Ny(P:Program)(op:BinOp)(t:TypeId)(x y:Value)(K:RK)(h:ae):Prop:=
 match x,y with
 | .int k a,.int k' b=>
  match op with
  | .shl=>Hc .shl k a b K
  | .shr=>Hc .shr k a b K
  |op=>bif EE k' k then NI op k a b K else False
 | .string a,.string b=>Nu op a b K
 |x,y=>match op with
  | .eql=>Ol P t false x y K h
  | .neq=>Ol P t true x y K h
  |_=>False
def pr(h:ae):List (Option Addr×Option Addr)→Prop
 | []=>True
 |(a,b)::l=>(∀x y,a=some x→b=some y→ig h x∧ig h y)∧pr h l
def LM(P:Program)(t:TypeId)(x y:Value):Option (Bool×List (Option Addr×Option Addr)):=
 match P.underlying t,x,y with
 |some (.int _),.int k a,.int k' b=>bif EE k' k then some (a==b,[])else none
 |some .bool,.bool a,.bool b=>some (a==b,[])
 |some .string,.string a,.string b=>some (a.toList==b.toList,[])
 |some (.pointer e),.pointer a,.pointer b=>bif bm (bM P e) 0 then none else some (a==b,[(a,b)])
 |_,_,_=>none
def MT(P:Program)(rec:TypeId→List Value→List Value→Option (Bool×List (Option Addr×Option Addr)))(xs ys:List Value):List Field→Option (Bool×List (Option Addr×Option Addr))
 | []=>some (true,[])
 |f::fs=>
  if f.name= "_" then none else
  bif (P.underlying f.type).isSome&&(P.info? f.type).isSome then
   match(bif sq P f.type then rec f.type ((xs.drop f.offset).take (bM P f.type)) ((ys.drop f.offset).take (bM P f.type))
    else match xs[f.offset]?,ys[f.offset]? with|some x,some y=>LM P f.type x y|_,_=>none),MT P rec xs ys fs with
   |some (b,l),some (c,m)=>some (b&&c,l++m)
   |_,_=>none
  else none
def LN(P:Program):Nat→TypeId→List Value→List Value→Option (Bool×List (Option Addr×Option Addr))
 |0,_,_,_=>none
 |d+1,t,xs,ys=>match P.underlying t with
  |some (.struct fs)=>bif P.stoodInHeld t then none else MT P (LN P d) xs ys fs.toList
  |_=>none
def OC(neg b:Bool)(K:RK)(h:ae):List (Option Addr×Option Addr)→Prop
 | []=>K (.bool (bif neg then !b else b)) none
 |p::l=>pr h (p::l)∧K (.bool (bif neg then !b else b)) (some fun h'=>pr h' (p::l))
def Nz(P:Program)(op:BinOp)(t:TypeId)(xs ys:List Value)(K:RK)(h:ae):Prop:=
 bif P.eqGuardType P.depth t then False else
 match op with
 | .eql=>(match LN P 10 t xs ys with|some (b,l)=>OC false b K h l|none=>False)
 | .neq=>(match LN P 10 t xs ys with|some (b,l)=>OC true b K h l|none=>False)
 |_=>False
def Ow(op:UnOp)(x:Value)(K:RK):Prop:=
 match op,x with
 | .neg,.int k n=>K (.int k (k.wrap (0-n))) none
 | .xor,.int k n=>K (.int k (k.wrap (ap k.bits (if k.signed then-1 else k.max)^^^ap k.bits n).toNat)) none
 | .not,.bool b=>K (.bool (!b)) none
 |_,_=>False
def dq(s:ByteArray):List Value:=s.data.toList.map fun b=>.int .u8 b.toNat
noncomputable def Row(h:ae)(a:Addr)(vs:List Value):Prop:=∀i v,vs[i]? =some v→aE h (adr a i)=some v
noncomputable def SRow(h:ae)(a:Option Addr)(n:Nat)(vs:List Value):Prop:=vs.length=n∧(vs= []∨∃b,a=some b∧Row h b vs)
def HP(P:Program)(e:TypeId):Bool:=match P.underlying e with|some (.int .u8)=>true|_=>false
def NG(P:Program)(s d:TypeId):Bool:=
 match P.underlying s,P.underlying d with
 |some .string,some (.slice e)=>HP P e
 |_,_=>false
def ByP(e:TypeId)(s:ByteArray)(h:ae)(K:Nat→ae→Prop):Prop:=
 ∀c,s.size≤c→K c (h.push (.cells (dq s++iY (c-s.size) (Value.int .u8 0)).toArray e (c,c+1)))
noncomputable def Lq(P:Program)(src dst:TypeId)(x:Value)(K:RK)(h:ae):Prop:=
 match P.underlying src,P.underlying dst,x with
 |some (.int _),some (.int k),.int _ n=>K (.int k (k.wrap n)) none
 |some .string,some .string,.string s=>K (.string s) none
 |some (.slice e),some .string,.slice a n _=>bif HP P e then∃s:ByteArray,SRow h a n (dq s)∧K (.string s) (some fun h'=>SRow h' a n (dq s))else False
 |_,_,_=>False
def L1(v:Option Value)(d y:Nat)(K:Nat→Prop):Prop:=
 match v with
 |none=>K d
 |some (.int _ i)=>(0≤i∧i≤y)∧K i.toNat
 |_=>False
noncomputable def aN(a:Option Addr)(l m size:Nat):Option Addr:=if m=l then a else a.map (adr · (l*size))
def Lw(P:Program)(t:TypeId)(K:Prop):Prop:=match P.info? t with|some _=>K|none=>False
noncomputable def Hp(P:Program)(t:TypeId)(x:Value)(lo hi mx:Option Value)(K:RK):Prop:=
 match P.underlying t,x with
 |some .string,.string s=>match mx with
  |some _=>False
  |none=>L1 hi s.size s.size fun h=>L1 lo 0 h fun l=>K (.string (s.extract l h)) none
 |some (.slice e),.slice a len cap=>Lw P e (
  match mx with
  |none=>L1 hi len cap fun h=>L1 lo 0 h fun l=>K (.slice (aN a l cap (bM P e)) (h-l) (cap-l)) none
  |some m=>match hi with
   |none=>False
   |some hi=>L1 (some m) 0 cap fun m=>L1 (some hi) 0 m fun h=>L1 lo 0 h fun l=>K (.slice (aN a l m (bM P e)) (h-l) (m-l)) none)
 |some (.array n e),.pointer (some a)=>Lw P e (
  match mx with
  |none=>L1 hi n n fun h=>L1 lo 0 h fun l=>K (.slice (aN (some a) l n (bM P e)) (h-l) (n-l)) none
  |some _=>False)
 |_,_=>False
noncomputable def DD(r:cg):Option Operand→Option (Option Value)
 |none=>some none
 |some o=>match cZ r o with
  |some v=>some (some v)
  |none=>none
noncomputable def ve(P:Program)(t:TypeId)(x i:Value)(K:RK):Prop:=
 match P.underlying t,x,i with
 |some (.array n e),.pointer (some a),.int _ i=>Lw P e ((0≤i∧i<n)∧K (.pointer (some (adr a (i.toNat*bM P e)))) none)
 |some (.slice e),.slice b len _,.int _ i=>Lw P e ((0≤i∧i<len)∧∃a,b=some a∧K (.pointer (some (adr a (i.toNat*bM P e)))) none)
 |_,_,_=>False
def Hr(P:Program)(t:TypeId)(x i:Value)(K:RK):Prop:=
 match P.underlying t,x,i with
 |some .string,.string s,.int _ i=>∃b:UInt8,0≤i∧s[i.toNat]? =some b∧K (.int .u8 b.toNat) none
 |_,_,_=>False
noncomputable def Ht(P:Program)(t:TypeId)(x:Value)(f:Nat)(K:RK):Prop:=
 match tm P t f,x with
 |some (u,off),.agg cs=>bif (P.underlying u).isSome&&(P.info? u).isSome then(bif sq P u then K (.agg ((cs.toList.drop off).take (bM P u)).toArray) none
  else(match cs.toList[off]? with|some v=>K v none|none=>False))else False
 |_,_=>False
def Nh(c a b:Value)(K:RK):Prop:=
 match c with
 | .bool c=>(match a,b with
  | .bool x,.bool y=>K (.bool (bif c then x else y)) none
  |_,_=>(match c with|true=>K a none|false=>K b none))
 |_=>False
def gd:Value→Value→Bool
 | .int _ a,.int _ b=>a==b
 | .string a,.string b=>a==b
 | .bool a,.bool b=>a==b
 |_,_=>false
def Gm(k:Value):List MapEntry→Option Value
 | []=>none
 |e::es=>if gd k e.key then some e.val else Gm k es
def Bf(c:CK)(es:List MapEntry):Prop:=∀e∈es,∃x:c.den,e.key=c.enc x
def Ij(c:CK)(z:Value)(h:ae)(m:Option Nat)(k v:Value)(ok:Bool):Prop:=
 match m with
 |none=>v=z∧ok=false
 |some r=>∃es clock,h[r]? =some (.map es clock)∧Bf c es.toList∧
  (match Gm k es.toList with|some u=>v=u∧ok=true|none=>v=z∧ok=false)
def Gc(P:Program)(t:TypeId):Option (CK×TypeId):=
 match P.underlying t with
 |some (.map k e)=>match P.underlying k with
  |some (.int i)=>some (.int i,e)
  |some .string=>some (.str,e)
  |some .bool=>some (.bool,e)
  |_=>none
 |_=>none
def Eo(P:Program)(t:TypeId)(x k:Value)(ok:Bool)(K:RK)(h:ae):Prop:=
 match Gc P t,x with
 |some (c,e),.map m=>c.dec k fun _=>
  (match Be P e,uw P e with
   |some ek,some z=>∃(y:ek.den) (b:Bool),Ij c z h m k (ek.enc y) b∧
    K (bif ok then .tuple #[ek.enc y,.bool b]else ek.enc y) (some fun h'=>Ij c z h' m k (ek.enc y) b)
   |_,_=>False)
 |_,_=>False
def Mc(h:ae)(m:Option Nat)(n:Nat):Prop:=
 match m with
 |none=>n=0
 |some r=>∃es clock,h[r]? =some (.map es clock)∧n=es.size
def Nw(P:Program)(t:TypeId)(x:Value)(K:RK)(h:ae):Prop:=
 match P.underlying t,x with
 |some .string,.string s=>K (.int .i64 s.size) none
 |some (.array n _),_=>K (.int .i64 n) none
 |some (.slice _),.slice _ n _=>K (.int .i64 n) none
 |some (.map _ _),.map m=>∃n:Nat,Mc h m n∧K (.int .i64 n) (some fun h'=>Mc h' m n)
 |_,_=>False
def Nx(P:Program)(t:TypeId)(x:Value)(K:RK):Prop:=
 match P.underlying t,x with
 |some (.slice _),.slice _ _ n=>K (.int .i64 n) none
 |_,_=>False
def EC(mx:Bool)(k:IntKind):Int→List Value→(Value→Prop)→Prop
 |a,[],f=>f (.int k a)
 |a,.int k' b::vs,f=>bif EE k' k then EC mx k (bif mx then(if b>a then b else a)else(if b<a then b else a)) vs f else False
 |_,_,_=>False
def Ai(mx:Bool)(vs:List Value)(f:Value→Prop):Prop:=
 match vs with
 | .int k a::vs=>EC mx k a vs f
 |_=>False
def Ik(h:ae)(i:Nat)(e:MapEntry):Prop:=
 ∃m since seen last stamp es,h[i]? =some (.mapIter (some m) since seen last)∧seen.back? =some stamp∧h[m]? =some (.map es last)∧es.find? (fun e=>e.born==stamp)=some e
def ou(P:Program)(t:TypeId):Bool:=match P.underlying t with|some (.interface _)=>false|some _=>true|none=>false
def I0(P:Program)(t:TypeId)(x:Value)(K:RK):Prop:=
 bif ou P t then(match Be P t with
  |some k=>∃y:k.den,x=.iface t (k.enc y)∧K (k.enc y) none
  |none=>False)else False
def FU(cs:List Value)(off:Nat)(vs:List Value):List Value:=cs.take off++vs++cs.drop (off+vs.length)
def zr(place:Nat→Option (Nat×Nat)):List Value→List (Nat×Value)→Option (List Value)
 |cs,[]=>some cs
 |cs,(i,v)::rest=>match place i with
  |none=>none
  |some (off,size)=>bif bm v.cells.toList.length size&&Nat.ble (off+v.cells.toList.length) cs.length then zr place (FU cs off v.cells.toList) rest else none
noncomputable def ot(r:cg):List (Nat×Operand)→Option (List (Nat×Value))
 | []=>some []
 |(i,o)::ps=>match cZ r o,ot r ps with
  |some v,some vs=>some ((i,v)::vs)
  |_,_=>none
def oL(P:Program)(t:TypeId):Option (List Value):=match uw P t with|some z=>some z.cells.toList|none=>none
def dd(n:Nat)(z:List Value):List Value:=(iY n z).flatten
def tX(P:Program)(t:TypeId):Bool:=match P.info? t with|some _=>true|none=>false
def wN(P:Program):List Field→Bool
 | []=>true
 |f::fs=>bif tX P f.type then wN P fs else false
def Hz(P:Program)(fs:List Field)(i:Nat):Option (Nat×Nat):=match fs[i]? with|some f=>some (f.offset,bM P f.type)|none=>none
def ET(P:Program)(t:TypeId)(parts:List (Nat×Value)):Option (List Value):=
 match P.underlying t,oL P t with
 |some (.struct fs),some z=>bif wN P fs.toList then zr (Hz P fs.toList) z parts else none
 |some (.array _ e),some z=>bif tX P e then zr (fun i=>some (i*bM P e,bM P e)) z parts else none
 |_,_=>none
noncomputable def ya(P:Program)(ek:Option (Kind×Kind))(o:Op)(r:cg)(K:RK)(h:ae):Prop:=
 match o with
 | .entry it=>match cZ r it,ek with
  |some (.pointer (some a)),some (kk,vk)=>a.off=0∧∃(e:MapEntry) (x:kk.den) (y:vk.den),Ik h a.block e∧e.key=kk.enc x∧e.val=vk.enc y∧
    K (.tuple #[kk.enc x,vk.enc y]) (some fun h'=>Ik h' a.block e)
  |_,_=>False
 | .move x| .assign x=>match cZ r x with|some v=>K v none|none=>False
 | .load t a=>match cZ r a with|some v=>FQ P t v K h|none=>False
 | .nilCheck x=>match cZ r x with|some (.pointer p)=>∃a,p=some a∧K (.pointer (some a)) none|_=>False
 | .binOp op t x y _=>match cZ r x,cZ r y with
  |some (.agg v),some (.agg u)=>Nz P op t v.toList u.toList K h
  |some v,some u=>(match op,NH y with
   | .eql,true=>MG P t false v u K
   | .neq,true=>MG P t true v u K
   |op,_=>Ny P op t v u K h)
  |_,_=>False
 | .unOp op _ x=>match cZ r x with|some v=>Ow op v K|none=>False
 | .convert s d x=>match cZ r x with|some v=>Lq P s d v K h|none=>False
 | .pick c a b=>match cZ r c,cZ r a,cZ r b with|some c,some a,some b=>Nh c a b K|_,_,_=>False
 | .extract x i=>match cZ r x with
  |some (.tuple vs)=>(match vs.toList[i]? with|some v=>K v none|none=>False)
  |_=>False
 | .fieldAddr t x f=>match cZ r x,tm P t f with
  |some (.pointer (some a)),some (u,off)=>bif bm (bM P u) 0 then False else K (.pointer (some (adr a off))) none
  |_,_=>False
 | .field t x f=>match cZ r x with|some v=>Ht P t v f K|none=>False
 | .indexAddr t x i=>match cZ r x,cZ r i with|some v,some u=>ve P t v u K|_,_=>False
 | .index t x i=>match cZ r x,cZ r i with|some v,some u=>Hr P t v u K|_,_=>False
 | .slice t x lo hi mx=>match cZ r x,DD r lo,DD r hi,DD r mx with
  |some v,some l,some h',some m=>Hp P t v l h' m K
  |_,_,_,_=>False
 | .lookup t x k ok=>match cZ r x,cZ r k with|some v,some u=>Eo P t v u ok K h|_,_=>False
 | .makeInterface t x=>match cZ r x with|some v=>bif ou P t then K (.iface t v) none else False|none=>False
 | .typeAssert x _ t ok=>match cZ r x with|some v=>bif ok then False else I0 P t v K|none=>False
 | .build t ps=>match ot r ps.toList with
  |some vs=>(match ET P t vs with|some cs=>K (.agg cs.toArray) none|none=>False)
  |none=>False
 | .makeFunc fn first cap=>match oN r first.toList,oN r cap.toList with
  |some vs,some us=>K (.func fn vs.toArray us.toArray) none
  |_,_=>False
 | .call c=>match c.callee,oN r c.args.toList,c.argTypes.toList with
  | .builtin .len,some [v],[t]=>Nw P t v K h
  | .builtin .cap,some [v],[t]=>Nx P t v K
  | .builtin .min,some vs,_=>Ai false vs fun v=>K v none
  | .builtin .max,some vs,_=>Ai true vs fun v=>K v none
  |_,_,_=>False
 |_=>False
abbrev WK:=Value→ae→Prop
def ag(h:ae):Addr:=⟨h.size,0,none⟩
def hnew(h:ae)(cs:List Value)(t:TypeId):ae:=h.push (.cells cs.toArray t (0,0))
def bS:List Value→Bool
 | []=>true
 |v::vs=>(match v with| .agg _=>false| .tuple _=>false|_=>true)&&bS vs
noncomputable def bP(h:ae)(a:Addr):Nat→List Value→ae
 |_,[]=>h
 |i,v::vs=>bP (hset h (adr a i) v) a (i+1) vs
noncomputable def fe(h:ae)(a:Option Addr)(i:Nat)(vs:List Value):ae:=match a with|some a=>bP h a i vs|none=>h
noncomputable def fV(h:ae)(a:Option Addr)(i:Nat)(vs:List Value):Prop:=vs= []∨∃b,a=some b∧∀j,j<vs.length→Wr h (adr b (i+j))
noncomputable def GY(P:Program)(t:TypeId)(a v:Value)(K:WK)(h:ae):Prop:=
 match a with
 | .pointer (some a)=>bif bm v.cells.toList.length (bM P t)&&bS v.cells.toList then Lw P t
   (match v.cells.toList with
    | [v]=>Wr h a∧K undef (hset h a v)
    |vs=>fV h (some a) 0 vs∧K undef (bP h a 0 vs))
  else False
 |_=>False
noncomputable def L5(P:Program)(e:TypeId)(base:Option Addr)(sl sc xl:Nat)(xs:List Value)(K:WK)(h:ae):Prop:=
 (sl+xl≤sc→fV h base (sl*bM P e) xs∧bS xs=true∧K (.slice base (sl+xl) sc) (fe h base (sl*bM P e) xs))∧
 (sc<sl+xl→∃old z,SRow h base (sl*bM P e) old∧oL P e=some z∧0<oQ P e∧Builtin.nextslicecap (sl+xl) sc*oQ P e≤2^48∧
  ∀nc,sl+xl≤nc→K (.slice (some (ag h)) (sl+xl) nc) (hnew h (old++xs++dd (nc-(sl+xl)) z) e))
noncomputable def Ab(P:Program)(t:TypeId)(s x:Value)(K:WK)(h:ae):Prop:=
 match sC P t,s,x with
 |some e,.slice b sl sc,.slice a xl _=>Lw P e (∃xs,SRow h a (xl*bM P e) xs∧L5 P e b sl sc xl xs K h)
 |some e,.slice b sl sc,.string x=>bif bm (bM P e) 1 then L5 P e b sl sc x.size (dq x) K h else False
 |_,_,_=>False
noncomputable def AB(P:Program)(t:TypeId)(s x:Value)(K:WK)(h:ae):Prop:=
 match sC P t,s,x with
 |some e,.slice b sl sc,.int _ l=>(match oL P e with
  |some z=>bif bm z.length (bM P e)then(0≤l∧l*oQ P e≤2^48∧l≤9223372036854775807∧((sl+l.toNat:Nat):Int)≤9223372036854775807)∧L5 P e b sl sc l.toNat (dd l.toNat z) K h else False
  |none=>False)
 |_,_,_=>False
noncomputable def GZ(P:Program)(t:TypeId)(x:Value)(K:WK)(h:ae):Prop:=
 match sC P t,x with
 |some e,.slice a n _=>(match oL P e with
  |some z=>bif bS z then fV h a 0 (dd n z)∧K (.tuple #[]) (fe h a 0 (dd n z))else False
  |none=>False)
 |_,_=>False
noncomputable def K3(P:Program)(t:TypeId)(d s:Value)(K:WK)(h:ae):Prop:=
 match sC P t,d,s with
 |some e,.slice b dl _,.slice a sl _=>Lw P e (∃xs,SRow h a (dz sl dl*bM P e) xs∧fV h b 0 xs∧bS xs=true∧K (.int .i64 (dz sl dl)) (fe h b 0 xs))
 |some e,.slice b dl _,.string x=>bif bm (bM P e) 1 then fV h b 0 ((dq x).take dl)∧K (.int .i64 (dz x.size dl)) (fe h b 0 ((dq x).take dl))else False
 |_,_,_=>False
def Hx(k v:Value)(clock:Nat):List MapEntry→List MapEntry×Nat
 | []=>([{key:=k,val:=v,born:=clock}],clock+1)
 |e::es=>if gd k e.key then({e with key:=k,val:=v}::es,clock)else let r:=Hx k v clock es;(e::r.1,r.2)
def Gr(k:Value):List MapEntry→List MapEntry
 | []=> []
 |e::es=>if gd k e.key then es else e::Gr k es
def Jz(c:CK)(h:ae)(r:Nat):Prop:=∃es clock,h[r]? =some (.map es clock)∧Bf c es.toList
def MJ(h:ae)(r:Nat)(k v:Value):ae:=
 match h[r]? with
 |some (.map es clock)=>h.setIfInBounds r (.map (Hx k v clock es.toList).1.toArray (Hx k v clock es.toList).2)
 |_=>h
def Jg(h:ae)(r:Nat)(k:Value):ae:=
 match h[r]? with
 |some (.map es clock)=>h.setIfInBounds r (.map (Gr k es.toList).toArray clock)
 |_=>h
def Aa(P:Program)(t:TypeId)(m k v:Value)(K:WK)(h:ae):Prop:=
 match Gc P t,m with
 |some (c,_),.map m=>c.dec k fun _=>∃r,m=some r∧Jz c h r∧K undef (MJ h r k v)
 |_,_=>False
def Az(P:Program)(t:TypeId)(m k:Value)(K:WK)(h:ae):Prop:=
 match Gc P t,m with
 |some (c,_),.map m=>c.dec k fun _=>(m=none∧K (.tuple #[]) h)∨(∃r,m=some r∧Jz c h r∧K (.tuple #[]) (Jg h r k))
 |_,_=>False
def Ln(P:Program):List TypeId→Option (List Kind)
 | []=>some []
 |t::ts=>match Be P t,Ln P ts with
  |some k,some ks=>some (k::ks)
  |_,_=>none
def Lo(P:Program)(t:TypeId):Option (List Kind):=
 match P.underlying t with
 |some (.tuple ts)=>Ln P ts.toList
 |_=>Ln P [t]
noncomputable def M9(P:Program)(f:Operand)(r:cg)(args:List Value)(t:TypeId)(K:WK)(h:ae):Prop:=
 match Lo P t with
 |none=>False
 |some ks=>match f with
  | .func f=>HC P f args ks (fun x h'=>K (A2 ks (lR ks x)) h') h
  |f=>match cZ r f with
   |some fv=>HV P fv args ks (fun x h'=>K (A2 ks (lR ks x)) h') h
   |none=>False
def KZ(it:Value)(K:WK)(h:ae):Prop:=
 match it with
 | .pointer (some a)=>a.off=0∧
  ∃m since seen last,h[a.block]? =some (.mapIter m since seen last)∧
   ((m=none∧K (.tuple #[.bool false]) h)∨
    (∃r es clock,m=some r∧h[r]? =some (.map es clock)∧(seen.isEmpty=true∨es.isEmpty=true∨es.all (fun e=>decide (e.born≥last))=false)∧
     ((∀e∈es.toList,e.born<since→seen.contains e.born=true)→K (.tuple #[.bool false]) h)∧
     (∀e∈es.toList,seen.contains e.born=false→K (.tuple #[.bool true,e.key,e.val]) (h.setIfInBounds a.block (.mapIter (some r) since (seen.push e.born) clock)))))
 |_=>False
noncomputable def Ci(P:Program)(o:Oper)(r:cg)(K:WK)(h:ae):Prop:=
 match o.op with
 | .alloc t=>(match oL P t with|some z=>K (.pointer (some (ag h))) (hnew h z t)|none=>False)
 | .box t x=>(match cZ r x with|some v=>K (.pointer (some (ag h))) (hnew h v.cells.toList t)|none=>False)
 | .build t ps=>(match ot r ps.toList with
  |some vs=>(match ET P t vs with|some cs=>K (.agg cs.toArray) h|none=>False)
  |none=>False)
 | .buildSlice t n ps=>(match sC P t,ot r ps.toList with
  |some e,some vs=>(match oL P e with
   |some z=>bif Nat.ble (n*bM P e) 16777216&&bm z.length (bM P e)then
     (match zr (fun i=>some (i*bM P e,bM P e)) (dd n z) vs with|some cs=>K (.slice (some (ag h)) n n) (hnew h cs e)|none=>False)
    else False
   |none=>False)
  |_,_=>False)
 | .store t a x=>(match cZ r a,cZ r x with|some a,some v=>GY P t a v K h|_,_=>False)
 | .mapUpdate t m k x=>(match cZ r m,cZ r k,cZ r x with|some m,some k,some v=>Aa P t m k v K h|_,_,_=>False)
 | .insert t m k x=>(match cZ r m,cZ r k,cZ r x with|some m,some k,some v=>Aa P t m k v K h|_,_,_=>False)
 | .makeMap t n=>(match n with
  |none=>K (.map (some h.size)) (h.push (.map #[] 0))
  |some n=>(match cZ r n,P.underlying t with|some (.int _ _),some (.map _ _)=>K (.map (some h.size)) (h.push (.map #[] 0))|_,_=>False))
 | .makeSlice t l c=>(match sC P t,cZ r l,cZ r c with
  |some e,some (.int _ l),some (.int _ c)=>(match oL P e with
   |some z=>bif bm z.length (bM P e)then(0≤l∧l≤c∧c≤9223372036854775807∧oQ P e*c≤2^48)∧K (.slice (some (ag h)) l.toNat c.toNat) (hnew h (dd c.toNat z) e)else False
   |none=>False)
  |_,_,_=>False)
 | .convert s d x=>(match P.underlying s,P.underlying d,cZ r x with
  |some .string,some (.slice e),some (.string v)=>bif HP P e then ByP e v h (fun c h'=>K (.slice (some (ag h)) v.size c) h')else False
  |_,_,_=>False)
 | .range t x=>(match P.underlying t,cZ r x with
  |some (.map _ _),some (.map m)=>∃clock,(m=none∧clock=0∨∃r es,m=some r∧h[r]? =some (.map es clock))∧K (.pointer (some (ag h))) (h.push (.mapIter m clock #[] clock))
  |_,_=>False)
 | .next it false=>(match cZ r it with|some it=>KZ it K h|none=>False)
 | .call c=>(match c.callee,oN r c.args.toList with
  | .builtin .append,some [s,x]=>(match c.argTypes.toList with| [t,u]=>(match P.underlying u with|some (.slice _)=>Ab P t s x K h|some .string=>Ab P t s x K h|some (.int _)=>AB P t s x K h|_=>False)|_=>False)
  | .builtin .clear,some [x]=>(match c.argTypes.toList with| [t]=>GZ P t x K h|_=>False)
  | .builtin .copy,some [d,s]=>(match c.argTypes.toList with| [t,_]=>K3 P t d s K h|_=>False)
  | .builtin .delete,some [m,k]=>(match c.argTypes.toList with| [t,_]=>Az P t m k K h|_=>False)
  | .value f,some args=>M9 P f r args o.type K h
  |_,_=>False)
 |_=>False
def sD(P:Program):Op→Bool
 | .convert s d _=> !NG P s d
 | .alloc _| .box .. | .buildSlice .. | .store .. | .mapUpdate .. | .insert .. | .makeMap .. | .makeSlice .. | .range .. | .next .. =>false
 | .call c=>match c.callee with
  | .builtin .len| .builtin .cap| .builtin .min| .builtin .max=>true
  |_=>false
 |_=>true
def wE(N:Nat)(o:Oper)(v:Value)(r:cg)(K:cg→Prop):Prop:=
 match o.dst with
 |none=>K r
 |some d=>bif Nat.blt d N then K ((d,v)::r)else False
noncomputable def NY(P:Program)(N:Nat)(ek:Option (Kind×Kind))(o:Oper)(r:cg)(K:cg→ae→Prop)(h:ae):Prop:=
 bif sD P o.op then ya P ek o.op r (fun v _=>wE N o v r fun r'=>K r' h) h
 else Ci P o r (fun v h'=>wE N o v r fun r'=>K r' h') h
inductive DV where
 |f|t|u|x
abbrev rJ:=List (Nat×DV)
noncomputable def oY(d:rJ)(t:Nat):DV:=
 eT (motive:=fun _=>DV) .x (fun kv _ ih=>bif bm kv.1 t then kv.2 else ih) d
noncomputable def wF(d:rJ):Operand→DV
 | .tmp t=>oY d t
 | .const (.bool true)=>.t
 | .const (.bool false)=>.f
 |_=>.x
noncomputable def Fx(d:rJ):Op→DV
 | .move x=>wF d x
 | .assign x=>wF d x
 | .pick c a b=>match wF d c with
  | .t=>wF d a
  | .f=>wF d b
  |_=>.x
 | .unOp .not _ x=>match wF d x with
  | .t=>.f
  | .f=>.t
  |_=>.x
 |_=>.x
def pH(d:rJ)(o:Oper)(v:DV):rJ:=match o.dst with|some t=>(t,v)::d|none=>d
noncomputable def gX(ops:List Oper)(d:rJ)(o:Oper):Option Bool:=
 match o.guard with
 |none=>some true
 |some (j,want)=>match ops[j]? with
  |none=>none
  |some oj=>match oj.dst with
   |none=>none
   |some t=>match oY d t with
    | .t=>some want
    | .f=>some (!want)
    | .u=>some false
    | .x=>none
def Bm(ops:List Oper)(o:Oper):Option Nat:=
 match o.guard with
 |none=>none
 |some (j,_)=>match ops[j]? with
  |none=>none
  |some oj=>oj.dst
noncomputable def Dn(P:Program)(N:Nat)(ek:Option (Kind×Kind))(ops:List Oper)(o:Oper)(d:rJ)(r:cg)(h:ae)(K:rJ→cg→ae→Prop):Prop:=
 match gX ops d o with
 |some true=>NY P N ek o r (K (pH d o (Fx d o.op))) h
 |some false=>wE N o undef r fun r'=>K (pH d o .u) r' h
 |none=>False
noncomputable def AU(P:Program)(N:Nat)(ek:Option (Kind×Kind))(ops:List Oper)(l:List Oper):rJ→(cg→ae→Prop)→cg→ae→Prop:=
 eT (motive:=fun _=>rJ→(cg→ae→Prop)→cg→ae→Prop) (fun _ K r h=>K r h)
  (fun o _ ih d K r h=>
  match gX ops d o with
  |some true=>NY P N ek o r (fun r' h'=>ih (pH d o (Fx d o.op)) K r' h') h
  |some false=>wE N o undef r fun r'=>ih (pH d o .u) K r' h
  |none=>match Bm ops o with
   |none=>False
   |some t=>match jh r t with
    |some (.bool b)=>CondP b
     (Dn P N ek ops o ((t,.t)::d) ((t,.bool true)::r) h fun d' r' h'=>ih d' K r' h')
     (Dn P N ek ops o ((t,.f)::d) ((t,.bool false)::r) h fun d' r' h'=>ih d' K r' h')
    |_=>False) l
inductive DA where
 |done
 |take (i:Nat) (rest:DA)
 |all (l:DA)
 |pick (i:Nat) (rest more:DA)
 |last (i:Nat) (rest:DA)
 |lastT (i:Nat) (rest:DA)
 |split (t:Nat) (yes no:DA)
abbrev oR:=List (Nat×(ae→Prop))
def tb(m i:Nat):Bool:=bm (iv (Nat.shiftRight m i) 1) 1
def fU(i:Nat):Nat:=Nat.pow 2 i
inductive DM where
 |mk (am fr lk ds:Nat)
def DM.am:DM→Nat| .mk a _ _ _=>a
def DM.fr:DM→Nat| .mk _ f _ _=>f
def DM.lk:DM→Nat| .mk _ _ l _=>l
def DM.ds:DM→Nat| .mk _ _ _ d=>d
def ik(o:Oper)(i:Nat):Bool:=o.after.toList.any fun e=>bm e.on i&&Region.binds .any e
noncomputable def le(l:List Edge):Nat:=
 eT (motive:=fun _=>Nat) 0 (fun e _ ih=>bif Region.binds .any e then cG (fU e.on) ih else ih) l
noncomputable def kr(l:List Operand):Nat:=
 eT (motive:=fun _=>Nat) 0 (fun o _ ih=>match o with| .tmp t=>cG (fU t) ih|_=>ih) l
def l9(o:Oper):Nat:=match o.dst with|some d=>fU d|none=>0
noncomputable def my(ops:List Oper)(o:Oper):Nat:=
 cG (kr o.op.operands.toList) (match o.guard with
  |some (g,_)=>(match ops[g]? with|some og=>l9 og|none=>0)
  |none=>0)
noncomputable def sY(ops:List Oper)(l:List Oper):List DM→Bool:=
 eT (motive:=fun _=>List DM→Bool) (fun ms=>match ms with| []=>true|_=>false)
  (fun o _ ih ms=>match ms with
   |m::ms=>bm (le o.after.toList) m.am&&bm (my ops o) m.lk&&bm (l9 o) m.ds&&ih ms
   | []=>false) l
def yr(x y:DM):Bool:=bm (iv x.ds (cG y.lk y.ds)) 0&&bm (iv y.ds x.lk) 0
noncomputable def DR(i:Nat)(m:DM)(l:List DM):Nat→Bool:=
 eT (motive:=fun _=>Nat→Bool) (fun _=>true)
  (fun n _ ih j=>(!(tb m.fr j)||bm j i||tb n.am i||yr m n)&&ih (fh j)) l
noncomputable def wB(all:List DM)(l:List DM):Nat→Bool:=
 eT (motive:=fun _=>Nat→Bool) (fun _=>true) (fun m _ ih i=>DR i m all 0&&ih (fh i)) l
def F6:List Oper→Bool
 | []=>true
 |o::os=>(match o.op with| .select .. =>false| .defer _=>false|_=>true)&&F6 os
noncomputable def Aj(ops:List Oper)(ms:List DM):Bool:=sY ops ops ms&&wB ms ms 0&&F6 ops
def p9(o:Oper):oR→oR
 | []=> []
 |(k,S)::l=>bif ik o k then p9 o l else(k,S)::p9 o l
def rj:oR→ae→Prop→Prop
 | [],_,R=>R
 |(_,S)::l,h,R=>S h∧rj l h R
def Dw(m:DM)(ls:Nat):Bool:=bm (iv m.am ls) m.am
noncomputable def kB(ls:Nat)(l:List DM):Nat→List Nat:=
 eT (motive:=fun _=>Nat→List Nat) (fun _=> []) (fun m _ ih j=>bif !(tb ls j)&&Dw m ls then j::ih (fh j)else ih (fh j)) l
def AJ(m:DM)(i ls n:Nat):Bool:= !(tb ls i)&&Dw m ls&&bm (iv (cG ls m.fr) (tQ (fU n))) (tQ (fU n))
def rV:List Nat→List Nat→Bool
 | [],[]=>true
 |a::as,b::bs=>bm a b&&rV as bs
 |_,_=>false
def yi:DA→List Nat
 | .pick i _ l=>i::yi l
 | .last i _=> [i]
 | .lastT i _=> [i]
 |_=> []
noncomputable def JM(P:Program)(N:Nat)(ops:List Oper)(i:Nat)(L:oR)(d:rJ)(r:cg)(h:ae)(K:oR→rJ→cg→ae→Prop):Prop:=
 match ops[i]? with
 |none=>False
 |some o=>match gX ops d o with
  |some true=>bif sD P o.op then False else Ci P o r (fun v h'=>wE N o v r fun r'=>rj (p9 o L) h' (K (p9 o L) (pH d o .x) r' h')) h
  |_=>False
noncomputable def KM(m:Nat)(l:List DM):Nat→Nat:=
 eT (motive:=fun _=>Nat→Nat) (fun _=>m) (fun n _ ih j=>bif tb m j then cG n.am (ih (fh j))else ih (fh j)) l
noncomputable def wH(ms:List DM)(m:Nat):Nat:=KM (KM (KM (KM m ms 0) ms 0) ms 0) ms 0
def EZ(ms:List DM)(i:Nat):Nat:=match ms[i]? with|some m=>m.am|none=>0
def wi(m:Nat):oR→oR
 | []=> []
 |(k,S)::l=>bif tb m k then wi m l else(k,S)::wi m l
noncomputable def IY(P:Program)(N:Nat)(ops:List Oper)(ms:List DM)(i:Nat)(L:oR)(d:rJ)(r:cg)(h:ae)(K:oR→rJ→cg→ae→Prop):Prop:=
 match ops[i]? with
 |none=>False
 |some o=>match gX ops d o with
  |some true=>bif sD P o.op then False else Ci P o r (fun v h'=>wE N o v r fun r'=>rj (wi (wH ms (EZ ms i)) L) h' (K (wi (wH ms (EZ ms i)) L) (pH d o .x) r' h')) h
  |_=>False
noncomputable def lL(P:Program)(N:Nat)(ops:List Oper)(ms:List DM)(da:DA):Bool→Nat→oR→rJ→(cg→ae→Prop)→cg→ae→Prop:=
 DA.rec (motive:=fun _=>Bool→Nat→oR→rJ→(cg→ae→Prop)→cg→ae→Prop)
  (fun m ls _ _ K r h=>bif !m&&rV (kB ls ms 0) []then K r h else False)
  (fun i _ ih m ls L d K r h=>
   match ops[i]?,ms[i]? with
   |some o,some mi=>bif !m&&AJ mi i ls ops.length then
     (match gX ops d o with
      |none=>False
      |some false=>wE N o undef r fun r'=>ih false (cG ls (fU i)) L (pH d o .u) K r' h
      |some true=>bif sD P o.op then
       ya P none o.op r (fun v S=>wE N o v r fun r'=>match S with
        |none=>ih false (cG ls (fU i)) L (pH d o (Fx d o.op)) K r' h
        |some S=>ih false (cG ls (fU i)) ((i,S)::L) (pH d o (Fx d o.op)) K r' h) h
       else False)
    else False
   |_,_=>False)
  (fun l ih m ls L d K r h=>bif !m&&rV (kB ls ms 0) (yi l)then ih true ls L d K r h else False)
  (fun i _ _ ih1 ih2 m ls L d K r h=>bif m then JM P N ops i L d r h (fun L' d' r' h'=>ih1 false (cG ls (fU i)) L' d' K r' h')∧ih2 true ls L d K r h else False)
  (fun i _ ih m ls L d K r h=>bif m then JM P N ops i L d r h (fun L' d' r' h'=>ih false (cG ls (fU i)) L' d' K r' h')else False)
  (fun i _ ih m ls L d K r h=>bif m then IY P N ops ms i L d r h (fun L' d' r' h'=>ih false (cG ls (fU i)) L' d' K r' h')else False)
  (fun t _ _ ih1 ih2 m ls L d K r h=>
   bif m then False else match jh r t with
   |some (.bool b)=>CondP b (ih1 false ls L ((t,.t)::d) K ((t,.bool true)::r) h) (ih2 false ls L ((t,.f)::d) K ((t,.bool false)::r) h)
   |_=>False)
  da
noncomputable def OA(_o:Oper)(i:Nat)(ds lk:Nat)(ops:List Oper)(l:List Oper):Nat→Nat:=
 eT (motive:=fun _=>Nat→Nat) (fun _=>0) (fun p _ ih j=>bif (bm j i||ik p i||(bm (iv ds (cG (my ops p) (l9 p))) 0&&bm (iv (l9 p) lk) 0))then cG (fU j) (ih (fh j))else ih (fh j)) l
noncomputable def Oy(ops:List Oper)(l:List Oper):Nat→List DM:=
 eT (motive:=fun _=>Nat→List DM) (fun _=> []) (fun o _ ih i=>.mk (le o.after.toList) (OA o i (l9 o) (my ops o) ops ops 0) (my ops o) (l9 o)::ih (fh i)) l
def N0(P:Program)(w:Option Bool)(o:Oper):Bool:=match w with|some false=>true|some true=>sD P o.op|none=>false
noncomputable def NK(P:Program)(ops:List Oper)(d:rJ)(ls n:Nat)(l:List Oper):List DM→Nat→Option (Nat×Oper):=
 eT (motive:=fun _=>List DM→Nat→Option (Nat×Oper)) (fun _ _=>none)
  (fun o _ ih ms j=>match ms with
   | []=>none
   |m::ms=>bif AJ m j ls n&&N0 P (gX ops d o) o then some (j,o)else ih ms (fh j)) l
noncomputable def NL(ops:List Oper)(d:rJ)(ls:Nat)(l:List Oper):List DM→Nat→Option Nat:=
 eT (motive:=fun _=>List DM→Nat→Option Nat) (fun _ _=>none)
  (fun o _ ih ms j=>match ms with
   | []=>none
   |m::ms=>match bif !(tb ls j)&&Dw m ls then(match gX ops d o with|none=>Bm ops o|some _=>none)else none with
    |some t=>some t
    |none=>ih ms (fh j)) l
noncomputable def N6(ops:List Oper)(k:Nat→rJ→DA)(ls:Nat)(d:rJ)(l:List Nat):DA:=
 eT (motive:=fun _=>DA) .done (fun i rest ih=>match ops[i]? with
  |none=>.done
  |some o=>match rest with
   | []=>.last i (k (cG ls (fU i)) (pH d o .x))
   |_=>.pick i (k (cG ls (fU i)) (pH d o .x)) ih) l
noncomputable def NT(P:Program)(ops:List Oper)(ms:List DM)(fuel:Nat):Nat→rJ→DA:=
 Nat.rec (motive:=fun _=>Nat→rJ→DA) (fun _ _=>.done) (fun _ ih ls d=>
  match NK P ops d ls ops.length ops ms 0 with
  |some (i,o)=>.take i (ih (cG ls (fU i)) (match gX ops d o with|some false=>pH d o .u|_=>pH d o (Fx d o.op)))
  |none=>match NL ops d ls ops ms 0 with
   |some t=>.split t (ih ls ((t,.t)::d)) (ih ls ((t,.f)::d))
   |none=>match kB ls ms 0 with
    | []=>.done
    |l=>.all (N6 ops ih ls d l)) fuel
noncomputable def Jc(ops:List Oper):List DM:=Oy ops ops 0
inductive Ex where
 |exit (id:Nat)
 |ret
abbrev St:=List (Nat×Kind)
def u3:St→List Kind
 | []=> []
 |(_,k)::l=>k::u3 l
noncomputable def AO(r:cg):St→Option (List Value)
 | []=>some []
 |(i,_)::l=>match jh r i,AO r l with
  |some v,some vs=>some (v::vs)
  |_,_=>none
noncomputable def y9(st:St)(r:cg)(f:cJ (u3 st)→Prop):Prop:=
 match AO r st with
 |some vs=>zK (u3 st) vs f
 |none=>False
def l4:St→List Value→cg→cg
 |(i,_)::l,v::vs,r=>(i,v)::l4 l vs r
 |_,_,r=>r
noncomputable def Jj(r:cg)(l:List Nat):Option cg:=
 eT (motive:=fun _=>Option cg) (some []) (fun t _ ih=>match jh r t,ih with
  |some v,some l=>some ((t,v)::l)
  |_,_=>none) l
noncomputable def kq(t:Nat)(l:List Oper):Bool:=
 eT (motive:=fun _=>Bool) false (fun o _ ih=>match o.dst with|some d=>bif bm d t then true else ih|none=>ih) l
noncomputable def fI(t:Nat)(c:Code):Bool:=
 Code.rec (motive:=fun _=>Bool) false (fun _ ops _=>kq t ops.toList) (fun _ _ a b=>bif a then true else b) (fun _ _ _ a b=>bif a then true else b)
  (fun _ _ b=>b) (fun _ b=>b) (fun _ _ _ _ _ _=>true) (fun _=>false) (fun _ b=>b) (fun _=>false) (fun _=>false) false (fun _=>false) c
inductive Ann where
 |nil
 |node (a b:Ann)
 |join (st:St) (a b:Ann)
 |loop (st:St) (b:Ann)
 |draw (d:DA)
 |kinds (k v:Kind)
 |reg (keep:List Nat) (inner:Ann)
 |rf (ks:List Kind) (a b:Ann)
def Ann.l:Ann→Ann
 | .node a _=>a
 | .rf _ a _=>a
 |_=>.nil
def Ann.r:Ann→Ann
 | .node _ b=>b
 | .rf _ _ b=>b
 |_=>.nil
noncomputable def KY(l:List Oper):Nat:=eT (motive:=fun _=>Nat) 0 (fun o _ ih=>cG (l9 o) ih) l
def N7:Option Nat→Option Nat→Option Nat
 |some a,some b=>some (cG a b)
 |_,_=>none
noncomputable def ux(c:Code):Option Nat:=
 Code.rec (motive:=fun _=>Option Nat) (some 0) (fun _ ops _=>some (KY ops.toList)) (fun _ _ a b=>N7 a b) (fun _ _ _ a b=>N7 a b)
  (fun _ _ b=>b) (fun _ b=>b) (fun _ _ _ _ _ _=>none) (fun _=>some 0) (fun _ b=>b) (fun _=>some 0) (fun _=>some 0) (some 0) (fun _=>some 0) c
noncomputable def te(m:Nat)(r:cg):cg:=eT (motive:=fun _=>cg) [] (fun kv _ ih=>bif tb m kv.1 then ih else kv::ih) r
noncomputable def x5(P:Program)(N:Nat)(ops:List Oper)(dr:Bool)(an:Ann)(Kn:cg→ae→Prop)(r:cg)(h:ae):Prop:=
 match dr with
 |false=>(match an with
  | .kinds kk vk=>AU P N (some (kk,vk)) ops ops [] Kn r h
  |_=>AU P N none ops ops [] Kn r h)
 |true=>bif Aj ops (Jc ops)then lL P N ops (Jc ops) (match an with| .draw da=>da|_=>NT P ops (Jc ops) (Nat.add (Nat.add ops.length ops.length) 2) 0 []) false 0 [] [] Kn r h else False
noncomputable def jY(P:Program)(N:Nat)(c:Code):Ann→(cg→ae→Prop)→(Ex→cg→ae→Prop)→cg→ae→Prop:=
 Code.rec (motive:=fun _=>Ann→(cg→ae→Prop)→(Ex→cg→ae→Prop)→cg→ae→Prop)
  (fun _ Kn _ r h=>Kn r h)
  (fun _ ops dr an Kn _ r h=>match an with
   | .reg keep an=>x5 P N ops.toList dr an (fun r' h'=>match Jj r' keep with|some r0=>Kn r0 h'|none=>False) r h
   |an=>x5 P N ops.toList dr an Kn r h)
  (fun a _ iha ihb an Kn Kx r h=>match an with
   | .join st aa ab=>(match ux a with
     |none=>False
     |some m=>Join (T:=cJ (u3 st)) (fun t h'=>ihb ab Kn Kx (l4 st (lR (u3 st) t) (te m r)) h')
      fun J=>iha aa (fun r' h'=>y9 st r' fun t=>J t h') Kx r h)
   |an=>iha an.l (fun r' h'=>ihb an.r Kn Kx r' h') Kx r h)
  (fun c _ _ iha ihb an Kn Kx r h=>match cZ r c with
   |some (.bool t)=>CondP t (iha an.l Kn Kx r h) (ihb an.r Kn Kx r h)
   |_=>False)
  (fun id _ ih an Kn Kx r h=>ih an Kn (fun e r' h'=>match e with
    | .exit i=>bif bm i id then Kn r' h' else Kx (.exit i) r' h'
    | .ret=>Kx .ret r' h') r h)
  (fun b ih an _ Kx r h=>match an with
   | .loop st ab=>(match ux b with
     |none=>False
     |some m=>y9 st r fun t0=>LoopP (T:=cJ (u3 st)) (fun self t h'=>ih ab (fun r' h''=>y9 st r' fun t'=>self t' h'') Kx (l4 st (lR (u3 st) t) (te m r)) h') t0 h)
   |_=>False)
  (fun _ _ _ _ _ _ _ _ _ _ _=>False)
  (fun id _ _ Kx r h=>Kx (.exit id) r h)
  (fun _ _ _ _ _ _ _=>False)
  (fun _ _ Kn _ r h=>Kn r h)
  (fun _ _ _ _ _ _=>False)
  (fun _ _ Kx r h=>Kx .ret r h)
  (fun _ _ _ _ _ _=>False)
  c
noncomputable def l6(P:Program)(r:cg)(h:ae):List ResultVar→(List Value→Prop)→Prop
 | [],K=>K []
 | .tmp t::l,K=>(match jh r t with|some v=>l6 P r h l fun vs=>K (v::vs)|none=>False)
 | .cell a t::l,K=>(match jh r a with
  |some v=>FQ P t v (fun x _=>l6 P r h l fun vs=>K (x::vs)) h
  |none=>False)
def oe:Nat→List Value→cg
 |_,[]=> []
 |i,v::vs=>(i,v)::oe (i+1) vs
noncomputable def Nd(P:Program)(fn:Func)(c:Code)(an:Ann)(args:List Value)(ks:List Kind)(K:cJ ks→ae→Prop)(h:ae):Prop:=
 jY P fn.ntmps c an
  (fun r h'=>l6 P r h' fn.results.toList fun vs=>zK ks vs fun t=>K t h')
  (fun e r h'=>match e with
   | .ret=>l6 P r h' fn.results.toList fun vs=>zK ks vs fun t=>K t h'
   | .exit _=>False)
  (oe 0 args) h
noncomputable def px(c:Code):Bool:=
 Code.rec (motive:=fun _=>Bool) false (fun _ _ _=>false) (fun _ _ a b=>bif a then true else b) (fun _ _ _ a b=>bif a then true else b)
  (fun _ _ b=>b) (fun _ b=>b) (fun _ _ _ _ _ _=>true) (fun _=>false) (fun _ b=>b) (fun _=>false) (fun _=>false) false (fun _=>false) c
def EK:Option Ex→Option Code
 |none=>none
 |some (.exit i)=>some (.exit i)
 |some .ret=>some .ret
def OB(N:ae→Prop)(X:Nat→ae→Prop)(R:ae→Prop):Option Ex→ae→Prop
 |none=>N
 |some (.exit i)=>X i
 |some .ret=>R
structure RangeP(P:Program)(fv:Value)(ks:List Kind)(h:ae)(RT:Obj→Obj→cJ ks→(Option Ex→ae→Prop)→ae→Prop)(N:ae→Prop)(X:Nat→ae→Prop)(R:ae→Prop):Prop where
 run:∀lo:LoopState→Option Ex→Obj,(∀s j,∃r,lo s j=.loop r)→
  (∀x h' K,h'[h.size+1]? =some (lo .ready none)→
   RT (lo .ready none) (lo .busy none) x (fun j h2=>h2[h.size+1]? =some (lo .busy none)∧K j.isNone (h2.setIfInBounds (h.size+1) (lo (if j.isNone then .ready else .done) j))) h'→
   HV P (.func (.yield (h.size+1)) #[] #[]) (lR ks x) [.c .bool] K h')→
  ∃f first cap,fv=.func (.func f) first cap∧HE P f (first.toList++ [.func (.yield (h.size+1)) #[] #[]]++cap.toList) []
   (fun _ h2=>∃s j,s≠ .busy∧h2[h.size+1]? =some (lo s j)∧OB N X R j (h2.setIfInBounds (h.size+1) (lo .exhausted j))) ((h.push (.deferred (some []))).push (lo .ready none))
def Mq:List Nat→List Value→cg→cg
 |i::l,v::vs,r=>Mq l vs ((i,v)::r)
 |_,_,r=>r
noncomputable def Hd(P:Program)(N:Nat)(ps:List Nat)(ks:List Kind)(assign body:Code)(an:Ann)(r:cg)(l:Nat)(Dw bz:Obj)(x:cJ ks)(k:Option Ex→ae→Prop)(h:ae):Prop:=
 jY P N assign an.l (fun r1 h1=>h1[l]? =some Dw∧jY P N body an.r (fun _ h2=>k none h2) (fun e _ h2=>k (some e) h2) r1 (h1.setIfInBounds l bz)) (fun _ _ _=>False) (Mq ps (lR ks x) r) h
def vi(N:Nat):List Nat→Bool
 | []=>true
 |n::l=>Nat.blt n N&&vi N l
noncomputable def vd(P:Program)(N:Nat)(c:Code):Ann→(List Nat→cg→ae→Prop)→(Ex→List Nat→cg→ae→Prop)→List Nat→cg→ae→Prop:=
 Code.rec (motive:=fun _=>Ann→(List Nat→cg→ae→Prop)→(Ex→List Nat→cg→ae→Prop)→List Nat→cg→ae→Prop)
  (fun an Kn Kx ms r h=>jY P N .skip an (Kn ms) (fun e=>Kx e ms) r h)
  (fun id ops dr an Kn Kx ms r h=>jY P N (.region id ops dr) an (Kn ms) (fun e=>Kx e ms) r h)
  (fun a b iha ihb an Kn Kx ms r h=>bif (bif px a then true else px b)then iha an.l (fun ms r' h'=>ihb an.r Kn Kx ms r' h') Kx ms r h
   else jY P N (.seq a b) an (Kn ms) (fun e=>Kx e ms) r h)
  (fun c a b iha ihb an Kn Kx ms r h=>bif (bif px a then true else px b)then
    (match cZ r c with
     |some (.bool t)=>CondP t (iha an.l Kn Kx ms r h) (ihb an.r Kn Kx ms r h)
     |_=>False)
   else jY P N (.cond c a b) an (Kn ms) (fun e=>Kx e ms) r h)
  (fun id b ih an Kn Kx ms r h=>bif px b then ih an Kn (fun e ms r' h'=>match e with
    | .exit i=>bif bm i id then Kn ms r' h' else Kx (.exit i) ms r' h'
    | .ret=>Kx .ret ms r' h') ms r h
   else jY P N (.block id b) an (Kn ms) (fun e=>Kx e ms) r h)
  (fun b _ an Kn Kx ms r h=>jY P N (.loop b) an (Kn ms) (fun e=>Kx e ms) r h)
  (fun g ps assign body _ _ an Kn Kx ms r h=>match an with
   | .rf ks aa ab=>bif vi N ps.toList&&bm ps.toList.length ks.length then
    (match cZ r g with
     |some fv=>RangeP P fv ks h (fun Dw bz x k h'=>Hd P N ps.toList ks assign body (.node aa ab) r (h.size+1) Dw bz x k h')
      (fun h'=>Kn (h.size::ms) r h') (fun i h'=>Kx (.exit i) (h.size::ms) r h') (fun h'=>Kx .ret (h.size::ms) r h')
     |none=>False)else False
   |_=>False)
  (fun id an Kn Kx ms r h=>jY P N (.exit id) an (Kn ms) (fun e=>Kx e ms) r h)
  (fun _ _ _ _ _ _ _ _=>False)
  (fun l an Kn Kx ms r h=>jY P N (.label l) an (Kn ms) (fun e=>Kx e ms) r h)
  (fun _ _ _ _ _ _ _=>False)
  (fun an Kn Kx ms r h=>jY P N .ret an (Kn ms) (fun e=>Kx e ms) r h)
  (fun _ _ _ _ _ _ _=>False)
  c
def IX:List Nat→(ae→Prop)→ae→Prop
 | [],K,h=>K h
 |D::ms,K,h=>h[D]? =some (.deferred (some []))∧IX ms K (h.setIfInBounds D (.deferred none))
noncomputable def Lh(P:Program)(fn:Func)(c:Code)(an:Ann)(args:List Value)(ks:List Kind)(K:cJ ks→ae→Prop)(h:ae):Prop:=
 vd P fn.ntmps c an
  (fun ms r h'=>IX ms (fun h'=>l6 P r h' fn.results.toList fun vs=>zK ks vs fun t=>K t h') h')
  (fun e ms r h'=>match e with
   | .ret=>IX ms (fun h'=>l6 P r h' fn.results.toList fun vs=>zK ks vs fun t=>K t h') h'
   | .exit _=>False)
  [] (oe 0 args) h
end Go.Lift
namespace Go.Lift
open Go
theorem BJ(a:Addr):adr a 0=a:=rfl
theorem wP(a:Addr)(n:Nat):adr a (n+1)=⟨a.block,a.off+(n+1),none⟩:=rfl
theorem qS(a:Addr)(n:Nat):adr a n=a.add n:=by
 cases n with
 |zero=>simp[BJ,Addr.add]
 |succ n=>simp[wP,Addr.add]
theorem wQ(a:Addr)(m n:Nat):adr (adr a m) n=adr a (m+n):=by
 cases n with
 |zero=>rfl
 |succ n=>cases m with
  |zero=>simp[BJ]
  |succ m=>rw[wP,wP,show m+1+(n+1)=(m+1+n)+1 from rfl,wP];simp;omega
theorem Tame.refl(w:World):Tame w w:=⟨rfl,rfl,rfl⟩
theorem Tame.trans{a b c:World}(h:Tame a b)(k:Tame b c):Tame a c:=⟨k.os.trans h.os,k.tape.trans h.tape,k.output.trans h.output⟩
theorem wz{a b:IntKind}(h:EE a b=true):a=b:=by cases a<;>cases b<;>first|rfl|cases h
theorem CK.dec_sound{c:CK}{v:Value}{f:c.den→Prop}(h:c.dec v f):∃x,v=c.enc x∧f x:=by
 cases c<;>cases v<;>try simp only[CK.dec]at h
 case int.int k k' n=>
  cases hk:EE k' k with
  |false=>rw[hk]at h;exact h.elim
  |true=>rw[hk]at h;have:=wz hk;subst this;exact⟨n,rfl,h⟩
 case adr.pointer p=>cases p with
  |none=>exact h.elim
  |some a=>exact⟨a,rfl,h⟩
 all_goals first|exact h.elim|exact⟨_,rfl,h⟩
theorem zt:∀{cs:List CK} {vs:List Value} {f:Me cs→Prop},Ju cs vs f→∃t,vs=LX cs t∧f t
 | [],[],f,h=>⟨(),rfl,h⟩
 | [],_::_,f,h=>h.elim
 | [c],[v],f,h=>by obtain⟨x,rfl,hf⟩:=CK.dec_sound h;exact⟨x,rfl,hf⟩
 | [c],[],f,h=>h.elim
 | [c],_::_::_,f,h=>h.elim
 |c::d::cs,[],f,h=>h.elim
 |c::d::cs,[_],f,h=>h.elim
 |c::d::cs,v::u::vs,f,h=>by
  have h0:c.dec v fun x=>Ju (d::cs) (u::vs) fun t=>f (x,t):=h
  obtain⟨x,hx,h1⟩:=CK.dec_sound h0;obtain⟨t,ht,h2⟩:=zt (cs:=d::cs) (vs:=u::vs) h1;exact⟨(x,t),by rw[ht,hx];rfl,h2⟩
theorem Kind.dec_sound{k:Kind}{v:Value}{f:k.den→Prop}(h:k.dec v f):∃x,v=k.enc x∧f x:=by
 cases k with
 |c k=>exact CK.dec_sound h
 |agg cs=>
  cases v<;>simp only[Kind.dec]at h
  case agg vs=>
   obtain⟨t,ht,hf⟩:=zt h;exact⟨t,by simp only[Kind.enc,←ht],hf⟩
theorem pG:∀{ks:List Kind} {vs:List Value} {f:cJ ks→Prop},zK ks vs f→∃t,vs=lR ks t∧f t
 | [],[],f,h=>⟨(),rfl,h⟩
 | [],_::_,f,h=>h.elim
 | [c],[v],f,h=>by obtain⟨x,rfl,hf⟩:=Kind.dec_sound h;exact⟨x,rfl,hf⟩
 | [c],[],f,h=>h.elim
 | [c],_::_::_,f,h=>h.elim
 |c::d::cs,[],f,h=>h.elim
 |c::d::cs,[_],f,h=>h.elim
 |c::d::cs,v::u::vs,f,h=>by
  have h0:c.dec v fun x=>zK (d::cs) (u::vs) fun t=>f (x,t):=h
  obtain⟨x,hx,h1⟩:=Kind.dec_sound h0;obtain⟨t,ht,h2⟩:=pG (ks:=d::cs) (vs:=u::vs) h1;exact⟨(x,t),by rw[ht,hx];rfl,h2⟩
theorem qi:∀(ks:List Kind) (t:cJ ks),(lR ks t).length=ks.length
 | [],_=>rfl
 | [_],_=>rfl
 |_::l::ks,(_,t)=>by simp only[lR,aq,qi (l::ks) t]
structure Agree(N:Nat)(r:cg)(a:Act):Prop where
 size:a.tmps.size=N
 look:∀t v,jh r t=some v→a.tmps.getD t undef=v
theorem gz(k:Nat)(v:Value)(r:cg):jh ((k,v)::r) k=some v:=by rw[AZ,show bm k k=true from Nat.beq_refl k];rfl
theorem fX{k t:Nat}(v:Value)(r:cg)(h:k≠t):jh ((k,v)::r) t=jh r t:=by
 rw[AZ];have:bm k t=false:=Bool.eq_false_iff.2 fun e=>h (aP e)
 rw[this];rfl
theorem Agree.put{N:Nat}{r:cg}{a:Act}(h:Agree N r a)(d:Nat)(v:Value)(hd:d<N):Agree N ((d,v)::r) (a.put (some d) v):=by
 refine⟨by simp[Act.put,h.size],fun t u hu=>?_⟩
 by_cases e:d=t
 ·subst e
  rw[gz]at hu;cases hu;simp[Act.put,h.size,hd]
 ·rw[fX v r e]at hu
  have:=h.look t u hu;simpa[Act.put,Array.getElem?_setIfInBounds_ne e]using this
theorem Agree.known{N:Nat}{r:cg}{a:Act}(h:Agree N r a){t:Nat}{v:Value}(hv:jh r t=some v):Agree N ((t,v)::r) a:=by
 refine⟨h.size,fun s u hu=>?_⟩
 by_cases e:t=s
 ·subst e;rw[gz]at hu;cases hu;exact h.look t v hv
 ·rw[fX v r e]at hu;exact h.look s u hu
theorem kA{N:Nat}{r:cg}{a:Act}(h:Agree N r a){o:Operand}{v:Value}(hv:cZ r o=some v):a.eval o=v:=by
 cases o with
 |tmp t=>exact h.look t v hv
 |const c=>simp[cZ]at hv;subst hv;rfl
 |global g=>simp[cZ]at hv;subst hv;rfl
 |func f=>simp[cZ]at hv;subst hv;rfl
theorem mF{N:Nat}{r:cg}{a:Act}(h:Agree N r a):∀{os:List Operand} {vs:List Value},oN r os=some vs→os.map a.eval=vs
 | [],vs,hv=>by simp[oN]at hv;subst hv;rfl
 |o::os,vs,hv=>by
  simp only[oN]at hv;cases ho:cZ r o with
  |none=>simp[ho]at hv
  |some v=>cases hos:oN r os with
   |none=>simp[ho,hos]at hv
   |some us=>simp[ho,hos]at hv;subst hv;simp[kA h ho,mF h hos]
theorem aw{P:Program}{t:TypeId}{d:TypeDesc}(h:P.underlying t=some d)(w:World):(underlying t).run P w=.ok d w:=by
 simp only[underlying,program,bind,Sem.bind,Sem.run,h,pure]
theorem cD{P:Program}{t:TypeId}{i:TypeInfo}(h:P.info? t=some i)(w:World):(typeInfo t).run P w=.ok i w:=by
 simp only[typeInfo,program,bind,Sem.bind,Sem.run,h,pure]
theorem g8{P:Program}{s:Sem Value}{v:Value}{w w':World}(h:s.run P w=.ok v w'):(do pure (Next.value (←s)):Sem Next).run P w=.ok (.value v) w':=by
 simp[h]
theorem Lk{P:Program}{s:Sem Unit}{w w':World}(h:s.run P w=.ok () w'):(do s;pure Next.skip:Sem Next).run P w=.ok .skip w':=by
 simp[h]
theorem wh{P:Program}{w:World}{a:Addr}{v:Value}(h:aE w.heap a=some v):(load a).run P w=.ok v w:=by
 have h':w.cell? a=some v:=h;simp[h']
theorem wK{v:Value}{vs:List Value}{i:Nat}{a:Addr}{h:ae}:qj (v::vs) i a h↔aE h (adr a i)=some v∧qj vs (i+1) a h:=by
 cases vs with
 |nil=>simp[qj]
 |cons u us=>rfl
theorem p8{P:Program}{w:World}{a:Addr}:∀(vs:List Value) (i:Nat) (acc:Array Value),qj vs i a w.heap→
  (loadCellsFrom a i vs.length acc).run P w=.ok (acc++vs.toArray) w
 | [],i,acc,_=>by simp[loadCellsFrom]
 |v::vs,i,acc,h=>by
  obtain⟨h1,h2⟩:=wK.1 h;rw[qS]at h1;have:=p8 (P:=P) (w:=w) (a:=a) vs (i+1) (acc.push v) h2;simp only[aq,loadCellsFrom,Sem.run_bind,wh h1,Result.andThen_ok,this];simp
theorem Cn{P:Program}{w:World}{a:Addr}{vs:List Value}(h:qj vs 0 a w.heap):(loadCells a vs.length).run P w=.ok vs.toArray w:=by
 have:=p8 (P:=P) (w:=w) (a:=a) vs 0 #[] h;simpa[loadCells]using this
theorem uF:∀(cs:List CK) (i:Nat) (a:Addr) (h:ae) (k:List Value→Prop),EL cs i a h k→∃vs,vs.length=cs.length∧qj vs i a h∧k vs
 | [],i,a,h,k,hk=>⟨[],rfl,trivial,hk⟩
 |c::cs,i,a,h,k,hk=>by
  obtain⟨x,hx,hk⟩:=hk;obtain⟨vs,hl,hc,hk⟩:=uF cs (i+1) a h _ hk;exact⟨c.enc x::vs,by simp[hl],wK.2 ⟨hx,hc⟩,hk⟩
theorem wI:∀{vs:List Value} {cs:List CK},Bz vs=some cs→cs.length=vs.length
 | [],cs,h=>by simp[Bz]at h;subst h;rfl
 |v::vs,cs,h=>by
  simp only[Bz]at h;cases h1:NQ v with
  |none=>simp[h1]at h
  |some c=>cases h2:Bz vs with
   |none=>simp[h1,h2]at h
   |some ds=>simp[h1,h2]at h;subst h;simp[wI h2]
def Md(P:Program)(t:TypeId)(i:TypeInfo):Kind→Prop
 | .c _=>sq P t=false
 | .agg cs=>sq P t=true∧i.size=cs.length
theorem HN{P:Program}{t:TypeId}{k:Kind}(h:Jh P t=some k):∃i,P.info? t=some i∧Md P t i k:=by
 unfold Jh uw at h;cases hi:P.info? t with
 |none=>simp[hi]at h
 |some i=>
  refine⟨i,rfl,?_⟩;cases hz:i.zero with
  |none=>simp[hi,hz]at h
  |some z=>
   rw[hi]at h;simp only[hz]at h;cases z;case agg vs=>
    simp only at h;cases hb:(sq P t&&bm vs.toList.length (bM P t))with
    |false=>rw[hb]at h;simp at h
    |true=>
     rw[hb]at h;simp only[cond_true]at h;simp only[Bool.and_eq_true]at hb;have hs:=aP hb.2;cases hd:Bz vs.toList with
     |none=>rw[hd]at h;simp at h
     |some ds=>
      rw[hd]at h;simp only[bG.injEq]at h;subst h;exact⟨hb.1,by rw[wI hd,hs];simp[bM,hi]⟩
   all_goals
    simp only at h;cases ha:sq P t
    ·rw[ha]at h
     simp only[cond_false]at h;split at h
     ·simp only[bG.injEq]at h;subst h;exact ha
     ·simp at h
    ·rw[ha]at h;simp at h
theorem HO{P:Program}{t:TypeId}{k:Kind}(h:Be P t=some k):(∀w,(isAgg t).run P w=.ok (sq P t) w)∧Jh P t=some k:=by
 unfold Be at h;cases hu:P.underlying t with
 |none=>simp[hu]at h
 |some d=>
  simp only[hu]at h;refine⟨fun w=>?_,h⟩
  simp only[isAgg,Sem.run_bind,aw hu,Result.andThen_ok];unfold sq;rw[hu];cases d<;>rfl
theorem zh{P:Program}{t:TypeId}{v:Value}{K:RK}{h:ae}(hl:FQ P t v K h):
  ∃u S,K u (some S)∧S h∧∀w:World,S w.heap→(Instr.loadAt t v).run P w=.ok u w:=by
 unfold FQ at hl;cases v with
 |pointer p=>
  cases p with
  |none=>exact hl.elim
  |some a=>
   simp only at hl;cases hk:Be P t with
   |none=>simp[hk]at hl
   |some k=>
    obtain⟨hagg,hz⟩:=HO hk;obtain⟨i,hi,hc⟩:=HN hz;rw[hk]at hl;cases k with
    |c c=>
     obtain⟨x,hx,hK⟩:=hl;refine⟨_,_,hK,hx,fun w hw=>?_⟩
     have hc:sq P t=false:=hc;simp only[Instr.loadAt,Instr.sureAddr,loadVar,Sem.run_bind,Sem.run_pure,Result.andThen_ok,hagg,hc];simp[wh hw]
    |agg cs=>
     obtain⟨vs,hlen,hcs,hK⟩:=uF cs 0 a h _ hl;obtain⟨h1,h2⟩:sq P t=true∧i.size=cs.length:=hc;refine⟨_,_,hK,hcs,fun w hw=>?_⟩
     have hz:(sizeOf t).run P w=.ok vs.length w:=by simp[sizeOf,cD hi,h2,hlen]
     simp only[Instr.loadAt,Instr.sureAddr,loadVar,Sem.run_bind,Sem.run_pure,Result.andThen_ok,hagg,h1];simp[hz,Cn hw]
 |_=>exact hl.elim
end Go.Lift
