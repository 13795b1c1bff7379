/- A part of the proof that the named laws of this program answer true, whatever the input. -/
import Derived.OrdersIn
import Derived.Below
import Derived.WalkKit
import Derived.RangeFuncRecord
import Derived.DefersIn
open BitVec renaming ofInt→af
open Iff renaming rfl→w7
open List renaming rec→eR,replicate→dM,length_cons→aN
open Nat renaming succ→fg,beq→bD,min→dy,blt→w6,land→iS,lor→cC,pred→wL,eq_of_beq_eq_true→aQ
open Option renaming some→bC
namespace Go.Lift
abbrev ac:=Array Obj
def aX(h:ac)(a:Addr):Option Value:=
 match h[a.block]? with
 |some (.cells c _ _)=>if a.spot.isSome then none else c[a.off]?
 |_=>none
def CB(h:ac)(a:Addr):Bool:=
 match h[a.block]? with
 |some (.cells _ _ (lo,hi))=>lo≤a.off&&a.off<hi
 |_=>false
def hset(h:ac)(a:Addr)(v:Value):ac:=
 h.modify a.block fun
  | .cells c elem frozen=>.cells (if a.spot.isSome then c else c.setIfInBounds a.off v) elem frozen
  |o=>o
noncomputable def adr(a:Addr)(n:Nat):Addr:=Nat.rec (motive:=fun _=>Addr) a (fun n _=>⟨a.block,a.off+fg n,none⟩) n
def Wr(h:ac)(a:Addr):Prop:=(∃v,aX h a=some v)∧CB h a=false
structure Tame(w w':World):Prop where
 os:w'.os=w.os
 tape:w'.tape=w.tape
 output:w'.output=w.output
structure SliceV where
 a:Option Addr
 len:Nat
 cap:Nat
def GJ:IntKind→IntKind→Bool
 | .i8,.i8=>true| .i16,.i16=>true| .i32,.i32=>true| .i64,.i64=>true
 | .u8,.u8=>true| .u16,.u16=>true| .u32,.u32=>true| .u64,.u64=>true
 |_,_=>false
inductive CK where
 |int (k:IntKind)|bool|str|ptr|slice|map|chan|raw|adr
def CK.den:CK→Type
 | .int _=>Int| .bool=>Bool| .str=>ByteArray| .ptr=>Option Addr| .slice=>SliceV| .map=>Option Nat| .chan=>Option Nat| .raw=>Value| .adr=>Addr
def CK.enc:(c:CK)→c.den→Value
 | .int k,n=>.int k n
 | .bool,b=>.bool b
 | .str,s=>.string s
 | .ptr,p=>.pointer p
 | .slice,s=>.slice s.a s.len s.cap
 | .map,r=>.map r
 | .chan,r=>.chan r
 | .raw,v=>v
 | .adr,a=>.pointer (some a)
def CK.dec:(c:CK)→Value→(c.den→Prop)→Prop
 | .int k,.int k' n,f=>bif GJ k' k then f n else False
 | .bool,.bool b,f=>f b
 | .str,.string s,f=>f s
 | .ptr,.pointer p,f=>f p
 | .slice,.slice a l c,f=>f ⟨a,l,c⟩
 | .map,.map r,f=>f r
 | .chan,.chan r,f=>f r
 | .raw,v,f=>f v
 | .adr,.pointer (some a),f=>f a
 |_,_,_=>False
def Qc:List CK→Type
 | []=>Unit
 | [c]=>c.den
 |c::d::cs=>c.den×Qc (d::cs)
def PR:(cs:List CK)→Qc cs→List Value
 | [],_=> []
 | [c],x=> [c.enc x]
 |c::d::cs,(x,t)=>c.enc x::PR (d::cs) t
def Mz:(cs:List CK)→List Value→(Qc cs→Prop)→Prop
 | [],[],f=>f ()
 | [c],[v],f=>c.dec v f
 |c::d::cs,v::u::vs,f=>c.dec v fun x=>Mz (d::cs) (u::vs) fun t=>f (x,t)
 |_,_,_=>False
inductive Kind where
 |c (k:CK)
 |agg (cs:List CK)
def Kind.den:Kind→Type
 | .c k=>k.den
 | .agg cs=>Qc cs
def Kind.enc:(k:Kind)→k.den→Value
 | .c k,x=>k.enc x
 | .agg cs,t=>.agg (PR cs t).toArray
def Kind.dec:(k:Kind)→Value→(k.den→Prop)→Prop
 | .c k,v,f=>k.dec v f
 | .agg cs,.agg vs,f=>Mz cs vs.toList f
 |_,_,_=>False
def uQ:List Kind→Type
 | []=>Unit
 | [k]=>k.den
 |k::l::ks=>k.den×uQ (l::ks)
def lR:(ks:List Kind)→uQ ks→List Value
 | [],_=> []
 | [k],x=> [k.enc x]
 |k::l::ks,(x,t)=>k.enc x::lR (l::ks) t
def Cf:(ks:List Kind)→List Value→(uQ ks→Prop)→Prop
 | [],[],f=>f ()
 | [k],[v],f=>k.dec v f
 |k::l::ks,v::u::vs,f=>k.dec v fun x=>Cf (l::ks) (u::vs) fun t=>f (x,t)
 |_,_,_=>False
def Ca(ks:List Kind)(vs:List Value):Value:=
 match ks,vs with
 | [_],[v]=>v
 |_,vs=>.tuple vs.toArray
def SY:Value→Option CK
 | .int k _=>some (.int k)
 | .bool _=>some .bool
 | .string _=>some .str
 | .pointer _=>some .ptr
 | .slice .. =>some .slice
 | .map _=>some .map
 | .chan _=>some .chan
 | .nilFunc=>some .raw
 | .nilIface=>some .raw
 |_=>none
def DQ:List Value→Option (List CK)
 | []=>some []
 |v::vs=>match SY v,DQ vs with
  |some c,some cs=>some (c::cs)
  |_,_=>none
def uO(P:Program)(t:TypeId):Bool:=
 match P.underlying t with
 |some (.struct _)|some (.array _ _)=>true
 |_=>false
def bQ(P:Program)(t:TypeId):Nat:=match P.info? t with|some i=>i.size|none=>0
def qg(P:Program)(t:TypeId):Nat:=match P.info? t with|some i=>i.bytes|none=>0
def xt(P:Program)(t:TypeId):Option Value:=match P.info? t with|some i=>i.zero|none=>none
def Me(P:Program)(t:TypeId):Option Kind:=
 match xt P t with
 |some (.agg vs)=>bif uO P t&&bD vs.toList.length (bQ P t)then(match DQ vs.toList with|some cs=>some (.agg cs)|none=>none)else none
 |some v=>bif uO P t then none else(match SY v with|some c=>some (.c c)|none=>none)
 |none=>none
def Dm(P:Program)(t:TypeId):Option Kind:=
 match P.underlying t with
 |none=>none
 |some _=>Me P t
structure HC(P:Program)(f:FuncId)(args:List Value)(ks:List Kind)(K:uQ ks→ac→Prop)(h:ac):Prop where
 run:∀w:World,w.heap=h→
  ((callFunc f args.toArray).run P w=.ok (.enter f args.toArray) w∧
   Calls P f args.toArray w fun e w'=>Tame w w'∧∃t:uQ ks,e=.returned (Ca ks (lR ks t))∧K t w'.heap)∨
  (∃v w',(callFunc f args.toArray).run P w=.ok (.value v) w'∧Tame w w'∧∃t:uQ ks,v=Ca ks (lR ks t)∧K t w'.heap)
structure HE(P:Program)(f:FuncId)(args:List Value)(ks:List Kind)(K:uQ ks→ac→Prop)(h:ac):Prop where
 run:∀w:World,w.heap=h→(∀(args:Array Value) (w:World),(callFunc f args).run P w=.ok (.enter f args) w)∧
  Calls P f args.toArray w fun e w'=>Tame w w'∧∃t:uQ ks,e=.returned (Ca ks (lR ks t))∧K t w'.heap
theorem HE.hc{P:Program}{f:FuncId}{args:List Value}{ks:List Kind}{K:uQ ks→ac→Prop}{h:ac}(e:HE P f args ks K h):HC P f args ks K h:=
 ⟨fun w a=>.inl ⟨(e.run w a).1 _ w,(e.run w a).2⟩⟩
structure HY(P:Program)(l:Nat)(args:List Value)(K:Bool→ac→Prop)(h:ac):Prop where
 run:∀w:World,w.heap=h→∃fn tmps assign body,(Instr.yield l args.toArray).run P w=.ok (.round l fn tmps assign body) w∧
  ∀(c:Frame) (cs:List Frame),∃b w',Tame w w'∧K b w'.heap∧Steps P (lone (Frame.round l fn tmps assign body .normal) (c::cs) w) (lone (c.finish (.bool b)) cs w')
structure HV(P:Program)(fv:Value)(args:List Value)(ks:List Kind)(K:uQ ks→ac→Prop)(h:ac):Prop where
 run:(∃f first cap,fv=.func (.func f) first cap∧HC P f (first.toList++args++cap.toList) ks K h)∨
  (∃l,fv=.func (.yield l) #[] #[]∧HY P l args (fun b h'=>Cf ks [.bool b] fun t=>K t h') h)
noncomputable def CondP(b:Bool)(t e:Prop):Prop:=Bool.rec (motive:=fun _=>Prop) e t b
theorem CondP.yes{b:Bool}{t e:Prop}(h:CondP b t e)(hb:b=true):t:=by subst hb;exact h
theorem CondP.no{b:Bool}{t e:Prop}(h:CondP b t e)(hb:b=false):e:=by subst hb;exact h
theorem CondP.intro{b:Bool}{t e:Prop}(c:b=true→t)(a:b=false→e):CondP b t e:=by cases b;exact a rfl;exact c rfl
theorem ay{t e:Prop}:CondP true t e↔t:=w7
theorem ah{t e:Prop}:CondP false t e↔e:=w7
attribute [irreducible] CondP
def At(h:ac)(k:ac→Prop):Prop:=k h
def Bd{T:Type}(x:T)(k:T→Prop):Prop:=k x
structure Join{T:Type}(rest:T→ac→Prop)(k:(T→ac→Prop)→Prop):Prop where
 run:k rest
structure LoopP{T:Type}(F:(T→ac→Prop)→T→ac→Prop)(t:T)(h:ac):Prop where
 run:∀I:T→ac→Prop,(∀t h,F I t h→I t h)→I t h
abbrev ce:=List (Nat×Value)
noncomputable def jp(r:ce)(t:Nat):Option Value:=
 eR (motive:=fun _=>Option Value) none (fun a _ b=>bif bD a.1 t then some a.2 else b) r
theorem Da(k:Nat)(v:Value)(r:ce)(t:Nat):jp ((k,v)::r) t=bif bD k t then some v else jp r t:=rfl
noncomputable def cR(r:ce):Operand→Option Value
 | .tmp t=>jp r t
 | .const v=>some v
 | .global g=>some (.pointer (some ⟨g,0,none⟩))
 | .func f=>some (.func (.func f) #[] #[])
noncomputable def mJ(r:ce):List Operand→Option (List Value)
 | []=>some []
 |o::os=>match cR r o,mJ r os with
  |some v,some vs=>some (v::vs)
  |_,_=>none
noncomputable def GO:List CK→Nat→Addr→ac→(List Value→Prop)→Prop
 | [],_,_,_,k=>k []
 |c::cs,i,a,h,k=>∃x:c.den,aX h (adr a i)=some (c.enc x)∧GO cs (i+1) a h fun vs=>k (c.enc x::vs)
noncomputable def sm:List Value→Nat→Addr→ac→Prop
 | [],_,_,_=>True
 | [v],i,a,h=>aX h (adr a i)=some v
 |v::u::vs,i,a,h=>aX h (adr a i)=some v∧sm (u::vs) (i+1) a h
abbrev RK:=Value→Option (ac→Prop)→Prop
noncomputable def HW(P:Program)(t:TypeId)(v:Value)(K:RK)(h:ac):Prop:=
 match v with
 | .pointer (some a)=>
  match Dm P t with
  |some (.c c)=>∃x:c.den,aX h a=some (c.enc x)∧K (c.enc x) (some fun h'=>aX h' a=some (c.enc x))
  |some (.agg cs)=>GO cs 0 a h fun vs=>K (.agg vs.toArray) (some fun h'=>sm vs 0 a h')
  |none=>False
 |_=>False
def vW(P:Program)(t:TypeId)(f:Nat):Option (TypeId×Nat):=
 match P.underlying t with
 |some (.struct fs)=>match fs.toList[f]? with
  |some g=>some (g.type,g.offset)
  |none=>none
 |_=>none
def uY(P:Program)(t:TypeId):Option TypeId:=
 match P.underlying t with
 |some (.slice e)=>some e
 |_=>none
def JJ(c:BinOp)(k:IntKind)(a b:Int)(K:RK):Prop:=
 match c with
 | .shl=>0≤b∧K (.int k (k.wrap (a*2^(min b.toNat k.bits)))) none
 | .shr=>0≤b∧K (.int k (a.fdiv (2^(min b.toNat k.bits)))) none
 |_=>False
def SO(c:BinOp)(k:IntKind)(a b:Int)(K:RK):Prop:=
 match c with
 | .add=>K (.int k (k.wrap (a+b))) none
 | .sub=>K (.int k (k.wrap (a-b))) none
 | .mul=>K (.int k (k.wrap (a*b))) none
 | .quo=>b≠0∧K (.int k (k.wrap (a.tdiv b))) none
 | .rem=>b≠0∧K (.int k (a.tmod b)) none
 | .and=>K (.int k (k.wrap (af k.bits a&&&af k.bits b).toNat)) none
 | .or=>K (.int k (k.wrap (af k.bits a|||af k.bits b).toNat)) none
 | .xor=>K (.int k (k.wrap (af k.bits a^^^af k.bits b).toNat)) none
 | .andNot=>K (.int k (k.wrap (af k.bits a&&& ~~~af k.bits b).toNat)) none
 | .eql=>K (.bool (a==b)) none
 | .neq=>K (.bool (a !=b)) none
 | .lss=>K (.bool (decide (a<b))) none
 | .leq=>K (.bool (decide (a≤b))) none
 | .gtr=>K (.bool (decide (a>b))) none
 | .geq=>K (.bool (decide (a≥b))) none
 |_=>False
def Su(c:BinOp)(a b:ByteArray)(K:RK):Prop:=
 match c with
 | .add=>((a.size+b.size:Nat):Int)≤9223372036854775807∧K (.string (a++b)) none
 | .eql=>K (.bool (a.toList==b.toList)) none
 | .neq=>K (.bool (!(a.toList==b.toList))) none
 | .lss=>K (.bool (Op.bytesLess a.toList b.toList)) none
 | .leq=>K (.bool (Op.bytesLess a.toList b.toList||a.toList==b.toList)) none
 | .gtr=>K (.bool (!(Op.bytesLess a.toList b.toList||a.toList==b.toList))) none
 | .geq=>K (.bool (!(Op.bytesLess a.toList b.toList))) none
 |_=>False
def f8(h:ac)(a:Addr):Prop:=(∃c e,h[a.block]? =some (.cells c e (0,0))∧0<c.size)
def Rc(P:Program)(t:TypeId)(neg:Bool)(x y:Value)(K:RK):Prop:=
 match P.underlying t,x,y with
 |some (.pointer _),.pointer a,.pointer none=>K (.bool (bif neg then !a.isNone else a.isNone)) none
 |some (.map _ _),.map a,.map none=>K (.bool (bif neg then !a.isNone else a.isNone)) none
 |some (.slice _),.slice a _ _,.slice none _ _=>K (.bool (bif neg then !a.isNone else a.isNone)) none
 |_,_,_=>False
def SN:Operand→Bool
 | .const (.pointer none)=>true
 | .const (.map none)=>true
 | .const (.slice none 0 0)=>true
 |_=>false
def Ug(P:Program)(t:TypeId)(neg:Bool)(x y:Value)(K:RK)(h:ac):Prop:=
 match P.underlying t,x,y with
 |some .bool,.bool a,.bool b=>K (.bool (bif neg then !(a==b)else a==b)) none
 |some (.pointer e),.pointer a,.pointer b=>
  (bif bD (bQ P e) 0 then False else True)∧
  (∀x y,a=some x→b=some y→f8 h x∧f8 h y)∧
  K (.bool (bif neg then !(a==b)else a==b)) (some fun h'=>∀x y,a=some x→b=some y→f8 h' x∧f8 h' y)
 |_,_,_=>False
def SF(P:Program)(c:BinOp)(t:TypeId)(x y:Value)(K:RK)(h:ac):Prop:=
 match x,y with
 | .int k a,.int k' b=>
  match c with
  | .shl=>JJ .shl k a b K
  | .shr=>JJ .shr k a b K
  |c=>bif GJ k' k then SO c k a b K else False
 | .string a,.string b=>Su c a b K
 |x,y=>match c with
  | .eql=>Ug P t false x y K h
  | .neq=>Ug P t true x y K h
  |_=>False
def qZ(h:ac):List (Option Addr×Option Addr)→Prop
 | []=>True
 |(a,b)::l=>(∀x y,a=some x→b=some y→f8 h x∧f8 h y)∧qZ h l
def PH(P:Program)(t:TypeId)(x y:Value):Option (Bool×List (Option Addr×Option Addr)):=
 match P.underlying t,x,y with
 |some (.int _),.int k a,.int k' b=>bif GJ k' k then some (a==b,[])else none
 |some .bool,.bool a,.bool b=>some (a==b,[])
 |some .string,.string a,.string b=>some (a.toList==b.toList,[])
 |some (.pointer e),.pointer a,.pointer b=>bif bD (bQ P e) 0 then none else some (a==b,[(a,b)])
 |_,_,_=>none
def RF(P:Program)(rec:TypeId→List Value→List Value→Option (Bool×List (Option Addr×Option Addr)))(xs ys:List Value):List Field→Option (Bool×List (Option Addr×Option Addr))
 | []=>some (true,[])
 |f::fs=>
  if f.name= "_" then none else
  bif (P.underlying f.type).isSome&&(P.info? f.type).isSome then
   match(bif uO P f.type then rec f.type ((xs.drop f.offset).take (bQ P f.type)) ((ys.drop f.offset).take (bQ P f.type))
    else match xs[f.offset]?,ys[f.offset]? with|some x,some y=>PH P f.type x y|_,_=>none),RF P rec xs ys fs with
   |some (b,l),some (c,m)=>some (b&&c,l++m)
   |_,_=>none
  else none
def PI(P:Program):Nat→TypeId→List Value→List Value→Option (Bool×List (Option Addr×Option Addr))
 |0,_,_,_=>none
 |d+1,t,xs,ys=>match P.underlying t with
  |some (.struct fs)=>bif P.stoodInHeld t then none else RF P (PI P d) xs ys fs.toList
  |_=>none
def UM(neg b:Bool)(K:RK)(h:ac):List (Option Addr×Option Addr)→Prop
 | []=>K (.bool (bif neg then !b else b)) none
 |p::l=>qZ h (p::l)∧K (.bool (bif neg then !b else b)) (some fun h'=>qZ h' (p::l))
def SH(P:Program)(a:BinOp)(t:TypeId)(xs ys:List Value)(K:RK)(h:ac):Prop:=
 bif P.eqGuardType P.depth t then False else
 match a with
 | .eql=>(match PI P 10 t xs ys with|some (b,l)=>UM false b K h l|none=>False)
 | .neq=>(match PI P 10 t xs ys with|some (b,l)=>UM true b K h l|none=>False)
 |_=>False
def Ut(a:UnOp)(x:Value)(K:RK):Prop:=
 match a,x with
 | .neg,.int k n=>K (.int k (k.wrap (0-n))) none
 | .xor,.int k n=>K (.int k (k.wrap (af k.bits (if k.signed then-1 else k.max)^^^af k.bits n).toNat)) none
 | .not,.bool b=>K (.bool (!b)) none
 |_,_=>False
def bv(s:ByteArray):List Value:=s.data.toList.map fun b=>.int .u8 b.toNat
noncomputable def Row(h:ac)(a:Addr)(vs:List Value):Prop:=∀i v,vs[i]? =some v→aX h (adr a i)=some v
noncomputable def SRow(h:ac)(a:Option Addr)(n:Nat)(vs:List Value):Prop:=vs.length=n∧(vs= []∨∃b,a=some b∧Row h b vs)
def KD(P:Program)(e:TypeId):Bool:=match P.underlying e with|some (.int .u8)=>true|_=>false
def SM(P:Program)(s d:TypeId):Bool:=
 match P.underlying s,P.underlying d with
 |some .string,some (.slice e)=>KD P e
 |_,_=>false
def UU(e:TypeId)(s:ByteArray)(h:ac)(K:Nat→ac→Prop):Prop:=
 ∀c,s.size≤c→K c (h.push (.cells (bv s++dM (c-s.size) (Value.int .u8 0)).toArray e (c,c+1)))
noncomputable def O7(P:Program)(c b:TypeId)(x:Value)(K:RK)(h:ac):Prop:=
 match P.underlying c,P.underlying b,x with
 |some (.int _),some (.int k),.int _ n=>K (.int k (k.wrap n)) none
 |some .string,some .string,.string s=>K (.string s) none
 |some (.slice e),some .string,.slice a n _=>bif KD P e then∃s:ByteArray,SRow h a n (bv s)∧K (.string s) (some fun h'=>SRow h' a n (bv s))else False
 |_,_,_=>False
def PW(v:Option Value)(d y:Nat)(K:Nat→Prop):Prop:=
 match v with
 |none=>K d
 |some (.int _ i)=>(0≤i∧i≤y)∧K i.toNat
 |_=>False
noncomputable def aS(a:Option Addr)(l m size:Nat):Option Addr:=if m=l then a else a.map (adr · (l*size))
def Pg(P:Program)(t:TypeId)(K:Prop):Prop:=match P.info? t with|some _=>K|none=>False
noncomputable def JT(P:Program)(t:TypeId)(x:Value)(lo hi b:Option Value)(K:RK):Prop:=
 match P.underlying t,x with
 |some .string,.string s=>match b with
  |some _=>False
  |none=>PW hi s.size s.size fun h=>PW lo 0 h fun l=>K (.string (s.extract l h)) none
 |some (.slice e),.slice a len cap=>Pg P e (
  match b with
  |none=>PW hi len cap fun h=>PW lo 0 h fun l=>K (.slice (aS a l cap (bQ P e)) (h-l) (cap-l)) none
  |some m=>match hi with
   |none=>False
   |some hi=>PW (some m) 0 cap fun m=>PW (some hi) 0 m fun h=>PW lo 0 h fun l=>K (.slice (aS a l m (bQ P e)) (h-l) (m-l)) none)
 |some (.array n e),.pointer (some a)=>Pg P e (
  match b with
  |none=>PW hi n n fun h=>PW lo 0 h fun l=>K (.slice (aS (some a) l n (bQ P e)) (h-l) (n-l)) none
  |some _=>False)
 |_,_=>False
noncomputable def Fh(r:ce):Option Operand→Option (Option Value)
 |none=>some none
 |some o=>match cR r o with
  |some v=>some (some v)
  |none=>none
noncomputable def x8(P:Program)(t:TypeId)(x i:Value)(K:RK):Prop:=
 match P.underlying t,x,i with
 |some (.array n e),.pointer (some a),.int _ i=>Pg P e ((0≤i∧i<n)∧K (.pointer (some (adr a (i.toNat*bQ P e)))) none)
 |some (.slice e),.slice b len _,.int _ i=>Pg P e ((0≤i∧i<len)∧∃a,b=some a∧K (.pointer (some (adr a (i.toNat*bQ P e)))) none)
 |_,_,_=>False
def JV(P:Program)(t:TypeId)(x i:Value)(K:RK):Prop:=
 match P.underlying t,x,i with
 |some .string,.string s,.int _ i=>∃b:UInt8,0≤i∧s[i.toNat]? =some b∧K (.int .u8 b.toNat) none
 |_,_,_=>False
noncomputable def JW(P:Program)(t:TypeId)(x:Value)(f:Nat)(K:RK):Prop:=
 match vW P t f,x with
 |some (u,off),.agg cs=>bif (P.underlying u).isSome&&(P.info? u).isSome then(bif uO P u then K (.agg ((cs.toList.drop off).take (bQ P u)).toArray) none
  else(match cs.toList[off]? with|some v=>K v none|none=>False))else False
 |_,_=>False
def Sa(c a b:Value)(K:RK):Prop:=
 match c with
 | .bool c=>(match a,b with
  | .bool x,.bool y=>K (.bool (bif c then x else y)) none
  |_,_=>(match c with|true=>K a none|false=>K b none))
 |_=>False
def fo:Value→Value→Bool
 | .int _ a,.int _ b=>a==b
 | .string a,.string b=>a==b
 | .bool a,.bool b=>a==b
 |_,_=>false
def Dx(k:Value):List MapEntry→Option Value
 | []=>none
 |e::es=>if fo k e.key then some e.val else Dx k es
def keysOf(c:CK)(es:List MapEntry):Prop:=∀e∈es,∃x:c.den,e.key=c.enc x
def j1(c:CK)(z:Value)(h:ac)(m:Option Nat)(k v:Value)(a:Bool):Prop:=
 match m with
 |none=>v=z∧a=false
 |some r=>∃es clock,h[r]? =some (.map es clock)∧keysOf c es.toList∧
  (match Dx k es.toList with|some u=>v=u∧a=true|none=>v=z∧a=false)
def Ih(P:Program)(t:TypeId):Option (CK×TypeId):=
 match P.underlying t with
 |some (.map k e)=>match P.underlying k with
  |some (.int i)=>some (.int i,e)
  |some .string=>some (.str,e)
  |some .bool=>some (.bool,e)
  |_=>none
 |_=>none
def Gl(P:Program)(t:TypeId)(x k:Value)(a:Bool)(K:RK)(h:ac):Prop:=
 match Ih P t,x with
 |some (c,e),.map m=>c.dec k fun _=>
  (match Dm P e,xt P e with
   |some ek,some z=>∃(y:ek.den) (b:Bool),j1 c z h m k (ek.enc y) b∧
    K (bif a then .tuple #[ek.enc y,.bool b]else ek.enc y) (some fun h'=>j1 c z h' m k (ek.enc y) b)
   |_,_=>False)
 |_,_=>False
def A9(h:ac)(m:Option Nat)(n:Nat):Prop:=
 match m with
 |none=>n=0
 |some r=>∃es clock,h[r]? =some (.map es clock)∧n=es.size
def ME(c:Bool)(h:ac)(m:Option Nat)(n:Nat):Prop:=
 match m with
 |none=>n=0
 |some r=>∃cap buf cl s q,h[r]? =some (.chan cap buf cl s q false)∧n=bif c then cap else buf.size
def SD(P:Program)(t:TypeId)(x:Value)(K:RK)(h:ac):Prop:=
 match P.underlying t,x with
 |some .string,.string s=>K (.int .i64 s.size) none
 |some (.array n _),_=>K (.int .i64 n) none
 |some (.slice _),.slice _ n _=>K (.int .i64 n) none
 |some (.map _ _),.map m=>∃n:Nat,A9 h m n∧K (.int .i64 n) (some fun h'=>A9 h' m n)
 |some (.chan _ _),.chan m=>∃n:Nat,ME false h m n∧K (.int .i64 n) (some fun h'=>ME false h' m n)
 |_,_=>False
def SE(P:Program)(t:TypeId)(x:Value)(K:RK)(h:ac):Prop:=
 match P.underlying t,x with
 |some (.slice _),.slice _ _ n=>K (.int .i64 n) none
 |some (.chan _ _),.chan m=>∃n:Nat,ME true h m n∧K (.int .i64 n) (some fun h'=>ME true h' m n)
 |_,_=>False
def GD(c:Bool)(k:IntKind):Int→List Value→(Value→Prop)→Prop
 |a,[],f=>f (.int k a)
 |a,.int k' b::vs,f=>bif GJ k' k then GD c k (bif c then(if b>a then b else a)else(if b<a then b else a)) vs f else False
 |_,_,_=>False
def Cx(b:Bool)(vs:List Value)(f:Value→Prop):Prop:=
 match vs with
 | .int k a::vs=>GD b k a vs f
 |_=>False
def D5(h:ac)(i:Nat)(e:MapEntry):Prop:=
 ∃m since seen last stamp es,h[i]? =some (.mapIter (some m) since seen last)∧seen.back? =some stamp∧h[m]? =some (.map es last)∧es.find? (fun e=>e.born==stamp)=some e
def px(P:Program)(t:TypeId):Bool:=match P.underlying t with|some (.interface _)=>false|some _=>true|none=>false
def L4(P:Program)(t:TypeId)(x:Value)(K:RK):Prop:=
 bif px P t then(match Dm P t with
  |some k=>∃y:k.den,x=.iface t (k.enc y)∧K (k.enc y) none
  |none=>False)else False
def H4(cs:List Value)(off:Nat)(vs:List Value):List Value:=cs.take off++vs++cs.drop (off+vs.length)
def BK(a:Nat→Option (Nat×Nat)):List Value→List (Nat×Value)→Option (List Value)
 |cs,[]=>some cs
 |cs,(i,v)::rest=>match a i with
  |none=>none
  |some (off,size)=>bif bD v.cells.toList.length size&&Nat.ble (off+v.cells.toList.length) cs.length then BK a (H4 cs off v.cells.toList) rest else none
noncomputable def pw(r:ce):List (Nat×Operand)→Option (List (Nat×Value))
 | []=>some []
 |(i,o)::ps=>match cR r o,pw r ps with
  |some v,some vs=>some ((i,v)::vs)
  |_,_=>none
def pZ(P:Program)(t:TypeId):Option (List Value):=match xt P t with|some z=>some z.cells.toList|none=>none
def c8(n:Nat)(z:List Value):List Value:=(dM n z).flatten
def wW(P:Program)(t:TypeId):Bool:=match P.info? t with|some _=>true|none=>false
def zA(P:Program):List Field→Bool
 | []=>true
 |f::fs=>bif wW P f.type then zA P fs else false
def Kf(P:Program)(a:List Field)(i:Nat):Option (Nat×Nat):=match a[i]? with|some f=>some (f.offset,bQ P f.type)|none=>none
def GW(P:Program)(t:TypeId)(a:List (Nat×Value)):Option (List Value):=
 match P.underlying t,pZ P t with
 |some (.struct fs),some z=>bif zA P fs.toList then BK (Kf P fs.toList) z a else none
 |some (.array _ e),some z=>bif wW P e then BK (fun i=>some (i*bQ P e,bQ P e)) z a else none
 |_,_=>none
noncomputable def Aq(P:Program)(ek:Option (Kind×Kind))(o:Op)(r:ce)(K:RK)(h:ac):Prop:=
 match o with
 | .entry it=>match cR r it,ek with
  |some (.pointer (some a)),some (kk,vk)=>a.off=0∧∃(e:MapEntry) (x:kk.den) (y:vk.den),D5 h a.block e∧e.key=kk.enc x∧e.val=vk.enc y∧
    K (.tuple #[kk.enc x,vk.enc y]) (some fun h'=>D5 h' a.block e)
  |_,_=>False
 | .move x| .assign x=>match cR r x with|some v=>K v none|none=>False
 | .load t a=>match cR r a with|some v=>HW P t v K h|none=>False
 | .nilCheck x=>match cR r x with|some (.pointer p)=>∃a,p=some a∧K (.pointer (some a)) none|_=>False
 | .binOp op t x y _=>match cR r x,cR r y with
  |some (.agg v),some (.agg u)=>SH P op t v.toList u.toList K h
  |some v,some u=>(match op,SN y with
   | .eql,true=>Rc P t false v u K
   | .neq,true=>Rc P t true v u K
   |op,_=>SF P op t v u K h)
  |_,_=>False
 | .unOp op _ x=>match cR r x with|some v=>Ut op v K|none=>False
 | .convert s d x=>match cR r x with|some v=>O7 P s d v K h|none=>False
 | .pick c a b=>match cR r c,cR r a,cR r b with|some c,some a,some b=>Sa c a b K|_,_,_=>False
 | .extract x i=>match cR r x with
  |some (.tuple vs)=>(match vs.toList[i]? with|some v=>K v none|none=>False)
  |_=>False
 | .fieldAddr t x f=>match cR r x,vW P t f with
  |some (.pointer (some a)),some (u,off)=>bif bD (bQ P u) 0 then False else K (.pointer (some (adr a off))) none
  |_,_=>False
 | .field t x f=>match cR r x with|some v=>JW P t v f K|none=>False
 | .indexAddr t x i=>match cR r x,cR r i with|some v,some u=>x8 P t v u K|_,_=>False
 | .index t x i=>match cR r x,cR r i with|some v,some u=>JV P t v u K|_,_=>False
 | .slice t x lo hi mx=>match cR r x,Fh r lo,Fh r hi,Fh r mx with
  |some v,some l,some h',some m=>JT P t v l h' m K
  |_,_,_,_=>False
 | .lookup t x k ok=>match cR r x,cR r k with|some v,some u=>Gl P t v u ok K h|_,_=>False
 | .makeInterface t x=>match cR r x with|some v=>bif px P t then K (.iface t v) none else False|none=>False
 | .typeAssert x _ t ok=>match cR r x with|some v=>bif ok then False else L4 P t v K|none=>False
 | .build t ps=>match pw r ps.toList with
  |some vs=>(match GW P t vs with|some cs=>K (.agg cs.toArray) none|none=>False)
  |none=>False
 | .makeFunc fn first cap=>match mJ r first.toList,mJ r cap.toList with
  |some vs,some us=>K (.func fn vs.toArray us.toArray) none
  |_,_=>False
 | .call c=>match c.callee,mJ r c.args.toList,c.argTypes.toList with
  | .builtin .len,some [v],[t]=>SD P t v K h
  | .builtin .cap,some [v],[t]=>SE P t v K h
  | .builtin .min,some vs,_=>Cx false vs fun v=>K v none
  | .builtin .max,some vs,_=>Cx true vs fun v=>K v none
  |_,_,_=>False
 |_=>False
abbrev WK:=Value→ac→Prop
def aH(h:ac):Addr:=⟨h.size,0,none⟩
def hnew(h:ac)(cs:List Value)(t:TypeId):ac:=h.push (.cells cs.toArray t (0,0))
def bU:List Value→Bool
 | []=>true
 |v::vs=>(match v with| .agg _=>false| .tuple _=>false|_=>true)&&bU vs
noncomputable def iJ(h:ac)(a:Addr):Nat→List Value→ac
 |_,[]=>h
 |i,v::vs=>iJ (hset h (adr a i) v) a (i+1) vs
noncomputable def eW(h:ac)(a:Option Addr)(i:Nat)(vs:List Value):ac:=match a with|some a=>iJ h a i vs|none=>h
noncomputable def uj(h:ac)(a:Option Addr)(i:Nat)(vs:List Value):Prop:=vs= []∨∃b,a=some b∧∀j,j<vs.length→Wr h (adr b (i+j))
noncomputable def Jy(P:Program)(t:TypeId)(a v:Value)(K:WK)(h:ac):Prop:=
 match a with
 | .pointer (some a)=>bif bD v.cells.toList.length (bQ P t)&&bU v.cells.toList then Pg P t
   (match v.cells.toList with
    | [v]=>Wr h a∧K undef (hset h a v)
    |vs=>uj h (some a) 0 vs∧K undef (iJ h a 0 vs))
  else False
 |_=>False
noncomputable def P0(P:Program)(e:TypeId)(a:Option Addr)(sl c b:Nat)(xs:List Value)(K:WK)(h:ac):Prop:=
 (sl+b≤c→uj h a (sl*bQ P e) xs∧bU xs=true∧K (.slice a (sl+b) c) (eW h a (sl*bQ P e) xs))∧
 (c<sl+b→∃old z,SRow h a (sl*bQ P e) old∧pZ P e=some z∧0<qg P e∧Builtin.nextslicecap (sl+b) c*qg P e≤2^48∧
  ∀nc,sl+b≤nc→K (.slice (some (aH h)) (sl+b) nc) (hnew h (old++xs++c8 (nc-(sl+b)) z) e))
noncomputable def Cq(P:Program)(t:TypeId)(s x:Value)(K:WK)(h:ac):Prop:=
 match uY P t,s,x with
 |some e,.slice b sl sc,.slice a xl _=>Pg P e (∃xs,SRow h a (xl*bQ P e) xs∧P0 P e b sl sc xl xs K h)
 |some e,.slice b sl sc,.string x=>bif bD (bQ P e) 1 then P0 P e b sl sc x.size (bv x) K h else False
 |_,_,_=>False
noncomputable def CO(P:Program)(t:TypeId)(s x:Value)(K:WK)(h:ac):Prop:=
 match uY P t,s,x with
 |some e,.slice b sl sc,.int _ l=>(match pZ P e with
  |some z=>bif bD z.length (bQ P e)then(0≤l∧l*qg P e≤2^48∧l≤9223372036854775807∧((sl+l.toNat:Nat):Int)≤9223372036854775807)∧P0 P e b sl sc l.toNat (c8 l.toNat z) K h else False
  |none=>False)
 |_,_,_=>False
noncomputable def Jz(P:Program)(t:TypeId)(x:Value)(K:WK)(h:ac):Prop:=
 match uY P t,x with
 |some e,.slice a n _=>(match pZ P e with
  |some z=>bif bU z then uj h a 0 (c8 n z)∧K (.tuple #[]) (eW h a 0 (c8 n z))else False
  |none=>False)
 |_,_=>False
noncomputable def Om(P:Program)(t:TypeId)(d s:Value)(K:WK)(h:ac):Prop:=
 match uY P t,d,s with
 |some e,.slice b dl _,.slice a sl _=>Pg P e (∃xs,SRow h a (dy sl dl*bQ P e) xs∧uj h b 0 xs∧bU xs=true∧K (.int .i64 (dy sl dl)) (eW h b 0 xs))
 |some e,.slice b dl _,.string x=>bif bD (bQ P e) 1 then uj h b 0 ((bv x).take dl)∧K (.int .i64 (dy x.size dl)) (eW h b 0 ((bv x).take dl))else False
 |_,_,_=>False
def Gq(k v:Value)(a:Nat):List MapEntry→List MapEntry×Nat
 | []=>([{key:=k,val:=v,born:=a}],a+1)
 |e::es=>if fo k e.key then({e with key:=k,val:=v}::es,a)else let r:=Gq k v a es;(e::r.1,r.2)
def DI(k:Value):List MapEntry→List MapEntry
 | []=> []
 |e::es=>if fo k e.key then es else e::DI k es
def ru(c:CK)(h:ac)(r:Nat):Prop:=∃es clock,h[r]? =some (.map es clock)∧keysOf c es.toList
def kP(h:ac)(r:Nat)(k v:Value):ac:=
 match h[r]? with
 |some (.map es clock)=>h.setIfInBounds r (.map (Gq k v clock es.toList).1.toArray (Gq k v clock es.toList).2)
 |_=>h
def BF(h:ac)(r:Nat)(k:Value):ac:=
 match h[r]? with
 |some (.map es clock)=>h.setIfInBounds r (.map (DI k es.toList).toArray clock)
 |_=>h
def Cp(P:Program)(t:TypeId)(m k v:Value)(K:WK)(h:ac):Prop:=
 match Ih P t,m with
 |some (c,_),.map m=>c.dec k fun _=>∃r,m=some r∧ru c h r∧K undef (kP h r k v)
 |_,_=>False
def CM(P:Program)(t:TypeId)(m k:Value)(K:WK)(h:ac):Prop:=
 match Ih P t,m with
 |some (c,_),.map m=>c.dec k fun _=>(m=none∧K (.tuple #[]) h)∨(∃r,m=some r∧ru c h r∧K (.tuple #[]) (BF h r k))
 |_,_=>False
def OZ(P:Program):List TypeId→Option (List Kind)
 | []=>some []
 |t::ts=>match Dm P t,OZ P ts with
  |some k,some ks=>some (k::ks)
  |_,_=>none
def O0(P:Program)(t:TypeId):Option (List Kind):=
 match P.underlying t with
 |some (.tuple ts)=>OZ P ts.toList
 |_=>OZ P [t]
noncomputable def RU(P:Program)(f:Operand)(r:ce)(args:List Value)(t:TypeId)(K:WK)(h:ac):Prop:=
 match O0 P t with
 |none=>False
 |some ks=>match f with
  | .func f=>HC P f args ks (fun x h'=>K (Ca ks (lR ks x)) h') h
  |f=>match cR r f with
   |some fv=>HV P fv args ks (fun x h'=>K (Ca ks (lR ks x)) h') h
   |none=>False
def Ol(b:Value)(K:WK)(h:ac):Prop:=
 match b with
 | .pointer (some a)=>a.off=0∧
  ∃m since seen last,h[a.block]? =some (.mapIter m since seen last)∧
   ((m=none∧K (.tuple #[.bool false]) h)∨
    (∃r es clock,m=some r∧h[r]? =some (.map es clock)∧(seen.isEmpty=true∨es.isEmpty=true∨es.all (fun e=>decide (e.born≥last))=false)∧
     ((∀e∈es.toList,e.born<since→seen.contains e.born=true)→K (.tuple #[.bool false]) h)∧
     (∀e∈es.toList,seen.contains e.born=false→K (.tuple #[.bool true,e.key,e.val]) (h.setIfInBounds a.block (.mapIter (some r) since (seen.push e.born) clock)))))
 |_=>False
noncomputable def Ey(P:Program)(o:Oper)(r:ce)(K:WK)(h:ac):Prop:=
 match o.op with
 | .alloc t=>(match pZ P t with|some z=>K (.pointer (some (aH h))) (hnew h z t)|none=>False)
 | .box t x=>(match cR r x with|some v=>K (.pointer (some (aH h))) (hnew h v.cells.toList t)|none=>False)
 | .build t ps=>(match pw r ps.toList with
  |some vs=>(match GW P t vs with|some cs=>K (.agg cs.toArray) h|none=>False)
  |none=>False)
 | .buildSlice t n ps=>(match uY P t,pw r ps.toList with
  |some e,some vs=>(match pZ P e with
   |some z=>bif Nat.ble (n*bQ P e) 16777216&&bD z.length (bQ P e)then
     (match BK (fun i=>some (i*bQ P e,bQ P e)) (c8 n z) vs with|some cs=>K (.slice (some (aH h)) n n) (hnew h cs e)|none=>False)
    else False
   |none=>False)
  |_,_=>False)
 | .store t a x=>(match cR r a,cR r x with|some a,some v=>Jy P t a v K h|_,_=>False)
 | .mapUpdate t m k x=>(match cR r m,cR r k,cR r x with|some m,some k,some v=>Cp P t m k v K h|_,_,_=>False)
 | .insert t m k x=>(match cR r m,cR r k,cR r x with|some m,some k,some v=>Cp P t m k v K h|_,_,_=>False)
 | .makeMap t n=>(match n with
  |none=>K (.map (some h.size)) (h.push (.map #[] 0))
  |some n=>(match cR r n,P.underlying t with|some (.int _ _),some (.map _ _)=>K (.map (some h.size)) (h.push (.map #[] 0))|_,_=>False))
 | .makeSlice t l c=>(match uY P t,cR r l,cR r c with
  |some e,some (.int _ l),some (.int _ c)=>(match pZ P e with
   |some z=>bif bD z.length (bQ P e)then(0≤l∧l≤c∧c≤9223372036854775807∧qg P e*c≤2^48)∧K (.slice (some (aH h)) l.toNat c.toNat) (hnew h (c8 c.toNat z) e)else False
   |none=>False)
  |_,_,_=>False)
 | .convert s d x=>(match P.underlying s,P.underlying d,cR r x with
  |some .string,some (.slice e),some (.string v)=>bif KD P e then UU e v h (fun c h'=>K (.slice (some (aH h)) v.size c) h')else False
  |_,_,_=>False)
 | .range t x=>(match P.underlying t,cR r x with
  |some (.map _ _),some (.map m)=>∃clock,(m=none∧clock=0∨∃r es,m=some r∧h[r]? =some (.map es clock))∧K (.pointer (some (aH h))) (h.push (.mapIter m clock #[] clock))
  |_,_=>False)
 | .next it false=>(match cR r it with|some it=>Ol it K h|none=>False)
 | .call c=>(match c.callee,mJ r c.args.toList with
  | .builtin .append,some [s,x]=>(match c.argTypes.toList with| [t,u]=>(match P.underlying u with|some (.slice _)=>Cq P t s x K h|some .string=>Cq P t s x K h|some (.int _)=>CO P t s x K h|_=>False)|_=>False)
  | .builtin .clear,some [x]=>(match c.argTypes.toList with| [t]=>Jz P t x K h|_=>False)
  | .builtin .copy,some [d,s]=>(match c.argTypes.toList with| [t,_]=>Om P t d s K h|_=>False)
  | .builtin .delete,some [m,k]=>(match c.argTypes.toList with| [t,_]=>CM P t m k K h|_=>False)
  | .value f,some args=>RU P f r args o.type K h
  |_,_=>False)
 |_=>False
def u6(P:Program):Op→Bool
 | .convert s d _=> !SM P s d
 | .alloc _| .box .. | .buildSlice .. | .store .. | .mapUpdate .. | .insert .. | .makeMap .. | .makeSlice .. | .range .. | .next .. =>false
 | .call c=>match c.callee with
  | .builtin .len| .builtin .cap| .builtin .min| .builtin .max=>true
  |_=>false
 |_=>true
def yp(N:Nat)(o:Oper)(v:Value)(r:ce)(K:ce→Prop):Prop:=
 match o.dst with
 |none=>K r
 |some d=>bif w6 d N then K ((d,v)::r)else False
noncomputable def Tf(P:Program)(N:Nat)(ek:Option (Kind×Kind))(o:Oper)(r:ce)(K:ce→ac→Prop)(h:ac):Prop:=
 bif u6 P o.op then Aq P ek o.op r (fun v _=>yp N o v r fun a=>K a h) h
 else Ey P o r (fun v h'=>yp N o v r fun a=>K a h') h
inductive DV where
 |f|t|u|x
abbrev uh:=List (Nat×DV)
noncomputable def qs(d:uh)(t:Nat):DV:=
 eR (motive:=fun _=>DV) .x (fun a _ b=>bif bD a.1 t then a.2 else b) d
noncomputable def zr(d:uh):Operand→DV
 | .tmp t=>qs d t
 | .const (.bool true)=>.t
 | .const (.bool false)=>.f
 |_=>.x
noncomputable def Hp(d:uh):Op→DV
 | .move x=>zr d x
 | .assign x=>zr d x
 | .pick c a b=>match zr d c with
  | .t=>zr d a
  | .f=>zr d b
  |_=>.x
 | .unOp .not _ x=>match zr d x with
  | .t=>.f
  | .f=>.t
  |_=>.x
 |_=>.x
def qQ(d:uh)(o:Oper)(v:DV):uh:=match o.dst with|some t=>(t,v)::d|none=>d
noncomputable def ig(ops:List Oper)(d:uh)(o:Oper):Option Bool:=
 match o.guard with
 |none=>some true
 |some (j,want)=>match ops[j]? with
  |none=>none
  |some oj=>match oj.dst with
   |none=>none
   |some t=>match qs d t with
    | .t=>some want
    | .f=>some (!want)
    | .u=>some false
    | .x=>none
def Du(ops:List Oper)(o:Oper):Option Nat:=
 match o.guard with
 |none=>none
 |some (j,_)=>match ops[j]? with
  |none=>none
  |some oj=>oj.dst
noncomputable def E6(P:Program)(N:Nat)(ek:Option (Kind×Kind))(ops:List Oper)(o:Oper)(d:uh)(r:ce)(h:ac)(K:uh→ce→ac→Prop):Prop:=
 match ig ops d o with
 |some true=>Tf P N ek o r (K (qQ d o (Hp d o.op))) h
 |some false=>yp N o undef r fun a=>K (qQ d o .u) a h
 |none=>False
noncomputable def C5(P:Program)(N:Nat)(ek:Option (Kind×Kind))(ops:List Oper)(l:List Oper):uh→(ce→ac→Prop)→ce→ac→Prop:=
 eR (motive:=fun _=>uh→(ce→ac→Prop)→ce→ac→Prop) (fun _ K r h=>K r h)
  (fun o _ c d K r h=>
  match ig ops d o with
  |some true=>Tf P N ek o r (fun a h'=>c (qQ d o (Hp d o.op)) K a h') h
  |some false=>yp N o undef r fun a=>c (qQ d o .u) K a h
  |none=>match Du ops o with
   |none=>False
   |some t=>match jp r t with
    |some (.bool b)=>CondP b
     (E6 P N ek ops o ((t,.t)::d) ((t,.bool true)::r) h fun e a h'=>c e K a h')
     (E6 P N ek ops o ((t,.f)::d) ((t,.bool false)::r) h fun e a h'=>c e K a h')
    |_=>False) l
inductive DA where
 |done
 |take (i:Nat) (rest:DA)
 |all (l:DA)
 |pick (i:Nat) (rest more:DA)
 |last (i:Nat) (rest:DA)
 |lastT (i:Nat) (rest:DA)
 |split (t:Nat) (yes no:DA)
abbrev qh:=List (Nat×(ac→Prop))
def tb(m i:Nat):Bool:=bD (iS (Nat.shiftRight m i) 1) 1
def fX(i:Nat):Nat:=Nat.pow 2 i
inductive DM where
 |mk (am fr lk ds:Nat)
def DM.am:DM→Nat| .mk a _ _ _=>a
def DM.fr:DM→Nat| .mk _ f _ _=>f
def DM.lk:DM→Nat| .mk _ _ l _=>l
def DM.ds:DM→Nat| .mk _ _ _ d=>d
def ii(o:Oper)(i:Nat):Bool:=o.after.toList.any fun e=>bD e.on i&&Region.binds .any e
noncomputable def lA(l:List Edge):Nat:=
 eR (motive:=fun _=>Nat) 0 (fun e _ a=>bif Region.binds .any e then cC (fX e.on) a else a) l
noncomputable def kH(l:List Operand):Nat:=
 eR (motive:=fun _=>Nat) 0 (fun o _ a=>match o with| .tmp t=>cC (fX t) a|_=>a) l
def my(o:Oper):Nat:=match o.dst with|some d=>fX d|none=>0
noncomputable def m6(ops:List Oper)(o:Oper):Nat:=
 cC (kH o.op.operands.toList) (match o.guard with
  |some (g,_)=>(match ops[g]? with|some og=>my og|none=>0)
  |none=>0)
noncomputable def vM(ops:List Oper)(l:List Oper):List DM→Bool:=
 eR (motive:=fun _=>List DM→Bool) (fun ms=>match ms with| []=>true|_=>false)
  (fun o _ a ms=>match ms with
   |m::ms=>bD (lA o.after.toList) m.am&&bD (m6 ops o) m.lk&&bD (my o) m.ds&&a ms
   | []=>false) l
def A7(x y:DM):Bool:=bD (iS x.ds (cC y.lk y.ds)) 0&&bD (iS y.ds x.lk) 0
noncomputable def FF(i:Nat)(m:DM)(l:List DM):Nat→Bool:=
 eR (motive:=fun _=>Nat→Bool) (fun _=>true)
  (fun n _ a j=>(!(tb m.fr j)||bD j i||tb n.am i||A7 m n)&&a (fg j)) l
noncomputable def zk(a:List DM)(l:List DM):Nat→Bool:=
 eR (motive:=fun _=>Nat→Bool) (fun _=>true) (fun m _ b i=>FF i m a 0&&b (fg i)) l
def Ib:List Oper→Bool
 | []=>true
 |o::os=>(match o.op with| .select .. =>false| .defer _=>false|_=>true)&&Ib os
noncomputable def Cy(ops:List Oper)(ms:List DM):Bool:=vM ops ops ms&&zk ms ms 0&&Ib ops
def nr(o:Oper):qh→qh
 | []=> []
 |(k,S)::l=>bif ii o k then nr o l else(k,S)::nr o l
def rg:qh→ac→Prop→Prop
 | [],_,R=>R
 |(_,S)::l,h,R=>S h∧rg l h R
def Hn(m:DM)(ls:Nat):Bool:=bD (iS m.am ls) m.am
noncomputable def kM(ls:Nat)(l:List DM):Nat→List Nat:=
 eR (motive:=fun _=>Nat→List Nat) (fun _=> []) (fun m _ a j=>bif !(tb ls j)&&Hn m ls then j::a (fg j)else a (fg j)) l
def CV(m:DM)(i ls n:Nat):Bool:= !(tb ls i)&&Hn m ls&&bD (iS (cC ls m.fr) (wL (fX n))) (wL (fX n))
def uv:List Nat→List Nat→Bool
 | [],[]=>true
 |a::as,b::bs=>bD a b&&uv as bs
 |_,_=>false
def AP:DA→List Nat
 | .pick i _ l=>i::AP l
 | .last i _=> [i]
 | .lastT i _=> [i]
 |_=> []
noncomputable def MZ(P:Program)(N:Nat)(ops:List Oper)(i:Nat)(L:qh)(d:uh)(r:ce)(h:ac)(K:qh→uh→ce→ac→Prop):Prop:=
 match ops[i]? with
 |none=>False
 |some o=>match ig ops d o with
  |some true=>bif u6 P o.op then Aq P none o.op r (fun v _=>yp N o v r fun a=>rg (nr o L) h (K (nr o L) (qQ d o .x) a h)) h else Ey P o r (fun v h'=>yp N o v r fun a=>rg (nr o L) h' (K (nr o L) (qQ d o .x) a h')) h
  |_=>False
noncomputable def N7(m:Nat)(l:List DM):Nat→Nat:=
 eR (motive:=fun _=>Nat→Nat) (fun _=>m) (fun n _ a j=>bif tb m j then cC n.am (a (fg j))else a (fg j)) l
noncomputable def zs(ms:List DM)(m:Nat):Nat:=N7 (N7 (N7 (N7 m ms 0) ms 0) ms 0) ms 0
def G3(ms:List DM)(i:Nat):Nat:=match ms[i]? with|some m=>m.am|none=>0
def yZ(m:Nat):qh→qh
 | []=> []
 |(k,S)::l=>bif tb m k then yZ m l else(k,S)::yZ m l
noncomputable def L3(P:Program)(N:Nat)(ops:List Oper)(ms:List DM)(i:Nat)(L:qh)(d:uh)(r:ce)(h:ac)(K:qh→uh→ce→ac→Prop):Prop:=
 match ops[i]? with
 |none=>False
 |some o=>match ig ops d o with
  |some true=>bif u6 P o.op then False else Ey P o r (fun v h'=>yp N o v r fun a=>rg (yZ (zs ms (G3 ms i)) L) h' (K (yZ (zs ms (G3 ms i)) L) (qQ d o .x) a h')) h
  |_=>False
noncomputable def l6(P:Program)(N:Nat)(ops:List Oper)(ms:List DM)(j:DA):Bool→Nat→qh→uh→(ce→ac→Prop)→ce→ac→Prop:=
 DA.rec (motive:=fun _=>Bool→Nat→qh→uh→(ce→ac→Prop)→ce→ac→Prop)
  (fun m ls _ _ K r h=>bif !m&&uv (kM ls ms 0) []then K r h else False)
  (fun i _ c m ls L d K r h=>
   match ops[i]?,ms[i]? with
   |some o,some mi=>bif !m&&CV mi i ls ops.length then
     (match ig ops d o with
      |none=>False
      |some false=>yp N o undef r fun a=>c false (cC ls (fX i)) L (qQ d o .u) K a h
      |some true=>bif u6 P o.op then
       Aq P none o.op r (fun v S=>yp N o v r fun a=>match S with
        |none=>c false (cC ls (fX i)) L (qQ d o (Hp d o.op)) K a h
        |some S=>c false (cC ls (fX i)) ((i,S)::L) (qQ d o (Hp d o.op)) K a h) h
       else False)
    else False
   |_,_=>False)
  (fun l c m ls L d K r h=>bif !m&&uv (kM ls ms 0) (AP l)then c true ls L d K r h else False)
  (fun i _ _ e f m ls L d K r h=>bif m then MZ P N ops i L d r h (fun L' g a h'=>e false (cC ls (fX i)) L' g K a h')∧f true ls L d K r h else False)
  (fun i _ c m ls L d K r h=>bif m then MZ P N ops i L d r h (fun L' g a h'=>c false (cC ls (fX i)) L' g K a h')else False)
  (fun i _ c m ls L d K r h=>bif m then L3 P N ops ms i L d r h (fun L' g a h'=>c false (cC ls (fX i)) L' g K a h')else False)
  (fun t _ _ e f m ls L d K r h=>
   bif m then False else match jp r t with
   |some (.bool b)=>CondP b (e false ls L ((t,.t)::d) K ((t,.bool true)::r) h) (f false ls L ((t,.f)::d) K ((t,.bool false)::r) h)
   |_=>False)
  j
noncomputable def UK(b:Oper)(i:Nat)(ds lk:Nat)(ops:List Oper)(l:List Oper):Nat→Nat:=
 eR (motive:=fun _=>Nat→Nat) (fun _=>0) (fun p _ a j=>bif (bD j i||ii p i||(bD (iS ds (cC (m6 ops p) (my p))) 0&&bD (iS (my p) lk) 0))then cC (fX j) (a (fg j))else a (fg j)) l
noncomputable def Uv(ops:List Oper)(l:List Oper):Nat→List DM:=
 eR (motive:=fun _=>Nat→List DM) (fun _=> []) (fun o _ a i=>.mk (lA o.after.toList) (UK o i (my o) (m6 ops o) ops ops 0) (m6 ops o) (my o)::a (fg i)) l
def Tk(P:Program)(w:Option Bool)(o:Oper):Bool:=match w with|some false=>true|some true=>u6 P o.op|none=>false
noncomputable def SR(P:Program)(ops:List Oper)(d:uh)(ls n:Nat)(l:List Oper):List DM→Nat→Option (Nat×Oper):=
 eR (motive:=fun _=>List DM→Nat→Option (Nat×Oper)) (fun _ _=>none)
  (fun o _ a ms j=>match ms with
   | []=>none
   |m::ms=>bif CV m j ls n&&Tk P (ig ops d o) o then some (j,o)else a ms (fg j)) l
noncomputable def SS(ops:List Oper)(d:uh)(ls:Nat)(l:List Oper):List DM→Nat→Option Nat:=
 eR (motive:=fun _=>List DM→Nat→Option Nat) (fun _ _=>none)
  (fun o _ a ms j=>match ms with
   | []=>none
   |m::ms=>match bif !(tb ls j)&&Hn m ls then(match ig ops d o with|none=>Du ops o|some _=>none)else none with
    |some t=>some t
    |none=>a ms (fg j)) l
noncomputable def TC(ops:List Oper)(k:Nat→uh→DA)(ls:Nat)(d:uh)(l:List Nat):DA:=
 eR (motive:=fun _=>DA) .done (fun i a b=>match ops[i]? with
  |none=>.done
  |some o=>match a with
   | []=>.last i (k (cC ls (fX i)) (qQ d o .x))
   |_=>.pick i (k (cC ls (fX i)) (qQ d o .x)) b) l
noncomputable def S4(P:Program)(ops:List Oper)(ms:List DM)(a:Nat):Nat→uh→DA:=
 Nat.rec (motive:=fun _=>Nat→uh→DA) (fun _ _=>.done) (fun _ b ls d=>
  match SR P ops d ls ops.length ops ms 0 with
  |some (i,o)=>.take i (b (cC ls (fX i)) (match ig ops d o with|some false=>qQ d o .u|_=>qQ d o (Hp d o.op)))
  |none=>match SS ops d ls ops ms 0 with
   |some t=>.split t (b ls ((t,.t)::d)) (b ls ((t,.f)::d))
   |none=>match kM ls ms 0 with
    | []=>.done
    |l=>.all (TC ops b ls d l)) a
noncomputable def L9(ops:List Oper):List DM:=Uv ops ops 0
inductive Ex where
 |exit (id:Nat)
 |ret
abbrev St:=List (Nat×Kind)
def xV:St→List Kind
 | []=> []
 |(_,k)::l=>k::xV l
noncomputable def C0(r:ce):St→Option (List Value)
 | []=>some []
 |(i,_)::l=>match jp r i,C0 r l with
  |some v,some vs=>some (v::vs)
  |_,_=>none
noncomputable def Bu(st:St)(r:ce)(f:uQ (xV st)→Prop):Prop:=
 match C0 r st with
 |some vs=>Cf (xV st) vs f
 |none=>False
def mq:St→List Value→ce→ce
 |(i,_)::l,v::vs,r=>(i,v)::mq l vs r
 |_,_,r=>r
noncomputable def Mf(r:ce)(l:List Nat):Option ce:=
 eR (motive:=fun _=>Option ce) (some []) (fun t _ a=>match jp r t,a with
  |some v,some l=>some ((t,v)::l)
  |_,_=>none) l
noncomputable def kD(t:Nat)(l:List Oper):Bool:=
 eR (motive:=fun _=>Bool) false (fun o _ a=>match o.dst with|some d=>bif bD d t then true else a|none=>a) l
noncomputable def fI(t:Nat)(c:Code):Bool:=
 Code.rec (motive:=fun _=>Bool) false (fun _ ops _=>kD t ops.toList) (fun _ _ a b=>bif a then true else b) (fun _ _ _ a b=>bif a then true else b)
  (fun _ _ b=>b) (fun _ b=>b) (fun _ _ _ _ _ _=>true) (fun _=>false) (fun _ b=>b) (fun _=>false) (fun _=>false) false (fun _=>false) c
inductive Ann where
 |nil
 |node (a b:Ann)
 |join (st:St) (a b:Ann)
 |loop (st:St) (b:Ann)
 |draw (d:DA)
 |kinds (k v:Kind)
 |reg (keep:List Nat) (inner:Ann)
 |rf (ks:List Kind) (a b:Ann)
def Ann.l:Ann→Ann
 | .node a _=>a
 | .rf _ a _=>a
 |_=>.nil
def Ann.r:Ann→Ann
 | .node _ b=>b
 | .rf _ _ b=>b
 |_=>.nil
noncomputable def Ok(l:List Oper):Nat:=eR (motive:=fun _=>Nat) 0 (fun o _ a=>cC (my o) a) l
def TH:Option Nat→Option Nat→Option Nat
 |some a,some b=>some (cC a b)
 |_,_=>none
noncomputable def xw(c:Code):Option Nat:=
 Code.rec (motive:=fun _=>Option Nat) (some 0) (fun _ ops _=>some (Ok ops.toList)) (fun _ _ a b=>TH a b) (fun _ _ _ a b=>TH a b)
  (fun _ _ b=>b) (fun _ b=>b) (fun _ _ _ _ _ _=>none) (fun _=>some 0) (fun _ b=>b) (fun _=>some 0) (fun _=>some 0) (some 0) (fun _=>some 0) c
noncomputable def vQ(m:Nat)(r:ce):ce:=eR (motive:=fun _=>ce) [] (fun a _ b=>bif tb m a.1 then b else a::b) r
noncomputable def AA(P:Program)(N:Nat)(ops:List Oper)(b:Bool)(a:Ann)(Kn:ce→ac→Prop)(r:ce)(h:ac):Prop:=
 match b with
 |false=>(match a with
  | .kinds kk vk=>C5 P N (some (kk,vk)) ops ops [] Kn r h
  |_=>C5 P N none ops ops [] Kn r h)
 |true=>bif Cy ops (L9 ops)then l6 P N ops (L9 ops) (match a with| .draw da=>da|_=>S4 P ops (L9 ops) (Nat.add (Nat.add ops.length ops.length) 2) 0 []) false 0 [] [] Kn r h else False
noncomputable def jH(P:Program)(N:Nat)(c:Code):Ann→(ce→ac→Prop)→(Ex→ce→ac→Prop)→ce→ac→Prop:=
 Code.rec (motive:=fun _=>Ann→(ce→ac→Prop)→(Ex→ce→ac→Prop)→ce→ac→Prop)
  (fun _ Kn _ r h=>Kn r h)
  (fun _ ops p d Kn _ r h=>match d with
   | .reg keep d=>AA P N ops.toList p d (fun f h'=>match Mf f keep with|some r0=>Kn r0 h'|none=>False) r h
   |d=>AA P N ops.toList p d Kn r h)
  (fun a _ j g d Kn Kx r h=>match d with
   | .join st aa ab=>(match xw a with
     |none=>False
     |some m=>Join (T:=uQ (xV st)) (fun t h'=>g ab Kn Kx (mq st (lR (xV st) t) (vQ m r)) h')
      fun J=>j aa (fun f h'=>Bu st f fun t=>J t h') Kx r h)
   |d=>j d.l (fun f h'=>g d.r Kn Kx f h') Kx r h)
  (fun c _ _ j g d Kn Kx r h=>match cR r c with
   |some (.bool t)=>CondP t (j d.l Kn Kx r h) (g d.r Kn Kx r h)
   |_=>False)
  (fun id _ o d Kn Kx r h=>o d Kn (fun e f h'=>match e with
    | .exit i=>bif bD i id then Kn f h' else Kx (.exit i) f h'
    | .ret=>Kx .ret f h') r h)
  (fun b o d _ Kx r h=>match d with
   | .loop st ab=>(match xw b with
     |none=>False
     |some m=>Bu st r fun q=>LoopP (T:=uQ (xV st)) (fun k t h'=>o ab (fun f n=>Bu st f fun s=>k s n) Kx (mq st (lR (xV st) t) (vQ m r)) h') q h)
   |_=>False)
  (fun _ _ _ _ _ _ _ _ _ _ _=>False)
  (fun id _ _ Kx r h=>Kx (.exit id) r h)
  (fun _ _ _ _ _ _ _=>False)
  (fun _ _ Kn _ r h=>Kn r h)
  (fun _ _ _ _ _ _=>False)
  (fun _ _ Kx r h=>Kx .ret r h)
  (fun _ _ _ _ _ _=>False)
  c
noncomputable def mu(P:Program)(r:ce)(h:ac):List ResultVar→(List Value→Prop)→Prop
 | [],K=>K []
 | .tmp t::l,K=>(match jp r t with|some v=>mu P r h l fun vs=>K (v::vs)|none=>False)
 | .cell a t::l,K=>(match jp r a with
  |some v=>HW P t v (fun x _=>mu P r h l fun vs=>K (x::vs)) h
  |none=>False)
def pk:Nat→List Value→ce
 |_,[]=> []
 |i,v::vs=>(i,v)::pk (i+1) vs
noncomputable def HN(P:Program)(fn:Func)(c:Code)(a:Ann)(args:List Value)(ks:List Kind)(K:uQ ks→ac→Prop)(h:ac):Prop:=
 jH P fn.ntmps c a
  (fun r h'=>mu P r h' fn.results.toList fun vs=>Cf ks vs fun t=>K t h')
  (fun e r h'=>match e with
   | .ret=>mu P r h' fn.results.toList fun vs=>Cf ks vs fun t=>K t h'
   | .exit _=>False)
  (pk 0 args) h
def DK:List Oper→Option (Oper×Oper×Operand×Nat×FuncId×List Operand)
 | [m,o]=>match m.op,m.guard,m.dst,o.op,o.dst,o.guard with
  | .move x,none,some d,.defer c,none,none=>(match c.callee with
   | .value (.func f)=>some (m,o,x,d,f,c.args.toList)
   |_=>none)
  |_,_,_,_,_,_=>none
 |_=>none
inductive Mk where
 |it (n:Nat)
 |call (f:FuncId) (vs:List Value)
def HD(P:Program)(f:FuncId)(args:List Value)(K:ac→Prop)(h:ac):Prop:=
 ∀w:World,w.heap=h→(∀(args:Array Value) (w:World),(callFunc f args).run P w=.ok (.enter f args) w)∧∀n:Nat,CallsDIn {fn:=fun _=>True,depth:=none,alive:=false,round:=none} n P f args.toArray .returning w fun e u a=>u=.returning∧Tame w a∧(∃v,e=.returned v)∧K a.heap
noncomputable def ri(c:Code):Bool:=
 Code.rec (motive:=fun _=>Bool) false (fun _ ops _=>(DK ops.toList).isSome) (fun _ _ a b=>bif a then true else b) (fun _ _ _ a b=>bif a then true else b)
  (fun _ _ b=>b) (fun _ b=>b) (fun _ _ _ _ _ _=>true) (fun _=>false) (fun _ b=>b) (fun _=>false) (fun _=>false) false (fun _=>false) c
def GN:Option Ex→Option Code
 |none=>none
 |some (.exit i)=>some (.exit i)
 |some .ret=>some .ret
def UL(N:ac→Prop)(X:Nat→ac→Prop)(R:ac→Prop):Option Ex→ac→Prop
 |none=>N
 |some (.exit i)=>X i
 |some .ret=>R
structure RangeP(P:Program)(fv:Value)(ks:List Kind)(h:ac)(RT:Obj→Obj→uQ ks→(Option Ex→ac→Prop)→ac→Prop)(N:ac→Prop)(X:Nat→ac→Prop)(R:ac→Prop):Prop where
 run:∀lo:LoopState→Option Ex→Obj,(∀s j,∃r,lo s j=.loop r)→
  (∀x h' K,h'[h.size+1]? =some (lo .ready none)→
   RT (lo .ready none) (lo .busy none) x (fun j h2=>h2[h.size+1]? =some (lo .busy none)∧K j.isNone (h2.setIfInBounds (h.size+1) (lo (if j.isNone then .ready else .done) j))) h'→
   HV P (.func (.yield (h.size+1)) #[] #[]) (lR ks x) [.c .bool] K h')→
  ∃f first cap,fv=.func (.func f) first cap∧HE P f (first.toList++ [.func (.yield (h.size+1)) #[] #[]]++cap.toList) []
   (fun _ h2=>∃s j,s≠ .busy∧h2[h.size+1]? =some (lo s j)∧UL N X R j (h2.setIfInBounds (h.size+1) (lo .exhausted j))) ((h.push (.deferred (some []))).push (lo .ready none))
def Qx:List Nat→List Value→ce→ce
 |i::l,v::vs,r=>Qx l vs ((i,v)::r)
 |_,_,r=>r
noncomputable def JK(P:Program)(N:Nat)(ps:List Nat)(ks:List Kind)(assign body:Code)(b:Ann)(r:ce)(l:Nat)(Hn f:Obj)(x:uQ ks)(k:Option Ex→ac→Prop)(h:ac):Prop:=
 jH P N assign b.l (fun d c=>c[l]? =some Hn∧jH P N body b.r (fun _ a=>k none a) (fun e _ a=>k (some e) a) d (c.setIfInBounds l f)) (fun _ _ _=>False) (Qx ps (lR ks x) r) h
def yc(N:Nat):List Nat→Bool
 | []=>true
 |n::l=>w6 n N&&yc N l
noncomputable def xZ(P:Program)(N:Nat)(c:Code):Ann→(List Mk→ce→ac→Prop)→(Ex→List Mk→ce→ac→Prop)→List Mk→ce→ac→Prop:=
 Code.rec (motive:=fun _=>Ann→(List Mk→ce→ac→Prop)→(Ex→List Mk→ce→ac→Prop)→List Mk→ce→ac→Prop)
  (fun j Kn Kx ms r h=>jH P N .skip j (Kn ms) (fun e=>Kx e ms) r h)
  (fun id ops p j Kn Kx ms r h=>match DK ops.toList with
   |none=>jH P N (.region id ops p) j (Kn ms) (fun e=>Kx e ms) r h
   |some (_,_,x,d,f,as)=>bif p then False else match cR r x with
    |some v=>bif w6 d N then(match mJ ((d,v)::r) as with|some vs=>Kn (.call f vs::ms) ((d,v)::r) h|none=>False)else False
    |none=>False)
  (fun a b n m j Kn Kx ms r h=>bif (bif ri a then true else ri b)then n j.l (fun ms o h'=>m j.r Kn Kx ms o h') Kx ms r h
   else jH P N (.seq a b) j (Kn ms) (fun e=>Kx e ms) r h)
  (fun c a b n m j Kn Kx ms r h=>bif (bif ri a then true else ri b)then
    (match cR r c with
     |some (.bool t)=>CondP t (n j.l Kn Kx ms r h) (m j.r Kn Kx ms r h)
     |_=>False)
   else jH P N (.cond c a b) j (Kn ms) (fun e=>Kx e ms) r h)
  (fun id b q j Kn Kx ms r h=>bif ri b then q j Kn (fun e ms o h'=>match e with
    | .exit i=>bif bD i id then Kn ms o h' else Kx (.exit i) ms o h'
    | .ret=>Kx .ret ms o h') ms r h
   else jH P N (.block id b) j (Kn ms) (fun e=>Kx e ms) r h)
  (fun b _ j Kn Kx ms r h=>jH P N (.loop b) j (Kn ms) (fun e=>Kx e ms) r h)
  (fun g ps assign body _ _ j Kn Kx ms r h=>match j with
   | .rf ks aa ab=>bif yc N ps.toList&&bD ps.toList.length ks.length then
    (match cR r g with
     |some fv=>RangeP P fv ks h (fun Hn s x k h'=>JK P N ps.toList ks assign body (.node aa ab) r (h.size+1) Hn s x k h')
      (fun h'=>Kn (.it h.size::ms) r h') (fun i h'=>Kx (.exit i) (.it h.size::ms) r h') (fun h'=>Kx .ret (.it h.size::ms) r h')
     |none=>False)else False
   |_=>False)
  (fun id j Kn Kx ms r h=>jH P N (.exit id) j (Kn ms) (fun e=>Kx e ms) r h)
  (fun _ _ _ _ _ _ _ _=>False)
  (fun l j Kn Kx ms r h=>jH P N (.label l) j (Kn ms) (fun e=>Kx e ms) r h)
  (fun _ _ _ _ _ _ _=>False)
  (fun j Kn Kx ms r h=>jH P N .ret j (Kn ms) (fun e=>Kx e ms) r h)
  (fun _ _ _ _ _ _ _=>False)
  c
def HL(P:Program):List Mk→(ac→Prop)→ac→Prop
 | [],K,h=>K h
 | .it D::ms,K,h=>h[D]? =some (.deferred (some []))∧HL P ms K (h.setIfInBounds D (.deferred none))
 | .call f vs::ms,K,h=>HD P f vs (fun h'=>HL P ms K h') h
noncomputable def OU(P:Program)(fn:Func)(c:Code)(a:Ann)(args:List Value)(ks:List Kind)(K:uQ ks→ac→Prop)(h:ac):Prop:=
 xZ P fn.ntmps c a
  (fun ms r h'=>HL P ms (fun h'=>mu P r h' fn.results.toList fun vs=>Cf ks vs fun t=>K t h') h')
  (fun e ms r h'=>match e with
   | .ret=>HL P ms (fun h'=>mu P r h' fn.results.toList fun vs=>Cf ks vs fun t=>K t h') h'
   | .exit _=>False)
  [] (pk 0 args) h
end Go.Lift
namespace Go.Lift
open Go
theorem D4(a:Addr):adr a 0=a:=rfl
theorem zC(a:Addr)(n:Nat):adr a (n+1)=⟨a.block,a.off+(n+1),none⟩:=rfl
theorem th(a:Addr)(n:Nat):adr a n=a.add n:=by
 cases n with
 |zero=>simp[D4,Addr.add]
 |succ n=>simp[zC,Addr.add]
theorem zD(a:Addr)(m n:Nat):adr (adr a m) n=adr a (m+n):=by
 cases n with
 |zero=>rfl
 |succ n=>cases m with
  |zero=>simp[D4]
  |succ m=>rw[zC,zC,show m+1+(n+1)=(m+1+n)+1 from rfl,zC];simp;omega
theorem Tame.refl(w:World):Tame w w:=⟨rfl,rfl,rfl⟩
theorem Tame.trans{a b c:World}(h:Tame a b)(k:Tame b c):Tame a c:=⟨k.os.trans h.os,k.tape.trans h.tape,k.output.trans h.output⟩
theorem zi{a b:IntKind}(h:GJ a b=true):a=b:=by cases a<;>cases b<;>first|rfl|cases h
theorem CK.dec_sound{c:CK}{v:Value}{f:c.den→Prop}(h:c.dec v f):∃x,v=c.enc x∧f x:=by
 cases c<;>cases v<;>try simp only[CK.dec]at h
 case int.int k k' n=>
  cases hk:GJ k' k with
  |false=>rw[hk]at h;exact h.elim
  |true=>rw[hk]at h;have:=zi hk;subst this;exact⟨n,rfl,h⟩
 case adr.pointer p=>cases p with
  |none=>exact h.elim
  |some a=>exact⟨a,rfl,h⟩
 all_goals first|exact h.elim|exact⟨_,rfl,h⟩
theorem BL:∀{cs:List CK} {vs:List Value} {f:Qc cs→Prop},Mz cs vs f→∃t,vs=PR cs t∧f t
 | [],[],f,h=>⟨(),rfl,h⟩
 | [],_::_,f,h=>h.elim
 | [c],[v],f,h=>by obtain⟨x,rfl,a⟩:=CK.dec_sound h;exact⟨x,rfl,a⟩
 | [c],[],f,h=>h.elim
 | [c],_::_::_,f,h=>h.elim
 |c::d::cs,[],f,h=>h.elim
 |c::d::cs,[_],f,h=>h.elim
 |c::d::cs,v::u::vs,f,h=>by
  have e:c.dec v fun x=>Mz (d::cs) (u::vs) fun t=>f (x,t):=h
  obtain⟨x,hx,g⟩:=CK.dec_sound e;obtain⟨t,i,b⟩:=BL (cs:=d::cs) (vs:=u::vs) g;exact⟨(x,t),by rw[i,hx];rfl,b⟩
theorem Kind.dec_sound{k:Kind}{v:Value}{f:k.den→Prop}(h:k.dec v f):∃x,v=k.enc x∧f x:=by
 cases k with
 |c k=>exact CK.dec_sound h
 |agg cs=>
  cases v<;>simp only[Kind.dec]at h
  case agg vs=>
   obtain⟨t,a,b⟩:=BL h;exact⟨t,by simp only[Kind.enc,←a],b⟩
theorem rr:∀{ks:List Kind} {vs:List Value} {f:uQ ks→Prop},Cf ks vs f→∃t,vs=lR ks t∧f t
 | [],[],f,h=>⟨(),rfl,h⟩
 | [],_::_,f,h=>h.elim
 | [c],[v],f,h=>by obtain⟨x,rfl,a⟩:=Kind.dec_sound h;exact⟨x,rfl,a⟩
 | [c],[],f,h=>h.elim
 | [c],_::_::_,f,h=>h.elim
 |c::d::cs,[],f,h=>h.elim
 |c::d::cs,[_],f,h=>h.elim
 |c::d::cs,v::u::vs,f,h=>by
  have e:c.dec v fun x=>Cf (d::cs) (u::vs) fun t=>f (x,t):=h
  obtain⟨x,hx,g⟩:=Kind.dec_sound e;obtain⟨t,i,b⟩:=rr (ks:=d::cs) (vs:=u::vs) g;exact⟨(x,t),by rw[i,hx];rfl,b⟩
theorem se:∀(ks:List Kind) (t:uQ ks),(lR ks t).length=ks.length
 | [],_=>rfl
 | [_],_=>rfl
 |_::l::ks,(_,t)=>by simp only[lR,aN,se (l::ks) t]
structure Agree(N:Nat)(r:ce)(a:Act):Prop where
 size:a.tmps.size=N
 look:∀t v,jp r t=some v→a.tmps.getD t undef=v
theorem gS(k:Nat)(v:Value)(r:ce):jp ((k,v)::r) k=some v:=by rw[Da,show bD k k=true from Nat.beq_refl k];rfl
theorem fZ{k t:Nat}(v:Value)(r:ce)(h:k≠t):jp ((k,v)::r) t=jp r t:=by
 rw[Da];have:bD k t=false:=Bool.eq_false_iff.2 fun e=>h (aQ e)
 rw[this];rfl
theorem Agree.put{N:Nat}{r:ce}{a:Act}(h:Agree N r a)(d:Nat)(v:Value)(hd:d<N):Agree N ((d,v)::r) (a.put (some d) v):=by
 refine⟨by simp[Act.put,h.size],fun t u b=>?_⟩
 by_cases e:d=t
 ·subst e
  rw[gS]at b;cases b;simp[Act.put,h.size,hd]
 ·rw[fZ v r e]at b
  have:=h.look t u b;simpa[Act.put,Array.getElem?_setIfInBounds_ne e]using this
theorem Agree.known{N:Nat}{r:ce}{a:Act}(h:Agree N r a){t:Nat}{v:Value}(hv:jp r t=some v):Agree N ((t,v)::r) a:=by
 refine⟨h.size,fun s u b=>?_⟩
 by_cases e:t=s
 ·subst e;rw[gS]at b;cases b;exact h.look t v hv
 ·rw[fZ v r e]at b;exact h.look s u b
theorem jq{N:Nat}{r:ce}{a:Act}(h:Agree N r a){o:Operand}{v:Value}(hv:cR r o=some v):a.eval o=v:=by
 cases o with
 |tmp t=>exact h.look t v hv
 |const c=>simp[cR]at hv;subst hv;rfl
 |global g=>simp[cR]at hv;subst hv;rfl
 |func f=>simp[cR]at hv;subst hv;rfl
theorem lp{N:Nat}{r:ce}{a:Act}(h:Agree N r a):∀{os:List Operand} {vs:List Value},mJ r os=some vs→os.map a.eval=vs
 | [],vs,hv=>by simp[mJ]at hv;subst hv;rfl
 |o::os,vs,hv=>by
  simp only[mJ]at hv;cases ho:cR r o with
  |none=>simp[ho]at hv
  |some v=>cases hos:mJ r os with
   |none=>simp[ho,hos]at hv
   |some us=>simp[ho,hos]at hv;subst hv;simp[jq h ho,lp h hos]
theorem av{P:Program}{t:TypeId}{d:TypeDesc}(h:P.underlying t=some d)(w:World):(underlying t).run P w=.ok d w:=by
 simp only[underlying,program,bind,Sem.bind,Sem.run,h,pure]
theorem cA{P:Program}{t:TypeId}{i:TypeInfo}(h:P.info? t=some i)(w:World):(typeInfo t).run P w=.ok i w:=by
 simp only[typeInfo,program,bind,Sem.bind,Sem.run,h,pure]
theorem iy{P:Program}{s:Sem Value}{v:Value}{w a:World}(h:s.run P w=.ok v a):(do pure (Next.value (←s)):Sem Next).run P w=.ok (.value v) a:=by
 simp[h]
theorem OW{P:Program}{s:Sem Unit}{w a:World}(h:s.run P w=.ok () a):(do s;pure Next.skip:Sem Next).run P w=.ok .skip a:=by
 simp[h]
theorem yY{P:Program}{w:World}{a:Addr}{v:Value}(h:aX w.heap a=some v):(load a).run P w=.ok v w:=by
 have h':w.cell? a=some v:=h;simp[h']
theorem zw{v:Value}{vs:List Value}{i:Nat}{a:Addr}{h:ac}:sm (v::vs) i a h↔aX h (adr a i)=some v∧sm vs (i+1) a h:=by
 cases vs with
 |nil=>simp[sm]
 |cons u us=>rfl
theorem rS{P:Program}{w:World}{a:Addr}:∀(vs:List Value) (i:Nat) (acc:Array Value),sm vs i a w.heap→
  (loadCellsFrom a i vs.length acc).run P w=.ok (acc++vs.toArray) w
 | [],i,acc,_=>by simp[loadCellsFrom]
 |v::vs,i,acc,h=>by
  obtain⟨b,c⟩:=zw.1 h;rw[th]at b;have:=rS (P:=P) (w:=w) (a:=a) vs (i+1) (acc.push v) c;simp only[aN,loadCellsFrom,Sem.run_bind,yY b,Result.andThen_ok,this];simp
theorem EF{P:Program}{w:World}{a:Addr}{vs:List Value}(h:sm vs 0 a w.heap):(loadCells a vs.length).run P w=.ok vs.toArray w:=by
 have:=rS (P:=P) (w:=w) (a:=a) vs 0 #[] h;simpa[loadCells]using this
theorem xE:∀(cs:List CK) (i:Nat) (a:Addr) (h:ac) (k:List Value→Prop),GO cs i a h k→∃vs,vs.length=cs.length∧sm vs i a h∧k vs
 | [],i,a,h,k,b=>⟨[],rfl,trivial,b⟩
 |c::cs,i,a,h,k,b=>by
  obtain⟨x,hx,b⟩:=b;obtain⟨vs,d,hc,b⟩:=xE cs (i+1) a h _ b;exact⟨c.enc x::vs,by simp[d],zw.2 ⟨hx,hc⟩,b⟩
theorem zu:∀{vs:List Value} {cs:List CK},DQ vs=some cs→cs.length=vs.length
 | [],cs,h=>by simp[DQ]at h;subst h;rfl
 |v::vs,cs,h=>by
  simp only[DQ]at h;cases h1:SY v with
  |none=>simp[h1]at h
  |some c=>cases h2:DQ vs with
   |none=>simp[h1,h2]at h
   |some ds=>simp[h1,h2]at h;subst h;simp[zu h2]
def P7(P:Program)(t:TypeId)(i:TypeInfo):Kind→Prop
 | .c _=>uO P t=false
 | .agg cs=>uO P t=true∧i.size=cs.length
theorem Kw{P:Program}{t:TypeId}{k:Kind}(h:Me P t=some k):∃i,P.info? t=some i∧P7 P t i k:=by
 unfold Me xt at h;cases hi:P.info? t with
 |none=>simp[hi]at h
 |some i=>
  refine⟨i,rfl,?_⟩;cases hz:i.zero with
  |none=>simp[hi,hz]at h
  |some z=>
   rw[hi]at h;simp only[hz]at h;cases z;case agg vs=>
    simp only at h;cases hb:(uO P t&&bD vs.toList.length (bQ P t))with
    |false=>rw[hb]at h;simp at h
    |true=>
     rw[hb]at h;simp only[cond_true]at h;simp only[Bool.and_eq_true]at hb;have a:=aQ hb.2;cases hd:DQ vs.toList with
     |none=>rw[hd]at h;simp at h
     |some ds=>
      rw[hd]at h;simp only[bC.injEq]at h;subst h;exact⟨hb.1,by rw[zu hd,a];simp[bQ,hi]⟩
   all_goals
    simp only at h;cases ha:uO P t
    ·rw[ha]at h
     simp only[cond_false]at h;split at h
     ·simp only[bC.injEq]at h;subst h;exact ha
     ·simp at h
    ·rw[ha]at h;simp at h
theorem Ky{P:Program}{t:TypeId}{k:Kind}(h:Dm P t=some k):(∀w,(isAgg t).run P w=.ok (uO P t) w)∧Me P t=some k:=by
 unfold Dm at h;cases hu:P.underlying t with
 |none=>simp[hu]at h
 |some d=>
  simp only[hu]at h;refine⟨fun w=>?_,h⟩
  simp only[isAgg,Sem.run_bind,av hu,Result.andThen_ok];unfold uO;rw[hu];cases d<;>rfl
theorem BA{P:Program}{t:TypeId}{v:Value}{K:RK}{h:ac}(d:HW P t v K h):
  ∃u S,K u (some S)∧S h∧∀w:World,S w.heap→(Instr.loadAt t v).run P w=.ok u w:=by
 unfold HW at d;cases v with
 |pointer p=>
  cases p with
  |none=>exact d.elim
  |some a=>
   simp only at d;cases hk:Dm P t with
   |none=>simp[hk]at d
   |some k=>
    obtain⟨b,f⟩:=Ky hk;obtain⟨i,hi,hc⟩:=Kw f;rw[hk]at d;cases k with
    |c c=>
     obtain⟨x,hx,m⟩:=d;refine⟨_,_,m,hx,fun w g=>?_⟩
     have hc:uO P t=false:=hc;simp only[Instr.loadAt,Instr.sureAddr,loadVar,Sem.run_bind,Sem.run_pure,Result.andThen_ok,b,hc];simp[yY g]
    |agg cs=>
     obtain⟨vs,e,j,m⟩:=xE cs 0 a h _ d;obtain⟨o,n⟩:uO P t=true∧i.size=cs.length:=hc;refine⟨_,_,m,j,fun w g=>?_⟩
     have f:(sizeOf t).run P w=.ok vs.length w:=by simp[sizeOf,cA hi,n,e]
     simp only[Instr.loadAt,Instr.sureAddr,loadVar,Sem.run_bind,Sem.run_pure,Result.andThen_ok,b,o];simp[f,EF g]
 |_=>exact d.elim
end Go.Lift
