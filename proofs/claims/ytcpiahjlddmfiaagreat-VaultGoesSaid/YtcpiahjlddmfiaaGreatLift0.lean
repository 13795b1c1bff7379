/- A part of the proof that the named laws of this program answer true, whatever the input. -/
import Derived.OrdersIn
import Derived.Below
import Derived.WalkKit
import Derived.RangeFuncRecord
import Derived.DefersIn
open BitVec renaming ofInt→ag
open List renaming rec→dk,replicate→dU,length_cons→aI
open Nat renaming succ→dK,beq→aV,min→cE,blt→rg,land→fX,lor→bU,pred→qS,eq_of_beq_eq_true→az
open Option renaming some→bv
namespace Go.Lift
abbrev ac:=Array Obj
def bc(h:ac)(a:Addr):Option Value:=
 match h[a.block]? with
 |some (.cells c _ _)=>if a.spot.isSome then none else c[a.off]?
 |_=>none
def wL(h:ac)(a:Addr):Bool:=
 match h[a.block]? with
 |some (.cells _ _ (lo,hi))=>lo≤a.off&&a.off<hi
 |_=>false
def hset(h:ac)(a:Addr)(v:Value):ac:=
 h.modify a.block fun
  | .cells c elem frozen=>.cells (if a.spot.isSome then c else c.setIfInBounds a.off v) elem frozen
  |o=>o
noncomputable def adr(a:Addr)(n:Nat):Addr:=Nat.rec (motive:=fun _=>Addr) a (fun n _=>⟨a.block,a.off+dK n,none⟩) n
def Wr(h:ac)(a:Addr):Prop:=(∃v,bc h a=some v)∧wL h a=false
structure Tame(w w':World):Prop where
 os:w'.os=w.os
 tape:w'.tape=w.tape
 output:w'.output=w.output
structure SliceV where
 a:Option Addr
 len:Nat
 cap:Nat
def Ae:IntKind→IntKind→Bool
 | .i8,.i8=>true| .i16,.i16=>true| .i32,.i32=>true| .i64,.i64=>true
 | .u8,.u8=>true| .u16,.u16=>true| .u32,.u32=>true| .u64,.u64=>true
 |_,_=>false
inductive CK where
 |int (k:IntKind)|bool|str|ptr|slice|map|chan|raw|adr
def CK.den:CK→Type
 | .int _=>Int| .bool=>Bool| .str=>ByteArray| .ptr=>Option Addr| .slice=>SliceV| .map=>Option Nat| .chan=>Option Nat| .raw=>Value| .adr=>Addr
def CK.enc:(c:CK)→c.den→Value
 | .int k,n=>.int k n
 | .bool,b=>.bool b
 | .str,s=>.string s
 | .ptr,p=>.pointer p
 | .slice,s=>.slice s.a s.len s.cap
 | .map,r=>.map r
 | .chan,r=>.chan r
 | .raw,v=>v
 | .adr,a=>.pointer (some a)
def CK.dec:(c:CK)→Value→(c.den→Prop)→Prop
 | .int k,.int k' n,f=>bif Ae k' k then f n else False
 | .bool,.bool b,f=>f b
 | .str,.string s,f=>f s
 | .ptr,.pointer p,f=>f p
 | .slice,.slice a l c,f=>f ⟨a,l,c⟩
 | .map,.map r,f=>f r
 | .chan,.chan r,f=>f r
 | .raw,v,f=>f v
 | .adr,.pointer (some a),f=>f a
 |_,_,_=>False
def GA:List CK→Type
 | []=>Unit
 | [c]=>c.den
 |c::d::cs=>c.den×GA (d::cs)
def Gk:(cs:List CK)→GA cs→List Value
 | [],_=> []
 | [c],x=> [c.enc x]
 |c::d::cs,(x,t)=>c.enc x::Gk (d::cs) t
def DW:(cs:List CK)→List Value→(GA cs→Prop)→Prop
 | [],[],f=>f ()
 | [c],[v],f=>c.dec v f
 |c::d::cs,v::u::vs,f=>c.dec v fun x=>DW (d::cs) (u::vs) fun t=>f (x,t)
 |_,_,_=>False
inductive Kind where
 |c (k:CK)
 |agg (cs:List CK)
def Kind.den:Kind→Type
 | .c k=>k.den
 | .agg cs=>GA cs
def Kind.enc:(k:Kind)→k.den→Value
 | .c k,x=>k.enc x
 | .agg cs,t=>.agg (Gk cs t).toArray
def Kind.dec:(k:Kind)→Value→(k.den→Prop)→Prop
 | .c k,v,f=>k.dec v f
 | .agg cs,.agg vs,f=>DW cs vs.toList f
 |_,_,_=>False
def pR:List Kind→Type
 | []=>Unit
 | [k]=>k.den
 |k::l::ks=>k.den×pR (l::ks)
def jl:(ks:List Kind)→pR ks→List Value
 | [],_=> []
 | [k],x=> [k.enc x]
 |k::l::ks,(x,t)=>k.enc x::jl (l::ks) t
def wi:(ks:List Kind)→List Value→(pR ks→Prop)→Prop
 | [],[],f=>f ()
 | [k],[v],f=>k.dec v f
 |k::l::ks,v::u::vs,f=>k.dec v fun x=>wi (l::ks) (u::vs) fun t=>f (x,t)
 |_,_,_=>False
def wb(ks:List Kind)(vs:List Value):Value:=
 match ks,vs with
 | [_],[v]=>v
 |_,vs=>.tuple vs.toArray
def IG:Value→Option CK
 | .int k _=>some (.int k)
 | .bool _=>some .bool
 | .string _=>some .str
 | .pointer _=>some .ptr
 | .slice .. =>some .slice
 | .map _=>some .map
 | .chan _=>some .chan
 | .nilFunc=>some .raw
 | .nilIface=>some .raw
 |_=>none
def xU:List Value→Option (List CK)
 | []=>some []
 |v::vs=>match IG v,xU vs with
  |some c,some cs=>some (c::cs)
  |_,_=>none
def pH(P:Program)(t:TypeId):Bool:=
 match P.underlying t with
 |some (.struct _)|some (.array _ _)=>true
 |_=>false
def bi(P:Program)(t:TypeId):Nat:=match P.info? t with|some i=>i.size|none=>0
def l6(P:Program)(t:TypeId):Nat:=match P.info? t with|some i=>i.bytes|none=>0
def rB(P:Program)(t:TypeId):Option Value:=match P.info? t with|some i=>i.zero|none=>none
def DI(P:Program)(t:TypeId):Option Kind:=
 match rB P t with
 |some (.agg vs)=>bif pH P t&&aV vs.toList.length (bi P t)then(match xU vs.toList with|some cs=>some (.agg cs)|none=>none)else none
 |some v=>bif pH P t then none else(match IG v with|some c=>some (.c c)|none=>none)
 |none=>none
def xB(P:Program)(t:TypeId):Option Kind:=
 match P.underlying t with
 |none=>none
 |some _=>DI P t
structure HC(P:Program)(f:FuncId)(args:List Value)(ks:List Kind)(K:pR ks→ac→Prop)(h:ac):Prop where
 run:∀w:World,w.heap=h→
  ((callFunc f args.toArray).run P w=.ok (.enter f args.toArray) w∧
   Calls P f args.toArray w fun e w'=>Tame w w'∧∃t:pR ks,e=.returned (wb ks (jl ks t))∧K t w'.heap)∨
  (∃v w',(callFunc f args.toArray).run P w=.ok (.value v) w'∧Tame w w'∧∃t:pR ks,v=wb ks (jl ks t)∧K t w'.heap)
structure HE(P:Program)(f:FuncId)(args:List Value)(ks:List Kind)(K:pR ks→ac→Prop)(h:ac):Prop where
 run:∀w:World,w.heap=h→(∀(args:Array Value) (w:World),(callFunc f args).run P w=.ok (.enter f args) w)∧
  Calls P f args.toArray w fun e w'=>Tame w w'∧∃t:pR ks,e=.returned (wb ks (jl ks t))∧K t w'.heap
theorem HE.hc{P:Program}{f:FuncId}{args:List Value}{ks:List Kind}{K:pR ks→ac→Prop}{h:ac}(e:HE P f args ks K h):HC P f args ks K h:=
 ⟨fun w a=>.inl ⟨(e.run w a).1 _ w,(e.run w a).2⟩⟩
structure HY(P:Program)(l:Nat)(args:List Value)(K:Bool→ac→Prop)(h:ac):Prop where
 run:∀w:World,w.heap=h→∃fn tmps assign body,(Instr.yield l args.toArray).run P w=.ok (.round l fn tmps assign body) w∧
  ∀(c:Frame) (cs:List Frame),∃b w',Tame w w'∧K b w'.heap∧Steps P (lone (Frame.round l fn tmps assign body .normal) (c::cs) w) (lone (c.finish (.bool b)) cs w')
structure HV(P:Program)(fv:Value)(args:List Value)(ks:List Kind)(K:pR ks→ac→Prop)(h:ac):Prop where
 run:(∃f first cap,fv=.func (.func f) first cap∧HC P f (first.toList++args++cap.toList) ks K h)∨
  (∃l,fv=.func (.yield l) #[] #[]∧HY P l args (fun b h'=>wi ks [.bool b] fun t=>K t h') h)
noncomputable def CondP(b:Bool)(t e:Prop):Prop:=Bool.rec (motive:=fun _=>Prop) e t b
theorem CondP.yes{b:Bool}{t e:Prop}(h:CondP b t e)(a:b=true):t:=by subst a;exact h
theorem CondP.no{b:Bool}{t e:Prop}(h:CondP b t e)(a:b=false):e:=by subst a;exact h
theorem CondP.intro{b:Bool}{t e:Prop}(c:b=true→t)(a:b=false→e):CondP b t e:=by cases b;exact a rfl;exact c rfl
theorem aA{t e:Prop}:CondP true t e↔t:=Iff.rfl
theorem ak{t e:Prop}:CondP false t e↔e:=Iff.rfl
attribute [irreducible] CondP
def At(h:ac)(k:ac→Prop):Prop:=k h
def Bd{T:Type}(x:T)(k:T→Prop):Prop:=k x
structure Join{T:Type}(rest:T→ac→Prop)(k:(T→ac→Prop)→Prop):Prop where
 run:k rest
structure LoopP{T:Type}(F:(T→ac→Prop)→T→ac→Prop)(t:T)(h:ac):Prop where
 run:∀I:T→ac→Prop,(∀t h,F I t h→I t h)→I t h
abbrev bE:=List (Nat×Value)
noncomputable def gC(r:bE)(t:Nat):Option Value:=
 dk (motive:=fun _=>Option Value) none (fun a _ c=>bif aV a.1 t then some a.2 else c) r
theorem xq(k:Nat)(v:Value)(r:bE)(t:Nat):gC ((k,v)::r) t=bif aV k t then some v else gC r t:=rfl
noncomputable def cf(r:bE):Operand→Option Value
 | .tmp t=>gC r t
 | .const v=>some v
 | .global g=>some (.pointer (some ⟨g,0,none⟩))
 | .func f=>some (.func (.func f) #[] #[])
noncomputable def jK(r:bE):List Operand→Option (List Value)
 | []=>some []
 |o::os=>match cf r o,jK r os with
  |some v,some vs=>some (v::vs)
  |_,_=>none
noncomputable def Ak:List CK→Nat→Addr→ac→(List Value→Prop)→Prop
 | [],_,_,_,k=>k []
 |c::cs,i,a,h,k=>∃x:c.den,bc h (adr a i)=some (c.enc x)∧Ak cs (i+1) a h fun vs=>k (c.enc x::vs)
noncomputable def nP:List Value→Nat→Addr→ac→Prop
 | [],_,_,_=>True
 | [v],i,a,h=>bc h (adr a i)=some v
 |v::u::vs,i,a,h=>bc h (adr a i)=some v∧nP (u::vs) (i+1) a h
abbrev RK:=Value→Option (ac→Prop)→Prop
noncomputable def Bb(P:Program)(t:TypeId)(v:Value)(K:RK)(h:ac):Prop:=
 match v with
 | .pointer (some a)=>
  match xB P t with
  |some (.c c)=>∃x:c.den,bc h a=some (c.enc x)∧K (c.enc x) (some fun h'=>bc h' a=some (c.enc x))
  |some (.agg cs)=>Ak cs 0 a h fun vs=>K (.agg vs.toArray) (some fun h'=>nP vs 0 a h')
  |none=>False
 |_=>False
def qz(P:Program)(t:TypeId)(f:Nat):Option (TypeId×Nat):=
 match P.underlying t with
 |some (.struct fs)=>match fs.toList[f]? with
  |some g=>some (g.type,g.offset)
  |none=>none
 |_=>none
def pP(P:Program)(t:TypeId):Option TypeId:=
 match P.underlying t with
 |some (.slice e)=>some e
 |_=>none
def Cd(c:BinOp)(k:IntKind)(a b:Int)(K:RK):Prop:=
 match c with
 | .shl=>0≤b∧K (.int k (k.wrap (a*2^(min b.toNat k.bits)))) none
 | .shr=>0≤b∧K (.int k (a.fdiv (2^(min b.toNat k.bits)))) none
 |_=>False
def Iu(c:BinOp)(k:IntKind)(a b:Int)(K:RK):Prop:=
 match c with
 | .add=>K (.int k (k.wrap (a+b))) none
 | .sub=>K (.int k (k.wrap (a-b))) none
 | .mul=>K (.int k (k.wrap (a*b))) none
 | .quo=>b≠0∧K (.int k (k.wrap (a.tdiv b))) none
 | .rem=>b≠0∧K (.int k (a.tmod b)) none
 | .and=>K (.int k (k.wrap (ag k.bits a&&&ag k.bits b).toNat)) none
 | .or=>K (.int k (k.wrap (ag k.bits a|||ag k.bits b).toNat)) none
 | .xor=>K (.int k (k.wrap (ag k.bits a^^^ag k.bits b).toNat)) none
 | .andNot=>K (.int k (k.wrap (ag k.bits a&&& ~~~ag k.bits b).toNat)) none
 | .eql=>K (.bool (a==b)) none
 | .neq=>K (.bool (a !=b)) none
 | .lss=>K (.bool (decide (a<b))) none
 | .leq=>K (.bool (decide (a≤b))) none
 | .gtr=>K (.bool (decide (a>b))) none
 | .geq=>K (.bool (decide (a≥b))) none
 |_=>False
def Ie(c:BinOp)(a b:ByteArray)(K:RK):Prop:=
 match c with
 | .add=>((a.size+b.size:Nat):Int)≤9223372036854775807∧K (.string (a++b)) none
 | .eql=>K (.bool (a.toList==b.toList)) none
 | .neq=>K (.bool (!(a.toList==b.toList))) none
 | .lss=>K (.bool (Op.bytesLess a.toList b.toList)) none
 | .leq=>K (.bool (Op.bytesLess a.toList b.toList||a.toList==b.toList)) none
 | .gtr=>K (.bool (!(Op.bytesLess a.toList b.toList||a.toList==b.toList))) none
 | .geq=>K (.bool (!(Op.bytesLess a.toList b.toList))) none
 |_=>False
def eI(h:ac)(a:Addr):Prop:=(∃c e,h[a.block]? =some (.cells c e (0,0))∧0<c.size)
def He(P:Program)(t:TypeId)(neg:Bool)(x y:Value)(K:RK):Prop:=
 match P.underlying t,x,y with
 |some (.pointer _),.pointer a,.pointer none=>K (.bool (bif neg then !a.isNone else a.isNone)) none
 |some (.map _ _),.map a,.map none=>K (.bool (bif neg then !a.isNone else a.isNone)) none
 |some (.slice _),.slice a _ _,.slice none _ _=>K (.bool (bif neg then !a.isNone else a.isNone)) none
 |_,_,_=>False
def It:Operand→Bool
 | .const (.pointer none)=>true
 | .const (.map none)=>true
 | .const (.slice none 0 0)=>true
 |_=>false
def JL(P:Program)(t:TypeId)(neg:Bool)(x y:Value)(K:RK)(h:ac):Prop:=
 match P.underlying t,x,y with
 |some .bool,.bool a,.bool b=>K (.bool (bif neg then !(a==b)else a==b)) none
 |some (.pointer e),.pointer a,.pointer b=>
  (bif aV (bi P e) 0 then False else True)∧
  (∀x y,a=some x→b=some y→eI h x∧eI h y)∧
  K (.bool (bif neg then !(a==b)else a==b)) (some fun h'=>∀x y,a=some x→b=some y→eI h' x∧eI h' y)
 |_,_,_=>False
def Il(P:Program)(c:BinOp)(t:TypeId)(x y:Value)(K:RK)(h:ac):Prop:=
 match x,y with
 | .int k a,.int k' b=>
  match c with
  | .shl=>Cd .shl k a b K
  | .shr=>Cd .shr k a b K
  |c=>bif Ae k' k then Iu c k a b K else False
 | .string a,.string b=>Ie c a b K
 |x,y=>match c with
  | .eql=>JL P t false x y K h
  | .neq=>JL P t true x y K h
  |_=>False
def mM(h:ac):List (Option Addr×Option Addr)→Prop
 | []=>True
 |(a,b)::l=>(∀x y,a=some x→b=some y→eI h x∧eI h y)∧mM h l
def Gc(P:Program)(t:TypeId)(x y:Value):Option (Bool×List (Option Addr×Option Addr)):=
 match P.underlying t,x,y with
 |some (.int _),.int k a,.int k' b=>bif Ae k' k then some (a==b,[])else none
 |some .bool,.bool a,.bool b=>some (a==b,[])
 |some .string,.string a,.string b=>some (a.toList==b.toList,[])
 |some (.pointer e),.pointer a,.pointer b=>bif aV (bi P e) 0 then none else some (a==b,[(a,b)])
 |_,_,_=>none
def Hx(P:Program)(rec:TypeId→List Value→List Value→Option (Bool×List (Option Addr×Option Addr)))(xs ys:List Value):List Field→Option (Bool×List (Option Addr×Option Addr))
 | []=>some (true,[])
 |f::fs=>
  if f.name= "_" then none else
  bif (P.underlying f.type).isSome&&(P.info? f.type).isSome then
   match(bif pH P f.type then rec f.type ((xs.drop f.offset).take (bi P f.type)) ((ys.drop f.offset).take (bi P f.type))
    else match xs[f.offset]?,ys[f.offset]? with|some x,some y=>Gc P f.type x y|_,_=>none),Hx P rec xs ys fs with
   |some (b,l),some (c,m)=>some (b&&c,l++m)
   |_,_=>none
  else none
def Gd(P:Program):Nat→TypeId→List Value→List Value→Option (Bool×List (Option Addr×Option Addr))
 |0,_,_,_=>none
 |d+1,t,xs,ys=>match P.underlying t with
  |some (.struct fs)=>bif P.stoodInHeld t then none else Hx P (Gd P d) xs ys fs.toList
  |_=>none
def Ko(neg b:Bool)(K:RK)(h:ac):List (Option Addr×Option Addr)→Prop
 | []=>K (.bool (bif neg then !b else b)) none
 |p::l=>mM h (p::l)∧K (.bool (bif neg then !b else b)) (some fun h'=>mM h' (p::l))
def Im(P:Program)(a:BinOp)(t:TypeId)(xs ys:List Value)(K:RK)(h:ac):Prop:=
 bif P.eqGuardType P.depth t then False else
 match a with
 | .eql=>(match Gd P 10 t xs ys with|some (b,l)=>Ko false b K h l|none=>False)
 | .neq=>(match Gd P 10 t xs ys with|some (b,l)=>Ko true b K h l|none=>False)
 |_=>False
def JY(a:UnOp)(x:Value)(K:RK):Prop:=
 match a,x with
 | .neg,.int k n=>K (.int k (k.wrap (0-n))) none
 | .xor,.int k n=>K (.int k (k.wrap (ag k.bits (if k.signed then-1 else k.max)^^^ag k.bits n).toNat)) none
 | .not,.bool b=>K (.bool (!b)) none
 |_,_=>False
def cg(s:ByteArray):List Value:=s.data.toList.map fun b=>.int .u8 b.toNat
noncomputable def Row(h:ac)(a:Addr)(vs:List Value):Prop:=∀i v,vs[i]? =some v→bc h (adr a i)=some v
noncomputable def SRow(h:ac)(a:Option Addr)(n:Nat)(vs:List Value):Prop:=vs.length=n∧(vs= []∨∃b,a=some b∧Row h b vs)
def CJ(P:Program)(e:TypeId):Bool:=match P.underlying e with|some (.int .u8)=>true|_=>false
def Is(P:Program)(s d:TypeId):Bool:=
 match P.underlying s,P.underlying d with
 |some .string,some (.slice e)=>CJ P e
 |_,_=>false
def ByP(e:TypeId)(s:ByteArray)(h:ac)(K:Nat→ac→Prop):Prop:=
 ∀c,s.size≤c→K c (h.push (.cells (cg s++dU (c-s.size) (Value.int .u8 0)).toArray e (c,c+1)))
noncomputable def FI(P:Program)(d c:TypeId)(x:Value)(K:RK)(h:ac):Prop:=
 match P.underlying d,P.underlying c,x with
 |some (.int _),some (.int k),.int _ n=>K (.int k (k.wrap n)) none
 |some .string,some .string,.string s=>K (.string s) none
 |some (.slice e),some .string,.slice a n _=>bif CJ P e then∃s:ByteArray,SRow h a n (cg s)∧K (.string s) (some fun h'=>SRow h' a n (cg s))else False
 |_,_,_=>False
def Gn(v:Option Value)(d y:Nat)(K:Nat→Prop):Prop:=
 match v with
 |none=>K d
 |some (.int _ i)=>(0≤i∧i≤y)∧K i.toNat
 |_=>False
noncomputable def aF(a:Option Addr)(l m size:Nat):Option Addr:=if m=l then a else a.map (adr · (l*size))
def FR(P:Program)(t:TypeId)(K:Prop):Prop:=match P.info? t with|some _=>K|none=>False
noncomputable def Cm(P:Program)(t:TypeId)(x:Value)(lo hi c:Option Value)(K:RK):Prop:=
 match P.underlying t,x with
 |some .string,.string s=>match c with
  |some _=>False
  |none=>Gn hi s.size s.size fun h=>Gn lo 0 h fun l=>K (.string (s.extract l h)) none
 |some (.slice e),.slice a len cap=>FR P e (
  match c with
  |none=>Gn hi len cap fun h=>Gn lo 0 h fun l=>K (.slice (aF a l cap (bi P e)) (h-l) (cap-l)) none
  |some m=>match hi with
   |none=>False
   |some hi=>Gn (some m) 0 cap fun m=>Gn (some hi) 0 m fun h=>Gn lo 0 h fun l=>K (.slice (aF a l m (bi P e)) (h-l) (m-l)) none)
 |some (.array n e),.pointer (some a)=>FR P e (
  match c with
  |none=>Gn hi n n fun h=>Gn lo 0 h fun l=>K (.slice (aF (some a) l n (bi P e)) (h-l) (n-l)) none
  |some _=>False)
 |_,_=>False
noncomputable def y7(r:bE):Option Operand→Option (Option Value)
 |none=>some none
 |some o=>match cf r o with
  |some v=>some (some v)
  |none=>none
noncomputable def sd(P:Program)(t:TypeId)(x i:Value)(K:RK):Prop:=
 match P.underlying t,x,i with
 |some (.array n e),.pointer (some a),.int _ i=>FR P e ((0≤i∧i<n)∧K (.pointer (some (adr a (i.toNat*bi P e)))) none)
 |some (.slice e),.slice b len _,.int _ i=>FR P e ((0≤i∧i<len)∧∃a,b=some a∧K (.pointer (some (adr a (i.toNat*bi P e)))) none)
 |_,_,_=>False
def Co(P:Program)(t:TypeId)(x i:Value)(K:RK):Prop:=
 match P.underlying t,x,i with
 |some .string,.string s,.int _ i=>∃b:UInt8,0≤i∧s[i.toNat]? =some b∧K (.int .u8 b.toNat) none
 |_,_,_=>False
noncomputable def Cp(P:Program)(t:TypeId)(x:Value)(f:Nat)(K:RK):Prop:=
 match qz P t f,x with
 |some (u,off),.agg cs=>bif (P.underlying u).isSome&&(P.info? u).isSome then(bif pH P u then K (.agg ((cs.toList.drop off).take (bi P u)).toArray) none
  else(match cs.toList[off]? with|some v=>K v none|none=>False))else False
 |_,_=>False
def HU(c a b:Value)(K:RK):Prop:=
 match c with
 | .bool c=>(match a,b with
  | .bool x,.bool y=>K (.bool (bif c then x else y)) none
  |_,_=>(match c with|true=>K a none|false=>K b none))
 |_=>False
def dR:Value→Value→Bool
 | .int _ a,.int _ b=>a==b
 | .string a,.string b=>a==b
 | .bool a,.bool b=>a==b
 |_,_=>false
def xJ(k:Value):List MapEntry→Option Value
 | []=>none
 |e::es=>if dR k e.key then some e.val else xJ k es
def keysOf(c:CK)(es:List MapEntry):Prop:=∀e∈es,∃x:c.den,e.key=c.enc x
def iw(c:CK)(z:Value)(h:ac)(m:Option Nat)(k v:Value)(a:Bool):Prop:=
 match m with
 |none=>v=z∧a=false
 |some r=>∃es clock,h[r]? =some (.map es clock)∧keysOf c es.toList∧
  (match xJ k es.toList with|some u=>v=u∧a=true|none=>v=z∧a=false)
def Bt(P:Program)(t:TypeId):Option (CK×TypeId):=
 match P.underlying t with
 |some (.map k e)=>match P.underlying k with
  |some (.int i)=>some (.int i,e)
  |some .string=>some (.str,e)
  |some .bool=>some (.bool,e)
  |_=>none
 |_=>none
def zP(P:Program)(t:TypeId)(x k:Value)(a:Bool)(K:RK)(h:ac):Prop:=
 match Bt P t,x with
 |some (c,e),.map m=>c.dec k fun _=>
  (match xB P e,rB P e with
   |some ek,some z=>∃(y:ek.den) (b:Bool),iw c z h m k (ek.enc y) b∧
    K (bif a then .tuple #[ek.enc y,.bool b]else ek.enc y) (some fun h'=>iw c z h' m k (ek.enc y) b)
   |_,_=>False)
 |_,_=>False
def x9(h:ac)(m:Option Nat)(n:Nat):Prop:=
 match m with
 |none=>n=0
 |some r=>∃es clock,h[r]? =some (.map es clock)∧n=es.size
def D1(c:Bool)(h:ac)(m:Option Nat)(n:Nat):Prop:=
 match m with
 |none=>n=0
 |some r=>∃cap buf cl s q,h[r]? =some (.chan cap buf cl s q false)∧n=bif c then cap else buf.size
def Ij(P:Program)(t:TypeId)(x:Value)(K:RK)(h:ac):Prop:=
 match P.underlying t,x with
 |some .string,.string s=>K (.int .i64 s.size) none
 |some (.array n _),_=>K (.int .i64 n) none
 |some (.slice _),.slice _ n _=>K (.int .i64 n) none
 |some (.map _ _),.map m=>∃n:Nat,x9 h m n∧K (.int .i64 n) (some fun h'=>x9 h' m n)
 |some (.chan _ _),.chan m=>∃n:Nat,D1 false h m n∧K (.int .i64 n) (some fun h'=>D1 false h' m n)
 |_,_=>False
def Ik(P:Program)(t:TypeId)(x:Value)(K:RK)(h:ac):Prop:=
 match P.underlying t,x with
 |some (.slice _),.slice _ _ n=>K (.int .i64 n) none
 |some (.chan _ _),.chan m=>∃n:Nat,D1 true h m n∧K (.int .i64 n) (some fun h'=>D1 true h' m n)
 |_,_=>False
def z8(c:Bool)(k:IntKind):Int→List Value→(Value→Prop)→Prop
 |a,[],f=>f (.int k a)
 |a,.int k' b::vs,f=>bif Ae k' k then z8 c k (bif c then(if b>a then b else a)else(if b<a then b else a)) vs f else False
 |_,_,_=>False
def wH(c:Bool)(vs:List Value)(f:Value→Prop):Prop:=
 match vs with
 | .int k a::vs=>z8 c k a vs f
 |_=>False
def C9(h:ac)(i:Nat)(e:MapEntry):Prop:=
 ∃m since seen last stamp es,h[i]? =some (.mapIter (some m) since seen last)∧seen.back? =some stamp∧h[m]? =some (.map es last)∧es.find? (fun e=>e.born==stamp)=some e
def lB(P:Program)(t:TypeId):Bool:=match P.underlying t with|some (.interface _)=>false|some _=>true|none=>false
def DC(P:Program)(t:TypeId)(x:Value)(K:RK):Prop:=
 bif lB P t then(match xB P t with
  |some k=>∃y:k.den,x=.iface t (k.enc y)∧K (k.enc y) none
  |none=>False)else False
def Bg(cs:List Value)(off:Nat)(vs:List Value):List Value:=cs.take off++vs++cs.drop (off+vs.length)
def vI(a:Nat→Option (Nat×Nat)):List Value→List (Nat×Value)→Option (List Value)
 |cs,[]=>some cs
 |cs,(i,v)::rest=>match a i with
  |none=>none
  |some (off,size)=>bif aV v.cells.toList.length size&&Nat.ble (off+v.cells.toList.length) cs.length then vI a (Bg cs off v.cells.toList) rest else none
noncomputable def lA(r:bE):List (Nat×Operand)→Option (List (Nat×Value))
 | []=>some []
 |(i,o)::ps=>match cf r o,lA r ps with
  |some v,some vs=>some ((i,v)::vs)
  |_,_=>none
def lX(P:Program)(t:TypeId):Option (List Value):=match rB P t with|some z=>some z.cells.toList|none=>none
def cq(n:Nat)(z:List Value):List Value:=(dU n z).flatten
def ra(P:Program)(t:TypeId):Bool:=match P.info? t with|some _=>true|none=>false
def tI(P:Program):List Field→Bool
 | []=>true
 |f::fs=>bif ra P f.type then tI P fs else false
def Cw(P:Program)(a:List Field)(i:Nat):Option (Nat×Nat):=match a[i]? with|some f=>some (f.offset,bi P f.type)|none=>none
def Ap(P:Program)(t:TypeId)(a:List (Nat×Value)):Option (List Value):=
 match P.underlying t,lX P t with
 |some (.struct fs),some z=>bif tI P fs.toList then vI (Cw P fs.toList) z a else none
 |some (.array _ e),some z=>bif ra P e then vI (fun i=>some (i*bi P e,bi P e)) z a else none
 |_,_=>none
noncomputable def uv(P:Program)(ek:Option (Kind×Kind))(o:Op)(r:bE)(K:RK)(h:ac):Prop:=
 match o with
 | .entry it=>match cf r it,ek with
  |some (.pointer (some a)),some (kk,vk)=>a.off=0∧∃(e:MapEntry) (x:kk.den) (y:vk.den),C9 h a.block e∧e.key=kk.enc x∧e.val=vk.enc y∧
    K (.tuple #[kk.enc x,vk.enc y]) (some fun h'=>C9 h' a.block e)
  |_,_=>False
 | .move x| .assign x=>match cf r x with|some v=>K v none|none=>False
 | .load t a=>match cf r a with|some v=>Bb P t v K h|none=>False
 | .nilCheck x=>match cf r x with|some (.pointer p)=>∃a,p=some a∧K (.pointer (some a)) none|_=>False
 | .binOp op t x y _=>match cf r x,cf r y with
  |some (.agg v),some (.agg u)=>Im P op t v.toList u.toList K h
  |some v,some u=>(match op,It y with
   | .eql,true=>He P t false v u K
   | .neq,true=>He P t true v u K
   |op,_=>Il P op t v u K h)
  |_,_=>False
 | .unOp op _ x=>match cf r x with|some v=>JY op v K|none=>False
 | .convert s d x=>match cf r x with|some v=>FI P s d v K h|none=>False
 | .pick c a b=>match cf r c,cf r a,cf r b with|some c,some a,some b=>HU c a b K|_,_,_=>False
 | .extract x i=>match cf r x with
  |some (.tuple vs)=>(match vs.toList[i]? with|some v=>K v none|none=>False)
  |_=>False
 | .fieldAddr t x f=>match cf r x,qz P t f with
  |some (.pointer (some a)),some (u,off)=>bif aV (bi P u) 0 then False else K (.pointer (some (adr a off))) none
  |_,_=>False
 | .field t x f=>match cf r x with|some v=>Cp P t v f K|none=>False
 | .indexAddr t x i=>match cf r x,cf r i with|some v,some u=>sd P t v u K|_,_=>False
 | .index t x i=>match cf r x,cf r i with|some v,some u=>Co P t v u K|_,_=>False
 | .slice t x lo hi mx=>match cf r x,y7 r lo,y7 r hi,y7 r mx with
  |some v,some l,some h',some m=>Cm P t v l h' m K
  |_,_,_,_=>False
 | .lookup t x k ok=>match cf r x,cf r k with|some v,some u=>zP P t v u ok K h|_,_=>False
 | .makeInterface t x=>match cf r x with|some v=>bif lB P t then K (.iface t v) none else False|none=>False
 | .typeAssert x _ t ok=>match cf r x with|some v=>bif ok then False else DC P t v K|none=>False
 | .build t ps=>match lA r ps.toList with
  |some vs=>(match Ap P t vs with|some cs=>K (.agg cs.toArray) none|none=>False)
  |none=>False
 | .makeFunc fn first cap=>match jK r first.toList,jK r cap.toList with
  |some vs,some us=>K (.func fn vs.toArray us.toArray) none
  |_,_=>False
 | .call c=>match c.callee,jK r c.args.toList,c.argTypes.toList with
  | .builtin .len,some [v],[t]=>Ij P t v K h
  | .builtin .cap,some [v],[t]=>Ik P t v K h
  | .builtin .min,some vs,_=>wH false vs fun v=>K v none
  | .builtin .max,some vs,_=>wH true vs fun v=>K v none
  |_,_,_=>False
 |_=>False
abbrev WK:=Value→ac→Prop
def aZ(h:ac):Addr:=⟨h.size,0,none⟩
def hnew(h:ac)(cs:List Value)(t:TypeId):ac:=h.push (.cells cs.toArray t (0,0))
def bq:List Value→Bool
 | []=>true
 |v::vs=>(match v with| .agg _=>false| .tuple _=>false|_=>true)&&bq vs
noncomputable def jd(h:ac)(a:Addr):Nat→List Value→ac
 |_,[]=>h
 |i,v::vs=>jd (hset h (adr a i) v) a (i+1) vs
noncomputable def dy(h:ac)(a:Option Addr)(i:Nat)(vs:List Value):ac:=match a with|some a=>jd h a i vs|none=>h
noncomputable def qH(h:ac)(a:Option Addr)(i:Nat)(vs:List Value):Prop:=vs= []∨∃b,a=some b∧∀j,j<vs.length→Wr h (adr b (i+j))
noncomputable def B4(P:Program)(t:TypeId)(a v:Value)(K:WK)(h:ac):Prop:=
 match a with
 | .pointer (some a)=>bif aV v.cells.toList.length (bi P t)&&bq v.cells.toList then FR P t
   (match v.cells.toList with
    | [v]=>Wr h a∧K undef (hset h a v)
    |vs=>qH h (some a) 0 vs∧K undef (jd h a 0 vs))
  else False
 |_=>False
noncomputable def Gt(P:Program)(e:TypeId)(a:Option Addr)(sl d c:Nat)(xs:List Value)(K:WK)(h:ac):Prop:=
 (sl+c≤d→qH h a (sl*bi P e) xs∧bq xs=true∧K (.slice a (sl+c) d) (dy h a (sl*bi P e) xs))∧
 (d<sl+c→∃old z,SRow h a (sl*bi P e) old∧lX P e=some z∧0<l6 P e∧Builtin.nextslicecap (sl+c) d*l6 P e≤2^48∧
  ∀nc,sl+c≤nc→K (.slice (some (aZ h)) (sl+c) nc) (hnew h (old++xs++cq (nc-(sl+c)) z) e))
noncomputable def wB(P:Program)(t:TypeId)(s x:Value)(K:WK)(h:ac):Prop:=
 match pP P t,s,x with
 |some e,.slice b sl sc,.slice a xl _=>FR P e (∃xs,SRow h a (xl*bi P e) xs∧Gt P e b sl sc xl xs K h)
 |some e,.slice b sl sc,.string x=>bif aV (bi P e) 1 then Gt P e b sl sc x.size (cg x) K h else False
 |_,_,_=>False
noncomputable def wX(P:Program)(t:TypeId)(s x:Value)(K:WK)(h:ac):Prop:=
 match pP P t,s,x with
 |some e,.slice b sl sc,.int _ l=>(match lX P e with
  |some z=>bif aV z.length (bi P e)then(0≤l∧l*l6 P e≤2^48∧l≤9223372036854775807∧((sl+l.toNat:Nat):Int)≤9223372036854775807)∧Gt P e b sl sc l.toNat (cq l.toNat z) K h else False
  |none=>False)
 |_,_,_=>False
noncomputable def B5(P:Program)(t:TypeId)(x:Value)(K:WK)(h:ac):Prop:=
 match pP P t,x with
 |some e,.slice a n _=>(match lX P e with
  |some z=>bif bq z then qH h a 0 (cq n z)∧K (.tuple #[]) (dy h a 0 (cq n z))else False
  |none=>False)
 |_,_=>False
noncomputable def Fe(P:Program)(t:TypeId)(d s:Value)(K:WK)(h:ac):Prop:=
 match pP P t,d,s with
 |some e,.slice b dl _,.slice a sl _=>FR P e (∃xs,SRow h a (cE sl dl*bi P e) xs∧qH h b 0 xs∧bq xs=true∧K (.int .i64 (cE sl dl)) (dy h b 0 xs))
 |some e,.slice b dl _,.string x=>bif aV (bi P e) 1 then qH h b 0 ((cg x).take dl)∧K (.int .i64 (cE x.size dl)) (dy h b 0 ((cg x).take dl))else False
 |_,_,_=>False
def zT(k v:Value)(a:Nat):List MapEntry→List MapEntry×Nat
 | []=>([{key:=k,val:=v,born:=a}],a+1)
 |e::es=>if dR k e.key then({e with key:=k,val:=v}::es,a)else let r:=zT k v a es;(e::r.1,r.2)
def xP(k:Value):List MapEntry→List MapEntry
 | []=> []
 |e::es=>if dR k e.key then es else e::xP k es
def pT(c:CK)(h:ac)(r:Nat):Prop:=∃es clock,h[r]? =some (.map es clock)∧keysOf c es.toList
def jh(h:ac)(r:Nat)(k v:Value):ac:=
 match h[r]? with
 |some (.map es clock)=>h.setIfInBounds r (.map (zT k v clock es.toList).1.toArray (zT k v clock es.toList).2)
 |_=>h
def xz(h:ac)(r:Nat)(k:Value):ac:=
 match h[r]? with
 |some (.map es clock)=>h.setIfInBounds r (.map (xP k es.toList).toArray clock)
 |_=>h
def wA(P:Program)(t:TypeId)(m k v:Value)(K:WK)(h:ac):Prop:=
 match Bt P t,m with
 |some (c,_),.map m=>c.dec k fun _=>∃r,m=some r∧pT c h r∧K undef (jh h r k v)
 |_,_=>False
def wV(P:Program)(t:TypeId)(m k:Value)(K:WK)(h:ac):Prop:=
 match Bt P t,m with
 |some (c,_),.map m=>c.dec k fun _=>(m=none∧K (.tuple #[]) h)∨(∃r,m=some r∧pT c h r∧K (.tuple #[]) (xz h r k))
 |_,_=>False
def FG(P:Program):List TypeId→Option (List Kind)
 | []=>some []
 |t::ts=>match xB P t,FG P ts with
  |some k,some ks=>some (k::ks)
  |_,_=>none
def FH(P:Program)(t:TypeId):Option (List Kind):=
 match P.underlying t with
 |some (.tuple ts)=>FG P ts.toList
 |_=>FG P [t]
noncomputable def HN(P:Program)(f:Operand)(r:bE)(args:List Value)(t:TypeId)(K:WK)(h:ac):Prop:=
 match FH P t with
 |none=>False
 |some ks=>match f with
  | .func f=>HC P f args ks (fun x h'=>K (wb ks (jl ks x)) h') h
  |f=>match cf r f with
   |some fv=>HV P fv args ks (fun x h'=>K (wb ks (jl ks x)) h') h
   |none=>False
def Fc(c:Value)(K:WK)(h:ac):Prop:=
 match c with
 | .pointer (some a)=>a.off=0∧
  ∃m since seen last,h[a.block]? =some (.mapIter m since seen last)∧
   ((m=none∧K (.tuple #[.bool false]) h)∨
    (∃r es clock,m=some r∧h[r]? =some (.map es clock)∧(seen.isEmpty=true∨es.isEmpty=true∨es.all (fun e=>decide (e.born≥last))=false)∧
     ((∀e∈es.toList,e.born<since→seen.contains e.born=true)→K (.tuple #[.bool false]) h)∧
     (∀e∈es.toList,seen.contains e.born=false→K (.tuple #[.bool true,e.key,e.val]) (h.setIfInBounds a.block (.mapIter (some r) since (seen.push e.born) clock)))))
 |_=>False
noncomputable def yn(P:Program)(o:Oper)(r:bE)(K:WK)(h:ac):Prop:=
 match o.op with
 | .alloc t=>(match lX P t with|some z=>K (.pointer (some (aZ h))) (hnew h z t)|none=>False)
 | .box t x=>(match cf r x with|some v=>K (.pointer (some (aZ h))) (hnew h v.cells.toList t)|none=>False)
 | .build t ps=>(match lA r ps.toList with
  |some vs=>(match Ap P t vs with|some cs=>K (.agg cs.toArray) h|none=>False)
  |none=>False)
 | .buildSlice t n ps=>(match pP P t,lA r ps.toList with
  |some e,some vs=>(match lX P e with
   |some z=>bif Nat.ble (n*bi P e) 16777216&&aV z.length (bi P e)then
     (match vI (fun i=>some (i*bi P e,bi P e)) (cq n z) vs with|some cs=>K (.slice (some (aZ h)) n n) (hnew h cs e)|none=>False)
    else False
   |none=>False)
  |_,_=>False)
 | .store t a x=>(match cf r a,cf r x with|some a,some v=>B4 P t a v K h|_,_=>False)
 | .mapUpdate t m k x=>(match cf r m,cf r k,cf r x with|some m,some k,some v=>wA P t m k v K h|_,_,_=>False)
 | .insert t m k x=>(match cf r m,cf r k,cf r x with|some m,some k,some v=>wA P t m k v K h|_,_,_=>False)
 | .makeMap t n=>(match n with
  |none=>K (.map (some h.size)) (h.push (.map #[] 0))
  |some n=>(match cf r n,P.underlying t with|some (.int _ _),some (.map _ _)=>K (.map (some h.size)) (h.push (.map #[] 0))|_,_=>False))
 | .makeSlice t l c=>(match pP P t,cf r l,cf r c with
  |some e,some (.int _ l),some (.int _ c)=>(match lX P e with
   |some z=>bif aV z.length (bi P e)then(0≤l∧l≤c∧c≤9223372036854775807∧l6 P e*c≤2^48)∧K (.slice (some (aZ h)) l.toNat c.toNat) (hnew h (cq c.toNat z) e)else False
   |none=>False)
  |_,_,_=>False)
 | .convert s d x=>(match P.underlying s,P.underlying d,cf r x with
  |some .string,some (.slice e),some (.string v)=>bif CJ P e then ByP e v h (fun c h'=>K (.slice (some (aZ h)) v.size c) h')else False
  |_,_,_=>False)
 | .range t x=>(match P.underlying t,cf r x with
  |some (.map _ _),some (.map m)=>∃clock,(m=none∧clock=0∨∃r es,m=some r∧h[r]? =some (.map es clock))∧K (.pointer (some (aZ h))) (h.push (.mapIter m clock #[] clock))
  |_,_=>False)
 | .next it false=>(match cf r it with|some it=>Fc it K h|none=>False)
 | .call c=>(match c.callee,jK r c.args.toList with
  | .builtin .append,some [s,x]=>(match c.argTypes.toList with| [t,u]=>(match P.underlying u with|some (.slice _)=>wB P t s x K h|some .string=>wB P t s x K h|some (.int _)=>wX P t s x K h|_=>False)|_=>False)
  | .builtin .clear,some [x]=>(match c.argTypes.toList with| [t]=>B5 P t x K h|_=>False)
  | .builtin .copy,some [d,s]=>(match c.argTypes.toList with| [t,_]=>Fe P t d s K h|_=>False)
  | .builtin .delete,some [m,k]=>(match c.argTypes.toList with| [t,_]=>wV P t m k K h|_=>False)
  | .value f,some args=>HN P f r args o.type K h
  |_,_=>False)
 |_=>False
def pS(P:Program):Op→Bool
 | .convert s d _=> !Is P s d
 | .alloc _| .box .. | .buildSlice .. | .store .. | .mapUpdate .. | .insert .. | .makeMap .. | .makeSlice .. | .range .. | .next .. =>false
 | .call c=>match c.callee with
  | .builtin .len| .builtin .cap| .builtin .min| .builtin .max=>true
  |_=>false
 |_=>true
def sx(N:Nat)(o:Oper)(v:Value)(r:bE)(K:bE→Prop):Prop:=
 match o.dst with
 |none=>K r
 |some d=>bif rg d N then K ((d,v)::r)else False
noncomputable def IQ(P:Program)(N:Nat)(ek:Option (Kind×Kind))(o:Oper)(r:bE)(K:bE→ac→Prop)(h:ac):Prop:=
 bif pS P o.op then uv P ek o.op r (fun v _=>sx N o v r fun a=>K a h) h
 else yn P o r (fun v h'=>sx N o v r fun a=>K a h') h
inductive DV where
 |f|t|u|x
abbrev pi:=List (Nat×DV)
noncomputable def me(d:pi)(t:Nat):DV:=
 dk (motive:=fun _=>DV) .x (fun a _ c=>bif aV a.1 t then a.2 else c) d
noncomputable def tC(d:pi):Operand→DV
 | .tmp t=>me d t
 | .const (.bool true)=>.t
 | .const (.bool false)=>.f
 |_=>.x
noncomputable def AJ(d:pi):Op→DV
 | .move x=>tC d x
 | .assign x=>tC d x
 | .pick c a b=>match tC d c with
  | .t=>tC d a
  | .f=>tC d b
  |_=>.x
 | .unOp .not _ x=>match tC d x with
  | .t=>.f
  | .f=>.t
  |_=>.x
 |_=>.x
def mC(d:pi)(o:Oper)(v:DV):pi:=match o.dst with|some t=>(t,v)::d|none=>d
noncomputable def fC(ops:List Oper)(d:pi)(o:Oper):Option Bool:=
 match o.guard with
 |none=>some true
 |some (j,want)=>match ops[j]? with
  |none=>none
  |some oj=>match oj.dst with
   |none=>none
   |some t=>match me d t with
    | .t=>some want
    | .f=>some (!want)
    | .u=>some false
    | .x=>none
def xF(ops:List Oper)(o:Oper):Option Nat:=
 match o.guard with
 |none=>none
 |some (j,_)=>match ops[j]? with
  |none=>none
  |some oj=>oj.dst
noncomputable def yS(P:Program)(N:Nat)(ek:Option (Kind×Kind))(ops:List Oper)(o:Oper)(d:pi)(r:bE)(h:ac)(K:pi→bE→ac→Prop):Prop:=
 match fC ops d o with
 |some true=>IQ P N ek o r (K (mC d o (AJ d o.op))) h
 |some false=>sx N o undef r fun a=>K (mC d o .u) a h
 |none=>False
noncomputable def xm(P:Program)(N:Nat)(ek:Option (Kind×Kind))(ops:List Oper)(l:List Oper):pi→(bE→ac→Prop)→bE→ac→Prop:=
 dk (motive:=fun _=>pi→(bE→ac→Prop)→bE→ac→Prop) (fun _ K r h=>K r h)
  (fun o _ c d K r h=>
  match fC ops d o with
  |some true=>IQ P N ek o r (fun a h'=>c (mC d o (AJ d o.op)) K a h') h
  |some false=>sx N o undef r fun a=>c (mC d o .u) K a h
  |none=>match xF ops o with
   |none=>False
   |some t=>match gC r t with
    |some (.bool b)=>CondP b
     (yS P N ek ops o ((t,.t)::d) ((t,.bool true)::r) h fun e a h'=>c e K a h')
     (yS P N ek ops o ((t,.f)::d) ((t,.bool false)::r) h fun e a h'=>c e K a h')
    |_=>False) l
inductive DA where
 |done
 |take (i:Nat) (rest:DA)
 |all (l:DA)
 |pick (i:Nat) (rest more:DA)
 |last (i:Nat) (rest:DA)
 |lastT (i:Nat) (rest:DA)
 |split (t:Nat) (yes no:DA)
abbrev l7:=List (Nat×(ac→Prop))
def tb(m i:Nat):Bool:=aV (fX (Nat.shiftRight m i) 1) 1
def eB(i:Nat):Nat:=Nat.pow 2 i
inductive DM where
 |mk (am fr lk ds:Nat)
def DM.am:DM→Nat| .mk a _ _ _=>a
def DM.fr:DM→Nat| .mk _ f _ _=>f
def DM.lk:DM→Nat| .mk _ _ l _=>l
def DM.ds:DM→Nat| .mk _ _ _ d=>d
def fE(o:Oper)(i:Nat):Bool:=o.after.toList.any fun e=>aV e.on i&&Region.binds .any e
noncomputable def iV(l:List Edge):Nat:=
 dk (motive:=fun _=>Nat) 0 (fun e _ a=>bif Region.binds .any e then bU (eB e.on) a else a) l
noncomputable def ii(l:List Operand):Nat:=
 dk (motive:=fun _=>Nat) 0 (fun o _ a=>match o with| .tmp t=>bU (eB t) a|_=>a) l
def jF(o:Oper):Nat:=match o.dst with|some d=>eB d|none=>0
noncomputable def jU(ops:List Oper)(o:Oper):Nat:=
 bU (ii o.op.operands.toList) (match o.guard with
  |some (g,_)=>(match ops[g]? with|some og=>jF og|none=>0)
  |none=>0)
noncomputable def qq(ops:List Oper)(l:List Oper):List DM→Bool:=
 dk (motive:=fun _=>List DM→Bool) (fun ms=>match ms with| []=>true|_=>false)
  (fun o _ a ms=>match ms with
   |m::ms=>aV (iV o.after.toList) m.am&&aV (jU ops o) m.lk&&aV (jF o) m.ds&&a ms
   | []=>false) l
def u6(x y:DM):Bool:=aV (fX x.ds (bU y.lk y.ds)) 0&&aV (fX y.ds x.lk) 0
noncomputable def zj(i:Nat)(m:DM)(l:List DM):Nat→Bool:=
 dk (motive:=fun _=>Nat→Bool) (fun _=>true)
  (fun n _ a j=>(!(tb m.fr j)||aV j i||tb n.am i||u6 m n)&&a (dK j)) l
noncomputable def tw(a:List DM)(l:List DM):Nat→Bool:=
 dk (motive:=fun _=>Nat→Bool) (fun _=>true) (fun m _ c i=>zj i m a 0&&c (dK i)) l
def Bo:List Oper→Bool
 | []=>true
 |o::os=>(match o.op with| .select .. =>false| .defer _=>false|_=>true)&&Bo os
noncomputable def wI(ops:List Oper)(ms:List DM):Bool:=qq ops ops ms&&tw ms ms 0&&Bo ops
def j5(o:Oper):l7→l7
 | []=> []
 |(k,S)::l=>bif fE o k then j5 o l else(k,S)::j5 o l
def mS:l7→ac→Prop→Prop
 | [],_,R=>R
 |(_,S)::l,h,R=>S h∧mS l h R
def AI(m:DM)(ls:Nat):Bool:=aV (fX m.am ls) m.am
noncomputable def im(ls:Nat)(l:List DM):Nat→List Nat:=
 dk (motive:=fun _=>Nat→List Nat) (fun _=> []) (fun m _ a j=>bif !(tb ls j)&&AI m ls then j::a (dK j)else a (dK j)) l
def xa(m:DM)(i ls n:Nat):Bool:= !(tb ls i)&&AI m ls&&aV (fX (bU ls m.fr) (qS (eB n))) (qS (eB n))
def pu:List Nat→List Nat→Bool
 | [],[]=>true
 |a::as,b::bs=>aV a b&&pu as bs
 |_,_=>false
def uP:DA→List Nat
 | .pick i _ l=>i::uP l
 | .last i _=> [i]
 | .lastT i _=> [i]
 |_=> []
noncomputable def Ec(P:Program)(N:Nat)(ops:List Oper)(i:Nat)(L:l7)(d:pi)(r:bE)(h:ac)(K:l7→pi→bE→ac→Prop):Prop:=
 match ops[i]? with
 |none=>False
 |some o=>match fC ops d o with
  |some true=>bif pS P o.op then uv P none o.op r (fun v _=>sx N o v r fun a=>mS (j5 o L) h (K (j5 o L) (mC d o .x) a h)) h else yn P o r (fun v h'=>sx N o v r fun a=>mS (j5 o L) h' (K (j5 o L) (mC d o .x) a h')) h
  |_=>False
noncomputable def EZ(m:Nat)(l:List DM):Nat→Nat:=
 dk (motive:=fun _=>Nat→Nat) (fun _=>m) (fun n _ a j=>bif tb m j then bU n.am (a (dK j))else a (dK j)) l
noncomputable def tD(ms:List DM)(m:Nat):Nat:=EZ (EZ (EZ (EZ m ms 0) ms 0) ms 0) ms 0
def Ay(ms:List DM)(i:Nat):Nat:=match ms[i]? with|some m=>m.am|none=>0
def s9(m:Nat):l7→l7
 | []=> []
 |(k,S)::l=>bif tb m k then s9 m l else(k,S)::s9 m l
noncomputable def DB(P:Program)(N:Nat)(ops:List Oper)(ms:List DM)(i:Nat)(L:l7)(d:pi)(r:bE)(h:ac)(K:l7→pi→bE→ac→Prop):Prop:=
 match ops[i]? with
 |none=>False
 |some o=>match fC ops d o with
  |some true=>bif pS P o.op then False else yn P o r (fun v h'=>sx N o v r fun a=>mS (s9 (tD ms (Ay ms i)) L) h' (K (s9 (tD ms (Ay ms i)) L) (mC d o .x) a h')) h
  |_=>False
noncomputable def js(P:Program)(N:Nat)(ops:List Oper)(ms:List DM)(k:DA):Bool→Nat→l7→pi→(bE→ac→Prop)→bE→ac→Prop:=
 DA.rec (motive:=fun _=>Bool→Nat→l7→pi→(bE→ac→Prop)→bE→ac→Prop)
  (fun m ls _ _ K r h=>bif !m&&pu (im ls ms 0) []then K r h else False)
  (fun i _ c m ls L d K r h=>
   match ops[i]?,ms[i]? with
   |some o,some mi=>bif !m&&xa mi i ls ops.length then
     (match fC ops d o with
      |none=>False
      |some false=>sx N o undef r fun a=>c false (bU ls (eB i)) L (mC d o .u) K a h
      |some true=>bif pS P o.op then
       uv P none o.op r (fun v S=>sx N o v r fun a=>match S with
        |none=>c false (bU ls (eB i)) L (mC d o (AJ d o.op)) K a h
        |some S=>c false (bU ls (eB i)) ((i,S)::L) (mC d o (AJ d o.op)) K a h) h
       else False)
    else False
   |_,_=>False)
  (fun l c m ls L d K r h=>bif !m&&pu (im ls ms 0) (uP l)then c true ls L d K r h else False)
  (fun i _ _ f e m ls L d K r h=>bif m then Ec P N ops i L d r h (fun j g a h'=>f false (bU ls (eB i)) j g K a h')∧e true ls L d K r h else False)
  (fun i _ c m ls L d K r h=>bif m then Ec P N ops i L d r h (fun j g a h'=>c false (bU ls (eB i)) j g K a h')else False)
  (fun i _ c m ls L d K r h=>bif m then DB P N ops ms i L d r h (fun j g a h'=>c false (bU ls (eB i)) j g K a h')else False)
  (fun t _ _ f e m ls L d K r h=>
   bif m then False else match gC r t with
   |some (.bool b)=>CondP b (f false ls L ((t,.t)::d) K ((t,.bool true)::r) h) (e false ls L ((t,.f)::d) K ((t,.bool false)::r) h)
   |_=>False)
  k
noncomputable def Kl(c:Oper)(i:Nat)(ds lk:Nat)(ops:List Oper)(l:List Oper):Nat→Nat:=
 dk (motive:=fun _=>Nat→Nat) (fun _=>0) (fun p _ a j=>bif (aV j i||fE p i||(aV (fX ds (bU (jU ops p) (jF p))) 0&&aV (fX (jF p) lk) 0))then bU (eB j) (a (dK j))else a (dK j)) l
noncomputable def J0(ops:List Oper)(l:List Oper):Nat→List DM:=
 dk (motive:=fun _=>Nat→List DM) (fun _=> []) (fun o _ a i=>.mk (iV o.after.toList) (Kl o i (jF o) (jU ops o) ops ops 0) (jU ops o) (jF o)::a (dK i)) l
def IW(P:Program)(w:Option Bool)(o:Oper):Bool:=match w with|some false=>true|some true=>pS P o.op|none=>false
noncomputable def Iz(P:Program)(ops:List Oper)(d:pi)(ls n:Nat)(l:List Oper):List DM→Nat→Option (Nat×Oper):=
 dk (motive:=fun _=>List DM→Nat→Option (Nat×Oper)) (fun _ _=>none)
  (fun o _ a ms j=>match ms with
   | []=>none
   |m::ms=>bif xa m j ls n&&IW P (fC ops d o) o then some (j,o)else a ms (dK j)) l
noncomputable def IA(ops:List Oper)(d:pi)(ls:Nat)(l:List Oper):List DM→Nat→Option Nat:=
 dk (motive:=fun _=>List DM→Nat→Option Nat) (fun _ _=>none)
  (fun o _ a ms j=>match ms with
   | []=>none
   |m::ms=>match bif !(tb ls j)&&AI m ls then(match fC ops d o with|none=>xF ops o|some _=>none)else none with
    |some t=>some t
    |none=>a ms (dK j)) l
noncomputable def Ja(ops:List Oper)(k:Nat→pi→DA)(ls:Nat)(d:pi)(l:List Nat):DA:=
 dk (motive:=fun _=>DA) .done (fun i a c=>match ops[i]? with
  |none=>.done
  |some o=>match a with
   | []=>.last i (k (bU ls (eB i)) (mC d o .x))
   |_=>.pick i (k (bU ls (eB i)) (mC d o .x)) c) l
noncomputable def IJ(P:Program)(ops:List Oper)(ms:List DM)(a:Nat):Nat→pi→DA:=
 Nat.rec (motive:=fun _=>Nat→pi→DA) (fun _ _=>.done) (fun _ c ls d=>
  match Iz P ops d ls ops.length ops ms 0 with
  |some (i,o)=>.take i (c (bU ls (eB i)) (match fC ops d o with|some false=>mC d o .u|_=>mC d o (AJ d o.op)))
  |none=>match IA ops d ls ops ms 0 with
   |some t=>.split t (c ls ((t,.t)::d)) (c ls ((t,.f)::d))
   |none=>match im ls ms 0 with
    | []=>.done
    |l=>.all (Ja ops c ls d l)) a
noncomputable def DG(ops:List Oper):List DM:=J0 ops ops 0
inductive Ex where
 |exit (id:Nat)
 |ret
abbrev St:=List (Nat×Kind)
def rX:St→List Kind
 | []=> []
 |(_,k)::l=>k::rX l
noncomputable def xh(r:bE):St→Option (List Value)
 | []=>some []
 |(i,_)::l=>match gC r i,xh r l with
  |some v,some vs=>some (v::vs)
  |_,_=>none
noncomputable def vx(st:St)(r:bE)(f:pR (rX st)→Prop):Prop:=
 match xh r st with
 |some vs=>wi (rX st) vs f
 |none=>False
def jC:St→List Value→bE→bE
 |(i,_)::l,v::vs,r=>(i,v)::jC l vs r
 |_,_,r=>r
noncomputable def DJ(r:bE)(l:List Nat):Option bE:=
 dk (motive:=fun _=>Option bE) (some []) (fun t _ a=>match gC r t,a with
  |some v,some l=>some ((t,v)::l)
  |_,_=>none) l
noncomputable def ie(t:Nat)(l:List Oper):Bool:=
 dk (motive:=fun _=>Bool) false (fun o _ a=>match o.dst with|some d=>bif aV d t then true else a|none=>a) l
noncomputable def d6(t:Nat)(c:Code):Bool:=
 Code.rec (motive:=fun _=>Bool) false (fun _ ops _=>ie t ops.toList) (fun _ _ a b=>bif a then true else b) (fun _ _ _ a b=>bif a then true else b)
  (fun _ _ b=>b) (fun _ b=>b) (fun _ _ _ _ _ _=>true) (fun _=>false) (fun _ b=>b) (fun _=>false) (fun _=>false) false (fun _=>false) c
inductive Ann where
 |nil
 |node (a b:Ann)
 |join (st:St) (a b:Ann)
 |loop (st:St) (b:Ann)
 |draw (d:DA)
 |kinds (k v:Kind)
 |reg (keep:List Nat) (inner:Ann)
 |rf (ks:List Kind) (a b:Ann)
def Ann.l:Ann→Ann
 | .node a _=>a
 | .rf _ a _=>a
 |_=>.nil
def Ann.r:Ann→Ann
 | .node _ b=>b
 | .rf _ _ b=>b
 |_=>.nil
noncomputable def Fb(l:List Oper):Nat:=dk (motive:=fun _=>Nat) 0 (fun o _ a=>bU (jF o) a) l
def Jc:Option Nat→Option Nat→Option Nat
 |some a,some b=>some (bU a b)
 |_,_=>none
noncomputable def rC(c:Code):Option Nat:=
 Code.rec (motive:=fun _=>Option Nat) (some 0) (fun _ ops _=>some (Fb ops.toList)) (fun _ _ a b=>Jc a b) (fun _ _ _ a b=>Jc a b)
  (fun _ _ b=>b) (fun _ b=>b) (fun _ _ _ _ _ _=>none) (fun _=>some 0) (fun _ b=>b) (fun _=>some 0) (fun _=>some 0) (some 0) (fun _=>some 0) c
noncomputable def qu(m:Nat)(r:bE):bE:=dk (motive:=fun _=>bE) [] (fun a _ c=>bif tb m a.1 then c else a::c) r
noncomputable def uE(P:Program)(N:Nat)(ops:List Oper)(c:Bool)(a:Ann)(Kn:bE→ac→Prop)(r:bE)(h:ac):Prop:=
 match c with
 |false=>(match a with
  | .kinds kk vk=>xm P N (some (kk,vk)) ops ops [] Kn r h
  |_=>xm P N none ops ops [] Kn r h)
 |true=>bif wI ops (DG ops)then js P N ops (DG ops) (match a with| .draw da=>da|_=>IJ P ops (DG ops) (Nat.add (Nat.add ops.length ops.length) 2) 0 []) false 0 [] [] Kn r h else False
noncomputable def gR(P:Program)(N:Nat)(c:Code):Ann→(bE→ac→Prop)→(Ex→bE→ac→Prop)→bE→ac→Prop:=
 Code.rec (motive:=fun _=>Ann→(bE→ac→Prop)→(Ex→bE→ac→Prop)→bE→ac→Prop)
  (fun _ Kn _ r h=>Kn r h)
  (fun _ ops p d Kn _ r h=>match d with
   | .reg keep d=>uE P N ops.toList p d (fun f h'=>match DJ f keep with|some r0=>Kn r0 h'|none=>False) r h
   |d=>uE P N ops.toList p d Kn r h)
  (fun a _ g j d Kn Kx r h=>match d with
   | .join st aa ab=>(match rC a with
     |none=>False
     |some m=>Join (T:=pR (rX st)) (fun t h'=>j ab Kn Kx (jC st (jl (rX st) t) (qu m r)) h')
      fun J=>g aa (fun f h'=>vx st f fun t=>J t h') Kx r h)
   |d=>g d.l (fun f h'=>j d.r Kn Kx f h') Kx r h)
  (fun c _ _ g j d Kn Kx r h=>match cf r c with
   |some (.bool t)=>CondP t (g d.l Kn Kx r h) (j d.r Kn Kx r h)
   |_=>False)
  (fun id _ o d Kn Kx r h=>o d Kn (fun e f h'=>match e with
    | .exit i=>bif aV i id then Kn f h' else Kx (.exit i) f h'
    | .ret=>Kx .ret f h') r h)
  (fun b o d _ Kx r h=>match d with
   | .loop st ab=>(match rC b with
     |none=>False
     |some m=>vx st r fun q=>LoopP (T:=pR (rX st)) (fun k t h'=>o ab (fun f n=>vx st f fun t'=>k t' n) Kx (jC st (jl (rX st) t) (qu m r)) h') q h)
   |_=>False)
  (fun _ _ _ _ _ _ _ _ _ _ _=>False)
  (fun id _ _ Kx r h=>Kx (.exit id) r h)
  (fun _ _ _ _ _ _ _=>False)
  (fun _ _ Kn _ r h=>Kn r h)
  (fun _ _ _ _ _ _=>False)
  (fun _ _ Kx r h=>Kx .ret r h)
  (fun _ _ _ _ _ _=>False)
  c
noncomputable def jD(P:Program)(r:bE)(h:ac):List ResultVar→(List Value→Prop)→Prop
 | [],K=>K []
 | .tmp t::l,K=>(match gC r t with|some v=>jD P r h l fun vs=>K (v::vs)|none=>False)
 | .cell a t::l,K=>(match gC r a with
  |some v=>Bb P t v (fun x _=>jD P r h l fun vs=>K (x::vs)) h
  |none=>False)
def lw:Nat→List Value→bE
 |_,[]=> []
 |i,v::vs=>(i,v)::lw (i+1) vs
noncomputable def A1(P:Program)(fn:Func)(c:Code)(a:Ann)(args:List Value)(ks:List Kind)(K:pR ks→ac→Prop)(h:ac):Prop:=
 gR P fn.ntmps c a
  (fun r h'=>jD P r h' fn.results.toList fun vs=>wi ks vs fun t=>K t h')
  (fun e r h'=>match e with
   | .ret=>jD P r h' fn.results.toList fun vs=>wi ks vs fun t=>K t h'
   | .exit _=>False)
  (lw 0 args) h
def xR:List Oper→Option (Oper×Oper×Operand×Nat×FuncId×List Operand)
 | [m,o]=>match m.op,m.guard,m.dst,o.op,o.dst,o.guard with
  | .move x,none,some d,.defer c,none,none=>(match c.callee with
   | .value (.func f)=>some (m,o,x,d,f,c.args.toList)
   |_=>none)
  |_,_,_,_,_,_=>none
 |_=>none
inductive Mk where
 |it (n:Nat)
 |call (f:FuncId) (vs:List Value)
def HD(P:Program)(f:FuncId)(args:List Value)(K:ac→Prop)(h:ac):Prop:=
 ∀w:World,w.heap=h→(∀(args:Array Value) (w:World),(callFunc f args).run P w=.ok (.enter f args) w)∧∀n:Nat,CallsDIn {fn:=fun _=>True,depth:=none,alive:=false,round:=none} n P f args.toArray .returning w fun e u a=>u=.returning∧Tame w a∧(∃v,e=.returned v)∧K a.heap
noncomputable def mU(c:Code):Bool:=
 Code.rec (motive:=fun _=>Bool) false (fun _ ops _=>(xR ops.toList).isSome) (fun _ _ a b=>bif a then true else b) (fun _ _ _ a b=>bif a then true else b)
  (fun _ _ b=>b) (fun _ b=>b) (fun _ _ _ _ _ _=>true) (fun _=>false) (fun _ b=>b) (fun _=>false) (fun _=>false) false (fun _=>false) c
def Aj:Option Ex→Option Code
 |none=>none
 |some (.exit i)=>some (.exit i)
 |some .ret=>some .ret
def Km(N:ac→Prop)(X:Nat→ac→Prop)(R:ac→Prop):Option Ex→ac→Prop
 |none=>N
 |some (.exit i)=>X i
 |some .ret=>R
structure RangeP(P:Program)(fv:Value)(ks:List Kind)(h:ac)(RT:Obj→Obj→pR ks→(Option Ex→ac→Prop)→ac→Prop)(N:ac→Prop)(X:Nat→ac→Prop)(R:ac→Prop):Prop where
 run:∀lo:LoopState→Option Ex→Obj,(∀s j,∃r,lo s j=.loop r)→
  (∀x h' K,h'[h.size+1]? =some (lo .ready none)→
   RT (lo .ready none) (lo .busy none) x (fun j h2=>h2[h.size+1]? =some (lo .busy none)∧K j.isNone (h2.setIfInBounds (h.size+1) (lo (if j.isNone then .ready else .done) j))) h'→
   HV P (.func (.yield (h.size+1)) #[] #[]) (jl ks x) [.c .bool] K h')→
  ∃f first cap,fv=.func (.func f) first cap∧HE P f (first.toList++ [.func (.yield (h.size+1)) #[] #[]]++cap.toList) []
   (fun _ h2=>∃s j,s≠ .busy∧h2[h.size+1]? =some (lo s j)∧Km N X R j (h2.setIfInBounds (h.size+1) (lo .exhausted j))) ((h.push (.deferred (some []))).push (lo .ready none))
def GM:List Nat→List Value→bE→bE
 |i::l,v::vs,r=>GM l vs ((i,v)::r)
 |_,_,r=>r
noncomputable def Ce(P:Program)(N:Nat)(ps:List Nat)(ks:List Kind)(assign body:Code)(c:Ann)(r:bE)(l:Nat)(AI g:Obj)(x:pR ks)(k:Option Ex→ac→Prop)(h:ac):Prop:=
 gR P N assign c.l (fun f d=>d[l]? =some AI∧gR P N body c.r (fun _ a=>k none a) (fun e _ a=>k (some e) a) f (d.setIfInBounds l g)) (fun _ _ _=>False) (GM ps (jl ks x) r) h
def sg(N:Nat):List Nat→Bool
 | []=>true
 |n::l=>rg n N&&sg N l
noncomputable def r7(P:Program)(N:Nat)(c:Code):Ann→(List Mk→bE→ac→Prop)→(Ex→List Mk→bE→ac→Prop)→List Mk→bE→ac→Prop:=
 Code.rec (motive:=fun _=>Ann→(List Mk→bE→ac→Prop)→(Ex→List Mk→bE→ac→Prop)→List Mk→bE→ac→Prop)
  (fun j Kn Kx ms r h=>gR P N .skip j (Kn ms) (fun e=>Kx e ms) r h)
  (fun id ops p j Kn Kx ms r h=>match xR ops.toList with
   |none=>gR P N (.region id ops p) j (Kn ms) (fun e=>Kx e ms) r h
   |some (_,_,x,d,f,as)=>bif p then False else match cf r x with
    |some v=>bif rg d N then(match jK ((d,v)::r) as with|some vs=>Kn (.call f vs::ms) ((d,v)::r) h|none=>False)else False
    |none=>False)
  (fun a b m n j Kn Kx ms r h=>bif (bif mU a then true else mU b)then m j.l (fun ms o h'=>n j.r Kn Kx ms o h') Kx ms r h
   else gR P N (.seq a b) j (Kn ms) (fun e=>Kx e ms) r h)
  (fun c a b m n j Kn Kx ms r h=>bif (bif mU a then true else mU b)then
    (match cf r c with
     |some (.bool t)=>CondP t (m j.l Kn Kx ms r h) (n j.r Kn Kx ms r h)
     |_=>False)
   else gR P N (.cond c a b) j (Kn ms) (fun e=>Kx e ms) r h)
  (fun id b q j Kn Kx ms r h=>bif mU b then q j Kn (fun e ms o h'=>match e with
    | .exit i=>bif aV i id then Kn ms o h' else Kx (.exit i) ms o h'
    | .ret=>Kx .ret ms o h') ms r h
   else gR P N (.block id b) j (Kn ms) (fun e=>Kx e ms) r h)
  (fun b _ j Kn Kx ms r h=>gR P N (.loop b) j (Kn ms) (fun e=>Kx e ms) r h)
  (fun g ps assign body _ _ j Kn Kx ms r h=>match j with
   | .rf ks aa ab=>bif sg N ps.toList&&aV ps.toList.length ks.length then
    (match cf r g with
     |some fv=>RangeP P fv ks h (fun AI s x k h'=>Ce P N ps.toList ks assign body (.node aa ab) r (h.size+1) AI s x k h')
      (fun h'=>Kn (.it h.size::ms) r h') (fun i h'=>Kx (.exit i) (.it h.size::ms) r h') (fun h'=>Kx .ret (.it h.size::ms) r h')
     |none=>False)else False
   |_=>False)
  (fun id j Kn Kx ms r h=>gR P N (.exit id) j (Kn ms) (fun e=>Kx e ms) r h)
  (fun _ _ _ _ _ _ _ _=>False)
  (fun l j Kn Kx ms r h=>gR P N (.label l) j (Kn ms) (fun e=>Kx e ms) r h)
  (fun _ _ _ _ _ _ _=>False)
  (fun j Kn Kx ms r h=>gR P N .ret j (Kn ms) (fun e=>Kx e ms) r h)
  (fun _ _ _ _ _ _ _=>False)
  c
def AZ(P:Program):List Mk→(ac→Prop)→ac→Prop
 | [],K,h=>K h
 | .it D::ms,K,h=>h[D]? =some (.deferred (some []))∧AZ P ms K (h.setIfInBounds D (.deferred none))
 | .call f vs::ms,K,h=>HD P f vs (fun h'=>AZ P ms K h') h
noncomputable def FB(P:Program)(fn:Func)(c:Code)(a:Ann)(args:List Value)(ks:List Kind)(K:pR ks→ac→Prop)(h:ac):Prop:=
 r7 P fn.ntmps c a
  (fun ms r h'=>AZ P ms (fun h'=>jD P r h' fn.results.toList fun vs=>wi ks vs fun t=>K t h') h')
  (fun e ms r h'=>match e with
   | .ret=>AZ P ms (fun h'=>jD P r h' fn.results.toList fun vs=>wi ks vs fun t=>K t h') h'
   | .exit _=>False)
  [] (lw 0 args) h
end Go.Lift
namespace Go.Lift
open Go
theorem x7(a:Addr):adr a 0=a:=rfl
theorem tK(a:Addr)(n:Nat):adr a (n+1)=⟨a.block,a.off+(n+1),none⟩:=rfl
theorem oE(a:Addr)(n:Nat):adr a n=a.add n:=by
 cases n with
 |zero=>simp[x7,Addr.add]
 |succ n=>simp[tK,Addr.add]
theorem tL(a:Addr)(m n:Nat):adr (adr a m) n=adr a (m+n):=by
 cases n with
 |zero=>rfl
 |succ n=>cases m with
  |zero=>simp[x7]
  |succ m=>rw[tK,tK,show m+1+(n+1)=(m+1+n)+1 from rfl,tK];simp;omega
theorem Tame.refl(w:World):Tame w w:=⟨rfl,rfl,rfl⟩
theorem Tame.trans{a b c:World}(h:Tame a b)(k:Tame b c):Tame a c:=⟨k.os.trans h.os,k.tape.trans h.tape,k.output.trans h.output⟩
theorem tp{a b:IntKind}(h:Ae a b=true):a=b:=by cases a<;>cases b<;>first|rfl|cases h
theorem CK.dec_sound{c:CK}{v:Value}{f:c.den→Prop}(h:c.dec v f):∃x,v=c.enc x∧f x:=by
 cases c<;>cases v<;>try simp only[CK.dec]at h
 case int.int k k' n=>
  cases hk:Ae k' k with
  |false=>rw[hk]at h;exact h.elim
  |true=>rw[hk]at h;have:=tp hk;subst this;exact⟨n,rfl,h⟩
 case adr.pointer p=>cases p with
  |none=>exact h.elim
  |some a=>exact⟨a,rfl,h⟩
 all_goals first|exact h.elim|exact⟨_,rfl,h⟩
theorem vK:∀{cs:List CK} {vs:List Value} {f:GA cs→Prop},DW cs vs f→∃t,vs=Gk cs t∧f t
 | [],[],f,h=>⟨(),rfl,h⟩
 | [],_::_,f,h=>h.elim
 | [c],[v],f,h=>by obtain⟨x,rfl,j⟩:=CK.dec_sound h;exact⟨x,rfl,j⟩
 | [c],[],f,h=>h.elim
 | [c],_::_::_,f,h=>h.elim
 |c::d::cs,[],f,h=>h.elim
 |c::d::cs,[_],f,h=>h.elim
 |c::d::cs,v::u::vs,f,h=>by
  have e:c.dec v fun x=>DW (d::cs) (u::vs) fun t=>f (x,t):=h
  obtain⟨x,hx,i⟩:=CK.dec_sound e;obtain⟨t,a,g⟩:=vK (cs:=d::cs) (vs:=u::vs) i;exact⟨(x,t),by rw[a,hx];rfl,g⟩
theorem Kind.dec_sound{k:Kind}{v:Value}{f:k.den→Prop}(h:k.dec v f):∃x,v=k.enc x∧f x:=by
 cases k with
 |c k=>exact CK.dec_sound h
 |agg cs=>
  cases v<;>simp only[Kind.dec]at h
  case agg vs=>
   obtain⟨t,a,d⟩:=vK h;exact⟨t,by simp only[Kind.enc,←a],d⟩
theorem mY:∀{ks:List Kind} {vs:List Value} {f:pR ks→Prop},wi ks vs f→∃t,vs=jl ks t∧f t
 | [],[],f,h=>⟨(),rfl,h⟩
 | [],_::_,f,h=>h.elim
 | [c],[v],f,h=>by obtain⟨x,rfl,j⟩:=Kind.dec_sound h;exact⟨x,rfl,j⟩
 | [c],[],f,h=>h.elim
 | [c],_::_::_,f,h=>h.elim
 |c::d::cs,[],f,h=>h.elim
 |c::d::cs,[_],f,h=>h.elim
 |c::d::cs,v::u::vs,f,h=>by
  have e:c.dec v fun x=>wi (d::cs) (u::vs) fun t=>f (x,t):=h
  obtain⟨x,hx,i⟩:=Kind.dec_sound e;obtain⟨t,a,g⟩:=mY (ks:=d::cs) (vs:=u::vs) i;exact⟨(x,t),by rw[a,hx];rfl,g⟩
theorem nN:∀(ks:List Kind) (t:pR ks),(jl ks t).length=ks.length
 | [],_=>rfl
 | [_],_=>rfl
 |_::l::ks,(_,t)=>by simp only[jl,aI,nN (l::ks) t]
structure Agree(N:Nat)(r:bE)(a:Act):Prop where
 size:a.tmps.size=N
 look:∀t v,gC r t=some v→a.tmps.getD t undef=v
theorem fh(k:Nat)(v:Value)(r:bE):gC ((k,v)::r) k=some v:=by rw[xq,show aV k k=true from Nat.beq_refl k];rfl
theorem eD{k t:Nat}(v:Value)(r:bE)(h:k≠t):gC ((k,v)::r) t=gC r t:=by
 rw[xq];have:aV k t=false:=Bool.eq_false_iff.2 fun e=>h (az e)
 rw[this];rfl
theorem Agree.put{N:Nat}{r:bE}{a:Act}(h:Agree N r a)(d:Nat)(v:Value)(hd:d<N):Agree N ((d,v)::r) (a.put (some d) v):=by
 refine⟨by simp[Act.put,h.size],fun t u c=>?_⟩
 by_cases e:d=t
 ·subst e
  rw[fh]at c;cases c;simp[Act.put,h.size,hd]
 ·rw[eD v r e]at c
  have:=h.look t u c;simpa[Act.put,Array.getElem?_setIfInBounds_ne e]using this
theorem Agree.known{N:Nat}{r:bE}{a:Act}(h:Agree N r a){t:Nat}{v:Value}(d:gC r t=some v):Agree N ((t,v)::r) a:=by
 refine⟨h.size,fun s u c=>?_⟩
 by_cases e:t=s
 ·subst e;rw[fh]at c;cases c;exact h.look t v d
 ·rw[eD v r e]at c;exact h.look s u c
theorem gD{N:Nat}{r:bE}{a:Act}(h:Agree N r a){o:Operand}{v:Value}(d:cf r o=some v):a.eval o=v:=by
 cases o with
 |tmp t=>exact h.look t v d
 |const c=>simp[cf]at d;subst d;rfl
 |global g=>simp[cf]at d;subst d;rfl
 |func f=>simp[cf]at d;subst d;rfl
theorem iJ{N:Nat}{r:bE}{a:Act}(h:Agree N r a):∀{os:List Operand} {vs:List Value},jK r os=some vs→os.map a.eval=vs
 | [],vs,hv=>by simp[jK]at hv;subst hv;rfl
 |o::os,vs,hv=>by
  simp only[jK]at hv;cases ho:cf r o with
  |none=>simp[ho]at hv
  |some v=>cases hos:jK r os with
   |none=>simp[ho,hos]at hv
   |some us=>simp[ho,hos]at hv;subst hv;simp[gD h ho,iJ h hos]
theorem ai{P:Program}{t:TypeId}{d:TypeDesc}(h:P.underlying t=some d)(w:World):(underlying t).run P w=.ok d w:=by
 simp only[underlying,program,bind,Sem.bind,Sem.run,h,pure]
theorem bR{P:Program}{t:TypeId}{i:TypeInfo}(h:P.info? t=some i)(w:World):(typeInfo t).run P w=.ok i w:=by
 simp only[typeInfo,program,bind,Sem.bind,Sem.run,h,pure]
theorem fJ{P:Program}{s:Sem Value}{v:Value}{w a:World}(h:s.run P w=.ok v a):(do pure (Next.value (←s)):Sem Next).run P w=.ok (.value v) a:=by
 simp[h]
theorem FE{P:Program}{s:Sem Unit}{w a:World}(h:s.run P w=.ok () a):(do s;pure Next.skip:Sem Next).run P w=.ok .skip a:=by
 simp[h]
theorem s7{P:Program}{w:World}{a:Addr}{v:Value}(h:bc w.heap a=some v):(load a).run P w=.ok v w:=by
 have h':w.cell? a=some v:=h;simp[h']
theorem tF{v:Value}{vs:List Value}{i:Nat}{a:Addr}{h:ac}:nP (v::vs) i a h↔bc h (adr a i)=some v∧nP vs (i+1) a h:=by
 cases vs with
 |nil=>simp[nP]
 |cons u us=>rfl
theorem nt{P:Program}{w:World}{a:Addr}:∀(vs:List Value) (i:Nat) (acc:Array Value),nP vs i a w.heap→
  (loadCellsFrom a i vs.length acc).run P w=.ok (acc++vs.toArray) w
 | [],i,acc,_=>by simp[loadCellsFrom]
 |v::vs,i,acc,h=>by
  obtain⟨c,d⟩:=tF.1 h;rw[oE]at c;have:=nt (P:=P) (w:=w) (a:=a) vs (i+1) (acc.push v) d;simp only[aI,loadCellsFrom,Sem.run_bind,s7 c,Result.andThen_ok,this];simp
theorem yr{P:Program}{w:World}{a:Addr}{vs:List Value}(h:nP vs 0 a w.heap):(loadCells a vs.length).run P w=.ok vs.toArray w:=by
 have:=nt (P:=P) (w:=w) (a:=a) vs 0 #[] h;simpa[loadCells]using this
theorem rJ:∀(cs:List CK) (i:Nat) (a:Addr) (h:ac) (k:List Value→Prop),Ak cs i a h k→∃vs,vs.length=cs.length∧nP vs i a h∧k vs
 | [],i,a,h,k,d=>⟨[],rfl,trivial,d⟩
 |c::cs,i,a,h,k,d=>by
  obtain⟨x,hx,d⟩:=d;obtain⟨vs,e,hc,d⟩:=rJ cs (i+1) a h _ d;exact⟨c.enc x::vs,by simp[e],tF.2 ⟨hx,hc⟩,d⟩
theorem tE:∀{vs:List Value} {cs:List CK},xU vs=some cs→cs.length=vs.length
 | [],cs,h=>by simp[xU]at h;subst h;rfl
 |v::vs,cs,h=>by
  simp only[xU]at h;cases h1:IG v with
  |none=>simp[h1]at h
  |some c=>cases h2:xU vs with
   |none=>simp[h1,h2]at h
   |some ds=>simp[h1,h2]at h;subst h;simp[tE h2]
def Gz(P:Program)(t:TypeId)(i:TypeInfo):Kind→Prop
 | .c _=>pH P t=false
 | .agg cs=>pH P t=true∧i.size=cs.length
theorem CG{P:Program}{t:TypeId}{k:Kind}(h:DI P t=some k):∃i,P.info? t=some i∧Gz P t i k:=by
 unfold DI rB at h;cases hi:P.info? t with
 |none=>simp[hi]at h
 |some i=>
  refine⟨i,rfl,?_⟩;cases hz:i.zero with
  |none=>simp[hi,hz]at h
  |some z=>
   rw[hi]at h;simp only[hz]at h;cases z;case agg vs=>
    simp only at h;cases hb:(pH P t&&aV vs.toList.length (bi P t))with
    |false=>rw[hb]at h;simp at h
    |true=>
     rw[hb]at h;simp only[cond_true]at h;simp only[Bool.and_eq_true]at hb;have a:=az hb.2;cases hd:xU vs.toList with
     |none=>rw[hd]at h;simp at h
     |some ds=>
      rw[hd]at h;simp only[bv.injEq]at h;subst h;exact⟨hb.1,by rw[tE hd,a];simp[bi,hi]⟩
   all_goals
    simp only at h;cases ha:pH P t
    ·rw[ha]at h
     simp only[cond_false]at h;split at h
     ·simp only[bv.injEq]at h;subst h;exact ha
     ·simp at h
    ·rw[ha]at h;simp at h
theorem CH{P:Program}{t:TypeId}{k:Kind}(h:xB P t=some k):(∀w,(isAgg t).run P w=.ok (pH P t) w)∧DI P t=some k:=by
 unfold xB at h;cases hu:P.underlying t with
 |none=>simp[hu]at h
 |some d=>
  simp only[hu]at h;refine⟨fun w=>?_,h⟩
  simp only[isAgg,Sem.run_bind,ai hu,Result.andThen_ok];unfold pH;rw[hu];cases d<;>rfl
theorem vE{P:Program}{t:TypeId}{v:Value}{K:RK}{h:ac}(d:Bb P t v K h):
  ∃u S,K u (some S)∧S h∧∀w:World,S w.heap→(Instr.loadAt t v).run P w=.ok u w:=by
 unfold Bb at d;cases v with
 |pointer p=>
  cases p with
  |none=>exact d.elim
  |some a=>
   simp only at d;cases hk:xB P t with
   |none=>simp[hk]at d
   |some k=>
    obtain⟨e,g⟩:=CH hk;obtain⟨i,hi,hc⟩:=CG g;rw[hk]at d;cases k with
    |c c=>
     obtain⟨x,hx,n⟩:=d;refine⟨_,_,n,hx,fun w j=>?_⟩
     have hc:pH P t=false:=hc;simp only[Instr.loadAt,Instr.sureAddr,loadVar,Sem.run_bind,Sem.run_pure,Result.andThen_ok,e,hc];simp[s7 j]
    |agg cs=>
     obtain⟨vs,f,m,n⟩:=rJ cs 0 a h _ d;obtain⟨o,q⟩:pH P t=true∧i.size=cs.length:=hc;refine⟨_,_,n,m,fun w j=>?_⟩
     have g:(sizeOf t).run P w=.ok vs.length w:=by simp[sizeOf,bR hi,q,f]
     simp only[Instr.loadAt,Instr.sureAddr,loadVar,Sem.run_bind,Sem.run_pure,Result.andThen_ok,e,o];simp[g,yr j]
 |_=>exact d.elim
end Go.Lift
