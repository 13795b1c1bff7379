/- A part of the proof that the named laws of this program answer true, whatever the input. -/
import Derived.OrdersIn
import Derived.Below
import Derived.WalkKit
import Derived.RangeFuncRecord
import Derived.DefersIn
open BitVec renaming ofInt→ah
open Iff renaming rfl→rO
open List renaming rec→dK,replicate→fQ,length_cons→aL
open Nat renaming succ→dX,beq→aX,min→cK,blt→rN,land→gj,lor→bT,pred→rA,eq_of_beq_eq_true→aF
open Option renaming some→bj
namespace Go.Lift
abbrev ae:=Array Obj
def aQ(h:ae)(a:Addr):Option Value:=
 match h[a.block]? with
 |some (.cells c _ _)=>if a.spot.isSome then none else c[a.off]?
 |_=>none
def xw(h:ae)(a:Addr):Bool:=
 match h[a.block]? with
 |some (.cells _ _ (lo,hi))=>lo≤a.off&&a.off<hi
 |_=>false
def hset(h:ae)(a:Addr)(v:Value):ae:=
 h.modify a.block fun
  | .cells c elem frozen=>.cells (if a.spot.isSome then c else c.setIfInBounds a.off v) elem frozen
  |o=>o
noncomputable def adr(a:Addr)(n:Nat):Addr:=Nat.rec (motive:=fun _=>Addr) a (fun n _=>⟨a.block,a.off+dX n,none⟩) n
def Wr(h:ae)(a:Addr):Prop:=(∃v,aQ h a=some v)∧xw h a=false
structure Tame(w w':World):Prop where
 os:w'.os=w.os
 tape:w'.tape=w.tape
 output:w'.output=w.output
structure SliceV where
 a:Option Addr
 len:Nat
 cap:Nat
def Bc:IntKind→IntKind→Bool
 | .i8,.i8=>true| .i16,.i16=>true| .i32,.i32=>true| .i64,.i64=>true
 | .u8,.u8=>true| .u16,.u16=>true| .u32,.u32=>true| .u64,.u64=>true
 |_,_=>false
inductive CK where
 |int (k:IntKind)|bool|str|ptr|slice|map|chan|raw|adr
def CK.den:CK→Type
 | .int _=>Int| .bool=>Bool| .str=>ByteArray| .ptr=>Option Addr| .slice=>SliceV| .map=>Option Nat| .chan=>Option Nat| .raw=>Value| .adr=>Addr
def CK.enc:(c:CK)→c.den→Value
 | .int k,n=>.int k n
 | .bool,b=>.bool b
 | .str,s=>.string s
 | .ptr,p=>.pointer p
 | .slice,s=>.slice s.a s.len s.cap
 | .map,r=>.map r
 | .chan,r=>.chan r
 | .raw,v=>v
 | .adr,a=>.pointer (some a)
def CK.dec:(c:CK)→Value→(c.den→Prop)→Prop
 | .int k,.int k' n,f=>bif Bc k' k then f n else False
 | .bool,.bool b,f=>f b
 | .str,.string s,f=>f s
 | .ptr,.pointer p,f=>f p
 | .slice,.slice a l c,f=>f ⟨a,l,c⟩
 | .map,.map r,f=>f r
 | .chan,.chan r,f=>f r
 | .raw,v,f=>f v
 | .adr,.pointer (some a),f=>f a
 |_,_,_=>False
def Ix:List CK→Type
 | []=>Unit
 | [c]=>c.den
 |c::d::cs=>c.den×Ix (d::cs)
def Ig:(cs:List CK)→Ix cs→List Value
 | [],_=> []
 | [c],x=> [c.enc x]
 |c::d::cs,(x,t)=>c.enc x::Ig (d::cs) t
def Fz:(cs:List CK)→List Value→(Ix cs→Prop)→Prop
 | [],[],f=>f ()
 | [c],[v],f=>c.dec v f
 |c::d::cs,v::u::vs,f=>c.dec v fun x=>Fz (d::cs) (u::vs) fun t=>f (x,t)
 |_,_,_=>False
inductive Kind where
 |c (k:CK)
 |agg (cs:List CK)
def Kind.den:Kind→Type
 | .c k=>k.den
 | .agg cs=>Ix cs
def Kind.enc:(k:Kind)→k.den→Value
 | .c k,x=>k.enc x
 | .agg cs,t=>.agg (Ig cs t).toArray
def Kind.dec:(k:Kind)→Value→(k.den→Prop)→Prop
 | .c k,v,f=>k.dec v f
 | .agg cs,.agg vs,f=>Fz cs vs.toList f
 |_,_,_=>False
def qn:List Kind→Type
 | []=>Unit
 | [k]=>k.den
 |k::l::ks=>k.den×qn (l::ks)
def jC:(ks:List Kind)→qn ks→List Value
 | [],_=> []
 | [k],x=> [k.enc x]
 |k::l::ks,(x,t)=>k.enc x::jC (l::ks) t
def w8:(ks:List Kind)→List Value→(qn ks→Prop)→Prop
 | [],[],f=>f ()
 | [k],[v],f=>k.dec v f
 |k::l::ks,v::u::vs,f=>k.dec v fun x=>w8 (l::ks) (u::vs) fun t=>f (x,t)
 |_,_,_=>False
def wY(ks:List Kind)(vs:List Value):Value:=
 match ks,vs with
 | [_],[v]=>v
 |_,vs=>.tuple vs.toArray
def KF:Value→Option CK
 | .int k _=>some (.int k)
 | .bool _=>some .bool
 | .string _=>some .str
 | .pointer _=>some .ptr
 | .slice .. =>some .slice
 | .map _=>some .map
 | .chan _=>some .chan
 | .nilFunc=>some .raw
 | .nilIface=>some .raw
 |_=>none
def yH:List Value→Option (List CK)
 | []=>some []
 |v::vs=>match KF v,yH vs with
  |some c,some cs=>some (c::cs)
  |_,_=>none
def qm(P:Program)(t:TypeId):Bool:=
 match P.underlying t with
 |some (.struct _)|some (.array _ _)=>true
 |_=>false
def bo(P:Program)(t:TypeId):Nat:=match P.info? t with|some i=>i.size|none=>0
def mC(P:Program)(t:TypeId):Nat:=match P.info? t with|some i=>i.bytes|none=>0
def rY(P:Program)(t:TypeId):Option Value:=match P.info? t with|some i=>i.zero|none=>none
def Fg(P:Program)(t:TypeId):Option Kind:=
 match rY P t with
 |some (.agg vs)=>bif qm P t&&aX vs.toList.length (bo P t)then(match yH vs.toList with|some cs=>some (.agg cs)|none=>none)else none
 |some v=>bif qm P t then none else(match KF v with|some c=>some (.c c)|none=>none)
 |none=>none
def yl(P:Program)(t:TypeId):Option Kind:=
 match P.underlying t with
 |none=>none
 |some _=>Fg P t
structure HC(P:Program)(f:FuncId)(args:List Value)(ks:List Kind)(K:qn ks→ae→Prop)(h:ae):Prop where
 run:∀w:World,w.heap=h→
  ((callFunc f args.toArray).run P w=.ok (.enter f args.toArray) w∧
   Calls P f args.toArray w fun e w'=>Tame w w'∧∃t:qn ks,e=.returned (wY ks (jC ks t))∧K t w'.heap)∨
  (∃v w',(callFunc f args.toArray).run P w=.ok (.value v) w'∧Tame w w'∧∃t:qn ks,v=wY ks (jC ks t)∧K t w'.heap)
structure HE(P:Program)(f:FuncId)(args:List Value)(ks:List Kind)(K:qn ks→ae→Prop)(h:ae):Prop where
 run:∀w:World,w.heap=h→(∀(args:Array Value) (w:World),(callFunc f args).run P w=.ok (.enter f args) w)∧
  Calls P f args.toArray w fun e w'=>Tame w w'∧∃t:qn ks,e=.returned (wY ks (jC ks t))∧K t w'.heap
theorem HE.hc{P:Program}{f:FuncId}{args:List Value}{ks:List Kind}{K:qn ks→ae→Prop}{h:ae}(e:HE P f args ks K h):HC P f args ks K h:=
 ⟨fun w a=>.inl ⟨(e.run w a).1 _ w,(e.run w a).2⟩⟩
structure HY(P:Program)(l:Nat)(args:List Value)(K:Bool→ae→Prop)(h:ae):Prop where
 run:∀w:World,w.heap=h→∃fn tmps assign body,(Instr.yield l args.toArray).run P w=.ok (.round l fn tmps assign body) w∧
  ∀(c:Frame) (cs:List Frame),∃b w',Tame w w'∧K b w'.heap∧Steps P (lone (Frame.round l fn tmps assign body .normal) (c::cs) w) (lone (c.finish (.bool b)) cs w')
structure HV(P:Program)(fv:Value)(args:List Value)(ks:List Kind)(K:qn ks→ae→Prop)(h:ae):Prop where
 run:(∃f first cap,fv=.func (.func f) first cap∧HC P f (first.toList++args++cap.toList) ks K h)∨
  (∃l,fv=.func (.yield l) #[] #[]∧HY P l args (fun b h'=>w8 ks [.bool b] fun t=>K t h') h)
noncomputable def CondP(b:Bool)(t e:Prop):Prop:=Bool.rec (motive:=fun _=>Prop) e t b
theorem CondP.yes{b:Bool}{t e:Prop}(h:CondP b t e)(a:b=true):t:=by subst a;exact h
theorem CondP.no{b:Bool}{t e:Prop}(h:CondP b t e)(a:b=false):e:=by subst a;exact h
theorem CondP.intro{b:Bool}{t e:Prop}(a:b=true→t)(c:b=false→e):CondP b t e:=by cases b;exact c rfl;exact a rfl
theorem aA{t e:Prop}:CondP true t e↔t:=rO
theorem ak{t e:Prop}:CondP false t e↔e:=rO
attribute [irreducible] CondP
def At(h:ae)(k:ae→Prop):Prop:=k h
def Bd{T:Type}(x:T)(k:T→Prop):Prop:=k x
structure Join{T:Type}(rest:T→ae→Prop)(k:(T→ae→Prop)→Prop):Prop where
 run:k rest
structure LoopP{T:Type}(F:(T→ae→Prop)→T→ae→Prop)(t:T)(h:ae):Prop where
 run:∀I:T→ae→Prop,(∀t h,F I t h→I t h)→I t h
abbrev bJ:=List (Nat×Value)
noncomputable def gG(r:bJ)(t:Nat):Option Value:=
 dK (motive:=fun _=>Option Value) none (fun a _ b=>bif aX a.1 t then some a.2 else b) r
theorem ya(k:Nat)(v:Value)(r:bJ)(t:Nat):gG ((k,v)::r) t=bif aX k t then some v else gG r t:=rfl
noncomputable def cp(r:bJ):Operand→Option Value
 | .tmp t=>gG r t
 | .const v=>some v
 | .global g=>some (.pointer (some ⟨g,0,none⟩))
 | .func f=>some (.func (.func f) #[] #[])
noncomputable def j9(r:bJ):List Operand→Option (List Value)
 | []=>some []
 |o::os=>match cp r o,j9 r os with
  |some v,some vs=>some (v::vs)
  |_,_=>none
noncomputable def Bh:List CK→Nat→Addr→ae→(List Value→Prop)→Prop
 | [],_,_,_,k=>k []
 |c::cs,i,a,h,k=>∃x:c.den,aQ h (adr a i)=some (c.enc x)∧Bh cs (i+1) a h fun vs=>k (c.enc x::vs)
noncomputable def oy:List Value→Nat→Addr→ae→Prop
 | [],_,_,_=>True
 | [v],i,a,h=>aQ h (adr a i)=some v
 |v::u::vs,i,a,h=>aQ h (adr a i)=some v∧oy (u::vs) (i+1) a h
abbrev RK:=Value→Option (ae→Prop)→Prop
noncomputable def Cf(P:Program)(t:TypeId)(v:Value)(K:RK)(h:ae):Prop:=
 match v with
 | .pointer (some a)=>
  match yl P t with
  |some (.c c)=>∃x:c.den,aQ h a=some (c.enc x)∧K (c.enc x) (some fun b=>aQ b a=some (c.enc x))
  |some (.agg cs)=>Bh cs 0 a h fun vs=>K (.agg vs.toArray) (some fun b=>oy vs 0 a b)
  |none=>False
 |_=>False
def rd(P:Program)(t:TypeId)(f:Nat):Option (TypeId×Nat):=
 match P.underlying t with
 |some (.struct fs)=>match fs.toList[f]? with
  |some g=>some (g.type,g.offset)
  |none=>none
 |_=>none
def qy(P:Program)(t:TypeId):Option TypeId:=
 match P.underlying t with
 |some (.slice e)=>some e
 |_=>none
def Dm(c:BinOp)(k:IntKind)(a b:Int)(K:RK):Prop:=
 match c with
 | .shl=>0≤b∧K (.int k (k.wrap (a*2^(min b.toNat k.bits)))) none
 | .shr=>0≤b∧K (.int k (a.fdiv (2^(min b.toNat k.bits)))) none
 |_=>False
def Kl(c:BinOp)(k:IntKind)(a b:Int)(K:RK):Prop:=
 match c with
 | .add=>K (.int k (k.wrap (a+b))) none
 | .sub=>K (.int k (k.wrap (a-b))) none
 | .mul=>K (.int k (k.wrap (a*b))) none
 | .quo=>b≠0∧K (.int k (k.wrap (a.tdiv b))) none
 | .rem=>b≠0∧K (.int k (a.tmod b)) none
 | .and=>K (.int k (k.wrap (ah k.bits a&&&ah k.bits b).toNat)) none
 | .or=>K (.int k (k.wrap (ah k.bits a|||ah k.bits b).toNat)) none
 | .xor=>K (.int k (k.wrap (ah k.bits a^^^ah k.bits b).toNat)) none
 | .andNot=>K (.int k (k.wrap (ah k.bits a&&& ~~~ah k.bits b).toNat)) none
 | .eql=>K (.bool (a==b)) none
 | .neq=>K (.bool (a !=b)) none
 | .lss=>K (.bool (decide (a<b))) none
 | .leq=>K (.bool (decide (a≤b))) none
 | .gtr=>K (.bool (decide (a>b))) none
 | .geq=>K (.bool (decide (a≥b))) none
 |_=>False
def JY(c:BinOp)(a b:ByteArray)(K:RK):Prop:=
 match c with
 | .add=>((a.size+b.size:Nat):Int)≤9223372036854775807∧K (.string (a++b)) none
 | .eql=>K (.bool (a.toList==b.toList)) none
 | .neq=>K (.bool (!(a.toList==b.toList))) none
 | .lss=>K (.bool (Op.bytesLess a.toList b.toList)) none
 | .leq=>K (.bool (Op.bytesLess a.toList b.toList||a.toList==b.toList)) none
 | .gtr=>K (.bool (!(Op.bytesLess a.toList b.toList||a.toList==b.toList))) none
 | .geq=>K (.bool (!(Op.bytesLess a.toList b.toList))) none
 |_=>False
def de(h:ae)(a:Addr):Prop:=(∃c e,h[a.block]? =some (.cells c e (0,0))∧0<c.size)
def Ja(P:Program)(t:TypeId)(neg:Bool)(x y:Value)(K:RK):Prop:=
 match P.underlying t,x,y with
 |some (.pointer _),.pointer a,.pointer none=>K (.bool (bif neg then !a.isNone else a.isNone)) none
 |some (.map _ _),.map a,.map none=>K (.bool (bif neg then !a.isNone else a.isNone)) none
 |some (.slice _),.slice a _ _,.slice none _ _=>K (.bool (bif neg then !a.isNone else a.isNone)) none
 |_,_,_=>False
def Kk:Operand→Bool
 | .const (.pointer none)=>true
 | .const (.map none)=>true
 | .const (.slice none 0 0)=>true
 |_=>false
def JH(P:Program)(t:TypeId)(neg:Bool)(x y:Value)(K:RK)(h:ae):Prop:=
 match P.underlying t,x,y with
 |some .bool,.bool a,.bool b=>K (.bool (bif neg then !(a==b)else a==b)) none
 |some (.pointer e),.pointer a,.pointer b=>
  (bif aX (bo P e) 0 then False else True)∧
  (∀x y,a=some x→b=some y→de h x∧de h y)∧
  K (.bool (bif neg then !(a==b)else a==b)) (some fun c=>∀x y,a=some x→b=some y→de c x∧de c y)
 |_,_,_=>False
def Kc(P:Program)(c:BinOp)(t:TypeId)(x y:Value)(K:RK)(h:ae):Prop:=
 match x,y with
 | .int k a,.int k' b=>
  match c with
  | .shl=>Dm .shl k a b K
  | .shr=>Dm .shr k a b K
  |c=>bif Bc k' k then Kl c k a b K else False
 | .string a,.string b=>JY c a b K
 |x,y=>match c with
  | .eql=>JH P t false x y K h
  | .neq=>JH P t true x y K h
  |_=>False
def na(h:ae):List (Option Addr×Option Addr)→Prop
 | []=>True
 |(a,b)::l=>(∀x y,a=some x→b=some y→de h x∧de h y)∧na h l
def HN(P:Program)(t:TypeId)(x y:Value):Option (Bool×List (Option Addr×Option Addr)):=
 match P.underlying t,x,y with
 |some (.int _),.int k a,.int k' b=>bif Bc k' k then some (a==b,[])else none
 |some .bool,.bool a,.bool b=>some (a==b,[])
 |some .string,.string a,.string b=>some (a.toList==b.toList,[])
 |some (.pointer e),.pointer a,.pointer b=>bif aX (bo P e) 0 then none else some (a==b,[(a,b)])
 |_,_,_=>none
def Jl(P:Program)(rec:TypeId→List Value→List Value→Option (Bool×List (Option Addr×Option Addr)))(xs ys:List Value):List Field→Option (Bool×List (Option Addr×Option Addr))
 | []=>some (true,[])
 |f::fs=>
  if f.name= "_" then none else
  bif (P.underlying f.type).isSome&&(P.info? f.type).isSome then
   match(bif qm P f.type then rec f.type ((xs.drop f.offset).take (bo P f.type)) ((ys.drop f.offset).take (bo P f.type))
    else match xs[f.offset]?,ys[f.offset]? with|some x,some y=>HN P f.type x y|_,_=>none),Jl P rec xs ys fs with
   |some (b,l),some (c,m)=>some (b&&c,l++m)
   |_,_=>none
  else none
def HO(P:Program):Nat→TypeId→List Value→List Value→Option (Bool×List (Option Addr×Option Addr))
 |0,_,_,_=>none
 |d+1,t,xs,ys=>match P.underlying t with
  |some (.struct fs)=>bif P.stoodInHeld t then none else Jl P (HO P d) xs ys fs.toList
  |_=>none
def LY(neg b:Bool)(K:RK)(h:ae):List (Option Addr×Option Addr)→Prop
 | []=>K (.bool (bif neg then !b else b)) none
 |p::l=>na h (p::l)∧K (.bool (bif neg then !b else b)) (some fun a=>na a (p::l))
def Kd(P:Program)(a:BinOp)(t:TypeId)(xs ys:List Value)(K:RK)(h:ae):Prop:=
 bif P.eqGuardType P.depth t then False else
 match a with
 | .eql=>(match HO P 10 t xs ys with|some (b,l)=>LY false b K h l|none=>False)
 | .neq=>(match HO P 10 t xs ys with|some (b,l)=>LY true b K h l|none=>False)
 |_=>False
def LJ(a:UnOp)(x:Value)(K:RK):Prop:=
 match a,x with
 | .neg,.int k n=>K (.int k (k.wrap (0-n))) none
 | .xor,.int k n=>K (.int k (k.wrap (ah k.bits (if k.signed then-1 else k.max)^^^ah k.bits n).toNat)) none
 | .not,.bool b=>K (.bool (!b)) none
 |_,_=>False
def cN(s:ByteArray):List Value:=s.data.toList.map fun b=>.int .u8 b.toNat
noncomputable def Row(h:ae)(a:Addr)(vs:List Value):Prop:=∀i v,vs[i]? =some v→aQ h (adr a i)=some v
noncomputable def SRow(h:ae)(a:Option Addr)(n:Nat)(vs:List Value):Prop:=vs.length=n∧(vs= []∨∃b,a=some b∧Row h b vs)
def D1(P:Program)(e:TypeId):Bool:=match P.underlying e with|some (.int .u8)=>true|_=>false
def Kj(P:Program)(s d:TypeId):Bool:=
 match P.underlying s,P.underlying d with
 |some .string,some (.slice e)=>D1 P e
 |_,_=>false
def ByP(e:TypeId)(s:ByteArray)(h:ae)(K:Nat→ae→Prop):Prop:=
 ∀c,s.size≤c→K c (h.push (.cells (cN s++fQ (c-s.size) (Value.int .u8 0)).toArray e (c,c+1)))
noncomputable def Hh(P:Program)(c b:TypeId)(x:Value)(K:RK)(h:ae):Prop:=
 match P.underlying c,P.underlying b,x with
 |some (.int _),some (.int k),.int _ n=>K (.int k (k.wrap n)) none
 |some .string,some .string,.string s=>K (.string s) none
 |some (.slice e),some .string,.slice a n _=>bif D1 P e then∃s:ByteArray,SRow h a n (cN s)∧K (.string s) (some fun d=>SRow d a n (cN s))else False
 |_,_,_=>False
def Ij(v:Option Value)(d y:Nat)(K:Nat→Prop):Prop:=
 match v with
 |none=>K d
 |some (.int _ i)=>(0≤i∧i≤y)∧K i.toNat
 |_=>False
noncomputable def aM(a:Option Addr)(l m size:Nat):Option Addr:=if m=l then a else a.map (adr · (l*size))
def Ht(P:Program)(t:TypeId)(K:Prop):Prop:=match P.info? t with|some _=>K|none=>False
noncomputable def Dy(P:Program)(t:TypeId)(x:Value)(lo hi b:Option Value)(K:RK):Prop:=
 match P.underlying t,x with
 |some .string,.string s=>match b with
  |some _=>False
  |none=>Ij hi s.size s.size fun h=>Ij lo 0 h fun l=>K (.string (s.extract l h)) none
 |some (.slice e),.slice a len cap=>Ht P e (
  match b with
  |none=>Ij hi len cap fun h=>Ij lo 0 h fun l=>K (.slice (aM a l cap (bo P e)) (h-l) (cap-l)) none
  |some m=>match hi with
   |none=>False
   |some hi=>Ij (some m) 0 cap fun m=>Ij (some hi) 0 m fun h=>Ij lo 0 h fun l=>K (.slice (aM a l m (bo P e)) (h-l) (m-l)) none)
 |some (.array n e),.pointer (some a)=>Ht P e (
  match b with
  |none=>Ij hi n n fun h=>Ij lo 0 h fun l=>K (.slice (aM (some a) l n (bo P e)) (h-l) (n-l)) none
  |some _=>False)
 |_,_=>False
noncomputable def zV(r:bJ):Option Operand→Option (Option Value)
 |none=>some none
 |some o=>match cp r o with
  |some v=>some (some v)
  |none=>none
noncomputable def sO(P:Program)(t:TypeId)(x i:Value)(K:RK):Prop:=
 match P.underlying t,x,i with
 |some (.array n e),.pointer (some a),.int _ i=>Ht P e ((0≤i∧i<n)∧K (.pointer (some (adr a (i.toNat*bo P e)))) none)
 |some (.slice e),.slice b len _,.int _ i=>Ht P e ((0≤i∧i<len)∧∃a,b=some a∧K (.pointer (some (adr a (i.toNat*bo P e)))) none)
 |_,_,_=>False
def DB(P:Program)(t:TypeId)(x i:Value)(K:RK):Prop:=
 match P.underlying t,x,i with
 |some .string,.string s,.int _ i=>∃b:UInt8,0≤i∧s[i.toNat]? =some b∧K (.int .u8 b.toNat) none
 |_,_,_=>False
noncomputable def DC(P:Program)(t:TypeId)(x:Value)(f:Nat)(K:RK):Prop:=
 match rd P t f,x with
 |some (u,off),.agg cs=>bif (P.underlying u).isSome&&(P.info? u).isSome then(bif qm P u then K (.agg ((cs.toList.drop off).take (bo P u)).toArray) none
  else(match cs.toList[off]? with|some v=>K v none|none=>False))else False
 |_,_=>False
def JD(c a b:Value)(K:RK):Prop:=
 match c with
 | .bool c=>(match a,b with
  | .bool x,.bool y=>K (.bool (bif c then x else y)) none
  |_,_=>(match c with|true=>K a none|false=>K b none))
 |_=>False
def fg:Value→Value→Bool
 | .int _ a,.int _ b=>a==b
 | .string a,.string b=>a==b
 | .bool a,.bool b=>a==b
 |_,_=>false
def CL(k:Value):List MapEntry→Option Value
 | []=>none
 |e::es=>if fg k e.key then some e.val else CL k es
def ym(c:CK)(es:List MapEntry):Prop:=∀e∈es,∃x:c.den,e.key=c.enc x
def Ew(c:CK)(z:Value)(h:ae)(m:Option Nat)(k v:Value)(a:Bool):Prop:=
 match m with
 |none=>v=z∧a=false
 |some r=>∃es clock,h[r]? =some (.map es clock)∧ym c es.toList∧
  (match CL k es.toList with|some u=>v=u∧a=true|none=>v=z∧a=false)
def CA(P:Program)(t:TypeId):Option (CK×TypeId):=
 match P.underlying t with
 |some (.map k e)=>match P.underlying k with
  |some (.int i)=>some (.int i,e)
  |some .string=>some (.str,e)
  |some .bool=>some (.bool,e)
  |_=>none
 |_=>none
def AR(P:Program)(t:TypeId)(x k:Value)(a:Bool)(K:RK)(h:ae):Prop:=
 match CA P t,x with
 |some (c,e),.map m=>c.dec k fun _=>
  (match yl P e,rY P e with
   |some ek,some z=>∃(y:ek.den) (b:Bool),Ew c z h m k (ek.enc y) b∧
    K (bif a then .tuple #[ek.enc y,.bool b]else ek.enc y) (some fun d=>Ew c z d m k (ek.enc y) b)
   |_,_=>False)
 |_,_=>False
def Iv(h:ae)(m:Option Nat)(n:Nat):Prop:=
 match m with
 |none=>n=0
 |some r=>∃es clock,h[r]? =some (.map es clock)∧n=es.size
def FG(c:Bool)(h:ae)(m:Option Nat)(n:Nat):Prop:=
 match m with
 |none=>n=0
 |some r=>∃cap buf cl s q,h[r]? =some (.chan cap buf cl s q false)∧n=bif c then cap else buf.size
def Ka(P:Program)(t:TypeId)(x:Value)(K:RK)(h:ae):Prop:=
 match P.underlying t,x with
 |some .string,.string s=>K (.int .i64 s.size) none
 |some (.array n _),_=>K (.int .i64 n) none
 |some (.slice _),.slice _ n _=>K (.int .i64 n) none
 |some (.map _ _),.map m=>∃n:Nat,Iv h m n∧K (.int .i64 n) (some fun a=>Iv a m n)
 |some (.chan _ _),.chan m=>∃n:Nat,FG false h m n∧K (.int .i64 n) (some fun a=>FG false a m n)
 |_,_=>False
def Kb(P:Program)(t:TypeId)(x:Value)(K:RK)(h:ae):Prop:=
 match P.underlying t,x with
 |some (.slice _),.slice _ _ n=>K (.int .i64 n) none
 |some (.chan _ _),.chan m=>∃n:Nat,FG true h m n∧K (.int .i64 n) (some fun a=>FG true a m n)
 |_,_=>False
def A8(c:Bool)(k:IntKind):Int→List Value→(Value→Prop)→Prop
 |a,[],f=>f (.int k a)
 |a,.int k' b::vs,f=>bif Bc k' k then A8 c k (bif c then(if b>a then b else a)else(if b<a then b else a)) vs f else False
 |_,_,_=>False
def xq(b:Bool)(vs:List Value)(f:Value→Prop):Prop:=
 match vs with
 | .int k a::vs=>A8 b k a vs f
 |_=>False
def Ey(h:ae)(i:Nat)(e:MapEntry):Prop:=
 ∃m since seen last stamp es,h[i]? =some (.mapIter (some m) since seen last)∧seen.back? =some stamp∧h[m]? =some (.map es last)∧es.find? (fun e=>e.born==stamp)=some e
def mf(P:Program)(t:TypeId):Bool:=match P.underlying t with|some (.interface _)=>false|some _=>true|none=>false
def E4(P:Program)(t:TypeId)(x:Value)(K:RK):Prop:=
 bif mf P t then(match yl P t with
  |some k=>∃y:k.den,x=.iface t (k.enc y)∧K (k.enc y) none
  |none=>False)else False
def Ck(cs:List Value)(off:Nat)(vs:List Value):List Value:=cs.take off++vs++cs.drop (off+vs.length)
def wG(a:Nat→Option (Nat×Nat)):List Value→List (Nat×Value)→Option (List Value)
 |cs,[]=>some cs
 |cs,(i,v)::rest=>match a i with
  |none=>none
  |some (off,size)=>bif aX v.cells.toList.length size&&Nat.ble (off+v.cells.toList.length) cs.length then wG a (Ck cs off v.cells.toList) rest else none
noncomputable def me(r:bJ):List (Nat×Operand)→Option (List (Nat×Value))
 | []=>some []
 |(i,o)::ps=>match cp r o,me r ps with
  |some v,some vs=>some ((i,v)::vs)
  |_,_=>none
def mz(P:Program)(t:TypeId):Option (List Value):=match rY P t with|some z=>some z.cells.toList|none=>none
def cA(n:Nat)(z:List Value):List Value:=(fQ n z).flatten
def rH(P:Program)(t:TypeId):Bool:=match P.info? t with|some _=>true|none=>false
def uq(P:Program):List Field→Bool
 | []=>true
 |f::fs=>bif rH P f.type then uq P fs else false
def DK(P:Program)(a:List Field)(i:Nat):Option (Nat×Nat):=match a[i]? with|some f=>some (f.offset,bo P f.type)|none=>none
def Bq(P:Program)(t:TypeId)(a:List (Nat×Value)):Option (List Value):=
 match P.underlying t,mz P t with
 |some (.struct fs),some z=>bif uq P fs.toList then wG (DK P fs.toList) z a else none
 |some (.array _ e),some z=>bif rH P e then wG (fun i=>some (i*bo P e,bo P e)) z a else none
 |_,_=>none
noncomputable def uY(P:Program)(ek:Option (Kind×Kind))(o:Op)(r:bJ)(K:RK)(h:ae):Prop:=
 match o with
 | .entry it=>match cp r it,ek with
  |some (.pointer (some a)),some (kk,vk)=>a.off=0∧∃(e:MapEntry) (x:kk.den) (y:vk.den),Ey h a.block e∧e.key=kk.enc x∧e.val=vk.enc y∧
    K (.tuple #[kk.enc x,vk.enc y]) (some fun g=>Ey g a.block e)
  |_,_=>False
 | .move x| .assign x=>match cp r x with|some v=>K v none|none=>False
 | .load t a=>match cp r a with|some v=>Cf P t v K h|none=>False
 | .nilCheck x=>match cp r x with|some (.pointer p)=>∃a,p=some a∧K (.pointer (some a)) none|_=>False
 | .binOp op t x y _=>match cp r x,cp r y with
  |some (.agg v),some (.agg u)=>Kd P op t v.toList u.toList K h
  |some v,some u=>(match op,Kk y with
   | .eql,true=>Ja P t false v u K
   | .neq,true=>Ja P t true v u K
   |op,_=>Kc P op t v u K h)
  |_,_=>False
 | .unOp op _ x=>match cp r x with|some v=>LJ op v K|none=>False
 | .convert s d x=>match cp r x with|some v=>Hh P s d v K h|none=>False
 | .pick c a b=>match cp r c,cp r a,cp r b with|some c,some a,some b=>JD c a b K|_,_,_=>False
 | .extract x i=>match cp r x with
  |some (.tuple vs)=>(match vs.toList[i]? with|some v=>K v none|none=>False)
  |_=>False
 | .fieldAddr t x f=>match cp r x,rd P t f with
  |some (.pointer (some a)),some (u,off)=>bif aX (bo P u) 0 then False else K (.pointer (some (adr a off))) none
  |_,_=>False
 | .field t x f=>match cp r x with|some v=>DC P t v f K|none=>False
 | .indexAddr t x i=>match cp r x,cp r i with|some v,some u=>sO P t v u K|_,_=>False
 | .index t x i=>match cp r x,cp r i with|some v,some u=>DB P t v u K|_,_=>False
 | .slice t x lo hi mx=>match cp r x,zV r lo,zV r hi,zV r mx with
  |some v,some l,some g,some m=>Dy P t v l g m K
  |_,_,_,_=>False
 | .lookup t x k ok=>match cp r x,cp r k with|some v,some u=>AR P t v u ok K h|_,_=>False
 | .makeInterface t x=>match cp r x with|some v=>bif mf P t then K (.iface t v) none else False|none=>False
 | .typeAssert x _ t ok=>match cp r x with|some v=>bif ok then False else E4 P t v K|none=>False
 | .build t ps=>match me r ps.toList with
  |some vs=>(match Bq P t vs with|some cs=>K (.agg cs.toArray) none|none=>False)
  |none=>False
 | .makeFunc fn first cap=>match j9 r first.toList,j9 r cap.toList with
  |some vs,some us=>K (.func fn vs.toArray us.toArray) none
  |_,_=>False
 | .call c=>match c.callee,j9 r c.args.toList,c.argTypes.toList with
  | .builtin .len,some [v],[t]=>Ka P t v K h
  | .builtin .cap,some [v],[t]=>Kb P t v K h
  | .builtin .min,some vs,_=>xq false vs fun v=>K v none
  | .builtin .max,some vs,_=>xq true vs fun v=>K v none
  |_,_,_=>False
 |_=>False
abbrev WK:=Value→ae→Prop
def aU(h:ae):Addr:=⟨h.size,0,none⟩
def hnew(h:ae)(cs:List Value)(t:TypeId):ae:=h.push (.cells cs.toArray t (0,0))
def bE:List Value→Bool
 | []=>true
 |v::vs=>(match v with| .agg _=>false| .tuple _=>false|_=>true)&&bE vs
noncomputable def fi(h:ae)(a:Addr):Nat→List Value→ae
 |_,[]=>h
 |i,v::vs=>fi (hset h (adr a i) v) a (i+1) vs
noncomputable def dV(h:ae)(a:Option Addr)(i:Nat)(vs:List Value):ae:=match a with|some a=>fi h a i vs|none=>h
noncomputable def ph(h:ae)(a:Option Addr)(i:Nat)(vs:List Value):Prop:=vs= []∨∃b,a=some b∧∀j,j<vs.length→Wr h (adr b (i+j))
noncomputable def De(P:Program)(t:TypeId)(a v:Value)(K:WK)(h:ae):Prop:=
 match a with
 | .pointer (some a)=>bif aX v.cells.toList.length (bo P t)&&bE v.cells.toList then Ht P t
   (match v.cells.toList with
    | [v]=>Wr h a∧K undef (hset h a v)
    |vs=>ph h (some a) 0 vs∧K undef (fi h a 0 vs))
  else False
 |_=>False
noncomputable def Im(P:Program)(e:TypeId)(a:Option Addr)(sl c b:Nat)(xs:List Value)(K:WK)(h:ae):Prop:=
 (sl+b≤c→ph h a (sl*bo P e) xs∧bE xs=true∧K (.slice a (sl+b) c) (dV h a (sl*bo P e) xs))∧
 (c<sl+b→∃old z,SRow h a (sl*bo P e) old∧mz P e=some z∧0<mC P e∧Builtin.nextslicecap (sl+b) c*mC P e≤2^48∧
  ∀nc,sl+b≤nc→K (.slice (some (aU h)) (sl+b) nc) (hnew h (old++xs++cA (nc-(sl+b)) z) e))
noncomputable def xh(P:Program)(t:TypeId)(s x:Value)(K:WK)(h:ae):Prop:=
 match qy P t,s,x with
 |some e,.slice b sl sc,.slice a xl _=>Ht P e (∃xs,SRow h a (xl*bo P e) xs∧Im P e b sl sc xl xs K h)
 |some e,.slice b sl sc,.string x=>bif aX (bo P e) 1 then Im P e b sl sc x.size (cN x) K h else False
 |_,_,_=>False
noncomputable def xI(P:Program)(t:TypeId)(s x:Value)(K:WK)(h:ae):Prop:=
 match qy P t,s,x with
 |some e,.slice b sl sc,.int _ l=>(match mz P e with
  |some z=>bif aX z.length (bo P e)then(0≤l∧l*mC P e≤2^48∧l≤9223372036854775807∧((sl+l.toNat:Nat):Int)≤9223372036854775807)∧Im P e b sl sc l.toNat (cA l.toNat z) K h else False
  |none=>False)
 |_,_,_=>False
noncomputable def Df(P:Program)(t:TypeId)(x:Value)(K:WK)(h:ae):Prop:=
 match qy P t,x with
 |some e,.slice a n _=>(match mz P e with
  |some z=>bif bE z then ph h a 0 (cA n z)∧K (.tuple #[]) (dV h a 0 (cA n z))else False
  |none=>False)
 |_,_=>False
noncomputable def GV(P:Program)(t:TypeId)(d s:Value)(K:WK)(h:ae):Prop:=
 match qy P t,d,s with
 |some e,.slice b dl _,.slice a sl _=>Ht P e (∃xs,SRow h a (cK sl dl*bo P e) xs∧ph h b 0 xs∧bE xs=true∧K (.int .i64 (cK sl dl)) (dV h b 0 xs))
 |some e,.slice b dl _,.string x=>bif aX (bo P e) 1 then ph h b 0 ((cN x).take dl)∧K (.int .i64 (cK x.size dl)) (dV h b 0 ((cN x).take dl))else False
 |_,_,_=>False
def DG(k v:Value)(a:Nat):List MapEntry→List MapEntry×Nat
 | []=>([{key:=k,val:=v,born:=a}],a+1)
 |e::es=>if fg k e.key then({e with key:=k,val:=v}::es,a)else let r:=DG k v a es;(e::r.1,r.2)
def CR(k:Value):List MapEntry→List MapEntry
 | []=> []
 |e::es=>if fg k e.key then es else e::CR k es
def FF(c:CK)(h:ae)(r:Nat):Prop:=∃es clock,h[r]? =some (.map es clock)∧ym c es.toList
def Jc(h:ae)(r:Nat)(k v:Value):ae:=
 match h[r]? with
 |some (.map es clock)=>h.setIfInBounds r (.map (DG k v clock es.toList).1.toArray (DG k v clock es.toList).2)
 |_=>h
def Fe(h:ae)(r:Nat)(k:Value):ae:=
 match h[r]? with
 |some (.map es clock)=>h.setIfInBounds r (.map (CR k es.toList).toArray clock)
 |_=>h
def xg(P:Program)(t:TypeId)(m k v:Value)(K:WK)(h:ae):Prop:=
 match CA P t,m with
 |some (c,_),.map m=>c.dec k fun _=>∃r,m=some r∧FF c h r∧K undef (Jc h r k v)
 |_,_=>False
def xG(P:Program)(t:TypeId)(m k:Value)(K:WK)(h:ae):Prop:=
 match CA P t,m with
 |some (c,_),.map m=>c.dec k fun _=>(m=none∧K (.tuple #[]) h)∨(∃r,m=some r∧FF c h r∧K (.tuple #[]) (Fe h r k))
 |_,_=>False
def Hf(P:Program):List TypeId→Option (List Kind)
 | []=>some []
 |t::ts=>match yl P t,Hf P ts with
  |some k,some ks=>some (k::ks)
  |_,_=>none
def Hg(P:Program)(t:TypeId):Option (List Kind):=
 match P.underlying t with
 |some (.tuple ts)=>Hf P ts.toList
 |_=>Hf P [t]
noncomputable def Jx(P:Program)(f:Operand)(r:bJ)(args:List Value)(t:TypeId)(K:WK)(h:ae):Prop:=
 match Hg P t with
 |none=>False
 |some ks=>match f with
  | .func f=>HC P f args ks (fun x a=>K (wY ks (jC ks x)) a) h
  |f=>match cp r f with
   |some fv=>HV P fv args ks (fun x a=>K (wY ks (jC ks x)) a) h
   |none=>False
def GU(it:Value)(K:WK)(h:ae):Prop:=
 match it with
 | .pointer (some a)=>a.off=0∧
  ∃m since seen last,h[a.block]? =some (.mapIter m since seen last)∧
   ((m=none∧K (.tuple #[.bool false]) h)∨
    (∃r es clock,m=some r∧h[r]? =some (.map es clock)∧(seen.isEmpty=true∨es.isEmpty=true∨es.all (fun e=>decide (e.born≥last))=false)∧
     ((∀e∈es.toList,e.born<since→seen.contains e.born=true)→K (.tuple #[.bool false]) h)∧
     (∀e∈es.toList,seen.contains e.born=false→K (.tuple #[.bool true,e.key,e.val]) (h.setIfInBounds a.block (.mapIter (some r) since (seen.push e.born) clock)))))
 |_=>False
noncomputable def y6(P:Program)(o:Oper)(r:bJ)(K:WK)(h:ae):Prop:=
 match o.op with
 | .alloc t=>(match mz P t with|some z=>K (.pointer (some (aU h))) (hnew h z t)|none=>False)
 | .box t x=>(match cp r x with|some v=>K (.pointer (some (aU h))) (hnew h v.cells.toList t)|none=>False)
 | .build t ps=>(match me r ps.toList with
  |some vs=>(match Bq P t vs with|some cs=>K (.agg cs.toArray) h|none=>False)
  |none=>False)
 | .buildSlice t n ps=>(match qy P t,me r ps.toList with
  |some e,some vs=>(match mz P e with
   |some z=>bif Nat.ble (n*bo P e) 16777216&&aX z.length (bo P e)then
     (match wG (fun i=>some (i*bo P e,bo P e)) (cA n z) vs with|some cs=>K (.slice (some (aU h)) n n) (hnew h cs e)|none=>False)
    else False
   |none=>False)
  |_,_=>False)
 | .store t a x=>(match cp r a,cp r x with|some a,some v=>De P t a v K h|_,_=>False)
 | .mapUpdate t m k x=>(match cp r m,cp r k,cp r x with|some m,some k,some v=>xg P t m k v K h|_,_,_=>False)
 | .insert t m k x=>(match cp r m,cp r k,cp r x with|some m,some k,some v=>xg P t m k v K h|_,_,_=>False)
 | .makeMap t n=>(match n with
  |none=>K (.map (some h.size)) (h.push (.map #[] 0))
  |some n=>(match cp r n,P.underlying t with|some (.int _ _),some (.map _ _)=>K (.map (some h.size)) (h.push (.map #[] 0))|_,_=>False))
 | .makeSlice t l c=>(match qy P t,cp r l,cp r c with
  |some e,some (.int _ l),some (.int _ c)=>(match mz P e with
   |some z=>bif aX z.length (bo P e)then(0≤l∧l≤c∧c≤9223372036854775807∧mC P e*c≤2^48)∧K (.slice (some (aU h)) l.toNat c.toNat) (hnew h (cA c.toNat z) e)else False
   |none=>False)
  |_,_,_=>False)
 | .convert s d x=>(match P.underlying s,P.underlying d,cp r x with
  |some .string,some (.slice e),some (.string v)=>bif D1 P e then ByP e v h (fun c b=>K (.slice (some (aU h)) v.size c) b)else False
  |_,_,_=>False)
 | .range t x=>(match P.underlying t,cp r x with
  |some (.map _ _),some (.map m)=>∃clock,(m=none∧clock=0∨∃r es,m=some r∧h[r]? =some (.map es clock))∧K (.pointer (some (aU h))) (h.push (.mapIter m clock #[] clock))
  |_,_=>False)
 | .next it false=>(match cp r it with|some it=>GU it K h|none=>False)
 | .call c=>(match c.callee,j9 r c.args.toList with
  | .builtin .append,some [s,x]=>(match c.argTypes.toList with| [t,u]=>(match P.underlying u with|some (.slice _)=>xh P t s x K h|some .string=>xh P t s x K h|some (.int _)=>xI P t s x K h|_=>False)|_=>False)
  | .builtin .clear,some [x]=>(match c.argTypes.toList with| [t]=>Df P t x K h|_=>False)
  | .builtin .copy,some [d,s]=>(match c.argTypes.toList with| [t,_]=>GV P t d s K h|_=>False)
  | .builtin .delete,some [m,k]=>(match c.argTypes.toList with| [t,_]=>xG P t m k K h|_=>False)
  | .value f,some args=>Jx P f r args o.type K h
  |_,_=>False)
 |_=>False
def qz(P:Program):Op→Bool
 | .convert s d _=> !Kj P s d
 | .alloc _| .box .. | .buildSlice .. | .store .. | .mapUpdate .. | .insert .. | .makeMap .. | .makeSlice .. | .range .. | .next .. =>false
 | .call c=>match c.callee with
  | .builtin .len| .builtin .cap| .builtin .min| .builtin .max=>true
  |_=>false
 |_=>true
def tc(N:Nat)(o:Oper)(v:Value)(r:bJ)(K:bJ→Prop):Prop:=
 match o.dst with
 |none=>K r
 |some d=>bif rN d N then K ((d,v)::r)else False
noncomputable def KP(P:Program)(N:Nat)(ek:Option (Kind×Kind))(o:Oper)(r:bJ)(K:bJ→ae→Prop)(h:ae):Prop:=
 bif qz P o.op then uY P ek o.op r (fun v _=>tc N o v r fun a=>K a h) h
 else y6 P o r (fun v b=>tc N o v r fun a=>K a b) h
inductive DV where
 |f|t|u|x
abbrev pT:=List (Nat×DV)
noncomputable def mN(d:pT)(t:Nat):DV:=
 dK (motive:=fun _=>DV) .x (fun a _ b=>bif aX a.1 t then a.2 else b) d
noncomputable def uj(d:pT):Operand→DV
 | .tmp t=>mN d t
 | .const (.bool true)=>.t
 | .const (.bool false)=>.f
 |_=>.x
noncomputable def BM(d:pT):Op→DV
 | .move x=>uj d x
 | .assign x=>uj d x
 | .pick c a b=>match uj d c with
  | .t=>uj d a
  | .f=>uj d b
  |_=>.x
 | .unOp .not _ x=>match uj d x with
  | .t=>.f
  | .f=>.t
  |_=>.x
 |_=>.x
def mZ(d:pT)(o:Oper)(v:DV):pT:=match o.dst with|some t=>(t,v)::d|none=>d
noncomputable def fT(ops:List Oper)(d:pT)(o:Oper):Option Bool:=
 match o.guard with
 |none=>some true
 |some (j,want)=>match ops[j]? with
  |none=>none
  |some oj=>match oj.dst with
   |none=>none
   |some t=>match mN d t with
    | .t=>some want
    | .f=>some (!want)
    | .u=>some false
    | .x=>none
def yu(ops:List Oper)(o:Oper):Option Nat:=
 match o.guard with
 |none=>none
 |some (j,_)=>match ops[j]? with
  |none=>none
  |some oj=>oj.dst
noncomputable def zL(P:Program)(N:Nat)(ek:Option (Kind×Kind))(ops:List Oper)(o:Oper)(d:pT)(r:bJ)(h:ae)(K:pT→bJ→ae→Prop):Prop:=
 match fT ops d o with
 |some true=>KP P N ek o r (K (mZ d o (BM d o.op))) h
 |some false=>tc N o undef r fun a=>K (mZ d o .u) a h
 |none=>False
noncomputable def xY(P:Program)(N:Nat)(ek:Option (Kind×Kind))(ops:List Oper)(l:List Oper):pT→(bJ→ae→Prop)→bJ→ae→Prop:=
 dK (motive:=fun _=>pT→(bJ→ae→Prop)→bJ→ae→Prop) (fun _ K r h=>K r h)
  (fun o _ e d K r h=>
  match fT ops d o with
  |some true=>KP P N ek o r (fun a c=>e (mZ d o (BM d o.op)) K a c) h
  |some false=>tc N o undef r fun a=>e (mZ d o .u) K a h
  |none=>match yu ops o with
   |none=>False
   |some t=>match gG r t with
    |some (.bool b)=>CondP b
     (zL P N ek ops o ((t,.t)::d) ((t,.bool true)::r) h fun f a c=>e f K a c)
     (zL P N ek ops o ((t,.f)::d) ((t,.bool false)::r) h fun f a c=>e f K a c)
    |_=>False) l
inductive DA where
 |done
 |take (i:Nat) (rest:DA)
 |all (l:DA)
 |pick (i:Nat) (rest more:DA)
 |last (i:Nat) (rest:DA)
 |lastT (i:Nat) (rest:DA)
 |split (t:Nat) (yes no:DA)
abbrev mE:=List (Nat×(ae→Prop))
def tb(m i:Nat):Bool:=aX (gj (Nat.shiftRight m i) 1) 1
def eX(i:Nat):Nat:=Nat.pow 2 i
inductive DM where
 |mk (am fr lk ds:Nat)
def DM.am:DM→Nat| .mk a _ _ _=>a
def DM.fr:DM→Nat| .mk _ f _ _=>f
def DM.lk:DM→Nat| .mk _ _ l _=>l
def DM.ds:DM→Nat| .mk _ _ _ d=>d
def fU(o:Oper)(i:Nat):Bool:=o.after.toList.any fun e=>aX e.on i&&Region.binds .any e
noncomputable def jo(l:List Edge):Nat:=
 dK (motive:=fun _=>Nat) 0 (fun e _ a=>bif Region.binds .any e then bT (eX e.on) a else a) l
noncomputable def iC(l:List Operand):Nat:=
 dK (motive:=fun _=>Nat) 0 (fun o _ a=>match o with| .tmp t=>bT (eX t) a|_=>a) l
def j1(o:Oper):Nat:=match o.dst with|some d=>eX d|none=>0
noncomputable def kB(ops:List Oper)(o:Oper):Nat:=
 bT (iC o.op.operands.toList) (match o.guard with
  |some (g,_)=>(match ops[g]? with|some og=>j1 og|none=>0)
  |none=>0)
noncomputable def qT(ops:List Oper)(l:List Oper):List DM→Bool:=
 dK (motive:=fun _=>List DM→Bool) (fun ms=>match ms with| []=>true|_=>false)
  (fun o _ a ms=>match ms with
   |m::ms=>aX (jo o.after.toList) m.am&&aX (kB ops o) m.lk&&aX (j1 o) m.ds&&a ms
   | []=>false) l
def vK(x y:DM):Bool:=aX (gj x.ds (bT y.lk y.ds)) 0&&aX (gj y.ds x.lk) 0
noncomputable def Ak(i:Nat)(m:DM)(l:List DM):Nat→Bool:=
 dK (motive:=fun _=>Nat→Bool) (fun _=>true)
  (fun n _ a j=>(!(tb m.fr j)||aX j i||tb n.am i||vK m n)&&a (dX j)) l
noncomputable def uh(a:List DM)(l:List DM):Nat→Bool:=
 dK (motive:=fun _=>Nat→Bool) (fun _=>true) (fun m _ b i=>Ak i m a 0&&b (dX i)) l
def Cw:List Oper→Bool
 | []=>true
 |o::os=>(match o.op with| .select .. =>false| .defer _=>false|_=>true)&&Cw os
noncomputable def xt(ops:List Oper)(ms:List DM):Bool:=qT ops ops ms&&uh ms ms 0&&Cw ops
def kH(o:Oper):mE→mE
 | []=> []
 |(k,S)::l=>bif fU o k then kH o l else(k,S)::kH o l
def nh:mE→ae→Prop→Prop
 | [],_,R=>R
 |(_,S)::l,h,R=>S h∧nh l h R
def BK(m:DM)(ls:Nat):Bool:=aX (gj m.am ls) m.am
noncomputable def iH(ls:Nat)(l:List DM):Nat→List Nat:=
 dK (motive:=fun _=>Nat→List Nat) (fun _=> []) (fun m _ a j=>bif !(tb ls j)&&BK m ls then j::a (dX j)else a (dX j)) l
def xP(m:DM)(i ls n:Nat):Bool:= !(tb ls i)&&BK m ls&&aX (gj (bT ls m.fr) (rA (eX n))) (rA (eX n))
def qd:List Nat→List Nat→Bool
 | [],[]=>true
 |a::as,b::bs=>aX a b&&qd as bs
 |_,_=>false
def vu:DA→List Nat
 | .pick i _ l=>i::vu l
 | .last i _=> [i]
 | .lastT i _=> [i]
 |_=> []
noncomputable def FS(P:Program)(N:Nat)(ops:List Oper)(i:Nat)(L:mE)(d:pT)(r:bJ)(h:ae)(K:mE→pT→bJ→ae→Prop):Prop:=
 match ops[i]? with
 |none=>False
 |some o=>match fT ops d o with
  |some true=>bif qz P o.op then uY P none o.op r (fun v _=>tc N o v r fun a=>nh (kH o L) h (K (kH o L) (mZ d o .x) a h)) h else y6 P o r (fun v b=>tc N o v r fun a=>nh (kH o L) b (K (kH o L) (mZ d o .x) a b)) h
  |_=>False
noncomputable def upM(m:Nat)(l:List DM):Nat→Nat:=
 dK (motive:=fun _=>Nat→Nat) (fun _=>m) (fun n _ a j=>bif tb m j then bT n.am (a (dX j))else a (dX j)) l
noncomputable def uk(ms:List DM)(m:Nat):Nat:=upM (upM (upM (upM m ms 0) ms 0) ms 0) ms 0
def Bx(ms:List DM)(i:Nat):Nat:=match ms[i]? with|some m=>m.am|none=>0
def tV(m:Nat):mE→mE
 | []=> []
 |(k,S)::l=>bif tb m k then tV m l else(k,S)::tV m l
noncomputable def E2(P:Program)(N:Nat)(ops:List Oper)(ms:List DM)(i:Nat)(L:mE)(d:pT)(r:bJ)(h:ae)(K:mE→pT→bJ→ae→Prop):Prop:=
 match ops[i]? with
 |none=>False
 |some o=>match fT ops d o with
  |some true=>bif qz P o.op then False else y6 P o r (fun v a=>tc N o v r fun b=>nh (tV (uk ms (Bx ms i)) L) a (K (tV (uk ms (Bx ms i)) L) (mZ d o .x) b a)) h
  |_=>False
noncomputable def jK(P:Program)(N:Nat)(ops:List Oper)(ms:List DM)(k:DA):Bool→Nat→mE→pT→(bJ→ae→Prop)→bJ→ae→Prop:=
 DA.rec (motive:=fun _=>Bool→Nat→mE→pT→(bJ→ae→Prop)→bJ→ae→Prop)
  (fun m ls _ _ K r h=>bif !m&&qd (iH ls ms 0) []then K r h else False)
  (fun i _ c m ls L d K r h=>
   match ops[i]?,ms[i]? with
   |some o,some mi=>bif !m&&xP mi i ls ops.length then
     (match fT ops d o with
      |none=>False
      |some false=>tc N o undef r fun a=>c false (bT ls (eX i)) L (mZ d o .u) K a h
      |some true=>bif qz P o.op then
       uY P none o.op r (fun v S=>tc N o v r fun a=>match S with
        |none=>c false (bT ls (eX i)) L (mZ d o (BM d o.op)) K a h
        |some S=>c false (bT ls (eX i)) ((i,S)::L) (mZ d o (BM d o.op)) K a h) h
       else False)
    else False
   |_,_=>False)
  (fun l c m ls L d K r h=>bif !m&&qd (iH ls ms 0) (vu l)then c true ls L d K r h else False)
  (fun i _ _ f e m ls L d K r h=>bif m then FS P N ops i L d r h (fun L' g a j=>f false (bT ls (eX i)) L' g K a j)∧e true ls L d K r h else False)
  (fun i _ c m ls L d K r h=>bif m then FS P N ops i L d r h (fun L' g a j=>c false (bT ls (eX i)) L' g K a j)else False)
  (fun i _ c m ls L d K r h=>bif m then E2 P N ops ms i L d r h (fun L' g a j=>c false (bT ls (eX i)) L' g K a j)else False)
  (fun t _ _ f e m ls L d K r h=>
   bif m then False else match gG r t with
   |some (.bool b)=>CondP b (f false ls L ((t,.t)::d) K ((t,.bool true)::r) h) (e false ls L ((t,.f)::d) K ((t,.bool false)::r) h)
   |_=>False)
  k
noncomputable def LW(b:Oper)(i:Nat)(ds lk:Nat)(ops:List Oper)(l:List Oper):Nat→Nat:=
 dK (motive:=fun _=>Nat→Nat) (fun _=>0) (fun p _ a j=>bif (aX j i||fU p i||(aX (gj ds (bT (kB ops p) (j1 p))) 0&&aX (gj (j1 p) lk) 0))then bT (eX j) (a (dX j))else a (dX j)) l
noncomputable def LM(ops:List Oper)(l:List Oper):Nat→List DM:=
 dK (motive:=fun _=>Nat→List DM) (fun _=> []) (fun o _ a i=>.mk (jo o.after.toList) (LW o i (j1 o) (kB ops o) ops ops 0) (kB ops o) (j1 o)::a (dX i)) l
def KY(P:Program)(w:Option Bool)(o:Oper):Bool:=match w with|some false=>true|some true=>qz P o.op|none=>false
noncomputable def Kq(P:Program)(ops:List Oper)(d:pT)(ls n:Nat)(l:List Oper):List DM→Nat→Option (Nat×Oper):=
 dK (motive:=fun _=>List DM→Nat→Option (Nat×Oper)) (fun _ _=>none)
  (fun o _ a ms j=>match ms with
   | []=>none
   |m::ms=>bif xP m j ls n&&KY P (fT ops d o) o then some (j,o)else a ms (dX j)) l
noncomputable def Kr(ops:List Oper)(d:pT)(ls:Nat)(l:List Oper):List DM→Nat→Option Nat:=
 dK (motive:=fun _=>List DM→Nat→Option Nat) (fun _ _=>none)
  (fun o _ a ms j=>match ms with
   | []=>none
   |m::ms=>match bif !(tb ls j)&&BK m ls then(match fT ops d o with|none=>yu ops o|some _=>none)else none with
    |some t=>some t
    |none=>a ms (dX j)) l
noncomputable def Lb(ops:List Oper)(k:Nat→pT→DA)(ls:Nat)(d:pT)(l:List Nat):DA:=
 dK (motive:=fun _=>DA) .done (fun i a b=>match ops[i]? with
  |none=>.done
  |some o=>match a with
   | []=>.last i (k (bT ls (eX i)) (mZ d o .x))
   |_=>.pick i (k (bT ls (eX i)) (mZ d o .x)) b) l
noncomputable def KG(P:Program)(ops:List Oper)(ms:List DM)(fuel:Nat):Nat→pT→DA:=
 Nat.rec (motive:=fun _=>Nat→pT→DA) (fun _ _=>.done) (fun _ a ls d=>
  match Kq P ops d ls ops.length ops ms 0 with
  |some (i,o)=>.take i (a (bT ls (eX i)) (match fT ops d o with|some false=>mZ d o .u|_=>mZ d o (BM d o.op)))
  |none=>match Kr ops d ls ops ms 0 with
   |some t=>.split t (a ls ((t,.t)::d)) (a ls ((t,.f)::d))
   |none=>match iH ls ms 0 with
    | []=>.done
    |l=>.all (Lb ops a ls d l)) fuel
noncomputable def Fb(ops:List Oper):List DM:=LM ops ops 0
inductive Ex where
 |exit (id:Nat)
 |ret
abbrev St:=List (Nat×Kind)
def sJ:St→List Kind
 | []=> []
 |(_,k)::l=>k::sJ l
noncomputable def xU(r:bJ):St→Option (List Value)
 | []=>some []
 |(i,_)::l=>match gG r i,xU r l with
  |some v,some vs=>some (v::vs)
  |_,_=>none
noncomputable def wn(a:St)(r:bJ)(f:qn (sJ a)→Prop):Prop:=
 match xU r a with
 |some vs=>w8 (sJ a) vs f
 |none=>False
def jV:St→List Value→bJ→bJ
 |(i,_)::l,v::vs,r=>(i,v)::jV l vs r
 |_,_,r=>r
noncomputable def Fh(r:bJ)(l:List Nat):Option bJ:=
 dK (motive:=fun _=>Option bJ) (some []) (fun t _ a=>match gG r t,a with
  |some v,some l=>some ((t,v)::l)
  |_,_=>none) l
noncomputable def iB(t:Nat)(l:List Oper):Bool:=
 dK (motive:=fun _=>Bool) false (fun o _ a=>match o.dst with|some d=>bif aX d t then true else a|none=>a) l
noncomputable def eE(t:Nat)(c:Code):Bool:=
 Code.rec (motive:=fun _=>Bool) false (fun _ ops _=>iB t ops.toList) (fun _ _ a b=>bif a then true else b) (fun _ _ _ a b=>bif a then true else b)
  (fun _ _ b=>b) (fun _ b=>b) (fun _ _ _ _ _ _=>true) (fun _=>false) (fun _ b=>b) (fun _=>false) (fun _=>false) false (fun _=>false) c
inductive Ann where
 |nil
 |node (a b:Ann)
 |join (st:St) (a b:Ann)
 |loop (st:St) (b:Ann)
 |draw (d:DA)
 |kinds (k v:Kind)
 |reg (keep:List Nat) (inner:Ann)
 |rf (ks:List Kind) (a b:Ann)
def Ann.l:Ann→Ann
 | .node a _=>a
 | .rf _ a _=>a
 |_=>.nil
def Ann.r:Ann→Ann
 | .node _ b=>b
 | .rf _ _ b=>b
 |_=>.nil
noncomputable def GT(l:List Oper):Nat:=dK (motive:=fun _=>Nat) 0 (fun o _ a=>bT (j1 o) a) l
def Lc:Option Nat→Option Nat→Option Nat
 |some a,some b=>some (bT a b)
 |_,_=>none
noncomputable def rZ(c:Code):Option Nat:=
 Code.rec (motive:=fun _=>Option Nat) (some 0) (fun _ ops _=>some (GT ops.toList)) (fun _ _ a b=>Lc a b) (fun _ _ _ a b=>Lc a b)
  (fun _ _ b=>b) (fun _ b=>b) (fun _ _ _ _ _ _=>none) (fun _=>some 0) (fun _ b=>b) (fun _=>some 0) (fun _=>some 0) (some 0) (fun _=>some 0) c
noncomputable def qX(m:Nat)(r:bJ):bJ:=dK (motive:=fun _=>bJ) [] (fun b _ a=>bif tb m b.1 then a else b::a) r
noncomputable def vh(P:Program)(N:Nat)(ops:List Oper)(b:Bool)(a:Ann)(Kn:bJ→ae→Prop)(r:bJ)(h:ae):Prop:=
 match b with
 |false=>(match a with
  | .kinds kk vk=>xY P N (some (kk,vk)) ops ops [] Kn r h
  |_=>xY P N none ops ops [] Kn r h)
 |true=>bif xt ops (Fb ops)then jK P N ops (Fb ops) (match a with| .draw da=>da|_=>KG P ops (Fb ops) (Nat.add (Nat.add ops.length ops.length) 2) 0 []) false 0 [] [] Kn r h else False
noncomputable def gX(P:Program)(N:Nat)(c:Code):Ann→(bJ→ae→Prop)→(Ex→bJ→ae→Prop)→bJ→ae→Prop:=
 Code.rec (motive:=fun _=>Ann→(bJ→ae→Prop)→(Ex→bJ→ae→Prop)→bJ→ae→Prop)
  (fun _ Kn _ r h=>Kn r h)
  (fun _ ops q d Kn _ r h=>match d with
   | .reg keep d=>vh P N ops.toList q d (fun g f=>match Fh g keep with|some r0=>Kn r0 f|none=>False) r h
   |d=>vh P N ops.toList q d Kn r h)
  (fun a _ k j d Kn Kx r h=>match d with
   | .join st aa ab=>(match rZ a with
     |none=>False
     |some m=>Join (T:=qn (sJ st)) (fun t f=>j ab Kn Kx (jV st (jC (sJ st) t) (qX m r)) f)
      fun J=>k aa (fun g f=>wn st g fun t=>J t f) Kx r h)
   |d=>k d.l (fun g f=>j d.r Kn Kx g f) Kx r h)
  (fun c _ _ k j d Kn Kx r h=>match cp r c with
   |some (.bool t)=>CondP t (k d.l Kn Kx r h) (j d.r Kn Kx r h)
   |_=>False)
  (fun id _ o d Kn Kx r h=>o d Kn (fun e g f=>match e with
    | .exit i=>bif aX i id then Kn g f else Kx (.exit i) g f
    | .ret=>Kx .ret g f) r h)
  (fun b o d _ Kx r h=>match d with
   | .loop st ab=>(match rZ b with
     |none=>False
     |some m=>wn st r fun u=>LoopP (T:=qn (sJ st)) (fun n t f=>o ab (fun g p=>wn st g fun s=>n s p) Kx (jV st (jC (sJ st) t) (qX m r)) f) u h)
   |_=>False)
  (fun _ _ _ _ _ _ _ _ _ _ _=>False)
  (fun id _ _ Kx r h=>Kx (.exit id) r h)
  (fun _ _ _ _ _ _ _=>False)
  (fun _ _ Kn _ r h=>Kn r h)
  (fun _ _ _ _ _ _=>False)
  (fun _ _ Kx r h=>Kx .ret r h)
  (fun _ _ _ _ _ _=>False)
  c
noncomputable def jX(P:Program)(r:bJ)(h:ae):List ResultVar→(List Value→Prop)→Prop
 | [],K=>K []
 | .tmp t::l,K=>(match gG r t with|some v=>jX P r h l fun vs=>K (v::vs)|none=>False)
 | .cell a t::l,K=>(match gG r a with
  |some v=>Cf P t v (fun x _=>jX P r h l fun vs=>K (x::vs)) h
  |none=>False)
def l5:Nat→List Value→bJ
 |_,[]=> []
 |i,v::vs=>(i,v)::l5 (i+1) vs
noncomputable def B5(P:Program)(fn:Func)(c:Code)(b:Ann)(args:List Value)(ks:List Kind)(K:qn ks→ae→Prop)(h:ae):Prop:=
 gX P fn.ntmps c b
  (fun r a=>jX P r a fn.results.toList fun vs=>w8 ks vs fun t=>K t a)
  (fun e r a=>match e with
   | .ret=>jX P r a fn.results.toList fun vs=>w8 ks vs fun t=>K t a
   | .exit _=>False)
  (l5 0 args) h
def yG:List Oper→Option (Oper×Oper×Operand×Nat×FuncId×List Operand)
 | [m,o]=>match m.op,m.guard,m.dst,o.op,o.dst,o.guard with
  | .move x,none,some d,.defer c,none,none=>(match c.callee with
   | .value (.func f)=>some (m,o,x,d,f,c.args.toList)
   |_=>none)
  |_,_,_,_,_,_=>none
 |_=>none
inductive Mk where
 |it (n:Nat)
 |call (f:FuncId) (vs:List Value)
def HD(P:Program)(f:FuncId)(args:List Value)(K:ae→Prop)(h:ae):Prop:=
 ∀w:World,w.heap=h→(∀(args:Array Value) (w:World),(callFunc f args).run P w=.ok (.enter f args) w)∧∀n:Nat,CallsDIn {fn:=fun _=>True,depth:=none,alive:=false,round:=none} n P f args.toArray .returning w fun e u w'=>u=.returning∧Tame w w'∧(∃v,e=.returned v)∧K w'.heap
noncomputable def ni(c:Code):Bool:=
 Code.rec (motive:=fun _=>Bool) false (fun _ ops _=>(yG ops.toList).isSome) (fun _ _ a b=>bif a then true else b) (fun _ _ _ a b=>bif a then true else b)
  (fun _ _ b=>b) (fun _ b=>b) (fun _ _ _ _ _ _=>true) (fun _=>false) (fun _ b=>b) (fun _=>false) (fun _=>false) false (fun _=>false) c
def Bg:Option Ex→Option Code
 |none=>none
 |some (.exit i)=>some (.exit i)
 |some .ret=>some .ret
def LX(N:ae→Prop)(X:Nat→ae→Prop)(R:ae→Prop):Option Ex→ae→Prop
 |none=>N
 |some (.exit i)=>X i
 |some .ret=>R
structure RangeP(P:Program)(fv:Value)(ks:List Kind)(h:ae)(RT:Obj→Obj→qn ks→(Option Ex→ae→Prop)→ae→Prop)(N:ae→Prop)(X:Nat→ae→Prop)(R:ae→Prop):Prop where
 run:∀lo:LoopState→Option Ex→Obj,(∀s j,∃r,lo s j=.loop r)→
  (∀x h' K,h'[h.size+1]? =some (lo .ready none)→
   RT (lo .ready none) (lo .busy none) x (fun j h2=>h2[h.size+1]? =some (lo .busy none)∧K j.isNone (h2.setIfInBounds (h.size+1) (lo (if j.isNone then .ready else .done) j))) h'→
   HV P (.func (.yield (h.size+1)) #[] #[]) (jC ks x) [.c .bool] K h')→
  ∃f first cap,fv=.func (.func f) first cap∧HE P f (first.toList++ [.func (.yield (h.size+1)) #[] #[]]++cap.toList) []
   (fun _ h2=>∃s j,s≠ .busy∧h2[h.size+1]? =some (lo s j)∧LX N X R j (h2.setIfInBounds (h.size+1) (lo .exhausted j))) ((h.push (.deferred (some []))).push (lo .ready none))
def IH:List Nat→List Value→bJ→bJ
 |i::l,v::vs,r=>IH l vs ((i,v)::r)
 |_,_,r=>r
noncomputable def Dn(P:Program)(N:Nat)(ps:List Nat)(ks:List Kind)(assign body:Code)(c:Ann)(r:bJ)(l:Nat)(BK d:Obj)(x:qn ks)(k:Option Ex→ae→Prop)(h:ae):Prop:=
 gX P N assign c.l (fun f b=>b[l]? =some BK∧gX P N body c.r (fun _ a=>k none a) (fun e _ a=>k (some e) a) f (b.setIfInBounds l d)) (fun _ _ _=>False) (IH ps (jC ks x) r) h
def sS(N:Nat):List Nat→Bool
 | []=>true
 |n::l=>rN n N&&sS N l
noncomputable def sN(P:Program)(N:Nat)(c:Code):Ann→(List Mk→bJ→ae→Prop)→(Ex→List Mk→bJ→ae→Prop)→List Mk→bJ→ae→Prop:=
 Code.rec (motive:=fun _=>Ann→(List Mk→bJ→ae→Prop)→(Ex→List Mk→bJ→ae→Prop)→List Mk→bJ→ae→Prop)
  (fun j Kn Kx ms r h=>gX P N .skip j (Kn ms) (fun e=>Kx e ms) r h)
  (fun id ops q j Kn Kx ms r h=>match yG ops.toList with
   |none=>gX P N (.region id ops q) j (Kn ms) (fun e=>Kx e ms) r h
   |some (_,_,x,d,f,as)=>bif q then False else match cp r x with
    |some v=>bif rN d N then(match j9 ((d,v)::r) as with|some vs=>Kn (.call f vs::ms) ((d,v)::r) h|none=>False)else False
    |none=>False)
  (fun a b o n j Kn Kx ms r h=>bif (bif ni a then true else ni b)then o j.l (fun ms p m=>n j.r Kn Kx ms p m) Kx ms r h
   else gX P N (.seq a b) j (Kn ms) (fun e=>Kx e ms) r h)
  (fun c a b o n j Kn Kx ms r h=>bif (bif ni a then true else ni b)then
    (match cp r c with
     |some (.bool t)=>CondP t (o j.l Kn Kx ms r h) (n j.r Kn Kx ms r h)
     |_=>False)
   else gX P N (.cond c a b) j (Kn ms) (fun e=>Kx e ms) r h)
  (fun id b s j Kn Kx ms r h=>bif ni b then s j Kn (fun e ms p m=>match e with
    | .exit i=>bif aX i id then Kn ms p m else Kx (.exit i) ms p m
    | .ret=>Kx .ret ms p m) ms r h
   else gX P N (.block id b) j (Kn ms) (fun e=>Kx e ms) r h)
  (fun b _ j Kn Kx ms r h=>gX P N (.loop b) j (Kn ms) (fun e=>Kx e ms) r h)
  (fun g ps assign body _ _ j Kn Kx ms r h=>match j with
   | .rf ks aa ab=>bif sS N ps.toList&&aX ps.toList.length ks.length then
    (match cp r g with
     |some fv=>RangeP P fv ks h (fun BK u x k m=>Dn P N ps.toList ks assign body (.node aa ab) r (h.size+1) BK u x k m)
      (fun m=>Kn (.it h.size::ms) r m) (fun i m=>Kx (.exit i) (.it h.size::ms) r m) (fun m=>Kx .ret (.it h.size::ms) r m)
     |none=>False)else False
   |_=>False)
  (fun id j Kn Kx ms r h=>gX P N (.exit id) j (Kn ms) (fun e=>Kx e ms) r h)
  (fun _ _ _ _ _ _ _ _=>False)
  (fun l j Kn Kx ms r h=>gX P N (.label l) j (Kn ms) (fun e=>Kx e ms) r h)
  (fun _ _ _ _ _ _ _=>False)
  (fun j Kn Kx ms r h=>gX P N .ret j (Kn ms) (fun e=>Kx e ms) r h)
  (fun _ _ _ _ _ _ _=>False)
  c
def B2(P:Program):List Mk→(ae→Prop)→ae→Prop
 | [],K,h=>K h
 | .it D::ms,K,h=>h[D]? =some (.deferred (some []))∧B2 P ms K (h.setIfInBounds D (.deferred none))
 | .call f vs::ms,K,h=>HD P f vs (fun a=>B2 P ms K a) h
noncomputable def Ha(P:Program)(fn:Func)(c:Code)(b:Ann)(args:List Value)(ks:List Kind)(K:qn ks→ae→Prop)(h:ae):Prop:=
 sN P fn.ntmps c b
  (fun ms r a=>B2 P ms (fun a=>jX P r a fn.results.toList fun vs=>w8 ks vs fun t=>K t a) a)
  (fun e ms r a=>match e with
   | .ret=>B2 P ms (fun a=>jX P r a fn.results.toList fun vs=>w8 ks vs fun t=>K t a) a
   | .exit _=>False)
  [] (l5 0 args) h
end Go.Lift
namespace Go.Lift
open Go
theorem yQ(a:Addr):adr a 0=a:=rfl
theorem ut(a:Addr)(n:Nat):adr a (n+1)=⟨a.block,a.off+(n+1),none⟩:=rfl
theorem pg(a:Addr)(n:Nat):adr a n=a.add n:=by
 cases n with
 |zero=>simp[yQ,Addr.add]
 |succ n=>simp[ut,Addr.add]
theorem uu(a:Addr)(m n:Nat):adr (adr a m) n=adr a (m+n):=by
 cases n with
 |zero=>rfl
 |succ n=>cases m with
  |zero=>simp[yQ]
  |succ m=>rw[ut,ut,show m+1+(n+1)=(m+1+n)+1 from rfl,ut];simp;omega
theorem Tame.refl(w:World):Tame w w:=⟨rfl,rfl,rfl⟩
theorem Tame.trans{a b c:World}(h:Tame a b)(k:Tame b c):Tame a c:=⟨k.os.trans h.os,k.tape.trans h.tape,k.output.trans h.output⟩
theorem uf{a b:IntKind}(h:Bc a b=true):a=b:=by cases a<;>cases b<;>first|rfl|cases h
theorem CK.dec_sound{c:CK}{v:Value}{f:c.den→Prop}(h:c.dec v f):∃x,v=c.enc x∧f x:=by
 cases c<;>cases v<;>try simp only[CK.dec]at h
 case int.int k k' n=>
  cases hk:Bc k' k with
  |false=>rw[hk]at h;exact h.elim
  |true=>rw[hk]at h;have:=uf hk;subst this;exact⟨n,rfl,h⟩
 case adr.pointer p=>cases p with
  |none=>exact h.elim
  |some a=>exact⟨a,rfl,h⟩
 all_goals first|exact h.elim|exact⟨_,rfl,h⟩
theorem wK:∀{cs:List CK} {vs:List Value} {f:Ix cs→Prop},Fz cs vs f→∃t,vs=Ig cs t∧f t
 | [],[],f,h=>⟨(),rfl,h⟩
 | [],_::_,f,h=>h.elim
 | [c],[v],f,h=>by obtain⟨x,rfl,b⟩:=CK.dec_sound h;exact⟨x,rfl,b⟩
 | [c],[],f,h=>h.elim
 | [c],_::_::_,f,h=>h.elim
 |c::d::cs,[],f,h=>h.elim
 |c::d::cs,[_],f,h=>h.elim
 |c::d::cs,v::u::vs,f,h=>by
  have i:c.dec v fun x=>Fz (d::cs) (u::vs) fun t=>f (x,t):=h
  obtain⟨x,hx,a⟩:=CK.dec_sound i;obtain⟨t,g,e⟩:=wK (cs:=d::cs) (vs:=u::vs) a;exact⟨(x,t),by rw[g,hx];rfl,e⟩
theorem Kind.dec_sound{k:Kind}{v:Value}{f:k.den→Prop}(h:k.dec v f):∃x,v=k.enc x∧f x:=by
 cases k with
 |c k=>exact CK.dec_sound h
 |agg cs=>
  cases v<;>simp only[Kind.dec]at h
  case agg vs=>
   obtain⟨t,b,a⟩:=wK h;exact⟨t,by simp only[Kind.enc,←b],a⟩
theorem nu:∀{ks:List Kind} {vs:List Value} {f:qn ks→Prop},w8 ks vs f→∃t,vs=jC ks t∧f t
 | [],[],f,h=>⟨(),rfl,h⟩
 | [],_::_,f,h=>h.elim
 | [c],[v],f,h=>by obtain⟨x,rfl,b⟩:=Kind.dec_sound h;exact⟨x,rfl,b⟩
 | [c],[],f,h=>h.elim
 | [c],_::_::_,f,h=>h.elim
 |c::d::cs,[],f,h=>h.elim
 |c::d::cs,[_],f,h=>h.elim
 |c::d::cs,v::u::vs,f,h=>by
  have i:c.dec v fun x=>w8 (d::cs) (u::vs) fun t=>f (x,t):=h
  obtain⟨x,hx,a⟩:=Kind.dec_sound i;obtain⟨t,g,e⟩:=nu (ks:=d::cs) (vs:=u::vs) a;exact⟨(x,t),by rw[g,hx];rfl,e⟩
theorem ou:∀(ks:List Kind) (t:qn ks),(jC ks t).length=ks.length
 | [],_=>rfl
 | [_],_=>rfl
 |_::l::ks,(_,t)=>by simp only[jC,aL,ou (l::ks) t]
structure Agree(N:Nat)(r:bJ)(a:Act):Prop where
 size:a.tmps.size=N
 look:∀t v,gG r t=some v→a.tmps.getD t undef=v
theorem fF(k:Nat)(v:Value)(r:bJ):gG ((k,v)::r) k=some v:=by rw[ya,show aX k k=true from Nat.beq_refl k];rfl
theorem eY{k t:Nat}(v:Value)(r:bJ)(h:k≠t):gG ((k,v)::r) t=gG r t:=by
 rw[ya];have:aX k t=false:=Bool.eq_false_iff.2 fun e=>h (aF e)
 rw[this];rfl
theorem Agree.put{N:Nat}{r:bJ}{a:Act}(h:Agree N r a)(d:Nat)(v:Value)(hd:d<N):Agree N ((d,v)::r) (a.put (some d) v):=by
 refine⟨by simp[Act.put,h.size],fun t u b=>?_⟩
 by_cases e:d=t
 ·subst e
  rw[fF]at b;cases b;simp[Act.put,h.size,hd]
 ·rw[eY v r e]at b
  have:=h.look t u b;simpa[Act.put,Array.getElem?_setIfInBounds_ne e]using this
theorem Agree.known{N:Nat}{r:bJ}{a:Act}(h:Agree N r a){t:Nat}{v:Value}(hv:gG r t=some v):Agree N ((t,v)::r) a:=by
 refine⟨h.size,fun s u b=>?_⟩
 by_cases e:t=s
 ·subst e;rw[fF]at b;cases b;exact h.look t v hv
 ·rw[eY v r e]at b;exact h.look s u b
theorem gH{N:Nat}{r:bJ}{a:Act}(h:Agree N r a){o:Operand}{v:Value}(hv:cp r o=some v):a.eval o=v:=by
 cases o with
 |tmp t=>exact h.look t v hv
 |const c=>simp[cp]at hv;subst hv;rfl
 |global g=>simp[cp]at hv;subst hv;rfl
 |func f=>simp[cp]at hv;subst hv;rfl
theorem iZ{N:Nat}{r:bJ}{a:Act}(h:Agree N r a):∀{os:List Operand} {vs:List Value},j9 r os=some vs→os.map a.eval=vs
 | [],vs,hv=>by simp[j9]at hv;subst hv;rfl
 |o::os,vs,hv=>by
  simp only[j9]at hv;cases ho:cp r o with
  |none=>simp[ho]at hv
  |some v=>cases hos:j9 r os with
   |none=>simp[ho,hos]at hv
   |some us=>simp[ho,hos]at hv;subst hv;simp[gH h ho,iZ h hos]
theorem aq{P:Program}{t:TypeId}{d:TypeDesc}(h:P.underlying t=some d)(w:World):(underlying t).run P w=.ok d w:=by
 simp only[underlying,program,bind,Sem.bind,Sem.run,h,pure]
theorem bR{P:Program}{t:TypeId}{i:TypeInfo}(h:P.info? t=some i)(w:World):(typeInfo t).run P w=.ok i w:=by
 simp only[typeInfo,program,bind,Sem.bind,Sem.run,h,pure]
theorem fZ{P:Program}{s:Sem Value}{v:Value}{w w':World}(h:s.run P w=.ok v w'):(do pure (Next.value (←s)):Sem Next).run P w=.ok (.value v) w':=by
 simp[h]
theorem Hd{P:Program}{s:Sem Unit}{w w':World}(h:s.run P w=.ok () w'):(do s;pure Next.skip:Sem Next).run P w=.ok .skip w':=by
 simp[h]
theorem tT{P:Program}{w:World}{a:Addr}{v:Value}(h:aQ w.heap a=some v):(load a).run P w=.ok v w:=by
 have b:w.cell? a=some v:=h;simp[b]
theorem um{v:Value}{vs:List Value}{i:Nat}{a:Addr}{h:ae}:oy (v::vs) i a h↔aQ h (adr a i)=some v∧oy vs (i+1) a h:=by
 cases vs with
 |nil=>simp[oy]
 |cons u us=>rfl
theorem nW{P:Program}{w:World}{a:Addr}:∀(vs:List Value) (i:Nat) (acc:Array Value),oy vs i a w.heap→
  (loadCellsFrom a i vs.length acc).run P w=.ok (acc++vs.toArray) w
 | [],i,acc,_=>by simp[loadCellsFrom]
 |v::vs,i,acc,h=>by
  obtain⟨b,c⟩:=um.1 h;rw[pg]at b;have:=nW (P:=P) (w:=w) (a:=a) vs (i+1) (acc.push v) c;simp only[aL,loadCellsFrom,Sem.run_bind,tT b,Result.andThen_ok,this];simp
theorem y8{P:Program}{w:World}{a:Addr}{vs:List Value}(h:oy vs 0 a w.heap):(loadCells a vs.length).run P w=.ok vs.toArray w:=by
 have:=nW (P:=P) (w:=w) (a:=a) vs 0 #[] h;simpa[loadCells]using this
theorem sg:∀(cs:List CK) (i:Nat) (a:Addr) (h:ae) (k:List Value→Prop),Bh cs i a h k→∃vs,vs.length=cs.length∧oy vs i a h∧k vs
 | [],i,a,h,k,b=>⟨[],rfl,trivial,b⟩
 |c::cs,i,a,h,k,b=>by
  obtain⟨x,hx,b⟩:=b;obtain⟨vs,d,hc,b⟩:=sg cs (i+1) a h _ b;exact⟨c.enc x::vs,by simp[d],um.2 ⟨hx,hc⟩,b⟩
theorem ul:∀{vs:List Value} {cs:List CK},yH vs=some cs→cs.length=vs.length
 | [],cs,h=>by simp[yH]at h;subst h;rfl
 |v::vs,cs,h=>by
  simp only[yH]at h;cases h1:KF v with
  |none=>simp[h1]at h
  |some c=>cases h2:yH vs with
   |none=>simp[h1,h2]at h
   |some ds=>simp[h1,h2]at h;subst h;simp[ul h2]
def Iw(P:Program)(t:TypeId)(i:TypeInfo):Kind→Prop
 | .c _=>qm P t=false
 | .agg cs=>qm P t=true∧i.size=cs.length
theorem DW{P:Program}{t:TypeId}{k:Kind}(h:Fg P t=some k):∃i,P.info? t=some i∧Iw P t i k:=by
 unfold Fg rY at h;cases hi:P.info? t with
 |none=>simp[hi]at h
 |some i=>
  refine⟨i,rfl,?_⟩;cases hz:i.zero with
  |none=>simp[hi,hz]at h
  |some z=>
   rw[hi]at h;simp only[hz]at h;cases z;case agg vs=>
    simp only at h;cases hb:(qm P t&&aX vs.toList.length (bo P t))with
    |false=>rw[hb]at h;simp at h
    |true=>
     rw[hb]at h;simp only[cond_true]at h;simp only[Bool.and_eq_true]at hb;have a:=aF hb.2;cases hd:yH vs.toList with
     |none=>rw[hd]at h;simp at h
     |some ds=>
      rw[hd]at h;simp only[bj.injEq]at h;subst h;exact⟨hb.1,by rw[ul hd,a];simp[bo,hi]⟩
   all_goals
    simp only at h;cases ha:qm P t
    ·rw[ha]at h
     simp only[cond_false]at h;split at h
     ·simp only[bj.injEq]at h;subst h;exact ha
     ·simp at h
    ·rw[ha]at h;simp at h
theorem DX{P:Program}{t:TypeId}{k:Kind}(h:yl P t=some k):(∀w,(isAgg t).run P w=.ok (qm P t) w)∧Fg P t=some k:=by
 unfold yl at h;cases hu:P.underlying t with
 |none=>simp[hu]at h
 |some d=>
  simp only[hu]at h;refine⟨fun w=>?_,h⟩
  simp only[isAgg,Sem.run_bind,aq hu,Result.andThen_ok];unfold qm;rw[hu];cases d<;>rfl
theorem wA{P:Program}{t:TypeId}{v:Value}{K:RK}{h:ae}(b:Cf P t v K h):
  ∃u S,K u (some S)∧S h∧∀w:World,S w.heap→(Instr.loadAt t v).run P w=.ok u w:=by
 unfold Cf at b;cases v with
 |pointer p=>
  cases p with
  |none=>exact b.elim
  |some a=>
   simp only at b;cases hk:yl P t with
   |none=>simp[hk]at b
   |some k=>
    obtain⟨d,hz⟩:=DX hk;obtain⟨i,hi,hc⟩:=DW hz;rw[hk]at b;cases k with
    |c c=>
     obtain⟨x,hx,j⟩:=b;refine⟨_,_,j,hx,fun w g=>?_⟩
     have hc:qm P t=false:=hc;simp only[Instr.loadAt,Instr.sureAddr,loadVar,Sem.run_bind,Sem.run_pure,Result.andThen_ok,d,hc];simp[tT g]
    |agg cs=>
     obtain⟨vs,e,f,j⟩:=sg cs 0 a h _ b;obtain⟨m,n⟩:qm P t=true∧i.size=cs.length:=hc;refine⟨_,_,j,f,fun w g=>?_⟩
     have hz:(sizeOf t).run P w=.ok vs.length w:=by simp[sizeOf,bR hi,n,e]
     simp only[Instr.loadAt,Instr.sureAddr,loadVar,Sem.run_bind,Sem.run_pure,Result.andThen_ok,d,m];simp[hz,y8 g]
 |_=>exact b.elim
end Go.Lift
