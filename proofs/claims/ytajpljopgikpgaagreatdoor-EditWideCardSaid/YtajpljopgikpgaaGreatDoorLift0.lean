/- A part of the proof that the named laws of this program answer true, whatever the input. -/
import Derived.OrdersIn
import Derived.Below
import Derived.WalkKit
import Derived.RangeFuncRecord
open BitVec renaming ofInt→ah
open Iff renaming rfl→sZ
open List renaming rec→eZ,replicate→eY,length_cons→aL
open Nat renaming succ→fp,beq→bw,ble→vg,min→di,land→iw,lor→cG,pred→uH,eq_of_beq_eq_true→aS
open Option renaming some→bm
namespace Go.Lift
abbrev ad:=Array Obj
def aK(h:ad)(a:Addr):Option Value:=
 match h[a.block]? with
 |some (.cells c _ _)=>if a.spot.isSome then none else c[a.off]?
 |_=>none
def A0(h:ad)(a:Addr):Bool:=
 match h[a.block]? with
 |some (.cells _ _ (lo,hi))=>lo≤a.off&&a.off<hi
 |_=>false
def hset(h:ad)(a:Addr)(v:Value):ad:=
 h.modify a.block fun
  | .cells c elem frozen=>.cells (if a.spot.isSome then c else c.setIfInBounds a.off v) elem frozen
  |o=>o
noncomputable def adr(a:Addr)(n:Nat):Addr:=Nat.rec (motive:=fun _=>Addr) a (fun n _=>⟨a.block,a.off+fp n,none⟩) n
def Wr(h:ad)(a:Addr):Prop:=(∃v,aK h a=some v)∧A0 h a=false
structure Tame(w w':World):Prop where
 os:w'.os=w.os
 tape:w'.tape=w.tape
 output:w'.output=w.output
structure SliceV where
 a:Option Addr
 len:Nat
 cap:Nat
def Ff:IntKind→IntKind→Bool
 | .i8,.i8=>true| .i16,.i16=>true| .i32,.i32=>true| .i64,.i64=>true
 | .u8,.u8=>true| .u16,.u16=>true| .u32,.u32=>true| .u64,.u64=>true
 |_,_=>false
inductive CK where
 |int (k:IntKind)|bool|str|ptr|slice|map|chan|raw|adr
def CK.den:CK→Type
 | .int _=>Int| .bool=>Bool| .str=>ByteArray| .ptr=>Option Addr| .slice=>SliceV| .map=>Option Nat| .chan=>Option Nat| .raw=>Value| .adr=>Addr
def CK.enc:(c:CK)→c.den→Value
 | .int k,n=>.int k n
 | .bool,b=>.bool b
 | .str,s=>.string s
 | .ptr,p=>.pointer p
 | .slice,s=>.slice s.a s.len s.cap
 | .map,r=>.map r
 | .chan,r=>.chan r
 | .raw,v=>v
 | .adr,a=>.pointer (some a)
def CK.dec:(c:CK)→Value→(c.den→Prop)→Prop
 | .int k,.int k' n,f=>bif Ff k' k then f n else False
 | .bool,.bool b,f=>f b
 | .str,.string s,f=>f s
 | .ptr,.pointer p,f=>f p
 | .slice,.slice a l c,f=>f ⟨a,l,c⟩
 | .map,.map r,f=>f r
 | .chan,.chan r,f=>f r
 | .raw,v,f=>f v
 | .adr,.pointer (some a),f=>f a
 |_,_,_=>False
def OD:List CK→Type
 | []=>Unit
 | [c]=>c.den
 |c::d::cs=>c.den×OD (d::cs)
def Oe:(cs:List CK)→OD cs→List Value
 | [],_=> []
 | [c],x=> [c.enc x]
 |c::d::cs,(x,t)=>c.enc x::Oe (d::cs) t
def K3:(cs:List CK)→List Value→(OD cs→Prop)→Prop
 | [],[],f=>f ()
 | [c],[v],f=>c.dec v f
 |c::d::cs,v::u::vs,f=>c.dec v fun x=>K3 (d::cs) (u::vs) fun t=>f (x,t)
 |_,_,_=>False
inductive Kind where
 |c (k:CK)
 |agg (cs:List CK)
def Kind.den:Kind→Type
 | .c k=>k.den
 | .agg cs=>OD cs
def Kind.enc:(k:Kind)→k.den→Value
 | .c k,x=>k.enc x
 | .agg cs,t=>.agg (Oe cs t).toArray
def Kind.dec:(k:Kind)→Value→(k.den→Prop)→Prop
 | .c k,v,f=>k.dec v f
 | .agg cs,.agg vs,f=>K3 cs vs.toList f
 |_,_,_=>False
def sU:List Kind→Type
 | []=>Unit
 | [k]=>k.den
 |k::l::ks=>k.den×sU (l::ks)
def lQ:(ks:List Kind)→sU ks→List Value
 | [],_=> []
 | [k],x=> [k.enc x]
 |k::l::ks,(x,t)=>k.enc x::lQ (l::ks) t
def AE:(ks:List Kind)→List Value→(sU ks→Prop)→Prop
 | [],[],f=>f ()
 | [k],[v],f=>k.dec v f
 |k::l::ks,v::u::vs,f=>k.dec v fun x=>AE (l::ks) (u::vs) fun t=>f (x,t)
 |_,_,_=>False
def BI(ks:List Kind)(vs:List Value):Value:=
 match ks,vs with
 | [_],[v]=>v
 |_,vs=>.tuple vs.toArray
def Q5:Value→Option CK
 | .int k _=>some (.int k)
 | .bool _=>some .bool
 | .string _=>some .str
 | .pointer _=>some .ptr
 | .slice .. =>some .slice
 | .map _=>some .map
 | .chan _=>some .chan
 | .nilFunc=>some .raw
 | .nilIface=>some .raw
 |_=>none
def Cg:List Value→Option (List CK)
 | []=>some []
 |v::vs=>match Q5 v,Cg vs with
  |some c,some cs=>some (c::cs)
  |_,_=>none
def sS(P:Program)(t:TypeId):Bool:=
 match P.underlying t with
 |some (.struct _)|some (.array _ _)=>true
 |_=>false
def bK(P:Program)(t:TypeId):Nat:=match P.info? t with|some i=>i.size|none=>0
def oQ(P:Program)(t:TypeId):Nat:=match P.info? t with|some i=>i.bytes|none=>0
def vt(P:Program)(t:TypeId):Option Value:=match P.info? t with|some i=>i.zero|none=>none
def KF(P:Program)(t:TypeId):Option Kind:=
 match vt P t with
 |some (.agg vs)=>bif sS P t&&bw vs.toList.length (bK P t)then(match Cg vs.toList with|some cs=>some (.agg cs)|none=>none)else none
 |some v=>bif sS P t then none else(match Q5 v with|some c=>some (.c c)|none=>none)
 |none=>none
def BV(P:Program)(t:TypeId):Option Kind:=
 match P.underlying t with
 |none=>none
 |some _=>KF P t
structure HC(P:Program)(f:FuncId)(args:List Value)(ks:List Kind)(K:sU ks→ad→Prop)(h:ad):Prop where
 run:∀w:World,w.heap=h→
  ((callFunc f args.toArray).run P w=.ok (.enter f args.toArray) w∧
   Calls P f args.toArray w fun e w'=>Tame w w'∧∃t:sU ks,e=.returned (BI ks (lQ ks t))∧K t w'.heap)∨
  (∃v w',(callFunc f args.toArray).run P w=.ok (.value v) w'∧Tame w w'∧∃t:sU ks,v=BI ks (lQ ks t)∧K t w'.heap)
structure HE(P:Program)(f:FuncId)(args:List Value)(ks:List Kind)(K:sU ks→ad→Prop)(h:ad):Prop where
 run:∀w:World,w.heap=h→(∀(args:Array Value) (w:World),(callFunc f args).run P w=.ok (.enter f args) w)∧
  Calls P f args.toArray w fun e w'=>Tame w w'∧∃t:sU ks,e=.returned (BI ks (lQ ks t))∧K t w'.heap
theorem HE.hc{P:Program}{f:FuncId}{args:List Value}{ks:List Kind}{K:sU ks→ad→Prop}{h:ad}(e:HE P f args ks K h):HC P f args ks K h:=
 ⟨fun w a=>.inl ⟨(e.run w a).1 _ w,(e.run w a).2⟩⟩
structure HY(P:Program)(l:Nat)(args:List Value)(K:Bool→ad→Prop)(h:ad):Prop where
 run:∀w:World,w.heap=h→∃fn tmps assign body,(Instr.yield l args.toArray).run P w=.ok (.round l fn tmps assign body) w∧
  ∀(c:Frame) (cs:List Frame),∃b w',Tame w w'∧K b w'.heap∧Steps P (lone (Frame.round l fn tmps assign body .normal) (c::cs) w) (lone (c.finish (.bool b)) cs w')
structure HV(P:Program)(fv:Value)(args:List Value)(ks:List Kind)(K:sU ks→ad→Prop)(h:ad):Prop where
 run:(∃f first cap,fv=.func (.func f) first cap∧HC P f (first.toList++args++cap.toList) ks K h)∨
  (∃l,fv=.func (.yield l) #[] #[]∧HY P l args (fun b h'=>AE ks [.bool b] fun t=>K t h') h)
noncomputable def CondP(b:Bool)(t e:Prop):Prop:=Bool.rec (motive:=fun _=>Prop) e t b
theorem CondP.yes{b:Bool}{t e:Prop}(h:CondP b t e)(a:b=true):t:=by subst a;exact h
theorem CondP.no{b:Bool}{t e:Prop}(h:CondP b t e)(a:b=false):e:=by subst a;exact h
theorem CondP.intro{b:Bool}{t e:Prop}(c:b=true→t)(a:b=false→e):CondP b t e:=by cases b;exact a rfl;exact c rfl
theorem ax{t e:Prop}:CondP true t e↔t:=sZ
theorem aj{t e:Prop}:CondP false t e↔e:=sZ
attribute [irreducible] CondP
def At(h:ad)(k:ad→Prop):Prop:=k h
def Bd{T:Type}(x:T)(k:T→Prop):Prop:=k x
structure Join{T:Type}(rest:T→ad→Prop)(k:(T→ad→Prop)→Prop):Prop where
 run:k rest
structure LoopP{T:Type}(F:(T→ad→Prop)→T→ad→Prop)(t:T)(h:ad):Prop where
 run:∀I:T→ad→Prop,(∀t h,F I t h→I t h)→I t h
abbrev cn:=List (Nat×Value)
noncomputable def jd(r:cn)(t:Nat):Option Value:=
 eZ (motive:=fun _=>Option Value) none (fun a _ b=>bif bw a.1 t then some a.2 else b) r
theorem BG(k:Nat)(v:Value)(r:cn)(t:Nat):jd ((k,v)::r) t=bif bw k t then some v else jd r t:=rfl
noncomputable def c7(r:cn):Operand→Option Value
 | .tmp t=>jd r t
 | .const v=>some v
 | .global g=>some (.pointer (some ⟨g,0,none⟩))
 | .func f=>some (.func (.func f) #[] #[])
noncomputable def oN(r:cn):List Operand→Option (List Value)
 | []=>some []
 |o::os=>match c7 r o,oN r os with
  |some v,some vs=>some (v::vs)
  |_,_=>none
noncomputable def Fp:List CK→Nat→Addr→ad→(List Value→Prop)→Prop
 | [],_,_,_,k=>k []
 |c::cs,i,a,h,k=>∃x:c.den,aK h (adr a i)=some (c.enc x)∧Fp cs (i+1) a h fun vs=>k (c.enc x::vs)
noncomputable def qB:List Value→Nat→Addr→ad→Prop
 | [],_,_,_=>True
 | [v],i,a,h=>aK h (adr a i)=some v
 |v::u::vs,i,a,h=>aK h (adr a i)=some v∧qB (u::vs) (i+1) a h
abbrev RK:=Value→Option (ad→Prop)→Prop
noncomputable def Gy(P:Program)(t:TypeId)(v:Value)(K:RK)(h:ad):Prop:=
 match v with
 | .pointer (some a)=>
  match BV P t with
  |some (.c c)=>∃x:c.den,aK h a=some (c.enc x)∧K (c.enc x) (some fun b=>aK b a=some (c.enc x))
  |some (.agg cs)=>Fp cs 0 a h fun vs=>K (.agg vs.toArray) (some fun b=>qB vs 0 a b)
  |none=>False
 |_=>False
def ui(P:Program)(t:TypeId)(f:Nat):Option (TypeId×Nat):=
 match P.underlying t with
 |some (.struct fs)=>match fs.toList[f]? with
  |some g=>some (g.type,g.offset)
  |none=>none
 |_=>none
def tg(P:Program)(t:TypeId):Option TypeId:=
 match P.underlying t with
 |some (.slice e)=>some e
 |_=>none
def H7(c:BinOp)(k:IntKind)(a b:Int)(K:RK):Prop:=
 match c with
 | .shl=>0≤b∧K (.int k (k.wrap (a*2^(min b.toNat k.bits)))) none
 | .shr=>0≤b∧K (.int k (a.fdiv (2^(min b.toNat k.bits)))) none
 |_=>False
def QM(c:BinOp)(k:IntKind)(a b:Int)(K:RK):Prop:=
 match c with
 | .add=>K (.int k (k.wrap (a+b))) none
 | .sub=>K (.int k (k.wrap (a-b))) none
 | .mul=>K (.int k (k.wrap (a*b))) none
 | .quo=>b≠0∧K (.int k (k.wrap (a.tdiv b))) none
 | .rem=>b≠0∧K (.int k (a.tmod b)) none
 | .and=>K (.int k (k.wrap (ah k.bits a&&&ah k.bits b).toNat)) none
 | .or=>K (.int k (k.wrap (ah k.bits a|||ah k.bits b).toNat)) none
 | .xor=>K (.int k (k.wrap (ah k.bits a^^^ah k.bits b).toNat)) none
 | .andNot=>K (.int k (k.wrap (ah k.bits a&&& ~~~ah k.bits b).toNat)) none
 | .eql=>K (.bool (a==b)) none
 | .neq=>K (.bool (a !=b)) none
 | .lss=>K (.bool (decide (a<b))) none
 | .leq=>K (.bool (decide (a≤b))) none
 | .gtr=>K (.bool (decide (a>b))) none
 | .geq=>K (.bool (decide (a≥b))) none
 |_=>False
def Qt(c:BinOp)(a b:ByteArray)(K:RK):Prop:=
 match c with
 | .add=>((a.size+b.size:Nat):Int)≤9223372036854775807∧K (.string (a++b)) none
 | .eql=>K (.bool (a.toList==b.toList)) none
 | .neq=>K (.bool (!(a.toList==b.toList))) none
 | .lss=>K (.bool (Op.bytesLess a.toList b.toList)) none
 | .leq=>K (.bool (Op.bytesLess a.toList b.toList||a.toList==b.toList)) none
 | .gtr=>K (.bool (!(Op.bytesLess a.toList b.toList||a.toList==b.toList))) none
 | .geq=>K (.bool (!(Op.bytesLess a.toList b.toList))) none
 |_=>False
def dQ(h:ad)(a:Addr):Prop:=(∃c e,h[a.block]? =some (.cells c e (0,0))∧0<c.size)
def Pq(P:Program)(t:TypeId)(neg:Bool)(x y:Value)(K:RK):Prop:=
 match P.underlying t,x,y with
 |some (.pointer _),.pointer a,.pointer none=>K (.bool (bif neg then !a.isNone else a.isNone)) none
 |some (.map _ _),.map a,.map none=>K (.bool (bif neg then !a.isNone else a.isNone)) none
 |some (.slice _),.slice a _ _,.slice none _ _=>K (.bool (bif neg then !a.isNone else a.isNone)) none
 |_,_,_=>False
def QL:Operand→Bool
 | .const (.pointer none)=>true
 | .const (.map none)=>true
 | .const (.slice none 0 0)=>true
 |_=>false
def P7(P:Program)(t:TypeId)(neg:Bool)(x y:Value)(K:RK)(h:ad):Prop:=
 match P.underlying t,x,y with
 |some .bool,.bool a,.bool b=>K (.bool (bif neg then !(a==b)else a==b)) none
 |some (.pointer e),.pointer a,.pointer b=>
  (bif bw (bK P e) 0 then False else True)∧
  (∀x y,a=some x→b=some y→dQ h x∧dQ h y)∧
  K (.bool (bif neg then !(a==b)else a==b)) (some fun c=>∀x y,a=some x→b=some y→dQ c x∧dQ c y)
 |_,_,_=>False
def QA(P:Program)(c:BinOp)(t:TypeId)(x y:Value)(K:RK)(h:ad):Prop:=
 match x,y with
 | .int k a,.int k' b=>
  match c with
  | .shl=>H7 .shl k a b K
  | .shr=>H7 .shr k a b K
  |c=>bif Ff k' k then QM c k a b K else False
 | .string a,.string b=>Qt c a b K
 |x,y=>match c with
  | .eql=>P7 P t false x y K h
  | .neq=>P7 P t true x y K h
  |_=>False
def pK(h:ad):List (Option Addr×Option Addr)→Prop
 | []=>True
 |(a,b)::l=>(∀x y,a=some x→b=some y→dQ h x∧dQ h y)∧pK h l
def NK(P:Program)(t:TypeId)(x y:Value):Option (Bool×List (Option Addr×Option Addr)):=
 match P.underlying t,x,y with
 |some (.int _),.int k a,.int k' b=>bif Ff k' k then some (a==b,[])else none
 |some .bool,.bool a,.bool b=>some (a==b,[])
 |some .string,.string a,.string b=>some (a.toList==b.toList,[])
 |some (.pointer e),.pointer a,.pointer b=>bif bw (bK P e) 0 then none else some (a==b,[(a,b)])
 |_,_,_=>none
def PJ(P:Program)(rec:TypeId→List Value→List Value→Option (Bool×List (Option Addr×Option Addr)))(xs ys:List Value):List Field→Option (Bool×List (Option Addr×Option Addr))
 | []=>some (true,[])
 |f::fs=>
  if f.name= "_" then none else
  bif (P.underlying f.type).isSome&&(P.info? f.type).isSome then
   match(bif sS P f.type then rec f.type ((xs.drop f.offset).take (bK P f.type)) ((ys.drop f.offset).take (bK P f.type))
    else match xs[f.offset]?,ys[f.offset]? with|some x,some y=>NK P f.type x y|_,_=>none),PJ P rec xs ys fs with
   |some (b,l),some (c,m)=>some (b&&c,l++m)
   |_,_=>none
  else none
def NL(P:Program):Nat→TypeId→List Value→List Value→Option (Bool×List (Option Addr×Option Addr))
 |0,_,_,_=>none
 |d+1,t,xs,ys=>match P.underlying t with
  |some (.struct fs)=>bif P.stoodInHeld t then none else PJ P (NL P d) xs ys fs.toList
  |_=>none
def SK(neg b:Bool)(K:RK)(h:ad):List (Option Addr×Option Addr)→Prop
 | []=>K (.bool (bif neg then !b else b)) none
 |p::l=>pK h (p::l)∧K (.bool (bif neg then !b else b)) (some fun a=>pK a (p::l))
def QC(P:Program)(a:BinOp)(t:TypeId)(xs ys:List Value)(K:RK)(h:ad):Prop:=
 bif P.eqGuardType P.depth t then False else
 match a with
 | .eql=>(match NL P 10 t xs ys with|some (b,l)=>SK false b K h l|none=>False)
 | .neq=>(match NL P 10 t xs ys with|some (b,l)=>SK true b K h l|none=>False)
 |_=>False
def Sw(a:UnOp)(x:Value)(K:RK):Prop:=
 match a,x with
 | .neg,.int k n=>K (.int k (k.wrap (0-n))) none
 | .xor,.int k n=>K (.int k (k.wrap (ah k.bits (if k.signed then-1 else k.max)^^^ah k.bits n).toNat)) none
 | .not,.bool b=>K (.bool (!b)) none
 |_,_=>False
def cX(s:ByteArray):List Value:=s.data.toList.map fun b=>.int .u8 b.toNat
noncomputable def Row(h:ad)(a:Addr)(vs:List Value):Prop:=∀i v,vs[i]? =some v→aK h (adr a i)=some v
noncomputable def SRow(h:ad)(a:Option Addr)(n:Nat)(vs:List Value):Prop:=vs.length=n∧(vs= []∨∃b,a=some b∧Row h b vs)
def IT(P:Program)(e:TypeId):Bool:=match P.underlying e with|some (.int .u8)=>true|_=>false
def QK(P:Program)(s d:TypeId):Bool:=
 match P.underlying s,P.underlying d with
 |some .string,some (.slice e)=>IT P e
 |_,_=>false
def ByP(e:TypeId)(s:ByteArray)(h:ad)(K:Nat→ad→Prop):Prop:=
 ∀c,s.size≤c→K c (h.push (.cells (cX s++eY (c-s.size) (Value.int .u8 0)).toArray e (c,c+1)))
noncomputable def Nh(P:Program)(b c:TypeId)(x:Value)(K:RK)(h:ad):Prop:=
 match P.underlying b,P.underlying c,x with
 |some (.int _),some (.int k),.int _ n=>K (.int k (k.wrap n)) none
 |some .string,some .string,.string s=>K (.string s) none
 |some (.slice e),some .string,.slice a n _=>bif IT P e then∃s:ByteArray,SRow h a n (cX s)∧K (.string s) (some fun d=>SRow d a n (cX s))else False
 |_,_,_=>False
def Oj(v:Option Value)(d y:Nat)(K:Nat→Prop):Prop:=
 match v with
 |none=>K d
 |some (.int _ i)=>(0≤i∧i≤y)∧K i.toNat
 |_=>False
noncomputable def aW(a:Option Addr)(l m size:Nat):Option Addr:=if m=l then a else a.map (adr · (l*size))
def Nr(P:Program)(t:TypeId)(K:Prop):Prop:=match P.info? t with|some _=>K|none=>False
noncomputable def Im(P:Program)(t:TypeId)(x:Value)(lo hi b:Option Value)(K:RK):Prop:=
 match P.underlying t,x with
 |some .string,.string s=>match b with
  |some _=>False
  |none=>Oj hi s.size s.size fun h=>Oj lo 0 h fun l=>K (.string (s.extract l h)) none
 |some (.slice e),.slice a len cap=>Nr P e (
  match b with
  |none=>Oj hi len cap fun h=>Oj lo 0 h fun l=>K (.slice (aW a l cap (bK P e)) (h-l) (cap-l)) none
  |some m=>match hi with
   |none=>False
   |some hi=>Oj (some m) 0 cap fun m=>Oj (some hi) 0 m fun h=>Oj lo 0 h fun l=>K (.slice (aW a l m (bK P e)) (h-l) (m-l)) none)
 |some (.array n e),.pointer (some a)=>Nr P e (
  match b with
  |none=>Oj hi n n fun h=>Oj lo 0 h fun l=>K (.slice (aW (some a) l n (bK P e)) (h-l) (n-l)) none
  |some _=>False)
 |_,_=>False
noncomputable def DU(r:cn):Option Operand→Option (Option Value)
 |none=>some none
 |some o=>match c7 r o with
  |some v=>some (some v)
  |none=>none
noncomputable def wp(P:Program)(t:TypeId)(x i:Value)(K:RK):Prop:=
 match P.underlying t,x,i with
 |some (.array n e),.pointer (some a),.int _ i=>Nr P e ((0≤i∧i<n)∧K (.pointer (some (adr a (i.toNat*bK P e)))) none)
 |some (.slice e),.slice b len _,.int _ i=>Nr P e ((0≤i∧i<len)∧∃a,b=some a∧K (.pointer (some (adr a (i.toNat*bK P e)))) none)
 |_,_,_=>False
def Iq(P:Program)(t:TypeId)(x i:Value)(K:RK):Prop:=
 match P.underlying t,x,i with
 |some .string,.string s,.int _ i=>∃b:UInt8,0≤i∧s[i.toNat]? =some b∧K (.int .u8 b.toNat) none
 |_,_,_=>False
noncomputable def Ir(P:Program)(t:TypeId)(x:Value)(f:Nat)(K:RK):Prop:=
 match ui P t f,x with
 |some (u,off),.agg cs=>bif (P.underlying u).isSome&&(P.info? u).isSome then(bif sS P u then K (.agg ((cs.toList.drop off).take (bK P u)).toArray) none
  else(match cs.toList[off]? with|some v=>K v none|none=>False))else False
 |_,_=>False
def P1(c a b:Value)(K:RK):Prop:=
 match c with
 | .bool c=>(match a,b with
  | .bool x,.bool y=>K (.bool (bif c then x else y)) none
  |_,_=>(match c with|true=>K a none|false=>K b none))
 |_=>False
def gl:Value→Value→Bool
 | .int _ a,.int _ b=>a==b
 | .string a,.string b=>a==b
 | .bool a,.bool b=>a==b
 |_,_=>false
def G4(k:Value):List MapEntry→Option Value
 | []=>none
 |e::es=>if gl k e.key then some e.val else G4 k es
def BW(c:CK)(es:List MapEntry):Prop:=∀e∈es,∃x:c.den,e.key=c.enc x
def Jy(c:CK)(z:Value)(h:ad)(m:Option Nat)(k v:Value)(a:Bool):Prop:=
 match m with
 |none=>v=z∧a=false
 |some r=>∃es clock,h[r]? =some (.map es clock)∧BW c es.toList∧
  (match G4 k es.toList with|some u=>v=u∧a=true|none=>v=z∧a=false)
def GU(P:Program)(t:TypeId):Option (CK×TypeId):=
 match P.underlying t with
 |some (.map k e)=>match P.underlying k with
  |some (.int i)=>some (.int i,e)
  |some .string=>some (.str,e)
  |some .bool=>some (.bool,e)
  |_=>none
 |_=>none
def EX(P:Program)(t:TypeId)(x k:Value)(d:Bool)(K:RK)(h:ad):Prop:=
 match GU P t,x with
 |some (c,e),.map m=>c.dec k fun _=>
  (match BV P e,vt P e with
   |some ek,some z=>∃(y:ek.den) (b:Bool),Jy c z h m k (ek.enc y) b∧
    K (bif d then .tuple #[ek.enc y,.bool b]else ek.enc y) (some fun a=>Jy c z a m k (ek.enc y) b)
   |_,_=>False)
 |_,_=>False
def Oy(h:ad)(m:Option Nat)(n:Nat):Prop:=
 match m with
 |none=>n=0
 |some r=>∃es clock,h[r]? =some (.map es clock)∧n=es.size
def Qy(P:Program)(t:TypeId)(x:Value)(K:RK)(h:ad):Prop:=
 match P.underlying t,x with
 |some .string,.string s=>K (.int .i64 s.size) none
 |some (.array n _),_=>K (.int .i64 n) none
 |some (.slice _),.slice _ n _=>K (.int .i64 n) none
 |some (.map _ _),.map m=>∃n:Nat,Oy h m n∧K (.int .i64 n) (some fun a=>Oy a m n)
 |_,_=>False
def Qz(P:Program)(t:TypeId)(x:Value)(K:RK):Prop:=
 match P.underlying t,x with
 |some (.slice _),.slice _ _ n=>K (.int .i64 n) none
 |_,_=>False
def Fb(c:Bool)(k:IntKind):Int→List Value→(Value→Prop)→Prop
 |a,[],f=>f (.int k a)
 |a,.int k' b::vs,f=>bif Ff k' k then Fb c k (bif c then(if b>a then b else a)else(if b<a then b else a)) vs f else False
 |_,_,_=>False
def AW(b:Bool)(vs:List Value)(f:Value→Prop):Prop:=
 match vs with
 | .int k a::vs=>Fb b k a vs f
 |_=>False
def Jz(h:ad)(i:Nat)(e:MapEntry):Prop:=
 ∃m since seen last stamp es,h[i]? =some (.mapIter (some m) since seen last)∧seen.back? =some stamp∧h[m]? =some (.map es last)∧es.find? (fun e=>e.born==stamp)=some e
def ox(P:Program)(t:TypeId):Bool:=match P.underlying t with|some (.interface _)=>false|some _=>true|none=>false
def Ks(P:Program)(t:TypeId)(x:Value)(K:RK):Prop:=
 bif ox P t then(match BV P t with
  |some k=>∃y:k.den,x=.iface t (k.enc y)∧K (k.enc y) none
  |none=>False)else False
def GF(cs:List Value)(off:Nat)(vs:List Value):List Value:=cs.take off++vs++cs.drop (off+vs.length)
def Ae(a:Nat→Option (Nat×Nat)):List Value→List (Nat×Value)→Option (List Value)
 |cs,[]=>some cs
 |cs,(i,v)::rest=>match a i with
  |none=>none
  |some (off,size)=>bif bw v.cells.toList.length size&&vg (off+v.cells.toList.length) cs.length then Ae a (GF cs off v.cells.toList) rest else none
noncomputable def ot(r:cn):List (Nat×Operand)→Option (List (Nat×Value))
 | []=>some []
 |(i,o)::ps=>match c7 r o,ot r ps with
  |some v,some vs=>some ((i,v)::vs)
  |_,_=>none
def oL(P:Program)(t:TypeId):Option (List Value):=match vt P t with|some z=>some z.cells.toList|none=>none
def df(n:Nat)(z:List Value):List Value:=(eY n z).flatten
def uS(P:Program)(t:TypeId):Bool:=match P.info? t with|some _=>true|none=>false
def xX(P:Program):List Field→Bool
 | []=>true
 |f::fs=>bif uS P f.type then xX P fs else false
def IA(P:Program)(a:List Field)(i:Nat):Option (Nat×Nat):=match a[i]? with|some f=>some (f.offset,bK P f.type)|none=>none
def FB(P:Program)(t:TypeId)(a:List (Nat×Value)):Option (List Value):=
 match P.underlying t,oL P t with
 |some (.struct fs),some z=>bif xX P fs.toList then Ae (IA P fs.toList) z a else none
 |some (.array _ e),some z=>bif uS P e then Ae (fun i=>some (i*bK P e,bK P e)) z a else none
 |_,_=>none
noncomputable def yK(P:Program)(ek:Option (Kind×Kind))(o:Op)(r:cn)(K:RK)(h:ad):Prop:=
 match o with
 | .entry it=>match c7 r it,ek with
  |some (.pointer (some a)),some (kk,vk)=>a.off=0∧∃(e:MapEntry) (x:kk.den) (y:vk.den),Jz h a.block e∧e.key=kk.enc x∧e.val=vk.enc y∧
    K (.tuple #[kk.enc x,vk.enc y]) (some fun g=>Jz g a.block e)
  |_,_=>False
 | .move x| .assign x=>match c7 r x with|some v=>K v none|none=>False
 | .load t a=>match c7 r a with|some v=>Gy P t v K h|none=>False
 | .nilCheck x=>match c7 r x with|some (.pointer p)=>∃a,p=some a∧K (.pointer (some a)) none|_=>False
 | .binOp op t x y _=>match c7 r x,c7 r y with
  |some (.agg v),some (.agg u)=>QC P op t v.toList u.toList K h
  |some v,some u=>(match op,QL y with
   | .eql,true=>Pq P t false v u K
   | .neq,true=>Pq P t true v u K
   |op,_=>QA P op t v u K h)
  |_,_=>False
 | .unOp op _ x=>match c7 r x with|some v=>Sw op v K|none=>False
 | .convert s d x=>match c7 r x with|some v=>Nh P s d v K h|none=>False
 | .pick c a b=>match c7 r c,c7 r a,c7 r b with|some c,some a,some b=>P1 c a b K|_,_,_=>False
 | .extract x i=>match c7 r x with
  |some (.tuple vs)=>(match vs.toList[i]? with|some v=>K v none|none=>False)
  |_=>False
 | .fieldAddr t x f=>match c7 r x,ui P t f with
  |some (.pointer (some a)),some (u,off)=>bif bw (bK P u) 0 then False else K (.pointer (some (adr a off))) none
  |_,_=>False
 | .field t x f=>match c7 r x with|some v=>Ir P t v f K|none=>False
 | .indexAddr t x i=>match c7 r x,c7 r i with|some v,some u=>wp P t v u K|_,_=>False
 | .index t x i=>match c7 r x,c7 r i with|some v,some u=>Iq P t v u K|_,_=>False
 | .slice t x lo hi mx=>match c7 r x,DU r lo,DU r hi,DU r mx with
  |some v,some l,some g,some m=>Im P t v l g m K
  |_,_,_,_=>False
 | .lookup t x k ok=>match c7 r x,c7 r k with|some v,some u=>EX P t v u ok K h|_,_=>False
 | .makeInterface t x=>match c7 r x with|some v=>bif ox P t then K (.iface t v) none else False|none=>False
 | .typeAssert x _ t ok=>match c7 r x with|some v=>bif ok then False else Ks P t v K|none=>False
 | .build t ps=>match ot r ps.toList with
  |some vs=>(match FB P t vs with|some cs=>K (.agg cs.toArray) none|none=>False)
  |none=>False
 | .makeFunc fn first cap=>match oN r first.toList,oN r cap.toList with
  |some vs,some us=>K (.func fn vs.toArray us.toArray) none
  |_,_=>False
 | .call c=>match c.callee,oN r c.args.toList,c.argTypes.toList with
  | .builtin .len,some [v],[t]=>Qy P t v K h
  | .builtin .cap,some [v],[t]=>Qz P t v K
  | .builtin .min,some vs,_=>AW false vs fun v=>K v none
  | .builtin .max,some vs,_=>AW true vs fun v=>K v none
  |_,_,_=>False
 |_=>False
abbrev WK:=Value→ad→Prop
def aA(h:ad):Addr:=⟨h.size,0,none⟩
def hnew(h:ad)(cs:List Value)(t:TypeId):ad:=h.push (.cells cs.toArray t (0,0))
def bS:List Value→Bool
 | []=>true
 |v::vs=>(match v with| .agg _=>false| .tuple _=>false|_=>true)&&bS vs
noncomputable def gD(h:ad)(a:Addr):Nat→List Value→ad
 |_,[]=>h
 |i,v::vs=>gD (hset h (adr a i) v) a (i+1) vs
noncomputable def fj(h:ad)(a:Option Addr)(i:Nat)(vs:List Value):ad:=match a with|some a=>gD h a i vs|none=>h
noncomputable def rK(h:ad)(a:Option Addr)(i:Nat)(vs:List Value):Prop:=vs= []∨∃b,a=some b∧∀j,j<vs.length→Wr h (adr b (i+j))
noncomputable def HZ(P:Program)(t:TypeId)(a v:Value)(K:WK)(h:ad):Prop:=
 match a with
 | .pointer (some a)=>bif bw v.cells.toList.length (bK P t)&&bS v.cells.toList then Nr P t
   (match v.cells.toList with
    | [v]=>Wr h a∧K undef (hset h a v)
    |vs=>rK h (some a) 0 vs∧K undef (gD h a 0 vs))
  else False
 |_=>False
noncomputable def Om(P:Program)(e:TypeId)(a:Option Addr)(sl c b:Nat)(xs:List Value)(K:WK)(h:ad):Prop:=
 (sl+b≤c→rK h a (sl*bK P e) xs∧bS xs=true∧K (.slice a (sl+b) c) (fj h a (sl*bK P e) xs))∧
 (c<sl+b→∃old z,SRow h a (sl*bK P e) old∧oL P e=some z∧0<oQ P e∧Builtin.nextslicecap (sl+b) c*oQ P e≤2^48∧
  ∀nc,sl+b≤nc→K (.slice (some (aA h)) (sl+b) nc) (hnew h (old++xs++df (nc-(sl+b)) z) e))
noncomputable def AM(P:Program)(t:TypeId)(s x:Value)(K:WK)(h:ad):Prop:=
 match tg P t,s,x with
 |some e,.slice b sl sc,.slice a xl _=>Nr P e (∃xs,SRow h a (xl*bK P e) xs∧Om P e b sl sc xl xs K h)
 |some e,.slice b sl sc,.string x=>bif bw (bK P e) 1 then Om P e b sl sc x.size (cX x) K h else False
 |_,_,_=>False
noncomputable def Bh(P:Program)(t:TypeId)(s x:Value)(K:WK)(h:ad):Prop:=
 match tg P t,s,x with
 |some e,.slice b sl sc,.int _ l=>(match oL P e with
  |some z=>bif bw z.length (bK P e)then(0≤l∧l*oQ P e≤2^48∧l≤9223372036854775807∧((sl+l.toNat:Nat):Int)≤9223372036854775807)∧Om P e b sl sc l.toNat (df l.toNat z) K h else False
  |none=>False)
 |_,_,_=>False
noncomputable def H0(P:Program)(t:TypeId)(x:Value)(K:WK)(h:ad):Prop:=
 match tg P t,x with
 |some e,.slice a n _=>(match oL P e with
  |some z=>bif bS z then rK h a 0 (df n z)∧K (.tuple #[]) (fj h a 0 (df n z))else False
  |none=>False)
 |_,_=>False
noncomputable def MN(P:Program)(t:TypeId)(d s:Value)(K:WK)(h:ad):Prop:=
 match tg P t,d,s with
 |some e,.slice b dl _,.slice a sl _=>Nr P e (∃xs,SRow h a (di sl dl*bK P e) xs∧rK h b 0 xs∧bS xs=true∧K (.int .i64 (di sl dl)) (fj h b 0 xs))
 |some e,.slice b dl _,.string x=>bif bw (bK P e) 1 then rK h b 0 ((cX x).take dl)∧K (.int .i64 (di x.size dl)) (fj h b 0 ((cX x).take dl))else False
 |_,_,_=>False
def Iw(k v:Value)(a:Nat):List MapEntry→List MapEntry×Nat
 | []=>([{key:=k,val:=v,born:=a}],a+1)
 |e::es=>if gl k e.key then({e with key:=k,val:=v}::es,a)else let r:=Iw k v a es;(e::r.1,r.2)
def Ha(k:Value):List MapEntry→List MapEntry
 | []=> []
 |e::es=>if gl k e.key then es else e::Ha k es
def K6(c:CK)(h:ad)(r:Nat):Prop:=∃es clock,h[r]? =some (.map es clock)∧BW c es.toList
def Pt(h:ad)(r:Nat)(k v:Value):ad:=
 match h[r]? with
 |some (.map es clock)=>h.setIfInBounds r (.map (Iw k v clock es.toList).1.toArray (Iw k v clock es.toList).2)
 |_=>h
def KD(h:ad)(r:Nat)(k:Value):ad:=
 match h[r]? with
 |some (.map es clock)=>h.setIfInBounds r (.map (Ha k es.toList).toArray clock)
 |_=>h
def AL(P:Program)(t:TypeId)(m k v:Value)(K:WK)(h:ad):Prop:=
 match GU P t,m with
 |some (c,_),.map m=>c.dec k fun _=>∃r,m=some r∧K6 c h r∧K undef (Pt h r k v)
 |_,_=>False
def Bf(P:Program)(t:TypeId)(m k:Value)(K:WK)(h:ad):Prop:=
 match GU P t,m with
 |some (c,_),.map m=>c.dec k fun _=>(m=none∧K (.tuple #[]) h)∨(∃r,m=some r∧K6 c h r∧K (.tuple #[]) (KD h r k))
 |_,_=>False
def Na(P:Program):List TypeId→Option (List Kind)
 | []=>some []
 |t::ts=>match BV P t,Na P ts with
  |some k,some ks=>some (k::ks)
  |_,_=>none
def Nb(P:Program)(t:TypeId):Option (List Kind):=
 match P.underlying t with
 |some (.tuple ts)=>Na P ts.toList
 |_=>Na P [t]
noncomputable def PU(P:Program)(f:Operand)(r:cn)(args:List Value)(t:TypeId)(K:WK)(h:ad):Prop:=
 match Nb P t with
 |none=>False
 |some ks=>match f with
  | .func f=>HC P f args ks (fun x a=>K (BI ks (lQ ks x)) a) h
  |f=>match c7 r f with
   |some fv=>HV P fv args ks (fun x a=>K (BI ks (lQ ks x)) a) h
   |none=>False
def MM(it:Value)(K:WK)(h:ad):Prop:=
 match it with
 | .pointer (some a)=>a.off=0∧
  ∃m since seen last,h[a.block]? =some (.mapIter m since seen last)∧
   ((m=none∧K (.tuple #[.bool false]) h)∨
    (∃r es clock,m=some r∧h[r]? =some (.map es clock)∧(seen.isEmpty=true∨es.isEmpty=true∨es.all (fun e=>decide (e.born≥last))=false)∧
     ((∀e∈es.toList,e.born<since→seen.contains e.born=true)→K (.tuple #[.bool false]) h)∧
     (∀e∈es.toList,seen.contains e.born=false→K (.tuple #[.bool true,e.key,e.val]) (h.setIfInBounds a.block (.mapIter (some r) since (seen.push e.born) clock)))))
 |_=>False
noncomputable def CW(P:Program)(o:Oper)(r:cn)(K:WK)(h:ad):Prop:=
 match o.op with
 | .alloc t=>(match oL P t with|some z=>K (.pointer (some (aA h))) (hnew h z t)|none=>False)
 | .box t x=>(match c7 r x with|some v=>K (.pointer (some (aA h))) (hnew h v.cells.toList t)|none=>False)
 | .build t ps=>(match ot r ps.toList with
  |some vs=>(match FB P t vs with|some cs=>K (.agg cs.toArray) h|none=>False)
  |none=>False)
 | .buildSlice t n ps=>(match tg P t,ot r ps.toList with
  |some e,some vs=>(match oL P e with
   |some z=>bif vg (n*bK P e) 16777216&&bw z.length (bK P e)then
     (match Ae (fun i=>some (i*bK P e,bK P e)) (df n z) vs with|some cs=>K (.slice (some (aA h)) n n) (hnew h cs e)|none=>False)
    else False
   |none=>False)
  |_,_=>False)
 | .store t a x=>(match c7 r a,c7 r x with|some a,some v=>HZ P t a v K h|_,_=>False)
 | .mapUpdate t m k x=>(match c7 r m,c7 r k,c7 r x with|some m,some k,some v=>AL P t m k v K h|_,_,_=>False)
 | .insert t m k x=>(match c7 r m,c7 r k,c7 r x with|some m,some k,some v=>AL P t m k v K h|_,_,_=>False)
 | .makeMap t n=>(match n with
  |none=>K (.map (some h.size)) (h.push (.map #[] 0))
  |some n=>(match c7 r n,P.underlying t with|some (.int _ _),some (.map _ _)=>K (.map (some h.size)) (h.push (.map #[] 0))|_,_=>False))
 | .makeSlice t l c=>(match tg P t,c7 r l,c7 r c with
  |some e,some (.int _ l),some (.int _ c)=>(match oL P e with
   |some z=>bif bw z.length (bK P e)then(0≤l∧l≤c∧c≤9223372036854775807∧oQ P e*c≤2^48)∧K (.slice (some (aA h)) l.toNat c.toNat) (hnew h (df c.toNat z) e)else False
   |none=>False)
  |_,_,_=>False)
 | .convert s d x=>(match P.underlying s,P.underlying d,c7 r x with
  |some .string,some (.slice e),some (.string v)=>bif IT P e then ByP e v h (fun c b=>K (.slice (some (aA h)) v.size c) b)else False
  |_,_,_=>False)
 | .range t x=>(match P.underlying t,c7 r x with
  |some (.map _ _),some (.map m)=>∃clock,(m=none∧clock=0∨∃r es,m=some r∧h[r]? =some (.map es clock))∧K (.pointer (some (aA h))) (h.push (.mapIter m clock #[] clock))
  |_,_=>False)
 | .next it false=>(match c7 r it with|some it=>MM it K h|none=>False)
 | .call c=>(match c.callee,oN r c.args.toList with
  | .builtin .append,some [s,x]=>(match c.argTypes.toList with| [t,u]=>(match P.underlying u with|some (.slice _)=>AM P t s x K h|some .string=>AM P t s x K h|some (.int _)=>Bh P t s x K h|_=>False)|_=>False)
  | .builtin .clear,some [x]=>(match c.argTypes.toList with| [t]=>H0 P t x K h|_=>False)
  | .builtin .copy,some [d,s]=>(match c.argTypes.toList with| [t,_]=>MN P t d s K h|_=>False)
  | .builtin .delete,some [m,k]=>(match c.argTypes.toList with| [t,_]=>Bf P t m k K h|_=>False)
  | .value f,some args=>PU P f r args o.type K h
  |_,_=>False)
 |_=>False
def th(P:Program):Op→Bool
 | .convert s d _=> !QK P s d
 | .alloc _| .box .. | .buildSlice .. | .store .. | .mapUpdate .. | .insert .. | .makeMap .. | .makeSlice .. | .range .. | .next .. =>false
 | .call c=>match c.callee with
  | .builtin .len| .builtin .cap| .builtin .min| .builtin .max=>true
  |_=>false
 |_=>true
def wI(N:Nat)(o:Oper)(v:Value)(r:cn)(K:cn→Prop):Prop:=
 match o.dst with
 |none=>K r
 |some d=>bif Nat.blt d N then K ((d,v)::r)else False
noncomputable def Rj(P:Program)(N:Nat)(ek:Option (Kind×Kind))(o:Oper)(r:cn)(K:cn→ad→Prop)(h:ad):Prop:=
 bif th P o.op then yK P ek o.op r (fun v _=>wI N o v r fun a=>K a h) h
 else CW P o r (fun v b=>wI N o v r fun a=>K a b) h
inductive DV where
 |f|t|u|x
abbrev r7:=List (Nat×DV)
noncomputable def pc(d:r7)(t:Nat):DV:=
 eZ (motive:=fun _=>DV) .x (fun a _ b=>bif bw a.1 t then a.2 else b) d
noncomputable def xQ(d:r7):Operand→DV
 | .tmp t=>pc d t
 | .const (.bool true)=>.t
 | .const (.bool false)=>.f
 |_=>.x
noncomputable def Gb(d:r7):Op→DV
 | .move x=>xQ d x
 | .assign x=>xQ d x
 | .pick c a b=>match xQ d c with
  | .t=>xQ d a
  | .f=>xQ d b
  |_=>.x
 | .unOp .not _ x=>match xQ d x with
  | .t=>.f
  | .f=>.t
  |_=>.x
 |_=>.x
def px(d:r7)(o:Oper)(v:DV):r7:=match o.dst with|some t=>(t,v)::d|none=>d
noncomputable def g7(ops:List Oper)(d:r7)(o:Oper):Option Bool:=
 match o.guard with
 |none=>some true
 |some (j,want)=>match ops[j]? with
  |none=>none
  |some oj=>match oj.dst with
   |none=>none
   |some t=>match pc d t with
    | .t=>some want
    | .f=>some (!want)
    | .u=>some false
    | .x=>none
def B5(ops:List Oper)(o:Oper):Option Nat:=
 match o.guard with
 |none=>none
 |some (j,_)=>match ops[j]? with
  |none=>none
  |some oj=>oj.dst
noncomputable def DG(P:Program)(N:Nat)(ek:Option (Kind×Kind))(ops:List Oper)(o:Oper)(d:r7)(r:cn)(h:ad)(K:r7→cn→ad→Prop):Prop:=
 match g7 ops d o with
 |some true=>Rj P N ek o r (K (px d o (Gb d o.op))) h
 |some false=>wI N o undef r fun a=>K (px d o .u) a h
 |none=>False
noncomputable def Bz(P:Program)(N:Nat)(ek:Option (Kind×Kind))(ops:List Oper)(l:List Oper):r7→(cn→ad→Prop)→cn→ad→Prop:=
 eZ (motive:=fun _=>r7→(cn→ad→Prop)→cn→ad→Prop) (fun _ K r h=>K r h)
  (fun o _ e d K r h=>
  match g7 ops d o with
  |some true=>Rj P N ek o r (fun a c=>e (px d o (Gb d o.op)) K a c) h
  |some false=>wI N o undef r fun a=>e (px d o .u) K a h
  |none=>match B5 ops o with
   |none=>False
   |some t=>match jd r t with
    |some (.bool b)=>CondP b
     (DG P N ek ops o ((t,.t)::d) ((t,.bool true)::r) h fun f a c=>e f K a c)
     (DG P N ek ops o ((t,.f)::d) ((t,.bool false)::r) h fun f a c=>e f K a c)
    |_=>False) l
inductive DA where
 |done
 |take (i:Nat) (rest:DA)
 |all (l:DA)
 |pick (i:Nat) (rest more:DA)
 |last (i:Nat) (rest:DA)
 |lastT (i:Nat) (rest:DA)
 |split (t:Nat) (yes no:DA)
abbrev oT:=List (Nat×(ad→Prop))
def tb(m i:Nat):Bool:=bw (iw (Nat.shiftRight m i) 1) 1
def gc(i:Nat):Nat:=Nat.pow 2 i
inductive DM where
 |mk (am fr lk ds:Nat)
def DM.am:DM→Nat| .mk a _ _ _=>a
def DM.fr:DM→Nat| .mk _ f _ _=>f
def DM.lk:DM→Nat| .mk _ _ l _=>l
def DM.ds:DM→Nat| .mk _ _ _ d=>d
def g8(o:Oper)(i:Nat):Bool:=o.after.toList.any fun e=>bw e.on i&&Region.binds .any e
noncomputable def kY(l:List Edge):Nat:=
 eZ (motive:=fun _=>Nat) 0 (fun e _ a=>bif Region.binds .any e then cG (gc e.on) a else a) l
noncomputable def j5(l:List Operand):Nat:=
 eZ (motive:=fun _=>Nat) 0 (fun o _ a=>match o with| .tmp t=>cG (gc t) a|_=>a) l
def l0(o:Oper):Nat:=match o.dst with|some d=>gc d|none=>0
noncomputable def my(ops:List Oper)(o:Oper):Nat:=
 cG (j5 o.op.operands.toList) (match o.guard with
  |some (g,_)=>(match ops[g]? with|some og=>l0 og|none=>0)
  |none=>0)
noncomputable def tT(ops:List Oper)(l:List Oper):List DM→Bool:=
 eZ (motive:=fun _=>List DM→Bool) (fun ms=>match ms with| []=>true|_=>false)
  (fun o _ a ms=>match ms with
   |m::ms=>bw (kY o.after.toList) m.am&&bw (my ops o) m.lk&&bw (l0 o) m.ds&&a ms
   | []=>false) l
def zs(x y:DM):Bool:=bw (iw x.ds (cG y.lk y.ds)) 0&&bw (iw y.ds x.lk) 0
noncomputable def Ee(i:Nat)(m:DM)(l:List DM):Nat→Bool:=
 eZ (motive:=fun _=>Nat→Bool) (fun _=>true)
  (fun n _ a j=>(!(tb m.fr j)||bw j i||tb n.am i||zs m n)&&a (fp j)) l
noncomputable def xJ(a:List DM)(l:List DM):Nat→Bool:=
 eZ (motive:=fun _=>Nat→Bool) (fun _=>true) (fun m _ b i=>Ee i m a 0&&b (fp i)) l
def GR:List Oper→Bool
 | []=>true
 |o::os=>(match o.op with| .select .. =>false| .defer _=>false|_=>true)&&GR os
noncomputable def AY(ops:List Oper)(ms:List DM):Bool:=tT ops ops ms&&xJ ms ms 0&&GR ops
def mK(o:Oper):oT→oT
 | []=> []
 |(k,S)::l=>bif g8 o k then mK o l else(k,S)::mK o l
def pM:oT→ad→Prop→Prop
 | [],_,R=>R
 |(_,S)::l,h,R=>S h∧pM l h R
def DQ(m:DM)(ls:Nat):Bool:=bw (iw m.am ls) m.am
noncomputable def j9(ls:Nat)(l:List DM):Nat→List Nat:=
 eZ (motive:=fun _=>Nat→List Nat) (fun _=> []) (fun m _ a j=>bif !(tb ls j)&&DQ m ls then j::a (fp j)else a (fp j)) l
def Bp(m:DM)(i ls n:Nat):Bool:= !(tb ls i)&&DQ m ls&&bw (iw (cG ls m.fr) (uH (gc n))) (uH (gc n))
def sA:List Nat→List Nat→Bool
 | [],[]=>true
 |a::as,b::bs=>bw a b&&sA as bs
 |_,_=>false
def y8:DA→List Nat
 | .pick i _ l=>i::y8 l
 | .last i _=> [i]
 | .lastT i _=> [i]
 |_=> []
noncomputable def Lp(P:Program)(N:Nat)(ops:List Oper)(i:Nat)(L:oT)(d:r7)(r:cn)(h:ad)(K:oT→r7→cn→ad→Prop):Prop:=
 match ops[i]? with
 |none=>False
 |some o=>match g7 ops d o with
  |some true=>bif th P o.op then yK P none o.op r (fun v _=>wI N o v r fun a=>pM (mK o L) h (K (mK o L) (px d o .x) a h)) h else CW P o r (fun v b=>wI N o v r fun a=>pM (mK o L) b (K (mK o L) (px d o .x) a b)) h
  |_=>False
noncomputable def upM(m:Nat)(l:List DM):Nat→Nat:=
 eZ (motive:=fun _=>Nat→Nat) (fun _=>m) (fun n _ a j=>bif tb m j then cG n.am (a (fp j))else a (fp j)) l
noncomputable def xR(ms:List DM)(m:Nat):Nat:=upM (upM (upM (upM m ms 0) ms 0) ms 0) ms 0
def FJ(ms:List DM)(i:Nat):Nat:=match ms[i]? with|some m=>m.am|none=>0
def xq(m:Nat):oT→oT
 | []=> []
 |(k,S)::l=>bif tb m k then xq m l else(k,S)::xq m l
noncomputable def Kq(P:Program)(N:Nat)(ops:List Oper)(ms:List DM)(i:Nat)(L:oT)(d:r7)(r:cn)(h:ad)(K:oT→r7→cn→ad→Prop):Prop:=
 match ops[i]? with
 |none=>False
 |some o=>match g7 ops d o with
  |some true=>bif th P o.op then False else CW P o r (fun v a=>wI N o v r fun b=>pM (xq (xR ms (FJ ms i)) L) a (K (xq (xR ms (FJ ms i)) L) (px d o .x) b a)) h
  |_=>False
noncomputable def lI(P:Program)(N:Nat)(ops:List Oper)(ms:List DM)(k:DA):Bool→Nat→oT→r7→(cn→ad→Prop)→cn→ad→Prop:=
 DA.rec (motive:=fun _=>Bool→Nat→oT→r7→(cn→ad→Prop)→cn→ad→Prop)
  (fun m ls _ _ K r h=>bif !m&&sA (j9 ls ms 0) []then K r h else False)
  (fun i _ c m ls L d K r h=>
   match ops[i]?,ms[i]? with
   |some o,some mi=>bif !m&&Bp mi i ls ops.length then
     (match g7 ops d o with
      |none=>False
      |some false=>wI N o undef r fun a=>c false (cG ls (gc i)) L (px d o .u) K a h
      |some true=>bif th P o.op then
       yK P none o.op r (fun v S=>wI N o v r fun a=>match S with
        |none=>c false (cG ls (gc i)) L (px d o (Gb d o.op)) K a h
        |some S=>c false (cG ls (gc i)) ((i,S)::L) (px d o (Gb d o.op)) K a h) h
       else False)
    else False
   |_,_=>False)
  (fun l c m ls L d K r h=>bif !m&&sA (j9 ls ms 0) (y8 l)then c true ls L d K r h else False)
  (fun i _ _ f e m ls L d K r h=>bif m then Lp P N ops i L d r h (fun L' j a g=>f false (cG ls (gc i)) L' j K a g)∧e true ls L d K r h else False)
  (fun i _ c m ls L d K r h=>bif m then Lp P N ops i L d r h (fun L' j a g=>c false (cG ls (gc i)) L' j K a g)else False)
  (fun i _ c m ls L d K r h=>bif m then Kq P N ops ms i L d r h (fun L' j a g=>c false (cG ls (gc i)) L' j K a g)else False)
  (fun t _ _ f e m ls L d K r h=>
   bif m then False else match jd r t with
   |some (.bool b)=>CondP b (f false ls L ((t,.t)::d) K ((t,.bool true)::r) h) (e false ls L ((t,.f)::d) K ((t,.bool false)::r) h)
   |_=>False)
  k
noncomputable def SI(b:Oper)(i:Nat)(ds lk:Nat)(ops:List Oper)(l:List Oper):Nat→Nat:=
 eZ (motive:=fun _=>Nat→Nat) (fun _=>0) (fun p _ a j=>bif (bw j i||g8 p i||(bw (iw ds (cG (my ops p) (l0 p))) 0&&bw (iw (l0 p) lk) 0))then cG (gc j) (a (fp j))else a (fp j)) l
noncomputable def Sz(ops:List Oper)(l:List Oper):Nat→List DM:=
 eZ (motive:=fun _=>Nat→List DM) (fun _=> []) (fun o _ a i=>.mk (kY o.after.toList) (SI o i (l0 o) (my ops o) ops ops 0) (my ops o) (l0 o)::a (fp i)) l
def Rv(P:Program)(w:Option Bool)(o:Oper):Bool:=match w with|some false=>true|some true=>th P o.op|none=>false
noncomputable def QP(P:Program)(ops:List Oper)(d:r7)(ls n:Nat)(l:List Oper):List DM→Nat→Option (Nat×Oper):=
 eZ (motive:=fun _=>List DM→Nat→Option (Nat×Oper)) (fun _ _=>none)
  (fun o _ a ms j=>match ms with
   | []=>none
   |m::ms=>bif Bp m j ls n&&Rv P (g7 ops d o) o then some (j,o)else a ms (fp j)) l
noncomputable def QQ(ops:List Oper)(d:r7)(ls:Nat)(l:List Oper):List DM→Nat→Option Nat:=
 eZ (motive:=fun _=>List DM→Nat→Option Nat) (fun _ _=>none)
  (fun o _ a ms j=>match ms with
   | []=>none
   |m::ms=>match bif !(tb ls j)&&DQ m ls then(match g7 ops d o with|none=>B5 ops o|some _=>none)else none with
    |some t=>some t
    |none=>a ms (fp j)) l
noncomputable def RO(ops:List Oper)(k:Nat→r7→DA)(ls:Nat)(d:r7)(l:List Nat):DA:=
 eZ (motive:=fun _=>DA) .done (fun i a b=>match ops[i]? with
  |none=>.done
  |some o=>match a with
   | []=>.last i (k (cG ls (gc i)) (px d o .x))
   |_=>.pick i (k (cG ls (gc i)) (px d o .x)) b) l
noncomputable def Q8(P:Program)(ops:List Oper)(ms:List DM)(fuel:Nat):Nat→r7→DA:=
 Nat.rec (motive:=fun _=>Nat→r7→DA) (fun _ _=>.done) (fun _ a ls d=>
  match QP P ops d ls ops.length ops ms 0 with
  |some (i,o)=>.take i (a (cG ls (gc i)) (match g7 ops d o with|some false=>px d o .u|_=>px d o (Gb d o.op)))
  |none=>match QQ ops d ls ops ms 0 with
   |some t=>.split t (a ls ((t,.t)::d)) (a ls ((t,.f)::d))
   |none=>match j9 ls ms 0 with
    | []=>.done
    |l=>.all (RO ops a ls d l)) fuel
noncomputable def KA(ops:List Oper):List DM:=Sz ops ops 0
inductive Ex where
 |exit (id:Nat)
 |ret
abbrev St:=List (Nat×Kind)
def wd:St→List Kind
 | []=> []
 |(_,k)::l=>k::wd l
noncomputable def Bt(r:cn):St→Option (List Value)
 | []=>some []
 |(i,_)::l=>match jd r i,Bt r l with
  |some v,some vs=>some (v::vs)
  |_,_=>none
noncomputable def zQ(a:St)(r:cn)(f:sU (wd a)→Prop):Prop:=
 match Bt r a with
 |some vs=>AE (wd a) vs f
 |none=>False
def lX:St→List Value→cn→cn
 |(i,_)::l,v::vs,r=>(i,v)::lX l vs r
 |_,_,r=>r
noncomputable def KG(r:cn)(l:List Nat):Option cn:=
 eZ (motive:=fun _=>Option cn) (some []) (fun t _ a=>match jd r t,a with
  |some v,some l=>some ((t,v)::l)
  |_,_=>none) l
noncomputable def j4(t:Nat)(l:List Oper):Bool:=
 eZ (motive:=fun _=>Bool) false (fun o _ a=>match o.dst with|some d=>bif bw d t then true else a|none=>a) l
noncomputable def fQ(t:Nat)(c:Code):Bool:=
 Code.rec (motive:=fun _=>Bool) false (fun _ ops _=>j4 t ops.toList) (fun _ _ a b=>bif a then true else b) (fun _ _ _ a b=>bif a then true else b)
  (fun _ _ b=>b) (fun _ b=>b) (fun _ _ _ _ _ _=>true) (fun _=>false) (fun _ b=>b) (fun _=>false) (fun _=>false) false (fun _=>false) c
inductive Ann where
 |nil
 |node (a b:Ann)
 |join (st:St) (a b:Ann)
 |loop (st:St) (b:Ann)
 |draw (d:DA)
 |kinds (k v:Kind)
 |reg (keep:List Nat) (inner:Ann)
 |rf (ks:List Kind) (a b:Ann)
def Ann.l:Ann→Ann
 | .node a _=>a
 | .rf _ a _=>a
 |_=>.nil
def Ann.r:Ann→Ann
 | .node _ b=>b
 | .rf _ _ b=>b
 |_=>.nil
noncomputable def MK(l:List Oper):Nat:=eZ (motive:=fun _=>Nat) 0 (fun o _ a=>cG (l0 o) a) l
def RP:Option Nat→Option Nat→Option Nat
 |some a,some b=>some (cG a b)
 |_,_=>none
noncomputable def vx(c:Code):Option Nat:=
 Code.rec (motive:=fun _=>Option Nat) (some 0) (fun _ ops _=>some (MK ops.toList)) (fun _ _ a b=>RP a b) (fun _ _ _ a b=>RP a b)
  (fun _ _ b=>b) (fun _ b=>b) (fun _ _ _ _ _ _=>none) (fun _=>some 0) (fun _ b=>b) (fun _=>some 0) (fun _=>some 0) (some 0) (fun _=>some 0) c
noncomputable def tY(m:Nat)(r:cn):cn:=eZ (motive:=fun _=>cn) [] (fun a _ b=>bif tb m a.1 then b else a::b) r
noncomputable def yS(P:Program)(N:Nat)(ops:List Oper)(b:Bool)(a:Ann)(Kn:cn→ad→Prop)(r:cn)(h:ad):Prop:=
 match b with
 |false=>(match a with
  | .kinds kk vk=>Bz P N (some (kk,vk)) ops ops [] Kn r h
  |_=>Bz P N none ops ops [] Kn r h)
 |true=>bif AY ops (KA ops)then lI P N ops (KA ops) (match a with| .draw da=>da|_=>Q8 P ops (KA ops) (Nat.add (Nat.add ops.length ops.length) 2) 0 []) false 0 [] [] Kn r h else False
noncomputable def jT(P:Program)(N:Nat)(c:Code):Ann→(cn→ad→Prop)→(Ex→cn→ad→Prop)→cn→ad→Prop:=
 Code.rec (motive:=fun _=>Ann→(cn→ad→Prop)→(Ex→cn→ad→Prop)→cn→ad→Prop)
  (fun _ Kn _ r h=>Kn r h)
  (fun _ ops q d Kn _ r h=>match d with
   | .reg keep d=>yS P N ops.toList q d (fun g f=>match KG g keep with|some r0=>Kn r0 f|none=>False) r h
   |d=>yS P N ops.toList q d Kn r h)
  (fun a _ k j d Kn Kx r h=>match d with
   | .join st aa ab=>(match vx a with
     |none=>False
     |some m=>Join (T:=sU (wd st)) (fun t f=>j ab Kn Kx (lX st (lQ (wd st) t) (tY m r)) f)
      fun J=>k aa (fun g f=>zQ st g fun t=>J t f) Kx r h)
   |d=>k d.l (fun g f=>j d.r Kn Kx g f) Kx r h)
  (fun c _ _ k j d Kn Kx r h=>match c7 r c with
   |some (.bool t)=>CondP t (k d.l Kn Kx r h) (j d.r Kn Kx r h)
   |_=>False)
  (fun id _ p d Kn Kx r h=>p d Kn (fun e g f=>match e with
    | .exit i=>bif bw i id then Kn g f else Kx (.exit i) g f
    | .ret=>Kx .ret g f) r h)
  (fun b p d _ Kx r h=>match d with
   | .loop st ab=>(match vx b with
     |none=>False
     |some m=>zQ st r fun s=>LoopP (T:=sU (wd st)) (fun n t f=>p ab (fun g o=>zQ st g fun u=>n u o) Kx (lX st (lQ (wd st) t) (tY m r)) f) s h)
   |_=>False)
  (fun _ _ _ _ _ _ _ _ _ _ _=>False)
  (fun id _ _ Kx r h=>Kx (.exit id) r h)
  (fun _ _ _ _ _ _ _=>False)
  (fun _ _ Kn _ r h=>Kn r h)
  (fun _ _ _ _ _ _=>False)
  (fun _ _ Kx r h=>Kx .ret r h)
  (fun _ _ _ _ _ _=>False)
  c
noncomputable def lY(P:Program)(r:cn)(h:ad):List ResultVar→(List Value→Prop)→Prop
 | [],K=>K []
 | .tmp t::l,K=>(match jd r t with|some v=>lY P r h l fun vs=>K (v::vs)|none=>False)
 | .cell a t::l,K=>(match jd r a with
  |some v=>Gy P t v (fun x _=>lY P r h l fun vs=>K (x::vs)) h
  |none=>False)
def oe:Nat→List Value→cn
 |_,[]=> []
 |i,v::vs=>(i,v)::oe (i+1) vs
noncomputable def Kr(P:Program)(fn:Func)(c:Code)(b:Ann)(args:List Value)(ks:List Kind)(K:sU ks→ad→Prop)(h:ad):Prop:=
 jT P fn.ntmps c b
  (fun r a=>lY P r a fn.results.toList fun vs=>AE ks vs fun t=>K t a)
  (fun e r a=>match e with
   | .ret=>lY P r a fn.results.toList fun vs=>AE ks vs fun t=>K t a
   | .exit _=>False)
  (oe 0 args) h
noncomputable def pN(c:Code):Bool:=
 Code.rec (motive:=fun _=>Bool) false (fun _ _ _=>false) (fun _ _ a b=>bif a then true else b) (fun _ _ _ a b=>bif a then true else b)
  (fun _ _ b=>b) (fun _ b=>b) (fun _ _ _ _ _ _=>true) (fun _=>false) (fun _ b=>b) (fun _=>false) (fun _=>false) false (fun _=>false) c
def Fm:Option Ex→Option Code
 |none=>none
 |some (.exit i)=>some (.exit i)
 |some .ret=>some .ret
def SJ(N:ad→Prop)(X:Nat→ad→Prop)(R:ad→Prop):Option Ex→ad→Prop
 |none=>N
 |some (.exit i)=>X i
 |some .ret=>R
structure RangeP(P:Program)(fv:Value)(ks:List Kind)(h:ad)(RT:Obj→Obj→sU ks→(Option Ex→ad→Prop)→ad→Prop)(N:ad→Prop)(X:Nat→ad→Prop)(R:ad→Prop):Prop where
 run:∀lo:LoopState→Option Ex→Obj,(∀s j,∃r,lo s j=.loop r)→
  (∀x h' K,h'[h.size+1]? =some (lo .ready none)→
   RT (lo .ready none) (lo .busy none) x (fun j h2=>h2[h.size+1]? =some (lo .busy none)∧K j.isNone (h2.setIfInBounds (h.size+1) (lo (if j.isNone then .ready else .done) j))) h'→
   HV P (.func (.yield (h.size+1)) #[] #[]) (lQ ks x) [.c .bool] K h')→
  ∃f first cap,fv=.func (.func f) first cap∧HE P f (first.toList++ [.func (.yield (h.size+1)) #[] #[]]++cap.toList) []
   (fun _ h2=>∃s j,s≠ .busy∧h2[h.size+1]? =some (lo s j)∧SJ N X R j (h2.setIfInBounds (h.size+1) (lo .exhausted j))) ((h.push (.deferred (some []))).push (lo .ready none))
def OU:List Nat→List Value→cn→cn
 |i::l,v::vs,r=>OU l vs ((i,v)::r)
 |_,_,r=>r
noncomputable def H8(P:Program)(N:Nat)(ps:List Nat)(ks:List Kind)(assign body:Code)(c:Ann)(r:cn)(l:Nat)(DQ f:Obj)(x:sU ks)(k:Option Ex→ad→Prop)(h:ad):Prop:=
 jT P N assign c.l (fun d b=>b[l]? =some DQ∧jT P N body c.r (fun _ a=>k none a) (fun e _ a=>k (some e) a) d (b.setIfInBounds l f)) (fun _ _ _=>False) (OU ps (lQ ks x) r) h
def wx(N:Nat):List Nat→Bool
 | []=>true
 |n::l=>Nat.blt n N&&wx N l
noncomputable def wn(P:Program)(N:Nat)(c:Code):Ann→(List Nat→cn→ad→Prop)→(Ex→List Nat→cn→ad→Prop)→List Nat→cn→ad→Prop:=
 Code.rec (motive:=fun _=>Ann→(List Nat→cn→ad→Prop)→(Ex→List Nat→cn→ad→Prop)→List Nat→cn→ad→Prop)
  (fun d Kn Kx ms r h=>jT P N .skip d (Kn ms) (fun e=>Kx e ms) r h)
  (fun id ops q d Kn Kx ms r h=>jT P N (.region id ops q) d (Kn ms) (fun e=>Kx e ms) r h)
  (fun a b m j d Kn Kx ms r h=>bif (bif pN a then true else pN b)then m d.l (fun ms n f=>j d.r Kn Kx ms n f) Kx ms r h
   else jT P N (.seq a b) d (Kn ms) (fun e=>Kx e ms) r h)
  (fun c a b m j d Kn Kx ms r h=>bif (bif pN a then true else pN b)then
    (match c7 r c with
     |some (.bool t)=>CondP t (m d.l Kn Kx ms r h) (j d.r Kn Kx ms r h)
     |_=>False)
   else jT P N (.cond c a b) d (Kn ms) (fun e=>Kx e ms) r h)
  (fun id b o d Kn Kx ms r h=>bif pN b then o d Kn (fun e ms n f=>match e with
    | .exit i=>bif bw i id then Kn ms n f else Kx (.exit i) ms n f
    | .ret=>Kx .ret ms n f) ms r h
   else jT P N (.block id b) d (Kn ms) (fun e=>Kx e ms) r h)
  (fun b _ d Kn Kx ms r h=>jT P N (.loop b) d (Kn ms) (fun e=>Kx e ms) r h)
  (fun g ps assign body _ _ d Kn Kx ms r h=>match d with
   | .rf ks aa ab=>bif wx N ps.toList&&bw ps.toList.length ks.length then
    (match c7 r g with
     |some fv=>RangeP P fv ks h (fun DQ p x k f=>H8 P N ps.toList ks assign body (.node aa ab) r (h.size+1) DQ p x k f)
      (fun f=>Kn (h.size::ms) r f) (fun i f=>Kx (.exit i) (h.size::ms) r f) (fun f=>Kx .ret (h.size::ms) r f)
     |none=>False)else False
   |_=>False)
  (fun id d Kn Kx ms r h=>jT P N (.exit id) d (Kn ms) (fun e=>Kx e ms) r h)
  (fun _ _ _ _ _ _ _ _=>False)
  (fun l d Kn Kx ms r h=>jT P N (.label l) d (Kn ms) (fun e=>Kx e ms) r h)
  (fun _ _ _ _ _ _ _=>False)
  (fun d Kn Kx ms r h=>jT P N .ret d (Kn ms) (fun e=>Kx e ms) r h)
  (fun _ _ _ _ _ _ _=>False)
  c
def Kp:List Nat→(ad→Prop)→ad→Prop
 | [],K,h=>K h
 |D::ms,K,h=>h[D]? =some (.deferred (some []))∧Kp ms K (h.setIfInBounds D (.deferred none))
noncomputable def H9(P:Program)(fn:Func)(c:Code)(b:Ann)(args:List Value)(ks:List Kind)(K:sU ks→ad→Prop)(h:ad):Prop:=
 wn P fn.ntmps c b
  (fun ms r a=>Kp ms (fun a=>lY P r a fn.results.toList fun vs=>AE ks vs fun t=>K t a) a)
  (fun e ms r a=>match e with
   | .ret=>Kp ms (fun a=>lY P r a fn.results.toList fun vs=>AE ks vs fun t=>K t a) a
   | .exit _=>False)
  [] (oe 0 args) h
end Go.Lift
namespace Go.Lift
open Go
theorem Cs(a:Addr):adr a 0=a:=rfl
theorem xZ(a:Addr)(n:Nat):adr a (n+1)=⟨a.block,a.off+(n+1),none⟩:=rfl
theorem rt(a:Addr)(n:Nat):adr a n=a.add n:=by
 cases n with
 |zero=>simp[Cs,Addr.add]
 |succ n=>simp[xZ,Addr.add]
theorem A8(a:Addr)(m n:Nat):adr (adr a m) n=adr a (m+n):=by
 cases n with
 |zero=>rfl
 |succ n=>cases m with
  |zero=>simp[Cs]
  |succ m=>rw[xZ,xZ,show m+1+(n+1)=(m+1+n)+1 from rfl,xZ];simp;omega
theorem Tame.refl(w:World):Tame w w:=⟨rfl,rfl,rfl⟩
theorem Tame.trans{a b c:World}(h:Tame a b)(k:Tame b c):Tame a c:=⟨k.os.trans h.os,k.tape.trans h.tape,k.output.trans h.output⟩
theorem xG{a b:IntKind}(h:Ff a b=true):a=b:=by cases a<;>cases b<;>first|rfl|cases h
theorem CK.dec_sound{c:CK}{v:Value}{f:c.den→Prop}(h:c.dec v f):∃x,v=c.enc x∧f x:=by
 cases c<;>cases v<;>try simp only[CK.dec]at h
 case int.int k k' n=>
  cases hk:Ff k' k with
  |false=>rw[hk]at h;exact h.elim
  |true=>rw[hk]at h;have:=xG hk;subst this;exact⟨n,rfl,h⟩
 case adr.pointer p=>cases p with
  |none=>exact h.elim
  |some a=>exact⟨a,rfl,h⟩
 all_goals first|exact h.elim|exact⟨_,rfl,h⟩
theorem Ai:∀{cs:List CK} {vs:List Value} {f:OD cs→Prop},K3 cs vs f→∃t,vs=Oe cs t∧f t
 | [],[],f,h=>⟨(),rfl,h⟩
 | [],_::_,f,h=>h.elim
 | [c],[v],f,h=>by obtain⟨x,rfl,b⟩:=CK.dec_sound h;exact⟨x,rfl,b⟩
 | [c],[],f,h=>h.elim
 | [c],_::_::_,f,h=>h.elim
 |c::d::cs,[],f,h=>h.elim
 |c::d::cs,[_],f,h=>h.elim
 |c::d::cs,v::u::vs,f,h=>by
  have e:c.dec v fun x=>K3 (d::cs) (u::vs) fun t=>f (x,t):=h
  obtain⟨x,hx,a⟩:=CK.dec_sound e;obtain⟨t,i,g⟩:=Ai (cs:=d::cs) (vs:=u::vs) a;exact⟨(x,t),by rw[i,hx];rfl,g⟩
theorem Kind.dec_sound{k:Kind}{v:Value}{f:k.den→Prop}(h:k.dec v f):∃x,v=k.enc x∧f x:=by
 cases k with
 |c k=>exact CK.dec_sound h
 |agg cs=>
  cases v<;>simp only[Kind.dec]at h
  case agg vs=>
   obtain⟨t,b,a⟩:=Ai h;exact⟨t,by simp only[Kind.enc,←b],a⟩
theorem pS:∀{ks:List Kind} {vs:List Value} {f:sU ks→Prop},AE ks vs f→∃t,vs=lQ ks t∧f t
 | [],[],f,h=>⟨(),rfl,h⟩
 | [],_::_,f,h=>h.elim
 | [c],[v],f,h=>by obtain⟨x,rfl,b⟩:=Kind.dec_sound h;exact⟨x,rfl,b⟩
 | [c],[],f,h=>h.elim
 | [c],_::_::_,f,h=>h.elim
 |c::d::cs,[],f,h=>h.elim
 |c::d::cs,[_],f,h=>h.elim
 |c::d::cs,v::u::vs,f,h=>by
  have e:c.dec v fun x=>AE (d::cs) (u::vs) fun t=>f (x,t):=h
  obtain⟨x,hx,a⟩:=Kind.dec_sound e;obtain⟨t,i,g⟩:=pS (ks:=d::cs) (vs:=u::vs) a;exact⟨(x,t),by rw[i,hx];rfl,g⟩
theorem qz:∀(ks:List Kind) (t:sU ks),(lQ ks t).length=ks.length
 | [],_=>rfl
 | [_],_=>rfl
 |_::l::ks,(_,t)=>by simp only[lQ,aL,qz (l::ks) t]
structure Agree(N:Nat)(r:cn)(a:Act):Prop where
 size:a.tmps.size=N
 look:∀t v,jd r t=some v→a.tmps.getD t undef=v
theorem gK(k:Nat)(v:Value)(r:cn):jd ((k,v)::r) k=some v:=by rw[BG,show bw k k=true from Nat.beq_refl k];rfl
theorem ge{k t:Nat}(v:Value)(r:cn)(h:k≠t):jd ((k,v)::r) t=jd r t:=by
 rw[BG];have:bw k t=false:=Bool.eq_false_iff.2 fun e=>h (aS e)
 rw[this];rfl
theorem Agree.put{N:Nat}{r:cn}{a:Act}(h:Agree N r a)(d:Nat)(v:Value)(hd:d<N):Agree N ((d,v)::r) (a.put (some d) v):=by
 refine⟨by simp[Act.put,h.size],fun t u b=>?_⟩
 by_cases e:d=t
 ·subst e
  rw[gK]at b;cases b;simp[Act.put,h.size,hd]
 ·rw[ge v r e]at b
  have:=h.look t u b;simpa[Act.put,Array.getElem?_setIfInBounds_ne e]using this
theorem Agree.known{N:Nat}{r:cn}{a:Act}(h:Agree N r a){t:Nat}{v:Value}(hv:jd r t=some v):Agree N ((t,v)::r) a:=by
 refine⟨h.size,fun s u b=>?_⟩
 by_cases e:t=s
 ·subst e;rw[gK]at b;cases b;exact h.look t v hv
 ·rw[ge v r e]at b;exact h.look s u b
theorem j8{N:Nat}{r:cn}{a:Act}(h:Agree N r a){o:Operand}{v:Value}(hv:c7 r o=some v):a.eval o=v:=by
 cases o with
 |tmp t=>exact h.look t v hv
 |const c=>simp[c7]at hv;subst hv;rfl
 |global g=>simp[c7]at hv;subst hv;rfl
 |func f=>simp[c7]at hv;subst hv;rfl
theorem mJ{N:Nat}{r:cn}{a:Act}(h:Agree N r a):∀{os:List Operand} {vs:List Value},oN r os=some vs→os.map a.eval=vs
 | [],vs,hv=>by simp[oN]at hv;subst hv;rfl
 |o::os,vs,hv=>by
  simp only[oN]at hv;cases ho:c7 r o with
  |none=>simp[ho]at hv
  |some v=>cases hos:oN r os with
   |none=>simp[ho,hos]at hv
   |some us=>simp[ho,hos]at hv;subst hv;simp[j8 h ho,mJ h hos]
theorem aw{P:Program}{t:TypeId}{d:TypeDesc}(h:P.underlying t=some d)(w:World):(underlying t).run P w=.ok d w:=by
 simp only[underlying,program,bind,Sem.bind,Sem.run,h,pure]
theorem cD{P:Program}{t:TypeId}{i:TypeInfo}(h:P.info? t=some i)(w:World):(typeInfo t).run P w=.ok i w:=by
 simp only[typeInfo,program,bind,Sem.bind,Sem.run,h,pure]
theorem hP{P:Program}{s:Sem Value}{v:Value}{w w':World}(h:s.run P w=.ok v w'):(do pure (Next.value (←s)):Sem Next).run P w=.ok (.value v) w':=by
 simp[h]
theorem M8{P:Program}{s:Sem Unit}{w w':World}(h:s.run P w=.ok () w'):(do s;pure Next.skip:Sem Next).run P w=.ok .skip w':=by
 simp[h]
theorem xp{P:Program}{w:World}{a:Addr}{v:Value}(h:aK w.heap a=some v):(load a).run P w=.ok v w:=by
 have b:w.cell? a=some v:=h;simp[b]
theorem xU{v:Value}{vs:List Value}{i:Nat}{a:Addr}{h:ad}:qB (v::vs) i a h↔aK h (adr a i)=some v∧qB vs (i+1) a h:=by
 cases vs with
 |nil=>simp[qB]
 |cons u us=>rfl
theorem qn{P:Program}{w:World}{a:Addr}:∀(vs:List Value) (i:Nat) (acc:Array Value),qB vs i a w.heap→
  (loadCellsFrom a i vs.length acc).run P w=.ok (acc++vs.toArray) w
 | [],i,acc,_=>by simp[loadCellsFrom]
 |v::vs,i,acc,h=>by
  obtain⟨b,c⟩:=xU.1 h;rw[rt]at b;have:=qn (P:=P) (w:=w) (a:=a) vs (i+1) (acc.push v) c;simp only[aL,loadCellsFrom,Sem.run_bind,xp b,Result.andThen_ok,this];simp
theorem C0{P:Program}{w:World}{a:Addr}{vs:List Value}(h:qB vs 0 a w.heap):(loadCells a vs.length).run P w=.ok vs.toArray w:=by
 have:=qn (P:=P) (w:=w) (a:=a) vs 0 #[] h;simpa[loadCells]using this
theorem vF:∀(cs:List CK) (i:Nat) (a:Addr) (h:ad) (k:List Value→Prop),Fp cs i a h k→∃vs,vs.length=cs.length∧qB vs i a h∧k vs
 | [],i,a,h,k,b=>⟨[],rfl,trivial,b⟩
 |c::cs,i,a,h,k,b=>by
  obtain⟨x,hx,b⟩:=b;obtain⟨vs,d,hc,b⟩:=vF cs (i+1) a h _ b;exact⟨c.enc x::vs,by simp[d],xU.2 ⟨hx,hc⟩,b⟩
theorem xS:∀{vs:List Value} {cs:List CK},Cg vs=some cs→cs.length=vs.length
 | [],cs,h=>by simp[Cg]at h;subst h;rfl
 |v::vs,cs,h=>by
  simp only[Cg]at h;cases h1:Q5 v with
  |none=>simp[h1]at h
  |some c=>cases h2:Cg vs with
   |none=>simp[h1,h2]at h
   |some ds=>simp[h1,h2]at h;subst h;simp[xS h2]
def Oz(P:Program)(t:TypeId)(i:TypeInfo):Kind→Prop
 | .c _=>sS P t=false
 | .agg cs=>sS P t=true∧i.size=cs.length
theorem IL{P:Program}{t:TypeId}{k:Kind}(h:KF P t=some k):∃i,P.info? t=some i∧Oz P t i k:=by
 unfold KF vt at h;cases hi:P.info? t with
 |none=>simp[hi]at h
 |some i=>
  refine⟨i,rfl,?_⟩;cases hz:i.zero with
  |none=>simp[hi,hz]at h
  |some z=>
   rw[hi]at h;simp only[hz]at h;cases z;case agg vs=>
    simp only at h;cases hb:(sS P t&&bw vs.toList.length (bK P t))with
    |false=>rw[hb]at h;simp at h
    |true=>
     rw[hb]at h;simp only[cond_true]at h;simp only[Bool.and_eq_true]at hb;have a:=aS hb.2;cases hd:Cg vs.toList with
     |none=>rw[hd]at h;simp at h
     |some ds=>
      rw[hd]at h;simp only[bm.injEq]at h;subst h;exact⟨hb.1,by rw[xS hd,a];simp[bK,hi]⟩
   all_goals
    simp only at h;cases ha:sS P t
    ·rw[ha]at h
     simp only[cond_false]at h;split at h
     ·simp only[bm.injEq]at h;subst h;exact ha
     ·simp at h
    ·rw[ha]at h;simp at h
theorem IM{P:Program}{t:TypeId}{k:Kind}(h:BV P t=some k):(∀w,(isAgg t).run P w=.ok (sS P t) w)∧KF P t=some k:=by
 unfold BV at h;cases hu:P.underlying t with
 |none=>simp[hu]at h
 |some d=>
  simp only[hu]at h;refine⟨fun w=>?_,h⟩
  simp only[isAgg,Sem.run_bind,aw hu,Result.andThen_ok];unfold sS;rw[hu];cases d<;>rfl
theorem zU{P:Program}{t:TypeId}{v:Value}{K:RK}{h:ad}(d:Gy P t v K h):
  ∃u S,K u (some S)∧S h∧∀w:World,S w.heap→(Instr.loadAt t v).run P w=.ok u w:=by
 unfold Gy at d;cases v with
 |pointer p=>
  cases p with
  |none=>exact d.elim
  |some a=>
   simp only at d;cases hk:BV P t with
   |none=>simp[hk]at d
   |some k=>
    obtain⟨b,hz⟩:=IM hk;obtain⟨i,hi,hc⟩:=IL hz;rw[hk]at d;cases k with
    |c c=>
     obtain⟨x,hx,g⟩:=d;refine⟨_,_,g,hx,fun w j=>?_⟩
     have hc:sS P t=false:=hc;simp only[Instr.loadAt,Instr.sureAddr,loadVar,Sem.run_bind,Sem.run_pure,Result.andThen_ok,b,hc];simp[xp j]
    |agg cs=>
     obtain⟨vs,e,f,g⟩:=vF cs 0 a h _ d;obtain⟨m,n⟩:sS P t=true∧i.size=cs.length:=hc;refine⟨_,_,g,f,fun w j=>?_⟩
     have hz:(sizeOf t).run P w=.ok vs.length w:=by simp[sizeOf,cD hi,n,e]
     simp only[Instr.loadAt,Instr.sureAddr,loadVar,Sem.run_bind,Sem.run_pure,Result.andThen_ok,b,m];simp[hz,C0 j]
 |_=>exact d.elim
end Go.Lift
