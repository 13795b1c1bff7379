/- A part of the proof that the named laws of this program answer true, whatever the input. -/
import Derived.OrdersIn
import Derived.Below
import Derived.WalkKit
import Derived.RangeFuncRecord
import Derived.DefersIn
open BitVec renaming ofInt→ao
open Go.Instr renaming sureAddr→nG
open Go.Op renaming bytesLess→be
open Go.Result renaming andThen_ok→aB
open Go.Sem renaming run→pt,run_bind→aU,run_pure→bT
open Iff renaming rfl→Af
open List renaming rec→fP,replicate→lr,length_cons→ax
open Nat renaming succ→f6,beq→bK,ble→Ae,min→f9,blt→Ad,land→km,lor→di,pred→zL,eq_of_beq_eq_true→aV
open Option renaming some→bX
namespace Go.Lift
abbrev af:=Array Obj
def bj(h:af)(a:Addr):Option Value:=
 match h[a.block]? with
 |some (.cells c _ _)=>if a.spot.isSome then none else c[a.off]?
 |_=>none
def EX(h:af)(a:Addr):Bool:=
 match h[a.block]? with
 |some (.cells _ _ (lo,hi))=>lo≤a.off&&a.off<hi
 |_=>false
def hset(h:af)(a:Addr)(v:Value):af:=
 h.modify a.block fun
  | .cells c elem frozen=>.cells (if a.spot.isSome then c else c.setIfInBounds a.off v) elem frozen
  |o=>o
noncomputable def adr(a:Addr)(n:Nat):Addr:=Nat.rec (motive:=fun _=>Addr) a (fun n _=>⟨a.block,a.off+f6 n,none⟩) n
def Wr(h:af)(a:Addr):Prop:=(∃v,bj h a=some v)∧EX h a=false
structure Tame(w w':World):Prop where
 os:w'.os=w.os
 tape:w'.tape=w.tape
 output:w'.output=w.output
structure SliceV where
 a:Option Addr
 len:Nat
 cap:Nat
def Ju:IntKind→IntKind→Bool
 | .i8,.i8=>true| .i16,.i16=>true| .i32,.i32=>true| .i64,.i64=>true
 | .u8,.u8=>true| .u16,.u16=>true| .u32,.u32=>true| .u64,.u64=>true
 |_,_=>false
inductive CK where
 |int (k:IntKind)|bool|str|ptr|slice|map|chan|raw|adr
def CK.den:CK→Type
 | .int _=>Int| .bool=>Bool| .str=>ByteArray| .ptr=>Option Addr| .slice=>SliceV| .map=>Option Nat| .chan=>Option Nat| .raw=>Value| .adr=>Addr
def CK.enc:(c:CK)→c.den→Value
 | .int k,n=>.int k n
 | .bool,b=>.bool b
 | .str,s=>.string s
 | .ptr,p=>.pointer p
 | .slice,s=>.slice s.a s.len s.cap
 | .map,r=>.map r
 | .chan,r=>.chan r
 | .raw,v=>v
 | .adr,a=>.pointer (some a)
def CK.dec:(c:CK)→Value→(c.den→Prop)→Prop
 | .int k,.int k' n,f=>bif Ju k' k then f n else False
 | .bool,.bool b,f=>f b
 | .str,.string s,f=>f s
 | .ptr,.pointer p,f=>f p
 | .slice,.slice a l c,f=>f ⟨a,l,c⟩
 | .map,.map r,f=>f r
 | .chan,.chan r,f=>f r
 | .raw,v,f=>f v
 | .adr,.pointer (some a),f=>f a
 |_,_,_=>False
def Sn:List CK→Type
 | []=>Unit
 | [c]=>c.den
 |c::d::cs=>c.den×Sn (d::cs)
def RQ:(cs:List CK)→Sn cs→List Value
 | [],_=> []
 | [c],x=> [c.enc x]
 |c::d::cs,(x,t)=>c.enc x::RQ (d::cs) t
def Oh:(cs:List CK)→List Value→(Sn cs→Prop)→Prop
 | [],[],f=>f ()
 | [c],[v],f=>c.dec v f
 |c::d::cs,v::u::vs,f=>c.dec v fun x=>Oh (d::cs) (u::vs) fun t=>f (x,t)
 |_,_,_=>False
inductive Kind where
 |c (k:CK)
 |agg (cs:List CK)
def Kind.den:Kind→Type
 | .c k=>k.den
 | .agg cs=>Sn cs
def Kind.enc:(k:Kind)→k.den→Value
 | .c k,x=>k.enc x
 | .agg cs,t=>.agg (RQ cs t).toArray
def Kind.dec:(k:Kind)→Value→(k.den→Prop)→Prop
 | .c k,v,f=>k.dec v f
 | .agg cs,.agg vs,f=>Oh cs vs.toList f
 |_,_,_=>False
def wS:List Kind→Type
 | []=>Unit
 | [k]=>k.den
 |k::l::ks=>k.den×wS (l::ks)
def oA:(ks:List Kind)→wS ks→List Value
 | [],_=> []
 | [k],x=> [k.enc x]
 |k::l::ks,(x,t)=>k.enc x::oA (l::ks) t
def ED:(ks:List Kind)→List Value→(wS ks→Prop)→Prop
 | [],[],f=>f ()
 | [k],[v],f=>k.dec v f
 |k::l::ks,v::u::vs,f=>k.dec v fun x=>ED (l::ks) (u::vs) fun t=>f (x,t)
 |_,_,_=>False
def Eu(ks:List Kind)(vs:List Value):Value:=
 match ks,vs with
 | [_],[v]=>v
 |_,vs=>.tuple vs.toArray
def UH:Value→Option CK
 | .int k _=>some (.int k)
 | .bool _=>some .bool
 | .string _=>some .str
 | .pointer _=>some .ptr
 | .slice .. =>some .slice
 | .map _=>some .map
 | .chan _=>some .chan
 | .nilFunc=>some .raw
 | .nilIface=>some .raw
 |_=>none
def Ga:List Value→Option (List CK)
 | []=>some []
 |v::vs=>match UH v,Ga vs with
  |some c,some cs=>some (c::cs)
  |_,_=>none
def xP(P:Program)(t:TypeId):Bool:=
 match P.underlying t with
 |some (.struct _)|some (.array _ _)=>true
 |_=>false
def cf(P:Program)(t:TypeId):Nat:=match P.info? t with|some i=>i.size|none=>0
def sZ(P:Program)(t:TypeId):Nat:=match P.info? t with|some i=>i.bytes|none=>0
def Ar(P:Program)(t:TypeId):Option Value:=match P.info? t with|some i=>i.zero|none=>none
def N4(P:Program)(t:TypeId):Option Kind:=
 match Ar P t with
 |some (.agg vs)=>bif xP P t&&bK vs.toList.length (cf P t)then(match Ga vs.toList with|some cs=>some (.agg cs)|none=>none)else none
 |some v=>bif xP P t then none else(match UH v with|some c=>some (.c c)|none=>none)
 |none=>none
def FO(P:Program)(t:TypeId):Option Kind:=
 match P.underlying t with
 |none=>none
 |some _=>N4 P t
structure HC(P:Program)(f:FuncId)(args:List Value)(ks:List Kind)(K:wS ks→af→Prop)(h:af):Prop where
 run:∀w:World,w.heap=h→
  ((callFunc f args.toArray).run P w=.ok (.enter f args.toArray) w∧
   Calls P f args.toArray w fun e w'=>Tame w w'∧∃t:wS ks,e=.returned (Eu ks (oA ks t))∧K t w'.heap)∨
  (∃v w',(callFunc f args.toArray).run P w=.ok (.value v) w'∧Tame w w'∧∃t:wS ks,v=Eu ks (oA ks t)∧K t w'.heap)
structure HE(P:Program)(f:FuncId)(args:List Value)(ks:List Kind)(K:wS ks→af→Prop)(h:af):Prop where
 run:∀w:World,w.heap=h→(∀(args:Array Value) (w:World),(callFunc f args).run P w=.ok (.enter f args) w)∧
  Calls P f args.toArray w fun e w'=>Tame w w'∧∃t:wS ks,e=.returned (Eu ks (oA ks t))∧K t w'.heap
theorem HE.hc{P:Program}{f:FuncId}{args:List Value}{ks:List Kind}{K:wS ks→af→Prop}{h:af}(e:HE P f args ks K h):HC P f args ks K h:=
 ⟨fun w b=>.inl ⟨(e.run w b).1 _ w,(e.run w b).2⟩⟩
structure HY(P:Program)(l:Nat)(args:List Value)(K:Bool→af→Prop)(h:af):Prop where
 run:∀w:World,w.heap=h→∃fn tmps assign body,(Instr.yield l args.toArray).run P w=.ok (.round l fn tmps assign body) w∧
  ∀(c:Frame) (cs:List Frame),∃b w',Tame w w'∧K b w'.heap∧Steps P (lone (Frame.round l fn tmps assign body .normal) (c::cs) w) (lone (c.finish (.bool b)) cs w')
structure HV(P:Program)(fv:Value)(args:List Value)(ks:List Kind)(K:wS ks→af→Prop)(h:af):Prop where
 run:(∃f first cap,fv=.func (.func f) first cap∧HC P f (first.toList++args++cap.toList) ks K h)∨
  (∃l,fv=.func (.yield l) #[] #[]∧HY P l args (fun b h'=>ED ks [.bool b] fun t=>K t h') h)
noncomputable def CondP(b:Bool)(t e:Prop):Prop:=Bool.rec (motive:=fun _=>Prop) e t b
theorem CondP.yes{b:Bool}{t e:Prop}(h:CondP b t e)(c:b=true):t:=by subst c;exact h
theorem CondP.no{b:Bool}{t e:Prop}(h:CondP b t e)(c:b=false):e:=by subst c;exact h
theorem CondP.intro{b:Bool}{t e:Prop}(c:b=true→t)(h2:b=false→e):CondP b t e:=by cases b;exact h2 rfl;exact c rfl
theorem aX{t e:Prop}:CondP true t e↔t:=Af
theorem aH{t e:Prop}:CondP false t e↔e:=Af
attribute [irreducible] CondP
def At(h:af)(k:af→Prop):Prop:=k h
def Bd{T:Type}(x:T)(k:T→Prop):Prop:=k x
structure Join{T:Type}(rest:T→af→Prop)(k:(T→af→Prop)→Prop):Prop where
 run:k rest
structure LoopP{T:Type}(F:(T→af→Prop)→T→af→Prop)(t:T)(h:af):Prop where
 run:∀I:T→af→Prop,(∀t h,F I t h→I t h)→I t h
abbrev cO:=List (Nat×Value)
noncomputable def lD(r:cO)(t:Nat):Option Value:=
 fP (motive:=fun _=>Option Value) none (fun b _ c=>bif bK b.1 t then some b.2 else c) r
theorem Fu(k:Nat)(v:Value)(r:cO)(t:Nat):lD ((k,v)::r) t=bif bK k t then some v else lD r t:=rfl
noncomputable def dF(r:cO):Operand→Option Value
 | .tmp t=>lD r t
 | .const v=>some v
 | .global g=>some (.pointer (some ⟨g,0,none⟩))
 | .func f=>some (.func (.func f) #[] #[])
noncomputable def pC(r:cO):List Operand→Option (List Value)
 | []=>some []
 |o::os=>match dF r o,pC r os with
  |some v,some vs=>some (v::vs)
  |_,_=>none
noncomputable def JD:List CK→Nat→Addr→af→(List Value→Prop)→Prop
 | [],_,_,_,k=>k []
 |c::cs,i,a,h,k=>∃x:c.den,bj h (adr a i)=some (c.enc x)∧JD cs (i+1) a h fun vs=>k (c.enc x::vs)
noncomputable def vG:List Value→Nat→Addr→af→Prop
 | [],_,_,_=>True
 | [v],i,a,h=>bj h (adr a i)=some v
 |v::u::vs,i,a,h=>bj h (adr a i)=some v∧vG (u::vs) (i+1) a h
abbrev RK:=Value→Option (af→Prop)→Prop
noncomputable def KF(P:Program)(t:TypeId)(v:Value)(K:RK)(h:af):Prop:=
 match v with
 | .pointer (some a)=>
  match FO P t with
  |some (.c c)=>∃x:c.den,bj h a=some (c.enc x)∧K (c.enc x) (some fun b=>bj b a=some (c.enc x))
  |some (.agg cs)=>JD cs 0 a h fun vs=>K (.agg vs.toArray) (some fun b=>vG vs 0 a b)
  |none=>False
 |_=>False
def yS(P:Program)(t:TypeId)(f:Nat):Option (TypeId×Nat):=
 match P.underlying t with
 |some (.struct fs)=>match fs.toList[f]? with
  |some g=>some (g.type,g.offset)
  |none=>none
 |_=>none
def ya(P:Program)(t:TypeId):Option TypeId:=
 match P.underlying t with
 |some (.slice e)=>some e
 |_=>none
def L7(c:BinOp)(k:IntKind)(a b:Int)(K:RK):Prop:=
 match c with
 | .shl=>0≤b∧K (.int k (k.wrap (a*2^(min b.toNat k.bits)))) none
 | .shr=>0≤b∧K (.int k (a.fdiv (2^(min b.toNat k.bits)))) none
 |_=>False
def Uo(c:BinOp)(k:IntKind)(a b:Int)(K:RK):Prop:=
 match c with
 | .add=>K (.int k (k.wrap (a+b))) none
 | .sub=>K (.int k (k.wrap (a-b))) none
 | .mul=>K (.int k (k.wrap (a*b))) none
 | .quo=>b≠0∧K (.int k (k.wrap (a.tdiv b))) none
 | .rem=>b≠0∧K (.int k (a.tmod b)) none
 | .and=>K (.int k (k.wrap (ao k.bits a&&&ao k.bits b).toNat)) none
 | .or=>K (.int k (k.wrap (ao k.bits a|||ao k.bits b).toNat)) none
 | .xor=>K (.int k (k.wrap (ao k.bits a^^^ao k.bits b).toNat)) none
 | .andNot=>K (.int k (k.wrap (ao k.bits a&&& ~~~ao k.bits b).toNat)) none
 | .eql=>K (.bool (a==b)) none
 | .neq=>K (.bool (a !=b)) none
 | .lss=>K (.bool (decide (a<b))) none
 | .leq=>K (.bool (decide (a≤b))) none
 | .gtr=>K (.bool (decide (a>b))) none
 | .geq=>K (.bool (decide (a≥b))) none
 |_=>False
def T7(c:BinOp)(a b:ByteArray)(K:RK):Prop:=
 match c with
 | .add=>((a.size+b.size:Nat):Int)≤9223372036854775807∧K (.string (a++b)) none
 | .eql=>K (.bool (a.toList==b.toList)) none
 | .neq=>K (.bool (!(a.toList==b.toList))) none
 | .lss=>K (.bool (be a.toList b.toList)) none
 | .leq=>K (.bool (be a.toList b.toList||a.toList==b.toList)) none
 | .gtr=>K (.bool (!(be a.toList b.toList||a.toList==b.toList))) none
 | .geq=>K (.bool (!(be a.toList b.toList))) none
 |_=>False
def iX(h:af)(a:Addr):Prop:=(∃c e,h[a.block]? =some (.cells c e (0,0))∧0<c.size)
def Vu:Value→Bool
 | .func _ _ _=>true
 | .nilFunc=>true
 |_=>false
def Vi:Value→Bool
 | .nilFunc=>true
 |_=>false
def S3(P:Program)(t:TypeId)(neg:Bool)(x y:Value)(K:RK):Prop:=
 match P.underlying t,x,y with
 |some (.pointer _),.pointer a,.pointer none=>K (.bool (bif neg then !a.isNone else a.isNone)) none
 |some (.map _ _),.map a,.map none=>K (.bool (bif neg then !a.isNone else a.isNone)) none
 |some (.slice _),.slice a _ _,.slice none _ _=>K (.bool (bif neg then !a.isNone else a.isNone)) none
 |some (.func _ _ _),x,.nilFunc=>Vu x=true∧K (.bool (bif neg then !(Vi x)else Vi x)) none
 |_,_,_=>False
def Un:Operand→Bool
 | .const (.pointer none)=>true
 | .const (.map none)=>true
 | .const (.slice none 0 0)=>true
 | .const .nilFunc=>true
 |_=>false
def TM(P:Program)(t:TypeId)(neg:Bool)(x y:Value)(K:RK)(h:af):Prop:=
 match P.underlying t,x,y with
 |some .bool,.bool a,.bool b=>K (.bool (bif neg then !(a==b)else a==b)) none
 |some (.pointer e),.pointer a,.pointer b=>
  (bif bK (cf P e) 0 then False else True)∧
  (∀x y,a=some x→b=some y→iX h x∧iX h y)∧
  K (.bool (bif neg then !(a==b)else a==b)) (some fun c=>∀x y,a=some x→b=some y→iX c x∧iX c y)
 |_,_,_=>False
def SN(P:Program)(c:BinOp)(t:TypeId)(x y:Value)(K:RK)(h:af):Prop:=
 match x,y with
 | .int k a,.int k' b=>
  match c with
  | .shl=>L7 .shl k a b K
  | .shr=>L7 .shr k a b K
  |c=>bif Ju k' k then Uo c k a b K else False
 | .string a,.string b=>T7 c a b K
 |x,y=>match c with
  | .eql=>TM P t false x y K h
  | .neq=>TM P t true x y K h
  |_=>False
def uu(h:af):List (Option Addr×Option Addr)→Prop
 | []=>True
 |(a,b)::l=>(∀x y,a=some x→b=some y→iX h x∧iX h y)∧uu h l
def Rf(P:Program)(t:TypeId)(x y:Value):Option (Bool×List (Option Addr×Option Addr)):=
 match P.underlying t,x,y with
 |some (.int _),.int k a,.int k' b=>bif Ju k' k then some (a==b,[])else none
 |some .bool,.bool a,.bool b=>some (a==b,[])
 |some .string,.string a,.string b=>some (a.toList==b.toList,[])
 |some (.pointer e),.pointer a,.pointer b=>bif bK (cf P e) 0 then none else some (a==b,[(a,b)])
 |_,_,_=>none
def Tj(P:Program)(rec:TypeId→List Value→List Value→Option (Bool×List (Option Addr×Option Addr)))(xs ys:List Value):List Field→Option (Bool×List (Option Addr×Option Addr))
 | []=>some (true,[])
 |f::fs=>
  if f.name= "_" then none else
  bif (P.underlying f.type).isSome&&(P.info? f.type).isSome then
   match(bif xP P f.type then rec f.type ((xs.drop f.offset).take (cf P f.type)) ((ys.drop f.offset).take (cf P f.type))
    else match xs[f.offset]?,ys[f.offset]? with|some x,some y=>Rf P f.type x y|_,_=>none),Tj P rec xs ys fs with
   |some (b,l),some (c,m)=>some (b&&c,l++m)
   |_,_=>none
  else none
def Rg(P:Program):Nat→TypeId→List Value→List Value→Option (Bool×List (Option Addr×Option Addr))
 |0,_,_,_=>none
 |d+1,t,xs,ys=>match P.underlying t with
  |some (.struct fs)=>bif P.stoodInHeld t then none else Tj P (Rg P d) xs ys fs.toList
  |_=>none
def Wq(neg b:Bool)(K:RK)(h:af):List (Option Addr×Option Addr)→Prop
 | []=>K (.bool (bif neg then !b else b)) none
 |p::l=>uu h (p::l)∧K (.bool (bif neg then !b else b)) (some fun c=>uu c (p::l))
def Uc(P:Program)(c:BinOp)(t:TypeId)(xs ys:List Value)(K:RK)(h:af):Prop:=
 bif P.eqGuardType P.depth t then False else
 match c with
 | .eql=>(match Rg P 10 t xs ys with|some (b,l)=>Wq false b K h l|none=>False)
 | .neq=>(match Rg P 10 t xs ys with|some (b,l)=>Wq true b K h l|none=>False)
 |_=>False
def V6(c:UnOp)(x:Value)(K:RK):Prop:=
 match c,x with
 | .neg,.int k n=>K (.int k (k.wrap (0-n))) none
 | .xor,.int k n=>K (.int k (k.wrap (ao k.bits (if k.signed then-1 else k.max)^^^ao k.bits n).toNat)) none
 | .not,.bool b=>K (.bool (!b)) none
 |_,_=>False
def eo(s:ByteArray):List Value:=s.data.toList.map fun b=>.int .u8 b.toNat
noncomputable def Row(h:af)(a:Addr)(vs:List Value):Prop:=∀i v,vs[i]? =some v→bj h (adr a i)=some v
noncomputable def SRow(h:af)(a:Option Addr)(n:Nat)(vs:List Value):Prop:=vs.length=n∧(vs= []∨∃b,a=some b∧Row h b vs)
def MQ(P:Program)(e:TypeId):Bool:=match P.underlying e with|some (.int .u8)=>true|_=>false
def Um(P:Program)(s d:TypeId):Bool:=
 match P.underlying s,P.underlying d with
 |some .string,some (.slice e)=>MQ P e
 |_,_=>false
def ByP(e:TypeId)(s:ByteArray)(h:af)(K:Nat→af→Prop):Prop:=
 ∀c,s.size≤c→K c (h.push (.cells (eo s++lr (c-s.size) (Value.int .u8 0)).toArray e (c,c+1)))
noncomputable def Qt(P:Program)(b c:TypeId)(x:Value)(K:RK)(h:af):Prop:=
 match P.underlying b,P.underlying c,x with
 |some (.int _),some (.int k),.int _ n=>K (.int k (k.wrap n)) none
 |some .string,some .string,.string s=>K (.string s) none
 |some (.slice e),some .string,.slice a n _=>bif MQ P e then∃s:ByteArray,SRow h a n (eo s)∧K (.string s) (some fun d=>SRow d a n (eo s))else False
 |_,_,_=>False
def RS(v:Option Value)(d y:Nat)(K:Nat→Prop):Prop:=
 match v with
 |none=>K d
 |some (.int _ i)=>(0≤i∧i≤y)∧K i.toNat
 |_=>False
noncomputable def bw(a:Option Addr)(l m size:Nat):Option Addr:=if m=l then a else a.map (adr · (l*size))
def QF(P:Program)(t:TypeId)(K:Prop):Prop:=match P.info? t with|some _=>K|none=>False
noncomputable def Ml(P:Program)(t:TypeId)(x:Value)(lo hi b:Option Value)(K:RK):Prop:=
 match P.underlying t,x with
 |some .string,.string s=>match b with
  |some _=>False
  |none=>RS hi s.size s.size fun h=>RS lo 0 h fun l=>K (.string (s.extract l h)) none
 |some (.slice e),.slice a len cap=>QF P e (
  match b with
  |none=>RS hi len cap fun h=>RS lo 0 h fun l=>K (.slice (bw a l cap (cf P e)) (h-l) (cap-l)) none
  |some m=>match hi with
   |none=>False
   |some hi=>RS (some m) 0 cap fun m=>RS (some hi) 0 m fun h=>RS lo 0 h fun l=>K (.slice (bw a l m (cf P e)) (h-l) (m-l)) none)
 |some (.array n e),.pointer (some a)=>QF P e (
  match b with
  |none=>RS hi n n fun h=>RS lo 0 h fun l=>K (.slice (bw (some a) l n (cf P e)) (h-l) (n-l)) none
  |some _=>False)
 |_,_=>False
noncomputable def Ia(r:cO):Option Operand→Option (Option Value)
 |none=>some none
 |some o=>match dF r o with
  |some v=>some (some v)
  |none=>none
noncomputable def A9(P:Program)(t:TypeId)(x i:Value)(K:RK):Prop:=
 match P.underlying t,x,i with
 |some (.array n e),.pointer (some a),.int _ i=>QF P e ((0≤i∧i<n)∧K (.pointer (some (adr a (i.toNat*cf P e)))) none)
 |some (.slice e),.slice b len _,.int _ i=>QF P e ((0≤i∧i<len)∧∃a,b=some a∧K (.pointer (some (adr a (i.toNat*cf P e)))) none)
 |_,_,_=>False
def Mq(P:Program)(t:TypeId)(x i:Value)(K:RK):Prop:=
 match P.underlying t,x,i with
 |some .string,.string s,.int _ i=>∃b:UInt8,0≤i∧s[i.toNat]? =some b∧K (.int .u8 b.toNat) none
 |_,_,_=>False
noncomputable def Mr(P:Program)(t:TypeId)(x:Value)(f:Nat)(K:RK):Prop:=
 match yS P t f,x with
 |some (u,off),.agg cs=>bif (P.underlying u).isSome&&(P.info? u).isSome then(bif xP P u then K (.agg ((cs.toList.drop off).take (cf P u)).toArray) none
  else(match cs.toList[off]? with|some v=>K v none|none=>False))else False
 |_,_=>False
def TF(c a b:Value)(K:RK):Prop:=
 match c with
 | .bool c=>(match a,b with
  | .bool x,.bool y=>K (.bool (bif c then x else y)) none
  |_,_=>(match c with|true=>K a none|false=>K b none))
 |_=>False
def gj:Value→Value→Bool
 | .int _ a,.int _ b=>a==b
 | .string a,.string b=>a==b
 | .bool a,.bool b=>a==b
 |_,_=>false
def FZ(k:Value):List MapEntry→Option Value
 | []=>none
 |e::es=>if gj k e.key then some e.val else FZ k es
def keysOf(c:CK)(es:List MapEntry):Prop:=∀e∈es,∃x:c.den,e.key=c.enc x
def Gl(c:CK)(z:Value)(h:af)(m:Option Nat)(k v:Value)(b:Bool):Prop:=
 match m with
 |none=>v=z∧b=false
 |some r=>∃es clock,h[r]? =some (.map es clock)∧keysOf c es.toList∧
  (match FZ k es.toList with|some u=>v=u∧b=true|none=>v=z∧b=false)
def K5(P:Program)(t:TypeId):Option (CK×TypeId):=
 match P.underlying t with
 |some (.map k e)=>match P.underlying k with
  |some (.int i)=>some (.int i,e)
  |some .string=>some (.str,e)
  |some .bool=>some (.bool,e)
  |_=>none
 |_=>none
def Jd(P:Program)(t:TypeId)(x k:Value)(f:Bool)(K:RK)(h:af):Prop:=
 match K5 P t,x with
 |some (c,e),.map m=>c.dec k fun _=>
  (match FO P e,Ar P e with
   |some ek,some z=>∃(y:ek.den) (b:Bool),Gl c z h m k (ek.enc y) b∧
    K (bif f then .tuple #[ek.enc y,.bool b]else ek.enc y) (some fun d=>Gl c z d m k (ek.enc y) b)
   |_,_=>False)
 |_,_=>False
def Nk(h:af)(m:Option Nat)(n:Nat):Prop:=
 match m with
 |none=>n=0
 |some r=>∃es clock,h[r]? =some (.map es clock)∧n=es.size
def On(c:Bool)(h:af)(m:Option Nat)(n:Nat):Prop:=
 match m with
 |none=>n=0
 |some r=>∃cap buf cl s q,h[r]? =some (.chan cap buf cl s q false)∧n=bif c then cap else buf.size
def Ua(P:Program)(t:TypeId)(x:Value)(K:RK)(h:af):Prop:=
 match P.underlying t,x with
 |some .string,.string s=>K (.int .i64 s.size) none
 |some (.array n _),_=>K (.int .i64 n) none
 |some (.slice _),.slice _ n _=>K (.int .i64 n) none
 |some (.map _ _),.map m=>∃n:Nat,Nk h m n∧K (.int .i64 n) (some fun b=>Nk b m n)
 |some (.chan _ _),.chan m=>∃n:Nat,On false h m n∧K (.int .i64 n) (some fun b=>On false b m n)
 |_,_=>False
def Ub(P:Program)(t:TypeId)(x:Value)(K:RK)(h:af):Prop:=
 match P.underlying t,x with
 |some (.slice _),.slice _ _ n=>K (.int .i64 n) none
 |some (.chan _ _),.chan m=>∃n:Nat,On true h m n∧K (.int .i64 n) (some fun b=>On true b m n)
 |_,_=>False
def Jr(c:Bool)(k:IntKind):Int→List Value→(Value→Prop)→Prop
 |a,[],f=>f (.int k a)
 |a,.int k' b::vs,f=>bif Ju k' k then Jr c k (bif c then(if b>a then b else a)else(if b<a then b else a)) vs f else False
 |_,_,_=>False
def EU(b:Bool)(vs:List Value)(f:Value→Prop):Prop:=
 match vs with
 | .int k a::vs=>Jr b k a vs f
 |_=>False
def y9(h:af)(i:Nat)(e:MapEntry):Prop:=
 ∃m since seen last stamp es,h[i]? =some (.mapIter (some m) since seen last)∧seen.back? =some stamp∧h[m]? =some (.map es last)∧es.find? (fun e=>e.born==stamp)=some e
def sA(P:Program)(t:TypeId):Bool:=match P.underlying t with|some (.interface _)=>false|some _=>true|none=>false
def NU(P:Program)(t:TypeId)(x:Value)(K:RK):Prop:=
 bif sA P t then(match FO P t with
  |some k=>∃y:k.den,x=.iface t (k.enc y)∧K (k.enc y) none
  |none=>False)else False
def KL(cs:List Value)(off:Nat)(vs:List Value):List Value:=cs.take off++vs++cs.drop (off+vs.length)
def Ed(b:Nat→Option (Nat×Nat)):List Value→List (Nat×Value)→Option (List Value)
 |cs,[]=>some cs
 |cs,(i,v)::rest=>match b i with
  |none=>none
  |some (off,size)=>bif bK v.cells.toList.length size&&Ae (off+v.cells.toList.length) cs.length then Ed b (KL cs off v.cells.toList) rest else none
noncomputable def sw(r:cO):List (Nat×Operand)→Option (List (Nat×Value))
 | []=>some []
 |(i,o)::ps=>match dF r o,sw r ps with
  |some v,some vs=>some ((i,v)::vs)
  |_,_=>none
def sN(P:Program)(t:TypeId):Option (List Value):=match Ar P t with|some z=>some z.cells.toList|none=>none
def eM(n:Nat)(z:List Value):List Value:=(lr n z).flatten
def zZ(P:Program)(t:TypeId):Bool:=match P.info? t with|some _=>true|none=>false
def Cs(P:Program):List Field→Bool
 | []=>true
 |f::fs=>bif zZ P f.type then Cs P fs else false
def My(P:Program)(b:List Field)(i:Nat):Option (Nat×Nat):=match b[i]? with|some f=>some (f.offset,cf P f.type)|none=>none
def JJ(P:Program)(t:TypeId)(b:List (Nat×Value)):Option (List Value):=
 match P.underlying t,sN P t with
 |some (.struct fs),some z=>bif Cs P fs.toList then Ed (My P fs.toList) z b else none
 |some (.array _ e),some z=>bif zZ P e then Ed (fun i=>some (i*cf P e,cf P e)) z b else none
 |_,_=>none
noncomputable def CY(P:Program)(ek:Option (Kind×Kind))(o:Op)(r:cO)(K:RK)(h:af):Prop:=
 match o with
 | .entry it=>match dF r it,ek with
  |some (.pointer (some a)),some (kk,vk)=>a.off=0∧∃(e:MapEntry) (x:kk.den) (y:vk.den),y9 h a.block e∧e.key=kk.enc x∧e.val=vk.enc y∧
    K (.tuple #[kk.enc x,vk.enc y]) (some fun g=>y9 g a.block e)
  |_,_=>False
 | .move x| .assign x=>match dF r x with|some v=>K v none|none=>False
 | .load t a=>match dF r a with|some v=>KF P t v K h|none=>False
 | .nilCheck x=>match dF r x with|some (.pointer p)=>∃a,p=some a∧K (.pointer (some a)) none|_=>False
 | .binOp op t x y _=>match Un y,dF r x,dF r y with
  |true,some v,some u=>(match op with
   | .eql=>S3 P t false v u K
   | .neq=>S3 P t true v u K
   |op=>SN P op t v u K h)
  |false,some (.agg v),some (.agg u)=>Uc P op t v.toList u.toList K h
  |false,some v,some u=>SN P op t v u K h
  |_,_,_=>False
 | .unOp op _ x=>match dF r x with|some v=>V6 op v K|none=>False
 | .convert s d x=>match dF r x with|some v=>Qt P s d v K h|none=>False
 | .pick c a b=>match dF r c,dF r a,dF r b with|some c,some a,some b=>TF c a b K|_,_,_=>False
 | .extract x i=>match dF r x with
  |some (.tuple vs)=>(match vs.toList[i]? with|some v=>K v none|none=>False)
  |_=>False
 | .fieldAddr t x f=>match dF r x,yS P t f with
  |some (.pointer (some a)),some (u,off)=>bif bK (cf P u) 0 then False else K (.pointer (some (adr a off))) none
  |_,_=>False
 | .field t x f=>match dF r x with|some v=>Mr P t v f K|none=>False
 | .indexAddr t x i=>match dF r x,dF r i with|some v,some u=>A9 P t v u K|_,_=>False
 | .index t x i=>match dF r x,dF r i with|some v,some u=>Mq P t v u K|_,_=>False
 | .slice t x lo hi mx=>match dF r x,Ia r lo,Ia r hi,Ia r mx with
  |some v,some l,some g,some m=>Ml P t v l g m K
  |_,_,_,_=>False
 | .lookup t x k ok=>match dF r x,dF r k with|some v,some u=>Jd P t v u ok K h|_,_=>False
 | .makeInterface t x=>match dF r x with|some v=>bif sA P t then K (.iface t v) none else False|none=>False
 | .typeAssert x _ t ok=>match dF r x with|some v=>bif ok then False else NU P t v K|none=>False
 | .build t ps=>match sw r ps.toList with
  |some vs=>(match JJ P t vs with|some cs=>K (.agg cs.toArray) none|none=>False)
  |none=>False
 | .makeFunc fn first cap=>match pC r first.toList,pC r cap.toList with
  |some vs,some us=>K (.func fn vs.toArray us.toArray) none
  |_,_=>False
 | .call c=>match c.callee,pC r c.args.toList,c.argTypes.toList with
  | .builtin .len,some [v],[t]=>Ua P t v K h
  | .builtin .cap,some [v],[t]=>Ub P t v K h
  | .builtin .min,some vs,_=>EU false vs fun v=>K v none
  | .builtin .max,some vs,_=>EU true vs fun v=>K v none
  |_,_,_=>False
 |_=>False
abbrev WK:=Value→af→Prop
def aI(h:af):Addr:=⟨h.size,0,none⟩
def hnew(h:af)(cs:List Value)(t:TypeId):af:=h.push (.cells cs.toArray t (0,0))
def cI:List Value→Bool
 | []=>true
 |v::vs=>(match v with| .agg _=>false| .tuple _=>false|_=>true)&&cI vs
noncomputable def jK(h:af)(a:Addr):Nat→List Value→af
 |_,[]=>h
 |i,v::vs=>jK (hset h (adr a i) v) a (i+1) vs
noncomputable def ip(h:af)(a:Option Addr)(i:Nat)(vs:List Value):af:=match a with|some a=>jK h a i vs|none=>h
noncomputable def yr(h:af)(a:Option Addr)(i:Nat)(vs:List Value):Prop:=vs= []∨∃b,a=some b∧∀j,j<vs.length→Wr h (adr b (i+j))
noncomputable def LV(P:Program)(t:TypeId)(a v:Value)(K:WK)(h:af):Prop:=
 match a with
 | .pointer (some a)=>bif bK v.cells.toList.length (cf P t)&&cI v.cells.toList then QF P t
   (match v.cells.toList with
    | [v]=>Wr h a∧K undef (hset h a v)
    |vs=>yr h (some a) 0 vs∧K undef (jK h a 0 vs))
  else False
 |_=>False
noncomputable def Sa(P:Program)(e:TypeId)(b:Option Addr)(sl d c:Nat)(xs:List Value)(K:WK)(h:af):Prop:=
 (sl+c≤d→yr h b (sl*cf P e) xs∧cI xs=true∧K (.slice b (sl+c) d) (ip h b (sl*cf P e) xs))∧
 (d<sl+c→∃old z,SRow h b (sl*cf P e) old∧sN P e=some z∧0<sZ P e∧Builtin.nextslicecap (sl+c) d*sZ P e≤2^48∧
  ∀nc,sl+c≤nc→K (.slice (some (aI h)) (sl+c) nc) (hnew h (old++xs++eM (nc-(sl+c)) z) e))
noncomputable def EP(P:Program)(t:TypeId)(s x:Value)(K:WK)(h:af):Prop:=
 match ya P t,s,x with
 |some e,.slice b sl sc,.slice a xl _=>QF P e (∃xs,SRow h a (xl*cf P e) xs∧Sa P e b sl sc xl xs K h)
 |some e,.slice b sl sc,.string x=>bif bK (cf P e) 1 then Sa P e b sl sc x.size (eo x) K h else False
 |_,_,_=>False
noncomputable def Fa(P:Program)(t:TypeId)(s x:Value)(K:WK)(h:af):Prop:=
 match ya P t,s,x with
 |some e,.slice b sl sc,.int _ l=>(match sN P e with
  |some z=>bif bK z.length (cf P e)then(0≤l∧l*sZ P e≤2^48∧l≤9223372036854775807∧((sl+l.toNat:Nat):Int)≤9223372036854775807)∧Sa P e b sl sc l.toNat (eM l.toNat z) K h else False
  |none=>False)
 |_,_,_=>False
noncomputable def LW(P:Program)(t:TypeId)(x:Value)(K:WK)(h:af):Prop:=
 match ya P t,x with
 |some e,.slice a n _=>(match sN P e with
  |some z=>bif cI z then yr h a 0 (eM n z)∧K (.tuple #[]) (ip h a 0 (eM n z))else False
  |none=>False)
 |_,_=>False
noncomputable def PV(P:Program)(t:TypeId)(d s:Value)(K:WK)(h:af):Prop:=
 match ya P t,d,s with
 |some e,.slice b dl _,.slice a sl _=>QF P e (∃xs,SRow h a (f9 sl dl*cf P e) xs∧yr h b 0 xs∧cI xs=true∧K (.int .i64 (f9 sl dl)) (ip h b 0 xs))
 |some e,.slice b dl _,.string x=>bif bK (cf P e) 1 then yr h b 0 ((eo x).take dl)∧K (.int .i64 (f9 x.size dl)) (ip h b 0 ((eo x).take dl))else False
 |_,_,_=>False
def Ji(k v:Value)(b:Nat):List MapEntry→List MapEntry×Nat
 | []=>([{key:=k,val:=v,born:=b}],b+1)
 |e::es=>if gj k e.key then({e with key:=k,val:=v}::es,b)else let r:=Ji k v b es;(e::r.1,r.2)
def F5(k:Value):List MapEntry→List MapEntry
 | []=> []
 |e::es=>if gj k e.key then es else e::F5 k es
def LC(c:CK)(h:af)(r:Nat):Prop:=∃es clock,h[r]? =some (.map es clock)∧keysOf c es.toList
def wZ(h:af)(r:Nat)(k v:Value):af:=
 match h[r]? with
 |some (.map es clock)=>h.setIfInBounds r (.map (Ji k v clock es.toList).1.toArray (Ji k v clock es.toList).2)
 |_=>h
def FJ(h:af)(r:Nat)(k:Value):af:=
 match h[r]? with
 |some (.map es clock)=>h.setIfInBounds r (.map (F5 k es.toList).toArray clock)
 |_=>h
def EO(P:Program)(t:TypeId)(m k v:Value)(K:WK)(h:af):Prop:=
 match K5 P t,m with
 |some (c,_),.map m=>c.dec k fun _=>∃r,m=some r∧LC c h r∧K undef (wZ h r k v)
 |_,_=>False
def E8(P:Program)(t:TypeId)(m k:Value)(K:WK)(h:af):Prop:=
 match K5 P t,m with
 |some (c,_),.map m=>c.dec k fun _=>(m=none∧K (.tuple #[]) h)∨(∃r,m=some r∧LC c h r∧K (.tuple #[]) (FJ h r k))
 |_,_=>False
def Qm(P:Program):List TypeId→Option (List Kind)
 | []=>some []
 |t::ts=>match FO P t,Qm P ts with
  |some k,some ks=>some (k::ks)
  |_,_=>none
def Qn(P:Program)(t:TypeId):Option (List Kind):=
 match P.underlying t with
 |some (.tuple ts)=>Qm P ts.toList
 |_=>Qm P [t]
noncomputable def Tv(P:Program)(f:Operand)(r:cO)(args:List Value)(t:TypeId)(K:WK)(h:af):Prop:=
 match Qn P t with
 |none=>False
 |some ks=>match f with
  | .func f=>HC P f args ks (fun x b=>K (Eu ks (oA ks x)) b) h
  |f=>match dF r f with
   |some fv=>HV P fv args ks (fun x b=>K (Eu ks (oA ks x)) b) h
   |none=>False
def PU(b:Value)(K:WK)(h:af):Prop:=
 match b with
 | .pointer (some a)=>a.off=0∧
  ∃m since seen last,h[a.block]? =some (.mapIter m since seen last)∧
   ((m=none∧K (.tuple #[.bool false]) h)∨
    (∃r es clock,m=some r∧h[r]? =some (.map es clock)∧(seen.isEmpty=true∨es.isEmpty=true∨es.all (fun e=>decide (e.born≥last))=false)∧
     ((∀e∈es.toList,e.born<since→seen.contains e.born=true)→K (.tuple #[.bool false]) h)∧
     (∀e∈es.toList,seen.contains e.born=false→K (.tuple #[.bool true,e.key,e.val]) (h.setIfInBounds a.block (.mapIter (some r) since (seen.push e.born) clock)))))
 |_=>False
noncomputable def GX(P:Program)(o:Oper)(r:cO)(K:WK)(h:af):Prop:=
 match o.op with
 | .alloc t=>(match sN P t with|some z=>K (.pointer (some (aI h))) (hnew h z t)|none=>False)
 | .box t x=>(match dF r x with|some v=>K (.pointer (some (aI h))) (hnew h v.cells.toList t)|none=>False)
 | .build t ps=>(match sw r ps.toList with
  |some vs=>(match JJ P t vs with|some cs=>K (.agg cs.toArray) h|none=>False)
  |none=>False)
 | .buildSlice t n ps=>(match ya P t,sw r ps.toList with
  |some e,some vs=>(match sN P e with
   |some z=>bif Ae (n*cf P e) 16777216&&bK z.length (cf P e)then
     (match Ed (fun i=>some (i*cf P e,cf P e)) (eM n z) vs with|some cs=>K (.slice (some (aI h)) n n) (hnew h cs e)|none=>False)
    else False
   |none=>False)
  |_,_=>False)
 | .store t a x=>(match dF r a,dF r x with|some a,some v=>LV P t a v K h|_,_=>False)
 | .mapUpdate t m k x=>(match dF r m,dF r k,dF r x with|some m,some k,some v=>EO P t m k v K h|_,_,_=>False)
 | .insert t m k x=>(match dF r m,dF r k,dF r x with|some m,some k,some v=>EO P t m k v K h|_,_,_=>False)
 | .makeMap t n=>(match n with
  |none=>K (.map (some h.size)) (h.push (.map #[] 0))
  |some n=>(match dF r n,P.underlying t with|some (.int _ _),some (.map _ _)=>K (.map (some h.size)) (h.push (.map #[] 0))|_,_=>False))
 | .makeSlice t l c=>(match ya P t,dF r l,dF r c with
  |some e,some (.int _ l),some (.int _ c)=>(match sN P e with
   |some z=>bif bK z.length (cf P e)then(0≤l∧l≤c∧c≤9223372036854775807∧sZ P e*c≤2^48)∧K (.slice (some (aI h)) l.toNat c.toNat) (hnew h (eM c.toNat z) e)else False
   |none=>False)
  |_,_,_=>False)
 | .convert s d x=>(match P.underlying s,P.underlying d,dF r x with
  |some .string,some (.slice e),some (.string v)=>bif MQ P e then ByP e v h (fun c b=>K (.slice (some (aI h)) v.size c) b)else False
  |_,_,_=>False)
 | .range t x=>(match P.underlying t,dF r x with
  |some (.map _ _),some (.map m)=>∃clock,(m=none∧clock=0∨∃r es,m=some r∧h[r]? =some (.map es clock))∧K (.pointer (some (aI h))) (h.push (.mapIter m clock #[] clock))
  |_,_=>False)
 | .next it false=>(match dF r it with|some it=>PU it K h|none=>False)
 | .call c=>(match c.callee,pC r c.args.toList with
  | .builtin .append,some [s,x]=>(match c.argTypes.toList with| [t,u]=>(match P.underlying u with|some (.slice _)=>EP P t s x K h|some .string=>EP P t s x K h|some (.int _)=>Fa P t s x K h|_=>False)|_=>False)
  | .builtin .clear,some [x]=>(match c.argTypes.toList with| [t]=>LW P t x K h|_=>False)
  | .builtin .copy,some [d,s]=>(match c.argTypes.toList with| [t,_]=>PV P t d s K h|_=>False)
  | .builtin .delete,some [m,k]=>(match c.argTypes.toList with| [t,_]=>E8 P t m k K h|_=>False)
  | .value f,some args=>Tv P f r args o.type K h
  |_,_=>False)
 |_=>False
def yd(P:Program):Op→Bool
 | .convert s d _=> !Um P s d
 | .alloc _| .box .. | .buildSlice .. | .store .. | .mapUpdate .. | .insert .. | .makeMap .. | .makeSlice .. | .range .. | .next .. =>false
 | .call c=>match c.callee with
  | .builtin .len| .builtin .cap| .builtin .min| .builtin .max=>true
  |_=>false
 |_=>true
def Bq(N:Nat)(o:Oper)(v:Value)(r:cO)(K:cO→Prop):Prop:=
 match o.dst with
 |none=>K r
 |some d=>bif Ad d N then K ((d,v)::r)else False
noncomputable def UR(P:Program)(N:Nat)(ek:Option (Kind×Kind))(o:Oper)(r:cO)(K:cO→af→Prop)(h:af):Prop:=
 bif yd P o.op then CY P ek o.op r (fun v _=>Bq N o v r fun b=>K b h) h
 else GX P o r (fun v c=>Bq N o v r fun b=>K b c) h
inductive DV where
 |f|t|u|x
abbrev xu:=List (Nat×DV)
noncomputable def tH(d:xu)(t:Nat):DV:=
 fP (motive:=fun _=>DV) .x (fun b _ c=>bif bK b.1 t then b.2 else c) d
noncomputable def Cm(d:xu):Operand→DV
 | .tmp t=>tH d t
 | .const (.bool true)=>.t
 | .const (.bool false)=>.f
 |_=>.x
noncomputable def Kj(d:xu):Op→DV
 | .move x=>Cm d x
 | .assign x=>Cm d x
 | .pick c a b=>match Cm d c with
  | .t=>Cm d a
  | .f=>Cm d b
  |_=>.x
 | .unOp .not _ x=>match Cm d x with
  | .t=>.f
  | .f=>.t
  |_=>.x
 |_=>.x
def uc(d:xu)(o:Oper)(v:DV):xu:=match o.dst with|some t=>(t,v)::d|none=>d
noncomputable def jG(ops:List Oper)(d:xu)(o:Oper):Option Bool:=
 match o.guard with
 |none=>some true
 |some (j,want)=>match ops[j]? with
  |none=>none
  |some oj=>match oj.dst with
   |none=>none
   |some t=>match tH d t with
    | .t=>some want
    | .f=>some (!want)
    | .u=>some false
    | .x=>none
def FV(ops:List Oper)(o:Oper):Option Nat:=
 match o.guard with
 |none=>none
 |some (j,_)=>match ops[j]? with
  |none=>none
  |some oj=>oj.dst
noncomputable def HQ(P:Program)(N:Nat)(ek:Option (Kind×Kind))(ops:List Oper)(o:Oper)(d:xu)(r:cO)(h:af)(K:xu→cO→af→Prop):Prop:=
 match jG ops d o with
 |some true=>UR P N ek o r (K (uc d o (Kj d o.op))) h
 |some false=>Bq N o undef r fun b=>K (uc d o .u) b h
 |none=>False
noncomputable def Fq(P:Program)(N:Nat)(ek:Option (Kind×Kind))(ops:List Oper)(l:List Oper):xu→(cO→af→Prop)→cO→af→Prop:=
 fP (motive:=fun _=>xu→(cO→af→Prop)→cO→af→Prop) (fun _ K r h=>K r h)
  (fun o _ f d K r h=>
  match jG ops d o with
  |some true=>UR P N ek o r (fun c e=>f (uc d o (Kj d o.op)) K c e) h
  |some false=>Bq N o undef r fun c=>f (uc d o .u) K c h
  |none=>match FV ops o with
   |none=>False
   |some t=>match lD r t with
    |some (.bool b)=>CondP b
     (HQ P N ek ops o ((t,.t)::d) ((t,.bool true)::r) h fun g c e=>f g K c e)
     (HQ P N ek ops o ((t,.f)::d) ((t,.bool false)::r) h fun g c e=>f g K c e)
    |_=>False) l
inductive DA where
 |done
 |take (i:Nat) (rest:DA)
 |all (l:DA)
 |pick (i:Nat) (rest more:DA)
 |last (i:Nat) (rest:DA)
 |lastT (i:Nat) (rest:DA)
 |split (t:Nat) (yes no:DA)
abbrev tc:=List (Nat×(af→Prop))
def tb(m i:Nat):Bool:=bK (km (Nat.shiftRight m i) 1) 1
def ia(i:Nat):Nat:=Nat.pow 2 i
inductive DM where
 |mk (am fr lk ds:Nat)
def DM.am:DM→Nat| .mk a _ _ _=>a
def DM.fr:DM→Nat| .mk _ f _ _=>f
def DM.lk:DM→Nat| .mk _ _ l _=>l
def DM.ds:DM→Nat| .mk _ _ _ d=>d
def jI(o:Oper)(i:Nat):Bool:=o.after.toList.any fun e=>bK e.on i&&Region.binds .any e
noncomputable def nU(l:List Edge):Nat:=
 fP (motive:=fun _=>Nat) 0 (fun e _ b=>bif Region.binds .any e then di (ia e.on) b else b) l
noncomputable def mW(l:List Operand):Nat:=
 fP (motive:=fun _=>Nat) 0 (fun o _ b=>match o with| .tmp t=>di (ia t) b|_=>b) l
def pq(o:Oper):Nat:=match o.dst with|some d=>ia d|none=>0
noncomputable def p0(ops:List Oper)(o:Oper):Nat:=
 di (mW o.op.operands.toList) (match o.guard with
  |some (g,_)=>(match ops[g]? with|some og=>pq og|none=>0)
  |none=>0)
noncomputable def yI(ops:List Oper)(l:List Oper):List DM→Bool:=
 fP (motive:=fun _=>List DM→Bool) (fun ms=>match ms with| []=>true|_=>false)
  (fun o _ b ms=>match ms with
   |m::ms=>bK (nU o.after.toList) m.am&&bK (p0 ops o) m.lk&&bK (pq o) m.ds&&b ms
   | []=>false) l
def Dz(x y:DM):Bool:=bK (km x.ds (di y.lk y.ds)) 0&&bK (km y.ds x.lk) 0
noncomputable def Ir(i:Nat)(m:DM)(l:List DM):Nat→Bool:=
 fP (motive:=fun _=>Nat→Bool) (fun _=>true)
  (fun n _ b j=>(!(tb m.fr j)||bK j i||tb n.am i||Dz m n)&&b (f6 j)) l
noncomputable def Ck(b:List DM)(l:List DM):Nat→Bool:=
 fP (motive:=fun _=>Nat→Bool) (fun _=>true) (fun m _ c i=>Ir i m b 0&&c (f6 i)) l
def KW:List Oper→Bool
 | []=>true
 |o::os=>(match o.op with| .select .. =>false| .defer _=>false|_=>true)&&KW os
noncomputable def EW(ops:List Oper)(ms:List DM):Bool:=yI ops ops ms&&Ck ms ms 0&&KW ops
def qm(o:Oper):tc→tc
 | []=> []
 |(k,S)::l=>bif jI o k then qm o l else(k,S)::qm o l
def ux:tc→af→Prop→Prop
 | [],_,R=>R
 |(_,S)::l,h,R=>S h∧ux l h R
def Ki(m:DM)(ls:Nat):Bool:=bK (km m.am ls) m.am
noncomputable def mZ(ls:Nat)(l:List DM):Nat→List Nat:=
 fP (motive:=fun _=>Nat→List Nat) (fun _=> []) (fun m _ b j=>bif !(tb ls j)&&Ki m ls then j::b (f6 j)else b (f6 j)) l
def Fi(m:DM)(i ls n:Nat):Bool:= !(tb ls i)&&Ki m ls&&bK (km (di ls m.fr) (zL (ia n))) (zL (ia n))
def xC:List Nat→List Nat→Bool
 | [],[]=>true
 |a::as,b::bs=>bK a b&&xC as bs
 |_,_=>false
def Dp:DA→List Nat
 | .pick i _ l=>i::Dp l
 | .last i _=> [i]
 | .lastT i _=> [i]
 |_=> []
noncomputable def OL(P:Program)(N:Nat)(ops:List Oper)(i:Nat)(L:tc)(d:xu)(r:cO)(h:af)(K:tc→xu→cO→af→Prop):Prop:=
 match ops[i]? with
 |none=>False
 |some o=>match jG ops d o with
  |some true=>bif yd P o.op then CY P none o.op r (fun v _=>Bq N o v r fun b=>ux (qm o L) h (K (qm o L) (uc d o .x) b h)) h else GX P o r (fun v c=>Bq N o v r fun b=>ux (qm o L) c (K (qm o L) (uc d o .x) b c)) h
  |_=>False
noncomputable def PD(m:Nat)(l:List DM):Nat→Nat:=
 fP (motive:=fun _=>Nat→Nat) (fun _=>m) (fun n _ b j=>bif tb m j then di n.am (b (f6 j))else b (f6 j)) l
noncomputable def Cn(ms:List DM)(m:Nat):Nat:=PD (PD (PD (PD m ms 0) ms 0) ms 0) ms 0
def JQ(ms:List DM)(i:Nat):Nat:=match ms[i]? with|some m=>m.am|none=>0
def B6(m:Nat):tc→tc
 | []=> []
 |(k,S)::l=>bif tb m k then B6 m l else(k,S)::B6 m l
noncomputable def NT(P:Program)(N:Nat)(ops:List Oper)(ms:List DM)(i:Nat)(L:tc)(d:xu)(r:cO)(h:af)(K:tc→xu→cO→af→Prop):Prop:=
 match ops[i]? with
 |none=>False
 |some o=>match jG ops d o with
  |some true=>bif yd P o.op then False else GX P o r (fun v b=>Bq N o v r fun c=>ux (B6 (Cn ms (JQ ms i)) L) b (K (B6 (Cn ms (JQ ms i)) L) (uc d o .x) c b)) h
  |_=>False
noncomputable def oK(P:Program)(N:Nat)(ops:List Oper)(ms:List DM)(n:DA):Bool→Nat→tc→xu→(cO→af→Prop)→cO→af→Prop:=
 DA.rec (motive:=fun _=>Bool→Nat→tc→xu→(cO→af→Prop)→cO→af→Prop)
  (fun m ls _ _ K r h=>bif !m&&xC (mZ ls ms 0) []then K r h else False)
  (fun i _ e m ls L d K r h=>
   match ops[i]?,ms[i]? with
   |some o,some mi=>bif !m&&Fi mi i ls ops.length then
     (match jG ops d o with
      |none=>False
      |some false=>Bq N o undef r fun c=>e false (di ls (ia i)) L (uc d o .u) K c h
      |some true=>bif yd P o.op then
       CY P none o.op r (fun v S=>Bq N o v r fun c=>match S with
        |none=>e false (di ls (ia i)) L (uc d o (Kj d o.op)) K c h
        |some S=>e false (di ls (ia i)) ((i,S)::L) (uc d o (Kj d o.op)) K c h) h
       else False)
    else False
   |_,_=>False)
  (fun l e m ls L d K r h=>bif !m&&xC (mZ ls ms 0) (Dp l)then e true ls L d K r h else False)
  (fun i _ _ g f m ls L d K r h=>bif m then OL P N ops i L d r h (fun L' j c k=>g false (di ls (ia i)) L' j K c k)∧f true ls L d K r h else False)
  (fun i _ e m ls L d K r h=>bif m then OL P N ops i L d r h (fun L' j c k=>e false (di ls (ia i)) L' j K c k)else False)
  (fun i _ e m ls L d K r h=>bif m then NT P N ops ms i L d r h (fun L' j c k=>e false (di ls (ia i)) L' j K c k)else False)
  (fun t _ _ g f m ls L d K r h=>
   bif m then False else match lD r t with
   |some (.bool b)=>CondP b (g false ls L ((t,.t)::d) K ((t,.bool true)::r) h) (f false ls L ((t,.f)::d) K ((t,.bool false)::r) h)
   |_=>False)
  n
noncomputable def Wo(c:Oper)(i:Nat)(ds lk:Nat)(ops:List Oper)(l:List Oper):Nat→Nat:=
 fP (motive:=fun _=>Nat→Nat) (fun _=>0) (fun p _ b j=>bif (bK j i||jI p i||(bK (km ds (di (p0 ops p) (pq p))) 0&&bK (km (pq p) lk) 0))then di (ia j) (b (f6 j))else b (f6 j)) l
noncomputable def V9(ops:List Oper)(l:List Oper):Nat→List DM:=
 fP (motive:=fun _=>Nat→List DM) (fun _=> []) (fun o _ b i=>.mk (nU o.after.toList) (Wo o i (pq o) (p0 ops o) ops ops 0) (p0 ops o) (pq o)::b (f6 i)) l
def UY(P:Program)(w:Option Bool)(o:Oper):Bool:=match w with|some false=>true|some true=>yd P o.op|none=>false
noncomputable def Ut(P:Program)(ops:List Oper)(d:xu)(ls n:Nat)(l:List Oper):List DM→Nat→Option (Nat×Oper):=
 fP (motive:=fun _=>List DM→Nat→Option (Nat×Oper)) (fun _ _=>none)
  (fun o _ b ms j=>match ms with
   | []=>none
   |m::ms=>bif Fi m j ls n&&UY P (jG ops d o) o then some (j,o)else b ms (f6 j)) l
noncomputable def Uu(ops:List Oper)(d:xu)(ls:Nat)(l:List Oper):List DM→Nat→Option Nat:=
 fP (motive:=fun _=>List DM→Nat→Option Nat) (fun _ _=>none)
  (fun o _ b ms j=>match ms with
   | []=>none
   |m::ms=>match bif !(tb ls j)&&Ki m ls then(match jG ops d o with|none=>FV ops o|some _=>none)else none with
    |some t=>some t
    |none=>b ms (f6 j)) l
noncomputable def Vf(ops:List Oper)(k:Nat→xu→DA)(ls:Nat)(d:xu)(l:List Nat):DA:=
 fP (motive:=fun _=>DA) .done (fun i b c=>match ops[i]? with
  |none=>.done
  |some o=>match b with
   | []=>.last i (k (di ls (ia i)) (uc d o .x))
   |_=>.pick i (k (di ls (ia i)) (uc d o .x)) c) l
noncomputable def UJ(P:Program)(ops:List Oper)(ms:List DM)(fuel:Nat):Nat→xu→DA:=
 Nat.rec (motive:=fun _=>Nat→xu→DA) (fun _ _=>.done) (fun _ b ls d=>
  match Ut P ops d ls ops.length ops ms 0 with
  |some (i,o)=>.take i (b (di ls (ia i)) (match jG ops d o with|some false=>uc d o .u|_=>uc d o (Kj d o.op)))
  |none=>match Uu ops d ls ops ms 0 with
   |some t=>.split t (b ls ((t,.t)::d)) (b ls ((t,.f)::d))
   |none=>match mZ ls ms 0 with
    | []=>.done
    |l=>.all (Vf ops b ls d l)) fuel
noncomputable def N0(ops:List Oper):List DM:=V9 ops ops 0
inductive Ex where
 |exit (id:Nat)
 |ret
abbrev St:=List (Nat×Kind)
def A0:St→List Kind
 | []=> []
 |(_,k)::l=>k::A0 l
noncomputable def Fl(r:cO):St→Option (List Value)
 | []=>some []
 |(i,_)::l=>match lD r i,Fl r l with
  |some v,some vs=>some (v::vs)
  |_,_=>none
noncomputable def DZ(st:St)(r:cO)(f:wS (A0 st)→Prop):Prop:=
 match Fl r st with
 |some vs=>ED (A0 st) vs f
 |none=>False
def pl:St→List Value→cO→cO
 |(i,_)::l,v::vs,r=>(i,v)::pl l vs r
 |_,_,r=>r
noncomputable def N5(r:cO)(l:List Nat):Option cO:=
 fP (motive:=fun _=>Option cO) (some []) (fun t _ b=>match lD r t,b with
  |some v,some l=>some ((t,v)::l)
  |_,_=>none) l
noncomputable def mV(t:Nat)(l:List Oper):Bool:=
 fP (motive:=fun _=>Bool) false (fun o _ b=>match o.dst with|some d=>bif bK d t then true else b|none=>b) l
noncomputable def gH(t:Nat)(c:Code):Bool:=
 Code.rec (motive:=fun _=>Bool) false (fun _ ops _=>mV t ops.toList) (fun _ _ a b=>bif a then true else b) (fun _ _ _ a b=>bif a then true else b)
  (fun _ _ b=>b) (fun _ b=>b) (fun _ _ _ _ _ _=>true) (fun _=>false) (fun _ b=>b) (fun _=>false) (fun _=>false) false (fun _=>false) c
inductive Ann where
 |nil
 |node (a b:Ann)
 |join (st:St) (a b:Ann)
 |loop (st:St) (b:Ann)
 |draw (d:DA)
 |kinds (k v:Kind)
 |reg (keep:List Nat) (inner:Ann)
 |rf (ks:List Kind) (a b:Ann)
def Ann.l:Ann→Ann
 | .node a _=>a
 | .rf _ a _=>a
 |_=>.nil
def Ann.r:Ann→Ann
 | .node _ b=>b
 | .rf _ _ b=>b
 |_=>.nil
noncomputable def PT(l:List Oper):Nat:=fP (motive:=fun _=>Nat) 0 (fun o _ b=>di (pq o) b) l
def Vh:Option Nat→Option Nat→Option Nat
 |some a,some b=>some (di a b)
 |_,_=>none
noncomputable def As(c:Code):Option Nat:=
 Code.rec (motive:=fun _=>Option Nat) (some 0) (fun _ ops _=>some (PT ops.toList)) (fun _ _ a b=>Vh a b) (fun _ _ _ a b=>Vh a b)
  (fun _ _ b=>b) (fun _ b=>b) (fun _ _ _ _ _ _=>none) (fun _=>some 0) (fun _ b=>b) (fun _=>some 0) (fun _=>some 0) (some 0) (fun _=>some 0) c
noncomputable def yM(m:Nat)(r:cO):cO:=fP (motive:=fun _=>cO) [] (fun b _ c=>bif tb m b.1 then c else b::c) r
noncomputable def C7(P:Program)(N:Nat)(ops:List Oper)(c:Bool)(b:Ann)(Kn:cO→af→Prop)(r:cO)(h:af):Prop:=
 match c with
 |false=>(match b with
  | .kinds kk vk=>Fq P N (some (kk,vk)) ops ops [] Kn r h
  |_=>Fq P N none ops ops [] Kn r h)
 |true=>bif EW ops (N0 ops)then oK P N ops (N0 ops) (match b with| .draw da=>da|_=>UJ P ops (N0 ops) (Nat.add (Nat.add ops.length ops.length) 2) 0 []) false 0 [] [] Kn r h else False
noncomputable def l5(P:Program)(N:Nat)(c:Code):Ann→(cO→af→Prop)→(Ex→cO→af→Prop)→cO→af→Prop:=
 Code.rec (motive:=fun _=>Ann→(cO→af→Prop)→(Ex→cO→af→Prop)→cO→af→Prop)
  (fun _ Kn _ r h=>Kn r h)
  (fun _ ops q d Kn _ r h=>match d with
   | .reg keep d=>C7 P N ops.toList q d (fun g f=>match N5 g keep with|some r0=>Kn r0 f|none=>False) r h
   |d=>C7 P N ops.toList q d Kn r h)
  (fun a _ k j d Kn Kx r h=>match d with
   | .join st aa ab=>(match As a with
     |none=>False
     |some m=>Join (T:=wS (A0 st)) (fun t f=>j ab Kn Kx (pl st (oA (A0 st) t) (yM m r)) f)
      fun J=>k aa (fun g f=>DZ st g fun t=>J t f) Kx r h)
   |d=>k d.l (fun g f=>j d.r Kn Kx g f) Kx r h)
  (fun c _ _ k j d Kn Kx r h=>match dF r c with
   |some (.bool t)=>CondP t (k d.l Kn Kx r h) (j d.r Kn Kx r h)
   |_=>False)
  (fun id _ o d Kn Kx r h=>o d Kn (fun e g f=>match e with
    | .exit i=>bif bK i id then Kn g f else Kx (.exit i) g f
    | .ret=>Kx .ret g f) r h)
  (fun b o d _ Kx r h=>match d with
   | .loop st ab=>(match As b with
     |none=>False
     |some m=>DZ st r fun s=>LoopP (T:=wS (A0 st)) (fun n t f=>o ab (fun g p=>DZ st g fun u=>n u p) Kx (pl st (oA (A0 st) t) (yM m r)) f) s h)
   |_=>False)
  (fun _ _ _ _ _ _ _ _ _ _ _=>False)
  (fun id _ _ Kx r h=>Kx (.exit id) r h)
  (fun _ _ _ _ _ _ _=>False)
  (fun _ _ Kn _ r h=>Kn r h)
  (fun _ _ _ _ _ _=>False)
  (fun _ _ Kx r h=>Kx .ret r h)
  (fun _ _ _ _ _ _=>False)
  c
noncomputable def pm(P:Program)(r:cO)(h:af):List ResultVar→(List Value→Prop)→Prop
 | [],K=>K []
 | .tmp t::l,K=>(match lD r t with|some v=>pm P r h l fun vs=>K (v::vs)|none=>False)
 | .cell a t::l,K=>(match lD r a with
  |some v=>KF P t v (fun x _=>pm P r h l fun vs=>K (x::vs)) h
  |none=>False)
def rZ:Nat→List Value→cO
 |_,[]=> []
 |i,v::vs=>(i,v)::rZ (i+1) vs
noncomputable def HR(P:Program)(fn:Func)(c:Code)(d:Ann)(args:List Value)(ks:List Kind)(K:wS ks→af→Prop)(h:af):Prop:=
 l5 P fn.ntmps c d
  (fun r b=>pm P r b fn.results.toList fun vs=>ED ks vs fun t=>K t b)
  (fun e r b=>match e with
   | .ret=>pm P r b fn.results.toList fun vs=>ED ks vs fun t=>K t b
   | .exit _=>False)
  (rZ 0 args) h
def F7:List Oper→Option (Oper×Oper×Operand×Nat×FuncId×List Operand)
 | [m,o]=>match m.op,m.guard,m.dst,o.op,o.dst,o.guard with
  | .move x,none,some d,.defer c,none,none=>(match c.callee with
   | .value (.func f)=>some (m,o,x,d,f,c.args.toList)
   |_=>none)
  |_,_,_,_,_,_=>none
 |_=>none
inductive Mk where
 |it (n:Nat)
 |call (f:FuncId) (vs:List Value)
def HD(P:Program)(f:FuncId)(args:List Value)(K:af→Prop)(h:af):Prop:=
 ∀w:World,w.heap=h→(∀(args:Array Value) (w:World),(callFunc f args).run P w=.ok (.enter f args) w)∧∀n:Nat,CallsDIn {fn:=fun _=>True,depth:=none,alive:=false,round:=none} n P f args.toArray .returning w fun e u w'=>u=.returning∧Tame w w'∧(∃v,e=.returned v)∧K w'.heap
noncomputable def uy(c:Code):Bool:=
 Code.rec (motive:=fun _=>Bool) false (fun _ ops _=>(F7 ops.toList).isSome) (fun _ _ a b=>bif a then true else b) (fun _ _ _ a b=>bif a then true else b)
  (fun _ _ b=>b) (fun _ b=>b) (fun _ _ _ _ _ _=>true) (fun _=>false) (fun _ b=>b) (fun _=>false) (fun _=>false) false (fun _=>false) c
def JC:Option Ex→Option Code
 |none=>none
 |some (.exit i)=>some (.exit i)
 |some .ret=>some .ret
def Wp(N:af→Prop)(X:Nat→af→Prop)(R:af→Prop):Option Ex→af→Prop
 |none=>N
 |some (.exit i)=>X i
 |some .ret=>R
structure RangeP(P:Program)(fv:Value)(ks:List Kind)(h:af)(RT:Obj→Obj→wS ks→(Option Ex→af→Prop)→af→Prop)(N:af→Prop)(X:Nat→af→Prop)(R:af→Prop):Prop where
 run:∀lo:LoopState→Option Ex→Obj,(∀s j,∃r,lo s j=.loop r)→
  (∀x h' K,h'[h.size+1]? =some (lo .ready none)→
   RT (lo .ready none) (lo .busy none) x (fun j h2=>h2[h.size+1]? =some (lo .busy none)∧K j.isNone (h2.setIfInBounds (h.size+1) (lo (if j.isNone then .ready else .done) j))) h'→
   HV P (.func (.yield (h.size+1)) #[] #[]) (oA ks x) [.c .bool] K h')→
  ∃f first cap,fv=.func (.func f) first cap∧HE P f (first.toList++ [.func (.yield (h.size+1)) #[] #[]]++cap.toList) []
   (fun _ h2=>∃s j,s≠ .busy∧h2[h.size+1]? =some (lo s j)∧Wp N X R j (h2.setIfInBounds (h.size+1) (lo .exhausted j))) ((h.push (.deferred (some []))).push (lo .ready none))
def Sx:List Nat→List Value→cO→cO
 |i::l,v::vs,r=>Sx l vs ((i,v)::r)
 |_,_,r=>r
noncomputable def Ma(P:Program)(N:Nat)(ps:List Nat)(ks:List Kind)(assign body:Code)(b:Ann)(r:cO)(l:Nat)(Ki f:Obj)(x:wS ks)(k:Option Ex→af→Prop)(h:af):Prop:=
 l5 P N assign b.l (fun d c=>c[l]? =some Ki∧l5 P N body b.r (fun _ h2=>k none h2) (fun e _ h2=>k (some e) h2) d (c.setIfInBounds l f)) (fun _ _ _=>False) (Sx ps (oA ks x) r) h
def Bc(N:Nat):List Nat→Bool
 | []=>true
 |n::l=>Ad n N&&Bc N l
noncomputable def A5(P:Program)(N:Nat)(c:Code):Ann→(List Mk→cO→af→Prop)→(Ex→List Mk→cO→af→Prop)→List Mk→cO→af→Prop:=
 Code.rec (motive:=fun _=>Ann→(List Mk→cO→af→Prop)→(Ex→List Mk→cO→af→Prop)→List Mk→cO→af→Prop)
  (fun j Kn Kx ms r h=>l5 P N .skip j (Kn ms) (fun e=>Kx e ms) r h)
  (fun id ops q j Kn Kx ms r h=>match F7 ops.toList with
   |none=>l5 P N (.region id ops q) j (Kn ms) (fun e=>Kx e ms) r h
   |some (_,_,x,d,f,as)=>bif q then False else match dF r x with
    |some v=>bif Ad d N then(match pC ((d,v)::r) as with|some vs=>Kn (.call f vs::ms) ((d,v)::r) h|none=>False)else False
    |none=>False)
  (fun a b o n j Kn Kx ms r h=>bif (bif uy a then true else uy b)then o j.l (fun ms p m=>n j.r Kn Kx ms p m) Kx ms r h
   else l5 P N (.seq a b) j (Kn ms) (fun e=>Kx e ms) r h)
  (fun c a b o n j Kn Kx ms r h=>bif (bif uy a then true else uy b)then
    (match dF r c with
     |some (.bool t)=>CondP t (o j.l Kn Kx ms r h) (n j.r Kn Kx ms r h)
     |_=>False)
   else l5 P N (.cond c a b) j (Kn ms) (fun e=>Kx e ms) r h)
  (fun id b s j Kn Kx ms r h=>bif uy b then s j Kn (fun e ms p m=>match e with
    | .exit i=>bif bK i id then Kn ms p m else Kx (.exit i) ms p m
    | .ret=>Kx .ret ms p m) ms r h
   else l5 P N (.block id b) j (Kn ms) (fun e=>Kx e ms) r h)
  (fun b _ j Kn Kx ms r h=>l5 P N (.loop b) j (Kn ms) (fun e=>Kx e ms) r h)
  (fun g ps assign body _ _ j Kn Kx ms r h=>match j with
   | .rf ks aa ab=>bif Bc N ps.toList&&bK ps.toList.length ks.length then
    (match dF r g with
     |some fv=>RangeP P fv ks h (fun Ki u x k m=>Ma P N ps.toList ks assign body (.node aa ab) r (h.size+1) Ki u x k m)
      (fun m=>Kn (.it h.size::ms) r m) (fun i m=>Kx (.exit i) (.it h.size::ms) r m) (fun m=>Kx .ret (.it h.size::ms) r m)
     |none=>False)else False
   |_=>False)
  (fun id j Kn Kx ms r h=>l5 P N (.exit id) j (Kn ms) (fun e=>Kx e ms) r h)
  (fun _ _ _ _ _ _ _ _=>False)
  (fun l j Kn Kx ms r h=>l5 P N (.label l) j (Kn ms) (fun e=>Kx e ms) r h)
  (fun _ _ _ _ _ _ _=>False)
  (fun j Kn Kx ms r h=>l5 P N .ret j (Kn ms) (fun e=>Kx e ms) r h)
  (fun _ _ _ _ _ _ _=>False)
  c
def Kr(P:Program):List Mk→(af→Prop)→af→Prop
 | [],K,h=>K h
 | .it D::ms,K,h=>h[D]? =some (.deferred (some []))∧Kr P ms K (h.setIfInBounds D (.deferred none))
 | .call f vs::ms,K,h=>HD P f vs (fun b=>Kr P ms K b) h
noncomputable def Mb(P:Program)(fn:Func)(c:Code)(d:Ann)(args:List Value)(ks:List Kind)(K:wS ks→af→Prop)(h:af):Prop:=
 A5 P fn.ntmps c d
  (fun ms r b=>Kr P ms (fun b=>pm P r b fn.results.toList fun vs=>ED ks vs fun t=>K t b) b)
  (fun e ms r b=>match e with
   | .ret=>Kr P ms (fun b=>pm P r b fn.results.toList fun vs=>ED ks vs fun t=>K t b) b
   | .exit _=>False)
  [] (rZ 0 args) h
end Go.Lift
namespace Go.Lift
open Go
theorem Gi(a:Addr):adr a 0=a:=rfl
theorem Cu(a:Addr)(n:Nat):adr a (n+1)=⟨a.block,a.off+(n+1),none⟩:=rfl
theorem wz(a:Addr)(n:Nat):adr a n=a.add n:=by
 cases n with
 |zero=>simp[Gi,Addr.add]
 |succ n=>simp[Cu,Addr.add]
theorem Cv(a:Addr)(m n:Nat):adr (adr a m) n=adr a (m+n):=by
 cases n with
 |zero=>rfl
 |succ n=>cases m with
  |zero=>simp[Gi]
  |succ m=>rw[Cu,Cu,show m+1+(n+1)=(m+1+n)+1 from rfl,Cu];simp;omega
theorem Tame.refl(w:World):Tame w w:=⟨rfl,rfl,rfl⟩
theorem Tame.trans{a b c:World}(h:Tame a b)(k:Tame b c):Tame a c:=⟨k.os.trans h.os,k.tape.trans h.tape,k.output.trans h.output⟩
theorem Ci{a b:IntKind}(h:Ju a b=true):a=b:=by cases a<;>cases b<;>first|rfl|cases h
theorem CK.dec_sound{c:CK}{v:Value}{f:c.den→Prop}(h:c.dec v f):∃x,v=c.enc x∧f x:=by
 cases c<;>cases v<;>try simp only[CK.dec]at h
 case int.int k k' n=>
  cases hk:Ju k' k with
  |false=>rw[hk]at h;exact h.elim
  |true=>rw[hk]at h;have:=Ci hk;subst this;exact⟨n,rfl,h⟩
 case adr.pointer p=>cases p with
  |none=>exact h.elim
  |some a=>exact⟨a,rfl,h⟩
 all_goals first|exact h.elim|exact⟨_,rfl,h⟩
theorem Ef:∀{cs:List CK} {vs:List Value} {f:Sn cs→Prop},Oh cs vs f→∃t,vs=RQ cs t∧f t
 | [],[],f,h=>⟨(),rfl,h⟩
 | [],_::_,f,h=>h.elim
 | [c],[v],f,h=>by obtain⟨x,rfl,g⟩:=CK.dec_sound h;exact⟨x,rfl,g⟩
 | [c],[],f,h=>h.elim
 | [c],_::_::_,f,h=>h.elim
 |c::d::cs,[],f,h=>h.elim
 |c::d::cs,[_],f,h=>h.elim
 |c::d::cs,v::u::vs,f,h=>by
  have b:c.dec v fun x=>Oh (d::cs) (u::vs) fun t=>f (x,t):=h
  obtain⟨x,hx,i⟩:=CK.dec_sound b;obtain⟨t,e,h2⟩:=Ef (cs:=d::cs) (vs:=u::vs) i;exact⟨(x,t),by rw[e,hx];rfl,h2⟩
theorem Kind.dec_sound{k:Kind}{v:Value}{f:k.den→Prop}(h:k.dec v f):∃x,v=k.enc x∧f x:=by
 cases k with
 |c k=>exact CK.dec_sound h
 |agg cs=>
  cases v<;>simp only[Kind.dec]at h
  case agg vs=>
   obtain⟨t,b,d⟩:=Ef h;exact⟨t,by simp only[Kind.enc,←b],d⟩
theorem uR:∀{ks:List Kind} {vs:List Value} {f:wS ks→Prop},ED ks vs f→∃t,vs=oA ks t∧f t
 | [],[],f,h=>⟨(),rfl,h⟩
 | [],_::_,f,h=>h.elim
 | [c],[v],f,h=>by obtain⟨x,rfl,g⟩:=Kind.dec_sound h;exact⟨x,rfl,g⟩
 | [c],[],f,h=>h.elim
 | [c],_::_::_,f,h=>h.elim
 |c::d::cs,[],f,h=>h.elim
 |c::d::cs,[_],f,h=>h.elim
 |c::d::cs,v::u::vs,f,h=>by
  have b:c.dec v fun x=>ED (d::cs) (u::vs) fun t=>f (x,t):=h
  obtain⟨x,hx,i⟩:=Kind.dec_sound b;obtain⟨t,e,h2⟩:=uR (ks:=d::cs) (vs:=u::vs) i;exact⟨(x,t),by rw[e,hx];rfl,h2⟩
theorem vE:∀(ks:List Kind) (t:wS ks),(oA ks t).length=ks.length
 | [],_=>rfl
 | [_],_=>rfl
 |_::l::ks,(_,t)=>by simp only[oA,ax,vE (l::ks) t]
structure Agree(N:Nat)(r:cO)(a:Act):Prop where
 size:a.tmps.size=N
 look:∀t v,lD r t=some v→a.tmps.getD t undef=v
theorem jg(k:Nat)(v:Value)(r:cO):lD ((k,v)::r) k=some v:=by rw[Fu,show bK k k=true from Nat.beq_refl k];rfl
theorem ic{k t:Nat}(v:Value)(r:cO)(h:k≠t):lD ((k,v)::r) t=lD r t:=by
 rw[Fu];have:bK k t=false:=Bool.eq_false_iff.2 fun e=>h (aV e)
 rw[this];rfl
theorem Agree.put{N:Nat}{r:cO}{a:Act}(h:Agree N r a)(d:Nat)(v:Value)(hd:d<N):Agree N ((d,v)::r) (a.put (some d) v):=by
 refine⟨by simp[Act.put,h.size],fun t u b=>?_⟩
 by_cases e:d=t
 ·subst e
  rw[jg]at b;cases b;simp[Act.put,h.size,hd]
 ·rw[ic v r e]at b
  have:=h.look t u b;simpa[Act.put,Array.getElem?_setIfInBounds_ne e]using this
theorem Agree.known{N:Nat}{r:cO}{a:Act}(h:Agree N r a){t:Nat}{v:Value}(hv:lD r t=some v):Agree N ((t,v)::r) a:=by
 refine⟨h.size,fun s u b=>?_⟩
 by_cases e:t=s
 ·subst e;rw[jg]at b;cases b;exact h.look t v hv
 ·rw[ic v r e]at b;exact h.look s u b
theorem lF{N:Nat}{r:cO}{a:Act}(h:Agree N r a){o:Operand}{v:Value}(hv:dF r o=some v):a.eval o=v:=by
 cases o with
 |tmp t=>exact h.look t v hv
 |const c=>simp[dF]at hv;subst hv;rfl
 |global g=>simp[dF]at hv;subst hv;rfl
 |func f=>simp[dF]at hv;subst hv;rfl
theorem nM{N:Nat}{r:cO}{a:Act}(h:Agree N r a):∀{os:List Operand} {vs:List Value},pC r os=some vs→os.map a.eval=vs
 | [],vs,hv=>by simp[pC]at hv;subst hv;rfl
 |o::os,vs,hv=>by
  simp only[pC]at hv;cases ho:dF r o with
  |none=>simp[ho]at hv
  |some v=>cases hos:pC r os with
   |none=>simp[ho,hos]at hv
   |some us=>simp[ho,hos]at hv;subst hv;simp[lF h ho,nM h hos]
theorem az{P:Program}{t:TypeId}{d:TypeDesc}(h:P.underlying t=some d)(w:World):(underlying t).run P w=.ok d w:=by
 simp only[underlying,program,bind,Sem.bind,pt,h,pure]
theorem df{P:Program}{t:TypeId}{i:TypeInfo}(h:P.info? t=some i)(w:World):(typeInfo t).run P w=.ok i w:=by
 simp only[typeInfo,program,bind,Sem.bind,pt,h,pure]
theorem jW{P:Program}{s:Sem Value}{v:Value}{w w':World}(h:s.run P w=.ok v w'):(do pure (Next.value (←s)):Sem Next).run P w=.ok (.value v) w':=by
 simp[h]
theorem Qi{P:Program}{s:Sem Unit}{w w':World}(h:s.run P w=.ok () w'):(do s;pure Next.skip:Sem Next).run P w=.ok .skip w':=by
 simp[h]
theorem B5{P:Program}{w:World}{a:Addr}{v:Value}(h:bj w.heap a=some v):(load a).run P w=.ok v w:=by
 have b:w.cell? a=some v:=h;simp[b]
theorem Cp{v:Value}{vs:List Value}{i:Nat}{a:Addr}{h:af}:vG (v::vs) i a h↔bj h (adr a i)=some v∧vG vs (i+1) a h:=by
 cases vs with
 |nil=>simp[vG]
 |cons u us=>rfl
theorem vu{P:Program}{w:World}{a:Addr}:∀(vs:List Value) (i:Nat) (acc:Array Value),vG vs i a w.heap→
  (loadCellsFrom a i vs.length acc).run P w=.ok (acc++vs.toArray) w
 | [],i,acc,_=>by simp[loadCellsFrom]
 |v::vs,i,acc,h=>by
  obtain⟨b,h2⟩:=Cp.1 h;rw[wz]at b;have:=vu (P:=P) (w:=w) (a:=a) vs (i+1) (acc.push v) h2;simp only[ax,loadCellsFrom,aU,B5 b,aB,this];simp
theorem G4{P:Program}{w:World}{a:Addr}{vs:List Value}(h:vG vs 0 a w.heap):(loadCells a vs.length).run P w=.ok vs.toArray w:=by
 have:=vu (P:=P) (w:=w) (a:=a) vs 0 #[] h;simpa[loadCells]using this
theorem AD:∀(cs:List CK) (i:Nat) (a:Addr) (h:af) (k:List Value→Prop),JD cs i a h k→∃vs,vs.length=cs.length∧vG vs i a h∧k vs
 | [],i,a,h,k,b=>⟨[],rfl,trivial,b⟩
 |c::cs,i,a,h,k,b=>by
  obtain⟨x,hx,b⟩:=b;obtain⟨vs,d,hc,b⟩:=AD cs (i+1) a h _ b;exact⟨c.enc x::vs,by simp[d],Cp.2 ⟨hx,hc⟩,b⟩
theorem Co:∀{vs:List Value} {cs:List CK},Ga vs=some cs→cs.length=vs.length
 | [],cs,h=>by simp[Ga]at h;subst h;rfl
 |v::vs,cs,h=>by
  simp only[Ga]at h;cases h1:UH v with
  |none=>simp[h1]at h
  |some c=>cases h2:Ga vs with
   |none=>simp[h1,h2]at h
   |some ds=>simp[h1,h2]at h;subst h;simp[Co h2]
def Sh(P:Program)(t:TypeId)(i:TypeInfo):Kind→Prop
 | .c _=>xP P t=false
 | .agg cs=>xP P t=true∧i.size=cs.length
theorem MO{P:Program}{t:TypeId}{k:Kind}(h:N4 P t=some k):∃i,P.info? t=some i∧Sh P t i k:=by
 unfold N4 Ar at h;cases hi:P.info? t with
 |none=>simp[hi]at h
 |some i=>
  refine⟨i,rfl,?_⟩;cases hz:i.zero with
  |none=>simp[hi,hz]at h
  |some z=>
   rw[hi]at h;simp only[hz]at h;cases z;case agg vs=>
    simp only at h;cases hb:(xP P t&&bK vs.toList.length (cf P t))with
    |false=>rw[hb]at h;simp at h
    |true=>
     rw[hb]at h;simp only[cond_true]at h;simp only[Bool.and_eq_true]at hb;have b:=aV hb.2;cases hd:Ga vs.toList with
     |none=>rw[hd]at h;simp at h
     |some ds=>
      rw[hd]at h;simp only[bX.injEq]at h;subst h;exact⟨hb.1,by rw[Co hd,b];simp[cf,hi]⟩
   all_goals
    simp only at h;cases ha:xP P t
    ·rw[ha]at h
     simp only[cond_false]at h;split at h
     ·simp only[bX.injEq]at h;subst h;exact ha
     ·simp at h
    ·rw[ha]at h;simp at h
theorem MP{P:Program}{t:TypeId}{k:Kind}(h:FO P t=some k):(∀w,(isAgg t).run P w=.ok (xP P t) w)∧N4 P t=some k:=by
 unfold FO at h;cases hu:P.underlying t with
 |none=>simp[hu]at h
 |some d=>
  simp only[hu]at h;refine⟨fun w=>?_,h⟩
  simp only[isAgg,aU,az hu,aB];unfold xP;rw[hu];cases d<;>rfl
theorem D5{P:Program}{t:TypeId}{v:Value}{K:RK}{h:af}(d:KF P t v K h):
  ∃u S,K u (some S)∧S h∧∀w:World,S w.heap→(Instr.loadAt t v).run P w=.ok u w:=by
 unfold KF at d;cases v with
 |pointer p=>
  cases p with
  |none=>exact d.elim
  |some a=>
   simp only at d;cases hk:FO P t with
   |none=>simp[hk]at d
   |some k=>
    obtain⟨b,g⟩:=MP hk;obtain⟨i,hi,hc⟩:=MO g;rw[hk]at d;cases k with
    |c c=>
     obtain⟨x,hx,m⟩:=d;refine⟨_,_,m,hx,fun w j=>?_⟩
     have hc:xP P t=false:=hc;simp only[Instr.loadAt,nG,loadVar,aU,bT,aB,b,hc];simp[B5 j]
    |agg cs=>
     obtain⟨vs,e,f,m⟩:=AD cs 0 a h _ d;obtain⟨n,h2⟩:xP P t=true∧i.size=cs.length:=hc;refine⟨_,_,m,f,fun w j=>?_⟩
     have g:(sizeOf t).run P w=.ok vs.length w:=by simp[sizeOf,df hi,h2,e]
     simp only[Instr.loadAt,nG,loadVar,aU,bT,aB,b,n];simp[g,G4 j]
 |_=>exact d.elim
end Go.Lift
