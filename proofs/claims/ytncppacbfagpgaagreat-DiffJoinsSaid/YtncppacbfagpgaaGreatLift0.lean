/- A part of the proof that the named laws of this program answer true, whatever the input. -/
import Derived.OrdersIn
import Derived.Below
import Derived.WalkKit
import Derived.RangeFuncRecord
namespace Go.Lift
open BitVec renaming ofInt→aw
open Iff renaming rfl→vT
open List renaming rec→fN,length_cons→ao
open Nat renaming succ→fZ,beq→bM,min→dR,land→jK,lor→cQ,pred→xr,eq_of_beq_eq_true→bc
open Option renaming some→bm
open Region renaming binds→rM
open Result renaming andThen_ok→aG
abbrev af:=Array Obj
def aN(h:af)(a:Addr):Option Value:=
 match h[a.block]? with
 |some (.cells c _ _)=>if a.spot.isSome then none else c[a.off]?
 |_=>none
def D9(h:af)(a:Addr):Bool:=
 match h[a.block]? with
 |some (.cells _ _ (lo,hi))=>lo≤a.off&&a.off<hi
 |_=>false
def hset(h:af)(a:Addr)(v:Value):af:=
 h.modify a.block fun
  | .cells c elem frozen=>.cells (if a.spot.isSome then c else c.setIfInBounds a.off v) elem frozen
  |o=>o
noncomputable def adr(a:Addr)(n:Nat):Addr:=Nat.rec (motive:=fun _=>Addr) a (fun n _=>⟨a.block,a.off+fZ n,none⟩) n
def Wr(h:af)(a:Addr):Prop:=(∃v,aN h a=some v)∧D9 h a=false
structure Tame(w w':World):Prop where
 os:w'.os=w.os
 tape:w'.tape=w.tape
 output:w'.output=w.output
structure SliceV where
 a:Option Addr
 len:Nat
 cap:Nat
def IQ:IntKind→IntKind→Bool
 | .i8,.i8=>true| .i16,.i16=>true| .i32,.i32=>true| .i64,.i64=>true
 | .u8,.u8=>true| .u16,.u16=>true| .u32,.u32=>true| .u64,.u64=>true
 |_,_=>false
inductive CK where
 |int (k:IntKind)|bool|str|ptr|slice|map|chan|raw|adr
def CK.den:CK→Type
 | .int _=>Int| .bool=>Bool| .str=>ByteArray| .ptr=>Option Addr| .slice=>SliceV| .map=>Option Nat| .chan=>Option Nat| .raw=>Value| .adr=>Addr
def CK.enc:(c:CK)→c.den→Value
 | .int k,n=>.int k n
 | .bool,b=>.bool b
 | .str,s=>.string s
 | .ptr,p=>.pointer p
 | .slice,s=>.slice s.a s.len s.cap
 | .map,r=>.map r
 | .chan,r=>.chan r
 | .raw,v=>v
 | .adr,a=>.pointer (some a)
def CK.dec:(c:CK)→Value→(c.den→Prop)→Prop
 | .int k,.int k' n,f=>bif IQ k' k then f n else False
 | .bool,.bool b,f=>f b
 | .str,.string s,f=>f s
 | .ptr,.pointer p,f=>f p
 | .slice,.slice a l c,f=>f ⟨a,l,c⟩
 | .map,.map r,f=>f r
 | .chan,.chan r,f=>f r
 | .raw,v,f=>f v
 | .adr,.pointer (some a),f=>f a
 |_,_,_=>False
def Rx:List CK→Type
 | []=>Unit
 | [c]=>c.den
 |c::d::cs=>c.den×Rx (d::cs)
def Rd:(cs:List CK)→Rx cs→List Value
 | [],_=> []
 | [c],x=> [c.enc x]
 |c::d::cs,(x,t)=>c.enc x::Rd (d::cs) t
def OD:(cs:List CK)→List Value→(Rx cs→Prop)→Prop
 | [],[],f=>f ()
 | [c],[v],f=>c.dec v f
 |c::d::cs,v::u::vs,f=>c.dec v fun x=>OD (d::cs) (u::vs)fun t=>f (x,t)
 |_,_,_=>False
inductive Kind where
 |c (k:CK)
 |agg (cs:List CK)
def Kind.den:Kind→Type
 | .c k=>k.den
 | .agg cs=>Rx cs
def Kind.enc:(k:Kind)→k.den→Value
 | .c k,x=>k.enc x
 | .agg cs,t=>.agg (Rd cs t).toArray
def Kind.dec:(k:Kind)→Value→(k.den→Prop)→Prop
 | .c k,v,f=>k.dec v f
 | .agg cs,.agg vs,f=>OD cs vs.toList f
 |_,_,_=>False
def cJ:List Kind→Type
 | []=>Unit
 | [k]=>k.den
 |k::l::ks=>k.den×cJ (l::ks)
def nR:(ks:List Kind)→cJ ks→List Value
 | [],_=> []
 | [k],x=> [k.enc x]
 |k::l::ks,(x,t)=>k.enc x::nR (l::ks) t
def DE:(ks:List Kind)→List Value→(cJ ks→Prop)→Prop
 | [],[],f=>f ()
 | [k],[v],f=>k.dec v f
 |k::l::ks,v::u::vs,f=>k.dec v fun x=>DE (l::ks) (u::vs)fun t=>f (x,t)
 |_,_,_=>False
def EL(ks:List Kind)(vs:List Value):Value:=
 match ks,vs with
 | [_],[v]=>v
 |_,vs=>.tuple vs.toArray
def Tt:Value→Option CK
 | .int k _=>some (.int k)
 | .bool _=>some .bool
 | .string _=>some .str
 | .pointer _=>some .ptr
 | .slice .. =>some .slice
 | .map _=>some .map
 | .chan _=>some .chan
 | .nilFunc=>some .raw
 | .nilIface=>some .raw
 |_=>none
def Fh:List Value→Option (List CK)
 | []=>some []
 |v::vs=>match Tt v,Fh vs with
  |some c,some cs=>some (c::cs)
  |_,_=>none
def vJ(P:Program)(t:TypeId):Bool:=
 match P.underlying t with
 |some (.struct _)|some (.array _ _)=>true
 |_=>false
def bX(P:Program)(t:TypeId):Nat:=match P.info? t with|some i=>i.size|none=>0
def rh(P:Program)(t:TypeId):Nat:=match P.info? t with|some i=>i.bytes|none=>0
def xV(P:Program)(t:TypeId):Option Value:=match P.info? t with|some i=>i.zero|none=>none
def Oo(P:Program)(t:TypeId):Option Kind:=
 match xV P t with
 |some (.agg vs)=>bif vJ P t&&bM vs.toList.length (bX P t)then(match Fh vs.toList with|some cs=>some (.agg cs)|none=>none)else none
 |some v=>bif vJ P t then none else(match Tt v with|some c=>some (.c c)|none=>none)
 |none=>none
def EX(P:Program)(t:TypeId):Option Kind:=
 match P.underlying t with
 |none=>none
 |some _=>Oo P t
structure HC(P:Program)(f:FuncId)(args:List Value)(ks:List Kind)(K:cJ ks→af→Prop)(h:af):Prop where
 run:∀w:World,w.heap=h→
  ((callFunc f args.toArray).run P w=.ok (.enter f args.toArray) w∧
   Calls P f args.toArray w fun e w'=>Tame w w'∧∃t:cJ ks,e=.returned (EL ks (nR ks t))∧K t w'.heap)∨
  (∃v w',(callFunc f args.toArray).run P w=.ok (.value v) w'∧Tame w w'∧∃t:cJ ks,v=EL ks (nR ks t)∧K t w'.heap)
structure HE(P:Program)(f:FuncId)(args:List Value)(ks:List Kind)(K:cJ ks→af→Prop)(h:af):Prop where
 run:∀w:World,w.heap=h→(∀(args:Array Value) (w:World),(callFunc f args).run P w=.ok (.enter f args) w)∧
  Calls P f args.toArray w fun e w'=>Tame w w'∧∃t:cJ ks,e=.returned (EL ks (nR ks t))∧K t w'.heap
theorem HE.hc{P:Program}{f:FuncId}{args:List Value}{ks:List Kind}{K:cJ ks→af→Prop}{h:af}(e:HE P f args ks K h):HC P f args ks K h:=
 ⟨fun w hw=>.inl ⟨(e.run w hw).1 _ w,(e.run w hw).2⟩⟩
structure HY(P:Program)(l:Nat)(args:List Value)(K:Bool→af→Prop)(h:af):Prop where
 run:∀w:World,w.heap=h→∃fn tmps assign body,(Instr.yield l args.toArray).run P w=.ok (.round l fn tmps assign body) w∧
  ∀(c:Frame) (cs:List Frame),∃b w',Tame w w'∧K b w'.heap∧Steps P (lone (Frame.round l fn tmps assign body .normal) (c::cs) w) (lone (c.finish (.bool b)) cs w')
structure HV(P:Program)(fv:Value)(args:List Value)(ks:List Kind)(K:cJ ks→af→Prop)(h:af):Prop where
 run:(∃f first cap,fv=.func (.func f) first cap∧HC P f (first.toList++args++cap.toList) ks K h)∨
  (∃l,fv=.func (.yield l) #[] #[]∧HY P l args (fun b h'=>DE ks [.bool b]fun t=>K t h') h)
noncomputable def CondP(b:Bool)(t e:Prop):Prop:=Bool.rec (motive:=fun _=>Prop) e t b
theorem CondP.yes{b:Bool}{t e:Prop}(h:CondP b t e)(hb:b=true):t:=by subst hb;exact h
theorem CondP.no{b:Bool}{t e:Prop}(h:CondP b t e)(hb:b=false):e:=by subst hb;exact h
theorem CondP.intro{b:Bool}{t e:Prop}(h1:b=true→t)(h2:b=false→e):CondP b t e:=by cases b;exact h2 rfl;exact h1 rfl
theorem ar{t e:Prop}:CondP true t e↔t:=vT
theorem al{t e:Prop}:CondP false t e↔e:=vT
attribute [irreducible] CondP
def At(h:af)(k:af→Prop):Prop:=k h
def Bd{T:Type}(x:T)(k:T→Prop):Prop:=k x
structure Join{T:Type}(rest:T→af→Prop)(k:(T→af→Prop)→Prop):Prop where
 run:k rest
structure LoopP{T:Type}(F:(T→af→Prop)→T→af→Prop)(t:T)(h:af):Prop where
 run:∀I:T→af→Prop,(∀t h,F I t h→I t h)→I t h
abbrev cD:=List (Nat×Value)
noncomputable def ku(r:cD)(t:Nat):Option Value:=
 fN (motive:=fun _=>Option Value) none (fun kv _ ih=>bif bM kv.1 t then some kv.2 else ih) r
theorem EG(k:Nat)(v:Value)(r:cD)(t:Nat):ku ((k,v)::r) t=bif bM k t then some v else ku r t:=rfl
noncomputable def dA(r:cD):Operand→Option Value
 | .tmp t=>ku r t
 | .const v=>some v
 | .global g=>some (.pointer (some ⟨g,0,none⟩))
 | .func f=>some (.func (.func f) #[] #[])
noncomputable def qY(r:cD):List Operand→Option (List Value)
 | []=>some []
 |o::os=>match dA r o,qY r os with
  |some v,some vs=>some (v::vs)
  |_,_=>none
noncomputable def IX:List CK→Nat→Addr→af→(List Value→Prop)→Prop
 | [],_,_,_,k=>k []
 |c::cs,i,a,h,k=>∃x:c.den,aN h (adr a i)=some (c.enc x)∧IX cs (i+1) a h fun vs=>k (c.enc x::vs)
noncomputable def tA:List Value→Nat→Addr→af→Prop
 | [],_,_,_=>True
 | [v],i,a,h=>aN h (adr a i)=some v
 |v::u::vs,i,a,h=>aN h (adr a i)=some v∧tA (u::vs) (i+1) a h
abbrev RK:=Value→Option (af→Prop)→Prop
noncomputable def Kj(P:Program)(t:TypeId)(v:Value)(K:RK)(h:af):Prop:=
 match v with
 | .pointer (some a)=>
  match EX P t with
  |some (.c c)=>∃x:c.den,aN h a=some (c.enc x)∧K (c.enc x) (some fun h'=>aN h' a=some (c.enc x))
  |some (.agg cs)=>IX cs 0 a h fun vs=>K (.agg vs.toArray) (some fun h'=>tA vs 0 a h')
  |none=>False
 |_=>False
def wS(P:Program)(t:TypeId)(f:Nat):Option (TypeId×Nat):=
 match P.underlying t with
 |some (.struct fs)=>match fs.toList[f]? with
  |some g=>some (g.type,g.offset)
  |none=>none
 |_=>none
def vV(P:Program)(t:TypeId):Option TypeId:=
 match P.underlying t with
 |some (.slice e)=>some e
 |_=>none
def L7(op:BinOp)(k:IntKind)(a b:Int)(K:RK):Prop:=
 match op with
 | .shl=>0≤b∧K (.int k (k.wrap (a*2^(min b.toNat k.bits)))) none
 | .shr=>0≤b∧K (.int k (a.fdiv (2^(min b.toNat k.bits)))) none
 |_=>False
def Tk(op:BinOp)(k:IntKind)(a b:Int)(K:RK):Prop:=
 match op with
 | .add=>K (.int k (k.wrap (a+b))) none
 | .sub=>K (.int k (k.wrap (a-b))) none
 | .mul=>K (.int k (k.wrap (a*b))) none
 | .quo=>b≠0∧K (.int k (k.wrap (a.tdiv b))) none
 | .rem=>b≠0∧K (.int k (a.tmod b)) none
 | .and=>K (.int k (k.wrap (aw k.bits a&&&aw k.bits b).toNat)) none
 | .or=>K (.int k (k.wrap (aw k.bits a|||aw k.bits b).toNat)) none
 | .xor=>K (.int k (k.wrap (aw k.bits a^^^aw k.bits b).toNat)) none
 | .andNot=>K (.int k (k.wrap (aw k.bits a&&& ~~~aw k.bits b).toNat)) none
 | .eql=>K (.bool (a==b)) none
 | .neq=>K (.bool (a !=b)) none
 | .lss=>K (.bool (decide (a<b))) none
 | .leq=>K (.bool (decide (a≤b))) none
 | .gtr=>K (.bool (decide (a>b))) none
 | .geq=>K (.bool (decide (a≥b))) none
 |_=>False
def S6(op:BinOp)(a b:ByteArray)(K:RK):Prop:=
 match op with
 | .add=>((a.size+b.size:Nat):Int)≤9223372036854775807∧K (.string (a++b)) none
 | .eql=>K (.bool (a.toList==b.toList)) none
 | .neq=>K (.bool (!(a.toList==b.toList))) none
 | .lss=>K (.bool (Op.bytesLess a.toList b.toList)) none
 | .leq=>K (.bool (Op.bytesLess a.toList b.toList||a.toList==b.toList)) none
 | .gtr=>K (.bool (!(Op.bytesLess a.toList b.toList||a.toList==b.toList))) none
 | .geq=>K (.bool (!(Op.bytesLess a.toList b.toList))) none
 |_=>False
def fI(h:af)(a:Addr):Prop:=(∃c e,h[a.block]?=some (.cells c e (0,0))∧0<c.size)
def Sd(P:Program)(t:TypeId)(neg:Bool)(x y:Value)(K:RK):Prop:=
 match P.underlying t,x,y with
 |some (.pointer _),.pointer a,.pointer none=>K (.bool (bif neg then !a.isNone else a.isNone)) none
 |some (.map _ _),.map a,.map none=>K (.bool (bif neg then !a.isNone else a.isNone)) none
 |some (.slice _),.slice a _ _,.slice none _ _=>K (.bool (bif neg then !a.isNone else a.isNone)) none
 |_,_,_=>False
def Tj:Operand→Bool
 | .const (.pointer none)=>true
 | .const (.map none)=>true
 | .const (.slice none 0 0)=>true
 |_=>false
def T4(P:Program)(t:TypeId)(neg:Bool)(x y:Value)(K:RK)(h:af):Prop:=
 match P.underlying t,x,y with
 |some .bool,.bool a,.bool b=>K (.bool (bif neg then !(a==b)else a==b)) none
 |some (.pointer e),.pointer a,.pointer b=>
  (bif bM (bX P e) 0 then False else True)∧
  (∀x y,a=some x→b=some y→fI h x∧fI h y)∧
  K (.bool (bif neg then !(a==b)else a==b)) (some fun h'=>∀x y,a=some x→b=some y→fI h' x∧fI h' y)
 |_,_,_=>False
def Tc(P:Program)(op:BinOp)(t:TypeId)(x y:Value)(K:RK)(h:af):Prop:=
 match x,y with
 | .int k a,.int k' b=>
  match op with
  | .shl=>L7 .shl k a b K
  | .shr=>L7 .shr k a b K
  |op=>bif IQ k' k then Tk op k a b K else False
 | .string a,.string b=>S6 op a b K
 |x,y=>match op with
  | .eql=>T4 P t false x y K h
  | .neq=>T4 P t true x y K h
  |_=>False
def rU(h:af):List (Option Addr×Option Addr)→Prop
 | []=>True
 |(a,b)::l=>(∀x y,a=some x→b=some y→fI h x∧fI h y)∧rU h l
def Q0(P:Program)(t:TypeId)(x y:Value):Option (Bool×List (Option Addr×Option Addr)):=
 match P.underlying t,x,y with
 |some (.int _),.int k a,.int k' b=>bif IQ k' k then some (a==b,[])else none
 |some .bool,.bool a,.bool b=>some (a==b,[])
 |some .string,.string a,.string b=>some (a.toList==b.toList,[])
 |some (.pointer e),.pointer a,.pointer b=>bif bM (bX P e) 0 then none else some (a==b,[(a,b)])
 |_,_,_=>none
def Su(P:Program)(rec:TypeId→List Value→List Value→Option(Bool×List(Option Addr×Option Addr)))(xs ys:List Value):List Field→Option (Bool×List (Option Addr×Option Addr))
 | []=>some (true,[])
 |f::fs=>
  if f.name= "_" then none else
  bif (P.underlying f.type).isSome&&(P.info? f.type).isSome then
   match(bif vJ P f.type then rec f.type ((xs.drop f.offset).take (bX P f.type)) ((ys.drop f.offset).take (bX P f.type))
    else match xs[f.offset]?,ys[f.offset]? with|some x,some y=>Q0 P f.type x y|_,_=>none),Su P rec xs ys fs with
   |some (b,l),some (c,m)=>some (b&&c,l++m)
   |_,_=>none
  else none
def Q1(P:Program):Nat→TypeId→List Value→List Value→Option (Bool×List (Option Addr×Option Addr))
 |0,_,_,_=>none
 |d+1,t,xs,ys=>match P.underlying t with
  |some (.struct fs)=>bif P.stoodInHeld t then none else Su P (Q1 P d) xs ys fs.toList
  |_=>none
def Ul(neg b:Bool)(K:RK)(h:af):List (Option Addr×Option Addr)→Prop
 | []=>K (.bool (bif neg then !b else b)) none
 |p::l=>rU h (p::l)∧K (.bool (bif neg then !b else b)) (some fun h'=>rU h' (p::l))
def Td(P:Program)(op:BinOp)(t:TypeId)(xs ys:List Value)(K:RK)(h:af):Prop:=
 bif P.eqGuardType P.depth t then False else
 match op with
 | .eql=>(match Q1 P 10 t xs ys with|some (b,l)=>Ul false b K h l|none=>False)
 | .neq=>(match Q1 P 10 t xs ys with|some (b,l)=>Ul true b K h l|none=>False)
 |_=>False
def Ug(op:UnOp)(x:Value)(K:RK):Prop:=
 match op,x with
 | .neg,.int k n=>K (.int k (k.wrap (0-n))) none
 | .xor,.int k n=>K (.int k (k.wrap (aw k.bits (if k.signed then-1 else k.max)^^^aw k.bits n).toNat)) none
 | .not,.bool b=>K (.bool (!b)) none
 |_,_=>False
def gi(s:ByteArray):List Value:=s.data.toList.map fun b=>.int .u8 b.toNat
noncomputable def Row(h:af)(a:Addr)(vs:List Value):Prop:=∀i v,vs[i]?=some v→aN h (adr a i)=some v
noncomputable def SRow(h:af)(a:Option Addr)(n:Nat)(vs:List Value):Prop:=vs.length=n∧(vs= []∨∃b,a=some b∧Row h b vs)
def Sp(P:Program)(e:TypeId):Bool:=match P.underlying e with|some (.int .u8)=>true|_=>false
noncomputable def Qy(P:Program)(src dst:TypeId)(x:Value)(K:RK)(h:af):Prop:=
 match P.underlying src,P.underlying dst,x with
 |some (.int _),some (.int k),.int _ n=>K (.int k (k.wrap n)) none
 |some .string,some .string,.string s=>K (.string s) none
 |some (.slice e),some .string,.slice a n _=>bif Sp P e then∃s:ByteArray,SRow h a n (gi s)∧K (.string s) (some fun h'=>SRow h' a n (gi s))else False
 |_,_,_=>False
def Rg(v:Option Value)(d y:Nat)(K:Nat→Prop):Prop:=
 match v with
 |none=>K d
 |some (.int _ i)=>(0≤i∧i≤y)∧K i.toNat
 |_=>False
noncomputable def aP(a:Option Addr)(l m size:Nat):Option Addr:=if m=l then a else a.map (adr·(l*size))
def QF(P:Program)(t:TypeId)(K:Prop):Prop:=match P.info? t with|some _=>K|none=>False
noncomputable def Mi(P:Program)(t:TypeId)(x:Value)(lo hi mx:Option Value)(K:RK):Prop:=
 match P.underlying t,x with
 |some .string,.string s=>match mx with
  |some _=>False
  |none=>Rg hi s.size s.size fun h=>Rg lo 0 h fun l=>K (.string (s.extract l h)) none
 |some (.slice e),.slice a len cap=>QF P e (
  match mx with
  |none=>Rg hi len cap fun h=>Rg lo 0 h fun l=>K (.slice (aP a l cap (bX P e)) (h-l) (cap-l)) none
  |some m=>match hi with
   |none=>False
   |some hi=>Rg (some m) 0 cap fun m=>Rg (some hi) 0 m fun h=>Rg lo 0 h fun l=>K (.slice (aP a l m (bX P e)) (h-l) (m-l)) none)
 |some (.array n e),.pointer (some a)=>QF P e (
  match mx with
  |none=>Rg hi n n fun h=>Rg lo 0 h fun l=>K (.slice (aP (some a) l n (bX P e)) (h-l) (n-l)) none
  |some _=>False)
 |_,_=>False
noncomputable def Hm(r:cD):Option Operand→Option (Option Value)
 |none=>some none
 |some o=>match dA r o with
  |some v=>some (some v)
  |none=>none
noncomputable def yG(P:Program)(t:TypeId)(x i:Value)(K:RK):Prop:=
 match P.underlying t,x,i with
 |some (.array n e),.pointer (some a),.int _ i=>QF P e ((0≤i∧i<n)∧K (.pointer (some (adr a (i.toNat*bX P e)))) none)
 |some (.slice e),.slice b len _,.int _ i=>QF P e ((0≤i∧i<len)∧∃a,b=some a∧K (.pointer (some (adr a (i.toNat*bX P e)))) none)
 |_,_,_=>False
def Mk(P:Program)(t:TypeId)(x i:Value)(K:RK):Prop:=
 match P.underlying t,x,i with
 |some .string,.string s,.int _ i=>∃b:UInt8,0≤i∧s[i.toNat]?=some b∧K (.int .u8 b.toNat) none
 |_,_,_=>False
noncomputable def Ml(P:Program)(t:TypeId)(x:Value)(f:Nat)(K:RK):Prop:=
 match wS P t f,x with
 |some (u,off),.agg cs=>bif (P.underlying u).isSome&&(P.info? u).isSome then(bif vJ P u then K (.agg ((cs.toList.drop off).take (bX P u)).toArray) none
  else(match cs.toList[off]? with|some v=>K v none|none=>False))else False
 |_,_=>False
def ST(c a b:Value)(K:RK):Prop:=
 match c with
 | .bool c=>(match a,b with
  | .bool x,.bool y=>K (.bool (bif c then x else y)) none
  |_,_=>(match c with|true=>K a none|false=>K b none))
 |_=>False
def ii:Value→Value→Bool
 | .int _ a,.int _ b=>a==b
 | .string a,.string b=>a==b
 | .bool a,.bool b=>a==b
 |_,_=>false
def K5(k:Value):List MapEntry→Option Value
 | []=>none
 |e::es=>if ii k e.key then some e.val else K5 k es
def EY(c:CK)(es:List MapEntry):Prop:=∀e∈es,∃x:c.den,e.key=c.enc x
def Nf(c:CK)(z:Value)(h:af)(m:Option Nat)(k v:Value)(ok:Bool):Prop:=
 match m with
 |none=>v=z∧ok=false
 |some r=>∃es clock,h[r]?=some (.map es clock)∧EY c es.toList∧
  (match K5 k es.toList with|some u=>v=u∧ok=true|none=>v=z∧ok=false)
def KH(P:Program)(t:TypeId):Option (CK×TypeId):=
 match P.underlying t with
 |some (.map k e)=>match P.underlying k with
  |some (.int i)=>some (.int i,e)
  |some .string=>some (.str,e)
  |some .bool=>some (.bool,e)
  |_=>none
 |_=>none
def Iw(P:Program)(t:TypeId)(x k:Value)(ok:Bool)(K:RK)(h:af):Prop:=
 match KH P t,x with
 |some (c,e),.map m=>c.dec k fun _=>
  (match EX P e,xV P e with
   |some ek,some z=>∃(y:ek.den) (b:Bool),Nf c z h m k (ek.enc y) b∧
    K (bif ok then.tuple #[ek.enc y,.bool b]else ek.enc y) (some fun h'=>Nf c z h' m k (ek.enc y) b)
   |_,_=>False)
 |_,_=>False
def Rv(h:af)(m:Option Nat)(n:Nat):Prop:=
 match m with
 |none=>n=0
 |some r=>∃es clock,h[r]?=some (.map es clock)∧n=es.size
def Ta(P:Program)(t:TypeId)(x:Value)(K:RK)(h:af):Prop:=
 match P.underlying t,x with
 |some .string,.string s=>K (.int .i64 s.size) none
 |some (.array n _),_=>K (.int .i64 n) none
 |some (.slice _),.slice _ n _=>K (.int .i64 n) none
 |some (.map _ _),.map m=>∃n:Nat,Rv h m n∧K (.int .i64 n) (some fun h'=>Rv h' m n)
 |_,_=>False
def Tb(P:Program)(t:TypeId)(x:Value)(K:RK):Prop:=
 match P.underlying t,x with
 |some (.slice _),.slice _ _ n=>K (.int .i64 n) none
 |_,_=>False
def IJ(mx:Bool)(k:IntKind):Int→List Value→(Value→Prop)→Prop
 |a,[],f=>f (.int k a)
 |a,.int k' b::vs,f=>bif IQ k' k then IJ mx k (bif mx then(if b>a then b else a)else(if b<a then b else a)) vs f else False
 |_,_,_=>False
def D6(mx:Bool)(vs:List Value)(f:Value→Prop):Prop:=
 match vs with
 | .int k a::vs=>IJ mx k a vs f
 |_=>False
def Ng(h:af)(i:Nat)(e:MapEntry):Prop:=
 ∃m since seen last stamp es,h[i]?=some (.mapIter (some m) since seen last)∧seen.back?=some stamp∧h[m]?=some (.map es last)∧es.find? (fun e=>e.born==stamp)=some e
def qE(P:Program)(t:TypeId):Bool:=match P.underlying t with|some (.interface _)=>false|some _=>true|none=>false
def Ob(P:Program)(t:TypeId)(x:Value)(K:RK):Prop:=
 bif qE P t then(match EX P t with
  |some k=>∃y:k.den,x=.iface t (k.enc y)∧K (k.enc y) none
  |none=>False)else False
def Kp(cs:List Value)(off:Nat)(vs:List Value):List Value:=cs.take off++vs++cs.drop (off+vs.length)
def De(place:Nat→Option(Nat×Nat)):List Value→List (Nat×Value)→Option (List Value)
 |cs,[]=>some cs
 |cs,(i,v)::rest=>match place i with
  |none=>none
  |some (off,size)=>bif bM v.cells.toList.length size&&Nat.ble (off+v.cells.toList.length) cs.length then De place (Kp cs off v.cells.toList) rest else none
noncomputable def qD(r:cD):List (Nat×Operand)→Option (List (Nat×Value))
 | []=>some []
 |(i,o)::ps=>match dA r o,qD r ps with
  |some v,some vs=>some ((i,v)::vs)
  |_,_=>none
def qW(P:Program)(t:TypeId):Option (List Value):=match xV P t with|some z=>some z.cells.toList|none=>none
def dz(n:Nat)(z:List Value):List Value:=(List.replicate n z).flatten
def xE(P:Program)(t:TypeId):Bool:=match P.info? t with|some _=>true|none=>false
def Ay(P:Program):List Field→Bool
 | []=>true
 |f::fs=>bif xE P f.type then Ay P fs else false
def Mv(P:Program)(fs:List Field)(i:Nat):Option (Nat×Nat):=match fs[i]? with|some f=>some (f.offset,bX P f.type)|none=>none
def Je(P:Program)(t:TypeId)(parts:List(Nat×Value)):Option (List Value):=
 match P.underlying t,qW P t with
 |some (.struct fs),some z=>bif Ay P fs.toList then De (Mv P fs.toList) z parts else none
 |some (.array _ e),some z=>bif xE P e then De (fun i=>some (i*bX P e,bX P e)) z parts else none
 |_,_=>none
noncomputable def BN(P:Program)(ek:Option(Kind×Kind))(o:Op)(r:cD)(K:RK)(h:af):Prop:=
 match o with
 | .entry it=>match dA r it,ek with
  |some (.pointer (some a)),some (kk,vk)=>a.off=0∧∃(e:MapEntry) (x:kk.den) (y:vk.den),Ng h a.block e∧e.key=kk.enc x∧e.val=vk.enc y∧
    K (.tuple #[kk.enc x,vk.enc y]) (some fun h'=>Ng h' a.block e)
  |_,_=>False
 | .move x| .assign x=>match dA r x with|some v=>K v none|none=>False
 | .load t a=>match dA r a with|some v=>Kj P t v K h|none=>False
 | .nilCheck x=>match dA r x with|some (.pointer p)=>∃a,p=some a∧K (.pointer (some a)) none|_=>False
 | .binOp op t x y _=>match dA r x,dA r y with
  |some (.agg v),some (.agg u)=>Td P op t v.toList u.toList K h
  |some v,some u=>(match op,Tj y with
   | .eql,true=>Sd P t false v u K
   | .neq,true=>Sd P t true v u K
   |op,_=>Tc P op t v u K h)
  |_,_=>False
 | .unOp op _ x=>match dA r x with|some v=>Ug op v K|none=>False
 | .convert s d x=>match dA r x with|some v=>Qy P s d v K h|none=>False
 | .pick c a b=>match dA r c,dA r a,dA r b with|some c,some a,some b=>ST c a b K|_,_,_=>False
 | .extract x i=>match dA r x with
  |some (.tuple vs)=>(match vs.toList[i]? with|some v=>K v none|none=>False)
  |_=>False
 | .fieldAddr t x f=>match dA r x,wS P t f with
  |some (.pointer (some a)),some (u,off)=>bif bM (bX P u) 0 then False else K (.pointer (some (adr a off))) none
  |_,_=>False
 | .field t x f=>match dA r x with|some v=>Ml P t v f K|none=>False
 | .indexAddr t x i=>match dA r x,dA r i with|some v,some u=>yG P t v u K|_,_=>False
 | .index t x i=>match dA r x,dA r i with|some v,some u=>Mk P t v u K|_,_=>False
 | .slice t x lo hi mx=>match dA r x,Hm r lo,Hm r hi,Hm r mx with
  |some v,some l,some h',some m=>Mi P t v l h' m K
  |_,_,_,_=>False
 | .lookup t x k ok=>match dA r x,dA r k with|some v,some u=>Iw P t v u ok K h|_,_=>False
 | .makeInterface t x=>match dA r x with|some v=>bif qE P t then K (.iface t v) none else False|none=>False
 | .typeAssert x _ t ok=>match dA r x with|some v=>bif ok then False else Ob P t v K|none=>False
 | .build t ps=>match qD r ps.toList with
  |some vs=>(match Je P t vs with|some cs=>K (.agg cs.toArray) none|none=>False)
  |none=>False
 | .makeFunc fn first cap=>match qY r first.toList,qY r cap.toList with
  |some vs,some us=>K (.func fn vs.toArray us.toArray) none
  |_,_=>False
 | .call c=>match c.callee,qY r c.args.toList,c.argTypes.toList with
  | .builtin .len,some [v],[t]=>Ta P t v K h
  | .builtin .cap,some [v],[t]=>Tb P t v K
  | .builtin .min,some vs,_=>D6 false vs fun v=>K v none
  | .builtin .max,some vs,_=>D6 true vs fun v=>K v none
  |_,_,_=>False
 |_=>False
abbrev WK:=Value→af→Prop
def ag(h:af):Addr:=⟨h.size,0,none⟩
def hnew(h:af)(cs:List Value)(t:TypeId):af:=h.push (.cells cs.toArray t (0,0))
def cf:List Value→Bool
 | []=>true
 |v::vs=>(match v with| .agg _=>false| .tuple _=>false|_=>true)&&cf vs
noncomputable def aV(h:af)(a:Addr):Nat→List Value→af
 |_,[]=>h
 |i,v::vs=>aV (hset h (adr a i) v) a (i+1) vs
noncomputable def fV(h:af)(a:Option Addr)(i:Nat)(vs:List Value):af:=match a with|some a=>aV h a i vs|none=>h
noncomputable def dq(h:af)(a:Option Addr)(i:Nat)(vs:List Value):Prop:=vs= []∨∃b,a=some b∧∀j,j<vs.length→Wr h (adr b (i+j))
noncomputable def LT(P:Program)(t:TypeId)(a v:Value)(K:WK)(h:af):Prop:=
 match a with
 | .pointer (some a)=>bif bM v.cells.toList.length (bX P t)&&cf v.cells.toList then QF P t
   (match v.cells.toList with
    | [v]=>Wr h a∧K undef (hset h a v)
    |vs=>dq h (some a) 0 vs∧K undef (aV h a 0 vs))
  else False
 |_=>False
noncomputable def Ro(P:Program)(e:TypeId)(base:Option Addr)(sl sc xl:Nat)(xs:List Value)(K:WK)(h:af):Prop:=
 (sl+xl≤sc→dq h base (sl*bX P e) xs∧cf xs=true∧K (.slice base (sl+xl) sc) (fV h base (sl*bX P e) xs))∧
 (sc<sl+xl→∃old z,SRow h base (sl*bX P e) old∧qW P e=some z∧0<rh P e∧Builtin.nextslicecap (sl+xl) sc*rh P e≤2^48∧
  ∀nc,sl+xl≤nc→K (.slice (some (ag h)) (sl+xl) nc) (hnew h (old++xs++dz (nc-(sl+xl)) z) e))
noncomputable def D1(P:Program)(t:TypeId)(s x:Value)(K:WK)(h:af):Prop:=
 match vV P t,s,x with
 |some e,.slice b sl sc,.slice a xl _=>QF P e (∃xs,SRow h a (xl*bX P e) xs∧Ro P e b sl sc xl xs K h)
 |some e,.slice b sl sc,.string x=>bif bM (bX P e) 1 then Ro P e b sl sc x.size (gi x) K h else False
 |_,_,_=>False
noncomputable def Em(P:Program)(t:TypeId)(s x:Value)(K:WK)(h:af):Prop:=
 match vV P t,s,x with
 |some e,.slice b sl sc,.int _ l=>(match qW P e with
  |some z=>bif bM z.length (bX P e)then(0≤l∧l*rh P e≤2^48∧l≤9223372036854775807∧((sl+l.toNat:Nat):Int)≤9223372036854775807)∧Ro P e b sl sc l.toNat (dz l.toNat z) K h else False
  |none=>False)
 |_,_,_=>False
noncomputable def LU(P:Program)(t:TypeId)(x:Value)(K:WK)(h:af):Prop:=
 match vV P t,x with
 |some e,.slice a n _=>(match qW P e with
  |some z=>bif cf z then dq h a 0 (dz n z)∧K (.tuple #[]) (fV h a 0 (dz n z))else False
  |none=>False)
 |_,_=>False
noncomputable def P6(P:Program)(t:TypeId)(d s:Value)(K:WK)(h:af):Prop:=
 match vV P t,d,s with
 |some e,.slice b dl _,.slice a sl _=>QF P e (∃xs,SRow h a (dR sl dl*bX P e) xs∧dq h b 0 xs∧cf xs=true∧K (.int .i64 (dR sl dl)) (fV h b 0 xs))
 |some e,.slice b dl _,.string x=>bif bM (bX P e) 1 then dq h b 0 ((gi x).take dl)∧K (.int .i64 (dR x.size dl)) (fV h b 0 ((gi x).take dl))else False
 |_,_,_=>False
def Ms(k v:Value)(clock:Nat):List MapEntry→List MapEntry×Nat
 | []=>([{key:=k,val:=v,born:=clock}],clock+1)
 |e::es=>if ii k e.key then({e with key:=k,val:=v}::es,clock)else let r:=Ms k v clock es;(e::r.1,r.2)
def Lc(k:Value):List MapEntry→List MapEntry
 | []=> []
 |e::es=>if ii k e.key then es else e::Lc k es
def OJ(c:CK)(h:af)(r:Nat):Prop:=∃es clock,h[r]?=some (.map es clock)∧EY c es.toList
def Sg(h:af)(r:Nat)(k v:Value):af:=
 match h[r]? with
 |some (.map es clock)=>h.setIfInBounds r (.map (Ms k v clock es.toList).1.toArray (Ms k v clock es.toList).2)
 |_=>h
def On(h:af)(r:Nat)(k:Value):af:=
 match h[r]? with
 |some (.map es clock)=>h.setIfInBounds r (.map (Lc k es.toList).toArray clock)
 |_=>h
def D0(P:Program)(t:TypeId)(m k v:Value)(K:WK)(h:af):Prop:=
 match KH P t,m with
 |some (c,_),.map m=>c.dec k fun _=>∃r,m=some r∧OJ c h r∧K undef (Sg h r k v)
 |_,_=>False
def Ek(P:Program)(t:TypeId)(m k:Value)(K:WK)(h:af):Prop:=
 match KH P t,m with
 |some (c,_),.map m=>c.dec k fun _=>(m=none∧K (.tuple #[]) h)∨(∃r,m=some r∧OJ c h r∧K (.tuple #[]) (On h r k))
 |_,_=>False
def Qt(P:Program):List TypeId→Option (List Kind)
 | []=>some []
 |t::ts=>match EX P t,Qt P ts with
  |some k,some ks=>some (k::ks)
  |_,_=>none
def Qu(P:Program)(t:TypeId):Option (List Kind):=
 match P.underlying t with
 |some (.tuple ts)=>Qt P ts.toList
 |_=>Qt P [t]
noncomputable def SM(P:Program)(f:Operand)(r:cD)(args:List Value)(t:TypeId)(K:WK)(h:af):Prop:=
 match Qu P t with
 |none=>False
 |some ks=>match f with
  | .func f=>HC P f args ks (fun x h'=>K (EL ks (nR ks x)) h') h
  |f=>match dA r f with
   |some fv=>HV P fv args ks (fun x h'=>K (EL ks (nR ks x)) h') h
   |none=>False
def P5(it:Value)(K:WK)(h:af):Prop:=
 match it with
 | .pointer (some a)=>a.off=0∧
  ∃m since seen last,h[a.block]?=some (.mapIter m since seen last)∧
   ((m=none∧K (.tuple #[.bool false]) h)∨
    (∃r es clock,m=some r∧h[r]?=some (.map es clock)∧(seen.isEmpty=true∨es.isEmpty=true∨es.all (fun e=>decide (e.born≥last))=false)∧
     ((∀e∈es.toList,e.born<since→seen.contains e.born=true)→K (.tuple #[.bool false]) h)∧
     (∀e∈es.toList,seen.contains e.born=false→K (.tuple #[.bool true,e.key,e.val]) (h.setIfInBounds a.block (.mapIter (some r) since (seen.push e.born) clock)))))
 |_=>False
noncomputable def GU(P:Program)(o:Oper)(r:cD)(K:WK)(h:af):Prop:=
 match o.op with
 | .alloc t=>(match qW P t with|some z=>K (.pointer (some (ag h))) (hnew h z t)|none=>False)
 | .box t x=>(match dA r x with|some v=>K (.pointer (some (ag h))) (hnew h v.cells.toList t)|none=>False)
 | .build t ps=>(match qD r ps.toList with
  |some vs=>(match Je P t vs with|some cs=>K (.agg cs.toArray) h|none=>False)
  |none=>False)
 | .buildSlice t n ps=>(match vV P t,qD r ps.toList with
  |some e,some vs=>(match qW P e with
   |some z=>bif Nat.ble (n*bX P e) 16777216&&bM z.length (bX P e)then
     (match De (fun i=>some (i*bX P e,bX P e)) (dz n z) vs with|some cs=>K (.slice (some (ag h)) n n) (hnew h cs e)|none=>False)
    else False
   |none=>False)
  |_,_=>False)
 | .store t a x=>(match dA r a,dA r x with|some a,some v=>LT P t a v K h|_,_=>False)
 | .mapUpdate t m k x=>(match dA r m,dA r k,dA r x with|some m,some k,some v=>D0 P t m k v K h|_,_,_=>False)
 | .insert t m k x=>(match dA r m,dA r k,dA r x with|some m,some k,some v=>D0 P t m k v K h|_,_,_=>False)
 | .makeMap t n=>(match n with
  |none=>K (.map (some h.size)) (h.push (.map #[] 0))
  |some n=>(match dA r n,P.underlying t with|some (.int _ _),some (.map _ _)=>K (.map (some h.size)) (h.push (.map #[] 0))|_,_=>False))
 | .makeSlice t l c=>(match vV P t,dA r l,dA r c with
  |some e,some (.int _ l),some (.int _ c)=>(match qW P e with
   |some z=>bif bM z.length (bX P e)then(0≤l∧l≤c∧c≤9223372036854775807∧rh P e*c≤2^48)∧K (.slice (some (ag h)) l.toNat c.toNat) (hnew h (dz c.toNat z) e)else False
   |none=>False)
  |_,_,_=>False)
 | .range t x=>(match P.underlying t,dA r x with
  |some (.map _ _),some (.map m)=>∃clock,(m=none∧clock=0∨∃r es,m=some r∧h[r]?=some (.map es clock))∧K (.pointer (some (ag h))) (h.push (.mapIter m clock #[] clock))
  |_,_=>False)
 | .next it false=>(match dA r it with|some it=>P5 it K h|none=>False)
 | .call c=>(match c.callee,qY r c.args.toList with
  | .builtin .append,some [s,x]=>(match c.argTypes.toList with| [t,u]=>(match P.underlying u with|some (.slice _)=>D1 P t s x K h|some .string=>D1 P t s x K h|some (.int _)=>Em P t s x K h|_=>False)|_=>False)
  | .builtin .clear,some [x]=>(match c.argTypes.toList with| [t]=>LU P t x K h|_=>False)
  | .builtin .copy,some [d,s]=>(match c.argTypes.toList with| [t,_]=>P6 P t d s K h|_=>False)
  | .builtin .delete,some [m,k]=>(match c.argTypes.toList with| [t,_]=>Ek P t m k K h|_=>False)
  | .value f,some args=>SM P f r args o.type K h
  |_,_=>False)
 |_=>False
def vW:Op→Bool
 | .alloc _| .box .. | .buildSlice .. | .store .. | .mapUpdate .. | .insert .. | .makeMap .. | .makeSlice .. | .range .. | .next .. =>false
 | .call c=>match c.callee with
  | .builtin .len| .builtin .cap| .builtin .min| .builtin .max=>true
  |_=>false
 |_=>true
def Am(N:Nat)(o:Oper)(v:Value)(r:cD)(K:cD→Prop):Prop:=
 match o.dst with
 |none=>K r
 |some d=>bif Nat.blt d N then K ((d,v)::r)else False
noncomputable def Tz(P:Program)(N:Nat)(ek:Option(Kind×Kind))(o:Oper)(r:cD)(K:cD→af→Prop)(h:af):Prop:=
 bif vW o.op then BN P ek o.op r (fun v _=>Am N o v r fun r'=>K r' h) h
 else GU P o r (fun v h'=>Am N o v r fun r'=>K r' h') h
inductive DV where
 |f|t|u|x
abbrev u3:=List (Nat×DV)
noncomputable def ru(d:u3)(t:Nat):DV:=
 fN (motive:=fun _=>DV) .x (fun kv _ ih=>bif bM kv.1 t then kv.2 else ih) d
noncomputable def Ao(d:u3):Operand→DV
 | .tmp t=>ru d t
 | .const (.bool true)=>.t
 | .const (.bool false)=>.f
 |_=>.x
noncomputable def JM(d:u3):Op→DV
 | .move x=>Ao d x
 | .assign x=>Ao d x
 | .pick c a b=>match Ao d c with
  | .t=>Ao d a
  | .f=>Ao d b
  |_=>.x
 | .unOp .not _ x=>match Ao d x with
  | .t=>.f
  | .f=>.t
  |_=>.x
 |_=>.x
def su(d:u3)(o:Oper)(v:DV):u3:=match o.dst with|some t=>(t,v)::d|none=>d
noncomputable def jn(ops:List Oper)(d:u3)(o:Oper):Option Bool:=
 match o.guard with
 |none=>some true
 |some (j,want)=>match ops[j]? with
  |none=>none
  |some oj=>match oj.dst with
   |none=>none
   |some t=>match ru d t with
    | .t=>some want
    | .f=>some (!want)
    | .u=>some false
    | .x=>none
def E3(ops:List Oper)(o:Oper):Option Nat:=
 match o.guard with
 |none=>none
 |some (j,_)=>match ops[j]? with
  |none=>none
  |some oj=>oj.dst
noncomputable def G9(P:Program)(N:Nat)(ek:Option(Kind×Kind))(ops:List Oper)(o:Oper)(d:u3)(r:cD)(h:af)(K:u3→cD→af→Prop):Prop:=
 match jn ops d o with
 |some true=>Tz P N ek o r (K (su d o (JM d o.op))) h
 |some false=>Am N o undef r fun r'=>K (su d o .u) r' h
 |none=>False
noncomputable def EC(P:Program)(N:Nat)(ek:Option(Kind×Kind))(ops:List Oper)(l:List Oper):u3→(cD→af→Prop)→cD→af→Prop:=
 fN (motive:=fun _=>u3→(cD→af→Prop)→cD→af→Prop) (fun _ K r h=>K r h)
  (fun o _ ih d K r h=>
  match jn ops d o with
  |some true=>Tz P N ek o r (fun r' h'=>ih (su d o (JM d o.op)) K r' h') h
  |some false=>Am N o undef r fun r'=>ih (su d o .u) K r' h
  |none=>match E3 ops o with
   |none=>False
   |some t=>match ku r t with
    |some (.bool b)=>CondP b
     (G9 P N ek ops o ((t,.t)::d) ((t,.bool true)::r) h fun d' r' h'=>ih d' K r' h')
     (G9 P N ek ops o ((t,.f)::d) ((t,.bool false)::r) h fun d' r' h'=>ih d' K r' h')
    |_=>False) l
inductive DA where
 |done
 |take (i:Nat) (rest:DA)
 |all (l:DA)
 |pick (i:Nat) (rest more:DA)
 |last (i:Nat) (rest:DA)
 |lastT (i:Nat) (rest:DA)
 |split (t:Nat) (yes no:DA)
abbrev ri:=List (Nat×(af→Prop))
def tb(m i:Nat):Bool:=bM (jK (Nat.shiftRight m i) 1) 1
def g7(i:Nat):Nat:=Nat.pow 2 i
inductive DM where
 |mk (am fr lk ds:Nat)
def DM.am:DM→Nat| .mk a _ _ _=>a
def DM.fr:DM→Nat| .mk _ f _ _=>f
def DM.lk:DM→Nat| .mk _ _ l _=>l
def DM.ds:DM→Nat| .mk _ _ _ d=>d
def jz(o:Oper)(i:Nat):Bool:=o.after.toList.any fun e=>bM e.on i&&rM .any e
noncomputable def mU(l:List Edge):Nat:=
 fN (motive:=fun _=>Nat) 0 (fun e _ ih=>bif rM .any e then cQ (g7 e.on) ih else ih) l
noncomputable def md(l:List Operand):Nat:=
 fN (motive:=fun _=>Nat) 0 (fun o _ ih=>match o with| .tmp t=>cQ (g7 t) ih|_=>ih) l
def ot(o:Oper):Nat:=match o.dst with|some d=>g7 d|none=>0
noncomputable def oU(ops:List Oper)(o:Oper):Nat:=
 cQ (md o.op.operands.toList) (match o.guard with
  |some (g,_)=>(match ops[g]? with|some og=>ot og|none=>0)
  |none=>0)
noncomputable def wH(ops:List Oper)(l:List Oper):List DM→Bool:=
 fN (motive:=fun _=>List DM→Bool) (fun ms=>match ms with| []=>true|_=>false)
  (fun o _ ih ms=>match ms with
   |m::ms=>bM (mU o.after.toList) m.am&&bM (oU ops o) m.lk&&bM (ot o) m.ds&&ih ms
   | []=>false) l
def Cb(x y:DM):Bool:=bM (jK x.ds (cQ y.lk y.ds)) 0&&bM (jK y.ds x.lk) 0
noncomputable def HL(i:Nat)(m:DM)(l:List DM):Nat→Bool:=
 fN (motive:=fun _=>Nat→Bool) (fun _=>true)
  (fun n _ ih j=>(!(tb m.fr j)||bM j i||tb n.am i||Cb m n)&&ih (fZ j)) l
noncomputable def Ak(all:List DM)(l:List DM):Nat→Bool:=
 fN (motive:=fun _=>Nat→Bool) (fun _=>true) (fun m _ ih i=>HL i m all 0&&ih (fZ i)) l
def KA:List Oper→Bool
 | []=>true
 |o::os=>(match o.op with| .select .. =>false| .defer _=>false|_=>true)&&KA os
noncomputable def D7(ops:List Oper)(ms:List DM):Bool:=wH ops ops ms&&Ak ms ms 0&&KA ops
def td(o:Oper):ri→ri
 | []=> []
 |(k,S)::l=>bif jz o k then td o l else(k,S)::td o l
def uD:ri→af→Prop→Prop
 | [],_,R=>R
 |(_,S)::l,h,R=>S h∧uD l h R
def JL(m:DM)(ls:Nat):Bool:=bM (jK m.am ls) m.am
noncomputable def mo(ls:Nat)(l:List DM):Nat→List Nat:=
 fN (motive:=fun _=>Nat→List Nat) (fun _=> []) (fun m _ ih j=>bif !(tb ls j)&&JL m ls then j::ih (fZ j)else ih (fZ j)) l
def Et(m:DM)(i ls n:Nat):Bool:= !(tb ls i)&&JL m ls&&bM (jK (cQ ls m.fr) (xr (g7 n))) (xr (g7 n))
def vp:List Nat→List Nat→Bool
 | [],[]=>true
 |a::as,b::bs=>bM a b&&vp as bs
 |_,_=>false
def BW:DA→List Nat
 | .pick i _ l=>i::BW l
 | .last i _=> [i]
 | .lastT i _=> [i]
 |_=> []
noncomputable def OR(P:Program)(N:Nat)(ops:List Oper)(i:Nat)(L:ri)(d:u3)(r:cD)(h:af)(K:ri→u3→cD→af→Prop):Prop:=
 match ops[i]? with
 |none=>False
 |some o=>match jn ops d o with
  |some true=>bif vW o.op then False else GU P o r (fun v h'=>Am N o v r fun r'=>uD (td o L) h' (K (td o L) (su d o .x) r' h')) h
  |_=>False
noncomputable def PV(m:Nat)(l:List DM):Nat→Nat:=
 fN (motive:=fun _=>Nat→Nat) (fun _=>m) (fun n _ ih j=>bif tb m j then cQ n.am (ih (fZ j))else ih (fZ j)) l
noncomputable def Ap(ms:List DM)(m:Nat):Nat:=PV (PV (PV (PV m ms 0) ms 0) ms 0) ms 0
def Jk(ms:List DM)(i:Nat):Nat:=match ms[i]? with|some m=>m.am|none=>0
def zO(m:Nat):ri→ri
 | []=> []
 |(k,S)::l=>bif tb m k then zO m l else(k,S)::zO m l
noncomputable def N7(P:Program)(N:Nat)(ops:List Oper)(ms:List DM)(i:Nat)(L:ri)(d:u3)(r:cD)(h:af)(K:ri→u3→cD→af→Prop):Prop:=
 match ops[i]? with
 |none=>False
 |some o=>match jn ops d o with
  |some true=>bif vW o.op then False else GU P o r (fun v h'=>Am N o v r fun r'=>uD (zO (Ap ms (Jk ms i)) L) h' (K (zO (Ap ms (Jk ms i)) L) (su d o .x) r' h')) h
  |_=>False
noncomputable def nL(P:Program)(N:Nat)(ops:List Oper)(ms:List DM)(da:DA):Bool→Nat→ri→u3→(cD→af→Prop)→cD→af→Prop:=
 DA.rec (motive:=fun _=>Bool→Nat→ri→u3→(cD→af→Prop)→cD→af→Prop)
  (fun m ls _ _ K r h=>bif !m&&vp (mo ls ms 0) []then K r h else False)
  (fun i _ ih m ls L d K r h=>
   match ops[i]?,ms[i]? with
   |some o,some mi=>bif !m&&Et mi i ls ops.length then
     (match jn ops d o with
      |none=>False
      |some false=>Am N o undef r fun r'=>ih false (cQ ls (g7 i)) L (su d o .u) K r' h
      |some true=>bif vW o.op then
       BN P none o.op r (fun v S=>Am N o v r fun r'=>match S with
        |none=>ih false (cQ ls (g7 i)) L (su d o (JM d o.op)) K r' h
        |some S=>ih false (cQ ls (g7 i)) ((i,S)::L) (su d o (JM d o.op)) K r' h) h
       else False)
    else False
   |_,_=>False)
  (fun l ih m ls L d K r h=>bif !m&&vp (mo ls ms 0) (BW l)then ih true ls L d K r h else False)
  (fun i _ _ ih1 ih2 m ls L d K r h=>bif m then OR P N ops i L d r h (fun L' d' r' h'=>ih1 false (cQ ls (g7 i)) L' d' K r' h')∧ih2 true ls L d K r h else False)
  (fun i _ ih m ls L d K r h=>bif m then OR P N ops i L d r h (fun L' d' r' h'=>ih false (cQ ls (g7 i)) L' d' K r' h')else False)
  (fun i _ ih m ls L d K r h=>bif m then N7 P N ops ms i L d r h (fun L' d' r' h'=>ih false (cQ ls (g7 i)) L' d' K r' h')else False)
  (fun t _ _ ih1 ih2 m ls L d K r h=>
   bif m then False else match ku r t with
   |some (.bool b)=>CondP b (ih1 false ls L ((t,.t)::d) K ((t,.bool true)::r) h) (ih2 false ls L ((t,.f)::d) K ((t,.bool false)::r) h)
   |_=>False)
  da
noncomputable def Uj(o:Oper)(i:Nat)(ds lk:Nat)(ops:List Oper)(l:List Oper):Nat→Nat:=
 fN (motive:=fun _=>Nat→Nat) (fun _=>0) (fun p _ ih j=>bif (bM j i||jz p i||(bM (jK ds (cQ (oU ops p) (ot p))) 0&&bM (jK (ot p) lk) 0))then cQ (g7 j) (ih (fZ j))else ih (fZ j)) l
noncomputable def Ui(ops:List Oper)(l:List Oper):Nat→List DM:=
 fN (motive:=fun _=>Nat→List DM) (fun _=> []) (fun o _ ih i=>.mk (mU o.after.toList) (Uj o i (ot o) (oU ops o) ops ops 0) (oU ops o) (ot o)::ih (fZ i)) l
def TB(w:Option Bool)(o:Oper):Bool:=match w with|some false=>true|some true=>vW o.op|none=>false
noncomputable def Tm(ops:List Oper)(d:u3)(ls n:Nat)(l:List Oper):List DM→Nat→Option (Nat×Oper):=
 fN (motive:=fun _=>List DM→Nat→Option (Nat×Oper)) (fun _ _=>none)
  (fun o _ ih ms j=>match ms with
   | []=>none
   |m::ms=>bif Et m j ls n&&TB (jn ops d o) o then some (j,o)else ih ms (fZ j)) l
noncomputable def Tn(ops:List Oper)(d:u3)(ls:Nat)(l:List Oper):List DM→Nat→Option Nat:=
 fN (motive:=fun _=>List DM→Nat→Option Nat) (fun _ _=>none)
  (fun o _ ih ms j=>match ms with
   | []=>none
   |m::ms=>match bif !(tb ls j)&&JL m ls then(match jn ops d o with|none=>E3 ops o|some _=>none)else none with
    |some t=>some t
    |none=>ih ms (fZ j)) l
noncomputable def TL(ops:List Oper)(k:Nat→u3→DA)(ls:Nat)(d:u3)(l:List Nat):DA:=
 fN (motive:=fun _=>DA) .done (fun i rest ih=>match ops[i]? with
  |none=>.done
  |some o=>match rest with
   | []=>.last i (k (cQ ls (g7 i)) (su d o .x))
   |_=>.pick i (k (cQ ls (g7 i)) (su d o .x)) ih) l
noncomputable def Tv(ops:List Oper)(ms:List DM)(fuel:Nat):Nat→u3→DA:=
 Nat.rec (motive:=fun _=>Nat→u3→DA) (fun _ _=>.done) (fun _ ih ls d=>
  match Tm ops d ls ops.length ops ms 0 with
  |some (i,o)=>.take i (ih (cQ ls (g7 i)) (match jn ops d o with|some false=>su d o .u|_=>su d o (JM d o.op)))
  |none=>match Tn ops d ls ops ms 0 with
   |some t=>.split t (ih ls ((t,.t)::d)) (ih ls ((t,.f)::d))
   |none=>match mo ls ms 0 with
    | []=>.done
    |l=>.all (TL ops ih ls d l)) fuel
noncomputable def Ol(ops:List Oper):List DM:=Ui ops ops 0
inductive Ex where
 |exit (id:Nat)
 |ret
abbrev St:=List (Nat×Kind)
def yz:St→List Kind
 | []=> []
 |(_,k)::l=>k::yz l
noncomputable def Ey(r:cD):St→Option (List Value)
 | []=>some []
 |(i,_)::l=>match ku r i,Ey r l with
  |some v,some vs=>some (v::vs)
  |_,_=>none
noncomputable def CO(st:St)(r:cD)(f:cJ(yz st)→Prop):Prop:=
 match Ey r st with
 |some vs=>DE (yz st) vs f
 |none=>False
def oh:St→List Value→cD→cD
 |(i,_)::l,v::vs,r=>(i,v)::oh l vs r
 |_,_,r=>r
noncomputable def Or(r:cD)(l:List Nat):Option cD:=
 fN (motive:=fun _=>Option cD) (some []) (fun t _ ih=>match ku r t,ih with
  |some v,some l=>some ((t,v)::l)
  |_,_=>none) l
noncomputable def mc(t:Nat)(l:List Oper):Bool:=
 fN (motive:=fun _=>Bool) false (fun o _ ih=>match o.dst with|some d=>bif bM d t then true else ih|none=>ih) l
noncomputable def gK(t:Nat)(c:Code):Bool:=
 Code.rec (motive:=fun _=>Bool) false (fun _ ops _=>mc t ops.toList) (fun _ _ a b=>bif a then true else b) (fun _ _ _ a b=>bif a then true else b)
  (fun _ _ b=>b) (fun _ b=>b) (fun _ _ _ _ _ _=>true) (fun _=>false) (fun _ b=>b) (fun _=>false) (fun _=>false) false (fun _=>false) c
inductive Ann where
 |nil
 |node (a b:Ann)
 |join (st:St) (a b:Ann)
 |loop (st:St) (b:Ann)
 |draw (d:DA)
 |kinds (k v:Kind)
 |reg (keep:List Nat) (inner:Ann)
 |rf (ks:List Kind) (a b:Ann)
def Ann.l:Ann→Ann
 | .node a _=>a
 | .rf _ a _=>a
 |_=>.nil
def Ann.r:Ann→Ann
 | .node _ b=>b
 | .rf _ _ b=>b
 |_=>.nil
noncomputable def P4(l:List Oper):Nat:=fN (motive:=fun _=>Nat) 0 (fun o _ ih=>cQ (ot o) ih) l
def TM:Option Nat→Option Nat→Option Nat
 |some a,some b=>some (cQ a b)
 |_,_=>none
noncomputable def xW(c:Code):Option Nat:=
 Code.rec (motive:=fun _=>Option Nat) (some 0) (fun _ ops _=>some (P4 ops.toList)) (fun _ _ a b=>TM a b) (fun _ _ _ a b=>TM a b)
  (fun _ _ b=>b) (fun _ b=>b) (fun _ _ _ _ _ _=>none) (fun _=>some 0) (fun _ b=>b) (fun _=>some 0) (fun _=>some 0) (some 0) (fun _=>some 0) c
noncomputable def wM(m:Nat)(r:cD):cD:=fN (motive:=fun _=>cD) [] (fun kv _ ih=>bif tb m kv.1 then ih else kv::ih) r
noncomputable def BH(P:Program)(N:Nat)(ops:List Oper)(dr:Bool)(an:Ann)(Kn:cD→af→Prop)(r:cD)(h:af):Prop:=
 match dr with
 |false=>(match an with
  | .kinds kk vk=>EC P N (some (kk,vk)) ops ops [] Kn r h
  |_=>EC P N none ops ops [] Kn r h)
 |true=>bif D7 ops (Ol ops)then nL P N ops (Ol ops) (match an with| .draw da=>da|_=>Tv ops (Ol ops) (Nat.add (Nat.add ops.length ops.length) 2) 0 []) false 0 [] [] Kn r h else False
noncomputable def lT(P:Program)(N:Nat)(c:Code):Ann→(cD→af→Prop)→(Ex→cD→af→Prop)→cD→af→Prop:=
 Code.rec (motive:=fun _=>Ann→(cD→af→Prop)→(Ex→cD→af→Prop)→cD→af→Prop)
  (fun _ Kn _ r h=>Kn r h)
  (fun _ ops dr an Kn _ r h=>match an with
   | .reg keep an=>BH P N ops.toList dr an (fun r' h'=>match Or r' keep with|some r0=>Kn r0 h'|none=>False) r h
   |an=>BH P N ops.toList dr an Kn r h)
  (fun a _ iha ihb an Kn Kx r h=>match an with
   | .join st aa ab=>(match xW a with
     |none=>False
     |some m=>Join (T:=cJ (yz st)) (fun t h'=>ihb ab Kn Kx (oh st (nR (yz st) t) (wM m r)) h')
      fun J=>iha aa (fun r' h'=>CO st r' fun t=>J t h') Kx r h)
   |an=>iha an.l (fun r' h'=>ihb an.r Kn Kx r' h') Kx r h)
  (fun c _ _ iha ihb an Kn Kx r h=>match dA r c with
   |some (.bool t)=>CondP t (iha an.l Kn Kx r h) (ihb an.r Kn Kx r h)
   |_=>False)
  (fun id _ ih an Kn Kx r h=>ih an Kn (fun e r' h'=>match e with
    | .exit i=>bif bM i id then Kn r' h' else Kx (.exit i) r' h'
    | .ret=>Kx .ret r' h') r h)
  (fun b ih an _ Kx r h=>match an with
   | .loop st ab=>(match xW b with
     |none=>False
     |some m=>CO st r fun t0=>LoopP (T:=cJ (yz st)) (fun self t h'=>ih ab (fun r' h''=>CO st r' fun t'=>self t' h'') Kx (oh st (nR (yz st) t) (wM m r)) h') t0 h)
   |_=>False)
  (fun _ _ _ _ _ _ _ _ _ _ _=>False)
  (fun id _ _ Kx r h=>Kx (.exit id) r h)
  (fun _ _ _ _ _ _ _=>False)
  (fun _ _ Kn _ r h=>Kn r h)
  (fun _ _ _ _ _ _=>False)
  (fun _ _ Kx r h=>Kx .ret r h)
  (fun _ _ _ _ _ _=>False)
  c
noncomputable def ol(P:Program)(r:cD)(h:af):List ResultVar→(List Value→Prop)→Prop
 | [],K=>K []
 | .tmp t::l,K=>(match ku r t with|some v=>ol P r h l fun vs=>K (v::vs)|none=>False)
 | .cell a t::l,K=>(match ku r a with
  |some v=>Kj P t v (fun x _=>ol P r h l fun vs=>K (x::vs)) h
  |none=>False)
def qz:Nat→List Value→cD
 |_,[]=> []
 |i,v::vs=>(i,v)::qz (i+1) vs
noncomputable def SQ(P:Program)(fn:Func)(c:Code)(an:Ann)(args:List Value)(ks:List Kind)(K:cJ ks→af→Prop)(h:af):Prop:=
 lT P fn.ntmps c an
  (fun r h'=>ol P r h' fn.results.toList fun vs=>DE ks vs fun t=>K t h')
  (fun e r h'=>match e with
   | .ret=>ol P r h' fn.results.toList fun vs=>DE ks vs fun t=>K t h'
   | .exit _=>False)
  (qz 0 args) h
noncomputable def rY(c:Code):Bool:=
 Code.rec (motive:=fun _=>Bool) false (fun _ _ _=>false) (fun _ _ a b=>bif a then true else b) (fun _ _ _ a b=>bif a then true else b)
  (fun _ _ b=>b) (fun _ b=>b) (fun _ _ _ _ _ _=>true) (fun _=>false) (fun _ b=>b) (fun _=>false) (fun _=>false) false (fun _=>false) c
def IW:Option Ex→Option Code
 |none=>none
 |some (.exit i)=>some (.exit i)
 |some .ret=>some .ret
def Uk(N:af→Prop)(X:Nat→af→Prop)(R:af→Prop):Option Ex→af→Prop
 |none=>N
 |some (.exit i)=>X i
 |some .ret=>R
structure RangeP(P:Program)(fv:Value)(ks:List Kind)(h:af)(RT:Obj→Obj→cJ ks→(Option Ex→af→Prop)→af→Prop)(N:af→Prop)(X:Nat→af→Prop)(R:af→Prop):Prop where
 run:∀lo:LoopState→Option Ex→Obj,(∀s j,∃r,lo s j=.loop r)→
  (∀x h' K,h'[h.size+1]?=some (lo .ready none)→
   RT (lo .ready none) (lo .busy none) x (fun j h2=>h2[h.size+1]?=some (lo .busy none)∧K j.isNone (h2.setIfInBounds (h.size+1) (lo (if j.isNone then.ready else.done) j))) h'→
   HV P (.func (.yield (h.size+1)) #[] #[]) (nR ks x) [.c .bool] K h')→
  ∃f first cap,fv=.func (.func f) first cap∧HE P f (first.toList++ [.func (.yield (h.size+1)) #[] #[]]++cap.toList) []
   (fun _ h2=>∃s j,s≠ .busy∧h2[h.size+1]?=some (lo s j)∧Uk N X R j (h2.setIfInBounds (h.size+1) (lo .exhausted j))) ((h.push (.deferred (some []))).push (lo .ready none))
def RG:List Nat→List Value→cD→cD
 |i::l,v::vs,r=>RG l vs ((i,v)::r)
 |_,_,r=>r
noncomputable def L9(P:Program)(N:Nat)(ps:List Nat)(ks:List Kind)(assign body:Code)(an:Ann)(r:cD)(l:Nat)(JL bz:Obj)(x:cJ ks)(k:Option Ex→af→Prop)(h:af):Prop:=
 lT P N assign an.l (fun r1 h1=>h1[l]?=some JL∧lT P N body an.r (fun _ h2=>k none h2) (fun e _ h2=>k (some e) h2) r1 (h1.setIfInBounds l bz)) (fun _ _ _=>False) (RG ps (nR ks x) r) h
def yJ(N:Nat):List Nat→Bool
 | []=>true
 |n::l=>Nat.blt n N&&yJ N l
noncomputable def yC(P:Program)(N:Nat)(c:Code):Ann→(List Nat→cD→af→Prop)→(Ex→List Nat→cD→af→Prop)→List Nat→cD→af→Prop:=
 Code.rec (motive:=fun _=>Ann→(List Nat→cD→af→Prop)→(Ex→List Nat→cD→af→Prop)→List Nat→cD→af→Prop)
  (fun an Kn Kx ms r h=>lT P N .skip an (Kn ms) (fun e=>Kx e ms) r h)
  (fun id ops dr an Kn Kx ms r h=>lT P N (.region id ops dr) an (Kn ms) (fun e=>Kx e ms) r h)
  (fun a b iha ihb an Kn Kx ms r h=>bif (bif rY a then true else rY b)then iha an.l (fun ms r' h'=>ihb an.r Kn Kx ms r' h') Kx ms r h
   else lT P N (.seq a b) an (Kn ms) (fun e=>Kx e ms) r h)
  (fun c a b iha ihb an Kn Kx ms r h=>bif (bif rY a then true else rY b)then
    (match dA r c with
     |some (.bool t)=>CondP t (iha an.l Kn Kx ms r h) (ihb an.r Kn Kx ms r h)
     |_=>False)
   else lT P N (.cond c a b) an (Kn ms) (fun e=>Kx e ms) r h)
  (fun id b ih an Kn Kx ms r h=>bif rY b then ih an Kn (fun e ms r' h'=>match e with
    | .exit i=>bif bM i id then Kn ms r' h' else Kx (.exit i) ms r' h'
    | .ret=>Kx .ret ms r' h') ms r h
   else lT P N (.block id b) an (Kn ms) (fun e=>Kx e ms) r h)
  (fun b _ an Kn Kx ms r h=>lT P N (.loop b) an (Kn ms) (fun e=>Kx e ms) r h)
  (fun g ps assign body _ _ an Kn Kx ms r h=>match an with
   | .rf ks aa ab=>bif yJ N ps.toList&&bM ps.toList.length ks.length then
    (match dA r g with
     |some fv=>RangeP P fv ks h (fun JL bz x k h'=>L9 P N ps.toList ks assign body (.node aa ab) r (h.size+1) JL bz x k h')
      (fun h'=>Kn (h.size::ms) r h') (fun i h'=>Kx (.exit i) (h.size::ms) r h') (fun h'=>Kx .ret (h.size::ms) r h')
     |none=>False)else False
   |_=>False)
  (fun id an Kn Kx ms r h=>lT P N (.exit id) an (Kn ms) (fun e=>Kx e ms) r h)
  (fun _ _ _ _ _ _ _ _=>False)
  (fun l an Kn Kx ms r h=>lT P N (.label l) an (Kn ms) (fun e=>Kx e ms) r h)
  (fun _ _ _ _ _ _ _=>False)
  (fun an Kn Kx ms r h=>lT P N .ret an (Kn ms) (fun e=>Kx e ms) r h)
  (fun _ _ _ _ _ _ _=>False)
  c
def N6:List Nat→(af→Prop)→af→Prop
 | [],K,h=>K h
 |D::ms,K,h=>h[D]?=some (.deferred (some []))∧N6 ms K (h.setIfInBounds D (.deferred none))
noncomputable def Qn(P:Program)(fn:Func)(c:Code)(an:Ann)(args:List Value)(ks:List Kind)(K:cJ ks→af→Prop)(h:af):Prop:=
 yC P fn.ntmps c an
  (fun ms r h'=>N6 ms (fun h'=>ol P r h' fn.results.toList fun vs=>DE ks vs fun t=>K t h') h')
  (fun e ms r h'=>match e with
   | .ret=>N6 ms (fun h'=>ol P r h' fn.results.toList fun vs=>DE ks vs fun t=>K t h') h'
   | .exit _=>False)
  [] (qz 0 args) h
end Go.Lift
namespace Go.Lift
open Go
theorem Fw(a:Addr):adr a 0=a:=rfl
theorem AA(a:Addr)(n:Nat):adr a (n+1)=⟨a.block,a.off+(n+1),none⟩:=rfl
theorem uk(a:Addr)(n:Nat):adr a n=a.add n:=by
 cases n with
 |zero=>simp[Fw,Addr.add]
 |succ n=>simp[AA,Addr.add]
theorem AB(a:Addr)(m n:Nat):adr (adr a m) n=adr a (m+n):=by
 cases n with
 |zero=>rfl
 |succ n=>cases m with
  |zero=>simp[Fw]
  |succ m=>rw[AA,AA,show m+1+(n+1)=(m+1+n)+1 from rfl,AA];simp;omega
theorem Tame.refl(w:World):Tame w w:=⟨rfl,rfl,rfl⟩
theorem Tame.trans{a b c:World}(h:Tame a b)(k:Tame b c):Tame a c:=⟨k.os.trans h.os,k.tape.trans h.tape,k.output.trans h.output⟩
theorem Ag{a b:IntKind}(h:IQ a b=true):a=b:=by cases a<;>cases b<;>first|rfl|cases h
theorem CK.dec_sound{c:CK}{v:Value}{f:c.den→Prop}(h:c.dec v f):∃x,v=c.enc x∧f x:=by
 cases c<;>cases v<;>try simp only[CK.dec]at h
 case int.int k k' n=>
  cases hk:IQ k' k with
  |false=>rw[hk]at h;exact h.elim
  |true=>rw[hk]at h;have:=Ag hk;subst this;exact⟨n,rfl,h⟩
 case adr.pointer p=>cases p with
  |none=>exact h.elim
  |some a=>exact⟨a,rfl,h⟩
 all_goals first|exact h.elim|exact⟨_,rfl,h⟩
theorem Di:∀{cs:List CK} {vs:List Value} {f:Rx cs→Prop},OD cs vs f→∃t,vs=Rd cs t∧f t
 | [],[],f,h=>⟨(),rfl,h⟩
 | [],_::_,f,h=>h.elim
 | [c],[v],f,h=>by obtain⟨x,rfl,hf⟩:=CK.dec_sound h;exact⟨x,rfl,hf⟩
 | [c],[],f,h=>h.elim
 | [c],_::_::_,f,h=>h.elim
 |c::d::cs,[],f,h=>h.elim
 |c::d::cs,[_],f,h=>h.elim
 |c::d::cs,v::u::vs,f,h=>by
  have h0:c.dec v fun x=>OD (d::cs) (u::vs)fun t=>f (x,t):=h
  obtain⟨x,hx,h1⟩:=CK.dec_sound h0;obtain⟨t,ht,h2⟩:=Di (cs:=d::cs) (vs:=u::vs) h1;exact⟨(x,t),by rw[ht,hx];rfl,h2⟩
theorem Kind.dec_sound{k:Kind}{v:Value}{f:k.den→Prop}(h:k.dec v f):∃x,v=k.enc x∧f x:=by
 cases k with
 |c k=>exact CK.dec_sound h
 |agg cs=>
  cases v<;>simp only[Kind.dec]at h
  case agg vs=>
   obtain⟨t,ht,hf⟩:=Di h;exact⟨t,by simp only[Kind.enc,←ht],hf⟩
theorem ss:∀{ks:List Kind} {vs:List Value} {f:cJ ks→Prop},DE ks vs f→∃t,vs=nR ks t∧f t
 | [],[],f,h=>⟨(),rfl,h⟩
 | [],_::_,f,h=>h.elim
 | [c],[v],f,h=>by obtain⟨x,rfl,hf⟩:=Kind.dec_sound h;exact⟨x,rfl,hf⟩
 | [c],[],f,h=>h.elim
 | [c],_::_::_,f,h=>h.elim
 |c::d::cs,[],f,h=>h.elim
 |c::d::cs,[_],f,h=>h.elim
 |c::d::cs,v::u::vs,f,h=>by
  have h0:c.dec v fun x=>DE (d::cs) (u::vs)fun t=>f (x,t):=h
  obtain⟨x,hx,h1⟩:=Kind.dec_sound h0;obtain⟨t,ht,h2⟩:=ss (ks:=d::cs) (vs:=u::vs) h1;exact⟨(x,t),by rw[ht,hx];rfl,h2⟩
theorem tx:∀(ks:List Kind) (t:cJ ks),(nR ks t).length=ks.length
 | [],_=>rfl
 | [_],_=>rfl
 |_::l::ks,(_,t)=>by simp only[nR,ao,tx (l::ks) t]
structure Agree(N:Nat)(r:cD)(a:Act):Prop where
 size:a.tmps.size=N
 look:∀t v,ku r t=some v→a.tmps.getD t undef=v
theorem iT(k:Nat)(v:Value)(r:cD):ku ((k,v)::r) k=some v:=by rw[EG,show bM k k=true from Nat.beq_refl k];rfl
theorem hH{k t:Nat}(v:Value)(r:cD)(h:k≠t):ku ((k,v)::r) t=ku r t:=by
 rw[EG];have:bM k t=false:=Bool.eq_false_iff.2 fun e=>h (bc e)
 rw[this];rfl
theorem Agree.put{N:Nat}{r:cD}{a:Act}(h:Agree N r a)(d:Nat)(v:Value)(hd:d<N):Agree N ((d,v)::r) (a.put (some d) v):=by
 refine⟨by simp[Act.put,h.size],fun t u hu=>?_⟩
 by_cases e:d=t
 ·subst e
  rw[iT]at hu;cases hu;simp[Act.put,h.size,hd]
 ·rw[hH v r e]at hu
  have:=h.look t u hu;simpa[Act.put,Array.getElem?_setIfInBounds_ne e]using this
theorem Agree.known{N:Nat}{r:cD}{a:Act}(h:Agree N r a){t:Nat}{v:Value}(hv:ku r t=some v):Agree N ((t,v)::r) a:=by
 refine⟨h.size,fun s u hu=>?_⟩
 by_cases e:t=s
 ·subst e;rw[iT]at hu;cases hu;exact h.look t v hv
 ·rw[hH v r e]at hu;exact h.look s u hu
theorem mn{N:Nat}{r:cD}{a:Act}(h:Agree N r a){o:Operand}{v:Value}(hv:dA r o=some v):a.eval o=v:=by
 cases o with
 |tmp t=>exact h.look t v hv
 |const c=>simp[dA]at hv;subst hv;rfl
 |global g=>simp[dA]at hv;subst hv;rfl
 |func f=>simp[dA]at hv;subst hv;rfl
theorem pf{N:Nat}{r:cD}{a:Act}(h:Agree N r a):∀{os:List Operand} {vs:List Value},qY r os=some vs→os.map a.eval=vs
 | [],vs,hv=>by simp[qY]at hv;subst hv;rfl
 |o::os,vs,hv=>by
  simp only[qY]at hv;cases ho:dA r o with
  |none=>simp[ho]at hv
  |some v=>cases hos:qY r os with
   |none=>simp[ho,hos]at hv
   |some us=>simp[ho,hos]at hv;subst hv;simp[mn h ho,pf h hos]
theorem aE{P:Program}{t:TypeId}{d:TypeDesc}(h:P.underlying t=some d)(w:World):(underlying t).run P w=.ok d w:=by
 simp only[underlying,program,bind,Sem.bind,Sem.run,h,pure]
theorem cO{P:Program}{t:TypeId}{i:TypeInfo}(h:P.info? t=some i)(w:World):(typeInfo t).run P w=.ok i w:=by
 simp only[typeInfo,program,bind,Sem.bind,Sem.run,h,pure]
theorem jt{P:Program}{s:Sem Value}{v:Value}{w w':World}(h:s.run P w=.ok v w'):(do pure (Next.value (←s)):Sem Next).run P w=.ok (.value v) w':=by
 simp[h]
theorem Qq{P:Program}{s:Sem Unit}{w w':World}(h:s.run P w=.ok() w'):(do s;pure Next.skip:Sem Next).run P w=.ok .skip w':=by
 simp[h]
theorem zJ{P:Program}{w:World}{a:Addr}{v:Value}(h:aN w.heap a=some v):(load a).run P w=.ok v w:=by
 have h':w.cell? a=some v:=h;simp[h']
theorem As{v:Value}{vs:List Value}{i:Nat}{a:Addr}{h:af}:tA (v::vs) i a h↔aN h (adr a i)=some v∧tA vs (i+1) a h:=by
 cases vs with
 |nil=>simp[tA]
 |cons u us=>rfl
theorem tc{P:Program}{w:World}{a:Addr}:∀(vs:List Value) (i:Nat) (acc:Array Value),tA vs i a w.heap→
  (loadCellsFrom a i vs.length acc).run P w=.ok (acc++vs.toArray) w
 | [],i,acc,_=>by simp[loadCellsFrom]
 |v::vs,i,acc,h=>by
  obtain⟨h1,h2⟩:=As.1 h;rw[uk]at h1;have:=tc (P:=P) (w:=w) (a:=a) vs (i+1) (acc.push v) h2;simp only[ao,loadCellsFrom,Sem.run_bind,zJ h1,aG,this];simp
theorem F8{P:Program}{w:World}{a:Addr}{vs:List Value}(h:tA vs 0 a w.heap):(loadCells a vs.length).run P w=.ok vs.toArray w:=by
 have:=tc (P:=P) (w:=w) (a:=a) vs 0 #[] h;simpa[loadCells]using this
theorem yb:∀(cs:List CK) (i:Nat) (a:Addr) (h:af) (k:List Value→Prop),IX cs i a h k→∃vs,vs.length=cs.length∧tA vs i a h∧k vs
 | [],i,a,h,k,hk=>⟨[],rfl,trivial,hk⟩
 |c::cs,i,a,h,k,hk=>by
  obtain⟨x,hx,hk⟩:=hk;obtain⟨vs,hl,hc,hk⟩:=yb cs (i+1) a h _ hk;exact⟨c.enc x::vs,by simp[hl],As.2 ⟨hx,hc⟩,hk⟩
theorem Aq:∀{vs:List Value} {cs:List CK},Fh vs=some cs→cs.length=vs.length
 | [],cs,h=>by simp[Fh]at h;subst h;rfl
 |v::vs,cs,h=>by
  simp only[Fh]at h;cases h1:Tt v with
  |none=>simp[h1]at h
  |some c=>cases h2:Fh vs with
   |none=>simp[h1,h2]at h
   |some ds=>simp[h1,h2]at h;subst h;simp[Aq h2]
def Rw(P:Program)(t:TypeId)(i:TypeInfo):Kind→Prop
 | .c _=>vJ P t=false
 | .agg cs=>vJ P t=true∧i.size=cs.length
theorem MH{P:Program}{t:TypeId}{k:Kind}(h:Oo P t=some k):∃i,P.info? t=some i∧Rw P t i k:=by
 unfold Oo xV at h;cases hi:P.info? t with
 |none=>simp[hi]at h
 |some i=>
  refine⟨i,rfl,?_⟩;cases hz:i.zero with
  |none=>simp[hi,hz]at h
  |some z=>
   rw[hi]at h;simp only[hz]at h;cases z;case agg vs=>
    simp only at h;cases hb:(vJ P t&&bM vs.toList.length (bX P t))with
    |false=>rw[hb]at h;simp at h
    |true=>
     rw[hb]at h;simp only[cond_true]at h;simp only[Bool.and_eq_true]at hb;have hs:=bc hb.2;cases hd:Fh vs.toList with
     |none=>rw[hd]at h;simp at h
     |some ds=>
      rw[hd]at h;simp only[bm.injEq]at h;subst h;exact⟨hb.1,by rw[Aq hd,hs];simp[bX,hi]⟩
   all_goals
    simp only at h;cases ha:vJ P t
    ·rw[ha]at h
     simp only[cond_false]at h;split at h
     ·simp only[bm.injEq]at h;subst h;exact ha
     ·simp at h
    ·rw[ha]at h;simp at h
theorem MI{P:Program}{t:TypeId}{k:Kind}(h:EX P t=some k):(∀w,(isAgg t).run P w=.ok (vJ P t) w)∧Oo P t=some k:=by
 unfold EX at h;cases hu:P.underlying t with
 |none=>simp[hu]at h
 |some d=>
  simp only[hu]at h;refine⟨fun w=>?_,h⟩
  simp only[isAgg,Sem.run_bind,aE hu,aG];unfold vJ;rw[hu];cases d<;>rfl
theorem CU{P:Program}{t:TypeId}{v:Value}{K:RK}{h:af}(hl:Kj P t v K h):
  ∃u S,K u (some S)∧S h∧∀w:World,S w.heap→(Instr.loadAt t v).run P w=.ok u w:=by
 unfold Kj at hl;cases v with
 |pointer p=>
  cases p with
  |none=>exact hl.elim
  |some a=>
   simp only at hl;cases hk:EX P t with
   |none=>simp[hk]at hl
   |some k=>
    obtain⟨hagg,hz⟩:=MI hk;obtain⟨i,hi,hc⟩:=MH hz;rw[hk]at hl;cases k with
    |c c=>
     obtain⟨x,hx,hK⟩:=hl;refine⟨_,_,hK,hx,fun w hw=>?_⟩
     have hc:vJ P t=false:=hc;simp only[Instr.loadAt,Instr.sureAddr,loadVar,Sem.run_bind,Sem.run_pure,aG,hagg,hc];simp[zJ hw]
    |agg cs=>
     obtain⟨vs,hlen,hcs,hK⟩:=yb cs 0 a h _ hl;obtain⟨h1,h2⟩:vJ P t=true∧i.size=cs.length:=hc;refine⟨_,_,hK,hcs,fun w hw=>?_⟩
     have hz:(sizeOf t).run P w=.ok vs.length w:=by simp[sizeOf,cO hi,h2,hlen]
     simp only[Instr.loadAt,Instr.sureAddr,loadVar,Sem.run_bind,Sem.run_pure,aG,hagg,h1];simp[hz,F8 hw]
 |_=>exact hl.elim
end Go.Lift
