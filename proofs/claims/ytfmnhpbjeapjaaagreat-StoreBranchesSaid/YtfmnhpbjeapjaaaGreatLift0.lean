/- A part of the proof that the named laws of this program answer true, whatever the input. -/
import Derived.OrdersIn
import Derived.Below
import Derived.WalkKit
import Derived.RangeFuncRecord
import Derived.DefersIn
open BitVec renaming ofInt→aj
open Iff renaming rfl→rZ
open List renaming rec→eF,replicate→eE,length_cons→az
open Nat renaming succ→eP,beq→bj,ble→ue,min→dt,blt→ud,land→hO,lor→cC,pred→tQ,eq_of_beq_eq_true→aJ
open Option renaming some→bE
namespace Go.Lift
abbrev ac:=Array Obj
def aF(h:ac)(a:Addr):Option Value:=
 match h[a.block]? with
 |some (.cells c _ _)=>if a.spot.isSome then none else c[a.off]?
 |_=>none
def zW(h:ac)(a:Addr):Bool:=
 match h[a.block]? with
 |some (.cells _ _ (lo,hi))=>lo≤a.off&&a.off<hi
 |_=>false
def hset(h:ac)(a:Addr)(v:Value):ac:=
 h.modify a.block fun
  | .cells c elem frozen=>.cells (if a.spot.isSome then c else c.setIfInBounds a.off v) elem frozen
  |o=>o
noncomputable def adr(a:Addr)(n:Nat):Addr:=Nat.rec (motive:=fun _=>Addr) a (fun n _=>⟨a.block,a.off+eP n,none⟩) n
def Wr(h:ac)(a:Addr):Prop:=(∃v,aF h a=some v)∧zW h a=false
structure Tame(w w':World):Prop where
 os:w'.os=w.os
 tape:w'.tape=w.tape
 output:w'.output=w.output
structure SliceV where
 a:Option Addr
 len:Nat
 cap:Nat
def D2:IntKind→IntKind→Bool
 | .i8,.i8=>true| .i16,.i16=>true| .i32,.i32=>true| .i64,.i64=>true
 | .u8,.u8=>true| .u16,.u16=>true| .u32,.u32=>true| .u64,.u64=>true
 |_,_=>false
inductive CK where
 |int (k:IntKind)|bool|str|ptr|slice|map|chan|raw|adr
def CK.den:CK→Type
 | .int _=>Int| .bool=>Bool| .str=>ByteArray| .ptr=>Option Addr| .slice=>SliceV| .map=>Option Nat| .chan=>Option Nat| .raw=>Value| .adr=>Addr
def CK.enc:(c:CK)→c.den→Value
 | .int k,n=>.int k n
 | .bool,b=>.bool b
 | .str,s=>.string s
 | .ptr,p=>.pointer p
 | .slice,s=>.slice s.a s.len s.cap
 | .map,r=>.map r
 | .chan,r=>.chan r
 | .raw,v=>v
 | .adr,a=>.pointer (some a)
def CK.dec:(c:CK)→Value→(c.den→Prop)→Prop
 | .int k,.int k' n,f=>bif D2 k' k then f n else False
 | .bool,.bool b,f=>f b
 | .str,.string s,f=>f s
 | .ptr,.pointer p,f=>f p
 | .slice,.slice a l c,f=>f ⟨a,l,c⟩
 | .map,.map r,f=>f r
 | .chan,.chan r,f=>f r
 | .raw,v,f=>f v
 | .adr,.pointer (some a),f=>f a
 |_,_,_=>False
def LU:List CK→Type
 | []=>Unit
 | [c]=>c.den
 |c::d::cs=>c.den×LU (d::cs)
def LF:(cs:List CK)→LU cs→List Value
 | [],_=> []
 | [c],x=> [c.enc x]
 |c::d::cs,(x,t)=>c.enc x::LF (d::cs) t
def IJ:(cs:List CK)→List Value→(LU cs→Prop)→Prop
 | [],[],f=>f ()
 | [c],[v],f=>c.dec v f
 |c::d::cs,v::u::vs,f=>c.dec v fun x=>IJ (d::cs) (u::vs) fun t=>f (x,t)
 |_,_,_=>False
inductive Kind where
 |c (k:CK)
 |agg (cs:List CK)
def Kind.den:Kind→Type
 | .c k=>k.den
 | .agg cs=>LU cs
def Kind.enc:(k:Kind)→k.den→Value
 | .c k,x=>k.enc x
 | .agg cs,t=>.agg (LF cs t).toArray
def Kind.dec:(k:Kind)→Value→(k.den→Prop)→Prop
 | .c k,v,f=>k.dec v f
 | .agg cs,.agg vs,f=>IJ cs vs.toList f
 |_,_,_=>False
def rF:List Kind→Type
 | []=>Unit
 | [k]=>k.den
 |k::l::ks=>k.den×rF (l::ks)
def kE:(ks:List Kind)→rF ks→List Value
 | [],_=> []
 | [k],x=> [k.enc x]
 |k::l::ks,(x,t)=>k.enc x::kE (l::ks) t
def zE:(ks:List Kind)→List Value→(rF ks→Prop)→Prop
 | [],[],f=>f ()
 | [k],[v],f=>k.dec v f
 |k::l::ks,v::u::vs,f=>k.dec v fun x=>zE (l::ks) (u::vs) fun t=>f (x,t)
 |_,_,_=>False
def zz(ks:List Kind)(vs:List Value):Value:=
 match ks,vs with
 | [_],[v]=>v
 |_,vs=>.tuple vs.toArray
def Oc:Value→Option CK
 | .int k _=>some (.int k)
 | .bool _=>some .bool
 | .string _=>some .str
 | .pointer _=>some .ptr
 | .slice .. =>some .slice
 | .map _=>some .map
 | .chan _=>some .chan
 | .nilFunc=>some .raw
 | .nilIface=>some .raw
 |_=>none
def Bi:List Value→Option (List CK)
 | []=>some []
 |v::vs=>match Oc v,Bi vs with
  |some c,some cs=>some (c::cs)
  |_,_=>none
def rX(P:Program)(t:TypeId):Bool:=
 match P.underlying t with
 |some (.struct _)|some (.array _ _)=>true
 |_=>false
def bJ(P:Program)(t:TypeId):Nat:=match P.info? t with|some i=>i.size|none=>0
def om(P:Program)(t:TypeId):Nat:=match P.info? t with|some i=>i.bytes|none=>0
def uq(P:Program)(t:TypeId):Option Value:=match P.info? t with|some i=>i.zero|none=>none
def Iu(P:Program)(t:TypeId):Option Kind:=
 match uq P t with
 |some (.agg vs)=>bif rX P t&&bj vs.toList.length (bJ P t)then(match Bi vs.toList with|some cs=>some (.agg cs)|none=>none)else none
 |some v=>bif rX P t then none else(match Oc v with|some c=>some (.c c)|none=>none)
 |none=>none
def AQ(P:Program)(t:TypeId):Option Kind:=
 match P.underlying t with
 |none=>none
 |some _=>Iu P t
structure HC(P:Program)(f:FuncId)(args:List Value)(ks:List Kind)(K:rF ks→ac→Prop)(h:ac):Prop where
 run:∀w:World,w.heap=h→
  ((callFunc f args.toArray).run P w=.ok (.enter f args.toArray) w∧
   Calls P f args.toArray w fun e w'=>Tame w w'∧∃t:rF ks,e=.returned (zz ks (kE ks t))∧K t w'.heap)∨
  (∃v w',(callFunc f args.toArray).run P w=.ok (.value v) w'∧Tame w w'∧∃t:rF ks,v=zz ks (kE ks t)∧K t w'.heap)
structure HE(P:Program)(f:FuncId)(args:List Value)(ks:List Kind)(K:rF ks→ac→Prop)(h:ac):Prop where
 run:∀w:World,w.heap=h→(∀(args:Array Value) (w:World),(callFunc f args).run P w=.ok (.enter f args) w)∧
  Calls P f args.toArray w fun e w'=>Tame w w'∧∃t:rF ks,e=.returned (zz ks (kE ks t))∧K t w'.heap
theorem HE.hc{P:Program}{f:FuncId}{args:List Value}{ks:List Kind}{K:rF ks→ac→Prop}{h:ac}(e:HE P f args ks K h):HC P f args ks K h:=
 ⟨fun w a=>.inl ⟨(e.run w a).1 _ w,(e.run w a).2⟩⟩
structure HY(P:Program)(l:Nat)(args:List Value)(K:Bool→ac→Prop)(h:ac):Prop where
 run:∀w:World,w.heap=h→∃fn tmps assign body,(Instr.yield l args.toArray).run P w=.ok (.round l fn tmps assign body) w∧
  ∀(c:Frame) (cs:List Frame),∃b w',Tame w w'∧K b w'.heap∧Steps P (lone (Frame.round l fn tmps assign body .normal) (c::cs) w) (lone (c.finish (.bool b)) cs w')
structure HV(P:Program)(fv:Value)(args:List Value)(ks:List Kind)(K:rF ks→ac→Prop)(h:ac):Prop where
 run:(∃f first cap,fv=.func (.func f) first cap∧HC P f (first.toList++args++cap.toList) ks K h)∨
  (∃l,fv=.func (.yield l) #[] #[]∧HY P l args (fun b h'=>zE ks [.bool b] fun t=>K t h') h)
noncomputable def CondP(b:Bool)(t e:Prop):Prop:=Bool.rec (motive:=fun _=>Prop) e t b
theorem CondP.yes{b:Bool}{t e:Prop}(h:CondP b t e)(a:b=true):t:=by subst a;exact h
theorem CondP.no{b:Bool}{t e:Prop}(h:CondP b t e)(a:b=false):e:=by subst a;exact h
theorem CondP.intro{b:Bool}{t e:Prop}(c:b=true→t)(a:b=false→e):CondP b t e:=by cases b;exact a rfl;exact c rfl
theorem aB{t e:Prop}:CondP true t e↔t:=rZ
theorem ak{t e:Prop}:CondP false t e↔e:=rZ
attribute [irreducible] CondP
def At(h:ac)(k:ac→Prop):Prop:=k h
def Bd{T:Type}(x:T)(k:T→Prop):Prop:=k x
structure Join{T:Type}(rest:T→ac→Prop)(k:(T→ac→Prop)→Prop):Prop where
 run:k rest
structure LoopP{T:Type}(F:(T→ac→Prop)→T→ac→Prop)(t:T)(h:ac):Prop where
 run:∀I:T→ac→Prop,(∀t h,F I t h→I t h)→I t h
abbrev cg:=List (Nat×Value)
noncomputable def iE(r:cg)(t:Nat):Option Value:=
 eF (motive:=fun _=>Option Value) none (fun a _ b=>bif bj a.1 t then some a.2 else b) r
theorem AC(k:Nat)(v:Value)(r:cg)(t:Nat):iE ((k,v)::r) t=bif bj k t then some v else iE r t:=rfl
noncomputable def cU(r:cg):Operand→Option Value
 | .tmp t=>iE r t
 | .const v=>some v
 | .global g=>some (.pointer (some ⟨g,0,none⟩))
 | .func f=>some (.func (.func f) #[] #[])
noncomputable def lq(r:cg):List Operand→Option (List Value)
 | []=>some []
 |o::os=>match cU r o,lq r os with
  |some v,some vs=>some (v::vs)
  |_,_=>none
noncomputable def D6:List CK→Nat→Addr→ac→(List Value→Prop)→Prop
 | [],_,_,_,k=>k []
 |c::cs,i,a,h,k=>∃x:c.den,aF h (adr a i)=some (c.enc x)∧D6 cs (i+1) a h fun vs=>k (c.enc x::vs)
noncomputable def qn:List Value→Nat→Addr→ac→Prop
 | [],_,_,_=>True
 | [v],i,a,h=>aF h (adr a i)=some v
 |v::u::vs,i,a,h=>aF h (adr a i)=some v∧qn (u::vs) (i+1) a h
abbrev RK:=Value→Option (ac→Prop)→Prop
noncomputable def E3(P:Program)(t:TypeId)(v:Value)(K:RK)(h:ac):Prop:=
 match v with
 | .pointer (some a)=>
  match AQ P t with
  |some (.c c)=>∃x:c.den,aF h a=some (c.enc x)∧K (c.enc x) (some fun h'=>aF h' a=some (c.enc x))
  |some (.agg cs)=>D6 cs 0 a h fun vs=>K (.agg vs.toArray) (some fun h'=>qn vs 0 a h')
  |none=>False
 |_=>False
def sX(P:Program)(t:TypeId)(f:Nat):Option (TypeId×Nat):=
 match P.underlying t with
 |some (.struct fs)=>match fs.toList[f]? with
  |some g=>some (g.type,g.offset)
  |none=>none
 |_=>none
def r8(P:Program)(t:TypeId):Option TypeId:=
 match P.underlying t with
 |some (.slice e)=>some e
 |_=>none
def GC(c:BinOp)(k:IntKind)(a b:Int)(K:RK):Prop:=
 match c with
 | .shl=>0≤b∧K (.int k (k.wrap (a*2^(min b.toNat k.bits)))) none
 | .shr=>0≤b∧K (.int k (a.fdiv (2^(min b.toNat k.bits)))) none
 |_=>False
def N2(c:BinOp)(k:IntKind)(a b:Int)(K:RK):Prop:=
 match c with
 | .add=>K (.int k (k.wrap (a+b))) none
 | .sub=>K (.int k (k.wrap (a-b))) none
 | .mul=>K (.int k (k.wrap (a*b))) none
 | .quo=>b≠0∧K (.int k (k.wrap (a.tdiv b))) none
 | .rem=>b≠0∧K (.int k (a.tmod b)) none
 | .and=>K (.int k (k.wrap (aj k.bits a&&&aj k.bits b).toNat)) none
 | .or=>K (.int k (k.wrap (aj k.bits a|||aj k.bits b).toNat)) none
 | .xor=>K (.int k (k.wrap (aj k.bits a^^^aj k.bits b).toNat)) none
 | .andNot=>K (.int k (k.wrap (aj k.bits a&&& ~~~aj k.bits b).toNat)) none
 | .eql=>K (.bool (a==b)) none
 | .neq=>K (.bool (a !=b)) none
 | .lss=>K (.bool (decide (a<b))) none
 | .leq=>K (.bool (decide (a≤b))) none
 | .gtr=>K (.bool (decide (a>b))) none
 | .geq=>K (.bool (decide (a≥b))) none
 |_=>False
def NI(c:BinOp)(a b:ByteArray)(K:RK):Prop:=
 match c with
 | .add=>((a.size+b.size:Nat):Int)≤9223372036854775807∧K (.string (a++b)) none
 | .eql=>K (.bool (a.toList==b.toList)) none
 | .neq=>K (.bool (!(a.toList==b.toList))) none
 | .lss=>K (.bool (Op.bytesLess a.toList b.toList)) none
 | .leq=>K (.bool (Op.bytesLess a.toList b.toList||a.toList==b.toList)) none
 | .gtr=>K (.bool (!(Op.bytesLess a.toList b.toList||a.toList==b.toList))) none
 | .geq=>K (.bool (!(Op.bytesLess a.toList b.toList))) none
 |_=>False
def fP(h:ac)(a:Addr):Prop:=(∃c e,h[a.block]? =some (.cells c e (0,0))∧0<c.size)
def N1:Value→Bool
 | .func _ _ _=>true
 | .nilFunc=>true
 |_=>false
def NV:Value→Bool
 | .nilFunc=>true
 |_=>false
def My(P:Program)(t:TypeId)(neg:Bool)(x y:Value)(K:RK):Prop:=
 match P.underlying t,x,y with
 |some (.pointer _),.pointer a,.pointer none=>K (.bool (bif neg then !a.isNone else a.isNone)) none
 |some (.map _ _),.map a,.map none=>K (.bool (bif neg then !a.isNone else a.isNone)) none
 |some (.slice _),.slice a _ _,.slice none _ _=>K (.bool (bif neg then !a.isNone else a.isNone)) none
 |some (.func _ _ _),x,.nilFunc=>N1 x=true∧K (.bool (bif neg then !(NV x)else NV x)) none
 |_,_,_=>False
def N0:Operand→Bool
 | .const (.pointer none)=>true
 | .const (.map none)=>true
 | .const (.slice none 0 0)=>true
 | .const .nilFunc=>true
 |_=>false
def Pt(P:Program)(t:TypeId)(neg:Bool)(x y:Value)(K:RK)(h:ac):Prop:=
 match P.underlying t,x,y with
 |some .bool,.bool a,.bool b=>K (.bool (bif neg then !(a==b)else a==b)) none
 |some (.pointer e),.pointer a,.pointer b=>
  (bif bj (bJ P e) 0 then False else True)∧
  (∀x y,a=some x→b=some y→fP h x∧fP h y)∧
  K (.bool (bif neg then !(a==b)else a==b)) (some fun h'=>∀x y,a=some x→b=some y→fP h' x∧fP h' y)
 |_,_,_=>False
def Mn(P:Program)(c:BinOp)(t:TypeId)(x y:Value)(K:RK)(h:ac):Prop:=
 match x,y with
 | .int k a,.int k' b=>
  match c with
  | .shl=>GC .shl k a b K
  | .shr=>GC .shr k a b K
  |c=>bif D2 k' k then N2 c k a b K else False
 | .string a,.string b=>NI c a b K
 |x,y=>match c with
  | .eql=>Pt P t false x y K h
  | .neq=>Pt P t true x y K h
  |_=>False
def pm(h:ac):List (Option Addr×Option Addr)→Prop
 | []=>True
 |(a,b)::l=>(∀x y,a=some x→b=some y→fP h x∧fP h y)∧pm h l
def Lu(P:Program)(t:TypeId)(x y:Value):Option (Bool×List (Option Addr×Option Addr)):=
 match P.underlying t,x,y with
 |some (.int _),.int k a,.int k' b=>bif D2 k' k then some (a==b,[])else none
 |some .bool,.bool a,.bool b=>some (a==b,[])
 |some .string,.string a,.string b=>some (a.toList==b.toList,[])
 |some (.pointer e),.pointer a,.pointer b=>bif bj (bJ P e) 0 then none else some (a==b,[(a,b)])
 |_,_,_=>none
def MP(P:Program)(rec:TypeId→List Value→List Value→Option (Bool×List (Option Addr×Option Addr)))(xs ys:List Value):List Field→Option (Bool×List (Option Addr×Option Addr))
 | []=>some (true,[])
 |f::fs=>
  if f.name= "_" then none else
  bif (P.underlying f.type).isSome&&(P.info? f.type).isSome then
   match(bif rX P f.type then rec f.type ((xs.drop f.offset).take (bJ P f.type)) ((ys.drop f.offset).take (bJ P f.type))
    else match xs[f.offset]?,ys[f.offset]? with|some x,some y=>Lu P f.type x y|_,_=>none),MP P rec xs ys fs with
   |some (b,l),some (c,m)=>some (b&&c,l++m)
   |_,_=>none
  else none
def Lv(P:Program):Nat→TypeId→List Value→List Value→Option (Bool×List (Option Addr×Option Addr))
 |0,_,_,_=>none
 |d+1,t,xs,ys=>match P.underlying t with
  |some (.struct fs)=>bif P.stoodInHeld t then none else MP P (Lv P d) xs ys fs.toList
  |_=>none
def PU(neg b:Bool)(K:RK)(h:ac):List (Option Addr×Option Addr)→Prop
 | []=>K (.bool (bif neg then !b else b)) none
 |p::l=>pm h (p::l)∧K (.bool (bif neg then !b else b)) (some fun h'=>pm h' (p::l))
def NQ(P:Program)(a:BinOp)(t:TypeId)(xs ys:List Value)(K:RK)(h:ac):Prop:=
 bif P.eqGuardType P.depth t then False else
 match a with
 | .eql=>(match Lv P 10 t xs ys with|some (b,l)=>PU false b K h l|none=>False)
 | .neq=>(match Lv P 10 t xs ys with|some (b,l)=>PU true b K h l|none=>False)
 |_=>False
def PD(a:UnOp)(x:Value)(K:RK):Prop:=
 match a,x with
 | .neg,.int k n=>K (.int k (k.wrap (0-n))) none
 | .xor,.int k n=>K (.int k (k.wrap (aj k.bits (if k.signed then-1 else k.max)^^^aj k.bits n).toNat)) none
 | .not,.bool b=>K (.bool (!b)) none
 |_,_=>False
def dy(s:ByteArray):List Value:=s.data.toList.map fun b=>.int .u8 b.toNat
noncomputable def Row(h:ac)(a:Addr)(vs:List Value):Prop:=∀i v,vs[i]? =some v→aF h (adr a i)=some v
noncomputable def SRow(h:ac)(a:Option Addr)(n:Nat)(vs:List Value):Prop:=vs.length=n∧(vs= []∨∃b,a=some b∧Row h b vs)
def He(P:Program)(e:TypeId):Bool:=match P.underlying e with|some (.int .u8)=>true|_=>false
def NZ(P:Program)(s d:TypeId):Bool:=
 match P.underlying s,P.underlying d with
 |some .string,some (.slice e)=>He P e
 |_,_=>false
def ByP(e:TypeId)(s:ByteArray)(h:ac)(K:Nat→ac→Prop):Prop:=
 ∀c,s.size≤c→K c (h.push (.cells (dy s++eE (c-s.size) (Value.int .u8 0)).toArray e (c,c+1)))
noncomputable def KT(P:Program)(c b:TypeId)(x:Value)(K:RK)(h:ac):Prop:=
 match P.underlying c,P.underlying b,x with
 |some (.int _),some (.int k),.int _ n=>K (.int k (k.wrap n)) none
 |some .string,some .string,.string s=>K (.string s) none
 |some (.slice e),some .string,.slice a n _=>bif He P e then∃s:ByteArray,SRow h a n (dy s)∧K (.string s) (some fun h'=>SRow h' a n (dy s))else False
 |_,_,_=>False
def LJ(v:Option Value)(d y:Nat)(K:Nat→Prop):Prop:=
 match v with
 |none=>K d
 |some (.int _ i)=>(0≤i∧i≤y)∧K i.toNat
 |_=>False
noncomputable def aN(a:Option Addr)(l m size:Nat):Option Addr:=if m=l then a else a.map (adr · (l*size))
def K2(P:Program)(t:TypeId)(K:Prop):Prop:=match P.info? t with|some _=>K|none=>False
noncomputable def GO(P:Program)(t:TypeId)(x:Value)(lo hi b:Option Value)(K:RK):Prop:=
 match P.underlying t,x with
 |some .string,.string s=>match b with
  |some _=>False
  |none=>LJ hi s.size s.size fun h=>LJ lo 0 h fun l=>K (.string (s.extract l h)) none
 |some (.slice e),.slice a len cap=>K2 P e (
  match b with
  |none=>LJ hi len cap fun h=>LJ lo 0 h fun l=>K (.slice (aN a l cap (bJ P e)) (h-l) (cap-l)) none
  |some m=>match hi with
   |none=>False
   |some hi=>LJ (some m) 0 cap fun m=>LJ (some hi) 0 m fun h=>LJ lo 0 h fun l=>K (.slice (aN a l m (bJ P e)) (h-l) (m-l)) none)
 |some (.array n e),.pointer (some a)=>K2 P e (
  match b with
  |none=>LJ hi n n fun h=>LJ lo 0 h fun l=>K (.slice (aN (some a) l n (bJ P e)) (h-l) (n-l)) none
  |some _=>False)
 |_,_=>False
noncomputable def CS(r:cg):Option Operand→Option (Option Value)
 |none=>some none
 |some o=>match cU r o with
  |some v=>some (some v)
  |none=>none
noncomputable def u1(P:Program)(t:TypeId)(x i:Value)(K:RK):Prop:=
 match P.underlying t,x,i with
 |some (.array n e),.pointer (some a),.int _ i=>K2 P e ((0≤i∧i<n)∧K (.pointer (some (adr a (i.toNat*bJ P e)))) none)
 |some (.slice e),.slice b len _,.int _ i=>K2 P e ((0≤i∧i<len)∧∃a,b=some a∧K (.pointer (some (adr a (i.toNat*bJ P e)))) none)
 |_,_,_=>False
def GQ(P:Program)(t:TypeId)(x i:Value)(K:RK):Prop:=
 match P.underlying t,x,i with
 |some .string,.string s,.int _ i=>∃b:UInt8,0≤i∧s[i.toNat]? =some b∧K (.int .u8 b.toNat) none
 |_,_,_=>False
noncomputable def GR(P:Program)(t:TypeId)(x:Value)(f:Nat)(K:RK):Prop:=
 match sX P t f,x with
 |some (u,off),.agg cs=>bif (P.underlying u).isSome&&(P.info? u).isSome then(bif rX P u then K (.agg ((cs.toList.drop off).take (bJ P u)).toArray) none
  else(match cs.toList[off]? with|some v=>K v none|none=>False))else False
 |_,_=>False
def Nn(c a b:Value)(K:RK):Prop:=
 match c with
 | .bool c=>(match a,b with
  | .bool x,.bool y=>K (.bool (bif c then x else y)) none
  |_,_=>(match c with|true=>K a none|false=>K b none))
 |_=>False
def eT:Value→Value→Bool
 | .int _ a,.int _ b=>a==b
 | .string a,.string b=>a==b
 | .bool a,.bool b=>a==b
 |_,_=>false
def A0(k:Value):List MapEntry→Option Value
 | []=>none
 |e::es=>if eT k e.key then some e.val else A0 k es
def keysOf(c:CK)(es:List MapEntry):Prop:=∀e∈es,∃x:c.den,e.key=c.enc x
def tE(c:CK)(z:Value)(h:ac)(m:Option Nat)(k v:Value)(ok:Bool):Prop:=
 match m with
 |none=>v=z∧ok=false
 |some r=>∃es clock,h[r]? =some (.map es clock)∧keysOf c es.toList∧
  (match A0 k es.toList with|some u=>v=u∧ok=true|none=>v=z∧ok=false)
def Ft(P:Program)(t:TypeId):Option (CK×TypeId):=
 match P.underlying t with
 |some (.map k e)=>match P.underlying k with
  |some (.int i)=>some (.int i,e)
  |some .string=>some (.str,e)
  |some .bool=>some (.bool,e)
  |_=>none
 |_=>none
def DH(P:Program)(t:TypeId)(x k:Value)(ok:Bool)(K:RK)(h:ac):Prop:=
 match Ft P t,x with
 |some (c,e),.map m=>c.dec k fun _=>
  (match AQ P e,uq P e with
   |some ek,some z=>∃(y:ek.den) (b:Bool),tE c z h m k (ek.enc y) b∧
    K (bif ok then .tuple #[ek.enc y,.bool b]else ek.enc y) (some fun h'=>tE c z h' m k (ek.enc y) b)
   |_,_=>False)
 |_,_=>False
def Bt(h:ac)(m:Option Nat)(n:Nat):Prop:=
 match m with
 |none=>n=0
 |some r=>∃es clock,h[r]? =some (.map es clock)∧n=es.size
def IP(c:Bool)(h:ac)(m:Option Nat)(n:Nat):Prop:=
 match m with
 |none=>n=0
 |some r=>∃cap buf cl s q,h[r]? =some (.chan cap buf cl s q false)∧n=bif c then cap else buf.size
def NO(P:Program)(t:TypeId)(x:Value)(K:RK)(h:ac):Prop:=
 match P.underlying t,x with
 |some .string,.string s=>K (.int .i64 s.size) none
 |some (.array n _),_=>K (.int .i64 n) none
 |some (.slice _),.slice _ n _=>K (.int .i64 n) none
 |some (.map _ _),.map m=>∃n:Nat,Bt h m n∧K (.int .i64 n) (some fun h'=>Bt h' m n)
 |some (.chan _ _),.chan m=>∃n:Nat,IP false h m n∧K (.int .i64 n) (some fun h'=>IP false h' m n)
 |_,_=>False
def NP(P:Program)(t:TypeId)(x:Value)(K:RK)(h:ac):Prop:=
 match P.underlying t,x with
 |some (.slice _),.slice _ _ n=>K (.int .i64 n) none
 |some (.chan _ _),.chan m=>∃n:Nat,IP true h m n∧K (.int .i64 n) (some fun h'=>IP true h' m n)
 |_,_=>False
def DY(c:Bool)(k:IntKind):Int→List Value→(Value→Prop)→Prop
 |a,[],f=>f (.int k a)
 |a,.int k' b::vs,f=>bif D2 k' k then DY c k (bif c then(if b>a then b else a)else(if b<a then b else a)) vs f else False
 |_,_,_=>False
def zS(b:Bool)(vs:List Value)(f:Value→Prop):Prop:=
 match vs with
 | .int k a::vs=>DY b k a vs f
 |_=>False
def HF(h:ac)(i:Nat)(e:MapEntry):Prop:=
 ∃m since seen last stamp es,h[i]? =some (.mapIter (some m) since seen last)∧seen.back? =some stamp∧h[m]? =some (.map es last)∧es.find? (fun e=>e.born==stamp)=some e
def nr(P:Program)(t:TypeId):Bool:=match P.underlying t with|some (.interface _)=>false|some _=>true|none=>false
def Ik(P:Program)(t:TypeId)(x:Value)(K:RK):Prop:=
 bif nr P t then(match AQ P t with
  |some k=>∃y:k.den,x=.iface t (k.enc y)∧K (k.enc y) none
  |none=>False)else False
def E7(cs:List Value)(off:Nat)(vs:List Value):List Value:=cs.take off++vs++cs.drop (off+vs.length)
def y5(a:Nat→Option (Nat×Nat)):List Value→List (Nat×Value)→Option (List Value)
 |cs,[]=>some cs
 |cs,(i,v)::rest=>match a i with
  |none=>none
  |some (off,size)=>bif bj v.cells.toList.length size&&ue (off+v.cells.toList.length) cs.length then y5 a (E7 cs off v.cells.toList) rest else none
noncomputable def nq(r:cg):List (Nat×Operand)→Option (List (Nat×Value))
 | []=>some []
 |(i,o)::ps=>match cU r o,nq r ps with
  |some v,some vs=>some ((i,v)::vs)
  |_,_=>none
def nX(P:Program)(t:TypeId):Option (List Value):=match uq P t with|some z=>some z.cells.toList|none=>none
def db(n:Nat)(z:List Value):List Value:=(eE n z).flatten
def tY(P:Program)(t:TypeId):Bool:=match P.info? t with|some _=>true|none=>false
def wR(P:Program):List Field→Bool
 | []=>true
 |f::fs=>bif tY P f.type then wR P fs else false
def GX(P:Program)(a:List Field)(i:Nat):Option (Nat×Nat):=match a[i]? with|some f=>some (f.offset,bJ P f.type)|none=>none
def Ec(P:Program)(t:TypeId)(a:List (Nat×Value)):Option (List Value):=
 match P.underlying t,nX P t with
 |some (.struct fs),some z=>bif wR P fs.toList then y5 (GX P fs.toList) z a else none
 |some (.array _ e),some z=>bif tY P e then y5 (fun i=>some (i*bJ P e,bJ P e)) z a else none
 |_,_=>none
noncomputable def xC(P:Program)(ek:Option (Kind×Kind))(o:Op)(r:cg)(K:RK)(h:ac):Prop:=
 match o with
 | .entry it=>match cU r it,ek with
  |some (.pointer (some a)),some (kk,vk)=>a.off=0∧∃(e:MapEntry) (x:kk.den) (y:vk.den),HF h a.block e∧e.key=kk.enc x∧e.val=vk.enc y∧
    K (.tuple #[kk.enc x,vk.enc y]) (some fun h'=>HF h' a.block e)
  |_,_=>False
 | .move x| .assign x=>match cU r x with|some v=>K v none|none=>False
 | .load t a=>match cU r a with|some v=>E3 P t v K h|none=>False
 | .nilCheck x=>match cU r x with|some (.pointer p)=>∃a,p=some a∧K (.pointer (some a)) none|_=>False
 | .binOp op t x y _=>match N0 y,cU r x,cU r y with
  |true,some v,some u=>(match op with
   | .eql=>My P t false v u K
   | .neq=>My P t true v u K
   |op=>Mn P op t v u K h)
  |false,some (.agg v),some (.agg u)=>NQ P op t v.toList u.toList K h
  |false,some v,some u=>Mn P op t v u K h
  |_,_,_=>False
 | .unOp op _ x=>match cU r x with|some v=>PD op v K|none=>False
 | .convert s d x=>match cU r x with|some v=>KT P s d v K h|none=>False
 | .pick c a b=>match cU r c,cU r a,cU r b with|some c,some a,some b=>Nn c a b K|_,_,_=>False
 | .extract x i=>match cU r x with
  |some (.tuple vs)=>(match vs.toList[i]? with|some v=>K v none|none=>False)
  |_=>False
 | .fieldAddr t x f=>match cU r x,sX P t f with
  |some (.pointer (some a)),some (u,off)=>bif bj (bJ P u) 0 then False else K (.pointer (some (adr a off))) none
  |_,_=>False
 | .field t x f=>match cU r x with|some v=>GR P t v f K|none=>False
 | .indexAddr t x i=>match cU r x,cU r i with|some v,some u=>u1 P t v u K|_,_=>False
 | .index t x i=>match cU r x,cU r i with|some v,some u=>GQ P t v u K|_,_=>False
 | .slice t x lo hi mx=>match cU r x,CS r lo,CS r hi,CS r mx with
  |some v,some l,some h',some m=>GO P t v l h' m K
  |_,_,_,_=>False
 | .lookup t x k ok=>match cU r x,cU r k with|some v,some u=>DH P t v u ok K h|_,_=>False
 | .makeInterface t x=>match cU r x with|some v=>bif nr P t then K (.iface t v) none else False|none=>False
 | .typeAssert x _ t ok=>match cU r x with|some v=>bif ok then False else Ik P t v K|none=>False
 | .build t ps=>match nq r ps.toList with
  |some vs=>(match Ec P t vs with|some cs=>K (.agg cs.toArray) none|none=>False)
  |none=>False
 | .makeFunc fn first cap=>match lq r first.toList,lq r cap.toList with
  |some vs,some us=>K (.func fn vs.toArray us.toArray) none
  |_,_=>False
 | .call c=>match c.callee,lq r c.args.toList,c.argTypes.toList with
  | .builtin .len,some [v],[t]=>NO P t v K h
  | .builtin .cap,some [v],[t]=>NP P t v K h
  | .builtin .min,some vs,_=>zS false vs fun v=>K v none
  | .builtin .max,some vs,_=>zS true vs fun v=>K v none
  |_,_,_=>False
 |_=>False
abbrev WK:=Value→ac→Prop
def bc(h:ac):Addr:=⟨h.size,0,none⟩
def hnew(h:ac)(cs:List Value)(t:TypeId):ac:=h.push (.cells cs.toArray t (0,0))
def bR:List Value→Bool
 | []=>true
 |v::vs=>(match v with| .agg _=>false| .tuple _=>false|_=>true)&&bR vs
noncomputable def ie(h:ac)(a:Addr):Nat→List Value→ac
 |_,[]=>h
 |i,v::vs=>ie (hset h (adr a i) v) a (i+1) vs
noncomputable def eJ(h:ac)(a:Option Addr)(i:Nat)(vs:List Value):ac:=match a with|some a=>ie h a i vs|none=>h
noncomputable def rk(h:ac)(a:Option Addr)(i:Nat)(vs:List Value):Prop:=vs= []∨∃b,a=some b∧∀j,j<vs.length→Wr h (adr b (i+j))
noncomputable def Gp(P:Program)(t:TypeId)(a v:Value)(K:WK)(h:ac):Prop:=
 match a with
 | .pointer (some a)=>bif bj v.cells.toList.length (bJ P t)&&bR v.cells.toList then K2 P t
   (match v.cells.toList with
    | [v]=>Wr h a∧K undef (hset h a v)
    |vs=>rk h (some a) 0 vs∧K undef (ie h a 0 vs))
  else False
 |_=>False
noncomputable def LN(P:Program)(e:TypeId)(a:Option Addr)(sl c b:Nat)(xs:List Value)(K:WK)(h:ac):Prop:=
 (sl+b≤c→rk h a (sl*bJ P e) xs∧bR xs=true∧K (.slice a (sl+b) c) (eJ h a (sl*bJ P e) xs))∧
 (c<sl+b→∃old z,SRow h a (sl*bJ P e) old∧nX P e=some z∧0<om P e∧Builtin.nextslicecap (sl+b) c*om P e≤2^48∧
  ∀nc,sl+b≤nc→K (.slice (some (bc h)) (sl+b) nc) (hnew h (old++xs++db (nc-(sl+b)) z) e))
noncomputable def zP(P:Program)(t:TypeId)(s x:Value)(K:WK)(h:ac):Prop:=
 match r8 P t,s,x with
 |some e,.slice b sl sc,.slice a xl _=>K2 P e (∃xs,SRow h a (xl*bJ P e) xs∧LN P e b sl sc xl xs K h)
 |some e,.slice b sl sc,.string x=>bif bj (bJ P e) 1 then LN P e b sl sc x.size (dy x) K h else False
 |_,_,_=>False
noncomputable def Aj(P:Program)(t:TypeId)(s x:Value)(K:WK)(h:ac):Prop:=
 match r8 P t,s,x with
 |some e,.slice b sl sc,.int _ l=>(match nX P e with
  |some z=>bif bj z.length (bJ P e)then(0≤l∧l*om P e≤2^48∧l≤9223372036854775807∧((sl+l.toNat:Nat):Int)≤9223372036854775807)∧LN P e b sl sc l.toNat (db l.toNat z) K h else False
  |none=>False)
 |_,_,_=>False
noncomputable def Gq(P:Program)(t:TypeId)(x:Value)(K:WK)(h:ac):Prop:=
 match r8 P t,x with
 |some e,.slice a n _=>(match nX P e with
  |some z=>bif bR z then rk h a 0 (db n z)∧K (.tuple #[]) (eJ h a 0 (db n z))else False
  |none=>False)
 |_,_=>False
noncomputable def Kj(P:Program)(t:TypeId)(d s:Value)(K:WK)(h:ac):Prop:=
 match r8 P t,d,s with
 |some e,.slice b dl _,.slice a sl _=>K2 P e (∃xs,SRow h a (dt sl dl*bJ P e) xs∧rk h b 0 xs∧bR xs=true∧K (.int .i64 (dt sl dl)) (eJ h b 0 xs))
 |some e,.slice b dl _,.string x=>bif bj (bJ P e) 1 then rk h b 0 ((dy x).take dl)∧K (.int .i64 (dt x.size dl)) (eJ h b 0 ((dy x).take dl))else False
 |_,_,_=>False
def DL(k v:Value)(a:Nat):List MapEntry→List MapEntry×Nat
 | []=>([{key:=k,val:=v,born:=a}],a+1)
 |e::es=>if eT k e.key then({e with key:=k,val:=v}::es,a)else let r:=DL k v a es;(e::r.1,r.2)
def Bb(k:Value):List MapEntry→List MapEntry
 | []=> []
 |e::es=>if eT k e.key then es else e::Bb k es
def wZ(c:CK)(h:ac)(r:Nat):Prop:=∃es clock,h[r]? =some (.map es clock)∧keysOf c es.toList
def ns(h:ac)(r:Nat)(k v:Value):ac:=
 match h[r]? with
 |some (.map es clock)=>h.setIfInBounds r (.map (DL k v clock es.toList).1.toArray (DL k v clock es.toList).2)
 |_=>h
def AM(h:ac)(r:Nat)(k:Value):ac:=
 match h[r]? with
 |some (.map es clock)=>h.setIfInBounds r (.map (Bb k es.toList).toArray clock)
 |_=>h
def zO(P:Program)(t:TypeId)(m k v:Value)(K:WK)(h:ac):Prop:=
 match Ft P t,m with
 |some (c,_),.map m=>c.dec k fun _=>∃r,m=some r∧wZ c h r∧K undef (ns h r k v)
 |_,_=>False
def Ah(P:Program)(t:TypeId)(m k:Value)(K:WK)(h:ac):Prop:=
 match Ft P t,m with
 |some (c,_),.map m=>c.dec k fun _=>(m=none∧K (.tuple #[]) h)∨(∃r,m=some r∧wZ c h r∧K (.tuple #[]) (AM h r k))
 |_,_=>False
def KM(P:Program):List TypeId→Option (List Kind)
 | []=>some []
 |t::ts=>match AQ P t,KM P ts with
  |some k,some ks=>some (k::ks)
  |_,_=>none
def KO(P:Program)(t:TypeId):Option (List Kind):=
 match P.underlying t with
 |some (.tuple ts)=>KM P ts.toList
 |_=>KM P [t]
noncomputable def Nd(P:Program)(f:Operand)(r:cg)(args:List Value)(t:TypeId)(K:WK)(h:ac):Prop:=
 match KO P t with
 |none=>False
 |some ks=>match f with
  | .func f=>HC P f args ks (fun x h'=>K (zz ks (kE ks x)) h') h
  |f=>match cU r f with
   |some fv=>HV P fv args ks (fun x h'=>K (zz ks (kE ks x)) h') h
   |none=>False
def Ki(b:Value)(K:WK)(h:ac):Prop:=
 match b with
 | .pointer (some a)=>a.off=0∧
  ∃m since seen last,h[a.block]? =some (.mapIter m since seen last)∧
   ((m=none∧K (.tuple #[.bool false]) h)∨
    (∃r es clock,m=some r∧h[r]? =some (.map es clock)∧(seen.isEmpty=true∨es.isEmpty=true∨es.all (fun e=>decide (e.born≥last))=false)∧
     ((∀e∈es.toList,e.born<since→seen.contains e.born=true)→K (.tuple #[.bool false]) h)∧
     (∀e∈es.toList,seen.contains e.born=false→K (.tuple #[.bool true,e.key,e.val]) (h.setIfInBounds a.block (.mapIter (some r) since (seen.push e.born) clock)))))
 |_=>False
noncomputable def BS(P:Program)(o:Oper)(r:cg)(K:WK)(h:ac):Prop:=
 match o.op with
 | .alloc t=>(match nX P t with|some z=>K (.pointer (some (bc h))) (hnew h z t)|none=>False)
 | .box t x=>(match cU r x with|some v=>K (.pointer (some (bc h))) (hnew h v.cells.toList t)|none=>False)
 | .build t ps=>(match nq r ps.toList with
  |some vs=>(match Ec P t vs with|some cs=>K (.agg cs.toArray) h|none=>False)
  |none=>False)
 | .buildSlice t n ps=>(match r8 P t,nq r ps.toList with
  |some e,some vs=>(match nX P e with
   |some z=>bif ue (n*bJ P e) 16777216&&bj z.length (bJ P e)then
     (match y5 (fun i=>some (i*bJ P e,bJ P e)) (db n z) vs with|some cs=>K (.slice (some (bc h)) n n) (hnew h cs e)|none=>False)
    else False
   |none=>False)
  |_,_=>False)
 | .store t a x=>(match cU r a,cU r x with|some a,some v=>Gp P t a v K h|_,_=>False)
 | .mapUpdate t m k x=>(match cU r m,cU r k,cU r x with|some m,some k,some v=>zO P t m k v K h|_,_,_=>False)
 | .insert t m k x=>(match cU r m,cU r k,cU r x with|some m,some k,some v=>zO P t m k v K h|_,_,_=>False)
 | .makeMap t n=>(match n with
  |none=>K (.map (some h.size)) (h.push (.map #[] 0))
  |some n=>(match cU r n,P.underlying t with|some (.int _ _),some (.map _ _)=>K (.map (some h.size)) (h.push (.map #[] 0))|_,_=>False))
 | .makeSlice t l c=>(match r8 P t,cU r l,cU r c with
  |some e,some (.int _ l),some (.int _ c)=>(match nX P e with
   |some z=>bif bj z.length (bJ P e)then(0≤l∧l≤c∧c≤9223372036854775807∧om P e*c≤2^48)∧K (.slice (some (bc h)) l.toNat c.toNat) (hnew h (db c.toNat z) e)else False
   |none=>False)
  |_,_,_=>False)
 | .convert s d x=>(match P.underlying s,P.underlying d,cU r x with
  |some .string,some (.slice e),some (.string v)=>bif He P e then ByP e v h (fun c h'=>K (.slice (some (bc h)) v.size c) h')else False
  |_,_,_=>False)
 | .range t x=>(match P.underlying t,cU r x with
  |some (.map _ _),some (.map m)=>∃clock,(m=none∧clock=0∨∃r es,m=some r∧h[r]? =some (.map es clock))∧K (.pointer (some (bc h))) (h.push (.mapIter m clock #[] clock))
  |_,_=>False)
 | .next it false=>(match cU r it with|some it=>Ki it K h|none=>False)
 | .call c=>(match c.callee,lq r c.args.toList with
  | .builtin .append,some [s,x]=>(match c.argTypes.toList with| [t,u]=>(match P.underlying u with|some (.slice _)=>zP P t s x K h|some .string=>zP P t s x K h|some (.int _)=>Aj P t s x K h|_=>False)|_=>False)
  | .builtin .clear,some [x]=>(match c.argTypes.toList with| [t]=>Gq P t x K h|_=>False)
  | .builtin .copy,some [d,s]=>(match c.argTypes.toList with| [t,_]=>Kj P t d s K h|_=>False)
  | .builtin .delete,some [m,k]=>(match c.argTypes.toList with| [t,_]=>Ah P t m k K h|_=>False)
  | .value f,some args=>Nd P f r args o.type K h
  |_,_=>False)
 |_=>False
def sd(P:Program):Op→Bool
 | .convert s d _=> !NZ P s d
 | .alloc _| .box .. | .buildSlice .. | .store .. | .mapUpdate .. | .insert .. | .makeMap .. | .makeSlice .. | .range .. | .next .. =>false
 | .call c=>match c.callee with
  | .builtin .len| .builtin .cap| .builtin .min| .builtin .max=>true
  |_=>false
 |_=>true
def vy(N:Nat)(o:Oper)(v:Value)(r:cg)(K:cg→Prop):Prop:=
 match o.dst with
 |none=>K r
 |some d=>bif ud d N then K ((d,v)::r)else False
noncomputable def Oo(P:Program)(N:Nat)(ek:Option (Kind×Kind))(o:Oper)(r:cg)(K:cg→ac→Prop)(h:ac):Prop:=
 bif sd P o.op then xC P ek o.op r (fun v _=>vy N o v r fun a=>K a h) h
 else BS P o r (fun v h'=>vy N o v r fun a=>K a h') h
inductive DV where
 |f|t|u|x
abbrev rD:=List (Nat×DV)
noncomputable def oI(d:rD)(t:Nat):DV:=
 eF (motive:=fun _=>DV) .x (fun a _ b=>bif bj a.1 t then a.2 else b) d
noncomputable def wL(d:rD):Operand→DV
 | .tmp t=>oI d t
 | .const (.bool true)=>.t
 | .const (.bool false)=>.f
 |_=>.x
noncomputable def Ew(d:rD):Op→DV
 | .move x=>wL d x
 | .assign x=>wL d x
 | .pick c a b=>match wL d c with
  | .t=>wL d a
  | .f=>wL d b
  |_=>.x
 | .unOp .not _ x=>match wL d x with
  | .t=>.f
  | .f=>.t
  |_=>.x
 |_=>.x
def o8(d:rD)(o:Oper)(v:DV):rD:=match o.dst with|some t=>(t,v)::d|none=>d
noncomputable def gK(ops:List Oper)(d:rD)(o:Oper):Option Bool:=
 match o.guard with
 |none=>some true
 |some (j,want)=>match ops[j]? with
  |none=>none
  |some oj=>match oj.dst with
   |none=>none
   |some t=>match oI d t with
    | .t=>some want
    | .f=>some (!want)
    | .u=>some false
    | .x=>none
def AW(ops:List Oper)(o:Oper):Option Nat:=
 match o.guard with
 |none=>none
 |some (j,_)=>match ops[j]? with
  |none=>none
  |some oj=>oj.dst
noncomputable def CD(P:Program)(N:Nat)(ek:Option (Kind×Kind))(ops:List Oper)(o:Oper)(d:rD)(r:cg)(h:ac)(K:rD→cg→ac→Prop):Prop:=
 match gK ops d o with
 |some true=>Oo P N ek o r (K (o8 d o (Ew d o.op))) h
 |some false=>vy N o undef r fun a=>K (o8 d o .u) a h
 |none=>False
noncomputable def Ay(P:Program)(N:Nat)(ek:Option (Kind×Kind))(ops:List Oper)(l:List Oper):rD→(cg→ac→Prop)→cg→ac→Prop:=
 eF (motive:=fun _=>rD→(cg→ac→Prop)→cg→ac→Prop) (fun _ K r h=>K r h)
  (fun o _ c d K r h=>
  match gK ops d o with
  |some true=>Oo P N ek o r (fun a h'=>c (o8 d o (Ew d o.op)) K a h') h
  |some false=>vy N o undef r fun a=>c (o8 d o .u) K a h
  |none=>match AW ops o with
   |none=>False
   |some t=>match iE r t with
    |some (.bool b)=>CondP b
     (CD P N ek ops o ((t,.t)::d) ((t,.bool true)::r) h fun e a h'=>c e K a h')
     (CD P N ek ops o ((t,.f)::d) ((t,.bool false)::r) h fun e a h'=>c e K a h')
    |_=>False) l
inductive DA where
 |done
 |take (i:Nat) (rest:DA)
 |all (l:DA)
 |pick (i:Nat) (rest more:DA)
 |last (i:Nat) (rest:DA)
 |lastT (i:Nat) (rest:DA)
 |split (t:Nat) (yes no:DA)
abbrev oo:=List (Nat×(ac→Prop))
def tb(m i:Nat):Bool:=bj (hO (Nat.shiftRight m i) 1) 1
def fJ(i:Nat):Nat:=Nat.pow 2 i
inductive DM where
 |mk (am fr lk ds:Nat)
def DM.am:DM→Nat| .mk a _ _ _=>a
def DM.fr:DM→Nat| .mk _ f _ _=>f
def DM.lk:DM→Nat| .mk _ _ l _=>l
def DM.ds:DM→Nat| .mk _ _ _ d=>d
def gM(o:Oper)(i:Nat):Bool:=o.after.toList.any fun e=>bj e.on i&&Region.binds .any e
noncomputable def kf(l:List Edge):Nat:=
 eF (motive:=fun _=>Nat) 0 (fun e _ a=>bif Region.binds .any e then cC (fJ e.on) a else a) l
noncomputable def jG(l:List Operand):Nat:=
 eF (motive:=fun _=>Nat) 0 (fun o _ a=>match o with| .tmp t=>cC (fJ t) a|_=>a) l
def lh(o:Oper):Nat:=match o.dst with|some d=>fJ d|none=>0
noncomputable def lM(ops:List Oper)(o:Oper):Nat:=
 cC (jG o.op.operands.toList) (match o.guard with
  |some (g,_)=>(match ops[g]? with|some og=>lh og|none=>0)
  |none=>0)
noncomputable def sH(ops:List Oper)(l:List Oper):List DM→Bool:=
 eF (motive:=fun _=>List DM→Bool) (fun ms=>match ms with| []=>true|_=>false)
  (fun o _ a ms=>match ms with
   |m::ms=>bj (kf o.after.toList) m.am&&bj (lM ops o) m.lk&&bj (lh o) m.ds&&a ms
   | []=>false) l
def ym(x y:DM):Bool:=bj (hO x.ds (cC y.lk y.ds)) 0&&bj (hO y.ds x.lk) 0
noncomputable def Da(i:Nat)(m:DM)(l:List DM):Nat→Bool:=
 eF (motive:=fun _=>Nat→Bool) (fun _=>true)
  (fun n _ a j=>(!(tb m.fr j)||bj j i||tb n.am i||ym m n)&&a (eP j)) l
noncomputable def wJ(a:List DM)(l:List DM):Nat→Bool:=
 eF (motive:=fun _=>Nat→Bool) (fun _=>true) (fun m _ b i=>Da i m a 0&&b (eP i)) l
def Fh:List Oper→Bool
 | []=>true
 |o::os=>(match o.op with| .select .. =>false| .defer _=>false|_=>true)&&Fh os
noncomputable def zT(ops:List Oper)(ms:List DM):Bool:=sH ops ops ms&&wJ ms ms 0&&Fh ops
def lS(o:Oper):oo→oo
 | []=> []
 |(k,S)::l=>bif gM o k then lS o l else(k,S)::lS o l
def pq:oo→ac→Prop→Prop
 | [],_,R=>R
 |(_,S)::l,h,R=>S h∧pq l h R
def Ev(m:DM)(ls:Nat):Bool:=bj (hO m.am ls) m.am
noncomputable def jK(ls:Nat)(l:List DM):Nat→List Nat:=
 eF (motive:=fun _=>Nat→List Nat) (fun _=> []) (fun m _ a j=>bif !(tb ls j)&&Ev m ls then j::a (eP j)else a (eP j)) l
def Ap(m:DM)(i ls n:Nat):Bool:= !(tb ls i)&&Ev m ls&&bj (hO (cC ls m.fr) (tQ (fJ n))) (tQ (fJ n))
def rN:List Nat→List Nat→Bool
 | [],[]=>true
 |a::as,b::bs=>bj a b&&rN as bs
 |_,_=>false
def yf:DA→List Nat
 | .pick i _ l=>i::yf l
 | .last i _=> [i]
 | .lastT i _=> [i]
 |_=> []
noncomputable def I7(P:Program)(N:Nat)(ops:List Oper)(i:Nat)(L:oo)(d:rD)(r:cg)(h:ac)(K:oo→rD→cg→ac→Prop):Prop:=
 match ops[i]? with
 |none=>False
 |some o=>match gK ops d o with
  |some true=>bif sd P o.op then xC P none o.op r (fun v _=>vy N o v r fun a=>pq (lS o L) h (K (lS o L) (o8 d o .x) a h)) h else BS P o r (fun v h'=>vy N o v r fun a=>pq (lS o L) h' (K (lS o L) (o8 d o .x) a h')) h
  |_=>False
noncomputable def JS(m:Nat)(l:List DM):Nat→Nat:=
 eF (motive:=fun _=>Nat→Nat) (fun _=>m) (fun n _ a j=>bif tb m j then cC n.am (a (eP j))else a (eP j)) l
noncomputable def wN(ms:List DM)(m:Nat):Nat:=JS (JS (JS (JS m ms 0) ms 0) ms 0) ms 0
def Ek(ms:List DM)(i:Nat):Nat:=match ms[i]? with|some m=>m.am|none=>0
def wy(m:Nat):oo→oo
 | []=> []
 |(k,S)::l=>bif tb m k then wy m l else(k,S)::wy m l
noncomputable def Ij(P:Program)(N:Nat)(ops:List Oper)(ms:List DM)(i:Nat)(L:oo)(d:rD)(r:cg)(h:ac)(K:oo→rD→cg→ac→Prop):Prop:=
 match ops[i]? with
 |none=>False
 |some o=>match gK ops d o with
  |some true=>bif sd P o.op then False else BS P o r (fun v h'=>vy N o v r fun a=>pq (wy (wN ms (Ek ms i)) L) h' (K (wy (wN ms (Ek ms i)) L) (o8 d o .x) a h')) h
  |_=>False
noncomputable def kQ(P:Program)(N:Nat)(ops:List Oper)(ms:List DM)(j:DA):Bool→Nat→oo→rD→(cg→ac→Prop)→cg→ac→Prop:=
 DA.rec (motive:=fun _=>Bool→Nat→oo→rD→(cg→ac→Prop)→cg→ac→Prop)
  (fun m ls _ _ K r h=>bif !m&&rN (jK ls ms 0) []then K r h else False)
  (fun i _ c m ls L d K r h=>
   match ops[i]?,ms[i]? with
   |some o,some mi=>bif !m&&Ap mi i ls ops.length then
     (match gK ops d o with
      |none=>False
      |some false=>vy N o undef r fun a=>c false (cC ls (fJ i)) L (o8 d o .u) K a h
      |some true=>bif sd P o.op then
       xC P none o.op r (fun v S=>vy N o v r fun a=>match S with
        |none=>c false (cC ls (fJ i)) L (o8 d o (Ew d o.op)) K a h
        |some S=>c false (cC ls (fJ i)) ((i,S)::L) (o8 d o (Ew d o.op)) K a h) h
       else False)
    else False
   |_,_=>False)
  (fun l c m ls L d K r h=>bif !m&&rN (jK ls ms 0) (yf l)then c true ls L d K r h else False)
  (fun i _ _ f e m ls L d K r h=>bif m then I7 P N ops i L d r h (fun L' g a h'=>f false (cC ls (fJ i)) L' g K a h')∧e true ls L d K r h else False)
  (fun i _ c m ls L d K r h=>bif m then I7 P N ops i L d r h (fun L' g a h'=>c false (cC ls (fJ i)) L' g K a h')else False)
  (fun i _ c m ls L d K r h=>bif m then Ij P N ops ms i L d r h (fun L' g a h'=>c false (cC ls (fJ i)) L' g K a h')else False)
  (fun t _ _ f e m ls L d K r h=>
   bif m then False else match iE r t with
   |some (.bool b)=>CondP b (f false ls L ((t,.t)::d) K ((t,.bool true)::r) h) (e false ls L ((t,.f)::d) K ((t,.bool false)::r) h)
   |_=>False)
  j
noncomputable def PS(b:Oper)(i:Nat)(ds lk:Nat)(ops:List Oper)(l:List Oper):Nat→Nat:=
 eF (motive:=fun _=>Nat→Nat) (fun _=>0) (fun p _ a j=>bif (bj j i||gM p i||(bj (hO ds (cC (lM ops p) (lh p))) 0&&bj (hO (lh p) lk) 0))then cC (fJ j) (a (eP j))else a (eP j)) l
noncomputable def PH(ops:List Oper)(l:List Oper):Nat→List DM:=
 eF (motive:=fun _=>Nat→List DM) (fun _=> []) (fun o _ a i=>.mk (kf o.after.toList) (PS o i (lh o) (lM ops o) ops ops 0) (lM ops o) (lh o)::a (eP i)) l
def OA(P:Program)(w:Option Bool)(o:Oper):Bool:=match w with|some false=>true|some true=>sd P o.op|none=>false
noncomputable def N5(P:Program)(ops:List Oper)(d:rD)(ls n:Nat)(l:List Oper):List DM→Nat→Option (Nat×Oper):=
 eF (motive:=fun _=>List DM→Nat→Option (Nat×Oper)) (fun _ _=>none)
  (fun o _ a ms j=>match ms with
   | []=>none
   |m::ms=>bif Ap m j ls n&&OA P (gK ops d o) o then some (j,o)else a ms (eP j)) l
noncomputable def N6(ops:List Oper)(d:rD)(ls:Nat)(l:List Oper):List DM→Nat→Option Nat:=
 eF (motive:=fun _=>List DM→Nat→Option Nat) (fun _ _=>none)
  (fun o _ a ms j=>match ms with
   | []=>none
   |m::ms=>match bif !(tb ls j)&&Ev m ls then(match gK ops d o with|none=>AW ops o|some _=>none)else none with
    |some t=>some t
    |none=>a ms (eP j)) l
noncomputable def OV(ops:List Oper)(k:Nat→rD→DA)(ls:Nat)(d:rD)(l:List Nat):DA:=
 eF (motive:=fun _=>DA) .done (fun i a b=>match ops[i]? with
  |none=>.done
  |some o=>match a with
   | []=>.last i (k (cC ls (fJ i)) (o8 d o .x))
   |_=>.pick i (k (cC ls (fJ i)) (o8 d o .x)) b) l
noncomputable def Of(P:Program)(ops:List Oper)(ms:List DM)(a:Nat):Nat→rD→DA:=
 Nat.rec (motive:=fun _=>Nat→rD→DA) (fun _ _=>.done) (fun _ b ls d=>
  match N5 P ops d ls ops.length ops ms 0 with
  |some (i,o)=>.take i (b (cC ls (fJ i)) (match gK ops d o with|some false=>o8 d o .u|_=>o8 d o (Ew d o.op)))
  |none=>match N6 ops d ls ops ms 0 with
   |some t=>.split t (b ls ((t,.t)::d)) (b ls ((t,.f)::d))
   |none=>match jK ls ms 0 with
    | []=>.done
    |l=>.all (OV ops b ls d l)) a
noncomputable def Iq(ops:List Oper):List DM:=PH ops ops 0
inductive Ex where
 |exit (id:Nat)
 |ret
abbrev St:=List (Nat×Kind)
def uX:St→List Kind
 | []=> []
 |(_,k)::l=>k::uX l
noncomputable def Av(r:cg):St→Option (List Value)
 | []=>some []
 |(i,_)::l=>match iE r i,Av r l with
  |some v,some vs=>some (v::vs)
  |_,_=>none
noncomputable def yQ(st:St)(r:cg)(f:rF (uX st)→Prop):Prop:=
 match Av r st with
 |some vs=>zE (uX st) vs f
 |none=>False
def kZ:St→List Value→cg→cg
 |(i,_)::l,v::vs,r=>(i,v)::kZ l vs r
 |_,_,r=>r
noncomputable def Ix(r:cg)(l:List Nat):Option cg:=
 eF (motive:=fun _=>Option cg) (some []) (fun t _ a=>match iE r t,a with
  |some v,some l=>some ((t,v)::l)
  |_,_=>none) l
noncomputable def jE(t:Nat)(l:List Oper):Bool:=
 eF (motive:=fun _=>Bool) false (fun o _ a=>match o.dst with|some d=>bif bj d t then true else a|none=>a) l
noncomputable def fl(t:Nat)(c:Code):Bool:=
 Code.rec (motive:=fun _=>Bool) false (fun _ ops _=>jE t ops.toList) (fun _ _ a b=>bif a then true else b) (fun _ _ _ a b=>bif a then true else b)
  (fun _ _ b=>b) (fun _ b=>b) (fun _ _ _ _ _ _=>true) (fun _=>false) (fun _ b=>b) (fun _=>false) (fun _=>false) false (fun _=>false) c
inductive Ann where
 |nil
 |node (a b:Ann)
 |join (st:St) (a b:Ann)
 |loop (st:St) (b:Ann)
 |draw (d:DA)
 |kinds (k v:Kind)
 |reg (keep:List Nat) (inner:Ann)
 |rf (ks:List Kind) (a b:Ann)
def Ann.l:Ann→Ann
 | .node a _=>a
 | .rf _ a _=>a
 |_=>.nil
def Ann.r:Ann→Ann
 | .node _ b=>b
 | .rf _ _ b=>b
 |_=>.nil
noncomputable def Kh(l:List Oper):Nat:=eF (motive:=fun _=>Nat) 0 (fun o _ a=>cC (lh o) a) l
def OY:Option Nat→Option Nat→Option Nat
 |some a,some b=>some (cC a b)
 |_,_=>none
noncomputable def ur(c:Code):Option Nat:=
 Code.rec (motive:=fun _=>Option Nat) (some 0) (fun _ ops _=>some (Kh ops.toList)) (fun _ _ a b=>OY a b) (fun _ _ _ a b=>OY a b)
  (fun _ _ b=>b) (fun _ b=>b) (fun _ _ _ _ _ _=>none) (fun _=>some 0) (fun _ b=>b) (fun _=>some 0) (fun _=>some 0) (some 0) (fun _=>some 0) c
noncomputable def sM(m:Nat)(r:cg):cg:=eF (motive:=fun _=>cg) [] (fun a _ b=>bif tb m a.1 then b else a::b) r
noncomputable def xM(P:Program)(N:Nat)(ops:List Oper)(b:Bool)(a:Ann)(Kn:cg→ac→Prop)(r:cg)(h:ac):Prop:=
 match b with
 |false=>(match a with
  | .kinds kk vk=>Ay P N (some (kk,vk)) ops ops [] Kn r h
  |_=>Ay P N none ops ops [] Kn r h)
 |true=>bif zT ops (Iq ops)then kQ P N ops (Iq ops) (match a with| .draw da=>da|_=>Of P ops (Iq ops) (Nat.add (Nat.add ops.length ops.length) 2) 0 []) false 0 [] [] Kn r h else False
noncomputable def i1(P:Program)(N:Nat)(c:Code):Ann→(cg→ac→Prop)→(Ex→cg→ac→Prop)→cg→ac→Prop:=
 Code.rec (motive:=fun _=>Ann→(cg→ac→Prop)→(Ex→cg→ac→Prop)→cg→ac→Prop)
  (fun _ Kn _ r h=>Kn r h)
  (fun _ ops p d Kn _ r h=>match d with
   | .reg keep d=>xM P N ops.toList p d (fun f h'=>match Ix f keep with|some r0=>Kn r0 h'|none=>False) r h
   |d=>xM P N ops.toList p d Kn r h)
  (fun a _ j g d Kn Kx r h=>match d with
   | .join st aa ab=>(match ur a with
     |none=>False
     |some m=>Join (T:=rF (uX st)) (fun t h'=>g ab Kn Kx (kZ st (kE (uX st) t) (sM m r)) h')
      fun J=>j aa (fun f h'=>yQ st f fun t=>J t h') Kx r h)
   |d=>j d.l (fun f h'=>g d.r Kn Kx f h') Kx r h)
  (fun c _ _ j g d Kn Kx r h=>match cU r c with
   |some (.bool t)=>CondP t (j d.l Kn Kx r h) (g d.r Kn Kx r h)
   |_=>False)
  (fun id _ o d Kn Kx r h=>o d Kn (fun e f h'=>match e with
    | .exit i=>bif bj i id then Kn f h' else Kx (.exit i) f h'
    | .ret=>Kx .ret f h') r h)
  (fun b o d _ Kx r h=>match d with
   | .loop st ab=>(match ur b with
     |none=>False
     |some m=>yQ st r fun q=>LoopP (T:=rF (uX st)) (fun k t h'=>o ab (fun f n=>yQ st f fun s=>k s n) Kx (kZ st (kE (uX st) t) (sM m r)) h') q h)
   |_=>False)
  (fun _ _ _ _ _ _ _ _ _ _ _=>False)
  (fun id _ _ Kx r h=>Kx (.exit id) r h)
  (fun _ _ _ _ _ _ _=>False)
  (fun _ _ Kn _ r h=>Kn r h)
  (fun _ _ _ _ _ _=>False)
  (fun _ _ Kx r h=>Kx .ret r h)
  (fun _ _ _ _ _ _=>False)
  c
noncomputable def ld(P:Program)(r:cg)(h:ac):List ResultVar→(List Value→Prop)→Prop
 | [],K=>K []
 | .tmp t::l,K=>(match iE r t with|some v=>ld P r h l fun vs=>K (v::vs)|none=>False)
 | .cell a t::l,K=>(match iE r a with
  |some v=>E3 P t v (fun x _=>ld P r h l fun vs=>K (x::vs)) h
  |none=>False)
def ng:Nat→List Value→cg
 |_,[]=> []
 |i,v::vs=>(i,v)::ng (i+1) vs
noncomputable def CE(P:Program)(fn:Func)(c:Code)(a:Ann)(args:List Value)(ks:List Kind)(K:rF ks→ac→Prop)(h:ac):Prop:=
 i1 P fn.ntmps c a
  (fun r h'=>ld P r h' fn.results.toList fun vs=>zE ks vs fun t=>K t h')
  (fun e r h'=>match e with
   | .ret=>ld P r h' fn.results.toList fun vs=>zE ks vs fun t=>K t h'
   | .exit _=>False)
  (ng 0 args) h
def Be:List Oper→Option (Oper×Oper×Operand×Nat×FuncId×List Operand)
 | [m,o]=>match m.op,m.guard,m.dst,o.op,o.dst,o.guard with
  | .move x,none,some d,.defer c,none,none=>(match c.callee with
   | .value (.func f)=>some (m,o,x,d,f,c.args.toList)
   |_=>none)
  |_,_,_,_,_,_=>none
 |_=>none
inductive Mk where
 |it (n:Nat)
 |call (f:FuncId) (vs:List Value)
def HD(P:Program)(f:FuncId)(args:List Value)(K:ac→Prop)(h:ac):Prop:=
 ∀w:World,w.heap=h→(∀(args:Array Value) (w:World),(callFunc f args).run P w=.ok (.enter f args) w)∧∀n:Nat,CallsDIn {fn:=fun _=>True,depth:=none,alive:=false,round:=none} n P f args.toArray .returning w fun e u w'=>u=.returning∧Tame w w'∧(∃v,e=.returned v)∧K w'.heap
noncomputable def pr(c:Code):Bool:=
 Code.rec (motive:=fun _=>Bool) false (fun _ ops _=>(Be ops.toList).isSome) (fun _ _ a b=>bif a then true else b) (fun _ _ _ a b=>bif a then true else b)
  (fun _ _ b=>b) (fun _ b=>b) (fun _ _ _ _ _ _=>true) (fun _=>false) (fun _ b=>b) (fun _=>false) (fun _=>false) false (fun _=>false) c
def D5:Option Ex→Option Code
 |none=>none
 |some (.exit i)=>some (.exit i)
 |some .ret=>some .ret
def PT(N:ac→Prop)(X:Nat→ac→Prop)(R:ac→Prop):Option Ex→ac→Prop
 |none=>N
 |some (.exit i)=>X i
 |some .ret=>R
structure RangeP(P:Program)(fv:Value)(ks:List Kind)(h:ac)(RT:Obj→Obj→rF ks→(Option Ex→ac→Prop)→ac→Prop)(N:ac→Prop)(X:Nat→ac→Prop)(R:ac→Prop):Prop where
 run:∀lo:LoopState→Option Ex→Obj,(∀s j,∃r,lo s j=.loop r)→
  (∀x h' K,h'[h.size+1]? =some (lo .ready none)→
   RT (lo .ready none) (lo .busy none) x (fun j h2=>h2[h.size+1]? =some (lo .busy none)∧K j.isNone (h2.setIfInBounds (h.size+1) (lo (if j.isNone then .ready else .done) j))) h'→
   HV P (.func (.yield (h.size+1)) #[] #[]) (kE ks x) [.c .bool] K h')→
  ∃f first cap,fv=.func (.func f) first cap∧HE P f (first.toList++ [.func (.yield (h.size+1)) #[] #[]]++cap.toList) []
   (fun _ h2=>∃s j,s≠ .busy∧h2[h.size+1]? =some (lo s j)∧PT N X R j (h2.setIfInBounds (h.size+1) (lo .exhausted j))) ((h.push (.deferred (some []))).push (lo .ready none))
def L5:List Nat→List Value→cg→cg
 |i::l,v::vs,r=>L5 l vs ((i,v)::r)
 |_,_,r=>r
noncomputable def GD(P:Program)(N:Nat)(ps:List Nat)(ks:List Kind)(assign body:Code)(c:Ann)(r:cg)(l:Nat)(Ev f:Obj)(x:rF ks)(k:Option Ex→ac→Prop)(h:ac):Prop:=
 i1 P N assign c.l (fun d b=>b[l]? =some Ev∧i1 P N body c.r (fun _ a=>k none a) (fun e _ a=>k (some e) a) d (b.setIfInBounds l f)) (fun _ _ _=>False) (L5 ps (kE ks x) r) h
def vf(N:Nat):List Nat→Bool
 | []=>true
 |n::l=>ud n N&&vf N l
noncomputable def uZ(P:Program)(N:Nat)(c:Code):Ann→(List Mk→cg→ac→Prop)→(Ex→List Mk→cg→ac→Prop)→List Mk→cg→ac→Prop:=
 Code.rec (motive:=fun _=>Ann→(List Mk→cg→ac→Prop)→(Ex→List Mk→cg→ac→Prop)→List Mk→cg→ac→Prop)
  (fun j Kn Kx ms r h=>i1 P N .skip j (Kn ms) (fun e=>Kx e ms) r h)
  (fun id ops p j Kn Kx ms r h=>match Be ops.toList with
   |none=>i1 P N (.region id ops p) j (Kn ms) (fun e=>Kx e ms) r h
   |some (_,_,x,d,f,as)=>bif p then False else match cU r x with
    |some v=>bif ud d N then(match lq ((d,v)::r) as with|some vs=>Kn (.call f vs::ms) ((d,v)::r) h|none=>False)else False
    |none=>False)
  (fun a b n m j Kn Kx ms r h=>bif (bif pr a then true else pr b)then n j.l (fun ms o h'=>m j.r Kn Kx ms o h') Kx ms r h
   else i1 P N (.seq a b) j (Kn ms) (fun e=>Kx e ms) r h)
  (fun c a b n m j Kn Kx ms r h=>bif (bif pr a then true else pr b)then
    (match cU r c with
     |some (.bool t)=>CondP t (n j.l Kn Kx ms r h) (m j.r Kn Kx ms r h)
     |_=>False)
   else i1 P N (.cond c a b) j (Kn ms) (fun e=>Kx e ms) r h)
  (fun id b q j Kn Kx ms r h=>bif pr b then q j Kn (fun e ms o h'=>match e with
    | .exit i=>bif bj i id then Kn ms o h' else Kx (.exit i) ms o h'
    | .ret=>Kx .ret ms o h') ms r h
   else i1 P N (.block id b) j (Kn ms) (fun e=>Kx e ms) r h)
  (fun b _ j Kn Kx ms r h=>i1 P N (.loop b) j (Kn ms) (fun e=>Kx e ms) r h)
  (fun g ps assign body _ _ j Kn Kx ms r h=>match j with
   | .rf ks aa ab=>bif vf N ps.toList&&bj ps.toList.length ks.length then
    (match cU r g with
     |some fv=>RangeP P fv ks h (fun Ev s x k h'=>GD P N ps.toList ks assign body (.node aa ab) r (h.size+1) Ev s x k h')
      (fun h'=>Kn (.it h.size::ms) r h') (fun i h'=>Kx (.exit i) (.it h.size::ms) r h') (fun h'=>Kx .ret (.it h.size::ms) r h')
     |none=>False)else False
   |_=>False)
  (fun id j Kn Kx ms r h=>i1 P N (.exit id) j (Kn ms) (fun e=>Kx e ms) r h)
  (fun _ _ _ _ _ _ _ _=>False)
  (fun l j Kn Kx ms r h=>i1 P N (.label l) j (Kn ms) (fun e=>Kx e ms) r h)
  (fun _ _ _ _ _ _ _=>False)
  (fun j Kn Kx ms r h=>i1 P N .ret j (Kn ms) (fun e=>Kx e ms) r h)
  (fun _ _ _ _ _ _ _=>False)
  c
def ET(P:Program):List Mk→(ac→Prop)→ac→Prop
 | [],K,h=>K h
 | .it D::ms,K,h=>h[D]? =some (.deferred (some []))∧ET P ms K (h.setIfInBounds D (.deferred none))
 | .call f vs::ms,K,h=>HD P f vs (fun h'=>ET P ms K h') h
noncomputable def GE(P:Program)(fn:Func)(c:Code)(a:Ann)(args:List Value)(ks:List Kind)(K:rF ks→ac→Prop)(h:ac):Prop:=
 uZ P fn.ntmps c a
  (fun ms r h'=>ET P ms (fun h'=>ld P r h' fn.results.toList fun vs=>zE ks vs fun t=>K t h') h')
  (fun e ms r h'=>match e with
   | .ret=>ET P ms (fun h'=>ld P r h' fn.results.toList fun vs=>zE ks vs fun t=>K t h') h'
   | .exit _=>False)
  [] (ng 0 args) h
end Go.Lift
namespace Go.Lift
open Go
theorem Bq(a:Addr):adr a 0=a:=rfl
theorem wT(a:Addr)(n:Nat):adr a (n+1)=⟨a.block,a.off+(n+1),none⟩:=rfl
theorem qU(a:Addr)(n:Nat):adr a n=a.add n:=by
 cases n with
 |zero=>simp[Bq,Addr.add]
 |succ n=>simp[wT,Addr.add]
theorem wU(a:Addr)(m n:Nat):adr (adr a m) n=adr a (m+n):=by
 cases n with
 |zero=>rfl
 |succ n=>cases m with
  |zero=>simp[Bq]
  |succ m=>rw[wT,wT,show m+1+(n+1)=(m+1+n)+1 from rfl,wT];simp;omega
theorem Tame.refl(w:World):Tame w w:=⟨rfl,rfl,rfl⟩
theorem Tame.trans{a b c:World}(h:Tame a b)(k:Tame b c):Tame a c:=⟨k.os.trans h.os,k.tape.trans h.tape,k.output.trans h.output⟩
theorem wF{a b:IntKind}(h:D2 a b=true):a=b:=by cases a<;>cases b<;>first|rfl|cases h
theorem CK.dec_sound{c:CK}{v:Value}{f:c.den→Prop}(h:c.dec v f):∃x,v=c.enc x∧f x:=by
 cases c<;>cases v<;>try simp only[CK.dec]at h
 case int.int k k' n=>
  cases hk:D2 k' k with
  |false=>rw[hk]at h;exact h.elim
  |true=>rw[hk]at h;have:=wF hk;subst this;exact⟨n,rfl,h⟩
 case adr.pointer p=>cases p with
  |none=>exact h.elim
  |some a=>exact⟨a,rfl,h⟩
 all_goals first|exact h.elim|exact⟨_,rfl,h⟩
theorem za:∀{cs:List CK} {vs:List Value} {f:LU cs→Prop},IJ cs vs f→∃t,vs=LF cs t∧f t
 | [],[],f,h=>⟨(),rfl,h⟩
 | [],_::_,f,h=>h.elim
 | [c],[v],f,h=>by obtain⟨x,rfl,g⟩:=CK.dec_sound h;exact⟨x,rfl,g⟩
 | [c],[],f,h=>h.elim
 | [c],_::_::_,f,h=>h.elim
 |c::d::cs,[],f,h=>h.elim
 |c::d::cs,[_],f,h=>h.elim
 |c::d::cs,v::u::vs,f,h=>by
  have e:c.dec v fun x=>IJ (d::cs) (u::vs) fun t=>f (x,t):=h
  obtain⟨x,hx,a⟩:=CK.dec_sound e;obtain⟨t,b,i⟩:=za (cs:=d::cs) (vs:=u::vs) a;exact⟨(x,t),by rw[b,hx];rfl,i⟩
theorem Kind.dec_sound{k:Kind}{v:Value}{f:k.den→Prop}(h:k.dec v f):∃x,v=k.enc x∧f x:=by
 cases k with
 |c k=>exact CK.dec_sound h
 |agg cs=>
  cases v<;>simp only[Kind.dec]at h
  case agg vs=>
   obtain⟨t,a,b⟩:=za h;exact⟨t,by simp only[Kind.enc,←a],b⟩
theorem pG:∀{ks:List Kind} {vs:List Value} {f:rF ks→Prop},zE ks vs f→∃t,vs=kE ks t∧f t
 | [],[],f,h=>⟨(),rfl,h⟩
 | [],_::_,f,h=>h.elim
 | [c],[v],f,h=>by obtain⟨x,rfl,g⟩:=Kind.dec_sound h;exact⟨x,rfl,g⟩
 | [c],[],f,h=>h.elim
 | [c],_::_::_,f,h=>h.elim
 |c::d::cs,[],f,h=>h.elim
 |c::d::cs,[_],f,h=>h.elim
 |c::d::cs,v::u::vs,f,h=>by
  have e:c.dec v fun x=>zE (d::cs) (u::vs) fun t=>f (x,t):=h
  obtain⟨x,hx,a⟩:=Kind.dec_sound e;obtain⟨t,b,i⟩:=pG (ks:=d::cs) (vs:=u::vs) a;exact⟨(x,t),by rw[b,hx];rfl,i⟩
theorem ql:∀(ks:List Kind) (t:rF ks),(kE ks t).length=ks.length
 | [],_=>rfl
 | [_],_=>rfl
 |_::l::ks,(_,t)=>by simp only[kE,az,ql (l::ks) t]
structure Agree(N:Nat)(r:cg)(a:Act):Prop where
 size:a.tmps.size=N
 look:∀t v,iE r t=some v→a.tmps.getD t undef=v
theorem gf(k:Nat)(v:Value)(r:cg):iE ((k,v)::r) k=some v:=by rw[AC,show bj k k=true from Nat.beq_refl k];rfl
theorem fL{k t:Nat}(v:Value)(r:cg)(h:k≠t):iE ((k,v)::r) t=iE r t:=by
 rw[AC];have:bj k t=false:=Bool.eq_false_iff.2 fun e=>h (aJ e)
 rw[this];rfl
theorem Agree.put{N:Nat}{r:cg}{a:Act}(h:Agree N r a)(d:Nat)(v:Value)(hd:d<N):Agree N ((d,v)::r) (a.put (some d) v):=by
 refine⟨by simp[Act.put,h.size],fun t u b=>?_⟩
 by_cases e:d=t
 ·subst e
  rw[gf]at b;cases b;simp[Act.put,h.size,hd]
 ·rw[fL v r e]at b
  have:=h.look t u b;simpa[Act.put,Array.getElem?_setIfInBounds_ne e]using this
theorem Agree.known{N:Nat}{r:cg}{a:Act}(h:Agree N r a){t:Nat}{v:Value}(c:iE r t=some v):Agree N ((t,v)::r) a:=by
 refine⟨h.size,fun s u b=>?_⟩
 by_cases e:t=s
 ·subst e;rw[gf]at b;cases b;exact h.look t v c
 ·rw[fL v r e]at b;exact h.look s u b
theorem iG{N:Nat}{r:cg}{a:Act}(h:Agree N r a){o:Operand}{v:Value}(b:cU r o=some v):a.eval o=v:=by
 cases o with
 |tmp t=>exact h.look t v b
 |const c=>simp[cU]at b;subst b;rfl
 |global g=>simp[cU]at b;subst b;rfl
 |func f=>simp[cU]at b;subst b;rfl
theorem j1{N:Nat}{r:cg}{a:Act}(h:Agree N r a):∀{os:List Operand} {vs:List Value},lq r os=some vs→os.map a.eval=vs
 | [],vs,hv=>by simp[lq]at hv;subst hv;rfl
 |o::os,vs,hv=>by
  simp only[lq]at hv;cases ho:cU r o with
  |none=>simp[ho]at hv
  |some v=>cases hos:lq r os with
   |none=>simp[ho,hos]at hv
   |some us=>simp[ho,hos]at hv;subst hv;simp[iG h ho,j1 h hos]
theorem ar{P:Program}{t:TypeId}{d:TypeDesc}(h:P.underlying t=some d)(w:World):(underlying t).run P w=.ok d w:=by
 simp only[underlying,program,bind,Sem.bind,Sem.run,h,pure]
theorem cz{P:Program}{t:TypeId}{i:TypeInfo}(h:P.info? t=some i)(w:World):(typeInfo t).run P w=.ok i w:=by
 simp only[typeInfo,program,bind,Sem.bind,Sem.run,h,pure]
theorem gU{P:Program}{s:Sem Value}{v:Value}{w w':World}(h:s.run P w=.ok v w'):(do pure (Next.value (←s)):Sem Next).run P w=.ok (.value v) w':=by
 simp[h]
theorem KL{P:Program}{s:Sem Unit}{w w':World}(h:s.run P w=.ok () w'):(do s;pure Next.skip:Sem Next).run P w=.ok .skip w':=by
 simp[h]
theorem wx{P:Program}{w:World}{a:Addr}{v:Value}(h:aF w.heap a=some v):(load a).run P w=.ok v w:=by
 have h':w.cell? a=some v:=h;simp[h']
theorem wP{v:Value}{vs:List Value}{i:Nat}{a:Addr}{h:ac}:qn (v::vs) i a h↔aF h (adr a i)=some v∧qn vs (i+1) a h:=by
 cases vs with
 |nil=>simp[qn]
 |cons u us=>rfl
theorem qd{P:Program}{w:World}{a:Addr}:∀(vs:List Value) (i:Nat) (acc:Array Value),qn vs i a w.heap→
  (loadCellsFrom a i vs.length acc).run P w=.ok (acc++vs.toArray) w
 | [],i,acc,_=>by simp[loadCellsFrom]
 |v::vs,i,acc,h=>by
  obtain⟨b,c⟩:=wP.1 h;rw[qU]at b;have:=qd (P:=P) (w:=w) (a:=a) vs (i+1) (acc.push v) c;simp only[az,loadCellsFrom,Sem.run_bind,wx b,Result.andThen_ok,this];simp
theorem BX{P:Program}{w:World}{a:Addr}{vs:List Value}(h:qn vs 0 a w.heap):(loadCells a vs.length).run P w=.ok vs.toArray w:=by
 have:=qd (P:=P) (w:=w) (a:=a) vs 0 #[] h;simpa[loadCells]using this
theorem uB:∀(cs:List CK) (i:Nat) (a:Addr) (h:ac) (k:List Value→Prop),D6 cs i a h k→∃vs,vs.length=cs.length∧qn vs i a h∧k vs
 | [],i,a,h,k,b=>⟨[],rfl,trivial,b⟩
 |c::cs,i,a,h,k,b=>by
  obtain⟨x,hx,b⟩:=b;obtain⟨vs,d,hc,b⟩:=uB cs (i+1) a h _ b;exact⟨c.enc x::vs,by simp[d],wP.2 ⟨hx,hc⟩,b⟩
theorem wO:∀{vs:List Value} {cs:List CK},Bi vs=some cs→cs.length=vs.length
 | [],cs,h=>by simp[Bi]at h;subst h;rfl
 |v::vs,cs,h=>by
  simp only[Bi]at h;cases h1:Oc v with
  |none=>simp[h1]at h
  |some c=>cases h2:Bi vs with
   |none=>simp[h1,h2]at h
   |some ds=>simp[h1,h2]at h;subst h;simp[wO h2]
def LS(P:Program)(t:TypeId)(i:TypeInfo):Kind→Prop
 | .c _=>rX P t=false
 | .agg cs=>rX P t=true∧i.size=cs.length
theorem Hc{P:Program}{t:TypeId}{k:Kind}(h:Iu P t=some k):∃i,P.info? t=some i∧LS P t i k:=by
 unfold Iu uq at h;cases hi:P.info? t with
 |none=>simp[hi]at h
 |some i=>
  refine⟨i,rfl,?_⟩;cases hz:i.zero with
  |none=>simp[hi,hz]at h
  |some z=>
   rw[hi]at h;simp only[hz]at h;cases z;case agg vs=>
    simp only at h;cases hb:(rX P t&&bj vs.toList.length (bJ P t))with
    |false=>rw[hb]at h;simp at h
    |true=>
     rw[hb]at h;simp only[cond_true]at h;simp only[Bool.and_eq_true]at hb;have a:=aJ hb.2;cases hd:Bi vs.toList with
     |none=>rw[hd]at h;simp at h
     |some ds=>
      rw[hd]at h;simp only[bE.injEq]at h;subst h;exact⟨hb.1,by rw[wO hd,a];simp[bJ,hi]⟩
   all_goals
    simp only at h;cases ha:rX P t
    ·rw[ha]at h
     simp only[cond_false]at h;split at h
     ·simp only[bE.injEq]at h;subst h;exact ha
     ·simp at h
    ·rw[ha]at h;simp at h
theorem Hd{P:Program}{t:TypeId}{k:Kind}(h:AQ P t=some k):(∀w,(isAgg t).run P w=.ok (rX P t) w)∧Iu P t=some k:=by
 unfold AQ at h;cases hu:P.underlying t with
 |none=>simp[hu]at h
 |some d=>
  simp only[hu]at h;refine⟨fun w=>?_,h⟩
  simp only[isAgg,Sem.run_bind,ar hu,Result.andThen_ok];unfold rX;rw[hu];cases d<;>rfl
theorem yW{P:Program}{t:TypeId}{v:Value}{K:RK}{h:ac}(d:E3 P t v K h):
  ∃u S,K u (some S)∧S h∧∀w:World,S w.heap→(Instr.loadAt t v).run P w=.ok u w:=by
 unfold E3 at d;cases v with
 |pointer p=>
  cases p with
  |none=>exact d.elim
  |some a=>
   simp only at d;cases hk:AQ P t with
   |none=>simp[hk]at d
   |some k=>
    obtain⟨b,j⟩:=Hd hk;obtain⟨i,hi,hc⟩:=Hc j;rw[hk]at d;cases k with
    |c c=>
     obtain⟨x,hx,m⟩:=d;refine⟨_,_,m,hx,fun w f=>?_⟩
     have hc:rX P t=false:=hc;simp only[Instr.loadAt,Instr.sureAddr,loadVar,Sem.run_bind,Sem.run_pure,Result.andThen_ok,b,hc];simp[wx f]
    |agg cs=>
     obtain⟨vs,e,g,m⟩:=uB cs 0 a h _ d;obtain⟨n,o⟩:rX P t=true∧i.size=cs.length:=hc;refine⟨_,_,m,g,fun w f=>?_⟩
     have j:(sizeOf t).run P w=.ok vs.length w:=by simp[sizeOf,cz hi,o,e]
     simp only[Instr.loadAt,Instr.sureAddr,loadVar,Sem.run_bind,Sem.run_pure,Result.andThen_ok,b,n];simp[j,BX f]
 |_=>exact d.elim
end Go.Lift
