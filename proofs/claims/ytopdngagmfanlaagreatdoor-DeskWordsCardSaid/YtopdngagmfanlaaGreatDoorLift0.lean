/- A part of the proof that the named laws of this program answer true, whatever the input. -/
import Derived.OrdersIn
import Derived.Below
import Derived.WalkKit
import Derived.RangeFuncRecord
import Derived.DefersIn
open BitVec renaming ofInt→aj
open Go.Instr renaming sureAddr→kr
open Go.Op renaming bytesLess→cA
open Go.Result renaming andThen_ok→ar
open Go.Sem renaming run→lW,run_bind→aH,run_pure→bd
open Iff renaming rfl→wa
open List renaming rec→eC,replicate→bw,length_cons→aV
open Nat renaming succ→eM,beq→ax,ble→vZ,min→cZ,blt→vY,land→iu,lor→cB,pred→vJ,eq_of_beq_eq_true→aL
open Option renaming some→aZ
namespace Go.Lift
abbrev ad:=Array Obj
def aE(h:ad)(a:Addr):Option Value:=
 match h[a.block]? with
 |some (.cells c _ _)=>if a.spot.isSome then none else c[a.off]?
 |_=>none
def Cj(h:ad)(a:Addr):Bool:=
 match h[a.block]? with
 |some (.cells _ _ (lo,hi))=>lo≤a.off&&a.off<hi
 |_=>false
def hset(h:ad)(a:Addr)(v:Value):ad:=
 h.modify a.block fun
  | .cells c elem frozen=>.cells (if a.spot.isSome then c else c.setIfInBounds a.off v) elem frozen
  |o=>o
noncomputable def adr(a:Addr)(n:Nat):Addr:=Nat.rec (motive:=fun _=>Addr) a (fun n _=>⟨a.block,a.off+eM n,none⟩) n
def Wr(h:ad)(a:Addr):Prop:=(∃v,aE h a=some v)∧Cj h a=false
structure Tame(w w':World):Prop where
 os:w'.os=w.os
 tape:w'.tape=w.tape
 output:w'.output=w.output
structure SliceV where
 a:Option Addr
 len:Nat
 cap:Nat
def Gu:IntKind→IntKind→Bool
 | .i8,.i8=>true| .i16,.i16=>true| .i32,.i32=>true| .i64,.i64=>true
 | .u8,.u8=>true| .u16,.u16=>true| .u32,.u32=>true| .u64,.u64=>true
 |_,_=>false
inductive CK where
 |int (k:IntKind)|bool|str|ptr|slice|map|chan|raw|adr
def CK.den:CK→Type
 | .int _=>Int| .bool=>Bool| .str=>ByteArray| .ptr=>Option Addr| .slice=>SliceV| .map=>Option Nat| .chan=>Option Nat| .raw=>Value| .adr=>Addr
def CK.enc:(c:CK)→c.den→Value
 | .int k,n=>.int k n
 | .bool,b=>.bool b
 | .str,s=>.string s
 | .ptr,p=>.pointer p
 | .slice,s=>.slice s.a s.len s.cap
 | .map,r=>.map r
 | .chan,r=>.chan r
 | .raw,v=>v
 | .adr,a=>.pointer (some a)
def CK.dec:(c:CK)→Value→(c.den→Prop)→Prop
 | .int k,.int k' n,f=>bif Gu k' k then f n else False
 | .bool,.bool b,f=>f b
 | .str,.string s,f=>f s
 | .ptr,.pointer p,f=>f p
 | .slice,.slice a l c,f=>f ⟨a,l,c⟩
 | .map,.map r,f=>f r
 | .chan,.chan r,f=>f r
 | .raw,v,f=>f v
 | .adr,.pointer (some a),f=>f a
 |_,_,_=>False
def PB:List CK→Type
 | []=>Unit
 | [c]=>c.den
 |c::d::cs=>c.den×PB (d::cs)
def Ph:(cs:List CK)→PB cs→List Value
 | [],_=> []
 | [c],x=> [c.enc x]
 |c::d::cs,(x,t)=>c.enc x::Ph (d::cs) t
def LO:(cs:List CK)→List Value→(PB cs→Prop)→Prop
 | [],[],f=>f ()
 | [c],[v],f=>c.dec v f
 |c::d::cs,v::u::vs,f=>c.dec v fun x=>LO (d::cs) (u::vs) fun t=>f (x,t)
 |_,_,_=>False
inductive Kind where
 |c (k:CK)
 |agg (cs:List CK)
def Kind.den:Kind→Type
 | .c k=>k.den
 | .agg cs=>PB cs
def Kind.enc:(k:Kind)→k.den→Value
 | .c k,x=>k.enc x
 | .agg cs,t=>.agg (Ph cs t).toArray
def Kind.dec:(k:Kind)→Value→(k.den→Prop)→Prop
 | .c k,v,f=>k.dec v f
 | .agg cs,.agg vs,f=>LO cs vs.toList f
 |_,_,_=>False
def rp:List Kind→Type
 | []=>Unit
 | [k]=>k.den
 |k::l::ks=>k.den×rp (l::ks)
def ki:(ks:List Kind)→rp ks→List Value
 | [],_=> []
 | [k],x=> [k.enc x]
 |k::l::ks,(x,t)=>k.enc x::ki (l::ks) t
def BP:(ks:List Kind)→List Value→(rp ks→Prop)→Prop
 | [],[],f=>f ()
 | [k],[v],f=>k.dec v f
 |k::l::ks,v::u::vs,f=>k.dec v fun x=>BP (l::ks) (u::vs) fun t=>f (x,t)
 |_,_,_=>False
def yh(ks:List Kind)(vs:List Value):Value:=
 match ks,vs with
 | [_],[v]=>v
 |_,vs=>.tuple vs.toArray
def RM:Value→Option CK
 | .int k _=>some (.int k)
 | .bool _=>some .bool
 | .string _=>some .str
 | .pointer _=>some .ptr
 | .slice .. =>some .slice
 | .map _=>some .map
 | .chan _=>some .chan
 | .nilFunc=>some .raw
 | .nilIface=>some .raw
 |_=>none
def Dv:List Value→Option (List CK)
 | []=>some []
 |v::vs=>match RM v,Dv vs with
  |some c,some cs=>some (c::cs)
  |_,_=>none
def tR(P:Program)(t:TypeId):Bool:=
 match P.underlying t with
 |some (.struct _)|some (.array _ _)=>true
 |_=>false
def bF(P:Program)(t:TypeId):Nat:=match P.info? t with|some i=>i.size|none=>0
def pv(P:Program)(t:TypeId):Nat:=match P.info? t with|some i=>i.bytes|none=>0
def wz(P:Program)(t:TypeId):Option Value:=match P.info? t with|some i=>i.zero|none=>none
def LA(P:Program)(t:TypeId):Option Kind:=
 match wz P t with
 |some (.agg vs)=>bif tR P t&&ax vs.toList.length (bF P t)then(match Dv vs.toList with|some cs=>some (.agg cs)|none=>none)else none
 |some v=>bif tR P t then none else(match RM v with|some c=>some (.c c)|none=>none)
 |none=>none
def C1(P:Program)(t:TypeId):Option Kind:=
 match P.underlying t with
 |none=>none
 |some _=>LA P t
structure HC(P:Program)(f:FuncId)(args:List Value)(ks:List Kind)(K:rp ks→ad→Prop)(h:ad):Prop where
 run:∀w:World,w.heap=h→
  ((callFunc f args.toArray).run P w=.ok (.enter f args.toArray) w∧
   Calls P f args.toArray w fun e w'=>Tame w w'∧∃t:rp ks,e=.returned (yh ks (ki ks t))∧K t w'.heap)∨
  (∃v w',(callFunc f args.toArray).run P w=.ok (.value v) w'∧Tame w w'∧∃t:rp ks,v=yh ks (ki ks t)∧K t w'.heap)
structure HE(P:Program)(f:FuncId)(args:List Value)(ks:List Kind)(K:rp ks→ad→Prop)(h:ad):Prop where
 run:∀w:World,w.heap=h→(∀(args:Array Value) (w:World),(callFunc f args).run P w=.ok (.enter f args) w)∧
  Calls P f args.toArray w fun e w'=>Tame w w'∧∃t:rp ks,e=.returned (yh ks (ki ks t))∧K t w'.heap
theorem HE.hc{P:Program}{f:FuncId}{args:List Value}{ks:List Kind}{K:rp ks→ad→Prop}{h:ad}(e:HE P f args ks K h):HC P f args ks K h:=
 ⟨fun w a=>.inl ⟨(e.run w a).1 _ w,(e.run w a).2⟩⟩
structure HY(P:Program)(l:Nat)(args:List Value)(K:Bool→ad→Prop)(h:ad):Prop where
 run:∀w:World,w.heap=h→∃fn tmps assign body,(Instr.yield l args.toArray).run P w=.ok (.round l fn tmps assign body) w∧
  ∀(c:Frame) (cs:List Frame),∃b w',Tame w w'∧K b w'.heap∧Steps P (lone (Frame.round l fn tmps assign body .normal) (c::cs) w) (lone (c.finish (.bool b)) cs w')
structure HV(P:Program)(fv:Value)(args:List Value)(ks:List Kind)(K:rp ks→ad→Prop)(h:ad):Prop where
 run:(∃f first cap,fv=.func (.func f) first cap∧HC P f (first.toList++args++cap.toList) ks K h)∨
  (∃l,fv=.func (.yield l) #[] #[]∧HY P l args (fun b h'=>BP ks [.bool b] fun t=>K t h') h)
noncomputable def CondP(b:Bool)(t e:Prop):Prop:=Bool.rec (motive:=fun _=>Prop) e t b
theorem CondP.yes{b:Bool}{t e:Prop}(h:CondP b t e)(a:b=true):t:=by subst a;exact h
theorem CondP.no{b:Bool}{t e:Prop}(h:CondP b t e)(a:b=false):e:=by subst a;exact h
theorem CondP.intro{b:Bool}{t e:Prop}(a:b=true→t)(c:b=false→e):CondP b t e:=by cases b;exact c rfl;exact a rfl
theorem ay{t e:Prop}:CondP true t e↔t:=wa
theorem ag{t e:Prop}:CondP false t e↔e:=wa
attribute [irreducible] CondP
def At(h:ad)(k:ad→Prop):Prop:=k h
def Bd{T:Type}(x:T)(k:T→Prop):Prop:=k x
structure Join{T:Type}(rest:T→ad→Prop)(k:(T→ad→Prop)→Prop):Prop where
 run:k rest
structure LoopP{T:Type}(F:(T→ad→Prop)→T→ad→Prop)(t:T)(h:ad):Prop where
 run:∀I:T→ad→Prop,(∀t h,F I t h→I t h)→I t h
abbrev cd:=List (Nat×Value)
noncomputable def ja(r:cd)(t:Nat):Option Value:=
 eC (motive:=fun _=>Option Value) none (fun a _ b=>bif ax a.1 t then some a.2 else b) r
theorem CN(k:Nat)(v:Value)(r:cd)(t:Nat):ja ((k,v)::r) t=bif ax k t then some v else ja r t:=rfl
noncomputable def cJ(r:cd):Operand→Option Value
 | .tmp t=>ja r t
 | .const v=>some v
 | .global g=>some (.pointer (some ⟨g,0,none⟩))
 | .func f=>some (.func (.func f) #[] #[])
noncomputable def l7(r:cd):List Operand→Option (List Value)
 | []=>some []
 |o::os=>match cJ r o,l7 r os with
  |some v,some vs=>some (v::vs)
  |_,_=>none
noncomputable def GC:List CK→Nat→Addr→ad→(List Value→Prop)→Prop
 | [],_,_,_,k=>k []
 |c::cs,i,a,h,k=>∃x:c.den,aE h (adr a i)=some (c.enc x)∧GC cs (i+1) a h fun vs=>k (c.enc x::vs)
noncomputable def rm:List Value→Nat→Addr→ad→Prop
 | [],_,_,_=>True
 | [v],i,a,h=>aE h (adr a i)=some v
 |v::u::vs,i,a,h=>aE h (adr a i)=some v∧rm (u::vs) (i+1) a h
abbrev RK:=Value→Option (ad→Prop)→Prop
noncomputable def HI(P:Program)(t:TypeId)(v:Value)(K:RK)(h:ad):Prop:=
 match v with
 | .pointer (some a)=>
  match C1 P t with
  |some (.c c)=>∃x:c.den,aE h a=some (c.enc x)∧K (c.enc x) (some fun h'=>aE h' a=some (c.enc x))
  |some (.agg cs)=>GC cs 0 a h fun vs=>K (.agg vs.toArray) (some fun h'=>rm vs 0 a h')
  |none=>False
 |_=>False
def uW(P:Program)(t:TypeId)(f:Nat):Option (TypeId×Nat):=
 match P.underlying t with
 |some (.struct fs)=>match fs.toList[f]? with
  |some g=>some (g.type,g.offset)
  |none=>none
 |_=>none
def ue(P:Program)(t:TypeId):Option TypeId:=
 match P.underlying t with
 |some (.slice e)=>some e
 |_=>none
def Jy(c:BinOp)(k:IntKind)(a b:Int)(K:RK):Prop:=
 match c with
 | .shl=>0≤b∧K (.int k (k.wrap (a*2^(min b.toNat k.bits)))) none
 | .shr=>0≤b∧K (.int k (a.fdiv (2^(min b.toNat k.bits)))) none
 |_=>False
def Rz(c:BinOp)(k:IntKind)(a b:Int)(K:RK):Prop:=
 match c with
 | .add=>K (.int k (k.wrap (a+b))) none
 | .sub=>K (.int k (k.wrap (a-b))) none
 | .mul=>K (.int k (k.wrap (a*b))) none
 | .quo=>b≠0∧K (.int k (k.wrap (a.tdiv b))) none
 | .rem=>b≠0∧K (.int k (a.tmod b)) none
 | .and=>K (.int k (k.wrap (aj k.bits a&&&aj k.bits b).toNat)) none
 | .or=>K (.int k (k.wrap (aj k.bits a|||aj k.bits b).toNat)) none
 | .xor=>K (.int k (k.wrap (aj k.bits a^^^aj k.bits b).toNat)) none
 | .andNot=>K (.int k (k.wrap (aj k.bits a&&& ~~~aj k.bits b).toNat)) none
 | .eql=>K (.bool (a==b)) none
 | .neq=>K (.bool (a !=b)) none
 | .lss=>K (.bool (decide (a<b))) none
 | .leq=>K (.bool (decide (a≤b))) none
 | .gtr=>K (.bool (decide (a>b))) none
 | .geq=>K (.bool (decide (a≥b))) none
 |_=>False
def Ri(c:BinOp)(a b:ByteArray)(K:RK):Prop:=
 match c with
 | .add=>((a.size+b.size:Nat):Int)≤9223372036854775807∧K (.string (a++b)) none
 | .eql=>K (.bool (a.toList==b.toList)) none
 | .neq=>K (.bool (!(a.toList==b.toList))) none
 | .lss=>K (.bool (cA a.toList b.toList)) none
 | .leq=>K (.bool (cA a.toList b.toList||a.toList==b.toList)) none
 | .gtr=>K (.bool (!(cA a.toList b.toList||a.toList==b.toList))) none
 | .geq=>K (.bool (!(cA a.toList b.toList))) none
 |_=>False
def f0(h:ad)(a:Addr):Prop:=(∃c e,h[a.block]? =some (.cells c e (0,0))∧0<c.size)
def Ry:Value→Bool
 | .func _ _ _=>true
 | .nilFunc=>true
 |_=>false
def Rv:Value→Bool
 | .nilFunc=>true
 |_=>false
def Qm:Value→Bool
 | .iface _ _=>true
 | .nilIface=>true
 |_=>false
def Mv:Value→Bool
 | .nilIface=>true
 |_=>false
def Qd(P:Program)(t:TypeId)(neg:Bool)(x y:Value)(K:RK):Prop:=
 match P.underlying t,x,y with
 |some (.pointer _),.pointer a,.pointer none=>K (.bool (bif neg then !a.isNone else a.isNone)) none
 |some (.map _ _),.map a,.map none=>K (.bool (bif neg then !a.isNone else a.isNone)) none
 |some (.slice _),.slice a _ _,.slice none _ _=>K (.bool (bif neg then !a.isNone else a.isNone)) none
 |some (.func _ _ _),x,.nilFunc=>Ry x=true∧K (.bool (bif neg then !(Rv x)else Rv x)) none
 |some (.interface _),x,.nilIface=>Qm x=true∧K (.bool (bif neg then !(Mv x)else Mv x)) none
 |_,_,_=>False
def OG:Operand→Bool
 | .const (.pointer none)=>true
 | .const (.map none)=>true
 | .const (.slice none 0 0)=>true
 | .const .nilFunc=>true
 | .const .nilIface=>true
 |_=>false
def S6(P:Program)(t:TypeId)(neg:Bool)(x y:Value)(K:RK)(h:ad):Prop:=
 match P.underlying t,x,y with
 |some .bool,.bool a,.bool b=>K (.bool (bif neg then !(a==b)else a==b)) none
 |some (.pointer e),.pointer a,.pointer b=>
  (bif ax (bF P e) 0 then False else True)∧
  (∀x y,a=some x→b=some y→f0 h x∧f0 h y)∧
  K (.bool (bif neg then !(a==b)else a==b)) (some fun h'=>∀x y,a=some x→b=some y→f0 h' x∧f0 h' y)
 |_,_,_=>False
def P8(P:Program)(c:BinOp)(t:TypeId)(x y:Value)(K:RK)(h:ad):Prop:=
 match x,y with
 | .int k a,.int k' b=>
  match c with
  | .shl=>Jy .shl k a b K
  | .shr=>Jy .shr k a b K
  |c=>bif Gu k' k then Rz c k a b K else False
 | .string a,.string b=>Ri c a b K
 |x,y=>match c with
  | .eql=>S6 P t false x y K h
  | .neq=>S6 P t true x y K h
  |_=>False
def qj(h:ad):List (Option Addr×Option Addr)→Prop
 | []=>True
 |(a,b)::l=>(∀x y,a=some x→b=some y→f0 h x∧f0 h y)∧qj h l
def OZ(P:Program)(t:TypeId)(x y:Value):Option (Bool×List (Option Addr×Option Addr)):=
 match P.underlying t,x,y with
 |some (.int _),.int k a,.int k' b=>bif Gu k' k then some (a==b,[])else none
 |some .bool,.bool a,.bool b=>some (a==b,[])
 |some .string,.string a,.string b=>some (a.toList==b.toList,[])
 |some (.pointer e),.pointer a,.pointer b=>bif ax (bF P e) 0 then none else some (a==b,[(a,b)])
 |_,_,_=>none
def Qz(P:Program)(rec:TypeId→List Value→List Value→Option (Bool×List (Option Addr×Option Addr)))(xs ys:List Value):List Field→Option (Bool×List (Option Addr×Option Addr))
 | []=>some (true,[])
 |f::fs=>
  if f.name= "_" then none else
  bif (P.underlying f.type).isSome&&(P.info? f.type).isSome then
   match(bif tR P f.type then rec f.type ((xs.drop f.offset).take (bF P f.type)) ((ys.drop f.offset).take (bF P f.type))
    else match xs[f.offset]?,ys[f.offset]? with|some x,some y=>OZ P f.type x y|_,_=>none),Qz P rec xs ys fs with
   |some (b,l),some (c,m)=>some (b&&c,l++m)
   |_,_=>none
  else none
def O0(P:Program):Nat→TypeId→List Value→List Value→Option (Bool×List (Option Addr×Option Addr))
 |0,_,_,_=>none
 |d+1,t,xs,ys=>match P.underlying t with
  |some (.struct fs)=>bif P.stoodInHeld t then none else Qz P (O0 P d) xs ys fs.toList
  |_=>none
def TM(neg b:Bool)(K:RK)(h:ad):List (Option Addr×Option Addr)→Prop
 | []=>K (.bool (bif neg then !b else b)) none
 |p::l=>qj h (p::l)∧K (.bool (bif neg then !b else b)) (some fun h'=>qj h' (p::l))
def Rq(P:Program)(a:BinOp)(t:TypeId)(xs ys:List Value)(K:RK)(h:ad):Prop:=
 bif P.eqGuardType P.depth t then False else
 match a with
 | .eql=>(match O0 P 10 t xs ys with|some (b,l)=>TM false b K h l|none=>False)
 | .neq=>(match O0 P 10 t xs ys with|some (b,l)=>TM true b K h l|none=>False)
 |_=>False
def Tm(a:UnOp)(x:Value)(K:RK):Prop:=
 match a,x with
 | .neg,.int k n=>K (.int k (k.wrap (0-n))) none
 | .xor,.int k n=>K (.int k (k.wrap (aj k.bits (if k.signed then-1 else k.max)^^^aj k.bits n).toNat)) none
 | .not,.bool b=>K (.bool (!b)) none
 |_,_=>False
def cj(s:ByteArray):List Value:=s.data.toList.map fun b=>.int .u8 b.toNat
noncomputable def Row(h:ad)(a:Addr)(vs:List Value):Prop:=∀i v,vs[i]? =some v→aE h (adr a i)=some v
noncomputable def SRow(h:ad)(a:Option Addr)(n:Nat)(vs:List Value):Prop:=vs.length=n∧(vs= []∨∃b,a=some b∧Row h b vs)
def Kh(P:Program)(e:TypeId):Bool:=match P.underlying e with|some (.int .u8)=>true|_=>false
def Rx(P:Program)(s d:TypeId):Bool:=
 match P.underlying s,P.underlying d with
 |some .string,some (.slice e)=>Kh P e
 |_,_=>false
def S8(e:TypeId)(s:ByteArray)(h:ad)(K:Nat→ad→Prop):Prop:=
 ∀c,s.size≤c→K c (h.push (.cells (cj s++bw (c-s.size) (Value.int .u8 0)).toArray e (c,c+1)))
noncomputable def Oi(P:Program)(b c:TypeId)(x:Value)(K:RK)(h:ad):Prop:=
 match P.underlying b,P.underlying c,x with
 |some (.int _),some (.int k),.int _ n=>K (.int k (k.wrap n)) none
 |some .string,some .string,.string s=>K (.string s) none
 |some (.slice e),some .string,.slice a n _=>bif Kh P e then∃s:ByteArray,SRow h a n (cj s)∧K (.string s) (some fun h'=>SRow h' a n (cj s))else False
 |_,_,_=>False
def Pm(v:Option Value)(d y:Nat)(K:Nat→Prop):Prop:=
 match v with
 |none=>K d
 |some (.int _ i)=>(0≤i∧i≤y)∧K i.toNat
 |_=>False
noncomputable def aM(a:Option Addr)(l m size:Nat):Option Addr:=if m=l then a else a.map (adr · (l*size))
def Ow(P:Program)(t:TypeId)(K:Prop):Prop:=match P.info? t with|some _=>K|none=>False
noncomputable def JM(P:Program)(t:TypeId)(x:Value)(lo hi b:Option Value)(K:RK):Prop:=
 match P.underlying t,x with
 |some .string,.string s=>match b with
  |some _=>False
  |none=>Pm hi s.size s.size fun h=>Pm lo 0 h fun l=>K (.string (s.extract l h)) none
 |some (.slice e),.slice a len cap=>Ow P e (
  match b with
  |none=>Pm hi len cap fun h=>Pm lo 0 h fun l=>K (.slice (aM a l cap (bF P e)) (h-l) (cap-l)) none
  |some m=>match hi with
   |none=>False
   |some hi=>Pm (some m) 0 cap fun m=>Pm (some hi) 0 m fun h=>Pm lo 0 h fun l=>K (.slice (aM a l m (bF P e)) (h-l) (m-l)) none)
 |some (.array n e),.pointer (some a)=>Ow P e (
  match b with
  |none=>Pm hi n n fun h=>Pm lo 0 h fun l=>K (.slice (aM (some a) l n (bF P e)) (h-l) (n-l)) none
  |some _=>False)
 |_,_=>False
noncomputable def E3(r:cd):Option Operand→Option (Option Value)
 |none=>some none
 |some o=>match cJ r o with
  |some v=>some (some v)
  |none=>none
noncomputable def xh(P:Program)(t:TypeId)(x i:Value)(K:RK):Prop:=
 match P.underlying t,x,i with
 |some (.array n e),.pointer (some a),.int _ i=>Ow P e ((0≤i∧i<n)∧K (.pointer (some (adr a (i.toNat*bF P e)))) none)
 |some (.slice e),.slice b len _,.int _ i=>Ow P e ((0≤i∧i<len)∧∃a,b=some a∧K (.pointer (some (adr a (i.toNat*bF P e)))) none)
 |_,_,_=>False
def JP(P:Program)(t:TypeId)(x i:Value)(K:RK):Prop:=
 match P.underlying t,x,i with
 |some .string,.string s,.int _ i=>∃b:UInt8,0≤i∧s[i.toNat]? =some b∧K (.int .u8 b.toNat) none
 |_,_,_=>False
noncomputable def JQ(P:Program)(t:TypeId)(x:Value)(f:Nat)(K:RK):Prop:=
 match uW P t f,x with
 |some (u,off),.agg cs=>bif (P.underlying u).isSome&&(P.info? u).isSome then(bif tR P u then K (.agg ((cs.toList.drop off).take (bF P u)).toArray) none
  else(match cs.toList[off]? with|some v=>K v none|none=>False))else False
 |_,_=>False
def QU(c a b:Value)(K:RK):Prop:=
 match c with
 | .bool c=>(match a,b with
  | .bool x,.bool y=>K (.bool (bif c then x else y)) none
  |_,_=>(match c with|true=>K a none|false=>K b none))
 |_=>False
def eT:Value→Value→Bool
 | .int _ a,.int _ b=>a==b
 | .string a,.string b=>a==b
 | .bool a,.bool b=>a==b
 |_,_=>false
def Dc(k:Value):List MapEntry→Option Value
 | []=>none
 |e::es=>if eT k e.key then some e.val else Dc k es
def keysOf(c:CK)(es:List MapEntry):Prop:=∀e∈es,∃x:c.den,e.key=c.enc x
def tS(c:CK)(z:Value)(h:ad)(m:Option Nat)(k v:Value)(a:Bool):Prop:=
 match m with
 |none=>v=z∧a=false
 |some r=>∃es clock,h[r]? =some (.map es clock)∧keysOf c es.toList∧
  (match Dc k es.toList with|some u=>v=u∧a=true|none=>v=z∧a=false)
def H7(P:Program)(t:TypeId):Option (CK×TypeId):=
 match P.underlying t with
 |some (.map k e)=>match P.underlying k with
  |some (.int i)=>some (.int i,e)
  |some .string=>some (.str,e)
  |some .bool=>some (.bool,e)
  |_=>none
 |_=>none
def F7(P:Program)(t:TypeId)(x k:Value)(a:Bool)(K:RK)(h:ad):Prop:=
 match H7 P t,x with
 |some (c,e),.map m=>c.dec k fun _=>
  (match C1 P e,wz P e with
   |some ek,some z=>∃(y:ek.den) (b:Bool),tS c z h m k (ek.enc y) b∧
    K (bif a then .tuple #[ek.enc y,.bool b]else ek.enc y) (some fun h'=>tS c z h' m k (ek.enc y) b)
   |_,_=>False)
 |_,_=>False
def DH(h:ad)(m:Option Nat)(n:Nat):Prop:=
 match m with
 |none=>n=0
 |some r=>∃es clock,h[r]? =some (.map es clock)∧n=es.size
def LX(c:Bool)(h:ad)(m:Option Nat)(n:Nat):Prop:=
 match m with
 |none=>n=0
 |some r=>∃cap buf cl s q,h[r]? =some (.chan cap buf cl s q false)∧n=bif c then cap else buf.size
def Ro(P:Program)(t:TypeId)(x:Value)(K:RK)(h:ad):Prop:=
 match P.underlying t,x with
 |some .string,.string s=>K (.int .i64 s.size) none
 |some (.array n _),_=>K (.int .i64 n) none
 |some (.slice _),.slice _ n _=>K (.int .i64 n) none
 |some (.map _ _),.map m=>∃n:Nat,DH h m n∧K (.int .i64 n) (some fun h'=>DH h' m n)
 |some (.chan _ _),.chan m=>∃n:Nat,LX false h m n∧K (.int .i64 n) (some fun h'=>LX false h' m n)
 |_,_=>False
def Rp(P:Program)(t:TypeId)(x:Value)(K:RK)(h:ad):Prop:=
 match P.underlying t,x with
 |some (.slice _),.slice _ _ n=>K (.int .i64 n) none
 |some (.chan _ _),.chan m=>∃n:Nat,LX true h m n∧K (.int .i64 n) (some fun h'=>LX true h' m n)
 |_,_=>False
def Gp(c:Bool)(k:IntKind):Int→List Value→(Value→Prop)→Prop
 |a,[],f=>f (.int k a)
 |a,.int k' b::vs,f=>bif Gu k' k then Gp c k (bif c then(if b>a then b else a)else(if b<a then b else a)) vs f else False
 |_,_,_=>False
def Cc(b:Bool)(vs:List Value)(f:Value→Prop):Prop:=
 match vs with
 | .int k a::vs=>Gp b k a vs f
 |_=>False
def KU(h:ad)(i:Nat)(e:MapEntry):Prop:=
 ∃m since seen last stamp es,h[i]? =some (.mapIter (some m) since seen last)∧seen.back? =some stamp∧h[m]? =some (.map es last)∧es.find? (fun e=>e.born==stamp)=some e
def oH(P:Program)(t:TypeId):Bool:=match P.underlying t with|some (.interface _)=>false|some _=>true|none=>false
def Lr(P:Program)(t:TypeId)(x:Value)(K:RK):Prop:=
 bif oH P t then(match C1 P t with
  |some k=>∃y:k.den,x=.iface t (k.enc y)∧K (k.enc y) none
  |none=>False)else False
def HN(cs:List Value)(off:Nat)(vs:List Value):List Value:=cs.take off++vs++cs.drop (off+vs.length)
def Bi(a:Nat→Option (Nat×Nat)):List Value→List (Nat×Value)→Option (List Value)
 |cs,[]=>some cs
 |cs,(i,v)::rest=>match a i with
  |none=>none
  |some (off,size)=>bif ax v.cells.toList.length size&&vZ (off+v.cells.toList.length) cs.length then Bi a (HN cs off v.cells.toList) rest else none
noncomputable def oG(r:cd):List (Nat×Operand)→Option (List (Nat×Value))
 | []=>some []
 |(i,o)::ps=>match cJ r o,oG r ps with
  |some v,some vs=>some ((i,v)::vs)
  |_,_=>none
def pi(P:Program)(t:TypeId):Option (List Value):=match wz P t with|some z=>some z.cells.toList|none=>none
def cL(n:Nat)(z:List Value):List Value:=(bw n z).flatten
def vS(P:Program)(t:TypeId):Bool:=match P.info? t with|some _=>true|none=>false
def yN(P:Program):List Field→Bool
 | []=>true
 |f::fs=>bif vS P f.type then yN P fs else false
def JV(P:Program)(a:List Field)(i:Nat):Option (Nat×Nat):=match a[i]? with|some f=>some (f.offset,bF P f.type)|none=>none
def GL(P:Program)(t:TypeId)(a:List (Nat×Value)):Option (List Value):=
 match P.underlying t,pi P t with
 |some (.struct fs),some z=>bif yN P fs.toList then Bi (JV P fs.toList) z a else none
 |some (.array _ e),some z=>bif vS P e then Bi (fun i=>some (i*bF P e,bF P e)) z a else none
 |_,_=>none
def JN(v:Value)(K:RK):Prop:=
 match v with
 | .slice a _ c=>(a=none∨c≠0)∧K (.pointer a) none
 |_=>False
noncomputable def zR(P:Program)(ek:Option (Kind×Kind))(o:Op)(r:cd)(K:RK)(h:ad):Prop:=
 match o with
 | .entry it=>match cJ r it,ek with
  |some (.pointer (some a)),some (kk,vk)=>a.off=0∧∃(e:MapEntry) (x:kk.den) (y:vk.den),KU h a.block e∧e.key=kk.enc x∧e.val=vk.enc y∧
    K (.tuple #[kk.enc x,vk.enc y]) (some fun h'=>KU h' a.block e)
  |_,_=>False
 | .move x| .assign x=>match cJ r x with|some v=>K v none|none=>False
 | .load t a=>match cJ r a with|some v=>HI P t v K h|none=>False
 | .nilCheck x=>match cJ r x with|some (.pointer p)=>∃a,p=some a∧K (.pointer (some a)) none|_=>False
 | .binOp op t x y _=>match OG y,cJ r x,cJ r y with
  |true,some v,some u=>(match op with
   | .eql=>Qd P t false v u K
   | .neq=>Qd P t true v u K
   |op=>P8 P op t v u K h)
  |false,some (.agg v),some (.agg u)=>Rq P op t v.toList u.toList K h
  |false,some v,some u=>P8 P op t v u K h
  |_,_,_=>False
 | .unOp op _ x=>match cJ r x with|some v=>Tm op v K|none=>False
 | .convert s d x=>match cJ r x with|some v=>Oi P s d v K h|none=>False
 | .pick c a b=>match cJ r c,cJ r a,cJ r b with|some c,some a,some b=>QU c a b K|_,_,_=>False
 | .extract x i=>match cJ r x with
  |some (.tuple vs)=>(match vs.toList[i]? with|some v=>K v none|none=>False)
  |_=>False
 | .fieldAddr t x f=>match cJ r x,uW P t f with
  |some (.pointer (some a)),some (u,off)=>bif ax (bF P u) 0 then False else K (.pointer (some (adr a off))) none
  |_,_=>False
 | .field t x f=>match cJ r x with|some v=>JQ P t v f K|none=>False
 | .indexAddr t x i=>match cJ r x,cJ r i with|some v,some u=>xh P t v u K|_,_=>False
 | .index t x i=>match cJ r x,cJ r i with|some v,some u=>JP P t v u K|_,_=>False
 | .slice t x lo hi mx=>match cJ r x,E3 r lo,E3 r hi,E3 r mx with
  |some v,some l,some h',some m=>JM P t v l h' m K
  |_,_,_,_=>False
 | .lookup t x k ok=>match cJ r x,cJ r k with|some v,some u=>F7 P t v u ok K h|_,_=>False
 | .makeInterface t x=>match cJ r x with|some v=>bif oH P t then K (.iface t v) none else False|none=>False
 | .typeAssert x _ t ok=>match cJ r x with|some v=>bif ok then False else Lr P t v K|none=>False
 | .build t ps=>match oG r ps.toList with
  |some vs=>(match GL P t vs with|some cs=>K (.agg cs.toArray) none|none=>False)
  |none=>False
 | .makeFunc fn first cap=>match l7 r first.toList,l7 r cap.toList with
  |some vs,some us=>K (.func fn vs.toArray us.toArray) none
  |_,_=>False
 | .call c=>match c.callee,l7 r c.args.toList,c.argTypes.toList with
  | .builtin .len,some [v],[t]=>Ro P t v K h
  | .builtin .cap,some [v],[t]=>Rp P t v K h
  | .builtin .min,some vs,_=>Cc false vs fun v=>K v none
  | .builtin .max,some vs,_=>Cc true vs fun v=>K v none
  | .builtin .unsafeSliceData,some [v],_=>JN v K
  |_,_,_=>False
 |_=>False
abbrev WK:=Value→ad→Prop
def aR(h:ad):Addr:=⟨h.size,0,none⟩
def hnew(h:ad)(cs:List Value)(t:TypeId):ad:=h.push (.cells cs.toArray t (0,0))
def bM:List Value→Bool
 | []=>true
 |v::vs=>(match v with| .agg _=>false| .tuple _=>false|_=>true)&&bM vs
noncomputable def ia(h:ad)(a:Addr):Nat→List Value→ad
 |_,[]=>h
 |i,v::vs=>ia (hset h (adr a i) v) a (i+1) vs
noncomputable def ez(h:ad)(a:Option Addr)(i:Nat)(vs:List Value):ad:=match a with|some a=>ia h a i vs|none=>h
noncomputable def sq(h:ad)(a:Option Addr)(i:Nat)(vs:List Value):Prop:=vs= []∨∃b,a=some b∧∀j,j<vs.length→Wr h (adr b (i+j))
noncomputable def Jk(P:Program)(t:TypeId)(a v:Value)(K:WK)(h:ad):Prop:=
 match a with
 | .pointer (some a)=>bif ax v.cells.toList.length (bF P t)&&bM v.cells.toList then Ow P t
   (match v.cells.toList with
    | [v]=>Wr h a∧K undef (hset h a v)
    |vs=>sq h (some a) 0 vs∧K undef (ia h a 0 vs))
  else False
 |_=>False
noncomputable def Pt(P:Program)(e:TypeId)(a:Option Addr)(sl c b:Nat)(xs:List Value)(K:WK)(h:ad):Prop:=
 (sl+b≤c→sq h a (sl*bF P e) xs∧bM xs=true∧K (.slice a (sl+b) c) (ez h a (sl*bF P e) xs))∧
 (c<sl+b→∃old z,SRow h a (sl*bF P e) old∧pi P e=some z∧0<pv P e∧Builtin.nextslicecap (sl+b) c*pv P e≤2^48∧
  ∀nc,sl+b≤nc→K (.slice (some (aR h)) (sl+b) nc) (hnew h (old++xs++cL (nc-(sl+b)) z) e))
noncomputable def B5(P:Program)(t:TypeId)(s x:Value)(K:WK)(h:ad):Prop:=
 match ue P t,s,x with
 |some e,.slice b sl sc,.slice a xl _=>Ow P e (∃xs,SRow h a (xl*bF P e) xs∧Pt P e b sl sc xl xs K h)
 |some e,.slice b sl sc,.string x=>bif ax (bF P e) 1 then Pt P e b sl sc x.size (cj x) K h else False
 |_,_,_=>False
noncomputable def Ct(P:Program)(t:TypeId)(s x:Value)(K:WK)(h:ad):Prop:=
 match ue P t,s,x with
 |some e,.slice b sl sc,.int _ l=>(match pi P e with
  |some z=>bif ax z.length (bF P e)then(0≤l∧l*pv P e≤2^48∧l≤9223372036854775807∧((sl+l.toNat:Nat):Int)≤9223372036854775807)∧Pt P e b sl sc l.toNat (cL l.toNat z) K h else False
  |none=>False)
 |_,_,_=>False
noncomputable def Jm(P:Program)(t:TypeId)(x:Value)(K:WK)(h:ad):Prop:=
 match ue P t,x with
 |some e,.slice a n _=>(match pi P e with
  |some z=>bif bM z then sq h a 0 (cL n z)∧K (.tuple #[]) (ez h a 0 (cL n z))else False
  |none=>False)
 |_,_=>False
noncomputable def ND(P:Program)(t:TypeId)(d s:Value)(K:WK)(h:ad):Prop:=
 match ue P t,d,s with
 |some e,.slice b dl _,.slice a sl _=>Ow P e (∃xs,SRow h a (cZ sl dl*bF P e) xs∧sq h b 0 xs∧bM xs=true∧K (.int .i64 (cZ sl dl)) (ez h b 0 xs))
 |some e,.slice b dl _,.string x=>bif ax (bF P e) 1 then sq h b 0 ((cj x).take dl)∧K (.int .i64 (cZ x.size dl)) (ez h b 0 ((cj x).take dl))else False
 |_,_,_=>False
def Gb(k v:Value)(a:Nat):List MapEntry→List MapEntry×Nat
 | []=>([{key:=k,val:=v,born:=a}],a+1)
 |e::es=>if eT k e.key then({e with key:=k,val:=v}::es,a)else let r:=Gb k v a es;(e::r.1,r.2)
def Dn(k:Value):List MapEntry→List MapEntry
 | []=> []
 |e::es=>if eT k e.key then es else e::Dn k es
def vr(c:CK)(h:ad)(r:Nat):Prop:=∃es clock,h[r]? =some (.map es clock)∧keysOf c es.toList
def kJ(h:ad)(r:Nat)(k v:Value):ad:=
 match h[r]? with
 |some (.map es clock)=>h.setIfInBounds r (.map (Gb k v clock es.toList).1.toArray (Gb k v clock es.toList).2)
 |_=>h
def CV(h:ad)(r:Nat)(k:Value):ad:=
 match h[r]? with
 |some (.map es clock)=>h.setIfInBounds r (.map (Dn k es.toList).toArray clock)
 |_=>h
def B4(P:Program)(t:TypeId)(m k v:Value)(K:WK)(h:ad):Prop:=
 match H7 P t,m with
 |some (c,_),.map m=>c.dec k fun _=>∃r,m=some r∧vr c h r∧K undef (kJ h r k v)
 |_,_=>False
def Cr(P:Program)(t:TypeId)(m k:Value)(K:WK)(h:ad):Prop:=
 match H7 P t,m with
 |some (c,_),.map m=>c.dec k fun _=>(m=none∧K (.tuple #[]) h)∨(∃r,m=some r∧vr c h r∧K (.tuple #[]) (CV h r k))
 |_,_=>False
def Of(P:Program):List TypeId→Option (List Kind)
 | []=>some []
 |t::ts=>match C1 P t,Of P ts with
  |some k,some ks=>some (k::ks)
  |_,_=>none
def Og(P:Program)(t:TypeId):Option (List Kind):=
 match P.underlying t with
 |some (.tuple ts)=>Of P ts.toList
 |_=>Of P [t]
noncomputable def QN(P:Program)(f:Operand)(r:cd)(args:List Value)(t:TypeId)(K:WK)(h:ad):Prop:=
 match Og P t with
 |none=>False
 |some ks=>match f with
  | .func f=>HC P f args ks (fun x h'=>K (yh ks (ki ks x)) h') h
  |f=>match cJ r f with
   |some fv=>HV P fv args ks (fun x h'=>K (yh ks (ki ks x)) h') h
   |none=>False
def NC(b:Value)(K:WK)(h:ad):Prop:=
 match b with
 | .pointer (some a)=>a.off=0∧
  ∃m since seen last,h[a.block]? =some (.mapIter m since seen last)∧
   ((m=none∧K (.tuple #[.bool false]) h)∨
    (∃r es clock,m=some r∧h[r]? =some (.map es clock)∧(seen.isEmpty=true∨es.isEmpty=true∨es.all (fun e=>decide (e.born≥last))=false)∧
     ((∀e∈es.toList,e.born<since→seen.contains e.born=true)→K (.tuple #[.bool false]) h)∧
     (∀e∈es.toList,seen.contains e.born=false→K (.tuple #[.bool true,e.key,e.val]) (h.setIfInBounds a.block (.mapIter (some r) since (seen.push e.born) clock)))))
 |_=>False
def Jl(c:Value)(K:WK)(h:ad):Prop:=
 match c with
 | .pointer (some a)=>a.off=0∧∃s pos,h[a.block]? =some (.stringIter s pos)∧
  ((s.size≤pos∧K (.tuple #[.bool false]) h)∨
   (∃b:UInt8,s[pos]? =some b∧b.toNat<128∧K (.tuple #[.bool true,.int .i64 pos,.int .i32 b.toNat]) (h.setIfInBounds a.block (.stringIter s (pos+1)))))
 |_=>False
def hfreeze(h:ad)(g n:Nat):ad:=
 h.modify g fun
  | .cells c elem (lo,hi)=>.cells c elem (if lo==hi then(0,0+n)else(min lo 0,max hi (0+n)))
  |o=>o
def Q1(e:TypeId)(a:Option Addr)(n:Int)(h:ad)(K:ByteArray→ad→Prop):Prop:=
 (n=0∧K ⟨#[]⟩ h)∨∃(l:List UInt8) (g:Nat) (cs:Array Value),a=some ⟨g,0,none⟩∧n=l.length∧l≠[]∧l.length≤9223372036854775807∧h[g]? =some (.cells cs e (0,0))∧l.length≤cs.size∧
  (∀(j:Nat) (x:UInt8),l[j]? =some x→cs[j]? =some (.int .u8 x.toNat))∧K ⟨l.toArray⟩ (hfreeze h g l.length)
def NB(P:Program)(t:TypeId)(p n:Value)(K:WK)(h:ad):Prop:=
 match P.underlying t,p,n with
 |some (.pointer e),.pointer a,.int .i64 n=>bif ax (P.cellsOf e) 1 then Q1 e a n h (fun s h'=>K (.string s) h')else False
 |_,_,_=>False
noncomputable def D3(P:Program)(o:Oper)(r:cd)(K:WK)(h:ad):Prop:=
 match o.op with
 | .alloc t=>(match pi P t with|some z=>K (.pointer (some (aR h))) (hnew h z t)|none=>False)
 | .box t x=>(match cJ r x with|some v=>K (.pointer (some (aR h))) (hnew h v.cells.toList t)|none=>False)
 | .build t ps=>(match oG r ps.toList with
  |some vs=>(match GL P t vs with|some cs=>K (.agg cs.toArray) h|none=>False)
  |none=>False)
 | .buildSlice t n ps=>(match ue P t,oG r ps.toList with
  |some e,some vs=>(match pi P e with
   |some z=>bif vZ (n*bF P e) 16777216&&ax z.length (bF P e)then
     (match Bi (fun i=>some (i*bF P e,bF P e)) (cL n z) vs with|some cs=>K (.slice (some (aR h)) n n) (hnew h cs e)|none=>False)
    else False
   |none=>False)
  |_,_=>False)
 | .store t a x=>(match cJ r a,cJ r x with|some a,some v=>Jk P t a v K h|_,_=>False)
 | .mapUpdate t m k x=>(match cJ r m,cJ r k,cJ r x with|some m,some k,some v=>B4 P t m k v K h|_,_,_=>False)
 | .insert t m k x=>(match cJ r m,cJ r k,cJ r x with|some m,some k,some v=>B4 P t m k v K h|_,_,_=>False)
 | .makeMap t n=>(match n with
  |none=>K (.map (some h.size)) (h.push (.map #[] 0))
  |some n=>(match cJ r n,P.underlying t with|some (.int _ _),some (.map _ _)=>K (.map (some h.size)) (h.push (.map #[] 0))|_,_=>False))
 | .makeSlice t l c=>(match ue P t,cJ r l,cJ r c with
  |some e,some (.int _ l),some (.int _ c)=>(match pi P e with
   |some z=>bif ax z.length (bF P e)then(0≤l∧l≤c∧c≤9223372036854775807∧pv P e*c≤2^48)∧K (.slice (some (aR h)) l.toNat c.toNat) (hnew h (cL c.toNat z) e)else False
   |none=>False)
  |_,_,_=>False)
 | .convert s d x=>(match P.underlying s,P.underlying d,cJ r x with
  |some .string,some (.slice e),some (.string v)=>bif Kh P e then S8 e v h (fun c h'=>K (.slice (some (aR h)) v.size c) h')else False
  |_,_,_=>False)
 | .range t x=>(match P.underlying t,cJ r x with
  |some (.map _ _),some (.map m)=>∃clock,(m=none∧clock=0∨∃r es,m=some r∧h[r]? =some (.map es clock))∧K (.pointer (some (aR h))) (h.push (.mapIter m clock #[] clock))
  |some .string,some (.string s)=>K (.pointer (some (aR h))) (h.push (.stringIter s 0))
  |_,_=>False)
 | .next it false=>(match cJ r it with|some it=>NC it K h|none=>False)
 | .next it true=>(match cJ r it with|some it=>Jl it K h|none=>False)
 | .call c=>(match c.callee,l7 r c.args.toList with
  | .builtin .append,some [s,x]=>(match c.argTypes.toList with| [t,u]=>(match P.underlying u with|some (.slice _)=>B5 P t s x K h|some .string=>B5 P t s x K h|some (.int _)=>Ct P t s x K h|_=>False)|_=>False)
  | .builtin .clear,some [x]=>(match c.argTypes.toList with| [t]=>Jm P t x K h|_=>False)
  | .builtin .copy,some [d,s]=>(match c.argTypes.toList with| [t,_]=>ND P t d s K h|_=>False)
  | .builtin .unsafeString,some [p,n]=>(match c.argTypes.toList with| [t,_]=>NB P t p n K h|_=>False)
  | .builtin .delete,some [m,k]=>(match c.argTypes.toList with| [t,_]=>Cr P t m k K h|_=>False)
  | .value f,some args=>QN P f r args o.type K h
  |_,_=>False)
 |_=>False
def ug(P:Program):Op→Bool
 | .convert s d _=> !Rx P s d
 | .alloc _| .box .. | .buildSlice .. | .store .. | .mapUpdate .. | .insert .. | .makeMap .. | .makeSlice .. | .range .. | .next .. =>false
 | .call c=>match c.callee with
  | .builtin .len| .builtin .cap| .builtin .min| .builtin .max| .builtin .unsafeSliceData=>true
  |_=>false
 |_=>true
def xw(N:Nat)(o:Oper)(v:Value)(r:cd)(K:cd→Prop):Prop:=
 match o.dst with
 |none=>K r
 |some d=>bif vY d N then K ((d,v)::r)else False
noncomputable def RS(P:Program)(N:Nat)(ek:Option (Kind×Kind))(o:Oper)(r:cd)(K:cd→ad→Prop)(h:ad):Prop:=
 bif ug P o.op then zR P ek o.op r (fun v _=>xw N o v r fun a=>K a h) h
 else D3 P o r (fun v h'=>xw N o v r fun a=>K a h') h
inductive DV where
 |f|t|u|x
abbrev tg:=List (Nat×DV)
noncomputable def pM(d:tg)(t:Nat):DV:=
 eC (motive:=fun _=>DV) .x (fun a _ b=>bif ax a.1 t then a.2 else b) d
noncomputable def yI(d:tg):Operand→DV
 | .tmp t=>pM d t
 | .const (.bool true)=>.t
 | .const (.bool false)=>.f
 |_=>.x
noncomputable def Hd(d:tg):Op→DV
 | .move x=>yI d x
 | .assign x=>yI d x
 | .pick c a b=>match yI d c with
  | .t=>yI d a
  | .f=>yI d b
  |_=>.x
 | .unOp .not _ x=>match yI d x with
  | .t=>.f
  | .f=>.t
  |_=>.x
 |_=>.x
def p5(d:tg)(o:Oper)(v:DV):tg:=match o.dst with|some t=>(t,v)::d|none=>d
noncomputable def gS(ops:List Oper)(d:tg)(o:Oper):Option Bool:=
 match o.guard with
 |none=>some true
 |some (j,want)=>match ops[j]? with
  |none=>none
  |some oj=>match oj.dst with
   |none=>none
   |some t=>match pM d t with
    | .t=>some want
    | .f=>some (!want)
    | .u=>some false
    | .x=>none
def C9(ops:List Oper)(o:Oper):Option Nat:=
 match o.guard with
 |none=>none
 |some (j,_)=>match ops[j]? with
  |none=>none
  |some oj=>oj.dst
noncomputable def EP(P:Program)(N:Nat)(ek:Option (Kind×Kind))(ops:List Oper)(o:Oper)(d:tg)(r:cd)(h:ad)(K:tg→cd→ad→Prop):Prop:=
 match gS ops d o with
 |some true=>RS P N ek o r (K (p5 d o (Hd d o.op))) h
 |some false=>xw N o undef r fun a=>K (p5 d o .u) a h
 |none=>False
noncomputable def CJ(P:Program)(N:Nat)(ek:Option (Kind×Kind))(ops:List Oper)(l:List Oper):tg→(cd→ad→Prop)→cd→ad→Prop:=
 eC (motive:=fun _=>tg→(cd→ad→Prop)→cd→ad→Prop) (fun _ K r h=>K r h)
  (fun o _ c d K r h=>
  match gS ops d o with
  |some true=>RS P N ek o r (fun a h'=>c (p5 d o (Hd d o.op)) K a h') h
  |some false=>xw N o undef r fun a=>c (p5 d o .u) K a h
  |none=>match C9 ops o with
   |none=>False
   |some t=>match ja r t with
    |some (.bool b)=>CondP b
     (EP P N ek ops o ((t,.t)::d) ((t,.bool true)::r) h fun e a h'=>c e K a h')
     (EP P N ek ops o ((t,.f)::d) ((t,.bool false)::r) h fun e a h'=>c e K a h')
    |_=>False) l
inductive DA where
 |done
 |take (i:Nat) (rest:DA)
 |all (l:DA)
 |pick (i:Nat) (rest more:DA)
 |last (i:Nat) (rest:DA)
 |lastT (i:Nat) (rest:DA)
 |split (t:Nat) (yes no:DA)
abbrev pw:=List (Nat×(ad→Prop))
def tb(m i:Nat):Bool:=ax (iu (Nat.shiftRight m i) 1) 1
def fQ(i:Nat):Nat:=Nat.pow 2 i
inductive DM where
 |mk (am fr lk ds:Nat)
def DM.am:DM→Nat| .mk a _ _ _=>a
def DM.fr:DM→Nat| .mk _ f _ _=>f
def DM.lk:DM→Nat| .mk _ _ l _=>l
def DM.ds:DM→Nat| .mk _ _ _ d=>d
def gT(o:Oper)(i:Nat):Bool:=o.after.toList.any fun e=>ax e.on i&&Region.binds .any e
noncomputable def kR(l:List Edge):Nat:=
 eC (motive:=fun _=>Nat) 0 (fun e _ a=>bif Region.binds .any e then cB (fQ e.on) a else a) l
noncomputable def j7(l:List Operand):Nat:=
 eC (motive:=fun _=>Nat) 0 (fun o _ a=>match o with| .tmp t=>cB (fQ t) a|_=>a) l
def lU(o:Oper):Nat:=match o.dst with|some d=>fQ d|none=>0
noncomputable def mo(ops:List Oper)(o:Oper):Nat:=
 cB (j7 o.op.operands.toList) (match o.guard with
  |some (g,_)=>(match ops[g]? with|some og=>lU og|none=>0)
  |none=>0)
noncomputable def uL(ops:List Oper)(l:List Oper):List DM→Bool:=
 eC (motive:=fun _=>List DM→Bool) (fun ms=>match ms with| []=>true|_=>false)
  (fun o _ a ms=>match ms with
   |m::ms=>ax (kR o.after.toList) m.am&&ax (mo ops o) m.lk&&ax (lU o) m.ds&&a ms
   | []=>false) l
def AE(x y:DM):Bool:=ax (iu x.ds (cB y.lk y.ds)) 0&&ax (iu y.ds x.lk) 0
noncomputable def Fp(i:Nat)(m:DM)(l:List DM):Nat→Bool:=
 eC (motive:=fun _=>Nat→Bool) (fun _=>true)
  (fun n _ a j=>(!(tb m.fr j)||ax j i||tb n.am i||AE m n)&&a (eM j)) l
noncomputable def yB(a:List DM)(l:List DM):Nat→Bool:=
 eC (motive:=fun _=>Nat→Bool) (fun _=>true) (fun m _ b i=>Fp i m a 0&&b (eM i)) l
def H1:List Oper→Bool
 | []=>true
 |o::os=>(match o.op with| .select .. =>false| .defer _=>false|_=>true)&&H1 os
noncomputable def Ce(ops:List Oper)(ms:List DM):Bool:=uL ops ops ms&&yB ms ms 0&&H1 ops
def mJ(o:Oper):pw→pw
 | []=> []
 |(k,S)::l=>bif gT o k then mJ o l else(k,S)::mJ o l
def qn:pw→ad→Prop→Prop
 | [],_,R=>R
 |(_,S)::l,h,R=>S h∧qn l h R
def EX(m:DM)(ls:Nat):Bool:=ax (iu m.am ls) m.am
noncomputable def ka(ls:Nat)(l:List DM):Nat→List Nat:=
 eC (motive:=fun _=>Nat→List Nat) (fun _=> []) (fun m _ a j=>bif !(tb ls j)&&EX m ls then j::a (eM j)else a (eM j)) l
def CB(m:DM)(i ls n:Nat):Bool:= !(tb ls i)&&EX m ls&&ax (iu (cB ls m.fr) (vJ (fQ n))) (vJ (fQ n))
def tC:List Nat→List Nat→Bool
 | [],[]=>true
 |a::as,b::bs=>ax a b&&tC as bs
 |_,_=>false
def Av:DA→List Nat
 | .pick i _ l=>i::Av l
 | .last i _=> [i]
 | .lastT i _=> [i]
 |_=> []
noncomputable def Mb(P:Program)(N:Nat)(ops:List Oper)(i:Nat)(L:pw)(d:tg)(r:cd)(h:ad)(K:pw→tg→cd→ad→Prop):Prop:=
 match ops[i]? with
 |none=>False
 |some o=>match gS ops d o with
  |some true=>bif ug P o.op then zR P none o.op r (fun v _=>xw N o v r fun a=>qn (mJ o L) h (K (mJ o L) (p5 d o .x) a h)) h else D3 P o r (fun v h'=>xw N o v r fun a=>qn (mJ o L) h' (K (mJ o L) (p5 d o .x) a h')) h
  |_=>False
noncomputable def Nk(m:Nat)(l:List DM):Nat→Nat:=
 eC (motive:=fun _=>Nat→Nat) (fun _=>m) (fun n _ a j=>bif tb m j then cB n.am (a (eM j))else a (eM j)) l
noncomputable def yJ(ms:List DM)(m:Nat):Nat:=Nk (Nk (Nk (Nk m ms 0) ms 0) ms 0) ms 0
def GS(ms:List DM)(i:Nat):Nat:=match ms[i]? with|some m=>m.am|none=>0
def yj(m:Nat):pw→pw
 | []=> []
 |(k,S)::l=>bif tb m k then yj m l else(k,S)::yj m l
noncomputable def Lq(P:Program)(N:Nat)(ops:List Oper)(ms:List DM)(i:Nat)(L:pw)(d:tg)(r:cd)(h:ad)(K:pw→tg→cd→ad→Prop):Prop:=
 match ops[i]? with
 |none=>False
 |some o=>match gS ops d o with
  |some true=>bif ug P o.op then False else D3 P o r (fun v h'=>xw N o v r fun a=>qn (yj (yJ ms (GS ms i)) L) h' (K (yj (yJ ms (GS ms i)) L) (p5 d o .x) a h')) h
  |_=>False
noncomputable def lB(P:Program)(N:Nat)(ops:List Oper)(ms:List DM)(k:DA):Bool→Nat→pw→tg→(cd→ad→Prop)→cd→ad→Prop:=
 DA.rec (motive:=fun _=>Bool→Nat→pw→tg→(cd→ad→Prop)→cd→ad→Prop)
  (fun m ls _ _ K r h=>bif !m&&tC (ka ls ms 0) []then K r h else False)
  (fun i _ c m ls L d K r h=>
   match ops[i]?,ms[i]? with
   |some o,some mi=>bif !m&&CB mi i ls ops.length then
     (match gS ops d o with
      |none=>False
      |some false=>xw N o undef r fun a=>c false (cB ls (fQ i)) L (p5 d o .u) K a h
      |some true=>bif ug P o.op then
       zR P none o.op r (fun v S=>xw N o v r fun a=>match S with
        |none=>c false (cB ls (fQ i)) L (p5 d o (Hd d o.op)) K a h
        |some S=>c false (cB ls (fQ i)) ((i,S)::L) (p5 d o (Hd d o.op)) K a h) h
       else False)
    else False
   |_,_=>False)
  (fun l c m ls L d K r h=>bif !m&&tC (ka ls ms 0) (Av l)then c true ls L d K r h else False)
  (fun i _ _ e f m ls L d K r h=>bif m then Mb P N ops i L d r h (fun g j a h'=>e false (cB ls (fQ i)) g j K a h')∧f true ls L d K r h else False)
  (fun i _ c m ls L d K r h=>bif m then Mb P N ops i L d r h (fun g j a h'=>c false (cB ls (fQ i)) g j K a h')else False)
  (fun i _ c m ls L d K r h=>bif m then Lq P N ops ms i L d r h (fun g j a h'=>c false (cB ls (fQ i)) g j K a h')else False)
  (fun t _ _ e f m ls L d K r h=>
   bif m then False else match ja r t with
   |some (.bool b)=>CondP b (e false ls L ((t,.t)::d) K ((t,.bool true)::r) h) (f false ls L ((t,.f)::d) K ((t,.bool false)::r) h)
   |_=>False)
  k
noncomputable def TK(_:Oper)(i:Nat)(ds lk:Nat)(ops:List Oper)(l:List Oper):Nat→Nat:=
 eC (motive:=fun _=>Nat→Nat) (fun _=>0) (fun p _ a j=>bif (ax j i||gT p i||(ax (iu ds (cB (mo ops p) (lU p))) 0&&ax (iu (lU p) lk) 0))then cB (fQ j) (a (eM j))else a (eM j)) l
noncomputable def Ts(ops:List Oper)(l:List Oper):Nat→List DM:=
 eC (motive:=fun _=>Nat→List DM) (fun _=> []) (fun o _ a i=>.mk (kR o.after.toList) (TK o i (lU o) (mo ops o) ops ops 0) (mo ops o) (lU o)::a (eM i)) l
def RZ(P:Program)(w:Option Bool)(o:Oper):Bool:=match w with|some false=>true|some true=>ug P o.op|none=>false
noncomputable def RC(P:Program)(ops:List Oper)(d:tg)(ls n:Nat)(l:List Oper):List DM→Nat→Option (Nat×Oper):=
 eC (motive:=fun _=>List DM→Nat→Option (Nat×Oper)) (fun _ _=>none)
  (fun o _ a ms j=>match ms with
   | []=>none
   |m::ms=>bif CB m j ls n&&RZ P (gS ops d o) o then some (j,o)else a ms (eM j)) l
noncomputable def RD(ops:List Oper)(d:tg)(ls:Nat)(l:List Oper):List DM→Nat→Option Nat:=
 eC (motive:=fun _=>List DM→Nat→Option Nat) (fun _ _=>none)
  (fun o _ a ms j=>match ms with
   | []=>none
   |m::ms=>match bif !(tb ls j)&&EX m ls then(match gS ops d o with|none=>C9 ops o|some _=>none)else none with
    |some t=>some t
    |none=>a ms (eM j)) l
noncomputable def Sr(ops:List Oper)(k:Nat→tg→DA)(ls:Nat)(d:tg)(l:List Nat):DA:=
 eC (motive:=fun _=>DA) .done (fun i a b=>match ops[i]? with
  |none=>.done
  |some o=>match a with
   | []=>.last i (k (cB ls (fQ i)) (p5 d o .x))
   |_=>.pick i (k (cB ls (fQ i)) (p5 d o .x)) b) l
noncomputable def RN(P:Program)(ops:List Oper)(ms:List DM)(a:Nat):Nat→tg→DA:=
 Nat.rec (motive:=fun _=>Nat→tg→DA) (fun _ _=>.done) (fun _ b ls d=>
  match RC P ops d ls ops.length ops ms 0 with
  |some (i,o)=>.take i (b (cB ls (fQ i)) (match gS ops d o with|some false=>p5 d o .u|_=>p5 d o (Hd d o.op)))
  |none=>match RD ops d ls ops ms 0 with
   |some t=>.split t (b ls ((t,.t)::d)) (b ls ((t,.f)::d))
   |none=>match ka ls ms 0 with
    | []=>.done
    |l=>.all (Sr ops b ls d l)) a
noncomputable def Lx(ops:List Oper):List DM:=Ts ops ops 0
inductive Ex where
 |exit (id:Nat)
 |ret
abbrev St:=List (Nat×Kind)
def xa:St→List Kind
 | []=> []
 |(_,k)::l=>k::xa l
noncomputable def CF(r:cd):St→Option (List Value)
 | []=>some []
 |(i,_)::l=>match ja r i,CF r l with
  |some v,some vs=>some (v::vs)
  |_,_=>none
noncomputable def A4(st:St)(r:cd)(f:rp (xa st)→Prop):Prop:=
 match CF r st with
 |some vs=>BP (xa st) vs f
 |none=>False
def lQ:St→List Value→cd→cd
 |(i,_)::l,v::vs,r=>(i,v)::lQ l vs r
 |_,_,r=>r
noncomputable def LB(r:cd)(l:List Nat):Option cd:=
 eC (motive:=fun _=>Option cd) (some []) (fun t _ a=>match ja r t,a with
  |some v,some l=>some ((t,v)::l)
  |_,_=>none) l
noncomputable def j5(t:Nat)(l:List Oper):Bool:=
 eC (motive:=fun _=>Bool) false (fun o _ a=>match o.dst with|some d=>bif ax d t then true else a|none=>a) l
noncomputable def ft(t:Nat)(c:Code):Bool:=
 Code.rec (motive:=fun _=>Bool) false (fun _ ops _=>j5 t ops.toList) (fun _ _ a b=>bif a then true else b) (fun _ _ _ a b=>bif a then true else b)
  (fun _ _ b=>b) (fun _ b=>b) (fun _ _ _ _ _ _=>true) (fun _=>false) (fun _ b=>b) (fun _=>false) (fun _=>false) false (fun _=>false) c
inductive Ann where
 |nil
 |node (a b:Ann)
 |join (st:St) (a b:Ann)
 |loop (st:St) (b:Ann)
 |draw (d:DA)
 |kinds (k v:Kind)
 |reg (keep:List Nat) (inner:Ann)
 |rf (ks:List Kind) (a b:Ann)
def Ann.l:Ann→Ann
 | .node a _=>a
 | .rf _ a _=>a
 |_=>.nil
def Ann.r:Ann→Ann
 | .node _ b=>b
 | .rf _ _ b=>b
 |_=>.nil
noncomputable def NA(l:List Oper):Nat:=eC (motive:=fun _=>Nat) 0 (fun o _ a=>cB (lU o) a) l
def Sw:Option Nat→Option Nat→Option Nat
 |some a,some b=>some (cB a b)
 |_,_=>none
noncomputable def wA(c:Code):Option Nat:=
 Code.rec (motive:=fun _=>Option Nat) (some 0) (fun _ ops _=>some (NA ops.toList)) (fun _ _ a b=>Sw a b) (fun _ _ _ a b=>Sw a b)
  (fun _ _ b=>b) (fun _ b=>b) (fun _ _ _ _ _ _=>none) (fun _=>some 0) (fun _ b=>b) (fun _=>some 0) (fun _=>some 0) (some 0) (fun _=>some 0) c
noncomputable def uQ(m:Nat)(r:cd):cd:=eC (motive:=fun _=>cd) [] (fun b _ a=>bif tb m b.1 then a else b::a) r
noncomputable def Ab(P:Program)(N:Nat)(ops:List Oper)(b:Bool)(a:Ann)(Kn:cd→ad→Prop)(r:cd)(h:ad):Prop:=
 match b with
 |false=>(match a with
  | .kinds kk vk=>CJ P N (some (kk,vk)) ops ops [] Kn r h
  |_=>CJ P N none ops ops [] Kn r h)
 |true=>bif Ce ops (Lx ops)then lB P N ops (Lx ops) (match a with| .draw da=>da|_=>RN P ops (Lx ops) (Nat.add (Nat.add ops.length ops.length) 2) 0 []) false 0 [] [] Kn r h else False
noncomputable def jv(P:Program)(N:Nat)(c:Code):Ann→(cd→ad→Prop)→(Ex→cd→ad→Prop)→cd→ad→Prop:=
 Code.rec (motive:=fun _=>Ann→(cd→ad→Prop)→(Ex→cd→ad→Prop)→cd→ad→Prop)
  (fun _ Kn _ r h=>Kn r h)
  (fun _ ops p d Kn _ r h=>match d with
   | .reg keep d=>Ab P N ops.toList p d (fun f h'=>match LB f keep with|some r0=>Kn r0 h'|none=>False) r h
   |d=>Ab P N ops.toList p d Kn r h)
  (fun a _ g j d Kn Kx r h=>match d with
   | .join st aa ab=>(match wA a with
     |none=>False
     |some m=>Join (T:=rp (xa st)) (fun t h'=>j ab Kn Kx (lQ st (ki (xa st) t) (uQ m r)) h')
      fun J=>g aa (fun f h'=>A4 st f fun t=>J t h') Kx r h)
   |d=>g d.l (fun f h'=>j d.r Kn Kx f h') Kx r h)
  (fun c _ _ g j d Kn Kx r h=>match cJ r c with
   |some (.bool t)=>CondP t (g d.l Kn Kx r h) (j d.r Kn Kx r h)
   |_=>False)
  (fun id _ n d Kn Kx r h=>n d Kn (fun e f h'=>match e with
    | .exit i=>bif ax i id then Kn f h' else Kx (.exit i) f h'
    | .ret=>Kx .ret f h') r h)
  (fun b n d _ Kx r h=>match d with
   | .loop st ab=>(match wA b with
     |none=>False
     |some m=>A4 st r fun s=>LoopP (T:=rp (xa st)) (fun k t h'=>n ab (fun f o=>A4 st f fun q=>k q o) Kx (lQ st (ki (xa st) t) (uQ m r)) h') s h)
   |_=>False)
  (fun _ _ _ _ _ _ _ _ _ _ _=>False)
  (fun id _ _ Kx r h=>Kx (.exit id) r h)
  (fun _ _ _ _ _ _ _=>False)
  (fun _ _ Kn _ r h=>Kn r h)
  (fun _ _ _ _ _ _=>False)
  (fun _ _ Kx r h=>Kx .ret r h)
  (fun _ _ _ _ _ _=>False)
  c
noncomputable def lR(P:Program)(r:cd)(h:ad):List ResultVar→(List Value→Prop)→Prop
 | [],K=>K []
 | .tmp t::l,K=>(match ja r t with|some v=>lR P r h l fun vs=>K (v::vs)|none=>False)
 | .cell a t::l,K=>(match ja r a with
  |some v=>HI P t v (fun x _=>lR P r h l fun vs=>K (x::vs)) h
  |none=>False)
def oz:Nat→List Value→cd
 |_,[]=> []
 |i,v::vs=>(i,v)::oz (i+1) vs
noncomputable def ER(P:Program)(fn:Func)(c:Code)(a:Ann)(args:List Value)(ks:List Kind)(K:rp ks→ad→Prop)(h:ad):Prop:=
 jv P fn.ntmps c a
  (fun r h'=>lR P r h' fn.results.toList fun vs=>BP ks vs fun t=>K t h')
  (fun e r h'=>match e with
   | .ret=>lR P r h' fn.results.toList fun vs=>BP ks vs fun t=>K t h'
   | .exit _=>False)
  (oz 0 args) h
def Dr:List Oper→Option (Oper×Oper×Operand×Nat×FuncId×List Operand)
 | [m,o]=>match m.op,m.guard,m.dst,o.op,o.dst,o.guard with
  | .move x,none,some d,.defer c,none,none=>(match c.callee with
   | .value (.func f)=>some (m,o,x,d,f,c.args.toList)
   |_=>none)
  |_,_,_,_,_,_=>none
 |_=>none
inductive Mk where
 |it (n:Nat)
 |call (f:FuncId) (vs:List Value)
def HD(P:Program)(f:FuncId)(args:List Value)(K:ad→Prop)(h:ad):Prop:=
 ∀w:World,w.heap=h→(∀(args:Array Value) (w:World),(callFunc f args).run P w=.ok (.enter f args) w)∧∀n:Nat,CallsDIn {fn:=fun _=>True,depth:=none,alive:=false,round:=none} n P f args.toArray .returning w fun e u w'=>u=.returning∧Tame w w'∧(∃v,e=.returned v)∧K w'.heap
noncomputable def qo(c:Code):Bool:=
 Code.rec (motive:=fun _=>Bool) false (fun _ ops _=>(Dr ops.toList).isSome) (fun _ _ a b=>bif a then true else b) (fun _ _ _ a b=>bif a then true else b)
  (fun _ _ b=>b) (fun _ b=>b) (fun _ _ _ _ _ _=>true) (fun _=>false) (fun _ b=>b) (fun _=>false) (fun _=>false) false (fun _=>false) c
def GB:Option Ex→Option Code
 |none=>none
 |some (.exit i)=>some (.exit i)
 |some .ret=>some .ret
def TL(N:ad→Prop)(X:Nat→ad→Prop)(R:ad→Prop):Option Ex→ad→Prop
 |none=>N
 |some (.exit i)=>X i
 |some .ret=>R
structure RangeP(P:Program)(fv:Value)(ks:List Kind)(h:ad)(RT:Obj→Obj→rp ks→(Option Ex→ad→Prop)→ad→Prop)(N:ad→Prop)(X:Nat→ad→Prop)(R:ad→Prop):Prop where
 run:∀lo:LoopState→Option Ex→Obj,(∀s j,∃r,lo s j=.loop r)→
  (∀x h' K,h'[h.size+1]? =some (lo .ready none)→
   RT (lo .ready none) (lo .busy none) x (fun j h2=>h2[h.size+1]? =some (lo .busy none)∧K j.isNone (h2.setIfInBounds (h.size+1) (lo (if j.isNone then .ready else .done) j))) h'→
   HV P (.func (.yield (h.size+1)) #[] #[]) (ki ks x) [.c .bool] K h')→
  ∃f first cap,fv=.func (.func f) first cap∧HE P f (first.toList++ [.func (.yield (h.size+1)) #[] #[]]++cap.toList) []
   (fun _ h2=>∃s j,s≠ .busy∧h2[h.size+1]? =some (lo s j)∧TL N X R j (h2.setIfInBounds (h.size+1) (lo .exhausted j))) ((h.push (.deferred (some []))).push (lo .ready none))
def PR:List Nat→List Value→cd→cd
 |i::l,v::vs,r=>PR l vs ((i,v)::r)
 |_,_,r=>r
noncomputable def Jz(P:Program)(N:Nat)(ps:List Nat)(ks:List Kind)(assign body:Code)(b:Ann)(r:cd)(l:Nat)(EX f:Obj)(x:rp ks)(k:Option Ex→ad→Prop)(h:ad):Prop:=
 jv P N assign b.l (fun d c=>c[l]? =some EX∧jv P N body b.r (fun _ a=>k none a) (fun e _ a=>k (some e) a) d (c.setIfInBounds l f)) (fun _ _ _=>False) (PR ps (ki ks x) r) h
def xk(N:Nat):List Nat→Bool
 | []=>true
 |n::l=>vY n N&&xk N l
noncomputable def xe(P:Program)(N:Nat)(c:Code):Ann→(List Mk→cd→ad→Prop)→(Ex→List Mk→cd→ad→Prop)→List Mk→cd→ad→Prop:=
 Code.rec (motive:=fun _=>Ann→(List Mk→cd→ad→Prop)→(Ex→List Mk→cd→ad→Prop)→List Mk→cd→ad→Prop)
  (fun j Kn Kx ms r h=>jv P N .skip j (Kn ms) (fun e=>Kx e ms) r h)
  (fun id ops p j Kn Kx ms r h=>match Dr ops.toList with
   |none=>jv P N (.region id ops p) j (Kn ms) (fun e=>Kx e ms) r h
   |some (_,_,x,d,f,as)=>bif p then False else match cJ r x with
    |some v=>bif vY d N then(match l7 ((d,v)::r) as with|some vs=>Kn (.call f vs::ms) ((d,v)::r) h|none=>False)else False
    |none=>False)
  (fun a b m n j Kn Kx ms r h=>bif (bif qo a then true else qo b)then m j.l (fun ms o h'=>n j.r Kn Kx ms o h') Kx ms r h
   else jv P N (.seq a b) j (Kn ms) (fun e=>Kx e ms) r h)
  (fun c a b m n j Kn Kx ms r h=>bif (bif qo a then true else qo b)then
    (match cJ r c with
     |some (.bool t)=>CondP t (m j.l Kn Kx ms r h) (n j.r Kn Kx ms r h)
     |_=>False)
   else jv P N (.cond c a b) j (Kn ms) (fun e=>Kx e ms) r h)
  (fun id b q j Kn Kx ms r h=>bif qo b then q j Kn (fun e ms o h'=>match e with
    | .exit i=>bif ax i id then Kn ms o h' else Kx (.exit i) ms o h'
    | .ret=>Kx .ret ms o h') ms r h
   else jv P N (.block id b) j (Kn ms) (fun e=>Kx e ms) r h)
  (fun b _ j Kn Kx ms r h=>jv P N (.loop b) j (Kn ms) (fun e=>Kx e ms) r h)
  (fun g ps assign body _ _ j Kn Kx ms r h=>match j with
   | .rf ks aa ab=>bif xk N ps.toList&&ax ps.toList.length ks.length then
    (match cJ r g with
     |some fv=>RangeP P fv ks h (fun EX s x k h'=>Jz P N ps.toList ks assign body (.node aa ab) r (h.size+1) EX s x k h')
      (fun h'=>Kn (.it h.size::ms) r h') (fun i h'=>Kx (.exit i) (.it h.size::ms) r h') (fun h'=>Kx .ret (.it h.size::ms) r h')
     |none=>False)else False
   |_=>False)
  (fun id j Kn Kx ms r h=>jv P N (.exit id) j (Kn ms) (fun e=>Kx e ms) r h)
  (fun _ _ _ _ _ _ _ _=>False)
  (fun l j Kn Kx ms r h=>jv P N (.label l) j (Kn ms) (fun e=>Kx e ms) r h)
  (fun _ _ _ _ _ _ _=>False)
  (fun j Kn Kx ms r h=>jv P N .ret j (Kn ms) (fun e=>Kx e ms) r h)
  (fun _ _ _ _ _ _ _=>False)
  c
def Hv(P:Program):List Mk→(ad→Prop)→ad→Prop
 | [],K,h=>K h
 | .it D::ms,K,h=>h[D]? =some (.deferred (some []))∧Hv P ms K (h.setIfInBounds D (.deferred none))
 | .call f vs::ms,K,h=>HD P f vs (fun h'=>Hv P ms K h') h
noncomputable def JA(P:Program)(fn:Func)(c:Code)(a:Ann)(args:List Value)(ks:List Kind)(K:rp ks→ad→Prop)(h:ad):Prop:=
 xe P fn.ntmps c a
  (fun ms r h'=>Hv P ms (fun h'=>lR P r h' fn.results.toList fun vs=>BP ks vs fun t=>K t h') h')
  (fun e ms r h'=>match e with
   | .ret=>Hv P ms (fun h'=>lR P r h' fn.results.toList fun vs=>BP ks vs fun t=>K t h') h'
   | .exit _=>False)
  [] (oz 0 args) h
end Go.Lift
namespace Go.Lift
open Go
theorem DF(a:Addr):adr a 0=a:=rfl
theorem yP(a:Addr)(n:Nat):adr a (n+1)=⟨a.block,a.off+(n+1),none⟩:=rfl
theorem si(a:Addr)(n:Nat):adr a n=a.add n:=by
 cases n with
 |zero=>simp[DF,Addr.add]
 |succ n=>simp[yP,Addr.add]
theorem Cl(a:Addr)(m n:Nat):adr (adr a m) n=adr a (m+n):=by
 cases n with
 |zero=>rfl
 |succ n=>cases m with
  |zero=>simp[DF]
  |succ m=>rw[yP,yP,show m+1+(n+1)=(m+1+n)+1 from rfl,yP];simp;omega
theorem Tame.refl(w:World):Tame w w:=⟨rfl,rfl,rfl⟩
theorem Tame.trans{a b c:World}(h:Tame a b)(k:Tame b c):Tame a c:=⟨k.os.trans h.os,k.tape.trans h.tape,k.output.trans h.output⟩
theorem yx{a b:IntKind}(h:Gu a b=true):a=b:=by cases a<;>cases b<;>first|rfl|cases h
theorem CK.dec_sound{c:CK}{v:Value}{f:c.den→Prop}(h:c.dec v f):∃x,v=c.enc x∧f x:=by
 cases c<;>cases v<;>try simp only[CK.dec]at h
 case int.int k k' n=>
  cases hk:Gu k' k with
  |false=>rw[hk]at h;exact h.elim
  |true=>rw[hk]at h;have:=yx hk;subst this;exact⟨n,rfl,h⟩
 case adr.pointer p=>cases p with
  |none=>exact h.elim
  |some a=>exact⟨a,rfl,h⟩
 all_goals first|exact h.elim|exact⟨_,rfl,h⟩
theorem Bk:∀{cs:List CK} {vs:List Value} {f:PB cs→Prop},LO cs vs f→∃t,vs=Ph cs t∧f t
 | [],[],f,h=>⟨(),rfl,h⟩
 | [],_::_,f,h=>h.elim
 | [c],[v],f,h=>by obtain⟨x,rfl,b⟩:=CK.dec_sound h;exact⟨x,rfl,b⟩
 | [c],[],f,h=>h.elim
 | [c],_::_::_,f,h=>h.elim
 |c::d::cs,[],f,h=>h.elim
 |c::d::cs,[_],f,h=>h.elim
 |c::d::cs,v::u::vs,f,h=>by
  have a:c.dec v fun x=>LO (d::cs) (u::vs) fun t=>f (x,t):=h
  obtain⟨x,hx,e⟩:=CK.dec_sound a;obtain⟨t,g,i⟩:=Bk (cs:=d::cs) (vs:=u::vs) e;exact⟨(x,t),by rw[g,hx];rfl,i⟩
theorem Kind.dec_sound{k:Kind}{v:Value}{f:k.den→Prop}(h:k.dec v f):∃x,v=k.enc x∧f x:=by
 cases k with
 |c k=>exact CK.dec_sound h
 |agg cs=>
  cases v<;>simp only[Kind.dec]at h
  case agg vs=>
   obtain⟨t,a,b⟩:=Bk h;exact⟨t,by simp only[Kind.enc,←a],b⟩
theorem qD:∀{ks:List Kind} {vs:List Value} {f:rp ks→Prop},BP ks vs f→∃t,vs=ki ks t∧f t
 | [],[],f,h=>⟨(),rfl,h⟩
 | [],_::_,f,h=>h.elim
 | [c],[v],f,h=>by obtain⟨x,rfl,b⟩:=Kind.dec_sound h;exact⟨x,rfl,b⟩
 | [c],[],f,h=>h.elim
 | [c],_::_::_,f,h=>h.elim
 |c::d::cs,[],f,h=>h.elim
 |c::d::cs,[_],f,h=>h.elim
 |c::d::cs,v::u::vs,f,h=>by
  have a:c.dec v fun x=>BP (d::cs) (u::vs) fun t=>f (x,t):=h
  obtain⟨x,hx,e⟩:=Kind.dec_sound a;obtain⟨t,g,i⟩:=qD (ks:=d::cs) (vs:=u::vs) e;exact⟨(x,t),by rw[g,hx];rfl,i⟩
theorem rk:∀(ks:List Kind) (t:rp ks),(ki ks t).length=ks.length
 | [],_=>rfl
 | [_],_=>rfl
 |_::l::ks,(_,t)=>by simp only[ki,aV,rk (l::ks) t]
structure Agree(N:Nat)(r:cd)(a:Act):Prop where
 size:a.tmps.size=N
 look:∀t v,ja r t=some v→a.tmps.getD t undef=v
theorem gx(k:Nat)(v:Value)(r:cd):ja ((k,v)::r) k=some v:=by rw[CN,show ax k k=true from Nat.beq_refl k];rfl
theorem fS{k t:Nat}(v:Value)(r:cd)(h:k≠t):ja ((k,v)::r) t=ja r t:=by
 rw[CN];have:ax k t=false:=Bool.eq_false_iff.2 fun e=>h (aL e)
 rw[this];rfl
theorem Agree.put{N:Nat}{r:cd}{a:Act}(h:Agree N r a)(d:Nat)(v:Value)(hd:d<N):Agree N ((d,v)::r) (a.put (some d) v):=by
 refine⟨by simp[Act.put,h.size],fun t u b=>?_⟩
 by_cases e:d=t
 ·subst e
  rw[gx]at b;cases b;simp[Act.put,h.size,hd]
 ·rw[fS v r e]at b
  have:=h.look t u b;simpa[Act.put,Array.getElem?_setIfInBounds_ne e]using this
theorem Agree.known{N:Nat}{r:cd}{a:Act}(h:Agree N r a){t:Nat}{v:Value}(c:ja r t=some v):Agree N ((t,v)::r) a:=by
 refine⟨h.size,fun s u b=>?_⟩
 by_cases e:t=s
 ·subst e;rw[gx]at b;cases b;exact h.look t v c
 ·rw[fS v r e]at b;exact h.look s u b
theorem jb{N:Nat}{r:cd}{a:Act}(h:Agree N r a){o:Operand}{v:Value}(b:cJ r o=some v):a.eval o=v:=by
 cases o with
 |tmp t=>exact h.look t v b
 |const c=>simp[cJ]at b;subst b;rfl
 |global g=>simp[cJ]at b;subst b;rfl
 |func f=>simp[cJ]at b;subst b;rfl
theorem kF{N:Nat}{r:cd}{a:Act}(h:Agree N r a):∀{os:List Operand} {vs:List Value},l7 r os=some vs→os.map a.eval=vs
 | [],vs,hv=>by simp[l7]at hv;subst hv;rfl
 |o::os,vs,hv=>by
  simp only[l7]at hv;cases ho:cJ r o with
  |none=>simp[ho]at hv
  |some v=>cases hos:l7 r os with
   |none=>simp[ho,hos]at hv
   |some us=>simp[ho,hos]at hv;subst hv;simp[jb h ho,kF h hos]
theorem aq{P:Program}{t:TypeId}{d:TypeDesc}(h:P.underlying t=some d)(w:World):(underlying t).run P w=.ok d w:=by
 simp only[underlying,program,bind,Sem.bind,lW,h,pure]
theorem cx{P:Program}{t:TypeId}{i:TypeInfo}(h:P.info? t=some i)(w:World):(typeInfo t).run P w=.ok i w:=by
 simp only[typeInfo,program,bind,Sem.bind,lW,h,pure]
theorem gB{P:Program}{s:Sem Value}{v:Value}{w w':World}(h:s.run P w=.ok v w'):(do pure (Next.value (←s)):Sem Next).run P w=.ok (.value v) w':=by
 simp[h]
theorem Oe{P:Program}{s:Sem Unit}{w w':World}(h:s.run P w=.ok () w'):(do s;pure Next.skip:Sem Next).run P w=.ok .skip w':=by
 simp[h]
theorem yg{P:Program}{w:World}{a:Addr}{v:Value}(h:aE w.heap a=some v):(load a).run P w=.ok v w:=by
 have h':w.cell? a=some v:=h;simp[h']
theorem yL{v:Value}{vs:List Value}{i:Nat}{a:Addr}{h:ad}:rm (v::vs) i a h↔aE h (adr a i)=some v∧rm vs (i+1) a h:=by
 cases vs with
 |nil=>simp[rm]
 |cons u us=>rfl
theorem q0{P:Program}{w:World}{a:Addr}:∀(vs:List Value) (i:Nat) (acc:Array Value),rm vs i a w.heap→
  (loadCellsFrom a i vs.length acc).run P w=.ok (acc++vs.toArray) w
 | [],i,acc,_=>by simp[loadCellsFrom]
 |v::vs,i,acc,h=>by
  obtain⟨b,c⟩:=yL.1 h;rw[si]at b;have:=q0 (P:=P) (w:=w) (a:=a) vs (i+1) (acc.push v) c;simp only[aV,loadCellsFrom,aH,yg b,ar,this];simp
theorem D6{P:Program}{w:World}{a:Addr}{vs:List Value}(h:rm vs 0 a w.heap):(loadCells a vs.length).run P w=.ok vs.toArray w:=by
 have:=q0 (P:=P) (w:=w) (a:=a) vs 0 #[] h;simpa[loadCells]using this
theorem wI:∀(cs:List CK) (i:Nat) (a:Addr) (h:ad) (k:List Value→Prop),GC cs i a h k→∃vs,vs.length=cs.length∧rm vs i a h∧k vs
 | [],i,a,h,k,b=>⟨[],rfl,trivial,b⟩
 |c::cs,i,a,h,k,b=>by
  obtain⟨x,hx,b⟩:=b;obtain⟨vs,d,hc,b⟩:=wI cs (i+1) a h _ b;exact⟨c.enc x::vs,by simp[d],yL.2 ⟨hx,hc⟩,b⟩
theorem yK:∀{vs:List Value} {cs:List CK},Dv vs=some cs→cs.length=vs.length
 | [],cs,h=>by simp[Dv]at h;subst h;rfl
 |v::vs,cs,h=>by
  simp only[Dv]at h;cases h1:RM v with
  |none=>simp[h1]at h
  |some c=>cases h2:Dv vs with
   |none=>simp[h1,h2]at h
   |some ds=>simp[h1,h2]at h;subst h;simp[yK h2]
def PA(P:Program)(t:TypeId)(i:TypeInfo):Kind→Prop
 | .c _=>tR P t=false
 | .agg cs=>tR P t=true∧i.size=cs.length
theorem Kf{P:Program}{t:TypeId}{k:Kind}(h:LA P t=some k):∃i,P.info? t=some i∧PA P t i k:=by
 unfold LA wz at h;cases hi:P.info? t with
 |none=>simp[hi]at h
 |some i=>
  refine⟨i,rfl,?_⟩;cases hz:i.zero with
  |none=>simp[hi,hz]at h
  |some z=>
   rw[hi]at h;simp only[hz]at h;cases z;case agg vs=>
    simp only at h;cases hb:(tR P t&&ax vs.toList.length (bF P t))with
    |false=>rw[hb]at h;simp at h
    |true=>
     rw[hb]at h;simp only[cond_true]at h;simp only[Bool.and_eq_true]at hb;have a:=aL hb.2;cases hd:Dv vs.toList with
     |none=>rw[hd]at h;simp at h
     |some ds=>
      rw[hd]at h;simp only[aZ.injEq]at h;subst h;exact⟨hb.1,by rw[yK hd,a];simp[bF,hi]⟩
   all_goals
    simp only at h;cases ha:tR P t
    ·rw[ha]at h
     simp only[cond_false]at h;split at h
     ·simp only[aZ.injEq]at h;subst h;exact ha
     ·simp at h
    ·rw[ha]at h;simp at h
theorem Kg{P:Program}{t:TypeId}{k:Kind}(h:C1 P t=some k):(∀w,(isAgg t).run P w=.ok (tR P t) w)∧LA P t=some k:=by
 unfold C1 at h;cases hu:P.underlying t with
 |none=>simp[hu]at h
 |some d=>
  simp only[hu]at h;refine⟨fun w=>?_,h⟩
  simp only[isAgg,aH,aq hu,ar];unfold tR;rw[hu];cases d<;>rfl
theorem A9{P:Program}{t:TypeId}{v:Value}{K:RK}{h:ad}(d:HI P t v K h):
  ∃u S,K u (some S)∧S h∧∀w:World,S w.heap→(Instr.loadAt t v).run P w=.ok u w:=by
 unfold HI at d;cases v with
 |pointer p=>
  cases p with
  |none=>exact d.elim
  |some a=>
   simp only at d;cases hk:C1 P t with
   |none=>simp[hk]at d
   |some k=>
    obtain⟨b,g⟩:=Kg hk;obtain⟨i,hi,hc⟩:=Kf g;rw[hk]at d;cases k with
    |c c=>
     obtain⟨x,hx,m⟩:=d;refine⟨_,_,m,hx,fun w j=>?_⟩
     have hc:tR P t=false:=hc;simp only[Instr.loadAt,kr,loadVar,aH,bd,ar,b,hc];simp[yg j]
    |agg cs=>
     obtain⟨vs,e,f,m⟩:=wI cs 0 a h _ d;obtain⟨n,o⟩:tR P t=true∧i.size=cs.length:=hc;refine⟨_,_,m,f,fun w j=>?_⟩
     have g:(sizeOf t).run P w=.ok vs.length w:=by simp[sizeOf,cx hi,o,e]
     simp only[Instr.loadAt,kr,loadVar,aH,bd,ar,b,n];simp[g,D6 j]
 |_=>exact d.elim
end Go.Lift
