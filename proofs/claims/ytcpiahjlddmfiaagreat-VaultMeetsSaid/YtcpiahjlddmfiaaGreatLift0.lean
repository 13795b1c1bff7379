/- A part of the proof that the named laws of this program answer true, whatever the input. -/
import Derived.OrdersIn
import Derived.Below
import Derived.WalkKit
import Derived.RangeFuncRecord
import Derived.DefersIn
open BitVec renaming ofInt→ak
open Iff renaming rfl→wI
open List renaming rec→fh,replicate→fR,length_cons→ao
open Nat renaming succ→fx,beq→bB,ble→yq,min→dD,blt→yp,land→jF,lor→cK,pred→x7,eq_of_beq_eq_true→aQ
open Option renaming some→bD
namespace Go.Lift
abbrev ac:=Array Obj
def aI(h:ac)(a:Addr):Option Value:=
 match h[a.block]? with
 |some (.cells c _ _)=>if a.spot.isSome then none else c[a.off]?
 |_=>none
def Eg(h:ac)(a:Addr):Bool:=
 match h[a.block]? with
 |some (.cells _ _ (lo,hi))=>lo≤a.off&&a.off<hi
 |_=>false
def hset(h:ac)(a:Addr)(v:Value):ac:=
 h.modify a.block fun
  | .cells c elem frozen=>.cells (if a.spot.isSome then c else c.setIfInBounds a.off v) elem frozen
  |o=>o
noncomputable def adr(a:Addr)(n:Nat):Addr:=Nat.rec (motive:=fun _=>Addr) a (fun n _=>⟨a.block,a.off+fx n,none⟩) n
def Wr(h:ac)(a:Addr):Prop:=(∃v,aI h a=some v)∧Eg h a=false
structure Tame(w w':World):Prop where
 os:w'.os=w.os
 tape:w'.tape=w.tape
 output:w'.output=w.output
structure SliceV where
 a:Option Addr
 len:Nat
 cap:Nat
def Iw:IntKind→IntKind→Bool
 | .i8,.i8=>true| .i16,.i16=>true| .i32,.i32=>true| .i64,.i64=>true
 | .u8,.u8=>true| .u16,.u16=>true| .u32,.u32=>true| .u64,.u64=>true
 |_,_=>false
inductive CK where
 |int (k:IntKind)|bool|str|ptr|slice|map|chan|raw|adr
def CK.den:CK→Type
 | .int _=>Int| .bool=>Bool| .str=>ByteArray| .ptr=>Option Addr| .slice=>SliceV| .map=>Option Nat| .chan=>Option Nat| .raw=>Value| .adr=>Addr
def CK.enc:(c:CK)→c.den→Value
 | .int k,n=>.int k n
 | .bool,b=>.bool b
 | .str,s=>.string s
 | .ptr,p=>.pointer p
 | .slice,s=>.slice s.a s.len s.cap
 | .map,r=>.map r
 | .chan,r=>.chan r
 | .raw,v=>v
 | .adr,a=>.pointer (some a)
def CK.dec:(c:CK)→Value→(c.den→Prop)→Prop
 | .int k,.int k' n,f=>bif Iw k' k then f n else False
 | .bool,.bool b,f=>f b
 | .str,.string s,f=>f s
 | .ptr,.pointer p,f=>f p
 | .slice,.slice a l c,f=>f ⟨a,l,c⟩
 | .map,.map r,f=>f r
 | .chan,.chan r,f=>f r
 | .raw,v,f=>f v
 | .adr,.pointer (some a),f=>f a
 |_,_,_=>False
def QZ:List CK→Type
 | []=>Unit
 | [c]=>c.den
 |c::d::cs=>c.den×QZ (d::cs)
def QH:(cs:List CK)→QZ cs→List Value
 | [],_=> []
 | [c],x=> [c.enc x]
 |c::d::cs,(x,t)=>c.enc x::QH (d::cs) t
def NJ:(cs:List CK)→List Value→(QZ cs→Prop)→Prop
 | [],[],f=>f ()
 | [c],[v],f=>c.dec v f
 |c::d::cs,v::u::vs,f=>c.dec v fun x=>NJ (d::cs) (u::vs) fun t=>f (x,t)
 |_,_,_=>False
inductive Kind where
 |c (k:CK)
 |agg (cs:List CK)
def Kind.den:Kind→Type
 | .c k=>k.den
 | .agg cs=>QZ cs
def Kind.enc:(k:Kind)→k.den→Value
 | .c k,x=>k.enc x
 | .agg cs,t=>.agg (QH cs t).toArray
def Kind.dec:(k:Kind)→Value→(k.den→Prop)→Prop
 | .c k,v,f=>k.dec v f
 | .agg cs,.agg vs,f=>NJ cs vs.toList f
 |_,_,_=>False
def vh:List Kind→Type
 | []=>Unit
 | [k]=>k.den
 |k::l::ks=>k.den×vh (l::ks)
def nn:(ks:List Kind)→vh ks→List Value
 | [],_=> []
 | [k],x=> [k.enc x]
 |k::l::ks,(x,t)=>k.enc x::nn (l::ks) t
def DW:(ks:List Kind)→List Value→(vh ks→Prop)→Prop
 | [],[],f=>f ()
 | [k],[v],f=>k.dec v f
 |k::l::ks,v::u::vs,f=>k.dec v fun x=>DW (l::ks) (u::vs) fun t=>f (x,t)
 |_,_,_=>False
def DQ(ks:List Kind)(vs:List Value):Value:=
 match ks,vs with
 | [_],[v]=>v
 |_,vs=>.tuple vs.toArray
def TJ:Value→Option CK
 | .int k _=>some (.int k)
 | .bool _=>some .bool
 | .string _=>some .str
 | .pointer _=>some .ptr
 | .slice .. =>some .slice
 | .map _=>some .map
 | .chan _=>some .chan
 | .nilFunc=>some .raw
 | .nilIface=>some .raw
 |_=>none
def Fx:List Value→Option (List CK)
 | []=>some []
 |v::vs=>match TJ v,Fx vs with
  |some c,some cs=>some (c::cs)
  |_,_=>none
def wC(P:Program)(t:TypeId):Bool:=
 match P.underlying t with
 |some (.struct _)|some (.array _ _)=>true
 |_=>false
def bM(P:Program)(t:TypeId):Nat:=match P.info? t with|some i=>i.size|none=>0
def rG(P:Program)(t:TypeId):Nat:=match P.info? t with|some i=>i.bytes|none=>0
def yF(P:Program)(t:TypeId):Option Value:=match P.info? t with|some i=>i.zero|none=>none
def Nv(P:Program)(t:TypeId):Option Kind:=
 match yF P t with
 |some (.agg vs)=>bif wC P t&&bB vs.toList.length (bM P t)then(match Fx vs.toList with|some cs=>some (.agg cs)|none=>none)else none
 |some v=>bif wC P t then none else(match TJ v with|some c=>some (.c c)|none=>none)
 |none=>none
def E5(P:Program)(t:TypeId):Option Kind:=
 match P.underlying t with
 |none=>none
 |some _=>Nv P t
structure HC(P:Program)(f:FuncId)(args:List Value)(ks:List Kind)(K:vh ks→ac→Prop)(h:ac):Prop where
 run:∀w:World,w.heap=h→
  ((callFunc f args.toArray).run P w=.ok (.enter f args.toArray) w∧
   Calls P f args.toArray w fun e w'=>Tame w w'∧∃t:vh ks,e=.returned (DQ ks (nn ks t))∧K t w'.heap)∨
  (∃v w',(callFunc f args.toArray).run P w=.ok (.value v) w'∧Tame w w'∧∃t:vh ks,v=DQ ks (nn ks t)∧K t w'.heap)
structure HE(P:Program)(f:FuncId)(args:List Value)(ks:List Kind)(K:vh ks→ac→Prop)(h:ac):Prop where
 run:∀w:World,w.heap=h→(∀(args:Array Value) (w:World),(callFunc f args).run P w=.ok (.enter f args) w)∧
  Calls P f args.toArray w fun e w'=>Tame w w'∧∃t:vh ks,e=.returned (DQ ks (nn ks t))∧K t w'.heap
theorem HE.hc{P:Program}{f:FuncId}{args:List Value}{ks:List Kind}{K:vh ks→ac→Prop}{h:ac}(e:HE P f args ks K h):HC P f args ks K h:=
 ⟨fun w a=>.inl ⟨(e.run w a).1 _ w,(e.run w a).2⟩⟩
structure HY(P:Program)(l:Nat)(args:List Value)(K:Bool→ac→Prop)(h:ac):Prop where
 run:∀w:World,w.heap=h→∃fn tmps assign body,(Instr.yield l args.toArray).run P w=.ok (.round l fn tmps assign body) w∧
  ∀(c:Frame) (cs:List Frame),∃b w',Tame w w'∧K b w'.heap∧Steps P (lone (Frame.round l fn tmps assign body .normal) (c::cs) w) (lone (c.finish (.bool b)) cs w')
structure HV(P:Program)(fv:Value)(args:List Value)(ks:List Kind)(K:vh ks→ac→Prop)(h:ac):Prop where
 run:(∃f first cap,fv=.func (.func f) first cap∧HC P f (first.toList++args++cap.toList) ks K h)∨
  (∃l,fv=.func (.yield l) #[] #[]∧HY P l args (fun b h'=>DW ks [.bool b] fun t=>K t h') h)
noncomputable def CondP(b:Bool)(t e:Prop):Prop:=Bool.rec (motive:=fun _=>Prop) e t b
theorem CondP.yes{b:Bool}{t e:Prop}(h:CondP b t e)(a:b=true):t:=by subst a;exact h
theorem CondP.no{b:Bool}{t e:Prop}(h:CondP b t e)(a:b=false):e:=by subst a;exact h
theorem CondP.intro{b:Bool}{t e:Prop}(c:b=true→t)(a:b=false→e):CondP b t e:=by cases b;exact a rfl;exact c rfl
theorem ar{t e:Prop}:CondP true t e↔t:=wI
theorem ai{t e:Prop}:CondP false t e↔e:=wI
attribute [irreducible] CondP
def At(h:ac)(k:ac→Prop):Prop:=k h
def Bd{T:Type}(x:T)(k:T→Prop):Prop:=k x
structure Join{T:Type}(rest:T→ac→Prop)(k:(T→ac→Prop)→Prop):Prop where
 run:k rest
structure LoopP{T:Type}(F:(T→ac→Prop)→T→ac→Prop)(t:T)(h:ac):Prop where
 run:∀I:T→ac→Prop,(∀t h,F I t h→I t h)→I t h
abbrev cA:=List (Nat×Value)
noncomputable def kg(r:cA)(t:Nat):Option Value:=
 fh (motive:=fun _=>Option Value) none (fun a _ b=>bif bB a.1 t then some a.2 else b) r
theorem EP(k:Nat)(v:Value)(r:cA)(t:Nat):kg ((k,v)::r) t=bif bB k t then some v else kg r t:=rfl
noncomputable def dd(r:cA):Operand→Option Value
 | .tmp t=>kg r t
 | .const v=>some v
 | .global g=>some (.pointer (some ⟨g,0,none⟩))
 | .func f=>some (.func (.func f) #[] #[])
noncomputable def oy(r:cA):List Operand→Option (List Value)
 | []=>some []
 |o::os=>match dd r o,oy r os with
  |some v,some vs=>some (v::vs)
  |_,_=>none
noncomputable def IE:List CK→Nat→Addr→ac→(List Value→Prop)→Prop
 | [],_,_,_,k=>k []
 |c::cs,i,a,h,k=>∃x:c.den,aI h (adr a i)=some (c.enc x)∧IE cs (i+1) a h fun vs=>k (c.enc x::vs)
noncomputable def tU:List Value→Nat→Addr→ac→Prop
 | [],_,_,_=>True
 | [v],i,a,h=>aI h (adr a i)=some v
 |v::u::vs,i,a,h=>aI h (adr a i)=some v∧tU (u::vs) (i+1) a h
abbrev RK:=Value→Option (ac→Prop)→Prop
noncomputable def JR(P:Program)(t:TypeId)(v:Value)(K:RK)(h:ac):Prop:=
 match v with
 | .pointer (some a)=>
  match E5 P t with
  |some (.c c)=>∃x:c.den,aI h a=some (c.enc x)∧K (c.enc x) (some fun h'=>aI h' a=some (c.enc x))
  |some (.agg cs)=>IE cs 0 a h fun vs=>K (.agg vs.toArray) (some fun h'=>tU vs 0 a h')
  |none=>False
 |_=>False
def xD(P:Program)(t:TypeId)(f:Nat):Option (TypeId×Nat):=
 match P.underlying t with
 |some (.struct fs)=>match fs.toList[f]? with
  |some g=>some (g.type,g.offset)
  |none=>none
 |_=>none
def wM(P:Program)(t:TypeId):Option TypeId:=
 match P.underlying t with
 |some (.slice e)=>some e
 |_=>none
def Lv(c:BinOp)(k:IntKind)(a b:Int)(K:RK):Prop:=
 match c with
 | .shl=>0≤b∧K (.int k (k.wrap (a*2^(min b.toNat k.bits)))) none
 | .shr=>0≤b∧K (.int k (a.fdiv (2^(min b.toNat k.bits)))) none
 |_=>False
def Tu(c:BinOp)(k:IntKind)(a b:Int)(K:RK):Prop:=
 match c with
 | .add=>K (.int k (k.wrap (a+b))) none
 | .sub=>K (.int k (k.wrap (a-b))) none
 | .mul=>K (.int k (k.wrap (a*b))) none
 | .quo=>b≠0∧K (.int k (k.wrap (a.tdiv b))) none
 | .rem=>b≠0∧K (.int k (a.tmod b)) none
 | .and=>K (.int k (k.wrap (ak k.bits a&&&ak k.bits b).toNat)) none
 | .or=>K (.int k (k.wrap (ak k.bits a|||ak k.bits b).toNat)) none
 | .xor=>K (.int k (k.wrap (ak k.bits a^^^ak k.bits b).toNat)) none
 | .andNot=>K (.int k (k.wrap (ak k.bits a&&& ~~~ak k.bits b).toNat)) none
 | .eql=>K (.bool (a==b)) none
 | .neq=>K (.bool (a !=b)) none
 | .lss=>K (.bool (decide (a<b))) none
 | .leq=>K (.bool (decide (a≤b))) none
 | .gtr=>K (.bool (decide (a>b))) none
 | .geq=>K (.bool (decide (a≥b))) none
 |_=>False
def S7(c:BinOp)(a b:ByteArray)(K:RK):Prop:=
 match c with
 | .add=>((a.size+b.size:Nat):Int)≤9223372036854775807∧K (.string (a++b)) none
 | .eql=>K (.bool (a.toList==b.toList)) none
 | .neq=>K (.bool (!(a.toList==b.toList))) none
 | .lss=>K (.bool (Op.bytesLess a.toList b.toList)) none
 | .leq=>K (.bool (Op.bytesLess a.toList b.toList||a.toList==b.toList)) none
 | .gtr=>K (.bool (!(Op.bytesLess a.toList b.toList||a.toList==b.toList))) none
 | .geq=>K (.bool (!(Op.bytesLess a.toList b.toList))) none
 |_=>False
def fa(h:ac)(a:Addr):Prop:=(∃c e,h[a.block]? =some (.cells c e (0,0))∧0<c.size)
def RO(P:Program)(t:TypeId)(neg:Bool)(x y:Value)(K:RK):Prop:=
 match P.underlying t,x,y with
 |some (.pointer _),.pointer a,.pointer none=>K (.bool (bif neg then !a.isNone else a.isNone)) none
 |some (.map _ _),.map a,.map none=>K (.bool (bif neg then !a.isNone else a.isNone)) none
 |some (.slice _),.slice a _ _,.slice none _ _=>K (.bool (bif neg then !a.isNone else a.isNone)) none
 |_,_,_=>False
def Tt:Operand→Bool
 | .const (.pointer none)=>true
 | .const (.map none)=>true
 | .const (.slice none 0 0)=>true
 |_=>false
def UZ(P:Program)(t:TypeId)(neg:Bool)(x y:Value)(K:RK)(h:ac):Prop:=
 match P.underlying t,x,y with
 |some .bool,.bool a,.bool b=>K (.bool (bif neg then !(a==b)else a==b)) none
 |some (.pointer e),.pointer a,.pointer b=>
  (bif bB (bM P e) 0 then False else True)∧
  (∀x y,a=some x→b=some y→fa h x∧fa h y)∧
  K (.bool (bif neg then !(a==b)else a==b)) (some fun h'=>∀x y,a=some x→b=some y→fa h' x∧fa h' y)
 |_,_,_=>False
def Th(P:Program)(c:BinOp)(t:TypeId)(x y:Value)(K:RK)(h:ac):Prop:=
 match x,y with
 | .int k a,.int k' b=>
  match c with
  | .shl=>Lv .shl k a b K
  | .shr=>Lv .shr k a b K
  |c=>bif Iw k' k then Tu c k a b K else False
 | .string a,.string b=>S7 c a b K
 |x,y=>match c with
  | .eql=>UZ P t false x y K h
  | .neq=>UZ P t true x y K h
  |_=>False
def sE(h:ac):List (Option Addr×Option Addr)→Prop
 | []=>True
 |(a,b)::l=>(∀x y,a=some x→b=some y→fa h x∧fa h y)∧sE h l
def Qp(P:Program)(t:TypeId)(x y:Value):Option (Bool×List (Option Addr×Option Addr)):=
 match P.underlying t,x,y with
 |some (.int _),.int k a,.int k' b=>bif Iw k' k then some (a==b,[])else none
 |some .bool,.bool a,.bool b=>some (a==b,[])
 |some .string,.string a,.string b=>some (a.toList==b.toList,[])
 |some (.pointer e),.pointer a,.pointer b=>bif bB (bM P e) 0 then none else some (a==b,[(a,b)])
 |_,_,_=>none
def Sk(P:Program)(rec:TypeId→List Value→List Value→Option (Bool×List (Option Addr×Option Addr)))(xs ys:List Value):List Field→Option (Bool×List (Option Addr×Option Addr))
 | []=>some (true,[])
 |f::fs=>
  if f.name= "_" then none else
  bif (P.underlying f.type).isSome&&(P.info? f.type).isSome then
   match(bif wC P f.type then rec f.type ((xs.drop f.offset).take (bM P f.type)) ((ys.drop f.offset).take (bM P f.type))
    else match xs[f.offset]?,ys[f.offset]? with|some x,some y=>Qp P f.type x y|_,_=>none),Sk P rec xs ys fs with
   |some (b,l),some (c,m)=>some (b&&c,l++m)
   |_,_=>none
  else none
def Qq(P:Program):Nat→TypeId→List Value→List Value→Option (Bool×List (Option Addr×Option Addr))
 |0,_,_,_=>none
 |d+1,t,xs,ys=>match P.underlying t with
  |some (.struct fs)=>bif P.stoodInHeld t then none else Sk P (Qq P d) xs ys fs.toList
  |_=>none
def Vy(neg b:Bool)(K:RK)(h:ac):List (Option Addr×Option Addr)→Prop
 | []=>K (.bool (bif neg then !b else b)) none
 |p::l=>sE h (p::l)∧K (.bool (bif neg then !b else b)) (some fun h'=>sE h' (p::l))
def Ti(P:Program)(a:BinOp)(t:TypeId)(xs ys:List Value)(K:RK)(h:ac):Prop:=
 bif P.eqGuardType P.depth t then False else
 match a with
 | .eql=>(match Qq P 10 t xs ys with|some (b,l)=>Vy false b K h l|none=>False)
 | .neq=>(match Qq P 10 t xs ys with|some (b,l)=>Vy true b K h l|none=>False)
 |_=>False
def Vi(a:UnOp)(x:Value)(K:RK):Prop:=
 match a,x with
 | .neg,.int k n=>K (.int k (k.wrap (0-n))) none
 | .xor,.int k n=>K (.int k (k.wrap (ak k.bits (if k.signed then-1 else k.max)^^^ak k.bits n).toNat)) none
 | .not,.bool b=>K (.bool (!b)) none
 |_,_=>False
def dN(s:ByteArray):List Value:=s.data.toList.map fun b=>.int .u8 b.toNat
noncomputable def Row(h:ac)(a:Addr)(vs:List Value):Prop:=∀i v,vs[i]? =some v→aI h (adr a i)=some v
noncomputable def SRow(h:ac)(a:Option Addr)(n:Nat)(vs:List Value):Prop:=vs.length=n∧(vs= []∨∃b,a=some b∧Row h b vs)
def L8(P:Program)(e:TypeId):Bool:=match P.underlying e with|some (.int .u8)=>true|_=>false
def Ts(P:Program)(s d:TypeId):Bool:=
 match P.underlying s,P.underlying d with
 |some .string,some (.slice e)=>L8 P e
 |_,_=>false
def ByP(e:TypeId)(s:ByteArray)(h:ac)(K:Nat→ac→Prop):Prop:=
 ∀c,s.size≤c→K c (h.push (.cells (dN s++fR (c-s.size) (Value.int .u8 0)).toArray e (c,c+1)))
noncomputable def PP(P:Program)(b c:TypeId)(x:Value)(K:RK)(h:ac):Prop:=
 match P.underlying b,P.underlying c,x with
 |some (.int _),some (.int k),.int _ n=>K (.int k (k.wrap n)) none
 |some .string,some .string,.string s=>K (.string s) none
 |some (.slice e),some .string,.slice a n _=>bif L8 P e then∃s:ByteArray,SRow h a n (dN s)∧K (.string s) (some fun h'=>SRow h' a n (dN s))else False
 |_,_,_=>False
def QL(v:Option Value)(d y:Nat)(K:Nat→Prop):Prop:=
 match v with
 |none=>K d
 |some (.int _ i)=>(0≤i∧i≤y)∧K i.toNat
 |_=>False
noncomputable def aJ(a:Option Addr)(l m size:Nat):Option Addr:=if m=l then a else a.map (adr · (l*size))
def PW(P:Program)(t:TypeId)(K:Prop):Prop:=match P.info? t with|some _=>K|none=>False
noncomputable def LI(P:Program)(t:TypeId)(x:Value)(lo hi b:Option Value)(K:RK):Prop:=
 match P.underlying t,x with
 |some .string,.string s=>match b with
  |some _=>False
  |none=>QL hi s.size s.size fun h=>QL lo 0 h fun l=>K (.string (s.extract l h)) none
 |some (.slice e),.slice a len cap=>PW P e (
  match b with
  |none=>QL hi len cap fun h=>QL lo 0 h fun l=>K (.slice (aJ a l cap (bM P e)) (h-l) (cap-l)) none
  |some m=>match hi with
   |none=>False
   |some hi=>QL (some m) 0 cap fun m=>QL (some hi) 0 m fun h=>QL lo 0 h fun l=>K (.slice (aJ a l m (bM P e)) (h-l) (m-l)) none)
 |some (.array n e),.pointer (some a)=>PW P e (
  match b with
  |none=>QL hi n n fun h=>QL lo 0 h fun l=>K (.slice (aJ (some a) l n (bM P e)) (h-l) (n-l)) none
  |some _=>False)
 |_,_=>False
noncomputable def G7(r:cA):Option Operand→Option (Option Value)
 |none=>some none
 |some o=>match dd r o with
  |some v=>some (some v)
  |none=>none
noncomputable def zn(P:Program)(t:TypeId)(x i:Value)(K:RK):Prop:=
 match P.underlying t,x,i with
 |some (.array n e),.pointer (some a),.int _ i=>PW P e ((0≤i∧i<n)∧K (.pointer (some (adr a (i.toNat*bM P e)))) none)
 |some (.slice e),.slice b len _,.int _ i=>PW P e ((0≤i∧i<len)∧∃a,b=some a∧K (.pointer (some (adr a (i.toNat*bM P e)))) none)
 |_,_,_=>False
def LK(P:Program)(t:TypeId)(x i:Value)(K:RK):Prop:=
 match P.underlying t,x,i with
 |some .string,.string s,.int _ i=>∃b:UInt8,0≤i∧s[i.toNat]? =some b∧K (.int .u8 b.toNat) none
 |_,_,_=>False
noncomputable def LL(P:Program)(t:TypeId)(x:Value)(f:Nat)(K:RK):Prop:=
 match xD P t f,x with
 |some (u,off),.agg cs=>bif (P.underlying u).isSome&&(P.info? u).isSome then(bif wC P u then K (.agg ((cs.toList.drop off).take (bM P u)).toArray) none
  else(match cs.toList[off]? with|some v=>K v none|none=>False))else False
 |_,_=>False
def SK(c a b:Value)(K:RK):Prop:=
 match c with
 | .bool c=>(match a,b with
  | .bool x,.bool y=>K (.bool (bif c then x else y)) none
  |_,_=>(match c with|true=>K a none|false=>K b none))
 |_=>False
def fG:Value→Value→Bool
 | .int _ a,.int _ b=>a==b
 | .string a,.string b=>a==b
 | .bool a,.bool b=>a==b
 |_,_=>false
def Fe(k:Value):List MapEntry→Option Value
 | []=>none
 |e::es=>if fG k e.key then some e.val else Fe k es
def keysOf(c:CK)(es:List MapEntry):Prop:=∀e∈es,∃x:c.den,e.key=c.enc x
def kG(c:CK)(z:Value)(h:ac)(m:Option Nat)(k v:Value)(ok:Bool):Prop:=
 match m with
 |none=>v=z∧ok=false
 |some r=>∃es clock,h[r]? =some (.map es clock)∧keysOf c es.toList∧
  (match Fe k es.toList with|some u=>v=u∧ok=true|none=>v=z∧ok=false)
def Ki(P:Program)(t:TypeId):Option (CK×TypeId):=
 match P.underlying t with
 |some (.map k e)=>match P.underlying k with
  |some (.int i)=>some (.int i,e)
  |some .string=>some (.str,e)
  |some .bool=>some (.bool,e)
  |_=>none
 |_=>none
def H8(P:Program)(t:TypeId)(x k:Value)(ok:Bool)(K:RK)(h:ac):Prop:=
 match Ki P t,x with
 |some (c,e),.map m=>c.dec k fun _=>
  (match E5 P e,yF P e with
   |some ek,some z=>∃(y:ek.den) (b:Bool),kG c z h m k (ek.enc y) b∧
    K (bif ok then .tuple #[ek.enc y,.bool b]else ek.enc y) (some fun h'=>kG c z h' m k (ek.enc y) b)
   |_,_=>False)
 |_,_=>False
def Cy(h:ac)(m:Option Nat)(n:Nat):Prop:=
 match m with
 |none=>n=0
 |some r=>∃es clock,h[r]? =some (.map es clock)∧n=es.size
def NO(c:Bool)(h:ac)(m:Option Nat)(n:Nat):Prop:=
 match m with
 |none=>n=0
 |some r=>∃cap buf cl s q,h[r]? =some (.chan cap buf cl s q false)∧n=bif c then cap else buf.size
def Tf(P:Program)(t:TypeId)(x:Value)(K:RK)(h:ac):Prop:=
 match P.underlying t,x with
 |some .string,.string s=>K (.int .i64 s.size) none
 |some (.array n _),_=>K (.int .i64 n) none
 |some (.slice _),.slice _ n _=>K (.int .i64 n) none
 |some (.map _ _),.map m=>∃n:Nat,Cy h m n∧K (.int .i64 n) (some fun h'=>Cy h' m n)
 |some (.chan _ _),.chan m=>∃n:Nat,NO false h m n∧K (.int .i64 n) (some fun h'=>NO false h' m n)
 |_,_=>False
def Tg(P:Program)(t:TypeId)(x:Value)(K:RK)(h:ac):Prop:=
 match P.underlying t,x with
 |some (.slice _),.slice _ _ n=>K (.int .i64 n) none
 |some (.chan _ _),.chan m=>∃n:Nat,NO true h m n∧K (.int .i64 n) (some fun h'=>NO true h' m n)
 |_,_=>False
def Il(c:Bool)(k:IntKind):Int→List Value→(Value→Prop)→Prop
 |a,[],f=>f (.int k a)
 |a,.int k' b::vs,f=>bif Iw k' k then Il c k (bif c then(if b>a then b else a)else(if b<a then b else a)) vs f else False
 |_,_,_=>False
def Ec(b:Bool)(vs:List Value)(f:Value→Prop):Prop:=
 match vs with
 | .int k a::vs=>Il b k a vs f
 |_=>False
def Cz(h:ac)(i:Nat)(e:MapEntry):Prop:=
 ∃m since seen last stamp es,h[i]? =some (.mapIter (some m) since seen last)∧seen.back? =some stamp∧h[m]? =some (.map es last)∧es.find? (fun e=>e.born==stamp)=some e
def qK(P:Program)(t:TypeId):Bool:=match P.underlying t with|some (.interface _)=>false|some _=>true|none=>false
def Nh(P:Program)(t:TypeId)(x:Value)(K:RK):Prop:=
 bif qK P t then(match E5 P t with
  |some k=>∃y:k.den,x=.iface t (k.enc y)∧K (k.enc y) none
  |none=>False)else False
def JV(cs:List Value)(off:Nat)(vs:List Value):List Value:=cs.take off++vs++cs.drop (off+vs.length)
def Ds(a:Nat→Option (Nat×Nat)):List Value→List (Nat×Value)→Option (List Value)
 |cs,[]=>some cs
 |cs,(i,v)::rest=>match a i with
  |none=>none
  |some (off,size)=>bif bB v.cells.toList.length size&&yq (off+v.cells.toList.length) cs.length then Ds a (JV cs off v.cells.toList) rest else none
noncomputable def qJ(r:cA):List (Nat×Operand)→Option (List (Nat×Value))
 | []=>some []
 |(i,o)::ps=>match dd r o,qJ r ps with
  |some v,some vs=>some ((i,v)::vs)
  |_,_=>none
def rt(P:Program)(t:TypeId):Option (List Value):=match yF P t with|some z=>some z.cells.toList|none=>none
def dq(n:Nat)(z:List Value):List Value:=(fR n z).flatten
def yk(P:Program)(t:TypeId):Bool:=match P.info? t with|some _=>true|none=>false
def AV(P:Program):List Field→Bool
 | []=>true
 |f::fs=>bif yk P f.type then AV P fs else false
def LR(P:Program)(a:List Field)(i:Nat):Option (Nat×Nat):=match a[i]? with|some f=>some (f.offset,bM P f.type)|none=>none
def IP(P:Program)(t:TypeId)(a:List (Nat×Value)):Option (List Value):=
 match P.underlying t,rt P t with
 |some (.struct fs),some z=>bif AV P fs.toList then Ds (LR P fs.toList) z a else none
 |some (.array _ e),some z=>bif yk P e then Ds (fun i=>some (i*bM P e,bM P e)) z a else none
 |_,_=>none
noncomputable def BJ(P:Program)(ek:Option (Kind×Kind))(o:Op)(r:cA)(K:RK)(h:ac):Prop:=
 match o with
 | .entry it=>match dd r it,ek with
  |some (.pointer (some a)),some (kk,vk)=>a.off=0∧∃(e:MapEntry) (x:kk.den) (y:vk.den),Cz h a.block e∧e.key=kk.enc x∧e.val=vk.enc y∧
    K (.tuple #[kk.enc x,vk.enc y]) (some fun h'=>Cz h' a.block e)
  |_,_=>False
 | .move x| .assign x=>match dd r x with|some v=>K v none|none=>False
 | .load t a=>match dd r a with|some v=>JR P t v K h|none=>False
 | .nilCheck x=>match dd r x with|some (.pointer p)=>∃a,p=some a∧K (.pointer (some a)) none|_=>False
 | .binOp op t x y _=>match dd r x,dd r y with
  |some (.agg v),some (.agg u)=>Ti P op t v.toList u.toList K h
  |some v,some u=>(match op,Tt y with
   | .eql,true=>RO P t false v u K
   | .neq,true=>RO P t true v u K
   |op,_=>Th P op t v u K h)
  |_,_=>False
 | .unOp op _ x=>match dd r x with|some v=>Vi op v K|none=>False
 | .convert s d x=>match dd r x with|some v=>PP P s d v K h|none=>False
 | .pick c a b=>match dd r c,dd r a,dd r b with|some c,some a,some b=>SK c a b K|_,_,_=>False
 | .extract x i=>match dd r x with
  |some (.tuple vs)=>(match vs.toList[i]? with|some v=>K v none|none=>False)
  |_=>False
 | .fieldAddr t x f=>match dd r x,xD P t f with
  |some (.pointer (some a)),some (u,off)=>bif bB (bM P u) 0 then False else K (.pointer (some (adr a off))) none
  |_,_=>False
 | .field t x f=>match dd r x with|some v=>LL P t v f K|none=>False
 | .indexAddr t x i=>match dd r x,dd r i with|some v,some u=>zn P t v u K|_,_=>False
 | .index t x i=>match dd r x,dd r i with|some v,some u=>LK P t v u K|_,_=>False
 | .slice t x lo hi mx=>match dd r x,G7 r lo,G7 r hi,G7 r mx with
  |some v,some l,some h',some m=>LI P t v l h' m K
  |_,_,_,_=>False
 | .lookup t x k ok=>match dd r x,dd r k with|some v,some u=>H8 P t v u ok K h|_,_=>False
 | .makeInterface t x=>match dd r x with|some v=>bif qK P t then K (.iface t v) none else False|none=>False
 | .typeAssert x _ t ok=>match dd r x with|some v=>bif ok then False else Nh P t v K|none=>False
 | .build t ps=>match qJ r ps.toList with
  |some vs=>(match IP P t vs with|some cs=>K (.agg cs.toArray) none|none=>False)
  |none=>False
 | .makeFunc fn first cap=>match oy r first.toList,oy r cap.toList with
  |some vs,some us=>K (.func fn vs.toArray us.toArray) none
  |_,_=>False
 | .call c=>match c.callee,oy r c.args.toList,c.argTypes.toList with
  | .builtin .len,some [v],[t]=>Tf P t v K h
  | .builtin .cap,some [v],[t]=>Tg P t v K h
  | .builtin .min,some vs,_=>Ec false vs fun v=>K v none
  | .builtin .max,some vs,_=>Ec true vs fun v=>K v none
  |_,_,_=>False
 |_=>False
abbrev WK:=Value→ac→Prop
def aO(h:ac):Addr:=⟨h.size,0,none⟩
def hnew(h:ac)(cs:List Value)(t:TypeId):ac:=h.push (.cells cs.toArray t (0,0))
def ce:List Value→Bool
 | []=>true
 |v::vs=>(match v with| .agg _=>false| .tuple _=>false|_=>true)&&ce vs
noncomputable def hH(h:ac)(a:Addr):Nat→List Value→ac
 |_,[]=>h
 |i,v::vs=>hH (hset h (adr a i) v) a (i+1) vs
noncomputable def fc(h:ac)(a:Option Addr)(i:Nat)(vs:List Value):ac:=match a with|some a=>hH h a i vs|none=>h
noncomputable def sw(h:ac)(a:Option Addr)(i:Nat)(vs:List Value):Prop:=vs= []∨∃b,a=some b∧∀j,j<vs.length→Wr h (adr b (i+j))
noncomputable def Lj(P:Program)(t:TypeId)(a v:Value)(K:WK)(h:ac):Prop:=
 match a with
 | .pointer (some a)=>bif bB v.cells.toList.length (bM P t)&&ce v.cells.toList then PW P t
   (match v.cells.toList with
    | [v]=>Wr h a∧K undef (hset h a v)
    |vs=>sw h (some a) 0 vs∧K undef (hH h a 0 vs))
  else False
 |_=>False
noncomputable def QR(P:Program)(e:TypeId)(a:Option Addr)(sl c b:Nat)(xs:List Value)(K:WK)(h:ac):Prop:=
 (sl+b≤c→sw h a (sl*bM P e) xs∧ce xs=true∧K (.slice a (sl+b) c) (fc h a (sl*bM P e) xs))∧
 (c<sl+b→∃old z,SRow h a (sl*bM P e) old∧rt P e=some z∧0<rG P e∧Builtin.nextslicecap (sl+b) c*rG P e≤2^48∧
  ∀nc,sl+b≤nc→K (.slice (some (aO h)) (sl+b) nc) (hnew h (old++xs++dq (nc-(sl+b)) z) e))
noncomputable def D7(P:Program)(t:TypeId)(s x:Value)(K:WK)(h:ac):Prop:=
 match wM P t,s,x with
 |some e,.slice b sl sc,.slice a xl _=>PW P e (∃xs,SRow h a (xl*bM P e) xs∧QR P e b sl sc xl xs K h)
 |some e,.slice b sl sc,.string x=>bif bB (bM P e) 1 then QR P e b sl sc x.size (dN x) K h else False
 |_,_,_=>False
noncomputable def Es(P:Program)(t:TypeId)(s x:Value)(K:WK)(h:ac):Prop:=
 match wM P t,s,x with
 |some e,.slice b sl sc,.int _ l=>(match rt P e with
  |some z=>bif bB z.length (bM P e)then(0≤l∧l*rG P e≤2^48∧l≤9223372036854775807∧((sl+l.toNat:Nat):Int)≤9223372036854775807)∧QR P e b sl sc l.toNat (dq l.toNat z) K h else False
  |none=>False)
 |_,_,_=>False
noncomputable def Lk(P:Program)(t:TypeId)(x:Value)(K:WK)(h:ac):Prop:=
 match wM P t,x with
 |some e,.slice a n _=>(match rt P e with
  |some z=>bif ce z then sw h a 0 (dq n z)∧K (.tuple #[]) (fc h a 0 (dq n z))else False
  |none=>False)
 |_,_=>False
noncomputable def Pn(P:Program)(t:TypeId)(d s:Value)(K:WK)(h:ac):Prop:=
 match wM P t,d,s with
 |some e,.slice b dl _,.slice a sl _=>PW P e (∃xs,SRow h a (dD sl dl*bM P e) xs∧sw h b 0 xs∧ce xs=true∧K (.int .i64 (dD sl dl)) (fc h b 0 xs))
 |some e,.slice b dl _,.string x=>bif bB (bM P e) 1 then sw h b 0 ((dN x).take dl)∧K (.int .i64 (dD x.size dl)) (fc h b 0 ((dN x).take dl))else False
 |_,_,_=>False
def Ib(k v:Value)(a:Nat):List MapEntry→List MapEntry×Nat
 | []=>([{key:=k,val:=v,born:=a}],a+1)
 |e::es=>if fG k e.key then({e with key:=k,val:=v}::es,a)else let r:=Ib k v a es;(e::r.1,r.2)
def Fp(k:Value):List MapEntry→List MapEntry
 | []=> []
 |e::es=>if fG k e.key then es else e::Fp k es
def wP(c:CK)(h:ac)(r:Nat):Prop:=∃es clock,h[r]? =some (.map es clock)∧keysOf c es.toList
def oz(h:ac)(r:Nat)(k v:Value):ac:=
 match h[r]? with
 |some (.map es clock)=>h.setIfInBounds r (.map (Ib k v clock es.toList).1.toArray (Ib k v clock es.toList).2)
 |_=>h
def wL(h:ac)(r:Nat)(k:Value):ac:=
 match h[r]? with
 |some (.map es clock)=>h.setIfInBounds r (.map (Fp k es.toList).toArray clock)
 |_=>h
def D6(P:Program)(t:TypeId)(m k v:Value)(K:WK)(h:ac):Prop:=
 match Ki P t,m with
 |some (c,_),.map m=>c.dec k fun _=>∃r,m=some r∧wP c h r∧K undef (oz h r k v)
 |_,_=>False
def Ep(P:Program)(t:TypeId)(m k:Value)(K:WK)(h:ac):Prop:=
 match Ki P t,m with
 |some (c,_),.map m=>c.dec k fun _=>(m=none∧K (.tuple #[]) h)∨(∃r,m=some r∧wP c h r∧K (.tuple #[]) (wL h r k))
 |_,_=>False
def PM(P:Program):List TypeId→Option (List Kind)
 | []=>some []
 |t::ts=>match E5 P t,PM P ts with
  |some k,some ks=>some (k::ks)
  |_,_=>none
def PN(P:Program)(t:TypeId):Option (List Kind):=
 match P.underlying t with
 |some (.tuple ts)=>PM P ts.toList
 |_=>PM P [t]
noncomputable def SE(P:Program)(f:Operand)(r:cA)(args:List Value)(t:TypeId)(K:WK)(h:ac):Prop:=
 match PN P t with
 |none=>False
 |some ks=>match f with
  | .func f=>HC P f args ks (fun x h'=>K (DQ ks (nn ks x)) h') h
  |f=>match dd r f with
   |some fv=>HV P fv args ks (fun x h'=>K (DQ ks (nn ks x)) h') h
   |none=>False
def Pm(b:Value)(K:WK)(h:ac):Prop:=
 match b with
 | .pointer (some a)=>a.off=0∧
  ∃m since seen last,h[a.block]? =some (.mapIter m since seen last)∧
   ((m=none∧K (.tuple #[.bool false]) h)∨
    (∃r es clock,m=some r∧h[r]? =some (.map es clock)∧(seen.isEmpty=true∨es.isEmpty=true∨es.all (fun e=>decide (e.born≥last))=false)∧
     ((∀e∈es.toList,e.born<since→seen.contains e.born=true)→K (.tuple #[.bool false]) h)∧
     (∀e∈es.toList,seen.contains e.born=false→K (.tuple #[.bool true,e.key,e.val]) (h.setIfInBounds a.block (.mapIter (some r) since (seen.push e.born) clock)))))
 |_=>False
noncomputable def F4(P:Program)(o:Oper)(r:cA)(K:WK)(h:ac):Prop:=
 match o.op with
 | .alloc t=>(match rt P t with|some z=>K (.pointer (some (aO h))) (hnew h z t)|none=>False)
 | .box t x=>(match dd r x with|some v=>K (.pointer (some (aO h))) (hnew h v.cells.toList t)|none=>False)
 | .build t ps=>(match qJ r ps.toList with
  |some vs=>(match IP P t vs with|some cs=>K (.agg cs.toArray) h|none=>False)
  |none=>False)
 | .buildSlice t n ps=>(match wM P t,qJ r ps.toList with
  |some e,some vs=>(match rt P e with
   |some z=>bif yq (n*bM P e) 16777216&&bB z.length (bM P e)then
     (match Ds (fun i=>some (i*bM P e,bM P e)) (dq n z) vs with|some cs=>K (.slice (some (aO h)) n n) (hnew h cs e)|none=>False)
    else False
   |none=>False)
  |_,_=>False)
 | .store t a x=>(match dd r a,dd r x with|some a,some v=>Lj P t a v K h|_,_=>False)
 | .mapUpdate t m k x=>(match dd r m,dd r k,dd r x with|some m,some k,some v=>D6 P t m k v K h|_,_,_=>False)
 | .insert t m k x=>(match dd r m,dd r k,dd r x with|some m,some k,some v=>D6 P t m k v K h|_,_,_=>False)
 | .makeMap t n=>(match n with
  |none=>K (.map (some h.size)) (h.push (.map #[] 0))
  |some n=>(match dd r n,P.underlying t with|some (.int _ _),some (.map _ _)=>K (.map (some h.size)) (h.push (.map #[] 0))|_,_=>False))
 | .makeSlice t l c=>(match wM P t,dd r l,dd r c with
  |some e,some (.int _ l),some (.int _ c)=>(match rt P e with
   |some z=>bif bB z.length (bM P e)then(0≤l∧l≤c∧c≤9223372036854775807∧rG P e*c≤2^48)∧K (.slice (some (aO h)) l.toNat c.toNat) (hnew h (dq c.toNat z) e)else False
   |none=>False)
  |_,_,_=>False)
 | .convert s d x=>(match P.underlying s,P.underlying d,dd r x with
  |some .string,some (.slice e),some (.string v)=>bif L8 P e then ByP e v h (fun c h'=>K (.slice (some (aO h)) v.size c) h')else False
  |_,_,_=>False)
 | .range t x=>(match P.underlying t,dd r x with
  |some (.map _ _),some (.map m)=>∃clock,(m=none∧clock=0∨∃r es,m=some r∧h[r]? =some (.map es clock))∧K (.pointer (some (aO h))) (h.push (.mapIter m clock #[] clock))
  |_,_=>False)
 | .next it false=>(match dd r it with|some it=>Pm it K h|none=>False)
 | .call c=>(match c.callee,oy r c.args.toList with
  | .builtin .append,some [s,x]=>(match c.argTypes.toList with| [t,u]=>(match P.underlying u with|some (.slice _)=>D7 P t s x K h|some .string=>D7 P t s x K h|some (.int _)=>Es P t s x K h|_=>False)|_=>False)
  | .builtin .clear,some [x]=>(match c.argTypes.toList with| [t]=>Lk P t x K h|_=>False)
  | .builtin .copy,some [d,s]=>(match c.argTypes.toList with| [t,_]=>Pn P t d s K h|_=>False)
  | .builtin .delete,some [m,k]=>(match c.argTypes.toList with| [t,_]=>Ep P t m k K h|_=>False)
  | .value f,some args=>SE P f r args o.type K h
  |_,_=>False)
 |_=>False
def wO(P:Program):Op→Bool
 | .convert s d _=> !Ts P s d
 | .alloc _| .box .. | .buildSlice .. | .store .. | .mapUpdate .. | .insert .. | .makeMap .. | .makeSlice .. | .range .. | .next .. =>false
 | .call c=>match c.callee with
  | .builtin .len| .builtin .cap| .builtin .min| .builtin .max=>true
  |_=>false
 |_=>true
def zF(N:Nat)(o:Oper)(v:Value)(r:cA)(K:cA→Prop):Prop:=
 match o.dst with
 |none=>K r
 |some d=>bif yp d N then K ((d,v)::r)else False
noncomputable def TP(P:Program)(N:Nat)(ek:Option (Kind×Kind))(o:Oper)(r:cA)(K:cA→ac→Prop)(h:ac):Prop:=
 bif wO P o.op then BJ P ek o.op r (fun v _=>zF N o v r fun a=>K a h) h
 else F4 P o r (fun v h'=>zF N o v r fun a=>K a h') h
inductive DV where
 |f|t|u|x
abbrev vG:=List (Nat×DV)
noncomputable def rO(d:vG)(t:Nat):DV:=
 fh (motive:=fun _=>DV) .x (fun a _ b=>bif bB a.1 t then a.2 else b) d
noncomputable def AO(d:vG):Operand→DV
 | .tmp t=>rO d t
 | .const (.bool true)=>.t
 | .const (.bool false)=>.f
 |_=>.x
noncomputable def Jl(d:vG):Op→DV
 | .move x=>AO d x
 | .assign x=>AO d x
 | .pick c a b=>match AO d c with
  | .t=>AO d a
  | .f=>AO d b
  |_=>.x
 | .unOp .not _ x=>match AO d x with
  | .t=>.f
  | .f=>.t
  |_=>.x
 |_=>.x
def si(d:vG)(o:Oper)(v:DV):vG:=match o.dst with|some t=>(t,v)::d|none=>d
noncomputable def jb(ops:List Oper)(d:vG)(o:Oper):Option Bool:=
 match o.guard with
 |none=>some true
 |some (j,want)=>match ops[j]? with
  |none=>none
  |some oj=>match oj.dst with
   |none=>none
   |some t=>match rO d t with
    | .t=>some want
    | .f=>some (!want)
    | .u=>some false
    | .x=>none
def Fa(ops:List Oper)(o:Oper):Option Nat:=
 match o.guard with
 |none=>none
 |some (j,_)=>match ops[j]? with
  |none=>none
  |some oj=>oj.dst
noncomputable def GS(P:Program)(N:Nat)(ek:Option (Kind×Kind))(ops:List Oper)(o:Oper)(d:vG)(r:cA)(h:ac)(K:vG→cA→ac→Prop):Prop:=
 match jb ops d o with
 |some true=>TP P N ek o r (K (si d o (Jl d o.op))) h
 |some false=>zF N o undef r fun a=>K (si d o .u) a h
 |none=>False
noncomputable def EL(P:Program)(N:Nat)(ek:Option (Kind×Kind))(ops:List Oper)(l:List Oper):vG→(cA→ac→Prop)→cA→ac→Prop:=
 fh (motive:=fun _=>vG→(cA→ac→Prop)→cA→ac→Prop) (fun _ K r h=>K r h)
  (fun o _ c d K r h=>
  match jb ops d o with
  |some true=>TP P N ek o r (fun a h'=>c (si d o (Jl d o.op)) K a h') h
  |some false=>zF N o undef r fun a=>c (si d o .u) K a h
  |none=>match Fa ops o with
   |none=>False
   |some t=>match kg r t with
    |some (.bool b)=>CondP b
     (GS P N ek ops o ((t,.t)::d) ((t,.bool true)::r) h fun e a h'=>c e K a h')
     (GS P N ek ops o ((t,.f)::d) ((t,.bool false)::r) h fun e a h'=>c e K a h')
    |_=>False) l
inductive DA where
 |done
 |take (i:Nat) (rest:DA)
 |all (l:DA)
 |pick (i:Nat) (rest more:DA)
 |last (i:Nat) (rest:DA)
 |lastT (i:Nat) (rest:DA)
 |split (t:Nat) (yes no:DA)
abbrev rH:=List (Nat×(ac→Prop))
def tb(m i:Nat):Bool:=bB (jF (Nat.shiftRight m i) 1) 1
def gJ(i:Nat):Nat:=Nat.pow 2 i
inductive DM where
 |mk (am fr lk ds:Nat)
def DM.am:DM→Nat| .mk a _ _ _=>a
def DM.fr:DM→Nat| .mk _ f _ _=>f
def DM.lk:DM→Nat| .mk _ _ l _=>l
def DM.ds:DM→Nat| .mk _ _ _ d=>d
def jc(o:Oper)(i:Nat):Bool:=o.after.toList.any fun e=>bB e.on i&&Region.binds .any e
noncomputable def mK(l:List Edge):Nat:=
 fh (motive:=fun _=>Nat) 0 (fun e _ a=>bif Region.binds .any e then cK (gJ e.on) a else a) l
noncomputable def l5(l:List Operand):Nat:=
 fh (motive:=fun _=>Nat) 0 (fun o _ a=>match o with| .tmp t=>cK (gJ t) a|_=>a) l
def oq(o:Oper):Nat:=match o.dst with|some d=>gJ d|none=>0
noncomputable def oX(ops:List Oper)(o:Oper):Nat:=
 cK (l5 o.op.operands.toList) (match o.guard with
  |some (g,_)=>(match ops[g]? with|some og=>oq og|none=>0)
  |none=>0)
noncomputable def xo(ops:List Oper)(l:List Oper):List DM→Bool:=
 fh (motive:=fun _=>List DM→Bool) (fun ms=>match ms with| []=>true|_=>false)
  (fun o _ a ms=>match ms with
   |m::ms=>bB (mK o.after.toList) m.am&&bB (oX ops o) m.lk&&bB (oq o) m.ds&&a ms
   | []=>false) l
def Cw(x y:DM):Bool:=bB (jF x.ds (cK y.lk y.ds)) 0&&bB (jF y.ds x.lk) 0
noncomputable def Hq(i:Nat)(m:DM)(l:List DM):Nat→Bool:=
 fh (motive:=fun _=>Nat→Bool) (fun _=>true)
  (fun n _ a j=>(!(tb m.fr j)||bB j i||tb n.am i||Cw m n)&&a (fx j)) l
noncomputable def AL(all:List DM)(l:List DM):Nat→Bool:=
 fh (motive:=fun _=>Nat→Bool) (fun _=>true) (fun m _ a i=>Hq i m all 0&&a (fx i)) l
def Kd:List Oper→Bool
 | []=>true
 |o::os=>(match o.op with| .select .. =>false| .defer _=>false|_=>true)&&Kd os
noncomputable def Ed(ops:List Oper)(ms:List DM):Bool:=xo ops ops ms&&AL ms ms 0&&Kd ops
def pk(o:Oper):rH→rH
 | []=> []
 |(k,S)::l=>bif jc o k then pk o l else(k,S)::pk o l
def sH:rH→ac→Prop→Prop
 | [],_,R=>R
 |(_,S)::l,h,R=>S h∧sH l h R
def Jk(m:DM)(ls:Nat):Bool:=bB (jF m.am ls) m.am
noncomputable def ma(ls:Nat)(l:List DM):Nat→List Nat:=
 fh (motive:=fun _=>Nat→List Nat) (fun _=> []) (fun m _ a j=>bif !(tb ls j)&&Jk m ls then j::a (fx j)else a (fx j)) l
def ED(m:DM)(i ls n:Nat):Bool:= !(tb ls i)&&Jk m ls&&bB (jF (cK ls m.fr) (x7 (gJ n))) (x7 (gJ n))
def vU:List Nat→List Nat→Bool
 | [],[]=>true
 |a::as,b::bs=>bB a b&&vU as bs
 |_,_=>false
def Cj:DA→List Nat
 | .pick i _ l=>i::Cj l
 | .last i _=> [i]
 | .lastT i _=> [i]
 |_=> []
noncomputable def N3(P:Program)(N:Nat)(ops:List Oper)(i:Nat)(L:rH)(d:vG)(r:cA)(h:ac)(K:rH→vG→cA→ac→Prop):Prop:=
 match ops[i]? with
 |none=>False
 |some o=>match jb ops d o with
  |some true=>bif wO P o.op then BJ P none o.op r (fun v _=>zF N o v r fun a=>sH (pk o L) h (K (pk o L) (si d o .x) a h)) h else F4 P o r (fun v h'=>zF N o v r fun a=>sH (pk o L) h' (K (pk o L) (si d o .x) a h')) h
  |_=>False
noncomputable def O5(m:Nat)(l:List DM):Nat→Nat:=
 fh (motive:=fun _=>Nat→Nat) (fun _=>m) (fun n _ a j=>bif tb m j then cK n.am (a (fx j))else a (fx j)) l
noncomputable def AP(ms:List DM)(m:Nat):Nat:=O5 (O5 (O5 (O5 m ms 0) ms 0) ms 0) ms 0
def IW(ms:List DM)(i:Nat):Nat:=match ms[i]? with|some m=>m.am|none=>0
def As(m:Nat):rH→rH
 | []=> []
 |(k,S)::l=>bif tb m k then As m l else(k,S)::As m l
noncomputable def Nd(P:Program)(N:Nat)(ops:List Oper)(ms:List DM)(i:Nat)(L:rH)(d:vG)(r:cA)(h:ac)(K:rH→vG→cA→ac→Prop):Prop:=
 match ops[i]? with
 |none=>False
 |some o=>match jb ops d o with
  |some true=>bif wO P o.op then False else F4 P o r (fun v h'=>zF N o v r fun a=>sH (As (AP ms (IW ms i)) L) h' (K (As (AP ms (IW ms i)) L) (si d o .x) a h')) h
  |_=>False
noncomputable def nK(P:Program)(N:Nat)(ops:List Oper)(ms:List DM)(j:DA):Bool→Nat→rH→vG→(cA→ac→Prop)→cA→ac→Prop:=
 DA.rec (motive:=fun _=>Bool→Nat→rH→vG→(cA→ac→Prop)→cA→ac→Prop)
  (fun m ls _ _ K r h=>bif !m&&vU (ma ls ms 0) []then K r h else False)
  (fun i _ c m ls L d K r h=>
   match ops[i]?,ms[i]? with
   |some o,some mi=>bif !m&&ED mi i ls ops.length then
     (match jb ops d o with
      |none=>False
      |some false=>zF N o undef r fun a=>c false (cK ls (gJ i)) L (si d o .u) K a h
      |some true=>bif wO P o.op then
       BJ P none o.op r (fun v S=>zF N o v r fun a=>match S with
        |none=>c false (cK ls (gJ i)) L (si d o (Jl d o.op)) K a h
        |some S=>c false (cK ls (gJ i)) ((i,S)::L) (si d o (Jl d o.op)) K a h) h
       else False)
    else False
   |_,_=>False)
  (fun l c m ls L d K r h=>bif !m&&vU (ma ls ms 0) (Cj l)then c true ls L d K r h else False)
  (fun i _ _ e f m ls L d K r h=>bif m then N3 P N ops i L d r h (fun L' g a h'=>e false (cK ls (gJ i)) L' g K a h')∧f true ls L d K r h else False)
  (fun i _ c m ls L d K r h=>bif m then N3 P N ops i L d r h (fun L' g a h'=>c false (cK ls (gJ i)) L' g K a h')else False)
  (fun i _ c m ls L d K r h=>bif m then Nd P N ops ms i L d r h (fun L' g a h'=>c false (cK ls (gJ i)) L' g K a h')else False)
  (fun t _ _ e f m ls L d K r h=>
   bif m then False else match kg r t with
   |some (.bool b)=>CondP b (e false ls L ((t,.t)::d) K ((t,.bool true)::r) h) (f false ls L ((t,.f)::d) K ((t,.bool false)::r) h)
   |_=>False)
  j
noncomputable def Vw(b:Oper)(i:Nat)(ds lk:Nat)(ops:List Oper)(l:List Oper):Nat→Nat:=
 fh (motive:=fun _=>Nat→Nat) (fun _=>0) (fun p _ a j=>bif (bB j i||jc p i||(bB (jF ds (cK (oX ops p) (oq p))) 0&&bB (jF (oq p) lk) 0))then cK (gJ j) (a (fx j))else a (fx j)) l
noncomputable def Vm(ops:List Oper)(l:List Oper):Nat→List DM:=
 fh (motive:=fun _=>Nat→List DM) (fun _=> []) (fun o _ a i=>.mk (mK o.after.toList) (Vw o i (oq o) (oX ops o) ops ops 0) (oX ops o) (oq o)::a (fx i)) l
def TV(P:Program)(w:Option Bool)(o:Oper):Bool:=match w with|some false=>true|some true=>wO P o.op|none=>false
noncomputable def TA(P:Program)(ops:List Oper)(d:vG)(ls n:Nat)(l:List Oper):List DM→Nat→Option (Nat×Oper):=
 fh (motive:=fun _=>List DM→Nat→Option (Nat×Oper)) (fun _ _=>none)
  (fun o _ a ms j=>match ms with
   | []=>none
   |m::ms=>bif ED m j ls n&&TV P (jb ops d o) o then some (j,o)else a ms (fx j)) l
noncomputable def TB(ops:List Oper)(d:vG)(ls:Nat)(l:List Oper):List DM→Nat→Option Nat:=
 fh (motive:=fun _=>List DM→Nat→Option Nat) (fun _ _=>none)
  (fun o _ a ms j=>match ms with
   | []=>none
   |m::ms=>match bif !(tb ls j)&&Jk m ls then(match jb ops d o with|none=>Fa ops o|some _=>none)else none with
    |some t=>some t
    |none=>a ms (fx j)) l
noncomputable def Uc(ops:List Oper)(k:Nat→vG→DA)(ls:Nat)(d:vG)(l:List Nat):DA:=
 fh (motive:=fun _=>DA) .done (fun i a b=>match ops[i]? with
  |none=>.done
  |some o=>match a with
   | []=>.last i (k (cK ls (gJ i)) (si d o .x))
   |_=>.pick i (k (cK ls (gJ i)) (si d o .x)) b) l
noncomputable def TK(P:Program)(ops:List Oper)(ms:List DM)(a:Nat):Nat→vG→DA:=
 Nat.rec (motive:=fun _=>Nat→vG→DA) (fun _ _=>.done) (fun _ b ls d=>
  match TA P ops d ls ops.length ops ms 0 with
  |some (i,o)=>.take i (b (cK ls (gJ i)) (match jb ops d o with|some false=>si d o .u|_=>si d o (Jl d o.op)))
  |none=>match TB ops d ls ops ms 0 with
   |some t=>.split t (b ls ((t,.t)::d)) (b ls ((t,.f)::d))
   |none=>match ma ls ms 0 with
    | []=>.done
    |l=>.all (Uc ops b ls d l)) a
noncomputable def Nr(ops:List Oper):List DM:=Vm ops ops 0
inductive Ex where
 |exit (id:Nat)
 |ret
abbrev St:=List (Nat×Kind)
def zk:St→List Kind
 | []=> []
 |(_,k)::l=>k::zk l
noncomputable def EI(r:cA):St→Option (List Value)
 | []=>some []
 |(i,_)::l=>match kg r i,EI r l with
  |some v,some vs=>some (v::vs)
  |_,_=>none
noncomputable def C7(st:St)(r:cA)(f:vh (zk st)→Prop):Prop:=
 match EI r st with
 |some vs=>DW (zk st) vs f
 |none=>False
def oh:St→List Value→cA→cA
 |(i,_)::l,v::vs,r=>(i,v)::oh l vs r
 |_,_,r=>r
noncomputable def Nw(r:cA)(l:List Nat):Option cA:=
 fh (motive:=fun _=>Option cA) (some []) (fun t _ a=>match kg r t,a with
  |some v,some l=>some ((t,v)::l)
  |_,_=>none) l
noncomputable def l0(t:Nat)(l:List Oper):Bool:=
 fh (motive:=fun _=>Bool) false (fun o _ a=>match o.dst with|some d=>bif bB d t then true else a|none=>a) l
noncomputable def gf(t:Nat)(c:Code):Bool:=
 Code.rec (motive:=fun _=>Bool) false (fun _ ops _=>l0 t ops.toList) (fun _ _ a b=>bif a then true else b) (fun _ _ _ a b=>bif a then true else b)
  (fun _ _ b=>b) (fun _ b=>b) (fun _ _ _ _ _ _=>true) (fun _=>false) (fun _ b=>b) (fun _=>false) (fun _=>false) false (fun _=>false) c
inductive Ann where
 |nil
 |node (a b:Ann)
 |join (st:St) (a b:Ann)
 |loop (st:St) (b:Ann)
 |draw (d:DA)
 |kinds (k v:Kind)
 |reg (keep:List Nat) (inner:Ann)
 |rf (ks:List Kind) (a b:Ann)
def Ann.l:Ann→Ann
 | .node a _=>a
 | .rf _ a _=>a
 |_=>.nil
def Ann.r:Ann→Ann
 | .node _ b=>b
 | .rf _ _ b=>b
 |_=>.nil
noncomputable def Pl(l:List Oper):Nat:=fh (motive:=fun _=>Nat) 0 (fun o _ a=>cK (oq o) a) l
def Ue:Option Nat→Option Nat→Option Nat
 |some a,some b=>some (cK a b)
 |_,_=>none
noncomputable def yG(c:Code):Option Nat:=
 Code.rec (motive:=fun _=>Option Nat) (some 0) (fun _ ops _=>some (Pl ops.toList)) (fun _ _ a b=>Ue a b) (fun _ _ _ a b=>Ue a b)
  (fun _ _ b=>b) (fun _ b=>b) (fun _ _ _ _ _ _=>none) (fun _=>some 0) (fun _ b=>b) (fun _=>some 0) (fun _=>some 0) (some 0) (fun _=>some 0) c
noncomputable def xx(m:Nat)(r:cA):cA:=fh (motive:=fun _=>cA) [] (fun a _ b=>bif tb m a.1 then b else a::b) r
noncomputable def BU(P:Program)(N:Nat)(ops:List Oper)(b:Bool)(a:Ann)(Kn:cA→ac→Prop)(r:cA)(h:ac):Prop:=
 match b with
 |false=>(match a with
  | .kinds kk vk=>EL P N (some (kk,vk)) ops ops [] Kn r h
  |_=>EL P N none ops ops [] Kn r h)
 |true=>bif Ed ops (Nr ops)then nK P N ops (Nr ops) (match a with| .draw da=>da|_=>TK P ops (Nr ops) (Nat.add (Nat.add ops.length ops.length) 2) 0 []) false 0 [] [] Kn r h else False
noncomputable def kS(P:Program)(N:Nat)(c:Code):Ann→(cA→ac→Prop)→(Ex→cA→ac→Prop)→cA→ac→Prop:=
 Code.rec (motive:=fun _=>Ann→(cA→ac→Prop)→(Ex→cA→ac→Prop)→cA→ac→Prop)
  (fun _ Kn _ r h=>Kn r h)
  (fun _ ops p d Kn _ r h=>match d with
   | .reg keep d=>BU P N ops.toList p d (fun f h'=>match Nw f keep with|some r0=>Kn r0 h'|none=>False) r h
   |d=>BU P N ops.toList p d Kn r h)
  (fun a _ j g d Kn Kx r h=>match d with
   | .join st aa ab=>(match yG a with
     |none=>False
     |some m=>Join (T:=vh (zk st)) (fun t h'=>g ab Kn Kx (oh st (nn (zk st) t) (xx m r)) h')
      fun J=>j aa (fun f h'=>C7 st f fun t=>J t h') Kx r h)
   |d=>j d.l (fun f h'=>g d.r Kn Kx f h') Kx r h)
  (fun c _ _ j g d Kn Kx r h=>match dd r c with
   |some (.bool t)=>CondP t (j d.l Kn Kx r h) (g d.r Kn Kx r h)
   |_=>False)
  (fun id _ o d Kn Kx r h=>o d Kn (fun e f h'=>match e with
    | .exit i=>bif bB i id then Kn f h' else Kx (.exit i) f h'
    | .ret=>Kx .ret f h') r h)
  (fun b o d _ Kx r h=>match d with
   | .loop st ab=>(match yG b with
     |none=>False
     |some m=>C7 st r fun s=>LoopP (T:=vh (zk st)) (fun k t h'=>o ab (fun f n=>C7 st f fun q=>k q n) Kx (oh st (nn (zk st) t) (xx m r)) h') s h)
   |_=>False)
  (fun _ _ _ _ _ _ _ _ _ _ _=>False)
  (fun id _ _ Kx r h=>Kx (.exit id) r h)
  (fun _ _ _ _ _ _ _=>False)
  (fun _ _ Kn _ r h=>Kn r h)
  (fun _ _ _ _ _ _=>False)
  (fun _ _ Kx r h=>Kx .ret r h)
  (fun _ _ _ _ _ _=>False)
  c
noncomputable def ol(P:Program)(r:cA)(h:ac):List ResultVar→(List Value→Prop)→Prop
 | [],K=>K []
 | .tmp t::l,K=>(match kg r t with|some v=>ol P r h l fun vs=>K (v::vs)|none=>False)
 | .cell a t::l,K=>(match kg r a with
  |some v=>JR P t v (fun x _=>ol P r h l fun vs=>K (x::vs)) h
  |none=>False)
def qB:Nat→List Value→cA
 |_,[]=> []
 |i,v::vs=>(i,v)::qB (i+1) vs
noncomputable def GT(P:Program)(fn:Func)(c:Code)(a:Ann)(args:List Value)(ks:List Kind)(K:vh ks→ac→Prop)(h:ac):Prop:=
 kS P fn.ntmps c a
  (fun r h'=>ol P r h' fn.results.toList fun vs=>DW ks vs fun t=>K t h')
  (fun e r h'=>match e with
   | .ret=>ol P r h' fn.results.toList fun vs=>DW ks vs fun t=>K t h'
   | .exit _=>False)
  (qB 0 args) h
def Fs:List Oper→Option (Oper×Oper×Operand×Nat×FuncId×List Operand)
 | [m,o]=>match m.op,m.guard,m.dst,o.op,o.dst,o.guard with
  | .move x,none,some d,.defer c,none,none=>(match c.callee with
   | .value (.func f)=>some (m,o,x,d,f,c.args.toList)
   |_=>none)
  |_,_,_,_,_,_=>none
 |_=>none
inductive Mk where
 |it (n:Nat)
 |call (f:FuncId) (vs:List Value)
def HD(P:Program)(f:FuncId)(args:List Value)(K:ac→Prop)(h:ac):Prop:=
 ∀w:World,w.heap=h→(∀(args:Array Value) (w:World),(callFunc f args).run P w=.ok (.enter f args) w)∧∀n:Nat,CallsDIn {fn:=fun _=>True,depth:=none,alive:=false,round:=none} n P f args.toArray .returning w fun e u a=>u=.returning∧Tame w a∧(∃v,e=.returned v)∧K a.heap
noncomputable def sI(c:Code):Bool:=
 Code.rec (motive:=fun _=>Bool) false (fun _ ops _=>(Fs ops.toList).isSome) (fun _ _ a b=>bif a then true else b) (fun _ _ _ a b=>bif a then true else b)
  (fun _ _ b=>b) (fun _ b=>b) (fun _ _ _ _ _ _=>true) (fun _=>false) (fun _ b=>b) (fun _=>false) (fun _=>false) false (fun _=>false) c
def IC:Option Ex→Option Code
 |none=>none
 |some (.exit i)=>some (.exit i)
 |some .ret=>some .ret
def Vx(N:ac→Prop)(X:Nat→ac→Prop)(R:ac→Prop):Option Ex→ac→Prop
 |none=>N
 |some (.exit i)=>X i
 |some .ret=>R
structure RangeP(P:Program)(fv:Value)(ks:List Kind)(h:ac)(RT:Obj→Obj→vh ks→(Option Ex→ac→Prop)→ac→Prop)(N:ac→Prop)(X:Nat→ac→Prop)(R:ac→Prop):Prop where
 run:∀lo:LoopState→Option Ex→Obj,(∀s j,∃r,lo s j=.loop r)→
  (∀x h' K,h'[h.size+1]? =some (lo .ready none)→
   RT (lo .ready none) (lo .busy none) x (fun j h2=>h2[h.size+1]? =some (lo .busy none)∧K j.isNone (h2.setIfInBounds (h.size+1) (lo (if j.isNone then .ready else .done) j))) h'→
   HV P (.func (.yield (h.size+1)) #[] #[]) (nn ks x) [.c .bool] K h')→
  ∃f first cap,fv=.func (.func f) first cap∧HE P f (first.toList++ [.func (.yield (h.size+1)) #[] #[]]++cap.toList) []
   (fun _ h2=>∃s j,s≠ .busy∧h2[h.size+1]? =some (lo s j)∧Vx N X R j (h2.setIfInBounds (h.size+1) (lo .exhausted j))) ((h.push (.deferred (some []))).push (lo .ready none))
def Rf:List Nat→List Value→cA→cA
 |i::l,v::vs,r=>Rf l vs ((i,v)::r)
 |_,_,r=>r
noncomputable def Ly(P:Program)(N:Nat)(ps:List Nat)(ks:List Kind)(assign body:Code)(b:Ann)(r:cA)(l:Nat)(Jk f:Obj)(x:vh ks)(k:Option Ex→ac→Prop)(h:ac):Prop:=
 kS P N assign b.l (fun d c=>c[l]? =some Jk∧kS P N body b.r (fun _ a=>k none a) (fun e _ a=>k (some e) a) d (c.setIfInBounds l f)) (fun _ _ _=>False) (Rf ps (nn ks x) r) h
def zr(N:Nat):List Nat→Bool
 | []=>true
 |n::l=>yp n N&&zr N l
noncomputable def zm(P:Program)(N:Nat)(c:Code):Ann→(List Mk→cA→ac→Prop)→(Ex→List Mk→cA→ac→Prop)→List Mk→cA→ac→Prop:=
 Code.rec (motive:=fun _=>Ann→(List Mk→cA→ac→Prop)→(Ex→List Mk→cA→ac→Prop)→List Mk→cA→ac→Prop)
  (fun j Kn Kx ms r h=>kS P N .skip j (Kn ms) (fun e=>Kx e ms) r h)
  (fun id ops p j Kn Kx ms r h=>match Fs ops.toList with
   |none=>kS P N (.region id ops p) j (Kn ms) (fun e=>Kx e ms) r h
   |some (_,_,x,d,f,as)=>bif p then False else match dd r x with
    |some v=>bif yp d N then(match oy ((d,v)::r) as with|some vs=>Kn (.call f vs::ms) ((d,v)::r) h|none=>False)else False
    |none=>False)
  (fun a b n m j Kn Kx ms r h=>bif (bif sI a then true else sI b)then n j.l (fun ms o h'=>m j.r Kn Kx ms o h') Kx ms r h
   else kS P N (.seq a b) j (Kn ms) (fun e=>Kx e ms) r h)
  (fun c a b n m j Kn Kx ms r h=>bif (bif sI a then true else sI b)then
    (match dd r c with
     |some (.bool t)=>CondP t (n j.l Kn Kx ms r h) (m j.r Kn Kx ms r h)
     |_=>False)
   else kS P N (.cond c a b) j (Kn ms) (fun e=>Kx e ms) r h)
  (fun id b s j Kn Kx ms r h=>bif sI b then s j Kn (fun e ms o h'=>match e with
    | .exit i=>bif bB i id then Kn ms o h' else Kx (.exit i) ms o h'
    | .ret=>Kx .ret ms o h') ms r h
   else kS P N (.block id b) j (Kn ms) (fun e=>Kx e ms) r h)
  (fun b _ j Kn Kx ms r h=>kS P N (.loop b) j (Kn ms) (fun e=>Kx e ms) r h)
  (fun g ps assign body _ _ j Kn Kx ms r h=>match j with
   | .rf ks aa ab=>bif zr N ps.toList&&bB ps.toList.length ks.length then
    (match dd r g with
     |some fv=>RangeP P fv ks h (fun Jk q x k h'=>Ly P N ps.toList ks assign body (.node aa ab) r (h.size+1) Jk q x k h')
      (fun h'=>Kn (.it h.size::ms) r h') (fun i h'=>Kx (.exit i) (.it h.size::ms) r h') (fun h'=>Kx .ret (.it h.size::ms) r h')
     |none=>False)else False
   |_=>False)
  (fun id j Kn Kx ms r h=>kS P N (.exit id) j (Kn ms) (fun e=>Kx e ms) r h)
  (fun _ _ _ _ _ _ _ _=>False)
  (fun l j Kn Kx ms r h=>kS P N (.label l) j (Kn ms) (fun e=>Kx e ms) r h)
  (fun _ _ _ _ _ _ _=>False)
  (fun j Kn Kx ms r h=>kS P N .ret j (Kn ms) (fun e=>Kx e ms) r h)
  (fun _ _ _ _ _ _ _=>False)
  c
def JG(P:Program):List Mk→(ac→Prop)→ac→Prop
 | [],K,h=>K h
 | .it D::ms,K,h=>h[D]? =some (.deferred (some []))∧JG P ms K (h.setIfInBounds D (.deferred none))
 | .call f vs::ms,K,h=>HD P f vs (fun h'=>JG P ms K h') h
noncomputable def Lz(P:Program)(fn:Func)(c:Code)(a:Ann)(args:List Value)(ks:List Kind)(K:vh ks→ac→Prop)(h:ac):Prop:=
 zm P fn.ntmps c a
  (fun ms r h'=>JG P ms (fun h'=>ol P r h' fn.results.toList fun vs=>DW ks vs fun t=>K t h') h')
  (fun e ms r h'=>match e with
   | .ret=>JG P ms (fun h'=>ol P r h' fn.results.toList fun vs=>DW ks vs fun t=>K t h') h'
   | .exit _=>False)
  [] (qB 0 args) h
end Go.Lift
namespace Go.Lift
open Go
theorem FG(a:Addr):adr a 0=a:=rfl
theorem AX(a:Addr)(n:Nat):adr a (n+1)=⟨a.block,a.off+(n+1),none⟩:=rfl
theorem uP(a:Addr)(n:Nat):adr a n=a.add n:=by
 cases n with
 |zero=>simp[FG,Addr.add]
 |succ n=>simp[AX,Addr.add]
theorem AY(a:Addr)(m n:Nat):adr (adr a m) n=adr a (m+n):=by
 cases n with
 |zero=>rfl
 |succ n=>cases m with
  |zero=>simp[FG]
  |succ m=>rw[AX,AX,show m+1+(n+1)=(m+1+n)+1 from rfl,AX];simp;omega
theorem Tame.refl(w:World):Tame w w:=⟨rfl,rfl,rfl⟩
theorem Tame.trans{a b c:World}(h:Tame a b)(k:Tame b c):Tame a c:=⟨k.os.trans h.os,k.tape.trans h.tape,k.output.trans h.output⟩
theorem AG{a b:IntKind}(h:Iw a b=true):a=b:=by cases a<;>cases b<;>first|rfl|cases h
theorem CK.dec_sound{c:CK}{v:Value}{f:c.den→Prop}(h:c.dec v f):∃x,v=c.enc x∧f x:=by
 cases c<;>cases v<;>try simp only[CK.dec]at h
 case int.int k k' n=>
  cases hk:Iw k' k with
  |false=>rw[hk]at h;exact h.elim
  |true=>rw[hk]at h;have:=AG hk;subst this;exact⟨n,rfl,h⟩
 case adr.pointer p=>cases p with
  |none=>exact h.elim
  |some a=>exact⟨a,rfl,h⟩
 all_goals first|exact h.elim|exact⟨_,rfl,h⟩
theorem Du:∀{cs:List CK} {vs:List Value} {f:QZ cs→Prop},NJ cs vs f→∃t,vs=QH cs t∧f t
 | [],[],f,h=>⟨(),rfl,h⟩
 | [],_::_,f,h=>h.elim
 | [c],[v],f,h=>by obtain⟨x,rfl,b⟩:=CK.dec_sound h;exact⟨x,rfl,b⟩
 | [c],[],f,h=>h.elim
 | [c],_::_::_,f,h=>h.elim
 |c::d::cs,[],f,h=>h.elim
 |c::d::cs,[_],f,h=>h.elim
 |c::d::cs,v::u::vs,f,h=>by
  have g:c.dec v fun x=>NJ (d::cs) (u::vs) fun t=>f (x,t):=h
  obtain⟨x,hx,i⟩:=CK.dec_sound g;obtain⟨t,e,a⟩:=Du (cs:=d::cs) (vs:=u::vs) i;exact⟨(x,t),by rw[e,hx];rfl,a⟩
theorem Kind.dec_sound{k:Kind}{v:Value}{f:k.den→Prop}(h:k.dec v f):∃x,v=k.enc x∧f x:=by
 cases k with
 |c k=>exact CK.dec_sound h
 |agg cs=>
  cases v<;>simp only[Kind.dec]at h
  case agg vs=>
   obtain⟨t,b,a⟩:=Du h;exact⟨t,by simp only[Kind.enc,←b],a⟩
theorem sN:∀{ks:List Kind} {vs:List Value} {f:vh ks→Prop},DW ks vs f→∃t,vs=nn ks t∧f t
 | [],[],f,h=>⟨(),rfl,h⟩
 | [],_::_,f,h=>h.elim
 | [c],[v],f,h=>by obtain⟨x,rfl,b⟩:=Kind.dec_sound h;exact⟨x,rfl,b⟩
 | [c],[],f,h=>h.elim
 | [c],_::_::_,f,h=>h.elim
 |c::d::cs,[],f,h=>h.elim
 |c::d::cs,[_],f,h=>h.elim
 |c::d::cs,v::u::vs,f,h=>by
  have g:c.dec v fun x=>DW (d::cs) (u::vs) fun t=>f (x,t):=h
  obtain⟨x,hx,i⟩:=Kind.dec_sound g;obtain⟨t,e,a⟩:=sN (ks:=d::cs) (vs:=u::vs) i;exact⟨(x,t),by rw[e,hx];rfl,a⟩
theorem tR:∀(ks:List Kind) (t:vh ks),(nn ks t).length=ks.length
 | [],_=>rfl
 | [_],_=>rfl
 |_::l::ks,(_,t)=>by simp only[nn,ao,tR (l::ks) t]
structure Agree(N:Nat)(r:cA)(a:Act):Prop where
 size:a.tmps.size=N
 look:∀t v,kg r t=some v→a.tmps.getD t undef=v
theorem iH(k:Nat)(v:Value)(r:cA):kg ((k,v)::r) k=some v:=by rw[EP,show bB k k=true from Nat.beq_refl k];rfl
theorem gN{k t:Nat}(v:Value)(r:cA)(h:k≠t):kg ((k,v)::r) t=kg r t:=by
 rw[EP];have:bB k t=false:=Bool.eq_false_iff.2 fun e=>h (aQ e)
 rw[this];rfl
theorem Agree.put{N:Nat}{r:cA}{a:Act}(h:Agree N r a)(d:Nat)(v:Value)(hd:d<N):Agree N ((d,v)::r) (a.put (some d) v):=by
 refine⟨by simp[Act.put,h.size],fun t u b=>?_⟩
 by_cases e:d=t
 ·subst e
  rw[iH]at b;cases b;simp[Act.put,h.size,hd]
 ·rw[gN v r e]at b
  have:=h.look t u b;simpa[Act.put,Array.getElem?_setIfInBounds_ne e]using this
theorem Agree.known{N:Nat}{r:cA}{a:Act}(h:Agree N r a){t:Nat}{v:Value}(c:kg r t=some v):Agree N ((t,v)::r) a:=by
 refine⟨h.size,fun s u b=>?_⟩
 by_cases e:t=s
 ·subst e;rw[iH]at b;cases b;exact h.look t v c
 ·rw[gN v r e]at b;exact h.look s u b
theorem kh{N:Nat}{r:cA}{a:Act}(h:Agree N r a){o:Operand}{v:Value}(b:dd r o=some v):a.eval o=v:=by
 cases o with
 |tmp t=>exact h.look t v b
 |const c=>simp[dd]at b;subst b;rfl
 |global g=>simp[dd]at b;subst b;rfl
 |func f=>simp[dd]at b;subst b;rfl
theorem mA{N:Nat}{r:cA}{a:Act}(h:Agree N r a):∀{os:List Operand} {vs:List Value},oy r os=some vs→os.map a.eval=vs
 | [],vs,hv=>by simp[oy]at hv;subst hv;rfl
 |o::os,vs,hv=>by
  simp only[oy]at hv;cases ho:dd r o with
  |none=>simp[ho]at hv
  |some v=>cases hos:oy r os with
   |none=>simp[ho,hos]at hv
   |some us=>simp[ho,hos]at hv;subst hv;simp[kh h ho,mA h hos]
theorem aw{P:Program}{t:TypeId}{d:TypeDesc}(h:P.underlying t=some d)(w:World):(underlying t).run P w=.ok d w:=by
 simp only[underlying,program,bind,Sem.bind,Sem.run,h,pure]
theorem cI{P:Program}{t:TypeId}{i:TypeInfo}(h:P.info? t=some i)(w:World):(typeInfo t).run P w=.ok i w:=by
 simp only[typeInfo,program,bind,Sem.bind,Sem.run,h,pure]
theorem jn{P:Program}{s:Sem Value}{v:Value}{w a:World}(h:s.run P w=.ok v a):(do pure (Next.value (←s)):Sem Next).run P w=.ok (.value v) a:=by
 simp[h]
theorem PL{P:Program}{s:Sem Unit}{w a:World}(h:s.run P w=.ok () a):(do s;pure Next.skip:Sem Next).run P w=.ok .skip a:=by
 simp[h]
theorem Ar{P:Program}{w:World}{a:Addr}{v:Value}(h:aI w.heap a=some v):(load a).run P w=.ok v w:=by
 have h':w.cell? a=some v:=h;simp[h']
theorem AS{v:Value}{vs:List Value}{i:Nat}{a:Addr}{h:ac}:tU (v::vs) i a h↔aI h (adr a i)=some v∧tU vs (i+1) a h:=by
 cases vs with
 |nil=>simp[tU]
 |cons u us=>rfl
theorem tJ{P:Program}{w:World}{a:Addr}:∀(vs:List Value) (i:Nat) (acc:Array Value),tU vs i a w.heap→
  (loadCellsFrom a i vs.length acc).run P w=.ok (acc++vs.toArray) w
 | [],i,acc,_=>by simp[loadCellsFrom]
 |v::vs,i,acc,h=>by
  obtain⟨b,c⟩:=AS.1 h;rw[uP]at b;have:=tJ (P:=P) (w:=w) (a:=a) vs (i+1) (acc.push v) c;simp only[ao,loadCellsFrom,Sem.run_bind,Ar b,Result.andThen_ok,this];simp
theorem Ga{P:Program}{w:World}{a:Addr}{vs:List Value}(h:tU vs 0 a w.heap):(loadCells a vs.length).run P w=.ok vs.toArray w:=by
 have:=tJ (P:=P) (w:=w) (a:=a) vs 0 #[] h;simpa[loadCells]using this
theorem yQ:∀(cs:List CK) (i:Nat) (a:Addr) (h:ac) (k:List Value→Prop),IE cs i a h k→∃vs,vs.length=cs.length∧tU vs i a h∧k vs
 | [],i,a,h,k,b=>⟨[],rfl,trivial,b⟩
 |c::cs,i,a,h,k,b=>by
  obtain⟨x,hx,b⟩:=b;obtain⟨vs,d,hc,b⟩:=yQ cs (i+1) a h _ b;exact⟨c.enc x::vs,by simp[d],AS.2 ⟨hx,hc⟩,b⟩
theorem AQ:∀{vs:List Value} {cs:List CK},Fx vs=some cs→cs.length=vs.length
 | [],cs,h=>by simp[Fx]at h;subst h;rfl
 |v::vs,cs,h=>by
  simp only[Fx]at h;cases h1:TJ v with
  |none=>simp[h1]at h
  |some c=>cases h2:Fx vs with
   |none=>simp[h1,h2]at h
   |some ds=>simp[h1,h2]at h;subst h;simp[AQ h2]
def QY(P:Program)(t:TypeId)(i:TypeInfo):Kind→Prop
 | .c _=>wC P t=false
 | .agg cs=>wC P t=true∧i.size=cs.length
theorem L6{P:Program}{t:TypeId}{k:Kind}(h:Nv P t=some k):∃i,P.info? t=some i∧QY P t i k:=by
 unfold Nv yF at h;cases hi:P.info? t with
 |none=>simp[hi]at h
 |some i=>
  refine⟨i,rfl,?_⟩;cases hz:i.zero with
  |none=>simp[hi,hz]at h
  |some z=>
   rw[hi]at h;simp only[hz]at h;cases z;case agg vs=>
    simp only at h;cases hb:(wC P t&&bB vs.toList.length (bM P t))with
    |false=>rw[hb]at h;simp at h
    |true=>
     rw[hb]at h;simp only[cond_true]at h;simp only[Bool.and_eq_true]at hb;have a:=aQ hb.2;cases hd:Fx vs.toList with
     |none=>rw[hd]at h;simp at h
     |some ds=>
      rw[hd]at h;simp only[bD.injEq]at h;subst h;exact⟨hb.1,by rw[AQ hd,a];simp[bM,hi]⟩
   all_goals
    simp only at h;cases ha:wC P t
    ·rw[ha]at h
     simp only[cond_false]at h;split at h
     ·simp only[bD.injEq]at h;subst h;exact ha
     ·simp at h
    ·rw[ha]at h;simp at h
theorem L7{P:Program}{t:TypeId}{k:Kind}(h:E5 P t=some k):(∀w,(isAgg t).run P w=.ok (wC P t) w)∧Nv P t=some k:=by
 unfold E5 at h;cases hu:P.underlying t with
 |none=>simp[hu]at h
 |some d=>
  simp only[hu]at h;refine⟨fun w=>?_,h⟩
  simp only[isAgg,Sem.run_bind,aw hu,Result.andThen_ok];unfold wC;rw[hu];cases d<;>rfl
theorem Dh{P:Program}{t:TypeId}{v:Value}{K:RK}{h:ac}(d:JR P t v K h):
  ∃u S,K u (some S)∧S h∧∀w:World,S w.heap→(Instr.loadAt t v).run P w=.ok u w:=by
 unfold JR at d;cases v with
 |pointer p=>
  cases p with
  |none=>exact d.elim
  |some a=>
   simp only at d;cases hk:E5 P t with
   |none=>simp[hk]at d
   |some k=>
    obtain⟨b,f⟩:=L7 hk;obtain⟨i,hi,hc⟩:=L6 f;rw[hk]at d;cases k with
    |c c=>
     obtain⟨x,hx,m⟩:=d;refine⟨_,_,m,hx,fun w g=>?_⟩
     have hc:wC P t=false:=hc;simp only[Instr.loadAt,Instr.sureAddr,loadVar,Sem.run_bind,Sem.run_pure,Result.andThen_ok,b,hc];simp[Ar g]
    |agg cs=>
     obtain⟨vs,e,j,m⟩:=yQ cs 0 a h _ d;obtain⟨o,n⟩:wC P t=true∧i.size=cs.length:=hc;refine⟨_,_,m,j,fun w g=>?_⟩
     have f:(sizeOf t).run P w=.ok vs.length w:=by simp[sizeOf,cI hi,n,e]
     simp only[Instr.loadAt,Instr.sureAddr,loadVar,Sem.run_bind,Sem.run_pure,Result.andThen_ok,b,o];simp[f,Ga g]
 |_=>exact d.elim
end Go.Lift
