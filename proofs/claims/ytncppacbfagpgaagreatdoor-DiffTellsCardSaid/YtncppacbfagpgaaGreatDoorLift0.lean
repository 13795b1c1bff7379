/- A part of the proof that the named laws of this program answer true, whatever the input. -/
import Derived.OrdersIn
import Derived.Below
import Derived.WalkKit
import Derived.RangeFuncRecord
open BitVec renaming ofInt→aq
open Iff renaming rfl→zZ
open List renaming rec→g6,replicate→iP,length_cons→al
open Nat renaming succ→ik,beq→cg,ble→BZ,min→fc,land→mh,lor→dL,pred→BB,eq_of_beq_eq_true→bG
open Option renaming some→bQ
namespace Go.Lift
abbrev ad:=Array Obj
def aO(h:ad)(a:Addr):Option Value:=
 match h[a.block]? with
 |some (.cells c _ _)=>if a.spot.isSome then none else c[a.off]?
 |_=>none
def Ip(h:ad)(a:Addr):Bool:=
 match h[a.block]? with
 |some (.cells _ _ (lo,hi))=>lo≤a.off&&a.off<hi
 |_=>false
def hset(h:ad)(a:Addr)(v:Value):ad:=
 h.modify a.block fun
  | .cells c elem frozen=>.cells (if a.spot.isSome then c else c.setIfInBounds a.off v) elem frozen
  |o=>o
noncomputable def adr(a:Addr)(n:Nat):Addr:=Nat.rec (motive:=fun _=>Addr) a (fun n _=>⟨a.block,a.off+ik n,none⟩) n
def Wr(h:ad)(a:Addr):Prop:=(∃v,aO h a=some v)∧Ip h a=false
structure Tame(w w':World):Prop where
 os:w'.os=w.os
 tape:w'.tape=w.tape
 output:w'.output=w.output
structure SliceV where
 a:Option Addr
 len:Nat
 cap:Nat
def Oy:IntKind→IntKind→Bool
 | .i8,.i8=>true| .i16,.i16=>true| .i32,.i32=>true| .i64,.i64=>true
 | .u8,.u8=>true| .u16,.u16=>true| .u32,.u32=>true| .u64,.u64=>true
 |_,_=>false
inductive CK where
 |int (k:IntKind)|bool|str|ptr|slice|map|chan|raw|adr
def CK.den:CK→Type
 | .int _=>Int| .bool=>Bool| .str=>ByteArray| .ptr=>Option Addr| .slice=>SliceV| .map=>Option Nat| .chan=>Option Nat| .raw=>Value| .adr=>Addr
def CK.enc:(c:CK)→c.den→Value
 | .int k,n=>.int k n
 | .bool,b=>.bool b
 | .str,s=>.string s
 | .ptr,p=>.pointer p
 | .slice,s=>.slice s.a s.len s.cap
 | .map,r=>.map r
 | .chan,r=>.chan r
 | .raw,v=>v
 | .adr,a=>.pointer (some a)
def CK.dec:(c:CK)→Value→(c.den→Prop)→Prop
 | .int k,.int k' n,f=>bif Oy k' k then f n else False
 | .bool,.bool b,f=>f b
 | .str,.string s,f=>f s
 | .ptr,.pointer p,f=>f p
 | .slice,.slice a l c,f=>f ⟨a,l,c⟩
 | .map,.map r,f=>f r
 | .chan,.chan r,f=>f r
 | .raw,v,f=>f v
 | .adr,.pointer (some a),f=>f a
 |_,_,_=>False
def ZE:List CK→Type
 | []=>Unit
 | [c]=>c.den
 |c::d::cs=>c.den×ZE (d::cs)
def Zg:(cs:List CK)→ZE cs→List Value
 | [],_=> []
 | [c],x=> [c.enc x]
 |c::d::cs,(x,t)=>c.enc x::Zg (d::cs) t
def VH:(cs:List CK)→List Value→(ZE cs→Prop)→Prop
 | [],[],f=>f ()
 | [c],[v],f=>c.dec v f
 |c::d::cs,v::u::vs,f=>c.dec v fun x=>VH (d::cs) (u::vs) fun t=>f (x,t)
 |_,_,_=>False
inductive Kind where
 |c (k:CK)
 |agg (cs:List CK)
def Kind.den:Kind→Type
 | .c k=>k.den
 | .agg cs=>ZE cs
def Kind.enc:(k:Kind)→k.den→Value
 | .c k,x=>k.enc x
 | .agg cs,t=>.agg (Zg cs t).toArray
def Kind.dec:(k:Kind)→Value→(k.den→Prop)→Prop
 | .c k,v,f=>k.dec v f
 | .agg cs,.agg vs,f=>VH cs vs.toList f
 |_,_,_=>False
def Ag:List Kind→Type
 | []=>Unit
 | [k]=>k.den
 |k::l::ks=>k.den×Ag (l::ks)
def qE:(ks:List Kind)→Ag ks→List Value
 | [],_=> []
 | [k],x=> [k.enc x]
 |k::l::ks,(x,t)=>k.enc x::qE (l::ks) t
def HU:(ks:List Kind)→List Value→(Ag ks→Prop)→Prop
 | [],[],f=>f ()
 | [k],[v],f=>k.dec v f
 |k::l::ks,v::u::vs,f=>k.dec v fun x=>HU (l::ks) (u::vs) fun t=>f (x,t)
 |_,_,_=>False
def Jp(ks:List Kind)(vs:List Value):Value:=
 match ks,vs with
 | [_],[v]=>v
 |_,vs=>.tuple vs.toArray
def ab7:Value→Option CK
 | .int k _=>some (.int k)
 | .bool _=>some .bool
 | .string _=>some .str
 | .pointer _=>some .ptr
 | .slice .. =>some .slice
 | .map _=>some .map
 | .chan _=>some .chan
 | .nilFunc=>some .raw
 | .nilIface=>some .raw
 |_=>none
def Kg:List Value→Option (List CK)
 | []=>some []
 |v::vs=>match ab7 v,Kg vs with
  |some c,some cs=>some (c::cs)
  |_,_=>none
def zR(P:Program)(t:TypeId):Bool:=
 match P.underlying t with
 |some (.struct _)|some (.array _ _)=>true
 |_=>false
def cC(P:Program)(t:TypeId):Nat:=match P.info? t with|some i=>i.size|none=>0
def vl(P:Program)(t:TypeId):Nat:=match P.info? t with|some i=>i.bytes|none=>0
def Cn(P:Program)(t:TypeId):Option Value:=match P.info? t with|some i=>i.zero|none=>none
def Vo(P:Program)(t:TypeId):Option Kind:=
 match Cn P t with
 |some (.agg vs)=>bif zR P t&&cg vs.toList.length (cC P t)then(match Kg vs.toList with|some cs=>some (.agg cs)|none=>none)else none
 |some v=>bif zR P t then none else(match ab7 v with|some c=>some (.c c)|none=>none)
 |none=>none
def JJ(P:Program)(t:TypeId):Option Kind:=
 match P.underlying t with
 |none=>none
 |some _=>Vo P t
structure HC(P:Program)(f:FuncId)(args:List Value)(ks:List Kind)(K:Ag ks→ad→Prop)(h:ad):Prop where
 run:∀w:World,w.heap=h→
  ((callFunc f args.toArray).run P w=.ok (.enter f args.toArray) w∧
   Calls P f args.toArray w fun e w'=>Tame w w'∧∃t:Ag ks,e=.returned (Jp ks (qE ks t))∧K t w'.heap)∨
  (∃v w',(callFunc f args.toArray).run P w=.ok (.value v) w'∧Tame w w'∧∃t:Ag ks,v=Jp ks (qE ks t)∧K t w'.heap)
structure HE(P:Program)(f:FuncId)(args:List Value)(ks:List Kind)(K:Ag ks→ad→Prop)(h:ad):Prop where
 run:∀w:World,w.heap=h→(∀(args:Array Value) (w:World),(callFunc f args).run P w=.ok (.enter f args) w)∧
  Calls P f args.toArray w fun e w'=>Tame w w'∧∃t:Ag ks,e=.returned (Jp ks (qE ks t))∧K t w'.heap
theorem HE.hc{P:Program}{f:FuncId}{args:List Value}{ks:List Kind}{K:Ag ks→ad→Prop}{h:ad}(e:HE P f args ks K h):HC P f args ks K h:=
 ⟨fun w a=>.inl ⟨(e.run w a).1 _ w,(e.run w a).2⟩⟩
structure HY(P:Program)(l:Nat)(args:List Value)(K:Bool→ad→Prop)(h:ad):Prop where
 run:∀w:World,w.heap=h→∃fn tmps assign body,(Instr.yield l args.toArray).run P w=.ok (.round l fn tmps assign body) w∧
  ∀(c:Frame) (cs:List Frame),∃b w',Tame w w'∧K b w'.heap∧Steps P (lone (Frame.round l fn tmps assign body .normal) (c::cs) w) (lone (c.finish (.bool b)) cs w')
structure HV(P:Program)(fv:Value)(args:List Value)(ks:List Kind)(K:Ag ks→ad→Prop)(h:ad):Prop where
 run:(∃f first cap,fv=.func (.func f) first cap∧HC P f (first.toList++args++cap.toList) ks K h)∨
  (∃l,fv=.func (.yield l) #[] #[]∧HY P l args (fun b h'=>HU ks [.bool b] fun t=>K t h') h)
noncomputable def CondP(b:Bool)(t e:Prop):Prop:=Bool.rec (motive:=fun _=>Prop) e t b
theorem CondP.yes{b:Bool}{t e:Prop}(h:CondP b t e)(a:b=true):t:=by subst a;exact h
theorem CondP.no{b:Bool}{t e:Prop}(h:CondP b t e)(a:b=false):e:=by subst a;exact h
theorem CondP.intro{b:Bool}{t e:Prop}(a:b=true→t)(h2:b=false→e):CondP b t e:=by cases b;exact h2 rfl;exact a rfl
theorem au{t e:Prop}:CondP true t e↔t:=zZ
theorem ag{t e:Prop}:CondP false t e↔e:=zZ
attribute [irreducible] CondP
def At(h:ad)(k:ad→Prop):Prop:=k h
def Bd{T:Type}(x:T)(k:T→Prop):Prop:=k x
structure Join{T:Type}(rest:T→ad→Prop)(k:(T→ad→Prop)→Prop):Prop where
 run:k rest
structure LoopP{T:Type}(F:(T→ad→Prop)→T→ad→Prop)(t:T)(h:ad):Prop where
 run:∀I:T→ad→Prop,(∀t h,F I t h→I t h)→I t h
abbrev cY:=List (Nat×Value)
noncomputable def m0(r:cY)(t:Nat):Option Value:=
 g6 (motive:=fun _=>Option Value) none (fun a _ b=>bif cg a.1 t then some a.2 else b) r
theorem Jk(k:Nat)(v:Value)(r:cY)(t:Nat):m0 ((k,v)::r) t=bif cg k t then some v else m0 r t:=rfl
noncomputable def eI(r:cY):Operand→Option Value
 | .tmp t=>m0 r t
 | .const v=>some v
 | .global g=>some (.pointer (some ⟨g,0,none⟩))
 | .func f=>some (.func (.func f) #[] #[])
noncomputable def vg(r:cY):List Operand→Option (List Value)
 | []=>some []
 |o::os=>match eI r o,vg r os with
  |some v,some vs=>some (v::vs)
  |_,_=>none
noncomputable def OK:List CK→Nat→Addr→ad→(List Value→Prop)→Prop
 | [],_,_,_,k=>k []
 |c::cs,i,a,h,k=>∃x:c.den,aO h (adr a i)=some (c.enc x)∧OK cs (i+1) a h fun vs=>k (c.enc x::vs)
noncomputable def xw:List Value→Nat→Addr→ad→Prop
 | [],_,_,_=>True
 | [v],i,a,h=>aO h (adr a i)=some v
 |v::u::vs,i,a,h=>aO h (adr a i)=some v∧xw (u::vs) (i+1) a h
abbrev RK:=Value→Option (ad→Prop)→Prop
noncomputable def Qn(P:Program)(t:TypeId)(v:Value)(K:RK)(h:ad):Prop:=
 match v with
 | .pointer (some a)=>
  match JJ P t with
  |some (.c c)=>∃x:c.den,aO h a=some (c.enc x)∧K (c.enc x) (some fun h'=>aO h' a=some (c.enc x))
  |some (.agg cs)=>OK cs 0 a h fun vs=>K (.agg vs.toArray) (some fun h'=>xw vs 0 a h')
  |none=>False
 |_=>False
def AY(P:Program)(t:TypeId)(f:Nat):Option (TypeId×Nat):=
 match P.underlying t with
 |some (.struct fs)=>match fs.toList[f]? with
  |some g=>some (g.type,g.offset)
  |none=>none
 |_=>none
def Ae(P:Program)(t:TypeId):Option TypeId:=
 match P.underlying t with
 |some (.slice e)=>some e
 |_=>none
def Sy(c:BinOp)(k:IntKind)(a b:Int)(K:RK):Prop:=
 match c with
 | .shl=>0≤b∧K (.int k (k.wrap (a*2^(min b.toNat k.bits)))) none
 | .shr=>0≤b∧K (.int k (a.fdiv (2^(min b.toNat k.bits)))) none
 |_=>False
def abX(c:BinOp)(k:IntKind)(a b:Int)(K:RK):Prop:=
 match c with
 | .add=>K (.int k (k.wrap (a+b))) none
 | .sub=>K (.int k (k.wrap (a-b))) none
 | .mul=>K (.int k (k.wrap (a*b))) none
 | .quo=>b≠0∧K (.int k (k.wrap (a.tdiv b))) none
 | .rem=>b≠0∧K (.int k (a.tmod b)) none
 | .and=>K (.int k (k.wrap (aq k.bits a&&&aq k.bits b).toNat)) none
 | .or=>K (.int k (k.wrap (aq k.bits a|||aq k.bits b).toNat)) none
 | .xor=>K (.int k (k.wrap (aq k.bits a^^^aq k.bits b).toNat)) none
 | .andNot=>K (.int k (k.wrap (aq k.bits a&&& ~~~aq k.bits b).toNat)) none
 | .eql=>K (.bool (a==b)) none
 | .neq=>K (.bool (a !=b)) none
 | .lss=>K (.bool (decide (a<b))) none
 | .leq=>K (.bool (decide (a≤b))) none
 | .gtr=>K (.bool (decide (a>b))) none
 | .geq=>K (.bool (decide (a≥b))) none
 |_=>False
def abE(c:BinOp)(a b:ByteArray)(K:RK):Prop:=
 match c with
 | .add=>((a.size+b.size:Nat):Int)≤9223372036854775807∧K (.string (a++b)) none
 | .eql=>K (.bool (a.toList==b.toList)) none
 | .neq=>K (.bool (!(a.toList==b.toList))) none
 | .lss=>K (.bool (Op.bytesLess a.toList b.toList)) none
 | .leq=>K (.bool (Op.bytesLess a.toList b.toList||a.toList==b.toList)) none
 | .gtr=>K (.bool (!(Op.bytesLess a.toList b.toList||a.toList==b.toList))) none
 | .geq=>K (.bool (!(Op.bytesLess a.toList b.toList))) none
 |_=>False
def gT(h:ad)(a:Addr):Prop:=(∃c e,h[a.block]? =some (.cells c e (0,0))∧0<c.size)
def aax(P:Program)(t:TypeId)(neg:Bool)(x y:Value)(K:RK):Prop:=
 match P.underlying t,x,y with
 |some (.pointer _),.pointer a,.pointer none=>K (.bool (bif neg then !a.isNone else a.isNone)) none
 |some (.map _ _),.map a,.map none=>K (.bool (bif neg then !a.isNone else a.isNone)) none
 |some (.slice _),.slice a _ _,.slice none _ _=>K (.bool (bif neg then !a.isNone else a.isNone)) none
 |_,_,_=>False
def abW:Operand→Bool
 | .const (.pointer none)=>true
 | .const (.map none)=>true
 | .const (.slice none 0 0)=>true
 |_=>false
def adb(P:Program)(t:TypeId)(neg:Bool)(x y:Value)(K:RK)(h:ad):Prop:=
 match P.underlying t,x,y with
 |some .bool,.bool a,.bool b=>K (.bool (bif neg then !(a==b)else a==b)) none
 |some (.pointer e),.pointer a,.pointer b=>
  (bif cg (cC P e) 0 then False else True)∧
  (∀x y,a=some x→b=some y→gT h x∧gT h y)∧
  K (.bool (bif neg then !(a==b)else a==b)) (some fun h'=>∀x y,a=some x→b=some y→gT h' x∧gT h' y)
 |_,_,_=>False
def abL(P:Program)(c:BinOp)(t:TypeId)(x y:Value)(K:RK)(h:ad):Prop:=
 match x,y with
 | .int k a,.int k' b=>
  match c with
  | .shl=>Sy .shl k a b K
  | .shr=>Sy .shr k a b K
  |c=>bif Oy k' k then abX c k a b K else False
 | .string a,.string b=>abE c a b K
 |x,y=>match c with
  | .eql=>adb P t false x y K h
  | .neq=>adb P t true x y K h
  |_=>False
def ww(h:ad):List (Option Addr×Option Addr)→Prop
 | []=>True
 |(a,b)::l=>(∀x y,a=some x→b=some y→gT h x∧gT h y)∧ww h l
def Y1(P:Program)(t:TypeId)(x y:Value):Option (Bool×List (Option Addr×Option Addr)):=
 match P.underlying t,x,y with
 |some (.int _),.int k a,.int k' b=>bif Oy k' k then some (a==b,[])else none
 |some .bool,.bool a,.bool b=>some (a==b,[])
 |some .string,.string a,.string b=>some (a.toList==b.toList,[])
 |some (.pointer e),.pointer a,.pointer b=>bif cg (cC P e) 0 then none else some (a==b,[(a,b)])
 |_,_,_=>none
def aaR(P:Program)(rec:TypeId→List Value→List Value→Option (Bool×List (Option Addr×Option Addr)))(xs ys:List Value):List Field→Option (Bool×List (Option Addr×Option Addr))
 | []=>some (true,[])
 |f::fs=>
  if f.name= "_" then none else
  bif (P.underlying f.type).isSome&&(P.info? f.type).isSome then
   match(bif zR P f.type then rec f.type ((xs.drop f.offset).take (cC P f.type)) ((ys.drop f.offset).take (cC P f.type))
    else match xs[f.offset]?,ys[f.offset]? with|some x,some y=>Y1 P f.type x y|_,_=>none),aaR P rec xs ys fs with
   |some (b,l),some (c,m)=>some (b&&c,l++m)
   |_,_=>none
  else none
def Y2(P:Program):Nat→TypeId→List Value→List Value→Option (Bool×List (Option Addr×Option Addr))
 |0,_,_,_=>none
 |d+1,t,xs,ys=>match P.underlying t with
  |some (.struct fs)=>bif P.stoodInHeld t then none else aaR P (Y2 P d) xs ys fs.toList
  |_=>none
def adC(neg b:Bool)(K:RK)(h:ad):List (Option Addr×Option Addr)→Prop
 | []=>K (.bool (bif neg then !b else b)) none
 |p::l=>ww h (p::l)∧K (.bool (bif neg then !b else b)) (some fun h'=>ww h' (p::l))
def abN(P:Program)(a:BinOp)(t:TypeId)(xs ys:List Value)(K:RK)(h:ad):Prop:=
 bif P.eqGuardType P.depth t then False else
 match a with
 | .eql=>(match Y2 P 10 t xs ys with|some (b,l)=>adC false b K h l|none=>False)
 | .neq=>(match Y2 P 10 t xs ys with|some (b,l)=>adC true b K h l|none=>False)
 |_=>False
def adm(a:UnOp)(x:Value)(K:RK):Prop:=
 match a,x with
 | .neg,.int k n=>K (.int k (k.wrap (0-n))) none
 | .xor,.int k n=>K (.int k (k.wrap (aq k.bits (if k.signed then-1 else k.max)^^^aq k.bits n).toNat)) none
 | .not,.bool b=>K (.bool (!b)) none
 |_,_=>False
def eM(s:ByteArray):List Value:=s.data.toList.map fun b=>.int .u8 b.toNat
noncomputable def Row(h:ad)(a:Addr)(vs:List Value):Prop:=∀i v,vs[i]? =some v→aO h (adr a i)=some v
noncomputable def SRow(h:ad)(a:Option Addr)(n:Nat)(vs:List Value):Prop:=vs.length=n∧(vs= []∨∃b,a=some b∧Row h b vs)
def Tn(P:Program)(e:TypeId):Bool:=match P.underlying e with|some (.int .u8)=>true|_=>false
def abV(P:Program)(s d:TypeId):Bool:=
 match P.underlying s,P.underlying d with
 |some .string,some (.slice e)=>Tn P e
 |_,_=>false
def ByP(e:TypeId)(s:ByteArray)(h:ad)(K:Nat→ad→Prop):Prop:=
 ∀c,s.size≤c→K c (h.push (.cells (eM s++iP (c-s.size) (Value.int .u8 0)).toArray e (c,c+1)))
noncomputable def Ys(P:Program)(b c:TypeId)(x:Value)(K:RK)(h:ad):Prop:=
 match P.underlying b,P.underlying c,x with
 |some (.int _),some (.int k),.int _ n=>K (.int k (k.wrap n)) none
 |some .string,some .string,.string s=>K (.string s) none
 |some (.slice e),some .string,.slice a n _=>bif Tn P e then∃s:ByteArray,SRow h a n (eM s)∧K (.string s) (some fun h'=>SRow h' a n (eM s))else False
 |_,_,_=>False
def Zj(v:Option Value)(d y:Nat)(K:Nat→Prop):Prop:=
 match v with
 |none=>K d
 |some (.int _ i)=>(0≤i∧i≤y)∧K i.toNat
 |_=>False
noncomputable def aY(a:Option Addr)(l m size:Nat):Option Addr:=if m=l then a else a.map (adr · (l*size))
def YB(P:Program)(t:TypeId)(K:Prop):Prop:=match P.info? t with|some _=>K|none=>False
noncomputable def SN(P:Program)(t:TypeId)(x:Value)(lo hi b:Option Value)(K:RK):Prop:=
 match P.underlying t,x with
 |some .string,.string s=>match b with
  |some _=>False
  |none=>Zj hi s.size s.size fun h=>Zj lo 0 h fun l=>K (.string (s.extract l h)) none
 |some (.slice e),.slice a len cap=>YB P e (
  match b with
  |none=>Zj hi len cap fun h=>Zj lo 0 h fun l=>K (.slice (aY a l cap (cC P e)) (h-l) (cap-l)) none
  |some m=>match hi with
   |none=>False
   |some hi=>Zj (some m) 0 cap fun m=>Zj (some hi) 0 m fun h=>Zj lo 0 h fun l=>K (.slice (aY a l m (cC P e)) (h-l) (m-l)) none)
 |some (.array n e),.pointer (some a)=>YB P e (
  match b with
  |none=>Zj hi n n fun h=>Zj lo 0 h fun l=>K (.slice (aY (some a) l n (cC P e)) (h-l) (n-l)) none
  |some _=>False)
 |_,_=>False
noncomputable def MU(r:cY):Option Operand→Option (Option Value)
 |none=>some none
 |some o=>match eI r o with
  |some v=>some (some v)
  |none=>none
noncomputable def Dk(P:Program)(t:TypeId)(x i:Value)(K:RK):Prop:=
 match P.underlying t,x,i with
 |some (.array n e),.pointer (some a),.int _ i=>YB P e ((0≤i∧i<n)∧K (.pointer (some (adr a (i.toNat*cC P e)))) none)
 |some (.slice e),.slice b len _,.int _ i=>YB P e ((0≤i∧i<len)∧∃a,b=some a∧K (.pointer (some (adr a (i.toNat*cC P e)))) none)
 |_,_,_=>False
def SP(P:Program)(t:TypeId)(x i:Value)(K:RK):Prop:=
 match P.underlying t,x,i with
 |some .string,.string s,.int _ i=>∃b:UInt8,0≤i∧s[i.toNat]? =some b∧K (.int .u8 b.toNat) none
 |_,_,_=>False
noncomputable def SQ(P:Program)(t:TypeId)(x:Value)(f:Nat)(K:RK):Prop:=
 match AY P t f,x with
 |some (u,off),.agg cs=>bif (P.underlying u).isSome&&(P.info? u).isSome then(bif zR P u then K (.agg ((cs.toList.drop off).take (cC P u)).toArray) none
  else(match cs.toList[off]? with|some v=>K v none|none=>False))else False
 |_,_=>False
def abf(c a b:Value)(K:RK):Prop:=
 match c with
 | .bool c=>(match a,b with
  | .bool x,.bool y=>K (.bool (bif c then x else y)) none
  |_,_=>(match c with|true=>K a none|false=>K b none))
 |_=>False
def j1:Value→Value→Bool
 | .int _ a,.int _ b=>a==b
 | .string a,.string b=>a==b
 | .bool a,.bool b=>a==b
 |_,_=>false
def Q3(k:Value):List MapEntry→Option Value
 | []=>none
 |e::es=>if j1 k e.key then some e.val else Q3 k es
def JK(c:CK)(es:List MapEntry):Prop:=∀e∈es,∃x:c.den,e.key=c.enc x
def T4(c:CK)(z:Value)(h:ad)(m:Option Nat)(k v:Value)(ok:Bool):Prop:=
 match m with
 |none=>v=z∧ok=false
 |some r=>∃es clock,h[r]? =some (.map es clock)∧JK c es.toList∧
  (match Q3 k es.toList with|some u=>v=u∧ok=true|none=>v=z∧ok=false)
def QL(P:Program)(t:TypeId):Option (CK×TypeId):=
 match P.underlying t with
 |some (.map k e)=>match P.underlying k with
  |some (.int i)=>some (.int i,e)
  |some .string=>some (.str,e)
  |some .bool=>some (.bool,e)
  |_=>none
 |_=>none
def Oe(P:Program)(t:TypeId)(x k:Value)(ok:Bool)(K:RK)(h:ad):Prop:=
 match QL P t,x with
 |some (c,e),.map m=>c.dec k fun _=>
  (match JJ P e,Cn P e with
   |some ek,some z=>∃(y:ek.den) (b:Bool),T4 c z h m k (ek.enc y) b∧
    K (bif ok then .tuple #[ek.enc y,.bool b]else ek.enc y) (some fun h'=>T4 c z h' m k (ek.enc y) b)
   |_,_=>False)
 |_,_=>False
def Zy(h:ad)(m:Option Nat)(n:Nat):Prop:=
 match m with
 |none=>n=0
 |some r=>∃es clock,h[r]? =some (.map es clock)∧n=es.size
def abJ(P:Program)(t:TypeId)(x:Value)(K:RK)(h:ad):Prop:=
 match P.underlying t,x with
 |some .string,.string s=>K (.int .i64 s.size) none
 |some (.array n _),_=>K (.int .i64 n) none
 |some (.slice _),.slice _ n _=>K (.int .i64 n) none
 |some (.map _ _),.map m=>∃n:Nat,Zy h m n∧K (.int .i64 n) (some fun h'=>Zy h' m n)
 |_,_=>False
def abK(P:Program)(t:TypeId)(x:Value)(K:RK):Prop:=
 match P.underlying t,x with
 |some (.slice _),.slice _ _ n=>K (.int .i64 n) none
 |_,_=>False
def Ou(c:Bool)(k:IntKind):Int→List Value→(Value→Prop)→Prop
 |a,[],f=>f (.int k a)
 |a,.int k' b::vs,f=>bif Oy k' k then Ou c k (bif c then(if b>a then b else a)else(if b<a then b else a)) vs f else False
 |_,_,_=>False
def Ij(b:Bool)(vs:List Value)(f:Value→Prop):Prop:=
 match vs with
 | .int k a::vs=>Ou b k a vs f
 |_=>False
def T7(h:ad)(i:Nat)(e:MapEntry):Prop:=
 ∃m since seen last stamp es,h[i]? =some (.mapIter (some m) since seen last)∧seen.back? =some stamp∧h[m]? =some (.map es last)∧es.find? (fun e=>e.born==stamp)=some e
def uI(P:Program)(t:TypeId):Bool:=match P.underlying t with|some (.interface _)=>false|some _=>true|none=>false
def U9(P:Program)(t:TypeId)(x:Value)(K:RK):Prop:=
 bif uI P t then(match JJ P t with
  |some k=>∃y:k.den,x=.iface t (k.enc y)∧K (k.enc y) none
  |none=>False)else False
def Qv(cs:List Value)(off:Nat)(vs:List Value):List Value:=cs.take off++vs++cs.drop (off+vs.length)
def Hl(a:Nat→Option (Nat×Nat)):List Value→List (Nat×Value)→Option (List Value)
 |cs,[]=>some cs
 |cs,(i,v)::rest=>match a i with
  |none=>none
  |some (off,size)=>bif cg v.cells.toList.length size&&BZ (off+v.cells.toList.length) cs.length then Hl a (Qv cs off v.cells.toList) rest else none
noncomputable def uH(r:cY):List (Nat×Operand)→Option (List (Nat×Value))
 | []=>some []
 |(i,o)::ps=>match eI r o,uH r ps with
  |some v,some vs=>some ((i,v)::vs)
  |_,_=>none
def ve(P:Program)(t:TypeId):Option (List Value):=match Cn P t with|some z=>some z.cells.toList|none=>none
def eO(n:Nat)(z:List Value):List Value:=(iP n z).flatten
def BO(P:Program)(t:TypeId):Bool:=match P.info? t with|some _=>true|none=>false
def ET(P:Program):List Field→Bool
 | []=>true
 |f::fs=>bif BO P f.type then ET P fs else false
def S0(P:Program)(a:List Field)(i:Nat):Option (Nat×Nat):=match a[i]? with|some f=>some (f.offset,cC P f.type)|none=>none
def O1(P:Program)(t:TypeId)(a:List (Nat×Value)):Option (List Value):=
 match P.underlying t,ve P t with
 |some (.struct fs),some z=>bif ET P fs.toList then Hl (S0 P fs.toList) z a else none
 |some (.array _ e),some z=>bif BO P e then Hl (fun i=>some (i*cC P e,cC P e)) z a else none
 |_,_=>none
noncomputable def F4(P:Program)(ek:Option (Kind×Kind))(o:Op)(r:cY)(K:RK)(h:ad):Prop:=
 match o with
 | .entry it=>match eI r it,ek with
  |some (.pointer (some a)),some (kk,vk)=>a.off=0∧∃(e:MapEntry) (x:kk.den) (y:vk.den),T7 h a.block e∧e.key=kk.enc x∧e.val=vk.enc y∧
    K (.tuple #[kk.enc x,vk.enc y]) (some fun h'=>T7 h' a.block e)
  |_,_=>False
 | .move x| .assign x=>match eI r x with|some v=>K v none|none=>False
 | .load t a=>match eI r a with|some v=>Qn P t v K h|none=>False
 | .nilCheck x=>match eI r x with|some (.pointer p)=>∃a,p=some a∧K (.pointer (some a)) none|_=>False
 | .binOp op t x y _=>match eI r x,eI r y with
  |some (.agg v),some (.agg u)=>abN P op t v.toList u.toList K h
  |some v,some u=>(match op,abW y with
   | .eql,true=>aax P t false v u K
   | .neq,true=>aax P t true v u K
   |op,_=>abL P op t v u K h)
  |_,_=>False
 | .unOp op _ x=>match eI r x with|some v=>adm op v K|none=>False
 | .convert s d x=>match eI r x with|some v=>Ys P s d v K h|none=>False
 | .pick c a b=>match eI r c,eI r a,eI r b with|some c,some a,some b=>abf c a b K|_,_,_=>False
 | .extract x i=>match eI r x with
  |some (.tuple vs)=>(match vs.toList[i]? with|some v=>K v none|none=>False)
  |_=>False
 | .fieldAddr t x f=>match eI r x,AY P t f with
  |some (.pointer (some a)),some (u,off)=>bif cg (cC P u) 0 then False else K (.pointer (some (adr a off))) none
  |_,_=>False
 | .field t x f=>match eI r x with|some v=>SQ P t v f K|none=>False
 | .indexAddr t x i=>match eI r x,eI r i with|some v,some u=>Dk P t v u K|_,_=>False
 | .index t x i=>match eI r x,eI r i with|some v,some u=>SP P t v u K|_,_=>False
 | .slice t x lo hi mx=>match eI r x,MU r lo,MU r hi,MU r mx with
  |some v,some l,some h',some m=>SN P t v l h' m K
  |_,_,_,_=>False
 | .lookup t x k ok=>match eI r x,eI r k with|some v,some u=>Oe P t v u ok K h|_,_=>False
 | .makeInterface t x=>match eI r x with|some v=>bif uI P t then K (.iface t v) none else False|none=>False
 | .typeAssert x _ t ok=>match eI r x with|some v=>bif ok then False else U9 P t v K|none=>False
 | .build t ps=>match uH r ps.toList with
  |some vs=>(match O1 P t vs with|some cs=>K (.agg cs.toArray) none|none=>False)
  |none=>False
 | .makeFunc fn first cap=>match vg r first.toList,vg r cap.toList with
  |some vs,some us=>K (.func fn vs.toArray us.toArray) none
  |_,_=>False
 | .call c=>match c.callee,vg r c.args.toList,c.argTypes.toList with
  | .builtin .len,some [v],[t]=>abJ P t v K h
  | .builtin .cap,some [v],[t]=>abK P t v K
  | .builtin .min,some vs,_=>Ij false vs fun v=>K v none
  | .builtin .max,some vs,_=>Ij true vs fun v=>K v none
  |_,_,_=>False
 |_=>False
abbrev WK:=Value→ad→Prop
def aG(h:ad):Addr:=⟨h.size,0,none⟩
def hnew(h:ad)(cs:List Value)(t:TypeId):ad:=h.push (.cells cs.toArray t (0,0))
def cH:List Value→Bool
 | []=>true
 |v::vs=>(match v with| .agg _=>false| .tuple _=>false|_=>true)&&cH vs
noncomputable def jj(h:ad)(a:Addr):Nat→List Value→ad
 |_,[]=>h
 |i,v::vs=>jj (hset h (adr a i) v) a (i+1) vs
noncomputable def hO(h:ad)(a:Option Addr)(i:Nat)(vs:List Value):ad:=match a with|some a=>jj h a i vs|none=>h
noncomputable def wn(h:ad)(a:Option Addr)(i:Nat)(vs:List Value):Prop:=vs= []∨∃b,a=some b∧∀j,j<vs.length→Wr h (adr b (i+j))
noncomputable def Sn(P:Program)(t:TypeId)(a v:Value)(K:WK)(h:ad):Prop:=
 match a with
 | .pointer (some a)=>bif cg v.cells.toList.length (cC P t)&&cH v.cells.toList then YB P t
   (match v.cells.toList with
    | [v]=>Wr h a∧K undef (hset h a v)
    |vs=>wn h (some a) 0 vs∧K undef (jj h a 0 vs))
  else False
 |_=>False
noncomputable def Zq(P:Program)(e:TypeId)(a:Option Addr)(sl c b:Nat)(xs:List Value)(K:WK)(h:ad):Prop:=
 (sl+b≤c→wn h a (sl*cC P e) xs∧cH xs=true∧K (.slice a (sl+b) c) (hO h a (sl*cC P e) xs))∧
 (c<sl+b→∃old z,SRow h a (sl*cC P e) old∧ve P e=some z∧0<vl P e∧Builtin.nextslicecap (sl+b) c*vl P e≤2^48∧
  ∀nc,sl+b≤nc→K (.slice (some (aG h)) (sl+b) nc) (hnew h (old++xs++eO (nc-(sl+b)) z) e))
noncomputable def H9(P:Program)(t:TypeId)(s x:Value)(K:WK)(h:ad):Prop:=
 match Ae P t,s,x with
 |some e,.slice b sl sc,.slice a xl _=>YB P e (∃xs,SRow h a (xl*cC P e) xs∧Zq P e b sl sc xl xs K h)
 |some e,.slice b sl sc,.string x=>bif cg (cC P e) 1 then Zq P e b sl sc x.size (eM x) K h else False
 |_,_,_=>False
noncomputable def IH(P:Program)(t:TypeId)(s x:Value)(K:WK)(h:ad):Prop:=
 match Ae P t,s,x with
 |some e,.slice b sl sc,.int _ l=>(match ve P e with
  |some z=>bif cg z.length (cC P e)then(0≤l∧l*vl P e≤2^48∧l≤9223372036854775807∧((sl+l.toNat:Nat):Int)≤9223372036854775807)∧Zq P e b sl sc l.toNat (eO l.toNat z) K h else False
  |none=>False)
 |_,_,_=>False
noncomputable def Sp(P:Program)(t:TypeId)(x:Value)(K:WK)(h:ad):Prop:=
 match Ae P t,x with
 |some e,.slice a n _=>(match ve P e with
  |some z=>bif cH z then wn h a 0 (eO n z)∧K (.tuple #[]) (hO h a 0 (eO n z))else False
  |none=>False)
 |_,_=>False
noncomputable def XL(P:Program)(t:TypeId)(d s:Value)(K:WK)(h:ad):Prop:=
 match Ae P t,d,s with
 |some e,.slice b dl _,.slice a sl _=>YB P e (∃xs,SRow h a (fc sl dl*cC P e) xs∧wn h b 0 xs∧cH xs=true∧K (.int .i64 (fc sl dl)) (hO h b 0 xs))
 |some e,.slice b dl _,.string x=>bif cg (cC P e) 1 then wn h b 0 ((eM x).take dl)∧K (.int .i64 (fc x.size dl)) (hO h b 0 ((eM x).take dl))else False
 |_,_,_=>False
def SX(k v:Value)(a:Nat):List MapEntry→List MapEntry×Nat
 | []=>([{key:=k,val:=v,born:=a}],a+1)
 |e::es=>if j1 k e.key then({e with key:=k,val:=v}::es,a)else let r:=SX k v a es;(e::r.1,r.2)
def Q7(k:Value):List MapEntry→List MapEntry
 | []=> []
 |e::es=>if j1 k e.key then es else e::Q7 k es
def VN(c:CK)(h:ad)(r:Nat):Prop:=∃es clock,h[r]? =some (.map es clock)∧JK c es.toList
def aaA(h:ad)(r:Nat)(k v:Value):ad:=
 match h[r]? with
 |some (.map es clock)=>h.setIfInBounds r (.map (SX k v clock es.toList).1.toArray (SX k v clock es.toList).2)
 |_=>h
def Vl(h:ad)(r:Nat)(k:Value):ad:=
 match h[r]? with
 |some (.map es clock)=>h.setIfInBounds r (.map (Q7 k es.toList).toArray clock)
 |_=>h
def H8(P:Program)(t:TypeId)(m k v:Value)(K:WK)(h:ad):Prop:=
 match QL P t,m with
 |some (c,_),.map m=>c.dec k fun _=>∃r,m=some r∧VN c h r∧K undef (aaA h r k v)
 |_,_=>False
def IE(P:Program)(t:TypeId)(m k:Value)(K:WK)(h:ad):Prop:=
 match QL P t,m with
 |some (c,_),.map m=>c.dec k fun _=>(m=none∧K (.tuple #[]) h)∨(∃r,m=some r∧VN c h r∧K (.tuple #[]) (Vl h r k))
 |_,_=>False
def Yk(P:Program):List TypeId→Option (List Kind)
 | []=>some []
 |t::ts=>match JJ P t,Yk P ts with
  |some k,some ks=>some (k::ks)
  |_,_=>none
def Yl(P:Program)(t:TypeId):Option (List Kind):=
 match P.underlying t with
 |some (.tuple ts)=>Yk P ts.toList
 |_=>Yk P [t]
noncomputable def aa7(P:Program)(f:Operand)(r:cY)(args:List Value)(t:TypeId)(K:WK)(h:ad):Prop:=
 match Yl P t with
 |none=>False
 |some ks=>match f with
  | .func f=>HC P f args ks (fun x h'=>K (Jp ks (qE ks x)) h') h
  |f=>match eI r f with
   |some fv=>HV P fv args ks (fun x h'=>K (Jp ks (qE ks x)) h') h
   |none=>False
def XK(b:Value)(K:WK)(h:ad):Prop:=
 match b with
 | .pointer (some a)=>a.off=0∧
  ∃m since seen last,h[a.block]? =some (.mapIter m since seen last)∧
   ((m=none∧K (.tuple #[.bool false]) h)∨
    (∃r es clock,m=some r∧h[r]? =some (.map es clock)∧(seen.isEmpty=true∨es.isEmpty=true∨es.all (fun e=>decide (e.born≥last))=false)∧
     ((∀e∈es.toList,e.born<since→seen.contains e.born=true)→K (.tuple #[.bool false]) h)∧
     (∀e∈es.toList,seen.contains e.born=false→K (.tuple #[.bool true,e.key,e.val]) (h.setIfInBounds a.block (.mapIter (some r) since (seen.push e.born) clock)))))
 |_=>False
noncomputable def Lm(P:Program)(o:Oper)(r:cY)(K:WK)(h:ad):Prop:=
 match o.op with
 | .alloc t=>(match ve P t with|some z=>K (.pointer (some (aG h))) (hnew h z t)|none=>False)
 | .box t x=>(match eI r x with|some v=>K (.pointer (some (aG h))) (hnew h v.cells.toList t)|none=>False)
 | .build t ps=>(match uH r ps.toList with
  |some vs=>(match O1 P t vs with|some cs=>K (.agg cs.toArray) h|none=>False)
  |none=>False)
 | .buildSlice t n ps=>(match Ae P t,uH r ps.toList with
  |some e,some vs=>(match ve P e with
   |some z=>bif BZ (n*cC P e) 16777216&&cg z.length (cC P e)then
     (match Hl (fun i=>some (i*cC P e,cC P e)) (eO n z) vs with|some cs=>K (.slice (some (aG h)) n n) (hnew h cs e)|none=>False)
    else False
   |none=>False)
  |_,_=>False)
 | .store t a x=>(match eI r a,eI r x with|some a,some v=>Sn P t a v K h|_,_=>False)
 | .mapUpdate t m k x=>(match eI r m,eI r k,eI r x with|some m,some k,some v=>H8 P t m k v K h|_,_,_=>False)
 | .insert t m k x=>(match eI r m,eI r k,eI r x with|some m,some k,some v=>H8 P t m k v K h|_,_,_=>False)
 | .makeMap t n=>(match n with
  |none=>K (.map (some h.size)) (h.push (.map #[] 0))
  |some n=>(match eI r n,P.underlying t with|some (.int _ _),some (.map _ _)=>K (.map (some h.size)) (h.push (.map #[] 0))|_,_=>False))
 | .makeSlice t l c=>(match Ae P t,eI r l,eI r c with
  |some e,some (.int _ l),some (.int _ c)=>(match ve P e with
   |some z=>bif cg z.length (cC P e)then(0≤l∧l≤c∧c≤9223372036854775807∧vl P e*c≤2^48)∧K (.slice (some (aG h)) l.toNat c.toNat) (hnew h (eO c.toNat z) e)else False
   |none=>False)
  |_,_,_=>False)
 | .convert s d x=>(match P.underlying s,P.underlying d,eI r x with
  |some .string,some (.slice e),some (.string v)=>bif Tn P e then ByP e v h (fun c h'=>K (.slice (some (aG h)) v.size c) h')else False
  |_,_,_=>False)
 | .range t x=>(match P.underlying t,eI r x with
  |some (.map _ _),some (.map m)=>∃clock,(m=none∧clock=0∨∃r es,m=some r∧h[r]? =some (.map es clock))∧K (.pointer (some (aG h))) (h.push (.mapIter m clock #[] clock))
  |_,_=>False)
 | .next it false=>(match eI r it with|some it=>XK it K h|none=>False)
 | .call c=>(match c.callee,vg r c.args.toList with
  | .builtin .append,some [s,x]=>(match c.argTypes.toList with| [t,u]=>(match P.underlying u with|some (.slice _)=>H9 P t s x K h|some .string=>H9 P t s x K h|some (.int _)=>IH P t s x K h|_=>False)|_=>False)
  | .builtin .clear,some [x]=>(match c.argTypes.toList with| [t]=>Sp P t x K h|_=>False)
  | .builtin .copy,some [d,s]=>(match c.argTypes.toList with| [t,_]=>XL P t d s K h|_=>False)
  | .builtin .delete,some [m,k]=>(match c.argTypes.toList with| [t,_]=>IE P t m k K h|_=>False)
  | .value f,some args=>aa7 P f r args o.type K h
  |_,_=>False)
 |_=>False
def Ah(P:Program):Op→Bool
 | .convert s d _=> !abV P s d
 | .alloc _| .box .. | .buildSlice .. | .store .. | .mapUpdate .. | .insert .. | .makeMap .. | .makeSlice .. | .range .. | .next .. =>false
 | .call c=>match c.callee with
  | .builtin .len| .builtin .cap| .builtin .min| .builtin .max=>true
  |_=>false
 |_=>true
def EJ(N:Nat)(o:Oper)(v:Value)(r:cY)(K:cY→Prop):Prop:=
 match o.dst with
 |none=>K r
 |some d=>bif Nat.blt d N then K ((d,v)::r)else False
noncomputable def ach(P:Program)(N:Nat)(ek:Option (Kind×Kind))(o:Oper)(r:cY)(K:cY→ad→Prop)(h:ad):Prop:=
 bif Ah P o.op then F4 P ek o.op r (fun v _=>EJ N o v r fun a=>K a h) h
 else Lm P o r (fun v h'=>EJ N o v r fun a=>K a h') h
inductive DV where
 |f|t|u|x
abbrev zd:=List (Nat×DV)
noncomputable def vA(d:zd)(t:Nat):DV:=
 g6 (motive:=fun _=>DV) .x (fun a _ b=>bif cg a.1 t then a.2 else b) d
noncomputable def EL(d:zd):Operand→DV
 | .tmp t=>vA d t
 | .const (.bool true)=>.t
 | .const (.bool false)=>.f
 |_=>.x
noncomputable def PL(d:zd):Op→DV
 | .move x=>EL d x
 | .assign x=>EL d x
 | .pick c a b=>match EL d c with
  | .t=>EL d a
  | .f=>EL d b
  |_=>.x
 | .unOp .not _ x=>match EL d x with
  | .t=>.f
  | .f=>.t
  |_=>.x
 |_=>.x
def wH(d:zd)(o:Oper)(v:DV):zd:=match o.dst with|some t=>(t,v)::d|none=>d
noncomputable def lI(ops:List Oper)(d:zd)(o:Oper):Option Bool:=
 match o.guard with
 |none=>some true
 |some (j,want)=>match ops[j]? with
  |none=>none
  |some oj=>match oj.dst with
   |none=>none
   |some t=>match vA d t with
    | .t=>some want
    | .f=>some (!want)
    | .u=>some false
    | .x=>none
def JR(ops:List Oper)(o:Oper):Option Nat:=
 match o.guard with
 |none=>none
 |some (j,_)=>match ops[j]? with
  |none=>none
  |some oj=>oj.dst
noncomputable def MG(P:Program)(N:Nat)(ek:Option (Kind×Kind))(ops:List Oper)(o:Oper)(d:zd)(r:cY)(h:ad)(K:zd→cY→ad→Prop):Prop:=
 match lI ops d o with
 |some true=>ach P N ek o r (K (wH d o (PL d o.op))) h
 |some false=>EJ N o undef r fun a=>K (wH d o .u) a h
 |none=>False
noncomputable def Jd(P:Program)(N:Nat)(ek:Option (Kind×Kind))(ops:List Oper)(l:List Oper):zd→(cY→ad→Prop)→cY→ad→Prop:=
 g6 (motive:=fun _=>zd→(cY→ad→Prop)→cY→ad→Prop) (fun _ K r h=>K r h)
  (fun o _ c d K r h=>
  match lI ops d o with
  |some true=>ach P N ek o r (fun a h'=>c (wH d o (PL d o.op)) K a h') h
  |some false=>EJ N o undef r fun a=>c (wH d o .u) K a h
  |none=>match JR ops o with
   |none=>False
   |some t=>match m0 r t with
    |some (.bool b)=>CondP b
     (MG P N ek ops o ((t,.t)::d) ((t,.bool true)::r) h fun e a h'=>c e K a h')
     (MG P N ek ops o ((t,.f)::d) ((t,.bool false)::r) h fun e a h'=>c e K a h')
    |_=>False) l
inductive DA where
 |done
 |take (i:Nat) (rest:DA)
 |all (l:DA)
 |pick (i:Nat) (rest more:DA)
 |last (i:Nat) (rest:DA)
 |lastT (i:Nat) (rest:DA)
 |split (t:Nat) (yes no:DA)
abbrev vm:=List (Nat×(ad→Prop))
def tb(m i:Nat):Bool:=cg (mh (Nat.shiftRight m i) 1) 1
def jK(i:Nat):Nat:=Nat.pow 2 i
inductive DM where
 |mk (am fr lk ds:Nat)
def DM.am:DM→Nat| .mk a _ _ _=>a
def DM.fr:DM→Nat| .mk _ f _ _=>f
def DM.lk:DM→Nat| .mk _ _ l _=>l
def DM.ds:DM→Nat| .mk _ _ _ d=>d
def lZ(o:Oper)(i:Nat):Bool:=o.after.toList.any fun e=>cg e.on i&&Region.binds .any e
noncomputable def pU(l:List Edge):Nat:=
 g6 (motive:=fun _=>Nat) 0 (fun e _ a=>bif Region.binds .any e then dL (jK e.on) a else a) l
noncomputable def pa(l:List Operand):Nat:=
 g6 (motive:=fun _=>Nat) 0 (fun o _ a=>match o with| .tmp t=>dL (jK t) a|_=>a) l
def qX(o:Oper):Nat:=match o.dst with|some d=>jK d|none=>0
noncomputable def rN(ops:List Oper)(o:Oper):Nat:=
 dL (pa o.op.operands.toList) (match o.guard with
  |some (g,_)=>(match ops[g]? with|some og=>qX og|none=>0)
  |none=>0)
noncomputable def AN(ops:List Oper)(l:List Oper):List DM→Bool:=
 g6 (motive:=fun _=>List DM→Bool) (fun ms=>match ms with| []=>true|_=>false)
  (fun o _ a ms=>match ms with
   |m::ms=>cg (pU o.after.toList) m.am&&cg (rN ops o) m.lk&&cg (qX o) m.ds&&a ms
   | []=>false) l
def Gw(x y:DM):Bool:=cg (mh x.ds (dL y.lk y.ds)) 0&&cg (mh y.ds x.lk) 0
noncomputable def Nl(i:Nat)(m:DM)(l:List DM):Nat→Bool:=
 g6 (motive:=fun _=>Nat→Bool) (fun _=>true)
  (fun n _ a j=>(!(tb m.fr j)||cg j i||tb n.am i||Gw m n)&&a (ik j)) l
noncomputable def EB(all:List DM)(l:List DM):Nat→Bool:=
 g6 (motive:=fun _=>Nat→Bool) (fun _=>true) (fun m _ a i=>Nl i m all 0&&a (ik i)) l
def QE:List Oper→Bool
 | []=>true
 |o::os=>(match o.op with| .select .. =>false| .defer _=>false|_=>true)&&QE os
noncomputable def Il(ops:List Oper)(ms:List DM):Bool:=AN ops ops ms&&EB ms ms 0&&QE ops
def xi(o:Oper):vm→vm
 | []=> []
 |(k,S)::l=>bif lZ o k then xi o l else(k,S)::xi o l
def yE:vm→ad→Prop→Prop
 | [],_,R=>R
 |(_,S)::l,h,R=>S h∧yE l h R
def MM(m:DM)(ls:Nat):Bool:=cg (mh m.am ls) m.am
noncomputable def pi(ls:Nat)(l:List DM):Nat→List Nat:=
 g6 (motive:=fun _=>Nat→List Nat) (fun _=> []) (fun m _ a j=>bif !(tb ls j)&&MM m ls then j::a (ik j)else a (ik j)) l
def IR(m:DM)(i ls n:Nat):Bool:= !(tb ls i)&&MM m ls&&cg (mh (dL ls m.fr) (BB (jK n))) (BB (jK n))
def zr:List Nat→List Nat→Bool
 | [],[]=>true
 |a::as,b::bs=>cg a b&&zr as bs
 |_,_=>false
def Gg:DA→List Nat
 | .pick i _ l=>i::Gg l
 | .last i _=> [i]
 | .lastT i _=> [i]
 |_=> []
noncomputable def Wa(P:Program)(N:Nat)(ops:List Oper)(i:Nat)(L:vm)(d:zd)(r:cY)(h:ad)(K:vm→zd→cY→ad→Prop):Prop:=
 match ops[i]? with
 |none=>False
 |some o=>match lI ops d o with
  |some true=>bif Ah P o.op then False else Lm P o r (fun v h'=>EJ N o v r fun a=>yE (xi o L) h' (K (xi o L) (wH d o .x) a h')) h
  |_=>False
noncomputable def Xv(m:Nat)(l:List DM):Nat→Nat:=
 g6 (motive:=fun _=>Nat→Nat) (fun _=>m) (fun n _ a j=>bif tb m j then dL n.am (a (ik j))else a (ik j)) l
noncomputable def EN(ms:List DM)(m:Nat):Nat:=Xv (Xv (Xv (Xv m ms 0) ms 0) ms 0) ms 0
def O8(ms:List DM)(i:Nat):Nat:=match ms[i]? with|some m=>m.am|none=>0
def Eh(m:Nat):vm→vm
 | []=> []
 |(k,S)::l=>bif tb m k then Eh m l else(k,S)::Eh m l
noncomputable def U3(P:Program)(N:Nat)(ops:List Oper)(ms:List DM)(i:Nat)(L:vm)(d:zd)(r:cY)(h:ad)(K:vm→zd→cY→ad→Prop):Prop:=
 match ops[i]? with
 |none=>False
 |some o=>match lI ops d o with
  |some true=>bif Ah P o.op then False else Lm P o r (fun v h'=>EJ N o v r fun a=>yE (Eh (EN ms (O8 ms i)) L) h' (K (Eh (EN ms (O8 ms i)) L) (wH d o .x) a h')) h
  |_=>False
noncomputable def qx(P:Program)(N:Nat)(ops:List Oper)(ms:List DM)(j:DA):Bool→Nat→vm→zd→(cY→ad→Prop)→cY→ad→Prop:=
 DA.rec (motive:=fun _=>Bool→Nat→vm→zd→(cY→ad→Prop)→cY→ad→Prop)
  (fun m ls _ _ K r h=>bif !m&&zr (pi ls ms 0) []then K r h else False)
  (fun i _ c m ls L d K r h=>
   match ops[i]?,ms[i]? with
   |some o,some mi=>bif !m&&IR mi i ls ops.length then
     (match lI ops d o with
      |none=>False
      |some false=>EJ N o undef r fun a=>c false (dL ls (jK i)) L (wH d o .u) K a h
      |some true=>bif Ah P o.op then
       F4 P none o.op r (fun v S=>EJ N o v r fun a=>match S with
        |none=>c false (dL ls (jK i)) L (wH d o (PL d o.op)) K a h
        |some S=>c false (dL ls (jK i)) ((i,S)::L) (wH d o (PL d o.op)) K a h) h
       else False)
    else False
   |_,_=>False)
  (fun l c m ls L d K r h=>bif !m&&zr (pi ls ms 0) (Gg l)then c true ls L d K r h else False)
  (fun i _ _ e f m ls L d K r h=>bif m then Wa P N ops i L d r h (fun L' g a h'=>e false (dL ls (jK i)) L' g K a h')∧f true ls L d K r h else False)
  (fun i _ c m ls L d K r h=>bif m then Wa P N ops i L d r h (fun L' g a h'=>c false (dL ls (jK i)) L' g K a h')else False)
  (fun i _ c m ls L d K r h=>bif m then U3 P N ops ms i L d r h (fun L' g a h'=>c false (dL ls (jK i)) L' g K a h')else False)
  (fun t _ _ e f m ls L d K r h=>
   bif m then False else match m0 r t with
   |some (.bool b)=>CondP b (e false ls L ((t,.t)::d) K ((t,.bool true)::r) h) (f false ls L ((t,.f)::d) K ((t,.bool false)::r) h)
   |_=>False)
  j
noncomputable def adA(b:Oper)(i:Nat)(ds lk:Nat)(ops:List Oper)(l:List Oper):Nat→Nat:=
 g6 (motive:=fun _=>Nat→Nat) (fun _=>0) (fun p _ a j=>bif (cg j i||lZ p i||(cg (mh ds (dL (rN ops p) (qX p))) 0&&cg (mh (qX p) lk) 0))then dL (jK j) (a (ik j))else a (ik j)) l
noncomputable def adp(ops:List Oper)(l:List Oper):Nat→List DM:=
 g6 (motive:=fun _=>Nat→List DM) (fun _=> []) (fun o _ a i=>.mk (pU o.after.toList) (adA o i (qX o) (rN ops o) ops ops 0) (rN ops o) (qX o)::a (ik i)) l
def acq(P:Program)(w:Option Bool)(o:Oper):Bool:=match w with|some false=>true|some true=>Ah P o.op|none=>false
noncomputable def ab0(P:Program)(ops:List Oper)(d:zd)(ls n:Nat)(l:List Oper):List DM→Nat→Option (Nat×Oper):=
 g6 (motive:=fun _=>List DM→Nat→Option (Nat×Oper)) (fun _ _=>none)
  (fun o _ a ms j=>match ms with
   | []=>none
   |m::ms=>bif IR m j ls n&&acq P (lI ops d o) o then some (j,o)else a ms (ik j)) l
noncomputable def ab1(ops:List Oper)(d:zd)(ls:Nat)(l:List Oper):List DM→Nat→Option Nat:=
 g6 (motive:=fun _=>List DM→Nat→Option Nat) (fun _ _=>none)
  (fun o _ a ms j=>match ms with
   | []=>none
   |m::ms=>match bif !(tb ls j)&&MM m ls then(match lI ops d o with|none=>JR ops o|some _=>none)else none with
    |some t=>some t
    |none=>a ms (ik j)) l
noncomputable def acG(ops:List Oper)(k:Nat→zd→DA)(ls:Nat)(d:zd)(l:List Nat):DA:=
 g6 (motive:=fun _=>DA) .done (fun i a b=>match ops[i]? with
  |none=>.done
  |some o=>match a with
   | []=>.last i (k (dL ls (jK i)) (wH d o .x))
   |_=>.pick i (k (dL ls (jK i)) (wH d o .x)) b) l
noncomputable def aca(P:Program)(ops:List Oper)(ms:List DM)(fuel:Nat):Nat→zd→DA:=
 Nat.rec (motive:=fun _=>Nat→zd→DA) (fun _ _=>.done) (fun _ a ls d=>
  match ab0 P ops d ls ops.length ops ms 0 with
  |some (i,o)=>.take i (a (dL ls (jK i)) (match lI ops d o with|some false=>wH d o .u|_=>wH d o (PL d o.op)))
  |none=>match ab1 ops d ls ops ms 0 with
   |some t=>.split t (a ls ((t,.t)::d)) (a ls ((t,.f)::d))
   |none=>match pi ls ms 0 with
    | []=>.done
    |l=>.all (acG ops a ls d l)) fuel
noncomputable def Vj(ops:List Oper):List DM:=adp ops ops 0
inductive Ex where
 |exit (id:Nat)
 |ret
abbrev St:=List (Nat×Kind)
def Dc:St→List Kind
 | []=> []
 |(_,k)::l=>k::Dc l
noncomputable def IW(r:cY):St→Option (List Value)
 | []=>some []
 |(i,_)::l=>match m0 r i,IW r l with
  |some v,some vs=>some (v::vs)
  |_,_=>none
noncomputable def GY(st:St)(r:cY)(f:Ag (Dc st)→Prop):Prop:=
 match IW r st with
 |some vs=>HU (Dc st) vs f
 |none=>False
def qS:St→List Value→cY→cY
 |(i,_)::l,v::vs,r=>(i,v)::qS l vs r
 |_,_,r=>r
noncomputable def Vq(r:cY)(l:List Nat):Option cY:=
 g6 (motive:=fun _=>Option cY) (some []) (fun t _ a=>match m0 r t,a with
  |some v,some l=>some ((t,v)::l)
  |_,_=>none) l
noncomputable def o8(t:Nat)(l:List Oper):Bool:=
 g6 (motive:=fun _=>Bool) false (fun o _ a=>match o.dst with|some d=>bif cg d t then true else a|none=>a) l
noncomputable def jg(t:Nat)(c:Code):Bool:=
 Code.rec (motive:=fun _=>Bool) false (fun _ ops _=>o8 t ops.toList) (fun _ _ a b=>bif a then true else b) (fun _ _ _ a b=>bif a then true else b)
  (fun _ _ b=>b) (fun _ b=>b) (fun _ _ _ _ _ _=>true) (fun _=>false) (fun _ b=>b) (fun _=>false) (fun _=>false) false (fun _=>false) c
inductive Ann where
 |nil
 |node (a b:Ann)
 |join (st:St) (a b:Ann)
 |loop (st:St) (b:Ann)
 |draw (d:DA)
 |kinds (k v:Kind)
 |reg (keep:List Nat) (inner:Ann)
 |rf (ks:List Kind) (a b:Ann)
def Ann.l:Ann→Ann
 | .node a _=>a
 | .rf _ a _=>a
 |_=>.nil
def Ann.r:Ann→Ann
 | .node _ b=>b
 | .rf _ _ b=>b
 |_=>.nil
noncomputable def XJ(l:List Oper):Nat:=g6 (motive:=fun _=>Nat) 0 (fun o _ a=>dL (qX o) a) l
def acH:Option Nat→Option Nat→Option Nat
 |some a,some b=>some (dL a b)
 |_,_=>none
noncomputable def Cp(c:Code):Option Nat:=
 Code.rec (motive:=fun _=>Option Nat) (some 0) (fun _ ops _=>some (XJ ops.toList)) (fun _ _ a b=>acH a b) (fun _ _ _ a b=>acH a b)
  (fun _ _ b=>b) (fun _ b=>b) (fun _ _ _ _ _ _=>none) (fun _=>some 0) (fun _ b=>b) (fun _=>some 0) (fun _=>some 0) (some 0) (fun _=>some 0) c
noncomputable def AQ(m:Nat)(r:cY):cY:=g6 (motive:=fun _=>cY) [] (fun b _ a=>bif tb m b.1 then a else b::a) r
noncomputable def FV(P:Program)(N:Nat)(ops:List Oper)(b:Bool)(a:Ann)(Kn:cY→ad→Prop)(r:cY)(h:ad):Prop:=
 match b with
 |false=>(match a with
  | .kinds kk vk=>Jd P N (some (kk,vk)) ops ops [] Kn r h
  |_=>Jd P N none ops ops [] Kn r h)
 |true=>bif Il ops (Vj ops)then qx P N ops (Vj ops) (match a with| .draw da=>da|_=>aca P ops (Vj ops) (Nat.add (Nat.add ops.length ops.length) 2) 0 []) false 0 [] [] Kn r h else False
noncomputable def oG(P:Program)(N:Nat)(c:Code):Ann→(cY→ad→Prop)→(Ex→cY→ad→Prop)→cY→ad→Prop:=
 Code.rec (motive:=fun _=>Ann→(cY→ad→Prop)→(Ex→cY→ad→Prop)→cY→ad→Prop)
  (fun _ Kn _ r h=>Kn r h)
  (fun _ ops p d Kn _ r h=>match d with
   | .reg keep d=>FV P N ops.toList p d (fun f h'=>match Vq f keep with|some r0=>Kn r0 h'|none=>False) r h
   |d=>FV P N ops.toList p d Kn r h)
  (fun a _ j g d Kn Kx r h=>match d with
   | .join st aa ab=>(match Cp a with
     |none=>False
     |some m=>Join (T:=Ag (Dc st)) (fun t h'=>g ab Kn Kx (qS st (qE (Dc st) t) (AQ m r)) h')
      fun J=>j aa (fun f h'=>GY st f fun t=>J t h') Kx r h)
   |d=>j d.l (fun f h'=>g d.r Kn Kx f h') Kx r h)
  (fun c _ _ j g d Kn Kx r h=>match eI r c with
   |some (.bool t)=>CondP t (j d.l Kn Kx r h) (g d.r Kn Kx r h)
   |_=>False)
  (fun id _ n d Kn Kx r h=>n d Kn (fun e f h'=>match e with
    | .exit i=>bif cg i id then Kn f h' else Kx (.exit i) f h'
    | .ret=>Kx .ret f h') r h)
  (fun b n d _ Kx r h=>match d with
   | .loop st ab=>(match Cp b with
     |none=>False
     |some m=>GY st r fun s=>LoopP (T:=Ag (Dc st)) (fun k t h'=>n ab (fun f o=>GY st f fun q=>k q o) Kx (qS st (qE (Dc st) t) (AQ m r)) h') s h)
   |_=>False)
  (fun _ _ _ _ _ _ _ _ _ _ _=>False)
  (fun id _ _ Kx r h=>Kx (.exit id) r h)
  (fun _ _ _ _ _ _ _=>False)
  (fun _ _ Kn _ r h=>Kn r h)
  (fun _ _ _ _ _ _=>False)
  (fun _ _ Kx r h=>Kx .ret r h)
  (fun _ _ _ _ _ _=>False)
  c
noncomputable def qT(P:Program)(r:cY)(h:ad):List ResultVar→(List Value→Prop)→Prop
 | [],K=>K []
 | .tmp t::l,K=>(match m0 r t with|some v=>qT P r h l fun vs=>K (v::vs)|none=>False)
 | .cell a t::l,K=>(match m0 r a with
  |some v=>Qn P t v (fun x _=>qT P r h l fun vs=>K (x::vs)) h
  |none=>False)
def uC:Nat→List Value→cY
 |_,[]=> []
 |i,v::vs=>(i,v)::uC (i+1) vs
noncomputable def U4(P:Program)(fn:Func)(c:Code)(a:Ann)(args:List Value)(ks:List Kind)(K:Ag ks→ad→Prop)(h:ad):Prop:=
 oG P fn.ntmps c a
  (fun r h'=>qT P r h' fn.results.toList fun vs=>HU ks vs fun t=>K t h')
  (fun e r h'=>match e with
   | .ret=>qT P r h' fn.results.toList fun vs=>HU ks vs fun t=>K t h'
   | .exit _=>False)
  (uC 0 args) h
noncomputable def wA(c:Code):Bool:=
 Code.rec (motive:=fun _=>Bool) false (fun _ _ _=>false) (fun _ _ a b=>bif a then true else b) (fun _ _ _ a b=>bif a then true else b)
  (fun _ _ b=>b) (fun _ b=>b) (fun _ _ _ _ _ _=>true) (fun _=>false) (fun _ b=>b) (fun _=>false) (fun _=>false) false (fun _=>false) c
def OJ:Option Ex→Option Code
 |none=>none
 |some (.exit i)=>some (.exit i)
 |some .ret=>some .ret
def adB(N:ad→Prop)(X:Nat→ad→Prop)(R:ad→Prop):Option Ex→ad→Prop
 |none=>N
 |some (.exit i)=>X i
 |some .ret=>R
structure RangeP(P:Program)(fv:Value)(ks:List Kind)(h:ad)(RT:Obj→Obj→Ag ks→(Option Ex→ad→Prop)→ad→Prop)(N:ad→Prop)(X:Nat→ad→Prop)(R:ad→Prop):Prop where
 run:∀lo:LoopState→Option Ex→Obj,(∀s j,∃r,lo s j=.loop r)→
  (∀x h' K,h'[h.size+1]? =some (lo .ready none)→
   RT (lo .ready none) (lo .busy none) x (fun j h2=>h2[h.size+1]? =some (lo .busy none)∧K j.isNone (h2.setIfInBounds (h.size+1) (lo (if j.isNone then .ready else .done) j))) h'→
   HV P (.func (.yield (h.size+1)) #[] #[]) (qE ks x) [.c .bool] K h')→
  ∃f first cap,fv=.func (.func f) first cap∧HE P f (first.toList++ [.func (.yield (h.size+1)) #[] #[]]++cap.toList) []
   (fun _ h2=>∃s j,s≠ .busy∧h2[h.size+1]? =some (lo s j)∧adB N X R j (h2.setIfInBounds (h.size+1) (lo .exhausted j))) ((h.push (.deferred (some []))).push (lo .ready none))
def ZU:List Nat→List Value→cY→cY
 |i::l,v::vs,r=>ZU l vs ((i,v)::r)
 |_,_,r=>r
noncomputable def SB(P:Program)(N:Nat)(ps:List Nat)(ks:List Kind)(assign body:Code)(a:Ann)(r:cY)(l:Nat)(MM d:Obj)(x:Ag ks)(k:Option Ex→ad→Prop)(h:ad):Prop:=
 oG P N assign a.l (fun c b=>b[l]? =some MM∧oG P N body a.r (fun _ h2=>k none h2) (fun e _ h2=>k (some e) h2) c (b.setIfInBounds l d)) (fun _ _ _=>False) (ZU ps (qE ks x) r) h
def Dp(N:Nat):List Nat→Bool
 | []=>true
 |n::l=>Nat.blt n N&&Dp N l
noncomputable def Di(P:Program)(N:Nat)(c:Code):Ann→(List Nat→cY→ad→Prop)→(Ex→List Nat→cY→ad→Prop)→List Nat→cY→ad→Prop:=
 Code.rec (motive:=fun _=>Ann→(List Nat→cY→ad→Prop)→(Ex→List Nat→cY→ad→Prop)→List Nat→cY→ad→Prop)
  (fun d Kn Kx ms r h=>oG P N .skip d (Kn ms) (fun e=>Kx e ms) r h)
  (fun id ops p d Kn Kx ms r h=>oG P N (.region id ops p) d (Kn ms) (fun e=>Kx e ms) r h)
  (fun a b j f d Kn Kx ms r h=>bif (bif wA a then true else wA b)then j d.l (fun ms m h'=>f d.r Kn Kx ms m h') Kx ms r h
   else oG P N (.seq a b) d (Kn ms) (fun e=>Kx e ms) r h)
  (fun c a b j f d Kn Kx ms r h=>bif (bif wA a then true else wA b)then
    (match eI r c with
     |some (.bool t)=>CondP t (j d.l Kn Kx ms r h) (f d.r Kn Kx ms r h)
     |_=>False)
   else oG P N (.cond c a b) d (Kn ms) (fun e=>Kx e ms) r h)
  (fun id b o d Kn Kx ms r h=>bif wA b then o d Kn (fun e ms m h'=>match e with
    | .exit i=>bif cg i id then Kn ms m h' else Kx (.exit i) ms m h'
    | .ret=>Kx .ret ms m h') ms r h
   else oG P N (.block id b) d (Kn ms) (fun e=>Kx e ms) r h)
  (fun b _ d Kn Kx ms r h=>oG P N (.loop b) d (Kn ms) (fun e=>Kx e ms) r h)
  (fun g ps assign body _ _ d Kn Kx ms r h=>match d with
   | .rf ks aa ab=>bif Dp N ps.toList&&cg ps.toList.length ks.length then
    (match eI r g with
     |some fv=>RangeP P fv ks h (fun MM n x k h'=>SB P N ps.toList ks assign body (.node aa ab) r (h.size+1) MM n x k h')
      (fun h'=>Kn (h.size::ms) r h') (fun i h'=>Kx (.exit i) (h.size::ms) r h') (fun h'=>Kx .ret (h.size::ms) r h')
     |none=>False)else False
   |_=>False)
  (fun id d Kn Kx ms r h=>oG P N (.exit id) d (Kn ms) (fun e=>Kx e ms) r h)
  (fun _ _ _ _ _ _ _ _=>False)
  (fun l d Kn Kx ms r h=>oG P N (.label l) d (Kn ms) (fun e=>Kx e ms) r h)
  (fun _ _ _ _ _ _ _=>False)
  (fun d Kn Kx ms r h=>oG P N .ret d (Kn ms) (fun e=>Kx e ms) r h)
  (fun _ _ _ _ _ _ _=>False)
  c
def U0:List Nat→(ad→Prop)→ad→Prop
 | [],K,h=>K h
 |D::ms,K,h=>h[D]? =some (.deferred (some []))∧U0 ms K (h.setIfInBounds D (.deferred none))
noncomputable def SC(P:Program)(fn:Func)(c:Code)(a:Ann)(args:List Value)(ks:List Kind)(K:Ag ks→ad→Prop)(h:ad):Prop:=
 Di P fn.ntmps c a
  (fun ms r h'=>U0 ms (fun h'=>qT P r h' fn.results.toList fun vs=>HU ks vs fun t=>K t h') h')
  (fun e ms r h'=>match e with
   | .ret=>U0 ms (fun h'=>qT P r h' fn.results.toList fun vs=>HU ks vs fun t=>K t h') h'
   | .exit _=>False)
  [] (uC 0 args) h
end Go.Lift
namespace Go.Lift
open Go
theorem Kw(a:Addr):adr a 0=a:=rfl
theorem EV(a:Addr)(n:Nat):adr a (n+1)=⟨a.block,a.off+(n+1),none⟩:=rfl
theorem yk(a:Addr)(n:Nat):adr a n=a.add n:=by
 cases n with
 |zero=>simp[Kw,Addr.add]
 |succ n=>simp[EV,Addr.add]
theorem EW(a:Addr)(m n:Nat):adr (adr a m) n=adr a (m+n):=by
 cases n with
 |zero=>rfl
 |succ n=>cases m with
  |zero=>simp[Kw]
  |succ m=>rw[EV,EV,show m+1+(n+1)=(m+1+n)+1 from rfl,EV];simp;omega
theorem Tame.refl(w:World):Tame w w:=⟨rfl,rfl,rfl⟩
theorem Tame.trans{a b c:World}(h:Tame a b)(k:Tame b c):Tame a c:=⟨k.os.trans h.os,k.tape.trans h.tape,k.output.trans h.output⟩
theorem Ey{a b:IntKind}(h:Oy a b=true):a=b:=by cases a<;>cases b<;>first|rfl|cases h
theorem CK.dec_sound{c:CK}{v:Value}{f:c.den→Prop}(h:c.dec v f):∃x,v=c.enc x∧f x:=by
 cases c<;>cases v<;>try simp only[CK.dec]at h
 case int.int k k' n=>
  cases hk:Oy k' k with
  |false=>rw[hk]at h;exact h.elim
  |true=>rw[hk]at h;have:=Ey hk;subst this;exact⟨n,rfl,h⟩
 case adr.pointer p=>cases p with
  |none=>exact h.elim
  |some a=>exact⟨a,rfl,h⟩
 all_goals first|exact h.elim|exact⟨_,rfl,h⟩
theorem Ho:∀{cs:List CK} {vs:List Value} {f:ZE cs→Prop},VH cs vs f→∃t,vs=Zg cs t∧f t
 | [],[],f,h=>⟨(),rfl,h⟩
 | [],_::_,f,h=>h.elim
 | [c],[v],f,h=>by obtain⟨x,rfl,b⟩:=CK.dec_sound h;exact⟨x,rfl,b⟩
 | [c],[],f,h=>h.elim
 | [c],_::_::_,f,h=>h.elim
 |c::d::cs,[],f,h=>h.elim
 |c::d::cs,[_],f,h=>h.elim
 |c::d::cs,v::u::vs,f,h=>by
  have e:c.dec v fun x=>VH (d::cs) (u::vs) fun t=>f (x,t):=h
  obtain⟨x,hx,g⟩:=CK.dec_sound e;obtain⟨t,a,h2⟩:=Ho (cs:=d::cs) (vs:=u::vs) g;exact⟨(x,t),by rw[a,hx];rfl,h2⟩
theorem Kind.dec_sound{k:Kind}{v:Value}{f:k.den→Prop}(h:k.dec v f):∃x,v=k.enc x∧f x:=by
 cases k with
 |c k=>exact CK.dec_sound h
 |agg cs=>
  cases v<;>simp only[Kind.dec]at h
  case agg vs=>
   obtain⟨t,a,b⟩:=Ho h;exact⟨t,by simp only[Kind.enc,←a],b⟩
theorem wG:∀{ks:List Kind} {vs:List Value} {f:Ag ks→Prop},HU ks vs f→∃t,vs=qE ks t∧f t
 | [],[],f,h=>⟨(),rfl,h⟩
 | [],_::_,f,h=>h.elim
 | [c],[v],f,h=>by obtain⟨x,rfl,b⟩:=Kind.dec_sound h;exact⟨x,rfl,b⟩
 | [c],[],f,h=>h.elim
 | [c],_::_::_,f,h=>h.elim
 |c::d::cs,[],f,h=>h.elim
 |c::d::cs,[_],f,h=>h.elim
 |c::d::cs,v::u::vs,f,h=>by
  have e:c.dec v fun x=>HU (d::cs) (u::vs) fun t=>f (x,t):=h
  obtain⟨x,hx,g⟩:=Kind.dec_sound e;obtain⟨t,a,h2⟩:=wG (ks:=d::cs) (vs:=u::vs) g;exact⟨(x,t),by rw[a,hx];rfl,h2⟩
theorem xu:∀(ks:List Kind) (t:Ag ks),(qE ks t).length=ks.length
 | [],_=>rfl
 | [_],_=>rfl
 |_::l::ks,(_,t)=>by simp only[qE,al,xu (l::ks) t]
structure Agree(N:Nat)(r:cY)(a:Act):Prop where
 size:a.tmps.size=N
 look:∀t v,m0 r t=some v→a.tmps.getD t undef=v
theorem kV(k:Nat)(v:Value)(r:cY):m0 ((k,v)::r) k=some v:=by rw[Jk,show cg k k=true from Nat.beq_refl k];rfl
theorem jO{k t:Nat}(v:Value)(r:cY)(h:k≠t):m0 ((k,v)::r) t=m0 r t:=by
 rw[Jk];have:cg k t=false:=Bool.eq_false_iff.2 fun e=>h (bG e)
 rw[this];rfl
theorem Agree.put{N:Nat}{r:cY}{a:Act}(h:Agree N r a)(d:Nat)(v:Value)(hd:d<N):Agree N ((d,v)::r) (a.put (some d) v):=by
 refine⟨by simp[Act.put,h.size],fun t u b=>?_⟩
 by_cases e:d=t
 ·subst e
  rw[kV]at b;cases b;simp[Act.put,h.size,hd]
 ·rw[jO v r e]at b
  have:=h.look t u b;simpa[Act.put,Array.getElem?_setIfInBounds_ne e]using this
theorem Agree.known{N:Nat}{r:cY}{a:Act}(h:Agree N r a){t:Nat}{v:Value}(hv:m0 r t=some v):Agree N ((t,v)::r) a:=by
 refine⟨h.size,fun s u b=>?_⟩
 by_cases e:t=s
 ·subst e;rw[kV]at b;cases b;exact h.look t v hv
 ·rw[jO v r e]at b;exact h.look s u b
theorem ph{N:Nat}{r:cY}{a:Act}(h:Agree N r a){o:Operand}{v:Value}(hv:eI r o=some v):a.eval o=v:=by
 cases o with
 |tmp t=>exact h.look t v hv
 |const c=>simp[eI]at hv;subst hv;rfl
 |global g=>simp[eI]at hv;subst hv;rfl
 |func f=>simp[eI]at hv;subst hv;rfl
theorem r6{N:Nat}{r:cY}{a:Act}(h:Agree N r a):∀{os:List Operand} {vs:List Value},vg r os=some vs→os.map a.eval=vs
 | [],vs,hv=>by simp[vg]at hv;subst hv;rfl
 |o::os,vs,hv=>by
  simp only[vg]at hv;cases ho:eI r o with
  |none=>simp[ho]at hv
  |some v=>cases hos:vg r os with
   |none=>simp[ho,hos]at hv
   |some us=>simp[ho,hos]at hv;subst hv;simp[ph h ho,r6 h hos]
theorem aM{P:Program}{t:TypeId}{d:TypeDesc}(h:P.underlying t=some d)(w:World):(underlying t).run P w=.ok d w:=by
 simp only[underlying,program,bind,Sem.bind,Sem.run,h,pure]
theorem dJ{P:Program}{t:TypeId}{i:TypeInfo}(h:P.info? t=some i)(w:World):(typeInfo t).run P w=.ok i w:=by
 simp only[typeInfo,program,bind,Sem.bind,Sem.run,h,pure]
theorem lR{P:Program}{s:Sem Value}{v:Value}{w a:World}(h:s.run P w=.ok v a):(do pure (Next.value (←s)):Sem Next).run P w=.ok (.value v) a:=by
 simp[h]
theorem Yc{P:Program}{s:Sem Unit}{w a:World}(h:s.run P w=.ok () a):(do s;pure Next.skip:Sem Next).run P w=.ok .skip a:=by
 simp[h]
theorem Eg{P:Program}{w:World}{a:Addr}{v:Value}(h:aO w.heap a=some v):(load a).run P w=.ok v w:=by
 have h':w.cell? a=some v:=h;simp[h']
theorem EP{v:Value}{vs:List Value}{i:Nat}{a:Addr}{h:ad}:xw (v::vs) i a h↔aO h (adr a i)=some v∧xw vs (i+1) a h:=by
 cases vs with
 |nil=>simp[xw]
 |cons u us=>rfl
theorem xh{P:Program}{w:World}{a:Addr}:∀(vs:List Value) (i:Nat) (acc:Array Value),xw vs i a w.heap→
  (loadCellsFrom a i vs.length acc).run P w=.ok (acc++vs.toArray) w
 | [],i,acc,_=>by simp[loadCellsFrom]
 |v::vs,i,acc,h=>by
  obtain⟨b,h2⟩:=EP.1 h;rw[yk]at b;have:=xh (P:=P) (w:=w) (a:=a) vs (i+1) (acc.push v) h2;simp only[al,loadCellsFrom,Sem.run_bind,Eg b,Result.andThen_ok,this];simp
theorem Ls{P:Program}{w:World}{a:Addr}{vs:List Value}(h:xw vs 0 a w.heap):(loadCells a vs.length).run P w=.ok vs.toArray w:=by
 have:=xh (P:=P) (w:=w) (a:=a) vs 0 #[] h;simpa[loadCells]using this
theorem Cw:∀(cs:List CK) (i:Nat) (a:Addr) (h:ad) (k:List Value→Prop),OK cs i a h k→∃vs,vs.length=cs.length∧xw vs i a h∧k vs
 | [],i,a,h,k,b=>⟨[],rfl,trivial,b⟩
 |c::cs,i,a,h,k,b=>by
  obtain⟨x,hx,b⟩:=b;obtain⟨vs,d,hc,b⟩:=Cw cs (i+1) a h _ b;exact⟨c.enc x::vs,by simp[d],EP.2 ⟨hx,hc⟩,b⟩
theorem EO:∀{vs:List Value} {cs:List CK},Kg vs=some cs→cs.length=vs.length
 | [],cs,h=>by simp[Kg]at h;subst h;rfl
 |v::vs,cs,h=>by
  simp only[Kg]at h;cases h1:ab7 v with
  |none=>simp[h1]at h
  |some c=>cases h2:Kg vs with
   |none=>simp[h1,h2]at h
   |some ds=>simp[h1,h2]at h;subst h;simp[EO h2]
def Zz(P:Program)(t:TypeId)(i:TypeInfo):Kind→Prop
 | .c _=>zR P t=false
 | .agg cs=>zR P t=true∧i.size=cs.length
theorem Tj{P:Program}{t:TypeId}{k:Kind}(h:Vo P t=some k):∃i,P.info? t=some i∧Zz P t i k:=by
 unfold Vo Cn at h;cases hi:P.info? t with
 |none=>simp[hi]at h
 |some i=>
  refine⟨i,rfl,?_⟩;cases hz:i.zero with
  |none=>simp[hi,hz]at h
  |some z=>
   rw[hi]at h;simp only[hz]at h;cases z;case agg vs=>
    simp only at h;cases hb:(zR P t&&cg vs.toList.length (cC P t))with
    |false=>rw[hb]at h;simp at h
    |true=>
     rw[hb]at h;simp only[cond_true]at h;simp only[Bool.and_eq_true]at hb;have a:=bG hb.2;cases hd:Kg vs.toList with
     |none=>rw[hd]at h;simp at h
     |some ds=>
      rw[hd]at h;simp only[bQ.injEq]at h;subst h;exact⟨hb.1,by rw[EO hd,a];simp[cC,hi]⟩
   all_goals
    simp only at h;cases ha:zR P t
    ·rw[ha]at h
     simp only[cond_false]at h;split at h
     ·simp only[bQ.injEq]at h;subst h;exact ha
     ·simp at h
    ·rw[ha]at h;simp at h
theorem Tk{P:Program}{t:TypeId}{k:Kind}(h:JJ P t=some k):(∀w,(isAgg t).run P w=.ok (zR P t) w)∧Vo P t=some k:=by
 unfold JJ at h;cases hu:P.underlying t with
 |none=>simp[hu]at h
 |some d=>
  simp only[hu]at h;refine⟨fun w=>?_,h⟩
  simp only[isAgg,Sem.run_bind,aM hu,Result.andThen_ok];unfold zR;rw[hu];cases d<;>rfl
theorem G6{P:Program}{t:TypeId}{v:Value}{K:RK}{h:ad}(d:Qn P t v K h):
  ∃u S,K u (some S)∧S h∧∀w:World,S w.heap→(Instr.loadAt t v).run P w=.ok u w:=by
 unfold Qn at d;cases v with
 |pointer p=>
  cases p with
  |none=>exact d.elim
  |some a=>
   simp only at d;cases hk:JJ P t with
   |none=>simp[hk]at d
   |some k=>
    obtain⟨b,m⟩:=Tk hk;obtain⟨i,hi,hc⟩:=Tj m;rw[hk]at d;cases k with
    |c c=>
     obtain⟨x,hx,j⟩:=d;refine⟨_,_,j,hx,fun w g=>?_⟩
     have hc:zR P t=false:=hc;simp only[Instr.loadAt,Instr.sureAddr,loadVar,Sem.run_bind,Sem.run_pure,Result.andThen_ok,b,hc];simp[Eg g]
    |agg cs=>
     obtain⟨vs,e,f,j⟩:=Cw cs 0 a h _ d;obtain⟨n,h2⟩:zR P t=true∧i.size=cs.length:=hc;refine⟨_,_,j,f,fun w g=>?_⟩
     have m:(sizeOf t).run P w=.ok vs.length w:=by simp[sizeOf,dJ hi,h2,e]
     simp only[Instr.loadAt,Instr.sureAddr,loadVar,Sem.run_bind,Sem.run_pure,Result.andThen_ok,b,n];simp[m,Ls g]
 |_=>exact d.elim
end Go.Lift
