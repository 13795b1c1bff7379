/- A part of the proof that the named laws of this program answer true, whatever the input. -/
import Derived.OrdersIn
import Derived.Below
import Derived.WalkKit
import Derived.RangeFuncRecord
open BitVec renaming ofInt→av
open Iff renaming rfl→yR
open List renaming rec→gP,replicate→fg,length_cons→ao
open Nat renaming succ→g8,beq→cd,ble→AS,min→fa,land→lB,lor→dD,pred→Ar,eq_of_beq_eq_true→bG
open Option renaming some→bR
namespace Go.Lift
abbrev ae:=Array Obj
def aP(h:ae)(a:Addr):Option Value:=
 match h[a.block]? with
 |some (.cells c _ _)=>if a.spot.isSome then none else c[a.off]?
 |_=>none
def Hn(h:ae)(a:Addr):Bool:=
 match h[a.block]? with
 |some (.cells _ _ (lo,hi))=>lo≤a.off&&a.off<hi
 |_=>false
def hset(h:ae)(a:Addr)(v:Value):ae:=
 h.modify a.block fun
  | .cells c elem frozen=>.cells (if a.spot.isSome then c else c.setIfInBounds a.off v) elem frozen
  |o=>o
noncomputable def adr(a:Addr)(n:Nat):Addr:=Nat.rec (motive:=fun _=>Addr) a (fun n _=>⟨a.block,a.off+g8 n,none⟩) n
def Wr(h:ae)(a:Addr):Prop:=(∃v,aP h a=some v)∧Hn h a=false
structure Tame(w w':World):Prop where
 os:w'.os=w.os
 tape:w'.tape=w.tape
 output:w'.output=w.output
structure SliceV where
 a:Option Addr
 len:Nat
 cap:Nat
def Nl:IntKind→IntKind→Bool
 | .i8,.i8=>true| .i16,.i16=>true| .i32,.i32=>true| .i64,.i64=>true
 | .u8,.u8=>true| .u16,.u16=>true| .u32,.u32=>true| .u64,.u64=>true
 |_,_=>false
inductive CK where
 |int (k:IntKind)|bool|str|ptr|slice|map|chan|raw|adr
def CK.den:CK→Type
 | .int _=>Int| .bool=>Bool| .str=>ByteArray| .ptr=>Option Addr| .slice=>SliceV| .map=>Option Nat| .chan=>Option Nat| .raw=>Value| .adr=>Addr
def CK.enc:(c:CK)→c.den→Value
 | .int k,n=>.int k n
 | .bool,b=>.bool b
 | .str,s=>.string s
 | .ptr,p=>.pointer p
 | .slice,s=>.slice s.a s.len s.cap
 | .map,r=>.map r
 | .chan,r=>.chan r
 | .raw,v=>v
 | .adr,a=>.pointer (some a)
def CK.dec:(c:CK)→Value→(c.den→Prop)→Prop
 | .int k,.int k' n,f=>bif Nl k' k then f n else False
 | .bool,.bool b,f=>f b
 | .str,.string s,f=>f s
 | .ptr,.pointer p,f=>f p
 | .slice,.slice a l c,f=>f ⟨a,l,c⟩
 | .map,.map r,f=>f r
 | .chan,.chan r,f=>f r
 | .raw,v,f=>f v
 | .adr,.pointer (some a),f=>f a
 |_,_,_=>False
def XQ:List CK→Type
 | []=>Unit
 | [c]=>c.den
 |c::d::cs=>c.den×XQ (d::cs)
def Xs:(cs:List CK)→XQ cs→List Value
 | [],_=> []
 | [c],x=> [c.enc x]
 |c::d::cs,(x,t)=>c.enc x::Xs (d::cs) t
def T3:(cs:List CK)→List Value→(XQ cs→Prop)→Prop
 | [],[],f=>f ()
 | [c],[v],f=>c.dec v f
 |c::d::cs,v::u::vs,f=>c.dec v fun x=>T3 (d::cs) (u::vs) fun t=>f (x,t)
 |_,_,_=>False
inductive Kind where
 |c (k:CK)
 |agg (cs:List CK)
def Kind.den:Kind→Type
 | .c k=>k.den
 | .agg cs=>XQ cs
def Kind.enc:(k:Kind)→k.den→Value
 | .c k,x=>k.enc x
 | .agg cs,t=>.agg (Xs cs t).toArray
def Kind.dec:(k:Kind)→Value→(k.den→Prop)→Prop
 | .c k,v,f=>k.dec v f
 | .agg cs,.agg vs,f=>T3 cs vs.toList f
 |_,_,_=>False
def yY:List Kind→Type
 | []=>Unit
 | [k]=>k.den
 |k::l::ks=>k.den×yY (l::ks)
def pP:(ks:List Kind)→yY ks→List Value
 | [],_=> []
 | [k],x=> [k.enc x]
 |k::l::ks,(x,t)=>k.enc x::pP (l::ks) t
def GR:(ks:List Kind)→List Value→(yY ks→Prop)→Prop
 | [],[],f=>f ()
 | [k],[v],f=>k.dec v f
 |k::l::ks,v::u::vs,f=>k.dec v fun x=>GR (l::ks) (u::vs) fun t=>f (x,t)
 |_,_,_=>False
def H8(ks:List Kind)(vs:List Value):Value:=
 match ks,vs with
 | [_],[v]=>v
 |_,vs=>.tuple vs.toArray
def aao:Value→Option CK
 | .int k _=>some (.int k)
 | .bool _=>some .bool
 | .string _=>some .str
 | .pointer _=>some .ptr
 | .slice .. =>some .slice
 | .map _=>some .map
 | .chan _=>some .chan
 | .nilFunc=>some .raw
 | .nilIface=>some .raw
 |_=>none
def IY:List Value→Option (List CK)
 | []=>some []
 |v::vs=>match aao v,IY vs with
  |some c,some cs=>some (c::cs)
  |_,_=>none
def yJ(P:Program)(t:TypeId):Bool:=
 match P.underlying t with
 |some (.struct _)|some (.array _ _)=>true
 |_=>false
def cA(P:Program)(t:TypeId):Nat:=match P.info? t with|some i=>i.size|none=>0
def ul(P:Program)(t:TypeId):Nat:=match P.info? t with|some i=>i.bytes|none=>0
def Bh(P:Program)(t:TypeId):Option Value:=match P.info? t with|some i=>i.zero|none=>none
def TH(P:Program)(t:TypeId):Option Kind:=
 match Bh P t with
 |some (.agg vs)=>bif yJ P t&&cd vs.toList.length (cA P t)then(match IY vs.toList with|some cs=>some (.agg cs)|none=>none)else none
 |some v=>bif yJ P t then none else(match aao v with|some c=>some (.c c)|none=>none)
 |none=>none
def Ix(P:Program)(t:TypeId):Option Kind:=
 match P.underlying t with
 |none=>none
 |some _=>TH P t
structure HC(P:Program)(f:FuncId)(args:List Value)(ks:List Kind)(K:yY ks→ae→Prop)(h:ae):Prop where
 run:∀w:World,w.heap=h→
  ((callFunc f args.toArray).run P w=.ok (.enter f args.toArray) w∧
   Calls P f args.toArray w fun e w'=>Tame w w'∧∃t:yY ks,e=.returned (H8 ks (pP ks t))∧K t w'.heap)∨
  (∃v w',(callFunc f args.toArray).run P w=.ok (.value v) w'∧Tame w w'∧∃t:yY ks,v=H8 ks (pP ks t)∧K t w'.heap)
structure HE(P:Program)(f:FuncId)(args:List Value)(ks:List Kind)(K:yY ks→ae→Prop)(h:ae):Prop where
 run:∀w:World,w.heap=h→(∀(args:Array Value) (w:World),(callFunc f args).run P w=.ok (.enter f args) w)∧
  Calls P f args.toArray w fun e w'=>Tame w w'∧∃t:yY ks,e=.returned (H8 ks (pP ks t))∧K t w'.heap
theorem HE.hc{P:Program}{f:FuncId}{args:List Value}{ks:List Kind}{K:yY ks→ae→Prop}{h:ae}(e:HE P f args ks K h):HC P f args ks K h:=
 ⟨fun w a=>.inl ⟨(e.run w a).1 _ w,(e.run w a).2⟩⟩
structure HY(P:Program)(l:Nat)(args:List Value)(K:Bool→ae→Prop)(h:ae):Prop where
 run:∀w:World,w.heap=h→∃fn tmps assign body,(Instr.yield l args.toArray).run P w=.ok (.round l fn tmps assign body) w∧
  ∀(c:Frame) (cs:List Frame),∃b w',Tame w w'∧K b w'.heap∧Steps P (lone (Frame.round l fn tmps assign body .normal) (c::cs) w) (lone (c.finish (.bool b)) cs w')
structure HV(P:Program)(fv:Value)(args:List Value)(ks:List Kind)(K:yY ks→ae→Prop)(h:ae):Prop where
 run:(∃f first cap,fv=.func (.func f) first cap∧HC P f (first.toList++args++cap.toList) ks K h)∨
  (∃l,fv=.func (.yield l) #[] #[]∧HY P l args (fun b h'=>GR ks [.bool b] fun t=>K t h') h)
noncomputable def CondP(b:Bool)(t e:Prop):Prop:=Bool.rec (motive:=fun _=>Prop) e t b
theorem CondP.yes{b:Bool}{t e:Prop}(h:CondP b t e)(a:b=true):t:=by subst a;exact h
theorem CondP.no{b:Bool}{t e:Prop}(h:CondP b t e)(a:b=false):e:=by subst a;exact h
theorem CondP.intro{b:Bool}{t e:Prop}(a:b=true→t)(h2:b=false→e):CondP b t e:=by cases b;exact h2 rfl;exact a rfl
theorem au{t e:Prop}:CondP true t e↔t:=yR
theorem aj{t e:Prop}:CondP false t e↔e:=yR
attribute [irreducible] CondP
def At(h:ae)(k:ae→Prop):Prop:=k h
def Bd{T:Type}(x:T)(k:T→Prop):Prop:=k x
structure Join{T:Type}(rest:T→ae→Prop)(k:(T→ae→Prop)→Prop):Prop where
 run:k rest
structure LoopP{T:Type}(F:(T→ae→Prop)→T→ae→Prop)(t:T)(h:ae):Prop where
 run:∀I:T→ae→Prop,(∀t h,F I t h→I t h)→I t h
abbrev cX:=List (Nat×Value)
noncomputable def mq(r:cX)(t:Nat):Option Value:=
 gP (motive:=fun _=>Option Value) none (fun a _ b=>bif cd a.1 t then some a.2 else b) r
theorem H4(k:Nat)(v:Value)(r:cX)(t:Nat):mq ((k,v)::r) t=bif cd k t then some v else mq r t:=rfl
noncomputable def eH(r:cX):Operand→Option Value
 | .tmp t=>mq r t
 | .const v=>some v
 | .global g=>some (.pointer (some ⟨g,0,none⟩))
 | .func f=>some (.func (.func f) #[] #[])
noncomputable def ue(r:cX):List Operand→Option (List Value)
 | []=>some []
 |o::os=>match eH r o,ue r os with
  |some v,some vs=>some (v::vs)
  |_,_=>none
noncomputable def Nw:List CK→Nat→Addr→ae→(List Value→Prop)→Prop
 | [],_,_,_,k=>k []
 |c::cs,i,a,h,k=>∃x:c.den,aP h (adr a i)=some (c.enc x)∧Nw cs (i+1) a h fun vs=>k (c.enc x::vs)
noncomputable def wq:List Value→Nat→Addr→ae→Prop
 | [],_,_,_=>True
 | [v],i,a,h=>aP h (adr a i)=some v
 |v::u::vs,i,a,h=>aP h (adr a i)=some v∧wq (u::vs) (i+1) a h
abbrev RK:=Value→Option (ae→Prop)→Prop
noncomputable def O2(P:Program)(t:TypeId)(v:Value)(K:RK)(h:ae):Prop:=
 match v with
 | .pointer (some a)=>
  match Ix P t with
  |some (.c c)=>∃x:c.den,aP h a=some (c.enc x)∧K (c.enc x) (some fun h'=>aP h' a=some (c.enc x))
  |some (.agg cs)=>Nw cs 0 a h fun vs=>K (.agg vs.toArray) (some fun h'=>wq vs 0 a h')
  |none=>False
 |_=>False
def zM(P:Program)(t:TypeId)(f:Nat):Option (TypeId×Nat):=
 match P.underlying t with
 |some (.struct fs)=>match fs.toList[f]? with
  |some g=>some (g.type,g.offset)
  |none=>none
 |_=>none
def yW(P:Program)(t:TypeId):Option TypeId:=
 match P.underlying t with
 |some (.slice e)=>some e
 |_=>none
def QP(c:BinOp)(k:IntKind)(a b:Int)(K:RK):Prop:=
 match c with
 | .shl=>0≤b∧K (.int k (k.wrap (a*2^(min b.toNat k.bits)))) none
 | .shr=>0≤b∧K (.int k (a.fdiv (2^(min b.toNat k.bits)))) none
 |_=>False
def aaf(c:BinOp)(k:IntKind)(a b:Int)(K:RK):Prop:=
 match c with
 | .add=>K (.int k (k.wrap (a+b))) none
 | .sub=>K (.int k (k.wrap (a-b))) none
 | .mul=>K (.int k (k.wrap (a*b))) none
 | .quo=>b≠0∧K (.int k (k.wrap (a.tdiv b))) none
 | .rem=>b≠0∧K (.int k (a.tmod b)) none
 | .and=>K (.int k (k.wrap (av k.bits a&&&av k.bits b).toNat)) none
 | .or=>K (.int k (k.wrap (av k.bits a|||av k.bits b).toNat)) none
 | .xor=>K (.int k (k.wrap (av k.bits a^^^av k.bits b).toNat)) none
 | .andNot=>K (.int k (k.wrap (av k.bits a&&& ~~~av k.bits b).toNat)) none
 | .eql=>K (.bool (a==b)) none
 | .neq=>K (.bool (a !=b)) none
 | .lss=>K (.bool (decide (a<b))) none
 | .leq=>K (.bool (decide (a≤b))) none
 | .gtr=>K (.bool (decide (a>b))) none
 | .geq=>K (.bool (decide (a≥b))) none
 |_=>False
def ZU(c:BinOp)(a b:ByteArray)(K:RK):Prop:=
 match c with
 | .add=>((a.size+b.size:Nat):Int)≤9223372036854775807∧K (.string (a++b)) none
 | .eql=>K (.bool (a.toList==b.toList)) none
 | .neq=>K (.bool (!(a.toList==b.toList))) none
 | .lss=>K (.bool (Op.bytesLess a.toList b.toList)) none
 | .leq=>K (.bool (Op.bytesLess a.toList b.toList||a.toList==b.toList)) none
 | .gtr=>K (.bool (!(Op.bytesLess a.toList b.toList||a.toList==b.toList))) none
 | .geq=>K (.bool (!(Op.bytesLess a.toList b.toList))) none
 |_=>False
def gI(h:ae)(a:Addr):Prop:=(∃c e,h[a.block]? =some (.cells c e (0,0))∧0<c.size)
def YI(P:Program)(t:TypeId)(neg:Bool)(x y:Value)(K:RK):Prop:=
 match P.underlying t,x,y with
 |some (.pointer _),.pointer a,.pointer none=>K (.bool (bif neg then !a.isNone else a.isNone)) none
 |some (.map _ _),.map a,.map none=>K (.bool (bif neg then !a.isNone else a.isNone)) none
 |some (.slice _),.slice a _ _,.slice none _ _=>K (.bool (bif neg then !a.isNone else a.isNone)) none
 |_,_,_=>False
def aae:Operand→Bool
 | .const (.pointer none)=>true
 | .const (.map none)=>true
 | .const (.slice none 0 0)=>true
 |_=>false
def abu(P:Program)(t:TypeId)(neg:Bool)(x y:Value)(K:RK)(h:ae):Prop:=
 match P.underlying t,x,y with
 |some .bool,.bool a,.bool b=>K (.bool (bif neg then !(a==b)else a==b)) none
 |some (.pointer e),.pointer a,.pointer b=>
  (bif cd (cA P e) 0 then False else True)∧
  (∀x y,a=some x→b=some y→gI h x∧gI h y)∧
  K (.bool (bif neg then !(a==b)else a==b)) (some fun h'=>∀x y,a=some x→b=some y→gI h' x∧gI h' y)
 |_,_,_=>False
def Z3(P:Program)(c:BinOp)(t:TypeId)(x y:Value)(K:RK)(h:ae):Prop:=
 match x,y with
 | .int k a,.int k' b=>
  match c with
  | .shl=>QP .shl k a b K
  | .shr=>QP .shr k a b K
  |c=>bif Nl k' k then aaf c k a b K else False
 | .string a,.string b=>ZU c a b K
 |x,y=>match c with
  | .eql=>abu P t false x y K h
  | .neq=>abu P t true x y K h
  |_=>False
def uh(h:ae):List (Option Addr×Option Addr)→Prop
 | []=>True
 |(a,b)::l=>(∀x y,a=some x→b=some y→gI h x∧gI h y)∧uh h l
def Xe(P:Program)(t:TypeId)(x y:Value):Option (Bool×List (Option Addr×Option Addr)):=
 match P.underlying t,x,y with
 |some (.int _),.int k a,.int k' b=>bif Nl k' k then some (a==b,[])else none
 |some .bool,.bool a,.bool b=>some (a==b,[])
 |some .string,.string a,.string b=>some (a.toList==b.toList,[])
 |some (.pointer e),.pointer a,.pointer b=>bif cd (cA P e) 0 then none else some (a==b,[(a,b)])
 |_,_,_=>none
def Y1(P:Program)(rec:TypeId→List Value→List Value→Option (Bool×List (Option Addr×Option Addr)))(xs ys:List Value):List Field→Option (Bool×List (Option Addr×Option Addr))
 | []=>some (true,[])
 |f::fs=>
  if f.name= "_" then none else
  bif (P.underlying f.type).isSome&&(P.info? f.type).isSome then
   match(bif yJ P f.type then rec f.type ((xs.drop f.offset).take (cA P f.type)) ((ys.drop f.offset).take (cA P f.type))
    else match xs[f.offset]?,ys[f.offset]? with|some x,some y=>Xe P f.type x y|_,_=>none),Y1 P rec xs ys fs with
   |some (b,l),some (c,m)=>some (b&&c,l++m)
   |_,_=>none
  else none
def Xf(P:Program):Nat→TypeId→List Value→List Value→Option (Bool×List (Option Addr×Option Addr))
 |0,_,_,_=>none
 |d+1,t,xs,ys=>match P.underlying t with
  |some (.struct fs)=>bif P.stoodInHeld t then none else Y1 P (Xf P d) xs ys fs.toList
  |_=>none
def abX(neg b:Bool)(K:RK)(h:ae):List (Option Addr×Option Addr)→Prop
 | []=>K (.bool (bif neg then !b else b)) none
 |p::l=>uh h (p::l)∧K (.bool (bif neg then !b else b)) (some fun h'=>uh h' (p::l))
def Z5(P:Program)(a:BinOp)(t:TypeId)(xs ys:List Value)(K:RK)(h:ae):Prop:=
 bif P.eqGuardType P.depth t then False else
 match a with
 | .eql=>(match Xf P 10 t xs ys with|some (b,l)=>abX false b K h l|none=>False)
 | .neq=>(match Xf P 10 t xs ys with|some (b,l)=>abX true b K h l|none=>False)
 |_=>False
def abH(a:UnOp)(x:Value)(K:RK):Prop:=
 match a,x with
 | .neg,.int k n=>K (.int k (k.wrap (0-n))) none
 | .xor,.int k n=>K (.int k (k.wrap (av k.bits (if k.signed then-1 else k.max)^^^av k.bits n).toNat)) none
 | .not,.bool b=>K (.bool (!b)) none
 |_,_=>False
def eo(s:ByteArray):List Value:=s.data.toList.map fun b=>.int .u8 b.toNat
noncomputable def Row(h:ae)(a:Addr)(vs:List Value):Prop:=∀i v,vs[i]? =some v→aP h (adr a i)=some v
noncomputable def SRow(h:ae)(a:Option Addr)(n:Nat)(vs:List Value):Prop:=vs.length=n∧(vs= []∨∃b,a=some b∧Row h b vs)
def RD(P:Program)(e:TypeId):Bool:=match P.underlying e with|some (.int .u8)=>true|_=>false
def aad(P:Program)(s d:TypeId):Bool:=
 match P.underlying s,P.underlying d with
 |some .string,some (.slice e)=>RD P e
 |_,_=>false
def ByP(e:TypeId)(s:ByteArray)(h:ae)(K:Nat→ae→Prop):Prop:=
 ∀c,s.size≤c→K c (h.push (.cells (eo s++fg (c-s.size) (Value.int .u8 0)).toArray e (c,c+1)))
noncomputable def WH(P:Program)(b c:TypeId)(x:Value)(K:RK)(h:ae):Prop:=
 match P.underlying b,P.underlying c,x with
 |some (.int _),some (.int k),.int _ n=>K (.int k (k.wrap n)) none
 |some .string,some .string,.string s=>K (.string s) none
 |some (.slice e),some .string,.slice a n _=>bif RD P e then∃s:ByteArray,SRow h a n (eo s)∧K (.string s) (some fun h'=>SRow h' a n (eo s))else False
 |_,_,_=>False
def Xv(v:Option Value)(d y:Nat)(K:Nat→Prop):Prop:=
 match v with
 |none=>K d
 |some (.int _ i)=>(0≤i∧i≤y)∧K i.toNat
 |_=>False
noncomputable def bh(a:Option Addr)(l m size:Nat):Option Addr:=if m=l then a else a.map (adr · (l*size))
def WR(P:Program)(t:TypeId)(K:Prop):Prop:=match P.info? t with|some _=>K|none=>False
noncomputable def Q3(P:Program)(t:TypeId)(x:Value)(lo hi b:Option Value)(K:RK):Prop:=
 match P.underlying t,x with
 |some .string,.string s=>match b with
  |some _=>False
  |none=>Xv hi s.size s.size fun h=>Xv lo 0 h fun l=>K (.string (s.extract l h)) none
 |some (.slice e),.slice a len cap=>WR P e (
  match b with
  |none=>Xv hi len cap fun h=>Xv lo 0 h fun l=>K (.slice (bh a l cap (cA P e)) (h-l) (cap-l)) none
  |some m=>match hi with
   |none=>False
   |some hi=>Xv (some m) 0 cap fun m=>Xv (some hi) 0 m fun h=>Xv lo 0 h fun l=>K (.slice (bh a l m (cA P e)) (h-l) (m-l)) none)
 |some (.array n e),.pointer (some a)=>WR P e (
  match b with
  |none=>Xv hi n n fun h=>Xv lo 0 h fun l=>K (.slice (bh (some a) l n (cA P e)) (h-l) (n-l)) none
  |some _=>False)
 |_,_=>False
noncomputable def LJ(r:cX):Option Operand→Option (Option Value)
 |none=>some none
 |some o=>match eH r o with
  |some v=>some (some v)
  |none=>none
noncomputable def Ca(P:Program)(t:TypeId)(x i:Value)(K:RK):Prop:=
 match P.underlying t,x,i with
 |some (.array n e),.pointer (some a),.int _ i=>WR P e ((0≤i∧i<n)∧K (.pointer (some (adr a (i.toNat*cA P e)))) none)
 |some (.slice e),.slice b len _,.int _ i=>WR P e ((0≤i∧i<len)∧∃a,b=some a∧K (.pointer (some (adr a (i.toNat*cA P e)))) none)
 |_,_,_=>False
def Q6(P:Program)(t:TypeId)(x i:Value)(K:RK):Prop:=
 match P.underlying t,x,i with
 |some .string,.string s,.int _ i=>∃b:UInt8,0≤i∧s[i.toNat]? =some b∧K (.int .u8 b.toNat) none
 |_,_,_=>False
noncomputable def Q7(P:Program)(t:TypeId)(x:Value)(f:Nat)(K:RK):Prop:=
 match zM P t f,x with
 |some (u,off),.agg cs=>bif (P.underlying u).isSome&&(P.info? u).isSome then(bif yJ P u then K (.agg ((cs.toList.drop off).take (cA P u)).toArray) none
  else(match cs.toList[off]? with|some v=>K v none|none=>False))else False
 |_,_=>False
def Zt(c a b:Value)(K:RK):Prop:=
 match c with
 | .bool c=>(match a,b with
  | .bool x,.bool y=>K (.bool (bif c then x else y)) none
  |_,_=>(match c with|true=>K a none|false=>K b none))
 |_=>False
def jy:Value→Value→Bool
 | .int _ a,.int _ b=>a==b
 | .string a,.string b=>a==b
 | .bool a,.bool b=>a==b
 |_,_=>false
def PE(k:Value):List MapEntry→Option Value
 | []=>none
 |e::es=>if jy k e.key then some e.val else PE k es
def Iy(c:CK)(es:List MapEntry):Prop:=∀e∈es,∃x:c.den,e.key=c.enc x
def Sr(c:CK)(z:Value)(h:ae)(m:Option Nat)(k v:Value)(ok:Bool):Prop:=
 match m with
 |none=>v=z∧ok=false
 |some r=>∃es clock,h[r]? =some (.map es clock)∧Iy c es.toList∧
  (match PE k es.toList with|some u=>v=u∧ok=true|none=>v=z∧ok=false)
def Pn(P:Program)(t:TypeId):Option (CK×TypeId):=
 match P.underlying t with
 |some (.map k e)=>match P.underlying k with
  |some (.int i)=>some (.int i,e)
  |some .string=>some (.str,e)
  |some .bool=>some (.bool,e)
  |_=>none
 |_=>none
def M3(P:Program)(t:TypeId)(x k:Value)(ok:Bool)(K:RK)(h:ae):Prop:=
 match Pn P t,x with
 |some (c,e),.map m=>c.dec k fun _=>
  (match Ix P e,Bh P e with
   |some ek,some z=>∃(y:ek.den) (b:Bool),Sr c z h m k (ek.enc y) b∧
    K (bif ok then .tuple #[ek.enc y,.bool b]else ek.enc y) (some fun h'=>Sr c z h' m k (ek.enc y) b)
   |_,_=>False)
 |_,_=>False
def XL(h:ae)(m:Option Nat)(n:Nat):Prop:=
 match m with
 |none=>n=0
 |some r=>∃es clock,h[r]? =some (.map es clock)∧n=es.size
def ZZ(P:Program)(t:TypeId)(x:Value)(K:RK)(h:ae):Prop:=
 match P.underlying t,x with
 |some .string,.string s=>K (.int .i64 s.size) none
 |some (.array n _),_=>K (.int .i64 n) none
 |some (.slice _),.slice _ n _=>K (.int .i64 n) none
 |some (.map _ _),.map m=>∃n:Nat,XL h m n∧K (.int .i64 n) (some fun h'=>XL h' m n)
 |_,_=>False
def Z0(P:Program)(t:TypeId)(x:Value)(K:RK):Prop:=
 match P.underlying t,x with
 |some (.slice _),.slice _ _ n=>K (.int .i64 n) none
 |_,_=>False
def Nh(c:Bool)(k:IntKind):Int→List Value→(Value→Prop)→Prop
 |a,[],f=>f (.int k a)
 |a,.int k' b::vs,f=>bif Nl k' k then Nh c k (bif c then(if b>a then b else a)else(if b<a then b else a)) vs f else False
 |_,_,_=>False
def Hj(b:Bool)(vs:List Value)(f:Value→Prop):Prop:=
 match vs with
 | .int k a::vs=>Nh b k a vs f
 |_=>False
def Ss(h:ae)(i:Nat)(e:MapEntry):Prop:=
 ∃m since seen last stamp es,h[i]? =some (.mapIter (some m) since seen last)∧seen.back? =some stamp∧h[m]? =some (.map es last)∧es.find? (fun e=>e.born==stamp)=some e
def tH(P:Program)(t:TypeId):Bool:=match P.underlying t with|some (.interface _)=>false|some _=>true|none=>false
def Tt(P:Program)(t:TypeId)(x:Value)(K:RK):Prop:=
 bif tH P t then(match Ix P t with
  |some k=>∃y:k.den,x=.iface t (k.enc y)∧K (k.enc y) none
  |none=>False)else False
def O8(cs:List Value)(off:Nat)(vs:List Value):List Value:=cs.take off++vs++cs.drop (off+vs.length)
def Gj(a:Nat→Option (Nat×Nat)):List Value→List (Nat×Value)→Option (List Value)
 |cs,[]=>some cs
 |cs,(i,v)::rest=>match a i with
  |none=>none
  |some (off,size)=>bif cd v.cells.toList.length size&&AS (off+v.cells.toList.length) cs.length then Gj a (O8 cs off v.cells.toList) rest else none
noncomputable def tG(r:cX):List (Nat×Operand)→Option (List (Nat×Value))
 | []=>some []
 |(i,o)::ps=>match eH r o,tG r ps with
  |some v,some vs=>some ((i,v)::vs)
  |_,_=>none
def uc(P:Program)(t:TypeId):Option (List Value):=match Bh P t with|some z=>some z.cells.toList|none=>none
def eh(n:Nat)(z:List Value):List Value:=(fg n z).flatten
def AI(P:Program)(t:TypeId):Bool:=match P.info? t with|some _=>true|none=>false
def DP(P:Program):List Field→Bool
 | []=>true
 |f::fs=>bif AI P f.type then DP P fs else false
def Rf(P:Program)(a:List Field)(i:Nat):Option (Nat×Nat):=match a[i]? with|some f=>some (f.offset,cA P f.type)|none=>none
def NJ(P:Program)(t:TypeId)(a:List (Nat×Value)):Option (List Value):=
 match P.underlying t,uc P t with
 |some (.struct fs),some z=>bif DP P fs.toList then Gj (Rf P fs.toList) z a else none
 |some (.array _ e),some z=>bif AI P e then Gj (fun i=>some (i*cA P e,cA P e)) z a else none
 |_,_=>none
noncomputable def EU(P:Program)(ek:Option (Kind×Kind))(o:Op)(r:cX)(K:RK)(h:ae):Prop:=
 match o with
 | .entry it=>match eH r it,ek with
  |some (.pointer (some a)),some (kk,vk)=>a.off=0∧∃(e:MapEntry) (x:kk.den) (y:vk.den),Ss h a.block e∧e.key=kk.enc x∧e.val=vk.enc y∧
    K (.tuple #[kk.enc x,vk.enc y]) (some fun h'=>Ss h' a.block e)
  |_,_=>False
 | .move x| .assign x=>match eH r x with|some v=>K v none|none=>False
 | .load t a=>match eH r a with|some v=>O2 P t v K h|none=>False
 | .nilCheck x=>match eH r x with|some (.pointer p)=>∃a,p=some a∧K (.pointer (some a)) none|_=>False
 | .binOp op t x y _=>match eH r x,eH r y with
  |some (.agg v),some (.agg u)=>Z5 P op t v.toList u.toList K h
  |some v,some u=>(match op,aae y with
   | .eql,true=>YI P t false v u K
   | .neq,true=>YI P t true v u K
   |op,_=>Z3 P op t v u K h)
  |_,_=>False
 | .unOp op _ x=>match eH r x with|some v=>abH op v K|none=>False
 | .convert s d x=>match eH r x with|some v=>WH P s d v K h|none=>False
 | .pick c a b=>match eH r c,eH r a,eH r b with|some c,some a,some b=>Zt c a b K|_,_,_=>False
 | .extract x i=>match eH r x with
  |some (.tuple vs)=>(match vs.toList[i]? with|some v=>K v none|none=>False)
  |_=>False
 | .fieldAddr t x f=>match eH r x,zM P t f with
  |some (.pointer (some a)),some (u,off)=>bif cd (cA P u) 0 then False else K (.pointer (some (adr a off))) none
  |_,_=>False
 | .field t x f=>match eH r x with|some v=>Q7 P t v f K|none=>False
 | .indexAddr t x i=>match eH r x,eH r i with|some v,some u=>Ca P t v u K|_,_=>False
 | .index t x i=>match eH r x,eH r i with|some v,some u=>Q6 P t v u K|_,_=>False
 | .slice t x lo hi mx=>match eH r x,LJ r lo,LJ r hi,LJ r mx with
  |some v,some l,some h',some m=>Q3 P t v l h' m K
  |_,_,_,_=>False
 | .lookup t x k ok=>match eH r x,eH r k with|some v,some u=>M3 P t v u ok K h|_,_=>False
 | .makeInterface t x=>match eH r x with|some v=>bif tH P t then K (.iface t v) none else False|none=>False
 | .typeAssert x _ t ok=>match eH r x with|some v=>bif ok then False else Tt P t v K|none=>False
 | .build t ps=>match tG r ps.toList with
  |some vs=>(match NJ P t vs with|some cs=>K (.agg cs.toArray) none|none=>False)
  |none=>False
 | .makeFunc fn first cap=>match ue r first.toList,ue r cap.toList with
  |some vs,some us=>K (.func fn vs.toArray us.toArray) none
  |_,_=>False
 | .call c=>match c.callee,ue r c.args.toList,c.argTypes.toList with
  | .builtin .len,some [v],[t]=>ZZ P t v K h
  | .builtin .cap,some [v],[t]=>Z0 P t v K
  | .builtin .min,some vs,_=>Hj false vs fun v=>K v none
  | .builtin .max,some vs,_=>Hj true vs fun v=>K v none
  |_,_,_=>False
 |_=>False
abbrev WK:=Value→ae→Prop
def aF(h:ae):Addr:=⟨h.size,0,none⟩
def hnew(h:ae)(cs:List Value)(t:TypeId):ae:=h.push (.cells cs.toArray t (0,0))
def cG:List Value→Bool
 | []=>true
 |v::vs=>(match v with| .agg _=>false| .tuple _=>false|_=>true)&&cG vs
noncomputable def iP(h:ae)(a:Addr):Nat→List Value→ae
 |_,[]=>h
 |i,v::vs=>iP (hset h (adr a i) v) a (i+1) vs
noncomputable def gX(h:ae)(a:Option Addr)(i:Nat)(vs:List Value):ae:=match a with|some a=>iP h a i vs|none=>h
noncomputable def u6(h:ae)(a:Option Addr)(i:Nat)(vs:List Value):Prop:=vs= []∨∃b,a=some b∧∀j,j<vs.length→Wr h (adr b (i+j))
noncomputable def QG(P:Program)(t:TypeId)(a v:Value)(K:WK)(h:ae):Prop:=
 match a with
 | .pointer (some a)=>bif cd v.cells.toList.length (cA P t)&&cG v.cells.toList then WR P t
   (match v.cells.toList with
    | [v]=>Wr h a∧K undef (hset h a v)
    |vs=>u6 h (some a) 0 vs∧K undef (iP h a 0 vs))
  else False
 |_=>False
noncomputable def XD(P:Program)(e:TypeId)(a:Option Addr)(sl c b:Nat)(xs:List Value)(K:WK)(h:ae):Prop:=
 (sl+b≤c→u6 h a (sl*cA P e) xs∧cG xs=true∧K (.slice a (sl+b) c) (gX h a (sl*cA P e) xs))∧
 (c<sl+b→∃old z,SRow h a (sl*cA P e) old∧uc P e=some z∧0<ul P e∧Builtin.nextslicecap (sl+b) c*ul P e≤2^48∧
  ∀nc,sl+b≤nc→K (.slice (some (aF h)) (sl+b) nc) (hnew h (old++xs++eh (nc-(sl+b)) z) e))
noncomputable def Ha(P:Program)(t:TypeId)(s x:Value)(K:WK)(h:ae):Prop:=
 match yW P t,s,x with
 |some e,.slice b sl sc,.slice a xl _=>WR P e (∃xs,SRow h a (xl*cA P e) xs∧XD P e b sl sc xl xs K h)
 |some e,.slice b sl sc,.string x=>bif cd (cA P e) 1 then XD P e b sl sc x.size (eo x) K h else False
 |_,_,_=>False
noncomputable def HD(P:Program)(t:TypeId)(s x:Value)(K:WK)(h:ae):Prop:=
 match yW P t,s,x with
 |some e,.slice b sl sc,.int _ l=>(match uc P e with
  |some z=>bif cd z.length (cA P e)then(0≤l∧l*ul P e≤2^48∧l≤9223372036854775807∧((sl+l.toNat:Nat):Int)≤9223372036854775807)∧XD P e b sl sc l.toNat (eh l.toNat z) K h else False
  |none=>False)
 |_,_,_=>False
noncomputable def QH(P:Program)(t:TypeId)(x:Value)(K:WK)(h:ae):Prop:=
 match yW P t,x with
 |some e,.slice a n _=>(match uc P e with
  |some z=>bif cG z then u6 h a 0 (eh n z)∧K (.tuple #[]) (gX h a 0 (eh n z))else False
  |none=>False)
 |_,_=>False
noncomputable def V4(P:Program)(t:TypeId)(d s:Value)(K:WK)(h:ae):Prop:=
 match yW P t,d,s with
 |some e,.slice b dl _,.slice a sl _=>WR P e (∃xs,SRow h a (fa sl dl*cA P e) xs∧u6 h b 0 xs∧cG xs=true∧K (.int .i64 (fa sl dl)) (gX h b 0 xs))
 |some e,.slice b dl _,.string x=>bif cd (cA P e) 1 then u6 h b 0 ((eo x).take dl)∧K (.int .i64 (fa x.size dl)) (gX h b 0 ((eo x).take dl))else False
 |_,_,_=>False
def Rc(k v:Value)(a:Nat):List MapEntry→List MapEntry×Nat
 | []=>([{key:=k,val:=v,born:=a}],a+1)
 |e::es=>if jy k e.key then({e with key:=k,val:=v}::es,a)else let r:=Rc k v a es;(e::r.1,r.2)
def PJ(k:Value):List MapEntry→List MapEntry
 | []=> []
 |e::es=>if jy k e.key then es else e::PJ k es
def Ub(c:CK)(h:ae)(r:Nat):Prop:=∃es clock,h[r]? =some (.map es clock)∧Iy c es.toList
def YL(h:ae)(r:Nat)(k v:Value):ae:=
 match h[r]? with
 |some (.map es clock)=>h.setIfInBounds r (.map (Rc k v clock es.toList).1.toArray (Rc k v clock es.toList).2)
 |_=>h
def TF(h:ae)(r:Nat)(k:Value):ae:=
 match h[r]? with
 |some (.map es clock)=>h.setIfInBounds r (.map (PJ k es.toList).toArray clock)
 |_=>h
def G9(P:Program)(t:TypeId)(m k v:Value)(K:WK)(h:ae):Prop:=
 match Pn P t,m with
 |some (c,_),.map m=>c.dec k fun _=>∃r,m=some r∧Ub c h r∧K undef (YL h r k v)
 |_,_=>False
def HA(P:Program)(t:TypeId)(m k:Value)(K:WK)(h:ae):Prop:=
 match Pn P t,m with
 |some (c,_),.map m=>c.dec k fun _=>(m=none∧K (.tuple #[]) h)∨(∃r,m=some r∧Ub c h r∧K (.tuple #[]) (TF h r k))
 |_,_=>False
def WA(P:Program):List TypeId→Option (List Kind)
 | []=>some []
 |t::ts=>match Ix P t,WA P ts with
  |some k,some ks=>some (k::ks)
  |_,_=>none
def WB(P:Program)(t:TypeId):Option (List Kind):=
 match P.underlying t with
 |some (.tuple ts)=>WA P ts.toList
 |_=>WA P [t]
noncomputable def Zi(P:Program)(f:Operand)(r:cX)(args:List Value)(t:TypeId)(K:WK)(h:ae):Prop:=
 match WB P t with
 |none=>False
 |some ks=>match f with
  | .func f=>HC P f args ks (fun x h'=>K (H8 ks (pP ks x)) h') h
  |f=>match eH r f with
   |some fv=>HV P fv args ks (fun x h'=>K (H8 ks (pP ks x)) h') h
   |none=>False
def V3(b:Value)(K:WK)(h:ae):Prop:=
 match b with
 | .pointer (some a)=>a.off=0∧
  ∃m since seen last,h[a.block]? =some (.mapIter m since seen last)∧
   ((m=none∧K (.tuple #[.bool false]) h)∨
    (∃r es clock,m=some r∧h[r]? =some (.map es clock)∧(seen.isEmpty=true∨es.isEmpty=true∨es.all (fun e=>decide (e.born≥last))=false)∧
     ((∀e∈es.toList,e.born<since→seen.contains e.born=true)→K (.tuple #[.bool false]) h)∧
     (∀e∈es.toList,seen.contains e.born=false→K (.tuple #[.bool true,e.key,e.val]) (h.setIfInBounds a.block (.mapIter (some r) since (seen.push e.born) clock)))))
 |_=>False
noncomputable def Kf(P:Program)(o:Oper)(r:cX)(K:WK)(h:ae):Prop:=
 match o.op with
 | .alloc t=>(match uc P t with|some z=>K (.pointer (some (aF h))) (hnew h z t)|none=>False)
 | .box t x=>(match eH r x with|some v=>K (.pointer (some (aF h))) (hnew h v.cells.toList t)|none=>False)
 | .build t ps=>(match tG r ps.toList with
  |some vs=>(match NJ P t vs with|some cs=>K (.agg cs.toArray) h|none=>False)
  |none=>False)
 | .buildSlice t n ps=>(match yW P t,tG r ps.toList with
  |some e,some vs=>(match uc P e with
   |some z=>bif AS (n*cA P e) 16777216&&cd z.length (cA P e)then
     (match Gj (fun i=>some (i*cA P e,cA P e)) (eh n z) vs with|some cs=>K (.slice (some (aF h)) n n) (hnew h cs e)|none=>False)
    else False
   |none=>False)
  |_,_=>False)
 | .store t a x=>(match eH r a,eH r x with|some a,some v=>QG P t a v K h|_,_=>False)
 | .mapUpdate t m k x=>(match eH r m,eH r k,eH r x with|some m,some k,some v=>G9 P t m k v K h|_,_,_=>False)
 | .insert t m k x=>(match eH r m,eH r k,eH r x with|some m,some k,some v=>G9 P t m k v K h|_,_,_=>False)
 | .makeMap t n=>(match n with
  |none=>K (.map (some h.size)) (h.push (.map #[] 0))
  |some n=>(match eH r n,P.underlying t with|some (.int _ _),some (.map _ _)=>K (.map (some h.size)) (h.push (.map #[] 0))|_,_=>False))
 | .makeSlice t l c=>(match yW P t,eH r l,eH r c with
  |some e,some (.int _ l),some (.int _ c)=>(match uc P e with
   |some z=>bif cd z.length (cA P e)then(0≤l∧l≤c∧c≤9223372036854775807∧ul P e*c≤2^48)∧K (.slice (some (aF h)) l.toNat c.toNat) (hnew h (eh c.toNat z) e)else False
   |none=>False)
  |_,_,_=>False)
 | .convert s d x=>(match P.underlying s,P.underlying d,eH r x with
  |some .string,some (.slice e),some (.string v)=>bif RD P e then ByP e v h (fun c h'=>K (.slice (some (aF h)) v.size c) h')else False
  |_,_,_=>False)
 | .range t x=>(match P.underlying t,eH r x with
  |some (.map _ _),some (.map m)=>∃clock,(m=none∧clock=0∨∃r es,m=some r∧h[r]? =some (.map es clock))∧K (.pointer (some (aF h))) (h.push (.mapIter m clock #[] clock))
  |_,_=>False)
 | .next it false=>(match eH r it with|some it=>V3 it K h|none=>False)
 | .call c=>(match c.callee,ue r c.args.toList with
  | .builtin .append,some [s,x]=>(match c.argTypes.toList with| [t,u]=>(match P.underlying u with|some (.slice _)=>Ha P t s x K h|some .string=>Ha P t s x K h|some (.int _)=>HD P t s x K h|_=>False)|_=>False)
  | .builtin .clear,some [x]=>(match c.argTypes.toList with| [t]=>QH P t x K h|_=>False)
  | .builtin .copy,some [d,s]=>(match c.argTypes.toList with| [t,_]=>V4 P t d s K h|_=>False)
  | .builtin .delete,some [m,k]=>(match c.argTypes.toList with| [t,_]=>HA P t m k K h|_=>False)
  | .value f,some args=>Zi P f r args o.type K h
  |_,_=>False)
 |_=>False
def yZ(P:Program):Op→Bool
 | .convert s d _=> !aad P s d
 | .alloc _| .box .. | .buildSlice .. | .store .. | .mapUpdate .. | .insert .. | .makeMap .. | .makeSlice .. | .range .. | .next .. =>false
 | .call c=>match c.callee with
  | .builtin .len| .builtin .cap| .builtin .min| .builtin .max=>true
  |_=>false
 |_=>true
def DD(N:Nat)(o:Oper)(v:Value)(r:cX)(K:cX→Prop):Prop:=
 match o.dst with
 |none=>K r
 |some d=>bif Nat.blt d N then K ((d,v)::r)else False
noncomputable def aax(P:Program)(N:Nat)(ek:Option (Kind×Kind))(o:Oper)(r:cX)(K:cX→ae→Prop)(h:ae):Prop:=
 bif yZ P o.op then EU P ek o.op r (fun v _=>DD N o v r fun a=>K a h) h
 else Kf P o r (fun v h'=>DD N o v r fun a=>K a h') h
inductive DV where
 |f|t|u|x
abbrev x9:=List (Nat×DV)
noncomputable def uC(d:x9)(t:Nat):DV:=
 gP (motive:=fun _=>DV) .x (fun a _ b=>bif cd a.1 t then a.2 else b) d
noncomputable def DE(d:x9):Operand→DV
 | .tmp t=>uC d t
 | .const (.bool true)=>.t
 | .const (.bool false)=>.f
 |_=>.x
noncomputable def Ol(d:x9):Op→DV
 | .move x=>DE d x
 | .assign x=>DE d x
 | .pick c a b=>match DE d c with
  | .t=>DE d a
  | .f=>DE d b
  |_=>.x
 | .unOp .not _ x=>match DE d x with
  | .t=>.f
  | .f=>.t
  |_=>.x
 |_=>.x
def vr(d:x9)(o:Oper)(v:DV):x9:=match o.dst with|some t=>(t,v)::d|none=>d
noncomputable def kK(ops:List Oper)(d:x9)(o:Oper):Option Bool:=
 match o.guard with
 |none=>some true
 |some (j,want)=>match ops[j]? with
  |none=>none
  |some oj=>match oj.dst with
   |none=>none
   |some t=>match uC d t with
    | .t=>some want
    | .f=>some (!want)
    | .u=>some false
    | .x=>none
def II(ops:List Oper)(o:Oper):Option Nat:=
 match o.guard with
 |none=>none
 |some (j,_)=>match ops[j]? with
  |none=>none
  |some oj=>oj.dst
noncomputable def Lu(P:Program)(N:Nat)(ek:Option (Kind×Kind))(ops:List Oper)(o:Oper)(d:x9)(r:cX)(h:ae)(K:x9→cX→ae→Prop):Prop:=
 match kK ops d o with
 |some true=>aax P N ek o r (K (vr d o (Ol d o.op))) h
 |some false=>DD N o undef r fun a=>K (vr d o .u) a h
 |none=>False
noncomputable def HW(P:Program)(N:Nat)(ek:Option (Kind×Kind))(ops:List Oper)(l:List Oper):x9→(cX→ae→Prop)→cX→ae→Prop:=
 gP (motive:=fun _=>x9→(cX→ae→Prop)→cX→ae→Prop) (fun _ K r h=>K r h)
  (fun o _ c d K r h=>
  match kK ops d o with
  |some true=>aax P N ek o r (fun a h'=>c (vr d o (Ol d o.op)) K a h') h
  |some false=>DD N o undef r fun a=>c (vr d o .u) K a h
  |none=>match II ops o with
   |none=>False
   |some t=>match mq r t with
    |some (.bool b)=>CondP b
     (Lu P N ek ops o ((t,.t)::d) ((t,.bool true)::r) h fun e a h'=>c e K a h')
     (Lu P N ek ops o ((t,.f)::d) ((t,.bool false)::r) h fun e a h'=>c e K a h')
    |_=>False) l
inductive DA where
 |done
 |take (i:Nat) (rest:DA)
 |all (l:DA)
 |pick (i:Nat) (rest more:DA)
 |last (i:Nat) (rest:DA)
 |lastT (i:Nat) (rest:DA)
 |split (t:Nat) (yes no:DA)
abbrev uo:=List (Nat×(ae→Prop))
def tb(m i:Nat):Bool:=cd (lB (Nat.shiftRight m i) 1) 1
def jm(i:Nat):Nat:=Nat.pow 2 i
inductive DM where
 |mk (am fr lk ds:Nat)
def DM.am:DM→Nat| .mk a _ _ _=>a
def DM.fr:DM→Nat| .mk _ f _ _=>f
def DM.lk:DM→Nat| .mk _ _ l _=>l
def DM.ds:DM→Nat| .mk _ _ _ d=>d
def lf(o:Oper)(i:Nat):Bool:=o.after.toList.any fun e=>cd e.on i&&Region.binds .any e
noncomputable def oY(l:List Edge):Nat:=
 gP (motive:=fun _=>Nat) 0 (fun e _ a=>bif Region.binds .any e then dD (jm e.on) a else a) l
noncomputable def nX(l:List Operand):Nat:=
 gP (motive:=fun _=>Nat) 0 (fun o _ a=>match o with| .tmp t=>dD (jm t) a|_=>a) l
def qc(o:Oper):Nat:=match o.dst with|some d=>jm d|none=>0
noncomputable def qF(ops:List Oper)(o:Oper):Nat:=
 dD (nX o.op.operands.toList) (match o.guard with
  |some (g,_)=>(match ops[g]? with|some og=>qc og|none=>0)
  |none=>0)
noncomputable def zB(ops:List Oper)(l:List Oper):List DM→Bool:=
 gP (motive:=fun _=>List DM→Bool) (fun ms=>match ms with| []=>true|_=>false)
  (fun o _ a ms=>match ms with
   |m::ms=>cd (oY o.after.toList) m.am&&cd (qF ops o) m.lk&&cd (qc o) m.ds&&a ms
   | []=>false) l
def Fq(x y:DM):Bool:=cd (lB x.ds (dD y.lk y.ds)) 0&&cd (lB y.ds x.lk) 0
noncomputable def L7(i:Nat)(m:DM)(l:List DM):Nat→Bool:=
 gP (motive:=fun _=>Nat→Bool) (fun _=>true)
  (fun n _ a j=>(!(tb m.fr j)||cd j i||tb n.am i||Fq m n)&&a (g8 j)) l
noncomputable def Dv(all:List DM)(l:List DM):Nat→Bool:=
 gP (motive:=fun _=>Nat→Bool) (fun _=>true) (fun m _ a i=>L7 i m all 0&&a (g8 i)) l
def Ph:List Oper→Bool
 | []=>true
 |o::os=>(match o.op with| .select .. =>false| .defer _=>false|_=>true)&&Ph os
noncomputable def Hl(ops:List Oper)(ms:List DM):Bool:=zB ops ops ms&&Dv ms ms 0&&Ph ops
def vU(o:Oper):uo→uo
 | []=> []
 |(k,S)::l=>bif lf o k then vU o l else(k,S)::vU o l
def xz:uo→ae→Prop→Prop
 | [],_,R=>R
 |(_,S)::l,h,R=>S h∧xz l h R
def LB(m:DM)(ls:Nat):Bool:=cd (lB m.am ls) m.am
noncomputable def od(ls:Nat)(l:List DM):Nat→List Nat:=
 gP (motive:=fun _=>Nat→List Nat) (fun _=> []) (fun m _ a j=>bif !(tb ls j)&&LB m ls then j::a (g8 j)else a (g8 j)) l
def HM(m:DM)(i ls n:Nat):Bool:= !(tb ls i)&&LB m ls&&cd (lB (dD ls m.fr) (Ar (jm n))) (Ar (jm n))
def yl:List Nat→List Nat→Bool
 | [],[]=>true
 |a::as,b::bs=>cd a b&&yl as bs
 |_,_=>false
def E8:DA→List Nat
 | .pick i _ l=>i::E8 l
 | .last i _=> [i]
 | .lastT i _=> [i]
 |_=> []
noncomputable def Uw(P:Program)(N:Nat)(ops:List Oper)(i:Nat)(L:uo)(d:x9)(r:cX)(h:ae)(K:uo→x9→cX→ae→Prop):Prop:=
 match ops[i]? with
 |none=>False
 |some o=>match kK ops d o with
  |some true=>bif yZ P o.op then False else Kf P o r (fun v h'=>DD N o v r fun a=>xz (vU o L) h' (K (vU o L) (vr d o .x) a h')) h
  |_=>False
noncomputable def VM(m:Nat)(l:List DM):Nat→Nat:=
 gP (motive:=fun _=>Nat→Nat) (fun _=>m) (fun n _ a j=>bif tb m j then dD n.am (a (g8 j))else a (g8 j)) l
noncomputable def DG(ms:List DM)(m:Nat):Nat:=VM (VM (VM (VM m ms 0) ms 0) ms 0) ms 0
def NQ(ms:List DM)(i:Nat):Nat:=match ms[i]? with|some m=>m.am|none=>0
def Db(m:Nat):uo→uo
 | []=> []
 |(k,S)::l=>bif tb m k then Db m l else(k,S)::Db m l
noncomputable def Tn(P:Program)(N:Nat)(ops:List Oper)(ms:List DM)(i:Nat)(L:uo)(d:x9)(r:cX)(h:ae)(K:uo→x9→cX→ae→Prop):Prop:=
 match ops[i]? with
 |none=>False
 |some o=>match kK ops d o with
  |some true=>bif yZ P o.op then False else Kf P o r (fun v h'=>DD N o v r fun a=>xz (Db (DG ms (NQ ms i)) L) h' (K (Db (DG ms (NQ ms i)) L) (vr d o .x) a h')) h
  |_=>False
noncomputable def pI(P:Program)(N:Nat)(ops:List Oper)(ms:List DM)(j:DA):Bool→Nat→uo→x9→(cX→ae→Prop)→cX→ae→Prop:=
 DA.rec (motive:=fun _=>Bool→Nat→uo→x9→(cX→ae→Prop)→cX→ae→Prop)
  (fun m ls _ _ K r h=>bif !m&&yl (od ls ms 0) []then K r h else False)
  (fun i _ c m ls L d K r h=>
   match ops[i]?,ms[i]? with
   |some o,some mi=>bif !m&&HM mi i ls ops.length then
     (match kK ops d o with
      |none=>False
      |some false=>DD N o undef r fun a=>c false (dD ls (jm i)) L (vr d o .u) K a h
      |some true=>bif yZ P o.op then
       EU P none o.op r (fun v S=>DD N o v r fun a=>match S with
        |none=>c false (dD ls (jm i)) L (vr d o (Ol d o.op)) K a h
        |some S=>c false (dD ls (jm i)) ((i,S)::L) (vr d o (Ol d o.op)) K a h) h
       else False)
    else False
   |_,_=>False)
  (fun l c m ls L d K r h=>bif !m&&yl (od ls ms 0) (E8 l)then c true ls L d K r h else False)
  (fun i _ _ e f m ls L d K r h=>bif m then Uw P N ops i L d r h (fun L' g a h'=>e false (dD ls (jm i)) L' g K a h')∧f true ls L d K r h else False)
  (fun i _ c m ls L d K r h=>bif m then Uw P N ops i L d r h (fun L' g a h'=>c false (dD ls (jm i)) L' g K a h')else False)
  (fun i _ c m ls L d K r h=>bif m then Tn P N ops ms i L d r h (fun L' g a h'=>c false (dD ls (jm i)) L' g K a h')else False)
  (fun t _ _ e f m ls L d K r h=>
   bif m then False else match mq r t with
   |some (.bool b)=>CondP b (e false ls L ((t,.t)::d) K ((t,.bool true)::r) h) (f false ls L ((t,.f)::d) K ((t,.bool false)::r) h)
   |_=>False)
  j
noncomputable def abV(b:Oper)(i:Nat)(ds lk:Nat)(ops:List Oper)(l:List Oper):Nat→Nat:=
 gP (motive:=fun _=>Nat→Nat) (fun _=>0) (fun p _ a j=>bif (cd j i||lf p i||(cd (lB ds (dD (qF ops p) (qc p))) 0&&cd (lB (qc p) lk) 0))then dD (jm j) (a (g8 j))else a (g8 j)) l
noncomputable def abK(ops:List Oper)(l:List Oper):Nat→List DM:=
 gP (motive:=fun _=>Nat→List DM) (fun _=> []) (fun o _ a i=>.mk (oY o.after.toList) (abV o i (qc o) (qF ops o) ops ops 0) (qF ops o) (qc o)::a (g8 i)) l
def aaG(P:Program)(w:Option Bool)(o:Oper):Bool:=match w with|some false=>true|some true=>yZ P o.op|none=>false
noncomputable def aai(P:Program)(ops:List Oper)(d:x9)(ls n:Nat)(l:List Oper):List DM→Nat→Option (Nat×Oper):=
 gP (motive:=fun _=>List DM→Nat→Option (Nat×Oper)) (fun _ _=>none)
  (fun o _ a ms j=>match ms with
   | []=>none
   |m::ms=>bif HM m j ls n&&aaG P (kK ops d o) o then some (j,o)else a ms (g8 j)) l
noncomputable def aaj(ops:List Oper)(d:x9)(ls:Nat)(l:List Oper):List DM→Nat→Option Nat:=
 gP (motive:=fun _=>List DM→Nat→Option Nat) (fun _ _=>none)
  (fun o _ a ms j=>match ms with
   | []=>none
   |m::ms=>match bif !(tb ls j)&&LB m ls then(match kK ops d o with|none=>II ops o|some _=>none)else none with
    |some t=>some t
    |none=>a ms (g8 j)) l
noncomputable def aaZ(ops:List Oper)(k:Nat→x9→DA)(ls:Nat)(d:x9)(l:List Nat):DA:=
 gP (motive:=fun _=>DA) .done (fun i a b=>match ops[i]? with
  |none=>.done
  |some o=>match a with
   | []=>.last i (k (dD ls (jm i)) (vr d o .x))
   |_=>.pick i (k (dD ls (jm i)) (vr d o .x)) b) l
noncomputable def aar(P:Program)(ops:List Oper)(ms:List DM)(fuel:Nat):Nat→x9→DA:=
 Nat.rec (motive:=fun _=>Nat→x9→DA) (fun _ _=>.done) (fun _ a ls d=>
  match aai P ops d ls ops.length ops ms 0 with
  |some (i,o)=>.take i (a (dD ls (jm i)) (match kK ops d o with|some false=>vr d o .u|_=>vr d o (Ol d o.op)))
  |none=>match aaj ops d ls ops ms 0 with
   |some t=>.split t (a ls ((t,.t)::d)) (a ls ((t,.f)::d))
   |none=>match od ls ms 0 with
    | []=>.done
    |l=>.all (aaZ ops a ls d l)) fuel
noncomputable def TD(ops:List Oper):List DM:=abK ops ops 0
inductive Ex where
 |exit (id:Nat)
 |ret
abbrev St:=List (Nat×Kind)
def B0:St→List Kind
 | []=> []
 |(_,k)::l=>k::B0 l
noncomputable def HP(r:cX):St→Option (List Value)
 | []=>some []
 |(i,_)::l=>match mq r i,HP r l with
  |some v,some vs=>some (v::vs)
  |_,_=>none
noncomputable def FX(st:St)(r:cX)(f:yY (B0 st)→Prop):Prop:=
 match HP r st with
 |some vs=>GR (B0 st) vs f
 |none=>False
def p7:St→List Value→cX→cX
 |(i,_)::l,v::vs,r=>(i,v)::p7 l vs r
 |_,_,r=>r
noncomputable def TJ(r:cX)(l:List Nat):Option cX:=
 gP (motive:=fun _=>Option cX) (some []) (fun t _ a=>match mq r t,a with
  |some v,some l=>some ((t,v)::l)
  |_,_=>none) l
noncomputable def nU(t:Nat)(l:List Oper):Bool:=
 gP (motive:=fun _=>Bool) false (fun o _ a=>match o.dst with|some d=>bif cd d t then true else a|none=>a) l
noncomputable def iJ(t:Nat)(c:Code):Bool:=
 Code.rec (motive:=fun _=>Bool) false (fun _ ops _=>nU t ops.toList) (fun _ _ a b=>bif a then true else b) (fun _ _ _ a b=>bif a then true else b)
  (fun _ _ b=>b) (fun _ b=>b) (fun _ _ _ _ _ _=>true) (fun _=>false) (fun _ b=>b) (fun _=>false) (fun _=>false) false (fun _=>false) c
inductive Ann where
 |nil
 |node (a b:Ann)
 |join (st:St) (a b:Ann)
 |loop (st:St) (b:Ann)
 |draw (d:DA)
 |kinds (k v:Kind)
 |reg (keep:List Nat) (inner:Ann)
 |rf (ks:List Kind) (a b:Ann)
def Ann.l:Ann→Ann
 | .node a _=>a
 | .rf _ a _=>a
 |_=>.nil
def Ann.r:Ann→Ann
 | .node _ b=>b
 | .rf _ _ b=>b
 |_=>.nil
noncomputable def V0(l:List Oper):Nat:=gP (motive:=fun _=>Nat) 0 (fun o _ a=>dD (qc o) a) l
def aa0:Option Nat→Option Nat→Option Nat
 |some a,some b=>some (dD a b)
 |_,_=>none
noncomputable def Bj(c:Code):Option Nat:=
 Code.rec (motive:=fun _=>Option Nat) (some 0) (fun _ ops _=>some (V0 ops.toList)) (fun _ _ a b=>aa0 a b) (fun _ _ _ a b=>aa0 a b)
  (fun _ _ b=>b) (fun _ b=>b) (fun _ _ _ _ _ _=>none) (fun _=>some 0) (fun _ b=>b) (fun _=>some 0) (fun _=>some 0) (some 0) (fun _=>some 0) c
noncomputable def zE(m:Nat)(r:cX):cX:=gP (motive:=fun _=>cX) [] (fun a _ b=>bif tb m a.1 then b else a::b) r
noncomputable def EM(P:Program)(N:Nat)(ops:List Oper)(b:Bool)(a:Ann)(Kn:cX→ae→Prop)(r:cX)(h:ae):Prop:=
 match b with
 |false=>(match a with
  | .kinds kk vk=>HW P N (some (kk,vk)) ops ops [] Kn r h
  |_=>HW P N none ops ops [] Kn r h)
 |true=>bif Hl ops (TD ops)then pI P N ops (TD ops) (match a with| .draw da=>da|_=>aar P ops (TD ops) (Nat.add (Nat.add ops.length ops.length) 2) 0 []) false 0 [] [] Kn r h else False
noncomputable def nF(P:Program)(N:Nat)(c:Code):Ann→(cX→ae→Prop)→(Ex→cX→ae→Prop)→cX→ae→Prop:=
 Code.rec (motive:=fun _=>Ann→(cX→ae→Prop)→(Ex→cX→ae→Prop)→cX→ae→Prop)
  (fun _ Kn _ r h=>Kn r h)
  (fun _ ops p d Kn _ r h=>match d with
   | .reg keep d=>EM P N ops.toList p d (fun f h'=>match TJ f keep with|some r0=>Kn r0 h'|none=>False) r h
   |d=>EM P N ops.toList p d Kn r h)
  (fun a _ g j d Kn Kx r h=>match d with
   | .join st aa ab=>(match Bj a with
     |none=>False
     |some m=>Join (T:=yY (B0 st)) (fun t h'=>j ab Kn Kx (p7 st (pP (B0 st) t) (zE m r)) h')
      fun J=>g aa (fun f h'=>FX st f fun t=>J t h') Kx r h)
   |d=>g d.l (fun f h'=>j d.r Kn Kx f h') Kx r h)
  (fun c _ _ g j d Kn Kx r h=>match eH r c with
   |some (.bool t)=>CondP t (g d.l Kn Kx r h) (j d.r Kn Kx r h)
   |_=>False)
  (fun id _ n d Kn Kx r h=>n d Kn (fun e f h'=>match e with
    | .exit i=>bif cd i id then Kn f h' else Kx (.exit i) f h'
    | .ret=>Kx .ret f h') r h)
  (fun b n d _ Kx r h=>match d with
   | .loop st ab=>(match Bj b with
     |none=>False
     |some m=>FX st r fun q=>LoopP (T:=yY (B0 st)) (fun k t h'=>n ab (fun f o=>FX st f fun s=>k s o) Kx (p7 st (pP (B0 st) t) (zE m r)) h') q h)
   |_=>False)
  (fun _ _ _ _ _ _ _ _ _ _ _=>False)
  (fun id _ _ Kx r h=>Kx (.exit id) r h)
  (fun _ _ _ _ _ _ _=>False)
  (fun _ _ Kn _ r h=>Kn r h)
  (fun _ _ _ _ _ _=>False)
  (fun _ _ Kx r h=>Kx .ret r h)
  (fun _ _ _ _ _ _=>False)
  c
noncomputable def p8(P:Program)(r:cX)(h:ae):List ResultVar→(List Value→Prop)→Prop
 | [],K=>K []
 | .tmp t::l,K=>(match mq r t with|some v=>p8 P r h l fun vs=>K (v::vs)|none=>False)
 | .cell a t::l,K=>(match mq r a with
  |some v=>O2 P t v (fun x _=>p8 P r h l fun vs=>K (x::vs)) h
  |none=>False)
def tx:Nat→List Value→cX
 |_,[]=> []
 |i,v::vs=>(i,v)::tx (i+1) vs
noncomputable def To(P:Program)(fn:Func)(c:Code)(a:Ann)(args:List Value)(ks:List Kind)(K:yY ks→ae→Prop)(h:ae):Prop:=
 nF P fn.ntmps c a
  (fun r h'=>p8 P r h' fn.results.toList fun vs=>GR ks vs fun t=>K t h')
  (fun e r h'=>match e with
   | .ret=>p8 P r h' fn.results.toList fun vs=>GR ks vs fun t=>K t h'
   | .exit _=>False)
  (tx 0 args) h
noncomputable def vh(c:Code):Bool:=
 Code.rec (motive:=fun _=>Bool) false (fun _ _ _=>false) (fun _ _ a b=>bif a then true else b) (fun _ _ _ a b=>bif a then true else b)
  (fun _ _ b=>b) (fun _ b=>b) (fun _ _ _ _ _ _=>true) (fun _=>false) (fun _ b=>b) (fun _=>false) (fun _=>false) false (fun _=>false) c
def Nv:Option Ex→Option Code
 |none=>none
 |some (.exit i)=>some (.exit i)
 |some .ret=>some .ret
def abW(N:ae→Prop)(X:Nat→ae→Prop)(R:ae→Prop):Option Ex→ae→Prop
 |none=>N
 |some (.exit i)=>X i
 |some .ret=>R
structure RangeP(P:Program)(fv:Value)(ks:List Kind)(h:ae)(RT:Obj→Obj→yY ks→(Option Ex→ae→Prop)→ae→Prop)(N:ae→Prop)(X:Nat→ae→Prop)(R:ae→Prop):Prop where
 run:∀lo:LoopState→Option Ex→Obj,(∀s j,∃r,lo s j=.loop r)→
  (∀x h' K,h'[h.size+1]? =some (lo .ready none)→
   RT (lo .ready none) (lo .busy none) x (fun j h2=>h2[h.size+1]? =some (lo .busy none)∧K j.isNone (h2.setIfInBounds (h.size+1) (lo (if j.isNone then .ready else .done) j))) h'→
   HV P (.func (.yield (h.size+1)) #[] #[]) (pP ks x) [.c .bool] K h')→
  ∃f first cap,fv=.func (.func f) first cap∧HE P f (first.toList++ [.func (.yield (h.size+1)) #[] #[]]++cap.toList) []
   (fun _ h2=>∃s j,s≠ .busy∧h2[h.size+1]? =some (lo s j)∧abW N X R j (h2.setIfInBounds (h.size+1) (lo .exhausted j))) ((h.push (.deferred (some []))).push (lo .ready none))
def X6:List Nat→List Value→cX→cX
 |i::l,v::vs,r=>X6 l vs ((i,v)::r)
 |_,_,r=>r
noncomputable def QR(P:Program)(N:Nat)(ps:List Nat)(ks:List Kind)(assign body:Code)(a:Ann)(r:cX)(l:Nat)(LB d:Obj)(x:yY ks)(k:Option Ex→ae→Prop)(h:ae):Prop:=
 nF P N assign a.l (fun c b=>b[l]? =some LB∧nF P N body a.r (fun _ h2=>k none h2) (fun e _ h2=>k (some e) h2) c (b.setIfInBounds l d)) (fun _ _ _=>False) (X6 ps (pP ks x) r) h
def Cd(N:Nat):List Nat→Bool
 | []=>true
 |n::l=>Nat.blt n N&&Cd N l
noncomputable def B9(P:Program)(N:Nat)(c:Code):Ann→(List Nat→cX→ae→Prop)→(Ex→List Nat→cX→ae→Prop)→List Nat→cX→ae→Prop:=
 Code.rec (motive:=fun _=>Ann→(List Nat→cX→ae→Prop)→(Ex→List Nat→cX→ae→Prop)→List Nat→cX→ae→Prop)
  (fun d Kn Kx ms r h=>nF P N .skip d (Kn ms) (fun e=>Kx e ms) r h)
  (fun id ops p d Kn Kx ms r h=>nF P N (.region id ops p) d (Kn ms) (fun e=>Kx e ms) r h)
  (fun a b f j d Kn Kx ms r h=>bif (bif vh a then true else vh b)then f d.l (fun ms m h'=>j d.r Kn Kx ms m h') Kx ms r h
   else nF P N (.seq a b) d (Kn ms) (fun e=>Kx e ms) r h)
  (fun c a b f j d Kn Kx ms r h=>bif (bif vh a then true else vh b)then
    (match eH r c with
     |some (.bool t)=>CondP t (f d.l Kn Kx ms r h) (j d.r Kn Kx ms r h)
     |_=>False)
   else nF P N (.cond c a b) d (Kn ms) (fun e=>Kx e ms) r h)
  (fun id b n d Kn Kx ms r h=>bif vh b then n d Kn (fun e ms m h'=>match e with
    | .exit i=>bif cd i id then Kn ms m h' else Kx (.exit i) ms m h'
    | .ret=>Kx .ret ms m h') ms r h
   else nF P N (.block id b) d (Kn ms) (fun e=>Kx e ms) r h)
  (fun b _ d Kn Kx ms r h=>nF P N (.loop b) d (Kn ms) (fun e=>Kx e ms) r h)
  (fun g ps assign body _ _ d Kn Kx ms r h=>match d with
   | .rf ks aa ab=>bif Cd N ps.toList&&cd ps.toList.length ks.length then
    (match eH r g with
     |some fv=>RangeP P fv ks h (fun LB o x k h'=>QR P N ps.toList ks assign body (.node aa ab) r (h.size+1) LB o x k h')
      (fun h'=>Kn (h.size::ms) r h') (fun i h'=>Kx (.exit i) (h.size::ms) r h') (fun h'=>Kx .ret (h.size::ms) r h')
     |none=>False)else False
   |_=>False)
  (fun id d Kn Kx ms r h=>nF P N (.exit id) d (Kn ms) (fun e=>Kx e ms) r h)
  (fun _ _ _ _ _ _ _ _=>False)
  (fun l d Kn Kx ms r h=>nF P N (.label l) d (Kn ms) (fun e=>Kx e ms) r h)
  (fun _ _ _ _ _ _ _=>False)
  (fun d Kn Kx ms r h=>nF P N .ret d (Kn ms) (fun e=>Kx e ms) r h)
  (fun _ _ _ _ _ _ _=>False)
  c
def Tm:List Nat→(ae→Prop)→ae→Prop
 | [],K,h=>K h
 |D::ms,K,h=>h[D]? =some (.deferred (some []))∧Tm ms K (h.setIfInBounds D (.deferred none))
noncomputable def QS(P:Program)(fn:Func)(c:Code)(a:Ann)(args:List Value)(ks:List Kind)(K:yY ks→ae→Prop)(h:ae):Prop:=
 B9 P fn.ntmps c a
  (fun ms r h'=>Tm ms (fun h'=>p8 P r h' fn.results.toList fun vs=>GR ks vs fun t=>K t h') h')
  (fun e ms r h'=>match e with
   | .ret=>Tm ms (fun h'=>p8 P r h' fn.results.toList fun vs=>GR ks vs fun t=>K t h') h'
   | .exit _=>False)
  [] (tx 0 args) h
end Go.Lift
namespace Go.Lift
open Go
theorem Jk(a:Addr):adr a 0=a:=rfl
theorem DR(a:Addr)(n:Nat):adr a (n+1)=⟨a.block,a.off+(n+1),none⟩:=rfl
theorem xh(a:Addr)(n:Nat):adr a n=a.add n:=by
 cases n with
 |zero=>simp[Jk,Addr.add]
 |succ n=>simp[DR,Addr.add]
theorem DS(a:Addr)(m n:Nat):adr (adr a m) n=adr a (m+n):=by
 cases n with
 |zero=>rfl
 |succ n=>cases m with
  |zero=>simp[Jk]
  |succ m=>rw[DR,DR,show m+1+(n+1)=(m+1+n)+1 from rfl,DR];simp;omega
theorem Tame.refl(w:World):Tame w w:=⟨rfl,rfl,rfl⟩
theorem Tame.trans{a b c:World}(h:Tame a b)(k:Tame b c):Tame a c:=⟨k.os.trans h.os,k.tape.trans h.tape,k.output.trans h.output⟩
theorem Ds{a b:IntKind}(h:Nl a b=true):a=b:=by cases a<;>cases b<;>first|rfl|cases h
theorem CK.dec_sound{c:CK}{v:Value}{f:c.den→Prop}(h:c.dec v f):∃x,v=c.enc x∧f x:=by
 cases c<;>cases v<;>try simp only[CK.dec]at h
 case int.int k k' n=>
  cases hk:Nl k' k with
  |false=>rw[hk]at h;exact h.elim
  |true=>rw[hk]at h;have:=Ds hk;subst this;exact⟨n,rfl,h⟩
 case adr.pointer p=>cases p with
  |none=>exact h.elim
  |some a=>exact⟨a,rfl,h⟩
 all_goals first|exact h.elim|exact⟨_,rfl,h⟩
theorem Gn:∀{cs:List CK} {vs:List Value} {f:XQ cs→Prop},T3 cs vs f→∃t,vs=Xs cs t∧f t
 | [],[],f,h=>⟨(),rfl,h⟩
 | [],_::_,f,h=>h.elim
 | [c],[v],f,h=>by obtain⟨x,rfl,e⟩:=CK.dec_sound h;exact⟨x,rfl,e⟩
 | [c],[],f,h=>h.elim
 | [c],_::_::_,f,h=>h.elim
 |c::d::cs,[],f,h=>h.elim
 |c::d::cs,[_],f,h=>h.elim
 |c::d::cs,v::u::vs,f,h=>by
  have a:c.dec v fun x=>T3 (d::cs) (u::vs) fun t=>f (x,t):=h
  obtain⟨x,hx,g⟩:=CK.dec_sound a;obtain⟨t,b,h2⟩:=Gn (cs:=d::cs) (vs:=u::vs) g;exact⟨(x,t),by rw[b,hx];rfl,h2⟩
theorem Kind.dec_sound{k:Kind}{v:Value}{f:k.den→Prop}(h:k.dec v f):∃x,v=k.enc x∧f x:=by
 cases k with
 |c k=>exact CK.dec_sound h
 |agg cs=>
  cases v<;>simp only[Kind.dec]at h
  case agg vs=>
   obtain⟨t,a,b⟩:=Gn h;exact⟨t,by simp only[Kind.enc,←a],b⟩
theorem vq:∀{ks:List Kind} {vs:List Value} {f:yY ks→Prop},GR ks vs f→∃t,vs=pP ks t∧f t
 | [],[],f,h=>⟨(),rfl,h⟩
 | [],_::_,f,h=>h.elim
 | [c],[v],f,h=>by obtain⟨x,rfl,e⟩:=Kind.dec_sound h;exact⟨x,rfl,e⟩
 | [c],[],f,h=>h.elim
 | [c],_::_::_,f,h=>h.elim
 |c::d::cs,[],f,h=>h.elim
 |c::d::cs,[_],f,h=>h.elim
 |c::d::cs,v::u::vs,f,h=>by
  have a:c.dec v fun x=>GR (d::cs) (u::vs) fun t=>f (x,t):=h
  obtain⟨x,hx,g⟩:=Kind.dec_sound a;obtain⟨t,b,h2⟩:=vq (ks:=d::cs) (vs:=u::vs) g;exact⟨(x,t),by rw[b,hx];rfl,h2⟩
theorem wp:∀(ks:List Kind) (t:yY ks),(pP ks t).length=ks.length
 | [],_=>rfl
 | [_],_=>rfl
 |_::l::ks,(_,t)=>by simp only[pP,ao,wp (l::ks) t]
structure Agree(N:Nat)(r:cX)(a:Act):Prop where
 size:a.tmps.size=N
 look:∀t v,mq r t=some v→a.tmps.getD t undef=v
theorem j4(k:Nat)(v:Value)(r:cX):mq ((k,v)::r) k=some v:=by rw[H4,show cd k k=true from Nat.beq_refl k];rfl
theorem jo{k t:Nat}(v:Value)(r:cX)(h:k≠t):mq ((k,v)::r) t=mq r t:=by
 rw[H4];have:cd k t=false:=Bool.eq_false_iff.2 fun e=>h (bG e)
 rw[this];rfl
theorem Agree.put{N:Nat}{r:cX}{a:Act}(h:Agree N r a)(d:Nat)(v:Value)(hd:d<N):Agree N ((d,v)::r) (a.put (some d) v):=by
 refine⟨by simp[Act.put,h.size],fun t u b=>?_⟩
 by_cases e:d=t
 ·subst e
  rw[j4]at b;cases b;simp[Act.put,h.size,hd]
 ·rw[jo v r e]at b
  have:=h.look t u b;simpa[Act.put,Array.getElem?_setIfInBounds_ne e]using this
theorem Agree.known{N:Nat}{r:cX}{a:Act}(h:Agree N r a){t:Nat}{v:Value}(hv:mq r t=some v):Agree N ((t,v)::r) a:=by
 refine⟨h.size,fun s u b=>?_⟩
 by_cases e:t=s
 ·subst e;rw[j4]at b;cases b;exact h.look t v hv
 ·rw[jo v r e]at b;exact h.look s u b
theorem oc{N:Nat}{r:cX}{a:Act}(h:Agree N r a){o:Operand}{v:Value}(hv:eH r o=some v):a.eval o=v:=by
 cases o with
 |tmp t=>exact h.look t v hv
 |const c=>simp[eH]at hv;subst hv;rfl
 |global g=>simp[eH]at hv;subst hv;rfl
 |func f=>simp[eH]at hv;subst hv;rfl
theorem qX{N:Nat}{r:cX}{a:Act}(h:Agree N r a):∀{os:List Operand} {vs:List Value},ue r os=some vs→os.map a.eval=vs
 | [],vs,hv=>by simp[ue]at hv;subst hv;rfl
 |o::os,vs,hv=>by
  simp only[ue]at hv;cases ho:eH r o with
  |none=>simp[ho]at hv
  |some v=>cases hos:ue r os with
   |none=>simp[ho,hos]at hv
   |some us=>simp[ho,hos]at hv;subst hv;simp[oc h ho,qX h hos]
theorem aM{P:Program}{t:TypeId}{d:TypeDesc}(h:P.underlying t=some d)(w:World):(underlying t).run P w=.ok d w:=by
 simp only[underlying,program,bind,Sem.bind,Sem.run,h,pure]
theorem dA{P:Program}{t:TypeId}{i:TypeInfo}(h:P.info? t=some i)(w:World):(typeInfo t).run P w=.ok i w:=by
 simp only[typeInfo,program,bind,Sem.bind,Sem.run,h,pure]
theorem kS{P:Program}{s:Sem Value}{v:Value}{w a:World}(h:s.run P w=.ok v a):(do pure (Next.value (←s)):Sem Next).run P w=.ok (.value v) a:=by
 simp[h]
theorem Ww{P:Program}{s:Sem Unit}{w a:World}(h:s.run P w=.ok () a):(do s;pure Next.skip:Sem Next).run P w=.ok .skip a:=by
 simp[h]
theorem Da{P:Program}{w:World}{a:Addr}{v:Value}(h:aP w.heap a=some v):(load a).run P w=.ok v w:=by
 have h':w.cell? a=some v:=h;simp[h']
theorem DK{v:Value}{vs:List Value}{i:Nat}{a:Addr}{h:ae}:wq (v::vs) i a h↔aP h (adr a i)=some v∧wq vs (i+1) a h:=by
 cases vs with
 |nil=>simp[wq]
 |cons u us=>rfl
theorem vS{P:Program}{w:World}{a:Addr}:∀(vs:List Value) (i:Nat) (acc:Array Value),wq vs i a w.heap→
  (loadCellsFrom a i vs.length acc).run P w=.ok (acc++vs.toArray) w
 | [],i,acc,_=>by simp[loadCellsFrom]
 |v::vs,i,acc,h=>by
  obtain⟨b,h2⟩:=DK.1 h;rw[xh]at b;have:=vS (P:=P) (w:=w) (a:=a) vs (i+1) (acc.push v) h2;simp only[ao,loadCellsFrom,Sem.run_bind,Da b,Result.andThen_ok,this];simp
theorem Kk{P:Program}{w:World}{a:Addr}{vs:List Value}(h:wq vs 0 a w.heap):(loadCells a vs.length).run P w=.ok vs.toArray w:=by
 have:=vS (P:=P) (w:=w) (a:=a) vs 0 #[] h;simpa[loadCells]using this
theorem Bs:∀(cs:List CK) (i:Nat) (a:Addr) (h:ae) (k:List Value→Prop),Nw cs i a h k→∃vs,vs.length=cs.length∧wq vs i a h∧k vs
 | [],i,a,h,k,b=>⟨[],rfl,trivial,b⟩
 |c::cs,i,a,h,k,b=>by
  obtain⟨x,hx,b⟩:=b;obtain⟨vs,d,hc,b⟩:=Bs cs (i+1) a h _ b;exact⟨c.enc x::vs,by simp[d],DK.2 ⟨hx,hc⟩,b⟩
theorem DH:∀{vs:List Value} {cs:List CK},IY vs=some cs→cs.length=vs.length
 | [],cs,h=>by simp[IY]at h;subst h;rfl
 |v::vs,cs,h=>by
  simp only[IY]at h;cases h1:aao v with
  |none=>simp[h1]at h
  |some c=>cases h2:IY vs with
   |none=>simp[h1,h2]at h
   |some ds=>simp[h1,h2]at h;subst h;simp[DH h2]
def XM(P:Program)(t:TypeId)(i:TypeInfo):Kind→Prop
 | .c _=>yJ P t=false
 | .agg cs=>yJ P t=true∧i.size=cs.length
theorem Rz{P:Program}{t:TypeId}{k:Kind}(h:TH P t=some k):∃i,P.info? t=some i∧XM P t i k:=by
 unfold TH Bh at h;cases hi:P.info? t with
 |none=>simp[hi]at h
 |some i=>
  refine⟨i,rfl,?_⟩;cases hz:i.zero with
  |none=>simp[hi,hz]at h
  |some z=>
   rw[hi]at h;simp only[hz]at h;cases z;case agg vs=>
    simp only at h;cases hb:(yJ P t&&cd vs.toList.length (cA P t))with
    |false=>rw[hb]at h;simp at h
    |true=>
     rw[hb]at h;simp only[cond_true]at h;simp only[Bool.and_eq_true]at hb;have a:=bG hb.2;cases hd:IY vs.toList with
     |none=>rw[hd]at h;simp at h
     |some ds=>
      rw[hd]at h;simp only[bR.injEq]at h;subst h;exact⟨hb.1,by rw[DH hd,a];simp[cA,hi]⟩
   all_goals
    simp only at h;cases ha:yJ P t
    ·rw[ha]at h
     simp only[cond_false]at h;split at h
     ·simp only[bR.injEq]at h;subst h;exact ha
     ·simp at h
    ·rw[ha]at h;simp at h
theorem RA{P:Program}{t:TypeId}{k:Kind}(h:Ix P t=some k):(∀w,(isAgg t).run P w=.ok (yJ P t) w)∧TH P t=some k:=by
 unfold Ix at h;cases hu:P.underlying t with
 |none=>simp[hu]at h
 |some d=>
  simp only[hu]at h;refine⟨fun w=>?_,h⟩
  simp only[isAgg,Sem.run_bind,aM hu,Result.andThen_ok];unfold yJ;rw[hu];cases d<;>rfl
theorem F5{P:Program}{t:TypeId}{v:Value}{K:RK}{h:ae}(d:O2 P t v K h):
  ∃u S,K u (some S)∧S h∧∀w:World,S w.heap→(Instr.loadAt t v).run P w=.ok u w:=by
 unfold O2 at d;cases v with
 |pointer p=>
  cases p with
  |none=>exact d.elim
  |some a=>
   simp only at d;cases hk:Ix P t with
   |none=>simp[hk]at d
   |some k=>
    obtain⟨b,m⟩:=RA hk;obtain⟨i,hi,hc⟩:=Rz m;rw[hk]at d;cases k with
    |c c=>
     obtain⟨x,hx,g⟩:=d;refine⟨_,_,g,hx,fun w f=>?_⟩
     have hc:yJ P t=false:=hc;simp only[Instr.loadAt,Instr.sureAddr,loadVar,Sem.run_bind,Sem.run_pure,Result.andThen_ok,b,hc];simp[Da f]
    |agg cs=>
     obtain⟨vs,e,j,g⟩:=Bs cs 0 a h _ d;obtain⟨n,h2⟩:yJ P t=true∧i.size=cs.length:=hc;refine⟨_,_,g,j,fun w f=>?_⟩
     have m:(sizeOf t).run P w=.ok vs.length w:=by simp[sizeOf,dA hi,h2,e]
     simp only[Instr.loadAt,Instr.sureAddr,loadVar,Sem.run_bind,Sem.run_pure,Result.andThen_ok,b,n];simp[m,Kk f]
 |_=>exact d.elim
end Go.Lift
