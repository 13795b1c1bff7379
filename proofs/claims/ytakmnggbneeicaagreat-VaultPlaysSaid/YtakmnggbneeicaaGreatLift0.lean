/- A part of the proof that the named laws of this program answer true, whatever the input. -/
import Derived.OrdersIn
import Derived.Below
import Derived.WalkKit
import Derived.RangeFuncRecord
import Derived.DefersIn
import Derived.Laws.Append
import Derived.Laws.Cover3
import Derived.Laws.StructEq
import Derived.Laws.BytesString
import Derived.Lib.UnsafeStr
import Derived.Laws.RangeString
import Derived.Lib.ConvBytes
open Array renaming ext'->df,getElem?_toList->bJ,mem_filter->rv
open BitVec renaming ofInt->aB
open Bool renaming and_eq_true->bC,false_eq_true->cY
open ByteArray renaming data_extract->qz
open Go.Builtin renaming firstCells->fh,len_->lK,cap_->yJ,zeroCells->iK,lenOf->rI,append_->dV,nextslicecap->nF,clear_->vq,copy_->rJ,delete_->th
open Go.Instr renaming sureAddr->nD,sliceBounds->gG,sliceAt->rH,sameNow->w6,findNow->oW,lookup->yI,range->wG,next->rq
open Go.Op renaming bytesLess->bF,equalIn->gB
open Go.Result renaming andThen_ok->aI
open Go.Sem renaming run->oa,run_bind->bA,run_pure->cr
open Iff renaming rfl->ug
open List renaming rec->fV,replicate->eO,length_cons->av,extract_eq_take_drop->gS,map_cons->cn,map_map->jc,take_of_length_le->bd,cons_append->cN,length_eq_zero_iff->aK,getElem?_eq_getElem->af
open Nat renaming succ->gg,beq->aS,ble->yF,min->dU,blt->AM,land->kw,lor->dq,pred->An,eq_of_beq_eq_true->bD,add_assoc->oV,le_of_ble_eq_true->gY,add_zero->dP,zero_add->aU,le_add_right->oe,not_lt->dR
open Option renaming some->bO,isSome_iff_exists->ik,map_some->jZ
open Prod renaming mk->pf
open UInt8 renaming ofNat->gf
abbrev Go.aT:=Option Addr
abbrev Go.bY:=List (ByteArray×ByteArray)
abbrev Go.c4:=List Value
abbrev Go.c5:=List UInt8
abbrev Go.c6:=ByteArray
abbrev Go.dx:=Nat->Prop
abbrev Go.dO:=Array Obj->Prop
theorem Go.a4{p:Prop}(h:p:=by omega):p:=h
theorem Go.a5{p:Prop}(h:p:=by kernel_rfl):p:=h
theorem Go.a6{p:Prop}(h:p:=by simp):p:=h
theorem Go.a7{p:Prop}(h:p:=by first|omega|((try simp only);omega)):p:=h
theorem Go.a8{p:Prop}(h:p:=by decide):p:=h
theorem Go.a9{p:Prop}(h:p:=by simp;omega):p:=h
theorem Go.bb{p:Prop}(h:p:=by first|omega|(simp;done)|(simp;omega)):p:=h
theorem Go.cd{p:Prop}(h:p:=by simp only;omega):p:=h
theorem Go.cv{p:Prop}(h:p:=by split<;>omega):p:=h
noncomputable section
namespace Go.Lift
section
variable {p t e:Prop}{b:Bool}
abbrev ad:=Array Obj
def aZ(h:ad)(a:Addr):Option Value:=
 match h[a.block]? with
 |some (.cells c _ _)=>if a.spot.isSome then none else c[a.off]?
 |_=>none
def Hr(h:ad)(a:Addr):Bool:=
 match h[a.block]? with
 |some (.cells _ _ (lo,hi))=>lo<=a.off&&a.off<hi
 |_=>false
def hset(h:ad)(a:Addr)(v:Value):ad:=
 h.modify a.block fun
  | .cells c elem frozen=>.cells (if a.spot.isSome then c else c.setIfInBounds a.off v) elem frozen
  |o=>o
def adr(a:Addr)(n:Nat):Addr:=Nat.rec (motive:=λ_=>Addr) a (λn _=>⟨a.block,a.off+gg n,none⟩) n
def Wr(h:ad)(a:Addr):Prop:=(∃v,aZ h a=some v)/\Hr h a=false
structure Tame(w w':World):Prop where
 os:w'.os=w.os
 tape:w'.tape=w.tape
 output:w'.output=w.output
structure fD where
 a:aT
 len:Nat
 cap:Nat
def NB:IntKind->IntKind->Bool
 | .i8,.i8=>true| .i16,.i16=>true| .i32,.i32=>true| .i64,.i64=>true
 | .u8,.u8=>true| .u16,.u16=>true| .u32,.u32=>true| .u64,.u64=>true
 |_,_=>false
inductive CK where
 |int (k:IntKind)|bool|str|ptr|slice|map|chan|raw|adr
def CK.den:CK->Type
 | .int _=>Int| .bool=>Bool| .str=>c6| .ptr=>aT| .slice=>fD| .map=>Option Nat| .chan=>Option Nat| .raw=>Value| .adr=>Addr
def CK.enc:(c:CK)->c.den->Value
 | .int k,n=>.int k n
 | .bool,b=>.bool b
 | .str,s=>.string s
 | .ptr,p=>.pointer p
 | .slice,s=>.slice s.a s.len s.cap
 | .map,r=>.map r
 | .chan,r=>.chan r
 | .raw,v=>v
 | .adr,a=>.pointer (some a)
def CK.dec:(c:CK)->Value->(c.den->Prop)->Prop
 | .int k,.int k' n,f=>bif NB k' k then f n else False
 | .bool,.bool b,f=>f b
 | .str,.string s,f=>f s
 | .ptr,.pointer p,f=>f p
 | .slice,.slice a l c,f=>f ⟨a,l,c⟩
 | .map,.map r,f=>f r
 | .chan,.chan r,f=>f r
 | .raw,v,f=>f v
 | .adr,.pointer (some a),f=>f a
 |_,_,_=>False
def Y2:List CK->Type
 | []=>Unit
 | [c]=>c.den
 |c::d::cs=>c.den×Y2 (d::cs)
def YC:(cs:List CK)->Y2 cs->c4
 | [],_=> []
 | [c],x=> [c.enc x]
 |c::d::cs,(x,t)=>c.enc x::YC (d::cs) t
def UP:(cs:List CK)->c4->(Y2 cs->Prop)->Prop
 | [],[],f=>f ()
 | [c],[v],f=>c.dec v f
 |c::d::cs,v::u::vs,f=>c.dec v λx=>UP (d::cs) (u::vs) λt=>f (x,t)
 |_,_,_=>False
inductive Kind where
 |c (k:CK)
 |agg (cs:List CK)
def Kind.den:Kind->Type
 | .c k=>k.den
 | .agg cs=>Y2 cs
def Kind.enc:(k:Kind)->k.den->Value
 | .c k,x=>k.enc x
 | .agg cs,t=>.agg (YC cs t).toArray
def Kind.dec:(k:Kind)->Value->(k.den->Prop)->Prop
 | .c k,v,f=>k.dec v f
 | .agg cs,.agg vs,f=>UP cs vs.toList f
 |_,_,_=>False
def vB:List Kind->Type
 | []=>Unit
 | [k]=>k.den
 |k::l::ks=>k.den×vB (l::ks)
def nP:(ks:List Kind)->vB ks->c4
 | [],_=> []
 | [k],x=> [k.enc x]
 |k::l::ks,(x,t)=>k.enc x::nP (l::ks) t
def GT:(ks:List Kind)->c4->(vB ks->Prop)->Prop
 | [],[],f=>f ()
 | [k],[v],f=>k.dec v f
 |k::l::ks,v::u::vs,f=>k.dec v λx=>GT (l::ks) (u::vs) λt=>f (x,t)
 |_,_,_=>False
def EL(ks:List Kind)(vs:c4):Value:=
 match ks,vs with
 | [_],[v]=>v
 |_,vs=>.tuple vs.toArray
def ab3:Value->Option CK
 | .int k _=>some (.int k)
 | .bool _=>some .bool
 | .string _=>some .str
 | .pointer _=>some .ptr
 | .slice .. =>some .slice
 | .map _=>some .map
 | .chan _=>some .chan
 | .nilFunc=>some .raw
 | .nilIface=>some .raw
 |_=>none
def Jj:c4->Option (List CK)
 | []=>some []
 |v::vs=>match ab3 v,Jj vs with
  |some c,some cs=>some (c::cs)
  |_,_=>none
def yy(P:Program)(t:TypeId):Bool:=
 match P.underlying t with
 |some (.struct _)|some (.array _ _)=>true
 |_=>false
def cF(P:Program)(t:TypeId):Nat:=match P.info? t with|some i=>i.size|none=>0
def sK(P:Program)(t:TypeId):Nat:=match P.info? t with|some i=>i.bytes|none=>0
def A7(P:Program)(t:TypeId):Option Value:=match P.info? t with|some i=>i.zero|none=>none
def Us(P:Program)(t:TypeId):Option Kind:=
 match A7 P t with
 |some (.agg vs)=>bif yy P t&&aS vs.toList.length (cF P t)then(match Jj vs.toList with|some cs=>some (.agg cs)|none=>none)else none
 |some v=>bif yy P t then none else(match ab3 v with|some c=>some (.c c)|none=>none)
 |none=>none
def II(P:Program)(t:TypeId):Option Kind:=
 match P.underlying t with
 |none=>none
 |some _=>Us P t
structure HC(P:Program)(f:FuncId)(args:c4)(ks:List Kind)(K:vB ks->dO)(h:ad):Prop where
 run:∀w:World,w.heap=h->
  ((callFunc f args.toArray).run P w=.ok (.enter f args.toArray) w/\
   Calls P f args.toArray w λe w'=>Tame w w'/\∃t:vB ks,e=.returned (EL ks (nP ks t))/\K t w'.heap)\/
  (∃v w',(callFunc f args.toArray).run P w=.ok (.value v) w'/\Tame w w'/\∃t:vB ks,v=EL ks (nP ks t)/\K t w'.heap)
structure HE(P:Program)(f:FuncId)(args:c4)(ks:List Kind)(K:vB ks->dO)(h:ad):Prop where
 run:∀w:World,w.heap=h->(∀(args:Array Value) (w:World),(callFunc f args).run P w=.ok (.enter f args) w)/\
  Calls P f args.toArray w λe w'=>Tame w w'/\∃t:vB ks,e=.returned (EL ks (nP ks t))/\K t w'.heap
theorem HE.hc{P:Program}{f:FuncId}{args:c4}{ks:List Kind}{K:vB ks->dO}{h:ad}(e:HE P f args ks K h):HC P f args ks K h:=
 ⟨λw a=>.inl ⟨(e.run w a).1 _ w,(e.run w a).2⟩⟩
structure HY(P:Program)(l:Nat)(args:c4)(K:Bool->dO)(h:ad):Prop where
 run:∀w:World,w.heap=h->∃fn tmps assign body,(Instr.yield l args.toArray).run P w=.ok (.round l fn tmps assign body) w/\
  ∀(c:Frame) (cs:List Frame),∃b w',Tame w w'/\K b w'.heap/\Steps P (lone (Frame.round l fn tmps assign body .normal) (c::cs) w) (lone (c.finish (.bool b)) cs w')
structure HV(P:Program)(fv:Value)(args:c4)(ks:List Kind)(K:vB ks->dO)(h:ad):Prop where
 run:(∃f first cap,fv=.func (.func f) first cap/\HC P f (first.toList++args++cap.toList) ks K h)\/
  (∃l,fv=.func (.yield l) #[] #[]/\HY P l args (λb h'=>GT ks [.bool b] λt=>K t h') h)
def fo(b:Bool)(t e:Prop):Prop:=Bool.rec (motive:=λ_=>Prop) e t b
theorem fo.yes(h:fo b t e)(hb:b=true):t:=by subst hb;exact h
theorem fo.no(h:fo b t e)(hb:b=false):e:=by subst hb;exact h
theorem fo.intro(c:b=true->t)(a:b=false->e):fo b t e:=by cases b;exact a rfl;exact c rfl
abbrev eh:=@fo.intro
theorem ay:fo true t e↔t:=ug
theorem ag:fo false t e↔e:=ug
attribute [irreducible] fo
def At(h:ad)(k:dO):Prop:=k h
def Bd{T:Type}(x:T)(k:T->Prop):Prop:=k x
structure Join{T:Type}(rest:T->dO)(k:(T->dO)->Prop):Prop where
 run:k rest
structure LoopP{T:Type}(F:(T->dO)->T->dO)(t:T)(h:ad):Prop where
 run:∀I:T->ad->Prop,(∀t h,F I t h->I t h)->I t h
abbrev cR:=List (Nat×Value)
def li(r:cR)(t:Nat):Option Value:=
 fV (motive:=λ_=>Option Value) none (λa _ b=>bif aS a.1 t then some a.2 else b) r
theorem H7(k:Nat)(v:Value)(r:cR)(t:Nat):li ((k,v)::r) t=bif aS k t then some v else li r t:=rfl
def dD(r:cR):Operand->Option Value
 | .tmp t=>li r t
 | .const v=>some v
 | .global g=>some (.pointer (some ⟨g,0,none⟩))
 | .func f=>some (.func (.func f) #[] #[])
def pt(r:cR):List Operand->Option c4
 | []=>some []
 |o::os=>match dD r o,pt r os with
  |some v,some vs=>some (v::vs)
  |_,_=>none
def NM:List CK->Nat->Addr->ad->(c4->Prop)->Prop
 | [],_,_,_,k=>k []
 |c::cs,i,a,h,k=>∃x:c.den,aZ h (adr a i)=some (c.enc x)/\NM cs (i+1) a h λvs=>k (c.enc x::vs)
def vJ:c4->Nat->Addr->ad->Prop
 | [],_,_,_=>True
 | [v],i,a,h=>aZ h (adr a i)=some v
 |v::u::vs,i,a,h=>aZ h (adr a i)=some v/\vJ (u::vs) (i+1) a h
abbrev RK:=Value->Option (dO)->Prop
def Pg(P:Program)(t:TypeId)(v:Value)(K:RK)(h:ad):Prop:=
 match v with
 | .pointer (some a)=>
  match II P t with
  |some (.c c)=>∃x:c.den,aZ h a=some (c.enc x)/\K (c.enc x) (some λh'=>aZ h' a=some (c.enc x))
  |some (.agg cs)=>NM cs 0 a h λvs=>K (.agg vs.toArray) (some λh'=>vJ vs 0 a h')
  |none=>False
 |_=>False
def zN(P:Program)(t:TypeId)(f:Nat):Option (TypeId×Nat):=
 match P.underlying t with
 |some (.struct fs)=>match fs.toList[f]? with
  |some g=>some (g.type,g.offset)
  |none=>none
 |_=>none
def yN(P:Program)(t:TypeId):Option TypeId:=
 match P.underlying t with
 |some (.slice e)=>some e
 |_=>none
def Ru(c:BinOp)(k:IntKind)(a b:Int)(K:RK):Prop:=
 match c with
 | .shl=>0<=b/\K (.int k (k.wrap (a*2^(min b.toNat k.bits)))) none
 | .shr=>0<=b/\K (.int k (a.fdiv (2^(min b.toNat k.bits)))) none
 |_=>False
def abT(c:BinOp)(k:IntKind)(a b:Int)(K:RK):Prop:=
 match c with
 | .add=>K (.int k (k.wrap (a+b))) none
 | .sub=>K (.int k (k.wrap (a-b))) none
 | .mul=>K (.int k (k.wrap (a*b))) none
 | .quo=>b≠0/\K (.int k (k.wrap (a.tdiv b))) none
 | .rem=>b≠0/\K (.int k (a.tmod b)) none
 | .and=>K (.int k (k.wrap (aB k.bits a&&&aB k.bits b).toNat)) none
 | .or=>K (.int k (k.wrap (aB k.bits a|||aB k.bits b).toNat)) none
 | .xor=>K (.int k (k.wrap (aB k.bits a^^^aB k.bits b).toNat)) none
 | .andNot=>K (.int k (k.wrap (aB k.bits a&&& ~~~aB k.bits b).toNat)) none
 | .eql=>K (.bool (a==b)) none
 | .neq=>K (.bool (a !=b)) none
 | .lss=>K (.bool (decide (a<b))) none
 | .leq=>K (.bool (decide (a<=b))) none
 | .gtr=>K (.bool (decide (a>b))) none
 | .geq=>K (.bool (decide (a>=b))) none
 |_=>False
def abz(c:BinOp)(a b:c6)(K:RK):Prop:=
 match c with
 | .add=>((a.size+b.size:Nat):Int)<=9223372036854775807/\K (.string (a++b)) none
 | .eql=>K (.bool (a.toList==b.toList)) none
 | .neq=>K (.bool (!(a.toList==b.toList))) none
 | .lss=>K (.bool (bF a.toList b.toList)) none
 | .leq=>K (.bool (bF a.toList b.toList||a.toList==b.toList)) none
 | .gtr=>K (.bool (!(bF a.toList b.toList||a.toList==b.toList))) none
 | .geq=>K (.bool (!(bF a.toList b.toList))) none
 |_=>False
def fQ(h:ad)(a:Addr):Prop:=(∃c e,h[a.block]? =some (.cells c e (0,0))/\0<c.size)
def adh:Value->Bool
 | .func _ _ _=>true
 | .nilFunc=>true
 |_=>false
def acS:Value->Bool
 | .nilFunc=>true
 |_=>false
def adg:Value->Bool
 | .iface _ _=>true
 | .nilIface=>true
 |_=>false
def acR:Value->Bool
 | .nilIface=>true
 |_=>false
def Z7(P:Program)(t:TypeId)(neg:Bool)(x y:Value)(K:RK):Prop:=
 match P.underlying t,x,y with
 |some (.pointer _),.pointer a,.pointer none=>K (.bool (bif neg then !a.isNone else a.isNone)) none
 |some (.map _ _),.map a,.map none=>K (.bool (bif neg then !a.isNone else a.isNone)) none
 |some (.slice _),.slice a _ _,.slice none _ _=>K (.bool (bif neg then !a.isNone else a.isNone)) none
 |some (.func _ _ _),x,.nilFunc=>adh x=true/\K (.bool (bif neg then !(acS x)else acS x)) none
 |some (.interface _),x,.nilIface=>adg x=true/\K (.bool (bif neg then !(acR x)else acR x)) none
 |_,_,_=>False
def XU:Operand->Bool
 | .const (.pointer none)=>true
 | .const (.map none)=>true
 | .const (.slice none 0 0)=>true
 | .const .nilFunc=>true
 | .const .nilIface=>true
 |_=>false
def adK(P:Program)(t:TypeId)(neg:Bool)(x y:Value)(K:RK)(h:ad):Prop:=
 match P.underlying t,x,y with
 |some .bool,.bool a,.bool b=>K (.bool (bif neg then !(a==b)else a==b)) none
 |some (.pointer e),.pointer a,.pointer b=>
  (bif aS (cF P e) 0 then False else True)/\
  (∀x y,a=some x->b=some y->fQ h x/\fQ h y)/\
  K (.bool (bif neg then !(a==b)else a==b)) (some λh'=>∀x y,a=some x->b=some y->fQ h' x/\fQ h' y)
 |_,_,_=>False
def ZX(P:Program)(c:BinOp)(t:TypeId)(x y:Value)(K:RK)(h:ad):Prop:=
 match x,y with
 | .int k a,.int k' b=>
  match c with
  | .shl=>Ru .shl k a b K
  | .shr=>Ru .shr k a b K
  |c=>bif NB k' k then abT c k a b K else False
 | .string a,.string b=>abz c a b K
 |x,y=>match c with
  | .eql=>adK P t false x y K h
  | .neq=>adK P t true x y K h
  |_=>False
def uv(h:ad):List (aT×aT)->Prop
 | []=>True
 |(a,b)::l=>(∀x y,a=some x->b=some y->fQ h x/\fQ h y)/\uv h l
def Yi(P:Program)(t:TypeId)(x y:Value):Option (Bool×List (aT×aT)):=
 match P.underlying t,x,y with
 |some (.int _),.int k a,.int k' b=>bif NB k' k then some (a==b,[])else none
 |some .bool,.bool a,.bool b=>some (a==b,[])
 |some .string,.string a,.string b=>some (a.toList==b.toList,[])
 |some (.pointer e),.pointer a,.pointer b=>bif aS (cF P e) 0 then none else some (a==b,[(a,b)])
 |_,_,_=>none
def aaz(P:Program)(rec:TypeId->c4->c4->Option (Bool×List (aT×aT)))(xs ys:c4):List Field->Option (Bool×List (aT×aT))
 | []=>some (true,[])
 |f::fs=>
  if f.name= "_" then none else
  bif (P.underlying f.type).isSome&&(P.info? f.type).isSome then
   match(bif yy P f.type then rec f.type ((xs.drop f.offset).take (cF P f.type)) ((ys.drop f.offset).take (cF P f.type))
    else match xs[f.offset]?,ys[f.offset]? with|some x,some y=>Yi P f.type x y|_,_=>none),aaz P rec xs ys fs with
   |some (b,l),some (c,m)=>some (b&&c,l++m)
   |_,_=>none
  else none
def Yj(P:Program):Nat->TypeId->c4->c4->Option (Bool×List (aT×aT))
 |0,_,_,_=>none
 |d+1,t,xs,ys=>match P.underlying t with
  |some (.struct fs)=>bif P.stoodInHeld t then none else aaz P (Yj P d) xs ys fs.toList
  |_=>none
def aeh(neg b:Bool)(K:RK)(h:ad):List (aT×aT)->Prop
 | []=>K (.bool (bif neg then !b else b)) none
 |p::l=>uv h (p::l)/\K (.bool (bif neg then !b else b)) (some λh'=>uv h' (p::l))
def abH(P:Program)(a:BinOp)(t:TypeId)(xs ys:c4)(K:RK)(h:ad):Prop:=
 bif P.eqGuardType P.depth t then False else
 match a with
 | .eql=>(match Yj P 10 t xs ys with|some (b,l)=>aeh false b K h l|none=>False)
 | .neq=>(match Yj P 10 t xs ys with|some (b,l)=>aeh true b K h l|none=>False)
 |_=>False
def ad1(a:UnOp)(x:Value)(K:RK):Prop:=
 match a,x with
 | .neg,.int k n=>K (.int k (k.wrap (0-n))) none
 | .xor,.int k n=>K (.int k (k.wrap (aB k.bits (if k.signed then-1 else k.max)^^^aB k.bits n).toNat)) none
 | .not,.bool b=>K (.bool (!b)) none
 |_,_=>False
def di(s:c6):c4:=s.data.toList.map λb=>.int .u8 b.toNat
def Row(h:ad)(a:Addr)(vs:c4):Prop:=∀i v,vs[i]? =some v->aZ h (adr a i)=some v
def SRow(h:ad)(a:aT)(n:Nat)(vs:c4):Prop:=vs.length=n/\(vs= []\/∃b,a=some b/\Row h b vs)
def Sx(P:Program)(e:TypeId):Bool:=match P.underlying e with|some (.int .u8)=>true|_=>false
def abS(P:Program)(s d:TypeId):Bool:=
 match P.underlying s,P.underlying d with
 |some .string,some (.slice e)=>Sx P e
 |_,_=>false
def aeo(e:TypeId)(s:c6)(h:ad)(K:Nat->dO):Prop:=
 ∀c,s.size<=c->K c (h.push (.cells (di s++eO (c-s.size) (Value.int .u8 0)).toArray e (c,c+1)))
def Xs(P:Program)(b c:TypeId)(x:Value)(K:RK)(h:ad):Prop:=
 match P.underlying b,P.underlying c,x with
 |some (.int _),some (.int k),.int _ n=>K (.int k (k.wrap n)) none
 |some .string,some .string,.string s=>K (.string s) none
 |some (.slice e),some .string,.slice a n _=>bif Sx P e then∃s:c6,SRow h a n (di s)/\K (.string s) (some λh'=>SRow h' a n (di s))else False
 |_,_,_=>False
def YI(v:Option Value)(d y:Nat)(K:dx):Prop:=
 match v with
 |none=>K d
 |some (.int _ i)=>(0<=i/\i<=y)/\K i.toNat
 |_=>False
def bj(a:aT)(l m size:Nat):aT:=if m=l then a else a.map (adr · (l*size))
def XE(P:Program)(t:TypeId)(K:Prop):Prop:=match P.info? t with|some _=>K|none=>False
def RI(P:Program)(t:TypeId)(x:Value)(lo hi b:Option Value)(K:RK):Prop:=
 match P.underlying t,x with
 |some .string,.string s=>match b with
  |some _=>False
  |none=>YI hi s.size s.size λh=>YI lo 0 h λl=>K (.string (s.extract l h)) none
 |some (.slice e),.slice a len cap=>XE P e (
  match b with
  |none=>YI hi len cap λh=>YI lo 0 h λl=>K (.slice (bj a l cap (cF P e)) (h-l) (cap-l)) none
  |some m=>match hi with
   |none=>False
   |some hi=>YI (some m) 0 cap λm=>YI (some hi) 0 m λh=>YI lo 0 h λl=>K (.slice (bj a l m (cF P e)) (h-l) (m-l)) none)
 |some (.array n e),.pointer (some a)=>XE P e (
  match b with
  |none=>YI hi n n λh=>YI lo 0 h λl=>K (.slice (bj (some a) l n (cF P e)) (h-l) (n-l)) none
  |some _=>False)
 |_,_=>False
def LC(r:cR):Option Operand->Option (Option Value)
 |none=>some none
 |some o=>match dD r o with
  |some v=>some (some v)
  |none=>none
def BW(P:Program)(t:TypeId)(x i:Value)(K:RK):Prop:=
 match P.underlying t,x,i with
 |some (.array n e),.pointer (some a),.int _ i=>XE P e ((0<=i/\i<n)/\K (.pointer (some (adr a (i.toNat*cF P e)))) none)
 |some (.slice e),.slice b len _,.int _ i=>XE P e ((0<=i/\i<len)/\∃a,b=some a/\K (.pointer (some (adr a (i.toNat*cF P e)))) none)
 |_,_,_=>False
def RN(P:Program)(t:TypeId)(x i:Value)(K:RK):Prop:=
 match P.underlying t,x,i with
 |some .string,.string s,.int _ i=>∃b:UInt8,0<=i/\s[i.toNat]? =some b/\K (.int .u8 b.toNat) none
 |_,_,_=>False
def RO(P:Program)(t:TypeId)(x:Value)(f:Nat)(K:RK):Prop:=
 match zN P t f,x with
 |some (u,off),.agg cs=>bif (P.underlying u).isSome&&(P.info? u).isSome then(bif yy P u then K (.agg ((cs.toList.drop off).take (cF P u)).toArray) none
  else(match cs.toList[off]? with|some v=>K v none|none=>False))else False
 |_,_=>False
def abc(c a b:Value)(K:RK):Prop:=
 match c with
 | .bool c=>(match a,b with
  | .bool x,.bool y=>K (.bool (bif c then x else y)) none
  |_,_=>(match c with|true=>K a none|false=>K b none))
 |_=>False
def gv:Value->Value->Bool
 | .int _ a,.int _ b=>a==b
 | .string a,.string b=>a==b
 | .bool a,.bool b=>a==b
 |_,_=>false
def IV(k:Value):List MapEntry->Option Value
 | []=>none
 |e::es=>if gv k e.key then some e.val else IV k es
def keysOf(c:CK)(es:List MapEntry):Prop:=∀e∈es,∃x:c.den,e.key=c.enc x
def nh(c:CK)(z:Value)(h:ad)(m:Option Nat)(k v:Value)(ok:Bool):Prop:=
 match m with
 |none=>v=z/\ok=false
 |some r=>∃es clock,h[r]? =some (.map es clock)/\keysOf c es.toList/\
  (match IV k es.toList with|some u=>v=u/\ok=true|none=>v=z/\ok=false)
def PK(P:Program)(t:TypeId):Option (CK×TypeId):=
 match P.underlying t with
 |some (.map k e)=>match P.underlying k with
  |some (.int i)=>some (.int i,e)
  |some .string=>some (.str,e)
  |some .bool=>some (.bool,e)
  |_=>none
 |_=>none
def Ng(P:Program)(t:TypeId)(x k:Value)(ok:Bool)(K:RK)(h:ad):Prop:=
 match PK P t,x with
 |some (c,e),.map m=>c.dec k λ_=>
  (match II P e,A7 P e with
   |some ek,some z=>∃(y:ek.den) (b:Bool),nh c z h m k (ek.enc y) b/\
    K (bif ok then .tuple #[ek.enc y,.bool b]else ek.enc y) (some λh'=>nh c z h' m k (ek.enc y) b)
   |_,_=>False)
 |_,_=>False
def Ff(h:ad)(m:Option Nat)(n:Nat):Prop:=
 match m with
 |none=>n=0
 |some r=>∃es clock,h[r]? =some (.map es clock)/\n=es.size
def UW(c:Bool)(h:ad)(m:Option Nat)(n:Nat):Prop:=
 match m with
 |none=>n=0
 |some r=>∃cap buf cl s q,h[r]? =some (.chan cap buf cl s q false)/\n=bif c then cap else buf.size
def abE(P:Program)(t:TypeId)(x:Value)(K:RK)(h:ad):Prop:=
 match P.underlying t,x with
 |some .string,.string s=>K (.int .i64 s.size) none
 |some (.array n _),_=>K (.int .i64 n) none
 |some (.slice _),.slice _ n _=>K (.int .i64 n) none
 |some (.map _ _),.map m=>∃n:Nat,Ff h m n/\K (.int .i64 n) (some λh'=>Ff h' m n)
 |some (.chan _ _),.chan m=>∃n:Nat,UW false h m n/\K (.int .i64 n) (some λh'=>UW false h' m n)
 |_,_=>False
def abF(P:Program)(t:TypeId)(x:Value)(K:RK)(h:ad):Prop:=
 match P.underlying t,x with
 |some (.slice _),.slice _ _ n=>K (.int .i64 n) none
 |some (.chan _ _),.chan m=>∃n:Nat,UW true h m n/\K (.int .i64 n) (some λh'=>UW true h' m n)
 |_,_=>False
def Ns(c:Bool)(k:IntKind):Int->c4->(Value->Prop)->Prop
 |a,[],f=>f (.int k a)
 |a,.int k' b::vs,f=>bif NB k' k then Ns c k (bif c then(if b>a then b else a)else(if b<a then b else a)) vs f else False
 |_,_,_=>False
def Hl(b:Bool)(vs:c4)(f:Value->Prop):Prop:=
 match vs with
 | .int k a::vs=>Ns b k a vs f
 |_=>False
def yA(h:ad)(i:Nat)(e:MapEntry):Prop:=
 ∃m since seen last stamp es,h[i]? =some (.mapIter (some m) since seen last)/\seen.back? =some stamp/\h[m]? =some (.map es last)/\es.find? (λe=>e.born==stamp)=some e
def rP(P:Program)(t:TypeId):Bool:=match P.underlying t with|some (.interface _)=>false|some _=>true|none=>false
def T8(P:Program)(t:TypeId)(x:Value)(K:RK):Prop:=
 bif rP P t then(match II P t with
  |some k=>∃y:k.den,x=.iface t (k.enc y)/\K (k.enc y) none
  |none=>False)else False
def Pn(cs:c4)(off:Nat)(vs:c4):c4:=cs.take off++vs++cs.drop (off+vs.length)
def F7(a:Nat->Option (Nat×Nat)):c4->List (Nat×Value)->Option c4
 |cs,[]=>some cs
 |cs,(i,v)::rest=>match a i with
  |none=>none
  |some (off,size)=>bif aS v.cells.toList.length size&&yF (off+v.cells.toList.length) cs.length then F7 a (Pn cs off v.cells.toList) rest else none
def rN(r:cR):List (Nat×Operand)->Option (List (Nat×Value))
 | []=>some []
 |(i,o)::ps=>match dD r o,rN r ps with
  |some v,some vs=>some ((i,v)::vs)
  |_,_=>none
def sF(P:Program)(t:TypeId):Option c4:=match A7 P t with|some z=>some z.cells.toList|none=>none
def dG(n:Nat)(z:c4):c4:=(eO n z).flatten
def AF(P:Program)(t:TypeId):Bool:=match P.info? t with|some _=>true|none=>false
def DF(P:Program):List Field->Bool
 | []=>true
 |f::fs=>bif AF P f.type then DF P fs else false
def RY(P:Program)(a:List Field)(i:Nat):Option (Nat×Nat):=match a[i]? with|some f=>some (f.offset,cF P f.type)|none=>none
def NX(P:Program)(t:TypeId)(a:List (Nat×Value)):Option c4:=
 match P.underlying t,sF P t with
 |some (.struct fs),some z=>bif DF P fs.toList then F7 (RY P fs.toList) z a else none
 |some (.array _ e),some z=>bif AF P e then F7 (λi=>some (i*cF P e,cF P e)) z a else none
 |_,_=>none
def RJ(v:Value)(K:RK):Prop:=
 match v with
 | .slice a _ c=>(a=none\/c≠0)/\K (.pointer a) none
 |_=>False
def Eo(P:Program)(ek:Option (Kind×Kind))(o:Op)(r:cR)(K:RK)(h:ad):Prop:=
 match o with
 | .entry it=>match dD r it,ek with
  |some (.pointer (some a)),some (kk,vk)=>a.off=0/\∃(e:MapEntry) (x:kk.den) (y:vk.den),yA h a.block e/\e.key=kk.enc x/\e.val=vk.enc y/\
    K (.tuple #[kk.enc x,vk.enc y]) (some λh'=>yA h' a.block e)
  |_,_=>False
 | .move x| .assign x=>match dD r x with|some v=>K v none|none=>False
 | .load t a=>match dD r a with|some v=>Pg P t v K h|none=>False
 | .nilCheck x=>match dD r x with|some (.pointer p)=>∃a,p=some a/\K (.pointer (some a)) none|_=>False
 | .binOp op t x y _=>match XU y,dD r x,dD r y with
  |true,some v,some u=>(match op with
   | .eql=>Z7 P t false v u K
   | .neq=>Z7 P t true v u K
   |op=>ZX P op t v u K h)
  |false,some (.agg v),some (.agg u)=>abH P op t v.toList u.toList K h
  |false,some v,some u=>ZX P op t v u K h
  |_,_,_=>False
 | .unOp op _ x=>match dD r x with|some v=>ad1 op v K|none=>False
 | .convert s d x=>match dD r x with|some v=>Xs P s d v K h|none=>False
 | .pick c a b=>match dD r c,dD r a,dD r b with|some c,some a,some b=>abc c a b K|_,_,_=>False
 | .extract x i=>match dD r x with
  |some (.tuple vs)=>(match vs.toList[i]? with|some v=>K v none|none=>False)
  |_=>False
 | .fieldAddr t x f=>match dD r x,zN P t f with
  |some (.pointer (some a)),some (u,off)=>bif aS (cF P u) 0 then False else K (.pointer (some (adr a off))) none
  |_,_=>False
 | .field t x f=>match dD r x with|some v=>RO P t v f K|none=>False
 | .indexAddr t x i=>match dD r x,dD r i with|some v,some u=>BW P t v u K|_,_=>False
 | .index t x i=>match dD r x,dD r i with|some v,some u=>RN P t v u K|_,_=>False
 | .slice t x lo hi mx=>match dD r x,LC r lo,LC r hi,LC r mx with
  |some v,some l,some h',some m=>RI P t v l h' m K
  |_,_,_,_=>False
 | .lookup t x k ok=>match dD r x,dD r k with|some v,some u=>Ng P t v u ok K h|_,_=>False
 | .makeInterface t x=>match dD r x with|some v=>bif rP P t then K (.iface t v) none else False|none=>False
 | .typeAssert x _ t ok=>match dD r x with|some v=>bif ok then False else T8 P t v K|none=>False
 | .build t ps=>match rN r ps.toList with
  |some vs=>(match NX P t vs with|some cs=>K (.agg cs.toArray) none|none=>False)
  |none=>False
 | .makeFunc fn first cap=>match pt r first.toList,pt r cap.toList with
  |some vs,some us=>K (.func fn vs.toArray us.toArray) none
  |_,_=>False
 | .call c=>match c.callee,pt r c.args.toList,c.argTypes.toList with
  | .builtin .len,some [v],[t]=>abE P t v K h
  | .builtin .cap,some [v],[t]=>abF P t v K h
  | .builtin .min,some vs,_=>Hl false vs λv=>K v none
  | .builtin .max,some vs,_=>Hl true vs λv=>K v none
  | .builtin .unsafeSliceData,some [v],_=>RJ v K
  |_,_,_=>False
 |_=>False
abbrev WK:=Value->ad->Prop
def aR(h:ad):Addr:=⟨h.size,0,none⟩
def hnew(h:ad)(cs:c4)(t:TypeId):ad:=h.push (.cells cs.toArray t (0,0))
def cH:c4->Bool
 | []=>true
 |v::vs=>(match v with| .agg _=>false| .tuple _=>false|_=>true)&&cH vs
def fS(h:ad)(a:Addr):Nat->c4->ad
 |_,[]=>h
 |i,v::vs=>fS (hset h (adr a i) v) a (i+1) vs
def fR(h:ad)(a:aT)(i:Nat)(vs:c4):ad:=match a with|some a=>fS h a i vs|none=>h
def qV(h:ad)(a:aT)(i:Nat)(vs:c4):Prop:=vs= []\/∃b,a=some b/\∀j,j<vs.length->Wr h (adr b (i+j))
def Q2(P:Program)(t:TypeId)(a v:Value)(K:WK)(h:ad):Prop:=
 match a with
 | .pointer (some a)=>bif aS v.cells.toList.length (cF P t)&&cH v.cells.toList then XE P t
   (match v.cells.toList with
    | [v]=>Wr h a/\K undef (hset h a v)
    |vs=>qV h (some a) 0 vs/\K undef (fS h a 0 vs))
  else False
 |_=>False
def YO(P:Program)(e:TypeId)(base:aT)(sl b a:Nat)(xs:c4)(K:WK)(h:ad):Prop:=
 (sl+a<=b->qV h base (sl*cF P e) xs/\cH xs=true/\K (.slice base (sl+a) b) (fR h base (sl*cF P e) xs))/\
 (b<sl+a->∃old z,SRow h base (sl*cF P e) old/\sF P e=some z/\0<sK P e/\Builtin.nextslicecap (sl+a) b*sK P e<=2^48/\
  ∀nc,sl+a<=nc->K (.slice (some (aR h)) (sl+a) nc) (hnew h (old++xs++dG (nc-(sl+a)) z) e))
def Hb(P:Program)(t:TypeId)(s x:Value)(K:WK)(h:ad):Prop:=
 match yN P t,s,x with
 |some e,.slice b sl sc,.slice a xl _=>XE P e (∃xs,SRow h a (xl*cF P e) xs/\YO P e b sl sc xl xs K h)
 |some e,.slice b sl sc,.string x=>bif aS (cF P e) 1 then YO P e b sl sc x.size (di x) K h else False
 |_,_,_=>False
def HM(P:Program)(t:TypeId)(s x:Value)(K:WK)(h:ad):Prop:=
 match yN P t,s,x with
 |some e,.slice b sl sc,.int _ l=>(match sF P e with
  |some z=>bif aS z.length (cF P e)then(0<=l/\l*sK P e<=2^48/\l<=9223372036854775807/\((sl+l.toNat:Nat):Int)<=9223372036854775807)/\YO P e b sl sc l.toNat (dG l.toNat z) K h else False
  |none=>False)
 |_,_,_=>False
def Q5(P:Program)(t:TypeId)(x:Value)(K:WK)(h:ad):Prop:=
 match yN P t,x with
 |some e,.slice a n _=>(match sF P e with
  |some z=>bif cH z then qV h a 0 (dG n z)/\K (.tuple #[]) (fR h a 0 (dG n z))else False
  |none=>False)
 |_,_=>False
def WT(P:Program)(t:TypeId)(d s:Value)(K:WK)(h:ad):Prop:=
 match yN P t,d,s with
 |some e,.slice b dl _,.slice a sl _=>XE P e (∃xs,SRow h a (dU sl dl*cF P e) xs/\qV h b 0 xs/\cH xs=true/\K (.int .i64 (dU sl dl)) (fR h b 0 xs))
 |some e,.slice b dl _,.string x=>bif aS (cF P e) 1 then qV h b 0 ((di x).take dl)/\K (.int .i64 (dU x.size dl)) (fR h b 0 ((di x).take dl))else False
 |_,_,_=>False
def Nj(k v:Value)(a:Nat):List MapEntry->List MapEntry×Nat
 | []=>([{key:=k,val:=v,born:=a}],a+1)
 |e::es=>if gv k e.key then({e with key:=k,val:=v}::es,a)else let r:=Nj k v a es;(e::r.1,r.2)
def Ja(k:Value):List MapEntry->List MapEntry
 | []=> []
 |e::es=>if gv k e.key then es else e::Ja k es
def xH(c:CK)(h:ad)(r:Nat):Prop:=∃es clock,h[r]? =some (.map es clock)/\keysOf c es.toList
def nM(h:ad)(r:Nat)(k v:Value):ad:=
 match h[r]? with
 |some (.map es clock)=>h.setIfInBounds r (.map (Nj k v clock es.toList).1.toArray (Nj k v clock es.toList).2)
 |_=>h
def rR(h:ad)(r:Nat)(k:Value):ad:=
 match h[r]? with
 |some (.map es clock)=>h.setIfInBounds r (.map (Ja k es.toList).toArray clock)
 |_=>h
def Ha(P:Program)(t:TypeId)(m k v:Value)(K:WK)(h:ad):Prop:=
 match PK P t,m with
 |some (c,_),.map m=>c.dec k λ_=>∃r,m=some r/\xH c h r/\K undef (nM h r k v)
 |_,_=>False
def HK(P:Program)(t:TypeId)(m k:Value)(K:WK)(h:ad):Prop:=
 match PK P t,m with
 |some (c,_),.map m=>c.dec k λ_=>(m=none/\K (.tuple #[]) h)\/(∃r,m=some r/\xH c h r/\K (.tuple #[]) (rR h r k))
 |_,_=>False
def Xk(P:Program):List TypeId->Option (List Kind)
 | []=>some []
 |t::ts=>match II P t,Xk P ts with
  |some k,some ks=>some (k::ks)
  |_,_=>none
def Xl(P:Program)(t:TypeId):Option (List Kind):=
 match P.underlying t with
 |some (.tuple ts)=>Xk P ts.toList
 |_=>Xk P [t]
def aa5(P:Program)(f:Operand)(r:cR)(args:c4)(t:TypeId)(K:WK)(h:ad):Prop:=
 match Xl P t with
 |none=>False
 |some ks=>match f with
  | .func f=>HC P f args ks (λx h'=>K (EL ks (nP ks x)) h') h
  |f=>match dD r f with
   |some fv=>HV P fv args ks (λx h'=>K (EL ks (nP ks x)) h') h
   |none=>False
def WS(b:Value)(K:WK)(h:ad):Prop:=
 match b with
 | .pointer (some a)=>a.off=0/\
  ∃m since seen last,h[a.block]? =some (.mapIter m since seen last)/\
   ((m=none/\K (.tuple #[.bool false]) h)\/
    (∃r es clock,m=some r/\h[r]? =some (.map es clock)/\(seen.isEmpty=true\/es.isEmpty=true\/es.all (λe=>decide (e.born>=last))=false)/\
     ((∀e∈es.toList,e.born<since->seen.contains e.born=true)->K (.tuple #[.bool false]) h)/\
     (∀e∈es.toList,seen.contains e.born=false->K (.tuple #[.bool true,e.key,e.val]) (h.setIfInBounds a.block (.mapIter (some r) since (seen.push e.born) clock)))))
 |_=>False
def Q3(c:Value)(K:WK)(h:ad):Prop:=
 match c with
 | .pointer (some a)=>a.off=0/\∃s pos,h[a.block]? =some (.stringIter s pos)/\
  ((s.size<=pos/\K (.tuple #[.bool false]) h)\/
   (∃b:UInt8,s[pos]? =some b/\b.toNat<128/\K (.tuple #[.bool true,.int .i64 pos,.int .i32 b.toNat]) (h.setIfInBounds a.block (.stringIter s (pos+1)))))
 |_=>False
def Ux(h:ad)(g n:Nat):ad:=
 h.modify g fun
  | .cells c elem (lo,hi)=>.cells c elem (if lo==hi then(0,0+n)else(min lo 0,max hi (0+n)))
  |o=>o
def adB(e:TypeId)(a:aT)(n:Int)(h:ad)(K:c6->dO):Prop:=
 (n=0/\K ⟨#[]⟩ h)\/∃(l:c5) (g:Nat) (cs:Array Value),a=some ⟨g,0,none⟩/\n=l.length/\l≠[]/\l.length<=9223372036854775807/\h[g]? =some (.cells cs e (0,0))/\l.length<=cs.size/\
  (∀(j:Nat) (x:UInt8),l[j]? =some x->cs[j]? =some (.int .u8 x.toNat))/\K ⟨l.toArray⟩ (Ux h g l.length)
def WR(P:Program)(t:TypeId)(p n:Value)(K:WK)(h:ad):Prop:=
 match P.underlying t,p,n with
 |some (.pointer e),.pointer a,.int .i64 n=>bif aS (P.cellsOf e) 1 then adB e a n h (λs h'=>K (.string s) h')else False
 |_,_,_=>False
def Ks(P:Program)(o:Oper)(r:cR)(K:WK)(h:ad):Prop:=
 match o.op with
 | .alloc t=>(match sF P t with|some z=>K (.pointer (some (aR h))) (hnew h z t)|none=>False)
 | .box t x=>(match dD r x with|some v=>K (.pointer (some (aR h))) (hnew h v.cells.toList t)|none=>False)
 | .build t ps=>(match rN r ps.toList with
  |some vs=>(match NX P t vs with|some cs=>K (.agg cs.toArray) h|none=>False)
  |none=>False)
 | .buildSlice t n ps=>(match yN P t,rN r ps.toList with
  |some e,some vs=>(match sF P e with
   |some z=>bif yF (n*cF P e) 16777216&&aS z.length (cF P e)then
     (match F7 (λi=>some (i*cF P e,cF P e)) (dG n z) vs with|some cs=>K (.slice (some (aR h)) n n) (hnew h cs e)|none=>False)
    else False
   |none=>False)
  |_,_=>False)
 | .store t a x=>(match dD r a,dD r x with|some a,some v=>Q2 P t a v K h|_,_=>False)
 | .mapUpdate t m k x=>(match dD r m,dD r k,dD r x with|some m,some k,some v=>Ha P t m k v K h|_,_,_=>False)
 | .insert t m k x=>(match dD r m,dD r k,dD r x with|some m,some k,some v=>Ha P t m k v K h|_,_,_=>False)
 | .makeMap t n=>(match n with
  |none=>K (.map (some h.size)) (h.push (.map #[] 0))
  |some n=>(match dD r n,P.underlying t with|some (.int _ _),some (.map _ _)=>K (.map (some h.size)) (h.push (.map #[] 0))|_,_=>False))
 | .makeSlice t l c=>(match yN P t,dD r l,dD r c with
  |some e,some (.int _ l),some (.int _ c)=>(match sF P e with
   |some z=>bif aS z.length (cF P e)then(0<=l/\l<=c/\c<=9223372036854775807/\sK P e*c<=2^48)/\K (.slice (some (aR h)) l.toNat c.toNat) (hnew h (dG c.toNat z) e)else False
   |none=>False)
  |_,_,_=>False)
 | .convert s d x=>(match P.underlying s,P.underlying d,dD r x with
  |some .string,some (.slice e),some (.string v)=>bif Sx P e then aeo e v h (λc h'=>K (.slice (some (aR h)) v.size c) h')else False
  |_,_,_=>False)
 | .range t x=>(match P.underlying t,dD r x with
  |some (.map _ _),some (.map m)=>∃clock,(m=none/\clock=0\/∃r es,m=some r/\h[r]? =some (.map es clock))/\K (.pointer (some (aR h))) (h.push (.mapIter m clock #[] clock))
  |some .string,some (.string s)=>K (.pointer (some (aR h))) (h.push (.stringIter s 0))
  |_,_=>False)
 | .next it false=>(match dD r it with|some it=>WS it K h|none=>False)
 | .next it true=>(match dD r it with|some it=>Q3 it K h|none=>False)
 | .call c=>(match c.callee,pt r c.args.toList with
  | .builtin .append,some [s,x]=>(match c.argTypes.toList with| [t,u]=>(match P.underlying u with|some (.slice _)=>Hb P t s x K h|some .string=>Hb P t s x K h|some (.int _)=>HM P t s x K h|_=>False)|_=>False)
  | .builtin .clear,some [x]=>(match c.argTypes.toList with| [t]=>Q5 P t x K h|_=>False)
  | .builtin .copy,some [d,s]=>(match c.argTypes.toList with| [t,_]=>WT P t d s K h|_=>False)
  | .builtin .unsafeString,some [p,n]=>(match c.argTypes.toList with| [t,_]=>WR P t p n K h|_=>False)
  | .builtin .delete,some [m,k]=>(match c.argTypes.toList with| [t,_]=>HK P t m k K h|_=>False)
  | .value f,some args=>aa5 P f r args o.type K h
  |_,_=>False)
 |_=>False
def yP(P:Program):Op->Bool
 | .convert s d _=> !abS P s d
 | .alloc _| .box .. | .buildSlice .. | .store .. | .mapUpdate .. | .insert .. | .makeMap .. | .makeSlice .. | .range .. | .next .. =>false
 | .call c=>match c.callee with
  | .builtin .len| .builtin .cap| .builtin .min| .builtin .max| .builtin .unsafeSliceData=>true
  |_=>false
 |_=>true
def Ce(N:Nat)(o:Oper)(v:Value)(r:cR)(K:cR->Prop):Prop:=
 match o.dst with
 |none=>K r
 |some d=>bif AM d N then K ((d,v)::r)else False
def acl(P:Program)(N:Nat)(ek:Option (Kind×Kind))(o:Oper)(r:cR)(K:cR->dO)(h:ad):Prop:=
 bif yP P o.op then Eo P ek o.op r (λv _=>Ce N o v r λa=>K a h) h
 else Ks P o r (λv h'=>Ce N o v r λa=>K a h') h
inductive DV where
 |f|t|u|x
abbrev yb:=List (Nat×DV)
def tB(d:yb)(t:Nat):DV:=
 fV (motive:=λ_=>DV) .x (λa _ b=>bif aS a.1 t then a.2 else b) d
def Dv(d:yb):Operand->DV
 | .tmp t=>tB d t
 | .const (.bool true)=>.t
 | .const (.bool false)=>.f
 |_=>.x
def Ot(d:yb):Op->DV
 | .move x=>Dv d x
 | .assign x=>Dv d x
 | .pick c a b=>match Dv d c with
  | .t=>Dv d a
  | .f=>Dv d b
  |_=>.x
 | .unOp .not _ x=>match Dv d x with
  | .t=>.f
  | .f=>.t
  |_=>.x
 |_=>.x
def tV(d:yb)(o:Oper)(v:DV):yb:=match o.dst with|some t=>(t,v)::d|none=>d
def jL(ops:List Oper)(d:yb)(o:Oper):Option Bool:=
 match o.guard with
 |none=>some true
 |some (j,want)=>match ops[j]? with
  |none=>none
  |some oj=>match oj.dst with
   |none=>none
   |some t=>match tB d t with
    | .t=>some want
    | .f=>some (!want)
    | .u=>some false
    | .x=>none
def IR(ops:List Oper)(o:Oper):Option Nat:=
 match o.guard with
 |none=>none
 |some (j,_)=>match ops[j]? with
  |none=>none
  |some oj=>oj.dst
def Lq(P:Program)(N:Nat)(ek:Option (Kind×Kind))(ops:List Oper)(o:Oper)(d:yb)(r:cR)(h:ad)(K:yb->cR->dO):Prop:=
 match jL ops d o with
 |some true=>acl P N ek o r (K (tV d o (Ot d o.op))) h
 |some false=>Ce N o undef r λa=>K (tV d o .u) a h
 |none=>False
def H2(P:Program)(N:Nat)(ek:Option (Kind×Kind))(ops:List Oper)(l:List Oper):yb->(cR->dO)->cR->ad->Prop:=
 fV (motive:=λ_=>yb->(cR->dO)->cR->dO) (λ_ K r h=>K r h)
  (λo _ c d K r h=>
  match jL ops d o with
  |some true=>acl P N ek o r (λa h'=>c (tV d o (Ot d o.op)) K a h') h
  |some false=>Ce N o undef r λa=>c (tV d o .u) K a h
  |none=>match IR ops o with
   |none=>False
   |some t=>match li r t with
    |some (.bool b)=>fo b
     (Lq P N ek ops o ((t,.t)::d) ((t,.bool true)::r) h λe a h'=>c e K a h')
     (Lq P N ek ops o ((t,.f)::d) ((t,.bool false)::r) h λe a h'=>c e K a h')
    |_=>False) l
inductive DA where
 |done
 |take (i:Nat) (rest:DA)
 |all (l:DA)
 |pick (i:Nat) (rest more:DA)
 |last (i:Nat) (rest:DA)
 |lastT (i:Nat) (rest:DA)
 |split (t:Nat) (yes no:DA)
abbrev sN:=List (Nat×(dO))
def tb(m i:Nat):Bool:=aS (kw (Nat.shiftRight m i) 1) 1
def ie(i:Nat):Nat:=Nat.pow 2 i
inductive DM where
 |mk (am fr lk ds:Nat)
def DM.am:DM->Nat| .mk a _ _ _=>a
def DM.fr:DM->Nat| .mk _ f _ _=>f
def DM.lk:DM->Nat| .mk _ _ l _=>l
def DM.ds:DM->Nat| .mk _ _ _ d=>d
def jM(o:Oper)(i:Nat):Bool:=o.after.toList.any λe=>aS e.on i&&Region.binds .any e
def nR(l:List Edge):Nat:=
 fV (motive:=λ_=>Nat) 0 (λe _ a=>bif Region.binds .any e then dq (ie e.on) a else a) l
def mL(l:List Operand):Nat:=
 fV (motive:=λ_=>Nat) 0 (λo _ a=>match o with| .tmp t=>dq (ie t) a|_=>a) l
def pa(o:Oper):Nat:=match o.dst with|some d=>ie d|none=>0
def pG(ops:List Oper)(o:Oper):Nat:=
 dq (mL o.op.operands.toList) (match o.guard with
  |some (g,_)=>(match ops[g]? with|some og=>pa og|none=>0)
  |none=>0)
def zA(ops:List Oper)(l:List Oper):List DM->Bool:=
 fV (motive:=λ_=>List DM->Bool) (λms=>match ms with| []=>true|_=>false)
  (λo _ a ms=>match ms with
   |m::ms=>aS (nR o.after.toList) m.am&&aS (pG ops o) m.lk&&aS (pa o) m.ds&&a ms
   | []=>false) l
def E8(x y:DM):Bool:=aS (kw x.ds (dq y.lk y.ds)) 0&&aS (kw y.ds x.lk) 0
def L5(i:Nat)(m:DM)(l:List DM):Nat->Bool:=
 fV (motive:=λ_=>Nat->Bool) (λ_=>true)
  (λn _ a j=>(!(tb m.fr j)||aS j i||tb n.am i||E8 m n)&&a (gg j)) l
def Dn(all:List DM)(l:List DM):Nat->Bool:=
 fV (motive:=λ_=>Nat->Bool) (λ_=>true) (λm _ a i=>L5 i m all 0&&a (gg i)) l
def Py:List Oper->Bool
 | []=>true
 |o::os=>(match o.op with| .select .. =>false| .defer _=>false|_=>true)&&Py os
def Hn(ops:List Oper)(ms:List DM):Bool:=zA ops ops ms&&Dn ms ms 0&&Py ops
def p7(o:Oper):sN->sN
 | []=> []
 |(k,S)::l=>bif jM o k then p7 o l else(k,S)::p7 o l
def uA:sN->ad->Prop->Prop
 | [],_,R=>R
 |(_,S)::l,h,R=>S h/\uA l h R
def Oq(m:DM)(ls:Nat):Bool:=aS (kw m.am ls) m.am
def mQ(ls:Nat)(l:List DM):Nat->List Nat:=
 fV (motive:=λ_=>Nat->List Nat) (λ_=> []) (λm _ a j=>bif !(tb ls j)&&Oq m ls then j::a (gg j)else a (gg j)) l
def HT(m:DM)(i ls n:Nat):Bool:= !(tb ls i)&&Oq m ls&&aS (kw (dq ls m.fr) (An (ie n))) (An (ie n))
def yp:List Nat->List Nat->Bool
 | [],[]=>true
 |a::as,b::bs=>aS a b&&yp as bs
 |_,_=>false
def E3:DA->List Nat
 | .pick i _ l=>i::E3 l
 | .last i _=> [i]
 | .lastT i _=> [i]
 |_=> []
def Vj(P:Program)(N:Nat)(ops:List Oper)(i:Nat)(L:sN)(d:yb)(r:cR)(h:ad)(K:sN->yb->cR->dO):Prop:=
 match ops[i]? with
 |none=>False
 |some o=>match jL ops d o with
  |some true=>bif yP P o.op then Eo P none o.op r (λv _=>Ce N o v r λa=>uA (p7 o L) h (K (p7 o L) (tV d o .x) a h)) h else Ks P o r (λv h'=>Ce N o v r λa=>uA (p7 o L) h' (K (p7 o L) (tV d o .x) a h')) h
  |_=>False
def WE(m:Nat)(l:List DM):Nat->Nat:=
 fV (motive:=λ_=>Nat->Nat) (λ_=>m) (λn _ a j=>bif tb m j then dq n.am (a (gg j))else a (gg j)) l
def Dw(ms:List DM)(m:Nat):Nat:=WE (WE (WE (WE m ms 0) ms 0) ms 0) ms 0
def N7(ms:List DM)(i:Nat):Nat:=match ms[i]? with|some m=>m.am|none=>0
def CT(m:Nat):sN->sN
 | []=> []
 |(k,S)::l=>bif tb m k then CT m l else(k,S)::CT m l
def TW(P:Program)(N:Nat)(ops:List Oper)(ms:List DM)(i:Nat)(L:sN)(d:yb)(r:cR)(h:ad)(K:sN->yb->cR->dO):Prop:=
 match ops[i]? with
 |none=>False
 |some o=>match jL ops d o with
  |some true=>bif yP P o.op then False else Ks P o r (λv h'=>Ce N o v r λa=>uA (CT (Dw ms (N7 ms i)) L) h' (K (CT (Dw ms (N7 ms i)) L) (tV d o .x) a h')) h
  |_=>False
def oH(P:Program)(N:Nat)(ops:List Oper)(ms:List DM)(j:DA):Bool->Nat->sN->yb->(cR->dO)->cR->ad->Prop:=
 DA.rec (motive:=λ_=>Bool->Nat->sN->yb->(cR->dO)->cR->dO)
  (λm ls _ _ K r h=>bif !m&&yp (mQ ls ms 0) []then K r h else False)
  (λi _ c m ls L d K r h=>
   match ops[i]?,ms[i]? with
   |some o,some mi=>bif !m&&HT mi i ls ops.length then
     (match jL ops d o with
      |none=>False
      |some false=>Ce N o undef r λa=>c false (dq ls (ie i)) L (tV d o .u) K a h
      |some true=>bif yP P o.op then
       Eo P none o.op r (λv S=>Ce N o v r λa=>match S with
        |none=>c false (dq ls (ie i)) L (tV d o (Ot d o.op)) K a h
        |some S=>c false (dq ls (ie i)) ((i,S)::L) (tV d o (Ot d o.op)) K a h) h
       else False)
    else False
   |_,_=>False)
  (λl c m ls L d K r h=>bif !m&&yp (mQ ls ms 0) (E3 l)then c true ls L d K r h else False)
  (λi _ _ e f m ls L d K r h=>bif m then Vj P N ops i L d r h (λL' g a h'=>e false (dq ls (ie i)) L' g K a h')/\f true ls L d K r h else False)
  (λi _ c m ls L d K r h=>bif m then Vj P N ops i L d r h (λL' g a h'=>c false (dq ls (ie i)) L' g K a h')else False)
  (λi _ c m ls L d K r h=>bif m then TW P N ops ms i L d r h (λL' g a h'=>c false (dq ls (ie i)) L' g K a h')else False)
  (λt _ _ e f m ls L d K r h=>
   bif m then False else match li r t with
   |some (.bool b)=>fo b (e false ls L ((t,.t)::d) K ((t,.bool true)::r) h) (f false ls L ((t,.f)::d) K ((t,.bool false)::r) h)
   |_=>False)
  j
def aef(_:Oper)(i:Nat)(ds lk:Nat)(ops:List Oper)(l:List Oper):Nat->Nat:=
 fV (motive:=λ_=>Nat->Nat) (λ_=>0) (λp _ a j=>bif (aS j i||jM p i||(aS (kw ds (dq (pG ops p) (pa p))) 0&&aS (kw (pa p) lk) 0))then dq (ie j) (a (gg j))else a (gg j)) l
def ad4(ops:List Oper)(l:List Oper):Nat->List DM:=
 fV (motive:=λ_=>Nat->List DM) (λ_=> []) (λo _ a i=>.mk (nR o.after.toList) (aef o i (pa o) (pG ops o) ops ops 0) (pG ops o) (pa o)::a (gg i)) l
def act(P:Program)(w:Option Bool)(o:Oper):Bool:=match w with|some false=>true|some true=>yP P o.op|none=>false
def abW(P:Program)(ops:List Oper)(d:yb)(ls n:Nat)(l:List Oper):List DM->Nat->Option (Nat×Oper):=
 fV (motive:=λ_=>List DM->Nat->Option (Nat×Oper)) (λ_ _=>none)
  (λo _ a ms j=>match ms with
   | []=>none
   |m::ms=>bif HT m j ls n&&act P (jL ops d o) o then some (j,o)else a ms (gg j)) l
def abX(ops:List Oper)(d:yb)(ls:Nat)(l:List Oper):List DM->Nat->Option Nat:=
 fV (motive:=λ_=>List DM->Nat->Option Nat) (λ_ _=>none)
  (λo _ a ms j=>match ms with
   | []=>none
   |m::ms=>match bif !(tb ls j)&&Oq m ls then(match jL ops d o with|none=>IR ops o|some _=>none)else none with
    |some t=>some t
    |none=>a ms (gg j)) l
def acO(ops:List Oper)(k:Nat->yb->DA)(ls:Nat)(d:yb)(l:List Nat):DA:=
 fV (motive:=λ_=>DA) .done (λi a b=>match ops[i]? with
  |none=>.done
  |some o=>match a with
   | []=>.last i (k (dq ls (ie i)) (tV d o .x))
   |_=>.pick i (k (dq ls (ie i)) (tV d o .x)) b) l
def ab8(P:Program)(ops:List Oper)(ms:List DM)(a:Nat):Nat->yb->DA:=
 Nat.rec (motive:=λ_=>Nat->yb->DA) (λ_ _=>.done) (λ_ b ls d=>
  match abW P ops d ls ops.length ops ms 0 with
  |some (i,o)=>.take i (b (dq ls (ie i)) (match jL ops d o with|some false=>tV d o .u|_=>tV d o (Ot d o.op)))
  |none=>match abX ops d ls ops ms 0 with
   |some t=>.split t (b ls ((t,.t)::d)) (b ls ((t,.f)::d))
   |none=>match mQ ls ms 0 with
    | []=>.done
    |l=>.all (acO ops b ls d l)) a
def Ui(ops:List Oper):List DM:=ad4 ops ops 0
inductive Ex where
 |exit (id:Nat)
 |ret
abbrev St:=List (Nat×Kind)
def BN:St->List Kind
 | []=> []
 |(_,k)::l=>k::BN l
def HW(r:cR):St->Option c4
 | []=>some []
 |(i,_)::l=>match li r i,HW r l with
  |some v,some vs=>some (v::vs)
  |_,_=>none
def FH(st:St)(r:cR)(f:vB (BN st)->Prop):Prop:=
 match HW r st with
 |some vs=>GT (BN st) vs f
 |none=>False
def oX:St->c4->cR->cR
 |(i,_)::l,v::vs,r=>(i,v)::oX l vs r
 |_,_,r=>r
def Uu(r:cR)(l:List Nat):Option cR:=
 fV (motive:=λ_=>Option cR) (some []) (λt _ a=>match li r t,a with
  |some v,some l=>some ((t,v)::l)
  |_,_=>none) l
def mJ(t:Nat)(l:List Oper):Bool:=
 fV (motive:=λ_=>Bool) false (λo _ a=>match o.dst with|some d=>bif aS d t then true else a|none=>a) l
def gP(t:Nat)(c:Code):Bool:=
 Code.rec (motive:=λ_=>Bool) false (λ_ ops _=>mJ t ops.toList) (λ_ _ a b=>bif a then true else b) (λ_ _ _ a b=>bif a then true else b)
  (λ_ _ b=>b) (λ_ b=>b) (λ_ _ _ _ _ _=>true) (λ_=>false) (λ_ b=>b) (λ_=>false) (λ_=>false) false (λ_=>false) c
inductive Ann where
 |nil
 |node (a b:Ann)
 |join (st:St) (a b:Ann)
 |loop (st:St) (b:Ann)
 |draw (d:DA)
 |kinds (k v:Kind)
 |reg (keep:List Nat) (inner:Ann)
 |rf (ks:List Kind) (a b:Ann)
def Ann.l:Ann->Ann
 | .node a _=>a
 | .rf _ a _=>a
 |_=>.nil
def Ann.r:Ann->Ann
 | .node _ b=>b
 | .rf _ _ b=>b
 |_=>.nil
def WQ(l:List Oper):Nat:=fV (motive:=λ_=>Nat) 0 (λo _ a=>dq (pa o) a) l
def acQ:Option Nat->Option Nat->Option Nat
 |some a,some b=>some (dq a b)
 |_,_=>none
def A9(c:Code):Option Nat:=
 Code.rec (motive:=λ_=>Option Nat) (some 0) (λ_ ops _=>some (WQ ops.toList)) (λ_ _ a b=>acQ a b) (λ_ _ _ a b=>acQ a b)
  (λ_ _ b=>b) (λ_ b=>b) (λ_ _ _ _ _ _=>none) (λ_=>some 0) (λ_ b=>b) (λ_=>some 0) (λ_=>some 0) (some 0) (λ_=>some 0) c
def zF(m:Nat)(r:cR):cR:=fV (motive:=λ_=>cR) [] (λa _ b=>bif tb m a.1 then b else a::b) r
def EE(P:Program)(N:Nat)(ops:List Oper)(b:Bool)(a:Ann)(Kn:cR->dO)(r:cR)(h:ad):Prop:=
 match b with
 |false=>(match a with
  | .kinds kk vk=>H2 P N (some (kk,vk)) ops ops [] Kn r h
  |_=>H2 P N none ops ops [] Kn r h)
 |true=>bif Hn ops (Ui ops)then oH P N ops (Ui ops) (match a with| .draw da=>da|_=>ab8 P ops (Ui ops) (Nat.add (Nat.add ops.length ops.length) 2) 0 []) false 0 [] [] Kn r h else False
def lP(P:Program)(N:Nat)(c:Code):Ann->(cR->dO)->(Ex->cR->dO)->cR->ad->Prop:=
 Code.rec (motive:=λ_=>Ann->(cR->dO)->(Ex->cR->dO)->cR->dO)
  (λ_ Kn _ r h=>Kn r h)
  (λ_ ops p d Kn _ r h=>match d with
   | .reg keep d=>EE P N ops.toList p d (λf h'=>match Uu f keep with|some r0=>Kn r0 h'|none=>False) r h
   |d=>EE P N ops.toList p d Kn r h)
  (λa _ j g d Kn Kx r h=>match d with
   | .join st aa ab=>(match A9 a with
     |none=>False
     |some m=>Join (T:=vB (BN st)) (λt h'=>g ab Kn Kx (oX st (nP (BN st) t) (zF m r)) h')
      λJ=>j aa (λf h'=>FH st f λt=>J t h') Kx r h)
   |d=>j d.l (λf h'=>g d.r Kn Kx f h') Kx r h)
  (λc _ _ j g d Kn Kx r h=>match dD r c with
   |some (.bool t)=>fo t (j d.l Kn Kx r h) (g d.r Kn Kx r h)
   |_=>False)
  (λid _ o d Kn Kx r h=>o d Kn (λe f h'=>match e with
    | .exit i=>bif aS i id then Kn f h' else Kx (.exit i) f h'
    | .ret=>Kx .ret f h') r h)
  (λb o d _ Kx r h=>match d with
   | .loop st ab=>(match A9 b with
     |none=>False
     |some m=>FH st r λs=>LoopP (T:=vB (BN st)) (λk t h'=>o ab (λf n=>FH st f λq=>k q n) Kx (oX st (nP (BN st) t) (zF m r)) h') s h)
   |_=>False)
  (λ_ _ _ _ _ _ _ _ _ _ _=>False)
  (λid _ _ Kx r h=>Kx (.exit id) r h)
  (λ_ _ _ _ _ _ _=>False)
  (λ_ _ Kn _ r h=>Kn r h)
  (λ_ _ _ _ _ _=>False)
  (λ_ _ Kx r h=>Kx .ret r h)
  (λ_ _ _ _ _ _=>False)
  c
def oZ(P:Program)(r:cR)(h:ad):List ResultVar->(c4->Prop)->Prop
 | [],K=>K []
 | .tmp t::l,K=>(match li r t with|some v=>oZ P r h l λvs=>K (v::vs)|none=>False)
 | .cell a t::l,K=>(match li r a with
  |some v=>Pg P t v (λx _=>oZ P r h l λvs=>K (x::vs)) h
  |none=>False)
def rD:Nat->c4->cR
 |_,[]=> []
 |i,v::vs=>(i,v)::rD (i+1) vs
def H3(P:Program)(fn:Func)(c:Code)(a:Ann)(args:c4)(ks:List Kind)(K:vB ks->dO)(h:ad):Prop:=
 lP P fn.ntmps c a
  (λr h'=>oZ P r h' fn.results.toList λvs=>GT ks vs λt=>K t h')
  (λe r h'=>match e with
   | .ret=>oZ P r h' fn.results.toList λvs=>GT ks vs λt=>K t h'
   | .exit _=>False)
  (rD 0 args) h
def Jc:List Oper->Option (Oper×Oper×Operand×Nat×FuncId×List Operand)
 | [m,o]=>match m.op,m.guard,m.dst,o.op,o.dst,o.guard with
  | .move x,none,some d,.defer c,none,none=>(match c.callee with
   | .value (.func f)=>some (m,o,x,d,f,c.args.toList)
   |_=>none)
  |_,_,_,_,_,_=>none
 |_=>none
inductive Mk where
 |it (n:Nat)
 |call (f:FuncId) (vs:c4)
def HD(P:Program)(f:FuncId)(args:c4)(K:dO)(h:ad):Prop:=
 ∀w:World,w.heap=h->(∀(args:Array Value) (w:World),(callFunc f args).run P w=.ok (.enter f args) w)/\∀n:Nat,CallsDIn {fn:=λ_=>True,depth:=none,alive:=false,round:=none} n P f args.toArray .returning w λe u a=>u=.returning/\Tame w a/\(∃v,e=.returned v)/\K a.heap
def uB(c:Code):Bool:=
 Code.rec (motive:=λ_=>Bool) false (λ_ ops _=>(Jc ops.toList).isSome) (λ_ _ a b=>bif a then true else b) (λ_ _ _ a b=>bif a then true else b)
  (λ_ _ b=>b) (λ_ b=>b) (λ_ _ _ _ _ _=>true) (λ_=>false) (λ_ b=>b) (λ_=>false) (λ_=>false) false (λ_=>false) c
def NL:Option Ex->Option Code
 |none=>none
 |some (.exit i)=>some (.exit i)
 |some .ret=>some .ret
def aeg(N:dO)(X:Nat->dO)(R:dO):Option Ex->ad->Prop
 |none=>N
 |some (.exit i)=>X i
 |some .ret=>R
structure RangeP(P:Program)(fv:Value)(ks:List Kind)(h:ad)(RT:Obj->Obj->vB ks->(Option Ex->dO)->dO)(N:dO)(X:Nat->dO)(R:dO):Prop where
 run:∀lo:LoopState->Option Ex->Obj,(∀s j,∃r,lo s j=.loop r)->
  (∀x h' K,h'[h.size+1]? =some (lo .ready none)->
   RT (lo .ready none) (lo .busy none) x (λj h2=>h2[h.size+1]? =some (lo .busy none)/\K j.isNone (h2.setIfInBounds (h.size+1) (lo (if j.isNone then .ready else .done) j))) h'->
   HV P (.func (.yield (h.size+1)) #[] #[]) (nP ks x) [.c .bool] K h')->
  ∃f first cap,fv=.func (.func f) first cap/\HE P f (first.toList++ [.func (.yield (h.size+1)) #[] #[]]++cap.toList) []
   (λ_ h2=>∃s j,s≠ .busy/\h2[h.size+1]? =some (lo s j)/\aeg N X R j (h2.setIfInBounds (h.size+1) (lo .exhausted j))) ((h.push (.deferred (some []))).push (lo .ready none))
def Zm:List Nat->c4->cR->cR
 |i::l,v::vs,r=>Zm l vs ((i,v)::r)
 |_,_,r=>r
def Rx(P:Program)(N:Nat)(ps:List Nat)(ks:List Kind)(assign body:Code)(c:Ann)(r:cR)(l:Nat)(Oq d:Obj)(x:vB ks)(k:Option Ex->dO)(h:ad):Prop:=
 lP P N assign c.l (λf b=>b[l]? =some Oq/\lP P N body c.r (λ_ a=>k none a) (λe _ a=>k (some e) a) f (b.setIfInBounds l d)) (λ_ _ _=>False) (Zm ps (nP ks x) r) h
def B6(N:Nat):List Nat->Bool
 | []=>true
 |n::l=>AM n N&&B6 N l
def BS(P:Program)(N:Nat)(c:Code):Ann->(List Mk->cR->dO)->(Ex->List Mk->cR->dO)->List Mk->cR->ad->Prop:=
 Code.rec (motive:=λ_=>Ann->(List Mk->cR->dO)->(Ex->List Mk->cR->dO)->List Mk->cR->dO)
  (λj Kn Kx ms r h=>lP P N .skip j (Kn ms) (λe=>Kx e ms) r h)
  (λid ops p j Kn Kx ms r h=>match Jc ops.toList with
   |none=>lP P N (.region id ops p) j (Kn ms) (λe=>Kx e ms) r h
   |some (_,_,x,d,f,as)=>bif p then False else match dD r x with
    |some v=>bif AM d N then(match pt ((d,v)::r) as with|some vs=>Kn (.call f vs::ms) ((d,v)::r) h|none=>False)else False
    |none=>False)
  (λa b n m j Kn Kx ms r h=>bif (bif uB a then true else uB b)then n j.l (λms o h'=>m j.r Kn Kx ms o h') Kx ms r h
   else lP P N (.seq a b) j (Kn ms) (λe=>Kx e ms) r h)
  (λc a b n m j Kn Kx ms r h=>bif (bif uB a then true else uB b)then
    (match dD r c with
     |some (.bool t)=>fo t (n j.l Kn Kx ms r h) (m j.r Kn Kx ms r h)
     |_=>False)
   else lP P N (.cond c a b) j (Kn ms) (λe=>Kx e ms) r h)
  (λid b s j Kn Kx ms r h=>bif uB b then s j Kn (λe ms o h'=>match e with
    | .exit i=>bif aS i id then Kn ms o h' else Kx (.exit i) ms o h'
    | .ret=>Kx .ret ms o h') ms r h
   else lP P N (.block id b) j (Kn ms) (λe=>Kx e ms) r h)
  (λb _ j Kn Kx ms r h=>lP P N (.loop b) j (Kn ms) (λe=>Kx e ms) r h)
  (λg ps assign body _ _ j Kn Kx ms r h=>match j with
   | .rf ks aa ab=>bif B6 N ps.toList&&aS ps.toList.length ks.length then
    (match dD r g with
     |some fv=>RangeP P fv ks h (λOq q x k h'=>Rx P N ps.toList ks assign body (.node aa ab) r (h.size+1) Oq q x k h')
      (λh'=>Kn (.it h.size::ms) r h') (λi h'=>Kx (.exit i) (.it h.size::ms) r h') (λh'=>Kx .ret (.it h.size::ms) r h')
     |none=>False)else False
   |_=>False)
  (λid j Kn Kx ms r h=>lP P N (.exit id) j (Kn ms) (λe=>Kx e ms) r h)
  (λ_ _ _ _ _ _ _ _=>False)
  (λl j Kn Kx ms r h=>lP P N (.label l) j (Kn ms) (λe=>Kx e ms) r h)
  (λ_ _ _ _ _ _ _=>False)
  (λj Kn Kx ms r h=>lP P N .ret j (Kn ms) (λe=>Kx e ms) r h)
  (λ_ _ _ _ _ _ _=>False)
  c
def O3(P:Program):List Mk->(dO)->ad->Prop
 | [],K,h=>K h
 | .it D::ms,K,h=>h[D]? =some (.deferred (some []))/\O3 P ms K (h.setIfInBounds D (.deferred none))
 | .call f vs::ms,K,h=>HD P f vs (λh'=>O3 P ms K h') h
def Ry(P:Program)(fn:Func)(c:Code)(a:Ann)(args:c4)(ks:List Kind)(K:vB ks->dO)(h:ad):Prop:=
 BS P fn.ntmps c a
  (λms r h'=>O3 P ms (λh'=>oZ P r h' fn.results.toList λvs=>GT ks vs λt=>K t h') h')
  (λe ms r h'=>match e with
   | .ret=>O3 P ms (λh'=>oZ P r h' fn.results.toList λvs=>GT ks vs λt=>K t h') h'
   | .exit _=>False)
  [] (rD 0 args) h
end
section
variable {a:Addr}{c:CK}{v x y z:Value}{k t u e ty:TypeId}{N f off len cap n m:Nat}{r:cR}{o:Operand}{d:TypeDesc}{i:TypeInfo}{s:Sem Value}{w:World}{vs cs A B:c4}{h:ad}{K:RK}{b neg ok:Bool}{l:List (aT×aT)}{lo hi:Option Value}{ats:Array TypeId}
theorem Ju(a:Addr):adr a 0=a:=rfl
theorem DH(a:Addr)(n:Nat):adr a (n+1)=⟨a.block,a.off+(n+1),none⟩:=rfl
theorem wP(a:Addr)(n:Nat):adr a n=a.add n:=by
 cases n with
 |zero=>simp[Ju,Addr.add]
 |succ n=>simp[DH,Addr.add]
theorem pd(a:Addr)(m n:Nat):adr (adr a m) n=adr a (m+n):=by
 cases n with
 |zero=>rfl
 |succ n=>cases m with
  |zero=>simp[Ju]
  |succ m=>rw[DH,DH,show m+1+(n+1)=(m+1+n)+1 from rfl,DH];simp;omega
theorem Tame.refl(w:World):Tame w w:=⟨rfl,rfl,rfl⟩
theorem Tame.trans{a b c:World}(h:Tame a b)(k:Tame b c):Tame a c:=⟨k.os.trans h.os,k.tape.trans h.tape,k.output.trans h.output⟩
theorem Dj{a b:IntKind}(h:NB a b=true):a=b:=by cases a<;>cases b<;>first|rfl|cases h
theorem CK.dec_sound{f:c.den->Prop}(h:c.dec v f):∃x,v=c.enc x/\f x:=by
 cases c<;>cases v<;>try simp only[CK.dec]at h
 case int.int k k' n=>
  cases hk:NB k' k with
  |false=>rw[hk]at h;exact h.elim
  |true=>rw[hk]at h;have:=Dj hk;subst this;exact⟨n,rfl,h⟩
 case adr.pointer p=>cases p with
  |none=>exact h.elim
  |some a=>exact⟨a,rfl,h⟩
 all_goals first|exact h.elim|exact⟨_,rfl,h⟩
theorem F9:∀{cs:List CK} {vs:c4} {f:Y2 cs->Prop},UP cs vs f->∃t,vs=YC cs t/\f t
 | [],[],f,h=>⟨(),rfl,h⟩
 | [],_::_,f,h=>h.elim
 | [c],[v],f,h=>by obtain⟨x,rfl,b⟩:=CK.dec_sound h;exact⟨x,rfl,b⟩
 | [c],[],f,h=>h.elim
 | [c],_::_::_,f,h=>h.elim
 |c::d::cs,[],f,h=>h.elim
 |c::d::cs,[_],f,h=>h.elim
 |c::d::cs,v::u::vs,f,h=>by
  have e:c.dec v λx=>UP (d::cs) (u::vs) λt=>f (x,t):=h
  obtain⟨x,hx,a⟩:=CK.dec_sound e;obtain⟨t,ht,g⟩:=F9 (cs:=d::cs) (vs:=u::vs) a;exact⟨(x,t),by rw[ht,hx];rfl,g⟩
theorem Kind.dec_sound{k:Kind}{f:k.den->Prop}(h:k.dec v f):∃x,v=k.enc x/\f x:=by
 cases k with
 |c k=>exact CK.dec_sound h
 |agg cs=>
  cases v<;>simp only[Kind.dec]at h
  case agg vs=>
   obtain⟨t,ht,a⟩:=F9 h;exact⟨t,by simp only[Kind.enc,<-ht],a⟩
theorem uD:∀{ks:List Kind} {vs:c4} {f:vB ks->Prop},GT ks vs f->∃t,vs=nP ks t/\f t
 | [],[],f,h=>⟨(),rfl,h⟩
 | [],_::_,f,h=>h.elim
 | [c],[v],f,h=>by obtain⟨x,rfl,b⟩:=Kind.dec_sound h;exact⟨x,rfl,b⟩
 | [c],[],f,h=>h.elim
 | [c],_::_::_,f,h=>h.elim
 |c::d::cs,[],f,h=>h.elim
 |c::d::cs,[_],f,h=>h.elim
 |c::d::cs,v::u::vs,f,h=>by
  have e:c.dec v λx=>GT (d::cs) (u::vs) λt=>f (x,t):=h
  obtain⟨x,hx,a⟩:=Kind.dec_sound e;obtain⟨t,ht,g⟩:=uD (ks:=d::cs) (vs:=u::vs) a;exact⟨(x,t),by rw[ht,hx];rfl,g⟩
theorem vH:∀(ks:List Kind) (t:vB ks),(nP ks t).length=ks.length
 | [],_=>rfl
 | [_],_=>rfl
 |_::l::ks,(_,t)=>by simp only[nP,av,vH (l::ks) t]
structure Agree(N:Nat)(r:cR)(a:Act):Prop where
 size:a.tmps.size=N
 look:∀t v,li r t=some v->a.tmps.getD t undef=v
theorem jf(k:Nat)(v:Value)(r:cR):li ((k,v)::r) k=some v:=by rw[H7,show aS k k=true from Nat.beq_refl k];rfl
theorem ij{k t:Nat}(v:Value)(r:cR)(h:k≠t):li ((k,v)::r) t=li r t:=by
 rw[H7];have:aS k t=false:=Bool.eq_false_iff.2 λe=>h (bD e)
 rw[this];rfl
theorem Agree.put{a:Act}(h:Agree N r a)(d:Nat)(v:Value)(hd:d<N):Agree N ((d,v)::r) (a.put (some d) v):=by
 refine⟨by simp[Act.put,h.size],λt u b=>?_⟩
 by_cases e:d=t
 .subst e
  rw[jf]at b;cases b;simp[Act.put,h.size,hd]
 .rw[ij v r e]at b
  have:=h.look t u b;simpa[Act.put,Array.getElem?_setIfInBounds_ne e]using this
theorem Agree.known{a:Act}(h:Agree N r a){t:Nat}(hv:li r t=some v):Agree N ((t,v)::r) a:=by
 refine⟨h.size,λs u b=>?_⟩
 by_cases e:t=s
 .subst e;rw[jf]at b;cases b;exact h.look t v hv
 .rw[ij v r e]at b;exact h.look s u b
theorem lj{a:Act}(h:Agree N r a)(hv:dD r o=some v):a.eval o=v:=by
 cases o with
 |tmp t=>exact h.look t v hv
 |const c=>simp[dD]at hv;subst hv;rfl
 |global g=>simp[dD]at hv;subst hv;rfl
 |func f=>simp[dD]at hv;subst hv;rfl
theorem nI{N:Nat}{r:cR}{a:Act}(h:Agree N r a):∀{os:List Operand} {vs:c4},pt r os=some vs->os.map a.eval=vs
 | [],vs,hv=>by simp[pt]at hv;subst hv;rfl
 |o::os,vs,hv=>by
  simp only[pt]at hv;cases ho:dD r o with
  |none=>simp[ho]at hv
  |some v=>cases hos:pt r os with
   |none=>simp[ho,hos]at hv
   |some us=>simp[ho,hos]at hv;subst hv;simp[lj h ho,nI h hos]
theorem aH{P:Program}(h:P.underlying t=some d)(w:World):(underlying t).run P w=.ok d w:=by
 simp only[underlying,program,bind,Sem.bind,oa,h,pure]
theorem dh{P:Program}(h:P.info? t=some i)(w:World):(typeInfo t).run P w=.ok i w:=by
 simp only[typeInfo,program,bind,Sem.bind,oa,h,pure]
theorem jn{P:Program}{a:World}(h:s.run P w=.ok v a):(do pure (Next.value (<-s)):Sem Next).run P w=.ok (.value v) a:=by
 simp[h]
theorem Xi{P:Program}{s:Sem Unit}{a:World}(h:s.run P w=.ok () a):(do s;pure Next.skip:Sem Next).run P w=.ok .skip a:=by
 simp[h]
theorem CS{P:Program}(h:aZ w.heap a=some v):(load a).run P w=.ok v w:=by
 have h':w.cell? a=some v:=h;simp[h']
theorem DC{i:Nat}:vJ (v::vs) i a h↔aZ h (adr a i)=some v/\vJ vs (i+1) a h:=by
 cases vs with
 |nil=>simp[vJ]
 |cons u us=>rfl
theorem vD{P:Program}{w:World}{a:Addr}:∀(vs:c4) (i:Nat) (acc:Array Value),vJ vs i a w.heap->
  (loadCellsFrom a i vs.length acc).run P w=.ok (acc++vs.toArray) w
 | [],i,acc,_=>by simp[loadCellsFrom]
 |v::vs,i,acc,h=>by
  obtain⟨b,c⟩:=DC.1 h;rw[wP]at b;have:=vD (P:=P) (w:=w) (a:=a) vs (i+1) (acc.push v) c;simp only[av,loadCellsFrom,bA,CS b,aI,this];simp
theorem Kz{P:Program}(h:vJ vs 0 a w.heap):(loadCells a vs.length).run P w=.ok vs.toArray w:=by
 have:=vD (P:=P) (w:=w) (a:=a) vs 0 #[] h;simpa[loadCells]using this
theorem Bg:∀(cs:List CK) (i:Nat) (a:Addr) (h:ad) (k:c4->Prop),NM cs i a h k->∃vs,vs.length=cs.length/\vJ vs i a h/\k vs
 | [],i,a,h,k,b=>⟨[],rfl,trivial,b⟩
 |c::cs,i,a,h,k,b=>by
  obtain⟨x,hx,b⟩:=b;obtain⟨vs,d,hc,b⟩:=Bg cs (i+1) a h _ b;exact⟨c.enc x::vs,by simp[d],DC.2 ⟨hx,hc⟩,b⟩
theorem Dy:∀{vs:c4} {cs:List CK},Jj vs=some cs->cs.length=vs.length
 | [],cs,h=>by simp[Jj]at h;subst h;rfl
 |v::vs,cs,h=>by
  simp only[Jj]at h;cases h1:ab3 v with
  |none=>simp[h1]at h
  |some c=>cases h2:Jj vs with
   |none=>simp[h1,h2]at h
   |some ds=>simp[h1,h2]at h;subst h;simp[Dy h2]
def Y1(P:Program)(t:TypeId)(i:TypeInfo):Kind->Prop
 | .c _=>yy P t=false
 | .agg cs=>yy P t=true/\i.size=cs.length
theorem Sn{P:Program}{k:Kind}(h:Us P t=some k):∃i,P.info? t=some i/\Y1 P t i k:=by
 unfold Us A7 at h;cases hi:P.info? t with
 |none=>simp[hi]at h
 |some i=>
  refine⟨i,rfl,?_⟩;cases hz:i.zero with
  |none=>simp[hi,hz]at h
  |some z=>
   rw[hi]at h;simp only[hz]at h;cases z;case agg vs=>
    simp only at h;cases hb:(yy P t&&aS vs.toList.length (cF P t))with
    |false=>rw[hb]at h;simp at h
    |true=>
     rw[hb]at h;simp only[cond_true]at h;simp only[Bool.and_eq_true]at hb;have a:=bD hb.2;cases hd:Jj vs.toList with
     |none=>rw[hd]at h;simp at h
     |some ds=>
      rw[hd]at h;simp only[bO.injEq]at h;subst h;exact⟨hb.1,by rw[Dy hd,a];simp[cF,hi]⟩
   all_goals
    simp only at h;cases ha:yy P t
    .rw[ha]at h
     simp only[cond_false]at h;split at h
     .simp only[bO.injEq]at h;subst h;exact ha
     .simp at h
    .rw[ha]at h;simp at h
theorem Sq{P:Program}{k:Kind}(h:II P t=some k):(∀w,(isAgg t).run P w=.ok (yy P t) w)/\Us P t=some k:=by
 unfold II at h;cases hu:P.underlying t with
 |none=>simp[hu]at h
 |some d=>
  simp only[hu]at h;refine⟨λw=>?_,h⟩
  simp only[isAgg,bA,aH hu,aI];unfold yy;rw[hu];cases d<;>rfl
theorem FO{P:Program}(d:Pg P t v K h):
  ∃u S,K u (some S)/\S h/\∀w:World,S w.heap->(Instr.loadAt t v).run P w=.ok u w:=by
 unfold Pg at d;cases v with
 |pointer p=>
  cases p with
  |none=>exact d.elim
  |some a=>
   simp only at d;cases hk:II P t with
   |none=>simp[hk]at d
   |some k=>
    obtain⟨b,g⟩:=Sq hk;obtain⟨i,hi,hc⟩:=Sn g;rw[hk]at d;cases k with
    |c c=>
     obtain⟨x,hx,j⟩:=d;refine⟨_,_,j,hx,λw m=>?_⟩
     have hc:yy P t=false:=hc;simp only[Instr.loadAt,nD,loadVar,bA,cr,aI,b,hc];simp[CS m]
    |agg cs=>
     obtain⟨vs,e,f,j⟩:=Bg cs 0 a h _ d;obtain⟨o,n⟩:yy P t=true/\i.size=cs.length:=hc;refine⟨_,_,j,f,λw m=>?_⟩
     have g:(sizeOf t).run P w=.ok vs.length w:=by simp[sizeOf,dh hi,n,e]
     simp only[Instr.loadAt,nD,loadVar,bA,cr,aI,b,o];simp[g,Kz m]
 |_=>exact d.elim
def Zk(S:Option (dO))(h:ad):Prop:=match S with|none=>True|some f=>f h
def Yv(P:Program)(s:Sem Value)(K:RK)(h:ad):Prop:=∃v S,K v S/\Zk S h/\∀w:World,Zk S w.heap->s.run P w=.ok v w
theorem Yv.of_pure{P:Program}(b:K v none)(a:∀w:World,s.run P w=.ok v w):Yv P s K h:=
 ⟨v,none,b,trivial,λw _=>a w⟩
variable {P:Program}
theorem zL(h:zN P t f=some (u,off)):
  ∃fs g,P.underlying t=some (.struct fs)/\fs[f]? =some g/\g.type=u/\g.offset=off:=by
 unfold zN at h;split at h
 .rename_i fs hu
  split at h
  .rename_i g hg
   simp only[bO.injEq,pf.injEq]at h;exact⟨fs,g,hu,by simpa using hg,h.1,h.2⟩
  .cases h
 .cases h
theorem BO(h:aS (cF P t) 0=false)(w:World):(sizeOf t).run P w=.ok (cF P t) w:=by
 unfold cF at h⊢;cases hi:P.info? t with
 |none=>rw[hi]at h;cases h
 |some i=>simp[sizeOf,dh hi]
theorem GS(j:zN P t f=some (u,off))
  (b:bif aS (cF P u) 0 then False else K (.pointer (some (adr a off))) none):Yv P (Instr.fieldAt t (.pointer (some a)) f) K h:=by
 obtain⟨k,g,i,d,rfl,rfl⟩:=zL j;cases hz:aS (cF P g.type) 0 with
 |true=>rw[hz]at b;exact b.elim
 |false=>
  rw[hz]at b;refine .of_pure b λw=>?_
  have c:cF P g.type≠0:=λe=>by rw[e]at hz;cases hz
  simp only[Instr.fieldAt,bA,aH i,aI,d,nD,cr,fieldPlace,BO hz];simp[c,wP]
theorem yx(_:P.info? t=some i)(a:∃d,P.underlying t=some d)(w:World):(isAgg t).run P w=.ok (yy P t) w:=by
 obtain⟨d,hd⟩:=a;simp only[isAgg,bA,aH hd,aI];unfold yy;rw[hd];cases d<;>rfl
theorem CR{c:BinOp}{k k':IntKind}{a b:Int}(f:c=.shl\/c=.shr)(hv:Ru c k a b K):Yv P (Op.shift c k a k' b) K h:=by
 rcases f with rfl|rfl
 .obtain⟨d,e⟩:=hv
  refine .of_pure e λw=>?_
  simp[Op.shift,Int.not_lt.2 d]
 .obtain⟨d,e⟩:=hv
  refine .of_pure e λw=>?_
  simp[Op.shift,Int.not_lt.2 d]
theorem SC{c:BinOp}{k:IntKind}{a b:Int}(hv:abT c k a b K)(f:c≠ .shl/\c≠ .shr):Yv P (binOp c 0 (.int k a) (.int k b)) K h:=by
 cases c<;>simp only[abT]at hv
 case quo=>obtain⟨d,e⟩:=hv;exact .of_pure e λw=>by simp[binOp,Op.intDiv,d]
 case rem=>obtain⟨d,e⟩:=hv;exact .of_pure e λw=>by simp[binOp,Op.intDiv,d]
 all_goals exact .of_pure hv λw=>by simp[binOp,Op.intArith,Op.intBits,Op.intCmp]
theorem Jp(c:BinOp)(t:TypeId)(k k':IntKind)(a b:Int):binOp c t (.int k a) (.int k' b)=binOp c 0 (.int k a) (.int k' b):=by
 cases c<;>rfl
theorem Rl{c:BinOp}{a b:c6}(hv:abz c a b K):Yv P (binOp c t (.string a) (.string b)) K h:=by
 cases c<;>simp only[abz]at hv
 case add=>
  obtain⟨e,d⟩:=hv;refine .of_pure d λw=>?_
  have:¬(((a.size+b.size:Nat):Int)>IntKind.i64.max):=by
   have:IntKind.i64.max=9223372036854775807:=a8
   omega
  simp only[binOp,Op.stringOp,if_neg this,cr]
 all_goals exact .of_pure hv λw=>by simp[binOp,Op.stringOp]
theorem ke(h:∀d,(gB (d+1) t x y).run P w=.ok b w):(Op.equal t x y).run P w=.ok b w:=h 9999
theorem IX(b:P.underlying t=some (.pointer e))(a:aT)(w:World):(Op.equal t (.pointer a) (.pointer none)).run P w=.ok a.isNone w:=by
 refine ke λd=>?_
 simp only[gB,bA,aH b,aI];cases a<;>rfl
theorem SR(e:BinOp)(t:TypeId)(x y:Operand)(a b:Value)(h:∀c d,a=.agg c->b=.agg d->False)(hi:a=.nilIface->b=.nilIface->False)(w:World):
  (eqGuard e t x y a b).run P w=.ok () w:=by
 cases e;case eql=>cases a<;>cases b<;>first|rfl|exact(hi rfl rfl).elim|exact(h _ _ rfl rfl).elim
 case neq=>cases a<;>cases b<;>first|rfl|exact(hi rfl rfl).elim|exact(h _ _ rfl rfl).elim
 all_goals rfl
theorem We(t:TypeId)(x y:Value)(hx:∀k a,x≠ .int k a)(d:∀s,x≠ .string s)(c:∀k a,x≠ .float k a)(hc:∀k a b,x≠ .complex k a b):binOp .eql t x y=(do pure (.bool (<-Op.equal t x y))):=by
 cases x<;>first|rfl|exact absurd rfl (hx _ _)|exact absurd rfl (d _)|exact absurd rfl (c _ _)|exact absurd rfl (hc _ _ _)
theorem Wd(t:TypeId)(x y:Value)(hx:∀k a,x≠ .int k a)(d:∀s,x≠ .string s)(c:∀k a,x≠ .float k a)(hc:∀k a b,x≠ .complex k a b):binOp .neq t x y=(do pure (.bool (!(<-Op.equal t x y)))):=by
 cases x<;>first|rfl|exact absurd rfl (hx _ _)|exact absurd rfl (d _)|exact absurd rfl (c _ _)|exact absurd rfl (hc _ _ _)
theorem kf(e:(Op.equal t x y).run P w=.ok b w)
  (hx:∀k a,x≠ .int k a)(d:∀s,x≠ .string s)(c:∀k a,x≠ .float k a)(hc:∀k a b,x≠ .complex k a b):
  (binOp (bif neg then .neq else .eql) t x y).run P w=.ok (.bool (bif neg then !b else b)) w:=by
 cases neg
 .simp only[cond_false,We t x y hx d c hc,bA,e,aI,cr]
 .simp only[cond_true,Wd t x y hx d c hc,bA,e,aI,cr]
theorem SB(h:adh x=true):(∃f a b,x=.func f a b)\/x=.nilFunc:=by
 cases x<;>first|exact .inr rfl|exact .inl ⟨_,_,_,rfl⟩|cases h
theorem Sy(h:adg x=true):(∃t v,x=.iface t v)\/x=.nilIface:=by
 cases x<;>first|exact .inr rfl|exact .inl ⟨_,_,rfl⟩|cases h
theorem Nx{y:Operand}(h:XU y=true):∃c,y=.const c:=by
 cases y<;>first|exact⟨_,rfl⟩|cases h
theorem P3(e:BinOp)(t:TypeId)(x:Operand)(c a b:Value)(h:∀c d,a=.agg c->b=.agg d->False)(w:World):
  (eqGuard e t x (.const c) a b).run P w=.ok () w:=by
 cases e;case eql=>cases a<;>cases b<;>first|rfl|exact(h _ _ rfl rfl).elim|(cases x<;>rfl)
 case neq=>cases a<;>cases b<;>first|rfl|exact(h _ _ rfl rfl).elim|(cases x<;>rfl)
 all_goals rfl
theorem Ir(hv:Z7 P t neg x y K):
  (∀c d,x=.agg c->y=.agg d->False)/\Yv P (binOp (bif neg then .neq else .eql) t x y) K h:=by
 unfold Z7 at hv;split at hv
 .rename_i e a hu
  refine⟨nofun,.of_pure hv λw=>?_⟩
  exact kf (IX hu a w) nofun nofun nofun nofun
 .rename_i k e a hu
  refine⟨nofun,.of_pure hv λw=>?_⟩
  refine kf ?_ nofun nofun nofun nofun;refine ke λd=>?_
  simp only[gB,bA,aH hu,aI];cases a<;>rfl
 .rename_i e a _ _ _ _ hu
  refine⟨nofun,.of_pure hv λw=>?_⟩
  refine kf ?_ nofun nofun nofun nofun;refine ke λd=>?_
  simp only[gB,bA,aH hu,aI];cases a<;>rfl
 .rename_i hu
  obtain⟨hx,g⟩:=hv;rcases SB hx with⟨f,a,b,e⟩|e<;>subst e
  .refine⟨nofun,.of_pure g λw=>kf (ke λd=>?_) nofun nofun nofun nofun⟩
   simp only[gB,bA,aH hu,aI];rfl
  .refine⟨nofun,.of_pure g λw=>kf (ke λd=>?_) nofun nofun nofun nofun⟩
   simp only[gB,bA,aH hu,aI];rfl
 .rename_i hu
  obtain⟨hx,g⟩:=hv;rcases Sy hx with⟨f,a,e⟩|e<;>subst e
  .refine⟨nofun,.of_pure g λw=>kf (ke λd=>?_) nofun nofun nofun nofun⟩
   simp only[gB,bA,aH hu,aI];rfl
  .refine⟨nofun,.of_pure g λw=>kf (ke λd=>?_) nofun nofun nofun nofun⟩
   simp only[gB,bA,aH hu,aI];rfl
 .exact hv.elim
theorem zo{b:Addr}(d:fQ w.heap a)(hb:fQ w.heap b):(sameAddr a b).run P w=.ok (a==b) w:=by
 obtain⟨g,p,d,v⟩:=d;obtain⟨f,k,hb,sb⟩:=hb;by_cases c:a.block=b.block
 .simp[sameAddr,c]
 .have i:(a==b)=false:=by
   rw[beq_eq_false_iff_ne];intro e;exact c (by rw[e])
  have j:w.shape? a.block=some (p,g.size):=by simp[World.shape?,d]
  have s:w.shape? b.block=some (k,f.size):=by simp[World.shape?,hb]
  have f1:∀n,w.frozen? ({block:=a.block,off:=n}:Addr)=false:=λn=>by simp[World.frozen?,d]
  have u:∀n,w.frozen? ({block:=b.block,off:=n}:Addr)=false:=λn=>by simp[World.frozen?,hb]
  have q:w.frozen? a=false:=by simp[World.frozen?,d]
  have t:w.frozen? b=false:=by simp[World.frozen?,hb]
  obtain⟨m,hm⟩:∃m,g.size=m+1:=⟨g.size-1,a4⟩
  obtain⟨n,o⟩:∃n,f.size=n+1:=⟨f.size-1,a4⟩
  simp[sameAddr,c,noView,viewAt,mayBeOne,stringish,j,s,f1,u,q,t,hm,o,i]
theorem L8(hv:adK P t neg x y K h):
  (∀c d,x=.agg c->y=.agg d->False)/\(x=.nilIface->y=.nilIface->False)/\Yv P (binOp (bif neg then .neq else .eql) t x y) K h:=by
 unfold adK at hv;split at hv
 .rename_i a b hu
  refine⟨nofun,nofun,.of_pure hv λw=>?_⟩
  refine kf ?_ nofun nofun nofun nofun;refine ke λd=>?_
  simp only[gB,bA,aH hu,aI,cr]
 .rename_i e a b hu
  obtain⟨i,k,n⟩:=hv;refine⟨nofun,nofun,_,_,n,k,λw o=>?_⟩
  refine kf ?_ nofun nofun nofun nofun;have f:aS (cF P e) 0=false:=by
   cases hb:aS (cF P e) 0 with
   |false=>rfl
   |true=>rw[hb]at i;exact i.elim
  have g:cF P e≠0:=λe=>by rw[e]at f;cases f
  refine ke λd=>?_
  simp only[gB,bA,aH hu,aI];cases a with
  |none=>cases b<;>rfl
  |some a=>cases b with
   |none=>rfl
   |some b=>
    obtain⟨m,j⟩:=o a b rfl rfl;simp only[bA,BO f,aI,ne_eq,g,not_false_eq_true,if_true,zo m j];rfl
 .exact hv.elim
theorem BX{e:BinOp}(hv:ZX P e t x y K h):
  (∀c d,x=.agg c->y=.agg d->False)/\(x=.nilIface->y=.nilIface->False)/\Yv P (binOp e t x y) K h:=by
 unfold ZX at hv;split at hv
 .rename_i k a k' b
  refine⟨nofun,nofun,?_⟩;rw[Jp];split at hv
  .exact CR (k':=k') (.inl rfl) hv
  .exact CR (k':=k') (.inr rfl) hv
  .rename_i h1 h2
   cases hk:NB k' k with
   |false=>rw[hk]at hv;exact hv.elim
   |true=>rw[hk]at hv;have:=Dj hk;subst this;exact SC hv ⟨h1,h2⟩
 .exact⟨nofun,nofun,Rl hv⟩
 .split at hv
  .exact L8 (neg:=false) hv
  .exact L8 (neg:=true) hv
  .exact hv.elim
theorem Pu(a:((P.underlying u).isSome&&(P.info? u).isSome)=true)(c:yy P u=true):
  (part u cs.toArray off).run P w=.ok (.agg ((cs.drop off).take (cF P u)).toArray) w:=by
 simp only[bC,ik]at a;obtain⟨a,i,hi⟩:=a;have b:(sizeOf u).run P w=.ok (cF P u) w:=by simp[sizeOf,dh hi,cF,hi]
 simp only[part,bA,yx hi a,aI,c,if_true,b,cr];congr 2
 apply df;simp[gS]
theorem Lz(a:((P.underlying u).isSome&&(P.info? u).isSome)=true)(c:yy P u=false)(hc:cs[off]? =some v):
  (part u cs.toArray off).run P w=.ok v w:=by
 simp only[bC,ik]at a;obtain⟨a,i,hi⟩:=a;have b:cs.toArray[off]? =some v:=by simpa using hc
 simp only[part,bA,yx hi a,aI,c,cY,if_false,b,cr]
theorem BZ{h:ad}:∀{l m:List (aT×aT)},uv h (l++m)->uv h l/\uv h m
 | [],_,h=>⟨trivial,h⟩
 |(_,_)::_,_,h=>⟨⟨h.1,(BZ h.2).1⟩,(BZ h.2).2⟩
theorem P2(f:Yi P t x y=some (b,l))(j:uv w.heap l)(d:Nat):
  (gB (d+1) t x y).run P w=.ok b w:=by
 unfold Yi at f;split at f
 .rename_i k0 k a k' c hu
  cases hk:NB k' k with
  |false=>rw[hk]at f;cases f
  |true=>
   rw[hk]at f;have:=Dj hk;subst this;cases f;exact run_equalIn_int w d t _ _ _ _ hu
 .rename_i a c hu
  cases f;exact run_equalIn_bool w d t _ _ hu
 .rename_i a c hu
  cases f;exact run_equalIn_string w d t _ _ hu
 .rename_i e a c hu
  cases hz:aS (cF P e) 0 with
  |true=>rw[hz]at f;cases f
  |false=>
   rw[hz]at f;cases f;have g:cF P e≠0:=λe=>by rw[e]at hz;cases hz
   simp only[gB,bA,aH hu,aI];cases a with
   |none=>cases c<;>rfl
   |some a=>cases c with
    |none=>rfl
    |some c=>
     obtain⟨m,i⟩:=j.1 a c rfl rfl;simp only[bA,BO hz,aI,ne_eq,g,not_false_eq_true,if_true,zo m i];rfl
 .cases f
theorem IY{rec:TypeId->c4->c4->Option (Bool×List (aT×aT))}{d:Nat}{xs ys:c4}{w:World}
  (e:∀t us vs b l,rec t us vs=some (b,l)->uv w.heap l->(gB (d+1) t (.agg us.toArray) (.agg vs.toArray)).run P w=.ok b w):
  ∀(fs:List Field) (b:Bool) (l:List (aT×aT)),aaz P rec xs ys fs=some (b,l)->uv w.heap l->(Op.eqFields (d+1) xs.toArray ys.toArray fs).run P w=.ok b w
 | [],b,l,he,_=>by cases he;rfl
 |f::fs,b,l,he,hp=>by
  unfold aaz at he;split at he
  .cases he
  .rename_i hn
   cases hi:((P.underlying f.type).isSome&&(P.info? f.type).isSome)with
   |false=>rw[hi]at he;cases he
   |true=>
    rw[hi]at he;simp only[cond_true]at he;split at he
    .rename_i b1 l1 c m e1 e2
     cases he;obtain⟨g,k⟩:=BZ hp;have a:=IY e fs c m e2 k;have j:∃u v,(part f.type xs.toArray f.offset).run P w=.ok u w/\(part f.type ys.toArray f.offset).run P w=.ok v w/\(gB (d+1) f.type u v).run P w=.ok b1 w:=by
      cases ha:yy P f.type with
      |true=>
       rw[ha]at e1;exact⟨_,_,Pu hi ha,Pu hi ha,e _ _ _ _ _ e1 g⟩
      |false=>
       rw[ha]at e1;simp only[cond_false]at e1;split at e1
       .rename_i x y hx hy
        exact⟨x,y,Lz hi ha hx,Lz hi ha hy,P2 e1 g d⟩
       .cases e1
     obtain⟨u,v,n,o,i⟩:=j;simp only[Op.eqFields,ne_eq,hn,not_false_eq_true,if_true,bA,n,o,i,aI];cases b1
     .rfl
     .exact a
    .cases he
theorem Cd{w:World}:∀(m:Nat) (t:TypeId) (xs ys:c4) (b:Bool) (l:List (aT×aT)),Yj P m t xs ys=some (b,l)->uv w.heap l->
  ∀d,(gB (d+m+1) t (.agg xs.toArray) (.agg ys.toArray)).run P w=.ok b w
 |0,_,_,_,_,_,he,_,_=>by cases he
 |m+1,t,xs,ys,b,l,he,hp,d=>by
  unfold Yj at he;split at he
  .rename_i fs hu
   cases hs:P.stoodInHeld t with
   |true=>rw[hs]at he;cases he
   |false=>
    rw[hs]at he;have a:P.fieldsOf t=fs:=by simp[Program.fieldsOf,hu]
    rw[run_equalIn_struct w _ t _ _ (by rw[a];exact hu) hs,a];exact IY (d:=d+m) (λt c vs b l f e=>Cd m t c vs b l f e d) fs.toList b l he hp
  .cases he
theorem L9(a:aeh neg b K h l):∃S,K (.bool (bif neg then !b else b)) S/\Zk S h/\∀h',Zk S h'->uv h' l:=by
 cases l with
 |nil=>exact⟨none,a,trivial,λ_ _=>trivial⟩
 |cons p l=>exact⟨_,a.2,a.1,λ_ h=>h⟩
theorem RR{c:BinOp}{xs ys:Array Value}{x y:Operand}(a:abH P c t xs.toList ys.toList K h):
  ∃v S,K v S/\Zk S h/\∀w:World,Zk S w.heap->(do eqGuard c t x y (.agg xs) (.agg ys);binOp c t (.agg xs) (.agg ys):Sem Value).run P w=.ok v w:=by
 unfold abH at a;cases hg:P.eqGuardType P.depth t with
 |true=>rw[hg]at a;exact a.elim
 |false=>
  rw[hg]at a;simp only[cond_false]at a;split at a
  .split at a
   .rename_i b l he
    obtain⟨S,f,e,d⟩:=L9 a;refine⟨_,S,f,e,λw g=>?_⟩
    have:=Cd 10 t _ _ b l he (d _ g) 9989;simp only[Array.toArray_toList]at this;simp only[bA,run_eqGuard_agg w _ t x y _ _ hg,aI,run_eql_struct,this];rfl
   .exact a.elim
  .split at a
   .rename_i b l he
    obtain⟨S,f,e,d⟩:=L9 a;refine⟨_,S,f,e,λw g=>?_⟩
    have:=Cd 10 t _ _ b l he (d _ g) 9989;simp only[Array.toArray_toList]at this;simp only[bA,run_eqGuard_agg w _ t x y _ _ hg,aI,run_neq_struct,this];rfl
   .exact a.elim
  .exact a.elim
theorem Vq{a:UnOp}(hv:ad1 a x K):Yv P (Op.unary a x) K h:=by
 unfold ad1 at hv;split at hv
 .exact .of_pure hv λw=>rfl
 .exact .of_pure hv λw=>rfl
 .exact .of_pure hv λw=>rfl
 .exact hv.elim
theorem Jm:∀(l:c5) (s:c6),(l.map λb=>((b.toNat:Nat):Int)).foldl (λr n=>r.push (gf n.toNat)) s=⟨s.data++l.toArray⟩
 | [],s=>a6
 |b::l,s=>by
  simp only[cn,List.foldl_cons];rw[Jm l];congr 1
  have:gf ((b.toNat:Nat):Int).toNat=b:=a6
  rw[this];apply df;simp[ByteArray.push]
theorem IJ(h:Sx P e=true):P.underlying e=some (.int .u8):=by
 unfold Sx at h;split at h
 .assumption
 .cases h
theorem O8(b:Row w.heap a vs):(loadCells a vs.length).run P w=.ok vs.toArray w:=by
 have:=run_firstCells_some (P:=P) w 1 vs.length a 0 0 vs a6 λj v hv=>by rw[<-wP];exact b j v hv
 simpa[fh]using this
theorem Pj{g f:TypeId}(hv:Xs P g f x K h):Yv P (convert g f x) K h:=by
 unfold Xs at hv;split at hv
 .rename_i k k' k'' n h1 h2
  exact .of_pure hv λw=>by simp only[convert,bA,aH h1,aH h2,aI];rfl
 .rename_i s h1 h2
  exact .of_pure hv λw=>by simp only[convert,bA,aH h1,aH h2,aI];rfl
 .rename_i e a n c h1 h2
  cases hu:Sx P e with
  |false=>rw[hu]at hv;exact hv.elim
  |true=>
   rw[hu]at hv;obtain⟨s,u,y⟩:=hv;refine⟨_,_,y,u,λw m=>?_⟩
   rw[run_convert_bytes_string w g f e a n c h1 (IJ hu) h2];obtain⟨o,m⟩:=m;rcases m with p|⟨b,rfl,q⟩
   .have j:s=ByteArray.empty:=by
     have:s.data.toList= []:=by simpa[di]using p
     cases s with
     |mk d=>simp at this;subst this;rfl
    cases a with
    |none=>rw[j];rfl
    |some b=>
     have t:n=0:=by rw[<-o,p];rfl
     subst t;have:=O8 (P:=P) (w:=w) (a:=b) (vs:= []) λi v hv=>by simp at hv
     rw[run_bytesToString w b 0 c [] (by simpa using this),j];rfl
   .have:=O8 (P:=P) q
    rw[o]at this;rw[run_bytesToString w b n c (s.data.toList.map λb=>((b.toNat:Nat):Int)) (by rw[this,jc];rfl),Jm]
    cases s;simp[ByteArray.empty,ByteArray.emptyWithCapacity];try rfl
 .exact hv.elim
theorem RZ{cs:Array Value}(b:∃d,P.underlying u=some d)(hi:∃i,P.info? u=some i)
  (hv:bif yy P u then K (.agg ((cs.toList.drop off).take (cF P u)).toArray) none else(match cs.toList[off]? with|some v=>K v none|none=>False)):Yv P (part u cs off) K h:=by
 obtain⟨i,hi⟩:=hi;cases ha:yy P u with
 |true=>
  rw[ha]at hv;refine .of_pure hv λw=>?_
  have c:(sizeOf u).run P w=.ok (cF P u) w:=by simp[sizeOf,dh hi,cF,hi]
  simp only[part,bA,yx hi b,aI,ha,if_true,c,cr];congr 2
  apply df;simp[gS]
 |false=>
  rw[ha]at hv;simp only[cond_false]at hv;cases hc:cs.toList[off]? with
  |none=>rw[hc]at hv;exact hv.elim
  |some v=>
   rw[hc]at hv;refine .of_pure hv λw=>?_
   have a:cs[off]? =some v:=by simpa using hc
   simp only[part,bA,yx hi b,aI,ha,cY,if_false,a,cr]
def y6(P:Program)(v:Option Value)(d y n:Nat):Prop:=
 match v with
 |some x=>∀c w,(Instr.sliceBound x y c).run P w=.ok n w
 |none=>n=d
theorem nQ{v:Option Value}{d y:Nat}{K:dx}(hv:YI v d y K):∃n,K n/\y6 P v d y n:=by
 unfold YI at hv;split at hv
 .exact⟨d,hv,rfl⟩
 .rename_i k i
  obtain⟨⟨b,a⟩,e⟩:=hv;refine⟨i.toNat,e,λc w=>?_⟩
  simp[Instr.sliceBound,asIntOf,b,a]
 .exact hv.elim
theorem qL{c:Bool}{l:Nat}(b:y6 P hi len cap n)(a:y6 P lo 0 n l)(w:World):
  (gG c len cap lo hi none).run P w=.ok (l,n,cap) w:=by
 cases hi with
 |none=>
  cases lo with
  |none=>simp only[y6]at b a;subst b;subst a;simp[gG]
  |some lo=>simp only[y6]at b a;subst b;simp[gG,a]
 |some hi=>
  cases lo with
  |none=>simp only[y6]at b a;subst a;simp[gG,b]
  |some lo=>simp only[y6]at b a;simp[gG,b,a]
theorem ED{c:Bool}{l:Nat}{hi d:Value}(hm:y6 P (some d) 0 cap m)(b:y6 P (some hi) 0 m n)(a:y6 P lo 0 n l)(w:World):
  (gG c len cap lo (some hi) (some d)).run P w=.ok (l,n,m) w:=by
 cases lo with
 |none=>simp only[y6]at hm b a;subst a;simp[gG,hm,b]
 |some lo=>simp only[y6]at hm b a;simp[gG,hm,b,a]
theorem BL(a:aT)(l m size:Nat):(if m=l then a else a.map (·.add (l*size)))=bj a l m size:=by
 unfold bj;split
 .rfl
 .congr 1;funext x;rw[wP]
theorem qN{K:Prop}(h:XE P t K):K/\∀w,(sizeOf t).run P w=.ok (cF P t) w:=by
 unfold XE at h;cases hi:P.info? t with
 |none=>rw[hi]at h;exact h.elim
 |some i=>rw[hi]at h;exact⟨h,λw=>by simp[sizeOf,dh hi,cF,hi]⟩
theorem Ni(hv:RO P t x f K):Yv P (Instr.field t x f) K h:=by
 unfold RO at hv;split at hv
 .rename_i u off cs hf
  obtain⟨j,g,a,e,rfl,rfl⟩:=zL hf;cases hb:((P.underlying g.type).isSome&&(P.info? g.type).isSome)with
  |false=>rw[hb]at hv;exact hv.elim
  |true=>
   rw[hb]at hv;simp only[bC,ik]at hb;obtain⟨v,S,d,b,c⟩:=RZ (cs:=cs) (off:=g.offset) (h:=h) hb.1 hb.2 hv;refine⟨v,S,d,b,λw i=>?_⟩
   have:=c w i;simp only[Instr.field,bA,aH a,aI,e,asAgg,cr,this]
 .exact hv.elim
theorem EP{i:Value}(hv:BW P t x i K):Yv P (Instr.indexAt t x i) K h:=by
 unfold BW at hv;split at hv
 .rename_i n e a k i hu
  obtain⟨⟨⟨f,g⟩,d⟩,c⟩:=qN hv;refine .of_pure d λw=>?_
  simp[Instr.indexAt,asIntOf,aH hu,nD,f,g,c,wP]
 .rename_i e b len cap k i hu
  obtain⟨⟨⟨f,g⟩,a,rfl,d⟩,c⟩:=qN hv;refine .of_pure d λw=>?_
  simp[Instr.indexAt,asIntOf,aH hu,f,g,c,wP]
 .exact hv.elim
theorem Nf(h:RJ v K):∃u,K u none/\∀w,(Builtin.unsafeSliceData_ ats ty #[v]).run P w=.ok u w:=by
 unfold RJ at h;split at h
 .rename_i a n c
  obtain⟨d,b⟩:=h;cases a with
  |none=>exact⟨_,b,λw=>Lib.run_unsafeSliceData_nil ..⟩
  |some a=>exact⟨_,b,λw=>Lib.run_unsafeSliceData_row _ _ _ _ _ _ (d.resolve_left nofun)⟩
 .exact h.elim
theorem Nh{i:Value}(hv:RN P t x i K):Yv P (Instr.index t x i) K h:=by
 unfold RN at hv;split at hv
 .rename_i s k i hu
  obtain⟨b,a,hb,c⟩:=hv;refine .of_pure c λw=>?_
  simp[Instr.index,asIntOf,aH hu,a,hb]
 .exact hv.elim
theorem Nd{d:Option Value}(hv:RI P t x lo hi d K):Yv P (rH t x lo hi d) K h:=by
 unfold RI at hv;split at hv
 .rename_i s hu
  cases d with
  |some _=>exact hv.elim
  |none=>
   obtain⟨n,hv,b⟩:=nQ (P:=P) hv;obtain⟨l,hv,c⟩:=nQ (P:=P) hv;refine .of_pure hv λw=>?_
   simp[rH,Instr.slice,aH hu,qL b c]
 .rename_i e a len cap hu
  obtain⟨hv,f⟩:=qN hv;cases d with
  |none=>
   obtain⟨n,hv,b⟩:=nQ (P:=P) hv;obtain⟨l,hv,c⟩:=nQ (P:=P) hv;refine .of_pure hv λw=>?_
   simp[rH,Instr.slice,aH hu,qL b c,f,BL]
  |some m=>
   cases hi with
   |none=>exact hv.elim
   |some hi=>
    obtain⟨i,hv,hm⟩:=nQ (P:=P) hv;obtain⟨n,hv,b⟩:=nQ (P:=P) hv;obtain⟨l,hv,c⟩:=nQ (P:=P) hv;refine .of_pure hv λw=>?_
    simp[rH,Instr.slice,aH hu,ED hm b c,f,BL]
 .rename_i n e a hu
  obtain⟨hv,f⟩:=qN hv;cases d with
  |some _=>exact hv.elim
  |none=>
   obtain⟨m,hv,b⟩:=nQ (P:=P) hv;obtain⟨l,hv,c⟩:=nQ (P:=P) hv;refine .of_pure hv λw=>?_
   have g:(some (if n=l then a else a.add (l*cF P e)))=bj (some a) l n (cF P e):=by
    rw[<-BL];split<;>rfl
   simp[rH,aH hu,nD,qL b c,f,g]
 .exact hv.elim
def qd(d:TypeDesc)(c:CK):Prop:=(∃i,d=.int i/\c=.int i)\/(d=.string/\c=.str)\/(d=.bool/\c=.bool)
theorem zE(h:PK P t=some (c,e)):∃k d,P.underlying t=some (.map k e)/\P.underlying k=some d/\qd d c:=by
 unfold PK at h;split at h
 .rename_i k e' hu
  split at h
  .rename_i i hk
   simp only[bO.injEq,pf.injEq]at h;obtain⟨rfl,rfl⟩:=h;exact⟨k,_,hu,hk,.inl ⟨i,rfl,rfl⟩⟩
  .rename_i hk
   simp only[bO.injEq,pf.injEq]at h;obtain⟨rfl,rfl⟩:=h;exact⟨k,_,hu,hk,.inr (.inl ⟨rfl,rfl⟩)⟩
  .rename_i hk
   simp only[bO.injEq,pf.injEq]at h;obtain⟨rfl,rfl⟩:=h;exact⟨k,_,hu,hk,.inr (.inr ⟨rfl,rfl⟩)⟩
  .cases h
 .cases h
theorem FJ(hd:qd d c)(x y:c.den):w6 d (c.enc x) (c.enc y)=some (gv (c.enc x) (c.enc y)):=by
 rcases hd with⟨i,rfl,rfl⟩|⟨rfl,rfl⟩|⟨rfl,rfl⟩
 .simp[w6,CK.enc,gv]
 .simp[w6,CK.enc,gv]
 .simp[w6,CK.enc,gv]
theorem F6{d:TypeDesc}{c:CK}(hd:qd d c)(x:c.den):∀(es:List MapEntry) (i:Nat),keysOf c es->
  ∃r,oW d (c.enc x) es i=some r/\r.map (·.2)=IV (c.enc x) es
 | [],i,_=>⟨none,rfl,rfl⟩
 |e::es,i,h=>by
  obtain⟨y,f⟩:=h e a6;have a:=FJ hd x y;rw[<-f]at a;simp only[oW,IV];cases hb:gv (c.enc x) e.key with
  |true=>rw[a,hb];exact⟨some (i,e.val),rfl,rfl⟩
  |false=>rw[a,hb];exact F6 hd x es (i+1) λg b=>h g (by simp[b])
theorem Qd{a:Bool}(hd:qd d c)(b:P.underlying k=some d)(v:Value)(n:Nat)(w:World):(Instr.checkKey a (n+1) k v).run P w=.ok () w:=by
 unfold Instr.checkKey;simp only[bA,aH b,aI];rcases hd with⟨i,rfl,rfl⟩|⟨rfl,rfl⟩|⟨rfl,rfl⟩<;>rfl
theorem yr(hd:qd d c)(b:P.underlying k=some d)(x:c.den){es:List MapEntry}(h:keysOf c es)(w:World):
  ∃r,(Instr.findKey k (c.enc x) es).run P w=.ok r w/\oW d (c.enc x) es 0=some r/\r.map (·.2)=IV (c.enc x) es:=by
 obtain⟨r,a,hm⟩:=F6 hd x es 0 h;refine⟨r,?_,a,hm⟩;simp only[Instr.findKey,bA,aH b,aI,a,cr]
theorem mP{r:Nat}{es:Array MapEntry}{a:Nat}(h:w.heap[r]? =some (.map es a)):(getObj r).run P w=.ok (.map es a) w:=by
 simp only[getObj,oa,h]
theorem oK{a:Bool}(hd:qd d c)(b:P.underlying k=some d)(v:Value)(w:World):(Instr.checkKey a 10000 k v).run P w=.ok () w:=
 Qd hd b v 9999 w
theorem Sh(o:P.underlying t=some (.map k e))(f:P.underlying k=some d)(hd:qd d c){m:Option Nat}{x:c.den}
  (p:(zeroValue e).run P w=.ok z w)(hm:nh c z w.heap m (c.enc x) v b):
  (yI t (.map m) (c.enc x) ok).run P w=.ok (bif ok then .tuple #[v,.bool b]else v) w:=by
 cases m with
 |none=>
  obtain⟨rfl,rfl⟩:=hm;simp only[yI,bA,aH o,aI,cr,oK hd f];obtain⟨r,j,i,a⟩:=yr (P:=P) hd f x (es:= []) (λ_ h=>by cases h) w
  simp only[oW,bO.injEq]at i;subst i;simp[j,p]
 |some r=>
  obtain⟨es,g,hb,n,hv⟩:=hm;simp only[yI,bA,aH o,aI,mP hb,cr,oK hd f];obtain⟨r,j,i,a⟩:=yr (P:=P) hd f x n w;simp only[j,aI];cases r with
  |none=>
   simp only[Option.map_none]at a;rw[<-a]at hv;obtain⟨rfl,rfl⟩:=hv;simp[p]
  |some r=>
   simp only[jZ]at a;rw[<-a]at hv;obtain⟨rfl,rfl⟩:=hv;cases ok<;>rfl
theorem fi(h:A7 P e=some z)(w:World):(zeroValue e).run P w=.ok z w:=by
 unfold A7 at h;cases hi:P.info? e with
 |none=>rw[hi]at h;cases h
 |some i=>rw[hi]at h;simp only at h;simp[zeroValue,dh hi,h]
theorem KC{k:Value}(hv:Ng P t x k ok K h):Yv P (yI t x k ok) K h:=by
 unfold Ng at hv;split at hv
 .rename_i c e m hc
  obtain⟨n,d,a,g,hd⟩:=zE hc;obtain⟨j,rfl,hv⟩:=CK.dec_sound hv;split at hv
  .rename_i ek z hek hz
   obtain⟨y,b,hm,f⟩:=hv;exact⟨_,_,f,hm,λw i=>Sh a g hd (fi hz w) i⟩
  .exact hv.elim
 .exact hv.elim
theorem FL{b s q:Nat}{a:Array Value}{c t:Bool}(h:w.heap[b]? =some (.chan cap a c s q t)):(getObj b).run P w=.ok (.chan cap a c s q t) w:=by
 simp only[getObj,oa,h]
theorem RM(a:ats[0]? =some t) (hv:abE P t x K h):Yv P (lK ats ty #[x]) K h:=by
 unfold abE at hv;split at hv
 .rename_i s hu
  exact .of_pure hv λw=>by simp[lK,a,aH hu,goInt]
 .rename_i n e _ hu
  exact .of_pure hv λw=>by simp[lK,a,aH hu,goInt]
 .rename_i e b n c hu
  exact .of_pure hv λw=>by simp[lK,a,aH hu,goInt]
 .rename_i k e m hu
  obtain⟨n,hm,g⟩:=hv;refine⟨_,_,g,hm,λw d=>?_⟩
  cases m with
  |none=>
   have:n=0:=d;subst this;simp[lK,a,aH hu,goInt]
  |some r=>
   obtain⟨es,f,hb,rfl⟩:=d;simp[lK,a,aH hu,goInt,mP hb]
 .rename_i k e m hu
  obtain⟨n,hm,g⟩:=hv;refine⟨_,_,g,hm,λw d=>?_⟩
  cases m with
  |none=>
   have:n=0:=d;subst this;simp[lK,a,aH hu,goInt]
  |some r=>
   obtain⟨cap,i,j,s,q,hb,rfl⟩:=d;simp[lK,a,aH hu,goInt,FL hb]
 .exact hv.elim
theorem RQ(a:ats[0]? =some t) (hv:abF P t x K h):Yv P (yJ ats ty #[x]) K h:=by
 unfold abF at hv;split at hv
 .rename_i e b n c hu
  exact .of_pure hv λw=>by simp[yJ,a,aH hu,goInt]
 .rename_i k e m hu
  obtain⟨n,hm,g⟩:=hv;refine⟨_,_,g,hm,λw d=>?_⟩
  cases m with
  |none=>
   have:n=0:=d;subst this;simp[yJ,a,aH hu,goInt]
  |some r=>
   obtain⟨cap,f,i,s,q,hb,rfl⟩:=d;simp[yJ,a,aH hu,goInt,FL hb]
 .exact hv.elim
theorem Db{c:Bool}{k:IntKind}:∀{vs:c4} {a:Int} {f:Value->Prop},Ns c k a vs f->∃v,f v/\∀w,(vs.foldlM (bif c then Builtin.max2 else Builtin.min2) (Value.int k a):Sem Value).run P w=.ok v w
 | [],a,f,h=>⟨_,h,λw=>a6⟩
 | .int k' b::vs,a,f,h=>by
  simp only[Ns]at h;cases hk:NB k' k with
  |false=>rw[hk]at h;exact h.elim
  |true=>
   rw[hk]at h;have:=Dj hk;subst this;obtain⟨v,e,d⟩:=Db h;refine⟨v,e,λw=>?_⟩
   rw[<-d w];cases c<;>simp[List.foldlM_cons,Builtin.max2,Builtin.min2]
theorem Bf{a:Bool}{f:Value->Prop}(h:Hl a vs f):∃v,f v/\∀w,(bif a then Builtin.max_ ats ty vs.toArray else Builtin.min_ ats ty vs.toArray).run P w=.ok v w:=by
 unfold Hl at h;split at h
 .obtain⟨v,c,b⟩:=Db (P:=P) h
  refine⟨v,c,λw=>?_⟩
  have:=b w;cases a<;>simpa[Builtin.max_,Builtin.min_]using this
 .exact h.elim
theorem VZ{e:MapEntry}(i:a.off=0)(h:yA w.heap a.block e):(Instr.entry (.pointer (some a))).run P w=.ok (.tuple #[e.key,e.val]) w:=by
 obtain⟨m,c,d,last,f,es,hi,hb,hm,j⟩:=h;obtain⟨b,off,g⟩:=a;simp only at i hi;subst i;have k:(getObj b).run P w=.ok (.mapIter (some m) c d last) w:=by simp only[getObj,oa,hi]
 simp[Instr.entry,k,hb,mP hm,j]
def K5:DV->Value->Prop
 | .t,v=>v=.bool true
 | .f,v=>v=.bool false
 | .u,v=>v=undef
 | .x,_=>True
def DecOk(d:yb)(r:cR):Prop:=∀t,tB d t=.x\/∃v,li r t=some v/\K5 (tB d t) v
theorem DecOk.at{d:yb}{r:cR}(h:DecOk d r){t:Nat}{v:Value}(hv:li r t=some v):K5 (tB d t) v:=by
 rcases h t with e|⟨u,a,b⟩
 .rw[e];trivial
 .rw[hv]at a;cases a;exact b
theorem xx{d:yb}(hd:DecOk d r)(h:dD r o=some v):K5 (Dv d o) v:=by
 cases o with
 |tmp t=>exact hd.at h
 |const c=>
  simp[dD]at h;subst h;cases c with
  |bool b=>cases b<;>exact rfl
  |_=>trivial
 |global g=>trivial
 |func f=>trivial
theorem FV(h:rP P t=true):∃d,P.underlying t=some d/\∀m,d≠ .interface m:=by
 unfold rP at h;split at h
 .cases h
 .rename_i d hd;exact⟨_,hd,λm e=>by subst e;simp_all⟩
 .cases h
theorem De(h:rP P t=true)(w:World):(Instr.makeInterface t v).run P w=.ok (.iface t v) w:=by
 obtain⟨d,hd,a⟩:=FV h;simp only[Instr.makeInterface,bA,aH hd,aI];cases d<;>first|exact absurd rfl (a _)|rfl
theorem HP(h:rP P t=true)(w:World):(Instr.typeAssert (.iface t v) u t false).run P w=.ok v w:=by
 obtain⟨d,hd,a⟩:=FV h;simp only[Instr.typeAssert,bA,aH hd,aI];cases d<;>first|exact absurd rfl (a _)|(simp[cr])
theorem lf{z:c4}(h:sF P t=some z):∃v,A7 P t=some v/\v.cells.toList=z:=by
 unfold sF at h;cases hz:A7 P t with
 |none=>rw[hz]at h;cases h
 |some v=>rw[hz]at h;simp only[bO.injEq]at h;exact⟨v,rfl,h⟩
theorem tT(h:A7 P t=some v):∃i,P.info? t=some i/\i.zero=some v:=by
 unfold A7 at h;cases hi:P.info? t with
 |none=>rw[hi]at h;cases h
 |some i=>rw[hi]at h;exact⟨i,rfl,h⟩
theorem Yo(h:A.length=m):(A++x::B).take (m+1)=A++ [x]:=by
 subst h;rw[List.take_append,bd a4,show A.length+1-A.length=1 by omega];rfl
theorem Yr(h:A.length=m):(A++x::B).drop (m+1+n)=B.drop n:=by
 subst h;rw[List.drop_append,List.drop_eq_nil_of_le a4,show A.length+1+n-A.length=n+1 by omega];rfl
theorem PX(off:Nat):∀(xs:c4) (k:Nat) (arr:Array Value),off+k+xs.length<=arr.size->
  (xs.zipIdx k).foldl (λcs (c,j)=>cs.setIfInBounds (off+j) c) arr=(Pn arr.toList (off+k) xs).toArray
 | [],k,arr,_=>by simp[Pn]
 |x::xs,k,arr,h=>by
  simp only[av]at h;simp only[List.zipIdx_cons,List.foldl_cons];rw[PX off xs (k+1) _ a9];have hm:off+k<arr.toList.length:=by simp;omega
  have b:arr.toList.set (off+k) x=arr.toList.take (off+k)++x::arr.toList.drop (off+k+1):=by
   rw[List.set_eq_take_append_cons_drop,if_pos hm]
  have a:(arr.toList.take (off+k)).length=off+k:=by simp;omega
  congr 1
  unfold Pn;rw[Array.toList_setIfInBounds,b,<-oV,Yo a,Yr a];simp only[List.append_assoc,cN,List.nil_append,av,List.drop_drop];rw[show off+k+1+xs.length=off+k+(xs.length+1) by omega]
theorem vG{a:Nat->Option (Nat×Nat)}:∀(parts:List (Nat×Value)) (cs cs':c4),F7 a cs parts=some cs'->Instr.fill a cs.toArray parts=some cs'.toArray
 | [],cs,cs',h=>by simp only[F7,bO.injEq]at h;subst h;rfl
 |(i,v)::rest,cs,cs',h=>by
  simp only[F7]at h;cases hp:a i with
  |none=>rw[hp]at h;cases h
  |some os=>
   obtain⟨off,size⟩:=os;rw[hp]at h;simp only at h;cases hb:(aS v.cells.toList.length size&&yF (off+v.cells.toList.length) cs.length)with
   |false=>rw[hb]at h;cases h
   |true=>
    rw[hb]at h;simp only[bC]at hb;have e:=bD hb.1;have c:=gY hb.2;have g:=vG rest _ _ h;have b:v.cells.size=size:=by simpa using e
    have f:off+v.cells.size<=cs.length:=by simpa using c
    have d:Array.foldl (λcs x=>cs.setIfInBounds (off+x.2) x.1) cs.toArray v.cells.zipIdx=(Pn cs off v.cells.toList).toArray:=by
     have:=PX off v.cells.toList 0 cs.toArray (by simpa using f);simp only[dP]at this;rw[<-this,<-Array.foldl_toList];congr 1
     simp[Array.toList_zipIdx]
    simp only[Instr.fill,hp];rw[if_neg (by simp[b];omega)];simp only[d];exact g
theorem p8{N:Nat}{r:cR}{a:Act}(h:Agree N r a):∀{ps:List (Nat×Operand)} {vs:List (Nat×Value)},rN r ps=some vs->ps.map (λp=>(p.1,a.eval p.2))=vs
 | [],vs,hv=>by simp[rN]at hv;subst hv;rfl
 |(i,o)::ps,vs,hv=>by
  simp only[rN]at hv;cases ho:dD r o with
  |none=>simp[ho]at hv
  |some v=>cases hos:rN r ps with
   |none=>simp[ho,hos]at hv
   |some us=>simp[ho,hos]at hv;subst hv;simp[lj h ho,p8 h hos]
theorem rU(h:AF P t=true)(w:World):(sizeOf t).run P w=.ok (cF P t) w:=by
 unfold AF at h;cases hi:P.info? t with
 |none=>rw[hi]at h;cases h
 |some i=>simp[sizeOf,dh hi,cF,hi]
theorem Ie(w:World):∀l:List Field,DF P l=true->(l.mapM λf:Field=>((do pure (f.offset,<-sizeOf f.type)):Sem (Nat×Nat))).run P w=.ok (l.map λf:Field=>(f.offset,cF P f.type)) w
 | [],_=>rfl
 |f::l,h=>by
  simp only[DF]at h;cases hf:AF P f.type with
  |false=>rw[hf]at h;cases h
  |true=>
   rw[hf]at h;rw[List.mapM_cons];simp only[bA,rU hf,aI,cr,Ie w l h,cn]
theorem DD{ps:Array (Nat×Value)}(hb:NX P t ps.toList=some cs)(w:World):
  (Instr.build t ps).run P w=.ok (.agg cs.toArray) w:=by
 unfold NX at hb;split at hb
 .rename_i fs z hu b
  obtain⟨v,b,hv⟩:=lf b;cases ha:DF P fs.toList with
  |false=>rw[ha]at hb;cases hb
  |true=>
   rw[ha]at hb;have g:(fs.mapM λf:Field=>((do pure (f.offset,<-sizeOf f.type)):Sem (Nat×Nat))).run P w=.ok (fs.map λf:Field=>(f.offset,cF P f.type)) w:=by
    rw[Array.mapM_eq_mapM_toList];simp only[Sem.run_map,Ie w fs.toList ha,aI];congr 1
    apply df;simp
   have d:=vG _ _ _ hb;have a:(λi:Nat=>(fs.map λf:Field=>(f.offset,cF P f.type))[i]?)=RY P fs.toList:=by
    funext i;unfold RY;rw[Array.getElem?_map,bJ];cases fs[i]?<;>rfl
   have c:v.cells=z.toArray:=by rw[<-hv]
   rw[cond_true]at hb;rw[<-a]at d;simp only[Instr.build,bA,fi b,aI,aH hu,g,c,d,cr]
 .rename_i n e z hu b
  obtain⟨v,b,hv⟩:=lf b;cases ha:AF P e with
  |false=>rw[ha]at hb;cases hb
  |true=>
   rw[ha]at hb;have d:=vG _ _ _ hb;have c:v.cells=z.toArray:=by rw[<-hv]
   simp only[Instr.build,bA,fi b,aI,aH hu,rU ha,c,d,cr]
 .cases hb
theorem EO{ek:Option (Kind×Kind)}{o:Oper}{a:Act}(R:Agree N r a)(g:Eo P ek o.op r K h)(d:yb)(hd:DecOk d r):
  ∃v S,K v S/\Zk S h/\K5 (Ot d o.op) v/\∀w:World,Zk S w.heap->(execOp a.eval o).run P w=.ok (.value v) w:=by
 have j:∀{x:Operand} {v:Value},dD r x=some v->a.eval x=v:=λh=>lj R h
 have fin:∀{s:Sem Value},Yv P s K h->Ot d o.op=.x->(∀w,(execOp a.eval o).run P w=(do pure (Next.value (<-s)):Sem Next).run P w)->
   ∃v S,K v S/\Zk S h/\K5 (Ot d o.op) v/\∀w:World,Zk S w.heap->(execOp a.eval o).run P w=.ok (.value v) w:=by
  rintro s ⟨v,S,q,A,z⟩ hx G;exact⟨v,S,q,A,by rw[hx];trivial,λw C=>by rw[G w];exact jn (z w C)⟩
 obtain⟨T,L,type,pos,F,E⟩:=o;simp only at g fin⊢;cases L with
 |move x=>
  simp only[Eo]at g;split at g
  .rename_i v hv
   exact⟨v,none,g,trivial,xx hd hv,λw _=>by simp[execOp,j hv]⟩
  .exact g.elim
 |assign x=>
  simp only[Eo]at g;split at g
  .rename_i v hv
   exact⟨v,none,g,trivial,xx hd hv,λw _=>by simp[execOp,j hv]⟩
  .exact g.elim
 |pick c x y=>
  simp only[Eo]at g;split at g
  .rename_i vc va vb hc hx U
   unfold abc at g;split at g
   .rename_i cb
    have H:=xx hd hc;have Y:=xx hd hx;have Z:=xx hd U;have G:∀w,(execOp a.eval ⟨T,.pick c x y,type,pos,F,E⟩).run P w=.ok (.value (if cb then va else vb)) w:=λw=>by
     simp[execOp,j hc,j hx,j U,asBool]
    have J:K5 (Ot d (.pick c x y)) (if cb then va else vb):=by
     simp only[Ot];cases hcd:Dv d c with
     |t=>
      rw[hcd]at H;have:cb=true:=by simpa[K5]using H
      subst this;exact Y
     |f=>
      rw[hcd]at H;have:cb=false:=by simpa[K5]using H
      subst this;exact Z
     |u=>trivial
     |x=>trivial
    split at g
    .rename_i bx by'
     have O:(if cb=true then Value.bool bx else Value.bool by')=.bool (bif cb then bx else by'):=by cases cb<;>rfl
     rw[O]at J;exact⟨_,none,g,trivial,J,λw _=>by rw[G w,O]⟩
    .cases cb
     .exact⟨_,none,g,trivial,J,λw _=>G w⟩
     .exact⟨_,none,g,trivial,J,λw _=>G w⟩
   .exact g.elim
  .exact g.elim
 |load t x=>
  simp only[Eo]at g;split at g
  .rename_i v hv
   obtain⟨u,S,q,A,z⟩:=FO g;exact fin ⟨u,some S,q,A,z⟩ rfl λw=>by simp only[execOp,j hv]
  .exact g.elim
 |nilCheck x=>
  simp only[Eo]at g;split at g
  .rename_i p hv
   obtain⟨b,rfl,q⟩:=g;exact⟨_,none,q,trivial,trivial,λw _=>by simp[execOp,j hv]⟩
  .exact g.elim
 |binOp L t x y yt=>
  simp only[Eo]at g;split at g
  .rename_i v u hn hv hu
   have go:(∀c d,v=.agg c->u=.agg d->False)/\Yv P (binOp L t v u) K h:=by
    split at g
    .exact Ir (neg:=false) g
    .exact Ir (neg:=true) g
    .exact⟨(BX g).1,(BX g).2.2⟩
   obtain⟨W,Q,S,q,A,z⟩:=go;obtain⟨yc,rfl⟩:=Nx hn;refine⟨Q,S,q,A,trivial,λw C=>?_⟩
   simp only[execOp,j hv,j hu];simp[P3 L t x yc v u W w,z w C]
  .rename_i v u hn hv hu
   obtain⟨Q,S,q,A,z⟩:=RR (x:=x) (y:=y) g;refine⟨Q,S,q,A,trivial,λw C=>?_⟩
   simp only[execOp,j hv,j hu];exact jn (z w C)
  .rename_i v u hna hn hv hu
   obtain⟨W,h2,Q,S,q,A,z⟩:=BX g;refine⟨Q,S,q,A,trivial,λw C=>?_⟩
   simp only[execOp,j hv,j hu];simp[SR L t x y v u W h2 w,z w C]
  .exact g.elim
 |unOp L t x=>
  simp only[Eo]at g;split at g
  .rename_i v hv
   obtain⟨u,S,q,A,z⟩:=Vq (P:=P) (h:=h) g;refine⟨u,S,q,A,?_,λw C=>by simp only[execOp,j hv];exact jn (z w C)⟩
   have I:=xx hd hv;cases L<;>try trivial
   simp only[Ot];have D:=z {(default:World)with heap:=h} A;cases hx:Dv d x with
   |t=>
    rw[hx]at I;have:v=.bool true:=I;subst this;simp[Op.unary]at D;exact D.symm
   |f=>
    rw[hx]at I;have:v=.bool false:=I;subst this;simp[Op.unary]at D;exact D.symm
   |u=>trivial
   |x=>trivial
  .exact g.elim
 |convert s t x=>
  simp only[Eo]at g;split at g
  .rename_i v hv
   exact fin (Pj g) rfl λw=>by simp only[execOp,j hv]
  .exact g.elim
 |extract x i=>
  simp only[Eo]at g;split at g
  .rename_i vs hv
   split at g
   .rename_i u hu
    have X:vs[i]? =some u:=by simpa using hu
    exact⟨u,none,g,trivial,trivial,λw _=>by simp[execOp,j hv,Instr.extract,X]⟩
   .exact g.elim
  .exact g.elim
 |fieldAddr t x f=>
  simp only[Eo]at g;split at g
  .rename_i b u off hv hf
   exact fin (GS hf g) rfl λw=>by simp only[execOp,j hv]
  .exact g.elim
 |field t x f=>
  simp only[Eo]at g;split at g
  .rename_i v hv
   exact fin (Ni g) rfl λw=>by simp only[execOp,j hv]
  .exact g.elim
 |indexAddr t x i=>
  simp only[Eo]at g;split at g
  .rename_i v u hv hu
   exact fin (EP g) rfl λw=>by simp only[execOp,j hv,j hu]
  .exact g.elim
 |index t x i=>
  simp only[Eo]at g;split at g
  .rename_i v u hv hu
   exact fin (Nh g) rfl λw=>by simp only[execOp,j hv,j hu]
  .exact g.elim
 |slice t x lo hi mx=>
  simp only[Eo]at g;split at g
  .rename_i v l h' m hv hl hh hm
   have V:∀{x:Option Operand} {v:Option Value},LC r x=some v->x.map a.eval=v:=by
    intro x v hx;cases x with
    |none=>simp[LC]at hx;subst hx;rfl
    |some x=>
     simp only[LC]at hx;cases G:dD r x with
     |none=>simp[G]at hx
     |some u=>simp[G]at hx;subst hx;simp[j G]
   exact fin (Nd g) rfl λw=>by simp only[execOp,j hv,V hl,V hh,V hm]
  .exact g.elim
 |lookup t x k ok=>
  simp only[Eo]at g;split at g
  .rename_i v u hv hu
   exact fin (KC g) rfl λw=>by simp only[execOp,j hv,j hu]
  .exact g.elim
 |makeInterface t x=>
  simp only[Eo]at g;split at g
  .rename_i v hv
   cases hb:rP P t with
   |false=>rw[hb]at g;exact g.elim
   |true=>
    rw[hb,cond_true]at g;exact⟨_,none,g,trivial,trivial,λw _=>by simp only[execOp,j hv];exact jn (De hb w)⟩
  .exact g.elim
 |typeAssert x u t ok=>
  simp only[Eo]at g;split at g
  .rename_i v hv
   cases ok with
   |true=>exact g.elim
   |false=>
    rw[cond_false]at g;unfold T8 at g;cases hb:rP P t with
    |false=>rw[hb]at g;exact g.elim
    |true=>
     rw[hb,cond_true]at g;split at g
     .obtain⟨y,rfl,q⟩:=g
      exact⟨_,none,q,trivial,trivial,λw _=>by simp only[execOp,j hv];exact jn (HP hb w)⟩
     .exact g.elim
  .exact g.elim
 |makeFunc fn first cap=>
  simp only[Eo]at g;split at g
  .rename_i vs us hv hu
   have O:=nI R hv;have e2:=nI R hu;refine⟨_,none,g,trivial,trivial,λw _=>?_⟩
   have f1:first.map a.eval=vs.toArray:=by rw[<-O];apply df;simp
   have f2:cap.map a.eval=us.toArray:=by rw[<-e2];apply df;simp
   simp[execOp,Instr.makeFunc,f1,f2]
  .exact g.elim
 |entry it=>
  simp only[Eo]at g;split at g
  .rename_i b kk vk hv
   obtain⟨h0,e,x,y,hi,q,U,hK⟩:=g;refine⟨_,_,hK,hi,trivial,λw C=>?_⟩
   simp only[execOp,j hv];refine jn ?_;rw[VZ h0 C,q,U]
  .exact g.elim
 |call c=>
  simp only[Eo]at g;have B:∀{b:Builtin} {vs:c4},c.callee=.builtin b->pt r c.args.toList=some vs->∃cs:Array Bool,∀w,(execOp a.eval ⟨T,.call c,type,pos,F,E⟩).run P w=
    (builtin b c.argTypes type cs vs.toArray).run P w:=by
   intro b vs hc n;have O:=nI R n;have f1:c.args.map a.eval=vs.toArray:=by rw[<-O];apply df;simp
   refine⟨c.args.map fun| .const _=>true|_=>false,λw=>?_⟩
   simp[execOp,resolve,hc,f1,invoke];rfl
  split at g
  .rename_i v t hc n hat
   obtain⟨cs,B⟩:=B hc n;obtain⟨u,S,q,A,z⟩:=RM (ats:=c.argTypes) (ty:=type) (by rw[<-bJ,hat];rfl) g;exact⟨u,S,q,A,trivial,λw C=>by rw[B w];simp only[builtin];exact jn (z w C)⟩
  .rename_i v t hc n hat
   obtain⟨cs,B⟩:=B hc n;obtain⟨u,S,q,A,z⟩:=RQ (h:=h) (ats:=c.argTypes) (ty:=type) (by rw[<-bJ,hat];rfl) g;exact⟨u,S,q,A,trivial,λw C=>by rw[B w];simp only[builtin];exact jn (z w C)⟩
  .rename_i vs hc n
   obtain⟨cs,B⟩:=B hc n;obtain⟨u,q,z⟩:=Bf (P:=P) (ats:=c.argTypes) (ty:=type) g;exact⟨u,none,q,trivial,trivial,λw _=>by rw[B w];simp only[builtin];exact jn (z w)⟩
  .rename_i vs hc n
   obtain⟨cs,B⟩:=B hc n;obtain⟨u,q,z⟩:=Bf (P:=P) (ats:=c.argTypes) (ty:=type) g;exact⟨u,none,q,trivial,trivial,λw _=>by rw[B w];simp only[builtin];exact jn (z w)⟩
  .rename_i v hc n
   obtain⟨cs,B⟩:=B hc n;obtain⟨u,q,z⟩:=Nf (P:=P) (ats:=c.argTypes) (ty:=type) g;exact⟨u,none,q,trivial,trivial,λw _=>by rw[B w];simp only[builtin];exact jn (z w)⟩
  .exact g.elim
 |build t ps=>
  simp only[Eo]at g;split at g
  .rename_i vs n
   split at g
   .rename_i cs hcs
    refine⟨_,none,g,trivial,trivial,λw _=>?_⟩
    have hp:(ps.map λx=>(x.1,a.eval x.2))=vs.toArray:=by
     rw[<-p8 R n];apply df;simp
    have G:=DD (ps:=vs.toArray) (by simpa using hcs) w;simp only[execOp];rw[show(ps.map λ(i,x)=>(i,a.eval x))=vs.toArray from hp]
    exact jn G
   .exact g.elim
  .exact g.elim
 |_=>simp only[Eo]at g
end
section
variable {K:WK}{w:World}{h:ad}{a:Addr}{b:aT}{v x s:Value}{vs z xs:c4}{t e u ty k:TypeId}{n size sl f r i last N:Nat}{k0:IntKind}{l:Int}{d:TypeDesc}{c:CK}{o:Obj}{m:Option Nat}{ts:Array TypeId}
variable {P:Program}
def Ql(P:Program)(s:Sem Next)(K:WK)(w:World):Prop:=
 (∃v a,s.run P w=.ok (.value v) a/\Tame w a/\K v a.heap)\/
 (∃a,s.run P w=.ok .skip a/\Tame w a/\K undef a.heap)\/
 (∃f args,s.run P w=.ok (.enter f args) w/\Calls P f args w λe a=>Tame w a/\∃v,e=.returned v/\K v a.heap)\/
 (∃l fn tmps assign body,s.run P w=.ok (.round l fn tmps assign body) w/\
  ∀(c:Frame) (cs:List Frame),∃b a,Tame w a/\K (.bool b) a.heap/\Steps P (lone (Frame.round l fn tmps assign body .normal) (c::cs) w) (lone (c.finish (.bool b)) cs a))
def Wv(P:Program)(s:Sem Value)(K:WK)(w:World):Prop:=∃v w',s.run P w=.ok v w'/\Tame w w'/\K v w'.heap
theorem Wv.out{s:Sem Value}(h:Wv P s K w):Ql P (do pure (Next.value (<-s))) K w:=by
 obtain⟨v,a,b,ht,c⟩:=h;exact .inl ⟨v,a,jn b,ht,c⟩
def Wu(P:Program)(s:Sem Unit)(K:WK)(w:World):Prop:=∃w',s.run P w=.ok () w'/\Tame w w'/\K undef w'.heap
theorem Wu.out{s:Sem Unit}(h:Wu P s K w):Ql P (do s;pure Next.skip) K w:=by
 obtain⟨a,b,ht,c⟩:=h;exact .inr (.inl ⟨a,Xi b,ht,c⟩)
def j8(w:World)(h:ad):World:={w with heap:=h}
theorem dW(w:World)(h:ad):Tame w (j8 w h):=⟨rfl,rfl,rfl⟩
theorem lx(e:TypeId)(cs:Array Value)(w:World):(newRow e cs).run P w=.ok (aR w.heap) (j8 w (hnew w.heap cs.toList e)):=by
 simp[newRow,newObj,oa,aR,j8,hnew,bind,Sem.bind,pure]
theorem BU(o:Obj)(w:World):(newObj o).run P w=.ok w.heap.size (j8 w (w.heap.push o)):=rfl
theorem KJ{b:Addr}(v:Value)(c:a≠b):aZ (hset h a v) b=aZ h b:=
 World.cell?_setCell_other {(default:World)with heap:=h} a b v c
theorem GR{u:Value}(v:Value)(hc:aZ h a=some u):aZ (hset h a v) a=some v:=
 World.cell?_setCell_same {(default:World)with heap:=h} a v hc
theorem ND{b:Addr}(v:Value):Hr (hset h a v) b=Hr h b:=
 World.frozen?_setCell {(default:World)with heap:=h} a b v
theorem Wr.hset{h:ad}{a b:Addr}(v:Value)(f:Wr h b):Wr (hset h a v) b:=by
 obtain⟨⟨u,c⟩,d⟩:=f;refine⟨?_,by rw[ND];exact d⟩
 by_cases e:a=b
 .subst e;exact⟨v,GR v c⟩
 .exact⟨u,by rw[KJ v e];exact c⟩
theorem RC(hv:∀cs,v≠ .agg cs)(d:∀cs,v≠ .tuple cs)(g:Wr w.heap a):(store a v).run P w=.ok () (j8 w (hset w.heap a v)):=by
 obtain⟨⟨u,e⟩,f⟩:=g;have b:w.cell? a=some u:=e;have c:w.frozen? a=false:=f;cases v<;>first|exact absurd rfl (hv _)|exact absurd rfl (d _)|(simp only[store,oa,b,c];rfl)
theorem Nr(h:cH (v::vs)=true):(∀cs,v≠ .agg cs)/\(∀cs,v≠ .tuple cs)/\cH vs=true:=by
 simp only[cH,bC]at h;refine⟨λcs e=>?_,λcs e=>?_,h.2⟩<;>(subst e;exact absurd h.1 a6)
theorem uo{a:Addr}:∀(vs:c4) (i:Nat) (w:World),cH vs=true->(∀j,j<vs.length->Wr w.heap (adr a (i+j)))->
  (storeCells a vs i).run P w=.ok () (j8 w (fS w.heap a i vs))
 | [],i,w,_,_=>rfl
 |v::vs,i,w,b,hw=>by
  obtain⟨e,f,b⟩:=Nr b;have c:=hw 0 a6;simp only[dP]at c;have d:a.add i=adr a i:=(wP a i).symm;simp only[storeCells,d,bA,RC e f c,aI];rw[uo vs (i+1) (j8 w (hset w.heap (adr a i) v)) b λj g=>?_]
  .rfl
  .have:=hw (j+1) (by simp only[av];omega)
   rw[show i+1+j=i+(j+1) by omega]
   exact this.hset v
theorem LZ{a:Addr}(m:Nat):∀(vs:c4) (i:Nat) (h:ad),fS h (adr a m) i vs=fS h a (m+i) vs
 | [],_,_=>rfl
 |v::vs,i,h=>by
  simp only[fS];rw[LZ m vs (i+1),pd];rfl
theorem MO{a:Value}(c:Q2 P t a v K w.heap):Wu P (Instr.storeAt t a v) K w:=by
 unfold Q2 at c;split at c
 .rename_i a
  cases hb:(aS v.cells.toList.length (cF P t)&&cH v.cells.toList)with
  |false=>rw[hb]at c;exact c.elim
  |true=>
   rw[hb]at c;simp only[bC]at hb;have o:=bD hb.1;obtain⟨c,n⟩:=qN c;have g:v.cells.size=cF P t:=by simpa using o
   have m:(∀j,j<v.cells.toList.length->Wr w.heap (adr a (0+j)))->(Instr.storeAt t (.pointer (some a)) v).run P w=.ok () (j8 w (fS w.heap a 0 v.cells.toList)):=by
    intro d;have:=uo (P:=P) v.cells.toList 0 w hb.2 d;simp[Instr.storeAt,nD,storeVar,n,g,this]
   split at c
   .rename_i u hu
    obtain⟨d,i⟩:=c;refine⟨_,m (λj f=>?_),dW _ _,?_⟩
    .rw[hu]at f;simp only[av,List.length_nil]at f
     obtain rfl:j=0:=a4
     exact d
    .rw[hu];exact i
   .obtain⟨d,i⟩:=c
    refine⟨_,m (λj f=>?_),dW _ _,i⟩
    rcases d with e|⟨b,k,d⟩
    .rw[e]at f;cases f
    .cases k;exact d j f
 .exact c.elim
theorem kN(z:Array Value)(n:Nat):(iK z n).toList=dG n z.toList:=by
 have key:∀n,(List.range (n*z.size)).map (λi=>z[i%z.size]!)=(eO n z.toList).flatten:=by
  intro n;induction n with
  |zero=>simp
  |succ n ih=>
   rw[Nat.succ_mul,List.range_add,List.map_append,ih,List.replicate_succ',List.flatten_append];congr 1
   simp only[jc,List.flatten_cons,List.flatten_nil,List.append_nil];apply List.ext_getElem
   .simp
   .intro i a b
    simp only[List.length_map,List.length_range]at a;simp[Nat.mod_eq_of_lt a,a,Nat.add_mod]
 simpa[iK,dG]using key n
theorem dN(h:yN P t=some e):P.underlying t=some (.slice e):=by
 unfold yN at h;split at h
 .rename_i e' hu;simp only[bO.injEq]at h;subst h;exact hu
 .cases h
theorem TE{z:Value}:((Array.range (n*z.cells.size)).map (z.cells[· %z.cells.size]!))=(dG n z.cells.toList).toArray:=by
 have:=kN z.cells n;unfold iK at this;apply df;rw[this]
theorem E5{ps:Array (Nat×Value)}{cs:c4}(ht:yN P t=some e)(k:sF P e=some z)(p:n*cF P e<=16777216)(j:z.length=cF P e)
  (hb:F7 (λi=>some (i*cF P e,cF P e)) (dG n z) ps.toList=some cs)(w:World):
  (Instr.buildSlice t n ps).run P w=.ok (.slice (some (aR w.heap)) n n) (j8 w (hnew w.heap cs e)):=by
 obtain⟨v,hv,c⟩:=lf k;obtain⟨i,hi,m⟩:=tT hv;have o:(sizeOf e).run P w=.ok (cF P e) w:=by simp[sizeOf,dh hi,cF,hi]
 have f:v.cells.size=cF P e:=by rw[<-j,<-c];simp
 have g:=vG _ _ _ hb;have a:((Array.range (n*cF P e)).map (λi=>(if n*cF P e=0 then #[]else v.cells)[i%(if n*cF P e=0 then #[]else v.cells).size]!))=(dG n z).toArray:=by
  by_cases b:n*cF P e=0
  .have:(dG n z).length=0:=by simp[dG,j,b]
   rw[aK.1 this];simp[b]
  .simp only[if_neg b]
   rw[<-f,TE,c]
 have d:¬(n*cF P e>2^24):=a4
 simp only[Instr.buildSlice,bA,aH (dN ht),aI,o,if_neg d];by_cases b:n*cF P e=0
 .simp only[if_pos b]at a
  simp only[if_pos b,bA,cr,aI,a,g,lx]
 .simp only[if_neg b]at a
  simp only[if_neg b,bA,cr,aI,fi hv,a,g,lx]
theorem Vm(b:Row h a vs):∀j v,vs[j]? =some v->aZ h (a.add j)=some v:=λj v hv=>by
 rw[<-wP];exact b j v hv
theorem Av{cap len:Nat}(d:SRow w.heap b (n*size) vs):(fh size n (.slice b len cap)).run P w=.ok vs.toArray w:=by
 obtain⟨c,a⟩:=d;cases b with
 |none=>
  rcases a with rfl|⟨_,h,_⟩
  .simp[fh]
  .cases h
 |some b=>
  refine run_firstCells_some w size n b len cap vs c λj v hv=>?_
  rcases a with rfl|⟨_,h,a⟩
  .cases hv
  .cases h;exact Vm a j v hv
theorem HU{m:Nat}(e:cH xs=true)(c:qV w.heap (some a) m xs):
  (storeCells (a.add m) xs).run P w=.ok () (j8 w (fS w.heap a m xs)):=by
 rcases c with rfl|⟨b,hb,c⟩
 .rfl
 .cases hb
  have:=uo (P:=P) (a:=adr a m) xs 0 w e λj d=>by rw[pd,aU];exact c j d
  rw[<-wP,this,LZ,dP]
set_option maxHeartbeats 1000000 in
theorem Js{d:Nat}(ht:yN P t=some e)(k:(∃s,P.underlying u=some (.slice s))\/P.underlying u=some .string)
  (g:∀w,(rI x).run P w=.ok d w)(hx:∀w':World,w'.heap=w.heap->(fh (cF P e) d x).run P w'=.ok xs.toArray w')
  (hi:∃i,P.info? e=some i)
  (h:YO P e b sl f d xs K w.heap):Wv P (dV #[t,u] ty #[.slice b sl f,x]) K w:=by
 obtain⟨i,hi⟩:=hi;have j:cF P e=i.size:=by simp[cF,hi]
 have D:sK P e=i.bytes:=by simp[sK,hi]
 by_cases hc:sl+d<=f
 .obtain⟨L,J,A⟩:=h.1 hc
  refine⟨_,_,?_,dW w (fR w.heap b (sl*cF P e) xs),A⟩;cases b with
  |none=>
   have c:=hx w rfl;rw[j]at c;rcases k with⟨s,hd⟩|hd<;>(simp[dV,aH (dN ht),aH hd,sizeOf,dh hi,g,hc,c];rfl)
  |some a=>
   have o:=HU (P:=P) J L;have c:=hx w rfl;rw[j]at o c;rcases k with⟨s,hd⟩|hd<;>(simp[dV,aH (dN ht),aH hd,sizeOf,dh hi,g,hc,c,o,fR,j])
 .obtain⟨old,z,I,G,F,y,A⟩:=h.2 a4
  obtain⟨v,hv,C⟩:=lf G;obtain⟨N,m,H⟩:=tT hv;rw[hi]at m;cases m;rw[D]at F y;have n:¬i.bytes=0:=a4
  have q:¬(281474976710656<nF (sl+d) f*i.bytes):=a4
  have c:=hx w.drew rfl;have p:(fh (cF P e) sl (.slice b sl f)).run P w.drew=.ok old.toArray w.drew:=Av I;rw[j]at c p;have E:sl+d<=(Question.appendCap (sl+d) f e).cut (w.tape w.drawn (.appendCap (sl+d) f e)):=oe _ _;refine⟨_,j8 w.drew (hnew w.heap (old++xs++dG ((Question.appendCap (sl+d) f e).cut (w.tape w.drawn (.appendCap (sl+d) f e))-(sl+d)) z) e),?_,⟨rfl,rfl,rfl⟩,A _ E⟩
  have B:(iK v.cells ((Question.appendCap (sl+d) f e).cut (w.tape w.drawn (.appendCap (sl+d) f e))-(sl+d)))=(dG ((Question.appendCap (sl+d) f e).cut (w.tape w.drawn (.appendCap (sl+d) f e))-(sl+d)) z).toArray:=by
   apply df;rw[kN,C]
  rcases k with⟨s,hd⟩|hd<;>(simp[dV,aH (dN ht),aH hd,sizeOf,dh hi,g,hc,n,q,Question.forced,c,p,fi hv,lx,B,aR];rfl)
theorem IK{K:Prop}(h:XE P t K):∃i,P.info? t=some i:=by
 unfold XE at h;cases hi:P.info? t with
 |none=>rw[hi]at h;exact h.elim
 |some i=>exact⟨i,rfl⟩
theorem Dl(h:cF P t≠0):∃i,P.info? t=some i:=by
 cases hi:P.info? t with
 |none=>exact absurd (by simp[cF,hi]) h
 |some i=>exact⟨i,rfl⟩
theorem Ga{x:c6}:(fh size n (.string x)).run P w=.ok ((di x).take n).toArray w:=by
 simp only[fh,cr];congr 1
 apply df;simp[di,qz,gS,<-List.map_take]
theorem Bb(c:(∃e',P.underlying u=some (.slice e'))\/P.underlying u=some .string)(h:Hb P t s x K w.heap):
  Wv P (dV #[t,u] ty #[s,x]) K w:=by
 unfold Hb at h;split at h
 .rename_i e b sl sc a xl xc ht
  have hi:=IK h;obtain⟨⟨xs,d,g⟩,k⟩:=qN h;exact Js ht c (λw=>rfl) (λf i=>Av (by rw[i];exact d)) hi g
 .rename_i e b sl sc x ht
  cases hb:aS (cF P e) 1 with
  |false=>rw[hb]at h;exact h.elim
  |true=>
   rw[hb]at h;have j:=bD hb;have m:(di x).length=x.size:=by simp[di]
   refine Js ht c (λw=>rfl) (λf _=>?_) (Dl a4) h
   rw[Ga,bd a4]
 .exact h.elim
theorem Es{n:Int}(b:0<=n)(a:n<=9223372036854775807):IntKind.i64.wrap n=n:=IntWalk.i64_in n ⟨a4,a⟩
theorem Td{k:IntKind}(ht:yN P t=some e)(y:P.underlying u=some (.int k0))
  (S:sF P e=some z)(H:z.length=cF P e)(Y:0<=l)(L:l*sK P e<=2^48)(X:l<=9223372036854775807)(h3:((sl+l.toNat:Nat):Int)<=9223372036854775807)
  (h:YO P e b sl f l.toNat (dG l.toNat z) K w.heap):Wv P (dV #[t,u] ty #[.slice b sl f,.int k l]) K w:=by
 obtain⟨v,hv,B⟩:=lf S;obtain⟨i,hi,U⟩:=tT hv;have j:cF P e=i.size:=by simp[cF,hi]
 have C:sK P e=i.bytes:=by simp[sK,hi]
 have x:IntKind.wrap .i64 l=l:=Es Y X;have d:¬l<0:=a4
 rw[C]at L;have g:¬(281474976710656:Int)<l*i.bytes:=a4
 have c:∀J:World,(asInt (.int k l)).run P J=.ok l J:=λJ=>rfl
 have D:(iK v.cells l.toNat)=(dG l.toNat z).toArray:=by apply df;rw[kN,B]
 have s:l.toNat*i.size=0->dG l.toNat z= []:=λN=>by
  have F:(dG l.toNat z).length=l.toNat*i.size:=by rw[<-j,<-H];unfold dG;simp
  exact aK.1 (by rw[F,N])
 by_cases hc:sl+l.toNat<=f
 .obtain⟨R,L,G⟩:=h.1 hc
  refine⟨_,_,?_,dW w (fR w.heap b (sl*cF P e) (dG l.toNat z)),G⟩;cases b with
  |none=>
   by_cases m:l.toNat*i.size=0
   .simp[dV,aH (dN ht),aH y,sizeOf,dh hi,c,x,d,g,hc,m];rfl
   .simp[dV,aH (dN ht),aH y,sizeOf,dh hi,c,x,d,g,hc,fi hv];rfl
  |some a=>
   have n:=HU (P:=P) L R;rw[j]at n;by_cases m:l.toNat*i.size=0
   .rw[s m]at n
    simp[dV,aH (dN ht),aH y,sizeOf,dh hi,c,x,d,g,hc,n,fR,j,m,s m]
   .simp[dV,aH (dN ht),aH y,sizeOf,dh hi,c,x,d,g,hc,n,fR,j,m,fi hv,D]
 .obtain⟨old,Z,W,E,Q,I,G⟩:=h.2 a4
  rw[S]at E;cases E;rw[C]at Q I;have T:¬i.bytes=0:=a4
  have p:¬(281474976710656<nF (sl+l.toNat) f*i.bytes):=a4
  have V:¬(9223372036854775807:Int)<((sl:Int)+(l.toNat:Int)):=a4
  have o:¬(9223372036854775807:Int)<((sl:Int)+max l 0):=a4
  have q:(fh (cF P e) sl (.slice b sl f)).run P w.drew=.ok old.toArray w.drew:=Av W;rw[j]at q;have O:sl+l.toNat<=(Question.appendCap (sl+l.toNat) f e).cut (w.tape w.drawn (.appendCap (sl+l.toNat) f e)):=oe _ _;refine⟨_,j8 w.drew (hnew w.heap (old++dG l.toNat z++dG ((Question.appendCap (sl+l.toNat) f e).cut (w.tape w.drawn (.appendCap (sl+l.toNat) f e))-(sl+l.toNat)) z) e),?_,⟨rfl,rfl,rfl⟩,G _ O⟩
  have A:(iK v.cells ((Question.appendCap (sl+l.toNat) f e).cut (w.tape w.drawn (.appendCap (sl+l.toNat) f e))-(sl+l.toNat)))=(dG ((Question.appendCap (sl+l.toNat) f e).cut (w.tape w.drawn (.appendCap (sl+l.toNat) f e))-(sl+l.toNat)) z).toArray:=by
   apply df;rw[kN,B]
  by_cases m:l.toNat*i.size=0
  .rw[s m]at G⊢
   simp[dV,aH (dN ht),aH y,sizeOf,dh hi,c,x,d,g,hc,o,p,Question.forced,q,fi hv,lx,A,aR,m];rfl
  .simp[dV,aH (dN ht),aH y,sizeOf,dh hi,c,x,d,g,hc,o,p,Question.forced,q,fi hv,lx,A,aR,m,D];rfl
theorem HL(c:P.underlying u=some (.int k0))(h:HM P t s x K w.heap):
  Wv P (dV #[t,u] ty #[s,x]) K w:=by
 unfold HM at h;split at h
 .rename_i e b sl sc k l ht
  split at h
  .rename_i z hz
   cases hb:aS z.length (cF P e)with
   |false=>rw[hb]at h;exact h.elim
   |true=>
    rw[hb]at h;obtain⟨⟨i,f,d,a⟩,g⟩:=h;exact Td ht c hz (bD hb) i f d a g
  .exact h.elim
 .exact h.elim
theorem nL:∀{a b:c4},cH a=true->cH b=true->cH (a++b)=true
 | [],_,_,h=>h
 |v::a,b,h,k=>by
  simp only[cH,cN,bC]at h⊢;exact⟨h.1,nL h.2 k⟩
theorem CZ{z:c4}(h:cH z=true):∀n,cH (dG n z)=true
 |0=>rfl
 |n+1=>by
  have:dG (n+1) z=z++dG n z:=by simp[dG,List.replicate_succ]
  rw[this];exact nL h (CZ h n)
theorem MQ(h:Q5 P t x K w.heap):Wv P (vq #[t] ty #[x]) K w:=by
 unfold Q5 at h;split at h
 .rename_i e a n c ht
  split at h
  .rename_i z hz
   obtain⟨v,hv,f⟩:=lf hz;cases ho:cH z with
   |false=>rw[ho]at h;exact h.elim
   |true=>
    rw[ho]at h;obtain⟨i,g⟩:=h;refine⟨_,_,?_,dW w (fR w.heap a 0 (dG n z)),g⟩;cases a with
    |none=>simp[vq,aH (dN ht)];rfl
    |some a=>
     cases n with
     |zero=>simp[vq,aH (dN ht)];rfl
     |succ n=>
      have b:=HU (P:=P) (CZ ho (n+1)) i;rw[<-wP,Ju]at b;have d:(iK v.cells (n+1)).toList=dG (n+1) z:=by rw[kN,f]
      simp[vq,aH (dN ht),fi hv,d,b,fR]
  .exact h.elim
 .exact h.elim
theorem C7:∀(xs:c4) (n:Nat),cH xs=true->cH (xs.take n)=true
 | [],n,_=>by simp[cH]
 |x::xs,0,_=>by simp[cH]
 |x::xs,n+1,h=>by
  simp only[cH,bC,List.take_succ_cons]at h⊢;exact⟨h.1,C7 xs n h.2⟩
theorem KD(x:c6):cH (di x)=true:=by
 have:∀l:c5,cH (l.map λb=>.int .u8 (b.toNat:Int))=true:=by
  intro l;induction l with
  |nil=>rfl
  |cons b l ih=>simp[cH,ih]
 exact this _
theorem OB{d:Value}(h:WT P t d s K w.heap):Wv P (rJ #[t,u] ty #[d,s]) K w:=by
 unfold WT at h;split at h
 .rename_i e b dl dc a sl sc ht
  obtain⟨⟨xs,k,o,p,n⟩,j⟩:=qN h;refine⟨_,_,?_,dW w (fR w.heap b 0 xs),n⟩;have g:=Av (P:=P) (len:=sl) (cap:=sc) k;cases b with
  |none=>simp[rJ,aH (dN ht),rI,j,g,goInt];rfl
  |some c=>
   have f:=HU (P:=P) (m:=0) p o;simp only[Addr.add,if_pos]at f;simp[rJ,aH (dN ht),rI,j,g,goInt,f,fR]
 .rename_i e b dl dc x ht
  cases hb:aS (cF P e) 1 with
  |false=>rw[hb]at h;exact h.elim
  |true=>
   rw[hb]at h;have p:=bD hb;obtain⟨i,hi⟩:=Dl (P:=P) (t:=e) a4;have j:(sizeOf e).run P w=.ok (cF P e) w:=by simp[sizeOf,dh hi,cF,hi]
   obtain⟨o,n⟩:=h;have v:(di x).length=x.size:=by simp[di]
   have q:(di x).take (dU x.size dl)=(di x).take dl:=by
    by_cases hx:x.size<=dl
    .rw[show dU x.size dl=x.size from Nat.min_eq_left hx,bd a4,bd a4]
    .rw[show dU x.size dl=dl from Nat.min_eq_right a4]
   have g:(fh (cF P e) (dU x.size dl) (.string x)).run P w=.ok ((di x).take dl).toArray w:=by
    rw[Ga,q]
   refine⟨_,_,?_,dW w (fR w.heap b 0 ((di x).take dl)),n⟩;cases b with
   |none=>simp[rJ,aH (dN ht),rI,j,g,goInt];rfl
   |some c=>
    have f:=HU (P:=P) (m:=0) (C7 _ dl (KD x)) o;simp only[Addr.add,if_pos]at f;simp[rJ,aH (dN ht),rI,j,g,goInt,f,fR]
 .exact h.elim
theorem T9(k v:Value)(a:Nat):∀(es:List MapEntry),(match es.findIdx? (λe=>gv k e.key)with
  |some i=>(es.modify i (λe=>{e with key:=k,val:=v}),a)
  |none=>(es++ [{key:=k,val:=v,born:=a}],a+1))=Nj k v a es
 | []=>rfl
 |e::es=>by
  have b:=T9 k v a es;simp only[Nj,List.findIdx?_cons];cases hk:gv k e.key with
  |true=>simp[List.modify]
  |false=>
   simp only[cY,if_false];rw[<-b];cases hf:es.findIdx? (λe=>gv k e.key)with
   |none=>simp
   |some i=>simp[List.modify]
theorem zK{d:TypeDesc}{c:CK}(hd:qd d c)(x:c.den):∀(es:List MapEntry) (i:Nat),keysOf c es->
  oW d (c.enc x) es i=some (match es.findIdx? (λe=>gv (c.enc x) e.key)with
   |some j=>(es[j]?).map λe=>(i+j,e.val)
   |none=>none)
 | [],i,_=>rfl
 |e::es,i,h=>by
  obtain⟨y,g⟩:=h e a6;have b:=FJ hd x y;rw[<-g]at b;have k:=zK hd x es (i+1) λf a=>h f (by simp[a])
  simp only[oW,List.findIdx?_cons,b];cases hb:gv (c.enc x) e.key with
  |true=>simp
  |false=>
   simp only[cY,if_false];rw[k];cases hf:es.findIdx? (λe=>gv (c.enc x) e.key)with
   |none=>simp
   |some j=>simp[oV,Nat.add_comm 1 j]
theorem yO{a b:c6}(h:(a==b)=true):a=b:=by
 cases a with|mk a=>cases b with|mk b=>
 have h:(a==b)=true:=h;rw[eq_of_beq h]
theorem zU(a:c6):(a==a)=true:=by
 cases a with|mk a=>
 exact beq_self_eq_true a
theorem Na(hd:qd d c)(x y:c.den)(h:gv (c.enc x) (c.enc y)=true):Instr.sameBits 10000 (c.enc y) (c.enc x)=true:=by
 rcases hd with⟨i,rfl,rfl⟩|⟨rfl,rfl⟩|⟨rfl,rfl⟩
 .have h:x=y:=eq_of_beq (α:=Int) h
  subst h;have:∀n:Int,(i==i&&n==n)=true:=λn=>a6
  exact this x
 .have h:x=y:=yO h
  subst h;exact zU x
 .have h:x=y:=eq_of_beq (α:=Bool) h
  subst h;exact beq_self_eq_true (α:=Bool) x
theorem yk{es:Array MapEntry}{a:Nat}(h:w.heap[r]? =some (.map es a)):(setObj r o).run P w=.ok () (j8 w (w.heap.setIfInBounds r o)):=by
 simp only[setObj,oa,h];rfl
theorem Sf(z:P.underlying t=some (.map k e))(p:P.underlying k=some d)(hd:qd d c){x:c.den}(hm:xH c w.heap r):
  (Instr.mapUpdate t (.map (some r)) (c.enc x) v).run P w=.ok () (j8 w (nM w.heap r (c.enc x) v)):=by
 obtain⟨es,a,hb,f⟩:=hm;obtain⟨q,A,b,B⟩:=yr (P:=P) hd p x f w;rw[zK hd x es.toList 0 f]at b;have g:=T9 (c.enc x) v a es.toList;have j:nM w.heap r (c.enc x) v=w.heap.setIfInBounds r (.map (Nj (c.enc x) v a es.toList).1.toArray (Nj (c.enc x) v a es.toList).2):=by
  simp only[nM,hb]
 rw[j,<-g];simp only[Instr.mapUpdate,bA,aH z,aI,mP hb,oK hd p,A];cases hf:es.toList.findIdx? (λe=>gv (c.enc x) e.key)with
 |none=>
  rw[hf]at b;simp only[bO.injEq]at b;subst b;simp only[yk hb];congr 4
  apply df;simp
 |some i=>
  rw[hf]at b;simp only[bO.injEq]at b;obtain⟨hi,o,_⟩:=List.findIdx?_eq_some_iff_getElem.1 hf;have s:es.toList[i]? =some es.toList[i]:=af hi;rw[s]at b;simp only[jZ,aU]at b;subst b;have m:es[i]? =some es.toList[i]:=by rw[<-bJ];exact s
  obtain⟨y,u⟩:=f es.toList[i] (List.getElem_mem hi);have n:Instr.sameBits 10000 (es.toList[i]).key (c.enc x)=true:=by
   rw[u]at o⊢;exact Na hd x y o
  simp only[m,jZ,Option.getD_some,Instr.keyThatStays,n,if_true,bA,cr,aI,yk hb];congr 4
  apply df;simp
theorem Ba{m k:Value}(h:Ha P t m k v K w.heap):Wu P (Instr.mapUpdate t m k v) K w:=by
 unfold Ha at h;split at h
 .rename_i c e m hc
  obtain⟨i,d,a,f,hd⟩:=zE hc;obtain⟨g,rfl,r,rfl,hm,b⟩:=CK.dec_sound h;exact⟨_,Sf a f hd hm,dW _ _,b⟩
 .exact h.elim
theorem P4(k:Value):∀(es:List MapEntry),(match es.findIdx? (λe=>gv k e.key)with
  |some i=>es.eraseIdx i
  |none=>es)=Ja k es
 | []=>rfl
 |e::es=>by
  have a:=P4 k es;simp only[Ja,List.findIdx?_cons];cases hk:gv k e.key with
  |true=>simp
  |false=>
   simp only[cY,if_false];rw[<-a];cases hf:es.findIdx? (λe=>gv k e.key)<;>simp
theorem PE(ht:ts[0]? =some t) (p:P.underlying t=some (.map k e)) (o:P.underlying k=some d) (hd:qd d c)  {x:c.den}  (hm:xH c w.heap r):
  (th ts ty #[.map (some r),c.enc x]).run P w=.ok (.tuple #[]) (j8 w (rR w.heap r (c.enc x))):=by
 obtain⟨es,f,hb,j⟩:=hm;obtain⟨q,s,a,v⟩:=yr (P:=P) hd o x j w;rw[zK hd x es.toList 0 j]at a;have g:=P4 (c.enc x) es.toList;have m:rR w.heap r (c.enc x)=w.heap.setIfInBounds r (.map (Ja (c.enc x) es.toList).toArray f):=by
  simp only[rR,hb]
 rw[m,<-g];simp only[th,ht,List.getElem?_toArray,List.getElem?_cons_zero,List.getElem?_cons_succ,bA,aH p,aI,mP hb,oK hd o,s];cases hf:es.toList.findIdx? (λe=>gv (c.enc x) e.key)with
 |none=>
  rw[hf]at a;simp only[bO.injEq]at a;subst a;simp[yk hb]
 |some i=>
  rw[hf]at a;simp only[bO.injEq]at a;obtain⟨hi,y,_⟩:=List.findIdx?_eq_some_iff_getElem.1 hf;have u:es.toList[i]? =some es.toList[i]:=af hi;rw[u]at a;simp only[jZ,aU]at a;subst a;have n:i<es.size:=by simpa using hi
  have b:es.eraseIdxIfInBounds i=(es.toList.eraseIdx i).toArray:=by
   apply df;simp[Array.eraseIdxIfInBounds,n]
  simp[yk hb,b]
theorem HJ{m k:Value}(ht:ts[0]? =some t) (h:HK P t m k K w.heap):Wv P (th ts ty #[m,k]) K w:=by
 unfold HK at h;split at h
 .rename_i c e m hc
  obtain⟨i,d,b,f,hd⟩:=zE hc;obtain⟨g,rfl,h⟩:=CK.dec_sound h;rcases h with⟨rfl,a⟩|⟨r,rfl,hm,a⟩
  .refine⟨_,w,?_,Tame.refl w,a⟩
   simp[th,ht,aH b,oK hd f]
  .exact⟨_,_,PE ht b f hd hm,dW _ _,a⟩
 .exact h.elim
theorem Vo(b:P.underlying t=some (.map k e)){a:Nat}(hm:m=none/\a=0\/∃r es,m=some r/\w.heap[r]? =some (.map es a)):
  (wG t (.map m)).run P w=.ok (.pointer (some (aR w.heap))) (j8 w (w.heap.push (.mapIter m a #[] a))):=by
 rcases hm with⟨rfl,rfl⟩|⟨r,es,rfl,hb⟩
 .simp only[wG,bA,aH b,aI,cr,BU,aR]
 .simp only[wG,bA,aH b,aI,cr,mP hb,BU,aR]
theorem RH(a:P.underlying t=some .string){s:c6}:
  (wG t (.string s)).run P w=.ok (.pointer (some (aR w.heap))) (j8 w (w.heap.push (.stringIter s 0))):=by
 simp only[wG,bA,aH a,aI,cr,BU,aR]
theorem zq{a:Nat}{b:Array Nat}(h:w.heap[i]? =some (.mapIter m a b last)):(getObj i).run P w=.ok (.mapIter m a b last) w:=by
 simp only[getObj,oa,h]
theorem O7{a:Nat}{b:Array Nat}(h:w.heap[i]? =some (.mapIter m a b last)):(setObj i o).run P w=.ok () (j8 w (w.heap.setIfInBounds i o)):=by
 simp only[setObj,oa,h];rfl
theorem Jk(n:Nat)(a:0<n)(w:World):∃k w',k<n/\(choose (.mapNext n)).run P w=.ok k w'/\Tame w w'/\w'.heap=w.heap:=by
 unfold choose;simp only[oa];by_cases h:(Question.mapNext n).forced=true
 .exact⟨0,w,a,by rw[if_pos h],Tame.refl w,rfl⟩
 .refine⟨(Question.mapNext n).cut (w.tape w.drawn (.mapNext n)),{w with drawn:=w.drawn+1},Nat.mod_lt _ a,by rw[if_neg h],⟨rfl,rfl,rfl⟩,rfl⟩
theorem OA{L:Value}(h:WS L K w.heap):Wv P (rq L false t) K w:=by
 unfold WS at h;split at h
 .rename_i a
  obtain⟨J,m,i,g,last,hi,h⟩:=h;obtain⟨b,off,I⟩:=a;simp only at J hi h;subst J;rcases h with⟨rfl,O⟩|⟨r,es,v,rfl,hb,z,A,F⟩
  .exact⟨_,w,by simp only[rq,bA,zq hi,aI,cr],Tame.refl w,O⟩
  .have s:(!g.isEmpty&& !es.isEmpty&&es.all (λe=>decide (e.born>=last)))=false:=by
    rcases z with h|h|h<;>simp[h]
   obtain⟨left,j⟩:∃left,left=es.filter λe=> !g.contains e.born:=⟨_,rfl⟩
   obtain⟨old,p⟩:∃old,old=left.filter (·.born<i):=⟨_,rfl⟩
   obtain⟨new,hnew⟩:∃new,new=left.filter (·.born>=i):=⟨_,rfl⟩
   obtain⟨d,f⟩:∃d:Array (Option MapEntry),d=(if old.isEmpty then #[none]else #[])++(old++new).map some:=⟨_,rfl⟩
   have B:0<d.size:=by
    rw[f];by_cases y:old.isEmpty=true
    .simp[y];omega
    .have:old.size≠0:=by simpa using y
     simp[y];omega
   obtain⟨k,D,N,u,ht,E⟩:=Jk (P:=P) d.size B w;obtain⟨c,hc⟩:∃c,d[k]? =some c:=⟨d[k],Array.getElem?_eq_getElem N⟩;have G:D.heap[b]? =some (.mapIter (some r) i g last):=by rw[E];exact hi
   have o:(!g.isEmpty&& !es.isEmpty&&es.all λx=>decide (x.born>=last))=false:=s
   cases c with
   |none=>
    refine⟨.tuple #[.bool false],D,?_,ht,?_⟩
    .simp only[rq,bA,zq hi,aI,cr,mP hb,o,cY,if_false,<-j,<-p,<-hnew,<-f,u,hc]
    .rw[E]
     have q:old.isEmpty=true:=by
      have hm:none∈d:=Array.mem_of_getElem? hc;rw[f]at hm;by_cases y:old.isEmpty=true
      .exact y
      .simp[y]at hm
     refine A λe Q H=>?_
     cases hs:g.contains e.born with
     |true=>rfl
     |false=>
      have n:e∈old:=by
       rw[p,j];simp only[rv];exact⟨⟨by simpa using Q,by rw[hs];rfl⟩,by simpa using H⟩
      rw[Array.isEmpty_iff]at q;rw[q]at n;simp at n
   |some e=>
    have n:e∈es/\g.contains e.born=false:=by
     have hm:some e∈d:=Array.mem_of_getElem? hc;have C:e∈left:=by
      rw[f]at hm;rw[Array.mem_append]at hm;rcases hm with hm|hm
      .split at hm<;>simp at hm
      .simp only[Array.mem_map,bO.injEq,exists_eq_right,Array.mem_append]at hm
       rcases hm with hm|hm
       .rw[p]at hm;exact(rv.1 hm).1
       .rw[hnew]at hm;exact(rv.1 hm).1
     rw[j]at C;have:=rv.1 C;exact⟨this.1,by simpa using this.2⟩
    refine⟨.tuple #[.bool true,e.key,e.val],j8 D (D.heap.setIfInBounds b (.mapIter (some r) i (g.push e.born) v)),?_,ht.trans (dW _ _),?_⟩
    .simp only[rq,bA,zq hi,aI,cr,mP hb,o,cY,if_false,<-j,<-p,<-hnew,<-f,u,hc,O7 G]
    .rw[E]
     exact F e (by simpa using n.1) n.2
 .exact h.elim
theorem MP{i:Value}(h:Q3 i K w.heap):Wv P (rq i true t) K w:=by
 unfold Q3 at h;split at h
 .rename_i a
  obtain⟨m,s,pos,hi,h⟩:=h;obtain⟨b,off,k⟩:=a;simp only at m hi h;subst m;have j:(getObj b).run P w=.ok (.stringIter s pos) w:=by simp only[getObj,oa,hi]
  rcases h with⟨n,g⟩|⟨c,hc,f,g⟩
  .exact⟨_,w,by simp only[rq,bA,j,aI,if_neg (dR.2 n),cr],Tame.refl w,g⟩
  .have d:pos<s.size:=by
    rcases Nat.lt_or_ge pos s.size with h'|h'
    .exact h'
    .rw[getElem?_neg s pos (dR.2 h')]at hc;cases hc
   have e:(s[pos]'d)=c:=by rw[getElem?_pos s pos d]at hc;exact bO.inj hc
   have hd:=decode_ascii s pos d (by rw[e];exact f);rw[e]at hd;have o:(setObj b (.stringIter s (pos+1))).run P w=.ok () (j8 w (w.heap.setIfInBounds b (.stringIter s (pos+1)))):=by simp only[setObj,oa,hi];rfl
   exact⟨_,_,by simp only[rq,bA,j,aI,if_pos d,hd,o,cr];rfl,dW _ _,g⟩
 .exact h.elim
theorem L3{g:Nat}(a:n≠0):w.freeze ⟨g,0,none⟩ n=j8 w (Ux w.heap g n):=by
 unfold World.freeze;rw[if_neg a];rfl
theorem Oz{d:TypeId}{p n:Value}(h:WR P t p n K w.heap):Wv P (Builtin.unsafeString_ #[t,d] ty #[p,n]) K w:=by
 unfold WR at h;split at h
 .rename_i e a n hu
  cases hc:aS (P.cellsOf e) 1 with
  |false=>rw[hc]at h;exact h.elim
  |true=>
   rw[hc]at h;rcases h with⟨rfl,c⟩|⟨l,g,cs,rfl,rfl,b,f,hb,i,hx,c⟩
   .exact⟨_,w,Lib.run_unsafeString_none ..,Tame.refl w,c⟩
   .refine⟨_,_,Lib.run_unsafeString_row w t d ty e hu (bD hc) g cs.size (by simp[World.shape?,hb]) l b i f ?_,?_,?_⟩
    .intro j x k
     have:=hx j x k;have e:((⟨g,0,none⟩:Addr).add j)=⟨g,j,none⟩:=by unfold Addr.add;split<;>simp_all
     rw[e];simp[World.cell?,hb,this]
    .rw[L3 (by simpa using b)];exact dW _ _
    .rw[L3 (by simpa using b)];exact c
 .exact h.elim
theorem KG{k k':IntKind}{c:Int}(ht:yN P t=some e)(A:sF P e=some z)(b:z.length=cF P e)(C:0<=l)(D:l<=c)(y:c<=9223372036854775807)(x:sK P e*c<=2^48):
  (Instr.makeSlice t (.int k l) (.int k' c)).run P w=.ok (.slice (some (aR w.heap)) l.toNat c.toNat) (j8 w (hnew w.heap (dG c.toNat z) e)):=by
 obtain⟨v,hv,d⟩:=lf A;obtain⟨i,hi,B⟩:=tT hv;have f:cF P e=i.size:=by simp[cF,hi]
 have n:sK P e=i.bytes:=by simp[sK,hi]
 have m:v.cells.size=i.size:=by rw[<-f,<-b,<-d];simp
 have s:=Es C a4;have hc:=Es (show 0<=c by omega) y
 rw[n]at x;have c1:¬(c<0):=a4
 have q:¬(281474976710656<(i.bytes:Int)*c):=a4
 have p:¬(l<0):=a4
 have u:¬(c<l):=a4
 by_cases a:c.toNat*i.size=0
 .have o:(dG c.toNat z).length=0:=by simp[dG,b,f,a]
  rw[aK.1 o];simp[Instr.makeSlice,aH (dN ht),asInt,asIntOf,dh hi,s,hc,c1,q,p,u,sizeOf,a,lx]
 .have g:((Array.range (c.toNat*i.size)).map (λj=>v.cells[j%v.cells.size]!))=(dG c.toNat z).toArray:=by
   rw[<-m,TE,d]
  have key:(newRow e ((Array.range (c.toNat*i.size)).map (λj=>v.cells[j%v.cells.size]!))).run P w=.ok (aR w.heap) (j8 w (hnew w.heap (dG c.toNat z) e)):=by
   rw[g,lx]
  simp[Instr.makeSlice,aH (dN ht),asInt,asIntOf,dh hi,s,hc,c1,q,p,u,sizeOf,a,fi hv];rw[key];rfl
theorem Agree.args{r:cR}{a:Act}(h:Agree N r a){os:Array Operand}(hv:pt r os.toList=some vs):os.map a.eval=vs.toArray:=by
 rw[<-nI h hv];apply df;simp
theorem HC.out{f:FuncId}{args:c4}{ks:List Kind}(h:HC P f args ks (λx h'=>K (EL ks (nP ks x)) h') w.heap):Ql P (callFunc f args.toArray) K w:=by
 rcases h.run w rfl with⟨a,d⟩|⟨v,c,a,ht,x,rfl,b⟩
 .refine .inr (.inr (.inl ⟨f,args.toArray,a,d.mono ?_⟩))
  rintro e c ⟨ht,x,rfl,b⟩;exact⟨ht,_,rfl,b⟩
 .exact .inl ⟨_,c,a,ht,b⟩
theorem Wa{b a:TypeId}{s:c6}(j:P.underlying b=some .string)(hd:P.underlying a=some (.slice e))(k:P.underlying e=some (.int .u8)):
  ∃c,s.size<=c/\(convert b a (.string s)).run P w=.ok (.slice (some (aR w.heap)) s.size c) (j8 w.drew (w.heap.push (.cells (di s++eO (c-s.size) (Value.int .u8 0)).toArray e (c,c+1)))):=by
 have d:s.size<=grownCap w s.size 0 e:=oe _ _;refine⟨_,d,?_⟩;rw[Go.Lib.run_convert_string_bytes w b a e s j hd k];have hc:(Go.Lib.bytesCells w e s).size=grownCap w s.size 0 e:=by
  unfold Go.Lib.bytesCells;rw[Array.size_append,Array.size_map,Array.size_replicate,show s.data.size=s.size from rfl]
  omega
 have f:(di s++eO (grownCap w s.size 0 e-s.size) (Value.int .u8 0)).toArray=Go.Lib.bytesCells w e s:=by
  unfold Go.Lib.bytesCells di;apply df;simp
 rw[f];unfold Go.Lib.bytesWorld World.freeze;rw[if_neg a4,hc];unfold World.alloc World.drew j8;congr 1
 congr 1
 apply Array.ext a6;intro i m g;rw[Array.getElem_modify];simp only[Array.getElem_push];split
 .rename_i e
  subst e;simp
 .rename_i e
  have hi:i<w.heap.size:=by simp at g;omega
  rw[dif_pos hi,dif_pos hi]
theorem Eu{o:Oper}{r:cR}{a:Act}(I:Agree N r a)(j:Ks P o r K w.heap):Ql P (execOp a.eval o) K w:=by
 have B:∀{x:Operand} {v:Value},dD r x=some v->a.eval x=v:=λh=>lj I h
 obtain⟨X,op,type,pos,H,F⟩:=o;cases op with
 |alloc t=>
  simp only[Ks]at j;split at j
  .rename_i z hz
   obtain⟨v,hv,S⟩:=lf hz;have E:(Instr.alloc t true (.tuple #[])).run P w=.ok (.pointer (some (aR w.heap))) (j8 w (hnew w.heap z t)):=by
    simp[Instr.alloc,fi hv,newVar,lx,S]
   exact Wv.out ⟨_,_,E,dW _ _,j⟩
  .exact j.elim
 |box t x=>
  simp only[Ks]at j;split at j
  .rename_i v hv
   have E:(Instr.box t v).run P w=.ok (.pointer (some (aR w.heap))) (j8 w (hnew w.heap v.cells.toList t)):=by
    simp[Instr.box,newVar,lx]
   simp only[execOp,B hv];exact Wv.out ⟨_,_,E,dW _ _,j⟩
  .exact j.elim
 |build t ps=>
  simp only[Ks]at j;split at j
  .rename_i vs q
   split at j
   .rename_i cs hcs
    have V:(ps.map λx=>(x.1,a.eval x.2))=vs.toArray:=by
     rw[<-p8 I q];apply df;simp
    have E:=DD (ps:=vs.toArray) (by simpa using hcs) w;simp only[execOp];rw[show(ps.map λ(i,x)=>(i,a.eval x))=vs.toArray from V]
    exact Wv.out ⟨_,w,E,Tame.refl w,j⟩
   .exact j.elim
  .exact j.elim
 |buildSlice t n ps=>
  simp only[Ks]at j;split at j
  .rename_i e vs ht q
   split at j
   .rename_i z hz
    cases hb:(yF (n*cF P e) 16777216&&aS z.length (cF P e))with
    |false=>rw[hb]at j;exact j.elim
    |true=>
     rw[hb]at j;simp only[bC]at hb;simp only[cond_true]at j;split at j
     .rename_i cs hcs
      have V:(ps.map λx=>(x.1,a.eval x.2))=vs.toArray:=by
       rw[<-p8 I q];apply df;simp
      have E:=E5 (ps:=vs.toArray) ht hz (gY hb.1) (bD hb.2) (by simpa using hcs) w;simp only[execOp];rw[show(ps.map λ(i,x)=>(i,a.eval x))=vs.toArray from V]
      exact Wv.out ⟨_,_,E,dW _ _,j⟩
     .exact j.elim
   .exact j.elim
  .exact j.elim
 |store t x y=>
  simp only[Ks]at j;split at j
  .rename_i b v hb hv
   simp only[execOp,B hb,B hv];exact Wu.out (MO j)
  .exact j.elim
 |mapUpdate t m k x=>
  simp only[Ks]at j;split at j
  .rename_i mv kv xv hm C hx
   simp only[execOp,B hm,B C,B hx];exact Wu.out (Ba j)
  .exact j.elim
 |insert t m k x=>
  simp only[Ks]at j;split at j
  .rename_i mv kv xv hm C hx
   simp only[execOp,B hm,B C,B hx];exact Wu.out (Ba j)
  .exact j.elim
 |makeMap t n=>
  simp only[Ks]at j;cases n with
  |none=>exact Wv.out ⟨_,j8 w (w.heap.push (.map #[] 0)),by simp[Instr.makeMap];rfl,dW _ _,j⟩
  |some n=>
   simp only at j;split at j
   .rename_i k i hn ht
    exact Wv.out ⟨_,j8 w (w.heap.push (.map #[] 0)),by simp[Instr.makeMap,B hn,aH ht,asInt,asIntOf];rfl,dW _ _,j⟩
   .exact j.elim
 |makeSlice t l c=>
  simp only[Ks]at j;split at j
  .rename_i e k l' k' c' ht U hc
   split at j
   .rename_i z hz
    cases hb:aS z.length (cF P e)with
    |false=>rw[hb]at j;exact j.elim
    |true=>
     rw[hb]at j;obtain⟨⟨h0,T,R,Z⟩,j⟩:=j;simp only[execOp,B U,B hc];exact Wv.out ⟨_,_,KG ht hz (bD hb) h0 T R Z,dW _ _,j⟩
   .exact j.elim
  .exact j.elim
 |convert s d x=>
  simp only[Ks]at j;split at j
  .rename_i e v W hd hx
   cases hu:Sx P e with
   |false=>rw[hu]at j;exact j.elim
   |true=>
    rw[hu]at j;obtain⟨c,hc,L⟩:=Wa (w:=w) (s:=v) W hd (IJ hu);simp only[execOp,B hx];exact Wv.out ⟨_,_,L,⟨rfl,rfl,rfl⟩,j c hc⟩
  .exact j.elim
 |range t x=>
  simp only[Ks]at j;split at j
  .rename_i k e m hu hx
   obtain⟨Q,hm,j⟩:=j;simp only[execOp,B hx];exact Wv.out ⟨_,_,Vo hu hm,dW _ _,j⟩
  .rename_i s hu hx
   simp only[execOp,B hx];exact Wv.out ⟨_,_,RH hu,dW _ _,j⟩
  .exact j.elim
 |next it isS=>
  cases isS with
  |true=>
   simp only[Ks]at j;split at j
   .rename_i v hv
    simp only[execOp,B hv];exact Wv.out (MP j)
   .exact j.elim
  |false=>
   simp only[Ks]at j;split at j
   .rename_i v hv
    simp only[execOp,B hv];exact Wv.out (OA j)
   .exact j.elim
 |call c=>
  simp only[Ks]at j;have J:∀{b:Builtin} {vs:c4},c.callee=.builtin b->pt r c.args.toList=some vs->∃cs:Array Bool,∀w,(execOp a.eval ⟨X,.call c,type,pos,H,F⟩).run P w=
    (builtin b c.argTypes type cs vs.toArray).run P w:=by
   intro b vs hc q;refine⟨c.args.map fun| .const _=>true|_=>false,λw=>?_⟩
   simp[execOp,resolve,hc,I.args q,invoke];rfl
  have G:∀{s s':Sem Next},(∀w,s.run P w=s'.run P w)->Ql P s' K w->Ql P s K w:=by
   intro s s' E h;unfold Ql at h⊢;simp only[E];exact h
  split at j
  .rename_i s x hc q
   split at j
   .rename_i t u hat
    obtain⟨cs,D⟩:=J hc q;refine G D ?_;have A:c.argTypes= #[t,u]:=by apply df;rw[hat]
    simp only[builtin,A];split at j
    .rename_i e' hu;exact Wv.out (Bb (.inl ⟨e',hu⟩) j)
    .rename_i hu;exact Wv.out (Bb (.inr hu) j)
    .rename_i k0 hu;exact Wv.out (HL hu j)
    .exact j.elim
   .exact j.elim
  .rename_i x hc q
   split at j
   .rename_i t hat
    obtain⟨cs,D⟩:=J hc q;refine G D ?_;have A:c.argTypes= #[t]:=by apply df;rw[hat]
    simp only[builtin,A];exact Wv.out (MQ j)
   .exact j.elim
  .rename_i s x hc q
   split at j
   .rename_i t u hat
    obtain⟨cs,D⟩:=J hc q;refine G D ?_;have A:c.argTypes= #[t,u]:=by apply df;rw[hat]
    simp only[builtin,A];exact Wv.out (OB j)
   .exact j.elim
  .rename_i p n hc q
   split at j
   .rename_i t u hat
    obtain⟨cs,D⟩:=J hc q;refine G D ?_;have A:c.argTypes= #[t,u]:=by apply df;rw[hat]
    simp only[builtin,A];exact Wv.out (Oz j)
   .exact j.elim
  .rename_i m k hc q
   split at j
   .rename_i t u hat
    obtain⟨cs,D⟩:=J hc q;refine G D ?_;simp only[builtin];exact Wv.out (HJ (by rw[<-bJ,hat];rfl) j)
   .exact j.elim
  .rename_i f args hc q
   unfold aa5 at j;split at j
   .exact j.elim
   .rename_i ks hks
    split at j
    .rename_i f
     refine G (s':=callFunc f args.toArray) (λw=>?_) j.out
     simp[execOp,resolve,hc,I.args q,Act.eval,Deferred.ofValue,invoke]
    .rename_i f hf
     split at j
     .rename_i fv hfv
      rcases j.run with⟨g,first,cap,rfl,O⟩|⟨l,rfl,O⟩
      rotate_left
      .obtain⟨fn,tmps,assign,body,T,R⟩:=O.run w rfl
       refine .inr (.inr (.inr ⟨l,fn,tmps,assign,body,?_,λc cs=>?_⟩))
       .rw[<-T]
        simp[execOp,resolve,hc,I.args q,B hfv,Deferred.ofValue,invoke]
       .obtain⟨b,Y,ht,C,W⟩:=R c cs
        refine⟨b,Y,ht,?_,W⟩;obtain⟨t,e,C⟩:=uD C;have U:ks.length=1:=by rw[<-vH ks t,<-e];rfl
        match ks,U,t,e,C with
        | [k],_,t,e,C=>rw[<-e]at C;exact C
      refine G (s':=callFunc g (first.toList++args++cap.toList).toArray) (λw=>?_) O.out
      have e:first++args.toArray++cap=(first.toList++args++cap.toList).toArray:=by apply df;simp
      rw[<-e];simp[execOp,resolve,hc,I.args q,B hfv,Deferred.ofValue,invoke]
     .exact j.elim
  .exact j.elim
 |_=>simp only[Ks]at j
end
end Go.Lift
