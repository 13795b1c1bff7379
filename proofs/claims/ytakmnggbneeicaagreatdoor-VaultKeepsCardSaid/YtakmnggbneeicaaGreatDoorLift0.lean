/- A part of the proof that the named laws of this program answer true, whatever the input. -/
import Derived.OrdersIn
import Derived.Below
import Derived.WalkKit
import Derived.RangeFuncRecord
import Derived.DefersIn
import Derived.Laws.Append
import Derived.Laws.Cover3
import Derived.Laws.StructEq
import Derived.Laws.BytesString
import Derived.Lib.UnsafeStr
import Derived.Laws.RangeString
import Derived.Lib.ConvBytes
open Array renaming ext'->cO,getElem?_toList->bG,mem_of_getElem?->qm,mem_filter->qM
open BitVec renaming ofInt->aB
open Bool renaming and_eq_true->bA,false_eq_true->cQ
open ByteArray renaming data_extract->qe
open Go.Builtin renaming firstCells->eE,len_->lD,cap_->yh,zeroCells->ir,lenOf->qV,append_->dG,nextslicecap->ns,clear_->uI,copy_->qW,delete_->sq
open Go.Instr renaming sureAddr->nr,sliceBounds->ga,sliceAt->qU,sameNow->wF,findNow->oF,lookup->yg,range->vY,next->qL
open Go.Op renaming bytesLess->bM,equalIn->fS
open Go.Result renaming andThen_ok->aD
open Go.Sem renaming run->nQ,run_bind->bj,run_pure->bX
open Iff renaming rfl->tu
open List renaming rec->fh,replicate->fW,length_cons->ar,extract_eq_take_drop->gB,map_cons->ce,map_map->iR,take_of_length_le->aS,cons_append->cG,length_eq_zero_iff->aJ,findIdx?_cons->pf,getElem?_eq_getElem->af
open Nat renaming succ->fz,beq->aO,ble->ye,min->dF,blt->Ac,land->j5,lor->cV,pred->zH,eq_of_beq_eq_true->bD,add_assoc->wD,le_of_ble_eq_true->gJ,add_zero->fV,zero_add->aU,le_add_right->qG,not_lt->df
open Option renaming some->bI,isSome_iff_exists->gX,map_some->iy
open Prod renaming mk->oL
open UInt8 renaming ofNat->gq
abbrev Go.aT:=Option Addr
abbrev Go.bY:=List (ByteArray×ByteArray)
abbrev Go.c5:=List Value
abbrev Go.c6:=List UInt8
abbrev Go.dO:=ByteArray
abbrev Go.eh:=Nat->Prop
abbrev Go.eu:=Array Obj->Prop
theorem Go.a4{p:Prop}(h:p:=by omega):p:=h
theorem Go.a5{p:Prop}(h:p:=by kernel_rfl):p:=h
theorem Go.a6{p:Prop}(h:p:=by first|omega|((try simp only);omega)):p:=h
theorem Go.a7{p:Prop}(h:p:=by simp):p:=h
theorem Go.a8{p:Prop}(h:p:=by decide):p:=h
theorem Go.a9{p:Prop}(h:p:=by simp;omega):p:=h
theorem Go.bb{p:Prop}(h:p:=by first|omega|(simp;done)|(simp;omega)):p:=h
theorem Go.cd{p:Prop}(h:p:=by simp only;omega):p:=h
theorem Go.cv{p:Prop}(h:p:=by split<;>omega):p:=h
noncomputable section
namespace Go.Lift
section
variable {p t e:Prop}{b:Bool}
abbrev ad:=Array Obj
def aI(h:ad)(a:Addr):Option Value:=
 match h[a.block]? with
 |some (.cells c _ _)=>if a.spot.isSome then none else c[a.off]?
 |_=>none
def Gx(h:ad)(a:Addr):Bool:=
 match h[a.block]? with
 |some (.cells _ _ (lo,hi))=>lo<=a.off&&a.off<hi
 |_=>false
def hset(h:ad)(a:Addr)(v:Value):ad:=
 h.modify a.block fun
  | .cells c elem frozen=>.cells (if a.spot.isSome then c else c.setIfInBounds a.off v) elem frozen
  |o=>o
def adr(a:Addr)(n:Nat):Addr:=Nat.rec (motive:=λ_=>Addr) a (λn _=>⟨a.block,a.off+fz n,none⟩) n
def Wr(h:ad)(a:Addr):Prop:=(∃v,aI h a=some v)/\Gx h a=false
structure Tame(w w':World):Prop where
 os:w'.os=w.os
 tape:w'.tape=w.tape
 output:w'.output=w.output
structure f9 where
 a:aT
 len:Nat
 cap:Nat
def MC:IntKind->IntKind->Bool
 | .i8,.i8=>true| .i16,.i16=>true| .i32,.i32=>true| .i64,.i64=>true
 | .u8,.u8=>true| .u16,.u16=>true| .u32,.u32=>true| .u64,.u64=>true
 |_,_=>false
inductive CK where
 |int (k:IntKind)|bool|str|ptr|slice|map|chan|raw|adr
def CK.den:CK->Type
 | .int _=>Int| .bool=>Bool| .str=>dO| .ptr=>aT| .slice=>f9| .map=>Option Nat| .chan=>Option Nat| .raw=>Value| .adr=>Addr
def CK.enc:(c:CK)->c.den->Value
 | .int k,n=>.int k n
 | .bool,b=>.bool b
 | .str,s=>.string s
 | .ptr,p=>.pointer p
 | .slice,s=>.slice s.a s.len s.cap
 | .map,r=>.map r
 | .chan,r=>.chan r
 | .raw,v=>v
 | .adr,a=>.pointer (some a)
def CK.dec:(c:CK)->Value->(c.den->Prop)->Prop
 | .int k,.int k' n,f=>bif MC k' k then f n else False
 | .bool,.bool b,f=>f b
 | .str,.string s,f=>f s
 | .ptr,.pointer p,f=>f p
 | .slice,.slice a l c,f=>f ⟨a,l,c⟩
 | .map,.map r,f=>f r
 | .chan,.chan r,f=>f r
 | .raw,v,f=>f v
 | .adr,.pointer (some a),f=>f a
 |_,_,_=>False
def Xk:List CK->Type
 | []=>Unit
 | [c]=>c.den
 |c::d::cs=>c.den×Xk (d::cs)
def WT:(cs:List CK)->Xk cs->c5
 | [],_=> []
 | [c],x=> [c.enc x]
 |c::d::cs,(x,t)=>c.enc x::WT (d::cs) t
def S3:(cs:List CK)->c5->(Xk cs->Prop)->Prop
 | [],[],f=>f ()
 | [c],[v],f=>c.dec v f
 |c::d::cs,v::u::vs,f=>c.dec v λx=>S3 (d::cs) (u::vs) λt=>f (x,t)
 |_,_,_=>False
inductive Kind where
 |c (k:CK)
 |agg (cs:List CK)
def Kind.den:Kind->Type
 | .c k=>k.den
 | .agg cs=>Xk cs
def Kind.enc:(k:Kind)->k.den->Value
 | .c k,x=>k.enc x
 | .agg cs,t=>.agg (WT cs t).toArray
def Kind.dec:(k:Kind)->Value->(k.den->Prop)->Prop
 | .c k,v,f=>k.dec v f
 | .agg cs,.agg vs,f=>S3 cs vs.toList f
 |_,_,_=>False
def uU:List Kind->Type
 | []=>Unit
 | [k]=>k.den
 |k::l::ks=>k.den×uU (l::ks)
def nI:(ks:List Kind)->uU ks->c5
 | [],_=> []
 | [k],x=> [k.enc x]
 |k::l::ks,(x,t)=>k.enc x::nI (l::ks) t
def F3:(ks:List Kind)->c5->(uU ks->Prop)->Prop
 | [],[],f=>f ()
 | [k],[v],f=>k.dec v f
 |k::l::ks,v::u::vs,f=>k.dec v λx=>F3 (l::ks) (u::vs) λt=>f (x,t)
 |_,_,_=>False
def DY(ks:List Kind)(vs:c5):Value:=
 match ks,vs with
 | [_],[v]=>v
 |_,vs=>.tuple vs.toArray
def ZU:Value->Option CK
 | .int k _=>some (.int k)
 | .bool _=>some .bool
 | .string _=>some .str
 | .pointer _=>some .ptr
 | .slice .. =>some .slice
 | .map _=>some .map
 | .chan _=>some .chan
 | .nilFunc=>some .raw
 | .nilIface=>some .raw
 |_=>none
def Ic:c5->Option (List CK)
 | []=>some []
 |v::vs=>match ZU v,Ic vs with
  |some c,some cs=>some (c::cs)
  |_,_=>none
def xW(P:Program)(t:TypeId):Bool:=
 match P.underlying t with
 |some (.struct _)|some (.array _ _)=>true
 |_=>false
def cz(P:Program)(t:TypeId):Nat:=match P.info? t with|some i=>i.size|none=>0
def rS(P:Program)(t:TypeId):Nat:=match P.info? t with|some i=>i.bytes|none=>0
def yJ(P:Program)(t:TypeId):Option Value:=match P.info? t with|some i=>i.zero|none=>none
def SJ(P:Program)(t:TypeId):Option Kind:=
 match yJ P t with
 |some (.agg vs)=>bif xW P t&&aO vs.toList.length (cz P t)then(match Ic vs.toList with|some cs=>some (.agg cs)|none=>none)else none
 |some v=>bif xW P t then none else(match ZU v with|some c=>some (.c c)|none=>none)
 |none=>none
def HL(P:Program)(t:TypeId):Option Kind:=
 match P.underlying t with
 |none=>none
 |some _=>SJ P t
structure HC(P:Program)(f:FuncId)(args:c5)(ks:List Kind)(K:uU ks->eu)(h:ad):Prop where
 run:∀w:World,w.heap=h->
  ((callFunc f args.toArray).run P w=.ok (.enter f args.toArray) w/\
   Calls P f args.toArray w λe w'=>Tame w w'/\∃t:uU ks,e=.returned (DY ks (nI ks t))/\K t w'.heap)\/
  (∃v w',(callFunc f args.toArray).run P w=.ok (.value v) w'/\Tame w w'/\∃t:uU ks,v=DY ks (nI ks t)/\K t w'.heap)
structure HE(P:Program)(f:FuncId)(args:c5)(ks:List Kind)(K:uU ks->eu)(h:ad):Prop where
 run:∀w:World,w.heap=h->(∀(args:Array Value) (w:World),(callFunc f args).run P w=.ok (.enter f args) w)/\
  Calls P f args.toArray w λe w'=>Tame w w'/\∃t:uU ks,e=.returned (DY ks (nI ks t))/\K t w'.heap
theorem HE.hc{P:Program}{f:FuncId}{args:c5}{ks:List Kind}{K:uU ks->eu}{h:ad}(e:HE P f args ks K h):HC P f args ks K h:=
 ⟨λw a=>.inl ⟨(e.run w a).1 _ w,(e.run w a).2⟩⟩
structure HY(P:Program)(l:Nat)(args:c5)(K:Bool->eu)(h:ad):Prop where
 run:∀w:World,w.heap=h->∃fn tmps assign body,(Instr.yield l args.toArray).run P w=.ok (.round l fn tmps assign body) w/\
  ∀(c:Frame) (cs:List Frame),∃b w',Tame w w'/\K b w'.heap/\Steps P (lone (Frame.round l fn tmps assign body .normal) (c::cs) w) (lone (c.finish (.bool b)) cs w')
structure HV(P:Program)(fv:Value)(args:c5)(ks:List Kind)(K:uU ks->eu)(h:ad):Prop where
 run:(∃f first cap,fv=.func (.func f) first cap/\HC P f (first.toList++args++cap.toList) ks K h)\/
  (∃l,fv=.func (.yield l) #[] #[]/\HY P l args (λb h'=>F3 ks [.bool b] λt=>K t h') h)
def fN(b:Bool)(t e:Prop):Prop:=Bool.rec (motive:=λ_=>Prop) e t b
theorem fN.yes(h:fN b t e)(hb:b=true):t:=by subst hb;exact h
theorem fN.no(h:fN b t e)(hb:b=false):e:=by subst hb;exact h
theorem fN.intro(a:b=true->t)(c:b=false->e):fN b t e:=by cases b;exact c rfl;exact a rfl
abbrev ez:=@fN.intro
theorem aw:fN true t e↔t:=tu
theorem ag:fN false t e↔e:=tu
attribute [irreducible] fN
def At(h:ad)(k:eu):Prop:=k h
def Bd{T:Type}(x:T)(k:T->Prop):Prop:=k x
structure Join{T:Type}(rest:T->eu)(k:(T->eu)->Prop):Prop where
 run:k rest
structure LoopP{T:Type}(F:(T->eu)->T->eu)(t:T)(h:ad):Prop where
 run:∀I:T->ad->Prop,(∀t h,F I t h->I t h)->I t h
abbrev cN:=List (Nat×Value)
def kQ(r:cN)(t:Nat):Option Value:=
 fh (motive:=λ_=>Option Value) none (λa _ b=>bif aO a.1 t then some a.2 else b) r
theorem Hh(k:Nat)(v:Value)(r:cN)(t:Nat):kQ ((k,v)::r) t=bif aO k t then some v else kQ r t:=rfl
def cU(r:cN):Operand->Option Value
 | .tmp t=>kQ r t
 | .const v=>some v
 | .global g=>some (.pointer (some ⟨g,0,none⟩))
 | .func f=>some (.func (.func f) #[] #[])
def oT(r:cN):List Operand->Option c5
 | []=>some []
 |o::os=>match cU r o,oT r os with
  |some v,some vs=>some (v::vs)
  |_,_=>none
def ML:List CK->Nat->Addr->ad->(c5->Prop)->Prop
 | [],_,_,_,k=>k []
 |c::cs,i,a,h,k=>∃x:c.den,aI h (adr a i)=some (c.enc x)/\ML cs (i+1) a h λvs=>k (c.enc x::vs)
def vn:c5->Nat->Addr->ad->Prop
 | [],_,_,_=>True
 | [v],i,a,h=>aI h (adr a i)=some v
 |v::u::vs,i,a,h=>aI h (adr a i)=some v/\vn (u::vs) (i+1) a h
abbrev RK:=Value->Option (eu)->Prop
def N4(P:Program)(t:TypeId)(v:Value)(K:RK)(h:ad):Prop:=
 match v with
 | .pointer (some a)=>
  match HL P t with
  |some (.c c)=>∃x:c.den,aI h a=some (c.enc x)/\K (c.enc x) (some λh'=>aI h' a=some (c.enc x))
  |some (.agg cs)=>ML cs 0 a h λvs=>K (.agg vs.toArray) (some λh'=>vn vs 0 a h')
  |none=>False
 |_=>False
def zd(P:Program)(t:TypeId)(f:Nat):Option (TypeId×Nat):=
 match P.underlying t with
 |some (.struct fs)=>match fs.toList[f]? with
  |some g=>some (g.type,g.offset)
  |none=>none
 |_=>none
def ym(P:Program)(t:TypeId):Option TypeId:=
 match P.underlying t with
 |some (.slice e)=>some e
 |_=>none
def PZ(c:BinOp)(k:IntKind)(a b:Int)(K:RK):Prop:=
 match c with
 | .shl=>0<=b/\K (.int k (k.wrap (a*2^(min b.toNat k.bits)))) none
 | .shr=>0<=b/\K (.int k (a.fdiv (2^(min b.toNat k.bits)))) none
 |_=>False
def ZM(c:BinOp)(k:IntKind)(a b:Int)(K:RK):Prop:=
 match c with
 | .add=>K (.int k (k.wrap (a+b))) none
 | .sub=>K (.int k (k.wrap (a-b))) none
 | .mul=>K (.int k (k.wrap (a*b))) none
 | .quo=>b≠0/\K (.int k (k.wrap (a.tdiv b))) none
 | .rem=>b≠0/\K (.int k (a.tmod b)) none
 | .and=>K (.int k (k.wrap (aB k.bits a&&&aB k.bits b).toNat)) none
 | .or=>K (.int k (k.wrap (aB k.bits a|||aB k.bits b).toNat)) none
 | .xor=>K (.int k (k.wrap (aB k.bits a^^^aB k.bits b).toNat)) none
 | .andNot=>K (.int k (k.wrap (aB k.bits a&&& ~~~aB k.bits b).toNat)) none
 | .eql=>K (.bool (a==b)) none
 | .neq=>K (.bool (a !=b)) none
 | .lss=>K (.bool (decide (a<b))) none
 | .leq=>K (.bool (decide (a<=b))) none
 | .gtr=>K (.bool (decide (a>b))) none
 | .geq=>K (.bool (decide (a>=b))) none
 |_=>False
def Zu(c:BinOp)(a b:dO)(K:RK):Prop:=
 match c with
 | .add=>((a.size+b.size:Nat):Int)<=9223372036854775807/\K (.string (a++b)) none
 | .eql=>K (.bool (a.toList==b.toList)) none
 | .neq=>K (.bool (!(a.toList==b.toList))) none
 | .lss=>K (.bool (bM a.toList b.toList)) none
 | .leq=>K (.bool (bM a.toList b.toList||a.toList==b.toList)) none
 | .gtr=>K (.bool (!(bM a.toList b.toList||a.toList==b.toList))) none
 | .geq=>K (.bool (!(bM a.toList b.toList))) none
 |_=>False
def fc(h:ad)(a:Addr):Prop:=(∃c e,h[a.block]? =some (.cells c e (0,0))/\0<c.size)
def aa3:Value->Bool
 | .func _ _ _=>true
 | .nilFunc=>true
 |_=>false
def aaH:Value->Bool
 | .nilFunc=>true
 |_=>false
def aa2:Value->Bool
 | .iface _ _=>true
 | .nilIface=>true
 |_=>false
def aaG:Value->Bool
 | .nilIface=>true
 |_=>false
def X6(P:Program)(t:TypeId)(neg:Bool)(x y:Value)(K:RK):Prop:=
 match P.underlying t,x,y with
 |some (.pointer _),.pointer a,.pointer none=>K (.bool (bif neg then !a.isNone else a.isNone)) none
 |some (.map _ _),.map a,.map none=>K (.bool (bif neg then !a.isNone else a.isNone)) none
 |some (.slice _),.slice a _ _,.slice none _ _=>K (.bool (bif neg then !a.isNone else a.isNone)) none
 |some (.func _ _ _),x,.nilFunc=>aa3 x=true/\K (.bool (bif neg then !(aaH x)else aaH x)) none
 |some (.interface _),x,.nilIface=>aa2 x=true/\K (.bool (bif neg then !(aaG x)else aaG x)) none
 |_,_,_=>False
def V6:Operand->Bool
 | .const (.pointer none)=>true
 | .const (.map none)=>true
 | .const (.slice none 0 0)=>true
 | .const .nilFunc=>true
 | .const .nilIface=>true
 |_=>false
def abx(P:Program)(t:TypeId)(neg:Bool)(x y:Value)(K:RK)(h:ad):Prop:=
 match P.underlying t,x,y with
 |some .bool,.bool a,.bool b=>K (.bool (bif neg then !(a==b)else a==b)) none
 |some (.pointer e),.pointer a,.pointer b=>
  (bif aO (cz P e) 0 then False else True)/\
  (∀x y,a=some x->b=some y->fc h x/\fc h y)/\
  K (.bool (bif neg then !(a==b)else a==b)) (some λh'=>∀x y,a=some x->b=some y->fc h' x/\fc h' y)
 |_,_,_=>False
def X0(P:Program)(c:BinOp)(t:TypeId)(x y:Value)(K:RK)(h:ad):Prop:=
 match x,y with
 | .int k a,.int k' b=>
  match c with
  | .shl=>PZ .shl k a b K
  | .shr=>PZ .shr k a b K
  |c=>bif MC k' k then ZM c k a b K else False
 | .string a,.string b=>Zu c a b K
 |x,y=>match c with
  | .eql=>abx P t false x y K h
  | .neq=>abx P t true x y K h
  |_=>False
def tL(h:ad):List (aT×aT)->Prop
 | []=>True
 |(a,b)::l=>(∀x y,a=some x->b=some y->fc h x/\fc h y)/\tL h l
def Wz(P:Program)(t:TypeId)(x y:Value):Option (Bool×List (aT×aT)):=
 match P.underlying t,x,y with
 |some (.int _),.int k a,.int k' b=>bif MC k' k then some (a==b,[])else none
 |some .bool,.bool a,.bool b=>some (a==b,[])
 |some .string,.string a,.string b=>some (a.toList==b.toList,[])
 |some (.pointer e),.pointer a,.pointer b=>bif aO (cz P e) 0 then none else some (a==b,[(a,b)])
 |_,_,_=>none
def Yu(P:Program)(rec:TypeId->c5->c5->Option (Bool×List (aT×aT)))(xs ys:c5):List Field->Option (Bool×List (aT×aT))
 | []=>some (true,[])
 |f::fs=>
  if f.name= "_" then none else
  bif (P.underlying f.type).isSome&&(P.info? f.type).isSome then
   match(bif xW P f.type then rec f.type ((xs.drop f.offset).take (cz P f.type)) ((ys.drop f.offset).take (cz P f.type))
    else match xs[f.offset]?,ys[f.offset]? with|some x,some y=>Wz P f.type x y|_,_=>none),Yu P rec xs ys fs with
   |some (b,l),some (c,m)=>some (b&&c,l++m)
   |_,_=>none
  else none
def WA(P:Program):Nat->TypeId->c5->c5->Option (Bool×List (aT×aT))
 |0,_,_,_=>none
 |d+1,t,xs,ys=>match P.underlying t with
  |some (.struct fs)=>bif P.stoodInHeld t then none else Yu P (WA P d) xs ys fs.toList
  |_=>none
def ab6(neg b:Bool)(K:RK)(h:ad):List (aT×aT)->Prop
 | []=>K (.bool (bif neg then !b else b)) none
 |p::l=>tL h (p::l)/\K (.bool (bif neg then !b else b)) (some λh'=>tL h' (p::l))
def ZA(P:Program)(a:BinOp)(t:TypeId)(xs ys:c5)(K:RK)(h:ad):Prop:=
 bif P.eqGuardType P.depth t then False else
 match a with
 | .eql=>(match WA P 10 t xs ys with|some (b,l)=>ab6 false b K h l|none=>False)
 | .neq=>(match WA P 10 t xs ys with|some (b,l)=>ab6 true b K h l|none=>False)
 |_=>False
def abP(a:UnOp)(x:Value)(K:RK):Prop:=
 match a,x with
 | .neg,.int k n=>K (.int k (k.wrap (0-n))) none
 | .xor,.int k n=>K (.int k (k.wrap (aB k.bits (if k.signed then-1 else k.max)^^^aB k.bits n).toNat)) none
 | .not,.bool b=>K (.bool (!b)) none
 |_,_=>False
def dz(s:dO):c5:=s.data.toList.map λb=>.int .u8 b.toNat
def Row(h:ad)(a:Addr)(vs:c5):Prop:=∀i v,vs[i]? =some v->aI h (adr a i)=some v
def SRow(h:ad)(a:aT)(n:Nat)(vs:c5):Prop:=vs.length=n/\(vs= []\/∃b,a=some b/\Row h b vs)
def QI(P:Program)(e:TypeId):Bool:=match P.underlying e with|some (.int .u8)=>true|_=>false
def ZL(P:Program)(s d:TypeId):Bool:=
 match P.underlying s,P.underlying d with
 |some .string,some (.slice e)=>QI P e
 |_,_=>false
def ByP(e:TypeId)(s:dO)(h:ad)(K:Nat->eu):Prop:=
 ∀c,s.size<=c->K c (h.push (.cells (dz s++fW (c-s.size) (Value.int .u8 0)).toArray e (c,c+1)))
def VB(P:Program)(b c:TypeId)(x:Value)(K:RK)(h:ad):Prop:=
 match P.underlying b,P.underlying c,x with
 |some (.int _),some (.int k),.int _ n=>K (.int k (k.wrap n)) none
 |some .string,some .string,.string s=>K (.string s) none
 |some (.slice e),some .string,.slice a n _=>bif QI P e then∃s:dO,SRow h a n (dz s)/\K (.string s) (some λh'=>SRow h' a n (dz s))else False
 |_,_,_=>False
def WW(v:Option Value)(d y:Nat)(K:eh):Prop:=
 match v with
 |none=>K d
 |some (.int _ i)=>(0<=i/\i<=y)/\K i.toNat
 |_=>False
def aW(a:aT)(l m size:Nat):aT:=if m=l then a else a.map (adr · (l*size))
def VM(P:Program)(t:TypeId)(K:Prop):Prop:=match P.info? t with|some _=>K|none=>False
def Qe(P:Program)(t:TypeId)(x:Value)(lo hi b:Option Value)(K:RK):Prop:=
 match P.underlying t,x with
 |some .string,.string s=>match b with
  |some _=>False
  |none=>WW hi s.size s.size λh=>WW lo 0 h λl=>K (.string (s.extract l h)) none
 |some (.slice e),.slice a len cap=>VM P e (
  match b with
  |none=>WW hi len cap λh=>WW lo 0 h λl=>K (.slice (aW a l cap (cz P e)) (h-l) (cap-l)) none
  |some m=>match hi with
   |none=>False
   |some hi=>WW (some m) 0 cap λm=>WW (some hi) 0 m λh=>WW lo 0 h λl=>K (.slice (aW a l m (cz P e)) (h-l) (m-l)) none)
 |some (.array n e),.pointer (some a)=>VM P e (
  match b with
  |none=>WW hi n n λh=>WW lo 0 h λl=>K (.slice (aW (some a) l n (cz P e)) (h-l) (n-l)) none
  |some _=>False)
 |_,_=>False
def KB(r:cN):Option Operand->Option (Option Value)
 |none=>some none
 |some o=>match cU r o with
  |some v=>some (some v)
  |none=>none
def Bg(P:Program)(t:TypeId)(x i:Value)(K:RK):Prop:=
 match P.underlying t,x,i with
 |some (.array n e),.pointer (some a),.int _ i=>VM P e ((0<=i/\i<n)/\K (.pointer (some (adr a (i.toNat*cz P e)))) none)
 |some (.slice e),.slice b len _,.int _ i=>VM P e ((0<=i/\i<len)/\∃a,b=some a/\K (.pointer (some (adr a (i.toNat*cz P e)))) none)
 |_,_,_=>False
def Qh(P:Program)(t:TypeId)(x i:Value)(K:RK):Prop:=
 match P.underlying t,x,i with
 |some .string,.string s,.int _ i=>∃b:UInt8,0<=i/\s[i.toNat]? =some b/\K (.int .u8 b.toNat) none
 |_,_,_=>False
def Qi(P:Program)(t:TypeId)(x:Value)(f:Nat)(K:RK):Prop:=
 match zd P t f,x with
 |some (u,off),.agg cs=>bif (P.underlying u).isSome&&(P.info? u).isSome then(bif xW P u then K (.agg ((cs.toList.drop off).take (cz P u)).toArray) none
  else(match cs.toList[off]? with|some v=>K v none|none=>False))else False
 |_,_=>False
def Y5(c a b:Value)(K:RK):Prop:=
 match c with
 | .bool c=>(match a,b with
  | .bool x,.bool y=>K (.bool (bif c then x else y)) none
  |_,_=>(match c with|true=>K a none|false=>K b none))
 |_=>False
def fi:Value->Value->Bool
 | .int _ a,.int _ b=>a==b
 | .string a,.string b=>a==b
 | .bool a,.bool b=>a==b
 |_,_=>false
def HW(k:Value):List MapEntry->Option Value
 | []=>none
 |e::es=>if fi k e.key then some e.val else HW k es
def keysOf(c:CK)(es:List MapEntry):Prop:=∀e∈es,∃x:c.den,e.key=c.enc x
def jH(c:CK)(z:Value)(h:ad)(m:Option Nat)(k v:Value)(ok:Bool):Prop:=
 match m with
 |none=>v=z/\ok=false
 |some r=>∃es clock,h[r]? =some (.map es clock)/\keysOf c es.toList/\
  (match HW k es.toList with|some u=>v=u/\ok=true|none=>v=z/\ok=false)
def KT(P:Program)(t:TypeId):Option (CK×TypeId):=
 match P.underlying t with
 |some (.map k e)=>match P.underlying k with
  |some (.int i)=>some (.int i,e)
  |some .string=>some (.str,e)
  |some .bool=>some (.bool,e)
  |_=>none
 |_=>none
def Mi(P:Program)(t:TypeId)(x k:Value)(ok:Bool)(K:RK)(h:ad):Prop:=
 match KT P t,x with
 |some (c,e),.map m=>c.dec k λ_=>
  (match HL P e,yJ P e with
   |some ek,some z=>∃(y:ek.den) (b:Bool),jH c z h m k (ek.enc y) b/\
    K (bif ok then .tuple #[ek.enc y,.bool b]else ek.enc y) (some λh'=>jH c z h' m k (ek.enc y) b)
   |_,_=>False)
 |_,_=>False
def IE(h:ad)(m:Option Nat)(n:Nat):Prop:=
 match m with
 |none=>n=0
 |some r=>∃es clock,h[r]? =some (.map es clock)/\n=es.size
def S9(c:Bool)(h:ad)(m:Option Nat)(n:Nat):Prop:=
 match m with
 |none=>n=0
 |some r=>∃cap buf cl s q,h[r]? =some (.chan cap buf cl s q false)/\n=bif c then cap else buf.size
def Zy(P:Program)(t:TypeId)(x:Value)(K:RK)(h:ad):Prop:=
 match P.underlying t,x with
 |some .string,.string s=>K (.int .i64 s.size) none
 |some (.array n _),_=>K (.int .i64 n) none
 |some (.slice _),.slice _ n _=>K (.int .i64 n) none
 |some (.map _ _),.map m=>∃n:Nat,IE h m n/\K (.int .i64 n) (some λh'=>IE h' m n)
 |some (.chan _ _),.chan m=>∃n:Nat,S9 false h m n/\K (.int .i64 n) (some λh'=>S9 false h' m n)
 |_,_=>False
def Zz(P:Program)(t:TypeId)(x:Value)(K:RK)(h:ad):Prop:=
 match P.underlying t,x with
 |some (.slice _),.slice _ _ n=>K (.int .i64 n) none
 |some (.chan _ _),.chan m=>∃n:Nat,S9 true h m n/\K (.int .i64 n) (some λh'=>S9 true h' m n)
 |_,_=>False
def Mv(c:Bool)(k:IntKind):Int->c5->(Value->Prop)->Prop
 |a,[],f=>f (.int k a)
 |a,.int k' b::vs,f=>bif MC k' k then Mv c k (bif c then(if b>a then b else a)else(if b<a then b else a)) vs f else False
 |_,_,_=>False
def Gs(b:Bool)(vs:c5)(f:Value->Prop):Prop:=
 match vs with
 | .int k a::vs=>Mv b k a vs f
 |_=>False
def xX(h:ad)(i:Nat)(e:MapEntry):Prop:=
 ∃m since seen last stamp es,h[i]? =some (.mapIter (some m) since seen last)/\seen.back? =some stamp/\h[m]? =some (.map es last)/\es.find? (λe=>e.born==stamp)=some e
def rg(P:Program)(t:TypeId):Bool:=match P.underlying t with|some (.interface _)=>false|some _=>true|none=>false
def Sn(P:Program)(t:TypeId)(x:Value)(K:RK):Prop:=
 bif rg P t then(match HL P t with
  |some k=>∃y:k.den,x=.iface t (k.enc y)/\K (k.enc y) none
  |none=>False)else False
def Oa(cs:c5)(off:Nat)(vs:c5):c5:=cs.take off++vs++cs.drop (off+vs.length)
def E8(a:Nat->Option (Nat×Nat)):c5->List (Nat×Value)->Option c5
 |cs,[]=>some cs
 |cs,(i,v)::rest=>match a i with
  |none=>none
  |some (off,size)=>bif aO v.cells.toList.length size&&ye (off+v.cells.toList.length) cs.length then E8 a (Oa cs off v.cells.toList) rest else none
def q9(r:cN):List (Nat×Operand)->Option (List (Nat×Value))
 | []=>some []
 |(i,o)::ps=>match cU r o,q9 r ps with
  |some v,some vs=>some ((i,v)::vs)
  |_,_=>none
def rL(P:Program)(t:TypeId):Option c5:=match yJ P t with|some z=>some z.cells.toList|none=>none
def dg(n:Nat)(z:c5):c5:=(fW n z).flatten
def zY(P:Program)(t:TypeId):Bool:=match P.info? t with|some _=>true|none=>false
def CJ(P:Program):List Field->Bool
 | []=>true
 |f::fs=>bif zY P f.type then CJ P fs else false
def Qo(P:Program)(a:List Field)(i:Nat):Option (Nat×Nat):=match a[i]? with|some f=>some (f.offset,cz P f.type)|none=>none
def MW(P:Program)(t:TypeId)(a:List (Nat×Value)):Option c5:=
 match P.underlying t,rL P t with
 |some (.struct fs),some z=>bif CJ P fs.toList then E8 (Qo P fs.toList) z a else none
 |some (.array _ e),some z=>bif zY P e then E8 (λi=>some (i*cz P e,cz P e)) z a else none
 |_,_=>none
def Qf(v:Value)(K:RK):Prop:=
 match v with
 | .slice a _ c=>(a=none\/c≠0)/\K (.pointer a) none
 |_=>False
def DC(P:Program)(ek:Option (Kind×Kind))(o:Op)(r:cN)(K:RK)(h:ad):Prop:=
 match o with
 | .entry it=>match cU r it,ek with
  |some (.pointer (some a)),some (kk,vk)=>a.off=0/\∃(e:MapEntry) (x:kk.den) (y:vk.den),xX h a.block e/\e.key=kk.enc x/\e.val=vk.enc y/\
    K (.tuple #[kk.enc x,vk.enc y]) (some λh'=>xX h' a.block e)
  |_,_=>False
 | .move x| .assign x=>match cU r x with|some v=>K v none|none=>False
 | .load t a=>match cU r a with|some v=>N4 P t v K h|none=>False
 | .nilCheck x=>match cU r x with|some (.pointer p)=>∃a,p=some a/\K (.pointer (some a)) none|_=>False
 | .binOp op t x y _=>match V6 y,cU r x,cU r y with
  |true,some v,some u=>(match op with
   | .eql=>X6 P t false v u K
   | .neq=>X6 P t true v u K
   |op=>X0 P op t v u K h)
  |false,some (.agg v),some (.agg u)=>ZA P op t v.toList u.toList K h
  |false,some v,some u=>X0 P op t v u K h
  |_,_,_=>False
 | .unOp op _ x=>match cU r x with|some v=>abP op v K|none=>False
 | .convert s d x=>match cU r x with|some v=>VB P s d v K h|none=>False
 | .pick c a b=>match cU r c,cU r a,cU r b with|some c,some a,some b=>Y5 c a b K|_,_,_=>False
 | .extract x i=>match cU r x with
  |some (.tuple vs)=>(match vs.toList[i]? with|some v=>K v none|none=>False)
  |_=>False
 | .fieldAddr t x f=>match cU r x,zd P t f with
  |some (.pointer (some a)),some (u,off)=>bif aO (cz P u) 0 then False else K (.pointer (some (adr a off))) none
  |_,_=>False
 | .field t x f=>match cU r x with|some v=>Qi P t v f K|none=>False
 | .indexAddr t x i=>match cU r x,cU r i with|some v,some u=>Bg P t v u K|_,_=>False
 | .index t x i=>match cU r x,cU r i with|some v,some u=>Qh P t v u K|_,_=>False
 | .slice t x lo hi mx=>match cU r x,KB r lo,KB r hi,KB r mx with
  |some v,some l,some h',some m=>Qe P t v l h' m K
  |_,_,_,_=>False
 | .lookup t x k ok=>match cU r x,cU r k with|some v,some u=>Mi P t v u ok K h|_,_=>False
 | .makeInterface t x=>match cU r x with|some v=>bif rg P t then K (.iface t v) none else False|none=>False
 | .typeAssert x _ t ok=>match cU r x with|some v=>bif ok then False else Sn P t v K|none=>False
 | .build t ps=>match q9 r ps.toList with
  |some vs=>(match MW P t vs with|some cs=>K (.agg cs.toArray) none|none=>False)
  |none=>False
 | .makeFunc fn first cap=>match oT r first.toList,oT r cap.toList with
  |some vs,some us=>K (.func fn vs.toArray us.toArray) none
  |_,_=>False
 | .call c=>match c.callee,oT r c.args.toList,c.argTypes.toList with
  | .builtin .len,some [v],[t]=>Zy P t v K h
  | .builtin .cap,some [v],[t]=>Zz P t v K h
  | .builtin .min,some vs,_=>Gs false vs λv=>K v none
  | .builtin .max,some vs,_=>Gs true vs λv=>K v none
  | .builtin .unsafeSliceData,some [v],_=>Qf v K
  |_,_,_=>False
 |_=>False
abbrev WK:=Value->ad->Prop
def aH(h:ad):Addr:=⟨h.size,0,none⟩
def hnew(h:ad)(cs:c5)(t:TypeId):ad:=h.push (.cells cs.toArray t (0,0))
def cA:c5->Bool
 | []=>true
 |v::vs=>(match v with| .agg _=>false| .tuple _=>false|_=>true)&&cA vs
def fu(h:ad)(a:Addr):Nat->c5->ad
 |_,[]=>h
 |i,v::vs=>fu (hset h (adr a i) v) a (i+1) vs
def fe(h:ad)(a:aT)(i:Nat)(vs:c5):ad:=match a with|some a=>fu h a i vs|none=>h
def qR(h:ad)(a:aT)(i:Nat)(vs:c5):Prop:=vs= []\/∃b,a=some b/\∀j,j<vs.length->Wr h (adr b (i+j))
def PH(P:Program)(t:TypeId)(a v:Value)(K:WK)(h:ad):Prop:=
 match a with
 | .pointer (some a)=>bif aO v.cells.toList.length (cz P t)&&cA v.cells.toList then VM P t
   (match v.cells.toList with
    | [v]=>Wr h a/\K undef (hset h a v)
    |vs=>qR h (some a) 0 vs/\K undef (fu h a 0 vs))
  else False
 |_=>False
def W5(P:Program)(e:TypeId)(base:aT)(sl b a:Nat)(xs:c5)(K:WK)(h:ad):Prop:=
 (sl+a<=b->qR h base (sl*cz P e) xs/\cA xs=true/\K (.slice base (sl+a) b) (fe h base (sl*cz P e) xs))/\
 (b<sl+a->∃old z,SRow h base (sl*cz P e) old/\rL P e=some z/\0<rS P e/\Builtin.nextslicecap (sl+a) b*rS P e<=2^48/\
  ∀nc,sl+a<=nc->K (.slice (some (aH h)) (sl+a) nc) (hnew h (old++xs++dg (nc-(sl+a)) z) e))
def Gi(P:Program)(t:TypeId)(s x:Value)(K:WK)(h:ad):Prop:=
 match ym P t,s,x with
 |some e,.slice b sl sc,.slice a xl _=>VM P e (∃xs,SRow h a (xl*cz P e) xs/\W5 P e b sl sc xl xs K h)
 |some e,.slice b sl sc,.string x=>bif aO (cz P e) 1 then W5 P e b sl sc x.size (dz x) K h else False
 |_,_,_=>False
def GR(P:Program)(t:TypeId)(s x:Value)(K:WK)(h:ad):Prop:=
 match ym P t,s,x with
 |some e,.slice b sl sc,.int _ l=>(match rL P e with
  |some z=>bif aO z.length (cz P e)then(0<=l/\l*rS P e<=2^48/\l<=9223372036854775807/\((sl+l.toNat:Nat):Int)<=9223372036854775807)/\W5 P e b sl sc l.toNat (dg l.toNat z) K h else False
  |none=>False)
 |_,_,_=>False
def PJ(P:Program)(t:TypeId)(x:Value)(K:WK)(h:ad):Prop:=
 match ym P t,x with
 |some e,.slice a n _=>(match rL P e with
  |some z=>bif cA z then qR h a 0 (dg n z)/\K (.tuple #[]) (fe h a 0 (dg n z))else False
  |none=>False)
 |_,_=>False
def U7(P:Program)(t:TypeId)(d s:Value)(K:WK)(h:ad):Prop:=
 match ym P t,d,s with
 |some e,.slice b dl _,.slice a sl _=>VM P e (∃xs,SRow h a (dF sl dl*cz P e) xs/\qR h b 0 xs/\cA xs=true/\K (.int .i64 (dF sl dl)) (fe h b 0 xs))
 |some e,.slice b dl _,.string x=>bif aO (cz P e) 1 then qR h b 0 ((dz x).take dl)/\K (.int .i64 (dF x.size dl)) (fe h b 0 ((dz x).take dl))else False
 |_,_,_=>False
def Mm(k v:Value)(a:Nat):List MapEntry->List MapEntry×Nat
 | []=>([{key:=k,val:=v,born:=a}],a+1)
 |e::es=>if fi k e.key then({e with key:=k,val:=v}::es,a)else let r:=Mm k v a es;(e::r.1,r.2)
def H5(k:Value):List MapEntry->List MapEntry
 | []=> []
 |e::es=>if fi k e.key then es else e::H5 k es
def vq(c:CK)(h:ad)(r:Nat):Prop:=∃es clock,h[r]? =some (.map es clock)/\keysOf c es.toList
def fC(h:ad)(r:Nat)(k v:Value):ad:=
 match h[r]? with
 |some (.map es clock)=>h.setIfInBounds r (.map (Mm k v clock es.toList).1.toArray (Mm k v clock es.toList).2)
 |_=>h
def rk(h:ad)(r:Nat)(k:Value):ad:=
 match h[r]? with
 |some (.map es clock)=>h.setIfInBounds r (.map (H5 k es.toList).toArray clock)
 |_=>h
def Gh(P:Program)(t:TypeId)(m k v:Value)(K:WK)(h:ad):Prop:=
 match KT P t,m with
 |some (c,_),.map m=>c.dec k λ_=>∃r,m=some r/\vq c h r/\K undef (fC h r k v)
 |_,_=>False
def Rm(c:CK)(h:ad)(r:Nat)(k:Value)(n:Nat):Prop:=∃es,h[r]? =some (.map es n)/\keysOf c es.toList/\es.toList.findIdx? (λe=>fi k e.key)=none
def Ro(h:ad)(r:Nat)(n:Int):Prop:=∃es clock i,h[r]? =some (.map es clock)/\es.findIdx? (λe=>(e.born:Int)==n)=some i
def Qw(h:ad)(r:Nat)(n:Int)(v:Value):ad:=
 match h[r]? with
 |some (.map es clock)=>(match es.findIdx? (λe=>(e.born:Int)==n)with|some i=>h.setIfInBounds r (.map (es.modify i λe=>{e with val:=v}) clock)|none=>h)
 |_=>h
def DJ(P:Program)(t:TypeId)(m k:Value)(K:WK)(h:ad):Prop:=
 match KT P t,m with
 |some (c,e),.map m=>(match yJ P e with
  |some z=>c.dec k λ_=>∃r,m=some r/\∃n:Nat,Rm c h r k n/\K (.tuple #[z,.int .i64 (n:Int)]) (fC h r k z)
  |none=>False)
 |_,_=>False
def GP(m s v:Value)(K:WK)(h:ad):Prop:=
 match m,s with
 | .map m,.int _ n=>∃r,m=some r/\Ro h r n/\K undef (Qw h r n v)
 |_,_=>False
def GN(P:Program)(t:TypeId)(m k:Value)(K:WK)(h:ad):Prop:=
 match KT P t,m with
 |some (c,_),.map m=>c.dec k λ_=>(m=none/\K (.tuple #[]) h)\/(∃r,m=some r/\vq c h r/\K (.tuple #[]) (rk h r k))
 |_,_=>False
def Vv(P:Program):List TypeId->Option (List Kind)
 | []=>some []
 |t::ts=>match HL P t,Vv P ts with
  |some k,some ks=>some (k::ks)
  |_,_=>none
def Vw(P:Program)(t:TypeId):Option (List Kind):=
 match P.underlying t with
 |some (.tuple ts)=>Vv P ts.toList
 |_=>Vv P [t]
def Y1(P:Program)(f:Operand)(r:cN)(args:c5)(t:TypeId)(K:WK)(h:ad):Prop:=
 match Vw P t with
 |none=>False
 |some ks=>match f with
  | .func f=>HC P f args ks (λx h'=>K (DY ks (nI ks x)) h') h
  |f=>match cU r f with
   |some fv=>HV P fv args ks (λx h'=>K (DY ks (nI ks x)) h') h
   |none=>False
def U6(b:Value)(K:WK)(h:ad):Prop:=
 match b with
 | .pointer (some a)=>a.off=0/\
  ∃m since seen last,h[a.block]? =some (.mapIter m since seen last)/\
   ((m=none/\K (.tuple #[.bool false]) h)\/
    (∃r es clock,m=some r/\h[r]? =some (.map es clock)/\(seen.isEmpty=true\/es.isEmpty=true\/es.all (λe=>decide (e.born>=last))=false)/\
     ((∀e∈es.toList,e.born<since->seen.contains e.born=true)->K (.tuple #[.bool false]) h)/\
     (∀e∈es.toList,seen.contains e.born=false->K (.tuple #[.bool true,e.key,e.val]) (h.setIfInBounds a.block (.mapIter (some r) since (seen.push e.born) clock)))))
 |_=>False
def PI(c:Value)(K:WK)(h:ad):Prop:=
 match c with
 | .pointer (some a)=>a.off=0/\∃s pos,h[a.block]? =some (.stringIter s pos)/\
  ((s.size<=pos/\K (.tuple #[.bool false]) h)\/
   (∃b:UInt8,s[pos]? =some b/\b.toNat<128/\K (.tuple #[.bool true,.int .i64 pos,.int .i32 b.toNat]) (h.setIfInBounds a.block (.stringIter s (pos+1)))))
 |_=>False
def SO(h:ad)(g n:Nat):ad:=
 h.modify g fun
  | .cells c elem (lo,hi)=>.cells c elem (if lo==hi then(0,0+n)else(min lo 0,max hi (0+n)))
  |o=>o
def abl(e:TypeId)(a:aT)(n:Int)(h:ad)(K:dO->eu):Prop:=
 (n=0/\K ⟨#[]⟩ h)\/∃(l:c6) (g:Nat) (cs:Array Value),a=some ⟨g,0,none⟩/\n=l.length/\l≠[]/\l.length<=9223372036854775807/\h[g]? =some (.cells cs e (0,0))/\l.length<=cs.size/\
  (∀(j:Nat) (x:UInt8),l[j]? =some x->cs[j]? =some (.int .u8 x.toNat))/\K ⟨l.toArray⟩ (SO h g l.length)
def U5(P:Program)(t:TypeId)(p n:Value)(K:WK)(h:ad):Prop:=
 match P.underlying t,p,n with
 |some (.pointer e),.pointer a,.int .i64 n=>bif aO (P.cellsOf e) 1 then abl e a n h (λs h'=>K (.string s) h')else False
 |_,_,_=>False
def GL(P:Program)(o:Oper)(r:cN)(K:WK)(h:ad):Prop:=
 match o.op with
 | .alloc t=>(match rL P t with|some z=>K (.pointer (some (aH h))) (hnew h z t)|none=>False)
 | .box t x=>(match cU r x with|some v=>K (.pointer (some (aH h))) (hnew h v.cells.toList t)|none=>False)
 | .build t ps=>(match q9 r ps.toList with
  |some vs=>(match MW P t vs with|some cs=>K (.agg cs.toArray) h|none=>False)
  |none=>False)
 | .buildSlice t n ps=>(match ym P t,q9 r ps.toList with
  |some e,some vs=>(match rL P e with
   |some z=>bif ye (n*cz P e) 16777216&&aO z.length (cz P e)then
     (match E8 (λi=>some (i*cz P e,cz P e)) (dg n z) vs with|some cs=>K (.slice (some (aH h)) n n) (hnew h cs e)|none=>False)
    else False
   |none=>False)
  |_,_=>False)
 | .store t a x=>(match cU r a,cU r x with|some a,some v=>PH P t a v K h|_,_=>False)
 | .mapUpdate t m k x=>(match cU r m,cU r k,cU r x with|some m,some k,some v=>Gh P t m k v K h|_,_,_=>False)
 | .mapEntry t m k=>(match cU r m,cU r k with|some m,some k=>DJ P t m k K h|_,_=>False)
 | .entryStore _ m s x=>(match cU r m,cU r s,cU r x with|some m,some s,some v=>GP m s v K h|_,_,_=>False)
 | .insert t m k x=>(match cU r m,cU r k,cU r x with|some m,some k,some v=>Gh P t m k v K h|_,_,_=>False)
 | .makeMap t n=>(match n with
  |none=>K (.map (some h.size)) (h.push (.map #[] 0))
  |some n=>(match cU r n,P.underlying t with|some (.int _ _),some (.map _ _)=>K (.map (some h.size)) (h.push (.map #[] 0))|_,_=>False))
 | .makeSlice t l c=>(match ym P t,cU r l,cU r c with
  |some e,some (.int _ l),some (.int _ c)=>(match rL P e with
   |some z=>bif aO z.length (cz P e)then(0<=l/\l<=c/\c<=9223372036854775807/\rS P e*c<=2^48)/\K (.slice (some (aH h)) l.toNat c.toNat) (hnew h (dg c.toNat z) e)else False
   |none=>False)
  |_,_,_=>False)
 | .convert s d x=>(match P.underlying s,P.underlying d,cU r x with
  |some .string,some (.slice e),some (.string v)=>bif QI P e then ByP e v h (λc h'=>K (.slice (some (aH h)) v.size c) h')else False
  |_,_,_=>False)
 | .range t x=>(match P.underlying t,cU r x with
  |some (.map _ _),some (.map m)=>∃clock,(m=none/\clock=0\/∃r es,m=some r/\h[r]? =some (.map es clock))/\K (.pointer (some (aH h))) (h.push (.mapIter m clock #[] clock))
  |some .string,some (.string s)=>K (.pointer (some (aH h))) (h.push (.stringIter s 0))
  |_,_=>False)
 | .next it false=>(match cU r it with|some it=>U6 it K h|none=>False)
 | .next it true=>(match cU r it with|some it=>PI it K h|none=>False)
 | .call c=>(match c.callee,oT r c.args.toList with
  | .builtin .append,some [s,x]=>(match c.argTypes.toList with| [t,u]=>(match P.underlying u with|some (.slice _)=>Gi P t s x K h|some .string=>Gi P t s x K h|some (.int _)=>GR P t s x K h|_=>False)|_=>False)
  | .builtin .clear,some [x]=>(match c.argTypes.toList with| [t]=>PJ P t x K h|_=>False)
  | .builtin .copy,some [d,s]=>(match c.argTypes.toList with| [t,_]=>U7 P t d s K h|_=>False)
  | .builtin .unsafeString,some [p,n]=>(match c.argTypes.toList with| [t,_]=>U5 P t p n K h|_=>False)
  | .builtin .delete,some [m,k]=>(match c.argTypes.toList with| [t,_]=>GN P t m k K h|_=>False)
  | .value f,some args=>Y1 P f r args o.type K h
  |_,_=>False)
 |_=>False
def yo(P:Program):Op->Bool
 | .convert s d _=> !ZL P s d
 | .alloc _| .box .. | .buildSlice .. | .store .. | .mapUpdate .. | .mapEntry .. | .entryStore .. | .insert .. | .makeMap .. | .makeSlice .. | .range .. | .next .. =>false
 | .call c=>match c.callee with
  | .builtin .len| .builtin .cap| .builtin .min| .builtin .max| .builtin .unsafeSliceData=>true
  |_=>false
 |_=>true
def Bw(N:Nat)(o:Oper)(v:Value)(r:cN)(K:cN->Prop):Prop:=
 match o.dst with
 |none=>K r
 |some d=>bif Ac d N then K ((d,v)::r)else False
def aab(P:Program)(N:Nat)(ek:Option (Kind×Kind))(o:Oper)(r:cN)(K:cN->eu)(h:ad):Prop:=
 bif yo P o.op then DC P ek o.op r (λv _=>Bw N o v r λa=>K a h) h
 else GL P o r (λv h'=>Bw N o v r λa=>K a h') h
inductive DV where
 |f|t|u|x
abbrev xC:=List (Nat×DV)
def sr(d:xC)(t:Nat):DV:=
 fh (motive:=λ_=>DV) .x (λa _ b=>bif aO a.1 t then a.2 else b) d
def CB(d:xC):Operand->DV
 | .tmp t=>sr d t
 | .const (.bool true)=>.t
 | .const (.bool false)=>.f
 |_=>.x
def Nm(d:xC):Op->DV
 | .move x=>CB d x
 | .assign x=>CB d x
 | .pick c a b=>match CB d c with
  | .t=>CB d a
  | .f=>CB d b
  |_=>.x
 | .unOp .not _ x=>match CB d x with
  | .t=>.f
  | .f=>.t
  |_=>.x
 |_=>.x
def sY(d:xC)(o:Oper)(v:DV):xC:=match o.dst with|some t=>(t,v)::d|none=>d
def jx(ops:List Oper)(d:xC)(o:Oper):Option Bool:=
 match o.guard with
 |none=>some true
 |some (j,want)=>match ops[j]? with
  |none=>none
  |some oj=>match oj.dst with
   |none=>none
   |some t=>match sr d t with
    | .t=>some want
    | .f=>some (!want)
    | .u=>some false
    | .x=>none
def HR(ops:List Oper)(o:Oper):Option Nat:=
 match o.guard with
 |none=>none
 |some (j,_)=>match ops[j]? with
  |none=>none
  |some oj=>oj.dst
def Kl(P:Program)(N:Nat)(ek:Option (Kind×Kind))(ops:List Oper)(o:Oper)(d:xC)(r:cN)(h:ad)(K:xC->cN->eu):Prop:=
 match jx ops d o with
 |some true=>aab P N ek o r (K (sY d o (Nm d o.op))) h
 |some false=>Bw N o undef r λa=>K (sY d o .u) a h
 |none=>False
def Hc(P:Program)(N:Nat)(ek:Option (Kind×Kind))(ops:List Oper)(l:List Oper):xC->(cN->eu)->cN->ad->Prop:=
 fh (motive:=λ_=>xC->(cN->eu)->cN->eu) (λ_ K r h=>K r h)
  (λo _ c d K r h=>
  match jx ops d o with
  |some true=>aab P N ek o r (λa h'=>c (sY d o (Nm d o.op)) K a h') h
  |some false=>Bw N o undef r λa=>c (sY d o .u) K a h
  |none=>match HR ops o with
   |none=>False
   |some t=>match kQ r t with
    |some (.bool b)=>fN b
     (Kl P N ek ops o ((t,.t)::d) ((t,.bool true)::r) h λe a h'=>c e K a h')
     (Kl P N ek ops o ((t,.f)::d) ((t,.bool false)::r) h λe a h'=>c e K a h')
    |_=>False) l
inductive DA where
 |done
 |take (i:Nat) (rest:DA)
 |all (l:DA)
 |pick (i:Nat) (rest more:DA)
 |last (i:Nat) (rest:DA)
 |lastT (i:Nat) (rest:DA)
 |split (t:Nat) (yes no:DA)
abbrev rY:=List (Nat×(eu))
def tb(m i:Nat):Bool:=aO (j5 (Nat.shiftRight m i) 1) 1
def gR(i:Nat):Nat:=Nat.pow 2 i
inductive DM where
 |mk (am fr lk ds:Nat)
def DM.am:DM->Nat| .mk a _ _ _=>a
def DM.fr:DM->Nat| .mk _ f _ _=>f
def DM.lk:DM->Nat| .mk _ _ l _=>l
def DM.ds:DM->Nat| .mk _ _ _ d=>d
def jy(o:Oper)(i:Nat):Bool:=o.after.toList.any λe=>aO e.on i&&Region.binds .any e
def nK(l:List Edge):Nat:=
 fh (motive:=λ_=>Nat) 0 (λe _ a=>bif Region.binds .any e then cV (gR e.on) a else a) l
def mJ(l:List Operand):Nat:=
 fh (motive:=λ_=>Nat) 0 (λo _ a=>match o with| .tmp t=>cV (gR t) a|_=>a) l
def oI(o:Oper):Nat:=match o.dst with|some d=>gR d|none=>0
def pk(ops:List Oper)(o:Oper):Nat:=
 cV (mJ o.op.operands.toList) (match o.guard with
  |some (g,_)=>(match ops[g]? with|some og=>oI og|none=>0)
  |none=>0)
def yY(ops:List Oper)(l:List Oper):List DM->Bool:=
 fh (motive:=λ_=>List DM->Bool) (λms=>match ms with| []=>true|_=>false)
  (λo _ a ms=>match ms with
   |m::ms=>aO (nK o.after.toList) m.am&&aO (pk ops o) m.lk&&aO (oI o) m.ds&&a ms
   | []=>false) l
def Ej(x y:DM):Bool:=aO (j5 x.ds (cV y.lk y.ds)) 0&&aO (j5 y.ds x.lk) 0
def K7(i:Nat)(m:DM)(l:List DM):Nat->Bool:=
 fh (motive:=λ_=>Nat->Bool) (λ_=>true)
  (λn _ a j=>(!(tb m.fr j)||aO j i||tb n.am i||Ej m n)&&a (fz j)) l
def Cy(all:List DM)(l:List DM):Nat->Bool:=
 fh (motive:=λ_=>Nat->Bool) (λ_=>true) (λm _ a i=>K7 i m all 0&&a (fz i)) l
def Om:List Oper->Bool
 | []=>true
 |o::os=>(match o.op with| .select .. =>false| .defer _=>false|_=>true)&&Om os
def Gu(ops:List Oper)(ms:List DM):Bool:=yY ops ops ms&&Cy ms ms 0&&Om ops
def pG(o:Oper):rY->rY
 | []=> []
 |(k,S)::l=>bif jy o k then pG o l else(k,S)::pG o l
def tR:rY->ad->Prop->Prop
 | [],_,R=>R
 |(_,S)::l,h,R=>S h/\tR l h R
def Ks(m:DM)(ls:Nat):Bool:=aO (j5 m.am ls) m.am
def mN(ls:Nat)(l:List DM):Nat->List Nat:=
 fh (motive:=λ_=>Nat->List Nat) (λ_=> []) (λm _ a j=>bif !(tb ls j)&&Ks m ls then j::a (fz j)else a (fz j)) l
def G3(m:DM)(i ls n:Nat):Bool:= !(tb ls i)&&Ks m ls&&aO (j5 (cV ls m.fr) (zH (gR n))) (zH (gR n))
def xP:List Nat->List Nat->Bool
 | [],[]=>true
 |a::as,b::bs=>aO a b&&xP as bs
 |_,_=>false
def Ec:DA->List Nat
 | .pick i _ l=>i::Ec l
 | .last i _=> [i]
 | .lastT i _=> [i]
 |_=> []
def Ty(P:Program)(N:Nat)(ops:List Oper)(i:Nat)(L:rY)(d:xC)(r:cN)(h:ad)(K:rY->xC->cN->eu):Prop:=
 match ops[i]? with
 |none=>False
 |some o=>match jx ops d o with
  |some true=>bif yo P o.op then DC P none o.op r (λv _=>Bw N o v r λa=>tR (pG o L) h (K (pG o L) (sY d o .x) a h)) h else GL P o r (λv h'=>Bw N o v r λa=>tR (pG o L) h' (K (pG o L) (sY d o .x) a h')) h
  |_=>False
def US(m:Nat)(l:List DM):Nat->Nat:=
 fh (motive:=λ_=>Nat->Nat) (λ_=>m) (λn _ a j=>bif tb m j then cV n.am (a (fz j))else a (fz j)) l
def CC(ms:List DM)(m:Nat):Nat:=US (US (US (US m ms 0) ms 0) ms 0) ms 0
def M7(ms:List DM)(i:Nat):Nat:=match ms[i]? with|some m=>m.am|none=>0
def Cg(m:Nat):rY->rY
 | []=> []
 |(k,S)::l=>bif tb m k then Cg m l else(k,S)::Cg m l
def Sb(P:Program)(N:Nat)(ops:List Oper)(ms:List DM)(i:Nat)(L:rY)(d:xC)(r:cN)(h:ad)(K:rY->xC->cN->eu):Prop:=
 match ops[i]? with
 |none=>False
 |some o=>match jx ops d o with
  |some true=>bif yo P o.op then False else GL P o r (λv h'=>Bw N o v r λa=>tR (Cg (CC ms (M7 ms i)) L) h' (K (Cg (CC ms (M7 ms i)) L) (sY d o .x) a h')) h
  |_=>False
def oo(P:Program)(N:Nat)(ops:List Oper)(ms:List DM)(j:DA):Bool->Nat->rY->xC->(cN->eu)->cN->ad->Prop:=
 DA.rec (motive:=λ_=>Bool->Nat->rY->xC->(cN->eu)->cN->eu)
  (λm ls _ _ K r h=>bif !m&&xP (mN ls ms 0) []then K r h else False)
  (λi _ c m ls L d K r h=>
   match ops[i]?,ms[i]? with
   |some o,some mi=>bif !m&&G3 mi i ls ops.length then
     (match jx ops d o with
      |none=>False
      |some false=>Bw N o undef r λa=>c false (cV ls (gR i)) L (sY d o .u) K a h
      |some true=>bif yo P o.op then
       DC P none o.op r (λv S=>Bw N o v r λa=>match S with
        |none=>c false (cV ls (gR i)) L (sY d o (Nm d o.op)) K a h
        |some S=>c false (cV ls (gR i)) ((i,S)::L) (sY d o (Nm d o.op)) K a h) h
       else False)
    else False
   |_,_=>False)
  (λl c m ls L d K r h=>bif !m&&xP (mN ls ms 0) (Ec l)then c true ls L d K r h else False)
  (λi _ _ e f m ls L d K r h=>bif m then Ty P N ops i L d r h (λL' g a h'=>e false (cV ls (gR i)) L' g K a h')/\f true ls L d K r h else False)
  (λi _ c m ls L d K r h=>bif m then Ty P N ops i L d r h (λL' g a h'=>c false (cV ls (gR i)) L' g K a h')else False)
  (λi _ c m ls L d K r h=>bif m then Sb P N ops ms i L d r h (λL' g a h'=>c false (cV ls (gR i)) L' g K a h')else False)
  (λt _ _ e f m ls L d K r h=>
   bif m then False else match kQ r t with
   |some (.bool b)=>fN b (e false ls L ((t,.t)::d) K ((t,.bool true)::r) h) (f false ls L ((t,.f)::d) K ((t,.bool false)::r) h)
   |_=>False)
  j
def ab4(_:Oper)(i:Nat)(ds lk:Nat)(ops:List Oper)(l:List Oper):Nat->Nat:=
 fh (motive:=λ_=>Nat->Nat) (λ_=>0) (λp _ a j=>bif (aO j i||jy p i||(aO (j5 ds (cV (pk ops p) (oI p))) 0&&aO (j5 (oI p) lk) 0))then cV (gR j) (a (fz j))else a (fz j)) l
def abS(ops:List Oper)(l:List Oper):Nat->List DM:=
 fh (motive:=λ_=>Nat->List DM) (λ_=> []) (λo _ a i=>.mk (nK o.after.toList) (ab4 o i (oI o) (pk ops o) ops ops 0) (pk ops o) (oI o)::a (fz i)) l
def aak(P:Program)(w:Option Bool)(o:Oper):Bool:=match w with|some false=>true|some true=>yo P o.op|none=>false
def ZO(P:Program)(ops:List Oper)(d:xC)(ls n:Nat)(l:List Oper):List DM->Nat->Option (Nat×Oper):=
 fh (motive:=λ_=>List DM->Nat->Option (Nat×Oper)) (λ_ _=>none)
  (λo _ a ms j=>match ms with
   | []=>none
   |m::ms=>bif G3 m j ls n&&aak P (jx ops d o) o then some (j,o)else a ms (fz j)) l
def ZP(ops:List Oper)(d:xC)(ls:Nat)(l:List Oper):List DM->Nat->Option Nat:=
 fh (motive:=λ_=>List DM->Nat->Option Nat) (λ_ _=>none)
  (λo _ a ms j=>match ms with
   | []=>none
   |m::ms=>match bif !(tb ls j)&&Ks m ls then(match jx ops d o with|none=>HR ops o|some _=>none)else none with
    |some t=>some t
    |none=>a ms (fz j)) l
def aaD(ops:List Oper)(k:Nat->xC->DA)(ls:Nat)(d:xC)(l:List Nat):DA:=
 fh (motive:=λ_=>DA) .done (λi a b=>match ops[i]? with
  |none=>.done
  |some o=>match a with
   | []=>.last i (k (cV ls (gR i)) (sY d o .x))
   |_=>.pick i (k (cV ls (gR i)) (sY d o .x)) b) l
def ZY(P:Program)(ops:List Oper)(ms:List DM)(fuel:Nat):Nat->xC->DA:=
 Nat.rec (motive:=λ_=>Nat->xC->DA) (λ_ _=>.done) (λ_ a ls d=>
  match ZO P ops d ls ops.length ops ms 0 with
  |some (i,o)=>.take i (a (cV ls (gR i)) (match jx ops d o with|some false=>sY d o .u|_=>sY d o (Nm d o.op)))
  |none=>match ZP ops d ls ops ms 0 with
   |some t=>.split t (a ls ((t,.t)::d)) (a ls ((t,.f)::d))
   |none=>match mN ls ms 0 with
    | []=>.done
    |l=>.all (aaD ops a ls d l)) fuel
def SB(ops:List Oper):List DM:=abS ops ops 0
inductive Ex where
 |exit (id:Nat)
 |ret
abbrev St:=List (Nat×Kind)
def A7:St->List Kind
 | []=> []
 |(_,k)::l=>k::A7 l
def G6(r:cN):St->Option c5
 | []=>some []
 |(i,_)::l=>match kQ r i,G6 r l with
  |some v,some vs=>some (v::vs)
  |_,_=>none
def EK(st:St)(r:cN)(f:uU (A7 st)->Prop):Prop:=
 match G6 r st with
 |some vs=>F3 (A7 st) vs f
 |none=>False
def oG:St->c5->cN->cN
 |(i,_)::l,v::vs,r=>(i,v)::oG l vs r
 |_,_,r=>r
def SM(r:cN)(l:List Nat):Option cN:=
 fh (motive:=λ_=>Option cN) (some []) (λt _ a=>match kQ r t,a with
  |some v,some l=>some ((t,v)::l)
  |_,_=>none) l
def mH(t:Nat)(l:List Oper):Bool:=
 fh (motive:=λ_=>Bool) false (λo _ a=>match o.dst with|some d=>bif aO d t then true else a|none=>a) l
def gv(t:Nat)(c:Code):Bool:=
 Code.rec (motive:=λ_=>Bool) false (λ_ ops _=>mH t ops.toList) (λ_ _ a b=>bif a then true else b) (λ_ _ _ a b=>bif a then true else b)
  (λ_ _ b=>b) (λ_ b=>b) (λ_ _ _ _ _ _=>true) (λ_=>false) (λ_ b=>b) (λ_=>false) (λ_=>false) false (λ_=>false) c
inductive Ann where
 |nil
 |node (a b:Ann)
 |join (st:St) (a b:Ann)
 |loop (st:St) (b:Ann)
 |draw (d:DA)
 |kinds (k v:Kind)
 |reg (keep:List Nat) (inner:Ann)
 |rf (ks:List Kind) (a b:Ann)
def Ann.l:Ann->Ann
 | .node a _=>a
 | .rf _ a _=>a
 |_=>.nil
def Ann.r:Ann->Ann
 | .node _ b=>b
 | .rf _ _ b=>b
 |_=>.nil
def U4(l:List Oper):Nat:=fh (motive:=λ_=>Nat) 0 (λo _ a=>cV (oI o) a) l
def aaF:Option Nat->Option Nat->Option Nat
 |some a,some b=>some (cV a b)
 |_,_=>none
def Ar(c:Code):Option Nat:=
 Code.rec (motive:=λ_=>Option Nat) (some 0) (λ_ ops _=>some (U4 ops.toList)) (λ_ _ a b=>aaF a b) (λ_ _ _ a b=>aaF a b)
  (λ_ _ b=>b) (λ_ b=>b) (λ_ _ _ _ _ _=>none) (λ_=>some 0) (λ_ b=>b) (λ_=>some 0) (λ_=>some 0) (some 0) (λ_=>some 0) c
def y7(m:Nat)(r:cN):cN:=fh (motive:=λ_=>cN) [] (λb _ a=>bif tb m b.1 then a else b::a) r
def DQ(P:Program)(N:Nat)(ops:List Oper)(b:Bool)(a:Ann)(Kn:cN->eu)(r:cN)(h:ad):Prop:=
 match b with
 |false=>(match a with
  | .kinds kk vk=>Hc P N (some (kk,vk)) ops ops [] Kn r h
  |_=>Hc P N none ops ops [] Kn r h)
 |true=>bif Gu ops (SB ops)then oo P N ops (SB ops) (match a with| .draw da=>da|_=>ZY P ops (SB ops) (Nat.add (Nat.add ops.length ops.length) 2) 0 []) false 0 [] [] Kn r h else False
def lI(P:Program)(N:Nat)(c:Code):Ann->(cN->eu)->(Ex->cN->eu)->cN->ad->Prop:=
 Code.rec (motive:=λ_=>Ann->(cN->eu)->(Ex->cN->eu)->cN->eu)
  (λ_ Kn _ r h=>Kn r h)
  (λ_ ops p d Kn _ r h=>match d with
   | .reg keep d=>DQ P N ops.toList p d (λf h'=>match SM f keep with|some r0=>Kn r0 h'|none=>False) r h
   |d=>DQ P N ops.toList p d Kn r h)
  (λa _ j g d Kn Kx r h=>match d with
   | .join st aa ab=>(match Ar a with
     |none=>False
     |some m=>Join (T:=uU (A7 st)) (λt h'=>g ab Kn Kx (oG st (nI (A7 st) t) (y7 m r)) h')
      λJ=>j aa (λf h'=>EK st f λt=>J t h') Kx r h)
   |d=>j d.l (λf h'=>g d.r Kn Kx f h') Kx r h)
  (λc _ _ j g d Kn Kx r h=>match cU r c with
   |some (.bool t)=>fN t (j d.l Kn Kx r h) (g d.r Kn Kx r h)
   |_=>False)
  (λid _ n d Kn Kx r h=>n d Kn (λe f h'=>match e with
    | .exit i=>bif aO i id then Kn f h' else Kx (.exit i) f h'
    | .ret=>Kx .ret f h') r h)
  (λb n d _ Kx r h=>match d with
   | .loop st ab=>(match Ar b with
     |none=>False
     |some m=>EK st r λs=>LoopP (T:=uU (A7 st)) (λk t h'=>n ab (λf o=>EK st f λq=>k q o) Kx (oG st (nI (A7 st) t) (y7 m r)) h') s h)
   |_=>False)
  (λ_ _ _ _ _ _ _ _ _ _ _=>False)
  (λid _ _ Kx r h=>Kx (.exit id) r h)
  (λ_ _ _ _ _ _ _=>False)
  (λ_ _ Kn _ r h=>Kn r h)
  (λ_ _ _ _ _ _=>False)
  (λ_ _ Kx r h=>Kx .ret r h)
  (λ_ _ _ _ _ _=>False)
  c
def oH(P:Program)(r:cN)(h:ad):List ResultVar->(c5->Prop)->Prop
 | [],K=>K []
 | .tmp t::l,K=>(match kQ r t with|some v=>oH P r h l λvs=>K (v::vs)|none=>False)
 | .cell a t::l,K=>(match kQ r a with
  |some v=>N4 P t v (λx _=>oH P r h l λvs=>K (x::vs)) h
  |none=>False)
def qQ:Nat->c5->cN
 |_,[]=> []
 |i,v::vs=>(i,v)::qQ (i+1) vs
def Hd(P:Program)(fn:Func)(c:Code)(a:Ann)(args:c5)(ks:List Kind)(K:uU ks->eu)(h:ad):Prop:=
 lI P fn.ntmps c a
  (λr h'=>oH P r h' fn.results.toList λvs=>F3 ks vs λt=>K t h')
  (λe r h'=>match e with
   | .ret=>oH P r h' fn.results.toList λvs=>F3 ks vs λt=>K t h'
   | .exit _=>False)
  (qQ 0 args) h
def H7:List Oper->Option (Oper×Oper×Operand×Nat×FuncId×List Operand)
 | [m,o]=>match m.op,m.guard,m.dst,o.op,o.dst,o.guard with
  | .move x,none,some d,.defer c,none,none=>(match c.callee with
   | .value (.func f)=>some (m,o,x,d,f,c.args.toList)
   |_=>none)
  |_,_,_,_,_,_=>none
 |_=>none
inductive Mk where
 |it (n:Nat)
 |call (f:FuncId) (vs:c5)
def HD(P:Program)(f:FuncId)(args:c5)(K:eu)(h:ad):Prop:=
 ∀w:World,w.heap=h->(∀(args:Array Value) (w:World),(callFunc f args).run P w=.ok (.enter f args) w)/\∀n:Nat,CallsDIn {fn:=λ_=>True,depth:=none,alive:=false,round:=none} n P f args.toArray .returning w λe u a=>u=.returning/\Tame w a/\(∃v,e=.returned v)/\K a.heap
def tS(c:Code):Bool:=
 Code.rec (motive:=λ_=>Bool) false (λ_ ops _=>(H7 ops.toList).isSome) (λ_ _ a b=>bif a then true else b) (λ_ _ _ a b=>bif a then true else b)
  (λ_ _ b=>b) (λ_ b=>b) (λ_ _ _ _ _ _=>true) (λ_=>false) (λ_ b=>b) (λ_=>false) (λ_=>false) false (λ_=>false) c
def MK:Option Ex->Option Code
 |none=>none
 |some (.exit i)=>some (.exit i)
 |some .ret=>some .ret
def ab5(N:eu)(X:Nat->eu)(R:eu):Option Ex->ad->Prop
 |none=>N
 |some (.exit i)=>X i
 |some .ret=>R
structure RangeP(P:Program)(fv:Value)(ks:List Kind)(h:ad)(RT:Obj->Obj->uU ks->(Option Ex->eu)->eu)(N:eu)(X:Nat->eu)(R:eu):Prop where
 run:∀lo:LoopState->Option Ex->Obj,(∀s j,∃r,lo s j=.loop r)->
  (∀x h' K,h'[h.size+1]? =some (lo .ready none)->
   RT (lo .ready none) (lo .busy none) x (λj h2=>h2[h.size+1]? =some (lo .busy none)/\K j.isNone (h2.setIfInBounds (h.size+1) (lo (if j.isNone then .ready else .done) j))) h'->
   HV P (.func (.yield (h.size+1)) #[] #[]) (nI ks x) [.c .bool] K h')->
  ∃f first cap,fv=.func (.func f) first cap/\HE P f (first.toList++ [.func (.yield (h.size+1)) #[] #[]]++cap.toList) []
   (λ_ h2=>∃s j,s≠ .busy/\h2[h.size+1]? =some (lo s j)/\ab5 N X R j (h2.setIfInBounds (h.size+1) (lo .exhausted j))) ((h.push (.deferred (some []))).push (lo .ready none))
def Xx:List Nat->c5->cN->cN
 |i::l,v::vs,r=>Xx l vs ((i,v)::r)
 |_,_,r=>r
def P2(P:Program)(N:Nat)(ps:List Nat)(ks:List Kind)(assign body:Code)(b:Ann)(r:cN)(l:Nat)(Ks d:Obj)(x:uU ks)(k:Option Ex->eu)(h:ad):Prop:=
 lI P N assign b.l (λf c=>c[l]? =some Ks/\lI P N body b.r (λ_ a=>k none a) (λe _ a=>k (some e) a) f (c.setIfInBounds l d)) (λ_ _ _=>False) (Xx ps (nI ks x) r) h
def Bm(N:Nat):List Nat->Bool
 | []=>true
 |n::l=>Ac n N&&Bm N l
def Bc(P:Program)(N:Nat)(c:Code):Ann->(List Mk->cN->eu)->(Ex->List Mk->cN->eu)->List Mk->cN->ad->Prop:=
 Code.rec (motive:=λ_=>Ann->(List Mk->cN->eu)->(Ex->List Mk->cN->eu)->List Mk->cN->eu)
  (λj Kn Kx ms r h=>lI P N .skip j (Kn ms) (λe=>Kx e ms) r h)
  (λid ops p j Kn Kx ms r h=>match H7 ops.toList with
   |none=>lI P N (.region id ops p) j (Kn ms) (λe=>Kx e ms) r h
   |some (_,_,x,d,f,as)=>bif p then False else match cU r x with
    |some v=>bif Ac d N then(match oT ((d,v)::r) as with|some vs=>Kn (.call f vs::ms) ((d,v)::r) h|none=>False)else False
    |none=>False)
  (λa b n m j Kn Kx ms r h=>bif (bif tS a then true else tS b)then n j.l (λms o h'=>m j.r Kn Kx ms o h') Kx ms r h
   else lI P N (.seq a b) j (Kn ms) (λe=>Kx e ms) r h)
  (λc a b n m j Kn Kx ms r h=>bif (bif tS a then true else tS b)then
    (match cU r c with
     |some (.bool t)=>fN t (n j.l Kn Kx ms r h) (m j.r Kn Kx ms r h)
     |_=>False)
   else lI P N (.cond c a b) j (Kn ms) (λe=>Kx e ms) r h)
  (λid b q j Kn Kx ms r h=>bif tS b then q j Kn (λe ms o h'=>match e with
    | .exit i=>bif aO i id then Kn ms o h' else Kx (.exit i) ms o h'
    | .ret=>Kx .ret ms o h') ms r h
   else lI P N (.block id b) j (Kn ms) (λe=>Kx e ms) r h)
  (λb _ j Kn Kx ms r h=>lI P N (.loop b) j (Kn ms) (λe=>Kx e ms) r h)
  (λg ps assign body _ _ j Kn Kx ms r h=>match j with
   | .rf ks aa ab=>bif Bm N ps.toList&&aO ps.toList.length ks.length then
    (match cU r g with
     |some fv=>RangeP P fv ks h (λKs s x k h'=>P2 P N ps.toList ks assign body (.node aa ab) r (h.size+1) Ks s x k h')
      (λh'=>Kn (.it h.size::ms) r h') (λi h'=>Kx (.exit i) (.it h.size::ms) r h') (λh'=>Kx .ret (.it h.size::ms) r h')
     |none=>False)else False
   |_=>False)
  (λid j Kn Kx ms r h=>lI P N (.exit id) j (Kn ms) (λe=>Kx e ms) r h)
  (λ_ _ _ _ _ _ _ _=>False)
  (λl j Kn Kx ms r h=>lI P N (.label l) j (Kn ms) (λe=>Kx e ms) r h)
  (λ_ _ _ _ _ _ _=>False)
  (λj Kn Kx ms r h=>lI P N .ret j (Kn ms) (λe=>Kx e ms) r h)
  (λ_ _ _ _ _ _ _=>False)
  c
def NR(P:Program):List Mk->(eu)->ad->Prop
 | [],K,h=>K h
 | .it D::ms,K,h=>h[D]? =some (.deferred (some []))/\NR P ms K (h.setIfInBounds D (.deferred none))
 | .call f vs::ms,K,h=>HD P f vs (λh'=>NR P ms K h') h
def P3(P:Program)(fn:Func)(c:Code)(a:Ann)(args:c5)(ks:List Kind)(K:uU ks->eu)(h:ad):Prop:=
 Bc P fn.ntmps c a
  (λms r h'=>NR P ms (λh'=>oH P r h' fn.results.toList λvs=>F3 ks vs λt=>K t h') h')
  (λe ms r h'=>match e with
   | .ret=>NR P ms (λh'=>oH P r h' fn.results.toList λvs=>F3 ks vs λt=>K t h') h'
   | .exit _=>False)
  [] (qQ 0 args) h
end
section
variable {a:Addr}{c:CK}{v x y z:Value}{k t u e ty:TypeId}{N f off len cap n m:Nat}{r:cN}{o:Operand}{d:TypeDesc}{i:TypeInfo}{s:Sem Value}{w:World}{vs cs A B:c5}{h:ad}{K:RK}{b neg ok:Bool}{l:List (aT×aT)}{lo hi:Option Value}{ats:Array TypeId}
theorem Ip(a:Addr):adr a 0=a:=rfl
theorem CM(a:Addr)(n:Nat):adr a (n+1)=⟨a.block,a.off+(n+1),none⟩:=rfl
theorem wt(a:Addr)(n:Nat):adr a n=a.add n:=by
 cases n with
 |zero=>simp[Ip,Addr.add]
 |succ n=>simp[CM,Addr.add]
theorem oJ(a:Addr)(m n:Nat):adr (adr a m) n=adr a (m+n):=by
 cases n with
 |zero=>rfl
 |succ n=>cases m with
  |zero=>simp[Ip]
  |succ m=>rw[CM,CM,show m+1+(n+1)=(m+1+n)+1 from rfl,CM];simp;omega
theorem Tame.refl(w:World):Tame w w:=⟨rfl,rfl,rfl⟩
theorem Tame.trans{a b c:World}(h:Tame a b)(k:Tame b c):Tame a c:=⟨k.os.trans h.os,k.tape.trans h.tape,k.output.trans h.output⟩
theorem Cu{a b:IntKind}(h:MC a b=true):a=b:=by cases a<;>cases b<;>first|rfl|cases h
theorem CK.dec_sound{f:c.den->Prop}(h:c.dec v f):∃x,v=c.enc x/\f x:=by
 cases c<;>cases v<;>try simp only[CK.dec]at h
 case int.int k k' n=>
  cases hk:MC k' k with
  |false=>rw[hk]at h;exact h.elim
  |true=>rw[hk]at h;have:=Cu hk;subst this;exact⟨n,rfl,h⟩
 case adr.pointer p=>cases p with
  |none=>exact h.elim
  |some a=>exact⟨a,rfl,h⟩
 all_goals first|exact h.elim|exact⟨_,rfl,h⟩
theorem Fa:∀{cs:List CK} {vs:c5} {f:Xk cs->Prop},S3 cs vs f->∃t,vs=WT cs t/\f t
 | [],[],f,h=>⟨(),rfl,h⟩
 | [],_::_,f,h=>h.elim
 | [c],[v],f,h=>by obtain⟨x,rfl,a⟩:=CK.dec_sound h;exact⟨x,rfl,a⟩
 | [c],[],f,h=>h.elim
 | [c],_::_::_,f,h=>h.elim
 |c::d::cs,[],f,h=>h.elim
 |c::d::cs,[_],f,h=>h.elim
 |c::d::cs,v::u::vs,f,h=>by
  have g:c.dec v λx=>S3 (d::cs) (u::vs) λt=>f (x,t):=h
  obtain⟨x,hx,b⟩:=CK.dec_sound g;obtain⟨t,ht,e⟩:=Fa (cs:=d::cs) (vs:=u::vs) b;exact⟨(x,t),by rw[ht,hx];rfl,e⟩
theorem Kind.dec_sound{k:Kind}{f:k.den->Prop}(h:k.dec v f):∃x,v=k.enc x/\f x:=by
 cases k with
 |c k=>exact CK.dec_sound h
 |agg cs=>
  cases v<;>simp only[Kind.dec]at h
  case agg vs=>
   obtain⟨t,ht,a⟩:=Fa h;exact⟨t,by simp only[Kind.enc,<-ht],a⟩
theorem tU:∀{ks:List Kind} {vs:c5} {f:uU ks->Prop},F3 ks vs f->∃t,vs=nI ks t/\f t
 | [],[],f,h=>⟨(),rfl,h⟩
 | [],_::_,f,h=>h.elim
 | [c],[v],f,h=>by obtain⟨x,rfl,a⟩:=Kind.dec_sound h;exact⟨x,rfl,a⟩
 | [c],[],f,h=>h.elim
 | [c],_::_::_,f,h=>h.elim
 |c::d::cs,[],f,h=>h.elim
 |c::d::cs,[_],f,h=>h.elim
 |c::d::cs,v::u::vs,f,h=>by
  have g:c.dec v λx=>F3 (d::cs) (u::vs) λt=>f (x,t):=h
  obtain⟨x,hx,b⟩:=Kind.dec_sound g;obtain⟨t,ht,e⟩:=tU (ks:=d::cs) (vs:=u::vs) b;exact⟨(x,t),by rw[ht,hx];rfl,e⟩
theorem vl:∀(ks:List Kind) (t:uU ks),(nI ks t).length=ks.length
 | [],_=>rfl
 | [_],_=>rfl
 |_::l::ks,(_,t)=>by simp only[nI,ar,vl (l::ks) t]
structure Agree(N:Nat)(r:cN)(a:Act):Prop where
 size:a.tmps.size=N
 look:∀t v,kQ r t=some v->a.tmps.getD t undef=v
theorem iT(k:Nat)(v:Value)(r:cN):kQ ((k,v)::r) k=some v:=by rw[Hh,show aO k k=true from Nat.beq_refl k];rfl
theorem gU{k t:Nat}(v:Value)(r:cN)(h:k≠t):kQ ((k,v)::r) t=kQ r t:=by
 rw[Hh];have:aO k t=false:=Bool.eq_false_iff.2 λe=>h (bD e)
 rw[this];rfl
theorem Agree.put{a:Act}(h:Agree N r a)(d:Nat)(v:Value)(hd:d<N):Agree N ((d,v)::r) (a.put (some d) v):=by
 refine⟨by simp[Act.put,h.size],λt u b=>?_⟩
 by_cases e:d=t
 .subst e
  rw[iT]at b;cases b;simp[Act.put,h.size,hd]
 .rw[gU v r e]at b
  have:=h.look t u b;simpa[Act.put,Array.getElem?_setIfInBounds_ne e]using this
theorem Agree.known{a:Act}(h:Agree N r a){t:Nat}(hv:kQ r t=some v):Agree N ((t,v)::r) a:=by
 refine⟨h.size,λs u b=>?_⟩
 by_cases e:t=s
 .subst e;rw[iT]at b;cases b;exact h.look t v hv
 .rw[gU v r e]at b;exact h.look s u b
theorem kR{a:Act}(h:Agree N r a)(hv:cU r o=some v):a.eval o=v:=by
 cases o with
 |tmp t=>exact h.look t v hv
 |const c=>simp[cU]at hv;subst hv;rfl
 |global g=>simp[cU]at hv;subst hv;rfl
 |func f=>simp[cU]at hv;subst hv;rfl
theorem nD{N:Nat}{r:cN}{a:Act}(h:Agree N r a):∀{os:List Operand} {vs:c5},oT r os=some vs->os.map a.eval=vs
 | [],vs,hv=>by simp[oT]at hv;subst hv;rfl
 |o::os,vs,hv=>by
  simp only[oT]at hv;cases ho:cU r o with
  |none=>simp[ho]at hv
  |some v=>cases hos:oT r os with
   |none=>simp[ho,hos]at hv
   |some us=>simp[ho,hos]at hv;subst hv;simp[kR h ho,nD h hos]
theorem aE{P:Program}(h:P.underlying t=some d)(w:World):(underlying t).run P w=.ok d w:=by
 simp only[underlying,program,bind,Sem.bind,nQ,h,pure]
theorem cT{P:Program}(h:P.info? t=some i)(w:World):(typeInfo t).run P w=.ok i w:=by
 simp only[typeInfo,program,bind,Sem.bind,nQ,h,pure]
theorem iY{P:Program}{a:World}(h:s.run P w=.ok v a):(do pure (Next.value (<-s)):Sem Next).run P w=.ok (.value v) a:=by
 simp[h]
theorem Vt{P:Program}{s:Sem Unit}{a:World}(h:s.run P w=.ok () a):(do s;pure Next.skip:Sem Next).run P w=.ok .skip a:=by
 simp[h]
theorem Ce{P:Program}(h:aI w.heap a=some v):(load a).run P w=.ok v w:=by
 have h':w.cell? a=some v:=h;simp[h']
theorem CG{i:Nat}:vn (v::vs) i a h↔aI h (adr a i)=some v/\vn vs (i+1) a h:=by
 cases vs with
 |nil=>simp[vn]
 |cons u us=>rfl
theorem uX{P:Program}{w:World}{a:Addr}:∀(vs:c5) (i:Nat) (acc:Array Value),vn vs i a w.heap->
  (loadCellsFrom a i vs.length acc).run P w=.ok (acc++vs.toArray) w
 | [],i,acc,_=>by simp[loadCellsFrom]
 |v::vs,i,acc,h=>by
  obtain⟨b,c⟩:=CG.1 h;rw[wt]at b;have:=uX (P:=P) (w:=w) (a:=a) vs (i+1) (acc.push v) c;simp only[ar,loadCellsFrom,bj,Ce b,aD,this];simp
theorem Js{P:Program}(h:vn vs 0 a w.heap):(loadCells a vs.length).run P w=.ok vs.toArray w:=by
 have:=uX (P:=P) (w:=w) (a:=a) vs 0 #[] h;simpa[loadCells]using this
theorem Ay:∀(cs:List CK) (i:Nat) (a:Addr) (h:ad) (k:c5->Prop),ML cs i a h k->∃vs,vs.length=cs.length/\vn vs i a h/\k vs
 | [],i,a,h,k,b=>⟨[],rfl,trivial,b⟩
 |c::cs,i,a,h,k,b=>by
  obtain⟨x,hx,b⟩:=b;obtain⟨vs,d,hc,b⟩:=Ay cs (i+1) a h _ b;exact⟨c.enc x::vs,by simp[d],CG.2 ⟨hx,hc⟩,b⟩
theorem CE:∀{vs:c5} {cs:List CK},Ic vs=some cs->cs.length=vs.length
 | [],cs,h=>by simp[Ic]at h;subst h;rfl
 |v::vs,cs,h=>by
  simp only[Ic]at h;cases h1:ZU v with
  |none=>simp[h1]at h
  |some c=>cases h2:Ic vs with
   |none=>simp[h1,h2]at h
   |some ds=>simp[h1,h2]at h;subst h;simp[CE h2]
def Xj(P:Program)(t:TypeId)(i:TypeInfo):Kind->Prop
 | .c _=>xW P t=false
 | .agg cs=>xW P t=true/\i.size=cs.length
theorem QE{P:Program}{k:Kind}(h:SJ P t=some k):∃i,P.info? t=some i/\Xj P t i k:=by
 unfold SJ yJ at h;cases hi:P.info? t with
 |none=>simp[hi]at h
 |some i=>
  refine⟨i,rfl,?_⟩;cases hz:i.zero with
  |none=>simp[hi,hz]at h
  |some z=>
   rw[hi]at h;simp only[hz]at h;cases z;case agg vs=>
    simp only at h;cases hb:(xW P t&&aO vs.toList.length (cz P t))with
    |false=>rw[hb]at h;simp at h
    |true=>
     rw[hb]at h;simp only[cond_true]at h;simp only[Bool.and_eq_true]at hb;have a:=bD hb.2;cases hd:Ic vs.toList with
     |none=>rw[hd]at h;simp at h
     |some ds=>
      rw[hd]at h;simp only[bI.injEq]at h;subst h;exact⟨hb.1,by rw[CE hd,a];simp[cz,hi]⟩
   all_goals
    simp only at h;cases ha:xW P t
    .rw[ha]at h
     simp only[cond_false]at h;split at h
     .simp only[bI.injEq]at h;subst h;exact ha
     .simp at h
    .rw[ha]at h;simp at h
theorem QF{P:Program}{k:Kind}(h:HL P t=some k):(∀w,(isAgg t).run P w=.ok (xW P t) w)/\SJ P t=some k:=by
 unfold HL at h;cases hu:P.underlying t with
 |none=>simp[hu]at h
 |some d=>
  simp only[hu]at h;refine⟨λw=>?_,h⟩
  simp only[isAgg,bj,aE hu,aD];unfold xW;rw[hu];cases d<;>rfl
theorem ES{P:Program}(b:N4 P t v K h):
  ∃u S,K u (some S)/\S h/\∀w:World,S w.heap->(Instr.loadAt t v).run P w=.ok u w:=by
 unfold N4 at b;cases v with
 |pointer p=>
  cases p with
  |none=>exact b.elim
  |some a=>
   simp only at b;cases hk:HL P t with
   |none=>simp[hk]at b
   |some k=>
    obtain⟨d,f⟩:=QF hk;obtain⟨i,hi,hc⟩:=QE f;rw[hk]at b;cases k with
    |c c=>
     obtain⟨x,hx,m⟩:=b;refine⟨_,_,m,hx,λw g=>?_⟩
     have hc:xW P t=false:=hc;simp only[Instr.loadAt,nr,loadVar,bj,bX,aD,d,hc];simp[Ce g]
    |agg cs=>
     obtain⟨vs,e,j,m⟩:=Ay cs 0 a h _ b;obtain⟨n,o⟩:xW P t=true/\i.size=cs.length:=hc;refine⟨_,_,m,j,λw g=>?_⟩
     have f:(sizeOf t).run P w=.ok vs.length w:=by simp[sizeOf,cT hi,o,e]
     simp only[Instr.loadAt,nr,loadVar,bj,bX,aD,d,n];simp[f,Js g]
 |_=>exact b.elim
def Xv(S:Option (eu))(h:ad):Prop:=match S with|none=>True|some f=>f h
def Yv(P:Program)(s:Sem Value)(K:RK)(h:ad):Prop:=∃v S,K v S/\Xv S h/\∀w:World,Xv S w.heap->s.run P w=.ok v w
theorem Yv.of_pure{P:Program}(b:K v none)(a:∀w:World,s.run P w=.ok v w):Yv P s K h:=
 ⟨v,none,b,trivial,λw _=>a w⟩
variable {P:Program}
theorem za(h:zd P t f=some (u,off)):
  ∃fs g,P.underlying t=some (.struct fs)/\fs[f]? =some g/\g.type=u/\g.offset=off:=by
 unfold zd at h;split at h
 .rename_i fs hu
  split at h
  .rename_i g hg
   simp only[bI.injEq,oL.injEq]at h;exact⟨fs,g,hu,by simpa using hg,h.1,h.2⟩
  .cases h
 .cases h
theorem A8(h:aO (cz P t) 0=false)(w:World):(sizeOf t).run P w=.ok (cz P t) w:=by
 unfold cz at h⊢;cases hi:P.info? t with
 |none=>rw[hi]at h;cases h
 |some i=>simp[sizeOf,cT hi]
theorem F1(i:zd P t f=some (u,off))
  (b:bif aO (cz P u) 0 then False else K (.pointer (some (adr a off))) none):Yv P (Instr.fieldAt t (.pointer (some a)) f) K h:=by
 obtain⟨k,g,j,d,rfl,rfl⟩:=za i;cases hz:aO (cz P g.type) 0 with
 |true=>rw[hz]at b;exact b.elim
 |false=>
  rw[hz]at b;refine .of_pure b λw=>?_
  have c:cz P g.type≠0:=λe=>by rw[e]at hz;cases hz
  simp only[Instr.fieldAt,bj,aE j,aD,d,nr,bX,fieldPlace,A8 hz];simp[c,wt]
theorem xV(_:P.info? t=some i)(a:∃d,P.underlying t=some d)(w:World):(isAgg t).run P w=.ok (xW P t) w:=by
 obtain⟨d,hd⟩:=a;simp only[isAgg,bj,aE hd,aD];unfold xW;rw[hd];cases d<;>rfl
theorem Cd{c:BinOp}{k k':IntKind}{a b:Int}(f:c=.shl\/c=.shr)(hv:PZ c k a b K):Yv P (Op.shift c k a k' b) K h:=by
 rcases f with rfl|rfl
 .obtain⟨d,e⟩:=hv
  refine .of_pure e λw=>?_
  simp[Op.shift,Int.not_lt.2 d]
 .obtain⟨d,e⟩:=hv
  refine .of_pure e λw=>?_
  simp[Op.shift,Int.not_lt.2 d]
theorem QL{c:BinOp}{k:IntKind}{a b:Int}(hv:ZM c k a b K)(f:c≠ .shl/\c≠ .shr):Yv P (binOp c 0 (.int k a) (.int k b)) K h:=by
 cases c<;>simp only[ZM]at hv
 case quo=>obtain⟨d,e⟩:=hv;exact .of_pure e λw=>by simp[binOp,Op.intDiv,d]
 case rem=>obtain⟨d,e⟩:=hv;exact .of_pure e λw=>by simp[binOp,Op.intDiv,d]
 all_goals exact .of_pure hv λw=>by simp[binOp,Op.intArith,Op.intBits,Op.intCmp]
theorem Ii(c:BinOp)(t:TypeId)(k k':IntKind)(a b:Int):binOp c t (.int k a) (.int k' b)=binOp c 0 (.int k a) (.int k' b):=by
 cases c<;>rfl
theorem PU{c:BinOp}{a b:dO}(hv:Zu c a b K):Yv P (binOp c t (.string a) (.string b)) K h:=by
 cases c<;>simp only[Zu]at hv
 case add=>
  obtain⟨e,d⟩:=hv;refine .of_pure d λw=>?_
  have:¬(((a.size+b.size:Nat):Int)>IntKind.i64.max):=by
   have:IntKind.i64.max=9223372036854775807:=a8
   omega
  simp only[binOp,Op.stringOp,if_neg this,bX]
 all_goals exact .of_pure hv λw=>by simp[binOp,Op.stringOp]
theorem jR(h:∀d,(fS (d+1) t x y).run P w=.ok b w):(Op.equal t x y).run P w=.ok b w:=h 9999
theorem H1(b:P.underlying t=some (.pointer e))(a:aT)(w:World):(Op.equal t (.pointer a) (.pointer none)).run P w=.ok a.isNone w:=by
 refine jR λd=>?_
 simp only[fS,bj,aE b,aD];cases a<;>rfl
theorem QY(e:BinOp)(t:TypeId)(x y:Operand)(a b:Value)(h:∀c d,a=.agg c->b=.agg d->False)(hi:a=.nilIface->b=.nilIface->False)(w:World):
  (eqGuard e t x y a b).run P w=.ok () w:=by
 cases e;case eql=>cases a<;>cases b<;>first|rfl|exact(hi rfl rfl).elim|exact(h _ _ rfl rfl).elim
 case neq=>cases a<;>cases b<;>first|rfl|exact(hi rfl rfl).elim|exact(h _ _ rfl rfl).elim
 all_goals rfl
theorem Uw(t:TypeId)(x y:Value)(hx:∀k a,x≠ .int k a)(d:∀s,x≠ .string s)(c:∀k a,x≠ .float k a)(hc:∀k a b,x≠ .complex k a b):binOp .eql t x y=(do pure (.bool (<-Op.equal t x y))):=by
 cases x<;>first|rfl|exact absurd rfl (hx _ _)|exact absurd rfl (d _)|exact absurd rfl (c _ _)|exact absurd rfl (hc _ _ _)
theorem Uv(t:TypeId)(x y:Value)(hx:∀k a,x≠ .int k a)(d:∀s,x≠ .string s)(c:∀k a,x≠ .float k a)(hc:∀k a b,x≠ .complex k a b):binOp .neq t x y=(do pure (.bool (!(<-Op.equal t x y)))):=by
 cases x<;>first|rfl|exact absurd rfl (hx _ _)|exact absurd rfl (d _)|exact absurd rfl (c _ _)|exact absurd rfl (hc _ _ _)
theorem jS(e:(Op.equal t x y).run P w=.ok b w)
  (hx:∀k a,x≠ .int k a)(d:∀s,x≠ .string s)(c:∀k a,x≠ .float k a)(hc:∀k a b,x≠ .complex k a b):
  (binOp (bif neg then .neq else .eql) t x y).run P w=.ok (.bool (bif neg then !b else b)) w:=by
 cases neg
 .simp only[cond_false,Uw t x y hx d c hc,bj,e,aD,bX]
 .simp only[cond_true,Uv t x y hx d c hc,bj,e,aD,bX]
theorem QK(h:aa3 x=true):(∃f a b,x=.func f a b)\/x=.nilFunc:=by
 cases x<;>first|exact .inr rfl|exact .inl ⟨_,_,_,rfl⟩|cases h
theorem QJ(h:aa2 x=true):(∃t v,x=.iface t v)\/x=.nilIface:=by
 cases x<;>first|exact .inr rfl|exact .inl ⟨_,_,rfl⟩|cases h
theorem My{y:Operand}(h:V6 y=true):∃c,y=.const c:=by
 cases y<;>first|exact⟨_,rfl⟩|cases h
theorem OV(e:BinOp)(t:TypeId)(x:Operand)(c a b:Value)(h:∀c d,a=.agg c->b=.agg d->False)(w:World):
  (eqGuard e t x (.const c) a b).run P w=.ok () w:=by
 cases e;case eql=>cases a<;>cases b<;>first|rfl|exact(h _ _ rfl rfl).elim|(cases x<;>rfl)
 case neq=>cases a<;>cases b<;>first|rfl|exact(h _ _ rfl rfl).elim|(cases x<;>rfl)
 all_goals rfl
theorem Hw(hv:X6 P t neg x y K):
  (∀c d,x=.agg c->y=.agg d->False)/\Yv P (binOp (bif neg then .neq else .eql) t x y) K h:=by
 unfold X6 at hv;split at hv
 .rename_i e a hu
  refine⟨nofun,.of_pure hv λw=>?_⟩
  exact jS (H1 hu a w) nofun nofun nofun nofun
 .rename_i k e a hu
  refine⟨nofun,.of_pure hv λw=>?_⟩
  refine jS ?_ nofun nofun nofun nofun;refine jR λd=>?_
  simp only[fS,bj,aE hu,aD];cases a<;>rfl
 .rename_i e a _ _ _ _ hu
  refine⟨nofun,.of_pure hv λw=>?_⟩
  refine jS ?_ nofun nofun nofun nofun;refine jR λd=>?_
  simp only[fS,bj,aE hu,aD];cases a<;>rfl
 .rename_i hu
  obtain⟨hx,g⟩:=hv;rcases QK hx with⟨f,a,b,e⟩|e<;>subst e
  .refine⟨nofun,.of_pure g λw=>jS (jR λd=>?_) nofun nofun nofun nofun⟩
   simp only[fS,bj,aE hu,aD];rfl
  .refine⟨nofun,.of_pure g λw=>jS (jR λd=>?_) nofun nofun nofun nofun⟩
   simp only[fS,bj,aE hu,aD];rfl
 .rename_i hu
  obtain⟨hx,g⟩:=hv;rcases QJ hx with⟨f,a,e⟩|e<;>subst e
  .refine⟨nofun,.of_pure g λw=>jS (jR λd=>?_) nofun nofun nofun nofun⟩
   simp only[fS,bj,aE hu,aD];rfl
  .refine⟨nofun,.of_pure g λw=>jS (jR λd=>?_) nofun nofun nofun nofun⟩
   simp only[fS,bj,aE hu,aD];rfl
 .exact hv.elim
theorem yR{b:Addr}(d:fc w.heap a)(hb:fc w.heap b):(sameAddr a b).run P w=.ok (a==b) w:=by
 obtain⟨g,s,d,v⟩:=d;obtain⟨i,o,hb,sb⟩:=hb;by_cases c:a.block=b.block
 .simp[sameAddr,c]
 .have f:(a==b)=false:=by
   rw[beq_eq_false_iff_ne];intro e;exact c (by rw[e])
  have q:w.shape? a.block=some (s,g.size):=by simp[World.shape?,d]
  have p:w.shape? b.block=some (o,i.size):=by simp[World.shape?,hb]
  have f1:∀n,w.frozen? ({block:=a.block,off:=n}:Addr)=false:=λn=>by simp[World.frozen?,d]
  have j:∀n,w.frozen? ({block:=b.block,off:=n}:Addr)=false:=λn=>by simp[World.frozen?,hb]
  have k:w.frozen? a=false:=by simp[World.frozen?,d]
  have u:w.frozen? b=false:=by simp[World.frozen?,hb]
  obtain⟨m,hm⟩:∃m,g.size=m+1:=⟨g.size-1,a4⟩
  obtain⟨n,t⟩:∃n,i.size=n+1:=⟨i.size-1,a4⟩
  simp[sameAddr,c,noView,viewAt,mayBeOne,stringish,q,p,f1,j,k,u,hm,t,f]
theorem Lc(hv:abx P t neg x y K h):
  (∀c d,x=.agg c->y=.agg d->False)/\(x=.nilIface->y=.nilIface->False)/\Yv P (binOp (bif neg then .neq else .eql) t x y) K h:=by
 unfold abx at hv;split at hv
 .rename_i a b hu
  refine⟨nofun,nofun,.of_pure hv λw=>?_⟩
  refine jS ?_ nofun nofun nofun nofun;refine jR λd=>?_
  simp only[fS,bj,aE hu,aD,bX]
 .rename_i e a b hu
  obtain⟨i,m,j⟩:=hv;refine⟨nofun,nofun,_,_,j,m,λw k=>?_⟩
  refine jS ?_ nofun nofun nofun nofun;have f:aO (cz P e) 0=false:=by
   cases hb:aO (cz P e) 0 with
   |false=>rfl
   |true=>rw[hb]at i;exact i.elim
  have g:cz P e≠0:=λe=>by rw[e]at f;cases f
  refine jR λd=>?_
  simp only[fS,bj,aE hu,aD];cases a with
  |none=>cases b<;>rfl
  |some a=>cases b with
   |none=>rfl
   |some b=>
    obtain⟨n,o⟩:=k a b rfl rfl;simp only[bj,A8 f,aD,ne_eq,g,not_false_eq_true,if_true,yR n o];rfl
 .exact hv.elim
theorem Bh{e:BinOp}(hv:X0 P e t x y K h):
  (∀c d,x=.agg c->y=.agg d->False)/\(x=.nilIface->y=.nilIface->False)/\Yv P (binOp e t x y) K h:=by
 unfold X0 at hv;split at hv
 .rename_i k a k' b
  refine⟨nofun,nofun,?_⟩;rw[Ii];split at hv
  .exact Cd (k':=k') (.inl rfl) hv
  .exact Cd (k':=k') (.inr rfl) hv
  .rename_i h1 h2
   cases hk:MC k' k with
   |false=>rw[hk]at hv;exact hv.elim
   |true=>rw[hk]at hv;have:=Cu hk;subst this;exact QL hv ⟨h1,h2⟩
 .exact⟨nofun,nofun,PU hv⟩
 .split at hv
  .exact Lc (neg:=false) hv
  .exact Lc (neg:=true) hv
  .exact hv.elim
theorem Og(a:((P.underlying u).isSome&&(P.info? u).isSome)=true)(b:xW P u=true):
  (part u cs.toArray off).run P w=.ok (.agg ((cs.drop off).take (cz P u)).toArray) w:=by
 simp only[bA,gX]at a;obtain⟨a,i,hi⟩:=a;have c:(sizeOf u).run P w=.ok (cz P u) w:=by simp[sizeOf,cT hi,cz,hi]
 simp only[part,bj,xV hi a,aD,b,if_true,c,bX];congr 2
 apply cO;simp[gB]
theorem Kw(a:((P.underlying u).isSome&&(P.info? u).isSome)=true)(c:xW P u=false)(hc:cs[off]? =some v):
  (part u cs.toArray off).run P w=.ok v w:=by
 simp only[bA,gX]at a;obtain⟨a,i,hi⟩:=a;have b:cs.toArray[off]? =some v:=by simpa using hc
 simp only[part,bj,xV hi a,aD,c,cQ,if_false,b,bX]
theorem Bi{h:ad}:∀{l m:List (aT×aT)},tL h (l++m)->tL h l/\tL h m
 | [],_,h=>⟨trivial,h⟩
 |(_,_)::_,_,h=>⟨⟨h.1,(Bi h.2).1⟩,(Bi h.2).2⟩
theorem OU(f:Wz P t x y=some (b,l))(i:tL w.heap l)(d:Nat):
  (fS (d+1) t x y).run P w=.ok b w:=by
 unfold Wz at f;split at f
 .rename_i k0 k a k' c hu
  cases hk:MC k' k with
  |false=>rw[hk]at f;cases f
  |true=>
   rw[hk]at f;have:=Cu hk;subst this;cases f;exact run_equalIn_int w d t _ _ _ _ hu
 .rename_i a c hu
  cases f;exact run_equalIn_bool w d t _ _ hu
 .rename_i a c hu
  cases f;exact run_equalIn_string w d t _ _ hu
 .rename_i e a c hu
  cases hz:aO (cz P e) 0 with
  |true=>rw[hz]at f;cases f
  |false=>
   rw[hz]at f;cases f;have g:cz P e≠0:=λe=>by rw[e]at hz;cases hz
   simp only[fS,bj,aE hu,aD];cases a with
   |none=>cases c<;>rfl
   |some a=>cases c with
    |none=>rfl
    |some c=>
     obtain⟨j,m⟩:=i.1 a c rfl rfl;simp only[bj,A8 hz,aD,ne_eq,g,not_false_eq_true,if_true,yR j m];rfl
 .cases f
theorem H2{rec:TypeId->c5->c5->Option (Bool×List (aT×aT))}{d:Nat}{xs ys:c5}{w:World}
  (e:∀t us vs b l,rec t us vs=some (b,l)->tL w.heap l->(fS (d+1) t (.agg us.toArray) (.agg vs.toArray)).run P w=.ok b w):
  ∀(fs:List Field) (b:Bool) (l:List (aT×aT)),Yu P rec xs ys fs=some (b,l)->tL w.heap l->(Op.eqFields (d+1) xs.toArray ys.toArray fs).run P w=.ok b w
 | [],b,l,he,_=>by cases he;rfl
 |f::fs,b,l,he,hp=>by
  unfold Yu at he;split at he
  .cases he
  .rename_i hn
   cases hi:((P.underlying f.type).isSome&&(P.info? f.type).isSome)with
   |false=>rw[hi]at he;cases he
   |true=>
    rw[hi]at he;simp only[cond_true]at he;split at he
    .rename_i b1 l1 c m e1 e2
     cases he;obtain⟨g,j⟩:=Bi hp;have a:=H2 e fs c m e2 j;have k:∃u v,(part f.type xs.toArray f.offset).run P w=.ok u w/\(part f.type ys.toArray f.offset).run P w=.ok v w/\(fS (d+1) f.type u v).run P w=.ok b1 w:=by
      cases ha:xW P f.type with
      |true=>
       rw[ha]at e1;exact⟨_,_,Og hi ha,Og hi ha,e _ _ _ _ _ e1 g⟩
      |false=>
       rw[ha]at e1;simp only[cond_false]at e1;split at e1
       .rename_i x y hx hy
        exact⟨x,y,Kw hi ha hx,Kw hi ha hy,OU e1 g d⟩
       .cases e1
     obtain⟨u,v,o,n,i⟩:=k;simp only[Op.eqFields,ne_eq,hn,not_false_eq_true,if_true,bj,o,n,i,aD];cases b1
     .rfl
     .exact a
    .cases he
theorem Bv{w:World}:∀(m:Nat) (t:TypeId) (xs ys:c5) (b:Bool) (l:List (aT×aT)),WA P m t xs ys=some (b,l)->tL w.heap l->
  ∀d,(fS (d+m+1) t (.agg xs.toArray) (.agg ys.toArray)).run P w=.ok b w
 |0,_,_,_,_,_,he,_,_=>by cases he
 |m+1,t,xs,ys,b,l,he,hp,d=>by
  unfold WA at he;split at he
  .rename_i fs hu
   cases hs:P.stoodInHeld t with
   |true=>rw[hs]at he;cases he
   |false=>
    rw[hs]at he;have a:P.fieldsOf t=fs:=by simp[Program.fieldsOf,hu]
    rw[run_equalIn_struct w _ t _ _ (by rw[a];exact hu) hs,a];exact H2 (d:=d+m) (λt e vs b l c f=>Bv m t e vs b l c f d) fs.toList b l he hp
  .cases he
theorem Ld(a:ab6 neg b K h l):∃S,K (.bool (bif neg then !b else b)) S/\Xv S h/\∀h',Xv S h'->tL h' l:=by
 cases l with
 |nil=>exact⟨none,a,trivial,λ_ _=>trivial⟩
 |cons p l=>exact⟨_,a.2,a.1,λ_ h=>h⟩
theorem Qk{g:BinOp}{xs ys:Array Value}{x y:Operand}(a:ZA P g t xs.toList ys.toList K h):
  ∃v S,K v S/\Xv S h/\∀w:World,Xv S w.heap->(do eqGuard g t x y (.agg xs) (.agg ys);binOp g t (.agg xs) (.agg ys):Sem Value).run P w=.ok v w:=by
 unfold ZA at a;cases hg:P.eqGuardType P.depth t with
 |true=>rw[hg]at a;exact a.elim
 |false=>
  rw[hg]at a;simp only[cond_false]at a;split at a
  .split at a
   .rename_i b l he
    obtain⟨S,e,f,c⟩:=Ld a;refine⟨_,S,e,f,λw d=>?_⟩
    have:=Bv 10 t _ _ b l he (c _ d) 9989;simp only[Array.toArray_toList]at this;simp only[bj,run_eqGuard_agg w _ t x y _ _ hg,aD,run_eql_struct,this];rfl
   .exact a.elim
  .split at a
   .rename_i b l he
    obtain⟨S,e,f,c⟩:=Ld a;refine⟨_,S,e,f,λw d=>?_⟩
    have:=Bv 10 t _ _ b l he (c _ d) 9989;simp only[Array.toArray_toList]at this;simp only[bj,run_eqGuard_agg w _ t x y _ _ hg,aD,run_neq_struct,this];rfl
   .exact a.elim
  .exact a.elim
theorem TF{a:UnOp}(hv:abP a x K):Yv P (Op.unary a x) K h:=by
 unfold abP at hv;split at hv
 .exact .of_pure hv λw=>rfl
 .exact .of_pure hv λw=>rfl
 .exact .of_pure hv λw=>rfl
 .exact hv.elim
theorem Ih:∀(l:c6) (s:dO),(l.map λb=>((b.toNat:Nat):Int)).foldl (λr n=>r.push (gq n.toNat)) s=⟨s.data++l.toArray⟩
 | [],s=>a7
 |b::l,s=>by
  simp only[ce,List.foldl_cons];rw[Ih l];congr 1
  have:gq ((b.toNat:Nat):Int).toNat=b:=a7
  rw[this];apply cO;simp[ByteArray.push]
theorem HM(h:QI P e=true):P.underlying e=some (.int .u8):=by
 unfold QI at h;split at h
 .assumption
 .cases h
theorem NW(b:Row w.heap a vs):(loadCells a vs.length).run P w=.ok vs.toArray w:=by
 have:=run_firstCells_some (P:=P) w 1 vs.length a 0 0 vs a7 λj v hv=>by rw[<-wt];exact b j v hv
 simpa[eE]using this
theorem N6{f g:TypeId}(hv:VB P f g x K h):Yv P (convert f g x) K h:=by
 unfold VB at hv;split at hv
 .rename_i k k' k'' n h1 h2
  exact .of_pure hv λw=>by simp only[convert,bj,aE h1,aE h2,aD];rfl
 .rename_i s h1 h2
  exact .of_pure hv λw=>by simp only[convert,bj,aE h1,aE h2,aD];rfl
 .rename_i e a n c h1 h2
  cases hu:QI P e with
  |false=>rw[hu]at hv;exact hv.elim
  |true=>
   rw[hu]at hv;obtain⟨s,u,q⟩:=hv;refine⟨_,_,q,u,λw m=>?_⟩
   rw[run_convert_bytes_string w f g e a n c h1 (HM hu) h2];obtain⟨o,m⟩:=m;rcases m with p|⟨b,rfl,t⟩
   .have j:s=ByteArray.empty:=by
     have:s.data.toList= []:=by simpa[dz]using p
     cases s with
     |mk d=>simp at this;subst this;rfl
    cases a with
    |none=>rw[j];rfl
    |some b=>
     have y:n=0:=by rw[<-o,p];rfl
     subst y;have:=NW (P:=P) (w:=w) (a:=b) (vs:= []) λi v hv=>by simp at hv
     rw[run_bytesToString w b 0 c [] (by simpa using this),j];rfl
   .have:=NW (P:=P) t
    rw[o]at this;rw[run_bytesToString w b n c (s.data.toList.map λb=>((b.toNat:Nat):Int)) (by rw[this,iR];rfl),Ih]
    cases s;simp[ByteArray.empty,ByteArray.emptyWithCapacity];try rfl
 .exact hv.elim
theorem Qp{cs:Array Value}(b:∃d,P.underlying u=some d)(hi:∃i,P.info? u=some i)
  (hv:bif xW P u then K (.agg ((cs.toList.drop off).take (cz P u)).toArray) none else(match cs.toList[off]? with|some v=>K v none|none=>False)):Yv P (part u cs off) K h:=by
 obtain⟨i,hi⟩:=hi;cases ha:xW P u with
 |true=>
  rw[ha]at hv;refine .of_pure hv λw=>?_
  have c:(sizeOf u).run P w=.ok (cz P u) w:=by simp[sizeOf,cT hi,cz,hi]
  simp only[part,bj,xV hi b,aD,ha,if_true,c,bX];congr 2
  apply cO;simp[gB]
 |false=>
  rw[ha]at hv;simp only[cond_false]at hv;cases hc:cs.toList[off]? with
  |none=>rw[hc]at hv;exact hv.elim
  |some v=>
   rw[hc]at hv;refine .of_pure hv λw=>?_
   have a:cs[off]? =some v:=by simpa using hc
   simp only[part,bj,xV hi b,aD,ha,cQ,if_false,a,bX]
def yC(P:Program)(v:Option Value)(d y n:Nat):Prop:=
 match v with
 |some x=>∀c w,(Instr.sliceBound x y c).run P w=.ok n w
 |none=>n=d
theorem nJ{v:Option Value}{d y:Nat}{K:eh}(hv:WW v d y K):∃n,K n/\yC P v d y n:=by
 unfold WW at hv;split at hv
 .exact⟨d,hv,rfl⟩
 .rename_i k i
  obtain⟨⟨e,a⟩,b⟩:=hv;refine⟨i.toNat,b,λc w=>?_⟩
  simp[Instr.sliceBound,asIntOf,e,a]
 .exact hv.elim
theorem qn{c:Bool}{l:Nat}(b:yC P hi len cap n)(a:yC P lo 0 n l)(w:World):
  (ga c len cap lo hi none).run P w=.ok (l,n,cap) w:=by
 cases hi with
 |none=>
  cases lo with
  |none=>simp only[yC]at b a;subst b;subst a;simp[ga]
  |some lo=>simp only[yC]at b a;subst b;simp[ga,a]
 |some hi=>
  cases lo with
  |none=>simp only[yC]at b a;subst a;simp[ga,b]
  |some lo=>simp only[yC]at b a;simp[ga,b,a]
theorem DP{c:Bool}{l:Nat}{hi d:Value}(hm:yC P (some d) 0 cap m)(b:yC P (some hi) 0 m n)(a:yC P lo 0 n l)(w:World):
  (ga c len cap lo (some hi) (some d)).run P w=.ok (l,n,m) w:=by
 cases lo with
 |none=>simp only[yC]at hm b a;subst a;simp[ga,hm,b]
 |some lo=>simp only[yC]at hm b a;simp[ga,hm,b,a]
theorem A5(a:aT)(l m size:Nat):(if m=l then a else a.map (·.add (l*size)))=aW a l m size:=by
 unfold aW;split
 .rfl
 .congr 1;funext x;rw[wt]
theorem qr{K:Prop}(h:VM P t K):K/\∀w,(sizeOf t).run P w=.ok (cz P t) w:=by
 unfold VM at h;cases hi:P.info? t with
 |none=>rw[hi]at h;exact h.elim
 |some i=>rw[hi]at h;exact⟨h,λw=>by simp[sizeOf,cT hi,cz,hi]⟩
theorem Ml(hv:Qi P t x f K):Yv P (Instr.field t x f) K h:=by
 unfold Qi at hv;split at hv
 .rename_i u off cs hf
  obtain⟨j,g,i,a,rfl,rfl⟩:=za hf;cases hb:((P.underlying g.type).isSome&&(P.info? g.type).isSome)with
  |false=>rw[hb]at hv;exact hv.elim
  |true=>
   rw[hb]at hv;simp only[bA,gX]at hb;obtain⟨v,S,b,e,c⟩:=Qp (cs:=cs) (off:=g.offset) (h:=h) hb.1 hb.2 hv;refine⟨v,S,b,e,λw d=>?_⟩
   have:=c w d;simp only[Instr.field,bj,aE i,aD,a,asAgg,bX,this]
 .exact hv.elim
theorem D1{i:Value}(hv:Bg P t x i K):Yv P (Instr.indexAt t x i) K h:=by
 unfold Bg at hv;split at hv
 .rename_i n e a k i hu
  obtain⟨⟨⟨d,c⟩,g⟩,f⟩:=qr hv;refine .of_pure g λw=>?_
  simp[Instr.indexAt,asIntOf,aE hu,nr,d,c,f,wt]
 .rename_i e b len cap k i hu
  obtain⟨⟨⟨d,c⟩,a,rfl,g⟩,f⟩:=qr hv;refine .of_pure g λw=>?_
  simp[Instr.indexAt,asIntOf,aE hu,d,c,f,wt]
 .exact hv.elim
theorem Mh(h:Qf v K):∃u,K u none/\∀w,(Builtin.unsafeSliceData_ ats ty #[v]).run P w=.ok u w:=by
 unfold Qf at h;split at h
 .rename_i a n c
  obtain⟨d,b⟩:=h;cases a with
  |none=>exact⟨_,b,λw=>Lib.run_unsafeSliceData_nil ..⟩
  |some a=>exact⟨_,b,λw=>Lib.run_unsafeSliceData_row _ _ _ _ _ _ (d.resolve_left nofun)⟩
 .exact h.elim
theorem Mj{i:Value}(hv:Qh P t x i K):Yv P (Instr.index t x i) K h:=by
 unfold Qh at hv;split at hv
 .rename_i s k i hu
  obtain⟨b,c,hb,a⟩:=hv;refine .of_pure a λw=>?_
  simp[Instr.index,asIntOf,aE hu,c,hb]
 .exact hv.elim
theorem Mg{d:Option Value}(hv:Qe P t x lo hi d K):Yv P (qU t x lo hi d) K h:=by
 unfold Qe at hv;split at hv
 .rename_i s hu
  cases d with
  |some _=>exact hv.elim
  |none=>
   obtain⟨n,hv,c⟩:=nJ (P:=P) hv;obtain⟨l,hv,b⟩:=nJ (P:=P) hv;refine .of_pure hv λw=>?_
   simp[qU,Instr.slice,aE hu,qn c b]
 .rename_i e a len cap hu
  obtain⟨hv,f⟩:=qr hv;cases d with
  |none=>
   obtain⟨n,hv,c⟩:=nJ (P:=P) hv;obtain⟨l,hv,b⟩:=nJ (P:=P) hv;refine .of_pure hv λw=>?_
   simp[qU,Instr.slice,aE hu,qn c b,f,A5]
  |some m=>
   cases hi with
   |none=>exact hv.elim
   |some hi=>
    obtain⟨i,hv,hm⟩:=nJ (P:=P) hv;obtain⟨n,hv,c⟩:=nJ (P:=P) hv;obtain⟨l,hv,b⟩:=nJ (P:=P) hv;refine .of_pure hv λw=>?_
    simp[qU,Instr.slice,aE hu,DP hm c b,f,A5]
 .rename_i n e a hu
  obtain⟨hv,f⟩:=qr hv;cases d with
  |some _=>exact hv.elim
  |none=>
   obtain⟨m,hv,c⟩:=nJ (P:=P) hv;obtain⟨l,hv,b⟩:=nJ (P:=P) hv;refine .of_pure hv λw=>?_
   have g:(some (if n=l then a else a.add (l*cz P e)))=aW (some a) l n (cz P e):=by
    rw[<-A5];split<;>rfl
   simp[qU,aE hu,nr,qn c b,f,g]
 .exact hv.elim
def pN(d:TypeDesc)(c:CK):Prop:=(∃i,d=.int i/\c=.int i)\/(d=.string/\c=.str)\/(d=.bool/\c=.bool)
theorem ve(h:KT P t=some (c,e)):∃k d,P.underlying t=some (.map k e)/\P.underlying k=some d/\pN d c:=by
 unfold KT at h;split at h
 .rename_i k e' hu
  split at h
  .rename_i i hk
   simp only[bI.injEq,oL.injEq]at h;obtain⟨rfl,rfl⟩:=h;exact⟨k,_,hu,hk,.inl ⟨i,rfl,rfl⟩⟩
  .rename_i hk
   simp only[bI.injEq,oL.injEq]at h;obtain⟨rfl,rfl⟩:=h;exact⟨k,_,hu,hk,.inr (.inl ⟨rfl,rfl⟩)⟩
  .rename_i hk
   simp only[bI.injEq,oL.injEq]at h;obtain⟨rfl,rfl⟩:=h;exact⟨k,_,hu,hk,.inr (.inr ⟨rfl,rfl⟩)⟩
  .cases h
 .cases h
theorem EN(hd:pN d c)(x y:c.den):wF d (c.enc x) (c.enc y)=some (fi (c.enc x) (c.enc y)):=by
 rcases hd with⟨i,rfl,rfl⟩|⟨rfl,rfl⟩|⟨rfl,rfl⟩
 .simp[wF,CK.enc,fi]
 .simp[wF,CK.enc,fi]
 .simp[wF,CK.enc,fi]
theorem E7{d:TypeDesc}{c:CK}(hd:pN d c)(x:c.den):∀(es:List MapEntry) (i:Nat),keysOf c es->
  ∃r,oF d (c.enc x) es i=some r/\r.map (·.2)=HW (c.enc x) es
 | [],i,_=>⟨none,rfl,rfl⟩
 |e::es,i,h=>by
  obtain⟨y,f⟩:=h e a7;have b:=EN hd x y;rw[<-f]at b;simp only[oF,HW];cases hb:fi (c.enc x) e.key with
  |true=>rw[b,hb];exact⟨some (i,e.val),rfl,rfl⟩
  |false=>rw[b,hb];exact E7 hd x es (i+1) λg a=>h g (by simp[a])
theorem O2{a:Bool}(hd:pN d c)(b:P.underlying k=some d)(v:Value)(n:Nat)(w:World):(Instr.checkKey a (n+1) k v).run P w=.ok () w:=by
 unfold Instr.checkKey;simp only[bj,aE b,aD];rcases hd with⟨i,rfl,rfl⟩|⟨rfl,rfl⟩|⟨rfl,rfl⟩<;>rfl
theorem tT(hd:pN d c)(b:P.underlying k=some d)(x:c.den){es:List MapEntry}(h:keysOf c es)(w:World):
  ∃r,(Instr.findKey k (c.enc x) es).run P w=.ok r w/\oF d (c.enc x) es 0=some r/\r.map (·.2)=HW (c.enc x) es:=by
 obtain⟨r,a,hm⟩:=E7 hd x es 0 h;refine⟨r,?_,a,hm⟩;simp only[Instr.findKey,bj,aE b,aD,a,bX]
theorem j8{r:Nat}{es:Array MapEntry}{a:Nat}(h:w.heap[r]? =some (.map es a)):(getObj r).run P w=.ok (.map es a) w:=by
 simp only[getObj,nQ,h]
theorem lY{a:Bool}(hd:pN d c)(b:P.underlying k=some d)(v:Value)(w:World):(Instr.checkKey a 10000 k v).run P w=.ok () w:=
 O2 hd b v 9999 w
theorem QA(p:P.underlying t=some (.map k e))(f:P.underlying k=some d)(hd:pN d c){m:Option Nat}{x:c.den}
  (o:(zeroValue e).run P w=.ok z w)(hm:jH c z w.heap m (c.enc x) v b):
  (yg t (.map m) (c.enc x) ok).run P w=.ok (bif ok then .tuple #[v,.bool b]else v) w:=by
 cases m with
 |none=>
  obtain⟨rfl,rfl⟩:=hm;simp only[yg,bj,aE p,aD,bX,lY hd f];obtain⟨r,i,j,a⟩:=tT (P:=P) hd f x (es:= []) (λ_ h=>by cases h) w
  simp only[oF,bI.injEq]at j;subst j;simp[i,o]
 |some r=>
  obtain⟨es,g,hb,n,hv⟩:=hm;simp only[yg,bj,aE p,aD,j8 hb,bX,lY hd f];obtain⟨r,i,j,a⟩:=tT (P:=P) hd f x n w;simp only[i,aD];cases r with
  |none=>
   simp only[Option.map_none]at a;rw[<-a]at hv;obtain⟨rfl,rfl⟩:=hv;simp[o]
  |some r=>
   simp only[iy]at a;rw[<-a]at hv;obtain⟨rfl,rfl⟩:=hv;cases ok<;>rfl
theorem d8(h:yJ P e=some z)(w:World):(zeroValue e).run P w=.ok z w:=by
 unfold yJ at h;cases hi:P.info? e with
 |none=>rw[hi]at h;cases h
 |some i=>rw[hi]at h;simp only at h;simp[zeroValue,cT hi,h]
theorem Ju{k:Value}(hv:Mi P t x k ok K h):Yv P (yg t x k ok) K h:=by
 unfold Mi at hv;split at hv
 .rename_i c e m hc
  obtain⟨n,d,i,a,hd⟩:=ve hc;obtain⟨j,rfl,hv⟩:=CK.dec_sound hv;split at hv
  .rename_i ek z hek hz
   obtain⟨y,b,hm,g⟩:=hv;exact⟨_,_,g,hm,λw f=>QA i a hd (d8 hz w) f⟩
  .exact hv.elim
 .exact hv.elim
theorem EP{b s q:Nat}{a:Array Value}{c t:Bool}(h:w.heap[b]? =some (.chan cap a c s q t)):(getObj b).run P w=.ok (.chan cap a c s q t) w:=by
 simp only[getObj,nQ,h]
theorem Qg(a:ats[0]? =some t) (hv:Zy P t x K h):Yv P (lD ats ty #[x]) K h:=by
 unfold Zy at hv;split at hv
 .rename_i s hu
  exact .of_pure hv λw=>by simp[lD,a,aE hu,goInt]
 .rename_i n e _ hu
  exact .of_pure hv λw=>by simp[lD,a,aE hu,goInt]
 .rename_i e b n c hu
  exact .of_pure hv λw=>by simp[lD,a,aE hu,goInt]
 .rename_i k e m hu
  obtain⟨n,hm,f⟩:=hv;refine⟨_,_,f,hm,λw d=>?_⟩
  cases m with
  |none=>
   have:n=0:=d;subst this;simp[lD,a,aE hu,goInt]
  |some r=>
   obtain⟨es,g,hb,rfl⟩:=d;simp[lD,a,aE hu,goInt,j8 hb]
 .rename_i k e m hu
  obtain⟨n,hm,f⟩:=hv;refine⟨_,_,f,hm,λw d=>?_⟩
  cases m with
  |none=>
   have:n=0:=d;subst this;simp[lD,a,aE hu,goInt]
  |some r=>
   obtain⟨cap,i,j,s,q,hb,rfl⟩:=d;simp[lD,a,aE hu,goInt,EP hb]
 .exact hv.elim
theorem Qj(a:ats[0]? =some t) (hv:Zz P t x K h):Yv P (yh ats ty #[x]) K h:=by
 unfold Zz at hv;split at hv
 .rename_i e b n c hu
  exact .of_pure hv λw=>by simp[yh,a,aE hu,goInt]
 .rename_i k e m hu
  obtain⟨n,hm,f⟩:=hv;refine⟨_,_,f,hm,λw d=>?_⟩
  cases m with
  |none=>
   have:n=0:=d;subst this;simp[yh,a,aE hu,goInt]
  |some r=>
   obtain⟨cap,g,i,s,q,hb,rfl⟩:=d;simp[yh,a,aE hu,goInt,EP hb]
 .exact hv.elim
theorem Cn{c:Bool}{k:IntKind}:∀{vs:c5} {a:Int} {f:Value->Prop},Mv c k a vs f->∃v,f v/\∀w,(vs.foldlM (bif c then Builtin.max2 else Builtin.min2) (Value.int k a):Sem Value).run P w=.ok v w
 | [],a,f,h=>⟨_,h,λw=>a7⟩
 | .int k' b::vs,a,f,h=>by
  simp only[Mv]at h;cases hk:MC k' k with
  |false=>rw[hk]at h;exact h.elim
  |true=>
   rw[hk]at h;have:=Cu hk;subst this;obtain⟨v,d,e⟩:=Cn h;refine⟨v,d,λw=>?_⟩
   rw[<-e w];cases c<;>simp[List.foldlM_cons,Builtin.max2,Builtin.min2]
theorem Ax{a:Bool}{f:Value->Prop}(h:Gs a vs f):∃v,f v/\∀w,(bif a then Builtin.max_ ats ty vs.toArray else Builtin.min_ ats ty vs.toArray).run P w=.ok v w:=by
 unfold Gs at h;split at h
 .obtain⟨v,b,c⟩:=Cn (P:=P) h
  refine⟨v,b,λw=>?_⟩
  have:=c w;cases a<;>simpa[Builtin.max_,Builtin.min_]using this
 .exact h.elim
theorem Ug{e:MapEntry}(i:a.off=0)(h:xX w.heap a.block e):(Instr.entry (.pointer (some a))).run P w=.ok (.tuple #[e.key,e.val]) w:=by
 obtain⟨m,c,d,last,f,es,hi,hb,hm,k⟩:=h;obtain⟨b,off,g⟩:=a;simp only at i hi;subst i;have j:(getObj b).run P w=.ok (.mapIter (some m) c d last) w:=by simp only[getObj,nQ,hi]
 simp[Instr.entry,j,hb,j8 hm,k]
def JU:DV->Value->Prop
 | .t,v=>v=.bool true
 | .f,v=>v=.bool false
 | .u,v=>v=undef
 | .x,_=>True
def DecOk(d:xC)(r:cN):Prop:=∀t,sr d t=.x\/∃v,kQ r t=some v/\JU (sr d t) v
theorem DecOk.at{d:xC}{r:cN}(h:DecOk d r){t:Nat}{v:Value}(hv:kQ r t=some v):JU (sr d t) v:=by
 rcases h t with e|⟨u,a,b⟩
 .rw[e];trivial
 .rw[hv]at a;cases a;exact b
theorem wY{d:xC}(hd:DecOk d r)(h:cU r o=some v):JU (CB d o) v:=by
 cases o with
 |tmp t=>exact hd.at h
 |const c=>
  simp[cU]at h;subst h;cases c with
  |bool b=>cases b<;>exact rfl
  |_=>trivial
 |global g=>trivial
 |func f=>trivial
theorem EX(h:rg P t=true):∃d,P.underlying t=some d/\∀m,d≠ .interface m:=by
 unfold rg at h;split at h
 .cases h
 .rename_i d hd;exact⟨_,hd,λm e=>by subst e;simp_all⟩
 .cases h
theorem Cq(h:rg P t=true)(w:World):(Instr.makeInterface t v).run P w=.ok (.iface t v) w:=by
 obtain⟨d,hd,a⟩:=EX h;simp only[Instr.makeInterface,bj,aE hd,aD];cases d<;>first|exact absurd rfl (a _)|rfl
theorem GV(h:rg P t=true)(w:World):(Instr.typeAssert (.iface t v) u t false).run P w=.ok v w:=by
 obtain⟨d,hd,a⟩:=EX h;simp only[Instr.typeAssert,bj,aE hd,aD];cases d<;>first|exact absurd rfl (a _)|(simp[bX])
theorem kP{z:c5}(h:rL P t=some z):∃v,yJ P t=some v/\v.cells.toList=z:=by
 unfold rL at h;cases hz:yJ P t with
 |none=>rw[hz]at h;cases h
 |some v=>rw[hz]at h;simp only[bI.injEq]at h;exact⟨v,rfl,h⟩
theorem sS(h:yJ P t=some v):∃i,P.info? t=some i/\i.zero=some v:=by
 unfold yJ at h;cases hi:P.info? t with
 |none=>rw[hi]at h;cases h
 |some i=>rw[hi]at h;exact⟨i,rfl,h⟩
theorem WE(h:A.length=m):(A++x::B).take (m+1)=A++ [x]:=by
 subst h;rw[List.take_append,aS a4,show A.length+1-A.length=1 by omega];rfl
theorem WH(h:A.length=m):(A++x::B).drop (m+1+n)=B.drop n:=by
 subst h;rw[List.drop_append,List.drop_eq_nil_of_le a4,show A.length+1+n-A.length=n+1 by omega];rfl
theorem OM(off:Nat):∀(xs:c5) (k:Nat) (arr:Array Value),off+k+xs.length<=arr.size->
  (xs.zipIdx k).foldl (λcs (c,j)=>cs.setIfInBounds (off+j) c) arr=(Oa arr.toList (off+k) xs).toArray
 | [],k,arr,_=>by simp[Oa]
 |x::xs,k,arr,h=>by
  simp only[ar]at h;simp only[List.zipIdx_cons,List.foldl_cons];rw[OM off xs (k+1) _ a9];have hm:off+k<arr.toList.length:=by simp;omega
  have b:arr.toList.set (off+k) x=arr.toList.take (off+k)++x::arr.toList.drop (off+k+1):=by
   rw[List.set_eq_take_append_cons_drop,if_pos hm]
  have a:(arr.toList.take (off+k)).length=off+k:=by simp;omega
  congr 1
  unfold Oa;rw[Array.toList_setIfInBounds,b,<-wD,WE a,WH a];simp only[List.append_assoc,cG,List.nil_append,ar,List.drop_drop];rw[show off+k+1+xs.length=off+k+(xs.length+1) by omega]
theorem vj{a:Nat->Option (Nat×Nat)}:∀(parts:List (Nat×Value)) (cs cs':c5),E8 a cs parts=some cs'->Instr.fill a cs.toArray parts=some cs'.toArray
 | [],cs,cs',h=>by simp only[E8,bI.injEq]at h;subst h;rfl
 |(i,v)::rest,cs,cs',h=>by
  simp only[E8]at h;cases hp:a i with
  |none=>rw[hp]at h;cases h
  |some os=>
   obtain⟨off,size⟩:=os;rw[hp]at h;simp only at h;cases hb:(aO v.cells.toList.length size&&ye (off+v.cells.toList.length) cs.length)with
   |false=>rw[hb]at h;cases h
   |true=>
    rw[hb]at h;simp only[bA]at hb;have f:=bD hb.1;have g:=gJ hb.2;have d:=vj rest _ _ h;have c:v.cells.size=size:=by simpa using f
    have b:off+v.cells.size<=cs.length:=by simpa using g
    have e:Array.foldl (λcs x=>cs.setIfInBounds (off+x.2) x.1) cs.toArray v.cells.zipIdx=(Oa cs off v.cells.toList).toArray:=by
     have:=OM off v.cells.toList 0 cs.toArray (by simpa using b);simp only[fV]at this;rw[<-this,<-Array.foldl_toList];congr 1
     simp[Array.toList_zipIdx]
    simp only[Instr.fill,hp];rw[if_neg (by simp[c];omega)];simp only[e];exact d
theorem pH{N:Nat}{r:cN}{a:Act}(h:Agree N r a):∀{ps:List (Nat×Operand)} {vs:List (Nat×Value)},q9 r ps=some vs->ps.map (λp=>(p.1,a.eval p.2))=vs
 | [],vs,hv=>by simp[q9]at hv;subst hv;rfl
 |(i,o)::ps,vs,hv=>by
  simp only[q9]at hv;cases ho:cU r o with
  |none=>simp[ho]at hv
  |some v=>cases hos:q9 r ps with
   |none=>simp[ho,hos]at hv
   |some us=>simp[ho,hos]at hv;subst hv;simp[kR h ho,pH h hos]
theorem rm(h:zY P t=true)(w:World):(sizeOf t).run P w=.ok (cz P t) w:=by
 unfold zY at h;cases hi:P.info? t with
 |none=>rw[hi]at h;cases h
 |some i=>simp[sizeOf,cT hi,cz,hi]
theorem Hp(w:World):∀l:List Field,CJ P l=true->(l.mapM λf:Field=>((do pure (f.offset,<-sizeOf f.type)):Sem (Nat×Nat))).run P w=.ok (l.map λf:Field=>(f.offset,cz P f.type)) w
 | [],_=>rfl
 |f::l,h=>by
  simp only[CJ]at h;cases hf:zY P f.type with
  |false=>rw[hf]at h;cases h
  |true=>
   rw[hf]at h;rw[List.mapM_cons];simp only[bj,rm hf,aD,bX,Hp w l h,ce]
theorem CH{ps:Array (Nat×Value)}(hb:MW P t ps.toList=some cs)(w:World):
  (Instr.build t ps).run P w=.ok (.agg cs.toArray) w:=by
 unfold MW at hb;split at hb
 .rename_i fs z hu b
  obtain⟨v,b,hv⟩:=kP b;cases ha:CJ P fs.toList with
  |false=>rw[ha]at hb;cases hb
  |true=>
   rw[ha]at hb;have g:(fs.mapM λf:Field=>((do pure (f.offset,<-sizeOf f.type)):Sem (Nat×Nat))).run P w=.ok (fs.map λf:Field=>(f.offset,cz P f.type)) w:=by
    rw[Array.mapM_eq_mapM_toList];simp only[Sem.run_map,Hp w fs.toList ha,aD];congr 1
    apply cO;simp
   have d:=vj _ _ _ hb;have a:(λi:Nat=>(fs.map λf:Field=>(f.offset,cz P f.type))[i]?)=Qo P fs.toList:=by
    funext i;unfold Qo;rw[Array.getElem?_map,bG];cases fs[i]?<;>rfl
   have c:v.cells=z.toArray:=by rw[<-hv]
   rw[cond_true]at hb;rw[<-a]at d;simp only[Instr.build,bj,d8 b,aD,aE hu,g,c,d,bX]
 .rename_i n e z hu b
  obtain⟨v,b,hv⟩:=kP b;cases ha:zY P e with
  |false=>rw[ha]at hb;cases hb
  |true=>
   rw[ha]at hb;have d:=vj _ _ _ hb;have c:v.cells=z.toArray:=by rw[<-hv]
   simp only[Instr.build,bj,d8 b,aD,aE hu,rm ha,c,d,bX]
 .cases hb
theorem D0{ek:Option (Kind×Kind)}{o:Oper}{a:Act}(T:Agree N r a)(g:DC P ek o.op r K h)(d:xC)(hd:DecOk d r):
  ∃v S,K v S/\Xv S h/\JU (Nm d o.op) v/\∀w:World,Xv S w.heap->(execOp a.eval o).run P w=.ok (.value v) w:=by
 have j:∀{x:Operand} {v:Value},cU r x=some v->a.eval x=v:=λh=>kR T h
 have fin:∀{s:Sem Value},Yv P s K h->Nm d o.op=.x->(∀w,(execOp a.eval o).run P w=(do pure (Next.value (<-s)):Sem Next).run P w)->
   ∃v S,K v S/\Xv S h/\JU (Nm d o.op) v/\∀w:World,Xv S w.heap->(execOp a.eval o).run P w=.ok (.value v) w:=by
  rintro s ⟨v,S,q,A,z⟩ hx E;exact⟨v,S,q,A,by rw[hx];trivial,λw B=>by rw[E w];exact iY (z w B)⟩
 obtain⟨Q,L,type,pos,G,F⟩:=o;simp only at g fin⊢;cases L with
 |move x=>
  simp only[DC]at g;split at g
  .rename_i v hv
   exact⟨v,none,g,trivial,wY hd hv,λw _=>by simp[execOp,j hv]⟩
  .exact g.elim
 |assign x=>
  simp only[DC]at g;split at g
  .rename_i v hv
   exact⟨v,none,g,trivial,wY hd hv,λw _=>by simp[execOp,j hv]⟩
  .exact g.elim
 |pick c x y=>
  simp only[DC]at g;split at g
  .rename_i vc va vb hc hx U
   unfold Y5 at g;split at g
   .rename_i cb
    have H:=wY hd hc;have V:=wY hd hx;have X:=wY hd U;have E:∀w,(execOp a.eval ⟨Q,.pick c x y,type,pos,G,F⟩).run P w=.ok (.value (if cb then va else vb)) w:=λw=>by
     simp[execOp,j hc,j hx,j U,asBool]
    have J:JU (Nm d (.pick c x y)) (if cb then va else vb):=by
     simp only[Nm];cases hcd:CB d c with
     |t=>
      rw[hcd]at H;have:cb=true:=by simpa[JU]using H
      subst this;exact V
     |f=>
      rw[hcd]at H;have:cb=false:=by simpa[JU]using H
      subst this;exact X
     |u=>trivial
     |x=>trivial
    split at g
    .rename_i bx by'
     have O:(if cb=true then Value.bool bx else Value.bool by')=.bool (bif cb then bx else by'):=by cases cb<;>rfl
     rw[O]at J;exact⟨_,none,g,trivial,J,λw _=>by rw[E w,O]⟩
    .cases cb
     .exact⟨_,none,g,trivial,J,λw _=>E w⟩
     .exact⟨_,none,g,trivial,J,λw _=>E w⟩
   .exact g.elim
  .exact g.elim
 |load t x=>
  simp only[DC]at g;split at g
  .rename_i v hv
   obtain⟨u,S,q,A,z⟩:=ES g;exact fin ⟨u,some S,q,A,z⟩ rfl λw=>by simp only[execOp,j hv]
  .exact g.elim
 |nilCheck x=>
  simp only[DC]at g;split at g
  .rename_i p hv
   obtain⟨b,rfl,q⟩:=g;exact⟨_,none,q,trivial,trivial,λw _=>by simp[execOp,j hv]⟩
  .exact g.elim
 |binOp L t x y yt=>
  simp only[DC]at g;split at g
  .rename_i v u hn hv hu
   have go:(∀c d,v=.agg c->u=.agg d->False)/\Yv P (binOp L t v u) K h:=by
    split at g
    .exact Hw (neg:=false) g
    .exact Hw (neg:=true) g
    .exact⟨(Bh g).1,(Bh g).2.2⟩
   obtain⟨Y,R,S,q,A,z⟩:=go;obtain⟨yc,rfl⟩:=My hn;refine⟨R,S,q,A,trivial,λw B=>?_⟩
   simp only[execOp,j hv,j hu];simp[OV L t x yc v u Y w,z w B]
  .rename_i v u hn hv hu
   obtain⟨R,S,q,A,z⟩:=Qk (x:=x) (y:=y) g;refine⟨R,S,q,A,trivial,λw B=>?_⟩
   simp only[execOp,j hv,j hu];exact iY (z w B)
  .rename_i v u hna hn hv hu
   obtain⟨Y,h2,R,S,q,A,z⟩:=Bh g;refine⟨R,S,q,A,trivial,λw B=>?_⟩
   simp only[execOp,j hv,j hu];simp[QY L t x y v u Y h2 w,z w B]
  .exact g.elim
 |unOp L t x=>
  simp only[DC]at g;split at g
  .rename_i v hv
   obtain⟨u,S,q,A,z⟩:=TF (P:=P) (h:=h) g;refine⟨u,S,q,A,?_,λw B=>by simp only[execOp,j hv];exact iY (z w B)⟩
   have I:=wY hd hv;cases L<;>try trivial
   simp only[Nm];have D:=z {(default:World)with heap:=h} A;cases hx:CB d x with
   |t=>
    rw[hx]at I;have:v=.bool true:=I;subst this;simp[Op.unary]at D;exact D.symm
   |f=>
    rw[hx]at I;have:v=.bool false:=I;subst this;simp[Op.unary]at D;exact D.symm
   |u=>trivial
   |x=>trivial
  .exact g.elim
 |convert s t x=>
  simp only[DC]at g;split at g
  .rename_i v hv
   exact fin (N6 g) rfl λw=>by simp only[execOp,j hv]
  .exact g.elim
 |extract x i=>
  simp only[DC]at g;split at g
  .rename_i vs hv
   split at g
   .rename_i u hu
    have Z:vs[i]? =some u:=by simpa using hu
    exact⟨u,none,g,trivial,trivial,λw _=>by simp[execOp,j hv,Instr.extract,Z]⟩
   .exact g.elim
  .exact g.elim
 |fieldAddr t x f=>
  simp only[DC]at g;split at g
  .rename_i b u off hv hf
   exact fin (F1 hf g) rfl λw=>by simp only[execOp,j hv]
  .exact g.elim
 |field t x f=>
  simp only[DC]at g;split at g
  .rename_i v hv
   exact fin (Ml g) rfl λw=>by simp only[execOp,j hv]
  .exact g.elim
 |indexAddr t x i=>
  simp only[DC]at g;split at g
  .rename_i v u hv hu
   exact fin (D1 g) rfl λw=>by simp only[execOp,j hv,j hu]
  .exact g.elim
 |index t x i=>
  simp only[DC]at g;split at g
  .rename_i v u hv hu
   exact fin (Mj g) rfl λw=>by simp only[execOp,j hv,j hu]
  .exact g.elim
 |slice t x lo hi mx=>
  simp only[DC]at g;split at g
  .rename_i v l h' m hv hl hh hm
   have W:∀{x:Option Operand} {v:Option Value},KB r x=some v->x.map a.eval=v:=by
    intro x v hx;cases x with
    |none=>simp[KB]at hx;subst hx;rfl
    |some x=>
     simp only[KB]at hx;cases E:cU r x with
     |none=>simp[E]at hx
     |some u=>simp[E]at hx;subst hx;simp[j E]
   exact fin (Mg g) rfl λw=>by simp only[execOp,j hv,W hl,W hh,W hm]
  .exact g.elim
 |lookup t x k ok=>
  simp only[DC]at g;split at g
  .rename_i v u hv hu
   exact fin (Ju g) rfl λw=>by simp only[execOp,j hv,j hu]
  .exact g.elim
 |makeInterface t x=>
  simp only[DC]at g;split at g
  .rename_i v hv
   cases hb:rg P t with
   |false=>rw[hb]at g;exact g.elim
   |true=>
    rw[hb,cond_true]at g;exact⟨_,none,g,trivial,trivial,λw _=>by simp only[execOp,j hv];exact iY (Cq hb w)⟩
  .exact g.elim
 |typeAssert x u t ok=>
  simp only[DC]at g;split at g
  .rename_i v hv
   cases ok with
   |true=>exact g.elim
   |false=>
    rw[cond_false]at g;unfold Sn at g;cases hb:rg P t with
    |false=>rw[hb]at g;exact g.elim
    |true=>
     rw[hb,cond_true]at g;split at g
     .obtain⟨y,rfl,q⟩:=g
      exact⟨_,none,q,trivial,trivial,λw _=>by simp only[execOp,j hv];exact iY (GV hb w)⟩
     .exact g.elim
  .exact g.elim
 |makeFunc fn first cap=>
  simp only[DC]at g;split at g
  .rename_i vs us hv hu
   have O:=nD T hv;have e2:=nD T hu;refine⟨_,none,g,trivial,trivial,λw _=>?_⟩
   have f1:first.map a.eval=vs.toArray:=by rw[<-O];apply cO;simp
   have f2:cap.map a.eval=us.toArray:=by rw[<-e2];apply cO;simp
   simp[execOp,Instr.makeFunc,f1,f2]
  .exact g.elim
 |entry it=>
  simp only[DC]at g;split at g
  .rename_i b kk vk hv
   obtain⟨h0,e,x,y,hi,q,U,hK⟩:=g;refine⟨_,_,hK,hi,trivial,λw B=>?_⟩
   simp only[execOp,j hv];refine iY ?_;rw[Ug h0 B,q,U]
  .exact g.elim
 |call c=>
  simp only[DC]at g;have C:∀{b:Builtin} {vs:c5},c.callee=.builtin b->oT r c.args.toList=some vs->∃cs:Array Bool,∀w,(execOp a.eval ⟨Q,.call c,type,pos,G,F⟩).run P w=
    (builtin b c.argTypes type cs vs.toArray).run P w:=by
   intro b vs hc n;have O:=nD T n;have f1:c.args.map a.eval=vs.toArray:=by rw[<-O];apply cO;simp
   refine⟨c.args.map fun| .const _=>true|_=>false,λw=>?_⟩
   simp[execOp,resolve,hc,f1,invoke];rfl
  split at g
  .rename_i v t hc n hat
   obtain⟨cs,C⟩:=C hc n;obtain⟨u,S,q,A,z⟩:=Qg (ats:=c.argTypes) (ty:=type) (by rw[<-bG,hat];rfl) g;exact⟨u,S,q,A,trivial,λw B=>by rw[C w];simp only[builtin];exact iY (z w B)⟩
  .rename_i v t hc n hat
   obtain⟨cs,C⟩:=C hc n;obtain⟨u,S,q,A,z⟩:=Qj (h:=h) (ats:=c.argTypes) (ty:=type) (by rw[<-bG,hat];rfl) g;exact⟨u,S,q,A,trivial,λw B=>by rw[C w];simp only[builtin];exact iY (z w B)⟩
  .rename_i vs hc n
   obtain⟨cs,C⟩:=C hc n;obtain⟨u,q,z⟩:=Ax (P:=P) (ats:=c.argTypes) (ty:=type) g;exact⟨u,none,q,trivial,trivial,λw _=>by rw[C w];simp only[builtin];exact iY (z w)⟩
  .rename_i vs hc n
   obtain⟨cs,C⟩:=C hc n;obtain⟨u,q,z⟩:=Ax (P:=P) (ats:=c.argTypes) (ty:=type) g;exact⟨u,none,q,trivial,trivial,λw _=>by rw[C w];simp only[builtin];exact iY (z w)⟩
  .rename_i v hc n
   obtain⟨cs,C⟩:=C hc n;obtain⟨u,q,z⟩:=Mh (P:=P) (ats:=c.argTypes) (ty:=type) g;exact⟨u,none,q,trivial,trivial,λw _=>by rw[C w];simp only[builtin];exact iY (z w)⟩
  .exact g.elim
 |build t ps=>
  simp only[DC]at g;split at g
  .rename_i vs n
   split at g
   .rename_i cs hcs
    refine⟨_,none,g,trivial,trivial,λw _=>?_⟩
    have hp:(ps.map λx=>(x.1,a.eval x.2))=vs.toArray:=by
     rw[<-pH T n];apply cO;simp
    have E:=CH (ps:=vs.toArray) (by simpa using hcs) w;simp only[execOp];rw[show(ps.map λ(i,x)=>(i,a.eval x))=vs.toArray from hp]
    exact iY E
   .exact g.elim
  .exact g.elim
 |_=>simp only[DC]at g
end
section
variable {K:WK}{w:World}{h:ad}{a:Addr}{b:aT}{v x s k:Value}{vs z xs:c5}{t e u ty:TypeId}{n size sl g r i last N:Nat}{k0:IntKind}{l:Int}{d:TypeDesc}{c:CK}{o:Obj}{m:Option Nat}{ts:Array TypeId}
variable {P:Program}
def O9(P:Program)(s:Sem Next)(K:WK)(w:World):Prop:=
 (∃v a,s.run P w=.ok (.value v) a/\Tame w a/\K v a.heap)\/
 (∃a,s.run P w=.ok .skip a/\Tame w a/\K undef a.heap)\/
 (∃f args,s.run P w=.ok (.enter f args) w/\Calls P f args w λe a=>Tame w a/\∃v,e=.returned v/\K v a.heap)\/
 (∃l fn tmps assign body,s.run P w=.ok (.round l fn tmps assign body) w/\
  ∀(c:Frame) (cs:List Frame),∃b a,Tame w a/\K (.bool b) a.heap/\Steps P (lone (Frame.round l fn tmps assign body .normal) (c::cs) w) (lone (c.finish (.bool b)) cs a))
def Wv(P:Program)(s:Sem Value)(K:WK)(w:World):Prop:=∃v w',s.run P w=.ok v w'/\Tame w w'/\K v w'.heap
theorem Wv.out{s:Sem Value}(h:Wv P s K w):O9 P (do pure (Next.value (<-s))) K w:=by
 obtain⟨v,c,a,ht,b⟩:=h;exact .inl ⟨v,c,iY a,ht,b⟩
def Wu(P:Program)(s:Sem Unit)(K:WK)(w:World):Prop:=∃w',s.run P w=.ok () w'/\Tame w w'/\K undef w'.heap
theorem Wu.out{s:Sem Unit}(h:Wu P s K w):O9 P (do s;pure Next.skip) K w:=by
 obtain⟨c,a,ht,b⟩:=h;exact .inr (.inl ⟨c,Vt a,ht,b⟩)
def jh(w:World)(h:ad):World:={w with heap:=h}
theorem du(w:World)(h:ad):Tame w (jh w h):=⟨rfl,rfl,rfl⟩
theorem kX(e:TypeId)(cs:Array Value)(w:World):(newRow e cs).run P w=.ok (aH w.heap) (jh w (hnew w.heap cs.toList e)):=by
 simp[newRow,newObj,nQ,aH,jh,hnew,bind,Sem.bind,pure]
theorem Be(o:Obj)(w:World):(newObj o).run P w=.ok w.heap.size (jh w (w.heap.push o)):=rfl
theorem JA{b:Addr}(v:Value)(c:a≠b):aI (hset h a v) b=aI h b:=
 World.cell?_setCell_other {(default:World)with heap:=h} a b v c
theorem FY{u:Value}(v:Value)(hc:aI h a=some u):aI (hset h a v) a=some v:=
 World.cell?_setCell_same {(default:World)with heap:=h} a v hc
theorem MD{b:Addr}(v:Value):Gx (hset h a v) b=Gx h b:=
 World.frozen?_setCell {(default:World)with heap:=h} a b v
theorem Wr.hset{h:ad}{a b:Addr}(v:Value)(f:Wr h b):Wr (hset h a v) b:=by
 obtain⟨⟨u,c⟩,d⟩:=f;refine⟨?_,by rw[MD];exact d⟩
 by_cases e:a=b
 .subst e;exact⟨v,FY v c⟩
 .exact⟨u,by rw[JA v e];exact c⟩
theorem P8(hv:∀cs,v≠ .agg cs)(c:∀cs,v≠ .tuple cs)(f:Wr w.heap a):(store a v).run P w=.ok () (jh w (hset w.heap a v)):=by
 obtain⟨⟨u,g⟩,e⟩:=f;have d:w.cell? a=some u:=g;have b:w.frozen? a=false:=e;cases v<;>first|exact absurd rfl (hv _)|exact absurd rfl (c _)|(simp only[store,nQ,d,b];rfl)
theorem Mu(h:cA (v::vs)=true):(∀cs,v≠ .agg cs)/\(∀cs,v≠ .tuple cs)/\cA vs=true:=by
 simp only[cA,bA]at h;refine⟨λcs e=>?_,λcs e=>?_,h.2⟩<;>(subst e;exact absurd h.1 a7)
theorem tI{a:Addr}:∀(vs:c5) (i:Nat) (w:World),cA vs=true->(∀j,j<vs.length->Wr w.heap (adr a (i+j)))->
  (storeCells a vs i).run P w=.ok () (jh w (fu w.heap a i vs))
 | [],i,w,_,_=>rfl
 |v::vs,i,w,b,hw=>by
  obtain⟨e,f,b⟩:=Mu b;have c:=hw 0 a7;simp only[fV]at c;have d:a.add i=adr a i:=(wt a i).symm;simp only[storeCells,d,bj,P8 e f c,aD];rw[tI vs (i+1) (jh w (hset w.heap (adr a i) v)) b λj g=>?_]
  .rfl
  .have:=hw (j+1) (by simp only[ar];omega)
   rw[show i+1+j=i+(j+1) by omega]
   exact this.hset v
theorem K2{a:Addr}(m:Nat):∀(vs:c5) (i:Nat) (h:ad),fu h (adr a m) i vs=fu h a (m+i) vs
 | [],_,_=>rfl
 |v::vs,i,h=>by
  simp only[fu];rw[K2 m vs (i+1),oJ];rfl
theorem LR{a:Value}(c:PH P t a v K w.heap):Wu P (Instr.storeAt t a v) K w:=by
 unfold PH at c;split at c
 .rename_i a
  cases hb:(aO v.cells.toList.length (cz P t)&&cA v.cells.toList)with
  |false=>rw[hb]at c;exact c.elim
  |true=>
   rw[hb]at c;simp only[bA]at hb;have n:=bD hb.1;obtain⟨c,o⟩:=qr c;have i:v.cells.size=cz P t:=by simpa using n
   have m:(∀j,j<v.cells.toList.length->Wr w.heap (adr a (0+j)))->(Instr.storeAt t (.pointer (some a)) v).run P w=.ok () (jh w (fu w.heap a 0 v.cells.toList)):=by
    intro d;have:=tI (P:=P) v.cells.toList 0 w hb.2 d;simp[Instr.storeAt,nr,storeVar,o,i,this]
   split at c
   .rename_i u hu
    obtain⟨d,g⟩:=c;refine⟨_,m (λj f=>?_),du _ _,?_⟩
    .rw[hu]at f;simp only[ar,List.length_nil]at f
     obtain rfl:j=0:=a4
     exact d
    .rw[hu];exact g
   .obtain⟨d,g⟩:=c
    refine⟨_,m (λj f=>?_),du _ _,g⟩
    rcases d with e|⟨b,k,d⟩
    .rw[e]at f;cases f
    .cases k;exact d j f
 .exact c.elim
theorem kD(z:Array Value)(n:Nat):(ir z n).toList=dg n z.toList:=by
 have key:∀n,(List.range (n*z.size)).map (λi=>z[i%z.size]!)=(fW n z.toList).flatten:=by
  intro n;induction n with
  |zero=>simp
  |succ n ih=>
   rw[Nat.succ_mul,List.range_add,List.map_append,ih,List.replicate_succ',List.flatten_append];congr 1
   simp only[iR,List.flatten_cons,List.flatten_nil,List.append_nil];apply List.ext_getElem
   .simp
   .intro i a b
    simp only[List.length_map,List.length_range]at a;simp[Nat.mod_eq_of_lt a,a,Nat.add_mod]
 simpa[ir,dg]using key n
theorem dy(h:ym P t=some e):P.underlying t=some (.slice e):=by
 unfold ym at h;split at h
 .rename_i e' hu;simp only[bI.injEq]at h;subst h;exact hu
 .cases h
theorem RJ{z:Value}:((Array.range (n*z.cells.size)).map (z.cells[· %z.cells.size]!))=(dg n z.cells.toList).toArray:=by
 have:=kD z.cells n;unfold ir at this;apply cO;rw[this]
theorem Eg{ps:Array (Nat×Value)}{cs:c5}(ht:ym P t=some e)(k:rL P e=some z)(p:n*cz P e<=16777216)(g:z.length=cz P e)
  (hb:E8 (λi=>some (i*cz P e,cz P e)) (dg n z) ps.toList=some cs)(w:World):
  (Instr.buildSlice t n ps).run P w=.ok (.slice (some (aH w.heap)) n n) (jh w (hnew w.heap cs e)):=by
 obtain⟨v,hv,c⟩:=kP k;obtain⟨i,hi,o⟩:=sS hv;have m:(sizeOf e).run P w=.ok (cz P e) w:=by simp[sizeOf,cT hi,cz,hi]
 have f:v.cells.size=cz P e:=by rw[<-g,<-c];simp
 have j:=vj _ _ _ hb;have a:((Array.range (n*cz P e)).map (λi=>(if n*cz P e=0 then #[]else v.cells)[i%(if n*cz P e=0 then #[]else v.cells).size]!))=(dg n z).toArray:=by
  by_cases b:n*cz P e=0
  .have:(dg n z).length=0:=by simp[dg,g,b]
   rw[aJ.1 this];simp[b]
  .simp only[if_neg b]
   rw[<-f,RJ,c]
 have d:¬(n*cz P e>2^24):=a4
 simp only[Instr.buildSlice,bj,aE (dy ht),aD,m,if_neg d];by_cases b:n*cz P e=0
 .simp only[if_pos b]at a
  simp only[if_pos b,bj,bX,aD,a,j,kX]
 .simp only[if_neg b]at a
  simp only[if_neg b,bj,bX,aD,d8 hv,a,j,kX]
theorem TA(b:Row h a vs):∀j v,vs[j]? =some v->aI h (a.add j)=some v:=λj v hv=>by
 rw[<-wt];exact b j v hv
theorem zO{cap len:Nat}(d:SRow w.heap b (n*size) vs):(eE size n (.slice b len cap)).run P w=.ok vs.toArray w:=by
 obtain⟨c,a⟩:=d;cases b with
 |none=>
  rcases a with rfl|⟨_,h,_⟩
  .simp[eE]
  .cases h
 |some b=>
  refine run_firstCells_some w size n b len cap vs c λj v hv=>?_
  rcases a with rfl|⟨_,h,a⟩
  .cases hv
  .cases h;exact TA a j v hv
theorem G5{m:Nat}(d:cA xs=true)(c:qR w.heap (some a) m xs):
  (storeCells (a.add m) xs).run P w=.ok () (jh w (fu w.heap a m xs)):=by
 rcases c with rfl|⟨b,hb,c⟩
 .rfl
 .cases hb
  have:=tI (P:=P) (a:=adr a m) xs 0 w d λj e=>by rw[oJ,aU];exact c j e
  rw[<-wt,this,K2,fV]
set_option maxHeartbeats 1000000 in
theorem Il{f c:Nat}(ht:ym P t=some e)(k:(∃s,P.underlying u=some (.slice s))\/P.underlying u=some .string)
  (g:∀w,(qV x).run P w=.ok c w)(hx:∀w':World,w'.heap=w.heap->(eE (cz P e) c x).run P w'=.ok xs.toArray w')
  (hi:∃i,P.info? e=some i)
  (h:W5 P e b sl f c xs K w.heap):Wv P (dG #[t,u] ty #[.slice b sl f,x]) K w:=by
 obtain⟨i,hi⟩:=hi;have j:cz P e=i.size:=by simp[cz,hi]
 have C:rS P e=i.bytes:=by simp[rS,hi]
 by_cases hc:sl+c<=f
 .obtain⟨J,L,F⟩:=h.1 hc
  refine⟨_,_,?_,du w (fe w.heap b (sl*cz P e) xs),F⟩;cases b with
  |none=>
   have d:=hx w rfl;rw[j]at d;rcases k with⟨s,hd⟩|hd<;>(simp[dG,aE (dy ht),aE hd,sizeOf,cT hi,g,hc,d];rfl)
  |some a=>
   have p:=G5 (P:=P) L J;have d:=hx w rfl;rw[j]at p d;rcases k with⟨s,hd⟩|hd<;>(simp[dG,aE (dy ht),aE hd,sizeOf,cT hi,g,hc,d,p,fe,j])
 .obtain⟨old,z,H,I,A,y,F⟩:=h.2 a4
  obtain⟨v,hv,B⟩:=kP I;obtain⟨N,n,G⟩:=sS hv;rw[hi]at n;cases n;rw[C]at A y;have o:¬i.bytes=0:=a4
  have m:¬(281474976710656<ns (sl+c) f*i.bytes):=a4
  have d:=hx w.drew rfl;have q:(eE (cz P e) sl (.slice b sl f)).run P w.drew=.ok old.toArray w.drew:=zO H;rw[j]at d q;have E:sl+c<=(Question.appendCap (sl+c) f e).cut (w.tape w.drawn (.appendCap (sl+c) f e)):=qG _ _;refine⟨_,jh w.drew (hnew w.heap (old++xs++dg ((Question.appendCap (sl+c) f e).cut (w.tape w.drawn (.appendCap (sl+c) f e))-(sl+c)) z) e),?_,⟨rfl,rfl,rfl⟩,F _ E⟩
  have D:(ir v.cells ((Question.appendCap (sl+c) f e).cut (w.tape w.drawn (.appendCap (sl+c) f e))-(sl+c)))=(dg ((Question.appendCap (sl+c) f e).cut (w.tape w.drawn (.appendCap (sl+c) f e))-(sl+c)) z).toArray:=by
   apply cO;rw[kD,B]
  rcases k with⟨s,hd⟩|hd<;>(simp[dG,aE (dy ht),aE hd,sizeOf,cT hi,g,hc,o,m,Question.forced,d,q,d8 hv,kX,D,aH];rfl)
theorem HN{K:Prop}(h:VM P t K):∃i,P.info? t=some i:=by
 unfold VM at h;cases hi:P.info? t with
 |none=>rw[hi]at h;exact h.elim
 |some i=>exact⟨i,rfl⟩
theorem Cv(h:cz P t≠0):∃i,P.info? t=some i:=by
 cases hi:P.info? t with
 |none=>exact absurd (by simp[cz,hi]) h
 |some i=>exact⟨i,rfl⟩
theorem Fb{x:dO}:(eE size n (.string x)).run P w=.ok ((dz x).take n).toArray w:=by
 simp only[eE,bX];congr 1
 apply cO;simp[dz,qe,gB,<-List.map_take]
theorem Au(c:(∃e',P.underlying u=some (.slice e'))\/P.underlying u=some .string)(h:Gi P t s x K w.heap):
  Wv P (dG #[t,u] ty #[s,x]) K w:=by
 unfold Gi at h;split at h
 .rename_i e b sl sc a xl xc ht
  have hi:=HN h;obtain⟨⟨xs,d,f⟩,k⟩:=qr h;exact Il ht c (λw=>rfl) (λg i=>zO (by rw[i];exact d)) hi f
 .rename_i e b sl sc x ht
  cases hb:aO (cz P e) 1 with
  |false=>rw[hb]at h;exact h.elim
  |true=>
   rw[hb]at h;have m:=bD hb;have j:(dz x).length=x.size:=by simp[dz]
   refine Il ht c (λw=>rfl) (λg _=>?_) (Cv a4) h
   rw[Fb,aS a4]
 .exact h.elim
theorem DF{n:Int}(b:0<=n)(a:n<=9223372036854775807):IntKind.i64.wrap n=n:=IntWalk.i64_in n ⟨a4,a⟩
theorem Rd{k:IntKind}(ht:ym P t=some e)(y:P.underlying u=some (.int k0))
  (S:rL P e=some z)(O:z.length=cz P e)(Y:0<=l)(Q:l*rS P e<=2^48)(X:l<=9223372036854775807)(Z:((sl+l.toNat:Nat):Int)<=9223372036854775807)
  (h:W5 P e b sl g l.toNat (dg l.toNat z) K w.heap):Wv P (dG #[t,u] ty #[.slice b sl g,.int k l]) K w:=by
 obtain⟨v,hv,A⟩:=kP S;obtain⟨i,hi,U⟩:=sS hv;have j:cz P e=i.size:=by simp[cz,hi]
 have B:rS P e=i.bytes:=by simp[rS,hi]
 have x:IntKind.wrap .i64 l=l:=DF Y X;have c:¬l<0:=a4
 rw[B]at Q;have d:¬(281474976710656:Int)<l*i.bytes:=a4
 have f:∀I:World,(asInt (.int k l)).run P I=.ok l I:=λI=>rfl
 have E:(ir v.cells l.toNat)=(dg l.toNat z).toArray:=by apply cO;rw[kD,A]
 have q:l.toNat*i.size=0->dg l.toNat z= []:=λL=>by
  have F:(dg l.toNat z).length=l.toNat*i.size:=by rw[<-j,<-O];unfold dg;simp
  exact aJ.1 (by rw[F,L])
 by_cases hc:sl+l.toNat<=g
 .obtain⟨R,Q,G⟩:=h.1 hc
  refine⟨_,_,?_,du w (fe w.heap b (sl*cz P e) (dg l.toNat z)),G⟩;cases b with
  |none=>
   by_cases m:l.toNat*i.size=0
   .simp[dG,aE (dy ht),aE y,sizeOf,cT hi,f,x,c,d,hc,m];rfl
   .simp[dG,aE (dy ht),aE y,sizeOf,cT hi,f,x,c,d,hc,d8 hv];rfl
  |some a=>
   have n:=G5 (P:=P) Q R;rw[j]at n;by_cases m:l.toNat*i.size=0
   .rw[q m]at n
    simp[dG,aE (dy ht),aE y,sizeOf,cT hi,f,x,c,d,hc,n,fe,j,m,q m]
   .simp[dG,aE (dy ht),aE y,sizeOf,cT hi,f,x,c,d,hc,n,fe,j,m,d8 hv,E]
 .obtain⟨old,z',W,D,J,H,G⟩:=h.2 a4
  rw[S]at D;cases D;rw[B]at J H;have T:¬i.bytes=0:=a4
  have p:¬(281474976710656<ns (sl+l.toNat) g*i.bytes):=a4
  have V:¬(9223372036854775807:Int)<((sl:Int)+(l.toNat:Int)):=a4
  have o:¬(9223372036854775807:Int)<((sl:Int)+max l 0):=a4
  have s:(eE (cz P e) sl (.slice b sl g)).run P w.drew=.ok old.toArray w.drew:=zO W;rw[j]at s;have N:sl+l.toNat<=(Question.appendCap (sl+l.toNat) g e).cut (w.tape w.drawn (.appendCap (sl+l.toNat) g e)):=qG _ _;refine⟨_,jh w.drew (hnew w.heap (old++dg l.toNat z++dg ((Question.appendCap (sl+l.toNat) g e).cut (w.tape w.drawn (.appendCap (sl+l.toNat) g e))-(sl+l.toNat)) z) e),?_,⟨rfl,rfl,rfl⟩,G _ N⟩
  have C:(ir v.cells ((Question.appendCap (sl+l.toNat) g e).cut (w.tape w.drawn (.appendCap (sl+l.toNat) g e))-(sl+l.toNat)))=(dg ((Question.appendCap (sl+l.toNat) g e).cut (w.tape w.drawn (.appendCap (sl+l.toNat) g e))-(sl+l.toNat)) z).toArray:=by
   apply cO;rw[kD,A]
  by_cases m:l.toNat*i.size=0
  .rw[q m]at G⊢
   simp[dG,aE (dy ht),aE y,sizeOf,cT hi,f,x,c,d,hc,o,p,Question.forced,s,d8 hv,kX,C,aH,m];rfl
  .simp[dG,aE (dy ht),aE y,sizeOf,cT hi,f,x,c,d,hc,o,p,Question.forced,s,d8 hv,kX,C,aH,m,E];rfl
theorem GQ(f:P.underlying u=some (.int k0))(h:GR P t s x K w.heap):
  Wv P (dG #[t,u] ty #[s,x]) K w:=by
 unfold GR at h;split at h
 .rename_i e b sl sc k l ht
  split at h
  .rename_i z hz
   cases hb:aO z.length (cz P e)with
   |false=>rw[hb]at h;exact h.elim
   |true=>
    rw[hb]at h;obtain⟨⟨i,d,g,c⟩,a⟩:=h;exact Rd ht f hz (bD hb) i d g c a
  .exact h.elim
 .exact h.elim
theorem nH:∀{a b:c5},cA a=true->cA b=true->cA (a++b)=true
 | [],_,_,h=>h
 |v::a,b,h,k=>by
  simp only[cA,cG,bA]at h⊢;exact⟨h.1,nH h.2 k⟩
theorem Ck{z:c5}(h:cA z=true):∀n,cA (dg n z)=true
 |0=>rfl
 |n+1=>by
  have:dg (n+1) z=z++dg n z:=by simp[dg,List.replicate_succ]
  rw[this];exact nH h (Ck h n)
theorem LU(h:PJ P t x K w.heap):Wv P (uI #[t] ty #[x]) K w:=by
 unfold PJ at h;split at h
 .rename_i e a n c ht
  split at h
  .rename_i z hz
   obtain⟨v,hv,f⟩:=kP hz;cases ho:cA z with
   |false=>rw[ho]at h;exact h.elim
   |true=>
    rw[ho]at h;obtain⟨i,g⟩:=h;refine⟨_,_,?_,du w (fe w.heap a 0 (dg n z)),g⟩;cases a with
    |none=>simp[uI,aE (dy ht)];rfl
    |some a=>
     cases n with
     |zero=>simp[uI,aE (dy ht)];rfl
     |succ n=>
      have b:=G5 (P:=P) (Ck ho (n+1)) i;rw[<-wt,Ip]at b;have d:(ir v.cells (n+1)).toList=dg (n+1) z:=by rw[kD,f]
      simp[uI,aE (dy ht),d8 hv,d,b,fe]
  .exact h.elim
 .exact h.elim
theorem Cl:∀(xs:c5) (n:Nat),cA xs=true->cA (xs.take n)=true
 | [],n,_=>by simp[cA]
 |x::xs,0,_=>by simp[cA]
 |x::xs,n+1,h=>by
  simp only[cA,bA,List.take_succ_cons]at h⊢;exact⟨h.1,Cl xs n h.2⟩
theorem Jv(x:dO):cA (dz x)=true:=by
 have:∀l:c6,cA (l.map λb=>.int .u8 (b.toNat:Int))=true:=by
  intro l;induction l with
  |nil=>rfl
  |cons b l ih=>simp[cA,ih]
 exact this _
theorem Nu{d:Value}(h:U7 P t d s K w.heap):Wv P (qW #[t,u] ty #[d,s]) K w:=by
 unfold U7 at h;split at h
 .rename_i e b dl dc a sl sc ht
  obtain⟨⟨xs,n,o,p,k⟩,j⟩:=qr h;refine⟨_,_,?_,du w (fe w.heap b 0 xs),k⟩;have g:=zO (P:=P) (len:=sl) (cap:=sc) n;cases b with
  |none=>simp[qW,aE (dy ht),qV,j,g,goInt];rfl
  |some c=>
   have f:=G5 (P:=P) (m:=0) p o;simp only[Addr.add,if_pos]at f;simp[qW,aE (dy ht),qV,j,g,goInt,f,fe]
 .rename_i e b dl dc x ht
  cases hb:aO (cz P e) 1 with
  |false=>rw[hb]at h;exact h.elim
  |true=>
   rw[hb]at h;have p:=bD hb;obtain⟨i,hi⟩:=Cv (P:=P) (t:=e) a4;have j:(sizeOf e).run P w=.ok (cz P e) w:=by simp[sizeOf,cT hi,cz,hi]
   obtain⟨o,k⟩:=h;have v:(dz x).length=x.size:=by simp[dz]
   have q:(dz x).take (dF x.size dl)=(dz x).take dl:=by
    by_cases hx:x.size<=dl
    .rw[show dF x.size dl=x.size from Nat.min_eq_left hx,aS a4,aS a4]
    .rw[show dF x.size dl=dl from Nat.min_eq_right a4]
   have g:(eE (cz P e) (dF x.size dl) (.string x)).run P w=.ok ((dz x).take dl).toArray w:=by
    rw[Fb,q]
   refine⟨_,_,?_,du w (fe w.heap b 0 ((dz x).take dl)),k⟩;cases b with
   |none=>simp[qW,aE (dy ht),qV,j,g,goInt];rfl
   |some c=>
    have f:=G5 (P:=P) (m:=0) (Cl _ dl (Jv x)) o;simp only[Addr.add,if_pos]at f;simp[qW,aE (dy ht),qV,j,g,goInt,f,fe]
 .exact h.elim
theorem Gn(k v:Value)(a:Nat):∀(es:List MapEntry),(match es.findIdx? (λe=>fi k e.key)with
  |some i=>(es.modify i (λe=>{e with key:=k,val:=v}),a)
  |none=>(es++ [{key:=k,val:=v,born:=a}],a+1))=Mm k v a es
 | []=>rfl
 |e::es=>by
  have b:=Gn k v a es;simp only[Mm,pf];cases hk:fi k e.key with
  |true=>simp[List.modify]
  |false=>
   simp only[cQ,if_false];rw[<-b];cases hf:es.findIdx? (λe=>fi k e.key)with
   |none=>simp
   |some i=>simp[List.modify]
theorem vi{d:TypeDesc}{c:CK}(hd:pN d c)(x:c.den):∀(es:List MapEntry) (i:Nat),keysOf c es->
  oF d (c.enc x) es i=some (match es.findIdx? (λe=>fi (c.enc x) e.key)with
   |some j=>(es[j]?).map λe=>(i+j,e.val)
   |none=>none)
 | [],i,_=>rfl
 |e::es,i,h=>by
  obtain⟨y,g⟩:=h e a7;have b:=EN hd x y;rw[<-g]at b;have f:=vi hd x es (i+1) λk a=>h k (by simp[a])
  simp only[oF,pf,b];cases hb:fi (c.enc x) e.key with
  |true=>simp
  |false=>
   simp only[cQ,if_false];rw[f];cases hf:es.findIdx? (λe=>fi (c.enc x) e.key)with
   |none=>simp
   |some j=>simp[wD,Nat.add_comm 1 j]
theorem yn{a b:dO}(h:(a==b)=true):a=b:=by
 cases a with|mk a=>cases b with|mk b=>
 have h:(a==b)=true:=h;rw[eq_of_beq h]
theorem zm(a:dO):(a==a)=true:=by
 cases a with|mk a=>
 exact beq_self_eq_true a
theorem Mc(hd:pN d c)(x y:c.den)(h:fi (c.enc x) (c.enc y)=true):Instr.sameBits 10000 (c.enc y) (c.enc x)=true:=by
 rcases hd with⟨i,rfl,rfl⟩|⟨rfl,rfl⟩|⟨rfl,rfl⟩
 .have h:x=y:=eq_of_beq (α:=Int) h
  subst h;have:∀n:Int,(i==i&&n==n)=true:=λn=>a7
  exact this x
 .have h:x=y:=yn h
  subst h;exact zm x
 .have h:x=y:=eq_of_beq (α:=Bool) h
  subst h;exact beq_self_eq_true (α:=Bool) x
theorem qp{es:Array MapEntry}{a:Nat}(h:w.heap[r]? =some (.map es a)):(setObj r o).run P w=.ok () (jh w (w.heap.setIfInBounds r o)):=by
 simp only[setObj,nQ,h];rfl
theorem Qy{k:TypeId}(z:P.underlying t=some (.map k e))(o:P.underlying k=some d)(hd:pN d c){x:c.den}(hm:vq c w.heap r):
  (Instr.mapUpdate t (.map (some r)) (c.enc x) v).run P w=.ok () (jh w (fC w.heap r (c.enc x) v)):=by
 obtain⟨es,a,hb,f⟩:=hm;obtain⟨q,u,b,B⟩:=tT (P:=P) hd o x f w;rw[vi hd x es.toList 0 f]at b;have g:=Gn (c.enc x) v a es.toList;have n:fC w.heap r (c.enc x) v=w.heap.setIfInBounds r (.map (Mm (c.enc x) v a es.toList).1.toArray (Mm (c.enc x) v a es.toList).2):=by
  simp only[fC,hb]
 rw[n,<-g];simp only[Instr.mapUpdate,bj,aE z,aD,j8 hb,lY hd o,u];cases hf:es.toList.findIdx? (λe=>fi (c.enc x) e.key)with
 |none=>
  rw[hf]at b;simp only[bI.injEq]at b;subst b;simp only[qp hb];congr 4
  apply cO;simp
 |some i=>
  rw[hf]at b;simp only[bI.injEq]at b;obtain⟨hi,s,_⟩:=List.findIdx?_eq_some_iff_getElem.1 hf;have p:es.toList[i]? =some es.toList[i]:=af hi;rw[p]at b;simp only[iy,aU]at b;subst b;have m:es[i]? =some es.toList[i]:=by rw[<-bG];exact p
  obtain⟨y,A⟩:=f es.toList[i] (List.getElem_mem hi);have j:Instr.sameBits 10000 (es.toList[i]).key (c.enc x)=true:=by
   rw[A]at s⊢;exact Mc hd x y s
  simp only[m,iy,Option.getD_some,Instr.keyThatStays,j,if_true,bj,bX,aD,qp hb];congr 4
  apply cO;simp
theorem As{m:Value}(h:Gh P t m k v K w.heap):Wu P (Instr.mapUpdate t m k v) K w:=by
 unfold Gh at h;split at h
 .rename_i c e m hc
  obtain⟨i,d,f,a,hd⟩:=ve hc;obtain⟨g,rfl,r,rfl,hm,b⟩:=CK.dec_sound h;exact⟨_,Qy f a hd hm,du _ _,b⟩
 .exact h.elim
theorem FM{m:Value}(h:DJ P t m k K w.heap):Wv P (Instr.mapEntry t m k) K w:=by
 unfold DJ at h;split at h
 .rename_i c e m hc
  obtain⟨u,d,s,i,hd⟩:=ve hc;split at h
  .rename_i z hz
   obtain⟨x,rfl,r,rfl,n,⟨es,hb,b,j⟩,o⟩:=CK.dec_sound h;obtain⟨q,p,g,_⟩:=tT (P:=P) hd i x b w;rw[vi hd x es.toList 0 b,j]at g;simp only[bI.injEq]at g;subst g;have a:=Gn (c.enc x) z n es.toList;rw[j]at a;have f:fC w.heap r (c.enc x) z=w.heap.setIfInBounds r (.map (es.toList++ [({key:=c.enc x,val:=z,born:=n}:MapEntry)]).toArray (n+1)):=by
    simp only[fC,hb,<-a]
   refine⟨_,jh w (fC w.heap r (c.enc x) z),?_,du _ _,o⟩;rw[f];simp only[Instr.mapEntry,bj,aE s,aD,j8 hb,lY hd i,p,d8 hz,qp hb,bX,goInt];congr 4
   apply cO;simp
  .exact h.elim
 .exact h.elim
theorem GO{m:Value}(h:GP m s v K w.heap):Wu P (Instr.entryStore t m s v) K w:=by
 unfold GP at h;split at h
 .rename_i m k n
  obtain⟨r,rfl,⟨es,a,i,hb,hi⟩,b⟩:=h;refine⟨jh w (Qw w.heap r n v),?_,du _ _,b⟩;simp only[Qw,hb,hi];simp only[Instr.entryStore,bj,j8 hb,aD,asInt,asIntOf,bX,hi,qp hb]
 .exact h.elim
theorem OW(k:Value):∀(es:List MapEntry),(match es.findIdx? (λe=>fi k e.key)with
  |some i=>es.eraseIdx i
  |none=>es)=H5 k es
 | []=>rfl
 |e::es=>by
  have a:=OW k es;simp only[H5,pf];cases hk:fi k e.key with
  |true=>simp
  |false=>
   simp only[cQ,if_false];rw[<-a];cases hf:es.findIdx? (λe=>fi k e.key)<;>simp
theorem Ov{k:TypeId}(ht:ts[0]? =some t) (u:P.underlying t=some (.map k e)) (o:P.underlying k=some d) (hd:pN d c)  {x:c.den}  (hm:vq c w.heap r):
  (sq ts ty #[.map (some r),c.enc x]).run P w=.ok (.tuple #[]) (jh w (rk w.heap r (c.enc x))):=by
 obtain⟨es,f,hb,j⟩:=hm;obtain⟨q,s,b,v⟩:=tT (P:=P) hd o x j w;rw[vi hd x es.toList 0 j]at b;have g:=OW (c.enc x) es.toList;have n:rk w.heap r (c.enc x)=w.heap.setIfInBounds r (.map (H5 (c.enc x) es.toList).toArray f):=by
  simp only[rk,hb]
 rw[n,<-g];simp only[sq,ht,List.getElem?_toArray,List.getElem?_cons_zero,List.getElem?_cons_succ,bj,aE u,aD,j8 hb,lY hd o,s];cases hf:es.toList.findIdx? (λe=>fi (c.enc x) e.key)with
 |none=>
  rw[hf]at b;simp only[bI.injEq]at b;subst b;simp[qp hb]
 |some i=>
  rw[hf]at b;simp only[bI.injEq]at b;obtain⟨hi,y,_⟩:=List.findIdx?_eq_some_iff_getElem.1 hf;have p:es.toList[i]? =some es.toList[i]:=af hi;rw[p]at b;simp only[iy,aU]at b;subst b;have m:i<es.size:=by simpa using hi
  have a:es.eraseIdxIfInBounds i=(es.toList.eraseIdx i).toArray:=by
   apply cO;simp[Array.eraseIdxIfInBounds,m]
  simp[qp hb,a]
theorem GM{m:Value}(ht:ts[0]? =some t) (h:GN P t m k K w.heap):Wv P (sq ts ty #[m,k]) K w:=by
 unfold GN at h;split at h
 .rename_i c e m hc
  obtain⟨i,d,f,b,hd⟩:=ve hc;obtain⟨g,rfl,h⟩:=CK.dec_sound h;rcases h with⟨rfl,a⟩|⟨r,rfl,hm,a⟩
  .refine⟨_,w,?_,Tame.refl w,a⟩
   simp[sq,ht,aE f,lY hd b]
  .exact⟨_,_,Ov ht f b hd hm,du _ _,a⟩
 .exact h.elim
theorem TC{k:TypeId}(b:P.underlying t=some (.map k e)){a:Nat}(hm:m=none/\a=0\/∃r es,m=some r/\w.heap[r]? =some (.map es a)):
  (vY t (.map m)).run P w=.ok (.pointer (some (aH w.heap))) (jh w (w.heap.push (.mapIter m a #[] a))):=by
 rcases hm with⟨rfl,rfl⟩|⟨r,es,rfl,hb⟩
 .simp only[vY,bj,aE b,aD,bX,Be,aH]
 .simp only[vY,bj,aE b,aD,bX,j8 hb,Be,aH]
theorem Qd(a:P.underlying t=some .string){s:dO}:
  (vY t (.string s)).run P w=.ok (.pointer (some (aH w.heap))) (jh w (w.heap.push (.stringIter s 0))):=by
 simp only[vY,bj,aE a,aD,bX,Be,aH]
theorem yS{a:Nat}{b:Array Nat}(h:w.heap[i]? =some (.mapIter m a b last)):(getObj i).run P w=.ok (.mapIter m a b last) w:=by
 simp only[getObj,nQ,h]
theorem NV{a:Nat}{b:Array Nat}(h:w.heap[i]? =some (.mapIter m a b last)):(setObj i o).run P w=.ok () (jh w (w.heap.setIfInBounds i o)):=by
 simp only[setObj,nQ,h];rfl
theorem Ie(n:Nat)(a:0<n)(w:World):∃k w',k<n/\(choose (.mapNext n)).run P w=.ok k w'/\Tame w w'/\w'.heap=w.heap:=by
 unfold choose;simp only[nQ];by_cases h:(Question.mapNext n).forced=true
 .exact⟨0,w,a,by rw[if_pos h],Tame.refl w,rfl⟩
 .refine⟨(Question.mapNext n).cut (w.tape w.drawn (.mapNext n)),{w with drawn:=w.drawn+1},Nat.mod_lt _ a,by rw[if_neg h],⟨rfl,rfl,rfl⟩,rfl⟩
theorem Nt{L:Value}(h:U6 L K w.heap):Wv P (qL L false t) K w:=by
 unfold U6 at h;split at h
 .rename_i a
  obtain⟨J,m,j,g,last,hi,h⟩:=h;obtain⟨b,off,I⟩:=a;simp only at J hi h;subst J;rcases h with⟨rfl,N⟩|⟨r,es,v,rfl,hb,A,B,F⟩
  .exact⟨_,w,by simp only[qL,bj,yS hi,aD,bX],Tame.refl w,N⟩
  .have s:(!g.isEmpty&& !es.isEmpty&&es.all (λe=>decide (e.born>=last)))=false:=by
    rcases A with h|h|h<;>simp[h]
   obtain⟨left,i⟩:∃left,left=es.filter λe=> !g.contains e.born:=⟨_,rfl⟩
   obtain⟨old,p⟩:∃old,old=left.filter (·.born<j):=⟨_,rfl⟩
   obtain⟨new,hnew⟩:∃new,new=left.filter (·.born>=j):=⟨_,rfl⟩
   obtain⟨d,f⟩:∃d:Array (Option MapEntry),d=(if old.isEmpty then #[none]else #[])++(old++new).map some:=⟨_,rfl⟩
   have z:0<d.size:=by
    rw[f];by_cases y:old.isEmpty=true
    .simp[y];omega
    .have:old.size≠0:=by simpa using y
     simp[y];omega
   obtain⟨k,D,Q,u,ht,H⟩:=Ie (P:=P) d.size z w;obtain⟨c,hc⟩:∃c,d[k]? =some c:=⟨d[k],Array.getElem?_eq_getElem Q⟩;have E:D.heap[b]? =some (.mapIter (some r) j g last):=by rw[H];exact hi
   have o:(!g.isEmpty&& !es.isEmpty&&es.all λx=>decide (x.born>=last))=false:=s
   cases c with
   |none=>
    refine⟨.tuple #[.bool false],D,?_,ht,?_⟩
    .simp only[qL,bj,yS hi,aD,bX,j8 hb,o,cQ,if_false,<-i,<-p,<-hnew,<-f,u,hc]
    .rw[H]
     have q:old.isEmpty=true:=by
      have hm:none∈d:=qm hc;rw[f]at hm;by_cases y:old.isEmpty=true
      .exact y
      .simp[y]at hm
     refine B λe O G=>?_
     cases hs:g.contains e.born with
     |true=>rfl
     |false=>
      have n:e∈old:=by
       rw[p,i];simp only[qM];exact⟨⟨by simpa using O,by rw[hs];rfl⟩,by simpa using G⟩
      rw[Array.isEmpty_iff]at q;rw[q]at n;simp at n
   |some e=>
    have n:e∈es/\g.contains e.born=false:=by
     have hm:some e∈d:=qm hc;have C:e∈left:=by
      rw[f]at hm;rw[Array.mem_append]at hm;rcases hm with hm|hm
      .split at hm<;>simp at hm
      .simp only[Array.mem_map,bI.injEq,exists_eq_right,Array.mem_append]at hm
       rcases hm with hm|hm
       .rw[p]at hm;exact(qM.1 hm).1
       .rw[hnew]at hm;exact(qM.1 hm).1
     rw[i]at C;have:=qM.1 C;exact⟨this.1,by simpa using this.2⟩
    refine⟨.tuple #[.bool true,e.key,e.val],jh D (D.heap.setIfInBounds b (.mapIter (some r) j (g.push e.born) v)),?_,ht.trans (du _ _),?_⟩
    .simp only[qL,bj,yS hi,aD,bX,j8 hb,o,cQ,if_false,<-i,<-p,<-hnew,<-f,u,hc,NV E]
    .rw[H]
     exact F e (by simpa using n.1) n.2
 .exact h.elim
theorem LS(h:PI k K w.heap):Wv P (qL k true t) K w:=by
 unfold PI at h;split at h
 .rename_i a
  obtain⟨m,s,pos,hi,h⟩:=h;obtain⟨b,off,i⟩:=a;simp only at m hi h;subst m;have j:(getObj b).run P w=.ok (.stringIter s pos) w:=by simp only[getObj,nQ,hi]
  rcases h with⟨n,g⟩|⟨c,hc,f,g⟩
  .exact⟨_,w,by simp only[qL,bj,j,aD,if_neg (df.2 n),bX],Tame.refl w,g⟩
  .have d:pos<s.size:=by
    rcases Nat.lt_or_ge pos s.size with h'|h'
    .exact h'
    .rw[getElem?_neg s pos (df.2 h')]at hc;cases hc
   have e:(s[pos]'d)=c:=by rw[getElem?_pos s pos d]at hc;exact bI.inj hc
   have hd:=decode_ascii s pos d (by rw[e];exact f);rw[e]at hd;have o:(setObj b (.stringIter s (pos+1))).run P w=.ok () (jh w (w.heap.setIfInBounds b (.stringIter s (pos+1)))):=by simp only[setObj,nQ,hi];rfl
   exact⟨_,_,by simp only[qL,bj,j,aD,if_pos d,hd,o,bX];rfl,du _ _,g⟩
 .exact h.elim
theorem K5(a:n≠0):w.freeze ⟨g,0,none⟩ n=jh w (SO w.heap g n):=by
 unfold World.freeze;rw[if_neg a];rfl
theorem Ns{d:TypeId}{p n:Value}(h:U5 P t p n K w.heap):Wv P (Builtin.unsafeString_ #[t,d] ty #[p,n]) K w:=by
 unfold U5 at h;split at h
 .rename_i e a n hu
  cases hc:aO (P.cellsOf e) 1 with
  |false=>rw[hc]at h;exact h.elim
  |true=>
   rw[hc]at h;rcases h with⟨rfl,c⟩|⟨l,g,cs,rfl,rfl,b,f,hb,i,hx,c⟩
   .exact⟨_,w,Lib.run_unsafeString_none ..,Tame.refl w,c⟩
   .refine⟨_,_,Lib.run_unsafeString_row w t d ty e hu (bD hc) g cs.size (by simp[World.shape?,hb]) l b i f ?_,?_,?_⟩
    .intro j x k
     have:=hx j x k;have e:((⟨g,0,none⟩:Addr).add j)=⟨g,j,none⟩:=by unfold Addr.add;split<;>simp_all
     rw[e];simp[World.cell?,hb,this]
    .rw[K5 (by simpa using b)];exact du _ _
    .rw[K5 (by simpa using b)];exact c
 .exact h.elim
theorem Jx{k k':IntKind}{c:Int}(ht:ym P t=some e)(y:rL P e=some z)(d:z.length=cz P e)(A:0<=l)(D:l<=c)(B:c<=9223372036854775807)(x:rS P e*c<=2^48):
  (Instr.makeSlice t (.int k l) (.int k' c)).run P w=.ok (.slice (some (aH w.heap)) l.toNat c.toNat) (jh w (hnew w.heap (dg c.toNat z) e)):=by
 obtain⟨v,hv,g⟩:=kP y;obtain⟨i,hi,C⟩:=sS hv;have f:cz P e=i.size:=by simp[cz,hi]
 have o:rS P e=i.bytes:=by simp[rS,hi]
 have n:v.cells.size=i.size:=by rw[<-f,<-d,<-g];simp
 have p:=DF A a4;have hc:=DF (show 0<=c by omega) B
 rw[o]at x;have c1:¬(c<0):=a4
 have u:¬(281474976710656<(i.bytes:Int)*c):=a4
 have q:¬(l<0):=a4
 have s:¬(c<l):=a4
 by_cases a:c.toNat*i.size=0
 .have m:(dg c.toNat z).length=0:=by simp[dg,d,f,a]
  rw[aJ.1 m];simp[Instr.makeSlice,aE (dy ht),asInt,asIntOf,cT hi,p,hc,c1,u,q,s,sizeOf,a,kX]
 .have b:((Array.range (c.toNat*i.size)).map (λj=>v.cells[j%v.cells.size]!))=(dg c.toNat z).toArray:=by
   rw[<-n,RJ,g]
  have key:(newRow e ((Array.range (c.toNat*i.size)).map (λj=>v.cells[j%v.cells.size]!))).run P w=.ok (aH w.heap) (jh w (hnew w.heap (dg c.toNat z) e)):=by
   rw[b,kX]
  simp[Instr.makeSlice,aE (dy ht),asInt,asIntOf,cT hi,p,hc,c1,u,q,s,sizeOf,a,d8 hv];rw[key];rfl
theorem Agree.args{r:cN}{a:Act}(h:Agree N r a){os:Array Operand}(hv:oT r os.toList=some vs):os.map a.eval=vs.toArray:=by
 rw[<-nD h hv];apply cO;simp
theorem HC.out{f:FuncId}{args:c5}{ks:List Kind}(h:HC P f args ks (λx h'=>K (DY ks (nI ks x)) h') w.heap):O9 P (callFunc f args.toArray) K w:=by
 rcases h.run w rfl with⟨a,d⟩|⟨v,c,a,ht,x,rfl,b⟩
 .refine .inr (.inr (.inl ⟨f,args.toArray,a,d.mono ?_⟩))
  rintro e c ⟨ht,x,rfl,b⟩;exact⟨ht,_,rfl,b⟩
 .exact .inl ⟨_,c,a,ht,b⟩
theorem Us{a b:TypeId}{s:dO}(j:P.underlying a=some .string)(hd:P.underlying b=some (.slice e))(g:P.underlying e=some (.int .u8)):
  ∃c,s.size<=c/\(convert a b (.string s)).run P w=.ok (.slice (some (aH w.heap)) s.size c) (jh w.drew (w.heap.push (.cells (dz s++fW (c-s.size) (Value.int .u8 0)).toArray e (c,c+1)))):=by
 have d:s.size<=grownCap w s.size 0 e:=qG _ _;refine⟨_,d,?_⟩;rw[Go.Lib.run_convert_string_bytes w a b e s j hd g];have hc:(Go.Lib.bytesCells w e s).size=grownCap w s.size 0 e:=by
  unfold Go.Lib.bytesCells;rw[Array.size_append,Array.size_map,Array.size_replicate,show s.data.size=s.size from rfl]
  omega
 have f:(dz s++fW (grownCap w s.size 0 e-s.size) (Value.int .u8 0)).toArray=Go.Lib.bytesCells w e s:=by
  unfold Go.Lib.bytesCells dz;apply cO;simp
 rw[f];unfold Go.Lib.bytesWorld World.freeze;rw[if_neg a4,hc];unfold World.alloc World.drew jh;congr 1
 congr 1
 apply Array.ext a7;intro i m k;rw[Array.getElem_modify];simp only[Array.getElem_push];split
 .rename_i e
  subst e;simp
 .rename_i e
  have hi:i<w.heap.size:=by simp at k;omega
  rw[dif_pos hi,dif_pos hi]
theorem DI{o:Oper}{r:cN}{a:Act}(G:Agree N r a)(j:GL P o r K w.heap):O9 P (execOp a.eval o) K w:=by
 have A:∀{x:Operand} {v:Value},cU r x=some v->a.eval x=v:=λh=>kR G h
 obtain⟨S,Z,type,pos,H,F⟩:=o;cases Z with
 |alloc t=>
  simp only[GL]at j;split at j
  .rename_i z hz
   obtain⟨v,hv,T⟩:=kP hz;have D:(Instr.alloc t true (.tuple #[])).run P w=.ok (.pointer (some (aH w.heap))) (jh w (hnew w.heap z t)):=by
    simp[Instr.alloc,d8 hv,newVar,kX,T]
   exact Wv.out ⟨_,_,D,du _ _,j⟩
  .exact j.elim
 |box t x=>
  simp only[GL]at j;split at j
  .rename_i v hv
   have D:(Instr.box t v).run P w=.ok (.pointer (some (aH w.heap))) (jh w (hnew w.heap v.cells.toList t)):=by
    simp[Instr.box,newVar,kX]
   simp only[execOp,A hv];exact Wv.out ⟨_,_,D,du _ _,j⟩
  .exact j.elim
 |build t ps=>
  simp only[GL]at j;split at j
  .rename_i vs q
   split at j
   .rename_i cs hcs
    have V:(ps.map λx=>(x.1,a.eval x.2))=vs.toArray:=by
     rw[<-pH G q];apply cO;simp
    have D:=CH (ps:=vs.toArray) (by simpa using hcs) w;simp only[execOp];rw[show(ps.map λ(i,x)=>(i,a.eval x))=vs.toArray from V]
    exact Wv.out ⟨_,w,D,Tame.refl w,j⟩
   .exact j.elim
  .exact j.elim
 |buildSlice t n ps=>
  simp only[GL]at j;split at j
  .rename_i e vs ht q
   split at j
   .rename_i z hz
    cases hb:(ye (n*cz P e) 16777216&&aO z.length (cz P e))with
    |false=>rw[hb]at j;exact j.elim
    |true=>
     rw[hb]at j;simp only[bA]at hb;simp only[cond_true]at j;split at j
     .rename_i cs hcs
      have V:(ps.map λx=>(x.1,a.eval x.2))=vs.toArray:=by
       rw[<-pH G q];apply cO;simp
      have D:=Eg (ps:=vs.toArray) ht hz (gJ hb.1) (bD hb.2) (by simpa using hcs) w;simp only[execOp];rw[show(ps.map λ(i,x)=>(i,a.eval x))=vs.toArray from V]
      exact Wv.out ⟨_,_,D,du _ _,j⟩
     .exact j.elim
   .exact j.elim
  .exact j.elim
 |store t x y=>
  simp only[GL]at j;split at j
  .rename_i b v hb hv
   simp only[execOp,A hb,A hv];exact Wu.out (LR j)
  .exact j.elim
 |mapUpdate t m k x=>
  simp only[GL]at j;split at j
  .rename_i mv kv xv hm C hx
   simp only[execOp,A hm,A C,A hx];exact Wu.out (As j)
  .exact j.elim
 |mapEntry t m k=>
  simp only[GL]at j;split at j
  .rename_i mv kv hm C
   simp only[execOp,A hm,A C];exact Wv.out (FM j)
  .exact j.elim
 |entryStore t m s x=>
  simp only[GL]at j;split at j
  .rename_i mv sv xv hm O hx
   simp only[execOp,A hm,A O,A hx];exact Wu.out (GO j)
  .exact j.elim
 |insert t m k x=>
  simp only[GL]at j;split at j
  .rename_i mv kv xv hm C hx
   simp only[execOp,A hm,A C,A hx];exact Wu.out (As j)
  .exact j.elim
 |makeMap t n=>
  simp only[GL]at j;cases n with
  |none=>exact Wv.out ⟨_,jh w (w.heap.push (.map #[] 0)),by simp[Instr.makeMap];rfl,du _ _,j⟩
  |some n=>
   simp only at j;split at j
   .rename_i k i hn ht
    exact Wv.out ⟨_,jh w (w.heap.push (.map #[] 0)),by simp[Instr.makeMap,A hn,aE ht,asInt,asIntOf];rfl,du _ _,j⟩
   .exact j.elim
 |makeSlice t l c=>
  simp only[GL]at j;split at j
  .rename_i e k l' k' c' ht Q hc
   split at j
   .rename_i z hz
    cases hb:aO z.length (cz P e)with
    |false=>rw[hb]at j;exact j.elim
    |true=>
     rw[hb]at j;obtain⟨⟨h0,W,U,h3⟩,j⟩:=j;simp only[execOp,A Q,A hc];exact Wv.out ⟨_,_,Jx ht hz (bD hb) h0 W U h3,du _ _,j⟩
   .exact j.elim
  .exact j.elim
 |convert s d x=>
  simp only[GL]at j;split at j
  .rename_i e v O hd hx
   cases hu:QI P e with
   |false=>rw[hu]at j;exact j.elim
   |true=>
    rw[hu]at j;obtain⟨c,hc,L⟩:=Us (w:=w) (s:=v) O hd (HM hu);simp only[execOp,A hx];exact Wv.out ⟨_,_,L,⟨rfl,rfl,rfl⟩,j c hc⟩
  .exact j.elim
 |range t x=>
  simp only[GL]at j;split at j
  .rename_i k e m hu hx
   obtain⟨R,hm,j⟩:=j;simp only[execOp,A hx];exact Wv.out ⟨_,_,TC hu hm,du _ _,j⟩
  .rename_i s hu hx
   simp only[execOp,A hx];exact Wv.out ⟨_,_,Qd hu,du _ _,j⟩
  .exact j.elim
 |next it isS=>
  cases isS with
  |true=>
   simp only[GL]at j;split at j
   .rename_i v hv
    simp only[execOp,A hv];exact Wv.out (LS j)
   .exact j.elim
  |false=>
   simp only[GL]at j;split at j
   .rename_i v hv
    simp only[execOp,A hv];exact Wv.out (Nt j)
   .exact j.elim
 |call c=>
  simp only[GL]at j;have J:∀{b:Builtin} {vs:c5},c.callee=.builtin b->oT r c.args.toList=some vs->∃cs:Array Bool,∀w,(execOp a.eval ⟨S,.call c,type,pos,H,F⟩).run P w=
    (builtin b c.argTypes type cs vs.toArray).run P w:=by
   intro b vs hc q;refine⟨c.args.map fun| .const _=>true|_=>false,λw=>?_⟩
   simp[execOp,resolve,hc,G.args q,invoke];rfl
  have I:∀{s s':Sem Next},(∀w,s.run P w=s'.run P w)->O9 P s' K w->O9 P s K w:=by
   intro s s' D h;unfold O9 at h⊢;simp only[D];exact h
  split at j
  .rename_i s x hc q
   split at j
   .rename_i t u hat
    obtain⟨cs,E⟩:=J hc q;refine I E ?_;have B:c.argTypes= #[t,u]:=by apply cO;rw[hat]
    simp only[builtin,B];split at j
    .rename_i e' hu;exact Wv.out (Au (.inl ⟨e',hu⟩) j)
    .rename_i hu;exact Wv.out (Au (.inr hu) j)
    .rename_i k0 hu;exact Wv.out (GQ hu j)
    .exact j.elim
   .exact j.elim
  .rename_i x hc q
   split at j
   .rename_i t hat
    obtain⟨cs,E⟩:=J hc q;refine I E ?_;have B:c.argTypes= #[t]:=by apply cO;rw[hat]
    simp only[builtin,B];exact Wv.out (LU j)
   .exact j.elim
  .rename_i s x hc q
   split at j
   .rename_i t u hat
    obtain⟨cs,E⟩:=J hc q;refine I E ?_;have B:c.argTypes= #[t,u]:=by apply cO;rw[hat]
    simp only[builtin,B];exact Wv.out (Nu j)
   .exact j.elim
  .rename_i p n hc q
   split at j
   .rename_i t u hat
    obtain⟨cs,E⟩:=J hc q;refine I E ?_;have B:c.argTypes= #[t,u]:=by apply cO;rw[hat]
    simp only[builtin,B];exact Wv.out (Ns j)
   .exact j.elim
  .rename_i m k hc q
   split at j
   .rename_i t u hat
    obtain⟨cs,E⟩:=J hc q;refine I E ?_;simp only[builtin];exact Wv.out (GM (by rw[<-bG,hat];rfl) j)
   .exact j.elim
  .rename_i f args hc q
   unfold Y1 at j;split at j
   .exact j.elim
   .rename_i ks hks
    split at j
    .rename_i f
     refine I (s':=callFunc f args.toArray) (λw=>?_) j.out
     simp[execOp,resolve,hc,G.args q,Act.eval,Deferred.ofValue,invoke]
    .rename_i f hf
     split at j
     .rename_i fv hfv
      rcases j.run with⟨g,first,cap,rfl,X⟩|⟨l,rfl,X⟩
      rotate_left
      .obtain⟨fn,tmps,assign,body,W,U⟩:=X.run w rfl
       refine .inr (.inr (.inr ⟨l,fn,tmps,assign,body,?_,λc cs=>?_⟩))
       .rw[<-W]
        simp[execOp,resolve,hc,G.args q,A hfv,Deferred.ofValue,invoke]
       .obtain⟨b,Y,ht,C,O⟩:=U c cs
        refine⟨b,Y,ht,?_,O⟩;obtain⟨t,e,C⟩:=tU C;have Q:ks.length=1:=by rw[<-vl ks t,<-e];rfl
        match ks,Q,t,e,C with
        | [k],_,t,e,C=>rw[<-e]at C;exact C
      refine I (s':=callFunc g (first.toList++args++cap.toList).toArray) (λw=>?_) X.out
      have e:first++args.toArray++cap=(first.toList++args++cap.toList).toArray:=by apply cO;simp
      rw[<-e];simp[execOp,resolve,hc,G.args q,A hfv,Deferred.ofValue,invoke]
     .exact j.elim
  .exact j.elim
 |_=>simp only[GL]at j
end
end Go.Lift
