/- A part of the proof that the named laws of this program answer true, whatever the input. -/
import Derived.Test.YtopdngagmfanlaaGreatDoorLift0
import Derived.Laws.Append
import Derived.Laws.Cover3
import Derived.Laws.StructEq
import Derived.Laws.BytesString
import Derived.Lib.UnsafeStr
import Derived.Laws.RangeString
import Derived.Lib.ConvBytes
open Array renaming ext'→cQ,getElem?_toList→bv,mem_of_getElem?→qn,mem_filter→qN
open Bool renaming and_eq_true→aJ,false_eq_true→dy
open ByteArray renaming data_extract→gB
open Go.Builtin renaming firstCells→fl,len_→lA,cap_→xZ,zeroCells→iL,lenOf→qX,append_→dS,nextslicecap→mS,clear_→uv,copy_→qY,delete_→sq
open Go.Instr renaming sureAddr→mR,sliceBounds→gA,sliceAt→qW,sameNow→wc,findNow→oC,lookup→xX,range→vD,next→qM
open Go.Op renaming equalIn→gu
open Go.Result renaming andThen_ok→aC
open Go.Sem renaming run_bind→aW,run_pure→bQ,run→oK
open List renaming extract_eq_take_drop→gN,map_cons→cN,map_map→ly,take_of_length_le→bG,length_cons→ay,cons_append→fA,replicate→bF,length_eq_zero_iff→bp,getElem?_eq_getElem→ah
open Nat renaming beq→az,ble→AD,eq_of_beq_eq_true→bd,le_of_ble_eq_true→jA,add_zero→j7,zero_add→aR,min→dQ,not_lt→jr
open Option renaming some→bq,isSome_iff_exists→fO,map_some→lL
open Prod renaming mk→pW
open UInt8 renaming ofNat→cq
namespace Go.Lift
open Go
def W3(S:Option (ad→Prop))(h:ad):Prop:=match S with|none=>True|some f=>f h
def Yv(P:Program)(s:Sem Value)(K:RK)(h:ad):Prop:=∃v S,K v S∧W3 S h∧∀w:World,W3 S w.heap→s.run P w=.ok v w
theorem Yv.of_pure{P:Program}{s:Sem Value}{K:RK}{h:ad}{v:Value}(a:K v none)(b:∀w:World,s.run P w=.ok v w):Yv P s K h:=
 ⟨v,none,a,trivial,fun w _=>b w⟩
variable {P:Program}
theorem zl{t:TypeId}{f:Nat}{u:TypeId}{off:Nat}(h:zm P t f=some (u,off)):
  ∃fs g,P.underlying t=some (.struct fs)∧fs[f]? =some g∧g.type=u∧g.offset=off:=by
 unfold zm at h;split at h
 ·rename_i fs hu
  split at h
  ·rename_i g hg
   simp only[bq.injEq,pW.injEq]at h;exact⟨fs,g,hu,by simpa using hg,h.1,h.2⟩
  ·cases h
 ·cases h
theorem BA{t:TypeId}(h:az (cg P t) 0=false)(w:World):(sizeOf t).run P w=.ok (cg P t) w:=by
 unfold cg at h⊢;cases hi:P.info? t with
 |none=>rw[hi]at h;cases h
 |some i=>simp[sizeOf,cV hi]
theorem F4{t:TypeId}{f:Nat}{u:TypeId}{off:Nat}{a:Addr}{K:RK}{h:ad}(i:zm P t f=some (u,off))
  (b:bif az (cg P u) 0 then False else K (.pointer (some (adr a off))) none):Yv P (Instr.fieldAt t (.pointer (some a)) f) K h:=by
 obtain⟨k,g,j,d,rfl,rfl⟩:=zl i;cases hz:az (cg P g.type) 0 with
 |true=>rw[hz]at b;exact b.elim
 |false=>
  rw[hz]at b;refine .of_pure b fun w=>?_
  have c:cg P g.type≠0:=fun e=>by rw[e]at hz;cases hz
  simp only[Instr.fieldAt,aW,aB j,aC,d,mR,bQ,fieldPlace,BA hz];simp[c,vT]
theorem xR{t:TypeId}{i:TypeInfo}(_:P.info? t=some i)(a:∃d,P.underlying t=some d)(w:World):(isAgg t).run P w=.ok (xS P t) w:=by
 obtain⟨d,hd⟩:=a;simp only[isAgg,aW,aB hd,aC];unfold xS;rw[hd];cases d<;>rfl
theorem Cz{op:BinOp}{k k':IntKind}{a b:Int}{K:RK}{h:ad}(f:op=.shl∨op=.shr)(e:PP op k a b K):Yv P (Op.shift op k a k' b) K h:=by
 rcases f with rfl|rfl
 ·obtain⟨d,c⟩:=e
  refine .of_pure c fun w=>?_
  simp[Op.shift,Int.not_lt.2 d]
 ·obtain⟨d,c⟩:=e
  refine .of_pure c fun w=>?_
  simp[Op.shift,Int.not_lt.2 d]
theorem Qy{op:BinOp}{k:IntKind}{a b:Int}{K:RK}{h:ad}(c:Y4 op k a b K)(f:op≠ .shl∧op≠ .shr):Yv P (binOp op 0 (.int k a) (.int k b)) K h:=by
 cases op<;>simp only[Y4]at c
 case quo=>obtain⟨e,d⟩:=c;exact .of_pure d fun w=>by simp[binOp,Op.intDiv,e]
 case rem=>obtain⟨e,d⟩:=c;exact .of_pure d fun w=>by simp[binOp,Op.intDiv,e]
 all_goals exact .of_pure c fun w=>by simp[binOp,Op.intArith,Op.intBits,Op.intCmp]
theorem Ie(op:BinOp)(t:TypeId)(k k':IntKind)(a b:Int):binOp op t (.int k a) (.int k' b)=binOp op 0 (.int k a) (.int k' b):=by
 cases op<;>rfl
theorem PM{op:BinOp}{t:TypeId}{a b:ByteArray}{K:RK}{h:ad}(c:YO op a b K):Yv P (binOp op t (.string a) (.string b)) K h:=by
 cases op<;>simp only[YO]at c
 case add=>
  obtain⟨e,d⟩:=c;refine .of_pure d fun w=>?_
  have:¬(((a.size+b.size:Nat):Int)>IntKind.i64.max):=by
   have:IntKind.i64.max=9223372036854775807:=by decide
   omega
  simp only[binOp,Op.stringOp,if_neg this,bQ]
 all_goals exact .of_pure c fun w=>by simp[binOp,Op.stringOp]
theorem j2{t:TypeId}{x y:Value}{b:Bool}{w:World}(h:∀d,(gu (d+1) t x y).run P w=.ok b w):(Op.equal t x y).run P w=.ok b w:=h 9999
theorem HW{t:TypeId}{e:TypeId}(b:P.underlying t=some (.pointer e))(a:Option Addr)(w:World):(Op.equal t (.pointer a) (.pointer none)).run P w=.ok a.isNone w:=by
 refine j2 fun d=>?_
 simp only[gu,aW,aB b,aC];cases a<;>rfl
theorem QM(op:BinOp)(t:TypeId)(x y:Operand)(a b:Value)(h:∀c d,a=.agg c→b=.agg d→False)(hi:a=.nilIface→b=.nilIface→False)(w:World):
  (eqGuard op t x y a b).run P w=.ok () w:=by
 cases op;case eql=>cases a<;>cases b<;>first|rfl|exact(hi rfl rfl).elim|exact(h _ _ rfl rfl).elim
 case neq=>cases a<;>cases b<;>first|rfl|exact(hi rfl rfl).elim|exact(h _ _ rfl rfl).elim
 all_goals rfl
theorem T3(t:TypeId)(x y:Value)(hx:∀k a,x≠ .int k a)(d:∀s,x≠ .string s)(c:∀k a,x≠ .float k a)(hc:∀k a b,x≠ .complex k a b):binOp .eql t x y=(do pure (.bool (←Op.equal t x y))):=by
 cases x<;>first|rfl|exact absurd rfl (hx _ _)|exact absurd rfl (d _)|exact absurd rfl (c _ _)|exact absurd rfl (hc _ _ _)
theorem T2(t:TypeId)(x y:Value)(hx:∀k a,x≠ .int k a)(d:∀s,x≠ .string s)(c:∀k a,x≠ .float k a)(hc:∀k a b,x≠ .complex k a b):binOp .neq t x y=(do pure (.bool (!(←Op.equal t x y)))):=by
 cases x<;>first|rfl|exact absurd rfl (hx _ _)|exact absurd rfl (d _)|exact absurd rfl (c _ _)|exact absurd rfl (hc _ _ _)
theorem j3{t:TypeId}{neg:Bool}{x y:Value}{b:Bool}{w:World}(e:(Op.equal t x y).run P w=.ok b w)
  (hx:∀k a,x≠ .int k a)(d:∀s,x≠ .string s)(c:∀k a,x≠ .float k a)(hc:∀k a b,x≠ .complex k a b):
  (binOp (bif neg then .neq else .eql) t x y).run P w=.ok (.bool (bif neg then !b else b)) w:=by
 cases neg
 ·simp only[cond_false,T3 t x y hx d c hc,aW,e,aC,bQ]
 ·simp only[cond_true,T2 t x y hx d c hc,aW,e,aC,bQ]
theorem Qw{x:Value}(h:Y3 x=true):(∃f a b,x=.func f a b)∨x=.nilFunc:=by
 cases x<;>first|exact .inr rfl|exact .inl ⟨_,_,_,rfl⟩|cases h
theorem Qv{x:Value}(h:XP x=true):(∃t v,x=.iface t v)∨x=.nilIface:=by
 cases x<;>first|exact .inr rfl|exact .inl ⟨_,_,rfl⟩|cases h
theorem LN{y:Operand}(h:VJ y=true):∃c,y=.const c:=by
 cases y<;>first|exact⟨_,rfl⟩|cases h
theorem Oq(op:BinOp)(t:TypeId)(x:Operand)(c a b:Value)(h:∀c d,a=.agg c→b=.agg d→False)(w:World):
  (eqGuard op t x (.const c) a b).run P w=.ok () w:=by
 cases op;case eql=>cases a<;>cases b<;>first|rfl|exact(h _ _ rfl rfl).elim|(cases x<;>rfl)
 case neq=>cases a<;>cases b<;>first|rfl|exact(h _ _ rfl rfl).elim|(cases x<;>rfl)
 all_goals rfl
theorem Hk{t:TypeId}{neg:Bool}{x y:Value}{K:RK}{h:ad}(g:XE P t neg x y K):
  (∀c d,x=.agg c→y=.agg d→False)∧Yv P (binOp (bif neg then .neq else .eql) t x y) K h:=by
 unfold XE at g;split at g
 ·rename_i e a hu
  refine⟨nofun,.of_pure g fun w=>?_⟩
  exact j3 (HW hu a w) nofun nofun nofun nofun
 ·rename_i k e a hu
  refine⟨nofun,.of_pure g fun w=>?_⟩
  refine j3 ?_ nofun nofun nofun nofun;refine j2 fun d=>?_
  simp only[gu,aW,aB hu,aC];cases a<;>rfl
 ·rename_i e a _ _ _ _ hu
  refine⟨nofun,.of_pure g fun w=>?_⟩
  refine j3 ?_ nofun nofun nofun nofun;refine j2 fun d=>?_
  simp only[gu,aW,aB hu,aC];cases a<;>rfl
 ·rename_i hu
  obtain⟨hx,i⟩:=g;rcases Qw hx with⟨f,a,b,e⟩|e<;>subst e
  ·refine⟨nofun,.of_pure i fun w=>j3 (j2 fun d=>?_) nofun nofun nofun nofun⟩
   simp only[gu,aW,aB hu,aC];rfl
  ·refine⟨nofun,.of_pure i fun w=>j3 (j2 fun d=>?_) nofun nofun nofun nofun⟩
   simp only[gu,aW,aB hu,aC];rfl
 ·rename_i hu
  obtain⟨hx,i⟩:=g;rcases Qv hx with⟨f,a,e⟩|e<;>subst e
  ·refine⟨nofun,.of_pure i fun w=>j3 (j2 fun d=>?_) nofun nofun nofun nofun⟩
   simp only[gu,aW,aB hu,aC];rfl
  ·refine⟨nofun,.of_pure i fun w=>j3 (j2 fun d=>?_) nofun nofun nofun nofun⟩
   simp only[gu,aW,aB hu,aC];rfl
 ·exact g.elim
theorem yT{w:World}{a b:Addr}(d:ip w.heap a)(f:ip w.heap b):(sameAddr a b).run P w=.ok (a==b) w:=by
 obtain⟨g,v,d,y⟩:=d;obtain⟨i,t,f,sb⟩:=f;by_cases c:a.block=b.block
 ·simp[sameAddr,c]
 ·have j:(a==b)=false:=by
   rw[beq_eq_false_iff_ne];intro e;exact c (by rw[e])
  have p:w.shape? a.block=some (v,g.size):=by simp[World.shape?,d]
  have u:w.shape? b.block=some (t,i.size):=by simp[World.shape?,f]
  have x:∀n,w.frozen? ({block:=a.block,off:=n}:Addr)=false:=fun n=>by simp[World.frozen?,d]
  have o:∀n,w.frozen? ({block:=b.block,off:=n}:Addr)=false:=fun n=>by simp[World.frozen?,f]
  have k:w.frozen? a=false:=by simp[World.frozen?,d]
  have q:w.frozen? b=false:=by simp[World.frozen?,f]
  obtain⟨m,hm⟩:∃m,g.size=m+1:=⟨g.size-1,by omega⟩
  obtain⟨n,s⟩:∃n,i.size=n+1:=⟨i.size-1,by omega⟩
  simp[sameAddr,c,noView,viewAt,mayBeOne,stringish,p,u,x,o,k,q,hm,s,j]
theorem KM{t:TypeId}{neg:Bool}{x y:Value}{K:RK}{h:ad}(g:aaA P t neg x y K h):
  (∀c d,x=.agg c→y=.agg d→False)∧(x=.nilIface→y=.nilIface→False)∧Yv P (binOp (bif neg then .neq else .eql) t x y) K h:=by
 unfold aaA at g;split at g
 ·rename_i a b hu
  refine⟨nofun,nofun,.of_pure g fun w=>?_⟩
  refine j3 ?_ nofun nofun nofun nofun;refine j2 fun d=>?_
  simp only[gu,aW,aB hu,aC,bQ]
 ·rename_i e a b hu
  obtain⟨j,o,k⟩:=g;refine⟨nofun,nofun,_,_,k,o,fun w p=>?_⟩
  refine j3 ?_ nofun nofun nofun nofun;have f:az (cg P e) 0=false:=by
   cases hb:az (cg P e) 0 with
   |false=>rfl
   |true=>rw[hb]at j;exact j.elim
  have i:cg P e≠0:=fun e=>by rw[e]at f;cases f
  refine j2 fun d=>?_
  simp only[gu,aW,aB hu,aC];cases a with
  |none=>cases b<;>rfl
  |some a=>cases b with
   |none=>rfl
   |some b=>
    obtain⟨n,m⟩:=p a b rfl rfl;simp only[aW,BA f,aC,ne_eq,i,not_false_eq_true,if_true,yT n m];rfl
 ·exact g.elim
theorem BG{op:BinOp}{t:TypeId}{x y:Value}{K:RK}{h:ad}(e:Xu P op t x y K h):
  (∀c d,x=.agg c→y=.agg d→False)∧(x=.nilIface→y=.nilIface→False)∧Yv P (binOp op t x y) K h:=by
 unfold Xu at e;split at e
 ·rename_i k a k' b
  refine⟨nofun,nofun,?_⟩;rw[Ie];split at e
  ·exact Cz (k':=k') (.inl rfl) e
  ·exact Cz (k':=k') (.inr rfl) e
  ·rename_i h1 h2
   cases hk:LS k' k with
   |false=>rw[hk]at e;exact e.elim
   |true=>rw[hk]at e;have:=CT hk;subst this;exact Qy e ⟨h1,h2⟩
 ·exact⟨nofun,nofun,PM e⟩
 ·split at e
  ·exact KM (neg:=false) e
  ·exact KM (neg:=true) e
  ·exact e.elim
theorem NL{u:TypeId}{cs:List Value}{off:Nat}(a:((P.underlying u).isSome&&(P.info? u).isSome)=true){w:World}(b:xS P u=true):
  (part u cs.toArray off).run P w=.ok (.agg ((cs.drop off).take (cg P u)).toArray) w:=by
 simp only[aJ,fO]at a;obtain⟨a,i,hi⟩:=a;have c:(sizeOf u).run P w=.ok (cg P u) w:=by simp[sizeOf,cV hi,cg,hi]
 simp only[part,aW,xR hi a,aC,b,if_true,c,bQ];congr 2
 apply cQ;simp[gN]
theorem Kd{u:TypeId}{cs:List Value}{off:Nat}(a:((P.underlying u).isSome&&(P.info? u).isSome)=true){w:World}(c:xS P u=false){v:Value}(hc:cs[off]? =some v):
  (part u cs.toArray off).run P w=.ok v w:=by
 simp only[aJ,fO]at a;obtain⟨a,i,hi⟩:=a;have b:cs.toArray[off]? =some v:=by simpa using hc
 simp only[part,aW,xR hi a,aC,c,dy,if_false,b,bQ]
theorem BH{h:ad}:∀{l m:List (Option Addr×Option Addr)},tB h (l++m)→tB h l∧tB h m
 | [],_,h=>⟨trivial,h⟩
 |(_,_)::_,_,h=>⟨⟨h.1,(BH h.2).1⟩,(BH h.2).2⟩
theorem Oo{t:TypeId}{x y:Value}{b:Bool}{l:List (Option Addr×Option Addr)}(f:V2 P t x y=some (b,l)){w:World}(m:tB w.heap l)(d:Nat):
  (gu (d+1) t x y).run P w=.ok b w:=by
 unfold V2 at f;split at f
 ·rename_i k0 k a k' c hu
  cases hk:LS k' k with
  |false=>rw[hk]at f;cases f
  |true=>
   rw[hk]at f;have:=CT hk;subst this;cases f;exact run_equalIn_int w d t _ _ _ _ hu
 ·rename_i a c hu
  cases f;exact run_equalIn_bool w d t _ _ hu
 ·rename_i a c hu
  cases f;exact run_equalIn_string w d t _ _ hu
 ·rename_i e a c hu
  cases hz:az (cg P e) 0 with
  |true=>rw[hz]at f;cases f
  |false=>
   rw[hz]at f;cases f;have g:cg P e≠0:=fun e=>by rw[e]at hz;cases hz
   simp only[gu,aW,aB hu,aC];cases a with
   |none=>cases c<;>rfl
   |some a=>cases c with
    |none=>rfl
    |some c=>
     obtain⟨j,i⟩:=m.1 a c rfl rfl;simp only[aW,BA hz,aC,ne_eq,g,not_false_eq_true,if_true,yT j i];rfl
 ·cases f
theorem HX{rec:TypeId→List Value→List Value→Option (Bool×List (Option Addr×Option Addr))}{d:Nat}{xs ys:List Value}{w:World}
  (g:∀t us vs b l,rec t us vs=some (b,l)→tB w.heap l→(gu (d+1) t (.agg us.toArray) (.agg vs.toArray)).run P w=.ok b w):
  ∀(fs:List Field) (b:Bool) (l:List (Option Addr×Option Addr)),X1 P rec xs ys fs=some (b,l)→tB w.heap l→(Op.eqFields (d+1) xs.toArray ys.toArray fs).run P w=.ok b w
 | [],b,l,he,_=>by cases he;rfl
 |f::fs,b,l,he,hp=>by
  unfold X1 at he;split at he
  ·cases he
  ·rename_i hn
   cases hi:((P.underlying f.type).isSome&&(P.info? f.type).isSome)with
   |false=>rw[hi]at he;cases he
   |true=>
    rw[hi]at he;simp only[cond_true]at he;split at he
    ·rename_i b1 l1 c m e1 e2
     cases he;obtain⟨e,k⟩:=BH hp;have a:=HX g fs c m e2 k;have j:∃u v,(part f.type xs.toArray f.offset).run P w=.ok u w∧(part f.type ys.toArray f.offset).run P w=.ok v w∧(gu (d+1) f.type u v).run P w=.ok b1 w:=by
      cases ha:xS P f.type with
      |true=>
       rw[ha]at e1;exact⟨_,_,NL hi ha,NL hi ha,g _ _ _ _ _ e1 e⟩
      |false=>
       rw[ha]at e1;simp only[cond_false]at e1;split at e1
       ·rename_i x y hx hy
        exact⟨x,y,Kd hi ha hx,Kd hi ha hy,Oo e1 e d⟩
       ·cases e1
     obtain⟨u,v,n,o,i⟩:=j;simp only[Op.eqFields,ne_eq,hn,not_false_eq_true,if_true,aW,n,o,i,aC];cases b1
     ·rfl
     ·exact a
    ·cases he
theorem BR{w:World}:∀(m:Nat) (t:TypeId) (xs ys:List Value) (b:Bool) (l:List (Option Addr×Option Addr)),V3 P m t xs ys=some (b,l)→tB w.heap l→
  ∀d,(gu (d+m+1) t (.agg xs.toArray) (.agg ys.toArray)).run P w=.ok b w
 |0,_,_,_,_,_,he,_,_=>by cases he
 |m+1,t,xs,ys,b,l,he,hp,d=>by
  unfold V3 at he;split at he
  ·rename_i fs hu
   cases hs:P.stoodInHeld t with
   |true=>rw[hs]at he;cases he
   |false=>
    rw[hs]at he;have a:P.fieldsOf t=fs:=by simp[Program.fieldsOf,hu]
    rw[run_equalIn_struct w _ t _ _ (by rw[a];exact hu) hs,a];exact HX (d:=d+m) (fun t e vs b l c f=>BR m t e vs b l c f d) fs.toList b l he hp
  ·cases he
theorem KO{neg b:Bool}{K:RK}{h:ad}{l:List (Option Addr×Option Addr)}(a:abB neg b K h l):∃S,K (.bool (bif neg then !b else b)) S∧W3 S h∧∀h',W3 S h'→tB h' l:=by
 cases l with
 |nil=>exact⟨none,a,trivial,fun _ _=>trivial⟩
 |cons p l=>exact⟨_,a.2,a.1,fun _ h=>h⟩
theorem Qb{op:BinOp}{t:TypeId}{xs ys:Array Value}{x y:Operand}{K:RK}{h:ad}(a:YV P op t xs.toList ys.toList K h):
  ∃v S,K v S∧W3 S h∧∀w:World,W3 S w.heap→(do eqGuard op t x y (.agg xs) (.agg ys);binOp op t (.agg xs) (.agg ys):Sem Value).run P w=.ok v w:=by
 unfold YV at a;cases hg:P.eqGuardType P.depth t with
 |true=>rw[hg]at a;exact a.elim
 |false=>
  rw[hg]at a;simp only[cond_false]at a;split at a
  ·split at a
   ·rename_i b l he
    obtain⟨S,d,c,f⟩:=KO a;refine⟨_,S,d,c,fun w e=>?_⟩
    have:=BR 10 t _ _ b l he (f _ e) 9989;simp only[Array.toArray_toList]at this;simp only[aW,run_eqGuard_agg w _ t x y _ _ hg,aC,run_eql_struct,this];rfl
   ·exact a.elim
  ·split at a
   ·rename_i b l he
    obtain⟨S,d,c,f⟩:=KO a;refine⟨_,S,d,c,fun w e=>?_⟩
    have:=BR 10 t _ _ b l he (f _ e) 9989;simp only[Array.toArray_toList]at this;simp only[aW,run_eqGuard_agg w _ t x y _ _ hg,aC,run_neq_struct,this];rfl
   ·exact a.elim
  ·exact a.elim
theorem S8{op:UnOp}{x:Value}{K:RK}{h:ad}(a:aaW op x K):Yv P (Op.unary op x) K h:=by
 unfold aaW at a;split at a
 ·exact .of_pure a fun w=>rfl
 ·exact .of_pure a fun w=>rfl
 ·exact .of_pure a fun w=>rfl
 ·exact a.elim
theorem Ic:∀(l:List UInt8) (s:ByteArray),(l.map fun b=>((b.toNat:Nat):Int)).foldl (fun r n=>r.push (cq n.toNat)) s=⟨s.data++l.toArray⟩
 | [],s=>by simp
 |b::l,s=>by
  simp only[cN,List.foldl_cons];rw[Ic l];congr 1
  have:cq ((b.toNat:Nat):Int).toNat=b:=by simp
  rw[this];apply cQ;simp[ByteArray.push]
theorem Hy{e:TypeId}(h:Qu P e=true):P.underlying e=some (.int .u8):=by
 unfold Qu at h;split at h
 ·assumption
 ·cases h
theorem Np{w:World}{a:Addr}{vs:List Value}(c:Row w.heap a vs):(loadCells a vs.length).run P w=.ok vs.toArray w:=by
 have:=run_firstCells_some (P:=P) w 1 vs.length a 0 0 vs (by simp) fun j v b=>by rw[←vT];exact c j v b
 simpa[fl]using this
theorem Ny{g j:TypeId}{x:Value}{K:RK}{h:ad}(f:Vl P g j x K h):Yv P (convert g j x) K h:=by
 unfold Vl at f;split at f
 ·rename_i k k' k'' n h1 h2
  exact .of_pure f fun w=>by simp only[convert,aW,aB h1,aB h2,aC];rfl
 ·rename_i s h1 h2
  exact .of_pure f fun w=>by simp only[convert,aW,aB h1,aB h2,aC];rfl
 ·rename_i e a n c h1 h2
  cases hu:Qu P e with
  |false=>rw[hu]at f;exact f.elim
  |true=>
   rw[hu]at f;obtain⟨s,u,t⟩:=f;refine⟨_,_,t,u,fun w o=>?_⟩
   rw[run_convert_bytes_string w g j e a n c h1 (Hy hu) h2];obtain⟨p,o⟩:=o;rcases o with q|⟨b,rfl,z⟩
   ·have m:s=ByteArray.empty:=by
     have:s.data.toList= []:=by simpa[cL]using q
     cases s with
     |mk d=>simp at this;subst this;rfl
    cases a with
    |none=>rw[m];rfl
    |some b=>
     have y:n=0:=by rw[←p,q];rfl
     subst y;have:=Np (P:=P) (w:=w) (a:=b) (vs:= []) fun i v f=>by simp at f
     rw[run_bytesToString w b 0 c [] (by simpa using this),m];rfl
   ·have:=Np (P:=P) z
    rw[p]at this;rw[run_bytesToString w b n c (s.data.toList.map fun b=>((b.toNat:Nat):Int)) (by rw[this,ly];rfl),Ic]
    cases s;simp[ByteArray.empty,ByteArray.emptyWithCapacity];try rfl
 ·exact f.elim
theorem Qi{u:TypeId}{cs:Array Value}{off:Nat}{K:RK}{h:ad}(c:∃d,P.underlying u=some d)(hi:∃i,P.info? u=some i)
  (a:bif xS P u then K (.agg ((cs.toList.drop off).take (cg P u)).toArray) none else(match cs.toList[off]? with|some v=>K v none|none=>False)):Yv P (part u cs off) K h:=by
 obtain⟨i,hi⟩:=hi;cases ha:xS P u with
 |true=>
  rw[ha]at a;refine .of_pure a fun w=>?_
  have e:(sizeOf u).run P w=.ok (cg P u) w:=by simp[sizeOf,cV hi,cg,hi]
  simp only[part,aW,xR hi c,aC,ha,if_true,e,bQ];congr 2
  apply cQ;simp[gN]
 |false=>
  rw[ha]at a;simp only[cond_false]at a;cases hc:cs.toList[off]? with
  |none=>rw[hc]at a;exact a.elim
  |some v=>
   rw[hc]at a;refine .of_pure a fun w=>?_
   have b:cs[off]? =some v:=by simpa using hc
   simp only[part,aW,xR hi c,aC,ha,dy,if_false,b,bQ]
def yD(P:Program)(v:Option Value)(d y n:Nat):Prop:=
 match v with
 |some x=>∀c w,(Instr.sliceBound x y c).run P w=.ok n w
 |none=>n=d
theorem nq{v:Option Value}{d y:Nat}{K:Nat→Prop}(a:bnd v d y K):∃n,K n∧yD P v d y n:=by
 unfold bnd at a;split at a
 ·exact⟨d,a,rfl⟩
 ·rename_i k i
  obtain⟨⟨e,f⟩,b⟩:=a;refine⟨i.toNat,b,fun c w=>?_⟩
  simp[Instr.sliceBound,asIntOf,e,f]
 ·exact a.elim
theorem qq{c:Bool}{len cap n l:Nat}{lo hi:Option Value}(a:yD P hi len cap n)(b:yD P lo 0 n l)(w:World):
  (gA c len cap lo hi none).run P w=.ok (l,n,cap) w:=by
 cases hi with
 |none=>
  cases lo with
  |none=>simp only[yD]at a b;subst a;subst b;simp[gA]
  |some lo=>simp only[yD]at a b;subst a;simp[gA,b]
 |some hi=>
  cases lo with
  |none=>simp only[yD]at a b;subst b;simp[gA,a]
  |some lo=>simp only[yD]at a b;simp[gA,a,b]
theorem Ec{c:Bool}{len cap n l m:Nat}{lo:Option Value}{hi d:Value}(hm:yD P (some d) 0 cap m)(a:yD P (some hi) 0 m n)(b:yD P lo 0 n l)(w:World):
  (gA c len cap lo (some hi) (some d)).run P w=.ok (l,n,m) w:=by
 cases lo with
 |none=>simp only[yD]at hm a b;subst b;simp[gA,hm,a]
 |some lo=>simp only[yD]at hm a b;simp[gA,hm,a,b]
theorem Bv(a:Option Addr)(l m size:Nat):(if m=l then a else a.map (·.add (l*size)))=aY a l m size:=by
 unfold aY;split
 ·rfl
 ·congr 1;funext x;rw[vT]
theorem qt{t:TypeId}{K:Prop}(h:Vy P t K):K∧∀w,(sizeOf t).run P w=.ok (cg P t) w:=by
 unfold Vy at h;cases hi:P.info? t with
 |none=>rw[hi]at h;exact h.elim
 |some i=>rw[hi]at h;exact⟨h,fun w=>by simp[sizeOf,cV hi,cg,hi]⟩
theorem Lv{t:TypeId}{x:Value}{f:Nat}{K:RK}{h:ad}(a:P9 P t x f K):Yv P (Instr.field t x f) K h:=by
 unfold P9 at a;split at a
 ·rename_i u off cs hf
  obtain⟨k,g,j,e,rfl,rfl⟩:=zl hf;cases hb:((P.underlying g.type).isSome&&(P.info? g.type).isSome)with
  |false=>rw[hb]at a;exact a.elim
  |true=>
   rw[hb]at a;simp only[aJ,fO]at hb;obtain⟨v,S,c,b,d⟩:=Qi (cs:=cs) (off:=g.offset) (h:=h) hb.1 hb.2 a;refine⟨v,S,c,b,fun w i=>?_⟩
   have:=d w i;simp only[Instr.field,aW,aB j,aC,e,asAgg,bQ,this]
 ·exact a.elim
theorem Ei{t:TypeId}{x i:Value}{K:RK}{h:ad}(c:BF P t x i K):Yv P (Instr.indexAt t x i) K h:=by
 unfold BF at c;split at c
 ·rename_i n e a k i hu
  obtain⟨⟨⟨j,g⟩,d⟩,f⟩:=qt c;refine .of_pure d fun w=>?_
  simp[Instr.indexAt,asIntOf,aB hu,mR,j,g,f,vT]
 ·rename_i e b len cap k i hu
  obtain⟨⟨⟨j,g⟩,a,rfl,d⟩,f⟩:=qt c;refine .of_pure d fun w=>?_
  simp[Instr.indexAt,asIntOf,aB hu,j,g,f,vT]
 ·exact c.elim
theorem Lr{ats:Array TypeId}{ty:TypeId}{v:Value}{K:RK}(h:P6 v K):∃u,K u none∧∀w,(Builtin.unsafeSliceData_ ats ty #[v]).run P w=.ok u w:=by
 unfold P6 at h;split at h
 ·rename_i a n c
  obtain⟨d,b⟩:=h;cases a with
  |none=>exact⟨_,b,fun w=>Lib.run_unsafeSliceData_nil ..⟩
  |some a=>exact⟨_,b,fun w=>Lib.run_unsafeSliceData_row _ _ _ _ _ _ (d.resolve_left nofun)⟩
 ·exact h.elim
theorem Lu{t:TypeId}{x i:Value}{K:RK}{h:ad}(a:P8 P t x i K):Yv P (Instr.index t x i) K h:=by
 unfold P8 at a;split at a
 ·rename_i s k i hu
  obtain⟨b,d,e,c⟩:=a;refine .of_pure c fun w=>?_
  simp[Instr.index,asIntOf,aB hu,d,e]
 ·exact a.elim
theorem Lq{t:TypeId}{x:Value}{lo hi f:Option Value}{K:RK}{h:ad}(b:P5 P t x lo hi f K):Yv P (qW t x lo hi f) K h:=by
 unfold P5 at b;split at b
 ·rename_i s hu
  cases f with
  |some _=>exact b.elim
  |none=>
   obtain⟨n,b,d⟩:=nq (P:=P) b;obtain⟨l,b,c⟩:=nq (P:=P) b;refine .of_pure b fun w=>?_
   simp[qW,Instr.slice,aB hu,qq d c]
 ·rename_i e a len cap hu
  obtain⟨b,g⟩:=qt b;cases f with
  |none=>
   obtain⟨n,b,d⟩:=nq (P:=P) b;obtain⟨l,b,c⟩:=nq (P:=P) b;refine .of_pure b fun w=>?_
   simp[qW,Instr.slice,aB hu,qq d c,g,Bv]
  |some m=>
   cases hi with
   |none=>exact b.elim
   |some hi=>
    obtain⟨j,b,hm⟩:=nq (P:=P) b;obtain⟨n,b,d⟩:=nq (P:=P) b;obtain⟨l,b,c⟩:=nq (P:=P) b;refine .of_pure b fun w=>?_
    simp[qW,Instr.slice,aB hu,Ec hm d c,g,Bv]
 ·rename_i n e a hu
  obtain⟨b,g⟩:=qt b;cases f with
  |some _=>exact b.elim
  |none=>
   obtain⟨m,b,d⟩:=nq (P:=P) b;obtain⟨l,b,c⟩:=nq (P:=P) b;refine .of_pure b fun w=>?_
   have i:(some (if n=l then a else a.add (l*cg P e)))=aY (some a) l n (cg P e):=by
    rw[←Bv];split<;>rfl
   simp[qW,aB hu,mR,qq d c,g,i]
 ·exact b.elim
def pQ(d:TypeDesc)(c:CK):Prop:=(∃i,d=.int i∧c=.int i)∨(d=.string∧c=.str)∨(d=.bool∧c=.bool)
theorem y9{t:TypeId}{c:CK}{e:TypeId}(h:N6 P t=some (c,e)):∃k d,P.underlying t=some (.map k e)∧P.underlying k=some d∧pQ d c:=by
 unfold N6 at h;split at h
 ·rename_i k e' hu
  split at h
  ·rename_i i hk
   simp only[bq.injEq,pW.injEq]at h;obtain⟨rfl,rfl⟩:=h;exact⟨k,_,hu,hk,.inl ⟨i,rfl,rfl⟩⟩
  ·rename_i hk
   simp only[bq.injEq,pW.injEq]at h;obtain⟨rfl,rfl⟩:=h;exact⟨k,_,hu,hk,.inr (.inl ⟨rfl,rfl⟩)⟩
  ·rename_i hk
   simp only[bq.injEq,pW.injEq]at h;obtain⟨rfl,rfl⟩:=h;exact⟨k,_,hu,hk,.inr (.inr ⟨rfl,rfl⟩)⟩
  ·cases h
 ·cases h
theorem E3{d:TypeDesc}{c:CK}(hd:pQ d c)(x y:c.den):wc d (c.enc x) (c.enc y)=some (gk (c.enc x) (c.enc y)):=by
 rcases hd with⟨i,rfl,rfl⟩|⟨rfl,rfl⟩|⟨rfl,rfl⟩
 ·simp[wc,CK.enc,gk]
 ·simp[wc,CK.enc,gk]
 ·simp[wc,CK.enc,gk]
theorem Fi{d:TypeDesc}{c:CK}(hd:pQ d c)(x:c.den):∀(es:List MapEntry) (i:Nat),keysOf c es→
  ∃r,oC d (c.enc x) es i=some r∧r.map (·.2)=HN (c.enc x) es
 | [],i,_=>⟨none,rfl,rfl⟩
 |e::es,i,h=>by
  obtain⟨y,g⟩:=h e (by simp);have b:=E3 hd x y;rw[←g]at b;simp only[oC,HN];cases hb:gk (c.enc x) e.key with
  |true=>rw[b,hb];exact⟨some (i,e.val),rfl,rfl⟩
  |false=>rw[b,hb];exact Fi hd x es (i+1) fun f a=>h f (by simp[a])
theorem OE{a:Bool}{k:TypeId}{d:TypeDesc}{c:CK}(hd:pQ d c)(b:P.underlying k=some d)(v:Value)(n:Nat)(w:World):(Instr.checkKey a (n+1) k v).run P w=.ok () w:=by
 unfold Instr.checkKey;simp only[aW,aB b,aC];rcases hd with⟨i,rfl,rfl⟩|⟨rfl,rfl⟩|⟨rfl,rfl⟩<;>rfl
theorem xE{k:TypeId}{d:TypeDesc}{c:CK}(hd:pQ d c)(b:P.underlying k=some d)(x:c.den){es:List MapEntry}(h:keysOf c es)(w:World):
  ∃r,(Instr.findKey k (c.enc x) es).run P w=.ok r w∧oC d (c.enc x) es 0=some r∧r.map (·.2)=HN (c.enc x) es:=by
 obtain⟨r,a,hm⟩:=Fi hd x es 0 h;refine⟨r,?_,a,hm⟩;simp only[Instr.findKey,aW,aB b,aC,a,bQ]
theorem mD{w:World}{r:Nat}{es:Array MapEntry}{a:Nat}(h:w.heap[r]? =some (.map es a)):(getObj r).run P w=.ok (.map es a) w:=by
 simp only[getObj,oK,h]
theorem ot{a:Bool}{k:TypeId}{d:TypeDesc}{c:CK}(hd:pQ d c)(b:P.underlying k=some d)(v:Value)(w:World):(Instr.checkKey a 10000 k v).run P w=.ok () w:=
 OE hd b v 9999 w
theorem Qp{t:TypeId}{c:CK}{e k:TypeId}{d:TypeDesc}(q:P.underlying t=some (.map k e))(g:P.underlying k=some d)(hd:pQ d c){m:Option Nat}{x:c.den}{z v:Value}{b ok:Bool}{w:World}
  (p:(zeroValue e).run P w=.ok z w)(hm:xT c z w.heap m (c.enc x) v b):
  (xX t (.map m) (c.enc x) ok).run P w=.ok (bif ok then .tuple #[v,.bool b]else v) w:=by
 cases m with
 |none=>
  obtain⟨rfl,rfl⟩:=hm;simp only[xX,aW,aB q,aC,bQ,ot hd g];obtain⟨r,j,i,a⟩:=xE (P:=P) hd g x (es:= []) (fun _ h=>by cases h) w
  simp only[oC,bq.injEq]at i;subst i;simp[j,p]
 |some r=>
  obtain⟨es,o,s,n,f⟩:=hm;simp only[xX,aW,aB q,aC,mD s,bQ,ot hd g];obtain⟨r,j,i,a⟩:=xE (P:=P) hd g x n w;simp only[j,aC];cases r with
  |none=>
   simp only[Option.map_none]at a;rw[←a]at f;obtain⟨rfl,rfl⟩:=f;simp[p]
  |some r=>
   simp only[lL]at a;rw[←a]at f;obtain⟨rfl,rfl⟩:=f;cases ok<;>rfl
theorem fo{e:TypeId}{z:Value}(h:AV P e=some z)(w:World):(zeroValue e).run P w=.ok z w:=by
 unfold AV at h;cases hi:P.info? e with
 |none=>rw[hi]at h;cases h
 |some i=>rw[hi]at h;simp only at h;simp[zeroValue,cV hi,h]
theorem IV{t:TypeId}{x k:Value}{ok:Bool}{K:RK}{h:ad}(a:Ls P t x k ok K h):Yv P (xX t x k ok) K h:=by
 unfold Ls at a;split at a
 ·rename_i c e m hc
  obtain⟨o,d,j,f,hd⟩:=y9 hc;obtain⟨n,rfl,a⟩:=CK.dec_sound a;split at a
  ·rename_i ek z hek hz
   obtain⟨y,b,hm,i⟩:=a;exact⟨_,_,i,hm,fun w g=>Qp j f hd (fo hz w) g⟩
  ·exact a.elim
 ·exact a.elim
theorem E5{w:World}{b cap s q:Nat}{buf:Array Value}{a t:Bool}(h:w.heap[b]? =some (.chan cap buf a s q t)):(getObj b).run P w=.ok (.chan cap buf a s q t) w:=by
 simp only[getObj,oK,h]
theorem P7{t:TypeId}{x:Value}{ats:Array TypeId}{ty:TypeId}{K:RK}{h:ad}(a:ats[0]? =some t) (d:YT P t x K h):Yv P (lA ats ty #[x]) K h:=by
 unfold YT at d;split at d
 ·rename_i s hu
  exact .of_pure d fun w=>by simp[lA,a,aB hu,goInt]
 ·rename_i n e _ hu
  exact .of_pure d fun w=>by simp[lA,a,aB hu,goInt]
 ·rename_i e b n c hu
  exact .of_pure d fun w=>by simp[lA,a,aB hu,goInt]
 ·rename_i k e m hu
  obtain⟨n,hm,g⟩:=d;refine⟨_,_,g,hm,fun w f=>?_⟩
  cases m with
  |none=>
   have:n=0:=f;subst this;simp[lA,a,aB hu,goInt]
  |some r=>
   obtain⟨es,i,j,rfl⟩:=f;simp[lA,a,aB hu,goInt,mD j]
 ·rename_i k e m hu
  obtain⟨n,hm,g⟩:=d;refine⟨_,_,g,hm,fun w f=>?_⟩
  cases m with
  |none=>
   have:n=0:=f;subst this;simp[lA,a,aB hu,goInt]
  |some r=>
   obtain⟨cap,buf,o,s,q,j,rfl⟩:=f;simp[lA,a,aB hu,goInt,E5 j]
 ·exact d.elim
theorem Qa{t:TypeId}{x:Value}{ats:Array TypeId}{ty:TypeId}{K:RK}{h:ad}(a:ats[0]? =some t) (d:YU P t x K h):Yv P (xZ ats ty #[x]) K h:=by
 unfold YU at d;split at d
 ·rename_i e b n c hu
  exact .of_pure d fun w=>by simp[xZ,a,aB hu,goInt]
 ·rename_i k e m hu
  obtain⟨n,hm,g⟩:=d;refine⟨_,_,g,hm,fun w f=>?_⟩
  cases m with
  |none=>
   have:n=0:=f;subst this;simp[xZ,a,aB hu,goInt]
  |some r=>
   obtain⟨cap,buf,j,s,q,i,rfl⟩:=f;simp[xZ,a,aB hu,goInt,E5 i]
 ·exact d.elim
theorem CL{c:Bool}{k:IntKind}:∀{vs:List Value} {a:Int} {f:Value→Prop},LK c k a vs f→∃v,f v∧∀w,(vs.foldlM (bif c then Builtin.max2 else Builtin.min2) (Value.int k a):Sem Value).run P w=.ok v w
 | [],a,f,h=>⟨_,h,fun w=>by simp⟩
 | .int k' b::vs,a,f,h=>by
  simp only[LK]at h;cases hk:LS k' k with
  |false=>rw[hk]at h;exact h.elim
  |true=>
   rw[hk]at h;have:=CT hk;subst this;obtain⟨v,d,e⟩:=CL h;refine⟨v,d,fun w=>?_⟩
   rw[←e w];cases c<;>simp[List.foldlM_cons,Builtin.max2,Builtin.min2]
theorem A1{a:Bool}{vs:List Value}{f:Value→Prop}{ats:Array TypeId}{ty:TypeId}(h:Gt a vs f):∃v,f v∧∀w,(bif a then Builtin.max_ ats ty vs.toArray else Builtin.min_ ats ty vs.toArray).run P w=.ok v w:=by
 unfold Gt at h;split at h
 ·obtain⟨v,b,c⟩:=CL (P:=P) h
  refine⟨v,b,fun w=>?_⟩
  have:=c w;cases a<;>simpa[Builtin.max_,Builtin.min_]using this
 ·exact h.elim
theorem TJ{a:Addr}{e:MapEntry}{w:World}(i:a.off=0)(h:Q7 w.heap a.block e):(Instr.entry (.pointer (some a))).run P w=.ok (.tuple #[e.key,e.val]) w:=by
 obtain⟨m,c,d,last,f,es,hi,n,hm,k⟩:=h;obtain⟨b,off,g⟩:=a;simp only at i hi;subst i;have j:(getObj b).run P w=.ok (.mapIter (some m) c d last) w:=by simp only[getObj,oK,hi]
 simp[Instr.entry,j,n,mD hm,k]
def JB:DV→Value→Prop
 | .t,v=>v=.bool true
 | .f,v=>v=.bool false
 | .u,v=>v=undef
 | .x,_=>True
def DecOk(d:w9)(r:cJ):Prop:=∀t,sE d t=.x∨∃v,kV r t=some v∧JB (sE d t) v
theorem DecOk.at{d:w9}{r:cJ}(h:DecOk d r){t:Nat}{v:Value}(b:kV r t=some v):JB (sE d t) v:=by
 rcases h t with e|⟨u,a,c⟩
 ·rw[e];trivial
 ·rw[b]at a;cases a;exact c
theorem wH{d:w9}{r:cJ}(hd:DecOk d r){o:Operand}{v:Value}(h:dq r o=some v):JB (C6 d o) v:=by
 cases o with
 |tmp t=>exact hd.at h
 |const c=>
  simp[dq]at h;subst h;cases c with
  |bool b=>cases b<;>exact rfl
  |_=>trivial
 |global g=>trivial
 |func f=>trivial
theorem Fa{t:TypeId}(h:ri P t=true):∃d,P.underlying t=some d∧∀m,d≠ .interface m:=by
 unfold ri at h;split at h
 ·cases h
 ·rename_i d hd;exact⟨_,hd,fun m e=>by subst e;simp_all⟩
 ·cases h
theorem CP{t:TypeId}{v:Value}(h:ri P t=true)(w:World):(Instr.makeInterface t v).run P w=.ok (.iface t v) w:=by
 obtain⟨d,hd,a⟩:=Fa h;simp only[Instr.makeInterface,aW,aB hd,aC];cases d<;>first|exact absurd rfl (a _)|rfl
theorem GP{t u:TypeId}{v:Value}(h:ri P t=true)(w:World):(Instr.typeAssert (.iface t v) u t false).run P w=.ok v w:=by
 obtain⟨d,hd,a⟩:=Fa h;simp only[Instr.typeAssert,aW,aB hd,aC];cases d<;>first|exact absurd rfl (a _)|(simp[bQ])
theorem kU{t:TypeId}{z:List Value}(h:rP P t=some z):∃v,AV P t=some v∧v.cells.toList=z:=by
 unfold rP at h;cases hz:AV P t with
 |none=>rw[hz]at h;cases h
 |some v=>rw[hz]at h;simp only[bq.injEq]at h;exact⟨v,rfl,h⟩
theorem sQ{t:TypeId}{v:Value}(h:AV P t=some v):∃i,P.info? t=some i∧i.zero=some v:=by
 unfold AV at h;cases hi:P.info? t with
 |none=>rw[hi]at h;cases h
 |some i=>rw[hi]at h;exact⟨i,rfl,h⟩
theorem Wb{A B:List Value}{x:Value}{m:Nat}(h:A.length=m):(A++x::B).take (m+1)=A++ [x]:=by
 subst h;rw[List.take_append,bG (by omega),show A.length+1-A.length=1 by omega];rfl
theorem We{A B:List Value}{x:Value}{m n:Nat}(h:A.length=m):(A++x::B).drop (m+1+n)=B.drop n:=by
 subst h;rw[List.drop_append,List.drop_eq_nil_of_le (by omega),show A.length+1+n-A.length=n+1 by omega];rfl
theorem Ok(off:Nat):∀(xs:List Value) (k:Nat) (arr:Array Value),off+k+xs.length≤arr.size→
  (xs.zipIdx k).foldl (fun cs (c,j)=>cs.setIfInBounds (off+j) c) arr=(NF arr.toList (off+k) xs).toArray
 | [],k,arr,_=>by simp[NF]
 |x::xs,k,arr,h=>by
  simp only[ay]at h;simp only[List.zipIdx_cons,List.foldl_cons];rw[Ok off xs (k+1) _ (by simp;omega)];have hm:off+k<arr.toList.length:=by simp;omega
  have b:arr.toList.set (off+k) x=arr.toList.take (off+k)++x::arr.toList.drop (off+k+1):=by
   rw[List.set_eq_take_append_cons_drop,if_pos hm]
  have a:(arr.toList.take (off+k)).length=off+k:=by simp;omega
  congr 1
  unfold NF;rw[Array.toList_setIfInBounds,b,←Nat.add_assoc,Wb a,We a];simp only[List.append_assoc,fA,List.nil_append,ay,List.drop_drop];rw[show off+k+1+xs.length=off+k+(xs.length+1) by omega]
theorem uF{a:Nat→Option (Nat×Nat)}:∀(parts:List (Nat×Value)) (cs cs':List Value),Fj a cs parts=some cs'→Instr.fill a cs.toArray parts=some cs'.toArray
 | [],cs,cs',h=>by simp only[Fj,bq.injEq]at h;subst h;rfl
 |(i,v)::rest,cs,cs',h=>by
  simp only[Fj]at h;cases hp:a i with
  |none=>rw[hp]at h;cases h
  |some os=>
   obtain⟨off,size⟩:=os;rw[hp]at h;simp only at h;cases hb:(az v.cells.toList.length size&&AD (off+v.cells.toList.length) cs.length)with
   |false=>rw[hb]at h;cases h
   |true=>
    rw[hb]at h;simp only[aJ]at hb;have d:=bd hb.1;have b:=jA hb.2;have e:=uF rest _ _ h;have f:v.cells.size=size:=by simpa using d
    have c:off+v.cells.size≤cs.length:=by simpa using b
    have g:Array.foldl (fun cs x=>cs.setIfInBounds (off+x.2) x.1) cs.toArray v.cells.zipIdx=(NF cs off v.cells.toList).toArray:=by
     have:=Ok off v.cells.toList 0 cs.toArray (by simpa using c);simp only[j7]at this;rw[←this,←Array.foldl_toList];congr 1
     simp[Array.toList_zipIdx]
    simp only[Instr.fill,hp];rw[if_neg (by simp[f];omega)];simp only[g];exact e
theorem pB{N:Nat}{r:cJ}{a:Act}(h:Agree N r a):∀{ps:List (Nat×Operand)} {vs:List (Nat×Value)},rh r ps=some vs→ps.map (fun p=>(p.1,a.eval p.2))=vs
 | [],vs,hv=>by simp[rh]at hv;subst hv;rfl
 |(i,o)::ps,vs,hv=>by
  simp only[rh]at hv;cases ho:dq r o with
  |none=>simp[ho]at hv
  |some v=>cases hos:rh r ps with
   |none=>simp[ho,hos]at hv
   |some us=>simp[ho,hos]at hv;subst hv;simp[kW h ho,pB h hos]
theorem rl{t:TypeId}(h:Aw P t=true)(w:World):(sizeOf t).run P w=.ok (cg P t) w:=by
 unfold Aw at h;cases hi:P.info? t with
 |none=>rw[hi]at h;cases h
 |some i=>simp[sizeOf,cV hi,cg,hi]
theorem Hh(w:World):∀l:List Field,Dc P l=true→(l.mapM fun f:Field=>((do pure (f.offset,←sizeOf f.type)):Sem (Nat×Nat))).run P w=.ok (l.map fun f:Field=>(f.offset,cg P f.type)) w
 | [],_=>rfl
 |f::l,h=>by
  simp only[Dc]at h;cases hf:Aw P f.type with
  |false=>rw[hf]at h;cases h
  |true=>
   rw[hf]at h;rw[List.mapM_cons];simp only[aW,rl hf,aC,bQ,Hh w l h,cN]
theorem Db{t:TypeId}{ps:Array (Nat×Value)}{cs:List Value}(a:Me P t ps.toList=some cs)(w:World):
  (Instr.build t ps).run P w=.ok (.agg cs.toArray) w:=by
 unfold Me at a;split at a
 ·rename_i fs z hu d
  obtain⟨v,d,j⟩:=kU d;cases ha:Dc P fs.toList with
  |false=>rw[ha]at a;cases a
  |true=>
   rw[ha]at a;have k:(fs.mapM fun f:Field=>((do pure (f.offset,←sizeOf f.type)):Sem (Nat×Nat))).run P w=.ok (fs.map fun f:Field=>(f.offset,cg P f.type)) w:=by
    rw[Array.mapM_eq_mapM_toList];simp only[Sem.run_map,Hh w fs.toList ha,aC];congr 1
    apply cQ;simp
   have g:=uF _ _ _ a;have b:(fun i:Nat=>(fs.map fun f:Field=>(f.offset,cg P f.type))[i]?)=Qg P fs.toList:=by
    funext i;unfold Qg;rw[Array.getElem?_map,bv];cases fs[i]?<;>rfl
   have c:v.cells=z.toArray:=by rw[←j]
   rw[cond_true]at a;rw[←b]at g;simp only[Instr.build,aW,fo d,aC,aB hu,k,c,g,bQ]
 ·rename_i n e z hu d
  obtain⟨v,d,j⟩:=kU d;cases ha:Aw P e with
  |false=>rw[ha]at a;cases a
  |true=>
   rw[ha]at a;have g:=uF _ _ _ a;have c:v.cells=z.toArray:=by rw[←j]
   simp only[Instr.build,aW,fo d,aC,aB hu,rl ha,c,g,bQ]
 ·cases a
theorem Eh{ek:Option (Kind×Kind)}{o:Oper}{r:cJ}{K:RK}{h:ad}{N:Nat}{a:Act}(Q:Agree N r a)(g:D5 P ek o.op r K h)(d:w9)(hd:DecOk d r):
  ∃v S,K v S∧W3 S h∧JB (MO d o.op) v∧∀w:World,W3 S w.heap→(execOp a.eval o).run P w=.ok (.value v) w:=by
 have j:∀{x:Operand} {v:Value},dq r x=some v→a.eval x=v:=fun h=>kW Q h
 have A:∀{s:Sem Value},Yv P s K h→MO d o.op=.x→(∀w,(execOp a.eval o).run P w=(do pure (Next.value (←s)):Sem Next).run P w)→
   ∃v S,K v S∧W3 S h∧JB (MO d o.op) v∧∀w:World,W3 S w.heap→(execOp a.eval o).run P w=.ok (.value v) w:=by
  rintro s ⟨v,S,q,B,z⟩ hx H;exact⟨v,S,q,B,by rw[hx];trivial,fun w D=>by rw[H w];exact jg (z w D)⟩
 obtain⟨R,op,type,pos,F,G⟩:=o;simp only at g A⊢;cases op with
 |move x=>
  simp only[D5]at g;split at g
  ·rename_i v hv
   exact⟨v,none,g,trivial,wH hd hv,fun w _=>by simp[execOp,j hv]⟩
  ·exact g.elim
 |assign x=>
  simp only[D5]at g;split at g
  ·rename_i v hv
   exact⟨v,none,g,trivial,wH hd hv,fun w _=>by simp[execOp,j hv]⟩
  ·exact g.elim
 |pick c x y=>
  simp only[D5]at g;split at g
  ·rename_i vc va vb hc hx T
   unfold Yn at g;split at g
   ·rename_i cb
    have L:=wH hd hc;have Y:=wH hd hx;have X:=wH hd T;have H:∀w,(execOp a.eval ⟨R,.pick c x y,type,pos,F,G⟩).run P w=.ok (.value (if cb then va else vb)) w:=fun w=>by
     simp[execOp,j hc,j hx,j T,asBool]
    have J:JB (MO d (.pick c x y)) (if cb then va else vb):=by
     simp only[MO];cases hcd:C6 d c with
     |t=>
      rw[hcd]at L;have:cb=true:=by simpa[JB]using L
      subst this;exact Y
     |f=>
      rw[hcd]at L;have:cb=false:=by simpa[JB]using L
      subst this;exact X
     |u=>trivial
     |x=>trivial
    split at g
    ·rename_i bx by'
     have e1:(if cb=true then Value.bool bx else Value.bool by')=.bool (bif cb then bx else by'):=by cases cb<;>rfl
     rw[e1]at J;exact⟨_,none,g,trivial,J,fun w _=>by rw[H w,e1]⟩
    ·cases cb
     ·exact⟨_,none,g,trivial,J,fun w _=>H w⟩
     ·exact⟨_,none,g,trivial,J,fun w _=>H w⟩
   ·exact g.elim
  ·exact g.elim
 |load t x=>
  simp only[D5]at g;split at g
  ·rename_i v hv
   obtain⟨u,S,q,B,z⟩:=E8 g;exact A ⟨u,some S,q,B,z⟩ rfl fun w=>by simp only[execOp,j hv]
  ·exact g.elim
 |nilCheck x=>
  simp only[D5]at g;split at g
  ·rename_i p hv
   obtain⟨b,rfl,q⟩:=g;exact⟨_,none,q,trivial,trivial,fun w _=>by simp[execOp,j hv]⟩
  ·exact g.elim
 |binOp op t x y yt=>
  simp only[D5]at g;split at g
  ·rename_i v u hn hv hu
   have go:(∀c d,v=.agg c→u=.agg d→False)∧Yv P (binOp op t v u) K h:=by
    split at g
    ·exact Hk (neg:=false) g
    ·exact Hk (neg:=true) g
    ·exact⟨(BG g).1,(BG g).2.2⟩
   obtain⟨U,O,S,q,B,z⟩:=go;obtain⟨yc,rfl⟩:=LN hn;refine⟨O,S,q,B,trivial,fun w D=>?_⟩
   simp only[execOp,j hv,j hu];simp[Oq op t x yc v u U w,z w D]
  ·rename_i v u hn hv hu
   obtain⟨O,S,q,B,z⟩:=Qb (x:=x) (y:=y) g;refine⟨O,S,q,B,trivial,fun w D=>?_⟩
   simp only[execOp,j hv,j hu];exact jg (z w D)
  ·rename_i v u hna hn hv hu
   obtain⟨U,h2,O,S,q,B,z⟩:=BG g;refine⟨O,S,q,B,trivial,fun w D=>?_⟩
   simp only[execOp,j hv,j hu];simp[QM op t x y v u U h2 w,z w D]
  ·exact g.elim
 |unOp op t x=>
  simp only[D5]at g;split at g
  ·rename_i v hv
   obtain⟨u,S,q,B,z⟩:=S8 (P:=P) (h:=h) g;refine⟨u,S,q,B,?_,fun w D=>by simp only[execOp,j hv];exact jg (z w D)⟩
   have I:=wH hd hv;cases op<;>try trivial
   simp only[MO];have E:=z {(default:World)with heap:=h} B;cases hx:C6 d x with
   |t=>
    rw[hx]at I;have:v=.bool true:=I;subst this;simp[Op.unary]at E;exact E.symm
   |f=>
    rw[hx]at I;have:v=.bool false:=I;subst this;simp[Op.unary]at E;exact E.symm
   |u=>trivial
   |x=>trivial
  ·exact g.elim
 |convert s t x=>
  simp only[D5]at g;split at g
  ·rename_i v hv
   exact A (Ny g) rfl fun w=>by simp only[execOp,j hv]
  ·exact g.elim
 |extract x i=>
  simp only[D5]at g;split at g
  ·rename_i vs hv
   split at g
   ·rename_i u hu
    have V:vs[i]? =some u:=by simpa using hu
    exact⟨u,none,g,trivial,trivial,fun w _=>by simp[execOp,j hv,Instr.extract,V]⟩
   ·exact g.elim
  ·exact g.elim
 |fieldAddr t x f=>
  simp only[D5]at g;split at g
  ·rename_i b u off hv hf
   exact A (F4 hf g) rfl fun w=>by simp only[execOp,j hv]
  ·exact g.elim
 |field t x f=>
  simp only[D5]at g;split at g
  ·rename_i v hv
   exact A (Lv g) rfl fun w=>by simp only[execOp,j hv]
  ·exact g.elim
 |indexAddr t x i=>
  simp only[D5]at g;split at g
  ·rename_i v u hv hu
   exact A (Ei g) rfl fun w=>by simp only[execOp,j hv,j hu]
  ·exact g.elim
 |index t x i=>
  simp only[D5]at g;split at g
  ·rename_i v u hv hu
   exact A (Lu g) rfl fun w=>by simp only[execOp,j hv,j hu]
  ·exact g.elim
 |slice t x lo hi mx=>
  simp only[D5]at g;split at g
  ·rename_i v l h' m hv hl hh hm
   have Z:∀{x:Option Operand} {v:Option Value},Ki r x=some v→x.map a.eval=v:=by
    intro x v hx;cases x with
    |none=>simp[Ki]at hx;subst hx;rfl
    |some x=>
     simp only[Ki]at hx;cases H:dq r x with
     |none=>simp[H]at hx
     |some u=>simp[H]at hx;subst hx;simp[j H]
   exact A (Lq g) rfl fun w=>by simp only[execOp,j hv,Z hl,Z hh,Z hm]
  ·exact g.elim
 |lookup t x k ok=>
  simp only[D5]at g;split at g
  ·rename_i v u hv hu
   exact A (IV g) rfl fun w=>by simp only[execOp,j hv,j hu]
  ·exact g.elim
 |makeInterface t x=>
  simp only[D5]at g;split at g
  ·rename_i v hv
   cases hb:ri P t with
   |false=>rw[hb]at g;exact g.elim
   |true=>
    rw[hb,cond_true]at g;exact⟨_,none,g,trivial,trivial,fun w _=>by simp only[execOp,j hv];exact jg (CP hb w)⟩
  ·exact g.elim
 |typeAssert x u t ok=>
  simp only[D5]at g;split at g
  ·rename_i v hv
   cases ok with
   |true=>exact g.elim
   |false=>
    rw[cond_false]at g;unfold RR at g;cases hb:ri P t with
    |false=>rw[hb]at g;exact g.elim
    |true=>
     rw[hb,cond_true]at g;split at g
     ·obtain⟨y,rfl,q⟩:=g
      exact⟨_,none,q,trivial,trivial,fun w _=>by simp only[execOp,j hv];exact jg (GP hb w)⟩
     ·exact g.elim
  ·exact g.elim
 |makeFunc fn first cap=>
  simp only[D5]at g;split at g
  ·rename_i vs us hv hu
   have e1:=mZ Q hv;have e2:=mZ Q hu;refine⟨_,none,g,trivial,trivial,fun w _=>?_⟩
   have W:first.map a.eval=vs.toArray:=by rw[←e1];apply cQ;simp
   have f2:cap.map a.eval=us.toArray:=by rw[←e2];apply cQ;simp
   simp[execOp,Instr.makeFunc,W,f2]
  ·exact g.elim
 |entry it=>
  simp only[D5]at g;split at g
  ·rename_i b kk vk hv
   obtain⟨h0,e,x,y,hi,q,T,hK⟩:=g;refine⟨_,_,hK,hi,trivial,fun w D=>?_⟩
   simp only[execOp,j hv];refine jg ?_;rw[TJ h0 D,q,T]
  ·exact g.elim
 |call c=>
  simp only[D5]at g;have C:∀{b:Builtin} {vs:List Value},c.callee=.builtin b→oN r c.args.toList=some vs→∃cs:Array Bool,∀w,(execOp a.eval ⟨R,.call c,type,pos,F,G⟩).run P w=
    (builtin b c.argTypes type cs vs.toArray).run P w:=by
   intro b vs hc n;have e1:=mZ Q n;have W:c.args.map a.eval=vs.toArray:=by rw[←e1];apply cQ;simp
   refine⟨c.args.map fun| .const _=>true|_=>false,fun w=>?_⟩
   simp[execOp,resolve,hc,W,invoke];rfl
  split at g
  ·rename_i v t hc n hat
   obtain⟨cs,C⟩:=C hc n;obtain⟨u,S,q,B,z⟩:=P7 (ats:=c.argTypes) (ty:=type) (by rw[←bv,hat];rfl) g;exact⟨u,S,q,B,trivial,fun w D=>by rw[C w];simp only[builtin];exact jg (z w D)⟩
  ·rename_i v t hc n hat
   obtain⟨cs,C⟩:=C hc n;obtain⟨u,S,q,B,z⟩:=Qa (h:=h) (ats:=c.argTypes) (ty:=type) (by rw[←bv,hat];rfl) g;exact⟨u,S,q,B,trivial,fun w D=>by rw[C w];simp only[builtin];exact jg (z w D)⟩
  ·rename_i vs hc n
   obtain⟨cs,C⟩:=C hc n;obtain⟨u,q,z⟩:=A1 (P:=P) (ats:=c.argTypes) (ty:=type) g;exact⟨u,none,q,trivial,trivial,fun w _=>by rw[C w];simp only[builtin];exact jg (z w)⟩
  ·rename_i vs hc n
   obtain⟨cs,C⟩:=C hc n;obtain⟨u,q,z⟩:=A1 (P:=P) (ats:=c.argTypes) (ty:=type) g;exact⟨u,none,q,trivial,trivial,fun w _=>by rw[C w];simp only[builtin];exact jg (z w)⟩
  ·rename_i v hc n
   obtain⟨cs,C⟩:=C hc n;obtain⟨u,q,z⟩:=Lr (P:=P) (ats:=c.argTypes) (ty:=type) g;exact⟨u,none,q,trivial,trivial,fun w _=>by rw[C w];simp only[builtin];exact jg (z w)⟩
  ·exact g.elim
 |build t ps=>
  simp only[D5]at g;split at g
  ·rename_i vs n
   split at g
   ·rename_i cs hcs
    refine⟨_,none,g,trivial,trivial,fun w _=>?_⟩
    have hp:(ps.map fun x=>(x.1,a.eval x.2))=vs.toArray:=by
     rw[←pB Q n];apply cQ;simp
    have H:=Db (ps:=vs.toArray) (by simpa using hcs) w;simp only[execOp];rw[show(ps.map fun(i,x)=>(i,a.eval x))=vs.toArray from hp]
    exact jg H
   ·exact g.elim
  ·exact g.elim
 |_=>simp only[D5]at g
end Go.Lift
namespace Go.Lift
open Go
variable {P:Program}
def OL(P:Program)(s:Sem Next)(K:WK)(w:World):Prop:=
 (∃v w',s.run P w=.ok (.value v) w'∧Tame w w'∧K v w'.heap)∨
 (∃w',s.run P w=.ok .skip w'∧Tame w w'∧K undef w'.heap)∨
 (∃f args,s.run P w=.ok (.enter f args) w∧Calls P f args w fun e w'=>Tame w w'∧∃v,e=.returned v∧K v w'.heap)∨
 (∃l fn tmps assign body,s.run P w=.ok (.round l fn tmps assign body) w∧
  ∀(c:Frame) (cs:List Frame),∃b w',Tame w w'∧K (.bool b) w'.heap∧Steps P (lone (Frame.round l fn tmps assign body .normal) (c::cs) w) (lone (c.finish (.bool b)) cs w'))
def Wv(P:Program)(s:Sem Value)(K:WK)(w:World):Prop:=∃v w',s.run P w=.ok v w'∧Tame w w'∧K v w'.heap
theorem Wv.out{s:Sem Value}{K:WK}{w:World}(h:Wv P s K w):OL P (do pure (Next.value (←s))) K w:=by
 obtain⟨v,w',b,c,a⟩:=h;exact .inl ⟨v,w',jg b,c,a⟩
def Wu(P:Program)(s:Sem Unit)(K:WK)(w:World):Prop:=∃w',s.run P w=.ok () w'∧Tame w w'∧K undef w'.heap
theorem Wu.out{s:Sem Unit}{K:WK}{w:World}(h:Wu P s K w):OL P (do s;pure Next.skip) K w:=by
 obtain⟨w',b,c,a⟩:=h;exact .inr (.inl ⟨w',Va b,c,a⟩)
def jP(w:World)(h:ad):World:={w with heap:=h}
theorem dT(w:World)(h:ad):Tame w (jP w h):=⟨rfl,rfl,rfl⟩
theorem lq(e:TypeId)(cs:Array Value)(w:World):(newRow e cs).run P w=.ok (aH w.heap) (jP w (hnew w.heap cs.toList e)):=by
 simp[newRow,newObj,oK,aH,jP,hnew,bind,Sem.bind,pure]
theorem BC(o:Obj)(w:World):(newObj o).run P w=.ok w.heap.size (jP w (w.heap.push o)):=rfl
theorem Ji{h:ad}{a b:Addr}(v:Value)(c:a≠b):aD (hset h a v) b=aD h b:=
 World.cell?_setCell_other {(default:World)with heap:=h} a b v c
theorem F1{h:ad}{a:Addr}{u:Value}(v:Value)(hc:aD h a=some u):aD (hset h a v) a=some v:=
 World.cell?_setCell_same {(default:World)with heap:=h} a v hc
theorem LU{h:ad}{a b:Addr}(v:Value):Gz (hset h a v) b=Gz h b:=
 World.frozen?_setCell {(default:World)with heap:=h} a b v
theorem Wr.hset{h:ad}{a b:Addr}(v:Value)(f:Wr h b):Wr (hset h a v) b:=by
 obtain⟨⟨u,c⟩,d⟩:=f;refine⟨?_,by rw[LU];exact d⟩
 by_cases e:a=b
 ·subst e;exact⟨v,F1 v c⟩
 ·exact⟨u,by rw[Ji v e];exact c⟩
theorem PV{w:World}{a:Addr}{v:Value}(e:∀cs,v≠ .agg cs)(b:∀cs,v≠ .tuple cs)(g:Wr w.heap a):(store a v).run P w=.ok () (jP w (hset w.heap a v)):=by
 obtain⟨⟨u,i⟩,f⟩:=g;have c:w.cell? a=some u:=i;have d:w.frozen? a=false:=f;cases v<;>first|exact absurd rfl (e _)|exact absurd rfl (b _)|(simp only[store,oK,c,d];rfl)
theorem LH{v:Value}{vs:List Value}(h:cx (v::vs)=true):(∀cs,v≠ .agg cs)∧(∀cs,v≠ .tuple cs)∧cx vs=true:=by
 simp only[cx,aJ]at h;refine⟨fun cs e=>?_,fun cs e=>?_,h.2⟩<;>(subst e;exact absurd h.1 (by simp))
theorem tu{a:Addr}:∀(vs:List Value) (i:Nat) (w:World),cx vs=true→(∀j,j<vs.length→Wr w.heap (adr a (i+j)))→
  (storeCells a vs i).run P w=.ok () (jP w (ir w.heap a i vs))
 | [],i,w,_,_=>rfl
 |v::vs,i,w,b,hw=>by
  obtain⟨e,f,b⟩:=LH b;have c:=hw 0 (by simp);simp only[j7]at c;have d:a.add i=adr a i:=(vT a i).symm;simp only[storeCells,d,aW,PV e f c,aC];rw[tu vs (i+1) (jP w (hset w.heap (adr a i) v)) b fun j g=>?_]
  ·rfl
  ·have:=hw (j+1) (by simp only[ay];omega)
   rw[show i+1+j=i+(j+1) by omega]
   exact this.hset v
theorem KB{a:Addr}(m:Nat):∀(vs:List Value) (i:Nat) (h:ad),ir h (adr a m) i vs=ir h a (m+i) vs
 | [],_,_=>rfl
 |v::vs,i,h=>by
  simp only[ir];rw[KB m vs (i+1),Df];rfl
theorem K7{t:TypeId}{a v:Value}{K:WK}{w:World}(c:Py P t a v K w.heap):Wu P (Instr.storeAt t a v) K w:=by
 unfold Py at c;split at c
 ·rename_i a
  cases hb:(az v.cells.toList.length (cg P t)&&cx v.cells.toList)with
  |false=>rw[hb]at c;exact c.elim
  |true=>
   rw[hb]at c;simp only[aJ]at hb;have n:=bd hb.1;obtain⟨c,m⟩:=qt c;have i:v.cells.size=cg P t:=by simpa using n
   have go:(∀j,j<v.cells.toList.length→Wr w.heap (adr a (0+j)))→(Instr.storeAt t (.pointer (some a)) v).run P w=.ok () (jP w (ir w.heap a 0 v.cells.toList)):=by
    intro d;have:=tu (P:=P) v.cells.toList 0 w hb.2 d;simp[Instr.storeAt,mR,storeVar,m,i,this]
   split at c
   ·rename_i u hu
    obtain⟨d,g⟩:=c;refine⟨_,go (fun j f=>?_),dT _ _,?_⟩
    ·rw[hu]at f;simp only[ay,List.length_nil]at f
     obtain rfl:j=0:=by omega
     exact d
    ·rw[hu];exact g
   ·obtain⟨d,g⟩:=c
    refine⟨_,go (fun j f=>?_),dT _ _,g⟩
    rcases d with e|⟨b,k,d⟩
    ·rw[e]at f;cases f
    ·cases k;exact d j f
 ·exact c.elim
theorem kz(z:Array Value)(n:Nat):(iL z n).toList=dw n z.toList:=by
 have key:∀n,(List.range (n*z.size)).map (fun i=>z[i%z.size]!)=(bF n z.toList).flatten:=by
  intro n;induction n with
  |zero=>simp
  |succ n ih=>
   rw[Nat.succ_mul,List.range_add,List.map_append,ih,List.replicate_succ',List.flatten_append];congr 1
   simp only[ly,List.flatten_cons,List.flatten_nil,List.append_nil];apply List.ext_getElem
   ·simp
   ·intro i a b
    simp only[List.length_map,List.length_range]at a;simp[Nat.mod_eq_of_lt a,a,Nat.add_mod]
 simpa[iL,dw]using key n
theorem dJ{t e:TypeId}(h:yj P t=some e):P.underlying t=some (.slice e):=by
 unfold yj at h;split at h
 ·rename_i e' hu;simp only[bq.injEq]at h;subst h;exact hu
 ·cases h
theorem Ry{z:Value}{n:Nat}:((Array.range (n*z.cells.size)).map (z.cells[· %z.cells.size]!))=(dw n z.cells.toList).toArray:=by
 have:=kz z.cells n;unfold iL at this;apply cQ;rw[this]
theorem EE{t e:TypeId}{n:Nat}{ps:Array (Nat×Value)}{z cs:List Value}(p:yj P t=some e)(o:rP P e=some z)(u:n*cg P e≤16777216)(j:z.length=cg P e)
  (s:Fj (fun i=>some (i*cg P e,cg P e)) (dw n z) ps.toList=some cs)(w:World):
  (Instr.buildSlice t n ps).run P w=.ok (.slice (some (aH w.heap)) n n) (jP w (hnew w.heap cs e)):=by
 obtain⟨v,g,c⟩:=kU o;obtain⟨i,hi,q⟩:=sQ g;have m:(sizeOf e).run P w=.ok (cg P e) w:=by simp[sizeOf,cV hi,cg,hi]
 have d:v.cells.size=cg P e:=by rw[←j,←c];simp
 have k:=uF _ _ _ s;have a:((Array.range (n*cg P e)).map (fun i=>(if n*cg P e=0 then #[]else v.cells)[i%(if n*cg P e=0 then #[]else v.cells).size]!))=(dw n z).toArray:=by
  by_cases b:n*cg P e=0
  ·have:(dw n z).length=0:=by simp[dw,j,b]
   rw[bp.1 this];simp[b]
  ·simp only[if_neg b]
   rw[←d,Ry,c]
 have f:¬(n*cg P e>2^24):=by omega
 simp only[Instr.buildSlice,aW,aB (dJ p),aC,m,if_neg f];by_cases b:n*cg P e=0
 ·simp only[if_pos b]at a
  simp only[if_pos b,aW,bQ,aC,a,k,lq]
 ·simp only[if_neg b]at a
  simp only[if_neg b,aW,bQ,aC,fo g,a,k,lq]
theorem S0{h:ad}{a:Addr}{vs:List Value}(c:Row h a vs):∀j v,vs[j]? =some v→aD h (a.add j)=some v:=fun j v b=>by
 rw[←vT];exact c j v b
theorem Am{size n cap len:Nat}{b:Option Addr}{vs:List Value}{w:World}(d:SRow w.heap b (n*size) vs):(fl size n (.slice b len cap)).run P w=.ok vs.toArray w:=by
 obtain⟨e,a⟩:=d;cases b with
 |none=>
  rcases a with rfl|⟨_,h,_⟩
  ·simp[fl]
  ·cases h
 |some b=>
  refine run_firstCells_some w size n b len cap vs e fun j v c=>?_
  rcases a with rfl|⟨_,h,a⟩
  ·cases c
  ·cases h;exact S0 a j v c
theorem GY{a:Addr}{m:Nat}{xs:List Value}{w:World}(d:cx xs=true)(c:tc w.heap (some a) m xs):
  (storeCells (a.add m) xs).run P w=.ok () (jP w (ir w.heap a m xs)):=by
 rcases c with rfl|⟨b,f,c⟩
 ·rfl
 ·cases f
  have:=tu (P:=P) (a:=adr a m) xs 0 w d fun j e=>by rw[Df,aR];exact c j e
  rw[←vT,this,KB,j7]
set_option maxHeartbeats 1000000 in
theorem Ii{t e u ty:TypeId}{b:Option Addr}{sl f d:Nat}{xs:List Value}{x:Value}{K:WK}{w:World}(E:yj P t=some e)(k:(∃s,P.underlying u=some (.slice s))∨P.underlying u=some .string)
  (g:∀w,(qX x).run P w=.ok d w)(hx:∀w':World,w'.heap=w.heap→(fl (cg P e) d x).run P w'=.ok xs.toArray w')
  (hi:∃i,P.info? e=some i)
  (h:WD P e b sl f d xs K w.heap):Wv P (dS #[t,u] ty #[.slice b sl f,x]) K w:=by
 obtain⟨i,hi⟩:=hi;have j:cg P e=i.size:=by simp[cg,hi]
 have D:rY P e=i.bytes:=by simp[rY,hi]
 by_cases hc:sl+d≤f
 ·obtain⟨N,J,C⟩:=h.1 hc
  refine⟨_,_,?_,dT w (fL w.heap b (sl*cg P e) xs),C⟩;cases b with
  |none=>
   have c:=hx w rfl;rw[j]at c;rcases k with⟨s,hd⟩|hd<;>(simp[dS,aB (dJ E),aB hd,sizeOf,cV hi,g,hc,c];rfl)
  |some a=>
   have n:=GY (P:=P) J N;have c:=hx w rfl;rw[j]at n c;rcases k with⟨s,hd⟩|hd<;>(simp[dS,aB (dJ E),aB hd,sizeOf,cV hi,g,hc,c,n,fL,j])
 ·obtain⟨old,z,I,L,B,G,C⟩:=h.2 (by omega)
  obtain⟨v,H,F⟩:=kU L;obtain⟨Q,p,O⟩:=sQ H;rw[hi]at p;cases p;rw[D]at B G;have o:¬i.bytes=0:=by omega
  have q:¬(281474976710656<mS (sl+d) f*i.bytes):=by omega
  have c:=hx w.drew rfl;have m:(fl (cg P e) sl (.slice b sl f)).run P w.drew=.ok old.toArray w.drew:=Am I;rw[j]at c m;have y:sl+d≤(Question.appendCap (sl+d) f e).cut (w.tape w.drawn (.appendCap (sl+d) f e)):=Nat.le_add_right _ _;refine⟨_,jP w.drew (hnew w.heap (old++xs++dw ((Question.appendCap (sl+d) f e).cut (w.tape w.drawn (.appendCap (sl+d) f e))-(sl+d)) z) e),?_,⟨rfl,rfl,rfl⟩,C _ y⟩
  have A:(iL v.cells ((Question.appendCap (sl+d) f e).cut (w.tape w.drawn (.appendCap (sl+d) f e))-(sl+d)))=(dw ((Question.appendCap (sl+d) f e).cut (w.tape w.drawn (.appendCap (sl+d) f e))-(sl+d)) z).toArray:=by
   apply cQ;rw[kz,F]
  rcases k with⟨s,hd⟩|hd<;>(simp[dS,aB (dJ E),aB hd,sizeOf,cV hi,g,hc,o,q,Question.forced,c,m,fo H,lq,A,aH];rfl)
theorem Hz{t:TypeId}{K:Prop}(h:Vy P t K):∃i,P.info? t=some i:=by
 unfold Vy at h;cases hi:P.info? t with
 |none=>rw[hi]at h;exact h.elim
 |some i=>exact⟨i,rfl⟩
theorem CW{t:TypeId}(h:cg P t≠0):∃i,P.info? t=some i:=by
 cases hi:P.info? t with
 |none=>exact absurd (by simp[cg,hi]) h
 |some i=>exact⟨i,rfl⟩
theorem Fs{size n:Nat}{x:ByteArray}{w:World}:(fl size n (.string x)).run P w=.ok ((cL x).take n).toArray w:=by
 simp only[fl,bQ];congr 1
 apply cQ;simp[cL,gB,gN,←List.map_take]
theorem AY{t u ty:TypeId}{s x:Value}{K:WK}{w:World}(c:(∃e',P.underlying u=some (.slice e'))∨P.underlying u=some .string)(h:Gj P t s x K w.heap):
  Wv P (dS #[t,u] ty #[s,x]) K w:=by
 unfold Gj at h;split at h
 ·rename_i e b sl sc a xl xc ht
  have hi:=Hz h;obtain⟨⟨xs,d,f⟩,i⟩:=qt h;exact Ii ht c (fun w=>rfl) (fun w' g=>Am (by rw[g];exact d)) hi f
 ·rename_i e b sl sc x ht
  cases hb:az (cg P e) 1 with
  |false=>rw[hb]at h;exact h.elim
  |true=>
   rw[hb]at h;have j:=bd hb;have k:(cL x).length=x.size:=by simp[cL]
   refine Ii ht c (fun w=>rfl) (fun w' _=>?_) (CW (by omega)) h
   rw[Fs,bG (by omega)]
 ·exact h.elim
theorem D7{n:Int}(b:0≤n)(a:n≤9223372036854775807):IntKind.i64.wrap n=n:=IntWalk.i64_in n ⟨by omega,a⟩
theorem Q3{t e u ty:TypeId}{b:Option Addr}{sl d:Nat}{k0 k:IntKind}{l:Int}{z:List Value}{K:WK}{w:World}(y:yj P t=some e)(A:P.underlying u=some (.int k0))
  (T:rP P e=some z)(S:z.length=cg P e)(X:0≤l)(J:l*rY P e≤2^48)(W:l≤9223372036854775807)(h3:((sl+l.toNat:Nat):Int)≤9223372036854775807)
  (h:WD P e b sl d l.toNat (dw l.toNat z) K w.heap):Wv P (dS #[t,u] ty #[.slice b sl d,.int k l]) K w:=by
 obtain⟨v,E,H⟩:=kU T;obtain⟨i,hi,Z⟩:=sQ E;have j:cg P e=i.size:=by simp[cg,hi]
 have G:rY P e=i.bytes:=by simp[rY,hi]
 have x:IntKind.wrap .i64 l=l:=D7 X W;have f:¬l<0:=by omega
 rw[G]at J;have g:¬(281474976710656:Int)<l*i.bytes:=by omega
 have c:∀w':World,(asInt (.int k l)).run P w'=.ok l w':=fun w'=>rfl
 have D:(iL v.cells l.toNat)=(dw l.toNat z).toArray:=by apply cQ;rw[kz,H]
 have q:l.toNat*i.size=0→dw l.toNat z= []:=fun R=>by
  have B:(dw l.toNat z).length=l.toNat*i.size:=by rw[←j,←S];unfold dw;simp
  exact bp.1 (by rw[B,R])
 by_cases hc:sl+l.toNat≤d
 ·obtain⟨L,J,I⟩:=h.1 hc
  refine⟨_,_,?_,dT w (fL w.heap b (sl*cg P e) (dw l.toNat z)),I⟩;cases b with
  |none=>
   by_cases m:l.toNat*i.size=0
   ·simp[dS,aB (dJ y),aB A,sizeOf,cV hi,c,x,f,g,hc,m];rfl
   ·simp[dS,aB (dJ y),aB A,sizeOf,cV hi,c,x,f,g,hc,fo E];rfl
  |some a=>
   have n:=GY (P:=P) J L;rw[j]at n;by_cases m:l.toNat*i.size=0
   ·rw[q m]at n
    simp[dS,aB (dJ y),aB A,sizeOf,cV hi,c,x,f,g,hc,n,fL,j,m,q m]
   ·simp[dS,aB (dJ y),aB A,sizeOf,cV hi,c,x,f,g,hc,n,fL,j,m,fo E,D]
 ·obtain⟨old,z',V,C,Q,N,I⟩:=h.2 (by omega)
  rw[T]at C;cases C;rw[G]at Q N;have U:¬i.bytes=0:=by omega
  have o:¬(281474976710656<mS (sl+l.toNat) d*i.bytes):=by omega
  have Y:¬(9223372036854775807:Int)<((sl:Int)+(l.toNat:Int)):=by omega
  have p:¬(9223372036854775807:Int)<((sl:Int)+max l 0):=by omega
  have s:(fl (cg P e) sl (.slice b sl d)).run P w.drew=.ok old.toArray w.drew:=Am V;rw[j]at s;have O:sl+l.toNat≤(Question.appendCap (sl+l.toNat) d e).cut (w.tape w.drawn (.appendCap (sl+l.toNat) d e)):=Nat.le_add_right _ _;refine⟨_,jP w.drew (hnew w.heap (old++dw l.toNat z++dw ((Question.appendCap (sl+l.toNat) d e).cut (w.tape w.drawn (.appendCap (sl+l.toNat) d e))-(sl+l.toNat)) z) e),?_,⟨rfl,rfl,rfl⟩,I _ O⟩
  have F:(iL v.cells ((Question.appendCap (sl+l.toNat) d e).cut (w.tape w.drawn (.appendCap (sl+l.toNat) d e))-(sl+l.toNat)))=(dw ((Question.appendCap (sl+l.toNat) d e).cut (w.tape w.drawn (.appendCap (sl+l.toNat) d e))-(sl+l.toNat)) z).toArray:=by
   apply cQ;rw[kz,H]
  by_cases m:l.toNat*i.size=0
  ·rw[q m]at I⊢
   simp[dS,aB (dJ y),aB A,sizeOf,cV hi,c,x,f,g,hc,p,o,Question.forced,s,fo E,lq,F,aH,m];rfl
  ·simp[dS,aB (dJ y),aB A,sizeOf,cV hi,c,x,f,g,hc,p,o,Question.forced,s,fo E,lq,F,aH,m,D];rfl
theorem GK{t u ty:TypeId}{k0:IntKind}{s x:Value}{K:WK}{w:World}(i:P.underlying u=some (.int k0))(h:GL P t s x K w.heap):
  Wv P (dS #[t,u] ty #[s,x]) K w:=by
 unfold GL at h;split at h
 ·rename_i e b sl sc k l ht
  split at h
  ·rename_i z hz
   cases hb:az z.length (cg P e)with
   |false=>rw[hb]at h;exact h.elim
   |true=>
    rw[hb]at h;obtain⟨⟨f,d,c,g⟩,a⟩:=h;exact Q3 ht i hz (bd hb) f d c g a
  ·exact h.elim
 ·exact h.elim
theorem m8:∀{a b:List Value},cx a=true→cx b=true→cx (a++b)=true
 | [],_,_,h=>h
 |v::a,b,h,k=>by
  simp only[cx,fA,aJ]at h⊢;exact⟨h.1,m8 h.2 k⟩
theorem CG{z:List Value}(h:cx z=true):∀n,cx (dw n z)=true
 |0=>rfl
 |n+1=>by
  have:dw (n+1) z=z++dw n z:=by simp[dw,List.replicate_succ]
  rw[this];exact m8 h (CG h n)
theorem K9{t ty:TypeId}{x:Value}{K:WK}{w:World}(h:PA P t x K w.heap):Wv P (uv #[t] ty #[x]) K w:=by
 unfold PA at h;split at h
 ·rename_i e a n c ht
  split at h
  ·rename_i z hz
   obtain⟨v,g,f⟩:=kU hz;cases ho:cx z with
   |false=>rw[ho]at h;exact h.elim
   |true=>
    rw[ho]at h;obtain⟨j,i⟩:=h;refine⟨_,_,?_,dT w (fL w.heap a 0 (dw n z)),i⟩;cases a with
    |none=>simp[uv,aB (dJ ht)];rfl
    |some a=>
     cases n with
     |zero=>simp[uv,aB (dJ ht)];rfl
     |succ n=>
      have b:=GY (P:=P) (CG ho (n+1)) j;rw[←vT,Ik]at b;have d:(iL v.cells (n+1)).toList=dw (n+1) z:=by rw[kz,f]
      simp[uv,aB (dJ ht),fo g,d,b,fL]
  ·exact h.elim
 ·exact h.elim
theorem CH:∀(xs:List Value) (n:Nat),cx xs=true→cx (xs.take n)=true
 | [],n,_=>by simp[cx]
 |x::xs,0,_=>by simp[cx]
 |x::xs,n+1,h=>by
  simp only[cx,aJ,List.take_succ_cons]at h⊢;exact⟨h.1,CH xs n h.2⟩
theorem IX(x:ByteArray):cx (cL x)=true:=by
 have:∀l:List UInt8,cx (l.map fun b=>.int .u8 (b.toNat:Int))=true:=by
  intro l;induction l with
  |nil=>rfl
  |cons b l ih=>simp[cx,ih]
 exact this _
theorem MS{t u ty:TypeId}{d s:Value}{K:WK}{w:World}(h:UC P t d s K w.heap):Wv P (qY #[t,u] ty #[d,s]) K w:=by
 unfold UC at h;split at h
 ·rename_i e b dl dc a sl sc ht
  obtain⟨⟨xs,o,n,p,k⟩,g⟩:=qt h;refine⟨_,_,?_,dT w (fL w.heap b 0 xs),k⟩;have j:=Am (P:=P) (len:=sl) (cap:=sc) o;cases b with
  |none=>simp[qY,aB (dJ ht),qX,g,j,goInt];rfl
  |some c=>
   have f:=GY (P:=P) (m:=0) p n;simp only[Addr.add,if_pos]at f;simp[qY,aB (dJ ht),qX,g,j,goInt,f,fL]
 ·rename_i e b dl dc x ht
  cases hb:az (cg P e) 1 with
  |false=>rw[hb]at h;exact h.elim
  |true=>
   rw[hb]at h;have p:=bd hb;obtain⟨i,hi⟩:=CW (P:=P) (t:=e) (by omega);have g:(sizeOf e).run P w=.ok (cg P e) w:=by simp[sizeOf,cV hi,cg,hi]
   obtain⟨n,k⟩:=h;have v:(cL x).length=x.size:=by simp[cL]
   have q:(cL x).take (dQ x.size dl)=(cL x).take dl:=by
    by_cases hx:x.size≤dl
    ·rw[show dQ x.size dl=x.size from Nat.min_eq_left hx,bG (by omega),bG (by omega)]
    ·rw[show dQ x.size dl=dl from Nat.min_eq_right (by omega)]
   have j:(fl (cg P e) (dQ x.size dl) (.string x)).run P w=.ok ((cL x).take dl).toArray w:=by
    rw[Fs,q]
   refine⟨_,_,?_,dT w (fL w.heap b 0 ((cL x).take dl)),k⟩;cases b with
   |none=>simp[qY,aB (dJ ht),qX,g,j,goInt];rfl
   |some c=>
    have f:=GY (P:=P) (m:=0) (CH _ dl (IX x)) n;simp only[Addr.add,if_pos]at f;simp[qY,aB (dJ ht),qX,g,j,goInt,f,fL]
 ·exact h.elim
theorem RS(k v:Value)(a:Nat):∀(es:List MapEntry),(match es.findIdx? (fun e=>gk k e.key)with
  |some i=>(es.modify i (fun e=>{e with key:=k,val:=v}),a)
  |none=>(es++ [{key:=k,val:=v,born:=a}],a+1))=Lx k v a es
 | []=>rfl
 |e::es=>by
  have b:=RS k v a es;simp only[Lx,List.findIdx?_cons];cases hk:gk k e.key with
  |true=>simp[List.modify]
  |false=>
   simp only[dy,if_false];rw[←b];cases hf:es.findIdx? (fun e=>gk k e.key)with
   |none=>simp
   |some i=>simp[List.modify]
theorem zj{d:TypeDesc}{c:CK}(hd:pQ d c)(x:c.den):∀(es:List MapEntry) (i:Nat),keysOf c es→
  oC d (c.enc x) es i=some (match es.findIdx? (fun e=>gk (c.enc x) e.key)with
   |some j=>(es[j]?).map fun e=>(i+j,e.val)
   |none=>none)
 | [],i,_=>rfl
 |e::es,i,h=>by
  obtain⟨y,g⟩:=h e (by simp);have b:=E3 hd x y;rw[←g]at b;have k:=zj hd x es (i+1) fun f a=>h f (by simp[a])
  simp only[oC,List.findIdx?_cons,b];cases hb:gk (c.enc x) e.key with
  |true=>simp
  |false=>
   simp only[dy,if_false];rw[k];cases hf:es.findIdx? (fun e=>gk (c.enc x) e.key)with
   |none=>simp
   |some j=>simp[Nat.add_assoc,Nat.add_comm 1 j]
theorem yl{a b:ByteArray}(h:(a==b)=true):a=b:=by
 cases a with|mk a=>cases b with|mk b=>
 have h:(a==b)=true:=h;rw[eq_of_beq h]
theorem zQ(a:ByteArray):(a==a)=true:=by
 cases a with|mk a=>
 exact beq_self_eq_true a
theorem Ll{d:TypeDesc}{c:CK}(hd:pQ d c)(x y:c.den)(h:gk (c.enc x) (c.enc y)=true):Instr.sameBits 10000 (c.enc y) (c.enc x)=true:=by
 rcases hd with⟨i,rfl,rfl⟩|⟨rfl,rfl⟩|⟨rfl,rfl⟩
 ·have h:x=y:=eq_of_beq (α:=Int) h
  subst h;have:∀n:Int,(i==i&&n==n)=true:=fun n=>by simp
  exact this x
 ·have h:x=y:=yl h
  subst h;exact zQ x
 ·have h:x=y:=eq_of_beq (α:=Bool) h
  subst h;exact beq_self_eq_true (α:=Bool) x
theorem xx{w:World}{r:Nat}{es:Array MapEntry}{a:Nat}{o:Obj}(h:w.heap[r]? =some (.map es a)):(setObj r o).run P w=.ok () (jP w (w.heap.setIfInBounds r o)):=by
 simp only[setObj,oK,h];rfl
theorem Qo{t k e:TypeId}{d:TypeDesc}{c:CK}(B:P.underlying t=some (.map k e))(p:P.underlying k=some d)(hd:pQ d c){r:Nat}{x:c.den}{v:Value}{w:World}(hm:zR c w.heap r):
  (Instr.mapUpdate t (.map (some r)) (c.enc x) v).run P w=.ok () (jP w (m9 w.heap r (c.enc x) v)):=by
 obtain⟨es,a,j,f⟩:=hm;obtain⟨q,z,b,C⟩:=xE (P:=P) hd p x f w;rw[zj hd x es.toList 0 f]at b;have g:=RS (c.enc x) v a es.toList;have m:m9 w.heap r (c.enc x) v=w.heap.setIfInBounds r (.map (Lx (c.enc x) v a es.toList).1.toArray (Lx (c.enc x) v a es.toList).2):=by
  simp only[m9,j]
 rw[m,←g];simp only[Instr.mapUpdate,aW,aB B,aC,mD j,ot hd p,z];cases hf:es.toList.findIdx? (fun e=>gk (c.enc x) e.key)with
 |none=>
  rw[hf]at b;simp only[bq.injEq]at b;subst b;simp only[xx j];congr 4
  apply cQ;simp
 |some i=>
  rw[hf]at b;simp only[bq.injEq]at b;obtain⟨hi,s,_⟩:=List.findIdx?_eq_some_iff_getElem.1 hf;have u:es.toList[i]? =some es.toList[i]:=ah hi;rw[u]at b;simp only[lL,aR]at b;subst b;have n:es[i]? =some es.toList[i]:=by rw[←bv];exact u
  obtain⟨y,A⟩:=f es.toList[i] (List.getElem_mem hi);have o:Instr.sameBits 10000 (es.toList[i]).key (c.enc x)=true:=by
   rw[A]at s⊢;exact Ll hd x y s
  simp only[n,lL,Option.getD_some,Instr.keyThatStays,o,if_true,aW,bQ,aC,xx j];congr 4
  apply cQ;simp
theorem AX{t:TypeId}{m k v:Value}{K:WK}{w:World}(h:Gi P t m k v K w.heap):Wu P (Instr.mapUpdate t m k v) K w:=by
 unfold Gi at h;split at h
 ·rename_i c e m hc
  obtain⟨i,d,f,a,hd⟩:=y9 hc;obtain⟨g,rfl,r,rfl,hm,b⟩:=CK.dec_sound h;exact⟨_,Qo f a hd hm,dT _ _,b⟩
 ·exact h.elim
theorem Ot(k:Value):∀(es:List MapEntry),(match es.findIdx? (fun e=>gk k e.key)with
  |some i=>es.eraseIdx i
  |none=>es)=H1 k es
 | []=>rfl
 |e::es=>by
  have a:=Ot k es;simp only[H1,List.findIdx?_cons];cases hk:gk k e.key with
  |true=>simp
  |false=>
   simp only[dy,if_false];rw[←a];cases hf:es.findIdx? (fun e=>gk k e.key)<;>simp
theorem NZ{t k e ty:TypeId}{ts:Array TypeId}{d:TypeDesc}{c:CK}(v:ts[0]? =some t) (y:P.underlying t=some (.map k e)) (p:P.underlying k=some d) (hd:pQ d c) {r:Nat} {x:c.den} {w:World} (hm:zR c w.heap r):
  (sq ts ty #[.map (some r),c.enc x]).run P w=.ok (.tuple #[]) (jP w (Hn w.heap r (c.enc x))):=by
 obtain⟨es,g,m,j⟩:=hm;obtain⟨q,s,a,A⟩:=xE (P:=P) hd p x j w;rw[zj hd x es.toList 0 j]at a;have f:=Ot (c.enc x) es.toList;have n:Hn w.heap r (c.enc x)=w.heap.setIfInBounds r (.map (H1 (c.enc x) es.toList).toArray g):=by
  simp only[Hn,m]
 rw[n,←f];simp only[sq,v,List.getElem?_toArray,List.getElem?_cons_zero,List.getElem?_cons_succ,aW,aB y,aC,mD m,ot hd p,s];cases hf:es.toList.findIdx? (fun e=>gk (c.enc x) e.key)with
 |none=>
  rw[hf]at a;simp only[bq.injEq]at a;subst a;simp[xx m]
 |some i=>
  rw[hf]at a;simp only[bq.injEq]at a;obtain⟨hi,z,_⟩:=List.findIdx?_eq_some_iff_getElem.1 hf;have u:es.toList[i]? =some es.toList[i]:=ah hi;rw[u]at a;simp only[lL,aR]at a;subst a;have o:i<es.size:=by simpa using hi
  have b:es.eraseIdxIfInBounds i=(es.toList.eraseIdx i).toArray:=by
   apply cQ;simp[Array.eraseIdxIfInBounds,o]
  simp[xx m,b]
theorem GI{t ty:TypeId}{ts:Array TypeId}{m k:Value}{K:WK}{w:World}(f:ts[0]? =some t) (h:GJ P t m k K w.heap):Wv P (sq ts ty #[m,k]) K w:=by
 unfold GJ at h;split at h
 ·rename_i c e m hc
  obtain⟨j,d,g,b,hd⟩:=y9 hc;obtain⟨i,rfl,h⟩:=CK.dec_sound h;rcases h with⟨rfl,a⟩|⟨r,rfl,hm,a⟩
  ·refine⟨_,w,?_,Tame.refl w,a⟩
   simp[sq,f,aB g,ot hd b]
  ·exact⟨_,_,NZ f g b hd hm,dT _ _,a⟩
 ·exact h.elim
theorem S6{t k e:TypeId}(b:P.underlying t=some (.map k e)){m:Option Nat}{a:Nat}{w:World}(hm:m=none∧a=0∨∃r es,m=some r∧w.heap[r]? =some (.map es a)):
  (vD t (.map m)).run P w=.ok (.pointer (some (aH w.heap))) (jP w (w.heap.push (.mapIter m a #[] a))):=by
 rcases hm with⟨rfl,rfl⟩|⟨r,es,rfl,c⟩
 ·simp only[vD,aW,aB b,aC,bQ,BC,aH]
 ·simp only[vD,aW,aB b,aC,bQ,mD c,BC,aH]
theorem P3{t:TypeId}(a:P.underlying t=some .string){s:ByteArray}{w:World}:
  (vD t (.string s)).run P w=.ok (.pointer (some (aH w.heap))) (jP w (w.heap.push (.stringIter s 0))):=by
 simp only[vD,aW,aB a,aC,bQ,BC,aH]
theorem yU{w:World}{i:Nat}{m:Option Nat}{a:Nat}{b:Array Nat}{last:Nat}(h:w.heap[i]? =some (.mapIter m a b last)):(getObj i).run P w=.ok (.mapIter m a b last) w:=by
 simp only[getObj,oK,h]
theorem Nn{w:World}{i:Nat}{m:Option Nat}{a:Nat}{b:Array Nat}{last:Nat}{o:Obj}(h:w.heap[i]? =some (.mapIter m a b last)):(setObj i o).run P w=.ok () (jP w (w.heap.setIfInBounds i o)):=by
 simp only[setObj,oK,h];rfl
theorem Ia(n:Nat)(a:0<n)(w:World):∃k w',k<n∧(choose (.mapNext n)).run P w=.ok k w'∧Tame w w'∧w'.heap=w.heap:=by
 unfold choose;simp only[oK];by_cases h:(Question.mapNext n).forced=true
 ·exact⟨0,w,a,by rw[if_pos h],Tame.refl w,rfl⟩
 ·refine⟨(Question.mapNext n).cut (w.tape w.drawn (.mapNext n)),{w with drawn:=w.drawn+1},Nat.mod_lt _ a,by rw[if_neg h],⟨rfl,rfl,rfl⟩,rfl⟩
theorem MR{N:Value}{t:TypeId}{K:WK}{w:World}(h:UB N K w.heap):Wv P (qM N false t) K w:=by
 unfold UB at h;split at h
 ·rename_i a
  obtain⟨I,m,j,f,last,hi,h⟩:=h;obtain⟨b,off,L⟩:=a;simp only at I hi h;subst I;rcases h with⟨rfl,Q⟩|⟨r,es,v,rfl,J,z,A,H⟩
  ·exact⟨_,w,by simp only[qM,aW,yU hi,aC,bQ],Tame.refl w,Q⟩
  ·have s:(!f.isEmpty&& !es.isEmpty&&es.all (fun e=>decide (e.born≥last)))=false:=by
    rcases z with h|h|h<;>simp[h]
   obtain⟨left,i⟩:∃left,left=es.filter fun e=> !f.contains e.born:=⟨_,rfl⟩
   obtain⟨old,p⟩:∃old,old=left.filter (·.born<j):=⟨_,rfl⟩
   obtain⟨new,hnew⟩:∃new,new=left.filter (·.born≥j):=⟨_,rfl⟩
   obtain⟨d,g⟩:∃d:Array (Option MapEntry),d=(if old.isEmpty then #[none]else #[])++(old++new).map some:=⟨_,rfl⟩
   have C:0<d.size:=by
    rw[g];by_cases y:old.isEmpty=true
    ·simp[y];omega
    ·have:old.size≠0:=by simpa using y
     simp[y];omega
   obtain⟨k,D,R,u,O,E⟩:=Ia (P:=P) d.size C w;obtain⟨c,hc⟩:∃c,d[k]? =some c:=⟨d[k],Array.getElem?_eq_getElem R⟩;have G:D.heap[b]? =some (.mapIter (some r) j f last):=by rw[E];exact hi
   have n:(!f.isEmpty&& !es.isEmpty&&es.all fun x=>decide (x.born≥last))=false:=s
   cases c with
   |none=>
    refine⟨.tuple #[.bool false],D,?_,O,?_⟩
    ·simp only[qM,aW,yU hi,aC,bQ,mD J,n,dy,if_false,←i,←p,←hnew,←g,u,hc]
    ·rw[E]
     have q:old.isEmpty=true:=by
      have hm:none∈d:=qn hc;rw[g]at hm;by_cases y:old.isEmpty=true
      ·exact y
      ·simp[y]at hm
     refine A fun e S F=>?_
     cases hs:f.contains e.born with
     |true=>rfl
     |false=>
      have o:e∈old:=by
       rw[p,i];simp only[qN];exact⟨⟨by simpa using S,by rw[hs];rfl⟩,by simpa using F⟩
      rw[Array.isEmpty_iff]at q;rw[q]at o;simp at o
   |some e=>
    have o:e∈es∧f.contains e.born=false:=by
     have hm:some e∈d:=qn hc;have B:e∈left:=by
      rw[g]at hm;rw[Array.mem_append]at hm;rcases hm with hm|hm
      ·split at hm<;>simp at hm
      ·simp only[Array.mem_map,bq.injEq,exists_eq_right,Array.mem_append]at hm
       rcases hm with hm|hm
       ·rw[p]at hm;exact(qN.1 hm).1
       ·rw[hnew]at hm;exact(qN.1 hm).1
     rw[i]at B;have:=qN.1 B;exact⟨this.1,by simpa using this.2⟩
    refine⟨.tuple #[.bool true,e.key,e.val],jP D (D.heap.setIfInBounds b (.mapIter (some r) j (f.push e.born) v)),?_,O.trans (dT _ _),?_⟩
    ·simp only[qM,aW,yU hi,aC,bQ,mD J,n,dy,if_false,←i,←p,←hnew,←g,u,hc,Nn G]
    ·rw[E]
     exact H e (by simpa using o.1) o.2
 ·exact h.elim
theorem K8{k:Value}{t:TypeId}{K:WK}{w:World}(h:Pz k K w.heap):Wv P (qM k true t) K w:=by
 unfold Pz at h;split at h
 ·rename_i a
  obtain⟨m,s,pos,hi,h⟩:=h;obtain⟨b,off,i⟩:=a;simp only at m hi h;subst m;have j:(getObj b).run P w=.ok (.stringIter s pos) w:=by simp only[getObj,oK,hi]
  rcases h with⟨o,f⟩|⟨c,hc,g,f⟩
  ·exact⟨_,w,by simp only[qM,aW,j,aC,if_neg (jr.2 o),bQ],Tame.refl w,f⟩
  ·have d:pos<s.size:=by
    rcases Nat.lt_or_ge pos s.size with h'|h'
    ·exact h'
    ·rw[getElem?_neg s pos (jr.2 h')]at hc;cases hc
   have e:(s[pos]'d)=c:=by rw[getElem?_pos s pos d]at hc;exact bq.inj hc
   have hd:=decode_ascii s pos d (by rw[e];exact g);rw[e]at hd;have n:(setObj b (.stringIter s (pos+1))).run P w=.ok () (jP w (w.heap.setIfInBounds b (.stringIter s (pos+1)))):=by simp only[setObj,oK,hi];rfl
   exact⟨_,_,by simp only[qM,aW,j,aC,if_pos d,hd,n,bQ];rfl,dT _ _,f⟩
 ·exact h.elim
theorem KF{w:World}{g n:Nat}(a:n≠0):w.freeze ⟨g,0,none⟩ n=jP w (hfreeze w.heap g n):=by
 unfold World.freeze;rw[if_neg a];rfl
theorem MQ{t d ty:TypeId}{p n:Value}{K:WK}{w:World}(h:UA P t p n K w.heap):Wv P (Builtin.unsafeString_ #[t,d] ty #[p,n]) K w:=by
 unfold UA at h;split at h
 ·rename_i e a n hu
  cases hc:az (P.cellsOf e) 1 with
  |false=>rw[hc]at h;exact h.elim
  |true=>
   rw[hc]at h;rcases h with⟨rfl,c⟩|⟨l,g,cs,rfl,rfl,b,k,f,i,hx,c⟩
   ·exact⟨_,w,Lib.run_unsafeString_none ..,Tame.refl w,c⟩
   ·refine⟨_,_,Lib.run_unsafeString_row w t d ty e hu (bd hc) g cs.size (by simp[World.shape?,f]) l b i k ?_,?_,?_⟩
    ·intro j x m
     have:=hx j x m;have e:((⟨g,0,none⟩:Addr).add j)=⟨g,j,none⟩:=by unfold Addr.add;split<;>simp_all
     rw[e];simp[World.cell?,f,this]
    ·rw[KF (by simpa using b)];exact dT _ _
    ·rw[KF (by simpa using b)];exact c
 ·exact h.elim
theorem IZ{t e:TypeId}{z:List Value}{k k':IntKind}{l c:Int}{w:World}(y:yj P t=some e)(C:rP P e=some z)(f:z.length=cg P e)(B:0≤l)(F:l≤c)(A:c≤9223372036854775807)(D:rY P e*c≤2^48):
  (Instr.makeSlice t (.int k l) (.int k' c)).run P w=.ok (.slice (some (aH w.heap)) l.toNat c.toNat) (jP w (hnew w.heap (dw c.toNat z) e)):=by
 obtain⟨v,x,g⟩:=kU C;obtain⟨i,hi,E⟩:=sQ x;have b:cg P e=i.size:=by simp[cg,hi]
 have o:rY P e=i.bytes:=by simp[rY,hi]
 have n:v.cells.size=i.size:=by rw[←b,←f,←g];simp
 have s:=D7 B (by omega);have hc:=D7 (show 0≤c by omega) A
 rw[o]at D;have c1:¬(c<0):=by omega
 have u:¬(281474976710656<(i.bytes:Int)*c):=by omega
 have p:¬(l<0):=by omega
 have q:¬(c<l):=by omega
 by_cases a:c.toNat*i.size=0
 ·have m:(dw c.toNat z).length=0:=by simp[dw,f,b,a]
  rw[bp.1 m];simp[Instr.makeSlice,aB (dJ y),asInt,asIntOf,cV hi,s,hc,c1,u,p,q,sizeOf,a,lq]
 ·have d:((Array.range (c.toNat*i.size)).map (fun j=>v.cells[j%v.cells.size]!))=(dw c.toNat z).toArray:=by
   rw[←n,Ry,g]
  have key:(newRow e ((Array.range (c.toNat*i.size)).map (fun j=>v.cells[j%v.cells.size]!))).run P w=.ok (aH w.heap) (jP w (hnew w.heap (dw c.toNat z) e)):=by
   rw[d,lq]
  simp[Instr.makeSlice,aB (dJ y),asInt,asIntOf,cV hi,s,hc,c1,u,p,q,sizeOf,a,fo x];rw[key];rfl
theorem Agree.args{N:Nat}{r:cJ}{a:Act}(h:Agree N r a){os:Array Operand}{vs:List Value}(b:oN r os.toList=some vs):os.map a.eval=vs.toArray:=by
 rw[←mZ h b];apply cQ;simp
theorem HC.out{f:FuncId}{args:List Value}{ks:List Kind}{K:WK}{w:World}(h:HC P f args ks (fun x h'=>K (CB ks (mN ks x)) h') w.heap):OL P (callFunc f args.toArray) K w:=by
 rcases h.run w rfl with⟨a,d⟩|⟨v,w',a,c,x,rfl,b⟩
 ·refine .inr (.inr (.inl ⟨f,args.toArray,a,d.mono ?_⟩))
  rintro e w' ⟨c,x,rfl,b⟩;exact⟨c,_,rfl,b⟩
 ·exact .inl ⟨_,w',a,c,b⟩
theorem TZ{a b e:TypeId}{s:ByteArray}{w:World}(g:P.underlying a=some .string)(hd:P.underlying b=some (.slice e))(k:P.underlying e=some (.int .u8)):
  ∃c,s.size≤c∧(convert a b (.string s)).run P w=.ok (.slice (some (aH w.heap)) s.size c) (jP w.drew (w.heap.push (.cells (cL s++bF (c-s.size) (Value.int .u8 0)).toArray e (c,c+1)))):=by
 have d:s.size≤grownCap w s.size 0 e:=Nat.le_add_right _ _;refine⟨_,d,?_⟩;rw[Go.Lib.run_convert_string_bytes w a b e s g hd k];have hc:(Go.Lib.bytesCells w e s).size=grownCap w s.size 0 e:=by
  unfold Go.Lib.bytesCells;rw[Array.size_append,Array.size_map,Array.size_replicate,show s.data.size=s.size from rfl]
  omega
 have f:(cL s++bF (grownCap w s.size 0 e-s.size) (Value.int .u8 0)).toArray=Go.Lib.bytesCells w e s:=by
  unfold Go.Lib.bytesCells cL;apply cQ;simp
 rw[f];unfold Go.Lib.bytesWorld World.freeze;rw[if_neg (by omega),hc];unfold World.alloc World.drew jP;congr 1
 congr 1
 apply Array.ext (by simp);intro i m j;rw[Array.getElem_modify];simp only[Array.getElem_push];split
 ·rename_i e
  subst e;simp
 ·rename_i e
  have hi:i<w.heap.size:=by simp at j;omega
  rw[dif_pos hi,dif_pos hi]
theorem D9{o:Oper}{r:cJ}{K:WK}{w:World}{N:Nat}{a:Act}(I:Agree N r a)(j:IR P o r K w.heap):OL P (execOp a.eval o) K w:=by
 have B:∀{x:Operand} {v:Value},dq r x=some v→a.eval x=v:=fun h=>kW I h
 obtain⟨X,op,type,pos,G,J⟩:=o;cases op with
 |alloc t=>
  simp only[IR]at j;split at j
  ·rename_i z hz
   obtain⟨v,E,Z⟩:=kU hz;have F:(Instr.alloc t true (.tuple #[])).run P w=.ok (.pointer (some (aH w.heap))) (jP w (hnew w.heap z t)):=by
    simp[Instr.alloc,fo E,newVar,lq,Z]
   exact Wv.out ⟨_,_,F,dT _ _,j⟩
  ·exact j.elim
 |box t x=>
  simp only[IR]at j;split at j
  ·rename_i v E
   have F:(Instr.box t v).run P w=.ok (.pointer (some (aH w.heap))) (jP w (hnew w.heap v.cells.toList t)):=by
    simp[Instr.box,newVar,lq]
   simp only[execOp,B E];exact Wv.out ⟨_,_,F,dT _ _,j⟩
  ·exact j.elim
 |build t ps=>
  simp only[IR]at j;split at j
  ·rename_i vs q
   split at j
   ·rename_i cs hcs
    have W:(ps.map fun x=>(x.1,a.eval x.2))=vs.toArray:=by
     rw[←pB I q];apply cQ;simp
    have F:=Db (ps:=vs.toArray) (by simpa using hcs) w;simp only[execOp];rw[show(ps.map fun(i,x)=>(i,a.eval x))=vs.toArray from W]
    exact Wv.out ⟨_,w,F,Tame.refl w,j⟩
   ·exact j.elim
  ·exact j.elim
 |buildSlice t n ps=>
  simp only[IR]at j;split at j
  ·rename_i e vs L q
   split at j
   ·rename_i z hz
    cases hb:(AD (n*cg P e) 16777216&&az z.length (cg P e))with
    |false=>rw[hb]at j;exact j.elim
    |true=>
     rw[hb]at j;simp only[aJ]at hb;simp only[cond_true]at j;split at j
     ·rename_i cs hcs
      have W:(ps.map fun x=>(x.1,a.eval x.2))=vs.toArray:=by
       rw[←pB I q];apply cQ;simp
      have F:=EE (ps:=vs.toArray) L hz (jA hb.1) (bd hb.2) (by simpa using hcs) w;simp only[execOp];rw[show(ps.map fun(i,x)=>(i,a.eval x))=vs.toArray from W]
      exact Wv.out ⟨_,_,F,dT _ _,j⟩
     ·exact j.elim
   ·exact j.elim
  ·exact j.elim
 |store t x y=>
  simp only[IR]at j;split at j
  ·rename_i b v hb E
   simp only[execOp,B hb,B E];exact Wu.out (K7 j)
  ·exact j.elim
 |mapUpdate t m k x=>
  simp only[IR]at j;split at j
  ·rename_i mv kv xv hm C hx
   simp only[execOp,B hm,B C,B hx];exact Wu.out (AX j)
  ·exact j.elim
 |insert t m k x=>
  simp only[IR]at j;split at j
  ·rename_i mv kv xv hm C hx
   simp only[execOp,B hm,B C,B hx];exact Wu.out (AX j)
  ·exact j.elim
 |makeMap t n=>
  simp only[IR]at j;cases n with
  |none=>exact Wv.out ⟨_,jP w (w.heap.push (.map #[] 0)),by simp[Instr.makeMap];rfl,dT _ _,j⟩
  |some n=>
   simp only at j;split at j
   ·rename_i k i hn L
    exact Wv.out ⟨_,jP w (w.heap.push (.map #[] 0)),by simp[Instr.makeMap,B hn,aB L,asInt,asIntOf];rfl,dT _ _,j⟩
   ·exact j.elim
 |makeSlice t l c=>
  simp only[IR]at j;split at j
  ·rename_i e k l' k' c' L U hc
   split at j
   ·rename_i z hz
    cases hb:az z.length (cg P e)with
    |false=>rw[hb]at j;exact j.elim
    |true=>
     rw[hb]at j;obtain⟨⟨h0,S,R,h3⟩,j⟩:=j;simp only[execOp,B U,B hc];exact Wv.out ⟨_,_,IZ L hz (bd hb) h0 S R h3,dT _ _,j⟩
   ·exact j.elim
  ·exact j.elim
 |convert s d x=>
  simp only[IR]at j;split at j
  ·rename_i e v Y hd hx
   cases hu:Qu P e with
   |false=>rw[hu]at j;exact j.elim
   |true=>
    rw[hu]at j;obtain⟨c,hc,O⟩:=TZ (w:=w) (s:=v) Y hd (Hy hu);simp only[execOp,B hx];exact Wv.out ⟨_,_,O,⟨rfl,rfl,rfl⟩,j c hc⟩
  ·exact j.elim
 |range t x=>
  simp only[IR]at j;split at j
  ·rename_i k e m hu hx
   obtain⟨T,hm,j⟩:=j;simp only[execOp,B hx];exact Wv.out ⟨_,_,S6 hu hm,dT _ _,j⟩
  ·rename_i s hu hx
   simp only[execOp,B hx];exact Wv.out ⟨_,_,P3 hu,dT _ _,j⟩
  ·exact j.elim
 |next it isS=>
  cases isS with
  |true=>
   simp only[IR]at j;split at j
   ·rename_i v E
    simp only[execOp,B E];exact Wv.out (K8 j)
   ·exact j.elim
  |false=>
   simp only[IR]at j;split at j
   ·rename_i v E
    simp only[execOp,B E];exact Wv.out (MR j)
   ·exact j.elim
 |call c=>
  simp only[IR]at j;have Q:∀{b:Builtin} {vs:List Value},c.callee=.builtin b→oN r c.args.toList=some vs→∃cs:Array Bool,∀w,(execOp a.eval ⟨X,.call c,type,pos,G,J⟩).run P w=
    (builtin b c.argTypes type cs vs.toArray).run P w:=by
   intro b vs hc q;refine⟨c.args.map fun| .const _=>true|_=>false,fun w=>?_⟩
   simp[execOp,resolve,hc,I.args q,invoke];rfl
  have H:∀{s s':Sem Next},(∀w,s.run P w=s'.run P w)→OL P s' K w→OL P s K w:=by
   intro s s' F h;unfold OL at h⊢;simp only[F];exact h
  split at j
  ·rename_i s x hc q
   split at j
   ·rename_i t u hat
    obtain⟨cs,D⟩:=Q hc q;refine H D ?_;have A:c.argTypes= #[t,u]:=by apply cQ;rw[hat]
    simp only[builtin,A];split at j
    ·rename_i e' hu;exact Wv.out (AY (.inl ⟨e',hu⟩) j)
    ·rename_i hu;exact Wv.out (AY (.inr hu) j)
    ·rename_i k0 hu;exact Wv.out (GK hu j)
    ·exact j.elim
   ·exact j.elim
  ·rename_i x hc q
   split at j
   ·rename_i t hat
    obtain⟨cs,D⟩:=Q hc q;refine H D ?_;have A:c.argTypes= #[t]:=by apply cQ;rw[hat]
    simp only[builtin,A];exact Wv.out (K9 j)
   ·exact j.elim
  ·rename_i s x hc q
   split at j
   ·rename_i t u hat
    obtain⟨cs,D⟩:=Q hc q;refine H D ?_;have A:c.argTypes= #[t,u]:=by apply cQ;rw[hat]
    simp only[builtin,A];exact Wv.out (MS j)
   ·exact j.elim
  ·rename_i p n hc q
   split at j
   ·rename_i t u hat
    obtain⟨cs,D⟩:=Q hc q;refine H D ?_;have A:c.argTypes= #[t,u]:=by apply cQ;rw[hat]
    simp only[builtin,A];exact Wv.out (MQ j)
   ·exact j.elim
  ·rename_i m k hc q
   split at j
   ·rename_i t u hat
    obtain⟨cs,D⟩:=Q hc q;refine H D ?_;simp only[builtin];exact Wv.out (GI (by rw[←bv,hat];rfl) j)
   ·exact j.elim
  ·rename_i f args hc q
   unfold Yh at j;split at j
   ·exact j.elim
   ·rename_i ks hks
    split at j
    ·rename_i f
     refine H (s':=callFunc f args.toArray) (fun w=>?_) j.out
     simp[execOp,resolve,hc,I.args q,Act.eval,Deferred.ofValue,invoke]
    ·rename_i f hf
     split at j
     ·rename_i fv hfv
      rcases j.run with⟨g,first,cap,rfl,V⟩|⟨l,rfl,V⟩
      rotate_left
      ·obtain⟨fn,tmps,assign,body,S,R⟩:=V.run w rfl
       refine .inr (.inr (.inr ⟨l,fn,tmps,assign,body,?_,fun c cs=>?_⟩))
       ·rw[←S]
        simp[execOp,resolve,hc,I.args q,B hfv,Deferred.ofValue,invoke]
       ·obtain⟨b,w',L,C,Y⟩:=R c cs
        refine⟨b,w',L,?_,Y⟩;obtain⟨t,e,C⟩:=tV C;have U:ks.length=1:=by rw[←uP ks t,←e];rfl
        match ks,U,t,e,C with
        | [k],_,t,e,C=>rw[←e]at C;exact C
      refine H (s':=callFunc g (first.toList++args++cap.toList).toArray) (fun w=>?_) V.out
      have e:first++args.toArray++cap=(first.toList++args++cap.toList).toArray:=by apply cQ;simp
      rw[←e];simp[execOp,resolve,hc,I.args q,B hfv,Deferred.ofValue,invoke]
     ·exact j.elim
  ·exact j.elim
 |_=>simp only[IR]at j
end Go.Lift
