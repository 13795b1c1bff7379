/- A part of the proof that the named laws of this program answer true, whatever the input. -/
import Derived.Test.YtopdngagmfanlaaGreatDoorLift0
import Derived.Laws.Append
import Derived.Laws.Cover3
import Derived.Laws.StructEq
import Derived.Laws.BytesString
import Derived.Lib.UnsafeStr
import Derived.Laws.RangeString
import Derived.Lib.ConvBytes
open Array renaming ext'→cJ,getElem?_toList→aV,mem_of_getElem?→pC,mem_filter→p7
open Bool renaming and_eq_true→aX,false_eq_true→df
open ByteArray renaming data_extract→hE
open Go.Builtin renaming firstCells→eK,len_→kG,cap_→wL,zeroCells→gL,lenOf→qs,append_→dI,nextslicecap→lW,clear_→tK,copy_→qu,delete_→rA
open Go.Instr renaming sureAddr→lV,sliceBounds→fL,sliceAt→qr,sameNow→vh,findNow→nr,lookup→wJ,range→uJ,next→p6
open Go.Op renaming equalIn→fI
open Go.Result renaming andThen_ok→az
open Go.Sem renaming run_bind→aO,run_pure→bB,run→nG
open List renaming extract_eq_take_drop→fY,map_cons→cD,map_map→kD,take_of_length_le→bI,length_cons→aG,cons_append→mC,replicate→bO,length_eq_zero_iff→bJ,getElem?_eq_getElem→ag
open Nat renaming beq→av,ble→yR,eq_of_beq_eq_true→aS,le_of_ble_eq_true→iG,add_zero→jm,zero_add→aI,min→dF,not_lt→ir
open Option renaming some→bh,isSome_iff_exists→gt,map_some→nH
open Prod renaming mk→wH
open UInt8 renaming ofNat→cG
namespace Go.Lift
open Go
def TT(S:Option (ad→Prop))(h:ad):Prop:=match S with|none=>True|some f=>f h
def Yv(P:Program)(s:Sem Value)(K:RK)(h:ad):Prop:=∃v S,K v S∧TT S h∧∀w:World,TT S w.heap→s.run P w=.ok v w
theorem Yv.of_pure{P:Program}{s:Sem Value}{K:RK}{h:ad}{v:Value}(a:K v none)(b:∀w:World,s.run P w=.ok v w):Yv P s K h:=
 ⟨v,none,a,trivial,fun w _=>b w⟩
variable {P:Program}
theorem xI{t:TypeId}{f:Nat}{u:TypeId}{off:Nat}(h:xJ P t f=some (u,off)):
  ∃fs g,P.underlying t=some (.struct fs)∧fs[f]? =some g∧g.type=u∧g.offset=off:=by
 unfold xJ at h;split at h
 ·rename_i fs hu
  split at h
  ·rename_i g hg
   simp only[bh.injEq,wH.injEq]at h;exact⟨fs,g,hu,by simpa using hg,h.1,h.2⟩
  ·cases h
 ·cases h
theorem Ag{t:TypeId}(h:av (bT P t) 0=false)(w:World):(sizeOf t).run P w=.ok (bT P t) w:=by
 unfold bT at h⊢;cases hi:P.info? t with
 |none=>rw[hi]at h;cases h
 |some i=>simp[sizeOf,cP hi]
theorem Et{t:TypeId}{f:Nat}{u:TypeId}{off:Nat}{a:Addr}{K:RK}{h:ad}(i:xJ P t f=some (u,off))
  (b:bif av (bT P u) 0 then False else K (.pointer (some (adr a off))) none):Yv P (Instr.fieldAt t (.pointer (some a)) f) K h:=by
 obtain⟨k,g,d,j,rfl,rfl⟩:=xI i;cases hz:av (bT P g.type) 0 with
 |true=>rw[hz]at b;exact b.elim
 |false=>
  rw[hz]at b;refine .of_pure b fun w=>?_
  have c:bT P g.type≠0:=fun e=>by rw[e]at hz;cases hz
  simp only[Instr.fieldAt,aO,ay d,az,j,lV,bB,fieldPlace,Ag hz];simp[c,uV]
theorem wD{t:TypeId}{i:TypeInfo}(_:P.info? t=some i)(a:∃d,P.underlying t=some d)(w:World):(isAgg t).run P w=.ok (wE P t) w:=by
 obtain⟨d,hd⟩:=a;simp only[isAgg,aO,ay hd,az];unfold wE;rw[hd];cases d<;>rfl
theorem Bc{op:BinOp}{k k':IntKind}{a b:Int}{K:RK}{h:ad}(f:op=.shl∨op=.shr)(e:Na op k a b K):Yv P (Op.shift op k a k' b) K h:=by
 rcases f with rfl|rfl
 ·obtain⟨c,d⟩:=e
  refine .of_pure d fun w=>?_
  simp[Op.shift,Int.not_lt.2 c]
 ·obtain⟨c,d⟩:=e
  refine .of_pure d fun w=>?_
  simp[Op.shift,Int.not_lt.2 c]
theorem NR{op:BinOp}{k:IntKind}{a b:Int}{K:RK}{h:ad}(c:VX op k a b K)(f:op≠ .shl∧op≠ .shr):Yv P (binOp op 0 (.int k a) (.int k b)) K h:=by
 cases op<;>simp only[VX]at c
 case quo=>obtain⟨d,e⟩:=c;exact .of_pure e fun w=>by simp[binOp,Op.intDiv,d]
 case rem=>obtain⟨d,e⟩:=c;exact .of_pure e fun w=>by simp[binOp,Op.intDiv,d]
 all_goals exact .of_pure c fun w=>by simp[binOp,Op.intArith,Op.intBits,Op.intCmp]
theorem GD(op:BinOp)(t:TypeId)(k k':IntKind)(a b:Int):binOp op t (.int k a) (.int k' b)=binOp op 0 (.int k a) (.int k' b):=by
 cases op<;>rfl
theorem M7{op:BinOp}{t:TypeId}{a b:ByteArray}{K:RK}{h:ad}(c:VG op a b K):Yv P (binOp op t (.string a) (.string b)) K h:=by
 cases op<;>simp only[VG]at c
 case add=>
  obtain⟨e,d⟩:=c;refine .of_pure d fun w=>?_
  have:¬(((a.size+b.size:Nat):Int)>IntKind.i64.max):=by
   have:IntKind.i64.max=9223372036854775807:=by decide
   omega
  simp only[binOp,Op.stringOp,if_neg this,bB]
 all_goals exact .of_pure c fun w=>by simp[binOp,Op.stringOp]
theorem jh{t:TypeId}{x y:Value}{b:Bool}{w:World}(h:∀d,(fI (d+1) t x y).run P w=.ok b w):(Op.equal t x y).run P w=.ok b w:=h 9999
theorem Gj{t:TypeId}{e:TypeId}(b:P.underlying t=some (.pointer e))(a:Option Addr)(w:World):(Op.equal t (.pointer a) (.pointer none)).run P w=.ok a.isNone w:=by
 refine jh fun d=>?_
 simp only[fI,aO,ay b,az];cases a<;>rfl
theorem N7(op:BinOp)(t:TypeId)(x y:Operand)(a b:Value)(h:∀c d,a=.agg c→b=.agg d→False)(hi:a=.nilIface→b=.nilIface→False)(w:World):
  (eqGuard op t x y a b).run P w=.ok () w:=by
 cases op;case eql=>cases a<;>cases b<;>first|rfl|exact(hi rfl rfl).elim|exact(h _ _ rfl rfl).elim
 case neq=>cases a<;>cases b<;>first|rfl|exact(hi rfl rfl).elim|exact(h _ _ rfl rfl).elim
 all_goals rfl
theorem QJ(t:TypeId)(x y:Value)(hx:∀k a,x≠ .int k a)(c:∀s,x≠ .string s)(d:∀k a,x≠ .float k a)(hc:∀k a b,x≠ .complex k a b):binOp .eql t x y=(do pure (.bool (←Op.equal t x y))):=by
 cases x<;>first|rfl|exact absurd rfl (hx _ _)|exact absurd rfl (c _)|exact absurd rfl (d _ _)|exact absurd rfl (hc _ _ _)
theorem QI(t:TypeId)(x y:Value)(hx:∀k a,x≠ .int k a)(c:∀s,x≠ .string s)(d:∀k a,x≠ .float k a)(hc:∀k a b,x≠ .complex k a b):binOp .neq t x y=(do pure (.bool (!(←Op.equal t x y)))):=by
 cases x<;>first|rfl|exact absurd rfl (hx _ _)|exact absurd rfl (c _)|exact absurd rfl (d _ _)|exact absurd rfl (hc _ _ _)
theorem ji{t:TypeId}{neg:Bool}{x y:Value}{b:Bool}{w:World}(d:(Op.equal t x y).run P w=.ok b w)
  (hx:∀k a,x≠ .int k a)(c:∀s,x≠ .string s)(e:∀k a,x≠ .float k a)(hc:∀k a b,x≠ .complex k a b):
  (binOp (bif neg then .neq else .eql) t x y).run P w=.ok (.bool (bif neg then !b else b)) w:=by
 cases neg
 ·simp only[cond_false,QJ t x y hx c e hc,aO,d,az,bB]
 ·simp only[cond_true,QI t x y hx c e hc,aO,d,az,bB]
theorem NQ{x:Value}(h:VW x=true):(∃f a b,x=.func f a b)∨x=.nilFunc:=by
 cases x<;>first|exact .inr rfl|exact .inl ⟨_,_,_,rfl⟩|cases h
theorem NP{x:Value}(h:UC x=true):(∃t v,x=.iface t v)∨x=.nilIface:=by
 cases x<;>first|exact .inr rfl|exact .inl ⟨_,_,rfl⟩|cases h
theorem JQ{y:Operand}(h:SF y=true):∃c,y=.const c:=by
 cases y<;>first|exact⟨_,rfl⟩|cases h
theorem L7(op:BinOp)(t:TypeId)(x:Operand)(c a b:Value)(h:∀c d,a=.agg c→b=.agg d→False)(w:World):
  (eqGuard op t x (.const c) a b).run P w=.ok () w:=by
 cases op;case eql=>cases a<;>cases b<;>first|rfl|exact(h _ _ rfl rfl).elim|(cases x<;>rfl)
 case neq=>cases a<;>cases b<;>first|rfl|exact(h _ _ rfl rfl).elim|(cases x<;>rfl)
 all_goals rfl
theorem FP{t:TypeId}{neg:Bool}{x y:Value}{K:RK}{h:ad}(g:Us P t neg x y K):
  (∀c d,x=.agg c→y=.agg d→False)∧Yv P (binOp (bif neg then .neq else .eql) t x y) K h:=by
 unfold Us at g;split at g
 ·rename_i e a hu
  refine⟨nofun,.of_pure g fun w=>?_⟩
  exact ji (Gj hu a w) nofun nofun nofun nofun
 ·rename_i k e a hu
  refine⟨nofun,.of_pure g fun w=>?_⟩
  refine ji ?_ nofun nofun nofun nofun;refine jh fun d=>?_
  simp only[fI,aO,ay hu,az];cases a<;>rfl
 ·rename_i e a _ _ _ _ hu
  refine⟨nofun,.of_pure g fun w=>?_⟩
  refine ji ?_ nofun nofun nofun nofun;refine jh fun d=>?_
  simp only[fI,aO,ay hu,az];cases a<;>rfl
 ·rename_i hu
  obtain⟨hx,i⟩:=g;rcases NQ hx with⟨f,a,b,e⟩|e<;>subst e
  ·refine⟨nofun,.of_pure i fun w=>ji (jh fun d=>?_) nofun nofun nofun nofun⟩
   simp only[fI,aO,ay hu,az];rfl
  ·refine⟨nofun,.of_pure i fun w=>ji (jh fun d=>?_) nofun nofun nofun nofun⟩
   simp only[fI,aO,ay hu,az];rfl
 ·rename_i hu
  obtain⟨hx,i⟩:=g;rcases NP hx with⟨f,a,e⟩|e<;>subst e
  ·refine⟨nofun,.of_pure i fun w=>ji (jh fun d=>?_) nofun nofun nofun nofun⟩
   simp only[fI,aO,ay hu,az];rfl
  ·refine⟨nofun,.of_pure i fun w=>ji (jh fun d=>?_) nofun nofun nofun nofun⟩
   simp only[fI,aO,ay hu,az];rfl
 ·exact g.elim
theorem xu{w:World}{a b:Addr}(f:gy w.heap a)(d:gy w.heap b):(sameAddr a b).run P w=.ok (a==b) w:=by
 obtain⟨g,x,f,y⟩:=f;obtain⟨i,p,d,sb⟩:=d;by_cases c:a.block=b.block
 ·simp[sameAddr,c]
 ·have j:(a==b)=false:=by
   rw[beq_eq_false_iff_ne];intro e;exact c (by rw[e])
  have u:w.shape? a.block=some (x,g.size):=by simp[World.shape?,f]
  have o:w.shape? b.block=some (p,i.size):=by simp[World.shape?,d]
  have s:∀n,w.frozen? ({block:=a.block,off:=n}:Addr)=false:=fun n=>by simp[World.frozen?,f]
  have q:∀n,w.frozen? ({block:=b.block,off:=n}:Addr)=false:=fun n=>by simp[World.frozen?,d]
  have t:w.frozen? a=false:=by simp[World.frozen?,f]
  have v:w.frozen? b=false:=by simp[World.frozen?,d]
  obtain⟨m,hm⟩:∃m,g.size=m+1:=⟨g.size-1,by omega⟩
  obtain⟨n,k⟩:∃n,i.size=n+1:=⟨i.size-1,by omega⟩
  simp[sameAddr,c,noView,viewAt,mayBeOne,stringish,u,o,s,q,t,v,hm,k,j]
theorem IX{t:TypeId}{neg:Bool}{x y:Value}{K:RK}{h:ad}(g:Xu P t neg x y K h):
  (∀c d,x=.agg c→y=.agg d→False)∧(x=.nilIface→y=.nilIface→False)∧Yv P (binOp (bif neg then .neq else .eql) t x y) K h:=by
 unfold Xu at g;split at g
 ·rename_i a b hu
  refine⟨nofun,nofun,.of_pure g fun w=>?_⟩
  refine ji ?_ nofun nofun nofun nofun;refine jh fun d=>?_
  simp only[fI,aO,ay hu,az,bB]
 ·rename_i e a b hu
  obtain⟨j,p,o⟩:=g;refine⟨nofun,nofun,_,_,o,p,fun w m=>?_⟩
  refine ji ?_ nofun nofun nofun nofun;have f:av (bT P e) 0=false:=by
   cases hb:av (bT P e) 0 with
   |false=>rfl
   |true=>rw[hb]at j;exact j.elim
  have i:bT P e≠0:=fun e=>by rw[e]at f;cases f
  refine jh fun d=>?_
  simp only[fI,aO,ay hu,az];cases a with
  |none=>cases b<;>rfl
  |some a=>cases b with
   |none=>rfl
   |some b=>
    obtain⟨k,n⟩:=m a b rfl rfl;simp only[aO,Ag f,az,ne_eq,i,not_false_eq_true,if_true,xu k n];rfl
 ·exact g.elim
theorem Al{op:BinOp}{t:TypeId}{x y:Value}{K:RK}{h:ad}(e:Uk P op t x y K h):
  (∀c d,x=.agg c→y=.agg d→False)∧(x=.nilIface→y=.nilIface→False)∧Yv P (binOp op t x y) K h:=by
 unfold Uk at e;split at e
 ·rename_i k a k' b
  refine⟨nofun,nofun,?_⟩;rw[GD];split at e
  ·exact Bc (k':=k') (.inl rfl) e
  ·exact Bc (k':=k') (.inr rfl) e
  ·rename_i h1 h2
   cases hk:JU k' k with
   |false=>rw[hk]at e;exact e.elim
   |true=>rw[hk]at e;have:=Bv hk;subst this;exact NR e ⟨h1,h2⟩
 ·exact⟨nofun,nofun,M7 e⟩
 ·split at e
  ·exact IX (neg:=false) e
  ·exact IX (neg:=true) e
  ·exact e.elim
theorem LF{u:TypeId}{cs:List Value}{off:Nat}(a:((P.underlying u).isSome&&(P.info? u).isSome)=true){w:World}(b:wE P u=true):
  (part u cs.toArray off).run P w=.ok (.agg ((cs.drop off).take (bT P u)).toArray) w:=by
 simp only[aX,gt]at a;obtain⟨a,i,hi⟩:=a;have c:(sizeOf u).run P w=.ok (bT P u) w:=by simp[sizeOf,cP hi,bT,hi]
 simp only[part,aO,wD hi a,az,b,if_true,c,bB];congr 2
 apply cJ;simp[fY]
theorem Ir{u:TypeId}{cs:List Value}{off:Nat}(a:((P.underlying u).isSome&&(P.info? u).isSome)=true){w:World}(c:wE P u=false){v:Value}(hc:cs[off]? =some v):
  (part u cs.toArray off).run P w=.ok v w:=by
 simp only[aX,gt]at a;obtain⟨a,i,hi⟩:=a;have b:cs.toArray[off]? =some v:=by simpa using hc
 simp only[part,aO,wD hi a,az,c,df,if_false,b,bB]
theorem Am{h:ad}:∀{l m:List (Option Addr×Option Addr)},sE h (l++m)→sE h l∧sE h m
 | [],_,h=>⟨trivial,h⟩
 |(_,_)::_,_,h=>⟨⟨h.1,(Am h.2).1⟩,(Am h.2).2⟩
theorem L6{t:TypeId}{x y:Value}{b:Bool}{l:List (Option Addr×Option Addr)}(f:SW P t x y=some (b,l)){w:World}(m:sE w.heap l)(d:Nat):
  (fI (d+1) t x y).run P w=.ok b w:=by
 unfold SW at f;split at f
 ·rename_i k0 k a k' c hu
  cases hk:JU k' k with
  |false=>rw[hk]at f;cases f
  |true=>
   rw[hk]at f;have:=Bv hk;subst this;cases f;exact run_equalIn_int w d t _ _ _ _ hu
 ·rename_i a c hu
  cases f;exact run_equalIn_bool w d t _ _ hu
 ·rename_i a c hu
  cases f;exact run_equalIn_string w d t _ _ hu
 ·rename_i e a c hu
  cases hz:av (bT P e) 0 with
  |true=>rw[hz]at f;cases f
  |false=>
   rw[hz]at f;cases f;have g:bT P e≠0:=fun e=>by rw[e]at hz;cases hz
   simp only[fI,aO,ay hu,az];cases a with
   |none=>cases c<;>rfl
   |some a=>cases c with
    |none=>rfl
    |some c=>
     obtain⟨i,j⟩:=m.1 a c rfl rfl;simp only[aO,Ag hz,az,ne_eq,g,not_false_eq_true,if_true,xu i j];rfl
 ·cases f
theorem Gk{rec:TypeId→List Value→List Value→Option (Bool×List (Option Addr×Option Addr))}{d:Nat}{xs ys:List Value}{w:World}
  (g:∀t us vs b l,rec t us vs=some (b,l)→sE w.heap l→(fI (d+1) t (.agg us.toArray) (.agg vs.toArray)).run P w=.ok b w):
  ∀(fs:List Field) (b:Bool) (l:List (Option Addr×Option Addr)),UP P rec xs ys fs=some (b,l)→sE w.heap l→(Op.eqFields (d+1) xs.toArray ys.toArray fs).run P w=.ok b w
 | [],b,l,he,_=>by cases he;rfl
 |f::fs,b,l,he,hp=>by
  unfold UP at he;split at he
  ·cases he
  ·rename_i hn
   cases hi:((P.underlying f.type).isSome&&(P.info? f.type).isSome)with
   |false=>rw[hi]at he;cases he
   |true=>
    rw[hi]at he;simp only[cond_true]at he;split at he
    ·rename_i b1 l1 c m e1 e2
     cases he;obtain⟨e,k⟩:=Am hp;have a:=Gk g fs c m e2 k;have i:∃u v,(part f.type xs.toArray f.offset).run P w=.ok u w∧(part f.type ys.toArray f.offset).run P w=.ok v w∧(fI (d+1) f.type u v).run P w=.ok b1 w:=by
      cases ha:wE P f.type with
      |true=>
       rw[ha]at e1;exact⟨_,_,LF hi ha,LF hi ha,g _ _ _ _ _ e1 e⟩
      |false=>
       rw[ha]at e1;simp only[cond_false]at e1;split at e1
       ·rename_i x y hx hy
        exact⟨x,y,Ir hi ha hx,Ir hi ha hy,L6 e1 e d⟩
       ·cases e1
     obtain⟨u,v,n,j,o⟩:=i;simp only[Op.eqFields,ne_eq,hn,not_false_eq_true,if_true,aO,n,j,o,az];cases b1
     ·rfl
     ·exact a
    ·cases he
theorem Ax{w:World}:∀(m:Nat) (t:TypeId) (xs ys:List Value) (b:Bool) (l:List (Option Addr×Option Addr)),SX P m t xs ys=some (b,l)→sE w.heap l→
  ∀d,(fI (d+m+1) t (.agg xs.toArray) (.agg ys.toArray)).run P w=.ok b w
 |0,_,_,_,_,_,he,_,_=>by cases he
 |m+1,t,xs,ys,b,l,he,hp,d=>by
  unfold SX at he;split at he
  ·rename_i fs hu
   cases hs:P.stoodInHeld t with
   |true=>rw[hs]at he;cases he
   |false=>
    rw[hs]at he;have a:P.fieldsOf t=fs:=by simp[Program.fieldsOf,hu]
    rw[run_equalIn_struct w _ t _ _ (by rw[a];exact hu) hs,a];exact Gk (d:=d+m) (fun t us vs b l c e=>Ax m t us vs b l c e d) fs.toList b l he hp
  ·cases he
theorem IY{neg b:Bool}{K:RK}{h:ad}{l:List (Option Addr×Option Addr)}(a:X9 neg b K h l):∃S,K (.bool (bif neg then !b else b)) S∧TT S h∧∀h',TT S h'→sE h' l:=by
 cases l with
 |nil=>exact⟨none,a,trivial,fun _ _=>trivial⟩
 |cons p l=>exact⟨_,a.2,a.1,fun _ h=>h⟩
theorem Nw{op:BinOp}{t:TypeId}{xs ys:Array Value}{x y:Operand}{K:RK}{h:ad}(a:VM P op t xs.toList ys.toList K h):
  ∃v S,K v S∧TT S h∧∀w:World,TT S w.heap→(do eqGuard op t x y (.agg xs) (.agg ys);binOp op t (.agg xs) (.agg ys):Sem Value).run P w=.ok v w:=by
 unfold VM at a;cases hg:P.eqGuardType P.depth t with
 |true=>rw[hg]at a;exact a.elim
 |false=>
  rw[hg]at a;simp only[cond_false]at a;split at a
  ·split at a
   ·rename_i b l he
    obtain⟨S,c,f,d⟩:=IY a;refine⟨_,S,c,f,fun w e=>?_⟩
    have:=Ax 10 t _ _ b l he (d _ e) 9989;simp only[Array.toArray_toList]at this;simp only[aO,run_eqGuard_agg w _ t x y _ _ hg,az,run_eql_struct,this];rfl
   ·exact a.elim
  ·split at a
   ·rename_i b l he
    obtain⟨S,c,f,d⟩:=IY a;refine⟨_,S,c,f,fun w e=>?_⟩
    have:=Ax 10 t _ _ b l he (d _ e) 9989;simp only[Array.toArray_toList]at this;simp only[aO,run_eqGuard_agg w _ t x y _ _ hg,az,run_neq_struct,this];rfl
   ·exact a.elim
  ·exact a.elim
theorem PS{op:UnOp}{x:Value}{K:RK}{h:ad}(a:XN op x K):Yv P (Op.unary op x) K h:=by
 unfold XN at a;split at a
 ·exact .of_pure a fun w=>rfl
 ·exact .of_pure a fun w=>rfl
 ·exact .of_pure a fun w=>rfl
 ·exact a.elim
theorem GC:∀(l:List UInt8) (s:ByteArray),(l.map fun b=>((b.toNat:Nat):Int)).foldl (fun r n=>r.push (cG n.toNat)) s=⟨s.data++l.toArray⟩
 | [],s=>by simp
 |b::l,s=>by
  simp only[cD,List.foldl_cons];rw[GC l];congr 1
  have:cG ((b.toNat:Nat):Int).toNat=b:=by simp
  rw[this];apply cJ;simp[ByteArray.push]
theorem F0{e:TypeId}(h:NO P e=true):P.underlying e=some (.int .u8):=by
 unfold NO at h;split at h
 ·assumption
 ·cases h
theorem Lp{w:World}{a:Addr}{vs:List Value}(c:Row w.heap a vs):(loadCells a vs.length).run P w=.ok vs.toArray w:=by
 have:=run_firstCells_some (P:=P) w 1 vs.length a 0 0 vs (by simp) fun j v b=>by rw[←uV];exact c j v b
 simpa[eK]using this
theorem Lw{g j:TypeId}{x:Value}{K:RK}{h:ad}(f:Sb P g j x K h):Yv P (convert g j x) K h:=by
 unfold Sb at f;split at f
 ·rename_i k k' k'' n h1 h2
  exact .of_pure f fun w=>by simp only[convert,aO,ay h1,ay h2,az];rfl
 ·rename_i s h1 h2
  exact .of_pure f fun w=>by simp only[convert,aO,ay h1,ay h2,az];rfl
 ·rename_i e a n c h1 h2
  cases hu:NO P e with
  |false=>rw[hu]at f;exact f.elim
  |true=>
   rw[hu]at f;obtain⟨s,u,y⟩:=f;refine⟨_,_,y,u,fun w o=>?_⟩
   rw[run_convert_bytes_string w g j e a n c h1 (F0 hu) h2];obtain⟨q,o⟩:=o;rcases o with p|⟨b,rfl,z⟩
   ·have m:s=ByteArray.empty:=by
     have:s.data.toList= []:=by simpa[cz]using p
     cases s with
     |mk d=>simp at this;subst this;rfl
    cases a with
    |none=>rw[m];rfl
    |some b=>
     have t:n=0:=by rw[←q,p];rfl
     subst t;have:=Lp (P:=P) (w:=w) (a:=b) (vs:= []) fun i v f=>by simp at f
     rw[run_bytesToString w b 0 c [] (by simpa using this),m];rfl
   ·have:=Lp (P:=P) z
    rw[q]at this;rw[run_bytesToString w b n c (s.data.toList.map fun b=>((b.toNat:Nat):Int)) (by rw[this,kD];rfl),GC]
    cases s;simp[ByteArray.empty,ByteArray.emptyWithCapacity];try rfl
 ·exact f.elim
theorem NB{u:TypeId}{cs:Array Value}{off:Nat}{K:RK}{h:ad}(c:∃d,P.underlying u=some d)(hi:∃i,P.info? u=some i)
  (a:bif wE P u then K (.agg ((cs.toList.drop off).take (bT P u)).toArray) none else(match cs.toList[off]? with|some v=>K v none|none=>False)):Yv P (part u cs off) K h:=by
 obtain⟨i,hi⟩:=hi;cases ha:wE P u with
 |true=>
  rw[ha]at a;refine .of_pure a fun w=>?_
  have e:(sizeOf u).run P w=.ok (bT P u) w:=by simp[sizeOf,cP hi,bT,hi]
  simp only[part,aO,wD hi c,az,ha,if_true,e,bB];congr 2
  apply cJ;simp[fY]
 |false=>
  rw[ha]at a;simp only[cond_false]at a;cases hc:cs.toList[off]? with
  |none=>rw[hc]at a;exact a.elim
  |some v=>
   rw[hc]at a;refine .of_pure a fun w=>?_
   have b:cs[off]? =some v:=by simpa using hc
   simp only[part,aO,wD hi c,az,ha,df,if_false,b,bB]
def xa(P:Program)(v:Option Value)(d y n:Nat):Prop:=
 match v with
 |some x=>∀c w,(Instr.sliceBound x y c).run P w=.ok n w
 |none=>n=d
theorem mo{v:Option Value}{d y:Nat}{K:Nat→Prop}(a:To v d y K):∃n,K n∧xa P v d y n:=by
 unfold To at a;split at a
 ·exact⟨d,a,rfl⟩
 ·rename_i k i
  obtain⟨⟨f,b⟩,e⟩:=a;refine⟨i.toNat,e,fun c w=>?_⟩
  simp[Instr.sliceBound,asIntOf,f,b]
 ·exact a.elim
theorem pH{c:Bool}{len cap n l:Nat}{lo hi:Option Value}(a:xa P hi len cap n)(b:xa P lo 0 n l)(w:World):
  (fL c len cap lo hi none).run P w=.ok (l,n,cap) w:=by
 cases hi with
 |none=>
  cases lo with
  |none=>simp only[xa]at a b;subst a;subst b;simp[fL]
  |some lo=>simp only[xa]at a b;subst a;simp[fL,b]
 |some hi=>
  cases lo with
  |none=>simp only[xa]at a b;subst b;simp[fL,a]
  |some lo=>simp only[xa]at a b;simp[fL,a,b]
theorem CM{c:Bool}{len cap n l m:Nat}{lo:Option Value}{hi d:Value}(hm:xa P (some d) 0 cap m)(a:xa P (some hi) 0 m n)(b:xa P lo 0 n l)(w:World):
  (fL c len cap lo (some hi) (some d)).run P w=.ok (l,n,m) w:=by
 cases lo with
 |none=>simp only[xa]at hm a b;subst b;simp[fL,hm,a]
 |some lo=>simp only[xa]at hm a b;simp[fL,hm,a,b]
theorem Ac(a:Option Addr)(l m size:Nat):(if m=l then a else a.map (·.add (l*size)))=aN a l m size:=by
 unfold aN;split
 ·rfl
 ·congr 1;funext x;rw[uV]
theorem pK{t:TypeId}{K:Prop}(h:So P t K):K∧∀w,(sizeOf t).run P w=.ok (bT P t) w:=by
 unfold So at h;cases hi:P.info? t with
 |none=>rw[hi]at h;exact h.elim
 |some i=>rw[hi]at h;exact⟨h,fun w=>by simp[sizeOf,cP hi,bT,hi]⟩
theorem JD{t:TypeId}{x:Value}{f:Nat}{K:RK}{h:ad}(a:Nu P t x f K):Yv P (Instr.field t x f) K h:=by
 unfold Nu at a;split at a
 ·rename_i u off cs hf
  obtain⟨k,g,b,i,rfl,rfl⟩:=xI hf;cases hb:((P.underlying g.type).isSome&&(P.info? g.type).isSome)with
  |false=>rw[hb]at a;exact a.elim
  |true=>
   rw[hb]at a;simp only[aX,gt]at hb;obtain⟨v,S,e,c,j⟩:=NB (cs:=cs) (off:=g.offset) (h:=h) hb.1 hb.2 a;refine⟨v,S,e,c,fun w d=>?_⟩
   have:=j w d;simp only[Instr.field,aO,ay b,az,i,asAgg,bB,this]
 ·exact a.elim
theorem CT{t:TypeId}{x i:Value}{K:RK}{h:ad}(c:Ak P t x i K):Yv P (Instr.indexAt t x i) K h:=by
 unfold Ak at c;split at c
 ·rename_i n e a k i hu
  obtain⟨⟨⟨g,f⟩,j⟩,d⟩:=pK c;refine .of_pure j fun w=>?_
  simp[Instr.indexAt,asIntOf,ay hu,lV,g,f,d,uV]
 ·rename_i e b len cap k i hu
  obtain⟨⟨⟨g,f⟩,a,rfl,j⟩,d⟩:=pK c;refine .of_pure j fun w=>?_
  simp[Instr.indexAt,asIntOf,ay hu,g,f,d,uV]
 ·exact c.elim
theorem JA{ats:Array TypeId}{ty:TypeId}{v:Value}{K:RK}(h:Nr v K):∃u,K u none∧∀w,(Builtin.unsafeSliceData_ ats ty #[v]).run P w=.ok u w:=by
 unfold Nr at h;split at h
 ·rename_i a n c
  obtain⟨d,b⟩:=h;cases a with
  |none=>exact⟨_,b,fun w=>Lib.run_unsafeSliceData_nil ..⟩
  |some a=>exact⟨_,b,fun w=>Lib.run_unsafeSliceData_row _ _ _ _ _ _ (d.resolve_left nofun)⟩
 ·exact h.elim
theorem JC{t:TypeId}{x i:Value}{K:RK}{h:ad}(a:Nt P t x i K):Yv P (Instr.index t x i) K h:=by
 unfold Nt at a;split at a
 ·rename_i s k i hu
  obtain⟨b,c,d,e⟩:=a;refine .of_pure e fun w=>?_
  simp[Instr.index,asIntOf,ay hu,c,d]
 ·exact a.elim
theorem Jz{t:TypeId}{x:Value}{lo hi f:Option Value}{K:RK}{h:ad}(b:Nq P t x lo hi f K):Yv P (qr t x lo hi f) K h:=by
 unfold Nq at b;split at b
 ·rename_i s hu
  cases f with
  |some _=>exact b.elim
  |none=>
   obtain⟨n,b,c⟩:=mo (P:=P) b;obtain⟨l,b,d⟩:=mo (P:=P) b;refine .of_pure b fun w=>?_
   simp[qr,Instr.slice,ay hu,pH c d]
 ·rename_i e a len cap hu
  obtain⟨b,g⟩:=pK b;cases f with
  |none=>
   obtain⟨n,b,c⟩:=mo (P:=P) b;obtain⟨l,b,d⟩:=mo (P:=P) b;refine .of_pure b fun w=>?_
   simp[qr,Instr.slice,ay hu,pH c d,g,Ac]
  |some m=>
   cases hi with
   |none=>exact b.elim
   |some hi=>
    obtain⟨j,b,hm⟩:=mo (P:=P) b;obtain⟨n,b,c⟩:=mo (P:=P) b;obtain⟨l,b,d⟩:=mo (P:=P) b;refine .of_pure b fun w=>?_
    simp[qr,Instr.slice,ay hu,CM hm c d,g,Ac]
 ·rename_i n e a hu
  obtain⟨b,g⟩:=pK b;cases f with
  |some _=>exact b.elim
  |none=>
   obtain⟨m,b,c⟩:=mo (P:=P) b;obtain⟨l,b,d⟩:=mo (P:=P) b;refine .of_pure b fun w=>?_
   have i:(some (if n=l then a else a.add (l*bT P e)))=aN (some a) l n (bT P e):=by
    rw[←Ac];split<;>rfl
   simp[qr,ay hu,lV,pH c d,g,i]
 ·exact b.elim
def oZ(d:TypeDesc)(c:CK):Prop:=(∃i,d=.int i∧c=.int i)∨(d=.string∧c=.str)∨(d=.bool∧c=.bool)
theorem xC{t:TypeId}{c:CK}{e:TypeId}(h:LS P t=some (c,e)):∃k d,P.underlying t=some (.map k e)∧P.underlying k=some d∧oZ d c:=by
 unfold LS at h;split at h
 ·rename_i k e' hu
  split at h
  ·rename_i i hk
   simp only[bh.injEq,wH.injEq]at h;obtain⟨rfl,rfl⟩:=h;exact⟨k,_,hu,hk,.inl ⟨i,rfl,rfl⟩⟩
  ·rename_i hk
   simp only[bh.injEq,wH.injEq]at h;obtain⟨rfl,rfl⟩:=h;exact⟨k,_,hu,hk,.inr (.inl ⟨rfl,rfl⟩)⟩
  ·rename_i hk
   simp only[bh.injEq,wH.injEq]at h;obtain⟨rfl,rfl⟩:=h;exact⟨k,_,hu,hk,.inr (.inr ⟨rfl,rfl⟩)⟩
  ·cases h
 ·cases h
theorem DI{d:TypeDesc}{c:CK}(hd:oZ d c)(x y:c.den):vh d (c.enc x) (c.enc y)=some (fC (c.enc x) (c.enc y)):=by
 rcases hd with⟨i,rfl,rfl⟩|⟨rfl,rfl⟩|⟨rfl,rfl⟩
 ·simp[vh,CK.enc,fC]
 ·simp[vh,CK.enc,fC]
 ·simp[vh,CK.enc,fC]
theorem DU{d:TypeDesc}{c:CK}(hd:oZ d c)(x:c.den):∀(es:List MapEntry) (i:Nat),keysOf c es→
  ∃r,nr d (c.enc x) es i=some r∧r.map (·.2)=Gc (c.enc x) es
 | [],i,_=>⟨none,rfl,rfl⟩
 |e::es,i,h=>by
  obtain⟨y,f⟩:=h e (by simp);have b:=DI hd x y;rw[←f]at b;simp only[nr,Gc];cases hb:fC (c.enc x) e.key with
  |true=>rw[b,hb];exact⟨some (i,e.val),rfl,rfl⟩
  |false=>rw[b,hb];exact DU hd x es (i+1) fun g a=>h g (by simp[a])
theorem Mf{a:Bool}{k:TypeId}{d:TypeDesc}{c:CK}(hd:oZ d c)(b:P.underlying k=some d)(v:Value)(n:Nat)(w:World):(Instr.checkKey a (n+1) k v).run P w=.ok () w:=by
 unfold Instr.checkKey;simp only[aO,ay b,az];rcases hd with⟨i,rfl,rfl⟩|⟨rfl,rfl⟩|⟨rfl,rfl⟩<;>rfl
theorem wb{k:TypeId}{d:TypeDesc}{c:CK}(hd:oZ d c)(b:P.underlying k=some d)(x:c.den){es:List MapEntry}(h:keysOf c es)(w:World):
  ∃r,(Instr.findKey k (c.enc x) es).run P w=.ok r w∧nr d (c.enc x) es 0=some r∧r.map (·.2)=Gc (c.enc x) es:=by
 obtain⟨r,a,hm⟩:=DU hd x es 0 h;refine⟨r,?_,a,hm⟩;simp only[Instr.findKey,aO,ay b,az,a,bB]
theorem lH{w:World}{r:Nat}{es:Array MapEntry}{a:Nat}(h:w.heap[r]? =some (.map es a)):(getObj r).run P w=.ok (.map es a) w:=by
 simp only[getObj,nG,h]
theorem nf{a:Bool}{k:TypeId}{d:TypeDesc}{c:CK}(hd:oZ d c)(b:P.underlying k=some d)(v:Value)(w:World):(Instr.checkKey a 10000 k v).run P w=.ok () w:=
 Mf hd b v 9999 w
theorem NJ{t:TypeId}{c:CK}{e k:TypeId}{d:TypeDesc}(s:P.underlying t=some (.map k e))(g:P.underlying k=some d)(hd:oZ d c){m:Option Nat}{x:c.den}{z v:Value}{b n:Bool}{w:World}
  (q:(zeroValue e).run P w=.ok z w)(hm:wF c z w.heap m (c.enc x) v b):
  (wJ t (.map m) (c.enc x) n).run P w=.ok (bif n then .tuple #[v,.bool b]else v) w:=by
 cases m with
 |none=>
  obtain⟨rfl,rfl⟩:=hm;simp only[wJ,aO,ay s,az,bB,nf hd g];obtain⟨r,i,p,a⟩:=wb (P:=P) hd g x (es:= []) (fun _ h=>by cases h) w
  simp only[nr,bh.injEq]at p;subst p;simp[i,q]
 |some r=>
  obtain⟨es,o,u,j,f⟩:=hm;simp only[wJ,aO,ay s,az,lH u,bB,nf hd g];obtain⟨r,i,p,a⟩:=wb (P:=P) hd g x j w;simp only[i,az];cases r with
  |none=>
   simp only[Option.map_none]at a;rw[←a]at f;obtain⟨rfl,rfl⟩:=f;simp[q]
  |some r=>
   simp only[nH]at a;rw[←a]at f;obtain⟨rfl,rfl⟩:=f;cases n<;>rfl
theorem eM{e:TypeId}{z:Value}(h:zm P e=some z)(w:World):(zeroValue e).run P w=.ok z w:=by
 unfold zm at h;cases hi:P.info? e with
 |none=>rw[hi]at h;cases h
 |some i=>rw[hi]at h;simp only at h;simp[zeroValue,cP hi,h]
theorem Hl{t:TypeId}{x k:Value}{f:Bool}{K:RK}{h:ad}(a:JB P t x k f K h):Yv P (wJ t x k f) K h:=by
 unfold JB at a;split at a
 ·rename_i c e m hc
  obtain⟨o,d,i,n,hd⟩:=xC hc;obtain⟨p,rfl,a⟩:=CK.dec_sound a;split at a
  ·rename_i ek z hek hz
   obtain⟨y,b,hm,g⟩:=a;exact⟨_,_,g,hm,fun w j=>NJ i n hd (eM hz w) j⟩
  ·exact a.elim
 ·exact a.elim
theorem DK{w:World}{b cap s q:Nat}{buf:Array Value}{a t:Bool}(h:w.heap[b]? =some (.chan cap buf a s q t)):(getObj b).run P w=.ok (.chan cap buf a s q t) w:=by
 simp only[getObj,nG,h]
theorem Ns{t:TypeId}{x:Value}{ats:Array TypeId}{ty:TypeId}{K:RK}{h:ad}(a:ats[0]? =some t) (d:VK P t x K h):Yv P (kG ats ty #[x]) K h:=by
 unfold VK at d;split at d
 ·rename_i s hu
  exact .of_pure d fun w=>by simp[kG,a,ay hu,goInt]
 ·rename_i n e _ hu
  exact .of_pure d fun w=>by simp[kG,a,ay hu,goInt]
 ·rename_i e b n c hu
  exact .of_pure d fun w=>by simp[kG,a,ay hu,goInt]
 ·rename_i k e m hu
  obtain⟨n,hm,i⟩:=d;refine⟨_,_,i,hm,fun w f=>?_⟩
  cases m with
  |none=>
   have:n=0:=f;subst this;simp[kG,a,ay hu,goInt]
  |some r=>
   obtain⟨es,j,g,rfl⟩:=f;simp[kG,a,ay hu,goInt,lH g]
 ·rename_i k e m hu
  obtain⟨n,hm,i⟩:=d;refine⟨_,_,i,hm,fun w f=>?_⟩
  cases m with
  |none=>
   have:n=0:=f;subst this;simp[kG,a,ay hu,goInt]
  |some r=>
   obtain⟨cap,buf,o,s,q,g,rfl⟩:=f;simp[kG,a,ay hu,goInt,DK g]
 ·exact d.elim
theorem Nv{t:TypeId}{x:Value}{ats:Array TypeId}{ty:TypeId}{K:RK}{h:ad}(a:ats[0]? =some t) (d:VL P t x K h):Yv P (wL ats ty #[x]) K h:=by
 unfold VL at d;split at d
 ·rename_i e b n c hu
  exact .of_pure d fun w=>by simp[wL,a,ay hu,goInt]
 ·rename_i k e m hu
  obtain⟨n,hm,i⟩:=d;refine⟨_,_,i,hm,fun w f=>?_⟩
  cases m with
  |none=>
   have:n=0:=f;subst this;simp[wL,a,ay hu,goInt]
  |some r=>
   obtain⟨cap,buf,j,s,q,g,rfl⟩:=f;simp[wL,a,ay hu,goInt,DK g]
 ·exact d.elim
theorem Bk{c:Bool}{k:IntKind}:∀{vs:List Value} {a:Int} {f:Value→Prop},JP c k a vs f→∃v,f v∧∀w,(vs.foldlM (bif c then Builtin.max2 else Builtin.min2) (Value.int k a):Sem Value).run P w=.ok v w
 | [],a,f,h=>⟨_,h,fun w=>by simp⟩
 | .int k' b::vs,a,f,h=>by
  simp only[JP]at h;cases hk:JU k' k with
  |false=>rw[hk]at h;exact h.elim
  |true=>
   rw[hk]at h;have:=Bv hk;subst this;obtain⟨v,d,e⟩:=Bk h;refine⟨v,d,fun w=>?_⟩
   rw[←e w];cases c<;>simp[List.foldlM_cons,Builtin.max2,Builtin.min2]
theorem zy{a:Bool}{vs:List Value}{f:Value→Prop}{ats:Array TypeId}{ty:TypeId}(h:EY a vs f):∃v,f v∧∀w,(bif a then Builtin.max_ ats ty vs.toArray else Builtin.min_ ats ty vs.toArray).run P w=.ok v w:=by
 unfold EY at h;split at h
 ·obtain⟨v,b,c⟩:=Bk (P:=P) h
  refine⟨v,b,fun w=>?_⟩
  have:=c w;cases a<;>simpa[Builtin.max_,Builtin.min_]using this
 ·exact h.elim
theorem Qq{a:Addr}{e:MapEntry}{w:World}(i:a.off=0)(h:Oq w.heap a.block e):(Instr.entry (.pointer (some a))).run P w=.ok (.tuple #[e.key,e.val]) w:=by
 obtain⟨m,c,d,last,f,es,hi,j,hm,n⟩:=h;obtain⟨b,off,g⟩:=a;simp only at i hi;subst i;have k:(getObj b).run P w=.ok (.mapIter (some m) c d last) w:=by simp only[getObj,nG,hi]
 simp[Instr.entry,k,j,lH hm,n]
def HX:DV→Value→Prop
 | .t,v=>v=.bool true
 | .f,v=>v=.bool false
 | .u,v=>v=undef
 | .x,_=>True
def DecOk(d:vP)(r:cB):Prop:=∀t,rM d t=.x∨∃v,jZ r t=some v∧HX (rM d t) v
theorem DecOk.at{d:vP}{r:cB}(h:DecOk d r){t:Nat}{v:Value}(b:jZ r t=some v):HX (rM d t) v:=by
 rcases h t with e|⟨u,a,c⟩
 ·rw[e];trivial
 ·rw[b]at a;cases a;exact c
theorem vu{d:vP}{r:cB}(hd:DecOk d r){o:Operand}{v:Value}(h:cZ r o=some v):HX (BE d o) v:=by
 cases o with
 |tmp t=>exact hd.at h
 |const c=>
  simp[cZ]at h;subst h;cases c with
  |bool b=>cases b<;>exact rfl
  |_=>trivial
 |global g=>trivial
 |func f=>trivial
theorem DQ{t:TypeId}(h:qz P t=true):∃d,P.underlying t=some d∧∀m,d≠ .interface m:=by
 unfold qz at h;split at h
 ·cases h
 ·rename_i d hd;exact⟨_,hd,fun m e=>by subst e;simp_all⟩
 ·cases h
theorem Bp{t:TypeId}{v:Value}(h:qz P t=true)(w:World):(Instr.makeInterface t v).run P w=.ok (.iface t v) w:=by
 obtain⟨d,hd,a⟩:=DQ h;simp only[Instr.makeInterface,aO,ay hd,az];cases d<;>first|exact absurd rfl (a _)|rfl
theorem Fj{t u:TypeId}{v:Value}(h:qz P t=true)(w:World):(Instr.typeAssert (.iface t v) u t false).run P w=.ok v w:=by
 obtain⟨d,hd,a⟩:=DQ h;simp only[Instr.typeAssert,aO,ay hd,az];cases d<;>first|exact absurd rfl (a _)|(simp[bB])
theorem jX{t:TypeId}{z:List Value}(h:ra P t=some z):∃v,zm P t=some v∧v.cells.toList=z:=by
 unfold ra at h;cases hz:zm P t with
 |none=>rw[hz]at h;cases h
 |some v=>rw[hz]at h;simp only[bh.injEq]at h;exact⟨v,rfl,h⟩
theorem rY{t:TypeId}{v:Value}(h:zm P t=some v):∃i,P.info? t=some i∧i.zero=some v:=by
 unfold zm at h;cases hi:P.info? t with
 |none=>rw[hi]at h;cases h
 |some i=>rw[hi]at h;exact⟨i,rfl,h⟩
theorem S8{A B:List Value}{x:Value}{m:Nat}(h:A.length=m):(A++x::B).take (m+1)=A++ [x]:=by
 subst h;rw[List.take_append,bI (by omega),show A.length+1-A.length=1 by omega];rfl
theorem Tb{A B:List Value}{x:Value}{m n:Nat}(h:A.length=m):(A++x::B).drop (m+1+n)=B.drop n:=by
 subst h;rw[List.drop_append,List.drop_eq_nil_of_le (by omega),show A.length+1+n-A.length=n+1 by omega];rfl
theorem L2(off:Nat):∀(xs:List Value) (k:Nat) (arr:Array Value),off+k+xs.length≤arr.size→
  (xs.zipIdx k).foldl (fun cs (c,j)=>cs.setIfInBounds (off+j) c) arr=(Lz arr.toList (off+k) xs).toArray
 | [],k,arr,_=>by simp[Lz]
 |x::xs,k,arr,h=>by
  simp only[aG]at h;simp only[List.zipIdx_cons,List.foldl_cons];rw[L2 off xs (k+1) _ (by simp;omega)];have hm:off+k<arr.toList.length:=by simp;omega
  have b:arr.toList.set (off+k) x=arr.toList.take (off+k)++x::arr.toList.drop (off+k+1):=by
   rw[List.set_eq_take_append_cons_drop,if_pos hm]
  have a:(arr.toList.take (off+k)).length=off+k:=by simp;omega
  congr 1
  unfold Lz;rw[Array.toList_setIfInBounds,b,←Nat.add_assoc,S8 a,Tb a];simp only[List.append_assoc,mC,List.nil_append,aG,List.drop_drop];rw[show off+k+1+xs.length=off+k+(xs.length+1) by omega]
theorem tT{a:Nat→Option (Nat×Nat)}:∀(parts:List (Nat×Value)) (cs cs':List Value),DW a cs parts=some cs'→Instr.fill a cs.toArray parts=some cs'.toArray
 | [],cs,cs',h=>by simp only[DW,bh.injEq]at h;subst h;rfl
 |(i,v)::rest,cs,cs',h=>by
  simp only[DW]at h;cases hp:a i with
  |none=>rw[hp]at h;cases h
  |some os=>
   obtain⟨off,size⟩:=os;rw[hp]at h;simp only at h;cases hb:(av v.cells.toList.length size&&yR (off+v.cells.toList.length) cs.length)with
   |false=>rw[hb]at h;cases h
   |true=>
    rw[hb]at h;simp only[aX]at hb;have b:=aS hb.1;have g:=iG hb.2;have e:=tT rest _ _ h;have c:v.cells.size=size:=by simpa using b
    have d:off+v.cells.size≤cs.length:=by simpa using g
    have f:Array.foldl (fun cs x=>cs.setIfInBounds (off+x.2) x.1) cs.toArray v.cells.zipIdx=(Lz cs off v.cells.toList).toArray:=by
     have:=L2 off v.cells.toList 0 cs.toArray (by simpa using d);simp only[jm]at this;rw[←this,←Array.foldl_toList];congr 1
     simp[Array.toList_zipIdx]
    simp only[Instr.fill,hp];rw[if_neg (by simp[c];omega)];simp only[f];exact e
theorem oE{N:Nat}{r:cB}{a:Act}(h:Agree N r a):∀{ps:List (Nat×Operand)} {vs:List (Nat×Value)},qy r ps=some vs→ps.map (fun p=>(p.1,a.eval p.2))=vs
 | [],vs,hv=>by simp[qy]at hv;subst hv;rfl
 |(i,o)::ps,vs,hv=>by
  simp only[qy]at hv;cases ho:cZ r o with
  |none=>simp[ho]at hv
  |some v=>cases hos:qy r ps with
   |none=>simp[ho,hos]at hv
   |some us=>simp[ho,hos]at hv;subst hv;simp[j1 h ho,oE h hos]
theorem qD{t:TypeId}(h:yH P t=true)(w:World):(sizeOf t).run P w=.ok (bT P t) w:=by
 unfold yH at h;cases hi:P.info? t with
 |none=>rw[hi]at h;cases h
 |some i=>simp[sizeOf,cP hi,bT,hi]
theorem FL(w:World):∀l:List Field,BN P l=true→(l.mapM fun f:Field=>((do pure (f.offset,←sizeOf f.type)):Sem (Nat×Nat))).run P w=.ok (l.map fun f:Field=>(f.offset,bT P f.type)) w
 | [],_=>rfl
 |f::l,h=>by
  simp only[BN]at h;cases hf:yH P f.type with
  |false=>rw[hf]at h;cases h
  |true=>
   rw[hf]at h;rw[List.mapM_cons];simp only[aO,qD hf,az,bB,FL w l h,cD]
theorem BL{t:TypeId}{ps:Array (Nat×Value)}{cs:List Value}(a:Kj P t ps.toList=some cs)(w:World):
  (Instr.build t ps).run P w=.ok (.agg cs.toArray) w:=by
 unfold Kj at a;split at a
 ·rename_i fs z hu c
  obtain⟨v,c,j⟩:=jX c;cases ha:BN P fs.toList with
  |false=>rw[ha]at a;cases a
  |true=>
   rw[ha]at a;have k:(fs.mapM fun f:Field=>((do pure (f.offset,←sizeOf f.type)):Sem (Nat×Nat))).run P w=.ok (fs.map fun f:Field=>(f.offset,bT P f.type)) w:=by
    rw[Array.mapM_eq_mapM_toList];simp only[Sem.run_map,FL w fs.toList ha,az];congr 1
    apply cJ;simp
   have g:=tT _ _ _ a;have b:(fun i:Nat=>(fs.map fun f:Field=>(f.offset,bT P f.type))[i]?)=NA P fs.toList:=by
    funext i;unfold NA;rw[Array.getElem?_map,aV];cases fs[i]?<;>rfl
   have d:v.cells=z.toArray:=by rw[←j]
   rw[cond_true]at a;rw[←b]at g;simp only[Instr.build,aO,eM c,az,ay hu,k,d,g,bB]
 ·rename_i n e z hu c
  obtain⟨v,c,j⟩:=jX c;cases ha:yH P e with
  |false=>rw[ha]at a;cases a
  |true=>
   rw[ha]at a;have g:=tT _ _ _ a;have d:v.cells=z.toArray:=by rw[←j]
   simp only[Instr.build,aO,eM c,az,ay hu,qD ha,d,g,bB]
 ·cases a
theorem CS{ek:Option (Kind×Kind)}{o:Oper}{r:cB}{K:RK}{h:ad}{N:Nat}{a:Act}(O:Agree N r a)(g:CE P ek o.op r K h)(d:vP)(hd:DecOk d r):
  ∃v S,K v S∧TT S h∧HX (KV d o.op) v∧∀w:World,TT S w.heap→(execOp a.eval o).run P w=.ok (.value v) w:=by
 have j:∀{x:Operand} {v:Value},cZ r x=some v→a.eval x=v:=fun h=>j1 O h
 have A:∀{s:Sem Value},Yv P s K h→KV d o.op=.x→(∀w,(execOp a.eval o).run P w=(do pure (Next.value (←s)):Sem Next).run P w)→
   ∃v S,K v S∧TT S h∧HX (KV d o.op) v∧∀w:World,TT S w.heap→(execOp a.eval o).run P w=.ok (.value v) w:=by
  rintro s ⟨v,S,q,B,z⟩ hx F;exact⟨v,S,q,B,by rw[hx];trivial,fun w D=>by rw[F w];exact ib (z w D)⟩
 obtain⟨R,op,type,pos,H,G⟩:=o;simp only at g A⊢;cases op with
 |move x=>
  simp only[CE]at g;split at g
  ·rename_i v hv
   exact⟨v,none,g,trivial,vu hd hv,fun w _=>by simp[execOp,j hv]⟩
  ·exact g.elim
 |assign x=>
  simp only[CE]at g;split at g
  ·rename_i v hv
   exact⟨v,none,g,trivial,vu hd hv,fun w _=>by simp[execOp,j hv]⟩
  ·exact g.elim
 |pick c x y=>
  simp only[CE]at g;split at g
  ·rename_i vc va vb hc hx T
   unfold Vf at g;split at g
   ·rename_i cb
    have J:=vu hd hc;have V:=vu hd hx;have X:=vu hd T;have F:∀w,(execOp a.eval ⟨R,.pick c x y,type,pos,H,G⟩).run P w=.ok (.value (if cb then va else vb)) w:=fun w=>by
     simp[execOp,j hc,j hx,j T,asBool]
    have L:HX (KV d (.pick c x y)) (if cb then va else vb):=by
     simp only[KV];cases hcd:BE d c with
     |t=>
      rw[hcd]at J;have:cb=true:=by simpa[HX]using J
      subst this;exact V
     |f=>
      rw[hcd]at J;have:cb=false:=by simpa[HX]using J
      subst this;exact X
     |u=>trivial
     |x=>trivial
    split at g
    ·rename_i bx by'
     have e1:(if cb=true then Value.bool bx else Value.bool by')=.bool (bif cb then bx else by'):=by cases cb<;>rfl
     rw[e1]at L;exact⟨_,none,g,trivial,L,fun w _=>by rw[F w,e1]⟩
    ·cases cb
     ·exact⟨_,none,g,trivial,L,fun w _=>F w⟩
     ·exact⟨_,none,g,trivial,L,fun w _=>F w⟩
   ·exact g.elim
  ·exact g.elim
 |load t x=>
  simp only[CE]at g;split at g
  ·rename_i v hv
   obtain⟨u,S,q,B,z⟩:=DN g;exact A ⟨u,some S,q,B,z⟩ rfl fun w=>by simp only[execOp,j hv]
  ·exact g.elim
 |nilCheck x=>
  simp only[CE]at g;split at g
  ·rename_i p hv
   obtain⟨b,rfl,q⟩:=g;exact⟨_,none,q,trivial,trivial,fun w _=>by simp[execOp,j hv]⟩
  ·exact g.elim
 |binOp op t x y yt=>
  simp only[CE]at g;split at g
  ·rename_i v u hn hv hu
   have go:(∀c d,v=.agg c→u=.agg d→False)∧Yv P (binOp op t v u) K h:=by
    split at g
    ·exact FP (neg:=false) g
    ·exact FP (neg:=true) g
    ·exact⟨(Al g).1,(Al g).2.2⟩
   obtain⟨Z,Q,S,q,B,z⟩:=go;obtain⟨yc,rfl⟩:=JQ hn;refine⟨Q,S,q,B,trivial,fun w D=>?_⟩
   simp only[execOp,j hv,j hu];simp[L7 op t x yc v u Z w,z w D]
  ·rename_i v u hn hv hu
   obtain⟨Q,S,q,B,z⟩:=Nw (x:=x) (y:=y) g;refine⟨Q,S,q,B,trivial,fun w D=>?_⟩
   simp only[execOp,j hv,j hu];exact ib (z w D)
  ·rename_i v u hna hn hv hu
   obtain⟨Z,h2,Q,S,q,B,z⟩:=Al g;refine⟨Q,S,q,B,trivial,fun w D=>?_⟩
   simp only[execOp,j hv,j hu];simp[N7 op t x y v u Z h2 w,z w D]
  ·exact g.elim
 |unOp op t x=>
  simp only[CE]at g;split at g
  ·rename_i v hv
   obtain⟨u,S,q,B,z⟩:=PS (P:=P) (h:=h) g;refine⟨u,S,q,B,?_,fun w D=>by simp only[execOp,j hv];exact ib (z w D)⟩
   have I:=vu hd hv;cases op<;>try trivial
   simp only[KV];have E:=z {(default:World)with heap:=h} B;cases hx:BE d x with
   |t=>
    rw[hx]at I;have:v=.bool true:=I;subst this;simp[Op.unary]at E;exact E.symm
   |f=>
    rw[hx]at I;have:v=.bool false:=I;subst this;simp[Op.unary]at E;exact E.symm
   |u=>trivial
   |x=>trivial
  ·exact g.elim
 |convert s t x=>
  simp only[CE]at g;split at g
  ·rename_i v hv
   exact A (Lw g) rfl fun w=>by simp only[execOp,j hv]
  ·exact g.elim
 |extract x i=>
  simp only[CE]at g;split at g
  ·rename_i vs hv
   split at g
   ·rename_i u hu
    have Y:vs[i]? =some u:=by simpa using hu
    exact⟨u,none,g,trivial,trivial,fun w _=>by simp[execOp,j hv,Instr.extract,Y]⟩
   ·exact g.elim
  ·exact g.elim
 |fieldAddr t x f=>
  simp only[CE]at g;split at g
  ·rename_i b u off hv hf
   exact A (Et hf g) rfl fun w=>by simp only[execOp,j hv]
  ·exact g.elim
 |field t x f=>
  simp only[CE]at g;split at g
  ·rename_i v hv
   exact A (JD g) rfl fun w=>by simp only[execOp,j hv]
  ·exact g.elim
 |indexAddr t x i=>
  simp only[CE]at g;split at g
  ·rename_i v u hv hu
   exact A (CT g) rfl fun w=>by simp only[execOp,j hv,j hu]
  ·exact g.elim
 |index t x i=>
  simp only[CE]at g;split at g
  ·rename_i v u hv hu
   exact A (JC g) rfl fun w=>by simp only[execOp,j hv,j hu]
  ·exact g.elim
 |slice t x lo hi mx=>
  simp only[CE]at g;split at g
  ·rename_i v l h' m hv hl hh hm
   have W:∀{x:Option Operand} {v:Option Value},Iw r x=some v→x.map a.eval=v:=by
    intro x v hx;cases x with
    |none=>simp[Iw]at hx;subst hx;rfl
    |some x=>
     simp only[Iw]at hx;cases F:cZ r x with
     |none=>simp[F]at hx
     |some u=>simp[F]at hx;subst hx;simp[j F]
   exact A (Jz g) rfl fun w=>by simp only[execOp,j hv,W hl,W hh,W hm]
  ·exact g.elim
 |lookup t x k ok=>
  simp only[CE]at g;split at g
  ·rename_i v u hv hu
   exact A (Hl g) rfl fun w=>by simp only[execOp,j hv,j hu]
  ·exact g.elim
 |makeInterface t x=>
  simp only[CE]at g;split at g
  ·rename_i v hv
   cases hb:qz P t with
   |false=>rw[hb]at g;exact g.elim
   |true=>
    rw[hb,cond_true]at g;exact⟨_,none,g,trivial,trivial,fun w _=>by simp only[execOp,j hv];exact ib (Bp hb w)⟩
  ·exact g.elim
 |typeAssert x u t ok=>
  simp only[CE]at g;split at g
  ·rename_i v hv
   cases ok with
   |true=>exact g.elim
   |false=>
    rw[cond_false]at g;unfold O5 at g;cases hb:qz P t with
    |false=>rw[hb]at g;exact g.elim
    |true=>
     rw[hb,cond_true]at g;split at g
     ·obtain⟨y,rfl,q⟩:=g
      exact⟨_,none,q,trivial,trivial,fun w _=>by simp only[execOp,j hv];exact ib (Fj hb w)⟩
     ·exact g.elim
  ·exact g.elim
 |makeFunc fn first cap=>
  simp only[CE]at g;split at g
  ·rename_i vs us hv hu
   have e1:=l4 O hv;have e2:=l4 O hu;refine⟨_,none,g,trivial,trivial,fun w _=>?_⟩
   have U:first.map a.eval=vs.toArray:=by rw[←e1];apply cJ;simp
   have f2:cap.map a.eval=us.toArray:=by rw[←e2];apply cJ;simp
   simp[execOp,Instr.makeFunc,U,f2]
  ·exact g.elim
 |entry it=>
  simp only[CE]at g;split at g
  ·rename_i b kk vk hv
   obtain⟨h0,e,x,y,hi,q,T,hK⟩:=g;refine⟨_,_,hK,hi,trivial,fun w D=>?_⟩
   simp only[execOp,j hv];refine ib ?_;rw[Qq h0 D,q,T]
  ·exact g.elim
 |call c=>
  simp only[CE]at g;have C:∀{b:Builtin} {vs:List Value},c.callee=.builtin b→nN r c.args.toList=some vs→∃cs:Array Bool,∀w,(execOp a.eval ⟨R,.call c,type,pos,H,G⟩).run P w=
    (builtin b c.argTypes type cs vs.toArray).run P w:=by
   intro b vs hc n;have e1:=l4 O n;have U:c.args.map a.eval=vs.toArray:=by rw[←e1];apply cJ;simp
   refine⟨c.args.map fun| .const _=>true|_=>false,fun w=>?_⟩
   simp[execOp,resolve,hc,U,invoke];rfl
  split at g
  ·rename_i v t hc n hat
   obtain⟨cs,C⟩:=C hc n;obtain⟨u,S,q,B,z⟩:=Ns (ats:=c.argTypes) (ty:=type) (by rw[←aV,hat];rfl) g;exact⟨u,S,q,B,trivial,fun w D=>by rw[C w];simp only[builtin];exact ib (z w D)⟩
  ·rename_i v t hc n hat
   obtain⟨cs,C⟩:=C hc n;obtain⟨u,S,q,B,z⟩:=Nv (h:=h) (ats:=c.argTypes) (ty:=type) (by rw[←aV,hat];rfl) g;exact⟨u,S,q,B,trivial,fun w D=>by rw[C w];simp only[builtin];exact ib (z w D)⟩
  ·rename_i vs hc n
   obtain⟨cs,C⟩:=C hc n;obtain⟨u,q,z⟩:=zy (P:=P) (ats:=c.argTypes) (ty:=type) g;exact⟨u,none,q,trivial,trivial,fun w _=>by rw[C w];simp only[builtin];exact ib (z w)⟩
  ·rename_i vs hc n
   obtain⟨cs,C⟩:=C hc n;obtain⟨u,q,z⟩:=zy (P:=P) (ats:=c.argTypes) (ty:=type) g;exact⟨u,none,q,trivial,trivial,fun w _=>by rw[C w];simp only[builtin];exact ib (z w)⟩
  ·rename_i v hc n
   obtain⟨cs,C⟩:=C hc n;obtain⟨u,q,z⟩:=JA (P:=P) (ats:=c.argTypes) (ty:=type) g;exact⟨u,none,q,trivial,trivial,fun w _=>by rw[C w];simp only[builtin];exact ib (z w)⟩
  ·exact g.elim
 |build t ps=>
  simp only[CE]at g;split at g
  ·rename_i vs n
   split at g
   ·rename_i cs hcs
    refine⟨_,none,g,trivial,trivial,fun w _=>?_⟩
    have hp:(ps.map fun x=>(x.1,a.eval x.2))=vs.toArray:=by
     rw[←oE O n];apply cJ;simp
    have F:=BL (ps:=vs.toArray) (by simpa using hcs) w;simp only[execOp];rw[show(ps.map fun(i,x)=>(i,a.eval x))=vs.toArray from hp]
    exact ib F
   ·exact g.elim
  ·exact g.elim
 |_=>simp only[CE]at g
end Go.Lift
namespace Go.Lift
open Go
variable {P:Program}
def Mo(P:Program)(s:Sem Next)(K:WK)(w:World):Prop:=
 (∃v w',s.run P w=.ok (.value v) w'∧Tame w w'∧K v w'.heap)∨
 (∃w',s.run P w=.ok .skip w'∧Tame w w'∧K undef w'.heap)∨
 (∃f args,s.run P w=.ok (.enter f args) w∧Calls P f args w fun e w'=>Tame w w'∧∃v,e=.returned v∧K v w'.heap)∨
 (∃l fn tmps assign body,s.run P w=.ok (.round l fn tmps assign body) w∧
  ∀(c:Frame) (cs:List Frame),∃b w',Tame w w'∧K (.bool b) w'.heap∧Steps P (lone (Frame.round l fn tmps assign body .normal) (c::cs) w) (lone (c.finish (.bool b)) cs w'))
def Wv(P:Program)(s:Sem Value)(K:WK)(w:World):Prop:=∃v w',s.run P w=.ok v w'∧Tame w w'∧K v w'.heap
theorem Wv.out{s:Sem Value}{K:WK}{w:World}(h:Wv P s K w):Mo P (do pure (Next.value (←s))) K w:=by
 obtain⟨v,w',c,a,b⟩:=h;exact .inl ⟨v,w',ib c,a,b⟩
def Wu(P:Program)(s:Sem Unit)(K:WK)(w:World):Prop:=∃w',s.run P w=.ok () w'∧Tame w w'∧K undef w'.heap
theorem Wu.out{s:Sem Unit}{K:WK}{w:World}(h:Wu P s K w):Mo P (do s;pure Next.skip) K w:=by
 obtain⟨w',c,a,b⟩:=h;exact .inr (.inl ⟨w',RW c,a,b⟩)
def iX(w:World)(h:ad):World:={w with heap:=h}
theorem dJ(w:World)(h:ad):Tame w (iX w h):=⟨rfl,rfl,rfl⟩
theorem km(e:TypeId)(cs:Array Value)(w:World):(newRow e cs).run P w=.ok (aJ w.heap) (iX w (hnew w.heap cs.toList e)):=by
 simp[newRow,newObj,nG,aJ,iX,hnew,bind,Sem.bind,pure]
theorem Ai(o:Obj)(w:World):(newObj o).run P w=.ok w.heap.size (iX w (w.heap.push o)):=rfl
theorem HB{h:ad}{a b:Addr}(v:Value)(c:a≠b):aC (hset h a v) b=aC h b:=
 World.cell?_setCell_other {(default:World)with heap:=h} a b v c
theorem Ep{h:ad}{a:Addr}{u:Value}(v:Value)(hc:aC h a=some u):aC (hset h a v) a=some v:=
 World.cell?_setCell_same {(default:World)with heap:=h} a v hc
theorem JV{h:ad}{a b:Addr}(v:Value):E3 (hset h a v) b=E3 h b:=
 World.frozen?_setCell {(default:World)with heap:=h} a b v
theorem Wr.hset{h:ad}{a b:Addr}(v:Value)(d:Wr h b):Wr (hset h a v) b:=by
 obtain⟨⟨u,c⟩,f⟩:=d;refine⟨?_,by rw[JV];exact f⟩
 by_cases e:a=b
 ·subst e;exact⟨v,Ep v c⟩
 ·exact⟨u,by rw[HB v e];exact c⟩
theorem Ng{w:World}{a:Addr}{v:Value}(f:∀cs,v≠ .agg cs)(b:∀cs,v≠ .tuple cs)(g:Wr w.heap a):(store a v).run P w=.ok () (iX w (hset w.heap a v)):=by
 obtain⟨⟨u,e⟩,i⟩:=g;have c:w.cell? a=some u:=e;have d:w.frozen? a=false:=i;cases v<;>first|exact absurd rfl (f _)|exact absurd rfl (b _)|(simp only[store,nG,c,d];rfl)
theorem JM{v:Value}{vs:List Value}(h:cj (v::vs)=true):(∀cs,v≠ .agg cs)∧(∀cs,v≠ .tuple cs)∧cj vs=true:=by
 simp only[cj,aX]at h;refine⟨fun cs e=>?_,fun cs e=>?_,h.2⟩<;>(subst e;exact absurd h.1 (by simp))
theorem sC{a:Addr}:∀(vs:List Value) (i:Nat) (w:World),cj vs=true→(∀j,j<vs.length→Wr w.heap (adr a (i+j)))→
  (storeCells a vs i).run P w=.ok () (iX w (gP w.heap a i vs))
 | [],i,w,_,_=>rfl
 |v::vs,i,w,b,hw=>by
  obtain⟨d,e,b⟩:=JM b;have c:=hw 0 (by simp);simp only[jm]at c;have f:a.add i=adr a i:=(uV a i).symm;simp only[storeCells,f,aO,Ng d e c,az];rw[sC vs (i+1) (iX w (hset w.heap (adr a i) v)) b fun j g=>?_]
  ·rfl
  ·have:=hw (j+1) (by simp only[aG];omega)
   rw[show i+1+j=i+(j+1) by omega]
   exact this.hset v
theorem IM{a:Addr}(m:Nat):∀(vs:List Value) (i:Nat) (h:ad),gP h (adr a m) i vs=gP h a (m+i) vs
 | [],_,_=>rfl
 |v::vs,i,h=>by
  simp only[gP];rw[IM m vs (i+1),yO];rfl
theorem Ji{t:TypeId}{a v:Value}{K:WK}{w:World}(c:MU P t a v K w.heap):Wu P (Instr.storeAt t a v) K w:=by
 unfold MU at c;split at c
 ·rename_i a
  cases hb:(av v.cells.toList.length (bT P t)&&cj v.cells.toList)with
  |false=>rw[hb]at c;exact c.elim
  |true=>
   rw[hb]at c;simp only[aX]at hb;have n:=aS hb.1;obtain⟨c,m⟩:=pK c;have k:v.cells.size=bT P t:=by simpa using n
   have go:(∀j,j<v.cells.toList.length→Wr w.heap (adr a (0+j)))→(Instr.storeAt t (.pointer (some a)) v).run P w=.ok () (iX w (gP w.heap a 0 v.cells.toList)):=by
    intro d;have:=sC (P:=P) v.cells.toList 0 w hb.2 d;simp[Instr.storeAt,lV,storeVar,m,k,this]
   split at c
   ·rename_i u hu
    obtain⟨d,i⟩:=c;refine⟨_,go (fun j f=>?_),dJ _ _,?_⟩
    ·rw[hu]at f;simp only[aG,List.length_nil]at f
     obtain rfl:j=0:=by omega
     exact d
    ·rw[hu];exact i
   ·obtain⟨d,i⟩:=c
    refine⟨_,go (fun j f=>?_),dJ _ _,i⟩
    rcases d with e|⟨b,g,d⟩
    ·rw[e]at f;cases f
    ·cases g;exact d j f
 ·exact c.elim
theorem jF(z:Array Value)(n:Nat):(gL z n).toList=de n z.toList:=by
 have key:∀n,(List.range (n*z.size)).map (fun i=>z[i%z.size]!)=(bO n z.toList).flatten:=by
  intro n;induction n with
  |zero=>simp
  |succ n ih=>
   rw[Nat.succ_mul,List.range_add,List.map_append,ih,List.replicate_succ',List.flatten_append];congr 1
   simp only[kD,List.flatten_cons,List.flatten_nil,List.append_nil];apply List.ext_getElem
   ·simp
   ·intro i a b
    simp only[List.length_map,List.length_range]at a;simp[Nat.mod_eq_of_lt a,a,Nat.add_mod]
 simpa[gL,de]using key n
theorem dA{t e:TypeId}(h:wP P t=some e):P.underlying t=some (.slice e):=by
 unfold wP at h;split at h
 ·rename_i e' hu;simp only[bh.injEq]at h;subst h;exact hu
 ·cases h
theorem ON{z:Value}{n:Nat}:((Array.range (n*z.cells.size)).map (z.cells[· %z.cells.size]!))=(de n z.cells.toList).toArray:=by
 have:=jF z.cells n;unfold gL at this;apply cJ;rw[this]
theorem De{t e:TypeId}{n:Nat}{ps:Array (Nat×Value)}{z cs:List Value}(q:wP P t=some e)(m:ra P e=some z)(u:n*bT P e≤16777216)(k:z.length=bT P e)
  (o:DW (fun i=>some (i*bT P e,bT P e)) (de n z) ps.toList=some cs)(w:World):
  (Instr.buildSlice t n ps).run P w=.ok (.slice (some (aJ w.heap)) n n) (iX w (hnew w.heap cs e)):=by
 obtain⟨v,g,c⟩:=jX m;obtain⟨i,hi,s⟩:=rY g;have p:(sizeOf e).run P w=.ok (bT P e) w:=by simp[sizeOf,cP hi,bT,hi]
 have f:v.cells.size=bT P e:=by rw[←k,←c];simp
 have j:=tT _ _ _ o;have a:((Array.range (n*bT P e)).map (fun i=>(if n*bT P e=0 then #[]else v.cells)[i%(if n*bT P e=0 then #[]else v.cells).size]!))=(de n z).toArray:=by
  by_cases b:n*bT P e=0
  ·have:(de n z).length=0:=by simp[de,k,b]
   rw[bJ.1 this];simp[b]
  ·simp only[if_neg b]
   rw[←f,ON,c]
 have d:¬(n*bT P e>2^24):=by omega
 simp only[Instr.buildSlice,aO,ay (dA q),az,p,if_neg d];by_cases b:n*bT P e=0
 ·simp only[if_pos b]at a
  simp only[if_pos b,aO,bB,az,a,j,km]
 ·simp only[if_neg b]at a
  simp only[if_neg b,aO,bB,az,eM g,a,j,km]
theorem PO{h:ad}{a:Addr}{vs:List Value}(c:Row h a vs):∀j v,vs[j]? =some v→aC h (a.add j)=some v:=fun j v b=>by
 rw[←uV];exact c j v b
theorem yC{size n cap len:Nat}{b:Option Addr}{vs:List Value}{w:World}(e:SRow w.heap b (n*size) vs):(eK size n (.slice b len cap)).run P w=.ok vs.toArray w:=by
 obtain⟨d,a⟩:=e;cases b with
 |none=>
  rcases a with rfl|⟨_,h,_⟩
  ·simp[eK]
  ·cases h
 |some b=>
  refine run_firstCells_some w size n b len cap vs d fun j v c=>?_
  rcases a with rfl|⟨_,h,a⟩
  ·cases c
  ·cases h;exact PO a j v c
theorem Fw{a:Addr}{m:Nat}{xs:List Value}{w:World}(d:cj xs=true)(c:td w.heap (some a) m xs):
  (storeCells (a.add m) xs).run P w=.ok () (iX w (gP w.heap a m xs)):=by
 rcases c with rfl|⟨b,f,c⟩
 ·rfl
 ·cases f
  have:=sC (P:=P) (a:=adr a m) xs 0 w d fun j e=>by rw[yO,aI];exact c j e
  rw[←uV,this,IM,jm]
set_option maxHeartbeats 1000000 in
theorem GF{t e u ty:TypeId}{b:Option Addr}{sl f c:Nat}{xs:List Value}{x:Value}{K:WK}{w:World}(C:wP P t=some e)(k:(∃s,P.underlying u=some (.slice s))∨P.underlying u=some .string)
  (g:∀w,(qs x).run P w=.ok c w)(hx:∀w':World,w'.heap=w.heap→(eK (bT P e) c x).run P w'=.ok xs.toArray w')
  (hi:∃i,P.info? e=some i)
  (h:Tx P e b sl f c xs K w.heap):Wv P (dI #[t,u] ty #[.slice b sl f,x]) K w:=by
 obtain⟨i,hi⟩:=hi;have j:bT P e=i.size:=by simp[bT,hi]
 have D:rq P e=i.bytes:=by simp[rq,hi]
 by_cases hc:sl+c≤f
 ·obtain⟨L,J,G⟩:=h.1 hc
  refine⟨_,_,?_,dJ w (eR w.heap b (sl*bT P e) xs),G⟩;cases b with
  |none=>
   have d:=hx w rfl;rw[j]at d;rcases k with⟨s,hd⟩|hd<;>(simp[dI,ay (dA C),ay hd,sizeOf,cP hi,g,hc,d];rfl)
  |some a=>
   have m:=Fw (P:=P) J L;have d:=hx w rfl;rw[j]at m d;rcases k with⟨s,hd⟩|hd<;>(simp[dI,ay (dA C),ay hd,sizeOf,cP hi,g,hc,d,m,eR,j])
 ·obtain⟨old,z,N,I,F,y,G⟩:=h.2 (by omega)
  obtain⟨v,H,B⟩:=jX I;obtain⟨Q,n,O⟩:=rY H;rw[hi]at n;cases n;rw[D]at F y;have q:¬i.bytes=0:=by omega
  have o:¬(281474976710656<lW (sl+c) f*i.bytes):=by omega
  have d:=hx w.drew rfl;have p:(eK (bT P e) sl (.slice b sl f)).run P w.drew=.ok old.toArray w.drew:=yC N;rw[j]at d p;have E:sl+c≤(Question.appendCap (sl+c) f e).cut (w.tape w.drawn (.appendCap (sl+c) f e)):=Nat.le_add_right _ _;refine⟨_,iX w.drew (hnew w.heap (old++xs++de ((Question.appendCap (sl+c) f e).cut (w.tape w.drawn (.appendCap (sl+c) f e))-(sl+c)) z) e),?_,⟨rfl,rfl,rfl⟩,G _ E⟩
  have A:(gL v.cells ((Question.appendCap (sl+c) f e).cut (w.tape w.drawn (.appendCap (sl+c) f e))-(sl+c)))=(de ((Question.appendCap (sl+c) f e).cut (w.tape w.drawn (.appendCap (sl+c) f e))-(sl+c)) z).toArray:=by
   apply cJ;rw[jF,B]
  rcases k with⟨s,hd⟩|hd<;>(simp[dI,ay (dA C),ay hd,sizeOf,cP hi,g,hc,q,o,Question.forced,d,p,eM H,km,A,aJ];rfl)
theorem F1{t:TypeId}{K:Prop}(h:So P t K):∃i,P.info? t=some i:=by
 unfold So at h;cases hi:P.info? t with
 |none=>rw[hi]at h;exact h.elim
 |some i=>exact⟨i,rfl⟩
theorem Bx{t:TypeId}(h:bT P t≠0):∃i,P.info? t=some i:=by
 cases hi:P.info? t with
 |none=>exact absurd (by simp[bT,hi]) h
 |some i=>exact⟨i,rfl⟩
theorem D1{size n:Nat}{x:ByteArray}{w:World}:(eK size n (.string x)).run P w=.ok ((cz x).take n).toArray w:=by
 simp only[eK,bB];congr 1
 apply cJ;simp[cz,hE,fY,←List.map_take]
theorem zu{t u ty:TypeId}{s x:Value}{K:WK}{w:World}(c:(∃e',P.underlying u=some (.slice e'))∨P.underlying u=some .string)(h:EN P t s x K w.heap):
  Wv P (dI #[t,u] ty #[s,x]) K w:=by
 unfold EN at h;split at h
 ·rename_i e b sl sc a xl xc ht
  have hi:=F1 h;obtain⟨⟨xs,d,g⟩,i⟩:=pK h;exact GF ht c (fun w=>rfl) (fun w' f=>yC (by rw[f];exact d)) hi g
 ·rename_i e b sl sc x ht
  cases hb:av (bT P e) 1 with
  |false=>rw[hb]at h;exact h.elim
  |true=>
   rw[hb]at h;have j:=aS hb;have k:(cz x).length=x.size:=by simp[cz]
   refine GF ht c (fun w=>rfl) (fun w' _=>?_) (Bx (by omega)) h
   rw[D1,bI (by omega)]
 ·exact h.elim
theorem CG{n:Int}(b:0≤n)(a:n≤9223372036854775807):IntKind.i64.wrap n=n:=IntWalk.i64_in n ⟨by omega,a⟩
theorem On{t e u ty:TypeId}{b:Option Addr}{sl g:Nat}{k0 k:IntKind}{l:Int}{z:List Value}{K:WK}{w:World}(y:wP P t=some e)(x:P.underlying u=some (.int k0))
  (T:ra P e=some z)(S:z.length=bT P e)(W:0≤l)(O:l*rq P e≤2^48)(X:l≤9223372036854775807)(h3:((sl+l.toNat:Nat):Int)≤9223372036854775807)
  (h:Tx P e b sl g l.toNat (de l.toNat z) K w.heap):Wv P (dI #[t,u] ty #[.slice b sl g,.int k l]) K w:=by
 obtain⟨v,B,D⟩:=jX T;obtain⟨i,hi,Z⟩:=rY B;have j:bT P e=i.size:=by simp[bT,hi]
 have E:rq P e=i.bytes:=by simp[rq,hi]
 have A:IntKind.wrap .i64 l=l:=CG W X;have c:¬l<0:=by omega
 rw[E]at O;have f:¬(281474976710656:Int)<l*i.bytes:=by omega
 have d:∀w':World,(asInt (.int k l)).run P w'=.ok l w':=fun w'=>rfl
 have F:(gL v.cells l.toNat)=(de l.toNat z).toArray:=by apply cJ;rw[jF,D]
 have q:l.toNat*i.size=0→de l.toNat z= []:=fun N=>by
  have G:(de l.toNat z).length=l.toNat*i.size:=by rw[←j,←S];unfold de;simp
  exact bJ.1 (by rw[G,N])
 by_cases hc:sl+l.toNat≤g
 ·obtain⟨L,O,I⟩:=h.1 hc
  refine⟨_,_,?_,dJ w (eR w.heap b (sl*bT P e) (de l.toNat z)),I⟩;cases b with
  |none=>
   by_cases m:l.toNat*i.size=0
   ·simp[dI,ay (dA y),ay x,sizeOf,cP hi,d,A,c,f,hc,m];rfl
   ·simp[dI,ay (dA y),ay x,sizeOf,cP hi,d,A,c,f,hc,eM B];rfl
  |some a=>
   have n:=Fw (P:=P) O L;rw[j]at n;by_cases m:l.toNat*i.size=0
   ·rw[q m]at n
    simp[dI,ay (dA y),ay x,sizeOf,cP hi,d,A,c,f,hc,n,eR,j,m,q m]
   ·simp[dI,ay (dA y),ay x,sizeOf,cP hi,d,A,c,f,hc,n,eR,j,m,eM B,F]
 ·obtain⟨old,z',Y,H,R,J,I⟩:=h.2 (by omega)
  rw[T]at H;cases H;rw[E]at R J;have U:¬i.bytes=0:=by omega
  have p:¬(281474976710656<lW (sl+l.toNat) g*i.bytes):=by omega
  have V:¬(9223372036854775807:Int)<((sl:Int)+(l.toNat:Int)):=by omega
  have o:¬(9223372036854775807:Int)<((sl:Int)+max l 0):=by omega
  have s:(eK (bT P e) sl (.slice b sl g)).run P w.drew=.ok old.toArray w.drew:=yC Y;rw[j]at s;have Q:sl+l.toNat≤(Question.appendCap (sl+l.toNat) g e).cut (w.tape w.drawn (.appendCap (sl+l.toNat) g e)):=Nat.le_add_right _ _;refine⟨_,iX w.drew (hnew w.heap (old++de l.toNat z++de ((Question.appendCap (sl+l.toNat) g e).cut (w.tape w.drawn (.appendCap (sl+l.toNat) g e))-(sl+l.toNat)) z) e),?_,⟨rfl,rfl,rfl⟩,I _ Q⟩
  have C:(gL v.cells ((Question.appendCap (sl+l.toNat) g e).cut (w.tape w.drawn (.appendCap (sl+l.toNat) g e))-(sl+l.toNat)))=(de ((Question.appendCap (sl+l.toNat) g e).cut (w.tape w.drawn (.appendCap (sl+l.toNat) g e))-(sl+l.toNat)) z).toArray:=by
   apply cJ;rw[jF,D]
  by_cases m:l.toNat*i.size=0
  ·rw[q m]at I⊢
   simp[dI,ay (dA y),ay x,sizeOf,cP hi,d,A,c,f,hc,o,p,Question.forced,s,eM B,km,C,aJ,m];rfl
  ·simp[dI,ay (dA y),ay x,sizeOf,cP hi,d,A,c,f,hc,o,p,Question.forced,s,eM B,km,C,aJ,m,F];rfl
theorem Fc{t u ty:TypeId}{k0:IntKind}{s x:Value}{K:WK}{w:World}(d:P.underlying u=some (.int k0))(h:Fe P t s x K w.heap):
  Wv P (dI #[t,u] ty #[s,x]) K w:=by
 unfold Fe at h;split at h
 ·rename_i e b sl sc k l ht
  split at h
  ·rename_i z hz
   cases hb:av z.length (bT P e)with
   |false=>rw[hb]at h;exact h.elim
   |true=>
    rw[hb]at h;obtain⟨⟨f,a,i,c⟩,g⟩:=h;exact On ht d hz (aS hb) f a i c g
  ·exact h.elim
 ·exact h.elim
theorem md:∀{a b:List Value},cj a=true→cj b=true→cj (a++b)=true
 | [],_,_,h=>h
 |v::a,b,h,k=>by
  simp only[cj,mC,aX]at h⊢;exact⟨h.1,md h.2 k⟩
theorem Bi{z:List Value}(h:cj z=true):∀n,cj (de n z)=true
 |0=>rfl
 |n+1=>by
  have:de (n+1) z=z++de n z:=by simp[de,List.replicate_succ]
  rw[this];exact md h (Bi h n)
theorem Jk{t ty:TypeId}{x:Value}{K:WK}{w:World}(h:MW P t x K w.heap):Wv P (tK #[t] ty #[x]) K w:=by
 unfold MW at h;split at h
 ·rename_i e a n c ht
  split at h
  ·rename_i z hz
   obtain⟨v,g,f⟩:=jX hz;cases ho:cj z with
   |false=>rw[ho]at h;exact h.elim
   |true=>
    rw[ho]at h;obtain⟨i,j⟩:=h;refine⟨_,_,?_,dJ w (eR w.heap a 0 (de n z)),j⟩;cases a with
    |none=>simp[tK,ay (dA ht)];rfl
    |some a=>
     cases n with
     |zero=>simp[tK,ay (dA ht)];rfl
     |succ n=>
      have b:=Fw (P:=P) (Bi ho (n+1)) i;rw[←uV,GH]at b;have d:(gL v.cells (n+1)).toList=de (n+1) z:=by rw[jF,f]
      simp[tK,ay (dA ht),eM g,d,b,eR]
  ·exact h.elim
 ·exact h.elim
theorem Bj:∀(xs:List Value) (n:Nat),cj xs=true→cj (xs.take n)=true
 | [],n,_=>by simp[cj]
 |x::xs,0,_=>by simp[cj]
 |x::xs,n+1,h=>by
  simp only[cj,aX,List.take_succ_cons]at h⊢;exact⟨h.1,Bj xs n h.2⟩
theorem Hn(x:ByteArray):cj (cz x)=true:=by
 have:∀l:List UInt8,cj (l.map fun b=>.int .u8 (b.toNat:Int))=true:=by
  intro l;induction l with
  |nil=>rfl
  |cons b l ih=>simp[cj,ih]
 exact this _
theorem K0{t u ty:TypeId}{d s:Value}{K:WK}{w:World}(h:Rg P t d s K w.heap):Wv P (qu #[t,u] ty #[d,s]) K w:=by
 unfold Rg at h;split at h
 ·rename_i e b dl dc a sl sc ht
  obtain⟨⟨xs,k,n,p,o⟩,g⟩:=pK h;refine⟨_,_,?_,dJ w (eR w.heap b 0 xs),o⟩;have j:=yC (P:=P) (len:=sl) (cap:=sc) k;cases b with
  |none=>simp[qu,ay (dA ht),qs,g,j,goInt];rfl
  |some c=>
   have f:=Fw (P:=P) (m:=0) p n;simp only[Addr.add,if_pos]at f;simp[qu,ay (dA ht),qs,g,j,goInt,f,eR]
 ·rename_i e b dl dc x ht
  cases hb:av (bT P e) 1 with
  |false=>rw[hb]at h;exact h.elim
  |true=>
   rw[hb]at h;have p:=aS hb;obtain⟨i,hi⟩:=Bx (P:=P) (t:=e) (by omega);have g:(sizeOf e).run P w=.ok (bT P e) w:=by simp[sizeOf,cP hi,bT,hi]
   obtain⟨n,o⟩:=h;have v:(cz x).length=x.size:=by simp[cz]
   have q:(cz x).take (dF x.size dl)=(cz x).take dl:=by
    by_cases hx:x.size≤dl
    ·rw[show dF x.size dl=x.size from Nat.min_eq_left hx,bI (by omega),bI (by omega)]
    ·rw[show dF x.size dl=dl from Nat.min_eq_right (by omega)]
   have j:(eK (bT P e) (dF x.size dl) (.string x)).run P w=.ok ((cz x).take dl).toArray w:=by
    rw[D1,q]
   refine⟨_,_,?_,dJ w (eR w.heap b 0 ((cz x).take dl)),o⟩;cases b with
   |none=>simp[qu,ay (dA ht),qs,g,j,goInt];rfl
   |some c=>
    have f:=Fw (P:=P) (m:=0) (Bj _ dl (Hn x)) n;simp only[Addr.add,if_pos]at f;simp[qu,ay (dA ht),qs,g,j,goInt,f,eR]
 ·exact h.elim
theorem O6(k v:Value)(a:Nat):∀(es:List MapEntry),(match es.findIdx? (fun e=>fC k e.key)with
  |some i=>(es.modify i (fun e=>{e with key:=k,val:=v}),a)
  |none=>(es++ [{key:=k,val:=v,born:=a}],a+1))=JE k v a es
 | []=>rfl
 |e::es=>by
  have b:=O6 k v a es;simp only[JE,List.findIdx?_cons];cases hk:fC k e.key with
  |true=>simp[List.modify]
  |false=>
   simp only[df,if_false];rw[←b];cases hf:es.findIdx? (fun e=>fC k e.key)with
   |none=>simp
   |some i=>simp[List.modify]
theorem xH{d:TypeDesc}{c:CK}(hd:oZ d c)(x:c.den):∀(es:List MapEntry) (i:Nat),keysOf c es→
  nr d (c.enc x) es i=some (match es.findIdx? (fun e=>fC (c.enc x) e.key)with
   |some j=>(es[j]?).map fun e=>(i+j,e.val)
   |none=>none)
 | [],i,_=>rfl
 |e::es,i,h=>by
  obtain⟨y,g⟩:=h e (by simp);have b:=DI hd x y;rw[←g]at b;have f:=xH hd x es (i+1) fun k a=>h k (by simp[a])
  simp only[nr,List.findIdx?_cons,b];cases hb:fC (c.enc x) e.key with
  |true=>simp
  |false=>
   simp only[df,if_false];rw[f];cases hf:es.findIdx? (fun e=>fC (c.enc x) e.key)with
   |none=>simp
   |some j=>simp[Nat.add_assoc,Nat.add_comm 1 j]
theorem wQ{a b:ByteArray}(h:(a==b)=true):a=b:=by
 cases a with|mk a=>cases b with|mk b=>
 have h:(a==b)=true:=h;rw[eq_of_beq h]
theorem ye(a:ByteArray):(a==a)=true:=by
 cases a with|mk a=>
 exact beq_self_eq_true a
theorem Ju{d:TypeDesc}{c:CK}(hd:oZ d c)(x y:c.den)(h:fC (c.enc x) (c.enc y)=true):Instr.sameBits 10000 (c.enc y) (c.enc x)=true:=by
 rcases hd with⟨i,rfl,rfl⟩|⟨rfl,rfl⟩|⟨rfl,rfl⟩
 ·have h:x=y:=eq_of_beq (α:=Int) h
  subst h;have:∀n:Int,(i==i&&n==n)=true:=fun n=>by simp
  exact this x
 ·have h:x=y:=wQ h
  subst h;exact ye x
 ·have h:x=y:=eq_of_beq (α:=Bool) h
  subst h;exact beq_self_eq_true (α:=Bool) x
theorem vX{w:World}{r:Nat}{es:Array MapEntry}{a:Nat}{o:Obj}(h:w.heap[r]? =some (.map es a)):(setObj r o).run P w=.ok () (iX w (w.heap.setIfInBounds r o)):=by
 simp only[setObj,nG,h];rfl
theorem NI{t k e:TypeId}{d:TypeDesc}{c:CK}(A:P.underlying t=some (.map k e))(u:P.underlying k=some d)(hd:oZ d c){r:Nat}{x:c.den}{v:Value}{w:World}(hm:yg c w.heap r):
  (Instr.mapUpdate t (.map (some r)) (c.enc x) v).run P w=.ok () (iX w (me w.heap r (c.enc x) v)):=by
 obtain⟨es,a,j,f⟩:=hm;obtain⟨q,z,b,C⟩:=wb (P:=P) hd u x f w;rw[xH hd x es.toList 0 f]at b;have g:=O6 (c.enc x) v a es.toList;have m:me w.heap r (c.enc x) v=w.heap.setIfInBounds r (.map (JE (c.enc x) v a es.toList).1.toArray (JE (c.enc x) v a es.toList).2):=by
  simp only[me,j]
 rw[m,←g];simp only[Instr.mapUpdate,aO,ay A,az,lH j,nf hd u,z];cases hf:es.toList.findIdx? (fun e=>fC (c.enc x) e.key)with
 |none=>
  rw[hf]at b;simp only[bh.injEq]at b;subst b;simp only[vX j];congr 4
  apply cJ;simp
 |some i=>
  rw[hf]at b;simp only[bh.injEq]at b;obtain⟨hi,s,_⟩:=List.findIdx?_eq_some_iff_getElem.1 hf;have p:es.toList[i]? =some es.toList[i]:=ag hi;rw[p]at b;simp only[nH,aI]at b;subst b;have o:es[i]? =some es.toList[i]:=by rw[←aV];exact p
  obtain⟨y,B⟩:=f es.toList[i] (List.getElem_mem hi);have n:Instr.sameBits 10000 (es.toList[i]).key (c.enc x)=true:=by
   rw[B]at s⊢;exact Ju hd x y s
  simp only[o,nH,Option.getD_some,Instr.keyThatStays,n,if_true,aO,bB,az,vX j];congr 4
  apply cJ;simp
theorem zr{t:TypeId}{m k v:Value}{K:WK}{w:World}(h:EM P t m k v K w.heap):Wu P (Instr.mapUpdate t m k v) K w:=by
 unfold EM at h;split at h
 ·rename_i c e m hc
  obtain⟨g,d,b,f,hd⟩:=xC hc;obtain⟨i,rfl,r,rfl,hm,a⟩:=CK.dec_sound h;exact⟨_,NI b f hd hm,dJ _ _,a⟩
 ·exact h.elim
theorem L8(k:Value):∀(es:List MapEntry),(match es.findIdx? (fun e=>fC k e.key)with
  |some i=>es.eraseIdx i
  |none=>es)=Gq k es
 | []=>rfl
 |e::es=>by
  have a:=L8 k es;simp only[Gq,List.findIdx?_cons];cases hk:fC k e.key with
  |true=>simp
  |false=>
   simp only[df,if_false];rw[←a];cases hf:es.findIdx? (fun e=>fC k e.key)<;>simp
theorem LO{t k e ty:TypeId}{ts:Array TypeId}{d:TypeDesc}{c:CK}(y:ts[0]? =some t) (u:P.underlying t=some (.map k e)) (p:P.underlying k=some d) (hd:oZ d c) {r:Nat} {x:c.den} {w:World} (hm:yg c w.heap r):
  (rA ts ty #[.map (some r),c.enc x]).run P w=.ok (.tuple #[]) (iX w (FR w.heap r (c.enc x))):=by
 obtain⟨es,g,m,j⟩:=hm;obtain⟨q,s,b,z⟩:=wb (P:=P) hd p x j w;rw[xH hd x es.toList 0 j]at b;have f:=L8 (c.enc x) es.toList;have o:FR w.heap r (c.enc x)=w.heap.setIfInBounds r (.map (Gq (c.enc x) es.toList).toArray g):=by
  simp only[FR,m]
 rw[o,←f];simp only[rA,y,List.getElem?_toArray,List.getElem?_cons_zero,List.getElem?_cons_succ,aO,ay u,az,lH m,nf hd p,s];cases hf:es.toList.findIdx? (fun e=>fC (c.enc x) e.key)with
 |none=>
  rw[hf]at b;simp only[bh.injEq]at b;subst b;simp[vX m]
 |some i=>
  rw[hf]at b;simp only[bh.injEq]at b;obtain⟨hi,A,_⟩:=List.findIdx?_eq_some_iff_getElem.1 hf;have v:es.toList[i]? =some es.toList[i]:=ag hi;rw[v]at b;simp only[nH,aI]at b;subst b;have n:i<es.size:=by simpa using hi
  have a:es.eraseIdxIfInBounds i=(es.toList.eraseIdx i).toArray:=by
   apply cJ;simp[Array.eraseIdxIfInBounds,n]
  simp[vX m,a]
theorem Fa{t ty:TypeId}{ts:Array TypeId}{m k:Value}{K:WK}{w:World}(g:ts[0]? =some t) (h:Fb P t m k K w.heap):Wv P (rA ts ty #[m,k]) K w:=by
 unfold Fb at h;split at h
 ·rename_i c e m hc
  obtain⟨i,d,b,f,hd⟩:=xC hc;obtain⟨j,rfl,h⟩:=CK.dec_sound h;rcases h with⟨rfl,a⟩|⟨r,rfl,hm,a⟩
  ·refine⟨_,w,?_,Tame.refl w,a⟩
   simp[rA,g,ay b,nf hd f]
  ·exact⟨_,_,LO g b f hd hm,dJ _ _,a⟩
 ·exact h.elim
theorem PQ{t k e:TypeId}(b:P.underlying t=some (.map k e)){m:Option Nat}{a:Nat}{w:World}(hm:m=none∧a=0∨∃r es,m=some r∧w.heap[r]? =some (.map es a)):
  (uJ t (.map m)).run P w=.ok (.pointer (some (aJ w.heap))) (iX w (w.heap.push (.mapIter m a #[] a))):=by
 rcases hm with⟨rfl,rfl⟩|⟨r,es,rfl,c⟩
 ·simp only[uJ,aO,ay b,az,bB,Ai,aJ]
 ·simp only[uJ,aO,ay b,az,bB,lH c,Ai,aJ]
theorem Nn{t:TypeId}(a:P.underlying t=some .string){s:ByteArray}{w:World}:
  (uJ t (.string s)).run P w=.ok (.pointer (some (aJ w.heap))) (iX w (w.heap.push (.stringIter s 0))):=by
 simp only[uJ,aO,ay a,az,bB,Ai,aJ]
theorem xw{w:World}{i:Nat}{m:Option Nat}{a:Nat}{b:Array Nat}{last:Nat}(h:w.heap[i]? =some (.mapIter m a b last)):(getObj i).run P w=.ok (.mapIter m a b last) w:=by
 simp only[getObj,nG,h]
theorem Lo{w:World}{i:Nat}{m:Option Nat}{a:Nat}{b:Array Nat}{last:Nat}{o:Obj}(h:w.heap[i]? =some (.mapIter m a b last)):(setObj i o).run P w=.ok () (iX w (w.heap.setIfInBounds i o)):=by
 simp only[setObj,nG,h];rfl
theorem Gz(n:Nat)(a:0<n)(w:World):∃k w',k<n∧(choose (.mapNext n)).run P w=.ok k w'∧Tame w w'∧w'.heap=w.heap:=by
 unfold choose;simp only[nG];by_cases h:(Question.mapNext n).forced=true
 ·exact⟨0,w,a,by rw[if_pos h],Tame.refl w,rfl⟩
 ·refine⟨(Question.mapNext n).cut (w.tape w.drawn (.mapNext n)),{w with drawn:=w.drawn+1},Nat.mod_lt _ a,by rw[if_neg h],⟨rfl,rfl,rfl⟩,rfl⟩
theorem KZ{I:Value}{t:TypeId}{K:WK}{w:World}(h:Rf I K w.heap):Wv P (p6 I false t) K w:=by
 unfold Rf at h;split at h
 ·rename_i a
  obtain⟨J,m,j,f,last,hi,h⟩:=h;obtain⟨b,off,O⟩:=a;simp only at J hi h;subst J;rcases h with⟨rfl,R⟩|⟨r,es,v,rfl,N,B,z,E⟩
  ·exact⟨_,w,by simp only[p6,aO,xw hi,az,bB],Tame.refl w,R⟩
  ·have s:(!f.isEmpty&& !es.isEmpty&&es.all (fun e=>decide (e.born≥last)))=false:=by
    rcases B with h|h|h<;>simp[h]
   obtain⟨left,i⟩:∃left,left=es.filter fun e=> !f.contains e.born:=⟨_,rfl⟩
   obtain⟨old,p⟩:∃old,old=left.filter (·.born<j):=⟨_,rfl⟩
   obtain⟨new,hnew⟩:∃new,new=left.filter (·.born≥j):=⟨_,rfl⟩
   obtain⟨d,g⟩:∃d:Array (Option MapEntry),d=(if old.isEmpty then #[none]else #[])++(old++new).map some:=⟨_,rfl⟩
   have C:0<d.size:=by
    rw[g];by_cases y:old.isEmpty=true
    ·simp[y];omega
    ·have:old.size≠0:=by simpa using y
     simp[y];omega
   obtain⟨k,D,S,u,L,H⟩:=Gz (P:=P) d.size C w;obtain⟨c,hc⟩:∃c,d[k]? =some c:=⟨d[k],Array.getElem?_eq_getElem S⟩;have G:D.heap[b]? =some (.mapIter (some r) j f last):=by rw[H];exact hi
   have n:(!f.isEmpty&& !es.isEmpty&&es.all fun x=>decide (x.born≥last))=false:=s
   cases c with
   |none=>
    refine⟨.tuple #[.bool false],D,?_,L,?_⟩
    ·simp only[p6,aO,xw hi,az,bB,lH N,n,df,if_false,←i,←p,←hnew,←g,u,hc]
    ·rw[H]
     have q:old.isEmpty=true:=by
      have hm:none∈d:=pC hc;rw[g]at hm;by_cases y:old.isEmpty=true
      ·exact y
      ·simp[y]at hm
     refine z fun e Q F=>?_
     cases hs:f.contains e.born with
     |true=>rfl
     |false=>
      have o:e∈old:=by
       rw[p,i];simp only[p7];exact⟨⟨by simpa using Q,by rw[hs];rfl⟩,by simpa using F⟩
      rw[Array.isEmpty_iff]at q;rw[q]at o;simp at o
   |some e=>
    have o:e∈es∧f.contains e.born=false:=by
     have hm:some e∈d:=pC hc;have A:e∈left:=by
      rw[g]at hm;rw[Array.mem_append]at hm;rcases hm with hm|hm
      ·split at hm<;>simp at hm
      ·simp only[Array.mem_map,bh.injEq,exists_eq_right,Array.mem_append]at hm
       rcases hm with hm|hm
       ·rw[p]at hm;exact(p7.1 hm).1
       ·rw[hnew]at hm;exact(p7.1 hm).1
     rw[i]at A;have:=p7.1 A;exact⟨this.1,by simpa using this.2⟩
    refine⟨.tuple #[.bool true,e.key,e.val],iX D (D.heap.setIfInBounds b (.mapIter (some r) j (f.push e.born) v)),?_,L.trans (dJ _ _),?_⟩
    ·simp only[p6,aO,xw hi,az,bB,lH N,n,df,if_false,←i,←p,←hnew,←g,u,hc,Lo G]
    ·rw[H]
     exact E e (by simpa using o.1) o.2
 ·exact h.elim
theorem Jj{i:Value}{t:TypeId}{K:WK}{w:World}(h:MV i K w.heap):Wv P (p6 i true t) K w:=by
 unfold MV at h;split at h
 ·rename_i a
  obtain⟨k,s,pos,hi,h⟩:=h;obtain⟨b,off,j⟩:=a;simp only at k hi h;subst k;have m:(getObj b).run P w=.ok (.stringIter s pos) w:=by simp only[getObj,nG,hi]
  rcases h with⟨o,f⟩|⟨c,hc,g,f⟩
  ·exact⟨_,w,by simp only[p6,aO,m,az,if_neg (ir.2 o),bB],Tame.refl w,f⟩
  ·have d:pos<s.size:=by
    rcases Nat.lt_or_ge pos s.size with h'|h'
    ·exact h'
    ·rw[getElem?_neg s pos (ir.2 h')]at hc;cases hc
   have e:(s[pos]'d)=c:=by rw[getElem?_pos s pos d]at hc;exact bh.inj hc
   have hd:=decode_ascii s pos d (by rw[e];exact g);rw[e]at hd;have n:(setObj b (.stringIter s (pos+1))).run P w=.ok () (iX w (w.heap.setIfInBounds b (.stringIter s (pos+1)))):=by simp only[setObj,nG,hi];rfl
   exact⟨_,_,by simp only[p6,aO,m,az,if_pos d,hd,n,bB];rfl,dJ _ _,f⟩
 ·exact h.elim
theorem IQ{w:World}{g n:Nat}(a:n≠0):w.freeze ⟨g,0,none⟩ n=iX w (hfreeze w.heap g n):=by
 unfold World.freeze;rw[if_neg a];rfl
theorem KY{t d ty:TypeId}{p n:Value}{K:WK}{w:World}(h:Re P t p n K w.heap):Wv P (Builtin.unsafeString_ #[t,d] ty #[p,n]) K w:=by
 unfold Re at h;split at h
 ·rename_i e a n hu
  cases hc:av (P.cellsOf e) 1 with
  |false=>rw[hc]at h;exact h.elim
  |true=>
   rw[hc]at h;rcases h with⟨rfl,c⟩|⟨l,g,cs,rfl,rfl,b,m,f,i,hx,c⟩
   ·exact⟨_,w,Lib.run_unsafeString_none ..,Tame.refl w,c⟩
   ·refine⟨_,_,Lib.run_unsafeString_row w t d ty e hu (aS hc) g cs.size (by simp[World.shape?,f]) l b i m ?_,?_,?_⟩
    ·intro j x k
     have:=hx j x k;have e:((⟨g,0,none⟩:Addr).add j)=⟨g,j,none⟩:=by unfold Addr.add;split<;>simp_all
     rw[e];simp[World.cell?,f,this]
    ·rw[IQ (by simpa using b)];exact dJ _ _
    ·rw[IQ (by simpa using b)];exact c
 ·exact h.elim
theorem Hp{t e:TypeId}{z:List Value}{k k':IntKind}{l c:Int}{w:World}(s:wP P t=some e)(B:ra P e=some z)(g:z.length=bT P e)(A:0≤l)(F:l≤c)(D:c≤9223372036854775807)(C:rq P e*c≤2^48):
  (Instr.makeSlice t (.int k l) (.int k' c)).run P w=.ok (.slice (some (aJ w.heap)) l.toNat c.toNat) (iX w (hnew w.heap (de c.toNat z) e)):=by
 obtain⟨v,p,d⟩:=jX B;obtain⟨i,hi,E⟩:=rY p;have f:bT P e=i.size:=by simp[bT,hi]
 have m:rq P e=i.bytes:=by simp[rq,hi]
 have n:v.cells.size=i.size:=by rw[←f,←g,←d];simp
 have u:=CG A (by omega);have hc:=CG (show 0≤c by omega) D
 rw[m]at C;have c1:¬(c<0):=by omega
 have q:¬(281474976710656<(i.bytes:Int)*c):=by omega
 have x:¬(l<0):=by omega
 have y:¬(c<l):=by omega
 by_cases a:c.toNat*i.size=0
 ·have o:(de c.toNat z).length=0:=by simp[de,g,f,a]
  rw[bJ.1 o];simp[Instr.makeSlice,ay (dA s),asInt,asIntOf,cP hi,u,hc,c1,q,x,y,sizeOf,a,km]
 ·have b:((Array.range (c.toNat*i.size)).map (fun j=>v.cells[j%v.cells.size]!))=(de c.toNat z).toArray:=by
   rw[←n,ON,d]
  have key:(newRow e ((Array.range (c.toNat*i.size)).map (fun j=>v.cells[j%v.cells.size]!))).run P w=.ok (aJ w.heap) (iX w (hnew w.heap (de c.toNat z) e)):=by
   rw[b,km]
  simp[Instr.makeSlice,ay (dA s),asInt,asIntOf,cP hi,u,hc,c1,q,x,y,sizeOf,a,eM p];rw[key];rfl
theorem Agree.args{N:Nat}{r:cB}{a:Act}(h:Agree N r a){os:Array Operand}{vs:List Value}(b:nN r os.toList=some vs):os.map a.eval=vs.toArray:=by
 rw[←l4 h b];apply cJ;simp
theorem HC.out{f:FuncId}{args:List Value}{ks:List Kind}{K:WK}{w:World}(h:HC P f args ks (fun x h'=>K (Bf ks (lO ks x)) h') w.heap):Mo P (callFunc f args.toArray) K w:=by
 rcases h.run w rfl with⟨b,d⟩|⟨v,w',b,a,x,rfl,c⟩
 ·refine .inr (.inr (.inl ⟨f,args.toArray,b,d.mono ?_⟩))
  rintro e w' ⟨a,x,rfl,c⟩;exact⟨a,_,rfl,c⟩
 ·exact .inl ⟨_,w',b,a,c⟩
theorem QF{a b e:TypeId}{s:ByteArray}{w:World}(j:P.underlying a=some .string)(hd:P.underlying b=some (.slice e))(g:P.underlying e=some (.int .u8)):
  ∃c,s.size≤c∧(convert a b (.string s)).run P w=.ok (.slice (some (aJ w.heap)) s.size c) (iX w.drew (w.heap.push (.cells (cz s++bO (c-s.size) (Value.int .u8 0)).toArray e (c,c+1)))):=by
 have f:s.size≤grownCap w s.size 0 e:=Nat.le_add_right _ _;refine⟨_,f,?_⟩;rw[Go.Lib.run_convert_string_bytes w a b e s j hd g];have hc:(Go.Lib.bytesCells w e s).size=grownCap w s.size 0 e:=by
  unfold Go.Lib.bytesCells;rw[Array.size_append,Array.size_map,Array.size_replicate,show s.data.size=s.size from rfl]
  omega
 have d:(cz s++bO (grownCap w s.size 0 e-s.size) (Value.int .u8 0)).toArray=Go.Lib.bytesCells w e s:=by
  unfold Go.Lib.bytesCells cz;apply cJ;simp
 rw[d];unfold Go.Lib.bytesWorld World.freeze;rw[if_neg (by omega),hc];unfold World.alloc World.drew iX;congr 1
 congr 1
 apply Array.ext (by simp);intro i m k;rw[Array.getElem_modify];simp only[Array.getElem_push];split
 ·rename_i e
  subst e;simp
 ·rename_i e
  have hi:i<w.heap.size:=by simp at k;omega
  rw[dif_pos hi,dif_pos hi]
theorem CI{o:Oper}{r:cB}{K:WK}{w:World}{N:Nat}{a:Act}(G:Agree N r a)(j:Hg P o r K w.heap):Mo P (execOp a.eval o) K w:=by
 have B:∀{x:Operand} {v:Value},cZ r x=some v→a.eval x=v:=fun h=>j1 G h
 obtain⟨W,op,type,pos,L,J⟩:=o;cases op with
 |alloc t=>
  simp only[Hg]at j;split at j
  ·rename_i z hz
   obtain⟨v,D,T⟩:=jX hz;have F:(Instr.alloc t true (.tuple #[])).run P w=.ok (.pointer (some (aJ w.heap))) (iX w (hnew w.heap z t)):=by
    simp[Instr.alloc,eM D,newVar,km,T]
   exact Wv.out ⟨_,_,F,dJ _ _,j⟩
  ·exact j.elim
 |box t x=>
  simp only[Hg]at j;split at j
  ·rename_i v D
   have F:(Instr.box t v).run P w=.ok (.pointer (some (aJ w.heap))) (iX w (hnew w.heap v.cells.toList t)):=by
    simp[Instr.box,newVar,km]
   simp only[execOp,B D];exact Wv.out ⟨_,_,F,dJ _ _,j⟩
  ·exact j.elim
 |build t ps=>
  simp only[Hg]at j;split at j
  ·rename_i vs q
   split at j
   ·rename_i cs hcs
    have S:(ps.map fun x=>(x.1,a.eval x.2))=vs.toArray:=by
     rw[←oE G q];apply cJ;simp
    have F:=BL (ps:=vs.toArray) (by simpa using hcs) w;simp only[execOp];rw[show(ps.map fun(i,x)=>(i,a.eval x))=vs.toArray from S]
    exact Wv.out ⟨_,w,F,Tame.refl w,j⟩
   ·exact j.elim
  ·exact j.elim
 |buildSlice t n ps=>
  simp only[Hg]at j;split at j
  ·rename_i e vs I q
   split at j
   ·rename_i z hz
    cases hb:(yR (n*bT P e) 16777216&&av z.length (bT P e))with
    |false=>rw[hb]at j;exact j.elim
    |true=>
     rw[hb]at j;simp only[aX]at hb;simp only[cond_true]at j;split at j
     ·rename_i cs hcs
      have S:(ps.map fun x=>(x.1,a.eval x.2))=vs.toArray:=by
       rw[←oE G q];apply cJ;simp
      have F:=De (ps:=vs.toArray) I hz (iG hb.1) (aS hb.2) (by simpa using hcs) w;simp only[execOp];rw[show(ps.map fun(i,x)=>(i,a.eval x))=vs.toArray from S]
      exact Wv.out ⟨_,_,F,dJ _ _,j⟩
     ·exact j.elim
   ·exact j.elim
  ·exact j.elim
 |store t x y=>
  simp only[Hg]at j;split at j
  ·rename_i b v hb D
   simp only[execOp,B hb,B D];exact Wu.out (Ji j)
  ·exact j.elim
 |mapUpdate t m k x=>
  simp only[Hg]at j;split at j
  ·rename_i mv kv xv hm C hx
   simp only[execOp,B hm,B C,B hx];exact Wu.out (zr j)
  ·exact j.elim
 |insert t m k x=>
  simp only[Hg]at j;split at j
  ·rename_i mv kv xv hm C hx
   simp only[execOp,B hm,B C,B hx];exact Wu.out (zr j)
  ·exact j.elim
 |makeMap t n=>
  simp only[Hg]at j;cases n with
  |none=>exact Wv.out ⟨_,iX w (w.heap.push (.map #[] 0)),by simp[Instr.makeMap];rfl,dJ _ _,j⟩
  |some n=>
   simp only at j;split at j
   ·rename_i k i hn I
    exact Wv.out ⟨_,iX w (w.heap.push (.map #[] 0)),by simp[Instr.makeMap,B hn,ay I,asInt,asIntOf];rfl,dJ _ _,j⟩
   ·exact j.elim
 |makeSlice t l c=>
  simp only[Hg]at j;split at j
  ·rename_i e k l' k' c' I U hc
   split at j
   ·rename_i z hz
    cases hb:av z.length (bT P e)with
    |false=>rw[hb]at j;exact j.elim
    |true=>
     rw[hb]at j;obtain⟨⟨h0,V,X,h3⟩,j⟩:=j;simp only[execOp,B U,B hc];exact Wv.out ⟨_,_,Hp I hz (aS hb) h0 V X h3,dJ _ _,j⟩
   ·exact j.elim
  ·exact j.elim
 |convert s d x=>
  simp only[Hg]at j;split at j
  ·rename_i e v Y hd hx
   cases hu:NO P e with
   |false=>rw[hu]at j;exact j.elim
   |true=>
    rw[hu]at j;obtain⟨c,hc,O⟩:=QF (w:=w) (s:=v) Y hd (F0 hu);simp only[execOp,B hx];exact Wv.out ⟨_,_,O,⟨rfl,rfl,rfl⟩,j c hc⟩
  ·exact j.elim
 |range t x=>
  simp only[Hg]at j;split at j
  ·rename_i k e m hu hx
   obtain⟨R,hm,j⟩:=j;simp only[execOp,B hx];exact Wv.out ⟨_,_,PQ hu hm,dJ _ _,j⟩
  ·rename_i s hu hx
   simp only[execOp,B hx];exact Wv.out ⟨_,_,Nn hu,dJ _ _,j⟩
  ·exact j.elim
 |next it isS=>
  cases isS with
  |true=>
   simp only[Hg]at j;split at j
   ·rename_i v D
    simp only[execOp,B D];exact Wv.out (Jj j)
   ·exact j.elim
  |false=>
   simp only[Hg]at j;split at j
   ·rename_i v D
    simp only[execOp,B D];exact Wv.out (KZ j)
   ·exact j.elim
 |call c=>
  simp only[Hg]at j;have Q:∀{b:Builtin} {vs:List Value},c.callee=.builtin b→nN r c.args.toList=some vs→∃cs:Array Bool,∀w,(execOp a.eval ⟨W,.call c,type,pos,L,J⟩).run P w=
    (builtin b c.argTypes type cs vs.toArray).run P w:=by
   intro b vs hc q;refine⟨c.args.map fun| .const _=>true|_=>false,fun w=>?_⟩
   simp[execOp,resolve,hc,G.args q,invoke];rfl
  have H:∀{s s':Sem Next},(∀w,s.run P w=s'.run P w)→Mo P s' K w→Mo P s K w:=by
   intro s s' F h;unfold Mo at h⊢;simp only[F];exact h
  split at j
  ·rename_i s x hc q
   split at j
   ·rename_i t u hat
    obtain⟨cs,E⟩:=Q hc q;refine H E ?_;have A:c.argTypes= #[t,u]:=by apply cJ;rw[hat]
    simp only[builtin,A];split at j
    ·rename_i e' hu;exact Wv.out (zu (.inl ⟨e',hu⟩) j)
    ·rename_i hu;exact Wv.out (zu (.inr hu) j)
    ·rename_i k0 hu;exact Wv.out (Fc hu j)
    ·exact j.elim
   ·exact j.elim
  ·rename_i x hc q
   split at j
   ·rename_i t hat
    obtain⟨cs,E⟩:=Q hc q;refine H E ?_;have A:c.argTypes= #[t]:=by apply cJ;rw[hat]
    simp only[builtin,A];exact Wv.out (Jk j)
   ·exact j.elim
  ·rename_i s x hc q
   split at j
   ·rename_i t u hat
    obtain⟨cs,E⟩:=Q hc q;refine H E ?_;have A:c.argTypes= #[t,u]:=by apply cJ;rw[hat]
    simp only[builtin,A];exact Wv.out (K0 j)
   ·exact j.elim
  ·rename_i p n hc q
   split at j
   ·rename_i t u hat
    obtain⟨cs,E⟩:=Q hc q;refine H E ?_;have A:c.argTypes= #[t,u]:=by apply cJ;rw[hat]
    simp only[builtin,A];exact Wv.out (KY j)
   ·exact j.elim
  ·rename_i m k hc q
   split at j
   ·rename_i t u hat
    obtain⟨cs,E⟩:=Q hc q;refine H E ?_;simp only[builtin];exact Wv.out (Fa (by rw[←aV,hat];rfl) j)
   ·exact j.elim
  ·rename_i f args hc q
   unfold U8 at j;split at j
   ·exact j.elim
   ·rename_i ks hks
    split at j
    ·rename_i f
     refine H (s':=callFunc f args.toArray) (fun w=>?_) j.out
     simp[execOp,resolve,hc,G.args q,Act.eval,Deferred.ofValue,invoke]
    ·rename_i f hf
     split at j
     ·rename_i fv hfv
      rcases j.run with⟨g,first,cap,rfl,Z⟩|⟨l,rfl,Z⟩
      rotate_left
      ·obtain⟨fn,tmps,assign,body,V,X⟩:=Z.run w rfl
       refine .inr (.inr (.inr ⟨l,fn,tmps,assign,body,?_,fun c cs=>?_⟩))
       ·rw[←V]
        simp[execOp,resolve,hc,G.args q,B hfv,Deferred.ofValue,invoke]
       ·obtain⟨b,w',I,C,Y⟩:=X c cs
        refine⟨b,w',I,?_,Y⟩;obtain⟨t,e,C⟩:=ta C;have U:ks.length=1:=by rw[←tY ks t,←e];rfl
        match ks,U,t,e,C with
        | [k],_,t,e,C=>rw[←e]at C;exact C
      refine H (s':=callFunc g (first.toList++args++cap.toList).toArray) (fun w=>?_) Z.out
      have e:first++args.toArray++cap=(first.toList++args++cap.toList).toArray:=by apply cJ;simp
      rw[←e];simp[execOp,resolve,hc,G.args q,B hfv,Deferred.ofValue,invoke]
     ·exact j.elim
  ·exact j.elim
 |_=>simp only[Hg]at j
end Go.Lift
