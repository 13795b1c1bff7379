/- A part of the proof that the named laws of this program answer true, whatever the input. -/
import Derived.Test.YtopdngagmfanlaaGreatDoorLift0
import Derived.Laws.Append
import Derived.Laws.Cover3
import Derived.Laws.StructEq
import Derived.Laws.BytesString
import Derived.Lib.UnsafeStr
import Derived.Laws.RangeString
import Derived.Lib.ConvBytes
open Array renaming ext'→cQ,getElem?_toList→bq,mem_of_getElem?→p9,mem_filter→qB
open Bool renaming and_eq_true→aJ,false_eq_true→dy
open ByteArray renaming data_extract→gk
open Go.Builtin renaming firstCells→fe,len_→li,cap_→xz,zeroCells→iz,lenOf→qL,append_→dQ,nextslicecap→mI,clear_→ud,copy_→qM,delete_→rR
open Go.Instr renaming sureAddr→mH,sliceBounds→gj,sliceAt→qK,sameNow→vN,findNow→oh,lookup→xx,range→vj,next→qA
open Go.Op renaming equalIn→ge
open Go.Result renaming andThen_ok→aC
open Go.Sem renaming run_bind→aU,run_pure→bK,run→ou
open List renaming extract_eq_take_drop→gC,map_cons→cN,map_map→lg,take_of_length_le→bD,length_cons→ay,cons_append→fw,replicate→bC,length_eq_zero_iff→bj,getElem?_eq_getElem→ax
open Nat renaming beq→av,ble→zX,eq_of_beq_eq_true→aX,le_of_ble_eq_true→jr,add_zero→jX,zero_add→aP,min→dN,not_lt→jh
open Option renaming some→bp,isSome_iff_exists→fK,map_some→ly
open Prod renaming mk→pJ
open UInt8 renaming ofNat→cp
namespace Go.Lift
open Go
def We(S:Option (ad→Prop))(h:ad):Prop:=match S with|none=>True|some f=>f h
def Yv(P:Program)(s:Sem Value)(K:RK)(h:ad):Prop:=∃v S,K v S∧We S h∧∀w:World,We S w.heap→s.run P w=.ok v w
theorem Yv.of_pure{P:Program}{s:Sem Value}{K:RK}{h:ad}{v:Value}(b:K v none)(a:∀w:World,s.run P w=.ok v w):Yv P s K h:=
 ⟨v,none,b,trivial,fun w _=>a w⟩
variable {P:Program}
theorem yE{t:TypeId}{f:Nat}{u:TypeId}{off:Nat}(h:yF P t f=some (u,off)):
  ∃fs g,P.underlying t=some (.struct fs)∧fs[f]? =some g∧g.type=u∧g.offset=off:=by
 unfold yF at h;split at h
 ·rename_i fs hu
  split at h
  ·rename_i g hg
   simp only[bp.injEq,pJ.injEq]at h;exact⟨fs,g,hu,by simpa using hg,h.1,h.2⟩
  ·cases h
 ·cases h
theorem A4{t:TypeId}(h:av (cd P t) 0=false)(w:World):(sizeOf t).run P w=.ok (cd P t) w:=by
 unfold cd at h⊢;cases hi:P.info? t with
 |none=>rw[hi]at h;cases h
 |some i=>simp[sizeOf,cT hi]
theorem Fv{t:TypeId}{f:Nat}{u:TypeId}{off:Nat}{a:Addr}{K:RK}{h:ad}(d:yF P t f=some (u,off))
  (b:bif av (cd P u) 0 then False else K (.pointer (some (adr a off))) none):Yv P (Instr.fieldAt t (.pointer (some a)) f) K h:=by
 obtain⟨k,g,i,j,rfl,rfl⟩:=yE d;cases hz:av (cd P g.type) 0 with
 |true=>rw[hz]at b;exact b.elim
 |false=>
  rw[hz]at b;refine .of_pure b fun w=>?_
  have c:cd P g.type≠0:=fun e=>by rw[e]at hz;cases hz
  simp only[Instr.fieldAt,aU,aB i,aC,j,mH,bK,fieldPlace,A4 hz];simp[c,vD]
theorem xn{t:TypeId}{i:TypeInfo}(_:P.info? t=some i)(a:∃d,P.underlying t=some d)(w:World):(isAgg t).run P w=.ok (xo P t) w:=by
 obtain⟨d,hd⟩:=a;simp only[isAgg,aU,aB hd,aC];unfold xo;rw[hd];cases d<;>rfl
theorem B7{op:BinOp}{k k':IntKind}{a b:Int}{K:RK}{h:ad}(f:op=.shl∨op=.shr)(e:Pb op k a b K):Yv P (Op.shift op k a k' b) K h:=by
 rcases f with rfl|rfl
 ·obtain⟨c,d⟩:=e
  refine .of_pure d fun w=>?_
  simp[Op.shift,Int.not_lt.2 c]
 ·obtain⟨c,d⟩:=e
  refine .of_pure d fun w=>?_
  simp[Op.shift,Int.not_lt.2 c]
theorem PY{op:BinOp}{k:IntKind}{a b:Int}{K:RK}{h:ad}(c:Yf op k a b K)(f:op≠ .shl∧op≠ .shr):Yv P (binOp op 0 (.int k a) (.int k b)) K h:=by
 cases op<;>simp only[Yf]at c
 case quo=>obtain⟨d,e⟩:=c;exact .of_pure e fun w=>by simp[binOp,Op.intDiv,d]
 case rem=>obtain⟨d,e⟩:=c;exact .of_pure e fun w=>by simp[binOp,Op.intDiv,d]
 all_goals exact .of_pure c fun w=>by simp[binOp,Op.intArith,Op.intBits,Op.intCmp]
theorem HB(op:BinOp)(t:TypeId)(k k':IntKind)(a b:Int):binOp op t (.int k a) (.int k' b)=binOp op 0 (.int k a) (.int k' b):=by
 cases op<;>rfl
theorem O8{op:BinOp}{t:TypeId}{a b:ByteArray}{K:RK}{h:ad}(c:X0 op a b K):Yv P (binOp op t (.string a) (.string b)) K h:=by
 cases op<;>simp only[X0]at c
 case add=>
  obtain⟨e,d⟩:=c;refine .of_pure d fun w=>?_
  have:¬(((a.size+b.size:Nat):Int)>IntKind.i64.max):=by
   have:IntKind.i64.max=9223372036854775807:=by decide
   omega
  simp only[binOp,Op.stringOp,if_neg this,bK]
 all_goals exact .of_pure c fun w=>by simp[binOp,Op.stringOp]
theorem jS{t:TypeId}{x y:Value}{b:Bool}{w:World}(h:∀d,(ge (d+1) t x y).run P w=.ok b w):(Op.equal t x y).run P w=.ok b w:=h 9999
theorem Hk{t:TypeId}{e:TypeId}(b:P.underlying t=some (.pointer e))(a:Option Addr)(w:World):(Op.equal t (.pointer a) (.pointer none)).run P w=.ok a.isNone w:=by
 refine jS fun d=>?_
 simp only[ge,aU,aB b,aC];cases a<;>rfl
theorem Qc(op:BinOp)(t:TypeId)(x y:Operand)(a b:Value)(h:∀c d,a=.agg c→b=.agg d→False)(hi:a=.nilIface→b=.nilIface→False)(w:World):
  (eqGuard op t x y a b).run P w=.ok () w:=by
 cases op;case eql=>cases a<;>cases b<;>first|rfl|exact(hi rfl rfl).elim|exact(h _ _ rfl rfl).elim
 case neq=>cases a<;>cases b<;>first|rfl|exact(hi rfl rfl).elim|exact(h _ _ rfl rfl).elim
 all_goals rfl
theorem Tk(t:TypeId)(x y:Value)(hx:∀k a,x≠ .int k a)(d:∀s,x≠ .string s)(c:∀k a,x≠ .float k a)(hc:∀k a b,x≠ .complex k a b):binOp .eql t x y=(do pure (.bool (←Op.equal t x y))):=by
 cases x<;>first|rfl|exact absurd rfl (hx _ _)|exact absurd rfl (d _)|exact absurd rfl (c _ _)|exact absurd rfl (hc _ _ _)
theorem Tj(t:TypeId)(x y:Value)(hx:∀k a,x≠ .int k a)(d:∀s,x≠ .string s)(c:∀k a,x≠ .float k a)(hc:∀k a b,x≠ .complex k a b):binOp .neq t x y=(do pure (.bool (!(←Op.equal t x y)))):=by
 cases x<;>first|rfl|exact absurd rfl (hx _ _)|exact absurd rfl (d _)|exact absurd rfl (c _ _)|exact absurd rfl (hc _ _ _)
theorem jT{t:TypeId}{neg:Bool}{x y:Value}{b:Bool}{w:World}(c:(Op.equal t x y).run P w=.ok b w)
  (hx:∀k a,x≠ .int k a)(d:∀s,x≠ .string s)(e:∀k a,x≠ .float k a)(hc:∀k a b,x≠ .complex k a b):
  (binOp (bif neg then .neq else .eql) t x y).run P w=.ok (.bool (bif neg then !b else b)) w:=by
 cases neg
 ·simp only[cond_false,Tk t x y hx d e hc,aU,c,aC,bK]
 ·simp only[cond_true,Tj t x y hx d e hc,aU,c,aC,bK]
theorem PW{x:Value}(h:Ye x=true):(∃f a b,x=.func f a b)∨x=.nilFunc:=by
 cases x<;>first|exact .inr rfl|exact .inl ⟨_,_,_,rfl⟩|cases h
theorem PV{x:Value}(h:W2 x=true):(∃t v,x=.iface t v)∨x=.nilIface:=by
 cases x<;>first|exact .inr rfl|exact .inl ⟨_,_,rfl⟩|cases h
theorem Lb{y:Operand}(h:U0 y=true):∃c,y=.const c:=by
 cases y<;>first|exact⟨_,rfl⟩|cases h
theorem NO(op:BinOp)(t:TypeId)(x:Operand)(c a b:Value)(h:∀c d,a=.agg c→b=.agg d→False)(w:World):
  (eqGuard op t x (.const c) a b).run P w=.ok () w:=by
 cases op;case eql=>cases a<;>cases b<;>first|rfl|exact(h _ _ rfl rfl).elim|(cases x<;>rfl)
 case neq=>cases a<;>cases b<;>first|rfl|exact(h _ _ rfl rfl).elim|(cases x<;>rfl)
 all_goals rfl
theorem GO{t:TypeId}{neg:Bool}{x y:Value}{K:RK}{h:ad}(g:WQ P t neg x y K):
  (∀c d,x=.agg c→y=.agg d→False)∧Yv P (binOp (bif neg then .neq else .eql) t x y) K h:=by
 unfold WQ at g;split at g
 ·rename_i e a hu
  refine⟨nofun,.of_pure g fun w=>?_⟩
  exact jT (Hk hu a w) nofun nofun nofun nofun
 ·rename_i k e a hu
  refine⟨nofun,.of_pure g fun w=>?_⟩
  refine jT ?_ nofun nofun nofun nofun;refine jS fun d=>?_
  simp only[ge,aU,aB hu,aC];cases a<;>rfl
 ·rename_i e a _ _ _ _ hu
  refine⟨nofun,.of_pure g fun w=>?_⟩
  refine jT ?_ nofun nofun nofun nofun;refine jS fun d=>?_
  simp only[ge,aU,aB hu,aC];cases a<;>rfl
 ·rename_i hu
  obtain⟨hx,i⟩:=g;rcases PW hx with⟨f,a,b,e⟩|e<;>subst e
  ·refine⟨nofun,.of_pure i fun w=>jT (jS fun d=>?_) nofun nofun nofun nofun⟩
   simp only[ge,aU,aB hu,aC];rfl
  ·refine⟨nofun,.of_pure i fun w=>jT (jS fun d=>?_) nofun nofun nofun nofun⟩
   simp only[ge,aU,aB hu,aC];rfl
 ·rename_i hu
  obtain⟨hx,i⟩:=g;rcases PV hx with⟨f,a,e⟩|e<;>subst e
  ·refine⟨nofun,.of_pure i fun w=>jT (jS fun d=>?_) nofun nofun nofun nofun⟩
   simp only[ge,aU,aB hu,aC];rfl
  ·refine⟨nofun,.of_pure i fun w=>jT (jS fun d=>?_) nofun nofun nofun nofun⟩
   simp only[ge,aU,aB hu,aC];rfl
 ·exact g.elim
theorem yn{w:World}{a b:Addr}(f:hT w.heap a)(d:hT w.heap b):(sameAddr a b).run P w=.ok (a==b) w:=by
 obtain⟨j,k,f,y⟩:=f;obtain⟨g,x,d,sb⟩:=d;by_cases c:a.block=b.block
 ·simp[sameAddr,c]
 ·have i:(a==b)=false:=by
   rw[beq_eq_false_iff_ne];intro e;exact c (by rw[e])
  have q:w.shape? a.block=some (k,j.size):=by simp[World.shape?,f]
  have u:w.shape? b.block=some (x,g.size):=by simp[World.shape?,d]
  have o:∀n,w.frozen? ({block:=a.block,off:=n}:Addr)=false:=fun n=>by simp[World.frozen?,f]
  have s:∀n,w.frozen? ({block:=b.block,off:=n}:Addr)=false:=fun n=>by simp[World.frozen?,d]
  have v:w.frozen? a=false:=by simp[World.frozen?,f]
  have t:w.frozen? b=false:=by simp[World.frozen?,d]
  obtain⟨m,hm⟩:∃m,j.size=m+1:=⟨j.size-1,by omega⟩
  obtain⟨n,p⟩:∃n,g.size=n+1:=⟨g.size-1,by omega⟩
  simp[sameAddr,c,noView,viewAt,mayBeOne,stringish,q,u,o,s,v,t,hm,p,i]
theorem J0{t:TypeId}{neg:Bool}{x y:Value}{K:RK}{h:ad}(g:ZI P t neg x y K h):
  (∀c d,x=.agg c→y=.agg d→False)∧(x=.nilIface→y=.nilIface→False)∧Yv P (binOp (bif neg then .neq else .eql) t x y) K h:=by
 unfold ZI at g;split at g
 ·rename_i a b hu
  refine⟨nofun,nofun,.of_pure g fun w=>?_⟩
  refine jT ?_ nofun nofun nofun nofun;refine jS fun d=>?_
  simp only[ge,aU,aB hu,aC,bK]
 ·rename_i e a b hu
  obtain⟨j,m,p⟩:=g;refine⟨nofun,nofun,_,_,p,m,fun w o=>?_⟩
  refine jT ?_ nofun nofun nofun nofun;have f:av (cd P e) 0=false:=by
   cases hb:av (cd P e) 0 with
   |false=>rfl
   |true=>rw[hb]at j;exact j.elim
  have i:cd P e≠0:=fun e=>by rw[e]at f;cases f
  refine jS fun d=>?_
  simp only[ge,aU,aB hu,aC];cases a with
  |none=>cases b<;>rfl
  |some a=>cases b with
   |none=>rfl
   |some b=>
    obtain⟨k,n⟩:=o a b rfl rfl;simp only[aU,A4 f,aC,ne_eq,i,not_false_eq_true,if_true,yn k n];rfl
 ·exact g.elim
theorem Ba{op:BinOp}{t:TypeId}{x y:Value}{K:RK}{h:ad}(e:WG P op t x y K h):
  (∀c d,x=.agg c→y=.agg d→False)∧(x=.nilIface→y=.nilIface→False)∧Yv P (binOp op t x y) K h:=by
 unfold WG at e;split at e
 ·rename_i k a k' b
  refine⟨nofun,nofun,?_⟩;rw[HB];split at e
  ·exact B7 (k':=k') (.inl rfl) e
  ·exact B7 (k':=k') (.inr rfl) e
  ·rename_i h1 h2
   cases hk:Lh k' k with
   |false=>rw[hk]at e;exact e.elim
   |true=>rw[hk]at e;have:=Cs hk;subst this;exact PY e ⟨h1,h2⟩
 ·exact⟨nofun,nofun,O8 e⟩
 ·split at e
  ·exact J0 (neg:=false) e
  ·exact J0 (neg:=true) e
  ·exact e.elim
theorem M6{u:TypeId}{cs:List Value}{off:Nat}(a:((P.underlying u).isSome&&(P.info? u).isSome)=true){w:World}(b:xo P u=true):
  (part u cs.toArray off).run P w=.ok (.agg ((cs.drop off).take (cd P u)).toArray) w:=by
 simp only[aJ,fK]at a;obtain⟨a,i,hi⟩:=a;have c:(sizeOf u).run P w=.ok (cd P u) w:=by simp[sizeOf,cT hi,cd,hi]
 simp only[part,aU,xn hi a,aC,b,if_true,c,bK];congr 2
 apply cQ;simp[gC]
theorem Jw{u:TypeId}{cs:List Value}{off:Nat}(a:((P.underlying u).isSome&&(P.info? u).isSome)=true){w:World}(c:xo P u=false){v:Value}(hc:cs[off]? =some v):
  (part u cs.toArray off).run P w=.ok v w:=by
 simp only[aJ,fK]at a;obtain⟨a,i,hi⟩:=a;have b:cs.toArray[off]? =some v:=by simpa using hc
 simp only[part,aU,xn hi a,aC,c,dy,if_false,b,bK]
theorem Bb{h:ad}:∀{l m:List (Option Addr×Option Addr)},sZ h (l++m)→sZ h l∧sZ h m
 | [],_,h=>⟨trivial,h⟩
 |(_,_)::_,_,h=>⟨⟨h.1,(Bb h.2).1⟩,(Bb h.2).2⟩
theorem NN{t:TypeId}{x y:Value}{b:Bool}{l:List (Option Addr×Option Addr)}(f:Vh P t x y=some (b,l)){w:World}(j:sZ w.heap l)(d:Nat):
  (ge (d+1) t x y).run P w=.ok b w:=by
 unfold Vh at f;split at f
 ·rename_i k0 k a k' c hu
  cases hk:Lh k' k with
  |false=>rw[hk]at f;cases f
  |true=>
   rw[hk]at f;have:=Cs hk;subst this;cases f;exact run_equalIn_int w d t _ _ _ _ hu
 ·rename_i a c hu
  cases f;exact run_equalIn_bool w d t _ _ hu
 ·rename_i a c hu
  cases f;exact run_equalIn_string w d t _ _ hu
 ·rename_i e a c hu
  cases hz:av (cd P e) 0 with
  |true=>rw[hz]at f;cases f
  |false=>
   rw[hz]at f;cases f;have g:cd P e≠0:=fun e=>by rw[e]at hz;cases hz
   simp only[ge,aU,aB hu,aC];cases a with
   |none=>cases c<;>rfl
   |some a=>cases c with
    |none=>rfl
    |some c=>
     obtain⟨i,m⟩:=j.1 a c rfl rfl;simp only[aU,A4 hz,aC,ne_eq,g,not_false_eq_true,if_true,yn i m];rfl
 ·cases f
theorem Hl{rec:TypeId→List Value→List Value→Option (Bool×List (Option Addr×Option Addr))}{d:Nat}{xs ys:List Value}{w:World}
  (e:∀t us vs b l,rec t us vs=some (b,l)→sZ w.heap l→(ge (d+1) t (.agg us.toArray) (.agg vs.toArray)).run P w=.ok b w):
  ∀(fs:List Field) (b:Bool) (l:List (Option Addr×Option Addr)),Xe P rec xs ys fs=some (b,l)→sZ w.heap l→(Op.eqFields (d+1) xs.toArray ys.toArray fs).run P w=.ok b w
 | [],b,l,he,_=>by cases he;rfl
 |f::fs,b,l,he,hp=>by
  unfold Xe at he;split at he
  ·cases he
  ·rename_i hn
   cases hi:((P.underlying f.type).isSome&&(P.info? f.type).isSome)with
   |false=>rw[hi]at he;cases he
   |true=>
    rw[hi]at he;simp only[cond_true]at he;split at he
    ·rename_i b1 l1 c m e1 e2
     cases he;obtain⟨g,n⟩:=Bb hp;have a:=Hl e fs c m e2 n;have k:∃u v,(part f.type xs.toArray f.offset).run P w=.ok u w∧(part f.type ys.toArray f.offset).run P w=.ok v w∧(ge (d+1) f.type u v).run P w=.ok b1 w:=by
      cases ha:xo P f.type with
      |true=>
       rw[ha]at e1;exact⟨_,_,M6 hi ha,M6 hi ha,e _ _ _ _ _ e1 g⟩
      |false=>
       rw[ha]at e1;simp only[cond_false]at e1;split at e1
       ·rename_i x y hx hy
        exact⟨x,y,Jw hi ha hx,Jw hi ha hy,NN e1 g d⟩
       ·cases e1
     obtain⟨u,v,i,j,o⟩:=k;simp only[Op.eqFields,ne_eq,hn,not_false_eq_true,if_true,aU,i,j,o,aC];cases b1
     ·rfl
     ·exact a
    ·cases he
theorem Bm{w:World}:∀(m:Nat) (t:TypeId) (xs ys:List Value) (b:Bool) (l:List (Option Addr×Option Addr)),Vi P m t xs ys=some (b,l)→sZ w.heap l→
  ∀d,(ge (d+m+1) t (.agg xs.toArray) (.agg ys.toArray)).run P w=.ok b w
 |0,_,_,_,_,_,he,_,_=>by cases he
 |m+1,t,xs,ys,b,l,he,hp,d=>by
  unfold Vi at he;split at he
  ·rename_i fs hu
   cases hs:P.stoodInHeld t with
   |true=>rw[hs]at he;cases he
   |false=>
    rw[hs]at he;have a:P.fieldsOf t=fs:=by simp[Program.fieldsOf,hu]
    rw[run_equalIn_struct w _ t _ _ (by rw[a];exact hu) hs,a];exact Hl (d:=d+m) (fun t e vs b l f c=>Bm m t e vs b l f c d) fs.toList b l he hp
  ·cases he
theorem Ka{neg b:Bool}{K:RK}{h:ad}{l:List (Option Addr×Option Addr)}(a:aaI neg b K h l):∃S,K (.bool (bif neg then !b else b)) S∧We S h∧∀h',We S h'→sZ h' l:=by
 cases l with
 |nil=>exact⟨none,a,trivial,fun _ _=>trivial⟩
 |cons p l=>exact⟨_,a.2,a.1,fun _ h=>h⟩
theorem Px{op:BinOp}{t:TypeId}{xs ys:Array Value}{x y:Operand}{K:RK}{h:ad}(a:X7 P op t xs.toList ys.toList K h):
  ∃v S,K v S∧We S h∧∀w:World,We S w.heap→(do eqGuard op t x y (.agg xs) (.agg ys);binOp op t (.agg xs) (.agg ys):Sem Value).run P w=.ok v w:=by
 unfold X7 at a;cases hg:P.eqGuardType P.depth t with
 |true=>rw[hg]at a;exact a.elim
 |false=>
  rw[hg]at a;simp only[cond_false]at a;split at a
  ·split at a
   ·rename_i b l he
    obtain⟨S,c,d,f⟩:=Ka a;refine⟨_,S,c,d,fun w e=>?_⟩
    have:=Bm 10 t _ _ b l he (f _ e) 9989;simp only[Array.toArray_toList]at this;simp only[aU,run_eqGuard_agg w _ t x y _ _ hg,aC,run_eql_struct,this];rfl
   ·exact a.elim
  ·split at a
   ·rename_i b l he
    obtain⟨S,c,d,f⟩:=Ka a;refine⟨_,S,c,d,fun w e=>?_⟩
    have:=Bm 10 t _ _ b l he (f _ e) 9989;simp only[Array.toArray_toList]at this;simp only[aU,run_eqGuard_agg w _ t x y _ _ hg,aC,run_neq_struct,this];rfl
   ·exact a.elim
  ·exact a.elim
theorem Sm{op:UnOp}{x:Value}{K:RK}{h:ad}(a:Z3 op x K):Yv P (Op.unary op x) K h:=by
 unfold Z3 at a;split at a
 ·exact .of_pure a fun w=>rfl
 ·exact .of_pure a fun w=>rfl
 ·exact .of_pure a fun w=>rfl
 ·exact a.elim
theorem HA:∀(l:List UInt8) (s:ByteArray),(l.map fun b=>((b.toNat:Nat):Int)).foldl (fun r n=>r.push (cp n.toNat)) s=⟨s.data++l.toArray⟩
 | [],s=>by simp
 |b::l,s=>by
  simp only[cN,List.foldl_cons];rw[HA l];congr 1
  have:cp ((b.toNat:Nat):Int).toNat=b:=by simp
  rw[this];apply cQ;simp[ByteArray.push]
theorem G0{e:TypeId}(h:PU P e=true):P.underlying e=some (.int .u8):=by
 unfold PU at h;split at h
 ·assumption
 ·cases h
theorem MK{w:World}{a:Addr}{vs:List Value}(b:Row w.heap a vs):(loadCells a vs.length).run P w=.ok vs.toArray w:=by
 have:=run_firstCells_some (P:=P) w 1 vs.length a 0 0 vs (by simp) fun j v c=>by rw[←vD];exact b j v c
 simpa[fe]using this
theorem MU{g j:TypeId}{x:Value}{K:RK}{h:ad}(f:UC P g j x K h):Yv P (convert g j x) K h:=by
 unfold UC at f;split at f
 ·rename_i k k' k'' n h1 h2
  exact .of_pure f fun w=>by simp only[convert,aU,aB h1,aB h2,aC];rfl
 ·rename_i s h1 h2
  exact .of_pure f fun w=>by simp only[convert,aU,aB h1,aB h2,aC];rfl
 ·rename_i e a n c h1 h2
  cases hu:PU P e with
  |false=>rw[hu]at f;exact f.elim
  |true=>
   rw[hu]at f;obtain⟨s,z,y⟩:=f;refine⟨_,_,y,z,fun w o=>?_⟩
   rw[run_convert_bytes_string w g j e a n c h1 (G0 hu) h2];obtain⟨q,o⟩:=o;rcases o with p|⟨b,rfl,u⟩
   ·have m:s=ByteArray.empty:=by
     have:s.data.toList= []:=by simpa[cL]using p
     cases s with
     |mk d=>simp at this;subst this;rfl
    cases a with
    |none=>rw[m];rfl
    |some b=>
     have t:n=0:=by rw[←q,p];rfl
     subst t;have:=MK (P:=P) (w:=w) (a:=b) (vs:= []) fun i v f=>by simp at f
     rw[run_bytesToString w b 0 c [] (by simpa using this),m];rfl
   ·have:=MK (P:=P) u
    rw[q]at this;rw[run_bytesToString w b n c (s.data.toList.map fun b=>((b.toNat:Nat):Int)) (by rw[this,lg];rfl),HA]
    cases s;simp[ByteArray.empty,ByteArray.emptyWithCapacity];try rfl
 ·exact f.elim
theorem PF{u:TypeId}{cs:Array Value}{off:Nat}{K:RK}{h:ad}(c:∃d,P.underlying u=some d)(hi:∃i,P.info? u=some i)
  (a:bif xo P u then K (.agg ((cs.toList.drop off).take (cd P u)).toArray) none else(match cs.toList[off]? with|some v=>K v none|none=>False)):Yv P (part u cs off) K h:=by
 obtain⟨i,hi⟩:=hi;cases ha:xo P u with
 |true=>
  rw[ha]at a;refine .of_pure a fun w=>?_
  have e:(sizeOf u).run P w=.ok (cd P u) w:=by simp[sizeOf,cT hi,cd,hi]
  simp only[part,aU,xn hi c,aC,ha,if_true,e,bK];congr 2
  apply cQ;simp[gC]
 |false=>
  rw[ha]at a;simp only[cond_false]at a;cases hc:cs.toList[off]? with
  |none=>rw[hc]at a;exact a.elim
  |some v=>
   rw[hc]at a;refine .of_pure a fun w=>?_
   have b:cs[off]? =some v:=by simpa using hc
   simp only[part,aU,xn hi c,aC,ha,dy,if_false,b,bK]
def xS(P:Program)(v:Option Value)(d y n:Nat):Prop:=
 match v with
 |some x=>∀c w,(Instr.sliceBound x y c).run P w=.ok n w
 |none=>n=d
theorem m0{v:Option Value}{d y:Nat}{K:Nat→Prop}(a:bnd v d y K):∃n,K n∧xS P v d y n:=by
 unfold bnd at a;split at a
 ·exact⟨d,a,rfl⟩
 ·rename_i k i
  obtain⟨⟨b,f⟩,e⟩:=a;refine⟨i.toNat,e,fun c w=>?_⟩
  simp[Instr.sliceBound,asIntOf,b,f]
 ·exact a.elim
theorem qe{c:Bool}{len cap n l:Nat}{lo hi:Option Value}(a:xS P hi len cap n)(b:xS P lo 0 n l)(w:World):
  (gj c len cap lo hi none).run P w=.ok (l,n,cap) w:=by
 cases hi with
 |none=>
  cases lo with
  |none=>simp only[xS]at a b;subst a;subst b;simp[gj]
  |some lo=>simp only[xS]at a b;subst a;simp[gj,b]
 |some hi=>
  cases lo with
  |none=>simp only[xS]at a b;subst b;simp[gj,a]
  |some lo=>simp only[xS]at a b;simp[gj,a,b]
theorem DG{c:Bool}{len cap n l m:Nat}{lo:Option Value}{hi d:Value}(hm:xS P (some d) 0 cap m)(b:xS P (some hi) 0 m n)(a:xS P lo 0 n l)(w:World):
  (gj c len cap lo (some hi) (some d)).run P w=.ok (l,n,m) w:=by
 cases lo with
 |none=>simp only[xS]at hm b a;subst a;simp[gj,hm,b]
 |some lo=>simp only[xS]at hm b a;simp[gj,hm,b,a]
theorem AZ(a:Option Addr)(l m size:Nat):(if m=l then a else a.map (·.add (l*size)))=aV a l m size:=by
 unfold aV;split
 ·rfl
 ·congr 1;funext x;rw[vD]
theorem qh{t:TypeId}{K:Prop}(h:UO P t K):K∧∀w,(sizeOf t).run P w=.ok (cd P t) w:=by
 unfold UO at h;cases hi:P.info? t with
 |none=>rw[hi]at h;exact h.elim
 |some i=>rw[hi]at h;exact⟨h,fun w=>by simp[sizeOf,cT hi,cd,hi]⟩
theorem KU{t:TypeId}{x:Value}{f:Nat}{K:RK}{h:ad}(a:Pv P t x f K):Yv P (Instr.field t x f) K h:=by
 unfold Pv at a;split at a
 ·rename_i u off cs hf
  obtain⟨k,g,b,c,rfl,rfl⟩:=yE hf;cases hb:((P.underlying g.type).isSome&&(P.info? g.type).isSome)with
  |false=>rw[hb]at a;exact a.elim
  |true=>
   rw[hb]at a;simp only[aJ,fK]at hb;obtain⟨v,S,j,i,e⟩:=PF (cs:=cs) (off:=g.offset) (h:=h) hb.1 hb.2 a;refine⟨v,S,j,i,fun w d=>?_⟩
   have:=e w d;simp only[Instr.field,aU,aB b,aC,c,asAgg,bK,this]
 ·exact a.elim
theorem DN{t:TypeId}{x i:Value}{K:RK}{h:ad}(c:A9 P t x i K):Yv P (Instr.indexAt t x i) K h:=by
 unfold A9 at c;split at c
 ·rename_i n e a k i hu
  obtain⟨⟨⟨f,g⟩,j⟩,d⟩:=qh c;refine .of_pure j fun w=>?_
  simp[Instr.indexAt,asIntOf,aB hu,mH,f,g,d,vD]
 ·rename_i e b len cap k i hu
  obtain⟨⟨⟨f,g⟩,a,rfl,j⟩,d⟩:=qh c;refine .of_pure j fun w=>?_
  simp[Instr.indexAt,asIntOf,aB hu,f,g,d,vD]
 ·exact c.elim
theorem KQ{ats:Array TypeId}{ty:TypeId}{v:Value}{K:RK}(h:Pq v K):∃u,K u none∧∀w,(Builtin.unsafeSliceData_ ats ty #[v]).run P w=.ok u w:=by
 unfold Pq at h;split at h
 ·rename_i a n c
  obtain⟨d,b⟩:=h;cases a with
  |none=>exact⟨_,b,fun w=>Lib.run_unsafeSliceData_nil ..⟩
  |some a=>exact⟨_,b,fun w=>Lib.run_unsafeSliceData_row _ _ _ _ _ _ (d.resolve_left nofun)⟩
 ·exact h.elim
theorem KT{t:TypeId}{x i:Value}{K:RK}{h:ad}(a:Pt P t x i K):Yv P (Instr.index t x i) K h:=by
 unfold Pt at a;split at a
 ·rename_i s k i hu
  obtain⟨b,c,d,e⟩:=a;refine .of_pure e fun w=>?_
  simp[Instr.index,asIntOf,aB hu,c,d]
 ·exact a.elim
theorem KP{t:TypeId}{x:Value}{lo hi f:Option Value}{K:RK}{h:ad}(b:Pp P t x lo hi f K):Yv P (qK t x lo hi f) K h:=by
 unfold Pp at b;split at b
 ·rename_i s hu
  cases f with
  |some _=>exact b.elim
  |none=>
   obtain⟨n,b,c⟩:=m0 (P:=P) b;obtain⟨l,b,d⟩:=m0 (P:=P) b;refine .of_pure b fun w=>?_
   simp[qK,Instr.slice,aB hu,qe c d]
 ·rename_i e a len cap hu
  obtain⟨b,g⟩:=qh b;cases f with
  |none=>
   obtain⟨n,b,c⟩:=m0 (P:=P) b;obtain⟨l,b,d⟩:=m0 (P:=P) b;refine .of_pure b fun w=>?_
   simp[qK,Instr.slice,aB hu,qe c d,g,AZ]
  |some m=>
   cases hi with
   |none=>exact b.elim
   |some hi=>
    obtain⟨j,b,hm⟩:=m0 (P:=P) b;obtain⟨n,b,c⟩:=m0 (P:=P) b;obtain⟨l,b,d⟩:=m0 (P:=P) b;refine .of_pure b fun w=>?_
    simp[qK,Instr.slice,aB hu,DG hm c d,g,AZ]
 ·rename_i n e a hu
  obtain⟨b,g⟩:=qh b;cases f with
  |some _=>exact b.elim
  |none=>
   obtain⟨m,b,c⟩:=m0 (P:=P) b;obtain⟨l,b,d⟩:=m0 (P:=P) b;refine .of_pure b fun w=>?_
   have i:(some (if n=l then a else a.add (l*cd P e)))=aV (some a) l n (cd P e):=by
    rw[←AZ];split<;>rfl
   simp[qK,aB hu,mH,qe c d,g,i]
 ·exact b.elim
def pE(d:TypeDesc)(c:CK):Prop:=(∃i,d=.int i∧c=.int i)∨(d=.string∧c=.str)∨(d=.bool∧c=.bool)
theorem yz{t:TypeId}{c:CK}{e:TypeId}(h:Ns P t=some (c,e)):∃k d,P.underlying t=some (.map k e)∧P.underlying k=some d∧pE d c:=by
 unfold Ns at h;split at h
 ·rename_i k e' hu
  split at h
  ·rename_i i hk
   simp only[bp.injEq,pJ.injEq]at h;obtain⟨rfl,rfl⟩:=h;exact⟨k,_,hu,hk,.inl ⟨i,rfl,rfl⟩⟩
  ·rename_i hk
   simp only[bp.injEq,pJ.injEq]at h;obtain⟨rfl,rfl⟩:=h;exact⟨k,_,hu,hk,.inr (.inl ⟨rfl,rfl⟩)⟩
  ·rename_i hk
   simp only[bp.injEq,pJ.injEq]at h;obtain⟨rfl,rfl⟩:=h;exact⟨k,_,hu,hk,.inr (.inr ⟨rfl,rfl⟩)⟩
  ·cases h
 ·cases h
theorem Ey{d:TypeDesc}{c:CK}(hd:pE d c)(x y:c.den):vN d (c.enc x) (c.enc y)=some (f9 (c.enc x) (c.enc y)):=by
 rcases hd with⟨i,rfl,rfl⟩|⟨rfl,rfl⟩|⟨rfl,rfl⟩
 ·simp[vN,CK.enc,f9]
 ·simp[vN,CK.enc,f9]
 ·simp[vN,CK.enc,f9]
theorem EN{d:TypeDesc}{c:CK}(hd:pE d c)(x:c.den):∀(es:List MapEntry) (i:Nat),keysOf c es→
  ∃r,oh d (c.enc x) es i=some r∧r.map (·.2)=Hb (c.enc x) es
 | [],i,_=>⟨none,rfl,rfl⟩
 |e::es,i,h=>by
  obtain⟨y,g⟩:=h e (by simp);have a:=Ey hd x y;rw[←g]at a;simp only[oh,Hb];cases hb:f9 (c.enc x) e.key with
  |true=>rw[a,hb];exact⟨some (i,e.val),rfl,rfl⟩
  |false=>rw[a,hb];exact EN hd x es (i+1) fun f b=>h f (by simp[b])
theorem N0{a:Bool}{k:TypeId}{d:TypeDesc}{c:CK}(hd:pE d c)(b:P.underlying k=some d)(v:Value)(n:Nat)(w:World):(Instr.checkKey a (n+1) k v).run P w=.ok () w:=by
 unfold Instr.checkKey;simp only[aU,aB b,aC];rcases hd with⟨i,rfl,rfl⟩|⟨rfl,rfl⟩|⟨rfl,rfl⟩<;>rfl
theorem w6{k:TypeId}{d:TypeDesc}{c:CK}(hd:pE d c)(b:P.underlying k=some d)(x:c.den){es:List MapEntry}(h:keysOf c es)(w:World):
  ∃r,(Instr.findKey k (c.enc x) es).run P w=.ok r w∧oh d (c.enc x) es 0=some r∧r.map (·.2)=Hb (c.enc x) es:=by
 obtain⟨r,a,hm⟩:=EN hd x es 0 h;refine⟨r,?_,a,hm⟩;simp only[Instr.findKey,aU,aB b,aC,a,bK]
theorem ml{w:World}{r:Nat}{es:Array MapEntry}{a:Nat}(h:w.heap[r]? =some (.map es a)):(getObj r).run P w=.ok (.map es a) w:=by
 simp only[getObj,ou,h]
theorem nW{a:Bool}{k:TypeId}{d:TypeDesc}{c:CK}(hd:pE d c)(b:P.underlying k=some d)(v:Value)(w:World):(Instr.checkKey a 10000 k v).run P w=.ok () w:=
 N0 hd b v 9999 w
theorem PO{t:TypeId}{c:CK}{e k:TypeId}{d:TypeDesc}(q:P.underlying t=some (.map k e))(g:P.underlying k=some d)(hd:pE d c){m:Option Nat}{x:c.den}{z v:Value}{b ok:Bool}{w:World}
  (p:(zeroValue e).run P w=.ok z w)(hm:xq c z w.heap m (c.enc x) v b):
  (xx t (.map m) (c.enc x) ok).run P w=.ok (bif ok then .tuple #[v,.bool b]else v) w:=by
 cases m with
 |none=>
  obtain⟨rfl,rfl⟩:=hm;simp only[xx,aU,aB q,aC,bK,nW hd g];obtain⟨r,i,j,a⟩:=w6 (P:=P) hd g x (es:= []) (fun _ h=>by cases h) w
  simp only[oh,bp.injEq]at j;subst j;simp[i,p]
 |some r=>
  obtain⟨es,o,s,n,f⟩:=hm;simp only[xx,aU,aB q,aC,ml s,bK,nW hd g];obtain⟨r,i,j,a⟩:=w6 (P:=P) hd g x n w;simp only[i,aC];cases r with
  |none=>
   simp only[Option.map_none]at a;rw[←a]at f;obtain⟨rfl,rfl⟩:=f;simp[p]
  |some r=>
   simp only[ly]at a;rw[←a]at f;obtain⟨rfl,rfl⟩:=f;cases ok<;>rfl
theorem ff{e:TypeId}{z:Value}(h:Aq P e=some z)(w:World):(zeroValue e).run P w=.ok z w:=by
 unfold Aq at h;cases hi:P.info? e with
 |none=>rw[hi]at h;cases h
 |some i=>rw[hi]at h;simp only at h;simp[zeroValue,cT hi,h]
theorem Ig{t:TypeId}{x k:Value}{ok:Bool}{K:RK}{h:ad}(a:KS P t x k ok K h):Yv P (xx t x k ok) K h:=by
 unfold KS at a;split at a
 ·rename_i c e m hc
  obtain⟨n,d,g,j,hd⟩:=yz hc;obtain⟨o,rfl,a⟩:=CK.dec_sound a;split at a
  ·rename_i ek z hek hz
   obtain⟨y,b,hm,f⟩:=a;exact⟨_,_,f,hm,fun w i=>PO g j hd (ff hz w) i⟩
  ·exact a.elim
 ·exact a.elim
theorem EA{w:World}{b cap s q:Nat}{buf:Array Value}{a t:Bool}(h:w.heap[b]? =some (.chan cap buf a s q t)):(getObj b).run P w=.ok (.chan cap buf a s q t) w:=by
 simp only[getObj,ou,h]
theorem Ps{t:TypeId}{x:Value}{ats:Array TypeId}{ty:TypeId}{K:RK}{h:ad}(a:ats[0]? =some t) (d:X5 P t x K h):Yv P (li ats ty #[x]) K h:=by
 unfold X5 at d;split at d
 ·rename_i s hu
  exact .of_pure d fun w=>by simp[li,a,aB hu,goInt]
 ·rename_i n e _ hu
  exact .of_pure d fun w=>by simp[li,a,aB hu,goInt]
 ·rename_i e b n c hu
  exact .of_pure d fun w=>by simp[li,a,aB hu,goInt]
 ·rename_i k e m hu
  obtain⟨n,hm,j⟩:=d;refine⟨_,_,j,hm,fun w f=>?_⟩
  cases m with
  |none=>
   have:n=0:=f;subst this;simp[li,a,aB hu,goInt]
  |some r=>
   obtain⟨es,i,g,rfl⟩:=f;simp[li,a,aB hu,goInt,ml g]
 ·rename_i k e m hu
  obtain⟨n,hm,j⟩:=d;refine⟨_,_,j,hm,fun w f=>?_⟩
  cases m with
  |none=>
   have:n=0:=f;subst this;simp[li,a,aB hu,goInt]
  |some r=>
   obtain⟨cap,buf,o,s,q,g,rfl⟩:=f;simp[li,a,aB hu,goInt,EA g]
 ·exact d.elim
theorem Pw{t:TypeId}{x:Value}{ats:Array TypeId}{ty:TypeId}{K:RK}{h:ad}(a:ats[0]? =some t) (d:X6 P t x K h):Yv P (xz ats ty #[x]) K h:=by
 unfold X6 at d;split at d
 ·rename_i e b n c hu
  exact .of_pure d fun w=>by simp[xz,a,aB hu,goInt]
 ·rename_i k e m hu
  obtain⟨n,hm,i⟩:=d;refine⟨_,_,i,hm,fun w f=>?_⟩
  cases m with
  |none=>
   have:n=0:=f;subst this;simp[xz,a,aB hu,goInt]
  |some r=>
   obtain⟨cap,buf,j,s,q,g,rfl⟩:=f;simp[xz,a,aB hu,goInt,EA g]
 ·exact d.elim
theorem Ck{c:Bool}{k:IntKind}:∀{vs:List Value} {a:Int} {f:Value→Prop},K8 c k a vs f→∃v,f v∧∀w,(vs.foldlM (bif c then Builtin.max2 else Builtin.min2) (Value.int k a):Sem Value).run P w=.ok v w
 | [],a,f,h=>⟨_,h,fun w=>by simp⟩
 | .int k' b::vs,a,f,h=>by
  simp only[K8]at h;cases hk:Lh k' k with
  |false=>rw[hk]at h;exact h.elim
  |true=>
   rw[hk]at h;have:=Cs hk;subst this;obtain⟨v,d,e⟩:=Ck h;refine⟨v,d,fun w=>?_⟩
   rw[←e w];cases c<;>simp[List.foldlM_cons,Builtin.max2,Builtin.min2]
theorem Ax{a:Bool}{vs:List Value}{f:Value→Prop}{ats:Array TypeId}{ty:TypeId}(h:FU a vs f):∃v,f v∧∀w,(bif a then Builtin.max_ ats ty vs.toArray else Builtin.min_ ats ty vs.toArray).run P w=.ok v w:=by
 unfold FU at h;split at h
 ·obtain⟨v,b,c⟩:=Ck (P:=P) h
  refine⟨v,b,fun w=>?_⟩
  have:=c w;cases a<;>simpa[Builtin.max_,Builtin.min_]using this
 ·exact h.elim
theorem SZ{a:Addr}{e:MapEntry}{w:World}(g:a.off=0)(h:Qu w.heap a.block e):(Instr.entry (.pointer (some a))).run P w=.ok (.tuple #[e.key,e.val]) w:=by
 obtain⟨m,c,d,last,f,es,hi,j,hm,k⟩:=h;obtain⟨b,off,i⟩:=a;simp only at g hi;subst g;have n:(getObj b).run P w=.ok (.mapIter (some m) c d last) w:=by simp only[getObj,ou,hi]
 simp[Instr.entry,n,j,ml hm,k]
def IW:DV→Value→Prop
 | .t,v=>v=.bool true
 | .f,v=>v=.bool false
 | .u,v=>v=undef
 | .x,_=>True
def DecOk(d:wL)(r:cI):Prop:=∀t,sf d t=.x∨∃v,kJ r t=some v∧IW (sf d t) v
theorem DecOk.at{d:wL}{r:cI}(h:DecOk d r){t:Nat}{v:Value}(b:kJ r t=some v):IW (sf d t) v:=by
 rcases h t with e|⟨u,a,c⟩
 ·rw[e];trivial
 ·rw[b]at a;cases a;exact c
theorem wh{d:wL}{r:cI}(hd:DecOk d r){o:Operand}{v:Value}(h:dq r o=some v):IW (CD d o) v:=by
 cases o with
 |tmp t=>exact hd.at h
 |const c=>
  simp[dq]at h;subst h;cases c with
  |bool b=>cases b<;>exact rfl
  |_=>trivial
 |global g=>trivial
 |func f=>trivial
theorem EF{t:TypeId}(h:qR P t=true):∃d,P.underlying t=some d∧∀m,d≠ .interface m:=by
 unfold qR at h;split at h
 ·cases h
 ·rename_i d hd;exact⟨_,hd,fun m e=>by subst e;simp_all⟩
 ·cases h
theorem Co{t:TypeId}{v:Value}(h:qR P t=true)(w:World):(Instr.makeInterface t v).run P w=.ok (.iface t v) w:=by
 obtain⟨d,hd,a⟩:=EF h;simp only[Instr.makeInterface,aU,aB hd,aC];cases d<;>first|exact absurd rfl (a _)|rfl
theorem Gk{t u:TypeId}{v:Value}(h:qR P t=true)(w:World):(Instr.typeAssert (.iface t v) u t false).run P w=.ok v w:=by
 obtain⟨d,hd,a⟩:=EF h;simp only[Instr.typeAssert,aU,aB hd,aC];cases d<;>first|exact absurd rfl (a _)|(simp[bK])
theorem kI{t:TypeId}{z:List Value}(h:rC P t=some z):∃v,Aq P t=some v∧v.cells.toList=z:=by
 unfold rC at h;cases hz:Aq P t with
 |none=>rw[hz]at h;cases h
 |some v=>rw[hz]at h;simp only[bp.injEq]at h;exact⟨v,rfl,h⟩
theorem sC{t:TypeId}{v:Value}(h:Aq P t=some v):∃i,P.info? t=some i∧i.zero=some v:=by
 unfold Aq at h;cases hi:P.info? t with
 |none=>rw[hi]at h;cases h
 |some i=>rw[hi]at h;exact⟨i,rfl,h⟩
theorem Vq{A B:List Value}{x:Value}{m:Nat}(h:A.length=m):(A++x::B).take (m+1)=A++ [x]:=by
 subst h;rw[List.take_append,bD (by omega),show A.length+1-A.length=1 by omega];rfl
theorem Vt{A B:List Value}{x:Value}{m n:Nat}(h:A.length=m):(A++x::B).drop (m+1+n)=B.drop n:=by
 subst h;rw[List.drop_append,List.drop_eq_nil_of_le (by omega),show A.length+1+n-A.length=n+1 by omega];rfl
theorem NJ(off:Nat):∀(xs:List Value) (k:Nat) (arr:Array Value),off+k+xs.length≤arr.size→
  (xs.zipIdx k).foldl (fun cs (c,j)=>cs.setIfInBounds (off+j) c) arr=(M0 arr.toList (off+k) xs).toArray
 | [],k,arr,_=>by simp[M0]
 |x::xs,k,arr,h=>by
  simp only[ay]at h;simp only[List.zipIdx_cons,List.foldl_cons];rw[NJ off xs (k+1) _ (by simp;omega)];have hm:off+k<arr.toList.length:=by simp;omega
  have b:arr.toList.set (off+k) x=arr.toList.take (off+k)++x::arr.toList.drop (off+k+1):=by
   rw[List.set_eq_take_append_cons_drop,if_pos hm]
  have a:(arr.toList.take (off+k)).length=off+k:=by simp;omega
  congr 1
  unfold M0;rw[Array.toList_setIfInBounds,b,←Nat.add_assoc,Vq a,Vt a];simp only[List.append_assoc,fw,List.nil_append,ay,List.drop_drop];rw[show off+k+1+xs.length=off+k+(xs.length+1) by omega]
theorem uo{a:Nat→Option (Nat×Nat)}:∀(parts:List (Nat×Value)) (cs cs':List Value),EO a cs parts=some cs'→Instr.fill a cs.toArray parts=some cs'.toArray
 | [],cs,cs',h=>by simp only[EO,bp.injEq]at h;subst h;rfl
 |(i,v)::rest,cs,cs',h=>by
  simp only[EO]at h;cases hp:a i with
  |none=>rw[hp]at h;cases h
  |some os=>
   obtain⟨off,size⟩:=os;rw[hp]at h;simp only at h;cases hb:(av v.cells.toList.length size&&zX (off+v.cells.toList.length) cs.length)with
   |false=>rw[hb]at h;cases h
   |true=>
    rw[hb]at h;simp only[aJ]at hb;have c:=aX hb.1;have d:=jr hb.2;have f:=uo rest _ _ h;have e:v.cells.size=size:=by simpa using c
    have g:off+v.cells.size≤cs.length:=by simpa using d
    have b:Array.foldl (fun cs x=>cs.setIfInBounds (off+x.2) x.1) cs.toArray v.cells.zipIdx=(M0 cs off v.cells.toList).toArray:=by
     have:=NJ off v.cells.toList 0 cs.toArray (by simpa using g);simp only[jX]at this;rw[←this,←Array.foldl_toList];congr 1
     simp[Array.toList_zipIdx]
    simp only[Instr.fill,hp];rw[if_neg (by simp[e];omega)];simp only[b];exact f
theorem pn{N:Nat}{r:cI}{a:Act}(h:Agree N r a):∀{ps:List (Nat×Operand)} {vs:List (Nat×Value)},qQ r ps=some vs→ps.map (fun p=>(p.1,a.eval p.2))=vs
 | [],vs,hv=>by simp[qQ]at hv;subst hv;rfl
 |(i,o)::ps,vs,hv=>by
  simp only[qQ]at hv;cases ho:dq r o with
  |none=>simp[ho]at hv
  |some v=>cases hos:qQ r ps with
   |none=>simp[ho,hos]at hv
   |some us=>simp[ho,hos]at hv;subst hv;simp[kK h ho,pn h hos]
theorem qU{t:TypeId}(h:zQ P t=true)(w:World):(sizeOf t).run P w=.ok (cd P t) w:=by
 unfold zQ at h;cases hi:P.info? t with
 |none=>rw[hi]at h;cases h
 |some i=>simp[sizeOf,cT hi,cd,hi]
theorem GM(w:World):∀l:List Field,CJ P l=true→(l.mapM fun f:Field=>((do pure (f.offset,←sizeOf f.type)):Sem (Nat×Nat))).run P w=.ok (l.map fun f:Field=>(f.offset,cd P f.type)) w
 | [],_=>rfl
 |f::l,h=>by
  simp only[CJ]at h;cases hf:zQ P f.type with
  |false=>rw[hf]at h;cases h
  |true=>
   rw[hf]at h;rw[List.mapM_cons];simp only[aU,qU hf,aC,bK,GM w l h,cN]
theorem CI{t:TypeId}{ps:Array (Nat×Value)}{cs:List Value}(a:LB P t ps.toList=some cs)(w:World):
  (Instr.build t ps).run P w=.ok (.agg cs.toArray) w:=by
 unfold LB at a;split at a
 ·rename_i fs z hu c
  obtain⟨v,c,j⟩:=kI c;cases ha:CJ P fs.toList with
  |false=>rw[ha]at a;cases a
  |true=>
   rw[ha]at a;have k:(fs.mapM fun f:Field=>((do pure (f.offset,←sizeOf f.type)):Sem (Nat×Nat))).run P w=.ok (fs.map fun f:Field=>(f.offset,cd P f.type)) w:=by
    rw[Array.mapM_eq_mapM_toList];simp only[Sem.run_map,GM w fs.toList ha,aC];congr 1
    apply cQ;simp
   have g:=uo _ _ _ a;have b:(fun i:Nat=>(fs.map fun f:Field=>(f.offset,cd P f.type))[i]?)=PD P fs.toList:=by
    funext i;unfold PD;rw[Array.getElem?_map,bq];cases fs[i]?<;>rfl
   have d:v.cells=z.toArray:=by rw[←j]
   rw[cond_true]at a;rw[←b]at g;simp only[Instr.build,aU,ff c,aC,aB hu,k,d,g,bK]
 ·rename_i n e z hu c
  obtain⟨v,c,j⟩:=kI c;cases ha:zQ P e with
  |false=>rw[ha]at a;cases a
  |true=>
   rw[ha]at a;have g:=uo _ _ _ a;have d:v.cells=z.toArray:=by rw[←j]
   simp only[Instr.build,aU,ff c,aC,aB hu,qU ha,d,g,bK]
 ·cases a
theorem DL{ek:Option (Kind×Kind)}{o:Oper}{r:cI}{K:RK}{h:ad}{N:Nat}{a:Act}(Q:Agree N r a)(g:Dy P ek o.op r K h)(d:wL)(hd:DecOk d r):
  ∃v S,K v S∧We S h∧IW (Ma d o.op) v∧∀w:World,We S w.heap→(execOp a.eval o).run P w=.ok (.value v) w:=by
 have j:∀{x:Operand} {v:Value},dq r x=some v→a.eval x=v:=fun h=>kK Q h
 have B:∀{s:Sem Value},Yv P s K h→Ma d o.op=.x→(∀w,(execOp a.eval o).run P w=(do pure (Next.value (←s)):Sem Next).run P w)→
   ∃v S,K v S∧We S h∧IW (Ma d o.op) v∧∀w:World,We S w.heap→(execOp a.eval o).run P w=.ok (.value v) w:=by
  rintro s ⟨v,S,q,C,A⟩ hx H;exact⟨v,S,q,C,by rw[hx];trivial,fun w D=>by rw[H w];exact iZ (A w D)⟩
 obtain⟨T,op,z,pos,I,G⟩:=o;simp only at g B⊢;cases op with
 |move x=>
  simp only[Dy]at g;split at g
  ·rename_i v hv
   exact⟨v,none,g,trivial,wh hd hv,fun w _=>by simp[execOp,j hv]⟩
  ·exact g.elim
 |assign x=>
  simp only[Dy]at g;split at g
  ·rename_i v hv
   exact⟨v,none,g,trivial,wh hd hv,fun w _=>by simp[execOp,j hv]⟩
  ·exact g.elim
 |pick c x y=>
  simp only[Dy]at g;split at g
  ·rename_i vc va vb hc hx U
   unfold XB at g;split at g
   ·rename_i cb
    have L:=wh hd hc;have hxo:=wh hd hx;have Z:=wh hd U;have H:∀w,(execOp a.eval ⟨T,.pick c x y,z,pos,I,G⟩).run P w=.ok (.value (if cb then va else vb)) w:=fun w=>by
     simp[execOp,j hc,j hx,j U,asBool]
    have O:IW (Ma d (.pick c x y)) (if cb then va else vb):=by
     simp only[Ma];cases hcd:CD d c with
     |t=>
      rw[hcd]at L;have:cb=true:=by simpa[IW]using L
      subst this;exact hxo
     |f=>
      rw[hcd]at L;have:cb=false:=by simpa[IW]using L
      subst this;exact Z
     |u=>trivial
     |x=>trivial
    split at g
    ·rename_i bx by'
     have e1:(if cb=true then Value.bool bx else Value.bool by')=.bool (bif cb then bx else by'):=by cases cb<;>rfl
     rw[e1]at O;exact⟨_,none,g,trivial,O,fun w _=>by rw[H w,e1]⟩
    ·cases cb
     ·exact⟨_,none,g,trivial,O,fun w _=>H w⟩
     ·exact⟨_,none,g,trivial,O,fun w _=>H w⟩
   ·exact g.elim
  ·exact g.elim
 |load t x=>
  simp only[Dy]at g;split at g
  ·rename_i v hv
   obtain⟨u,S,q,C,A⟩:=ED g;exact B ⟨u,some S,q,C,A⟩ rfl fun w=>by simp only[execOp,j hv]
  ·exact g.elim
 |nilCheck x=>
  simp only[Dy]at g;split at g
  ·rename_i p hv
   obtain⟨b,rfl,q⟩:=g;exact⟨_,none,q,trivial,trivial,fun w _=>by simp[execOp,j hv]⟩
  ·exact g.elim
 |binOp op t x y yt=>
  simp only[Dy]at g;split at g
  ·rename_i v u hn hv hu
   have go:(∀c d,v=.agg c→u=.agg d→False)∧Yv P (binOp op t v u) K h:=by
    split at g
    ·exact GO (neg:=false) g
    ·exact GO (neg:=true) g
    ·exact⟨(Ba g).1,(Ba g).2.2⟩
   obtain⟨W,R,S,q,C,A⟩:=go;obtain⟨yc,rfl⟩:=Lb hn;refine⟨R,S,q,C,trivial,fun w D=>?_⟩
   simp only[execOp,j hv,j hu];simp[NO op t x yc v u W w,A w D]
  ·rename_i v u hn hv hu
   obtain⟨R,S,q,C,A⟩:=Px (x:=x) (y:=y) g;refine⟨R,S,q,C,trivial,fun w D=>?_⟩
   simp only[execOp,j hv,j hu];exact iZ (A w D)
  ·rename_i v u hna hn hv hu
   obtain⟨W,h2,R,S,q,C,A⟩:=Ba g;refine⟨R,S,q,C,trivial,fun w D=>?_⟩
   simp only[execOp,j hv,j hu];simp[Qc op t x y v u W h2 w,A w D]
  ·exact g.elim
 |unOp op t x=>
  simp only[Dy]at g;split at g
  ·rename_i v hv
   obtain⟨u,S,q,C,A⟩:=Sm (P:=P) (h:=h) g;refine⟨u,S,q,C,?_,fun w D=>by simp only[execOp,j hv];exact iZ (A w D)⟩
   have J:=wh hd hv;cases op<;>try trivial
   simp only[Ma];have F:=A {(default:World)with heap:=h} C;cases hx:CD d x with
   |t=>
    rw[hx]at J;have:v=.bool true:=J;subst this;simp[Op.unary]at F;exact F.symm
   |f=>
    rw[hx]at J;have:v=.bool false:=J;subst this;simp[Op.unary]at F;exact F.symm
   |u=>trivial
   |x=>trivial
  ·exact g.elim
 |convert s t x=>
  simp only[Dy]at g;split at g
  ·rename_i v hv
   exact B (MU g) rfl fun w=>by simp only[execOp,j hv]
  ·exact g.elim
 |extract x i=>
  simp only[Dy]at g;split at g
  ·rename_i vs hv
   split at g
   ·rename_i u hu
    have Y:vs[i]? =some u:=by simpa using hu
    exact⟨u,none,g,trivial,trivial,fun w _=>by simp[execOp,j hv,Instr.extract,Y]⟩
   ·exact g.elim
  ·exact g.elim
 |fieldAddr t x f=>
  simp only[Dy]at g;split at g
  ·rename_i b u off hv hf
   exact B (Fv hf g) rfl fun w=>by simp only[execOp,j hv]
  ·exact g.elim
 |field t x f=>
  simp only[Dy]at g;split at g
  ·rename_i v hv
   exact B (KU g) rfl fun w=>by simp only[execOp,j hv]
  ·exact g.elim
 |indexAddr t x i=>
  simp only[Dy]at g;split at g
  ·rename_i v u hv hu
   exact B (DN g) rfl fun w=>by simp only[execOp,j hv,j hu]
  ·exact g.elim
 |index t x i=>
  simp only[Dy]at g;split at g
  ·rename_i v u hv hu
   exact B (KT g) rfl fun w=>by simp only[execOp,j hv,j hu]
  ·exact g.elim
 |slice t x lo hi mx=>
  simp only[Dy]at g;split at g
  ·rename_i v l h' m hv hl hh hm
   have X:∀{x:Option Operand} {v:Option Value},JA r x=some v→x.map a.eval=v:=by
    intro x v hx;cases x with
    |none=>simp[JA]at hx;subst hx;rfl
    |some x=>
     simp only[JA]at hx;cases H:dq r x with
     |none=>simp[H]at hx
     |some u=>simp[H]at hx;subst hx;simp[j H]
   exact B (KP g) rfl fun w=>by simp only[execOp,j hv,X hl,X hh,X hm]
  ·exact g.elim
 |lookup t x k ok=>
  simp only[Dy]at g;split at g
  ·rename_i v u hv hu
   exact B (Ig g) rfl fun w=>by simp only[execOp,j hv,j hu]
  ·exact g.elim
 |makeInterface t x=>
  simp only[Dy]at g;split at g
  ·rename_i v hv
   cases hb:qR P t with
   |false=>rw[hb]at g;exact g.elim
   |true=>
    rw[hb,cond_true]at g;exact⟨_,none,g,trivial,trivial,fun w _=>by simp only[execOp,j hv];exact iZ (Co hb w)⟩
  ·exact g.elim
 |typeAssert x u t ok=>
  simp only[Dy]at g;split at g
  ·rename_i v hv
   cases ok with
   |true=>exact g.elim
   |false=>
    rw[cond_false]at g;unfold Rc at g;cases hb:qR P t with
    |false=>rw[hb]at g;exact g.elim
    |true=>
     rw[hb,cond_true]at g;split at g
     ·obtain⟨y,rfl,q⟩:=g
      exact⟨_,none,q,trivial,trivial,fun w _=>by simp only[execOp,j hv];exact iZ (Gk hb w)⟩
     ·exact g.elim
  ·exact g.elim
 |makeFunc fn first cap=>
  simp only[Dy]at g;split at g
  ·rename_i vs us hv hu
   have e1:=mN Q hv;have e2:=mN Q hu;refine⟨_,none,g,trivial,trivial,fun w _=>?_⟩
   have V:first.map a.eval=vs.toArray:=by rw[←e1];apply cQ;simp
   have f2:cap.map a.eval=us.toArray:=by rw[←e2];apply cQ;simp
   simp[execOp,Instr.makeFunc,V,f2]
  ·exact g.elim
 |entry it=>
  simp only[Dy]at g;split at g
  ·rename_i b kk vk hv
   obtain⟨h0,e,x,y,hi,q,U,hK⟩:=g;refine⟨_,_,hK,hi,trivial,fun w D=>?_⟩
   simp only[execOp,j hv];refine iZ ?_;rw[SZ h0 D,q,U]
  ·exact g.elim
 |call c=>
  simp only[Dy]at g;have E:∀{b:Builtin} {vs:List Value},c.callee=.builtin b→oA r c.args.toList=some vs→∃cs:Array Bool,∀w,(execOp a.eval ⟨T,.call c,z,pos,I,G⟩).run P w=
    (builtin b c.argTypes z cs vs.toArray).run P w:=by
   intro b vs hc n;have e1:=mN Q n;have V:c.args.map a.eval=vs.toArray:=by rw[←e1];apply cQ;simp
   refine⟨c.args.map fun| .const _=>true|_=>false,fun w=>?_⟩
   simp[execOp,resolve,hc,V,invoke];rfl
  split at g
  ·rename_i v t hc n hat
   obtain⟨cs,E⟩:=E hc n;obtain⟨u,S,q,C,A⟩:=Ps (ats:=c.argTypes) (ty:=z) (by rw[←bq,hat];rfl) g;exact⟨u,S,q,C,trivial,fun w D=>by rw[E w];simp only[builtin];exact iZ (A w D)⟩
  ·rename_i v t hc n hat
   obtain⟨cs,E⟩:=E hc n;obtain⟨u,S,q,C,A⟩:=Pw (h:=h) (ats:=c.argTypes) (ty:=z) (by rw[←bq,hat];rfl) g;exact⟨u,S,q,C,trivial,fun w D=>by rw[E w];simp only[builtin];exact iZ (A w D)⟩
  ·rename_i vs hc n
   obtain⟨cs,E⟩:=E hc n;obtain⟨u,q,A⟩:=Ax (P:=P) (ats:=c.argTypes) (ty:=z) g;exact⟨u,none,q,trivial,trivial,fun w _=>by rw[E w];simp only[builtin];exact iZ (A w)⟩
  ·rename_i vs hc n
   obtain⟨cs,E⟩:=E hc n;obtain⟨u,q,A⟩:=Ax (P:=P) (ats:=c.argTypes) (ty:=z) g;exact⟨u,none,q,trivial,trivial,fun w _=>by rw[E w];simp only[builtin];exact iZ (A w)⟩
  ·rename_i v hc n
   obtain⟨cs,E⟩:=E hc n;obtain⟨u,q,A⟩:=KQ (P:=P) (ats:=c.argTypes) (ty:=z) g;exact⟨u,none,q,trivial,trivial,fun w _=>by rw[E w];simp only[builtin];exact iZ (A w)⟩
  ·exact g.elim
 |build t ps=>
  simp only[Dy]at g;split at g
  ·rename_i vs n
   split at g
   ·rename_i cs hcs
    refine⟨_,none,g,trivial,trivial,fun w _=>?_⟩
    have hp:(ps.map fun x=>(x.1,a.eval x.2))=vs.toArray:=by
     rw[←pn Q n];apply cQ;simp
    have H:=CI (ps:=vs.toArray) (by simpa using hcs) w;simp only[execOp];rw[show(ps.map fun(i,x)=>(i,a.eval x))=vs.toArray from hp]
    exact iZ H
   ·exact g.elim
  ·exact g.elim
 |_=>simp only[Dy]at g
end Go.Lift
namespace Go.Lift
open Go
variable {P:Program}
def N7(P:Program)(s:Sem Next)(K:WK)(w:World):Prop:=
 (∃v w',s.run P w=.ok (.value v) w'∧Tame w w'∧K v w'.heap)∨
 (∃w',s.run P w=.ok .skip w'∧Tame w w'∧K undef w'.heap)∨
 (∃f args,s.run P w=.ok (.enter f args) w∧Calls P f args w fun e w'=>Tame w w'∧∃v,e=.returned v∧K v w'.heap)∨
 (∃l fn tmps assign body,s.run P w=.ok (.round l fn tmps assign body) w∧
  ∀(c:Frame) (cs:List Frame),∃b w',Tame w w'∧K (.bool b) w'.heap∧Steps P (lone (Frame.round l fn tmps assign body .normal) (c::cs) w) (lone (c.finish (.bool b)) cs w'))
def Wv(P:Program)(s:Sem Value)(K:WK)(w:World):Prop:=∃v w',s.run P w=.ok v w'∧Tame w w'∧K v w'.heap
theorem Wv.out{s:Sem Value}{K:WK}{w:World}(h:Wv P s K w):N7 P (do pure (Next.value (←s))) K w:=by
 obtain⟨v,w',a,b,c⟩:=h;exact .inl ⟨v,w',iZ a,b,c⟩
def Wu(P:Program)(s:Sem Unit)(K:WK)(w:World):Prop:=∃w',s.run P w=.ok () w'∧Tame w w'∧K undef w'.heap
theorem Wu.out{s:Sem Unit}{K:WK}{w:World}(h:Wu P s K w):N7 P (do s;pure Next.skip) K w:=by
 obtain⟨w',a,b,c⟩:=h;exact .inr (.inl ⟨w',Ur a,b,c⟩)
def jH(w:World)(h:ad):World:={w with heap:=h}
theorem dR(w:World)(h:ad):Tame w (jH w h):=⟨rfl,rfl,rfl⟩
theorem kW(e:TypeId)(cs:Array Value)(w:World):(newRow e cs).run P w=.ok (aH w.heap) (jH w (hnew w.heap cs.toList e)):=by
 simp[newRow,newObj,ou,aH,jH,hnew,bind,Sem.bind,pure]
theorem A6(o:Obj)(w:World):(newObj o).run P w=.ok w.heap.size (jH w (w.heap.push o)):=rfl
theorem Iy{h:ad}{a b:Addr}(v:Value)(c:a≠b):aD (hset h a v) b=aD h b:=
 World.cell?_setCell_other {(default:World)with heap:=h} a b v c
theorem Fs{h:ad}{a:Addr}{u:Value}(v:Value)(hc:aD h a=some u):aD (hset h a v) a=some v:=
 World.cell?_setCell_same {(default:World)with heap:=h} a v hc
theorem Li{h:ad}{a b:Addr}(v:Value):F1 (hset h a v) b=F1 h b:=
 World.frozen?_setCell {(default:World)with heap:=h} a b v
theorem Wr.hset{h:ad}{a b:Addr}(v:Value)(d:Wr h b):Wr (hset h a v) b:=by
 obtain⟨⟨u,c⟩,f⟩:=d;refine⟨?_,by rw[Li];exact f⟩
 by_cases e:a=b
 ·subst e;exact⟨v,Fs v c⟩
 ·exact⟨u,by rw[Iy v e];exact c⟩
theorem Pg{w:World}{a:Addr}{v:Value}(g:∀cs,v≠ .agg cs)(b:∀cs,v≠ .tuple cs)(i:Wr w.heap a):(store a v).run P w=.ok () (jH w (hset w.heap a v)):=by
 obtain⟨⟨u,f⟩,e⟩:=i;have c:w.cell? a=some u:=f;have d:w.frozen? a=false:=e;cases v<;>first|exact absurd rfl (g _)|exact absurd rfl (b _)|(simp only[store,ou,c,d];rfl)
theorem K5{v:Value}{vs:List Value}(h:cu (v::vs)=true):(∀cs,v≠ .agg cs)∧(∀cs,v≠ .tuple cs)∧cu vs=true:=by
 simp only[cu,aJ]at h;refine⟨fun cs e=>?_,fun cs e=>?_,h.2⟩<;>(subst e;exact absurd h.1 (by simp))
theorem sX{a:Addr}:∀(vs:List Value) (i:Nat) (w:World),cu vs=true→(∀j,j<vs.length→Wr w.heap (adr a (i+j)))→
  (storeCells a vs i).run P w=.ok () (jH w (ib w.heap a i vs))
 | [],i,w,_,_=>rfl
 |v::vs,i,w,b,hw=>by
  obtain⟨d,e,b⟩:=K5 b;have c:=hw 0 (by simp);simp only[jX]at c;have f:a.add i=adr a i:=(vD a i).symm;simp only[storeCells,f,aU,Pg d e c,aC];rw[sX vs (i+1) (jH w (hset w.heap (adr a i) v)) b fun j g=>?_]
  ·rfl
  ·have:=hw (j+1) (by simp only[ay];omega)
   rw[show i+1+j=i+(j+1) by omega]
   exact this.hset v
theorem JR{a:Addr}(m:Nat):∀(vs:List Value) (i:Nat) (h:ad),ib h (adr a m) i vs=ib h a (m+i) vs
 | [],_,_=>rfl
 |v::vs,i,h=>by
  simp only[ib];rw[JR m vs (i+1),F7];rfl
theorem Kt{t:TypeId}{a v:Value}{K:WK}{w:World}(c:OV P t a v K w.heap):Wu P (Instr.storeAt t a v) K w:=by
 unfold OV at c;split at c
 ·rename_i a
  cases hb:(av v.cells.toList.length (cd P t)&&cu v.cells.toList)with
  |false=>rw[hb]at c;exact c.elim
  |true=>
   rw[hb]at c;simp only[aJ]at hb;have n:=aX hb.1;obtain⟨c,m⟩:=qh c;have g:v.cells.size=cd P t:=by simpa using n
   have go:(∀j,j<v.cells.toList.length→Wr w.heap (adr a (0+j)))→(Instr.storeAt t (.pointer (some a)) v).run P w=.ok () (jH w (ib w.heap a 0 v.cells.toList)):=by
    intro d;have:=sX (P:=P) v.cells.toList 0 w hb.2 d;simp[Instr.storeAt,mH,storeVar,m,g,this]
   split at c
   ·rename_i u hu
    obtain⟨d,k⟩:=c;refine⟨_,go (fun j f=>?_),dR _ _,?_⟩
    ·rw[hu]at f;simp only[ay,List.length_nil]at f
     obtain rfl:j=0:=by omega
     exact d
    ·rw[hu];exact k
   ·obtain⟨d,k⟩:=c
    refine⟨_,go (fun j f=>?_),dR _ _,k⟩
    rcases d with e|⟨b,i,d⟩
    ·rw[e]at f;cases f
    ·cases i;exact d j f
 ·exact c.elim
theorem kf(z:Array Value)(n:Nat):(iz z n).toList=du n z.toList:=by
 have key:∀n,(List.range (n*z.size)).map (fun i=>z[i%z.size]!)=(bC n z.toList).flatten:=by
  intro n;induction n with
  |zero=>simp
  |succ n ih=>
   rw[Nat.succ_mul,List.range_add,List.map_append,ih,List.replicate_succ',List.flatten_append];congr 1
   simp only[lg,List.flatten_cons,List.flatten_nil,List.append_nil];apply List.ext_getElem
   ·simp
   ·intro i a b
    simp only[List.length_map,List.length_range]at a;simp[Nat.mod_eq_of_lt a,a,Nat.add_mod]
 simpa[iz,du]using key n
theorem dI{t e:TypeId}(h:xF P t=some e):P.underlying t=some (.slice e):=by
 unfold xF at h;split at h
 ·rename_i e' hu;simp only[bp.injEq]at h;subst h;exact hu
 ·cases h
theorem QU{z:Value}{n:Nat}:((Array.range (n*z.cells.size)).map (z.cells[· %z.cells.size]!))=(du n z.cells.toList).toArray:=by
 have:=kf z.cells n;unfold iz at this;apply cQ;rw[this]
theorem D8{t e:TypeId}{n:Nat}{ps:Array (Nat×Value)}{z cs:List Value}(q:xF P t=some e)(p:rC P e=some z)(u:n*cd P e≤16777216)(k:z.length=cd P e)
  (o:EO (fun i=>some (i*cd P e,cd P e)) (du n z) ps.toList=some cs)(w:World):
  (Instr.buildSlice t n ps).run P w=.ok (.slice (some (aH w.heap)) n n) (jH w (hnew w.heap cs e)):=by
 obtain⟨v,j,c⟩:=kI p;obtain⟨i,hi,m⟩:=sC j;have s:(sizeOf e).run P w=.ok (cd P e) w:=by simp[sizeOf,cT hi,cd,hi]
 have f:v.cells.size=cd P e:=by rw[←k,←c];simp
 have g:=uo _ _ _ o;have a:((Array.range (n*cd P e)).map (fun i=>(if n*cd P e=0 then #[]else v.cells)[i%(if n*cd P e=0 then #[]else v.cells).size]!))=(du n z).toArray:=by
  by_cases b:n*cd P e=0
  ·have:(du n z).length=0:=by simp[du,k,b]
   rw[bj.1 this];simp[b]
  ·simp only[if_neg b]
   rw[←f,QU,c]
 have d:¬(n*cd P e>2^24):=by omega
 simp only[Instr.buildSlice,aU,aB (dI q),aC,s,if_neg d];by_cases b:n*cd P e=0
 ·simp only[if_pos b]at a
  simp only[if_pos b,aU,bK,aC,a,g,kW]
 ·simp only[if_neg b]at a
  simp only[if_neg b,aU,bK,aC,ff j,a,g,kW]
theorem Sf{h:ad}{a:Addr}{vs:List Value}(b:Row h a vs):∀j v,vs[j]? =some v→aD h (a.add j)=some v:=fun j v c=>by
 rw[←vD];exact b j v c
theorem zI{size n cap len:Nat}{b:Option Addr}{vs:List Value}{w:World}(d:SRow w.heap b (n*size) vs):(fe size n (.slice b len cap)).run P w=.ok vs.toArray w:=by
 obtain⟨e,a⟩:=d;cases b with
 |none=>
  rcases a with rfl|⟨_,h,_⟩
  ·simp[fe]
  ·cases h
 |some b=>
  refine run_firstCells_some w size n b len cap vs e fun j v c=>?_
  rcases a with rfl|⟨_,h,a⟩
  ·cases c
  ·cases h;exact Sf a j v c
theorem Gu{a:Addr}{m:Nat}{xs:List Value}{w:World}(d:cu xs=true)(c:sN w.heap (some a) m xs):
  (storeCells (a.add m) xs).run P w=.ok () (jH w (ib w.heap a m xs)):=by
 rcases c with rfl|⟨b,e,c⟩
 ·rfl
 ·cases e
  have:=sX (P:=P) (a:=adr a m) xs 0 w d fun j f=>by rw[F7,aP];exact c j f
  rw[←vD,this,JR,jX]
set_option maxHeartbeats 1000000 in
theorem HH{t e u ty:TypeId}{b:Option Addr}{sl f d:Nat}{xs:List Value}{x:Value}{K:WK}{w:World}(D:xF P t=some e)(k:(∃s,P.underlying u=some (.slice s))∨P.underlying u=some .string)
  (g:∀w,(qL x).run P w=.ok d w)(hx:∀w':World,w'.heap=w.heap→(fe (cd P e) d x).run P w'=.ok xs.toArray w')
  (hi:∃i,P.info? e=some i)
  (h:VP P e b sl f d xs K w.heap):Wv P (dQ #[t,u] ty #[.slice b sl f,x]) K w:=by
 obtain⟨i,hi⟩:=hi;have j:cd P e=i.size:=by simp[cd,hi]
 have y:rK P e=i.bytes:=by simp[rK,hi]
 by_cases hc:sl+d≤f
 ·obtain⟨J,I,E⟩:=h.1 hc
  refine⟨_,_,?_,dR w (fI w.heap b (sl*cd P e) xs),E⟩;cases b with
  |none=>
   have c:=hx w rfl;rw[j]at c;rcases k with⟨s,hd⟩|hd<;>(simp[dQ,aB (dI D),aB hd,sizeOf,cT hi,g,hc,c];rfl)
  |some a=>
   have p:=Gu (P:=P) I J;have c:=hx w rfl;rw[j]at p c;rcases k with⟨s,hd⟩|hd<;>(simp[dQ,aB (dI D),aB hd,sizeOf,cT hi,g,hc,c,p,fI,j])
 ·obtain⟨old,z,N,O,C,G,E⟩:=h.2 (by omega)
  obtain⟨v,H,F⟩:=kI O;obtain⟨Q,n,L⟩:=sC H;rw[hi]at n;cases n;rw[y]at C G;have q:¬i.bytes=0:=by omega
  have m:¬(281474976710656<mI (sl+d) f*i.bytes):=by omega
  have c:=hx w.drew rfl;have o:(fe (cd P e) sl (.slice b sl f)).run P w.drew=.ok old.toArray w.drew:=zI N;rw[j]at c o;have B:sl+d≤(Question.appendCap (sl+d) f e).cut (w.tape w.drawn (.appendCap (sl+d) f e)):=Nat.le_add_right _ _;refine⟨_,jH w.drew (hnew w.heap (old++xs++du ((Question.appendCap (sl+d) f e).cut (w.tape w.drawn (.appendCap (sl+d) f e))-(sl+d)) z) e),?_,⟨rfl,rfl,rfl⟩,E _ B⟩
  have A:(iz v.cells ((Question.appendCap (sl+d) f e).cut (w.tape w.drawn (.appendCap (sl+d) f e))-(sl+d)))=(du ((Question.appendCap (sl+d) f e).cut (w.tape w.drawn (.appendCap (sl+d) f e))-(sl+d)) z).toArray:=by
   apply cQ;rw[kf,F]
  rcases k with⟨s,hd⟩|hd<;>(simp[dQ,aB (dI D),aB hd,sizeOf,cT hi,g,hc,q,m,Question.forced,c,o,ff H,kW,A,aH];rfl)
theorem G1{t:TypeId}{K:Prop}(h:UO P t K):∃i,P.info? t=some i:=by
 unfold UO at h;cases hi:P.info? t with
 |none=>rw[hi]at h;exact h.elim
 |some i=>exact⟨i,rfl⟩
theorem Cv{t:TypeId}(h:cd P t≠0):∃i,P.info? t=some i:=by
 cases hi:P.info? t with
 |none=>exact absurd (by simp[cd,hi]) h
 |some i=>exact⟨i,rfl⟩
theorem ET{size n:Nat}{x:ByteArray}{w:World}:(fe size n (.string x)).run P w=.ok ((cL x).take n).toArray w:=by
 simp only[fe,bK];congr 1
 apply cQ;simp[cL,gk,gC,←List.map_take]
theorem Au{t u ty:TypeId}{s x:Value}{K:WK}{w:World}(c:(∃e',P.underlying u=some (.slice e'))∨P.underlying u=some .string)(h:FK P t s x K w.heap):
  Wv P (dQ #[t,u] ty #[s,x]) K w:=by
 unfold FK at h;split at h
 ·rename_i e b sl sc a xl xc ht
  have hi:=G1 h;obtain⟨⟨xs,d,g⟩,i⟩:=qh h;exact HH ht c (fun w=>rfl) (fun w' f=>zI (by rw[f];exact d)) hi g
 ·rename_i e b sl sc x ht
  cases hb:av (cd P e) 1 with
  |false=>rw[hb]at h;exact h.elim
  |true=>
   rw[hb]at h;have j:=aX hb;have k:(cL x).length=x.size:=by simp[cL]
   refine HH ht c (fun w=>rfl) (fun w' _=>?_) (Cv (by omega)) h
   rw[ET,bD (by omega)]
 ·exact h.elim
theorem DB{n:Int}(b:0≤n)(a:n≤9223372036854775807):IntKind.i64.wrap n=n:=IntWalk.i64_in n ⟨by omega,a⟩
theorem Qr{t e u ty:TypeId}{b:Option Addr}{sl c:Nat}{k0 k:IntKind}{l:Int}{z:List Value}{K:WK}{w:World}(y:xF P t=some e)(x:P.underlying u=some (.int k0))
  (T:rC P e=some z)(S:z.length=cd P e)(V:0≤l)(J:l*rK P e≤2^48)(Y:l≤9223372036854775807)(h3:((sl+l.toNat:Nat):Int)≤9223372036854775807)
  (h:VP P e b sl c l.toNat (du l.toNat z) K w.heap):Wv P (dQ #[t,u] ty #[.slice b sl c,.int k l]) K w:=by
 obtain⟨v,E,G⟩:=kI T;obtain⟨i,hi,X⟩:=sC E;have j:cd P e=i.size:=by simp[cd,hi]
 have B:rK P e=i.bytes:=by simp[rK,hi]
 have A:IntKind.wrap .i64 l=l:=DB V Y;have g:¬l<0:=by omega
 rw[B]at J;have f:¬(281474976710656:Int)<l*i.bytes:=by omega
 have d:∀w':World,(asInt (.int k l)).run P w'=.ok l w':=fun w'=>rfl
 have F:(iz v.cells l.toNat)=(du l.toNat z).toArray:=by apply cQ;rw[kf,G]
 have s:l.toNat*i.size=0→du l.toNat z= []:=fun O=>by
  have H:(du l.toNat z).length=l.toNat*i.size:=by rw[←j,←S];unfold du;simp
  exact bj.1 (by rw[H,O])
 by_cases hc:sl+l.toNat≤c
 ·obtain⟨Q,J,I⟩:=h.1 hc
  refine⟨_,_,?_,dR w (fI w.heap b (sl*cd P e) (du l.toNat z)),I⟩;cases b with
  |none=>
   by_cases m:l.toNat*i.size=0
   ·simp[dQ,aB (dI y),aB x,sizeOf,cT hi,d,A,g,f,hc,m];rfl
   ·simp[dQ,aB (dI y),aB x,sizeOf,cT hi,d,A,g,f,hc,ff E];rfl
  |some a=>
   have n:=Gu (P:=P) J Q;rw[j]at n;by_cases m:l.toNat*i.size=0
   ·rw[s m]at n
    simp[dQ,aB (dI y),aB x,sizeOf,cT hi,d,A,g,f,hc,n,fI,j,m,s m]
   ·simp[dQ,aB (dI y),aB x,sizeOf,cT hi,d,A,g,f,hc,n,fI,j,m,ff E,F]
 ·obtain⟨old,z',Z,C,N,R,I⟩:=h.2 (by omega)
  rw[T]at C;cases C;rw[B]at N R;have U:¬i.bytes=0:=by omega
  have o:¬(281474976710656<mI (sl+l.toNat) c*i.bytes):=by omega
  have W:¬(9223372036854775807:Int)<((sl:Int)+(l.toNat:Int)):=by omega
  have p:¬(9223372036854775807:Int)<((sl:Int)+max l 0):=by omega
  have q:(fe (cd P e) sl (.slice b sl c)).run P w.drew=.ok old.toArray w.drew:=zI Z;rw[j]at q;have L:sl+l.toNat≤(Question.appendCap (sl+l.toNat) c e).cut (w.tape w.drawn (.appendCap (sl+l.toNat) c e)):=Nat.le_add_right _ _;refine⟨_,jH w.drew (hnew w.heap (old++du l.toNat z++du ((Question.appendCap (sl+l.toNat) c e).cut (w.tape w.drawn (.appendCap (sl+l.toNat) c e))-(sl+l.toNat)) z) e),?_,⟨rfl,rfl,rfl⟩,I _ L⟩
  have D:(iz v.cells ((Question.appendCap (sl+l.toNat) c e).cut (w.tape w.drawn (.appendCap (sl+l.toNat) c e))-(sl+l.toNat)))=(du ((Question.appendCap (sl+l.toNat) c e).cut (w.tape w.drawn (.appendCap (sl+l.toNat) c e))-(sl+l.toNat)) z).toArray:=by
   apply cQ;rw[kf,G]
  by_cases m:l.toNat*i.size=0
  ·rw[s m]at I⊢
   simp[dQ,aB (dI y),aB x,sizeOf,cT hi,d,A,g,f,hc,p,o,Question.forced,q,ff E,kW,D,aH,m];rfl
  ·simp[dQ,aB (dI y),aB x,sizeOf,cT hi,d,A,g,f,hc,p,o,Question.forced,q,ff E,kW,D,aH,m,F];rfl
theorem Gg{t u ty:TypeId}{k0:IntKind}{s x:Value}{K:WK}{w:World}(c:P.underlying u=some (.int k0))(h:Gh P t s x K w.heap):
  Wv P (dQ #[t,u] ty #[s,x]) K w:=by
 unfold Gh at h;split at h
 ·rename_i e b sl sc k l ht
  split at h
  ·rename_i z hz
   cases hb:av z.length (cd P e)with
   |false=>rw[hb]at h;exact h.elim
   |true=>
    rw[hb]at h;obtain⟨⟨a,d,f,g⟩,i⟩:=h;exact Qr ht c hz (aX hb) a d f g i
  ·exact h.elim
 ·exact h.elim
theorem mQ:∀{a b:List Value},cu a=true→cu b=true→cu (a++b)=true
 | [],_,_,h=>h
 |v::a,b,h,k=>by
  simp only[cu,fw,aJ]at h⊢;exact⟨h.1,mQ h.2 k⟩
theorem Ce{z:List Value}(h:cu z=true):∀n,cu (du n z)=true
 |0=>rfl
 |n+1=>by
  have:du (n+1) z=z++du n z:=by simp[du,List.replicate_succ]
  rw[this];exact mQ h (Ce h n)
theorem Kv{t ty:TypeId}{x:Value}{K:WK}{w:World}(h:OX P t x K w.heap):Wv P (ud #[t] ty #[x]) K w:=by
 unfold OX at h;split at h
 ·rename_i e a n c ht
  split at h
  ·rename_i z hz
   obtain⟨v,g,d⟩:=kI hz;cases ho:cu z with
   |false=>rw[ho]at h;exact h.elim
   |true=>
    rw[ho]at h;obtain⟨i,j⟩:=h;refine⟨_,_,?_,dR w (fI w.heap a 0 (du n z)),j⟩;cases a with
    |none=>simp[ud,aB (dI ht)];rfl
    |some a=>
     cases n with
     |zero=>simp[ud,aB (dI ht)];rfl
     |succ n=>
      have b:=Gu (P:=P) (Ce ho (n+1)) i;rw[←vD,HJ]at b;have f:(iz v.cells (n+1)).toList=du (n+1) z:=by rw[kf,d]
      simp[ud,aB (dI ht),ff g,f,b,fI]
  ·exact h.elim
 ·exact h.elim
theorem Cf:∀(xs:List Value) (n:Nat),cu xs=true→cu (xs.take n)=true
 | [],n,_=>by simp[cu]
 |x::xs,0,_=>by simp[cu]
 |x::xs,n+1,h=>by
  simp only[cu,aJ,List.take_succ_cons]at h⊢;exact⟨h.1,Cf xs n h.2⟩
theorem Ii(x:ByteArray):cu (cL x)=true:=by
 have:∀l:List UInt8,cu (l.map fun b=>.int .u8 (b.toNat:Int))=true:=by
  intro l;induction l with
  |nil=>rfl
  |cons b l ih=>simp[cu,ih]
 exact this _
theorem Me{t u ty:TypeId}{d s:Value}{K:WK}{w:World}(h:TT P t d s K w.heap):Wv P (qM #[t,u] ty #[d,s]) K w:=by
 unfold TT at h;split at h
 ·rename_i e b dl dc a sl sc ht
  obtain⟨⟨xs,k,n,p,o⟩,g⟩:=qh h;refine⟨_,_,?_,dR w (fI w.heap b 0 xs),o⟩;have j:=zI (P:=P) (len:=sl) (cap:=sc) k;cases b with
  |none=>simp[qM,aB (dI ht),qL,g,j,goInt];rfl
  |some c=>
   have f:=Gu (P:=P) (m:=0) p n;simp only[Addr.add,if_pos]at f;simp[qM,aB (dI ht),qL,g,j,goInt,f,fI]
 ·rename_i e b dl dc x ht
  cases hb:av (cd P e) 1 with
  |false=>rw[hb]at h;exact h.elim
  |true=>
   rw[hb]at h;have p:=aX hb;obtain⟨i,hi⟩:=Cv (P:=P) (t:=e) (by omega);have g:(sizeOf e).run P w=.ok (cd P e) w:=by simp[sizeOf,cT hi,cd,hi]
   obtain⟨n,o⟩:=h;have v:(cL x).length=x.size:=by simp[cL]
   have q:(cL x).take (dN x.size dl)=(cL x).take dl:=by
    by_cases hx:x.size≤dl
    ·rw[show dN x.size dl=x.size from Nat.min_eq_left hx,bD (by omega),bD (by omega)]
    ·rw[show dN x.size dl=dl from Nat.min_eq_right (by omega)]
   have j:(fe (cd P e) (dN x.size dl) (.string x)).run P w=.ok ((cL x).take dl).toArray w:=by
    rw[ET,q]
   refine⟨_,_,?_,dR w (fI w.heap b 0 ((cL x).take dl)),o⟩;cases b with
   |none=>simp[qM,aB (dI ht),qL,g,j,goInt];rfl
   |some c=>
    have f:=Gu (P:=P) (m:=0) (Cf _ dl (Ii x)) n;simp only[Addr.add,if_pos]at f;simp[qM,aB (dI ht),qL,g,j,goInt,f,fI]
 ·exact h.elim
theorem Rd(k v:Value)(a:Nat):∀(es:List MapEntry),(match es.findIdx? (fun e=>f9 k e.key)with
  |some i=>(es.modify i (fun e=>{e with key:=k,val:=v}),a)
  |none=>(es++ [{key:=k,val:=v,born:=a}],a+1))=KW k v a es
 | []=>rfl
 |e::es=>by
  have b:=Rd k v a es;simp only[KW,List.findIdx?_cons];cases hk:f9 k e.key with
  |true=>simp[List.modify]
  |false=>
   simp only[dy,if_false];rw[←b];cases hf:es.findIdx? (fun e=>f9 k e.key)with
   |none=>simp
   |some i=>simp[List.modify]
theorem yD{d:TypeDesc}{c:CK}(hd:pE d c)(x:c.den):∀(es:List MapEntry) (i:Nat),keysOf c es→
  oh d (c.enc x) es i=some (match es.findIdx? (fun e=>f9 (c.enc x) e.key)with
   |some j=>(es[j]?).map fun e=>(i+j,e.val)
   |none=>none)
 | [],i,_=>rfl
 |e::es,i,h=>by
  obtain⟨y,k⟩:=h e (by simp);have b:=Ey hd x y;rw[←k]at b;have g:=yD hd x es (i+1) fun f a=>h f (by simp[a])
  simp only[oh,List.findIdx?_cons,b];cases hb:f9 (c.enc x) e.key with
  |true=>simp
  |false=>
   simp only[dy,if_false];rw[g];cases hf:es.findIdx? (fun e=>f9 (c.enc x) e.key)with
   |none=>simp
   |some j=>simp[Nat.add_assoc,Nat.add_comm 1 j]
theorem xG{a b:ByteArray}(h:(a==b)=true):a=b:=by
 cases a with|mk a=>cases b with|mk b=>
 have h:(a==b)=true:=h;rw[eq_of_beq h]
theorem y9(a:ByteArray):(a==a)=true:=by
 cases a with|mk a=>
 exact beq_self_eq_true a
theorem KI{d:TypeDesc}{c:CK}(hd:pE d c)(x y:c.den)(h:f9 (c.enc x) (c.enc y)=true):Instr.sameBits 10000 (c.enc y) (c.enc x)=true:=by
 rcases hd with⟨i,rfl,rfl⟩|⟨rfl,rfl⟩|⟨rfl,rfl⟩
 ·have h:x=y:=eq_of_beq (α:=Int) h
  subst h;have:∀n:Int,(i==i&&n==n)=true:=fun n=>by simp
  exact this x
 ·have h:x=y:=xG h
  subst h;exact y9 x
 ·have h:x=y:=eq_of_beq (α:=Bool) h
  subst h;exact beq_self_eq_true (α:=Bool) x
theorem wT{w:World}{r:Nat}{es:Array MapEntry}{a:Nat}{o:Obj}(h:w.heap[r]? =some (.map es a)):(setObj r o).run P w=.ok () (jH w (w.heap.setIfInBounds r o)):=by
 simp only[setObj,ou,h];rfl
theorem PN{t k e:TypeId}{d:TypeDesc}{c:CK}(z:P.underlying t=some (.map k e))(u:P.underlying k=some d)(hd:pE d c){r:Nat}{x:c.den}{v:Value}{w:World}(hm:za c w.heap r):
  (Instr.mapUpdate t (.map (some r)) (c.enc x) v).run P w=.ok () (jH w (mR w.heap r (c.enc x) v)):=by
 obtain⟨es,a,j,f⟩:=hm;obtain⟨q,A,b,C⟩:=w6 (P:=P) hd u x f w;rw[yD hd x es.toList 0 f]at b;have g:=Rd (c.enc x) v a es.toList;have o:mR w.heap r (c.enc x) v=w.heap.setIfInBounds r (.map (KW (c.enc x) v a es.toList).1.toArray (KW (c.enc x) v a es.toList).2):=by
  simp only[mR,j]
 rw[o,←g];simp only[Instr.mapUpdate,aU,aB z,aC,ml j,nW hd u,A];cases hf:es.toList.findIdx? (fun e=>f9 (c.enc x) e.key)with
 |none=>
  rw[hf]at b;simp only[bp.injEq]at b;subst b;simp only[wT j];congr 4
  apply cQ;simp
 |some i=>
  rw[hf]at b;simp only[bp.injEq]at b;obtain⟨hi,s,_⟩:=List.findIdx?_eq_some_iff_getElem.1 hf;have p:es.toList[i]? =some es.toList[i]:=ax hi;rw[p]at b;simp only[ly,aP]at b;subst b;have n:es[i]? =some es.toList[i]:=by rw[←bq];exact p
  obtain⟨y,B⟩:=f es.toList[i] (List.getElem_mem hi);have m:Instr.sameBits 10000 (es.toList[i]).key (c.enc x)=true:=by
   rw[B]at s⊢;exact KI hd x y s
  simp only[n,ly,Option.getD_some,Instr.keyThatStays,m,if_true,aU,bK,aC,wT j];congr 4
  apply cQ;simp
theorem As{t:TypeId}{m k v:Value}{K:WK}{w:World}(h:FJ P t m k v K w.heap):Wu P (Instr.mapUpdate t m k v) K w:=by
 unfold FJ at h;split at h
 ·rename_i c e m hc
  obtain⟨g,d,b,f,hd⟩:=yz hc;obtain⟨i,rfl,r,rfl,hm,a⟩:=CK.dec_sound h;exact⟨_,PN b f hd hm,dR _ _,a⟩
 ·exact h.elim
theorem NP(k:Value):∀(es:List MapEntry),(match es.findIdx? (fun e=>f9 k e.key)with
  |some i=>es.eraseIdx i
  |none=>es)=Ho k es
 | []=>rfl
 |e::es=>by
  have a:=NP k es;simp only[Ho,List.findIdx?_cons];cases hk:f9 k e.key with
  |true=>simp
  |false=>
   simp only[dy,if_false];rw[←a];cases hf:es.findIdx? (fun e=>f9 k e.key)<;>simp
theorem Nl{t k e ty:TypeId}{ts:Array TypeId}{d:TypeDesc}{c:CK}(v:ts[0]? =some t) (u:P.underlying t=some (.map k e)) (p:P.underlying k=some d) (hd:pE d c) {r:Nat} {x:c.den} {w:World} (hm:za c w.heap r):
  (rR ts ty #[.map (some r),c.enc x]).run P w=.ok (.tuple #[]) (jH w (GR w.heap r (c.enc x))):=by
 obtain⟨es,g,m,j⟩:=hm;obtain⟨q,y,a,A⟩:=w6 (P:=P) hd p x j w;rw[yD hd x es.toList 0 j]at a;have f:=NP (c.enc x) es.toList;have o:GR w.heap r (c.enc x)=w.heap.setIfInBounds r (.map (Ho (c.enc x) es.toList).toArray g):=by
  simp only[GR,m]
 rw[o,←f];simp only[rR,v,List.getElem?_toArray,List.getElem?_cons_zero,List.getElem?_cons_succ,aU,aB u,aC,ml m,nW hd p,y];cases hf:es.toList.findIdx? (fun e=>f9 (c.enc x) e.key)with
 |none=>
  rw[hf]at a;simp only[bp.injEq]at a;subst a;simp[wT m]
 |some i=>
  rw[hf]at a;simp only[bp.injEq]at a;obtain⟨hi,z,_⟩:=List.findIdx?_eq_some_iff_getElem.1 hf;have s:es.toList[i]? =some es.toList[i]:=ax hi;rw[s]at a;simp only[ly,aP]at a;subst a;have n:i<es.size:=by simpa using hi
  have b:es.eraseIdxIfInBounds i=(es.toList.eraseIdx i).toArray:=by
   apply cQ;simp[Array.eraseIdxIfInBounds,n]
  simp[wT m,b]
theorem Ge{t ty:TypeId}{ts:Array TypeId}{m k:Value}{K:WK}{w:World}(f:ts[0]? =some t) (h:Gf P t m k K w.heap):Wv P (rR ts ty #[m,k]) K w:=by
 unfold Gf at h;split at h
 ·rename_i c e m hc
  obtain⟨i,d,b,g,hd⟩:=yz hc;obtain⟨j,rfl,h⟩:=CK.dec_sound h;rcases h with⟨rfl,a⟩|⟨r,rfl,hm,a⟩
  ·refine⟨_,w,?_,Tame.refl w,a⟩
   simp[rR,f,aB b,nW hd g]
  ·exact⟨_,_,Nl f b g hd hm,dR _ _,a⟩
 ·exact h.elim
theorem Sj{t k e:TypeId}(b:P.underlying t=some (.map k e)){m:Option Nat}{a:Nat}{w:World}(hm:m=none∧a=0∨∃r es,m=some r∧w.heap[r]? =some (.map es a)):
  (vj t (.map m)).run P w=.ok (.pointer (some (aH w.heap))) (jH w (w.heap.push (.mapIter m a #[] a))):=by
 rcases hm with⟨rfl,rfl⟩|⟨r,es,rfl,c⟩
 ·simp only[vj,aU,aB b,aC,bK,A6,aH]
 ·simp only[vj,aU,aB b,aC,bK,ml c,A6,aH]
theorem Pn{t:TypeId}(a:P.underlying t=some .string){s:ByteArray}{w:World}:
  (vj t (.string s)).run P w=.ok (.pointer (some (aH w.heap))) (jH w (w.heap.push (.stringIter s 0))):=by
 simp only[vj,aU,aB a,aC,bK,A6,aH]
theorem yp{w:World}{i:Nat}{m:Option Nat}{a:Nat}{b:Array Nat}{last:Nat}(h:w.heap[i]? =some (.mapIter m a b last)):(getObj i).run P w=.ok (.mapIter m a b last) w:=by
 simp only[getObj,ou,h]
theorem MJ{w:World}{i:Nat}{m:Option Nat}{a:Nat}{b:Array Nat}{last:Nat}{o:Obj}(h:w.heap[i]? =some (.mapIter m a b last)):(setObj i o).run P w=.ok () (jH w (w.heap.setIfInBounds i o)):=by
 simp only[setObj,ou,h];rfl
theorem Hy(n:Nat)(a:0<n)(w:World):∃k w',k<n∧(choose (.mapNext n)).run P w=.ok k w'∧Tame w w'∧w'.heap=w.heap:=by
 unfold choose;simp only[ou];by_cases h:(Question.mapNext n).forced=true
 ·exact⟨0,w,a,by rw[if_pos h],Tame.refl w,rfl⟩
 ·refine⟨(Question.mapNext n).cut (w.tape w.drawn (.mapNext n)),{w with drawn:=w.drawn+1},Nat.mod_lt _ a,by rw[if_neg h],⟨rfl,rfl,rfl⟩,rfl⟩
theorem Md{N:Value}{t:TypeId}{K:WK}{w:World}(h:TS N K w.heap):Wv P (qA N false t) K w:=by
 unfold TS at h;split at h
 ·rename_i a
  obtain⟨J,m,j,g,last,hi,h⟩:=h;obtain⟨b,off,O⟩:=a;simp only at J hi h;subst J;rcases h with⟨rfl,R⟩|⟨r,es,v,rfl,I,C,z,E⟩
  ·exact⟨_,w,by simp only[qA,aU,yp hi,aC,bK],Tame.refl w,R⟩
  ·have s:(!g.isEmpty&& !es.isEmpty&&es.all (fun e=>decide (e.born≥last)))=false:=by
    rcases C with h|h|h<;>simp[h]
   obtain⟨left,i⟩:∃left,left=es.filter fun e=> !g.contains e.born:=⟨_,rfl⟩
   obtain⟨old,p⟩:∃old,old=left.filter (·.born<j):=⟨_,rfl⟩
   obtain⟨new,hnew⟩:∃new,new=left.filter (·.born≥j):=⟨_,rfl⟩
   obtain⟨d,f⟩:∃d:Array (Option MapEntry),d=(if old.isEmpty then #[none]else #[])++(old++new).map some:=⟨_,rfl⟩
   have B:0<d.size:=by
    rw[f];by_cases y:old.isEmpty=true
    ·simp[y];omega
    ·have:old.size≠0:=by simpa using y
     simp[y];omega
   obtain⟨k,D,Q,u,L,H⟩:=Hy (P:=P) d.size B w;obtain⟨c,hc⟩:∃c,d[k]? =some c:=⟨d[k],Array.getElem?_eq_getElem Q⟩;have G:D.heap[b]? =some (.mapIter (some r) j g last):=by rw[H];exact hi
   have n:(!g.isEmpty&& !es.isEmpty&&es.all fun x=>decide (x.born≥last))=false:=s
   cases c with
   |none=>
    refine⟨.tuple #[.bool false],D,?_,L,?_⟩
    ·simp only[qA,aU,yp hi,aC,bK,ml I,n,dy,if_false,←i,←p,←hnew,←f,u,hc]
    ·rw[H]
     have q:old.isEmpty=true:=by
      have hm:none∈d:=p9 hc;rw[f]at hm;by_cases y:old.isEmpty=true
      ·exact y
      ·simp[y]at hm
     refine z fun e S F=>?_
     cases hs:g.contains e.born with
     |true=>rfl
     |false=>
      have o:e∈old:=by
       rw[p,i];simp only[qB];exact⟨⟨by simpa using S,by rw[hs];rfl⟩,by simpa using F⟩
      rw[Array.isEmpty_iff]at q;rw[q]at o;simp at o
   |some e=>
    have o:e∈es∧g.contains e.born=false:=by
     have hm:some e∈d:=p9 hc;have A:e∈left:=by
      rw[f]at hm;rw[Array.mem_append]at hm;rcases hm with hm|hm
      ·split at hm<;>simp at hm
      ·simp only[Array.mem_map,bp.injEq,exists_eq_right,Array.mem_append]at hm
       rcases hm with hm|hm
       ·rw[p]at hm;exact(qB.1 hm).1
       ·rw[hnew]at hm;exact(qB.1 hm).1
     rw[i]at A;have:=qB.1 A;exact⟨this.1,by simpa using this.2⟩
    refine⟨.tuple #[.bool true,e.key,e.val],jH D (D.heap.setIfInBounds b (.mapIter (some r) j (g.push e.born) v)),?_,L.trans (dR _ _),?_⟩
    ·simp only[qA,aU,yp hi,aC,bK,ml I,n,dy,if_false,←i,←p,←hnew,←f,u,hc,MJ G]
    ·rw[H]
     exact E e (by simpa using o.1) o.2
 ·exact h.elim
theorem Ku{k:Value}{t:TypeId}{K:WK}{w:World}(h:OW k K w.heap):Wv P (qA k true t) K w:=by
 unfold OW at h;split at h
 ·rename_i a
  obtain⟨i,s,pos,hi,h⟩:=h;obtain⟨b,off,m⟩:=a;simp only at i hi h;subst i;have j:(getObj b).run P w=.ok (.stringIter s pos) w:=by simp only[getObj,ou,hi]
  rcases h with⟨n,f⟩|⟨c,hc,g,f⟩
  ·exact⟨_,w,by simp only[qA,aU,j,aC,if_neg (jh.2 n),bK],Tame.refl w,f⟩
  ·have d:pos<s.size:=by
    rcases Nat.lt_or_ge pos s.size with h'|h'
    ·exact h'
    ·rw[getElem?_neg s pos (jh.2 h')]at hc;cases hc
   have e:(s[pos]'d)=c:=by rw[getElem?_pos s pos d]at hc;exact bp.inj hc
   have hd:=decode_ascii s pos d (by rw[e];exact g);rw[e]at hd;have o:(setObj b (.stringIter s (pos+1))).run P w=.ok () (jH w (w.heap.setIfInBounds b (.stringIter s (pos+1)))):=by simp only[setObj,ou,hi];rfl
   exact⟨_,_,by simp only[qA,aU,j,aC,if_pos d,hd,o,bK];rfl,dR _ _,f⟩
 ·exact h.elim
theorem JU{w:World}{g n:Nat}(a:n≠0):w.freeze ⟨g,0,none⟩ n=jH w (hfreeze w.heap g n):=by
 unfold World.freeze;rw[if_neg a];rfl
theorem Mc{t f ty:TypeId}{p n:Value}{K:WK}{w:World}(h:TR P t p n K w.heap):Wv P (Builtin.unsafeString_ #[t,f] ty #[p,n]) K w:=by
 unfold TR at h;split at h
 ·rename_i e a n hu
  cases hc:av (P.cellsOf e) 1 with
  |false=>rw[hc]at h;exact h.elim
  |true=>
   rw[hc]at h;rcases h with⟨rfl,c⟩|⟨l,g,cs,rfl,rfl,b,m,d,k,hx,c⟩
   ·exact⟨_,w,Lib.run_unsafeString_none ..,Tame.refl w,c⟩
   ·refine⟨_,_,Lib.run_unsafeString_row w t f ty e hu (aX hc) g cs.size (by simp[World.shape?,d]) l b k m ?_,?_,?_⟩
    ·intro j x i
     have:=hx j x i;have e:((⟨g,0,none⟩:Addr).add j)=⟨g,j,none⟩:=by unfold Addr.add;split<;>simp_all
     rw[e];simp[World.cell?,d,this]
    ·rw[JU (by simpa using b)];exact dR _ _
    ·rw[JU (by simpa using b)];exact c
 ·exact h.elim
theorem Ik{t e:TypeId}{z:List Value}{k k':IntKind}{l c:Int}{w:World}(u:xF P t=some e)(E:rC P e=some z)(f:z.length=cd P e)(A:0≤l)(F:l≤c)(C:c≤9223372036854775807)(D:rK P e*c≤2^48):
  (Instr.makeSlice t (.int k l) (.int k' c)).run P w=.ok (.slice (some (aH w.heap)) l.toNat c.toNat) (jH w (hnew w.heap (du c.toNat z) e)):=by
 obtain⟨v,q,d⟩:=kI E;obtain⟨i,hi,B⟩:=sC q;have g:cd P e=i.size:=by simp[cd,hi]
 have m:rK P e=i.bytes:=by simp[rK,hi]
 have n:v.cells.size=i.size:=by rw[←g,←f,←d];simp
 have y:=DB A (by omega);have hc:=DB (show 0≤c by omega) C
 rw[m]at D;have c1:¬(c<0):=by omega
 have x:¬(281474976710656<(i.bytes:Int)*c):=by omega
 have p:¬(l<0):=by omega
 have s:¬(c<l):=by omega
 by_cases a:c.toNat*i.size=0
 ·have o:(du c.toNat z).length=0:=by simp[du,f,g,a]
  rw[bj.1 o];simp[Instr.makeSlice,aB (dI u),asInt,asIntOf,cT hi,y,hc,c1,x,p,s,sizeOf,a,kW]
 ·have b:((Array.range (c.toNat*i.size)).map (fun j=>v.cells[j%v.cells.size]!))=(du c.toNat z).toArray:=by
   rw[←n,QU,d]
  have key:(newRow e ((Array.range (c.toNat*i.size)).map (fun j=>v.cells[j%v.cells.size]!))).run P w=.ok (aH w.heap) (jH w (hnew w.heap (du c.toNat z) e)):=by
   rw[b,kW]
  simp[Instr.makeSlice,aB (dI u),asInt,asIntOf,cT hi,y,hc,c1,x,p,s,sizeOf,a,ff q];rw[key];rfl
theorem Agree.args{N:Nat}{r:cI}{a:Act}(h:Agree N r a){os:Array Operand}{vs:List Value}(b:oA r os.toList=some vs):os.map a.eval=vs.toArray:=by
 rw[←mN h b];apply cQ;simp
theorem HC.out{f:FuncId}{args:List Value}{ks:List Kind}{K:WK}{w:World}(h:HC P f args ks (fun x h'=>K (B9 ks (mB ks x)) h') w.heap):N7 P (callFunc f args.toArray) K w:=by
 rcases h.run w rfl with⟨c,d⟩|⟨v,w',c,b,x,rfl,a⟩
 ·refine .inr (.inr (.inl ⟨f,args.toArray,c,d.mono ?_⟩))
  rintro e w' ⟨b,x,rfl,a⟩;exact⟨b,_,rfl,a⟩
 ·exact .inl ⟨_,w',c,b,a⟩
theorem Tg{a b e:TypeId}{s:ByteArray}{w:World}(k:P.underlying a=some .string)(hd:P.underlying b=some (.slice e))(g:P.underlying e=some (.int .u8)):
  ∃c,s.size≤c∧(convert a b (.string s)).run P w=.ok (.slice (some (aH w.heap)) s.size c) (jH w.drew (w.heap.push (.cells (cL s++bC (c-s.size) (Value.int .u8 0)).toArray e (c,c+1)))):=by
 have f:s.size≤grownCap w s.size 0 e:=Nat.le_add_right _ _;refine⟨_,f,?_⟩;rw[Go.Lib.run_convert_string_bytes w a b e s k hd g];have hc:(Go.Lib.bytesCells w e s).size=grownCap w s.size 0 e:=by
  unfold Go.Lib.bytesCells;rw[Array.size_append,Array.size_map,Array.size_replicate,show s.data.size=s.size from rfl]
  omega
 have d:(cL s++bC (grownCap w s.size 0 e-s.size) (Value.int .u8 0)).toArray=Go.Lib.bytesCells w e s:=by
  unfold Go.Lib.bytesCells cL;apply cQ;simp
 rw[d];unfold Go.Lib.bytesWorld World.freeze;rw[if_neg (by omega),hc];unfold World.alloc World.drew jH;congr 1
 congr 1
 apply Array.ext (by simp);intro i m j;rw[Array.getElem_modify];simp only[Array.getElem_push];split
 ·rename_i e
  subst e;simp
 ·rename_i e
  have hi:i<w.heap.size:=by simp at j;omega
  rw[dif_pos hi,dif_pos hi]
theorem DD{o:Oper}{r:cI}{K:WK}{w:World}{N:Nat}{a:Act}(I:Agree N r a)(j:Ia P o r K w.heap):N7 P (execOp a.eval o) K w:=by
 have B:∀{x:Operand} {v:Value},dq r x=some v→a.eval x=v:=fun h=>kK I h
 obtain⟨Z,op,G,pos,O,H⟩:=o;cases op with
 |alloc t=>
  simp only[Ia]at j;split at j
  ·rename_i z hz
   obtain⟨v,D,Y⟩:=kI hz;have F:(Instr.alloc t true (.tuple #[])).run P w=.ok (.pointer (some (aH w.heap))) (jH w (hnew w.heap z t)):=by
    simp[Instr.alloc,ff D,newVar,kW,Y]
   exact Wv.out ⟨_,_,F,dR _ _,j⟩
  ·exact j.elim
 |box t x=>
  simp only[Ia]at j;split at j
  ·rename_i v D
   have F:(Instr.box t v).run P w=.ok (.pointer (some (aH w.heap))) (jH w (hnew w.heap v.cells.toList t)):=by
    simp[Instr.box,newVar,kW]
   simp only[execOp,B D];exact Wv.out ⟨_,_,F,dR _ _,j⟩
  ·exact j.elim
 |build t ps=>
  simp only[Ia]at j;split at j
  ·rename_i vs q
   split at j
   ·rename_i cs hcs
    have T:(ps.map fun x=>(x.1,a.eval x.2))=vs.toArray:=by
     rw[←pn I q];apply cQ;simp
    have F:=CI (ps:=vs.toArray) (by simpa using hcs) w;simp only[execOp];rw[show(ps.map fun(i,x)=>(i,a.eval x))=vs.toArray from T]
    exact Wv.out ⟨_,w,F,Tame.refl w,j⟩
   ·exact j.elim
  ·exact j.elim
 |buildSlice t n ps=>
  simp only[Ia]at j;split at j
  ·rename_i e vs L q
   split at j
   ·rename_i z hz
    cases hb:(zX (n*cd P e) 16777216&&av z.length (cd P e))with
    |false=>rw[hb]at j;exact j.elim
    |true=>
     rw[hb]at j;simp only[aJ]at hb;simp only[cond_true]at j;split at j
     ·rename_i cs hcs
      have T:(ps.map fun x=>(x.1,a.eval x.2))=vs.toArray:=by
       rw[←pn I q];apply cQ;simp
      have F:=D8 (ps:=vs.toArray) L hz (jr hb.1) (aX hb.2) (by simpa using hcs) w;simp only[execOp];rw[show(ps.map fun(i,x)=>(i,a.eval x))=vs.toArray from T]
      exact Wv.out ⟨_,_,F,dR _ _,j⟩
     ·exact j.elim
   ·exact j.elim
  ·exact j.elim
 |store t x y=>
  simp only[Ia]at j;split at j
  ·rename_i b v hb D
   simp only[execOp,B hb,B D];exact Wu.out (Kt j)
  ·exact j.elim
 |mapUpdate t m k x=>
  simp only[Ia]at j;split at j
  ·rename_i mv kv xv hm C hx
   simp only[execOp,B hm,B C,B hx];exact Wu.out (As j)
  ·exact j.elim
 |insert t m k x=>
  simp only[Ia]at j;split at j
  ·rename_i mv kv xv hm C hx
   simp only[execOp,B hm,B C,B hx];exact Wu.out (As j)
  ·exact j.elim
 |makeMap t n=>
  simp only[Ia]at j;cases n with
  |none=>exact Wv.out ⟨_,jH w (w.heap.push (.map #[] 0)),by simp[Instr.makeMap];rfl,dR _ _,j⟩
  |some n=>
   simp only at j;split at j
   ·rename_i k i hn L
    exact Wv.out ⟨_,jH w (w.heap.push (.map #[] 0)),by simp[Instr.makeMap,B hn,aB L,asInt,asIntOf];rfl,dR _ _,j⟩
   ·exact j.elim
 |makeSlice t l c=>
  simp only[Ia]at j;split at j
  ·rename_i e k l' k' c' L hl hc
   split at j
   ·rename_i z hz
    cases hb:av z.length (cd P e)with
    |false=>rw[hb]at j;exact j.elim
    |true=>
     rw[hb]at j;obtain⟨⟨h0,S,V,h3⟩,j⟩:=j;simp only[execOp,B hl,B hc];exact Wv.out ⟨_,_,Ik L hz (aX hb) h0 S V h3,dR _ _,j⟩
   ·exact j.elim
  ·exact j.elim
 |convert s d x=>
  simp only[Ia]at j;split at j
  ·rename_i e v X hd hx
   cases hu:PU P e with
   |false=>rw[hu]at j;exact j.elim
   |true=>
    rw[hu]at j;obtain⟨c,hc,R⟩:=Tg (w:=w) (s:=v) X hd (G0 hu);simp only[execOp,B hx];exact Wv.out ⟨_,_,R,⟨rfl,rfl,rfl⟩,j c hc⟩
  ·exact j.elim
 |range t x=>
  simp only[Ia]at j;split at j
  ·rename_i k e m hu hx
   obtain⟨U,hm,j⟩:=j;simp only[execOp,B hx];exact Wv.out ⟨_,_,Sj hu hm,dR _ _,j⟩
  ·rename_i s hu hx
   simp only[execOp,B hx];exact Wv.out ⟨_,_,Pn hu,dR _ _,j⟩
  ·exact j.elim
 |next it isS=>
  cases isS with
  |true=>
   simp only[Ia]at j;split at j
   ·rename_i v D
    simp only[execOp,B D];exact Wv.out (Ku j)
   ·exact j.elim
  |false=>
   simp only[Ia]at j;split at j
   ·rename_i v D
    simp only[execOp,B D];exact Wv.out (Md j)
   ·exact j.elim
 |call c=>
  simp only[Ia]at j;have Q:∀{b:Builtin} {vs:List Value},c.callee=.builtin b→oA r c.args.toList=some vs→∃cs:Array Bool,∀w,(execOp a.eval ⟨Z,.call c,G,pos,O,H⟩).run P w=
    (builtin b c.argTypes G cs vs.toArray).run P w:=by
   intro b vs hc q;refine⟨c.args.map fun| .const _=>true|_=>false,fun w=>?_⟩
   simp[execOp,resolve,hc,I.args q,invoke];rfl
  have J:∀{s s':Sem Next},(∀w,s.run P w=s'.run P w)→N7 P s' K w→N7 P s K w:=by
   intro s s' F h;unfold N7 at h⊢;simp only[F];exact h
  split at j
  ·rename_i s x hc q
   split at j
   ·rename_i t u hat
    obtain⟨cs,E⟩:=Q hc q;refine J E ?_;have A:c.argTypes= #[t,u]:=by apply cQ;rw[hat]
    simp only[builtin,A];split at j
    ·rename_i e' hu;exact Wv.out (Au (.inl ⟨e',hu⟩) j)
    ·rename_i hu;exact Wv.out (Au (.inr hu) j)
    ·rename_i k0 hu;exact Wv.out (Gg hu j)
    ·exact j.elim
   ·exact j.elim
  ·rename_i x hc q
   split at j
   ·rename_i t hat
    obtain⟨cs,E⟩:=Q hc q;refine J E ?_;have A:c.argTypes= #[t]:=by apply cQ;rw[hat]
    simp only[builtin,A];exact Wv.out (Kv j)
   ·exact j.elim
  ·rename_i s x hc q
   split at j
   ·rename_i t u hat
    obtain⟨cs,E⟩:=Q hc q;refine J E ?_;have A:c.argTypes= #[t,u]:=by apply cQ;rw[hat]
    simp only[builtin,A];exact Wv.out (Me j)
   ·exact j.elim
  ·rename_i p n hc q
   split at j
   ·rename_i t u hat
    obtain⟨cs,E⟩:=Q hc q;refine J E ?_;have A:c.argTypes= #[t,u]:=by apply cQ;rw[hat]
    simp only[builtin,A];exact Wv.out (Mc j)
   ·exact j.elim
  ·rename_i m k hc q
   split at j
   ·rename_i t u hat
    obtain⟨cs,E⟩:=Q hc q;refine J E ?_;simp only[builtin];exact Wv.out (Ge (by rw[←bq,hat];rfl) j)
   ·exact j.elim
  ·rename_i f args hc q
   unfold Xu at j;split at j
   ·exact j.elim
   ·rename_i ks hks
    split at j
    ·rename_i f
     refine J (s':=callFunc f args.toArray) (fun w=>?_) j.out
     simp[execOp,resolve,hc,I.args q,Act.eval,Deferred.ofValue,invoke]
    ·rename_i f hf
     split at j
     ·rename_i fv hfv
      rcases j.run with⟨g,first,cap,rfl,W⟩|⟨l,rfl,W⟩
      rotate_left
      ·obtain⟨fn,tmps,assign,body,S,V⟩:=W.run w rfl
       refine .inr (.inr (.inr ⟨l,fn,tmps,assign,body,?_,fun c cs=>?_⟩))
       ·rw[←S]
        simp[execOp,resolve,hc,I.args q,B hfv,Deferred.ofValue,invoke]
       ·obtain⟨b,w',L,C,X⟩:=V c cs
        refine⟨b,w',L,?_,X⟩;obtain⟨t,e,C⟩:=tH C;have hl:ks.length=1:=by rw[←uz ks t,←e];rfl
        match ks,hl,t,e,C with
        | [k],_,t,e,C=>rw[←e]at C;exact C
      refine J (s':=callFunc g (first.toList++args++cap.toList).toArray) (fun w=>?_) W.out
      have e:first++args.toArray++cap=(first.toList++args++cap.toList).toArray:=by apply cQ;simp
      rw[←e];simp[execOp,resolve,hc,I.args q,B hfv,Deferred.ofValue,invoke]
     ·exact j.elim
  ·exact j.elim
 |_=>simp only[Ia]at j
end Go.Lift
