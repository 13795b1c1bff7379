/- A part of the proof that the named laws of this program answer true, whatever the input. -/
import Derived.Test.YtceikogjngfacaaGreatLift0
import Derived.Laws.Append
import Derived.Laws.Cover3
import Derived.Laws.StructEq
import Derived.Laws.BytesString
import Derived.Lib.ConvBytes
open Array renaming ext'→dw,getElem?_toList→bv,mem_filter→rU
open Bool renaming and_eq_true→bc,false_eq_true→ce
open Go.Builtin renaming firstCells→fp,len_→lY,cap_→xY,zeroCells→iP,lenOf→sf,append_→d8,nextslicecap→nH,clear_→vo,copy_→sg,delete_→tD
open Go.Instr renaming sureAddr→nG,sliceBounds→gA,sliceAt→se,sameNow→wR,findNow→pj,lookup→xX
open Go.Op renaming equalIn→iV
open Go.Result renaming andThen_ok→aB
open Go.Sem renaming run_bind→aU,run_pure→bT,run→pt
open List renaming extract_eq_take_drop→jU,map_cons→cx,foldl_cons→tC,map_map→ik,take_of_length_le→bL,length_cons→ax,cons_append→fz,replicate→lr,length_eq_zero_iff→aw,getElem?_eq_getElem→aj
open Nat renaming beq→bK,add_assoc→wQ,ble→Ae,eq_of_beq_eq_true→aV,le_of_ble_eq_true→jJ,add_zero→ii,zero_add→bi,min→f9
open Option renaming some→bX,isSome_iff_exists→ie,map_some→pu
open Prod renaming mk→sd
open UInt8 renaming ofNat→fj
namespace Go.Lift
open Go
def Sg(S:Option (af→Prop))(h:af):Prop:=match S with|none=>True|some f=>f h
def Yv(P:Program)(s:Sem Value)(K:RK)(h:af):Prop:=∃v S,K v S∧Sg S h∧∀w:World,Sg S w.heap→s.run P w=.ok v w
theorem Yv.of_pure{P:Program}{s:Sem Value}{K:RK}{h:af}{v:Value}(c:K v none)(b:∀w:World,s.run P w=.ok v w):Yv P s K h:=
 ⟨v,none,c,trivial,fun w _=>b w⟩
variable {P:Program}
theorem yR{t:TypeId}{f:Nat}{u:TypeId}{off:Nat}(h:yS P t f=some (u,off)):
  ∃fs g,P.underlying t=some (.struct fs)∧fs[f]? =some g∧g.type=u∧g.offset=off:=by
 unfold yS at h;split at h
 ·rename_i fs hu
  split at h
  ·rename_i g hg
   simp only[bX.injEq,sd.injEq]at h;exact⟨fs,g,hu,by simpa using hg,h.1,h.2⟩
  ·cases h
 ·cases h
theorem A2{t:TypeId}(h:bK (cf P t) 0=false)(w:World):(sizeOf t).run P w=.ok (cf P t) w:=by
 unfold cf at h⊢;cases hi:P.info? t with
 |none=>rw[hi]at h;cases h
 |some i=>simp[sizeOf,df hi]
theorem EA{t:TypeId}{f:Nat}{u:TypeId}{off:Nat}{a:Addr}{K:RK}{h:af}(d:yS P t f=some (u,off))
  (b:bif bK (cf P u) 0 then False else K (.pointer (some (adr a off))) none):Yv P (Instr.fieldAt t (.pointer (some a)) f) K h:=by
 obtain⟨k,g,j,i,rfl,rfl⟩:=yR d;cases hz:bK (cf P g.type) 0 with
 |true=>rw[hz]at b;exact b.elim
 |false=>
  rw[hz]at b;refine .of_pure b fun w=>?_
  have c:cf P g.type≠0:=fun e=>by rw[e]at hz;cases hz
  simp only[Instr.fieldAt,aU,az j,aB,i,nG,bT,fieldPlace,A2 hz];simp[c,wz]
theorem xO{t:TypeId}{i:TypeInfo}(_:P.info? t=some i)(b:∃d,P.underlying t=some d)(w:World):(isAgg t).run P w=.ok (xP P t) w:=by
 obtain⟨d,hd⟩:=b;simp only[isAgg,aU,az hd,aB];unfold xP;rw[hd];cases d<;>rfl
theorem B4{c:BinOp}{k k':IntKind}{a b:Int}{K:RK}{h:af}(f:c=.shl∨c=.shr)(hv:L7 c k a b K):Yv P (Op.shift c k a k' b) K h:=by
 rcases f with rfl|rfl
 ·obtain⟨d,e⟩:=hv
  refine .of_pure e fun w=>?_
  simp[Op.shift,Int.not_lt.2 d]
 ·obtain⟨d,e⟩:=hv
  refine .of_pure e fun w=>?_
  simp[Op.shift,Int.not_lt.2 d]
theorem MS{c:BinOp}{k:IntKind}{a b:Int}{K:RK}{h:af}(hv:Uo c k a b K)(f:c≠ .shl∧c≠ .shr):Yv P (binOp c 0 (.int k a) (.int k b)) K h:=by
 cases c<;>simp only[Uo]at hv
 case quo=>obtain⟨d,e⟩:=hv;exact .of_pure e fun w=>by simp[binOp,Op.intDiv,d]
 case rem=>obtain⟨d,e⟩:=hv;exact .of_pure e fun w=>by simp[binOp,Op.intDiv,d]
 all_goals exact .of_pure hv fun w=>by simp[binOp,Op.intArith,Op.intBits,Op.intCmp]
theorem Ge(c:BinOp)(t:TypeId)(k k':IntKind)(a b:Int):binOp c t (.int k a) (.int k' b)=binOp c 0 (.int k a) (.int k' b):=by
 cases c<;>rfl
theorem L1{c:BinOp}{t:TypeId}{a b:ByteArray}{K:RK}{h:af}(hv:T7 c a b K):Yv P (binOp c t (.string a) (.string b)) K h:=by
 cases c<;>simp only[T7]at hv
 case add=>
  obtain⟨e,d⟩:=hv;refine .of_pure d fun w=>?_
  have:¬(((a.size+b.size:Nat):Int)>IntKind.i64.max):=by
   have:IntKind.i64.max=9223372036854775807:=by decide
   omega
  simp only[binOp,Op.stringOp,if_neg this,bT]
 all_goals exact .of_pure hv fun w=>by simp[binOp,Op.stringOp]
theorem nt{t:TypeId}{x y:Value}{b:Bool}{w:World}(h:∀d,(iV (d+1) t x y).run P w=.ok b w):(Op.equal t x y).run P w=.ok b w:=h 9999
theorem F1{t:TypeId}{e:TypeId}(b:P.underlying t=some (.pointer e))(a:Option Addr)(w:World):(Op.equal t (.pointer a) (.pointer none)).run P w=.ok a.isNone w:=by
 refine nt fun d=>?_
 simp only[iV,aU,az b,aB];cases a<;>rfl
theorem F2(e:BinOp)(t:TypeId)(x y:Operand)(a b:Value)(h:∀c d,a=.agg c→b=.agg d→False)(hi:a=.nilIface→b=.nilIface→False)(w:World):
  (eqGuard e t x y a b).run P w=.ok () w:=by
 cases e;case eql=>cases a<;>cases b<;>first|rfl|exact(hi rfl rfl).elim|exact(h _ _ rfl rfl).elim
 case neq=>cases a<;>cases b<;>first|rfl|exact(hi rfl rfl).elim|exact(h _ _ rfl rfl).elim
 all_goals rfl
theorem Ps(t:TypeId)(x y:Value)(hx:∀k a,x≠ .int k a)(c:∀s,x≠ .string s)(d:∀k a,x≠ .float k a)(hc:∀k a b,x≠ .complex k a b):binOp .eql t x y=(do pure (.bool (←Op.equal t x y))):=by
 cases x<;>first|rfl|exact absurd rfl (hx _ _)|exact absurd rfl (c _)|exact absurd rfl (d _ _)|exact absurd rfl (hc _ _ _)
theorem Pq(t:TypeId)(x y:Value)(hx:∀k a,x≠ .int k a)(c:∀s,x≠ .string s)(d:∀k a,x≠ .float k a)(hc:∀k a b,x≠ .complex k a b):binOp .neq t x y=(do pure (.bool (!(←Op.equal t x y)))):=by
 cases x<;>first|rfl|exact absurd rfl (hx _ _)|exact absurd rfl (c _)|exact absurd rfl (d _ _)|exact absurd rfl (hc _ _ _)
theorem nu{t:TypeId}{neg:Bool}{x y:Value}{b:Bool}{w:World}(c:(Op.equal t x y).run P w=.ok b w)
  (hx:∀k a,x≠ .int k a)(d:∀s,x≠ .string s)(e:∀k a,x≠ .float k a)(hc:∀k a b,x≠ .complex k a b):
  (binOp (bif neg then .neq else .eql) t x y).run P w=.ok (.bool (bif neg then !b else b)) w:=by
 cases neg
 ·simp only[cond_false,Ps t x y hx d e hc,aU,c,aB,bT]
 ·simp only[cond_true,Pq t x y hx d e hc,aU,c,aB,bT]
theorem MR{x:Value}(h:Vu x=true):(∃f a b,x=.func f a b)∨x=.nilFunc:=by
 cases x<;>first|exact .inr rfl|exact .inl ⟨_,_,_,rfl⟩|cases h
theorem FF{t:TypeId}{neg:Bool}{x y:Value}{K:RK}{h:af}(hv:S3 P t neg x y K):
  (∀c d,x=.agg c→y=.agg d→False)∧(x=.nilIface→y=.nilIface→False)∧Yv P (binOp (bif neg then .neq else .eql) t x y) K h:=by
 unfold S3 at hv;split at hv
 ·rename_i e a hu
  refine⟨nofun,nofun,.of_pure hv fun w=>?_⟩
  exact nu (F1 hu a w) nofun nofun nofun nofun
 ·rename_i k e a hu
  refine⟨nofun,nofun,.of_pure hv fun w=>?_⟩
  refine nu ?_ nofun nofun nofun nofun;refine nt fun d=>?_
  simp only[iV,aU,az hu,aB];cases a<;>rfl
 ·rename_i e a _ _ _ _ hu
  refine⟨nofun,nofun,.of_pure hv fun w=>?_⟩
  refine nu ?_ nofun nofun nofun nofun;refine nt fun d=>?_
  simp only[iV,aU,az hu,aB];cases a<;>rfl
 ·rename_i hu
  obtain⟨hx,g⟩:=hv;rcases MR hx with⟨f,a,b,e⟩|e<;>subst e
  ·refine⟨nofun,nofun,.of_pure g fun w=>nu (nt fun d=>?_) nofun nofun nofun nofun⟩
   simp only[iV,aU,az hu,aB];rfl
  ·refine⟨nofun,nofun,.of_pure g fun w=>nu (nt fun d=>?_) nofun nofun nofun nofun⟩
   simp only[iV,aU,az hu,aB];rfl
 ·exact hv.elim
theorem yA{w:World}{a b:Addr}(d:iX w.heap a)(f:iX w.heap b):(sameAddr a b).run P w=.ok (a==b) w:=by
 obtain⟨g,q,d,v⟩:=d;obtain⟨cb,eb,f,sb⟩:=f;by_cases c:a.block=b.block
 ·simp[sameAddr,c]
 ·have i:(a==b)=false:=by
   rw[beq_eq_false_iff_ne];intro e;exact c (by rw[e])
  have p:w.shape? a.block=some (q,g.size):=by simp[World.shape?,d]
  have s:w.shape? b.block=some (eb,cb.size):=by simp[World.shape?,f]
  have u:∀n,w.frozen? ({block:=a.block,off:=n}:Addr)=false:=fun n=>by simp[World.frozen?,d]
  have o:∀n,w.frozen? ({block:=b.block,off:=n}:Addr)=false:=fun n=>by simp[World.frozen?,f]
  have j:w.frozen? a=false:=by simp[World.frozen?,d]
  have k:w.frozen? b=false:=by simp[World.frozen?,f]
  obtain⟨m,hm⟩:∃m,g.size=m+1:=⟨g.size-1,by omega⟩
  obtain⟨n,t⟩:∃n,cb.size=n+1:=⟨cb.size-1,by omega⟩
  simp[sameAddr,c,noView,viewAt,mayBeOne,stringish,p,s,u,o,j,k,hm,t,i]
theorem Du{t:TypeId}{neg:Bool}{x y:Value}{K:RK}{h:af}(hv:TM P t neg x y K h):
  (∀c d,x=.agg c→y=.agg d→False)∧(x=.nilIface→y=.nilIface→False)∧Yv P (binOp (bif neg then .neq else .eql) t x y) K h:=by
 unfold TM at hv;split at hv
 ·rename_i a b hu
  refine⟨nofun,nofun,.of_pure hv fun w=>?_⟩
  refine nu ?_ nofun nofun nofun nofun;refine nt fun d=>?_
  simp only[iV,aU,az hu,aB,bT]
 ·rename_i e a b hu
  obtain⟨i,j,k⟩:=hv;refine⟨nofun,nofun,_,_,k,j,fun w m=>?_⟩
  refine nu ?_ nofun nofun nofun nofun;have f:bK (cf P e) 0=false:=by
   cases hb:bK (cf P e) 0 with
   |false=>rfl
   |true=>rw[hb]at i;exact i.elim
  have g:cf P e≠0:=fun e=>by rw[e]at f;cases f
  refine nt fun d=>?_
  simp only[iV,aU,az hu,aB];cases a with
  |none=>cases b<;>rfl
  |some a=>cases b with
   |none=>rfl
   |some b=>
    obtain⟨n,h2⟩:=m a b rfl rfl;simp only[aU,A2 f,aB,ne_eq,g,not_false_eq_true,if_true,yA n h2];rfl
 ·exact hv.elim
theorem FA{e:BinOp}{t:TypeId}{x y:Value}{K:RK}{h:af}(hv:SN P e t x y K h):
  (∀c d,x=.agg c→y=.agg d→False)∧(x=.nilIface→y=.nilIface→False)∧Yv P (binOp e t x y) K h:=by
 unfold SN at hv;split at hv
 ·rename_i k a k' b
  refine⟨nofun,nofun,?_⟩;rw[Ge];split at hv
  ·exact B4 (k':=k') (.inl rfl) hv
  ·exact B4 (k':=k') (.inr rfl) hv
  ·rename_i h1 h2
   cases hk:Ju k' k with
   |false=>rw[hk]at hv;exact hv.elim
   |true=>rw[hk]at hv;have:=Ci hk;subst this;exact MS hv ⟨h1,h2⟩
 ·exact⟨nofun,nofun,L1 hv⟩
 ·split at hv
  ·exact Du (neg:=false) hv
  ·exact Du (neg:=true) hv
  ·exact hv.elim
theorem KO{u:TypeId}{cs:List Value}{off:Nat}(b:((P.underlying u).isSome&&(P.info? u).isSome)=true){w:World}(c:xP P u=true):
  (part u cs.toArray off).run P w=.ok (.agg ((cs.drop off).take (cf P u)).toArray) w:=by
 simp only[bc,ie]at b;obtain⟨b,i,hi⟩:=b;have d:(sizeOf u).run P w=.ok (cf P u) w:=by simp[sizeOf,df hi,cf,hi]
 simp only[part,aU,xO hi b,aB,c,if_true,d,bT];congr 2
 apply dw;simp[jU]
theorem H7{u:TypeId}{cs:List Value}{off:Nat}(b:((P.underlying u).isSome&&(P.info? u).isSome)=true){w:World}(d:xP P u=false){v:Value}(hc:cs[off]? =some v):
  (part u cs.toArray off).run P w=.ok v w:=by
 simp only[bc,ie]at b;obtain⟨b,i,hi⟩:=b;have c:cs.toArray[off]? =some v:=by simpa using hc
 simp only[part,aU,xO hi b,aB,d,ce,if_false,c,bT]
theorem Ba{h:af}:∀{l m:List (Option Addr×Option Addr)},uu h (l++m)→uu h l∧uu h m
 | [],_,h=>⟨trivial,h⟩
 |(_,_)::_,_,h=>⟨⟨h.1,(Ba h.2).1⟩,(Ba h.2).2⟩
theorem Lm{t:TypeId}{x y:Value}{b:Bool}{l:List (Option Addr×Option Addr)}(f:Rf P t x y=some (b,l)){w:World}(i:uu w.heap l)(d:Nat):
  (iV (d+1) t x y).run P w=.ok b w:=by
 unfold Rf at f;split at f
 ·rename_i k0 k a k' c hu
  cases hk:Ju k' k with
  |false=>rw[hk]at f;cases f
  |true=>
   rw[hk]at f;have:=Ci hk;subst this;cases f;exact run_equalIn_int w d t _ _ _ _ hu
 ·rename_i a c hu
  cases f;exact run_equalIn_bool w d t _ _ hu
 ·rename_i a c hu
  cases f;exact run_equalIn_string w d t _ _ hu
 ·rename_i e a c hu
  cases hz:bK (cf P e) 0 with
  |true=>rw[hz]at f;cases f
  |false=>
   rw[hz]at f;cases f;have g:cf P e≠0:=fun e=>by rw[e]at hz;cases hz
   simp only[iV,aU,az hu,aB];cases a with
   |none=>cases c<;>rfl
   |some a=>cases c with
    |none=>rfl
    |some c=>
     obtain⟨j,h2⟩:=i.1 a c rfl rfl;simp only[aU,A2 hz,aB,ne_eq,g,not_false_eq_true,if_true,yA j h2];rfl
 ·cases f
theorem F3{rec:TypeId→List Value→List Value→Option (Bool×List (Option Addr×Option Addr))}{d:Nat}{xs ys:List Value}{w:World}
  (g:∀t us vs b l,rec t us vs=some (b,l)→uu w.heap l→(iV (d+1) t (.agg us.toArray) (.agg vs.toArray)).run P w=.ok b w):
  ∀(fs:List Field) (b:Bool) (l:List (Option Addr×Option Addr)),Tj P rec xs ys fs=some (b,l)→uu w.heap l→(Op.eqFields (d+1) xs.toArray ys.toArray fs).run P w=.ok b w
 | [],b,l,he,_=>by cases he;rfl
 |f::fs,b,l,he,hp=>by
  unfold Tj at he;split at he
  ·cases he
  ·rename_i hn
   cases hi:((P.underlying f.type).isSome&&(P.info? f.type).isSome)with
   |false=>rw[hi]at he;cases he
   |true=>
    rw[hi]at he;simp only[cond_true]at he;split at he
    ·rename_i b1 l1 c m e1 e2
     cases he;obtain⟨i,k⟩:=Ba hp;have e:=F3 g fs c m e2 k;have o:∃u v,(part f.type xs.toArray f.offset).run P w=.ok u w∧(part f.type ys.toArray f.offset).run P w=.ok v w∧(iV (d+1) f.type u v).run P w=.ok b1 w:=by
      cases ha:xP P f.type with
      |true=>
       rw[ha]at e1;exact⟨_,_,KO hi ha,KO hi ha,g _ _ _ _ _ e1 i⟩
      |false=>
       rw[ha]at e1;simp only[cond_false]at e1;split at e1
       ·rename_i x y hx hy
        exact⟨x,y,H7 hi ha hx,H7 hi ha hy,Lm e1 i d⟩
       ·cases e1
     obtain⟨u,v,n,p,j⟩:=o;simp only[Op.eqFields,ne_eq,hn,not_false_eq_true,if_true,aU,n,p,j,aB];cases b1
     ·rfl
     ·exact e
    ·cases he
theorem Bp{w:World}:∀(m:Nat) (t:TypeId) (xs ys:List Value) (b:Bool) (l:List (Option Addr×Option Addr)),Rg P m t xs ys=some (b,l)→uu w.heap l→
  ∀d,(iV (d+m+1) t (.agg xs.toArray) (.agg ys.toArray)).run P w=.ok b w
 |0,_,_,_,_,_,he,_,_=>by cases he
 |m+1,t,xs,ys,b,l,he,hp,d=>by
  unfold Rg at he;split at he
  ·rename_i fs hu
   cases hs:P.stoodInHeld t with
   |true=>rw[hs]at he;cases he
   |false=>
    rw[hs]at he;have c:P.fieldsOf t=fs:=by simp[Program.fieldsOf,hu]
    rw[run_equalIn_struct w _ t _ _ (by rw[c];exact hu) hs,c];exact F3 (d:=d+m) (fun t e vs b l f h2=>Bp m t e vs b l f h2 d) fs.toList b l he hp
  ·cases he
theorem Ix{neg b:Bool}{K:RK}{h:af}{l:List (Option Addr×Option Addr)}(c:Wq neg b K h l):∃S,K (.bool (bif neg then !b else b)) S∧Sg S h∧∀h',Sg S h'→uu h' l:=by
 cases l with
 |nil=>exact⟨none,c,trivial,fun _ _=>trivial⟩
 |cons p l=>exact⟨_,c.2,c.1,fun _ h=>h⟩
theorem Mu{d:BinOp}{t:TypeId}{xs ys:Array Value}{x y:Operand}{K:RK}{h:af}(c:Uc P d t xs.toList ys.toList K h):
  ∃v S,K v S∧Sg S h∧∀w:World,Sg S w.heap→(do eqGuard d t x y (.agg xs) (.agg ys);binOp d t (.agg xs) (.agg ys):Sem Value).run P w=.ok v w:=by
 unfold Uc at c;cases hg:P.eqGuardType P.depth t with
 |true=>rw[hg]at c;exact c.elim
 |false=>
  rw[hg]at c;simp only[cond_false]at c;split at c
  ·split at c
   ·rename_i b l he
    obtain⟨S,g,h2,e⟩:=Ix c;refine⟨_,S,g,h2,fun w f=>?_⟩
    have:=Bp 10 t _ _ b l he (e _ f) 9989;simp only[Array.toArray_toList]at this;simp only[aU,run_eqGuard_agg w _ t x y _ _ hg,aB,run_eql_struct,this];rfl
   ·exact c.elim
  ·split at c
   ·rename_i b l he
    obtain⟨S,g,h2,e⟩:=Ix c;refine⟨_,S,g,h2,fun w f=>?_⟩
    have:=Bp 10 t _ _ b l he (e _ f) 9989;simp only[Array.toArray_toList]at this;simp only[aU,run_eqGuard_agg w _ t x y _ _ hg,aB,run_neq_struct,this];rfl
   ·exact c.elim
  ·exact c.elim
theorem OW{b:UnOp}{x:Value}{K:RK}{h:af}(hv:V6 b x K):Yv P (Op.unary b x) K h:=by
 unfold V6 at hv;split at hv
 ·exact .of_pure hv fun w=>rfl
 ·exact .of_pure hv fun w=>rfl
 ·exact .of_pure hv fun w=>rfl
 ·exact hv.elim
theorem Gd:∀(l:List UInt8) (s:ByteArray),(l.map fun b=>((b.toNat:Nat):Int)).foldl (fun r n=>r.push (fj n.toNat)) s=⟨s.data++l.toArray⟩
 | [],s=>by simp
 |b::l,s=>by
  simp only[cx,tC];rw[Gd l];congr 1
  have:fj ((b.toNat:Nat):Int).toNat=b:=by simp
  rw[this];apply dw;simp[ByteArray.push]
theorem FQ{e:TypeId}(h:MQ P e=true):P.underlying e=some (.int .u8):=by
 unfold MQ at h;split at h
 ·assumption
 ·cases h
theorem Ku{w:World}{a:Addr}{vs:List Value}(b:Row w.heap a vs):(loadCells a vs.length).run P w=.ok vs.toArray w:=by
 have:=run_firstCells_some (P:=P) w 1 vs.length a 0 0 vs (by simp) fun j v hv=>by rw[←wz];exact b j v hv
 simpa[fp]using this
theorem KH{f g:TypeId}{x:Value}{K:RK}{h:af}(hv:Qt P f g x K h):Yv P (convert f g x) K h:=by
 unfold Qt at hv;split at hv
 ·rename_i k k' k'' n h1 h2
  exact .of_pure hv fun w=>by simp only[convert,aU,az h1,az h2,aB];rfl
 ·rename_i s h1 h2
  exact .of_pure hv fun w=>by simp only[convert,aU,az h1,az h2,aB];rfl
 ·rename_i e a n c h1 h2
  cases hu:MQ P e with
  |false=>rw[hu]at hv;exact hv.elim
  |true=>
   rw[hu]at hv;obtain⟨s,t,u⟩:=hv;refine⟨_,_,u,t,fun w m=>?_⟩
   rw[run_convert_bytes_string w f g e a n c h1 (FQ hu) h2];obtain⟨p,m⟩:=m;rcases m with o|⟨b,rfl,q⟩
   ·have j:s=ByteArray.empty:=by
     have:s.data.toList= []:=by simpa[eo]using o
     cases s with
     |mk d=>simp at this;subst this;rfl
    cases a with
    |none=>rw[j];rfl
    |some b=>
     have y:n=0:=by rw[←p,o];rfl
     subst y;have:=Ku (P:=P) (w:=w) (a:=b) (vs:= []) fun i v hv=>by simp at hv
     rw[run_bytesToString w b 0 c [] (by simpa using this),j];rfl
   ·have:=Ku (P:=P) q
    rw[p]at this;rw[run_bytesToString w b n c (s.data.toList.map fun b=>((b.toNat:Nat):Int)) (by rw[this,ik];rfl),Gd]
    cases s;simp[ByteArray.empty,ByteArray.emptyWithCapacity];try rfl
 ·exact hv.elim
theorem MC{u:TypeId}{cs:Array Value}{off:Nat}{K:RK}{h:af}(c:∃d,P.underlying u=some d)(hi:∃i,P.info? u=some i)
  (hv:bif xP P u then K (.agg ((cs.toList.drop off).take (cf P u)).toArray) none else(match cs.toList[off]? with|some v=>K v none|none=>False)):Yv P (part u cs off) K h:=by
 obtain⟨i,hi⟩:=hi;cases ha:xP P u with
 |true=>
  rw[ha]at hv;refine .of_pure hv fun w=>?_
  have e:(sizeOf u).run P w=.ok (cf P u) w:=by simp[sizeOf,df hi,cf,hi]
  simp only[part,aU,xO hi c,aB,ha,if_true,e,bT];congr 2
  apply dw;simp[jU]
 |false=>
  rw[ha]at hv;simp only[cond_false]at hv;cases hc:cs.toList[off]? with
  |none=>rw[hc]at hv;exact hv.elim
  |some v=>
   rw[hc]at hv;refine .of_pure hv fun w=>?_
   have b:cs[off]? =some v:=by simpa using hc
   simp only[part,aU,xO hi c,aB,ha,ce,if_false,b,bT]
def yo(P:Program)(v:Option Value)(d y n:Nat):Prop:=
 match v with
 |some x=>∀c w,(Instr.sliceBound x y c).run P w=.ok n w
 |none=>n=d
theorem nT{v:Option Value}{d y:Nat}{K:Nat→Prop}(hv:RS v d y K):∃n,K n∧yo P v d y n:=by
 unfold RS at hv;split at hv
 ·exact⟨d,hv,rfl⟩
 ·rename_i k i
  obtain⟨⟨b,e⟩,f⟩:=hv;refine⟨i.toNat,f,fun c w=>?_⟩
  simp[Instr.sliceBound,asIntOf,b,e]
 ·exact hv.elim
theorem ry{d:Bool}{len cap n l:Nat}{lo hi:Option Value}(b:yo P hi len cap n)(c:yo P lo 0 n l)(w:World):
  (gA d len cap lo hi none).run P w=.ok (l,n,cap) w:=by
 cases hi with
 |none=>
  cases lo with
  |none=>simp only[yo]at b c;subst b;subst c;simp[gA]
  |some lo=>simp only[yo]at b c;subst b;simp[gA,c]
 |some hi=>
  cases lo with
  |none=>simp only[yo]at b c;subst c;simp[gA,b]
  |some lo=>simp only[yo]at b c;simp[gA,b,c]
theorem C6{d:Bool}{len cap n l m:Nat}{lo:Option Value}{hi e:Value}(hm:yo P (some e) 0 cap m)(b:yo P (some hi) 0 m n)(c:yo P lo 0 n l)(w:World):
  (gA d len cap lo (some hi) (some e)).run P w=.ok (l,n,m) w:=by
 cases lo with
 |none=>simp only[yo]at hm b c;subst c;simp[gA,hm,b]
 |some lo=>simp only[yo]at hm b c;simp[gA,hm,b,c]
theorem AY(a:Option Addr)(l m size:Nat):(if m=l then a else a.map (·.add (l*size)))=bw a l m size:=by
 unfold bw;split
 ·rfl
 ·congr 1;funext x;rw[wz]
theorem rH{t:TypeId}{K:Prop}(h:QF P t K):K∧∀w,(sizeOf t).run P w=.ok (cf P t) w:=by
 unfold QF at h;cases hi:P.info? t with
 |none=>rw[hi]at h;exact h.elim
 |some i=>rw[hi]at h;exact⟨h,fun w=>by simp[sizeOf,df hi,cf,hi]⟩
theorem Jh{t:TypeId}{x:Value}{f:Nat}{K:RK}{h:af}(hv:Mr P t x f K):Yv P (Instr.field t x f) K h:=by
 unfold Mr at hv;split at hv
 ·rename_i u off cs hf
  obtain⟨k,g,j,i,rfl,rfl⟩:=yR hf;cases hb:((P.underlying g.type).isSome&&(P.info? g.type).isSome)with
  |false=>rw[hb]at hv;exact hv.elim
  |true=>
   rw[hb]at hv;simp only[bc,ie]at hb;obtain⟨v,S,e,d,b⟩:=MC (cs:=cs) (off:=g.offset) (h:=h) hb.1 hb.2 hv;refine⟨v,S,e,d,fun w c=>?_⟩
   have:=b w c;simp only[Instr.field,aU,az j,aB,i,asAgg,bT,this]
 ·exact hv.elim
theorem Dd{t:TypeId}{x i:Value}{K:RK}{h:af}(hv:A9 P t x i K):Yv P (Instr.indexAt t x i) K h:=by
 unfold A9 at hv;split at hv
 ·rename_i n e a k i hu
  obtain⟨⟨⟨d,g⟩,c⟩,f⟩:=rH hv;refine .of_pure c fun w=>?_
  simp[Instr.indexAt,asIntOf,az hu,nG,d,g,f,wz]
 ·rename_i e b len cap k i hu
  obtain⟨⟨⟨d,g⟩,a,rfl,c⟩,f⟩:=rH hv;refine .of_pure c fun w=>?_
  simp[Instr.indexAt,asIntOf,az hu,d,g,f,wz]
 ·exact hv.elim
theorem Je{t:TypeId}{x i:Value}{K:RK}{h:af}(hv:Mq P t x i K):Yv P (Instr.index t x i) K h:=by
 unfold Mq at hv;split at hv
 ·rename_i s k i hu
  obtain⟨b,c,d,e⟩:=hv;refine .of_pure e fun w=>?_
  simp[Instr.index,asIntOf,az hu,c,d]
 ·exact hv.elim
theorem Ja{t:TypeId}{x:Value}{lo hi d:Option Value}{K:RK}{h:af}(hv:Ml P t x lo hi d K):Yv P (se t x lo hi d) K h:=by
 unfold Ml at hv;split at hv
 ·rename_i s hu
  cases d with
  |some _=>exact hv.elim
  |none=>
   obtain⟨n,hv,b⟩:=nT (P:=P) hv;obtain⟨l,hv,c⟩:=nT (P:=P) hv;refine .of_pure hv fun w=>?_
   simp[se,Instr.slice,az hu,ry b c]
 ·rename_i e a len cap hu
  obtain⟨hv,f⟩:=rH hv;cases d with
  |none=>
   obtain⟨n,hv,b⟩:=nT (P:=P) hv;obtain⟨l,hv,c⟩:=nT (P:=P) hv;refine .of_pure hv fun w=>?_
   simp[se,Instr.slice,az hu,ry b c,f,AY]
  |some m=>
   cases hi with
   |none=>exact hv.elim
   |some hi=>
    obtain⟨i,hv,hm⟩:=nT (P:=P) hv;obtain⟨n,hv,b⟩:=nT (P:=P) hv;obtain⟨l,hv,c⟩:=nT (P:=P) hv;refine .of_pure hv fun w=>?_
    simp[se,Instr.slice,az hu,C6 hm b c,f,AY]
 ·rename_i n e a hu
  obtain⟨hv,f⟩:=rH hv;cases d with
  |some _=>exact hv.elim
  |none=>
   obtain⟨m,hv,b⟩:=nT (P:=P) hv;obtain⟨l,hv,c⟩:=nT (P:=P) hv;refine .of_pure hv fun w=>?_
   have g:(some (if n=l then a else a.add (l*cf P e)))=bw (some a) l n (cf P e):=by
    rw[←AY];split<;>rfl
   simp[se,az hu,nG,ry b c,f,g]
 ·exact hv.elim
def qH(d:TypeDesc)(c:CK):Prop:=(∃i,d=.int i∧c=.int i)∨(d=.string∧c=.str)∨(d=.bool∧c=.bool)
theorem yL{t:TypeId}{c:CK}{e:TypeId}(h:K5 P t=some (c,e)):∃k d,P.underlying t=some (.map k e)∧P.underlying k=some d∧qH d c:=by
 unfold K5 at h;split at h
 ·rename_i k e' hu
  split at h
  ·rename_i i hk
   simp only[bX.injEq,sd.injEq]at h;obtain⟨rfl,rfl⟩:=h;exact⟨k,_,hu,hk,.inl ⟨i,rfl,rfl⟩⟩
  ·rename_i hk
   simp only[bX.injEq,sd.injEq]at h;obtain⟨rfl,rfl⟩:=h;exact⟨k,_,hu,hk,.inr (.inl ⟨rfl,rfl⟩)⟩
  ·rename_i hk
   simp only[bX.injEq,sd.injEq]at h;obtain⟨rfl,rfl⟩:=h;exact⟨k,_,hu,hk,.inr (.inr ⟨rfl,rfl⟩)⟩
  ·cases h
 ·cases h
theorem D0{d:TypeDesc}{c:CK}(hd:qH d c)(x y:c.den):wR d (c.enc x) (c.enc y)=some (gj (c.enc x) (c.enc y)):=by
 rcases hd with⟨i,rfl,rfl⟩|⟨rfl,rfl⟩|⟨rfl,rfl⟩
 ·simp[wR,CK.enc,gj]
 ·simp[wR,CK.enc,gj]
 ·simp[wR,CK.enc,gj]
theorem Ec{d:TypeDesc}{c:CK}(hd:qH d c)(x:c.den):∀(es:List MapEntry) (i:Nat),keysOf c es→
  ∃r,pj d (c.enc x) es i=some r∧r.map (·.2)=FZ (c.enc x) es
 | [],i,_=>⟨none,rfl,rfl⟩
 |e::es,i,h=>by
  obtain⟨y,g⟩:=h e (by simp);have f:=D0 hd x y;rw[←g]at f;simp only[pj,FZ];cases hb:gj (c.enc x) e.key with
  |true=>rw[f,hb];exact⟨some (i,e.val),rfl,rfl⟩
  |false=>rw[f,hb];exact Ec hd x es (i+1) fun j b=>h j (by simp[b])
theorem Lq{empty:Bool}{k:TypeId}{d:TypeDesc}{c:CK}(hd:qH d c)(b:P.underlying k=some d)(v:Value)(n:Nat)(w:World):(Instr.checkKey empty (n+1) k v).run P w=.ok () w:=by
 unfold Instr.checkKey;simp only[aU,az b,aB];rcases hd with⟨i,rfl,rfl⟩|⟨rfl,rfl⟩|⟨rfl,rfl⟩<;>rfl
theorem xG{k:TypeId}{d:TypeDesc}{c:CK}(hd:qH d c)(e:P.underlying k=some d)(x:c.den){es:List MapEntry}(h:keysOf c es)(w:World):
  ∃r,(Instr.findKey k (c.enc x) es).run P w=.ok r w∧pj d (c.enc x) es 0=some r∧r.map (·.2)=FZ (c.enc x) es:=by
 obtain⟨r,b,hm⟩:=Ec hd x es 0 h;refine⟨r,?_,b,hm⟩;simp only[Instr.findKey,aU,az e,aB,b,bT]
theorem mY{w:World}{r:Nat}{es:Array MapEntry}{b:Nat}(h:w.heap[r]? =some (.map es b)):(getObj r).run P w=.ok (.map es b) w:=by
 simp only[getObj,pt,h]
theorem oX{empty:Bool}{k:TypeId}{d:TypeDesc}{c:CK}(hd:qH d c)(b:P.underlying k=some d)(v:Value)(w:World):(Instr.checkKey empty 10000 k v).run P w=.ok () w:=
 Lq hd b v 9999 w
theorem ML{t:TypeId}{c:CK}{e k:TypeId}{d:TypeDesc}(q:P.underlying t=some (.map k e))(g:P.underlying k=some d)(hd:qH d c){m:Option Nat}{x:c.den}{z v:Value}{b o:Bool}{w:World}
  (p:(zeroValue e).run P w=.ok z w)(hm:Gl c z w.heap m (c.enc x) v b):
  (xX t (.map m) (c.enc x) o).run P w=.ok (bif o then .tuple #[v,.bool b]else v) w:=by
 cases m with
 |none=>
  obtain⟨rfl,rfl⟩:=hm;simp only[xX,aU,az q,aB,bT,oX hd g];obtain⟨r,j,h2,f⟩:=xG (P:=P) hd g x (es:= []) (fun _ h=>by cases h) w
  simp only[pj,bX.injEq]at h2;subst h2;simp[j,p]
 |some r=>
  obtain⟨es,i,s,n,hv⟩:=hm;simp only[xX,aU,az q,aB,mY s,bT,oX hd g];obtain⟨r,j,h2,f⟩:=xG (P:=P) hd g x n w;simp only[j,aB];cases r with
  |none=>
   simp only[Option.map_none]at f;rw[←f]at hv;obtain⟨rfl,rfl⟩:=hv;simp[p]
  |some r=>
   simp only[pu]at f;rw[←f]at hv;obtain⟨rfl,rfl⟩:=hv;cases o<;>rfl
theorem fq{e:TypeId}{z:Value}(h:Ar P e=some z)(w:World):(zeroValue e).run P w=.ok z w:=by
 unfold Ar at h;cases hi:P.info? e with
 |none=>rw[hi]at h;cases h
 |some i=>rw[hi]at h;simp only at h;simp[zeroValue,df hi,h]
theorem G5{t:TypeId}{x k:Value}{f:Bool}{K:RK}{h:af}(hv:Jd P t x k f K h):Yv P (xX t x k f) K h:=by
 unfold Jd at hv;split at hv
 ·rename_i c e m hc
  obtain⟨o,d,g,n,hd⟩:=yL hc;obtain⟨p,rfl,hv⟩:=CK.dec_sound hv;split at hv
  ·rename_i ek z hek hz
   obtain⟨y,b,hm,j⟩:=hv;exact⟨_,_,j,hm,fun w i=>ML g n hd (fq hz w) i⟩
  ·exact hv.elim
 ·exact hv.elim
theorem D1{w:World}{b cap s q:Nat}{buf:Array Value}{cl t:Bool}(h:w.heap[b]? =some (.chan cap buf cl s q t)):(getObj b).run P w=.ok (.chan cap buf cl s q t) w:=by
 simp only[getObj,pt,h]
theorem Mn{t:TypeId}{x:Value}{ats:Array TypeId}{ty:TypeId}{K:RK}{h:af}(d:ats[0]? =some t) (hv:Ua P t x K h):Yv P (lY ats ty #[x]) K h:=by
 unfold Ua at hv;split at hv
 ·rename_i s hu
  exact .of_pure hv fun w=>by simp[lY,d,az hu,goInt]
 ·rename_i n e _ hu
  exact .of_pure hv fun w=>by simp[lY,d,az hu,goInt]
 ·rename_i e b n c hu
  exact .of_pure hv fun w=>by simp[lY,d,az hu,goInt]
 ·rename_i k e m hu
  obtain⟨n,hm,j⟩:=hv;refine⟨_,_,j,hm,fun w f=>?_⟩
  cases m with
  |none=>
   have:n=0:=f;subst this;simp[lY,d,az hu,goInt]
  |some r=>
   obtain⟨es,g,i,rfl⟩:=f;simp[lY,d,az hu,goInt,mY i]
 ·rename_i k e m hu
  obtain⟨n,hm,j⟩:=hv;refine⟨_,_,j,hm,fun w f=>?_⟩
  cases m with
  |none=>
   have:n=0:=f;subst this;simp[lY,d,az hu,goInt]
  |some r=>
   obtain⟨cap,buf,cl,s,q,i,rfl⟩:=f;simp[lY,d,az hu,goInt,D1 i]
 ·exact hv.elim
theorem Ms{t:TypeId}{x:Value}{ats:Array TypeId}{ty:TypeId}{K:RK}{h:af}(d:ats[0]? =some t) (hv:Ub P t x K h):Yv P (xY ats ty #[x]) K h:=by
 unfold Ub at hv;split at hv
 ·rename_i e b n c hu
  exact .of_pure hv fun w=>by simp[xY,d,az hu,goInt]
 ·rename_i k e m hu
  obtain⟨n,hm,i⟩:=hv;refine⟨_,_,i,hm,fun w f=>?_⟩
  cases m with
  |none=>
   have:n=0:=f;subst this;simp[xY,d,az hu,goInt]
  |some r=>
   obtain⟨cap,buf,cl,s,q,g,rfl⟩:=f;simp[xY,d,az hu,goInt,D1 g]
 ·exact hv.elim
theorem Ce{c:Bool}{k:IntKind}:∀{vs:List Value} {a:Int} {f:Value→Prop},Jr c k a vs f→∃v,f v∧∀w,(vs.foldlM (bif c then Builtin.max2 else Builtin.min2) (Value.int k a):Sem Value).run P w=.ok v w
 | [],a,f,h=>⟨_,h,fun w=>by simp⟩
 | .int k' b::vs,a,f,h=>by
  simp only[Jr]at h;cases hk:Ju k' k with
  |false=>rw[hk]at h;exact h.elim
  |true=>
   rw[hk]at h;have:=Ci hk;subst this;obtain⟨v,e,d⟩:=Ce h;refine⟨v,e,fun w=>?_⟩
   rw[←d w];cases c<;>simp[List.foldlM_cons,Builtin.max2,Builtin.min2]
theorem Az{b:Bool}{vs:List Value}{f:Value→Prop}{ats:Array TypeId}{ty:TypeId}(h:EU b vs f):∃v,f v∧∀w,(bif b then Builtin.max_ ats ty vs.toArray else Builtin.min_ ats ty vs.toArray).run P w=.ok v w:=by
 unfold EU at h;split at h
 ·obtain⟨v,d,c⟩:=Ce (P:=P) h
  refine⟨v,d,fun w=>?_⟩
  have:=c w;cases b<;>simpa[Builtin.max_,Builtin.min_]using this
 ·exact h.elim
theorem Pc{a:Addr}{e:MapEntry}{w:World}(g:a.off=0)(h:y9 w.heap a.block e):(Instr.entry (.pointer (some a))).run P w=.ok (.tuple #[e.key,e.val]) w:=by
 obtain⟨m,c,d,last,f,es,hi,n,hm,k⟩:=h;obtain⟨b,off,i⟩:=a;simp only at g hi;subst g;have j:(getObj b).run P w=.ok (.mapIter (some m) c d last) w:=by simp only[getObj,pt,hi]
 simp[Instr.entry,j,n,mY hm,k]
def HF:DV→Value→Prop
 | .t,v=>v=.bool true
 | .f,v=>v=.bool false
 | .u,v=>v=undef
 | .x,_=>True
def DecOk(d:xu)(r:cO):Prop:=∀t,tH d t=.x∨∃v,lD r t=some v∧HF (tH d t) v
theorem DecOk.at{d:xu}{r:cO}(h:DecOk d r){t:Nat}{v:Value}(hv:lD r t=some v):HF (tH d t) v:=by
 rcases h t with e|⟨u,b,c⟩
 ·rw[e];trivial
 ·rw[hv]at b;cases b;exact c
theorem xe{d:xu}{r:cO}(hd:DecOk d r){o:Operand}{v:Value}(h:dF r o=some v):HF (Cm d o) v:=by
 cases o with
 |tmp t=>exact hd.at h
 |const c=>
  simp[dF]at h;subst h;cases c with
  |bool b=>cases b<;>exact rfl
  |_=>trivial
 |global g=>trivial
 |func f=>trivial
theorem D6{t:TypeId}(h:sA P t=true):∃d,P.underlying t=some d∧∀m,d≠ .interface m:=by
 unfold sA at h;split at h
 ·cases h
 ·rename_i d hd;exact⟨_,hd,fun m e=>by subst e;simp_all⟩
 ·cases h
theorem Cg{t:TypeId}{v:Value}(h:sA P t=true)(w:World):(Instr.makeInterface t v).run P w=.ok (.iface t v) w:=by
 obtain⟨d,hd,b⟩:=D6 h;simp only[Instr.makeInterface,aU,az hd,aB];cases d<;>first|exact absurd rfl (b _)|rfl
theorem Ff{t u:TypeId}{v:Value}(h:sA P t=true)(w:World):(Instr.typeAssert (.iface t v) u t false).run P w=.ok v w:=by
 obtain⟨d,hd,b⟩:=D6 h;simp only[Instr.typeAssert,aU,az hd,aB];cases d<;>first|exact absurd rfl (b _)|(simp[bT])
theorem lx{t:TypeId}{z:List Value}(h:sN P t=some z):∃v,Ar P t=some v∧v.cells.toList=z:=by
 unfold sN at h;cases hz:Ar P t with
 |none=>rw[hz]at h;cases h
 |some v=>rw[hz]at h;simp only[bX.injEq]at h;exact⟨v,rfl,h⟩
theorem tS{t:TypeId}{v:Value}(h:Ar P t=some v):∃i,P.info? t=some i∧i.zero=some v:=by
 unfold Ar at h;cases hi:P.info? t with
 |none=>rw[hi]at h;cases h
 |some i=>rw[hi]at h;exact⟨i,rfl,h⟩
theorem RN{A B:List Value}{x:Value}{m:Nat}(h:A.length=m):(A++x::B).take (m+1)=A++ [x]:=by
 subst h;rw[List.take_append,bL (by omega),show A.length+1-A.length=1 by omega];rfl
theorem RO{A B:List Value}{x:Value}{m n:Nat}(h:A.length=m):(A++x::B).drop (m+1+n)=B.drop n:=by
 subst h;rw[List.drop_append,List.drop_eq_nil_of_le (by omega),show A.length+1+n-A.length=n+1 by omega];rfl
theorem Lk(off:Nat):∀(xs:List Value) (k:Nat) (arr:Array Value),off+k+xs.length≤arr.size→
  (xs.zipIdx k).foldl (fun cs (c,j)=>cs.setIfInBounds (off+j) c) arr=(KL arr.toList (off+k) xs).toArray
 | [],k,arr,_=>by simp[KL]
 |x::xs,k,arr,h=>by
  simp only[ax]at h;simp only[List.zipIdx_cons,tC];rw[Lk off xs (k+1) _ (by simp;omega)];have hm:off+k<arr.toList.length:=by simp;omega
  have d:arr.toList.set (off+k) x=arr.toList.take (off+k)++x::arr.toList.drop (off+k+1):=by
   rw[List.set_eq_take_append_cons_drop,if_pos hm]
  have b:(arr.toList.take (off+k)).length=off+k:=by simp;omega
  congr 1
  unfold KL;rw[Array.toList_setIfInBounds,d,←wQ,RN b,RO b];simp only[List.append_assoc,fz,List.nil_append,ax,List.drop_drop];rw[show off+k+1+xs.length=off+k+(xs.length+1) by omega]
theorem vA{b:Nat→Option (Nat×Nat)}:∀(parts:List (Nat×Value)) (cs cs':List Value),Ed b cs parts=some cs'→Instr.fill b cs.toArray parts=some cs'.toArray
 | [],cs,cs',h=>by simp only[Ed,bX.injEq]at h;subst h;rfl
 |(i,v)::rest,cs,cs',h=>by
  simp only[Ed]at h;cases hp:b i with
  |none=>rw[hp]at h;cases h
  |some os=>
   obtain⟨off,size⟩:=os;rw[hp]at h;simp only at h;cases hb:(bK v.cells.toList.length size&&Ae (off+v.cells.toList.length) cs.length)with
   |false=>rw[hb]at h;cases h
   |true=>
    rw[hb]at h;simp only[bc]at hb;have f:=aV hb.1;have h2:=jJ hb.2;have c:=vA rest _ _ h;have d:v.cells.size=size:=by simpa using f
    have g:off+v.cells.size≤cs.length:=by simpa using h2
    have e:Array.foldl (fun cs x=>cs.setIfInBounds (off+x.2) x.1) cs.toArray v.cells.zipIdx=(KL cs off v.cells.toList).toArray:=by
     have:=Lk off v.cells.toList 0 cs.toArray (by simpa using g);simp only[ii]at this;rw[←this,←Array.foldl_toList];congr 1
     simp[Array.toList_zipIdx]
    simp only[Instr.fill,hp];rw[if_neg (by simp[d];omega)];simp only[e];exact c
theorem qp{N:Nat}{r:cO}{a:Act}(h:Agree N r a):∀{ps:List (Nat×Operand)} {vs:List (Nat×Value)},sw r ps=some vs→ps.map (fun p=>(p.1,a.eval p.2))=vs
 | [],vs,hv=>by simp[sw]at hv;subst hv;rfl
 |(i,o)::ps,vs,hv=>by
  simp only[sw]at hv;cases ho:dF r o with
  |none=>simp[ho]at hv
  |some v=>cases hos:sw r ps with
   |none=>simp[ho,hos]at hv
   |some us=>simp[ho,hos]at hv;subst hv;simp[lF h ho,qp h hos]
theorem vy{t:TypeId}(h:zZ P t=true)(w:World):(sizeOf t).run P w=.ok (cf P t) w:=by
 unfold zZ at h;cases hi:P.info? t with
 |none=>rw[hi]at h;cases h
 |some i=>simp[sizeOf,df hi,cf,hi]
theorem FB(w:World):∀l:List Field,Cs P l=true→(l.mapM fun f:Field=>((do pure (f.offset,←sizeOf f.type)):Sem (Nat×Nat))).run P w=.ok (l.map fun f:Field=>(f.offset,cf P f.type)) w
 | [],_=>rfl
 |f::l,h=>by
  simp only[Cs]at h;cases hf:zZ P f.type with
  |false=>rw[hf]at h;cases h
  |true=>
   rw[hf]at h;rw[List.mapM_cons];simp only[aU,vy hf,aB,bT,FB w l h,cx]
theorem Cq{t:TypeId}{ps:Array (Nat×Value)}{cs:List Value}(b:JJ P t ps.toList=some cs)(w:World):
  (Instr.build t ps).run P w=.ok (.agg cs.toArray) w:=by
 unfold JJ at b;split at b
 ·rename_i fs z hu d
  obtain⟨v,d,hv⟩:=lx d;cases ha:Cs P fs.toList with
  |false=>rw[ha]at b;cases b
  |true=>
   rw[ha]at b;have k:(fs.mapM fun f:Field=>((do pure (f.offset,←sizeOf f.type)):Sem (Nat×Nat))).run P w=.ok (fs.map fun f:Field=>(f.offset,cf P f.type)) w:=by
    rw[Array.mapM_eq_mapM_toList];simp only[Sem.run_map,FB w fs.toList ha,aB];congr 1
    apply dw;simp
   have j:=vA _ _ _ b;have c:(fun i:Nat=>(fs.map fun f:Field=>(f.offset,cf P f.type))[i]?)=My P fs.toList:=by
    funext i;unfold My;rw[Array.getElem?_map,bv];cases fs[i]?<;>rfl
   have g:v.cells=z.toArray:=by rw[←hv]
   rw[cond_true]at b;rw[←c]at j;simp only[Instr.build,aU,fq d,aB,az hu,k,g,j,bT]
 ·rename_i n e z hu d
  obtain⟨v,d,hv⟩:=lx d;cases ha:zZ P e with
  |false=>rw[ha]at b;cases b
  |true=>
   rw[ha]at b;have j:=vA _ _ _ b;have g:v.cells=z.toArray:=by rw[←hv]
   simp only[Instr.build,aU,fq d,aB,az hu,vy ha,g,j,bT]
 ·cases b
theorem Dc{ek:Option (Kind×Kind)}{o:Oper}{r:cO}{K:RK}{h:af}{N:Nat}{a:Act}(T:Agree N r a)(g:CY P ek o.op r K h)(d:xu)(hd:DecOk d r):
  ∃v S,K v S∧Sg S h∧HF (Kj d o.op) v∧∀w:World,Sg S w.heap→(execOp a.eval o).run P w=.ok (.value v) w:=by
 have j:∀{x:Operand} {v:Value},dF r x=some v→a.eval x=v:=fun h=>lF T h
 have fin:∀{s:Sem Value},Yv P s K h→Kj d o.op=.x→(∀w,(execOp a.eval o).run P w=(do pure (Next.value (←s)):Sem Next).run P w)→
   ∃v S,K v S∧Sg S h∧HF (Kj d o.op) v∧∀w:World,Sg S w.heap→(execOp a.eval o).run P w=.ok (.value v) w:=by
  rintro s ⟨v,S,n,B,A⟩ hx F;exact⟨v,S,n,B,by rw[hx];trivial,fun w C=>by rw[F w];exact jW (A w C)⟩
 obtain⟨U,O,q,pos,H,G⟩:=o;simp only at g fin⊢;cases O with
 |move x=>
  simp only[CY]at g;split at g
  ·rename_i v hv
   exact⟨v,none,g,trivial,xe hd hv,fun w _=>by simp[execOp,j hv]⟩
  ·exact g.elim
 |assign x=>
  simp only[CY]at g;split at g
  ·rename_i v hv
   exact⟨v,none,g,trivial,xe hd hv,fun w _=>by simp[execOp,j hv]⟩
  ·exact g.elim
 |pick c x y=>
  simp only[CY]at g;split at g
  ·rename_i vc va vb hc hx V
   unfold TF at g;split at g
   ·rename_i cb
    have L:=xe hd hc;have W:=xe hd hx;have hyo:=xe hd V;have F:∀w,(execOp a.eval ⟨U,.pick c x y,q,pos,H,G⟩).run P w=.ok (.value (if cb then va else vb)) w:=fun w=>by
     simp[execOp,j hc,j hx,j V,asBool]
    have J:HF (Kj d (.pick c x y)) (if cb then va else vb):=by
     simp only[Kj];cases hcd:Cm d c with
     |t=>
      rw[hcd]at L;have:cb=true:=by simpa[HF]using L
      subst this;exact W
     |f=>
      rw[hcd]at L;have:cb=false:=by simpa[HF]using L
      subst this;exact hyo
     |u=>trivial
     |x=>trivial
    split at g
    ·rename_i bx by'
     have Q:(if cb=true then Value.bool bx else Value.bool by')=.bool (bif cb then bx else by'):=by cases cb<;>rfl
     rw[Q]at J;exact⟨_,none,g,trivial,J,fun w _=>by rw[F w,Q]⟩
    ·cases cb
     ·exact⟨_,none,g,trivial,J,fun w _=>F w⟩
     ·exact⟨_,none,g,trivial,J,fun w _=>F w⟩
   ·exact g.elim
  ·exact g.elim
 |load t x=>
  simp only[CY]at g;split at g
  ·rename_i v hv
   obtain⟨u,S,n,B,A⟩:=D5 g;exact fin ⟨u,some S,n,B,A⟩ rfl fun w=>by simp only[execOp,j hv]
  ·exact g.elim
 |nilCheck x=>
  simp only[CY]at g;split at g
  ·rename_i p hv
   obtain⟨b,rfl,n⟩:=g;exact⟨_,none,n,trivial,trivial,fun w _=>by simp[execOp,j hv]⟩
  ·exact g.elim
 |binOp O t x y yt=>
  simp only[CY]at g;split at g
  ·rename_i v u hn hv hu
   have go:(∀c d,v=.agg c→u=.agg d→False)∧(v=.nilIface→u=.nilIface→False)∧Yv P (binOp O t v u) K h:=by
    split at g
    ·exact FF (neg:=false) g
    ·exact FF (neg:=true) g
    ·exact FA g
   obtain⟨h1,h2,R,S,n,B,A⟩:=go;refine⟨R,S,n,B,trivial,fun w C=>?_⟩
   simp only[execOp,j hv,j hu];simp[F2 O t x y v u h1 h2 w,A w C]
  ·rename_i v u hn hv hu
   obtain⟨R,S,n,B,A⟩:=Mu (x:=x) (y:=y) g;refine⟨R,S,n,B,trivial,fun w C=>?_⟩
   simp only[execOp,j hv,j hu];exact jW (A w C)
  ·rename_i v u hna hn hv hu
   obtain⟨h1,h2,R,S,n,B,A⟩:=FA g;refine⟨R,S,n,B,trivial,fun w C=>?_⟩
   simp only[execOp,j hv,j hu];simp[F2 O t x y v u h1 h2 w,A w C]
  ·exact g.elim
 |unOp O t x=>
  simp only[CY]at g;split at g
  ·rename_i v hv
   obtain⟨u,S,n,B,A⟩:=OW (P:=P) (h:=h) g;refine⟨u,S,n,B,?_,fun w C=>by simp only[execOp,j hv];exact jW (A w C)⟩
   have I:=xe hd hv;cases O<;>try trivial
   simp only[Kj];have D:=A {(default:World)with heap:=h} B;cases hx:Cm d x with
   |t=>
    rw[hx]at I;have:v=.bool true:=I;subst this;simp[Op.unary]at D;exact D.symm
   |f=>
    rw[hx]at I;have:v=.bool false:=I;subst this;simp[Op.unary]at D;exact D.symm
   |u=>trivial
   |x=>trivial
  ·exact g.elim
 |convert s t x=>
  simp only[CY]at g;split at g
  ·rename_i v hv
   exact fin (KH g) rfl fun w=>by simp only[execOp,j hv]
  ·exact g.elim
 |extract x i=>
  simp only[CY]at g;split at g
  ·rename_i vs hv
   split at g
   ·rename_i u hu
    have Z:vs[i]? =some u:=by simpa using hu
    exact⟨u,none,g,trivial,trivial,fun w _=>by simp[execOp,j hv,Instr.extract,Z]⟩
   ·exact g.elim
  ·exact g.elim
 |fieldAddr t x f=>
  simp only[CY]at g;split at g
  ·rename_i b u off hv hf
   exact fin (EA hf g) rfl fun w=>by simp only[execOp,j hv]
  ·exact g.elim
 |field t x f=>
  simp only[CY]at g;split at g
  ·rename_i v hv
   exact fin (Jh g) rfl fun w=>by simp only[execOp,j hv]
  ·exact g.elim
 |indexAddr t x i=>
  simp only[CY]at g;split at g
  ·rename_i v u hv hu
   exact fin (Dd g) rfl fun w=>by simp only[execOp,j hv,j hu]
  ·exact g.elim
 |index t x i=>
  simp only[CY]at g;split at g
  ·rename_i v u hv hu
   exact fin (Je g) rfl fun w=>by simp only[execOp,j hv,j hu]
  ·exact g.elim
 |slice t x lo hi mx=>
  simp only[CY]at g;split at g
  ·rename_i v l h' m hv hl hh hm
   have X:∀{x:Option Operand} {v:Option Value},Ia r x=some v→x.map a.eval=v:=by
    intro x v hx;cases x with
    |none=>simp[Ia]at hx;subst hx;rfl
    |some x=>
     simp only[Ia]at hx;cases F:dF r x with
     |none=>simp[F]at hx
     |some u=>simp[F]at hx;subst hx;simp[j F]
   exact fin (Ja g) rfl fun w=>by simp only[execOp,j hv,X hl,X hh,X hm]
  ·exact g.elim
 |lookup t x k ok=>
  simp only[CY]at g;split at g
  ·rename_i v u hv hu
   exact fin (G5 g) rfl fun w=>by simp only[execOp,j hv,j hu]
  ·exact g.elim
 |makeInterface t x=>
  simp only[CY]at g;split at g
  ·rename_i v hv
   cases hb:sA P t with
   |false=>rw[hb]at g;exact g.elim
   |true=>
    rw[hb,cond_true]at g;exact⟨_,none,g,trivial,trivial,fun w _=>by simp only[execOp,j hv];exact jW (Cg hb w)⟩
  ·exact g.elim
 |typeAssert x u t ok=>
  simp only[CY]at g;split at g
  ·rename_i v hv
   cases ok with
   |true=>exact g.elim
   |false=>
    rw[cond_false]at g;unfold NU at g;cases hb:sA P t with
    |false=>rw[hb]at g;exact g.elim
    |true=>
     rw[hb,cond_true]at g;split at g
     ·obtain⟨y,rfl,n⟩:=g
      exact⟨_,none,n,trivial,trivial,fun w _=>by simp only[execOp,j hv];exact jW (Ff hb w)⟩
     ·exact g.elim
  ·exact g.elim
 |makeFunc fn first cap=>
  simp only[CY]at g;split at g
  ·rename_i vs us hv hu
   have Q:=nM T hv;have e2:=nM T hu;refine⟨_,none,g,trivial,trivial,fun w _=>?_⟩
   have Y:first.map a.eval=vs.toArray:=by rw[←Q];apply dw;simp
   have f2:cap.map a.eval=us.toArray:=by rw[←e2];apply dw;simp
   simp[execOp,Instr.makeFunc,Y,f2]
  ·exact g.elim
 |entry it=>
  simp only[CY]at g;split at g
  ·rename_i b kk vk hv
   obtain⟨h0,e,x,y,hi,n,V,hK⟩:=g;refine⟨_,_,hK,hi,trivial,fun w C=>?_⟩
   simp only[execOp,j hv];refine jW ?_;rw[Pc h0 C,n,V]
  ·exact g.elim
 |call c=>
  simp only[CY]at g;have E:∀{b:Builtin} {vs:List Value},c.callee=.builtin b→pC r c.args.toList=some vs→∃cs:Array Bool,∀w,(execOp a.eval ⟨U,.call c,q,pos,H,G⟩).run P w=
    (builtin b c.argTypes q cs vs.toArray).run P w:=by
   intro b vs hc z;have Q:=nM T z;have Y:c.args.map a.eval=vs.toArray:=by rw[←Q];apply dw;simp
   refine⟨c.args.map fun| .const _=>true|_=>false,fun w=>?_⟩
   simp[execOp,resolve,hc,Y,invoke];rfl
  split at g
  ·rename_i v t hc z hat
   obtain⟨cs,E⟩:=E hc z;obtain⟨u,S,n,B,A⟩:=Mn (ats:=c.argTypes) (ty:=q) (by rw[←bv,hat];rfl) g;exact⟨u,S,n,B,trivial,fun w C=>by rw[E w];simp only[builtin];exact jW (A w C)⟩
  ·rename_i v t hc z hat
   obtain⟨cs,E⟩:=E hc z;obtain⟨u,S,n,B,A⟩:=Ms (h:=h) (ats:=c.argTypes) (ty:=q) (by rw[←bv,hat];rfl) g;exact⟨u,S,n,B,trivial,fun w C=>by rw[E w];simp only[builtin];exact jW (A w C)⟩
  ·rename_i vs hc z
   obtain⟨cs,E⟩:=E hc z;obtain⟨u,n,A⟩:=Az (P:=P) (ats:=c.argTypes) (ty:=q) g;exact⟨u,none,n,trivial,trivial,fun w _=>by rw[E w];simp only[builtin];exact jW (A w)⟩
  ·rename_i vs hc z
   obtain⟨cs,E⟩:=E hc z;obtain⟨u,n,A⟩:=Az (P:=P) (ats:=c.argTypes) (ty:=q) g;exact⟨u,none,n,trivial,trivial,fun w _=>by rw[E w];simp only[builtin];exact jW (A w)⟩
  ·exact g.elim
 |build t ps=>
  simp only[CY]at g;split at g
  ·rename_i vs z
   split at g
   ·rename_i cs hcs
    refine⟨_,none,g,trivial,trivial,fun w _=>?_⟩
    have hp:(ps.map fun x=>(x.1,a.eval x.2))=vs.toArray:=by
     rw[←qp T z];apply dw;simp
    have F:=Cq (ps:=vs.toArray) (by simpa using hcs) w;simp only[execOp];rw[show(ps.map fun(i,x)=>(i,a.eval x))=vs.toArray from hp]
    exact jW F
   ·exact g.elim
  ·exact g.elim
 |_=>simp only[CY]at g
end Go.Lift
namespace Go.Lift
open Go
variable {P:Program}
def Lw(P:Program)(s:Sem Next)(K:WK)(w:World):Prop:=
 (∃v w',s.run P w=.ok (.value v) w'∧Tame w w'∧K v w'.heap)∨
 (∃w',s.run P w=.ok .skip w'∧Tame w w'∧K undef w'.heap)∨
 (∃f args,s.run P w=.ok (.enter f args) w∧Calls P f args w fun e w'=>Tame w w'∧∃v,e=.returned v∧K v w'.heap)∨
 (∃l fn tmps assign body,s.run P w=.ok (.round l fn tmps assign body) w∧
  ∀(c:Frame) (cs:List Frame),∃b w',Tame w w'∧K (.bool b) w'.heap∧Steps P (lone (Frame.round l fn tmps assign body .normal) (c::cs) w) (lone (c.finish (.bool b)) cs w'))
def Wv(P:Program)(s:Sem Value)(K:WK)(w:World):Prop:=∃v w',s.run P w=.ok v w'∧Tame w w'∧K v w'.heap
theorem Wv.out{s:Sem Value}{K:WK}{w:World}(h:Wv P s K w):Lw P (do pure (Next.value (←s))) K w:=by
 obtain⟨v,w',b,c,d⟩:=h;exact .inl ⟨v,w',jW b,c,d⟩
def Wu(P:Program)(s:Sem Unit)(K:WK)(w:World):Prop:=∃w',s.run P w=.ok () w'∧Tame w w'∧K undef w'.heap
theorem Wu.out{s:Sem Unit}{K:WK}{w:World}(h:Wu P s K w):Lw P (do s;pure Next.skip) K w:=by
 obtain⟨w',b,c,d⟩:=h;exact .inr (.inl ⟨w',Qi b,c,d⟩)
def lA(w:World)(h:af):World:={w with heap:=h}
theorem fg(w:World)(h:af):Tame w (lA w h):=⟨rfl,rfl,rfl⟩
theorem lJ(e:TypeId)(cs:Array Value)(w:World):(newRow e cs).run P w=.ok (aI w.heap) (lA w (hnew w.heap cs.toList e)):=by
 simp[newRow,newObj,pt,aI,lA,hnew,bind,Sem.bind,pure]
theorem Fs(o:Obj)(w:World):(newObj o).run P w=.ok w.heap.size (lA w (w.heap.push o)):=rfl
theorem Ha{h:af}{a b:Addr}(v:Value)(c:a≠b):bj (hset h a v) b=bj h b:=
 World.cell?_setCell_other {(default:World)with heap:=h} a b v c
theorem Ez{h:af}{a:Addr}{u:Value}(v:Value)(hc:bj h a=some u):bj (hset h a v) a=some v:=
 World.cell?_setCell_same {(default:World)with heap:=h} a v hc
theorem Jx{h:af}{a b:Addr}(v:Value):EX (hset h a v) b=EX h b:=
 World.frozen?_setCell {(default:World)with heap:=h} a b v
theorem Wr.hset{h:af}{a b:Addr}(v:Value)(d:Wr h b):Wr (hset h a v) b:=by
 obtain⟨⟨u,c⟩,f⟩:=d;refine⟨?_,by rw[Jx];exact f⟩
 by_cases e:a=b
 ·subst e;exact⟨v,Ez v c⟩
 ·exact⟨u,by rw[Ha v e];exact c⟩
theorem Md{w:World}{a:Addr}{v:Value}(hv:∀cs,v≠ .agg cs)(c:∀cs,v≠ .tuple cs)(e:Wr w.heap a):(store a v).run P w=.ok () (lA w (hset w.heap a v)):=by
 obtain⟨⟨u,g⟩,f⟩:=e;have b:w.cell? a=some u:=g;have d:w.frozen? a=false:=f;cases v<;>first|exact absurd rfl (hv _)|exact absurd rfl (c _)|(simp only[store,pt,b,d];rfl)
theorem Jn{v:Value}{vs:List Value}(h:cI (v::vs)=true):(∀cs,v≠ .agg cs)∧(∀cs,v≠ .tuple cs)∧cI vs=true:=by
 simp only[cI,bc]at h;refine⟨fun cs e=>?_,fun cs e=>?_,h.2⟩<;>(subst e;exact absurd h.1 (by simp))
theorem uq{a:Addr}:∀(vs:List Value) (i:Nat) (w:World),cI vs=true→(∀j,j<vs.length→Wr w.heap (adr a (i+j)))→
  (storeCells a vs i).run P w=.ok () (lA w (jK w.heap a i vs))
 | [],i,w,_,_=>rfl
 |v::vs,i,w,b,hw=>by
  obtain⟨e,d,b⟩:=Jn b;have c:=hw 0 (by simp);simp only[ii]at c;have f:a.add i=adr a i:=(wz a i).symm;simp only[storeCells,f,aU,Md e d c,aB];rw[uq vs (i+1) (lA w (hset w.heap (adr a i) v)) b fun j g=>?_]
  ·rfl
  ·have:=hw (j+1) (by simp only[ax];omega)
   rw[show i+1+j=i+(j+1) by omega]
   exact this.hset v
theorem zY{a:Addr}(m:Nat):∀(vs:List Value) (i:Nat) (h:af),jK h (adr a m) i vs=jK h a (m+i) vs
 | [],_,_=>rfl
 |v::vs,i,h=>by
  simp only[jK];rw[zY m vs (i+1),Cv];rfl
theorem IP{t:TypeId}{a v:Value}{K:WK}{w:World}(c:LV P t a v K w.heap):Wu P (Instr.storeAt t a v) K w:=by
 unfold LV at c;split at c
 ·rename_i a
  cases hb:(bK v.cells.toList.length (cf P t)&&cI v.cells.toList)with
  |false=>rw[hb]at c;exact c.elim
  |true=>
   rw[hb]at c;simp only[bc]at hb;have n:=aV hb.1;obtain⟨c,m⟩:=rH c;have i:v.cells.size=cf P t:=by simpa using n
   have go:(∀j,j<v.cells.toList.length→Wr w.heap (adr a (0+j)))→(Instr.storeAt t (.pointer (some a)) v).run P w=.ok () (lA w (jK w.heap a 0 v.cells.toList)):=by
    intro d;have:=uq (P:=P) v.cells.toList 0 w hb.2 d;simp[Instr.storeAt,nG,storeVar,m,i,this]
   split at c
   ·rename_i u hu
    obtain⟨d,k⟩:=c;refine⟨_,go (fun j f=>?_),fg _ _,?_⟩
    ·rw[hu]at f;simp only[ax,List.length_nil]at f
     obtain rfl:j=0:=by omega
     exact d
    ·rw[hu];exact k
   ·obtain⟨d,k⟩:=c
    refine⟨_,go (fun j f=>?_),fg _ _,k⟩
    rcases d with e|⟨b,g,d⟩
    ·rw[e]at f;cases f
    ·cases g;exact d j f
 ·exact c.elim
theorem kY(z:Array Value)(n:Nat):(iP z n).toList=eM n z.toList:=by
 have key:∀n,(List.range (n*z.size)).map (fun i=>z[i%z.size]!)=(lr n z.toList).flatten:=by
  intro n;induction n with
  |zero=>simp
  |succ n ih=>
   rw[Nat.succ_mul,List.range_add,List.map_append,ih,List.replicate_succ',List.flatten_append];congr 1
   simp only[ik,List.flatten_cons,List.flatten_nil,List.append_nil];apply List.ext_getElem
   ·simp
   ·intro i b h2
    simp only[List.length_map,List.length_range]at b;simp[Nat.mod_eq_of_lt b,b,Nat.add_mod]
 simpa[iP,eM]using key n
theorem dS{t e:TypeId}(h:ya P t=some e):P.underlying t=some (.slice e):=by
 unfold ya at h;split at h
 ·rename_i e' hu;simp only[bX.injEq]at h;subst h;exact hu
 ·cases h
theorem NH{z:Value}{n:Nat}:((Array.range (n*z.cells.size)).map (z.cells[· %z.cells.size]!))=(eM n z.cells.toList).toArray:=by
 have:=kY z.cells n;unfold iP at this;apply dw;rw[this]
theorem Dx{t e:TypeId}{n:Nat}{ps:Array (Nat×Value)}{z cs:List Value}(q:ya P t=some e)(p:sN P e=some z)(u:n*cf P e≤16777216)(k:z.length=cf P e)
  (s:Ed (fun i=>some (i*cf P e,cf P e)) (eM n z) ps.toList=some cs)(w:World):
  (Instr.buildSlice t n ps).run P w=.ok (.slice (some (aI w.heap)) n n) (lA w (hnew w.heap cs e)):=by
 obtain⟨v,hv,d⟩:=lx p;obtain⟨i,hi,m⟩:=tS hv;have o:(sizeOf e).run P w=.ok (cf P e) w:=by simp[sizeOf,df hi,cf,hi]
 have f:v.cells.size=cf P e:=by rw[←k,←d];simp
 have j:=vA _ _ _ s;have b:((Array.range (n*cf P e)).map (fun i=>(if n*cf P e=0 then #[]else v.cells)[i%(if n*cf P e=0 then #[]else v.cells).size]!))=(eM n z).toArray:=by
  by_cases c:n*cf P e=0
  ·have:(eM n z).length=0:=by simp[eM,k,c]
   rw[aw.1 this];simp[c]
  ·simp only[if_neg c]
   rw[←f,NH,d]
 have g:¬(n*cf P e>2^24):=by omega
 simp only[Instr.buildSlice,aU,az (dS q),aB,o,if_neg g];by_cases c:n*cf P e=0
 ·simp only[if_pos c]at b
  simp only[if_pos c,aU,bT,aB,b,j,lJ]
 ·simp only[if_neg c]at b
  simp only[if_neg c,aU,bT,aB,fq hv,b,j,lJ]
theorem OM{h:af}{a:Addr}{vs:List Value}(b:Row h a vs):∀j v,vs[j]? =some v→bj h (a.add j)=some v:=fun j v hv=>by
 rw[←wz];exact b j v hv
theorem zO{size n cap len:Nat}{b:Option Addr}{vs:List Value}{w:World}(d:SRow w.heap b (n*size) vs):(fp size n (.slice b len cap)).run P w=.ok vs.toArray w:=by
 obtain⟨e,c⟩:=d;cases b with
 |none=>
  rcases c with rfl|⟨_,h,_⟩
  ·simp[fp]
  ·cases h
 |some b=>
  refine run_firstCells_some w size n b len cap vs e fun j v hv=>?_
  rcases c with rfl|⟨_,h,c⟩
  ·cases hv
  ·cases h;exact OM c j v hv
theorem Fk{a:Addr}{m:Nat}{xs:List Value}{w:World}(d:cI xs=true)(c:yr w.heap (some a) m xs):
  (storeCells (a.add m) xs).run P w=.ok () (lA w (jK w.heap a m xs)):=by
 rcases c with rfl|⟨b,e,c⟩
 ·rfl
 ·cases e
  have:=uq (P:=P) (a:=adr a m) xs 0 w d fun j f=>by rw[Cv,bi];exact c j f
  rw[←wz,this,zY,ii]
set_option maxHeartbeats 1000000 in
theorem Gg{t e u ty:TypeId}{b:Option Addr}{sl f c:Nat}{xs:List Value}{x:Value}{K:WK}{w:World}(A:ya P t=some e)(k:(∃s,P.underlying u=some (.slice s))∨P.underlying u=some .string)
  (g:∀w,(sf x).run P w=.ok c w)(hx:∀w':World,w'.heap=w.heap→(fp (cf P e) c x).run P w'=.ok xs.toArray w')
  (hi:∃i,P.info? e=some i)
  (h:Sa P e b sl f c xs K w.heap):Wv P (d8 #[t,u] ty #[.slice b sl f,x]) K w:=by
 obtain⟨i,hi⟩:=hi;have j:cf P e=i.size:=by simp[cf,hi]
 have G:sZ P e=i.bytes:=by simp[sZ,hi]
 by_cases hc:sl+c≤f
 ·obtain⟨L,N,B⟩:=h.1 hc
  refine⟨_,_,?_,fg w (ip w.heap b (sl*cf P e) xs),B⟩;cases b with
  |none=>
   have d:=hx w rfl;rw[j]at d;rcases k with⟨s,hd⟩|hd<;>(simp[d8,az (dS A),az hd,sizeOf,df hi,g,hc,d];rfl)
  |some a=>
   have q:=Fk (P:=P) N L;have d:=hx w rfl;rw[j]at q d;rcases k with⟨s,hd⟩|hd<;>(simp[d8,az (dS A),az hd,sizeOf,df hi,g,hc,d,q,ip,j])
 ·obtain⟨old,z,I,J,E,C,B⟩:=h.2 (by omega)
  obtain⟨v,hv,D⟩:=lx J;obtain⟨O,m,H⟩:=tS hv;rw[hi]at m;cases m;rw[G]at E C;have n:¬i.bytes=0:=by omega
  have p:¬(281474976710656<nH (sl+c) f*i.bytes):=by omega
  have d:=hx w.drew rfl;have o:(fp (cf P e) sl (.slice b sl f)).run P w.drew=.ok old.toArray w.drew:=zO I;rw[j]at d o;have y:sl+c≤(Question.appendCap (sl+c) f e).cut (w.tape w.drawn (.appendCap (sl+c) f e)):=Nat.le_add_right _ _;refine⟨_,lA w.drew (hnew w.heap (old++xs++eM ((Question.appendCap (sl+c) f e).cut (w.tape w.drawn (.appendCap (sl+c) f e))-(sl+c)) z) e),?_,⟨rfl,rfl,rfl⟩,B _ y⟩
  have F:(iP v.cells ((Question.appendCap (sl+c) f e).cut (w.tape w.drawn (.appendCap (sl+c) f e))-(sl+c)))=(eM ((Question.appendCap (sl+c) f e).cut (w.tape w.drawn (.appendCap (sl+c) f e))-(sl+c)) z).toArray:=by
   apply dw;rw[kY,D]
  rcases k with⟨s,hd⟩|hd<;>(simp[d8,az (dS A),az hd,sizeOf,df hi,g,hc,n,p,Question.forced,d,o,fq hv,lJ,F,aI];rfl)
theorem FR{t:TypeId}{K:Prop}(h:QF P t K):∃i,P.info? t=some i:=by
 unfold QF at h;cases hi:P.info? t with
 |none=>rw[hi]at h;exact h.elim
 |some i=>exact⟨i,rfl⟩
theorem Cj{t:TypeId}(h:cf P t≠0):∃i,P.info? t=some i:=by
 cases hi:P.info? t with
 |none=>exact absurd (by simp[cf,hi]) h
 |some i=>exact⟨i,rfl⟩
theorem Eg{size n:Nat}{x:ByteArray}{w:World}:(fp size n (.string x)).run P w=.ok ((eo x).take n).toArray w:=by
 simp only[fp,bT];congr 1
 apply dw;simp[eo,ByteArray.data_extract,jU,←List.map_take]
theorem Av{t u ty:TypeId}{s x:Value}{K:WK}{w:World}(c:(∃e',P.underlying u=some (.slice e'))∨P.underlying u=some .string)(h:EP P t s x K w.heap):
  Wv P (d8 #[t,u] ty #[s,x]) K w:=by
 unfold EP at h;split at h
 ·rename_i e b sl sc a xl xc ht
  have hi:=FR h;obtain⟨⟨xs,d,g⟩,j⟩:=rH h;exact Gg ht c (fun w=>rfl) (fun w' f=>zO (by rw[f];exact d)) hi g
 ·rename_i e b sl sc x ht
  cases hb:bK (cf P e) 1 with
  |false=>rw[hb]at h;exact h.elim
  |true=>
   rw[hb]at h;have i:=aV hb;have k:(eo x).length=x.size:=by simp[eo]
   refine Gg ht c (fun w=>rfl) (fun w' _=>?_) (Cj (by omega)) h
   rw[Eg,bL (by omega)]
 ·exact h.elim
theorem CZ{n:Int}(c:0≤n)(b:n≤9223372036854775807):IntKind.i64.wrap n=n:=IntWalk.i64_in n ⟨by omega,b⟩
theorem Nb{t e u ty:TypeId}{b:Option Addr}{sl f:Nat}{k0 k:IntKind}{l:Int}{z:List Value}{K:WK}{w:World}(x:ya P t=some e)(A:P.underlying u=some (.int k0))
  (T:sN P e=some z)(I:z.length=cf P e)(V:0≤l)(R:l*sZ P e≤2^48)(h2:l≤9223372036854775807)(Y:((sl+l.toNat:Nat):Int)≤9223372036854775807)
  (h:Sa P e b sl f l.toNat (eM l.toNat z) K w.heap):Wv P (d8 #[t,u] ty #[.slice b sl f,.int k l]) K w:=by
 obtain⟨v,hv,C⟩:=lx T;obtain⟨i,hi,U⟩:=tS hv;have j:cf P e=i.size:=by simp[cf,hi]
 have F:sZ P e=i.bytes:=by simp[sZ,hi]
 have y:IntKind.wrap .i64 l=l:=CZ V h2;have c:¬l<0:=by omega
 rw[F]at R;have d:¬(281474976710656:Int)<l*i.bytes:=by omega
 have g:∀w':World,(asInt (.int k l)).run P w'=.ok l w':=fun w'=>rfl
 have G:(iP v.cells l.toNat)=(eM l.toNat z).toArray:=by apply dw;rw[kY,C]
 have s:l.toNat*i.size=0→eM l.toNat z= []:=fun N=>by
  have D:(eM l.toNat z).length=l.toNat*i.size:=by rw[←j,←I];unfold eM;simp
  exact aw.1 (by rw[D,N])
 by_cases hc:sl+l.toNat≤f
 ·obtain⟨O,R,H⟩:=h.1 hc
  refine⟨_,_,?_,fg w (ip w.heap b (sl*cf P e) (eM l.toNat z)),H⟩;cases b with
  |none=>
   by_cases m:l.toNat*i.size=0
   ·simp[d8,az (dS x),az A,sizeOf,df hi,g,y,c,d,hc,m];rfl
   ·simp[d8,az (dS x),az A,sizeOf,df hi,g,y,c,d,hc,fq hv];rfl
  |some a=>
   have n:=Fk (P:=P) R O;rw[j]at n;by_cases m:l.toNat*i.size=0
   ·rw[s m]at n
    simp[d8,az (dS x),az A,sizeOf,df hi,g,y,c,d,hc,n,ip,j,m,s m]
   ·simp[d8,az (dS x),az A,sizeOf,df hi,g,y,c,d,hc,n,ip,j,m,fq hv,G]
 ·obtain⟨old,Z,W,B,Q,L,H⟩:=h.2 (by omega)
  rw[T]at B;cases B;rw[F]at Q L;have S:¬i.bytes=0:=by omega
  have o:¬(281474976710656<nH (sl+l.toNat) f*i.bytes):=by omega
  have X:¬(9223372036854775807:Int)<((sl:Int)+(l.toNat:Int)):=by omega
  have p:¬(9223372036854775807:Int)<((sl:Int)+max l 0):=by omega
  have q:(fp (cf P e) sl (.slice b sl f)).run P w.drew=.ok old.toArray w.drew:=zO W;rw[j]at q;have J:sl+l.toNat≤(Question.appendCap (sl+l.toNat) f e).cut (w.tape w.drawn (.appendCap (sl+l.toNat) f e)):=Nat.le_add_right _ _;refine⟨_,lA w.drew (hnew w.heap (old++eM l.toNat z++eM ((Question.appendCap (sl+l.toNat) f e).cut (w.tape w.drawn (.appendCap (sl+l.toNat) f e))-(sl+l.toNat)) z) e),?_,⟨rfl,rfl,rfl⟩,H _ J⟩
  have E:(iP v.cells ((Question.appendCap (sl+l.toNat) f e).cut (w.tape w.drawn (.appendCap (sl+l.toNat) f e))-(sl+l.toNat)))=(eM ((Question.appendCap (sl+l.toNat) f e).cut (w.tape w.drawn (.appendCap (sl+l.toNat) f e))-(sl+l.toNat)) z).toArray:=by
   apply dw;rw[kY,C]
  by_cases m:l.toNat*i.size=0
  ·rw[s m]at H⊢
   simp[d8,az (dS x),az A,sizeOf,df hi,g,y,c,d,hc,p,o,Question.forced,q,fq hv,lJ,E,aI,m];rfl
  ·simp[d8,az (dS x),az A,sizeOf,df hi,g,y,c,d,hc,p,o,Question.forced,q,fq hv,lJ,E,aI,m,G];rfl
theorem E9{t u ty:TypeId}{k0:IntKind}{s x:Value}{K:WK}{w:World}(i:P.underlying u=some (.int k0))(h:Fa P t s x K w.heap):
  Wv P (d8 #[t,u] ty #[s,x]) K w:=by
 unfold Fa at h;split at h
 ·rename_i e b sl sc k l ht
  split at h
  ·rename_i z hz
   cases hb:bK z.length (cf P e)with
   |false=>rw[hb]at h;exact h.elim
   |true=>
    rw[hb]at h;obtain⟨⟨f,d,h2,c⟩,g⟩:=h;exact Nb ht i hz (aV hb) f d h2 c g
  ·exact h.elim
 ·exact h.elim
theorem nO:∀{a b:List Value},cI a=true→cI b=true→cI (a++b)=true
 | [],_,_,h=>h
 |v::a,b,h,k=>by
  simp only[cI,fz,bc]at h⊢;exact⟨h.1,nO h.2 k⟩
theorem Cb{z:List Value}(h:cI z=true):∀n,cI (eM n z)=true
 |0=>rfl
 |n+1=>by
  have:eM (n+1) z=z++eM n z:=by simp[eM,List.replicate_succ]
  rw[this];exact nO h (Cb h n)
theorem IQ{t ty:TypeId}{x:Value}{K:WK}{w:World}(h:LW P t x K w.heap):Wv P (vo #[t] ty #[x]) K w:=by
 unfold LW at h;split at h
 ·rename_i e a n c ht
  split at h
  ·rename_i z hz
   obtain⟨v,hv,f⟩:=lx hz;cases ho:cI z with
   |false=>rw[ho]at h;exact h.elim
   |true=>
    rw[ho]at h;obtain⟨g,i⟩:=h;refine⟨_,_,?_,fg w (ip w.heap a 0 (eM n z)),i⟩;cases a with
    |none=>simp[vo,az (dS ht)];rfl
    |some a=>
     cases n with
     |zero=>simp[vo,az (dS ht)];rfl
     |succ n=>
      have b:=Fk (P:=P) (Cb ho (n+1)) g;rw[←wz,Gi]at b;have d:(iP v.cells (n+1)).toList=eM (n+1) z:=by rw[kY,f]
      simp[vo,az (dS ht),fq hv,d,b,ip]
  ·exact h.elim
 ·exact h.elim
theorem Cc:∀(xs:List Value) (n:Nat),cI xs=true→cI (xs.take n)=true
 | [],n,_=>by simp[cI]
 |x::xs,0,_=>by simp[cI]
 |x::xs,n+1,h=>by
  simp only[cI,bc,List.take_succ_cons]at h⊢;exact⟨h.1,Cc xs n h.2⟩
theorem G6(x:ByteArray):cI (eo x)=true:=by
 have:∀l:List UInt8,cI (l.map fun b=>.int .u8 (b.toNat:Int))=true:=by
  intro l;induction l with
  |nil=>rfl
  |cons b l ih=>simp[cI,ih]
 exact this _
theorem Kl{t u ty:TypeId}{d s:Value}{K:WK}{w:World}(h:PV P t d s K w.heap):Wv P (sg #[t,u] ty #[d,s]) K w:=by
 unfold PV at h;split at h
 ·rename_i e b dl dc a sl sc ht
  obtain⟨⟨xs,o,n,p,k⟩,g⟩:=rH h;refine⟨_,_,?_,fg w (ip w.heap b 0 xs),k⟩;have j:=zO (P:=P) (len:=sl) (cap:=sc) o;cases b with
  |none=>simp[sg,az (dS ht),sf,g,j,goInt];rfl
  |some c=>
   have f:=Fk (P:=P) (m:=0) p n;simp only[Addr.add,if_pos]at f;simp[sg,az (dS ht),sf,g,j,goInt,f,ip]
 ·rename_i e b dl dc x ht
  cases hb:bK (cf P e) 1 with
  |false=>rw[hb]at h;exact h.elim
  |true=>
   rw[hb]at h;have p:=aV hb;obtain⟨i,hi⟩:=Cj (P:=P) (t:=e) (by omega);have g:(sizeOf e).run P w=.ok (cf P e) w:=by simp[sizeOf,df hi,cf,hi]
   obtain⟨n,k⟩:=h;have v:(eo x).length=x.size:=by simp[eo]
   have q:(eo x).take (f9 x.size dl)=(eo x).take dl:=by
    by_cases hx:x.size≤dl
    ·rw[show f9 x.size dl=x.size from Nat.min_eq_left hx,bL (by omega),bL (by omega)]
    ·rw[show f9 x.size dl=dl from Nat.min_eq_right (by omega)]
   have j:(fp (cf P e) (f9 x.size dl) (.string x)).run P w=.ok ((eo x).take dl).toArray w:=by
    rw[Eg,q]
   refine⟨_,_,?_,fg w (ip w.heap b 0 ((eo x).take dl)),k⟩;cases b with
   |none=>simp[sg,az (dS ht),sf,g,j,goInt];rfl
   |some c=>
    have f:=Fk (P:=P) (m:=0) (Cc _ dl (G6 x)) n;simp only[Addr.add,if_pos]at f;simp[sg,az (dS ht),sf,g,j,goInt,f,ip]
 ·exact h.elim
theorem NW(k v:Value)(b:Nat):∀(es:List MapEntry),(match es.findIdx? (fun e=>gj k e.key)with
  |some i=>(es.modify i (fun e=>{e with key:=k,val:=v}),b)
  |none=>(es++ [{key:=k,val:=v,born:=b}],b+1))=Ji k v b es
 | []=>rfl
 |e::es=>by
  have c:=NW k v b es;simp only[Ji,List.findIdx?_cons];cases hk:gj k e.key with
  |true=>simp[List.modify]
  |false=>
   simp only[ce,if_false];rw[←c];cases hf:es.findIdx? (fun e=>gj k e.key)with
   |none=>simp
   |some i=>simp[List.modify]
theorem yQ{d:TypeDesc}{c:CK}(hd:qH d c)(x:c.den):∀(es:List MapEntry) (i:Nat),keysOf c es→
  pj d (c.enc x) es i=some (match es.findIdx? (fun e=>gj (c.enc x) e.key)with
   |some j=>(es[j]?).map fun e=>(i+j,e.val)
   |none=>none)
 | [],i,_=>rfl
 |e::es,i,h=>by
  obtain⟨y,k⟩:=h e (by simp);have f:=D0 hd x y;rw[←k]at f;have g:=yQ hd x es (i+1) fun m b=>h m (by simp[b])
  simp only[pj,List.findIdx?_cons,f];cases hb:gj (c.enc x) e.key with
  |true=>simp
  |false=>
   simp only[ce,if_false];rw[g];cases hf:es.findIdx? (fun e=>gj (c.enc x) e.key)with
   |none=>simp
   |some j=>simp[wQ,Nat.add_comm 1 j]
theorem yc{a b:ByteArray}(h:(a==b)=true):a=b:=by
 cases a with|mk a=>cases b with|mk b=>
 have h:(a==b)=true:=h;rw[eq_of_beq h]
theorem y8(a:ByteArray):(a==a)=true:=by
 cases a with|mk a=>
 exact beq_self_eq_true a
theorem IW{d:TypeDesc}{c:CK}(hd:qH d c)(x y:c.den)(h:gj (c.enc x) (c.enc y)=true):Instr.sameBits 10000 (c.enc y) (c.enc x)=true:=by
 rcases hd with⟨i,rfl,rfl⟩|⟨rfl,rfl⟩|⟨rfl,rfl⟩
 ·have h:x=y:=eq_of_beq (α:=Int) h
  subst h;have:∀n:Int,(i==i&&n==n)=true:=fun n=>by simp
  exact this x
 ·have h:x=y:=yc h
  subst h;exact y8 x
 ·have h:x=y:=eq_of_beq (α:=Bool) h
  subst h;exact beq_self_eq_true (α:=Bool) x
theorem xB{w:World}{r:Nat}{es:Array MapEntry}{b:Nat}{o:Obj}(h:w.heap[r]? =some (.map es b)):(setObj r o).run P w=.ok () (lA w (w.heap.setIfInBounds r o)):=by
 simp only[setObj,pt,h];rfl
theorem MK{t k e:TypeId}{d:TypeDesc}{c:CK}(z:P.underlying t=some (.map k e))(u:P.underlying k=some d)(hd:qH d c){r:Nat}{x:c.den}{v:Value}{w:World}(hm:LC c w.heap r):
  (Instr.mapUpdate t (.map (some r)) (c.enc x) v).run P w=.ok () (lA w (wZ w.heap r (c.enc x) v)):=by
 obtain⟨es,b,j,f⟩:=hm;obtain⟨q,B,h2,C⟩:=xG (P:=P) hd u x f w;rw[yQ hd x es.toList 0 f]at h2;have g:=NW (c.enc x) v b es.toList;have n:wZ w.heap r (c.enc x) v=w.heap.setIfInBounds r (.map (Ji (c.enc x) v b es.toList).1.toArray (Ji (c.enc x) v b es.toList).2):=by
  simp only[wZ,j]
 rw[n,←g];simp only[Instr.mapUpdate,aU,az z,aB,mY j,oX hd u,B];cases hf:es.toList.findIdx? (fun e=>gj (c.enc x) e.key)with
 |none=>
  rw[hf]at h2;simp only[bX.injEq]at h2;subst h2;simp only[xB j];congr 4
  apply dw;simp
 |some i=>
  rw[hf]at h2;simp only[bX.injEq]at h2;obtain⟨hi,s,_⟩:=List.findIdx?_eq_some_iff_getElem.1 hf;have p:es.toList[i]? =some es.toList[i]:=aj hi;rw[p]at h2;simp only[pu,bi]at h2;subst h2;have m:es[i]? =some es.toList[i]:=by rw[←bv];exact p
  obtain⟨y,A⟩:=f es.toList[i] (List.getElem_mem hi);have o:Instr.sameBits 10000 (es.toList[i]).key (c.enc x)=true:=by
   rw[A]at s⊢;exact IW hd x y s
  simp only[m,pu,Option.getD_some,Instr.keyThatStays,o,if_true,aU,bT,aB,xB j];congr 4
  apply dw;simp
theorem Au{t:TypeId}{m k v:Value}{K:WK}{w:World}(h:EO P t m k v K w.heap):Wu P (Instr.mapUpdate t m k v) K w:=by
 unfold EO at h;split at h
 ·rename_i c e m hc
  obtain⟨i,d,g,f,hd⟩:=yL hc;obtain⟨j,rfl,r,rfl,hm,b⟩:=CK.dec_sound h;exact⟨_,MK g f hd hm,fg _ _,b⟩
 ·exact h.elim
theorem Lo(k:Value):∀(es:List MapEntry),(match es.findIdx? (fun e=>gj k e.key)with
  |some i=>es.eraseIdx i
  |none=>es)=F5 k es
 | []=>rfl
 |e::es=>by
  have b:=Lo k es;simp only[F5,List.findIdx?_cons];cases hk:gj k e.key with
  |true=>simp
  |false=>
   simp only[ce,if_false];rw[←b];cases hf:es.findIdx? (fun e=>gj k e.key)<;>simp
theorem K0{t k e ty:TypeId}{ts:Array TypeId}{d:TypeDesc}{c:CK}(u:ts[0]? =some t) (y:P.underlying t=some (.map k e)) (p:P.underlying k=some d) (hd:qH d c) {r:Nat} {x:c.den} {w:World} (hm:LC c w.heap r):
  (tD ts ty #[.map (some r),c.enc x]).run P w=.ok (.tuple #[]) (lA w (FJ w.heap r (c.enc x))):=by
 obtain⟨es,f,m,j⟩:=hm;obtain⟨q,v,h2,z⟩:=xG (P:=P) hd p x j w;rw[yQ hd x es.toList 0 j]at h2;have g:=Lo (c.enc x) es.toList;have o:FJ w.heap r (c.enc x)=w.heap.setIfInBounds r (.map (F5 (c.enc x) es.toList).toArray f):=by
  simp only[FJ,m]
 rw[o,←g];simp only[tD,u,List.getElem?_toArray,List.getElem?_cons_zero,List.getElem?_cons_succ,aU,az y,aB,mY m,oX hd p,v];cases hf:es.toList.findIdx? (fun e=>gj (c.enc x) e.key)with
 |none=>
  rw[hf]at h2;simp only[bX.injEq]at h2;subst h2;simp[xB m]
 |some i=>
  rw[hf]at h2;simp only[bX.injEq]at h2;obtain⟨hi,A,_⟩:=List.findIdx?_eq_some_iff_getElem.1 hf;have s:es.toList[i]? =some es.toList[i]:=aj hi;rw[s]at h2;simp only[pu,bi]at h2;subst h2;have n:i<es.size:=by simpa using hi
  have b:es.eraseIdxIfInBounds i=(es.toList.eraseIdx i).toArray:=by
   apply dw;simp[Array.eraseIdxIfInBounds,n]
  simp[xB m,b]
theorem E7{t ty:TypeId}{ts:Array TypeId}{m k:Value}{K:WK}{w:World}(f:ts[0]? =some t) (h:E8 P t m k K w.heap):Wv P (tD ts ty #[m,k]) K w:=by
 unfold E8 at h;split at h
 ·rename_i c e m hc
  obtain⟨j,d,i,g,hd⟩:=yL hc;obtain⟨n,rfl,h⟩:=CK.dec_sound h;rcases h with⟨rfl,b⟩|⟨r,rfl,hm,b⟩
  ·refine⟨_,w,?_,Tame.refl w,b⟩
   simp[tD,f,az i,oX hd g]
  ·exact⟨_,_,K0 f i g hd hm,fg _ _,b⟩
 ·exact h.elim
theorem OU{t k e:TypeId}(c:P.underlying t=some (.map k e)){m:Option Nat}{b:Nat}{w:World}(hm:m=none∧b=0∨∃r es,m=some r∧w.heap[r]? =some (.map es b)):
  (Instr.range t (.map m)).run P w=.ok (.pointer (some (aI w.heap))) (lA w (w.heap.push (.mapIter m b #[] b))):=by
 rcases hm with⟨rfl,rfl⟩|⟨r,es,rfl,d⟩
 ·simp only[Instr.range,aU,az c,aB,bT,Fs,aI]
 ·simp only[Instr.range,aU,az c,aB,bT,mY d,Fs,aI]
theorem yB{w:World}{i:Nat}{m:Option Nat}{b:Nat}{c:Array Nat}{last:Nat}(h:w.heap[i]? =some (.mapIter m b c last)):(getObj i).run P w=.ok (.mapIter m b c last) w:=by
 simp only[getObj,pt,h]
theorem Kt{w:World}{i:Nat}{m:Option Nat}{b:Nat}{c:Array Nat}{last:Nat}{o:Obj}(h:w.heap[i]? =some (.mapIter m b c last)):(setObj i o).run P w=.ok () (lA w (w.heap.setIfInBounds i o)):=by
 simp only[setObj,pt,h];rfl
theorem Gb(n:Nat)(b:0<n)(w:World):∃k w',k<n∧(choose (.mapNext n)).run P w=.ok k w'∧Tame w w'∧w'.heap=w.heap:=by
 unfold choose;simp only[pt];by_cases h:(Question.mapNext n).forced=true
 ·exact⟨0,w,b,by rw[if_pos h],Tame.refl w,rfl⟩
 ·refine⟨(Question.mapNext n).cut (w.tape w.drawn (.mapNext n)),{w with drawn:=w.drawn+1},Nat.mod_lt _ b,by rw[if_neg h],⟨rfl,rfl,rfl⟩,rfl⟩
theorem Kk{I:Value}{t:TypeId}{K:WK}{w:World}(h:PU I K w.heap):Wv P (Instr.next I false t) K w:=by
 unfold PU at h;split at h
 ·rename_i a
  obtain⟨L,m,i,f,last,hi,h⟩:=h;obtain⟨b,off,O⟩:=a;simp only at L hi h;subst L;rcases h with⟨rfl,S⟩|⟨r,es,v,rfl,N,A,B,F⟩
  ·exact⟨_,w,by simp only[Instr.next,aU,yB hi,aB,bT],Tame.refl w,S⟩
  ·have s:(!f.isEmpty&& !es.isEmpty&&es.all (fun e=>decide (e.born≥last)))=false:=by
    rcases A with h|h|h<;>simp[h]
   obtain⟨left,j⟩:∃left,left=es.filter fun e=> !f.contains e.born:=⟨_,rfl⟩
   obtain⟨old,p⟩:∃old,old=left.filter (·.born<i):=⟨_,rfl⟩
   obtain⟨new,hnew⟩:∃new,new=left.filter (·.born≥i):=⟨_,rfl⟩
   obtain⟨d,g⟩:∃d:Array (Option MapEntry),d=(if old.isEmpty then #[none]else #[])++(old++new).map some:=⟨_,rfl⟩
   have C:0<d.size:=by
    rw[g];by_cases y:old.isEmpty=true
    ·simp[y];omega
    ·have:old.size≠0:=by simpa using y
     simp[y];omega
   obtain⟨k,D,R,u,J,H⟩:=Gb (P:=P) d.size C w;obtain⟨c,hc⟩:∃c,d[k]? =some c:=⟨d[k],Array.getElem?_eq_getElem R⟩;have E:D.heap[b]? =some (.mapIter (some r) i f last):=by rw[H];exact hi
   have n:(!f.isEmpty&& !es.isEmpty&&es.all fun x=>decide (x.born≥last))=false:=s
   cases c with
   |none=>
    refine⟨.tuple #[.bool false],D,?_,J,?_⟩
    ·simp only[Instr.next,aU,yB hi,aB,bT,mY N,n,ce,if_false,←j,←p,←hnew,←g,u,hc]
    ·rw[H]
     have q:old.isEmpty=true:=by
      have hm:none∈d:=Array.mem_of_getElem? hc;rw[g]at hm;by_cases y:old.isEmpty=true
      ·exact y
      ·simp[y]at hm
     refine B fun e Q G=>?_
     cases hs:f.contains e.born with
     |true=>rfl
     |false=>
      have o:e∈old:=by
       rw[p,j];simp only[rU];exact⟨⟨by simpa using Q,by rw[hs];rfl⟩,by simpa using G⟩
      rw[Array.isEmpty_iff]at q;rw[q]at o;simp at o
   |some e=>
    have o:e∈es∧f.contains e.born=false:=by
     have hm:some e∈d:=Array.mem_of_getElem? hc;have z:e∈left:=by
      rw[g]at hm;rw[Array.mem_append]at hm;rcases hm with hm|hm
      ·split at hm<;>simp at hm
      ·simp only[Array.mem_map,bX.injEq,exists_eq_right,Array.mem_append]at hm
       rcases hm with hm|hm
       ·rw[p]at hm;exact(rU.1 hm).1
       ·rw[hnew]at hm;exact(rU.1 hm).1
     rw[j]at z;have:=rU.1 z;exact⟨this.1,by simpa using this.2⟩
    refine⟨.tuple #[.bool true,e.key,e.val],lA D (D.heap.setIfInBounds b (.mapIter (some r) i (f.push e.born) v)),?_,J.trans (fg _ _),?_⟩
    ·simp only[Instr.next,aU,yB hi,aB,bT,mY N,n,ce,if_false,←j,←p,←hnew,←g,u,hc,Kt E]
    ·rw[H]
     exact F e (by simpa using o.1) o.2
 ·exact h.elim
theorem G8{t e:TypeId}{z:List Value}{k k':IntKind}{l c:Int}{w:World}(u:ya P t=some e)(C:sN P e=some z)(d:z.length=cf P e)(D:0≤l)(E:l≤c)(h2:c≤9223372036854775807)(B:sZ P e*c≤2^48):
  (Instr.makeSlice t (.int k l) (.int k' c)).run P w=.ok (.slice (some (aI w.heap)) l.toNat c.toNat) (lA w (hnew w.heap (eM c.toNat z) e)):=by
 obtain⟨v,hv,g⟩:=lx C;obtain⟨i,hi,A⟩:=tS hv;have f:cf P e=i.size:=by simp[cf,hi]
 have o:sZ P e=i.bytes:=by simp[sZ,hi]
 have n:v.cells.size=i.size:=by rw[←f,←d,←g];simp
 have y:=CZ D (by omega);have hc:=CZ (show 0≤c by omega) h2
 rw[o]at B;have c1:¬(c<0):=by omega
 have x:¬(281474976710656<(i.bytes:Int)*c):=by omega
 have q:¬(l<0):=by omega
 have s:¬(c<l):=by omega
 by_cases b:c.toNat*i.size=0
 ·have p:(eM c.toNat z).length=0:=by simp[eM,d,f,b]
  rw[aw.1 p];simp[Instr.makeSlice,az (dS u),asInt,asIntOf,df hi,y,hc,c1,x,q,s,sizeOf,b,lJ]
 ·have m:((Array.range (c.toNat*i.size)).map (fun j=>v.cells[j%v.cells.size]!))=(eM c.toNat z).toArray:=by
   rw[←n,NH,g]
  have key:(newRow e ((Array.range (c.toNat*i.size)).map (fun j=>v.cells[j%v.cells.size]!))).run P w=.ok (aI w.heap) (lA w (hnew w.heap (eM c.toNat z) e)):=by
   rw[m,lJ]
  simp[Instr.makeSlice,az (dS u),asInt,asIntOf,df hi,y,hc,c1,x,q,s,sizeOf,b,fq hv];rw[key];rfl
theorem Agree.args{N:Nat}{r:cO}{a:Act}(h:Agree N r a){os:Array Operand}{vs:List Value}(hv:pC r os.toList=some vs):os.map a.eval=vs.toArray:=by
 rw[←nM h hv];apply dw;simp
theorem HC.out{f:FuncId}{args:List Value}{ks:List Kind}{K:WK}{w:World}(h:HC P f args ks (fun x h'=>K (Eu ks (oA ks x)) h') w.heap):Lw P (callFunc f args.toArray) K w:=by
 rcases h.run w rfl with⟨d,h2⟩|⟨v,w',d,c,x,rfl,b⟩
 ·refine .inr (.inr (.inl ⟨f,args.toArray,d,h2.mono ?_⟩))
  rintro e w' ⟨c,x,rfl,b⟩;exact⟨c,_,rfl,b⟩
 ·exact .inl ⟨_,w',d,c,b⟩
theorem Pm{b d e:TypeId}{s:ByteArray}{w:World}(k:P.underlying b=some .string)(hd:P.underlying d=some (.slice e))(j:P.underlying e=some (.int .u8)):
  ∃c,s.size≤c∧(convert b d (.string s)).run P w=.ok (.slice (some (aI w.heap)) s.size c) (lA w.drew (w.heap.push (.cells (eo s++lr (c-s.size) (Value.int .u8 0)).toArray e (c,c+1)))):=by
 have g:s.size≤grownCap w s.size 0 e:=Nat.le_add_right _ _;refine⟨_,g,?_⟩;rw[Go.Lib.run_convert_string_bytes w b d e s k hd j];have hc:(Go.Lib.bytesCells w e s).size=grownCap w s.size 0 e:=by
  unfold Go.Lib.bytesCells;rw[Array.size_append,Array.size_map,Array.size_replicate,show s.data.size=s.size from rfl]
  omega
 have f:(eo s++lr (grownCap w s.size 0 e-s.size) (Value.int .u8 0)).toArray=Go.Lib.bytesCells w e s:=by
  unfold Go.Lib.bytesCells eo;apply dw;simp
 rw[f];unfold Go.Lib.bytesWorld World.freeze;rw[if_neg (by omega),hc];unfold World.alloc World.drew lA;congr 1
 congr 1
 apply Array.ext (by simp);intro i m h2;rw[Array.getElem_modify];simp only[Array.getElem_push];split
 ·rename_i e
  subst e;simp
 ·rename_i e
  have hi:i<w.heap.size:=by simp at h2;omega
  rw[dif_pos hi,dif_pos hi]
theorem C1{o:Oper}{r:cO}{K:WK}{w:World}{N:Nat}{a:Act}(H:Agree N r a)(j:GX P o r K w.heap):Lw P (execOp a.eval o) K w:=by
 have q:∀{x:Operand} {v:Value},dF r x=some v→a.eval x=v:=fun h=>lF H h
 obtain⟨W,Z,D,pos,G,F⟩:=o;cases Z with
 |alloc t=>
  simp only[GX]at j;split at j
  ·rename_i z hz
   obtain⟨v,hv,R⟩:=lx hz;have C:(Instr.alloc t true (.tuple #[])).run P w=.ok (.pointer (some (aI w.heap))) (lA w (hnew w.heap z t)):=by
    simp[Instr.alloc,fq hv,newVar,lJ,R]
   exact Wv.out ⟨_,_,C,fg _ _,j⟩
  ·exact j.elim
 |box t x=>
  simp only[GX]at j;split at j
  ·rename_i v hv
   have C:(Instr.box t v).run P w=.ok (.pointer (some (aI w.heap))) (lA w (hnew w.heap v.cells.toList t)):=by
    simp[Instr.box,newVar,lJ]
   simp only[execOp,q hv];exact Wv.out ⟨_,_,C,fg _ _,j⟩
  ·exact j.elim
 |build t ps=>
  simp only[GX]at j;split at j
  ·rename_i vs p
   split at j
   ·rename_i cs hcs
    have T:(ps.map fun x=>(x.1,a.eval x.2))=vs.toArray:=by
     rw[←qp H p];apply dw;simp
    have C:=Cq (ps:=vs.toArray) (by simpa using hcs) w;simp only[execOp];rw[show(ps.map fun(i,x)=>(i,a.eval x))=vs.toArray from T]
    exact Wv.out ⟨_,w,C,Tame.refl w,j⟩
   ·exact j.elim
  ·exact j.elim
 |buildSlice t n ps=>
  simp only[GX]at j;split at j
  ·rename_i e vs E p
   split at j
   ·rename_i z hz
    cases hb:(Ae (n*cf P e) 16777216&&bK z.length (cf P e))with
    |false=>rw[hb]at j;exact j.elim
    |true=>
     rw[hb]at j;simp only[bc]at hb;simp only[cond_true]at j;split at j
     ·rename_i cs hcs
      have T:(ps.map fun x=>(x.1,a.eval x.2))=vs.toArray:=by
       rw[←qp H p];apply dw;simp
      have C:=Dx (ps:=vs.toArray) E hz (jJ hb.1) (aV hb.2) (by simpa using hcs) w;simp only[execOp];rw[show(ps.map fun(i,x)=>(i,a.eval x))=vs.toArray from T]
      exact Wv.out ⟨_,_,C,fg _ _,j⟩
     ·exact j.elim
   ·exact j.elim
  ·exact j.elim
 |store t x y=>
  simp only[GX]at j;split at j
  ·rename_i b v hb hv
   simp only[execOp,q hb,q hv];exact Wu.out (IP j)
  ·exact j.elim
 |mapUpdate t m k x=>
  simp only[GX]at j;split at j
  ·rename_i mv kv xv hm B hx
   simp only[execOp,q hm,q B,q hx];exact Wu.out (Au j)
  ·exact j.elim
 |insert t m k x=>
  simp only[GX]at j;split at j
  ·rename_i mv kv xv hm B hx
   simp only[execOp,q hm,q B,q hx];exact Wu.out (Au j)
  ·exact j.elim
 |makeMap t n=>
  simp only[GX]at j;cases n with
  |none=>exact Wv.out ⟨_,lA w (w.heap.push (.map #[] 0)),by simp[Instr.makeMap];rfl,fg _ _,j⟩
  |some n=>
   simp only at j;split at j
   ·rename_i k i hn E
    exact Wv.out ⟨_,lA w (w.heap.push (.map #[] 0)),by simp[Instr.makeMap,q hn,az E,asInt,asIntOf];rfl,fg _ _,j⟩
   ·exact j.elim
 |makeSlice t l c=>
  simp only[GX]at j;split at j
  ·rename_i e k l' k' c' E S hc
   split at j
   ·rename_i z hz
    cases hb:bK z.length (cf P e)with
    |false=>rw[hb]at j;exact j.elim
    |true=>
     rw[hb]at j;obtain⟨⟨Y,U,h2,X⟩,j⟩:=j;simp only[execOp,q S,q hc];exact Wv.out ⟨_,_,G8 E hz (aV hb) Y U h2 X,fg _ _,j⟩
   ·exact j.elim
  ·exact j.elim
 |convert s d x=>
  simp only[GX]at j;split at j
  ·rename_i e v Q hd hx
   cases hu:MQ P e with
   |false=>rw[hu]at j;exact j.elim
   |true=>
    rw[hu]at j;obtain⟨c,hc,L⟩:=Pm (w:=w) (s:=v) Q hd (FQ hu);simp only[execOp,q hx];exact Wv.out ⟨_,_,L,⟨rfl,rfl,rfl⟩,j c hc⟩
  ·exact j.elim
 |range t x=>
  simp only[GX]at j;split at j
  ·rename_i k e m hu hx
   obtain⟨O,hm,j⟩:=j;simp only[execOp,q hx];exact Wv.out ⟨_,_,OU hu hm,fg _ _,j⟩
  ·exact j.elim
 |next it isS=>
  cases isS with
  |true=>simp only[GX]at j
  |false=>
   simp only[GX]at j;split at j
   ·rename_i v hv
    simp only[execOp,q hv];exact Wv.out (Kk j)
   ·exact j.elim
 |call c=>
  simp only[GX]at j;have eb:∀{b:Builtin} {vs:List Value},c.callee=.builtin b→pC r c.args.toList=some vs→∃cs:Array Bool,∀w,(execOp a.eval ⟨W,.call c,D,pos,G,F⟩).run P w=
    (builtin b c.argTypes D cs vs.toArray).run P w:=by
   intro b vs hc p;refine⟨c.args.map fun| .const _=>true|_=>false,fun w=>?_⟩
   simp[execOp,resolve,hc,H.args p,invoke];rfl
  have J:∀{s s':Sem Next},(∀w,s.run P w=s'.run P w)→Lw P s' K w→Lw P s K w:=by
   intro s s' C h;unfold Lw at h⊢;simp only[C];exact h
  split at j
  ·rename_i s x hc p
   split at j
   ·rename_i t u hat
    obtain⟨cs,I⟩:=eb hc p;refine J I ?_;have A:c.argTypes= #[t,u]:=by apply dw;rw[hat]
    simp only[builtin,A];split at j
    ·rename_i e' hu;exact Wv.out (Av (.inl ⟨e',hu⟩) j)
    ·rename_i hu;exact Wv.out (Av (.inr hu) j)
    ·rename_i k0 hu;exact Wv.out (E9 hu j)
    ·exact j.elim
   ·exact j.elim
  ·rename_i x hc p
   split at j
   ·rename_i t hat
    obtain⟨cs,I⟩:=eb hc p;refine J I ?_;have A:c.argTypes= #[t]:=by apply dw;rw[hat]
    simp only[builtin,A];exact Wv.out (IQ j)
   ·exact j.elim
  ·rename_i s x hc p
   split at j
   ·rename_i t u hat
    obtain⟨cs,I⟩:=eb hc p;refine J I ?_;have A:c.argTypes= #[t,u]:=by apply dw;rw[hat]
    simp only[builtin,A];exact Wv.out (Kl j)
   ·exact j.elim
  ·rename_i m k hc p
   split at j
   ·rename_i t u hat
    obtain⟨cs,I⟩:=eb hc p;refine J I ?_;simp only[builtin];exact Wv.out (E7 (by rw[←bv,hat];rfl) j)
   ·exact j.elim
  ·rename_i f args hc p
   unfold Tv at j;split at j
   ·exact j.elim
   ·rename_i ks hks
    split at j
    ·rename_i f
     refine J (s':=callFunc f args.toArray) (fun w=>?_) j.out
     simp[execOp,resolve,hc,H.args p,Act.eval,Deferred.ofValue,invoke]
    ·rename_i f hf
     split at j
     ·rename_i fv hfv
      rcases j.run with⟨g,first,cap,rfl,V⟩|⟨l,rfl,V⟩
      rotate_left
      ·obtain⟨fn,tmps,assign,body,U,h2⟩:=V.run w rfl
       refine .inr (.inr (.inr ⟨l,fn,tmps,assign,body,?_,fun c cs=>?_⟩))
       ·rw[←U]
        simp[execOp,resolve,hc,H.args p,q hfv,Deferred.ofValue,invoke]
       ·obtain⟨b,w',E,B,Q⟩:=h2 c cs
        refine⟨b,w',E,?_,Q⟩;obtain⟨t,e,B⟩:=uR B;have S:ks.length=1:=by rw[←vE ks t,←e];rfl
        match ks,S,t,e,B with
        | [k],_,t,e,B=>rw[←e]at B;exact B
      refine J (s':=callFunc g (first.toList++args++cap.toList).toArray) (fun w=>?_) V.out
      have e:first++args.toArray++cap=(first.toList++args++cap.toList).toArray:=by apply dw;simp
      rw[←e];simp[execOp,resolve,hc,H.args p,q hfv,Deferred.ofValue,invoke]
     ·exact j.elim
  ·exact j.elim
 |_=>simp only[GX]at j
end Go.Lift
