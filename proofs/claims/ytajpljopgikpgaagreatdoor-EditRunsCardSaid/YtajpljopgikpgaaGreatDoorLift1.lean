/- A part of the proof that the named laws of this program answer true, whatever the input. -/
import Derived.Test.YtajpljopgikpgaaGreatDoorLift0
import Derived.Laws.Append
import Derived.Laws.Cover3
import Derived.Laws.StructEq
import Derived.Laws.BytesString
import Derived.Lib.ConvBytes
open Array renaming ext'→cT,getElem?_toList→bp,mem_of_getElem?→oA,mem_filter→oT
open Bool renaming and_eq_true→bC,false_eq_true→fB
open ByteArray renaming data_extract→oo
open List renaming extract_eq_take_drop→ge,map_cons→fQ,take_of_length_le→bB,length_cons→aN,cons_append→cQ,replicate→dE,length_eq_zero_iff→bV,getElem?_eq_getElem→af
open Nat renaming beq→bF,add_assoc→kB,ble→uo,eq_of_beq_eq_true→aZ,le_of_ble_eq_true→gi,add_zero→cZ,zero_add→aE,le_add_right→lZ,min→dL
open Option renaming some→bv,isSome_iff_exists→dI,map_some→f7
open Prod renaming mk→rW
open UInt8 renaming ofNat→fH
namespace Go.Lift
open Go
def PZ(S:Option (ad→Prop))(h:ad):Prop:=match S with|none=>True|some f=>f h
def Yv(P:Program)(s:Sem Value)(K:RK)(h:ad):Prop:=∃v S,K v S∧PZ S h∧∀w:World,PZ S w.heap→s.run P w=.ok v w
theorem Yv.of_pure{P:Program}{s:Sem Value}{K:RK}{h:ad}{v:Value}(a:K v none)(b:∀w:World,s.run P w=.ok v w):Yv P s K h:=
 ⟨v,none,a,trivial,fun w _=>b w⟩
variable {P:Program}
theorem vn{t:TypeId}{f:Nat}{u:TypeId}{off:Nat}(h:vo P t f=some (u,off)):
  ∃fs g,P.underlying t=some (.struct fs)∧fs[f]? =some g∧g.type=u∧g.offset=off:=by
 unfold vo at h;split at h
 ·rename_i fs hu
  split at h
  ·rename_i g hg
   simp only[bv.injEq,rW.injEq]at h;exact⟨fs,g,hu,by simpa using hg,h.1,h.2⟩
  ·cases h
 ·cases h
theorem xn{t:TypeId}(h:bF (bS P t) 0=false)(w:World):(sizeOf t).run P w=.ok (bS P t) w:=by
 unfold bS at h⊢;cases hi:P.info? t with
 |none=>rw[hi]at h;cases h
 |some i=>simp[sizeOf,cM hi]
theorem BJ{t:TypeId}{f:Nat}{u:TypeId}{off:Nat}{a:Addr}{K:RK}{h:ad}(d:vo P t f=some (u,off))
  (b:bif bF (bS P u) 0 then False else K (.pointer (some (adr a off))) none):Yv P (Instr.fieldAt t (.pointer (some a)) f) K h:=by
 obtain⟨k,g,i,j,rfl,rfl⟩:=vn d;cases hz:bF (bS P g.type) 0 with
 |true=>rw[hz]at b;exact b.elim
 |false=>
  rw[hz]at b;refine .of_pure b fun w=>?_
  have c:bS P g.type≠0:=fun e=>by rw[e]at hz;cases hz
  simp only[Instr.fieldAt,Sem.run_bind,ax i,Result.andThen_ok,j,Instr.sureAddr,Sem.run_pure,fieldPlace,xn hz];simp[c,sB]
theorem uk{t:TypeId}{i:TypeInfo}(_:P.info? t=some i)(a:∃d,P.underlying t=some d)(w:World):(isAgg t).run P w=.ok (ul P t) w:=by
 obtain⟨d,hd⟩:=a;simp only[isAgg,Sem.run_bind,ax hd,Result.andThen_ok];unfold ul;rw[hd];cases d<;>rfl
theorem yp{c:BinOp}{k k':IntKind}{a b:Int}{K:RK}{h:ad}(f:c=.shl∨c=.shr)(hv:Ju c k a b K):Yv P (Op.shift c k a k' b) K h:=by
 rcases f with rfl|rfl
 ·obtain⟨d,e⟩:=hv
  refine .of_pure e fun w=>?_
  simp[Op.shift,Int.not_lt.2 d]
 ·obtain⟨d,e⟩:=hv
  refine .of_pure e fun w=>?_
  simp[Op.shift,Int.not_lt.2 d]
theorem Kl{c:BinOp}{k:IntKind}{a b:Int}{K:RK}{h:ad}(hv:Sy c k a b K)(f:c≠ .shl∧c≠ .shr):Yv P (binOp c 0 (.int k a) (.int k b)) K h:=by
 cases c<;>simp only[Sy]at hv
 case quo=>obtain⟨d,e⟩:=hv;exact .of_pure e fun w=>by simp[binOp,Op.intDiv,d]
 case rem=>obtain⟨d,e⟩:=hv;exact .of_pure e fun w=>by simp[binOp,Op.intDiv,d]
 all_goals exact .of_pure hv fun w=>by simp[binOp,Op.intArith,Op.intBits,Op.intCmp]
theorem Dt(c:BinOp)(t:TypeId)(k k':IntKind)(a b:Int):binOp c t (.int k a) (.int k' b)=binOp c 0 (.int k a) (.int k' b):=by
 cases c<;>rfl
theorem Js{c:BinOp}{t:TypeId}{a b:ByteArray}{K:RK}{h:ad}(hv:R9 c a b K):Yv P (binOp c t (.string a) (.string b)) K h:=by
 cases c<;>simp only[R9]at hv
 case add=>
  obtain⟨e,d⟩:=hv;refine .of_pure d fun w=>?_
  have:¬(((a.size+b.size:Nat):Int)>IntKind.i64.max):=by
   have:IntKind.i64.max=9223372036854775807:=by decide
   omega
  simp only[binOp,Op.stringOp,if_neg this,Sem.run_pure]
 all_goals exact .of_pure hv fun w=>by simp[binOp,Op.stringOp]
theorem pm{t:TypeId}{x y:Value}{b:Bool}{w:World}(h:∀d,(Op.equalIn (d+1) t x y).run P w=.ok b w):(Op.equal t x y).run P w=.ok b w:=h 9999
theorem Db{t:TypeId}{e:TypeId}(b:P.underlying t=some (.pointer e))(a:Option Addr)(w:World):(Op.equal t (.pointer a) (.pointer none)).run P w=.ok a.isNone w:=by
 refine pm fun d=>?_
 simp only[Op.equalIn,Sem.run_bind,ax b,Result.andThen_ok];cases a<;>rfl
theorem KB(e:BinOp)(t:TypeId)(x y:Operand)(a b:Value)(h:∀c d,a=.agg c→b=.agg d→False)(hi:a=.nilIface→b=.nilIface→False)(w:World):
  (eqGuard e t x y a b).run P w=.ok () w:=by
 cases e;case eql=>cases a<;>cases b<;>first|rfl|exact(hi rfl rfl).elim|exact(h _ _ rfl rfl).elim
 case neq=>cases a<;>cases b<;>first|rfl|exact(hi rfl rfl).elim|exact(h _ _ rfl rfl).elim
 all_goals rfl
theorem NH(t:TypeId)(x y:Value)(hx:∀k a,x≠ .int k a)(d:∀s,x≠ .string s)(c:∀k a,x≠ .float k a)(hc:∀k a b,x≠ .complex k a b):binOp .eql t x y=(do pure (.bool (←Op.equal t x y))):=by
 cases x<;>first|rfl|exact absurd rfl (hx _ _)|exact absurd rfl (d _)|exact absurd rfl (c _ _)|exact absurd rfl (hc _ _ _)
theorem NG(t:TypeId)(x y:Value)(hx:∀k a,x≠ .int k a)(d:∀s,x≠ .string s)(c:∀k a,x≠ .float k a)(hc:∀k a b,x≠ .complex k a b):binOp .neq t x y=(do pure (.bool (!(←Op.equal t x y)))):=by
 cases x<;>first|rfl|exact absurd rfl (hx _ _)|exact absurd rfl (d _)|exact absurd rfl (c _ _)|exact absurd rfl (hc _ _ _)
theorem pn{t:TypeId}{neg:Bool}{x y:Value}{b:Bool}{w:World}(d:(Op.equal t x y).run P w=.ok b w)
  (hx:∀k a,x≠ .int k a)(e:∀s,x≠ .string s)(c:∀k a,x≠ .float k a)(hc:∀k a b,x≠ .complex k a b):
  (binOp (bif neg then .neq else .eql) t x y).run P w=.ok (.bool (bif neg then !b else b)) w:=by
 cases neg
 ·simp only[cond_false,NH t x y hx e c hc,Sem.run_bind,d,Result.andThen_ok,Sem.run_pure]
 ·simp only[cond_true,NG t x y hx e c hc,Sem.run_bind,d,Result.andThen_ok,Sem.run_pure]
theorem CR{t:TypeId}{neg:Bool}{x y:Value}{K:RK}{h:ad}(hv:QR P t neg x y K):
  (∀c d,x=.agg c→y=.agg d→False)∧(x=.nilIface→y=.nilIface→False)∧Yv P (binOp (bif neg then .neq else .eql) t x y) K h:=by
 unfold QR at hv;split at hv
 ·rename_i e a hu
  refine⟨nofun,nofun,.of_pure hv fun w=>?_⟩
  exact pn (Db hu a w) nofun nofun nofun nofun
 ·rename_i k e a hu
  refine⟨nofun,nofun,.of_pure hv fun w=>?_⟩
  refine pn ?_ nofun nofun nofun nofun;refine pm fun d=>?_
  simp only[Op.equalIn,Sem.run_bind,ax hu,Result.andThen_ok];cases a<;>rfl
 ·rename_i e a _ _ _ _ hu
  refine⟨nofun,nofun,.of_pure hv fun w=>?_⟩
  refine pn ?_ nofun nofun nofun nofun;refine pm fun d=>?_
  simp only[Op.equalIn,Sem.run_bind,ax hu,Result.andThen_ok];cases a<;>rfl
 ·exact hv.elim
theorem uS{w:World}{a b:Addr}(d:d9 w.heap a)(f:d9 w.heap b):(sameAddr a b).run P w=.ok (a==b) w:=by
 obtain⟨i,s,d,t⟩:=d;obtain⟨cb,eb,f,sb⟩:=f;by_cases c:a.block=b.block
 ·simp[sameAddr,c]
 ·have g:(a==b)=false:=by
   rw[beq_eq_false_iff_ne];intro e;exact c (by rw[e])
  have s1:w.shape? a.block=some (s,i.size):=by simp[World.shape?,d]
  have s2:w.shape? b.block=some (eb,cb.size):=by simp[World.shape?,f]
  have p:∀n,w.frozen? ({block:=a.block,off:=n}:Addr)=false:=fun n=>by simp[World.frozen?,d]
  have j:∀n,w.frozen? ({block:=b.block,off:=n}:Addr)=false:=fun n=>by simp[World.frozen?,f]
  have o:w.frozen? a=false:=by simp[World.frozen?,d]
  have q:w.frozen? b=false:=by simp[World.frozen?,f]
  obtain⟨m,hm⟩:∃m,i.size=m+1:=⟨i.size-1,by omega⟩
  obtain⟨n,k⟩:∃n,cb.size=n+1:=⟨cb.size-1,by omega⟩
  simp[sameAddr,c,noView,viewAt,mayBeOne,stringish,s1,s2,p,j,o,q,hm,k,g]
theorem As{t:TypeId}{neg:Bool}{x y:Value}{K:RK}{h:ad}(hv:RE P t neg x y K h):
  (∀c d,x=.agg c→y=.agg d→False)∧(x=.nilIface→y=.nilIface→False)∧Yv P (binOp (bif neg then .neq else .eql) t x y) K h:=by
 unfold RE at hv;split at hv
 ·rename_i a b hu
  refine⟨nofun,nofun,.of_pure hv fun w=>?_⟩
  refine pn ?_ nofun nofun nofun nofun;refine pm fun d=>?_
  simp only[Op.equalIn,Sem.run_bind,ax hu,Result.andThen_ok,Sem.run_pure]
 ·rename_i e a b hu
  obtain⟨hz,i,k⟩:=hv;refine⟨nofun,nofun,_,_,k,i,fun w j=>?_⟩
  refine pn ?_ nofun nofun nofun nofun;have f:bF (bS P e) 0=false:=by
   cases hb:bF (bS P e) 0 with
   |false=>rfl
   |true=>rw[hb]at hz;exact hz.elim
  have g:bS P e≠0:=fun e=>by rw[e]at f;cases f
  refine pm fun d=>?_
  simp only[Op.equalIn,Sem.run_bind,ax hu,Result.andThen_ok];cases a with
  |none=>cases b<;>rfl
  |some a=>cases b with
   |none=>rfl
   |some b=>
    obtain⟨m,n⟩:=j a b rfl rfl;simp only[Sem.run_bind,xn f,Result.andThen_ok,ne_eq,g,not_false_eq_true,if_true,uS m n];rfl
 ·exact hv.elim
theorem JN{e:BinOp}{t:TypeId}{x y:Value}{K:RK}{h:ad}(hv:Sh P e t x y K h):
  (∀c d,x=.agg c→y=.agg d→False)∧(x=.nilIface→y=.nilIface→False)∧Yv P (binOp e t x y) K h:=by
 unfold Sh at hv;split at hv
 ·rename_i k a k' b
  refine⟨nofun,nofun,?_⟩;rw[Dt];split at hv
  ·exact yp (k':=k') (.inl rfl) hv
  ·exact yp (k':=k') (.inr rfl) hv
  ·rename_i h1 h2
   cases hk:Gw k' k with
   |false=>rw[hk]at hv;exact hv.elim
   |true=>rw[hk]at hv;have:=yH hk;subst this;exact Kl hv ⟨h1,h2⟩
 ·exact⟨nofun,nofun,Js hv⟩
 ·split at hv
  ·exact As (neg:=false) hv
  ·exact As (neg:=true) hv
  ·exact hv.elim
theorem HU{u:TypeId}{cs:List Value}{off:Nat}(a:((P.underlying u).isSome&&(P.info? u).isSome)=true){w:World}(b:ul P u=true):
  (part u cs.toArray off).run P w=.ok (.agg ((cs.drop off).take (bS P u)).toArray) w:=by
 simp only[bC,dI]at a;obtain⟨a,i,hi⟩:=a;have c:(sizeOf u).run P w=.ok (bS P u) w:=by simp[sizeOf,cM hi,bS,hi]
 simp only[part,Sem.run_bind,uk hi a,Result.andThen_ok,b,if_true,c,Sem.run_pure];congr 2
 apply cT;simp[ge]
theorem E1{u:TypeId}{cs:List Value}{off:Nat}(a:((P.underlying u).isSome&&(P.info? u).isSome)=true){w:World}(c:ul P u=false){v:Value}(hc:cs[off]? =some v):
  (part u cs.toArray off).run P w=.ok v w:=by
 simp only[bC,dI]at a;obtain⟨a,i,hi⟩:=a;have b:cs.toArray[off]? =some v:=by simpa using hc
 simp only[part,Sem.run_bind,uk hi a,Result.andThen_ok,c,fB,if_false,b,Sem.run_pure]
theorem xu{h:ad}:∀{l m:List (Option Addr×Option Addr)},qs h (l++m)→qs h l∧qs h m
 | [],_,h=>⟨trivial,h⟩
 |(_,_)::_,_,h=>⟨⟨h.1,(xu h.2).1⟩,(xu h.2).2⟩
theorem Ij{t:TypeId}{x y:Value}{b:Bool}{l:List (Option Addr×Option Addr)}(f:Pb P t x y=some (b,l)){w:World}(i:qs w.heap l)(d:Nat):
  (Op.equalIn (d+1) t x y).run P w=.ok b w:=by
 unfold Pb at f;split at f
 ·rename_i k0 k a k' c hu
  cases hk:Gw k' k with
  |false=>rw[hk]at f;cases f
  |true=>
   rw[hk]at f;have:=yH hk;subst this;cases f;exact run_equalIn_int w d t _ _ _ _ hu
 ·rename_i a c hu
  cases f;exact run_equalIn_bool w d t _ _ hu
 ·rename_i a c hu
  cases f;exact run_equalIn_string w d t _ _ hu
 ·rename_i e a c hu
  cases hz:bF (bS P e) 0 with
  |true=>rw[hz]at f;cases f
  |false=>
   rw[hz]at f;cases f;have g:bS P e≠0:=fun e=>by rw[e]at hz;cases hz
   simp only[Op.equalIn,Sem.run_bind,ax hu,Result.andThen_ok];cases a with
   |none=>cases c<;>rfl
   |some a=>cases c with
    |none=>rfl
    |some c=>
     obtain⟨j,m⟩:=i.1 a c rfl rfl;simp only[Sem.run_bind,xn hz,Result.andThen_ok,ne_eq,g,not_false_eq_true,if_true,uS j m];rfl
 ·cases f
theorem Dc{rec:TypeId→List Value→List Value→Option (Bool×List (Option Addr×Option Addr))}{d:Nat}{xs ys:List Value}{w:World}
  (e:∀t us vs b l,rec t us vs=some (b,l)→qs w.heap l→(Op.equalIn (d+1) t (.agg us.toArray) (.agg vs.toArray)).run P w=.ok b w):
  ∀(fs:List Field) (b:Bool) (l:List (Option Addr×Option Addr)),Rb P rec xs ys fs=some (b,l)→qs w.heap l→(Op.eqFields (d+1) xs.toArray ys.toArray fs).run P w=.ok b w
 | [],b,l,he,_=>by cases he;rfl
 |f::fs,b,l,he,hp=>by
  unfold Rb at he;split at he
  ·cases he
  ·rename_i hn
   cases hi:((P.underlying f.type).isSome&&(P.info? f.type).isSome)with
   |false=>rw[hi]at he;cases he
   |true=>
    rw[hi]at he;simp only[cond_true]at he;split at he
    ·rename_i b1 l1 c m e1 e2
     cases he;obtain⟨p1,j⟩:=xu hp;have a:=Dc e fs c m e2 j;have n:∃u v,(part f.type xs.toArray f.offset).run P w=.ok u w∧(part f.type ys.toArray f.offset).run P w=.ok v w∧(Op.equalIn (d+1) f.type u v).run P w=.ok b1 w:=by
      cases ha:ul P f.type with
      |true=>
       rw[ha]at e1;exact⟨_,_,HU hi ha,HU hi ha,e _ _ _ _ _ e1 p1⟩
      |false=>
       rw[ha]at e1;simp only[cond_false]at e1;split at e1
       ·rename_i x y hx hy
        exact⟨x,y,E1 hi ha hx,E1 hi ha hy,Ij e1 p1 d⟩
       ·cases e1
     obtain⟨u,v,k,i,g⟩:=n;simp only[Op.eqFields,ne_eq,hn,not_false_eq_true,if_true,Sem.run_bind,k,i,g,Result.andThen_ok];cases b1
     ·rfl
     ·exact a
    ·cases he
theorem xG{w:World}:∀(m:Nat) (t:TypeId) (xs ys:List Value) (b:Bool) (l:List (Option Addr×Option Addr)),Pc P m t xs ys=some (b,l)→qs w.heap l→
  ∀d,(Op.equalIn (d+m+1) t (.agg xs.toArray) (.agg ys.toArray)).run P w=.ok b w
 |0,_,_,_,_,_,he,_,_=>by cases he
 |m+1,t,xs,ys,b,l,he,hp,d=>by
  unfold Pc at he;split at he
  ·rename_i fs hu
   cases hs:P.stoodInHeld t with
   |true=>rw[hs]at he;cases he
   |false=>
    rw[hs]at he;have a:P.fieldsOf t=fs:=by simp[Program.fieldsOf,hu]
    rw[run_equalIn_struct w _ t _ _ (by rw[a];exact hu) hs,a];exact Dc (d:=d+m) (fun t f vs b l c e=>xG m t f vs b l c e d) fs.toList b l he hp
  ·cases he
theorem Ft{neg b:Bool}{K:RK}{h:ad}{l:List (Option Addr×Option Addr)}(a:UA neg b K h l):∃S,K (.bool (bif neg then !b else b)) S∧PZ S h∧∀h',PZ S h'→qs h' l:=by
 cases l with
 |nil=>exact⟨none,a,trivial,fun _ _=>trivial⟩
 |cons p l=>exact⟨_,a.2,a.1,fun _ h=>h⟩
theorem JO{c:BinOp}{t:TypeId}{xs ys:Array Value}{x y:Operand}{K:RK}{h:ad}(a:Sj P c t xs.toList ys.toList K h):
  ∃v S,K v S∧PZ S h∧∀w:World,PZ S w.heap→(do eqGuard c t x y (.agg xs) (.agg ys);binOp c t (.agg xs) (.agg ys):Sem Value).run P w=.ok v w:=by
 unfold Sj at a;cases hg:P.eqGuardType P.depth t with
 |true=>rw[hg]at a;exact a.elim
 |false=>
  rw[hg]at a;simp only[cond_false]at a;split at a
  ·split at a
   ·rename_i b l he
    obtain⟨S,f,g,e⟩:=Ft a;refine⟨_,S,f,g,fun w d=>?_⟩
    have:=xG 10 t _ _ b l he (e _ d) 9989;simp only[Array.toArray_toList]at this;simp only[Sem.run_bind,run_eqGuard_agg w _ t x y _ _ hg,Result.andThen_ok,run_eql_struct,this];rfl
   ·exact a.elim
  ·split at a
   ·rename_i b l he
    obtain⟨S,f,g,e⟩:=Ft a;refine⟨_,S,f,g,fun w d=>?_⟩
    have:=xG 10 t _ _ b l he (e _ d) 9989;simp only[Array.toArray_toList]at this;simp only[Sem.run_bind,run_eqGuard_agg w _ t x y _ _ hg,Result.andThen_ok,run_neq_struct,this];rfl
   ·exact a.elim
  ·exact a.elim
theorem M0{a:UnOp}{x:Value}{K:RK}{h:ad}(hv:Uh a x K):Yv P (Op.unary a x) K h:=by
 unfold Uh at hv;split at hv
 ·exact .of_pure hv fun w=>rfl
 ·exact .of_pure hv fun w=>rfl
 ·exact .of_pure hv fun w=>rfl
 ·exact hv.elim
theorem Dp:∀(l:List UInt8) (s:ByteArray),(l.map fun b=>((b.toNat:Nat):Int)).foldl (fun r n=>r.push (fH n.toNat)) s=⟨s.data++l.toArray⟩
 | [],s=>by simp
 |b::l,s=>by
  simp only[fQ,List.foldl_cons];rw[Dp l];congr 1
  have:fH ((b.toNat:Nat):Int).toNat=b:=by simp
  rw[this];apply cT;simp[ByteArray.push]
theorem CZ{e:TypeId}(h:Kj P e=true):P.underlying e=some (.int .u8):=by
 unfold Kj at h;split at h
 ·assumption
 ·cases h
theorem HA{w:World}{a:Addr}{vs:List Value}(b:Row w.heap a vs):(loadCells a vs.length).run P w=.ok vs.toArray w:=by
 have:=run_firstCells_some (P:=P) w 1 vs.length a 0 0 vs (by simp) fun j v hv=>by rw[←sB];exact b j v hv
 simpa[Builtin.firstCells]using this
theorem HL{g f:TypeId}{x:Value}{K:RK}{h:ad}(hv:OI P g f x K h):Yv P (convert g f x) K h:=by
 unfold OI at hv;split at hv
 ·rename_i k k' k'' n h1 h2
  exact .of_pure hv fun w=>by simp only[convert,Sem.run_bind,ax h1,ax h2,Result.andThen_ok];rfl
 ·rename_i s h1 h2
  exact .of_pure hv fun w=>by simp only[convert,Sem.run_bind,ax h1,ax h2,Result.andThen_ok];rfl
 ·rename_i e a n c h1 h2
  cases hu:Kj P e with
  |false=>rw[hu]at hv;exact hv.elim
  |true=>
   rw[hu]at hv;obtain⟨s,y,u⟩:=hv;refine⟨_,_,u,y,fun w m=>?_⟩
   rw[run_convert_bytes_string w g f e a n c h1 (CZ hu) h2];obtain⟨p,m⟩:=m;rcases m with o|⟨b,rfl,t⟩
   ·have j:s=ByteArray.empty:=by
     have:s.data.toList= []:=by simpa[dD]using o
     cases s with
     |mk d=>simp at this;subst this;rfl
    cases a with
    |none=>rw[j];rfl
    |some b=>
     have q:n=0:=by rw[←p,o];rfl
     subst q;have:=HA (P:=P) (w:=w) (a:=b) (vs:= []) fun i v hv=>by simp at hv
     rw[run_bytesToString w b 0 c [] (by simpa using this),j];rfl
   ·have:=HA (P:=P) t
    rw[p]at this;rw[run_bytesToString w b n c (s.data.toList.map fun b=>((b.toNat:Nat):Int)) (by rw[this,List.map_map];rfl),Dp]
    cases s;simp[ByteArray.empty,ByteArray.emptyWithCapacity];try rfl
 ·exact hv.elim
theorem JW{u:TypeId}{cs:Array Value}{off:Nat}{K:RK}{h:ad}(b:∃d,P.underlying u=some d)(hi:∃i,P.info? u=some i)
  (hv:bif ul P u then K (.agg ((cs.toList.drop off).take (bS P u)).toArray) none else(match cs.toList[off]? with|some v=>K v none|none=>False)):Yv P (part u cs off) K h:=by
 obtain⟨i,hi⟩:=hi;cases ha:ul P u with
 |true=>
  rw[ha]at hv;refine .of_pure hv fun w=>?_
  have c:(sizeOf u).run P w=.ok (bS P u) w:=by simp[sizeOf,cM hi,bS,hi]
  simp only[part,Sem.run_bind,uk hi b,Result.andThen_ok,ha,if_true,c,Sem.run_pure];congr 2
  apply cT;simp[ge]
 |false=>
  rw[ha]at hv;simp only[cond_false]at hv;cases hc:cs.toList[off]? with
  |none=>rw[hc]at hv;exact hv.elim
  |some v=>
   rw[hc]at hv;refine .of_pure hv fun w=>?_
   have a:cs[off]? =some v:=by simpa using hc
   simp only[part,Sem.run_bind,uk hi b,Result.andThen_ok,ha,fB,if_false,a,Sem.run_pure]
def uJ(P:Program)(v:Option Value)(d y n:Nat):Prop:=
 match v with
 |some x=>∀c w,(Instr.sliceBound x y c).run P w=.ok n w
 |none=>n=d
theorem lP{v:Option Value}{d y:Nat}{K:Nat→Prop}(hv:PO v d y K):∃n,K n∧uJ P v d y n:=by
 unfold PO at hv;split at hv
 ·exact⟨d,hv,rfl⟩
 ·rename_i k i
  obtain⟨⟨e,a⟩,b⟩:=hv;refine⟨i.toNat,b,fun c w=>?_⟩
  simp[Instr.sliceBound,asIntOf,e,a]
 ·exact hv.elim
theorem oC{c:Bool}{len cap n l:Nat}{lo hi:Option Value}(a:uJ P hi len cap n)(b:uJ P lo 0 n l)(w:World):
  (Instr.sliceBounds c len cap lo hi none).run P w=.ok (l,n,cap) w:=by
 cases hi with
 |none=>
  cases lo with
  |none=>simp only[uJ]at a b;subst a;subst b;simp[Instr.sliceBounds]
  |some lo=>simp only[uJ]at a b;subst a;simp[Instr.sliceBounds,b]
 |some hi=>
  cases lo with
  |none=>simp only[uJ]at a b;subst b;simp[Instr.sliceBounds,a]
  |some lo=>simp only[uJ]at a b;simp[Instr.sliceBounds,a,b]
theorem zU{c:Bool}{len cap n l m:Nat}{lo:Option Value}{hi d:Value}(hm:uJ P (some d) 0 cap m)(a:uJ P (some hi) 0 m n)(b:uJ P lo 0 n l)(w:World):
  (Instr.sliceBounds c len cap lo (some hi) (some d)).run P w=.ok (l,n,m) w:=by
 cases lo with
 |none=>simp only[uJ]at hm a b;subst b;simp[Instr.sliceBounds,hm,a]
 |some lo=>simp only[uJ]at hm a b;simp[Instr.sliceBounds,hm,a,b]
theorem xj(a:Option Addr)(l m size:Nat):(if m=l then a else a.map (·.add (l*size)))=bh a l m size:=by
 unfold bh;split
 ·rfl
 ·congr 1;funext x;rw[sB]
theorem oE{t:TypeId}{K:Prop}(h:OV P t K):K∧∀w,(sizeOf t).run P w=.ok (bS P t) w:=by
 unfold OV at h;cases hi:P.info? t with
 |none=>rw[hi]at h;exact h.elim
 |some i=>rw[hi]at h;exact⟨h,fun w=>by simp[sizeOf,cM hi,bS,hi]⟩
theorem Gf{t:TypeId}{x:Value}{f:Nat}{K:RK}{h:ad}(hv:JK P t x f K):Yv P (Instr.field t x f) K h:=by
 unfold JK at hv;split at hv
 ·rename_i u off cs hf
  obtain⟨j,g,b,i,rfl,rfl⟩:=vn hf;cases hb:((P.underlying g.type).isSome&&(P.info? g.type).isSome)with
  |false=>rw[hb]at hv;exact hv.elim
  |true=>
   rw[hb]at hv;simp only[bC,dI]at hb;obtain⟨v,S,e,a,c⟩:=JW (cs:=cs) (off:=g.offset) (h:=h) hb.1 hb.2 hv;refine⟨v,S,e,a,fun w d=>?_⟩
   have:=c w d;simp only[Instr.field,Sem.run_bind,ax b,Result.andThen_ok,i,asAgg,Sem.run_pure,this]
 ·exact hv.elim
theorem Ac{t:TypeId}{x i:Value}{K:RK}{h:ad}(hv:xr P t x i K):Yv P (Instr.indexAt t x i) K h:=by
 unfold xr at hv;split at hv
 ·rename_i n e a k i hu
  obtain⟨⟨⟨d,c⟩,f⟩,hz⟩:=oE hv;refine .of_pure f fun w=>?_
  simp[Instr.indexAt,asIntOf,ax hu,Instr.sureAddr,d,c,hz,sB]
 ·rename_i e b len cap k i hu
  obtain⟨⟨⟨d,c⟩,a,rfl,f⟩,hz⟩:=oE hv;refine .of_pure f fun w=>?_
  simp[Instr.indexAt,asIntOf,ax hu,d,c,hz,sB]
 ·exact hv.elim
theorem Ge{t:TypeId}{x i:Value}{K:RK}{h:ad}(hv:JJ P t x i K):Yv P (Instr.index t x i) K h:=by
 unfold JJ at hv;split at hv
 ·rename_i s k i hu
  obtain⟨b,a,d,c⟩:=hv;refine .of_pure c fun w=>?_
  simp[Instr.index,asIntOf,ax hu,a,d]
 ·exact hv.elim
theorem Gc{t:TypeId}{x:Value}{lo hi d:Option Value}{K:RK}{h:ad}(hv:JH P t x lo hi d K):Yv P (Instr.sliceAt t x lo hi d) K h:=by
 unfold JH at hv;split at hv
 ·rename_i s hu
  cases d with
  |some _=>exact hv.elim
  |none=>
   obtain⟨n,hv,b⟩:=lP (P:=P) hv;obtain⟨l,hv,c⟩:=lP (P:=P) hv;refine .of_pure hv fun w=>?_
   simp[Instr.sliceAt,Instr.slice,ax hu,oC b c]
 ·rename_i e a len cap hu
  obtain⟨hv,hz⟩:=oE hv;cases d with
  |none=>
   obtain⟨n,hv,b⟩:=lP (P:=P) hv;obtain⟨l,hv,c⟩:=lP (P:=P) hv;refine .of_pure hv fun w=>?_
   simp[Instr.sliceAt,Instr.slice,ax hu,oC b c,hz,xj]
  |some m=>
   cases hi with
   |none=>exact hv.elim
   |some hi=>
    obtain⟨g,hv,hm⟩:=lP (P:=P) hv;obtain⟨n,hv,b⟩:=lP (P:=P) hv;obtain⟨l,hv,c⟩:=lP (P:=P) hv;refine .of_pure hv fun w=>?_
    simp[Instr.sliceAt,Instr.slice,ax hu,zU hm b c,hz,xj]
 ·rename_i n e a hu
  obtain⟨hv,hz⟩:=oE hv;cases d with
  |some _=>exact hv.elim
  |none=>
   obtain⟨m,hv,b⟩:=lP (P:=P) hv;obtain⟨l,hv,c⟩:=lP (P:=P) hv;refine .of_pure hv fun w=>?_
   have f:(some (if n=l then a else a.add (l*bS P e)))=bh (some a) l n (bS P e):=by
    rw[←xj];split<;>rfl
   simp[Instr.sliceAt,ax hu,Instr.sureAddr,oC b c,hz,f]
 ·exact hv.elim
def nV(d:TypeDesc)(c:CK):Prop:=(∃i,d=.int i∧c=.int i)∨(d=.string∧c=.str)∨(d=.bool∧c=.bool)
theorem vd{t:TypeId}{c:CK}{e:TypeId}(h:H5 P t=some (c,e)):∃k d,P.underlying t=some (.map k e)∧P.underlying k=some d∧nV d c:=by
 unfold H5 at h;split at h
 ·rename_i k e' hu
  split at h
  ·rename_i i hk
   simp only[bv.injEq,rW.injEq]at h;obtain⟨rfl,rfl⟩:=h;exact⟨k,_,hu,hk,.inl ⟨i,rfl,rfl⟩⟩
  ·rename_i hk
   simp only[bv.injEq,rW.injEq]at h;obtain⟨rfl,rfl⟩:=h;exact⟨k,_,hu,hk,.inr (.inl ⟨rfl,rfl⟩)⟩
  ·rename_i hk
   simp only[bv.injEq,rW.injEq]at h;obtain⟨rfl,rfl⟩:=h;exact⟨k,_,hu,hk,.inr (.inr ⟨rfl,rfl⟩)⟩
  ·cases h
 ·cases h
theorem AZ{d:TypeDesc}{c:CK}(hd:nV d c)(x y:c.den):Instr.sameNow d (c.enc x) (c.enc y)=some (gD (c.enc x) (c.enc y)):=by
 rcases hd with⟨i,rfl,rfl⟩|⟨rfl,rfl⟩|⟨rfl,rfl⟩
 ·simp[Instr.sameNow,CK.enc,gD]
 ·simp[Instr.sameNow,CK.enc,gD]
 ·simp[Instr.sameNow,CK.enc,gD]
theorem Bg{d:TypeDesc}{c:CK}(hd:nV d c)(x:c.den):∀(es:List MapEntry) (i:Nat),CY c es→
  ∃r,Instr.findNow d (c.enc x) es i=some r∧r.map (·.2)=Ii (c.enc x) es
 | [],i,_=>⟨none,rfl,rfl⟩
 |e::es,i,h=>by
  obtain⟨y,f⟩:=h e (by simp);have a:=AZ hd x y;rw[←f]at a;simp only[Instr.findNow,Ii];cases hb:gD (c.enc x) e.key with
  |true=>rw[a,hb];exact⟨some (i,e.val),rfl,rfl⟩
  |false=>rw[a,hb];exact Bg hd x es (i+1) fun e' b=>h e' (by simp[b])
theorem Iz{a:Bool}{k:TypeId}{d:TypeDesc}{c:CK}(hd:nV d c)(b:P.underlying k=some d)(v:Value)(n:Nat)(w:World):(Instr.checkKey a (n+1) k v).run P w=.ok () w:=by
 unfold Instr.checkKey;simp only[Sem.run_bind,ax b,Result.andThen_ok];rcases hd with⟨i,rfl,rfl⟩|⟨rfl,rfl⟩|⟨rfl,rfl⟩<;>rfl
theorem tR{k:TypeId}{d:TypeDesc}{c:CK}(hd:nV d c)(b:P.underlying k=some d)(x:c.den){es:List MapEntry}(h:CY c es)(w:World):
  ∃r,(Instr.findKey k (c.enc x) es).run P w=.ok r w∧Instr.findNow d (c.enc x) es 0=some r∧r.map (·.2)=Ii (c.enc x) es:=by
 obtain⟨r,a,hm⟩:=Bg hd x es 0 h;refine⟨r,?_,a,hm⟩;simp only[Instr.findKey,Sem.run_bind,ax b,Result.andThen_ok,a,Sem.run_pure]
theorem kS{w:World}{r:Nat}{es:Array MapEntry}{a:Nat}(h:w.heap[r]? =some (.map es a)):(getObj r).run P w=.ok (.map es a) w:=by
 simp only[getObj,Sem.run,h]
theorem mE{a:Bool}{k:TypeId}{d:TypeDesc}{c:CK}(hd:nV d c)(b:P.underlying k=some d)(v:Value)(w:World):(Instr.checkKey a 10000 k v).run P w=.ok () w:=
 Iz hd b v 9999 w
theorem Ka{t:TypeId}{c:CK}{e k:TypeId}{d:TypeDesc}(p:P.underlying t=some (.map k e))(f:P.underlying k=some d)(hd:nV d c){m:Option Nat}{x:c.den}{z v:Value}{b o:Bool}{w:World}
  (hz:(zeroValue e).run P w=.ok z w)(hm:KZ c z w.heap m (c.enc x) v b):
  (Instr.lookup t (.map m) (c.enc x) o).run P w=.ok (bif o then .tuple #[v,.bool b]else v) w:=by
 cases m with
 |none=>
  obtain⟨rfl,rfl⟩:=hm;simp only[Instr.lookup,Sem.run_bind,ax p,Result.andThen_ok,Sem.run_pure,mE hd f];obtain⟨r,j,n,a⟩:=tR (P:=P) hd f x (es:= []) (fun _ h=>by cases h) w
  simp only[Instr.findNow,bv.injEq]at n;subst n;simp[j,hz]
 |some r=>
  obtain⟨es,i,q,g,hv⟩:=hm;simp only[Instr.lookup,Sem.run_bind,ax p,Result.andThen_ok,kS q,Sem.run_pure,mE hd f];obtain⟨r,j,n,a⟩:=tR (P:=P) hd f x g w;simp only[j,Result.andThen_ok];cases r with
  |none=>
   simp only[Option.map_none]at a;rw[←a]at hv;obtain⟨rfl,rfl⟩:=hv;simp[hz]
  |some r=>
   simp only[f7]at a;rw[←a]at hv;obtain⟨rfl,rfl⟩:=hv;cases o<;>rfl
theorem eL{e:TypeId}{z:Value}(h:wG P e=some z)(w:World):(zeroValue e).run P w=.ok z w:=by
 unfold wG at h;cases hi:P.info? e with
 |none=>rw[hi]at h;cases h
 |some i=>rw[hi]at h;simp only at h;simp[zeroValue,cM hi,h]
theorem Eb{t:TypeId}{x k:Value}{a:Bool}{K:RK}{h:ad}(hv:Gd P t x k a K h):Yv P (Instr.lookup t x k a) K h:=by
 unfold Gd at hv;split at hv
 ·rename_i c e m hc
  obtain⟨o,d,g,j,hd⟩:=vd hc;obtain⟨n,rfl,hv⟩:=CK.dec_sound hv;split at hv
  ·rename_i ek z hek hz
   obtain⟨y,b,hm,f⟩:=hv;exact⟨_,_,f,hm,fun w i=>Ka g j hd (eL hz w) i⟩
  ·exact hv.elim
 ·exact hv.elim
theorem A5{w:World}{b cap s q:Nat}{buf:Array Value}{a t:Bool}(h:w.heap[b]? =some (.chan cap buf a s q t)):(getObj b).run P w=.ok (.chan cap buf a s q t) w:=by
 simp only[getObj,Sem.run,h]
theorem JI{t:TypeId}{x:Value}{ats:Array TypeId}{ty:TypeId}{K:RK}{h:ad}(a:ats[0]? =some t) (hv:Sf P t x K h):Yv P (Builtin.len_ ats ty #[x]) K h:=by
 unfold Sf at hv;split at hv
 ·rename_i s hu
  exact .of_pure hv fun w=>by simp[Builtin.len_,a,ax hu,goInt]
 ·rename_i n e _ hu
  exact .of_pure hv fun w=>by simp[Builtin.len_,a,ax hu,goInt]
 ·rename_i e b n c hu
  exact .of_pure hv fun w=>by simp[Builtin.len_,a,ax hu,goInt]
 ·rename_i k e m hu
  obtain⟨n,hm,f⟩:=hv;refine⟨_,_,f,hm,fun w d=>?_⟩
  cases m with
  |none=>
   have:n=0:=d;subst this;simp[Builtin.len_,a,ax hu,goInt]
  |some r=>
   obtain⟨es,g,i,rfl⟩:=d;simp[Builtin.len_,a,ax hu,goInt,kS i]
 ·rename_i k e m hu
  obtain⟨n,hm,f⟩:=hv;refine⟨_,_,f,hm,fun w d=>?_⟩
  cases m with
  |none=>
   have:n=0:=d;subst this;simp[Builtin.len_,a,ax hu,goInt]
  |some r=>
   obtain⟨cap,buf,j,s,q,i,rfl⟩:=d;simp[Builtin.len_,a,ax hu,goInt,A5 i]
 ·exact hv.elim
theorem JM{t:TypeId}{x:Value}{ats:Array TypeId}{ty:TypeId}{K:RK}{h:ad}(a:ats[0]? =some t) (hv:Sg P t x K h):Yv P (Builtin.cap_ ats ty #[x]) K h:=by
 unfold Sg at hv;split at hv
 ·rename_i e b n c hu
  exact .of_pure hv fun w=>by simp[Builtin.cap_,a,ax hu,goInt]
 ·rename_i k e m hu
  obtain⟨n,hm,f⟩:=hv;refine⟨_,_,f,hm,fun w d=>?_⟩
  cases m with
  |none=>
   have:n=0:=d;subst this;simp[Builtin.cap_,a,ax hu,goInt]
  |some r=>
   obtain⟨cap,buf,i,s,q,g,rfl⟩:=d;simp[Builtin.cap_,a,ax hu,goInt,A5 g]
 ·exact hv.elim
theorem yC{c:Bool}{k:IntKind}:∀{vs:List Value} {a:Int} {f:Value→Prop},Gs c k a vs f→∃v,f v∧∀w,(vs.foldlM (bif c then Builtin.max2 else Builtin.min2) (Value.int k a):Sem Value).run P w=.ok v w
 | [],a,f,h=>⟨_,h,fun w=>by simp⟩
 | .int k' b::vs,a,f,h=>by
  simp only[Gs]at h;cases hk:Gw k' k with
  |false=>rw[hk]at h;exact h.elim
  |true=>
   rw[hk]at h;have:=yH hk;subst this;obtain⟨v,d,e⟩:=yC h;refine⟨v,d,fun w=>?_⟩
   rw[←e w];cases c<;>simp[List.foldlM_cons,Builtin.max2,Builtin.min2]
theorem wO{a:Bool}{vs:List Value}{f:Value→Prop}{ats:Array TypeId}{ty:TypeId}(h:B4 a vs f):∃v,f v∧∀w,(bif a then Builtin.max_ ats ty vs.toArray else Builtin.min_ ats ty vs.toArray).run P w=.ok v w:=by
 unfold B4 at h;split at h
 ·obtain⟨v,b,c⟩:=yC (P:=P) h
  refine⟨v,b,fun w=>?_⟩
  have:=c w;cases a<;>simpa[Builtin.max_,Builtin.min_]using this
 ·exact h.elim
theorem Nr{a:Addr}{e:MapEntry}{w:World}(g:a.off=0)(h:K2 w.heap a.block e):(Instr.entry (.pointer (some a))).run P w=.ok (.tuple #[e.key,e.val]) w:=by
 obtain⟨m,c,d,last,f,es,hi,n,hm,j⟩:=h;obtain⟨b,off,i⟩:=a;simp only at g hi;subst g;have k:(getObj b).run P w=.ok (.mapIter (some m) c d last) w:=by simp only[getObj,Sem.run,hi]
 simp[Instr.entry,k,n,kS hm,j]
def EA:DV→Value→Prop
 | .t,v=>v=.bool true
 | .f,v=>v=.bool false
 | .u,v=>v=undef
 | .x,_=>True
def DecOk(d:tD)(r:cA):Prop:=∀t,pP d t=.x∨∃v,jE r t=some v∧EA (pP d t) v
theorem DecOk.at{d:tD}{r:cA}(h:DecOk d r){t:Nat}{v:Value}(hv:jE r t=some v):EA (pP d t) v:=by
 rcases h t with e|⟨u,a,b⟩
 ·rw[e];trivial
 ·rw[hv]at a;cases a;exact b
theorem sO{d:tD}{r:cA}(hd:DecOk d r){o:Operand}{v:Value}(h:dh r o=some v):EA (yR d o) v:=by
 cases o with
 |tmp t=>exact hd.at h
 |const c=>
  simp[dh]at h;subst h;cases c with
  |bool b=>cases b<;>exact rfl
  |_=>trivial
 |global g=>trivial
 |func f=>trivial
theorem Bb{t:TypeId}(h:pg P t=true):∃d,P.underlying t=some d∧∀m,d≠ .interface m:=by
 unfold pg at h;split at h
 ·cases h
 ·rename_i d hd;exact⟨_,hd,fun m e=>by subst e;simp_all⟩
 ·cases h
theorem yF{t:TypeId}{v:Value}(h:pg P t=true)(w:World):(Instr.makeInterface t v).run P w=.ok (.iface t v) w:=by
 obtain⟨d,hd,a⟩:=Bb h;simp only[Instr.makeInterface,Sem.run_bind,ax hd,Result.andThen_ok];cases d<;>first|exact absurd rfl (a _)|rfl
theorem Co{t u:TypeId}{v:Value}(h:pg P t=true)(w:World):(Instr.typeAssert (.iface t v) u t false).run P w=.ok v w:=by
 obtain⟨d,hd,a⟩:=Bb h;simp only[Instr.typeAssert,Sem.run_bind,ax hd,Result.andThen_ok];cases d<;>first|exact absurd rfl (a _)|(simp[Sem.run_pure])
theorem jC{t:TypeId}{z:List Value}(h:pz P t=some z):∃v,wG P t=some v∧v.cells.toList=z:=by
 unfold pz at h;cases hz:wG P t with
 |none=>rw[hz]at h;cases h
 |some v=>rw[hz]at h;simp only[bv.injEq]at h;exact⟨v,rfl,h⟩
theorem pZ{t:TypeId}{v:Value}(h:wG P t=some v):∃i,P.info? t=some i∧i.zero=some v:=by
 unfold wG at h;cases hi:P.info? t with
 |none=>rw[hi]at h;cases h
 |some i=>rw[hi]at h;exact⟨i,rfl,h⟩
theorem PA{A B:List Value}{x:Value}{m:Nat}(h:A.length=m):(A++x::B).take (m+1)=A++ [x]:=by
 subst h;rw[List.take_append,bB (by omega),show A.length+1-A.length=1 by omega];rfl
theorem PB{A B:List Value}{x:Value}{m n:Nat}(h:A.length=m):(A++x::B).drop (m+1+n)=B.drop n:=by
 subst h;rw[List.drop_append,List.drop_eq_nil_of_le (by omega),show A.length+1+n-A.length=n+1 by omega];rfl
theorem Ig(off:Nat):∀(xs:List Value) (k:Nat) (arr:Array Value),off+k+xs.length≤arr.size→
  (xs.zipIdx k).foldl (fun cs (c,j)=>cs.setIfInBounds (off+j) c) arr=(HO arr.toList (off+k) xs).toArray
 | [],k,arr,_=>by simp[HO]
 |x::xs,k,arr,h=>by
  simp only[aN]at h;simp only[List.zipIdx_cons,List.foldl_cons];rw[Ig off xs (k+1) _ (by simp;omega)];have hm:off+k<arr.toList.length:=by simp;omega
  have b:arr.toList.set (off+k) x=arr.toList.take (off+k)++x::arr.toList.drop (off+k+1):=by
   rw[List.set_eq_take_append_cons_drop,if_pos hm]
  have a:(arr.toList.take (off+k)).length=off+k:=by simp;omega
  congr 1
  unfold HO;rw[Array.toList_setIfInBounds,b,←kB,PA a,PB a];simp only[List.append_assoc,cQ,List.nil_append,aN,List.drop_drop];rw[show off+k+1+xs.length=off+k+(xs.length+1) by omega]
theorem re{a:Nat→Option (Nat×Nat)}:∀(parts:List (Nat×Value)) (cs cs':List Value),Bh a cs parts=some cs'→Instr.fill a cs.toArray parts=some cs'.toArray
 | [],cs,cs',h=>by simp only[Bh,bv.injEq]at h;subst h;rfl
 |(i,v)::rest,cs,cs',h=>by
  simp only[Bh]at h;cases hp:a i with
  |none=>rw[hp]at h;cases h
  |some os=>
   obtain⟨off,size⟩:=os;rw[hp]at h;simp only at h;cases hb:(bF v.cells.toList.length size&&uo (off+v.cells.toList.length) cs.length)with
   |false=>rw[hb]at h;cases h
   |true=>
    rw[hb]at h;simp only[bC]at hb;have f:=aZ hb.1;have g:=gi hb.2;have c:=re rest _ _ h;have e:v.cells.size=size:=by simpa using f
    have d:off+v.cells.size≤cs.length:=by simpa using g
    have b:Array.foldl (fun cs x=>cs.setIfInBounds (off+x.2) x.1) cs.toArray v.cells.zipIdx=(HO cs off v.cells.toList).toArray:=by
     have:=Ig off v.cells.toList 0 cs.toArray (by simpa using d);simp only[cZ]at this;rw[←this,←Array.foldl_toList];congr 1
     simp[Array.toList_zipIdx]
    simp only[Instr.fill,hp];rw[if_neg (by simp[e];omega)];simp only[b];exact c
theorem nG{N:Nat}{r:cA}{a:Act}(h:Agree N r a):∀{ps:List (Nat×Operand)} {vs:List (Nat×Value)},pe r ps=some vs→ps.map (fun p=>(p.1,a.eval p.2))=vs
 | [],vs,hv=>by simp[pe]at hv;subst hv;rfl
 |(i,o)::ps,vs,hv=>by
  simp only[pe]at hv;cases ho:dh r o with
  |none=>simp[ho]at hv
  |some v=>cases hos:pe r ps with
   |none=>simp[ho,hos]at hv
   |some us=>simp[ho,hos]at hv;subst hv;simp[jF h ho,nG h hos]
theorem ph{t:TypeId}(h:vW P t=true)(w:World):(sizeOf t).run P w=.ok (bS P t) w:=by
 unfold vW at h;cases hi:P.info? t with
 |none=>rw[hi]at h;cases h
 |some i=>simp[sizeOf,cM hi,bS,hi]
theorem CM(w:World):∀l:List Field,yY P l=true→(l.mapM fun f:Field=>((do pure (f.offset,←sizeOf f.type)):Sem (Nat×Nat))).run P w=.ok (l.map fun f:Field=>(f.offset,bS P f.type)) w
 | [],_=>rfl
 |f::l,h=>by
  simp only[yY]at h;cases hf:vW P f.type with
  |false=>rw[hf]at h;cases h
  |true=>
   rw[hf]at h;rw[List.mapM_cons];simp only[Sem.run_bind,ph hf,Result.andThen_ok,Sem.run_pure,CM w l h,fQ]
theorem yW{t:TypeId}{ps:Array (Nat×Value)}{cs:List Value}(a:GL P t ps.toList=some cs)(w:World):
  (Instr.build t ps).run P w=.ok (.agg cs.toArray) w:=by
 unfold GL at a;split at a
 ·rename_i fs z hu hz
  obtain⟨v,hz,hv⟩:=jC hz;cases ha:yY P fs.toList with
  |false=>rw[ha]at a;cases a
  |true=>
   rw[ha]at a;have g:(fs.mapM fun f:Field=>((do pure (f.offset,←sizeOf f.type)):Sem (Nat×Nat))).run P w=.ok (fs.map fun f:Field=>(f.offset,bS P f.type)) w:=by
    rw[Array.mapM_eq_mapM_toList];simp only[Sem.run_map,CM w fs.toList ha,Result.andThen_ok];congr 1
    apply cT;simp
   have d:=re _ _ _ a;have b:(fun i:Nat=>(fs.map fun f:Field=>(f.offset,bS P f.type))[i]?)=JU P fs.toList:=by
    funext i;unfold JU;rw[Array.getElem?_map,bp];cases fs[i]?<;>rfl
   have c:v.cells=z.toArray:=by rw[←hv]
   rw[cond_true]at a;rw[←b]at d;simp only[Instr.build,Sem.run_bind,eL hz,Result.andThen_ok,ax hu,g,c,d,Sem.run_pure]
 ·rename_i n e z hu hz
  obtain⟨v,hz,hv⟩:=jC hz;cases ha:vW P e with
  |false=>rw[ha]at a;cases a
  |true=>
   rw[ha]at a;have d:=re _ _ _ a;have c:v.cells=z.toArray:=by rw[←hv]
   simp only[Instr.build,Sem.run_bind,eL hz,Result.andThen_ok,ax hu,ph ha,c,d,Sem.run_pure]
 ·cases a
theorem Ab{ek:Option (Kind×Kind)}{o:Oper}{r:cA}{K:RK}{h:ad}{N:Nat}{a:Act}(Q:Agree N r a)(g:zN P ek o.op r K h)(d:tD)(hd:DecOk d r):
  ∃v S,K v S∧PZ S h∧EA (Hh d o.op) v∧∀w:World,PZ S w.heap→(execOp a.eval o).run P w=.ok (.value v) w:=by
 have j:∀{x:Operand} {v:Value},dh r x=some v→a.eval x=v:=fun h=>jF Q h
 have fin:∀{s:Sem Value},Yv P s K h→Hh d o.op=.x→(∀w,(execOp a.eval o).run P w=(do pure (Next.value (←s)):Sem Next).run P w)→
   ∃v S,K v S∧PZ S h∧EA (Hh d o.op) v∧∀w:World,PZ S w.heap→(execOp a.eval o).run P w=.ok (.value v) w:=by
  rintro s ⟨v,S,n,B,z⟩ hx F;exact⟨v,S,n,B,by rw[hx];trivial,fun w C=>by rw[F w];exact iA (z w C)⟩
 obtain⟨O,L,type,mW,E,G⟩:=o;simp only at g fin⊢;cases L with
 |move x=>
  simp only[zN]at g;split at g
  ·rename_i v hv
   exact⟨v,none,g,trivial,sO hd hv,fun w _=>by simp[execOp,j hv]⟩
  ·exact g.elim
 |assign x=>
  simp only[zN]at g;split at g
  ·rename_i v hv
   exact⟨v,none,g,trivial,sO hd hv,fun w _=>by simp[execOp,j hv]⟩
  ·exact g.elim
 |pick c x y=>
  simp only[zN]at g;split at g
  ·rename_i vc va vb hc hx R
   unfold Rx at g;split at g
   ·rename_i cb
    have H:=sO hd hc;have W:=sO hd hx;have X:=sO hd R;have F:∀w,(execOp a.eval ⟨O,.pick c x y,type,mW,E,G⟩).run P w=.ok (.value (if cb then va else vb)) w:=fun w=>by
     simp[execOp,j hc,j hx,j R,asBool]
    have J:EA (Hh d (.pick c x y)) (if cb then va else vb):=by
     simp only[Hh];cases hcd:yR d c with
     |t=>
      rw[hcd]at H;have:cb=true:=by simpa[EA]using H
      subst this;exact W
     |f=>
      rw[hcd]at H;have:cb=false:=by simpa[EA]using H
      subst this;exact X
     |u=>trivial
     |x=>trivial
    split at g
    ·rename_i bx by'
     have M:(if cb=true then Value.bool bx else Value.bool by')=.bool (bif cb then bx else by'):=by cases cb<;>rfl
     rw[M]at J;exact⟨_,none,g,trivial,J,fun w _=>by rw[F w,M]⟩
    ·cases cb
     ·exact⟨_,none,g,trivial,J,fun w _=>F w⟩
     ·exact⟨_,none,g,trivial,J,fun w _=>F w⟩
   ·exact g.elim
  ·exact g.elim
 |load t x=>
  simp only[zN]at g;split at g
  ·rename_i v hv
   obtain⟨u,S,n,B,z⟩:=A7 g;exact fin ⟨u,some S,n,B,z⟩ rfl fun w=>by simp only[execOp,j hv]
  ·exact g.elim
 |nilCheck x=>
  simp only[zN]at g;split at g
  ·rename_i p hv
   obtain⟨b,rfl,n⟩:=g;exact⟨_,none,n,trivial,trivial,fun w _=>by simp[execOp,j hv]⟩
  ·exact g.elim
 |binOp L t x y yt=>
  simp only[zN]at g;split at g
  ·rename_i v u hv hu
   obtain⟨Z,S,n,B,z⟩:=JO (x:=x) (y:=y) g;refine⟨Z,S,n,B,trivial,fun w C=>?_⟩
   simp only[execOp,j hv,j hu];exact iA (z w C)
  ·rename_i v u hna hv hu
   have go:(∀c d,v=.agg c→u=.agg d→False)∧(v=.nilIface→u=.nilIface→False)∧Yv P (binOp L t v u) K h:=by
    split at g
    ·exact CR (neg:=false) g
    ·exact CR (neg:=true) g
    ·exact JN g
   obtain⟨h1,h2,Z,S,n,B,z⟩:=go;refine⟨Z,S,n,B,trivial,fun w C=>?_⟩
   simp only[execOp,j hv,j hu];simp[KB L t x y v u h1 h2 w,z w C]
  ·exact g.elim
 |unOp L t x=>
  simp only[zN]at g;split at g
  ·rename_i v hv
   obtain⟨u,S,n,B,z⟩:=M0 (P:=P) (h:=h) g;refine⟨u,S,n,B,?_,fun w C=>by simp only[execOp,j hv];exact iA (z w C)⟩
   have I:=sO hd hv;cases L<;>try trivial
   simp only[Hh];have A:=z {(default:World)with heap:=h} B;cases hx:yR d x with
   |t=>
    rw[hx]at I;have:v=.bool true:=I;subst this;simp[Op.unary]at A;exact A.symm
   |f=>
    rw[hx]at I;have:v=.bool false:=I;subst this;simp[Op.unary]at A;exact A.symm
   |u=>trivial
   |x=>trivial
  ·exact g.elim
 |convert s t x=>
  simp only[zN]at g;split at g
  ·rename_i v hv
   exact fin (HL g) rfl fun w=>by simp only[execOp,j hv]
  ·exact g.elim
 |extract x i=>
  simp only[zN]at g;split at g
  ·rename_i vs hv
   split at g
   ·rename_i u hu
    have T:vs[i]? =some u:=by simpa using hu
    exact⟨u,none,g,trivial,trivial,fun w _=>by simp[execOp,j hv,Instr.extract,T]⟩
   ·exact g.elim
  ·exact g.elim
 |fieldAddr t x f=>
  simp only[zN]at g;split at g
  ·rename_i b u off hv hf
   exact fin (BJ hf g) rfl fun w=>by simp only[execOp,j hv]
  ·exact g.elim
 |field t x f=>
  simp only[zN]at g;split at g
  ·rename_i v hv
   exact fin (Gf g) rfl fun w=>by simp only[execOp,j hv]
  ·exact g.elim
 |indexAddr t x i=>
  simp only[zN]at g;split at g
  ·rename_i v u hv hu
   exact fin (Ac g) rfl fun w=>by simp only[execOp,j hv,j hu]
  ·exact g.elim
 |index t x i=>
  simp only[zN]at g;split at g
  ·rename_i v u hv hu
   exact fin (Ge g) rfl fun w=>by simp only[execOp,j hv,j hu]
  ·exact g.elim
 |slice t x lo hi mx=>
  simp only[zN]at g;split at g
  ·rename_i v l h' m hv hl hh hm
   have Y:∀{x:Option Operand} {v:Option Value},E2 r x=some v→x.map a.eval=v:=by
    intro x v hx;cases x with
    |none=>simp[E2]at hx;subst hx;rfl
    |some x=>
     simp only[E2]at hx;cases F:dh r x with
     |none=>simp[F]at hx
     |some u=>simp[F]at hx;subst hx;simp[j F]
   exact fin (Gc g) rfl fun w=>by simp only[execOp,j hv,Y hl,Y hh,Y hm]
  ·exact g.elim
 |lookup t x k ok=>
  simp only[zN]at g;split at g
  ·rename_i v u hv hu
   exact fin (Eb g) rfl fun w=>by simp only[execOp,j hv,j hu]
  ·exact g.elim
 |makeInterface t x=>
  simp only[zN]at g;split at g
  ·rename_i v hv
   cases hb:pg P t with
   |false=>rw[hb]at g;exact g.elim
   |true=>
    rw[hb,cond_true]at g;exact⟨_,none,g,trivial,trivial,fun w _=>by simp only[execOp,j hv];exact iA (yF hb w)⟩
  ·exact g.elim
 |typeAssert x u t ok=>
  simp only[zN]at g;split at g
  ·rename_i v hv
   cases ok with
   |true=>exact g.elim
   |false=>
    rw[cond_false]at g;unfold LU at g;cases hb:pg P t with
    |false=>rw[hb]at g;exact g.elim
    |true=>
     rw[hb,cond_true]at g;split at g
     ·obtain⟨y,rfl,n⟩:=g
      exact⟨_,none,n,trivial,trivial,fun w _=>by simp only[execOp,j hv];exact iA (Co hb w)⟩
     ·exact g.elim
  ·exact g.elim
 |makeFunc fn first cap=>
  simp only[zN]at g;split at g
  ·rename_i vs us hv hu
   have M:=lF Q hv;have e2:=lF Q hu;refine⟨_,none,g,trivial,trivial,fun w _=>?_⟩
   have V:first.map a.eval=vs.toArray:=by rw[←M];apply cT;simp
   have f2:cap.map a.eval=us.toArray:=by rw[←e2];apply cT;simp
   simp[execOp,Instr.makeFunc,V,f2]
  ·exact g.elim
 |entry it=>
  simp only[zN]at g;split at g
  ·rename_i b kk vk hv
   obtain⟨h0,e,x,y,hi,n,R,hK⟩:=g;refine⟨_,_,hK,hi,trivial,fun w C=>?_⟩
   simp only[execOp,j hv];refine iA ?_;rw[Nr h0 C,n,R]
  ·exact g.elim
 |call c=>
  simp only[zN]at g;have D:∀{b:Builtin} {vs:List Value},c.callee=.builtin b→mV r c.args.toList=some vs→∃cs:Array Bool,∀w,(execOp a.eval ⟨O,.call c,type,mW,E,G⟩).run P w=
    (builtin b c.argTypes type cs vs.toArray).run P w:=by
   intro b vs hc q;have M:=lF Q q;have V:c.args.map a.eval=vs.toArray:=by rw[←M];apply cT;simp
   refine⟨c.args.map fun| .const _=>true|_=>false,fun w=>?_⟩
   simp[execOp,resolve,hc,V,invoke];rfl
  split at g
  ·rename_i v t hc q hat
   obtain⟨cs,D⟩:=D hc q;obtain⟨u,S,n,B,z⟩:=JI (ats:=c.argTypes) (ty:=type) (by rw[←bp,hat];rfl) g;exact⟨u,S,n,B,trivial,fun w C=>by rw[D w];simp only[builtin];exact iA (z w C)⟩
  ·rename_i v t hc q hat
   obtain⟨cs,D⟩:=D hc q;obtain⟨u,S,n,B,z⟩:=JM (h:=h) (ats:=c.argTypes) (ty:=type) (by rw[←bp,hat];rfl) g;exact⟨u,S,n,B,trivial,fun w C=>by rw[D w];simp only[builtin];exact iA (z w C)⟩
  ·rename_i vs hc q
   obtain⟨cs,D⟩:=D hc q;obtain⟨u,n,z⟩:=wO (P:=P) (ats:=c.argTypes) (ty:=type) g;exact⟨u,none,n,trivial,trivial,fun w _=>by rw[D w];simp only[builtin];exact iA (z w)⟩
  ·rename_i vs hc q
   obtain⟨cs,D⟩:=D hc q;obtain⟨u,n,z⟩:=wO (P:=P) (ats:=c.argTypes) (ty:=type) g;exact⟨u,none,n,trivial,trivial,fun w _=>by rw[D w];simp only[builtin];exact iA (z w)⟩
  ·exact g.elim
 |build t ps=>
  simp only[zN]at g;split at g
  ·rename_i vs q
   split at g
   ·rename_i cs hcs
    refine⟨_,none,g,trivial,trivial,fun w _=>?_⟩
    have hp:(ps.map fun x=>(x.1,a.eval x.2))=vs.toArray:=by
     rw[←nG Q q];apply cT;simp
    have F:=yW (ps:=vs.toArray) (by simpa using hcs) w;simp only[execOp];rw[show(ps.map fun(i,x)=>(i,a.eval x))=vs.toArray from hp]
    exact iA F
   ·exact g.elim
  ·exact g.elim
 |_=>simp only[zN]at g
end Go.Lift
namespace Go.Lift
open Go
variable {P:Program}
def IE(P:Program)(s:Sem Next)(K:WK)(w:World):Prop:=
 (∃v w',s.run P w=.ok (.value v) w'∧Tame w w'∧K v w'.heap)∨
 (∃w',s.run P w=.ok .skip w'∧Tame w w'∧K undef w'.heap)∨
 (∃f args,s.run P w=.ok (.enter f args) w∧Calls P f args w fun e w'=>Tame w w'∧∃v,e=.returned v∧K v w'.heap)∨
 (∃l fn tmps assign body,s.run P w=.ok (.round l fn tmps assign body) w∧
  ∀(c:Frame) (cs:List Frame),∃b w',Tame w w'∧K (.bool b) w'.heap∧Steps P (lone (Frame.round l fn tmps assign body .normal) (c::cs) w) (lone (c.finish (.bool b)) cs w'))
def Wv(P:Program)(s:Sem Value)(K:WK)(w:World):Prop:=∃v w',s.run P w=.ok v w'∧Tame w w'∧K v w'.heap
theorem Wv.out{s:Sem Value}{K:WK}{w:World}(h:Wv P s K w):IE P (do pure (Next.value (←s))) K w:=by
 obtain⟨v,w',b,c,a⟩:=h;exact .inl ⟨v,w',iA b,c,a⟩
def Wu(P:Program)(s:Sem Unit)(K:WK)(w:World):Prop:=∃w',s.run P w=.ok () w'∧Tame w w'∧K undef w'.heap
theorem Wu.out{s:Sem Unit}{K:WK}{w:World}(h:Wu P s K w):IE P (do s;pure Next.skip) K w:=by
 obtain⟨w',b,c,a⟩:=h;exact .inr (.inl ⟨w',OA b,c,a⟩)
def jD(w:World)(h:ad):World:={w with heap:=h}
theorem eC(w:World)(h:ad):Tame w (jD w h):=⟨rfl,rfl,rfl⟩
theorem jM(e:TypeId)(cs:Array Value)(w:World):(newRow e cs).run P w=.ok (aC w.heap) (jD w (hnew w.heap cs.toList e)):=by
 simp[newRow,newObj,Sem.run,aC,jD,hnew,bind,Sem.bind,pure]
theorem CD(o:Obj)(w:World):(newObj o).run P w=.ok w.heap.size (jD w (w.heap.push o)):=rfl
theorem Eh{h:ad}{a b:Addr}(v:Value)(c:a≠b):aM (hset h a v) b=aM h b:=
 World.cell?_setCell_other {(default:World)with heap:=h} a b v c
theorem BI{h:ad}{a:Addr}{u:Value}(v:Value)(hc:aM h a=some u):aM (hset h a v) a=some v:=
 World.cell?_setCell_same {(default:World)with heap:=h} a v hc
theorem Gy{h:ad}{a b:Addr}(v:Value):B8 (hset h a v) b=B8 h b:=
 World.frozen?_setCell {(default:World)with heap:=h} a b v
theorem Wr.hset{h:ad}{a b:Addr}(v:Value)(f:Wr h b):Wr (hset h a v) b:=by
 obtain⟨⟨u,c⟩,d⟩:=f;refine⟨?_,by rw[Gy];exact d⟩
 by_cases e:a=b
 ·subst e;exact⟨v,BI v c⟩
 ·exact⟨u,by rw[Eh v e];exact c⟩
theorem JC{w:World}{a:Addr}{v:Value}(hv:∀cs,v≠ .agg cs)(c:∀cs,v≠ .tuple cs)(g:Wr w.heap a):(store a v).run P w=.ok () (jD w (hset w.heap a v)):=by
 obtain⟨⟨u,f⟩,e⟩:=g;have d:w.cell? a=some u:=f;have b:w.frozen? a=false:=e;cases v<;>first|exact absurd rfl (hv _)|exact absurd rfl (c _)|(simp only[store,Sem.run,d,b];rfl)
theorem Gn{v:Value}{vs:List Value}(h:ce (v::vs)=true):(∀cs,v≠ .agg cs)∧(∀cs,v≠ .tuple cs)∧ce vs=true:=by
 simp only[ce,bC]at h;refine⟨fun cs e=>?_,fun cs e=>?_,h.2⟩<;>(subst e;exact absurd h.1 (by simp))
theorem qp{a:Addr}:∀(vs:List Value) (i:Nat) (w:World),ce vs=true→(∀j,j<vs.length→Wr w.heap (adr a (i+j)))→
  (storeCells a vs i).run P w=.ok () (jD w (gT w.heap a i vs))
 | [],i,w,_,_=>rfl
 |v::vs,i,w,b,hw=>by
  obtain⟨f,e,b⟩:=Gn b;have c:=hw 0 (by simp);simp only[cZ]at c;have d:a.add i=adr a i:=(sB a i).symm;simp only[storeCells,d,Sem.run_bind,JC f e c,Result.andThen_ok];rw[qp vs (i+1) (jD w (hset w.heap (adr a i) v)) b fun j g=>?_]
  ·rfl
  ·have:=hw (j+1) (by simp only[aN];omega)
   rw[show i+1+j=i+(j+1) by omega]
   exact this.hset v
theorem Fj{a:Addr}(m:Nat):∀(vs:List Value) (i:Nat) (h:ad),gT h (adr a m) i vs=gT h a (m+i) vs
 | [],_,_=>rfl
 |v::vs,i,h=>by
  simp only[gT];rw[Fj m vs (i+1),y3];rfl
theorem FT{t:TypeId}{a v:Value}{K:WK}{w:World}(c:Jm P t a v K w.heap):Wu P (Instr.storeAt t a v) K w:=by
 unfold Jm at c;split at c
 ·rename_i a
  cases hb:(bF v.cells.toList.length (bS P t)&&ce v.cells.toList)with
  |false=>rw[hb]at c;exact c.elim
  |true=>
   rw[hb]at c;simp only[bC]at hb;have n:=aZ hb.1;obtain⟨c,hz⟩:=oE c;have k:v.cells.size=bS P t:=by simpa using n
   have m:(∀j,j<v.cells.toList.length→Wr w.heap (adr a (0+j)))→(Instr.storeAt t (.pointer (some a)) v).run P w=.ok () (jD w (gT w.heap a 0 v.cells.toList)):=by
    intro d;have:=qp (P:=P) v.cells.toList 0 w hb.2 d;simp[Instr.storeAt,Instr.sureAddr,storeVar,hz,k,this]
   split at c
   ·rename_i u hu
    obtain⟨d,i⟩:=c;refine⟨_,m (fun j f=>?_),eC _ _,?_⟩
    ·rw[hu]at f;simp only[aN,List.length_nil]at f
     obtain rfl:j=0:=by omega
     exact d
    ·rw[hu];exact i
   ·obtain⟨d,i⟩:=c
    refine⟨_,m (fun j f=>?_),eC _ _,i⟩
    rcases d with e|⟨b,g,d⟩
    ·rw[e]at f;cases f
    ·cases g;exact d j f
 ·exact c.elim
theorem jd(z:Array Value)(n:Nat):(Builtin.zeroCells z n).toList=dy n z.toList:=by
 have key:∀n,(List.range (n*z.size)).map (fun i=>z[i%z.size]!)=(dE n z.toList).flatten:=by
  intro n;induction n with
  |zero=>simp
  |succ n ih=>
   rw[Nat.succ_mul,List.range_add,List.map_append,ih,List.replicate_succ',List.flatten_append];congr 1
   simp only[List.map_map,List.flatten_cons,List.flatten_nil,List.append_nil];apply List.ext_getElem
   ·simp
   ·intro i a b
    simp only[List.length_map,List.length_range]at a;simp[Nat.mod_eq_of_lt a,a,Nat.add_mod]
 simpa[Builtin.zeroCells,dy]using key n
theorem dB{t e:TypeId}(h:uz P t=some e):P.underlying t=some (.slice e):=by
 unfold uz at h;split at h
 ·rename_i e' hu;simp only[bv.injEq]at h;subst h;exact hu
 ·cases h
theorem LB{z:Value}{n:Nat}:((Array.range (n*z.cells.size)).map (z.cells[· %z.cells.size]!))=(dy n z.cells.toList).toArray:=by
 have:=jd z.cells n;unfold Builtin.zeroCells at this;apply cT;rw[this]
theorem Ax{t e:TypeId}{n:Nat}{ps:Array (Nat×Value)}{z cs:List Value}(p:uz P t=some e)(hz:pz P e=some z)(q:n*bS P e≤16777216)(j:z.length=bS P e)
  (m:Bh (fun i=>some (i*bS P e,bS P e)) (dy n z) ps.toList=some cs)(w:World):
  (Instr.buildSlice t n ps).run P w=.ok (.slice (some (aC w.heap)) n n) (jD w (hnew w.heap cs e)):=by
 obtain⟨v,hv,c⟩:=jC hz;obtain⟨i,hi,k⟩:=pZ hv;have o:(sizeOf e).run P w=.ok (bS P e) w:=by simp[sizeOf,cM hi,bS,hi]
 have f:v.cells.size=bS P e:=by rw[←j,←c];simp
 have g:=re _ _ _ m;have a:((Array.range (n*bS P e)).map (fun i=>(if n*bS P e=0 then #[]else v.cells)[i%(if n*bS P e=0 then #[]else v.cells).size]!))=(dy n z).toArray:=by
  by_cases b:n*bS P e=0
  ·have:(dy n z).length=0:=by simp[dy,j,b]
   rw[bV.1 this];simp[b]
  ·simp only[if_neg b]
   rw[←f,LB,c]
 have d:¬(n*bS P e>2^24):=by omega
 simp only[Instr.buildSlice,Sem.run_bind,ax (dB p),Result.andThen_ok,o,if_neg d];by_cases b:n*bS P e=0
 ·simp only[if_pos b]at a
  simp only[if_pos b,Sem.run_bind,Sem.run_pure,Result.andThen_ok,a,g,jM]
 ·simp only[if_neg b]at a
  simp only[if_neg b,Sem.run_bind,Sem.run_pure,Result.andThen_ok,eL hv,a,g,jM]
theorem MW{h:ad}{a:Addr}{vs:List Value}(b:Row h a vs):∀j v,vs[j]? =some v→aM h (a.add j)=some v:=fun j v hv=>by
 rw[←sB];exact b j v hv
theorem vR{size n cap len:Nat}{b:Option Addr}{vs:List Value}{w:World}(c:SRow w.heap b (n*size) vs):(Builtin.firstCells size n (.slice b len cap)).run P w=.ok vs.toArray w:=by
 obtain⟨d,a⟩:=c;cases b with
 |none=>
  rcases a with rfl|⟨_,h,_⟩
  ·simp[Builtin.firstCells]
  ·cases h
 |some b=>
  refine run_firstCells_some w size n b len cap vs d fun j v hv=>?_
  rcases a with rfl|⟨_,h,a⟩
  ·cases hv
  ·cases h;exact MW a j v hv
theorem Ct{a:Addr}{m:Nat}{xs:List Value}{w:World}(e:ce xs=true)(c:sS w.heap (some a) m xs):
  (storeCells (a.add m) xs).run P w=.ok () (jD w (gT w.heap a m xs)):=by
 rcases c with rfl|⟨b,f,c⟩
 ·rfl
 ·cases f
  have:=qp (P:=P) (a:=adr a m) xs 0 w e fun j d=>by rw[y3,aE];exact c j d
  rw[←sB,this,Fj,cZ]
set_option maxHeartbeats 1000000 in
theorem Dv{t e u ty:TypeId}{b:Option Addr}{sl f d:Nat}{xs:List Value}{x:Value}{K:WK}{w:World}(G:uz P t=some e)(k:(∃e',P.underlying u=some (.slice e'))∨P.underlying u=some .string)
  (g:∀w,(Builtin.lenOf x).run P w=.ok d w)(hx:∀w':World,w'.heap=w.heap→(Builtin.firstCells (bS P e) d x).run P w'=.ok xs.toArray w')
  (hi:∃i,P.info? e=some i)
  (h:PS P e b sl f d xs K w.heap):Wv P (Builtin.append_ #[t,u] ty #[.slice b sl f,x]) K w:=by
 obtain⟨i,hi⟩:=hi;have j:bS P e=i.size:=by simp[bS,hi]
 have E:pE P e=i.bytes:=by simp[pE,hi]
 by_cases hc:sl+d≤f
 ·obtain⟨I,L,C⟩:=h.1 hc
  refine⟨_,_,?_,eC w (fF w.heap b (sl*bS P e) xs),C⟩;cases b with
  |none=>
   have c:=hx w rfl;rw[j]at c;rcases k with⟨e',hd⟩|hd<;>(simp[Builtin.append_,ax (dB G),ax hd,sizeOf,cM hi,g,hc,c];rfl)
  |some a=>
   have m:=Ct (P:=P) L I;have c:=hx w rfl;rw[j]at m c;rcases k with⟨e',hd⟩|hd<;>(simp[Builtin.append_,ax (dB G),ax hd,sizeOf,cM hi,g,hc,c,m,fF,j])
 ·obtain⟨n,z,J,hz,y,B,C⟩:=h.2 (by omega)
  obtain⟨v,hv,D⟩:=jC hz;obtain⟨M,o,H⟩:=pZ hv;rw[hi]at o;cases o;rw[E]at y B;have s:¬i.bytes=0:=by omega
  have q:¬(281474976710656<Builtin.nextslicecap (sl+d) f*i.bytes):=by omega
  have c:=hx w.drew rfl;have p:(Builtin.firstCells (bS P e) sl (.slice b sl f)).run P w.drew=.ok n.toArray w.drew:=vR J;rw[j]at c p;have F:sl+d≤(Question.appendCap (sl+d) f e).cut (w.tape w.drawn (.appendCap (sl+d) f e)):=lZ _ _;refine⟨_,jD w.drew (hnew w.heap (n++xs++dy ((Question.appendCap (sl+d) f e).cut (w.tape w.drawn (.appendCap (sl+d) f e))-(sl+d)) z) e),?_,⟨rfl,rfl,rfl⟩,C _ F⟩
  have A:(Builtin.zeroCells v.cells ((Question.appendCap (sl+d) f e).cut (w.tape w.drawn (.appendCap (sl+d) f e))-(sl+d)))=(dy ((Question.appendCap (sl+d) f e).cut (w.tape w.drawn (.appendCap (sl+d) f e))-(sl+d)) z).toArray:=by
   apply cT;rw[jd,D]
  rcases k with⟨e',hd⟩|hd<;>(simp[Builtin.append_,ax (dB G),ax hd,sizeOf,cM hi,g,hc,s,q,Question.forced,c,p,eL hv,jM,A,aC];rfl)
theorem C0{t:TypeId}{K:Prop}(h:OV P t K):∃i,P.info? t=some i:=by
 unfold OV at h;cases hi:P.info? t with
 |none=>rw[hi]at h;exact h.elim
 |some i=>exact⟨i,rfl⟩
theorem yI{t:TypeId}(h:bS P t≠0):∃i,P.info? t=some i:=by
 cases hi:P.info? t with
 |none=>exact absurd (by simp[bS,hi]) h
 |some i=>exact⟨i,rfl⟩
theorem Bk{size n:Nat}{x:ByteArray}{w:World}:(Builtin.firstCells size n (.string x)).run P w=.ok ((dD x).take n).toArray w:=by
 simp only[Builtin.firstCells,Sem.run_pure];congr 1
 apply cT;simp[dD,oo,ge,←List.map_take]
theorem wK{t u ty:TypeId}{s x:Value}{K:WK}{w:World}(c:(∃e',P.underlying u=some (.slice e'))∨P.underlying u=some .string)(h:BT P t s x K w.heap):
  Wv P (Builtin.append_ #[t,u] ty #[s,x]) K w:=by
 unfold BT at h;split at h
 ·rename_i e b sl sc a xl xc ht
  have hi:=C0 h;obtain⟨⟨xs,d,g⟩,hz⟩:=oE h;exact Dv ht c (fun w=>rfl) (fun w' f=>vR (by rw[f];exact d)) hi g
 ·rename_i e b sl sc x ht
  cases hb:bF (bS P e) 1 with
  |false=>rw[hb]at h;exact h.elim
  |true=>
   rw[hb]at h;have j:=aZ hb;have i:(dD x).length=x.size:=by simp[dD]
   refine Dv ht c (fun w=>rfl) (fun w' _=>?_) (yI (by omega)) h
   rw[Bk,bB (by omega)]
 ·exact h.elim
theorem zO{n:Int}(b:0≤n)(a:n≤9223372036854775807):IntKind.i64.wrap n=n:=IntWalk.i64_in n ⟨by omega,a⟩
theorem KT{t e u ty:TypeId}{b:Option Addr}{sl c:Nat}{k0 k:IntKind}{l:Int}{z:List Value}{K:WK}{w:World}(A:uz P t=some e)(y:P.underlying u=some (.int k0))
  (hz:pz P e=some z)(M:z.length=bS P e)(X:0≤l)(R:l*pE P e≤2^48)(V:l≤9223372036854775807)(h3:((sl+l.toNat:Nat):Int)≤9223372036854775807)
  (h:PS P e b sl c l.toNat (dy l.toNat z) K w.heap):Wv P (Builtin.append_ #[t,u] ty #[.slice b sl c,.int k l]) K w:=by
 obtain⟨v,hv,F⟩:=jC hz;obtain⟨i,hi,T⟩:=pZ hv;have j:bS P e=i.size:=by simp[bS,hi]
 have G:pE P e=i.bytes:=by simp[pE,hi]
 have x:IntKind.wrap .i64 l=l:=zO X V;have d:¬l<0:=by omega
 rw[G]at R;have g:¬(281474976710656:Int)<l*i.bytes:=by omega
 have f:∀w':World,(asInt (.int k l)).run P w'=.ok l w':=fun w'=>rfl
 have E:(Builtin.zeroCells v.cells l.toNat)=(dy l.toNat z).toArray:=by apply cT;rw[jd,F]
 have s:l.toNat*i.size=0→dy l.toNat z= []:=fun O=>by
  have H:(dy l.toNat z).length=l.toNat*i.size:=by rw[←j,←M];unfold dy;simp
  exact bV.1 (by rw[H,O])
 by_cases hc:sl+l.toNat≤c
 ·obtain⟨N,R,I⟩:=h.1 hc
  refine⟨_,_,?_,eC w (fF w.heap b (sl*bS P e) (dy l.toNat z)),I⟩;cases b with
  |none=>
   by_cases m:l.toNat*i.size=0
   ·simp[Builtin.append_,ax (dB A),ax y,sizeOf,cM hi,f,x,d,g,hc,m];rfl
   ·simp[Builtin.append_,ax (dB A),ax y,sizeOf,cM hi,f,x,d,g,hc,eL hv];rfl
  |some a=>
   have n:=Ct (P:=P) R N;rw[j]at n;by_cases m:l.toNat*i.size=0
   ·rw[s m]at n
    simp[Builtin.append_,ax (dB A),ax y,sizeOf,cM hi,f,x,d,g,hc,n,fF,j,m,s m]
   ·simp[Builtin.append_,ax (dB A),ax y,sizeOf,cM hi,f,x,d,g,hc,n,fF,j,m,eL hv,E]
 ·obtain⟨D,Z,W,B,J,L,I⟩:=h.2 (by omega)
  rw[hz]at B;cases B;rw[G]at J L;have S:¬i.bytes=0:=by omega
  have p:¬(281474976710656<Builtin.nextslicecap (sl+l.toNat) c*i.bytes):=by omega
  have Y:¬(9223372036854775807:Int)<((sl:Int)+(l.toNat:Int)):=by omega
  have o:¬(9223372036854775807:Int)<((sl:Int)+max l 0):=by omega
  have q:(Builtin.firstCells (bS P e) sl (.slice b sl c)).run P w.drew=.ok D.toArray w.drew:=vR W;rw[j]at q;have Q:sl+l.toNat≤(Question.appendCap (sl+l.toNat) c e).cut (w.tape w.drawn (.appendCap (sl+l.toNat) c e)):=lZ _ _;refine⟨_,jD w.drew (hnew w.heap (D++dy l.toNat z++dy ((Question.appendCap (sl+l.toNat) c e).cut (w.tape w.drawn (.appendCap (sl+l.toNat) c e))-(sl+l.toNat)) z) e),?_,⟨rfl,rfl,rfl⟩,I _ Q⟩
  have C:(Builtin.zeroCells v.cells ((Question.appendCap (sl+l.toNat) c e).cut (w.tape w.drawn (.appendCap (sl+l.toNat) c e))-(sl+l.toNat)))=(dy ((Question.appendCap (sl+l.toNat) c e).cut (w.tape w.drawn (.appendCap (sl+l.toNat) c e))-(sl+l.toNat)) z).toArray:=by
   apply cT;rw[jd,F]
  by_cases m:l.toNat*i.size=0
  ·rw[s m]at I⊢
   simp[Builtin.append_,ax (dB A),ax y,sizeOf,cM hi,f,x,d,g,hc,o,p,Question.forced,q,eL hv,jM,C,aC,m];rfl
  ·simp[Builtin.append_,ax (dB A),ax y,sizeOf,cM hi,f,x,d,g,hc,o,p,Question.forced,q,eL hv,jM,C,aC,m,E];rfl
theorem Ck{t u ty:TypeId}{k0:IntKind}{s x:Value}{K:WK}{w:World}(c:P.underlying u=some (.int k0))(h:Cl P t s x K w.heap):
  Wv P (Builtin.append_ #[t,u] ty #[s,x]) K w:=by
 unfold Cl at h;split at h
 ·rename_i e b sl sc k l ht
  split at h
  ·rename_i z hz
   cases hb:bF z.length (bS P e)with
   |false=>rw[hb]at h;exact h.elim
   |true=>
    rw[hb]at h;obtain⟨⟨a,g,i,f⟩,d⟩:=h;exact KT ht c hz (aZ hb) a g i f d
  ·exact h.elim
 ·exact h.elim
theorem lH:∀{a b:List Value},ce a=true→ce b=true→ce (a++b)=true
 | [],_,_,h=>h
 |v::a,b,h,k=>by
  simp only[ce,cQ,bC]at h⊢;exact⟨h.1,lH h.2 k⟩
theorem yy{z:List Value}(h:ce z=true):∀n,ce (dy n z)=true
 |0=>rfl
 |n+1=>by
  have:dy (n+1) z=z++dy n z:=by simp[dy,List.replicate_succ]
  rw[this];exact lH h (yy h n)
theorem FU{t ty:TypeId}{x:Value}{K:WK}{w:World}(h:Jn P t x K w.heap):Wv P (Builtin.clear_ #[t] ty #[x]) K w:=by
 unfold Jn at h;split at h
 ·rename_i e a n c ht
  split at h
  ·rename_i z hz
   obtain⟨v,hv,f⟩:=jC hz;cases ho:ce z with
   |false=>rw[ho]at h;exact h.elim
   |true=>
    rw[ho]at h;obtain⟨g,i⟩:=h;refine⟨_,_,?_,eC w (fF w.heap a 0 (dy n z)),i⟩;cases a with
    |none=>simp[Builtin.clear_,ax (dB ht)];rfl
    |some a=>
     cases n with
     |zero=>simp[Builtin.clear_,ax (dB ht)];rfl
     |succ n=>
      have b:=Ct (P:=P) (yy ho (n+1)) g;rw[←sB,Dx]at b;have d:(Builtin.zeroCells v.cells (n+1)).toList=dy (n+1) z:=by rw[jd,f]
      simp[Builtin.clear_,ax (dB ht),eL hv,d,b,fF]
  ·exact h.elim
 ·exact h.elim
theorem yz:∀(xs:List Value) (n:Nat),ce xs=true→ce (xs.take n)=true
 | [],n,_=>by simp[ce]
 |x::xs,0,_=>by simp[ce]
 |x::xs,n+1,h=>by
  simp only[ce,bC,List.take_succ_cons]at h⊢;exact⟨h.1,yz xs n h.2⟩
theorem Ec(x:ByteArray):ce (dD x)=true:=by
 have:∀l:List UInt8,ce (l.map fun b=>.int .u8 (b.toNat:Int))=true:=by
  intro l;induction l with
  |nil=>rfl
  |cons b l ih=>simp[ce,ih]
 exact this _
theorem Hl{t u ty:TypeId}{d s:Value}{K:WK}{w:World}(h:N9 P t d s K w.heap):Wv P (Builtin.copy_ #[t,u] ty #[d,s]) K w:=by
 unfold N9 at h;split at h
 ·rename_i e b dl dc a sl sc ht
  obtain⟨⟨xs,j,k,o,n⟩,hz⟩:=oE h;refine⟨_,_,?_,eC w (fF w.heap b 0 xs),n⟩;have g:=vR (P:=P) (len:=sl) (cap:=sc) j;cases b with
  |none=>simp[Builtin.copy_,ax (dB ht),Builtin.lenOf,hz,g,goInt];rfl
  |some c=>
   have f:=Ct (P:=P) (m:=0) o k;simp only[Addr.add,if_pos]at f;simp[Builtin.copy_,ax (dB ht),Builtin.lenOf,hz,g,goInt,f,fF]
 ·rename_i e b dl dc x ht
  cases hb:bF (bS P e) 1 with
  |false=>rw[hb]at h;exact h.elim
  |true=>
   rw[hb]at h;have o:=aZ hb;obtain⟨i,hi⟩:=yI (P:=P) (t:=e) (by omega);have hz:(sizeOf e).run P w=.ok (bS P e) w:=by simp[sizeOf,cM hi,bS,hi]
   obtain⟨k,n⟩:=h;have q:(dD x).length=x.size:=by simp[dD]
   have p:(dD x).take (dL x.size dl)=(dD x).take dl:=by
    by_cases hx:x.size≤dl
    ·rw[show dL x.size dl=x.size from Nat.min_eq_left hx,bB (by omega),bB (by omega)]
    ·rw[show dL x.size dl=dl from Nat.min_eq_right (by omega)]
   have g:(Builtin.firstCells (bS P e) (dL x.size dl) (.string x)).run P w=.ok ((dD x).take dl).toArray w:=by
    rw[Bk,p]
   refine⟨_,_,?_,eC w (fF w.heap b 0 ((dD x).take dl)),n⟩;cases b with
   |none=>simp[Builtin.copy_,ax (dB ht),Builtin.lenOf,hz,g,goInt];rfl
   |some c=>
    have f:=Ct (P:=P) (m:=0) (yz _ dl (Ec x)) k;simp only[Addr.add,if_pos]at f;simp[Builtin.copy_,ax (dB ht),Builtin.lenOf,hz,g,goInt,f,fF]
 ·exact h.elim
theorem LV(k v:Value)(a:Nat):∀(es:List MapEntry),(match es.findIdx? (fun e=>gD k e.key)with
  |some i=>(es.modify i (fun e=>{e with key:=k,val:=v}),a)
  |none=>(es++ [{key:=k,val:=v,born:=a}],a+1))=JP k v a es
 | []=>rfl
 |e::es=>by
  have b:=LV k v a es;simp only[JP,List.findIdx?_cons];cases hk:gD k e.key with
  |true=>simp[List.modify]
  |false=>
   simp only[fB,if_false];rw[←b];cases hf:es.findIdx? (fun e=>gD k e.key)with
   |none=>simp
   |some i=>simp[List.modify]
theorem vm{d:TypeDesc}{c:CK}(hd:nV d c)(x:c.den):∀(es:List MapEntry) (i:Nat),CY c es→
  Instr.findNow d (c.enc x) es i=some (match es.findIdx? (fun e=>gD (c.enc x) e.key)with
   |some j=>(es[j]?).map fun e=>(i+j,e.val)
   |none=>none)
 | [],i,_=>rfl
 |e::es,i,h=>by
  obtain⟨y,g⟩:=h e (by simp);have b:=AZ hd x y;rw[←g]at b;have f:=vm hd x es (i+1) fun e' a=>h e' (by simp[a])
  simp only[Instr.findNow,List.findIdx?_cons,b];cases hb:gD (c.enc x) e.key with
  |true=>simp
  |false=>
   simp only[fB,if_false];rw[f];cases hf:es.findIdx? (fun e=>gD (c.enc x) e.key)with
   |none=>simp
   |some j=>simp[kB,Nat.add_comm 1 j]
theorem BM{a b:ByteArray}(h:(a==b)=true):a=b:=by
 cases a with|mk a=>cases b with|mk b=>
 have h:(a==b)=true:=h;rw[eq_of_beq h]
theorem Dq(a:ByteArray):(a==a)=true:=by
 cases a with|mk a=>
 exact beq_self_eq_true a
theorem F7{d:TypeDesc}{c:CK}(hd:nV d c)(x y:c.den)(h:gD (c.enc x) (c.enc y)=true):Instr.sameBits 10000 (c.enc y) (c.enc x)=true:=by
 rcases hd with⟨i,rfl,rfl⟩|⟨rfl,rfl⟩|⟨rfl,rfl⟩
 ·have h:x=y:=eq_of_beq (α:=Int) h
  subst h;have:∀n:Int,(i==i&&n==n)=true:=fun n=>by simp
  exact this x
 ·have h:x=y:=BM h
  subst h;exact Dq x
 ·have h:x=y:=eq_of_beq (α:=Bool) h
  subst h;exact beq_self_eq_true (α:=Bool) x
theorem tL{w:World}{r:Nat}{es:Array MapEntry}{a:Nat}{o:Obj}(h:w.heap[r]? =some (.map es a)):(setObj r o).run P w=.ok () (jD w (w.heap.setIfInBounds r o)):=by
 simp only[setObj,Sem.run,h];rfl
theorem J9{t k e:TypeId}{d:TypeDesc}{c:CK}(z:P.underlying t=some (.map k e))(s:P.underlying k=some d)(hd:nV d c){r:Nat}{x:c.den}{v:Value}{w:World}(hm:My c w.heap r):
  (Instr.mapUpdate t (.map (some r)) (c.enc x) v).run P w=.ok () (jD w (QT w.heap r (c.enc x) v)):=by
 obtain⟨es,a,j,f⟩:=hm;obtain⟨q,A,b,C⟩:=tR (P:=P) hd s x f w;rw[vm hd x es.toList 0 f]at b;have g:=LV (c.enc x) v a es.toList;have m:QT w.heap r (c.enc x) v=w.heap.setIfInBounds r (.map (JP (c.enc x) v a es.toList).1.toArray (JP (c.enc x) v a es.toList).2):=by
  simp only[QT,j]
 rw[m,←g];simp only[Instr.mapUpdate,Sem.run_bind,ax z,Result.andThen_ok,kS j,mE hd s,A];cases hf:es.toList.findIdx? (fun e=>gD (c.enc x) e.key)with
 |none=>
  rw[hf]at b;simp only[bv.injEq]at b;subst b;simp only[tL j];congr 4
  apply cT;simp
 |some i=>
  rw[hf]at b;simp only[bv.injEq]at b;obtain⟨hi,p,_⟩:=List.findIdx?_eq_some_iff_getElem.1 hf;have u:es.toList[i]? =some es.toList[i]:=af hi;rw[u]at b;simp only[f7,aE]at b;subst b;have o:es[i]? =some es.toList[i]:=by rw[←bp];exact u
  obtain⟨y,B⟩:=f es.toList[i] (List.getElem_mem hi);have n:Instr.sameBits 10000 (es.toList[i]).key (c.enc x)=true:=by
   rw[B]at p⊢;exact F7 hd x y p
  simp only[o,f7,Option.getD_some,Instr.keyThatStays,n,if_true,Sem.run_bind,Sem.run_pure,Result.andThen_ok,tL j];congr 4
  apply cT;simp
theorem wJ{t:TypeId}{m k v:Value}{K:WK}{w:World}(h:BS P t m k v K w.heap):Wu P (Instr.mapUpdate t m k v) K w:=by
 unfold BS at h;split at h
 ·rename_i c e m hc
  obtain⟨i,d,b,f,hd⟩:=vd hc;obtain⟨g,rfl,r,rfl,hm,a⟩:=CK.dec_sound h;exact⟨_,J9 b f hd hm,eC _ _,a⟩
 ·exact h.elim
theorem Ir(k:Value):∀(es:List MapEntry),(match es.findIdx? (fun e=>gD k e.key)with
  |some i=>es.eraseIdx i
  |none=>es)=Is k es
 | []=>rfl
 |e::es=>by
  have a:=Ir k es;simp only[Is,List.findIdx?_cons];cases hk:gD k e.key with
  |true=>simp
  |false=>
   simp only[fB,if_false];rw[←a];cases hf:es.findIdx? (fun e=>gD k e.key)<;>simp
theorem H3{t k e ty:TypeId}{ts:Array TypeId}{d:TypeDesc}{c:CK}(y:ts[0]? =some t) (s:P.underlying t=some (.map k e)) (p:P.underlying k=some d) (hd:nV d c) {r:Nat} {x:c.den} {w:World} (hm:My c w.heap r):
  (Builtin.delete_ ts ty #[.map (some r),c.enc x]).run P w=.ok (.tuple #[]) (jD w (L2 w.heap r (c.enc x))):=by
 obtain⟨es,f,m,j⟩:=hm;obtain⟨q,u,b,A⟩:=tR (P:=P) hd p x j w;rw[vm hd x es.toList 0 j]at b;have g:=Ir (c.enc x) es.toList;have n:L2 w.heap r (c.enc x)=w.heap.setIfInBounds r (.map (Is (c.enc x) es.toList).toArray f):=by
  simp only[L2,m]
 rw[n,←g];simp only[Builtin.delete_,y,List.getElem?_toArray,List.getElem?_cons_zero,List.getElem?_cons_succ,Sem.run_bind,ax s,Result.andThen_ok,kS m,mE hd p,u];cases hf:es.toList.findIdx? (fun e=>gD (c.enc x) e.key)with
 |none=>
  rw[hf]at b;simp only[bv.injEq]at b;subst b;simp[tL m]
 |some i=>
  rw[hf]at b;simp only[bv.injEq]at b;obtain⟨hi,z,_⟩:=List.findIdx?_eq_some_iff_getElem.1 hf;have v:es.toList[i]? =some es.toList[i]:=af hi;rw[v]at b;simp only[f7,aE]at b;subst b;have o:i<es.size:=by simpa using hi
  have a:es.eraseIdxIfInBounds i=(es.toList.eraseIdx i).toArray:=by
   apply cT;simp[Array.eraseIdxIfInBounds,o]
  simp[tL m,a]
theorem Ci{t ty:TypeId}{ts:Array TypeId}{m k:Value}{K:WK}{w:World}(g:ts[0]? =some t) (h:Cj P t m k K w.heap):Wv P (Builtin.delete_ ts ty #[m,k]) K w:=by
 unfold Cj at h;split at h
 ·rename_i c e m hc
  obtain⟨j,d,b,f,hd⟩:=vd hc;obtain⟨i,rfl,h⟩:=CK.dec_sound h;rcases h with⟨rfl,a⟩|⟨r,rfl,hm,a⟩
  ·refine⟨_,w,?_,Tame.refl w,a⟩
   simp[Builtin.delete_,g,ax b,mE hd f]
  ·exact⟨_,_,H3 g b f hd hm,eC _ _,a⟩
 ·exact h.elim
theorem MZ{t k e:TypeId}(b:P.underlying t=some (.map k e)){m:Option Nat}{a:Nat}{w:World}(hm:m=none∧a=0∨∃r es,m=some r∧w.heap[r]? =some (.map es a)):
  (Instr.range t (.map m)).run P w=.ok (.pointer (some (aC w.heap))) (jD w (w.heap.push (.mapIter m a #[] a))):=by
 rcases hm with⟨rfl,rfl⟩|⟨r,es,rfl,c⟩
 ·simp only[Instr.range,Sem.run_bind,ax b,Result.andThen_ok,Sem.run_pure,CD,aC]
 ·simp only[Instr.range,Sem.run_bind,ax b,Result.andThen_ok,Sem.run_pure,kS c,CD,aC]
theorem uU{w:World}{i:Nat}{m:Option Nat}{a:Nat}{b:Array Nat}{last:Nat}(h:w.heap[i]? =some (.mapIter m a b last)):(getObj i).run P w=.ok (.mapIter m a b last) w:=by
 simp only[getObj,Sem.run,h]
theorem Hz{w:World}{i:Nat}{m:Option Nat}{a:Nat}{b:Array Nat}{last:Nat}{o:Obj}(h:w.heap[i]? =some (.mapIter m a b last)):(setObj i o).run P w=.ok () (jD w (w.heap.setIfInBounds i o)):=by
 simp only[setObj,Sem.run,h];rfl
theorem Dm(n:Nat)(a:0<n)(w:World):∃k w',k<n∧(choose (.mapNext n)).run P w=.ok k w'∧Tame w w'∧w'.heap=w.heap:=by
 unfold choose;simp only[Sem.run];by_cases h:(Question.mapNext n).forced=true
 ·exact⟨0,w,a,by rw[if_pos h],Tame.refl w,rfl⟩
 ·refine⟨(Question.mapNext n).cut (w.tape w.drawn (.mapNext n)),{w with drawn:=w.drawn+1},Nat.mod_lt _ a,by rw[if_neg h],⟨rfl,rfl,rfl⟩,rfl⟩
theorem Hk{it:Value}{t:TypeId}{K:WK}{w:World}(h:N8 it K w.heap):Wv P (Instr.next it false t) K w:=by
 unfold N8 at h;split at h
 ·rename_i a
  obtain⟨L,m,j,g,last,hi,h⟩:=h;obtain⟨b,off,J⟩:=a;simp only at L hi h;subst L;rcases h with⟨rfl,R⟩|⟨r,es,y,rfl,M,B,C,G⟩
  ·exact⟨_,w,by simp only[Instr.next,Sem.run_bind,uU hi,Result.andThen_ok,Sem.run_pure],Tame.refl w,R⟩
  ·have u:(!g.isEmpty&& !es.isEmpty&&es.all (fun e=>decide (e.born≥last)))=false:=by
    rcases B with h|h|h<;>simp[h]
   obtain⟨left,n⟩:∃left,left=es.filter fun e=> !g.contains e.born:=⟨_,rfl⟩
   obtain⟨i,q⟩:∃i,i=left.filter (·.born<j):=⟨_,rfl⟩
   obtain⟨new,hnew⟩:∃new,new=left.filter (·.born≥j):=⟨_,rfl⟩
   obtain⟨d,f⟩:∃d:Array (Option MapEntry),d=(if i.isEmpty then #[none]else #[])++(i++new).map some:=⟨_,rfl⟩
   have D:0<d.size:=by
    rw[f];by_cases z:i.isEmpty=true
    ·simp[z];omega
    ·have:i.size≠0:=by simpa using z
     simp[z];omega
   obtain⟨k,E,O,v,N,H⟩:=Dm (P:=P) d.size D w;obtain⟨c,hc⟩:∃c,d[k]? =some c:=⟨d[k],Array.getElem?_eq_getElem O⟩;have I:E.heap[b]? =some (.mapIter (some r) j g last):=by rw[H];exact hi
   have p:(!g.isEmpty&& !es.isEmpty&&es.all fun x=>decide (x.born≥last))=false:=u
   cases c with
   |none=>
    refine⟨.tuple #[.bool false],E,?_,N,?_⟩
    ·simp only[Instr.next,Sem.run_bind,uU hi,Result.andThen_ok,Sem.run_pure,kS M,p,fB,if_false,←n,←q,←hnew,←f,v,hc]
    ·rw[H]
     have s:i.isEmpty=true:=by
      have hm:none∈d:=oA hc;rw[f]at hm;by_cases z:i.isEmpty=true
      ·exact z
      ·simp[z]at hm
     refine C fun e Q F=>?_
     cases hs:g.contains e.born with
     |true=>rfl
     |false=>
      have o:e∈i:=by
       rw[q,n];simp only[oT];exact⟨⟨by simpa using Q,by rw[hs];rfl⟩,by simpa using F⟩
      rw[Array.isEmpty_iff]at s;rw[s]at o;simp at o
   |some e=>
    have o:e∈es∧g.contains e.born=false:=by
     have hm:some e∈d:=oA hc;have A:e∈left:=by
      rw[f]at hm;rw[Array.mem_append]at hm;rcases hm with hm|hm
      ·split at hm<;>simp at hm
      ·simp only[Array.mem_map,bv.injEq,exists_eq_right,Array.mem_append]at hm
       rcases hm with hm|hm
       ·rw[q]at hm;exact(oT.1 hm).1
       ·rw[hnew]at hm;exact(oT.1 hm).1
     rw[n]at A;have:=oT.1 A;exact⟨this.1,by simpa using this.2⟩
    refine⟨.tuple #[.bool true,e.key,e.val],jD E (E.heap.setIfInBounds b (.mapIter (some r) j (g.push e.born) y)),?_,N.trans (eC _ _),?_⟩
    ·simp only[Instr.next,Sem.run_bind,uU hi,Result.andThen_ok,Sem.run_pure,kS M,p,fB,if_false,←n,←q,←hnew,←f,v,hc,Hz I]
    ·rw[H]
     exact G e (by simpa using o.1) o.2
 ·exact h.elim
theorem Ef{t e:TypeId}{z:List Value}{k k':IntKind}{l c:Int}{w:World}(u:uz P t=some e)(hz:pz P e=some z)(f:z.length=bS P e)(x:0≤l)(C:l≤c)(B:c≤9223372036854775807)(y:pE P e*c≤2^48):
  (Instr.makeSlice t (.int k l) (.int k' c)).run P w=.ok (.slice (some (aC w.heap)) l.toNat c.toNat) (jD w (hnew w.heap (dy c.toNat z) e)):=by
 obtain⟨v,hv,g⟩:=jC hz;obtain⟨i,hi,A⟩:=pZ hv;have b:bS P e=i.size:=by simp[bS,hi]
 have m:pE P e=i.bytes:=by simp[pE,hi]
 have o:v.cells.size=i.size:=by rw[←b,←f,←g];simp
 have q:=zO x (by omega);have hc:=zO (show 0≤c by omega) B
 rw[m]at y;have c1:¬(c<0):=by omega
 have c2:¬(281474976710656<(i.bytes:Int)*c):=by omega
 have s:¬(l<0):=by omega
 have p:¬(c<l):=by omega
 by_cases a:c.toNat*i.size=0
 ·have n:(dy c.toNat z).length=0:=by simp[dy,f,b,a]
  rw[bV.1 n];simp[Instr.makeSlice,ax (dB u),asInt,asIntOf,cM hi,q,hc,c1,c2,s,p,sizeOf,a,jM]
 ·have d:((Array.range (c.toNat*i.size)).map (fun j=>v.cells[j%v.cells.size]!))=(dy c.toNat z).toArray:=by
   rw[←o,LB,g]
  have key:(newRow e ((Array.range (c.toNat*i.size)).map (fun j=>v.cells[j%v.cells.size]!))).run P w=.ok (aC w.heap) (jD w (hnew w.heap (dy c.toNat z) e)):=by
   rw[d,jM]
  simp[Instr.makeSlice,ax (dB u),asInt,asIntOf,cM hi,q,hc,c1,c2,s,p,sizeOf,a,eL hv];rw[key];rfl
theorem Agree.args{N:Nat}{r:cA}{a:Act}(h:Agree N r a){os:Array Operand}{vs:List Value}(hv:mV r os.toList=some vs):os.map a.eval=vs.toArray:=by
 rw[←lF h hv];apply cT;simp
theorem HC.out{f:FuncId}{args:List Value}{ks:List Kind}{K:WK}{w:World}(h:HC P f args ks (fun x h'=>K (BF ks (me ks x)) h') w.heap):IE P (callFunc f args.toArray) K w:=by
 rcases h.run w rfl with⟨a,d⟩|⟨v,w',a,c,x,rfl,b⟩
 ·refine .inr (.inr (.inl ⟨f,args.toArray,a,d.mono ?_⟩))
  rintro e w' ⟨c,x,rfl,b⟩;exact⟨c,_,rfl,b⟩
 ·exact .inl ⟨_,w',a,c,b⟩
theorem NC{b a e:TypeId}{s:ByteArray}{w:World}(k:P.underlying b=some .string)(hd:P.underlying a=some (.slice e))(j:P.underlying e=some (.int .u8)):
  ∃c,s.size≤c∧(convert b a (.string s)).run P w=.ok (.slice (some (aC w.heap)) s.size c) (jD w.drew (w.heap.push (.cells (dD s++dE (c-s.size) (Value.int .u8 0)).toArray e (c,c+1)))):=by
 have f:s.size≤grownCap w s.size 0 e:=lZ _ _;refine⟨_,f,?_⟩;rw[Go.Lib.run_convert_string_bytes w b a e s k hd j];have hc:(Go.Lib.bytesCells w e s).size=grownCap w s.size 0 e:=by
  unfold Go.Lib.bytesCells;rw[Array.size_append,Array.size_map,Array.size_replicate,show s.data.size=s.size from rfl]
  omega
 have d:(dD s++dE (grownCap w s.size 0 e-s.size) (Value.int .u8 0)).toArray=Go.Lib.bytesCells w e s:=by
  unfold Go.Lib.bytesCells dD;apply cT;simp
 rw[d];unfold Go.Lib.bytesWorld World.freeze;rw[if_neg (by omega),hc];unfold World.alloc World.drew jD;congr 1
 congr 1
 apply Array.ext (by simp);intro i m g;rw[Array.getElem_modify];simp only[Array.getElem_push];split
 ·rename_i e
  subst e;simp
 ·rename_i e
  have hi:i<w.heap.size:=by simp at g;omega
  rw[dif_pos hi,dif_pos hi]
theorem zQ{o:Oper}{r:cA}{K:WK}{w:World}{N:Nat}{a:Act}(D:Agree N r a)(j:D6 P o r K w.heap):IE P (execOp a.eval o) K w:=by
 have q:∀{x:Operand} {v:Value},dh r x=some v→a.eval x=v:=fun h=>jF D h
 obtain⟨J,W,type,mW,E,F⟩:=o;cases W with
 |alloc t=>
  simp only[D6]at j;split at j
  ·rename_i z hz
   obtain⟨v,hv,S⟩:=jC hz;have C:(Instr.alloc t true (.tuple #[])).run P w=.ok (.pointer (some (aC w.heap))) (jD w (hnew w.heap z t)):=by
    simp[Instr.alloc,eL hv,newVar,jM,S]
   exact Wv.out ⟨_,_,C,eC _ _,j⟩
  ·exact j.elim
 |box t x=>
  simp only[D6]at j;split at j
  ·rename_i v hv
   have C:(Instr.box t v).run P w=.ok (.pointer (some (aC w.heap))) (jD w (hnew w.heap v.cells.toList t)):=by
    simp[Instr.box,newVar,jM]
   simp only[execOp,q hv];exact Wv.out ⟨_,_,C,eC _ _,j⟩
  ·exact j.elim
 |build t ps=>
  simp only[D6]at j;split at j
  ·rename_i vs p
   split at j
   ·rename_i cs hcs
    have M:(ps.map fun x=>(x.1,a.eval x.2))=vs.toArray:=by
     rw[←nG D p];apply cT;simp
    have C:=yW (ps:=vs.toArray) (by simpa using hcs) w;simp only[execOp];rw[show(ps.map fun(i,x)=>(i,a.eval x))=vs.toArray from M]
    exact Wv.out ⟨_,w,C,Tame.refl w,j⟩
   ·exact j.elim
  ·exact j.elim
 |buildSlice t n ps=>
  simp only[D6]at j;split at j
  ·rename_i e vs H p
   split at j
   ·rename_i z hz
    cases hb:(uo (n*bS P e) 16777216&&bF z.length (bS P e))with
    |false=>rw[hb]at j;exact j.elim
    |true=>
     rw[hb]at j;simp only[bC]at hb;simp only[cond_true]at j;split at j
     ·rename_i cs hcs
      have M:(ps.map fun x=>(x.1,a.eval x.2))=vs.toArray:=by
       rw[←nG D p];apply cT;simp
      have C:=Ax (ps:=vs.toArray) H hz (gi hb.1) (aZ hb.2) (by simpa using hcs) w;simp only[execOp];rw[show(ps.map fun(i,x)=>(i,a.eval x))=vs.toArray from M]
      exact Wv.out ⟨_,_,C,eC _ _,j⟩
     ·exact j.elim
   ·exact j.elim
  ·exact j.elim
 |store t x y=>
  simp only[D6]at j;split at j
  ·rename_i b v hb hv
   simp only[execOp,q hb,q hv];exact Wu.out (FT j)
  ·exact j.elim
 |mapUpdate t m k x=>
  simp only[D6]at j;split at j
  ·rename_i mv kv xv hm B hx
   simp only[execOp,q hm,q B,q hx];exact Wu.out (wJ j)
  ·exact j.elim
 |insert t m k x=>
  simp only[D6]at j;split at j
  ·rename_i mv kv xv hm B hx
   simp only[execOp,q hm,q B,q hx];exact Wu.out (wJ j)
  ·exact j.elim
 |makeMap t n=>
  simp only[D6]at j;cases n with
  |none=>exact Wv.out ⟨_,jD w (w.heap.push (.map #[] 0)),by simp[Instr.makeMap];rfl,eC _ _,j⟩
  |some n=>
   simp only at j;split at j
   ·rename_i k i hn H
    exact Wv.out ⟨_,jD w (w.heap.push (.map #[] 0)),by simp[Instr.makeMap,q hn,ax H,asInt,asIntOf];rfl,eC _ _,j⟩
   ·exact j.elim
 |makeSlice t l c=>
  simp only[D6]at j;split at j
  ·rename_i e k l' k' c' H R hc
   split at j
   ·rename_i z hz
    cases hb:bF z.length (bS P e)with
    |false=>rw[hb]at j;exact j.elim
    |true=>
     rw[hb]at j;obtain⟨⟨Y,T,L,X⟩,j⟩:=j;simp only[execOp,q R,q hc];exact Wv.out ⟨_,_,Ef H hz (aZ hb) Y T L X,eC _ _,j⟩
   ·exact j.elim
  ·exact j.elim
 |convert s d x=>
  simp only[D6]at j;split at j
  ·rename_i e v V hd hx
   cases hu:Kj P e with
   |false=>rw[hu]at j;exact j.elim
   |true=>
    rw[hu]at j;obtain⟨c,hc,I⟩:=NC (w:=w) (s:=v) V hd (CZ hu);simp only[execOp,q hx];exact Wv.out ⟨_,_,I,⟨rfl,rfl,rfl⟩,j c hc⟩
  ·exact j.elim
 |range t x=>
  simp only[D6]at j;split at j
  ·rename_i k e m hu hx
   obtain⟨O,hm,j⟩:=j;simp only[execOp,q hx];exact Wv.out ⟨_,_,MZ hu hm,eC _ _,j⟩
  ·exact j.elim
 |next it isS=>
  cases isS with
  |true=>simp only[D6]at j
  |false=>
   simp only[D6]at j;split at j
   ·rename_i v hv
    simp only[execOp,q hv];exact Wv.out (Hk j)
   ·exact j.elim
 |call c=>
  simp only[D6]at j;have eb:∀{b:Builtin} {vs:List Value},c.callee=.builtin b→mV r c.args.toList=some vs→∃cs:Array Bool,∀w,(execOp a.eval ⟨J,.call c,type,mW,E,F⟩).run P w=
    (builtin b c.argTypes type cs vs.toArray).run P w:=by
   intro b vs hc p;refine⟨c.args.map fun| .const _=>true|_=>false,fun w=>?_⟩
   simp[execOp,resolve,hc,D.args p,invoke];rfl
  have wo:∀{s s':Sem Next},(∀w,s.run P w=s'.run P w)→IE P s' K w→IE P s K w:=by
   intro s s' C h;unfold IE at h⊢;simp only[C];exact h
  split at j
  ·rename_i s x hc p
   split at j
   ·rename_i t u hat
    obtain⟨cs,G⟩:=eb hc p;refine wo G ?_;have A:c.argTypes= #[t,u]:=by apply cT;rw[hat]
    simp only[builtin,A];split at j
    ·rename_i e' hu;exact Wv.out (wK (.inl ⟨e',hu⟩) j)
    ·rename_i hu;exact Wv.out (wK (.inr hu) j)
    ·rename_i k0 hu;exact Wv.out (Ck hu j)
    ·exact j.elim
   ·exact j.elim
  ·rename_i x hc p
   split at j
   ·rename_i t hat
    obtain⟨cs,G⟩:=eb hc p;refine wo G ?_;have A:c.argTypes= #[t]:=by apply cT;rw[hat]
    simp only[builtin,A];exact Wv.out (FU j)
   ·exact j.elim
  ·rename_i s x hc p
   split at j
   ·rename_i t u hat
    obtain⟨cs,G⟩:=eb hc p;refine wo G ?_;have A:c.argTypes= #[t,u]:=by apply cT;rw[hat]
    simp only[builtin,A];exact Wv.out (Hl j)
   ·exact j.elim
  ·rename_i m k hc p
   split at j
   ·rename_i t u hat
    obtain⟨cs,G⟩:=eb hc p;refine wo G ?_;simp only[builtin];exact Wv.out (Ci (by rw[←bp,hat];rfl) j)
   ·exact j.elim
  ·rename_i f args hc p
   unfold Rn at j;split at j
   ·exact j.elim
   ·rename_i ks hks
    split at j
    ·rename_i f
     refine wo (s':=callFunc f args.toArray) (fun w=>?_) j.out
     simp[execOp,resolve,hc,D.args p,Act.eval,Deferred.ofValue,invoke]
    ·rename_i f hf
     split at j
     ·rename_i fv hfv
      rcases j.run with⟨g,first,cap,rfl,Q⟩|⟨l,rfl,Q⟩
      rotate_left
      ·obtain⟨fn,tmps,assign,body,T,L⟩:=Q.run w rfl
       refine .inr (.inr (.inr ⟨l,fn,tmps,assign,body,?_,fun c cs=>?_⟩))
       ·rw[←T]
        simp[execOp,resolve,hc,D.args p,q hfv,Deferred.ofValue,invoke]
       ·obtain⟨b,w',H,B,V⟩:=L c cs
        refine⟨b,w',H,?_,V⟩;obtain⟨t,e,B⟩:=qB B;have R:ks.length=1:=by rw[←rq ks t,←e];rfl
        match ks,R,t,e,B with
        | [k],_,t,e,B=>rw[←e]at B;exact B
      refine wo (s':=callFunc g (first.toList++args++cap.toList).toArray) (fun w=>?_) Q.out
      have e:first++args.toArray++cap=(first.toList++args++cap.toList).toArray:=by apply cT;simp
      rw[←e];simp[execOp,resolve,hc,D.args p,q hfv,Deferred.ofValue,invoke]
     ·exact j.elim
  ·exact j.elim
 |_=>simp only[D6]at j
end Go.Lift
