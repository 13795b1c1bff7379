/- A part of the proof that the named laws of this program answer true, whatever the input. -/
import Derived.Test.YtajpljopgikpgaaGreatLift0
import Derived.Laws.Append
import Derived.Laws.Cover3
import Derived.Laws.StructEq
import Derived.Laws.BytesString
import Derived.Lib.ConvBytes
open Array renaming ext'→bZ,getElem?_toList→aO,mem_filter→lW
open Bool renaming and_eq_true→aS,false_eq_true→dT
open ByteArray renaming data_extract→lj
open List renaming extract_eq_take_drop→eI,map_cons→fa,take_of_length_le→bc,length_cons→aL,cons_append→dd,replicate→fQ,length_eq_zero_iff→bF,getElem?_eq_getElem→aj
open Nat renaming beq→aX,eq_of_beq_eq_true→aF,le_of_ble_eq_true→lz,add_zero→dN,zero_add→aC,min→cK
open Option renaming some→bj,isSome_iff_exists→cI,map_some→hE
open Prod renaming mk→qo
open UInt8 renaming ofNat→eC
namespace Go.Lift
open Go
def Iu(S:Option (ae→Prop))(h:ae):Prop:=match S with|none=>True|some f=>f h
def Yv(P:Program)(s:Sem Value)(K:RK)(h:ae):Prop:=∃v S,K v S∧Iu S h∧∀w:World,Iu S w.heap→s.run P w=.ok v w
theorem Yv.of_pure{P:Program}{s:Sem Value}{K:RK}{h:ae}{v:Value}(b:K v none)(a:∀w:World,s.run P w=.ok v w):Yv P s K h:=
 ⟨v,none,b,trivial,fun w _=>a w⟩
variable {P:Program}
theorem rc{t:TypeId}{f:Nat}{u:TypeId}{off:Nat}(h:rd P t f=some (u,off)):
  ∃fs g,P.underlying t=some (.struct fs)∧fs[f]? =some g∧g.type=u∧g.offset=off:=by
 unfold rd at h;split at h
 ·rename_i fs hu
  split at h
  ·rename_i g hg
   simp only[bj.injEq,qo.injEq]at h;exact⟨fs,g,hu,by simpa using hg,h.1,h.2⟩
  ·cases h
 ·cases h
theorem sK{t:TypeId}(h:aX (bo P t) 0=false)(w:World):(sizeOf t).run P w=.ok (bo P t) w:=by
 unfold bo at h⊢;cases hi:P.info? t with
 |none=>rw[hi]at h;cases h
 |some i=>simp[sizeOf,bR hi]
theorem w7{t:TypeId}{f:Nat}{u:TypeId}{off:Nat}{a:Addr}{K:RK}{h:ae}(i:rd P t f=some (u,off))
  (b:bif aX (bo P u) 0 then False else K (.pointer (some (adr a off))) none):Yv P (Instr.fieldAt t (.pointer (some a)) f) K h:=by
 obtain⟨k,g,j,d,rfl,rfl⟩:=rc i;cases hz:aX (bo P g.type) 0 with
 |true=>rw[hz]at b;exact b.elim
 |false=>
  rw[hz]at b;refine .of_pure b fun w=>?_
  have c:bo P g.type≠0:=fun e=>by rw[e]at hz;cases hz
  simp only[Instr.fieldAt,Sem.run_bind,aq j,Result.andThen_ok,d,Instr.sureAddr,Sem.run_pure,fieldPlace,sK hz];simp[c,pg]
theorem ql{t:TypeId}{i:TypeInfo}(_:P.info? t=some i)(a:∃d,P.underlying t=some d)(w:World):(isAgg t).run P w=.ok (qm P t) w:=by
 obtain⟨d,hd⟩:=a;simp only[isAgg,Sem.run_bind,aq hd,Result.andThen_ok];unfold qm;rw[hd];cases d<;>rfl
theorem tR{c:BinOp}{k k':IntKind}{a b:Int}{K:RK}{h:ae}(f:c=.shl∨c=.shr)(hv:Dm c k a b K):Yv P (Op.shift c k a k' b) K h:=by
 rcases f with rfl|rfl
 ·obtain⟨d,e⟩:=hv
  refine .of_pure e fun w=>?_
  simp[Op.shift,Int.not_lt.2 d]
 ·obtain⟨d,e⟩:=hv
  refine .of_pure e fun w=>?_
  simp[Op.shift,Int.not_lt.2 d]
theorem D2{c:BinOp}{k:IntKind}{a b:Int}{K:RK}{h:ae}(hv:Kl c k a b K)(f:c≠ .shl∧c≠ .shr):Yv P (binOp c 0 (.int k a) (.int k b)) K h:=by
 cases c<;>simp only[Kl]at hv
 case quo=>obtain⟨d,e⟩:=hv;exact .of_pure e fun w=>by simp[binOp,Op.intDiv,d]
 case rem=>obtain⟨d,e⟩:=hv;exact .of_pure e fun w=>by simp[binOp,Op.intDiv,d]
 all_goals exact .of_pure hv fun w=>by simp[binOp,Op.intArith,Op.intBits,Op.intCmp]
theorem yM(c:BinOp)(t:TypeId)(k k':IntKind)(a b:Int):binOp c t (.int k a) (.int k' b)=binOp c 0 (.int k a) (.int k' b):=by
 cases c<;>rfl
theorem Di{c:BinOp}{t:TypeId}{a b:ByteArray}{K:RK}{h:ae}(hv:JY c a b K):Yv P (binOp c t (.string a) (.string b)) K h:=by
 cases c<;>simp only[JY]at hv
 case add=>
  obtain⟨e,d⟩:=hv;refine .of_pure d fun w=>?_
  have:¬(((a.size+b.size:Nat):Int)>IntKind.i64.max):=by
   have:IntKind.i64.max=9223372036854775807:=by decide
   omega
  simp only[binOp,Op.stringOp,if_neg this,Sem.run_pure]
 all_goals exact .of_pure hv fun w=>by simp[binOp,Op.stringOp]
theorem mn{t:TypeId}{x y:Value}{b:Bool}{w:World}(h:∀d,(Op.equalIn (d+1) t x y).run P w=.ok b w):(Op.equal t x y).run P w=.ok b w:=h 9999
theorem yA{t:TypeId}{e:TypeId}(b:P.underlying t=some (.pointer e))(a:Option Addr)(w:World):(Op.equal t (.pointer a) (.pointer none)).run P w=.ok a.isNone w:=by
 refine mn fun d=>?_
 simp only[Op.equalIn,Sem.run_bind,aq b,Result.andThen_ok];cases a<;>rfl
theorem Eg(e:BinOp)(t:TypeId)(x y:Operand)(a b:Value)(h:∀c d,a=.agg c→b=.agg d→False)(hi:a=.nilIface→b=.nilIface→False)(w:World):
  (eqGuard e t x y a b).run P w=.ok () w:=by
 cases e;case eql=>cases a<;>cases b<;>first|rfl|exact(hi rfl rfl).elim|exact(h _ _ rfl rfl).elim
 case neq=>cases a<;>cases b<;>first|rfl|exact(hi rfl rfl).elim|exact(h _ _ rfl rfl).elim
 all_goals rfl
theorem Gz(t:TypeId)(x y:Value)(hx:∀k a,x≠ .int k a)(d:∀s,x≠ .string s)(c:∀k a,x≠ .float k a)(hc:∀k a b,x≠ .complex k a b):binOp .eql t x y=(do pure (.bool (←Op.equal t x y))):=by
 cases x<;>first|rfl|exact absurd rfl (hx _ _)|exact absurd rfl (d _)|exact absurd rfl (c _ _)|exact absurd rfl (hc _ _ _)
theorem Gy(t:TypeId)(x y:Value)(hx:∀k a,x≠ .int k a)(d:∀s,x≠ .string s)(c:∀k a,x≠ .float k a)(hc:∀k a b,x≠ .complex k a b):binOp .neq t x y=(do pure (.bool (!(←Op.equal t x y)))):=by
 cases x<;>first|rfl|exact absurd rfl (hx _ _)|exact absurd rfl (d _)|exact absurd rfl (c _ _)|exact absurd rfl (hc _ _ _)
theorem mo{t:TypeId}{neg:Bool}{x y:Value}{b:Bool}{w:World}(d:(Op.equal t x y).run P w=.ok b w)
  (hx:∀k a,x≠ .int k a)(e:∀s,x≠ .string s)(c:∀k a,x≠ .float k a)(hc:∀k a b,x≠ .complex k a b):
  (binOp (bif neg then .neq else .eql) t x y).run P w=.ok (.bool (bif neg then !b else b)) w:=by
 cases neg
 ·simp only[cond_false,Gz t x y hx e c hc,Sem.run_bind,d,Result.andThen_ok,Sem.run_pure]
 ·simp only[cond_true,Gy t x y hx e c hc,Sem.run_bind,d,Result.andThen_ok,Sem.run_pure]
theorem yg{t:TypeId}{neg:Bool}{x y:Value}{K:RK}{h:ae}(hv:Ja P t neg x y K):
  (∀c d,x=.agg c→y=.agg d→False)∧(x=.nilIface→y=.nilIface→False)∧Yv P (binOp (bif neg then .neq else .eql) t x y) K h:=by
 unfold Ja at hv;split at hv
 ·rename_i e a hu
  refine⟨nofun,nofun,.of_pure hv fun w=>?_⟩
  exact mo (yA hu a w) nofun nofun nofun nofun
 ·rename_i k e a hu
  refine⟨nofun,nofun,.of_pure hv fun w=>?_⟩
  refine mo ?_ nofun nofun nofun nofun;refine mn fun d=>?_
  simp only[Op.equalIn,Sem.run_bind,aq hu,Result.andThen_ok];cases a<;>rfl
 ·rename_i e a _ _ _ _ hu
  refine⟨nofun,nofun,.of_pure hv fun w=>?_⟩
  refine mo ?_ nofun nofun nofun nofun;refine mn fun d=>?_
  simp only[Op.equalIn,Sem.run_bind,aq hu,Result.andThen_ok];cases a<;>rfl
 ·exact hv.elim
theorem qO{w:World}{a b:Addr}(d:de w.heap a)(f:de w.heap b):(sameAddr a b).run P w=.ok (a==b) w:=by
 obtain⟨i,k,d,v⟩:=d;obtain⟨cb,eb,f,sb⟩:=f;by_cases c:a.block=b.block
 ·simp[sameAddr,c]
 ·have g:(a==b)=false:=by
   rw[beq_eq_false_iff_ne];intro e;exact c (by rw[e])
  have j:w.shape? a.block=some (k,i.size):=by simp[World.shape?,d]
  have s:w.shape? b.block=some (eb,cb.size):=by simp[World.shape?,f]
  have o:∀n,w.frozen? ({block:=a.block,off:=n}:Addr)=false:=fun n=>by simp[World.frozen?,d]
  have q:∀n,w.frozen? ({block:=b.block,off:=n}:Addr)=false:=fun n=>by simp[World.frozen?,f]
  have u:w.frozen? a=false:=by simp[World.frozen?,d]
  have p:w.frozen? b=false:=by simp[World.frozen?,f]
  obtain⟨m,hm⟩:∃m,i.size=m+1:=⟨i.size-1,by omega⟩
  obtain⟨n,t⟩:∃n,cb.size=n+1:=⟨cb.size-1,by omega⟩
  simp[sameAddr,c,noView,viewAt,mayBeOne,stringish,j,s,o,q,u,p,hm,t,g]
theorem vB{t:TypeId}{neg:Bool}{x y:Value}{K:RK}{h:ae}(hv:JH P t neg x y K h):
  (∀c d,x=.agg c→y=.agg d→False)∧(x=.nilIface→y=.nilIface→False)∧Yv P (binOp (bif neg then .neq else .eql) t x y) K h:=by
 unfold JH at hv;split at hv
 ·rename_i a b hu
  refine⟨nofun,nofun,.of_pure hv fun w=>?_⟩
  refine mo ?_ nofun nofun nofun nofun;refine mn fun d=>?_
  simp only[Op.equalIn,Sem.run_bind,aq hu,Result.andThen_ok,Sem.run_pure]
 ·rename_i e a b hu
  obtain⟨hz,j,n⟩:=hv;refine⟨nofun,nofun,_,_,n,j,fun w m=>?_⟩
  refine mo ?_ nofun nofun nofun nofun;have f:aX (bo P e) 0=false:=by
   cases hb:aX (bo P e) 0 with
   |false=>rfl
   |true=>rw[hb]at hz;exact hz.elim
  have g:bo P e≠0:=fun e=>by rw[e]at f;cases f
  refine mn fun d=>?_
  simp only[Op.equalIn,Sem.run_bind,aq hu,Result.andThen_ok];cases a with
  |none=>cases b<;>rfl
  |some a=>cases b with
   |none=>rfl
   |some b=>
    obtain⟨i,k⟩:=m a b rfl rfl;simp only[Sem.run_bind,sK f,Result.andThen_ok,ne_eq,g,not_false_eq_true,if_true,qO i k];rfl
 ·exact hv.elim
theorem DE{e:BinOp}{t:TypeId}{x y:Value}{K:RK}{h:ae}(hv:Kc P e t x y K h):
  (∀c d,x=.agg c→y=.agg d→False)∧(x=.nilIface→y=.nilIface→False)∧Yv P (binOp e t x y) K h:=by
 unfold Kc at hv;split at hv
 ·rename_i k a k' b
  refine⟨nofun,nofun,?_⟩;rw[yM];split at hv
  ·exact tR (k':=k') (.inl rfl) hv
  ·exact tR (k':=k') (.inr rfl) hv
  ·rename_i h1 h2
   cases hk:Bc k' k with
   |false=>rw[hk]at hv;exact hv.elim
   |true=>rw[hk]at hv;have:=uf hk;subst this;exact D2 hv ⟨h1,h2⟩
 ·exact⟨nofun,nofun,Di hv⟩
 ·split at hv
  ·exact vB (neg:=false) hv
  ·exact vB (neg:=true) hv
  ·exact hv.elim
theorem Cp{u:TypeId}{cs:List Value}{off:Nat}(a:((P.underlying u).isSome&&(P.info? u).isSome)=true){w:World}(c:qm P u=true):
  (part u cs.toArray off).run P w=.ok (.agg ((cs.drop off).take (bo P u)).toArray) w:=by
 simp only[aS,cI]at a;obtain⟨a,i,hi⟩:=a;have b:(sizeOf u).run P w=.ok (bo P u) w:=by simp[sizeOf,bR hi,bo,hi]
 simp only[part,Sem.run_bind,ql hi a,Result.andThen_ok,c,if_true,b,Sem.run_pure];congr 2
 apply bZ;simp[eI]
theorem zU{u:TypeId}{cs:List Value}{off:Nat}(a:((P.underlying u).isSome&&(P.info? u).isSome)=true){w:World}(c:qm P u=false){v:Value}(hc:cs[off]? =some v):
  (part u cs.toArray off).run P w=.ok v w:=by
 simp only[aS,cI]at a;obtain⟨a,i,hi⟩:=a;have b:cs.toArray[off]? =some v:=by simpa using hc
 simp only[part,Sem.run_bind,ql hi a,Result.andThen_ok,c,dT,if_false,b,Sem.run_pure]
theorem sQ{h:ae}:∀{l m:List (Option Addr×Option Addr)},na h (l++m)→na h l∧na h m
 | [],_,h=>⟨trivial,h⟩
 |(_,_)::_,_,h=>⟨⟨h.1,(sQ h.2).1⟩,(sQ h.2).2⟩
theorem CM{t:TypeId}{x y:Value}{b:Bool}{l:List (Option Addr×Option Addr)}(f:HN P t x y=some (b,l)){w:World}(j:na w.heap l)(d:Nat):
  (Op.equalIn (d+1) t x y).run P w=.ok b w:=by
 unfold HN at f;split at f
 ·rename_i k0 k a k' c hu
  cases hk:Bc k' k with
  |false=>rw[hk]at f;cases f
  |true=>
   rw[hk]at f;have:=uf hk;subst this;cases f;exact run_equalIn_int w d t _ _ _ _ hu
 ·rename_i a c hu
  cases f;exact run_equalIn_bool w d t _ _ hu
 ·rename_i a c hu
  cases f;exact run_equalIn_string w d t _ _ hu
 ·rename_i e a c hu
  cases hz:aX (bo P e) 0 with
  |true=>rw[hz]at f;cases f
  |false=>
   rw[hz]at f;cases f;have g:bo P e≠0:=fun e=>by rw[e]at hz;cases hz
   simp only[Op.equalIn,Sem.run_bind,aq hu,Result.andThen_ok];cases a with
   |none=>cases c<;>rfl
   |some a=>cases c with
    |none=>rfl
    |some c=>
     obtain⟨i,m⟩:=j.1 a c rfl rfl;simp only[Sem.run_bind,sK hz,Result.andThen_ok,ne_eq,g,not_false_eq_true,if_true,qO i m];rfl
 ·cases f
theorem yB{rec:TypeId→List Value→List Value→Option (Bool×List (Option Addr×Option Addr))}{d:Nat}{xs ys:List Value}{w:World}
  (e:∀t us vs b l,rec t us vs=some (b,l)→na w.heap l→(Op.equalIn (d+1) t (.agg us.toArray) (.agg vs.toArray)).run P w=.ok b w):
  ∀(fs:List Field) (b:Bool) (l:List (Option Addr×Option Addr)),Jl P rec xs ys fs=some (b,l)→na w.heap l→(Op.eqFields (d+1) xs.toArray ys.toArray fs).run P w=.ok b w
 | [],b,l,he,_=>by cases he;rfl
 |f::fs,b,l,he,hp=>by
  unfold Jl at he;split at he
  ·cases he
  ·rename_i hn
   cases hi:((P.underlying f.type).isSome&&(P.info? f.type).isSome)with
   |false=>rw[hi]at he;cases he
   |true=>
    rw[hi]at he;simp only[cond_true]at he;split at he
    ·rename_i b1 l1 c m e1 e2
     cases he;obtain⟨g,i⟩:=sQ hp;have a:=yB e fs c m e2 i;have j:∃u v,(part f.type xs.toArray f.offset).run P w=.ok u w∧(part f.type ys.toArray f.offset).run P w=.ok v w∧(Op.equalIn (d+1) f.type u v).run P w=.ok b1 w:=by
      cases ha:qm P f.type with
      |true=>
       rw[ha]at e1;exact⟨_,_,Cp hi ha,Cp hi ha,e _ _ _ _ _ e1 g⟩
      |false=>
       rw[ha]at e1;simp only[cond_false]at e1;split at e1
       ·rename_i x y hx hy
        exact⟨x,y,zU hi ha hx,zU hi ha hy,CM e1 g d⟩
       ·cases e1
     obtain⟨u,v,o,k,n⟩:=j;simp only[Op.eqFields,ne_eq,hn,not_false_eq_true,if_true,Sem.run_bind,o,k,n,Result.andThen_ok];cases b1
     ·rfl
     ·exact a
    ·cases he
theorem s9{w:World}:∀(m:Nat) (t:TypeId) (xs ys:List Value) (b:Bool) (l:List (Option Addr×Option Addr)),HO P m t xs ys=some (b,l)→na w.heap l→
  ∀d,(Op.equalIn (d+m+1) t (.agg xs.toArray) (.agg ys.toArray)).run P w=.ok b w
 |0,_,_,_,_,_,he,_,_=>by cases he
 |m+1,t,xs,ys,b,l,he,hp,d=>by
  unfold HO at he;split at he
  ·rename_i fs hu
   cases hs:P.stoodInHeld t with
   |true=>rw[hs]at he;cases he
   |false=>
    rw[hs]at he;have a:P.fieldsOf t=fs:=by simp[Program.fieldsOf,hu]
    rw[run_equalIn_struct w _ t _ _ (by rw[a];exact hu) hs,a];exact yB (d:=d+m) (fun t e vs b l c f=>s9 m t e vs b l c f d) fs.toList b l he hp
  ·cases he
theorem An{neg b:Bool}{K:RK}{h:ae}{l:List (Option Addr×Option Addr)}(a:LY neg b K h l):∃S,K (.bool (bif neg then !b else b)) S∧Iu S h∧∀h',Iu S h'→na h' l:=by
 cases l with
 |nil=>exact⟨none,a,trivial,fun _ _=>trivial⟩
 |cons p l=>exact⟨_,a.2,a.1,fun _ h=>h⟩
theorem DF{e:BinOp}{t:TypeId}{xs ys:Array Value}{x y:Operand}{K:RK}{h:ae}(a:Kd P e t xs.toList ys.toList K h):
  ∃v S,K v S∧Iu S h∧∀w:World,Iu S w.heap→(do eqGuard e t x y (.agg xs) (.agg ys);binOp e t (.agg xs) (.agg ys):Sem Value).run P w=.ok v w:=by
 unfold Kd at a;cases hg:P.eqGuardType P.depth t with
 |true=>rw[hg]at a;exact a.elim
 |false=>
  rw[hg]at a;simp only[cond_false]at a;split at a
  ·split at a
   ·rename_i b l he
    obtain⟨S,c,d,f⟩:=An a;refine⟨_,S,c,d,fun w g=>?_⟩
    have:=s9 10 t _ _ b l he (f _ g) 9989;simp only[Array.toArray_toList]at this;simp only[Sem.run_bind,run_eqGuard_agg w _ t x y _ _ hg,Result.andThen_ok,run_eql_struct,this];rfl
   ·exact a.elim
  ·split at a
   ·rename_i b l he
    obtain⟨S,c,d,f⟩:=An a;refine⟨_,S,c,d,fun w g=>?_⟩
    have:=s9 10 t _ _ b l he (f _ g) 9989;simp only[Array.toArray_toList]at this;simp only[Sem.run_bind,run_eqGuard_agg w _ t x y _ _ hg,Result.andThen_ok,run_neq_struct,this];rfl
   ·exact a.elim
  ·exact a.elim
theorem F1{a:UnOp}{x:Value}{K:RK}{h:ae}(hv:LJ a x K):Yv P (Op.unary a x) K h:=by
 unfold LJ at hv;split at hv
 ·exact .of_pure hv fun w=>rfl
 ·exact .of_pure hv fun w=>rfl
 ·exact .of_pure hv fun w=>rfl
 ·exact hv.elim
theorem yK:∀(l:List UInt8) (s:ByteArray),(l.map fun b=>((b.toNat:Nat):Int)).foldl (fun r n=>r.push (eC n.toNat)) s=⟨s.data++l.toArray⟩
 | [],s=>by simp
 |b::l,s=>by
  simp only[fa,List.foldl_cons];rw[yK l];congr 1
  have:eC ((b.toNat:Nat):Int).toNat=b:=by simp
  rw[this];apply bZ;simp[ByteArray.push]
theorem yn{e:TypeId}(h:D1 P e=true):P.underlying e=some (.int .u8):=by
 unfold D1 at h;split at h
 ·assumption
 ·cases h
theorem Ca{w:World}{a:Addr}{vs:List Value}(b:Row w.heap a vs):(loadCells a vs.length).run P w=.ok vs.toArray w:=by
 have:=run_firstCells_some (P:=P) w 1 vs.length a 0 0 vs (by simp) fun j v hv=>by rw[←pg];exact b j v hv
 simpa[Builtin.firstCells]using this
theorem Cg{f g:TypeId}{x:Value}{K:RK}{h:ae}(hv:Hh P f g x K h):Yv P (convert f g x) K h:=by
 unfold Hh at hv;split at hv
 ·rename_i k k' k'' n h1 h2
  exact .of_pure hv fun w=>by simp only[convert,Sem.run_bind,aq h1,aq h2,Result.andThen_ok];rfl
 ·rename_i s h1 h2
  exact .of_pure hv fun w=>by simp only[convert,Sem.run_bind,aq h1,aq h2,Result.andThen_ok];rfl
 ·rename_i e a n c h1 h2
  cases hu:D1 P e with
  |false=>rw[hu]at hv;exact hv.elim
  |true=>
   rw[hu]at hv;obtain⟨s,q,y⟩:=hv;refine⟨_,_,y,q,fun w m=>?_⟩
   rw[run_convert_bytes_string w f g e a n c h1 (yn hu) h2];obtain⟨o,m⟩:=m;rcases m with p|⟨b,rfl,u⟩
   ·have j:s=ByteArray.empty:=by
     have:s.data.toList= []:=by simpa[cN]using p
     cases s with
     |mk d=>simp at this;subst this;rfl
    cases a with
    |none=>rw[j];rfl
    |some b=>
     have t:n=0:=by rw[←o,p];rfl
     subst t;have:=Ca (P:=P) (w:=w) (a:=b) (vs:= []) fun i v hv=>by simp at hv
     rw[run_bytesToString w b 0 c [] (by simpa using this),j];rfl
   ·have:=Ca (P:=P) u
    rw[o]at this;rw[run_bytesToString w b n c (s.data.toList.map fun b=>((b.toNat:Nat):Int)) (by rw[this,List.map_map];rfl),yK]
    cases s;simp[ByteArray.empty,ByteArray.emptyWithCapacity];try rfl
 ·exact hv.elim
theorem DL{u:TypeId}{cs:Array Value}{off:Nat}{K:RK}{h:ae}(b:∃d,P.underlying u=some d)(hi:∃i,P.info? u=some i)
  (hv:bif qm P u then K (.agg ((cs.toList.drop off).take (bo P u)).toArray) none else(match cs.toList[off]? with|some v=>K v none|none=>False)):Yv P (part u cs off) K h:=by
 obtain⟨i,hi⟩:=hi;cases ha:qm P u with
 |true=>
  rw[ha]at hv;refine .of_pure hv fun w=>?_
  have c:(sizeOf u).run P w=.ok (bo P u) w:=by simp[sizeOf,bR hi,bo,hi]
  simp only[part,Sem.run_bind,ql hi b,Result.andThen_ok,ha,if_true,c,Sem.run_pure];congr 2
  apply bZ;simp[eI]
 |false=>
  rw[ha]at hv;simp only[cond_false]at hv;cases hc:cs.toList[off]? with
  |none=>rw[hc]at hv;exact hv.elim
  |some v=>
   rw[hc]at hv;refine .of_pure hv fun w=>?_
   have a:cs[off]? =some v:=by simpa using hc
   simp only[part,Sem.run_bind,ql hi b,Result.andThen_ok,ha,dT,if_false,a,Sem.run_pure]
def qI(P:Program)(v:Option Value)(d y n:Nat):Prop:=
 match v with
 |some x=>∀c w,(Instr.sliceBound x y c).run P w=.ok n w
 |none=>n=d
theorem jn{v:Option Value}{d y:Nat}{K:Nat→Prop}(hv:Ij v d y K):∃n,K n∧qI P v d y n:=by
 unfold Ij at hv;split at hv
 ·exact⟨d,hv,rfl⟩
 ·rename_i k i
  obtain⟨⟨b,a⟩,e⟩:=hv;refine⟨i.toNat,e,fun c w=>?_⟩
  simp[Instr.sliceBound,asIntOf,b,a]
 ·exact hv.elim
theorem lF{c:Bool}{len cap n l:Nat}{lo hi:Option Value}(b:qI P hi len cap n)(a:qI P lo 0 n l)(w:World):
  (Instr.sliceBounds c len cap lo hi none).run P w=.ok (l,n,cap) w:=by
 cases hi with
 |none=>
  cases lo with
  |none=>simp only[qI]at b a;subst b;subst a;simp[Instr.sliceBounds]
  |some lo=>simp only[qI]at b a;subst b;simp[Instr.sliceBounds,a]
 |some hi=>
  cases lo with
  |none=>simp only[qI]at b a;subst a;simp[Instr.sliceBounds,b]
  |some lo=>simp only[qI]at b a;simp[Instr.sliceBounds,b,a]
theorem vg{c:Bool}{len cap n l m:Nat}{lo:Option Value}{hi d:Value}(hm:qI P (some d) 0 cap m)(b:qI P (some hi) 0 m n)(a:qI P lo 0 n l)(w:World):
  (Instr.sliceBounds c len cap lo (some hi) (some d)).run P w=.ok (l,n,m) w:=by
 cases lo with
 |none=>simp only[qI]at hm b a;subst a;simp[Instr.sliceBounds,hm,b]
 |some lo=>simp only[qI]at hm b a;simp[Instr.sliceBounds,hm,b,a]
theorem sH(a:Option Addr)(l m size:Nat):(if m=l then a else a.map (·.add (l*size)))=aM a l m size:=by
 unfold aM;split
 ·rfl
 ·congr 1;funext x;rw[pg]
theorem lI{t:TypeId}{K:Prop}(h:Ht P t K):K∧∀w,(sizeOf t).run P w=.ok (bo P t) w:=by
 unfold Ht at h;cases hi:P.info? t with
 |none=>rw[hi]at h;exact h.elim
 |some i=>rw[hi]at h;exact⟨h,fun w=>by simp[sizeOf,bR hi,bo,hi]⟩
theorem AU{t:TypeId}{x:Value}{f:Nat}{K:RK}{h:ae}(hv:DC P t x f K):Yv P (Instr.field t x f) K h:=by
 unfold DC at hv;split at hv
 ·rename_i u off cs hf
  obtain⟨j,g,c,a,rfl,rfl⟩:=rc hf;cases hb:((P.underlying g.type).isSome&&(P.info? g.type).isSome)with
  |false=>rw[hb]at hv;exact hv.elim
  |true=>
   rw[hb]at hv;simp only[aS,cI]at hb;obtain⟨v,S,i,e,b⟩:=DL (cs:=cs) (off:=g.offset) (h:=h) hb.1 hb.2 hv;refine⟨v,S,i,e,fun w d=>?_⟩
   have:=b w d;simp only[Instr.field,Sem.run_bind,aq c,Result.andThen_ok,a,asAgg,Sem.run_pure,this]
 ·exact hv.elim
theorem vm{t:TypeId}{x i:Value}{K:RK}{h:ae}(hv:sO P t x i K):Yv P (Instr.indexAt t x i) K h:=by
 unfold sO at hv;split at hv
 ·rename_i n e a k i hu
  obtain⟨⟨⟨d,c⟩,f⟩,hz⟩:=lI hv;refine .of_pure f fun w=>?_
  simp[Instr.indexAt,asIntOf,aq hu,Instr.sureAddr,d,c,hz,pg]
 ·rename_i e b len cap k i hu
  obtain⟨⟨⟨d,c⟩,a,rfl,f⟩,hz⟩:=lI hv;refine .of_pure f fun w=>?_
  simp[Instr.indexAt,asIntOf,aq hu,d,c,hz,pg]
 ·exact hv.elim
theorem AS{t:TypeId}{x i:Value}{K:RK}{h:ae}(hv:DB P t x i K):Yv P (Instr.index t x i) K h:=by
 unfold DB at hv;split at hv
 ·rename_i s k i hu
  obtain⟨b,c,a,d⟩:=hv;refine .of_pure d fun w=>?_
  simp[Instr.index,asIntOf,aq hu,c,a]
 ·exact hv.elim
theorem AQ{t:TypeId}{x:Value}{lo hi d:Option Value}{K:RK}{h:ae}(hv:Dy P t x lo hi d K):Yv P (Instr.sliceAt t x lo hi d) K h:=by
 unfold Dy at hv;split at hv
 ·rename_i s hu
  cases d with
  |some _=>exact hv.elim
  |none=>
   obtain⟨n,hv,c⟩:=jn (P:=P) hv;obtain⟨l,hv,b⟩:=jn (P:=P) hv;refine .of_pure hv fun w=>?_
   simp[Instr.sliceAt,Instr.slice,aq hu,lF c b]
 ·rename_i e a len cap hu
  obtain⟨hv,hz⟩:=lI hv;cases d with
  |none=>
   obtain⟨n,hv,c⟩:=jn (P:=P) hv;obtain⟨l,hv,b⟩:=jn (P:=P) hv;refine .of_pure hv fun w=>?_
   simp[Instr.sliceAt,Instr.slice,aq hu,lF c b,hz,sH]
  |some m=>
   cases hi with
   |none=>exact hv.elim
   |some hi=>
    obtain⟨g,hv,hm⟩:=jn (P:=P) hv;obtain⟨n,hv,c⟩:=jn (P:=P) hv;obtain⟨l,hv,b⟩:=jn (P:=P) hv;refine .of_pure hv fun w=>?_
    simp[Instr.sliceAt,Instr.slice,aq hu,vg hm c b,hz,sH]
 ·rename_i n e a hu
  obtain⟨hv,hz⟩:=lI hv;cases d with
  |some _=>exact hv.elim
  |none=>
   obtain⟨m,hv,c⟩:=jn (P:=P) hv;obtain⟨l,hv,b⟩:=jn (P:=P) hv;refine .of_pure hv fun w=>?_
   have f:(some (if n=l then a else a.add (l*bo P e)))=aM (some a) l n (bo P e):=by
    rw[←sH];split<;>rfl
   simp[Instr.sliceAt,aq hu,Instr.sureAddr,lF c b,hz,f]
 ·exact hv.elim
def kW(d:TypeDesc)(c:CK):Prop:=(∃i,d=.int i∧c=.int i)∨(d=.string∧c=.str)∨(d=.bool∧c=.bool)
theorem qW{t:TypeId}{c:CK}{e:TypeId}(h:CA P t=some (c,e)):∃k d,P.underlying t=some (.map k e)∧P.underlying k=some d∧kW d c:=by
 unfold CA at h;split at h
 ·rename_i k e' hu
  split at h
  ·rename_i i hk
   simp only[bj.injEq,qo.injEq]at h;obtain⟨rfl,rfl⟩:=h;exact⟨k,_,hu,hk,.inl ⟨i,rfl,rfl⟩⟩
  ·rename_i hk
   simp only[bj.injEq,qo.injEq]at h;obtain⟨rfl,rfl⟩:=h;exact⟨k,_,hu,hk,.inr (.inl ⟨rfl,rfl⟩)⟩
  ·rename_i hk
   simp only[bj.injEq,qo.injEq]at h;obtain⟨rfl,rfl⟩:=h;exact⟨k,_,hu,hk,.inr (.inr ⟨rfl,rfl⟩)⟩
  ·cases h
 ·cases h
theorem wq{d:TypeDesc}{c:CK}(hd:kW d c)(x y:c.den):Instr.sameNow d (c.enc x) (c.enc y)=some (fg (c.enc x) (c.enc y)):=by
 rcases hd with⟨i,rfl,rfl⟩|⟨rfl,rfl⟩|⟨rfl,rfl⟩
 ·simp[Instr.sameNow,CK.enc,fg]
 ·simp[Instr.sameNow,CK.enc,fg]
 ·simp[Instr.sameNow,CK.enc,fg]
theorem wF{d:TypeDesc}{c:CK}(hd:kW d c)(x:c.den):∀(es:List MapEntry) (i:Nat),ym c es→
  ∃r,Instr.findNow d (c.enc x) es i=some r∧r.map (·.2)=CL (c.enc x) es
 | [],i,_=>⟨none,rfl,rfl⟩
 |e::es,i,h=>by
  obtain⟨y,f⟩:=h e (by simp);have a:=wq hd x y;rw[←f]at a;simp only[Instr.findNow,CL];cases hb:fg (c.enc x) e.key with
  |true=>rw[a,hb];exact⟨some (i,e.val),rfl,rfl⟩
  |false=>rw[a,hb];exact wF hd x es (i+1) fun e' b=>h e' (by simp[b])
theorem CV{a:Bool}{k:TypeId}{d:TypeDesc}{c:CK}(hd:kW d c)(b:P.underlying k=some d)(v:Value)(n:Nat)(w:World):(Instr.checkKey a (n+1) k v).run P w=.ok () w:=by
 unfold Instr.checkKey;simp only[Sem.run_bind,aq b,Result.andThen_ok];rcases hd with⟨i,rfl,rfl⟩|⟨rfl,rfl⟩|⟨rfl,rfl⟩<;>rfl
theorem qe{k:TypeId}{d:TypeDesc}{c:CK}(hd:kW d c)(b:P.underlying k=some d)(x:c.den){es:List MapEntry}(h:ym c es)(w:World):
  ∃r,(Instr.findKey k (c.enc x) es).run P w=.ok r w∧Instr.findNow d (c.enc x) es 0=some r∧r.map (·.2)=CL (c.enc x) es:=by
 obtain⟨r,a,hm⟩:=wF hd x es 0 h;refine⟨r,?_,a,hm⟩;simp only[Instr.findKey,Sem.run_bind,aq b,Result.andThen_ok,a,Sem.run_pure]
theorem iG{w:World}{r:Nat}{es:Array MapEntry}{a:Nat}(h:w.heap[r]? =some (.map es a)):(getObj r).run P w=.ok (.map es a) w:=by
 simp only[getObj,Sem.run,h]
theorem jO{a:Bool}{k:TypeId}{d:TypeDesc}{c:CK}(hd:kW d c)(b:P.underlying k=some d)(v:Value)(w:World):(Instr.checkKey a 10000 k v).run P w=.ok () w:=
 CV hd b v 9999 w
theorem DS{t:TypeId}{c:CK}{e k:TypeId}{d:TypeDesc}(p:P.underlying t=some (.map k e))(f:P.underlying k=some d)(hd:kW d c){m:Option Nat}{x:c.den}{z v:Value}{b n:Bool}{w:World}
  (hz:(zeroValue e).run P w=.ok z w)(hm:Ew c z w.heap m (c.enc x) v b):
  (Instr.lookup t (.map m) (c.enc x) n).run P w=.ok (bif n then .tuple #[v,.bool b]else v) w:=by
 cases m with
 |none=>
  obtain⟨rfl,rfl⟩:=hm;simp only[Instr.lookup,Sem.run_bind,aq p,Result.andThen_ok,Sem.run_pure,jO hd f];obtain⟨r,g,i,a⟩:=qe (P:=P) hd f x (es:= []) (fun _ h=>by cases h) w
  simp only[Instr.findNow,bj.injEq]at i;subst i;simp[g,hz]
 |some r=>
  obtain⟨es,j,q,o,hv⟩:=hm;simp only[Instr.lookup,Sem.run_bind,aq p,Result.andThen_ok,iG q,Sem.run_pure,jO hd f];obtain⟨r,g,i,a⟩:=qe (P:=P) hd f x o w;simp only[g,Result.andThen_ok];cases r with
  |none=>
   simp only[Option.map_none]at a;rw[←a]at hv;obtain⟨rfl,rfl⟩:=hv;simp[hz]
  |some r=>
   simp only[hE]at a;rw[←a]at hv;obtain⟨rfl,rfl⟩:=hv;cases n<;>rfl
theorem du{e:TypeId}{z:Value}(h:rY P e=some z)(w:World):(zeroValue e).run P w=.ok z w:=by
 unfold rY at h;cases hi:P.info? e with
 |none=>rw[hi]at h;cases h
 |some i=>rw[hi]at h;simp only at h;simp[zeroValue,bR hi,h]
theorem za{t:TypeId}{x k:Value}{a:Bool}{K:RK}{h:ae}(hv:AR P t x k a K h):Yv P (Instr.lookup t x k a) K h:=by
 unfold AR at hv;split at hv
 ·rename_i c e m hc
  obtain⟨n,d,g,j,hd⟩:=qW hc;obtain⟨o,rfl,hv⟩:=CK.dec_sound hv;split at hv
  ·rename_i ek z hek hz
   obtain⟨y,b,hm,i⟩:=hv;exact⟨_,_,i,hm,fun w f=>DS g j hd (du hz w) f⟩
  ·exact hv.elim
 ·exact hv.elim
theorem wx{w:World}{b cap s q:Nat}{buf:Array Value}{a t:Bool}(h:w.heap[b]? =some (.chan cap buf a s q t)):(getObj b).run P w=.ok (.chan cap buf a s q t) w:=by
 simp only[getObj,Sem.run,h]
theorem Dz{t:TypeId}{x:Value}{ats:Array TypeId}{ty:TypeId}{K:RK}{h:ae}(a:ats[0]? =some t) (hv:Ka P t x K h):Yv P (Builtin.len_ ats ty #[x]) K h:=by
 unfold Ka at hv;split at hv
 ·rename_i s hu
  exact .of_pure hv fun w=>by simp[Builtin.len_,a,aq hu,goInt]
 ·rename_i n e _ hu
  exact .of_pure hv fun w=>by simp[Builtin.len_,a,aq hu,goInt]
 ·rename_i e b n c hu
  exact .of_pure hv fun w=>by simp[Builtin.len_,a,aq hu,goInt]
 ·rename_i k e m hu
  obtain⟨n,hm,i⟩:=hv;refine⟨_,_,i,hm,fun w d=>?_⟩
  cases m with
  |none=>
   have:n=0:=d;subst this;simp[Builtin.len_,a,aq hu,goInt]
  |some r=>
   obtain⟨es,g,f,rfl⟩:=d;simp[Builtin.len_,a,aq hu,goInt,iG f]
 ·rename_i k e m hu
  obtain⟨n,hm,i⟩:=hv;refine⟨_,_,i,hm,fun w d=>?_⟩
  cases m with
  |none=>
   have:n=0:=d;subst this;simp[Builtin.len_,a,aq hu,goInt]
  |some r=>
   obtain⟨cap,buf,j,s,q,f,rfl⟩:=d;simp[Builtin.len_,a,aq hu,goInt,wx f]
 ·exact hv.elim
theorem DD{t:TypeId}{x:Value}{ats:Array TypeId}{ty:TypeId}{K:RK}{h:ae}(a:ats[0]? =some t) (hv:Kb P t x K h):Yv P (Builtin.cap_ ats ty #[x]) K h:=by
 unfold Kb at hv;split at hv
 ·rename_i e b n c hu
  exact .of_pure hv fun w=>by simp[Builtin.cap_,a,aq hu,goInt]
 ·rename_i k e m hu
  obtain⟨n,hm,g⟩:=hv;refine⟨_,_,g,hm,fun w d=>?_⟩
  cases m with
  |none=>
   have:n=0:=d;subst this;simp[Builtin.cap_,a,aq hu,goInt]
  |some r=>
   obtain⟨cap,buf,i,s,q,f,rfl⟩:=d;simp[Builtin.cap_,a,aq hu,goInt,wx f]
 ·exact hv.elim
theorem tZ{c:Bool}{k:IntKind}:∀{vs:List Value} {a:Int} {f:Value→Prop},A8 c k a vs f→∃v,f v∧∀w,(vs.foldlM (bif c then Builtin.max2 else Builtin.min2) (Value.int k a):Sem Value).run P w=.ok v w
 | [],a,f,h=>⟨_,h,fun w=>by simp⟩
 | .int k' b::vs,a,f,h=>by
  simp only[A8]at h;cases hk:Bc k' k with
  |false=>rw[hk]at h;exact h.elim
  |true=>
   rw[hk]at h;have:=uf hk;subst this;obtain⟨v,d,e⟩:=tZ h;refine⟨v,d,fun w=>?_⟩
   rw[←e w];cases c<;>simp[List.foldlM_cons,Builtin.max2,Builtin.min2]
theorem sd{a:Bool}{vs:List Value}{f:Value→Prop}{ats:Array TypeId}{ty:TypeId}(h:xq a vs f):∃v,f v∧∀w,(bif a then Builtin.max_ ats ty vs.toArray else Builtin.min_ ats ty vs.toArray).run P w=.ok v w:=by
 unfold xq at h;split at h
 ·obtain⟨v,b,c⟩:=tZ (P:=P) h
  refine⟨v,b,fun w=>?_⟩
  have:=c w;cases a<;>simpa[Builtin.max_,Builtin.min_]using this
 ·exact h.elim
theorem Gk{a:Addr}{e:MapEntry}{w:World}(j:a.off=0)(h:Ey w.heap a.block e):(Instr.entry (.pointer (some a))).run P w=.ok (.tuple #[e.key,e.val]) w:=by
 obtain⟨m,c,f,d,g,es,hi,n,hm,k⟩:=h;obtain⟨b,off,i⟩:=a;simp only at j hi;subst j;have o:(getObj b).run P w=.ok (.mapIter (some m) c f d) w:=by simp only[getObj,Sem.run,hi]
 simp[Instr.entry,o,n,iG hm,k]
def zB:DV→Value→Prop
 | .t,v=>v=.bool true
 | .f,v=>v=.bool false
 | .u,v=>v=undef
 | .x,_=>True
def DecOk(d:pT)(r:bJ):Prop:=∀t,mN d t=.x∨∃v,gG r t=some v∧zB (mN d t) v
theorem DecOk.at{d:pT}{r:bJ}(h:DecOk d r){t:Nat}{v:Value}(hv:gG r t=some v):zB (mN d t) v:=by
 rcases h t with e|⟨u,a,b⟩
 ·rw[e];trivial
 ·rw[hv]at a;cases a;exact b
theorem pD{d:pT}{r:bJ}(hd:DecOk d r){o:Operand}{v:Value}(h:cp r o=some v):zB (uj d o) v:=by
 cases o with
 |tmp t=>exact hd.at h
 |const c=>
  simp[cp]at h;subst h;cases c with
  |bool b=>cases b<;>exact rfl
  |_=>trivial
 |global g=>trivial
 |func f=>trivial
theorem wC{t:TypeId}(h:mf P t=true):∃d,P.underlying t=some d∧∀m,d≠ .interface m:=by
 unfold mf at h;split at h
 ·cases h
 ·rename_i d hd;exact⟨_,hd,fun m e=>by subst e;simp_all⟩
 ·cases h
theorem ud{t:TypeId}{v:Value}(h:mf P t=true)(w:World):(Instr.makeInterface t v).run P w=.ok (.iface t v) w:=by
 obtain⟨d,hd,a⟩:=wC h;simp only[Instr.makeInterface,Sem.run_bind,aq hd,Result.andThen_ok];cases d<;>first|exact absurd rfl (a _)|rfl
theorem xK{t u:TypeId}{v:Value}(h:mf P t=true)(w:World):(Instr.typeAssert (.iface t v) u t false).run P w=.ok v w:=by
 obtain⟨d,hd,a⟩:=wC h;simp only[Instr.typeAssert,Sem.run_bind,aq hd,Result.andThen_ok];cases d<;>first|exact absurd rfl (a _)|(simp[Sem.run_pure])
theorem gE{t:TypeId}{z:List Value}(h:mz P t=some z):∃v,rY P t=some v∧v.cells.toList=z:=by
 unfold mz at h;cases hz:rY P t with
 |none=>rw[hz]at h;cases h
 |some v=>rw[hz]at h;simp only[bj.injEq]at h;exact⟨v,rfl,h⟩
theorem mU{t:TypeId}{v:Value}(h:rY P t=some v):∃i,P.info? t=some i∧i.zero=some v:=by
 unfold rY at h;cases hi:P.info? t with
 |none=>rw[hi]at h;cases h
 |some i=>rw[hi]at h;exact⟨i,rfl,h⟩
theorem Ia{A B:List Value}{x:Value}{m:Nat}(h:A.length=m):(A++x::B).take (m+1)=A++ [x]:=by
 subst h;rw[List.take_append,bc (by omega),show A.length+1-A.length=1 by omega];rfl
theorem Ib{A B:List Value}{x:Value}{m n:Nat}(h:A.length=m):(A++x::B).drop (m+1+n)=B.drop n:=by
 subst h;rw[List.drop_append,List.drop_eq_nil_of_le (by omega),show A.length+1+n-A.length=n+1 by omega];rfl
theorem CI(off:Nat):∀(xs:List Value) (k:Nat) (arr:Array Value),off+k+xs.length≤arr.size→
  (xs.zipIdx k).foldl (fun cs (c,j)=>cs.setIfInBounds (off+j) c) arr=(Ck arr.toList (off+k) xs).toArray
 | [],k,arr,_=>by simp[Ck]
 |x::xs,k,arr,h=>by
  simp only[aL]at h;simp only[List.zipIdx_cons,List.foldl_cons];rw[CI off xs (k+1) _ (by simp;omega)];have hm:off+k<arr.toList.length:=by simp;omega
  have b:arr.toList.set (off+k) x=arr.toList.take (off+k)++x::arr.toList.drop (off+k+1):=by
   rw[List.set_eq_take_append_cons_drop,if_pos hm]
  have a:(arr.toList.take (off+k)).length=off+k:=by simp;omega
  congr 1
  unfold Ck;rw[Array.toList_setIfInBounds,b,←Nat.add_assoc,Ia a,Ib a];simp only[List.append_assoc,dd,List.nil_append,aL,List.drop_drop];rw[show off+k+1+xs.length=off+k+(xs.length+1) by omega]
theorem oe{a:Nat→Option (Nat×Nat)}:∀(parts:List (Nat×Value)) (cs cs':List Value),wG a cs parts=some cs'→Instr.fill a cs.toArray parts=some cs'.toArray
 | [],cs,cs',h=>by simp only[wG,bj.injEq]at h;subst h;rfl
 |(i,v)::rest,cs,cs',h=>by
  simp only[wG]at h;cases hp:a i with
  |none=>rw[hp]at h;cases h
  |some os=>
   obtain⟨off,size⟩:=os;rw[hp]at h;simp only at h;cases hb:(aX v.cells.toList.length size&&Nat.ble (off+v.cells.toList.length) cs.length)with
   |false=>rw[hb]at h;cases h
   |true=>
    rw[hb]at h;simp only[aS]at hb;have b:=aF hb.1;have g:=lz hb.2;have d:=oe rest _ _ h;have e:v.cells.size=size:=by simpa using b
    have c:off+v.cells.size≤cs.length:=by simpa using g
    have f:Array.foldl (fun cs x=>cs.setIfInBounds (off+x.2) x.1) cs.toArray v.cells.zipIdx=(Ck cs off v.cells.toList).toArray:=by
     have:=CI off v.cells.toList 0 cs.toArray (by simpa using c);simp only[dN]at this;rw[←this,←Array.foldl_toList];congr 1
     simp[Array.toList_zipIdx]
    simp only[Instr.fill,hp];rw[if_neg (by simp[e];omega)];simp only[f];exact d
theorem kI{N:Nat}{r:bJ}{a:Act}(h:Agree N r a):∀{ps:List (Nat×Operand)} {vs:List (Nat×Value)},me r ps=some vs→ps.map (fun p=>(p.1,a.eval p.2))=vs
 | [],vs,hv=>by simp[me]at hv;subst hv;rfl
 |(i,o)::ps,vs,hv=>by
  simp only[me]at hv;cases ho:cp r o with
  |none=>simp[ho]at hv
  |some v=>cases hos:me r ps with
   |none=>simp[ho,hos]at hv
   |some us=>simp[ho,hos]at hv;subst hv;simp[gH h ho,kI h hos]
theorem mg{t:TypeId}(h:rH P t=true)(w:World):(sizeOf t).run P w=.ok (bo P t) w:=by
 unfold rH at h;cases hi:P.info? t with
 |none=>rw[hi]at h;cases h
 |some i=>simp[sizeOf,bR hi,bo,hi]
theorem yc(w:World):∀l:List Field,uq P l=true→(l.mapM fun f:Field=>((do pure (f.offset,←sizeOf f.type)):Sem (Nat×Nat))).run P w=.ok (l.map fun f:Field=>(f.offset,bo P f.type)) w
 | [],_=>rfl
 |f::l,h=>by
  simp only[uq]at h;cases hf:rH P f.type with
  |false=>rw[hf]at h;cases h
  |true=>
   rw[hf]at h;rw[List.mapM_cons];simp only[Sem.run_bind,mg hf,Result.andThen_ok,Sem.run_pure,yc w l h,fa]
theorem uo{t:TypeId}{ps:Array (Nat×Value)}{cs:List Value}(a:Bq P t ps.toList=some cs)(w:World):
  (Instr.build t ps).run P w=.ok (.agg cs.toArray) w:=by
 unfold Bq at a;split at a
 ·rename_i fs z hu hz
  obtain⟨v,hz,hv⟩:=gE hz;cases ha:uq P fs.toList with
  |false=>rw[ha]at a;cases a
  |true=>
   rw[ha]at a;have g:(fs.mapM fun f:Field=>((do pure (f.offset,←sizeOf f.type)):Sem (Nat×Nat))).run P w=.ok (fs.map fun f:Field=>(f.offset,bo P f.type)) w:=by
    rw[Array.mapM_eq_mapM_toList];simp only[Sem.run_map,yc w fs.toList ha,Result.andThen_ok];congr 1
    apply bZ;simp
   have d:=oe _ _ _ a;have b:(fun i:Nat=>(fs.map fun f:Field=>(f.offset,bo P f.type))[i]?)=DK P fs.toList:=by
    funext i;unfold DK;rw[Array.getElem?_map,aO];cases fs[i]?<;>rfl
   have c:v.cells=z.toArray:=by rw[←hv]
   rw[cond_true]at a;rw[←b]at d;simp only[Instr.build,Sem.run_bind,du hz,Result.andThen_ok,aq hu,g,c,d,Sem.run_pure]
 ·rename_i n e z hu hz
  obtain⟨v,hz,hv⟩:=gE hz;cases ha:rH P e with
  |false=>rw[ha]at a;cases a
  |true=>
   rw[ha]at a;have d:=oe _ _ _ a;have c:v.cells=z.toArray:=by rw[←hv]
   simp only[Instr.build,Sem.run_bind,du hz,Result.andThen_ok,aq hu,mg ha,c,d,Sem.run_pure]
 ·cases a
theorem vl{ek:Option (Kind×Kind)}{o:Oper}{r:bJ}{K:RK}{h:ae}{N:Nat}{a:Act}(Q:Agree N r a)(g:uY P ek o.op r K h)(d:pT)(hd:DecOk d r):
  ∃v S,K v S∧Iu S h∧zB (BM d o.op) v∧∀w:World,Iu S w.heap→(execOp a.eval o).run P w=.ok (.value v) w:=by
 have j:∀{x:Operand} {v:Value},cp r x=some v→a.eval x=v:=fun h=>gH Q h
 have fin:∀{s:Sem Value},Yv P s K h→BM d o.op=.x→(∀w,(execOp a.eval o).run P w=(do pure (Next.value (←s)):Sem Next).run P w)→
   ∃v S,K v S∧Iu S h∧zB (BM d o.op) v∧∀w:World,Iu S w.heap→(execOp a.eval o).run P w=.ok (.value v) w:=by
  rintro s ⟨v,S,n,B,z⟩ hx E;exact⟨v,S,n,B,by rw[hx];trivial,fun w C=>by rw[E w];exact fZ (z w C)⟩
 obtain⟨O,M,type,kc,F,G⟩:=o;simp only at g fin⊢;cases M with
 |move x=>
  simp only[uY]at g;split at g
  ·rename_i v hv
   exact⟨v,none,g,trivial,pD hd hv,fun w _=>by simp[execOp,j hv]⟩
  ·exact g.elim
 |assign x=>
  simp only[uY]at g;split at g
  ·rename_i v hv
   exact⟨v,none,g,trivial,pD hd hv,fun w _=>by simp[execOp,j hv]⟩
  ·exact g.elim
 |pick c x y=>
  simp only[uY]at g;split at g
  ·rename_i vc va vb hc hx R
   unfold JD at g;split at g
   ·rename_i cb
    have I:=pD hd hc;have W:=pD hd hx;have V:=pD hd R;have E:∀w,(execOp a.eval ⟨O,.pick c x y,type,kc,F,G⟩).run P w=.ok (.value (if cb then va else vb)) w:=fun w=>by
     simp[execOp,j hc,j hx,j R,asBool]
    have H:zB (BM d (.pick c x y)) (if cb then va else vb):=by
     simp only[BM];cases hcd:uj d c with
     |t=>
      rw[hcd]at I;have:cb=true:=by simpa[zB]using I
      subst this;exact W
     |f=>
      rw[hcd]at I;have:cb=false:=by simpa[zB]using I
      subst this;exact V
     |u=>trivial
     |x=>trivial
    split at g
    ·rename_i bx by'
     have L:(if cb=true then Value.bool bx else Value.bool by')=.bool (bif cb then bx else by'):=by cases cb<;>rfl
     rw[L]at H;exact⟨_,none,g,trivial,H,fun w _=>by rw[E w,L]⟩
    ·cases cb
     ·exact⟨_,none,g,trivial,H,fun w _=>E w⟩
     ·exact⟨_,none,g,trivial,H,fun w _=>E w⟩
   ·exact g.elim
  ·exact g.elim
 |load t x=>
  simp only[uY]at g;split at g
  ·rename_i v hv
   obtain⟨u,S,n,B,z⟩:=wA g;exact fin ⟨u,some S,n,B,z⟩ rfl fun w=>by simp only[execOp,j hv]
  ·exact g.elim
 |nilCheck x=>
  simp only[uY]at g;split at g
  ·rename_i p hv
   obtain⟨b,rfl,n⟩:=g;exact⟨_,none,n,trivial,trivial,fun w _=>by simp[execOp,j hv]⟩
  ·exact g.elim
 |binOp M t x y yt=>
  simp only[uY]at g;split at g
  ·rename_i v u hv hu
   obtain⟨X,S,n,B,z⟩:=DF (x:=x) (y:=y) g;refine⟨X,S,n,B,trivial,fun w C=>?_⟩
   simp only[execOp,j hv,j hu];exact fZ (z w C)
  ·rename_i v u hna hv hu
   have go:(∀c d,v=.agg c→u=.agg d→False)∧(v=.nilIface→u=.nilIface→False)∧Yv P (binOp M t v u) K h:=by
    split at g
    ·exact yg (neg:=false) g
    ·exact yg (neg:=true) g
    ·exact DE g
   obtain⟨h1,h2,X,S,n,B,z⟩:=go;refine⟨X,S,n,B,trivial,fun w C=>?_⟩
   simp only[execOp,j hv,j hu];simp[Eg M t x y v u h1 h2 w,z w C]
  ·exact g.elim
 |unOp M t x=>
  simp only[uY]at g;split at g
  ·rename_i v hv
   obtain⟨u,S,n,B,z⟩:=F1 (P:=P) (h:=h) g;refine⟨u,S,n,B,?_,fun w C=>by simp only[execOp,j hv];exact fZ (z w C)⟩
   have J:=pD hd hv;cases M<;>try trivial
   simp only[BM];have A:=z {(default:World)with heap:=h} B;cases hx:uj d x with
   |t=>
    rw[hx]at J;have:v=.bool true:=J;subst this;simp[Op.unary]at A;exact A.symm
   |f=>
    rw[hx]at J;have:v=.bool false:=J;subst this;simp[Op.unary]at A;exact A.symm
   |u=>trivial
   |x=>trivial
  ·exact g.elim
 |convert s t x=>
  simp only[uY]at g;split at g
  ·rename_i v hv
   exact fin (Cg g) rfl fun w=>by simp only[execOp,j hv]
  ·exact g.elim
 |extract x i=>
  simp only[uY]at g;split at g
  ·rename_i vs hv
   split at g
   ·rename_i u hu
    have T:vs[i]? =some u:=by simpa using hu
    exact⟨u,none,g,trivial,trivial,fun w _=>by simp[execOp,j hv,Instr.extract,T]⟩
   ·exact g.elim
  ·exact g.elim
 |fieldAddr t x f=>
  simp only[uY]at g;split at g
  ·rename_i b u off hv hf
   exact fin (w7 hf g) rfl fun w=>by simp only[execOp,j hv]
  ·exact g.elim
 |field t x f=>
  simp only[uY]at g;split at g
  ·rename_i v hv
   exact fin (AU g) rfl fun w=>by simp only[execOp,j hv]
  ·exact g.elim
 |indexAddr t x i=>
  simp only[uY]at g;split at g
  ·rename_i v u hv hu
   exact fin (vm g) rfl fun w=>by simp only[execOp,j hv,j hu]
  ·exact g.elim
 |index t x i=>
  simp only[uY]at g;split at g
  ·rename_i v u hv hu
   exact fin (AS g) rfl fun w=>by simp only[execOp,j hv,j hu]
  ·exact g.elim
 |slice t x lo hi mx=>
  simp only[uY]at g;split at g
  ·rename_i v l h' m hv hl hh hm
   have Y:∀{x:Option Operand} {v:Option Value},zV r x=some v→x.map a.eval=v:=by
    intro x v hx;cases x with
    |none=>simp[zV]at hx;subst hx;rfl
    |some x=>
     simp only[zV]at hx;cases E:cp r x with
     |none=>simp[E]at hx
     |some u=>simp[E]at hx;subst hx;simp[j E]
   exact fin (AQ g) rfl fun w=>by simp only[execOp,j hv,Y hl,Y hh,Y hm]
  ·exact g.elim
 |lookup t x k ok=>
  simp only[uY]at g;split at g
  ·rename_i v u hv hu
   exact fin (za g) rfl fun w=>by simp only[execOp,j hv,j hu]
  ·exact g.elim
 |makeInterface t x=>
  simp only[uY]at g;split at g
  ·rename_i v hv
   cases hb:mf P t with
   |false=>rw[hb]at g;exact g.elim
   |true=>
    rw[hb,cond_true]at g;exact⟨_,none,g,trivial,trivial,fun w _=>by simp only[execOp,j hv];exact fZ (ud hb w)⟩
  ·exact g.elim
 |typeAssert x u t ok=>
  simp only[uY]at g;split at g
  ·rename_i v hv
   cases ok with
   |true=>exact g.elim
   |false=>
    rw[cond_false]at g;unfold E4 at g;cases hb:mf P t with
    |false=>rw[hb]at g;exact g.elim
    |true=>
     rw[hb,cond_true]at g;split at g
     ·obtain⟨y,rfl,n⟩:=g
      exact⟨_,none,n,trivial,trivial,fun w _=>by simp only[execOp,j hv];exact fZ (xK hb w)⟩
     ·exact g.elim
  ·exact g.elim
 |makeFunc fn first cap=>
  simp only[uY]at g;split at g
  ·rename_i vs us hv hu
   have L:=iZ Q hv;have e2:=iZ Q hu;refine⟨_,none,g,trivial,trivial,fun w _=>?_⟩
   have U:first.map a.eval=vs.toArray:=by rw[←L];apply bZ;simp
   have f2:cap.map a.eval=us.toArray:=by rw[←e2];apply bZ;simp
   simp[execOp,Instr.makeFunc,U,f2]
  ·exact g.elim
 |entry it=>
  simp only[uY]at g;split at g
  ·rename_i b kk vk hv
   obtain⟨Z,e,x,y,hi,n,R,hK⟩:=g;refine⟨_,_,hK,hi,trivial,fun w C=>?_⟩
   simp only[execOp,j hv];refine fZ ?_;rw[Gk Z C,n,R]
  ·exact g.elim
 |call c=>
  simp only[uY]at g;have D:∀{b:Builtin} {vs:List Value},c.callee=.builtin b→j9 r c.args.toList=some vs→∃cs:Array Bool,∀w,(execOp a.eval ⟨O,.call c,type,kc,F,G⟩).run P w=
    (builtin b c.argTypes type cs vs.toArray).run P w:=by
   intro b vs hc q;have L:=iZ Q q;have U:c.args.map a.eval=vs.toArray:=by rw[←L];apply bZ;simp
   refine⟨c.args.map fun| .const _=>true|_=>false,fun w=>?_⟩
   simp[execOp,resolve,hc,U,invoke];rfl
  split at g
  ·rename_i v t hc q hat
   obtain⟨cs,D⟩:=D hc q;obtain⟨u,S,n,B,z⟩:=Dz (ats:=c.argTypes) (ty:=type) (by rw[←aO,hat];rfl) g;exact⟨u,S,n,B,trivial,fun w C=>by rw[D w];simp only[builtin];exact fZ (z w C)⟩
  ·rename_i v t hc q hat
   obtain⟨cs,D⟩:=D hc q;obtain⟨u,S,n,B,z⟩:=DD (h:=h) (ats:=c.argTypes) (ty:=type) (by rw[←aO,hat];rfl) g;exact⟨u,S,n,B,trivial,fun w C=>by rw[D w];simp only[builtin];exact fZ (z w C)⟩
  ·rename_i vs hc q
   obtain⟨cs,D⟩:=D hc q;obtain⟨u,n,z⟩:=sd (P:=P) (ats:=c.argTypes) (ty:=type) g;exact⟨u,none,n,trivial,trivial,fun w _=>by rw[D w];simp only[builtin];exact fZ (z w)⟩
  ·rename_i vs hc q
   obtain⟨cs,D⟩:=D hc q;obtain⟨u,n,z⟩:=sd (P:=P) (ats:=c.argTypes) (ty:=type) g;exact⟨u,none,n,trivial,trivial,fun w _=>by rw[D w];simp only[builtin];exact fZ (z w)⟩
  ·exact g.elim
 |build t ps=>
  simp only[uY]at g;split at g
  ·rename_i vs q
   split at g
   ·rename_i cs hcs
    refine⟨_,none,g,trivial,trivial,fun w _=>?_⟩
    have hp:(ps.map fun x=>(x.1,a.eval x.2))=vs.toArray:=by
     rw[←kI Q q];apply bZ;simp
    have E:=uo (ps:=vs.toArray) (by simpa using hcs) w;simp only[execOp];rw[show(ps.map fun(i,x)=>(i,a.eval x))=vs.toArray from hp]
    exact fZ E
   ·exact g.elim
  ·exact g.elim
 |_=>simp only[uY]at g
end Go.Lift
namespace Go.Lift
open Go
variable {P:Program}
def CW(P:Program)(s:Sem Next)(K:WK)(w:World):Prop:=
 (∃v w',s.run P w=.ok (.value v) w'∧Tame w w'∧K v w'.heap)∨
 (∃w',s.run P w=.ok .skip w'∧Tame w w'∧K undef w'.heap)∨
 (∃f args,s.run P w=.ok (.enter f args) w∧Calls P f args w fun e w'=>Tame w w'∧∃v,e=.returned v∧K v w'.heap)∨
 (∃l fn tmps assign body,s.run P w=.ok (.round l fn tmps assign body) w∧
  ∀(c:Frame) (cs:List Frame),∃b w',Tame w w'∧K (.bool b) w'.heap∧Steps P (lone (Frame.round l fn tmps assign body .normal) (c::cs) w) (lone (c.finish (.bool b)) cs w'))
def Wv(P:Program)(s:Sem Value)(K:WK)(w:World):Prop:=∃v w',s.run P w=.ok v w'∧Tame w w'∧K v w'.heap
theorem Wv.out{s:Sem Value}{K:WK}{w:World}(h:Wv P s K w):CW P (do pure (Next.value (←s))) K w:=by
 obtain⟨v,w',b,a,c⟩:=h;exact .inl ⟨v,w',fZ b,a,c⟩
def Wu(P:Program)(s:Sem Unit)(K:WK)(w:World):Prop:=∃w',s.run P w=.ok () w'∧Tame w w'∧K undef w'.heap
theorem Wu.out{s:Sem Unit}{K:WK}{w:World}(h:Wu P s K w):CW P (do s;pure Next.skip) K w:=by
 obtain⟨w',b,a,c⟩:=h;exact .inr (.inl ⟨w',Hd b,a,c⟩)
def gF(w:World)(h:ae):World:={w with heap:=h}
theorem di(w:World)(h:ae):Tame w (gF w h):=⟨rfl,rfl,rfl⟩
theorem gO(e:TypeId)(cs:Array Value)(w:World):(newRow e cs).run P w=.ok (aU w.heap) (gF w (hnew w.heap cs.toList e)):=by
 simp[newRow,newObj,Sem.run,aU,gF,hnew,bind,Sem.bind,pure]
theorem x8(o:Obj)(w:World):(newObj o).run P w=.ok w.heap.size (gF w (w.heap.push o)):=rfl
theorem zj{h:ae}{a b:Addr}(v:Value)(c:a≠b):aQ (hset h a v) b=aQ h b:=
 World.cell?_setCell_other {(default:World)with heap:=h} a b v c
theorem w6{h:ae}{a:Addr}{u:Value}(v:Value)(hc:aQ h a=some u):aQ (hset h a v) a=some v:=
 World.cell?_setCell_same {(default:World)with heap:=h} a v hc
theorem Be{h:ae}{a b:Addr}(v:Value):xw (hset h a v) b=xw h b:=
 World.frozen?_setCell {(default:World)with heap:=h} a b v
theorem Wr.hset{h:ae}{a b:Addr}(v:Value)(f:Wr h b):Wr (hset h a v) b:=by
 obtain⟨⟨u,c⟩,d⟩:=f;refine⟨?_,by rw[Be];exact d⟩
 by_cases e:a=b
 ·subst e;exact⟨v,w6 v c⟩
 ·exact⟨u,by rw[zj v e];exact c⟩
theorem Dt{w:World}{a:Addr}{v:Value}(hv:∀cs,v≠ .agg cs)(d:∀cs,v≠ .tuple cs)(g:Wr w.heap a):(store a v).run P w=.ok () (gF w (hset w.heap a v)):=by
 obtain⟨⟨u,f⟩,e⟩:=g;have b:w.cell? a=some u:=f;have c:w.frozen? a=false:=e;cases v<;>first|exact absurd rfl (hv _)|exact absurd rfl (d _)|(simp only[store,Sem.run,b,c];rfl)
theorem A6{v:Value}{vs:List Value}(h:bE (v::vs)=true):(∀cs,v≠ .agg cs)∧(∀cs,v≠ .tuple cs)∧bE vs=true:=by
 simp only[bE,aS]at h;refine⟨fun cs e=>?_,fun cs e=>?_,h.2⟩<;>(subst e;exact absurd h.1 (by simp))
theorem m8{a:Addr}:∀(vs:List Value) (i:Nat) (w:World),bE vs=true→(∀j,j<vs.length→Wr w.heap (adr a (i+j)))→
  (storeCells a vs i).run P w=.ok () (gF w (fi w.heap a i vs))
 | [],i,w,_,_=>rfl
 |v::vs,i,w,b,hw=>by
  obtain⟨f,d,b⟩:=A6 b;have c:=hw 0 (by simp);simp only[dN]at c;have e:a.add i=adr a i:=(pg a i).symm;simp only[storeCells,e,Sem.run_bind,Dt f d c,Result.andThen_ok];rw[m8 vs (i+1) (gF w (hset w.heap (adr a i) v)) b fun j g=>?_]
  ·rfl
  ·have:=hw (j+1) (by simp only[aL];omega)
   rw[show i+1+j=i+(j+1) by omega]
   exact this.hset v
theorem Ah{a:Addr}(m:Nat):∀(vs:List Value) (i:Nat) (h:ae),fi h (adr a m) i vs=fi h a (m+i) vs
 | [],_,_=>rfl
 |v::vs,i,h=>by
  simp only[fi];rw[Ah m vs (i+1),uu];rfl
theorem Az{t:TypeId}{a v:Value}{K:WK}{w:World}(c:De P t a v K w.heap):Wu P (Instr.storeAt t a v) K w:=by
 unfold De at c;split at c
 ·rename_i a
  cases hb:(aX v.cells.toList.length (bo P t)&&bE v.cells.toList)with
  |false=>rw[hb]at c;exact c.elim
  |true=>
   rw[hb]at c;simp only[aS]at hb;have n:=aF hb.1;obtain⟨c,hz⟩:=lI c;have i:v.cells.size=bo P t:=by simpa using n
   have m:(∀j,j<v.cells.toList.length→Wr w.heap (adr a (0+j)))→(Instr.storeAt t (.pointer (some a)) v).run P w=.ok () (gF w (fi w.heap a 0 v.cells.toList)):=by
    intro d;have:=m8 (P:=P) v.cells.toList 0 w hb.2 d;simp[Instr.storeAt,Instr.sureAddr,storeVar,hz,i,this]
   split at c
   ·rename_i u hu
    obtain⟨d,k⟩:=c;refine⟨_,m (fun j f=>?_),di _ _,?_⟩
    ·rw[hu]at f;simp only[aL,List.length_nil]at f
     obtain rfl:j=0:=by omega
     exact d
    ·rw[hu];exact k
   ·obtain⟨d,k⟩:=c
    refine⟨_,m (fun j f=>?_),di _ _,k⟩
    rcases d with e|⟨b,g,d⟩
    ·rw[e]at f;cases f
    ·cases g;exact d j f
 ·exact c.elim
theorem gr(z:Array Value)(n:Nat):(Builtin.zeroCells z n).toList=cA n z.toList:=by
 have key:∀n,(List.range (n*z.size)).map (fun i=>z[i%z.size]!)=(fQ n z.toList).flatten:=by
  intro n;induction n with
  |zero=>simp
  |succ n ih=>
   rw[Nat.succ_mul,List.range_add,List.map_append,ih,List.replicate_succ',List.flatten_append];congr 1
   simp only[List.map_map,List.flatten_cons,List.flatten_nil,List.append_nil];apply List.ext_getElem
   ·simp
   ·intro i a b
    simp only[List.length_map,List.length_range]at a;simp[Nat.mod_eq_of_lt a,a,Nat.add_mod]
 simpa[Builtin.zeroCells,cA]using key n
theorem cC{t e:TypeId}(h:qy P t=some e):P.underlying t=some (.slice e):=by
 unfold qy at h;split at h
 ·rename_i e' hu;simp only[bj.injEq]at h;subst h;exact hu
 ·cases h
theorem EO{z:Value}{n:Nat}:((Array.range (n*z.cells.size)).map (z.cells[· %z.cells.size]!))=(cA n z.cells.toList).toArray:=by
 have:=gr z.cells n;unfold Builtin.zeroCells at this;apply bZ;rw[this]
theorem vF{t e:TypeId}{n:Nat}{ps:Array (Nat×Value)}{z cs:List Value}(p:qy P t=some e)(hz:mz P e=some z)(q:n*bo P e≤16777216)(j:z.length=bo P e)
  (m:wG (fun i=>some (i*bo P e,bo P e)) (cA n z) ps.toList=some cs)(w:World):
  (Instr.buildSlice t n ps).run P w=.ok (.slice (some (aU w.heap)) n n) (gF w (hnew w.heap cs e)):=by
 obtain⟨v,hv,c⟩:=gE hz;obtain⟨i,hi,o⟩:=mU hv;have k:(sizeOf e).run P w=.ok (bo P e) w:=by simp[sizeOf,bR hi,bo,hi]
 have d:v.cells.size=bo P e:=by rw[←j,←c];simp
 have g:=oe _ _ _ m;have a:((Array.range (n*bo P e)).map (fun i=>(if n*bo P e=0 then #[]else v.cells)[i%(if n*bo P e=0 then #[]else v.cells).size]!))=(cA n z).toArray:=by
  by_cases b:n*bo P e=0
  ·have:(cA n z).length=0:=by simp[cA,j,b]
   rw[bF.1 this];simp[b]
  ·simp only[if_neg b]
   rw[←d,EO,c]
 have f:¬(n*bo P e>2^24):=by omega
 simp only[Instr.buildSlice,Sem.run_bind,aq (cC p),Result.andThen_ok,k,if_neg f];by_cases b:n*bo P e=0
 ·simp only[if_pos b]at a
  simp only[if_pos b,Sem.run_bind,Sem.run_pure,Result.andThen_ok,a,g,gO]
 ·simp only[if_neg b]at a
  simp only[if_neg b,Sem.run_bind,Sem.run_pure,Result.andThen_ok,du hv,a,g,gO]
theorem FX{h:ae}{a:Addr}{vs:List Value}(b:Row h a vs):∀j v,vs[j]? =some v→aQ h (a.add j)=some v:=fun j v hv=>by
 rw[←pg];exact b j v hv
theorem rD{size n cap len:Nat}{b:Option Addr}{vs:List Value}{w:World}(d:SRow w.heap b (n*size) vs):(Builtin.firstCells size n (.slice b len cap)).run P w=.ok vs.toArray w:=by
 obtain⟨c,a⟩:=d;cases b with
 |none=>
  rcases a with rfl|⟨_,h,_⟩
  ·simp[Builtin.firstCells]
  ·cases h
 |some b=>
  refine run_firstCells_some w size n b len cap vs c fun j v hv=>?_
  rcases a with rfl|⟨_,h,a⟩
  ·cases hv
  ·cases h;exact FX a j v hv
theorem xT{a:Addr}{m:Nat}{xs:List Value}{w:World}(e:bE xs=true)(c:ph w.heap (some a) m xs):
  (storeCells (a.add m) xs).run P w=.ok () (gF w (fi w.heap a m xs)):=by
 rcases c with rfl|⟨b,d,c⟩
 ·rfl
 ·cases d
  have:=m8 (P:=P) (a:=adr a m) xs 0 w e fun j f=>by rw[uu,aC];exact c j f
  rw[←pg,this,Ah,dN]
set_option maxHeartbeats 1000000 in
theorem yO{t e u ty:TypeId}{b:Option Addr}{sl f c:Nat}{xs:List Value}{x:Value}{K:WK}{w:World}(G:qy P t=some e)(k:(∃e',P.underlying u=some (.slice e'))∨P.underlying u=some .string)
  (g:∀w,(Builtin.lenOf x).run P w=.ok c w)(hx:∀w':World,w'.heap=w.heap→(Builtin.firstCells (bo P e) c x).run P w'=.ok xs.toArray w')
  (hi:∃i,P.info? e=some i)
  (h:Im P e b sl f c xs K w.heap):Wv P (Builtin.append_ #[t,u] ty #[.slice b sl f,x]) K w:=by
 obtain⟨i,hi⟩:=hi;have j:bo P e=i.size:=by simp[bo,hi]
 have B:mC P e=i.bytes:=by simp[mC,hi]
 by_cases hc:sl+c≤f
 ·obtain⟨H,L,A⟩:=h.1 hc
  refine⟨_,_,?_,di w (dV w.heap b (sl*bo P e) xs),A⟩;cases b with
  |none=>
   have d:=hx w rfl;rw[j]at d;rcases k with⟨e',hd⟩|hd<;>(simp[Builtin.append_,aq (cC G),aq hd,sizeOf,bR hi,g,hc,d];rfl)
  |some a=>
   have s:=xT (P:=P) L H;have d:=hx w rfl;rw[j]at s d;rcases k with⟨e',hd⟩|hd<;>(simp[Builtin.append_,aq (cC G),aq hd,sizeOf,bR hi,g,hc,d,s,dV,j])
 ·obtain⟨n,z,J,hz,E,C,A⟩:=h.2 (by omega)
  obtain⟨v,hv,F⟩:=gE hz;obtain⟨M,p,I⟩:=mU hv;rw[hi]at p;cases p;rw[B]at E C;have o:¬i.bytes=0:=by omega
  have q:¬(281474976710656<Builtin.nextslicecap (sl+c) f*i.bytes):=by omega
  have d:=hx w.drew rfl;have m:(Builtin.firstCells (bo P e) sl (.slice b sl f)).run P w.drew=.ok n.toArray w.drew:=rD J;rw[j]at d m;have y:sl+c≤(Question.appendCap (sl+c) f e).cut (w.tape w.drawn (.appendCap (sl+c) f e)):=Nat.le_add_right _ _;refine⟨_,gF w.drew (hnew w.heap (n++xs++cA ((Question.appendCap (sl+c) f e).cut (w.tape w.drawn (.appendCap (sl+c) f e))-(sl+c)) z) e),?_,⟨rfl,rfl,rfl⟩,A _ y⟩
  have D:(Builtin.zeroCells v.cells ((Question.appendCap (sl+c) f e).cut (w.tape w.drawn (.appendCap (sl+c) f e))-(sl+c)))=(cA ((Question.appendCap (sl+c) f e).cut (w.tape w.drawn (.appendCap (sl+c) f e))-(sl+c)) z).toArray:=by
   apply bZ;rw[gr,F]
  rcases k with⟨e',hd⟩|hd<;>(simp[Builtin.append_,aq (cC G),aq hd,sizeOf,bR hi,g,hc,o,q,Question.forced,d,m,du hv,gO,D,aU];rfl)
theorem yo{t:TypeId}{K:Prop}(h:Ht P t K):∃i,P.info? t=some i:=by
 unfold Ht at h;cases hi:P.info? t with
 |none=>rw[hi]at h;exact h.elim
 |some i=>exact⟨i,rfl⟩
theorem ug{t:TypeId}(h:bo P t≠0):∃i,P.info? t=some i:=by
 cases hi:P.info? t with
 |none=>exact absurd (by simp[bo,hi]) h
 |some i=>exact⟨i,rfl⟩
theorem wL{size n:Nat}{x:ByteArray}{w:World}:(Builtin.firstCells size n (.string x)).run P w=.ok ((cN x).take n).toArray w:=by
 simp only[Builtin.firstCells,Sem.run_pure];congr 1
 apply bZ;simp[cN,lj,eI,←List.map_take]
theorem r7{t u ty:TypeId}{s x:Value}{K:WK}{w:World}(c:(∃e',P.underlying u=some (.slice e'))∨P.underlying u=some .string)(h:xh P t s x K w.heap):
  Wv P (Builtin.append_ #[t,u] ty #[s,x]) K w:=by
 unfold xh at h;split at h
 ·rename_i e b sl sc a xl xc ht
  have hi:=yo h;obtain⟨⟨xs,d,g⟩,hz⟩:=lI h;exact yO ht c (fun w=>rfl) (fun w' f=>rD (by rw[f];exact d)) hi g
 ·rename_i e b sl sc x ht
  cases hb:aX (bo P e) 1 with
  |false=>rw[hb]at h;exact h.elim
  |true=>
   rw[hb]at h;have i:=aF hb;have j:(cN x).length=x.size:=by simp[cN]
   refine yO ht c (fun w=>rfl) (fun w' _=>?_) (ug (by omega)) h
   rw[wL,bc (by omega)]
 ·exact h.elim
theorem uZ{n:Int}(b:0≤n)(a:n≤9223372036854775807):IntKind.i64.wrap n=n:=IntWalk.i64_in n ⟨by omega,a⟩
theorem Et{t e u ty:TypeId}{b:Option Addr}{sl g:Nat}{k0 k:IntKind}{l:Int}{z:List Value}{K:WK}{w:World}(A:qy P t=some e)(x:P.underlying u=some (.int k0))
  (hz:mz P e=some z)(R:z.length=bo P e)(V:0≤l)(Q:l*mC P e≤2^48)(X:l≤9223372036854775807)(Y:((sl+l.toNat:Nat):Int)≤9223372036854775807)
  (h:Im P e b sl g l.toNat (cA l.toNat z) K w.heap):Wv P (Builtin.append_ #[t,u] ty #[.slice b sl g,.int k l]) K w:=by
 obtain⟨v,hv,G⟩:=gE hz;obtain⟨i,hi,U⟩:=mU hv;have j:bo P e=i.size:=by simp[bo,hi]
 have D:mC P e=i.bytes:=by simp[mC,hi]
 have y:IntKind.wrap .i64 l=l:=uZ V X;have c:¬l<0:=by omega
 rw[D]at Q;have f:¬(281474976710656:Int)<l*i.bytes:=by omega
 have d:∀w':World,(asInt (.int k l)).run P w'=.ok l w':=fun w'=>rfl
 have B:(Builtin.zeroCells v.cells l.toNat)=(cA l.toNat z).toArray:=by apply bZ;rw[gr,G]
 have s:l.toNat*i.size=0→cA l.toNat z= []:=fun N=>by
  have H:(cA l.toNat z).length=l.toNat*i.size:=by rw[←j,←R];unfold cA;simp
  exact bF.1 (by rw[H,N])
 by_cases hc:sl+l.toNat≤g
 ·obtain⟨L,Q,I⟩:=h.1 hc
  refine⟨_,_,?_,di w (dV w.heap b (sl*bo P e) (cA l.toNat z)),I⟩;cases b with
  |none=>
   by_cases m:l.toNat*i.size=0
   ·simp[Builtin.append_,aq (cC A),aq x,sizeOf,bR hi,d,y,c,f,hc,m];rfl
   ·simp[Builtin.append_,aq (cC A),aq x,sizeOf,bR hi,d,y,c,f,hc,du hv];rfl
  |some a=>
   have n:=xT (P:=P) Q L;rw[j]at n;by_cases m:l.toNat*i.size=0
   ·rw[s m]at n
    simp[Builtin.append_,aq (cC A),aq x,sizeOf,bR hi,d,y,c,f,hc,n,dV,j,m,s m]
   ·simp[Builtin.append_,aq (cC A),aq x,sizeOf,bR hi,d,y,c,f,hc,n,dV,j,m,du hv,B]
 ·obtain⟨C,Z,W,F,O,M,I⟩:=h.2 (by omega)
  rw[hz]at F;cases F;rw[D]at O M;have S:¬i.bytes=0:=by omega
  have o:¬(281474976710656<Builtin.nextslicecap (sl+l.toNat) g*i.bytes):=by omega
  have T:¬(9223372036854775807:Int)<((sl:Int)+(l.toNat:Int)):=by omega
  have p:¬(9223372036854775807:Int)<((sl:Int)+max l 0):=by omega
  have q:(Builtin.firstCells (bo P e) sl (.slice b sl g)).run P w.drew=.ok C.toArray w.drew:=rD W;rw[j]at q;have J:sl+l.toNat≤(Question.appendCap (sl+l.toNat) g e).cut (w.tape w.drawn (.appendCap (sl+l.toNat) g e)):=Nat.le_add_right _ _;refine⟨_,gF w.drew (hnew w.heap (C++cA l.toNat z++cA ((Question.appendCap (sl+l.toNat) g e).cut (w.tape w.drawn (.appendCap (sl+l.toNat) g e))-(sl+l.toNat)) z) e),?_,⟨rfl,rfl,rfl⟩,I _ J⟩
  have E:(Builtin.zeroCells v.cells ((Question.appendCap (sl+l.toNat) g e).cut (w.tape w.drawn (.appendCap (sl+l.toNat) g e))-(sl+l.toNat)))=(cA ((Question.appendCap (sl+l.toNat) g e).cut (w.tape w.drawn (.appendCap (sl+l.toNat) g e))-(sl+l.toNat)) z).toArray:=by
   apply bZ;rw[gr,G]
  by_cases m:l.toNat*i.size=0
  ·rw[s m]at I⊢
   simp[Builtin.append_,aq (cC A),aq x,sizeOf,bR hi,d,y,c,f,hc,p,o,Question.forced,q,du hv,gO,E,aU,m];rfl
  ·simp[Builtin.append_,aq (cC A),aq x,sizeOf,bR hi,d,y,c,f,hc,p,o,Question.forced,q,du hv,gO,E,aU,m,B];rfl
theorem xH{t u ty:TypeId}{k0:IntKind}{s x:Value}{K:WK}{w:World}(d:P.underlying u=some (.int k0))(h:xI P t s x K w.heap):
  Wv P (Builtin.append_ #[t,u] ty #[s,x]) K w:=by
 unfold xI at h;split at h
 ·rename_i e b sl sc k l ht
  split at h
  ·rename_i z hz
   cases hb:aX z.length (bo P e)with
   |false=>rw[hb]at h;exact h.elim
   |true=>
    rw[hb]at h;obtain⟨⟨g,a,f,c⟩,i⟩:=h;exact Et ht d hz (aF hb) g a f c i
  ·exact h.elim
 ·exact h.elim
theorem jb:∀{a b:List Value},bE a=true→bE b=true→bE (a++b)=true
 | [],_,_,h=>h
 |v::a,b,h,k=>by
  simp only[bE,dd,aS]at h⊢;exact⟨h.1,jb h.2 k⟩
theorem tX{z:List Value}(h:bE z=true):∀n,bE (cA n z)=true
 |0=>rfl
 |n+1=>by
  have:cA (n+1) z=z++cA n z:=by simp[cA,List.replicate_succ]
  rw[this];exact jb h (tX h n)
theorem AA{t ty:TypeId}{x:Value}{K:WK}{w:World}(h:Df P t x K w.heap):Wv P (Builtin.clear_ #[t] ty #[x]) K w:=by
 unfold Df at h;split at h
 ·rename_i e a n c ht
  split at h
  ·rename_i z hz
   obtain⟨v,hv,d⟩:=gE hz;cases ho:bE z with
   |false=>rw[ho]at h;exact h.elim
   |true=>
    rw[ho]at h;obtain⟨g,i⟩:=h;refine⟨_,_,?_,di w (dV w.heap a 0 (cA n z)),i⟩;cases a with
    |none=>simp[Builtin.clear_,aq (cC ht)];rfl
    |some a=>
     cases n with
     |zero=>simp[Builtin.clear_,aq (cC ht)];rfl
     |succ n=>
      have b:=xT (P:=P) (tX ho (n+1)) g;rw[←pg,yQ]at b;have f:(Builtin.zeroCells v.cells (n+1)).toList=cA (n+1) z:=by rw[gr,d]
      simp[Builtin.clear_,aq (cC ht),du hv,f,b,dV]
  ·exact h.elim
 ·exact h.elim
theorem tY:∀(xs:List Value) (n:Nat),bE xs=true→bE (xs.take n)=true
 | [],n,_=>by simp[bE]
 |x::xs,0,_=>by simp[bE]
 |x::xs,n+1,h=>by
  simp only[bE,aS,List.take_succ_cons]at h⊢;exact⟨h.1,tY xs n h.2⟩
theorem zd(x:ByteArray):bE (cN x)=true:=by
 have:∀l:List UInt8,bE (l.map fun b=>.int .u8 (b.toNat:Int))=true:=by
  intro l;induction l with
  |nil=>rfl
  |cons b l ih=>simp[bE,ih]
 exact this _
theorem BS{t u ty:TypeId}{d s:Value}{K:WK}{w:World}(h:GV P t d s K w.heap):Wv P (Builtin.copy_ #[t,u] ty #[d,s]) K w:=by
 unfold GV at h;split at h
 ·rename_i e b dl dc a sl sc ht
  obtain⟨⟨xs,j,k,o,n⟩,hz⟩:=lI h;refine⟨_,_,?_,di w (dV w.heap b 0 xs),n⟩;have g:=rD (P:=P) (len:=sl) (cap:=sc) j;cases b with
  |none=>simp[Builtin.copy_,aq (cC ht),Builtin.lenOf,hz,g,goInt];rfl
  |some c=>
   have f:=xT (P:=P) (m:=0) o k;simp only[Addr.add,if_pos]at f;simp[Builtin.copy_,aq (cC ht),Builtin.lenOf,hz,g,goInt,f,dV]
 ·rename_i e b dl dc x ht
  cases hb:aX (bo P e) 1 with
  |false=>rw[hb]at h;exact h.elim
  |true=>
   rw[hb]at h;have o:=aF hb;obtain⟨i,hi⟩:=ug (P:=P) (t:=e) (by omega);have hz:(sizeOf e).run P w=.ok (bo P e) w:=by simp[sizeOf,bR hi,bo,hi]
   obtain⟨k,n⟩:=h;have q:(cN x).length=x.size:=by simp[cN]
   have p:(cN x).take (cK x.size dl)=(cN x).take dl:=by
    by_cases hx:x.size≤dl
    ·rw[show cK x.size dl=x.size from Nat.min_eq_left hx,bc (by omega),bc (by omega)]
    ·rw[show cK x.size dl=dl from Nat.min_eq_right (by omega)]
   have g:(Builtin.firstCells (bo P e) (cK x.size dl) (.string x)).run P w=.ok ((cN x).take dl).toArray w:=by
    rw[wL,p]
   refine⟨_,_,?_,di w (dV w.heap b 0 ((cN x).take dl)),n⟩;cases b with
   |none=>simp[Builtin.copy_,aq (cC ht),Builtin.lenOf,hz,g,goInt];rfl
   |some c=>
    have f:=xT (P:=P) (m:=0) (tY _ dl (zd x)) k;simp only[Addr.add,if_pos]at f;simp[Builtin.copy_,aq (cC ht),Builtin.lenOf,hz,g,goInt,f,dV]
 ·exact h.elim
theorem E5(k v:Value)(a:Nat):∀(es:List MapEntry),(match es.findIdx? (fun e=>fg k e.key)with
  |some i=>(es.modify i (fun e=>{e with key:=k,val:=v}),a)
  |none=>(es++ [{key:=k,val:=v,born:=a}],a+1))=DG k v a es
 | []=>rfl
 |e::es=>by
  have b:=E5 k v a es;simp only[DG,List.findIdx?_cons];cases hk:fg k e.key with
  |true=>simp[List.modify]
  |false=>
   simp only[dT,if_false];rw[←b];cases hf:es.findIdx? (fun e=>fg k e.key)with
   |none=>simp
   |some i=>simp[List.modify]
theorem ra{d:TypeDesc}{c:CK}(hd:kW d c)(x:c.den):∀(es:List MapEntry) (i:Nat),ym c es→
  Instr.findNow d (c.enc x) es i=some (match es.findIdx? (fun e=>fg (c.enc x) e.key)with
   |some j=>(es[j]?).map fun e=>(i+j,e.val)
   |none=>none)
 | [],i,_=>rfl
 |e::es,i,h=>by
  obtain⟨y,f⟩:=h e (by simp);have b:=wq hd x y;rw[←f]at b;have g:=ra hd x es (i+1) fun e' a=>h e' (by simp[a])
  simp only[Instr.findNow,List.findIdx?_cons,b];cases hb:fg (c.enc x) e.key with
  |true=>simp
  |false=>
   simp only[dT,if_false];rw[g];cases hf:es.findIdx? (fun e=>fg (c.enc x) e.key)with
   |none=>simp
   |some j=>simp[Nat.add_assoc,Nat.add_comm 1 j]
theorem w9{a b:ByteArray}(h:(a==b)=true):a=b:=by
 cases a with|mk a=>cases b with|mk b=>
 have h:(a==b)=true:=h;rw[eq_of_beq h]
theorem yL(a:ByteArray):(a==a)=true:=by
 cases a with|mk a=>
 exact beq_self_eq_true a
theorem AM{d:TypeDesc}{c:CK}(hd:kW d c)(x y:c.den)(h:fg (c.enc x) (c.enc y)=true):Instr.sameBits 10000 (c.enc y) (c.enc x)=true:=by
 rcases hd with⟨i,rfl,rfl⟩|⟨rfl,rfl⟩|⟨rfl,rfl⟩
 ·have h:x=y:=eq_of_beq (α:=Int) h
  subst h;have:∀n:Int,(i==i&&n==n)=true:=fun n=>by simp
  exact this x
 ·have h:x=y:=w9 h
  subst h;exact yL x
 ·have h:x=y:=eq_of_beq (α:=Bool) h
  subst h;exact beq_self_eq_true (α:=Bool) x
theorem p7{w:World}{r:Nat}{es:Array MapEntry}{a:Nat}{o:Obj}(h:w.heap[r]? =some (.map es a)):(setObj r o).run P w=.ok () (gF w (w.heap.setIfInBounds r o)):=by
 simp only[setObj,Sem.run,h];rfl
theorem DR{t k e:TypeId}{d:TypeDesc}{c:CK}(B:P.underlying t=some (.map k e))(u:P.underlying k=some d)(hd:kW d c){r:Nat}{x:c.den}{v:Value}{w:World}(hm:FF c w.heap r):
  (Instr.mapUpdate t (.map (some r)) (c.enc x) v).run P w=.ok () (gF w (Jc w.heap r (c.enc x) v)):=by
 obtain⟨es,a,j,f⟩:=hm;obtain⟨q,A,b,C⟩:=qe (P:=P) hd u x f w;rw[ra hd x es.toList 0 f]at b;have g:=E5 (c.enc x) v a es.toList;have n:Jc w.heap r (c.enc x) v=w.heap.setIfInBounds r (.map (DG (c.enc x) v a es.toList).1.toArray (DG (c.enc x) v a es.toList).2):=by
  simp only[Jc,j]
 rw[n,←g];simp only[Instr.mapUpdate,Sem.run_bind,aq B,Result.andThen_ok,iG j,jO hd u,A];cases hf:es.toList.findIdx? (fun e=>fg (c.enc x) e.key)with
 |none=>
  rw[hf]at b;simp only[bj.injEq]at b;subst b;simp only[p7 j];congr 4
  apply bZ;simp
 |some i=>
  rw[hf]at b;simp only[bj.injEq]at b;obtain⟨hi,s,_⟩:=List.findIdx?_eq_some_iff_getElem.1 hf;have p:es.toList[i]? =some es.toList[i]:=aj hi;rw[p]at b;simp only[hE,aC]at b;subst b;have m:es[i]? =some es.toList[i]:=by rw[←aO];exact p
  obtain⟨y,z⟩:=f es.toList[i] (List.getElem_mem hi);have o:Instr.sameBits 10000 (es.toList[i]).key (c.enc x)=true:=by
   rw[z]at s⊢;exact AM hd x y s
  simp only[m,hE,Option.getD_some,Instr.keyThatStays,o,if_true,Sem.run_bind,Sem.run_pure,Result.andThen_ok,p7 j];congr 4
  apply bZ;simp
theorem r6{t:TypeId}{m k v:Value}{K:WK}{w:World}(h:xg P t m k v K w.heap):Wu P (Instr.mapUpdate t m k v) K w:=by
 unfold xg at h;split at h
 ·rename_i c e m hc
  obtain⟨g,d,a,f,hd⟩:=qW hc;obtain⟨i,rfl,r,rfl,hm,b⟩:=CK.dec_sound h;exact⟨_,DR a f hd hm,di _ _,b⟩
 ·exact h.elim
theorem CQ(k:Value):∀(es:List MapEntry),(match es.findIdx? (fun e=>fg k e.key)with
  |some i=>es.eraseIdx i
  |none=>es)=CR k es
 | []=>rfl
 |e::es=>by
  have a:=CQ k es;simp only[CR,List.findIdx?_cons];cases hk:fg k e.key with
  |true=>simp
  |false=>
   simp only[dT,if_false];rw[←a];cases hf:es.findIdx? (fun e=>fg k e.key)<;>simp
theorem Cy{t k e ty:TypeId}{ts:Array TypeId}{d:TypeDesc}{c:CK}(y:ts[0]? =some t) (v:P.underlying t=some (.map k e)) (p:P.underlying k=some d) (hd:kW d c) {r:Nat} {x:c.den} {w:World} (hm:FF c w.heap r):
  (Builtin.delete_ ts ty #[.map (some r),c.enc x]).run P w=.ok (.tuple #[]) (gF w (Fe w.heap r (c.enc x))):=by
 obtain⟨es,g,m,j⟩:=hm;obtain⟨q,s,a,z⟩:=qe (P:=P) hd p x j w;rw[ra hd x es.toList 0 j]at a;have f:=CQ (c.enc x) es.toList;have o:Fe w.heap r (c.enc x)=w.heap.setIfInBounds r (.map (CR (c.enc x) es.toList).toArray g):=by
  simp only[Fe,m]
 rw[o,←f];simp only[Builtin.delete_,y,List.getElem?_toArray,List.getElem?_cons_zero,List.getElem?_cons_succ,Sem.run_bind,aq v,Result.andThen_ok,iG m,jO hd p,s];cases hf:es.toList.findIdx? (fun e=>fg (c.enc x) e.key)with
 |none=>
  rw[hf]at a;simp only[bj.injEq]at a;subst a;simp[p7 m]
 |some i=>
  rw[hf]at a;simp only[bj.injEq]at a;obtain⟨hi,A,_⟩:=List.findIdx?_eq_some_iff_getElem.1 hf;have u:es.toList[i]? =some es.toList[i]:=aj hi;rw[u]at a;simp only[hE,aC]at a;subst a;have n:i<es.size:=by simpa using hi
  have b:es.eraseIdxIfInBounds i=(es.toList.eraseIdx i).toArray:=by
   apply bZ;simp[Array.eraseIdxIfInBounds,n]
  simp[p7 m,b]
theorem xF{t ty:TypeId}{ts:Array TypeId}{m k:Value}{K:WK}{w:World}(f:ts[0]? =some t) (h:xG P t m k K w.heap):Wv P (Builtin.delete_ ts ty #[m,k]) K w:=by
 unfold xG at h;split at h
 ·rename_i c e m hc
  obtain⟨i,d,b,g,hd⟩:=qW hc;obtain⟨j,rfl,h⟩:=CK.dec_sound h;rcases h with⟨rfl,a⟩|⟨r,rfl,hm,a⟩
  ·refine⟨_,w,?_,Tame.refl w,a⟩
   simp[Builtin.delete_,f,aq b,jO hd g]
  ·exact⟨_,_,Cy f b g hd hm,di _ _,a⟩
 ·exact h.elim
theorem F0{t k e:TypeId}(b:P.underlying t=some (.map k e)){m:Option Nat}{a:Nat}{w:World}(hm:m=none∧a=0∨∃r es,m=some r∧w.heap[r]? =some (.map es a)):
  (Instr.range t (.map m)).run P w=.ok (.pointer (some (aU w.heap))) (gF w (w.heap.push (.mapIter m a #[] a))):=by
 rcases hm with⟨rfl,rfl⟩|⟨r,es,rfl,c⟩
 ·simp only[Instr.range,Sem.run_bind,aq b,Result.andThen_ok,Sem.run_pure,x8,aU]
 ·simp only[Instr.range,Sem.run_bind,aq b,Result.andThen_ok,Sem.run_pure,iG c,x8,aU]
theorem qQ{w:World}{i:Nat}{m:Option Nat}{a:Nat}{c:Array Nat}{b:Nat}(h:w.heap[i]? =some (.mapIter m a c b)):(getObj i).run P w=.ok (.mapIter m a c b) w:=by
 simp only[getObj,Sem.run,h]
theorem B9{w:World}{i:Nat}{m:Option Nat}{a:Nat}{c:Array Nat}{b:Nat}{o:Obj}(h:w.heap[i]? =some (.mapIter m a c b)):(setObj i o).run P w=.ok () (gF w (w.heap.setIfInBounds i o)):=by
 simp only[setObj,Sem.run,h];rfl
theorem yI(n:Nat)(a:0<n)(w:World):∃k w',k<n∧(choose (.mapNext n)).run P w=.ok k w'∧Tame w w'∧w'.heap=w.heap:=by
 unfold choose;simp only[Sem.run];by_cases h:(Question.mapNext n).forced=true
 ·exact⟨0,w,a,by rw[if_pos h],Tame.refl w,rfl⟩
 ·refine⟨(Question.mapNext n).cut (w.tape w.drawn (.mapNext n)),{w with drawn:=w.drawn+1},Nat.mod_lt _ a,by rw[if_neg h],⟨rfl,rfl,rfl⟩,rfl⟩
theorem BR{it:Value}{t:TypeId}{K:WK}{w:World}(h:GU it K w.heap):Wv P (Instr.next it false t) K w:=by
 unfold GU at h;split at h
 ·rename_i a
  obtain⟨M,m,n,f,s,hi,h⟩:=h;obtain⟨b,off,O⟩:=a;simp only at M hi h;subst M;rcases h with⟨rfl,S⟩|⟨r,es,z,rfl,L,B,C,J⟩
  ·exact⟨_,w,by simp only[Instr.next,Sem.run_bind,qQ hi,Result.andThen_ok,Sem.run_pure],Tame.refl w,S⟩
  ·have v:(!f.isEmpty&& !es.isEmpty&&es.all (fun e=>decide (e.born≥s)))=false:=by
    rcases B with h|h|h<;>simp[h]
   obtain⟨left,j⟩:∃left,left=es.filter fun e=> !f.contains e.born:=⟨_,rfl⟩
   obtain⟨i,q⟩:∃i,i=left.filter (·.born<n):=⟨_,rfl⟩
   obtain⟨new,hnew⟩:∃new,new=left.filter (·.born≥n):=⟨_,rfl⟩
   obtain⟨d,g⟩:∃d:Array (Option MapEntry),d=(if i.isEmpty then #[none]else #[])++(i++new).map some:=⟨_,rfl⟩
   have D:0<d.size:=by
    rw[g];by_cases A:i.isEmpty=true
    ·simp[A];omega
    ·have:i.size≠0:=by simpa using A
     simp[A];omega
   obtain⟨k,F,R,y,N,G⟩:=yI (P:=P) d.size D w;obtain⟨c,hc⟩:∃c,d[k]? =some c:=⟨d[k],Array.getElem?_eq_getElem R⟩;have H:F.heap[b]? =some (.mapIter (some r) n f s):=by rw[G];exact hi
   have o:(!f.isEmpty&& !es.isEmpty&&es.all fun x=>decide (x.born≥s))=false:=v
   cases c with
   |none=>
    refine⟨.tuple #[.bool false],F,?_,N,?_⟩
    ·simp only[Instr.next,Sem.run_bind,qQ hi,Result.andThen_ok,Sem.run_pure,iG L,o,dT,if_false,←j,←q,←hnew,←g,y,hc]
    ·rw[G]
     have u:i.isEmpty=true:=by
      have hm:none∈d:=Array.mem_of_getElem? hc;rw[g]at hm;by_cases A:i.isEmpty=true
      ·exact A
      ·simp[A]at hm
     refine C fun e Q I=>?_
     cases hs:f.contains e.born with
     |true=>rfl
     |false=>
      have p:e∈i:=by
       rw[q,j];simp only[lW];exact⟨⟨by simpa using Q,by rw[hs];rfl⟩,by simpa using I⟩
      rw[Array.isEmpty_iff]at u;rw[u]at p;simp at p
   |some e=>
    have p:e∈es∧f.contains e.born=false:=by
     have hm:some e∈d:=Array.mem_of_getElem? hc;have E:e∈left:=by
      rw[g]at hm;rw[Array.mem_append]at hm;rcases hm with hm|hm
      ·split at hm<;>simp at hm
      ·simp only[Array.mem_map,bj.injEq,exists_eq_right,Array.mem_append]at hm
       rcases hm with hm|hm
       ·rw[q]at hm;exact(lW.1 hm).1
       ·rw[hnew]at hm;exact(lW.1 hm).1
     rw[j]at E;have:=lW.1 E;exact⟨this.1,by simpa using this.2⟩
    refine⟨.tuple #[.bool true,e.key,e.val],gF F (F.heap.setIfInBounds b (.mapIter (some r) n (f.push e.born) z)),?_,N.trans (di _ _),?_⟩
    ·simp only[Instr.next,Sem.run_bind,qQ hi,Result.andThen_ok,Sem.run_pure,iG L,o,dT,if_false,←j,←q,←hnew,←g,y,hc,B9 H]
    ·rw[G]
     exact J e (by simpa using p.1) p.2
 ·exact h.elim
theorem zh{t e:TypeId}{z:List Value}{k k':IntKind}{l c:Int}{w:World}(u:qy P t=some e)(hz:mz P e=some z)(g:z.length=bo P e)(B:0≤l)(C:l≤c)(y:c≤9223372036854775807)(x:mC P e*c≤2^48):
  (Instr.makeSlice t (.int k l) (.int k' c)).run P w=.ok (.slice (some (aU w.heap)) l.toNat c.toNat) (gF w (hnew w.heap (cA c.toNat z) e)):=by
 obtain⟨v,hv,d⟩:=gE hz;obtain⟨i,hi,A⟩:=mU hv;have b:bo P e=i.size:=by simp[bo,hi]
 have m:mC P e=i.bytes:=by simp[mC,hi]
 have n:v.cells.size=i.size:=by rw[←b,←g,←d];simp
 have q:=uZ B (by omega);have hc:=uZ (show 0≤c by omega) y
 rw[m]at x;have c1:¬(c<0):=by omega
 have c2:¬(281474976710656<(i.bytes:Int)*c):=by omega
 have p:¬(l<0):=by omega
 have s:¬(c<l):=by omega
 by_cases a:c.toNat*i.size=0
 ·have o:(cA c.toNat z).length=0:=by simp[cA,g,b,a]
  rw[bF.1 o];simp[Instr.makeSlice,aq (cC u),asInt,asIntOf,bR hi,q,hc,c1,c2,p,s,sizeOf,a,gO]
 ·have f:((Array.range (c.toNat*i.size)).map (fun j=>v.cells[j%v.cells.size]!))=(cA c.toNat z).toArray:=by
   rw[←n,EO,d]
  have key:(newRow e ((Array.range (c.toNat*i.size)).map (fun j=>v.cells[j%v.cells.size]!))).run P w=.ok (aU w.heap) (gF w (hnew w.heap (cA c.toNat z) e)):=by
   rw[f,gO]
  simp[Instr.makeSlice,aq (cC u),asInt,asIntOf,bR hi,q,hc,c1,c2,p,s,sizeOf,a,du hv];rw[key];rfl
theorem Agree.args{N:Nat}{r:bJ}{a:Act}(h:Agree N r a){os:Array Operand}{vs:List Value}(hv:j9 r os.toList=some vs):os.map a.eval=vs.toArray:=by
 rw[←iZ h hv];apply bZ;simp
theorem HC.out{f:FuncId}{args:List Value}{ks:List Kind}{K:WK}{w:World}(h:HC P f args ks (fun x h'=>K (wY ks (jC ks x)) h') w.heap):CW P (callFunc f args.toArray) K w:=by
 rcases h.run w rfl with⟨a,d⟩|⟨v,w',a,b,x,rfl,c⟩
 ·refine .inr (.inr (.inl ⟨f,args.toArray,a,d.mono ?_⟩))
  rintro e w' ⟨b,x,rfl,c⟩;exact⟨b,_,rfl,c⟩
 ·exact .inl ⟨_,w',a,b,c⟩
theorem Gv{a b e:TypeId}{s:ByteArray}{w:World}(k:P.underlying a=some .string)(hd:P.underlying b=some (.slice e))(g:P.underlying e=some (.int .u8)):
  ∃c,s.size≤c∧(convert a b (.string s)).run P w=.ok (.slice (some (aU w.heap)) s.size c) (gF w.drew (w.heap.push (.cells (cN s++fQ (c-s.size) (Value.int .u8 0)).toArray e (c,c+1)))):=by
 have f:s.size≤grownCap w s.size 0 e:=Nat.le_add_right _ _;refine⟨_,f,?_⟩;rw[Go.Lib.run_convert_string_bytes w a b e s k hd g];have hc:(Go.Lib.bytesCells w e s).size=grownCap w s.size 0 e:=by
  unfold Go.Lib.bytesCells;rw[Array.size_append,Array.size_map,Array.size_replicate,show s.data.size=s.size from rfl]
  omega
 have d:(cN s++fQ (grownCap w s.size 0 e-s.size) (Value.int .u8 0)).toArray=Go.Lib.bytesCells w e s:=by
  unfold Go.Lib.bytesCells cN;apply bZ;simp
 rw[d];unfold Go.Lib.bytesWorld World.freeze;rw[if_neg (by omega),hc];unfold World.alloc World.drew gF;congr 1
 congr 1
 apply Array.ext (by simp);intro i m j;rw[Array.getElem_modify];simp only[Array.getElem_push];split
 ·rename_i e
  subst e;simp
 ·rename_i e
  have hi:i<w.heap.size:=by simp at j;omega
  rw[dif_pos hi,dif_pos hi]
theorem u1{o:Oper}{r:bJ}{K:WK}{w:World}{N:Nat}{a:Act}(F:Agree N r a)(j:y6 P o r K w.heap):CW P (execOp a.eval o) K w:=by
 have A:∀{x:Operand} {v:Value},cp r x=some v→a.eval x=v:=fun h=>gH F h
 obtain⟨M,X,type,kc,E,G⟩:=o;cases X with
 |alloc t=>
  simp only[y6]at j;split at j
  ·rename_i z hz
   obtain⟨v,hv,S⟩:=gE hz;have C:(Instr.alloc t true (.tuple #[])).run P w=.ok (.pointer (some (aU w.heap))) (gF w (hnew w.heap z t)):=by
    simp[Instr.alloc,du hv,newVar,gO,S]
   exact Wv.out ⟨_,_,C,di _ _,j⟩
  ·exact j.elim
 |box t x=>
  simp only[y6]at j;split at j
  ·rename_i v hv
   have C:(Instr.box t v).run P w=.ok (.pointer (some (aU w.heap))) (gF w (hnew w.heap v.cells.toList t)):=by
    simp[Instr.box,newVar,gO]
   simp only[execOp,A hv];exact Wv.out ⟨_,_,C,di _ _,j⟩
  ·exact j.elim
 |build t ps=>
  simp only[y6]at j;split at j
  ·rename_i vs p
   split at j
   ·rename_i cs hcs
    have U:(ps.map fun x=>(x.1,a.eval x.2))=vs.toArray:=by
     rw[←kI F p];apply bZ;simp
    have C:=uo (ps:=vs.toArray) (by simpa using hcs) w;simp only[execOp];rw[show(ps.map fun(i,x)=>(i,a.eval x))=vs.toArray from U]
    exact Wv.out ⟨_,w,C,Tame.refl w,j⟩
   ·exact j.elim
  ·exact j.elim
 |buildSlice t n ps=>
  simp only[y6]at j;split at j
  ·rename_i e vs H p
   split at j
   ·rename_i z hz
    cases hb:(Nat.ble (n*bo P e) 16777216&&aX z.length (bo P e))with
    |false=>rw[hb]at j;exact j.elim
    |true=>
     rw[hb]at j;simp only[aS]at hb;simp only[cond_true]at j;split at j
     ·rename_i cs hcs
      have U:(ps.map fun x=>(x.1,a.eval x.2))=vs.toArray:=by
       rw[←kI F p];apply bZ;simp
      have C:=vF (ps:=vs.toArray) H hz (lz hb.1) (aF hb.2) (by simpa using hcs) w;simp only[execOp];rw[show(ps.map fun(i,x)=>(i,a.eval x))=vs.toArray from U]
      exact Wv.out ⟨_,_,C,di _ _,j⟩
     ·exact j.elim
   ·exact j.elim
  ·exact j.elim
 |store t x y=>
  simp only[y6]at j;split at j
  ·rename_i b v hb hv
   simp only[execOp,A hb,A hv];exact Wu.out (Az j)
  ·exact j.elim
 |mapUpdate t m k x=>
  simp only[y6]at j;split at j
  ·rename_i mv kv xv hm B hx
   simp only[execOp,A hm,A B,A hx];exact Wu.out (r6 j)
  ·exact j.elim
 |insert t m k x=>
  simp only[y6]at j;split at j
  ·rename_i mv kv xv hm B hx
   simp only[execOp,A hm,A B,A hx];exact Wu.out (r6 j)
  ·exact j.elim
 |makeMap t n=>
  simp only[y6]at j;cases n with
  |none=>exact Wv.out ⟨_,gF w (w.heap.push (.map #[] 0)),by simp[Instr.makeMap];rfl,di _ _,j⟩
  |some n=>
   simp only at j;split at j
   ·rename_i k i hn H
    exact Wv.out ⟨_,gF w (w.heap.push (.map #[] 0)),by simp[Instr.makeMap,A hn,aq H,asInt,asIntOf];rfl,di _ _,j⟩
   ·exact j.elim
 |makeSlice t l c=>
  simp only[y6]at j;split at j
  ·rename_i e k l' k' c' H L hc
   split at j
   ·rename_i z hz
    cases hb:aX z.length (bo P e)with
    |false=>rw[hb]at j;exact j.elim
    |true=>
     rw[hb]at j;obtain⟨⟨W,R,T,V⟩,j⟩:=j;simp only[execOp,A L,A hc];exact Wv.out ⟨_,_,zh H hz (aF hb) W R T V,di _ _,j⟩
   ·exact j.elim
  ·exact j.elim
 |convert s d x=>
  simp only[y6]at j;split at j
  ·rename_i e v O hd hx
   cases hu:D1 P e with
   |false=>rw[hu]at j;exact j.elim
   |true=>
    rw[hu]at j;obtain⟨c,hc,I⟩:=Gv (w:=w) (s:=v) O hd (yn hu);simp only[execOp,A hx];exact Wv.out ⟨_,_,I,⟨rfl,rfl,rfl⟩,j c hc⟩
  ·exact j.elim
 |range t x=>
  simp only[y6]at j;split at j
  ·rename_i k e m hu hx
   obtain⟨Q,hm,j⟩:=j;simp only[execOp,A hx];exact Wv.out ⟨_,_,F0 hu hm,di _ _,j⟩
  ·exact j.elim
 |next it isS=>
  cases isS with
  |true=>simp only[y6]at j
  |false=>
   simp only[y6]at j;split at j
   ·rename_i v hv
    simp only[execOp,A hv];exact Wv.out (BR j)
   ·exact j.elim
 |call c=>
  simp only[y6]at j;have eb:∀{b:Builtin} {vs:List Value},c.callee=.builtin b→j9 r c.args.toList=some vs→∃cs:Array Bool,∀w,(execOp a.eval ⟨M,.call c,type,kc,E,G⟩).run P w=
    (builtin b c.argTypes type cs vs.toArray).run P w:=by
   intro b vs hc p;refine⟨c.args.map fun| .const _=>true|_=>false,fun w=>?_⟩
   simp[execOp,resolve,hc,F.args p,invoke];rfl
  have wo:∀{s s':Sem Next},(∀w,s.run P w=s'.run P w)→CW P s' K w→CW P s K w:=by
   intro s s' C h;unfold CW at h⊢;simp only[C];exact h
  split at j
  ·rename_i s x hc p
   split at j
   ·rename_i t u hat
    obtain⟨cs,D⟩:=eb hc p;refine wo D ?_;have q:c.argTypes= #[t,u]:=by apply bZ;rw[hat]
    simp only[builtin,q];split at j
    ·rename_i e' hu;exact Wv.out (r7 (.inl ⟨e',hu⟩) j)
    ·rename_i hu;exact Wv.out (r7 (.inr hu) j)
    ·rename_i k0 hu;exact Wv.out (xH hu j)
    ·exact j.elim
   ·exact j.elim
  ·rename_i x hc p
   split at j
   ·rename_i t hat
    obtain⟨cs,D⟩:=eb hc p;refine wo D ?_;have q:c.argTypes= #[t]:=by apply bZ;rw[hat]
    simp only[builtin,q];exact Wv.out (AA j)
   ·exact j.elim
  ·rename_i s x hc p
   split at j
   ·rename_i t u hat
    obtain⟨cs,D⟩:=eb hc p;refine wo D ?_;have q:c.argTypes= #[t,u]:=by apply bZ;rw[hat]
    simp only[builtin,q];exact Wv.out (BS j)
   ·exact j.elim
  ·rename_i m k hc p
   split at j
   ·rename_i t u hat
    obtain⟨cs,D⟩:=eb hc p;refine wo D ?_;simp only[builtin];exact Wv.out (xF (by rw[←aO,hat];rfl) j)
   ·exact j.elim
  ·rename_i f args hc p
   unfold Jx at j;split at j
   ·exact j.elim
   ·rename_i ks hks
    split at j
    ·rename_i f
     refine wo (s':=callFunc f args.toArray) (fun w=>?_) j.out
     simp[execOp,resolve,hc,F.args p,Act.eval,Deferred.ofValue,invoke]
    ·rename_i f hf
     split at j
     ·rename_i fv hfv
      rcases j.run with⟨g,first,cap,rfl,J⟩|⟨l,rfl,J⟩
      rotate_left
      ·obtain⟨fn,tmps,assign,body,R,T⟩:=J.run w rfl
       refine .inr (.inr (.inr ⟨l,fn,tmps,assign,body,?_,fun c cs=>?_⟩))
       ·rw[←R]
        simp[execOp,resolve,hc,F.args p,A hfv,Deferred.ofValue,invoke]
       ·obtain⟨b,w',H,B,O⟩:=T c cs
        refine⟨b,w',H,?_,O⟩;obtain⟨t,e,B⟩:=nu B;have L:ks.length=1:=by rw[←ou ks t,←e];rfl
        match ks,L,t,e,B with
        | [k],_,t,e,B=>rw[←e]at B;exact B
      refine wo (s':=callFunc g (first.toList++args++cap.toList).toArray) (fun w=>?_) J.out
      have e:first++args.toArray++cap=(first.toList++args++cap.toList).toArray:=by apply bZ;simp
      rw[←e];simp[execOp,resolve,hc,F.args p,A hfv,Deferred.ofValue,invoke]
     ·exact j.elim
  ·exact j.elim
 |_=>simp only[y6]at j
end Go.Lift
