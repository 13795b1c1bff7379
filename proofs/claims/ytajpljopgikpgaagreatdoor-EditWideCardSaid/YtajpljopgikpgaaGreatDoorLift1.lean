/- A part of the proof that the named laws of this program answer true, whatever the input. -/
import Derived.Test.YtajpljopgikpgaaGreatDoorLift0
import Derived.Laws.Append
import Derived.Laws.Cover3
import Derived.Laws.StructEq
import Derived.Laws.BytesString
import Derived.Lib.ConvBytes
open Array renaming ext'→cP,getElem?_toList→bv,mem_of_getElem?→nA,mem_filter→nV
open Bool renaming and_eq_true→bq,false_eq_true→fh
open ByteArray renaming data_extract→nn
open List renaming extract_eq_take_drop→fS,map_cons→fx,take_of_length_le→bp,length_cons→aL,cons_append→cU,replicate→eY,length_eq_zero_iff→bO,getElem?_eq_getElem→ag
open Nat renaming beq→bw,add_assoc→jN,ble→vg,eq_of_beq_eq_true→aS,le_of_ble_eq_true→hE,add_zero→cN,zero_add→aB,le_add_right→nT,min→di
open Option renaming some→bm,isSome_iff_exists→dg,map_some→fL
open Prod renaming mk→qY
open UInt8 renaming ofNat→dH
namespace Go.Lift
open Go
def Ox(S:Option (ad→Prop))(h:ad):Prop:=match S with|none=>True|some f=>f h
def Yv(P:Program)(s:Sem Value)(K:RK)(h:ad):Prop:=∃v S,K v S∧Ox S h∧∀w:World,Ox S w.heap→s.run P w=.ok v w
theorem Yv.of_pure{P:Program}{s:Sem Value}{K:RK}{h:ad}{v:Value}(a:K v none)(b:∀w:World,s.run P w=.ok v w):Yv P s K h:=
 ⟨v,none,a,trivial,fun w _=>b w⟩
variable {P:Program}
theorem uh{t:TypeId}{f:Nat}{u:TypeId}{off:Nat}(h:ui P t f=some (u,off)):
  ∃fs g,P.underlying t=some (.struct fs)∧fs[f]? =some g∧g.type=u∧g.offset=off:=by
 unfold ui at h;split at h
 ·rename_i fs hu
  split at h
  ·rename_i g hg
   simp only[bm.injEq,qY.injEq]at h;exact⟨fs,g,hu,by simpa using hg,h.1,h.2⟩
  ·cases h
 ·cases h
theorem wg{t:TypeId}(h:bw (bK P t) 0=false)(w:World):(sizeOf t).run P w=.ok (bK P t) w:=by
 unfold bK at h⊢;cases hi:P.info? t with
 |none=>rw[hi]at h;cases h
 |some i=>simp[sizeOf,cD hi]
theorem AD{t:TypeId}{f:Nat}{u:TypeId}{off:Nat}{a:Addr}{K:RK}{h:ad}(i:ui P t f=some (u,off))
  (b:bif bw (bK P u) 0 then False else K (.pointer (some (adr a off))) none):Yv P (Instr.fieldAt t (.pointer (some a)) f) K h:=by
 obtain⟨k,g,j,d,rfl,rfl⟩:=uh i;cases hz:bw (bK P g.type) 0 with
 |true=>rw[hz]at b;exact b.elim
 |false=>
  rw[hz]at b;refine .of_pure b fun w=>?_
  have c:bK P g.type≠0:=fun e=>by rw[e]at hz;cases hz
  simp only[Instr.fieldAt,Sem.run_bind,aw j,Result.andThen_ok,d,Instr.sureAddr,Sem.run_pure,fieldPlace,wg hz];simp[c,rt]
theorem sR{t:TypeId}{i:TypeInfo}(_:P.info? t=some i)(a:∃d,P.underlying t=some d)(w:World):(isAgg t).run P w=.ok (sS P t) w:=by
 obtain⟨d,hd⟩:=a;simp only[isAgg,Sem.run_bind,aw hd,Result.andThen_ok];unfold sS;rw[hd];cases d<;>rfl
theorem xn{c:BinOp}{k k':IntKind}{a b:Int}{K:RK}{h:ad}(f:c=.shl∨c=.shr)(hv:H7 c k a b K):Yv P (Op.shift c k a k' b) K h:=by
 rcases f with rfl|rfl
 ·obtain⟨d,e⟩:=hv
  refine .of_pure e fun w=>?_
  simp[Op.shift,Int.not_lt.2 d]
 ·obtain⟨d,e⟩:=hv
  refine .of_pure e fun w=>?_
  simp[Op.shift,Int.not_lt.2 d]
theorem IV{c:BinOp}{k:IntKind}{a b:Int}{K:RK}{h:ad}(hv:QM c k a b K)(f:c≠ .shl∧c≠ .shr):Yv P (binOp c 0 (.int k a) (.int k b)) K h:=by
 cases c<;>simp only[QM]at hv
 case quo=>obtain⟨d,e⟩:=hv;exact .of_pure e fun w=>by simp[binOp,Op.intDiv,d]
 case rem=>obtain⟨d,e⟩:=hv;exact .of_pure e fun w=>by simp[binOp,Op.intDiv,d]
 all_goals exact .of_pure hv fun w=>by simp[binOp,Op.intArith,Op.intBits,Op.intCmp]
theorem Co(c:BinOp)(t:TypeId)(k k':IntKind)(a b:Int):binOp c t (.int k a) (.int k' b)=binOp c 0 (.int k a) (.int k' b):=by
 cases c<;>rfl
theorem H5{c:BinOp}{t:TypeId}{a b:ByteArray}{K:RK}{h:ad}(hv:Qt c a b K):Yv P (binOp c t (.string a) (.string b)) K h:=by
 cases c<;>simp only[Qt]at hv
 case add=>
  obtain⟨e,d⟩:=hv;refine .of_pure d fun w=>?_
  have:¬(((a.size+b.size:Nat):Int)>IntKind.i64.max):=by
   have:IntKind.i64.max=9223372036854775807:=by decide
   omega
  simp only[binOp,Op.stringOp,if_neg this,Sem.run_pure]
 all_goals exact .of_pure hv fun w=>by simp[binOp,Op.stringOp]
theorem oC{t:TypeId}{x y:Value}{b:Bool}{w:World}(h:∀d,(Op.equalIn (d+1) t x y).run P w=.ok b w):(Op.equal t x y).run P w=.ok b w:=h 9999
theorem Ca{t:TypeId}{e:TypeId}(b:P.underlying t=some (.pointer e))(a:Option Addr)(w:World):(Op.equal t (.pointer a) (.pointer none)).run P w=.ok a.isNone w:=by
 refine oC fun d=>?_
 simp only[Op.equalIn,Sem.run_bind,aw b,Result.andThen_ok];cases a<;>rfl
theorem Jf(e:BinOp)(t:TypeId)(x y:Operand)(a b:Value)(h:∀c d,a=.agg c→b=.agg d→False)(hi:a=.nilIface→b=.nilIface→False)(w:World):
  (eqGuard e t x y a b).run P w=.ok () w:=by
 cases e;case eql=>cases a<;>cases b<;>first|rfl|exact(hi rfl rfl).elim|exact(h _ _ rfl rfl).elim
 case neq=>cases a<;>cases b<;>first|rfl|exact(hi rfl rfl).elim|exact(h _ _ rfl rfl).elim
 all_goals rfl
theorem Mf(t:TypeId)(x y:Value)(hx:∀k a,x≠ .int k a)(c:∀s,x≠ .string s)(d:∀k a,x≠ .float k a)(hc:∀k a b,x≠ .complex k a b):binOp .eql t x y=(do pure (.bool (←Op.equal t x y))):=by
 cases x<;>first|rfl|exact absurd rfl (hx _ _)|exact absurd rfl (c _)|exact absurd rfl (d _ _)|exact absurd rfl (hc _ _ _)
theorem Md(t:TypeId)(x y:Value)(hx:∀k a,x≠ .int k a)(c:∀s,x≠ .string s)(d:∀k a,x≠ .float k a)(hc:∀k a b,x≠ .complex k a b):binOp .neq t x y=(do pure (.bool (!(←Op.equal t x y)))):=by
 cases x<;>first|rfl|exact absurd rfl (hx _ _)|exact absurd rfl (c _)|exact absurd rfl (d _ _)|exact absurd rfl (hc _ _ _)
theorem oD{t:TypeId}{neg:Bool}{x y:Value}{b:Bool}{w:World}(e:(Op.equal t x y).run P w=.ok b w)
  (hx:∀k a,x≠ .int k a)(c:∀s,x≠ .string s)(d:∀k a,x≠ .float k a)(hc:∀k a b,x≠ .complex k a b):
  (binOp (bif neg then .neq else .eql) t x y).run P w=.ok (.bool (bif neg then !b else b)) w:=by
 cases neg
 ·simp only[cond_false,Mf t x y hx c d hc,Sem.run_bind,e,Result.andThen_ok,Sem.run_pure]
 ·simp only[cond_true,Md t x y hx c d hc,Sem.run_bind,e,Result.andThen_ok,Sem.run_pure]
theorem BQ{t:TypeId}{neg:Bool}{x y:Value}{K:RK}{h:ad}(hv:Pq P t neg x y K):
  (∀c d,x=.agg c→y=.agg d→False)∧(x=.nilIface→y=.nilIface→False)∧Yv P (binOp (bif neg then .neq else .eql) t x y) K h:=by
 unfold Pq at hv;split at hv
 ·rename_i e a hu
  refine⟨nofun,nofun,.of_pure hv fun w=>?_⟩
  exact oD (Ca hu a w) nofun nofun nofun nofun
 ·rename_i k e a hu
  refine⟨nofun,nofun,.of_pure hv fun w=>?_⟩
  refine oD ?_ nofun nofun nofun nofun;refine oC fun d=>?_
  simp only[Op.equalIn,Sem.run_bind,aw hu,Result.andThen_ok];cases a<;>rfl
 ·rename_i e a _ _ _ _ hu
  refine⟨nofun,nofun,.of_pure hv fun w=>?_⟩
  refine oD ?_ nofun nofun nofun nofun;refine oC fun d=>?_
  simp only[Op.equalIn,Sem.run_bind,aw hu,Result.andThen_ok];cases a<;>rfl
 ·exact hv.elim
theorem tO{w:World}{a b:Addr}(d:dQ w.heap a)(f:dQ w.heap b):(sameAddr a b).run P w=.ok (a==b) w:=by
 obtain⟨g,k,d,v⟩:=d;obtain⟨cb,eb,f,sb⟩:=f;by_cases c:a.block=b.block
 ·simp[sameAddr,c]
 ·have i:(a==b)=false:=by
   rw[beq_eq_false_iff_ne];intro e;exact c (by rw[e])
  have p:w.shape? a.block=some (k,g.size):=by simp[World.shape?,d]
  have q:w.shape? b.block=some (eb,cb.size):=by simp[World.shape?,f]
  have t:∀n,w.frozen? ({block:=a.block,off:=n}:Addr)=false:=fun n=>by simp[World.frozen?,d]
  have o:∀n,w.frozen? ({block:=b.block,off:=n}:Addr)=false:=fun n=>by simp[World.frozen?,f]
  have j:w.frozen? a=false:=by simp[World.frozen?,d]
  have u:w.frozen? b=false:=by simp[World.frozen?,f]
  obtain⟨m,hm⟩:∃m,g.size=m+1:=⟨g.size-1,by omega⟩
  obtain⟨n,s⟩:∃n,cb.size=n+1:=⟨cb.size-1,by omega⟩
  simp[sameAddr,c,noView,viewAt,mayBeOne,stringish,p,q,t,o,j,u,hm,s,i]
theorem zj{t:TypeId}{neg:Bool}{x y:Value}{K:RK}{h:ad}(hv:P7 P t neg x y K h):
  (∀c d,x=.agg c→y=.agg d→False)∧(x=.nilIface→y=.nilIface→False)∧Yv P (binOp (bif neg then .neq else .eql) t x y) K h:=by
 unfold P7 at hv;split at hv
 ·rename_i a b hu
  refine⟨nofun,nofun,.of_pure hv fun w=>?_⟩
  refine oD ?_ nofun nofun nofun nofun;refine oC fun d=>?_
  simp only[Op.equalIn,Sem.run_bind,aw hu,Result.andThen_ok,Sem.run_pure]
 ·rename_i e a b hu
  obtain⟨hz,m,j⟩:=hv;refine⟨nofun,nofun,_,_,j,m,fun w n=>?_⟩
  refine oD ?_ nofun nofun nofun nofun;have f:bw (bK P e) 0=false:=by
   cases hb:bw (bK P e) 0 with
   |false=>rfl
   |true=>rw[hb]at hz;exact hz.elim
  have g:bK P e≠0:=fun e=>by rw[e]at f;cases f
  refine oC fun d=>?_
  simp only[Op.equalIn,Sem.run_bind,aw hu,Result.andThen_ok];cases a with
  |none=>cases b<;>rfl
  |some a=>cases b with
   |none=>rfl
   |some b=>
    obtain⟨i,k⟩:=n a b rfl rfl;simp only[Sem.run_bind,wg f,Result.andThen_ok,ne_eq,g,not_false_eq_true,if_true,tO i k];rfl
 ·exact hv.elim
theorem Iu{e:BinOp}{t:TypeId}{x y:Value}{K:RK}{h:ad}(hv:QA P e t x y K h):
  (∀c d,x=.agg c→y=.agg d→False)∧(x=.nilIface→y=.nilIface→False)∧Yv P (binOp e t x y) K h:=by
 unfold QA at hv;split at hv
 ·rename_i k a k' b
  refine⟨nofun,nofun,?_⟩;rw[Co];split at hv
  ·exact xn (k':=k') (.inl rfl) hv
  ·exact xn (k':=k') (.inr rfl) hv
  ·rename_i h1 h2
   cases hk:Ff k' k with
   |false=>rw[hk]at hv;exact hv.elim
   |true=>rw[hk]at hv;have:=xG hk;subst this;exact IV hv ⟨h1,h2⟩
 ·exact⟨nofun,nofun,H5 hv⟩
 ·split at hv
  ·exact zj (neg:=false) hv
  ·exact zj (neg:=true) hv
  ·exact hv.elim
theorem GL{u:TypeId}{cs:List Value}{off:Nat}(a:((P.underlying u).isSome&&(P.info? u).isSome)=true){w:World}(c:sS P u=true):
  (part u cs.toArray off).run P w=.ok (.agg ((cs.drop off).take (bK P u)).toArray) w:=by
 simp only[bq,dg]at a;obtain⟨a,i,hi⟩:=a;have b:(sizeOf u).run P w=.ok (bK P u) w:=by simp[sizeOf,cD hi,bK,hi]
 simp only[part,Sem.run_bind,sR hi a,Result.andThen_ok,c,if_true,b,Sem.run_pure];congr 2
 apply cP;simp[fS]
theorem DT{u:TypeId}{cs:List Value}{off:Nat}(a:((P.underlying u).isSome&&(P.info? u).isSome)=true){w:World}(c:sS P u=false){v:Value}(hc:cs[off]? =some v):
  (part u cs.toArray off).run P w=.ok v w:=by
 simp only[bq,dg]at a;obtain⟨a,i,hi⟩:=a;have b:cs.toArray[off]? =some v:=by simpa using hc
 simp only[part,Sem.run_bind,sR hi a,Result.andThen_ok,c,fh,if_false,b,Sem.run_pure]
theorem ws{h:ad}:∀{l m:List (Option Addr×Option Addr)},pK h (l++m)→pK h l∧pK h m
 | [],_,h=>⟨trivial,h⟩
 |(_,_)::_,_,h=>⟨⟨h.1,(ws h.2).1⟩,(ws h.2).2⟩
theorem G5{t:TypeId}{x y:Value}{b:Bool}{l:List (Option Addr×Option Addr)}(f:NK P t x y=some (b,l)){w:World}(m:pK w.heap l)(d:Nat):
  (Op.equalIn (d+1) t x y).run P w=.ok b w:=by
 unfold NK at f;split at f
 ·rename_i k0 k a k' c hu
  cases hk:Ff k' k with
  |false=>rw[hk]at f;cases f
  |true=>
   rw[hk]at f;have:=xG hk;subst this;cases f;exact run_equalIn_int w d t _ _ _ _ hu
 ·rename_i a c hu
  cases f;exact run_equalIn_bool w d t _ _ hu
 ·rename_i a c hu
  cases f;exact run_equalIn_string w d t _ _ hu
 ·rename_i e a c hu
  cases hz:bw (bK P e) 0 with
  |true=>rw[hz]at f;cases f
  |false=>
   rw[hz]at f;cases f;have g:bK P e≠0:=fun e=>by rw[e]at hz;cases hz
   simp only[Op.equalIn,Sem.run_bind,aw hu,Result.andThen_ok];cases a with
   |none=>cases c<;>rfl
   |some a=>cases c with
    |none=>rfl
    |some c=>
     obtain⟨i,j⟩:=m.1 a c rfl rfl;simp only[Sem.run_bind,wg hz,Result.andThen_ok,ne_eq,g,not_false_eq_true,if_true,tO i j];rfl
 ·cases f
theorem Cb{rec:TypeId→List Value→List Value→Option (Bool×List (Option Addr×Option Addr))}{d:Nat}{xs ys:List Value}{w:World}
  (g:∀t us vs b l,rec t us vs=some (b,l)→pK w.heap l→(Op.equalIn (d+1) t (.agg us.toArray) (.agg vs.toArray)).run P w=.ok b w):
  ∀(fs:List Field) (b:Bool) (l:List (Option Addr×Option Addr)),PJ P rec xs ys fs=some (b,l)→pK w.heap l→(Op.eqFields (d+1) xs.toArray ys.toArray fs).run P w=.ok b w
 | [],b,l,he,_=>by cases he;rfl
 |f::fs,b,l,he,hp=>by
  unfold PJ at he;split at he
  ·cases he
  ·rename_i hn
   cases hi:((P.underlying f.type).isSome&&(P.info? f.type).isSome)with
   |false=>rw[hi]at he;cases he
   |true=>
    rw[hi]at he;simp only[cond_true]at he;split at he
    ·rename_i b1 l1 c m e1 e2
     cases he;obtain⟨e,o⟩:=ws hp;have a:=Cb g fs c m e2 o;have i:∃u v,(part f.type xs.toArray f.offset).run P w=.ok u w∧(part f.type ys.toArray f.offset).run P w=.ok v w∧(Op.equalIn (d+1) f.type u v).run P w=.ok b1 w:=by
      cases ha:sS P f.type with
      |true=>
       rw[ha]at e1;exact⟨_,_,GL hi ha,GL hi ha,g _ _ _ _ _ e1 e⟩
      |false=>
       rw[ha]at e1;simp only[cond_false]at e1;split at e1
       ·rename_i x y hx hy
        exact⟨x,y,DT hi ha hx,DT hi ha hy,G5 e1 e d⟩
       ·cases e1
     obtain⟨u,v,j,k,n⟩:=i;simp only[Op.eqFields,ne_eq,hn,not_false_eq_true,if_true,Sem.run_bind,j,k,n,Result.andThen_ok];cases b1
     ·rfl
     ·exact a
    ·cases he
theorem wH{w:World}:∀(m:Nat) (t:TypeId) (xs ys:List Value) (b:Bool) (l:List (Option Addr×Option Addr)),NL P m t xs ys=some (b,l)→pK w.heap l→
  ∀d,(Op.equalIn (d+m+1) t (.agg xs.toArray) (.agg ys.toArray)).run P w=.ok b w
 |0,_,_,_,_,_,he,_,_=>by cases he
 |m+1,t,xs,ys,b,l,he,hp,d=>by
  unfold NL at he;split at he
  ·rename_i fs hu
   cases hs:P.stoodInHeld t with
   |true=>rw[hs]at he;cases he
   |false=>
    rw[hs]at he;have a:P.fieldsOf t=fs:=by simp[Program.fieldsOf,hu]
    rw[run_equalIn_struct w _ t _ _ (by rw[a];exact hu) hs,a];exact Cb (d:=d+m) (fun t f vs b l e c=>wH m t f vs b l e c d) fs.toList b l he hp
  ·cases he
theorem Eh{neg b:Bool}{K:RK}{h:ad}{l:List (Option Addr×Option Addr)}(a:SK neg b K h l):∃S,K (.bool (bif neg then !b else b)) S∧Ox S h∧∀h',Ox S h'→pK h' l:=by
 cases l with
 |nil=>exact⟨none,a,trivial,fun _ _=>trivial⟩
 |cons p l=>exact⟨_,a.2,a.1,fun _ h=>h⟩
theorem Iv{g:BinOp}{t:TypeId}{xs ys:Array Value}{x y:Operand}{K:RK}{h:ad}(a:QC P g t xs.toList ys.toList K h):
  ∃v S,K v S∧Ox S h∧∀w:World,Ox S w.heap→(do eqGuard g t x y (.agg xs) (.agg ys);binOp g t (.agg xs) (.agg ys):Sem Value).run P w=.ok v w:=by
 unfold QC at a;cases hg:P.eqGuardType P.depth t with
 |true=>rw[hg]at a;exact a.elim
 |false=>
  rw[hg]at a;simp only[cond_false]at a;split at a
  ·split at a
   ·rename_i b l he
    obtain⟨S,c,e,d⟩:=Eh a;refine⟨_,S,c,e,fun w f=>?_⟩
    have:=wH 10 t _ _ b l he (d _ f) 9989;simp only[Array.toArray_toList]at this;simp only[Sem.run_bind,run_eqGuard_agg w _ t x y _ _ hg,Result.andThen_ok,run_eql_struct,this];rfl
   ·exact a.elim
  ·split at a
   ·rename_i b l he
    obtain⟨S,c,e,d⟩:=Eh a;refine⟨_,S,c,e,fun w f=>?_⟩
    have:=wH 10 t _ _ b l he (d _ f) 9989;simp only[Array.toArray_toList]at this;simp only[Sem.run_bind,run_eqGuard_agg w _ t x y _ _ hg,Result.andThen_ok,run_neq_struct,this];rfl
   ·exact a.elim
  ·exact a.elim
theorem Ly{a:UnOp}{x:Value}{K:RK}{h:ad}(hv:Sw a x K):Yv P (Op.unary a x) K h:=by
 unfold Sw at hv;split at hv
 ·exact .of_pure hv fun w=>rfl
 ·exact .of_pure hv fun w=>rfl
 ·exact .of_pure hv fun w=>rfl
 ·exact hv.elim
theorem Ck:∀(l:List UInt8) (s:ByteArray),(l.map fun b=>((b.toNat:Nat):Int)).foldl (fun r n=>r.push (dH n.toNat)) s=⟨s.data++l.toArray⟩
 | [],s=>by simp
 |b::l,s=>by
  simp only[fx,List.foldl_cons];rw[Ck l];congr 1
  have:dH ((b.toNat:Nat):Int).toNat=b:=by simp
  rw[this];apply cP;simp[ByteArray.push]
theorem BX{e:TypeId}(h:IT P e=true):P.underlying e=some (.int .u8):=by
 unfold IT at h;split at h
 ·assumption
 ·cases h
theorem Gu{w:World}{a:Addr}{vs:List Value}(b:Row w.heap a vs):(loadCells a vs.length).run P w=.ok vs.toArray w:=by
 have:=run_firstCells_some (P:=P) w 1 vs.length a 0 0 vs (by simp) fun j v hv=>by rw[←rt];exact b j v hv
 simpa[Builtin.firstCells]using this
theorem GC{g f:TypeId}{x:Value}{K:RK}{h:ad}(hv:Nh P g f x K h):Yv P (convert g f x) K h:=by
 unfold Nh at hv;split at hv
 ·rename_i k k' k'' n h1 h2
  exact .of_pure hv fun w=>by simp only[convert,Sem.run_bind,aw h1,aw h2,Result.andThen_ok];rfl
 ·rename_i s h1 h2
  exact .of_pure hv fun w=>by simp only[convert,Sem.run_bind,aw h1,aw h2,Result.andThen_ok];rfl
 ·rename_i e a n c h1 h2
  cases hu:IT P e with
  |false=>rw[hu]at hv;exact hv.elim
  |true=>
   rw[hu]at hv;obtain⟨s,q,t⟩:=hv;refine⟨_,_,t,q,fun w m=>?_⟩
   rw[run_convert_bytes_string w g f e a n c h1 (BX hu) h2];obtain⟨o,m⟩:=m;rcases m with p|⟨b,rfl,y⟩
   ·have j:s=ByteArray.empty:=by
     have:s.data.toList= []:=by simpa[cX]using p
     cases s with
     |mk d=>simp at this;subst this;rfl
    cases a with
    |none=>rw[j];rfl
    |some b=>
     have u:n=0:=by rw[←o,p];rfl
     subst u;have:=Gu (P:=P) (w:=w) (a:=b) (vs:= []) fun i v hv=>by simp at hv
     rw[run_bytesToString w b 0 c [] (by simpa using this),j];rfl
   ·have:=Gu (P:=P) y
    rw[o]at this;rw[run_bytesToString w b n c (s.data.toList.map fun b=>((b.toNat:Nat):Int)) (by rw[this,List.map_map];rfl),Ck]
    cases s;simp[ByteArray.empty,ByteArray.emptyWithCapacity];try rfl
 ·exact hv.elim
theorem IB{u:TypeId}{cs:Array Value}{off:Nat}{K:RK}{h:ad}(b:∃d,P.underlying u=some d)(hi:∃i,P.info? u=some i)
  (hv:bif sS P u then K (.agg ((cs.toList.drop off).take (bK P u)).toArray) none else(match cs.toList[off]? with|some v=>K v none|none=>False)):Yv P (part u cs off) K h:=by
 obtain⟨i,hi⟩:=hi;cases ha:sS P u with
 |true=>
  rw[ha]at hv;refine .of_pure hv fun w=>?_
  have c:(sizeOf u).run P w=.ok (bK P u) w:=by simp[sizeOf,cD hi,bK,hi]
  simp only[part,Sem.run_bind,sR hi b,Result.andThen_ok,ha,if_true,c,Sem.run_pure];congr 2
  apply cP;simp[fS]
 |false=>
  rw[ha]at hv;simp only[cond_false]at hv;cases hc:cs.toList[off]? with
  |none=>rw[hc]at hv;exact hv.elim
  |some v=>
   rw[hc]at hv;refine .of_pure hv fun w=>?_
   have a:cs[off]? =some v:=by simpa using hc
   simp only[part,Sem.run_bind,sR hi b,Result.andThen_ok,ha,fh,if_false,a,Sem.run_pure]
def tE(P:Program)(v:Option Value)(d y n:Nat):Prop:=
 match v with
 |some x=>∀c w,(Instr.sliceBound x y c).run P w=.ok n w
 |none=>n=d
theorem kX{v:Option Value}{d y:Nat}{K:Nat→Prop}(hv:Oj v d y K):∃n,K n∧tE P v d y n:=by
 unfold Oj at hv;split at hv
 ·exact⟨d,hv,rfl⟩
 ·rename_i k i
  obtain⟨⟨a,e⟩,b⟩:=hv;refine⟨i.toNat,b,fun c w=>?_⟩
  simp[Instr.sliceBound,asIntOf,a,e]
 ·exact hv.elim
theorem nC{c:Bool}{len cap n l:Nat}{lo hi:Option Value}(a:tE P hi len cap n)(b:tE P lo 0 n l)(w:World):
  (Instr.sliceBounds c len cap lo hi none).run P w=.ok (l,n,cap) w:=by
 cases hi with
 |none=>
  cases lo with
  |none=>simp only[tE]at a b;subst a;subst b;simp[Instr.sliceBounds]
  |some lo=>simp only[tE]at a b;subst a;simp[Instr.sliceBounds,b]
 |some hi=>
  cases lo with
  |none=>simp only[tE]at a b;subst b;simp[Instr.sliceBounds,a]
  |some lo=>simp only[tE]at a b;simp[Instr.sliceBounds,a,b]
theorem yR{c:Bool}{len cap n l m:Nat}{lo:Option Value}{hi d:Value}(hm:tE P (some d) 0 cap m)(a:tE P (some hi) 0 m n)(b:tE P lo 0 n l)(w:World):
  (Instr.sliceBounds c len cap lo (some hi) (some d)).run P w=.ok (l,n,m) w:=by
 cases lo with
 |none=>simp only[tE]at hm a b;subst b;simp[Instr.sliceBounds,hm,a]
 |some lo=>simp only[tE]at hm a b;simp[Instr.sliceBounds,hm,a,b]
theorem wa(a:Option Addr)(l m size:Nat):(if m=l then a else a.map (·.add (l*size)))=aW a l m size:=by
 unfold aW;split
 ·rfl
 ·congr 1;funext x;rw[rt]
theorem nF{t:TypeId}{K:Prop}(h:Nr P t K):K∧∀w,(sizeOf t).run P w=.ok (bK P t) w:=by
 unfold Nr at h;cases hi:P.info? t with
 |none=>rw[hi]at h;exact h.elim
 |some i=>rw[hi]at h;exact⟨h,fun w=>by simp[sizeOf,cD hi,bK,hi]⟩
theorem EZ{t:TypeId}{x:Value}{f:Nat}{K:RK}{h:ad}(hv:Ir P t x f K):Yv P (Instr.field t x f) K h:=by
 unfold Ir at hv;split at hv
 ·rename_i u off cs hf
  obtain⟨j,g,c,a,rfl,rfl⟩:=uh hf;cases hb:((P.underlying g.type).isSome&&(P.info? g.type).isSome)with
  |false=>rw[hb]at hv;exact hv.elim
  |true=>
   rw[hb]at hv;simp only[bq,dg]at hb;obtain⟨v,S,b,d,i⟩:=IB (cs:=cs) (off:=g.offset) (h:=h) hb.1 hb.2 hv;refine⟨v,S,b,d,fun w e=>?_⟩
   have:=i w e;simp only[Instr.field,Sem.run_bind,aw c,Result.andThen_ok,a,asAgg,Sem.run_pure,this]
 ·exact hv.elim
theorem yY{t:TypeId}{x i:Value}{K:RK}{h:ad}(hv:wp P t x i K):Yv P (Instr.indexAt t x i) K h:=by
 unfold wp at hv;split at hv
 ·rename_i n e a k i hu
  obtain⟨⟨⟨c,f⟩,d⟩,hz⟩:=nF hv;refine .of_pure d fun w=>?_
  simp[Instr.indexAt,asIntOf,aw hu,Instr.sureAddr,c,f,hz,rt]
 ·rename_i e b len cap k i hu
  obtain⟨⟨⟨c,f⟩,a,rfl,d⟩,hz⟩:=nF hv;refine .of_pure d fun w=>?_
  simp[Instr.indexAt,asIntOf,aw hu,c,f,hz,rt]
 ·exact hv.elim
theorem EY{t:TypeId}{x i:Value}{K:RK}{h:ad}(hv:Iq P t x i K):Yv P (Instr.index t x i) K h:=by
 unfold Iq at hv;split at hv
 ·rename_i s k i hu
  obtain⟨b,a,d,c⟩:=hv;refine .of_pure c fun w=>?_
  simp[Instr.index,asIntOf,aw hu,a,d]
 ·exact hv.elim
theorem EW{t:TypeId}{x:Value}{lo hi d:Option Value}{K:RK}{h:ad}(hv:Im P t x lo hi d K):Yv P (Instr.sliceAt t x lo hi d) K h:=by
 unfold Im at hv;split at hv
 ·rename_i s hu
  cases d with
  |some _=>exact hv.elim
  |none=>
   obtain⟨n,hv,b⟩:=kX (P:=P) hv;obtain⟨l,hv,c⟩:=kX (P:=P) hv;refine .of_pure hv fun w=>?_
   simp[Instr.sliceAt,Instr.slice,aw hu,nC b c]
 ·rename_i e a len cap hu
  obtain⟨hv,hz⟩:=nF hv;cases d with
  |none=>
   obtain⟨n,hv,b⟩:=kX (P:=P) hv;obtain⟨l,hv,c⟩:=kX (P:=P) hv;refine .of_pure hv fun w=>?_
   simp[Instr.sliceAt,Instr.slice,aw hu,nC b c,hz,wa]
  |some m=>
   cases hi with
   |none=>exact hv.elim
   |some hi=>
    obtain⟨g,hv,hm⟩:=kX (P:=P) hv;obtain⟨n,hv,b⟩:=kX (P:=P) hv;obtain⟨l,hv,c⟩:=kX (P:=P) hv;refine .of_pure hv fun w=>?_
    simp[Instr.sliceAt,Instr.slice,aw hu,yR hm b c,hz,wa]
 ·rename_i n e a hu
  obtain⟨hv,hz⟩:=nF hv;cases d with
  |some _=>exact hv.elim
  |none=>
   obtain⟨m,hv,b⟩:=kX (P:=P) hv;obtain⟨l,hv,c⟩:=kX (P:=P) hv;refine .of_pure hv fun w=>?_
   have f:(some (if n=l then a else a.add (l*bK P e)))=aW (some a) l n (bK P e):=by
    rw[←wa];split<;>rfl
   simp[Instr.sliceAt,aw hu,Instr.sureAddr,nC b c,hz,f]
 ·exact hv.elim
def m3(d:TypeDesc)(c:CK):Prop:=(∃i,d=.int i∧c=.int i)∨(d=.string∧c=.str)∨(d=.bool∧c=.bool)
theorem tX{t:TypeId}{c:CK}{e:TypeId}(h:GU P t=some (c,e)):∃k d,P.underlying t=some (.map k e)∧P.underlying k=some d∧m3 d c:=by
 unfold GU at h;split at h
 ·rename_i k e' hu
  split at h
  ·rename_i i hk
   simp only[bm.injEq,qY.injEq]at h;obtain⟨rfl,rfl⟩:=h;exact⟨k,_,hu,hk,.inl ⟨i,rfl,rfl⟩⟩
  ·rename_i hk
   simp only[bm.injEq,qY.injEq]at h;obtain⟨rfl,rfl⟩:=h;exact⟨k,_,hu,hk,.inr (.inl ⟨rfl,rfl⟩)⟩
  ·rename_i hk
   simp only[bm.injEq,qY.injEq]at h;obtain⟨rfl,rfl⟩:=h;exact⟨k,_,hu,hk,.inr (.inr ⟨rfl,rfl⟩)⟩
  ·cases h
 ·cases h
theorem zR{d:TypeDesc}{c:CK}(hd:m3 d c)(x y:c.den):Instr.sameNow d (c.enc x) (c.enc y)=some (gl (c.enc x) (c.enc y)):=by
 rcases hd with⟨i,rfl,rfl⟩|⟨rfl,rfl⟩|⟨rfl,rfl⟩
 ·simp[Instr.sameNow,CK.enc,gl]
 ·simp[Instr.sameNow,CK.enc,gl]
 ·simp[Instr.sameNow,CK.enc,gl]
theorem Ad{d:TypeDesc}{c:CK}(hd:m3 d c)(x:c.den):∀(es:List MapEntry) (i:Nat),BW c es→
  ∃r,Instr.findNow d (c.enc x) es i=some r∧r.map (·.2)=G4 (c.enc x) es
 | [],i,_=>⟨none,rfl,rfl⟩
 |e::es,i,h=>by
  obtain⟨y,f⟩:=h e (by simp);have a:=zR hd x y;rw[←f]at a;simp only[Instr.findNow,G4];cases hb:gl (c.enc x) e.key with
  |true=>rw[a,hb];exact⟨some (i,e.val),rfl,rfl⟩
  |false=>rw[a,hb];exact Ad hd x es (i+1) fun e' b=>h e' (by simp[b])
theorem Hh{a:Bool}{k:TypeId}{d:TypeDesc}{c:CK}(hd:m3 d c)(b:P.underlying k=some d)(v:Value)(n:Nat)(w:World):(Instr.checkKey a (n+1) k v).run P w=.ok () w:=by
 unfold Instr.checkKey;simp only[Sem.run_bind,aw b,Result.andThen_ok];rcases hd with⟨i,rfl,rfl⟩|⟨rfl,rfl⟩|⟨rfl,rfl⟩<;>rfl
theorem sC{k:TypeId}{d:TypeDesc}{c:CK}(hd:m3 d c)(b:P.underlying k=some d)(x:c.den){es:List MapEntry}(h:BW c es)(w:World):
  ∃r,(Instr.findKey k (c.enc x) es).run P w=.ok r w∧Instr.findNow d (c.enc x) es 0=some r∧r.map (·.2)=G4 (c.enc x) es:=by
 obtain⟨r,a,hm⟩:=Ad hd x es 0 h;refine⟨r,?_,a,hm⟩;simp only[Instr.findKey,Sem.run_bind,aw b,Result.andThen_ok,a,Sem.run_pure]
theorem j7{w:World}{r:Nat}{es:Array MapEntry}{a:Nat}(h:w.heap[r]? =some (.map es a)):(getObj r).run P w=.ok (.map es a) w:=by
 simp only[getObj,Sem.run,h]
theorem lR{a:Bool}{k:TypeId}{d:TypeDesc}{c:CK}(hd:m3 d c)(b:P.underlying k=some d)(v:Value)(w:World):(Instr.checkKey a 10000 k v).run P w=.ok () w:=
 Hh hd b v 9999 w
theorem II{t:TypeId}{c:CK}{e k:TypeId}{d:TypeDesc}(p:P.underlying t=some (.map k e))(f:P.underlying k=some d)(hd:m3 d c){m:Option Nat}{x:c.den}{z v:Value}{b i:Bool}{w:World}
  (hz:(zeroValue e).run P w=.ok z w)(hm:Jy c z w.heap m (c.enc x) v b):
  (Instr.lookup t (.map m) (c.enc x) i).run P w=.ok (bif i then .tuple #[v,.bool b]else v) w:=by
 cases m with
 |none=>
  obtain⟨rfl,rfl⟩:=hm;simp only[Instr.lookup,Sem.run_bind,aw p,Result.andThen_ok,Sem.run_pure,lR hd f];obtain⟨r,g,n,a⟩:=sC (P:=P) hd f x (es:= []) (fun _ h=>by cases h) w
  simp only[Instr.findNow,bm.injEq]at n;subst n;simp[g,hz]
 |some r=>
  obtain⟨es,j,q,o,hv⟩:=hm;simp only[Instr.lookup,Sem.run_bind,aw p,Result.andThen_ok,j7 q,Sem.run_pure,lR hd f];obtain⟨r,g,n,a⟩:=sC (P:=P) hd f x o w;simp only[g,Result.andThen_ok];cases r with
  |none=>
   simp only[Option.map_none]at a;rw[←a]at hv;obtain⟨rfl,rfl⟩:=hv;simp[hz]
  |some r=>
   simp only[fL]at a;rw[←a]at hv;obtain⟨rfl,rfl⟩:=hv;cases i<;>rfl
theorem eu{e:TypeId}{z:Value}(h:vt P e=some z)(w:World):(zeroValue e).run P w=.ok z w:=by
 unfold vt at h;cases hi:P.info? e with
 |none=>rw[hi]at h;cases h
 |some i=>rw[hi]at h;simp only at h;simp[zeroValue,cD hi,h]
theorem C2{t:TypeId}{x k:Value}{a:Bool}{K:RK}{h:ad}(hv:EX P t x k a K h):Yv P (Instr.lookup t x k a) K h:=by
 unfold EX at hv;split at hv
 ·rename_i c e m hc
  obtain⟨o,d,g,f,hd⟩:=tX hc;obtain⟨n,rfl,hv⟩:=CK.dec_sound hv;split at hv
  ·rename_i ek z hek hz
   obtain⟨y,b,hm,i⟩:=hv;exact⟨_,_,i,hm,fun w j=>II g f hd (eu hz w) j⟩
  ·exact hv.elim
 ·exact hv.elim
theorem Ip{t:TypeId}{x:Value}{ats:Array TypeId}{ty:TypeId}{K:RK}{h:ad}(a:ats[0]? =some t) (hv:Qy P t x K h):Yv P (Builtin.len_ ats ty #[x]) K h:=by
 unfold Qy at hv;split at hv
 ·rename_i s hu
  exact .of_pure hv fun w=>by simp[Builtin.len_,a,aw hu,goInt]
 ·rename_i n e _ hu
  exact .of_pure hv fun w=>by simp[Builtin.len_,a,aw hu,goInt]
 ·rename_i e b n c hu
  exact .of_pure hv fun w=>by simp[Builtin.len_,a,aw hu,goInt]
 ·rename_i k e m hu
  obtain⟨n,hm,g⟩:=hv;refine⟨_,_,g,hm,fun w f=>?_⟩
  cases m with
  |none=>
   have:n=0:=f;subst this;simp[Builtin.len_,a,aw hu,goInt]
  |some r=>
   obtain⟨es,d,i,rfl⟩:=f;simp[Builtin.len_,a,aw hu,goInt,j7 i]
 ·exact hv.elim
theorem It{t:TypeId}{x:Value}{ats:Array TypeId}{ty:TypeId}{K:RK}{h:ad}(a:ats[0]? =some t) (hv:Qz P t x K):Yv P (Builtin.cap_ ats ty #[x]) K h:=by
 unfold Qz at hv;split at hv
 ·rename_i e b n c hu
  exact .of_pure hv fun w=>by simp[Builtin.cap_,a,aw hu,goInt]
 ·exact hv.elim
theorem xB{c:Bool}{k:IntKind}:∀{vs:List Value} {a:Int} {f:Value→Prop},Fb c k a vs f→∃v,f v∧∀w,(vs.foldlM (bif c then Builtin.max2 else Builtin.min2) (Value.int k a):Sem Value).run P w=.ok v w
 | [],a,f,h=>⟨_,h,fun w=>by simp⟩
 | .int k' b::vs,a,f,h=>by
  simp only[Fb]at h;cases hk:Ff k' k with
  |false=>rw[hk]at h;exact h.elim
  |true=>
   rw[hk]at h;have:=xG hk;subst this;obtain⟨v,d,e⟩:=xB h;refine⟨v,d,fun w=>?_⟩
   rw[←e w];cases c<;>simp[List.foldlM_cons,Builtin.max2,Builtin.min2]
theorem vD{a:Bool}{vs:List Value}{f:Value→Prop}{ats:Array TypeId}{ty:TypeId}(h:AW a vs f):∃v,f v∧∀w,(bif a then Builtin.max_ ats ty vs.toArray else Builtin.min_ ats ty vs.toArray).run P w=.ok v w:=by
 unfold AW at h;split at h
 ·obtain⟨v,b,c⟩:=xB (P:=P) h
  refine⟨v,b,fun w=>?_⟩
  have:=c w;cases a<;>simpa[Builtin.max_,Builtin.min_]using this
 ·exact h.elim
theorem LZ{a:Addr}{e:MapEntry}{w:World}(i:a.off=0)(h:Jz w.heap a.block e):(Instr.entry (.pointer (some a))).run P w=.ok (.tuple #[e.key,e.val]) w:=by
 obtain⟨m,c,d,f,g,es,hi,o,hm,n⟩:=h;obtain⟨b,off,j⟩:=a;simp only at i hi;subst i;have k:(getObj b).run P w=.ok (.mapIter (some m) c d f) w:=by simp only[getObj,Sem.run,hi]
 simp[Instr.entry,k,o,j7 hm,n]
def Dq:DV→Value→Prop
 | .t,v=>v=.bool true
 | .f,v=>v=.bool false
 | .u,v=>v=undef
 | .x,_=>True
def DecOk(d:r7)(r:cn):Prop:=∀t,pc d t=.x∨∃v,jd r t=some v∧Dq (pc d t) v
theorem DecOk.at{d:r7}{r:cn}(h:DecOk d r){t:Nat}{v:Value}(hv:jd r t=some v):Dq (pc d t) v:=by
 rcases h t with e|⟨u,a,b⟩
 ·rw[e];trivial
 ·rw[hv]at a;cases a;exact b
theorem rI{d:r7}{r:cn}(hd:DecOk d r){o:Operand}{v:Value}(h:c7 r o=some v):Dq (xQ d o) v:=by
 cases o with
 |tmp t=>exact hd.at h
 |const c=>
  simp[c7]at h;subst h;cases c with
  |bool b=>cases b<;>exact rfl
  |_=>trivial
 |global g=>trivial
 |func f=>trivial
theorem zY{t:TypeId}(h:ox P t=true):∃d,P.underlying t=some d∧∀m,d≠ .interface m:=by
 unfold ox at h;split at h
 ·cases h
 ·rename_i d hd;exact⟨_,hd,fun m e=>by subst e;simp_all⟩
 ·cases h
theorem xE{t:TypeId}{v:Value}(h:ox P t=true)(w:World):(Instr.makeInterface t v).run P w=.ok (.iface t v) w:=by
 obtain⟨d,hd,a⟩:=zY h;simp only[Instr.makeInterface,Sem.run_bind,aw hd,Result.andThen_ok];cases d<;>first|exact absurd rfl (a _)|rfl
theorem Bk{t u:TypeId}{v:Value}(h:ox P t=true)(w:World):(Instr.typeAssert (.iface t v) u t false).run P w=.ok v w:=by
 obtain⟨d,hd,a⟩:=zY h;simp only[Instr.typeAssert,Sem.run_bind,aw hd,Result.andThen_ok];cases d<;>first|exact absurd rfl (a _)|(simp[Sem.run_pure])
theorem ja{t:TypeId}{z:List Value}(h:oL P t=some z):∃v,vt P t=some v∧v.cells.toList=z:=by
 unfold oL at h;cases hz:vt P t with
 |none=>rw[hz]at h;cases h
 |some v=>rw[hz]at h;simp only[bm.injEq]at h;exact⟨v,rfl,h⟩
theorem po{t:TypeId}{v:Value}(h:vt P t=some v):∃i,P.info? t=some i∧i.zero=some v:=by
 unfold vt at h;cases hi:P.info? t with
 |none=>rw[hi]at h;cases h
 |some i=>rw[hi]at h;exact⟨i,rfl,h⟩
theorem N8{A B:List Value}{x:Value}{m:Nat}(h:A.length=m):(A++x::B).take (m+1)=A++ [x]:=by
 subst h;rw[List.take_append,bp (by omega),show A.length+1-A.length=1 by omega];rfl
theorem N9{A B:List Value}{x:Value}{m n:Nat}(h:A.length=m):(A++x::B).drop (m+1+n)=B.drop n:=by
 subst h;rw[List.drop_append,List.drop_eq_nil_of_le (by omega),show A.length+1+n-A.length=n+1 by omega];rfl
theorem G2(off:Nat):∀(xs:List Value) (k:Nat) (arr:Array Value),off+k+xs.length≤arr.size→
  (xs.zipIdx k).foldl (fun cs (c,j)=>cs.setIfInBounds (off+j) c) arr=(GF arr.toList (off+k) xs).toArray
 | [],k,arr,_=>by simp[GF]
 |x::xs,k,arr,h=>by
  simp only[aL]at h;simp only[List.zipIdx_cons,List.foldl_cons];rw[G2 off xs (k+1) _ (by simp;omega)];have hm:off+k<arr.toList.length:=by simp;omega
  have b:arr.toList.set (off+k) x=arr.toList.take (off+k)++x::arr.toList.drop (off+k+1):=by
   rw[List.set_eq_take_append_cons_drop,if_pos hm]
  have a:(arr.toList.take (off+k)).length=off+k:=by simp;omega
  congr 1
  unfold GF;rw[Array.toList_setIfInBounds,b,←jN,N8 a,N9 a];simp only[List.append_assoc,cU,List.nil_append,aL,List.drop_drop];rw[show off+k+1+xs.length=off+k+(xs.length+1) by omega]
theorem qr{a:Nat→Option (Nat×Nat)}:∀(parts:List (Nat×Value)) (cs cs':List Value),Ae a cs parts=some cs'→Instr.fill a cs.toArray parts=some cs'.toArray
 | [],cs,cs',h=>by simp only[Ae,bm.injEq]at h;subst h;rfl
 |(i,v)::rest,cs,cs',h=>by
  simp only[Ae]at h;cases hp:a i with
  |none=>rw[hp]at h;cases h
  |some os=>
   obtain⟨off,size⟩:=os;rw[hp]at h;simp only at h;cases hb:(bw v.cells.toList.length size&&vg (off+v.cells.toList.length) cs.length)with
   |false=>rw[hb]at h;cases h
   |true=>
    rw[hb]at h;simp only[bq]at hb;have b:=aS hb.1;have g:=hE hb.2;have c:=qr rest _ _ h;have f:v.cells.size=size:=by simpa using b
    have e:off+v.cells.size≤cs.length:=by simpa using g
    have d:Array.foldl (fun cs x=>cs.setIfInBounds (off+x.2) x.1) cs.toArray v.cells.zipIdx=(GF cs off v.cells.toList).toArray:=by
     have:=G2 off v.cells.toList 0 cs.toArray (by simpa using e);simp only[cN]at this;rw[←this,←Array.foldl_toList];congr 1
     simp[Array.toList_zipIdx]
    simp only[Instr.fill,hp];rw[if_neg (by simp[f];omega)];simp only[d];exact c
theorem mN{N:Nat}{r:cn}{a:Act}(h:Agree N r a):∀{ps:List (Nat×Operand)} {vs:List (Nat×Value)},ot r ps=some vs→ps.map (fun p=>(p.1,a.eval p.2))=vs
 | [],vs,hv=>by simp[ot]at hv;subst hv;rfl
 |(i,o)::ps,vs,hv=>by
  simp only[ot]at hv;cases ho:c7 r o with
  |none=>simp[ho]at hv
  |some v=>cases hos:ot r ps with
   |none=>simp[ho,hos]at hv
   |some us=>simp[ho,hos]at hv;subst hv;simp[j8 h ho,mN h hos]
theorem oy{t:TypeId}(h:uS P t=true)(w:World):(sizeOf t).run P w=.ok (bK P t) w:=by
 unfold uS at h;cases hi:P.info? t with
 |none=>rw[hi]at h;cases h
 |some i=>simp[sizeOf,cD hi,bK,hi]
theorem BL(w:World):∀l:List Field,xX P l=true→(l.mapM fun f:Field=>((do pure (f.offset,←sizeOf f.type)):Sem (Nat×Nat))).run P w=.ok (l.map fun f:Field=>(f.offset,bK P f.type)) w
 | [],_=>rfl
 |f::l,h=>by
  simp only[xX]at h;cases hf:uS P f.type with
  |false=>rw[hf]at h;cases h
  |true=>
   rw[hf]at h;rw[List.mapM_cons];simp only[Sem.run_bind,oy hf,Result.andThen_ok,Sem.run_pure,BL w l h,fx]
theorem xV{t:TypeId}{ps:Array (Nat×Value)}{cs:List Value}(a:FB P t ps.toList=some cs)(w:World):
  (Instr.build t ps).run P w=.ok (.agg cs.toArray) w:=by
 unfold FB at a;split at a
 ·rename_i fs z hu hz
  obtain⟨v,hz,hv⟩:=ja hz;cases ha:xX P fs.toList with
  |false=>rw[ha]at a;cases a
  |true=>
   rw[ha]at a;have g:(fs.mapM fun f:Field=>((do pure (f.offset,←sizeOf f.type)):Sem (Nat×Nat))).run P w=.ok (fs.map fun f:Field=>(f.offset,bK P f.type)) w:=by
    rw[Array.mapM_eq_mapM_toList];simp only[Sem.run_map,BL w fs.toList ha,Result.andThen_ok];congr 1
    apply cP;simp
   have d:=qr _ _ _ a;have b:(fun i:Nat=>(fs.map fun f:Field=>(f.offset,bK P f.type))[i]?)=IA P fs.toList:=by
    funext i;unfold IA;rw[Array.getElem?_map,bv];cases fs[i]?<;>rfl
   have c:v.cells=z.toArray:=by rw[←hv]
   rw[cond_true]at a;rw[←b]at d;simp only[Instr.build,Sem.run_bind,eu hz,Result.andThen_ok,aw hu,g,c,d,Sem.run_pure]
 ·rename_i n e z hu hz
  obtain⟨v,hz,hv⟩:=ja hz;cases ha:uS P e with
  |false=>rw[ha]at a;cases a
  |true=>
   rw[ha]at a;have d:=qr _ _ _ a;have c:v.cells=z.toArray:=by rw[←hv]
   simp only[Instr.build,Sem.run_bind,eu hz,Result.andThen_ok,aw hu,oy ha,c,d,Sem.run_pure]
 ·cases a
theorem yX{ek:Option (Kind×Kind)}{o:Oper}{r:cn}{K:RK}{h:ad}{N:Nat}{a:Act}(O:Agree N r a)(g:yK P ek o.op r K h)(d:r7)(hd:DecOk d r):
  ∃v S,K v S∧Ox S h∧Dq (Gb d o.op) v∧∀w:World,Ox S w.heap→(execOp a.eval o).run P w=.ok (.value v) w:=by
 have j:∀{x:Operand} {v:Value},c7 r x=some v→a.eval x=v:=fun h=>j8 O h
 have fin:∀{s:Sem Value},Yv P s K h→Gb d o.op=.x→(∀w,(execOp a.eval o).run P w=(do pure (Next.value (←s)):Sem Next).run P w)→
   ∃v S,K v S∧Ox S h∧Dq (Gb d o.op) v∧∀w:World,Ox S w.heap→(execOp a.eval o).run P w=.ok (.value v) w:=by
  rintro s ⟨v,S,q,B,z⟩ hx G;exact⟨v,S,q,B,by rw[hx];trivial,fun w C=>by rw[G w];exact hP (z w C)⟩
 obtain⟨Q,M,type,l9,E,F⟩:=o;simp only at g fin⊢;cases M with
 |move x=>
  simp only[yK]at g;split at g
  ·rename_i v hv
   exact⟨v,none,g,trivial,rI hd hv,fun w _=>by simp[execOp,j hv]⟩
  ·exact g.elim
 |assign x=>
  simp only[yK]at g;split at g
  ·rename_i v hv
   exact⟨v,none,g,trivial,rI hd hv,fun w _=>by simp[execOp,j hv]⟩
  ·exact g.elim
 |pick c x y=>
  simp only[yK]at g;split at g
  ·rename_i vc va vb hc hx R
   unfold P1 at g;split at g
   ·rename_i cb
    have J:=rI hd hc;have W:=rI hd hx;have T:=rI hd R;have G:∀w,(execOp a.eval ⟨Q,.pick c x y,type,l9,E,F⟩).run P w=.ok (.value (if cb then va else vb)) w:=fun w=>by
     simp[execOp,j hc,j hx,j R,asBool]
    have I:Dq (Gb d (.pick c x y)) (if cb then va else vb):=by
     simp only[Gb];cases hcd:xQ d c with
     |t=>
      rw[hcd]at J;have:cb=true:=by simpa[Dq]using J
      subst this;exact W
     |f=>
      rw[hcd]at J;have:cb=false:=by simpa[Dq]using J
      subst this;exact T
     |u=>trivial
     |x=>trivial
    split at g
    ·rename_i bx by'
     have L:(if cb=true then Value.bool bx else Value.bool by')=.bool (bif cb then bx else by'):=by cases cb<;>rfl
     rw[L]at I;exact⟨_,none,g,trivial,I,fun w _=>by rw[G w,L]⟩
    ·cases cb
     ·exact⟨_,none,g,trivial,I,fun w _=>G w⟩
     ·exact⟨_,none,g,trivial,I,fun w _=>G w⟩
   ·exact g.elim
  ·exact g.elim
 |load t x=>
  simp only[yK]at g;split at g
  ·rename_i v hv
   obtain⟨u,S,q,B,z⟩:=zU g;exact fin ⟨u,some S,q,B,z⟩ rfl fun w=>by simp only[execOp,j hv]
  ·exact g.elim
 |nilCheck x=>
  simp only[yK]at g;split at g
  ·rename_i p hv
   obtain⟨b,rfl,q⟩:=g;exact⟨_,none,q,trivial,trivial,fun w _=>by simp[execOp,j hv]⟩
  ·exact g.elim
 |binOp M t x y yt=>
  simp only[yK]at g;split at g
  ·rename_i v u hv hu
   obtain⟨U,S,q,B,z⟩:=Iv (x:=x) (y:=y) g;refine⟨U,S,q,B,trivial,fun w C=>?_⟩
   simp only[execOp,j hv,j hu];exact hP (z w C)
  ·rename_i v u hna hv hu
   have Z:(∀c d,v=.agg c→u=.agg d→False)∧(v=.nilIface→u=.nilIface→False)∧Yv P (binOp M t v u) K h:=by
    split at g
    ·exact BQ (neg:=false) g
    ·exact BQ (neg:=true) g
    ·exact Iu g
   obtain⟨h1,h2,U,S,q,B,z⟩:=Z;refine⟨U,S,q,B,trivial,fun w C=>?_⟩
   simp only[execOp,j hv,j hu];simp[Jf M t x y v u h1 h2 w,z w C]
  ·exact g.elim
 |unOp M t x=>
  simp only[yK]at g;split at g
  ·rename_i v hv
   obtain⟨u,S,q,B,z⟩:=Ly (P:=P) (h:=h) g;refine⟨u,S,q,B,?_,fun w C=>by simp only[execOp,j hv];exact hP (z w C)⟩
   have H:=rI hd hv;cases M<;>try trivial
   simp only[Gb];have A:=z {(default:World)with heap:=h} B;cases hx:xQ d x with
   |t=>
    rw[hx]at H;have:v=.bool true:=H;subst this;simp[Op.unary]at A;exact A.symm
   |f=>
    rw[hx]at H;have:v=.bool false:=H;subst this;simp[Op.unary]at A;exact A.symm
   |u=>trivial
   |x=>trivial
  ·exact g.elim
 |convert s t x=>
  simp only[yK]at g;split at g
  ·rename_i v hv
   exact fin (GC g) rfl fun w=>by simp only[execOp,j hv]
  ·exact g.elim
 |extract x i=>
  simp only[yK]at g;split at g
  ·rename_i vs hv
   split at g
   ·rename_i u hu
    have V:vs[i]? =some u:=by simpa using hu
    exact⟨u,none,g,trivial,trivial,fun w _=>by simp[execOp,j hv,Instr.extract,V]⟩
   ·exact g.elim
  ·exact g.elim
 |fieldAddr t x f=>
  simp only[yK]at g;split at g
  ·rename_i b u off hv hf
   exact fin (AD hf g) rfl fun w=>by simp only[execOp,j hv]
  ·exact g.elim
 |field t x f=>
  simp only[yK]at g;split at g
  ·rename_i v hv
   exact fin (EZ g) rfl fun w=>by simp only[execOp,j hv]
  ·exact g.elim
 |indexAddr t x i=>
  simp only[yK]at g;split at g
  ·rename_i v u hv hu
   exact fin (yY g) rfl fun w=>by simp only[execOp,j hv,j hu]
  ·exact g.elim
 |index t x i=>
  simp only[yK]at g;split at g
  ·rename_i v u hv hu
   exact fin (EY g) rfl fun w=>by simp only[execOp,j hv,j hu]
  ·exact g.elim
 |slice t x lo hi mx=>
  simp only[yK]at g;split at g
  ·rename_i v l h' m hv hl hh hm
   have X:∀{x:Option Operand} {v:Option Value},DU r x=some v→x.map a.eval=v:=by
    intro x v hx;cases x with
    |none=>simp[DU]at hx;subst hx;rfl
    |some x=>
     simp only[DU]at hx;cases G:c7 r x with
     |none=>simp[G]at hx
     |some u=>simp[G]at hx;subst hx;simp[j G]
   exact fin (EW g) rfl fun w=>by simp only[execOp,j hv,X hl,X hh,X hm]
  ·exact g.elim
 |lookup t x k ok=>
  simp only[yK]at g;split at g
  ·rename_i v u hv hu
   exact fin (C2 g) rfl fun w=>by simp only[execOp,j hv,j hu]
  ·exact g.elim
 |makeInterface t x=>
  simp only[yK]at g;split at g
  ·rename_i v hv
   cases hb:ox P t with
   |false=>rw[hb]at g;exact g.elim
   |true=>
    rw[hb,cond_true]at g;exact⟨_,none,g,trivial,trivial,fun w _=>by simp only[execOp,j hv];exact hP (xE hb w)⟩
  ·exact g.elim
 |typeAssert x u t ok=>
  simp only[yK]at g;split at g
  ·rename_i v hv
   cases ok with
   |true=>exact g.elim
   |false=>
    rw[cond_false]at g;unfold Ks at g;cases hb:ox P t with
    |false=>rw[hb]at g;exact g.elim
    |true=>
     rw[hb,cond_true]at g;split at g
     ·obtain⟨y,rfl,q⟩:=g
      exact⟨_,none,q,trivial,trivial,fun w _=>by simp only[execOp,j hv];exact hP (Bk hb w)⟩
     ·exact g.elim
  ·exact g.elim
 |makeFunc fn first cap=>
  simp only[yK]at g;split at g
  ·rename_i vs us hv hu
   have L:=mJ O hv;have e2:=mJ O hu;refine⟨_,none,g,trivial,trivial,fun w _=>?_⟩
   have Y:first.map a.eval=vs.toArray:=by rw[←L];apply cP;simp
   have f2:cap.map a.eval=us.toArray:=by rw[←e2];apply cP;simp
   simp[execOp,Instr.makeFunc,Y,f2]
  ·exact g.elim
 |entry it=>
  simp only[yK]at g;split at g
  ·rename_i b kk vk hv
   obtain⟨h0,e,x,y,hi,q,R,hK⟩:=g;refine⟨_,_,hK,hi,trivial,fun w C=>?_⟩
   simp only[execOp,j hv];refine hP ?_;rw[LZ h0 C,q,R]
  ·exact g.elim
 |call c=>
  simp only[yK]at g;have D:∀{b:Builtin} {vs:List Value},c.callee=.builtin b→oN r c.args.toList=some vs→∃cs:Array Bool,∀w,(execOp a.eval ⟨Q,.call c,type,l9,E,F⟩).run P w=
    (builtin b c.argTypes type cs vs.toArray).run P w:=by
   intro b vs hc n;have L:=mJ O n;have Y:c.args.map a.eval=vs.toArray:=by rw[←L];apply cP;simp
   refine⟨c.args.map fun| .const _=>true|_=>false,fun w=>?_⟩
   simp[execOp,resolve,hc,Y,invoke];rfl
  split at g
  ·rename_i v t hc n hat
   obtain⟨cs,D⟩:=D hc n;obtain⟨u,S,q,B,z⟩:=Ip (ats:=c.argTypes) (ty:=type) (by rw[←bv,hat];rfl) g;exact⟨u,S,q,B,trivial,fun w C=>by rw[D w];simp only[builtin];exact hP (z w C)⟩
  ·rename_i v t hc n hat
   obtain⟨cs,D⟩:=D hc n;obtain⟨u,S,q,B,z⟩:=It (h:=h) (ats:=c.argTypes) (ty:=type) (by rw[←bv,hat];rfl) g;exact⟨u,S,q,B,trivial,fun w C=>by rw[D w];simp only[builtin];exact hP (z w C)⟩
  ·rename_i vs hc n
   obtain⟨cs,D⟩:=D hc n;obtain⟨u,q,z⟩:=vD (P:=P) (ats:=c.argTypes) (ty:=type) g;exact⟨u,none,q,trivial,trivial,fun w _=>by rw[D w];simp only[builtin];exact hP (z w)⟩
  ·rename_i vs hc n
   obtain⟨cs,D⟩:=D hc n;obtain⟨u,q,z⟩:=vD (P:=P) (ats:=c.argTypes) (ty:=type) g;exact⟨u,none,q,trivial,trivial,fun w _=>by rw[D w];simp only[builtin];exact hP (z w)⟩
  ·exact g.elim
 |build t ps=>
  simp only[yK]at g;split at g
  ·rename_i vs n
   split at g
   ·rename_i cs hcs
    refine⟨_,none,g,trivial,trivial,fun w _=>?_⟩
    have hp:(ps.map fun x=>(x.1,a.eval x.2))=vs.toArray:=by
     rw[←mN O n];apply cP;simp
    have G:=xV (ps:=vs.toArray) (by simpa using hcs) w;simp only[execOp];rw[show(ps.map fun(i,x)=>(i,a.eval x))=vs.toArray from hp]
    exact hP G
   ·exact g.elim
  ·exact g.elim
 |_=>simp only[yK]at g
end Go.Lift
namespace Go.Lift
open Go
variable {P:Program}
def Hl(P:Program)(s:Sem Next)(K:WK)(w:World):Prop:=
 (∃v w',s.run P w=.ok (.value v) w'∧Tame w w'∧K v w'.heap)∨
 (∃w',s.run P w=.ok .skip w'∧Tame w w'∧K undef w'.heap)∨
 (∃f args,s.run P w=.ok (.enter f args) w∧Calls P f args w fun e w'=>Tame w w'∧∃v,e=.returned v∧K v w'.heap)∨
 (∃l fn tmps assign body,s.run P w=.ok (.round l fn tmps assign body) w∧
  ∀(c:Frame) (cs:List Frame),∃b w',Tame w w'∧K (.bool b) w'.heap∧Steps P (lone (Frame.round l fn tmps assign body .normal) (c::cs) w) (lone (c.finish (.bool b)) cs w'))
def Wv(P:Program)(s:Sem Value)(K:WK)(w:World):Prop:=∃v w',s.run P w=.ok v w'∧Tame w w'∧K v w'.heap
theorem Wv.out{s:Sem Value}{K:WK}{w:World}(h:Wv P s K w):Hl P (do pure (Next.value (←s))) K w:=by
 obtain⟨v,w',c,b,a⟩:=h;exact .inl ⟨v,w',hP c,b,a⟩
def Wu(P:Program)(s:Sem Unit)(K:WK)(w:World):Prop:=∃w',s.run P w=.ok () w'∧Tame w w'∧K undef w'.heap
theorem Wu.out{s:Sem Unit}{K:WK}{w:World}(h:Wu P s K w):Hl P (do s;pure Next.skip) K w:=by
 obtain⟨w',c,b,a⟩:=h;exact .inr (.inl ⟨w',M8 c,b,a⟩)
def jc(w:World)(h:ad):World:={w with heap:=h}
theorem dZ(w:World)(h:ad):Tame w (jc w h):=⟨rfl,rfl,rfl⟩
theorem ji(e:TypeId)(cs:Array Value)(w:World):(newRow e cs).run P w=.ok (aA w.heap) (jc w (hnew w.heap cs.toList e)):=by
 simp[newRow,newObj,Sem.run,aA,jc,hnew,bind,Sem.bind,pure]
theorem BC(o:Obj)(w:World):(newObj o).run P w=.ok w.heap.size (jc w (w.heap.push o)):=rfl
theorem C7{h:ad}{a b:Addr}(v:Value)(c:a≠b):aK (hset h a v) b=aK h b:=
 World.cell?_setCell_other {(default:World)with heap:=h} a b v c
theorem AC{h:ad}{a:Addr}{u:Value}(v:Value)(hc:aK h a=some u):aK (hset h a v) a=some v:=
 World.cell?_setCell_same {(default:World)with heap:=h} a v hc
theorem Fh{h:ad}{a b:Addr}(v:Value):A0 (hset h a v) b=A0 h b:=
 World.frozen?_setCell {(default:World)with heap:=h} a b v
theorem Wr.hset{h:ad}{a b:Addr}(v:Value)(f:Wr h b):Wr (hset h a v) b:=by
 obtain⟨⟨u,c⟩,d⟩:=f;refine⟨?_,by rw[Fh];exact d⟩
 by_cases e:a=b
 ·subst e;exact⟨v,AC v c⟩
 ·exact⟨u,by rw[C7 v e];exact c⟩
theorem Ih{w:World}{a:Addr}{v:Value}(hv:∀cs,v≠ .agg cs)(c:∀cs,v≠ .tuple cs)(g:Wr w.heap a):(store a v).run P w=.ok () (jc w (hset w.heap a v)):=by
 obtain⟨⟨u,f⟩,e⟩:=g;have b:w.cell? a=some u:=f;have d:w.frozen? a=false:=e;cases v<;>first|exact absurd rfl (hv _)|exact absurd rfl (c _)|(simp only[store,Sem.run,b,d];rfl)
theorem E7{v:Value}{vs:List Value}(h:bS (v::vs)=true):(∀cs,v≠ .agg cs)∧(∀cs,v≠ .tuple cs)∧bS vs=true:=by
 simp only[bS,bq]at h;refine⟨fun cs e=>?_,fun cs e=>?_,h.2⟩<;>(subst e;exact absurd h.1 (by simp))
theorem pH{a:Addr}:∀(vs:List Value) (i:Nat) (w:World),bS vs=true→(∀j,j<vs.length→Wr w.heap (adr a (i+j)))→
  (storeCells a vs i).run P w=.ok () (jc w (gD w.heap a i vs))
 | [],i,w,_,_=>rfl
 |v::vs,i,w,b,hw=>by
  obtain⟨f,e,b⟩:=E7 b;have c:=hw 0 (by simp);simp only[cN]at c;have d:a.add i=adr a i:=(rt a i).symm;simp only[storeCells,d,Sem.run_bind,Ih f e c,Result.andThen_ok];rw[pH vs (i+1) (jc w (hset w.heap (adr a i) v)) b fun j g=>?_]
  ·rfl
  ·have:=hw (j+1) (by simp only[aL];omega)
   rw[show i+1+j=i+(j+1) by omega]
   exact this.hset v
theorem Ea{a:Addr}(m:Nat):∀(vs:List Value) (i:Nat) (h:ad),gD h (adr a m) i vs=gD h a (m+i) vs
 | [],_,_=>rfl
 |v::vs,i,h=>by
  simp only[gD];rw[Ea m vs (i+1),A8];rfl
theorem EE{t:TypeId}{a v:Value}{K:WK}{w:World}(c:HZ P t a v K w.heap):Wu P (Instr.storeAt t a v) K w:=by
 unfold HZ at c;split at c
 ·rename_i a
  cases hb:(bw v.cells.toList.length (bK P t)&&bS v.cells.toList)with
  |false=>rw[hb]at c;exact c.elim
  |true=>
   rw[hb]at c;simp only[bq]at hb;have n:=aS hb.1;obtain⟨c,hz⟩:=nF c;have g:v.cells.size=bK P t:=by simpa using n
   have m:(∀j,j<v.cells.toList.length→Wr w.heap (adr a (0+j)))→(Instr.storeAt t (.pointer (some a)) v).run P w=.ok () (jc w (gD w.heap a 0 v.cells.toList)):=by
    intro d;have:=pH (P:=P) v.cells.toList 0 w hb.2 d;simp[Instr.storeAt,Instr.sureAddr,storeVar,hz,g,this]
   split at c
   ·rename_i u hu
    obtain⟨d,i⟩:=c;refine⟨_,m (fun j f=>?_),dZ _ _,?_⟩
    ·rw[hu]at f;simp only[aL,List.length_nil]at f
     obtain rfl:j=0:=by omega
     exact d
    ·rw[hu];exact i
   ·obtain⟨d,i⟩:=c
    refine⟨_,m (fun j f=>?_),dZ _ _,i⟩
    rcases d with e|⟨b,k,d⟩
    ·rw[e]at f;cases f
    ·cases k;exact d j f
 ·exact c.elim
theorem iK(z:Array Value)(n:Nat):(Builtin.zeroCells z n).toList=df n z.toList:=by
 have key:∀n,(List.range (n*z.size)).map (fun i=>z[i%z.size]!)=(eY n z.toList).flatten:=by
  intro n;induction n with
  |zero=>simp
  |succ n ih=>
   rw[Nat.succ_mul,List.range_add,List.map_append,ih,List.replicate_succ',List.flatten_append];congr 1
   simp only[List.map_map,List.flatten_cons,List.flatten_nil,List.append_nil];apply List.ext_getElem
   ·simp
   ·intro i a b
    simp only[List.length_map,List.length_range]at a;simp[Nat.mod_eq_of_lt a,a,Nat.add_mod]
 simpa[Builtin.zeroCells,df]using key n
theorem db{t e:TypeId}(h:tg P t=some e):P.underlying t=some (.slice e):=by
 unfold tg at h;split at h
 ·rename_i e' hu;simp only[bm.injEq]at h;subst h;exact hu
 ·cases h
theorem Kb{z:Value}{n:Nat}:((Array.range (n*z.cells.size)).map (z.cells[· %z.cells.size]!))=(df n z.cells.toList).toArray:=by
 have:=iK z.cells n;unfold Builtin.zeroCells at this;apply cP;rw[this]
theorem zn{t e:TypeId}{n:Nat}{ps:Array (Nat×Value)}{z cs:List Value}(p:tg P t=some e)(hz:oL P e=some z)(q:n*bK P e≤16777216)(j:z.length=bK P e)
  (m:Ae (fun i=>some (i*bK P e,bK P e)) (df n z) ps.toList=some cs)(w:World):
  (Instr.buildSlice t n ps).run P w=.ok (.slice (some (aA w.heap)) n n) (jc w (hnew w.heap cs e)):=by
 obtain⟨v,hv,c⟩:=ja hz;obtain⟨i,hi,o⟩:=po hv;have k:(sizeOf e).run P w=.ok (bK P e) w:=by simp[sizeOf,cD hi,bK,hi]
 have d:v.cells.size=bK P e:=by rw[←j,←c];simp
 have g:=qr _ _ _ m;have a:((Array.range (n*bK P e)).map (fun i=>(if n*bK P e=0 then #[]else v.cells)[i%(if n*bK P e=0 then #[]else v.cells).size]!))=(df n z).toArray:=by
  by_cases b:n*bK P e=0
  ·have:(df n z).length=0:=by simp[df,j,b]
   rw[bO.1 this];simp[b]
  ·simp only[if_neg b]
   rw[←d,Kb,c]
 have f:¬(n*bK P e>2^24):=by omega
 simp only[Instr.buildSlice,Sem.run_bind,aw (db p),Result.andThen_ok,k,if_neg f];by_cases b:n*bK P e=0
 ·simp only[if_pos b]at a
  simp only[if_pos b,Sem.run_bind,Sem.run_pure,Result.andThen_ok,a,g,ji]
 ·simp only[if_neg b]at a
  simp only[if_neg b,Sem.run_bind,Sem.run_pure,Result.andThen_ok,eu hv,a,g,ji]
theorem Lu{h:ad}{a:Addr}{vs:List Value}(b:Row h a vs):∀j v,vs[j]? =some v→aK h (a.add j)=some v:=fun j v hv=>by
 rw[←rt];exact b j v hv
theorem uN{size n cap len:Nat}{b:Option Addr}{vs:List Value}{w:World}(d:SRow w.heap b (n*size) vs):(Builtin.firstCells size n (.slice b len cap)).run P w=.ok vs.toArray w:=by
 obtain⟨c,a⟩:=d;cases b with
 |none=>
  rcases a with rfl|⟨_,h,_⟩
  ·simp[Builtin.firstCells]
  ·cases h
 |some b=>
  refine run_firstCells_some w size n b len cap vs c fun j v hv=>?_
  rcases a with rfl|⟨_,h,a⟩
  ·cases hv
  ·cases h;exact Lu a j v hv
theorem Bs{a:Addr}{m:Nat}{xs:List Value}{w:World}(e:bS xs=true)(c:rK w.heap (some a) m xs):
  (storeCells (a.add m) xs).run P w=.ok () (jc w (gD w.heap a m xs)):=by
 rcases c with rfl|⟨b,f,c⟩
 ·rfl
 ·cases f
  have:=pH (P:=P) (a:=adr a m) xs 0 w e fun j d=>by rw[A8,aB];exact c j d
  rw[←rt,this,Ea,cN]
set_option maxHeartbeats 1000000 in
theorem Cq{t e u ty:TypeId}{b:Option Addr}{sl f c:Nat}{xs:List Value}{x:Value}{K:WK}{w:World}(C:tg P t=some e)(k:(∃e',P.underlying u=some (.slice e'))∨P.underlying u=some .string)
  (g:∀w,(Builtin.lenOf x).run P w=.ok c w)(hx:∀w':World,w'.heap=w.heap→(Builtin.firstCells (bK P e) c x).run P w'=.ok xs.toArray w')
  (hi:∃i,P.info? e=some i)
  (h:Om P e b sl f c xs K w.heap):Wv P (Builtin.append_ #[t,u] ty #[.slice b sl f,x]) K w:=by
 obtain⟨i,hi⟩:=hi;have j:bK P e=i.size:=by simp[bK,hi]
 have G:oQ P e=i.bytes:=by simp[oQ,hi]
 by_cases hc:sl+c≤f
 ·obtain⟨L,J,B⟩:=h.1 hc
  refine⟨_,_,?_,dZ w (fj w.heap b (sl*bK P e) xs),B⟩;cases b with
  |none=>
   have d:=hx w rfl;rw[j]at d;rcases k with⟨e',hd⟩|hd<;>(simp[Builtin.append_,aw (db C),aw hd,sizeOf,cD hi,g,hc,d];rfl)
  |some a=>
   have s:=Bs (P:=P) J L;have d:=hx w rfl;rw[j]at s d;rcases k with⟨e',hd⟩|hd<;>(simp[Builtin.append_,aw (db C),aw hd,sizeOf,cD hi,g,hc,d,s,fj,j])
 ·obtain⟨p,z,H,hz,y,E,B⟩:=h.2 (by omega)
  obtain⟨v,hv,A⟩:=ja hz;obtain⟨M,m,I⟩:=po hv;rw[hi]at m;cases m;rw[G]at y E;have o:¬i.bytes=0:=by omega
  have n:¬(281474976710656<Builtin.nextslicecap (sl+c) f*i.bytes):=by omega
  have d:=hx w.drew rfl;have q:(Builtin.firstCells (bK P e) sl (.slice b sl f)).run P w.drew=.ok p.toArray w.drew:=uN H;rw[j]at d q;have D:sl+c≤(Question.appendCap (sl+c) f e).cut (w.tape w.drawn (.appendCap (sl+c) f e)):=nT _ _;refine⟨_,jc w.drew (hnew w.heap (p++xs++df ((Question.appendCap (sl+c) f e).cut (w.tape w.drawn (.appendCap (sl+c) f e))-(sl+c)) z) e),?_,⟨rfl,rfl,rfl⟩,B _ D⟩
  have F:(Builtin.zeroCells v.cells ((Question.appendCap (sl+c) f e).cut (w.tape w.drawn (.appendCap (sl+c) f e))-(sl+c)))=(df ((Question.appendCap (sl+c) f e).cut (w.tape w.drawn (.appendCap (sl+c) f e))-(sl+c)) z).toArray:=by
   apply cP;rw[iK,A]
  rcases k with⟨e',hd⟩|hd<;>(simp[Builtin.append_,aw (db C),aw hd,sizeOf,cD hi,g,hc,o,n,Question.forced,d,q,eu hv,ji,F,aA];rfl)
theorem BZ{t:TypeId}{K:Prop}(h:Nr P t K):∃i,P.info? t=some i:=by
 unfold Nr at h;cases hi:P.info? t with
 |none=>rw[hi]at h;exact h.elim
 |some i=>exact⟨i,rfl⟩
theorem xH{t:TypeId}(h:bK P t≠0):∃i,P.info? t=some i:=by
 cases hi:P.info? t with
 |none=>exact absurd (by simp[bK,hi]) h
 |some i=>exact⟨i,rfl⟩
theorem Aj{size n:Nat}{x:ByteArray}{w:World}:(Builtin.firstCells size n (.string x)).run P w=.ok ((cX x).take n).toArray w:=by
 simp only[Builtin.firstCells,Sem.run_pure];congr 1
 apply cP;simp[cX,nn,fS,←List.map_take]
theorem vz{t u ty:TypeId}{s x:Value}{K:WK}{w:World}(c:(∃e',P.underlying u=some (.slice e'))∨P.underlying u=some .string)(h:AM P t s x K w.heap):
  Wv P (Builtin.append_ #[t,u] ty #[s,x]) K w:=by
 unfold AM at h;split at h
 ·rename_i e b sl sc a xl xc ht
  have hi:=BZ h;obtain⟨⟨xs,d,f⟩,hz⟩:=nF h;exact Cq ht c (fun w=>rfl) (fun w' g=>uN (by rw[g];exact d)) hi f
 ·rename_i e b sl sc x ht
  cases hb:bw (bK P e) 1 with
  |false=>rw[hb]at h;exact h.elim
  |true=>
   rw[hb]at h;have i:=aS hb;have j:(cX x).length=x.size:=by simp[cX]
   refine Cq ht c (fun w=>rfl) (fun w' _=>?_) (xH (by omega)) h
   rw[Aj,bp (by omega)]
 ·exact h.elim
theorem yL{n:Int}(b:0≤n)(a:n≤9223372036854775807):IntKind.i64.wrap n=n:=IntWalk.i64_in n ⟨by omega,a⟩
theorem Ju{t e u ty:TypeId}{b:Option Addr}{sl g:Nat}{k0 k:IntKind}{l:Int}{z:List Value}{K:WK}{w:World}(x:tg P t=some e)(y:P.underlying u=some (.int k0))
  (hz:oL P e=some z)(N:z.length=bK P e)(W:0≤l)(M:l*oQ P e≤2^48)(X:l≤9223372036854775807)(Z:((sl+l.toNat:Nat):Int)≤9223372036854775807)
  (h:Om P e b sl g l.toNat (df l.toNat z) K w.heap):Wv P (Builtin.append_ #[t,u] ty #[.slice b sl g,.int k l]) K w:=by
 obtain⟨v,hv,D⟩:=ja hz;obtain⟨i,hi,U⟩:=po hv;have j:bK P e=i.size:=by simp[bK,hi]
 have G:oQ P e=i.bytes:=by simp[oQ,hi]
 have A:IntKind.wrap .i64 l=l:=yL W X;have f:¬l<0:=by omega
 rw[G]at M;have d:¬(281474976710656:Int)<l*i.bytes:=by omega
 have c:∀w':World,(asInt (.int k l)).run P w'=.ok l w':=fun w'=>rfl
 have B:(Builtin.zeroCells v.cells l.toNat)=(df l.toNat z).toArray:=by apply cP;rw[iK,D]
 have q:l.toNat*i.size=0→df l.toNat z= []:=fun J=>by
  have C:(df l.toNat z).length=l.toNat*i.size:=by rw[←j,←N];unfold df;simp
  exact bO.1 (by rw[C,J])
 by_cases hc:sl+l.toNat≤g
 ·obtain⟨O,M,I⟩:=h.1 hc
  refine⟨_,_,?_,dZ w (fj w.heap b (sl*bK P e) (df l.toNat z)),I⟩;cases b with
  |none=>
   by_cases m:l.toNat*i.size=0
   ·simp[Builtin.append_,aw (db x),aw y,sizeOf,cD hi,c,A,f,d,hc,m];rfl
   ·simp[Builtin.append_,aw (db x),aw y,sizeOf,cD hi,c,A,f,d,hc,eu hv];rfl
  |some a=>
   have n:=Bs (P:=P) M O;rw[j]at n;by_cases m:l.toNat*i.size=0
   ·rw[q m]at n
    simp[Builtin.append_,aw (db x),aw y,sizeOf,cD hi,c,A,f,d,hc,n,fj,j,m,q m]
   ·simp[Builtin.append_,aw (db x),aw y,sizeOf,cD hi,c,A,f,d,hc,n,fj,j,m,eu hv,B]
 ·obtain⟨E,Y,T,H,L,R,I⟩:=h.2 (by omega)
  rw[hz]at H;cases H;rw[G]at L R;have S:¬i.bytes=0:=by omega
  have o:¬(281474976710656<Builtin.nextslicecap (sl+l.toNat) g*i.bytes):=by omega
  have V:¬(9223372036854775807:Int)<((sl:Int)+(l.toNat:Int)):=by omega
  have p:¬(9223372036854775807:Int)<((sl:Int)+max l 0):=by omega
  have s:(Builtin.firstCells (bK P e) sl (.slice b sl g)).run P w.drew=.ok E.toArray w.drew:=uN T;rw[j]at s;have Q:sl+l.toNat≤(Question.appendCap (sl+l.toNat) g e).cut (w.tape w.drawn (.appendCap (sl+l.toNat) g e)):=nT _ _;refine⟨_,jc w.drew (hnew w.heap (E++df l.toNat z++df ((Question.appendCap (sl+l.toNat) g e).cut (w.tape w.drawn (.appendCap (sl+l.toNat) g e))-(sl+l.toNat)) z) e),?_,⟨rfl,rfl,rfl⟩,I _ Q⟩
  have F:(Builtin.zeroCells v.cells ((Question.appendCap (sl+l.toNat) g e).cut (w.tape w.drawn (.appendCap (sl+l.toNat) g e))-(sl+l.toNat)))=(df ((Question.appendCap (sl+l.toNat) g e).cut (w.tape w.drawn (.appendCap (sl+l.toNat) g e))-(sl+l.toNat)) z).toArray:=by
   apply cP;rw[iK,D]
  by_cases m:l.toNat*i.size=0
  ·rw[q m]at I⊢
   simp[Builtin.append_,aw (db x),aw y,sizeOf,cD hi,c,A,f,d,hc,p,o,Question.forced,s,eu hv,ji,F,aA,m];rfl
  ·simp[Builtin.append_,aw (db x),aw y,sizeOf,cD hi,c,A,f,d,hc,p,o,Question.forced,s,eu hv,ji,F,aA,m,B];rfl
theorem Bg{t u ty:TypeId}{k0:IntKind}{s x:Value}{K:WK}{w:World}(i:P.underlying u=some (.int k0))(h:Bh P t s x K w.heap):
  Wv P (Builtin.append_ #[t,u] ty #[s,x]) K w:=by
 unfold Bh at h;split at h
 ·rename_i e b sl sc k l ht
  split at h
  ·rename_i z hz
   cases hb:bw z.length (bK P e)with
   |false=>rw[hb]at h;exact h.elim
   |true=>
    rw[hb]at h;obtain⟨⟨d,a,g,f⟩,c⟩:=h;exact Ju ht i hz (aS hb) d a g f c
  ·exact h.elim
 ·exact h.elim
theorem kP:∀{a b:List Value},bS a=true→bS b=true→bS (a++b)=true
 | [],_,_,h=>h
 |v::a,b,h,k=>by
  simp only[bS,cU,bq]at h⊢;exact⟨h.1,kP h.2 k⟩
theorem xx{z:List Value}(h:bS z=true):∀n,bS (df n z)=true
 |0=>rfl
 |n+1=>by
  have:df (n+1) z=z++df n z:=by simp[df,List.replicate_succ]
  rw[this];exact kP h (xx h n)
theorem EF{t ty:TypeId}{x:Value}{K:WK}{w:World}(h:H0 P t x K w.heap):Wv P (Builtin.clear_ #[t] ty #[x]) K w:=by
 unfold H0 at h;split at h
 ·rename_i e a n c ht
  split at h
  ·rename_i z hz
   obtain⟨v,hv,d⟩:=ja hz;cases ho:bS z with
   |false=>rw[ho]at h;exact h.elim
   |true=>
    rw[ho]at h;obtain⟨i,g⟩:=h;refine⟨_,_,?_,dZ w (fj w.heap a 0 (df n z)),g⟩;cases a with
    |none=>simp[Builtin.clear_,aw (db ht)];rfl
    |some a=>
     cases n with
     |zero=>simp[Builtin.clear_,aw (db ht)];rfl
     |succ n=>
      have b:=Bs (P:=P) (xx ho (n+1)) i;rw[←rt,Cs]at b;have f:(Builtin.zeroCells v.cells (n+1)).toList=df (n+1) z:=by rw[iK,d]
      simp[Builtin.clear_,aw (db ht),eu hv,f,b,fj]
  ·exact h.elim
 ·exact h.elim
theorem xy:∀(xs:List Value) (n:Nat),bS xs=true→bS (xs.take n)=true
 | [],n,_=>by simp[bS]
 |x::xs,0,_=>by simp[bS]
 |x::xs,n+1,h=>by
  simp only[bS,bq,List.take_succ_cons]at h⊢;exact⟨h.1,xy xs n h.2⟩
theorem C3(x:ByteArray):bS (cX x)=true:=by
 have:∀l:List UInt8,bS (l.map fun b=>.int .u8 (b.toNat:Int))=true:=by
  intro l;induction l with
  |nil=>rfl
  |cons b l ih=>simp[bS,ih]
 exact this _
theorem Gf{t u ty:TypeId}{d s:Value}{K:WK}{w:World}(h:MN P t d s K w.heap):Wv P (Builtin.copy_ #[t,u] ty #[d,s]) K w:=by
 unfold MN at h;split at h
 ·rename_i e b dl dc a sl sc ht
  obtain⟨⟨xs,k,n,o,j⟩,hz⟩:=nF h;refine⟨_,_,?_,dZ w (fj w.heap b 0 xs),j⟩;have g:=uN (P:=P) (len:=sl) (cap:=sc) k;cases b with
  |none=>simp[Builtin.copy_,aw (db ht),Builtin.lenOf,hz,g,goInt];rfl
  |some c=>
   have f:=Bs (P:=P) (m:=0) o n;simp only[Addr.add,if_pos]at f;simp[Builtin.copy_,aw (db ht),Builtin.lenOf,hz,g,goInt,f,fj]
 ·rename_i e b dl dc x ht
  cases hb:bw (bK P e) 1 with
  |false=>rw[hb]at h;exact h.elim
  |true=>
   rw[hb]at h;have o:=aS hb;obtain⟨i,hi⟩:=xH (P:=P) (t:=e) (by omega);have hz:(sizeOf e).run P w=.ok (bK P e) w:=by simp[sizeOf,cD hi,bK,hi]
   obtain⟨n,j⟩:=h;have q:(cX x).length=x.size:=by simp[cX]
   have p:(cX x).take (di x.size dl)=(cX x).take dl:=by
    by_cases hx:x.size≤dl
    ·rw[show di x.size dl=x.size from Nat.min_eq_left hx,bp (by omega),bp (by omega)]
    ·rw[show di x.size dl=dl from Nat.min_eq_right (by omega)]
   have g:(Builtin.firstCells (bK P e) (di x.size dl) (.string x)).run P w=.ok ((cX x).take dl).toArray w:=by
    rw[Aj,p]
   refine⟨_,_,?_,dZ w (fj w.heap b 0 ((cX x).take dl)),j⟩;cases b with
   |none=>simp[Builtin.copy_,aw (db ht),Builtin.lenOf,hz,g,goInt];rfl
   |some c=>
    have f:=Bs (P:=P) (m:=0) (xy _ dl (C3 x)) n;simp only[Addr.add,if_pos]at f;simp[Builtin.copy_,aw (db ht),Builtin.lenOf,hz,g,goInt,f,fj]
 ·exact h.elim
theorem Kt(k v:Value)(a:Nat):∀(es:List MapEntry),(match es.findIdx? (fun e=>gl k e.key)with
  |some i=>(es.modify i (fun e=>{e with key:=k,val:=v}),a)
  |none=>(es++ [{key:=k,val:=v,born:=a}],a+1))=Iw k v a es
 | []=>rfl
 |e::es=>by
  have b:=Kt k v a es;simp only[Iw,List.findIdx?_cons];cases hk:gl k e.key with
  |true=>simp[List.modify]
  |false=>
   simp only[fh,if_false];rw[←b];cases hf:es.findIdx? (fun e=>gl k e.key)with
   |none=>simp
   |some i=>simp[List.modify]
theorem ue{d:TypeDesc}{c:CK}(hd:m3 d c)(x:c.den):∀(es:List MapEntry) (i:Nat),BW c es→
  Instr.findNow d (c.enc x) es i=some (match es.findIdx? (fun e=>gl (c.enc x) e.key)with
   |some j=>(es[j]?).map fun e=>(i+j,e.val)
   |none=>none)
 | [],i,_=>rfl
 |e::es,i,h=>by
  obtain⟨y,g⟩:=h e (by simp);have b:=zR hd x y;rw[←g]at b;have f:=ue hd x es (i+1) fun e' a=>h e' (by simp[a])
  simp only[Instr.findNow,List.findIdx?_cons,b];cases hb:gl (c.enc x) e.key with
  |true=>simp
  |false=>
   simp only[fh,if_false];rw[f];cases hf:es.findIdx? (fun e=>gl (c.enc x) e.key)with
   |none=>simp
   |some j=>simp[jN,Nat.add_comm 1 j]
theorem AF{a b:ByteArray}(h:(a==b)=true):a=b:=by
 cases a with|mk a=>cases b with|mk b=>
 have h:(a==b)=true:=h;rw[eq_of_beq h]
theorem Cl(a:ByteArray):(a==a)=true:=by
 cases a with|mk a=>
 exact beq_self_eq_true a
theorem ER{d:TypeDesc}{c:CK}(hd:m3 d c)(x y:c.den)(h:gl (c.enc x) (c.enc y)=true):Instr.sameBits 10000 (c.enc y) (c.enc x)=true:=by
 rcases hd with⟨i,rfl,rfl⟩|⟨rfl,rfl⟩|⟨rfl,rfl⟩
 ·have h:x=y:=eq_of_beq (α:=Int) h
  subst h;have:∀n:Int,(i==i&&n==n)=true:=fun n=>by simp
  exact this x
 ·have h:x=y:=AF h
  subst h;exact Cl x
 ·have h:x=y:=eq_of_beq (α:=Bool) h
  subst h;exact beq_self_eq_true (α:=Bool) x
theorem sr{w:World}{r:Nat}{es:Array MapEntry}{a:Nat}{o:Obj}(h:w.heap[r]? =some (.map es a)):(setObj r o).run P w=.ok () (jc w (w.heap.setIfInBounds r o)):=by
 simp only[setObj,Sem.run,h];rfl
theorem IH{t k e:TypeId}{d:TypeDesc}{c:CK}(B:P.underlying t=some (.map k e))(p:P.underlying k=some d)(hd:m3 d c){r:Nat}{x:c.den}{v:Value}{w:World}(hm:K6 c w.heap r):
  (Instr.mapUpdate t (.map (some r)) (c.enc x) v).run P w=.ok () (jc w (Pt w.heap r (c.enc x) v)):=by
 obtain⟨es,a,j,f⟩:=hm;obtain⟨q,z,b,C⟩:=sC (P:=P) hd p x f w;rw[ue hd x es.toList 0 f]at b;have g:=Kt (c.enc x) v a es.toList;have o:Pt w.heap r (c.enc x) v=w.heap.setIfInBounds r (.map (Iw (c.enc x) v a es.toList).1.toArray (Iw (c.enc x) v a es.toList).2):=by
  simp only[Pt,j]
 rw[o,←g];simp only[Instr.mapUpdate,Sem.run_bind,aw B,Result.andThen_ok,j7 j,lR hd p,z];cases hf:es.toList.findIdx? (fun e=>gl (c.enc x) e.key)with
 |none=>
  rw[hf]at b;simp only[bm.injEq]at b;subst b;simp only[sr j];congr 4
  apply cP;simp
 |some i=>
  rw[hf]at b;simp only[bm.injEq]at b;obtain⟨hi,s,_⟩:=List.findIdx?_eq_some_iff_getElem.1 hf;have u:es.toList[i]? =some es.toList[i]:=ag hi;rw[u]at b;simp only[fL,aB]at b;subst b;have n:es[i]? =some es.toList[i]:=by rw[←bv];exact u
  obtain⟨y,A⟩:=f es.toList[i] (List.getElem_mem hi);have m:Instr.sameBits 10000 (es.toList[i]).key (c.enc x)=true:=by
   rw[A]at s⊢;exact ER hd x y s
  simp only[n,fL,Option.getD_some,Instr.keyThatStays,m,if_true,Sem.run_bind,Sem.run_pure,Result.andThen_ok,sr j];congr 4
  apply cP;simp
theorem vy{t:TypeId}{m k v:Value}{K:WK}{w:World}(h:AL P t m k v K w.heap):Wu P (Instr.mapUpdate t m k v) K w:=by
 unfold AL at h;split at h
 ·rename_i c e m hc
  obtain⟨i,d,b,a,hd⟩:=tX hc;obtain⟨g,rfl,r,rfl,hm,f⟩:=CK.dec_sound h;exact⟨_,IH b a hd hm,dZ _ _,f⟩
 ·exact h.elim
theorem G9(k:Value):∀(es:List MapEntry),(match es.findIdx? (fun e=>gl k e.key)with
  |some i=>es.eraseIdx i
  |none=>es)=Ha k es
 | []=>rfl
 |e::es=>by
  have a:=G9 k es;simp only[Ha,List.findIdx?_cons];cases hk:gl k e.key with
  |true=>simp
  |false=>
   simp only[fh,if_false];rw[←a];cases hf:es.findIdx? (fun e=>gl k e.key)<;>simp
theorem GS{t k e ty:TypeId}{ts:Array TypeId}{d:TypeDesc}{c:CK}(v:ts[0]? =some t) (u:P.underlying t=some (.map k e)) (p:P.underlying k=some d) (hd:m3 d c) {r:Nat} {x:c.den} {w:World} (hm:K6 c w.heap r):
  (Builtin.delete_ ts ty #[.map (some r),c.enc x]).run P w=.ok (.tuple #[]) (jc w (KD w.heap r (c.enc x))):=by
 obtain⟨es,g,m,j⟩:=hm;obtain⟨q,s,b,z⟩:=sC (P:=P) hd p x j w;rw[ue hd x es.toList 0 j]at b;have f:=G9 (c.enc x) es.toList;have o:KD w.heap r (c.enc x)=w.heap.setIfInBounds r (.map (Ha (c.enc x) es.toList).toArray g):=by
  simp only[KD,m]
 rw[o,←f];simp only[Builtin.delete_,v,List.getElem?_toArray,List.getElem?_cons_zero,List.getElem?_cons_succ,Sem.run_bind,aw u,Result.andThen_ok,j7 m,lR hd p,s];cases hf:es.toList.findIdx? (fun e=>gl (c.enc x) e.key)with
 |none=>
  rw[hf]at b;simp only[bm.injEq]at b;subst b;simp[sr m]
 |some i=>
  rw[hf]at b;simp only[bm.injEq]at b;obtain⟨hi,A,_⟩:=List.findIdx?_eq_some_iff_getElem.1 hf;have y:es.toList[i]? =some es.toList[i]:=ag hi;rw[y]at b;simp only[fL,aB]at b;subst b;have n:i<es.size:=by simpa using hi
  have a:es.eraseIdxIfInBounds i=(es.toList.eraseIdx i).toArray:=by
   apply cP;simp[Array.eraseIdxIfInBounds,n]
  simp[sr m,a]
theorem Be{t ty:TypeId}{ts:Array TypeId}{m k:Value}{K:WK}{w:World}(g:ts[0]? =some t) (h:Bf P t m k K w.heap):Wv P (Builtin.delete_ ts ty #[m,k]) K w:=by
 unfold Bf at h;split at h
 ·rename_i c e m hc
  obtain⟨j,d,f,b,hd⟩:=tX hc;obtain⟨i,rfl,h⟩:=CK.dec_sound h;rcases h with⟨rfl,a⟩|⟨r,rfl,hm,a⟩
  ·refine⟨_,w,?_,Tame.refl w,a⟩
   simp[Builtin.delete_,g,aw f,lR hd b]
  ·exact⟨_,_,GS g f b hd hm,dZ _ _,a⟩
 ·exact h.elim
theorem Lw{t k e:TypeId}(b:P.underlying t=some (.map k e)){m:Option Nat}{a:Nat}{w:World}(hm:m=none∧a=0∨∃r es,m=some r∧w.heap[r]? =some (.map es a)):
  (Instr.range t (.map m)).run P w=.ok (.pointer (some (aA w.heap))) (jc w (w.heap.push (.mapIter m a #[] a))):=by
 rcases hm with⟨rfl,rfl⟩|⟨r,es,rfl,c⟩
 ·simp only[Instr.range,Sem.run_bind,aw b,Result.andThen_ok,Sem.run_pure,BC,aA]
 ·simp only[Instr.range,Sem.run_bind,aw b,Result.andThen_ok,Sem.run_pure,j7 c,BC,aA]
theorem tQ{w:World}{i:Nat}{m:Option Nat}{a:Nat}{b:Array Nat}{c:Nat}(h:w.heap[i]? =some (.mapIter m a b c)):(getObj i).run P w=.ok (.mapIter m a b c) w:=by
 simp only[getObj,Sem.run,h]
theorem Gt{w:World}{i:Nat}{m:Option Nat}{a:Nat}{b:Array Nat}{c:Nat}{o:Obj}(h:w.heap[i]? =some (.mapIter m a b c)):(setObj i o).run P w=.ok () (jc w (w.heap.setIfInBounds i o)):=by
 simp only[setObj,Sem.run,h];rfl
theorem Ci(n:Nat)(a:0<n)(w:World):∃k w',k<n∧(choose (.mapNext n)).run P w=.ok k w'∧Tame w w'∧w'.heap=w.heap:=by
 unfold choose;simp only[Sem.run];by_cases h:(Question.mapNext n).forced=true
 ·exact⟨0,w,a,by rw[if_pos h],Tame.refl w,rfl⟩
 ·refine⟨(Question.mapNext n).cut (w.tape w.drawn (.mapNext n)),{w with drawn:=w.drawn+1},Nat.mod_lt _ a,by rw[if_neg h],⟨rfl,rfl,rfl⟩,rfl⟩
theorem Ge{it:Value}{t:TypeId}{K:WK}{w:World}(h:MM it K w.heap):Wv P (Instr.next it false t) K w:=by
 unfold MM at h;split at h
 ·rename_i a
  obtain⟨O,m,i,g,u,hi,h⟩:=h;obtain⟨b,off,M⟩:=a;simp only at O hi h;subst O;rcases h with⟨rfl,R⟩|⟨r,es,z,rfl,L,C,E,H⟩
  ·exact⟨_,w,by simp only[Instr.next,Sem.run_bind,tQ hi,Result.andThen_ok,Sem.run_pure],Tame.refl w,R⟩
  ·have v:(!g.isEmpty&& !es.isEmpty&&es.all (fun e=>decide (e.born≥u)))=false:=by
    rcases C with h|h|h<;>simp[h]
   obtain⟨left,j⟩:∃left,left=es.filter fun e=> !g.contains e.born:=⟨_,rfl⟩
   obtain⟨n,q⟩:∃n,n=left.filter (·.born<i):=⟨_,rfl⟩
   obtain⟨new,hnew⟩:∃new,new=left.filter (·.born≥i):=⟨_,rfl⟩
   obtain⟨d,f⟩:∃d:Array (Option MapEntry),d=(if n.isEmpty then #[none]else #[])++(n++new).map some:=⟨_,rfl⟩
   have B:0<d.size:=by
    rw[f];by_cases A:n.isEmpty=true
    ·simp[A];omega
    ·have:n.size≠0:=by simpa using A
     simp[A];omega
   obtain⟨k,F,Q,y,N,I⟩:=Ci (P:=P) d.size B w;obtain⟨c,hc⟩:∃c,d[k]? =some c:=⟨d[k],Array.getElem?_eq_getElem Q⟩;have G:F.heap[b]? =some (.mapIter (some r) i g u):=by rw[I];exact hi
   have p:(!g.isEmpty&& !es.isEmpty&&es.all fun x=>decide (x.born≥u))=false:=v
   cases c with
   |none=>
    refine⟨.tuple #[.bool false],F,?_,N,?_⟩
    ·simp only[Instr.next,Sem.run_bind,tQ hi,Result.andThen_ok,Sem.run_pure,j7 L,p,fh,if_false,←j,←q,←hnew,←f,y,hc]
    ·rw[I]
     have s:n.isEmpty=true:=by
      have hm:none∈d:=nA hc;rw[f]at hm;by_cases A:n.isEmpty=true
      ·exact A
      ·simp[A]at hm
     refine E fun e S J=>?_
     cases hs:g.contains e.born with
     |true=>rfl
     |false=>
      have o:e∈n:=by
       rw[q,j];simp only[nV];exact⟨⟨by simpa using S,by rw[hs];rfl⟩,by simpa using J⟩
      rw[Array.isEmpty_iff]at s;rw[s]at o;simp at o
   |some e=>
    have o:e∈es∧g.contains e.born=false:=by
     have hm:some e∈d:=nA hc;have D:e∈left:=by
      rw[f]at hm;rw[Array.mem_append]at hm;rcases hm with hm|hm
      ·split at hm<;>simp at hm
      ·simp only[Array.mem_map,bm.injEq,exists_eq_right,Array.mem_append]at hm
       rcases hm with hm|hm
       ·rw[q]at hm;exact(nV.1 hm).1
       ·rw[hnew]at hm;exact(nV.1 hm).1
     rw[j]at D;have:=nV.1 D;exact⟨this.1,by simpa using this.2⟩
    refine⟨.tuple #[.bool true,e.key,e.val],jc F (F.heap.setIfInBounds b (.mapIter (some r) i (g.push e.born) z)),?_,N.trans (dZ _ _),?_⟩
    ·simp only[Instr.next,Sem.run_bind,tQ hi,Result.andThen_ok,Sem.run_pure,j7 L,p,fh,if_false,←j,←q,←hnew,←f,y,hc,Gt G]
    ·rw[I]
     exact H e (by simpa using o.1) o.2
 ·exact h.elim
theorem C5{t e:TypeId}{z:List Value}{k k':IntKind}{l c:Int}{w:World}(s:tg P t=some e)(hz:oL P e=some z)(f:z.length=bK P e)(x:0≤l)(C:l≤c)(A:c≤9223372036854775807)(y:oQ P e*c≤2^48):
  (Instr.makeSlice t (.int k l) (.int k' c)).run P w=.ok (.slice (some (aA w.heap)) l.toNat c.toNat) (jc w (hnew w.heap (df c.toNat z) e)):=by
 obtain⟨v,hv,b⟩:=ja hz;obtain⟨i,hi,B⟩:=po hv;have d:bK P e=i.size:=by simp[bK,hi]
 have n:oQ P e=i.bytes:=by simp[oQ,hi]
 have m:v.cells.size=i.size:=by rw[←d,←f,←b];simp
 have q:=yL x (by omega);have hc:=yL (show 0≤c by omega) A
 rw[n]at y;have c1:¬(c<0):=by omega
 have c2:¬(281474976710656<(i.bytes:Int)*c):=by omega
 have p:¬(l<0):=by omega
 have u:¬(c<l):=by omega
 by_cases a:c.toNat*i.size=0
 ·have o:(df c.toNat z).length=0:=by simp[df,f,d,a]
  rw[bO.1 o];simp[Instr.makeSlice,aw (db s),asInt,asIntOf,cD hi,q,hc,c1,c2,p,u,sizeOf,a,ji]
 ·have g:((Array.range (c.toNat*i.size)).map (fun j=>v.cells[j%v.cells.size]!))=(df c.toNat z).toArray:=by
   rw[←m,Kb,b]
  have key:(newRow e ((Array.range (c.toNat*i.size)).map (fun j=>v.cells[j%v.cells.size]!))).run P w=.ok (aA w.heap) (jc w (hnew w.heap (df c.toNat z) e)):=by
   rw[g,ji]
  simp[Instr.makeSlice,aw (db s),asInt,asIntOf,cD hi,q,hc,c1,c2,p,u,sizeOf,a,eu hv];rw[key];rfl
theorem Agree.args{N:Nat}{r:cn}{a:Act}(h:Agree N r a){os:Array Operand}{vs:List Value}(hv:oN r os.toList=some vs):os.map a.eval=vs.toArray:=by
 rw[←mJ h hv];apply cP;simp
theorem HC.out{f:FuncId}{args:List Value}{ks:List Kind}{K:WK}{w:World}(h:HC P f args ks (fun x h'=>K (BI ks (lQ ks x)) h') w.heap):Hl P (callFunc f args.toArray) K w:=by
 rcases h.run w rfl with⟨b,d⟩|⟨v,w',b,c,x,rfl,a⟩
 ·refine .inr (.inr (.inl ⟨f,args.toArray,b,d.mono ?_⟩))
  rintro e w' ⟨c,x,rfl,a⟩;exact⟨c,_,rfl,a⟩
 ·exact .inl ⟨_,w',b,c,a⟩
theorem L9{b a e:TypeId}{s:ByteArray}{w:World}(g:P.underlying b=some .string)(hd:P.underlying a=some (.slice e))(k:P.underlying e=some (.int .u8)):
  ∃c,s.size≤c∧(convert b a (.string s)).run P w=.ok (.slice (some (aA w.heap)) s.size c) (jc w.drew (w.heap.push (.cells (cX s++eY (c-s.size) (Value.int .u8 0)).toArray e (c,c+1)))):=by
 have f:s.size≤grownCap w s.size 0 e:=nT _ _;refine⟨_,f,?_⟩;rw[Go.Lib.run_convert_string_bytes w b a e s g hd k];have hc:(Go.Lib.bytesCells w e s).size=grownCap w s.size 0 e:=by
  unfold Go.Lib.bytesCells;rw[Array.size_append,Array.size_map,Array.size_replicate,show s.data.size=s.size from rfl]
  omega
 have d:(cX s++eY (grownCap w s.size 0 e-s.size) (Value.int .u8 0)).toArray=Go.Lib.bytesCells w e s:=by
  unfold Go.Lib.bytesCells cX;apply cP;simp
 rw[d];unfold Go.Lib.bytesWorld World.freeze;rw[if_neg (by omega),hc];unfold World.alloc World.drew jc;congr 1
 congr 1
 apply Array.ext (by simp);intro i m j;rw[Array.getElem_modify];simp only[Array.getElem_push];split
 ·rename_i e
  subst e;simp
 ·rename_i e
  have hi:i<w.heap.size:=by simp at j;omega
  rw[dif_pos hi,dif_pos hi]
theorem yN{o:Oper}{r:cn}{K:WK}{w:World}{N:Nat}{a:Act}(H:Agree N r a)(j:CW P o r K w.heap):Hl P (execOp a.eval o) K w:=by
 have A:∀{x:Operand} {v:Value},c7 r x=some v→a.eval x=v:=fun h=>j8 H h
 obtain⟨T,V,type,l9,D,F⟩:=o;cases V with
 |alloc t=>
  simp only[CW]at j;split at j
  ·rename_i z hz
   obtain⟨v,hv,M⟩:=ja hz;have C:(Instr.alloc t true (.tuple #[])).run P w=.ok (.pointer (some (aA w.heap))) (jc w (hnew w.heap z t)):=by
    simp[Instr.alloc,eu hv,newVar,ji,M]
   exact Wv.out ⟨_,_,C,dZ _ _,j⟩
  ·exact j.elim
 |box t x=>
  simp only[CW]at j;split at j
  ·rename_i v hv
   have C:(Instr.box t v).run P w=.ok (.pointer (some (aA w.heap))) (jc w (hnew w.heap v.cells.toList t)):=by
    simp[Instr.box,newVar,ji]
   simp only[execOp,A hv];exact Wv.out ⟨_,_,C,dZ _ _,j⟩
  ·exact j.elim
 |build t ps=>
  simp only[CW]at j;split at j
  ·rename_i vs p
   split at j
   ·rename_i cs hcs
    have O:(ps.map fun x=>(x.1,a.eval x.2))=vs.toArray:=by
     rw[←mN H p];apply cP;simp
    have C:=xV (ps:=vs.toArray) (by simpa using hcs) w;simp only[execOp];rw[show(ps.map fun(i,x)=>(i,a.eval x))=vs.toArray from O]
    exact Wv.out ⟨_,w,C,Tame.refl w,j⟩
   ·exact j.elim
  ·exact j.elim
 |buildSlice t n ps=>
  simp only[CW]at j;split at j
  ·rename_i e vs E p
   split at j
   ·rename_i z hz
    cases hb:(vg (n*bK P e) 16777216&&bw z.length (bK P e))with
    |false=>rw[hb]at j;exact j.elim
    |true=>
     rw[hb]at j;simp only[bq]at hb;simp only[cond_true]at j;split at j
     ·rename_i cs hcs
      have O:(ps.map fun x=>(x.1,a.eval x.2))=vs.toArray:=by
       rw[←mN H p];apply cP;simp
      have C:=zn (ps:=vs.toArray) E hz (hE hb.1) (aS hb.2) (by simpa using hcs) w;simp only[execOp];rw[show(ps.map fun(i,x)=>(i,a.eval x))=vs.toArray from O]
      exact Wv.out ⟨_,_,C,dZ _ _,j⟩
     ·exact j.elim
   ·exact j.elim
  ·exact j.elim
 |store t x y=>
  simp only[CW]at j;split at j
  ·rename_i b v hb hv
   simp only[execOp,A hb,A hv];exact Wu.out (EE j)
  ·exact j.elim
 |mapUpdate t m k x=>
  simp only[CW]at j;split at j
  ·rename_i mv kv xv hm B hx
   simp only[execOp,A hm,A B,A hx];exact Wu.out (vy j)
  ·exact j.elim
 |insert t m k x=>
  simp only[CW]at j;split at j
  ·rename_i mv kv xv hm B hx
   simp only[execOp,A hm,A B,A hx];exact Wu.out (vy j)
  ·exact j.elim
 |makeMap t n=>
  simp only[CW]at j;cases n with
  |none=>exact Wv.out ⟨_,jc w (w.heap.push (.map #[] 0)),by simp[Instr.makeMap];rfl,dZ _ _,j⟩
  |some n=>
   simp only at j;split at j
   ·rename_i k i hn E
    exact Wv.out ⟨_,jc w (w.heap.push (.map #[] 0)),by simp[Instr.makeMap,A hn,aw E,asInt,asIntOf];rfl,dZ _ _,j⟩
   ·exact j.elim
 |makeSlice t l c=>
  simp only[CW]at j;split at j
  ·rename_i e k l' k' c' E R hc
   split at j
   ·rename_i z hz
    cases hb:bw z.length (bK P e)with
    |false=>rw[hb]at j;exact j.elim
    |true=>
     rw[hb]at j;obtain⟨⟨W,L,U,X⟩,j⟩:=j;simp only[execOp,A R,A hc];exact Wv.out ⟨_,_,C5 E hz (aS hb) W L U X,dZ _ _,j⟩
   ·exact j.elim
  ·exact j.elim
 |convert s d x=>
  simp only[CW]at j;split at j
  ·rename_i e v J hd hx
   cases hu:IT P e with
   |false=>rw[hu]at j;exact j.elim
   |true=>
    rw[hu]at j;obtain⟨c,hc,I⟩:=L9 (w:=w) (s:=v) J hd (BX hu);simp only[execOp,A hx];exact Wv.out ⟨_,_,I,⟨rfl,rfl,rfl⟩,j c hc⟩
  ·exact j.elim
 |range t x=>
  simp only[CW]at j;split at j
  ·rename_i k e m hu hx
   obtain⟨Q,hm,j⟩:=j;simp only[execOp,A hx];exact Wv.out ⟨_,_,Lw hu hm,dZ _ _,j⟩
  ·exact j.elim
 |next it isS=>
  cases isS with
  |true=>simp only[CW]at j
  |false=>
   simp only[CW]at j;split at j
   ·rename_i v hv
    simp only[execOp,A hv];exact Wv.out (Ge j)
   ·exact j.elim
 |call c=>
  simp only[CW]at j;have eb:∀{b:Builtin} {vs:List Value},c.callee=.builtin b→oN r c.args.toList=some vs→∃cs:Array Bool,∀w,(execOp a.eval ⟨T,.call c,type,l9,D,F⟩).run P w=
    (builtin b c.argTypes type cs vs.toArray).run P w:=by
   intro b vs hc p;refine⟨c.args.map fun| .const _=>true|_=>false,fun w=>?_⟩
   simp[execOp,resolve,hc,H.args p,invoke];rfl
  have wo:∀{s s':Sem Next},(∀w,s.run P w=s'.run P w)→Hl P s' K w→Hl P s K w:=by
   intro s s' C h;unfold Hl at h⊢;simp only[C];exact h
  split at j
  ·rename_i s x hc p
   split at j
   ·rename_i t u hat
    obtain⟨cs,G⟩:=eb hc p;refine wo G ?_;have q:c.argTypes= #[t,u]:=by apply cP;rw[hat]
    simp only[builtin,q];split at j
    ·rename_i e' hu;exact Wv.out (vz (.inl ⟨e',hu⟩) j)
    ·rename_i hu;exact Wv.out (vz (.inr hu) j)
    ·rename_i k0 hu;exact Wv.out (Bg hu j)
    ·exact j.elim
   ·exact j.elim
  ·rename_i x hc p
   split at j
   ·rename_i t hat
    obtain⟨cs,G⟩:=eb hc p;refine wo G ?_;have q:c.argTypes= #[t]:=by apply cP;rw[hat]
    simp only[builtin,q];exact Wv.out (EF j)
   ·exact j.elim
  ·rename_i s x hc p
   split at j
   ·rename_i t u hat
    obtain⟨cs,G⟩:=eb hc p;refine wo G ?_;have q:c.argTypes= #[t,u]:=by apply cP;rw[hat]
    simp only[builtin,q];exact Wv.out (Gf j)
   ·exact j.elim
  ·rename_i m k hc p
   split at j
   ·rename_i t u hat
    obtain⟨cs,G⟩:=eb hc p;refine wo G ?_;simp only[builtin];exact Wv.out (Be (by rw[←bv,hat];rfl) j)
   ·exact j.elim
  ·rename_i f args hc p
   unfold PU at j;split at j
   ·exact j.elim
   ·rename_i ks hks
    split at j
    ·rename_i f
     refine wo (s':=callFunc f args.toArray) (fun w=>?_) j.out
     simp[execOp,resolve,hc,H.args p,Act.eval,Deferred.ofValue,invoke]
    ·rename_i f hf
     split at j
     ·rename_i fv hfv
      rcases j.run with⟨g,first,cap,rfl,S⟩|⟨l,rfl,S⟩
      rotate_left
      ·obtain⟨fn,tmps,assign,body,L,U⟩:=S.run w rfl
       refine .inr (.inr (.inr ⟨l,fn,tmps,assign,body,?_,fun c cs=>?_⟩))
       ·rw[←L]
        simp[execOp,resolve,hc,H.args p,A hfv,Deferred.ofValue,invoke]
       ·obtain⟨b,w',E,B,J⟩:=U c cs
        refine⟨b,w',E,?_,J⟩;obtain⟨t,e,B⟩:=pS B;have R:ks.length=1:=by rw[←qz ks t,←e];rfl
        match ks,R,t,e,B with
        | [k],_,t,e,B=>rw[←e]at B;exact B
      refine wo (s':=callFunc g (first.toList++args++cap.toList).toArray) (fun w=>?_) S.out
      have e:first++args.toArray++cap=(first.toList++args++cap.toList).toArray:=by apply cP;simp
      rw[←e];simp[execOp,resolve,hc,H.args p,A hfv,Deferred.ofValue,invoke]
     ·exact j.elim
  ·exact j.elim
 |_=>simp only[CW]at j
end Go.Lift
