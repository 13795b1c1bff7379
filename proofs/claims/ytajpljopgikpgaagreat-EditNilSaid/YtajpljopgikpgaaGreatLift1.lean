/- A part of the proof that the named laws of this program answer true, whatever the input. -/
import Derived.Test.YtajpljopgikpgaaGreatLift0
import Derived.Laws.Append
import Derived.Laws.Cover3
import Derived.Laws.StructEq
import Derived.Laws.BytesString
import Derived.Lib.ConvBytes
open Array renaming ext'→bv,getElem?_toList→aA,mem_filter→js
open Bool renaming and_eq_true→aG,false_eq_true→cS
open ByteArray renaming data_extract→iV
open List renaming extract_eq_take_drop→du,map_cons→fU,take_of_length_le→aV,length_cons→aQ,cons_append→jr,replicate→eu,length_eq_zero_iff→bp,getElem?_eq_getElem→aq
open Nat renaming beq→aI,ble→nR,eq_of_beq_eq_true→au,le_of_ble_eq_true→eC,add_zero→dE,zero_add→ar,min→bU
open Option renaming some→aN,isSome_iff_exists→bS,map_some→g8
open Prod renaming mk→nP
open UInt8 renaming ofNat→lK
namespace Go.Lift
open Go
def B0(S:Option (ac→Prop))(h:ac):Prop:=match S with|none=>True|some f=>f h
def Yv(P:Program)(s:Sem Value)(K:RK)(h:ac):Prop:=∃v S,K v S∧B0 S h∧∀w:World,B0 S w.heap→s.run P w=.ok v w
theorem Yv.of_pure{P:Program}{s:Sem Value}{K:RK}{h:ac}{v:Value}(a:K v none)(b:∀w:World,s.run P w=.ok v w):Yv P s K h:=
 ⟨v,none,a,trivial,fun w _=>b w⟩
variable {P:Program}
theorem nr{t:TypeId}{f:Nat}{u:TypeId}{off:Nat}(h:ns P t f=some (u,off)):
  ∃fs g,P.underlying t=some (.struct fs)∧fs[f]? =some g∧g.type=u∧g.offset=off:=by
 unfold ns at h;split at h
 ·rename_i fs hu
  split at h
  ·rename_i g hg
   simp only[aN.injEq,nP.injEq]at h;exact⟨fs,g,hu,by simpa using hg,h.1,h.2⟩
  ·cases h
 ·cases h
theorem oF{t:TypeId}(h:aI (aO P t) 0=false)(w:World):(sizeOf t).run P w=.ok (aO P t) w:=by
 unfold aO at h⊢;cases hi:P.info? t with
 |none=>rw[hi]at h;cases h
 |some i=>simp[sizeOf,bj hi]
theorem rK{t:TypeId}{f:Nat}{u:TypeId}{off:Nat}{a:Addr}{K:RK}{h:ac}(j:ns P t f=some (u,off))
  (b:bif aI (aO P u) 0 then False else K (.pointer (some (adr a off))) none):Yv P (Instr.fieldAt t (.pointer (some a)) f) K h:=by
 obtain⟨k,g,i,d,rfl,rfl⟩:=nr j;cases hz:aI (aO P g.type) 0 with
 |true=>rw[hz]at b;exact b.elim
 |false=>
  rw[hz]at b;refine .of_pure b fun w=>?_
  have c:aO P g.type≠0:=fun e=>by rw[e]at hz;cases hz
  simp only[Instr.fieldAt,Sem.run_bind,af i,Result.andThen_ok,d,Instr.sureAddr,Sem.run_pure,fieldPlace,oF hz];simp[c,lP]
theorem mH{t:TypeId}{i:TypeInfo}(_:P.info? t=some i)(a:∃d,P.underlying t=some d)(w:World):(isAgg t).run P w=.ok (mI P t) w:=by
 obtain⟨d,hd⟩:=a;simp only[isAgg,Sem.run_bind,af hd,Result.andThen_ok];unfold mI;rw[hd];cases d<;>rfl
theorem pq{c:BinOp}{k k':IntKind}{a b:Int}{K:RK}{h:ac}(f:c=.shl∨c=.shr)(hv:xz c k a b K):Yv P (Op.shift c k a k' b) K h:=by
 rcases f with rfl|rfl
 ·obtain⟨d,e⟩:=hv
  refine .of_pure e fun w=>?_
  simp[Op.shift,Int.not_lt.2 d]
 ·obtain⟨d,e⟩:=hv
  refine .of_pure e fun w=>?_
  simp[Op.shift,Int.not_lt.2 d]
theorem yf{c:BinOp}{k:IntKind}{a b:Int}{K:RK}{h:ac}(hv:Du c k a b K)(f:c≠ .shl∧c≠ .shr):Yv P (binOp c 0 (.int k a) (.int k b)) K h:=by
 cases c<;>simp only[Du]at hv
 case quo=>obtain⟨d,e⟩:=hv;exact .of_pure e fun w=>by simp[binOp,Op.intDiv,d]
 case rem=>obtain⟨d,e⟩:=hv;exact .of_pure e fun w=>by simp[binOp,Op.intDiv,d]
 all_goals exact .of_pure hv fun w=>by simp[binOp,Op.intArith,Op.intBits,Op.intCmp]
theorem tF(c:BinOp)(t:TypeId)(k k':IntKind)(a b:Int):binOp c t (.int k a) (.int k' b)=binOp c 0 (.int k a) (.int k' b):=by
 cases c<;>rfl
theorem xw{c:BinOp}{t:TypeId}{a b:ByteArray}{K:RK}{h:ac}(hv:De c a b K):Yv P (binOp c t (.string a) (.string b)) K h:=by
 cases c<;>simp only[De]at hv
 case add=>
  obtain⟨e,d⟩:=hv;refine .of_pure d fun w=>?_
  have:¬(((a.size+b.size:Nat):Int)>IntKind.i64.max):=by
   have:IntKind.i64.max=9223372036854775807:=by decide
   omega
  simp only[binOp,Op.stringOp,if_neg this,Sem.run_pure]
 all_goals exact .of_pure hv fun w=>by simp[binOp,Op.stringOp]
theorem jF{t:TypeId}{x y:Value}{b:Bool}{w:World}(h:∀d,(Op.equalIn (d+1) t x y).run P w=.ok b w):(Op.equal t x y).run P w=.ok b w:=h 9999
theorem tl{t:TypeId}{e:TypeId}(b:P.underlying t=some (.pointer e))(a:Option Addr)(w:World):(Op.equal t (.pointer a) (.pointer none)).run P w=.ok a.isNone w:=by
 refine jF fun d=>?_
 simp only[Op.equalIn,Sem.run_bind,af b,Result.andThen_ok];cases a<;>rfl
theorem yo(e:BinOp)(t:TypeId)(x y:Operand)(a b:Value)(h:∀c d,a=.agg c→b=.agg d→False)(f:a=.nilIface→b=.nilIface→False)(w:World):
  (eqGuard e t x y a b).run P w=.ok () w:=by
 cases e;case eql=>cases a<;>cases b<;>first|rfl|exact(f rfl rfl).elim|exact(h _ _ rfl rfl).elim
 case neq=>cases a<;>cases b<;>first|rfl|exact(f rfl rfl).elim|exact(h _ _ rfl rfl).elim
 all_goals rfl
theorem Ar(t:TypeId)(x y:Value)(hx:∀k a,x≠ .int k a)(c:∀s,x≠ .string s)(d:∀k a,x≠ .float k a)(hc:∀k a b,x≠ .complex k a b):binOp .eql t x y=(do pure (.bool (←Op.equal t x y))):=by
 cases x<;>first|rfl|exact absurd rfl (hx _ _)|exact absurd rfl (c _)|exact absurd rfl (d _ _)|exact absurd rfl (hc _ _ _)
theorem Aq(t:TypeId)(x y:Value)(hx:∀k a,x≠ .int k a)(c:∀s,x≠ .string s)(d:∀k a,x≠ .float k a)(hc:∀k a b,x≠ .complex k a b):binOp .neq t x y=(do pure (.bool (!(←Op.equal t x y)))):=by
 cases x<;>first|rfl|exact absurd rfl (hx _ _)|exact absurd rfl (c _)|exact absurd rfl (d _ _)|exact absurd rfl (hc _ _ _)
theorem jG{t:TypeId}{neg:Bool}{x y:Value}{b:Bool}{w:World}(d:(Op.equal t x y).run P w=.ok b w)
  (hx:∀k a,x≠ .int k a)(c:∀s,x≠ .string s)(e:∀k a,x≠ .float k a)(hc:∀k a b,x≠ .complex k a b):
  (binOp (bif neg then .neq else .eql) t x y).run P w=.ok (.bool (bif neg then !b else b)) w:=by
 cases neg
 ·simp only[cond_false,Ar t x y hx c e hc,Sem.run_bind,d,Result.andThen_ok,Sem.run_pure]
 ·simp only[cond_true,Aq t x y hx c e hc,Sem.run_bind,d,Result.andThen_ok,Sem.run_pure]
theorem sS{t:TypeId}{neg:Bool}{x y:Value}{K:RK}{h:ac}(hv:Cv P t neg x y K):
  (∀c d,x=.agg c→y=.agg d→False)∧(x=.nilIface→y=.nilIface→False)∧Yv P (binOp (bif neg then .neq else .eql) t x y) K h:=by
 unfold Cv at hv;split at hv
 ·rename_i e a hu
  refine⟨nofun,nofun,.of_pure hv fun w=>?_⟩
  exact jG (tl hu a w) nofun nofun nofun nofun
 ·rename_i k e a hu
  refine⟨nofun,nofun,.of_pure hv fun w=>?_⟩
  refine jG ?_ nofun nofun nofun nofun;refine jF fun d=>?_
  simp only[Op.equalIn,Sem.run_bind,af hu,Result.andThen_ok];cases a<;>rfl
 ·rename_i e a _ _ _ _ hu
  refine⟨nofun,nofun,.of_pure hv fun w=>?_⟩
  refine jG ?_ nofun nofun nofun nofun;refine jF fun d=>?_
  simp only[Op.equalIn,Sem.run_bind,af hu,Result.andThen_ok];cases a<;>rfl
 ·exact hv.elim
theorem m7{w:World}{a b:Addr}(f:cq w.heap a)(d:cq w.heap b):(sameAddr a b).run P w=.ok (a==b) w:=by
 obtain⟨g,p,f,t⟩:=f;obtain⟨cb,eb,d,sb⟩:=d;by_cases c:a.block=b.block
 ·simp[sameAddr,c]
 ·have i:(a==b)=false:=by
   rw[beq_eq_false_iff_ne];intro e;exact c (by rw[e])
  have s1:w.shape? a.block=some (p,g.size):=by simp[World.shape?,f]
  have s2:w.shape? b.block=some (eb,cb.size):=by simp[World.shape?,d]
  have q:∀n,w.frozen? ({block:=a.block,off:=n}:Addr)=false:=fun n=>by simp[World.frozen?,f]
  have j:∀n,w.frozen? ({block:=b.block,off:=n}:Addr)=false:=fun n=>by simp[World.frozen?,d]
  have k:w.frozen? a=false:=by simp[World.frozen?,f]
  have o:w.frozen? b=false:=by simp[World.frozen?,d]
  obtain⟨m,hm⟩:∃m,g.size=m+1:=⟨g.size-1,by omega⟩
  obtain⟨n,s⟩:∃n,cb.size=n+1:=⟨cb.size-1,by omega⟩
  simp[sameAddr,c,noView,viewAt,mayBeOne,stringish,s1,s2,q,j,k,o,hm,s,i]
theorem qD{t:TypeId}{neg:Bool}{x y:Value}{K:RK}{h:ac}(hv:C1 P t neg x y K h):
  (∀c d,x=.agg c→y=.agg d→False)∧(x=.nilIface→y=.nilIface→False)∧Yv P (binOp (bif neg then .neq else .eql) t x y) K h:=by
 unfold C1 at hv;split at hv
 ·rename_i a b hu
  refine⟨nofun,nofun,.of_pure hv fun w=>?_⟩
  refine jG ?_ nofun nofun nofun nofun;refine jF fun d=>?_
  simp only[Op.equalIn,Sem.run_bind,af hu,Result.andThen_ok,Sem.run_pure]
 ·rename_i e a b hu
  obtain⟨hz,j,k⟩:=hv;refine⟨nofun,nofun,_,_,k,j,fun w n=>?_⟩
  refine jG ?_ nofun nofun nofun nofun;have f:aI (aO P e) 0=false:=by
   cases hb:aI (aO P e) 0 with
   |false=>rfl
   |true=>rw[hb]at hz;exact hz.elim
  have g:aO P e≠0:=fun e=>by rw[e]at f;cases f
  refine jF fun d=>?_
  simp only[Op.equalIn,Sem.run_bind,af hu,Result.andThen_ok];cases a with
  |none=>cases b<;>rfl
  |some a=>cases b with
   |none=>rfl
   |some b=>
    obtain⟨m,i⟩:=n a b rfl rfl;simp only[Sem.run_bind,oF f,Result.andThen_ok,ne_eq,g,not_false_eq_true,if_true,m7 m i];rfl
 ·exact hv.elim
theorem xO{e:BinOp}{t:TypeId}{x y:Value}{K:RK}{h:ac}(hv:Dl P e t x y K h):
  (∀c d,x=.agg c→y=.agg d→False)∧(x=.nilIface→y=.nilIface→False)∧Yv P (binOp e t x y) K h:=by
 unfold Dl at hv;split at hv
 ·rename_i k a k' b
  refine⟨nofun,nofun,?_⟩;rw[tF];split at hv
  ·exact pq (k':=k') (.inl rfl) hv
  ·exact pq (k':=k') (.inr rfl) hv
  ·rename_i h1 h2
   cases hk:vx k' k with
   |false=>rw[hk]at hv;exact hv.elim
   |true=>rw[hk]at hv;have:=pD hk;subst this;exact yf hv ⟨h1,h2⟩
 ·exact⟨nofun,nofun,xw hv⟩
 ·split at hv
  ·exact qD (neg:=false) hv
  ·exact qD (neg:=true) hv
  ·exact hv.elim
theorem wB{u:TypeId}{cs:List Value}{off:Nat}(a:((P.underlying u).isSome&&(P.info? u).isSome)=true){w:World}(d:mI P u=true):
  (part u cs.toArray off).run P w=.ok (.agg ((cs.drop off).take (aO P u)).toArray) w:=by
 simp only[aG,bS]at a;obtain⟨a,i,b⟩:=a;have c:(sizeOf u).run P w=.ok (aO P u) w:=by simp[sizeOf,bj b,aO,b]
 simp only[part,Sem.run_bind,mH b a,Result.andThen_ok,d,if_true,c,Sem.run_pure];congr 2
 apply bv;simp[du]
theorem uE{u:TypeId}{cs:List Value}{off:Nat}(a:((P.underlying u).isSome&&(P.info? u).isSome)=true){w:World}(c:mI P u=false){v:Value}(hc:cs[off]? =some v):
  (part u cs.toArray off).run P w=.ok v w:=by
 simp only[aG,bS]at a;obtain⟨a,i,d⟩:=a;have b:cs.toArray[off]? =some v:=by simpa using hc
 simp only[part,Sem.run_bind,mH d a,Result.andThen_ok,c,cS,if_false,b,Sem.run_pure]
theorem oK{h:ac}:∀{l m:List (Option Addr×Option Addr)},ki h (l++m)→ki h l∧ki h m
 | [],_,h=>⟨trivial,h⟩
 |(_,_)::_,_,h=>⟨⟨h.1,(oK h.2).1⟩,(oK h.2).2⟩
theorem wS{t:TypeId}{x y:Value}{b:Bool}{l:List (Option Addr×Option Addr)}(f:Bo P t x y=some (b,l)){w:World}(j:ki w.heap l)(d:Nat):
  (Op.equalIn (d+1) t x y).run P w=.ok b w:=by
 unfold Bo at f;split at f
 ·rename_i k0 k a k' c hu
  cases hk:vx k' k with
  |false=>rw[hk]at f;cases f
  |true=>
   rw[hk]at f;have:=pD hk;subst this;cases f;exact run_equalIn_int w d t _ _ _ _ hu
 ·rename_i a c hu
  cases f;exact run_equalIn_bool w d t _ _ hu
 ·rename_i a c hu
  cases f;exact run_equalIn_string w d t _ _ hu
 ·rename_i e a c hu
  cases hz:aI (aO P e) 0 with
  |true=>rw[hz]at f;cases f
  |false=>
   rw[hz]at f;cases f;have g:aO P e≠0:=fun e=>by rw[e]at hz;cases hz
   simp only[Op.equalIn,Sem.run_bind,af hu,Result.andThen_ok];cases a with
   |none=>cases c<;>rfl
   |some a=>cases c with
    |none=>rfl
    |some c=>
     obtain⟨m,i⟩:=j.1 a c rfl rfl;simp only[Sem.run_bind,oF hz,Result.andThen_ok,ne_eq,g,not_false_eq_true,if_true,m7 m i];rfl
 ·cases f
theorem tp{rec:TypeId→List Value→List Value→Option (Bool×List (Option Addr×Option Addr))}{d:Nat}{xs ys:List Value}{w:World}
  (e:∀t us vs b l,rec t us vs=some (b,l)→ki w.heap l→(Op.equalIn (d+1) t (.agg us.toArray) (.agg vs.toArray)).run P w=.ok b w):
  ∀(fs:List Field) (b:Bool) (l:List (Option Addr×Option Addr)),CG P rec xs ys fs=some (b,l)→ki w.heap l→(Op.eqFields (d+1) xs.toArray ys.toArray fs).run P w=.ok b w
 | [],b,l,he,_=>by cases he;rfl
 |f::fs,b,l,he,hp=>by
  unfold CG at he;split at he
  ·cases he
  ·rename_i hn
   cases hi:((P.underlying f.type).isSome&&(P.info? f.type).isSome)with
   |false=>rw[hi]at he;cases he
   |true=>
    rw[hi]at he;simp only[cond_true]at he;split at he
    ·rename_i b1 l1 c m e1 e2
     cases he;obtain⟨p1,j⟩:=oK hp;have a:=tp e fs c m e2 j;have g:∃u v,(part f.type xs.toArray f.offset).run P w=.ok u w∧(part f.type ys.toArray f.offset).run P w=.ok v w∧(Op.equalIn (d+1) f.type u v).run P w=.ok b1 w:=by
      cases ha:mI P f.type with
      |true=>
       rw[ha]at e1;exact⟨_,_,wB hi ha,wB hi ha,e _ _ _ _ _ e1 p1⟩
      |false=>
       rw[ha]at e1;simp only[cond_false]at e1;split at e1
       ·rename_i x y hx hy
        exact⟨x,y,uE hi ha hx,uE hi ha hy,wS e1 p1 d⟩
       ·cases e1
     obtain⟨u,v,n,i,k⟩:=g;simp only[Op.eqFields,ne_eq,hn,not_false_eq_true,if_true,Sem.run_bind,n,i,k,Result.andThen_ok];cases b1
     ·rfl
     ·exact a
    ·cases he
theorem oV{w:World}:∀(m:Nat) (t:TypeId) (xs ys:List Value) (b:Bool) (l:List (Option Addr×Option Addr)),Bp P m t xs ys=some (b,l)→ki w.heap l→
  ∀d,(Op.equalIn (d+m+1) t (.agg xs.toArray) (.agg ys.toArray)).run P w=.ok b w
 |0,_,_,_,_,_,he,_,_=>by cases he
 |m+1,t,xs,ys,b,l,he,hp,d=>by
  unfold Bp at he;split at he
  ·rename_i fs hu
   cases hs:P.stoodInHeld t with
   |true=>rw[hs]at he;cases he
   |false=>
    rw[hs]at he;have a:P.fieldsOf t=fs:=by simp[Program.fieldsOf,hu]
    rw[run_equalIn_struct w _ t _ _ (by rw[a];exact hu) hs,a];exact tp (d:=d+m) (fun t f vs b l c e=>oV m t f vs b l c e d) fs.toList b l he hp
  ·cases he
theorem uO{neg b:Bool}{K:RK}{h:ac}{l:List (Option Addr×Option Addr)}(a:EY neg b K h l):∃S,K (.bool (bif neg then !b else b)) S∧B0 S h∧∀h',B0 S h'→ki h' l:=by
 cases l with
 |nil=>exact⟨none,a,trivial,fun _ _=>trivial⟩
 |cons p l=>exact⟨_,a.2,a.1,fun _ h=>h⟩
theorem xP{c:BinOp}{t:TypeId}{xs ys:Array Value}{x y:Operand}{K:RK}{h:ac}(a:Dm P c t xs.toList ys.toList K h):
  ∃v S,K v S∧B0 S h∧∀w:World,B0 S w.heap→(do eqGuard c t x y (.agg xs) (.agg ys);binOp c t (.agg xs) (.agg ys):Sem Value).run P w=.ok v w:=by
 unfold Dm at a;cases hg:P.eqGuardType P.depth t with
 |true=>rw[hg]at a;exact a.elim
 |false=>
  rw[hg]at a;simp only[cond_false]at a;split at a
  ·split at a
   ·rename_i b l he
    obtain⟨S,f,d,e⟩:=uO a;refine⟨_,S,f,d,fun w g=>?_⟩
    have:=oV 10 t _ _ b l he (e _ g) 9989;simp only[Array.toArray_toList]at this;simp only[Sem.run_bind,run_eqGuard_agg w _ t x y _ _ hg,Result.andThen_ok,run_eql_struct,this];rfl
   ·exact a.elim
  ·split at a
   ·rename_i b l he
    obtain⟨S,f,d,e⟩:=uO a;refine⟨_,S,f,d,fun w g=>?_⟩
    have:=oV 10 t _ _ b l he (e _ g) 9989;simp only[Array.toArray_toList]at this;simp only[Sem.run_bind,run_eqGuard_agg w _ t x y _ _ hg,Result.andThen_ok,run_neq_struct,this];rfl
   ·exact a.elim
  ·exact a.elim
theorem zS{a:UnOp}{x:Value}{K:RK}{h:ac}(hv:EK a x K):Yv P (Op.unary a x) K h:=by
 unfold EK at hv;split at hv
 ·exact .of_pure hv fun w=>rfl
 ·exact .of_pure hv fun w=>rfl
 ·exact .of_pure hv fun w=>rfl
 ·exact hv.elim
theorem tD:∀(l:List UInt8) (s:ByteArray),(l.map fun b=>((b.toNat:Nat):Int)).foldl (fun r n=>r.push (lK n.toNat)) s=⟨s.data++l.toArray⟩
 | [],s=>by simp
 |b::l,s=>by
  simp only[fU,List.foldl_cons];rw[tD l];congr 1
  have:lK ((b.toNat:Nat):Int).toNat=b:=by simp
  rw[this];apply bv;simp[ByteArray.push]
theorem s9{e:TypeId}(h:ye P e=true):P.underlying e=some (.int .u8):=by
 unfold ye at h;split at h
 ·assumption
 ·cases h
theorem wi{w:World}{a:Addr}{vs:List Value}(b:Row w.heap a vs):(loadCells a vs.length).run P w=.ok vs.toArray w:=by
 have:=run_firstCells_some (P:=P) w 1 vs.length a 0 0 vs (by simp) fun j v hv=>by rw[←lP];exact b j v hv
 simpa[Builtin.firstCells]using this
theorem wq{g f:TypeId}{x:Value}{K:RK}{h:ac}(hv:AW P g f x K h):Yv P (convert g f x) K h:=by
 unfold AW at hv;split at hv
 ·rename_i k k' k'' n h1 h2
  exact .of_pure hv fun w=>by simp only[convert,Sem.run_bind,af h1,af h2,Result.andThen_ok];rfl
 ·rename_i s h1 h2
  exact .of_pure hv fun w=>by simp only[convert,Sem.run_bind,af h1,af h2,Result.andThen_ok];rfl
 ·rename_i e a n c h1 h2
  cases hu:ye P e with
  |false=>rw[hu]at hv;exact hv.elim
  |true=>
   rw[hu]at hv;obtain⟨s,q,t⟩:=hv;refine⟨_,_,t,q,fun w m=>?_⟩
   rw[run_convert_bytes_string w g f e a n c h1 (s9 hu) h2];obtain⟨p,m⟩:=m;rcases m with o|⟨b,rfl,u⟩
   ·have j:s=ByteArray.empty:=by
     have:s.data.toList= []:=by simpa[cN]using o
     cases s with
     |mk d=>simp at this;subst this;rfl
    cases a with
    |none=>rw[j];rfl
    |some b=>
     have y:n=0:=by rw[←p,o];rfl
     subst y;have:=wi (P:=P) (w:=w) (a:=b) (vs:= []) fun i v hv=>by simp at hv
     rw[run_bytesToString w b 0 c [] (by simpa using this),j];rfl
   ·have:=wi (P:=P) u
    rw[p]at this;rw[run_bytesToString w b n c (s.data.toList.map fun b=>((b.toNat:Nat):Int)) (by rw[this,List.map_map];rfl),tD]
    cases s;simp[ByteArray.empty,ByteArray.emptyWithCapacity];try rfl
 ·exact hv.elim
theorem xW{u:TypeId}{cs:Array Value}{off:Nat}{K:RK}{h:ac}(c:∃d,P.underlying u=some d)(a:∃i,P.info? u=some i)
  (hv:bif mI P u then K (.agg ((cs.toList.drop off).take (aO P u)).toArray) none else(match cs.toList[off]? with|some v=>K v none|none=>False)):Yv P (part u cs off) K h:=by
 obtain⟨i,a⟩:=a;cases ha:mI P u with
 |true=>
  rw[ha]at hv;refine .of_pure hv fun w=>?_
  have e:(sizeOf u).run P w=.ok (aO P u) w:=by simp[sizeOf,bj a,aO,a]
  simp only[part,Sem.run_bind,mH a c,Result.andThen_ok,ha,if_true,e,Sem.run_pure];congr 2
  apply bv;simp[du]
 |false=>
  rw[ha]at hv;simp only[cond_false]at hv;cases hc:cs.toList[off]? with
  |none=>rw[hc]at hv;exact hv.elim
  |some v=>
   rw[hc]at hv;refine .of_pure hv fun w=>?_
   have b:cs[off]? =some v:=by simpa using hc
   simp only[part,Sem.run_bind,mH a c,Result.andThen_ok,ha,cS,if_false,b,Sem.run_pure]
def mX(P:Program)(v:Option Value)(d y n:Nat):Prop:=
 match v with
 |some x=>∀c w,(Instr.sliceBound x y c).run P w=.ok n w
 |none=>n=d
theorem gx{v:Option Value}{d y:Nat}{K:Nat→Prop}(hv:BS v d y K):∃n,K n∧mX P v d y n:=by
 unfold BS at hv;split at hv
 ·exact⟨d,hv,rfl⟩
 ·rename_i k i
  obtain⟨⟨e,b⟩,a⟩:=hv;refine⟨i.toNat,a,fun c w=>?_⟩
  simp[Instr.sliceBound,asIntOf,e,b]
 ·exact hv.elim
theorem i9{d:Bool}{len cap n l:Nat}{lo c:Option Value}(b:mX P c len cap n)(a:mX P lo 0 n l)(w:World):
  (Instr.sliceBounds d len cap lo c none).run P w=.ok (l,n,cap) w:=by
 cases c with
 |none=>
  cases lo with
  |none=>simp only[mX]at b a;subst b;subst a;simp[Instr.sliceBounds]
  |some lo=>simp only[mX]at b a;subst b;simp[Instr.sliceBounds,a]
 |some c=>
  cases lo with
  |none=>simp only[mX]at b a;subst a;simp[Instr.sliceBounds,b]
  |some lo=>simp only[mX]at b a;simp[Instr.sliceBounds,b,a]
theorem qo{c:Bool}{len cap n l m:Nat}{lo:Option Value}{e d:Value}(hm:mX P (some d) 0 cap m)(b:mX P (some e) 0 m n)(a:mX P lo 0 n l)(w:World):
  (Instr.sliceBounds c len cap lo (some e) (some d)).run P w=.ok (l,n,m) w:=by
 cases lo with
 |none=>simp only[mX]at hm b a;subst a;simp[Instr.sliceBounds,hm,b]
 |some lo=>simp only[mX]at hm b a;simp[Instr.sliceBounds,hm,b,a]
theorem oC(a:Option Addr)(l m size:Nat):(if m=l then a else a.map (·.add (l*size)))=aF a l m size:=by
 unfold aF;split
 ·rfl
 ·congr 1;funext x;rw[lP]
theorem jc{t:TypeId}{K:Prop}(h:A7 P t K):K∧∀w,(sizeOf t).run P w=.ok (aO P t) w:=by
 unfold A7 at h;cases hi:P.info? t with
 |none=>rw[hi]at h;exact h.elim
 |some i=>rw[hi]at h;exact⟨h,fun w=>by simp[sizeOf,bj hi,aO,hi]⟩
theorem vh{t:TypeId}{x:Value}{f:Nat}{K:RK}{h:ac}(hv:xM P t x f K):Yv P (Instr.field t x f) K h:=by
 unfold xM at hv;split at hv
 ·rename_i u off cs hf
  obtain⟨j,g,d,b,rfl,rfl⟩:=nr hf;cases hb:((P.underlying g.type).isSome&&(P.info? g.type).isSome)with
  |false=>rw[hb]at hv;exact hv.elim
  |true=>
   rw[hb]at hv;simp only[aG,bS]at hb;obtain⟨v,S,a,e,c⟩:=xW (cs:=cs) (off:=g.offset) (h:=h) hb.1 hb.2 hv;refine⟨v,S,a,e,fun w i=>?_⟩
   have:=c w i;simp only[Instr.field,Sem.run_bind,af d,Result.andThen_ok,b,asAgg,Sem.run_pure,this]
 ·exact hv.elim
theorem qt{t:TypeId}{x i:Value}{K:RK}{h:ac}(hv:oJ P t x i K):Yv P (Instr.indexAt t x i) K h:=by
 unfold oJ at hv;split at hv
 ·rename_i n e a k i hu
  obtain⟨⟨⟨f,d⟩,c⟩,hz⟩:=jc hv;refine .of_pure c fun w=>?_
  simp[Instr.indexAt,asIntOf,af hu,Instr.sureAddr,f,d,hz,lP]
 ·rename_i e b len cap k i hu
  obtain⟨⟨⟨f,d⟩,a,rfl,c⟩,hz⟩:=jc hv;refine .of_pure c fun w=>?_
  simp[Instr.indexAt,asIntOf,af hu,f,d,hz,lP]
 ·exact hv.elim
theorem vg{t:TypeId}{x i:Value}{K:RK}{h:ac}(hv:xL P t x i K):Yv P (Instr.index t x i) K h:=by
 unfold xL at hv;split at hv
 ·rename_i s k i hu
  obtain⟨b,c,a,d⟩:=hv;refine .of_pure d fun w=>?_
  simp[Instr.index,asIntOf,af hu,c,a]
 ·exact hv.elim
theorem ve{t:TypeId}{x:Value}{lo f d:Option Value}{K:RK}{h:ac}(hv:xJ P t x lo f d K):Yv P (Instr.sliceAt t x lo f d) K h:=by
 unfold xJ at hv;split at hv
 ·rename_i s hu
  cases d with
  |some _=>exact hv.elim
  |none=>
   obtain⟨n,hv,c⟩:=gx (P:=P) hv;obtain⟨l,hv,b⟩:=gx (P:=P) hv;refine .of_pure hv fun w=>?_
   simp[Instr.sliceAt,Instr.slice,af hu,i9 c b]
 ·rename_i e a len cap hu
  obtain⟨hv,hz⟩:=jc hv;cases d with
  |none=>
   obtain⟨n,hv,c⟩:=gx (P:=P) hv;obtain⟨l,hv,b⟩:=gx (P:=P) hv;refine .of_pure hv fun w=>?_
   simp[Instr.sliceAt,Instr.slice,af hu,i9 c b,hz,oC]
  |some m=>
   cases f with
   |none=>exact hv.elim
   |some f=>
    obtain⟨i,hv,hm⟩:=gx (P:=P) hv;obtain⟨n,hv,c⟩:=gx (P:=P) hv;obtain⟨l,hv,b⟩:=gx (P:=P) hv;refine .of_pure hv fun w=>?_
    simp[Instr.sliceAt,Instr.slice,af hu,qo hm c b,hz,oC]
 ·rename_i n e a hu
  obtain⟨hv,hz⟩:=jc hv;cases d with
  |some _=>exact hv.elim
  |none=>
   obtain⟨m,hv,c⟩:=gx (P:=P) hv;obtain⟨l,hv,b⟩:=gx (P:=P) hv;refine .of_pure hv fun w=>?_
   have g:(some (if n=l then a else a.add (l*aO P e)))=aF (some a) l n (aO P e):=by
    rw[←oC];split<;>rfl
   simp[Instr.sliceAt,af hu,Instr.sureAddr,i9 c b,hz,g]
 ·exact hv.elim
def iR(d:TypeDesc)(c:CK):Prop:=(∃i,d=.int i∧c=.int i)∨(d=.string∧c=.str)∨(d=.bool∧c=.bool)
theorem nh{t:TypeId}{c:CK}{e:TypeId}(h:wH P t=some (c,e)):∃k d,P.underlying t=some (.map k e)∧P.underlying k=some d∧iR d c:=by
 unfold wH at h;split at h
 ·rename_i k e' hu
  split at h
  ·rename_i i hk
   simp only[aN.injEq,nP.injEq]at h;obtain⟨rfl,rfl⟩:=h;exact⟨k,_,hu,hk,.inl ⟨i,rfl,rfl⟩⟩
  ·rename_i hk
   simp only[aN.injEq,nP.injEq]at h;obtain⟨rfl,rfl⟩:=h;exact⟨k,_,hu,hk,.inr (.inl ⟨rfl,rfl⟩)⟩
  ·rename_i hk
   simp only[aN.injEq,nP.injEq]at h;obtain⟨rfl,rfl⟩:=h;exact⟨k,_,hu,hk,.inr (.inr ⟨rfl,rfl⟩)⟩
  ·cases h
 ·cases h
theorem rg{d:TypeDesc}{c:CK}(hd:iR d c)(x y:c.den):Instr.sameNow d (c.enc x) (c.enc y)=some (dI (c.enc x) (c.enc y)):=by
 rcases hd with⟨i,rfl,rfl⟩|⟨rfl,rfl⟩|⟨rfl,rfl⟩
 ·simp[Instr.sameNow,CK.enc,dI]
 ·simp[Instr.sameNow,CK.enc,dI]
 ·simp[Instr.sameNow,CK.enc,dI]
theorem rp{d:TypeDesc}{c:CK}(hd:iR d c)(x:c.den):∀(es:List MapEntry) (i:Nat),sZ c es→
  ∃r,Instr.findNow d (c.enc x) es i=some r∧r.map (·.2)=wP (c.enc x) es
 | [],i,_=>⟨none,rfl,rfl⟩
 |e::es,i,h=>by
  obtain⟨y,f⟩:=h e (by simp);have a:=rg hd x y;rw[←f]at a;simp only[Instr.findNow,wP];cases hb:dI (c.enc x) e.key with
  |true=>rw[a,hb];exact⟨some (i,e.val),rfl,rfl⟩
  |false=>rw[a,hb];exact rp hd x es (i+1) fun g b=>h g (by simp[b])
theorem w8{a:Bool}{k:TypeId}{d:TypeDesc}{c:CK}(hd:iR d c)(b:P.underlying k=some d)(v:Value)(n:Nat)(w:World):(Instr.checkKey a (n+1) k v).run P w=.ok () w:=by
 unfold Instr.checkKey;simp only[Sem.run_bind,af b,Result.andThen_ok];rcases hd with⟨i,rfl,rfl⟩|⟨rfl,rfl⟩|⟨rfl,rfl⟩<;>rfl
theorem mA{k:TypeId}{d:TypeDesc}{c:CK}(hd:iR d c)(b:P.underlying k=some d)(x:c.den){es:List MapEntry}(h:sZ c es)(w:World):
  ∃r,(Instr.findKey k (c.enc x) es).run P w=.ok r w∧Instr.findNow d (c.enc x) es 0=some r∧r.map (·.2)=wP (c.enc x) es:=by
 obtain⟨r,a,hm⟩:=rp hd x es 0 h;refine⟨r,?_,a,hm⟩;simp only[Instr.findKey,Sem.run_bind,af b,Result.andThen_ok,a,Sem.run_pure]
theorem gd{w:World}{r:Nat}{es:Array MapEntry}{a:Nat}(h:w.heap[r]? =some (.map es a)):(getObj r).run P w=.ok (.map es a) w:=by
 simp only[getObj,Sem.run,h]
theorem gT{a:Bool}{k:TypeId}{d:TypeDesc}{c:CK}(hd:iR d c)(b:P.underlying k=some d)(v:Value)(w:World):(Instr.checkKey a 10000 k v).run P w=.ok () w:=
 w8 hd b v 9999 w
theorem x8{t:TypeId}{c:CK}{e k:TypeId}{d:TypeDesc}(p:P.underlying t=some (.map k e))(f:P.underlying k=some d)(hd:iR d c){m:Option Nat}{x:c.den}{z v:Value}{b j:Bool}{w:World}
  (hz:(zeroValue e).run P w=.ok z w)(hm:yD c z w.heap m (c.enc x) v b):
  (Instr.lookup t (.map m) (c.enc x) j).run P w=.ok (bif j then .tuple #[v,.bool b]else v) w:=by
 cases m with
 |none=>
  obtain⟨rfl,rfl⟩:=hm;simp only[Instr.lookup,Sem.run_bind,af p,Result.andThen_ok,Sem.run_pure,gT hd f];obtain⟨r,n,g,a⟩:=mA (P:=P) hd f x (es:= []) (fun _ h=>by cases h) w
  simp only[Instr.findNow,aN.injEq]at g;subst g;simp[n,hz]
 |some r=>
  obtain⟨es,o,q,i,hv⟩:=hm;simp only[Instr.lookup,Sem.run_bind,af p,Result.andThen_ok,gd q,Sem.run_pure,gT hd f];obtain⟨r,n,g,a⟩:=mA (P:=P) hd f x i w;simp only[n,Result.andThen_ok];cases r with
  |none=>
   simp only[Option.map_none]at a;rw[←a]at hv;obtain⟨rfl,rfl⟩:=hv;simp[hz]
  |some r=>
   simp only[g8]at a;rw[←a]at hv;obtain⟨rfl,rfl⟩:=hv;cases j<;>rfl
theorem cC{e:TypeId}{z:Value}(h:nZ P e=some z)(w:World):(zeroValue e).run P w=.ok z w:=by
 unfold nZ at h;cases hi:P.info? e with
 |none=>rw[hi]at h;cases h
 |some i=>rw[hi]at h;simp only at h;simp[zeroValue,bj hi,h]
theorem ua{t:TypeId}{x k:Value}{a:Bool}{K:RK}{h:ac}(hv:vf P t x k a K h):Yv P (Instr.lookup t x k a) K h:=by
 unfold vf at hv;split at hv
 ·rename_i c e m hc
  obtain⟨n,d,g,f,hd⟩:=nh hc;obtain⟨o,rfl,hv⟩:=CK.dec_sound hv;split at hv
  ·rename_i ek z hek hz
   obtain⟨y,b,hm,i⟩:=hv;exact⟨_,_,i,hm,fun w j=>x8 g f hd (cC hz w) j⟩
  ·exact hv.elim
 ·exact hv.elim
theorem rh{w:World}{b cap s q:Nat}{buf:Array Value}{a t:Bool}(h:w.heap[b]? =some (.chan cap buf a s q t)):(getObj b).run P w=.ok (.chan cap buf a s q t) w:=by
 simp only[getObj,Sem.run,h]
theorem xK{t:TypeId}{x:Value}{ats:Array TypeId}{ty:TypeId}{K:RK}{h:ac}(a:ats[0]? =some t) (hv:Di P t x K h):Yv P (Builtin.len_ ats ty #[x]) K h:=by
 unfold Di at hv;split at hv
 ·rename_i s hu
  exact .of_pure hv fun w=>by simp[Builtin.len_,a,af hu,goInt]
 ·rename_i n e _ hu
  exact .of_pure hv fun w=>by simp[Builtin.len_,a,af hu,goInt]
 ·rename_i e b n c hu
  exact .of_pure hv fun w=>by simp[Builtin.len_,a,af hu,goInt]
 ·rename_i k e m hu
  obtain⟨n,hm,f⟩:=hv;refine⟨_,_,f,hm,fun w d=>?_⟩
  cases m with
  |none=>
   have:n=0:=d;subst this;simp[Builtin.len_,a,af hu,goInt]
  |some r=>
   obtain⟨es,i,g,rfl⟩:=d;simp[Builtin.len_,a,af hu,goInt,gd g]
 ·rename_i k e m hu
  obtain⟨n,hm,f⟩:=hv;refine⟨_,_,f,hm,fun w d=>?_⟩
  cases m with
  |none=>
   have:n=0:=d;subst this;simp[Builtin.len_,a,af hu,goInt]
  |some r=>
   obtain⟨cap,buf,j,s,q,g,rfl⟩:=d;simp[Builtin.len_,a,af hu,goInt,rh g]
 ·exact hv.elim
theorem xN{t:TypeId}{x:Value}{ats:Array TypeId}{ty:TypeId}{K:RK}{h:ac}(a:ats[0]? =some t) (hv:Dk P t x K h):Yv P (Builtin.cap_ ats ty #[x]) K h:=by
 unfold Dk at hv;split at hv
 ·rename_i e b n c hu
  exact .of_pure hv fun w=>by simp[Builtin.cap_,a,af hu,goInt]
 ·rename_i k e m hu
  obtain⟨n,hm,f⟩:=hv;refine⟨_,_,f,hm,fun w d=>?_⟩
  cases m with
  |none=>
   have:n=0:=d;subst this;simp[Builtin.cap_,a,af hu,goInt]
  |some r=>
   obtain⟨cap,buf,i,s,q,g,rfl⟩:=d;simp[Builtin.cap_,a,af hu,goInt,rh g]
 ·exact hv.elim
theorem px{c:Bool}{k:IntKind}:∀{vs:List Value} {a:Int} {f:Value→Prop},vt c k a vs f→∃v,f v∧∀w,(vs.foldlM (bif c then Builtin.max2 else Builtin.min2) (Value.int k a):Sem Value).run P w=.ok v w
 | [],a,f,h=>⟨_,h,fun w=>by simp⟩
 | .int k' b::vs,a,f,h=>by
  simp only[vt]at h;cases hk:vx k' k with
  |false=>rw[hk]at h;exact h.elim
  |true=>
   rw[hk]at h;have:=pD hk;subst this;obtain⟨v,e,d⟩:=px h;refine⟨v,e,fun w=>?_⟩
   rw[←d w];cases c<;>simp[List.foldlM_cons,Builtin.max2,Builtin.min2]
theorem ol{a:Bool}{vs:List Value}{f:Value→Prop}{ats:Array TypeId}{ty:TypeId}(h:rX a vs f):∃v,f v∧∀w,(bif a then Builtin.max_ ats ty vs.toArray else Builtin.min_ ats ty vs.toArray).run P w=.ok v w:=by
 unfold rX at h;split at h
 ·obtain⟨v,c,b⟩:=px (P:=P) h
  refine⟨v,c,fun w=>?_⟩
  have:=b w;cases a<;>simpa[Builtin.max_,Builtin.min_]using this
 ·exact h.elim
theorem Ae{a:Addr}{e:MapEntry}{w:World}(i:a.off=0)(h:yE w.heap a.block e):(Instr.entry (.pointer (some a))).run P w=.ok (.tuple #[e.key,e.val]) w:=by
 obtain⟨m,c,f,d,g,es,j,o,hm,p⟩:=h;obtain⟨b,off,k⟩:=a;simp only at i j;subst i;have n:(getObj b).run P w=.ok (.mapIter (some m) c f d) w:=by simp only[getObj,Sem.run,j]
 simp[Instr.entry,n,o,gd hm,p]
def uq:DV→Value→Prop
 | .t,v=>v=.bool true
 | .f,v=>v=.bool false
 | .u,v=>v=undef
 | .x,_=>True
def DecOk(d:mh)(r:be):Prop:=∀t,jZ d t=.x∨∃v,fo r t=some v∧uq (jZ d t) v
theorem DecOk.at{d:mh}{r:be}(h:DecOk d r){t:Nat}{v:Value}(hv:fo r t=some v):uq (jZ d t) v:=by
 rcases h t with e|⟨u,a,b⟩
 ·rw[e];trivial
 ·rw[hv]at a;cases a;exact b
theorem lZ{d:mh}{r:be}(hd:DecOk d r){o:Operand}{v:Value}(h:bI r o=some v):uq (pL d o) v:=by
 cases o with
 |tmp t=>exact hd.at h
 |const c=>
  simp[bI]at h;subst h;cases c with
  |bool b=>cases b<;>exact rfl
  |_=>trivial
 |global g=>trivial
 |func f=>trivial
theorem rk{t:TypeId}(h:jC P t=true):∃d,P.underlying t=some d∧∀m,d≠ .interface m:=by
 unfold jC at h;split at h
 ·cases h
 ·rename_i d hd;exact⟨_,hd,fun m e=>by subst e;simp_all⟩
 ·cases h
theorem pA{t:TypeId}{v:Value}(h:jC P t=true)(w:World):(Instr.makeInterface t v).run P w=.ok (.iface t v) w:=by
 obtain⟨d,hd,a⟩:=rk h;simp only[Instr.makeInterface,Sem.run_bind,af hd,Result.andThen_ok];cases d<;>first|exact absurd rfl (a _)|rfl
theorem sy{t u:TypeId}{v:Value}(h:jC P t=true)(w:World):(Instr.typeAssert (.iface t v) u t false).run P w=.ok v w:=by
 obtain⟨d,hd,a⟩:=rk h;simp only[Instr.typeAssert,Sem.run_bind,af hd,Result.andThen_ok];cases d<;>first|exact absurd rfl (a _)|(simp[Sem.run_pure])
theorem fj{t:TypeId}{z:List Value}(h:jL P t=some z):∃v,nZ P t=some v∧v.cells.toList=z:=by
 unfold jL at h;cases hz:nZ P t with
 |none=>rw[hz]at h;cases h
 |some v=>rw[hz]at h;simp only[aN.injEq]at h;exact⟨v,rfl,h⟩
theorem j5{t:TypeId}{v:Value}(h:nZ P t=some v):∃i,P.info? t=some i∧i.zero=some v:=by
 unfold nZ at h;cases hi:P.info? t with
 |none=>rw[hi]at h;cases h
 |some i=>rw[hi]at h;exact⟨i,rfl,h⟩
theorem BL{A B:List Value}{x:Value}{m:Nat}(h:A.length=m):(A++x::B).take (m+1)=A++ [x]:=by
 subst h;rw[List.take_append,aV (by omega),show A.length+1-A.length=1 by omega];rfl
theorem BM{A B:List Value}{x:Value}{m n:Nat}(h:A.length=m):(A++x::B).drop (m+1+n)=B.drop n:=by
 subst h;rw[List.drop_append,List.drop_eq_nil_of_le (by omega),show A.length+1+n-A.length=n+1 by omega];rfl
theorem wO(off:Nat):∀(xs:List Value) (k:Nat) (arr:Array Value),off+k+xs.length≤arr.size→
  (xs.zipIdx k).foldl (fun cs (c,j)=>cs.setIfInBounds (off+j) c) arr=(ww arr.toList (off+k) xs).toArray
 | [],k,arr,_=>by simp[ww]
 |x::xs,k,arr,h=>by
  simp only[aQ]at h;simp only[List.zipIdx_cons,List.foldl_cons];rw[wO off xs (k+1) _ (by simp;omega)];have hm:off+k<arr.toList.length:=by simp;omega
  have b:arr.toList.set (off+k) x=arr.toList.take (off+k)++x::arr.toList.drop (off+k+1):=by
   rw[List.set_eq_take_append_cons_drop,if_pos hm]
  have a:(arr.toList.take (off+k)).length=off+k:=by simp;omega
  congr 1
  unfold ww;rw[Array.toList_setIfInBounds,b,←Nat.add_assoc,BL a,BM a];simp only[List.append_assoc,jr,List.nil_append,aQ,List.drop_drop];rw[show off+k+1+xs.length=off+k+(xs.length+1) by omega]
theorem k8{a:Nat→Option (Nat×Nat)}:∀(parts:List (Nat×Value)) (cs cs':List Value),rq a cs parts=some cs'→Instr.fill a cs.toArray parts=some cs'.toArray
 | [],cs,cs',h=>by simp only[rq,aN.injEq]at h;subst h;rfl
 |(i,v)::rest,cs,cs',h=>by
  simp only[rq]at h;cases hp:a i with
  |none=>rw[hp]at h;cases h
  |some os=>
   obtain⟨off,size⟩:=os;rw[hp]at h;simp only at h;cases hb:(aI v.cells.toList.length size&&nR (off+v.cells.toList.length) cs.length)with
   |false=>rw[hb]at h;cases h
   |true=>
    rw[hb]at h;simp only[aG]at hb;have g:=au hb.1;have d:=eC hb.2;have f:=k8 rest _ _ h;have e:v.cells.size=size:=by simpa using g
    have b:off+v.cells.size≤cs.length:=by simpa using d
    have c:Array.foldl (fun cs x=>cs.setIfInBounds (off+x.2) x.1) cs.toArray v.cells.zipIdx=(ww cs off v.cells.toList).toArray:=by
     have:=wO off v.cells.toList 0 cs.toArray (by simpa using b);simp only[dE]at this;rw[←this,←Array.foldl_toList];congr 1
     simp[Array.toList_zipIdx]
    simp only[Instr.fill,hp];rw[if_neg (by simp[e];omega)];simp only[c];exact f
theorem iA{N:Nat}{r:be}{a:Act}(h:Agree N r a):∀{ps:List (Nat×Operand)} {vs:List (Nat×Value)},jB r ps=some vs→ps.map (fun p=>(p.1,a.eval p.2))=vs
 | [],vs,hv=>by simp[jB]at hv;subst hv;rfl
 |(i,o)::ps,vs,hv=>by
  simp only[jB]at hv;cases ho:bI r o with
  |none=>simp[ho]at hv
  |some v=>cases hos:jB r ps with
   |none=>simp[ho,hos]at hv
   |some us=>simp[ho,hos]at hv;subst hv;simp[fp h ho,iA h hos]
theorem jD{t:TypeId}(h:nN P t=true)(w:World):(sizeOf t).run P w=.ok (aO P t) w:=by
 unfold nN at h;cases hi:P.info? t with
 |none=>rw[hi]at h;cases h
 |some i=>simp[sizeOf,bj hi,aO,hi]
theorem sP(w:World):∀l:List Field,pR P l=true→(l.mapM fun f:Field=>((do pure (f.offset,←sizeOf f.type)):Sem (Nat×Nat))).run P w=.ok (l.map fun f:Field=>(f.offset,aO P f.type)) w
 | [],_=>rfl
 |f::l,h=>by
  simp only[pR]at h;cases hf:nN P f.type with
  |false=>rw[hf]at h;cases h
  |true=>
   rw[hf]at h;rw[List.mapM_cons];simp only[Sem.run_bind,jD hf,Result.andThen_ok,Sem.run_pure,sP w l h,fU]
theorem pQ{t:TypeId}{ps:Array (Nat×Value)}{cs:List Value}(a:vG P t ps.toList=some cs)(w:World):
  (Instr.build t ps).run P w=.ok (.agg cs.toArray) w:=by
 unfold vG at a;split at a
 ·rename_i fs z hu hz
  obtain⟨v,hz,hv⟩:=fj hz;cases ha:pR P fs.toList with
  |false=>rw[ha]at a;cases a
  |true=>
   rw[ha]at a;have g:(fs.mapM fun f:Field=>((do pure (f.offset,←sizeOf f.type)):Sem (Nat×Nat))).run P w=.ok (fs.map fun f:Field=>(f.offset,aO P f.type)) w:=by
    rw[Array.mapM_eq_mapM_toList];simp only[Sem.run_map,sP w fs.toList ha,Result.andThen_ok];congr 1
    apply bv;simp
   have d:=k8 _ _ _ a;have b:(fun i:Nat=>(fs.map fun f:Field=>(f.offset,aO P f.type))[i]?)=xV P fs.toList:=by
    funext i;unfold xV;rw[Array.getElem?_map,aA];cases fs[i]?<;>rfl
   have c:v.cells=z.toArray:=by rw[←hv]
   rw[cond_true]at a;rw[←b]at d;simp only[Instr.build,Sem.run_bind,cC hz,Result.andThen_ok,af hu,g,c,d,Sem.run_pure]
 ·rename_i n e z hu hz
  obtain⟨v,hz,hv⟩:=fj hz;cases ha:nN P e with
  |false=>rw[ha]at a;cases a
  |true=>
   rw[ha]at a;have d:=k8 _ _ _ a;have c:v.cells=z.toArray:=by rw[←hv]
   simp only[Instr.build,Sem.run_bind,cC hz,Result.andThen_ok,af hu,jD ha,c,d,Sem.run_pure]
 ·cases a
theorem qs{ek:Option (Kind×Kind)}{o:Oper}{r:be}{K:RK}{h:ac}{N:Nat}{a:Act}(O:Agree N r a)(g:qi P ek o.op r K h)(d:mh)(hd:DecOk d r):
  ∃v S,K v S∧B0 S h∧uq (vS d o.op) v∧∀w:World,B0 S w.heap→(execOp a.eval o).run P w=.ok (.value v) w:=by
 have j:∀{x:Operand} {v:Value},bI r x=some v→a.eval x=v:=fun h=>fp O h
 have fin:∀{s:Sem Value},Yv P s K h→vS d o.op=.x→(∀w,(execOp a.eval o).run P w=(do pure (Next.value (←s)):Sem Next).run P w)→
   ∃v S,K v S∧B0 S h∧uq (vS d o.op) v∧∀w:World,B0 S w.heap→(execOp a.eval o).run P w=.ok (.value v) w:=by
  rintro s ⟨v,S,n,A,z⟩ hx E;exact⟨v,S,n,A,by rw[hx];trivial,fun w C=>by rw[E w];exact eF (z w C)⟩
 obtain⟨Q,L,type,mZ,G,F⟩:=o;simp only at g fin⊢;cases L with
 |move x=>
  simp only[qi]at g;split at g
  ·rename_i v hv
   exact⟨v,none,g,trivial,lZ hd hv,fun w _=>by simp[execOp,j hv]⟩
  ·exact g.elim
 |assign x=>
  simp only[qi]at g;split at g
  ·rename_i v hv
   exact⟨v,none,g,trivial,lZ hd hv,fun w _=>by simp[execOp,j hv]⟩
  ·exact g.elim
 |pick c x y=>
  simp only[qi]at g;split at g
  ·rename_i vc va vb hc hx R
   unfold CX at g;split at g
   ·rename_i cb
    have I:=lZ hd hc;have W:=lZ hd hx;have X:=lZ hd R;have E:∀w,(execOp a.eval ⟨Q,.pick c x y,type,mZ,G,F⟩).run P w=.ok (.value (if cb then va else vb)) w:=fun w=>by
     simp[execOp,j hc,j hx,j R,asBool]
    have H:uq (vS d (.pick c x y)) (if cb then va else vb):=by
     simp only[vS];cases hcd:pL d c with
     |t=>
      rw[hcd]at I;have:cb=true:=by simpa[uq]using I
      subst this;exact W
     |f=>
      rw[hcd]at I;have:cb=false:=by simpa[uq]using I
      subst this;exact X
     |u=>trivial
     |x=>trivial
    split at g
    ·rename_i bx by'
     have M:(if cb=true then Value.bool bx else Value.bool by')=.bool (bif cb then bx else by'):=by cases cb<;>rfl
     rw[M]at H;exact⟨_,none,g,trivial,H,fun w _=>by rw[E w,M]⟩
    ·cases cb
     ·exact⟨_,none,g,trivial,H,fun w _=>E w⟩
     ·exact⟨_,none,g,trivial,H,fun w _=>E w⟩
   ·exact g.elim
  ·exact g.elim
 |load t x=>
  simp only[qi]at g;split at g
  ·rename_i v hv
   obtain⟨u,S,n,A,z⟩:=rj g;exact fin ⟨u,some S,n,A,z⟩ rfl fun w=>by simp only[execOp,j hv]
  ·exact g.elim
 |nilCheck x=>
  simp only[qi]at g;split at g
  ·rename_i p hv
   obtain⟨b,rfl,n⟩:=g;exact⟨_,none,n,trivial,trivial,fun w _=>by simp[execOp,j hv]⟩
  ·exact g.elim
 |binOp L t x y yt=>
  simp only[qi]at g;split at g
  ·rename_i v u hv hu
   obtain⟨V,S,n,A,z⟩:=xP (x:=x) (y:=y) g;refine⟨V,S,n,A,trivial,fun w C=>?_⟩
   simp only[execOp,j hv,j hu];exact eF (z w C)
  ·rename_i v u hna hv hu
   have go:(∀c d,v=.agg c→u=.agg d→False)∧(v=.nilIface→u=.nilIface→False)∧Yv P (binOp L t v u) K h:=by
    split at g
    ·exact sS (neg:=false) g
    ·exact sS (neg:=true) g
    ·exact xO g
   obtain⟨h1,h2,V,S,n,A,z⟩:=go;refine⟨V,S,n,A,trivial,fun w C=>?_⟩
   simp only[execOp,j hv,j hu];simp[yo L t x y v u h1 h2 w,z w C]
  ·exact g.elim
 |unOp L t x=>
  simp only[qi]at g;split at g
  ·rename_i v hv
   obtain⟨u,S,n,A,z⟩:=zS (P:=P) (h:=h) g;refine⟨u,S,n,A,?_,fun w C=>by simp only[execOp,j hv];exact eF (z w C)⟩
   have J:=lZ hd hv;cases L<;>try trivial
   simp only[vS];have B:=z {(default:World)with heap:=h} A;cases hx:pL d x with
   |t=>
    rw[hx]at J;have:v=.bool true:=J;subst this;simp[Op.unary]at B;exact B.symm
   |f=>
    rw[hx]at J;have:v=.bool false:=J;subst this;simp[Op.unary]at B;exact B.symm
   |u=>trivial
   |x=>trivial
  ·exact g.elim
 |convert s t x=>
  simp only[qi]at g;split at g
  ·rename_i v hv
   exact fin (wq g) rfl fun w=>by simp only[execOp,j hv]
  ·exact g.elim
 |extract x i=>
  simp only[qi]at g;split at g
  ·rename_i vs hv
   split at g
   ·rename_i u hu
    have U:vs[i]? =some u:=by simpa using hu
    exact⟨u,none,g,trivial,trivial,fun w _=>by simp[execOp,j hv,Instr.extract,U]⟩
   ·exact g.elim
  ·exact g.elim
 |fieldAddr t x f=>
  simp only[qi]at g;split at g
  ·rename_i b u off hv hf
   exact fin (rK hf g) rfl fun w=>by simp only[execOp,j hv]
  ·exact g.elim
 |field t x f=>
  simp only[qi]at g;split at g
  ·rename_i v hv
   exact fin (vh g) rfl fun w=>by simp only[execOp,j hv]
  ·exact g.elim
 |indexAddr t x i=>
  simp only[qi]at g;split at g
  ·rename_i v u hv hu
   exact fin (qt g) rfl fun w=>by simp only[execOp,j hv,j hu]
  ·exact g.elim
 |index t x i=>
  simp only[qi]at g;split at g
  ·rename_i v u hv hu
   exact fin (vg g) rfl fun w=>by simp only[execOp,j hv,j hu]
  ·exact g.elim
 |slice t x lo Z mx=>
  simp only[qi]at g;split at g
  ·rename_i v l h' m hv hl hh hm
   have Y:∀{x:Option Operand} {v:Option Value},uF r x=some v→x.map a.eval=v:=by
    intro x v hx;cases x with
    |none=>simp[uF]at hx;subst hx;rfl
    |some x=>
     simp only[uF]at hx;cases E:bI r x with
     |none=>simp[E]at hx
     |some u=>simp[E]at hx;subst hx;simp[j E]
   exact fin (ve g) rfl fun w=>by simp only[execOp,j hv,Y hl,Y hh,Y hm]
  ·exact g.elim
 |lookup t x k ok=>
  simp only[qi]at g;split at g
  ·rename_i v u hv hu
   exact fin (ua g) rfl fun w=>by simp only[execOp,j hv,j hu]
  ·exact g.elim
 |makeInterface t x=>
  simp only[qi]at g;split at g
  ·rename_i v hv
   cases hb:jC P t with
   |false=>rw[hb]at g;exact g.elim
   |true=>
    rw[hb,cond_true]at g;exact⟨_,none,g,trivial,trivial,fun w _=>by simp only[execOp,j hv];exact eF (pA hb w)⟩
  ·exact g.elim
 |typeAssert x u t ok=>
  simp only[qi]at g;split at g
  ·rename_i v hv
   cases ok with
   |true=>exact g.elim
   |false=>
    rw[cond_false]at g;unfold y3 at g;cases hb:jC P t with
    |false=>rw[hb]at g;exact g.elim
    |true=>
     rw[hb,cond_true]at g;split at g
     ·obtain⟨y,rfl,n⟩:=g
      exact⟨_,none,n,trivial,trivial,fun w _=>by simp only[execOp,j hv];exact eF (sy hb w)⟩
     ·exact g.elim
  ·exact g.elim
 |makeFunc fn first cap=>
  simp only[qi]at g;split at g
  ·rename_i vs us hv hu
   have M:=gq O hv;have e2:=gq O hu;refine⟨_,none,g,trivial,trivial,fun w _=>?_⟩
   have T:first.map a.eval=vs.toArray:=by rw[←M];apply bv;simp
   have f2:cap.map a.eval=us.toArray:=by rw[←e2];apply bv;simp
   simp[execOp,Instr.makeFunc,T,f2]
  ·exact g.elim
 |entry it=>
  simp only[qi]at g;split at g
  ·rename_i b kk vk hv
   obtain⟨h0,e,x,y,Z,n,R,hK⟩:=g;refine⟨_,_,hK,Z,trivial,fun w C=>?_⟩
   simp only[execOp,j hv];refine eF ?_;rw[Ae h0 C,n,R]
  ·exact g.elim
 |call c=>
  simp only[qi]at g;have D:∀{b:Builtin} {vs:List Value},c.callee=.builtin b→hG r c.args.toList=some vs→∃cs:Array Bool,∀w,(execOp a.eval ⟨Q,.call c,type,mZ,G,F⟩).run P w=
    (builtin b c.argTypes type cs vs.toArray).run P w:=by
   intro b vs hc q;have M:=gq O q;have T:c.args.map a.eval=vs.toArray:=by rw[←M];apply bv;simp
   refine⟨c.args.map fun| .const _=>true|_=>false,fun w=>?_⟩
   simp[execOp,resolve,hc,T,invoke];rfl
  split at g
  ·rename_i v t hc q hat
   obtain⟨cs,D⟩:=D hc q;obtain⟨u,S,n,A,z⟩:=xK (ats:=c.argTypes) (ty:=type) (by rw[←aA,hat];rfl) g;exact⟨u,S,n,A,trivial,fun w C=>by rw[D w];simp only[builtin];exact eF (z w C)⟩
  ·rename_i v t hc q hat
   obtain⟨cs,D⟩:=D hc q;obtain⟨u,S,n,A,z⟩:=xN (h:=h) (ats:=c.argTypes) (ty:=type) (by rw[←aA,hat];rfl) g;exact⟨u,S,n,A,trivial,fun w C=>by rw[D w];simp only[builtin];exact eF (z w C)⟩
  ·rename_i vs hc q
   obtain⟨cs,D⟩:=D hc q;obtain⟨u,n,z⟩:=ol (P:=P) (ats:=c.argTypes) (ty:=type) g;exact⟨u,none,n,trivial,trivial,fun w _=>by rw[D w];simp only[builtin];exact eF (z w)⟩
  ·rename_i vs hc q
   obtain⟨cs,D⟩:=D hc q;obtain⟨u,n,z⟩:=ol (P:=P) (ats:=c.argTypes) (ty:=type) g;exact⟨u,none,n,trivial,trivial,fun w _=>by rw[D w];simp only[builtin];exact eF (z w)⟩
  ·exact g.elim
 |build t ps=>
  simp only[qi]at g;split at g
  ·rename_i vs q
   split at g
   ·rename_i cs hcs
    refine⟨_,none,g,trivial,trivial,fun w _=>?_⟩
    have hp:(ps.map fun x=>(x.1,a.eval x.2))=vs.toArray:=by
     rw[←iA O q];apply bv;simp
    have E:=pQ (ps:=vs.toArray) (by simpa using hcs) w;simp only[execOp];rw[show(ps.map fun(i,x)=>(i,a.eval x))=vs.toArray from hp]
    exact eF E
   ·exact g.elim
  ·exact g.elim
 |_=>simp only[qi]at g
end Go.Lift
namespace Go.Lift
open Go
variable {P:Program}
def w9(P:Program)(s:Sem Next)(K:WK)(w:World):Prop:=
 (∃v w',s.run P w=.ok (.value v) w'∧Tame w w'∧K v w'.heap)∨
 (∃w',s.run P w=.ok .skip w'∧Tame w w'∧K undef w'.heap)∨
 (∃f args,s.run P w=.ok (.enter f args) w∧Calls P f args w fun e w'=>Tame w w'∧∃v,e=.returned v∧K v w'.heap)∨
 (∃l fn tmps assign body,s.run P w=.ok (.round l fn tmps assign body) w∧
  ∀(c:Frame) (cs:List Frame),∃b w',Tame w w'∧K (.bool b) w'.heap∧Steps P (lone (Frame.round l fn tmps assign body .normal) (c::cs) w) (lone (c.finish (.bool b)) cs w'))
def Wv(P:Program)(s:Sem Value)(K:WK)(w:World):Prop:=∃v w',s.run P w=.ok v w'∧Tame w w'∧K v w'.heap
theorem Wv.out{s:Sem Value}{K:WK}{w:World}(h:Wv P s K w):w9 P (do pure (Next.value (←s))) K w:=by
 obtain⟨v,w',b,c,a⟩:=h;exact .inl ⟨v,w',eF b,c,a⟩
def Wu(P:Program)(s:Sem Unit)(K:WK)(w:World):Prop:=∃w',s.run P w=.ok () w'∧Tame w w'∧K undef w'.heap
theorem Wu.out{s:Sem Unit}{K:WK}{w:World}(h:Wu P s K w):w9 P (do s;pure Next.skip) K w:=by
 obtain⟨w',b,c,a⟩:=h;exact .inr (.inl ⟨w',AS b,c,a⟩)
def fl(w:World)(h:ac):World:={w with heap:=h}
theorem cz(w:World)(h:ac):Tame w (fl w h):=⟨rfl,rfl,rfl⟩
theorem fw(e:TypeId)(cs:Array Value)(w:World):(newRow e cs).run P w=.ok (bN w.heap) (fl w (hnew w.heap cs.toList e)):=by
 simp[newRow,newObj,Sem.run,bN,fl,hnew,bind,Sem.bind,pure]
theorem sM(o:Obj)(w:World):(newObj o).run P w=.ok w.heap.size (fl w (w.heap.push o)):=rfl
theorem ug{h:ac}{a b:Addr}(v:Value)(c:a≠b):aP (hset h a v) b=aP h b:=
 World.cell?_setCell_other {(default:World)with heap:=h} a b v c
theorem rH{h:ac}{a:Addr}{u:Value}(v:Value)(hc:aP h a=some u):aP (hset h a v) a=some v:=
 World.cell?_setCell_same {(default:World)with heap:=h} a v hc
theorem vy{h:ac}{a b:Addr}(v:Value):r4 (hset h a v) b=r4 h b:=
 World.frozen?_setCell {(default:World)with heap:=h} a b v
theorem Wr.hset{h:ac}{a b:Addr}(v:Value)(d:Wr h b):Wr (hset h a v) b:=by
 obtain⟨⟨u,c⟩,f⟩:=d;refine⟨?_,by rw[vy];exact f⟩
 by_cases e:a=b
 ·subst e;exact⟨v,rH v c⟩
 ·exact⟨u,by rw[ug v e];exact c⟩
theorem xE{w:World}{a:Addr}{v:Value}(hv:∀cs,v≠ .agg cs)(b:∀cs,v≠ .tuple cs)(f:Wr w.heap a):(store a v).run P w=.ok () (fl w (hset w.heap a v)):=by
 obtain⟨⟨u,e⟩,g⟩:=f;have d:w.cell? a=some u:=e;have c:w.frozen? a=false:=g;cases v<;>first|exact absurd rfl (hv _)|exact absurd rfl (b _)|(simp only[store,Sem.run,d,c];rfl)
theorem vo{v:Value}{vs:List Value}(h:aY (v::vs)=true):(∀cs,v≠ .agg cs)∧(∀cs,v≠ .tuple cs)∧aY vs=true:=by
 simp only[aY,aG]at h;refine⟨fun cs e=>?_,fun cs e=>?_,h.2⟩<;>(subst e;exact absurd h.1 (by simp))
theorem kg{a:Addr}:∀(vs:List Value) (i:Nat) (w:World),aY vs=true→(∀j,j<vs.length→Wr w.heap (adr a (i+j)))→
  (storeCells a vs i).run P w=.ok () (fl w (fX w.heap a i vs))
 | [],i,w,_,_=>rfl
 |v::vs,i,w,b,hw=>by
  obtain⟨e,d,b⟩:=vo b;have c:=hw 0 (by simp);simp only[dE]at c;have f:a.add i=adr a i:=(lP a i).symm;simp only[storeCells,f,Sem.run_bind,xE e d c,Result.andThen_ok];rw[kg vs (i+1) (fl w (hset w.heap (adr a i) v)) b fun j g=>?_]
  ·rfl
  ·have:=hw (j+1) (by simp only[aQ];omega)
   rw[show i+1+j=i+(j+1) by omega]
   exact this.hset v
theorem uI{a:Addr}(m:Nat):∀(vs:List Value) (i:Nat) (h:ac),fX h (adr a m) i vs=fX h a (m+i) vs
 | [],_,_=>rfl
 |v::vs,i,h=>by
  simp only[fX];rw[uI m vs (i+1),r9];rfl
theorem uV{t:TypeId}{a v:Value}{K:WK}{w:World}(c:xn P t a v K w.heap):Wu P (Instr.storeAt t a v) K w:=by
 unfold xn at c;split at c
 ·rename_i a
  cases hb:(aI v.cells.toList.length (aO P t)&&aY v.cells.toList)with
  |false=>rw[hb]at c;exact c.elim
  |true=>
   rw[hb]at c;simp only[aG]at hb;have n:=au hb.1;obtain⟨c,hz⟩:=jc c;have g:v.cells.size=aO P t:=by simpa using n
   have m:(∀j,j<v.cells.toList.length→Wr w.heap (adr a (0+j)))→(Instr.storeAt t (.pointer (some a)) v).run P w=.ok () (fl w (fX w.heap a 0 v.cells.toList)):=by
    intro d;have:=kg (P:=P) v.cells.toList 0 w hb.2 d;simp[Instr.storeAt,Instr.sureAddr,storeVar,hz,g,this]
   split at c
   ·rename_i u hu
    obtain⟨d,i⟩:=c;refine⟨_,m (fun j f=>?_),cz _ _,?_⟩
    ·rw[hu]at f;simp only[aQ,List.length_nil]at f
     obtain rfl:j=0:=by omega
     exact d
    ·rw[hu];exact i
   ·obtain⟨d,i⟩:=c
    refine⟨_,m (fun j f=>?_),cz _ _,i⟩
    rcases d with e|⟨b,k,d⟩
    ·rw[e]at f;cases f
    ·cases k;exact d j f
 ·exact c.elim
theorem eY(z:Array Value)(n:Nat):(Builtin.zeroCells z n).toList=cd n z.toList:=by
 have key:∀n,(List.range (n*z.size)).map (fun i=>z[i%z.size]!)=(eu n z.toList).flatten:=by
  intro n;induction n with
  |zero=>simp
  |succ n ih=>
   rw[Nat.succ_mul,List.range_add,List.map_append,ih,List.replicate_succ',List.flatten_append];congr 1
   simp only[List.map_map,List.flatten_cons,List.flatten_nil,List.append_nil];apply List.ext_getElem
   ·simp
   ·intro i a b
    simp only[List.length_map,List.length_range]at a;simp[Nat.mod_eq_of_lt a,a,Nat.add_mod]
 simpa[Builtin.zeroCells,cd]using key n
theorem bP{t e:TypeId}(h:mN P t=some e):P.underlying t=some (.slice e):=by
 unfold mN at h;split at h
 ·rename_i e' hu;simp only[aN.injEq]at h;subst h;exact hu
 ·cases h
theorem yR{z:Value}{n:Nat}:((Array.range (n*z.cells.size)).map (z.cells[· %z.cells.size]!))=(cd n z.cells.toList).toArray:=by
 have:=eY z.cells n;unfold Builtin.zeroCells at this;apply bv;rw[this]
theorem qH{t e:TypeId}{n:Nat}{ps:Array (Nat×Value)}{z cs:List Value}(q:mN P t=some e)(hz:jL P e=some z)(s:n*aO P e≤16777216)(g:z.length=aO P e)
  (o:rq (fun i=>some (i*aO P e,aO P e)) (cd n z) ps.toList=some cs)(w:World):
  (Instr.buildSlice t n ps).run P w=.ok (.slice (some (bN w.heap)) n n) (fl w (hnew w.heap cs e)):=by
 obtain⟨v,hv,c⟩:=fj hz;obtain⟨i,j,m⟩:=j5 hv;have p:(sizeOf e).run P w=.ok (aO P e) w:=by simp[sizeOf,bj j,aO,j]
 have d:v.cells.size=aO P e:=by rw[←g,←c];simp
 have k:=k8 _ _ _ o;have a:((Array.range (n*aO P e)).map (fun i=>(if n*aO P e=0 then #[]else v.cells)[i%(if n*aO P e=0 then #[]else v.cells).size]!))=(cd n z).toArray:=by
  by_cases b:n*aO P e=0
  ·have:(cd n z).length=0:=by simp[cd,g,b]
   rw[bp.1 this];simp[b]
  ·simp only[if_neg b]
   rw[←d,yR,c]
 have f:¬(n*aO P e>2^24):=by omega
 simp only[Instr.buildSlice,Sem.run_bind,af (bP q),Result.andThen_ok,p,if_neg f];by_cases b:n*aO P e=0
 ·simp only[if_pos b]at a
  simp only[if_pos b,Sem.run_bind,Sem.run_pure,Result.andThen_ok,a,k,fw]
 ·simp only[if_neg b]at a
  simp only[if_neg b,Sem.run_bind,Sem.run_pure,Result.andThen_ok,cC hv,a,k,fw]
theorem zN{h:ac}{a:Addr}{vs:List Value}(b:Row h a vs):∀j v,vs[j]? =some v→aP h (a.add j)=some v:=fun j v hv=>by
 rw[←lP];exact b j v hv
theorem nK{size n cap len:Nat}{b:Option Addr}{vs:List Value}{w:World}(c:SRow w.heap b (n*size) vs):(Builtin.firstCells size n (.slice b len cap)).run P w=.ok vs.toArray w:=by
 obtain⟨d,a⟩:=c;cases b with
 |none=>
  rcases a with rfl|⟨_,h,_⟩
  ·simp[Builtin.firstCells]
  ·cases h
 |some b=>
  refine run_firstCells_some w size n b len cap vs d fun j v hv=>?_
  rcases a with rfl|⟨_,h,a⟩
  ·cases hv
  ·cases h;exact zN a j v hv
theorem sH{a:Addr}{m:Nat}{xs:List Value}{w:World}(e:aY xs=true)(c:nO w.heap (some a) m xs):
  (storeCells (a.add m) xs).run P w=.ok () (fl w (fX w.heap a m xs)):=by
 rcases c with rfl|⟨b,d,c⟩
 ·rfl
 ·cases d
  have:=kg (P:=P) (a:=adr a m) xs 0 w e fun j f=>by rw[r9,ar];exact c j f
  rw[←lP,this,uI,dE]
set_option maxHeartbeats 1000000 in
theorem tH{t e u ty:TypeId}{b:Option Addr}{sl f d:Nat}{xs:List Value}{x:Value}{K:WK}{w:World}(F:mN P t=some e)(m:(∃A,P.underlying u=some (.slice A))∨P.underlying u=some .string)
  (g:∀w,(Builtin.lenOf x).run P w=.ok d w)(hx:∀w':World,w'.heap=w.heap→(Builtin.firstCells (aO P e) d x).run P w'=.ok xs.toArray w')
  (k:∃i,P.info? e=some i)
  (h:BV P e b sl f d xs K w.heap):Wv P (Builtin.append_ #[t,u] ty #[.slice b sl f,x]) K w:=by
 obtain⟨i,k⟩:=k;have j:aO P e=i.size:=by simp[aO,k]
 have H:jQ P e=i.bytes:=by simp[jQ,k]
 by_cases hc:sl+d≤f
 ·obtain⟨N,M,C⟩:=h.1 hc
  refine⟨_,_,?_,cz w (cY w.heap b (sl*aO P e) xs),C⟩;cases b with
  |none=>
   have c:=hx w rfl;rw[j]at c;rcases m with⟨A,hd⟩|hd<;>(simp[Builtin.append_,af (bP F),af hd,sizeOf,bj k,g,hc,c];rfl)
  |some a=>
   have s:=sH (P:=P) M N;have c:=hx w rfl;rw[j]at s c;rcases m with⟨A,hd⟩|hd<;>(simp[Builtin.append_,af (bP F),af hd,sizeOf,bj k,g,hc,c,s,cY,j])
 ·obtain⟨q,z,J,hz,I,D,C⟩:=h.2 (by omega)
  obtain⟨v,hv,E⟩:=fj hz;obtain⟨O,n,L⟩:=j5 hv;rw[k]at n;cases n;rw[H]at I D;have y:¬i.bytes=0:=by omega
  have o:¬(281474976710656<Builtin.nextslicecap (sl+d) f*i.bytes):=by omega
  have c:=hx w.drew rfl;have p:(Builtin.firstCells (aO P e) sl (.slice b sl f)).run P w.drew=.ok q.toArray w.drew:=nK J;rw[j]at c p;have G:sl+d≤(Question.appendCap (sl+d) f e).cut (w.tape w.drawn (.appendCap (sl+d) f e)):=Nat.le_add_right _ _;refine⟨_,fl w.drew (hnew w.heap (q++xs++cd ((Question.appendCap (sl+d) f e).cut (w.tape w.drawn (.appendCap (sl+d) f e))-(sl+d)) z) e),?_,⟨rfl,rfl,rfl⟩,C _ G⟩
  have B:(Builtin.zeroCells v.cells ((Question.appendCap (sl+d) f e).cut (w.tape w.drawn (.appendCap (sl+d) f e))-(sl+d)))=(cd ((Question.appendCap (sl+d) f e).cut (w.tape w.drawn (.appendCap (sl+d) f e))-(sl+d)) z).toArray:=by
   apply bv;rw[eY,E]
  rcases m with⟨A,hd⟩|hd<;>(simp[Builtin.append_,af (bP F),af hd,sizeOf,bj k,g,hc,y,o,Question.forced,c,p,cC hv,fw,B,bN];rfl)
theorem tc{t:TypeId}{K:Prop}(h:A7 P t K):∃i,P.info? t=some i:=by
 unfold A7 at h;cases hi:P.info? t with
 |none=>rw[hi]at h;exact h.elim
 |some i=>exact⟨i,rfl⟩
theorem pE{t:TypeId}(h:aO P t≠0):∃i,P.info? t=some i:=by
 cases hi:P.info? t with
 |none=>exact absurd (by simp[aO,hi]) h
 |some i=>exact⟨i,rfl⟩
theorem rt{size n:Nat}{x:ByteArray}{w:World}:(Builtin.firstCells size n (.string x)).run P w=.ok ((cN x).take n).toArray w:=by
 simp only[Builtin.firstCells,Sem.run_pure];congr 1
 apply bv;simp[cN,iV,du,←List.map_take]
theorem od{t u ty:TypeId}{s x:Value}{K:WK}{w:World}(c:(∃e',P.underlying u=some (.slice e'))∨P.underlying u=some .string)(h:rU P t s x K w.heap):
  Wv P (Builtin.append_ #[t,u] ty #[s,x]) K w:=by
 unfold rU at h;split at h
 ·rename_i e b sl sc a xl xc ht
  have g:=tc h;obtain⟨⟨xs,d,f⟩,hz⟩:=jc h;exact tH ht c (fun w=>rfl) (fun w' i=>nK (by rw[i];exact d)) g f
 ·rename_i e b sl sc x ht
  cases hb:aI (aO P e) 1 with
  |false=>rw[hb]at h;exact h.elim
  |true=>
   rw[hb]at h;have k:=au hb;have j:(cN x).length=x.size:=by simp[cN]
   refine tH ht c (fun w=>rfl) (fun w' _=>?_) (pE (by omega)) h
   rw[rt,aV (by omega)]
 ·exact h.elim
theorem ql{n:Int}(b:0≤n)(a:n≤9223372036854775807):IntKind.i64.wrap n=n:=IntWalk.i64_in n ⟨by omega,a⟩
theorem yB{t e u ty:TypeId}{b:Option Addr}{sl d:Nat}{k0 k:IntKind}{l:Int}{z:List Value}{K:WK}{w:World}(A:mN P t=some e)(y:P.underlying u=some (.int k0))
  (hz:jL P e=some z)(M:z.length=aO P e)(V:0≤l)(Q:l*jQ P e≤2^48)(U:l≤9223372036854775807)(Z:((sl+l.toNat:Nat):Int)≤9223372036854775807)
  (h:BV P e b sl d l.toNat (cd l.toNat z) K w.heap):Wv P (Builtin.append_ #[t,u] ty #[.slice b sl d,.int k l]) K w:=by
 obtain⟨v,hv,E⟩:=fj hz;obtain⟨i,q,Y⟩:=j5 hv;have j:aO P e=i.size:=by simp[aO,q]
 have G:jQ P e=i.bytes:=by simp[jQ,q]
 have B:IntKind.wrap .i64 l=l:=ql V U;have g:¬l<0:=by omega
 rw[G]at Q;have f:¬(281474976710656:Int)<l*i.bytes:=by omega
 have c:∀w':World,(asInt (.int k l)).run P w'=.ok l w':=fun w'=>rfl
 have I:(Builtin.zeroCells v.cells l.toNat)=(cd l.toNat z).toArray:=by apply bv;rw[eY,E]
 have s:l.toNat*i.size=0→cd l.toNat z= []:=fun N=>by
  have D:(cd l.toNat z).length=l.toNat*i.size:=by rw[←j,←M];unfold cd;simp
  exact bp.1 (by rw[D,N])
 by_cases hc:sl+l.toNat≤d
 ·obtain⟨S,Q,J⟩:=h.1 hc
  refine⟨_,_,?_,cz w (cY w.heap b (sl*aO P e) (cd l.toNat z)),J⟩;cases b with
  |none=>
   by_cases m:l.toNat*i.size=0
   ·simp[Builtin.append_,af (bP A),af y,sizeOf,bj q,c,B,g,f,hc,m];rfl
   ·simp[Builtin.append_,af (bP A),af y,sizeOf,bj q,c,B,g,f,hc,cC hv];rfl
  |some a=>
   have n:=sH (P:=P) Q S;rw[j]at n;by_cases m:l.toNat*i.size=0
   ·rw[s m]at n
    simp[Builtin.append_,af (bP A),af y,sizeOf,bj q,c,B,g,f,hc,n,cY,j,m,s m]
   ·simp[Builtin.append_,af (bP A),af y,sizeOf,bj q,c,B,g,f,hc,n,cY,j,m,cC hv,I]
 ·obtain⟨F,z',W,H,R,L,J⟩:=h.2 (by omega)
  rw[hz]at H;cases H;rw[G]at R L;have T:¬i.bytes=0:=by omega
  have o:¬(281474976710656<Builtin.nextslicecap (sl+l.toNat) d*i.bytes):=by omega
  have X:¬(9223372036854775807:Int)<((sl:Int)+(l.toNat:Int)):=by omega
  have p:¬(9223372036854775807:Int)<((sl:Int)+max l 0):=by omega
  have x:(Builtin.firstCells (aO P e) sl (.slice b sl d)).run P w.drew=.ok F.toArray w.drew:=nK W;rw[j]at x;have O:sl+l.toNat≤(Question.appendCap (sl+l.toNat) d e).cut (w.tape w.drawn (.appendCap (sl+l.toNat) d e)):=Nat.le_add_right _ _;refine⟨_,fl w.drew (hnew w.heap (F++cd l.toNat z++cd ((Question.appendCap (sl+l.toNat) d e).cut (w.tape w.drawn (.appendCap (sl+l.toNat) d e))-(sl+l.toNat)) z) e),?_,⟨rfl,rfl,rfl⟩,J _ O⟩
  have C:(Builtin.zeroCells v.cells ((Question.appendCap (sl+l.toNat) d e).cut (w.tape w.drawn (.appendCap (sl+l.toNat) d e))-(sl+l.toNat)))=(cd ((Question.appendCap (sl+l.toNat) d e).cut (w.tape w.drawn (.appendCap (sl+l.toNat) d e))-(sl+l.toNat)) z).toArray:=by
   apply bv;rw[eY,E]
  by_cases m:l.toNat*i.size=0
  ·rw[s m]at J⊢
   simp[Builtin.append_,af (bP A),af y,sizeOf,bj q,c,B,g,f,hc,p,o,Question.forced,x,cC hv,fw,C,bN,m];rfl
  ·simp[Builtin.append_,af (bP A),af y,sizeOf,bj q,c,B,g,f,hc,p,o,Question.forced,x,cC hv,fw,C,bN,m,I];rfl
theorem ss{t u ty:TypeId}{k0:IntKind}{s x:Value}{K:WK}{w:World}(i:P.underlying u=some (.int k0))(h:su P t s x K w.heap):
  Wv P (Builtin.append_ #[t,u] ty #[s,x]) K w:=by
 unfold su at h;split at h
 ·rename_i e b sl sc k l ht
  split at h
  ·rename_i z hz
   cases hb:aI z.length (aO P e)with
   |false=>rw[hb]at h;exact h.elim
   |true=>
    rw[hb]at h;obtain⟨⟨a,g,c,d⟩,f⟩:=h;exact yB ht i hz (au hb) a g c d f
  ·exact h.elim
 ·exact h.elim
theorem iB:∀{a b:List Value},aY a=true→aY b=true→aY (a++b)=true
 | [],_,_,h=>h
 |v::a,b,h,k=>by
  simp only[aY,jr,aG]at h⊢;exact⟨h.1,iB h.2 k⟩
theorem pv{z:List Value}(h:aY z=true):∀n,aY (cd n z)=true
 |0=>rfl
 |n+1=>by
  have:cd (n+1) z=z++cd n z:=by simp[cd,List.replicate_succ]
  rw[this];exact iB h (pv h n)
theorem uW{t ty:TypeId}{x:Value}{K:WK}{w:World}(h:xo P t x K w.heap):Wv P (Builtin.clear_ #[t] ty #[x]) K w:=by
 unfold xo at h;split at h
 ·rename_i e a n c ht
  split at h
  ·rename_i z hz
   obtain⟨v,hv,f⟩:=fj hz;cases ho:aY z with
   |false=>rw[ho]at h;exact h.elim
   |true=>
    rw[ho]at h;obtain⟨i,g⟩:=h;refine⟨_,_,?_,cz w (cY w.heap a 0 (cd n z)),g⟩;cases a with
    |none=>simp[Builtin.clear_,af (bP ht)];rfl
    |some a=>
     cases n with
     |zero=>simp[Builtin.clear_,af (bP ht)];rfl
     |succ n=>
      have b:=sH (P:=P) (pv ho (n+1)) i;rw[←lP,tJ]at b;have d:(Builtin.zeroCells v.cells (n+1)).toList=cd (n+1) z:=by rw[eY,f]
      simp[Builtin.clear_,af (bP ht),cC hv,d,b,cY]
  ·exact h.elim
 ·exact h.elim
theorem pw:∀(xs:List Value) (n:Nat),aY xs=true→aY (xs.take n)=true
 | [],n,_=>by simp[aY]
 |x::xs,0,_=>by simp[aY]
 |x::xs,n+1,h=>by
  simp only[aY,aG,List.take_succ_cons]at h⊢;exact⟨h.1,pw xs n h.2⟩
theorem ud(x:ByteArray):aY (cN x)=true:=by
 have:∀l:List UInt8,aY (l.map fun b=>.int .u8 (b.toNat:Int))=true:=by
  intro l;induction l with
  |nil=>rfl
  |cons b l ih=>simp[aY,ih]
 exact this _
theorem vV{t u ty:TypeId}{d s:Value}{K:WK}{w:World}(h:AE P t d s K w.heap):Wv P (Builtin.copy_ #[t,u] ty #[d,s]) K w:=by
 unfold AE at h;split at h
 ·rename_i e b dl dc a sl sc ht
  obtain⟨⟨xs,k,n,o,j⟩,hz⟩:=jc h;refine⟨_,_,?_,cz w (cY w.heap b 0 xs),j⟩;have g:=nK (P:=P) (len:=sl) (cap:=sc) k;cases b with
  |none=>simp[Builtin.copy_,af (bP ht),Builtin.lenOf,hz,g,goInt];rfl
  |some c=>
   have f:=sH (P:=P) (m:=0) o n;simp only[Addr.add,if_pos]at f;simp[Builtin.copy_,af (bP ht),Builtin.lenOf,hz,g,goInt,f,cY]
 ·rename_i e b dl dc x ht
  cases hb:aI (aO P e) 1 with
  |false=>rw[hb]at h;exact h.elim
  |true=>
   rw[hb]at h;have o:=au hb;obtain⟨i,p⟩:=pE (P:=P) (t:=e) (by omega);have hz:(sizeOf e).run P w=.ok (aO P e) w:=by simp[sizeOf,bj p,aO,p]
   obtain⟨n,j⟩:=h;have v:(cN x).length=x.size:=by simp[cN]
   have q:(cN x).take (bU x.size dl)=(cN x).take dl:=by
    by_cases hx:x.size≤dl
    ·rw[show bU x.size dl=x.size from Nat.min_eq_left hx,aV (by omega),aV (by omega)]
    ·rw[show bU x.size dl=dl from Nat.min_eq_right (by omega)]
   have g:(Builtin.firstCells (aO P e) (bU x.size dl) (.string x)).run P w=.ok ((cN x).take dl).toArray w:=by
    rw[rt,q]
   refine⟨_,_,?_,cz w (cY w.heap b 0 ((cN x).take dl)),j⟩;cases b with
   |none=>simp[Builtin.copy_,af (bP ht),Builtin.lenOf,hz,g,goInt];rfl
   |some c=>
    have f:=sH (P:=P) (m:=0) (pw _ dl (ud x)) n;simp only[Addr.add,if_pos]at f;simp[Builtin.copy_,af (bP ht),Builtin.lenOf,hz,g,goInt,f,cY]
 ·exact h.elim
theorem y5(k v:Value)(a:Nat):∀(es:List MapEntry),(match es.findIdx? (fun e=>dI k e.key)with
  |some i=>(es.modify i (fun e=>{e with key:=k,val:=v}),a)
  |none=>(es++ [{key:=k,val:=v,born:=a}],a+1))=xQ k v a es
 | []=>rfl
 |e::es=>by
  have b:=y5 k v a es;simp only[xQ,List.findIdx?_cons];cases hk:dI k e.key with
  |true=>simp[List.modify]
  |false=>
   simp only[cS,if_false];rw[←b];cases hf:es.findIdx? (fun e=>dI k e.key)with
   |none=>simp
   |some i=>simp[List.modify]
theorem nq{d:TypeDesc}{c:CK}(hd:iR d c)(x:c.den):∀(es:List MapEntry) (i:Nat),sZ c es→
  Instr.findNow d (c.enc x) es i=some (match es.findIdx? (fun e=>dI (c.enc x) e.key)with
   |some j=>(es[j]?).map fun e=>(i+j,e.val)
   |none=>none)
 | [],i,_=>rfl
 |e::es,i,h=>by
  obtain⟨y,f⟩:=h e (by simp);have b:=rg hd x y;rw[←f]at b;have g:=nq hd x es (i+1) fun k a=>h k (by simp[a])
  simp only[Instr.findNow,List.findIdx?_cons,b];cases hb:dI (c.enc x) e.key with
  |true=>simp
  |false=>
   simp only[cS,if_false];rw[g];cases hf:es.findIdx? (fun e=>dI (c.enc x) e.key)with
   |none=>simp
   |some j=>simp[Nat.add_assoc,Nat.add_comm 1 j]
theorem rN{a b:ByteArray}(h:(a==b)=true):a=b:=by
 cases a with|mk a=>cases b with|mk b=>
 have h:(a==b)=true:=h;rw[eq_of_beq h]
theorem tE(a:ByteArray):(a==a)=true:=by
 cases a with|mk a=>
 exact beq_self_eq_true a
theorem u0{d:TypeDesc}{c:CK}(hd:iR d c)(x y:c.den)(h:dI (c.enc x) (c.enc y)=true):Instr.sameBits 10000 (c.enc y) (c.enc x)=true:=by
 rcases hd with⟨i,rfl,rfl⟩|⟨rfl,rfl⟩|⟨rfl,rfl⟩
 ·have h:x=y:=eq_of_beq (α:=Int) h
  subst h;have:∀n:Int,(i==i&&n==n)=true:=fun n=>by simp
  exact this x
 ·have h:x=y:=rN h
  subst h;exact tE x
 ·have h:x=y:=eq_of_beq (α:=Bool) h
  subst h;exact beq_self_eq_true (α:=Bool) x
theorem mu{w:World}{r:Nat}{es:Array MapEntry}{a:Nat}{o:Obj}(h:w.heap[r]? =some (.map es a)):(setObj r o).run P w=.ok () (fl w (w.heap.setIfInBounds r o)):=by
 simp only[setObj,Sem.run,h];rfl
theorem xZ{t k e:TypeId}{d:TypeDesc}{c:CK}(C:P.underlying t=some (.map k e))(s:P.underlying k=some d)(hd:iR d c){r:Nat}{x:c.den}{v:Value}{w:World}(hm:zA c w.heap r):
  (Instr.mapUpdate t (.map (some r)) (c.enc x) v).run P w=.ok () (fl w (Cx w.heap r (c.enc x) v)):=by
 obtain⟨es,a,j,f⟩:=hm;obtain⟨q,B,b,D⟩:=mA (P:=P) hd s x f w;rw[nq hd x es.toList 0 f]at b;have g:=y5 (c.enc x) v a es.toList;have o:Cx w.heap r (c.enc x) v=w.heap.setIfInBounds r (.map (xQ (c.enc x) v a es.toList).1.toArray (xQ (c.enc x) v a es.toList).2):=by
  simp only[Cx,j]
 rw[o,←g];simp only[Instr.mapUpdate,Sem.run_bind,af C,Result.andThen_ok,gd j,gT hd s,B];cases hf:es.toList.findIdx? (fun e=>dI (c.enc x) e.key)with
 |none=>
  rw[hf]at b;simp only[aN.injEq]at b;subst b;simp only[mu j];congr 4
  apply bv;simp
 |some i=>
  rw[hf]at b;simp only[aN.injEq]at b;obtain⟨z,u,_⟩:=List.findIdx?_eq_some_iff_getElem.1 hf;have p:es.toList[i]? =some es.toList[i]:=aq z;rw[p]at b;simp only[g8,ar]at b;subst b;have m:es[i]? =some es.toList[i]:=by rw[←aA];exact p
  obtain⟨y,A⟩:=f es.toList[i] (List.getElem_mem z);have n:Instr.sameBits 10000 (es.toList[i]).key (c.enc x)=true:=by
   rw[A]at u⊢;exact u0 hd x y u
  simp only[m,g8,Option.getD_some,Instr.keyThatStays,n,if_true,Sem.run_bind,Sem.run_pure,Result.andThen_ok,mu j];congr 4
  apply bv;simp
theorem oc{t:TypeId}{m k v:Value}{K:WK}{w:World}(h:rT P t m k v K w.heap):Wu P (Instr.mapUpdate t m k v) K w:=by
 unfold rT at h;split at h
 ·rename_i c e m hc
  obtain⟨g,d,b,a,hd⟩:=nh hc;obtain⟨i,rfl,r,rfl,hm,f⟩:=CK.dec_sound h;exact⟨_,xZ b a hd hm,cz _ _,f⟩
 ·exact h.elim
theorem wY(k:Value):∀(es:List MapEntry),(match es.findIdx? (fun e=>dI k e.key)with
  |some i=>es.eraseIdx i
  |none=>es)=wZ k es
 | []=>rfl
 |e::es=>by
  have a:=wY k es;simp only[wZ,List.findIdx?_cons];cases hk:dI k e.key with
  |true=>simp
  |false=>
   simp only[cS,if_false];rw[←a];cases hf:es.findIdx? (fun e=>dI k e.key)<;>simp
theorem wG{t k e ty:TypeId}{ts:Array TypeId}{d:TypeDesc}{c:CK}(z:ts[0]? =some t) (y:P.underlying t=some (.map k e)) (p:P.underlying k=some d) (hd:iR d c) {r:Nat} {x:c.den} {w:World} (hm:zA c w.heap r):
  (Builtin.delete_ ts ty #[.map (some r),c.enc x]).run P w=.ok (.tuple #[]) (fl w (zg w.heap r (c.enc x))):=by
 obtain⟨es,g,m,j⟩:=hm;obtain⟨q,v,a,A⟩:=mA (P:=P) hd p x j w;rw[nq hd x es.toList 0 j]at a;have f:=wY (c.enc x) es.toList;have o:zg w.heap r (c.enc x)=w.heap.setIfInBounds r (.map (wZ (c.enc x) es.toList).toArray g):=by
  simp only[zg,m]
 rw[o,←f];simp only[Builtin.delete_,z,List.getElem?_toArray,List.getElem?_cons_zero,List.getElem?_cons_succ,Sem.run_bind,af y,Result.andThen_ok,gd m,gT hd p,v];cases hf:es.toList.findIdx? (fun e=>dI (c.enc x) e.key)with
 |none=>
  rw[hf]at a;simp only[aN.injEq]at a;subst a;simp[mu m]
 |some i=>
  rw[hf]at a;simp only[aN.injEq]at a;obtain⟨s,B,_⟩:=List.findIdx?_eq_some_iff_getElem.1 hf;have u:es.toList[i]? =some es.toList[i]:=aq s;rw[u]at a;simp only[g8,ar]at a;subst a;have n:i<es.size:=by simpa using s
  have b:es.eraseIdxIfInBounds i=(es.toList.eraseIdx i).toArray:=by
   apply bv;simp[Array.eraseIdxIfInBounds,n]
  simp[mu m,b]
theorem sq{t ty:TypeId}{ts:Array TypeId}{m k:Value}{K:WK}{w:World}(g:ts[0]? =some t) (h:sr P t m k K w.heap):Wv P (Builtin.delete_ ts ty #[m,k]) K w:=by
 unfold sr at h;split at h
 ·rename_i c e m hc
  obtain⟨i,d,f,b,hd⟩:=nh hc;obtain⟨j,rfl,h⟩:=CK.dec_sound h;rcases h with⟨rfl,a⟩|⟨r,rfl,hm,a⟩
  ·refine⟨_,w,?_,Tame.refl w,a⟩
   simp[Builtin.delete_,g,af f,gT hd b]
  ·exact⟨_,_,wG g f b hd hm,cz _ _,a⟩
 ·exact h.elim
theorem zR{t k e:TypeId}(b:P.underlying t=some (.map k e)){m:Option Nat}{a:Nat}{w:World}(hm:m=none∧a=0∨∃r es,m=some r∧w.heap[r]? =some (.map es a)):
  (Instr.range t (.map m)).run P w=.ok (.pointer (some (bN w.heap))) (fl w (w.heap.push (.mapIter m a #[] a))):=by
 rcases hm with⟨rfl,rfl⟩|⟨r,es,rfl,c⟩
 ·simp only[Instr.range,Sem.run_bind,af b,Result.andThen_ok,Sem.run_pure,sM,bN]
 ·simp only[Instr.range,Sem.run_bind,af b,Result.andThen_ok,Sem.run_pure,gd c,sM,bN]
theorem m8{w:World}{i:Nat}{m:Option Nat}{a:Nat}{b:Array Nat}{c:Nat}(h:w.heap[i]? =some (.mapIter m a b c)):(getObj i).run P w=.ok (.mapIter m a b c) w:=by
 simp only[getObj,Sem.run,h]
theorem wg{w:World}{i:Nat}{m:Option Nat}{a:Nat}{b:Array Nat}{c:Nat}{o:Obj}(h:w.heap[i]? =some (.mapIter m a b c)):(setObj i o).run P w=.ok () (fl w (w.heap.setIfInBounds i o)):=by
 simp only[setObj,Sem.run,h];rfl
theorem tB(n:Nat)(a:0<n)(w:World):∃k w',k<n∧(choose (.mapNext n)).run P w=.ok k w'∧Tame w w'∧w'.heap=w.heap:=by
 unfold choose;simp only[Sem.run];by_cases h:(Question.mapNext n).forced=true
 ·exact⟨0,w,a,by rw[if_pos h],Tame.refl w,rfl⟩
 ·refine⟨(Question.mapNext n).cut (w.tape w.drawn (.mapNext n)),{w with drawn:=w.drawn+1},Nat.mod_lt _ a,by rw[if_neg h],⟨rfl,rfl,rfl⟩,rfl⟩
theorem vU{O:Value}{t:TypeId}{K:WK}{w:World}(h:AD O K w.heap):Wv P (Instr.next O false t) K w:=by
 unfold AD at h;split at h
 ·rename_i a
  obtain⟨N,m,n,g,s,F,h⟩:=h;obtain⟨b,off,R⟩:=a;simp only at N F h;subst N;rcases h with⟨rfl,U⟩|⟨r,es,z,rfl,M,C,D,L⟩
  ·exact⟨_,w,by simp only[Instr.next,Sem.run_bind,m8 F,Result.andThen_ok,Sem.run_pure],Tame.refl w,U⟩
  ·have v:(!g.isEmpty&& !es.isEmpty&&es.all (fun e=>decide (e.born≥s)))=false:=by
    rcases C with h|h|h<;>simp[h]
   obtain⟨left,j⟩:∃left,left=es.filter fun e=> !g.contains e.born:=⟨_,rfl⟩
   obtain⟨i,q⟩:∃i,i=left.filter (·.born<n):=⟨_,rfl⟩
   obtain⟨new,hnew⟩:∃new,new=left.filter (·.born≥n):=⟨_,rfl⟩
   obtain⟨d,f⟩:∃d:Array (Option MapEntry),d=(if i.isEmpty then #[none]else #[])++(i++new).map some:=⟨_,rfl⟩
   have E:0<d.size:=by
    rw[f];by_cases A:i.isEmpty=true
    ·simp[A];omega
    ·have:i.size≠0:=by simpa using A
     simp[A];omega
   obtain⟨k,G,T,y,Q,J⟩:=tB (P:=P) d.size E w;obtain⟨c,hc⟩:∃c,d[k]? =some c:=⟨d[k],Array.getElem?_eq_getElem T⟩;have I:G.heap[b]? =some (.mapIter (some r) n g s):=by rw[J];exact F
   have p:(!g.isEmpty&& !es.isEmpty&&es.all fun x=>decide (x.born≥s))=false:=v
   cases c with
   |none=>
    refine⟨.tuple #[.bool false],G,?_,Q,?_⟩
    ·simp only[Instr.next,Sem.run_bind,m8 F,Result.andThen_ok,Sem.run_pure,gd M,p,cS,if_false,←j,←q,←hnew,←f,y,hc]
    ·rw[J]
     have u:i.isEmpty=true:=by
      have hm:none∈d:=Array.mem_of_getElem? hc;rw[f]at hm;by_cases A:i.isEmpty=true
      ·exact A
      ·simp[A]at hm
     refine D fun e S H=>?_
     cases hs:g.contains e.born with
     |true=>rfl
     |false=>
      have o:e∈i:=by
       rw[q,j];simp only[js];exact⟨⟨by simpa using S,by rw[hs];rfl⟩,by simpa using H⟩
      rw[Array.isEmpty_iff]at u;rw[u]at o;simp at o
   |some e=>
    have o:e∈es∧g.contains e.born=false:=by
     have hm:some e∈d:=Array.mem_of_getElem? hc;have B:e∈left:=by
      rw[f]at hm;rw[Array.mem_append]at hm;rcases hm with hm|hm
      ·split at hm<;>simp at hm
      ·simp only[Array.mem_map,aN.injEq,exists_eq_right,Array.mem_append]at hm
       rcases hm with hm|hm
       ·rw[q]at hm;exact(js.1 hm).1
       ·rw[hnew]at hm;exact(js.1 hm).1
     rw[j]at B;have:=js.1 B;exact⟨this.1,by simpa using this.2⟩
    refine⟨.tuple #[.bool true,e.key,e.val],fl G (G.heap.setIfInBounds b (.mapIter (some r) n (g.push e.born) z)),?_,Q.trans (cz _ _),?_⟩
    ·simp only[Instr.next,Sem.run_bind,m8 F,Result.andThen_ok,Sem.run_pure,gd M,p,cS,if_false,←j,←q,←hnew,←f,y,hc,wg I]
    ·rw[J]
     exact L e (by simpa using o.1) o.2
 ·exact h.elim
theorem ue{t e:TypeId}{z:List Value}{k k':IntKind}{l c:Int}{w:World}(y:mN P t=some e)(hz:jL P e=some z)(d:z.length=aO P e)(C:0≤l)(F:l≤c)(B:c≤9223372036854775807)(D:jQ P e*c≤2^48):
  (Instr.makeSlice t (.int k l) (.int k' c)).run P w=.ok (.slice (some (bN w.heap)) l.toNat c.toNat) (fl w (hnew w.heap (cd c.toNat z) e)):=by
 obtain⟨v,hv,f⟩:=fj hz;obtain⟨i,m,E⟩:=j5 hv;have g:aO P e=i.size:=by simp[aO,m]
 have p:jQ P e=i.bytes:=by simp[jQ,m]
 have o:v.cells.size=i.size:=by rw[←g,←d,←f];simp
 have x:=ql C (by omega);have hc:=ql (show 0≤c by omega) B
 rw[p]at D;have u:¬(c<0):=by omega
 have A:¬(281474976710656<(i.bytes:Int)*c):=by omega
 have s:¬(l<0):=by omega
 have q:¬(c<l):=by omega
 by_cases a:c.toNat*i.size=0
 ·have n:(cd c.toNat z).length=0:=by simp[cd,d,g,a]
  rw[bp.1 n];simp[Instr.makeSlice,af (bP y),asInt,asIntOf,bj m,x,hc,u,A,s,q,sizeOf,a,fw]
 ·have b:((Array.range (c.toNat*i.size)).map (fun j=>v.cells[j%v.cells.size]!))=(cd c.toNat z).toArray:=by
   rw[←o,yR,f]
  have key:(newRow e ((Array.range (c.toNat*i.size)).map (fun j=>v.cells[j%v.cells.size]!))).run P w=.ok (bN w.heap) (fl w (hnew w.heap (cd c.toNat z) e)):=by
   rw[b,fw]
  simp[Instr.makeSlice,af (bP y),asInt,asIntOf,bj m,x,hc,u,A,s,q,sizeOf,a,cC hv];rw[key];rfl
theorem Agree.args{N:Nat}{r:be}{a:Act}(h:Agree N r a){os:Array Operand}{vs:List Value}(hv:hG r os.toList=some vs):os.map a.eval=vs.toArray:=by
 rw[←gq h hv];apply bv;simp
theorem HC.out{f:FuncId}{args:List Value}{ks:List Kind}{K:WK}{w:World}(h:HC P f args ks (fun x h'=>K (rE ks (gK ks x)) h') w.heap):w9 P (callFunc f args.toArray) K w:=by
 rcases h.run w rfl with⟨b,d⟩|⟨v,w',b,c,x,rfl,a⟩
 ·refine .inr (.inr (.inl ⟨f,args.toArray,b,d.mono ?_⟩))
  rintro e w' ⟨c,x,rfl,a⟩;exact⟨c,_,rfl,a⟩
 ·exact .inl ⟨_,w',b,c,a⟩
theorem An{b a e:TypeId}{s:ByteArray}{w:World}(m:P.underlying b=some .string)(hd:P.underlying a=some (.slice e))(j:P.underlying e=some (.int .u8)):
  ∃c,s.size≤c∧(convert b a (.string s)).run P w=.ok (.slice (some (bN w.heap)) s.size c) (fl w.drew (w.heap.push (.cells (cN s++eu (c-s.size) (Value.int .u8 0)).toArray e (c,c+1)))):=by
 have d:s.size≤grownCap w s.size 0 e:=Nat.le_add_right _ _;refine⟨_,d,?_⟩;rw[Go.Lib.run_convert_string_bytes w b a e s m hd j];have hc:(Go.Lib.bytesCells w e s).size=grownCap w s.size 0 e:=by
  unfold Go.Lib.bytesCells;rw[Array.size_append,Array.size_map,Array.size_replicate,show s.data.size=s.size from rfl]
  omega
 have f:(cN s++eu (grownCap w s.size 0 e-s.size) (Value.int .u8 0)).toArray=Go.Lib.bytesCells w e s:=by
  unfold Go.Lib.bytesCells cN;apply bv;simp
 rw[f];unfold Go.Lib.bytesWorld World.freeze;rw[if_neg (by omega),hc];unfold World.alloc World.drew fl;congr 1
 congr 1
 apply Array.ext (by simp);intro i n k;rw[Array.getElem_modify];simp only[Array.getElem_push];split
 ·rename_i e
  subst e;simp
 ·rename_i e
  have g:i<w.heap.size:=by simp at k;omega
  rw[dif_pos g,dif_pos g]
theorem qn{o:Oper}{r:be}{K:WK}{w:World}{N:Nat}{a:Act}(D:Agree N r a)(j:tX P o r K w.heap):w9 P (execOp a.eval o) K w:=by
 have A:∀{x:Operand} {v:Value},bI r x=some v→a.eval x=v:=fun h=>fp D h
 obtain⟨O,W,type,mZ,H,F⟩:=o;cases W with
 |alloc t=>
  simp only[tX]at j;split at j
  ·rename_i z hz
   obtain⟨v,hv,S⟩:=fj hz;have C:(Instr.alloc t true (.tuple #[])).run P w=.ok (.pointer (some (bN w.heap))) (fl w (hnew w.heap z t)):=by
    simp[Instr.alloc,cC hv,newVar,fw,S]
   exact Wv.out ⟨_,_,C,cz _ _,j⟩
  ·exact j.elim
 |box t x=>
  simp only[tX]at j;split at j
  ·rename_i v hv
   have C:(Instr.box t v).run P w=.ok (.pointer (some (bN w.heap))) (fl w (hnew w.heap v.cells.toList t)):=by
    simp[Instr.box,newVar,fw]
   simp only[execOp,A hv];exact Wv.out ⟨_,_,C,cz _ _,j⟩
  ·exact j.elim
 |build t ps=>
  simp only[tX]at j;split at j
  ·rename_i vs p
   split at j
   ·rename_i cs hcs
    have T:(ps.map fun x=>(x.1,a.eval x.2))=vs.toArray:=by
     rw[←iA D p];apply bv;simp
    have C:=pQ (ps:=vs.toArray) (by simpa using hcs) w;simp only[execOp];rw[show(ps.map fun(i,x)=>(i,a.eval x))=vs.toArray from T]
    exact Wv.out ⟨_,w,C,Tame.refl w,j⟩
   ·exact j.elim
  ·exact j.elim
 |buildSlice t n ps=>
  simp only[tX]at j;split at j
  ·rename_i e vs G p
   split at j
   ·rename_i z hz
    cases hb:(nR (n*aO P e) 16777216&&aI z.length (aO P e))with
    |false=>rw[hb]at j;exact j.elim
    |true=>
     rw[hb]at j;simp only[aG]at hb;simp only[cond_true]at j;split at j
     ·rename_i cs hcs
      have T:(ps.map fun x=>(x.1,a.eval x.2))=vs.toArray:=by
       rw[←iA D p];apply bv;simp
      have C:=qH (ps:=vs.toArray) G hz (eC hb.1) (au hb.2) (by simpa using hcs) w;simp only[execOp];rw[show(ps.map fun(i,x)=>(i,a.eval x))=vs.toArray from T]
      exact Wv.out ⟨_,_,C,cz _ _,j⟩
     ·exact j.elim
   ·exact j.elim
  ·exact j.elim
 |store t x y=>
  simp only[tX]at j;split at j
  ·rename_i b v hb hv
   simp only[execOp,A hb,A hv];exact Wu.out (uV j)
  ·exact j.elim
 |mapUpdate t m k x=>
  simp only[tX]at j;split at j
  ·rename_i mv kv xv hm B hx
   simp only[execOp,A hm,A B,A hx];exact Wu.out (oc j)
  ·exact j.elim
 |insert t m k x=>
  simp only[tX]at j;split at j
  ·rename_i mv kv xv hm B hx
   simp only[execOp,A hm,A B,A hx];exact Wu.out (oc j)
  ·exact j.elim
 |makeMap t n=>
  simp only[tX]at j;cases n with
  |none=>exact Wv.out ⟨_,fl w (w.heap.push (.map #[] 0)),by simp[Instr.makeMap];rfl,cz _ _,j⟩
  |some n=>
   simp only at j;split at j
   ·rename_i k i hn G
    exact Wv.out ⟨_,fl w (w.heap.push (.map #[] 0)),by simp[Instr.makeMap,A hn,af G,asInt,asIntOf];rfl,cz _ _,j⟩
   ·exact j.elim
 |makeSlice t l c=>
  simp only[tX]at j;split at j
  ·rename_i e k l' k' c' G U hc
   split at j
   ·rename_i z hz
    cases hb:aI z.length (aO P e)with
    |false=>rw[hb]at j;exact j.elim
    |true=>
     rw[hb]at j;obtain⟨⟨X,V,L,Y⟩,j⟩:=j;simp only[execOp,A U,A hc];exact Wv.out ⟨_,_,ue G hz (au hb) X V L Y,cz _ _,j⟩
   ·exact j.elim
  ·exact j.elim
 |convert s d x=>
  simp only[tX]at j;split at j
  ·rename_i e v M hd hx
   cases hu:ye P e with
   |false=>rw[hu]at j;exact j.elim
   |true=>
    rw[hu]at j;obtain⟨c,hc,J⟩:=An (w:=w) (s:=v) M hd (s9 hu);simp only[execOp,A hx];exact Wv.out ⟨_,_,J,⟨rfl,rfl,rfl⟩,j c hc⟩
  ·exact j.elim
 |range t x=>
  simp only[tX]at j;split at j
  ·rename_i k e m hu hx
   obtain⟨R,hm,j⟩:=j;simp only[execOp,A hx];exact Wv.out ⟨_,_,zR hu hm,cz _ _,j⟩
  ·exact j.elim
 |next it isS=>
  cases isS with
  |true=>simp only[tX]at j
  |false=>
   simp only[tX]at j;split at j
   ·rename_i v hv
    simp only[execOp,A hv];exact Wv.out (vU j)
   ·exact j.elim
 |call c=>
  simp only[tX]at j;have eb:∀{b:Builtin} {vs:List Value},c.callee=.builtin b→hG r c.args.toList=some vs→∃cs:Array Bool,∀w,(execOp a.eval ⟨O,.call c,type,mZ,H,F⟩).run P w=
    (builtin b c.argTypes type cs vs.toArray).run P w:=by
   intro b vs hc p;refine⟨c.args.map fun| .const _=>true|_=>false,fun w=>?_⟩
   simp[execOp,resolve,hc,D.args p,invoke];rfl
  have I:∀{s s':Sem Next},(∀w,s.run P w=s'.run P w)→w9 P s' K w→w9 P s K w:=by
   intro s s' C h;unfold w9 at h⊢;simp only[C];exact h
  split at j
  ·rename_i s x hc p
   split at j
   ·rename_i t u hat
    obtain⟨cs,E⟩:=eb hc p;refine I E ?_;have q:c.argTypes= #[t,u]:=by apply bv;rw[hat]
    simp only[builtin,q];split at j
    ·rename_i e' hu;exact Wv.out (od (.inl ⟨e',hu⟩) j)
    ·rename_i hu;exact Wv.out (od (.inr hu) j)
    ·rename_i k0 hu;exact Wv.out (ss hu j)
    ·exact j.elim
   ·exact j.elim
  ·rename_i x hc p
   split at j
   ·rename_i t hat
    obtain⟨cs,E⟩:=eb hc p;refine I E ?_;have q:c.argTypes= #[t]:=by apply bv;rw[hat]
    simp only[builtin,q];exact Wv.out (uW j)
   ·exact j.elim
  ·rename_i s x hc p
   split at j
   ·rename_i t u hat
    obtain⟨cs,E⟩:=eb hc p;refine I E ?_;have q:c.argTypes= #[t,u]:=by apply bv;rw[hat]
    simp only[builtin,q];exact Wv.out (vV j)
   ·exact j.elim
  ·rename_i m k hc p
   split at j
   ·rename_i t u hat
    obtain⟨cs,E⟩:=eb hc p;refine I E ?_;simp only[builtin];exact Wv.out (sq (by rw[←aA,hat];rfl) j)
   ·exact j.elim
  ·rename_i f args hc p
   unfold CQ at j;split at j
   ·exact j.elim
   ·rename_i ks hks
    split at j
    ·rename_i f
     refine I (s':=callFunc f args.toArray) (fun w=>?_) j.out
     simp[execOp,resolve,hc,D.args p,Act.eval,Deferred.ofValue,invoke]
    ·rename_i f hf
     split at j
     ·rename_i fv hfv
      rcases j.run with⟨g,first,cap,rfl,Q⟩|⟨l,rfl,Q⟩
      rotate_left
      ·obtain⟨fn,tmps,assign,body,V,L⟩:=Q.run w rfl
       refine .inr (.inr (.inr ⟨l,fn,tmps,assign,body,?_,fun c cs=>?_⟩))
       ·rw[←V]
        simp[execOp,resolve,hc,D.args p,A hfv,Deferred.ofValue,invoke]
       ·obtain⟨b,w',G,B,M⟩:=L c cs
        refine⟨b,w',G,?_,M⟩;obtain⟨t,e,B⟩:=kA B;have U:ks.length=1:=by rw[←li ks t,←e];rfl
        match ks,U,t,e,B with
        | [k],_,t,e,B=>rw[←e]at B;exact B
      refine I (s':=callFunc g (first.toList++args++cap.toList).toArray) (fun w=>?_) Q.out
      have e:first++args.toArray++cap=(first.toList++args++cap.toList).toArray:=by apply bv;simp
      rw[←e];simp[execOp,resolve,hc,D.args p,A hfv,Deferred.ofValue,invoke]
     ·exact j.elim
  ·exact j.elim
 |_=>simp only[tX]at j
end Go.Lift
