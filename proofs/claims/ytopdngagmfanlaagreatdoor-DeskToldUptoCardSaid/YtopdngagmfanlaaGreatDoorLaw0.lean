/- A part of the proof that the named laws of this program answer true, whatever the input. -/
import Derived.Test.YtopdngagmfanlaaGreatDoorLift3
import Derived.ProofKit
import Derived.SizedLaws
import Derived.LaidMore
import Derived.LaidHandle
import Derived.OpenShut
import Derived.Stop.Joined
open List renaming getElem?_eq_some_iff→aQ,getElem?_eq_getElem→ag,mem_cons_self→aU,length_cons→aG
open Nat renaming le_refl→ax,mul_comm→pm
namespace Go.Lift
open Go Go.ChangeShapes Go.WideShapes Go.ChangeAt Go.RowKit
section
variable {H:Type} {enc:TypeId×Value→H} {P:Program} {w:World} {base:Nat} {sp:Nat→Bool} {held:Bool}
theorem Kr(a:Addr)(n:Nat):a.add n=adr a n:=by
 cases n with
 |zero=>rfl
 |succ n=>simp[Addr.add,adr]
theorem Ja{a:Addr}{n:Nat}{cs:List Value}(h:w.cells? base a n=some cs):cs.length=n∧∀j v,cs[j]? =some v→aC w.heap (adr a j)=some v:=by
 obtain⟨_,c,hc⟩:=World.cells?_some h;refine⟨c,fun j v b=>?_⟩
 have d:j<n:=by rw[←c];exact(aQ.1 b).1
 have:=hc j d;rw[Kr,b]at this;exact this
theorem EO{d:Nat}{t e:TypeId}{cs:List Value}{x:DataW H×List MemPlace}(T:P.underlying t=some (.slice e))(h:DataW.trod enc P w base sp held d t cs=some x)
  {α:Type}(f:α→List Value){b:Nat}(K:P.cellsOf e=b)(g:∀x,(f x).length=b∧0<b)(Q:α→Prop)
  (D:∀d (cells:List Value) y,cells.length=b→DataW.trod enc P w base sp held d e cells=some y→∃a,cells=f a∧Q a):
  ∃(s:SliceV) (xs:List α),cs= [.slice s.a s.len s.cap]∧s.len≤s.cap∧s.cap≤maxLen∧Sl f b No w.heap s xs∧∀a∈xs,Q a:=by
 rcases DataW.trod_slice T h with⟨S,_⟩|⟨a,len,cap,m,O,n,_,W,_,hb,U,hm,R,k,_⟩
 ·exact⟨⟨none,0,0⟩,[],S,ax _,Nat.zero_le _,Sl.nil g,fun a E=>by cases E⟩
 ·have key:∀i,i<len→∃a',Q a'∧∀j v,(f a')[j]? =some v→aC w.heap (adr (adr a (i*b)) j)=some v:=fun i hi=>by
   have c:=k i hi;rw[K]at c;have:∃y,m[i]? =some y:=⟨_,ag (by omega)⟩;obtain⟨y,V⟩:=this;rw[V]at c;cases hc:w.cells? base (a.add (i*b)) b with
   |none=>rw[hc]at c;cases c
   |some cells=>
    rw[hc]at c;obtain⟨C,A⟩:=Ja hc;obtain⟨a',J,u⟩:=D n cells y C c;subst J;rw[Kr]at A;exact⟨a',u,A⟩
  have:∀n,n≤len→∃xs:List α,xs.length=n∧(∀a∈xs,Q a)∧∀i x,xs[i]? =some x→∀j v,(f x)[j]? =some v→aC w.heap (adr (adr a (i*b)) j)=some v:=by
   intro n;induction n with
   |zero=>exact fun _=>⟨[],rfl,(fun a E=>by cases E),fun i x hx=>by simp at hx⟩
   |succ n ih=>
    intro Z;obtain⟨xs,F,u,hx⟩:=ih (by omega);obtain⟨a',L,G⟩:=key n (by omega);refine⟨xs++ [a'],by simp[F],fun z o=>?_,fun i x hi=>?_⟩
    ·rcases List.mem_append.1 o with o|o
     ·exact u z o
     ·rw[List.mem_singleton.1 o];exact L
    ·by_cases Y:i<n
     ·rw[List.getElem?_append_left (by omega)]at hi
      exact hx i x hi
     ·rw[List.getElem?_append_right (by omega)]at hi
      have:i-xs.length=0:=by
       have:=(aQ.1 hi).1;simp at this;omega
      rw[this]at hi;simp only[List.getElem?_cons_zero,Option.some.injEq]at hi;subst hi;have:i=n:=by omega
      subst this;exact G
  obtain⟨xs,I,u,hx⟩:=this len (ax _);refine⟨⟨some a,len,cap⟩,xs,W,U,hm,⟨I.symm,g,fun _=>⟨a,rfl,id,fun i v B=>?_⟩⟩,u⟩
  obtain⟨p,o⟩:(∀x,(f x).length=b)∧0<b:=⟨fun x=>(g x).1,by
   cases xs with
   |nil=>simp at B
   |cons x _=>exact(g x).2⟩
  have hi:i<(xs.flatMap f).length:=(aQ.1 B).1;rw[i7 p]at hi;have q:i/b<xs.length:=Nat.div_lt_of_lt_mul (by rw[pm];exact hi);have X:i%b<b:=Nat.mod_lt _ o;have e:i=i/b*b+i%b:=by rw[pm];exact(Nat.div_add_mod i b).symm
  have N:=tR p xs (i/b) (i%b) xs[i/b] (ag q) X;rw[←e]at N;rw[N]at B;have:=hx (i/b) _ (ag q) (i%b) v B;rw[yO,←e]at this;exact this
theorem zw{P:Program}(c:laidOutB P=true){W W':World}(a:Below W.heap.size W W'):∀{ts:List TypeId} {vs:List Value} {ds:List (DataW H)} {ps:List MemPlace},(∀t∈ts,P.readableRec t=true∧t<P.types.size)→
  DataW.TrodAll enc P W 0 (fun _=>true) true ts vs ds ps→(∀x∈ps,x.block<W.heap.size)→DataW.TrodAll enc P W' 0 (fun b=>decide (b<W.heap.size)) true ts vs ds ps
 | [],[],[],_,_,h,_=>h
 |t::ts,v::vs,d::ds,ps,hr,h,hlt=>by
  obtain⟨p,q,e,g,rfl⟩:=h;exact⟨p,q,Below.trod c (hr t (aU ..)).1 (hr t (aU ..)).2 e a fun x hx=>hlt x (List.mem_append_left _ hx),
   zw c a (fun t f=>hr t (List.mem_cons_of_mem _ f)) g fun x hx=>hlt x (List.mem_append_right _ hx),rfl⟩
 | [],_::_,_,_,_,h,_=>h.elim
 | [],[],_::_,_,_,h,_=>h.elim
 |_::_,[],_,_,_,h,_=>h.elim
 |_::_,_::_,[],_,_,h,_=>h.elim
theorem DE:∀{ts:List TypeId} {vs:List Value} {ds:List (DataW H)} {ps:List MemPlace},DataW.TrodAll enc P w base sp held ts vs ds ps→ds.length=ts.length
 | [],[],[],_,_=>rfl
 |t::ts,v::vs,d::ds,ps,h=>by
  obtain⟨p,q,b,a,rfl⟩:=h;rw[aG,aG,DE a]
 | [],_::_,_,_,h=>h.elim
 | [],[],_::_,_,h=>h.elim
 |_::_,[],_,_,h=>h.elim
 |_::_,_::_,[],_,h=>h.elim
theorem Ia{t:TypeId}{ts:List TypeId}{vs:List Value}{ds:List (DataW H)}{ps:List MemPlace}(h:DataW.TrodAll enc P w base sp held (t::ts) vs ds ps):
  ∃v vs' d ds' p q,vs=v::vs'∧ds=d::ds'∧DataW.Trod enc P w base sp held t v d p∧DataW.TrodAll enc P w base sp held ts vs' ds' q:=by
 cases vs with
 |nil=>exact h.elim
 |cons v vs=>cases ds with
  |nil=>exact h.elim
  |cons d ds=>
   obtain⟨p,q,a,b,_⟩:=h;exact⟨v,vs,d,ds,p,q,rfl,rfl,a,b⟩
theorem Ro{vs:List Value}{ds:List (DataW H)}{ps:List MemPlace}(h:DataW.TrodAll enc P w base sp held [] vs ds ps):vs= []:=by
 cases vs with
 |nil=>rfl
 |cons v vs=>exact h.elim
end
end Go.Lift
namespace Go.Lift
open Go Go.ChangeShapes Go.WideShapes Go.ChangeAt Go.RowKit
section
variable {H:Type} {enc:TypeId×Value→H}
end
end Go.Lift
