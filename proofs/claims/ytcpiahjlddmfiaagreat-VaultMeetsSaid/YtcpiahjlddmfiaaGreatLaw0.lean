/- A part of the proof that the named laws of this program answer true, whatever the input. -/
import Derived.Test.YtcpiahjlddmfiaaGreatLift3
import Derived.ProofKit
import Derived.SizedLaws
open Array renaming getElem?_toList→aW
open List renaming getElem?_eq_some_iff→bf,getElem?_eq_getElem→aj,mem_cons_self→au,mem_append_left→bU,length_cons→ao,append_nil→aX
open Nat renaming le_refl→al,mul_comm→wG
namespace Go.Lift
open Go Go.ChangeShapes Go.WideShapes Go.ChangeAt Go.RowKit
section
variable {H:Type} {enc:TypeId×Value→H} {P:Program} {w:World} {base:Nat} {sp:Nat→Bool} {held:Bool}
theorem NM(a:Addr)(n:Nat):a.add n=adr a n:=by
 cases n with
 |zero=>rfl
 |succ n=>simp[Addr.add,adr]
theorem OK{a:Addr}{n:Nat}{cs:List Value}(h:w.cells? base a n=some cs):cs.length=n∧∀j v,cs[j]? =some v→aI w.heap (adr a j)=some v:=by
 obtain⟨_,b,hc⟩:=World.cells?_some h;refine⟨b,fun j v c=>?_⟩
 have d:j<n:=by rw[←b];exact(bf.1 c).1
 have:=hc j d;rw[NM,c]at this;exact this
theorem Rn{d:Nat}{t e:TypeId}{cs:List Value}{x:DataW H×List MemPlace}(S:P.underlying t=some (.slice e))(h:DataW.trod enc P w base sp held d t cs=some x)
  {α:Type}(f:α→List Value){b:Nat}(I:P.cellsOf e=b)(g:∀x,(f x).length=b∧0<b)(Q:α→Prop)
  (E:∀d (cells:List Value) y,cells.length=b→DataW.trod enc P w base sp held d e cells=some y→∃a,cells=f a∧Q a):
  ∃(s:SliceV) (xs:List α),cs= [.slice s.a s.len s.cap]∧s.len≤s.cap∧s.cap≤maxLen∧Sl f b No w.heap s xs∧∀a∈xs,Q a:=by
 rcases DataW.trod_slice S h with⟨T,_⟩|⟨a,len,cap,m,R,n,_,U,_,hb,X,hm,O,k,_⟩
 ·exact⟨⟨none,0,0⟩,[],T,al _,Nat.zero_le _,Sl.nil g,fun a D=>by cases D⟩
 ·have key:∀i,i<len→∃a',Q a'∧∀j v,(f a')[j]? =some v→aI w.heap (adr (adr a (i*b)) j)=some v:=fun i hi=>by
   have c:=k i hi;rw[I]at c;have:∃y,m[i]? =some y:=⟨_,aj (by omega)⟩;obtain⟨y,W⟩:=this;rw[W]at c;cases hc:w.cells? base (a.add (i*b)) b with
   |none=>rw[hc]at c;cases c
   |some cells=>
    rw[hc]at c;obtain⟨L,p⟩:=OK hc;obtain⟨a',K,q⟩:=E n cells y L c;subst K;rw[NM]at p;exact⟨a',q,p⟩
  have:∀n,n≤len→∃xs:List α,xs.length=n∧(∀a∈xs,Q a)∧∀i x,xs[i]? =some x→∀j v,(f x)[j]? =some v→aI w.heap (adr (adr a (i*b)) j)=some v:=by
   intro n;induction n with
   |zero=>exact fun _=>⟨[],rfl,(fun a D=>by cases D),fun i x hx=>by simp at hx⟩
   |succ n ih=>
    intro Z;obtain⟨xs,J,q,hx⟩:=ih (by omega);obtain⟨a',C,G⟩:=key n (by omega);refine⟨xs++ [a'],by simp[J],fun z o=>?_,fun i x hi=>?_⟩
    ·rcases List.mem_append.1 o with o|o
     ·exact q z o
     ·rw[List.mem_singleton.1 o];exact C
    ·by_cases Y:i<n
     ·rw[List.getElem?_append_left (by omega)]at hi
      exact hx i x hi
     ·rw[List.getElem?_append_right (by omega)]at hi
      have:i-xs.length=0:=by
       have:=(bf.1 hi).1;simp at this;omega
      rw[this]at hi;simp only[List.getElem?_cons_zero,Option.some.injEq]at hi;subst hi;have:i=n:=by omega
      subst this;exact G
  obtain⟨xs,F,q,hx⟩:=this len (al _);refine⟨⟨some a,len,cap⟩,xs,U,X,hm,⟨F.symm,g,fun _=>⟨a,rfl,id,fun i v B=>?_⟩⟩,q⟩
  obtain⟨A,o⟩:(∀x,(f x).length=b)∧0<b:=⟨fun x=>(g x).1,by
   cases xs with
   |nil=>simp at B
   |cons x _=>exact(g x).2⟩
  have hi:i<(xs.flatMap f).length:=(bf.1 B).1;rw[mh A]at hi;have u:i/b<xs.length:=Nat.div_lt_of_lt_mul (by rw[wG];exact hi);have V:i%b<b:=Nat.mod_lt _ o;have e:i=i/b*b+i%b:=by rw[wG];exact(Nat.div_add_mod i b).symm
  have N:=xA A xs (i/b) (i%b) xs[i/b] (aj u) V;rw[←e]at N;rw[N]at B;have:=hx (i/b) _ (aj u) (i%b) v B;rw[AY,←e]at this;exact this
theorem yJ{P:Program}(a:laidOutB P=true){W W':World}(c:Below W.heap.size W W'):∀{ts:List TypeId} {vs:List Value} {ds:List (DataW H)} {ps:List MemPlace},(∀t∈ts,P.readableRec t=true∧t<P.types.size)→
  DataW.TrodAll enc P W 0 (fun _=>true) true ts vs ds ps→(∀x∈ps,x.block<W.heap.size)→DataW.TrodAll enc P W' 0 (fun b=>decide (b<W.heap.size)) true ts vs ds ps
 | [],[],[],_,_,h,_=>h
 |t::ts,v::vs,d::ds,ps,hr,h,hlt=>by
  obtain⟨p,q,g,e,rfl⟩:=h;exact⟨p,q,Below.trod a (hr t (au ..)).1 (hr t (au ..)).2 g c fun x hx=>hlt x (bU _ hx),
   yJ a c (fun t f=>hr t (List.mem_cons_of_mem _ f)) e fun x hx=>hlt x (List.mem_append_right _ hx),rfl⟩
 | [],_::_,_,_,_,h,_=>h.elim
 | [],[],_::_,_,_,h,_=>h.elim
 |_::_,[],_,_,_,h,_=>h.elim
 |_::_,_::_,[],_,_,h,_=>h.elim
theorem CY:∀{ts:List TypeId} {vs:List Value} {ds:List (DataW H)} {ps:List MemPlace},DataW.TrodAll enc P w base sp held ts vs ds ps→ds.length=ts.length
 | [],[],[],_,_=>rfl
 |t::ts,v::vs,d::ds,ps,h=>by
  obtain⟨p,q,b,a,rfl⟩:=h;rw[ao,ao,CY a]
 | [],_::_,_,_,h=>h.elim
 | [],[],_::_,_,h=>h.elim
 |_::_,[],_,_,h=>h.elim
 |_::_,_::_,[],_,h=>h.elim
theorem ss{t:TypeId}{ts:List TypeId}{vs:List Value}{ds:List (DataW H)}{ps:List MemPlace}(h:DataW.TrodAll enc P w base sp held (t::ts) vs ds ps):
  ∃v vs' d ds' p q,vs=v::vs'∧ds=d::ds'∧DataW.Trod enc P w base sp held t v d p∧DataW.TrodAll enc P w base sp held ts vs' ds' q:=by
 cases vs with
 |nil=>exact h.elim
 |cons v vs=>cases ds with
  |nil=>exact h.elim
  |cons d ds=>
   obtain⟨p,q,b,a,_⟩:=h;exact⟨v,vs,d,ds,p,q,rfl,rfl,b,a⟩
theorem Pv{vs:List Value}{ds:List (DataW H)}{ps:List MemPlace}(h:DataW.TrodAll enc P w base sp held [] vs ds ps):vs= []:=by
 cases vs with
 |nil=>rfl
 |cons v vs=>exact h.elim
theorem law_lifted{C:Checked}{os:Os}{f:FuncId}{fn:Func}{s:ChangeSpec}{ts:List TypeId}{tb:TypeId}(A:fn.params.toList=ts)(n:fn.resultTypes.toList= [tb])(u:C.prog.underlying tb=some .bool)(U:s.vars= [])
  (o:∀(ds:List (DataW H)),ds.length=ts.length→(s.fn H ds).results= [.lit (.bool true)]∧(s.fn H ds).args=ds∧(s.fn H ds).vars= [])
  (own:ownKnob C.prog.godebug=none)(D:laidOutB C.prog=true)(z:∀t∈ts,C.prog.readableRec t=true∧t<C.prog.types.size)(a:os.Started)(g:C.prog.inits.idxOf? f=none)(N:C.prog.funcs[f]? =some fn)
  (c:∃(w:World) (tape:Tape) (i:Input),w.os=os∧(w.forCall tape i).Shaped C.prog∧i.vars= []∧Input.okWide C.prog (w.forCall tape i) .any w.heap.size f i∧
   s.pre6 enc C.prog fn [] false (w.forCall tape i).memory i.args∧({}:Assume).holds C.prog (lone (Frame.enter C.prog f i.args .normal) [] (w.forCall tape i)))
  (y:∀(args:Array Value) (w:World),(callFunc f args).run C.prog w=.ok (.enter f args) w)
  (hc:∀(W:World) (Q:Nat) (args:List Value) (ds:List (DataW H)) (p:List MemPlace),(∀(j:Nat) t v,ts[j]? =some t→args[j]? =some v→Value.okWide C.prog W .any Q t v)→DataW.TrodAll enc C.prog W 0 (fun _=>true) true ts args ds p→
   HC C.prog f args [.c .bool] (fun b h'=>b=true∧Upd No W.heap h') W.heap):
  ReturnsInHanded {} C os f .any (s.pre6 enc C.prog fn [] false) (s.post enc C.prog fn false true false false):=by
 refine returnsInHanded_of_change own a g N c ?_;intro W Q args ds gs G B T _ _;have F:=T;obtain⟨p,q,I,R,rfl,hfz,hnd⟩:=T;rw[A]at I;rw[U]at R;obtain⟨rfl,rfl⟩:=trodVars_none R;have E:ds.length=ts.length:=CY I;have O:∀x∈p,x.block<W.heap.size:=fun x hx=>F.lt x (bU _ hx)
 obtain⟨Z,X,L⟩:=o ds E;have hh:=hc W Q args.toList ds p (fun j t v m K=>B j t v (by rw[←aW,A];exact m) (by rw[←aW];exact K)) I
 rcases hh.run W rfl with⟨_,V⟩|⟨v,Y,S,_⟩
 ·have e:args.toList.toArray=args:=by simp
  rw[e]at V;refine V.mono ?_;rintro e Y ⟨m,t,rfl,hb,J⟩;have d:t=true:=hb;subst d;refine⟨.bool true,rfl,ds,[],p++ [],[],p,[],F,?_,?_,?_,?_,fun h=>by cases h⟩
  ·rw[n,aX,Z]
   have:fn.resultTypes.size=1:=by have:=congrArg List.length n;simpa using this
   rw[this];refine⟨[],[],⟨1,?_⟩,rfl,rfl⟩;simp[DataW.trod,u,Value.cells]
  ·rw[A,aX,X]
   exact yJ D ⟨m.os,m.tape,m.output,J.size,fun k P=>J.same k P id⟩ z I O
  ·rw[U,aX,L];rfl
  ·exact Below.frame ⟨m.os,m.tape,m.output,J.size,fun k P=>J.same k P id⟩ _
 ·rw[y]at S;cases S
end
end Go.Lift
