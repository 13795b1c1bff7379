/- A part of the proof that the named laws of this program answer true, whatever the input. -/
import Derived.Test.YtfmnhpbjeapjaaaGreatLift3
import Derived.ProofKit
import Derived.SizedLaws
open Array renaming getElem?_toList→aR
open List renaming getElem?_eq_some_iff→aV,getElem?_eq_getElem→ag,mem_cons_self→ay,mem_append_left→cO,length_cons→az,append_nil→bG
open Nat renaming le_refl→aq
namespace Go.Lift
open Go Go.ChangeShapes Go.WideShapes Go.ChangeAt Go.RowKit
section
variable {H:Type} {enc:TypeId×Value→H} {P:Program} {w:World} {base:Nat} {sp:Nat→Bool} {held:Bool}
theorem IM(a:Addr)(n:Nat):a.add n=adr a n:=by
 cases n with
 |zero=>rfl
 |succ n=>simp[Addr.add,adr]
theorem JG{a:Addr}{n:Nat}{cs:List Value}(h:w.cells? base a n=some cs):cs.length=n∧∀j v,cs[j]? =some v→aF w.heap (adr a j)=some v:=by
 obtain⟨_,c,hc⟩:=World.cells?_some h;refine⟨c,fun j v b=>?_⟩
 have d:j<n:=by rw[←c];exact(aV.1 b).1
 have:=hc j d;rw[IM,b]at this;exact this
theorem H8{d:Nat}{t e:TypeId}{cs:List Value}{x:DataW H×List MemPlace}(S:P.underlying t=some (.slice e))(h:DataW.trod enc P w base sp held d t cs=some x)
  {α:Type}(f:α→List Value){b:Nat}(I:P.cellsOf e=b)(g:∀x,(f x).length=b∧0<b)(Q:α→Prop)
  (D:∀d (cells:List Value) y,cells.length=b→DataW.trod enc P w base sp held d e cells=some y→∃a,cells=f a∧Q a):
  ∃(s:SliceV) (xs:List α),cs= [.slice s.a s.len s.cap]∧s.len≤s.cap∧s.cap≤maxLen∧Sl f b No w.heap s xs∧∀a∈xs,Q a:=by
 rcases DataW.trod_slice S h with⟨Y,_⟩|⟨a,len,cap,o,R,n,_,X,_,Z,W,hm,O,k,_⟩
 ·exact⟨⟨none,0,0⟩,[],Y,aq _,Nat.zero_le _,Sl.nil g,fun a C=>by cases C⟩
 ·have key:∀i,i<len→∃a',Q a'∧∀j v,(f a')[j]? =some v→aF w.heap (adr (adr a (i*b)) j)=some v:=fun i hi=>by
   have c:=k i hi;rw[I]at c;have:∃y,o[i]? =some y:=⟨_,ag (by omega)⟩;obtain⟨y,U⟩:=this;rw[U]at c;cases hc:w.cells? base (a.add (i*b)) b with
   |none=>rw[hc]at c;cases c
   |some cells=>
    rw[hc]at c;obtain⟨K,q⟩:=JG hc;obtain⟨a',L,p⟩:=D n cells y K c;subst L;rw[IM]at q;exact⟨a',p,q⟩
  have:∀n,n≤len→∃xs:List α,xs.length=n∧(∀a∈xs,Q a)∧∀i x,xs[i]? =some x→∀j v,(f x)[j]? =some v→aF w.heap (adr (adr a (i*b)) j)=some v:=by
   intro n;induction n with
   |zero=>exact fun _=>⟨[],rfl,(fun a C=>by cases C),fun i x hx=>by simp at hx⟩
   |succ n ih=>
    intro hn;obtain⟨xs,E,p,hx⟩:=ih (by omega);obtain⟨a',J,G⟩:=key n (by omega);refine⟨xs++ [a'],by simp[E],fun z m=>?_,fun i x hi=>?_⟩
    ·rcases List.mem_append.1 m with m|m
     ·exact p z m
     ·rw[List.mem_singleton.1 m];exact J
    ·by_cases V:i<n
     ·rw[List.getElem?_append_left (by omega)]at hi
      exact hx i x hi
     ·rw[List.getElem?_append_right (by omega)]at hi
      have:i-xs.length=0:=by
       have:=(aV.1 hi).1;simp at this;omega
      rw[this]at hi;simp only[List.getElem?_cons_zero,Option.some.injEq]at hi;subst hi;have:i=n:=by omega
      subst this;exact G
  obtain⟨xs,F,p,hx⟩:=this len (aq _);refine⟨⟨some a,len,cap⟩,xs,X,W,hm,⟨F.symm,g,fun _=>⟨a,rfl,id,fun i v B=>?_⟩⟩,p⟩
  obtain⟨u,m⟩:(∀x,(f x).length=b)∧0<b:=⟨fun x=>(g x).1,by
   cases xs with
   |nil=>simp at B
   |cons x _=>exact(g x).2⟩
  have hi:i<(xs.flatMap f).length:=(aV.1 B).1;rw[jL u]at hi;have A:i/b<xs.length:=Nat.div_lt_of_lt_mul (by rw[Nat.mul_comm];exact hi);have T:i%b<b:=Nat.mod_lt _ m;have e:i=i/b*b+i%b:=by rw[Nat.mul_comm];exact(Nat.div_add_mod i b).symm
  have N:=sR u xs (i/b) (i%b) xs[i/b] (ag A) T;rw[←e]at N;rw[N]at B;have:=hx (i/b) _ (ag A) (i%b) v B;rw[wU,←e]at this;exact this
theorem uv{P:Program}(c:laidOutB P=true){W W':World}(a:Below W.heap.size W W'):∀{ts:List TypeId} {vs:List Value} {ds:List (DataW H)} {ps:List MemPlace},(∀t∈ts,P.readableRec t=true∧t<P.types.size)→
  DataW.TrodAll enc P W 0 (fun _=>true) true ts vs ds ps→(∀x∈ps,x.block<W.heap.size)→DataW.TrodAll enc P W' 0 (fun b=>decide (b<W.heap.size)) true ts vs ds ps
 | [],[],[],_,_,h,_=>h
 |t::ts,v::vs,d::ds,ps,hr,h,hlt=>by
  obtain⟨p,q,e,g,rfl⟩:=h;exact⟨p,q,Below.trod c (hr t (ay ..)).1 (hr t (ay ..)).2 e a fun x hx=>hlt x (cO _ hx),
   uv c a (fun t f=>hr t (List.mem_cons_of_mem _ f)) g fun x hx=>hlt x (List.mem_append_right _ hx),rfl⟩
 | [],_::_,_,_,_,h,_=>h.elim
 | [],[],_::_,_,_,h,_=>h.elim
 |_::_,[],_,_,_,h,_=>h.elim
 |_::_,_::_,[],_,_,h,_=>h.elim
theorem yN:∀{ts:List TypeId} {vs:List Value} {ds:List (DataW H)} {ps:List MemPlace},DataW.TrodAll enc P w base sp held ts vs ds ps→ds.length=ts.length
 | [],[],[],_,_=>rfl
 |t::ts,v::vs,d::ds,ps,h=>by
  obtain⟨p,q,b,a,rfl⟩:=h;rw[az,az,yN a]
 | [],_::_,_,_,h=>h.elim
 | [],[],_::_,_,h=>h.elim
 |_::_,[],_,_,h=>h.elim
 |_::_,_::_,[],_,h=>h.elim
theorem tR{t:TypeId}{ts:List TypeId}{vs:List Value}{ds:List (DataW H)}{ps:List MemPlace}(h:DataW.TrodAll enc P w base sp held (t::ts) vs ds ps):
  ∃v vs' d ds' p q,vs=v::vs'∧ds=d::ds'∧DataW.Trod enc P w base sp held t v d p∧DataW.TrodAll enc P w base sp held ts vs' ds' q:=by
 cases vs with
 |nil=>exact h.elim
 |cons v vs=>cases ds with
  |nil=>exact h.elim
  |cons d ds=>
   obtain⟨p,q,b,a,_⟩:=h;exact⟨v,vs,d,ds,p,q,rfl,rfl,b,a⟩
theorem Ku{vs:List Value}{ds:List (DataW H)}{ps:List MemPlace}(h:DataW.TrodAll enc P w base sp held [] vs ds ps):vs= []:=by
 cases vs with
 |nil=>rfl
 |cons v vs=>exact h.elim
theorem law_lifted{C:Checked}{os:Os}{f:FuncId}{fn:Func}{s:ChangeSpec}{ts:List TypeId}{tb:TypeId}(u:fn.params.toList=ts)(n:fn.resultTypes.toList= [tb])(o:C.prog.underlying tb=some .bool)(T:s.vars= [])
  (y:∀(ds:List (DataW H)),ds.length=ts.length→(s.fn H ds).results= [.lit (.bool true)]∧(s.fn H ds).args=ds∧(s.fn H ds).vars= [])
  (own:ownKnob C.prog.godebug=none)(D:laidOutB C.prog=true)(z:∀t∈ts,C.prog.readableRec t=true∧t<C.prog.types.size)(c:os.Started)(d:C.prog.inits.idxOf? f=none)(Q:C.prog.funcs[f]? =some fn)
  (a:∃(w:World) (tape:Tape) (i:Input),w.os=os∧(w.forCall tape i).Shaped C.prog∧i.vars= []∧Input.okWide C.prog (w.forCall tape i) .any w.heap.size f i∧
   s.pre6 enc C.prog fn [] false (w.forCall tape i).memory i.args∧({}:Assume).holds C.prog (lone (Frame.enter C.prog f i.args .normal) [] (w.forCall tape i)))
  (A:∀(args:Array Value) (w:World),(callFunc f args).run C.prog w=.ok (.enter f args) w)
  (hc:∀(W:World) (N:Nat) (args:List Value) (ds:List (DataW H)) (p:List MemPlace),(∀(j:Nat) t v,ts[j]? =some t→args[j]? =some v→Value.okWide C.prog W .any N t v)→DataW.TrodAll enc C.prog W 0 (fun _=>true) true ts args ds p→
   HC C.prog f args [.c .bool] (fun b h'=>b=true∧Upd No W.heap h') W.heap):
  ReturnsInHanded {} C os f .any (s.pre6 enc C.prog fn [] false) (s.post enc C.prog fn false true false false):=by
 refine returnsInHanded_of_change own c d Q a ?_;intro W N args ds gs I B S _ _;have E:=S;obtain⟨p,q,J,R,rfl,hfz,hnd⟩:=S;rw[u]at J;rw[T]at R;obtain⟨rfl,rfl⟩:=trodVars_none R;have F:ds.length=ts.length:=yN J;have K:∀x∈p,x.block<W.heap.size:=fun x hx=>E.lt x (cO _ hx)
 obtain⟨Z,X,O⟩:=y ds F;have hh:=hc W N args.toList ds p (fun j t v m P=>B j t v (by rw[←aR,u];exact m) (by rw[←aR];exact P)) J
 rcases hh.run W rfl with⟨_,U⟩|⟨v,w',V,_⟩
 ·have e:args.toList.toArray=args:=by simp
  rw[e]at U;refine U.mono ?_;rintro e w' ⟨m,t,rfl,Y,G⟩;have g:t=true:=Y;subst g;refine⟨.bool true,rfl,ds,[],p++ [],[],p,[],E,?_,?_,?_,?_,fun h=>by cases h⟩
  ·rw[n,bG,Z]
   have:fn.resultTypes.size=1:=by have:=congrArg List.length n;simpa using this
   rw[this];refine⟨[],[],⟨1,?_⟩,rfl,rfl⟩;simp[DataW.trod,o,Value.cells]
  ·rw[u,bG,X]
   exact uv D ⟨m.os,m.tape,m.output,G.size,fun k L=>G.same k L id⟩ z J K
  ·rw[T,bG,O];rfl
  ·exact Below.frame ⟨m.os,m.tape,m.output,G.size,fun k L=>G.same k L id⟩ _
 ·rw[A]at V;cases V
end
end Go.Lift
