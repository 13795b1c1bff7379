/- A part of the proof that the named laws of this program answer true, whatever the input. -/
import Derived.Test.YtajpljopgikpgaaGreatLift3
import Derived.ProofKit
import Derived.SizedLaws
open Array renaming getElem?_toList→aA
open List renaming mem_cons_self→aC,mem_append_left→dG,length_cons→aQ,append_nil→cR
namespace Go.Lift
open Go Go.ChangeShapes Go.WideShapes Go.ChangeAt Go.RowKit
section
variable {H:Type} {enc:TypeId×Value→H} {P:Program} {w:World} {base:Nat} {sp:Nat→Bool} {held:Bool}
theorem od{P:Program}(c:laidOutB P=true){W W':World}(a:Below W.heap.size W W'):∀{ts:List TypeId} {vs:List Value} {ds:List (DataW H)} {ps:List MemPlace},(∀t∈ts,P.readableRec t=true∧t<P.types.size)→
  DataW.TrodAll enc P W 0 (fun _=>true) true ts vs ds ps→(∀x∈ps,x.block<W.heap.size)→DataW.TrodAll enc P W' 0 (fun b=>decide (b<W.heap.size)) true ts vs ds ps
 | [],[],[],_,_,h,_=>h
 |t::ts,v::vs,d::ds,ps,hr,h,hlt=>by
  obtain⟨p,q,g,f,rfl⟩:=h;exact⟨p,q,Below.trod c (hr t (aC ..)).1 (hr t (aC ..)).2 g a fun x hx=>hlt x (dG _ hx),
   od c a (fun t e=>hr t (List.mem_cons_of_mem _ e)) f fun x hx=>hlt x (List.mem_append_right _ hx),rfl⟩
 | [],_::_,_,_,_,h,_=>h.elim
 | [],[],_::_,_,_,h,_=>h.elim
 |_::_,[],_,_,_,h,_=>h.elim
 |_::_,_::_,[],_,_,h,_=>h.elim
theorem ra:∀{ts:List TypeId} {vs:List Value} {ds:List (DataW H)} {ps:List MemPlace},DataW.TrodAll enc P w base sp held ts vs ds ps→ds.length=ts.length
 | [],[],[],_,_=>rfl
 |t::ts,v::vs,d::ds,ps,h=>by
  obtain⟨p,q,b,a,rfl⟩:=h;rw[aQ,aQ,ra a]
 | [],_::_,_,_,h=>h.elim
 | [],[],_::_,_,h=>h.elim
 |_::_,[],_,_,h=>h.elim
 |_::_,_::_,[],_,h=>h.elim
theorem zC{t:TypeId}{ts:List TypeId}{vs:List Value}{ds:List (DataW H)}{ps:List MemPlace}(h:DataW.TrodAll enc P w base sp held (t::ts) vs ds ps):
  ∃v vs' d ds' p q,vs=v::vs'∧ds=d::ds'∧DataW.Trod enc P w base sp held t v d p∧DataW.TrodAll enc P w base sp held ts vs' ds' q:=by
 cases vs with
 |nil=>exact h.elim
 |cons v vs=>cases ds with
  |nil=>exact h.elim
  |cons d ds=>
   obtain⟨p,q,b,a,_⟩:=h;exact⟨v,vs,d,ds,p,q,rfl,rfl,b,a⟩
theorem AI{vs:List Value}{ds:List (DataW H)}{ps:List MemPlace}(h:DataW.TrodAll enc P w base sp held [] vs ds ps):vs= []:=by
 cases vs with
 |nil=>rfl
 |cons v vs=>exact h.elim
theorem law_lifted{C:Checked}{os:Os}{f:FuncId}{fn:Func}{s:ChangeSpec}{ts:List TypeId}{tb:TypeId}(u:fn.params.toList=ts)(n:fn.resultTypes.toList= [tb])(o:C.prog.underlying tb=some .bool)(hv:s.vars= [])
  (A:∀(ds:List (DataW H)),ds.length=ts.length→(s.fn H ds).results= [.lit (.bool true)]∧(s.fn H ds).args=ds∧(s.fn H ds).vars= [])
  (own:ownKnob C.prog.godebug=none)(F:laidOutB C.prog=true)(y:∀t∈ts,C.prog.readableRec t=true∧t<C.prog.types.size)(c:os.Started)(g:C.prog.inits.idxOf? f=none)(L:C.prog.funcs[f]? =some fn)
  (a:∃(w:World) (tape:Tape) (i:Input),w.os=os∧(w.forCall tape i).Shaped C.prog∧i.vars= []∧Input.okWide C.prog (w.forCall tape i) .any w.heap.size f i∧
   s.pre6 enc C.prog fn [] false (w.forCall tape i).memory i.args∧({}:Assume).holds C.prog (lone (Frame.enter C.prog f i.args .normal) [] (w.forCall tape i)))
  (z:∀(args:Array Value) (w:World),(callFunc f args).run C.prog w=.ok (.enter f args) w)
  (hc:∀(W:World) (N:Nat) (args:List Value) (ds:List (DataW H)) (p:List MemPlace),(∀(j:Nat) t v,ts[j]? =some t→args[j]? =some v→Value.okWide C.prog W .any N t v)→DataW.TrodAll enc C.prog W 0 (fun _=>true) true ts args ds p→
   HC C.prog f args [.c .bool] (fun b h'=>b=true∧Upd No W.heap h') W.heap):
  ReturnsInHanded {} C os f .any (s.pre6 enc C.prog fn [] false) (s.post enc C.prog fn false true false false):=by
 refine returnsInHanded_of_change own c g L a ?_;intro W N args ds gs J E T _ _;have D:=T;obtain⟨p,q,I,Q,rfl,hfz,U⟩:=T;rw[u]at I;rw[hv]at Q;obtain⟨rfl,rfl⟩:=trodVars_none Q;have B:ds.length=ts.length:=ra I;have K:∀x∈p,x.block<W.heap.size:=fun x hx=>D.lt x (dG _ hx)
 obtain⟨V,Z,O⟩:=A ds B;have Y:=hc W N args.toList ds p (fun j t v m P=>E j t v (by rw[←aA,u];exact m) (by rw[←aA];exact P)) I
 rcases Y.run W rfl with⟨_,R⟩|⟨v,w',S,_⟩
 ·have e:args.toList.toArray=args:=by simp
  rw[e]at R;refine R.mono ?_;rintro e w' ⟨m,t,rfl,X,G⟩;have d:t=true:=X;subst d;refine⟨.bool true,rfl,ds,[],p++ [],[],p,[],D,?_,?_,?_,?_,fun h=>by cases h⟩
  ·rw[n,cR,V]
   have:fn.resultTypes.size=1:=by have:=congrArg List.length n;simpa using this
   rw[this];refine⟨[],[],⟨1,?_⟩,rfl,rfl⟩;simp[DataW.trod,o,Value.cells]
  ·rw[u,cR,Z]
   exact od F ⟨m.os,m.tape,m.output,G.size,fun k M=>G.same k M id⟩ y I K
  ·rw[hv,cR,O];rfl
  ·exact Below.frame ⟨m.os,m.tape,m.output,G.size,fun k M=>G.same k M id⟩ _
 ·rw[z]at S;cases S
end
end Go.Lift
