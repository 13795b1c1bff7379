/- A part of the proof that the named laws of this program answer true, whatever the input. -/
import Derived.Test.YtajpljopgikpgaaGreatDoorLift3
import Derived.ProofKit
import Derived.SizedLaws
import Derived.LaidMore
import Derived.LaidHandle
import Derived.OpenShut
import Derived.Stop.Joined
open Array renaming getElem?_toList→bv
open List renaming mem_cons_self→au,mem_append_left→ft,length_cons→aL,append_nil→bJ
namespace Go.Lift
open Go Go.ChangeShapes Go.WideShapes Go.ChangeAt Go.RowKit
section
variable {H:Type} {enc:TypeId×Value→H} {P:Program} {w:World} {base:Nat} {sp:Nat→Bool} {held:Bool}
theorem vA{P:Program}(c:laidOutB P=true){W W':World}(a:Below W.heap.size W W'):∀{ts:List TypeId} {vs:List Value} {ds:List (DataW H)} {ps:List MemPlace},(∀t∈ts,P.readableRec t=true∧t<P.types.size)→
  DataW.TrodAll enc P W 0 (fun _=>true) true ts vs ds ps→(∀x∈ps,x.block<W.heap.size)→DataW.TrodAll enc P W' 0 (fun b=>decide (b<W.heap.size)) true ts vs ds ps
 | [],[],[],_,_,h,_=>h
 |t::ts,v::vs,d::ds,ps,hr,h,hlt=>by
  obtain⟨p,q,e,f,rfl⟩:=h;exact⟨p,q,Below.trod c (hr t (au ..)).1 (hr t (au ..)).2 e a fun x hx=>hlt x (ft _ hx),
   vA c a (fun t g=>hr t (List.mem_cons_of_mem _ g)) f fun x hx=>hlt x (List.mem_append_right _ hx),rfl⟩
 | [],_::_,_,_,_,h,_=>h.elim
 | [],[],_::_,_,_,h,_=>h.elim
 |_::_,[],_,_,_,h,_=>h.elim
 |_::_,_::_,[],_,_,h,_=>h.elim
theorem zN:∀{ts:List TypeId} {vs:List Value} {ds:List (DataW H)} {ps:List MemPlace},DataW.TrodAll enc P w base sp held ts vs ds ps→ds.length=ts.length
 | [],[],[],_,_=>rfl
 |t::ts,v::vs,d::ds,ps,h=>by
  obtain⟨p,q,b,a,rfl⟩:=h;rw[aL,aL,zN a]
 | [],_::_,_,_,h=>h.elim
 | [],[],_::_,_,h=>h.elim
 |_::_,[],_,_,h=>h.elim
 |_::_,_::_,[],_,h=>h.elim
theorem uK{t:TypeId}{ts:List TypeId}{vs:List Value}{ds:List (DataW H)}{ps:List MemPlace}(h:DataW.TrodAll enc P w base sp held (t::ts) vs ds ps):
  ∃v vs' d ds' p q,vs=v::vs'∧ds=d::ds'∧DataW.Trod enc P w base sp held t v d p∧DataW.TrodAll enc P w base sp held ts vs' ds' q:=by
 cases vs with
 |nil=>exact h.elim
 |cons v vs=>cases ds with
  |nil=>exact h.elim
  |cons d ds=>
   obtain⟨p,q,b,a,_⟩:=h;exact⟨v,vs,d,ds,p,q,rfl,rfl,b,a⟩
theorem MR{vs:List Value}{ds:List (DataW H)}{ps:List MemPlace}(h:DataW.TrodAll enc P w base sp held [] vs ds ps):vs= []:=by
 cases vs with
 |nil=>rfl
 |cons v vs=>exact h.elim
end
end Go.Lift
namespace Go.Lift
open Go Go.ChangeShapes Go.WideShapes Go.ChangeAt Go.RowKit
section
variable {H:Type} {enc:TypeId×Value→H}
theorem Ny{C:Checked}{os:Os}{f:FuncId}{fn:Func}{s:ChangeSpec}{ts:List TypeId}{tb:TypeId}(y:fn.params.toList=ts)(n:fn.resultTypes.toList= [tb])(o:C.prog.underlying tb=some .bool)(hv:s.vars= [])
  (z:∀(ds:List (DataW H)),ds.length=ts.length→(s.fn H ds).results= [.lit (.bool true)]∧(s.fn H ds).args=ds∧(s.fn H ds).vars= [])
  {listed:List (String×DataW Unit)}(own:ownKnob C.prog.godebug=none)(D:laidOutB C.prog=true)(u:∀t∈ts,C.prog.readableRec t=true∧t<C.prog.types.size)(c:os.Started)(d:C.prog.inits.idxOf? f=none)(Q:C.prog.funcs[f]? =some fn)
  (a:∃(w:World) (tape:Tape) (i:Input),w.os=os∧(w.forCall tape i).Shaped C.prog∧i.vars= []∧Input.okWide C.prog (w.forCall tape i) .any w.heap.size f i∧
   ((s.pre enc C.prog fn [] false (w.forCall tape i).memory i.args∧laidMetH C.prog listed (w.forCall tape i).memory)∧sizedMet enc C.prog fn (OpenSpec.ofChange s) false (w.forCall tape i).memory i.args)∧({}:Assume).holds C.prog (lone (Frame.enter C.prog f i.args .normal) [] (w.forCall tape i)))
  (A:∀(args:Array Value) (w:World),(callFunc f args).run C.prog w=.ok (.enter f args) w)
  (hc:∀(W:World) (P:Nat) (args:List Value) (ds:List (DataW H)) (p:List MemPlace),(∀(j:Nat) t v,ts[j]? =some t→args[j]? =some v→Value.okWide C.prog W .any P t v)→laidMetH C.prog listed W→DataW.TrodAll enc C.prog W 0 (fun _=>true) true ts args ds p→
   HC C.prog f args [.c .bool] (fun b h'=>b=true∧Upd No W.heap h') W.heap):
  ReturnsInHanded {} C os f .any (fun w args=>(s.pre enc C.prog fn [] false w args∧laidMetH C.prog listed w)∧sizedMet enc C.prog fn (OpenSpec.ofChange s) false w args) (s.post enc C.prog fn false true false false):=by
 refine returnsInHanded_of_change_and (X:=fun w _=>laidMetH C.prog listed w) (fun _ _ _ M h=>h.of_heap M) own c d Q a ?_
 intro W P args ds gs I F S _ _ hL _;have B:=S;obtain⟨p,q,J,R,rfl,Z,hnd⟩:=S;rw[y]at J;rw[hv]at R;obtain⟨rfl,rfl⟩:=trodVars_none R;have E:ds.length=ts.length:=zN J;have N:∀x∈p,x.block<W.heap.size:=fun x hx=>B.lt x (ft _ hx)
 obtain⟨Y,ha,O⟩:=z ds E;have M:=hc W P args.toList ds p (fun j t v m L=>F j t v (by rw[←bv,y];exact m) (by rw[←bv];exact L)) hL J
 rcases M.run W rfl with⟨_,U⟩|⟨v,w',T,_⟩
 ·have e:args.toList.toArray=args:=by simp
  rw[e]at U;refine U.mono ?_;rintro e w' ⟨m,t,rfl,V,G⟩;have g:t=true:=V;subst g;refine⟨.bool true,rfl,ds,[],p++ [],[],p,[],B,?_,?_,?_,?_,fun h=>by cases h⟩
  ·rw[n,bJ,Y]
   have:fn.resultTypes.size=1:=by have:=congrArg List.length n;simpa using this
   rw[this];refine⟨[],[],⟨1,?_⟩,rfl,rfl⟩;simp[DataW.trod,o,Value.cells]
  ·rw[y,bJ,ha]
   exact vA D ⟨m.os,m.tape,m.output,G.size,fun k K=>G.same k K id⟩ u J N
  ·rw[hv,bJ,O];rfl
  ·exact Below.frame ⟨m.os,m.tape,m.output,G.size,fun k K=>G.same k K id⟩ _
 ·rw[A]at T;cases T
end
end Go.Lift
