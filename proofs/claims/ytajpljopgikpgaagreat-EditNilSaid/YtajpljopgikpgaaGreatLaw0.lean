/- A part of the proof that the named laws of this program answer true, whatever the input. -/
import Derived.Test.YtajpljopgikpgaaGreatLift3
import Derived.ProofKit
import Derived.SizedLaws
open Array renaming getElem?_toList→aA
open List renaming mem_cons_self→aC,mem_append_left→dG,length_cons→aQ,append_nil→cR
namespace Go.Lift
open Go Go.ChangeShapes Go.WideShapes Go.ChangeAt Go.RowKit
section
variable {H:Type} {enc:TypeId×Value→H} {P:Program} {w:World} {base:Nat} {sp:Nat→Bool} {held:Bool}
theorem oe{P:Program}(c:laidOutB P=true){W W':World}(a:Below W.heap.size W W'):∀{ts:List TypeId} {vs:List Value} {ds:List (DataW H)} {ps:List MemPlace},(∀t∈ts,P.readableRec t=true∧t<P.types.size)→
  DataW.TrodAll enc P W 0 (fun _=>true) true ts vs ds ps→(∀x∈ps,x.block<W.heap.size)→DataW.TrodAll enc P W' 0 (fun b=>decide (b<W.heap.size)) true ts vs ds ps
 | [],[],[],_,_,h,_=>h
 |t::ts,v::vs,d::ds,ps,hr,h,hlt=>by
  obtain⟨p,q,f,e,rfl⟩:=h;exact⟨p,q,Below.trod c (hr t (aC ..)).1 (hr t (aC ..)).2 f a fun x hx=>hlt x (dG _ hx),
   oe c a (fun t g=>hr t (List.mem_cons_of_mem _ g)) e fun x hx=>hlt x (List.mem_append_right _ hx),rfl⟩
 | [],_::_,_,_,_,h,_=>h.elim
 | [],[],_::_,_,_,h,_=>h.elim
 |_::_,[],_,_,_,h,_=>h.elim
 |_::_,_::_,[],_,_,h,_=>h.elim
theorem rc:∀{ts:List TypeId} {vs:List Value} {ds:List (DataW H)} {ps:List MemPlace},DataW.TrodAll enc P w base sp held ts vs ds ps→ds.length=ts.length
 | [],[],[],_,_=>rfl
 |t::ts,v::vs,d::ds,ps,h=>by
  obtain⟨p,q,b,a,rfl⟩:=h;rw[aQ,aQ,rc a]
 | [],_::_,_,_,h=>h.elim
 | [],[],_::_,_,h=>h.elim
 |_::_,[],_,_,h=>h.elim
 |_::_,_::_,[],_,h=>h.elim
theorem zD{t:TypeId}{ts:List TypeId}{vs:List Value}{ds:List (DataW H)}{ps:List MemPlace}(h:DataW.TrodAll enc P w base sp held (t::ts) vs ds ps):
  ∃v vs' d ds' p q,vs=v::vs'∧ds=d::ds'∧DataW.Trod enc P w base sp held t v d p∧DataW.TrodAll enc P w base sp held ts vs' ds' q:=by
 cases vs with
 |nil=>exact h.elim
 |cons v vs=>cases ds with
  |nil=>exact h.elim
  |cons d ds=>
   obtain⟨p,q,a,b,_⟩:=h;exact⟨v,vs,d,ds,p,q,rfl,rfl,a,b⟩
theorem AJ{vs:List Value}{ds:List (DataW H)}{ps:List MemPlace}(h:DataW.TrodAll enc P w base sp held [] vs ds ps):vs= []:=by
 cases vs with
 |nil=>rfl
 |cons v vs=>exact h.elim
theorem law_lifted{C:Checked}{os:Os}{f:FuncId}{fn:Func}{s:ChangeSpec}{ts:List TypeId}{tb:TypeId}(z:fn.params.toList=ts)(m:fn.resultTypes.toList= [tb])(y:C.prog.underlying tb=some .bool)(hv:s.vars= [])
  (o:∀(ds:List (DataW H)),ds.length=ts.length→(s.fn H ds).results= [.lit (.bool true)]∧(s.fn H ds).args=ds∧(s.fn H ds).vars= [])
  (own:ownKnob C.prog.godebug=none)(D:laidOutB C.prog=true)(u:∀t∈ts,C.prog.readableRec t=true∧t<C.prog.types.size)(a:os.Started)(g:C.prog.inits.idxOf? f=none)(P:C.prog.funcs[f]? =some fn)
  (c:∃(w:World) (tape:Tape) (i:Input),w.os=os∧(w.forCall tape i).Shaped C.prog∧i.vars= []∧Input.okWide C.prog (w.forCall tape i) .any w.heap.size f i∧
   s.pre6 enc C.prog fn [] false (w.forCall tape i).memory i.args∧({}:Assume).holds C.prog (lone (Frame.enter C.prog f i.args .normal) [] (w.forCall tape i)))
  (A:∀(args:Array Value) (w:World),(callFunc f args).run C.prog w=.ok (.enter f args) w)
  (hc:∀(W:World) (K:Nat) (args:List Value) (ds:List (DataW H)) (p:List MemPlace),(∀(j:Nat) t v,ts[j]? =some t→args[j]? =some v→Value.okWide C.prog W .any K t v)→DataW.TrodAll enc C.prog W 0 (fun _=>true) true ts args ds p→
   HC C.prog f args [.c .bool] (fun b h'=>b=true∧Upd No W.heap h') W.heap):
  ReturnsInHanded {} C os f .any (s.pre6 enc C.prog fn [] false) (s.post enc C.prog fn false true false false):=by
 refine returnsInHanded_of_change own a g P c ?_;intro W K args ds gs J B R _ _;have F:=R;obtain⟨p,q,G,S,rfl,Z,X⟩:=R;rw[z]at G;rw[hv]at S;obtain⟨rfl,rfl⟩:=trodVars_none S;have E:ds.length=ts.length:=rc G;have M:∀x∈p,x.block<W.heap.size:=fun x hx=>F.lt x (dG _ hx)
 obtain⟨V,Y,N⟩:=o ds E;have hh:=hc W K args.toList ds p (fun j t v n O=>B j t v (by rw[←aA,z];exact n) (by rw[←aA];exact O)) G
 rcases hh.run W rfl with⟨_,Q⟩|⟨v,w',T,_⟩
 ·have e:args.toList.toArray=args:=by simp
  rw[e]at Q;refine Q.mono ?_;rintro e w' ⟨n,t,rfl,U,I⟩;have d:t=true:=U;subst d;refine⟨.bool true,rfl,ds,[],p++ [],[],p,[],F,?_,?_,?_,?_,fun h=>by cases h⟩
  ·rw[m,cR,V]
   have:fn.resultTypes.size=1:=by have:=congrArg List.length m;simpa using this
   rw[this];refine⟨[],[],⟨1,?_⟩,rfl,rfl⟩;simp[DataW.trod,y,Value.cells]
  ·rw[z,cR,Y]
   exact oe D ⟨n.os,n.tape,n.output,I.size,fun k L=>I.same k L id⟩ u G M
  ·rw[hv,cR,N];rfl
  ·exact Below.frame ⟨n.os,n.tape,n.output,I.size,fun k L=>I.same k L id⟩ _
 ·rw[A]at T;cases T
end
end Go.Lift
