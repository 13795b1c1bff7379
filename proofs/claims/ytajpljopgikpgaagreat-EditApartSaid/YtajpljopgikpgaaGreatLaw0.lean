/- A part of the proof that the named laws of this program answer true, whatever the input. -/
import Derived.Test.YtajpljopgikpgaaGreatLift3
import Derived.ProofKit
import Derived.SizedLaws
open Array renaming getElem?_toList→aO
open List renaming getElem?_eq_some_iff→aP,getElem?_eq_getElem→aj,mem_cons_self→ax,mem_append_left→fe,length_cons→aL,append_nil→bO
open Nat renaming le_refl→aw
namespace Go.Lift
open Go Go.ChangeShapes Go.WideShapes Go.ChangeAt Go.RowKit
section
variable {H:Type} {enc:TypeId×Value→H} {P:Program} {w:World} {base:Nat} {sp:Nat→Bool} {held:Bool}
theorem FC(a:Addr)(n:Nat):a.add n=adr a n:=by
 cases n with
 |zero=>rfl
 |succ n=>simp[Addr.add,adr]
theorem Gu{a:Addr}{n:Nat}{cs:List Value}(h:w.cells? base a n=some cs):cs.length=n∧∀j v,cs[j]? =some v→aQ w.heap (adr a j)=some v:=by
 obtain⟨_,b,hc⟩:=World.cells?_some h;refine⟨b,fun j v hv=>?_⟩
 have c:j<n:=by rw[←b];exact(aP.1 hv).1
 have:=hc j c;rw[FC,hv]at this;exact this
theorem IK{fuel:Nat}{t e:TypeId}{cs:List Value}{x:DataW H×List MemPlace}(U:P.underlying t=some (.slice e))(h:DataW.trod enc P w base sp held fuel t cs=some x)
  {α:Type}(f:α→List Value){b:Nat}(u:P.cellsOf e=b)(d:∀x,(f x).length=b∧0<b)(Q:α→Prop)
  (C:∀fuel (cells:List Value) y,cells.length=b→DataW.trod enc P w base sp held fuel e cells=some y→∃a,cells=f a∧Q a):
  ∃(s:SliceV) (xs:List α),cs= [.slice s.a s.len s.cap]∧s.len≤s.cap∧s.cap≤maxLen∧Sl f b No w.heap s xs∧∀a∈xs,Q a:=by
 rcases DataW.trod_slice U h with⟨N,_⟩|⟨a,len,cap,k,J,n,_,T,_,V,M,hm,L,g,_⟩
 ·exact⟨⟨none,0,0⟩,[],N,aw _,Nat.zero_le _,Sl.nil d,fun a D=>by cases D⟩
 ·have key:∀i,i<len→∃a',Q a'∧∀j v,(f a')[j]? =some v→aQ w.heap (adr (adr a (i*b)) j)=some v:=fun i hi=>by
   have c:=g i hi;rw[u]at c;have:∃y,k[i]? =some y:=⟨_,aj (by omega)⟩;obtain⟨y,S⟩:=this;rw[S]at c;cases hc:w.cells? base (a.add (i*b)) b with
   |none=>rw[hc]at c;cases c
   |some cells=>
    rw[hc]at c;obtain⟨F,o⟩:=Gu hc;obtain⟨a',I,p⟩:=C n cells y F c;subst I;rw[FC]at o;exact⟨a',p,o⟩
  have:∀n,n≤len→∃xs:List α,xs.length=n∧(∀a∈xs,Q a)∧∀i x,xs[i]? =some x→∀j v,(f x)[j]? =some v→aQ w.heap (adr (adr a (i*b)) j)=some v:=by
   intro n;induction n with
   |zero=>exact fun _=>⟨[],rfl,(fun a D=>by cases D),fun i x hx=>by simp at hx⟩
   |succ n ih=>
    intro W;obtain⟨xs,A,p,hx⟩:=ih (by omega);obtain⟨a',G,E⟩:=key n (by omega);refine⟨xs++ [a'],by simp[A],fun z hz=>?_,fun i x hi=>?_⟩
    ·rcases List.mem_append.1 hz with hz|hz
     ·exact p z hz
     ·rw[List.mem_singleton.1 hz];exact G
    ·by_cases O:i<n
     ·rw[List.getElem?_append_left (by omega)]at hi
      exact hx i x hi
     ·rw[List.getElem?_append_right (by omega)]at hi
      have:i-xs.length=0:=by
       have:=(aP.1 hi).1;simp at this;omega
      rw[this]at hi;simp only[List.getElem?_cons_zero,Option.some.injEq]at hi;subst hi;have:i=n:=by omega
      subst this;exact E
  obtain⟨xs,B,p,hx⟩:=this len (aw _);refine⟨⟨some a,len,cap⟩,xs,T,M,hm,⟨B.symm,d,fun _=>⟨a,rfl,id,fun i v hv=>?_⟩⟩,p⟩
  obtain⟨q,hz⟩:(∀x,(f x).length=b)∧0<b:=⟨fun x=>(d x).1,by
   cases xs with
   |nil=>simp at hv
   |cons x _=>exact(d x).2⟩
  have hi:i<(xs.flatMap f).length:=(aP.1 hv).1;rw[iK q]at hi;have m:i/b<xs.length:=Nat.div_lt_of_lt_mul (by rw[Nat.mul_comm];exact hi);have R:i%b<b:=Nat.mod_lt _ hz;have e:i=i/b*b+i%b:=by rw[Nat.mul_comm];exact(Nat.div_add_mod i b).symm
  have K:=q9 q xs (i/b) (i%b) xs[i/b] (aj m) R;rw[←e]at K;rw[K]at hv;have:=hx (i/b) _ (aj m) (i%b) v hv;rw[uu,←e]at this;exact this
theorem r8{P:Program}(a:laidOutB P=true){W W':World}(c:Below W.heap.size W W'):∀{ts:List TypeId} {vs:List Value} {ds:List (DataW H)} {ps:List MemPlace},(∀t∈ts,P.readableRec t=true∧t<P.types.size)→
  DataW.TrodAll enc P W 0 (fun _=>true) true ts vs ds ps→(∀x∈ps,x.block<W.heap.size)→DataW.TrodAll enc P W' 0 (fun b=>decide (b<W.heap.size)) true ts vs ds ps
 | [],[],[],_,_,h,_=>h
 |t::ts,v::vs,d::ds,ps,hr,h,hlt=>by
  obtain⟨p,q,e,f,rfl⟩:=h;exact⟨p,q,Below.trod a (hr t (ax ..)).1 (hr t (ax ..)).2 e c fun x hx=>hlt x (fe _ hx),
   r8 a c (fun t g=>hr t (List.mem_cons_of_mem _ g)) f fun x hx=>hlt x (List.mem_append_right _ hx),rfl⟩
 | [],_::_,_,_,_,h,_=>h.elim
 | [],[],_::_,_,_,h,_=>h.elim
 |_::_,[],_,_,_,h,_=>h.elim
 |_::_,_::_,[],_,_,h,_=>h.elim
theorem wh:∀{ts:List TypeId} {vs:List Value} {ds:List (DataW H)} {ps:List MemPlace},DataW.TrodAll enc P w base sp held ts vs ds ps→ds.length=ts.length
 | [],[],[],_,_=>rfl
 |t::ts,v::vs,d::ds,ps,h=>by
  obtain⟨p,q,b,a,rfl⟩:=h;rw[aL,aL,wh a]
 | [],_::_,_,_,h=>h.elim
 | [],[],_::_,_,h=>h.elim
 |_::_,[],_,_,h=>h.elim
 |_::_,_::_,[],_,h=>h.elim
theorem pt{t:TypeId}{ts:List TypeId}{vs:List Value}{ds:List (DataW H)}{ps:List MemPlace}(h:DataW.TrodAll enc P w base sp held (t::ts) vs ds ps):
  ∃v vs' d ds' p q,vs=v::vs'∧ds=d::ds'∧DataW.Trod enc P w base sp held t v d p∧DataW.TrodAll enc P w base sp held ts vs' ds' q:=by
 cases vs with
 |nil=>exact h.elim
 |cons v vs=>cases ds with
  |nil=>exact h.elim
  |cons d ds=>
   obtain⟨p,q,a,b,_⟩:=h;exact⟨v,vs,d,ds,p,q,rfl,rfl,a,b⟩
theorem GZ{vs:List Value}{ds:List (DataW H)}{ps:List MemPlace}(h:DataW.TrodAll enc P w base sp held [] vs ds ps):vs= []:=by
 cases vs with
 |nil=>rfl
 |cons v vs=>exact h.elim
theorem law_lifted{C:Checked}{os:Os}{f:FuncId}{fn:Func}{s:ChangeSpec}{ts:List TypeId}{tb:TypeId}(y:fn.params.toList=ts)(m:fn.resultTypes.toList= [tb])(o:C.prog.underlying tb=some .bool)(hv:s.vars= [])
  (z:∀(ds:List (DataW H)),ds.length=ts.length→(s.fn H ds).results= [.lit (.bool true)]∧(s.fn H ds).args=ds∧(s.fn H ds).vars= [])
  (own:ownKnob C.prog.godebug=none)(E:laidOutB C.prog=true)(A:∀t∈ts,C.prog.readableRec t=true∧t<C.prog.types.size)(a:os.Started)(g:C.prog.inits.idxOf? f=none)(O:C.prog.funcs[f]? =some fn)
  (c:∃(w:World) (tape:Tape) (i:Input),w.os=os∧(w.forCall tape i).Shaped C.prog∧i.vars= []∧Input.okWide C.prog (w.forCall tape i) .any w.heap.size f i∧
   s.pre6 enc C.prog fn [] false (w.forCall tape i).memory i.args∧({}:Assume).holds C.prog (lone (Frame.enter C.prog f i.args .normal) [] (w.forCall tape i)))
  (u:∀(args:Array Value) (w:World),(callFunc f args).run C.prog w=.ok (.enter f args) w)
  (hc:∀(W:World) (P:Nat) (args:List Value) (ds:List (DataW H)) (p:List MemPlace),(∀(j:Nat) t v,ts[j]? =some t→args[j]? =some v→Value.okWide C.prog W .any P t v)→DataW.TrodAll enc C.prog W 0 (fun _=>true) true ts args ds p→
   HC C.prog f args [.c .bool] (fun b h'=>b=true∧Upd No W.heap h') W.heap):
  ReturnsInHanded {} C os f .any (s.pre6 enc C.prog fn [] false) (s.post enc C.prog fn false true false false):=by
 refine returnsInHanded_of_change own a g O c ?_;intro W P args ds gs I B S _ _;have D:=S;obtain⟨p,q,J,Q,rfl,X,hnd⟩:=S;rw[y]at J;rw[hv]at Q;obtain⟨rfl,rfl⟩:=trodVars_none Q;have F:ds.length=ts.length:=wh J;have N:∀x∈p,x.block<W.heap.size:=fun x hx=>D.lt x (fe _ hx)
 obtain⟨Y,Z,K⟩:=z ds F;have U:=hc W P args.toList ds p (fun j t v n M=>B j t v (by rw[←aO,y];exact n) (by rw[←aO];exact M)) J
 rcases U.run W rfl with⟨_,T⟩|⟨v,w',R,_⟩
 ·have e:args.toList.toArray=args:=by simp
  rw[e]at T;refine T.mono ?_;rintro e w' ⟨n,t,rfl,V,G⟩;have d:t=true:=V;subst d;refine⟨.bool true,rfl,ds,[],p++ [],[],p,[],D,?_,?_,?_,?_,fun h=>by cases h⟩
  ·rw[m,bO,Y]
   have:fn.resultTypes.size=1:=by have:=congrArg List.length m;simpa using this
   rw[this];refine⟨[],[],⟨1,?_⟩,rfl,rfl⟩;simp[DataW.trod,o,Value.cells]
  ·rw[y,bO,Z]
   exact r8 E ⟨n.os,n.tape,n.output,G.size,fun k L=>G.same k L id⟩ A J N
  ·rw[hv,bO,K];rfl
  ·exact Below.frame ⟨n.os,n.tape,n.output,G.size,fun k L=>G.same k L id⟩ _
 ·rw[u]at R;cases R
end
end Go.Lift
