/- A part of the proof that the named laws of this program answer true, whatever the input. -/
import Derived.Test.YtcpiahjlddmfiaaGreatLift3
import Derived.ProofKit
import Derived.SizedLaws
open Array renaming getElem?_toList→aZ
open List renaming getElem?_eq_some_iff→bW,getElem?_eq_getElem→al,mem_cons_self→au,mem_append_left→cK,length_cons→aN,append_nil→bI
open Nat renaming le_refl→aj,mul_comm→gR
namespace Go.Lift
open Go Go.ChangeShapes Go.WideShapes Go.ChangeAt Go.RowKit
section
variable {H:Type} {enc:TypeId×Value→H} {P:Program} {w:World} {base:Nat} {sp:Nat→Bool} {held:Bool}
theorem MC(a:Addr)(n:Nat):a.add n=adr a n:=by
 cases n with
 |zero=>rfl
 |succ n=>simp[Addr.add,adr]
theorem NH{a:Addr}{n:Nat}{cs:List Value}(h:w.cells? base a n=some cs):cs.length=n∧∀j v,cs[j]? =some v→aX w.heap (adr a j)=some v:=by
 obtain⟨_,b,hc⟩:=World.cells?_some h;refine⟨b,fun j v hv=>?_⟩
 have c:j<n:=by rw[←b];exact(bW.1 hv).1
 have:=hc j c;rw[MC,hv]at this;exact this
theorem LS{d:Nat}{t e:TypeId}{cs:List Value}{x:DataW H×List MemPlace}(W:P.underlying t=some (.slice e))(h:DataW.trod enc P w base sp held d t cs=some x)
  {α:Type}(f:α→List Value){b:Nat}(C:P.cellsOf e=b)(g:∀x,(f x).length=b∧0<b)(Q:α→Prop)
  (K:∀d (cells:List Value) y,cells.length=b→DataW.trod enc P w base sp held d e cells=some y→∃a,cells=f a∧Q a):
  ∃(s:SliceV) (xs:List α),cs= [.slice s.a s.len s.cap]∧s.len≤s.cap∧s.cap≤maxLen∧Sl f b No w.heap s xs∧∀a∈xs,Q a:=by
 rcases DataW.trod_slice W h with⟨R,_⟩|⟨a,len,cap,o,O,n,_,V,_,hb,T,hm,L,k,_⟩
 ·exact⟨⟨none,0,0⟩,[],R,aj _,Nat.zero_le _,Sl.nil g,fun a E=>by cases E⟩
 ·have key:∀i,i<len→∃a',Q a'∧∀j v,(f a')[j]? =some v→aX w.heap (adr (adr a (i*b)) j)=some v:=fun i hi=>by
   have c:=k i hi;rw[C]at c;have:∃y,o[i]? =some y:=⟨_,al (by omega)⟩;obtain⟨y,S⟩:=this;rw[S]at c;cases hc:w.cells? base (a.add (i*b)) b with
   |none=>rw[hc]at c;cases c
   |some cells=>
    rw[hc]at c;obtain⟨D,u⟩:=NH hc;obtain⟨a',J,A⟩:=K n cells y D c;subst J;rw[MC]at u;exact⟨a',A,u⟩
  have:∀n,n≤len→∃xs:List α,xs.length=n∧(∀a∈xs,Q a)∧∀i x,xs[i]? =some x→∀j v,(f x)[j]? =some v→aX w.heap (adr (adr a (i*b)) j)=some v:=by
   intro n;induction n with
   |zero=>exact fun _=>⟨[],rfl,(fun a E=>by cases E),fun i x hx=>by simp at hx⟩
   |succ n ih=>
    intro Y;obtain⟨xs,G,A,hx⟩:=ih (by omega);obtain⟨a',B,F⟩:=key n (by omega);refine⟨xs++ [a'],by simp[G],fun z m=>?_,fun i x hi=>?_⟩
    ·rcases List.mem_append.1 m with m|m
     ·exact A z m
     ·rw[List.mem_singleton.1 m];exact B
    ·by_cases X:i<n
     ·rw[List.getElem?_append_left (by omega)]at hi
      exact hx i x hi
     ·rw[List.getElem?_append_right (by omega)]at hi
      have:i-xs.length=0:=by
       have:=(bW.1 hi).1;simp at this;omega
      rw[this]at hi;simp only[List.getElem?_cons_zero,Option.some.injEq]at hi;subst hi;have:i=n:=by omega
      subst this;exact F
  obtain⟨xs,I,A,hx⟩:=this len (aj _);refine⟨⟨some a,len,cap⟩,xs,V,T,hm,⟨I.symm,g,fun _=>⟨a,rfl,id,fun i v hv=>?_⟩⟩,A⟩
  obtain⟨q,m⟩:(∀x,(f x).length=b)∧0<b:=⟨fun x=>(g x).1,by
   cases xs with
   |nil=>simp at hv
   |cons x _=>exact(g x).2⟩
  have hi:i<(xs.flatMap f).length:=(bW.1 hv).1;rw[kS q]at hi;have p:i/b<xs.length:=Nat.div_lt_of_lt_mul (by rw[gR];exact hi);have U:i%b<b:=Nat.mod_lt _ m;have e:i=i/b*b+i%b:=by rw[gR];exact(Nat.div_add_mod i b).symm
  have N:=vS q xs (i/b) (i%b) xs[i/b] (al p) U;rw[←e]at N;rw[N]at hv;have:=hx (i/b) _ (al p) (i%b) v hv;rw[zD,←e]at this;exact this
theorem xz{P:Program}(a:laidOutB P=true){W W':World}(hb:Below W.heap.size W W'):∀{ts:List TypeId} {vs:List Value} {ds:List (DataW H)} {ps:List MemPlace},(∀t∈ts,P.readableRec t=true∧t<P.types.size)→
  DataW.TrodAll enc P W 0 (fun _=>true) true ts vs ds ps→(∀x∈ps,x.block<W.heap.size)→DataW.TrodAll enc P W' 0 (fun b=>decide (b<W.heap.size)) true ts vs ds ps
 | [],[],[],_,_,h,_=>h
 |t::ts,v::vs,d::ds,ps,hr,h,hlt=>by
  obtain⟨p,q,e,f,rfl⟩:=h;exact⟨p,q,Below.trod a (hr t (au ..)).1 (hr t (au ..)).2 e hb fun x hx=>hlt x (cK _ hx),
   xz a hb (fun t c=>hr t (List.mem_cons_of_mem _ c)) f fun x hx=>hlt x (List.mem_append_right _ hx),rfl⟩
 | [],_::_,_,_,_,h,_=>h.elim
 | [],[],_::_,_,_,h,_=>h.elim
 |_::_,[],_,_,_,h,_=>h.elim
 |_::_,_::_,[],_,_,h,_=>h.elim
theorem Bq:∀{ts:List TypeId} {vs:List Value} {ds:List (DataW H)} {ps:List MemPlace},DataW.TrodAll enc P w base sp held ts vs ds ps→ds.length=ts.length
 | [],[],[],_,_=>rfl
 |t::ts,v::vs,d::ds,ps,h=>by
  obtain⟨p,q,b,a,rfl⟩:=h;rw[aN,aN,Bq a]
 | [],_::_,_,_,h=>h.elim
 | [],[],_::_,_,h=>h.elim
 |_::_,[],_,_,h=>h.elim
 |_::_,_::_,[],_,h=>h.elim
theorem tI{t:TypeId}{ts:List TypeId}{vs:List Value}{ds:List (DataW H)}{ps:List MemPlace}(h:DataW.TrodAll enc P w base sp held (t::ts) vs ds ps):
  ∃v vs' d ds' p q,vs=v::vs'∧ds=d::ds'∧DataW.Trod enc P w base sp held t v d p∧DataW.TrodAll enc P w base sp held ts vs' ds' q:=by
 cases vs with
 |nil=>exact h.elim
 |cons v vs=>cases ds with
  |nil=>exact h.elim
  |cons d ds=>
   obtain⟨p,q,b,a,_⟩:=h;exact⟨v,vs,d,ds,p,q,rfl,rfl,b,a⟩
theorem OB{vs:List Value}{ds:List (DataW H)}{ps:List MemPlace}(h:DataW.TrodAll enc P w base sp held [] vs ds ps):vs= []:=by
 cases vs with
 |nil=>rfl
 |cons v vs=>exact h.elim
theorem law_lifted{C:Checked}{os:Os}{f:FuncId}{fn:Func}{s:ChangeSpec}{ts:List TypeId}{tb:TypeId}(u:fn.params.toList=ts)(m:fn.resultTypes.toList= [tb])(o:C.prog.underlying tb=some .bool)(hv:s.vars= [])
  (A:∀(ds:List (DataW H)),ds.length=ts.length→(s.fn H ds).results= [.lit (.bool true)]∧(s.fn H ds).args=ds∧(s.fn H ds).vars= [])
  (own:ownKnob C.prog.godebug=none)(F:laidOutB C.prog=true)(y:∀t∈ts,C.prog.readableRec t=true∧t<C.prog.types.size)(c:os.Started)(d:C.prog.inits.idxOf? f=none)(Q:C.prog.funcs[f]? =some fn)
  (a:∃(w:World) (tape:Tape) (i:Input),w.os=os∧(w.forCall tape i).Shaped C.prog∧i.vars= []∧Input.okWide C.prog (w.forCall tape i) .any w.heap.size f i∧
   s.pre6 enc C.prog fn [] false (w.forCall tape i).memory i.args∧({}:Assume).holds C.prog (lone (Frame.enter C.prog f i.args .normal) [] (w.forCall tape i)))
  (z:∀(args:Array Value) (w:World),(callFunc f args).run C.prog w=.ok (.enter f args) w)
  (hc:∀(W:World) (P:Nat) (args:List Value) (ds:List (DataW H)) (p:List MemPlace),(∀(j:Nat) t v,ts[j]? =some t→args[j]? =some v→Value.okWide C.prog W .any P t v)→DataW.TrodAll enc C.prog W 0 (fun _=>true) true ts args ds p→
   HC C.prog f args [.c .bool] (fun b h'=>b=true∧Upd No W.heap h') W.heap):
  ReturnsInHanded {} C os f .any (s.pre6 enc C.prog fn [] false) (s.post enc C.prog fn false true false false):=by
 refine returnsInHanded_of_change own c d Q a ?_;intro W P args ds gs I E R _ _;have B:=R;obtain⟨p,q,G,U,rfl,Y,V⟩:=R;rw[u]at G;rw[hv]at U;obtain⟨rfl,rfl⟩:=trodVars_none U;have D:ds.length=ts.length:=Bq G;have K:∀x∈p,x.block<W.heap.size:=fun x hx=>B.lt x (cK _ hx)
 obtain⟨hr,Z,O⟩:=A ds D;have hh:=hc W P args.toList ds p (fun j t v n L=>E j t v (by rw[←aZ,u];exact n) (by rw[←aZ];exact L)) G
 rcases hh.run W rfl with⟨_,S⟩|⟨v,X,T,_⟩
 ·have e:args.toList.toArray=args:=by simp
  rw[e]at S;refine S.mono ?_;rintro e X ⟨n,t,rfl,hb,J⟩;have g:t=true:=hb;subst g;refine⟨.bool true,rfl,ds,[],p++ [],[],p,[],B,?_,?_,?_,?_,fun h=>by cases h⟩
  ·rw[m,bI,hr]
   have:fn.resultTypes.size=1:=by have:=congrArg List.length m;simpa using this
   rw[this];refine⟨[],[],⟨1,?_⟩,rfl,rfl⟩;simp[DataW.trod,o,Value.cells]
  ·rw[u,bI,Z]
   exact xz F ⟨n.os,n.tape,n.output,J.size,fun k N=>J.same k N id⟩ y G K
  ·rw[hv,bI,O];rfl
  ·exact Below.frame ⟨n.os,n.tape,n.output,J.size,fun k N=>J.same k N id⟩ _
 ·rw[z]at T;cases T
end
end Go.Lift
