/- A part of the proof that the named laws of this program answer true, whatever the input. -/
import Derived.Test.YtcpiahjlddmfiaaGreatLift3
import Derived.ProofKit
import Derived.SizedLaws
open Array renaming getElem?_toList→aJ
open List renaming getElem?_eq_some_iff→bj,getElem?_eq_getElem→au,mem_cons_self→aq,mem_append_left→cy,length_cons→aI,append_nil→bW
open Nat renaming le_refl→ar
namespace Go.Lift
open Go Go.ChangeShapes Go.WideShapes Go.ChangeAt Go.RowKit
section
variable {H:Type} {enc:TypeId×Value→H} {P:Program} {w:World} {base:Nat} {sp:Nat→Bool} {held:Bool}
theorem DZ(a:Addr)(n:Nat):a.add n=adr a n:=by
 cases n with
 |zero=>rfl
 |succ n=>simp[Addr.add,adr]
theorem EJ{a:Addr}{n:Nat}{cs:List Value}(h:w.cells? base a n=some cs):cs.length=n∧∀j v,cs[j]? =some v→bc w.heap (adr a j)=some v:=by
 obtain⟨_,d,hc⟩:=World.cells?_some h;refine⟨d,fun j v c=>?_⟩
 have e:j<n:=by rw[←d];exact(bj.1 c).1
 have:=hc j e;rw[DZ,c]at this;exact this
theorem GR{g:Nat}{t e:TypeId}{cs:List Value}{x:DataW H×List MemPlace}(Z:P.underlying t=some (.slice e))(h:DataW.trod enc P w base sp held g t cs=some x)
  {α:Type}(f:α→List Value){c:Nat}(K:P.cellsOf e=c)(k:∀x,(f x).length=c∧0<c)(Q:α→Prop)
  (F:∀g (cells:List Value) y,cells.length=c→DataW.trod enc P w base sp held g e cells=some y→∃a,cells=f a∧Q a):
  ∃(s:SliceV) (xs:List α),cs= [.slice s.a s.len s.cap]∧s.len≤s.cap∧s.cap≤maxLen∧Sl f c No w.heap s xs∧∀a∈xs,Q a:=by
 rcases DataW.trod_slice Z h with⟨Y,_⟩|⟨a,len,cap,p,S,n,_,U,_,hb,T,hm,O,o,_⟩
 ·exact⟨⟨none,0,0⟩,[],Y,ar _,Nat.zero_le _,Sl.nil k,fun a L=>by cases L⟩
 ·have key:∀i,i<len→∃a',Q a'∧∀j v,(f a')[j]? =some v→bc w.heap (adr (adr a (i*c)) j)=some v:=fun i hi=>by
   have d:=o i hi;rw[K]at d;have:∃y,p[i]? =some y:=⟨_,au (by omega)⟩;obtain⟨y,W⟩:=this;rw[W]at d;cases hc:w.cells? base (a.add (i*c)) c with
   |none=>rw[hc]at d;cases d
   |some cells=>
    rw[hc]at d;obtain⟨E,u⟩:=EJ hc;obtain⟨a',J,q⟩:=F n cells y E d;subst J;rw[DZ]at u;exact⟨a',q,u⟩
  have:∀n,n≤len→∃xs:List α,xs.length=n∧(∀a∈xs,Q a)∧∀i x,xs[i]? =some x→∀j v,(f x)[j]? =some v→bc w.heap (adr (adr a (i*c)) j)=some v:=by
   intro n;induction n with
   |zero=>exact fun _=>⟨[],rfl,(fun a L=>by cases L),fun i x hx=>by simp at hx⟩
   |succ n ih=>
    intro hn;obtain⟨xs,D,q,hx⟩:=ih (by omega);obtain⟨a',N,G⟩:=key n (by omega);refine⟨xs++ [a'],by simp[D],fun z m=>?_,fun i x hi=>?_⟩
    ·rcases List.mem_append.1 m with m|m
     ·exact q z m
     ·rw[List.mem_singleton.1 m];exact N
    ·by_cases X:i<n
     ·rw[List.getElem?_append_left (by omega)]at hi
      exact hx i x hi
     ·rw[List.getElem?_append_right (by omega)]at hi
      have:i-xs.length=0:=by
       have:=(bj.1 hi).1;simp at this;omega
      rw[this]at hi;simp only[List.getElem?_cons_zero,Option.some.injEq]at hi;subst hi;have:i=n:=by omega
      subst this;exact G
  obtain⟨xs,I,q,hx⟩:=this len (ar _);refine⟨⟨some a,len,cap⟩,xs,U,T,hm,⟨I.symm,k,fun _=>⟨a,rfl,id,fun i v C=>?_⟩⟩,q⟩
  obtain⟨A,m⟩:(∀x,(f x).length=c)∧0<c:=⟨fun x=>(k x).1,by
   cases xs with
   |nil=>simp at C
   |cons x _=>exact(k x).2⟩
  have hi:i<(xs.flatMap f).length:=(bj.1 C).1;rw[ir A]at hi;have B:i/c<xs.length:=Nat.div_lt_of_lt_mul (by rw[Nat.mul_comm];exact hi);have V:i%c<c:=Nat.mod_lt _ m;have e:i=i/c*c+i%c:=by rw[Nat.mul_comm];exact(Nat.div_add_mod i c).symm
  have R:=qw A xs (i/c) (i%c) xs[i/c] (au B) V;rw[←e]at R;rw[R]at C;have:=hx (i/c) _ (au B) (i%c) v C;rw[tL,←e]at this;exact this
theorem rG{P:Program}(a:laidOutB P=true){W W':World}(c:Below W.heap.size W W'):∀{ts:List TypeId} {vs:List Value} {ds:List (DataW H)} {ps:List MemPlace},(∀t∈ts,P.readableRec t=true∧t<P.types.size)→
  DataW.TrodAll enc P W 0 (fun _=>true) true ts vs ds ps→(∀x∈ps,x.block<W.heap.size)→DataW.TrodAll enc P W' 0 (fun b=>decide (b<W.heap.size)) true ts vs ds ps
 | [],[],[],_,_,h,_=>h
 |t::ts,v::vs,d::ds,ps,hr,h,hlt=>by
  obtain⟨p,q,g,f,rfl⟩:=h;exact⟨p,q,Below.trod a (hr t (aq ..)).1 (hr t (aq ..)).2 g c fun x hx=>hlt x (cy _ hx),
   rG a c (fun t e=>hr t (List.mem_cons_of_mem _ e)) f fun x hx=>hlt x (List.mem_append_right _ hx),rfl⟩
 | [],_::_,_,_,_,h,_=>h.elim
 | [],[],_::_,_,_,h,_=>h.elim
 |_::_,[],_,_,_,h,_=>h.elim
 |_::_,_::_,[],_,_,h,_=>h.elim
theorem vu:∀{ts:List TypeId} {vs:List Value} {ds:List (DataW H)} {ps:List MemPlace},DataW.TrodAll enc P w base sp held ts vs ds ps→ds.length=ts.length
 | [],[],[],_,_=>rfl
 |t::ts,v::vs,d::ds,ps,h=>by
  obtain⟨p,q,c,a,rfl⟩:=h;rw[aI,aI,vu a]
 | [],_::_,_,_,h=>h.elim
 | [],[],_::_,_,h=>h.elim
 |_::_,[],_,_,h=>h.elim
 |_::_,_::_,[],_,h=>h.elim
theorem qT{t:TypeId}{ts:List TypeId}{vs:List Value}{ds:List (DataW H)}{ps:List MemPlace}(h:DataW.TrodAll enc P w base sp held (t::ts) vs ds ps):
  ∃v vs' d ds' p q,vs=v::vs'∧ds=d::ds'∧DataW.Trod enc P w base sp held t v d p∧DataW.TrodAll enc P w base sp held ts vs' ds' q:=by
 cases vs with
 |nil=>exact h.elim
 |cons v vs=>cases ds with
  |nil=>exact h.elim
  |cons d ds=>
   obtain⟨p,q,c,a,_⟩:=h;exact⟨v,vs,d,ds,p,q,rfl,rfl,c,a⟩
theorem Fp{vs:List Value}{ds:List (DataW H)}{ps:List MemPlace}(h:DataW.TrodAll enc P w base sp held [] vs ds ps):vs= []:=by
 cases vs with
 |nil=>rfl
 |cons v vs=>exact h.elim
theorem law_lifted{C:Checked}{os:Os}{f:FuncId}{fn:Func}{s:ChangeSpec}{ts:List TypeId}{tb:TypeId}(y:fn.params.toList=ts)(m:fn.resultTypes.toList= [tb])(u:C.prog.underlying tb=some .bool)(T:s.vars= [])
  (z:∀(ds:List (DataW H)),ds.length=ts.length→(s.fn H ds).results= [.lit (.bool true)]∧(s.fn H ds).args=ds∧(s.fn H ds).vars= [])
  (own:ownKnob C.prog.godebug=none)(E:laidOutB C.prog=true)(o:∀t∈ts,C.prog.readableRec t=true∧t<C.prog.types.size)(c:os.Started)(g:C.prog.inits.idxOf? f=none)(K:C.prog.funcs[f]? =some fn)
  (a:∃(w:World) (tape:Tape) (i:Input),w.os=os∧(w.forCall tape i).Shaped C.prog∧i.vars= []∧Input.okWide C.prog (w.forCall tape i) .any w.heap.size f i∧
   s.pre6 enc C.prog fn [] false (w.forCall tape i).memory i.args∧({}:Assume).holds C.prog (lone (Frame.enter C.prog f i.args .normal) [] (w.forCall tape i)))
  (A:∀(args:Array Value) (w:World),(callFunc f args).run C.prog w=.ok (.enter f args) w)
  (hc:∀(W:World) (N:Nat) (args:List Value) (ds:List (DataW H)) (p:List MemPlace),(∀(j:Nat) t v,ts[j]? =some t→args[j]? =some v→Value.okWide C.prog W .any N t v)→DataW.TrodAll enc C.prog W 0 (fun _=>true) true ts args ds p→
   HC C.prog f args [.c .bool] (fun b h'=>b=true∧Upd No W.heap h') W.heap):
  ReturnsInHanded {} C os f .any (s.pre6 enc C.prog fn [] false) (s.post enc C.prog fn false true false false):=by
 refine returnsInHanded_of_change own c g K a ?_;intro W N args ds gs G D U _ _;have F:=U;obtain⟨p,q,I,R,rfl,Y,hnd⟩:=U;rw[y]at I;rw[T]at R;obtain⟨rfl,rfl⟩:=trodVars_none R;have B:ds.length=ts.length:=vu I;have L:∀x∈p,x.block<W.heap.size:=fun x hx=>F.lt x (cy _ hx)
 obtain⟨X,ha,P⟩:=z ds B;have hh:=hc W N args.toList ds p (fun j t v n Q=>D j t v (by rw[←aJ,y];exact n) (by rw[←aJ];exact Q)) I
 rcases hh.run W rfl with⟨_,V⟩|⟨v,w',S,_⟩
 ·have e:args.toList.toArray=args:=by simp
  rw[e]at V;refine V.mono ?_;rintro e w' ⟨n,t,rfl,Z,J⟩;have d:t=true:=Z;subst d;refine⟨.bool true,rfl,ds,[],p++ [],[],p,[],F,?_,?_,?_,?_,fun h=>by cases h⟩
  ·rw[m,bW,X]
   have:fn.resultTypes.size=1:=by have:=congrArg List.length m;simpa using this
   rw[this];refine⟨[],[],⟨1,?_⟩,rfl,rfl⟩;simp[DataW.trod,u,Value.cells]
  ·rw[y,bW,ha]
   exact rG E ⟨n.os,n.tape,n.output,J.size,fun k O=>J.same k O id⟩ o I L
  ·rw[T,bW,P];rfl
  ·exact Below.frame ⟨n.os,n.tape,n.output,J.size,fun k O=>J.same k O id⟩ _
 ·rw[A]at S;cases S
end
end Go.Lift
