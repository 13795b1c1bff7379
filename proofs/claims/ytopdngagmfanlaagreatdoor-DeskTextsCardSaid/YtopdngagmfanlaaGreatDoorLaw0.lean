/- A part of the proof that the named laws of this program answer true, whatever the input. -/
import Derived.Test.YtopdngagmfanlaaGreatDoorLift3
import Derived.ProofKit
import Derived.SizedLaws
import Derived.LaidMore
import Derived.LaidHandle
import Derived.OpenShut
import Derived.Stop.Joined
open Array renaming getElem?_toList→bv
open List renaming getElem?_eq_some_iff→aZ,getElem?_eq_getElem→ah,mem_cons_self→aP,mem_append_left→iy,length_cons→ay,append_nil→cE
open Nat renaming le_refl→av,mul_comm→xW
namespace Go.Lift
open Go Go.ChangeShapes Go.WideShapes Go.ChangeAt Go.RowKit
section
variable {H:Type} {enc:TypeId×Value→H} {P:Program} {w:World} {base:Nat} {sp:Nat→Bool} {held:Bool}
theorem SB(a:Addr)(n:Nat):a.add n=adr a n:=by
 cases n with
 |zero=>rfl
 |succ n=>simp[Addr.add,adr]
theorem TX{a:Addr}{n:Nat}{cs:List Value}(h:w.cells? base a n=some cs):cs.length=n∧∀j v,cs[j]? =some v→aD w.heap (adr a j)=some v:=by
 obtain⟨_,c,hc⟩:=World.cells?_some h;refine⟨c,fun j v b=>?_⟩
 have d:j<n:=by rw[←c];exact(aZ.1 b).1
 have:=hc j d;rw[SB,b]at this;exact this
theorem RJ{d:Nat}{t e:TypeId}{cs:List Value}{x:DataW H×List MemPlace}(Y:P.underlying t=some (.slice e))(h:DataW.trod enc P w base sp held d t cs=some x)
  {α:Type}(f:α→List Value){b:Nat}(D:P.cellsOf e=b)(g:∀x,(f x).length=b∧0<b)(Q:α→Prop)
  (G:∀d (cells:List Value) y,cells.length=b→DataW.trod enc P w base sp held d e cells=some y→∃a,cells=f a∧Q a):
  ∃(s:SliceV) (xs:List α),cs= [.slice s.a s.len s.cap]∧s.len≤s.cap∧s.cap≤maxLen∧Sl f b No w.heap s xs∧∀a∈xs,Q a:=by
 rcases DataW.trod_slice Y h with⟨T,_⟩|⟨a,len,cap,o,R,n,_,S,_,Z,U,hm,N,k,_⟩
 ·exact⟨⟨none,0,0⟩,[],T,av _,Nat.zero_le _,Sl.nil g,fun a I=>by cases I⟩
 ·have key:∀i,i<len→∃a',Q a'∧∀j v,(f a')[j]? =some v→aD w.heap (adr (adr a (i*b)) j)=some v:=fun i hi=>by
   have c:=k i hi;rw[D]at c;have:∃y,o[i]? =some y:=⟨_,ah (by omega)⟩;obtain⟨y,X⟩:=this;rw[X]at c;cases hc:w.cells? base (a.add (i*b)) b with
   |none=>rw[hc]at c;cases c
   |some cells=>
    rw[hc]at c;obtain⟨F,p⟩:=TX hc;obtain⟨a',J,q⟩:=G n cells y F c;subst J;rw[SB]at p;exact⟨a',q,p⟩
  have:∀n,n≤len→∃xs:List α,xs.length=n∧(∀a∈xs,Q a)∧∀i x,xs[i]? =some x→∀j v,(f x)[j]? =some v→aD w.heap (adr (adr a (i*b)) j)=some v:=by
   intro n;induction n with
   |zero=>exact fun _=>⟨[],rfl,(fun a I=>by cases I),fun i x hx=>by simp at hx⟩
   |succ n ih=>
    intro hn;obtain⟨xs,K,q,hx⟩:=ih (by omega);obtain⟨a',L,E⟩:=key n (by omega);refine⟨xs++ [a'],by simp[K],fun z m=>?_,fun i x hi=>?_⟩
    ·rcases List.mem_append.1 m with m|m
     ·exact q z m
     ·rw[List.mem_singleton.1 m];exact L
    ·by_cases W:i<n
     ·rw[List.getElem?_append_left (by omega)]at hi
      exact hx i x hi
     ·rw[List.getElem?_append_right (by omega)]at hi
      have:i-xs.length=0:=by
       have:=(aZ.1 hi).1;simp at this;omega
      rw[this]at hi;simp only[List.getElem?_cons_zero,Option.some.injEq]at hi;subst hi;have:i=n:=by omega
      subst this;exact E
  obtain⟨xs,C,q,hx⟩:=this len (av _);refine⟨⟨some a,len,cap⟩,xs,S,U,hm,⟨C.symm,g,fun _=>⟨a,rfl,id,fun i v B=>?_⟩⟩,q⟩
  obtain⟨A,m⟩:(∀x,(f x).length=b)∧0<b:=⟨fun x=>(g x).1,by
   cases xs with
   |nil=>simp at B
   |cons x _=>exact(g x).2⟩
  have hi:i<(xs.flatMap f).length:=(aZ.1 B).1;rw[kY A]at hi;have u:i/b<xs.length:=Nat.div_lt_of_lt_mul (by rw[xW];exact hi);have V:i%b<b:=Nat.mod_lt _ m;have e:i=i/b*b+i%b:=by rw[xW];exact(Nat.div_add_mod i b).symm
  have O:=zg A xs (i/b) (i%b) xs[i/b] (ah u) V;rw[←e]at O;rw[O]at B;have:=hx (i/b) _ (ah u) (i%b) v B;rw[Df,←e]at this;exact this
theorem A0{P:Program}(a:laidOutB P=true){W W':World}(c:Below W.heap.size W W'):∀{ts:List TypeId} {vs:List Value} {ds:List (DataW H)} {ps:List MemPlace},(∀t∈ts,P.readableRec t=true∧t<P.types.size)→
  DataW.TrodAll enc P W 0 (fun _=>true) true ts vs ds ps→(∀x∈ps,x.block<W.heap.size)→DataW.TrodAll enc P W' 0 (fun b=>decide (b<W.heap.size)) true ts vs ds ps
 | [],[],[],_,_,h,_=>h
 |t::ts,v::vs,d::ds,ps,hr,h,hlt=>by
  obtain⟨p,q,f,e,rfl⟩:=h;exact⟨p,q,Below.trod a (hr t (aP ..)).1 (hr t (aP ..)).2 f c fun x hx=>hlt x (iy _ hx),
   A0 a c (fun t g=>hr t (List.mem_cons_of_mem _ g)) e fun x hx=>hlt x (List.mem_append_right _ hx),rfl⟩
 | [],_::_,_,_,_,h,_=>h.elim
 | [],[],_::_,_,_,h,_=>h.elim
 |_::_,[],_,_,_,h,_=>h.elim
 |_::_,_::_,[],_,_,h,_=>h.elim
theorem EZ:∀{ts:List TypeId} {vs:List Value} {ds:List (DataW H)} {ps:List MemPlace},DataW.TrodAll enc P w base sp held ts vs ds ps→ds.length=ts.length
 | [],[],[],_,_=>rfl
 |t::ts,v::vs,d::ds,ps,h=>by
  obtain⟨p,q,b,a,rfl⟩:=h;rw[ay,ay,EZ a]
 | [],_::_,_,_,h=>h.elim
 | [],[],_::_,_,h=>h.elim
 |_::_,[],_,_,h=>h.elim
 |_::_,_::_,[],_,h=>h.elim
theorem SK{t:TypeId}{ts:List TypeId}{vs:List Value}{ds:List (DataW H)}{ps:List MemPlace}(h:DataW.TrodAll enc P w base sp held (t::ts) vs ds ps):
  ∃v vs' d ds' p q,vs=v::vs'∧ds=d::ds'∧DataW.Trod enc P w base sp held t v d p∧DataW.TrodAll enc P w base sp held ts vs' ds' q:=by
 cases vs with
 |nil=>exact h.elim
 |cons v vs=>cases ds with
  |nil=>exact h.elim
  |cons d ds=>
   obtain⟨p,q,a,b,_⟩:=h;exact⟨v,vs,d,ds,p,q,rfl,rfl,a,b⟩
theorem UM{vs:List Value}{ds:List (DataW H)}{ps:List MemPlace}(h:DataW.TrodAll enc P w base sp held [] vs ds ps):vs= []:=by
 cases vs with
 |nil=>rfl
 |cons v vs=>exact h.elim
end
end Go.Lift
namespace Go.Lift
open Go Go.ChangeShapes Go.WideShapes Go.ChangeAt Go.RowKit
section
variable {H:Type} {enc:TypeId×Value→H}
theorem VD{C:Checked}{os:Os}{f:FuncId}{fn:Func}{s:ChangeSpec}{ts:List TypeId}{tb:TypeId}(A:fn.params.toList=ts)(m:fn.resultTypes.toList= [tb])(z:C.prog.underlying tb=some .bool)(V:s.vars= [])
  (u:∀(ds:List (DataW H)),ds.length=ts.length→(s.fn H ds).results= [.lit (.bool true)]∧(s.fn H ds).args=ds∧(s.fn H ds).vars= [])
  {listed:List (String×DataW Unit)}(own:ownKnob C.prog.godebug=none)(F:laidOutB C.prog=true)(o:∀t∈ts,C.prog.readableRec t=true∧t<C.prog.types.size)(c:os.Started)(d:C.prog.inits.idxOf? f=none)(P:C.prog.funcs[f]? =some fn)
  (a:∃(w:World) (tape:Tape) (i:Input),w.os=os∧(w.forCall tape i).Shaped C.prog∧i.vars= []∧Input.okWide C.prog (w.forCall tape i) .any w.heap.size f i∧
   ((s.pre enc C.prog fn [] false (w.forCall tape i).memory i.args∧laidMetH C.prog listed (w.forCall tape i).memory)∧sizedMet enc C.prog fn (OpenSpec.ofChange s) false (w.forCall tape i).memory i.args)∧({}:Assume).holds C.prog (lone (Frame.enter C.prog f i.args .normal) [] (w.forCall tape i)))
  (y:∀(args:Array Value) (w:World),(callFunc f args).run C.prog w=.ok (.enter f args) w)
  (hc:∀(W:World) (K:Nat) (args:List Value) (ds:List (DataW H)) (p:List MemPlace),(∀(j:Nat) t v,ts[j]? =some t→args[j]? =some v→Value.okWide C.prog W .any K t v)→laidMetH C.prog listed W→DataW.TrodAll enc C.prog W 0 (fun _=>true) true ts args ds p→
   HC C.prog f args [.c .bool] (fun b h'=>b=true∧Upd No W.heap h') W.heap):
  ReturnsInHanded {} C os f .any (fun w args=>(s.pre enc C.prog fn [] false w args∧laidMetH C.prog listed w)∧sizedMet enc C.prog fn (OpenSpec.ofChange s) false w args) (s.post enc C.prog fn false true false false):=by
 refine returnsInHanded_of_change_and (X:=fun w _=>laidMetH C.prog listed w) (fun _ _ _ L h=>h.of_heap L) own c d P a ?_
 intro W K args ds gs G D Y _ _ hL _;have E:=Y;obtain⟨p,q,I,S,rfl,hfz,hnd⟩:=Y;rw[A]at I;rw[V]at S;obtain⟨rfl,rfl⟩:=trodVars_none S;have B:ds.length=ts.length:=EZ I;have N:∀x∈p,x.block<W.heap.size:=fun x hx=>E.lt x (iy _ hx)
 obtain⟨Z,ha,Q⟩:=u ds B;have L:=hc W K args.toList ds p (fun j t v n O=>D j t v (by rw[←bv,A];exact n) (by rw[←bv];exact O)) hL I
 rcases L.run W rfl with⟨_,T⟩|⟨v,w',U,_⟩
 ·have e:args.toList.toArray=args:=by simp
  rw[e]at T;refine T.mono ?_;rintro e w' ⟨n,t,rfl,hb,J⟩;have g:t=true:=hb;subst g;refine⟨.bool true,rfl,ds,[],p++ [],[],p,[],E,?_,?_,?_,?_,fun h=>by cases h⟩
  ·rw[m,cE,Z]
   have:fn.resultTypes.size=1:=by have:=congrArg List.length m;simpa using this
   rw[this];refine⟨[],[],⟨1,?_⟩,rfl,rfl⟩;simp[DataW.trod,z,Value.cells]
  ·rw[A,cE,ha]
   exact A0 F ⟨n.os,n.tape,n.output,J.size,fun k R=>J.same k R id⟩ o I N
  ·rw[V,cE,Q];rfl
  ·exact Below.frame ⟨n.os,n.tape,n.output,J.size,fun k R=>J.same k R id⟩ _
 ·rw[y]at U;cases U
end
end Go.Lift
