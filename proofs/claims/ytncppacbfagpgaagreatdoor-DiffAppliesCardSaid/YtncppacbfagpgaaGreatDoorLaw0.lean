/- A part of the proof that the named laws of this program answer true, whatever the input. -/
import Derived.Test.YtncppacbfagpgaaGreatDoorLift3
import Derived.ProofKit
import Derived.SizedLaws
import Derived.LaidMore
import Derived.LaidHandle
import Derived.OpenShut
import Derived.Stop.Joined
open Array renaming getElem?_toList→bX
open List renaming getElem?_eq_some_iff→bM,getElem?_eq_getElem→af,mem_cons_self→aw,mem_append_left→cI,length_cons→ao,append_nil→aL
open Nat renaming le_refl→al,mul_comm→j1
namespace Go.Lift
open Go Go.ChangeShapes Go.WideShapes Go.ChangeAt Go.RowKit
section
variable {H:Type} {enc:TypeId×Value→H} {P:Program} {w:World} {base:Nat} {sp:Nat→Bool} {held:Bool}
theorem T8(a:Addr)(n:Nat):a.add n=adr a n:=by
 cases n with
 |zero=>rfl
 |succ n=>simp[Addr.add,adr]
theorem Vo{a:Addr}{n:Nat}{cs:List Value}(h:w.cells? base a n=some cs):cs.length=n∧∀j v,cs[j]? =some v→aP w.heap (adr a j)=some v:=by
 obtain⟨_,b,hc⟩:=World.cells?_some h;refine⟨b,fun j v hv=>?_⟩
 have c:j<n:=by rw[←b];exact(bM.1 hv).1
 have:=hc j c;rw[T8,hv]at this;exact this
theorem Tb{fuel:Nat}{t e:TypeId}{cs:List Value}{x:DataW H×List MemPlace}(N:P.underlying t=some (.slice e))(h:DataW.trod enc P w base sp held fuel t cs=some x)
  {α:Type}(f:α→List Value){b:Nat}(I:P.cellsOf e=b)(d:∀x,(f x).length=b∧0<b)(Q:α→Prop)
  (J:∀fuel (cells:List Value) y,cells.length=b→DataW.trod enc P w base sp held fuel e cells=some y→∃a,cells=f a∧Q a):
  ∃(s:SliceV) (xs:List α),cs= [.slice s.a s.len s.cap]∧s.len≤s.cap∧s.cap≤maxLen∧Sl f b No w.heap s xs∧∀a∈xs,Q a:=by
 rcases DataW.trod_slice N h with⟨V,_⟩|⟨a,len,cap,k,K,n,_,T,_,W,O,hm,L,g,_⟩
 ·exact⟨⟨none,0,0⟩,[],V,al _,Nat.zero_le _,Sl.nil d,fun a A=>by cases A⟩
 ·have key:∀i,i<len→∃a',Q a'∧∀j v,(f a')[j]? =some v→aP w.heap (adr (adr a (i*b)) j)=some v:=fun i hi=>by
   have c:=g i hi;rw[I]at c;have:∃y,k[i]? =some y:=⟨_,af (by omega)⟩;obtain⟨y,U⟩:=this;rw[U]at c;cases hc:w.cells? base (a.add (i*b)) b with
   |none=>rw[hc]at c;cases c
   |some cells=>
    rw[hc]at c;obtain⟨F,o⟩:=Vo hc;obtain⟨a',B,u⟩:=J n cells y F c;subst B;rw[T8]at o;exact⟨a',u,o⟩
  have:∀n,n≤len→∃xs:List α,xs.length=n∧(∀a∈xs,Q a)∧∀i x,xs[i]? =some x→∀j v,(f x)[j]? =some v→aP w.heap (adr (adr a (i*b)) j)=some v:=by
   intro n;induction n with
   |zero=>exact fun _=>⟨[],rfl,(fun a A=>by cases A),fun i x hx=>by simp at hx⟩
   |succ n ih=>
    intro X;obtain⟨xs,C,u,hx⟩:=ih (by omega);obtain⟨a',E,G⟩:=key n (by omega);refine⟨xs++ [a'],by simp[C],fun z m=>?_,fun i x hi=>?_⟩
    ·rcases List.mem_append.1 m with m|m
     ·exact u z m
     ·rw[List.mem_singleton.1 m];exact E
    ·by_cases R:i<n
     ·rw[List.getElem?_append_left (by omega)]at hi
      exact hx i x hi
     ·rw[List.getElem?_append_right (by omega)]at hi
      have:i-xs.length=0:=by
       have:=(bM.1 hi).1;simp at this;omega
      rw[this]at hi;simp only[List.getElem?_cons_zero,Option.some.injEq]at hi;subst hi;have:i=n:=by omega
      subst this;exact G
  obtain⟨xs,D,u,hx⟩:=this len (al _);refine⟨⟨some a,len,cap⟩,xs,T,O,hm,⟨D.symm,d,fun _=>⟨a,rfl,id,fun i v hv=>?_⟩⟩,u⟩
  obtain⟨q,m⟩:(∀x,(f x).length=b)∧0<b:=⟨fun x=>(d x).1,by
   cases xs with
   |nil=>simp at hv
   |cons x _=>exact(d x).2⟩
  have hi:i<(xs.flatMap f).length:=(bM.1 hv).1;rw[oo q]at hi;have p:i/b<xs.length:=Nat.div_lt_of_lt_mul (by rw[j1];exact hi);have S:i%b<b:=Nat.mod_lt _ m;have e:i=i/b*b+i%b:=by rw[j1];exact(Nat.div_add_mod i b).symm
  have M:=zH q xs (i/b) (i%b) xs[i/b] (af p) S;rw[←e]at M;rw[M]at hv;have:=hx (i/b) _ (af p) (i%b) v hv;rw[DS,←e]at this;exact this
theorem Bm{P:Program}(c:laidOutB P=true){W W':World}(a:Below W.heap.size W W'):∀{ts:List TypeId} {vs:List Value} {ds:List (DataW H)} {ps:List MemPlace},(∀t∈ts,P.readableRec t=true∧t<P.types.size)→
  DataW.TrodAll enc P W 0 (fun _=>true) true ts vs ds ps→(∀x∈ps,x.block<W.heap.size)→DataW.TrodAll enc P W' 0 (fun b=>decide (b<W.heap.size)) true ts vs ds ps
 | [],[],[],_,_,h,_=>h
 |t::ts,v::vs,d::ds,ps,hr,h,hlt=>by
  obtain⟨p,q,f,h2,rfl⟩:=h;exact⟨p,q,Below.trod c (hr t (aw ..)).1 (hr t (aw ..)).2 f a fun x hx=>hlt x (cI _ hx),
   Bm c a (fun t e=>hr t (List.mem_cons_of_mem _ e)) h2 fun x hx=>hlt x (List.mem_append_right _ hx),rfl⟩
 | [],_::_,_,_,_,h,_=>h.elim
 | [],[],_::_,_,_,h,_=>h.elim
 |_::_,[],_,_,_,h,_=>h.elim
 |_::_,_::_,[],_,_,h,_=>h.elim
theorem FP:∀{ts:List TypeId} {vs:List Value} {ds:List (DataW H)} {ps:List MemPlace},DataW.TrodAll enc P w base sp held ts vs ds ps→ds.length=ts.length
 | [],[],[],_,_=>rfl
 |t::ts,v::vs,d::ds,ps,h=>by
  obtain⟨p,q,a,h2,rfl⟩:=h;rw[ao,ao,FP h2]
 | [],_::_,_,_,h=>h.elim
 | [],[],_::_,_,h=>h.elim
 |_::_,[],_,_,h=>h.elim
 |_::_,_::_,[],_,h=>h.elim
theorem sq{t:TypeId}{ts:List TypeId}{vs:List Value}{ds:List (DataW H)}{ps:List MemPlace}(h:DataW.TrodAll enc P w base sp held (t::ts) vs ds ps):
  ∃v vs' d ds' p q,vs=v::vs'∧ds=d::ds'∧DataW.Trod enc P w base sp held t v d p∧DataW.TrodAll enc P w base sp held ts vs' ds' q:=by
 cases vs with
 |nil=>exact h.elim
 |cons v vs=>cases ds with
  |nil=>exact h.elim
  |cons d ds=>
   obtain⟨p,q,a,h2,_⟩:=h;exact⟨v,vs,d,ds,p,q,rfl,rfl,a,h2⟩
theorem V9{vs:List Value}{ds:List (DataW H)}{ps:List MemPlace}(h:DataW.TrodAll enc P w base sp held [] vs ds ps):vs= []:=by
 cases vs with
 |nil=>rfl
 |cons v vs=>exact h.elim
end
end Go.Lift
namespace Go.Lift
open Go Go.ChangeShapes Go.WideShapes Go.ChangeAt Go.RowKit
section
variable {H:Type} {enc:TypeId×Value→H}
theorem WY{C:Checked}{os:Os}{f:FuncId}{fn:Func}{s:ChangeSpec}{ts:List TypeId}{tb:TypeId}(z:fn.params.toList=ts)(n:fn.resultTypes.toList= [tb])(o:C.prog.underlying tb=some .bool)(hv:s.vars= [])
  (y:∀(ds:List (DataW H)),ds.length=ts.length→(s.fn H ds).results= [.lit (.bool true)]∧(s.fn H ds).args=ds∧(s.fn H ds).vars= [])
  {listed:List (String×DataW Unit)}(own:ownKnob C.prog.godebug=none)(B:laidOutB C.prog=true)(u:∀t∈ts,C.prog.readableRec t=true∧t<C.prog.types.size)(c:os.Started)(g:C.prog.inits.idxOf? f=none)(L:C.prog.funcs[f]? =some fn)
  (a:∃(w:World) (tape:Tape) (i:Input),w.os=os∧(w.forCall tape i).Shaped C.prog∧i.vars= []∧Input.okWide C.prog (w.forCall tape i) .any w.heap.size f i∧
   ((s.pre enc C.prog fn [] false (w.forCall tape i).memory i.args∧laidMetH C.prog listed (w.forCall tape i).memory)∧sizedMet enc C.prog fn (OpenSpec.ofChange s) false (w.forCall tape i).memory i.args)∧({}:Assume).holds C.prog (lone (Frame.enter C.prog f i.args .normal) [] (w.forCall tape i)))
  (A:∀(args:Array Value) (w:World),(callFunc f args).run C.prog w=.ok (.enter f args) w)
  (hc:∀(W:World) (K:Nat) (args:List Value) (ds:List (DataW H)) (p:List MemPlace),(∀(j:Nat) t v,ts[j]? =some t→args[j]? =some v→Value.okWide C.prog W .any K t v)→laidMetH C.prog listed W→DataW.TrodAll enc C.prog W 0 (fun _=>true) true ts args ds p→
   HC C.prog f args [.c .bool] (fun b h'=>b=true∧Upd No W.heap h') W.heap):
  ReturnsInHanded {} C os f .any (fun w args=>(s.pre enc C.prog fn [] false w args∧laidMetH C.prog listed w)∧sizedMet enc C.prog fn (OpenSpec.ofChange s) false w args) (s.post enc C.prog fn false true false false):=by
 refine returnsInHanded_of_change_and (X:=fun w _=>laidMetH C.prog listed w) (fun _ _ _ Q h=>h.of_heap Q) own c g L a ?_
 intro W K args ds gs J E R _ _ V _;have D:=R;obtain⟨p,q,I,T,rfl,hfz,hnd⟩:=R;rw[z]at I;rw[hv]at T;obtain⟨rfl,rfl⟩:=trodVars_none T;have F:ds.length=ts.length:=FP I;have P:∀x∈p,x.block<W.heap.size:=fun x hx=>D.lt x (cI _ hx)
 obtain⟨Y,U,N⟩:=y ds F;have Q:=hc W K args.toList ds p (fun j t v m O=>E j t v (by rw[←bX,z];exact m) (by rw[←bX];exact O)) V I
 rcases Q.run W rfl with⟨_,h2⟩|⟨v,Z,S,_⟩
 ·have e:args.toList.toArray=args:=by simp
  rw[e]at h2;refine h2.mono ?_;rintro e Z ⟨m,t,rfl,hb,G⟩;have d:t=true:=hb;subst d;refine⟨.bool true,rfl,ds,[],p++ [],[],p,[],D,?_,?_,?_,?_,fun h=>by cases h⟩
  ·rw[n,aL,Y]
   have:fn.resultTypes.size=1:=by have:=congrArg List.length n;simpa using this
   rw[this];refine⟨[],[],⟨1,?_⟩,rfl,rfl⟩;simp[DataW.trod,o,Value.cells]
  ·rw[z,aL,U]
   exact Bm B ⟨m.os,m.tape,m.output,G.size,fun k M=>G.same k M id⟩ u I P
  ·rw[hv,aL,N];rfl
  ·exact Below.frame ⟨m.os,m.tape,m.output,G.size,fun k M=>G.same k M id⟩ _
 ·rw[A]at S;cases S
end
end Go.Lift
