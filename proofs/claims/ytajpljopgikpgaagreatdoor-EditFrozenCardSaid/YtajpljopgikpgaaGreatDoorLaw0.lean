/- A part of the proof that the named laws of this program answer true, whatever the input. -/
import Derived.Test.YtajpljopgikpgaaGreatDoorLift3
import Derived.ProofKit
import Derived.SizedLaws
import Derived.LaidMore
import Derived.LaidHandle
import Derived.OpenShut
import Derived.Stop.Joined
open Array renaming getElem?_toList→bE
open List renaming getElem?_eq_some_iff→aF,getElem?_eq_getElem→ag,mem_cons_self→aE,mem_append_left→f7,length_cons→aV,append_nil→bT
open Nat renaming le_refl→ao,mul_comm→kQ
namespace Go.Lift
open Go Go.ChangeShapes Go.WideShapes Go.ChangeAt Go.RowKit
section
variable {H:Type} {enc:TypeId×Value→H} {P:Program} {w:World} {base:Nat} {sp:Nat→Bool} {held:Bool}
theorem Oq(a:Addr)(n:Nat):a.add n=adr a n:=by
 cases n with
 |zero=>rfl
 |succ n=>simp[Addr.add,adr]
theorem PE{a:Addr}{n:Nat}{cs:List Value}(h:w.cells? base a n=some cs):cs.length=n∧∀j v,cs[j]? =some v→aR w.heap (adr a j)=some v:=by
 obtain⟨_,b,hc⟩:=World.cells?_some h;refine⟨b,fun j v hv=>?_⟩
 have c:j<n:=by rw[←b];exact(aF.1 hv).1
 have:=hc j c;rw[Oq,hv]at this;exact this
theorem SI{fuel:Nat}{t e:TypeId}{cs:List Value}{x:DataW H×List MemPlace}(N:P.underlying t=some (.slice e))(h:DataW.trod enc P w base sp held fuel t cs=some x)
  {α:Type}(f:α→List Value){sz:Nat}(q:P.cellsOf e=sz)(c:∀x,(f x).length=sz∧0<sz)(Q:α→Prop)
  (u:∀fuel (cells:List Value) y,cells.length=sz→DataW.trod enc P w base sp held fuel e cells=some y→∃a,cells=f a∧Q a):
  ∃(s:SliceV) (xs:List α),cs= [.slice s.a s.len s.cap]∧s.len≤s.cap∧s.cap≤maxLen∧Sl f sz No w.heap s xs∧∀a∈xs,Q a:=by
 rcases DataW.trod_slice N h with⟨L,_⟩|⟨a,len,cap,d,J,n,_,S,_,W,T,hm,K,g,_⟩
 ·exact⟨⟨none,0,0⟩,[],L,ao _,Nat.zero_le _,Sl.nil c,fun a A=>by cases A⟩
 ·have key:∀i,i<len→∃a',Q a'∧∀j v,(f a')[j]? =some v→aR w.heap (adr (adr a (i*sz)) j)=some v:=fun i hi=>by
   have b:=g i hi;rw[q]at b;have:∃y,d[i]? =some y:=⟨_,ag (by omega)⟩;obtain⟨y,R⟩:=this;rw[R]at b;cases hc:w.cells? base (a.add (i*sz)) sz with
   |none=>rw[hc]at b;cases b
   |some cells=>
    rw[hc]at b;obtain⟨F,p⟩:=PE hc;obtain⟨a',G,m⟩:=u n cells y F b;subst G;rw[Oq]at p;exact⟨a',m,p⟩
  have:∀n,n≤len→∃xs:List α,xs.length=n∧(∀a∈xs,Q a)∧∀i x,xs[i]? =some x→∀j v,(f x)[j]? =some v→aR w.heap (adr (adr a (i*sz)) j)=some v:=by
   intro n;induction n with
   |zero=>exact fun _=>⟨[],rfl,(fun a A=>by cases A),fun i x hx=>by simp at hx⟩
   |succ n ih=>
    intro V;obtain⟨xs,C,m,hx⟩:=ih (by omega);obtain⟨a',E,B⟩:=key n (by omega);refine⟨xs++ [a'],by simp[C],fun z hz=>?_,fun i x hi=>?_⟩
    ·rcases List.mem_append.1 hz with hz|hz
     ·exact m z hz
     ·rw[List.mem_singleton.1 hz];exact E
    ·by_cases M:i<n
     ·rw[List.getElem?_append_left (by omega)]at hi
      exact hx i x hi
     ·rw[List.getElem?_append_right (by omega)]at hi
      have:i-xs.length=0:=by
       have:=(aF.1 hi).1;simp at this;omega
      rw[this]at hi;simp only[List.getElem?_cons_zero,Option.some.injEq]at hi;subst hi;have:i=n:=by omega
      subst this;exact B
  obtain⟨xs,D,m,hx⟩:=this len (ao _);refine⟨⟨some a,len,cap⟩,xs,S,T,hm,⟨D.symm,c,fun _=>⟨a,rfl,id,fun i v hv=>?_⟩⟩,m⟩
  obtain⟨o,hz⟩:(∀x,(f x).length=sz)∧0<sz:=⟨fun x=>(c x).1,by
   cases xs with
   |nil=>simp at hv
   |cons x _=>exact(c x).2⟩
  have hi:i<(xs.flatMap f).length:=(aF.1 hv).1;rw[ma o]at hi;have k:i/sz<xs.length:=Nat.div_lt_of_lt_mul (by rw[kQ];exact hi);have O:i%sz<sz:=Nat.mod_lt _ hz;have e:i=i/sz*sz+i%sz:=by rw[kQ];exact(Nat.div_add_mod i sz).symm
  have I:=wK o xs (i/sz) (i%sz) xs[i/sz] (ag k) O;rw[←e]at I;rw[I]at hv;have:=hx (i/sz) _ (ag k) (i%sz) v hv;rw[AA,←e]at this;exact this
theorem yb{P:Program}(c:laidOutB P=true){W W':World}(a:Below W.heap.size W W'):∀{ts:List TypeId} {vs:List Value} {ds:List (DataW H)} {ps:List MemPlace},(∀t∈ts,P.readableRec t=true∧t<P.types.size)→
  DataW.TrodAll enc P W 0 (fun _=>true) true ts vs ds ps→(∀x∈ps,x.block<W.heap.size)→DataW.TrodAll enc P W' 0 (fun b=>decide (b<W.heap.size)) true ts vs ds ps
 | [],[],[],_,_,h,_=>h
 |t::ts,v::vs,d::ds,ps,hr,h,hlt=>by
  obtain⟨p,q,g,i,rfl⟩:=h;exact⟨p,q,Below.trod c (hr t (aE ..)).1 (hr t (aE ..)).2 g a fun x hx=>hlt x (f7 _ hx),
   yb c a (fun t f=>hr t (List.mem_cons_of_mem _ f)) i fun x hx=>hlt x (List.mem_append_right _ hx),rfl⟩
 | [],_::_,_,_,_,h,_=>h.elim
 | [],[],_::_,_,_,h,_=>h.elim
 |_::_,[],_,_,_,h,_=>h.elim
 |_::_,_::_,[],_,_,h,_=>h.elim
theorem Cq:∀{ts:List TypeId} {vs:List Value} {ds:List (DataW H)} {ps:List MemPlace},DataW.TrodAll enc P w base sp held ts vs ds ps→ds.length=ts.length
 | [],[],[],_,_=>rfl
 |t::ts,v::vs,d::ds,ps,h=>by
  obtain⟨p,q,b,a,rfl⟩:=h;rw[aV,aV,Cq a]
 | [],_::_,_,_,h=>h.elim
 | [],[],_::_,_,h=>h.elim
 |_::_,[],_,_,h=>h.elim
 |_::_,_::_,[],_,h=>h.elim
theorem xp{t:TypeId}{ts:List TypeId}{vs:List Value}{ds:List (DataW H)}{ps:List MemPlace}(h:DataW.TrodAll enc P w base sp held (t::ts) vs ds ps):
  ∃v vs' d ds' p q,vs=v::vs'∧ds=d::ds'∧DataW.Trod enc P w base sp held t v d p∧DataW.TrodAll enc P w base sp held ts vs' ds' q:=by
 cases vs with
 |nil=>exact h.elim
 |cons v vs=>cases ds with
  |nil=>exact h.elim
  |cons d ds=>
   obtain⟨p,q,a,b,_⟩:=h;exact⟨v,vs,d,ds,p,q,rfl,rfl,a,b⟩
theorem Ql{vs:List Value}{ds:List (DataW H)}{ps:List MemPlace}(h:DataW.TrodAll enc P w base sp held [] vs ds ps):vs= []:=by
 cases vs with
 |nil=>rfl
 |cons v vs=>exact h.elim
end
end Go.Lift
namespace Go.Lift
open Go Go.ChangeShapes Go.WideShapes Go.ChangeAt Go.RowKit
section
variable {H:Type} {enc:TypeId×Value→H}
theorem Q2{C:Checked}{os:Os}{f:FuncId}{fn:Func}{s:ChangeSpec}{ts:List TypeId}{tb:TypeId}(y:fn.params.toList=ts)(m:fn.resultTypes.toList= [tb])(z:C.prog.underlying tb=some .bool)(hv:s.vars= [])
  (A:∀(ds:List (DataW H)),ds.length=ts.length→(s.fn H ds).results= [.lit (.bool true)]∧(s.fn H ds).args=ds∧(s.fn H ds).vars= [])
  {listed:List (String×DataW Unit)}(own:ownKnob C.prog.godebug=none)(E:laidOutB C.prog=true)(u:∀t∈ts,C.prog.readableRec t=true∧t<C.prog.types.size)(a:os.Started)(d:C.prog.inits.idxOf? f=none)(L:C.prog.funcs[f]? =some fn)
  (c:∃(w:World) (tape:Tape) (i:Input),w.os=os∧(w.forCall tape i).Shaped C.prog∧i.vars= []∧Input.okWide C.prog (w.forCall tape i) .any w.heap.size f i∧
   ((s.pre enc C.prog fn [] false (w.forCall tape i).memory i.args∧laidMetH C.prog listed (w.forCall tape i).memory)∧sizedMet enc C.prog fn (OpenSpec.ofChange s) false (w.forCall tape i).memory i.args)∧({}:Assume).holds C.prog (lone (Frame.enter C.prog f i.args .normal) [] (w.forCall tape i)))
  (o:∀(args:Array Value) (w:World),(callFunc f args).run C.prog w=.ok (.enter f args) w)
  (hc:∀(W:World) (N:Nat) (args:List Value) (ds:List (DataW H)) (p:List MemPlace),(∀(j:Nat) t v,ts[j]? =some t→args[j]? =some v→Value.okWide C.prog W .any N t v)→laidMetH C.prog listed W→DataW.TrodAll enc C.prog W 0 (fun _=>true) true ts args ds p→
   HC C.prog f args [.c .bool] (fun b h'=>b=true∧Upd No W.heap h') W.heap):
  ReturnsInHanded {} C os f .any (fun w args=>(s.pre enc C.prog fn [] false w args∧laidMetH C.prog listed w)∧sizedMet enc C.prog fn (OpenSpec.ofChange s) false w args) (s.post enc C.prog fn false true false false):=by
 refine returnsInHanded_of_change_and (X:=fun w _=>laidMetH C.prog listed w) (fun _ _ _ O h=>h.of_heap O) own a d L c ?_
 intro W N args ds gs G F S _ _ hL _;have B:=S;obtain⟨p,q,J,R,rfl,hfz,Y⟩:=S;rw[y]at J;rw[hv]at R;obtain⟨rfl,rfl⟩:=trodVars_none R;have D:ds.length=ts.length:=Cq J;have Q:∀x∈p,x.block<W.heap.size:=fun x hx=>B.lt x (f7 _ hx)
 obtain⟨hr,ha,M⟩:=A ds D;have O:=hc W N args.toList ds p (fun j t v n K=>F j t v (by rw[←bE,y];exact n) (by rw[←bE];exact K)) hL J
 rcases O.run W rfl with⟨_,T⟩|⟨v,w',V,_⟩
 ·have e:args.toList.toArray=args:=by simp
  rw[e]at T;refine T.mono ?_;rintro e w' ⟨n,t,rfl,Z,I⟩;have g:t=true:=Z;subst g;refine⟨.bool true,rfl,ds,[],p++ [],[],p,[],B,?_,?_,?_,?_,fun h=>by cases h⟩
  ·rw[m,bT,hr]
   have:fn.resultTypes.size=1:=by have:=congrArg List.length m;simpa using this
   rw[this];refine⟨[],[],⟨1,?_⟩,rfl,rfl⟩;simp[DataW.trod,z,Value.cells]
  ·rw[y,bT,ha]
   exact yb E ⟨n.os,n.tape,n.output,I.size,fun k P=>I.same k P id⟩ u J Q
  ·rw[hv,bT,M];rfl
  ·exact Below.frame ⟨n.os,n.tape,n.output,I.size,fun k P=>I.same k P id⟩ _
 ·rw[o]at V;cases V
end
end Go.Lift
