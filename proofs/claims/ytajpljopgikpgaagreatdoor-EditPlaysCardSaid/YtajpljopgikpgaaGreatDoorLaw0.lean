/- A part of the proof that the named laws of this program answer true, whatever the input. -/
import Derived.Test.YtajpljopgikpgaaGreatDoorLift3
import Derived.ProofKit
import Derived.SizedLaws
import Derived.LaidMore
import Derived.LaidHandle
import Derived.OpenShut
import Derived.Stop.Joined
open Array renaming getElem?_toList→bR
open List renaming getElem?_eq_some_iff→aG,getElem?_eq_getElem→ag,mem_cons_self→aC,mem_append_left→dQ,length_cons→aH,append_nil→bB
open Nat renaming le_refl→ao,mul_comm→mc
namespace Go.Lift
open Go Go.ChangeShapes Go.WideShapes Go.ChangeAt Go.RowKit
section
variable {H:Type} {enc:TypeId×Value→H} {P:Program} {w:World} {base:Nat} {sp:Nat→Bool} {held:Bool}
theorem SI(a:Addr)(n:Nat):a.add n=adr a n:=by
 cases n with
 |zero=>rfl
 |succ n=>simp[Addr.add,adr]
theorem Ue{a:Addr}{n:Nat}{cs:List Value}(h:w.cells? base a n=some cs):cs.length=n∧∀j v,cs[j]? =some v→aR w.heap (adr a j)=some v:=by
 obtain⟨_,b,hc⟩:=World.cells?_some h;refine⟨b,fun j v hv=>?_⟩
 have c:j<n:=by rw[←b];exact(aG.1 hv).1
 have:=hc j c;rw[SI,hv]at this;exact this
theorem XD{fuel:Nat}{t e:TypeId}{cs:List Value}{x:DataW H×List MemPlace}(N:P.underlying t=some (.slice e))(h:DataW.trod enc P w base sp held fuel t cs=some x)
  {α:Type}(f:α→List Value){sz:Nat}(G:P.cellsOf e=sz)(c:∀x,(f x).length=sz∧0<sz)(Q:α→Prop)
  (C:∀fuel (cells:List Value) y,cells.length=sz→DataW.trod enc P w base sp held fuel e cells=some y→∃a,cells=f a∧Q a):
  ∃(s:SliceV) (xs:List α),cs= [.slice s.a s.len s.cap]∧s.len≤s.cap∧s.cap≤maxLen∧Sl f sz No w.heap s xs∧∀a∈xs,Q a:=by
 rcases DataW.trod_slice N h with⟨R,_⟩|⟨a,len,cap,d,J,n,_,M,_,V,L,hm,I,g,_⟩
 ·exact⟨⟨none,0,0⟩,[],R,ao _,Nat.zero_le _,Sl.nil c,fun a D=>by cases D⟩
 ·have key:∀i,i<len→∃a',Q a'∧∀j v,(f a')[j]? =some v→aR w.heap (adr (adr a (i*sz)) j)=some v:=fun i hi=>by
   have b:=g i hi;rw[G]at b;have:∃y,d[i]? =some y:=⟨_,ag (by omega)⟩;obtain⟨y,O⟩:=this;rw[O]at b;cases hc:w.cells? base (a.add (i*sz)) sz with
   |none=>rw[hc]at b;cases b
   |some cells=>
    rw[hc]at b;obtain⟨A,p⟩:=Ue hc;obtain⟨a',u,o⟩:=C n cells y A b;subst u;rw[SI]at p;exact⟨a',o,p⟩
  have:∀n,n≤len→∃xs:List α,xs.length=n∧(∀a∈xs,Q a)∧∀i x,xs[i]? =some x→∀j v,(f x)[j]? =some v→aR w.heap (adr (adr a (i*sz)) j)=some v:=by
   intro n;induction n with
   |zero=>exact fun _=>⟨[],rfl,(fun a D=>by cases D),fun i x hx=>by simp at hx⟩
   |succ n ih=>
    intro W;obtain⟨xs,B,o,hx⟩:=ih (by omega);obtain⟨a',E,F⟩:=key n (by omega);refine⟨xs++ [a'],by simp[B],fun z hz=>?_,fun i x hi=>?_⟩
    ·rcases List.mem_append.1 hz with hz|hz
     ·exact o z hz
     ·rw[List.mem_singleton.1 hz];exact E
    ·by_cases T:i<n
     ·rw[List.getElem?_append_left (by omega)]at hi
      exact hx i x hi
     ·rw[List.getElem?_append_right (by omega)]at hi
      have:i-xs.length=0:=by
       have:=(aG.1 hi).1;simp at this;omega
      rw[this]at hi;simp only[List.getElem?_cons_zero,Option.some.injEq]at hi;subst hi;have:i=n:=by omega
      subst this;exact F
  obtain⟨xs,q,o,hx⟩:=this len (ao _);refine⟨⟨some a,len,cap⟩,xs,M,L,hm,⟨q.symm,c,fun _=>⟨a,rfl,id,fun i v hv=>?_⟩⟩,o⟩
  obtain⟨k,hz⟩:(∀x,(f x).length=sz)∧0<sz:=⟨fun x=>(c x).1,by
   cases xs with
   |nil=>simp at hv
   |cons x _=>exact(c x).2⟩
  have hi:i<(xs.flatMap f).length:=(aG.1 hv).1;rw[nu k]at hi;have m:i/sz<xs.length:=Nat.div_lt_of_lt_mul (by rw[mc];exact hi);have S:i%sz<sz:=Nat.mod_lt _ hz;have e:i=i/sz*sz+i%sz:=by rw[mc];exact(Nat.div_add_mod i sz).symm
  have K:=y4 k xs (i/sz) (i%sz) xs[i/sz] (ag m) S;rw[←e]at K;rw[K]at hv;have:=hx (i/sz) _ (ag m) (i%sz) v hv;rw[Db,←e]at this;exact this
theorem AG{P:Program}(c:laidOutB P=true){W W':World}(a:Below W.heap.size W W'):∀{ts:List TypeId} {vs:List Value} {ds:List (DataW H)} {ps:List MemPlace},(∀t∈ts,P.readableRec t=true∧t<P.types.size)→
  DataW.TrodAll enc P W 0 (fun _=>true) true ts vs ds ps→(∀x∈ps,x.block<W.heap.size)→DataW.TrodAll enc P W' 0 (fun b=>decide (b<W.heap.size)) true ts vs ds ps
 | [],[],[],_,_,h,_=>h
 |t::ts,v::vs,d::ds,ps,hr,h,hlt=>by
  obtain⟨p,q,g,f,rfl⟩:=h;exact⟨p,q,Below.trod c (hr t (aC ..)).1 (hr t (aC ..)).2 g a fun x hx=>hlt x (dQ _ hx),
   AG c a (fun t i=>hr t (List.mem_cons_of_mem _ i)) f fun x hx=>hlt x (List.mem_append_right _ hx),rfl⟩
 | [],_::_,_,_,_,h,_=>h.elim
 | [],[],_::_,_,_,h,_=>h.elim
 |_::_,[],_,_,_,h,_=>h.elim
 |_::_,_::_,[],_,_,h,_=>h.elim
theorem E2:∀{ts:List TypeId} {vs:List Value} {ds:List (DataW H)} {ps:List MemPlace},DataW.TrodAll enc P w base sp held ts vs ds ps→ds.length=ts.length
 | [],[],[],_,_=>rfl
 |t::ts,v::vs,d::ds,ps,h=>by
  obtain⟨p,q,b,a,rfl⟩:=h;rw[aH,aH,E2 a]
 | [],_::_,_,_,h=>h.elim
 | [],[],_::_,_,h=>h.elim
 |_::_,[],_,_,h=>h.elim
 |_::_,_::_,[],_,h=>h.elim
theorem zN{t:TypeId}{ts:List TypeId}{vs:List Value}{ds:List (DataW H)}{ps:List MemPlace}(h:DataW.TrodAll enc P w base sp held (t::ts) vs ds ps):
  ∃v vs' d ds' p q,vs=v::vs'∧ds=d::ds'∧DataW.Trod enc P w base sp held t v d p∧DataW.TrodAll enc P w base sp held ts vs' ds' q:=by
 cases vs with
 |nil=>exact h.elim
 |cons v vs=>cases ds with
  |nil=>exact h.elim
  |cons d ds=>
   obtain⟨p,q,b,a,_⟩:=h;exact⟨v,vs,d,ds,p,q,rfl,rfl,b,a⟩
theorem U6{vs:List Value}{ds:List (DataW H)}{ps:List MemPlace}(h:DataW.TrodAll enc P w base sp held [] vs ds ps):vs= []:=by
 cases vs with
 |nil=>rfl
 |cons v vs=>exact h.elim
end
end Go.Lift
namespace Go.Lift
open Go Go.ChangeShapes Go.WideShapes Go.ChangeAt Go.RowKit
section
variable {H:Type} {enc:TypeId×Value→H}
theorem VT{C:Checked}{os:Os}{f:FuncId}{fn:Func}{s:ChangeSpec}{ts:List TypeId}{tb:TypeId}(o:fn.params.toList=ts)(n:fn.resultTypes.toList= [tb])(y:C.prog.underlying tb=some .bool)(hv:s.vars= [])
  (u:∀(ds:List (DataW H)),ds.length=ts.length→(s.fn H ds).results= [.lit (.bool true)]∧(s.fn H ds).args=ds∧(s.fn H ds).vars= [])
  {listed:List (String×DataW Unit)}(own:ownKnob C.prog.godebug=none)(D:laidOutB C.prog=true)(z:∀t∈ts,C.prog.readableRec t=true∧t<C.prog.types.size)(a:os.Started)(g:C.prog.inits.idxOf? f=none)(O:C.prog.funcs[f]? =some fn)
  (c:∃(w:World) (tape:Tape) (i:Input),w.os=os∧(w.forCall tape i).Shaped C.prog∧i.vars= []∧Input.okWide C.prog (w.forCall tape i) .any w.heap.size f i∧
   ((s.pre enc C.prog fn [] false (w.forCall tape i).memory i.args∧laidMetH C.prog listed (w.forCall tape i).memory)∧sizedMet enc C.prog fn (OpenSpec.ofChange s) false (w.forCall tape i).memory i.args)∧({}:Assume).holds C.prog (lone (Frame.enter C.prog f i.args .normal) [] (w.forCall tape i)))
  (A:∀(args:Array Value) (w:World),(callFunc f args).run C.prog w=.ok (.enter f args) w)
  (hc:∀(W:World) (N:Nat) (args:List Value) (ds:List (DataW H)) (p:List MemPlace),(∀(j:Nat) t v,ts[j]? =some t→args[j]? =some v→Value.okWide C.prog W .any N t v)→laidMetH C.prog listed W→DataW.TrodAll enc C.prog W 0 (fun _=>true) true ts args ds p→
   HC C.prog f args [.c .bool] (fun b h'=>b=true∧Upd No W.heap h') W.heap):
  ReturnsInHanded {} C os f .any (fun w args=>(s.pre enc C.prog fn [] false w args∧laidMetH C.prog listed w)∧sizedMet enc C.prog fn (OpenSpec.ofChange s) false w args) (s.post enc C.prog fn false true false false):=by
 refine returnsInHanded_of_change_and (X:=fun w _=>laidMetH C.prog listed w) (fun _ _ _ Q h=>h.of_heap Q) own a g O c ?_
 intro W N args ds gs I F V _ _ hL _;have E:=V;obtain⟨p,q,J,R,rfl,Z,Y⟩:=V;rw[o]at J;rw[hv]at R;obtain⟨rfl,rfl⟩:=trodVars_none R;have B:ds.length=ts.length:=E2 J;have K:∀x∈p,x.block<W.heap.size:=fun x hx=>E.lt x (dQ _ hx)
 obtain⟨hr,ha,L⟩:=u ds B;have Q:=hc W N args.toList ds p (fun j t v m M=>F j t v (by rw[←bR,o];exact m) (by rw[←bR];exact M)) hL J
 rcases Q.run W rfl with⟨_,S⟩|⟨v,w',T,_⟩
 ·have e:args.toList.toArray=args:=by simp
  rw[e]at S;refine S.mono ?_;rintro e w' ⟨m,t,rfl,hb,G⟩;have d:t=true:=hb;subst d;refine⟨.bool true,rfl,ds,[],p++ [],[],p,[],E,?_,?_,?_,?_,fun h=>by cases h⟩
  ·rw[n,bB,hr]
   have:fn.resultTypes.size=1:=by have:=congrArg List.length n;simpa using this
   rw[this];refine⟨[],[],⟨1,?_⟩,rfl,rfl⟩;simp[DataW.trod,y,Value.cells]
  ·rw[o,bB,ha]
   exact AG D ⟨m.os,m.tape,m.output,G.size,fun k P=>G.same k P id⟩ z J K
  ·rw[hv,bB,L];rfl
  ·exact Below.frame ⟨m.os,m.tape,m.output,G.size,fun k P=>G.same k P id⟩ _
 ·rw[A]at T;cases T
end
end Go.Lift
