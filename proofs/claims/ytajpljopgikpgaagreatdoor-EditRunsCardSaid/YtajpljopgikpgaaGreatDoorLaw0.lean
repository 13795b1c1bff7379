/- A part of the proof that the named laws of this program answer true, whatever the input. -/
import Derived.Test.YtajpljopgikpgaaGreatDoorLift3
import Derived.ProofKit
import Derived.SizedLaws
import Derived.LaidMore
import Derived.LaidHandle
import Derived.OpenShut
import Derived.Stop.Joined
open Array renaming getElem?_toList→bp
open List renaming getElem?_eq_some_iff→aW,getElem?_eq_getElem→af,mem_cons_self→az,mem_append_left→dG,length_cons→aN,append_nil→bP
open Nat renaming le_refl→ao,mul_comm→jV
namespace Go.Lift
open Go Go.ChangeShapes Go.WideShapes Go.ChangeAt Go.RowKit
section
variable {H:Type} {enc:TypeId×Value→H} {P:Program} {w:World} {base:Nat} {sp:Nat→Bool} {held:Bool}
theorem Mw(a:Addr)(n:Nat):a.add n=adr a n:=by
 cases n with
 |zero=>rfl
 |succ n=>simp[Addr.add,adr]
theorem NB{a:Addr}{n:Nat}{cs:List Value}(h:w.cells? base a n=some cs):cs.length=n∧∀j v,cs[j]? =some v→aM w.heap (adr a j)=some v:=by
 obtain⟨_,b,hc⟩:=World.cells?_some h;refine⟨b,fun j v hv=>?_⟩
 have c:j<n:=by rw[←b];exact(aW.1 hv).1
 have:=hc j c;rw[Mw,hv]at this;exact this
theorem LJ{fuel:Nat}{t e:TypeId}{cs:List Value}{x:DataW H×List MemPlace}(V:P.underlying t=some (.slice e))(h:DataW.trod enc P w base sp held fuel t cs=some x)
  {α:Type}(f:α→List Value){b:Nat}(B:P.cellsOf e=b)(d:∀x,(f x).length=b∧0<b)(Q:α→Prop)
  (A:∀fuel (cells:List Value) y,cells.length=b→DataW.trod enc P w base sp held fuel e cells=some y→∃a,cells=f a∧Q a):
  ∃(s:SliceV) (xs:List α),cs= [.slice s.a s.len s.cap]∧s.len≤s.cap∧s.cap≤maxLen∧Sl f b No w.heap s xs∧∀a∈xs,Q a:=by
 rcases DataW.trod_slice V h with⟨N,_⟩|⟨a,len,cap,k,K,n,_,T,_,X,R,hm,L,g,_⟩
 ·exact⟨⟨none,0,0⟩,[],N,ao _,Nat.zero_le _,Sl.nil d,fun a C=>by cases C⟩
 ·have key:∀i,i<len→∃a',Q a'∧∀j v,(f a')[j]? =some v→aM w.heap (adr (adr a (i*b)) j)=some v:=fun i hi=>by
   have c:=g i hi;rw[B]at c;have:∃y,k[i]? =some y:=⟨_,af (by omega)⟩;obtain⟨y,S⟩:=this;rw[S]at c;cases hc:w.cells? base (a.add (i*b)) b with
   |none=>rw[hc]at c;cases c
   |some cells=>
    rw[hc]at c;obtain⟨u,o⟩:=NB hc;obtain⟨a',E,q⟩:=A n cells y u c;subst E;rw[Mw]at o;exact⟨a',q,o⟩
  have:∀n,n≤len→∃xs:List α,xs.length=n∧(∀a∈xs,Q a)∧∀i x,xs[i]? =some x→∀j v,(f x)[j]? =some v→aM w.heap (adr (adr a (i*b)) j)=some v:=by
   intro n;induction n with
   |zero=>exact fun _=>⟨[],rfl,(fun a C=>by cases C),fun i x hx=>by simp at hx⟩
   |succ n ih=>
    intro W;obtain⟨xs,G,q,hx⟩:=ih (by omega);obtain⟨a',I,F⟩:=key n (by omega);refine⟨xs++ [a'],by simp[G],fun z hz=>?_,fun i x hi=>?_⟩
    ·rcases List.mem_append.1 hz with hz|hz
     ·exact q z hz
     ·rw[List.mem_singleton.1 hz];exact I
    ·by_cases M:i<n
     ·rw[List.getElem?_append_left (by omega)]at hi
      exact hx i x hi
     ·rw[List.getElem?_append_right (by omega)]at hi
      have:i-xs.length=0:=by
       have:=(aW.1 hi).1;simp at this;omega
      rw[this]at hi;simp only[List.getElem?_cons_zero,Option.some.injEq]at hi;subst hi;have:i=n:=by omega
      subst this;exact F
  obtain⟨xs,D,q,hx⟩:=this len (ao _);refine⟨⟨some a,len,cap⟩,xs,T,R,hm,⟨D.symm,d,fun _=>⟨a,rfl,id,fun i v hv=>?_⟩⟩,q⟩
  obtain⟨p,hz⟩:(∀x,(f x).length=b)∧0<b:=⟨fun x=>(d x).1,by
   cases xs with
   |nil=>simp at hv
   |cons x _=>exact(d x).2⟩
  have hi:i<(xs.flatMap f).length:=(aW.1 hv).1;rw[kZ p]at hi;have m:i/b<xs.length:=Nat.div_lt_of_lt_mul (by rw[jV];exact hi);have O:i%b<b:=Nat.mod_lt _ hz;have e:i=i/b*b+i%b:=by rw[jV];exact(Nat.div_add_mod i b).symm
  have J:=vj p xs (i/b) (i%b) xs[i/b] (af m) O;rw[←e]at J;rw[J]at hv;have:=hx (i/b) _ (af m) (i%b) v hv;rw[y3,←e]at this;exact this
theorem wL{P:Program}(c:laidOutB P=true){W W':World}(a:Below W.heap.size W W'):∀{ts:List TypeId} {vs:List Value} {ds:List (DataW H)} {ps:List MemPlace},(∀t∈ts,P.readableRec t=true∧t<P.types.size)→
  DataW.TrodAll enc P W 0 (fun _=>true) true ts vs ds ps→(∀x∈ps,x.block<W.heap.size)→DataW.TrodAll enc P W' 0 (fun b=>decide (b<W.heap.size)) true ts vs ds ps
 | [],[],[],_,_,h,_=>h
 |t::ts,v::vs,d::ds,ps,hr,h,hlt=>by
  obtain⟨p,q,e,f,rfl⟩:=h;exact⟨p,q,Below.trod c (hr t (az ..)).1 (hr t (az ..)).2 e a fun x hx=>hlt x (dG _ hx),
   wL c a (fun t g=>hr t (List.mem_cons_of_mem _ g)) f fun x hx=>hlt x (List.mem_append_right _ hx),rfl⟩
 | [],_::_,_,_,_,h,_=>h.elim
 | [],[],_::_,_,_,h,_=>h.elim
 |_::_,[],_,_,_,h,_=>h.elim
 |_::_,_::_,[],_,_,h,_=>h.elim
theorem AV:∀{ts:List TypeId} {vs:List Value} {ds:List (DataW H)} {ps:List MemPlace},DataW.TrodAll enc P w base sp held ts vs ds ps→ds.length=ts.length
 | [],[],[],_,_=>rfl
 |t::ts,v::vs,d::ds,ps,h=>by
  obtain⟨p,q,b,a,rfl⟩:=h;rw[aN,aN,AV a]
 | [],_::_,_,_,h=>h.elim
 | [],[],_::_,_,h=>h.elim
 |_::_,[],_,_,h=>h.elim
 |_::_,_::_,[],_,h=>h.elim
theorem qh{t:TypeId}{ts:List TypeId}{vs:List Value}{ds:List (DataW H)}{ps:List MemPlace}(h:DataW.TrodAll enc P w base sp held (t::ts) vs ds ps):
  ∃v vs' d ds' p q,vs=v::vs'∧ds=d::ds'∧DataW.Trod enc P w base sp held t v d p∧DataW.TrodAll enc P w base sp held ts vs' ds' q:=by
 cases vs with
 |nil=>exact h.elim
 |cons v vs=>cases ds with
  |nil=>exact h.elim
  |cons d ds=>
   obtain⟨p,q,a,b,_⟩:=h;exact⟨v,vs,d,ds,p,q,rfl,rfl,a,b⟩
theorem Of{vs:List Value}{ds:List (DataW H)}{ps:List MemPlace}(h:DataW.TrodAll enc P w base sp held [] vs ds ps):vs= []:=by
 cases vs with
 |nil=>rfl
 |cons v vs=>exact h.elim
end
end Go.Lift
namespace Go.Lift
open Go Go.ChangeShapes Go.WideShapes Go.ChangeAt Go.RowKit
section
variable {H:Type} {enc:TypeId×Value→H}
theorem O2{C:Checked}{os:Os}{f:FuncId}{fn:Func}{s:ChangeSpec}{ts:List TypeId}{tb:TypeId}(y:fn.params.toList=ts)(m:fn.resultTypes.toList= [tb])(z:C.prog.underlying tb=some .bool)(hv:s.vars= [])
  (A:∀(ds:List (DataW H)),ds.length=ts.length→(s.fn H ds).results= [.lit (.bool true)]∧(s.fn H ds).args=ds∧(s.fn H ds).vars= [])
  {listed:List (String×DataW Unit)}(own:ownKnob C.prog.godebug=none)(E:laidOutB C.prog=true)(u:∀t∈ts,C.prog.readableRec t=true∧t<C.prog.types.size)(c:os.Started)(g:C.prog.inits.idxOf? f=none)(L:C.prog.funcs[f]? =some fn)
  (a:∃(w:World) (tape:Tape) (i:Input),w.os=os∧(w.forCall tape i).Shaped C.prog∧i.vars= []∧Input.okWide C.prog (w.forCall tape i) .any w.heap.size f i∧
   ((s.pre enc C.prog fn [] false (w.forCall tape i).memory i.args∧laidMetH C.prog listed (w.forCall tape i).memory)∧sizedMet enc C.prog fn (OpenSpec.ofChange s) false (w.forCall tape i).memory i.args)∧({}:Assume).holds C.prog (lone (Frame.enter C.prog f i.args .normal) [] (w.forCall tape i)))
  (o:∀(args:Array Value) (w:World),(callFunc f args).run C.prog w=.ok (.enter f args) w)
  (hc:∀(W:World) (Q:Nat) (args:List Value) (ds:List (DataW H)) (p:List MemPlace),(∀(j:Nat) t v,ts[j]? =some t→args[j]? =some v→Value.okWide C.prog W .any Q t v)→laidMetH C.prog listed W→DataW.TrodAll enc C.prog W 0 (fun _=>true) true ts args ds p→
   HC C.prog f args [.c .bool] (fun b h'=>b=true∧Upd No W.heap h') W.heap):
  ReturnsInHanded {} C os f .any (fun w args=>(s.pre enc C.prog fn [] false w args∧laidMetH C.prog listed w)∧sizedMet enc C.prog fn (OpenSpec.ofChange s) false w args) (s.post enc C.prog fn false true false false):=by
 refine returnsInHanded_of_change_and (X:=fun w _=>laidMetH C.prog listed w) (fun _ _ _ N h=>h.of_heap N) own c g L a ?_
 intro W Q args ds gs G B S _ _ hL _;have D:=S;obtain⟨p,q,J,T,rfl,hfz,Z⟩:=S;rw[y]at J;rw[hv]at T;obtain⟨rfl,rfl⟩:=trodVars_none T;have F:ds.length=ts.length:=AV J;have K:∀x∈p,x.block<W.heap.size:=fun x hx=>D.lt x (dG _ hx)
 obtain⟨hr,Y,P⟩:=A ds F;have N:=hc W Q args.toList ds p (fun j t v n O=>B j t v (by rw[←bp,y];exact n) (by rw[←bp];exact O)) hL J
 rcases N.run W rfl with⟨_,R⟩|⟨v,w',V,_⟩
 ·have e:args.toList.toArray=args:=by simp
  rw[e]at R;refine R.mono ?_;rintro e w' ⟨n,t,rfl,hb,I⟩;have d:t=true:=hb;subst d;refine⟨.bool true,rfl,ds,[],p++ [],[],p,[],D,?_,?_,?_,?_,fun h=>by cases h⟩
  ·rw[m,bP,hr]
   have:fn.resultTypes.size=1:=by have:=congrArg List.length m;simpa using this
   rw[this];refine⟨[],[],⟨1,?_⟩,rfl,rfl⟩;simp[DataW.trod,z,Value.cells]
  ·rw[y,bP,Y]
   exact wL E ⟨n.os,n.tape,n.output,I.size,fun k M=>I.same k M id⟩ u J K
  ·rw[hv,bP,P];rfl
  ·exact Below.frame ⟨n.os,n.tape,n.output,I.size,fun k M=>I.same k M id⟩ _
 ·rw[o]at V;cases V
end
end Go.Lift
