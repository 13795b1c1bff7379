/- A part of the proof that the named laws of this program answer true, whatever the input. -/
import Derived.Test.YtajpljopgikpgaaGreatDoorLift3
import Derived.ProofKit
import Derived.SizedLaws
import Derived.LaidMore
import Derived.LaidHandle
import Derived.OpenShut
import Derived.Stop.Joined
open Array renaming getElem?_toList→bJ
open List renaming getElem?_eq_some_iff→bm,getElem?_eq_getElem→af,mem_cons_self→av,mem_append_left→di,length_cons→az,append_nil→bh
open Nat renaming le_refl→aj,mul_comm→kP
namespace Go.Lift
open Go Go.ChangeShapes Go.WideShapes Go.ChangeAt Go.RowKit
section
variable {H:Type} {enc:TypeId×Value→H} {P:Program} {w:World} {base:Nat} {sp:Nat→Bool} {held:Bool}
theorem OC(a:Addr)(n:Nat):a.add n=adr a n:=by
 cases n with
 |zero=>rfl
 |succ n=>simp[Addr.add,adr]
theorem PK{a:Addr}{n:Nat}{cs:List Value}(h:w.cells? base a n=some cs):cs.length=n∧∀j v,cs[j]? =some v→aJ w.heap (adr a j)=some v:=by
 obtain⟨_,b,hc⟩:=World.cells?_some h;refine⟨b,fun j v hv=>?_⟩
 have c:j<n:=by rw[←b];exact(bm.1 hv).1
 have:=hc j c;rw[OC,hv]at this;exact this
theorem NP{fuel:Nat}{t e:TypeId}{cs:List Value}{x:DataW H×List MemPlace}(R:P.underlying t=some (.slice e))(h:DataW.trod enc P w base sp held fuel t cs=some x)
  {α:Type}(f:α→List Value){b:Nat}(F:P.cellsOf e=b)(d:∀x,(f x).length=b∧0<b)(Q:α→Prop)
  (I:∀fuel (cells:List Value) y,cells.length=b→DataW.trod enc P w base sp held fuel e cells=some y→∃a,cells=f a∧Q a):
  ∃(s:SliceV) (xs:List α),cs= [.slice s.a s.len s.cap]∧s.len≤s.cap∧s.cap≤maxLen∧Sl f b No w.heap s xs∧∀a∈xs,Q a:=by
 rcases DataW.trod_slice R h with⟨U,_⟩|⟨a,len,cap,g,L,n,_,M,_,V,S,hm,K,k,_⟩
 ·exact⟨⟨none,0,0⟩,[],U,aj _,Nat.zero_le _,Sl.nil d,fun a G=>by cases G⟩
 ·have key:∀i,i<len→∃a',Q a'∧∀j v,(f a')[j]? =some v→aJ w.heap (adr (adr a (i*b)) j)=some v:=fun i hi=>by
   have c:=k i hi;rw[F]at c;have:∃y,g[i]? =some y:=⟨_,af (by omega)⟩;obtain⟨y,N⟩:=this;rw[N]at c;cases hc:w.cells? base (a.add (i*b)) b with
   |none=>rw[hc]at c;cases c
   |some cells=>
    rw[hc]at c;obtain⟨D,m⟩:=PK hc;obtain⟨a',C,o⟩:=I n cells y D c;subst C;rw[OC]at m;exact⟨a',o,m⟩
  have:∀n,n≤len→∃xs:List α,xs.length=n∧(∀a∈xs,Q a)∧∀i x,xs[i]? =some x→∀j v,(f x)[j]? =some v→aJ w.heap (adr (adr a (i*b)) j)=some v:=by
   intro n;induction n with
   |zero=>exact fun _=>⟨[],rfl,(fun a G=>by cases G),fun i x hx=>by simp at hx⟩
   |succ n ih=>
    intro W;obtain⟨xs,E,o,hx⟩:=ih (by omega);obtain⟨a',A,u⟩:=key n (by omega);refine⟨xs++ [a'],by simp[E],fun z hz=>?_,fun i x hi=>?_⟩
    ·rcases List.mem_append.1 hz with hz|hz
     ·exact o z hz
     ·rw[List.mem_singleton.1 hz];exact A
    ·by_cases T:i<n
     ·rw[List.getElem?_append_left (by omega)]at hi
      exact hx i x hi
     ·rw[List.getElem?_append_right (by omega)]at hi
      have:i-xs.length=0:=by
       have:=(bm.1 hi).1;simp at this;omega
      rw[this]at hi;simp only[List.getElem?_cons_zero,Option.some.injEq]at hi;subst hi;have:i=n:=by omega
      subst this;exact u
  obtain⟨xs,B,o,hx⟩:=this len (aj _);refine⟨⟨some a,len,cap⟩,xs,M,S,hm,⟨B.symm,d,fun _=>⟨a,rfl,id,fun i v hv=>?_⟩⟩,o⟩
  obtain⟨q,hz⟩:(∀x,(f x).length=b)∧0<b:=⟨fun x=>(d x).1,by
   cases xs with
   |nil=>simp at hv
   |cons x _=>exact(d x).2⟩
  have hi:i<(xs.flatMap f).length:=(bm.1 hv).1;rw[mf q]at hi;have p:i/b<xs.length:=Nat.div_lt_of_lt_mul (by rw[kP];exact hi);have O:i%b<b:=Nat.mod_lt _ hz;have e:i=i/b*b+i%b:=by rw[kP];exact(Nat.div_add_mod i b).symm
  have J:=wE q xs (i/b) (i%b) xs[i/b] (af p) O;rw[←e]at J;rw[J]at hv;have:=hx (i/b) _ (af p) (i%b) v hv;rw[Ay,←e]at this;exact this
theorem xW{P:Program}(a:laidOutB P=true){W W':World}(c:Below W.heap.size W W'):∀{ts:List TypeId} {vs:List Value} {ds:List (DataW H)} {ps:List MemPlace},(∀t∈ts,P.readableRec t=true∧t<P.types.size)→
  DataW.TrodAll enc P W 0 (fun _=>true) true ts vs ds ps→(∀x∈ps,x.block<W.heap.size)→DataW.TrodAll enc P W' 0 (fun b=>decide (b<W.heap.size)) true ts vs ds ps
 | [],[],[],_,_,h,_=>h
 |t::ts,v::vs,d::ds,ps,hr,h,hlt=>by
  obtain⟨p,q,f,e,rfl⟩:=h;exact⟨p,q,Below.trod a (hr t (av ..)).1 (hr t (av ..)).2 f c fun x hx=>hlt x (di _ hx),
   xW a c (fun t g=>hr t (List.mem_cons_of_mem _ g)) e fun x hx=>hlt x (List.mem_append_right _ hx),rfl⟩
 | [],_::_,_,_,_,h,_=>h.elim
 | [],[],_::_,_,_,h,_=>h.elim
 |_::_,[],_,_,_,h,_=>h.elim
 |_::_,_::_,[],_,_,h,_=>h.elim
theorem Ce:∀{ts:List TypeId} {vs:List Value} {ds:List (DataW H)} {ps:List MemPlace},DataW.TrodAll enc P w base sp held ts vs ds ps→ds.length=ts.length
 | [],[],[],_,_=>rfl
 |t::ts,v::vs,d::ds,ps,h=>by
  obtain⟨p,q,b,a,rfl⟩:=h;rw[az,az,Ce a]
 | [],_::_,_,_,h=>h.elim
 | [],[],_::_,_,h=>h.elim
 |_::_,[],_,_,h=>h.elim
 |_::_,_::_,[],_,h=>h.elim
theorem ut{t:TypeId}{ts:List TypeId}{vs:List Value}{ds:List (DataW H)}{ps:List MemPlace}(h:DataW.TrodAll enc P w base sp held (t::ts) vs ds ps):
  ∃v vs' d ds' p q,vs=v::vs'∧ds=d::ds'∧DataW.Trod enc P w base sp held t v d p∧DataW.TrodAll enc P w base sp held ts vs' ds' q:=by
 cases vs with
 |nil=>exact h.elim
 |cons v vs=>cases ds with
  |nil=>exact h.elim
  |cons d ds=>
   obtain⟨p,q,b,a,_⟩:=h;exact⟨v,vs,d,ds,p,q,rfl,rfl,b,a⟩
theorem Qs{vs:List Value}{ds:List (DataW H)}{ps:List MemPlace}(h:DataW.TrodAll enc P w base sp held [] vs ds ps):vs= []:=by
 cases vs with
 |nil=>rfl
 |cons v vs=>exact h.elim
end
end Go.Lift
namespace Go.Lift
open Go Go.ChangeShapes Go.WideShapes Go.ChangeAt Go.RowKit
section
variable {H:Type} {enc:TypeId×Value→H}
theorem Rf{C:Checked}{os:Os}{f:FuncId}{fn:Func}{s:ChangeSpec}{ts:List TypeId}{tb:TypeId}(A:fn.params.toList=ts)(m:fn.resultTypes.toList= [tb])(y:C.prog.underlying tb=some .bool)(hv:s.vars= [])
  (z:∀(ds:List (DataW H)),ds.length=ts.length→(s.fn H ds).results= [.lit (.bool true)]∧(s.fn H ds).args=ds∧(s.fn H ds).vars= [])
  {listed:List (String×DataW Unit)}(own:ownKnob C.prog.godebug=none)(B:laidOutB C.prog=true)(u:∀t∈ts,C.prog.readableRec t=true∧t<C.prog.types.size)(c:os.Started)(d:C.prog.inits.idxOf? f=none)(L:C.prog.funcs[f]? =some fn)
  (a:∃(w:World) (tape:Tape) (i:Input),w.os=os∧(w.forCall tape i).Shaped C.prog∧i.vars= []∧Input.okWide C.prog (w.forCall tape i) .any w.heap.size f i∧
   ((s.pre enc C.prog fn [] false (w.forCall tape i).memory i.args∧laidMetH C.prog listed (w.forCall tape i).memory)∧sizedMet enc C.prog fn (OpenSpec.ofChange s) false (w.forCall tape i).memory i.args)∧({}:Assume).holds C.prog (lone (Frame.enter C.prog f i.args .normal) [] (w.forCall tape i)))
  (o:∀(args:Array Value) (w:World),(callFunc f args).run C.prog w=.ok (.enter f args) w)
  (hc:∀(W:World) (O:Nat) (args:List Value) (ds:List (DataW H)) (p:List MemPlace),(∀(j:Nat) t v,ts[j]? =some t→args[j]? =some v→Value.okWide C.prog W .any O t v)→laidMetH C.prog listed W→DataW.TrodAll enc C.prog W 0 (fun _=>true) true ts args ds p→
   HC C.prog f args [.c .bool] (fun b h'=>b=true∧Upd No W.heap h') W.heap):
  ReturnsInHanded {} C os f .any (fun w args=>(s.pre enc C.prog fn [] false w args∧laidMetH C.prog listed w)∧sizedMet enc C.prog fn (OpenSpec.ofChange s) false w args) (s.post enc C.prog fn false true false false):=by
 refine returnsInHanded_of_change_and (X:=fun w _=>laidMetH C.prog listed w) (fun _ _ _ K h=>h.of_heap K) own c d L a ?_
 intro W O args ds gs G D S _ _ V _;have F:=S;obtain⟨p,q,I,T,rfl,Z,hnd⟩:=S;rw[A]at I;rw[hv]at T;obtain⟨rfl,rfl⟩:=trodVars_none T;have E:ds.length=ts.length:=Ce I;have P:∀x∈p,x.block<W.heap.size:=fun x hx=>F.lt x (di _ hx)
 obtain⟨hr,ha,M⟩:=z ds E;have K:=hc W O args.toList ds p (fun j t v n N=>D j t v (by rw[←bJ,A];exact n) (by rw[←bJ];exact N)) V I
 rcases K.run W rfl with⟨_,U⟩|⟨v,w',R,_⟩
 ·have e:args.toList.toArray=args:=by simp
  rw[e]at U;refine U.mono ?_;rintro e w' ⟨n,t,rfl,Y,J⟩;have g:t=true:=Y;subst g;refine⟨.bool true,rfl,ds,[],p++ [],[],p,[],F,?_,?_,?_,?_,fun h=>by cases h⟩
  ·rw[m,bh,hr]
   have:fn.resultTypes.size=1:=by have:=congrArg List.length m;simpa using this
   rw[this];refine⟨[],[],⟨1,?_⟩,rfl,rfl⟩;simp[DataW.trod,y,Value.cells]
  ·rw[A,bh,ha]
   exact xW B ⟨n.os,n.tape,n.output,J.size,fun k Q=>J.same k Q id⟩ u I P
  ·rw[hv,bh,M];rfl
  ·exact Below.frame ⟨n.os,n.tape,n.output,J.size,fun k Q=>J.same k Q id⟩ _
 ·rw[o]at R;cases R
end
end Go.Lift
