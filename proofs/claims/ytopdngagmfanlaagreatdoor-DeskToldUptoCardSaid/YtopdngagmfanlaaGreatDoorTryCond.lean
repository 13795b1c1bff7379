/- A part of the proof that the named laws of this program answer true, whatever the input. -/
import Derived.Test.YtopdngagmfanlaaGreatDoorLaw0
import Derived.Deep.DeepHandedRow
import Derived.Deep.DeepWitnessRowRef
open Array renaming getElem?_toList→aV
open List renaming getElem?_eq_getElem→ag,getElem?_eq_some_iff→aQ,append_nil→dd
open Nat renaming le_refl→ax,mul_comm→pm
namespace Go.Lift
open Go Go.ChangeShapes Go.WideShapes Go.ChangeAt Go.RowKit
section
variable {H:Type} {enc:TypeId×Value→H}
end
section
variable {H:Type} {enc:TypeId×Value→H} {P:Program} {w:World} {base:Nat} {sp:Nat→Bool} {held:Bool}
theorem Rn{d:Nat}{t e:TypeId}{cs:List Value}{x:DataW H×List MemPlace}(V:P.underlying t=some (.slice e))(h:DataW.trod enc P w base sp held d t cs=some x)
  {α:Type}(f:α→List Value){b:Nat}(L:P.cellsOf e=b)(g:∀x,(f x).length=b∧0<b)(Q:α→Prop)
  (D:∀d (cells:List Value) y,cells.length=b→(∃els spare,x.1=.slice els spare∧y.1∈els)→DataW.trod enc P w base sp held d e cells=some y→∃a,cells=f a∧Q a):
  ∃(s:SliceV) (xs:List α),cs= [.slice s.a s.len s.cap]∧s.len≤s.cap∧s.cap≤maxLen∧Sl f b No w.heap s xs∧∀a∈xs,Q a:=by
 rcases DataW.trod_slice V h with⟨U,_⟩|⟨a,len,cap,m,R,n,_,X,E,hb,W,hm,T,k,_⟩
 ·exact⟨⟨none,0,0⟩,[],U,ax _,Nat.zero_le _,Sl.nil g,fun a F=>by cases F⟩
 ·have key:∀i,i<len→∃a',Q a'∧∀j v,(f a')[j]? =some v→aC w.heap (adr (adr a (i*b)) j)=some v:=fun i hi=>by
   have c:=k i hi;rw[L]at c;have:∃y,m[i]? =some y:=⟨_,ag (by omega)⟩;obtain⟨y,S⟩:=this;rw[S]at c;cases hc:w.cells? base (a.add (i*b)) b with
   |none=>rw[hc]at c;cases c
   |some cells=>
    rw[hc]at c;obtain⟨C,A⟩:=Ja hc;obtain⟨a',K,u⟩:=D n cells y C ⟨_,_,by rw[E],List.mem_map_of_mem (List.mem_of_getElem? S)⟩ c
    subst K;rw[Kr]at A;exact⟨a',u,A⟩
  have:∀n,n≤len→∃xs:List α,xs.length=n∧(∀a∈xs,Q a)∧∀i x,xs[i]? =some x→∀j v,(f x)[j]? =some v→aC w.heap (adr (adr a (i*b)) j)=some v:=by
   intro n;induction n with
   |zero=>exact fun _=>⟨[],rfl,(fun a F=>by cases F),fun i x hx=>by simp at hx⟩
   |succ n ih=>
    intro hn;obtain⟨xs,G,u,hx⟩:=ih (by omega);obtain⟨a',N,I⟩:=key n (by omega);refine⟨xs++ [a'],by simp[G],fun z o=>?_,fun i x hi=>?_⟩
    ·rcases List.mem_append.1 o with o|o
     ·exact u z o
     ·rw[List.mem_singleton.1 o];exact N
    ·by_cases Z:i<n
     ·rw[List.getElem?_append_left (by omega)]at hi
      exact hx i x hi
     ·rw[List.getElem?_append_right (by omega)]at hi
      have:i-xs.length=0:=by
       have:=(aQ.1 hi).1;simp at this;omega
      rw[this]at hi;simp only[List.getElem?_cons_zero,Option.some.injEq]at hi;subst hi;have:i=n:=by omega
      subst this;exact I
  obtain⟨xs,J,u,hx⟩:=this len (ax _);refine⟨⟨some a,len,cap⟩,xs,X,W,hm,⟨J.symm,g,fun _=>⟨a,rfl,id,fun i v B=>?_⟩⟩,u⟩
  obtain⟨p,o⟩:(∀x,(f x).length=b)∧0<b:=⟨fun x=>(g x).1,by
   cases xs with
   |nil=>simp at B
   |cons x _=>exact(g x).2⟩
  have hi:i<(xs.flatMap f).length:=(aQ.1 B).1;rw[i7 p]at hi;have q:i/b<xs.length:=Nat.div_lt_of_lt_mul (by rw[pm];exact hi);have Y:i%b<b:=Nat.mod_lt _ o;have e:i=i/b*b+i%b:=by rw[pm];exact(Nat.div_add_mod i b).symm
  have O:=tR p xs (i/b) (i%b) xs[i/b] (ag q) Y;rw[←e]at O;rw[O]at B;have:=hx (i/b) _ (ag q) (i%b) v B;rw[yO,←e]at this;exact this
end
section
variable {H:Type} {enc:TypeId×Value→H}
theorem Sy{C:Checked}{os:Os}{f:FuncId}{fn:Func}{s:ChangeSpec}{us:OpenSpec}{k:(H:Type)→List (DataW H)→Bool}{ts:List TypeId}{tb:TypeId}(S:us={OpenSpec.ofChange s with cond:=some k})(u:fn.params.toList=ts)(m:fn.resultTypes.toList= [tb])(z:C.prog.underlying tb=some .bool)(U:s.vars= [])
  (o:∀(ds:List (DataW H)),ds.length=ts.length→(s.fn H ds).results= [.lit (.bool true)]∧(s.fn H ds).args=ds∧(s.fn H ds).vars= [])
  {listed:List (String×DataW Unit)}(own:ownKnob C.prog.godebug=none)(laid:laidOutB C.prog=true)(B:∀t∈ts,C.prog.readableRec t=true∧t<C.prog.types.size)(c:os.Started)(g:C.prog.inits.idxOf? f=none)(O:C.prog.funcs[f]? =some fn)
  (a:∃(w:World) (tape:Tape) (i:Input),w.os=os∧(w.forCall tape i).Shaped C.prog∧i.vars= []∧Input.okWide C.prog (w.forCall tape i) .any w.heap.size f i∧
   us.preRow enc C.prog fn [] false listed (w.forCall tape i).memory i.args∧({}:Assume).holds C.prog (lone (Frame.enter C.prog f i.args .normal) [] (w.forCall tape i)))
  (y:∀(args:Array Value) (w:World),(callFunc f args).run C.prog w=.ok (.enter f args) w)
  (hc:∀(W:World) (Q:Nat) (args:List Value) (ds:List (DataW H)) (p:List MemPlace),(∀(j:Nat) t v,ts[j]? =some t→args[j]? =some v→Value.okWide C.prog W .any Q t v)→laidMetH C.prog listed W→k H ds=true→DataW.TrodAll enc C.prog W 0 (fun _=>true) true ts args ds p→
   HC C.prog f args [.c .bool] (fun b h'=>b=true∧Upd No W.heap h') W.heap) (F:Stop.Interp):
  ReturnsInHanded {} C os f .any (us.preRow enc C.prog fn [] false listed) ((us.at F).post enc C.prog fn false true false false):=by
 subst S;refine returnsInHanded_of_row own c g O a ?_;intro W Q args ds gs K I V _ A _ hL _ _;have E:=V;obtain⟨p,q,L,T,rfl,hfz,Z⟩:=V;rw[u]at L;rw[show({OpenSpec.ofChange s with cond:=some k}:OpenSpec).vars= []from U]at T
 obtain⟨rfl,rfl⟩:=trodVars_none T;have G:ds.length=ts.length:=DE L;have N:∀x∈p,x.block<W.heap.size:=fun x hx=>E.lt x (List.mem_append_left _ hx)
 obtain⟨hr,ha,R⟩:=o ds G;have D:=A k rfl;rw[dd]at D;have hh:=hc W Q args.toList ds p (fun j t v n P=>I j t v (by rw[←aV,u];exact n) (by rw[←aV];exact P)) hL D L
 rcases hh.run W rfl with⟨_,Y⟩|⟨v,w',X,_⟩
 ·have e:args.toList.toArray=args:=by simp
  rw[e]at Y;refine Y.mono ?_;rintro e w' ⟨n,t,rfl,hb,J⟩;have d:t=true:=hb;subst d;refine⟨.bool true,rfl,(show s.post enc C.prog fn false true false false W args (.bool true) w' from⟨ds,[],p++ [],[],p,[],E,?_,?_,?_,?_,fun h=>by cases h⟩)⟩
  ·rw[m,dd,hr]
   have:fn.resultTypes.size=1:=by have:=congrArg List.length m;simpa using this
   rw[this];refine⟨[],[],⟨1,?_⟩,rfl,rfl⟩;simp[DataW.trod,z,Value.cells]
  ·rw[u,dd,ha]
   exact zw laid ⟨n.os,n.tape,n.output,J.size,fun k D=>J.same k D id⟩ B L N
  ·rw[U,dd,R];rfl
  ·exact Below.frame ⟨n.os,n.tape,n.output,J.size,fun k D=>J.same k D id⟩ _
 ·rw[y]at X;cases X
end
end Go.Lift
