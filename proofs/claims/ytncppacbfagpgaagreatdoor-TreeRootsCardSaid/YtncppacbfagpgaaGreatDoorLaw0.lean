/- A part of the proof that the named laws of this program answer true, whatever the input. -/
import Derived.Test.YtncppacbfagpgaaGreatDoorLift3
import Derived.ProofKit
import Derived.SizedLaws
import Derived.LaidMore
import Derived.LaidHandle
import Derived.OpenShut
import Derived.Stop.Joined
open Array renaming getElem?_toList→bM
open List renaming getElem?_eq_some_iff→bl,getElem?_eq_getElem→af,mem_cons_self→ar,mem_append_left→du,length_cons→ax,append_nil→aW
open Nat renaming le_refl→ao,mul_comm→jZ
namespace Go.Lift
open Go Go.ChangeShapes Go.WideShapes Go.ChangeAt Go.RowKit
section
variable {H:Type} {enc:TypeId×Value→H} {P:Program} {w:World} {base:Nat} {sp:Nat→Bool} {held:Bool}
theorem K5(a:Addr)(n:Nat):a.add n=adr a n:=by
 cases n with
 |zero=>rfl
 |succ n=>simp[Addr.add,adr]
theorem L2{a:Addr}{n:Nat}{cs:List Value}(h:w.cells? base a n=some cs):cs.length=n∧∀j v,cs[j]? =some v→aN w.heap (adr a j)=some v:=by
 obtain⟨_,hl,hc⟩:=World.cells?_some h;refine⟨hl,fun j v hv=>?_⟩
 have hj:j<n:=by rw[←hl];exact(bl.1 hv).1
 have:=hc j hj;rw[K5,hv]at this;exact this
theorem Ou{fuel:Nat}{t e:TypeId}{cs:List Value}{x:DataW H×List MemPlace}(ht:P.underlying t=some (.slice e))(h:DataW.trod enc P w base sp held fuel t cs=some x)
  {α:Type}(f:α→List Value){sz:Nat}(hsz:P.cellsOf e=sz)(hne:∀x,(f x).length=sz∧0<sz)(Q:α→Prop)
  (hel:∀fuel (cells:List Value) y,cells.length=sz→DataW.trod enc P w base sp held fuel e cells=some y→∃a,cells=f a∧Q a):
  ∃(s:SliceV) (xs:List α),cs= [.slice s.a s.len s.cap]∧s.len≤s.cap∧s.cap≤maxLen∧Sl f sz No w.heap s xs∧∀a∈xs,Q a:=by
 rcases DataW.trod_slice ht h with⟨h0,_⟩|⟨a,len,cap,elems,rest,n,_,h1,_,hb,hl,hm,hlen,heach,_⟩
 ·exact⟨⟨none,0,0⟩,[],h0,ao _,Nat.zero_le _,Sl.nil hne,fun a ha=>by cases ha⟩
 ·have key:∀i,i<len→∃a',Q a'∧∀j v,(f a')[j]? =some v→aN w.heap (adr (adr a (i*sz)) j)=some v:=fun i hi=>by
   have hi':=heach i hi;rw[hsz]at hi';have:∃y,elems[i]? =some y:=⟨_,af (by omega)⟩;obtain⟨y,hy⟩:=this;rw[hy]at hi';cases hc:w.cells? base (a.add (i*sz)) sz with
   |none=>rw[hc]at hi';cases hi'
   |some cells=>
    rw[hc]at hi';obtain⟨hcl,hcc⟩:=L2 hc;obtain⟨a',ha',hq⟩:=hel n cells y hcl hi';subst ha';rw[K5]at hcc;exact⟨a',hq,hcc⟩
  have:∀n,n≤len→∃xs:List α,xs.length=n∧(∀a∈xs,Q a)∧∀i x,xs[i]? =some x→∀j v,(f x)[j]? =some v→aN w.heap (adr (adr a (i*sz)) j)=some v:=by
   intro n;induction n with
   |zero=>exact fun _=>⟨[],rfl,(fun a ha=>by cases ha),fun i x hx=>by simp at hx⟩
   |succ n ih=>
    intro hn;obtain⟨xs,hl',hq,hx⟩:=ih (by omega);obtain⟨a',hqa,hca⟩:=key n (by omega);refine⟨xs++ [a'],by simp[hl'],fun z hz=>?_,fun i x hi=>?_⟩
    ·rcases List.mem_append.1 hz with hz|hz
     ·exact hq z hz
     ·rw[List.mem_singleton.1 hz];exact hqa
    ·by_cases hin:i<n
     ·rw[List.getElem?_append_left (by omega)]at hi
      exact hx i x hi
     ·rw[List.getElem?_append_right (by omega)]at hi
      have:i-xs.length=0:=by
       have:=(bl.1 hi).1;simp at this;omega
      rw[this]at hi;simp only[List.getElem?_cons_zero,Option.some.injEq]at hi;subst hi;have:i=n:=by omega
      subst this;exact hca
  obtain⟨xs,hxl,hq,hx⟩:=this len (ao _);refine⟨⟨some a,len,cap⟩,xs,h1,hl,hm,⟨hxl.symm,hne,fun _=>⟨a,rfl,id,fun i v hv=>?_⟩⟩,hq⟩
  obtain⟨hfl,hz⟩:(∀x,(f x).length=sz)∧0<sz:=⟨fun x=>(hne x).1,by
   cases xs with
   |nil=>simp at hv
   |cons x _=>exact(hne x).2⟩
  have hi:i<(xs.flatMap f).length:=(bl.1 hv).1;rw[lr hfl]at hi;have hq1:i/sz<xs.length:=Nat.div_lt_of_lt_mul (by rw[jZ];exact hi);have hr:i%sz<sz:=Nat.mod_lt _ hz;have e:i=i/sz*sz+i%sz:=by rw[jZ];exact(Nat.div_add_mod i sz).symm
  have hg:=uy hfl xs (i/sz) (i%sz) xs[i/sz] (af hq1) hr;rw[←e]at hg;rw[hg]at hv;have:=hx (i/sz) _ (af hq1) (i%sz) v hv;rw[yb,←e]at this;exact this
theorem vK{P:Program}(hl:laidOutB P=true){W W':World}(hb:Below W.heap.size W W'):∀{ts:List TypeId} {vs:List Value} {ds:List (DataW H)} {ps:List MemPlace},(∀t∈ts,P.readableRec t=true∧t<P.types.size)→
  DataW.TrodAll enc P W 0 (fun _=>true) true ts vs ds ps→(∀x∈ps,x.block<W.heap.size)→DataW.TrodAll enc P W' 0 (fun b=>decide (b<W.heap.size)) true ts vs ds ps
 | [],[],[],_,_,h,_=>h
 |t::ts,v::vs,d::ds,ps,hr,h,hlt=>by
  obtain⟨p,q,h1,h2,rfl⟩:=h;exact⟨p,q,Below.trod hl (hr t (ar ..)).1 (hr t (ar ..)).2 h1 hb fun x hx=>hlt x (du _ hx),
   vK hl hb (fun t ht=>hr t (List.mem_cons_of_mem _ ht)) h2 fun x hx=>hlt x (List.mem_append_right _ hx),rfl⟩
 | [],_::_,_,_,_,h,_=>h.elim
 | [],[],_::_,_,_,h,_=>h.elim
 |_::_,[],_,_,_,h,_=>h.elim
 |_::_,_::_,[],_,_,h,_=>h.elim
theorem zC:∀{ts:List TypeId} {vs:List Value} {ds:List (DataW H)} {ps:List MemPlace},DataW.TrodAll enc P w base sp held ts vs ds ps→ds.length=ts.length
 | [],[],[],_,_=>rfl
 |t::ts,v::vs,d::ds,ps,h=>by
  obtain⟨p,q,h1,h2,rfl⟩:=h;rw[ax,ax,zC h2]
 | [],_::_,_,_,h=>h.elim
 | [],[],_::_,_,h=>h.elim
 |_::_,[],_,_,h=>h.elim
 |_::_,_::_,[],_,h=>h.elim
theorem yJ{t:TypeId}{ts:List TypeId}{vs:List Value}{ds:List (DataW H)}{ps:List MemPlace}(h:DataW.TrodAll enc P w base sp held (t::ts) vs ds ps):
  ∃v vs' d ds' p q,vs=v::vs'∧ds=d::ds'∧DataW.Trod enc P w base sp held t v d p∧DataW.TrodAll enc P w base sp held ts vs' ds' q:=by
 cases vs with
 |nil=>exact h.elim
 |cons v vs=>cases ds with
  |nil=>exact h.elim
  |cons d ds=>
   obtain⟨p,q,h1,h2,_⟩:=h;exact⟨v,vs,d,ds,p,q,rfl,rfl,h1,h2⟩
theorem MJ{vs:List Value}{ds:List (DataW H)}{ps:List MemPlace}(h:DataW.TrodAll enc P w base sp held [] vs ds ps):vs= []:=by
 cases vs with
 |nil=>rfl
 |cons v vs=>exact h.elim
end
end Go.Lift
namespace Go.Lift
open Go Go.ChangeShapes Go.WideShapes Go.ChangeAt Go.RowKit
section
variable {H:Type} {enc:TypeId×Value→H}
theorem Nt{C:Checked}{os:Os}{f:FuncId}{fn:Func}{s:ChangeSpec}{ts:List TypeId}{tb:TypeId}(hts:fn.params.toList=ts)(hres:fn.resultTypes.toList= [tb])(hbool:C.prog.underlying tb=some .bool)(hv:s.vars= [])
  (hspec:∀(ds:List (DataW H)),ds.length=ts.length→(s.fn H ds).results= [.lit (.bool true)]∧(s.fn H ds).args=ds∧(s.fn H ds).vars= [])
  {listed:List (String×DataW Unit)}(own:ownKnob C.prog.godebug=none)(laid:laidOutB C.prog=true)(hread:∀t∈ts,C.prog.readableRec t=true∧t<C.prog.types.size)(started:os.Started)(noInit:C.prog.inits.idxOf? f=none)(hfn:C.prog.funcs[f]? =some fn)
  (witness:∃(w:World) (tape:Tape) (i:Input),w.os=os∧(w.forCall tape i).Shaped C.prog∧i.vars= []∧Input.okWide C.prog (w.forCall tape i) .any w.heap.size f i∧
   ((s.pre enc C.prog fn [] false (w.forCall tape i).memory i.args∧laidMetH C.prog listed (w.forCall tape i).memory)∧sizedMet enc C.prog fn (OpenSpec.ofChange s) false (w.forCall tape i).memory i.args)∧({}:Assume).holds C.prog (lone (Frame.enter C.prog f i.args .normal) [] (w.forCall tape i)))
  (hcall:∀(args:Array Value) (w:World),(callFunc f args).run C.prog w=.ok (.enter f args) w)
  (hc:∀(W:World) (b0:Nat) (args:List Value) (ds:List (DataW H)) (p:List MemPlace),(∀(j:Nat) t v,ts[j]? =some t→args[j]? =some v→Value.okWide C.prog W .any b0 t v)→laidMetH C.prog listed W→DataW.TrodAll enc C.prog W 0 (fun _=>true) true ts args ds p→
   HC C.prog f args [.c .bool] (fun b h'=>b=true∧Upd No W.heap h') W.heap):
  ReturnsInHanded {} C os f .any (fun w args=>(s.pre enc C.prog fn [] false w args∧laidMetH C.prog listed w)∧sizedMet enc C.prog fn (OpenSpec.ofChange s) false w args) (s.post enc C.prog fn false true false false):=by
 refine returnsInHanded_of_change_and (X:=fun w _=>laidMetH C.prog listed w) (fun _ _ _ hh h=>h.of_heap hh) own started noInit hfn witness ?_
 intro W b0 args ds gs before hval hW _ _ hL _;have hW':=hW;obtain⟨p,q,hA,hV,rfl,hfz,hnd⟩:=hW;rw[hts]at hA;rw[hv]at hV;obtain⟨rfl,rfl⟩:=trodVars_none hV;have hlen:ds.length=ts.length:=zC hA;have hlt:∀x∈p,x.block<W.heap.size:=fun x hx=>hW'.lt x (du _ hx)
 obtain⟨hr,ha,hvv⟩:=hspec ds hlen;have hh:=hc W b0 args.toList ds p (fun j t v ht hv'=>hval j t v (by rw[←bM,hts];exact ht) (by rw[←bM];exact hv')) hL hA
 rcases hh.run W rfl with⟨_,h2⟩|⟨v,w',h1,_⟩
 ·have e:args.toList.toArray=args:=by simp
  rw[e]at h2;refine h2.mono ?_;rintro e w' ⟨ht,t,rfl,hb,hu⟩;have hbool':t=true:=hb;subst hbool';refine⟨.bool true,rfl,ds,[],p++ [],[],p,[],hW',?_,?_,?_,?_,fun h=>by cases h⟩
  ·rw[hres,aW,hr]
   have:fn.resultTypes.size=1:=by have:=congrArg List.length hres;simpa using this
   rw[this];refine⟨[],[],⟨1,?_⟩,rfl,rfl⟩;simp[DataW.trod,hbool,Value.cells]
  ·rw[hts,aW,ha]
   exact vK laid ⟨ht.os,ht.tape,ht.output,hu.size,fun k hk=>hu.same k hk id⟩ hread hA hlt
  ·rw[hv,aW,hvv];rfl
  ·exact Below.frame ⟨ht.os,ht.tape,ht.output,hu.size,fun k hk=>hu.same k hk id⟩ _
 ·rw[hcall]at h1;cases h1
end
end Go.Lift
