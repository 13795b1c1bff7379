/- A part of the proof that the named laws of this program answer true, whatever the input. -/
import Derived.Test.YtceikogjngfacaaGreatLift3
import Derived.ProofKit
import Derived.SizedLaws
open Array renaming getElem?_toList→bP
open List renaming getElem?_eq_some_iff→bv,getElem?_eq_getElem→ag,mem_cons_self→aD,mem_append_left→dw,length_cons→av,append_nil→bi,map_cons→bJ,filter_cons→fB
open List.Perm renaming refl→mR
open Nat renaming le_refl→ai,mul_comm→gf,le_of_lt→sQ
namespace Go.Lift
open Go Go.ChangeShapes Go.WideShapes Go.ChangeAt Go.RowKit
section
variable {H:Type} {enc:TypeId×Value→H} {P:Program} {w:World} {base:Nat} {sp:Nat→Bool} {held:Bool}
theorem Rc(a:Addr)(n:Nat):a.add n=adr a n:=by
 cases n with
 |zero=>rfl
 |succ n=>simp[Addr.add,adr]
theorem S9{a:Addr}{n:Nat}{cs:List Value}(h:w.cells? base a n=some cs):cs.length=n∧∀j v,cs[j]? =some v→bh w.heap (adr a j)=some v:=by
 obtain⟨_,b,hc⟩:=World.cells?_some h;refine⟨b,fun j v hv=>?_⟩
 have c:j<n:=by rw[←b];exact(bv.1 hv).1
 have:=hc j c;rw[Rc,hv]at this;exact this
theorem Wt{fuel:Nat}{t e:TypeId}{cs:List Value}{x:DataW H×List MemPlace}(U:P.underlying t=some (.slice e))(h:DataW.trod enc P w base sp held fuel t cs=some x)
  {α:Type}(f:α→List Value){sz:Nat}(B:P.cellsOf e=sz)(c:∀x,(f x).length=sz∧0<sz)(Q:α→Prop)
  (J:∀fuel (cells:List Value) y,cells.length=sz→DataW.trod enc P w base sp held fuel e cells=some y→∃a,cells=f a∧Q a):
  ∃(s:SliceV) (xs:List α),cs= [.slice s.a s.len s.cap]∧s.len≤s.cap∧s.cap≤maxLen∧Sl f sz No w.heap s xs∧∀a∈xs,Q a:=by
 rcases DataW.trod_slice U h with⟨T,_⟩|⟨a,len,cap,d,K,n,_,W,_,Y,R,hm,L,m,_⟩
 ·exact⟨⟨none,0,0⟩,[],T,ai _,Nat.zero_le _,Sl.nil c,fun a E=>by cases E⟩
 ·have key:∀i,i<len→∃a',Q a'∧∀j v,(f a')[j]? =some v→bh w.heap (adr (adr a (i*sz)) j)=some v:=fun i hi=>by
   have b:=m i hi;rw[B]at b;have:∃y,d[i]? =some y:=⟨_,ag (by omega)⟩;obtain⟨y,V⟩:=this;rw[V]at b;cases hc:w.cells? base (a.add (i*sz)) sz with
   |none=>rw[hc]at b;cases b
   |some cells=>
    rw[hc]at b;obtain⟨D,p⟩:=S9 hc;obtain⟨a',I,o⟩:=J n cells y D b;subst I;rw[Rc]at p;exact⟨a',o,p⟩
  have:∀n,n≤len→∃xs:List α,xs.length=n∧(∀a∈xs,Q a)∧∀i x,xs[i]? =some x→∀j v,(f x)[j]? =some v→bh w.heap (adr (adr a (i*sz)) j)=some v:=by
   intro n;induction n with
   |zero=>exact fun _=>⟨[],rfl,(fun a E=>by cases E),fun i x hx=>by simp at hx⟩
   |succ n ih=>
    intro X;obtain⟨xs,G,o,hx⟩:=ih (by omega);obtain⟨a',F,A⟩:=key n (by omega);refine⟨xs++ [a'],by simp[G],fun z g=>?_,fun i x hi=>?_⟩
    ·rcases List.mem_append.1 g with g|g
     ·exact o z g
     ·rw[List.mem_singleton.1 g];exact F
    ·by_cases O:i<n
     ·rw[List.getElem?_append_left (by omega)]at hi
      exact hx i x hi
     ·rw[List.getElem?_append_right (by omega)]at hi
      have:i-xs.length=0:=by
       have:=(bv.1 hi).1;simp at this;omega
      rw[this]at hi;simp only[List.getElem?_cons_zero,Option.some.injEq]at hi;subst hi;have:i=n:=by omega
      subst this;exact A
  obtain⟨xs,C,o,hx⟩:=this len (ai _);refine⟨⟨some a,len,cap⟩,xs,W,R,hm,⟨C.symm,c,fun _=>⟨a,rfl,id,fun i v hv=>?_⟩⟩,o⟩
  obtain⟨u,g⟩:(∀x,(f x).length=sz)∧0<sz:=⟨fun x=>(c x).1,by
   cases xs with
   |nil=>simp at hv
   |cons x _=>exact(c x).2⟩
  have hi:i<(xs.flatMap f).length:=(bv.1 hv).1;rw[jj u]at hi;have q:i/sz<xs.length:=Nat.div_lt_of_lt_mul (by rw[gf];exact hi);have S:i%sz<sz:=Nat.mod_lt _ g;have e:i=i/sz*sz+i%sz:=by rw[gf];exact(Nat.div_add_mod i sz).symm
  have N:=ux u xs (i/sz) (i%sz) xs[i/sz] (ag q) S;rw[←e]at N;rw[N]at hv;have:=hx (i/sz) _ (ag q) (i%sz) v hv;rw[CQ,←e]at this;exact this
theorem Ar{P:Program}(e:laidOutB P=true){W W':World}(c:Below W.heap.size W W'):∀{ts:List TypeId} {vs:List Value} {ds:List (DataW H)} {ps:List MemPlace},(∀t∈ts,P.readableRec t=true∧t<P.types.size)→
  DataW.TrodAll enc P W 0 (fun _=>true) true ts vs ds ps→(∀x∈ps,x.block<W.heap.size)→DataW.TrodAll enc P W' 0 (fun b=>decide (b<W.heap.size)) true ts vs ds ps
 | [],[],[],_,_,h,_=>h
 |t::ts,v::vs,d::ds,ps,hr,h,hlt=>by
  obtain⟨p,q,g,h2,rfl⟩:=h;exact⟨p,q,Below.trod e (hr t (aD ..)).1 (hr t (aD ..)).2 g c fun x hx=>hlt x (dw _ hx),
   Ar e c (fun t f=>hr t (List.mem_cons_of_mem _ f)) h2 fun x hx=>hlt x (List.mem_append_right _ hx),rfl⟩
 | [],_::_,_,_,_,h,_=>h.elim
 | [],[],_::_,_,_,h,_=>h.elim
 |_::_,[],_,_,_,h,_=>h.elim
 |_::_,_::_,[],_,_,h,_=>h.elim
theorem Ev:∀{ts:List TypeId} {vs:List Value} {ds:List (DataW H)} {ps:List MemPlace},DataW.TrodAll enc P w base sp held ts vs ds ps→ds.length=ts.length
 | [],[],[],_,_=>rfl
 |t::ts,v::vs,d::ds,ps,h=>by
  obtain⟨p,q,b,h2,rfl⟩:=h;rw[av,av,Ev h2]
 | [],_::_,_,_,h=>h.elim
 | [],[],_::_,_,h=>h.elim
 |_::_,[],_,_,h=>h.elim
 |_::_,_::_,[],_,h=>h.elim
theorem RH{t:TypeId}{ts:List TypeId}{vs:List Value}{ds:List (DataW H)}{ps:List MemPlace}(h:DataW.TrodAll enc P w base sp held (t::ts) vs ds ps):
  ∃v vs' d ds' p q,vs=v::vs'∧ds=d::ds'∧DataW.Trod enc P w base sp held t v d p∧DataW.TrodAll enc P w base sp held ts vs' ds' q:=by
 cases vs with
 |nil=>exact h.elim
 |cons v vs=>cases ds with
  |nil=>exact h.elim
  |cons d ds=>
   obtain⟨p,q,b,h2,_⟩:=h;exact⟨v,vs,d,ds,p,q,rfl,rfl,b,h2⟩
theorem TN{vs:List Value}{ds:List (DataW H)}{ps:List MemPlace}(h:DataW.TrodAll enc P w base sp held [] vs ds ps):vs= []:=by
 cases vs with
 |nil=>rfl
 |cons v vs=>exact h.elim
theorem law_lifted{C:Checked}{os:Os}{f:FuncId}{fn:Func}{s:ChangeSpec}{ts:List TypeId}{tb:TypeId}(u:fn.params.toList=ts)(o:fn.resultTypes.toList= [tb])(y:C.prog.underlying tb=some .bool)(hv:s.vars= [])
  (B:∀(ds:List (DataW H)),ds.length=ts.length→(s.fn H ds).results= [.lit (.bool true)]∧(s.fn H ds).args=ds∧(s.fn H ds).vars= [])
  (own:ownKnob C.prog.godebug=none)(F:laidOutB C.prog=true)(z:∀t∈ts,C.prog.readableRec t=true∧t<C.prog.types.size)(d:os.Started)(g:C.prog.inits.idxOf? f=none)(R:C.prog.funcs[f]? =some fn)
  (c:∃(w:World) (tape:Tape) (i:Input),w.os=os∧(w.forCall tape i).Shaped C.prog∧i.vars= []∧Input.okWide C.prog (w.forCall tape i) .any w.heap.size f i∧
   s.pre6 enc C.prog fn [] false (w.forCall tape i).memory i.args∧({}:Assume).holds C.prog (lone (Frame.enter C.prog f i.args .normal) [] (w.forCall tape i)))
  (A:∀(args:Array Value) (w:World),(callFunc f args).run C.prog w=.ok (.enter f args) w)
  (hc:∀(W:World) (N:Nat) (args:List Value) (ds:List (DataW H)) (p:List MemPlace),(∀(j:Nat) t v,ts[j]? =some t→args[j]? =some v→Value.okWide C.prog W .any N t v)→DataW.TrodAll enc C.prog W 0 (fun _=>true) true ts args ds p→
   HC C.prog f args [.c .bool] (fun b h'=>b=true∧Upd No W.heap h') W.heap):
  ReturnsInHanded {} C os f .any (s.pre6 enc C.prog fn [] false) (s.post enc C.prog fn false true false false):=by
 refine returnsInHanded_of_change own d g R c ?_;intro W N args ds gs J G T _ _;have E:=T;obtain⟨p,q,K,S,rfl,X,Y⟩:=T;rw[u]at K;rw[hv]at S;obtain⟨rfl,rfl⟩:=trodVars_none S;have D:ds.length=ts.length:=Ev K;have L:∀x∈p,x.block<W.heap.size:=fun x hx=>E.lt x (dw _ hx)
 obtain⟨Z,ha,O⟩:=B ds D;have V:=hc W N args.toList ds p (fun j t v n P=>G j t v (by rw[←bP,u];exact n) (by rw[←bP];exact P)) K
 rcases V.run W rfl with⟨_,h2⟩|⟨v,w',U,_⟩
 ·have e:args.toList.toArray=args:=by simp
  rw[e]at h2;refine h2.mono ?_;rintro e w' ⟨n,t,rfl,hb,I⟩;have m:t=true:=hb;subst m;refine⟨.bool true,rfl,ds,[],p++ [],[],p,[],E,?_,?_,?_,?_,fun h=>by cases h⟩
  ·rw[o,bi,Z]
   have:fn.resultTypes.size=1:=by have:=congrArg List.length o;simpa using this
   rw[this];refine⟨[],[],⟨1,?_⟩,rfl,rfl⟩;simp[DataW.trod,y,Value.cells]
  ·rw[u,bi,ha]
   exact Ar F ⟨n.os,n.tape,n.output,I.size,fun k Q=>I.same k Q id⟩ z K L
  ·rw[hv,bi,O];rfl
  ·exact Below.frame ⟨n.os,n.tape,n.output,I.size,fun k Q=>I.same k Q id⟩ _
 ·rw[A]at U;cases U
end
end Go.Lift
namespace Go.Lift
open Go
theorem SA{κ β:Type}[DecidableEq κ]{m:List (κ×β)}{k:κ}{v:β}(c:(m.map (·.1)).Nodup)(hm:(k,v)∈m):(m.map (·.1)).Perm (k::(Ag m k).map (·.1)):=by
 induction m with
 |nil=>cases hm
 |cons p m ih=>
  obtain⟨k',u⟩:=p;simp only[bJ,List.nodup_cons]at c;by_cases e:k'=k
  ·subst e
   have:Ag ((k',u)::m) k'=m:=by
    unfold Ag;rw[fB];simp only[ne_eq,not_true_eq_false,decide_false,Bool.false_eq_true,if_false];rw[List.filter_eq_self];intro q d;simp only[decide_not,Bool.not_eq_eq_eq_not,Bool.not_true,decide_eq_false_iff_not];intro f;exact c.1 (f▸List.mem_map.2 ⟨q,d,rfl⟩)
   rw[this];exact mR _
  ·have b:(k,v)∈m:=by
    rcases List.mem_cons.1 hm with h|h
    ·cases h;exact absurd rfl e
    ·exact h
   have:Ag ((k',u)::m) k=(k',u)::Ag m k:=by
    unfold Ag;rw[fB];simp[e]
   rw[this,bJ,bJ];exact((ih c.2 b).cons k').trans (List.Perm.swap ..)
theorem LoopP.imp{T:Type}{F G:(T→ae→Prop)→T→ae→Prop}{t:T}{h:ae}(l:LoopP G t h)(hi:∀I t h,G I t h→F I t h):LoopP F t h:=⟨fun I b=>l.run I fun t h c=>b t h (hi I t h c)⟩
theorem NextP.imp{a:Addr}{h:ae}{K g:Prop}{S j:MapEntry→ae→Prop}(n:NextP a h K S)(i:K→g)(w:∀e h,S e h→j e h):NextP a h g j:=by
 obtain⟨p,m,b,c,last,o,f|⟨r,es,d,f,h2,s,v,q⟩⟩:=n
 ·exact⟨p,m,b,c,last,o,.inl ⟨f.1,i f.2⟩⟩
 ·exact⟨p,m,b,c,last,o,.inr ⟨r,es,d,f,h2,s,fun x=>i (v x),fun e u x=>w _ _ (q e u x)⟩⟩
theorem G7{κ β:Type}[DecidableEq κ]{E:KeyE κ}{g:β→Value}{P:Program}{f:FuncId}{h:ae}{r bx:Nat}{t:TypeId}{m:List (κ×β)}(hm:MapAt E g h r m)(d:h[bx]? =some (.cells #[.map (some r)] t (0,0)))
  (hF:∀(y:Value) (i:ae) (K:Unit→ae→Prop),i[bx]? =some (.cells #[.map (some r)] t (0,0))→
   (∃c,(∃es,i[r]? =some (.map es c))∧∀h2,h2=i.push (.mapIter (some r) c #[] c)→
    LoopP (fun(I:Unit→ae→Prop) (_:Unit) h6=>NextP ⟨i.size,0,none⟩ h6 (K () h6) fun e h8=>∃x v,yW h8 i.size e∧e.key=E.enc x∧e.val=g v∧HV P y [E.enc x] [.c .bool] (fun b j=>CondP (!b) (K () j) (I () j)) h8) () h2)→
   HE P f ([]++ [y]++ [.pointer (some ⟨bx,0,none⟩)]) [] K i):
  Gives P (.func (.func f) #[] #[.pointer (some ⟨bx,0,none⟩)]) (fun x=> [E.enc x]) m.length (fun xs=>xs.Perm (m.map (·.1))) (fun b=>b=r∨b=bx) h:=by
 refine⟨fun b T=>T.elim (fun e=>e▸hm.lt) fun e=>e▸bc d,f,_,_,rfl,fun y J A M i K D R Z hq ha hk=>?_⟩
 have C:=hm.upd Z (hq r (.inl rfl));refine hF y i K (Z.get d (hq bx (.inr rfl))) ?_;obtain⟨c,X,Y⟩:=C.range;refine⟨c,X,fun h2 e=>?_⟩
 subst e;have Q:¬A r:=fun e=>ha r e (.inl rfl)
 have hr1:=C.lt;refine LoopP.ghost (fun(o:List κ×List (κ×β)×(Nat→Prop)) (_:Unit) j=>IterSt E g j i.size r m o.2.1∧J o.1 o.2.2 j∧Upd A i j∧(∀b,o.2.2 b→A b∨i.size<b)∧(o.1++o.2.1.map (·.1)).Perm (m.map (·.1))) (fun o=>o.2.1.length) ([],m,A)
  ⟨Y,D.keep _ _ _ _ (fun b=>b=i.size) R (Upd.push _ _ _) (fun b d e=>absurd (D.lt _ _ _ R b d) (by omega)),Upd.push _ _ _,fun b d=>.inl d,mR _⟩ ?_
 rintro I ⟨n,p,L⟩ ⟨⟩ j ⟨hi,q,G,w,H⟩ hI;simp only at hi q w H;have O:=hi.nodup;have B:¬L i.size:=fun e=>(w _ e).elim (fun e=>absurd (D.lt _ _ _ R _ e) (by omega)) fun e=>by omega
 have z:¬L r:=fun e=>(w _ e).elim Q fun e=>by omega
 have hs1:i.size<j.size:=by obtain⟨_,_,_,_,_,_,_,d,_⟩:=hi;exact bc d
 refine NextP.at (M:=(· =i.size)) hi rfl (fun he=>?_) fun k v u e h2 ek ev U W s=>⟨k,v,U,ek,ev,?_⟩
 ·subst he
  rw[List.map_nil,bi]at H;exact hk n L j H q G fun b d=>(w b d).imp id sQ
 ·have S:=D.keep _ _ _ _ _ q s (fun b d e=>B (e▸d))
  have hs2:=s.size;refine D.step n L h2 k _ S ?_ fun h3 A3 V F N=>ay.2 ?_
  ·have:=H.length_eq
   have:0<p.length:=List.length_pos_of_mem u;simp only[List.length_append,List.length_map]at*;omega
  ·refine hI (n++ [k],Ag p k,A3) () h3 ⟨W.upd F B z,V,?_,fun b d=>?_,?_⟩ (by
    simp only
    unfold Ag
    exact List.length_filter_lt_length_iff_exists.2 ⟨_,u,by simp⟩)
   ·exact(G.trans s fun b d=>.inr (by omega)).trans F fun b d=>(w b d).imp id sQ
   ·rcases N b d with h|h
    ·exact w b h
    ·exact .inr (by omega)
   ·simp only
    rw[List.append_assoc];exact((List.Perm.append_left n (SA O u).symm)).trans H
end Go.Lift
