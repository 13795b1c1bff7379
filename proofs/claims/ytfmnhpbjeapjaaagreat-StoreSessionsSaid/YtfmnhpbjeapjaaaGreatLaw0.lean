/- A part of the proof that the named laws of this program answer true, whatever the input. -/
import Derived.Test.YtfmnhpbjeapjaaaGreatLift3
import Derived.ProofKit
import Derived.SizedLaws
open Array renaming getElem?_toList→aN
open List renaming getElem?_eq_some_iff→bA,getElem?_eq_getElem→aA,mem_cons_self→aP,mem_append_left→gd,length_cons→aX,append_nil→dR,map_cons→aY,filter_cons→ba
open Nat renaming le_refl→av,mul_comm→oM
namespace Go.Lift
open Go Go.ChangeShapes Go.WideShapes Go.ChangeAt Go.RowKit
section
variable {H:Type} {enc:TypeId×Value→H} {P:Program} {w:World} {base:Nat} {sp:Nat→Bool} {held:Bool}
theorem KD(a:Addr)(n:Nat):a.add n=adr a n:=by
 cases n with
 |zero=>rfl
 |succ n=>simp[Addr.add,adr]
theorem Lw{a:Addr}{n:Nat}{cs:List Value}(h:w.cells? base a n=some cs):cs.length=n∧∀j v,cs[j]? =some v→aB w.heap (adr a j)=some v:=by
 obtain⟨_,b,hc⟩:=World.cells?_some h;refine⟨b,fun j v c=>?_⟩
 have d:j<n:=by rw[←b];exact(bA.1 c).1
 have:=hc j d;rw[KD,c]at this;exact this
theorem Og{fuel:Nat}{t e:TypeId}{cs:List Value}{x:DataW H×List MemPlace}(T:P.underlying t=some (.slice e))(h:DataW.trod enc P w base sp held fuel t cs=some x)
  {α:Type}(f:α→List Value){b:Nat}(F:P.cellsOf e=b)(g:∀x,(f x).length=b∧0<b)(Q:α→Prop)
  (D:∀fuel (cells:List Value) y,cells.length=b→DataW.trod enc P w base sp held fuel e cells=some y→∃a,cells=f a∧Q a):
  ∃(s:SliceV) (xs:List α),cs= [.slice s.a s.len s.cap]∧s.len≤s.cap∧s.cap≤maxLen∧Sl f b No w.heap s xs∧∀a∈xs,Q a:=by
 rcases DataW.trod_slice T h with⟨S,_⟩|⟨a,len,cap,k,O,n,_,X,_,hb,Y,hm,N,o,_⟩
 ·exact⟨⟨none,0,0⟩,[],S,av _,Nat.zero_le _,Sl.nil g,fun a G=>by cases G⟩
 ·have key:∀i,i<len→∃a',Q a'∧∀j v,(f a')[j]? =some v→aB w.heap (adr (adr a (i*b)) j)=some v:=fun i d=>by
   have c:=o i d;rw[F]at c;have:∃y,k[i]? =some y:=⟨_,aA (by omega)⟩;obtain⟨y,V⟩:=this;rw[V]at c;cases hc:w.cells? base (a.add (i*b)) b with
   |none=>rw[hc]at c;cases c
   |some cells=>
    rw[hc]at c;obtain⟨E,u⟩:=Lw hc;obtain⟨a',K,p⟩:=D n cells y E c;subst K;rw[KD]at u;exact⟨a',p,u⟩
  have:∀n,n≤len→∃xs:List α,xs.length=n∧(∀a∈xs,Q a)∧∀i x,xs[i]? =some x→∀j v,(f x)[j]? =some v→aB w.heap (adr (adr a (i*b)) j)=some v:=by
   intro n;induction n with
   |zero=>exact fun _=>⟨[],rfl,(fun a G=>by cases G),fun i x hx=>by simp at hx⟩
   |succ n ih=>
    intro Z;obtain⟨xs,J,p,hx⟩:=ih (by omega);obtain⟨a',L,C⟩:=key n (by omega);refine⟨xs++ [a'],by simp[J],fun z m=>?_,fun i x d=>?_⟩
    ·rcases List.mem_append.1 m with m|m
     ·exact p z m
     ·rw[List.mem_singleton.1 m];exact L
    ·by_cases W:i<n
     ·rw[List.getElem?_append_left (by omega)]at d
      exact hx i x d
     ·rw[List.getElem?_append_right (by omega)]at d
      have:i-xs.length=0:=by
       have:=(bA.1 d).1;simp at this;omega
      rw[this]at d;simp only[List.getElem?_cons_zero,Option.some.injEq]at d;subst d;have:i=n:=by omega
      subst this;exact C
  obtain⟨xs,I,p,hx⟩:=this len (av _);refine⟨⟨some a,len,cap⟩,xs,X,Y,hm,⟨I.symm,g,fun _=>⟨a,rfl,id,fun i v B=>?_⟩⟩,p⟩
  obtain⟨A,m⟩:(∀x,(f x).length=b)∧0<b:=⟨fun x=>(g x).1,by
   cases xs with
   |nil=>simp at B
   |cons x _=>exact(g x).2⟩
  have d:i<(xs.flatMap f).length:=(bA.1 B).1;rw[kT A]at d;have q:i/b<xs.length:=Nat.div_lt_of_lt_mul (by rw[oM];exact d);have U:i%b<b:=Nat.mod_lt _ m;have e:i=i/b*b+i%b:=by rw[oM];exact(Nat.div_add_mod i b).symm
  have R:=wh A xs (i/b) (i%b) xs[i/b] (aA q) U;rw[←e]at R;rw[R]at B;have:=hx (i/b) _ (aA q) (i%b) v B;rw[zY,←e]at this;exact this
theorem xT{P:Program}(c:laidOutB P=true){W W':World}(e:Below W.heap.size W W'):∀{ts:List TypeId} {vs:List Value} {ds:List (DataW H)} {ps:List MemPlace},(∀t∈ts,P.readableRec t=true∧t<P.types.size)→
  DataW.TrodAll enc P W 0 (fun _=>true) true ts vs ds ps→(∀x∈ps,x.block<W.heap.size)→DataW.TrodAll enc P W' 0 (fun b=>decide (b<W.heap.size)) true ts vs ds ps
 | [],[],[],_,_,h,_=>h
 |t::ts,v::vs,d::ds,ps,hr,h,hlt=>by
  obtain⟨p,q,g,i,rfl⟩:=h;exact⟨p,q,Below.trod c (hr t (aP ..)).1 (hr t (aP ..)).2 g e fun x hx=>hlt x (gd _ hx),
   xT c e (fun t f=>hr t (List.mem_cons_of_mem _ f)) i fun x hx=>hlt x (List.mem_append_right _ hx),rfl⟩
 | [],_::_,_,_,_,h,_=>h.elim
 | [],[],_::_,_,_,h,_=>h.elim
 |_::_,[],_,_,_,h,_=>h.elim
 |_::_,_::_,[],_,_,h,_=>h.elim
theorem BO:∀{ts:List TypeId} {vs:List Value} {ds:List (DataW H)} {ps:List MemPlace},DataW.TrodAll enc P w base sp held ts vs ds ps→ds.length=ts.length
 | [],[],[],_,_=>rfl
 |t::ts,v::vs,d::ds,ps,h=>by
  obtain⟨p,q,c,b,rfl⟩:=h;rw[aX,aX,BO b]
 | [],_::_,_,_,h=>h.elim
 | [],[],_::_,_,h=>h.elim
 |_::_,[],_,_,h=>h.elim
 |_::_,_::_,[],_,h=>h.elim
theorem AO{t:TypeId}{ts:List TypeId}{vs:List Value}{ds:List (DataW H)}{ps:List MemPlace}(h:DataW.TrodAll enc P w base sp held (t::ts) vs ds ps):
  ∃v vs' d ds' p q,vs=v::vs'∧ds=d::ds'∧DataW.Trod enc P w base sp held t v d p∧DataW.TrodAll enc P w base sp held ts vs' ds' q:=by
 cases vs with
 |nil=>exact h.elim
 |cons v vs=>cases ds with
  |nil=>exact h.elim
  |cons d ds=>
   obtain⟨p,q,c,b,_⟩:=h;exact⟨v,vs,d,ds,p,q,rfl,rfl,c,b⟩
theorem L9{vs:List Value}{ds:List (DataW H)}{ps:List MemPlace}(h:DataW.TrodAll enc P w base sp held [] vs ds ps):vs= []:=by
 cases vs with
 |nil=>rfl
 |cons v vs=>exact h.elim
theorem law_lifted{C:Checked}{os:Os}{f:FuncId}{fn:Func}{s:ChangeSpec}{ts:List TypeId}{tb:TypeId}(B:fn.params.toList=ts)(o:fn.resultTypes.toList= [tb])(u:C.prog.underlying tb=some .bool)(S:s.vars= [])
  (y:∀(ds:List (DataW H)),ds.length=ts.length→(s.fn H ds).results= [.lit (.bool true)]∧(s.fn H ds).args=ds∧(s.fn H ds).vars= [])
  (own:ownKnob C.prog.godebug=none)(D:laidOutB C.prog=true)(z:∀t∈ts,C.prog.readableRec t=true∧t<C.prog.types.size)(c:os.Started)(g:C.prog.inits.idxOf? f=none)(O:C.prog.funcs[f]? =some fn)
  (d:∃(w:World) (tape:Tape) (i:Input),w.os=os∧(w.forCall tape i).Shaped C.prog∧i.vars= []∧Input.okWide C.prog (w.forCall tape i) .any w.heap.size f i∧
   s.pre6 enc C.prog fn [] false (w.forCall tape i).memory i.args∧({}:Assume).holds C.prog (lone (Frame.enter C.prog f i.args .normal) [] (w.forCall tape i)))
  (A:∀(args:Array Value) (w:World),(callFunc f args).run C.prog w=.ok (.enter f args) w)
  (hc:∀(W:World) (L:Nat) (args:List Value) (ds:List (DataW H)) (p:List MemPlace),(∀(j:Nat) t v,ts[j]? =some t→args[j]? =some v→Value.okWide C.prog W .any L t v)→DataW.TrodAll enc C.prog W 0 (fun _=>true) true ts args ds p→
   HC C.prog f args [.c .bool] (fun b h'=>b=true∧Upd No W.heap h') W.heap):
  ReturnsInHanded {} C os f .any (s.pre6 enc C.prog fn [] false) (s.post enc C.prog fn false true false false):=by
 refine returnsInHanded_of_change own c g O d ?_;intro W L args ds gs J E V _ _;have F:=V;obtain⟨p,q,I,T,rfl,hfz,hnd⟩:=V;rw[B]at I;rw[S]at T;obtain⟨rfl,rfl⟩:=trodVars_none T;have G:ds.length=ts.length:=BO I;have P:∀x∈p,x.block<W.heap.size:=fun x hx=>F.lt x (gd _ hx)
 obtain⟨Y,ha,N⟩:=y ds G;have Z:=hc W L args.toList ds p (fun j t v n R=>E j t v (by rw[←aN,B];exact n) (by rw[←aN];exact R)) I
 rcases Z.run W rfl with⟨_,U⟩|⟨v,w',X,_⟩
 ·have e:args.toList.toArray=args:=by simp
  rw[e]at U;refine U.mono ?_;rintro e w' ⟨n,t,rfl,hb,K⟩;have m:t=true:=hb;subst m;refine⟨.bool true,rfl,ds,[],p++ [],[],p,[],F,?_,?_,?_,?_,fun h=>by cases h⟩
  ·rw[o,dR,Y]
   have:fn.resultTypes.size=1:=by have:=congrArg List.length o;simpa using this
   rw[this];refine⟨[],[],⟨1,?_⟩,rfl,rfl⟩;simp[DataW.trod,u,Value.cells]
  ·rw[B,dR,ha]
   exact xT D ⟨n.os,n.tape,n.output,K.size,fun k Q=>K.same k Q id⟩ z I P
  ·rw[S,dR,N];rfl
  ·exact Below.frame ⟨n.os,n.tape,n.output,K.size,fun k Q=>K.same k Q id⟩ _
 ·rw[A]at X;cases X
end
end Go.Lift
namespace Go.Lift
open Go
theorem K7{κ β:Type}[DecidableEq κ]{m:List (κ×β)}{k:κ}{v:β}(b:(m.map (·.1)).Nodup)(hm:(k,v)∈m):(m.map (·.1)).Perm (k::(sP m k).map (·.1)):=by
 induction m with
 |nil=>cases hm
 |cons p m ih=>
  obtain⟨k',u⟩:=p;simp only[aY,List.nodup_cons]at b;by_cases e:k'=k
  ·subst e
   have:sP ((k',u)::m) k'=m:=by
    unfold sP;rw[ba];simp only[ne_eq,not_true_eq_false,decide_false,Bool.false_eq_true,if_false];rw[List.filter_eq_self];intro q d;simp only[decide_not,Bool.not_eq_eq_eq_not,Bool.not_true,decide_eq_false_iff_not];intro f;exact b.1 (f▸List.mem_map.2 ⟨q,d,rfl⟩)
   rw[this];exact List.Perm.refl _
  ·have c:(k,v)∈m:=by
    rcases List.mem_cons.1 hm with h|h
    ·cases h;exact absurd rfl e
    ·exact h
   have:sP ((k',u)::m) k=(k',u)::sP m k:=by
    unfold sP;rw[ba];simp[e]
   rw[this,aY,aY];exact((ih b.2 c).cons k').trans (List.Perm.swap ..)
theorem LoopP.imp{T:Type}{F G:(T→ac→Prop)→T→ac→Prop}{t:T}{h:ac}(l:LoopP G t h)(b:∀I t h,G I t h→F I t h):LoopP F t h:=⟨fun I d=>l.run I fun t h c=>d t h (b I t h c)⟩
theorem NextP.imp{a:Addr}{h:ac}{K o:Prop}{S i:MapEntry→ac→Prop}(n:NextP a h K S)(j:K→o)(p:∀e h,S e h→i e h):NextP a h o i:=by
 obtain⟨g,m,b,c,last,k,f|⟨r,es,d,f,v,u,s,t⟩⟩:=n
 ·exact⟨g,m,b,c,last,k,.inl ⟨f.1,j f.2⟩⟩
 ·exact⟨g,m,b,c,last,k,.inr ⟨r,es,d,f,v,u,fun x=>j (s x),fun e q x=>p _ _ (t e q x)⟩⟩
theorem Dx{κ β:Type}[DecidableEq κ]{E:KeyE κ}{g:β→Value}{P:Program}{f:FuncId}{h:ac}{r bx:Nat}{t:TypeId}{m:List (κ×β)}(hm:MapAt E g h r m)(d:h[bx]? =some (.cells #[.map (some r)] t (0,0)))
  (hF:∀(y:Value) (i:ac) (K:Unit→ac→Prop),i[bx]? =some (.cells #[.map (some r)] t (0,0))→
   (∃c,(∃es,i[r]? =some (.map es c))∧∀B,B=i.push (.mapIter (some r) c #[] c)→
    LoopP (fun(I:Unit→ac→Prop) (_:Unit) h6=>NextP ⟨i.size,0,none⟩ h6 (K () h6) fun e h8=>∃x v,wN h8 i.size e∧e.key=E.enc x∧e.val=g v∧HV P y [E.enc x] [.c .bool] (fun b h'=>CondP (!b) (K () h') (I () h')) h8) () B)→
   HE P f ([]++ [y]++ [.pointer (some ⟨bx,0,none⟩)]) [] K i):
  Gives P (.func (.func f) #[] #[.pointer (some ⟨bx,0,none⟩)]) (fun x=> [E.enc x]) m.length (fun xs=>xs.Perm (m.map (·.1))) (fun b=>b=r∨b=bx) h:=by
 refine⟨fun b S=>S.elim (fun e=>e▸hm.lt) fun e=>e▸aL d,f,_,_,rfl,fun y J A M i K w Q hu hq ha hk=>?_⟩
 have H:=hm.upd hu (hq r (.inl rfl));refine hF y i K (hu.get d (hq bx (.inr rfl))) ?_;obtain⟨c,X,W⟩:=H.range;refine⟨c,X,fun B e=>?_⟩
 subst e;have O:¬A r:=fun e=>ha r e (.inl rfl)
 have hr1:=H.lt;refine LoopP.ghost (fun(o:List κ×List (κ×β)×(Nat→Prop)) (_:Unit) h'=>IterSt E g h' i.size r m o.2.1∧J o.1 o.2.2 h'∧Upd A i h'∧(∀b,o.2.2 b→A b∨i.size<b)∧(o.1++o.2.1.map (·.1)).Perm (m.map (·.1))) (fun o=>o.2.1.length) ([],m,A)
  ⟨W,w.keep _ _ _ _ (fun b=>b=i.size) Q (Upd.push _ _ _) (fun b d e=>absurd (w.lt _ _ _ Q b d) (by omega)),Upd.push _ _ _,fun b d=>.inl d,List.Perm.refl _⟩ ?_
 rintro I ⟨j,n,N⟩ ⟨⟩ h' ⟨L,q,z,u,C⟩ hI;simp only at L q u C;have Z:=L.nodup;have F:¬N i.size:=fun e=>(u _ e).elim (fun e=>absurd (w.lt _ _ _ Q _ e) (by omega)) fun e=>by omega
 have D:¬N r:=fun e=>(u _ e).elim O fun e=>by omega
 have hs1:i.size<h'.size:=by obtain⟨_,_,_,_,_,_,_,d,_⟩:=L;exact aL d
 refine NextP.at (M:=(· =i.size)) L rfl (fun he=>?_) fun k v s e B ek ev U Y p=>⟨k,v,U,ek,ev,?_⟩
 ·subst he
  rw[List.map_nil,dR]at C;exact hk j N h' C q z fun b d=>(u b d).imp id Nat.le_of_lt
 ·have T:=w.keep _ _ _ _ _ q p (fun b d e=>F (e▸d))
  have hs2:=p.size;refine w.step j N B k _ T ?_ fun h3 A3 V G R=>aq.2 ?_
  ·have:=C.length_eq
   have:0<n.length:=List.length_pos_of_mem s;simp only[List.length_append,List.length_map]at*;omega
  ·refine hI (j++ [k],sP n k,A3) () h3 ⟨Y.upd G F D,V,?_,fun b d=>?_,?_⟩ (by
    simp only
    unfold sP
    exact List.length_filter_lt_length_iff_exists.2 ⟨_,s,by simp⟩)
   ·exact(z.trans p fun b d=>.inr (by omega)).trans G fun b d=>(u b d).imp id Nat.le_of_lt
   ·rcases R b d with h|h
    ·exact u b h
    ·exact .inr (by omega)
   ·simp only
    rw[List.append_assoc];exact((List.Perm.append_left j (K7 Z s).symm)).trans C
end Go.Lift
