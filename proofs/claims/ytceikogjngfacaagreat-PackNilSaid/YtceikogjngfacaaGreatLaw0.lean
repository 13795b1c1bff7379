/- A part of the proof that the named laws of this program answer true, whatever the input. -/
import Derived.Test.YtceikogjngfacaaGreatLift3
import Derived.ProofKit
import Derived.SizedLaws
open Array renaming getElem?_toList→bv
open List renaming getElem?_eq_some_iff→aY,getElem?_eq_getElem→aj,mem_cons_self→aN,mem_append_left→fl,length_cons→ax,append_nil→aZ,map_cons→cx,filter_cons→g7
open Nat renaming le_refl→aq,mul_comm→ig,le_of_lt→xV
namespace Go.Lift
open Go Go.ChangeShapes Go.WideShapes Go.ChangeAt Go.RowKit
section
variable {H:Type} {enc:TypeId×Value→H} {P:Program} {w:World} {base:Nat} {sp:Nat→Bool} {held:Bool}
theorem Oj(a:Addr)(n:Nat):a.add n=adr a n:=by
 cases n with
 |zero=>rfl
 |succ n=>simp[Addr.add,adr]
theorem Pl{a:Addr}{n:Nat}{cs:List Value}(h:w.cells? base a n=some cs):cs.length=n∧∀j v,cs[j]? =some v→bj w.heap (adr a j)=some v:=by
 obtain⟨_,b,hc⟩:=World.cells?_some h;refine⟨b,fun j v hv=>?_⟩
 have c:j<n:=by rw[←b];exact(aY.1 hv).1
 have:=hc j c;rw[Oj,hv]at this;exact this
theorem SB{fuel:Nat}{t e:TypeId}{cs:List Value}{x:DataW H×List MemPlace}(R:P.underlying t=some (.slice e))(h:DataW.trod enc P w base sp held fuel t cs=some x)
  {α:Type}(f:α→List Value){b:Nat}(B:P.cellsOf e=b)(d:∀x,(f x).length=b∧0<b)(Q:α→Prop)
  (F:∀fuel (cells:List Value) y,cells.length=b→DataW.trod enc P w base sp held fuel e cells=some y→∃a,cells=f a∧Q a):
  ∃(s:SliceV) (xs:List α),cs= [.slice s.a s.len s.cap]∧s.len≤s.cap∧s.cap≤maxLen∧Sl f b No w.heap s xs∧∀a∈xs,Q a:=by
 rcases DataW.trod_slice R h with⟨U,_⟩|⟨a,len,cap,k,L,n,_,W,_,Y,S,hm,K,g,_⟩
 ·exact⟨⟨none,0,0⟩,[],U,aq _,Nat.zero_le _,Sl.nil d,fun a G=>by cases G⟩
 ·have key:∀i,i<len→∃a',Q a'∧∀j v,(f a')[j]? =some v→bj w.heap (adr (adr a (i*b)) j)=some v:=fun i hi=>by
   have c:=g i hi;rw[B]at c;have:∃y,k[i]? =some y:=⟨_,aj (by omega)⟩;obtain⟨y,V⟩:=this;rw[V]at c;cases hc:w.cells? base (a.add (i*b)) b with
   |none=>rw[hc]at c;cases c
   |some cells=>
    rw[hc]at c;obtain⟨A,p⟩:=Pl hc;obtain⟨a',D,q⟩:=F n cells y A c;subst D;rw[Oj]at p;exact⟨a',q,p⟩
  have:∀n,n≤len→∃xs:List α,xs.length=n∧(∀a∈xs,Q a)∧∀i x,xs[i]? =some x→∀j v,(f x)[j]? =some v→bj w.heap (adr (adr a (i*b)) j)=some v:=by
   intro n;induction n with
   |zero=>exact fun _=>⟨[],rfl,(fun a G=>by cases G),fun i x hx=>by simp at hx⟩
   |succ n ih=>
    intro X;obtain⟨xs,I,q,hx⟩:=ih (by omega);obtain⟨a',C,E⟩:=key n (by omega);refine⟨xs++ [a'],by simp[I],fun z m=>?_,fun i x hi=>?_⟩
    ·rcases List.mem_append.1 m with m|m
     ·exact q z m
     ·rw[List.mem_singleton.1 m];exact C
    ·by_cases O:i<n
     ·rw[List.getElem?_append_left (by omega)]at hi
      exact hx i x hi
     ·rw[List.getElem?_append_right (by omega)]at hi
      have:i-xs.length=0:=by
       have:=(aY.1 hi).1;simp at this;omega
      rw[this]at hi;simp only[List.getElem?_cons_zero,Option.some.injEq]at hi;subst hi;have:i=n:=by omega
      subst this;exact E
  obtain⟨xs,J,q,hx⟩:=this len (aq _);refine⟨⟨some a,len,cap⟩,xs,W,S,hm,⟨J.symm,d,fun _=>⟨a,rfl,id,fun i v hv=>?_⟩⟩,q⟩
  obtain⟨o,m⟩:(∀x,(f x).length=b)∧0<b:=⟨fun x=>(d x).1,by
   cases xs with
   |nil=>simp at hv
   |cons x _=>exact(d x).2⟩
  have hi:i<(xs.flatMap f).length:=(aY.1 hv).1;rw[na o]at hi;have u:i/b<xs.length:=Nat.div_lt_of_lt_mul (by rw[ig];exact hi);have T:i%b<b:=Nat.mod_lt _ m;have e:i=i/b*b+i%b:=by rw[ig];exact(Nat.div_add_mod i b).symm
  have N:=yP o xs (i/b) (i%b) xs[i/b] (aj u) T;rw[←e]at N;rw[N]at hv;have:=hx (i/b) _ (aj u) (i%b) v hv;rw[Cv,←e]at this;exact this
theorem Aw{P:Program}(c:laidOutB P=true){W W':World}(e:Below W.heap.size W W'):∀{ts:List TypeId} {vs:List Value} {ds:List (DataW H)} {ps:List MemPlace},(∀t∈ts,P.readableRec t=true∧t<P.types.size)→
  DataW.TrodAll enc P W 0 (fun _=>true) true ts vs ds ps→(∀x∈ps,x.block<W.heap.size)→DataW.TrodAll enc P W' 0 (fun b=>decide (b<W.heap.size)) true ts vs ds ps
 | [],[],[],_,_,h,_=>h
 |t::ts,v::vs,d::ds,ps,hr,h,hlt=>by
  obtain⟨p,q,g,h2,rfl⟩:=h;exact⟨p,q,Below.trod c (hr t (aN ..)).1 (hr t (aN ..)).2 g e fun x hx=>hlt x (fl _ hx),
   Aw c e (fun t f=>hr t (List.mem_cons_of_mem _ f)) h2 fun x hx=>hlt x (List.mem_append_right _ hx),rfl⟩
 | [],_::_,_,_,_,h,_=>h.elim
 | [],[],_::_,_,_,h,_=>h.elim
 |_::_,[],_,_,_,h,_=>h.elim
 |_::_,_::_,[],_,_,h,_=>h.elim
theorem DU:∀{ts:List TypeId} {vs:List Value} {ds:List (DataW H)} {ps:List MemPlace},DataW.TrodAll enc P w base sp held ts vs ds ps→ds.length=ts.length
 | [],[],[],_,_=>rfl
 |t::ts,v::vs,d::ds,ps,h=>by
  obtain⟨p,q,b,h2,rfl⟩:=h;rw[ax,ax,DU h2]
 | [],_::_,_,_,h=>h.elim
 | [],[],_::_,_,h=>h.elim
 |_::_,[],_,_,h=>h.elim
 |_::_,_::_,[],_,h=>h.elim
theorem Oz{t:TypeId}{ts:List TypeId}{vs:List Value}{ds:List (DataW H)}{ps:List MemPlace}(h:DataW.TrodAll enc P w base sp held (t::ts) vs ds ps):
  ∃v vs' d ds' p q,vs=v::vs'∧ds=d::ds'∧DataW.Trod enc P w base sp held t v d p∧DataW.TrodAll enc P w base sp held ts vs' ds' q:=by
 cases vs with
 |nil=>exact h.elim
 |cons v vs=>cases ds with
  |nil=>exact h.elim
  |cons d ds=>
   obtain⟨p,q,b,h2,_⟩:=h;exact⟨v,vs,d,ds,p,q,rfl,rfl,b,h2⟩
theorem P3{vs:List Value}{ds:List (DataW H)}{ps:List MemPlace}(h:DataW.TrodAll enc P w base sp held [] vs ds ps):vs= []:=by
 cases vs with
 |nil=>rfl
 |cons v vs=>exact h.elim
theorem law_lifted{C:Checked}{os:Os}{f:FuncId}{fn:Func}{s:ChangeSpec}{ts:List TypeId}{tb:TypeId}(A:fn.params.toList=ts)(o:fn.resultTypes.toList= [tb])(y:C.prog.underlying tb=some .bool)(hv:s.vars= [])
  (u:∀(ds:List (DataW H)),ds.length=ts.length→(s.fn H ds).results= [.lit (.bool true)]∧(s.fn H ds).args=ds∧(s.fn H ds).vars= [])
  (own:ownKnob C.prog.godebug=none)(F:laidOutB C.prog=true)(B:∀t∈ts,C.prog.readableRec t=true∧t<C.prog.types.size)(c:os.Started)(m:C.prog.inits.idxOf? f=none)(Q:C.prog.funcs[f]? =some fn)
  (d:∃(w:World) (tape:Tape) (i:Input),w.os=os∧(w.forCall tape i).Shaped C.prog∧i.vars= []∧Input.okWide C.prog (w.forCall tape i) .any w.heap.size f i∧
   s.pre6 enc C.prog fn [] false (w.forCall tape i).memory i.args∧({}:Assume).holds C.prog (lone (Frame.enter C.prog f i.args .normal) [] (w.forCall tape i)))
  (z:∀(args:Array Value) (w:World),(callFunc f args).run C.prog w=.ok (.enter f args) w)
  (hc:∀(W:World) (O:Nat) (args:List Value) (ds:List (DataW H)) (p:List MemPlace),(∀(j:Nat) t v,ts[j]? =some t→args[j]? =some v→Value.okWide C.prog W .any O t v)→DataW.TrodAll enc C.prog W 0 (fun _=>true) true ts args ds p→
   HC C.prog f args [.c .bool] (fun b h'=>b=true∧Upd No W.heap h') W.heap):
  ReturnsInHanded {} C os f .any (s.pre6 enc C.prog fn [] false) (s.post enc C.prog fn false true false false):=by
 refine returnsInHanded_of_change own c m Q d ?_;intro W O args ds gs I D S _ _;have E:=S;obtain⟨p,q,J,T,rfl,hfz,X⟩:=S;rw[A]at J;rw[hv]at T;obtain⟨rfl,rfl⟩:=trodVars_none T;have G:ds.length=ts.length:=DU J;have P:∀x∈p,x.block<W.heap.size:=fun x hx=>E.lt x (fl _ hx)
 obtain⟨Y,Z,L⟩:=u ds G;have V:=hc W O args.toList ds p (fun j t v n R=>D j t v (by rw[←bv,A];exact n) (by rw[←bv];exact R)) J
 rcases V.run W rfl with⟨_,h2⟩|⟨v,w',U,_⟩
 ·have e:args.toList.toArray=args:=by simp
  rw[e]at h2;refine h2.mono ?_;rintro e w' ⟨n,t,rfl,hb,K⟩;have g:t=true:=hb;subst g;refine⟨.bool true,rfl,ds,[],p++ [],[],p,[],E,?_,?_,?_,?_,fun h=>by cases h⟩
  ·rw[o,aZ,Y]
   have:fn.resultTypes.size=1:=by have:=congrArg List.length o;simpa using this
   rw[this];refine⟨[],[],⟨1,?_⟩,rfl,rfl⟩;simp[DataW.trod,y,Value.cells]
  ·rw[A,aZ,Z]
   exact Aw F ⟨n.os,n.tape,n.output,K.size,fun k N=>K.same k N id⟩ B J P
  ·rw[hv,aZ,L];rfl
  ·exact Below.frame ⟨n.os,n.tape,n.output,K.size,fun k N=>K.same k N id⟩ _
 ·rw[z]at U;cases U
end
end Go.Lift
namespace Go.Lift
open Go
theorem OZ{κ β:Type}[DecidableEq κ]{m:List (κ×β)}{k:κ}{v:β}(c:(m.map (·.1)).Nodup)(hm:(k,v)∈m):(m.map (·.1)).Perm (k::(Gj m k).map (·.1)):=by
 induction m with
 |nil=>cases hm
 |cons p m ih=>
  obtain⟨k',u⟩:=p;simp only[cx,List.nodup_cons]at c;by_cases e:k'=k
  ·subst e
   have:Gj ((k',u)::m) k'=m:=by
    unfold Gj;rw[g7];simp only[ne_eq,not_true_eq_false,decide_false,Bool.false_eq_true,if_false];rw[List.filter_eq_self];intro q d;simp only[decide_not,Bool.not_eq_eq_eq_not,Bool.not_true,decide_eq_false_iff_not];intro f;exact c.1 (f▸List.mem_map.2 ⟨q,d,rfl⟩)
   rw[this];exact List.Perm.refl _
  ·have b:(k,v)∈m:=by
    rcases List.mem_cons.1 hm with h|h
    ·cases h;exact absurd rfl e
    ·exact h
   have:Gj ((k',u)::m) k=(k',u)::Gj m k:=by
    unfold Gj;rw[g7];simp[e]
   rw[this,cx,cx];exact((ih c.2 b).cons k').trans (List.Perm.swap ..)
theorem LoopP.imp{T:Type}{F G:(T→af→Prop)→T→af→Prop}{t:T}{h:af}(l:LoopP G t h)(hi:∀I t h,G I t h→F I t h):LoopP F t h:=⟨fun I b=>l.run I fun t h c=>b t h (hi I t h c)⟩
theorem NextP.imp{a:Addr}{h:af}{K o:Prop}{S k:MapEntry→af→Prop}(n:NextP a h K S)(j:K→o)(s:∀e h,S e h→k e h):NextP a h o k:=by
 obtain⟨g,m,b,c,last,i,f|⟨r,es,d,f,h2,q,t,u⟩⟩:=n
 ·exact⟨g,m,b,c,last,i,.inl ⟨f.1,j f.2⟩⟩
 ·exact⟨g,m,b,c,last,i,.inr ⟨r,es,d,f,h2,q,fun x=>j (t x),fun e p x=>s _ _ (u e p x)⟩⟩
theorem FP{κ β:Type}[DecidableEq κ]{E:KeyE κ}{g:β→Value}{P:Program}{f:FuncId}{h:af}{r bx:Nat}{t:TypeId}{m:List (κ×β)}(hm:MapAt E g h r m)(d:h[bx]? =some (.cells #[.map (some r)] t (0,0)))
  (hF:∀(y:Value) (i:af) (K:Unit→af→Prop),i[bx]? =some (.cells #[.map (some r)] t (0,0))→
   (∃c,(∃es,i[r]? =some (.map es c))∧∀h2,h2=i.push (.mapIter (some r) c #[] c)→
    LoopP (fun(I:Unit→af→Prop) (_:Unit) h6=>NextP ⟨i.size,0,none⟩ h6 (K () h6) fun e h8=>∃x v,y9 h8 i.size e∧e.key=E.enc x∧e.val=g v∧HV P y [E.enc x] [.c .bool] (fun b n=>CondP (!b) (K () n) (I () n)) h8) () h2)→
   HE P f ([]++ [y]++ [.pointer (some ⟨bx,0,none⟩)]) [] K i):
  Gives P (.func (.func f) #[] #[.pointer (some ⟨bx,0,none⟩)]) (fun x=> [E.enc x]) m.length (fun xs=>xs.Perm (m.map (·.1))) (fun b=>b=r∨b=bx) h:=by
 refine⟨fun b T=>T.elim (fun e=>e▸hm.lt) fun e=>e▸bo d,f,_,_,rfl,fun y J A M i K C W Z hq ha hk=>?_⟩
 have D:=hm.upd Z (hq r (.inl rfl));refine hF y i K (Z.get d (hq bx (.inr rfl))) ?_;obtain⟨c,Q,O⟩:=D.range;refine⟨c,Q,fun h2 e=>?_⟩
 subst e;have Y:¬A r:=fun e=>ha r e (.inl rfl)
 have hr1:=D.lt;refine LoopP.ghost (fun(p:List κ×List (κ×β)×(Nat→Prop)) (_:Unit) n=>IterSt E g n i.size r m p.2.1∧J p.1 p.2.2 n∧Upd A i n∧(∀b,p.2.2 b→A b∨i.size<b)∧(p.1++p.2.1.map (·.1)).Perm (m.map (·.1))) (fun p=>p.2.1.length) ([],m,A)
  ⟨O,C.keep _ _ _ _ (fun b=>b=i.size) W (Upd.push _ _ _) (fun b d e=>absurd (C.lt _ _ _ W b d) (by omega)),Upd.push _ _ _,fun b d=>.inl d,List.Perm.refl _⟩ ?_
 rintro I ⟨j,o,L⟩ ⟨⟩ n ⟨hi,s,B,w,F⟩ hI;simp only at hi s w F;have R:=hi.nodup;have G:¬L i.size:=fun e=>(w _ e).elim (fun e=>absurd (C.lt _ _ _ W _ e) (by omega)) fun e=>by omega
 have z:¬L r:=fun e=>(w _ e).elim Y fun e=>by omega
 have hs1:i.size<n.size:=by obtain⟨_,_,_,_,_,_,_,d,_⟩:=hi;exact bo d
 refine NextP.at (M:=(· =i.size)) hi rfl (fun he=>?_) fun k v u e h2 ek ev U N q=>⟨k,v,U,ek,ev,?_⟩
 ·subst he
  rw[List.map_nil,aZ]at F;exact hk j L n F s B fun b d=>(w b d).imp id xV
 ·have X:=C.keep _ _ _ _ _ s q (fun b d e=>G (e▸d))
  have hs2:=q.size;refine C.step j L h2 k _ X ?_ fun h3 A3 S H V=>aH.2 ?_
  ·have:=F.length_eq
   have:0<o.length:=List.length_pos_of_mem u;simp only[List.length_append,List.length_map]at*;omega
  ·refine hI (j++ [k],Gj o k,A3) () h3 ⟨N.upd H G z,S,?_,fun b d=>?_,?_⟩ (by
    simp only
    unfold Gj
    exact List.length_filter_lt_length_iff_exists.2 ⟨_,u,by simp⟩)
   ·exact(B.trans q fun b d=>.inr (by omega)).trans H fun b d=>(w b d).imp id xV
   ·rcases V b d with h|h
    ·exact w b h
    ·exact .inr (by omega)
   ·simp only
    rw[List.append_assoc];exact((List.Perm.append_left j (OZ R u).symm)).trans F
end Go.Lift
