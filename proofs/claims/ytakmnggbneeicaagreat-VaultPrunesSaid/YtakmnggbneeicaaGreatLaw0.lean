/- A part of the proof that the named laws of this program answer true, whatever the input. -/
import Derived.Test.YtakmnggbneeicaaGreatLift3
import Derived.ProofKit
import Derived.SizedLaws
open Array renaming getElem?_toList→bB
open List renaming getElem?_eq_some_iff→bG,getElem?_eq_getElem→af,mem_cons_self→ar,mem_append_left→bQ,length_cons→au,append_nil→be,map_cons→bX,filter_cons→aR
open List.Perm renaming refl→oQ
open Nat renaming le_refl→ai,mul_comm→rq,le_of_lt→oJ
namespace Go.Lift
open Go Go.ChangeShapes Go.WideShapes Go.ChangeAt Go.RowKit
section
variable {H:Type} {enc:TypeId×Value→H} {P:Program} {w:World} {base:Nat} {sp:Nat→Bool} {held:Bool}
theorem PS(a:Addr)(n:Nat):a.add n=adr a n:=by
 cases n with
 |zero=>rfl
 |succ n=>simp[Addr.add,adr]
theorem QT{a:Addr}{n:Nat}{cs:List Value}(h:w.cells? base a n=some cs):cs.length=n∧∀j v,cs[j]? =some v→aK w.heap (adr a j)=some v:=by
 obtain⟨_,b,hc⟩:=World.cells?_some h;refine⟨b,fun j v hv=>?_⟩
 have c:j<n:=by rw[←b];exact(bG.1 hv).1
 have:=hc j c;rw[PS,hv]at this;exact this
theorem Ut{c:Nat}{t e:TypeId}{cs:List Value}{x:DataW H×List MemPlace}(ht:P.underlying t=some (.slice e))(h:DataW.trod enc P w base sp held c t cs=some x)
  {α:Type}(f:α→List Value){sz:Nat}(C:P.cellsOf e=sz)(d:∀x,(f x).length=sz∧0<sz)(Q:α→Prop)
  (I:∀c (cells:List Value) y,cells.length=sz→DataW.trod enc P w base sp held c e cells=some y→∃a,cells=f a∧Q a):
  ∃(s:SliceV) (xs:List α),cs= [.slice s.a s.len s.cap]∧s.len≤s.cap∧s.cap≤maxLen∧Sl f sz No w.heap s xs∧∀a∈xs,Q a:=by
 rcases DataW.trod_slice ht h with⟨O,_⟩|⟨a,len,cap,k,L,n,_,U,_,hb,S,hm,K,g,_⟩
 ·exact⟨⟨none,0,0⟩,[],O,ai _,Nat.zero_le _,Sl.nil d,fun a F=>by cases F⟩
 ·have key:∀i,i<len→∃a',Q a'∧∀j v,(f a')[j]? =some v→aK w.heap (adr (adr a (i*sz)) j)=some v:=fun i hi=>by
   have b:=g i hi;rw[C]at b;have:∃y,k[i]? =some y:=⟨_,af (by omega)⟩;obtain⟨y,V⟩:=this;rw[V]at b;cases hc:w.cells? base (a.add (i*sz)) sz with
   |none=>rw[hc]at b;cases b
   |some cells=>
    rw[hc]at b;obtain⟨G,p⟩:=QT hc;obtain⟨a',E,u⟩:=I n cells y G b;subst E;rw[PS]at p;exact⟨a',u,p⟩
  have:∀n,n≤len→∃xs:List α,xs.length=n∧(∀a∈xs,Q a)∧∀i x,xs[i]? =some x→∀j v,(f x)[j]? =some v→aK w.heap (adr (adr a (i*sz)) j)=some v:=by
   intro n;induction n with
   |zero=>exact fun _=>⟨[],rfl,(fun a F=>by cases F),fun i x hx=>by simp at hx⟩
   |succ n ih=>
    intro W;obtain⟨xs,J,u,hx⟩:=ih (by omega);obtain⟨a',A,D⟩:=key n (by omega);refine⟨xs++ [a'],by simp[J],fun z m=>?_,fun i x hi=>?_⟩
    ·rcases List.mem_append.1 m with m|m
     ·exact u z m
     ·rw[List.mem_singleton.1 m];exact A
    ·by_cases R:i<n
     ·rw[List.getElem?_append_left (by omega)]at hi
      exact hx i x hi
     ·rw[List.getElem?_append_right (by omega)]at hi
      have:i-xs.length=0:=by
       have:=(bG.1 hi).1;simp at this;omega
      rw[this]at hi;simp only[List.getElem?_cons_zero,Option.some.injEq]at hi;subst hi;have:i=n:=by omega
      subst this;exact D
  obtain⟨xs,B,u,hx⟩:=this len (ai _);refine⟨⟨some a,len,cap⟩,xs,U,S,hm,⟨B.symm,d,fun _=>⟨a,rfl,id,fun i v hv=>?_⟩⟩,u⟩
  obtain⟨q,m⟩:(∀x,(f x).length=sz)∧0<sz:=⟨fun x=>(d x).1,by
   cases xs with
   |nil=>simp at hv
   |cons x _=>exact(d x).2⟩
  have hi:i<(xs.flatMap f).length:=(bG.1 hv).1;rw[gq q]at hi;have o:i/sz<xs.length:=Nat.div_lt_of_lt_mul (by rw[rq];exact hi);have T:i%sz<sz:=Nat.mod_lt _ m;have e:i=i/sz*sz+i%sz:=by rw[rq];exact(Nat.div_add_mod i sz).symm
  have N:=th q xs (i/sz) (i%sz) xs[i/sz] (af o) T;rw[←e]at N;rw[N]at hv;have:=hx (i/sz) _ (af o) (i%sz) v hv;rw[nf,←e]at this;exact this
theorem yv{P:Program}(a:laidOutB P=true){W W':World}(hb:Below W.heap.size W W'):∀{ts:List TypeId} {vs:List Value} {ds:List (DataW H)} {ps:List MemPlace},(∀t∈ts,P.readableRec t=true∧t<P.types.size)→
  DataW.TrodAll enc P W 0 (fun _=>true) true ts vs ds ps→(∀x∈ps,x.block<W.heap.size)→DataW.TrodAll enc P W' 0 (fun b=>decide (b<W.heap.size)) true ts vs ds ps
 | [],[],[],_,_,h,_=>h
 |t::ts,v::vs,d::ds,ps,hr,h,hlt=>by
  obtain⟨p,q,e,c,rfl⟩:=h;exact⟨p,q,Below.trod a (hr t (ar ..)).1 (hr t (ar ..)).2 e hb fun x hx=>hlt x (bQ _ hx),
   yv a hb (fun t ht=>hr t (List.mem_cons_of_mem _ ht)) c fun x hx=>hlt x (List.mem_append_right _ hx),rfl⟩
 | [],_::_,_,_,_,h,_=>h.elim
 | [],[],_::_,_,_,h,_=>h.elim
 |_::_,[],_,_,_,h,_=>h.elim
 |_::_,_::_,[],_,_,h,_=>h.elim
theorem CB:∀{ts:List TypeId} {vs:List Value} {ds:List (DataW H)} {ps:List MemPlace},DataW.TrodAll enc P w base sp held ts vs ds ps→ds.length=ts.length
 | [],[],[],_,_=>rfl
 |t::ts,v::vs,d::ds,ps,h=>by
  obtain⟨p,q,b,a,rfl⟩:=h;rw[au,au,CB a]
 | [],_::_,_,_,h=>h.elim
 | [],[],_::_,_,h=>h.elim
 |_::_,[],_,_,h=>h.elim
 |_::_,_::_,[],_,h=>h.elim
theorem BI{t:TypeId}{ts:List TypeId}{vs:List Value}{ds:List (DataW H)}{ps:List MemPlace}(h:DataW.TrodAll enc P w base sp held (t::ts) vs ds ps):
  ∃v vs' d ds' p q,vs=v::vs'∧ds=d::ds'∧DataW.Trod enc P w base sp held t v d p∧DataW.TrodAll enc P w base sp held ts vs' ds' q:=by
 cases vs with
 |nil=>exact h.elim
 |cons v vs=>cases ds with
  |nil=>exact h.elim
  |cons d ds=>
   obtain⟨p,q,b,a,_⟩:=h;exact⟨v,vs,d,ds,p,q,rfl,rfl,b,a⟩
theorem RN{vs:List Value}{ds:List (DataW H)}{ps:List MemPlace}(h:DataW.TrodAll enc P w base sp held [] vs ds ps):vs= []:=by
 cases vs with
 |nil=>rfl
 |cons v vs=>exact h.elim
theorem law_lifted{C:Checked}{os:Os}{f:FuncId}{fn:Func}{s:ChangeSpec}{ts:List TypeId}{tb:TypeId}(u:fn.params.toList=ts)(m:fn.resultTypes.toList= [tb])(y:C.prog.underlying tb=some .bool)(hv:s.vars= [])
  (o:∀(ds:List (DataW H)),ds.length=ts.length→(s.fn H ds).results= [.lit (.bool true)]∧(s.fn H ds).args=ds∧(s.fn H ds).vars= [])
  (own:ownKnob C.prog.godebug=none)(D:laidOutB C.prog=true)(z:∀t∈ts,C.prog.readableRec t=true∧t<C.prog.types.size)(c:os.Started)(d:C.prog.inits.idxOf? f=none)(K:C.prog.funcs[f]? =some fn)
  (a:∃(w:World) (tape:Tape) (i:Input),w.os=os∧(w.forCall tape i).Shaped C.prog∧i.vars= []∧Input.okWide C.prog (w.forCall tape i) .any w.heap.size f i∧
   s.pre6 enc C.prog fn [] false (w.forCall tape i).memory i.args∧({}:Assume).holds C.prog (lone (Frame.enter C.prog f i.args .normal) [] (w.forCall tape i)))
  (n:∀(args:Array Value) (w:World),(callFunc f args).run C.prog w=.ok (.enter f args) w)
  (hc:∀(W:World) (N:Nat) (args:List Value) (ds:List (DataW H)) (p:List MemPlace),(∀(j:Nat) t v,ts[j]? =some t→args[j]? =some v→Value.okWide C.prog W .any N t v)→DataW.TrodAll enc C.prog W 0 (fun _=>true) true ts args ds p→
   HC C.prog f args [.c .bool] (fun b h'=>b=true∧Upd No W.heap h') W.heap):
  ReturnsInHanded {} C os f .any (s.pre6 enc C.prog fn [] false) (s.post enc C.prog fn false true false false):=by
 refine returnsInHanded_of_change own c d K a ?_;intro W N args ds gs I B R _ _;have E:=R;obtain⟨p,q,F,Q,rfl,U,Y⟩:=R;rw[u]at F;rw[hv]at Q;obtain⟨rfl,rfl⟩:=trodVars_none Q;have A:ds.length=ts.length:=CB F;have L:∀x∈p,x.block<W.heap.size:=fun x hx=>E.lt x (bQ _ hx)
 obtain⟨Z,ha,P⟩:=o ds A;have V:=hc W N args.toList ds p (fun j t v ht J=>B j t v (by rw[←bB,u];exact ht) (by rw[←bB];exact J)) F
 rcases V.run W rfl with⟨_,S⟩|⟨v,X,T,_⟩
 ·have e:args.toList.toArray=args:=by simp
  rw[e]at S;refine S.mono ?_;rintro e X ⟨ht,t,rfl,hb,G⟩;have g:t=true:=hb;subst g;refine⟨.bool true,rfl,ds,[],p++ [],[],p,[],E,?_,?_,?_,?_,fun h=>by cases h⟩
  ·rw[m,be,Z]
   have:fn.resultTypes.size=1:=by have:=congrArg List.length m;simpa using this
   rw[this];refine⟨[],[],⟨1,?_⟩,rfl,rfl⟩;simp[DataW.trod,y,Value.cells]
  ·rw[u,be,ha]
   exact yv D ⟨ht.os,ht.tape,ht.output,G.size,fun k O=>G.same k O id⟩ z F L
  ·rw[hv,be,P];rfl
  ·exact Below.frame ⟨ht.os,ht.tape,ht.output,G.size,fun k O=>G.same k O id⟩ _
 ·rw[n]at T;cases T
end
end Go.Lift
namespace Go.Lift
open Go
theorem Qo{κ β:Type}[DecidableEq κ]{m:List (κ×β)}{k:κ}{v:β}(b:(m.map (·.1)).Nodup)(hm:(k,v)∈m):(m.map (·.1)).Perm (k::(jP m k).map (·.1)):=by
 induction m with
 |nil=>cases hm
 |cons p m ih=>
  obtain⟨k',u⟩:=p;simp only[bX,List.nodup_cons]at b;by_cases e:k'=k
  ·subst e
   have:jP ((k',u)::m) k'=m:=by
    unfold jP;rw[aR];simp only[ne_eq,not_true_eq_false,decide_false,Bool.false_eq_true,if_false];rw[List.filter_eq_self];intro q d;simp only[decide_not,Bool.not_eq_eq_eq_not,Bool.not_true,decide_eq_false_iff_not];intro c;exact b.1 (c▸List.mem_map.2 ⟨q,d,rfl⟩)
   rw[this];exact oQ _
  ·have a:(k,v)∈m:=by
    rcases List.mem_cons.1 hm with h|h
    ·cases h;exact absurd rfl e
    ·exact h
   have:jP ((k',u)::m) k=(k',u)::jP m k:=by
    unfold jP;rw[aR];simp[e]
   rw[this,bX,bX];exact((ih b.2 a).cons k').trans (List.Perm.swap ..)
theorem LoopP.imp{T:Type}{F G:(T→ad→Prop)→T→ad→Prop}{t:T}{h:ad}(l:LoopP G t h)(hi:∀I t h,G I t h→F I t h):LoopP F t h:=⟨fun I b=>l.run I fun t h a=>b t h (hi I t h a)⟩
theorem NextP.imp{a:Addr}{h:ad}{K i:Prop}{S k:MapEntry→ad→Prop}(n:NextP a h K S)(j:K→i)(o:∀e h,S e h→k e h):NextP a h i k:=by
 obtain⟨g,m,b,c,last,hb,f|⟨r,es,d,f,t,p,q,u⟩⟩:=n
 ·exact⟨g,m,b,c,last,hb,.inl ⟨f.1,j f.2⟩⟩
 ·exact⟨g,m,b,c,last,hb,.inr ⟨r,es,d,f,t,p,fun x=>j (q x),fun e s x=>o _ _ (u e s x)⟩⟩
theorem NP{κ β:Type}[DecidableEq κ]{E:KeyE κ}{g:β→Value}{P:Program}{f:FuncId}{h:ad}{r bx:Nat}{t:TypeId}{m:List (κ×β)}(hm:MapAt E g h r m)(hb:h[bx]? =some (.cells #[.map (some r)] t (0,0)))
  (Y:∀(y:Value) (c:ad) (K:Unit→ad→Prop),c[bx]? =some (.cells #[.map (some r)] t (0,0))→
   (∃a,(∃es,c[r]? =some (.map es a))∧∀s,s=c.push (.mapIter (some r) a #[] a)→
    LoopP (fun(I:Unit→ad→Prop) (_:Unit) h6=>NextP ⟨c.size,0,none⟩ h6 (K () h6) fun e h8=>∃x v,vO h8 c.size e∧e.key=E.enc x∧e.val=g v∧HV P y [E.enc x] [.c .bool] (fun b h'=>CondP (!b) (K () h') (I () h')) h8) () s)→
   HE P f ([]++ [y]++ [.pointer (some ⟨bx,0,none⟩)]) [] K c):
  Gives P (.func (.func f) #[] #[.pointer (some ⟨bx,0,none⟩)]) (fun x=> [E.enc x]) m.length (fun xs=>xs.Perm (m.map (·.1))) (fun b=>b=r∨b=bx) h:=by
 refine⟨fun b L=>L.elim (fun e=>e▸hm.lt) fun e=>e▸bw hb,f,_,_,rfl,fun y J A M c K ht D U T ha hk=>?_⟩
 have C:=hm.upd U (T r (.inl rfl));refine Y y c K (U.get hb (T bx (.inr rfl))) ?_;obtain⟨a,Q,G⟩:=C.range;refine⟨a,Q,fun s e=>?_⟩
 subst e;have F:¬A r:=fun e=>ha r e (.inl rfl)
 have hr1:=C.lt;refine LoopP.ghost (fun(d:List κ×List (κ×β)×(Nat→Prop)) (_:Unit) h'=>IterSt E g h' c.size r m d.2.1∧J d.1 d.2.2 h'∧Upd A c h'∧(∀b,d.2.2 b→A b∨c.size<b)∧(d.1++d.2.1.map (·.1)).Perm (m.map (·.1))) (fun d=>d.2.1.length) ([],m,A)
  ⟨G,ht.keep _ _ _ _ (fun b=>b=c.size) D (Upd.push _ _ _) (fun b hb e=>absurd (ht.lt _ _ _ D b hb) (by omega)),Upd.push _ _ _,fun b hb=>.inl hb,oQ _⟩ ?_
 rintro I ⟨pre,i,A1⟩ ⟨⟩ h' ⟨hi,n,q,p,u⟩ hI;simp only at hi n p u;have N:=hi.nodup;have z:¬A1 c.size:=fun e=>(p _ e).elim (fun e=>absurd (ht.lt _ _ _ D _ e) (by omega)) fun e=>by omega
 have w:¬A1 r:=fun e=>(p _ e).elim F fun e=>by omega
 have hs1:c.size<h'.size:=by obtain⟨_,_,_,_,_,_,_,hb,_⟩:=hi;exact bw hb
 refine NextP.at (M:=(· =c.size)) hi rfl (fun X=>?_) fun k v j e s ek V hit H o=>⟨k,v,hit,ek,V,?_⟩
 ·subst X
  rw[List.map_nil,be]at u;exact hk pre A1 h' u n q fun b hb=>(p b hb).imp id oJ
 ·have S:=ht.keep _ _ _ _ _ n o (fun b hb e=>z (e▸hb))
  have W:=o.size;refine ht.step pre A1 s k _ S ?_ fun Z A3 O B R=>ag.2 ?_
  ·have:=u.length_eq
   have:0<i.length:=List.length_pos_of_mem j;simp only[List.length_append,List.length_map]at*;omega
  ·refine hI (pre++ [k],jP i k,A3) () Z ⟨H.upd B z w,O,?_,fun b hb=>?_,?_⟩ (by
    simp only
    unfold jP
    exact List.length_filter_lt_length_iff_exists.2 ⟨_,j,by simp⟩)
   ·exact(q.trans o fun b hb=>.inr (by omega)).trans B fun b hb=>(p b hb).imp id oJ
   ·rcases R b hb with h|h
    ·exact p b h
    ·exact .inr (by omega)
   ·simp only
    rw[List.append_assoc];exact((List.Perm.append_left pre (Qo N j).symm)).trans u
end Go.Lift
