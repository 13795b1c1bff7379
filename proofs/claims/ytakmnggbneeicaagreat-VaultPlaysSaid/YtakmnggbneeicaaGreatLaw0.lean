/- A part of the proof that the named laws of this program answer true, whatever the input. -/
import Derived.Test.YtakmnggbneeicaaGreatLift1
import Derived.ProofKit
import Derived.SizedLaws
open Array renaming getElem?_toList->bJ
open List renaming getElem?_eq_some_iff->bM,getElem?_eq_getElem->af,mem_cons_self->aq,mem_append_left->cx,length_cons->av,append_nil->aX,map_cons->cn,filter_cons->bf
open List.Perm renaming refl->qx
open Nat renaming le_refl->aj,mul_comm->ip,le_of_lt->kr
namespace Go.Lift
section
open Go.ChangeAt Go.ChangeShapes Go.RowKit Go.WideShapes
variable {cs vs:c4}{t:TypeId}{ts:List TypeId}{ps:List MemPlace}
section
variable {H:Type} {enc:TypeId×Value->H} {P:Program} {w:World} {base:Nat} {sp:Nat->Bool} {held:Bool}
theorem US(a:Addr)(n:Nat):a.add n=adr a n:=by
 cases n with
 |zero=>rfl
 |succ n=>simp[Addr.add,adr]
theorem V9{a:Addr}{n:Nat}(h:w.cells? base a n=some cs):cs.length=n/\∀j v,cs[j]? =some v->aZ w.heap (adr a j)=some v:=by
 obtain⟨_,b,hc⟩:=World.cells?_some h;refine⟨b,λj v hv=>?_⟩
 have c:j<n:=by rw[<-b];exact(bM.1 hv).1
 have:=hc j c;rw[US,hv]at this;exact this
theorem ZC{c:Nat}{e:TypeId}{x:DataW H×List MemPlace}(ht:P.underlying t=some (.slice e))(h:DataW.trod enc P w base sp held c t cs=some x)
  {α:Type}(f:α->c4){sz:Nat}(D:P.cellsOf e=sz)(d:∀x,(f x).length=sz/\0<sz)(Q:α->Prop)
  (J:∀c (cells:c4) y,cells.length=sz->DataW.trod enc P w base sp held c e cells=some y->∃a,cells=f a/\Q a):
  ∃(s:fD) (xs:List α),cs= [.slice s.a s.len s.cap]/\s.len<=s.cap/\s.cap<=maxLen/\Sl f sz No w.heap s xs/\∀a∈xs,Q a:=by
 rcases DataW.trod_slice ht h with⟨T,_⟩|⟨a,len,cap,m,L,n,_,R,_,hb,S,hm,N,k,_⟩
 .exact⟨⟨none,0,0⟩,[],T,aj _,Nat.zero_le _,Sl.nil d,λa I=>by cases I⟩
 .have key:∀i,i<len->∃a',Q a'/\∀j v,(f a')[j]? =some v->aZ w.heap (adr (adr a (i*sz)) j)=some v:=λi hi=>by
   have b:=k i hi;rw[D]at b;have:∃y,m[i]? =some y:=⟨_,af a4⟩;obtain⟨y,O⟩:=this;rw[O]at b;cases hc:w.cells? base (a.add (i*sz)) sz with
   |none=>rw[hc]at b;cases b
   |some cells=>
    rw[hc]at b;obtain⟨E,p⟩:=V9 hc;obtain⟨a',C,u⟩:=J n cells y E b;subst C;rw[US]at p;exact⟨a',u,p⟩
  have:∀n,n<=len->∃xs:List α,xs.length=n/\(∀a∈xs,Q a)/\∀i x,xs[i]? =some x->∀j v,(f x)[j]? =some v->aZ w.heap (adr (adr a (i*sz)) j)=some v:=by
   intro n;induction n with
   |zero=>exact λ_=>⟨[],rfl,(λa I=>by cases I),λi x hx=>by simp at hx⟩
   |succ n ih=>
    intro W;obtain⟨xs,F,u,hx⟩:=ih a4;obtain⟨a',G,A⟩:=key n a4;refine⟨xs++ [a'],by simp[F],λz g=>?_,λi x hi=>?_⟩
    .rcases List.mem_append.1 g with g|g
     .exact u z g
     .rw[List.mem_singleton.1 g];exact G
    .by_cases V:i<n
     .rw[List.getElem?_append_left a4]at hi
      exact hx i x hi
     .rw[List.getElem?_append_right a4]at hi
      have:i-xs.length=0:=by
       have:=(bM.1 hi).1;simp at this;omega
      rw[this]at hi;simp only[List.getElem?_cons_zero,Option.some.injEq]at hi;subst hi;have:i=n:=a4
      subst this;exact A
  obtain⟨xs,B,u,hx⟩:=this len (aj _);refine⟨⟨some a,len,cap⟩,xs,R,S,hm,⟨B.symm,d,λ_=>⟨a,rfl,id,λi v hv=>?_⟩⟩,u⟩
  obtain⟨q,g⟩:(∀x,(f x).length=sz)/\0<sz:=⟨λx=>(d x).1,by
   cases xs with
   |nil=>simp at hv
   |cons x _=>exact(d x).2⟩
  have hi:i<(xs.flatMap f).length:=(bM.1 hv).1;rw[iw q]at hi;have o:i/sz<xs.length:=Nat.div_lt_of_lt_mul (by rw[ip];exact hi);have U:i%sz<sz:=Nat.mod_lt _ g;have e:i=i/sz*sz+i%sz:=by rw[ip];exact(Nat.div_add_mod i sz).symm
  have K:=vF q xs (i/sz) (i%sz) xs[i/sz] (af o) U;rw[<-e]at K;rw[K]at hv;have:=hx (i/sz) _ (af o) (i%sz) v hv;rw[pd,<-e]at this;exact this
theorem Bc{P:Program}(a:laidOutB P=true){W W':World}(hb:Below W.heap.size W W'):∀{ts:List TypeId} {vs:c4} {ds:List (DataW H)} {ps:List MemPlace},(∀t∈ts,P.readableRec t=true/\t<P.types.size)->
  DataW.TrodAll enc P W 0 (λ_=>true) true ts vs ds ps->(∀x∈ps,x.block<W.heap.size)->DataW.TrodAll enc P W' 0 (λb=>decide (b<W.heap.size)) true ts vs ds ps
 | [],[],[],_,_,h,_=>h
 |t::ts,v::vs,d::ds,ps,hr,h,hlt=>by
  obtain⟨p,q,c,e,rfl⟩:=h;exact⟨p,q,Below.trod a (hr t (aq ..)).1 (hr t (aq ..)).2 c hb λx hx=>hlt x (cx _ hx),
   Bc a hb (λt ht=>hr t (List.mem_cons_of_mem _ ht)) e λx hx=>hlt x (List.mem_append_right _ hx),rfl⟩
 | [],_::_,_,_,_,h,_=>h.elim
 | [],[],_::_,_,_,h,_=>h.elim
 |_::_,[],_,_,_,h,_=>h.elim
 |_::_,_::_,[],_,_,h,_=>h.elim
theorem FE:∀{ts:List TypeId} {vs:c4} {ds:List (DataW H)} {ps:List MemPlace},DataW.TrodAll enc P w base sp held ts vs ds ps->ds.length=ts.length
 | [],[],[],_,_=>rfl
 |t::ts,v::vs,d::ds,ps,h=>by
  obtain⟨p,q,b,a,rfl⟩:=h;rw[av,av,FE a]
 | [],_::_,_,_,h=>h.elim
 | [],[],_::_,_,h=>h.elim
 |_::_,[],_,_,h=>h.elim
 |_::_,_::_,[],_,h=>h.elim
theorem Ey{ds:List (DataW H)}(h:DataW.TrodAll enc P w base sp held (t::ts) vs ds ps):
  ∃v vs' d ds' p q,vs=v::vs'/\ds=d::ds'/\DataW.Trod enc P w base sp held t v d p/\DataW.TrodAll enc P w base sp held ts vs' ds' q:=by
 cases vs with
 |nil=>exact h.elim
 |cons v vs=>cases ds with
  |nil=>exact h.elim
  |cons d ds=>
   obtain⟨p,q,b,a,_⟩:=h;exact⟨v,vs,d,ds,p,q,rfl,rfl,b,a⟩
theorem W0{ds:List (DataW H)}(h:DataW.TrodAll enc P w base sp held [] vs ds ps):vs= []:=by
 cases vs with
 |nil=>rfl
 |cons v vs=>exact h.elim
theorem law_lifted{C:Checked}{os:Os}{f:FuncId}{fn:Func}{s:ChangeSpec}{tb:TypeId}(o:fn.params.toList=ts)(m:fn.resultTypes.toList= [tb])(u:C.prog.underlying tb=some .bool)(hv:s.vars= [])
  (n:∀(ds:List (DataW H)),ds.length=ts.length->(s.fn H ds).results= [.lit (.bool true)]/\(s.fn H ds).args=ds/\(s.fn H ds).vars= [])
  (own:ownKnob C.prog.godebug=none)(B:laidOutB C.prog=true)(z:∀t∈ts,C.prog.readableRec t=true/\t<C.prog.types.size)(c:os.Started)(g:C.prog.inits.idxOf? f=none)(N:C.prog.funcs[f]? =some fn)
  (a:∃(w:World) (tape:Tape) (i:Input),w.os=os/\(w.forCall tape i).Shaped C.prog/\i.vars= []/\Input.okWide C.prog (w.forCall tape i) .any w.heap.size f i/\
   s.pre6 enc C.prog fn [] false (w.forCall tape i).memory i.args/\({}:Assume).holds C.prog (lone (Frame.enter C.prog f i.args .normal) [] (w.forCall tape i)))
  (y:∀(args:Array Value) (w:World),(callFunc f args).run C.prog w=.ok (.enter f args) w)
  (hc:∀(W:World) (J:Nat) (args:c4) (ds:List (DataW H)) (p:List MemPlace),(∀(j:Nat) t v,ts[j]? =some t->args[j]? =some v->Value.okWide C.prog W .any J t v)->DataW.TrodAll enc C.prog W 0 (λ_=>true) true ts args ds p->
   HC C.prog f args [.c .bool] (λb h'=>b=true/\Upd No W.heap h') W.heap):
  ReturnsInHanded {} C os f .any (s.pre6 enc C.prog fn [] false) (s.post enc C.prog fn false true false false):=by
 refine returnsInHanded_of_change own c g N a ?_;intro W J args ds gs F A R _ _;have D:=R;obtain⟨p,q,G,T,rfl,Y,X⟩:=R;rw[o]at G;rw[hv]at T;obtain⟨rfl,rfl⟩:=trodVars_none T;have E:ds.length=ts.length:=FE G;have L:∀x∈p,x.block<W.heap.size:=λx hx=>D.lt x (cx _ hx)
 obtain⟨Z,ha,O⟩:=n ds E;have U:=hc W J args.toList ds p (λj t v ht P=>A j t v (by rw[<-bJ,o];exact ht) (by rw[<-bJ];exact P)) G
 rcases U.run W rfl with⟨_,Q⟩|⟨v,V,S,_⟩
 .have e:args.toList.toArray=args:=by simp
  rw[e]at Q;refine Q.mono ?_;rintro e V ⟨ht,t,rfl,hb,I⟩;have d:t=true:=hb;subst d;refine⟨.bool true,rfl,ds,[],p++ [],[],p,[],D,?_,?_,?_,?_,λh=>by cases h⟩
  .rw[m,aX,Z]
   have:fn.resultTypes.size=1:=by have:=congrArg List.length m;simpa using this
   rw[this];refine⟨[],[],⟨1,?_⟩,rfl,rfl⟩;simp[DataW.trod,u,Value.cells]
  .rw[o,aX,ha]
   exact Bc B ⟨ht.os,ht.tape,ht.output,I.size,λk K=>I.same k K id⟩ z G L
  .rw[hv,aX,O];rfl
  .exact Below.frame ⟨ht.os,ht.tape,ht.output,I.size,λk K=>I.same k K id⟩ _
 .rw[y]at S;cases S
end
end
section
variable {κ β:Type}{h:ad}
theorem Vz[DecidableEq κ]{m:List (κ×β)}{k:κ}{v:β}(b:(m.map (·.1)).Nodup)(hm:(k,v)∈m):(m.map (·.1)).Perm (k::(lA m k).map (·.1)):=by
 induction m with
 |nil=>cases hm
 |cons p m ih=>
  obtain⟨k',u⟩:=p;simp only[cn,List.nodup_cons]at b;by_cases e:k'=k
  .subst e
   have:lA ((k',u)::m) k'=m:=by
    unfold lA;rw[bf];simp only[ne_eq,not_true_eq_false,decide_false,Bool.false_eq_true,if_false];rw[List.filter_eq_self];intro q c;simp only[decide_not,Bool.not_eq_eq_eq_not,Bool.not_true,decide_eq_false_iff_not];intro d;exact b.1 (d▸List.mem_map.2 ⟨q,c,rfl⟩)
   rw[this];exact qx _
  .have a:(k,v)∈m:=by
    rcases List.mem_cons.1 hm with h|h
    .cases h;exact absurd rfl e
    .exact h
   have:lA ((k',u)::m) k=(k',u)::lA m k:=by
    unfold lA;rw[bf];simp[e]
   rw[this,cn,cn];exact((ih b.2 a).cons k').trans (List.Perm.swap ..)
theorem LoopP.imp{T:Type}{F G:(T->dO)->T->dO}{t:T}(l:LoopP G t h)(hi:∀I t h,G I t h->F I t h):LoopP F t h:=⟨λI a=>l.run I λt h b=>a t h (hi I t h b)⟩
theorem NextP.imp{a:Addr}{K i:Prop}{S j:MapEntry->dO}(n:NextP a h K S)(g:K->i)(s:∀e h,S e h->j e h):NextP a h i j:=by
 obtain⟨k,m,b,c,last,hb,f|⟨r,es,d,f,p,o,t,q⟩⟩:=n
 .exact⟨k,m,b,c,last,hb,.inl ⟨f.1,g f.2⟩⟩
 .exact⟨k,m,b,c,last,hb,.inr ⟨r,es,d,f,p,o,λx=>g (t x),λe u x=>s _ _ (q e u x)⟩⟩
theorem Sv[DecidableEq κ]{E:KeyE κ}{g:β->Value}{P:Program}{f:FuncId}{r bx:Nat}{t:TypeId}{m:List (κ×β)}(hm:MapAt E g h r m)(hb:h[bx]? =some (.cells #[.map (some r)] t (0,0)))
  (hF:∀(y:Value) (c:ad) (K:Unit->dO),c[bx]? =some (.cells #[.map (some r)] t (0,0))->
   (∃a,(∃es,c[r]? =some (.map es a))/\∀s,s=c.push (.mapIter (some r) a #[] a)->
    LoopP (λ(I:Unit->dO) (_:Unit) h6=>NextP ⟨c.size,0,none⟩ h6 (K () h6) λe h8=>∃x v,yA h8 c.size e/\e.key=E.enc x/\e.val=g v/\HV P y [E.enc x] [.c .bool] (λb h'=>fo (!b) (K () h') (I () h')) h8) () s)->
   HE P f ([]++ [y]++ [.pointer (some ⟨bx,0,none⟩)]) [] K c):
  Gives P (.func (.func f) #[] #[.pointer (some ⟨bx,0,none⟩)]) (λx=> [E.enc x]) m.length (λxs=>xs.Perm (m.map (·.1))) (λb=>b=r\/b=bx) h:=by
 refine⟨λb N=>N.elim (λe=>e▸hm.lt) λe=>e▸bB hb,f,_,_,rfl,λy J A M c K ht H U T ha V=>?_⟩
 have C:=hm.upd U (T r (.inl rfl));refine hF y c K (U.get hb (T bx (.inr rfl))) ?_;obtain⟨a,G,D⟩:=C.range;refine⟨a,G,λs e=>?_⟩
 subst e;have R:¬A r:=λe=>ha r e (.inl rfl)
 have hr1:=C.lt;refine ez (λ(d:List κ×List (κ×β)×(dx)) (_:Unit) h'=>IterSt E g h' c.size r m d.2.1/\J d.1 d.2.2 h'/\Upd A c h'/\(∀b,d.2.2 b->A b\/c.size<b)/\(d.1++d.2.1.map (·.1)).Perm (m.map (·.1))) (λd=>d.2.1.length) ([],m,A)
  ⟨D,ht.keep _ _ _ _ (λb=>b=c.size) H (Upd.push _ _ _) (λb hb e=>absurd (ht.lt _ _ _ H b hb) a4),Upd.push _ _ _,λb hb=>.inl hb,qx _⟩ ?_
 rintro I ⟨pre,i,A1⟩ ⟨⟩ h' ⟨hi,j,w,p,z⟩ hI;simp only at hi j p z;have F:=hi.nodup;have q:¬A1 c.size:=λe=>(p _ e).elim (λe=>absurd (ht.lt _ _ _ H _ e) a4) λe=>a4
 have u:¬A1 r:=λe=>(p _ e).elim R λe=>a4
 have Y:c.size<h'.size:=by obtain⟨_,_,_,_,_,_,_,hb,_⟩:=hi;exact bB hb
 refine NextP.at (M:=(· =c.size)) hi rfl (λhe=>?_) λk v o e s ek W hit Q n=>⟨k,v,hit,ek,W,?_⟩
 .subst he
  rw[List.map_nil,aX]at z;exact V pre A1 h' z j w λb hb=>(p b hb).imp id kr
 .have S:=ht.keep _ _ _ _ _ j n (λb hb e=>q (e▸hb))
  have hs2:=n.size;refine ht.step pre A1 s k _ S ?_ λX Z L B O=>ag.2 ?_
  .have:=z.length_eq
   have:0<i.length:=List.length_pos_of_mem o;simp only[List.length_append,List.length_map]at*;omega
  .refine hI (pre++ [k],lA i k,Z) () X ⟨Q.upd B q u,L,?_,λb hb=>?_,?_⟩ (by
    simp only
    unfold lA
    exact List.length_filter_lt_length_iff_exists.2 ⟨_,o,a6⟩)
   .exact(w.trans n λb hb=>.inr a4).trans B λb hb=>(p b hb).imp id kr
   .rcases O b hb with h|h
    .exact p b h
    .exact .inr a4
   .simp only
    rw[List.append_assoc];exact((List.Perm.append_left pre (Vz F o).symm)).trans z
end
end Go.Lift
