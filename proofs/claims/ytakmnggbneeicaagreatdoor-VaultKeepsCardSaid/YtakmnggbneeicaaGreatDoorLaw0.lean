/- A part of the proof that the named laws of this program answer true, whatever the input. -/
import Derived.Test.YtakmnggbneeicaaGreatDoorLift1
import Derived.ProofKit
import Derived.SizedLaws
import Derived.LaidMore
import Derived.LaidHandle
import Derived.OpenShut
import Derived.Stop.Joined
open Array renaming getElem?_toList->bG
open List renaming getElem?_eq_some_iff->bH,getElem?_eq_getElem->af,mem_cons_self->al,mem_append_left->ci,length_cons->ar,map_cons->ce,filter_cons->aZ,append_nil->aX
open List.Perm renaming refl->qb
open Nat renaming le_refl->aj,mul_comm->tg,le_of_lt->p5
namespace Go.Lift
section
open Go.ChangeAt Go.ChangeShapes Go.RowKit Go.WideShapes
variable {cs vs:c5}{t:TypeId}{ps:List MemPlace}
section
variable {H:Type} {enc:TypeId×Value->H} {P:Program} {w:World} {base:Nat} {sp:Nat->Bool} {held:Bool}
theorem S6(a:Addr)(n:Nat):a.add n=adr a n:=by
 cases n with
 |zero=>rfl
 |succ n=>simp[Addr.add,adr]
theorem Ur{a:Addr}{n:Nat}(h:w.cells? base a n=some cs):cs.length=n/\∀j v,cs[j]? =some v->aI w.heap (adr a j)=some v:=by
 obtain⟨_,b,hc⟩:=World.cells?_some h;refine⟨b,λj v hv=>?_⟩
 have c:j<n:=by rw[<-b];exact(bH.1 hv).1
 have:=hc j c;rw[S6,hv]at this;exact this
theorem XM{fuel:Nat}{e:TypeId}{x:DataW H×List MemPlace}(ht:P.underlying t=some (.slice e))(h:DataW.trod enc P w base sp held fuel t cs=some x)
  {α:Type}(f:α->c5){sz:Nat}(C:P.cellsOf e=sz)(c:∀x,(f x).length=sz/\0<sz)(Q:α->Prop)
  (I:∀fuel (cells:c5) y,cells.length=sz->DataW.trod enc P w base sp held fuel e cells=some y->∃a,cells=f a/\Q a):
  ∃(s:f9) (xs:List α),cs= [.slice s.a s.len s.cap]/\s.len<=s.cap/\s.cap<=maxLen/\Sl f sz No w.heap s xs/\∀a∈xs,Q a:=by
 rcases DataW.trod_slice ht h with⟨S,_⟩|⟨a,len,cap,g,J,n,_,T,_,hb,N,hm,K,k,_⟩
 .exact⟨⟨none,0,0⟩,[],S,aj _,Nat.zero_le _,Sl.nil c,λa E=>by cases E⟩
 .have key:∀i,i<len->∃a',Q a'/\∀j v,(f a')[j]? =some v->aI w.heap (adr (adr a (i*sz)) j)=some v:=λi hi=>by
   have b:=k i hi;rw[C]at b;have:∃y,g[i]? =some y:=⟨_,af a4⟩;obtain⟨y,U⟩:=this;rw[U]at b;cases hc:w.cells? base (a.add (i*sz)) sz with
   |none=>rw[hc]at b;cases b
   |some cells=>
    rw[hc]at b;obtain⟨G,p⟩:=Ur hc;obtain⟨a',F,q⟩:=I n cells y G b;subst F;rw[S6]at p;exact⟨a',q,p⟩
  have:∀n,n<=len->∃xs:List α,xs.length=n/\(∀a∈xs,Q a)/\∀i x,xs[i]? =some x->∀j v,(f x)[j]? =some v->aI w.heap (adr (adr a (i*sz)) j)=some v:=by
   intro n;induction n with
   |zero=>exact λ_=>⟨[],rfl,(λa E=>by cases E),λi x hx=>by simp at hx⟩
   |succ n ih=>
    intro V;obtain⟨xs,A,q,hx⟩:=ih a4;obtain⟨a',u,D⟩:=key n a4;refine⟨xs++ [a'],by simp[A],λz d=>?_,λi x hi=>?_⟩
    .rcases List.mem_append.1 d with d|d
     .exact q z d
     .rw[List.mem_singleton.1 d];exact u
    .by_cases R:i<n
     .rw[List.getElem?_append_left a4]at hi
      exact hx i x hi
     .rw[List.getElem?_append_right a4]at hi
      have:i-xs.length=0:=by
       have:=(bH.1 hi).1;simp at this;omega
      rw[this]at hi;simp only[List.getElem?_cons_zero,Option.some.injEq]at hi;subst hi;have:i=n:=a4
      subst this;exact D
  obtain⟨xs,B,q,hx⟩:=this len (aj _);refine⟨⟨some a,len,cap⟩,xs,T,N,hm,⟨B.symm,c,λ_=>⟨a,rfl,id,λi v hv=>?_⟩⟩,q⟩
  obtain⟨m,d⟩:(∀x,(f x).length=sz)/\0<sz:=⟨λx=>(c x).1,by
   cases xs with
   |nil=>simp at hv
   |cons x _=>exact(c x).2⟩
  have hi:i<(xs.flatMap f).length:=(bH.1 hv).1;rw[gZ m]at hi;have o:i/sz<xs.length:=Nat.div_lt_of_lt_mul (by rw[tg];exact hi);have O:i%sz<sz:=Nat.mod_lt _ d;have e:i=i/sz*sz+i%sz:=by rw[tg];exact(Nat.div_add_mod i sz).symm
  have L:=vh m xs (i/sz) (i%sz) xs[i/sz] (af o) O;rw[<-e]at L;rw[L]at hv;have:=hx (i/sz) _ (af o) (i%sz) v hv;rw[oJ,<-e]at this;exact this
theorem Av{P:Program}(a:laidOutB P=true){W W':World}(hb:Below W.heap.size W W'):∀{ts:List TypeId} {vs:c5} {ds:List (DataW H)} {ps:List MemPlace},(∀t∈ts,P.readableRec t=true/\t<P.types.size)->
  DataW.TrodAll enc P W 0 (λ_=>true) true ts vs ds ps->(∀x∈ps,x.block<W.heap.size)->DataW.TrodAll enc P W' 0 (λb=>decide (b<W.heap.size)) true ts vs ds ps
 | [],[],[],_,_,h,_=>h
 |t::ts,v::vs,d::ds,ps,hr,h,hlt=>by
  obtain⟨p,q,c,e,rfl⟩:=h;exact⟨p,q,Below.trod a (hr t (al ..)).1 (hr t (al ..)).2 c hb λx hx=>hlt x (ci _ hx),
   Av a hb (λt ht=>hr t (List.mem_cons_of_mem _ ht)) e λx hx=>hlt x (List.mem_append_right _ hx),rfl⟩
 | [],_::_,_,_,_,h,_=>h.elim
 | [],[],_::_,_,_,h,_=>h.elim
 |_::_,[],_,_,_,h,_=>h.elim
 |_::_,_::_,[],_,_,h,_=>h.elim
theorem EI:∀{ts:List TypeId} {vs:c5} {ds:List (DataW H)} {ps:List MemPlace},DataW.TrodAll enc P w base sp held ts vs ds ps->ds.length=ts.length
 | [],[],[],_,_=>rfl
 |t::ts,v::vs,d::ds,ps,h=>by
  obtain⟨p,q,b,a,rfl⟩:=h;rw[ar,ar,EI a]
 | [],_::_,_,_,h=>h.elim
 | [],[],_::_,_,h=>h.elim
 |_::_,[],_,_,h=>h.elim
 |_::_,_::_,[],_,h=>h.elim
theorem DK{ts:List TypeId}{ds:List (DataW H)}(h:DataW.TrodAll enc P w base sp held (t::ts) vs ds ps):
  ∃v vs' d ds' p q,vs=v::vs'/\ds=d::ds'/\DataW.Trod enc P w base sp held t v d p/\DataW.TrodAll enc P w base sp held ts vs' ds' q:=by
 cases vs with
 |nil=>exact h.elim
 |cons v vs=>cases ds with
  |nil=>exact h.elim
  |cons d ds=>
   obtain⟨p,q,a,b,_⟩:=h;exact⟨v,vs,d,ds,p,q,rfl,rfl,a,b⟩
theorem Vf{ds:List (DataW H)}(h:DataW.TrodAll enc P w base sp held [] vs ds ps):vs= []:=by
 cases vs with
 |nil=>rfl
 |cons v vs=>exact h.elim
end
end
section
variable {κ β:Type}{h:ad}
theorem TO[DecidableEq κ]{m:List (κ×β)}{k:κ}{v:β}(a:(m.map (·.1)).Nodup)(hm:(k,v)∈m):(m.map (·.1)).Perm (k::(kZ m k).map (·.1)):=by
 induction m with
 |nil=>cases hm
 |cons p m ih=>
  obtain⟨k',u⟩:=p;simp only[ce,List.nodup_cons]at a;by_cases e:k'=k
  .subst e
   have:kZ ((k',u)::m) k'=m:=by
    unfold kZ;rw[aZ];simp only[ne_eq,not_true_eq_false,decide_false,Bool.false_eq_true,if_false];rw[List.filter_eq_self];intro q c;simp only[decide_not,Bool.not_eq_eq_eq_not,Bool.not_true,decide_eq_false_iff_not];intro d;exact a.1 (d▸List.mem_map.2 ⟨q,c,rfl⟩)
   rw[this];exact qb _
  .have b:(k,v)∈m:=by
    rcases List.mem_cons.1 hm with h|h
    .cases h;exact absurd rfl e
    .exact h
   have:kZ ((k',u)::m) k=(k',u)::kZ m k:=by
    unfold kZ;rw[aZ];simp[e]
   rw[this,ce,ce];exact((ih a.2 b).cons k').trans (List.Perm.swap ..)
theorem LoopP.imp{T:Type}{F G:(T->eu)->T->eu}{t:T}(l:LoopP G t h)(hi:∀I t h,G I t h->F I t h):LoopP F t h:=⟨λI a=>l.run I λt h b=>a t h (hi I t h b)⟩
theorem NextP.imp{a:Addr}{K j:Prop}{S g:MapEntry->eu}(n:NextP a h K S)(i:K->j)(t:∀e h,S e h->g e h):NextP a h j g:=by
 obtain⟨k,m,b,c,last,hb,f|⟨r,es,d,f,u,q,o,p⟩⟩:=n
 .exact⟨k,m,b,c,last,hb,.inl ⟨f.1,i f.2⟩⟩
 .exact⟨k,m,b,c,last,hb,.inr ⟨r,es,d,f,u,q,λx=>i (o x),λe s x=>t _ _ (p e s x)⟩⟩
theorem QH[DecidableEq κ]{E:KeyE κ}{g:β->Value}{P:Program}{f:FuncId}{r bx:Nat}{t:TypeId}{m:List (κ×β)}(hm:MapAt E g h r m)(hb:h[bx]? =some (.cells #[.map (some r)] t (0,0)))
  (hF:∀(y:Value) (c:ad) (K:Unit->eu),c[bx]? =some (.cells #[.map (some r)] t (0,0))->
   (∃a,(∃es,c[r]? =some (.map es a))/\∀s,s=c.push (.mapIter (some r) a #[] a)->
    LoopP (λ(I:Unit->eu) (_:Unit) h6=>NextP ⟨c.size,0,none⟩ h6 (K () h6) λe h8=>∃x v,xX h8 c.size e/\e.key=E.enc x/\e.val=g v/\HV P y [E.enc x] [.c .bool] (λb h'=>fN (!b) (K () h') (I () h')) h8) () s)->
   HE P f ([]++ [y]++ [.pointer (some ⟨bx,0,none⟩)]) [] K c):
  Gives P (.func (.func f) #[] #[.pointer (some ⟨bx,0,none⟩)]) (λx=> [E.enc x]) m.length (λxs=>xs.Perm (m.map (·.1))) (λb=>b=r\/b=bx) h:=by
 refine⟨λb Q=>Q.elim (λe=>e▸hm.lt) λe=>e▸bw hb,f,_,_,rfl,λy J A M c K ht S U T ha hk=>?_⟩
 have q:=hm.upd U (T r (.inl rfl));refine hF y c K (U.get hb (T bx (.inr rfl))) ?_;obtain⟨a,O,H⟩:=q.range;refine⟨a,O,λs e=>?_⟩
 subst e;have N:¬A r:=λe=>ha r e (.inl rfl)
 have Z:=q.lt;refine eF (λ(i:List κ×List (κ×β)×(eh)) (_:Unit) h'=>IterSt E g h' c.size r m i.2.1/\J i.1 i.2.2 h'/\Upd A c h'/\(∀b,i.2.2 b->A b\/c.size<b)/\(i.1++i.2.1.map (·.1)).Perm (m.map (·.1))) (λi=>i.2.1.length) ([],m,A)
  ⟨H,ht.keep _ _ _ _ (λb=>b=c.size) S (Upd.push _ _ _) (λb hb e=>absurd (ht.lt _ _ _ S b hb) a4),Upd.push _ _ _,λb hb=>.inl hb,qb _⟩ ?_
 rintro I ⟨pre,d,A1⟩ ⟨⟩ h' ⟨hi,o,B,p,z⟩ X;simp only at hi o p z;have L:=hi.nodup;have C:¬A1 c.size:=λe=>(p _ e).elim (λe=>absurd (ht.lt _ _ _ S _ e) a4) λe=>a4
 have w:¬A1 r:=λe=>(p _ e).elim N λe=>a4
 have hs1:c.size<h'.size:=by obtain⟨_,_,_,_,_,_,_,hb,_⟩:=hi;exact bw hb
 refine NextP.at (M:=(· =c.size)) hi rfl (λW=>?_) λk v j e s ek ev hit F n=>⟨k,v,hit,ek,ev,?_⟩
 .subst W
  rw[List.map_nil,aX]at z;exact hk pre A1 h' z o B λb hb=>(p b hb).imp id p5
 .have R:=ht.keep _ _ _ _ _ o n (λb hb e=>C (e▸hb))
  have hs2:=n.size;refine ht.step pre A1 s k _ R ?_ λY V G u D=>ag.2 ?_
  .have:=z.length_eq
   have:0<d.length:=List.length_pos_of_mem j;simp only[List.length_append,List.length_map]at*;omega
  .refine X (pre++ [k],kZ d k,V) () Y ⟨F.upd u C w,G,?_,λb hb=>?_,?_⟩ (by
    simp only
    unfold kZ
    exact List.length_filter_lt_length_iff_exists.2 ⟨_,j,a7⟩)
   .exact(B.trans n λb hb=>.inr a4).trans u λb hb=>(p b hb).imp id p5
   .rcases D b hb with h|h
    .exact p b h
    .exact .inr a4
   .simp only
    rw[List.append_assoc];exact((List.Perm.append_left pre (TO L j).symm)).trans z
end
section
open Go.ChangeAt Go.ChangeShapes Go.RowKit Go.WideShapes
section
variable {H:Type} {enc:TypeId×Value->H}
theorem VY{C:Checked}{os:Os}{f:FuncId}{fn:Func}{s:ChangeSpec}{ts:List TypeId}{tb:TypeId}(y:fn.params.toList=ts)(m:fn.resultTypes.toList= [tb])(z:C.prog.underlying tb=some .bool)(hv:s.vars= [])
  (u:∀(ds:List (DataW H)),ds.length=ts.length->(s.fn H ds).results= [.lit (.bool true)]/\(s.fn H ds).args=ds/\(s.fn H ds).vars= [])
  {listed:List (String×DataW Unit)}(own:ownKnob C.prog.godebug=none)(E:laidOutB C.prog=true)(o:∀t∈ts,C.prog.readableRec t=true/\t<C.prog.types.size)(a:os.Started)(g:C.prog.inits.idxOf? f=none)(K:C.prog.funcs[f]? =some fn)
  (c:∃(w:World) (tape:Tape) (i:Input),w.os=os/\(w.forCall tape i).Shaped C.prog/\i.vars= []/\Input.okWide C.prog (w.forCall tape i) .any w.heap.size f i/\
   ((s.pre enc C.prog fn [] false (w.forCall tape i).memory i.args/\laidMetH C.prog listed (w.forCall tape i).memory)/\sizedMet enc C.prog fn (OpenSpec.ofChange s) false (w.forCall tape i).memory i.args)/\({}:Assume).holds C.prog (lone (Frame.enter C.prog f i.args .normal) [] (w.forCall tape i)))
  (n:∀(args:Array Value) (w:World),(callFunc f args).run C.prog w=.ok (.enter f args) w)
  (hc:∀(W:World) (J:Nat) (args:c5) (ds:List (DataW H)) (p:List MemPlace),(∀(j:Nat) t v,ts[j]? =some t->args[j]? =some v->Value.okWide C.prog W .any J t v)->laidMetH C.prog listed W->DataW.TrodAll enc C.prog W 0 (λ_=>true) true ts args ds p->
   HC C.prog f args [.c .bool] (λb h'=>b=true/\Upd No W.heap h') W.heap):
  ReturnsInHanded {} C os f .any (λw args=>(s.pre enc C.prog fn [] false w args/\laidMetH C.prog listed w)/\sizedMet enc C.prog fn (OpenSpec.ofChange s) false w args) (s.post enc C.prog fn false true false false):=by
 refine returnsInHanded_of_change_and (X:=λw _=>laidMetH C.prog listed w) (λ_ _ _ Q h=>h.of_heap Q) own a g K c ?_
 intro W J args ds gs F B R _ _ hL _;have A:=R;obtain⟨p,q,I,S,rfl,hfz,Z⟩:=R;rw[y]at I;rw[hv]at S;obtain⟨rfl,rfl⟩:=trodVars_none S;have D:ds.length=ts.length:=EI I;have O:∀x∈p,x.block<W.heap.size:=λx hx=>A.lt x (ci _ hx)
 obtain⟨Y,ha,L⟩:=u ds D;have Q:=hc W J args.toList ds p (λj t v ht P=>B j t v (by rw[<-bG,y];exact ht) (by rw[<-bG];exact P)) hL I
 rcases Q.run W rfl with⟨_,T⟩|⟨v,V,U,_⟩
 .have e:args.toList.toArray=args:=by simp
  rw[e]at T;refine T.mono ?_;rintro e V ⟨ht,t,rfl,hb,G⟩;have d:t=true:=hb;subst d;refine⟨.bool true,rfl,ds,[],p++ [],[],p,[],A,?_,?_,?_,?_,λh=>by cases h⟩
  .rw[m,aX,Y]
   have:fn.resultTypes.size=1:=by have:=congrArg List.length m;simpa using this
   rw[this];refine⟨[],[],⟨1,?_⟩,rfl,rfl⟩;simp[DataW.trod,z,Value.cells]
  .rw[y,aX,ha]
   exact Av E ⟨ht.os,ht.tape,ht.output,G.size,λk N=>G.same k N id⟩ o I O
  .rw[hv,aX,L];rfl
  .exact Below.frame ⟨ht.os,ht.tape,ht.output,G.size,λk N=>G.same k N id⟩ _
 .rw[n]at U;cases U
end
end
end Go.Lift
