/- A part of the proof that the named laws of this program answer true, whatever the input. -/
import Derived.Test.YtakmnggbneeicaaGreatLift0
import Derived.BigFrameIn
open Array renaming getD_eq_getD_getElem?->dy,getElem?_toList->bJ,getElem?_setIfInBounds_ne->fe,replicate->pj,getElem?_eq_some_iff->cQ,getElem?_eq_getElem->eC,getElem?_eq_none->lL,mapM_eq_mapM_toList->oo,ext'->df,ext_getElem?->lN,getElem?_modify->mu,getElem?_setIfInBounds->dM
open Bool renaming eq_false_iff->iL,and_true->w9,or_eq_true->j7,and_eq_true->bC,not_eq_true'->mE,or_eq_false_iff->nG,false_eq_true->cY
open Go.Result renaming andThen_ok->aI
open Go.Sem renaming run_bind->bA,run_pure->cr
open List renaming mem_of_getElem?->iA,length_cons->av,mem_cons->aw,getElem?_cons_zero->cT,getElem?_eq_getElem->af,any_eq_true->cq,getElem?_eq_some_iff->bM,mem_cons_of_mem->aA,mem_cons_self->aq,range->fy,filter_cons->bf,mem_singleton->az,size_toArray->cW,flatMap_cons->aL,length_append->ae,getElem?_append_left->bW,getElem?_append_right->bE,length_take->aV,length_drop->ba,take_append_drop->aW,flatMap_append->bI,length_eq_zero_iff->aK,getElem?_toArray->du,length_nil->bq,take_append_of_le_length->fG,drop_eq_nil_of_le->gE,nil_append->cS,append_assoc->au,take_left'->cZ,drop_drop->cV,drop_left'->cK,drop_append_of_le_length->fJ,mem_map->be,map_map->jc,nodup_nil->qr,map_cons->cn,nodup_cons->eP,filter_sublist->dH,filter_eq_self->db,mem_filter->bV,filter_filter->jI,filter_congr->fI
open Nat renaming blt->AM,beq->aS,eq_of_beq_eq_true->bD,land->kw,lor->dq,testBit_and->l5,zero_testBit->oc,succ->gg,zero_add->aU,beq_refl->uf,lt_or_ge->ci,pred->An,sub_zero->eI,strongRecOn->sZ,le_refl->aj,lt_of_lt_of_le->aD,not_lt->dR,succ_mul->il,add_zero->dP
open Option renaming some->bO
namespace Go.Lift
section
variable {w f:World}{o:Oper}{a c:Act}{K:yb->cR->dO}{next:Act->World->Prop}{Q:Exit->Act->World->Prop}{N i:Nat}{v:Value}{r:cR}{d:yb}{dv:DV}{ek:Option (Kind×Kind)}{h:ad}{t:Array Value}{b:Bool}{ops:Array Oper}{W:dx}
variable {P:Program} {ro:Option Nat} {n:Nat}
def FW(ro:Option Nat):Fence:={fn:=λ_=>True,depth:=none,alive:=false,round:=ro}
theorem VY(m:Machine):m.fenced P (FW ro):=by
 intro g _;exact⟨λh=>by simp[FW]at h,.inl trivial,λ_ _=>trivial,λd h=>by simp[FW]at h⟩
theorem BM{m a:Machine}(h:Steps P m a):StepsIn (Machine.fenced P (FW ro)) P m a:=(StepsIn.of_steps h).mono λm _=>VY m
theorem Jl{k:Nat}{f:FuncId}{args:Array Value}{R:Ending->World->Prop}(h:Calls P f args w R):CallsIn (FW ro) k P f args w R:=by
 refine⟨trivial,λcs _=>?_⟩
 obtain⟨e,b,fr,g,hc,a,d⟩:=h cs;refine⟨e,b,fr,g,?_,a,d⟩;cases e with
 |returned v=>exact BM hc
 |panicked c=>exact BM hc
 |outgrown=>exact hc
theorem rK{K:WK}(hd:∀c,o.op≠ .defer c)(h:Ql P (execOp a.eval o) K w)
  (j:∀v d,Tame w d->K v d.heap->next (a.put o.dst v) d):o.wpIn (FW ro) n P a w next Q:=by
 refine⟨λ_ _=>trivial,?_⟩
 rw[Oper.semAt_eq _ _ _ hd];rcases h with⟨v,d,g,ht,i⟩|⟨d,g,ht,i⟩|⟨f,args,g,hc⟩|⟨l,fn,tmps,assign,body,g,hc⟩
 .rw[g];exact j v d ht i
 .rw[g];exact j undef d ht i
 .rw[g]
  refine⟨λh=>by simp[FW]at h,Jl (hc.mono ?_)⟩
  rintro e d ⟨ht,v,rfl,i⟩;exact j v d ht i
 .rw[g]
  refine⟨λh=>by simp[FW]at h,trivial,λc cs _=>?_⟩
  obtain⟨b,d,ht,i,k⟩:=hc c cs;exact⟨.returned (.bool b),d,j _ d ht i,BM k⟩
theorem vI{K:cR->Prop}(h:Ce N o v r K)(c:Agree N r a)(hd:DecOk d r)(hv:K5 dv v):
  ∃r',K r'/\Agree N r' (a.put o.dst v)/\DecOk (tV d o dv) r':=by
 unfold Ce at h;unfold tV;cases ho:o.dst with
 |none=>rw[ho]at h;exact⟨r,h,c,hd⟩
 |some t=>
  rw[ho]at h;simp only at h;cases hb:AM t N with
  |false=>rw[hb]at h;exact h.elim
  |true=>
   rw[hb]at h;have b:t<N:=by simpa using hb
   refine⟨_,h,c.put t v b,λs=>?_⟩
   by_cases e:t=s
   .subst e
    have:tB ((t,dv)::d) t=dv:=by simp[tB]
    rw[this];exact .inr ⟨v,jf t v r,hv⟩
   .have g:tB ((t,dv)::d) s=tB d s:=by
     have:aS t s=false:=iL.2 λf=>e (bD f)
     show(bif aS t s then dv else tB d s)=_
     rw[this];rfl
    rw[g,ij v r e];exact hd s
theorem FM{o:Op}{K:RK}(a:Eo P ek o r K h):∀c,o≠ .defer c:=by
 intro c e;subst e;exact a
theorem zi{K:WK}(a:Ks P o r K h):∀c,o.op≠ .defer c:=by
 intro c e;unfold Ks at a;rw[e]at a;exact a
theorem adp{o:Op}(h:yP P o=false):Ot d o=.x:=by
 cases o<;>first|rfl|(simp[yP]at h)
theorem Vi{K:cR->dO}
  (f:acl P N ek o r K w.heap)(j:Agree N r a)(hd:DecOk d r)
  (p:∀v b i,Tame w b->K i b.heap->Agree N i (a.put o.dst v)->DecOk (tV d o (Ot d o.op)) i->next (a.put o.dst v) b):o.wpIn (FW ro) n P a w next Q:=by
 unfold acl at f;cases hq:yP P o.op with
 |true=>
  rw[hq,cond_true]at f;obtain⟨v,S,m,q,k,t⟩:=EO j f d hd;refine rK (K:=λu h'=>u=v/\h'=w.heap) (FM f) (.inl ⟨v,w,t w q,Tame.refl w,rfl,rfl⟩) ?_
  rintro u b ht ⟨rfl,s⟩;obtain⟨i,e,g,c⟩:=vI m j hd k;exact p u b i ht (by rw[s];exact e) g c
 |false=>
  rw[hq,cond_false]at f;refine rK (zi f) (Eu j f) ?_;intro v b ht m;obtain⟨i,e,g,c⟩:=vI m j hd (dv:=Ot d o.op) (by rw[adp hq];trivial);exact p v b i ht e g c
theorem L0(h:t.getD i undef=.bool b):t[i]? =some (.bool b):=by
 rw[dy]at h;cases hc:t[i]? with
 |none=>rw[hc]at h;simp[undef]at h
 |some v=>rw[hc]at h;simp at h;rw[h]
theorem SM(h:t.getD i undef=undef):t[i]? =none\/t[i]? =some undef:=by
 rw[dy]at h;cases hc:t[i]? with
 |none=>exact .inl rfl
 |some v=>rw[hc]at h;simp at h;rw[h];exact .inr rfl
theorem oC(h:jL ops.toList d o=some b)(n:Agree N r a)(hd:DecOk d r):
  Region.wanted o (yielded ops a.tmps)=b:=by
 unfold jL at h;unfold Region.wanted;cases hg:o.guard with
 |none=>rw[hg]at h;simp only[bO.injEq]at h;exact h
 |some g=>
  obtain⟨j,c⟩:=g;rw[hg]at h;simp only[bJ]at h;simp only;cases hj:ops[j]? with
  |none=>rw[hj]at h;cases h
  |some oj=>
   rw[hj]at h;simp only at h;cases ht:oj.dst with
   |none=>rw[ht]at h;cases h
   |some t=>
    rw[ht]at h;simp only at h;have m:yielded ops a.tmps j=(match a.tmps[t]? with|some (.bool b)=>some b|_=>none):=by
     unfold yielded;simp[hj,ht];rfl
    rw[m];rcases hd t with hx|⟨v,hv,k⟩
    .rw[hx]at h;cases h
    .have i:=n.look t v hv
     cases hdl:tB d t with
     |x=>rw[hdl]at h;cases h
     |t=>
      rw[hdl]at h k;simp only[bO.injEq]at h;subst h;have:v=.bool true:=k;subst this;rw[L0 i];cases c<;>rfl
     |f=>
      rw[hdl]at h k;simp only[bO.injEq]at h;subst h;have:v=.bool false:=k;subst this;rw[L0 i];cases c<;>rfl
     |u=>
      rw[hdl]at h k;simp only[bO.injEq]at h;subst h;have:v=undef:=k;subst this;rcases SM i with e|e<;>rw[e]<;>cases c<;>rfl
structure Fr(W:dx)(a0:Act)(w0:World)(a:Act)(w:World):Prop where
 tame:Tame w0 w
 defers:a.defers=a0.defers
 same:∀t,¬W t->a.tmps.getD t undef=a0.tmps.getD t undef
theorem Fr.refl(W:dx)(a:Act)(w:World):Fr W a w a w:=⟨Tame.refl w,rfl,λ_ _=>rfl⟩
theorem Fr.put{g:Act}{i:World}(h:Fr W g i a w)(j:∀d,o.dst=some d->W d)(v:Value)(ht:Tame w f):Fr W g i (a.put o.dst v) f:=by
 refine⟨h.tame.trans ht,?_,λt b=>?_⟩
 .cases ho:o.dst<;>simp[Act.put,h.defers]
 .cases ho:o.dst with
  |none=>exact h.same t b
  |some d=>
   have c:d≠t:=λe=>b (e▸j d ho)
   rw[<-h.same t b];simp[Act.put,fe c]
theorem Fr.trans{d:Act}{e b:World}(h:Fr W c f a e)(k:Fr W a e d b):Fr W c f d b:=
 ⟨h.tame.trans k.tame,k.defers.trans h.defers,λt ht=>(k.same t ht).trans (h.same t ht)⟩
theorem Fr.mono{W':dx}{b:World}(h:Fr W c b a w)(d:∀t,W t->W' t):Fr W' c b a w:=
 ⟨h.tame,h.defers,λt ht=>h.same t λe=>ht (d t e)⟩
theorem DecOk.known(h:DecOk d r){t:Nat}(hv:K5 dv v):DecOk ((t,dv)::d) ((t,v)::r):=λs=>by
 by_cases e:t=s
 .subst e
  have:tB ((t,dv)::d) t=dv:=by simp[tB]
  rw[this];exact .inr ⟨v,jf t v r,hv⟩
 .have b:tB ((t,dv)::d) s=tB d s:=by
   have:aS t s=false:=iL.2 λa=>e (bD a)
   show(bif aS t s then dv else tB d s)=_
   rw[this];rfl
  rw[b,ij v r e];exact h s
theorem HG
  (hi:ops[i]? =some o) (s:jL ops.toList d o=some b) (j:Agree N r a) (hd:DecOk d r)
  (m:match b with
   |true=>acl P N ek o r (K (tV d o (Ot d o.op))) w.heap
   |false=>Ce N o undef r λc=>K (tV d o .u) c w.heap)
  (p:∀v g d' c,Tame w g->K d' c g.heap->Agree N c (a.put o.dst v)->DecOk d' c->next (a.put o.dst v) g):
  wpOpIn (FW ro) n P ops Q i next a w:=by
 unfold wpOpIn;rw[hi];simp only[oC s j hd];cases b with
 |true=>exact Vi m j hd λv g c ht q f e=>p v g _ c ht q f e
 |false=>
  obtain⟨c,k,f,e⟩:=vI (dv:=.u) m j hd rfl;exact⟨λ_ _=>trivial,p undef w _ c (Tame.refl w) k f e⟩
theorem Vh{ops:List Oper}{os:List Oper}{K:cR->dO}:H2 P N ek ops (o::os) d K r h=
 (match jL ops d o with
 |some true=>acl P N ek o r (λa h'=>H2 P N ek ops os (tV d o (Ot d o.op)) K a h') h
 |some false=>Ce N o undef r λa=>H2 P N ek ops os (tV d o .u) K a h
 |none=>match IR ops o with
  |none=>False
  |some t=>match li r t with
   |some (.bool b)=>fo b
    (Lq P N ek ops o ((t,.t)::d) ((t,.bool true)::r) h λc a h'=>H2 P N ek ops os c K a h')
    (Lq P N ek ops o ((t,.f)::d) ((t,.bool false)::r) h λc a h'=>H2 P N ek ops os c K a h')
   |_=>False):=rfl
theorem Lg
  (hi:ops[i]? =some o) (e:Agree N r a) (hd:DecOk d r) (c:Lq P N ek ops.toList o d r w.heap K)
  (f:∀v w' d' r',Tame w w'->K d' r' w'.heap->Agree N r' (a.put o.dst v)->DecOk d' r'->next (a.put o.dst v) w'):
  wpOpIn (FW ro) n P ops Q i next a w:=by
 unfold Lq at c;cases hw:jL ops.toList d o with
 |none=>rw[hw]at c;exact c.elim
 |some b=>rw[hw]at c;exact HG (ek:=ek) hi hw e hd (by cases b<;>exact c) f
theorem H1{N:Nat}{ek:Option (Kind×Kind)}{ops:Array Oper}{W:dx}(u:∀o∈ops.toList,∀d,o.dst=some d->W d){s:Act}{x:World}{K:cR->dO}{Q:Exit->Act->World->Prop}
  (q:∀r a w,Agree N r a->Fr W s x a w->K r w.heap->Q .normal a w):
  ∀(l:List Oper) (i:Nat),ops.toList.drop i=l->∀(d:yb) (r:cR) (a:Act) (w:World),H2 P N ek ops.toList l d K r w.heap->Agree N r a->DecOk d r->Fr W s x a w->
   wpOpsIn (FW ro) n P ops Q (List.range' i l.length) a w
 | [],i,_,d,r,a,w,hs,ha,hd,hf=>q r a w ha hf hs
 |o::os,i,hdr,d,r,a,w,hs,ha,hd,hf=>by
  have hi:ops[i]? =some o:=by
   rw[<-bJ];have:(ops.toList.drop i)[0]? =some o:=by rw[hdr];rfl
   simpa using this
  have g:o∈ops.toList:=iA (by rw[bJ];exact hi);have j:ops.toList.drop (i+1)=os:=by rw[<-List.tail_drop,hdr];rfl
  rw[av,List.range'_succ,wpOpsIn_cons];rw[Vh]at hs;have m:∀v f e c,Tame w f->H2 P N ek ops.toList os e K c f.heap->Agree N c (a.put o.dst v)->DecOk e c->wpOpsIn (FW ro) n P ops Q (List.range' (i+1) os.length) (a.put o.dst v) f:=
   λv f e c ht y p k=>H1 u q os (i+1) j e c _ f y p k (hf.put (u o g) v ht)
  cases hw:jL ops.toList d o with
  |some b=>
   rw[hw]at hs;exact HG (ek:=ek) (K:=λe c h'=>H2 P N ek ops.toList os e K c h') hi hw ha hd (by cases b<;>exact hs) m
  |none=>
   rw[hw]at hs;simp only at hs;split at hs
   .exact hs.elim
   .rename_i t ht
    split at hs
    .rename_i b hb
     cases b with
     |true=>exact Lg hi (ha.known hb) (hd.known (dv:=.t) rfl) (hs.yes rfl) m
     |false=>exact Lg hi (ha.known hb) (hd.known (dv:=.f) rfl) (hs.no rfl) m
    .exact hs.elim
end
section
variable {a:Array Bool}{b i j ls:Nat}{ms:List DM}
theorem CM(m i:Nat):tb m i=m.testBit i:=by
 have h:kw (Nat.shiftRight m i) 1=(m>>>i)&&&1:=rfl;unfold tb;rw[h,Nat.testBit_eq_decide_div_mod_eq,Nat.and_one_is_mod,Nat.shiftRight_eq_div_pow];cases hm:decide (m/2^i%2=1)with
 |true=>rw[of_decide_eq_true hm];rfl
 |false=>
  have a:=of_decide_eq_false hm;have:m/2^i%2=0:=a4
  rw[this];rfl
theorem px(a b i:Nat):(dq a b).testBit i=(a.testBit i||b.testBit i):=Nat.testBit_or a b i
theorem Cj(i j:Nat):(ie i).testBit j=decide (i=j):=Nat.testBit_two_pow
theorem E7{a:Nat}(h:aS (kw a b) 0=true)(t:Nat)(d:a.testBit t=true)(hb:b.testBit t=true):False:=by
 have c:=bD h;have:(kw a b).testBit t=(a.testBit t&&b.testBit t):=l5 a b t;rw[c,d,hb]at this;simp at this
theorem aaL{a:Nat}(h:aS (kw a b) a=true)(t:Nat)(d:a.testBit t=true):b.testBit t=true:=by
 have c:=bD h;have:(kw a b).testBit t=(a.testBit t&&b.testBit t):=l5 a b t;rw[c,d]at this;simpa using this.symm
theorem Bh(i:Nat):∀l:List Edge,(nR l).testBit i=l.any λe=>aS e.on i&&Region.binds .any e
 | []=>oc i
 |e::l=>by
  have a:=Bh i l;have hc:nR (e::l)=bif Region.binds .any e then dq (ie e.on) (nR l)else nR l:=rfl;rw[hc,List.any_cons,<-a];cases hb:Region.binds .any e with
  |true=>
   rw[cond_true,px,Cj,w9];congr 1
   cases hd:aS e.on i with
   |true=>simpa using bD hd
   |false=>rw[decide_eq_false_iff_not];intro b;rw[b]at hd;simp at hd
  |false=>simp
theorem DG(o:Oper)(i:Nat):(nR o.after.toList).testBit i=jM o i:=Bh i o.after.toList
theorem CJ(t:Nat):∀l:List Operand,(mL l).testBit t=true↔Operand.tmp t∈l
 | []=>by simp[show mL []=0 from rfl]
 |o::l=>by
  have a:=CJ t l;cases o with
  |tmp u=>
   have hc:mL (.tmp u::l)=dq (ie u) (mL l):=rfl;rw[hc,px,Cj,j7,a,aw];simp[eq_comm]
  |const v=>
   have hc:mL (.const v::l)=mL l:=rfl;rw[hc,a,aw];simp
  |global v=>
   have hc:mL (.global v::l)=mL l:=rfl;rw[hc,a,aw];simp
  |func v=>
   have hc:mL (.func v::l)=mL l:=rfl;rw[hc,a,aw];simp
theorem zP(o:Oper)(t:Nat):(pa o).testBit t=true↔o.dst=some t:=by
 unfold pa;cases o.dst with
 |none=>simp
 |some d=>simp[Cj]
theorem KH(ops:Array Oper)(o:Oper)(t:Nat):(pG ops.toList o).testBit t=true↔t∈o.looksAt ops:=by
 unfold pG Oper.looksAt;rw[px,j7,CJ,List.mem_append,List.mem_filterMap];refine or_congr ⟨λh=>⟨_,h,rfl⟩,?_⟩ ?_
 .rintro⟨x,hx,a⟩
  cases x<;>simp at a
  subst a;exact hx
 .cases hg:o.guard with
  |none=>simp
  |some g=>
   obtain⟨j,b⟩:=g;simp only[bJ];cases hj:ops[j]? with
   |none=>simp
   |some oj=>simp[zP]
variable {P:Program} {ro:Option Nat} {n:Nat} {ops:Array Oper} {Q:Exit->Act->World->Prop}
structure MsOk(ops:Array Oper)(ms:List DM):Prop where
 am:∀(i:Nat) (o:Oper) (m:DM),ops[i]? =some o->ms[i]? =some m->∀j,m.am.testBit j=jM o j
 lk:∀(i:Nat) (o:Oper) (m:DM),ops[i]? =some o->ms[i]? =some m->∀t,m.lk.testBit t=true↔t∈o.looksAt ops
 ds:∀(i:Nat) (o:Oper) (m:DM),ops[i]? =some o->ms[i]? =some m->∀t,m.ds.testBit t=true↔o.dst=some t
 len:ms.length=ops.size
 free:∀(i j:Nat) (m k:DM),ms[i]? =some m->ms[j]? =some k->m.fr.testBit j=true->j=i\/k.am.testBit i=true\/E8 m k=true
 nosel:∀(i:Nat) (o:Oper),ops[i]? =some o->(∀cs b,o.op≠ .select cs b)/\(∀c,o.op≠ .defer c)
theorem Dd(ops:List Oper):∀(l:List Oper) (ms:List DM),zA ops l ms=true->ms.length=l.length/\∀(i:Nat) (o:Oper) (m:DM),l[i]? =some o->ms[i]? =some m->
  m.am=nR o.after.toList/\m.lk=pG ops o/\m.ds=pa o
 | [],[],_=>⟨rfl,λi o m h=>by simp at h⟩
 | [],_::_,h=>by cases h
 |o::l,[],h=>by cases h
 |o::l,m::ms,h=>by
  have hc:zA ops (o::l) (m::ms)=(aS (nR o.after.toList) m.am&&aS (pG ops o) m.lk&&aS (pa o) m.ds&&zA ops l ms):=rfl;rw[hc]at h;simp only[bC]at h;obtain⟨⟨⟨e,c⟩,b⟩,g⟩:=h;obtain⟨f,j⟩:=Dd ops l ms g;refine⟨by simp[f],λi k d a hm=>?_⟩
  cases i with
  |zero=>
   simp only[cT,bO.injEq]at a hm;subst a;subst hm;exact⟨(bD e).symm,(bD c).symm,(bD b).symm⟩
  |succ i=>exact j i k d (by simpa using a) (by simpa using hm)
theorem L4(i:Nat)(m:DM):∀(l:List DM) (j0:Nat),L5 i m l j0=true->∀(j:Nat) (k:DM),l[j]? =some k->m.fr.testBit (j0+j)=true->j0+j=i\/k.am.testBit i=true\/E8 m k=true
 | [],j0,_,j,k,hk,_=>by simp at hk
 |x::l,j0,h,j,k,hk,hb=>by
  have hc:L5 i m (x::l) j0=((!(tb m.fr j0)||aS j0 i||tb x.am i||E8 m x)&&L5 i m l (gg j0)):=rfl
  rw[hc]at h;simp only[bC,j7,mE,CM]at h;cases j with
  |zero=>
   simp only[cT,bO.injEq]at hk;subst hk;simp only[Nat.add_zero]at hb⊢;rcases h.1 with((a|a)|a)|a
   .rw[a]at hb;cases hb
   .exact .inl (bD a)
   .exact .inr (.inl a)
   .exact .inr (.inr a)
  |succ j=>
   have:=L4 i m l (j0+1) h.2 j k (by simpa using hk) (by rw[show j0+1+j=j0+(j+1) by omega];exact hb)
   rw[show j0+1+j=j0+(j+1) by omega]at this
   exact this
theorem F5(all:List DM):∀(l:List DM) (i0:Nat),Dn all l i0=true->∀(i:Nat) (m:DM),l[i]? =some m->L5 (i0+i) m all 0=true
 | [],i0,_,i,m,hm=>by simp at hm
 |x::l,i0,h,i,m,hm=>by
  have hc:Dn all (x::l) i0=(L5 i0 x all 0&&Dn all l (gg i0)):=rfl;rw[hc,bC]at h;cases i with
  |zero=>simp only[cT,bO.injEq]at hm;subst hm;exact h.1
  |succ i=>
   have:=F5 all l (i0+1) h.2 i m (by simpa using hm);rw[show i0+1+i=i0+(i+1) by omega]at this
   exact this
theorem LH:∀(l:List Oper),Py l=true->∀o∈l,(∀cs b,o.op≠ .select cs b)/\(∀c,o.op≠ .defer c)
 | [],_,o,a=>by cases a
 |x::l,h,o,a=>by
  simp only[Py,bC]at h;rcases aw.1 a with rfl|a
  .refine⟨λcs b e=>?_,λc e=>?_⟩
   .rw[e]at h;cases h.1
   .rw[e]at h;cases h.1
  .exact LH l h.2 o a
theorem Se(h:Hn ops.toList ms=true):MsOk ops ms:=by
 have hc:Hn ops.toList ms=(zA ops.toList ops.toList ms&&Dn ms ms 0&&Py ops.toList):=rfl;rw[hc]at h;simp only[bC]at h;obtain⟨⟨e,d⟩,c⟩:=h;obtain⟨f,b⟩:=Dd ops.toList ops.toList ms e;refine⟨λi o m a hm j=>?_,λi o m a hm t=>?_,λi o m a hm t=>?_,by simpa using f,λi j m k hm g hb=>?_,λi o a=>?_⟩
 .rw[(b i o m (by simpa using a) hm).1,DG]
 .rw[(b i o m (by simpa using a) hm).2.1,KH]
 .rw[(b i o m (by simpa using a) hm).2.2,zP]
 .have:=F5 ms ms 0 d i m hm
  rw[aU]at this;have:=L4 i m ms 0 this j k g (by rwa [aU]);rwa [aU]at this
 .exact LH _ c o (iA (by rw[bJ];exact a))
theorem YQ(hm:MsOk ops ms){c b:Oper}{g f:DM}(hi:ops[i]? =some c) (m:ops[j]? =some b) (e:ms[i]? =some g) (a:ms[j]? =some f) (h:E8 g f=true):
  (∀d,c.dst=some d->d∉b.looksAt ops)/\(∀d,c.dst=some d->b.dst≠some d)/\(∀d,b.dst=some d->d∉c.looksAt ops):=by
 unfold E8 at h;rw[bC]at h;refine⟨λd hd k=>?_,λd hd n=>?_,λd hd k=>?_⟩
 .exact E7 h.1 d ((hm.ds i c g hi e d).2 hd) (by rw[px,(hm.lk j b f m a d).2 k,Bool.true_or])
 .exact E7 h.1 d ((hm.ds i c g hi e d).2 hd) (by rw[px,(hm.ds j b f m a d).2 n,Bool.or_true])
 .exact E7 h.2 d ((hm.ds j b f m a d).2 hd) ((hm.lk i c g hi e d).2 k)
structure LsRel(ops:Array Oper)(ls:Nat)(listed:Array Bool):Prop where
 size:listed.size=ops.size
 bit:∀j,listed.getD j false=ls.testBit j
theorem LsRel.start:LsRel ops 0 (pj ops.size false):=⟨a6,λj=>by
 rw[oc,dy]
 by_cases h:j<ops.size<;>simp[h]⟩
theorem LsRel.put(h:LsRel ops ls a)(hi:i<ops.size):LsRel ops (dq ls (ie i)) (a.setIfInBounds i true):=by
 refine⟨by simp[h.size],λj=>?_⟩
 rw[px,Cj,<-h.bit];by_cases e:i=j
 .subst e;simp[h.size,hi]
 .simp[e,fe e]
theorem LsRel.unlisted(h:LsRel ops ls a)(hi:i<ops.size):a.getD i true=ls.testBit i:=by
 rw[<-h.bit];have:i<a.size:=by rw[h.size];exact hi
 simp[this]
theorem Lv(hm:MsOk ops ms)(h:LsRel ops ls a):j∈Region.ready .any ops a↔∃m,ms[j]? =some m/\ls.testBit j=false/\Oq m ls=true:=by
 rw[mem_ready];constructor
 .rintro⟨k,o,n,g⟩
  have b:j<ops.size:=(cQ.1 n).1;have d:j<ms.length:=by rw[hm.len];exact b
  refine⟨ms[j],af d,by rw[<-h.unlisted b];exact k,?_⟩
  unfold Oq;have:kw (ms[j]).am ls=(ms[j]).am:=by
   apply Nat.eq_of_testBit_eq;intro t;have c:(kw (ms[j]).am ls).testBit t=((ms[j]).am.testBit t&&ls.testBit t):=l5 _ _ t;rw[c];cases ht:(ms[j]).am.testBit t with
   |false=>rfl
   |true=>
    rw[hm.am j o _ n (af d)]at ht;unfold jM at ht;obtain⟨e,i,hb⟩:=cq.1 ht;simp only[bC]at hb;have:=g e (by simpa using i) hb.2;rw[bD hb.1,h.bit]at this;rw[this];rfl
  rw[this];exact uf _
 .rintro⟨m,f,k,p⟩
  have b:j<ops.size:=by rw[<-hm.len];exact(bM.1 f).1
  refine⟨by rw[h.unlisted b];exact k,ops[j],eC b,λe i hb=>?_⟩
  rw[h.bit];refine aaL p e.on ?_;rw[hm.am j _ m (eC b) f];unfold jM;exact cq.2 ⟨e,by simpa using i,by simp[hb]⟩
theorem uq(ls:Nat):∀(l:List DM) (j0 j:Nat),j∈mQ ls l j0↔∃k m,l[k]? =some m/\j=j0+k/\ls.testBit j=false/\Oq m ls=true
 | [],j0,j=>by simp[show mQ ls [] j0= []from rfl]
 |m::l,j0,j=>by
  have hc:mQ ls (m::l) j0=bif !(tb ls j0)&&Oq m ls then j0::mQ ls l (gg j0)else mQ ls l (gg j0):=rfl;have e:=uq ls l (j0+1) j;rw[hc,CM];have step:(∃k c,(m::l)[k]? =some c/\j=j0+k/\ls.testBit j=false/\Oq c ls=true)↔(j=j0/\ls.testBit j0=false/\Oq m ls=true)\/j∈mQ ls l (j0+1):=by
   rw[e];constructor
   .rintro⟨k,c,d,rfl,b,a⟩
    cases k with
    |zero=>simp only[cT,bO.injEq]at d;subst d;exact .inl ⟨rfl,b,a⟩
    |succ k=>exact .inr ⟨k,c,by simpa using d,a4,b,a⟩
   .rintro(⟨rfl,b,a⟩|⟨k,c,d,rfl,b,a⟩)
    .exact⟨0,m,rfl,rfl,b,a⟩
    .exact⟨k+1,c,by simpa using d,a4,b,a⟩
  rw[step];cases hb:(!(ls.testBit j0)&&Oq m ls)with
  |true=>
   simp only[bC,mE]at hb;rw[cond_true,aw];simp[hb.1,hb.2]
  |false=>
   rw[cond_false];constructor
   .exact .inr
   .rintro(⟨_,b,a⟩|h)
    .rw[b,a]at hb;cases hb
    .exact h
theorem nJ(hm:MsOk ops ms)(h:LsRel ops ls a):j∈Region.ready .any ops a↔j∈mQ ls ms 0:=by
 rw[Lv hm h,uq];constructor
 .rintro⟨m,b,d,c⟩;exact⟨j,m,b,a4,d,c⟩
 .rintro⟨k,m,b,rfl,d,c⟩;exact⟨m,by simpa using b,d,c⟩
theorem Az:∀{a b:List Nat},yp a b=true->a=b
 | [],[],_=>rfl
 | [],_::_,h=>by cases h
 |_::_,[],h=>by cases h
 |a::as,b::bs,h=>by
  simp only[yp,bC]at h;rw[bD h.1,Az h.2]
end
section
variable {ms:List DM}{a:Array Bool}{m k i j ls N:Nat}{S:dO}{o:Oper}{v:Value}{K:Act->World->Prop}{w:World}{L:sN}
variable {P:Program} {ro:Option Nat} {n:Nat} {ops:Array Oper} {Q:Exit->Act->World->Prop}
theorem CI{m:Nat}{p:Nat->Bool}(hm:∀j,m.testBit j=true->p j=true):∀(l:List DM) (j0:Nat),(∀j x,l[j]? =some x->p (j0+j)=true->∀k,x.am.testBit k=true->p k=true)->∀k,(WE m l j0).testBit k=true->p k=true
 | [],_,_,k,h=>hm k h
 |x::l,j0,hl,k,h=>by
  have hc:WE m (x::l) j0=bif tb m j0 then dq x.am (WE m l (gg j0))else WE m l (gg j0):=rfl;have a:=CI hm l (j0+1) (λj y b c=>hl (j+1) y (by simpa using b) (by rw[show j0+(j+1)=j0+1+j by omega];exact c)) k
  rw[hc,CM]at h;cases hb:m.testBit j0 with
  |true=>
   rw[hb,cond_true,px,j7]at h;rcases h with h|h
   .exact hl 0 x rfl (hm _ hb) k h
   .exact a h
  |false=>
   rw[hb,cond_false]at h;exact a h
theorem CH{m k:Nat}(h:m.testBit k=true):∀(l:List DM) (j0:Nat),(WE m l j0).testBit k=true
 | [],_=>h
 |x::l,j0=>by
  have hc:WE m (x::l) j0=bif tb m j0 then dq x.am (WE m l (gg j0))else WE m l (gg j0):=rfl;have a:=CH h l (j0+1);rw[hc];cases tb m j0 with
  |true=>rw[cond_true,px,j7];exact .inr a
  |false=>exact a
def Shut(ms:List DM)(a:Array Bool):Prop:=∀j x,ms[j]? =some x->a.getD j false=true->∀k,x.am.testBit k=true->a.getD k false=true
theorem V8(d:Shut ms a)(hm:∀j,m.testBit j=true->a.getD j false=true)(h:(Dw ms m).testBit k=true):a.getD k false=true:=by
 have b:∀j x,ms[j]? =some x->(λk=>a.getD k false) (0+j)=true->∀k,x.am.testBit k=true->(λk=>a.getD k false) k=true:=λj x hx c=>d j x hx (by rw[aU]at c;exact c)
 unfold Dw at h;exact CI (p:=λk=>a.getD k false) (CI (CI (CI hm ms 0 b) ms 0 b) ms 0 b) ms 0 b k h
theorem Mh(h:m.testBit k=true):(Dw ms m).testBit k=true:=by
 unfold Dw;exact CH (CH (CH (CH h ms 0) ms 0) ms 0) ms 0
noncomputable abbrev rel(ms:List DM)(i:Nat)(L:sN):sN:=CT (Dw ms (N7 ms i)) L
theorem kQ{m:Nat}{x:Nat×(dO)}:∀{L:sN},x∈CT m L↔x∈L/\tb m x.1=false
 | []=>by simp[CT]
 |(k,S)::L=>by
  have b:=kQ (m:=m) (x:=x) (L:=L);simp only[CT];cases hk:tb m k with
  |true=>
   rw[cond_true,b,aw];constructor
   .exact λh=>⟨.inr h.1,h.2⟩
   .rintro⟨h|h,a⟩
    .subst h;rw[hk]at a;cases a
    .exact⟨h,a⟩
  |false=>
   rw[cond_false,aw,b,aw];constructor
   .rintro(h|h)
    .subst h;exact⟨.inl rfl,hk⟩
    .exact⟨.inr h.1,h.2⟩
   .rintro⟨h|h,a⟩
    .exact .inl h
    .exact .inr ⟨h,a⟩
def WM(ms:List DM)(ro:Option Nat)(n:Nat)(P:Program)(ops:Array Oper)(Q:Exit->Act->World->Prop):Nat->sN->Array Bool->Act->World->Prop
 |0,_,listed,a,w=>Region.ready .any ops listed= []/\Q .normal a w
 |f+1,L,listed,a,w=>(Region.ready .any ops listed= []->Q .normal a w)/\
  ∀i∈Region.ready .any ops listed,∀o,ops[i]? =some o->
   wpOpIn (FW ro) n P ops Q i (λa' b=>(∀x∈rel ms i L,x.2 b.heap)/\WM ms ro n P ops Q f (rel ms i L) (listed.setIfInBounds i true) a' b) a w
theorem zu{o:Oper}{x:Nat×(dO)}:∀{L:sN},x∈p7 o L↔x∈L/\jM o x.1=false
 | []=>by simp[p7]
 |(k,S)::L=>by
  have b:=zu (o:=o) (x:=x) (L:=L);simp only[p7];cases hk:jM o k with
  |true=>
   rw[cond_true,b,aw];constructor
   .exact λh=>⟨.inr h.1,h.2⟩
   .rintro⟨h|h,a⟩
    .subst h;rw[hk]at a;cases a
    .exact⟨h,a⟩
  |false=>
   rw[cond_false,aw,b,aw];constructor
   .rintro(h|h)
    .subst h;exact⟨.inl rfl,hk⟩
    .exact⟨.inr h.1,h.2⟩
   .rintro⟨h|h,a⟩
    .exact .inl h
    .exact .inr ⟨h,a⟩
theorem Vn(h:i∈Region.ready .any ops a):∃o,ops[i]? =some o:=by
 obtain⟨_,o,b,_⟩:=mem_ready.1 h;exact⟨o,b⟩
theorem TG{ms:List DM}:∀(f:Nat) (L:sN) (listed:Array Bool) (a:Act) (w:World),WM ms ro n P ops Q f L listed a w->wpAnyIn (FW ro) n P .any ops Q f listed a w
 |0,_,_,_,_,h=>h
 |f+1,L,listed,a,w,h=>⟨h.1,λi hi=>by
  obtain⟨o,b⟩:=Vn hi
  exact wpOpIn_mono (λa' c h'=>TG f _ _ a' c h'.2) (h.2 i hi o b)⟩
theorem xe{ms:List DM}:∀(f:Nat) (L L':sN) (listed:Array Bool) (a:Act) (w:World),(∀x∈L',x∈L\/∀h,x.2 h)->WM ms ro n P ops Q f L listed a w->WM ms ro n P ops Q f L' listed a w
 |0,_,_,_,_,_,_,h=>h
 |f+1,L,L',listed,a,w,hs,h=>⟨h.1,λi hi o c=>by
  have b:∀x∈rel ms i L',x∈rel ms i L\/∀h,x.2 h:=λx hx=>(hs x (kQ.1 hx).1).imp (λh=>kQ.2 ⟨h,(kQ.1 hx).2⟩) id
  exact wpOpIn_mono (λa' d h'=>⟨λx hx=>(b x hx).elim (h'.1 x) λh=>h _,xe f _ _ _ a' d b h'.2⟩) (h.2 i hi o c)⟩
def YG(P:Program)(ops:Array Oper)(S:dO)(o:Oper)(v:Value)(a:Act):Prop:=
 (Region.wanted o (yielded ops a.tmps)=true/\∀w:World,S w.heap->(execOp a.eval o).run P w=.ok (.value v) w)\/
 (Region.wanted o (yielded ops a.tmps)=false/\v=undef)
theorem YG.wpOp{a:Act}(hi:ops[i]? =some o) (hd:∀c,o.op≠ .defer c) (d:YG P ops S o v a)   (e:S w.heap)
  (h:K (a.put o.dst v) w):wpOpIn (FW ro) n P ops Q i K a w:=by
 unfold wpOpIn;simp only[hi];rcases d with⟨b,hv⟩|⟨b,rfl⟩
 .simp only[b,if_true]
  refine⟨λ_ _=>trivial,?_⟩
  rw[Oper.semAt_eq _ _ _ hd,hv w e];exact h
 .simp only[b,Bool.false_eq_true,if_false];exact⟨λ_ _=>trivial,h⟩
theorem YG.of_same{a a':Act}(b:YG P ops S o v a)(c:execOp a'.eval o=execOp a.eval o)
  (d:Region.wanted o (yielded ops a'.tmps)=Region.wanted o (yielded ops a.tmps)):YG P ops S o v a':=by
 unfold YG at*;rw[c,d];exact b
theorem QY{g i:Oper}(E:ops[j]? =some i)
  (A:(∀d,g.dst=some d->d∉i.looksAt ops)/\(∀d,g.dst=some d->i.dst≠some d)/\(∀d,i.dst=some d->d∉g.looksAt ops))
  (t:∀cs b,g.op≠ .select cs b) (B:∀cs b,i.op≠ .select cs b) (q:∀c,i.op≠ .defer c)
  (D:∀e a w,(∀c,e=.panic c->False)\/¬Q e a w)  {a:Act} 
  (k:YG P ops S g v a) (h:wpOpIn (FW ro) n P ops Q j K (a.put g.dst v) w):
  wpOpIn (FW ro) n P ops Q j (λa' z=>YG P ops S g v a'/\K (a'.put g.dst v) z) a w:=by
 obtain⟨C,p,y⟩:=A;have o:∀c a w,¬Q (.panic c) a w:=λc a w F=>(D (.panic c) a w).elim (λh=>h c rfl) λh=>h F
 have keep:∀(a:Act),YG P ops S g v a->∀u,YG P ops S g v (a.put i.dst u):=λa k u=>
  k.of_same (execOp_put g t a i.dst u y) (wanted_put g a i.dst u y)
 unfold wpOpIn at*;simp only[E]at*;rw[wanted_put i a g.dst v C]at h;split
 .rename_i hw
  simp only[hw,if_true]at h;refine⟨λ_ _=>trivial,?_⟩
  have h:=h.2;rw[Oper.semAt_eq _ _ _ q,execOp_put i B a g.dst v C]at h;rw[Oper.semAt_eq _ _ _ q];generalize (execOp a.eval i).run P w=r at*;cases r with
  |ok x z=>
   cases x<;>simp only[Oper.uponIn]at h⊢
   case value u=>exact⟨keep a k u,by rw[<-Act.put_comm a v u p];exact h⟩
   case skip=>exact⟨keep a k _,by rw[<-Act.put_comm a v undef p];exact h⟩
   case defer d=>
    refine⟨(k.of_same (a':={a with defers:=d::a.defers}) rfl rfl).of_same (execOp_put g t _ i.dst undef y) (wanted_put g _ i.dst undef y),?_⟩;rw[<-Act.put_comm _ v undef p,<-Act.put_defers];exact h
   case enter f args=>
    refine⟨h.1,CallsIn.mono h.2 λe s m=>?_⟩
    cases e with
    |returned u=>exact⟨keep a k u,by rw[<-Act.put_comm a v u p];exact m⟩
    |panicked c=>exact(o _ _ _ m).elim
    |outgrown=>exact m
   case row row args=>exact⟨h.1,RowsIn.mono h.2 λu s m=>⟨keep a k u,by rw[<-Act.put_comm a v u p];exact m⟩⟩
   case round l f tmps assign body=>
    refine⟨h.1,RoundIn.mono h.2 λe s m=>?_⟩
    cases e with
    |returned u=>exact⟨keep a k u,by rw[<-Act.put_comm a v u p];exact m⟩
    |panicked c=>exact(o _ _ _ m).elim
    |outgrown=>exact m
  |halt x z=>
   cases x<;>simp only[Oper.uponIn]at h⊢
   case panic u=>exact(o _ _ _ h).elim
 .rename_i hw
  simp only[hw]at h;exact⟨λ_ _=>trivial,keep a k _,by rw[<-Act.put_comm a v undef p];exact h.2⟩
theorem N6(hm:MsOk ops ms)(a:ops[i]? =some o) (k:Nat):(N7 ms i).testBit k=jM o k:=by
 have hi:i<ms.length:=by rw[hm.len];exact(cQ.1 a).1
 unfold N7;rw[af hi];exact hm.am i o _ a (af hi) k
theorem Pb(hm:MsOk ops ms)(f:j∈Region.ready .any ops a)(k:Nat)(c:(N7 ms j).testBit k=true):a.getD k false=true:=by
 obtain⟨_,o,d,b⟩:=mem_ready.1 f;rw[N6 hm d]at c;unfold jM at c;obtain⟨e,g,hb⟩:=cq.1 c;simp only[bC]at hb;have:=b e (by simpa using g) hb.2;rw[bD hb.1]at this;exact this
theorem PU(h:a.getD k false=true):(a.setIfInBounds j true).getD k false=true:=by
 by_cases e:j=k
 .subst e
  rw[dy]at h⊢;rcases ci j a.size with h'|h'
  .simp[h']
  .simp[lL h']at h
 .rw[dy,fe e,<-dy]
  exact h
theorem Shut.put(hm:MsOk ops ms)(d:Shut ms a)(f:j∈Region.ready .any ops a):Shut ms (a.setIfInBounds j true):=by
 intro i x hx b k c;by_cases e:j=i
 .subst e
  refine PU (Pb hm f k ?_);unfold N7;rw[hx];exact c
 .rw[dy,fe e,<-dy]at b
  exact PU (d i x hx b k c)
theorem HH(hm:MsOk ops ms){z:Oper}(hi:ops[i]? =some z) (p:∀(j:Nat) (o:Oper),ops[j]? =some o->(∀cs b,o.op≠ .select cs b)/\(∀c,o.op≠ .defer c))
  (Y:∀e a w,(∀c,e=.panic c->False)\/¬Q e a w):
  ∀(m:Nat) (L:sN) (f:Array Bool) (a:Act) (w:World),
   (∀j u,ops[j]? =some u->j≠i->f.getD j true=false->jM u i=false->
    (∀d,z.dst=some d->d∉u.looksAt ops)/\(∀d,z.dst=some d->u.dst≠some d)/\(∀d,u.dst=some d->d∉z.looksAt ops))->
   Shut ms f->i∈Region.ready .any ops f->YG P ops S z v a->S w.heap->(∀x∈L,x.2 w.heap)->
   WM ms ro n P ops Q m ((i,S)::L) (f.setIfInBounds i true) (a.put z.dst v) w->WM ms ro n P ops Q (m+1) L f a w:=by
 intro m;induction m with
 |zero=>
  intro L f a w _ _ C T W U H;refine⟨λh=>(by rw[h]at C;cases C),λj E u g=>?_⟩
  by_cases q:j=i
  .subst q
   rw[hi]at g;cases g;exact T.wpOp hi (p _ _ hi).2 W ⟨λx hx=>U x (kQ.1 hx).1,H⟩
  .have:=ready_mono E q
   rw[H.1]at this;cases this
 |succ m ih=>
  intro L f a w t O C T W U H;refine⟨λh=>(by rw[h]at C;cases C),λj E u g=>?_⟩
  by_cases q:j=i
  .subst q
   rw[hi]at g;cases g;exact T.wpOp hi (p _ _ hi).2 W ⟨λx hx=>U x (kQ.1 hx).1,xe _ _ _ _ _ _ (λx hx=>.inl (aA _ (kQ.1 hx).1)) H⟩
  .have s:=H.2 j (ready_mono E q) u g
   obtain⟨B,oj',A,R⟩:=mem_ready.1 E;rw[g]at A;cases A;have J:jM u i=false:=by
    cases hb:jM u i with
    |false=>rfl
    |true=>
     unfold jM at hb;obtain⟨e,he,hb⟩:=cq.1 hb;simp only[bC]at hb;have s:=R e (by simpa using he) hb.2;rw[bD hb.1]at s;have N:=(mem_ready.1 C).1;rcases ci i f.size with h'|h'
     .simp[h']at N s;rw[N]at s;cases s
     .simp[lL h']at s
   have D:tb (Dw ms (N7 ms j)) i=false:=by
    cases hb:tb (Dw ms (N7 ms j)) i with
    |false=>rfl
    |true=>
     rw[CM]at hb;have s:=V8 O (Pb hm E) hb;have N:=(mem_ready.1 C).1;rcases ci i f.size with h'|h'
     .simp[h']at N s;rw[N]at s;cases s
     .simp[lL h']at s
   have F:rel ms j ((i,S)::L)=(i,S)::rel ms j L:=by simp only[rel,CT,D,cond_false]
   rw[F]at s;have h2:=QY g (t j u g q B J) (p _ _ hi).1 (p _ _ g).1 (p _ _ g).2 Y T s;have y:∀k ok,ops[k]? =some ok->k≠i->(f.setIfInBounds j true).getD k true=false->jM ok i=false->
     (∀d,z.dst=some d->d∉ok.looksAt ops)/\(∀d,z.dst=some d->ok.dst≠some d)/\(∀d,ok.dst=some d->d∉z.looksAt ops):=λk ok Z V K X=>by
    refine t k ok Z V ?_ X;by_cases I:j=k
    .subst I;exact B
    .rw[getD_set_ne true I]at K;exact K
   refine wpOpIn_mono (λa' w' G=>⟨λx hx=>G.2.1 x (aA _ hx),ih (rel ms j L) (f.setIfInBounds j true) a' w' y (O.put hm E) (ready_mono C (Ne.symm q)) G.1 (G.2.1 _ (aq ..)) (λx hx=>G.2.1 x (aA _ hx)) ?_⟩) h2
   rw[Array.setIfInBounds_comm _ _ q];exact G.2.2
theorem tU{h:ad}{R:Prop}:∀{L:sN},uA L h R↔(∀x∈L,x.2 h)/\R
 | []=>by simp[uA]
 |(k,S)::L=>by
  simp only[uA,tU (L:=L),aw,forall_eq_or_imp,and_assoc]
theorem WL{f:Nat}{b:Array Bool}{a:Act}(c:Region.ready .any ops b= [])(h:Q .normal a w):WM ms ro n P ops Q f L b a w:=by
 cases f with
 |zero=>exact⟨c,h⟩
 |succ f=>exact⟨λ_=>h,by rw[c];simp⟩
def left(ops:Array Oper)(ls:Nat):Nat:=((fy ops.size).filter λj=> !ls.testBit j).length
theorem zD(hi:i<ops.size)(g:ls.testBit i=false):left ops (dq ls (ie i))+1=left ops ls:=by
 have key:∀l:List Nat,l.Nodup->i∈l->(l.filter λj=> !(dq ls (ie i)).testBit j).length+1=(l.filter λj=> !ls.testBit j).length:=by
  intro l;induction l with
  |nil=>intro _ h;cases h
  |cons x l ih=>
   intro c hm;rw[List.nodup_cons]at c;by_cases hx:x=i
   .subst hx
    have a:(l.filter λj=> !(dq ls (ie x)).testBit j)=l.filter λj=> !ls.testBit j:=by
     apply List.filter_congr;intro y f;have:x≠y:=λe=>c.1 (e▸f)
     rw[px,Cj,decide_eq_false this,Bool.or_false]
    have b:(dq ls (ie x)).testBit x=true:=by rw[px,Cj];simp
    rw[bf,bf,b,g,a];rfl
   .have d:i∈l:=by rcases aw.1 hm with h|h;exact absurd h.symm hx;exact h
    have b:(dq ls (ie i)).testBit x=ls.testBit x:=by rw[px,Cj,decide_eq_false (Ne.symm hx),Bool.or_false]
    have:=ih c.2 d;rw[bf,bf,b];cases ls.testBit x with
    |true=>exact this
    |false=>exact congrArg (· +1) this
 exact key _ List.nodup_range (List.mem_range.2 hi)
theorem VX{a:List Oper}{d:yb}{K:cR->dO}{r:cR}{b:ad}:∀{l:DA},oH P N a ms l true ls L d K r b->∃i,i∈E3 l
 | .done,h=>h.elim
 | .take i rest,h=>by
  exfalso;have hc:oH P N a ms (.take i rest) true ls L d K r b=(match a[i]?,ms[i]? with|some _,some _=>False|_,_=>False):=rfl
  rw[hc]at h;split at h<;>exact h
 | .all _,h=>h.elim
 | .pick i _ _,_=>⟨i,aq ..⟩
 | .last i _,_=>⟨i,aq ..⟩
 | .lastT i _,_=>⟨i,aq ..⟩
 | .split ..,h=>h.elim
def Tm(ro:Option Nat)(n:Nat)(P:Program)(ops:Array Oper)(Q:Exit->Act->World->Prop)(N:Nat)(ms:List DM)(W:dx)(f:Act)(e:World)(K:cR->dO)(c:DA):Prop:=
 ∀(m:Bool) (ls:Nat) (L:sN) (d:yb) (r:cR) (a:Act) (w:World) (listed:Array Bool) (fuel:Nat),
  oH P N ops.toList ms c m ls L d K r w.heap->Agree N r a->DecOk d r->Fr W f e a w->LsRel ops ls listed->Shut ms listed->(∀x∈L,x.2 w.heap)->
  (m=false->left ops ls<=fuel->WM ms ro n P ops Q fuel L listed a w)/\
  (m=true->left ops ls<=fuel+1->∀i∈E3 c,i∈mQ ls ms 0->∀o,ops[i]? =some o->
   wpOpIn (FW ro) n P ops Q i (λa' b=>(∀x∈rel ms i L,x.2 b.heap)/\WM ms ro n P ops Q fuel (rel ms i L) (listed.setIfInBounds i true) a' b) a w)
theorem O4(hm:MsOk ops ms){W:dx}(hW:∀o∈ops.toList,∀d,o.dst=some d->W d){a0:Act}{w0:World}{K:cR->dO}
  (hQ:∀r a w,Agree N r a->Fr W a0 w0 a w->K r w.heap->Q .normal a w)(hnp:∀e a w,(∀c,e=.panic c->False)\/¬Q e a w)(da:DA):
  Tm ro n P ops Q N ms W a0 w0 K da:=by
 have one:∀(i:Nat) (q:DA)
   (_:Tm ro n P ops Q N ms W a0 w0 K q)
   (ls:Nat) (L:sN) (d:yb) (r:cR) (a:Act) (w:World) (f:Array Bool) (p:Nat),
   Vj P N ops.toList i L d r w.heap (λL' d' F h'=>oH P N ops.toList ms q false (dq ls (ie i)) L' d' K F h')->Agree N r a->DecOk d r->Fr W a0 w0 a w->LsRel ops ls f->Shut ms f->
   left ops ls<=p+1->i∈mQ ls ms 0->∀o,ops[i]? =some o->
    wpOpIn (FW ro) n P ops Q i (λa' w'=>(∀x∈rel ms i L,x.2 w'.heap)/\WM ms ro n P ops Q p (rel ms i L) (f.setIfInBounds i true) a' w') a w:=by
  intro i q Y ls L d r a w f p g D hd O C s B hr o z;have A:i<ops.size:=(cQ.1 z).1;obtain⟨k,mm,hk,hki,R,_⟩:=(uq ls ms 0 i).1 hr;unfold Vj at g;rw[bJ,z]at g;simp only at g;cases hw:jL ops.toList d o with
  |none=>rw[hw]at g;exact g.elim
  |some b=>
   rw[hw]at g;cases b with
   |false=>exact g.elim
   |true=>
    simp only at g;cases hq:yP P o.op with
    |true=>
     rw[hq,cond_true]at g;unfold wpOpIn;rw[z];simp only[oC hw D hd,if_true];obtain⟨v,S,hK,hS,_,Z⟩:=EO D g d hd;refine rK (K:=λu h'=>u=v/\h'=w.heap) (FM g) (.inl ⟨v,w,Z w hS,Tame.refl w,rfl,rfl⟩) ?_
     rintro u w' ht ⟨rfl,hw'⟩;obtain⟨F,I,J,H⟩:=vI (dv:=.x) hK D hd trivial;obtain⟨hh,hs'⟩:=tU.1 I;have E:o∈ops.toList:=iA (by rw[bJ];exact z);have T:=zD A R;have G:∀x∈rel ms i L,x∈p7 o L:=λx hx=>zu.2 ⟨(kQ.1 hx).1,by
      cases hb:jM o x.1 with
      |false=>rfl
      |true=>
        have:=(kQ.1 hx).2
        rw[CM,Mh (by rw[N6 hm z];exact hb)]at this;cases this⟩
     rw[<-hw']at hh hs';exact⟨λx hx=>hh x (G x hx),xe _ _ _ _ _ _ (λx hx=>.inl (G x hx)) ((Y false _ _ _ F _ w' _ p hs' J H (O.put (hW o E) u ht) (C.put A) (s.put hm ((nJ hm C).2 hr)) hh).1 rfl a4)⟩
    |false=>
     rw[hq,cond_false]at g;unfold wpOpIn;rw[z];simp only[oC hw D hd,if_true];refine rK (zi g) (Eu D g) ?_;intro v w' ht hK;obtain⟨F,I,J,H⟩:=vI (dv:=.x) hK D hd trivial;obtain⟨hh,hs'⟩:=tU.1 I;have E:o∈ops.toList:=iA (by rw[bJ];exact z);have T:=zD A R;have G:∀x∈rel ms i L,x∈p7 o L:=λx hx=>zu.2 ⟨(kQ.1 hx).1,by
      cases hb:jM o x.1 with
      |false=>rfl
      |true=>
        have:=(kQ.1 hx).2
        rw[CM,Mh (by rw[N6 hm z];exact hb)]at this;cases this⟩
     exact⟨λx hx=>hh x (G x hx),xe _ _ _ _ _ _ (λx hx=>.inl (G x hx)) ((Y false _ _ _ F _ w' _ p hs' J H (O.put (hW o E) v ht) (C.put A) (s.put hm ((nJ hm C).2 hr)) hh).1 rfl a4)⟩
 have oneT:∀(i:Nat) (q:DA)
   (_:Tm ro n P ops Q N ms W a0 w0 K q)
   (ls:Nat) (L:sN) (d:yb) (r:cR) (a:Act) (w:World) (f:Array Bool) (p:Nat),
   TW P N ops.toList ms i L d r w.heap (λL' d' F h'=>oH P N ops.toList ms q false (dq ls (ie i)) L' d' K F h')->Agree N r a->DecOk d r->Fr W a0 w0 a w->LsRel ops ls f->Shut ms f->
   left ops ls<=p+1->i∈mQ ls ms 0->∀o,ops[i]? =some o->
    wpOpIn (FW ro) n P ops Q i (λa' w'=>(∀x∈rel ms i L,x.2 w'.heap)/\WM ms ro n P ops Q p (rel ms i L) (f.setIfInBounds i true) a' w') a w:=by
  intro i q Y ls L d r a w f p g D hd O C s B hr o z;have A:i<ops.size:=(cQ.1 z).1;obtain⟨k,mm,hk,hki,R,_⟩:=(uq ls ms 0 i).1 hr;unfold TW at g;rw[bJ,z]at g;simp only at g;cases hw:jL ops.toList d o with
  |none=>rw[hw]at g;exact g.elim
  |some b=>
   rw[hw]at g;cases b with
   |false=>exact g.elim
   |true=>
    simp only at g;cases hq:yP P o.op with
    |true=>rw[hq]at g;exact g.elim
    |false=>
     rw[hq,cond_false]at g;unfold wpOpIn;rw[z];simp only[oC hw D hd,if_true];refine rK (zi g) (Eu D g) ?_;intro v w' ht hK;obtain⟨F,I,J,H⟩:=vI (dv:=.x) hK D hd trivial;obtain⟨hh,hs'⟩:=tU.1 I;have E:o∈ops.toList:=iA (by rw[bJ];exact z);have T:=zD A R;exact⟨hh,(Y false _ _ _ F _ w' _ p hs' J H (O.put (hW o E) v ht) (C.put A) (s.put hm ((nJ hm C).2 hr)) hh).1 rfl a4⟩
 induction da with
 |done=>
  intro m ls L d r a w f p g D hd O C s V;cases m with
  |true=>exact g.elim
  |false=>
   refine⟨λ_ _=>?_,λh=>by cases h⟩
   have hc:oH P N ops.toList ms .done false ls L d K r w.heap=bif yp (mQ ls ms 0) []then K r w.heap else False:=rfl;rw[hc]at g;cases hb:yp (mQ ls ms 0) []with
   |false=>rw[hb]at g;exact g.elim
   |true=>
    rw[hb]at g;have hnil:Region.ready .any ops f= []:=by
     apply List.eq_nil_iff_forall_not_mem.2;intro j U;rw[nJ hm C,Az hb]at U;cases U
    exact WL hnil (hQ r a w D O g)
 |take i q Y=>
  intro m ls L d r a w f p g D hd O C s V;cases m with
  |true=>
   exfalso;have hc:oH P N ops.toList ms (.take i q) true ls L d K r w.heap=(match ops.toList[i]?,ms[i]? with|some _,some _=>False|_,_=>False):=rfl
   rw[hc]at g;split at g<;>exact g
  |false=>
   refine⟨λ_ B=>?_,λh=>by cases h⟩
   have hc:oH P N ops.toList ms (.take i q) false ls L d K r w.heap=(match ops.toList[i]?,ms[i]? with
    |some o,some mi=>bif HT mi i ls ops.toList.length then
      (match jL ops.toList d o with
       |none=>False
       |some false=>Ce N o undef r λF=>oH P N ops.toList ms q false (dq ls (ie i)) L (tV d o .u) K F w.heap
       |some true=>bif yP P o.op then
          Eo P none o.op r (λv S=>Ce N o v r λF=>match S with
            |none=>oH P N ops.toList ms q false (dq ls (ie i)) L (tV d o (Ot d o.op)) K F w.heap
            |some S=>oH P N ops.toList ms q false (dq ls (ie i)) ((i,S)::L) (tV d o (Ot d o.op)) K F w.heap) w.heap
          else False)
     else False
    |_,_=>False):=rfl
   rw[hc]at g;split at g
   .rename_i o mi z hmi
    rw[bJ]at z;cases htk:HT mi i ls ops.toList.length with
    |false=>rw[htk]at g;exact g.elim
    |true=>
     rw[htk,cond_true]at g;unfold HT at htk;simp only[bC,mE,CM]at htk;obtain⟨⟨hun,hrd⟩,hfr⟩:=htk;have A:i<ops.size:=(cQ.1 z).1;have y:i∈Region.ready .any ops f:=(Lv hm C).2 ⟨mi,hmi,hun,hrd⟩;have T:=zD (ops:=ops) A hun;obtain⟨f',rfl⟩:∃f',p=f'+1:=⟨p-1,a4⟩
     have E:o∈ops.toList:=iA (by rw[bJ];exact z);have hcov:∀j,j<ops.size->ls.testBit j=true\/mi.fr.testBit j=true:=by
      intro j U;have h0:=bD hfr;have hpb:(An (ie ops.toList.length)).testBit j=true:=by
        have:An (ie ops.toList.length)=2^ops.toList.length-1:=rfl;rw[this,Nat.testBit_two_pow_sub_one];simpa using U
      have hand:(kw (dq ls mi.fr) (An (ie ops.toList.length))).testBit j=((dq ls mi.fr).testBit j&&(An (ie ops.toList.length)).testBit j):=l5 _ _ j;rw[h0,hpb,w9,px]at hand;exact(Bool.or_eq_true_iff).1 hand.symm
     have X:∀j oj,ops[j]? =some oj->j≠i->f.getD j true=false->jM oj i=false->
        (∀d,o.dst=some d->d∉oj.looksAt ops)/\(∀d,o.dst=some d->oj.dst≠some d)/\(∀d,oj.dst=some d->d∉o.looksAt ops):=by
      intro j oj hoj hne hju hna;have U:j<ops.size:=(cQ.1 hoj).1;rw[C.unlisted U]at hju;have hjm:j<ms.length:=by rw[hm.len];exact U
      have hmj:=af hjm;rcases hcov j U with h|h
      . rw[h]at hju;cases hju
      . rcases hm.free i j mi _ hmi hmj h with h|h|h
        .exact absurd h hne
        .rw[hm.am j oj _ hoj hmj,hna]at h;cases h
        .exact YQ hm z hoj hmi hmj h
     cases hw:jL ops.toList d o with
     |none=>rw[hw]at g;exact g.elim
     |some b=>
      rw[hw]at g;have hwd:=oC hw D hd;cases b with
      |false=>
        obtain⟨F,I,J,H⟩:=vI (dv:=.u) g D hd rfl;have hy:YG P ops (λ_=>True) o undef a:=.inr ⟨hwd,rfl⟩
        refine HH hm z hm.nosel hnp f' L f a w X s y hy trivial V ?_;refine xe _ L _ _ _ _ (λx hx=>(aw.1 hx).elim (λe=>.inr λh=>by rw[e];trivial) .inl) ?_
        exact(Y false _ _ _ F _ w _ f' I J H (O.put (hW o E) undef (Tame.refl w)) (C.put A) (s.put hm y) V).1 rfl a4
      |true=>
        simp only at g;cases hq:yP P o.op with
        |false=>rw[hq]at g;exact g.elim
        |true=>
         rw[hq,cond_true]at g;obtain⟨v,S,hK,hS,hdv,Z⟩:=EO D g d hd;obtain⟨F,I,J,H⟩:=vI hK D hd hdv;have hfr':=O.put (hW o E) v (Tame.refl w);cases S with
         |none=>
           have hy:YG P ops (λ_=>True) o v a:=.inl ⟨hwd,λw _=>Z w trivial⟩
           refine HH hm z hm.nosel hnp f' L f a w X s y hy trivial V ?_;refine xe _ L _ _ _ _ (λx hx=>(aw.1 hx).elim (λe=>.inr λh=>by rw[e];trivial) .inl) ?_
           exact(Y false _ _ _ F _ w _ f' I J H hfr' (C.put A) (s.put hm y) V).1 rfl a4
         |some S=>
           have hy:YG P ops S o v a:=.inl ⟨hwd,λw h=>Z w h⟩
           refine HH hm z hm.nosel hnp f' L f a w X s y hy hS V ?_;exact(Y false _ _ _ F _ w _ f' I J H hfr' (C.put A) (s.put hm y) (λx hx=>(aw.1 hx).elim (λe=>by rw[e];exact hS) (V x))).1 rfl a4
   .exact g.elim
 |all l Y=>
  intro m ls L d r a w f p g D hd O C s V;cases m with
  |true=>exact g.elim
  |false=>
   refine⟨λ_ B=>?_,λh=>by cases h⟩
   have hc:oH P N ops.toList ms (.all l) false ls L d K r w.heap=bif yp (mQ ls ms 0) (E3 l)then oH P N ops.toList ms l true ls L d K r w.heap else False:=rfl;rw[hc]at g;cases hb:yp (mQ ls ms 0) (E3 l)with
   |false=>rw[hb]at g;exact g.elim
   |true=>
    rw[hb,cond_true]at g;obtain⟨i,hi⟩:=VX g;rw[<-Az hb]at hi;have hrd:=(nJ hm C (j:=i)).2 hi;obtain⟨k,mm,hk,hki,R,_⟩:=(uq ls ms 0 i).1 hi;have A:i<ops.size:=by
     have:=(bM.1 hk).1;rw[hm.len]at this;omega
    have T:=zD (ops:=ops) A R;obtain⟨f',rfl⟩:∃f',p=f'+1:=⟨p-1,a4⟩
    refine⟨λh=>(by rw[h]at hrd;cases hrd),λj U o z=>?_⟩
    have hj':=(nJ hm C).1 U;exact(Y true ls L d r a w f f' g D hd O C s V).2 rfl B j (by rw[<-Az hb];exact hj') hj' o z
 |pick i q more ih1 ih2=>
  intro m ls L d r a w f p g D hd O C s V;cases m with
  |false=>exact g.elim
  |true=>
   refine⟨λh=>(by cases h),λ_ B j U hjr o z=>?_⟩
   have g:Vj P N ops.toList i L d r w.heap (λL' d' F h'=>oH P N ops.toList ms q false (dq ls (ie i)) L' d' K F h')/\oH P N ops.toList ms more true ls L d K r w.heap:=g
   rcases aw.1 U with rfl|U
   .exact one _ q ih1 ls L d r a w f p g.1 D hd O C s B hjr o z
   .exact(ih2 true ls L d r a w f p g.2 D hd O C s V).2 rfl B j U hjr o z
 |last i q Y=>
  intro m ls L d r a w f p g D hd O C s V;cases m with
  |false=>exact g.elim
  |true=>
   refine⟨λh=>(by cases h),λ_ B j U hjr o z=>?_⟩
   have g:Vj P N ops.toList i L d r w.heap (λL' d' F h'=>oH P N ops.toList ms q false (dq ls (ie i)) L' d' K F h'):=g
   have hji:j=i:=az.1 U;subst hji;exact one _ q Y ls L d r a w f p g D hd O C s B hjr o z
 |lastT i q Y=>
  intro m ls L d r a w f p g D hd O C s V;cases m with
  |false=>exact g.elim
  |true=>
   refine⟨λh=>(by cases h),λ_ B j U hjr o z=>?_⟩
   have g:TW P N ops.toList ms i L d r w.heap (λL' d' F h'=>oH P N ops.toList ms q false (dq ls (ie i)) L' d' K F h'):=g
   have hji:j=i:=az.1 U;subst hji;exact oneT _ q Y ls L d r a w f p g D hd O C s B hjr o z
 |split t yes no ih1 ih2=>
  intro m ls L d r a w f p g D hd O C s V;cases m with
  |true=>exact g.elim
  |false=>
   refine⟨λ_ B=>?_,λh=>by cases h⟩
   have hc:oH P N ops.toList ms (.split t yes no) false ls L d K r w.heap=(match li r t with
    |some (.bool b)=>fo b (oH P N ops.toList ms yes false ls L ((t,.t)::d) K ((t,.bool true)::r) w.heap) (oH P N ops.toList ms no false ls L ((t,.f)::d) K ((t,.bool false)::r) w.heap)
    |_=>False):=rfl
   rw[hc]at g;split at g
   .rename_i b hlk
    cases b with
    |true=>exact(ih1 false ls L _ _ a w f p (g.yes rfl) (D.known hlk) (hd.known rfl) O C s V).1 rfl B
    |false=>exact(ih2 false ls L _ _ a w f p (g.no rfl) (D.known hlk) (hd.known rfl) O C s V).1 rfl B
   .exact g.elim
end
section
variable {m N:Nat}{r:cR}{a:Act}{w:World}{c:Code}{Q:Exit->Act->World->Prop}
variable {P:Program} {ro:Option Nat} {n:Nat}
theorem LU{r:cR}:∀{l:List Nat} {r0:cR},Uu r l=some r0->∀t v,li r0 t=some v->t∈l/\li r t=some v
 | [],r0,h,t,v,hv=>by cases h;cases hv
 |s::l,r0,h,t,v,hv=>by
  have h:(match li r s,Uu r l with|some v,some l=>some ((s,v)::l)|_,_=>none)=some r0:=h
  split at h
  .rename_i u l' hu hl
   cases h;by_cases e:s=t
   .subst e;rw[jf]at hv;cases hv;exact⟨aq ..,hu⟩
   .rw[ij u _ e]at hv
    have:=LU hl t v hv;exact⟨aA _ this.1,this.2⟩
  .cases h
theorem EV{m:Nat}{t:Nat}{v:Value}:∀{r:cR},li (zF m r) t=some v->m.testBit t=false/\li r t=some v
 | [],h=>by cases h
 |(k,u)::r,h=>by
  have h:li (bif tb m k then zF m r else(k,u)::zF m r) t=some v:=h;cases hk:tb m k with
  |true=>
   rw[hk]at h;have:=EV h;by_cases e:k=t
   .subst e;rw[CM,this.1]at hk;cases hk
   .rw[ij u _ e];exact this
  |false=>
   rw[hk]at h;have h:li ((k,u)::zF m r) t=some v:=h;by_cases e:k=t
   .subst e;rw[jf]at h⊢;rw[CM]at hk;exact⟨hk,h⟩
   .rw[ij u _ e]at h⊢;exact EV h
theorem Et{t:Nat}:∀{l:List Oper},(WQ l).testBit t=false->¬mJ t l=true
 | [],_,h=>by cases h
 |o::l,hm,h=>by
  have hm:(dq (pa o) (WQ l)).testBit t=false:=hm;rw[px,nG]at hm;have h:(match o.dst with|some d=>bif aS d t then true else mJ t l|none=>mJ t l)=true:=h
  cases hd:o.dst with
  |none=>rw[hd]at h;exact Et hm.2 h
  |some d=>
   rw[hd]at h;cases e:aS d t with
   |true=>have:=(zP o t).2 (by rw[hd,bD e]);rw[hm.1]at this;cases this
   |false=>simp only[e]at h;exact Et hm.2 h
theorem Px{a b:Option Nat}(h:acQ a b=some m):∃x y,a=some x/\b=some y/\m=dq x y:=by
 cases a<;>cases b<;>cases h
 exact⟨_,_,rfl,rfl,rfl⟩
theorem WP{t:Nat}(c:Code):∀{m:Nat},A9 c=some m->m.testBit t=false->¬gP t c=true:=by
 induction c with
 |skip=>intro m _ _ h;cases h
 |region id ops dr=>intro m h hm d;cases h;exact Et hm d
 |seq a b iha ihb=>
  intro m h hm d;obtain⟨x,y,hx,e,rfl⟩:=Px (show acQ (A9 a) (A9 b)=some m from h)
  rw[px,nG]at hm;have d:(bif gP t a then true else gP t b)=true:=d;cases ha:gP t a with
  |true=>exact iha hx hm.1 ha
  |false=>rw[ha]at d;exact ihb e hm.2 d
 |cond c a b iha ihb=>
  intro m h hm d;obtain⟨x,y,hx,e,rfl⟩:=Px (show acQ (A9 a) (A9 b)=some m from h)
  rw[px,nG]at hm;have d:(bif gP t a then true else gP t b)=true:=d;cases ha:gP t a with
  |true=>exact iha hx hm.1 ha
  |false=>rw[ha]at d;exact ihb e hm.2 d
 |block id b ih=>exact λh hm=>ih h hm
 |loop b ih=>exact λh hm=>ih h hm
 |rangeFunc _ _ _ _ _ _=>intro m h;cases h
 |scope b ih=>exact λh hm=>ih h hm
 |_=>intro m _ _ h;cases h
theorem Agree.keep{f:cR}{a':Act}{b:World}(h:Agree N r a)(hm:A9 c=some m)(d:Fr (λt=>gP t c=true) a w a' b)(h':Agree N f a'):Agree N (zF m r) a':=
 ⟨h'.size,λt v hv=>by
  obtain⟨hb,e⟩:=EV hv
  rw[d.same t (WP c hm hb)];exact h.look t v e⟩
theorem zm{st:St}{f:vB (BN st)->Prop}(h:FH st r f):∃t,HW r st=some (nP (BN st) t)/\f t:=by
 unfold FH at h;split at h
 .rename_i vs hv
  obtain⟨t,rfl,a⟩:=uD h;exact⟨t,hv,a⟩
 .exact h.elim
theorem Agree.zip(h:Agree N r a):∀{st:St} {vs:c4} {r0:cR},HW r st=some vs->Agree N r0 a->Agree N (oX st vs r0) a
 | [],vs,r0,_,h0=>by cases vs<;>exact h0
 |(i,k)::st,vs,r0,hv,h0=>by
  unfold HW at hv;split at hv
  .rename_i v vs' h1 h2
   cases hv;have:=Agree.zip h h2 h0;refine⟨this.size,λt u b=>?_⟩
   by_cases e:i=t
   .subst e
    rw[show oX ((i,k)::st) (v::vs') r0=(i,v)::oX st vs' r0 from rfl,jf]at b;cases b
    exact h.look i v h1
   .rw[show oX ((i,k)::st) (v::vs') r0=(i,v)::oX st vs' r0 from rfl,ij v _ e]at b
    exact this.look t u b
  .cases hv
theorem CD{t:Nat}:∀{l:List Oper} {o:Oper},o∈l->o.dst=some t->mJ t l=true
 | [],_,h,_=>by cases h
 |x::l,o,h,hd=>by
  have e:mJ t (x::l)=(match x.dst with|some d=>bif aS d t then true else mJ t l|none=>mJ t l):=rfl
  rw[e];rcases aw.1 h with rfl|h
  .rw[hd];simp only;rw[show aS t t=true from uf t];rfl
  .have:=CD h hd
   cases x.dst with
   |none=>exact this
   |some d=>
    simp only;cases aS d t with
    |true=>rfl
    |false=>exact this
def LWP(ro:Option Nat)(n:Nat)(P:Program)(c:Code)(Q:Exit->Act->World->Prop)(a:Act)(w:World):Prop:=
 ∀(b:Frame) (k:List Item) (cs:List Frame),b.roundOf=(FW ro).round->(FW ro).fn b.fn->(FW ro).room (cs.length+1+n)->
  ∃e a' w',Q e a' w'/\ArrivesIn (Machine.fenced P (FW ro)) P (lone (b.atR a (.code c:: .inLoop c::k)) cs w) b k cs e a' w'
theorem LWP.step{c:Code}{Q:Exit->Act->World->Prop}{a:Act}{w:World}(h:c.wpIn (FW ro) n P (Exit.then (LWP ro n P c Q) Q) a w):LWP ro n P c Q a w:=by
 intro b k cs i hb o;obtain⟨e,j,m,g,d⟩:=h b (.inLoop c::k) cs i hb o;cases e with
 |normal=>
  obtain⟨t,s,q,p,f⟩:=g b k cs i hb o;exact⟨t,s,q,p,.of_steps (StepsIn.trans d (.one (fenced_calm hb o rfl) stepR_inLoop)) f⟩
 |exit id=>exact⟨_,j,m,g,.pass (x:=.inLoop c) rfl (λ_ _=>.inl a6) d⟩
 |goto l=>exact⟨_,j,m,g,.pass (x:=.inLoop c) rfl (λ_ _=>.inl a6) d⟩
 |ret=>exact⟨_,j,m,g,.pass (x:=.inLoop c) rfl (λ_ _=>.inl a6) d⟩
 |panic ch=>exact⟨_,j,m,g,.pass (x:=.inLoop c) rfl (λ_ _=>.inl a6) d⟩
 |outgrown=>exact⟨_,j,m,g,.pass (x:=.inLoop c) rfl (λ_ _=>.inl a6) d⟩
theorem LWP.loop(h:LWP ro n P c Q a w):(Code.loop c).wpIn (FW ro) n P Q a w:=by
 intro b k cs f hb g;obtain⟨e,a',i,j,d⟩:=h b k cs f hb g;exact⟨e,a',i,j,.of_steps (.one (fenced_calm hb g rfl) stepR_loop) d⟩
theorem Mc(r:cR):DecOk [] r:=λ_=>.inl rfl
theorem aai(ops:Array Oper)(ls:Nat):left ops ls<=ops.size:=by
 unfold left;exact Nat.le_trans (List.length_filter_le ..) a6
theorem mN(f:P.follows .mixedOrders=true){id:Nat}{ops:Array Oper}{g:Bool}{u:Ann}{K:cR->dO}
  (b:EE P N ops.toList g u K r w.heap)(m:Agree N r a)(s:∀c a w,¬Q (.panic c) a w)
  (k:∀r' a' w',Agree N r' a'->Fr (λt=>mJ t ops.toList=true) a w a' w'->K r' w'.heap->Q .normal a' w'):(Code.region id ops g).wpIn (FW ro) n P Q a w:=by
 have i:∀o∈ops.toList,∀d,o.dst=some d->mJ d ops.toList=true:=λo p d hd=>CD p hd
 cases g with
 |false=>
  have key:∀ek,H2 P N ek ops.toList ops.toList [] K r w.heap->(Code.region id ops false).wpIn (FW ro) n P Q a w:=λek b=>by
   refine wpIn_region ?_;rw[List.range_eq_range',show ops.size=ops.toList.length from rfl]
   exact H1 i k ops.toList 0 rfl [] r a w b m (Mc r) (Fr.refl _ a w)
  unfold EE at b;simp only at b;split at b
  .exact key _ b
  .exact key _ b
 |true=>
  unfold EE at b;simp only at b;generalize Ui ops.toList=ms at b;cases hm:Hn ops.toList ms with
  |false=>rw[hm]at b;exact b.elim
  |true=>
   rw[hm,cond_true]at b;refine wpIn_region_any f (TG (ms:=ms) _ [] _ _ _ ?_);have ht:Tame w {w with drawn:=w.drawn+1}:=⟨rfl,rfl,rfl⟩;have q:Fr (λt=>mJ t ops.toList=true) a w a {w with drawn:=w.drawn+1}:=⟨ht,rfl,λ_ _=>rfl⟩
   refine(O4 (Se hm) i k (λe a w=>?_) _ false 0 [] [] r a {w with drawn:=w.drawn+1} _ ops.size b m (Mc r) q LsRel.start (λj x _ h=>by rw[(LsRel.start (ops:=ops)).bit,oc]at h;cases h) (λx hx=>by cases hx)).1 rfl (aai ops 0)
   cases e with
   |panic ch=>exact .inr (s _ a w)
   |_=>exact .inl λc hc=>by cases hc
theorem HF(t:Nat)(x y:Code):gP t (.seq x y)=(bif gP t x then true else gP t y):=rfl
theorem FB(t:Nat)(c:Operand)(x y:Code):gP t (.cond c x y)=(bif gP t x then true else gP t y):=rfl
theorem N0{a b:Bool}:(bif a then true else b)=true↔a=true\/b=true:=by cases a<;>cases b<;>decide
theorem vC(z:P.follows .mixedOrders=true)(c:Code):∀(E:Ann) (Kn:cR->dO) (Kx:Ex->cR->dO) (r:cR) (a:Act) (w:World) (Q:Exit->Act->World->Prop),
  lP P N c E Kn Kx r w.heap->Agree N r a->(∀S a w,¬Q (.panic S) a w)->
  (∀j a' g,Agree N j a'->Fr (λt=>gP t c=true) a w a' g->Kn j g.heap->Q .normal a' g)->
  (∀i j a' g,Agree N j a'->Fr (λt=>gP t c=true) a w a' g->Kx (.exit i) j g.heap->Q (.exit i) a' g)->
  (∀j a' g,Agree N j a'->Fr (λt=>gP t c=true) a w a' g->Kx .ret j g.heap->Q .ret a' g)->
  c.wpIn (FW ro) n P Q a w:=by
 induction c with
 |skip=>
  intro E Kn Kx r a w Q o u _ A _ _;exact wpIn_skip (A r a w u (Fr.refl ..) o)
 |region id ops dr=>
  intro E Kn Kx r a w Q o u B A _ _;cases E with
  |reg keep inner=>
   have o:EE P N ops.toList dr inner (λj h'=>match Uu j keep with|some r0=>Kn r0 h'|none=>False) r w.heap:=o
   refine mN z o u B λj a' g R W hk=>?_
   split at hk
   .rename_i r0 hr0
    refine A r0 a' g ⟨R.size,λt v hv=>R.look t v (LU hr0 t v hv).2⟩ W hk
   .exact hk.elim
  |nil=>exact mN z (show EE P N ops.toList dr (.nil) Kn r w.heap from o) u B A
  |node x y=>exact mN z (show EE P N ops.toList dr (.node x y) Kn r w.heap from o) u B A
  |join st x y=>exact mN z (show EE P N ops.toList dr (.join st x y) Kn r w.heap from o) u B A
  |loop st y=>exact mN z (show EE P N ops.toList dr (.loop st y) Kn r w.heap from o) u B A
  |draw d=>exact mN z (show EE P N ops.toList dr (.draw d) Kn r w.heap from o) u B A
  |kinds k v=>exact mN z (show EE P N ops.toList dr (.kinds k v) Kn r w.heap from o) u B A
  |rf ks x y=>exact mN z (show EE P N ops.toList dr (.rf ks x y) Kn r w.heap from o) u B A
 |seq x y ihx ihy=>
  intro E Kn Kx r a w Q o u B A hx G;have F:∀{a' g},Fr (λt=>gP t x=true) a w a' g->Fr (λt=>gP t (.seq x y)=true) a w a' g:=λh=>h.mono λt ht=>by rw[HF,N0];exact .inl ht
  have D:∀{a' g I K},Fr (λt=>gP t x=true) a w a' g->Fr (λt=>gP t y=true) a' g I K->Fr (λt=>gP t (.seq x y)=true) a w I K:=
   λh k=>(F h).trans (k.mono λt ht=>by rw[HF,N0];exact .inr ht)
  have plain:∀V O,lP P N x V (λj h'=>lP P N y O Kn Kx j h') Kx r w.heap->(Code.seq x y).wpIn (FW ro) n P Q a w:=λV O o=>by
   refine wpIn_seq (ihx V _ Kx r a w _ o u (λS a w=>B S a w) ?_ (λi j a' g s q p=>hx i j a' g s (F q) p) (λj a' g s q p=>G j a' g s (F q) p))
   intro r1 U X H C L;exact ihy O Kn Kx r1 U X Q L H B (λj a' g s q p=>A j a' g s (D C q) p) (λi j a' g s q p=>hx i j a' g s (D C q) p) (λj a' g s q p=>G j a' g s (D C q) p)
  cases E with
  |join st V O=>
   have o:(match A9 x with
      |none=>False
      |some m=>Join (T:=vB (BN st)) (λt h'=>lP P N y O Kn Kx (oX st (nP (BN st) t) (zF m r)) h')
       λJ=>lP P N x V (λj h'=>FH st j λt=>J t h') Kx r w.heap):=o
   split at o
   .exact o.elim
   .rename_i m hm
    refine wpIn_seq (ihx V _ Kx r a w _ o.run u (λS a w=>B S a w) ?_ (λi j a' g s q p=>hx i j a' g s (F q) p) (λj a' g s q p=>G j a' g s (F q) p))
    intro r1 U X H C L;obtain⟨t,hst,hs2⟩:=zm L;have ha2:Agree N (oX st (nP (BN st) t) (zF m r)) U:=H.zip hst (u.keep hm C H);exact ihy O Kn Kx _ U X Q hs2 ha2 B (λj a' g s q p=>A j a' g s (D C q) p) (λi j a' g s q p=>hx i j a' g s (D C q) p) (λj a' g s q p=>G j a' g s (D C q) p)
  |_=>exact plain _ _ o
 |cond c x y ihx ihy=>
  intro E Kn Kx r a w Q o u B A hx G;have o:(match dD r c with
   |some (.bool t)=>fo t (lP P N x E.l Kn Kx r w.heap) (lP P N y E.r Kn Kx r w.heap)
   |_=>False):=o
  have F:∀{a' g},Fr (λt=>gP t x=true) a w a' g->Fr (λt=>gP t (.cond c x y)=true) a w a' g:=λh=>h.mono λt ht=>by rw[FB,N0];exact .inl ht
  have D:∀{a' g},Fr (λt=>gP t y=true) a w a' g->Fr (λt=>gP t (.cond c x y)=true) a w a' g:=λh=>h.mono λt ht=>by rw[FB,N0];exact .inr ht
  split at o
  .rename_i t ht
   refine wpIn_cond_split (lj u ht) (λe=>?_) (λe=>?_)
   .exact ihx _ Kn Kx r a w Q (o.yes e) u B (λj a' g s q p=>A j a' g s (F q) p) (λi j a' g s q p=>hx i j a' g s (F q) p) (λj a' g s q p=>G j a' g s (F q) p)
   .exact ihy _ Kn Kx r a w Q (o.no e) u B (λj a' g s q p=>A j a' g s (D q) p) (λi j a' g s q p=>hx i j a' g s (D q) p) (λj a' g s q p=>G j a' g s (D q) p)
  .exact o.elim
 |block id b ih=>
  intro E Kn Kx r a w Q o u B A hx G;refine wpIn_block (ih E Kn _ r a w _ o u (λS a w=>B S a w) A (λi j a' g s q p=>?_) G)
  simp only[Exit.inBlock]at p⊢;cases hi:aS i id with
  |true=>
   rw[hi,cond_true]at p;rw[if_pos (bD hi)];exact A j a' g s q p
  |false=>
   rw[hi,cond_false]at p;rw[if_neg (λe=>by rw[e,uf]at hi;cases hi)]
   exact hx i j a' g s q p
 |loop b ih=>
  intro E Kn Kx r a w Q o u B A hx G;cases E with
  |loop st O=>
   have o:(match A9 b with
      |none=>False
      |some m=>FH st r λt0=>LoopP (T:=vB (BN st)) (λY t h'=>lP P N b O (λj h''=>FH st j λt'=>Y t' h'') Kx (oX st (nP (BN st) t) (zF m r)) h') t0 w.heap):=o
   split at o
   .exact o.elim
   .rename_i m hm
    obtain⟨t0,hst0,hl⟩:=zm o;have h0:=hl.run (λt h'=>∀a' g,g.heap=h'->Agree N (oX st (nP (BN st) t) (zF m r)) a'->Fr (λt=>gP t b=true) a w a' g->LWP ro n P b Q a' g) (λt h' hF a' g hw R W=>by
     subst hw
     refine LWP.step (ih O _ Kx _ a' g _ hF R (λS a w=>B S a w) ?_ (λi j I K s q p=>hx i j I K s (W.trans q) p) (λj I K s q p=>G j I K s (W.trans q) p))
     intro r1 U X H C L
     obtain⟨t1,Z,hk1⟩:=zm L
     exact hk1 U X rfl (H.zip Z (u.keep hm (W.trans C) H)) (W.trans C))
    exact LWP.loop (h0 a w rfl (u.zip hst0 (u.keep hm (Fr.refl _ a w) u)) (Fr.refl _ a w))
  |_=>exact o.elim
 |rangeFunc f params assign body _ _=>intro E Kn Kx r a w Q o;exact o.elim
 |exit id=>
  intro E Kn Kx r a w Q o u B A hx G;exact wpIn_exit (hx id r a w u (Fr.refl ..) o)
 |scope b _=>intro E Kn Kx r a w Q o;exact o.elim
 |label l=>
  intro E Kn Kx r a w Q o u B A hx G;exact wpIn_label (A r a w u (Fr.refl ..) o)
 |goto l=>intro E Kn Kx r a w Q o;exact o.elim
 |ret=>
  intro E Kn Kx r a w Q o u B A hx G;exact wpIn_ret (G r a w u (Fr.refl ..) o)
 |refuse why=>intro E Kn Kx r a w Q o;exact o.elim
end
section
variable {fn:Func}{c:Code}{args:c4}{ks:List Kind}{f:FuncId}{i:Ann}{h:ad}{N:Nat}
variable {P:Program}
theorem rz{N:Nat}{r:cR}{a:Act}{w:World}(e:Agree N r a):∀{l:List ResultVar} {K:c4->Prop},oZ P r w.heap l K->
  ∃vs,(∀g:ResultVar->Sem Value,(∀t,g (.tmp t)=pure (a.tmps.getD t undef))->(∀x t,g (.cell x t)=do loadVar t (<-asAddr (a.tmps.getD x undef)))->(l.mapM g).run P w=.ok vs w)/\K vs
 | [],K,h=>⟨[],λg _ _=>by rw[List.mapM_nil];rfl,h⟩
 | .tmp t::l,K,h=>by
  unfold oZ at h;split at h
  .rename_i v hv
   obtain⟨vs,f,i⟩:=rz e h;refine⟨v::vs,λg c d=>?_,i⟩
   rw[List.mapM_cons,c];simp only[bA,cr,aI];rw[f g c d];simp only[aI,e.look t v hv]
  .exact h.elim
 | .cell x t::l,K,h=>by
  unfold oZ at h;split at h
  .rename_i v hv
   obtain⟨u,S,n,k,m⟩:=FO h;obtain⟨vs,f,i⟩:=rz e n;refine⟨u::vs,λg c d=>?_,i⟩
   rw[List.mapM_cons,d];have j:(do loadVar t (<-asAddr (a.tmps.getD x undef)):Sem Value).run P w=.ok u w:=by
    rw[e.look x v hv];unfold Pg at h;cases v with
    |pointer p=>cases p with
     |none=>exact h.elim
     |some b=>exact m w k
    |_=>exact h.elim
   simp only[bA]at j⊢;rw[j];simp only[aI];rw[f g c d];simp only[cr,aI]
  .exact h.elim
theorem Lu(ks:List Kind)(t:vB ks):(if h:(nP ks t).toArray.size=1 then(nP ks t).toArray[0]else Value.tuple (nP ks t).toArray)=EL ks (nP ks t):=by
 match ks,t with
 | [],t=>rfl
 | [k],t=>rfl
 |k::l::ks,(x,t)=>
  have:(nP (k::l::ks) (x,t)).length=(k::l::ks).length:=vH _ _;rw[dif_neg (by simp only[cW,this,av];omega)];rfl
theorem yw:∀(vs:c4) (i t:Nat) (v:Value),li (rD i vs) t=some v->i<=t/\vs[t-i]? =some v
 | [],i,t,v,h=>by cases h
 |u::vs,i,t,v,h=>by
  by_cases e:i=t
  .subst e
   rw[show rD i (u::vs)=(i,u)::rD (i+1) vs from rfl,jf]at h
   cases h;exact⟨Nat.le_refl _,a6⟩
  .rw[show rD i (u::vs)=(i,u)::rD (i+1) vs from rfl,ij u _ e]at h
   obtain⟨b,a⟩:=yw vs (i+1) t v h;refine⟨a4,?_⟩;rw[show t-i=(t-(i+1))+1 by omega,List.getElem?_cons_succ]
   exact a
theorem UR(i:P.follows .mixedOrders=true){n:Nat}{p:Ann}{K:vB ks->dO}{w:World}(o:args.length<=fn.ntmps)(s:H3 P fn c p args ks K w.heap):
  c.wpIn (FW none) n P (bodyPost P fn λe b=>Tame w b/\∃t:vB ks,e=.returned (EL ks (nP ks t))/\K t b.heap) {tmps:=args.toArray++pj (fn.ntmps-args.toArray.size) undef,defers:= []} w:=by
 have x:Agree fn.ntmps (rD 0 args) {tmps:=args.toArray++pj (fn.ntmps-args.toArray.size) undef,defers:= []}:=by
  refine⟨a9,λt v hv=>?_⟩
  obtain⟨_,j⟩:=yw args 0 t v hv;simp only[eI]at j;have f:=(bM.1 j).1;simp[Array.getElem?_append,f];rw[af f]at j;cases j;rfl
 have fin:∀m a' (b:World),Agree fn.ntmps m a'->Fr (λt=>gP t c=true) {tmps:=args.toArray++pj (fn.ntmps-args.toArray.size) undef,defers:= []} w a' b->
   oZ P m b.heap fn.results.toList (λvs=>GT ks vs λt=>K t b.heap)->
   a'.defers= []/\∃v,(results fn a'.tmps).run P b=.ok v b/\(Tame w b/\∃t:vB ks,Ending.returned v=.returned (EL ks (nP ks t))/\K t b.heap):=λm a' b k g q=>by
  obtain⟨vs,d,hd⟩:=rz k q;obtain⟨t,rfl,u⟩:=uD hd;refine⟨g.defers,_,?_,g.tame,t,rfl,u⟩;unfold results;rw[oo];simp only[bA,Sem.run_map];rw[d _ (λ_=>rfl) (λ_ _=>rfl)]
  simp only[aI,cr];rw[<-Lu]
 exact vC i c p _ _ _ _ w _ s x (λy a w h=>h.2.2.elim λ_ h=>by cases h.1) fin (λ_ _ _ _ _ _ h=>h.elim) fin
theorem HE.intro(d:P.follows .mixedOrders=true){K:vB ks->dO}
  (e:P.funcs[f]? =some fn) (hb:fn.body=some c) (a:∀(args:Array Value) (w:World),(callFunc f args).run P w=.ok (.enter f args) w) (b:args.length<=fn.ntmps)
  (g:H3 P fn c i args ks K h):HE P f args ks K h:=by
 refine⟨λw j=>⟨a,?_⟩⟩
 subst j;exact(callsIn_wide (n:=0)).1 (callsIn_of_wp (F:=FW none) e hb trivial (UR d b g) rfl)
theorem HD.intro(d:P.follows .mixedOrders=true){m:Ann}{K:dO}
  (i:P.funcs[f]? =some fn) (hb:fn.body=some c) (a:∀(args:Array Value) (w:World),(callFunc f args).run P w=.ok (.enter f args) w) (b:args.length<=fn.ntmps)
  (j:H3 P fn c m args ks (λ_ h'=>K h') h):HD P f args K h:=by
 refineλw p=>⟨a,λn=>?_⟩
 subst p;exact(callsDIn_of_wp (F:=FW none) i hb trivial (UR d b j) rfl).mono λe u q ⟨g,ht,t,o,k⟩=>⟨g,ht,⟨_,o⟩,k⟩
theorem HC.intro(d:P.follows .mixedOrders=true){K:vB ks->dO}
 (e:P.funcs[f]? =some fn) (hb:fn.body=some c) (a:∀(args:Array Value) (w:World),(callFunc f args).run P w=.ok (.enter f args) w) (b:args.length<=fn.ntmps)
 (g:H3 P fn c i args ks K h):HC P f args ks K h:=(HE.intro d e hb a b g).hc
theorem Te(c:args.length<=N):Agree N (rD 0 args) {tmps:=args.toArray++pj (N-args.toArray.size) undef,defers:= []}:=by
 refine⟨a9,λt v hv=>?_⟩
 obtain⟨_,b⟩:=yw args 0 t v hv;simp only[eI]at b;have a:=(bM.1 b).1;simp[Array.getElem?_append,a];rw[af a]at b;cases b;rfl
theorem Pa{K:vB ks->dO}{d:cR}{a':Act}{a:World}(c:Agree N d a')(e:oZ P d a.heap fn.results.toList (λvs=>GT ks vs λt=>K t a.heap)):
  ∃t:vB ks,(results fn a'.tmps).run P a=.ok (EL ks (nP ks t)) a/\K t a.heap:=by
 obtain⟨vs,b,hd⟩:=rz c e;obtain⟨t,rfl,f⟩:=uD hd;refine⟨t,?_,f⟩;unfold results;rw[oo];simp only[bA,Sem.run_map];rw[b _ (λ_=>rfl) (λ_ _=>rfl)]
 simp only[aI,cr];rw[<-Lu]
end
section
variable {n N:Nat}{ks:List Kind}{r:cR}{a:Act}{w:World}{Q:Exit->Act->World->Prop}{f:FuncId}{fn:Func}{c:Code}{args:c4}{h:ad}
variable {P:Program}
abbrev Iz(D:Nat):Deferred:={target:=.collected D,args:= #[]}
abbrev qQ:Mk->Deferred
 | .it D=>Iz D
 | .call f vs=>{target:=.fn (.func f) #[],args:= #[]++vs.toArray}
theorem Jt{N:Nat}:∀{ps:List Nat} {vs:c4} {r:cR} {tmps:Array Value},B6 N ps=true->Agree N r {tmps:=tmps,defers:= []}->
  Agree N (Zm ps vs r) {tmps:=(ps.zip vs).foldl (λt x=>t.setIfInBounds x.1 x.2) tmps,defers:= []}
 | [],vs,r,tmps,_,h=>by cases vs<;>exact h
 |i::ps,[],r,tmps,_,h=>h
 |i::ps,v::vs,r,tmps,a,h=>by
  have a:(AM i N&&B6 N ps)=true:=a;rw[bC]at a;have b:i<N:=by simpa using a.1
  have:=h.put i v b;exact Jt (tmps:=tmps.setIfInBounds i v) a.2 this
theorem HS(w:World)(o:Obj):Tame w (w.alloc o):=⟨rfl,rfl,rfl⟩
theorem pE(w:World)(b:Nat)(o:Obj):Tame w (w.putObj b o):=⟨rfl,rfl,rfl⟩
theorem Pm(w:World)(b:Nat)(o:Obj):(w.putObj b o).heap=w.heap.setIfInBounds b o:=rfl
theorem UZ(ps:Array Nat)(vs:c4)(t:Array Value):(ps.zip vs.toArray).foldl (λt (x:Nat×Value)=>t.setIfInBounds x.1 x.2) t=(ps.toList.zip vs).foldl (λt x=>t.setIfInBounds x.1 x.2) t:=by
 obtain⟨l⟩:=ps;simp
theorem GN(B:P.follows .mixedOrders=true){g:Operand}{ps:Array Tmp}{assign body:Code}{aa ab:Ann}{fv:Value}
  {KN:dO}{KX:Nat->dO}{KR:dO}(T:B6 N ps.toList=true)(L:ps.toList.length=ks.length)(hg:dD r g=some fv)(ha:Agree N r a)
  (hR:RangeP P fv ks w.heap (λOq bz x k h'=>Rx P N ps.toList ks assign body (.node aa ab) r (w.heap.size+1) Oq bz x k h') KN KX KR)
  (hn:∀m,Tame w m->KN m.heap->Q .normal {a with defers:=Iz w.heap.size::a.defers} m)
  (hx:∀i m,Tame w m->KX i m.heap->Q (.exit i) {a with defers:=Iz w.heap.size::a.defers} m)
  (hr:∀m,Tame w m->KR m.heap->Q .ret {a with defers:=Iz w.heap.size::a.defers} m):(Code.rangeFunc g ps assign body).wpIn (FW none) n P Q a w:=by
 refine wpIn_rangeFunc λfn _=>?_
 obtain⟨lo,p⟩:∃lo:LoopState->Option Ex->Obj,lo=λs j=>.loop {state:=s,pending:=NL j,fn,tmps:=a.tmps,params:=ps,assign,body,defers:=w.heap.size}:=⟨_,rfl⟩
 have hj:∀j:Option Ex,(NL j).isNone=j.isNone:=λj=>by rcases j with _|⟨_|_⟩<;>rfl
 obtain⟨f,first,cap,rfl,he⟩:=hR.run lo (λs j=>⟨_,by rw[p]⟩) (λx h' K u A=>by
  refine⟨.inr ⟨_,rfl,⟨λH U=>?_⟩⟩⟩
  subst U
  rw[p]at u
  have hy:=run_yield (P:=P) (args:=(nP ks x).toArray) u (by simp only[cW,vH];rw[<-L];rfl)
  refine⟨_,_,_,_,hy,λc cs=>?_⟩
  have hA:Agree N (Zm ps.toList (nP ks x) r) {tmps:=(ps.zip (nP ks x).toArray).foldl (λt (x:Nat×Value)=>t.setIfInBounds x.1 x.2) a.tmps,defers:= []}:=by
   rw[UZ]
   exact Jt T ⟨ha.size,ha.look⟩
  have q:∀j:Option Ex,∀W:World,Tame H W->(W.heap[w.heap.size+1]? =some (lo .busy none)/\K j.isNone (W.heap.setIfInBounds (w.heap.size+1) (lo (if j.isNone then .ready else .done) j)))->
    ∃v m,(Instr.endRound (w.heap.size+1) (NL j)).run P W=.ok v m/\∃b,Ending.returned v=.returned (.bool b)/\Tame H m/\K b m.heap:=by
   rintro j W ht ⟨h1,S⟩
   rw[p]at h1
   have:=run_endRound (P:=P) (NL j) h1
   refine⟨_,_,this,_,rfl,ht.trans (pE ..),?_⟩
   rw[p]at S
   rw[hj]
   exact S
  have:=roundIn_of_wpIn (F:=FW none) (n:=0) (P:=P) (l:=w.heap.size+1) (f:=fn) (assign:=assign) (body:=body) (w:=H)
   (tmps:=(ps.zip (nP ks x).toArray).foldl (λt (x:Nat×Value)=>t.setIfInBounds x.1 x.2) a.tmps)
   (R:=λe m=>∃b,e=.returned (.bool b)/\Tame H m/\K b m.heap) trivial (by
    refine vC (ro:=some (w.heap.size+1)) B assign aa _ _ _ _ H _ A hA (λch a w h=>h) ?_ (λi r' a' m _ _ h=>h.elim) (λr' a' m _ _ h=>h.elim)
    rintro r2 a2 X ha2 D ⟨z,G⟩
    rw[p]at z
    refine⟨_,run_beginRound z rfl,?_⟩
    have hb:∀o,o=lo .busy none->X.heap.setIfInBounds (w.heap.size+1) o=X.heap.setIfInBounds (w.heap.size+1) (lo .busy none):=λo V=>by rw[V]
    refine vC (ro:=some (w.heap.size+1)) B body ab (λ_ S=>_) (λe _ S=>_) _ _ (X.putObj (w.heap.size+1) _) _ (by
     rw[Pm,hb _ (by rw[p])];exact G) ha2 (λch a w h=>h) ?_ ?_ ?_
    .rintro r3 a3 O J y I
     exact q none O ((D.tame.trans (pE ..)).trans y.tame) I
    .rintro i r3 a3 O J y I
     exact q (some (.exit i)) O ((D.tame.trans (pE ..)).trans y.tame) I
    .rintro r3 a3 O J y I
     exact q (some .ret) O ((D.tame.trans (pE ..)).trans y.tame) I)
  obtain⟨e,m,⟨b,rfl,ht,hK⟩,hs⟩:=this.2 c cs (λd h=>by simp[FW]at h)
  exact⟨b,m,ht,hK,hs.steps⟩)
 have C:=he.run ((w.alloc (.deferred (some []))).alloc (lo .ready none)) rfl;refine⟨w.heap.size+1,[Iz w.heap.size],(w.alloc (.deferred (some []))).alloc (lo .ready none),{target:=.fn (.func f) cap,args:=first++ #[.func (.yield (w.heap.size+1)) #[] #[]]},(w.alloc (.deferred (some []))).alloc (lo .ready none),f,
  first++ #[.func (.yield (w.heap.size+1)) #[] #[]]++cap,(w.alloc (.deferred (some []))).alloc (lo .ready none),?_,?_,λ_ _=>trivial,?_,λh=>by simp[FW]at h,?_⟩
 .rw[p];exact run_enterLoop_outer fn a.tmps ps assign body
 .have Z:=lj ha hg
  simp[resolve,Z,Deferred.ofValue,cr];rfl
 .simp[invoke,C.1]
 .refine Jl ?_
  have e:(first.toList++ [Value.func (.yield (w.heap.size+1)) #[] #[]]++cap.toList).toArray=first++ #[.func (.yield (w.heap.size+1)) #[] #[]]++cap:=by apply df;simp
  rw[<-e];refine C.2.mono ?_;rintro e m ⟨ht,t,rfl,s,j,hs,u,q⟩;have Y:Tame w m:=((HS w _).trans (HS _ _)).trans ht;rw[p]at u;refine⟨_,_,run_endLoop u hs,?_⟩;have E:∀o,Tame w (m.putObj (w.heap.size+1) o):=λo=>Y.trans (pE ..)
  have hb:∀o,o=lo .exhausted j->(m.putObj (w.heap.size+1) o).heap=m.heap.setIfInBounds (w.heap.size+1) (lo .exhausted j):=λo V=>by rw[V];rfl
  rcases j with _|⟨i|_⟩
  .exact hn _ (E _) (by rw[hb _ (by rw[p])];exact q)
  .exact wpIn_exit (hx i _ (E _) (by rw[hb _ (by rw[p])];exact q))
  .exact wpIn_ret (hr _ (E _) (by rw[hb _ (by rw[p])];exact q))
theorem Jb{id d:Nat}{ops:Array Oper}{m o:Oper}{x:Operand}{as:List Operand}{vs:c4}{v:Value}(b:Jc ops.toList=some (m,o,x,d,f,as))(hv:dD r x=some v)(hb:d<N)(g:pt ((d,v)::r) as=some vs)(i:Agree N r a)
  (p:∀a',Agree N ((d,v)::r) a'->a'.defers=qQ (.call f vs)::a.defers->Q .normal a' w):(Code.region id ops false).wpIn (FW none) n P Q a w:=by
 unfold Jc at b;split at b
 .rename_i m' o' hl
  split at b
  .rename_i x' d' c h1 h2 h3 h4 h5 h6
   split at b
   .rename_i f' hc
    cases b;have q:ops[0]? =some m:=by rw[<-bJ,hl];rfl
    have u:ops[1]? =some o:=by rw[<-bJ,hl];rfl
    have es:ops.size=2:=by rw[<-Array.length_toList,hl];rfl
    have t:∀y,Region.wanted m y=true:=λy=>by simp[Region.wanted,h2]
    have k:∀y,Region.wanted o y=true:=λy=>by simp[Region.wanted,h6]
    refine wpIn_region ?_;rw[es,show fy 2= [0,1]from rfl]
    simp only[wpOpsIn,q,u,t,k,if_true];refine BigFrame.wpIn_move x h1 ?_;rw[lj i hv,h3];have e:=i.put d v hb;refine⟨λ_ _=>trivial,?_⟩
    have s:((Oper.semAt (FW none).round (a.put (some d) v).eval o).run P w)=.ok (.defer (qQ (.call f vs))) w:=by
     show((execOp (a.put (some d) v).eval o).run P w)=_
     have j:=nI e g;have f1:c.args.map (a.put (some d) v).eval=vs.toArray:=by rw[<-j];apply df;simp
     simp only[execOp,h4,resolve,hc,f1];simp[Act.eval,Deferred.ofValue,qQ]
    rw[s,Oper.uponIn_defer,h5];exact p _ ⟨e.size,e.look⟩ rfl
   .cases b
  .cases b
 .cases b
theorem Nb(H:P.follows .mixedOrders=true)(c:Code):∀(u:Ann) (Kn:List Mk->cR->dO) (Kx:Ex->List Mk->cR->dO) (ms:List Mk) (r:cR) (a:Act) (w:World) (Q:Exit->Act->World->Prop),
  BS P N c u Kn Kx ms r w.heap->Agree N r a->a.defers=ms.map qQ->(∀I a w,¬Q (.panic I) a w)->
  (∀p s a' q,Agree N s a'->a'.defers=p.map qQ->Tame w q->Kn p s q.heap->Q .normal a' q)->
  (∀i p s a' q,Agree N s a'->a'.defers=p.map qQ->Tame w q->Kx (.exit i) p s q.heap->Q (.exit i) a' q)->
  (∀p s a' q,Agree N s a'->a'.defers=p.map qQ->Tame w q->Kx .ret p s q.heap->Q .ret a' q)->
  c.wpIn (FW none) n P Q a w:=by
 have plain:∀(c:Code) (u:Ann) (Kn:List Mk->cR->dO) (Kx:Ex->List Mk->cR->dO) (ms:List Mk) (r:cR) (a:Act) (w:World) (Q:Exit->Act->World->Prop),
  lP P N c u (Kn ms) (λe=>Kx e ms) r w.heap->Agree N r a->a.defers=ms.map qQ->(∀I a w,¬Q (.panic I) a w)->
  (∀p s a' q,Agree N s a'->a'.defers=p.map qQ->Tame w q->Kn p s q.heap->Q .normal a' q)->
  (∀i p s a' q,Agree N s a'->a'.defers=p.map qQ->Tame w q->Kx (.exit i) p s q.heap->Q (.exit i) a' q)->
  (∀p s a' q,Agree N s a'->a'.defers=p.map qQ->Tame w q->Kx .ret p s q.heap->Q .ret a' q)->
  c.wpIn (FW none) n P Q a w:=by
  intro c u Kn Kx ms r a w Q j z hd D B hx C;exact vC H c u _ _ r a w Q j z D (λs a' q F A E=>B ms s a' q F (A.defers.trans hd) A.tame E) (λi s a' q F A E=>hx i ms s a' q F (A.defers.trans hd) A.tame E)
   (λs a' q F A E=>C ms s a' q F (A.defers.trans hd) A.tame E)
 induction c with
 |skip=>intro u Kn Kx ms r a w Q j;exact plain _ u Kn Kx ms r a w Q j
 |region id ops dr=>
  intro u Kn Kx ms r a w Q j z hd D B hx C;have j:(match Jc ops.toList with
   |none=>lP P N (.region id ops dr) u (Kn ms) (λe=>Kx e ms) r w.heap
   |some (_,_,x,d,f,as)=>bif dr then False else match dD r x with
    |some v=>bif AM d N then(match pt ((d,v)::r) as with|some vs=>Kn (.call f vs::ms) ((d,v)::r) w.heap|none=>False)else False
    |none=>False):=j
  split at j
  .exact plain _ u Kn Kx ms r a w Q j z hd D B hx C
  .rename_i m o x d f as he
   cases dr with
   |true=>exact j.elim
   |false=>
    rw[cond_false]at j;split at j
    . rename_i v hv
      cases hb:AM d N with
      |false=>rw[hb]at j;exact j.elim
      |true=>
       rw[hb,cond_true]at j;split at j
       .rename_i vs hvs
        refine Jb he hv (by simpa using hb) hvs z λa' O L=>B (.call f vs::ms) _ a' w O ?_ ⟨rfl,rfl,rfl⟩ j
        rw[L,hd];rfl
       .exact j.elim
    . exact j.elim
 |seq x y ihx ihy=>
  intro u Kn Kx ms r a w Q j z hd D B hx C;have j:(bif (bif uB x then true else uB y)then BS P N x u.l (λms s h'=>BS P N y u.r Kn Kx ms s h') Kx ms r w.heap
   else lP P N (.seq x y) u (Kn ms) (λe=>Kx e ms) r w.heap):=j
  cases hb:(bif uB x then true else uB y)with
  |false=>rw[hb]at j;exact plain _ _ _ _ _ _ _ _ _ j z hd D B hx C
  |true=>
   rw[hb,cond_true]at j;refine wpIn_seq (ihx u.l _ Kx ms r a w _ j z hd (λI a w=>D I a w) ?_ hx C)
   intro W Y Z X U R J S;exact ihy u.r Kn Kx W Y Z X Q S U R D (λp s a' q F A E G=>B p s a' q F A (J.trans E) G) (λi p s a' q F A E G=>hx i p s a' q F A (J.trans E) G)
    (λp s a' q F A E G=>C p s a' q F A (J.trans E) G)
 |cond c x y ihx ihy=>
  intro u Kn Kx ms r a w Q j z hd D B hx C;have j:(bif (bif uB x then true else uB y)then
    (match dD r c with
     |some (.bool t)=>fo t (BS P N x u.l Kn Kx ms r w.heap) (BS P N y u.r Kn Kx ms r w.heap)
     |_=>False)
   else lP P N (.cond c x y) u (Kn ms) (λe=>Kx e ms) r w.heap):=j
  cases hb:(bif uB x then true else uB y)with
  |false=>rw[hb]at j;exact plain _ _ _ _ _ _ _ _ _ j z hd D B hx C
  |true=>
   rw[hb,cond_true]at j;split at j
   .rename_i t ht
    exact wpIn_cond_split (lj z ht) (λe=>ihx _ Kn Kx ms r a w Q (j.yes e) z hd D B hx C) (λe=>ihy _ Kn Kx ms r a w Q (j.no e) z hd D B hx C)
   .exact j.elim
 |block id b ih=>
  intro u Kn Kx ms r a w Q j z hd D B hx C;have j:(bif uB b then BS P N b u Kn (λe ms s h'=>match e with
    | .exit i=>bif aS i id then Kn ms s h' else Kx (.exit i) ms s h'
    | .ret=>Kx .ret ms s h') ms r w.heap
   else lP P N (.block id b) u (Kn ms) (λe=>Kx e ms) r w.heap):=j
  cases hb:uB b with
  |false=>rw[hb]at j;exact plain _ _ _ _ _ _ _ _ _ j z hd D B hx C
  |true=>
   rw[hb,cond_true]at j;refine wpIn_block (ih u Kn _ ms r a w _ j z hd (λI a w=>D I a w) B (λi p s a' q F A E G=>?_) C)
   simp only[Exit.inBlock]at G⊢;cases hi:aS i id with
   |true=>
    rw[hi,cond_true]at G;rw[if_pos (bD hi)];exact B p s a' q F A E G
   |false=>
    rw[hi,cond_false]at G;rw[if_neg (λe=>by rw[e,uf]at hi;cases hi)]
    exact hx i p s a' q F A E G
 |loop b ih=>intro u Kn Kx ms r a w Q j;exact plain _ u Kn Kx ms r a w Q j
 |rangeFunc g ps assign body _ _=>
  intro u Kn Kx ms r a w Q j z hd D B hx C;cases u with
  |rf ks aa ab=>
   have j:(bif B6 N ps.toList&&aS ps.toList.length ks.length then
    (match dD r g with
     |some fv=>RangeP P fv ks w.heap (λOq bz x k h'=>Rx P N ps.toList ks assign body (.node aa ab) r (w.heap.size+1) Oq bz x k h')
       (λh'=>Kn (.it w.heap.size::ms) r h') (λi h'=>Kx (.exit i) (.it w.heap.size::ms) r h') (λh'=>Kx .ret (.it w.heap.size::ms) r h')
     |none=>False)else False):=j
   cases hb:(B6 N ps.toList&&aS ps.toList.length ks.length)with
   |false=>rw[hb]at j;exact j.elim
   |true=>
    rw[hb,cond_true]at j;rw[bC]at hb;split at j
    . rename_i fv hfv
      have T:Agree N r {a with defers:=Iz w.heap.size::a.defers}:=⟨z.size,z.look⟩;have V:({a with defers:=Iz w.heap.size::a.defers}:Act).defers=(.it w.heap.size::ms).map qQ:=by rw[List.map_cons,<-hd]
      exact GN H hb.1 (bD hb.2) hfv z j (λq ht K=>B _ r _ q T V ht K) (λi q ht K=>hx i _ r _ q T V ht K) (λq ht K=>C _ r _ q T V ht K)
    . exact j.elim
  |_=>exact j.elim
 |exit id=>intro u Kn Kx ms r a w Q j;exact plain _ u Kn Kx ms r a w Q j
 |scope b _=>intro u Kn Kx ms r a w Q j;exact j.elim
 |label l=>intro u Kn Kx ms r a w Q j;exact plain _ u Kn Kx ms r a w Q j
 |goto l=>intro u Kn Kx ms r a w Q j;exact j.elim
 |ret=>intro u Kn Kx ms r a w Q j;exact plain _ u Kn Kx ms r a w Q j
 |refuse why=>intro u Kn Kx ms r a w Q j;exact j.elim
theorem yh{fn:Func}{ks:List Kind}{K:vB ks->dO}{N:Nat}{n:Nat}{r:cR}{a:Act}{i:World}(g:Agree N r a):∀(ms:List Mk) (w:World),Tame i w->
  O3 P ms (λh'=>oZ P r h' fn.results.toList λvs=>GT ks vs λt=>K t h') w.heap->
  LeavesInM (FW none) n P fn a.tmps (λe c=>Tame i c/\∃t:vB ks,e=.returned (EL ks (nP ks t))/\K t c.heap) (ms.map qQ) .returning w
 | [],w,ht,h=>by
  obtain⟨t,b,k⟩:=Pa g h;exact⟨_,b,ht,t,rfl,k⟩
 | .it D::ms,w,ht,h=>by
  refine⟨a6,.inl ⟨D,_,rfl,run_takeDeferred h.1,?_⟩⟩;exact yh g ms (w.putObj D (.deferred none)) (ht.trans (pE ..)) h.2
 | .call f vs::ms,w,ht,h=>by
  obtain⟨hc,hd⟩:=h w rfl;refine⟨a6,.inr ⟨(λe=>by cases e),.func f,#[],f,vs.toArray,rfl,?_,λ_ _=>trivial,CallsDIn.mono (hd (n-1)) λe u c ⟨j,d,⟨v,o⟩,m⟩=>?_⟩⟩
  .have:=hc vs.toArray w
   simpa[invoke]using this
  .subst j o
   exact yh g ms c (ht.trans d) m
theorem HE.introM(o:P.follows .mixedOrders=true){s:Ann}{K:vB ks->dO}
  (u:P.funcs[f]? =some fn) (hb:fn.body=some c) (k:∀(args:Array Value) (w:World),(callFunc f args).run P w=.ok (.enter f args) w) (m:args.length<=fn.ntmps)
  (v:Ry P fn c s args ks K h):HE P f args ks K h:=by
 refine⟨λw y=>⟨k,?_⟩⟩
 subst y;refine(callsIn_wide (n:=0)).1 (callsIn_of_wp_marks (F:=FW none) u hb trivial ?_ rfl);refine wpIn_mono (Q:=λe a b=>(∀p,e≠ .panic p)/\bodyPostM (FW none) 0 P fn (λe b=>Tame w b/\∃t:vB ks,e=.returned (EL ks (nP ks t))/\K t b.heap) e a b) ?_ λe a w h=>h.2
 refine Nb o c s _ _ [] _ _ w _ v (Te m) rfl (λp a w h=>h.1 p rfl) ?_ (λ_ _ _ _ _ _ _ _ h=>h.elim) ?_
 .intro g x a' b j d i q
  refine⟨(λ_ e=>by cases e),?_⟩
  show LeavesInM _ _ _ _ _ _ a'.defers _ _
  rw[d];exact yh j g b i q
 .intro g x a' b j d i q
  refine⟨(λ_ e=>by cases e),?_⟩
  show LeavesInM _ _ _ _ _ _ a'.defers _ _
  rw[d];exact yh j g b i q
theorem HC.introM(d:P.follows .mixedOrders=true){i:Ann}{K:vB ks->dO}
 (e:P.funcs[f]? =some fn) (hb:fn.body=some c) (a:∀(args:Array Value) (w:World),(callFunc f args).run P w=.ok (.enter f args) w) (b:args.length<=fn.ntmps)
 (g:Ry P fn c i args ks K h):HC P f args ks K h:=(HE.introM d e hb a b g).hc
end
section
variable {P:Program}{f:FuncId}{args vs:c4}{ks:List Kind}{h h':ad}{T α:Type}{a:Addr}{v:Value}{b i sz:Nat}{c:Array Value}{e t:TypeId}{fr:Nat×Nat}{M M' W:dx}{o:Obj}{s:fD}
def AppP(z:Option c4)(sz a:Nat)(t:TypeId)(base:aT)(sl c b:Nat)(xs:c4)(h:ad)(K:fD->dO):Prop:=
 (sl+b<=c->qV h base (sl*sz) xs/\cH xs=true/\K ⟨base,sl+b,c⟩ (fR h base (sl*sz) xs))/\
 (c<sl+b->∃old z',SRow h base (sl*sz) old/\z=some z'/\0<a/\Builtin.nextslicecap (sl+b) c*a<=2^48/\
  ∀nc,sl+b<=nc->K ⟨some (aR h),sl+b,nc⟩ (hnew h (old++xs++dG (nc-(sl+b)) z') t))
def NextP(a:Addr)(h:ad)(Kend:Prop)(Kstep:MapEntry->dO):Prop:=
 a.off=0/\∃m since seen last,h[a.block]? =some (.mapIter m since seen last)/\
  ((m=none/\Kend)\/
   (∃r es clock,m=some r/\h[r]? =some (.map es clock)/\(seen.isEmpty=true\/es.isEmpty=true\/es.all (λe=>decide (e.born>=last))=false)/\
    ((∀e∈es.toList,e.born<since->seen.contains e.born=true)->Kend)/\
    (∀e∈es.toList,seen.contains e.born=false->Kstep e (h.setIfInBounds a.block (.mapIter (some r) since (seen.push e.born) clock)))))
def aa2(c:CK)(m:Option Nat)(k:Value)(h:ad)(K:dO):Prop:=
 (m=none/\K h)\/∃r:Nat,m=some r/\xH c h r/\K (rR h r k)
attribute [simp] ay ag
theorem ar{p:Prop}[Decidable p]{t e:Prop}(b:p->t)(a:¬p->e):fo (decide p) t e:=eh (λh=>b (of_decide_eq_true h)) (λh=>a (of_decide_eq_false h))
theorem HC.mono{K g:vB ks->dO}(hc:HC P f args ks K h)(d:∀t h',K t h'->g t h'):HC P f args ks g h:=by
 refine⟨λw n=>?_⟩
 rcases hc.run w n with⟨b,a⟩|⟨v,c,b,a,t,i,k⟩
 .exact .inl ⟨b,a.mono λe c ⟨ht,t,m,j⟩=>⟨ht,t,m,d t _ j⟩⟩
 .exact .inr ⟨v,c,b,a,t,i,d t _ k⟩
theorem Join.intro{a:T->dO}{k:(T->dO)->Prop}(J:T->dO)(b:∀R:T->ad->Prop,(∀t h,J t h->R t h)->k R)(c:∀t h,J t h->a t h):Join a k:=⟨b a c⟩
abbrev eF:=@Join.intro
theorem Join.plain{a:T->dO}{k:(T->dO)->Prop}(h:k a):Join a k:=⟨h⟩
abbrev eQ:=@Join.plain
theorem LoopP.intro{T:Type}{F:(T->dO)->T->dO}{t:T}{h:ad}(Inv:T->dO)(m:T->ad->Nat)(f:Inv t h)
  (step:∀I:T->ad->Prop,∀t h,Inv t h->(∀a h',Inv a h'->m a h'<m t h->I a h')->F I t h):LoopP F t h:=by
 refine⟨λI e=>?_⟩
 have key:∀n t h,m t h=n->Inv t h->I t h:=by
  intro n;induction n using sZ with
  |_ n ih=>exact λt h d hi=>e t h (step I t h hi λa h' c b=>ih _ (d▸b) a h' rfl c)
 exact key _ t h rfl f
theorem LoopP.ghost{G:Type}{F:(T->dO)->T->dO}{t:T}(Inv:G->T->dO)(m:G->Nat)(g:G)(i:Inv g t h)
  (step:∀I:T->ad->Prop,∀g t h,Inv g t h->(∀b a h',Inv b a h'->m b<m g->I a h')->F I t h):LoopP F t h:=by
 refine⟨λI f=>?_⟩
 have key:∀n g t h,m g=n->Inv g t h->I t h:=by
  intro n;induction n using sZ with
  |_ n ih=>exact λg t h e hi=>f t h (step I g t h hi λb a h' d c=>ih _ (e▸c) b a h' rfl d)
 exact key _ g t h rfl i
abbrev ez:=@LoopP.ghost
theorem HV.mk'{first cap:Array Value}{K:vB ks->dO}(hc:HC P f (first.toList++args++cap.toList) ks K h):HV P (.func (.func f) first cap) args ks K h:=
 ⟨.inl ⟨f,first,cap,rfl,hc⟩⟩
@[simp] theorem bZ(b o n:Nat):adr ⟨b,o,none⟩ n=⟨b,o+n,none⟩:=by
 cases n<;>rfl
@[simp] theorem AL(a:Addr)(n:Nat):(adr a n).block=a.block:=by
 cases n<;>rfl
theorem cG(h:ad):aR h=⟨h.size,0,none⟩:=rfl
theorem PT(hv:aZ h a=some v):a.block<h.size:=by
 unfold aZ at hv;rcases ci a.block h.size with b|b
 .exact b
 .rw[Array.getElem?_eq_none b]at hv;cases hv
theorem bw(hb:h[b]? =some (.cells c e fr)):aZ h ⟨b,i,none⟩=c[i]?:=by
 unfold aZ;rw[hb];rfl
theorem lz(hb:h'[h.size]? =some (.cells c e fr)) (i:Nat):aZ h' (adr (aR h) i)=c[i]?:=by
 rw[cG,bZ,bw hb,aU]
theorem SJ(hb:h'[a.block]? =h[a.block]?):aZ h' a=aZ h a:=by
 unfold aZ;rw[hb]
theorem kU(hb:h[b]? =some (.cells c e fr)):
  hset h ⟨b,i,none⟩ v=h.setIfInBounds b (.cells (c.setIfInBounds i v) e fr):=by
 unfold hset;apply lN;intro j;rw[mu,dM];by_cases d:b=j
 .subst d
  have a:=(cQ.1 hb).1;simp only[hb,if_true,a,Option.map_some];rfl
 .simp[d]
theorem fk(hb:h[b]? =some (.cells c e (0,0))) (hi:i<c.size):Wr h ⟨b,i,none⟩:=by
 refine⟨⟨c[i],by rw[bw hb,Array.getElem?_eq_getElem hi]⟩,?_⟩
 unfold Hr;rw[hb];simp
structure Upd(M:dx)(h h':ad):Prop where
 size:h.size<=h'.size
 same:∀b,b<h.size->¬M b->h'[b]? =h[b]?
abbrev No:Nat->Prop:=λ_=>False
theorem Upd.refl(M:dx)(h:ad):Upd M h h:=⟨aj _,λ_ _ _=>rfl⟩
abbrev eM:=@Upd.refl
theorem Upd.trans{d c:ad}(k:Upd M h d)(l:Upd M' d c)(f:∀b,M' b->M b\/h.size<=b):Upd M h c:=
 ⟨Nat.le_trans k.size l.size,λb hb e=>by
  rw[l.same b (aD hb k.size) (λhm=>(f b hm).elim e λa=>absurd hb (dR.2 a)),k.same b hb e]⟩
theorem Upd.tr{a b:ad}(k:Upd M h a)(l:Upd M a b):Upd M h b:=k.trans l λ_ h=>.inl h
theorem Upd.mono(k:Upd M h h')(c:∀b,M b->M' b\/h.size<=b):Upd M' h h':=
 ⟨k.size,λb hb d=>k.same b hb λhm=>(c b hm).elim d λa=>absurd hb (dR.2 a)⟩
theorem Upd.wide(k:Upd No h h'):Upd M h h':=k.mono λ_ h=>h.elim
theorem Upd.get(k:Upd M h h')(a:h[b]? =some o) (c:¬M b):h'[b]? =some o:=by
 rw[k.same b (cQ.1 a).1 c,a]
theorem Upd.get0(k:Upd No h h')(a:h[b]? =some o):h'[b]? =some o:=k.get a id
theorem Upd.cell(k:Upd M h h')(hv:aZ h a=some v)(b:¬M a.block):aZ h' a=some v:=by
 rw[SJ (k.same _ (PT hv) b),hv]
theorem Upd.cell0(k:Upd No h h')(hv:aZ h a=some v):aZ h' a=some v:=k.cell hv id
theorem Upd.push(M:dx)(h:ad)(o:Obj):Upd M h (h.push o):=⟨a6,λb hb _=>by rw[Array.getElem?_push];simp[Nat.ne_of_lt hb]⟩
theorem Upd.set(h:ad)(o:Obj)(hb:M b):Upd M h (h.setIfInBounds b o):=⟨a6,λc _ a=>by
 rw[dM]
 have:b≠c:=λe=>a (e▸hb)
 simp[this]⟩
theorem Upd.hset{M:dx}(h:ad){a:Addr}(v:Value)(hb:M a.block):Upd M h (hset h a v):=⟨by simp[Go.Lift.hset],λc _ b=>by
 unfold Go.Lift.hset
 rw[mu]
 have:a.block≠c:=λe=>b (e▸hb)
 simp[this]⟩
theorem Upd.hnew(M:dx)(h:ad)(cs:c4)(t:TypeId):Upd M h (hnew h cs t):=Upd.push M h _
abbrev e9:=@Upd.hnew
theorem cf(h:ad)(cs:c4)(t:TypeId):(hnew h cs t)[h.size]? =some (.cells cs.toArray t (0,0)):=by
 unfold hnew;simp
theorem oJ(h:ad)(o:Obj):(h.push o)[h.size]? =some o:=a6
theorem dS(h:ad)(cs:c4)(t:TypeId):(hnew h cs t).size=h.size+1:=by
 unfold hnew;simp
theorem eE{a:Obj}(hb:h[b]? =some a):(h.setIfInBounds b o)[b]? =some o:=by
 rw[dM];simp[(cQ.1 hb).1]
theorem bB(hb:h[b]? =some o):b<h.size:=(cQ.1 hb).1
theorem Row.upd(b:Row h a vs)(k:Upd M h h')(c:¬M a.block):Row h' a vs:=λi v hv=>k.cell (b i v hv) (by rw[AL];exact c)
theorem SRow.upd{a:aT}{n:Nat}(c:SRow h a n vs)(k:Upd M h h')(e:vs≠[]->∀b,a=some b->¬M b.block):SRow h' a n vs:=by
 obtain⟨d,f⟩:=c;refine⟨d,?_⟩;rcases f with rfl|⟨b,hb,c⟩
 .exact .inl rfl
 .by_cases hv:vs= []
  .exact .inl hv
  .exact .inr ⟨b,hb,c.upd k (e hv b hb)⟩
theorem p5{o:Nat}(hb:h[b]? =some (.cells c e fr))  (hv:∀i v,vs[i]? =some v->c[o+i]? =some v):Row h ⟨b,o,none⟩ vs:=λi v hi=>by
 rw[bZ,bw hb];exact hv i v hi
structure Sl{α:Type}(f:α->c4)(sz:Nat)(W:dx)(h:ad)(s:fD)(xs:List α):Prop where
 len:s.len=xs.length
 ne:∀x,(f x).length=sz/\0<sz
 row:xs≠[]->∃a,s.a=some a/\¬W a.block/\Row h a (xs.flatMap f)
theorem Sl.nil{f:α->c4}{a:aT}{c:Nat}(b:∀x,(f x).length=sz/\0<sz):Sl f sz W h ⟨a,0,c⟩ []:=⟨rfl,b,λh=>absurd rfl h⟩
theorem Sl.lt{f:α->c4}{xs:List α}(d:Sl f sz W h s xs)(hx:xs≠[])(g:s.a=some a):a.block<h.size:=by
 obtain⟨a',b,i,e⟩:=d.row hx;rw[g]at b;cases b;cases xs with
 |nil=>exact absurd rfl hx
 |cons x xs=>
  have c:=d.ne x;cases hf:f x with
  |nil=>rw[hf]at c;simp at c;omega
  |cons v vs=>
   have:=e 0 v (by rw[aL,hf];rfl);have:=PT this;rw[AL]at this;exact this
theorem Sl.upd{f:α->c4}{xs:List α}(c:Sl f sz W h s xs)(k:Upd M h h')(hm:∀b,M b->W b\/h.size<=b):Sl f sz W h' s xs:=by
 refine⟨c.len,c.ne,λhx=>?_⟩
 obtain⟨a,g,e,i⟩:=c.row hx;exact⟨a,g,e,i.upd k λhb=>(hm _ hb).elim e λd=>absurd (c.lt hx g) (dR.2 d)⟩
theorem Sl.less{f:α->c4}{W':dx}{xs:List α}(c:Sl f sz W h s xs)(hm:∀b,W' b->W b\/h.size<=b):Sl f sz W' h s xs:=
 ⟨c.len,c.ne,λhx=>let⟨a,e,i,g⟩:=c.row hx;⟨a,e,λhb=>(hm _ hb).elim i λd=>absurd (c.lt hx e) (dR.2 d),g⟩⟩
theorem iw{α:Type}{f:α->c4}{sz:Nat}(a:∀x,(f x).length=sz):∀xs:List α,(xs.flatMap f).length=xs.length*sz
 | []=>a6
 |x::xs=>by rw[aL,ae,a,iw a xs,av,il];omega
theorem vF{α:Type}{f:α->c4}{sz:Nat}(a:∀x,(f x).length=sz):∀(xs:List α) (i j:Nat) (x:α),xs[i]? =some x->j<sz->(xs.flatMap f)[i*sz+j]? =(f x)[j]?
 | [],i,j,x,h,_=>by simp at h
 |y::xs,0,j,x,h,hj=>by
  simp only[List.getElem?_cons_zero,bO.injEq]at h;subst h;rw[aL,Nat.zero_mul,aU,bW (by rw[a];exact hj)]
 |y::xs,i+1,j,x,h,hj=>by
  rw[List.getElem?_cons_succ]at h;rw[aL,bE (by rw[a,il];omega),a,show(i+1)*sz+j-sz=i*sz+j by rw[il];omega]
  exact vF a xs i j x h hj
theorem Sl.at{α:Type}{f:α->c4}{sz:Nat}{W:dx}{h:ad}{s:fD}{xs:List α}(b:Sl f sz W h s xs){i:Nat}{x:α}(hi:xs[i]? =some x):
  ∃a,s.a=some a/\¬W a.block/\∀j v,(f x)[j]? =some v->aZ h (adr (adr a (i*sz)) j)=some v:=by
 obtain⟨a,k,d,c⟩:=b.row (λe=>by subst e;simp at hi)
 refine⟨a,k,d,λj v hv=>?_⟩
 have g:j<sz:=by rw[<-(b.ne x).1];exact(bM.1 hv).1
 rw[pd];exact c _ v (by rw[vF (λx=>(b.ne x).1) xs i j x hi g];exact hv)
theorem Sl.at0{g:α->Value}{xs:List α}(c:Sl (λx=> [g x]) 1 W h s xs){x:α}(hi:xs[i]? =some x):
  ∃a,s.a=some a/\¬W a.block/\aZ h (adr a (i*1))=some (g x):=by
 obtain⟨a,d,e,b⟩:=c.at hi;exact⟨a,d,e,b 0 _ rfl⟩
theorem Sl.srow{f:α->c4}{xs:List α}(b:Sl f sz W h s xs):SRow h s.a (s.len*sz) (xs.flatMap f):=by
 refine⟨?_,?_⟩
 .rw[b.len,iw λx=>(b.ne x).1]
 .by_cases hx:xs= []
  .subst hx;exact .inl rfl
  .obtain⟨a,d,_,c⟩:=b.row hx
   exact .inr ⟨a,d,c⟩
theorem Sl.sub{f:α->c4}{xs:List α}(b:Sl f sz W h s xs){l hi m c:Nat}(q:l<=hi)(d:hi<=xs.length)(p:hi<=m):
  Sl f sz W h ⟨bj s.a l m sz,hi-l,c⟩ ((xs.drop l).take (hi-l)):=by
 refine⟨by simp only[aV,ba];omega,b.ne,λhx=>?_⟩
 have g:l<hi:=by
  rcases ci l hi with h|h
  .exact h
  .rw[Nat.sub_eq_zero_of_le h]at hx;exact absurd List.take_zero hx
 obtain⟨a,o,k,j⟩:=b.row (λe=>by rw[e]at d;simp at d;omega)
 refine⟨adr a (l*sz),?_,by rw[AL];exact k,λi v hv=>?_⟩
 .unfold bj
  rw[if_neg a4,o];rfl
 .rw[pd]
  refine j _ v ?_;have e:xs=xs.take l++((xs.drop l).take (hi-l)++(xs.drop l).drop (hi-l)):=by rw[aW,aW]
  rw[e,bI,bI];have n:((xs.take l).flatMap f).length=l*sz:=by rw[iw λx=>(b.ne x).1,aV];congr 1;omega
  rw[bE a4,n,Nat.add_sub_cancel_left,bW (bM.1 hv).1];exact hv
structure OwnS{α:Type}(f:α->c4)(sz:Nat)(t:TypeId)(M:dx)(h:ad)(s:fD)(xs:List α):Prop where
 len:s.len=xs.length
 ne:∀x,(f x).length=sz/\0<sz
 cap:s.len<=s.cap
 blk:s.cap=0\/∃b rest,s.a=some ⟨b,0,none⟩/\M b/\h[b]? =some (.cells (xs.flatMap f++rest).toArray t (0,0))/\rest.length=(s.cap-s.len)*sz
theorem OwnS.nil{f:α->c4}{a:aT}(b:∀x,(f x).length=sz/\0<sz):OwnS f sz t M h ⟨a,0,0⟩ []:=⟨rfl,b,aj _,.inl rfl⟩
theorem OwnS.sl{f:α->c4}{xs:List α}(a:OwnS f sz t M h s xs)(hm:∀b,M b->b<h.size->¬W b):Sl f sz W h s xs:=by
 refine⟨a.len,a.ne,λhx=>?_⟩
 rcases a.blk with e|⟨b,c,d,hb,hc,_⟩
 .have:=a.len;have:=a.cap
  have:xs.length=0:=a4
  exact absurd (aK.1 this) hx
 .exact⟨_,d,hm b hb (bB hc),p5 hc λi v hv=>by
   rw[aU,du,bW (bM.1 hv).1];exact hv⟩
theorem OwnS.upd{f:α->c4}{xs:List α}(c:OwnS f sz t M h s xs)(k:Upd M' h h')(hm:∀b,M b->¬M' b):OwnS f sz t M h' s xs:=by
 refine⟨c.len,c.ne,c.cap,c.blk.imp id λ⟨b,a,e,hb,hc,d⟩=>⟨b,a,e,hb,k.get hc (hm b hb),d⟩⟩
theorem OwnS.more{f:α->c4}{xs:List α}(c:OwnS f sz t M h s xs)(hm:∀b,M b->M' b):OwnS f sz t M' h s xs:=by
 refine⟨c.len,c.ne,c.cap,c.blk.imp id λ⟨b,a,e,hb,hc,d⟩=>⟨b,a,e,hm b hb,hc,d⟩⟩
theorem OwnS.within{f:α->c4}{xs:List α}(c:OwnS f sz t M h s xs):OwnS f sz t (λb=>M b/\b<h.size) h s xs:=by
 refine⟨c.len,c.ne,c.cap,c.blk.imp id λ⟨b,a,e,hb,hc,d⟩=>⟨b,a,e,⟨hb,bB hc⟩,hc,d⟩⟩
theorem iE{b:Nat}{t:TypeId}:∀(vs:c4) (h:ad) (i o:Nat) (c:c4),h[b]? =some (.cells c.toArray t (0,0))->o+i+vs.length<=c.length->
  fS h ⟨b,o,none⟩ i vs=h.setIfInBounds b (.cells (c.take (o+i)++vs++c.drop (o+i+vs.length)).toArray t (0,0))
 | [],h,i,o,c,hb,hl=>by
  simp only[fS,List.append_nil,bq,dP,aW];apply lN;intro j;rw[dM];split
  .rename_i e;subst e;rw[hb];simp[bB hb]
  .rfl
 |v::vs,h,i,o,c,hb,hl=>by
  rw[av]at hl;simp only[fS];rw[bZ,kU hb];have a:(h.setIfInBounds b (.cells (c.toArray.setIfInBounds (o+i) v) t (0,0)))[b]? =some (.cells (c.set (o+i) v).toArray t (0,0)):=by
   rw[eE hb];simp
  rw[iE vs _ (i+1) o (c.set (o+i) v) a a9];have e:∀(x y:Obj),(h.setIfInBounds b x).setIfInBounds b y=h.setIfInBounds b y:=λx y=>by
   apply lN;intro j;simp only[dM,Array.size_setIfInBounds];split<;>rfl
  rw[e];congr 3
  apply List.ext_getElem?;intro j;simp only[List.getElem?_append,ae,aV,List.length_set,av,List.getElem?_take,List.getElem?_set,List.getElem?_drop];grind
theorem lO(n:Nat)(z:c4):(dG n z).length=n*z.length:=by
 unfold dG;induction n with
 |zero=>simp
 |succ n ih=>rw[List.replicate_succ,List.flatten_cons,ae,ih,il];omega
theorem AppP.own{f:α->c4}{d:Nat}{base:aT}{sl J:Nat}{xs ys:List α}{m z:c4}{K:fD->dO}
  (k:OwnS f sz t M h ⟨base,sl,i⟩ xs)(g:J=ys.length)(C:m=ys.flatMap f)(q:cH m=true)(N:z.length=sz)(hb:0<d)(p:(xs.length+ys.length)*d<=140737488355328)(hM:M h.size)
  (D:∀s' h',OwnS f sz t M h' s' (xs++ys)->Upd M h h'->K s' h'):AppP (some z) sz d t base sl i J m h K:=by
 have c:sl=xs.length:=k.len;have n:∀x,(f x).length=sz:=λx=>(k.ne x).1
 subst g C;have u:=iw n ys;have g:=iw n xs;refine⟨λw=>?_,λv=>?_⟩
 .rcases k.blk with F|⟨b,a,H,s,hc,y⟩
  .have F:i=0:=F
   have E:ys.length=0:=a4
   have B:xs.length=0:=a4
   have P:=aK.1 E;have hx:=aK.1 B;subst P hx;refine⟨.inl rfl,rfl,?_⟩;have e:fR h base (sl*sz) (([]:List α).flatMap f)=h:=by cases base<;>rfl
   rw[e];exact D _ _ ⟨by simp[c],k.ne,by simp only[bq];omega,.inl F⟩ (eM _ _)
  .have H:base=some ⟨b,0,none⟩:=H
   have y:a.length=(i-sl)*sz:=y;subst H;have L:sl+ys.length<=i:=w;have R:ys.length*sz<=a.length:=by rw[y];exact Nat.mul_le_mul_right _ (Nat.le_sub_of_add_le (show ys.length+sl<=i by omega))
   have o:0+sl*sz+(ys.flatMap f).length<=(xs.flatMap f++a).length:=by
    rw[ae,g,u,c];omega
   refine⟨.inr ⟨_,rfl,λj S=>?_⟩,q,?_⟩
   .rw[bZ]
    refine fk hc ?_;rw[cW];omega
   .have e:fR h (some ⟨b,0,none⟩) (sl*sz) (ys.flatMap f)=_:=iE (ys.flatMap f) h (sl*sz) 0 _ hc o
    rw[e];have A:(xs.flatMap f++a).take (0+sl*sz)=xs.flatMap f:=by
     rw[aU,c,<-g,fG (aj _),List.take_length]
    have G:(xs.flatMap f++a).drop (0+sl*sz+(ys.flatMap f).length)=a.drop (ys.length*sz):=by
     rw[aU,c,<-g,List.drop_append,gE a4,cS,u];congr 1;omega
    rw[A,G];refine D _ _ ⟨by simp[c],k.ne,w,.inr ⟨b,a.drop (ys.length*sz),rfl,s,?_,?_⟩⟩ (Upd.set h _ s)
    .rw[eE hc,bI]
    .rw[ba,y]
     simp only;rw[show i-(sl+ys.length)=(i-sl)-ys.length by omega,Nat.sub_mul (i-sl)]
 .have Q:i*1<=i:=by omega
  refine⟨xs.flatMap f,z,?_,rfl,hb,Go.growslice_fits v (by rw[c];exact p),λO I=>?_⟩
  .exact(k.sl (W:=No) λ_ _ _=>id).srow
  .refine D _ _ ⟨by simp[c],k.ne,I,.inr ⟨h.size,dG (O-(sl+ys.length)) z,rfl,hM,?_,?_⟩⟩ (e9 M h _ _)
   .rw[cf,bI]
   .rw[lO,N]
end
section
variable {h:ad}{k:dO}{b o m n p q r:Nat}{c vs:c4}{t:TypeId}
theorem bL(a:k h):At h k:=a
theorem jW{l sz:Nat}(h:m≠l):bj (some ⟨b,o,none⟩) l m sz=some ⟨b,o+l*sz,none⟩:=by simp[bj,h,bZ]
theorem sub_zero{sz:Nat}:bj (some ⟨b,0,none⟩) 0 m sz=some ⟨b,0,none⟩:=by
 unfold bj;split
 .rfl
 .simp[bZ]
theorem lS{a:aT}(d:SRow h a n vs)(f:cH vs=true)(hb:h[b]? =some (.cells c.toArray t (0,0)))
  (m:o+n<=c.length) (i:∀h',h'[b]? =some (.cells (c.take o++vs++c.drop (o+n)).toArray t (0,0))->Upd (· =b) h h'->k h'):
  ∃xs,SRow h a n xs/\qV h (some ⟨b,o,none⟩) 0 xs/\cH xs=true/\At (fR h (some ⟨b,o,none⟩) 0 xs) k:=by
 have g:=d.1;refine⟨vs,d,.inr ⟨_,rfl,λj p=>?_⟩,f,bL ?_⟩
 .rw[bZ];exact fk hb (by rw[cW];omega)
 .have e:fR h (some ⟨b,o,none⟩) 0 vs=_:=iE vs h 0 o c hb a4
  rw[e];refine i _ ?_ (Upd.set h _ rfl);rw[eE hb,dP,g]
theorem md(hb:h[b]? =some (.cells c.toArray t (0,0))) (a:vs.length=n) (d:(c.drop o).take n=vs):SRow h (some ⟨b,o,none⟩) n vs:=by
 refine⟨a,.inr ⟨_,rfl,p5 hb λi v hv=>?_⟩⟩
 rw[du,<-List.getElem?_drop];have:((c.drop o).take n)[i]? =some v:=by rw[d];exact hv
 rw[List.getElem?_take]at this;split at this
 .exact this
 .cases this
section
variable {α:Type} {f:α->c4} {sz:Nat}
theorem kg(a:∀x,(f x).length=sz/\0<sz)(xs:List α):(xs.flatMap f).length=xs.length*sz:=iw (λx=>(a x).1) xs
theorem zR(xs:List α)(k:Nat):xs.flatMap f=(xs.take k).flatMap f++(xs.drop k).flatMap f:=by rw[<-bI,aW]
end
theorem Ny{α:Type}{A X B Z1 Z2:List α}(b:A.length=p)(f:X.length=q)(e:Z1.length=r+q):
  (((A++Z1++Z2).take p++X++(A++Z1++Z2).drop (p+q)).take (p+q))++B++((A++Z1++Z2).take p++X++(A++Z1++Z2).drop (p+q)).drop (p+q+r)=A++(X++B)++Z2:=by
 have d:(A++Z1++Z2).take p=A:=by rw[au,cZ b]
 have c:(A++Z1++Z2).drop (p+q)=Z1.drop q++Z2:=by
  rw[au,<-cV,cK b,fJ a4]
 have a:(A++X).length=p+q:=by rw[ae];omega
 rw[d,c,cZ a,<-cV,cK a,fJ (by rw[ba];omega),cV,gE a4,cS];simp only[au]
theorem SG{α:Type}{A X B R:List α}(c:A.length=p)(e:B.length=r)(f:q<=R.length):
  (((A++B++R).take (p+q)++B++(A++B++R).drop (p+q+r)).take p)++X++((A++B++R).take (p+q)++B++(A++B++R).drop (p+q+r)).drop (p+q)=A++(X++B)++R.drop q:=by
 have b:((A++B++R).take (p+q)).length=p+q:=by rw[aV,ae,ae];omega
 have a:(A++B++R).drop (p+q+r)=R.drop q:=by
  rw[show p+q+r=(p+r)+q by omega,<-cV,cK (by rw[ae];omega)]
 have d:((A++B++R).take (p+q)++(B++(A++B++R).drop (p+q+r))).take p=A:=by
  rw[fG a4,List.take_take,Nat.min_eq_left a4,au,cZ c]
 rw[au ((A++B++R).take (p+q)),d,cK b,a];simp only[au]
theorem Tc{g:TypeId}{sz a sl f d:Nat}{xs:c4}{z:Option c4}{K:fD->dO}(hb:h[b]? =some (.cells c.toArray t (0,0)))
  (n:sl*sz+xs.length<=c.length) (m:sl+d<=f) (i:cH xs=true) (k:∀h',h'[b]? =some (.cells (c.take (sl*sz)++xs++c.drop (sl*sz+xs.length)).toArray t (0,0))->Upd (· =b) h h'->K ⟨some ⟨b,0,none⟩,sl+d,f⟩ h'):
  AppP z sz a g (some ⟨b,0,none⟩) sl f d xs h K:=by
 refine⟨λ_=>⟨.inr ⟨_,rfl,λj o=>?_⟩,i,?_⟩,λh=>a4⟩
 .rw[bZ];exact fk hb (by rw[cW];omega)
 .have e:fR h (some ⟨b,0,none⟩) (sl*sz) xs=_:=iE xs h (sl*sz) 0 c hb a4
  rw[e];refine k _ ?_ (Upd.set h _ rfl);rw[eE hb,aU]
theorem Hi(hb:h[b]? =some (.cells c.toArray t (0,0)))
  (d:o+vs.length<=c.length) (a:∀h',h'[b]? =some (.cells (c.take o++vs++c.drop (o+vs.length)).toArray t (0,0))->Upd (· =b) h h'->k h'):
  qV h (some ⟨b,o,none⟩) 0 vs/\At (fR h (some ⟨b,o,none⟩) 0 vs) k:=by
 refine⟨.inr ⟨_,rfl,λj f=>?_⟩,bL ?_⟩
 .rw[bZ];exact fk hb (by rw[cW];omega)
 .have e:fR h (some ⟨b,o,none⟩) 0 vs=_:=iE vs h 0 o c hb a4
  rw[e];refine a _ ?_ (Upd.set h _ rfl);rw[eE hb,dP]
end
section
variable {h h':ad}{r i:Nat}{M:dx}
structure KeyE(κ:Type) where
 enc:κ->Value
 ck:CK
 den:∀x,∃d:ck.den,enc x=ck.enc d
 same:∀x y,gv (enc x) (enc y)=true↔x=y
def aee(k:IntKind):KeyE Int:=⟨λx=>.int k x,.int k,λx=>⟨x,rfl⟩,λx y=>by simp[gv]⟩
section
variable {κ β:Type}
structure Ent(κ β:Type) where
 k:κ
 v:β
 n:Nat
variable (E:KeyE κ) (g:β->Value)
def ET(x:Ent κ β):MapEntry:={key:=E.enc x.k,val:=g x.v,born:=x.n}
structure MapE(h:ad)(r:Nat)(ms:List (Ent κ β))(clock:Nat):Prop where
 here:h[r]? =some (.map (ms.map (ET E g)).toArray clock)
 keys:(ms.map (·.k)).Nodup
 nums:(ms.map (·.n)).Nodup
 old:∀x∈ms,x.n<clock
def plain(ms:List (Ent κ β)):List (κ×β):=ms.map λx=>(x.k,x.v)
def MapAt(h:ad)(r:Nat)(m:List (κ×β)):Prop:=∃ms clock,MapE E g h r ms clock/\plain ms=m
variable {E g}
theorem MapE.keysOf{h:ad}{r:Nat}{ms:List (Ent κ β)}{a:Nat}(_:MapE E g h r ms a):keysOf E.ck (ms.map (ET E g)).toArray.toList:=by
 intro e b;simp only[be]at b;obtain⟨x,_,rfl⟩:=b;exact E.den x.k
theorem MapAt.isMap{m:List (κ×β)}(hm:MapAt E g h r m):xH E.ck h r:=by
 obtain⟨ms,a,hm,_⟩:=hm;exact⟨_,_,hm.here,hm.keysOf⟩
theorem MapAt.len{m:List (κ×β)}(hm:MapAt E g h r m):Ff h (some r) m.length:=by
 obtain⟨ms,a,hm,rfl⟩:=hm;exact⟨_,_,hm.here,by simp[plain]⟩
theorem MapAt.nodup{m:List (κ×β)}(hm:MapAt E g h r m):(m.map (·.1)).Nodup:=by
 obtain⟨ms,a,hm,rfl⟩:=hm;have:=hm.keys;unfold plain;rw[jc];exact this
theorem MapAt.lt{m:List (κ×β)}(hm:MapAt E g h r m):r<h.size:=by
 obtain⟨ms,a,hm,_⟩:=hm;exact bB hm.here
theorem MapAt.upd{m:List (κ×β)}(hm:MapAt E g h r m)(k:Upd M h h')(b:¬M r):MapAt E g h' r m:=by
 obtain⟨ms,a,hm,e⟩:=hm;exact⟨ms,a,⟨k.get hm.here b,hm.keys,hm.nums,hm.old⟩,e⟩
theorem MapAt.new(h:ad):MapAt E g (h.push (.map #[] 0)) h.size []:=
 ⟨[],0,⟨oJ h _,qr,qr,λ_ h=>by cases h⟩,rfl⟩
variable [DecidableEq κ]
def bK:List (κ×β)->κ->Option β
 | [],_=>none
 |(k',v)::l,k=>if k=k' then some v else bK l k
def lU:List (κ×β)->κ->β->List (κ×β)
 | [],k,v=> [(k,v)]
 |(k',u)::l,k,v=>if k=k' then(k,v)::l else(k',u)::lU l k v
def lA(l:List (κ×β))(k:κ):List (κ×β):=l.filter λp=>p.1≠k
theorem xF(l:List (κ×β))(k:κ)(v:β)(j:κ):bK (lU l k v) j=if j=k then some v else bK l j:=by
 induction l with
 |nil=>simp[lU,bK]
 |cons p l ih=>
  obtain⟨k',u⟩:=p;simp only[lU];split
  .rename_i e;subst e;simp only[bK];split<;>rfl
  .rename_i e
   simp only[bK,ih];by_cases a:j=k'
   .subst a;simp[Ne.symm e]
   .simp[a]
theorem pK(l:List (κ×β))(k:κ)(j:κ):bK (lA l k) j=if j=k then none else bK l j:=by
 induction l with
 |nil=>simp[lA,bK]
 |cons p l ih=>
  obtain⟨k',u⟩:=p;unfold lA at*;rw[bf];by_cases a:k'=k
  .subst a
   simp only[ne_eq,not_true_eq_false,decide_false,cY,if_false,ih,bK];split<;>rfl
  .simp only[ne_eq,a,not_false_eq_true,decide_true,if_true,bK,ih]
   by_cases b:j=k'
   .subst b;simp[a]
   .simp[b]
theorem eS{l:List (κ×β)}{k:κ}{v:β}(a:(l.map (·.1)).Nodup):bK l k=some v↔(k,v)∈l:=by
 induction l with
 |nil=>simp[bK]
 |cons p l ih=>
  obtain⟨k',u⟩:=p;simp only[cn,eP]at a;simp only[bK,aw,Prod.mk.injEq];by_cases b:k=k'
  .subst b
   simp only[if_true,bO.injEq,true_and];constructor
   .exact λe=>.inl e.symm
   .rintro(e|e)
    .exact e.symm
    .exact absurd (be.2 ⟨_,e,rfl⟩) a.1
  .simp[b,ih a.2]
theorem eH{l:List (κ×β)}{k:κ}:bK l k=none↔k∉l.map (·.1):=by
 induction l with
 |nil=>simp[bK]
 |cons p l ih=>
  obtain⟨k',u⟩:=p;simp only[bK,cn,aw,not_or];by_cases a:k=k'
  .simp[a]
  .simp[a,ih]
theorem xD(l:List (κ×β))(k:κ)(v:β):(lU l k v).map (·.1)=if k∈l.map (·.1)then l.map (·.1)else l.map (·.1)++ [k]:=by
 induction l with
 |nil=>simp[lU]
 |cons p l ih=>
  obtain⟨k',u⟩:=p;simp only[lU];by_cases a:k=k'
  .simp[a]
  .simp only[a,if_false,cn,ih,aw,false_or]
   split<;>simp
theorem Ck{l:List (κ×β)}{k:κ}{v:β}(h:(l.map (·.1)).Nodup):((lU l k v).map (·.1)).Nodup:=by
 rw[xD];split
 .exact h
 .rename_i hn
  rw[List.nodup_append];refine⟨h,a6,?_⟩
  intro a c b hb;simp only[az]at hb;subst hb;intro e;subst e;exact hn c
theorem Tf{l:List (κ×β)}{k:κ}(h:(l.map (·.1)).Nodup):((lA l k).map (·.1)).Nodup:=h.sublist ((dH).map _)
theorem M9(x y:κ):gv (E.enc x) (E.enc y)=decide (x=y):=by
 by_cases h:x=y
 .rw[decide_eq_true h];exact(E.same x y).2 h
 .rw[decide_eq_false h];exact iL.2 λe=>h ((E.same x y).1 e)
theorem Yd(k:κ)(ms:List (Ent κ β)):IV (E.enc k) (ms.map (ET E g))=(bK (plain ms) k).map g:=by
 induction ms with
 |nil=>rfl
 |cons x ms ih=>
  simp only[cn,IV,ET,plain,bK];rw[M9];by_cases h:k=x.k
  .simp[h]
  .simp only[h,decide_false,cY,if_false];exact ih
theorem MapAt.get{m:List (κ×β)}(hm:MapAt E g h r m)(k:κ)(z:β):nh E.ck (g z) h (some r) (E.enc k) (g ((bK m k).getD z)) (bK m k).isSome:=by
 obtain⟨ms,a,hm,rfl⟩:=hm;refine⟨_,_,hm.here,hm.keysOf,?_⟩;rw[Yd];cases bK (plain ms) k<;>exact⟨rfl,rfl⟩
def zO(k:κ)(v:β)(a:Nat):List (Ent κ β)->List (Ent κ β)×Nat
 | []=>([⟨k,v,a⟩],a+1)
 |x::l=>if k=x.k then(⟨k,v,x.n⟩::l,a)else(x::(zO k v a l).1,(zO k v a l).2)
theorem ZZ(k:κ)(v:β)(a:Nat)(ms:List (Ent κ β)):Nj (E.enc k) (g v) a (ms.map (ET E g))=((zO k v a ms).1.map (ET E g),(zO k v a ms).2):=by
 induction ms with
 |nil=>rfl
 |cons x ms ih=>
  simp only[cn,Nj,zO];rw[ih,show(ET E g x).key=E.enc x.k from rfl,M9]
  by_cases h:k=x.k
  .simp[h,ET]
  .simp[h]
theorem IZ(k:κ)(v:β)(a:Nat)(ms:List (Ent κ β)):plain (zO k v a ms).1=lU (plain ms) k v:=by
 induction ms with
 |nil=>rfl
 |cons x ms ih=>
  simp only[zO,plain,cn,lU];by_cases h:k=x.k
  .simp[h]
  .simp only[h,if_false,cn,List.cons.injEq,true_and];exact ih
theorem abZ(k:κ)(v:β)(a:Nat)(ms:List (Ent κ β)):(zO k v a ms).1.map (·.n)=(if k∈ms.map (·.k)then ms.map (·.n)else ms.map (·.n)++ [a])/\(zO k v a ms).2=(if k∈ms.map (·.k)then a else a+1):=by
 induction ms with
 |nil=>exact⟨rfl,rfl⟩
 |cons x ms ih=>
  simp only[zO];by_cases h:k=x.k
  .simp[h]
  .simp only[h,if_false,cn,ih.1,ih.2,aw,false_or,and_true]
   split<;>simp
theorem aab{ms:List (Ent κ β)}{a:Nat}(hm:MapE E g h r ms a)(k:κ)(v:β):nM h r (E.enc k) (g v)=h.setIfInBounds r (.map ((zO k v a ms).1.map (ET E g)).toArray (zO k v a ms).2):=by
 unfold nM;rw[hm.here];simp only;rw[ZZ]
theorem MapE.put{ms:List (Ent κ β)}{c:Nat}(hm:MapE E g h r ms c)(k:κ)(v:β):MapE E g (nM h r (E.enc k) (g v)) r (zO k v c ms).1 (zO k v c ms).2:=by
 rw[aab hm];have j:(zO k v c ms).1.map (·.k)=(plain (zO k v c ms).1).map (·.1):=by unfold plain;rw[jc];rfl
 have m:(plain ms).map (·.1)=ms.map (·.k):=by unfold plain;rw[jc];rfl
 have e:=abZ k v c ms;have d:∀y∈ms.map (·.n),y<c:=λy i=>by
  obtain⟨x,hx,rfl⟩:=be.1 i;exact hm.old x hx
 refine⟨eE hm.here,?_,?_,?_⟩
 .rw[j,IZ];exact Ck (by rw[m];exact hm.keys)
 .rw[e.1]
  split
  .exact hm.nums
  .rw[List.nodup_append]
   refine⟨hm.nums,a6,?_⟩
   intro a n b hb;simp only[az]at hb;have:=d a n;omega
 .intro x hx
  have hx:x.n∈(zO k v c ms).1.map (·.n):=be.2 ⟨x,hx,rfl⟩
  rw[e.1]at hx;rw[e.2];split
  .rename_i hk;rw[if_pos hk]at hx;exact d _ hx
  .rename_i hk
   rw[if_neg hk]at hx;rcases List.mem_append.1 hx with f|f
   .have:=d _ f;omega
   .simp only[az]at f;omega
theorem MapAt.put{m:List (κ×β)}(hm:MapAt E g h r m)(k:κ)(v:β):MapAt E g (nM h r (E.enc k) (g v)) r (lU m k v):=by
 obtain⟨ms,a,hm,rfl⟩:=hm;exact⟨_,_,hm.put k v,IZ ..⟩
theorem oF(h:ad)(k v:Value)(a:M r):Upd M h (nM h r k v):=by
 unfold nM;split
 .exact Upd.set h _ a
 .exact eM _ _
theorem xj(h:ad)(k:Value)(a:M r):Upd M h (rR h r k):=by
 unfold rR;split
 .exact Upd.set h _ a
 .exact eM _ _
theorem Yl(k:κ){ms:List (Ent κ β)}(a:(ms.map (·.k)).Nodup):Ja (E.enc k) (ms.map (ET E g))=(ms.filter λx=>x.k≠k).map (ET E g):=by
 induction ms with
 |nil=>rfl
 |cons x ms ih=>
  simp only[cn,eP]at a;simp only[cn,Ja,bf];rw[show(ET E g x).key=E.enc x.k from rfl,M9]
  by_cases h:k=x.k
  .subst h
   simp only[decide_true,if_true,ne_eq,not_true_eq_false,decide_false,cY,if_false];congr 1
   rw[db.2];intro y b;simp only[decide_not,Bool.not_eq_eq_eq_not,Bool.not_true,decide_eq_false_iff_not];intro e;exact a.1 (e▸be.2 ⟨y,b,rfl⟩)
  .simp only[h,decide_false,cY,if_false,ne_eq,Ne.symm h,not_false_eq_true,decide_true,if_true,cn]
   rw[ih a.2]
theorem MapE.drop{ms:List (Ent κ β)}{a:Nat}(hm:MapE E g h r ms a)(k:κ):MapE E g (rR h r (E.enc k)) r (ms.filter λx=>x.k≠k) a:=by
 have e:rR h r (E.enc k)=h.setIfInBounds r (.map ((ms.filter λx=>x.k≠k).map (ET E g)).toArray a):=by
  unfold rR;rw[hm.here];simp only;rw[Yl k hm.keys]
 rw[e];refine⟨eE hm.here,hm.keys.sublist ((dH).map _),hm.nums.sublist ((dH).map _),λx hx=>hm.old x ((bV.1 hx).1)⟩
theorem tQ(k:κ)(ms:List (Ent κ β)):plain (ms.filter λx=>x.k≠k)=lA (plain ms) k:=by
 unfold plain lA;rw[List.filter_map];rfl
theorem MapAt.del{m:List (κ×β)}(hm:MapAt E g h r m)(k:κ):MapAt E g (rR h r (E.enc k)) r (lA m k):=by
 obtain⟨ms,a,hm,rfl⟩:=hm;exact⟨_,_,hm.drop k,tQ ..⟩
end
section
variable {κ β:Type} (E:KeyE κ) (g:β->Value)
def IterSt(h:ad)(i r:Nat)(m a:List (κ×β)):Prop:=
 ∃ms clock since seen last,MapE E g h r ms clock/\plain ms=m/\h[i]? =some (.mapIter (some r) since seen last)/\a=plain (ms.filter λx=> !seen.contains x.n)/\∀x∈ms,x.n<since/\x.n<last
variable {E g}
theorem IterSt.at{m b:List (κ×β)}(hi:IterSt E g h i r m b):MapAt E g h r m:=by
 obtain⟨ms,a,c,d,last,hm,e,_⟩:=hi;exact⟨ms,a,hm,e⟩
theorem IterSt.upd{m a:List (κ×β)}(hi:IterSt E g h i r m a)(k:Upd M h h')(n:¬M i)(f:¬M r):IterSt E g h' i r m a:=by
 obtain⟨ms,c,b,d,last,hm,j,hb,ht,e⟩:=hi;exact⟨ms,c,b,d,last,⟨k.get hm.here f,hm.keys,hm.nums,hm.old⟩,j,k.get hb n,ht,e⟩
theorem IterSt.ne{m a:List (κ×β)}(hi:IterSt E g h i r m a):i≠r:=by
 obtain⟨ms,c,b,d,last,hm,j,hb,ht,f⟩:=hi;intro e;subst e;rw[hm.here]at hb;cases hb
theorem IterSt.nodup{m a:List (κ×β)}(hi:IterSt E g h i r m a):(a.map (·.1)).Nodup:=by
 obtain⟨ms,c,b,d,last,hm,f,hb,ht,e⟩:=hi;rw[ht];unfold plain;rw[jc];exact hm.keys.sublist ((dH).map _)
theorem MapAt.range{m:List (κ×β)}(hm:MapAt E g h r m):∃a,(∃es,h[r]? =some (.map es a))/\IterSt E g (h.push (.mapIter (some r) a #[] a)) h.size r m m:=by
 obtain⟨ms,a,hm,b⟩:=hm;refine⟨a,⟨_,hm.here⟩,ms,a,a,#[],a,⟨(Upd.push No h _).get0 hm.here,hm.keys,hm.nums,hm.old⟩,b,oJ h _,?_,λx hx=>⟨hm.old x hx,hm.old x hx⟩⟩
 rw[show(λx:Ent κ β=> !(#[]:Array Nat).contains x.n)=λ_=>true from funext λx=>a6,db.2 λ_ _=>rfl,b]
theorem ES{α γ:Type}{f:α->γ}:∀{l:List α},(l.map f).Nodup->∀{x y:α},x∈l->y∈l->f x=f y->x=y
 | [],_,x,y,h,_,_=>by cases h
 |z::l,hn,x,y,hx,hy,e=>by
  simp only[cn,eP]at hn;rcases aw.1 hx with b|b<;>rcases aw.1 hy with a|a
  .rw[b,a]
  .exact absurd (be.2 ⟨y,a,by rw[<-e,b]⟩) hn.1
  .exact absurd (be.2 ⟨x,b,by rw[e,a]⟩) hn.1
  .exact ES hn.2 b a e
theorem Yc{ms:List (Ent κ β)}(a:(ms.map (·.n)).Nodup){x:Ent κ β}(hx:x∈ms):(ms.map (ET E g)).find? (λe=>e.born==x.n)=some (ET E g x):=by
 induction ms with
 |nil=>cases hx
 |cons y ms ih=>
  simp only[cn,eP]at a;rw[cn,List.find?_cons];rcases aw.1 hx with rfl|hx
  .simp[ET]
  .have:(ET E g y).born≠x.n:=λe=>a.1 (be.2 ⟨x,hx,e.symm⟩)
   have hb:((ET E g y).born==x.n)=false:=by simpa using this
   rw[hb];exact ih a.2 hx
variable [DecidableEq κ]
theorem NextP.at{M:dx}{h:ad}{i r:Nat}{m c:List (κ×β)}{Kend:Prop}{Kstep:MapEntry->dO}(hi:IterSt E g h i r m c)(hM:M i)
  (q:c= []->Kend)
  (j:∀k v,(k,v)∈c->∀(e:MapEntry) h',e.key=E.enc k->e.val=g v->yA h' i e->IterSt E g h' i r m (lA c k)->Upd M h h'->Kstep e h'):NextP ⟨i,0,none⟩ h Kend Kstep:=by
 have A:=hi.ne;obtain⟨ms,a,b,d,last,hm,D,hb,ht,w⟩:=hi;refine⟨rfl,_,b,d,last,hb,.inr ⟨r,_,a,rfl,hm.here,?_,λf=>?_,λe C z=>?_⟩⟩
 .by_cases B:ms= []
  .right;left;subst B;rfl
  .right;right
   obtain⟨x,l,hx⟩:=List.exists_cons_of_ne_nil B;rw[iL];intro f;rw[Array.all_eq_true']at f;have hx:x∈ms:=by rw[hx];exact List.mem_cons_self ..
   have:=f (ET E g x) (by simp only[List.mem_toArray,be];exact⟨x,hx,rfl⟩);have F:=(w x hx).2;simp[ET]at this;omega
 .refine q ?_
  rw[ht];unfold plain;rw[List.map_eq_nil_iff,List.filter_eq_nil_iff];intro x hx;have:=f (ET E g x) (by simp only[be];exact⟨x,hx,rfl⟩) (w x hx).1;have e:(ET E g x).born=x.n:=rfl;rw[e]at this;rw[this];exact Bool.false_ne_true
 .simp only[be]at C
  obtain⟨x,hx,rfl⟩:=C;have z:d.contains x.n=false:=z;have n:=eE (o:=.mapIter (some r) b (d.push x.n) a) hb;have p:(h.setIfInBounds i (.mapIter (some r) b (d.push x.n) a))[r]? =some (.map (ms.map (ET E g)).toArray a):=by
   rw[dM];simp only[A,if_false];exact hm.here
  refine j x.k x.v ?_ _ _ rfl rfl ?_ ?_ (Upd.set h _ hM)
  .rw[ht]
   exact be.2 ⟨x,bV.2 ⟨hx,by rw[z];rfl⟩,rfl⟩
  .refine⟨r,b,_,a,x.n,_,n,a6,p,?_⟩
   rw[<-Array.find?_toList];exact Yc hm.nums hx
  .refine⟨ms,a,b,_,a,⟨p,hm.keys,hm.nums,hm.old⟩,D,n,?_,λy s=>⟨(w y s).1,hm.old y s⟩⟩
   rw[ht,<-tQ,jI];congr 1
   apply fI;intro y s;have t:y.n=x.n↔y.k=x.k:=⟨λe=>congrArg _ (ES hm.nums s hx e),λe=>congrArg _ (ES hm.keys s hx e)⟩
   simp only[Array.contains_push,ne_eq,decide_not,Bool.not_or];by_cases u:y.k=x.k
   .have:=t.2 u;simp[u,this]
   .have:¬y.n=x.n:=λe=>u (t.1 e)
    simp[u,this]
theorem IterSt.del{m a:List (κ×β)}(hi:IterSt E g h i r m a)(k:κ):IterSt E g (rR h r (E.enc k)) i r (lA m k) (lA a k):=by
 have e:=hi.ne;obtain⟨ms,c,b,d,last,hm,j,hb,ht,f⟩:=hi;refine⟨_,c,b,d,last,hm.drop k,by rw[tQ,j],(xj (M:=(· =r)) h (E.enc k) rfl).get hb e,?_,λx hx=>f x (bV.1 hx).1⟩
 rw[ht,<-tQ,jI,jI];congr 1
 apply fI;intro y _;exact Bool.and_comm ..
end
end
structure Takes{α:Type}(P:Program)(y:Value)(enc:α->c4)(N:Nat)(J:List α->(dx)->dO):Prop where
 lt:∀pre A h,J pre A h->∀b,A b->b<h.size
 keep:∀pre A h h' B,J pre A h->Upd B h h'->(∀b,A b->¬B b)->J pre A h'
 step:∀pre A h x (K:Bool->dO),J pre A h->pre.length<N->(∀h' A',J (pre++ [x]) A' h'->Upd A h h'->(∀b,A' b->A b\/h.size<=b)->K true h')->HV P y (enc x) [.c .bool] K h
structure Gives{α:Type}(P:Program)(fv:Value)(enc:α->c4)(N:Nat)(S:List α->Prop)(Q:dx)(h:ad):Prop where
 lt:∀b,Q b->b<h.size
 run:∃f first cap,fv=.func (.func f) first cap/\∀(y:Value) (J:List α->(dx)->dO) (A M:dx) (h1:ad) (K:Unit->dO),Takes P y enc N J->J [] A h1->Upd M h h1->(∀b,Q b->¬M b)->(∀b,A b->¬Q b)->
  (∀xs A' h',S xs->J xs A' h'->Upd A h1 h'->(∀b,A' b->A b\/h1.size<=b)->K () h')->HE P f (first.toList++ [y]++cap.toList) [] K h1
theorem Gives.upd{α:Type}{P:Program}{a:Value}{enc:α->c4}{N:Nat}{S:List α->Prop}{Q M:dx}{h h':ad}(g:Gives P a enc N S Q h)(k:Upd M h h')(hm:∀b,Q b->¬M b):Gives P a enc N S Q h':=by
 obtain⟨f,first,cap,e,d⟩:=g.run
 refine⟨λb hb=>aD (g.lt b hb) k.size,f,first,cap,e,λy J A M' i K ht j c n o m=>?_⟩
 exact d y J A (λb=>M b\/M' b) i K ht j ((k.mono λb hb=>.inl (.inl hb)).tr (c.mono λb hb=>.inl (.inr hb))) (λb hb h=>h.elim (hm b hb) (n b hb)) o m
end Go.Lift
