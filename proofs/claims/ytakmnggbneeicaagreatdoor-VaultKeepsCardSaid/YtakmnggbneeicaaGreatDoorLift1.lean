/- A part of the proof that the named laws of this program answer true, whatever the input. -/
import Derived.Test.YtakmnggbneeicaaGreatDoorLift0
import Derived.BigFrameIn
open Array renaming getD_eq_getD_getElem?->cY,getElem?_toList->bG,getElem?_setIfInBounds_ne->eA,replicate->oO,getElem?_eq_some_iff->cM,getElem?_eq_getElem->dN,getElem?_eq_none->lF,mapM_eq_mapM_toList->nY,ext'->cO,ext_getElem?->ph,getElem?_modify->mo,getElem?_setIfInBounds->dY
open Bool renaming eq_false_iff->gb,and_true->wH,or_eq_true->jL,and_eq_true->bA,not_eq_true'->mB,or_eq_false_iff->ny,false_eq_true->cQ
open Go.Result renaming andThen_ok->aD
open Go.Sem renaming run_bind->bj,run_pure->bX
open List renaming mem_of_getElem?->ie,length_cons->ar,mem_cons->au,getElem?_cons_zero->cK,getElem?_eq_getElem->af,any_eq_true->cg,getElem?_eq_some_iff->bH,mem_cons_of_mem->ay,mem_cons_self->al,range->fq,filter_cons->aZ,mem_singleton->av,size_toArray->cW,flatMap_cons->aN,length_append->ae,getElem?_append_left->bR,getElem?_append_right->bB,length_take->aY,length_drop->bo,take_append_drop->bK,flatMap_append->bU,length_eq_zero_iff->aJ,getElem?_toArray->dD,length_nil->bC,take_append_of_le_length->eX,drop_eq_nil_of_le->lx,nil_append->cX,append_assoc->ao,take_left'->cR,drop_drop->cS,drop_left'->cJ,drop_append_of_le_length->eZ,mem_map->aR,map_map->iR,nodup_nil->p7,map_cons->ce,nodup_cons->dW,filter_sublist->di,filter_eq_self->dq,mem_filter->bL,filter_filter->ju,filter_congr->eY
open Nat renaming blt->Ac,beq->aO,eq_of_beq_eq_true->bD,land->j5,lor->cV,testBit_and->iz,zero_testBit->fy,succ->fz,zero_add->aU,beq_refl->th,lt_or_ge->cp,pred->zH,sub_zero->dP,le_refl->aj,lt_of_lt_of_le->aA,not_lt->df,succ_mul->ll,add_zero->fV
open Option renaming some->bI
namespace Go.Lift
section
variable {w:World}{o:Oper}{a c:Act}{K:xC->cN->eu}{next:Act->World->Prop}{Q:Exit->Act->World->Prop}{N i:Nat}{v:Value}{r:cN}{d:xC}{dv:DV}{ek:Option (Kind×Kind)}{h:ad}{t:Array Value}{b:Bool}{ops:Array Oper}{W:eh}
variable {P:Program} {ro:Option Nat} {n:Nat}
def FW(ro:Option Nat):Fence:={fn:=λ_=>True,depth:=none,alive:=false,round:=ro}
theorem Uf(m:Machine):m.fenced P (FW ro):=by
 intro g _;exact⟨λh=>by simp[FW]at h,.inl trivial,λ_ _=>trivial,λd h=>by simp[FW]at h⟩
theorem A6{m a:Machine}(h:Steps P m a):StepsIn (Machine.fenced P (FW ro)) P m a:=(StepsIn.of_steps h).mono λm _=>Uf m
theorem Ig{k:Nat}{f:FuncId}{args:Array Value}{R:Ending->World->Prop}(h:Calls P f args w R):CallsIn (FW ro) k P f args w R:=by
 refine⟨trivial,λcs _=>?_⟩
 obtain⟨e,g,fr,d,hc,a,b⟩:=h cs;refine⟨e,g,fr,d,?_,a,b⟩;cases e with
 |returned v=>exact A6 hc
 |panicked c=>exact A6 hc
 |outgrown=>exact hc
theorem qX{K:WK}(hd:∀c,o.op≠ .defer c)(h:O9 P (execOp a.eval o) K w)
  (j:∀v d,Tame w d->K v d.heap->next (a.put o.dst v) d):o.wpIn (FW ro) n P a w next Q:=by
 refine⟨λ_ _=>trivial,?_⟩
 rw[Oper.semAt_eq _ _ _ hd];rcases h with⟨v,d,g,ht,i⟩|⟨d,g,ht,i⟩|⟨f,args,g,hc⟩|⟨l,fn,tmps,assign,body,g,hc⟩
 .rw[g];exact j v d ht i
 .rw[g];exact j undef d ht i
 .rw[g]
  refine⟨λh=>by simp[FW]at h,Ig (hc.mono ?_)⟩
  rintro e d ⟨ht,v,rfl,i⟩;exact j v d ht i
 .rw[g]
  refine⟨λh=>by simp[FW]at h,trivial,λc cs _=>?_⟩
  obtain⟨b,d,ht,i,k⟩:=hc c cs;exact⟨.returned (.bool b),d,j _ d ht i,A6 k⟩
theorem vm{K:cN->Prop}(h:Bw N o v r K)(c:Agree N r a)(hd:DecOk d r)(hv:JU dv v):
  ∃r',K r'/\Agree N r' (a.put o.dst v)/\DecOk (sY d o dv) r':=by
 unfold Bw at h;unfold sY;cases ho:o.dst with
 |none=>rw[ho]at h;exact⟨r,h,c,hd⟩
 |some t=>
  rw[ho]at h;simp only at h;cases hb:Ac t N with
  |false=>rw[hb]at h;exact h.elim
  |true=>
   rw[hb]at h;have b:t<N:=by simpa using hb
   refine⟨_,h,c.put t v b,λs=>?_⟩
   by_cases e:t=s
   .subst e
    have:sr ((t,dv)::d) t=dv:=by simp[sr]
    rw[this];exact .inr ⟨v,iT t v r,hv⟩
   .have f:sr ((t,dv)::d) s=sr d s:=by
     have:aO t s=false:=gb.2 λg=>e (bD g)
     show(bif aO t s then dv else sr d s)=_
     rw[this];rfl
    rw[f,gU v r e];exact hd s
theorem ER{o:Op}{K:RK}(a:DC P ek o r K h):∀c,o≠ .defer c:=by
 intro c e;subst e;exact a
theorem yK{K:WK}(a:GL P o r K h):∀c,o.op≠ .defer c:=by
 intro c e;unfold GL at a;rw[e]at a;exact a
theorem abc{o:Op}(h:yo P o=false):Nm d o=.x:=by
 cases o<;>first|rfl|(simp[yo]at h)
theorem Tx{K:cN->eu}
  (g:aab P N ek o r K w.heap)(j:Agree N r a)(hd:DecOk d r)
  (p:∀v c i,Tame w c->K i c.heap->Agree N i (a.put o.dst v)->DecOk (sY d o (Nm d o.op)) i->next (a.put o.dst v) c):o.wpIn (FW ro) n P a w next Q:=by
 unfold aab at g;cases hq:yo P o.op with
 |true=>
  rw[hq,cond_true]at g;obtain⟨v,S,k,s,m,q⟩:=D0 j g d hd;refine qX (K:=λu h'=>u=v/\h'=w.heap) (ER g) (.inl ⟨v,w,q w s,Tame.refl w,rfl,rfl⟩) ?_
  rintro u c ht ⟨rfl,t⟩;obtain⟨i,e,b,f⟩:=vm k j hd m;exact p u c i ht (by rw[t];exact e) b f
 |false=>
  rw[hq,cond_false]at g;refine qX (yK g) (DI j g) ?_;intro v c ht k;obtain⟨i,e,b,f⟩:=vm k j hd (dv:=Nm d o.op) (by rw[abc hq];trivial);exact p v c i ht e b f
theorem K3(h:t.getD i undef=.bool b):t[i]? =some (.bool b):=by
 rw[cY]at h;cases hc:t[i]? with
 |none=>rw[hc]at h;simp[undef]at h
 |some v=>rw[hc]at h;simp at h;rw[h]
theorem QT(h:t.getD i undef=undef):t[i]? =none\/t[i]? =some undef:=by
 rw[cY]at h;cases hc:t[i]? with
 |none=>exact .inl rfl
 |some v=>rw[hc]at h;simp at h;rw[h];exact .inr rfl
theorem om(h:jx ops.toList d o=some b)(m:Agree N r a)(hd:DecOk d r):
  Region.wanted o (yielded ops a.tmps)=b:=by
 unfold jx at h;unfold Region.wanted;cases hg:o.guard with
 |none=>rw[hg]at h;simp only[bI.injEq]at h;exact h
 |some g=>
  obtain⟨j,c⟩:=g;rw[hg]at h;simp only[bG]at h;simp only;cases hj:ops[j]? with
  |none=>rw[hj]at h;cases h
  |some oj=>
   rw[hj]at h;simp only at h;cases ht:oj.dst with
   |none=>rw[ht]at h;cases h
   |some t=>
    rw[ht]at h;simp only at h;have n:yielded ops a.tmps j=(match a.tmps[t]? with|some (.bool b)=>some b|_=>none):=by
     unfold yielded;simp[hj,ht];rfl
    rw[n];rcases hd t with hx|⟨v,hv,k⟩
    .rw[hx]at h;cases h
    .have i:=m.look t v hv
     cases hdl:sr d t with
     |x=>rw[hdl]at h;cases h
     |t=>
      rw[hdl]at h k;simp only[bI.injEq]at h;subst h;have:v=.bool true:=k;subst this;rw[K3 i];cases c<;>rfl
     |f=>
      rw[hdl]at h k;simp only[bI.injEq]at h;subst h;have:v=.bool false:=k;subst this;rw[K3 i];cases c<;>rfl
     |u=>
      rw[hdl]at h k;simp only[bI.injEq]at h;subst h;have:v=undef:=k;subst this;rcases QT i with e|e<;>rw[e]<;>cases c<;>rfl
structure Fr(W:eh)(a0:Act)(w0:World)(a:Act)(w:World):Prop where
 tame:Tame w0 w
 defers:a.defers=a0.defers
 same:∀t,¬W t->a.tmps.getD t undef=a0.tmps.getD t undef
theorem Fr.refl(W:eh)(a:Act)(w:World):Fr W a w a w:=⟨Tame.refl w,rfl,λ_ _=>rfl⟩
theorem Fr.put{i:Act}{g f:World}(h:Fr W i g a w)(j:∀d,o.dst=some d->W d)(v:Value)(ht:Tame w f):Fr W i g (a.put o.dst v) f:=by
 refine⟨h.tame.trans ht,?_,λt c=>?_⟩
 .cases ho:o.dst<;>simp[Act.put,h.defers]
 .cases ho:o.dst with
  |none=>exact h.same t c
  |some d=>
   have b:d≠t:=λe=>c (e▸j d ho)
   rw[<-h.same t c];simp[Act.put,eA b]
theorem Fr.trans{f b:Act}{d a e:World}(h:Fr W c d f a)(k:Fr W f a b e):Fr W c d b e:=
 ⟨h.tame.trans k.tame,k.defers.trans h.defers,λt ht=>(k.same t ht).trans (h.same t ht)⟩
theorem Fr.mono{W':eh}{b:World}(h:Fr W c b a w)(d:∀t,W t->W' t):Fr W' c b a w:=
 ⟨h.tame,h.defers,λt ht=>h.same t λe=>ht (d t e)⟩
theorem DecOk.known(h:DecOk d r){t:Nat}(hv:JU dv v):DecOk ((t,dv)::d) ((t,v)::r):=λs=>by
 by_cases e:t=s
 .subst e
  have:sr ((t,dv)::d) t=dv:=by simp[sr]
  rw[this];exact .inr ⟨v,iT t v r,hv⟩
 .have a:sr ((t,dv)::d) s=sr d s:=by
   have:aO t s=false:=gb.2 λb=>e (bD b)
   show(bif aO t s then dv else sr d s)=_
   rw[this];rfl
  rw[a,gU v r e];exact h s
theorem GI
  (hi:ops[i]? =some o) (q:jx ops.toList d o=some b) (j:Agree N r a) (hd:DecOk d r)
  (p:match b with
   |true=>aab P N ek o r (K (sY d o (Nm d o.op))) w.heap
   |false=>Bw N o undef r λc=>K (sY d o .u) c w.heap)
  (m:∀v g d' c,Tame w g->K d' c g.heap->Agree N c (a.put o.dst v)->DecOk d' c->next (a.put o.dst v) g):
  wpOpIn (FW ro) n P ops Q i next a w:=by
 unfold wpOpIn;rw[hi];simp only[om q j hd];cases b with
 |true=>exact Tx p j hd λv g c ht s e f=>m v g _ c ht s e f
 |false=>
  obtain⟨c,k,e,f⟩:=vm (dv:=.u) p j hd rfl;exact⟨λ_ _=>trivial,m undef w _ c (Tame.refl w) k e f⟩
theorem Tw{ops:List Oper}{os:List Oper}{K:cN->eu}:Hc P N ek ops (o::os) d K r h=
 (match jx ops d o with
 |some true=>aab P N ek o r (λa h'=>Hc P N ek ops os (sY d o (Nm d o.op)) K a h') h
 |some false=>Bw N o undef r λa=>Hc P N ek ops os (sY d o .u) K a h
 |none=>match HR ops o with
  |none=>False
  |some t=>match kQ r t with
   |some (.bool b)=>fN b
    (Kl P N ek ops o ((t,.t)::d) ((t,.bool true)::r) h λc a h'=>Hc P N ek ops os c K a h')
    (Kl P N ek ops o ((t,.f)::d) ((t,.bool false)::r) h λc a h'=>Hc P N ek ops os c K a h')
   |_=>False):=rfl
theorem Kd
  (hi:ops[i]? =some o) (e:Agree N r a) (hd:DecOk d r) (c:Kl P N ek ops.toList o d r w.heap K)
  (f:∀v w' d' r',Tame w w'->K d' r' w'.heap->Agree N r' (a.put o.dst v)->DecOk d' r'->next (a.put o.dst v) w'):
  wpOpIn (FW ro) n P ops Q i next a w:=by
 unfold Kl at c;cases hw:jx ops.toList d o with
 |none=>rw[hw]at c;exact c.elim
 |some b=>rw[hw]at c;exact GI (ek:=ek) hi hw e hd (by cases b<;>exact c) f
theorem Hb{N:Nat}{ek:Option (Kind×Kind)}{ops:Array Oper}{W:eh}(q:∀o∈ops.toList,∀d,o.dst=some d->W d){u:Act}{s:World}{K:cN->eu}{Q:Exit->Act->World->Prop}
  (x:∀r a w,Agree N r a->Fr W u s a w->K r w.heap->Q .normal a w):
  ∀(l:List Oper) (i:Nat),ops.toList.drop i=l->∀(d:xC) (r:cN) (a:Act) (w:World),Hc P N ek ops.toList l d K r w.heap->Agree N r a->DecOk d r->Fr W u s a w->
   wpOpsIn (FW ro) n P ops Q (List.range' i l.length) a w
 | [],i,_,d,r,a,w,hs,ha,hd,hf=>x r a w ha hf hs
 |o::os,i,hdr,d,r,a,w,hs,ha,hd,hf=>by
  have hi:ops[i]? =some o:=by
   rw[<-bG];have:(ops.toList.drop i)[0]? =some o:=by rw[hdr];rfl
   simpa using this
  have j:o∈ops.toList:=ie (by rw[bG];exact hi);have f:ops.toList.drop (i+1)=os:=by rw[<-List.tail_drop,hdr];rfl
  rw[ar,List.range'_succ,wpOpsIn_cons];rw[Tw]at hs;have k:∀v g e c,Tame w g->Hc P N ek ops.toList os e K c g.heap->Agree N c (a.put o.dst v)->DecOk e c->wpOpsIn (FW ro) n P ops Q (List.range' (i+1) os.length) (a.put o.dst v) g:=
   λv g e c ht y m p=>Hb q x os (i+1) f e c _ g y m p (hf.put (q o j) v ht)
  cases hw:jx ops.toList d o with
  |some b=>
   rw[hw]at hs;exact GI (ek:=ek) (K:=λe c h'=>Hc P N ek ops.toList os e K c h') hi hw ha hd (by cases b<;>exact hs) k
  |none=>
   rw[hw]at hs;simp only at hs;split at hs
   .exact hs.elim
   .rename_i t ht
    split at hs
    .rename_i b hb
     cases b with
     |true=>exact Kd hi (ha.known hb) (hd.known (dv:=.t) rfl) (hs.yes rfl) k
     |false=>exact Kd hi (ha.known hb) (hd.known (dv:=.f) rfl) (hs.no rfl) k
    .exact hs.elim
end
section
variable {a b i j ls:Nat}{ms:List DM}{listed:Array Bool}
theorem B8(m i:Nat):tb m i=m.testBit i:=by
 have h:j5 (Nat.shiftRight m i) 1=(m>>>i)&&&1:=rfl;unfold tb;rw[h,Nat.testBit_eq_decide_div_mod_eq,Nat.and_one_is_mod,Nat.shiftRight_eq_div_pow];cases hm:decide (m/2^i%2=1)with
 |true=>rw[of_decide_eq_true hm];rfl
 |false=>
  have a:=of_decide_eq_false hm;have:m/2^i%2=0:=a4
  rw[this];rfl
theorem oX(a b i:Nat):(cV a b).testBit i=(a.testBit i||b.testBit i):=Nat.testBit_or a b i
theorem BA(i j:Nat):(gR i).testBit j=decide (i=j):=Nat.testBit_two_pow
theorem Ei(h:aO (j5 a b) 0=true)(t:Nat)(c:a.testBit t=true)(hb:b.testBit t=true):False:=by
 have d:=bD h;have:(j5 a b).testBit t=(a.testBit t&&b.testBit t):=iz a b t;rw[d,c,hb]at this;simp at this
theorem YL(h:aO (j5 a b) a=true)(t:Nat)(c:a.testBit t=true):b.testBit t=true:=by
 have d:=bD h;have:(j5 a b).testBit t=(a.testBit t&&b.testBit t):=iz a b t;rw[d,c]at this;simpa using this.symm
theorem Az(i:Nat):∀l:List Edge,(nK l).testBit i=l.any λe=>aO e.on i&&Region.binds .any e
 | []=>fy i
 |e::l=>by
  have a:=Az i l;have hc:nK (e::l)=bif Region.binds .any e then cV (gR e.on) (nK l)else nK l:=rfl;rw[hc,List.any_cons,<-a];cases hb:Region.binds .any e with
  |true=>
   rw[cond_true,oX,BA,wH];congr 1
   cases hd:aO e.on i with
   |true=>simpa using bD hd
   |false=>rw[decide_eq_false_iff_not];intro b;rw[b]at hd;simp at hd
  |false=>simp
theorem CL(o:Oper)(i:Nat):(nK o.after.toList).testBit i=jy o i:=Az i o.after.toList
theorem B6(t:Nat):∀l:List Operand,(mJ l).testBit t=true↔Operand.tmp t∈l
 | []=>by simp[show mJ []=0 from rfl]
 |o::l=>by
  have a:=B6 t l;cases o with
  |tmp u=>
   have hc:mJ (.tmp u::l)=cV (gR u) (mJ l):=rfl;rw[hc,oX,BA,jL,a,au];simp[eq_comm]
  |const v=>
   have hc:mJ (.const v::l)=mJ l:=rfl;rw[hc,a,au];simp
  |global v=>
   have hc:mJ (.global v::l)=mJ l:=rfl;rw[hc,a,au];simp
  |func v=>
   have hc:mJ (.func v::l)=mJ l:=rfl;rw[hc,a,au];simp
theorem zh(o:Oper)(t:Nat):(oI o).testBit t=true↔o.dst=some t:=by
 unfold oI;cases o.dst with
 |none=>simp
 |some d=>simp[BA]
theorem Jy(ops:Array Oper)(o:Oper)(t:Nat):(pk ops.toList o).testBit t=true↔t∈o.looksAt ops:=by
 unfold pk Oper.looksAt;rw[oX,jL,B6,List.mem_append,List.mem_filterMap];refine or_congr ⟨λh=>⟨_,h,rfl⟩,?_⟩ ?_
 .rintro⟨x,hx,b⟩
  cases x<;>simp at b
  subst b;exact hx
 .cases hg:o.guard with
  |none=>simp
  |some g=>
   obtain⟨j,a⟩:=g;simp only[bG];cases hj:ops[j]? with
   |none=>simp
   |some oj=>simp[zh]
variable {P:Program} {ro:Option Nat} {n:Nat} {ops:Array Oper} {Q:Exit->Act->World->Prop}
structure MsOk(ops:Array Oper)(ms:List DM):Prop where
 am:∀(i:Nat) (o:Oper) (m:DM),ops[i]? =some o->ms[i]? =some m->∀j,m.am.testBit j=jy o j
 lk:∀(i:Nat) (o:Oper) (m:DM),ops[i]? =some o->ms[i]? =some m->∀t,m.lk.testBit t=true↔t∈o.looksAt ops
 ds:∀(i:Nat) (o:Oper) (m:DM),ops[i]? =some o->ms[i]? =some m->∀t,m.ds.testBit t=true↔o.dst=some t
 len:ms.length=ops.size
 free:∀(i j:Nat) (m k:DM),ms[i]? =some m->ms[j]? =some k->m.fr.testBit j=true->j=i\/k.am.testBit i=true\/Ej m k=true
 nosel:∀(i:Nat) (o:Oper),ops[i]? =some o->(∀cs b,o.op≠ .select cs b)/\(∀c,o.op≠ .defer c)
theorem Cp(ops:List Oper):∀(l:List Oper) (ms:List DM),yY ops l ms=true->ms.length=l.length/\∀(i:Nat) (o:Oper) (m:DM),l[i]? =some o->ms[i]? =some m->
  m.am=nK o.after.toList/\m.lk=pk ops o/\m.ds=oI o
 | [],[],_=>⟨rfl,λi o m h=>by simp at h⟩
 | [],_::_,h=>by cases h
 |o::l,[],h=>by cases h
 |o::l,m::ms,h=>by
  have hc:yY ops (o::l) (m::ms)=(aO (nK o.after.toList) m.am&&aO (pk ops o) m.lk&&aO (oI o) m.ds&&yY ops l ms):=rfl;rw[hc]at h;simp only[bA]at h;obtain⟨⟨⟨g,j⟩,f⟩,c⟩:=h;obtain⟨b,d⟩:=Cp ops l ms c;refine⟨by simp[b],λi k e a hm=>?_⟩
  cases i with
  |zero=>
   simp only[cK,bI.injEq]at a hm;subst a;subst hm;exact⟨(bD g).symm,(bD j).symm,(bD f).symm⟩
  |succ i=>exact d i k e (by simpa using a) (by simpa using hm)
theorem K6(i:Nat)(m:DM):∀(l:List DM) (j0:Nat),K7 i m l j0=true->∀(j:Nat) (k:DM),l[j]? =some k->m.fr.testBit (j0+j)=true->j0+j=i\/k.am.testBit i=true\/Ej m k=true
 | [],j0,_,j,k,hk,_=>by simp at hk
 |x::l,j0,h,j,k,hk,hb=>by
  have hc:K7 i m (x::l) j0=((!(tb m.fr j0)||aO j0 i||tb x.am i||Ej m x)&&K7 i m l (fz j0)):=rfl
  rw[hc]at h;simp only[bA,jL,mB,B8]at h;cases j with
  |zero=>
   simp only[cK,bI.injEq]at hk;subst hk;simp only[Nat.add_zero]at hb⊢;rcases h.1 with((a|a)|a)|a
   .rw[a]at hb;cases hb
   .exact .inl (bD a)
   .exact .inr (.inl a)
   .exact .inr (.inr a)
  |succ j=>
   have:=K6 i m l (j0+1) h.2 j k (by simpa using hk) (by rw[show j0+1+j=j0+(j+1) by omega];exact hb)
   rw[show j0+1+j=j0+(j+1) by omega]at this
   exact this
theorem E6(all:List DM):∀(l:List DM) (i0:Nat),Cy all l i0=true->∀(i:Nat) (m:DM),l[i]? =some m->K7 (i0+i) m all 0=true
 | [],i0,_,i,m,hm=>by simp at hm
 |x::l,i0,h,i,m,hm=>by
  have hc:Cy all (x::l) i0=(K7 i0 x all 0&&Cy all l (fz i0)):=rfl;rw[hc,bA]at h;cases i with
  |zero=>simp only[cK,bI.injEq]at hm;subst hm;exact h.1
  |succ i=>
   have:=E6 all l (i0+1) h.2 i m (by simpa using hm);rw[show i0+1+i=i0+(i+1) by omega]at this
   exact this
theorem KG:∀(l:List Oper),Om l=true->∀o∈l,(∀cs b,o.op≠ .select cs b)/\(∀c,o.op≠ .defer c)
 | [],_,o,a=>by cases a
 |x::l,h,o,a=>by
  simp only[Om,bA]at h;rcases au.1 a with rfl|a
  .refine⟨λcs b e=>?_,λc e=>?_⟩
   .rw[e]at h;cases h.1
   .rw[e]at h;cases h.1
  .exact KG l h.2 o a
theorem Qx(h:Gu ops.toList ms=true):MsOk ops ms:=by
 have hc:Gu ops.toList ms=(yY ops.toList ops.toList ms&&Cy ms ms 0&&Om ops.toList):=rfl;rw[hc]at h;simp only[bA]at h;obtain⟨⟨f,g⟩,e⟩:=h;obtain⟨c,b⟩:=Cp ops.toList ops.toList ms f;refine⟨λi o m a hm j=>?_,λi o m a hm t=>?_,λi o m a hm t=>?_,by simpa using c,λi j m k hm d hb=>?_,λi o a=>?_⟩
 .rw[(b i o m (by simpa using a) hm).1,CL]
 .rw[(b i o m (by simpa using a) hm).2.1,Jy]
 .rw[(b i o m (by simpa using a) hm).2.2,zh]
 .have:=E6 ms ms 0 g i m hm
  rw[aU]at this;have:=K6 i m ms 0 this j k d (by rwa [aU]);rwa [aU]at this
 .exact KG _ e o (ie (by rw[bG];exact a))
theorem W6(hm:MsOk ops ms){a e:Oper}{g f:DM}(hi:ops[i]? =some a) (m:ops[j]? =some e) (c:ms[i]? =some g) (b:ms[j]? =some f) (h:Ej g f=true):
  (∀d,a.dst=some d->d∉e.looksAt ops)/\(∀d,a.dst=some d->e.dst≠some d)/\(∀d,e.dst=some d->d∉a.looksAt ops):=by
 unfold Ej at h;rw[bA]at h;refine⟨λd hd k=>?_,λd hd n=>?_,λd hd k=>?_⟩
 .exact Ei h.1 d ((hm.ds i a g hi c d).2 hd) (by rw[oX,(hm.lk j e f m b d).2 k,Bool.true_or])
 .exact Ei h.1 d ((hm.ds i a g hi c d).2 hd) (by rw[oX,(hm.ds j e f m b d).2 n,Bool.or_true])
 .exact Ei h.2 d ((hm.ds j e f m b d).2 hd) ((hm.lk i a g hi c d).2 k)
structure LsRel(ops:Array Oper)(ls:Nat)(listed:Array Bool):Prop where
 size:listed.size=ops.size
 bit:∀j,listed.getD j false=ls.testBit j
theorem LsRel.start:LsRel ops 0 (oO ops.size false):=⟨a7,λj=>by
 rw[fy,cY]
 by_cases h:j<ops.size<;>simp[h]⟩
theorem LsRel.put(h:LsRel ops ls listed)(hi:i<ops.size):LsRel ops (cV ls (gR i)) (listed.setIfInBounds i true):=by
 refine⟨by simp[h.size],λj=>?_⟩
 rw[oX,BA,<-h.bit];by_cases e:i=j
 .subst e;simp[h.size,hi]
 .simp[e,eA e]
theorem LsRel.unlisted(h:LsRel ops ls listed)(hi:i<ops.size):listed.getD i true=ls.testBit i:=by
 rw[<-h.bit];have:i<listed.size:=by rw[h.size];exact hi
 simp[this]
theorem Kr(hm:MsOk ops ms)(h:LsRel ops ls listed):j∈Region.ready .any ops listed↔∃m,ms[j]? =some m/\ls.testBit j=false/\Ks m ls=true:=by
 rw[mem_ready];constructor
 .rintro⟨i,o,k,c⟩
  have a:j<ops.size:=(cM.1 k).1;have f:j<ms.length:=by rw[hm.len];exact a
  refine⟨ms[j],af f,by rw[<-h.unlisted a];exact i,?_⟩
  unfold Ks;have:j5 (ms[j]).am ls=(ms[j]).am:=by
   apply Nat.eq_of_testBit_eq;intro t;have d:(j5 (ms[j]).am ls).testBit t=((ms[j]).am.testBit t&&ls.testBit t):=iz _ _ t;rw[d];cases ht:(ms[j]).am.testBit t with
   |false=>rfl
   |true=>
    rw[hm.am j o _ k (af f)]at ht;unfold jy at ht;obtain⟨e,g,hb⟩:=cg.1 ht;simp only[bA]at hb;have:=c e (by simpa using g) hb.2;rw[bD hb.1,h.bit]at this;rw[this];rfl
  rw[this];exact th _
 .rintro⟨m,b,i,n⟩
  have a:j<ops.size:=by rw[<-hm.len];exact(bH.1 b).1
  refine⟨by rw[h.unlisted a];exact i,ops[j],dN a,λe g hb=>?_⟩
  rw[h.bit];refine YL n e.on ?_;rw[hm.am j _ m (dN a) b];unfold jy;exact cg.2 ⟨e,by simpa using g,by simp[hb]⟩
theorem tJ(ls:Nat):∀(l:List DM) (j0 j:Nat),j∈mN ls l j0↔∃k m,l[k]? =some m/\j=j0+k/\ls.testBit j=false/\Ks m ls=true
 | [],j0,j=>by simp[show mN ls [] j0= []from rfl]
 |m::l,j0,j=>by
  have hc:mN ls (m::l) j0=bif !(tb ls j0)&&Ks m ls then j0::mN ls l (fz j0)else mN ls l (fz j0):=rfl;have e:=tJ ls l (j0+1) j;rw[hc,B8];have step:(∃k c,(m::l)[k]? =some c/\j=j0+k/\ls.testBit j=false/\Ks c ls=true)↔(j=j0/\ls.testBit j0=false/\Ks m ls=true)\/j∈mN ls l (j0+1):=by
   rw[e];constructor
   .rintro⟨k,c,d,rfl,a,b⟩
    cases k with
    |zero=>simp only[cK,bI.injEq]at d;subst d;exact .inl ⟨rfl,a,b⟩
    |succ k=>exact .inr ⟨k,c,by simpa using d,a4,a,b⟩
   .rintro(⟨rfl,a,b⟩|⟨k,c,d,rfl,a,b⟩)
    .exact⟨0,m,rfl,rfl,a,b⟩
    .exact⟨k+1,c,by simpa using d,a4,a,b⟩
  rw[step];cases hb:(!(ls.testBit j0)&&Ks m ls)with
  |true=>
   simp only[bA,mB]at hb;rw[cond_true,au];simp[hb.1,hb.2]
  |false=>
   rw[cond_false];constructor
   .exact .inr
   .rintro(⟨_,a,b⟩|h)
    .rw[a,b]at hb;cases hb
    .exact h
theorem nF(hm:MsOk ops ms)(h:LsRel ops ls listed):j∈Region.ready .any ops listed↔j∈mN ls ms 0:=by
 rw[Kr hm h,tJ];constructor
 .rintro⟨m,a,b,c⟩;exact⟨j,m,a,a4,b,c⟩
 .rintro⟨k,m,a,rfl,b,c⟩;exact⟨m,by simpa using a,b,c⟩
theorem zT:∀{a b:List Nat},xP a b=true->a=b
 | [],[],_=>rfl
 | [],_::_,h=>by cases h
 |_::_,[],h=>by cases h
 |a::as,b::bs,h=>by
  simp only[xP,bA]at h;rw[bD h.1,zT h.2]
end
section
variable {ms:List DM}{listed:Array Bool}{m k i j ls N:Nat}{S:eu}{o:Oper}{v:Value}{a:Act}{K:Act->World->Prop}{w:World}{L:rY}
variable {P:Program} {ro:Option Nat} {n:Nat} {ops:Array Oper} {Q:Exit->Act->World->Prop}
theorem B5{m:Nat}{p:Nat->Bool}(hm:∀j,m.testBit j=true->p j=true):∀(l:List DM) (j0:Nat),(∀j x,l[j]? =some x->p (j0+j)=true->∀k,x.am.testBit k=true->p k=true)->∀k,(US m l j0).testBit k=true->p k=true
 | [],_,_,k,h=>hm k h
 |x::l,j0,hl,k,h=>by
  have hc:US m (x::l) j0=bif tb m j0 then cV x.am (US m l (fz j0))else US m l (fz j0):=rfl;have a:=B5 hm l (j0+1) (λj y b c=>hl (j+1) y (by simpa using b) (by rw[show j0+(j+1)=j0+1+j by omega];exact c)) k
  rw[hc,B8]at h;cases hb:m.testBit j0 with
  |true=>
   rw[hb,cond_true,oX,jL]at h;rcases h with h|h
   .exact hl 0 x rfl (hm _ hb) k h
   .exact a h
  |false=>
   rw[hb,cond_false]at h;exact a h
theorem B4{m k:Nat}(h:m.testBit k=true):∀(l:List DM) (j0:Nat),(US m l j0).testBit k=true
 | [],_=>h
 |x::l,j0=>by
  have hc:US m (x::l) j0=bif tb m j0 then cV x.am (US m l (fz j0))else US m l (fz j0):=rfl;have a:=B4 h l (j0+1);rw[hc];cases tb m j0 with
  |true=>rw[cond_true,oX,jL];exact .inr a
  |false=>exact a
def Shut(ms:List DM)(listed:Array Bool):Prop:=∀j x,ms[j]? =some x->listed.getD j false=true->∀k,x.am.testBit k=true->listed.getD k false=true
theorem Un(c:Shut ms listed)(hm:∀j,m.testBit j=true->listed.getD j false=true)(h:(CC ms m).testBit k=true):listed.getD k false=true:=by
 have a:∀j x,ms[j]? =some x->(λk=>listed.getD k false) (0+j)=true->∀k,x.am.testBit k=true->(λk=>listed.getD k false) k=true:=λj x hx b=>c j x hx (by rw[aU]at b;exact b)
 unfold CC at h;exact B5 (p:=λk=>listed.getD k false) (B5 (B5 (B5 hm ms 0 a) ms 0 a) ms 0 a) ms 0 a k h
theorem Lj(h:m.testBit k=true):(CC ms m).testBit k=true:=by
 unfold CC;exact B4 (B4 (B4 (B4 h ms 0) ms 0) ms 0) ms 0
noncomputable abbrev rel(ms:List DM)(i:Nat)(L:rY):rY:=Cg (CC ms (M7 ms i)) L
theorem kG{m:Nat}{x:Nat×(eu)}:∀{L:rY},x∈Cg m L↔x∈L/\tb m x.1=false
 | []=>by simp[Cg]
 |(k,S)::L=>by
  have b:=kG (m:=m) (x:=x) (L:=L);simp only[Cg];cases hk:tb m k with
  |true=>
   rw[cond_true,b,au];constructor
   .exact λh=>⟨.inr h.1,h.2⟩
   .rintro⟨h|h,a⟩
    .subst h;rw[hk]at a;cases a
    .exact⟨h,a⟩
  |false=>
   rw[cond_false,au,b,au];constructor
   .rintro(h|h)
    .subst h;exact⟨.inl rfl,hk⟩
    .exact⟨.inr h.1,h.2⟩
   .rintro⟨h|h,a⟩
    .exact .inl h
    .exact .inr ⟨h,a⟩
def UZ(ms:List DM)(ro:Option Nat)(n:Nat)(P:Program)(ops:Array Oper)(Q:Exit->Act->World->Prop):Nat->rY->Array Bool->Act->World->Prop
 |0,_,listed,a,w=>Region.ready .any ops listed= []/\Q .normal a w
 |f+1,L,listed,a,w=>(Region.ready .any ops listed= []->Q .normal a w)/\
  ∀i∈Region.ready .any ops listed,∀o,ops[i]? =some o->
   wpOpIn (FW ro) n P ops Q i (λa' b=>(∀x∈rel ms i L,x.2 b.heap)/\UZ ms ro n P ops Q f (rel ms i L) (listed.setIfInBounds i true) a' b) a w
theorem yU{o:Oper}{x:Nat×(eu)}:∀{L:rY},x∈pG o L↔x∈L/\jy o x.1=false
 | []=>by simp[pG]
 |(k,S)::L=>by
  have b:=yU (o:=o) (x:=x) (L:=L);simp only[pG];cases hk:jy o k with
  |true=>
   rw[cond_true,b,au];constructor
   .exact λh=>⟨.inr h.1,h.2⟩
   .rintro⟨h|h,a⟩
    .subst h;rw[hk]at a;cases a
    .exact⟨h,a⟩
  |false=>
   rw[cond_false,au,b,au];constructor
   .rintro(h|h)
    .subst h;exact⟨.inl rfl,hk⟩
    .exact⟨.inr h.1,h.2⟩
   .rintro⟨h|h,a⟩
    .exact .inl h
    .exact .inr ⟨h,a⟩
theorem TB(h:i∈Region.ready .any ops listed):∃o,ops[i]? =some o:=by
 obtain⟨_,o,a,_⟩:=mem_ready.1 h;exact⟨o,a⟩
theorem RL{ms:List DM}:∀(f:Nat) (L:rY) (listed:Array Bool) (a:Act) (w:World),UZ ms ro n P ops Q f L listed a w->wpAnyIn (FW ro) n P .any ops Q f listed a w
 |0,_,_,_,_,h=>h
 |f+1,L,listed,a,w,h=>⟨h.1,λi hi=>by
  obtain⟨o,b⟩:=TB hi
  exact wpOpIn_mono (λa' c h'=>RL f _ _ a' c h'.2) (h.2 i hi o b)⟩
theorem wN{ms:List DM}:∀(f:Nat) (L L':rY) (listed:Array Bool) (a:Act) (w:World),(∀x∈L',x∈L\/∀h,x.2 h)->UZ ms ro n P ops Q f L listed a w->UZ ms ro n P ops Q f L' listed a w
 |0,_,_,_,_,_,_,h=>h
 |f+1,L,L',listed,a,w,hs,h=>⟨h.1,λi hi o c=>by
  have b:∀x∈rel ms i L',x∈rel ms i L\/∀h,x.2 h:=λx hx=>(hs x (kG.1 hx).1).imp (λh=>kG.2 ⟨h,(kG.1 hx).2⟩) id
  exact wpOpIn_mono (λa' d h'=>⟨λx hx=>(b x hx).elim (h'.1 x) λh=>h _,wN f _ _ _ a' d b h'.2⟩) (h.2 i hi o c)⟩
def YG(P:Program)(ops:Array Oper)(S:eu)(o:Oper)(v:Value)(a:Act):Prop:=
 (Region.wanted o (yielded ops a.tmps)=true/\∀w:World,S w.heap->(execOp a.eval o).run P w=.ok (.value v) w)\/
 (Region.wanted o (yielded ops a.tmps)=false/\v=undef)
theorem YG.wpOp(hi:ops[i]? =some o) (hd:∀c,o.op≠ .defer c) (d:YG P ops S o v a)   (e:S w.heap)
  (h:K (a.put o.dst v) w):wpOpIn (FW ro) n P ops Q i K a w:=by
 unfold wpOpIn;simp only[hi];rcases d with⟨b,hv⟩|⟨b,rfl⟩
 .simp only[b,if_true]
  refine⟨λ_ _=>trivial,?_⟩
  rw[Oper.semAt_eq _ _ _ hd,hv w e];exact h
 .simp only[b,Bool.false_eq_true,if_false];exact⟨λ_ _=>trivial,h⟩
theorem YG.of_same{a':Act}(b:YG P ops S o v a)(d:execOp a'.eval o=execOp a.eval o)
  (c:Region.wanted o (yielded ops a'.tmps)=Region.wanted o (yielded ops a.tmps)):YG P ops S o v a':=by
 unfold YG at*;rw[d,c];exact b
theorem PC{g i:Oper}(E:ops[j]? =some i)
  (B:(∀d,g.dst=some d->d∉i.looksAt ops)/\(∀d,g.dst=some d->i.dst≠some d)/\(∀d,i.dst=some d->d∉g.looksAt ops))
  (q:∀cs b,g.op≠ .select cs b) (z:∀cs b,i.op≠ .select cs b) (s:∀c,i.op≠ .defer c)
  (F:∀e a w,(∀c,e=.panic c->False)\/¬Q e a w)   
  (m:YG P ops S g v a) (h:wpOpIn (FW ro) n P ops Q j K (a.put g.dst v) w):
  wpOpIn (FW ro) n P ops Q j (λa' A=>YG P ops S g v a'/\K (a'.put g.dst v) A) a w:=by
 obtain⟨C,p,y⟩:=B;have o:∀c a w,¬Q (.panic c) a w:=λc a w D=>(F (.panic c) a w).elim (λh=>h c rfl) λh=>h D
 have keep:∀(a:Act),YG P ops S g v a->∀u,YG P ops S g v (a.put i.dst u):=λa m u=>
  m.of_same (execOp_put g q a i.dst u y) (wanted_put g a i.dst u y)
 unfold wpOpIn at*;simp only[E]at*;rw[wanted_put i a g.dst v C]at h;split
 .rename_i hw
  simp only[hw,if_true]at h;refine⟨λ_ _=>trivial,?_⟩
  have h:=h.2;rw[Oper.semAt_eq _ _ _ s,execOp_put i z a g.dst v C]at h;rw[Oper.semAt_eq _ _ _ s];generalize (execOp a.eval i).run P w=r at*;cases r with
  |ok x A=>
   cases x<;>simp only[Oper.uponIn]at h⊢
   case value u=>exact⟨keep a m u,by rw[<-Act.put_comm a v u p];exact h⟩
   case skip=>exact⟨keep a m _,by rw[<-Act.put_comm a v undef p];exact h⟩
   case defer d=>
    refine⟨(m.of_same (a':={a with defers:=d::a.defers}) rfl rfl).of_same (execOp_put g q _ i.dst undef y) (wanted_put g _ i.dst undef y),?_⟩;rw[<-Act.put_comm _ v undef p,<-Act.put_defers];exact h
   case enter f args=>
    refine⟨h.1,CallsIn.mono h.2 λe t k=>?_⟩
    cases e with
    |returned u=>exact⟨keep a m u,by rw[<-Act.put_comm a v u p];exact k⟩
    |panicked c=>exact(o _ _ _ k).elim
    |outgrown=>exact k
   case row row args=>exact⟨h.1,RowsIn.mono h.2 λu t k=>⟨keep a m u,by rw[<-Act.put_comm a v u p];exact k⟩⟩
   case round l f tmps assign body=>
    refine⟨h.1,RoundIn.mono h.2 λe t k=>?_⟩
    cases e with
    |returned u=>exact⟨keep a m u,by rw[<-Act.put_comm a v u p];exact k⟩
    |panicked c=>exact(o _ _ _ k).elim
    |outgrown=>exact k
  |halt x A=>
   cases x<;>simp only[Oper.uponIn]at h⊢
   case panic u=>exact(o _ _ _ h).elim
 .rename_i hw
  simp only[hw]at h;exact⟨λ_ _=>trivial,keep a m _,by rw[<-Act.put_comm a v undef p];exact h.2⟩
theorem M6(hm:MsOk ops ms)(a:ops[i]? =some o) (k:Nat):(M7 ms i).testBit k=jy o k:=by
 have hi:i<ms.length:=by rw[hm.len];exact(cM.1 a).1
 unfold M7;rw[af hi];exact hm.am i o _ a (af hi) k
theorem NZ(hm:MsOk ops ms)(f:j∈Region.ready .any ops listed)(k:Nat)(b:(M7 ms j).testBit k=true):listed.getD k false=true:=by
 obtain⟨_,o,d,a⟩:=mem_ready.1 f;rw[M6 hm d]at b;unfold jy at b;obtain⟨e,c,hb⟩:=cg.1 b;simp only[bA]at hb;have:=a e (by simpa using c) hb.2;rw[bD hb.1]at this;exact this
theorem OL(h:listed.getD k false=true):(listed.setIfInBounds j true).getD k false=true:=by
 by_cases e:j=k
 .subst e
  rw[cY]at h⊢;rcases cp j listed.size with h'|h'
  .simp[h']
  .simp[lF h']at h
 .rw[cY,eA e,<-cY]
  exact h
theorem Shut.put(hm:MsOk ops ms)(c:Shut ms listed)(d:j∈Region.ready .any ops listed):Shut ms (listed.setIfInBounds j true):=by
 intro i x hx a k b;by_cases e:j=i
 .subst e
  refine OL (NZ hm d k ?_);unfold M7;rw[hx];exact b
 .rw[cY,eA e,<-cY]at a
  exact OL (c i x hx a k b)
theorem GJ(hm:MsOk ops ms){u:Oper}(hi:ops[i]? =some u) (m:∀(j:Nat) (o:Oper),ops[j]? =some o->(∀cs b,o.op≠ .select cs b)/\(∀c,o.op≠ .defer c))
  (hQ:∀e a w,(∀c,e=.panic c->False)\/¬Q e a w):
  ∀(fuel:Nat) (L:rY) (listed:Array Bool) (a:Act) (w:World),
   (∀j q,ops[j]? =some q->j≠i->listed.getD j true=false->jy q i=false->
    (∀d,u.dst=some d->d∉q.looksAt ops)/\(∀d,u.dst=some d->q.dst≠some d)/\(∀d,q.dst=some d->d∉u.looksAt ops))->
   Shut ms listed->i∈Region.ready .any ops listed->YG P ops S u v a->S w.heap->(∀x∈L,x.2 w.heap)->
   UZ ms ro n P ops Q fuel ((i,S)::L) (listed.setIfInBounds i true) (a.put u.dst v) w->UZ ms ro n P ops Q (fuel+1) L listed a w:=by
 intro fuel;induction fuel with
 |zero=>
  intro L listed a w _ _ y O V R H;refine⟨λh=>(by rw[h]at y;cases y),λj C q f=>?_⟩
  by_cases g:j=i
  .subst g
   rw[hi]at f;cases f;exact O.wpOp hi (m _ _ hi).2 V ⟨λx hx=>R x (kG.1 hx).1,H⟩
  .have:=ready_mono C g
   rw[H.1]at this;cases this
 |succ fuel ih=>
  intro L listed a w s F y O V R H;refine⟨λh=>(by rw[h]at y;cases y),λj C q f=>?_⟩
  by_cases g:j=i
  .subst g
   rw[hi]at f;cases f;exact O.wpOp hi (m _ _ hi).2 V ⟨λx hx=>R x (kG.1 hx).1,wN _ _ _ _ _ _ (λx hx=>.inl (ay _ (kG.1 hx).1)) H⟩
  .have p:=H.2 j (ready_mono C g) q f
   obtain⟨A,X,z,J⟩:=mem_ready.1 C;rw[f]at z;cases z;have E:jy q i=false:=by
    cases hb:jy q i with
    |false=>rfl
    |true=>
     unfold jy at hb;obtain⟨e,Y,hb⟩:=cg.1 hb;simp only[bA]at hb;have p:=J e (by simpa using Y) hb.2;rw[bD hb.1]at p;have K:=(mem_ready.1 y).1;rcases cp i listed.size with h'|h'
     .simp[h']at K p;rw[K]at p;cases p
     .simp[lF h']at p
   have B:tb (CC ms (M7 ms j)) i=false:=by
    cases hb:tb (CC ms (M7 ms j)) i with
    |false=>rfl
    |true=>
     rw[B8]at hb;have p:=Un F (NZ hm C) hb;have K:=(mem_ready.1 y).1;rcases cp i listed.size with h'|h'
     .simp[h']at K p;rw[K]at p;cases p
     .simp[lF h']at p
   have N:rel ms j ((i,S)::L)=(i,S)::rel ms j L:=by simp only[rel,Cg,B,cond_false]
   rw[N]at p;have Z:=PC f (s j q f g A E) (m _ _ hi).1 (m _ _ f).1 (m _ _ f).2 hQ O p;have t:∀k ok,ops[k]? =some ok->k≠i->(listed.setIfInBounds j true).getD k true=false->jy ok i=false->
     (∀d,u.dst=some d->d∉ok.looksAt ops)/\(∀d,u.dst=some d->ok.dst≠some d)/\(∀d,ok.dst=some d->d∉u.looksAt ops):=λk ok hk T D U=>by
    refine s k ok hk T ?_ U;by_cases G:j=k
    .subst G;exact A
    .rw[getD_set_ne true G]at D;exact D
   refine wpOpIn_mono (λa' W I=>⟨λx hx=>I.2.1 x (ay _ hx),ih (rel ms j L) (listed.setIfInBounds j true) a' W t (F.put hm C) (ready_mono y (Ne.symm g)) I.1 (I.2.1 _ (al ..)) (λx hx=>I.2.1 x (ay _ hx)) ?_⟩) Z
   rw[Array.setIfInBounds_comm _ _ g];exact I.2.2
theorem sW{h:ad}{R:Prop}:∀{L:rY},tR L h R↔(∀x∈L,x.2 h)/\R
 | []=>by simp[tR]
 |(k,S)::L=>by
  simp only[tR,sW (L:=L),au,forall_eq_or_imp,and_assoc]
theorem UY{f:Nat}(b:Region.ready .any ops listed= [])(h:Q .normal a w):UZ ms ro n P ops Q f L listed a w:=by
 cases f with
 |zero=>exact⟨b,h⟩
 |succ f=>exact⟨λ_=>h,by rw[b];simp⟩
def left(ops:Array Oper)(ls:Nat):Nat:=((fq ops.size).filter λj=> !ls.testBit j).length
theorem y6(hi:i<ops.size)(g:ls.testBit i=false):left ops (cV ls (gR i))+1=left ops ls:=by
 have key:∀l:List Nat,l.Nodup->i∈l->(l.filter λj=> !(cV ls (gR i)).testBit j).length+1=(l.filter λj=> !ls.testBit j).length:=by
  intro l;induction l with
  |nil=>intro _ h;cases h
  |cons x l ih=>
   intro c hm;rw[List.nodup_cons]at c;by_cases hx:x=i
   .subst hx
    have a:(l.filter λj=> !(cV ls (gR x)).testBit j)=l.filter λj=> !ls.testBit j:=by
     apply List.filter_congr;intro y f;have:x≠y:=λe=>c.1 (e▸f)
     rw[oX,BA,decide_eq_false this,Bool.or_false]
    have b:(cV ls (gR x)).testBit x=true:=by rw[oX,BA];simp
    rw[aZ,aZ,b,g,a];rfl
   .have d:i∈l:=by rcases au.1 hm with h|h;exact absurd h.symm hx;exact h
    have b:(cV ls (gR i)).testBit x=ls.testBit x:=by rw[oX,BA,decide_eq_false (Ne.symm hx),Bool.or_false]
    have:=ih c.2 d;rw[aZ,aZ,b];cases ls.testBit x with
    |true=>exact this
    |false=>exact congrArg (· +1) this
 exact key _ List.nodup_range (List.mem_range.2 hi)
theorem Ue{a:List Oper}{d:xC}{K:cN->eu}{r:cN}{b:ad}:∀{l:DA},oo P N a ms l true ls L d K r b->∃i,i∈Ec l
 | .done,h=>h.elim
 | .take i rest,h=>by
  exfalso;have hc:oo P N a ms (.take i rest) true ls L d K r b=(match a[i]?,ms[i]? with|some _,some _=>False|_,_=>False):=rfl
  rw[hc]at h;split at h<;>exact h
 | .all _,h=>h.elim
 | .pick i _ _,_=>⟨i,al ..⟩
 | .last i _,_=>⟨i,al ..⟩
 | .lastT i _,_=>⟨i,al ..⟩
 | .split ..,h=>h.elim
def Ru(ro:Option Nat)(n:Nat)(P:Program)(ops:Array Oper)(Q:Exit->Act->World->Prop)(N:Nat)(ms:List DM)(W:eh)(f:Act)(e:World)(K:cN->eu)(c:DA):Prop:=
 ∀(m:Bool) (ls:Nat) (L:rY) (d:xC) (r:cN) (a:Act) (w:World) (listed:Array Bool) (fuel:Nat),
  oo P N ops.toList ms c m ls L d K r w.heap->Agree N r a->DecOk d r->Fr W f e a w->LsRel ops ls listed->Shut ms listed->(∀x∈L,x.2 w.heap)->
  (m=false->left ops ls<=fuel->UZ ms ro n P ops Q fuel L listed a w)/\
  (m=true->left ops ls<=fuel+1->∀i∈Ec c,i∈mN ls ms 0->∀o,ops[i]? =some o->
   wpOpIn (FW ro) n P ops Q i (λa' b=>(∀x∈rel ms i L,x.2 b.heap)/\UZ ms ro n P ops Q fuel (rel ms i L) (listed.setIfInBounds i true) a' b) a w)
theorem NS(hm:MsOk ops ms){W:eh}(hW:∀o∈ops.toList,∀d,o.dst=some d->W d){a0:Act}{w0:World}{K:cN->eu}
  (hQ:∀r a w,Agree N r a->Fr W a0 w0 a w->K r w.heap->Q .normal a w)(hnp:∀e a w,(∀c,e=.panic c->False)\/¬Q e a w)(da:DA):
  Ru ro n P ops Q N ms W a0 w0 K da:=by
 have one:∀(i:Nat) (g:DA)
   (_:Ru ro n P ops Q N ms W a0 w0 K g)
   (ls:Nat) (L:rY) (d:xC) (r:cN) (a:Act) (w:World) (listed:Array Bool) (fuel:Nat),
   Ty P N ops.toList i L d r w.heap (λL' d' D h'=>oo P N ops.toList ms g false (cV ls (gR i)) L' d' K D h')->Agree N r a->DecOk d r->Fr W a0 w0 a w->LsRel ops ls listed->Shut ms listed->
   left ops ls<=fuel+1->i∈mN ls ms 0->∀o,ops[i]? =some o->
    wpOpIn (FW ro) n P ops Q i (λa' w'=>(∀x∈rel ms i L,x.2 w'.heap)/\UZ ms ro n P ops Q fuel (rel ms i L) (listed.setIfInBounds i true) a' w') a w:=by
  intro i g V ls L d r a w listed fuel f A hd H y p B hr o s;have z:i<ops.size:=(cM.1 s).1;obtain⟨k,mm,hk,hki,J,_⟩:=(tJ ls ms 0 i).1 hr;unfold Ty at f;rw[bG,s]at f;simp only at f;cases hw:jx ops.toList d o with
  |none=>rw[hw]at f;exact f.elim
  |some b=>
   rw[hw]at f;cases b with
   |false=>exact f.elim
   |true=>
    simp only at f;cases hq:yo P o.op with
    |true=>
     rw[hq,cond_true]at f;unfold wpOpIn;rw[s];simp only[om hw A hd,if_true];obtain⟨v,S,hK,hS,_,X⟩:=D0 A f d hd;refine qX (K:=λu h'=>u=v/\h'=w.heap) (ER f) (.inl ⟨v,w,X w hS,Tame.refl w,rfl,rfl⟩) ?_
     rintro u w' ht ⟨rfl,hw'⟩;obtain⟨D,I,G,F⟩:=vm (dv:=.x) hK A hd trivial;obtain⟨hh,Y⟩:=sW.1 I;have C:o∈ops.toList:=ie (by rw[bG];exact s);have O:=y6 z J;have E:∀x∈rel ms i L,x∈pG o L:=λx hx=>yU.2 ⟨(kG.1 hx).1,by
      cases hb:jy o x.1 with
      |false=>rfl
      |true=>
        have:=(kG.1 hx).2
        rw[B8,Lj (by rw[M6 hm s];exact hb)]at this;cases this⟩
     rw[<-hw']at hh Y;exact⟨λx hx=>hh x (E x hx),wN _ _ _ _ _ _ (λx hx=>.inl (E x hx)) ((V false _ _ _ D _ w' _ fuel Y G F (H.put (hW o C) u ht) (y.put z) (p.put hm ((nF hm y).2 hr)) hh).1 rfl a4)⟩
    |false=>
     rw[hq,cond_false]at f;unfold wpOpIn;rw[s];simp only[om hw A hd,if_true];refine qX (yK f) (DI A f) ?_;intro v w' ht hK;obtain⟨D,I,G,F⟩:=vm (dv:=.x) hK A hd trivial;obtain⟨hh,Y⟩:=sW.1 I;have C:o∈ops.toList:=ie (by rw[bG];exact s);have O:=y6 z J;have E:∀x∈rel ms i L,x∈pG o L:=λx hx=>yU.2 ⟨(kG.1 hx).1,by
      cases hb:jy o x.1 with
      |false=>rfl
      |true=>
        have:=(kG.1 hx).2
        rw[B8,Lj (by rw[M6 hm s];exact hb)]at this;cases this⟩
     exact⟨λx hx=>hh x (E x hx),wN _ _ _ _ _ _ (λx hx=>.inl (E x hx)) ((V false _ _ _ D _ w' _ fuel Y G F (H.put (hW o C) v ht) (y.put z) (p.put hm ((nF hm y).2 hr)) hh).1 rfl a4)⟩
 have oneT:∀(i:Nat) (g:DA)
   (_:Ru ro n P ops Q N ms W a0 w0 K g)
   (ls:Nat) (L:rY) (d:xC) (r:cN) (a:Act) (w:World) (listed:Array Bool) (fuel:Nat),
   Sb P N ops.toList ms i L d r w.heap (λL' d' D h'=>oo P N ops.toList ms g false (cV ls (gR i)) L' d' K D h')->Agree N r a->DecOk d r->Fr W a0 w0 a w->LsRel ops ls listed->Shut ms listed->
   left ops ls<=fuel+1->i∈mN ls ms 0->∀o,ops[i]? =some o->
    wpOpIn (FW ro) n P ops Q i (λa' w'=>(∀x∈rel ms i L,x.2 w'.heap)/\UZ ms ro n P ops Q fuel (rel ms i L) (listed.setIfInBounds i true) a' w') a w:=by
  intro i g V ls L d r a w listed fuel f A hd H y p B hr o s;have z:i<ops.size:=(cM.1 s).1;obtain⟨k,mm,hk,hki,J,_⟩:=(tJ ls ms 0 i).1 hr;unfold Sb at f;rw[bG,s]at f;simp only at f;cases hw:jx ops.toList d o with
  |none=>rw[hw]at f;exact f.elim
  |some b=>
   rw[hw]at f;cases b with
   |false=>exact f.elim
   |true=>
    simp only at f;cases hq:yo P o.op with
    |true=>rw[hq]at f;exact f.elim
    |false=>
     rw[hq,cond_false]at f;unfold wpOpIn;rw[s];simp only[om hw A hd,if_true];refine qX (yK f) (DI A f) ?_;intro v w' ht hK;obtain⟨D,I,G,F⟩:=vm (dv:=.x) hK A hd trivial;obtain⟨hh,Y⟩:=sW.1 I;have C:o∈ops.toList:=ie (by rw[bG];exact s);have O:=y6 z J;exact⟨hh,(V false _ _ _ D _ w' _ fuel Y G F (H.put (hW o C) v ht) (y.put z) (p.put hm ((nF hm y).2 hr)) hh).1 rfl a4⟩
 induction da with
 |done=>
  intro m ls L d r a w listed fuel f A hd H y p T;cases m with
  |true=>exact f.elim
  |false=>
   refine⟨λ_ _=>?_,λh=>by cases h⟩
   have hc:oo P N ops.toList ms .done false ls L d K r w.heap=bif xP (mN ls ms 0) []then K r w.heap else False:=rfl;rw[hc]at f;cases hb:xP (mN ls ms 0) []with
   |false=>rw[hb]at f;exact f.elim
   |true=>
    rw[hb]at f;have hnil:Region.ready .any ops listed= []:=by
     apply List.eq_nil_iff_forall_not_mem.2;intro j R;rw[nF hm y,zT hb]at R;cases R
    exact UY hnil (hQ r a w A H f)
 |take i g V=>
  intro m ls L d r a w listed fuel f A hd H y p T;cases m with
  |true=>
   exfalso;have hc:oo P N ops.toList ms (.take i g) true ls L d K r w.heap=(match ops.toList[i]?,ms[i]? with|some _,some _=>False|_,_=>False):=rfl
   rw[hc]at f;split at f<;>exact f
  |false=>
   refine⟨λ_ B=>?_,λh=>by cases h⟩
   have hc:oo P N ops.toList ms (.take i g) false ls L d K r w.heap=(match ops.toList[i]?,ms[i]? with
    |some o,some mi=>bif G3 mi i ls ops.toList.length then
      (match jx ops.toList d o with
       |none=>False
       |some false=>Bw N o undef r λD=>oo P N ops.toList ms g false (cV ls (gR i)) L (sY d o .u) K D w.heap
       |some true=>bif yo P o.op then
          DC P none o.op r (λv S=>Bw N o v r λD=>match S with
            |none=>oo P N ops.toList ms g false (cV ls (gR i)) L (sY d o (Nm d o.op)) K D w.heap
            |some S=>oo P N ops.toList ms g false (cV ls (gR i)) ((i,S)::L) (sY d o (Nm d o.op)) K D w.heap) w.heap
          else False)
     else False
    |_,_=>False):=rfl
   rw[hc]at f;split at f
   .rename_i o mi s hmi
    rw[bG]at s;cases htk:G3 mi i ls ops.toList.length with
    |false=>rw[htk]at f;exact f.elim
    |true=>
     rw[htk,cond_true]at f;unfold G3 at htk;simp only[bA,mB,B8]at htk;obtain⟨⟨hun,hrd⟩,hfr⟩:=htk;have z:i<ops.size:=(cM.1 s).1;have q:i∈Region.ready .any ops listed:=(Kr hm y).2 ⟨mi,hmi,hun,hrd⟩;have O:=y6 (ops:=ops) z hun;obtain⟨f',rfl⟩:∃f',fuel=f'+1:=⟨fuel-1,a4⟩
     have C:o∈ops.toList:=ie (by rw[bG];exact s);have hcov:∀j,j<ops.size->ls.testBit j=true\/mi.fr.testBit j=true:=by
      intro j R;have h0:=bD hfr;have hpb:(zH (gR ops.toList.length)).testBit j=true:=by
        have:zH (gR ops.toList.length)=2^ops.toList.length-1:=rfl;rw[this,Nat.testBit_two_pow_sub_one];simpa using R
      have hand:(j5 (cV ls mi.fr) (zH (gR ops.toList.length))).testBit j=((cV ls mi.fr).testBit j&&(zH (gR ops.toList.length)).testBit j):=iz _ _ j;rw[h0,hpb,wH,oX]at hand;exact(Bool.or_eq_true_iff).1 hand.symm
     have U:∀j oj,ops[j]? =some oj->j≠i->listed.getD j true=false->jy oj i=false->
        (∀d,o.dst=some d->d∉oj.looksAt ops)/\(∀d,o.dst=some d->oj.dst≠some d)/\(∀d,oj.dst=some d->d∉o.looksAt ops):=by
      intro j oj hoj hne hju hna;have R:j<ops.size:=(cM.1 hoj).1;rw[y.unlisted R]at hju;have hjm:j<ms.length:=by rw[hm.len];exact R
      have hmj:=af hjm;rcases hcov j R with h|h
      . rw[h]at hju;cases hju
      . rcases hm.free i j mi _ hmi hmj h with h|h|h
        .exact absurd h hne
        .rw[hm.am j oj _ hoj hmj,hna]at h;cases h
        .exact W6 hm s hoj hmi hmj h
     cases hw:jx ops.toList d o with
     |none=>rw[hw]at f;exact f.elim
     |some b=>
      rw[hw]at f;have hwd:=om hw A hd;cases b with
      |false=>
        obtain⟨D,I,G,F⟩:=vm (dv:=.u) f A hd rfl;have hy:YG P ops (λ_=>True) o undef a:=.inr ⟨hwd,rfl⟩
        refine GJ hm s hm.nosel hnp f' L listed a w U p q hy trivial T ?_;refine wN _ L _ _ _ _ (λx hx=>(au.1 hx).elim (λe=>.inr λh=>by rw[e];trivial) .inl) ?_
        exact(V false _ _ _ D _ w _ f' I G F (H.put (hW o C) undef (Tame.refl w)) (y.put z) (p.put hm q) T).1 rfl a4
      |true=>
        simp only at f;cases hq:yo P o.op with
        |false=>rw[hq]at f;exact f.elim
        |true=>
         rw[hq,cond_true]at f;obtain⟨v,S,hK,hS,hdv,X⟩:=D0 A f d hd;obtain⟨D,I,G,F⟩:=vm hK A hd hdv;have hfr':=H.put (hW o C) v (Tame.refl w);cases S with
         |none=>
           have hy:YG P ops (λ_=>True) o v a:=.inl ⟨hwd,λw _=>X w trivial⟩
           refine GJ hm s hm.nosel hnp f' L listed a w U p q hy trivial T ?_;refine wN _ L _ _ _ _ (λx hx=>(au.1 hx).elim (λe=>.inr λh=>by rw[e];trivial) .inl) ?_
           exact(V false _ _ _ D _ w _ f' I G F hfr' (y.put z) (p.put hm q) T).1 rfl a4
         |some S=>
           have hy:YG P ops S o v a:=.inl ⟨hwd,λw h=>X w h⟩
           refine GJ hm s hm.nosel hnp f' L listed a w U p q hy hS T ?_;exact(V false _ _ _ D _ w _ f' I G F hfr' (y.put z) (p.put hm q) (λx hx=>(au.1 hx).elim (λe=>by rw[e];exact hS) (T x))).1 rfl a4
   .exact f.elim
 |all l V=>
  intro m ls L d r a w listed fuel f A hd H y p T;cases m with
  |true=>exact f.elim
  |false=>
   refine⟨λ_ B=>?_,λh=>by cases h⟩
   have hc:oo P N ops.toList ms (.all l) false ls L d K r w.heap=bif xP (mN ls ms 0) (Ec l)then oo P N ops.toList ms l true ls L d K r w.heap else False:=rfl;rw[hc]at f;cases hb:xP (mN ls ms 0) (Ec l)with
   |false=>rw[hb]at f;exact f.elim
   |true=>
    rw[hb,cond_true]at f;obtain⟨i,hi⟩:=Ue f;rw[<-zT hb]at hi;have hrd:=(nF hm y (j:=i)).2 hi;obtain⟨k,mm,hk,hki,J,_⟩:=(tJ ls ms 0 i).1 hi;have z:i<ops.size:=by
     have:=(bH.1 hk).1;rw[hm.len]at this;omega
    have O:=y6 (ops:=ops) z J;obtain⟨f',rfl⟩:∃f',fuel=f'+1:=⟨fuel-1,a4⟩
    refine⟨λh=>(by rw[h]at hrd;cases hrd),λj R o s=>?_⟩
    have hj':=(nF hm y).1 R;exact(V true ls L d r a w listed f' f A hd H y p T).2 rfl B j (by rw[<-zT hb];exact hj') hj' o s
 |pick i g more ih1 ih2=>
  intro m ls L d r a w listed fuel f A hd H y p T;cases m with
  |false=>exact f.elim
  |true=>
   refine⟨λh=>(by cases h),λ_ B j R Z o s=>?_⟩
   have f:Ty P N ops.toList i L d r w.heap (λL' d' D h'=>oo P N ops.toList ms g false (cV ls (gR i)) L' d' K D h')/\oo P N ops.toList ms more true ls L d K r w.heap:=f
   rcases au.1 R with rfl|R
   .exact one _ g ih1 ls L d r a w listed fuel f.1 A hd H y p B Z o s
   .exact(ih2 true ls L d r a w listed fuel f.2 A hd H y p T).2 rfl B j R Z o s
 |last i g V=>
  intro m ls L d r a w listed fuel f A hd H y p T;cases m with
  |false=>exact f.elim
  |true=>
   refine⟨λh=>(by cases h),λ_ B j R Z o s=>?_⟩
   have f:Ty P N ops.toList i L d r w.heap (λL' d' D h'=>oo P N ops.toList ms g false (cV ls (gR i)) L' d' K D h'):=f
   have hji:j=i:=av.1 R;subst hji;exact one _ g V ls L d r a w listed fuel f A hd H y p B Z o s
 |lastT i g V=>
  intro m ls L d r a w listed fuel f A hd H y p T;cases m with
  |false=>exact f.elim
  |true=>
   refine⟨λh=>(by cases h),λ_ B j R Z o s=>?_⟩
   have f:Sb P N ops.toList ms i L d r w.heap (λL' d' D h'=>oo P N ops.toList ms g false (cV ls (gR i)) L' d' K D h'):=f
   have hji:j=i:=av.1 R;subst hji;exact oneT _ g V ls L d r a w listed fuel f A hd H y p B Z o s
 |split t yes no ih1 ih2=>
  intro m ls L d r a w listed fuel f A hd H y p T;cases m with
  |true=>exact f.elim
  |false=>
   refine⟨λ_ B=>?_,λh=>by cases h⟩
   have hc:oo P N ops.toList ms (.split t yes no) false ls L d K r w.heap=(match kQ r t with
    |some (.bool b)=>fN b (oo P N ops.toList ms yes false ls L ((t,.t)::d) K ((t,.bool true)::r) w.heap) (oo P N ops.toList ms no false ls L ((t,.f)::d) K ((t,.bool false)::r) w.heap)
    |_=>False):=rfl
   rw[hc]at f;split at f
   .rename_i b hlk
    cases b with
    |true=>exact(ih1 false ls L _ _ a w listed fuel (f.yes rfl) (A.known hlk) (hd.known rfl) H y p T).1 rfl B
    |false=>exact(ih2 false ls L _ _ a w listed fuel (f.no rfl) (A.known hlk) (hd.known rfl) H y p T).1 rfl B
   .exact f.elim
end
section
variable {m N:Nat}{r:cN}{a:Act}{w:World}{c:Code}{Q:Exit->Act->World->Prop}
variable {P:Program} {ro:Option Nat} {n:Nat}
theorem KU{r:cN}:∀{l:List Nat} {r0:cN},SM r l=some r0->∀t v,kQ r0 t=some v->t∈l/\kQ r t=some v
 | [],r0,h,t,v,hv=>by cases h;cases hv
 |s::l,r0,h,t,v,hv=>by
  have h:(match kQ r s,SM r l with|some v,some l=>some ((s,v)::l)|_,_=>none)=some r0:=h
  split at h
  .rename_i u l' hu hl
   cases h;by_cases e:s=t
   .subst e;rw[iT]at hv;cases hv;exact⟨al ..,hu⟩
   .rw[gU u _ e]at hv
    have:=KU hl t v hv;exact⟨ay _ this.1,this.2⟩
  .cases h
theorem D5{m:Nat}{t:Nat}{v:Value}:∀{r:cN},kQ (y7 m r) t=some v->m.testBit t=false/\kQ r t=some v
 | [],h=>by cases h
 |(k,u)::r,h=>by
  have h:kQ (bif tb m k then y7 m r else(k,u)::y7 m r) t=some v:=h;cases hk:tb m k with
  |true=>
   rw[hk]at h;have:=D5 h;by_cases e:k=t
   .subst e;rw[B8,this.1]at hk;cases hk
   .rw[gU u _ e];exact this
  |false=>
   rw[hk]at h;have h:kQ ((k,u)::y7 m r) t=some v:=h;by_cases e:k=t
   .subst e;rw[iT]at h⊢;rw[B8]at hk;exact⟨hk,h⟩
   .rw[gU u _ e]at h⊢;exact D5 h
theorem DG{t:Nat}:∀{l:List Oper},(U4 l).testBit t=false->¬mH t l=true
 | [],_,h=>by cases h
 |o::l,hm,h=>by
  have hm:(cV (oI o) (U4 l)).testBit t=false:=hm;rw[oX,ny]at hm;have h:(match o.dst with|some d=>bif aO d t then true else mH t l|none=>mH t l)=true:=h
  cases hd:o.dst with
  |none=>rw[hd]at h;exact DG hm.2 h
  |some d=>
   rw[hd]at h;cases e:aO d t with
   |true=>have:=(zh o t).2 (by rw[hd,bD e]);rw[hm.1]at this;cases this
   |false=>simp only[e]at h;exact DG hm.2 h
theorem Ol{a b:Option Nat}(h:aaF a b=some m):∃x y,a=some x/\b=some y/\m=cV x y:=by
 cases a<;>cases b<;>cases h
 exact⟨_,_,rfl,rfl,rfl⟩
theorem U3{t:Nat}(c:Code):∀{m:Nat},Ar c=some m->m.testBit t=false->¬gv t c=true:=by
 induction c with
 |skip=>intro m _ _ h;cases h
 |region id ops dr=>intro m h hm d;cases h;exact DG hm d
 |seq a b iha ihb=>
  intro m h hm d;obtain⟨x,y,hx,e,rfl⟩:=Ol (show aaF (Ar a) (Ar b)=some m from h)
  rw[oX,ny]at hm;have d:(bif gv t a then true else gv t b)=true:=d;cases ha:gv t a with
  |true=>exact iha hx hm.1 ha
  |false=>rw[ha]at d;exact ihb e hm.2 d
 |cond c a b iha ihb=>
  intro m h hm d;obtain⟨x,y,hx,e,rfl⟩:=Ol (show aaF (Ar a) (Ar b)=some m from h)
  rw[oX,ny]at hm;have d:(bif gv t a then true else gv t b)=true:=d;cases ha:gv t a with
  |true=>exact iha hx hm.1 ha
  |false=>rw[ha]at d;exact ihb e hm.2 d
 |block id b ih=>exact λh hm=>ih h hm
 |loop b ih=>exact λh hm=>ih h hm
 |rangeFunc _ _ _ _ _ _=>intro m h;cases h
 |scope b ih=>exact λh hm=>ih h hm
 |_=>intro m _ _ h;cases h
theorem Agree.keep{d:cN}{a':Act}{f:World}(h:Agree N r a)(hm:Ar c=some m)(b:Fr (λt=>gv t c=true) a w a' f)(h':Agree N d a'):Agree N (y7 m r) a':=
 ⟨h'.size,λt v hv=>by
  obtain⟨hb,e⟩:=D5 hv
  rw[b.same t (U3 c hm hb)];exact h.look t v e⟩
theorem yQ{st:St}{f:uU (A7 st)->Prop}(h:EK st r f):∃t,G6 r st=some (nI (A7 st) t)/\f t:=by
 unfold EK at h;split at h
 .rename_i vs hv
  obtain⟨t,rfl,a⟩:=tU h;exact⟨t,hv,a⟩
 .exact h.elim
theorem Agree.zip(h:Agree N r a):∀{st:St} {vs:c5} {r0:cN},G6 r st=some vs->Agree N r0 a->Agree N (oG st vs r0) a
 | [],vs,r0,_,h0=>by cases vs<;>exact h0
 |(i,k)::st,vs,r0,hv,h0=>by
  unfold G6 at hv;split at hv
  .rename_i v vs' h1 h2
   cases hv;have:=Agree.zip h h2 h0;refine⟨this.size,λt u b=>?_⟩
   by_cases e:i=t
   .subst e
    rw[show oG ((i,k)::st) (v::vs') r0=(i,v)::oG st vs' r0 from rfl,iT]at b;cases b
    exact h.look i v h1
   .rw[show oG ((i,k)::st) (v::vs') r0=(i,v)::oG st vs' r0 from rfl,gU v _ e]at b
    exact this.look t u b
  .cases hv
theorem BX{t:Nat}:∀{l:List Oper} {o:Oper},o∈l->o.dst=some t->mH t l=true
 | [],_,h,_=>by cases h
 |x::l,o,h,hd=>by
  have e:mH t (x::l)=(match x.dst with|some d=>bif aO d t then true else mH t l|none=>mH t l):=rfl
  rw[e];rcases au.1 h with rfl|h
  .rw[hd];simp only;rw[show aO t t=true from th t];rfl
  .have:=BX h hd
   cases x.dst with
   |none=>exact this
   |some d=>
    simp only;cases aO d t with
    |true=>rfl
    |false=>exact this
def LWP(ro:Option Nat)(n:Nat)(P:Program)(c:Code)(Q:Exit->Act->World->Prop)(a:Act)(w:World):Prop:=
 ∀(b:Frame) (k:List Item) (cs:List Frame),b.roundOf=(FW ro).round->(FW ro).fn b.fn->(FW ro).room (cs.length+1+n)->
  ∃e a' w',Q e a' w'/\ArrivesIn (Machine.fenced P (FW ro)) P (lone (b.atR a (.code c:: .inLoop c::k)) cs w) b k cs e a' w'
theorem LWP.step{c:Code}{Q:Exit->Act->World->Prop}{a:Act}{w:World}(h:c.wpIn (FW ro) n P (Exit.then (LWP ro n P c Q) Q) a w):LWP ro n P c Q a w:=by
 intro b k cs i hb o;obtain⟨e,j,m,g,d⟩:=h b (.inLoop c::k) cs i hb o;cases e with
 |normal=>
  obtain⟨q,t,s,p,f⟩:=g b k cs i hb o;exact⟨q,t,s,p,.of_steps (StepsIn.trans d (.one (fenced_calm hb o rfl) stepR_inLoop)) f⟩
 |exit id=>exact⟨_,j,m,g,.pass (x:=.inLoop c) rfl (λ_ _=>.inl a7) d⟩
 |goto l=>exact⟨_,j,m,g,.pass (x:=.inLoop c) rfl (λ_ _=>.inl a7) d⟩
 |ret=>exact⟨_,j,m,g,.pass (x:=.inLoop c) rfl (λ_ _=>.inl a7) d⟩
 |panic ch=>exact⟨_,j,m,g,.pass (x:=.inLoop c) rfl (λ_ _=>.inl a7) d⟩
 |outgrown=>exact⟨_,j,m,g,.pass (x:=.inLoop c) rfl (λ_ _=>.inl a7) d⟩
theorem LWP.loop(h:LWP ro n P c Q a w):(Code.loop c).wpIn (FW ro) n P Q a w:=by
 intro b k cs f hb g;obtain⟨e,a',i,j,d⟩:=h b k cs f hb g;exact⟨e,a',i,j,.of_steps (.one (fenced_calm hb g rfl) stepR_loop) d⟩
theorem Lf(r:cN):DecOk [] r:=λ_=>.inl rfl
theorem Yh(ops:Array Oper)(ls:Nat):left ops ls<=ops.size:=by
 unfold left;exact Nat.le_trans (List.length_filter_le ..) a7
theorem mL(f:P.follows .mixedOrders=true){id:Nat}{ops:Array Oper}{g:Bool}{p:Ann}{K:cN->eu}
  (b:DQ P N ops.toList g p K r w.heap)(i:Agree N r a)(u:∀c a w,¬Q (.panic c) a w)
  (m:∀r' a' w',Agree N r' a'->Fr (λt=>mH t ops.toList=true) a w a' w'->K r' w'.heap->Q .normal a' w'):(Code.region id ops g).wpIn (FW ro) n P Q a w:=by
 have k:∀o∈ops.toList,∀d,o.dst=some d->mH d ops.toList=true:=λo s d hd=>BX s hd
 cases g with
 |false=>
  have key:∀ek,Hc P N ek ops.toList ops.toList [] K r w.heap->(Code.region id ops false).wpIn (FW ro) n P Q a w:=λek b=>by
   refine wpIn_region ?_;rw[List.range_eq_range',show ops.size=ops.toList.length from rfl]
   exact Hb k m ops.toList 0 rfl [] r a w b i (Lf r) (Fr.refl _ a w)
  unfold DQ at b;simp only at b;split at b
  .exact key _ b
  .exact key _ b
 |true=>
  unfold DQ at b;simp only at b;generalize SB ops.toList=ms at b;cases hm:Gu ops.toList ms with
  |false=>rw[hm]at b;exact b.elim
  |true=>
   rw[hm,cond_true]at b;refine wpIn_region_any f (RL (ms:=ms) _ [] _ _ _ ?_);have ht:Tame w {w with drawn:=w.drawn+1}:=⟨rfl,rfl,rfl⟩;have q:Fr (λt=>mH t ops.toList=true) a w a {w with drawn:=w.drawn+1}:=⟨ht,rfl,λ_ _=>rfl⟩
   refine(NS (Qx hm) k m (λe a w=>?_) _ false 0 [] [] r a {w with drawn:=w.drawn+1} _ ops.size b i (Lf r) q LsRel.start (λj x _ h=>by rw[(LsRel.start (ops:=ops)).bit,fy]at h;cases h) (λx hx=>by cases hx)).1 rfl (Yh ops 0)
   cases e with
   |panic ch=>exact .inr (u _ a w)
   |_=>exact .inl λc hc=>by cases hc
theorem GH(t:Nat)(x y:Code):gv t (.seq x y)=(bif gv t x then true else gv t y):=rfl
theorem EF(t:Nat)(c:Operand)(x y:Code):gv t (.cond c x y)=(bif gv t x then true else gv t y):=rfl
theorem M0{a b:Bool}:(bif a then true else b)=true↔a=true\/b=true:=by cases a<;>cases b<;>decide
theorem uV(z:P.follows .mixedOrders=true)(c:Code):∀(E:Ann) (Kn:cN->eu) (Kx:Ex->cN->eu) (r:cN) (a:Act) (w:World) (Q:Exit->Act->World->Prop),
  lI P N c E Kn Kx r w.heap->Agree N r a->(∀R a w,¬Q (.panic R) a w)->
  (∀j a' g,Agree N j a'->Fr (λt=>gv t c=true) a w a' g->Kn j g.heap->Q .normal a' g)->
  (∀i j a' g,Agree N j a'->Fr (λt=>gv t c=true) a w a' g->Kx (.exit i) j g.heap->Q (.exit i) a' g)->
  (∀j a' g,Agree N j a'->Fr (λt=>gv t c=true) a w a' g->Kx .ret j g.heap->Q .ret a' g)->
  c.wpIn (FW ro) n P Q a w:=by
 induction c with
 |skip=>
  intro E Kn Kx r a w Q o u _ A _ _;exact wpIn_skip (A r a w u (Fr.refl ..) o)
 |region id ops dr=>
  intro E Kn Kx r a w Q o u C A _ _;cases E with
  |reg keep inner=>
   have o:DQ P N ops.toList dr inner (λj h'=>match SM j keep with|some r0=>Kn r0 h'|none=>False) r w.heap:=o
   refine mL z o u C λj a' g S W hk=>?_
   split at hk
   .rename_i r0 hr0
    refine A r0 a' g ⟨S.size,λt v hv=>S.look t v (KU hr0 t v hv).2⟩ W hk
   .exact hk.elim
  |nil=>exact mL z (show DQ P N ops.toList dr (.nil) Kn r w.heap from o) u C A
  |node x y=>exact mL z (show DQ P N ops.toList dr (.node x y) Kn r w.heap from o) u C A
  |join st x y=>exact mL z (show DQ P N ops.toList dr (.join st x y) Kn r w.heap from o) u C A
  |loop st y=>exact mL z (show DQ P N ops.toList dr (.loop st y) Kn r w.heap from o) u C A
  |draw d=>exact mL z (show DQ P N ops.toList dr (.draw d) Kn r w.heap from o) u C A
  |kinds k v=>exact mL z (show DQ P N ops.toList dr (.kinds k v) Kn r w.heap from o) u C A
  |rf ks x y=>exact mL z (show DQ P N ops.toList dr (.rf ks x y) Kn r w.heap from o) u C A
 |seq x y ihx ihy=>
  intro E Kn Kx r a w Q o u C A hx H;have F:∀{a' g},Fr (λt=>gv t x=true) a w a' g->Fr (λt=>gv t (.seq x y)=true) a w a' g:=λh=>h.mono λt ht=>by rw[GH,M0];exact .inl ht
  have D:∀{a' g I K},Fr (λt=>gv t x=true) a w a' g->Fr (λt=>gv t y=true) a' g I K->Fr (λt=>gv t (.seq x y)=true) a w I K:=
   λh k=>(F h).trans (k.mono λt ht=>by rw[GH,M0];exact .inr ht)
  have plain:∀U O,lI P N x U (λj h'=>lI P N y O Kn Kx j h') Kx r w.heap->(Code.seq x y).wpIn (FW ro) n P Q a w:=λU O o=>by
   refine wpIn_seq (ihx U _ Kx r a w _ o u (λR a w=>C R a w) ?_ (λi j a' g s q p=>hx i j a' g s (F q) p) (λj a' g s q p=>H j a' g s (F q) p))
   intro r1 V X G B L;exact ihy O Kn Kx r1 V X Q L G C (λj a' g s q p=>A j a' g s (D B q) p) (λi j a' g s q p=>hx i j a' g s (D B q) p) (λj a' g s q p=>H j a' g s (D B q) p)
  cases E with
  |join st U O=>
   have o:(match Ar x with
      |none=>False
      |some m=>Join (T:=uU (A7 st)) (λt h'=>lI P N y O Kn Kx (oG st (nI (A7 st) t) (y7 m r)) h')
       λJ=>lI P N x U (λj h'=>EK st j λt=>J t h') Kx r w.heap):=o
   split at o
   .exact o.elim
   .rename_i m hm
    refine wpIn_seq (ihx U _ Kx r a w _ o.run u (λR a w=>C R a w) ?_ (λi j a' g s q p=>hx i j a' g s (F q) p) (λj a' g s q p=>H j a' g s (F q) p))
    intro r1 V X G B L;obtain⟨t,hst,hs2⟩:=yQ L;have ha2:Agree N (oG st (nI (A7 st) t) (y7 m r)) V:=G.zip hst (u.keep hm B G);exact ihy O Kn Kx _ V X Q hs2 ha2 C (λj a' g s q p=>A j a' g s (D B q) p) (λi j a' g s q p=>hx i j a' g s (D B q) p) (λj a' g s q p=>H j a' g s (D B q) p)
  |_=>exact plain _ _ o
 |cond c x y ihx ihy=>
  intro E Kn Kx r a w Q o u C A hx H;have o:(match cU r c with
   |some (.bool t)=>fN t (lI P N x E.l Kn Kx r w.heap) (lI P N y E.r Kn Kx r w.heap)
   |_=>False):=o
  have F:∀{a' g},Fr (λt=>gv t x=true) a w a' g->Fr (λt=>gv t (.cond c x y)=true) a w a' g:=λh=>h.mono λt ht=>by rw[EF,M0];exact .inl ht
  have D:∀{a' g},Fr (λt=>gv t y=true) a w a' g->Fr (λt=>gv t (.cond c x y)=true) a w a' g:=λh=>h.mono λt ht=>by rw[EF,M0];exact .inr ht
  split at o
  .rename_i t ht
   refine wpIn_cond_split (kR u ht) (λe=>?_) (λe=>?_)
   .exact ihx _ Kn Kx r a w Q (o.yes e) u C (λj a' g s q p=>A j a' g s (F q) p) (λi j a' g s q p=>hx i j a' g s (F q) p) (λj a' g s q p=>H j a' g s (F q) p)
   .exact ihy _ Kn Kx r a w Q (o.no e) u C (λj a' g s q p=>A j a' g s (D q) p) (λi j a' g s q p=>hx i j a' g s (D q) p) (λj a' g s q p=>H j a' g s (D q) p)
  .exact o.elim
 |block id b ih=>
  intro E Kn Kx r a w Q o u C A hx H;refine wpIn_block (ih E Kn _ r a w _ o u (λR a w=>C R a w) A (λi j a' g s q p=>?_) H)
  simp only[Exit.inBlock]at p⊢;cases hi:aO i id with
  |true=>
   rw[hi,cond_true]at p;rw[if_pos (bD hi)];exact A j a' g s q p
  |false=>
   rw[hi,cond_false]at p;rw[if_neg (λe=>by rw[e,th]at hi;cases hi)]
   exact hx i j a' g s q p
 |loop b ih=>
  intro E Kn Kx r a w Q o u C A hx H;cases E with
  |loop st O=>
   have o:(match Ar b with
      |none=>False
      |some m=>EK st r λt0=>LoopP (T:=uU (A7 st)) (λY t h'=>lI P N b O (λj h''=>EK st j λt'=>Y t' h'') Kx (oG st (nI (A7 st) t) (y7 m r)) h') t0 w.heap):=o
   split at o
   .exact o.elim
   .rename_i m hm
    obtain⟨t0,hst0,hl⟩:=yQ o;have h0:=hl.run (λt h'=>∀a' g,g.heap=h'->Agree N (oG st (nI (A7 st) t) (y7 m r)) a'->Fr (λt=>gv t b=true) a w a' g->LWP ro n P b Q a' g) (λt h' hF a' g hw S W=>by
     subst hw
     refine LWP.step (ih O _ Kx _ a' g _ hF S (λR a w=>C R a w) ?_ (λi j I K s q p=>hx i j I K s (W.trans q) p) (λj I K s q p=>H j I K s (W.trans q) p))
     intro r1 V X G B L
     obtain⟨t1,Z,hk1⟩:=yQ L
     exact hk1 V X rfl (G.zip Z (u.keep hm (W.trans B) G)) (W.trans B))
    exact LWP.loop (h0 a w rfl (u.zip hst0 (u.keep hm (Fr.refl _ a w) u)) (Fr.refl _ a w))
  |_=>exact o.elim
 |rangeFunc f params assign body _ _=>intro E Kn Kx r a w Q o;exact o.elim
 |exit id=>
  intro E Kn Kx r a w Q o u C A hx H;exact wpIn_exit (hx id r a w u (Fr.refl ..) o)
 |scope b _=>intro E Kn Kx r a w Q o;exact o.elim
 |label l=>
  intro E Kn Kx r a w Q o u C A hx H;exact wpIn_label (A r a w u (Fr.refl ..) o)
 |goto l=>intro E Kn Kx r a w Q o;exact o.elim
 |ret=>
  intro E Kn Kx r a w Q o u C A hx H;exact wpIn_ret (H r a w u (Fr.refl ..) o)
 |refuse why=>intro E Kn Kx r a w Q o;exact o.elim
end
section
variable {fn:Func}{c:Code}{args:c5}{ks:List Kind}{f:FuncId}{e:Ann}{h:ad}{N:Nat}
variable {P:Program}
theorem qO{N:Nat}{r:cN}{a:Act}{w:World}(c:Agree N r a):∀{l:List ResultVar} {K:c5->Prop},oH P r w.heap l K->
  ∃vs,(∀g:ResultVar->Sem Value,(∀t,g (.tmp t)=pure (a.tmps.getD t undef))->(∀x t,g (.cell x t)=do loadVar t (<-asAddr (a.tmps.getD x undef)))->(l.mapM g).run P w=.ok vs w)/\K vs
 | [],K,h=>⟨[],λg _ _=>by rw[List.mapM_nil];rfl,h⟩
 | .tmp t::l,K,h=>by
  unfold oH at h;split at h
  .rename_i v hv
   obtain⟨vs,i,f⟩:=qO c h;refine⟨v::vs,λg d e=>?_,f⟩
   rw[List.mapM_cons,d];simp only[bj,bX,aD];rw[i g d e];simp only[aD,c.look t v hv]
  .exact h.elim
 | .cell x t::l,K,h=>by
  unfold oH at h;split at h
  .rename_i v hv
   obtain⟨u,S,m,n,k⟩:=ES h;obtain⟨vs,i,f⟩:=qO c m;refine⟨u::vs,λg d e=>?_,f⟩
   rw[List.mapM_cons,e];have j:(do loadVar t (<-asAddr (a.tmps.getD x undef)):Sem Value).run P w=.ok u w:=by
    rw[c.look x v hv];unfold N4 at h;cases v with
    |pointer p=>cases p with
     |none=>exact h.elim
     |some b=>exact k w n
    |_=>exact h.elim
   simp only[bj]at j⊢;rw[j];simp only[aD];rw[i g d e];simp only[bX,aD]
  .exact h.elim
theorem Kq(ks:List Kind)(t:uU ks):(if h:(nI ks t).toArray.size=1 then(nI ks t).toArray[0]else Value.tuple (nI ks t).toArray)=DY ks (nI ks t):=by
 match ks,t with
 | [],t=>rfl
 | [k],t=>rfl
 |k::l::ks,(x,t)=>
  have:(nI (k::l::ks) (x,t)).length=(k::l::ks).length:=vl _ _;rw[dif_neg (by simp only[cW,this,ar];omega)];rfl
theorem xU:∀(vs:c5) (i t:Nat) (v:Value),kQ (qQ i vs) t=some v->i<=t/\vs[t-i]? =some v
 | [],i,t,v,h=>by cases h
 |u::vs,i,t,v,h=>by
  by_cases e:i=t
  .subst e
   rw[show qQ i (u::vs)=(i,u)::qQ (i+1) vs from rfl,iT]at h
   cases h;exact⟨Nat.le_refl _,a7⟩
  .rw[show qQ i (u::vs)=(i,u)::qQ (i+1) vs from rfl,gU u _ e]at h
   obtain⟨b,a⟩:=xU vs (i+1) t v h;refine⟨a4,?_⟩;rw[show t-i=(t-(i+1))+1 by omega,List.getElem?_cons_succ]
   exact a
theorem S4(f:P.follows .mixedOrders=true){n:Nat}{o:Ann}{K:uU ks->eu}{w:World}(p:args.length<=fn.ntmps)(x:Hd P fn c o args ks K w.heap):
  c.wpIn (FW none) n P (bodyPost P fn λe b=>Tame w b/\∃t:uU ks,e=.returned (DY ks (nI ks t))/\K t b.heap) {tmps:=args.toArray++oO (fn.ntmps-args.toArray.size) undef,defers:= []} w:=by
 have q:Agree fn.ntmps (qQ 0 args) {tmps:=args.toArray++oO (fn.ntmps-args.toArray.size) undef,defers:= []}:=by
  refine⟨a9,λt v hv=>?_⟩
  obtain⟨_,j⟩:=xU args 0 t v hv;simp only[dP]at j;have d:=(bH.1 j).1;simp[Array.getElem?_append,d];rw[af d]at j;cases j;rfl
 have fin:∀m a' (b:World),Agree fn.ntmps m a'->Fr (λt=>gv t c=true) {tmps:=args.toArray++oO (fn.ntmps-args.toArray.size) undef,defers:= []} w a' b->
   oH P m b.heap fn.results.toList (λvs=>F3 ks vs λt=>K t b.heap)->
   a'.defers= []/\∃v,(results fn a'.tmps).run P b=.ok v b/\(Tame w b/\∃t:uU ks,Ending.returned v=.returned (DY ks (nI ks t))/\K t b.heap):=λm a' b k g s=>by
  obtain⟨vs,i,hd⟩:=qO k s;obtain⟨t,rfl,u⟩:=tU hd;refine⟨g.defers,_,?_,g.tame,t,rfl,u⟩;unfold results;rw[nY];simp only[bj,Sem.run_map];rw[i _ (λ_=>rfl) (λ_ _=>rfl)]
  simp only[aD,bX];rw[<-Kq]
 exact uV f c o _ _ _ _ w _ x q (λy a w h=>h.2.2.elim λ_ h=>by cases h.1) fin (λ_ _ _ _ _ _ h=>h.elim) fin
theorem HE.intro(b:P.follows .mixedOrders=true){K:uU ks->eu}
  (g:P.funcs[f]? =some fn) (hb:fn.body=some c) (a:∀(args:Array Value) (w:World),(callFunc f args).run P w=.ok (.enter f args) w) (d:args.length<=fn.ntmps)
  (j:Hd P fn c e args ks K h):HE P f args ks K h:=by
 refine⟨λw i=>⟨a,?_⟩⟩
 subst i;exact(callsIn_wide (n:=0)).1 (callsIn_of_wp (F:=FW none) g hb trivial (S4 b d j) rfl)
theorem HD.intro(b:P.follows .mixedOrders=true){g:Ann}{K:eu}
  (j:P.funcs[f]? =some fn) (hb:fn.body=some c) (a:∀(args:Array Value) (w:World),(callFunc f args).run P w=.ok (.enter f args) w) (d:args.length<=fn.ntmps)
  (o:Hd P fn c g args ks (λ_ h'=>K h') h):HD P f args K h:=by
 refineλw m=>⟨a,λn=>?_⟩
 subst m;exact(callsDIn_of_wp (F:=FW none) j hb trivial (S4 b d o) rfl).mono λe u q ⟨p,ht,t,i,k⟩=>⟨p,ht,⟨_,i⟩,k⟩
theorem HC.intro(b:P.follows .mixedOrders=true){K:uU ks->eu}
 (g:P.funcs[f]? =some fn) (hb:fn.body=some c) (a:∀(args:Array Value) (w:World),(callFunc f args).run P w=.ok (.enter f args) w) (d:args.length<=fn.ntmps)
 (i:Hd P fn c e args ks K h):HC P f args ks K h:=(HE.intro b g hb a d i).hc
theorem Rf(c:args.length<=N):Agree N (qQ 0 args) {tmps:=args.toArray++oO (N-args.toArray.size) undef,defers:= []}:=by
 refine⟨a9,λt v hv=>?_⟩
 obtain⟨_,b⟩:=xU args 0 t v hv;simp only[dP]at b;have a:=(bH.1 b).1;simp[Array.getElem?_append,a];rw[af a]at b;cases b;rfl
theorem NY{K:uU ks->eu}{d:cN}{a':Act}{a:World}(c:Agree N d a')(e:oH P d a.heap fn.results.toList (λvs=>F3 ks vs λt=>K t a.heap)):
  ∃t:uU ks,(results fn a'.tmps).run P a=.ok (DY ks (nI ks t)) a/\K t a.heap:=by
 obtain⟨vs,b,hd⟩:=qO c e;obtain⟨t,rfl,f⟩:=tU hd;refine⟨t,?_,f⟩;unfold results;rw[nY];simp only[bj,Sem.run_map];rw[b _ (λ_=>rfl) (λ_ _=>rfl)]
 simp only[aD,bX];rw[<-Kq]
end
section
variable {n N:Nat}{ks:List Kind}{r:cN}{a:Act}{w:World}{Q:Exit->Act->World->Prop}{f:FuncId}{fn:Func}{c:Code}{args:c5}{h:ad}
variable {P:Program}
abbrev HB(D:Nat):Deferred:={target:=.collected D,args:= #[]}
abbrev qt:Mk->Deferred
 | .it D=>HB D
 | .call f vs=>{target:=.fn (.func f) #[],args:= #[]++vs.toArray}
theorem Im{N:Nat}:∀{ps:List Nat} {vs:c5} {r:cN} {tmps:Array Value},Bm N ps=true->Agree N r {tmps:=tmps,defers:= []}->
  Agree N (Xx ps vs r) {tmps:=(ps.zip vs).foldl (λt x=>t.setIfInBounds x.1 x.2) tmps,defers:= []}
 | [],vs,r,tmps,_,h=>by cases vs<;>exact h
 |i::ps,[],r,tmps,_,h=>h
 |i::ps,v::vs,r,tmps,a,h=>by
  have a:(Ac i N&&Bm N ps)=true:=a;rw[bA]at a;have b:i<N:=by simpa using a.1
  have:=h.put i v b;exact Im (tmps:=tmps.setIfInBounds i v) a.2 this
theorem GY(w:World)(o:Obj):Tame w (w.alloc o):=⟨rfl,rfl,rfl⟩
theorem pi(w:World)(b:Nat)(o:Obj):Tame w (w.putObj b o):=⟨rfl,rfl,rfl⟩
theorem N9(w:World)(b:Nat)(o:Obj):(w.putObj b o).heap=w.heap.setIfInBounds b o:=rfl
theorem Tb(ps:Array Nat)(vs:c5)(t:Array Value):(ps.zip vs.toArray).foldl (λt (x:Nat×Value)=>t.setIfInBounds x.1 x.2) t=(ps.toList.zip vs).foldl (λt x=>t.setIfInBounds x.1 x.2) t:=by
 obtain⟨l⟩:=ps;simp
theorem FT(B:P.follows .mixedOrders=true){g:Operand}{ps:Array Tmp}{assign body:Code}{aa ab:Ann}{fv:Value}
  {KN:eu}{KX:Nat->eu}{KR:eu}(hps:Bm N ps.toList=true)(L:ps.toList.length=ks.length)(hg:cU r g=some fv)(ha:Agree N r a)
  (hR:RangeP P fv ks w.heap (λKs bz x k h'=>P2 P N ps.toList ks assign body (.node aa ab) r (w.heap.size+1) Ks bz x k h') KN KX KR)
  (hn:∀m,Tame w m->KN m.heap->Q .normal {a with defers:=HB w.heap.size::a.defers} m)
  (hx:∀i m,Tame w m->KX i m.heap->Q (.exit i) {a with defers:=HB w.heap.size::a.defers} m)
  (hr:∀m,Tame w m->KR m.heap->Q .ret {a with defers:=HB w.heap.size::a.defers} m):(Code.rangeFunc g ps assign body).wpIn (FW none) n P Q a w:=by
 refine wpIn_rangeFunc λfn _=>?_
 obtain⟨lo,p⟩:∃lo:LoopState->Option Ex->Obj,lo=λs j=>.loop {state:=s,pending:=MK j,fn,tmps:=a.tmps,params:=ps,assign,body,defers:=w.heap.size}:=⟨_,rfl⟩
 have hj:∀j:Option Ex,(MK j).isNone=j.isNone:=λj=>by rcases j with _|⟨_|_⟩<;>rfl
 obtain⟨f,first,cap,rfl,he⟩:=hR.run lo (λs j=>⟨_,by rw[p]⟩) (λx h' K u A=>by
  refine⟨.inr ⟨_,rfl,⟨λH T=>?_⟩⟩⟩
  subst T
  rw[p]at u
  have hy:=run_yield (P:=P) (args:=(nI ks x).toArray) u (by simp only[cW,vl];rw[<-L];rfl)
  refine⟨_,_,_,_,hy,λc cs=>?_⟩
  have hA:Agree N (Xx ps.toList (nI ks x) r) {tmps:=(ps.zip (nI ks x).toArray).foldl (λt (x:Nat×Value)=>t.setIfInBounds x.1 x.2) a.tmps,defers:= []}:=by
   rw[Tb]
   exact Im hps ⟨ha.size,ha.look⟩
  have q:∀j:Option Ex,∀W:World,Tame H W->(W.heap[w.heap.size+1]? =some (lo .busy none)/\K j.isNone (W.heap.setIfInBounds (w.heap.size+1) (lo (if j.isNone then .ready else .done) j)))->
    ∃v m,(Instr.endRound (w.heap.size+1) (MK j)).run P W=.ok v m/\∃b,Ending.returned v=.returned (.bool b)/\Tame H m/\K b m.heap:=by
   rintro j W ht ⟨h1,S⟩
   rw[p]at h1
   have:=run_endRound (P:=P) (MK j) h1
   refine⟨_,_,this,_,rfl,ht.trans (pi ..),?_⟩
   rw[p]at S
   rw[hj]
   exact S
  have:=roundIn_of_wpIn (F:=FW none) (n:=0) (P:=P) (l:=w.heap.size+1) (f:=fn) (assign:=assign) (body:=body) (w:=H)
   (tmps:=(ps.zip (nI ks x).toArray).foldl (λt (x:Nat×Value)=>t.setIfInBounds x.1 x.2) a.tmps)
   (R:=λe m=>∃b,e=.returned (.bool b)/\Tame H m/\K b m.heap) trivial (by
    refine uV (ro:=some (w.heap.size+1)) B assign aa _ _ _ _ H _ A hA (λch a w h=>h) ?_ (λi r' a' m _ _ h=>h.elim) (λr' a' m _ _ h=>h.elim)
    rintro r2 a2 X U D ⟨y,E⟩
    rw[p]at y
    refine⟨_,run_beginRound y rfl,?_⟩
    have hb:∀o,o=lo .busy none->X.heap.setIfInBounds (w.heap.size+1) o=X.heap.setIfInBounds (w.heap.size+1) (lo .busy none):=λo V=>by rw[V]
    refine uV (ro:=some (w.heap.size+1)) B body ab (λ_ S=>_) (λe _ S=>_) _ _ (X.putObj (w.heap.size+1) _) _ (by
     rw[N9,hb _ (by rw[p])];exact E) U (λch a w h=>h) ?_ ?_ ?_
    .rintro r3 a3 J I z O
     exact q none J ((D.tame.trans (pi ..)).trans z.tame) O
    .rintro i r3 a3 J I z O
     exact q (some (.exit i)) J ((D.tame.trans (pi ..)).trans z.tame) O
    .rintro r3 a3 J I z O
     exact q (some .ret) J ((D.tame.trans (pi ..)).trans z.tame) O)
  obtain⟨e,m,⟨b,rfl,ht,hK⟩,hs⟩:=this.2 c cs (λd h=>by simp[FW]at h)
  exact⟨b,m,ht,hK,hs.steps⟩)
 have C:=he.run ((w.alloc (.deferred (some []))).alloc (lo .ready none)) rfl;refine⟨w.heap.size+1,[HB w.heap.size],(w.alloc (.deferred (some []))).alloc (lo .ready none),{target:=.fn (.func f) cap,args:=first++ #[.func (.yield (w.heap.size+1)) #[] #[]]},(w.alloc (.deferred (some []))).alloc (lo .ready none),f,
  first++ #[.func (.yield (w.heap.size+1)) #[] #[]]++cap,(w.alloc (.deferred (some []))).alloc (lo .ready none),?_,?_,λ_ _=>trivial,?_,λh=>by simp[FW]at h,?_⟩
 .rw[p];exact run_enterLoop_outer fn a.tmps ps assign body
 .have Y:=kR ha hg
  simp[resolve,Y,Deferred.ofValue,bX];rfl
 .simp[invoke,C.1]
 .refine Ig ?_
  have e:(first.toList++ [Value.func (.yield (w.heap.size+1)) #[] #[]]++cap.toList).toArray=first++ #[.func (.yield (w.heap.size+1)) #[] #[]]++cap:=by apply cO;simp
  rw[<-e];refine C.2.mono ?_;rintro e m ⟨ht,t,rfl,s,j,hs,u,q⟩;have Z:Tame w m:=((GY w _).trans (GY _ _)).trans ht;rw[p]at u;refine⟨_,_,run_endLoop u hs,?_⟩;have G:∀o,Tame w (m.putObj (w.heap.size+1) o):=λo=>Z.trans (pi ..)
  have hb:∀o,o=lo .exhausted j->(m.putObj (w.heap.size+1) o).heap=m.heap.setIfInBounds (w.heap.size+1) (lo .exhausted j):=λo V=>by rw[V];rfl
  rcases j with _|⟨i|_⟩
  .exact hn _ (G _) (by rw[hb _ (by rw[p])];exact q)
  .exact wpIn_exit (hx i _ (G _) (by rw[hb _ (by rw[p])];exact q))
  .exact wpIn_ret (hr _ (G _) (by rw[hb _ (by rw[p])];exact q))
theorem H6{id d:Nat}{ops:Array Oper}{m o:Oper}{x:Operand}{as:List Operand}{vs:c5}{v:Value}(b:H7 ops.toList=some (m,o,x,d,f,as))(hv:cU r x=some v)(hb:d<N)(g:oT ((d,v)::r) as=some vs)(i:Agree N r a)
  (s:∀a',Agree N ((d,v)::r) a'->a'.defers=qt (.call f vs)::a.defers->Q .normal a' w):(Code.region id ops false).wpIn (FW none) n P Q a w:=by
 unfold H7 at b;split at b
 .rename_i m' o' hl
  split at b
  .rename_i x' d' c h1 h2 h3 h4 h5 h6
   split at b
   .rename_i f' hc
    cases b;have k:ops[0]? =some m:=by rw[<-bG,hl];rfl
    have u:ops[1]? =some o:=by rw[<-bG,hl];rfl
    have es:ops.size=2:=by rw[<-Array.length_toList,hl];rfl
    have p:∀y,Region.wanted m y=true:=λy=>by simp[Region.wanted,h2]
    have j:∀y,Region.wanted o y=true:=λy=>by simp[Region.wanted,h6]
    refine wpIn_region ?_;rw[es,show fq 2= [0,1]from rfl]
    simp only[wpOpsIn,k,u,p,j,if_true];refine BigFrame.wpIn_move x h1 ?_;rw[kR i hv,h3];have e:=i.put d v hb;refine⟨λ_ _=>trivial,?_⟩
    have t:((Oper.semAt (FW none).round (a.put (some d) v).eval o).run P w)=.ok (.defer (qt (.call f vs))) w:=by
     show((execOp (a.put (some d) v).eval o).run P w)=_
     have q:=nD e g;have f1:c.args.map (a.put (some d) v).eval=vs.toArray:=by rw[<-q];apply cO;simp
     simp only[execOp,h4,resolve,hc,f1];simp[Act.eval,Deferred.ofValue,qt]
    rw[t,Oper.uponIn_defer,h5];exact s _ ⟨e.size,e.look⟩ rfl
   .cases b
  .cases b
 .cases b
theorem Md(H:P.follows .mixedOrders=true)(c:Code):∀(u:Ann) (Kn:List Mk->cN->eu) (Kx:Ex->List Mk->cN->eu) (ms:List Mk) (r:cN) (a:Act) (w:World) (Q:Exit->Act->World->Prop),
  Bc P N c u Kn Kx ms r w.heap->Agree N r a->a.defers=ms.map qt->(∀I a w,¬Q (.panic I) a w)->
  (∀p s a' q,Agree N s a'->a'.defers=p.map qt->Tame w q->Kn p s q.heap->Q .normal a' q)->
  (∀i p s a' q,Agree N s a'->a'.defers=p.map qt->Tame w q->Kx (.exit i) p s q.heap->Q (.exit i) a' q)->
  (∀p s a' q,Agree N s a'->a'.defers=p.map qt->Tame w q->Kx .ret p s q.heap->Q .ret a' q)->
  c.wpIn (FW none) n P Q a w:=by
 have plain:∀(c:Code) (u:Ann) (Kn:List Mk->cN->eu) (Kx:Ex->List Mk->cN->eu) (ms:List Mk) (r:cN) (a:Act) (w:World) (Q:Exit->Act->World->Prop),
  lI P N c u (Kn ms) (λe=>Kx e ms) r w.heap->Agree N r a->a.defers=ms.map qt->(∀I a w,¬Q (.panic I) a w)->
  (∀p s a' q,Agree N s a'->a'.defers=p.map qt->Tame w q->Kn p s q.heap->Q .normal a' q)->
  (∀i p s a' q,Agree N s a'->a'.defers=p.map qt->Tame w q->Kx (.exit i) p s q.heap->Q (.exit i) a' q)->
  (∀p s a' q,Agree N s a'->a'.defers=p.map qt->Tame w q->Kx .ret p s q.heap->Q .ret a' q)->
  c.wpIn (FW none) n P Q a w:=by
  intro c u Kn Kx ms r a w Q j z hd D B hx C;exact uV H c u _ _ r a w Q j z D (λs a' q F A E=>B ms s a' q F (A.defers.trans hd) A.tame E) (λi s a' q F A E=>hx i ms s a' q F (A.defers.trans hd) A.tame E)
   (λs a' q F A E=>C ms s a' q F (A.defers.trans hd) A.tame E)
 induction c with
 |skip=>intro u Kn Kx ms r a w Q j;exact plain _ u Kn Kx ms r a w Q j
 |region id ops dr=>
  intro u Kn Kx ms r a w Q j z hd D B hx C;have j:(match H7 ops.toList with
   |none=>lI P N (.region id ops dr) u (Kn ms) (λe=>Kx e ms) r w.heap
   |some (_,_,x,d,f,as)=>bif dr then False else match cU r x with
    |some v=>bif Ac d N then(match oT ((d,v)::r) as with|some vs=>Kn (.call f vs::ms) ((d,v)::r) w.heap|none=>False)else False
    |none=>False):=j
  split at j
  .exact plain _ u Kn Kx ms r a w Q j z hd D B hx C
  .rename_i m o x d f as he
   cases dr with
   |true=>exact j.elim
   |false=>
    rw[cond_false]at j;split at j
    . rename_i v hv
      cases hb:Ac d N with
      |false=>rw[hb]at j;exact j.elim
      |true=>
       rw[hb,cond_true]at j;split at j
       .rename_i vs hvs
        refine H6 he hv (by simpa using hb) hvs z λa' U R=>B (.call f vs::ms) _ a' w U ?_ ⟨rfl,rfl,rfl⟩ j
        rw[R,hd];rfl
       .exact j.elim
    . exact j.elim
 |seq x y ihx ihy=>
  intro u Kn Kx ms r a w Q j z hd D B hx C;have j:(bif (bif tS x then true else tS y)then Bc P N x u.l (λms s h'=>Bc P N y u.r Kn Kx ms s h') Kx ms r w.heap
   else lI P N (.seq x y) u (Kn ms) (λe=>Kx e ms) r w.heap):=j
  cases hb:(bif tS x then true else tS y)with
  |false=>rw[hb]at j;exact plain _ _ _ _ _ _ _ _ _ j z hd D B hx C
  |true=>
   rw[hb,cond_true]at j;refine wpIn_seq (ihx u.l _ Kx ms r a w _ j z hd (λI a w=>D I a w) ?_ hx C)
   intro S Y Z X L O J T;exact ihy u.r Kn Kx S Y Z X Q T L O D (λp s a' q F A E G=>B p s a' q F A (J.trans E) G) (λi p s a' q F A E G=>hx i p s a' q F A (J.trans E) G)
    (λp s a' q F A E G=>C p s a' q F A (J.trans E) G)
 |cond c x y ihx ihy=>
  intro u Kn Kx ms r a w Q j z hd D B hx C;have j:(bif (bif tS x then true else tS y)then
    (match cU r c with
     |some (.bool t)=>fN t (Bc P N x u.l Kn Kx ms r w.heap) (Bc P N y u.r Kn Kx ms r w.heap)
     |_=>False)
   else lI P N (.cond c x y) u (Kn ms) (λe=>Kx e ms) r w.heap):=j
  cases hb:(bif tS x then true else tS y)with
  |false=>rw[hb]at j;exact plain _ _ _ _ _ _ _ _ _ j z hd D B hx C
  |true=>
   rw[hb,cond_true]at j;split at j
   .rename_i t ht
    exact wpIn_cond_split (kR z ht) (λe=>ihx _ Kn Kx ms r a w Q (j.yes e) z hd D B hx C) (λe=>ihy _ Kn Kx ms r a w Q (j.no e) z hd D B hx C)
   .exact j.elim
 |block id b ih=>
  intro u Kn Kx ms r a w Q j z hd D B hx C;have j:(bif tS b then Bc P N b u Kn (λe ms s h'=>match e with
    | .exit i=>bif aO i id then Kn ms s h' else Kx (.exit i) ms s h'
    | .ret=>Kx .ret ms s h') ms r w.heap
   else lI P N (.block id b) u (Kn ms) (λe=>Kx e ms) r w.heap):=j
  cases hb:tS b with
  |false=>rw[hb]at j;exact plain _ _ _ _ _ _ _ _ _ j z hd D B hx C
  |true=>
   rw[hb,cond_true]at j;refine wpIn_block (ih u Kn _ ms r a w _ j z hd (λI a w=>D I a w) B (λi p s a' q F A E G=>?_) C)
   simp only[Exit.inBlock]at G⊢;cases hi:aO i id with
   |true=>
    rw[hi,cond_true]at G;rw[if_pos (bD hi)];exact B p s a' q F A E G
   |false=>
    rw[hi,cond_false]at G;rw[if_neg (λe=>by rw[e,th]at hi;cases hi)]
    exact hx i p s a' q F A E G
 |loop b ih=>intro u Kn Kx ms r a w Q j;exact plain _ u Kn Kx ms r a w Q j
 |rangeFunc g ps assign body _ _=>
  intro u Kn Kx ms r a w Q j z hd D B hx C;cases u with
  |rf ks aa ab=>
   have j:(bif Bm N ps.toList&&aO ps.toList.length ks.length then
    (match cU r g with
     |some fv=>RangeP P fv ks w.heap (λKs bz x k h'=>P2 P N ps.toList ks assign body (.node aa ab) r (w.heap.size+1) Ks bz x k h')
       (λh'=>Kn (.it w.heap.size::ms) r h') (λi h'=>Kx (.exit i) (.it w.heap.size::ms) r h') (λh'=>Kx .ret (.it w.heap.size::ms) r h')
     |none=>False)else False):=j
   cases hb:(Bm N ps.toList&&aO ps.toList.length ks.length)with
   |false=>rw[hb]at j;exact j.elim
   |true=>
    rw[hb,cond_true]at j;rw[bA]at hb;split at j
    . rename_i fv hfv
      have V:Agree N r {a with defers:=HB w.heap.size::a.defers}:=⟨z.size,z.look⟩;have W:({a with defers:=HB w.heap.size::a.defers}:Act).defers=(.it w.heap.size::ms).map qt:=by rw[List.map_cons,<-hd]
      exact FT H hb.1 (bD hb.2) hfv z j (λq ht K=>B _ r _ q V W ht K) (λi q ht K=>hx i _ r _ q V W ht K) (λq ht K=>C _ r _ q V W ht K)
    . exact j.elim
  |_=>exact j.elim
 |exit id=>intro u Kn Kx ms r a w Q j;exact plain _ u Kn Kx ms r a w Q j
 |scope b _=>intro u Kn Kx ms r a w Q j;exact j.elim
 |label l=>intro u Kn Kx ms r a w Q j;exact plain _ u Kn Kx ms r a w Q j
 |goto l=>intro u Kn Kx ms r a w Q j;exact j.elim
 |ret=>intro u Kn Kx ms r a w Q j;exact plain _ u Kn Kx ms r a w Q j
 |refuse why=>intro u Kn Kx ms r a w Q j;exact j.elim
theorem xH{fn:Func}{ks:List Kind}{K:uU ks->eu}{N:Nat}{n:Nat}{r:cN}{a:Act}{i:World}(d:Agree N r a):∀(ms:List Mk) (w:World),Tame i w->
  NR P ms (λh'=>oH P r h' fn.results.toList λvs=>F3 ks vs λt=>K t h') w.heap->
  LeavesInM (FW none) n P fn a.tmps (λe c=>Tame i c/\∃t:uU ks,e=.returned (DY ks (nI ks t))/\K t c.heap) (ms.map qt) .returning w
 | [],w,ht,h=>by
  obtain⟨t,b,m⟩:=NY d h;exact⟨_,b,ht,t,rfl,m⟩
 | .it D::ms,w,ht,h=>by
  refine⟨a7,.inl ⟨D,_,rfl,run_takeDeferred h.1,?_⟩⟩;exact xH d ms (w.putObj D (.deferred none)) (ht.trans (pi ..)) h.2
 | .call f vs::ms,w,ht,h=>by
  obtain⟨hc,hd⟩:=h w rfl;refine⟨a7,.inr ⟨(λe=>by cases e),.func f,#[],f,vs.toArray,rfl,?_,λ_ _=>trivial,CallsDIn.mono (hd (n-1)) λe u c ⟨o,g,⟨v,j⟩,k⟩=>?_⟩⟩
  .have:=hc vs.toArray w
   simpa[invoke]using this
  .subst o j
   exact xH d ms c (ht.trans g) k
theorem HE.introM(m:P.follows .mixedOrders=true){s:Ann}{K:uU ks->eu}
  (u:P.funcs[f]? =some fn) (hb:fn.body=some c) (g:∀(args:Array Value) (w:World),(callFunc f args).run P w=.ok (.enter f args) w) (o:args.length<=fn.ntmps)
  (x:P3 P fn c s args ks K h):HE P f args ks K h:=by
 refine⟨λw v=>⟨g,?_⟩⟩
 subst v;refine(callsIn_wide (n:=0)).1 (callsIn_of_wp_marks (F:=FW none) u hb trivial ?_ rfl);refine wpIn_mono (Q:=λe a b=>(∀q,e≠ .panic q)/\bodyPostM (FW none) 0 P fn (λe b=>Tame w b/\∃t:uU ks,e=.returned (DY ks (nI ks t))/\K t b.heap) e a b) ?_ λe a w h=>h.2
 refine Md m c s _ _ [] _ _ w _ x (Rf o) rfl (λq a w h=>h.1 q rfl) ?_ (λ_ _ _ _ _ _ _ _ h=>h.elim) ?_
 .intro j y a' b d i k p
  refine⟨(λ_ e=>by cases e),?_⟩
  show LeavesInM _ _ _ _ _ _ a'.defers _ _
  rw[i];exact xH d j b k p
 .intro j y a' b d i k p
  refine⟨(λ_ e=>by cases e),?_⟩
  show LeavesInM _ _ _ _ _ _ a'.defers _ _
  rw[i];exact xH d j b k p
theorem HC.introM(b:P.follows .mixedOrders=true){e:Ann}{K:uU ks->eu}
 (g:P.funcs[f]? =some fn) (hb:fn.body=some c) (a:∀(args:Array Value) (w:World),(callFunc f args).run P w=.ok (.enter f args) w) (d:args.length<=fn.ntmps)
 (i:P3 P fn c e args ks K h):HC P f args ks K h:=(HE.introM b g hb a d i).hc
end
section
variable {P:Program}{f:FuncId}{args vs:c5}{ks:List Kind}{h h':ad}{T α:Type}{a:Addr}{v:Value}{b i sz:Nat}{c:Array Value}{e t:TypeId}{fr:Nat×Nat}{M M' W:eh}{o:Obj}{s:f9}
def AppP(z:Option c5)(sz a:Nat)(t:TypeId)(base:aT)(sl c b:Nat)(xs:c5)(h:ad)(K:f9->eu):Prop:=
 (sl+b<=c->qR h base (sl*sz) xs/\cA xs=true/\K ⟨base,sl+b,c⟩ (fe h base (sl*sz) xs))/\
 (c<sl+b->∃old z',SRow h base (sl*sz) old/\z=some z'/\0<a/\Builtin.nextslicecap (sl+b) c*a<=2^48/\
  ∀nc,sl+b<=nc->K ⟨some (aH h),sl+b,nc⟩ (hnew h (old++xs++dg (nc-(sl+b)) z') t))
def NextP(a:Addr)(h:ad)(Kend:Prop)(Kstep:MapEntry->eu):Prop:=
 a.off=0/\∃m since seen last,h[a.block]? =some (.mapIter m since seen last)/\
  ((m=none/\Kend)\/
   (∃r es clock,m=some r/\h[r]? =some (.map es clock)/\(seen.isEmpty=true\/es.isEmpty=true\/es.all (λe=>decide (e.born>=last))=false)/\
    ((∀e∈es.toList,e.born<since->seen.contains e.born=true)->Kend)/\
    (∀e∈es.toList,seen.contains e.born=false->Kstep e (h.setIfInBounds a.block (.mapIter (some r) since (seen.push e.born) clock)))))
def YZ(c:CK)(m:Option Nat)(k:Value)(h:ad)(K:eu):Prop:=
 (m=none/\K h)\/∃r:Nat,m=some r/\vq c h r/\K (rk h r k)
attribute [simp] aw ag
theorem aq{p:Prop}[Decidable p]{t e:Prop}(a:p->t)(b:¬p->e):fN (decide p) t e:=ez (λh=>a (of_decide_eq_true h)) (λh=>b (of_decide_eq_false h))
theorem HC.mono{K g:uU ks->eu}(hc:HC P f args ks K h)(c:∀t h',K t h'->g t h'):HC P f args ks g h:=by
 refine⟨λw m=>?_⟩
 rcases hc.run w m with⟨a,b⟩|⟨v,d,a,b,t,k,i⟩
 .exact .inl ⟨a,b.mono λe d ⟨ht,t,j,n⟩=>⟨ht,t,j,c t _ n⟩⟩
 .exact .inr ⟨v,d,a,b,t,k,c t _ i⟩
theorem Join.intro{a:T->eu}{k:(T->eu)->Prop}(J:T->eu)(b:∀R:T->ad->Prop,(∀t h,J t h->R t h)->k R)(c:∀t h,J t h->a t h):Join a k:=⟨b a c⟩
abbrev eM:=@Join.intro
theorem Join.plain{a:T->eu}{k:(T->eu)->Prop}(h:k a):Join a k:=⟨h⟩
abbrev fo:=@Join.plain
theorem LoopP.intro{T:Type}{F:(T->eu)->T->eu}{t:T}{h:ad}(Inv:T->eu)(m:T->ad->Nat)(f:Inv t h)
  (step:∀I:T->ad->Prop,∀t h,Inv t h->(∀a h',Inv a h'->m a h'<m t h->I a h')->F I t h):LoopP F t h:=by
 refine⟨λI e=>?_⟩
 have key:∀n t h,m t h=n->Inv t h->I t h:=by
  intro n;induction n using Nat.strongRecOn with
  |_ n ih=>exact λt h d hi=>e t h (step I t h hi λa h' c b=>ih _ (d▸b) a h' rfl c)
 exact key _ t h rfl f
theorem LoopP.ghost{G:Type}{F:(T->eu)->T->eu}{t:T}(Inv:G->T->eu)(m:G->Nat)(g:G)(i:Inv g t h)
  (step:∀I:T->ad->Prop,∀g t h,Inv g t h->(∀a b h',Inv a b h'->m a<m g->I b h')->F I t h):LoopP F t h:=by
 refine⟨λI f=>?_⟩
 have key:∀n g t h,m g=n->Inv g t h->I t h:=by
  intro n;induction n using Nat.strongRecOn with
  |_ n ih=>exact λg t h e hi=>f t h (step I g t h hi λa b h' d c=>ih _ (e▸c) a b h' rfl d)
 exact key _ g t h rfl i
abbrev eF:=@LoopP.ghost
theorem HV.mk'{first cap:Array Value}{K:uU ks->eu}(hc:HC P f (first.toList++args++cap.toList) ks K h):HV P (.func (.func f) first cap) args ks K h:=
 ⟨.inl ⟨f,first,cap,rfl,hc⟩⟩
@[simp] theorem co(b o n:Nat):adr ⟨b,o,none⟩ n=⟨b,o+n,none⟩:=by
 cases n<;>rfl
@[simp] theorem Ek(a:Addr)(n:Nat):(adr a n).block=a.block:=by
 cases n<;>rfl
theorem cD(h:ad):aH h=⟨h.size,0,none⟩:=rfl
theorem OJ(hv:aI h a=some v):a.block<h.size:=by
 unfold aI at hv;rcases cp a.block h.size with b|b
 .exact b
 .rw[Array.getElem?_eq_none b]at hv;cases hv
theorem ba(hb:h[b]? =some (.cells c e fr)):aI h ⟨b,i,none⟩=c[i]?:=by
 unfold aI;rw[hb];rfl
theorem kY(hb:h'[h.size]? =some (.cells c e fr)) (i:Nat):aI h' (adr (aH h) i)=c[i]?:=by
 rw[cD,co,ba hb,aU]
theorem QR(hb:h'[a.block]? =h[a.block]?):aI h' a=aI h a:=by
 unfold aI;rw[hb]
theorem kH(hb:h[b]? =some (.cells c e fr)):
  hset h ⟨b,i,none⟩ v=h.setIfInBounds b (.cells (c.setIfInBounds i v) e fr):=by
 unfold hset;apply ph;intro j;rw[mo,dY];by_cases d:b=j
 .subst d
  have a:=(cM.1 hb).1;simp only[hb,if_true,a,Option.map_some];rfl
 .simp[d]
theorem eH(hb:h[b]? =some (.cells c e (0,0))) (hi:i<c.size):Wr h ⟨b,i,none⟩:=by
 refine⟨⟨c[i],by rw[ba hb,Array.getElem?_eq_getElem hi]⟩,?_⟩
 unfold Gx;rw[hb];simp
structure Upd(M:eh)(h h':ad):Prop where
 size:h.size<=h'.size
 same:∀b,b<h.size->¬M b->h'[b]? =h[b]?
abbrev No:Nat->Prop:=λ_=>False
theorem Upd.refl(M:eh)(h:ad):Upd M h h:=⟨aj _,λ_ _ _=>rfl⟩
abbrev eQ:=@Upd.refl
theorem Upd.trans{c e:ad}(k:Upd M h c)(l:Upd M' c e)(f:∀b,M' b->M b\/h.size<=b):Upd M h e:=
 ⟨Nat.le_trans k.size l.size,λb hb d=>by
  rw[l.same b (aA hb k.size) (λhm=>(f b hm).elim d λa=>absurd hb (df.2 a)),k.same b hb d]⟩
theorem Upd.tr{a b:ad}(k:Upd M h a)(l:Upd M a b):Upd M h b:=k.trans l λ_ h=>.inl h
theorem Upd.mono(k:Upd M h h')(d:∀b,M b->M' b\/h.size<=b):Upd M' h h':=
 ⟨k.size,λb hb c=>k.same b hb λhm=>(d b hm).elim c λa=>absurd hb (df.2 a)⟩
theorem Upd.wide(k:Upd No h h'):Upd M h h':=k.mono λ_ h=>h.elim
theorem Upd.get(k:Upd M h h')(a:h[b]? =some o) (c:¬M b):h'[b]? =some o:=by
 rw[k.same b (cM.1 a).1 c,a]
theorem Upd.get0(k:Upd No h h')(a:h[b]? =some o):h'[b]? =some o:=k.get a id
theorem Upd.cell(k:Upd M h h')(hv:aI h a=some v)(b:¬M a.block):aI h' a=some v:=by
 rw[QR (k.same _ (OJ hv) b),hv]
theorem Upd.cell0(k:Upd No h h')(hv:aI h a=some v):aI h' a=some v:=k.cell hv id
theorem Upd.push(M:eh)(h:ad)(o:Obj):Upd M h (h.push o):=⟨a7,λb hb _=>by rw[Array.getElem?_push];simp[Nat.ne_of_lt hb]⟩
theorem Upd.set(h:ad)(o:Obj)(hb:M b):Upd M h (h.setIfInBounds b o):=⟨a7,λc _ a=>by
 rw[dY]
 have:b≠c:=λe=>a (e▸hb)
 simp[this]⟩
theorem Upd.hset{M:eh}(h:ad){a:Addr}(v:Value)(hb:M a.block):Upd M h (hset h a v):=⟨by simp[Go.Lift.hset],λc _ b=>by
 unfold Go.Lift.hset
 rw[mo]
 have:a.block≠c:=λe=>b (e▸hb)
 simp[this]⟩
theorem Upd.hnew(M:eh)(h:ad)(cs:c5)(t:TypeId):Upd M h (hnew h cs t):=Upd.push M h _
abbrev fD:=@Upd.hnew
theorem bV(h:ad)(cs:c5)(t:TypeId):(hnew h cs t)[h.size]? =some (.cells cs.toArray t (0,0)):=by
 unfold hnew;simp
theorem mO(h:ad)(o:Obj):(h.push o)[h.size]? =some o:=a7
theorem dA(h:ad)(cs:c5)(t:TypeId):(hnew h cs t).size=h.size+1:=by
 unfold hnew;simp
theorem dE{a:Obj}(hb:h[b]? =some a):(h.setIfInBounds b o)[b]? =some o:=by
 rw[dY];simp[(cM.1 hb).1]
theorem bw(hb:h[b]? =some o):b<h.size:=(cM.1 hb).1
theorem Row.upd(c:Row h a vs)(k:Upd M h h')(b:¬M a.block):Row h' a vs:=λi v hv=>k.cell (c i v hv) (by rw[Ek];exact b)
theorem SRow.upd{a:aT}{n:Nat}(c:SRow h a n vs)(k:Upd M h h')(e:vs≠[]->∀b,a=some b->¬M b.block):SRow h' a n vs:=by
 obtain⟨d,f⟩:=c;refine⟨d,?_⟩;rcases f with rfl|⟨b,hb,c⟩
 .exact .inl rfl
 .by_cases hv:vs= []
  .exact .inl hv
  .exact .inr ⟨b,hb,c.upd k (e hv b hb)⟩
theorem qN{o:Nat}(hb:h[b]? =some (.cells c e fr))  (hv:∀i v,vs[i]? =some v->c[o+i]? =some v):Row h ⟨b,o,none⟩ vs:=λi v hi=>by
 rw[co,ba hb];exact hv i v hi
structure Sl{α:Type}(f:α->c5)(sz:Nat)(W:eh)(h:ad)(s:f9)(xs:List α):Prop where
 len:s.len=xs.length
 ne:∀x,(f x).length=sz/\0<sz
 row:xs≠[]->∃a,s.a=some a/\¬W a.block/\Row h a (xs.flatMap f)
theorem Sl.nil{f:α->c5}{a:aT}{c:Nat}(b:∀x,(f x).length=sz/\0<sz):Sl f sz W h ⟨a,0,c⟩ []:=⟨rfl,b,λh=>absurd rfl h⟩
theorem Sl.lt{f:α->c5}{xs:List α}(d:Sl f sz W h s xs)(hx:xs≠[])(e:s.a=some a):a.block<h.size:=by
 obtain⟨a',b,i,g⟩:=d.row hx;rw[e]at b;cases b;cases xs with
 |nil=>exact absurd rfl hx
 |cons x xs=>
  have c:=d.ne x;cases hf:f x with
  |nil=>rw[hf]at c;simp at c;omega
  |cons v vs=>
   have:=g 0 v (by rw[aN,hf];rfl);have:=OJ this;rw[Ek]at this;exact this
theorem Sl.upd{f:α->c5}{xs:List α}(c:Sl f sz W h s xs)(k:Upd M h h')(hm:∀b,M b->W b\/h.size<=b):Sl f sz W h' s xs:=by
 refine⟨c.len,c.ne,λhx=>?_⟩
 obtain⟨a,e,g,i⟩:=c.row hx;exact⟨a,e,g,i.upd k λhb=>(hm _ hb).elim g λd=>absurd (c.lt hx e) (df.2 d)⟩
theorem Sl.less{f:α->c5}{W':eh}{xs:List α}(c:Sl f sz W h s xs)(hm:∀b,W' b->W b\/h.size<=b):Sl f sz W' h s xs:=
 ⟨c.len,c.ne,λhx=>let⟨a,e,i,g⟩:=c.row hx;⟨a,e,λhb=>(hm _ hb).elim i λd=>absurd (c.lt hx e) (df.2 d),g⟩⟩
theorem gZ{α:Type}{f:α->c5}{sz:Nat}(a:∀x,(f x).length=sz):∀xs:List α,(xs.flatMap f).length=xs.length*sz
 | []=>a7
 |x::xs=>by rw[aN,ae,a,gZ a xs,ar,ll];omega
theorem vh{α:Type}{f:α->c5}{sz:Nat}(a:∀x,(f x).length=sz):∀(xs:List α) (i j:Nat) (x:α),xs[i]? =some x->j<sz->(xs.flatMap f)[i*sz+j]? =(f x)[j]?
 | [],i,j,x,h,_=>by simp at h
 |y::xs,0,j,x,h,hj=>by
  simp only[List.getElem?_cons_zero,bI.injEq]at h;subst h;rw[aN,Nat.zero_mul,aU,bR (by rw[a];exact hj)]
 |y::xs,i+1,j,x,h,hj=>by
  rw[List.getElem?_cons_succ]at h;rw[aN,bB (by rw[a,ll];omega),a,show(i+1)*sz+j-sz=i*sz+j by rw[ll];omega]
  exact vh a xs i j x h hj
theorem Sl.at{α:Type}{f:α->c5}{sz:Nat}{W:eh}{h:ad}{s:f9}{xs:List α}(b:Sl f sz W h s xs){i:Nat}{x:α}(hi:xs[i]? =some x):
  ∃a,s.a=some a/\¬W a.block/\∀j v,(f x)[j]? =some v->aI h (adr (adr a (i*sz)) j)=some v:=by
 obtain⟨a,c,g,d⟩:=b.row (λe=>by subst e;simp at hi)
 refine⟨a,c,g,λj v hv=>?_⟩
 have k:j<sz:=by rw[<-(b.ne x).1];exact(bH.1 hv).1
 rw[oJ];exact d _ v (by rw[vh (λx=>(b.ne x).1) xs i j x hi k];exact hv)
theorem Sl.at0{g:α->Value}{xs:List α}(c:Sl (λx=> [g x]) 1 W h s xs){x:α}(hi:xs[i]? =some x):
  ∃a,s.a=some a/\¬W a.block/\aI h (adr a (i*1))=some (g x):=by
 obtain⟨a,e,b,d⟩:=c.at hi;exact⟨a,e,b,d 0 _ rfl⟩
theorem Sl.srow{f:α->c5}{xs:List α}(b:Sl f sz W h s xs):SRow h s.a (s.len*sz) (xs.flatMap f):=by
 refine⟨?_,?_⟩
 .rw[b.len,gZ λx=>(b.ne x).1]
 .by_cases hx:xs= []
  .subst hx;exact .inl rfl
  .obtain⟨a,c,_,d⟩:=b.row hx
   exact .inr ⟨a,c,d⟩
theorem Sl.sub{f:α->c5}{xs:List α}(b:Sl f sz W h s xs){l hi m c:Nat}(q:l<=hi)(d:hi<=xs.length)(p:hi<=m):
  Sl f sz W h ⟨aW s.a l m sz,hi-l,c⟩ ((xs.drop l).take (hi-l)):=by
 refine⟨by simp only[aY,bo];omega,b.ne,λhx=>?_⟩
 have k:l<hi:=by
  rcases cp l hi with h|h
  .exact h
  .rw[Nat.sub_eq_zero_of_le h]at hx;exact absurd List.take_zero hx
 obtain⟨a,j,o,n⟩:=b.row (λe=>by rw[e]at d;simp at d;omega)
 refine⟨adr a (l*sz),?_,by rw[Ek];exact o,λi v hv=>?_⟩
 .unfold aW
  rw[if_neg a4,j];rfl
 .rw[oJ]
  refine n _ v ?_;have e:xs=xs.take l++((xs.drop l).take (hi-l)++(xs.drop l).drop (hi-l)):=by rw[bK,bK]
  rw[e,bU,bU];have g:((xs.take l).flatMap f).length=l*sz:=by rw[gZ λx=>(b.ne x).1,aY];congr 1;omega
  rw[bB a4,g,Nat.add_sub_cancel_left,bR (bH.1 hv).1];exact hv
structure OwnS{α:Type}(f:α->c5)(sz:Nat)(t:TypeId)(M:eh)(h:ad)(s:f9)(xs:List α):Prop where
 len:s.len=xs.length
 ne:∀x,(f x).length=sz/\0<sz
 cap:s.len<=s.cap
 blk:s.cap=0\/∃b rest,s.a=some ⟨b,0,none⟩/\M b/\h[b]? =some (.cells (xs.flatMap f++rest).toArray t (0,0))/\rest.length=(s.cap-s.len)*sz
theorem OwnS.nil{f:α->c5}{a:aT}(b:∀x,(f x).length=sz/\0<sz):OwnS f sz t M h ⟨a,0,0⟩ []:=⟨rfl,b,aj _,.inl rfl⟩
theorem OwnS.sl{f:α->c5}{xs:List α}(a:OwnS f sz t M h s xs)(hm:∀b,M b->b<h.size->¬W b):Sl f sz W h s xs:=by
 refine⟨a.len,a.ne,λhx=>?_⟩
 rcases a.blk with e|⟨b,c,d,hb,hc,_⟩
 .have:=a.len;have:=a.cap
  have:xs.length=0:=a4
  exact absurd (aJ.1 this) hx
 .exact⟨_,d,hm b hb (bw hc),qN hc λi v hv=>by
   rw[aU,dD,bR (bH.1 hv).1];exact hv⟩
theorem OwnS.upd{f:α->c5}{xs:List α}(c:OwnS f sz t M h s xs)(k:Upd M' h h')(hm:∀b,M b->¬M' b):OwnS f sz t M h' s xs:=by
 refine⟨c.len,c.ne,c.cap,c.blk.imp id λ⟨b,a,d,hb,hc,e⟩=>⟨b,a,d,hb,k.get hc (hm b hb),e⟩⟩
theorem OwnS.more{f:α->c5}{xs:List α}(c:OwnS f sz t M h s xs)(hm:∀b,M b->M' b):OwnS f sz t M' h s xs:=by
 refine⟨c.len,c.ne,c.cap,c.blk.imp id λ⟨b,a,d,hb,hc,e⟩=>⟨b,a,d,hm b hb,hc,e⟩⟩
theorem OwnS.within{f:α->c5}{xs:List α}(c:OwnS f sz t M h s xs):OwnS f sz t (λb=>M b/\b<h.size) h s xs:=by
 refine⟨c.len,c.ne,c.cap,c.blk.imp id λ⟨b,a,d,hb,hc,e⟩=>⟨b,a,d,⟨hb,bw hc⟩,hc,e⟩⟩
theorem ik{b:Nat}{t:TypeId}:∀(vs:c5) (h:ad) (i o:Nat) (c:c5),h[b]? =some (.cells c.toArray t (0,0))->o+i+vs.length<=c.length->
  fu h ⟨b,o,none⟩ i vs=h.setIfInBounds b (.cells (c.take (o+i)++vs++c.drop (o+i+vs.length)).toArray t (0,0))
 | [],h,i,o,c,hb,hl=>by
  simp only[fu,List.append_nil,bC,fV,bK];apply ph;intro j;rw[dY];split
  .rename_i e;subst e;rw[hb];simp[bw hb]
  .rfl
 |v::vs,h,i,o,c,hb,hl=>by
  rw[ar]at hl;simp only[fu];rw[co,kH hb];have a:(h.setIfInBounds b (.cells (c.toArray.setIfInBounds (o+i) v) t (0,0)))[b]? =some (.cells (c.set (o+i) v).toArray t (0,0)):=by
   rw[dE hb];simp
  rw[ik vs _ (i+1) o (c.set (o+i) v) a a9];have e:∀(x y:Obj),(h.setIfInBounds b x).setIfInBounds b y=h.setIfInBounds b y:=λx y=>by
   apply ph;intro j;simp only[dY,Array.size_setIfInBounds];split<;>rfl
  rw[e];congr 3
  apply List.ext_getElem?;intro j;simp only[List.getElem?_append,ae,aY,List.length_set,ar,List.getElem?_take,List.getElem?_set,List.getElem?_drop];grind
theorem lH(n:Nat)(z:c5):(dg n z).length=n*z.length:=by
 unfold dg;induction n with
 |zero=>simp
 |succ n ih=>rw[List.replicate_succ,List.flatten_cons,ae,ih,ll];omega
theorem AppP.own{f:α->c5}{d:Nat}{base:aT}{sl J:Nat}{xs ys:List α}{k z:c5}{K:f9->eu}
  (m:OwnS f sz t M h ⟨base,sl,i⟩ xs)(g:J=ys.length)(I:k=ys.flatMap f)(v:cA k=true)(P:z.length=sz)(hb:0<d)(p:(xs.length+ys.length)*d<=140737488355328)(hM:M h.size)
  (G:∀s' h',OwnS f sz t M h' s' (xs++ys)->Upd M h h'->K s' h'):AppP (some z) sz d t base sl i J k h K:=by
 have c:sl=xs.length:=m.len;have s:∀x,(f x).length=sz:=λx=>(m.ne x).1
 subst g I;have u:=gZ s ys;have g:=gZ s xs;refine⟨λq=>?_,λo=>?_⟩
 .rcases m.blk with D|⟨b,a,E,w,hc,y⟩
  .have D:i=0:=D
   have A:ys.length=0:=a4
   have C:xs.length=0:=a4
   have R:=aJ.1 A;have hx:=aJ.1 C;subst R hx;refine⟨.inl rfl,rfl,?_⟩;have e:fe h base (sl*sz) (([]:List α).flatMap f)=h:=by cases base<;>rfl
   rw[e];exact G _ _ ⟨by simp[c],m.ne,by simp only[bC];omega,.inl D⟩ (eQ _ _)
  .have E:base=some ⟨b,0,none⟩:=E
   have y:a.length=(i-sl)*sz:=y;subst E;have L:sl+ys.length<=i:=q;have O:ys.length*sz<=a.length:=by rw[y];exact Nat.mul_le_mul_right _ (Nat.le_sub_of_add_le (show ys.length+sl<=i by omega))
   have n:0+sl*sz+(ys.flatMap f).length<=(xs.flatMap f++a).length:=by
    rw[ae,g,u,c];omega
   refine⟨.inr ⟨_,rfl,λj S=>?_⟩,v,?_⟩
   .rw[co]
    refine eH hc ?_;rw[cW];omega
   .have e:fe h (some ⟨b,0,none⟩) (sl*sz) (ys.flatMap f)=_:=ik (ys.flatMap f) h (sl*sz) 0 _ hc n
    rw[e];have H:(xs.flatMap f++a).take (0+sl*sz)=xs.flatMap f:=by
     rw[aU,c,<-g,eX (aj _),List.take_length]
    have F:(xs.flatMap f++a).drop (0+sl*sz+(ys.flatMap f).length)=a.drop (ys.length*sz):=by
     rw[aU,c,<-g,List.drop_append,lx a4,cX,u];congr 1;omega
    rw[H,F];refine G _ _ ⟨by simp[c],m.ne,q,.inr ⟨b,a.drop (ys.length*sz),rfl,w,?_,?_⟩⟩ (Upd.set h _ w)
    .rw[dE hc,bU]
    .rw[bo,y]
     simp only;rw[show i-(sl+ys.length)=(i-sl)-ys.length by omega,Nat.sub_mul (i-sl)]
 .have Q:i*1<=i:=by omega
  refine⟨xs.flatMap f,z,?_,rfl,hb,Go.growslice_fits o (by rw[c];exact p),λN B=>?_⟩
  .exact(m.sl (W:=No) λ_ _ _=>id).srow
  .refine G _ _ ⟨by simp[c],m.ne,B,.inr ⟨h.size,dg (N-(sl+ys.length)) z,rfl,hM,?_,?_⟩⟩ (fD M h _ _)
   .rw[bV,bU]
   .rw[lH,P]
end
section
variable {h:ad}{k:eu}{b o m n p q r:Nat}{c vs:c5}{t:TypeId}
theorem bF(a:k h):At h k:=a
theorem jG{l sz:Nat}(h:m≠l):aW (some ⟨b,o,none⟩) l m sz=some ⟨b,o+l*sz,none⟩:=by simp[aW,h,co]
theorem sub_zero{sz:Nat}:aW (some ⟨b,0,none⟩) 0 m sz=some ⟨b,0,none⟩:=by
 unfold aW;split
 .rfl
 .simp[co]
theorem lO{a:aT}(d:SRow h a n vs)(g:cA vs=true)(hb:h[b]? =some (.cells c.toArray t (0,0)))
  (m:o+n<=c.length) (f:∀h',h'[b]? =some (.cells (c.take o++vs++c.drop (o+n)).toArray t (0,0))->Upd (· =b) h h'->k h'):
  ∃xs,SRow h a n xs/\qR h (some ⟨b,o,none⟩) 0 xs/\cA xs=true/\At (fe h (some ⟨b,o,none⟩) 0 xs) k:=by
 have i:=d.1;refine⟨vs,d,.inr ⟨_,rfl,λj p=>?_⟩,g,bF ?_⟩
 .rw[co];exact eH hb (by rw[cW];omega)
 .have e:fe h (some ⟨b,o,none⟩) 0 vs=_:=ik vs h 0 o c hb a4
  rw[e];refine f _ ?_ (Upd.set h _ rfl);rw[dE hb,fV,i]
theorem l4(hb:h[b]? =some (.cells c.toArray t (0,0))) (a:vs.length=n) (d:(c.drop o).take n=vs):SRow h (some ⟨b,o,none⟩) n vs:=by
 refine⟨a,.inr ⟨_,rfl,qN hb λi v hv=>?_⟩⟩
 rw[dD,<-List.getElem?_drop];have:((c.drop o).take n)[i]? =some v:=by rw[d];exact hv
 rw[List.getElem?_take]at this;split at this
 .exact this
 .cases this
section
variable {α:Type} {f:α->c5} {sz:Nat}
theorem jU(a:∀x,(f x).length=sz/\0<sz)(xs:List α):(xs.flatMap f).length=xs.length*sz:=gZ (λx=>(a x).1) xs
theorem zj(xs:List α)(k:Nat):xs.flatMap f=(xs.take k).flatMap f++(xs.drop k).flatMap f:=by rw[<-bU,bK]
end
theorem Mz{α:Type}{A X B Z1 Z2:List α}(b:A.length=p)(f:X.length=q)(e:Z1.length=r+q):
  (((A++Z1++Z2).take p++X++(A++Z1++Z2).drop (p+q)).take (p+q))++B++((A++Z1++Z2).take p++X++(A++Z1++Z2).drop (p+q)).drop (p+q+r)=A++(X++B)++Z2:=by
 have c:(A++Z1++Z2).take p=A:=by rw[ao,cR b]
 have d:(A++Z1++Z2).drop (p+q)=Z1.drop q++Z2:=by
  rw[ao,<-cS,cJ b,eZ a4]
 have a:(A++X).length=p+q:=by rw[ae];omega
 rw[c,d,cR a,<-cS,cJ a,eZ (by rw[bo];omega),cS,lx a4,cX];simp only[ao]
theorem QP{α:Type}{A X B R:List α}(b:A.length=p)(e:B.length=r)(f:q<=R.length):
  (((A++B++R).take (p+q)++B++(A++B++R).drop (p+q+r)).take p)++X++((A++B++R).take (p+q)++B++(A++B++R).drop (p+q+r)).drop (p+q)=A++(X++B)++R.drop q:=by
 have a:((A++B++R).take (p+q)).length=p+q:=by rw[aY,ae,ae];omega
 have c:(A++B++R).drop (p+q+r)=R.drop q:=by
  rw[show p+q+r=(p+r)+q by omega,<-cS,cJ (by rw[ae];omega)]
 have d:((A++B++R).take (p+q)++(B++(A++B++R).drop (p+q+r))).take p=A:=by
  rw[eX a4,List.take_take,Nat.min_eq_left a4,ao,cR b]
 rw[ao ((A++B++R).take (p+q)),d,cJ a,c];simp only[ao]
theorem Rc{g:TypeId}{sz a sl f d:Nat}{xs:c5}{z:Option c5}{K:f9->eu}(hb:h[b]? =some (.cells c.toArray t (0,0)))
  (n:sl*sz+xs.length<=c.length) (m:sl+d<=f) (k:cA xs=true) (i:∀h',h'[b]? =some (.cells (c.take (sl*sz)++xs++c.drop (sl*sz+xs.length)).toArray t (0,0))->Upd (· =b) h h'->K ⟨some ⟨b,0,none⟩,sl+d,f⟩ h'):
  AppP z sz a g (some ⟨b,0,none⟩) sl f d xs h K:=by
 refine⟨λ_=>⟨.inr ⟨_,rfl,λj o=>?_⟩,k,?_⟩,λh=>a4⟩
 .rw[co];exact eH hb (by rw[cW];omega)
 .have e:fe h (some ⟨b,0,none⟩) (sl*sz) xs=_:=ik xs h (sl*sz) 0 c hb a4
  rw[e];refine i _ ?_ (Upd.set h _ rfl);rw[dE hb,aU]
theorem Gm(hb:h[b]? =some (.cells c.toArray t (0,0)))
  (d:o+vs.length<=c.length) (a:∀h',h'[b]? =some (.cells (c.take o++vs++c.drop (o+vs.length)).toArray t (0,0))->Upd (· =b) h h'->k h'):
  qR h (some ⟨b,o,none⟩) 0 vs/\At (fe h (some ⟨b,o,none⟩) 0 vs) k:=by
 refine⟨.inr ⟨_,rfl,λj f=>?_⟩,bF ?_⟩
 .rw[co];exact eH hb (by rw[cW];omega)
 .have e:fe h (some ⟨b,o,none⟩) 0 vs=_:=ik vs h 0 o c hb a4
  rw[e];refine a _ ?_ (Upd.set h _ rfl);rw[dE hb,fV]
end
section
variable {h h':ad}{r i:Nat}{M:eh}
structure KeyE(κ:Type) where
 enc:κ->Value
 ck:CK
 den:∀x,∃d:ck.den,enc x=ck.enc d
 same:∀x y,fi (enc x) (enc y)=true↔x=y
def ab3(k:IntKind):KeyE Int:=⟨λx=>.int k x,.int k,λx=>⟨x,rfl⟩,λx y=>by simp[fi]⟩
section
variable {κ β:Type}
structure Ent(κ β:Type) where
 k:κ
 v:β
 n:Nat
variable (E:KeyE κ) (g:β->Value)
def Ae(x:Ent κ β):MapEntry:={key:=E.enc x.k,val:=g x.v,born:=x.n}
structure MapE(h:ad)(r:Nat)(ms:List (Ent κ β))(clock:Nat):Prop where
 here:h[r]? =some (.map (ms.map (Ae E g)).toArray clock)
 keys:(ms.map (·.k)).Nodup
 nums:(ms.map (·.n)).Nodup
 old:∀x∈ms,x.n<clock
def plain(ms:List (Ent κ β)):List (κ×β):=ms.map λx=>(x.k,x.v)
def MapAt(h:ad)(r:Nat)(m:List (κ×β)):Prop:=∃ms clock,MapE E g h r ms clock/\plain ms=m
variable {E g}
theorem MapE.keysOf{h:ad}{r:Nat}{ms:List (Ent κ β)}{a:Nat}(_:MapE E g h r ms a):keysOf E.ck (ms.map (Ae E g)).toArray.toList:=by
 intro e b;simp only[aR]at b;obtain⟨x,_,rfl⟩:=b;exact E.den x.k
theorem MapAt.isMap{m:List (κ×β)}(hm:MapAt E g h r m):vq E.ck h r:=by
 obtain⟨ms,a,hm,_⟩:=hm;exact⟨_,_,hm.here,hm.keysOf⟩
theorem MapAt.len{m:List (κ×β)}(hm:MapAt E g h r m):IE h (some r) m.length:=by
 obtain⟨ms,a,hm,rfl⟩:=hm;exact⟨_,_,hm.here,by simp[plain]⟩
theorem MapAt.nodup{m:List (κ×β)}(hm:MapAt E g h r m):(m.map (·.1)).Nodup:=by
 obtain⟨ms,a,hm,rfl⟩:=hm;have:=hm.keys;unfold plain;rw[iR];exact this
theorem MapAt.lt{m:List (κ×β)}(hm:MapAt E g h r m):r<h.size:=by
 obtain⟨ms,a,hm,_⟩:=hm;exact bw hm.here
theorem MapAt.upd{m:List (κ×β)}(hm:MapAt E g h r m)(k:Upd M h h')(b:¬M r):MapAt E g h' r m:=by
 obtain⟨ms,a,hm,e⟩:=hm;exact⟨ms,a,⟨k.get hm.here b,hm.keys,hm.nums,hm.old⟩,e⟩
theorem MapAt.new(h:ad):MapAt E g (h.push (.map #[] 0)) h.size []:=
 ⟨[],0,⟨mO h _,p7,p7,λ_ h=>by cases h⟩,rfl⟩
variable [DecidableEq κ]
def bE:List (κ×β)->κ->Option β
 | [],_=>none
 |(k',v)::l,k=>if k=k' then some v else bE l k
def kw:List (κ×β)->κ->β->List (κ×β)
 | [],k,v=> [(k,v)]
 |(k',u)::l,k,v=>if k=k' then(k,v)::l else(k',u)::kw l k v
def kZ(l:List (κ×β))(k:κ):List (κ×β):=l.filter λp=>p.1≠k
theorem lZ(l:List (κ×β))(k:κ)(v:β)(j:κ):bE (kw l k v) j=if j=k then some v else bE l j:=by
 induction l with
 |nil=>simp[kw,bE]
 |cons p l ih=>
  obtain⟨k',u⟩:=p;simp only[kw];split
  .rename_i e;subst e;simp only[bE];split<;>rfl
  .rename_i e
   simp only[bE,ih];by_cases a:j=k'
   .subst a;simp[Ne.symm e]
   .simp[a]
theorem pq(l:List (κ×β))(k:κ)(j:κ):bE (kZ l k) j=if j=k then none else bE l j:=by
 induction l with
 |nil=>simp[kZ,bE]
 |cons p l ih=>
  obtain⟨k',u⟩:=p;unfold kZ at*;rw[aZ];by_cases a:k'=k
  .subst a
   simp only[ne_eq,not_true_eq_false,decide_false,cQ,if_false,ih,bE];split<;>rfl
  .simp only[ne_eq,a,not_false_eq_true,decide_true,if_true,bE,ih]
   by_cases b:j=k'
   .subst b;simp[a]
   .simp[b]
theorem eJ{l:List (κ×β)}{k:κ}{v:β}(a:(l.map (·.1)).Nodup):bE l k=some v↔(k,v)∈l:=by
 induction l with
 |nil=>simp[bE]
 |cons p l ih=>
  obtain⟨k',u⟩:=p;simp only[ce,dW]at a;simp only[bE,au,Prod.mk.injEq];by_cases b:k=k'
  .subst b
   simp only[if_true,bI.injEq,true_and];constructor
   .exact λe=>.inl e.symm
   .rintro(e|e)
    .exact e.symm
    .exact absurd (aR.2 ⟨_,e,rfl⟩) a.1
  .simp[b,ih a.2]
theorem dJ{l:List (κ×β)}{k:κ}:bE l k=none↔k∉l.map (·.1):=by
 induction l with
 |nil=>simp[bE]
 |cons p l ih=>
  obtain⟨k',u⟩:=p;simp only[bE,ce,au,not_or];by_cases a:k=k'
  .simp[a]
  .simp[a,ih]
theorem xa(l:List (κ×β))(k:κ)(v:β):(kw l k v).map (·.1)=if k∈l.map (·.1)then l.map (·.1)else l.map (·.1)++ [k]:=by
 induction l with
 |nil=>simp[kw]
 |cons p l ih=>
  obtain⟨k',u⟩:=p;simp only[kw];by_cases a:k=k'
  .simp[a]
  .simp only[a,if_false,ce,ih,au,false_or]
   split<;>simp
theorem BB{l:List (κ×β)}{k:κ}{v:β}(h:(l.map (·.1)).Nodup):((kw l k v).map (·.1)).Nodup:=by
 rw[xa];split
 .exact h
 .rename_i hn
  rw[List.nodup_append];refine⟨h,a7,?_⟩
  intro a c b hb;simp only[av]at hb;subst hb;intro e;subst e;exact hn c
theorem Rg{l:List (κ×β)}{k:κ}(h:(l.map (·.1)).Nodup):((kZ l k).map (·.1)).Nodup:=h.sublist ((di).map _)
theorem Mb(x y:κ):fi (E.enc x) (E.enc y)=decide (x=y):=by
 by_cases h:x=y
 .rw[decide_eq_true h];exact(E.same x y).2 h
 .rw[decide_eq_false h];exact gb.2 λe=>h ((E.same x y).1 e)
theorem Wq(k:κ)(ms:List (Ent κ β)):HW (E.enc k) (ms.map (Ae E g))=(bE (plain ms) k).map g:=by
 induction ms with
 |nil=>rfl
 |cons x ms ih=>
  simp only[ce,HW,Ae,plain,bE];rw[Mb];by_cases h:k=x.k
  .simp[h]
  .simp only[h,decide_false,cQ,if_false];exact ih
theorem MapAt.get{m:List (κ×β)}(hm:MapAt E g h r m)(k:κ)(z:β):jH E.ck (g z) h (some r) (E.enc k) (g ((bE m k).getD z)) (bE m k).isSome:=by
 obtain⟨ms,a,hm,rfl⟩:=hm;refine⟨_,_,hm.here,hm.keysOf,?_⟩;rw[Wq];cases bE (plain ms) k<;>exact⟨rfl,rfl⟩
def ze(k:κ)(v:β)(a:Nat):List (Ent κ β)->List (Ent κ β)×Nat
 | []=>([⟨k,v,a⟩],a+1)
 |x::l=>if k=x.k then(⟨k,v,x.n⟩::l,a)else(x::(ze k v a l).1,(ze k v a l).2)
theorem X1(k:κ)(v:β)(a:Nat)(ms:List (Ent κ β)):Mm (E.enc k) (g v) a (ms.map (Ae E g))=((ze k v a ms).1.map (Ae E g),(ze k v a ms).2):=by
 induction ms with
 |nil=>rfl
 |cons x ms ih=>
  simp only[ce,Mm,ze];rw[ih,show(Ae E g x).key=E.enc x.k from rfl,Mb]
  by_cases h:k=x.k
  .simp[h,Ae]
  .simp[h]
theorem H3(k:κ)(v:β)(a:Nat)(ms:List (Ent κ β)):plain (ze k v a ms).1=kw (plain ms) k v:=by
 induction ms with
 |nil=>rfl
 |cons x ms ih=>
  simp only[ze,plain,ce,kw];by_cases h:k=x.k
  .simp[h]
  .simp only[h,if_false,ce,List.cons.injEq,true_and];exact ih
theorem ZQ(k:κ)(v:β)(a:Nat)(ms:List (Ent κ β)):(ze k v a ms).1.map (·.n)=(if k∈ms.map (·.k)then ms.map (·.n)else ms.map (·.n)++ [a])/\(ze k v a ms).2=(if k∈ms.map (·.k)then a else a+1):=by
 induction ms with
 |nil=>exact⟨rfl,rfl⟩
 |cons x ms ih=>
  simp only[ze];by_cases h:k=x.k
  .simp[h]
  .simp only[h,if_false,ce,ih.1,ih.2,au,false_or,and_true]
   split<;>simp
theorem Ya{ms:List (Ent κ β)}{a:Nat}(hm:MapE E g h r ms a)(k:κ)(v:β):fC h r (E.enc k) (g v)=h.setIfInBounds r (.map ((ze k v a ms).1.map (Ae E g)).toArray (ze k v a ms).2):=by
 unfold fC;rw[hm.here];simp only;rw[X1]
theorem MapE.put{ms:List (Ent κ β)}{c:Nat}(hm:MapE E g h r ms c)(k:κ)(v:β):MapE E g (fC h r (E.enc k) (g v)) r (ze k v c ms).1 (ze k v c ms).2:=by
 rw[Ya hm];have m:(ze k v c ms).1.map (·.k)=(plain (ze k v c ms).1).map (·.1):=by unfold plain;rw[iR];rfl
 have j:(plain ms).map (·.1)=ms.map (·.k):=by unfold plain;rw[iR];rfl
 have f:=ZQ k v c ms;have d:∀y∈ms.map (·.n),y<c:=λy n=>by
  obtain⟨x,hx,rfl⟩:=aR.1 n;exact hm.old x hx
 refine⟨dE hm.here,?_,?_,?_⟩
 .rw[m,H3];exact BB (by rw[j];exact hm.keys)
 .rw[f.1]
  split
  .exact hm.nums
  .rw[List.nodup_append]
   refine⟨hm.nums,a7,?_⟩
   intro a i b hb;simp only[av]at hb;have:=d a i;omega
 .intro x hx
  have hx:x.n∈(ze k v c ms).1.map (·.n):=aR.2 ⟨x,hx,rfl⟩
  rw[f.1]at hx;rw[f.2];split
  .rename_i hk;rw[if_pos hk]at hx;exact d _ hx
  .rename_i hk
   rw[if_neg hk]at hx;rcases List.mem_append.1 hx with e|e
   .have:=d _ e;omega
   .simp only[av]at e;omega
theorem MapAt.put{m:List (κ×β)}(hm:MapAt E g h r m)(k:κ)(v:β):MapAt E g (fC h r (E.enc k) (g v)) r (kw m k v):=by
 obtain⟨ms,a,hm,rfl⟩:=hm;exact⟨_,_,hm.put k v,H3 ..⟩
theorem jN(h:ad)(k v:Value)(a:M r):Upd M h (fC h r k v):=by
 unfold fC;split
 .exact Upd.set h _ a
 .exact eQ _ _
theorem wQ(h:ad)(k:Value)(a:M r):Upd M h (rk h r k):=by
 unfold rk;split
 .exact Upd.set h _ a
 .exact eQ _ _
theorem WB(k:κ){ms:List (Ent κ β)}(a:(ms.map (·.k)).Nodup):H5 (E.enc k) (ms.map (Ae E g))=(ms.filter λx=>x.k≠k).map (Ae E g):=by
 induction ms with
 |nil=>rfl
 |cons x ms ih=>
  simp only[ce,dW]at a;simp only[ce,H5,aZ];rw[show(Ae E g x).key=E.enc x.k from rfl,Mb]
  by_cases h:k=x.k
  .subst h
   simp only[decide_true,if_true,ne_eq,not_true_eq_false,decide_false,cQ,if_false];congr 1
   rw[dq.2];intro y b;simp only[decide_not,Bool.not_eq_eq_eq_not,Bool.not_true,decide_eq_false_iff_not];intro e;exact a.1 (e▸aR.2 ⟨y,b,rfl⟩)
  .simp only[h,decide_false,cQ,if_false,ne_eq,Ne.symm h,not_false_eq_true,decide_true,if_true,ce]
   rw[ih a.2]
theorem MapE.drop{ms:List (Ent κ β)}{a:Nat}(hm:MapE E g h r ms a)(k:κ):MapE E g (rk h r (E.enc k)) r (ms.filter λx=>x.k≠k) a:=by
 have e:rk h r (E.enc k)=h.setIfInBounds r (.map ((ms.filter λx=>x.k≠k).map (Ae E g)).toArray a):=by
  unfold rk;rw[hm.here];simp only;rw[WB k hm.keys]
 rw[e];refine⟨dE hm.here,hm.keys.sublist ((di).map _),hm.nums.sublist ((di).map _),λx hx=>hm.old x ((bL.1 hx).1)⟩
theorem sP(k:κ)(ms:List (Ent κ β)):plain (ms.filter λx=>x.k≠k)=kZ (plain ms) k:=by
 unfold plain kZ;rw[List.filter_map];rfl
theorem MapAt.del{m:List (κ×β)}(hm:MapAt E g h r m)(k:κ):MapAt E g (rk h r (E.enc k)) r (kZ m k):=by
 obtain⟨ms,a,hm,rfl⟩:=hm;exact⟨_,_,hm.drop k,sP ..⟩
end
section
variable {κ β:Type} (E:KeyE κ) (g:β->Value)
def IterSt(h:ad)(i r:Nat)(m a:List (κ×β)):Prop:=
 ∃ms clock since seen last,MapE E g h r ms clock/\plain ms=m/\h[i]? =some (.mapIter (some r) since seen last)/\a=plain (ms.filter λx=> !seen.contains x.n)/\∀x∈ms,x.n<since/\x.n<last
variable {E g}
theorem IterSt.at{m b:List (κ×β)}(hi:IterSt E g h i r m b):MapAt E g h r m:=by
 obtain⟨ms,a,c,d,last,hm,e,_⟩:=hi;exact⟨ms,a,hm,e⟩
theorem IterSt.upd{m a:List (κ×β)}(hi:IterSt E g h i r m a)(k:Upd M h h')(j:¬M i)(n:¬M r):IterSt E g h' i r m a:=by
 obtain⟨ms,c,b,d,last,hm,f,hb,ht,e⟩:=hi;exact⟨ms,c,b,d,last,⟨k.get hm.here n,hm.keys,hm.nums,hm.old⟩,f,k.get hb j,ht,e⟩
theorem IterSt.ne{m a:List (κ×β)}(hi:IterSt E g h i r m a):i≠r:=by
 obtain⟨ms,c,b,d,last,hm,j,hb,ht,f⟩:=hi;intro e;subst e;rw[hm.here]at hb;cases hb
theorem IterSt.nodup{m a:List (κ×β)}(hi:IterSt E g h i r m a):(a.map (·.1)).Nodup:=by
 obtain⟨ms,c,b,d,last,hm,f,hb,ht,e⟩:=hi;rw[ht];unfold plain;rw[iR];exact hm.keys.sublist ((di).map _)
theorem MapAt.range{m:List (κ×β)}(hm:MapAt E g h r m):∃a,(∃es,h[r]? =some (.map es a))/\IterSt E g (h.push (.mapIter (some r) a #[] a)) h.size r m m:=by
 obtain⟨ms,a,hm,b⟩:=hm;refine⟨a,⟨_,hm.here⟩,ms,a,a,#[],a,⟨(Upd.push No h _).get0 hm.here,hm.keys,hm.nums,hm.old⟩,b,mO h _,?_,λx hx=>⟨hm.old x hx,hm.old x hx⟩⟩
 rw[show(λx:Ent κ β=> !(#[]:Array Nat).contains x.n)=λ_=>true from funext λx=>a7,dq.2 λ_ _=>rfl,b]
theorem D3{α γ:Type}{f:α->γ}:∀{l:List α},(l.map f).Nodup->∀{x y:α},x∈l->y∈l->f x=f y->x=y
 | [],_,x,y,h,_,_=>by cases h
 |z::l,hn,x,y,hx,hy,e=>by
  simp only[ce,dW]at hn;rcases au.1 hx with a|a<;>rcases au.1 hy with b|b
  .rw[a,b]
  .exact absurd (aR.2 ⟨y,b,by rw[<-e,a]⟩) hn.1
  .exact absurd (aR.2 ⟨x,a,by rw[e,b]⟩) hn.1
  .exact D3 hn.2 a b e
theorem Wp{ms:List (Ent κ β)}(a:(ms.map (·.n)).Nodup){x:Ent κ β}(hx:x∈ms):(ms.map (Ae E g)).find? (λe=>e.born==x.n)=some (Ae E g x):=by
 induction ms with
 |nil=>cases hx
 |cons y ms ih=>
  simp only[ce,dW]at a;rw[ce,List.find?_cons];rcases au.1 hx with rfl|hx
  .simp[Ae]
  .have:(Ae E g y).born≠x.n:=λe=>a.1 (aR.2 ⟨x,hx,e.symm⟩)
   have hb:((Ae E g y).born==x.n)=false:=by simpa using this
   rw[hb];exact ih a.2 hx
variable [DecidableEq κ]
theorem NextP.at{M:eh}{h:ad}{i r:Nat}{m c:List (κ×β)}{Kend:Prop}{Kstep:MapEntry->eu}(hi:IterSt E g h i r m c)(hM:M i)
  (p:c= []->Kend)
  (j:∀k v,(k,v)∈c->∀(e:MapEntry) h',e.key=E.enc k->e.val=g v->xX h' i e->IterSt E g h' i r m (kZ c k)->Upd M h h'->Kstep e h'):NextP ⟨i,0,none⟩ h Kend Kstep:=by
 have w:=hi.ne;obtain⟨ms,a,b,d,last,hm,D,hb,ht,z⟩:=hi;refine⟨rfl,_,b,d,last,hb,.inr ⟨r,_,a,rfl,hm.here,?_,λf=>?_,λe B A=>?_⟩⟩
 .by_cases C:ms= []
  .right;left;subst C;rfl
  .right;right
   obtain⟨x,l,hx⟩:=List.exists_cons_of_ne_nil C;rw[gb];intro f;rw[Array.all_eq_true']at f;have hx:x∈ms:=by rw[hx];exact List.mem_cons_self ..
   have:=f (Ae E g x) (by simp only[List.mem_toArray,aR];exact⟨x,hx,rfl⟩);have F:=(z x hx).2;simp[Ae]at this;omega
 .refine p ?_
  rw[ht];unfold plain;rw[List.map_eq_nil_iff,List.filter_eq_nil_iff];intro x hx;have:=f (Ae E g x) (by simp only[aR];exact⟨x,hx,rfl⟩) (z x hx).1;have e:(Ae E g x).born=x.n:=rfl;rw[e]at this;rw[this];exact Bool.false_ne_true
 .simp only[aR]at B
  obtain⟨x,hx,rfl⟩:=B;have A:d.contains x.n=false:=A;have s:=dE (o:=.mapIter (some r) b (d.push x.n) a) hb;have n:(h.setIfInBounds i (.mapIter (some r) b (d.push x.n) a))[r]? =some (.map (ms.map (Ae E g)).toArray a):=by
   rw[dY];simp only[w,if_false];exact hm.here
  refine j x.k x.v ?_ _ _ rfl rfl ?_ ?_ (Upd.set h _ hM)
  .rw[ht]
   exact aR.2 ⟨x,bL.2 ⟨hx,by rw[A];rfl⟩,rfl⟩
  .refine⟨r,b,_,a,x.n,_,s,a7,n,?_⟩
   rw[<-Array.find?_toList];exact Wp hm.nums hx
  .refine⟨ms,a,b,_,a,⟨n,hm.keys,hm.nums,hm.old⟩,D,s,?_,λy t=>⟨(z y t).1,hm.old y t⟩⟩
   rw[ht,<-sP,ju];congr 1
   apply eY;intro y t;have q:y.n=x.n↔y.k=x.k:=⟨λe=>congrArg _ (D3 hm.nums t hx e),λe=>congrArg _ (D3 hm.keys t hx e)⟩
   simp only[Array.contains_push,ne_eq,decide_not,Bool.not_or];by_cases u:y.k=x.k
   .have:=q.2 u;simp[u,this]
   .have:¬y.n=x.n:=λe=>u (q.1 e)
    simp[u,this]
theorem IterSt.del{m a:List (κ×β)}(hi:IterSt E g h i r m a)(k:κ):IterSt E g (rk h r (E.enc k)) i r (kZ m k) (kZ a k):=by
 have e:=hi.ne;obtain⟨ms,c,b,d,last,hm,j,hb,ht,f⟩:=hi;refine⟨_,c,b,d,last,hm.drop k,by rw[sP,j],(wQ (M:=(· =r)) h (E.enc k) rfl).get hb e,?_,λx hx=>f x (bL.1 hx).1⟩
 rw[ht,<-sP,ju,ju];congr 1
 apply eY;intro y _;exact Bool.and_comm ..
end
end
structure Takes{α:Type}(P:Program)(y:Value)(enc:α->c5)(N:Nat)(J:List α->(eh)->eu):Prop where
 lt:∀pre A h,J pre A h->∀b,A b->b<h.size
 keep:∀pre A h h' B,J pre A h->Upd B h h'->(∀b,A b->¬B b)->J pre A h'
 step:∀pre A h x (K:Bool->eu),J pre A h->pre.length<N->(∀h' A',J (pre++ [x]) A' h'->Upd A h h'->(∀b,A' b->A b\/h.size<=b)->K true h')->HV P y (enc x) [.c .bool] K h
structure Gives{α:Type}(P:Program)(fv:Value)(enc:α->c5)(N:Nat)(S:List α->Prop)(Q:eh)(h:ad):Prop where
 lt:∀b,Q b->b<h.size
 run:∃f first cap,fv=.func (.func f) first cap/\∀(y:Value) (J:List α->(eh)->eu) (A M:eh) (h1:ad) (K:Unit->eu),Takes P y enc N J->J [] A h1->Upd M h h1->(∀b,Q b->¬M b)->(∀b,A b->¬Q b)->
  (∀xs A' h',S xs->J xs A' h'->Upd A h1 h'->(∀b,A' b->A b\/h1.size<=b)->K () h')->HE P f (first.toList++ [y]++cap.toList) [] K h1
theorem Gives.upd{α:Type}{P:Program}{a:Value}{enc:α->c5}{N:Nat}{S:List α->Prop}{Q M:eh}{h h':ad}(g:Gives P a enc N S Q h)(k:Upd M h h')(hm:∀b,Q b->¬M b):Gives P a enc N S Q h':=by
 obtain⟨f,first,cap,e,j⟩:=g.run
 refine⟨λb hb=>aA (g.lt b hb) k.size,f,first,cap,e,λy J A M' m K ht o n i c d=>?_⟩
 exact j y J A (λb=>M b\/M' b) m K ht o ((k.mono λb hb=>.inl (.inl hb)).tr (n.mono λb hb=>.inl (.inr hb))) (λb hb h=>h.elim (hm b hb) (i b hb)) c d
end Go.Lift
