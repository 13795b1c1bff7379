/- A part of the proof that the named laws of this program answer true, whatever the input. -/
import Derived.Test.YtakmnggbneeicaaGreatPart3
import Derived.Test.YtakmnggbneeicaaGreatPart2
import Derived.Sort.AssemblyPlain
import Derived.Test.YtakmnggbneeicaaGreatPart0
import Derived.Test.YtakmnggbneeicaaGreatLaw0
open BitVec renaming ofInt->aB
open Bool renaming and_eq_true->bC,true_and->kA
open ByteArray renaming mk->lJ
open Go.IntKind renaming wrap->ac,bits->al
open Go.Op renaming bytesLess->bF
open Int renaming toNat_natCast->aY,le_refl->gM,ne_of_lt->qy
open List renaming any_eq_true->cq,getElem?_eq_getElem->af,getElem_mem->aF,getElem_of_mem->bH,pairwise_iff_getElem->cp,find?_cons->l7,mem_cons_self->aq,mem_cons_of_mem->aA,pairwise_cons->aC,mem_cons->aw,singleton_append->mo,take_succ_eq_append_getElem->ax,map_append->cC,length_map->bP,length_eq_zero_iff->aK,length_take->aV,mem_append->aN,mem_singleton->az,take_of_length_le->bd,filter_append->cy,filter_cons->bf,length_filter_le->bQ,filterMap_cons->kM,pairwise_map->fH,mem_filter->bV,mem_map->be,nil_append->cS,getElem_inj->oh
open List.Pairwise renaming nil->cj
open Nat renaming lt_of_lt_of_le->aD,zero_le->aJ,le_refl->aj,lt_or_ge->ci,le_trans->aO,le_of_eq->cL,not_lt->dR
namespace Go.Proofs
open Go.Lift
section
variable {l A B L O T:bY}{W:dx}{h:ad}{x:Hs}{kind p:Int}{s:fD}{k:c6}{a b o:Option c6}{c:Ch}{n i:Nat}
theorem Vp{w:Option c6}{F:Fo}(h:∀k v,(k,v)∈mR w F↔∃p∈l,p.1.data.toList=k/\p.2=v)(a:Fit l):∀j v,qC F j v->j.length<=1000000:=λj v hi=>by
 obtain⟨p,b,e,_⟩:=(h j v).1 (jy.2 (.inr hi));have:=(a p b).1;rw[<-e,kP];omega
theorem Nc{b:Nat}(t:RadAt W h b l)(D:∀y,W y->y<h.size)(O:Fit l)(k:c6){K:aT×Bool->dO}
  (G:∀h' b',Upd No h h'->RadAt W h' b' (m9 k l)->(cI l k=false->b'=b)->K (some ⟨b',0,none⟩,cI l k) h'):
  uC 133 [.pointer none,gZ b,.string k] K h:=by
 refine dg (D1 none (some ⟨b,0,none⟩) k) .nil Tryz.func133 Tryz.call133 ?_;unfold D1 Ku;refine EF (.inr ⟨b,rfl,t⟩) D λQ b2 L f z=>?_
 have o:b2=b:=by
  rcases z with e|e
  .cases e;rfl
  .cases e
 subst o;obtain⟨w,F,E,P,n⟩:=L.ex;refine Xh (k.size+1) k a4 E (λy I=>aD (D y I) f.size) P (Vp n O) λJ b3 H F' a A x C B g s=>?_
 have i:∀v,sE w F k.data.toList v↔(k,v)∈l:=λv=>by
  rw[<-jy,n];constructor
  .rintro⟨p,u,N,rfl⟩
   rw[<-qS.1 N];exact u
  .intro u;exact⟨_,u,rfl,rfl⟩
 have m:a=cI l k:=by
  cases a with
  |false=>
   refine(zy λq c e=>(g rfl).2 q.2 ((i _).2 ?_)).symm
   rw[<-e];exact c
  |true=>
   obtain⟨v,hv⟩:=s rfl;exact(cq.2 ⟨_,(i v).1 hv,decide_eq_true rfl⟩).symm
 subst m;refine G J b3 (f.tr A) ⟨H,F',x,C,λj v=>?_⟩ λht=>(g ht).1
 rw[jy,B j v,<-jy,n];constructor
 .rintro⟨d,q,c,rfl,rfl⟩
  exact⟨q,Hm.2 ⟨c,λe=>d (by rw[e])⟩,rfl,rfl⟩
 .rintro⟨q,c,rfl,rfl⟩
  obtain⟨c,d⟩:=Hm.1 c;exact⟨λe=>d (qS.1 e),q,c,rfl,rfl⟩
theorem FF{t:Tr}(i:TreeIs W h kind x t l)(hW:∀y,W y->y<h.size)(hr:bS l)(hf:Fit l)(hn:l.length<=1000000)(k:c6)(L:k.size<=256){K:Tr×Int->dO}
  (G:∀h' j,TreeIs W h' kind x j (m9 k l)->(cI l k=false->j=t)->Upd No h h'->K (j,if cI l k then 0 else 4) h'):Kl 84 [Ap t,.pointer none,.string k] K h:=by
 refine dg (tH t none k) A4 Tryz.func84 Tryz.call84 ?_;dsimp only[tH,bh,nv,zh,aE,uj,Q6,dd,kF,Ku,my,ao,z9,dE,AV,ge,kH,rC];refine aQ λd b1 k1=>aQ λs b2 N=>?_
 have z1:=bB b1;have z2:=bB b2;have X:h.size<=d.size:=k1.size;have U:=k1.tr N;refine LA (v:=⟨#[]⟩) L (aJ 4096) (ag.2 ?_);have c1:=N.get0 b1;refine⟨_,vc c1 0,_,vc c1 1,_,vc c1 2,_,vc c1 3,_,vc c1 4,_,vc c1 5,?_⟩;refine aQ λh3 b3 Y=>?_
 have z3:=bB b3;have s2:d.size<=s.size:=N.size;refine co (c:=iM rL) (vs:=iM t) b3 rfl λF V B=>?_
 have u:Upd No h F:=(U.tr Y).own B a4;have D:Upd No s F:=Y.own B (aj _);have s4:h3.size<=F.size:=B.size;have w:=D.get0 c1;have d4:=D.get0 b2;have i4:=i.pro u;have C:=Pro.lt hW u;have fin:∀{a:ad} {j:Tr},Upd No h a->a[h.size]? =some (.cells (iM j).toArray 53 (0,0))->a[d.size]? =some (.cells (iM rL).toArray 53 (0,0))->a[s.size]? =some (.cells (iM t).toArray 53 (0,0))->TreeIs (Pro W h F) a kind x j (m9 k l)->(cI l k=false->j=t)->
   fo (!cI l k) (∃v41:Int,aZ a (adr (aR s) 0)=some (.int .i64 v41)/\
    ∃v42:Int,aZ a (adr (aR s) 1)=some (.int .u64 v42)/\
    ∃v43:Int,aZ a (adr (aR s) 2)=some (.int .u64 v43)/\
    ∃v44:Int,aZ a (adr (aR s) 3)=some (.int .u64 v44)/\
    ∃v45:aT,aZ a (adr (aR s) 4)=some (.pointer v45)/\
    ∃v46:aT,aZ a (adr (aR s) 5)=some (.pointer v46)/\
    (qV a (some (aR d)) 0 [.int .i64 v41,.int .u64 v42,.int .u64 v43,.int .u64 v44,.pointer v45,.pointer v46]/\
     At (fS a (aR d) 0 [.int .i64 v41,.int .u64 v42,.int .u64 v43,.int .u64 v44,.pointer v45,.pointer v46]) (λn=>
      ∃v48:Int,aZ n (adr (aR d) 0)=some (.int .i64 v48)/\
      ∃v49:Int,aZ n (adr (aR d) 1)=some (.int .u64 v49)/\
      ∃v50:Int,aZ n (adr (aR d) 2)=some (.int .u64 v50)/\
      ∃v51:Int,aZ n (adr (aR d) 3)=some (.int .u64 v51)/\
      ∃v52:aT,aZ n (adr (aR d) 4)=some (.pointer v52)/\
      ∃v53:aT,aZ n (adr (aR d) 5)=some (.pointer v53)/\
      K ((v48,v49,v50,v51,v52,v53),4) n))) (
    ∃v54:Int,aZ a (adr (aR h) 0)=some (.int .i64 v54)/\
    ∃v55:Int,aZ a (adr (aR h) 1)=some (.int .u64 v55)/\
    ∃v56:Int,aZ a (adr (aR h) 2)=some (.int .u64 v56)/\
    ∃v57:Int,aZ a (adr (aR h) 3)=some (.int .u64 v57)/\
    ∃v58:aT,aZ a (adr (aR h) 4)=some (.pointer v58)/\
    ∃v59:aT,aZ a (adr (aR h) 5)=some (.pointer v59)/\
    (qV a (some (aR d)) 0 [.int .i64 v54,.int .u64 v55,.int .u64 v56,.int .u64 v57,.pointer v58,.pointer v59]/\
     At (fS a (aR d) 0 [.int .i64 v54,.int .u64 v55,.int .u64 v56,.int .u64 v57,.pointer v58,.pointer v59]) (λm=>
      ∃v61:Int,aZ m (adr (aR d) 0)=some (.int .i64 v61)/\
      ∃v62:Int,aZ m (adr (aR d) 1)=some (.int .u64 v62)/\
      ∃v63:Int,aZ m (adr (aR d) 2)=some (.int .u64 v63)/\
      ∃v64:Int,aZ m (adr (aR d) 3)=some (.int .u64 v64)/\
      ∃v65:aT,aZ m (adr (aR d) 4)=some (.pointer v65)/\
      ∃v66:aT,aZ m (adr (aR d) 5)=some (.pointer v66)/\
      K ((v61,v62,v63,v64,v65,v66),0) m))):=λ{a j} J A I z H g=>by
  cases ht:cI l k with
  |false=>
   rw[ht]at G g;have O:=g rfl;subst O;refine ay.2 ⟨_,vc z 0,_,vc z 1,_,vc z 2,_,vc z 3,_,vc z 4,_,vc z 5,?_⟩;refine co (c:=iM rL) (vs:=iM j) I rfl λT o q=>?_
   refine⟨_,vc o 0,_,vc o 1,_,vc o 2,_,vc o 3,_,vc o 4,_,vc o 5,?_⟩;exact G T j ((H.updM q (λy p=>.inl (.inr (by have p:y=d.size:=p;omega)))).less Pro.sub) (λ_=>rfl) (J.own q X)
  |true=>
   rw[ht]at G g;refine ag.2 ⟨_,vc A 0,_,vc A 1,_,vc A 2,_,vc A 3,_,vc A 4,_,vc A 5,?_⟩;refine co (c:=iM rL) (vs:=iM j) I rfl λT o q=>?_
   refine⟨_,vc o 0,_,vc o 1,_,vc o 2,_,vc o 3,_,vc o 4,_,vc o 5,?_⟩;exact G T j ((H.updM q (λy p=>.inl (.inr (by have p:y=d.size:=p;omega)))).less Pro.sub) (λh=>by cases h) (J.own q X)
 refine eF (λtk a=>tk=cI l k/\Upd No h a/\∃j,a[h.size]? =some (.cells (iM j).toArray 53 (0,0))/\a[d.size]? =some (.cells (iM rL).toArray 53 (0,0))/\a[s.size]? =some (.cells (iM t).toArray 53 (0,0))/\TreeIs (Pro W h F) a kind x j (m9 k l)/\(cI l k=false->j=t)) (λR Z=>?_) ?_
 .rcases i4 with⟨rfl,b,rfl,P⟩|⟨rfl,b,rfl,P⟩
  .refine⟨_,vc w 0,ag.2 ⟨_,iq w 1 0,_,iq w 1 1,_,iq w 1 2,_,vc w 4,?_⟩⟩
   refine NV P C hr hn k λh5 E e S g=>?_
   refine oD (i:=4) (c':=(iM (0,x.k0,x.k1,x.mask,some ⟨E,0,none⟩,none)).toArray) (e.get0 w) (show 4<6 by decide) rfl λa Q f=>?_
   exact Z _ _ ⟨rfl,(u.tr e).own f (aj _),_,Q,f.oth (e.get0 d4) a4,f.oth (e.get0 V) a4,.inl ⟨rfl,E,rfl,TrieAt.updM f (λy p=>.inl (.inr (by have p:y=h.size:=p;omega))) S⟩,λht=>by rw[g ht]⟩
  .refine⟨_,vc w 0,ay.2 ⟨_,vc w 5,?_⟩⟩
   refine Nc P C hf k λh5 E e S g=>?_
   refine oD (i:=5) (c':=(iM (1,0,0,0,none,some ⟨E,0,none⟩)).toArray) (e.get0 w) (show 5<6 by decide) rfl λa Q f=>?_
   exact Z _ _ ⟨rfl,(u.tr e).own f (aj _),_,Q,f.oth (e.get0 d4) a4,f.oth (e.get0 V) a4,.inr ⟨rfl,E,rfl,S.updM f (λy p=>.inl (.inr (by have p:y=h.size:=p;omega)))⟩,λht=>by rw[g ht]⟩
 .rintro _ a ⟨rfl,J,j,A,I,z,H,g⟩
  exact fin J A I z H g
theorem Xr(p:Sl dT 2 W h s l)(A:bS l)(B:Fit l)(F:l.length<=1000000)(k:c6){K:Int×Bool->dO}
  (w:∀i:Nat,(cI l k=true->∃hi:i<l.length,l[i].1=k)->K ((i:Int),cI l k) h):zG 194 [.slice s.a s.len s.cap,.string k] K h:=by
 refine dg (JX s k) Tv Tryz.func194 Tryz.call194 ?_;dsimp only[JX,kF,Qn,cM,jX,fj];have z:=p.len;refine ez (λ(i:Nat) (t:Int) h'=>t=(i:Int)/\i<=l.length/\h'=h/\∀j (c:j<l.length),j<i->kl l[j].1 k) (λi=>l.length-i) 0 ⟨rfl,aJ _,rfl,λj c h=>a4⟩ ?_
 rintro I i t h' ⟨rfl,hi,rfl,d⟩ C;refine eF (λt x=>x=h'/\(t=true↔∃hi:i<l.length,kl l[i].1 k)) (λR y=>?_) ?_
 .refine ar (λb=>?_) λo=>y _ _ ⟨rfl,⟨λh=>(by cases h),λ⟨hi,_⟩=>a4⟩⟩
  have b:i<l.length:=a4
  obtain⟨a,v,_,hv⟩:=p.at (af b);have D:=(B _ (aF b)).1;refine⟨⟨a4,a4⟩,a,v,l[i].1,hv 0 _ rfl,Ic a4 (y _ _ ⟨rfl,?_⟩)⟩
  rw[decide_eq_true_iff];exact⟨λh=>⟨b,h⟩,λ⟨_,h⟩=>h⟩
 .rintro t x ⟨rfl,ht⟩
  cases t with
  |true=>
   obtain⟨b,n⟩:=ht.1 rfl;refine ay.2 ?_;rw[mK b a4];refine C (i+1) _ _ ⟨rfl,b,rfl,λj c E=>?_⟩ a4
   rcases ci j i with h|h
   .exact d j c h
   .have:j=i:=by omega
    subst this;exact n
  |false=>
   refine ag.2 (ar (λb=>?_) λo=>?_)
   .have b:i<l.length:=by omega
    have m:¬kl l[i].1 k:=λh=>by have:=ht.2 ⟨b,h⟩;cases this
    obtain⟨a,v,_,hv⟩:=p.at (af b);refine⟨⟨a4,a4⟩,a,v,l[i].1,hv 0 _ rfl,?_⟩
    rw[dZ];have e:decide (l[i].1=k)=cI l k:=by
     by_cases e:l[i].1=k
     .rw[decide_eq_true e]
      exact(cq.2 ⟨_,aF b,decide_eq_true e⟩).symm
     .rw[decide_eq_false e]
      refine(zy λq u f=>?_).symm
      obtain⟨j,c,rfl⟩:=bH u;have g:=mf m e;rcases Nat.lt_trichotomy j i with h|h|h
      .have:=d j c h;rw[f]at this;exact bX _ this
      .subst h;exact e f
      .have:=cp.1 A i j b c h
       rw[f]at this;exact bX _ (dX g this)
    rw[e];exact w i λht=>⟨b,of_decide_eq_true (e.trans ht)⟩
   .have e:cI l k=false:=zy λq u f=>by
     obtain⟨j,c,rfl⟩:=bH u;have:=d j c a4;rw[f]at this;exact bX _ this
    have:=w i λh=>by rw[e]at h;cases h
    rw[e]at this;exact this
theorem T7(e:Sl dT 2 W h s l)(g:bS l)(j:Fit l)(m:l.length<=1000000)(k:c6){K:c6×Bool->dO}
  (c:∀v,(cI l k=true->(k,v)∈l)->(cI l k=false->v=⟨#[]⟩)->K (v,cI l k) h):sJ 135 [.slice s.a s.len s.cap,.string k] K h:=by
 refine dg (MF s k) .nil Tryz.func135 Tryz.call135 ?_;dsimp only[MF,cM,kG,jX,fj];have f:=e.len;refine Xr e g j m k λi hi=>?_
 cases ht:cI l k with
 |false=>rw[ht]at c;exact ay.2 (c _ (λh=>(by cases h)) λ_=>rfl)
 |true=>
  rw[ht]at c;obtain⟨b,d⟩:=hi ht;obtain⟨a,n,_,hv⟩:=e.at (af b);refine ag.2 ⟨⟨by(try simp only);omega,by(try simp only);omega⟩,a,n,l[i].2,hv 1 _ rfl,c _ (λ_=>by rw[<-d];exact aF b) λh=>(by cases h)⟩
theorem PF(k:c6):look [] k=none:=rfl
theorem fL(p:Pr)(l:bY)(k:c6):look (p::l) k=if p.1=k then some p.2 else look l k:=by
 unfold look;rw[l7];by_cases e:p.1=k
 .rw[decide_eq_true e,if_pos e];rfl
 .rw[decide_eq_false e,if_neg e]
theorem zB(h:∀p∈l,kl k p.1):look l k=none:=LL (zy λp a e=>by have:=h p a;rw[e]at this;exact bX _ this)
theorem mX{k v:c6}:∀{l:bY},look l k=some v->(k,v)∈l
 | [],h=>by cases h
 |p::l,h=>by
  rw[fL]at h;by_cases e:p.1=k
  .rw[if_pos e]at h;cases h;rw[<-e];exact aq ..
  .rw[if_neg e]at h;exact aA _ (mX h)
theorem XM{m:bY}(b:bS l)(hm:bS m)(h:∀k,look l k=look m k):l=m:=
 xo b hm λp=>⟨λa=>mX (by rw[<-h];exact ui b a),λa=>mX (by rw[h];exact ui hm a)⟩
theorem IC(p:Pr)(k:c6):∀{l:bY},look (gQ p l) k=if p.1=k then some p.2 else look l k
 | []=>fL p [] k
 |q::l=>by
  rw[gH];by_cases a:kl q.1 p.1
  .rw[if_pos a,fL,IC p k,fL]
   by_cases e:q.1=k
   .rw[if_pos e,if_pos e,if_neg λc=>by rw[e,c]at a;exact bX _ a]
   .rw[if_neg e,if_neg e]
  .rw[if_neg a]
   by_cases b:q.1=p.1
   .rw[if_pos b,fL,fL,b]
    by_cases e:p.1=k
    .rw[if_pos e,if_pos e]
    .rw[if_neg e,if_neg e,if_neg e]
   .rw[if_neg b,fL]
theorem IE(k' k:c6):∀{l:bY},look (m9 k' l) k=if k'=k then none else look l k
 | []=>by
  by_cases e:k'=k; · rw[if_pos e];rfl
  .rw[if_neg e];rfl
 |q::l=>by
  rw[xw];by_cases h:q.1=k'
  .rw[if_pos h,IE k' k,fL,h]
   by_cases e:k'=k
   .rw[if_pos e,if_pos e]
   .rw[if_neg e,if_neg e,if_neg e]
  .rw[if_neg h,fL,IE k' k,fL]
   by_cases e:q.1=k
   .rw[if_pos e,if_pos e,if_neg λa=>h (by rw[e,a])]
   .rw[if_neg e,if_neg e]
def abm(k:c6)(a b:Option c6):Option Ch:=if a=b then none else some (k,a.getD ⟨#[]⟩,b.getD ⟨#[]⟩,a.isSome,b.isSome)
theorem Qh(k:c6)(a:Option c6):abm k a a=none:=if_pos rfl
theorem aaH(h:abm k a b=some c):c=(k,a.getD ⟨#[]⟩,b.getD ⟨#[]⟩,a.isSome,b.isSome)/\a≠b:=by
 unfold abm at h;by_cases e:a=b
 .rw[if_pos e]at h;cases h
 .rw[if_neg e]at h;cases h;exact⟨rfl,e⟩
def fd(l:List Ch)(k:c6):Option Ch:=l.find? λc=>decide (c.1=k)
theorem yu(c:Ch)(l:List Ch)(k:c6):fd (c::l) k=if c.1=k then some c else fd l k:=by
 unfold fd;rw[l7];by_cases e:c.1=k
 .rw[decide_eq_true e,if_pos e]
 .rw[decide_eq_false e,if_neg e]
theorem SP{k:c6}{c:Ch}:∀{l:List Ch},fd l k=some c->c∈l/\c.1=k
 | [],h=>by cases h
 |a::l,h=>by
  rw[yu]at h;by_cases e:a.1=k
  .rw[if_pos e]at h;cases h;exact⟨aq ..,e⟩
  .rw[if_neg e]at h;exact⟨aA _ (SP h).1,(SP h).2⟩
theorem Yg{c:Ch}:∀{l:List Ch},Of l->c∈l->fd l c.1=some c
 |a::l,b,h=>by
  have b:=aC.1 b;rw[yu];rcases aw.1 h with rfl|h
  .exact if_pos rfl
  .rw[if_neg λe=>by have:=b.1 c h;rw[e]at this;exact bX _ this]
   exact Yg b.2 h
theorem SQ(f:bS A)(d:bS B)(k:c6):fd (iU A B) k=abm k (look A k) (look B k):=by
 refine oI (P:=λA B=>fd (iU A B) k=abm k (look A k) (look B k)) ?_ (λa A B f _ h i=>?_) (λb A B _ d h i=>?_) (λa b A B e f d i=>?_) f d
 .rw[jz];exact(Qh ..).symm
 .rw[uG h,yu,fL,i]
  by_cases e:a.1=k
  .rw[if_pos (show(KM a).1=k from e),if_pos e,<-e,zB h];rfl
  .rw[if_neg (show ¬(KM a).1=k from e),if_neg e]
 .rw[uF h,yu,fL,i]
  by_cases e:b.1=k
  .rw[if_pos (show(Zj b).1=k from e),if_pos e,<-e,zB h];rfl
  .rw[if_neg (show ¬(Zj b).1=k from e),if_neg e]
 .rw[uE e,fL,fL,<-e]
  by_cases h:a.1=k
  .rw[if_pos h,if_pos h]
   unfold zT abm;by_cases c:a.2=b.2
   .rw[if_pos c,if_pos (by rw[c]),List.nil_append,i,<-h,zB (aC.1 f).1,e,zB (aC.1 d).1,Qh]
   .rw[if_neg c,if_neg (λe=>c (Option.some.inj e)),mo,yu,if_pos h,h];rfl
  .rw[if_neg h,if_neg h,<-i]
   unfold zT;by_cases c:a.2=b.2
   .rw[if_pos c];rfl
   .rw[if_neg c,mo,yu,if_neg h]
theorem Few.del(f:Few n L)(k:c6):Few n (m9 k L):=⟨EK f.up,aO Yn f.len,λp a=>f.fit p (Hm.1 a).1⟩
theorem Pf{r:Rt}(i:RefIs W h kind x r l)(E:∀y,W y->y<h.size)(H:bS l)(I:Fit l)(A:l.length<=1000000)(k:c6)(F:k.size<=256){K:Rt×Int->dO}
  (w:∀h' r' e,RefIs W h' kind x r' (m9 k l)->Upd No h h'->K (r',e) h'):AQ 85 [Vl r,.string k] K h:=by
 refine dg (Bw r k) .nil Tryz.func85 Tryz.call85 ?_;dsimp only[Bw,dK,pU,kG,ix,dd,G4,dE,MS,vy,bh,ao,wQ,qE];refine aQ λB b1 k1=>aQ λL b2 D=>?_
 have J:=bB b1;have O:=bB b2;have C:h.size<=B.size:=k1.size;have d:=k1.tr D;have f:=D.get0 b1;obtain⟨s,rfl,q,hc⟩:=i;refine ar (λh=>absurd h a4) λ_=>?_
 refine⟨s,vc f 4,T7 (q.upd d λ_ h=>h.elim) H I A k λv _ _=>?_⟩
 refine eh (λhb=>?_) λhb=>?_
 .have t:cI l k=false:=by simpa using hb
  refine⟨_,vc f 0,_,vc f 1,_,vc f 2,_,vc f 3,s,vc f 4,?_⟩;refine co (c:=ry KA) (vs:=ry (kind,hx kind x.k0,hx kind x.k1,hx kind x.mask,s)) b2 rfl λu b a=>?_
  refine⟨_,vc b 0,_,vc b 1,_,vc b 2,_,vc b 3,s,vc b 4,?_⟩;refine w u (kind,hx kind x.k0,hx kind x.k1,hx kind x.mask,s) 4 ⟨s,rfl,?_,hc⟩ (d.own a C);rw[zQ (CL t)];exact q.upd (d.own a C) λ_ h=>h.elim
 .refine⟨s,vc f 4,Pi (q.upd d λ_ h=>h.elim) A k λm P p j=>?_⟩
  refine oD (i:=4) (c':=(ry (kind,hx kind x.k0,hx kind x.k1,hx kind x.mask,m)).toArray) (j.get0 f) (show 4<5 by decide) rfl λN o g=>?_
  refine⟨_,vc o 0,_,vc o 1,_,vc o 2,_,vc o 3,m,vc o 4,?_⟩;refine co (c:=ry KA) (vs:=ry (kind,hx kind x.k0,hx kind x.k1,hx kind x.mask,m)) (g.oth (j.get0 b2) a4) rfl λu b a=>?_
  refine⟨_,vc b 0,_,vc b 1,_,vc b 2,_,vc b 3,m,vc b 4,?_⟩;have n:=(p.upd g λy z e=>by have e:y=h.size:=e;omega).upd a λy z e=>by have e:y=B.size:=e;omega
  refine w u (kind,hx kind x.k0,hx kind x.k1,hx kind x.mask,m) 0 ⟨m,rfl,n.sl λy z _ G=>by have:=E y G;omega,n.cap⟩ (((d.tr j).own g (aj _)).own a a4)
theorem Yz(b:bS A)(a:bS B)(h:c∈iU A B):c=(c.1,(look A c.1).getD ⟨#[]⟩,(look B c.1).getD ⟨#[]⟩,(look A c.1).isSome,(look B c.1).isSome)/\look A c.1≠look B c.1:=by
 have:=SQ b a c.1;rw[Yg (BV b a) h]at this;exact aaH this.symm
theorem mW(f:Few n A)(k:c6):((look A k).getD ⟨#[]⟩).size<=30:=by
 cases e:look A k with
 |none=>exact aJ _
 |some v=>exact(f.fit _ (mX e)).2
theorem FI{m:Nat}(a:Few n A)(b:Few m B):∀c∈iU A B,c.1.size<=30/\c.2.1.size<=30/\c.2.2.1.size<=30:=λc hc=>by
 obtain⟨e,ne⟩:=Yz a.up b.up hc;refine⟨?_,?_,?_⟩
 .cases ea:look A c.1 with
  |some v=>exact(a.fit _ (mX ea)).1
  |none=>
   cases eb:look B c.1 with
   |some v=>exact(b.fit _ (mX eb)).1
   |none=>rw[ea,eb]at ne;exact absurd rfl ne
 .rw[e];exact mW a _
 .rw[e];exact mW b _
theorem W3(b:bS A)(a:bS B)(k:c6):(iU A B).any (λc=>decide (c.1=k))=decide (look A k≠look B k):=by
 have h:=SQ b a k;unfold abm at h;by_cases e:look A k=look B k
 .rw[if_pos e]at h
  rw[show decide (look A k≠look B k)=false by simpa using e]
  unfold fd at h;rw[List.find?_eq_none]at h;rw[List.any_eq_false];exactλc hc=>h c hc
 .rw[if_neg e]at h
  rw[show decide (look A k≠look B k)=true by simpa using e]
  obtain⟨hc,ek⟩:=SP h;exact cq.2 ⟨_,hc,a6⟩
def As(o:Option c6):Sd:=(o.getD ⟨#[]⟩,o.isSome)
theorem ZN:As a=As b↔a=b:=by
 constructor
 .intro h
  unfold As at h;cases a<;>cases b<;>simp_all
 .rintro rfl;rfl
def um(b o t:Option c6)(p:Int):Option c6×Bool:=if o=t\/t=b then(o,true)else if o=b then(t,true)else if p=1 then(o,false)else if p=2 then(t,false)else(b,false)
theorem TP(b o t:Option c6)(p:Int):zl (As b) (As o) (As t) p=(As (um b o t p).1,(um b o t p).2):=by
 unfold zl um;simp only[ZN];split
 .rfl
 .split
  .rfl
  .split
   .rfl
   .split<;>rfl
theorem Ez(b o t:Option c6)(p:Int):(um b o t p).1=b\/(um b o t p).1=o\/(um b o t p).1=t:=by
 unfold um;split
 .exact .inr (.inl rfl)
 .split
  .exact .inr (.inr rfl)
  .split
   .exact .inr (.inl rfl)
   .split
    .exact .inr (.inr rfl)
    .exact .inl rfl
theorem OO{t:Option c6}:(um b o t p).2=false↔o≠t/\t≠b/\o≠b:=by
 unfold um;by_cases a:o=t\/t=b
 .rw[if_pos a]
  exact⟨λh=>(by cases h),λh=>absurd a λe=>e.elim h.1 h.2.1⟩
 .rw[if_neg a]
  by_cases c:o=b
  .rw[if_pos c]
   exact⟨λh=>(by cases h),λh=>absurd c h.2.2⟩
  .rw[if_neg c]
   refine⟨λ_=>⟨λe=>a (.inl e),λe=>a (.inr e),c⟩,λ_=>?_⟩
   split
   .rfl
   .split<;>rfl
def Ky(L:bY)(k:c6):Option c6->bY
 |some v=>gQ (k,v) L
 |none=>m9 k L
theorem VI(L:bY)(k:c6)(o:Option c6)(j:c6):look (Ky L k o) j=if k=j then o else look L j:=by
 cases o with
 |some v=>exact IC (k,v) j
 |none=>exact IE k j
theorem RF(h:bS L)(k:c6)(o:Option c6):bS (Ky L k o):=by
 cases o with
 |some v=>exact pF _ h
 |none=>exact EK h
theorem Ye(f:Few n L)(b:k.size<=30)(a:(o.getD ⟨#[]⟩).size<=30):Few (n+1) (Ky L k o):=by
 cases o with
 |some v=>exact f.ins (k,v) b a
 |none=>have g:=f.del k;exact⟨g.up,Nat.le_succ_of_le g.len,g.fit⟩
def tk(B O T:bY)(p:Int)(k:c6):Option c6×Bool:=um (look B k) (look O k) (look T k) p
def sI(B O T:bY)(p:Int)(acc:bY)(l:List Ch):bY:=l.foldl (λacc c=>Ky acc c.1 (tk B O T p c.1).1) acc
theorem PC{acc:bY}{l:List Ch}(hi:i<l.length):sI B O T p acc (l.take (i+1))=Ky (sI B O T p acc (l.take i)) l[i].1 (tk B O T p l[i].1).1:=by
 unfold sI;rw[ax hi,List.foldl_append];rfl
theorem F0{B O T:bY}{p:Int}{k:c6}:∀{l:List Ch} {acc:bY},look (sI B O T p acc l) k=if(fd l k).isSome then(tk B O T p k).1 else look acc k
 | [],_=>rfl
 |c::l,acc=>by
  show look (sI B O T p (Ky acc c.1 (tk B O T p c.1).1) l) k=_
  rw[F0,yu,VI];by_cases e:c.1=k
  .subst e
   rw[if_pos rfl,if_pos rfl,if_pos (show(some c).isSome=true from rfl)]
   split<;>rfl
  .rw[if_neg e,if_neg e]
theorem ym{B O T:bY}{p:Int}:∀{l:List Ch} {acc:bY},bS acc->bS (sI B O T p acc l)
 | [],_,h=>h
 |c::l,_,h=>ym (l:=l) (RF h c.1 _)
theorem Cc{B O T:bY}{p:Int}{nb no nt:Nat}(a:Few nb B)(f:Few no O)(b:Few nt T):∀{l:List Ch} {n:Nat} {acc:bY},(∀c∈l,c.1.size<=30)->Few n acc->Few (n+l.length) (sI B O T p acc l)
 | [],_,_,_,h=>h
 |c::l,n,_,hl,h=>by
  have g:((tk B O T p c.1).1.getD ⟨#[]⟩).size<=30:=by
   unfold tk;rcases Ez (look B c.1) (look O c.1) (look T c.1) p with e|e|e
   .rw[e];exact mW a _
   .rw[e];exact mW f _
   .rw[e];exact mW b _
  have:=Cc (p:=p) a f b (l:=l) (λd hd=>hl d (aA _ hd)) (Ye h (hl c (aq ..)) g)
  rw[List.length_cons,show n+(l.length+1)=n+1+l.length by omega]
  exact this
def jx(B O T:bY)(p:Int):bY:=sI B O T p O (iU B T)
theorem IB(a:bS B)(b:bS T)(k:c6):look (jx B O T p) k=(tk B O T p k).1:=by
 unfold jx;rw[F0,SQ a b];unfold abm;by_cases e:look B k=look T k
 .rw[if_pos e]
  show look O k=_
  unfold tk um;rw[if_pos (.inr e.symm)]
 .rw[if_neg e];rfl
def GV(B O T:bY)(p:Int)(l:List Ch):List c6:=(l.map (·.1)).filter λk=> !(tk B O T p k).2
theorem V6{l:List Ch}(hi:i<l.length):GV B O T p (l.take (i+1))=GV B O T p (l.take i)++if(tk B O T p l[i].1).2 then[]else[l[i].1]:=by
 unfold GV;rw[ax hi,cC,List.filter_append];congr 1
 rw[List.map_singleton,List.filter_cons,List.filter_nil];cases(tk B O T p l[i].1).2<;>rfl
theorem Yt{l:List Ch}:(GV B O T p l).length<=l.length:=aO (List.length_filter_le ..) (Nat.le_of_eq (bP ..))
abbrev pw(B O T:bY)(p:Int):List c6:=GV B O T p (iU B T)
theorem XI(a:bS B)(b:bS T):k∈pw B O T p↔(tk B O T p k).2=false:=by
 unfold pw GV;rw[List.mem_filter];refine⟨λh=>by simpa using h.2,λh=>⟨?_,by rw[h];rfl⟩⟩
 have ne:=(OO.1 h).2.1;have:=W3 a b k;rw[show decide (look B k≠look T k)=true by simpa usingλe=>ne e.symm]at this
 obtain⟨c,hc,e⟩:=cq.1 this;exact List.mem_map.2 ⟨c,hc,by simpa using e⟩
theorem ZB(a:bS B)(b:bS T):(pw B O T p).Pairwise kl:=by
 unfold pw GV;refine List.Pairwise.sublist List.filter_sublist ?_;exact List.pairwise_map.2 (BV a b)
theorem PJ:∀{l m:List c6},l.Pairwise kl->m.Pairwise kl->(∀k,k∈l↔k∈m)->l=m
 | [],[],_,_,_=>rfl
 | [],q::m,_,_,h=>absurd ((h q).2 (aq ..)) a6
 |p::l,[],_,_,h=>absurd ((h p).1 (aq ..)) a6
 |p::l,q::m,c,a,h=>by
  have c:=aC.1 c;have a:=aC.1 a;have e:p=q:=by
   rcases aw.1 ((h p).1 (aq ..))with e|f
   .exact e
   .rcases aw.1 ((h q).2 (aq ..))with e|g
    .exact e.symm
    .exact absurd (dX (c.1 q g) (a.1 p f)) (bX _)
  subst e;rw[PJ c.2 a.2 λz=>?_]
  constructor
  .intro d
   rcases aw.1 ((h z).1 (aA _ d))with e|b
   .exact absurd (c.1 z d) (by rw[e];exact bX _)
   .exact b
  .intro d
   rcases aw.1 ((h z).2 (aA _ d))with e|b
   .exact absurd (a.1 z d) (by rw[e];exact bX _)
   .exact b
abbrev Cf:=c6×Sd×Sd×Sd
def Ep(B O T:bY)(k:c6):Cf:=(k,As (look B k),As (look O k),As (look T k))
end
section
open Go.Sort
variable {i j:Nat}{t c b:Int}{R:dO}
abbrev Yu:Value:=.func (.func 187) #[] #[]
def EU(dec:Int->Ch)(i j:Int):Bool:=ad5 (dec i) (dec j)
structure SA(dec:Int->Ch)(M:dx)(s:fD)(h:ad)(d:Array Int):Prop where
 own:OwnS Km 5 209 M h s (d.toList.map dec)
 small:d.size<=1000000000
 lt:∀b,M b->b<h.size
variable {dec:Int->Ch} {M:dx} {s:fD} {h:ad} {d:Array Int}
theorem SA.len(a:SA dec M s h d):s.len=d.size:=by have:=a.own.len;simpa using this
theorem SA.upd0{h':ad}(a:SA dec M s h d)(k:Upd No h h'):SA dec M s h' d:=⟨a.own.upd k λ_ _ h=>h,a.small,λb hb=>aD (a.lt b hb) k.size⟩
theorem SA.at(b:SA dec M s h d)(hi:i<d.size):∃a,s.a=some a/\∀j v,(Km (dec d[i]!))[j]? =some v->aZ h (adr (adr a (((i:Int)).toNat*5)) j)=some v:=by
 have hx:(d.toList.map dec)[i]? =some (dec d[i]!):=by
  rw[List.getElem?_map,Array.getElem?_toList,Array.getElem?_eq_getElem hi,getElem!_pos d i hi];rfl
 obtain⟨a,c,_,hv⟩:=(b.own.sl (W:=No) λ_ _ _ h=>h).at hx
 exact⟨a,c,by simpa using hv⟩
theorem SA.rd(b:SA dec M s h d)(e:t=(i:Int))(hi:i<d.size){R:c6->c6->c6->Bool->Bool->Prop}(c:R (dec d[i]!).1 (dec d[i]!).2.1 (dec d[i]!).2.2.1 (dec d[i]!).2.2.2.1 (dec d[i]!).2.2.2.2):
  ((0:Int)<=t/\t<((s.len:Nat):Int))/\∃a:Addr,s.a=some a/\∃v1:c6,aZ h (adr (adr a (t.toNat*5)) 0)=some (.string v1)/\∃v2:c6,aZ h (adr (adr a (t.toNat*5)) 1)=some (.string v2)/\∃v3:c6,aZ h (adr (adr a (t.toNat*5)) 2)=some (.string v3)/\∃v4:Bool,aZ h (adr (adr a (t.toNat*5)) 3)=some (.bool v4)/\∃v5:Bool,aZ h (adr (adr a (t.toNat*5)) 4)=some (.bool v5)/\R v1 v2 v3 v4 v5:=by
 subst e;obtain⟨a,f,hv⟩:=b.at hi;exact⟨by rw[b.len];omega,a,f,_,hv 0 _ rfl,_,hv 1 _ rfl,_,hv 2 _ rfl,_,hv 3 _ rfl,_,hv 4 _ rfl,c⟩
theorem SA.st(c:SA dec M s h d){x:Int}(m:t=(i:Int))(hi:i<d.size)(n:∀h',SA dec M s h' (d.setIfInBounds i x)->Upd M h h'->R h'):
  ((0:Int)<=t/\t<((s.len:Nat):Int))/\∃a:Addr,s.a=some a/\(qV h (some (adr a (t.toNat*5))) 0 [.string (dec x).1,.string (dec x).2.1,.string (dec x).2.2.1,.bool (dec x).2.2.2.1,.bool (dec x).2.2.2.2]/\At (fS h (adr a (t.toNat*5)) 0 [.string (dec x).1,.string (dec x).2.1,.string (dec x).2.2.1,.bool (dec x).2.2.2.1,.bool (dec x).2.2.2.2]) R):=by
 subst m;obtain⟨a,j,hM,o,g,f⟩:=OwnS.setAt c.own (k:=i) (by simpa using hi) (dec x);refine⟨by rw[c.len];omega,a,j,?_⟩;rw[Int.toNat_natCast];have e:Upd M h _:=f.mono λb hb=>.inl (by have hb:b=a.block:=hb;rw[hb];exact hM)
 refine⟨o,bL (n _ ⟨?_,by simpa using c.small,λb hb=>aD (c.lt b hb) f.size⟩ e)⟩
 rw[show(d.setIfInBounds i x).toList.map dec=(d.toList.map dec).take i++dec x::(d.toList.map dec).drop (i+1) by
  rw[Array.toList_setIfInBounds,List.map_set,List.set_eq_take_append_cons_drop,if_pos (by simpa using hi)]]
 exact g
@[simp] theorem acH(d:Array Int)(i j:Nat):(swp d i j).size=d.size:=by simp[swp]
theorem SA.swap(g:SA dec M s h d)(n:c=(i:Int))(m:b=(j:Int))(hi:i<d.size)(o:j<d.size)(t:∀h',SA dec M s h' (swp d i j)->Upd M h h'->R h'):
  ((0:Int)<=b/\b<((s.len:Nat):Int))/\∃a:Addr,s.a=some a/\∃v1:c6,aZ h (adr (adr a (b.toNat*5)) 0)=some (.string v1)/\∃v2:c6,aZ h (adr (adr a (b.toNat*5)) 1)=some (.string v2)/\∃v3:c6,aZ h (adr (adr a (b.toNat*5)) 2)=some (.string v3)/\∃v4:Bool,aZ h (adr (adr a (b.toNat*5)) 3)=some (.bool v4)/\∃v5:Bool,aZ h (adr (adr a (b.toNat*5)) 4)=some (.bool v5)/\
   (((0:Int)<=c/\c<((s.len:Nat):Int))/\∃a:Addr,s.a=some a/\∃w1:c6,aZ h (adr (adr a (c.toNat*5)) 0)=some (.string w1)/\∃w2:c6,aZ h (adr (adr a (c.toNat*5)) 1)=some (.string w2)/\∃w3:c6,aZ h (adr (adr a (c.toNat*5)) 2)=some (.string w3)/\∃w4:Bool,aZ h (adr (adr a (c.toNat*5)) 3)=some (.bool w4)/\∃w5:Bool,aZ h (adr (adr a (c.toNat*5)) 4)=some (.bool w5)/\
    (((0:Int)<=c/\c<((s.len:Nat):Int))/\∃a:Addr,s.a=some a/\(qV h (some (adr a (c.toNat*5))) 0 [.string v1,.string v2,.string v3,.bool v4,.bool v5]/\At (fS h (adr a (c.toNat*5)) 0 [.string v1,.string v2,.string v3,.bool v4,.bool v5]) (λe=>
     (((0:Int)<=b/\b<((s.len:Nat):Int))/\∃a:Addr,s.a=some a/\(qV e (some (adr a (b.toNat*5))) 0 [.string w1,.string w2,.string w3,.bool w4,.bool w5]/\At (fS e (adr a (b.toNat*5)) 0 [.string w1,.string w2,.string w3,.bool w4,.bool w5]) R)))))):=by
 refine g.rd m o (g.rd n hi (g.st (x:=d[j]!) n hi λe k k1=>k.st (x:=d[i]!) m (by simpa using o) λq f p=>t q f (k1.tr p)))
theorem SA.less(f:SA dec M s h d)(m:c=(i:Int))(g:b=(j:Int))(hi:i<d.size)(n:j<d.size){R:Int->dO}(p:∀h' e,SA dec M s h' d->Upd No h h'->decide (e<0)=EU dec d[i]! d[j]!->R e h'):
  ((0:Int)<=c/\c<((s.len:Nat):Int))/\∃a:Addr,s.a=some a/\∃v1:c6,aZ h (adr (adr a (c.toNat*5)) 0)=some (.string v1)/\∃v2:c6,aZ h (adr (adr a (c.toNat*5)) 1)=some (.string v2)/\∃v3:c6,aZ h (adr (adr a (c.toNat*5)) 2)=some (.string v3)/\∃v4:Bool,aZ h (adr (adr a (c.toNat*5)) 3)=some (.bool v4)/\∃v5:Bool,aZ h (adr (adr a (c.toNat*5)) 4)=some (.bool v5)/\
   (((0:Int)<=b/\b<((s.len:Nat):Int))/\∃a:Addr,s.a=some a/\∃w1:c6,aZ h (adr (adr a (b.toNat*5)) 0)=some (.string w1)/\∃w2:c6,aZ h (adr (adr a (b.toNat*5)) 1)=some (.string w2)/\∃w3:c6,aZ h (adr (adr a (b.toNat*5)) 2)=some (.string w3)/\∃w4:Bool,aZ h (adr (adr a (b.toNat*5)) 3)=some (.bool w4)/\∃w5:Bool,aZ h (adr (adr a (b.toNat*5)) 4)=some (.bool w5)/\
    HV PG Yu [.agg #[.string v1,.string v2,.string v3,.bool v4,.bool v5],.agg #[.string w1,.string w2,.string w3,.bool w4,.bool w5]] [.c (.int .i64)] R h):=
 f.rd m hi (f.rd g n ((adv M).call (dec d[i]!) (dec d[j]!) trivial λh' e k o=>p h' e (f.upd0 k) k o))
end
section
open Go.Sort
variable {dec:Int->Ch} {M:dx} {s:fD} {h:ad} {d:Array Int}
@[simp] theorem Zb(lt:Int->Int->Bool)(hi first root:Nat)(d:Array Int):(siftDown lt hi first root d).size=d.size:=by
 fun_induction siftDown lt hi first root d<;>simp_all
@[simp] theorem IP(lt:Int->Int->Bool)(hi first:Nat):∀(k:Nat) (d:Array Int),(heapBuild lt hi first k d).size=d.size
 |0,d=>rfl
 |k+1,d=>by rw[heapBuild,IP lt hi first k];simp
theorem aa7{root hi first:Nat}(J:SA dec M s h d)(hb:first+hi<=d.size){K:Unit->dO}(F:∀h',SA dec M s h' (siftDown (EU dec) hi first root d)->Upd M h h'->K () h')(Q:root<=1000000000):
  dQ 314 [.slice s.a s.len s.cap,.int .i64 root,.int .i64 hi,.int .i64 first,Yu] K h:=by
 refine dg (iX s root hi first Yu) ox Tryz.func314 Tryz.call314 ?_
 dsimp only[iX,za,GL,BE,OG,aaW,cz,fj,jX,ace,cM,ga,Wh,Wg];have V:=J.small;refine ez (λ(g:Nat×Array Int) (t:Int) h'=>t=(g.1:Int)/\SA dec M s h' g.2/\g.2.size=d.size/\siftDown (EU dec) hi first g.1 g.2=siftDown (EU dec) hi first root d/\Upd M h h'/\g.1<=1000000000) (λg=>hi-g.1) (root,d)
  ⟨rfl,J,rfl,rfl,eM _ _,Q⟩ ?_
 rintro I ⟨i,a⟩ t H ⟨ht,k,v,m,u,B⟩ U;(try simp only at ht k v m B)
 subst ht;have N:ac .i64 (ac .i64 (2*(i:Int))+1)=((2*i+1:Nat):Int):=by rw[dI (x:=2*(i:Int)) a4,dI a4];omega
 have G:ac .i64 (((2*i+1:Nat):Int)+1)=((2*i+2:Nat):Int):=by rw[dI a4];omega
 rw[N];refine ar (λT=>?_) λC=>?_
 .refine F _ ?_ u
  rw[<-m,siftDown,dif_pos a4];exact k
 .have C:2*i+1<hi:=by omega
  refine eF (λt h'=>SA dec M s h' a/\Upd No H h'/\∃c:Nat,t=(c:Int)/\c=if 2*i+2<hi/\(EU dec) a[first+(2*i+1)]! a[first+(2*i+1)+1]! =true then 2*i+2 else 2*i+1) (λR L=>?_) ?_
  .refine eF (λt h'=>SA dec M s h' a/\Upd No H h'/\(t=true↔2*i+2<hi/\(EU dec) a[first+(2*i+1)]! a[first+(2*i+1)+1]! =true)) (λR2 p=>?_) ?_
   .show fo (decide (ac .i64 (((2*i+1:Nat):Int)+1)<(hi:Int))) _ _
    rw[G];refine ar (λf=>?_) λf=>p _ _ ⟨k,eM _ _,a9⟩
    show(((0:Int)<=ac .i64 ((first:Int)+((2*i+1:Nat):Int))/\_)/\_)
    refine k.less (i:=first+(2*i+1)) (j:=first+(2*i+1)+1) (by rw[dI a4];omega) (by rw[dI (x:=(first:Int)+_) a4,dI a4];omega) a4 a4 λY W b n D=>p _ _ ⟨b,n,?_⟩
    rw[D];simp;omega
   .rintro t h' ⟨b,n,q⟩
    refine eh (λf=>?_) λf=>?_
    .show R (ac .i64 (((2*i+1:Nat):Int)+1)) _
     rw[G];exact L _ _ ⟨b,n,_,rfl,by rw[if_pos (q.1 f)]⟩
    .exact L _ _ ⟨b,n,_,rfl,by rw[if_neg λO=>by rw[q.2 O]at f;cases f]⟩
  .rintro t h' ⟨b,n,c,rfl,hc⟩
   have S:c<hi/\i<c:=by rw[hc];split<;>omega
   refine b.less (i:=first+i) (j:=first+c) (by rw[dI a4];omega) (by rw[dI a4];omega) a4 a4 λX Z y P E=>?_
   have o:=u.tr (n.tr P).wide;rw[E];have e:siftDown (EU dec) hi first i a=if !(EU dec) a[first+i]! a[first+c]! then a else siftDown (EU dec) hi first c (swp a (first+i) (first+c)):=by
    rw[siftDown,dif_neg a4];by_cases w:2*i+2<hi/\(EU dec) a[first+(2*i+1)]! a[first+(2*i+1)+1]! =true
    .rw[if_pos (by simp only[bC,decide_eq_true_iff];exact w),dif_pos w.1]
     rw[if_pos w]at hc;rw[hc]
    .rw[if_neg (by simp only[bC,decide_eq_true_iff];exact w)]
     rw[if_neg w]at hc;rw[hc]
   refine eh (λf=>?_) λf=>?_
   .refine F _ ?_ o
    rw[<-m,e,if_pos f];exact y
   .refine y.swap (i:=first+i) (j:=first+c) (by rw[dI a4];omega) (by rw[dI a4];omega) a4 a4 λh6 A z=>?_
    refine U (c,swp a (first+i) (first+c)) _ _ ⟨rfl,A,by simp[v],?_,o.tr z,by(try simp only);omega⟩ (by(try simp only);omega)
    rw[<-m,e,if_neg (by rw[f];simp)]
end
section
open Go.Sort
variable {dec:Int->Ch} {M:dx} {s:fD} {h:ad} {d:Array Int}
end
section
open Go.Sort
variable {dec:Int->Ch} {M:dx} {s:fD} {h:ad} {d:Array Int}
@[simp] theorem HX(lt:Int->Int->Bool):∀(j:Nat) (d:Array Int),(shiftDown lt j d).size=d.size
 |0,d=>rfl
 |j+1,d=>by rw[shiftDown];split;rfl;rw[HX lt j];simp
@[simp] theorem ZL(lt:Int->Int->Bool)(e j:Nat)(d:Array Int):(shiftUp lt e j d).size=d.size:=by
 fun_induction shiftUp lt e j d<;>simp_all
theorem Zg{a e:Nat}(hs:SA dec M s h d)(ha:a<e)(he:e<=d.size){K:Bool->dO}(Q:∀h',SA dec M s h' (partialInsertionSort (EU dec) d a e).1->Upd M h h'->K (partialInsertionSort (EU dec) d a e).2 h'):
  gl 298 [.slice s.a s.len s.cap,.int .i64 a,.int .i64 e,Yu] K h:=by
 refine dg (ft s a e Yu) jY Tryz.func298 Tryz.call298 ?_;dsimp only[ft,aaX,GL,BE,aaW,cz,fj,jX,ace,cM,ga,aaV,za,OG];have hsm:=hs.small;refine ez (λ(g:Nat×Nat×Array Int) (t:Int×Int) h'=>t.1=(g.2.1:Int)/\t.2=5-(g.1:Int)/\SA dec M s h' g.2.2/\g.2.2.size=d.size/\partialIns (EU dec) a e g.1 g.2.1 g.2.2=partialInsertionSort (EU dec) d a e/\Upd M h h'/\g.1<=5/\a<g.2.1/\g.2.1<=e) (λg=>g.1) (5,a+1,d)
  ⟨by(try simp only);rw[dI a4];rfl,by(try simp only);omega,hs,rfl,rfl,eM _ _,a6,a6,by(try simp only);omega⟩ ?_
 rintro I ⟨st,i0,v⟩ ⟨t1,t2⟩ h1 ⟨ht1,ht2,F,hz1,x,hu1,hst,W,hie⟩ hI;(try simp only at ht1 ht2 F hz1 x hst W hie)
 subst ht1 ht2;refine ar (λhlt=>?_) λhge=>?_
 .obtain⟨st,rfl⟩:∃k,st=k+1:=⟨st-1,by have:5-(st:Int)<5:=hlt;omega⟩
  refine eF (λt h'=>∃T U,t=(T:Nat)/\SA dec M s h' U/\U.size=d.size/\partialIns (EU dec) a e st T U=partialInsertionSort (EU dec) d a e/\Upd M h h'/\a<T/\T<=e) (λR hR=>?_) ?_
  .refine ez (λ(i:Nat) (t:Int) h'=>t=(i:Int)/\SA dec M s h' v/\Upd No h1 h'/\scanSorted (EU dec) v e i=scanSorted (EU dec) v e i0/\a<i/\i<=e) (λi=>e-i) i0 ⟨rfl,F,eM _ _,rfl,W,hie⟩ ?_
   rintro I2 i t h' ⟨rfl,w,k2,V,n,f⟩ hI2;refine eF (λc O=>SA dec M s O v/\Upd No h' O/\(c=true↔i<e/\(EU dec) v[i]! v[i-1]! =false)) (λR2 hR2=>?_) ?_
   .refine ar (λhle=>?_) λhgt=>hR2 _ _ ⟨w,eM _ _,a9⟩
    exact w.less (i:=i) (j:=i-1) rfl (by rw[dI a4];omega) a4 a4 λB e3 p k3 he3=>hR2 _ _ ⟨p,k3,by rw[he3];simp;omega⟩
   .rintro c O ⟨p,k3,hc⟩
    have z:=hu1.tr (k2.tr k3).wide;refine eh (λh2=>?_) λh2=>?_
    .have hh:=hc.1 h2
     refine hI2 (i+1) _ _ ⟨by rw[dI a4];rfl,p,k2.tr k3,?_,a4,a4⟩ a4
     rw[<-V];conv=>rhs;rw[scanSorted]
     rw[if_pos (by simp[hh])]
    .have hsi:scanSorted (EU dec) v e i=i:=by
      rw[scanSorted,if_neg];intro hh;simp only[bC,decide_eq_true_iff,Bool.not_eq_eq_eq_not,Bool.not_true]at hh;rw[hc.2 hh]at h2;cases h2
     have b:=x;rw[partialIns]at b;simp only[<-V,hsi]at b;refine eh (λB=>?_) λB=>?_
     .have B:i=e:=by
       have:(i:Int)=e:=by simpa using B
       omega
      rw[if_pos B]at b;rw[<-b]at Q;exact Q _ p z
     .have B:i≠e:=λe'=>by subst e';simp at B
      rw[if_neg B]at b;have we:ac .i64 ((e:Int)-(a:Int))=((e-a:Nat):Int):=by rw[dI a4];omega
      show fo (decide (ac .i64 ((e:Int)-(a:Int))<50)) _ _
      rw[we];refine ar (λh4=>?_) λh4=>?_
      .rw[if_pos a4]at b
       rw[<-b]at Q;exact Q _ p z
      .rw[if_neg a4]at b
       have hi1:1<=i:=a4
       refine p.swap (i:=i) (j:=i-1) rfl (by rw[dI a4];omega) a4 a4 λh5 G hu5=>?_
       have J:(swp v i (i-1)).size=d.size:=by simp[hz1]
       generalize swp v i (i-1)=d5 at G J b;refine eF (λ_ h'=>SA dec M s h' (if i-a>=2 then shiftDown (EU dec) (i-1) d5 else d5)/\Upd M h h') (λR3 q=>?_) ?_
       .have wi:ac .i64 ((i:Int)-(a:Int))=((i-a:Nat):Int):=by rw[dI a4];omega
        show fo (decide (ac .i64 ((i:Int)-(a:Int))>=2)) _ _
        rw[wi];refine ar (λh6=>?_) λh6=>?_
        .rw[if_pos a4]at q
         refine ez (λ(g:Nat×Array Int) (t:Int) h'=>t=(g.1:Int)/\SA dec M s h' g.2/\g.2.size=d.size/\shiftDown (EU dec) g.1 g.2=shiftDown (EU dec) (i-1) d5/\Upd M h h'/\g.1<e) (λg=>g.1) (i-1,d5)
          ⟨by rw[dI a4];(try simp only);omega,G,J,rfl,z.tr hu5,by(try simp only);omega⟩ ?_
         rintro I4 ⟨j,d6⟩ t h7 ⟨ht,E,hz7,o,Z,P⟩ D;(try simp only at ht E hz7 o P)
         subst ht;refine ar (λh8=>?_) λh8=>?_
         .obtain⟨j,rfl⟩:∃k,j=k+1:=⟨j-1,a4⟩
          have S:ac .i64 (((j+1:Nat):Int)-1)=(j:Int):=by rw[dI a4];omega
          rw[shiftDown]at o;refine E.less (i:=j+1) (j:=j) rfl S a4 a4 λhL eL hsL kL C=>?_
          have u:=Z.tr kL.wide;rw[C];refine eh (λh9=>?_) λh9=>?_
          .rw[if_pos h9]at o
           exact q _ _ ⟨by rw[<-o];exact hsL,u⟩
          .rw[if_neg (by rw[h9];simp)]at o
           refine hsL.swap (i:=j+1) (j:=j) rfl S a4 a4 λy Y hu10=>?_
           exact D (j,swp d6 (j+1) j) _ _ ⟨S,Y,by simp[hz7],o,u.tr hu10,by(try simp only);omega⟩ a6
         .have:j=0:=by omega
          subst this;exact q _ _ ⟨by rw[<-o];exact E,Z⟩
        .rw[if_neg a4]at q
         exact q _ _ ⟨G,z.tr hu5⟩
       .rintro _ h6 ⟨L,X⟩
        have H:(if i-a>=2 then shiftDown (EU dec) (i-1) d5 else d5).size=d.size:=by split<;>simp[J]
        generalize (if i-a>=2 then shiftDown (EU dec) (i-1) d5 else d5)=d6 at L H b
        have wi:ac .i64 ((e:Int)-(i:Int))=((e-i:Nat):Int):=by rw[dI a4];omega
        show fo (decide (ac .i64 ((e:Int)-(i:Int))>=2)) _ _
        rw[wi];refine ar (λh7=>?_) λh7=>?_
        .rw[if_pos a4]at b
         refine ez (λ(g:Nat×Array Int) (t:Int) h'=>t=(g.1:Int)/\SA dec M s h' g.2/\g.2.size=d.size/\shiftUp (EU dec) e g.1 g.2=shiftUp (EU dec) e (i+1) d6/\Upd M h h'/\1<=g.1/\g.1<=e) (λg=>e-g.1) (i+1,d6)
          ⟨by rw[dI a4];rfl,L,H,rfl,X,a6,by(try simp only);omega⟩ ?_
         rintro I4 ⟨j,d7⟩ t h8 ⟨ht,N,A,m,hu8,hj1,P⟩ D;(try simp only at ht N A m hj1 P)
         subst ht;refine ar (λh9=>?_) λh9=>?_
         .have S:ac .i64 ((j:Int)-1)=((j-1:Nat):Int):=by rw[dI a4];omega
          rw[shiftUp,if_pos a4]at m;refine N.less (i:=j) (j:=j-1) rfl S a4 a4 λhL eL hsL kL C=>?_
          have u:=hu8.tr kL.wide;rw[C];refine eh (λy=>?_) λy=>?_
          .rw[if_pos y]at m
           exact hR _ _ ⟨i,d7,rfl,hsL,A,by rw[m];exact b,u,n,f⟩
          .rw[if_neg (by rw[y];simp)]at m
           refine hsL.swap (i:=j) (j:=j-1) rfl S a4 a4 λh11 hs11 hu11=>?_
           exact D (j+1,swp d7 j (j-1)) _ _ ⟨by rw[dI a4];rfl,hs11,by simp[A],m,u.tr hu11,a6,by(try simp only);omega⟩ (by(try simp only);omega)
         .rw[shiftUp,if_neg a4]at m
          exact hR _ _ ⟨i,d7,rfl,N,A,by rw[m];exact b,hu8,n,f⟩
        .rw[if_neg a4]at b
         exact hR _ _ ⟨i,d6,rfl,L,H,b,X,n,f⟩
  .rintro t h' ⟨T,U,rfl,w,hz2,b,hu2,n,f⟩
   exact hI (st,T,U) _ _ ⟨rfl,by(try simp only);rw[dI a4];omega,w,hz2,b,hu2,by(try simp only);omega,n,f⟩ a6
 .have:st=0:=by have:¬5-(st:Int)<5:=hge;omega
  subst this;rw[partialIns]at x;rw[<-x]at Q;exact Q _ F hu1
end
section
open Go.Sort
variable {dec:Int->Ch} {M:dx} {s:fD} {h:ad} {d:Array Int}
theorem adQ(x:Int):ac .u64 x=x%18446744073709551616:=by
 simp[ac,al,IntKind.signed]
theorem and_le_right(x:Int){m:Int}(a:0<=m)(hm:m<18446744073709551616):0<=ac .u64 ((aB (al .u64) x&&&aB (al .u64) m).toNat:Int)/\ac .u64 ((aB (al .u64) x&&&aB (al .u64) m).toNat:Int)<=m:=by
 have c:(aB (al .u64) x&&&aB (al .u64) m).toNat<=(aB (al .u64) m).toNat:=by
  rw[BitVec.toNat_and];exact Nat.and_le_right
 have b:((aB (al .u64) m).toNat:Int)=m:=by
  show((aB 64 m).toNat:Int)=m
  rw[BitVec.toNat_ofInt];have:m%((2^64:Nat):Int)=m:=Int.emod_eq_of_lt a a4;rw[this];omega
 rw[adQ];omega
end
section
open Go.Sort
variable {dec:Int->Ch} {M:dx} {s:fD} {h:ad} {d:Array Int}
end
section
variable {l B O T:bY}{x:Hs}{kind p:Int}{t:Tr}{K:Sd->dO}{nb no nt:Nat}
theorem Few.mono{n m:Nat}{L:bY}(f:Few n L)(h:n<=m):Few m L:=⟨f.up,aO f.len h,f.fit⟩
theorem Pd{W:dx}{h:ad}{b:Nat}(t:RadAt W h b l)(hW:∀y,W y->y<h.size)(hr:bS l)(k:c6){K:c6×Bool->dO}
  (T:∀h',Upd No h h'->K ((look l k).getD ⟨#[]⟩,(look l k).isSome) h'):sJ 259 [gZ b,.string k] K h:=by
 refine dg (Gl (some ⟨b,0,none⟩) k) QF Tryz.func259 Tryz.call259 ?_;dsimp only[Gl,kF,Kt,qW,cz,jX,fj,nU,bR,cJ,zY,wR,cM];refine EF (.inr ⟨b,rfl,t⟩) hW λh2 b2 t2 Y _=>?_
 obtain⟨w,F,r1,r2,r3⟩:=t2.ex;have d:∀v,sE w F k.data.toList v↔look l k=some v:=λv=>by
  rw[<-jy,r3];constructor
  .rintro⟨p,hp,e1,rfl⟩
   rw[<-qS.1 e1];exact ui hr hp
  .intro hp;exact⟨_,mX hp,rfl,rfl⟩
 refine ez (λ(g:c6×Nat×c6×Option c6×Fo) (t:c6×aT) h'=>t=(g.1,some ⟨g.2.1,0,none⟩)/\RxN W h' g.2.1 g.2.2.1 g.2.2.2.1 g.2.2.2.2/\fq g.2.2.2.2/\(∀v,sE g.2.2.2.1 g.2.2.2.2 g.1.data.toList v↔look l k=some v)/\Upd No h h') (λg=>g.1.size) (k,b2,⟨#[]⟩,w,F) ⟨rfl,r1,r2,d,Y⟩ ?_
 clear d r1 r2 r3 t2;rintro I ⟨kk,c,sl,w,F⟩ t h5 ⟨rfl,r,hc,d,hu⟩ hI;(try simp only at r hc d)
 simp only[dZ];by_cases H:kk=⟨#[]⟩
 .subst H
  refine ag.2 (O5 r ?_);have e:look l k=w:=Option.ext λv=>by
   rw[<-d v];constructor
   .rintro(⟨_,h⟩|h)
    .exact h
    .exact absurd rfl (pu hc h)
   .intro h;exact .inl ⟨rfl,h⟩
  rw[e]at T;exact T _ hu
 .rw[decide_eq_false H]
  refine ay.2 ?_;have u:kk.data.toList≠[]:=λe=>H (by cases kk;exact congrArg lJ (Array.toList_inj.1 e))
  obtain⟨c0,hc0,N⟩:=NG u;refine⟨c0,Int.le_refl _,hc0,?_⟩;have hr0:=r;obtain⟨val,s,ow,ks,hb,_,hs,hcap,hF⟩:=r;have hL:=lw.1 hF;have D:=dY.1 hc;have o:(∀v,¬qC F kk.data.toList v)->K ((⟨#[]⟩:c6),false) h5:=λC=>by
   have e:look l k=none:=by
    cases e:look l k with
    |none=>rfl
    |some v=>
     rcases(d v).2 e with⟨h,_⟩|h
     .exact absurd h u
     .exact absurd h (C v)
   rw[e]at T;exact T _ hu
  refine EG hr0 hc (c:=c0.toNat) (UInt8.toNat_lt _) λi ok hil S E J=>?_
  rw[N]at S E J;cases ok with
  |false=>
   refine ay.2 (o λv d=>?_)
   obtain⟨n',G,e,_⟩:=qR hc d;obtain⟨j,U,rfl⟩:=bH G;rcases ci j i with hl|hl
   .have:=S j U hl;omega
   .have h1:=E j U hl
    have h2:=E i a4 (aj _);rcases ci i j with P|P
    .have h3:=cp.1 D.1 i j a4 U P
     omega
    .have:i=j:=by omega
     subst this;have:=J.2 ⟨U,e⟩;cases this
  |true=>
   obtain⟨hi,R⟩:=J.1 rfl;refine ag.2 ⟨_,rfl,s,eA (i:=3) hb,?_⟩;obtain⟨kb,O,V,B,A⟩:=hL.at hi;have q:F.toL[i]∈F.toL:=aF hi;have z:=D.2 _ q;obtain⟨a,ha,_,hvv⟩:=hs.at0 V;have L:=hs.len;rw[hL.1]at L;have f:∀v,qC F kk.data.toList v↔vr F.toL[i] kk.data.toList v:=λv=>by
    constructor
    .intro d
     obtain⟨n',G,e,hN⟩:=qR hc d;rw[<-yv hc G q a4];exact hN
    .intro d;exact fF.2 ⟨_,q,d⟩
   refine⟨⟨by(try simp only);omega,by(try simp only);omega⟩,a,ha,some ⟨kb,0,none⟩,hvv,_,rfl,?_⟩
   obtain⟨kval,kss,kow,kks,Q,_⟩:=id A;generalize F.toL[i]=m at B A z f R;obtain⟨lab,wk,Fk⟩:=m;(try simp only at B A z R Q)
   refine⟨O,eA (i:=0) Q,Yp (λx n=>?_) λC=>?_⟩
   .rw[B]at n
    have hlne:lab.length≠0:=λe=>z.1 (aK.1 e)
    have Z:x.size<kk.size:=by
     rw[<-kP x,<-kP kk,n,List.length_append];omega
    refine ag.2 (hI (x,kb,O,wk,Fk) _ _ ⟨rfl,A,z.2.2,λv=>?_,hu⟩ Z)
    rw[<-d v];constructor
    .intro h;exact .inr ((f v).2 ⟨_,n,h⟩)
    .rintro(⟨h,_⟩|h)
     .exact absurd h u
     .obtain⟨r',e,X⟩:=(f v).1 h
      (try simp only at e)
      rw[n]at e;rw[List.append_cancel_left e];exact X
   .rw[B]at C
    refine ay.2 (o λv h=>?_)
    obtain⟨r',e,_⟩:=(f v).1 h;exact C r' e
theorem ZF{W:dx}{h:ad}(i:TreeIs W h kind x t l)(f:∀y,W y->y<h.size)(e:bS l)(j:l.length<=1000000)(k:c6)(g:∀h',Upd No h h'->K ((look l k).getD ⟨#[]⟩,(look l k).isSome) h'):sJ 188 [Ap t,.string k] K h:=by
 refine dg (yU t k) .nil Tryz.func188 Tryz.call188 ?_;dsimp only[yU,bh,zh,aE,pW,AV,ge,kH,rC];rcases i with⟨_,b,rfl,t⟩|⟨_,b,rfl,t⟩
 .refine aQ λm b1 k1=>⟨_,vc b1 0,ag.2 ⟨_,iq b1 1 0,_,iq b1 1 1,_,iq b1 1 2,_,vc b1 4,?_⟩⟩
  exact Qf (TrieAt.upd0 k1 t) (λy d=>aD (f y d) k1.size) e j k λc a=>g c (k1.tr a)
 .refine aQ λm b1 k1=>⟨_,vc b1 0,ay.2 ⟨_,vc b1 5,?_⟩⟩
  exact Pd (t.upd0 k1) (λy d=>aD (f y d) k1.size) e k λc a=>g c (k1.tr a)
theorem Um{W:dx}{h:ad}(i:TreeIs W h kind x t l)(m:∀y,W y->y<h.size)(j:bS l)(n:l.length<=1000000)(k:c6)(o:∀h',Upd No h h'->K (As (look l k)) h'):EY 121 [Ap t,.string k] K h:=by
 refine dg (GB t k) .nil Tryz.func121 Tryz.call121 ?_;dsimp only[GB,dE,rx,GJ,y9,my,bh,ao,aE,vA,bo,iR,kH,rC];refine aQ λu b1 k1=>aQ λs b2 d=>?_
 have c1:=d.get0 b1;have a:=k1.tr d;refine⟨_,vc c1 0,_,vc c1 1,_,vc c1 2,_,vc c1 3,_,vc c1 4,_,vc c1 5,?_⟩;refine ZF (i.upd0 a) (λy g=>aD (m y g) a.size) j n k λq f=>?_
 refine co (c:= [.string (⟨#[]⟩:c6),.bool false]) (vs:=abB (As (look l k))) (f.get0 b2) rfl λp e b=>?_
 exact⟨_,vc e 0,_,vc e 1,o p ((a.tr f).own b k1.size)⟩
theorem aac{W:dx}{h:ad}(i:TreeIs W h kind x t l)(F:∀y,W y->y<h.size)(J:bS l)(P:Fit l)(H:l.length<=1000000)(k:c6)(o:Option c6)(q:k.size<=256)(E:(o.getD ⟨#[]⟩).size<=4096){K:Tr->dO}
  (L:∀h' a,TreeIs W h' kind x a (Ky l k o)->Upd No h h'->K a h'):Zi 123 [Ap t,.string k,.agg #[.string (As o).1,.bool (As o).2]] K h:=by
 refine dg (GA t k (As o)) QN Tryz.func123 Tryz.call123 ?_;dsimp only[GA,iR,dE,qD,uj,rC,rx,y9,my,bh,ao,aE,z9,Q6,kH,fY,bo];refine aQ λI b1 k1=>aQ λu b2 B=>aQ λj b3 w=>?_
 have U:=bB b1;have z2:=bB b2;have X:=bB b3;have Z:h.size<=I.size:=k1.size;have Y:I.size<=u.size:=B.size;have V:=w.size;have b:=(k1.tr B).tr w;have c1:=w.get0 (B.get0 b1);have A:=w.get0 b2;have C:Pro W h j h.size:=.inr a4;have D:Pro W h j u.size:=.inr a4;refine eF (λ_ h'=>∃a,TreeIs (Pro W h j) h' kind x a (Ky l k o)/\h'[h.size]? =some (.cells (iM a).toArray 53 (0,0))/\h'[u.size]? =some (.cells (iM rL).toArray 53 (0,0))/\Upd (· =h.size) j h') (λR S=>?_) ?_
 .have fin:∀{g:ad} {a:Tr},Upd No j g->TreeIs (Pro W h j) g kind x a (Ky l k o)->qV g (some (aR h)) 0 (iM a)/\At (fS g (aR h) 0 (iM a)) (λG=>R () G):=λ{g a} f p=>
   co (c:=iM t) (vs:=iM a) (f.get0 c1) rfl λG O d=>S _ _ ⟨a,p.updM d λy e=>.inl (by have e:y=h.size:=e;rw[e];exact C),O,d.oth (f.get0 b3) a4,f.wide.tr d⟩
  cases o with
  |some v=>
   refine⟨true,vc A 1,ay.2 ⟨_,vc c1 0,_,vc c1 1,_,vc c1 2,_,vc c1 3,_,vc c1 4,_,vc c1 5,v,vc A 0,?_⟩⟩;exact CN (i.pro b) (Pro.lt F b) J H (k,v) q E λg a p _ f=>fin f p
  |none=>
   refine⟨false,vc A 1,ag.2 ⟨_,vc c1 0,_,vc c1 1,_,vc c1 2,_,vc c1 3,_,vc c1 4,_,vc c1 5,?_⟩⟩;exact FF (i.pro b) (Pro.lt F b) J P H k q λg a p _ f=>fin f p
 .rintro _ h6 ⟨a,N,n,Q,z⟩
  refine⟨_,vc n 0,_,vc n 1,_,vc n 2,_,vc n 3,_,vc n 4,_,vc n 5,?_⟩;refine co (c:=iM rL) (vs:=iM a) Q rfl λT m s=>?_
  refine⟨_,vc m 0,_,vc m 1,_,vc m 2,_,vc m 3,_,vc m 4,_,vc m 5,L T a ((N.updM s λy e=>.inl (by have e:y=u.size:=e;rw[e];exact D)).less Pro.sub) ?_⟩
  exact(b.own z (aj _)).own s a4
def UU(k:c6)(o:Option c6):Prop:=∀{W:dx} {x:Hs} {h:ad} {kind:Int} {t:Tr} {l:bY},TreeIs W h kind x t l->(∀y,W y->y<h.size)->bS l->Fit l->l.length<=1000000->k.size<=256->(o.getD ⟨#[]⟩).size<=4096->∀{K:Tr->dO},
 (∀h' t',TreeIs W h' kind x t' (Ky l k o)->Upd No h h'->K t' h')->Zi 123 [Ap t,.string k,.agg #[.string (As o).1,.bool (As o).2]] K h
theorem acL(k:c6)(o:Option c6):UU k o:=λi d b c e f a _ g=>aac i d b c e k o f a g
def ach(B T:bY):Prop:=∀{W W':dx} {x x':Hs} {h:ad} {kind kind':Int} {t u:Tr},TreeIs W h kind x t B->TreeIs W' h kind' x' u T->∀{K:fD×Int->dO},(kS t u=false->∀h',Upd No h h'->K (⟨none,0,0⟩,11) h')->(kS t u=true->∀h' s',OwnS Km 5 209 (λy=>h.size<=y) h' s' (iU B T)->Upd No h h'->K (s',0) h')->NI 120 [Ap t,Ap u] K h
theorem B7(b:0<=p)(c:p<=3):FX p≠⟨#[]⟩:=by
 unfold FX;have a:p=0\/p=1\/p=2\/p=3:=a4
 rcases a with rfl|rfl|rfl|rfl<;>decide
abbrev vu(c:Cf):c4:= [.string c.1,.string c.2.1.1,.bool c.2.1.2,.string c.2.2.1.1,.bool c.2.2.1.2,.string c.2.2.2.1,.bool c.2.2.2.2]
abbrev Zn:Cf:=(⟨#[]⟩,(⟨#[]⟩,false),(⟨#[]⟩,false),(⟨#[]⟩,false))
theorem NW(c:Cf):(vu c).length=7/\0<7:=⟨rfl,a4⟩
theorem Mm{t:TypeId}{M:dx}{h:ad}{so:fD}{out:List Cf}{c:Cf}{K:fD->dO}(e:OwnS vu 7 t M h so out)(hM:∀b,h.size<=b->M b)(j:out.length+1<=100000000)
  (i:∀s' h',OwnS vu 7 t M h' s' (out++ [c])->Upd M h h'->K s' h'):
  At (hnew h (vu c) t) λa=>∃xs,SRow a (some (aR h)) (1*7) xs/\AppP (some (vu Zn)) 7 88 t so.a so.len so.cap 1 xs a K:=by
 refine aQ λa b1 k1=>?_
 have k:=bB b1;have g:OwnS vu 7 t (λ_=>True) a ⟨some (aR h),1,1⟩ [c]:=⟨rfl,NW,aj _,.inr ⟨h.size,[],rfl,trivial,b1,rfl⟩⟩
 refine⟨_,(g.sl (W:=No) λ_ _ _ h=>h).srow,?_⟩
 refine AppP.own (ys:= [c]) (e.upd k1 λ_ _ h=>h) rfl rfl rfl rfl a4 (by simp only[List.length_singleton];omega) (hM _ k1.size) λs' h' d f=>?_
 exact i s' h' d (k1.wide.tr f)
set_option maxHeartbeats 1000000 in
theorem FY{W:dx}{h:ad}{tb to tt:Tr}(ib:TreeIs W h kind x tb B)(io:TreeIs W h kind x to O)(it:TreeIs W h kind x tt T)(hW:∀y,W y->y<h.size)(fB:Few nb B)(fO:Few no O)(fT:Few nt T)(lb:nb<=1000)(lo:no<=1000)(lt:nt<=1000)
  (hp0:0<=p)(hp1:p<=3)(hdf:ach B T)(hset:∀c∈iU B T,UU c.1 (tk B O T p c.1).1){K:Tr×fD×Int->dO}
  (hk0:p=0->pw B O T p≠[]->∀h' s',OwnS vu 7 85 (λy=>h.size<=y) h' s' ((pw B O T p).map (Ep B O T))->Upd No h h'->K (to,s',8) h')
  (hk:(p=0->pw B O T p= [])->∀h' t' s',TreeIs W h' kind x t' (jx B O T p)->OwnS vu 7 85 (λy=>h.size<=y) h' s' ((pw B O T p).map (Ep B O T))->Upd No h h'->K (t',s',0) h'):
  abU 70 [Ap tb,Ap to,Ap tt,.int .i64 p] K h:=by
 refine dg (Ka tb to tt p) Tz Tryz.func70 Tryz.call70 ?_;dsimp only[Ka,bo,iR,dE,nv,uj,rC,rx,WB,WC,Q6,UY,GL,MU,GJ,y9,my,bh,ao,aE,ace,cM,ga,jX,fj,mH,vA,z9,wU,zZ,Tg,kH,Wl,fY];refine aQ λh1 b1 k1=>aQ λh2 b2 k2=>aQ λh3 b3 k3=>aQ λh4 b4 k4=>?_
 have z1:=bB b1;have z2:=bB b2;have z3:=bB b3;have z4:=bB b4;have s1:h.size<=h1.size:=k1.size;have s2:h1.size<=h2.size:=k2.size;have s3:h2.size<=h3.size:=k3.size;have s4:=k4.size;have k04:=((k1.tr k2).tr k3).tr k4;have c0:=k4.get0 (k3.get0 (k2.get0 b1));have c1:=k4.get0 (k3.get0 b2);have c2:=k4.get0 b3;refine Df ?_;rw[dZ,decide_eq_false (B7 hp0 hp1)];refine ag.2 ?_
 refine eF (λt h'=>t=false/\Upd No h4 h') (λR U=>?_) ?_
 .refine⟨_,vc c0 0,_,vc c0 1,_,vc c0 2,_,vc c0 3,_,vc c0 4,_,vc c0 5,_,vc c1 0,_,vc c1 1,_,vc c1 2,_,vc c1 3,_,vc c1 4,_,vc c1 5,?_⟩
  refine xk (t:=tb) (u:=to) λh5 k5=>?_
  rw[AB ib io];have Y:=k5.get0 c0;have V:=k5.get0 c2;refine ag.2 ⟨_,vc Y 0,_,vc Y 1,_,vc Y 2,_,vc Y 3,_,vc Y 4,_,vc Y 5,_,vc V 0,_,vc V 1,_,vc V 2,_,vc V 3,_,vc V 4,_,vc V 5,?_⟩;refine xk (t:=tb) (u:=tt) λh6 k6=>?_
  rw[AB ib it];exact U _ _ ⟨rfl,k5.tr k6⟩
 rintro t h50 ⟨rfl,X⟩;have Y:=X.get0 c0;have d1:=X.get0 c1;have V:=X.get0 c2;have d3:=X.get0 b4;have k050:=k04.tr X;have s50:=X.size;have nB:=fB.len;have nO:=fO.len;have nT:=fT.len;refine ag.2 ⟨_,vc Y 0,_,vc Y 1,_,vc Y 2,_,vc Y 3,_,vc Y 4,_,vc Y 5,_,vc V 0,_,vc V 1,_,vc V 2,_,vc V 3,_,vc V 4,_,vc V 5,?_⟩;refine hdf (ib.upd0 k050) (it.upd0 k050) (λe=>by rw[AB ib it]at e;cases e) λ_ D s77 hs77 k77=>?_
 have lC:=tW fB.up fT.up;have at30:=FI fB fT;have hcC:∀c∈iU B T,(c.1,(c.2.1,c.2.2.2.1),As (look O c.1),(c.2.2.1,c.2.2.2.2))=Ep B O T c.1:=λc hc=>by
  have e:=(Yz fB.up fT.up hc).1;unfold Ep As;rw[congrArg (·.2.1) e,congrArg (·.2.2.1) e,congrArg (·.2.2.2.1) e,congrArg (·.2.2.2.2) e]
 have hsetC:∀i (hi:i<(iU B T).length),UU (iU B T)[i].1 (tk B O T p (iU B T)[i].1).1:=λi hi=>hset _ (aF hi)
 have hmem:∀i (hi:i<(iU B T).length),(iU B T)[i]∈iU B T:=λi hi=>aF hi
 have hconK:GV B O T p (iU B T)=pw B O T p:=rfl;have hmrg:sI B O T p O (iU B T)=jx B O T p:=rfl;have fM:∀i,Few (no+((iU B T).take i).length) (sI B O T p O ((iU B T).take i)):=λi=>Cc fB fO fT (λc hc=>(at30 c (List.mem_of_mem_take hc)).1) fO
 clear hset;generalize iU B T=C at hs77 lC at30 hcC hmem hconK hmrg fM hsetC;have hsl:=hs77.within.sl (W:=λy=>D.size<=y) λy d _ hw=>a4
 have hlen:s77.len=C.length:=hs77.len;have e1:=k77.get0 d1;have e3:=k77.get0 d3;have hz77:=k77.size;refine⟨_,vc e1 0,_,vc e1 1,_,vc e1 2,_,vc e1 3,_,vc e1 4,_,vc e1 5,?_⟩;refine abO (t:=to) λE b85 k85=>?_
 have z85:=bB b85;have s85:=k85.size;have k085:=(k050.tr k77).tr k85;have f1:=k85.get0 e1;have f3:=k85.get0 e3;have hPo:Pro W h E D.size:=.inr a4;have hP3:Pro W h E h3.size:=.inr a4;have hWP:=Pro.lt hW k085;refine ez (λ(g:Nat×(dx)) (t:fD×Int) h'=>t.2=(g.1:Int)/\g.1<=C.length/\OwnS vu 7 85 g.2 h' t.1 ((GV B O T p (C.take g.1)).map (Ep B O T))/\(∀y,g.2 y->E.size<=y/\y<h'.size)/\(∃tv,TreeIs (λy=>Pro W h E y\/g.2 y) h' kind x tv (sI B O T p O (C.take g.1))/\h'[D.size]? =some (.cells (iM tv).toArray 53 (0,0)))/\Upd (· =D.size) E h') (λg=>C.length-g.1) (0,No)
  ⟨rfl,aJ _,OwnS.nil NW,λ_ h=>h.elim,⟨to,(io.pro k085).less λy d=>.inl (d.elim id λh=>h.elim),b85⟩,eM _ _⟩ ?_
 rintro I ⟨i,S⟩ ⟨sv,ti⟩ h88 ⟨e,hi,ho,hS,⟨tv,iv,bv⟩,hu⟩ hI;(try simp only at e hi ho hS iv)
 subst e;have g1:=hu.get f1 (by show ¬h1.size=D.size;omega);have g3:=hu.get f3 (by show ¬h3.size=D.size;omega);have s88:=hu.size;have k088:Upd No h h88:=k085.own hu a4;refine ar (λv=>?_) λhge=>?_
 .have v:i<C.length:=by(try simp only at v);omega
  obtain⟨a,ha,_,hv⟩:=((hsl.upd k85 λ_ h=>h.elim).upd hu λy d=>.inl (by have d:y=D.size:=d;omega)).at (af v)
  refine⟨⟨by(try simp only);omega,by(try simp only);omega⟩,a,ha,_,hv 0 _ rfl,_,hv 1 _ rfl,_,hv 2 _ rfl,_,hv 3 _ rfl,_,hv 4 _ rfl,?_⟩
  have fm:=fM i;have fml:=fm.len;rw[aV]at fml;have hcon:(GV B O T p (C.take i)).length<=C.length:=aO Yt (by rw[aV];omega);have hIc:=λS' t h'=>hI (i+1,S') t h'
  simp only[PC v,V6 v,cC]at hIc;have hceq:=hcC _ (hmem i v);have hc30:=(at30 _ (hmem i v)).1;have hsc:= @hsetC i v;clear hI;generalize C[i]=c at hv hceq hc30 hIc hsc;refine acT (c:=c) λh96 w k96=>?_
  have s96:=k96.size;have z96:=bB w;have p1:=k96.get0 g1;have k096:=k088.tr k96;have ig:∀{h'},Upd No h96 h'->TreeIs W h' kind x to O:=λk=>io.upd0 (k096.tr k)
  have hWg:∀{h'},Upd No h96 h'->∀y,W y->y<h'.size:=λk y d=>aD (hW y d) (k096.tr k).size
  refine eF (λt h'=>∃b,t=⟨b,0,none⟩/\h'[b]? =some (.cells (vu (Ep B O T c.1)).toArray 85 (0,0))/\Upd No h96 h') (λR U=>?_) ?_
  .rw[<-hceq]at U
   refine⟨c.1,vc w 0,c.2.1,vc w 1,c.2.2.2.1,vc w 3,_,vc p1 0,_,vc p1 1,_,vc p1 2,_,vc p1 3,_,vc p1 4,_,vc p1 5,c.1,vc w 0,c.2.2.1,vc w 2,c.2.2.2.2,vc w 4,?_,?_⟩
   .refine Um (ig (eM _ _)) (hWg (eM _ _)) fO.up a4 c.1 λh110 k110=>?_
    have q:=k110.get0 w;refine⟨vc q 4,vc q 2,vc q 3,vc q 1,vc q 0,aQ λh111 b111 k111=>?_⟩
    have q':=k111.get0 q;refine⟨vc q' 4,vc q' 2,vc q' 3,vc q' 1,vc q' 0,?_⟩;refine co (c:=vu Zn) (vs:=vu (c.1,(c.2.1,c.2.2.2.1),As (look O c.1),(c.2.2.1,c.2.2.2.2))) b111 rfl λh112 b112 hu112=>U _ _ ⟨_,rfl,b112,(k110.tr k111).own hu112 k110.size⟩
   .refine aQ λh149 b149 G=>?_
    have q:=G.get0 w;have p2:=G.get0 p1;refine⟨vc q 4,vc q 2,vc q 0,⟨vc p2 0,vc p2 1,vc p2 2,vc p2 3,vc p2 4,vc p2 5⟩,vc q 3,vc q 1,vc q 0,?_⟩;refine Um (ig G) (hWg G) fO.up a4 c.1 λh151 k151=>?_
    have q':=k151.get0 q;refine⟨vc q' 4,vc q' 2,vc q' 3,vc q' 1,vc q' 0,?_⟩;refine co (c:=vu Zn) (vs:=vu (c.1,(c.2.1,c.2.2.2.1),As (look O c.1),(c.2.2.1,c.2.2.2.2))) (k151.get0 b149) rfl λL N hu152=>U _ _ ⟨_,rfl,N,(G.tr k151).own hu152 (aj _)⟩
  rintro _ h142 ⟨bx,rfl,n,k142⟩;refine⟨_,iq n 1 0,_,iq n 1 1,_,iq n 3 0,_,iq n 3 1,_,iq n 5 0,_,iq n 5 1,?_⟩;refine XK (b:=As (look B c.1)) (o:=As (look O c.1)) (t:=As (look T c.1)) λh150 Q=>?_
  rw[TP];have hok:∀r,um (look B c.1) (look O c.1) (look T c.1) p=r->tk B O T p c.1=r:=λr e=>e
  have hsz:((tk B O T p c.1).1.getD ⟨#[]⟩).size<=30:=by
   unfold tk;rcases Ez (look B c.1) (look O c.1) (look T c.1) p with e|e|e
   .rw[e];exact mW fB _
   .rw[e];exact mW fO _
   .rw[e];exact mW fT _
  have htk:um (look B c.1) (look O c.1) (look T c.1) p=tk B O T p c.1:=rfl;rw[htk];generalize tk B O T p c.1=tkc at hIc hsz hsc;refine abf (s:=As tkc.1) λL N k152=>?_
  have z152:=bB N;have f:=((k96.tr k142).tr Q).tr k152;have k96152:=(k142.tr Q).tr k152;have s150:h88.size<=h150.size:=((k96.tr k142).tr Q).size;have s152:=f.size;have bv152:=f.get0 bv;have b96':=k96152.get0 w;have j:=(Q.tr k152).get0 n;have iv152:=iv.upd0 f;refine eF (λt h'=>∃S',OwnS vu 7 85 S' h' t ((GV B O T p (C.take i)).map (Ep B O T)++(if tkc.2=true then[]else[c.1]).map (Ep B O T))/\(∀y,S' y->E.size<=y/\y<h'.size)/\TreeIs (λy=>Pro W h E y\/S' y) h' kind x tv (sI B O T p O (C.take i))/\Upd S L h') (λR U=>?_) ?_
  .refine eh (λe=>?_) λe=>?_
   .have e2:tkc.2=false:=by simpa using e
    rw[e2,if_neg Bool.false_ne_true]at U;refine⟨_,vc j 0,_,vc j 1,_,vc j 2,_,vc j 3,_,vc j 4,_,vc j 5,_,vc j 6,?_⟩;refine Mm (c:=Ep B O T c.1) (M:=λy=>S y\/L.size<=y) ((ho.upd f λ_ _ h=>h).more λ_ h=>.inl h) (λ_ h=>.inr h) (by rw[bP];omega) λs163 h164 ho164 J=>?_
    have s164:=J.size;refine U _ _ ⟨_,ho164.within,λy d=>⟨?_,d.2⟩,?_,J.mono λy d=>d⟩
    .rcases d.1 with h|h
     .exact(hS y h).1
     .omega
    .refine TreeIs.less (λy d=>?_) ((iv152.less (W':=λy=>Pro W h E y\/(S y\/L.size<=y)) λy d=>?_).updM J λy d=>.inl (.inr d))
     .exact .inl (d.imp id λh=>h.1)
     .rcases d with h|h|h
      .exact .inl (.inl h)
      .exact .inl (.inr h)
      .exact .inr h
   .have e2:tkc.2=true:=by simpa using e
    rw[e2,if_pos rfl,List.map_nil,List.append_nil]at U;exact U _ _ ⟨S,ho.upd f λ_ _ h=>h,λy d=>⟨(hS y d).1,by have:=(hS y d).2;omega⟩,iv152,eM _ _⟩
  rintro sv' h166 ⟨S',ho',hS',it',hu'⟩;have s166:=hu'.size;have nS:∀y,S y->E.size<=y/\y<h88.size:=hS;have m:=hu'.get bv152 λhx=>by have:=nS _ hx;omega
  have b96'':=hu'.get b96' λhx=>by have:=nS _ hx;omega
  have b152':=hu'.get N λhx=>by have:=nS _ hx;omega
  refine⟨_,vc m 0,_,vc m 1,_,vc m 2,_,vc m 3,_,vc m 4,_,vc m 5,c.1,vc b96'' 0,(As tkc.1).1,vc b152' 0,(As tkc.1).2,vc b152' 1,?_⟩;refine hsc it' (λy d=>d.elim (λh=>aD (hWP y h) a4) λh=>(hS' y h).2) fm.up fm.fits a4 a4 a4 λh177 t' i177 P=>?_
  have s177:=P.size;refine co (c:=iM tv) (vs:=iM t') (P.get0 m) rfl λh178 b178 F=>?_
  have s178:=F.size;(try simp only)
  rw[mK v a4];refine hIc S' _ _ ⟨rfl,v,(ho'.upd P λ_ _ h=>h).upd F λy d e=>?_,λy d=>⟨(hS' y d).1,by have:=(hS' y d).2;omega⟩,⟨t',i177.updM F λy d=>.inl (.inl (by have d:y=D.size:=d;rw[d];exact hPo)),b178⟩,?_⟩ a4
  .have e:y=D.size:=e
   have:=(hS' y d).1;omega
  .refine((hu.tr f.wide).trans hu' λy d=>.inr (nS y d).1).tr ?_
   exact P.wide.tr F
 .have hiN:i=C.length:=by(try simp only at hge);omega
  subst hiN;rw[List.take_length]at ho iv;rw[hconK]at ho;rw[hmrg]at iv;have hsvl:=ho.len;rw[bP]at hsvl;have hb:(pw B O T p= [])↔sv.len=0:=by rw[hsvl];exact aK.symm
  have ho2:OwnS vu 7 85 (λy=>h.size<=y/\y≠h3.size) h88 sv ((pw B O T p).map (Ep B O T)):=ho.more λy d=>by have:=(hS y d).1;omega
  refine eF (λt h'=>t=(decide (p=0)&&decide (sv.len>0))/\h'=h88) (λR U=>?_) ?_
  .refine eh (λe=>U _ _ ⟨?_,rfl⟩) λe=>U _ _ ⟨?_,rfl⟩
   .have e:p=0:=by simpa using e
    rw[decide_eq_true e,kA,decide_eq_decide];(try simp only);omega
   .have e:p≠0:=by simpa using e
    rw[decide_eq_false e,Bool.false_and]
  rintro t h' ⟨rfl,rfl⟩;refine eh (λe=>?_) λe=>?_
  .have e:p=0/\sv.len>0:=by simpa using e
   refine⟨_,vc g1 0,_,vc g1 1,_,vc g1 2,_,vc g1 3,_,vc g1 4,_,vc g1 5,?_⟩;refine co (c:=iM rL) (vs:=iM to) g3 rfl λh198 z Z=>?_
   refine⟨_,vc z 0,_,vc z 1,_,vc z 2,_,vc z 3,_,vc z 4,_,vc z 5,?_⟩;exact hk0 e.1 (λhc=>by have:=hb.1 hc;omega) h198 sv ((ho2.upd Z λy d e=>d.2 e).more λy d=>d.1) (k088.own Z a4)
  .have e:p=0->sv.len=0:=λhp=>by
    rw[decide_eq_true hp,kA]at e;have:=of_decide_eq_false e;omega
   refine⟨_,vc bv 0,_,vc bv 1,_,vc bv 2,_,vc bv 3,_,vc bv 4,_,vc bv 5,?_⟩;refine co (c:=iM rL) (vs:=iM tv) g3 rfl λh211 A H=>?_
   refine⟨_,vc A 0,_,vc A 1,_,vc A 2,_,vc A 3,_,vc A 4,_,vc A 5,?_⟩;exact hk (λhp=>hb.2 (e hp)) h211 tv sv ((iv.updM H λy d=>.inl (.inl (by have d:y=h3.size:=d;rw[d];exact hP3))).less λy d=>.inl (.inl (.inl d))) ((ho2.upd H λy d e=>d.2 e).more λy d=>d.1) (k088.own H a4)
theorem SO(b:Few nb B)(d:Few no O)(a:Few nt T):Few (no+(nb+nt)) (jx B O T p):=by
 have h:=Cc (p:=p) b d a (l:=iU B T) (λc hc=>(FI b a c hc).1) d
 exact⟨h.up,aO h.len (by have:=tW b.up a.up;have:=b.len;have:=a.len;omega),h.fit⟩
def Met(L:dA)(a b d:Int):Prop:=(∀c,UpG L a c->UpG L b c->c<=d)/\(d=0\/UpG L a d/\UpG L b d)/\0<=d
def yD(s:VS)(a:Int)(B:TD):Prop:=(a=0/\B=(s.e,[]))\/(a≠0/\bK s.D a=some B)
section
variable {W:dx} {h:ad} {vp:Nat} {s:VS}
theorem Lj(v:VaultAt W h vp s){id:Int}(hi:id=0\/id∈eR s.L){K:Tr×Int->dO}(a:∀B,yD s id B->∀h',Upd No h h'->K (B.1,0) h'):Kl 14 [pV vp,.int .u32 id] K h:=
 xh v id (λe h' k=>a (s.e,[]) (.inl ⟨e,rfl⟩) h' k) (λd hd e h' k=>a d (.inr ⟨e,hd⟩) h' k) λhd e=>absurd ((v.sub id).2 (hi.resolve_left e)) (eH.1 hd)
theorem Ra(v:VaultAt W h vp s){n m:c6}{a b:Int}(ha:bK s.B n=some a)(hb:bK s.B m=some b)(C:0<=p)(G:p<=3)(hn1:¬(b=0\/UpG s.L a b))(hn2:¬(a=0\/UpG s.L b a))
  {O T:TD}(hO:bK s.D a=some O)(hT:bK s.D b=some T){N:Nat}(R:N<=1000)(hF:∀d∈s.D,Few N d.2.2)
  (hS:∀g B,Met s.L a b g->yD s g B->ach B.2 T.2/\∀c∈iU B.2 T.2,UU c.1 (tk B.2 O.2 T.2 p c.1).1){K:Int×fD×Int->dO}
  (U:∀g B,Met s.L a b g->yD s g B->p=0->pw B.2 O.2 T.2 p≠[]->∀h' s',OwnS vu 7 85 (λy=>h.size<=y) h' s' ((pw B.2 O.2 T.2 p).map (Ep B.2 O.2 T.2))->Upd No h h'->K (0,s',8) h')
  (hk:∀g B,Met s.L a b g->yD s g B->(p=0->pw B.2 O.2 T.2 p= [])->∀h' t' s',OwnS vu 7 85 (λy=>h.size<=y) h' s' ((pw B.2 O.2 T.2 p).map (Ep B.2 O.2 T.2))->Upd s.M h h'->
   VaultAt W h' vp (y8 s n (t',jx B.2 O.2 T.2 p) (nz [a,b])).2->K (if(y8 s n (t',jx B.2 O.2 T.2 p) (nz [a,b])).1.2=0 then((y8 s n (t',jx B.2 O.2 T.2 p) (nz [a,b])).1.1,s',0)else(0,⟨none,0,0⟩,(y8 s n (t',jx B.2 O.2 T.2 p) (nz [a,b])).1.2)) h'):
  XY 24 [pV vp,.string n,.string m,.int .i64 p] K h:=by
 refine kI (some ⟨vp,0,none⟩) n m p ?_;dsimp only[iW,cz,bh,ao,dE,nv,aE,Kk,uj,rC,rx,cO,pW,vt,Za,iC,xf,my,cJ,wU,GX];refine ir v n (ir v m ?_);rw[ha,hb];refine eQ (ag.2 (ag.2 (Df ?_)));rw[dZ,decide_eq_false (B7 C G)];refine ag.2 (uh v b a λc h1 hc k1=>eh (λe=>absurd (hc.1 e) hn1) λ_=>?_)
 have v1:=v.upd0 k1;refine uh v1 a b λc2 h2 hc2 k2=>eh (λe=>absurd (hc2.1 e) hn2) λ_=>?_
 have v2:=v1.upd0 k2;refine⟨_,rfl,_,vc v2.blk 6,X3 v2.g v2.inv.good.toSmall a b λg h3 m1 m2 m3 k3=>?_⟩
 have Y:Met s.L a b g:=⟨m1,m2,m3⟩;have v3:=v2.upd0 k3;have S:=(k1.tr k2).tr k3;have go:∀B:TD,yD s g B->TreeIs W h3 s.kind s.x B.1 B.2/\Few N B.2:=λB q=>by
  rcases q with⟨_,rfl⟩|⟨_,q⟩
  .exact⟨v3.em,cj,aJ _,λ_ h=>by cases h⟩
  .exact⟨(v3.ts _ (kV q)).1,hF _ (kV q)⟩
 have gO:∀{h'},VaultAt W h' vp s->nh (.int .u32) (Ap rL) h' (some s.tm) (.int .u32 a) (Ap O.1) true:=λv'=>by
  have:=v'.t.get a (rL,[]);rw[hO]at this;exact this
 have gT:∀{h'},VaultAt W h' vp s->nh (.int .u32) (Ap rL) h' (some s.tm) (.int .u32 b) (Ap T.1) true:=λv'=>by
  have:=v'.t.get b (rL,[]);rw[hT]at this;exact this
 have fO:=hF _ (kV hO);have fT:=hF _ (kV hT);have X:∀y,W y->y<h.size:=v.g.lt;have fin:∀B:TD,yD s g B->∀z x E sv,Upd No h z->Upd No z x->(p=0->pw B.2 O.2 T.2 p= [])->TreeIs W x s.kind s.x E (jx B.2 O.2 T.2 p)->OwnS vu 7 85 (λy=>z.size<=y) x sv ((pw B.2 O.2 T.2 p).map (Ep B.2 O.2 T.2))->
   At (hnew x [.int .u32 a,.int .u32 b] 31) (λh50=>Hv 66 [pV vp,.string n,Ap E,.slice (some (aR x)) 2 2] (λ(L:Int×Int) Z=>fo (L.2 !=(0:Int)) (K (0,⟨none,0,0⟩,L.2) Z) (K (L.1,sv,0) Z)) h50):=λB q z x E sv F i C V os=>by
  have f:=SO (p:=p) (go B q).2 fO fT;refine aQ λh8 Q k=>?_
  have I:=v.upd0 (F.tr i);refine FC I k n (d:=(E,jx B.2 O.2 T.2 p)) V f.up f.fits (pb:=x.size) (aj _) (bB Q) (sl:=⟨some (aR x),2,2⟩) (ps:= [a,b]) ⟨rfl,kz,aj _,.inr ⟨x.size,[],rfl,rfl,Q,rfl⟩⟩ a6 λD w v9=>?_
  have s6:=F.size;have r:=hk g B Y q C D E sv ((os.upd w λy o hM=>by have:=X y (v.w y hM);omega).more λy o=>a4) ((F.tr i).wide.tr w) v9
  refine eh (λe=>?_) λe=>?_
  .rw[if_neg (by simpa using e)]at r;exact r
  .rw[if_pos (by simpa using e)]at r;exact r
 refine Lj v3 (Y.2.1.imp id λu=>u.1.right) λB q h4 k4=>?_
 have s4:=k4.size;have nt:∀y,W y->y≠h4.size:=λy o=>by have:=X y o;have:=S.size;omega
 refine aQ λh5 b5 k5=>co (c:=iM rL) (vs:=iM B.1) b5 rfl λz H u6=>?_
 have J:Upd No h3 z:=(k4.tr k5).own u6 s4;have j:=v3.upd0 J;have i6:=(go B q).1.upd0 J;have F:=S.tr J;obtain⟨S1,S2⟩:=hS g B Y q;have fB:=(go B q).2;refine⟨_,vc H 0,_,vc H 1,_,vc H 2,_,vc H 3,_,vc H 4,_,vc H 5,_,rfl,_,vc j.blk 7,O.1,true,gO j,_,rfl,_,vc j.blk 7,T.1,true,gT j,?_,?_⟩
 .refine FY i6 (j.ts _ (kV hO)).1 (j.ts _ (kV hT)).1 j.g.lt fB fO fT R R R C G S1 S2 (λe0 hc x sv os i=>?_) λhc x E sv V os i=>?_
  .refine⟨vc (j.upd0 i).blk 7,vc (j.upd0 i).blk 7,aQ λh8 Q k=>⟨vc (j.upd0 (i.tr k)).blk 7,vc (j.upd0 (i.tr k)).blk 7,co (c:=iM rL) (vs:=iM O.1) Q rfl λD t w=>ay.2 ?_⟩⟩
   have s7:=i.size;have A:Upd No x D:=k.own w (aj _);exact U g B Y q e0 hc D sv ((os.upd (k.own w (aj _)) λ_ _ h=>h).more λy o=>by have:=F.size;omega) ((F.tr i).tr A)
  .refine⟨vc (j.upd0 i).blk 7,vc (j.upd0 i).blk 7,aQ λh8 Q k=>⟨vc (j.upd0 (i.tr k)).blk 7,vc (j.upd0 (i.tr k)).blk 7,co (c:=iM rL) (vs:=iM E) Q rfl λD t w=>ag.2 ?_⟩⟩
   have A:Upd No x D:=k.own w (aj _);refine⟨_,vc t 0,_,vc t 1,_,vc t 2,_,vc t 3,_,vc t 4,_,vc t 5,?_⟩;exact fin B q z D E sv F (i.tr A) hc (V.upd0 A) (os.upd A λ_ _ h=>h)
 .refine aQ λx b7 i=>⟨gT (j.upd0 i),vc (j.upd0 i).blk 7,gO (j.upd0 i),vc (j.upd0 i).blk 7,?_,?_⟩
  .have P:=i.get0 H
   exact⟨vc P 0,vc P 1,vc P 2,vc P 3,vc P 4,vc P 5⟩
  .have I:=j.upd0 i
   have s6:=i.size;have z7:=bB b7;have hw:∀y,(W y\/y=z.size)->W y\/z.size<=y:=λy o=>o.imp id λe=>a4
   refine FY (W:=λy=>W y\/y=z.size) (i6.re i (λ_ h=>h.elim) hw) ((j.ts _ (kV hO)).1.re i (λ_ h=>h.elim) hw) ((j.ts _ (kV hT)).1.re i (λ_ h=>h.elim) hw) (λy o=>o.elim (I.g.lt y) λe=>a4) fB fO fT R R R C G S1 S2 (λe0 hc h8 sv os k=>?_) λhc h8 E sv V os k=>?_
   .refine⟨vc (I.upd0 k).blk 7,vc (I.upd0 k).blk 7,co (c:=iM rL) (vs:=iM O.1) (k.get0 b7) rfl λD t w=>ay.2 ?_⟩
    exact U g B Y q e0 hc D sv ((os.upd w λy o e=>by have e:y=z.size:=e;omega).more λy o=>by have:=F.size;omega) (F.tr ((i.tr k).own w (aj _)))
   .refine⟨vc (I.upd0 k).blk 7,vc (I.upd0 k).blk 7,co (c:=iM rL) (vs:=iM E) (k.get0 b7) rfl λD t w=>ag.2 ?_⟩
    refine⟨_,vc t 0,_,vc t 1,_,vc t 2,_,vc t 3,_,vc t 4,_,vc t 5,?_⟩;refine fin B q z D E sv F ((i.tr k).own w (aj _)) hc (V.re (W':=W) w (λy o=>.inl (.inr o)) λy o=>.inl (.inl o)) ((os.upd w λy o e=>by have e:y=z.size:=e;omega).more λy o=>a4)
end
end
section
variable {h:ad} {n m:c6} {id p:Int} {s:fD} {t:Tr}
end
theorem Pk{n:c6}(q:n.size<=1000000){h:ad}{K:Bool->dO}(d:K (qb n) h):gl 124 [.string n] K h:=by
 refine dg (Gp n) QG Tryz.func124 Tryz.call124 ?_;dsimp only[Gp,AR];have f:n.data.toList.length=n.size:=Array.length_toList;refine ez (λ(i:Nat) (t:Int) h'=>t=(i:Int)/\h'=h/\i<=n.size/\∀b∈n.data.toList.take i,xC b=true) (λi=>n.size-i) 0 ⟨rfl,rfl,aJ _,a6⟩ ?_
 rintro I i t h' ⟨rfl,rfl,hi,g⟩ p;refine ar (λc=>?_) λo=>?_
 .have c:i<n.size:=by omega
  have a:i<n.data.toList.length:=a4
  have k:n[(i:Int).toNat]? =some n.data.toList[i]:=by
   rw[aY,getElem?_pos n i c];rfl
  refine eF (λt j=>t=(!xC n.data.toList[i])/\j=h') (λR m=>⟨_,a4,k,ar (λe=>m _ _ ⟨?_,rfl⟩) λe=>⟨_,a4,k,m _ _ ⟨?_,rfl⟩⟩⟩) ?_
  .unfold xC;rw[decide_eq_false (by omega:¬33<=n.data.toList[i].toNat)];rfl
  .unfold xC;rw[decide_eq_true (by omega:33<=n.data.toList[i].toNat),kA,<-decide_not,decide_eq_decide];omega
  .rintro _ j ⟨rfl,rfl⟩
   refine eh (λe=>?_) λe=>?_
   .rw[show qb n=false from ?_]at d
    .exact d
    .unfold qb
     rw[show n.data.toList.all xC=false from List.all_eq_false.2 ⟨_,aF a,by simpa using e⟩,Bool.and_false]
   .rw[bN (n:=n.size) c a4]
    refine p (i+1) _ _ ⟨rfl,rfl,a4,?_⟩ a4
    rw[ax a];intro b hb;rcases aN.1 hb with hb|hb
    .exact g b hb
    .rw[az.1 hb];simpa using e
 .have:i=n.size:=by omega
  subst this;rw[<-f,List.take_length]at g;refine ar (λe=>?_) λe=>?_
  .rw[show qb n=decide ((n.size:Int)<33)from by unfold qb;rw[List.all_eq_true.2 g,decide_eq_true (by omega:1<=n.size),kA,Bool.and_true,decide_eq_decide];omega]at d
   exact d
  .rw[show qb n=false from by unfold qb;rw[decide_eq_false (by omega:¬1<=n.size)];rfl]at d
   exact d
section
variable {K:fD×Int->dO}
abbrev yd(p:c6×Int):c4:= [.string p.1,.int .u32 p.2]
theorem uw(p:c6×Int):(yd p).length=2/\0<2:=⟨rfl,a4⟩
theorem Im:∀xs:Bi,cH (xs.flatMap yd)=true
 | []=>rfl
 |_::xs=>Im xs
theorem N4{h:ad}{ty:TypeId}{M W:dx}{base a:aT}{sl d b c:Nat}{out xs:Bi}(f:OwnS yd 2 ty M h ⟨base,sl,d⟩ out)(e:Sl yd 2 W h ⟨a,b,c⟩ xs)(hM:M h.size)(i:out.length+xs.length<=1000000){K:fD->dO}
  (g:∀s' h',OwnS yd 2 ty M h' s' (out++xs)->Upd M h h'->K s' h'):∃v,SRow h a (b*2) v/\AppP (some [.string (⟨#[]⟩:c6),.int .u32 0]) 2 24 ty base sl d b v h K:=
 ⟨_,e.srow,AppP.own f e.len rfl (Im xs) rfl a8 a4 hM g⟩
section
variable {W:dx} {h:ad} {s:fD} {l:Bi} {n:c6} {id:Int}
theorem lQ(w:Sl yd 2 W h s l)(G:l.length<=1000000){K:Int->dO}(k:∀i (hi:i<l.length),l[i].1=n->∀h',Upd No h h'->K (i:Int) h')(g:(∀p∈l,p.1≠n)->∀h',Upd No h h'->K (-1) h'):
  fK 75 [.slice s.a s.len s.cap,.string n] K h:=by
 refine dg (JJ s n) To Tryz.func75 Tryz.call75 ?_;dsimp only[JJ,nv,uk,Ev,G6,ey,cM,jX,fj,fY,bo];have H:=w.len;refine ez (λ(i:Nat) (t:Int) h'=>t=(i:Int)/\i<=l.length/\(∀j (d:j<l.length),j<i->l[j].1≠n)/\Upd No h h') (λi=>l.length-i) 0 ⟨rfl,aJ _,(λj _ h=>a4),eM _ _⟩ ?_
 rintro I i t u ⟨rfl,hi,v,f⟩ B;refine ar (λb=>?_) λA=>?_
 .have b:i<l.length:=by omega
  obtain⟨a,D,_,hv⟩:=(w.upd f λ_ h=>h.elim).at (af b)
  refine⟨⟨a4,a4⟩,a,D,_,hv 0 _ rfl,_,hv 1 _ rfl,aQ λJ y z=>co (c:= [.string ⟨#[]⟩,.int .u32 0]) (vs:=yd l[i]) y rfl λq C x=>⟨_,vc C 0,?_⟩⟩
  have o:Upd No u q:=z.own x (aj _);rw[dZ];refine ar (λe=>k i b e q (f.tr o)) λe=>?_
  rw[bN (n:=l.length) b a4];refine B (i+1) _ _ ⟨rfl,b,λj d F=>?_,f.tr o⟩ a4
  by_cases E:j=i
  .subst E;exact e
  .exact v j d a4
 .exact g (λp m=>by obtain⟨j,d,e⟩:=bH m;rw[<-e];exact v j d a4) u f
theorem Ug(z:Sl yd 2 W h s l)(hc:s.len<=s.cap)(N:l.length<=1000)(E:∀y,W y->y<h.size)(u:∀i (_:i<l.length),l[i].1=n->∀h' s',Sl yd 2 W h' s' (l.take i++l.drop (i+1))->s'.len<=s'.cap->Upd No h h'->K (s',0) h')(q:(∀p∈l,p.1≠n)->∀h',Upd No h h'->K (s,4) h'):
  NI 73 [.slice s.a s.len s.cap,.string n] K h:=by
 refine dg (D2 s n) .nil Tryz.func73 Tryz.call73 ?_;dsimp only[D2,uk,kG,nW,nV,G3];have F:=z.len;refine lQ z a4 (λi hi e B v=>?_) λA B v=>ar (λ_=>q A B v) λh=>absurd a4 h
 have D:ac .i64 ((i:Int)+1)=((i+1:Nat):Int):=bN (n:=l.length) hi a4;rw[D];simp only[aY];refine ar (λh=>absurd h a4) λ_=>⟨⟨a4,a4⟩,⟨a4,a4⟩,?_⟩
 unfold Bd;refine aQ λC O L=>?_
 have a:=v.tr L;have acm:=a.size;have d:=z.upd a λ_ h=>h.elim
 refine N4 (M:=λy=>C.size<=y) (out:= []) (OwnS.nil uw) (d.sub (l:=0) (hi:=i) (m:=s.cap) (c:=0) (aJ _) a4 a4) (aj _) a9 λQ P J w=>?_
 have t:=d.upd (W:=W) (M:=λy=>C.size<=y) w λy o=>.inr o
 have hd:=t.sub (l:=i+1) (hi:=l.length) (m:=s.cap) (c:=0) hi (aj _) a4;rw[F];refine N4 J hd (by have:=w.size;omega) a9 λx f g j=>?_
 have k:Upd No h f:=(a.fresh w λy o=>a4).fresh j λy o=>a4
 refine u i hi e f x ?_ g.cap k;have:=g.sl (W:=W) λb hb H G=>by have:=E b G;omega
 have I:(l.drop (i+1)).take (l.length-(i+1))=l.drop (i+1):=bd a6;rw[I]at this;simpa using this
theorem Uh{xp xg:Nat}{L:dA}{nx:Int}(g:RefAt W h xg L nx){ob:Array Value}{ot:TypeId}(hx:h[xp]? =some (.cells ob ot (0,0))) (h5:ob[5]? =some (.pointer (some ⟨xg,0,none⟩))) (hL:L.length<=100000) (E:Sl yd 2 W h s l) (hc:s.len<=s.cap) (hn:l.length<=1000) (hz:∀p∈l,p.1.size<=40) (hz2:n.size<=40) {B:Bi} (r:NmR B l) (no:Bool) 
  (hk:∀h' s',Sl yd 2 W h' s' (if mF B L n id no=0 then Di l n id else l)->s'.len<=s'.cap->Upd No h h'->K (s',mF B L n id no) h'):
  NI 71 [gZ xp,.slice s.a s.len s.cap,.string n,.int .u32 id,.bool no] K h:=by
 refine dg (Mx (some ⟨xp,0,none⟩) s n id no) Ws Tryz.func71 Tryz.call71 ?_;dsimp only[Mx,uk,Ev,iC,kF,kG,nW,nV,uK,cO,cJ,Qn,cM,jX,fj];have hl:=E.len;have lB:=r.pm.length_eq;have hW:∀y,W y->y<h.size:=g.lt;have q:∀e h',mF B L n id no=e->e≠0->Upd No h h'->K (s,e) h':=λe h' he h0 k=>by
  have:=hk h' s (by rw[he,if_neg h0];exact E.upd k λ_ h=>h.elim) hc k
  rw[he]at this;exact this
 refine Pk a4 (eh (λe=>q 1 h ?_ a8 (eM _ _)) λe=>?_)
 .unfold mF;rw[if_pos (by simpa using e)]
 have e:¬qb n=false:=by simpa using e
 refine lQ E a4 (λi hi ei h4 N=>ar (λ_=>q 7 h4 ?_ a8 N) λh=>absurd a4 h) λhno h4 N=>ar (λh=>absurd h a4) λ_=>?_
 .have:=r.at hi
  unfold mF;rw[if_neg e,<-ei,this];exact if_pos rfl
 have O:¬(bK B n).isSome=true:=by rw[r.no hno];decide
 have g4:=g.upd0 N;refine eF (λt h'=>t=(no|| !decide (id=0\/id∈eR L))/\Upd No h4 h') (λR F=>?_) ?_
 .refine eh (λen=>F _ _ ⟨by rw[en];rfl,eM _ _⟩) λen=>eh (λA=>⟨_,rfl,_,(vc (N.get0 hx) 5).trans h5,CC g4 a4 id λm h9 k9 hm=>F _ _ ⟨?_,k9⟩⟩) λA=>F _ _ ⟨?_,eM _ _⟩
  .have A:id≠0:=by simpa using A
   rw[en,Bool.false_or,<-decide_not,decide_eq_decide];constructor
   .intro d hh
    have:=hm.2 (hh.resolve_left A);omega
   .intro hh
    have:¬m>=0:=λu=>hh (.inr (hm.1 u))
    omega
  .have A:id=0:=by simpa using A
   rw[en,A];simp
 rintro t H ⟨rfl,k11⟩;have f:=N.tr k11;refine eh (λe3=>q 4 H ?_ a8 f) λe3=>ar (λe4=>q 6 H ?_ a8 f) λe4=>?_
 .unfold mF;rw[if_neg e,if_neg O,if_pos e3]
 .unfold mF;rw[if_neg e,if_neg O,if_neg (by rw[e3];decide),if_pos a4]
 have e5:mF B L n id no=0:=by unfold mF;rw[if_neg e,if_neg O,if_neg (by rw[e3];decide),if_neg a4]
 rw[e5,if_pos rfl]at hk;refine ez (λ(i:Nat) (t:Int) h'=>t=(i:Int)/\i<=l.length/\(∀v∈l.take i,bF v.1.toList n.toList=true)/\Upd No h h') (λi=>l.length-i) 0 ⟨rfl,aJ _,a6,f⟩ ?_
 rintro I i t h14 ⟨rfl,hi,hp,P⟩ hI;refine eF (λt h'=>(t=true↔∃hi:i<l.length,bF l[i].1.toList n.toList=true)/\Upd No h14 h') (λR F=>?_) ?_
 .refine ar (λd=>?_) λu=>F _ _ ⟨⟨λh=>(by cases h),λ⟨hi,_⟩=>absurd a4 u⟩,eM _ _⟩
  have d:i<l.length:=a4
  obtain⟨a,ha,_,hv⟩:=(E.upd P λ_ h=>h.elim).at (af d)
  refine⟨⟨a4,a4⟩,a,ha,_,hv 0 _ rfl,Ic (by have:=hz _ (aF d);omega) (F _ _ ⟨?_,eM _ _⟩)⟩
  rw[decide_eq_true_iff];exact⟨λh=>⟨d,h⟩,λ⟨_,h⟩=>h⟩
 rintro t G ⟨ht,k21⟩;have j:=P.tr k21;refine eh (λZ=>?_) λZ=>?_
 .obtain⟨d,hb⟩:=ht.1 Z
  rw[bN (n:=l.length) d a4];refine hI (i+1) _ _ ⟨rfl,d,λv hv=>?_,j⟩ a4
  rw[ax d]at hv;rcases aN.1 hv with hv|hv
  .exact hp v hv
  .rw[az.1 hv];exact hb
 .obtain⟨et,ed⟩:=yg (p:=λv:c6×Int=>bF v.1.toList n.toList) l i hi hp λd=>by
   cases hb:bF l[i].1.toList n.toList with
   |false=>rfl
   |true=>rw[ht.2 ⟨d,hb⟩]at Z;cases Z
  refine eQ ?_;refine aQ λh23 b23 C=>⟨⟨a4,a4⟩,?_⟩
  rw[aY,hl];have x:=j.tr C;have S:=E.upd x λ_ h=>h.elim
  refine N4 (M:=λy=>G.size<=y) (out:= [(n,id)]) ((OwnS.one uw b23).more λy w=>by obtain⟨_,a,ha,w⟩:=w;cases ha;exact cL w.symm) (S.sub (l:=i) (hi:=l.length) (m:=s.cap) (c:=0) hi (aj _) a4) C.size a9 λs25 h26 Y T=>?_
  have O:(l.drop i).take (l.length-i)=l.drop i:=bd a6;rw[O]at Y;have s021:=j.size;have X:Upd No h h26:=x.fresh T λy w=>a4
  refine aQ λz b29 D=>⟨⟨a4,a4⟩,?_⟩
  have o:=X.tr D;have s029:=o.size;have J:=E.upd o λ_ h=>h.elim
  have k2129:Upd (λy=>G.size<=y) h23 z:=T.tr D.wide
  have z23:=C.size;have o29:=Y.upd D λ_ _ h=>h
  refine N4 (M:=λy=>z.size<=y) (out:= []) (OwnS.nil uw) (J.sub (l:=0) (hi:=i) (m:=s.cap) (c:=0) (aJ _) hi a4) (aj _) a9 λs31 h32 o32 u32=>?_
  have hr:=(o29.sl (W:=λy=>z.size<=y) λb _ d u=>a4).upd u32 λy w=>.inl w
  refine N4 o32 (c:=s25.cap) hr (by have:=u32.size;omega) a9 λs34 U V u35=>?_
  have Q:Upd No h U:=(o.fresh u32 λy w=>a4).fresh u35 λy w=>a4
  refine hk U s34 ?_ V.cap Q;have:=V.sl (W:=W) λb hb d hw=>by have:=hW b hw;omega
  unfold Di;rw[et,ed];simpa using this
end
end
section
variable {l O:bY}{i:Nat}{p:Int}{K:Int->dO}
theorem nK{W:dx}{x:Hs}{h:ad}{kind:Int}{r:Rt}(i:RefIs W h kind x r l)(j:bS l)(o:Fit l)(p:l.length<=1000000)(k:c6){K:Sd->dO}(n:∀h',Upd No h h'->K (As (look l k)) h'):EY 130 [Vl r,.string k] K h:=by
 refine dg (MC r k) .nil Tryz.func130 Tryz.call130 ?_;dsimp only[MC,dE,dK,kG,GJ,y9,vA,bo,iR,wQ,qE];refine aQ λw b1 k1=>aQ λu b2 g=>?_
 have a:=k1.tr g;obtain⟨s,rfl,q,_⟩:=i;refine⟨s,vc (g.get0 b1) 4,?_⟩;refine T7 (q.upd a λ_ h=>h.elim) j o p k λv f b=>?_
 have e:As (look l k)=(v,cI l k):=Un j f b;rw[e]at n;refine co (c:= [.string (⟨#[]⟩:c6),.bool false]) (vs:=abB (v,cI l k)) b2 rfl λt m d=>?_
 exact⟨_,vc m 0,_,vc m 1,n t (a.own d k1.size)⟩
def GO(a l:bY):bY:=l.foldl (λa p=>gQ p a) a
theorem Ay{a:bY}(hi:i<l.length):GO a (l.take (i+1))=gQ l[i] (GO a (l.take i)):=by
 unfold GO;rw[ax hi,List.foldl_append];rfl
theorem yl:∀{l a:bY},bS a->bS (GO a l)
 | [],_,h=>h
 |p::l,_,h=>yl (l:=l) (pF p h)
theorem AA{k:c6}:∀{l a:bY},(look (GO a l) k).isSome=((look a k).isSome||(look l k).isSome)
 | [],a=>by rw[PF];simp[GO]
 |p::l,a=>by
  show(look (GO (gQ p a) l) k).isSome=_
  rw[AA,IC,fL];split
  .simp
  .rfl
def zk(B O T:bY):bY:=GO (GO (GO [] B) O) T
theorem zt{B T:bY}:bS (zk B O T):=yl (yl (yl cj))
theorem IA{B T:bY}{k:c6}(h:(look (zk B O T) k).isSome=false):look B k=none/\look O k=none/\look T k=none:=by
 unfold zk at h;rw[AA,AA,AA,PF]at h;simpa[and_assoc]using h
def Jg(B O T:bY)(p:Int)(l:bY):List c6:=(l.map (·.1)).filter λk=> !(tk B O T p k).2
def B4(B O T:bY)(p:Int)(l:bY):bY:=l.filterMap λq=>(tk B O T p q.1).1.map λv=>(q.1,v)
theorem V5{B T:bY}(hi:i<l.length):Jg B O T p (l.take (i+1))=Jg B O T p (l.take i)++if(tk B O T p l[i].1).2 then[]else[l[i].1]:=by
 unfold Jg;rw[ax hi,List.map_append,cy];congr 1
 rw[List.map_singleton,bf,List.filter_nil];cases(tk B O T p l[i].1).2<;>rfl
def abe(k:c6)(o:Option c6):bY:=(o.map λv=>(k,v)).toList
theorem VD{B T:bY}(hi:i<l.length):B4 B O T p (l.take (i+1))=B4 B O T p (l.take i)++abe l[i].1 (tk B O T p l[i].1).1:=by
 unfold B4 abe;rw[ax hi,List.filterMap_append];congr 1
theorem Ys{B T:bY}:(Jg B O T p l).length<=l.length:=aO (bQ ..) (cL (bP ..))
theorem XC{B T:bY}:(B4 B O T p l).length<=l.length:=List.length_filterMap_le ..
theorem XB{B T:bY}:∀{l:bY} {q:Pr},q∈B4 B O T p l->∃r∈l,r.1=q.1:=by
 intro l q h;obtain⟨r,a,e⟩:=List.mem_filterMap.1 h;refine⟨r,a,?_⟩;cases ho:(tk B O T p r.1).1 with
 |none=>rw[ho]at e;cases e
 |some v=>rw[ho]at e;cases e;rfl
theorem Ia{B O T:bY}{p:Int}:∀{l:bY},bS l->bS (B4 B O T p l)
 | [],_=>cj
 |q::l,h=>by
  have h:=aC.1 h;have c:=Ia (B:=B) (O:=O) (T:=T) (p:=p) h.2;unfold B4 at c⊢;rw[kM];split
  .exact c
  .rename_i b e
   cases ho:(tk B O T p q.1).1 with
   |none=>rw[ho]at e;cases e
   |some v=>
    rw[ho]at e;cases e;refine aC.2 ⟨λr f=>?_,c⟩
    obtain⟨g,a,d⟩:=XB f;show kl q.1 r.1
    rw[<-d];exact h.1 g a
theorem LK{B O T:bY}{p:Int}{k:c6}:∀{l:bY},bS l->look (B4 B O T p l) k=if(look l k).isSome then(tk B O T p k).1 else none
 | [],_=>rfl
 |q::l,h=>by
  have h':=aC.1 h;have a:=LK (B:=B) (O:=O) (T:=T) (p:=p) (k:=k) h'.2;rw[fL];by_cases e:q.1=k
  .subst e
   rw[if_pos rfl];have b:look l q.1=none:=zB h'.1;rw[b]at a;show look (B4 B O T p (q::l)) q.1=(tk B O T p q.1).1
   unfold B4 at a⊢;rw[kM];cases ho:(tk B O T p q.1).1 with
   |none=>exact a
   |some v=>show look ((q.1,v)::_) q.1=_;rw[fL,if_pos rfl]
  .rw[if_neg e,<-a]
   unfold B4;rw[kM];cases ho:(tk B O T p q.1).1 with
   |none=>rfl
   |some v=>show look ((q.1,v)::_) k=_;rw[fL,if_neg e]
theorem Sa{B T:bY}(e:bS B)(d:bS O)(c:bS T):B4 B O T p (zk B O T)=jx B O T p:=by
 refine XM (Ia zt) (ym d) λk=>?_
 rw[LK zt,IB e c];cases hk:(look (zk B O T) k).isSome with
 |true=>rfl
 |false=>
  obtain⟨f,b,a⟩:=IA hk;unfold tk um;rw[f,b,a];rfl
theorem S3{B T:bY}(b:bS B)(a:bS T):Jg B O T p (zk B O T)=pw B O T p:=by
 have c:=zt (B:=B) (O:=O) (T:=T);refine PJ ?_ (ZB b a) λk=>?_
 .unfold Jg
  exact List.Pairwise.sublist List.filter_sublist (fH.2 c)
 .rw[XI b a]
  unfold Jg;rw[bV];refine⟨λh=>by simpa using h.2,λh=>⟨?_,by rw[h];rfl⟩⟩
  cases hk:look (zk B O T) k with
  |some v=>exact be.2 ⟨_,mX hk,rfl⟩
  |none=>
   obtain⟨f,e,d⟩:=IA (B:=B) (O:=O) (T:=T) (k:=k) (by rw[hk];rfl);unfold tk at h;exact absurd (e.trans d.symm) (OO.1 h).1
theorem B8{W W':dx}{h h':ad}{kind:Int}{x:Hs}{r q:Rt}{l':bY}(j:RefIs W h kind x r l)(a:RefIs W' h' kind x q l'):F1 r q=true:=by
 obtain⟨s,rfl,_⟩:=j;obtain⟨s',rfl,_⟩:=a;simp[F1]
abbrev ZH(d:Int×Rt):c4:= [.int .u32 d.1,.int .i64 d.2.1,.int .u64 d.2.2.1,.int .u64 d.2.2.2.1,.int .u64 d.2.2.2.2.1,.slice d.2.2.2.2.2.a d.2.2.2.2.2.len d.2.2.2.2.2.cap]
theorem ZG(d:Int×Rt):(ZH d).length=6/\0<6:=⟨rfl,a4⟩
structure RS where
 L:dA
 nx:Int
 D:List (Int×TD)
 Ds:List (Int×Rt)
 ts:fD
 sB:fD
 sT:fD
 B:Bi
 T:Bi
def RW(b a:Nat)(q:RS)(y:Nat):Prop:=y=b\/y=a\/sb q.ts y
abbrev adX(re:Rt)(a:Nat)(q:RS):c4:=ry re++ [Value.pointer (some ⟨a,0,none⟩),.slice q.ts.a q.ts.len q.ts.cap,.slice q.sB.a q.sB.len q.sB.cap,.slice q.sT.a q.sT.len q.sT.cap]
structure Rn(W:dx)(h:ad)(xp xg:Nat)(kind:Int)(x:Hs)(re:Rt)(q:RS):Prop where
 r:RefAt W h xg q.L q.nx
 wx:W xp
 gx:xg≠xp
 blk:h[xp]? =some (.cells (adX re xg q).toArray 121 (0,0))
 e:RefIs W h kind x re []
 ts:OwnS ZH 6 178 (sb q.ts) h q.ts q.Ds
 tw:∀y,sb q.ts y->W y/\y≠xg/\y≠xp
 b:Sl yd 2 W h q.sB q.B
 bc:q.sB.len<=q.sB.cap
 t:Sl yd 2 W h q.sT q.T
 tc:q.sT.len<=q.sT.cap
 n:q.Ds.length=q.D.length
 par:∀i (h1:i<q.Ds.length) (h2:i<q.D.length),q.Ds[i].1=q.D[i].1/\RefIs W h kind x q.Ds[i].2 q.D[i].2.2
section
variable {W W' M:dx} {h h':ad}
theorem Sl.re{α:Type}{f:α->c4}{sz:Nat}{s:fD}{xs:List α}(i:Sl f sz W h s xs)(k:Upd M h h')(hm:∀b,M b->W b\/h.size<=b)(a:∀b,W' b->W b\/h.size<=b):Sl f sz W' h' s xs:=
 ((i.less (W':=λb=>W b\/h.size<=b) λ_ hb=>hb).upd k λb hb=>.inl (hm b hb)).less λb hb=>.inl (a b hb)
theorem RefIs.re{kind:Int}{x:Hs}{r:Rt}(i:RefIs W h kind x r l)(k:Upd M h h')(hm:∀b,M b->W b\/h.size<=b)(a:∀b,W' b->W b\/h.size<=b):RefIs W' h' kind x r l:=
 RefIs.less (λb hb=>.inl (a b hb)) (RefIs.updM (W:=λb=>W b\/h.size<=b) k (λb hb=>.inl (hm b hb)) (RefIs.less (λ_ hb=>hb) i))
theorem abd(k:Upd M h h')(hm:∀b,M b->W b\/h.size<=b)(a:∀b,W' b->W b\/h.size<=b):∀{l:List (Int×fD)} {m:dA},Par W h l m->Par W' h' l m
 | [],[],_=>trivial
 |_::_,_::_,g=>⟨g.1,Sl.re g.2.1 k hm a,abd k hm a g.2.2⟩
theorem RefAt.re{d:Nat}{L:dA}{nx:Int}(g:RefAt W h d L nx)(k:Upd M h h')(hm:∀b,M b->(W b/\b≠d)\/h.size<=b)(f:∀b,W' b->(W b\/h.size<=b)/\b<h'.size)(j:W' d):RefAt W' h' d L nx:=by
 have c:∀b,M b->W b\/h.size<=b:=λb hb=>(hm b hb).imp (·.1) id
 have a:∀b,W' b->W b\/h.size<=b:=λb hb=>(f b hb).1
 obtain⟨s,t,Ls,m,n,i,o⟩:=g.blk;exact⟨⟨s,t,Ls,k.get m λe=>(hm _ e).elim (λe=>e.2 rfl) λe=>absurd (g.lt _ g.wp) (dR.2 e),Sl.re n k c a,abd k c a i,o⟩,j,λb hb=>(f b hb).2⟩
variable {xp xg:Nat} {kind:Int} {x:Hs} {re:Rt} {q:RS}
theorem Rn.lt(g:Rn W h xp xg kind x re q):∀y,W y->y<h.size:=g.r.lt
theorem Rn.rw(g:Rn W h xp xg kind x re q):∀y,RW xg xp q y->W y:=λy a=>a.elim (λe=>e▸g.r.wp) λa=>a.elim (λe=>e▸g.wx) λa=>(g.tw y a).1
theorem Rn.mv(g:Rn W h xp xg kind x re q)(k:Upd M h h')(hm:∀b,M b->(W b/\¬RW xg xp q b)\/h.size<=b)(n:∀b,W' b->(W b\/h.size<=b)/\b<h'.size)(f:∀y,RW xg xp q y->W' y):Rn W' h' xp xg kind x re q:=by
 have c:∀b,M b->W b\/h.size<=b:=λb hb=>(hm b hb).imp (·.1) id
 have a:∀b,W' b->W b\/h.size<=b:=λb hb=>(n b hb).1
 have no:∀y,RW xg xp q y->¬M y:=λy d hM=>(hm y hM).elim (λe=>e.2 d) λe=>absurd (g.lt y (g.rw y d)) (dR.2 e)
 exact⟨g.r.re k (λb hb=>(hm b hb).imp (λe=>⟨e.1,λo=>e.2 (.inl o)⟩) id) n (f _ (.inl rfl)),f _ (.inr (.inl rfl)),g.gx,k.get g.blk (no _ (.inr (.inl rfl))),g.e.re k c a,
  g.ts.upd k λy d=>no y (.inr (.inr d)),λy d=>⟨f y (.inr (.inr d)),(g.tw y d).2⟩,Sl.re g.b k c a,g.bc,Sl.re g.t k c a,g.tc,g.n,λi m j=>⟨(g.par i m j).1,(g.par i m j).2.re k c a⟩⟩
theorem Rn.upd(g:Rn W h xp xg kind x re q)(k:Upd M h h')(hm:∀b,M b->(W b/\¬RW xg xp q b)\/h.size<=b):Rn W h' xp xg kind x re q:=
 g.mv k hm (λb hb=>⟨.inl hb,aD (g.lt b hb) k.size⟩) g.rw
theorem Rn.upd0(g:Rn W h xp xg kind x re q)(k:Upd No h h'):Rn W h' xp xg kind x re q:=g.upd k λ_ h=>h.elim
theorem Rn.names(g:Rn W h xp xg kind x re q)(k:Upd M h h')(hm:∀y,M y->y=xp\/h.size<=y){sB sT:fD}{B T:Bi}(hb:h'[xp]? =some (.cells (adX re xg {q with sB:=sB,sT:=sT,B:=B,T:=T}).toArray 121 (0,0))) (b:Sl yd 2 W h' sB B) (bc:sB.len<=sB.cap) (t:Sl yd 2 W h' sT T) (tc:sT.len<=sT.cap):
  Rn W h' xp xg kind x re {q with sB:=sB,sT:=sT,B:=B,T:=T}:=by
 have a:∀b,M b->W b\/h.size<=b:=λb e=>(hm b e).imp (λ(e:b=xp)=>e▸g.wx) id
 have hx:∀b,M b->(W b/\b≠xg)\/h.size<=b:=λb e=>(hm b e).imp (λ(e:b=xp)=>⟨e▸g.wx,λj=>g.gx (j.symm.trans e)⟩) id
 exact⟨g.r.upd k hx,g.wx,g.gx,hb,g.e.updM k a,g.ts.upd k λy d e=>(hm y e).elim (λe=>(g.tw y d).2.2 e) λe=>absurd (g.lt y (g.tw y d).1) (dR.2 e),g.tw,b,bc,t,tc,g.n,λi f c=>⟨(g.par i f c).1,(g.par i f c).2.updM k a⟩⟩
theorem wp(g:Rn W h xp xg kind x re q)(_:Upd No h h'):∀b,b=xp->W b\/h'.size<=b:=λ_ e=>.inl (e▸g.wx)
variable (g:Rn W h xp xg kind x re q) (hL:q.L.length<=100000) {n:c6} {id:Int}
include g
include hL in
theorem QW(k:q.B.length<=1000)(m:∀p∈q.B,p.1.size<=40)(c:n.size<=40){B:Bi}(r:NmR B q.B)
  (s:∀h' s',Upd (· =xp) h h'->Rn W h' xp xg kind x re {q with sB:=s',B:=if mF B q.L n id false=0 then Di q.B n id else q.B}->K (mF B q.L n id false) h'):fK 26 [gZ xp,.string n,.int .u32 id] K h:=by
 refine dg (D4 (some ⟨xp,0,none⟩) n id) .nil Tryz.func26 Tryz.call26 ?_;dsimp only[D4,Zz,cJ,ix,dd,uJ,bR];refine⟨_,rfl,q.sB,vc g.blk 7,Uh g.r g.blk rfl hL g.b g.bc k m c r false λu d o j a=>⟨_,rfl,oD (i:=7) (a.get0 g.blk) a6 rfl λt f b=>?_⟩⟩
 exact s t d (a.wide.tr b) (g.names (sB:=d) (sT:=q.sT) (T:=q.T) (a.wide.tr b) (λy e=>.inl e) f (o.upd b (wp g a)) j ((g.upd0 a).t.upd b (wp g a)) g.tc)
include hL in
theorem Zo(k:q.T.length<=1000)(m:∀p∈q.T,p.1.size<=40)(c:n.size<=40){B:Bi}(r:NmR B q.T)
  (s:∀h' s',Upd (· =xp) h h'->Rn W h' xp xg kind x re {q with sT:=s',T:=if mF B q.L n id (id==0)=0 then Di q.T n id else q.T}->K (mF B q.L n id (id==0)) h'):fK 30 [gZ xp,.string n,.int .u32 id] K h:=by
 refine dg (My (some ⟨xp,0,none⟩) n id) .nil Tryz.func30 Tryz.call30 ?_;dsimp only[My,bR,Zz,cJ,ix,dd];refine⟨_,rfl,q.sT,vc g.blk 8,Uh g.r g.blk rfl hL g.t g.tc k m c r (id==0) λu d o j a=>⟨_,rfl,oD (i:=8) (a.get0 g.blk) a6 rfl λt f b=>?_⟩⟩
 exact s t d (a.wide.tr b) (g.names (sT:=d) (sB:=q.sB) (B:=q.B) (a.wide.tr b) (λy e=>.inl e) f ((g.upd0 a).b.upd b (wp g a)) g.bc (o.upd b (wp g a)) j)
theorem HA(s:q.B.length<=1000)(j:∀i (_:i<q.B.length),q.B[i].1=n->∀h' s',Upd (· =xp) h h'->Rn W h' xp xg kind x re {q with sB:=s',B:=q.B.take i++q.B.drop (i+1)}->K 0 h')
  (d:(∀p∈q.B,p.1≠n)->∀h',Upd (· =xp) h h'->Rn W h' xp xg kind x re q->K 4 h'):fK 28 [gZ xp,.string n] K h:=by
 refine dg (D3 (some ⟨xp,0,none⟩) n) .nil Tryz.func28 Tryz.call28 ?_;dsimp only[D3,kG,cJ,ix,dd,uJ,bR];refine⟨_,rfl,q.sB,vc g.blk 7,Ug g.b g.bc s g.lt (λi hi e u m t o a=>⟨_,rfl,oD (i:=7) (a.get0 g.blk) a6 rfl λk c b=>?_⟩) λf u a=>⟨_,rfl,oD (i:=7) (a.get0 g.blk) a6 rfl λk c b=>?_⟩⟩
 .exact j i hi e k m (a.wide.tr b) (g.names (sB:=m) (sT:=q.sT) (T:=q.T) (a.wide.tr b) (λy e=>.inl e) c (t.upd b (wp g a)) o ((g.upd0 a).t.upd b (wp g a)) g.tc)
 .exact d f k (a.wide.tr b) (g.names (sB:=q.sB) (sT:=q.sT) (T:=q.T) (a.wide.tr b) (λy e=>.inl e) c ((g.upd0 a).b.upd b (wp g a)) g.bc ((g.upd0 a).t.upd b (wp g a)) g.tc)
theorem Lf(s:q.T.length<=1000)(j:∀i (_:i<q.T.length),q.T[i].1=n->∀h' s',Upd (· =xp) h h'->Rn W h' xp xg kind x re {q with sT:=s',T:=q.T.take i++q.T.drop (i+1)}->K 0 h')
  (d:(∀p∈q.T,p.1≠n)->∀h',Upd (· =xp) h h'->Rn W h' xp xg kind x re q->K 4 h'):fK 32 [gZ xp,.string n] K h:=by
 refine dg (Gn (some ⟨xp,0,none⟩) n) .nil Tryz.func32 Tryz.call32 ?_;dsimp only[Gn,bR,kG,cJ,ix,dd];refine⟨_,rfl,q.sT,vc g.blk 8,Ug g.t g.tc s g.lt (λi hi e u m t o a=>⟨_,rfl,oD (i:=8) (a.get0 g.blk) a6 rfl λk c b=>?_⟩) λf u a=>⟨_,rfl,oD (i:=8) (a.get0 g.blk) a6 rfl λk c b=>?_⟩⟩
 .exact j i hi e k m (a.wide.tr b) (g.names (sT:=m) (sB:=q.sB) (B:=q.B) (a.wide.tr b) (λy e=>.inl e) c ((g.upd0 a).b.upd b (wp g a)) g.bc (t.upd b (wp g a)) o)
 .exact d f k (a.wide.tr b) (g.names (sB:=q.sB) (B:=q.B) (sT:=q.sT) (T:=q.T) (a.wide.tr b) (λy e=>.inl e) c ((g.upd0 a).b.upd b (wp g a)) g.bc ((g.upd0 a).t.upd b (wp g a)) g.tc)
end
end
section
variable {h:ad}{K:fD->dO}{N:Nat}{S:List Int->Prop}{Q:dx}
theorem AK{M:dx}{so:fD}{out:List Int}{x:Int}(c:OwnS u32 1 31 M h so out)(hM:∀b,h.size<=b->M b)(f:out.length<=1000000000)
  (e:∀s' h',OwnS u32 1 31 M h' s' (out++ [x])->Upd M h h'->K s' h'):
  ∃xs,SRow (hnew h [.int .u32 x] 31) (some (aR h)) (1*1) xs/\AppP (some [.int .u32 0]) 1 4 31 so.a so.len so.cap 1 xs (hnew h [.int .u32 x] 31) K:=by
 have k:=e9 No h [.int .u32 x] 31;refine⟨_,((Rs (M:=λ_=>True) h x trivial).sl (W:=No) λ_ _ _ h=>h).srow,?_⟩
 refine AppP.own (ys:= [x]) (c.upd k λ_ _ h=>h) rfl rfl rfl rfl a4 (by simp only[List.length_singleton];omega) (hM _ (by rw[dS];omega)) λs' h' a d=>?_
 exact e s' h' a ((e9 M h _ _).tr d)
theorem XS{r:Nat}{m:List (Int×fD)}(hm:MapAt KE sv h r m){K:Value->dO}
  (i:∀fv h',Gives PG fv u32 m.length (λxs=>xs.Perm (m.map (·.1))) (λb=>b=r\/b=h.size) h'->Upd No h h'->K fv h'):VT 43 [.map (some r)] K h:=by
 refine dg (jU (some r)) .nil Tryz.func43 Tryz.call43 ?_;unfold jU;have k:=e9 No h [.map (some r)] 102;refine i _ _ ?_ k;refine Sv (hm.upd k id) (bx:=h.size) (cf ..) λy q K hb d=>ou y ⟨h.size,0,none⟩ ?_
 dsimp only[fU,Qp];obtain⟨c,⟨es,a⟩,d⟩:=d;refine⟨some r,by rw[bw hb];rfl,c,.inr ⟨r,es,rfl,a⟩,?_⟩
 refine(d _ rfl).imp λI t h n=>n.imp id λe p ⟨x,v,f,j,g,o⟩=>⟨rfl,e,x,v,f,j,g,o⟩
theorem N2{R:Value}(hg:Gives PG R u32 N S Q h)(hN:N<=1000000000)
  (hk:∀s' h' xs,S xs->OwnS u32 1 31 (λb=>h.size<=b) h' s' xs->Upd No h h'->K s' h'):ce 142 [.slice none 0 0,R] K h:=by
 refine sO ⟨none,0,0⟩ R ?_;unfold lY abR;have k0:=e9 No h [.slice none 0 0] 43;have Z:=cf h [.slice none 0 0] 43;have T:(hnew h [.slice none 0 0] 43).size=h.size+1:=dS ..;have C:=hg.upd k0 λ_ _=>id
 simp only[At];generalize hnew h [.slice none 0 0] 43=h1 at C k0 Z T;refine⟨λlo hlo g=>?_⟩
 obtain⟨f,first,cap,rfl,E⟩:=C.run
 refine⟨f,first,cap,rfl,?_⟩
 have k1:Upd No h1 ((h1.push (.deferred (some []))).push (lo .ready none)):=(Upd.push No _ _).tr (Upd.push No _ _);have l2:((h1.push (.deferred (some []))).push (lo .ready none))[h1.size+1]? =some (lo .ready none):=by
  have:=oJ (h1.push (.deferred (some []))) (lo .ready none);rwa [Array.size_push]at this
 have l1:((h1.push (.deferred (some []))).push (lo .ready none))[h1.size]? =some (.deferred (some [])):=(Upd.push No _ _).get0 (oJ h1 _);refine E (.func (.yield (h1.size+1)) #[] #[]) (λpre A h'=>(∀b,A b->b<h'.size/\h.size<=b)/\A h.size/\A h1.size/\A (h1.size+1)/\h'[h1.size]? =some (.deferred (some []))/\h'[h1.size+1]? =some (lo .ready none)/\
   ∃s:fD,h'[h.size]? =some (.cells #[sv s] 43 (0,0))/\OwnS u32 1 31 (λb=>A b/\h1.size+1<b) h' s pre/\pre.length<=N)
  (λb=>b=h.size\/b=h1.size\/b=h1.size+1) No _ _ ⟨λ_ _ _ y b hb=>(y.1 b hb).1,λpre A h' h'' B y q L=>?_,λpre A h' x K' y hlen hK=>?_⟩ ?_ k1 (λ_ _=>id) (λb hb hq=>?_) ?_
 .obtain⟨I,u,i,j,O,h6,s,h7,h8,h9⟩:=y
  exact⟨λb hb=>⟨aD (I b hb).1 q.size,(I b hb).2⟩,u,i,j,q.get O (L _ i),q.get h6 (L _ j),s,q.get h7 (L _ u),h8.upd q λb hb=>L b hb.1,h9⟩
 .obtain⟨p,a,k,d,hd,w,s,P,U,X⟩:=y
  refine g x h' K' w ⟨w,?_⟩;have m:Upd (· =h1.size+1) h' (h'.setIfInBounds (h1.size+1) (lo .busy none)):=Upd.set _ _ rfl
  have V:=eE (o:=lo .busy none) w;have sb:=m.size;generalize h'.setIfInBounds (h1.size+1) (lo .busy none)=u at m V sb;refine⟨s,by rw[cG,bw (m.get P a4)];rfl,?_⟩
  refine AK (M:=λb=>(A b\/u.size<=b)/\h1.size+1<b) ((U.upd m λb hb=>a4).more λb hb=>⟨.inl hb.1,hb.2⟩) (λb hb=>⟨.inr hb,by have:=bB V;omega⟩) a4 λs' i Y e=>?_
  have n:i[h.size]? =some (.cells #[sv s] 43 (0,0)):=e.get (m.get P a4) a4;refine⟨by rw[cG];exact fk n a6,?_⟩;have t:Upd (· =h.size) i (hset i (aR h) (.slice s'.a s'.len s'.cap)):=Upd.hset _ _ rfl
  have z:(hset i (aR h) (.slice s'.a s'.len s'.cap))[h.size]? =some (.cells #[sv s'] 43 (0,0)):=by
   rw[cG,kU n,eE n];rfl
  generalize hset i (aR h) (.slice s'.a s'.len s'.cap)=j at t z;have D:j[h1.size+1]? =some (lo .busy none):=t.get (e.get V a4) a4;refine⟨D,?_⟩;have c:Upd (· =h1.size+1) j (j.setIfInBounds (h1.size+1) (lo .ready none)):=Upd.set _ _ rfl
  have W:=eE (o:=lo .ready none) D;have J:Upd A h' j:=((m.mono (M':=A) λb hb=>.inl (hb▸d)).trans e λb hb=>hb.1.imp id λh=>a4).trans t λb hb=>.inl (hb▸a)
  have z3:=e.size;have z4:=t.size;have z5:=c.size;refine hK _ (λb=>(A b\/u.size<=b)/\b<j.size) ⟨λb hb=>⟨aD hb.2 z5,hb.1.elim (λh=>(p b h).2) λh=>by have:=(p _ a).1;omega⟩,⟨.inl a,by have:=(p _ a).1;omega⟩,⟨.inl k,by have:=(p _ k).1;omega⟩,⟨.inl d,by have:=(p _ d).1;omega⟩,
   c.get (t.get (e.get (m.get hd a4) a4) a4) a4,W,s',c.get z a4,?_,a9⟩ (J.trans c λb hb=>.inl (hb▸d)) λb hb=>hb.1.imp id λh=>a4
  exact(((Y.upd t λb hb=>a4).within).more λb hb=>⟨⟨hb.1.1,hb.2⟩,hb.1.2⟩).upd c λb hb=>a4
 .refine⟨λb hb=>?_,.inl rfl,.inr (.inl rfl),.inr (.inr rfl),l1,l2,⟨none,0,0⟩,k1.get0 Z,OwnS.nil kz,aJ _⟩
  have:=bB l2;rcases hb with rfl|rfl|rfl<;>omega
 .have:=hg.lt b hq
  rcases hb with rfl|rfl|rfl<;>omega
 .rintro xs A' h' hS ⟨p,a,k,d,hd,w,s,P,U,X⟩ q hA'
  refine⟨.ready,none,a8,w,?_⟩
  have c:Upd (· =h1.size+1) h' (h'.setIfInBounds (h1.size+1) (lo .exhausted none)):=Upd.set _ _ rfl
  show∃v:fD,aZ (h'.setIfInBounds (h1.size+1) (lo .exhausted none)) (aR h)=some (.slice v.a v.len v.cap)/\_
  have G:=c.get hd (show ¬h1.size=h1.size+1 by omega)
  have F:=c.get P (show ¬h.size=h1.size+1 by omega)
  have H:=U.upd c λb hb=>a4
  generalize h'.setIfInBounds (h1.size+1) (lo .exhausted none)=O at c G F H;refine⟨s,by rw[cG,bw F];rfl,G,?_⟩
  have k6:Upd (· =h1.size) O (O.setIfInBounds h1.size (.deferred none)):=Upd.set _ _ rfl
  refine hk s _ xs hS ((H.upd k6 λb hb=>a4).more λb hb=>(p b hb.1).2) ?_
  refine(((k0.tr k1).trans q λb hb=>?_).trans c λb hb=>.inr a4).trans k6 λb hb=>.inr a4
  rcases hb with rfl|rfl|rfl<;>(right;omega)
theorem S4{a:Value}(d:Gives PG a u32 N S Q h)(c:N<=1000000000)
  (e:∀s' h' xs,S xs->OwnS u32 1 31 (λb=>h.size<=b) h' s' xs->Upd No h h'->K s' h'):ce 94 [a] K h:=by
 refine dg (si a) .nil Tryz.func94 Tryz.call94 ?_;unfold si;exact N2 d c e
end
theorem XJ:∀{xs:List Int},xs≠[]->∃m∈xs,∀x∈xs,x<=m
 | [],h=>absurd rfl h
 | [x],_=>⟨x,az.2 rfl,λy c=>by rw[az.1 c];exact gM _⟩
 |x::y::xs,_=>by
  obtain⟨m,hm,b⟩:=XJ (xs:=y::xs) a6;by_cases h:x<=m
  .exact⟨m,aA _ hm,λz a=>by rcases aw.1 a with rfl|a;exact h;exact b z a⟩
  .exact⟨x,aq ..,λz a=>by
    rcases aw.1 a with rfl|a
    .exact gM _
    .have:=b z a;omega⟩
theorem WI{W:dx}{h:ad}{xp:Nat}{L:dA}{nx:Int}(g:RefAt W h xp L nx)(V:Good L)(a b:Int)
  {K:Int×Bool->dO}(hk:∀d h',(∀c,UpG L a c->UpG L b c->c<=d)->(d=0\/UpG L a d/\UpG L b d)->0<=d->Upd No h h'->K (d,decide (d>0)) h'):
  EZ 79 [gZ xp,.int .u32 a,.int .u32 b] K h:=by
 refine dg (JK (some ⟨xp,0,none⟩) a b) Tp Tryz.func79 Tryz.call79 ?_;dsimp only[JK,iC,Q7,vK,cz,fj,sL];have hL:=V.len;refine xb g V a λs1 h1 xs hx1 Z w hu1=>?_
 refine xb (g.upd0 hu1) V b λs2 h2 ys hy1 hy2 hs2 hu2=>?_
 have hs1':=(w.less (W':=No) λ_ h=>h.elim).upd hu2 λ_ h=>h.elim
 have Q:=hs2.less (W':=No) λ_ h=>h.elim
 have hxl:xs.length<=L.length:=by
  have:=mM (hx1.imp λh=>qy h) (l':=eR L) λy F=>((Z y).1 F).right
  simpa using this
 have hyl:ys.length<=L.length:=by
  have:=mM (hy1.imp λh=>qy h) (l':=eR L) λy F=>((hy2 y).1 F).right
  simpa using this
 have D:=hu1.tr hu2;refine ez (λ(i:Nat) (t:fD×Int) h'=>t.2=(i:Int)/\i<=xs.length/\Upd No h2 h'/\OwnS u32 1 31 (λb=>h2.size<=b) h' t.1 ((xs.take i).filter λx=>decide (x∈ys))) (λi=>xs.length-i) 0
  ⟨rfl,aJ _,eM _ _,OwnS.nil kz⟩ ?_
 rintro I i ⟨so,t⟩ h' ⟨ht,hi,O,ho⟩ hI;(try simp only at ht ho)
 subst ht;refine ar (λf=>?_) λN=>?_
 .rw[w.len]at f
  have f:i<xs.length:=a4
  obtain⟨a1,G,_,hx⟩:=Nums.at (hs1'.upd O λ_ h=>h.elim) f
  refine eQ ⟨by rw[w.len];omega,a1,G,_,hx,Ht (Q.upd O λ_ h=>h.elim) a4 _ (ar (λhm=>?_) λhm=>?_)⟩
  .refine AK ho (λb hb=>aO O.size hb) (by have:=bQ (λx=>decide (x∈ys)) (xs.take i);simp at this;omega) λs' h3 ho3 s=>?_
   (try simp only)
   rw[bN f a4];refine hI (i+1) _ _ ⟨rfl,f,O.trans s λb hb=>.inr hb,?_⟩ a4
   rw[ax f,cy,bf,if_pos (decide_eq_true hm)];exact ho3
  ·(try simp only)
   rw[bN f a4];refine hI (i+1) _ _ ⟨rfl,f,O,?_⟩ a4;rw[ax f,cy,bf,if_neg (by simpa using hm)];simpa using ho
 .rw[w.len]at N
  have:i=xs.length:=a4
  rw[bd a4]at ho;have H:∀y,y∈(xs.filter λx=>decide (x∈ys))↔UpG L a y/\UpG L b y:=λy=>by
   rw[bV,decide_eq_true_iff,Z,hy2]
  have hbl:(xs.filter λx=>decide (x∈ys)).length<=L.length:=aO (bQ ..) hxl
  have q:Nums No h' so (xs.filter λx=>decide (x∈ys)):=ho.sl λ_ _ _ h=>h
  generalize hbo:(xs.filter λx=>decide (x∈ys))=both at q H hbl
  have g2:=g.upd0 D;have g3:=g2.upd0 O;refine ez (λ(i:Nat) (t:Int×Int) h2'=>t.2=(i:Int)/\i<=both.length/\Upd No h' h2'/\0<=t.1/\(t.1=0\/t.1∈both)/\∀x∈both.take i,(∀y∈both,y<=x)->x<=t.1) (λi=>both.length-i) 0
   ⟨rfl,aJ _,eM _ _,gM _,.inl rfl,λx hx=>by simp at hx⟩ ?_
  rintro I2 j ⟨d,t⟩ h3 ⟨ht,hj,s,T,J,z⟩ hI2;(try simp only at ht T J z)
  subst ht;have U:=q.upd s λ_ h=>h.elim
  refine ar (λf=>?_) λN=>?_
  .rw[q.len]at f
   have f:j<both.length:=a4
   obtain⟨a1,G,_,hx⟩:=Nums.at U f;refine eQ ⟨by rw[q.len];omega,a1,G,_,hx,?_⟩;refine ez (λ(i:Nat) (t:Bool×Int) h4=>t.2=(i:Int)/\i<=both.length/\Upd No h3 h4/\(t.1=false->∃y∈both,both[j]<y)) (λi=>both.length-i) 0
    ⟨rfl,aJ _,eM _ _,λe=>by cases e⟩ ?_
   rintro I3 k ⟨B,t⟩ h4 ⟨ht,hkl,v,u⟩ hI3;(try simp only at ht u)
   subst ht;have hs4:=U.upd v λ_ h=>h.elim
   refine ar (λo=>?_) λhge2=>?_
   .rw[q.len]at o
    have o:k<both.length:=a4
    obtain⟨a2,ha2,_,hx'⟩:=Nums.at hs4 o;refine eQ ⟨by rw[q.len];omega,a2,ha2,_,hx',?_⟩;refine eF (λt P=>Upd No h4 P/\(t=true->both[j]<both[k])) (λR S=>?_) ?_
    .refine eh (λhne=>?_) λ_=>S _ _ ⟨eM _ _,λe=>by cases e⟩
     have hne:both[k]≠both[j]:=by simpa using hne
     refine xb ((g3.upd0 s).upd0 v) V both[k] λs5 P zs hz1 X hs5 A=>?_
     have hzl:zs.length<=L.length:=by
      have:=mM (hz1.imp λh=>qy h) (l':=eR L) λy F=>((X y).1 F).right
      simpa using this
     refine Ht hs5 a4 _ (S _ _ ⟨A,λe=>?_⟩)
     have:=(X _).1 (of_decide_eq_true e);have:=UpG.le V this;omega
    .rintro t P ⟨A,E⟩
     refine eh (λe=>?_) λe=>?_
     ·(try simp only)
      rw[bN o a4];exact hI3 (k+1) _ _ ⟨rfl,o,v.tr A,λ_=>⟨_,aF o,E e⟩⟩ a4
     ·(try simp only)
      rw[bN o a4];exact hI3 (k+1) _ _ ⟨rfl,o,v.tr A,u⟩ a4
   .have step:∀n:Int,(n=d\/n=both[j])->d<=n->((∀y∈both,y<=both[j])->both[j]<=n)->I2 (n,ac .i64 ((j:Int)+1)) h4:=λn h1 h2 h3'=>by
     rw[bN f a4];refine hI2 (j+1) _ _ ⟨rfl,f,s.tr v,by(try simp only);omega,?_,λx hx p=>?_⟩ a4
     .rcases h1 with rfl|rfl
      .exact J
      .exact .inr (aF f)
     .rw[ax f]at hx
      rcases aN.1 hx with hx|hx
      .have:=z x hx p;(try simp only);omega
      .rw[az.1 hx]at p⊢;exact h3' p
    refine eF (λt P=>P=h4/\(t=true->B=true/\both[j]>d)/\(t=false->B=true->¬both[j]>d)) (λR S=>?_) ?_
    .refine eh (λe=>S _ _ ⟨rfl,λC=>⟨e,of_decide_eq_true C⟩,λC _=>of_decide_eq_false C⟩) λe=>S _ _ ⟨rfl,λC=>(by cases C),λ_ C=>(by have e:B=false:=e;rw[e]at C;cases C)⟩
    .rintro t P ⟨rfl,q1,q2⟩
     refine eh (λe=>?_) λe=>?_
     .obtain⟨_,hgt⟩:=q1 e
      exact step _ (.inr rfl) a4 λ_=>gM _
     .refine step _ (.inl rfl) (gM _) λp=>?_
      cases hl:B with
      |true=>have:=q2 e hl;omega
      |false=>
       obtain⟨y,F,E⟩:=u hl;have:=p y F;omega
  .rw[q.len]at N
   have:j=both.length:=a4
   rw[bd a4]at z;refine hk d h3 (λc q1 q2=>?_) (J.imp (λh=>h) λhb=>(H _).1 hb) T ((D.tr O).tr s)
   have hc:=(H c).2 ⟨q1,q2⟩;obtain⟨m,hm,Y⟩:=XJ (xs:=both) (List.ne_nil_of_mem hc);exact Int.le_trans (Y c hc) (z m hm Y)
section
variable {i:Nat}
theorem PY:∀(xs:Bi) (i:Nat) (hi:i<xs.length) (id:Int),(xs.flatMap yd).set (i*2+1) (.int .u32 id)=(xs.set i (xs[i].1,id)).flatMap yd
 |p::xs,0,_,id=>rfl
 |p::xs,i+1,hi,id=>by
  have a:=PY xs i (by simpa using hi) id;rw[show(i+1)*2+1=i*2+1+1+1 by omega]
  simp only[List.flatMap_cons,List.set_cons_succ,List.getElem_cons_succ,List.cons_append,cS,a]
theorem adT{ty:TypeId}{M:dx}{h:ad}{s:fD}{xs:Bi}(o:OwnS yd 2 ty M h s xs)(hi:i<xs.length)(id:Int){k:dO}(q:∀h',OwnS yd 2 ty M h' s (xs.set i (xs[i].1,id))->Upd M h h'->k h'):
  ∃a,s.a=some a/\Wr h (adr (adr a (i*2)) 1)/\At (hset h (adr (adr a (i*2)) 1) (.int .u32 id)) k:=by
 have c:=o.len;have d:=o.cap;rcases o.blk with t|⟨b,f,g,hb,hc,n⟩
 .omega
 have j:(xs.flatMap yd).length=xs.length*2:=iw (λx=>(uw x).1) xs
 refine⟨_,g,?_⟩;rw[pd];refine oD hc (by rw[List.size_toArray,List.length_append,j];omega) (List.setIfInBounds_toArray ..) λp b2 m=>q p ⟨by rw[List.length_set];exact c,uw,d,.inr ⟨b,f,g,hb,?_,n⟩⟩ (m.mono λ_ e=>.inl (e▸hb))
 rw[b2,List.set_append_left _ _ (by rw[j];omega),PY xs i hi id]
section
variable {W:dx} {h:ad} {xp xg:Nat} {kind:Int} {x:Hs} {re:Rt} {q:RS}
def Kf(q:RS)(id:Int)(B:TD):Prop:=(id=0/\B.2= [])\/(id≠0/\id∈eR q.L/\bK q.D id=some B)
theorem Er(g:Rn W h xp xg kind x re q)(nd:(q.D.map (·.1)).Nodup){id:Int}{B:TD}(G:Kf q id B)(hL:q.L.length<=100000)(Y:q.D.length<=100000){K:Rt×Int->dO}(H:∀h' r,RefIs W h' kind x r B.2->Upd No h h'->K (r,0) h'):
  AQ 52 [gZ xp,.int .u32 id] K h:=by
 refine dg (Qw (some ⟨xp,0,none⟩) id) Y3 Tryz.func52 Tryz.call52 ?_;dsimp only[Qw,tx,ey,ff,dE,nv,ge,iC,pU,bR,MS,Zl,Zy,vy,bh,ao,dK,cJ,jX,fj,yz,uK,cO];refine aQ λh1 b1 k1=>eh (λe=>?_) λe=>?_
 .have e:id=0:=by simpa using e
  have N:B.2= []:=G.elim (·.2) λh=>absurd e h.1
  have c1:=k1.get0 g.blk;refine⟨_,rfl,_,iq c1 0 0,_,iq c1 0 1,_,iq c1 0 2,_,iq c1 0 3,re.2.2.2.2,iq c1 0 4,?_⟩;refine co (c:=ry KA) (vs:=ry re) b1 rfl λJ b2 S=>⟨_,vc b2 0,_,vc b2 1,_,vc b2 2,_,vc b2 3,re.2.2.2.2,vc b2 4,?_⟩
  have O:Upd No h J:=k1.own S (aj _);exact H J re (by rw[N];exact g.e.upd0 O) O
 have e:id≠0:=by simpa using e
 obtain⟨_,hi,hd⟩:=G.resolve_left λh=>e h.1
 refine eF (λ_ _=>False) (λR _=>⟨_,rfl,_,vc (k1.get0 g.blk) 5,CC (g.r.upd0 k1) a4 id λn A p L=>ar (λ_=>?_) λe=>absurd (L.2 hi) e⟩) λ_ _ h=>h.elim
 have f:=k1.tr p;have w:=g.upd0 f;have s1:=f.size;have z1:=bB b1;have T:=p.size;refine⟨_,rfl,q.ts,vc w.blk 6,?_⟩;have N:=g.ts.len;have L:=g.n;refine ez (λ(i:Nat) (t:Int) h'=>t=(i:Int)/\i<=q.Ds.length/\(∀j (z:j<q.D.length),j<i->q.D[j].1≠id)/\Upd No A h') (λi=>q.Ds.length-i) 0 ⟨rfl,aJ _,(λj _ h=>a4),eM _ _⟩ ?_
 rintro I i t E ⟨rfl,U,Q,k⟩ Z;have u:=w.upd0 k;refine ar (λb=>?_) λX=>?_
 .have b:i<q.Ds.length:=by omega
  obtain⟨a,ha,_,hv⟩:=(u.ts.sl (W:=No) λ_ _ _ h=>h).at (af b)
  obtain⟨P,pr⟩:=u.par i b a4;refine⟨⟨a4,a4⟩,a,ha,_,hv 0 _ rfl,_,hv 1 _ rfl,_,hv 2 _ rfl,_,hv 3 _ rfl,_,hv 4 _ rfl,q.Ds[i].2.2.2.2.2,hv 5 _ rfl,?_⟩
  refine aQ λh31 C F=>co (c:= [.int .u32 0,.int .i64 0,.int .u64 0,.int .u64 0,.int .u64 0,.slice none 0 0]) (vs:=ZH q.Ds[i]) C rfl λv d u32=>⟨_,vc d 0,?_⟩
  have o:Upd No E v:=F.own u32 (aj _);have V:=k.size;refine eh (λe=>?_) λe=>?_
  .have e:q.D[i].1=id:=by rw[<-P];simpa using e
   have ed:q.D[i].2=B:=by
    have hm:(q.D[i].1,q.D[i].2)∈q.D:=aF (show i<q.D.length by omega)
    have:=(eS nd).2 hm;rw[e,hd]at this;exact(Option.some.inj this).symm
   have bt:v[h.size]? =some (.cells (ry KA).toArray 111 (0,0)):=o.get0 (k.get0 (p.get0 b1));refine⟨_,iq d 1 0,_,iq d 1 1,_,iq d 1 2,_,iq d 1 3,q.Ds[i].2.2.2.2.2,iq d 1 4,?_⟩;refine co (c:=ry KA) (vs:=ry q.Ds[i].2) bt rfl λs m D=>?_
   have y:Upd No h s:=((f.tr k).tr o).own D (aj _);refine⟨_,vc m 0,_,vc m 1,_,vc m 2,_,vc m 3,q.Ds[i].2.2.2.2.2,vc m 4,H s q.Ds[i].2 ?_ y⟩;rw[<-ed];exact(g.par i b a4).2.upd0 y
  .have e:q.D[i].1≠id:=by rw[<-P];simpa using e
   rw[bN (n:=q.Ds.length) b a4];refine Z (i+1) _ _ ⟨rfl,b,λj z hji=>?_,k.tr o⟩ a4
   by_cases ej:j=i
   .subst ej;exact e
   .exact Q j z a4
 .obtain⟨j,z,e⟩:=bH (kV hd)
  exact absurd (by rw[e]) (Q j z a4)
theorem ML(g:Rn W h xp xg kind x re q)(hi:i<q.B.length)(id:Int)(E:q.B.length<=1000){K:vB []->dO}(v:∀h' s',Upd (· =xp) h h'->Rn W h' xp xg kind x re {q with sB:=s',B:=q.B.set i (q.B[i].1,id)}->K () h'):
  dQ 78 [gZ xp,.int .i64 i,.int .u32 id] K h:=by
 refine dg (Mw (some ⟨xp,0,none⟩) i id) Wq Tryz.func78 Tryz.call78 ?_;dsimp only[Mw,uk,dd,cJ,jX,fj,ix,uJ,bR];refine eQ (aQ λo b2 m=>⟨_,rfl,q.sB,vc (m.get0 g.blk) 7,?_⟩)
 have F:=m.size;have C:=bB g.blk;refine N4 (M:=λy=>o.size<=y) (out:= []) (c:=q.sB.cap) (OwnS.nil uw) (g.upd0 m).b (aj _) a9 λu D w z=>?_
 have s:Upd No h D:=m.fresh z λy a=>a4
 refine⟨_,rfl,oD (i:=7) (s.get0 g.blk) a6 rfl λH p t=>?_⟩
 have n:=w.upd t λy a e=>by have e:y=xp:=e;omega
 rw[cS]at n;have G:=n.len;refine⟨_,rfl,u,vc p 7,⟨a4,a4⟩,?_⟩
 rw[aY];refine adT n hi id λf k j=>?_
 have d:Upd (λy=>y=xp\/o.size<=y) h f:=(s.wide.tr (t.mono λy a=>.inl (.inl a))).tr (j.mono λy a=>.inl (.inr a))
 refine v f u (d.mono λy a=>a.imp (λh=>h) λa=>a4) (g.names (sT:=q.sT) (T:=q.T) d (λy a=>a.imp (λh=>h) λa=>a4) (j.get p λa=>a4) (k.sl λb hb _ A=>by have:=g.lt b A;omega) k.cap (g.t.upd d λy a=>a.imp (λ(e:y=xp)=>e▸g.wx) λa=>a4) g.tc)
end
end
def zj(q:RS)(i:Nat)(hi:i<q.B.length)(d:TD)(ps:List Int)(r:Rt)(ts sB:fD):RS:=
 if(gu q.L q.nx ps).1.2≠0 then q
 else{q with L:=(gu q.L q.nx ps).2.1,nx:=(gu q.L q.nx ps).2.2,D:=q.D++ [(q.nx,d)],Ds:=q.Ds++ [(q.nx,r)],ts:=ts,sB:=sB,B:=q.B.set i (q.B[i].1,q.nx)}
section
variable {W:dx} {h:ad} {xp xg:Nat} {kind:Int} {x:Hs} {re:Rt} {q:RS}
theorem FA(g:Rn W h xp xg kind x re q)(hnx:0<=q.nx)(hL:q.L.length<=100000)(hD:q.Ds.length<=100000)(hn:q.B.length<=1000){i:Nat}(hi:i<q.B.length){d:TD}{r:Rt}(j:RefIs W h kind x r d.2){sl:fD}{ps:List Int}(hs:Nums W h sl ps)(hps:ps.length<=1000)
  {K:Int×Int->dO}(V:∀h' ts sB,Upd (RW xg xp q) h h'->(∀y,sb ts y->sb q.ts y\/h.size<=y)->(∀W':Nat->Prop,(∀y,W' y->(W y\/sb (zj q i hi d ps r ts sB).ts y))->(∀y,RW xg xp (zj q i hi d ps r ts sB) y->W' y)->Rn W' h' xp xg kind x re (zj q i hi d ps r ts sB))->K (gu q.L q.nx ps).1 h'):
  Hv 81 [gZ xp,.int .i64 i,Vl r,.slice sl.a sl.len sl.cap] K h:=by
 refine dg (Bv (some ⟨xp,0,none⟩) i r sl) K9 Tryz.func81 Tryz.call81 ?_;dsimp only[Bv,y7,bR,OE,Zl,Zy,vy,bh,ao,dK,cJ,ix,dd,KS,uK,cO,wQ,qE];have lt:=g.lt;refine aQ λA b1 k1=>⟨_,rfl,_,vc (k1.get0 g.blk) 5,Zq (g.upd0 k1).r hnx hL (hs.upd k1 λ_ h=>h.elim) a4 λX u5 Y=>?_⟩
 have s1:=k1.size;have s5:=u5.size;have wx:=lt _ g.wx;have wg:=lt _ g.r.wp;have c:Upd (· =xg) h X:=k1.wide.tr u5
 have U:=c.get g.blk λe=>g.gx e.symm
 have P:=u5.oth b1 (show h.size≠xg by omega)
 refine eh (λe=>?_) λe=>?_
 .have e:(gu q.L q.nx ps).1.2≠0:=by simpa using e
  have Z:=Qk e;have hv:∀ts sB,zj q i hi d ps r ts sB=q:=λts sB=>by unfold zj;rw[if_pos e]
  have:=V X q.ts q.sB (c.mono λy a=>.inl (.inl a)) (λy a=>.inl a) λW' S O=>?_
  .rw[show(gu q.L q.nx ps).1=(0,(gu q.L q.nx ps).1.2)from Prod.ext (by unfold gu at e⊢;split;rfl;split;rfl;split;rfl;rename_i A I h3;rw[if_neg A,if_neg I,if_neg h3]at e;exact absurd rfl e) rfl]at this
   exact this
  .rw[hv]at S O⊢
   rw[Z]at Y;have J:∀y,W' y->W y:=λy a=>(S y a).elim id λh=>(g.tw y h).1
   have hm:∀b,b=xg->W b\/h.size<=b:=λb e=>.inl (e▸g.r.wp)
   have z:∀b,W' b->W b\/h.size<=b:=λb hb=>.inl (J b hb)
   exact⟨Y.re (eM No X) (λ_ h=>h.elim) (λb hb=>⟨.inl (J b hb),by have:=lt b (J b hb);omega⟩) (O _ (.inl rfl)),O _ (.inr (.inl rfl)),g.gx,U,g.e.re c hm z,g.ts.upd c λy a e=>(g.tw y a).2.1 e,λy a=>⟨O y (.inr (.inr a)),(g.tw y a).2⟩,Sl.re g.b c hm z,g.bc,Sl.re g.t c hm z,g.tc,g.n,λi A I=>⟨(g.par i A I).1,(g.par i A I).2.re c hm z⟩⟩
 have e:(gu q.L q.nx ps).1.2=0:=by simpa using e
 have Z:=E9 e;have hv:∀ts sB,zj q i hi d ps r ts sB={q with L:=wN q.L q.nx ps,nx:=q.nx+1,D:=q.D++ [(q.nx,d)],Ds:=q.Ds++ [(q.nx,r)],ts:=ts,sB:=sB,B:=q.B.set i (q.B[i].1,q.nx)}:=λts sB=>by
  unfold zj;rw[if_neg (by rw[e];simp),Z]
 simp only[hv]at V;rw[Z]at Y V⊢;refine eQ ⟨_,rfl,q.ts,vc U 6,_,vc P 0,_,vc P 1,_,vc P 2,_,vc P 3,r.2.2.2.2,vc P 4,?_⟩;have o5:=g.ts.upd c λy a e=>(g.tw y a).2.1 e
 refine aQ λh14 b14 m=>?_
 have s14:=m.size;have p:=m.get0 P;refine⟨⟨vc p 0,vc p 1,vc p 2,vc p 3,vc p 4⟩,vc (m.get0 U) 6,?_⟩;refine aca (f:=ZH) (t:=(q.nx,r)) (so:=q.ts) (o5.upd m λ_ _ h=>h) b14 rfl rfl ⟨a4,a4⟩ a4 λk h17 o17 u v=>?_
 have s17:=u.size;have nt:¬sb q.ts h.size:=λa=>by have:=lt _ (g.tw _ a).1;omega
 have nx:¬sb q.ts xp:=λa=>(g.tw _ a).2.2 rfl
 have ng:¬sb q.ts xg:=λa=>(g.tw _ a).2.1 rfl
 have w:=u.get p nt;have x17:=u.get (m.get0 U) nx;have n:∀y,sb k y->sb q.ts y\/h.size<=y:=λy a=>(v y a).1.imp id λh=>a4
 refine⟨⟨vc w 0,vc w 1,vc w 2,vc w 3,vc w 4⟩,_,rfl,oD (i:=6) x17 a6 rfl λE b19 C=>?_⟩
 have s19:=C.size;have s:Upd (RW xg xp q) h E:=(((c.mono λy a=>.inl (.inl a)).tr m.wide).tr (u.mono λy a=>.inl (.inr (.inr a)))).tr (C.mono λy a=>.inl (.inr (.inl a)))
 have R:Upd (λy=>y=xp\/sb q.ts y) X E:=(m.wide.tr (u.mono λy a=>.inl (.inr a))).tr (C.mono λy a=>.inl (.inl a))
 have H:∀y,sb k y->y≠xg/\y≠xp:=λy a=>(n y a).elim (λh=>(g.tw y h).2) λh=>⟨a4,a4⟩
 have hm:∀b,RW xg xp q b->W b\/h.size<=b:=λb hb=>.inl (g.rw b hb)
 have o:∀b,(W b\/sb k b)->W b\/h.size<=b:=λb hb=>hb.elim .inl λhb=>(n b hb).imp (λh=>(g.tw b h).1) id
 have F:∀b,(W b\/sb k b)->b<E.size:=λb hb=>hb.elim (λhb=>by have:=lt b hb;omega) λhb=>by have:=(v b hb).2;omega
 have G:Rn (λb=>W b\/sb k b) E xp xg kind x re {q with L:=wN q.L q.nx ps,nx:=q.nx+1,D:=q.D++ [(q.nx,d)],Ds:=q.Ds++ [(q.nx,r)],ts:=k}:=by
  refine⟨Y.re R (λb hb=>.inl (hb.elim (λe=>⟨e▸g.wx,λe'=>g.gx (e'.symm.trans e)⟩) λh=>⟨(g.tw b h).1,(g.tw b h).2.1⟩)) (λb hb=>⟨(o b hb).imp id λh=>?_,F b hb⟩) (.inl g.r.wp),.inl g.wx,g.gx,b19,g.e.re s hm o,o17.upd C λy a e=>(H y a).2 e,λy a=>⟨.inr a,H y a⟩,Sl.re g.b s hm o,g.bc,Sl.re g.t s hm o,g.tc,by simp[g.n],λi A I=>?_⟩
  .rcases hb with hb|hb
   .exact absurd (lt b hb) (dR.2 h)
   .rcases(v b hb).1 with h'|h'
    .exact absurd (lt b (g.tw b h').1) (dR.2 h)
    .omega
  .by_cases N:i<q.Ds.length
   .have:=g.n
    simp only[List.getElem_append_left N,List.getElem_append_left (show i<q.D.length by omega)]
    exact⟨(g.par i N a4).1,(g.par i N a4).2.re s hm o⟩
   .have:=g.n
    have ei:i=q.Ds.length:=by simp at A;omega
    rw[show(q.Ds++ [(q.nx,r)])[i]'A=(q.nx,r)from List.getElem_concat_length ei A,show(q.D++ [(q.nx,d)])[i]'I=(q.nx,d)from List.getElem_concat_length a4 I]
    exact⟨rfl,j.re s hm o⟩
 refine ML G hi q.nx hn λT sB Q G2=>?_
 have s23:=Q.size;refine V T k sB (s.tr (Q.mono λy a=>.inl (.inr (.inl a)))) n λW' S O=>G2.mv (eM No T) (λ_ h=>h.elim) (λb hb=>⟨.inl (S b hb),by have:=F b (S b hb);omega⟩) O
end
theorem Ip{α:Type}[DecidableEq α]:∀{l m:List α},l.Nodup->(∀y∈l,y∈m)->l.length<=m.length
 | [],_,_,_=>aJ _
 |a::l,m,b,hs=>by
  have b:=List.nodup_cons.1 b;have d:=hs a aq;have:=Ip (m:=m.erase a) b.2 λy c=>(List.mem_erase_of_ne λe:y=a=>b.1 (by rw[<-e];exact c)).2 (hs y (aA _ c))
  rw[List.length_erase_of_mem d]at this;have:=List.length_pos_of_mem d;rw[List.length_cons];omega
structure Kin(U:List c6)(l:bY):Prop where
 up:bS l
 fit:∀p∈l,p.1∈U/\p.1.size<=30/\p.2.size<=30
section
variable {U V:List c6} {l B O T:bY}
theorem Kin.few(f:Kin U l){n:Nat}(h:U.length<=n):Few n l:=by
 refine⟨f.up,aO ?_ h,λp c=>(f.fit p c).2⟩
 have:=Ip (l:=l.map (·.1)) (m:=U) (fH.2 (f.up.imp λ{a b} (h:kl a.1 b.1) e=>bX a.1 (by rw[<-e]at h;exact h))) λy d=>by
  obtain⟨p,c,rfl⟩:=be.1 d;exact(f.fit p c).1
 rw[bP]at this;exact this
theorem Kin.nil:Kin U []:=⟨cj,λ_ h=>by cases h⟩
theorem Kin.more(f:Kin U l)(h:∀k∈U,k∈V):Kin V l:=⟨f.up,λp a=>⟨h _ (f.fit p a).1,(f.fit p a).2⟩⟩
theorem Kin.ins(f:Kin U l)(p:Pr)(c:p.1.size<=30)(b:p.2.size<=30):Kin (p.1::U) (gQ p l):=
 ⟨pF p f.up,λq a=>(uy a).elim (λe=>by rw[e];exact⟨aq,c,b⟩) λh=>⟨aA _ (f.fit q h).1,(f.fit q h).2⟩⟩
theorem Kin.del(f:Kin U l)(k:c6):Kin U (m9 k l):=⟨EK f.up,λp a=>f.fit p (Hm.1 a).1⟩
theorem Kin.merge(c:Kin U B)(b:Kin U O)(a:Kin U T)(p:Int):Kin U (jx B O T p):=by
 have r:bS (jx B O T p):=ym b.up;refine⟨r,λq d=>?_⟩
 have h:=ui r (k:=q.1) (v:=q.2) d;rw[IB c.up a.up]at h;unfold tk at h;rcases Ez (look B q.1) (look O q.1) (look T q.1) p with e|e|e
 .rw[e]at h;exact c.fit _ (mX h)
 .rw[e]at h;exact b.fit _ (mX h)
 .rw[e]at h;exact a.fit _ (mX h)
end
section
variable {n:c6}{r:Rt}{K:Int×Int->dO}{i:Nat}{id:Int}
section
variable {W:dx} {h h':ad} {xp xg:Nat} {kind:Int} {x:Hs} {re:Rt} {q:RS}
theorem BD(g:Rn W h xp xg kind x re q)(i:Good q.L)(k:q.L.length<=100000)(id fr:Int){K:Bool->dO}(a:∀b h',(b=true↔id=0\/UpG q.L fr id)->Upd No h h'->K b h'):gl 77 [gZ xp,.int .u32 id,.int .u32 fr] K h:=by
 refine dg (Gm (some ⟨xp,0,none⟩) id fr) .nil Tryz.func77 Tryz.call77 ?_;dsimp only[Gm,iC,Q7,uK,cO,cJ];refine eh (λe=>a _ _ ⟨λ_=>.inl (by simpa using e),λ_=>rfl⟩ (eM _ _)) λe=>⟨_,rfl,_,vc g.blk 5,xb g.r i fr λs' n xs d hx f j=>Ht f ?_ id (a _ _ ?_ j)⟩
 .have:=Ip (l:=xs) (m:=eR q.L) (d.imp λh=>qy h) λy c=>((hx y).1 c).right
  rw[bP]at this;omega
 .have e:id≠0:=by simpa using e
  rw[decide_eq_true_iff,hx];exact⟨.inr,λh=>h.resolve_left e⟩
theorem Ov(g:Rn W h xp xg kind x re q)(j:q.B.length<=1000)(a:∀p∈q.B,p.1≠n)(d:∀h',Upd No h h'->K (0,4) h'):
  Hv 88 [gZ xp,.string n,Vl r] K h:=by
 refine yB (some ⟨xp,0,none⟩) n r ?_;dsimp only[tZ,bR,oE,kG,vy,bh,ao,dK,cJ,yz,tx,ge,GZ,ey,jX,fj,sL,uJ,wQ,qE];exact aQ λf b1 k1=>⟨_,rfl,q.sB,vc (k1.get0 g.blk) 7,lQ (g.upd0 k1).b a4 (λi hi e=>absurd e (a _ (aF hi))) λ_ c b=>ar (λ_=>d c (k1.tr b)) λh=>absurd a4 h⟩
theorem Ow(g:Rn W h xp xg kind x re q)(t:q.B.length<=1000)(hi:i<q.B.length)(m:q.B[i].1=n)(k:F1 r re=false)(o:∀h',Upd No h h'->K (0,11) h'):
  Hv 88 [gZ xp,.string n,Vl r] K h:=by
 refine yB (some ⟨xp,0,none⟩) n r ?_;dsimp only[tZ,bR,oE,kG,vy,bh,ao,dK,cJ,yz,tx,ge,GZ,ey,jX,fj,sL,uJ,wQ,qE];refine aQ λu b1 k1=>⟨_,rfl,q.sB,vc (k1.get0 g.blk) 7,lQ (g.upd0 k1).b a4 (λj v p s d=>ar (λh=>absurd h a4) λ_=>?_) λf=>absurd m (f _ (aF hi))⟩
 have b:=d.get0 b1;have a:=(k1.tr d).get0 g.blk;refine⟨_,vc b 0,_,vc b 1,_,vc b 2,_,vc b 3,r.2.2.2.2,vc b 4,_,rfl,_,iq a 0 0,_,iq a 0 1,_,iq a 0 2,_,iq a 0 3,re.2.2.2.2,iq a 0 4,CW (r:=r) (q:=re) λc e=>?_⟩
 rw[k];exact ay.2 (o c ((k1.tr d).tr e))
theorem abN{v:Int}(h:0<=v):nz [v]=if 0<v then[v]else[]:=by
 unfold nz;by_cases e:0<v
 .rw[if_pos e];simp;omega
 .rw[if_neg e];simp;omega
theorem QX(g:Rn W h xp xg kind x re q)(L:0<=q.nx)(Q:q.L.length<=100000)(hD:q.Ds.length<=100000)(X:q.B.length<=1000)(hi:i<q.B.length)(nd:NUp q.B)(N:q.B[i].1=n)(hp:0<=q.B[i].2){d:TD}(j:RefIs W h kind x r d.2)
  (U:∀h' ts sB,Upd (RW xg xp q) h h'->(∀y,sb ts y->sb q.ts y\/h.size<=y)->(∀W':Nat->Prop,(∀y,W' y->(W y\/sb (zj q i hi d (nz [q.B[i].2]) r ts sB).ts y))->(∀y,RW xg xp (zj q i hi d (nz [q.B[i].2]) r ts sB) y->W' y)->Rn W' h' xp xg kind x re (zj q i hi d (nz [q.B[i].2]) r ts sB))->K (gu q.L q.nx (nz [q.B[i].2])).1 h'):
  Hv 88 [gZ xp,.string n,Vl r] K h:=by
 refine yB (some ⟨xp,0,none⟩) n r ?_;dsimp only[tZ,bR,oE,kG,vy,bh,ao,dK,cJ,yz,tx,ge,GZ,ey,jX,fj,sL,uJ,wQ,qE];have lt:=g.lt;refine aQ λh1 b1 k1=>⟨_,rfl,q.sB,vc (k1.get0 g.blk) 7,lQ (g.upd0 k1).b a4 (λw Y ej h5 z=>ar (λh=>absurd h a4) λ_=>?_) λF=>absurd N (F _ (aF hi))⟩
 have B:w=i:=by
  have:=oh nd.nd (i:=w) (j:=i) (h₀:=by simpa using Y) (h₁:=by simpa using hi)
  exact this.1 (by simp[ej,N])
 subst B;have p:=z.get0 b1;have s:=(k1.tr z).get0 g.blk;refine⟨_,vc p 0,_,vc p 1,_,vc p 2,_,vc p 3,r.2.2.2.2,vc p 4,_,rfl,_,iq s 0 0,_,iq s 0 1,_,iq s 0 2,_,iq s 0 3,re.2.2.2.2,iq s 0 4,CW (r:=r) (q:=re) λm v=>?_⟩
 rw[B8 j g.e];have k:=(k1.tr z).tr v;have O:=k.size;have o:=g.upd0 k;refine ag.2 (eF (λ(t:fD) h'=>OwnS u32 1 31 (λy=>m.size<=y) h' t (nz [q.B[w].2])/\Upd No m h') (λR I=>?_) ?_)
 .obtain⟨a,P,_,hv⟩:=o.b.at (af hi)
  have lb:=g.b.len;refine⟨_,rfl,q.sB,vc o.blk 7,⟨a4,a4⟩,a,P,_,hv 1 _ rfl,?_⟩
  rw[abN hp]at I;refine ar (λe=>?_) λe=>I _ _ ⟨by rw[if_neg e];exact OwnS.nil kz,eM _ _⟩
  refine⟨_,rfl,q.sB,vc o.blk 7,⟨a4,a4⟩,a,P,_,hv 1 _ rfl,bL (AK (M:=λy=>m.size<=y) (OwnS.nil kz) (λb hb=>hb) a6 λT h31 E H=>I _ _ ⟨?_,H.mono λy A=>.inr A⟩)⟩
  rw[if_pos e];exact E
 .rintro t S ⟨D,u⟩
  have f:=(v.tr u).get0 p;have c:=k.tr u;have V:=c.size;refine⟨_,vc f 0,_,vc f 1,_,vc f 2,_,vc f 3,r.2.2.2.2,vc f 4,?_⟩;refine FA (g.upd0 c) L Q hD X hi (j.upd0 c) (D.sl (W:=W) λb hb _ Z=>by have:=lt b Z;omega) (aO (bQ ..) a6) λJ ts sB C ht G=>U J ts sB (c.wide.tr C) (λy A=>(ht y A).imp id λh=>a4) G
theorem Kq(g:Rn W h xp xg kind x re q)(f:q.B.length<=1000)(a:∀p∈q.B,p.1≠n){K:Int->dO}(b:∀h',Upd No h h'->K 4 h'):
  fK 34 [gZ xp,.string n,.int .u32 id] K h:=by
 refine Aa (some ⟨xp,0,none⟩) n id ?_;dsimp only[uZ,vt,iC,kG,OE,GZ,ey,bR,cJ,jX,fj,uK,cO,uJ];exact⟨_,rfl,q.sB,vc g.blk 7,lQ g.b a4 (λi hi e=>absurd e (a _ (aF hi))) λ_ c d=>eQ (ar (λ_=>ay.2 (b c d)) λh=>absurd a4 h)⟩
theorem yf(g:Rn W h xp xg kind x re q)(O:Good q.L)(L:q.L.length<=100000)(Q:q.B.length<=1000)(hi:i<q.B.length)(nd:NUp q.B)(H:q.B[i].1=n){K:Int->dO}
  (u:¬(id=0\/id∈eR q.L)->∀h',Upd No h h'->K 4 h')(p:(id=0\/id∈eR q.L)->¬(id=0\/UpG q.L q.B[i].2 id)->∀h',Upd No h h'->K 13 h')
  (P:(id=0\/id∈eR q.L)->(id=0\/UpG q.L q.B[i].2 id)->∀h' s',Upd (· =xp) h h'->Rn W h' xp xg kind x re {q with sB:=s',B:=q.B.set i (q.B[i].1,id)}->K 0 h'):
  fK 34 [gZ xp,.string n,.int .u32 id] K h:=by
 refine Aa (some ⟨xp,0,none⟩) n id ?_;dsimp only[uZ,vt,iC,kG,OE,GZ,ey,bR,cJ,jX,fj,uK,cO,uJ];refine⟨_,rfl,q.sB,vc g.blk 7,lQ g.b a4 (λj S X U I=>?_) λz=>absurd H (z _ (aF hi))⟩
 have w:j=i:=by
  have:=oh nd.nd (i:=j) (j:=i) (h₀:=by simpa using S) (h₁:=by simpa using hi)
  exact this.1 (by simp[X,H])
 subst w;have F:=g.upd0 I;refine eF (λ(t:Bool) h'=>(t=false↔id=0\/id∈eR q.L)/\Upd No U h') (λR J=>ar (λh=>absurd h a4) λ_=>eh (λk=>⟨_,rfl,_,vc F.blk 5,CC F.r a4 id λm Z N hm=>J _ _ ⟨?_,N⟩⟩) λk=>J _ _ ⟨?_,eM _ _⟩) ?_
 .have k:id≠0:=by simpa using k
  rw[decide_eq_false_iff_not];exact⟨λo=>.inr (hm.1 a4),λo T=>by have:=hm.2 (o.resolve_left k);omega⟩
 .have k:id=0:=by simpa using k
  simp[k]
 rintro t v ⟨ht,C⟩;have c:=I.tr C;have f:=g.upd0 c;refine eh (λe=>u (λo=>by rw[ht.2 o]at e;cases e) v c) λe=>?_
 obtain⟨a,V,_,hv⟩:=f.b.at (af hi);have Y:=g.b.len;refine⟨_,rfl,q.sB,vc f.blk 7,⟨a4,a4⟩,a,V,_,hv 1 _ rfl,BD f O L id _ λb A hb E=>?_⟩
 have d:=c.tr E;refine eh (λs=>p (ht.1 e) (λo=>by rw[hb.2 o]at s;cases s) A d) λs=>ML (g.upd0 d) hi id Q λD s' y G=>P (ht.1 e) (hb.1 (by simpa using s)) D s' (d.wide.tr y) G
theorem Rn.graph(g:Rn W h xp xg kind x re q)(k:Upd (· =xg) h h'){L:dA}{nx:Int}(r:RefAt W h' xg L nx):Rn W h' xp xg kind x re {q with L:=L,nx:=nx}:=by
 have hm:∀b,b=xg->W b\/h.size<=b:=λb e=>.inl (e▸g.r.wp)
 exact⟨r,g.wx,g.gx,k.get g.blk λe=>g.gx e.symm,g.e.updM k hm,g.ts.upd k λy d e=>(g.tw y d).2.1 e,g.tw,g.b.upd k hm,g.bc,g.t.upd k hm,g.tc,g.n,λi c a=>⟨(g.par i c a).1,(g.par i c a).2.updM k hm⟩⟩
end
end
end Go.Proofs
