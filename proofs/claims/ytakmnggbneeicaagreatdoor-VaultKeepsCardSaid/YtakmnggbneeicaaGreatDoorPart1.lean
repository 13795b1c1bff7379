/- A part of the proof that the named laws of this program answer true, whatever the input. -/
import Derived.Test.YtakmnggbneeicaaGreatDoorPart0
open Array renaming toList_inj->jg
open BitVec renaming ofInt->aB
open Bool renaming eq_iff_iff->iC
open ByteArray renaming mk->lz,data_extract->qe
open Go.IntKind renaming bits->ak,wrap->ac,wrap_u8->sn
open Iff renaming rfl->tu
open Int renaming toNat_natCast->bi,le_refl->eC,fdiv->dX
open List renaming getElem?_eq_getElem->af,getElem_mem->aG,pairwise_cons->aC,any_cons->qS,mem_cons->au,mem_cons_self->al,mem_cons_of_mem->ay,pairwise_singleton->cx,filter_cons->aZ,mem_filter->bL,filter_eq_nil_iff->lw,mem_singleton->av,any_eq_true->cg,length_filter_le->bP,length_cons->ar,flatMap_cons->aN,map_cons->ce,length_singleton->aP,range->fq,range_succ->jK,map_append->cF,length_append->ae,append_assoc->ao,flatMap_append->bU,take_of_length_le->aS,sum_append->oN,map_nil->fj,sum_cons->wE,mem_filterMap->lu,length_nil->bC,mem_of_mem_take->ia,take_append_drop->bK,take_succ_eq_append_getElem->ax,flatMap_nil->jf,append_nil->aX,take_length->bZ,cons_append->cG,append_inj->si,cons->gi,mem_append->aL,length_take->aY,zip_eq_zipWith->oe,length_drop->bo,set_eq_take_append_cons_drop->dt,pairwise_iff_getElem->bQ,extract_eq_take_drop->gB,length->gu,mem_map->aR,pairwise_append->cC,pairwise_map->fX,lt_irrefl->uH
open List.Lex renaming nil->yf
open List.Pairwise renaming nil->cq
open Nat renaming le_of_eq->cI,zero_add->aU,le_refl->aj,lt_irrefl->l3,mod_lt->uF,min_eq_left->cn,lt_of_lt_of_le->aA,zero_le->aK,le_trans->aQ,mul_le_mul_right->db,testBit_lt_two_pow->fU,pow_le_pow_right->j1,add_zero->fV,add_mul->nf,mul_le_mul_left->ge,not_lt_zero->oM,shiftRight_eq_div_pow->eR,mod_eq_of_lt->eN,lt_or_ge->cp
open Option renaming some->bI,mem_toList->pX,map_eq_some_iff->lj
open Prod renaming ext->pW,mk->oL
open UInt8 renaming ofNat->gq
namespace Go.Proofs
open Go.Lift
section
variable {h h':ad}{b d n i c lev m:Nat}{sp sk:f9}{a:Bool}{ow r:aT}{K:aT->eu}{q p:Pr}{k:dO}{W M W':eh}{s:Slots}{l:bY}{x:Hs}
theorem MP(hb:h[b]? =some (.cells (eB d n sp sk a ow) 298 (0,0))) {K:Int->eu} (c:K (d:Int) h):uO 139 [gV b] K h:=by
 refine Eu _ ?_;dsimp only[xx,Na,dT,cL];exact ag.2 ⟨_,rfl,_,dU (i:=0) hb,c⟩
theorem Cm(hb:h[b]? =some (.cells (eB d n sp sk a ow) 298 (0,0))) {K:Int->eu} (c:K (n:Int) h):uO 140 [gV b] K h:=by
 refine CX _ ?_;dsimp only[vM,M9,dT,cL];exact ag.2 ⟨_,rfl,_,dU (i:=1) hb,c⟩
theorem eT(hb:h[b]? =some (.cells (eB d n sp sk a ow) 298 (0,0))) {K:Bool->eu} (c:K a h):eI 134 [gV b] K h:=by
 refine zw _ ?_;dsimp only[rE,fL,cL];exact aw.2 ⟨_,rfl,_,dU (i:=4) hb,c⟩
def Wb(o:Option Pr):Pr:=o.getD (⟨#[]⟩,⟨#[]⟩)
theorem ET(hb:h[b]? =some (.cells #[.string q.1,.string q.2] 35 (0,0))) {k:eu}
  (c:∀h',h'[b]? =some (.cells #[.string p.1,.string p.2] 35 (0,0))->Upd (· =b) h h'->k h'):qR h (some ⟨b,0,none⟩) 0 [.string p.1,.string p.2]/\At (fu h ⟨b,0,none⟩ 0 [.string p.1,.string p.2]) k:=by
 have e:=ik [.string p.1,.string p.2] h 0 0 [.string q.1,.string q.2] hb a7;refine⟨.inr ⟨_,rfl,λj a=>by rw[co];exact eH hb (by simp at a⊢;omega)⟩,bF ?_⟩
 rw[e];refine c _ ?_ (Upd.set h _ rfl);rw[dE hb];rfl
theorem yX(nd:NodeAt W h b s)(hi:i<32){K:Pr×Bool->eu}(k:∀h',Upd No h h'->K (Wb (s.p i),(s.p i).isSome) h'):
  FZ 148 [gV b,.int .i64 i] K h:=by
 refine Es _ i ?_;dsimp only[xu,dH,lG,cj,nC,pB,DE,cP,jz,fE,nW,bq,yG,cL,Na,dT];obtain⟨d,n,sp,sk,ow,hb,bits,j,v,o,u⟩:=nd.ex;have k1:=fD No h [.string (⟨#[]⟩:dO),.string (⟨#[]⟩:dO)] 35;have b1:=bV h [.string (⟨#[]⟩:dO),.string (⟨#[]⟩:dO)] 35;refine bF ?_;simp only[cD h];generalize hnew h [.string (⟨#[]⟩:dO),.string (⟨#[]⟩:dO)] 35=h1 at k1 b1
 have c:=k1.get0 hb;have f:h1[h.size]? =some (.cells #[.string Px.1,.string Px.2] 35 (0,0)):=b1;refine MP c (D9 bits.d32 hi ?_);rw[bits.dp i hi];cases hp:s.p i with
 |none=>
  rw[hp]at k;refine aw.2 (ET (p:=Px) f λw b2 e=>⟨_,by rw[co,ba b2];rfl,_,by rw[co,ba b2];rfl,k _ (k1.trans e λx hx=>.inr (cI hx.symm))⟩)
 |some y=>
  rw[hp]at k;refine ag.2 ⟨_,rfl,sp,dU (i:=2) c,_,rfl,_,dU (i:=0) c,qP bits.d32 hi ⟨dU (i:=2) c,?_⟩⟩;have t:=K8 hi bits.dp hp;have g:=j.upd k1 λ_ h=>h.elim
  obtain⟨a,q,_,hv⟩:=g.at (Wo hi bits.dp hp);have m:=j.len;refine⟨a4,a,q,y.1,hv 0 _ rfl,y.2,hv 1 _ rfl,?_⟩;refine ET (p:=y) f λw b2 e=>⟨_,by rw[co,ba b2];rfl,_,by rw[co,ba b2];rfl,k _ (k1.trans e λx hx=>.inr (cI hx.symm))⟩
theorem u0(nd:NodeAt W h b s)(hi:i<32){K:aT×Bool->eu}(e:K ((s.k i).getD none,(s.k i).isSome) h):
  rR 149 [gV b,.int .i64 i] K h:=by
 refine Gg _ i ?_;dsimp only[yy,cj,pB,cL,rW,cB,jz,fE,M9,dT];obtain⟨d,n,sp,sk,ow,hb,bits,o,c,g,m⟩:=nd.ex;refine Cm hb (D9 bits.n32 hi ?_);rw[bits.nk i hi];cases hp:s.k i with
 |none=>rw[hp]at e;exact aw.2 e
 |some y=>
  rw[hp]at e;refine ag.2 ⟨_,rfl,sk,dU (i:=3) hb,_,rfl,_,dU (i:=1) hb,qP bits.n32 hi ⟨dU (i:=3) hb,?_⟩⟩;have k:=K8 hi bits.nk hp;obtain⟨a,j,_,hv⟩:=c.at (Wo hi bits.nk hp);have f:=c.len;exact⟨a4,a,j,y,hv 0 _ rfl,e⟩
theorem pI{c:Bool}(hb:h[b]? =some (.cells (eB d n sp sk c ow) 298 (0,0))) (a:Sl dZ 2 W h sp l) (f:l.length<=1000000000) {K:f9->eu}
  (e:∀s' h',OwnS dZ 2 35 (λx=>h.size<=x) h' s' l->Upd No h h'->K s' h'):dS 138 [gV b] K h:=by
 refine vr _ ?_;dsimp only[pP,yG,cj,cL];exact ag.2 ⟨_,rfl,sp,dU (i:=2) hb,w6 a a4 e⟩
theorem SK{c:Bool}{l:List aT}(hb:h[b]? =some (.cells (eB d n sp sk c ow) 298 (0,0))) (a:Sl rh 1 W h sk l) (f:l.length<=1000000000) {K:f9->eu}
  (e:∀s' h',OwnS rh 1 47 (λx=>h.size<=x) h' s' l->Upd No h h'->K s' h'):dS 141 [gV b] K h:=by
 refine xf _ ?_;dsimp only[qy,cj,cL];exact ag.2 ⟨_,rfl,sk,dU (i:=3) hb,Ee a a4 e⟩
structure BuckAt(W:eh)(h:ad)(b:Nat)(l:bY):Prop where
 ex:∃sp sk ow,h[b]? =some (.cells (eB 0 0 sp sk true ow) 298 (0,0))/\Sl dZ 2 W h sp l/\Sl rh 1 W h sk []/\sp.len<=sp.cap/\sk.len<=sk.cap
 nw:¬W b
theorem BuckAt.upd(n:BuckAt W h b l)(k:Upd M h h')(hm:∀b,M b->W b\/h.size<=b):BuckAt W h' b l:=by
 obtain⟨sp,sk,ow,a,e,c,d,f⟩:=n.ex;exact⟨⟨sp,sk,ow,k.get a (λhb=>(hm _ hb).elim n.nw λh=>by have:=bw a;omega),e.upd k hm,c.upd k hm,d,f⟩,n.nw⟩
theorem V7(w:BuckAt W h b l)(n:bO l)(p:l.length<=1000000000)(k:dO){K:dO×Bool->eu}
  (i:∀h' v,Upd No h h'->(cE l k=true->(k,v)∈l)->(cE l k=false->v=⟨#[]⟩)->K (v,cE l k) h'):sX 161 [gV b,.string k] K h:=by
 refine Rs _ k ?_;dsimp only[Je,cP,kr,jz,fE];obtain⟨sp,sk,ow,hb,m,x,s,t⟩:=w.ex;refine pI hb m p λy u j g=>?_
 have d:Sl dZ 2 No u y l:=j.sl λ_ _ _ h=>h
 refine MJ d n p k λz c=>?_
 cases ht:cE l k with
 |false=>rw[ht]at i;exact aw.2 (i _ _ (g.tr c) (λh=>by cases h) λ_=>rfl)
 |true=>
  rw[ht]at i;obtain⟨f,e⟩:=Mo n ht;obtain⟨a,q,_,hv⟩:=(d.upd c λ_ h=>h.elim).at (af f)
  have o:=d.len;refine ag.2 ⟨by(try simp only);omega,a,q,_,hv 1 _ rfl,i _ _ (g.tr c) (λ_=>?_) λh=>by cases h⟩
  have:(k,l[pos l k].2)=l[pos l k]:=pW e.symm rfl;rw[this];exact aG f
theorem Zc(e:BuckAt W h b l)(c:bO l)(f:l.length<=1000000000)(k:dO){K:dO×Bool->eu}
 (a:∀h' v,Upd No h h'->(cE l k=true->(k,v)∈l)->K (v,cE l k) h'):sX 161 [gV b,.string k] K h:=V7 e c f k λh' v d g _=>a h' v d g
set_option maxRecDepth 4000 in
theorem Sw(nd:BuckAt W h b l)(Z:l.length<=1000000000)
  (G:∀h' sp sk,h'[h.size]? =some (.cells (eB 0 0 sp sk true none) 298 (0,0))->OwnS dZ 2 35 (λx=>h.size<x/\x<h'.size) h' sp l->OwnS rh 1 47 (λx=>h.size<x/\x<h'.size) h' sk []->Upd No h h'->K (some ⟨h.size,0,none⟩) h'):
  fx 216 [gV b,.pointer none] K h:=by
 obtain⟨sp,sk,ow,hb,t,A,L,P⟩:=nd.ex;refine yp _ none ?_;dsimp only[r7,dT,dC,fL,nv,yD,dh,cj,UV,Zl,cL,iL,yG];refine KA (ag.2 ?_);have c:∀{h:ad} {b:Nat} {c:Array Value} {i:Nat},h[b]? =some (.cells c 298 (0,0))->aI h ⟨b,0+i,none⟩=c[i]?:=λhb=>by rw[aU];exact ba hb
 refine⟨_,rfl,_,c (i:=0) hb,_,c (i:=1) hb,sp,c (i:=2) hb,sk,c (i:=3) hb,_,c (i:=4) hb,_,c (i:=5) hb,?_⟩;have k1:=fD No h [.int .u32 0,.int .u32 0,.slice none 0 0,.slice none 0 0,.bool false,.pointer none] 298;have b1:=bV h [.int .u32 0,.int .u32 0,.slice none 0 0,.slice none 0 0,.bool false,.pointer none] 298;refine bF ?_;simp only[cD h];generalize hnew h [.int .u32 0,.int .u32 0,.slice none 0 0,.slice none 0 0,.bool false,.pointer none] 298=h1 at k1 b1
 have E:fu h1 ⟨h.size,0,none⟩ 0 [.int .u32 ((0:Nat):Int),.int .u32 ((0:Nat):Int),.slice sp.a sp.len sp.cap,.slice sk.a sk.len sk.cap,.bool true,.pointer ow]=_:=ik _ h1 0 0 _ b1 a7;refine⟨.inr ⟨_,rfl,λj S=>by rw[co];exact eH b1 (by simp at S⊢;omega)⟩,bF ?_⟩
 rw[E];have b2:=dE (o:=.cells (eB 0 0 sp sk true ow) 298 (0,0)) b1;have n:Upd No h _:=k1.trans (M':=(· =h.size)) (Upd.set h1 (.cells (eB 0 0 sp sk true ow) 298 (0,0)) rfl) λx hx=>.inr (cI hx.symm)
 have z:h.size<(h1.setIfInBounds h.size (.cells (eB 0 0 sp sk true ow) 298 (0,0))).size:=bw b2;have N:h.size≠b:=λe=>by have:=bw hb;omega
 have R:(Obj.cells (List.take (0+0) [Value.int .u32 0,.int .u32 0,.slice none 0 0,.slice none 0 0,.bool false,.pointer none]++ [Value.int .u32 ((0:Nat):Int),.int .u32 ((0:Nat):Int),.slice sp.a sp.len sp.cap,.slice sk.a sk.len sk.cap,.bool true,.pointer ow]++List.drop (0+0+ [Value.int .u32 ((0:Nat):Int),.int .u32 ((0:Nat):Int),.slice sp.a sp.len sp.cap,.slice sk.a sk.len sk.cap,.bool true,.pointer ow].length) [Value.int .u32 0,.int .u32 0,.slice none 0 0,.slice none 0 0,.bool false,.pointer none]).toArray 298 (0,0))=.cells (eB 0 0 sp sk true ow) 298 (0,0):=rfl
 rw[R];generalize h1.setIfInBounds h.size (.cells (eB 0 0 sp sk true ow) 298 (0,0))=h2 at b2 n z;have g:=n.get0 hb;refine⟨_,rfl,sp,c (i:=2) g,_,rfl,sk,c (i:=3) g,?_⟩;refine w6 (t.upd n λ_ h=>h.elim) a4 λq X u d=>?_
 refine⟨c (i:=3) (d.get0 g),?_⟩;refine Ee ((A.upd n λ_ h=>h.elim).upd d λ_ h=>h.elim) a7 λy h4 s f=>?_
 have H:=f.get0 (d.get0 b2);have p:=u.within.upd f λ_ _ h=>h
 have m:=s.within;have V:=d.size;have U:=f.size;have w:∀{h:ad} {c:Array Value} {x i:Nat},h[x]? =some (.cells c 298 (0,0))->i<c.size->Wr h ⟨x,0+i,none⟩:=λhb hi=>by rw[aU];exact eH hb hi
 have st:∀{h:ad} {c c':Array Value} {x i:Nat} {v:Value} {k:eu},h[x]? =some (.cells c 298 (0,0))->c.setIfInBounds i v=c'->(∀h',h'[x]? =some (.cells c' 298 (0,0))->Upd (· =x) h h'->k h')->At (hset h ⟨x,i,none⟩ v) k:=λhb e G=>xS hb λh' F Q=>G h' (e▸F) Q
 refine⟨w (i:=2) H (show 2<6 by decide),st (i:=2) (c':=eB 0 0 q sk true ow) H rfl λT I C=>?_⟩
 refine⟨w (i:=3) I (show 3<6 by decide),st (i:=3) (c':=eB 0 0 q y true ow) I rfl λh6 J D=>?_⟩
 refine⟨w (i:=5) J (show 5<6 by decide),st (i:=5) (c':=eB 0 0 q y true none) J rfl λY O B=>?_⟩
 refine y5 (ag.2 ?_);have a:=C.tr (D.tr B);have z7:=a.size;refine G _ q y O ((p.upd a λx hx e=>?_).more λx hx=>?_) ((m.upd a λx hx e=>?_).more λx hx=>?_) ?_
 .have e:x=h.size:=e;omega
 .omega
 .have e:x=h.size:=e;omega
 .omega
 .exact((n.tr d).tr f).trans a λx hx=>.inr (cI hx.symm)
theorem M1(B:BuckAt W h b l)(n:∀x,W x->x<h.size)(y:bO l)(t:l.length<=1000000000)(p:Pr)
  (F:∀h' b',BuckAt W h' b' (MA l p)->Upd No h h'->K (some ⟨b',0,none⟩) h'):
  fx 162 [gV b,.pointer none,.agg #[.string p.1,.string p.2]] K h:=by
 refine Gf _ none p ?_;dsimp only[yx,qf,yD,cL,nW,bq,iL,dh,yG,cj,rx,yI];have k1:=fD No h [.string p.1,.string p.2] 35;have b1:=bV h [.string p.1,.string p.2] 35;refine bF ?_;simp only[cD h];generalize hnew h [.string p.1,.string p.2] 35=h1 at k1 b1;have L:=bw b1;have f:=B.upd k1 λ_ h=>h.elim
 obtain⟨sp,sk,ow,hb,z,C,w,A⟩:=f.ex;refine eT hb (ag.2 ?_);refine Sw f t λI G s b2 v u c=>?_
 have k:=c.get0 b1;refine⟨_,rfl,G,dU (i:=2) b2,p.1,by rw[co,ba k];rfl,p.2,by rw[co,ba k];rfl,?_⟩
 refine Qr (v.sl λ_ _ _ h=>h) v.cap y t p λq J g d=>?_
 have b3:=d.get0 b2;refine⟨_,rfl,Xt (i:=2) b3 (show 2<6 by decide),Jw (i:=2) (c':=eB 0 0 q s true none) b3 rfl λE D a=>?_⟩
 have H:=bw b2;have m:=g.upd a λx hx e=>by have e:x=h1.size:=e;omega
 have o:=(u.upd d λ_ _ h=>h).upd a λx hx e=>by have e:x=h1.size:=e;omega
 refine F E h1.size ⟨⟨q,s,none,D,m.sl λx hx _ j=>?_,o.sl λx hx _ j=>?_,g.cap,u.cap⟩,λj=>?_⟩ (((k1.tr c).tr d).trans a λx hx=>.inr ?_)
 .have:=n x j;have:=c.size;omega
 .have:=n x j;omega
 .have:=n _ j;omega
 .have hx:x=h1.size:=hx
  omega
theorem Ut(a:∀x,W x->x<h.size)(b:∀h' b',BuckAt W h' b' []->Upd No h h'->K (some ⟨b',0,none⟩) h'):fx 224 [] K h:=by
 refine cZ AR .nil Tryz.func224 Tryz.call224 ?_;unfold AR;exact b _ _ ⟨⟨⟨none,0,0⟩,⟨none,0,0⟩,none,bV h _ _,Sl.nil fP,Sl.nil rN,aj _,aj _⟩,λhx=>l3 _ (a _ hx)⟩ (fD No h _ _)
theorem sR(b:∀x,W x->x<h.size)(d:∀h' b',NodeAt W h' b' ⟨λ_=>none,λ_=>none⟩->Upd No h h'->K (some ⟨b',0,none⟩) h'):fx 142 [] K h:=by
 refine cZ Dj .nil Tryz.func142 Tryz.call142 ?_;unfold Dj UV;have e:fm (λ_=>(none:Option Pr)) 32= []:=by simp[fm]
 have a:fm (λ_=>(none:Option aT)) 32= []:=by simp[fm]
 refine d _ _ ⟨⟨0,0,⟨none,0,0⟩,⟨none,0,0⟩,none,bV h _ _,⟨a8,a8,λc _=>a7,λc _=>a7⟩,?_,?_,aj _,aj _⟩,λhx=>l3 _ (b _ hx)⟩ (fD No h _ _)
 .show Sl dZ 2 W _ _ (fm (λ_=>none) 32)
  rw[e];exact Sl.nil fP
 .show Sl rh 1 W _ _ (fm (λ_=>none) 32)
  rw[a];exact Sl.nil rN
def gw(p:Pr):bY->bY
 | []=> [p]
 |q::l=>if kl q.1 p.1 then q::gw p l else if q.1=p.1 then p::l else p::q::l
theorem gc(p q:Pr)(l:bY):gw p (q::l)=if kl q.1 p.1 then q::gw p l else if q.1=p.1 then p::l else p::q::l:=rfl
theorem Gw(p:Pr):∀{l:bY},bO l->MA l p=gw p l
 | [],_=>by simp[MA,gw,pos,cE]
 |q::l,c=>by
  have c:=aC.1 c;unfold gw;have a:pos (q::l) p.1=if kl q.1 p.1 then pos l p.1+1 else 0:=by
   unfold pos;rw[List.takeWhile_cons];by_cases h:kl q.1 p.1
   .rw[if_pos (by simpa using h),if_pos h];rfl
   .rw[if_neg (by simpa using h),if_neg h];rfl
  have b:cE (q::l) p.1=(decide (q.1=p.1)||cE l p.1):=by unfold cE;rw[qS]
  by_cases h:kl q.1 p.1
  .have d:q.1≠p.1:=λe=>by rw[e]at h;exact bT _ h
   rw[if_pos h,<-Gw p c.2];unfold MA;rw[b,a,if_pos h,decide_eq_false d,Bool.false_or];by_cases ht:cE l p.1=true
   .rw[if_pos ht,if_pos ht];rfl
   .rw[if_neg ht,if_neg ht];rfl
  .rw[if_neg h]
   unfold MA;rw[b,a,if_neg h];by_cases e:q.1=p.1
   .rw[if_pos e,decide_eq_true e,Bool.true_or,if_pos rfl];rfl
   .have i:=l8 h e
    have ht:cE l p.1=false:=by
     unfold cE;rw[List.any_eq_false];intro r f g;have g:=of_decide_eq_true g;have:=c.1 r f;rw[g]at this;exact bT _ (dI i this)
    rw[if_neg e,decide_eq_false e,ht];rfl
theorem tO{p q:Pr}:∀{l:bY},q∈gw p l->q=p\/q∈l
 | [],h=>by simp[gw]at h;exact .inl h
 |r::l,h=>by
  unfold gw at h;split at h
  .rcases au.1 h with h|h
   .exact .inr (h▸al ..)
   .exact(tO h).imp id λh=>ay _ h
  .split at h
   .rcases au.1 h with h|h
    .exact .inl h
    .exact .inr (ay _ h)
   .rcases au.1 h with h|h
    .exact .inl h
    .exact .inr h
theorem pj(p:Pr):∀{l:bY},bO l->bO (gw p l)
 | [],_=>cx ..
 |q::l,a=>by
  have c:=a;have a:=aC.1 a;unfold gw;split
  .rename_i h
   refine aC.2 ⟨λr hm=>?_,pj p a.2⟩
   rcases tO hm with rfl|hm
   .exact h
   .exact a.1 r hm
  .rename_i h
   split
   .rename_i e
    exact aC.2 ⟨λr hm=>e▸a.1 r hm,a.2⟩
   .rename_i e
    have b:=l8 h e;refine aC.2 ⟨λr hm=>?_,c⟩
    rcases au.1 hm with rfl|hm
    .exact b
    .exact dI b (a.1 r hm)
theorem HX(p:Pr)(g:dO->Bool):∀{l:bY},bO l->(gw p l).filter (λq=>g q.1)=if g p.1 then gw p (l.filter λq=>g q.1)else l.filter λq=>g q.1
 | [],_=>by
  unfold gw;rw[aZ,List.filter_nil]
 |q::l,c=>by
  have k:=c;have c:=aC.1 c;have j:=HX p g c.2;rw[gc];by_cases h:kl q.1 p.1
  .rw[if_pos h,aZ,aZ,j]
   by_cases f:g q.1=true
   .rw[if_pos f,if_pos f]
    split
    .rw[gc,if_pos h]
    .rfl
   .rw[if_neg f,if_neg f]
  .rw[if_neg h]
   by_cases e:q.1=p.1
   .rw[if_pos e,aZ,aZ,e]
    by_cases a:g p.1=true
    .rw[if_pos a,if_pos a,if_pos a,gc,if_neg h,if_pos e]
    .rw[if_neg a,if_neg a,if_neg a]
   .rw[if_neg e]
    have d:=l8 h e;rw[aZ];by_cases a:g p.1=true
    .rw[if_pos a,if_pos a]
     have:∀r∈(q::l).filter (λq=>g q.1),kl p.1 r.1:=λr hm=>by
      rcases au.1 (bL.1 hm).1 with rfl|hm
      .exact d
      .exact dI d (c.1 r hm)
     cases hf:(q::l).filter (λq=>g q.1)with
     |nil=>rfl
     |cons r rs=>
      have b:=this r (by rw[hf];exact al ..);rw[gc,if_neg λi=>bT _ (dI b i),if_neg λe=>by rw[e]at b;exact bT _ b]
    .rw[if_neg a,if_neg a]
theorem Gv{p:Pr}:∀{l:bY},bO l->p∈l->gw p l=l
 |q::l,a,hm=>by
  have a:=aC.1 a;unfold gw;rcases au.1 hm with rfl|hm
  .rw[if_neg (bT _),if_pos rfl]
  .rw[if_pos (a.1 p hm),Gv a.2 hm]
def ck(x:Hs)(lev:Nat)(k:dO):Nat:=((jj x k).toNat>>>(5*lev))%32
theorem zk(x:Hs)(lev:Nat)(k:dO):ck x lev k<32:=uF _ a4
def part(x:Hs)(lev c:Nat)(l:bY):bY:=l.filter λp=>decide (ck x lev p.1=c)
def TrieAt(W:eh)(x:Hs)(h:ad):Nat->Nat->bY->Prop
 |0,b,l=>BuckAt W h b l
 |m+1,b,l=>∃s,NodeAt W h b s/\∀c,c<32->
  ((part x (12-m) c l= []/\s.p c=none/\s.k c=none)\/(∃p,part x (12-m) c l= [p]/\s.p c=some p/\s.k c=none)\/
   (2<=(part x (12-m) c l).length/\s.p c=none/\∃kb,s.k c=some (some ⟨kb,0,none⟩)/\TrieAt W x h m kb (part x (12-m) c l)))
theorem TrieAt.upd0(k:Upd No h h'):∀{m b:Nat} {l:bY},TrieAt W x h m b l->TrieAt W x h' m b l
 |0,_,_,t=>BuckAt.upd t k λ_ h=>h.elim
 |_+1,_,_,⟨s,nd,hc⟩=>⟨s,nd.upd k λ_ h=>h.elim,λc a=>(hc c a).imp id λo=>o.imp id λ⟨f,i,g,e,d⟩=>⟨f,i,g,e,TrieAt.upd0 k d⟩⟩
theorem NodeAt.less(n:NodeAt W h b s)(hm:∀b,W' b->W b\/h.size<=b):NodeAt W' h b s:=by
 obtain⟨d,m,sp,sk,ow,a,i,f,c,e,g⟩:=n.ex;exact⟨⟨d,m,sp,sk,ow,a,i,f.less hm,c.less hm,e,g⟩,λhx=>(hm _ hx).elim n.nw λh=>by have:=bw a;omega⟩
theorem BuckAt.less(n:BuckAt W h b l)(hm:∀b,W' b->W b\/h.size<=b):BuckAt W' h b l:=by
 obtain⟨sp,sk,ow,a,e,c,d,f⟩:=n.ex;exact⟨⟨sp,sk,ow,a,e.less hm,c.less hm,d,f⟩,λhx=>(hm _ hx).elim n.nw λh=>by have:=bw a;omega⟩
theorem TrieAt.less(hm:∀b,W' b->W b\/h.size<=b):∀{m b:Nat} {l:bY},TrieAt W x h m b l->TrieAt W' x h m b l
 |0,_,_,t=>BuckAt.less t hm
 |_+1,_,_,⟨s,nd,hc⟩=>⟨s,nd.less hm,λc a=>(hc c a).imp id λo=>o.imp id λ⟨f,i,g,e,d⟩=>⟨f,i,g,e,TrieAt.less hm d⟩⟩
theorem TrieAt.updM(k:Upd M h h')(hm:∀b,M b->W b\/h.size<=b):∀{m b:Nat} {l:bY},TrieAt W x h m b l->TrieAt W x h' m b l
 |0,_,_,t=>BuckAt.upd t k hm
 |_+1,_,_,⟨s,nd,hc⟩=>⟨s,nd.upd k hm,λc a=>(hc c a).imp id λo=>o.imp id λ⟨f,i,g,e,d⟩=>⟨f,i,g,e,TrieAt.updM k hm d⟩⟩
theorem Z4(a b:Nat):(aB (ak .u64) (a:Int)&&&aB (ak .u64) (b:Int)).toNat=(a%18446744073709551616)&&&(b%18446744073709551616):=by
 simp[ak];rfl
theorem abk{hv:Int}(d:0<=hv/\hv<18446744073709551616)(f:lev<13){K:Int->eu}(b:K (((hv.toNat>>>(5*lev))%32:Nat):Int) h):fK 163 [.int .u64 hv,.int .i64 lev] K h:=by
 refine cZ (Jd hv lev) RH Tryz.func163 Tryz.call163 ?_;unfold Jd;refine fo (aq (λh=>a4) λ_=>?_)
 rw[decide_eq_false a4];refine ag.2 ?_;have c:ac .i64 (5*(lev:Int))=((5*lev:Nat):Int):=by rw[dw a4];omega
 rw[c];have em:min (((5*lev:Nat):Int)).toNat (ak .u64)=5*lev:=by rw[bi];exact cn (by show 5*lev<=64;omega)
 rw[em];obtain⟨n,rfl⟩:=Int.eq_ofNat_of_zero_le d.1;rw[bi]at b;simp only[Bd];rw[mV];have a:n>>>(5*lev)<18446744073709551616:=Nat.lt_of_le_of_lt (Nat.shiftRight_le _ _) a4;have e:=Z4 (n>>>(5*lev)) 31;rw[Nat.mod_eq_of_lt a,show((31:Nat):Int)=(31:Int)from rfl,show 31%18446744073709551616=2^5-1 from rfl,Nat.and_two_pow_sub_one_eq_mod]at e
 rw[e];have hm:n>>>(5*lev)%2^5<32:=uF _ a4;rw[Go.IntWalk.u64_in _ a4,dw a4];exact⟨a4,b⟩
theorem Uq(a:lev<13){K:Int->eu}(b:K (ck x lev k:Int) h):fK 163 [.int .u64 (jj x k),.int .i64 lev] K h:=abk (OK x k) a b
abbrev U0(x:Hs)(k:dO):Value:=.agg #[.int .u64 x.k0,.int .u64 x.k1,.int .u64 x.mask,.pointer none,.string k,.int .u64 (jj x k)]
theorem Of(h:∀p∈l,ck x lev p.1=c):part x lev c l=l:=List.filter_eq_self.2 λp a=>decide_eq_true (h p a)
theorem Sv(h:∀p∈l,ck x lev p.1≠c):part x lev c l= []:=lw.2 λp a=>by simpa using h p a
theorem Oc(a:bO l):part x lev c (gw p l)=if ck x lev p.1=c then gw p (part x lev c l)else part x lev c l:=by
 have:=HX p (λk=>decide (ck x lev k=c)) a
 unfold part;rw[this];by_cases h:ck x lev p.1=c
 .rw[if_pos h,if_pos (decide_eq_true h)]
 .rw[if_neg h,if_neg (by simpa using h)]
theorem RU(h:p.1≠q.1):(gw q [p]).length=2:=by
 rw[gc];by_cases a:kl p.1 q.1
 .rw[if_pos a];rfl
 .rw[if_neg a,if_neg h];rfl
theorem SC{r:Pr}(h:r∈gw q [p]):r=p\/r=q:=(tO h).symm.imp (λh=>av.1 h) id
theorem gM{β:Type}{g:Nat->Option β}{x:Option β}(h:c≠i):upd g i x c=g c:=by unfold upd;rw[if_neg h]
theorem YK:∀(m:Nat) (p q:Pr),m<=13->p.1≠q.1->∀{h:ad},(∀y,W y->y<h.size)->∀{K:aT->eu},(∀h' b',TrieAt W x h' m b' (gw q [p])->Upd No h h'->K (some ⟨b',0,none⟩) h')->
  fx 166 [U0 x q.1,.agg #[.string p.1,.string p.2],.agg #[.string q.1,.string q.2],.int .i64 ((13-m:Nat):Int)] K h:=by
 intro m;induction m with
 |zero=>
  intro p q _ H h R K P;have C:∀{h'},Upd No h h'->∀y,W y->y<h'.size:=λk y X=>aA (R y X) k.size
  refine vu (x.k0,x.k1,x.mask,none,q.1,jj x q.1) p q ((13-0:Nat):Int) ?_;dsimp only[pR,ai,aF,bq,yi,qf,fH,AW,Mp,vZ,GT,nW,F8,li,gj,rx,yI,CO];have k1:=fD No h [.int .u64 x.k0,.int .u64 x.k1,.int .u64 x.mask,.pointer none,.string q.1,.int .u64 (jj x q.1)] 187;have b1:=bV h [.int .u64 x.k0,.int .u64 x.k1,.int .u64 x.mask,.pointer none,.string q.1,.int .u64 (jj x q.1)] 187
  refine bF ?_;simp only[cD h];generalize hnew h [.int .u64 x.k0,.int .u64 x.k1,.int .u64 x.mask,.pointer none,.string q.1,.int .u64 (jj x q.1)] 187=h1 at k1 b1;have B:=fD No h1 [.string p.1,.string p.2] 35;have b2:=bV h1 [.string p.1,.string p.2] 35;refine bF ?_;simp only[cD h1];generalize hnew h1 [.string p.1,.string p.2] 35=h2 at B b2;have z:=fD No h2 [.string q.1,.string q.2] 35
  have b3:=bV h2 [.string q.1,.string q.2] 35;refine bF ?_;simp only[cD h2];generalize hnew h2 [.string q.1,.string q.2] 35=h3 at z b3;have d:∀{h':ad},Upd No h3 h'->∀i,aI h' (adr ⟨h.size,0,none⟩ i)=(#[.int .u64 x.k0,.int .u64 x.k1,.int .u64 x.mask,.pointer none,.string q.1,.int .u64 (jj x q.1)]:Array Value)[i]?:=λk i=>by
   rw[co,ba (k.get0 (z.get0 (B.get0 b1))),aU]
  have u:∀{h':ad},Upd No h3 h'->∀i,aI h' (adr ⟨h1.size,0,none⟩ i)=(#[.string p.1,.string p.2]:Array Value)[i]?:=λk i=>by rw[co,ba (k.get0 (z.get0 b2)),aU]
  have o:∀{h':ad},Upd No h3 h'->∀i,aI h' (adr ⟨h2.size,0,none⟩ i)=(#[.string q.1,.string q.2]:Array Value)[i]?:=λk i=>by rw[co,ba (k.get0 b3),aU]
  have r:=eQ No h3;refine aw.2 ⟨none,d r 3,p.1,u r 0,p.2,u r 1,none,d r 3,q.1,o r 0,q.2,o r 1,?_⟩;refine Ut (C ((k1.tr B).tr z)) λh4 b4 Q b=>⟨⟨o b 0,o b 1⟩,d b 3,⟨u b 0,u b 1⟩,d b 3,?_⟩
  refine M1 Q (C (((k1.tr B).tr z).tr b)) cq a7 p λZ b5 L A=>?_
  have n:=b.tr A;refine⟨⟨o n 0,o n 1⟩,d n 3,?_⟩;have O:MA [] p= [p]:=Gw p cq;rw[O]at L;refine M1 L (C (((k1.tr B).tr z).tr n)) (cx ..) a7 q λV N J v=>?_
  rw[Gw q (cx ..)]at J;exact P V N J ((((k1.tr B).tr z).tr n).tr v)
 |succ m ih=>
  intro p q hm H h R K P;have C:∀{h'},Upd No h h'->∀y,W y->y<h'.size:=λk y X=>aA (R y X) k.size
  have Y:13-(m+1)<13:=a4
  have g:13-(m+1)=12-m:=a4
  refine vu (x.k0,x.k1,x.mask,none,q.1,jj x q.1) p q ((13-(m+1):Nat):Int) ?_;dsimp only[pR,ai,aF,bq,yi,qf,fH,AW,Mp,vZ,GT,nW,F8,li,gj,rx,yI,CO];have k1:=fD No h [.int .u64 x.k0,.int .u64 x.k1,.int .u64 x.mask,.pointer none,.string q.1,.int .u64 (jj x q.1)] 187;have b1:=bV h [.int .u64 x.k0,.int .u64 x.k1,.int .u64 x.mask,.pointer none,.string q.1,.int .u64 (jj x q.1)] 187
  refine bF ?_;simp only[cD h];generalize hnew h [.int .u64 x.k0,.int .u64 x.k1,.int .u64 x.mask,.pointer none,.string q.1,.int .u64 (jj x q.1)] 187=h1 at k1 b1;have B:=fD No h1 [.string p.1,.string p.2] 35;have b2:=bV h1 [.string p.1,.string p.2] 35;refine bF ?_;simp only[cD h1];generalize hnew h1 [.string p.1,.string p.2] 35=h2 at B b2;have z:=fD No h2 [.string q.1,.string q.2] 35
  have b3:=bV h2 [.string q.1,.string q.2] 35;refine bF ?_;simp only[cD h2];generalize hnew h2 [.string q.1,.string q.2] 35=h3 at z b3;have d:∀{h':ad},Upd No h3 h'->∀i,aI h' (adr ⟨h.size,0,none⟩ i)=(#[.int .u64 x.k0,.int .u64 x.k1,.int .u64 x.mask,.pointer none,.string q.1,.int .u64 (jj x q.1)]:Array Value)[i]?:=λk i=>by
   rw[co,ba (k.get0 (z.get0 (B.get0 b1))),aU]
  have u:∀{h':ad},Upd No h3 h'->∀i,aI h' (adr ⟨h1.size,0,none⟩ i)=(#[.string p.1,.string p.2]:Array Value)[i]?:=λk i=>by rw[co,ba (k.get0 (z.get0 b2)),aU]
  have o:∀{h':ad},Upd No h3 h'->∀i,aI h' (adr ⟨h2.size,0,none⟩ i)=(#[.string q.1,.string q.2]:Array Value)[i]?:=λk i=>by rw[co,ba (k.get0 b3),aU]
  have r:=eQ No h3;have ne:(((13-(m+1):Nat):Int)==(13:Int))=false:=by rw[beq_eq_false_iff_ne];omega
  rw[ne];refine ag.2 ⟨_,d r 0,_,d r 1,_,d r 2,_,u r 0,_,d r 5,?_⟩;refine vg λh4 b=>⟨d b 5,Uq Y ⟨d b 5,Uq Y ?_⟩⟩
  have hi:=zk x (13-(m+1)) p.1;have hj:=zk x (13-(m+1)) q.1;have j:=((k1.tr B).tr z);have hcl:=RU H;refine ez (λe=>?_) λe=>?_
  .have e:ck x (13-(m+1)) p.1=ck x (13-(m+1)) q.1:=by have:=eq_of_beq e;omega
   refine⟨_,d b 3,_,d b 0,_,d b 1,_,d b 2,_,d b 3,_,d b 4,_,d b 5,_,u b 0,_,u b 1,_,o b 0,_,o b 1,?_⟩;refine sR (C (j.tr b)) λZ b5 G A=>?_
   have a:=b.tr A;refine⟨⟨o a 0,o a 1⟩,⟨u a 0,u a 1⟩,⟨d a 0,d a 1,d a 2,d a 3,d a 4,d a 5⟩,d a 3,?_⟩;have ew:ac .i64 (((13-(m+1):Nat):Int)+1)=((13-m:Nat):Int):=by rw[dw a4];omega
   rw[ew];refine ih p q a4 H (C (j.tr a)) λV N t6 v=>?_
   have f:=a.tr v;refine⟨d f 3,?_⟩;refine zL (G.upd v λ_ h=>h.elim) (C (j.tr f)) hi (λy h=>by cases h) ⟨N,0,none⟩ λU S F E=>?_
   refine P U S ⟨_,F,λc hc=>?_⟩ ((j.tr f).tr E)
   rw[g]at e;by_cases s:c=ck x (13-(m+1)) p.1
   .refine .inr (.inr ?_)
    have ea:part x (12-m) c (gw q [p])=gw q [p]:=Of λr I=>by
     rcases SC I with rfl|rfl
     .rw[s,g]
     .rw[s,g,e]
    rw[ea];exact⟨a4,by simp[upd],N,by rw[s];exact gY,TrieAt.upd0 E t6⟩
   .refine .inl ⟨Sv λr I=>?_,by simp[upd],gM s⟩
    rw[g]at s;rcases SC I with rfl|rfl
    .exact λe=>s e.symm
    .rw[<-e];exactλe=>s e.symm
  .have e:ck x (13-(m+1)) p.1≠ck x (13-(m+1)) q.1:=λh=>by rw[h]at e;simp at e
   refine⟨_,d b 3,_,u b 0,_,u b 1,_,d b 3,_,o b 0,_,o b 1,?_⟩;refine sR (C (j.tr b)) λZ b5 G A=>?_
   have a:=b.tr A;refine⟨⟨o a 0,o a 1⟩,d a 3,⟨u a 0,u a 1⟩,d a 3,?_⟩;refine tH G (C (j.tr a)) hi (λy h=>by cases h) p λV N T v=>?_
   have f:=a.tr v;refine⟨⟨o f 0,o f 1⟩,d f 3,?_⟩;refine tH T (C (j.tr f)) hj (λy h=>by simp[upd]) q λU S F E=>?_
   refine P U S ⟨_,F,λc hc=>?_⟩ ((j.tr f).tr E)
   have t:=Oc (x:=x) (lev:=12-m) (c:=c) (p:=q) (l:= [p]) (cx ..);rw[g]at e;by_cases D:c=ck x (12-m) p.1
   .have w:ck x (12-m) q.1≠c:=λh=>e a4
    have O:part x (12-m) c [p]= [p]:=Of λr I=>by rw[av.1 I,D]
    rw[if_neg w,O]at t;exact .inr (.inl ⟨p,t,by simp[upd,g,D,e],by simp[upd]⟩)
   .have O:part x (12-m) c [p]= []:=Sv λr I=>by rw[av.1 I];exactλh=>D h.symm
    rw[O]at t;by_cases w:c=ck x (12-m) q.1
    .rw[if_pos w.symm]at t
     exact .inr (.inl ⟨q,t,by simp[upd,g,w],by simp[upd]⟩)
    .rw[if_neg λh=>w h.symm]at t
     exact .inl ⟨t,by simp[upd,g,w,D],by simp[upd]⟩
noncomputable instance memDec (p:Pr) (l:bY):Decidable (p∈l):=Classical.propDecidable _
theorem Hj(a:bO l){v w:dO}(b:(k,v)∈l)(c:(k,w)∈l):v=w:=by
 induction l with
 |nil=>cases b
 |cons q l ih=>
  have a:=aC.1 a;rcases au.1 b with e|b<;>rcases au.1 c with d|c
  .exact(Prod.mk.inj (e.trans d.symm)).2
  .have:=a.1 _ c;rw[<-e]at this;exact absurd this (bT _)
  .have:=a.1 _ b;rw[<-d]at this;exact absurd this (bT _)
  .exact ih a.2 b c
theorem lL:p∈part x lev c l↔p∈l/\ck x lev p.1=c:=by unfold part;rw[bL,decide_eq_true_iff]
theorem GX:cE (part x lev (ck x lev k) l) k=cE l k:=by
 unfold cE;rw[iC,cg,cg];constructor
 .rintro⟨p,a,e⟩;exact⟨p,(lL.1 a).1,e⟩
 .rintro⟨p,a,e⟩;exact⟨p,lL.2 ⟨a,by rw[of_decide_eq_true e]⟩,e⟩
theorem is(a:bO l):bO (part x lev c l):=a.sublist List.filter_sublist
theorem lJ:(part x lev c l).length<=l.length:=bP ..
def SlotIs(W:eh)(x:Hs)(h:ad)(m:Nat)(s:Slots)(c:Nat)(l:bY):Prop:=
 (l= []/\s.p c=none/\s.k c=none)\/(∃p,l= [p]/\s.p c=some p/\s.k c=none)\/(2<=l.length/\s.p c=none/\∃kb,s.k c=some (some ⟨kb,0,none⟩)/\TrieAt W x h m kb l)
theorem SlotIs.upd0(k:Upd No h h')(t:SlotIs W x h m s c l):SlotIs W x h' m s c l:=t.imp id λo=>o.imp id λ⟨d,f,e,b,a⟩=>⟨d,f,e,b,TrieAt.upd0 k a⟩
theorem OE(p:Pr):∀{l:bY},l.length<=(gw p l).length
 | []=>aK _
 |q::l=>by
  rw[gc];split
  .have:=OE p (l:=l);simp only[ar];omega
  .split<;>simp
theorem Tl{b':Nat}{s':Slots}(a:bO l)(g:Upd No h h')(nd:NodeAt W h' b' s')(d:∀c,c<32->SlotIs W x h m s c (part x (12-m) c l))
  (b:∀c,c≠ck x (12-m) p.1->s'.p c=s.p c/\s'.k c=s.k c)(hi:SlotIs W x h' m s' (ck x (12-m) p.1) (gw p (part x (12-m) (ck x (12-m) p.1) l))):TrieAt W x h' (m+1) b' (gw p l):=by
 refine⟨s',nd,λc hc=>?_⟩
 rw[Oc a];by_cases e:ck x (12-m) p.1=c
 .rw[if_pos e];subst e;exact hi
 .rw[if_neg e]
  have t:=SlotIs.upd0 g (d c hc);obtain⟨i,f⟩:=b c λh=>e h.symm
  unfold SlotIs at t;rw[<-i,<-f]at t;exact t
theorem dV{a b:dO}:(a.toList==b.toList)=decide (a=b):=by
 rw[iC,beq_iff_eq,decide_eq_true_iff,z6]
theorem ZB:∀(m:Nat),m<=13->∀{b:Nat} {l:bY} (p:Pr) {h:ad},TrieAt W x h m b l->(∀y,W y->y<h.size)->bO l->l.length<=1000000->∀{K:aT×Bool×Bool->eu},
  (∀h' b' ch,Upd No h h'->TrieAt W x h' m b' (gw p l)->(ch=false->b'=b)->ch= !decide (p∈l)->K (some ⟨b',0,none⟩, !cE l p.1,ch) h')->
  MF 99 [U0 x p.1,gV b,.agg #[.string p.1,.string p.2],.int .i64 ((13-m:Nat):Int)] K h:=by
 intro m;induction m with
 |zero=>
  intro _ b l p h t hW S hn K F;have V:∀{h'},Upd No h h'->∀y,W y->y<h'.size:=λk y hy=>aA (hW y hy) k.size
  refine xk (x.k0,x.k1,x.mask,none,p.1,jj x p.1) (some ⟨b,0,none⟩) p ((13-0:Nat):Int) ?_;dsimp only[qC,ai,aF,bq,nv,qf,gD,yI,nC,AW,jM,Mp,vZ,GT,nW,F8,li,gj,rx,CO];have k1:=fD No h [.int .u64 x.k0,.int .u64 x.k1,.int .u64 x.mask,.pointer none,.string p.1,.int .u64 (jj x p.1)] 187;have b1:=bV h [.int .u64 x.k0,.int .u64 x.k1,.int .u64 x.mask,.pointer none,.string p.1,.int .u64 (jj x p.1)] 187
  refine bF ?_;simp only[cD h];generalize hnew h [.int .u64 x.k0,.int .u64 x.k1,.int .u64 x.mask,.pointer none,.string p.1,.int .u64 (jj x p.1)] 187=C at k1 b1;have k2:=fD No C [.string p.1,.string p.2] 35;have b2:=bV C [.string p.1,.string p.2] 35;refine bF ?_;simp only[cD C];generalize hnew C [.string p.1,.string p.2] 35=f at k2 b2;have u:∀{h':ad},Upd No f h'->∀i,aI h' (adr ⟨h.size,0,none⟩ i)=(#[.int .u64 x.k0,.int .u64 x.k1,.int .u64 x.mask,.pointer none,.string p.1,.int .u64 (jj x p.1)]:Array Value)[i]?:=λk i=>by
   rw[co,ba (k.get0 (k2.get0 b1)),aU]
  have A:∀{h':ad},Upd No f h'->∀i,aI h' (adr ⟨C.size,0,none⟩ i)=(#[.string p.1,.string p.2]:Array Value)[i]?:=λk i=>by rw[co,ba (k.get0 b2),aU]
  have r:=eQ No f;have d:=k1.tr k2;have bk:BuckAt W f b l:=BuckAt.upd t d λ_ h=>h.elim
  obtain⟨sp,sk,ow,hb,_⟩:=bk.ex;refine eT hb (aw.2 ⟨_,A r 0,Zc bk S a4 p.1 λJ v G hv=>?_⟩)
  have put:∀(U:p∉l) {h4:ad},Upd No f h4->fx 162 [gV b,.pointer none,.agg #[.string p.1,.string p.2]] (λ(e15:aT) h16=>K (e15, !cE l p.1,true) h16) h4:=λU h4 o=>
   M1 (bk.upd o λ_ h=>h.elim) (V (d.tr o)) S a4 p λh5 b5 bk5 X=>by
    rw[Gw p S]at bk5;exact F h5 b5 true ((d.tr o).tr X) bk5 (λh=>by cases h) (by rw[decide_eq_false U];rfl)
  refine eM (λt' h'=>t'=decide (p∈l)/\Upd No f h') (λR hR=>?_) ?_
  .cases ht:cE l p.1 with
   |false=>
    refine ag.2 (hR _ _ ⟨?_,G⟩);refine(decide_eq_false λhm=>?_).symm
    have:cE l p.1=true:=cg.2 ⟨p,hm,decide_eq_true rfl⟩;rw[ht]at this;cases this
   |true=>
    have hv:=hv ht;refine aw.2 ⟨_,A G 1,hR _ _ ⟨?_,G⟩⟩;rw[dV,decide_eq_decide];constructor
    .intro e
     have e:v=p.2:=e;rw[e]at hv;exact hv
    .intro hm
     exact Hj S hv (show(p.1,p.2)∈l from hm)
  .rintro t' h4 ⟨rfl,o⟩
   by_cases hm:p∈l
   .rw[decide_eq_true hm]
    refine aw.2 ?_;have ht:cE l p.1=true:=cg.2 ⟨p,hm,decide_eq_true rfl⟩;have:=F h4 b false (d.tr o) (by rw[Gv S hm];exact bk.upd o λ_ h=>h.elim) (λ_=>rfl) (by rw[decide_eq_true hm];rfl)
    rw[ht]at this;exact this
   .rw[decide_eq_false hm]
    refine ag.2 ⟨none,u o 3,_,A o 0,_,A o 1,put hm o⟩
 |succ m ih=>
  intro hm b l p h t hW S hn K F;have V:∀{h'},Upd No h h'->∀y,W y->y<h'.size:=λk y hy=>aA (hW y hy) k.size
  have hl:13-(m+1)<13:=a4
  have hlev:13-(m+1)=12-m:=a4
  refine xk (x.k0,x.k1,x.mask,none,p.1,jj x p.1) (some ⟨b,0,none⟩) p ((13-(m+1):Nat):Int) ?_;dsimp only[qC,ai,aF,bq,nv,qf,gD,yI,nC,AW,jM,Mp,vZ,GT,nW,F8,li,gj,rx,CO];have k1:=fD No h [.int .u64 x.k0,.int .u64 x.k1,.int .u64 x.mask,.pointer none,.string p.1,.int .u64 (jj x p.1)] 187;have b1:=bV h [.int .u64 x.k0,.int .u64 x.k1,.int .u64 x.mask,.pointer none,.string p.1,.int .u64 (jj x p.1)] 187
  refine bF ?_;simp only[cD h];generalize hnew h [.int .u64 x.k0,.int .u64 x.k1,.int .u64 x.mask,.pointer none,.string p.1,.int .u64 (jj x p.1)] 187=C at k1 b1;have k2:=fD No C [.string p.1,.string p.2] 35;have b2:=bV C [.string p.1,.string p.2] 35;refine bF ?_;simp only[cD C];generalize hnew C [.string p.1,.string p.2] 35=f at k2 b2;have u:∀{h':ad},Upd No f h'->∀i,aI h' (adr ⟨h.size,0,none⟩ i)=(#[.int .u64 x.k0,.int .u64 x.k1,.int .u64 x.mask,.pointer none,.string p.1,.int .u64 (jj x p.1)]:Array Value)[i]?:=λk i=>by
   rw[co,ba (k.get0 (k2.get0 b1)),aU]
  have A:∀{h':ad},Upd No f h'->∀i,aI h' (adr ⟨C.size,0,none⟩ i)=(#[.string p.1,.string p.2]:Array Value)[i]?:=λk i=>by rw[co,ba (k.get0 b2),aU]
  have r:=eQ No f;have d:=k1.tr k2;obtain⟨s,Z,hs0⟩:=TrieAt.upd0 d t;have hs:∀c,c<32->SlotIs W x f m s c (part x (12-m) c l):=hs0;have tt:∀{h':ad},Upd No f h'->TrieAt W x h' (m+1) b l:=λk=>TrieAt.upd0 (d.tr k) t
  obtain⟨d0,n0,sp0,sk0,ow0,hb0,_⟩:=Z.ex;refine eT hb0 (ag.2 ⟨_,u r 5,Uq hl ?_⟩);rw[hlev];have hi:=zk x (12-m) p.1;have P:=hs _ hi;have hrp:=is (x:=x) (lev:=12-m) (c:=ck x (12-m) p.1) S;have Y:(part x (12-m) (ck x (12-m) p.1) l).length<=1000000:=aQ lJ hn;have Q:p∈part x (12-m) (ck x (12-m) p.1) l↔p∈l:=by rw[lL];exact⟨λh=>h.1,λh=>⟨h,rfl⟩⟩
  have N:=GX (x:=x) (lev:=12-m) (l:=l) (k:=p.1);have j:=λ{h':ad} {b':Nat} {s':Slots}=>Tl (W:=W) (x:=x) (h:=f) (h':=h') (m:=m) (b':=b') (s:=s) (s':=s') (l:=l) (p:=p) S
  generalize hc:ck x (12-m) p.1=c at hi P hrp Y Q N j;generalize hlp:part x (12-m) c l=lc at P hrp Y Q N j;refine yX Z hi λJ G=>?_
  have k4:=fD No J [.string (⟨#[]⟩:dO),.string (⟨#[]⟩:dO)] 35;have b4:=bV J [.string (⟨#[]⟩:dO),.string (⟨#[]⟩:dO)] 35;refine bF ?_;simp only[cD J];generalize hnew J [.string (⟨#[]⟩:dO),.string (⟨#[]⟩:dO)] 35=h4 at k4 b4;have b4':h4[J.size]? =some (.cells #[.string Px.1,.string Px.2] 35 (0,0)):=b4;refine ET (p:=Wb (s.p c)) b4' λh5 b5 X=>?_
  have a:Upd No f h5:=(G.tr k4).trans X λy hy=>.inr (by have hy:y=J.size:=hy;have:=G.size;omega)
  have w5:∀{h':ad},Upd No h5 h'->∀i,aI h' (adr ⟨J.size,0,none⟩ i)=(#[.string (Wb (s.p c)).1,.string (Wb (s.p c)).2]:Array Value)[i]?:=λk i=>by rw[co,ba (k.get0 b5),aU]
  have r5:=eQ No h5;have L:=Z.upd a λ_ h=>h.elim
  cases hsp:s.p c with
  |some y=>
   rw[hsp]at w5;obtain⟨B,hk0⟩:lc= [y]/\s.k c=none:=by
    rcases P with⟨_,f,_⟩|⟨q,C,f,J⟩|⟨_,f,_⟩
    .rw[hsp]at f;cases f
    .rw[hsp]at f;cases f;exact⟨C,J⟩
    .rw[hsp]at f;cases f
   refine aw.2 ⟨y.1,w5 r5 0,y.2,w5 r5 1,p.1,A a 0,p.2,A a 1,?_⟩;rw[dV,dV];have hyl:y∈l:=(lL.1 (show y∈part x (12-m) c l by rw[hlp,B];exact av.2 rfl)).1
   by_cases I:y.1=p.1
   .have ht:cE l p.1=true:=cg.2 ⟨y,hyl,decide_eq_true I⟩
    rw[ht]at F;by_cases e2:y.2=p.2
    .rw[decide_eq_true I,decide_eq_true e2]
     have hyp:y=p:=pW I e2;have w:p∈l:=hyp▸hyl;refine aw.2 ?_;exact F h5 b false (d.tr a) (by rw[Gv S w];exact tt a) (λ_=>rfl) (by rw[decide_eq_true w];rfl)
    .rw[decide_eq_true I,decide_eq_false e2]
     refine ag.2 ⟨y.1,w5 r5 0,p.1,A a 0,?_⟩;rw[dV,decide_eq_true I];refine aw.2 ⟨none,u a 3,p.1,A a 0,p.2,A a 1,?_⟩;refine tH L (V (d.tr a)) hi (λ_ _=>hk0) p λh6 T nd6 g=>?_
     have O:p∉l:=λhm=>by
      have:=Q.2 hm;rw[B]at this;exact e2 (by rw[av.1 this])
     refine F h6 T true ((d.tr a).tr g) (j (a.tr g) nd6 hs (λc' n=>⟨gM n,gM n⟩) ?_) (λh=>by cases h) (by rw[decide_eq_false O];rfl)
     refine .inr (.inl ⟨p,?_,gY,gY⟩);rw[B,gc,if_neg (by rw[I];exact bT _),if_pos I]
   .rw[decide_eq_false I]
    refine ag.2 ⟨y.1,w5 r5 0,p.1,A a 0,?_⟩;rw[dV,decide_eq_false I];refine ag.2 ⟨none,u a 3,_,u a 0,_,u a 1,_,u a 2,_,u a 3,_,u a 4,_,u a 5,y.1,w5 r5 0,y.2,w5 r5 1,p.1,A a 0,p.2,A a 1,?_⟩;have ew:ac .i64 (((12-m:Nat):Int)+1)=((13-m:Nat):Int):=by rw[dw a4];omega
    rw[ew];refine YK m y p a4 I (V (d.tr a)) λh6 T t6 g=>⟨u (a.tr g) 3,?_⟩
    refine zL (L.upd g λ_ h=>h.elim) (V ((d.tr a).tr g)) hi (λz hz=>by rw[hk0]at hz;cases hz) ⟨T,0,none⟩ λh7 b7 nd7 E=>?_
    have ht:cE l p.1=false:=by
     rw[<-N,B];unfold cE;rw[qS,decide_eq_false I];rfl
    have O:p∉l:=λhm=>by
     have:cE l p.1=true:=cg.2 ⟨p,hm,decide_eq_true rfl⟩;rw[ht]at this;cases this
    rw[ht]at F;refine F h7 b7 true (((d.tr a).tr g).tr E) (j ((a.tr g).tr E) nd7 hs (λc' n=>⟨gM n,gM n⟩) ?_) (λh=>by cases h) (by rw[decide_eq_false O];rfl)
    rw[B];exact .inr (.inr ⟨by rw[RU I];omega,gY,T,gY,TrieAt.upd0 E t6⟩)
  |none=>
   refine ag.2 (u0 L hi ?_);cases hsk:s.k c with
   |none=>
    have hlc:lc= []:=by
     rcases P with⟨C,_⟩|⟨q,_,f,_⟩|⟨_,_,kb,f,_⟩
     .exact C
     .rw[hsp]at f;cases f
     .rw[hsk]at f;cases f
    refine aw.2 ⟨none,u a 3,p.1,A a 0,p.2,A a 1,?_⟩;refine tH L (V (d.tr a)) hi (λ_ _=>hsk) p λh6 T nd6 g=>?_
    have ht:cE l p.1=false:=by rw[<-N,hlc];rfl
    have O:p∉l:=λhm=>by
     have:cE l p.1=true:=cg.2 ⟨p,hm,decide_eq_true rfl⟩;rw[ht]at this;cases this
    rw[ht]at F;refine F h6 T true ((d.tr a).tr g) (j (a.tr g) nd6 hs (λc' n=>⟨gM n,gM n⟩) ?_) (λh=>by cases h) (by rw[decide_eq_false O];rfl)
    rw[hlc];exact .inr (.inl ⟨p,rfl,gY,gY⟩)
   |some kp=>
    obtain⟨h2l,kb,rfl,tk⟩:2<=lc.length/\∃kb,kp=some ⟨kb,0,none⟩/\TrieAt W x f m kb lc:=by
     rcases P with⟨_,_,f⟩|⟨q,_,f,_⟩|⟨C,_,kb,f,J⟩
     .rw[hsk]at f;cases f
     .rw[hsp]at f;cases f
     .rw[hsk]at f;cases f;exact⟨C,kb,rfl,J⟩
    refine ag.2 ⟨_,u a 0,_,u a 1,_,u a 2,_,u a 3,_,u a 4,_,u a 5,p.1,A a 0,p.2,A a 1,?_⟩;have ew:ac .i64 (((12-m:Nat):Int)+1)=((13-m:Nat):Int):=by rw[dw a4];omega
    rw[ew];refine ih a4 p (TrieAt.upd0 a tk) (V (d.tr a)) hrp Y λh6 T ch g t6 hsame H=>?_
    have D:=a.tr g;by_cases w:p∈l
    .have H:ch=false:=by rw[H,decide_eq_true (Q.2 w)];rfl
     have ht:cE l p.1=true:=cg.2 ⟨p,w,decide_eq_true rfl⟩;rw[ht]at F;rw[H];refine aw.2 ?_;exact F h6 b false (d.tr D) (by rw[Gv S w];exact tt D) (λ_=>rfl) (by rw[decide_eq_true w];rfl)
    .have H:ch=true:=by rw[H,decide_eq_false λh=>w (Q.1 h)];rfl
     rw[H];refine ag.2 ⟨none,u D 3,?_⟩;refine zL (L.upd g λ_ h=>h.elim) (V ((d.tr a).tr g)) hi (λ_ _=>hsp) ⟨T,0,none⟩ λh7 b7 nd7 E=>?_
     rw[N];refine F h7 b7 true ((d.tr D).tr E) (j (D.tr E) nd7 hs (λc' n=>⟨gM n,gM n⟩) ?_) (λh=>by cases h) (by rw[decide_eq_false w];rfl)
     exact .inr (.inr ⟨aQ h2l (OE p),gY,T,gY,TrieAt.upd0 E t6⟩)
theorem NG(nd:NodeAt W h b ⟨λ_=>none,λ_=>none⟩):TrieAt W x h (m+1) b []:=⟨_,nd,λ_ _=>.inl ⟨rfl,rfl,rfl⟩⟩
def RootAt(W:eh)(x:Hs)(h:ad)(r:aT)(l:bY):Prop:=(r=none/\l= [])\/∃b,r=some ⟨b,0,none⟩/\TrieAt W x h 13 b l
theorem RootAt.upd0(k:Upd No h h')(t:RootAt W x h r l):RootAt W x h' r l:=t.imp id λ⟨b,e,t⟩=>⟨b,e,TrieAt.upd0 k t⟩
theorem L6(t:RootAt W x h r l)(d:∀y,W y->y<h.size)(a:∀h' b,TrieAt W x h' 13 b l->Upd No h h'->(r=some ⟨b,0,none⟩\/r=none)->K (some ⟨b,0,none⟩) h'):fx 100 [.pointer r] K h:=by
 refine cZ (Dm r) .nil Tryz.func100 Tryz.call100 ?_;unfold Dm;rcases t with⟨rfl,rfl⟩|⟨b,rfl,t⟩
 .refine aw.2 (AC ?_)
  unfold wB;exact sR d λh' b nd c=>a h' b (NG nd) c (.inr rfl)
 .exact ag.2 (a h b t (eQ _ _) (.inl rfl))
theorem cy{t:TypeId}{c vs:c5}(hb:h[b]? =some (.cells c.toArray t (0,0))) (a:vs.length=c.length) {k:eu}
  (d:∀h',h'[b]? =some (.cells vs.toArray t (0,0))->Upd (· =b) h h'->k h'):qR h (some ⟨b,0,none⟩) 0 vs/\At (fu h ⟨b,0,none⟩ 0 vs) k:=by
 have e:=ik vs h 0 0 c hb a4;refine⟨.inr ⟨_,rfl,λj f=>by rw[co];exact eH hb (by rw[List.size_toArray];omega)⟩,bF ?_⟩
 rw[e];refine d _ ?_ (Upd.set h _ rfl);rw[dE hb];congr 3
 simp[a]
set_option maxRecDepth 4000 in
theorem O3(t:RootAt W x h r l)(P:∀y,W y->y<h.size)(R:bO l)(U:l.length<=1000000)(p:Pr){K:aT×Bool->eu}
  (V:∀h' b',Upd No h h'->TrieAt W x h' 13 b' (gw p l)->(p∈l->r=some ⟨b',0,none⟩\/r=none)->K (some ⟨b',0,none⟩, !cE l p.1) h'):
  rR 51 [.agg #[.int .u64 x.k0,.int .u64 x.k1,.int .u64 x.mask],.pointer none,.pointer r,.agg #[.string p.1,.string p.2]] K h:=by
 refine cZ (FH (x.k0,x.k1,x.mask) none r p) Pv Tryz.func51 Tryz.call51 ?_;dsimp only[FH,ai,aF,bq,dH,Cj,yi,qf,Zi,Zn,AW,nW,li,F8,gj,rx,yI];have k1:=fD No h [.int .u64 x.k0,.int .u64 x.k1,.int .u64 x.mask] 26;have b1:=bV h [.int .u64 x.k0,.int .u64 x.k1,.int .u64 x.mask] 26;refine bF ?_;simp only[cD h];generalize hnew h [.int .u64 x.k0,.int .u64 x.k1,.int .u64 x.mask] 26=h1 at k1 b1
 have F:=fD No h1 [.string p.1,.string p.2] 35;have b2:=bV h1 [.string p.1,.string p.2] 35;refine bF ?_;simp only[cD h1];generalize hnew h1 [.string p.1,.string p.2] 35=h2 at F b2;have e:∀{h':ad},Upd No h2 h'->∀i,aI h' (adr ⟨h.size,0,none⟩ i)=(#[.int .u64 x.k0,.int .u64 x.k1,.int .u64 x.mask]:Array Value)[i]?:=λk i=>by
  rw[co,ba (k.get0 (F.get0 b1)),aU]
 have n:∀{h':ad},Upd No h2 h'->∀i,aI h' (adr ⟨h1.size,0,none⟩ i)=(#[.string p.1,.string p.2]:Array Value)[i]?:=λk i=>by rw[co,ba (k.get0 b2),aU]
 have s:=eQ No h2;have q:=k1.tr F;let C:c5:= [.int .u64 0,.int .u64 0,.int .u64 0,.pointer none,.string (⟨#[]⟩:dO),.int .u64 0]
 let B:c5:= [.int .u64 x.k0,.int .u64 x.k1,.int .u64 x.mask,.pointer none,.string p.1,.int .u64 (jj x p.1)]
 have fin:∀{g:ad} {b:Nat},Upd No h2 g->g[b]? =some (.cells B.toArray 187 (0,0))->
   ∃v15:Int,aI g (adr ⟨b,0,none⟩ 0)=some (.int .u64 v15)/\
    ∃v16:Int,aI g (adr ⟨b,0,none⟩ 1)=some (.int .u64 v16)/\
    ∃v17:Int,aI g (adr ⟨b,0,none⟩ 2)=some (.int .u64 v17)/\
    ∃v18:aT,aI g (adr ⟨b,0,none⟩ 3)=some (.pointer v18)/\
    ∃v19:dO,aI g (adr ⟨b,0,none⟩ 4)=some (.string v19)/\
    ∃v20:Int,aI g (adr ⟨b,0,none⟩ 5)=some (.int .u64 v20)/\
    ∃v21:dO,aI g (adr ⟨h1.size,0,none⟩ 0)=some (.string v21)/\
    ∃v22:dO,aI g (adr ⟨h1.size,0,none⟩ 1)=some (.string v22)/\
    fx 100 [.pointer r] (λ(G:aT) f=>
     ((aI f (adr ⟨h1.size,0,none⟩ 0)=some (.string v21)/\aI f (adr ⟨h1.size,0,none⟩ 1)=some (.string v22))/\
      ((aI f (adr ⟨b,0,none⟩ 0)=some (.int .u64 v15)/\aI f (adr ⟨b,0,none⟩ 1)=some (.int .u64 v16)/\aI f (adr ⟨b,0,none⟩ 2)=some (.int .u64 v17)/\aI f (adr ⟨b,0,none⟩ 3)=some (.pointer v18)/\aI f (adr ⟨b,0,none⟩ 4)=some (.string v19)/\aI f (adr ⟨b,0,none⟩ 5)=some (.int .u64 v20))/\
       MF 99 [.agg #[.int .u64 v15,.int .u64 v16,.int .u64 v17,.pointer v18,.string v19,.int .u64 v20],.pointer G,.agg #[.string v21,.string v22],.int .i64 0] (λ(A:aT×Bool×Bool) E=>
        K (A.1,A.2.1) E) f))) g:=λ{g b} d H=>by
  have m:∀{h':ad},Upd No g h'->∀i,aI h' (adr ⟨b,0,none⟩ i)=B.toArray[i]?:=λk i=>by rw[co,ba (k.get0 H),aU]
  have v:=eQ No g;refine⟨_,m v 0,_,m v 1,_,m v 2,_,m v 3,_,m v 4,_,m v 5,p.1,n d 0,p.2,n d 1,?_⟩;refine L6 (t.upd0 (q.tr d)) (λy z=>aA (P y z) (q.tr d).size) λO J S c L=>?_
  have a:=d.tr c;refine⟨⟨n a 0,n a 1⟩,⟨m c 0,m c 1,m c 2,m c 3,m c 4,m c 5⟩,?_⟩;refine ZB 13 (aj _) p S (λy z=>aA (P y z) ((q.tr d).tr c).size) R U λQ D Z u Y X N=>?_
  refine V Q D ((q.tr a).tr u) Y λhm=>?_
  have hb:D=J:=X (by rw[N,decide_eq_true hm];rfl);rw[hb];exact L
 have own:∀{w g:ad} {b:Nat},h2.size<=b->Upd (· =b) w g->Upd No h2 w->Upd No h2 g:=λhb T k=>k.trans T λy z=>.inr (z▸hb)
 refine⟨_,e s 0,_,e s 1,_,e s 2,_,n s 0,_,e s 0,_,e s 1,_,e s 2,_,n s 0,?_,?_⟩
 .refine vg λw j=>⟨n j 0,⟨e j 0,e j 1,e j 2⟩,?_⟩
  have o:=fD No w C 187;have I:=bV w C 187;have d:=j.tr o;refine bF ?_;simp only[cD w];refine⟨n d 0,⟨e d 0,e d 1,e d 2⟩,?_⟩;refine cy (vs:=B) I rfl λO J c=>fin (own j.size c d) J
 .have o:=fD No h2 C 187
  have I:=bV h2 C 187;refine bF ?_;simp only[cD h2];refine⟨n o 0,⟨e o 0,e o 1,e o 2⟩,n o 0,⟨e o 0,e o 1,e o 2⟩,?_⟩;refine vg λO c=>?_
  have a:=o.tr c;refine⟨n a 0,⟨e a 0,e a 1,e a 2⟩,?_⟩;exact cy (vs:=B) (c.get0 I) rfl λQ D u=>fin (own (aj _) u a) D
abbrev vo(b:UInt8):c5:= [.int .u8 (b.toNat:Int)]
theorem Ef(b:UInt8):(vo b).length=1/\0<1:=⟨rfl,Nat.one_pos⟩
theorem Gr:∀xs:c6,cA (xs.flatMap vo)=true
 | []=>rfl
 |x::xs=>by rw[aN];exact nH rfl (Gr xs)
theorem Fc(s:dO):dz s=s.data.toList.flatMap vo:=by
 unfold dz;generalize s.data.toList=l;induction l with
 |nil=>rfl
 |cons b l ih=>rw[ce,aN,ih];rfl
theorem xb{so:f9}{out:c6}{v:Int}{b:UInt8}(hv:v=(b.toNat:Int)){K:f9->eu}(d:OwnS vo 1 5 M h so out)(hM:∀b,h.size<=b->M b)(g:out.length+1<=140737488355328)
  (c:∀s' h',OwnS vo 1 5 M h' s' (out++ [b])->Upd M h h'->K s' h'):
  ∃xs,SRow (hnew h [.int .u8 v] 5) (some (aH h)) (1*1) xs/\AppP (some [.int .u8 0]) 1 1 5 so.a so.len so.cap 1 xs (hnew h [.int .u8 v] 5) K:=by
 subst hv;have k:=fD No h [.int .u8 (b.toNat:Int)] 5;have e:OwnS vo 1 5 (λ_=>True) (hnew h [.int .u8 (b.toNat:Int)] 5) ⟨some (aH h),1,1⟩ [b]:=⟨rfl,Ef,aj _,.inr ⟨h.size,[],rfl,trivial,bV ..,rfl⟩⟩
 refine⟨_,(e.sl (W:=No) λ_ _ _ h=>h).srow,?_⟩
 refine AppP.own (ys:= [b]) (d.upd k λ_ _ h=>h) rfl rfl rfl rfl a4 (by simp only[aP];omega) (hM _ (by rw[dA];omega)) λs' h' a f=>?_
 exact c s' h' a ((fD M h _ _).tr f)
def qu(n k:Nat):c6:=(fq k).map λi=>gq (n>>>(8*i))
theorem zW(n k:Nat):qu n (k+1)=qu n k++ [gq (n>>>(8*k))]:=by unfold qu;rw[jK,cF];rfl
theorem ft(n k:Nat):(qu n k).length=k:=by simp[qu]
theorem QB{s:f9}{xs:c6}(q:OwnS vo 1 5 M h s xs)(hM:∀b,h.size<=b->M b){k:Nat}(_:n<18446744073709551616)(p:k<=8)(w:xs.length+k<=140737488355328){K:f9->eu}
  (o:∀s' h',OwnS vo 1 5 M h' s' (xs++qu n k)->Upd M h h'->K s' h'):dS 136 [.slice s.a s.len s.cap,.int .u64 n,.int .i64 k] K h:=by
 refine Ff s n k ?_;unfold zC;refine eF (λ(i:Nat) (t:f9×Int) h'=>t.2=(i:Int)/\i<=k/\OwnS vo 1 5 M h' t.1 (xs++qu n i)/\Upd M h h') (λi=>k-i) 0 ⟨rfl,aK _,by simpa[qu]using q,eQ _ _⟩ ?_
 rintro I i ⟨so,x⟩ h' ⟨m,hi,c,j⟩ v;simp only at m c;subst m;refine aq (λa=>?_) λe=>?_
 .have a:i<k:=by have:(i:Int)<(k:Int):=a;omega
  have u:ac .i64 (8*(i:Int))=((8*i:Nat):Int):=by rw[dw a4];omega
  have em:min (((8*i:Nat):Int)).toNat (ak .u64)=8*i:=by rw[bi];exact cn (by show 8*i<=64;omega)
  refine fo ?_;simp only[Bd];rw[u,em,mV];refine⟨a4,bF ?_⟩;refine xb (b:=gq (n>>>(8*i))) ?_ c (λb hb=>hM b (aQ j.size hb)) (by rw[ae,ft];omega) λy A f d=>?_
  .rw[sn];simp
  .rw[cf a a4]
   refine v (i+1) _ _ ⟨rfl,a,?_,j.tr d⟩ a4;rw[zW,<-ao];exact f
 .have g:i=k:=by have:¬(i:Int)<(k:Int):=e;omega
  subst g;exact o _ _ c j
end
section
variable {α:Type}{sz i n d m lev b:Nat}{a xs r y lab:c6}{t:TypeId}{W M W':eh}{h h':ad}{k ow:aT}{K:f9->eu}{s sp:f9}{p:Pr}{l:bY}{x:Hs}{c:Array Value}{w:Option dO}{val v:dO}{F:Fo}{ks:List aT}{L:List Bn}{has:Bool}
theorem O7{f:α->c5}{a:Nat}{base:aT}{sl k:Nat}{xs ys:List α}{d z:c5}
  (m:Sl f sz W h ⟨base,sl,k⟩ xs)(n:i=ys.length)(o:d=ys.flatMap f)(q:z.length=sz)(hb:0<a)(e:k<sl+i)(g:(xs.length+ys.length)*a<=140737488355328)
  (p:∀s' h',OwnS f sz t (λb=>h.size<=b) h' s' (xs++ys)->Upd No h h'->K s' h'):AppP (some z) sz a t base sl k i d h K:=by
 have c:sl=xs.length:=m.len;subst n o;refine⟨λs=>a4,λ_=>?_⟩
 refine⟨xs.flatMap f,z,m.srow,rfl,hb,Go.growslice_fits e (by rw[c];exact g),λu j=>?_⟩
 refine p _ _ ⟨by simp[c],m.ne,j,.inr ⟨h.size,dg (u-(sl+ys.length)) z,rfl,aj _,?_,?_⟩⟩ (fD No h _ _)
 .rw[bV,bU]
 .rw[lH,q]
theorem Yi(A:Sl vo 1 No h s xs)(hc:s.cap=s.len){k:Nat}(u:k<=8)(v:0<k)(C:xs.length+k<=140737488355328)
  (x:∀s' h',OwnS vo 1 5 (λb=>h.size<=b) h' s' (xs++qu n k)->Upd No h h'->K s' h'):dS 136 [.slice s.a s.len s.cap,.int .u64 n,.int .i64 k] K h:=by
 refine Ff s n k ?_;unfold zC;refine eF (λ(i:Nat) (t:f9×Int) h'=>t.2=(i:Int)/\i<=k/\((i=0/\t.1=s/\h'=h)\/OwnS vo 1 5 (λb=>h.size<=b) h' t.1 (xs++qu n i))/\Upd No h h') (λi=>k-i) 0 ⟨rfl,aK _,.inl ⟨rfl,rfl,rfl⟩,eQ _ _⟩ ?_
 rintro I i ⟨so,D⟩ h' ⟨q,hi,a,j⟩ o;simp only at q a;subst q;refine aq (λc=>?_) λg=>?_
 .have c:i<k:=by have:(i:Int)<(k:Int):=c;omega
  have y:ac .i64 (8*(i:Int))=((8*i:Nat):Int):=by rw[dw a4];omega
  have em:min (((8*i:Nat):Int)).toNat (ak .u64)=8*i:=by rw[bi];exact cn (by show 8*i<=64;omega)
  refine fo ?_;simp only[Bd];rw[y,em,mV];refine⟨a4,bF ?_⟩;have p:ac .u8 ((n>>>(8*i):Nat):Int)=((gq (n>>>(8*i))).toNat:Int):=by rw[sn];simp
  rcases a with⟨rfl,rfl,rfl⟩|a
  .rw[p]
   have k1:=fD No h' [.int .u8 ((gq (n>>>(8*0))).toNat:Int)] 5;have z:OwnS vo 1 5 (λ_=>True) (hnew h' [.int .u8 ((gq (n>>>(8*0))).toNat:Int)] 5) ⟨some (aH h'),1,1⟩ [gq (n>>>(8*0))]:=⟨rfl,Ef,aj _,.inr ⟨h'.size,[],rfl,trivial,bV ..,rfl⟩⟩
   refine⟨_,(z.sl (W:=No) λ_ _ _ h=>h).srow,?_⟩
   refine O7 (ys:= [gq (n>>>(8*0))]) (A.upd k1 λ_ h=>h.elim) rfl rfl rfl a4 a4 (by simp only[aP];omega) λB w f d=>?_
   rw[cf c a4];refine o 1 _ _ ⟨rfl,c,.inr ?_,k1.tr d⟩ a4;exact f.more λb hb=>aQ k1.size hb
  .refine xb p a (λb hb=>aQ j.size hb) (by rw[ae,ft];omega) λB w f d=>?_
   rw[cf c a4];refine o (i+1) _ _ ⟨rfl,c,.inr ?_,j.trans d λb hb=>.inr hb⟩ a4
   rw[zW,<-ao];exact f
 .have m:i=k:=by have:¬(i:Int)<(k:Int):=g;omega
  subst m;rcases a with⟨e,_⟩|a
  .omega
  .exact x _ _ a j
def yj(s:dO):c6:=qu s.size 2++s.data.toList
theorem Gk(i:Sl vo 1 W h s xs)(hc:s.len<=s.cap)(b:dO)(hb:b.size<=1000000)(u:xs.length+2+b.size<=140737488355328)
  (p:∀s' h',OwnS vo 1 5 (λx=>h.size<=x) h' s' (xs++yj b)->Upd No h h'->K s' h'):dS 133 [.slice s.a s.len s.cap,.string b] K h:=by
 refine cZ (C7 s b) .nil Tryz.func133 Tryz.call133 ?_;unfold C7;have j:=i.len;refine⟨a4,a4,?_⟩
 simp only[bi];have f:Sl vo 1 No h ⟨aW s.a 0 s.len 1,s.len-0,s.len-0⟩ xs:=by
  have:=Sl.sub (i.less (W':=No) λ_ h=>h.elim) (l:=0) (hi:=s.len) (m:=s.len) (c:=s.len-0) (aK _) a4 (aj _)
  rw[List.drop_zero,aS a4]at this;exact this
 have t:ac .u64 (b.size:Int)=(b.size:Int):=Go.IntWalk.u64_in _ a4;rw[t];refine Yi f rfl (n:=b.size) (k:=2) a4 a4 a4 λv w e a=>?_
 refine AppP.own (ys:=b.data.toList) e a7 (Fc b) (by rw[Fc];exact Gr _) rfl a4 ?_ a.size λo q g d=>?_
 .simp only[ae,ft]
  have:b.data.toList.length=b.size:=a7
  omega
 .refine p o q ?_ (a.trans d λx hx=>.inr hx)
  rw[yj,<-ao];exact g
def Ht(p:Pr):c6:=yj p.1++yj p.2
def nZ(l:bY):c6:=l.flatMap Ht
theorem kE(b:dO):(yj b).length=2+b.size:=by simp[yj,ft]
def Fit(l:bY):Prop:=∀p∈l,p.1.size<=10000/\p.2.size<=10000
theorem TQ(h:p.1.size<=10000/\p.2.size<=10000):(Ht p).length<=20004:=by
 unfold Ht;rw[ae,kE,kE];omega
theorem tM:∀{l:bY},Fit l->(nZ l).length<=l.length*20004
 | [],_=>by simp[nZ]
 |p::l,h=>by
  have b:=TQ (h p (al ..));have c:=tM (l:=l) λq a=>h q (ay _ a)
  unfold nZ at*;rw[aN,ae,ar];omega
theorem Oh(hi:i<l.length):nZ (l.take (i+1))=nZ (l.take i)++Ht l[i]:=by
 unfold nZ;rw[List.take_succ_eq_append_getElem hi,bU,aN,List.flatMap_nil,List.append_nil]
theorem Ha(G:OwnS vo 1 5 M h s xs)(hM:∀b,h.size<=b->M b)(D:Sl dZ 2 W h sp l)(F:∀x,M x->x<h.size->W x)(C:Fit l)(Y:l.length<=1000000)(S:xs.length+l.length*20004<=140737488355328)
  (P:∀s' h',OwnS vo 1 5 M h' s' (xs++nZ l)->Upd M h h'->K s' h'):dS 135 [.slice s.a s.len s.cap,.slice sp.a sp.len sp.cap] K h:=by
 refine cZ (AH s sp) JX Tryz.func135 Tryz.call135 ?_;dsimp only[AH,bq,nv,lG,kr,nC,DE,cP,jz,fE,nW];have B:=D.len;have u:∀b,M b->W b\/h.size<=b:=λb hb=>by
  rcases Nat.lt_or_ge b h.size with hx|hx
  .exact .inl (F b hb hx)
  .exact .inr hx
 refine eF (λ(i:Nat) (t:f9×Int) h'=>t.2=(i:Int)/\i<=l.length/\OwnS vo 1 5 M h' t.1 (xs++nZ (l.take i))/\Upd M h h') (λi=>l.length-i) 0 ⟨rfl,aK _,by simpa[nZ]using G,eQ _ _⟩ ?_
 rintro I i ⟨so,U⟩ h' ⟨E,hi,e,m⟩ J;(try simp only at E e)
 subst E;refine aq (λc=>?_) λz=>?_
 .have c:i<l.length:=by have:(i:Int)<(sp.len:Int):=c;omega
  obtain⟨a,N,_,hv⟩:=(D.upd m u).at (af c);have Q:=C l[i] (aG c);have w:=tM (l:=l.take i) λq H=>C q (List.mem_of_mem_take H)
  rw[List.length_take,cn hi]at w;have k1:=fD No h' [.string (⟨#[]⟩:dO),.string (⟨#[]⟩:dO)] 35;have b1:=bV h' [.string (⟨#[]⟩:dO),.string (⟨#[]⟩:dO)] 35;refine⟨by(try simp only);omega,a,N,l[i].1,hv 0 _ rfl,l[i].2,hv 1 _ rfl,bF ?_⟩;simp only[cD h'];generalize hnew h' [.string (⟨#[]⟩:dO),.string (⟨#[]⟩:dO)] 35=h1 at k1 b1;have o:h1[h'.size]? =some (.cells #[.string Px.1,.string Px.2] 35 (0,0)):=b1
  refine ET (p:=l[i]) o λL b2 y=>?_
  have d:Upd No h' L:=k1.trans y λx hx=>.inr (cI hx.symm)
  have k:=e.upd d λ_ _ h=>h
  refine⟨l[i].1,by rw[co,ba b2];rfl,l[i].2,by rw[co,ba b2];rfl,?_⟩
  have A:i*20004+20004<=l.length*20004:=by rw[<-Nat.succ_mul];exact db _ c
  refine Gk (W:=No) (k.sl λ_ _ _ h=>h) k.cap l[i].1 a4 (by rw[ae];omega) λT X g f=>⟨by rw[co,ba (f.get0 b2)];rfl,?_⟩
  refine Gk (W:=No) (g.sl λ_ _ _ h=>h) g.cap l[i].2 a4 (by rw[ae,ae,kE];omega) λV O n v=>?_
  have j:Upd M h O:=m.tr ((d.tr (f.tr v)).wide);rw[cf c a4];refine J (i+1) _ _ ⟨rfl,c,?_,j⟩ a4;rw[Oh c,Ht,<-ao,<-ao];exact n.more λb hb=>hM b (aQ (m.tr ((d.tr f).wide)).size hb)
 .have R:i=l.length:=by have:¬(i:Int)<(sp.len:Int):=z;omega
  rw[aS a4]at e;exact P _ _ e m
def pL(q:Nat->Bool):Nat->Nat
 |0=>0
 |n+1=>pL q n+(if q n then 2^n else 0)
theorem tZ(q:Nat->Bool):∀n,pL q n<2^n
 |0=>by simp[pL]
 |n+1=>by
  have:=tZ q n;unfold pL;rw[Nat.pow_succ];split<;>omega
theorem Eh(q:Nat->Bool)(c:Nat):∀n,(pL q n).testBit c=(decide (c<n)&&q c)
 |0=>by simp[pL]
 |n+1=>by
  have b:=tZ q n;have d:=Eh q c n;unfold pL;by_cases a:q n=true
  .rw[if_pos a,Nat.add_comm]
   rcases Nat.lt_trichotomy c n with h|h|h
   .rw[Nat.testBit_two_pow_add_gt h,d,decide_eq_true h,decide_eq_true a4]
   .subst h
    rw[Nat.testBit_two_pow_add_eq,fU b,decide_eq_true a4,a];rfl
   .have f:2^n+pL q n<2^c:=aA (by rw[Nat.pow_succ];omega:2^n+pL q n<2^(n+1)) (j1 a4 h)
    rw[fU f,decide_eq_false a4];rfl
  .rw[if_neg a,fV,d]
   by_cases h:c<n
   .rw[decide_eq_true h,decide_eq_true a4]
   .by_cases e:c=n
    .subst e;have:q c=false:=by simpa using a
     rw[this];simp
    .rw[decide_eq_false h,decide_eq_false a4]
theorem Ll{q:Nat->Bool}(hd:d<4294967296)(h:∀c,c<32->d.testBit c=q c):d=pL q 32:=by
 refine Nat.eq_of_testBit_eq λc=>?_
 rw[Eh];by_cases hc:c<32
 .rw[h c hc,decide_eq_true hc];rfl
 .rw[decide_eq_false hc,fU (aA hd (j1 (n:=2) a4 (show 32<=c by omega)))];rfl
def tF(l:bY):Option Pr:=match l with| [p]=>some p|_=>none
def iZ(l:bY):Option bY:=if 2<=l.length then some l else none
def gF(x:Hs)(lev:Nat)(l:bY):bY:=fm (λc=>tF (part x lev c l)) 32
def mr(x:Hs)(lev:Nat)(l:bY):List bY:=fm (λc=>iZ (part x lev c l)) 32
def kW(x:Hs):Nat->bY->c6
 |0,l=>1::(qu l.length 2++nZ l)
 |m+1,l=>0::(qu (pL (λc=>(tF (part x (12-m) c l)).isSome) 32) 4++(qu (pL (λc=>(iZ (part x (12-m) c l)).isSome) 32) 4++(nZ (gF x (12-m) l)++(mr x (12-m) l).flatMap (kW x m))))
theorem G7{s:Slots}{c:Nat}(t:SlotIs W x h m s c l):s.p c=tF l/\(s.k c).isSome=(iZ l).isSome:=by
 rcases t with⟨rfl,d,e⟩|⟨p,rfl,d,e⟩|⟨f,d,g,e,_⟩
 .rw[d,e];exact⟨rfl,rfl⟩
 .rw[d,e];exact⟨rfl,rfl⟩
 .rw[d,e]
  refine⟨?_,by simp[iZ,f]⟩
  match l,f with
  |a::b::l,_=>rfl
def KidsAt(W:eh)(x:Hs)(h:ad)(m:Nat):List aT->List bY->Prop
 | [],[]=>True
 |k::ks,l::ls=>(∃kb,k=some ⟨kb,0,none⟩/\TrieAt W x h m kb l)/\KidsAt W x h m ks ls
 |_,_=>False
theorem KidsAt.app:∀{ks ks':List aT} {ls ls':List bY},KidsAt W x h m ks ls->KidsAt W x h m ks' ls'->KidsAt W x h m (ks++ks') (ls++ls')
 | [],_,[],_,_,q=>q
 |_::_,_,_::_,_,q,q'=>⟨q.1,KidsAt.app q.2 q'⟩
 | [],_,_::_,_,q,_=>q.elim
 |_::_,_,[],_,q,_=>q.elim
theorem mu{β:Type}(g:Nat->Option β)(n:Nat):fm g (n+1)=fm g n++(g n).toList:=by
 unfold fm;rw[jK,List.filterMap_append];cases h:g n<;>simp[h]
theorem QG{W:eh}{x:Hs}{h:ad}{m lev:Nat}{s:Slots}{l:bY}:∀n,(∀c,c<n->SlotIs W x h m s c (part x lev c l))->KidsAt W x h m (fm s.k n) (fm (λc=>iZ (part x lev c l)) n)
 |0,_=>trivial
 |n+1,hs=>by
  rw[mu,mu];refine KidsAt.app (QG n λc hc=>hs c a4) ?_
  rcases hs n a4 with⟨b,_,a⟩|⟨p,b,_,a⟩|⟨b,_,d,a,e⟩
  .rw[a,b];exact trivial
  .rw[a,b];exact trivial
  .rw[a]
   have:iZ (part x lev n l)=some (part x lev n l):=by unfold iZ;rw[if_pos b]
   simp only[this];exact⟨⟨d,rfl,e⟩,trivial⟩
theorem Gl{s:Slots}(a:∀c,c<32->SlotIs W x h m s c (part x lev c l)):fm s.p 32=gF x lev l:=
 aa7 _ λc hc=>(G7 (a c (List.mem_range.1 hc))).1
theorem wT(x:Hs)(lev:Nat)(l:bY):∀n,(((fq n).map λc=>(part x lev c l).length).sum)=(l.filter λp=>decide (ck x lev p.1<n)).length
 |0=>by
  have:(l.filter λp=>decide (ck x lev p.1<0))= []:=lw.2 λp _=>a7
  rw[this];rfl
 |n+1=>by
  rw[jK,cF,oN,wT x lev l n];simp only[ce,fj,wE,List.sum_nil,fV];unfold part;clear wT;induction l with
  |nil=>rfl
  |cons p l ih=>
   simp only[aZ,decide_eq_true_iff];split<;>split<;>split<;>first|omega|(simp only[ar];omega)
theorem zK(x:Hs)(lev:Nat)(l:bY):(gF x lev l).length+(mr x lev l).flatten.length<=l.length:=by
 have h:=wT x lev l 32;have d:(l.filter λp=>decide (ck x lev p.1<32)).length<=l.length:=bP ..
 have:∀n,(fm (λc=>tF (part x lev c l)) n).length+(fm (λc=>iZ (part x lev c l)) n).flatten.length<=((fq n).map λc=>(part x lev c l).length).sum:=by
  intro n;induction n with
  |zero=>simp[fm]
  |succ n ih=>
   rw[mu,mu,jK,cF,oN];simp only[ae,List.flatten_append,ce,fj,wE,List.sum_nil,fV];generalize part x lev n l=q;have:(tF q).toList.length+(iZ q).toList.flatten.length<=q.length:=by
    match q with
    | []=>simp[tF,iZ]
    | [a]=>simp[tF,iZ]
    |a::b::q=>simp[tF,iZ]
   omega
 have:=this 32;unfold gF mr;omega
theorem tA(h:p∈gF x lev l):p∈l:=by
 unfold gF fm at h;obtain⟨c,_,hc⟩:=lu.1 h;unfold tF at hc;split at hc
 .rename_i q hq
  cases hc;have:p∈part x lev c l:=by rw[hq];exact av.2 rfl
  exact(lL.1 this).1
 .cases hc
theorem qs{L:bY}(h:L∈mr x lev l):2<=L.length/\∃c,L=part x lev c l:=by
 unfold mr fm at h;obtain⟨c,_,hc⟩:=lu.1 h;unfold iZ at hc;split at hc
 .cases hc;exact⟨by assumption,c,rfl⟩
 .cases hc
theorem Fit.part{x:Hs}{lev c:Nat}{l:bY}(h:Fit l):Fit (part x lev c l):=λp a=>h p (lL.1 a).1
theorem L3{B:Nat}{f:bY->c6}:∀{ls:List bY},(∀L∈ls,2<=L.length/\(f L).length<=9+L.length*B)->(ls.flatMap f).length<=ls.flatten.length*(B+9)
 | [],_=>a7
 |L::ls,h=>by
  have a:=h L (al ..);have b:=L3 (ls:=ls) λM hM=>h M (ay _ hM)
  rw[aN,ae,List.flatten_cons,ae,nf];have:L.length*(B+9)=L.length*B+L.length*9:=Nat.mul_add ..;omega
theorem tG{x:Hs}:∀(m:Nat) {l:bY},Fit l->(kW x m l).length<=9+l.length*(20004+9*(m+1))
 |0,l,h=>by
  have:=tM h;unfold kW;rw[ar,ae,ft];have:l.length*20004<=l.length*(20004+9*(0+1)):=ge _ a4;omega
 |m+1,l,h=>by
  have n:=tM (l:=gF x (12-m) l) λp d=>h p (tA d)
  have j:=L3 (f:=kW x m) (ls:=mr x (12-m) l) (B:=20004+9*(m+1)) λL e=>by
   obtain⟨b,c,rfl⟩:=qs e;exact⟨b,tG m h.part⟩
  have a:=zK x (12-m) l;unfold kW;rw[ar,ae,ae,ae,ft,ft];have k:(gF x (12-m) l).length*20004<=(gF x (12-m) l).length*(20004+9*(m+1+1)):=ge _ a4;have i:((gF x (12-m) l).length+(mr x (12-m) l).flatten.length)*(20004+9*(m+1+1))<=l.length*(20004+9*(m+1+1)):=db _ a;rw[nf]at i
  have g:20004+9*(m+1)+9=20004+9*(m+1+1):=a4
  rw[g]at j;omega
theorem Qu{sk:f9}{a:Bool}(hb:h[b]? =some (.cells (eB d n sp sk a ow) 298 (0,0))) (e:sp.len+sk.len<=1000000000) {K:Int->eu} (c:K ((sp.len+sk.len:Nat):Int) h):fK 137 [gV b] K h:=by
 refine yq _ ?_;dsimp only[r8,cj,cL,yG];refine ag.2 ⟨_,rfl,sp,dU (i:=2) hb,_,rfl,sk,dU (i:=3) hb,?_⟩;rw[dw a4];exact_mod_cast c
def Bes(M:eh)(h a:ad)(b:Nat):Prop:=M b/\(b<h.size\/a.size<=b)
theorem Bes.own{f:α->c5}{a:ad}{xs:List α}(b:OwnS f sz t M h s xs)(c:Upd No h a):OwnS f sz t (Bes M h a) a s xs:=
 (b.within.upd c λ_ _ h=>h).more λ_ hb=>⟨hb.1,.inl hb.2⟩
theorem Bes.sl{f:α->c5}{a:ad}{xs:List α}(c:OwnS f sz t (λx=>h.size<=x) a s xs):Sl f sz (Bes M h a) a s xs:=
 c.sl λb hb d hx=>by rcases hx.2 with h|h<;>omega
theorem Bes.hM{M:eh}{h a:ad}(hM:∀b,h.size<=b->M b)(c:Upd No h a):∀b,a.size<=b->Bes M h a b:=λb hb=>⟨hM b (aQ c.size hb),.inr hb⟩
theorem Vp:∀(m:Nat),m<=13->∀{b:Nat} {l:bY} {V h:ad} {M:eh} {s:f9} {xs:c6},TrieAt W x V m b l->Upd No V h->(∀y,M y->V.size<=y)->OwnS vo 1 5 M h s xs->(∀y,h.size<=y->M y)->Fit l->l.length<=60000->
  xs.length+(9+l.length*(20004+9*(m+1)))<=140737488355328->∀{K:f9->eu},(∀s' h',OwnS vo 1 5 M h' s' (xs++kW x m l)->Upd M h h'->K s' h')->
  dS 86 [.slice s.a s.len s.cap,gV b,.int .i64 ((13-m:Nat):Int)] K h:=by
 intro m;induction m with
 |zero=>
  intro _ b l V h M s xs t hu0 Z ho hM hf hn hx K hk;refine Fe s (some ⟨b,0,none⟩) ((13-0:Nat):Int) ?_;dsimp only[zB,UR,Tf,XI,rW,cB,jz,fE];have st:∀{h'},Upd M h h'->Upd No V h':=λk=>hu0.trans k λy o=>.inr (Z y o)
  have bk:∀{h'},Upd M h h'->BuckAt W h' b l:=λk=>BuckAt.upd t (st k) λ_ h=>h.elim
  have C:∀{h'},Upd M h h'->∀y,h'.size<=y->M y:=λk y o=>hM y (aQ k.size o)
  obtain⟨sp,sk,ow,hb,_⟩:=(bk (eQ M h)).ex;refine eT hb (aw.2 (bF ?_));refine xb (b:=1) rfl ho hM a4 λs1 h1 G j=>?_
  obtain⟨sp1,sk1,ow1,Y,O,hsk1,_⟩:=(bk j).ex;have e1:=O.len;have e2:=hsk1.len;rw[bC]at e2;refine Qu Y a4 ?_;have ew:ac .u64 ((sp1.len+sk1.len:Nat):Int)=((l.length:Nat):Int):=by rw[Go.IntWalk.u64_in _ a4];omega
  rw[ew];have hl2:l.length*20004<=l.length*(20004+9*(0+1)):=ge _ a4;refine QB G (C j) (n:=l.length) (k:=2) a4 a4 (by rw[ae,aP];omega) λs2 h2 ho2 v=>?_
  have U:=j.tr v;obtain⟨sp2,sk2,ow2,hb2,X,_⟩:=(bk U).ex;refine pI hb2 X a4 λs3 E w z=>?_
  refine Ha (M:=Bes M h2 E) (W:=Bes M h2 E) (Bes.own ho2 z) (Bes.hM (C U) z) (Bes.sl w) (λ_ h _=>h) hf a4 (by rw[ae,ae,aP,ft];omega) λs4 F ho4 S=>?_
  refine hk s4 F ?_ (U.tr (z.wide.tr (S.mono λy o=>.inl o.1)))
  have:=ho4.more (M':=M) λy o=>o.1
  rw[kW,List.append_cons,<-ao];exact this
 |succ m ih=>
  intro hm b l V h M s xs t hu0 Z ho hM hf hn hx K hk;refine Fe s (some ⟨b,0,none⟩) ((13-(m+1):Nat):Int) ?_;dsimp only[zB,UR,Tf,XI,rW,cB,jz,fE];have st:∀{h'},Upd M h h'->Upd No V h':=λk=>hu0.trans k λy o=>.inr (Z y o)
  have C:∀{h'},Upd M h h'->∀y,h'.size<=y->M y:=λk y o=>hM y (aQ k.size o)
  obtain⟨sl,nd,hs0⟩:=t;have hs:∀c,c<32->SlotIs W x V m sl c (part x (12-m) c l):=hs0;have hd:∀{h'},Upd M h h'->∃d n sp sk ow,h'[b]? =some (.cells (eB d n sp sk false ow) 298 (0,0))/\d=pL (λc=>(tF (part x (12-m) c l)).isSome) 32/\n=pL (λc=>(iZ (part x (12-m) c l)).isSome) 32/\Sl dZ 2 W h' sp (gF x (12-m) l)/\Sl rh 1 W h' sk (fm sl.k 32):=λ{h'} k=>by
   obtain⟨d,n,sp,sk,ow,hb,bits,E,F,_⟩:=(nd.upd (st k) λ_ h=>h.elim).ex
   refine⟨d,n,sp,sk,ow,hb,Ll bits.d32 λc hc=>?_,Ll bits.n32 λc hc=>?_,?_,F⟩
   .rw[bits.dp c hc,(G7 (hs c hc)).1]
   .rw[bits.nk c hc,(G7 (hs c hc)).2]
   .rw[<-Gl hs];exact E
  have hka:KidsAt W x V m (fm sl.k 32) (mr x (12-m) l):=QG 32 hs;have u:=tG (x:=x) (m+1) hf;have hlen2:=u;have hml:∀L∈mr x (12-m) l,Fit L/\L.length<=60000:=λL hL=>by
   obtain⟨_,c,rfl⟩:=qs hL;exact⟨hf.part,aQ lJ hn⟩
  have hsf:Fit (gF x (12-m) l):=λp hp=>hf p (tA hp)
  have hsl:=zK x (12-m) l;unfold kW at hk u;have Q:∀q:Nat->Bool,pL q 32<4294967296:=λq=>tZ q 32
  have hd32:=Q λc=>(tF (part x (12-m) c l)).isSome
  have hn32:=Q λc=>(iZ (part x (12-m) c l)).isSome
  generalize pL (λc=>(tF (part x (12-m) c l)).isSome) 32=D at hk hd u hd32
  generalize pL (λc=>(iZ (part x (12-m) c l)).isSome) 32=N at hk hd u hn32
  have hS:(gF x (12-m) l).length<=60000:=a4
  have hSb:(gF x (12-m) l).length*20004<=l.length*(20004+9*(m+1+1)):=Nat.mul_le_mul a4 a4;have hML:∀L∈mr x (12-m) l,2<=L.length/\(kW x m L).length<=9+L.length*(20004+9*(m+1)):=λL hL=>by
   obtain⟨E,c,rfl⟩:=qs hL;exact⟨E,tG m hf.part⟩
  have hbud:9+(gF x (12-m) l).length*20004+(mr x (12-m) l).flatten.length*(20004+9*(m+1)+9)<=9+l.length*(20004+9*(m+1+1)):=by
   have h5:(gF x (12-m) l).length*20004<=(gF x (12-m) l).length*(20004+9*(m+1+1)):=ge _ a4;have h6:((gF x (12-m) l).length+(mr x (12-m) l).flatten.length)*(20004+9*(m+1+1))<=l.length*(20004+9*(m+1+1)):=db _ hsl;rw[nf]at h6;have h7:20004+9*(m+1)+9=20004+9*(m+1+1):=a4
   rw[h7];omega
  have hps:=tM hsf;generalize gF x (12-m) l=So at hk hd hsf hS hSb hbud u hps;generalize mr x (12-m) l=Ma at hk hka hml hML hbud u;obtain⟨d,n,sp,sk,ow,hb,_⟩:=hd (eQ M h);refine eT hb (ag.2 (eM (λs' h'=>OwnS vo 1 5 M h' s' (xs++(0::(qu D 4++qu N 4)))/\Upd M h h') (λR hR=>bF ?_) ?_))
  .refine xb (b:=0) rfl ho hM a4 λs1 h1 G j=>?_
   obtain⟨d1,n1,sp1,sk1,ow1,Y,rfl,rfl,_⟩:=hd j;refine MP Y ?_;rw[Go.IntWalk.u64_in _ a4];refine QB G (C j) (n:=d1) (k:=4) a4 a4 (by rw[ae,aP];omega) λs2 h2 ho2 v=>?_
   obtain⟨d2,n2,sp2,sk2,ow2,hb2,rfl,rfl,_⟩:=hd (j.tr v);refine Cm hb2 ?_;rw[Go.IntWalk.u64_in _ a4];refine QB ho2 (C (j.tr v)) (n:=n2) (k:=4) a4 a4 (by rw[ae,ae,aP,ft];omega) λs3 E w z=>?_
   refine hR _ _ ⟨?_,(j.tr v).tr z⟩;rw[List.append_cons,<-ao];exact w
  .rintro s' h1 ⟨G,j⟩
   obtain⟨d1,n1,sp1,sk1,ow1,Y,_,_,O,_⟩:=hd j;refine pI Y O a4 λs2 h2 ho2 v=>?_
   refine Ha (M:=Bes M h1 h2) (W:=Bes M h1 h2) (Bes.own G v) (Bes.hM (C j) v) (Bes.sl ho2) (λ_ h _=>h) hsf a4 (by rw[ae,ar,ae,ft,ft];omega) λs3 E w z=>?_
   have w:=w.more (M':=M) λy o=>o.1
   have J:Upd M h E:=j.tr (v.wide.tr (z.mono λy o=>.inl o.1))
   have e13:(((13-(m+1):Nat):Int)==(13:Int))=false:=by rw[beq_eq_false_iff_ne];omega
   rw[e13];refine ag.2 ?_;obtain⟨d3,n3,sp3,sk3,ow3,hb3,_,_,_,hsk3⟩:=hd J;have hk32:=y9 (g:=sl.k);refine SK hb3 hsk3 a4 λs4 F ho4 S=>?_
   have T:Sl rh 1 (Bes M E F) F s4 (fm sl.k 32):=Bes.sl ho4;have hlk:=T.len;have ew:ac .i64 (((13-(m+1):Nat):Int)+1)=((13-m:Nat):Int):=by rw[dw a4];omega
   rw[ew];have hMb:=Bes.hM (C J) S;have hob:=Bes.own w S;have hu04:Upd M h F:=J.tr S.wide;have hMM:∀y,Bes M E F y->M y:=λy o=>o.1
   have st4:∀{h'},Upd (Bes M E F) F h'->Upd M h h':=λk=>hu04.tr (k.mono λy o=>.inl o.1)
   generalize Bes M E F=B at T hMb hob hMM st4;have hkl:∀{ks:List aT} {ls:List bY},KidsAt W x V m ks ls->ks.length=ls.length/\∀i (hi:i<ls.length),∃kb,ks[i]? =some (some ⟨kb,0,none⟩)/\TrieAt W x V m kb ls[i]:=by
    intro ks;induction ks with
    |nil=>intro ls;cases ls with
     |nil=>intro _;exact⟨rfl,λi hi=>absurd hi (oM _)⟩
     |cons a ls=>intro h;exact h.elim
    |cons k ks ihk=>intro ls;cases ls with
     |nil=>intro h;exact h.elim
     |cons a ls=>
      rintro⟨⟨kb,rfl,tk⟩,h⟩;obtain⟨e,hr⟩:=ihk h;refine⟨by simp[e],λi hi=>?_⟩
      cases i with
      |zero=>exact⟨kb,rfl,tk⟩
      |succ i=>simp only[List.getElem?_cons_succ,List.getElem_cons_succ];exact hr i (by simpa using hi)
   obtain⟨hkl,hkt⟩:=hkl hka;have hbase:(xs++(0::(qu D 4++qu N 4))++nZ So).length<=xs.length+(9+So.length*20004):=by
    rw[ae,ae,ar,ae,ft,ft];omega
   refine eF (λ(i:Nat) (t:f9×Int) h'=>t.2=(i:Int)/\i<=Ma.length/\OwnS vo 1 5 B h' t.1 (xs++(0::(qu D 4++qu N 4))++nZ So++(Ma.take i).flatMap (kW x m))/\Upd B F h') (λi=>Ma.length-i) 0 ⟨rfl,aK _,by simpa using hob,eQ _ _⟩ ?_
   rintro I i ⟨so,ti⟩ h' ⟨e1,hi,ho',P⟩ hI;(try simp only at e1 ho')
   subst e1;refine aq (λA=>?_) λhge=>?_
   .have A:i<Ma.length:=by have:(i:Int)<(s4.len:Int):=A;omega
    obtain⟨kb,hk1,tk⟩:=hkt i A;obtain⟨a,ha,_,hv⟩:=(T.upd P λy o=>.inl o).at0 hk1
    refine⟨⟨by(try simp only);omega,by(try simp only);omega⟩,a,ha,some ⟨kb,0,none⟩,hv,?_⟩
    have H:Ma[i]∈Ma:=aG A;have htl:=L3 (f:=kW x m) (ls:=Ma.take i) (B:=20004+9*(m+1)) λL hL=>hML L (ia hL)
    have hsp:(Ma.take i).flatten.length+Ma[i].length<=Ma.flatten.length:=by
     have e:Ma=Ma.take i++Ma[i]::Ma.drop (i+1):=by rw[List.getElem_cons_drop,bK]
     have:=congrArg (λL=>(List.flatten L).length) e
     simp only[List.flatten_append,List.flatten_cons,ae]at this;omega
    have X:=db (20004+9*(m+1)+9) hsp;rw[nf]at X;have h2l:=(hML _ H).1;have hone:9+Ma[i].length*(20004+9*(m+1))<=Ma[i].length*(20004+9*(m+1)+9):=by rw[Nat.mul_add (Ma[i].length) (20004+9*(m+1)) 9];omega
    refine ih a4 tk (hu0.trans (st4 P) λy o=>.inr (Z y o)) (λy o=>Z y (hMM y o)) ho' (λy o=>hMb y (aQ P.size o)) (hml _ H).1 (hml _ H).2 (by rw[ae];omega) λs5 h5 ho5 hu5=>?_
    rw[cf A a4];refine hI (i+1) _ _ ⟨rfl,A,?_,P.tr hu5⟩ a4;rw[ax A,bU,aN,jf,aX,<-ao];exact ho5
   .have hil:i=Ma.length:=by have:¬(i:Int)<(s4.len:Int):=hge;omega
    subst hil;rw[bZ]at ho';refine hk _ _ ?_ (st4 P);have:=ho'.more hMM;simp only[ao,cG]at this⊢;exact this
theorem XV(t:TrieAt W x h 13 b l)(d:Fit l)(a:l.length<=60000)(c:∀s' h',OwnS vo 1 5 (λy=>h.size<=y) h' s' (kW x 13 l)->Upd No h h'->K s' h'):dS 41 [gV b] K h:=by
 refine Rp _ ?_;unfold IL;refine ag.2 ?_;have hb:l.length*(20004+9*(13+1))<=60000*(20004+9*(13+1)):=db _ a;exact Vp (x:=x) 13 (aj _) (s:=⟨none,0,0⟩) (xs:= []) (M:=λy=>h.size<=y) t (eQ _ _) (λ_ h=>h) (OwnS.nil Ef) (λ_ h=>h) d a (by rw[bC];omega) λs' h' e f=>c s' h' e (f.mono λy g=>.inr g)
theorem Oy:∀{a b:Nat} (k:Nat),qu a k=qu b k->a%2^(8*k)=b%2^(8*k)
 |_,_,0,_=>by simp[Nat.mod_one]
 |a,b,k+1,h=>by
  rw[zW,zW]at h;obtain⟨f,g⟩:=si h (by rw[ft,ft]);have d:=Oy k f;have c:=congrArg UInt8.toNat (gi.inj g).1;rw[UInt8.toNat_ofNat',UInt8.toNat_ofNat',eR,eR]at c;have e:2^(8*(k+1))=2^(8*k)*2^8:=by rw[Nat.mul_add,Nat.pow_add]
  rw[e,Nat.mod_mul,Nat.mod_mul,d,c]
theorem wW{a k:Nat}{c:c6}(e:a<2^(8*k))(hb:b<2^(8*k))(h:qu a k++r=qu b k++c):a=b/\r=c:=by
 obtain⟨d,f⟩:=si h (by rw[ft,ft]);have:=Oy k d;rw[eN e,eN hb]at this;exact⟨this,f⟩
theorem zI{a b:dO}{c:c6}(i:a.size<=10000)(hb:b.size<=10000)(h:yj a++r=yj b++c):a=b/\r=c:=by
 unfold yj at h;rw[ao,ao]at h;obtain⟨f,g⟩:=wW (k:=2) a4 a4 h;obtain⟨e,d⟩:=si g (by simpa using f);refine⟨?_,d⟩;cases a;cases b;exact congrArg lz (jg.1 e)
theorem Bj:∀{l l':bY} {r r':c6},Fit l->Fit l'->l.length=l'.length->nZ l++r=nZ l'++r'->l=l'/\r=r'
 | [],[],_,_,_,_,_,h=>⟨rfl,h⟩
 | [],_::_,_,_,_,_,e,_=>by simp at e
 |_::_,[],_,_,_,_,e,_=>by simp at e
 |p::l,q::l',r,r',hf,hf',e,h=>by
  unfold nZ at h;rw[aN,aN,Ht,Ht]at h;simp only[ao]at h;have b:=hf p (al ..);have c:=hf' q (al ..);obtain⟨g,h⟩:=zI b.1 c.1 h;obtain⟨f,h⟩:=zI b.2 c.2 h;obtain⟨d,h⟩:=Bj (l:=l) (l':=l') (λz a=>hf z (ay _ a)) (λz a=>hf' z (ay _ a)) (by simpa using e) h
  exact⟨by rw[d,pW g f],h⟩
theorem GB{β γ:Type}{g:Nat->Option β}{a:Nat->Option γ}:∀n,(∀c,c<n->(g c).isSome=(a c).isSome)->(fm g n).length=(fm a n).length
 |0,_=>rfl
 |n+1,h=>by
  rw[mu,mu,ae,ae,GB n λc hc=>h c a4]
  have:=h n a4;cases h1:g n<;>cases h2:a n<;>rw[h1,h2]at this<;>first|rfl|cases this
theorem HT{β:Type}{g a:Nat->Option β}:∀n,(∀c,c<n->(g c).isSome=(a c).isSome)->fm g n=fm a n->∀c,c<n->g c=a c
 |0,_,_,c,hc=>absurd hc (oM _)
 |n+1,h,e,c,hc=>by
  rw[mu,mu]at e;obtain⟨f,b⟩:=si e (GB n λc hc=>h c a4)
  rcases cp c n with d|d
  .exact HT n (λc hc=>h c a4) f c d
  .have:c=n:=by omega
   subst this;cases h1:g c<;>cases h2:a c<;>rw[h1,h2]at b<;>simp at b⊢
   exact b
theorem wR:∀{l l':bY},bO l->bO l'->(∀p,p∈l↔p∈l')->l=l'
 | [],[],_,_,_=>rfl
 | [],q::l',_,_,h=>absurd ((h q).2 (al ..)) a7
 |p::l,[],_,_,h=>absurd ((h p).1 (al ..)) a7
 |p::l,q::l',c,a,h=>by
  have c:=aC.1 c;have a:=aC.1 a;have e:p=q:=by
   rcases au.1 ((h p).1 (al ..))with e|g
   .exact e
   .rcases au.1 ((h q).2 (al ..))with e|f
    .exact e.symm
    .exact absurd (dI (c.1 q f) (a.1 p g)) (bT _)
  subst e;rw[wR c.2 a.2 λz=>?_]
  constructor
  .intro d
   rcases au.1 ((h z).1 (ay _ d))with e|b
   .exact absurd (c.1 z d) (by rw[e];exact bT _)
   .exact b
  .intro d
   rcases au.1 ((h z).2 (ay _ d))with e|b
   .exact absurd (a.1 z d) (by rw[e];exact bT _)
   .exact b
theorem Od{l':bY}(g:bO l)(a:bO l')(h:∀c,c<32->part x lev c l=part x lev c l'):l=l':=by
 refine wR g a λp=>?_
 have e:=h (ck x lev p.1) (zk ..);have d:=lL (x:=x) (lev:=lev) (c:=ck x lev p.1) (l:=l) (p:=p);have f:=lL (x:=x) (lev:=lev) (c:=ck x lev p.1) (l:=l') (p:=p);rw[e]at d;constructor
 .intro b;exact(f.1 (d.2 ⟨b,rfl⟩)).1
 .intro b;exact(d.1 (f.2 ⟨b,rfl⟩)).1
theorem Tt{q q':bY}(f:tF q=tF q')(e:iZ q=iZ q'):q=q':=by
 match q,q' with
 | [],[]=>rfl
 | [a],[b]=>simp[tF]at f;rw[f]
 | [],[b]=>simp[tF]at f
 | [a],[]=>simp[tF]at f
 | [],b::c::q'=>simp[iZ]at e
 | [a],b::c::q'=>simp[iZ]at e
 |b::c::q',[]=>simp[iZ]at e
 |b::c::q',[a]=>simp[iZ]at e
 |a::b::q,c::d::q'=>simpa[iZ]using e
theorem OQ{f:bY->c6}:∀{ls ls':List bY} {r r':c6},ls.length=ls'.length->(∀L∈ls,∀L'∈ls',∀r r',f L++r=f L'++r'->L=L'/\r=r')->ls.flatMap f++r=ls'.flatMap f++r'->ls=ls'/\r=r'
 | [],[],_,_,_,_,h=>⟨rfl,h⟩
 | [],_::_,_,_,e,_,_=>by simp at e
 |_::_,[],_,_,e,_,_=>by simp at e
 |L::ls,L'::ls',r,r',e,hf,h=>by
  rw[aN,aN,ao,ao]at h;obtain⟨d,h⟩:=hf L (al ..) L' (al ..) _ _ h;obtain⟨c,h⟩:=OQ (by simpa using e) (λA a B b=>hf A (ay _ a) B (ay _ b)) h
  exact⟨by rw[d,c],h⟩
theorem G9{x:Hs}:∀(m:Nat) {l l':bY} {r a:c6},Fit l->Fit l'->l.length<=60000->l'.length<=60000->bO l->bO l'->kW x m l++r=kW x m l'++a->l=l'/\r=a
 |0,l,l',r,a,hf,hf',hn,hn',_,_,h=>by
  unfold kW at h;rw[cG,cG,ao,ao]at h;obtain⟨e,h⟩:=wW (k:=2) a4 a4 (gi.inj h).2;exact Bj hf hf' e h
 |m+1,l,l',r,a,hf,hf',hn,hn',hr,hr',h=>by
  unfold kW at h;simp only[cG,ao]at h;obtain⟨b1,h⟩:=wW (k:=4) (tZ _ 32) (tZ _ 32) (gi.inj h).2;obtain⟨b2,h⟩:=wW (k:=4) (tZ _ 32) (tZ _ 32) h;have bits:∀{q q':Nat->Bool},pL q 32=pL q' 32->∀c,c<32->q c=q' c:=λ{q q'} e c hc=>by
   have:=congrArg (λn=>n.testBit c) e
   simp only[Eh,decide_eq_true hc,Bool.true_and]at this;exact this
  have b1:=bits b1;have b2:=bits b2;obtain⟨o,h⟩:=Bj (λp b=>hf p (tA b)) (λp b=>hf' p (tA b)) (GB 32 b1) h
  obtain⟨g,h⟩:=OQ (GB 32 b2) (λL f L' d r a e=>by
   obtain⟨_,c,rfl⟩:=qs f
   obtain⟨_,c',rfl⟩:=qs d
   exact G9 m hf.part hf'.part (aQ lJ hn) (aQ lJ hn') (is hr) (is hr') e) h
  have j:=HT 32 b1 o;have i:=HT 32 b2 g;exact⟨Od hr hr' λc hc=>Tt (j c hc) (i c hc),h⟩
def DB(lab:dO)(has:Bool)(val:dO)(s:f9)(ow:aT):Array Value:= #[.string lab,.bool has,.string val,sv s,.pointer ow]
theorem vw(h:val=w.getD ⟨#[]⟩):∀v,w=some v->val=v:=λv e=>by rw[h,e];rfl
def RxF(W:eh)(h:ad):Fo->List aT->Prop
 | .nil,ks=>ks= []
 | .cons lab w kids rest,ks=>∃b sl val s ow ks1 ks',ks=some ⟨b,0,none⟩::ks'/\sl.data.toList=lab/\h[b]? =some (.cells (DB sl w.isSome val s ow) 175 (0,0))/\val=w.getD ⟨#[]⟩/\Sl qo 1 W h s ks1/\(s.len<=s.cap/\¬W b)/\RxF W h kids ks1/\RxF W h rest ks'
def RxN(W:eh)(h:ad)(b:Nat)(sl:dO)(w:Option dO)(F:Fo):Prop:=∃val s ow ks,h[b]? =some (.cells (DB sl w.isSome val s ow) 175 (0,0))/\val=w.getD ⟨#[]⟩/\Sl qo 1 W h s ks/\(s.len<=s.cap/\¬W b)/\RxF W h F ks
def Kid(W:eh)(h:ad)(k:aT)(n:Bn):Prop:=∃b sl,k=some ⟨b,0,none⟩/\sl.data.toList=n.1/\RxN W h b sl n.2.1 n.2.2
def RxL(W:eh)(h:ad)(ks:List aT)(L:List Bn):Prop:=ks.length=L.length/\∀p∈ks.zip L,Kid W h p.1 p.2
theorem jP{W:eh}{h:ad}:∀{F:Fo} {ks:List aT},RxF W h F ks↔RxL W h ks F.toL
 | .nil,ks=>by
  unfold RxF RxL;simp[Fo.toL]
 | .cons lab w kids rest,ks=>by
  unfold RxF RxL;rw[Fo.toL_cons];constructor
  .rintro⟨b,sl,val,s,ow,c,d,rfl,o,m,i,g,f,j,t⟩
   obtain⟨v,u⟩:=jP.1 t;refine⟨by simp[v],λp a=>?_⟩
   rw[List.zip_cons_cons]at a;rcases au.1 a with rfl|a
   .exact⟨b,sl,rfl,o,val,s,ow,c,m,i,g,f,j⟩
   .exact u p a
  .cases ks with
   |nil=>rintro⟨e,_⟩;simp at e
   |cons k d=>
    rintro⟨e,a⟩;rw[List.zip_cons_cons]at a;obtain⟨b,sl,q,o,val,s,ow,c,m,i,g,f,j⟩:=a _ (al ..);refine⟨b,sl,val,s,ow,c,d,by rw[<-q],o,m,i,g,f,j,jP.2 ⟨by simpa using e,λp n=>a p (ay _ n)⟩⟩
theorem RxF.upd0(k:Upd No h h'):∀{F:Fo} {ks:List aT},RxF W h F ks->RxF W h' F ks
 | .nil,_,r=>r
 | .cons _ _ _ _,_,⟨b,sl,val,s,ow,ks1,ks',e0,e1,e2,e3,e4,e5,e6,e7⟩=>⟨b,sl,val,s,ow,ks1,ks',e0,e1,k.get0 e2,e3,e4.upd k λ_ h=>h.elim,e5,RxF.upd0 k e6,RxF.upd0 k e7⟩
theorem RxN.upd0(k:Upd No h h'){sl:dO}:RxN W h b sl w F->RxN W h' b sl w F
 |⟨val,s,ow,ks,e2,e3,e4,e5,e6⟩=>⟨val,s,ow,ks,k.get0 e2,e3,e4.upd k λ_ h=>h.elim,e5,RxF.upd0 k e6⟩
theorem Kid.upd0(k:Upd No h h'){a:aT}{n:Bn}:Kid W h a n->Kid W h' a n
 |⟨b,sl,e1,e2,e3⟩=>⟨b,sl,e1,e2,e3.upd0 k⟩
theorem RxF.less(hm:∀b,W' b->W b\/h.size<=b):∀{F:Fo} {ks:List aT},RxF W h F ks->RxF W' h F ks
 | .nil,_,r=>r
 | .cons _ _ _ _,_,⟨b,sl,val,s,ow,ks1,ks',e0,e1,e2,e3,e4,e5,e6,e7⟩=>⟨b,sl,val,s,ow,ks1,ks',e0,e1,e2,e3,e4.less hm,⟨e5.1,λhx=>(hm _ hx).elim e5.2 λh=>by have:=bw e2;omega⟩,RxF.less hm e6,RxF.less hm e7⟩
theorem RxN.less(hm:∀b,W' b->W b\/h.size<=b){sl:dO}:RxN W h b sl w F->RxN W' h b sl w F
 |⟨val,s,ow,ks,e2,e3,e4,e5,e6⟩=>⟨val,s,ow,ks,e2,e3,e4.less hm,⟨e5.1,λhx=>(hm _ hx).elim e5.2 λh=>by have:=bw e2;omega⟩,RxF.less hm e6⟩
theorem RxF.updM(k:Upd M h h')(hm:∀b,M b->W b\/h.size<=b):∀{F:Fo} {ks:List aT},RxF W h F ks->RxF W h' F ks
 | .nil,_,r=>r
 | .cons _ _ _ _,_,⟨b,sl,val,s,ow,ks1,ks',e0,e1,e2,e3,e4,e5,e6,e7⟩=>⟨b,sl,val,s,ow,ks1,ks',e0,e1,k.get e2 (λhx=>(hm _ hx).elim e5.2 λh=>by have:=bw e2;omega),e3,e4.upd k hm,e5,RxF.updM k hm e6,RxF.updM k hm e7⟩
theorem RxN.updM(k:Upd M h h')(hm:∀b,M b->W b\/h.size<=b){sl:dO}:RxN W h b sl w F->RxN W h' b sl w F
 |⟨val,s,ow,ks,e2,e3,e4,e5,e6⟩=>⟨val,s,ow,ks,k.get e2 (λhx=>(hm _ hx).elim e5.2 λh=>by have:=bw e2;omega),e3,e4.upd k hm,e5,RxF.updM k hm e6⟩
theorem RxL.upd0(k:Upd No h h')(r:RxL W h ks L):RxL W h' ks L:=⟨r.1,λp a=>(r.2 p a).upd0 k⟩
theorem RxL.app{b:List aT}{L':List Bn}(r:RxL W h ks L)(c:RxL W h b L'):RxL W h (ks++b) (L++L'):=by
 refine⟨by rw[ae,ae,r.1,c.1],λp a=>?_⟩
 rw[List.zip_append r.1]at a;rcases aL.1 a with a|a
 .exact r.2 p a
 .exact c.2 p a
theorem RxL.one{n:Bn}(c:Kid W h k n):RxL W h [k] [n]:=⟨rfl,λp a=>by rw[List.zip_cons_cons,List.zip_nil_left]at a;rw[List.mem_singleton.1 a];exact c⟩
theorem RxL.take(r:RxL W h ks L)(i:Nat):RxL W h (ks.take i) (L.take i):=by
 refine⟨by rw[aY,aY,r.1],λp a=>r.2 p ?_⟩
 have:(ks.take i).zip (L.take i)=(ks.zip L).take i:=by rw[oe,oe,List.take_zipWith]
 rw[this]at a;exact ia a
theorem RxL.drop(r:RxL W h ks L)(i:Nat):RxL W h (ks.drop i) (L.drop i):=by
 refine⟨by rw[bo,bo,r.1],λp a=>r.2 p ?_⟩
 have:(ks.drop i).zip (L.drop i)=(ks.zip L).drop i:=by rw[oe,oe,List.drop_zipWith]
 rw[this]at a;exact List.mem_of_mem_drop a
theorem RxL.ins(r:RxL W h ks L)(i:Nat){n:Bn}(c:Kid W h k n):RxL W h (ks.take i++k::ks.drop i) (L.take i++n::L.drop i):=by
 have:=(r.take i).app ((RxL.one c).app (r.drop i));exact this
theorem RxL.set(r:RxL W h ks L)(hi:i<L.length){n:Bn}(c:Kid W h k n):RxL W h (ks.set i k) (L.set i n):=by
 have:=(r.take i).app ((RxL.one c).app (r.drop (i+1)));rw[dt,dt,if_pos (by rw[r.1];exact hi),if_pos hi];exact this
theorem RxL.at{W:eh}{h:ad}{ks:List aT}{L:List Bn}(r:RxL W h ks L){i:Nat}(hi:i<L.length):∃b sl,ks[i]? =some (some ⟨b,0,none⟩)/\sl.data.toList=L[i].1/\RxN W h b sl L[i].2.1 L[i].2.2:=by
 have a:i<ks.length:=by rw[r.1];exact hi
 have d:i<(ks.zip L).length:=by rw[List.length_zip];omega
 have:=r.2 _ (aG d);rw[List.getElem_zip]at this;obtain⟨b,sl,f,e,c⟩:=this;exact⟨b,sl,by rw[List.getElem?_eq_getElem a];exact congrArg some f,e,c⟩
theorem Ko:∀{L:List Bn} {c:Nat},L.Pairwise (λm n=>hd m.1<hd n.1)->(∀n∈L,c<=hd n.1)->L= []\/c+L.length<=256
 | [],_,_,_=>.inl rfl
 |n::L,c,a,hc=>by
  have a:=aC.1 a;have d:=hc n (al ..);have b:=Zd n.1;rcases Ko (c:=hd n.1+1) a.2 λm hm=>a.1 m hm with e|e
  .rw[e];right;simp only[aP];omega
  .right;rw[ar];omega
theorem jV(h:eK F):F.toL.length<=256:=by
 rcases Ko (c:=0) (dB.1 h).1 λ_ _=>aK _ with e|e
 .rw[e];simp
 .omega
theorem dd(hb:h[b]? =some (.cells c 175 (0,0))):aI h (adr ⟨b,0,none⟩ i)=c[i]?:=by rw[co,aU];exact ba hb
theorem Xr(hb:h[b]? =some (.cells c 175 (0,0))) (hi:i<c.size):Wr h (adr ⟨b,0,none⟩ i):=by rw[co,aU];exact eH hb hi
theorem Jt{c':Array Value}{v:Value}{k:eu}(hb:h[b]? =some (.cells c 175 (0,0))) (e:c.setIfInBounds i v=c') (f:∀h',h'[b]? =some (.cells c' 175 (0,0))->Upd (· =b) h h'->k h'):At (hset h (adr ⟨b,0,none⟩ i) v) k:=by
 rw[co,aU];exact xS hb λh' a d=>f h' (e▸a) d
theorem We(s:dO)(i:Nat):s[i]? =s.data.toList[i]?:=by
 rw[Array.getElem?_toList];by_cases h:i<s.size
 .rw[getElem?_pos s i h,getElem?_pos s.data i h];rfl
 .rw[getElem?_neg s i h,getElem?_neg s.data i h]
theorem D7{s:dO}(a:s.data.toList≠[]):∃c:UInt8,s[0]? =some c/\c.toNat=hd s.data.toList:=by
 rw[We];match s.data.toList,a with
 |c::l,_=>exact⟨c,rfl,rfl⟩
theorem DT{sl:dO}(r:RxN W h b sl w F)(hc:eK F){c:Nat}(hc8:c<256){K:Int×Bool->eu}
  (G:∀i ok,i<=F.toL.length->(∀j (y:j<F.toL.length),j<i->hd F.toL[j].1<c)->(∀j (y:j<F.toL.length),i<=j->c<=hd F.toL[j].1)->(ok=true↔∃hi:i<F.toL.length,hd F.toL[i].1=c)->K ((i:Int),ok) h):uP 155 [gV b,.int .u8 c] K h:=by
 refine CS _ c ?_;dsimp only[vG,lf,cj,cL];obtain⟨val,s,ow,ks,hb,_,hs,U,hF⟩:=r;refine⟨_,rfl,s,dd (i:=3) hb,?_⟩;have Q:=jP.1 hF;have d:=dB.1 hc;have hn:=jV hc;have p:=hs.len;rw[Q.1]at p;generalize hLe:F.toL=L at Q d hn p G;refine gN s c _ ?_;dsimp only[dK,tQ,Jm,rW,cB,jz,fE,Nf]
 have C:∀{i:Nat} (hi:i<L.length) {K:Int->eu},K ((hd L[i].1:Int)-(c:Int)) h->∃a,s.a=some a/\∃v,aI h (adr a (i*1))=some (.pointer v)/\HV PG (.func (.func 208) #[] #[]) [.pointer v,.int .u8 c] [.c (.int .i64)] K h:=by
  intro i hi K G;obtain⟨kb,E,P,D,N⟩:=Q.at hi;obtain⟨a,ha,_,hv⟩:=hs.at0 P;refine⟨a,ha,_,hv,HV.mk' (cZ (sI (some ⟨kb,0,none⟩) c) .nil Tryz.func208 Tryz.call208 ?_)⟩;dsimp only[sI,zn,rV,cP,cL];obtain⟨X,kss,kow,kks,J,_⟩:=N;have H:E.data.toList≠[]:=by rw[D];exact(d.2 _ (aG hi)).1
  obtain⟨u,hu,T⟩:=D7 H;refine⟨_,rfl,E,dd (i:=0) J,u,eC _,hu,?_⟩;simp only[Bd];have f:=Zd L[i].1;rw[T,D,dw (x:=(hd L[i].1:Int)) a4,dw (x:=(c:Int)) a4,dw a4];exact G
 have mono:∀i j (hi:i<L.length) (y:j<L.length),i<j->hd L[i].1<hd L[j].1:=λi j hi y e=>bQ.1 d.1 i j hi y e
 refine eF (λ(g:Nat×Nat) (t:Int×Int) h'=>t.1=(g.1:Int)/\t.2=(g.2:Int)/\g.1<=g.2/\g.2<=L.length/\h'=h/\(∀j (y:j<L.length),j<g.1->hd L[j].1<c)/\(∀j (y:j<L.length),g.2<=j->c<=hd L[j].1)) (λg=>g.2-g.1) (0,L.length)
  ⟨rfl,by(try simp only);omega,a7,a7,rfl,λj y h=>a4,λj y h=>by(try simp only at h);omega⟩ ?_
 rintro I ⟨i,j⟩ ⟨ti,tj⟩ h' ⟨e1,e2,e,k,rfl,o,n⟩ Z;(try simp only at e1 e2 e k o n)
 subst e1 e2;refine aq (λf=>?_) λR=>?_
 .have f:i<j:=by have:(i:Int)<(j:Int):=f;omega
  have em:ac .i64 (dX (ac .u64 (ac .i64 ((i:Int)+(j:Int)))) (2^(min (1:Int).toNat (ak .u64))))=(((i+j)/2:Nat):Int):=by
   have e3:(2^(min (1:Int).toNat (ak .u64)):Int)=2:=rfl;rw[e3,dw (x:=(i:Int)+(j:Int)) a4,Go.IntWalk.u64_in _ a4,Int.fdiv_eq_ediv_of_nonneg _ a4,dw a4];omega
  refine⟨a8,?_⟩;simp only[Bd];rw[em];generalize hm:(i+j)/2=m;have z:m<L.length:=a4
  refine⟨a4,?_⟩;refine C z ?_;refine aq (λY=>?_) λV=>?_
  .refine Z (m+1,j) _ _ ⟨by(try simp only);rw[dw a4];omega,rfl,by(try simp only);omega,k,rfl,λq O A=>?_,n⟩ (by(try simp only);omega)
   (try simp only at A)
   rcases cp q m with h|h
   .have:=mono q m O z h;omega
   .have:q=m:=by omega
    subst this;omega
  .refine Z (i,m) _ _ ⟨rfl,rfl,by(try simp only);omega,by(try simp only);omega,rfl,o,λq O A=>?_⟩ (by(try simp only);omega)
   (try simp only at A)
   rcases cp m q with h|h
   .have:=mono m q z O h;omega
   .have:q=m:=by omega
    subst this;omega
 .have e:i=j:=by have:¬(i:Int)<(j:Int):=R;omega
  subst e;refine aq (λf=>?_) λS=>?_
  .have B:i<L.length:=by have:(i:Int)<(s.len:Int):=f;omega
   refine⟨by(try simp only);omega,?_⟩;refine C B ?_;refine G i _ k o n ?_;rw[beq_iff_eq];exact⟨λh=>⟨B,a4⟩,λ⟨_,h⟩=>a4⟩
  .have B:i=L.length:=by have:¬(i:Int)<(s.len:Int):=S;omega
   exact G i false k o n ⟨λh=>(by cases h),λh=>(by obtain⟨h,_⟩:=h;omega)⟩
theorem NU{K:Bool->eu}(a:K false h):eI 204 [gV b,.pointer none] K h:=by
 refine BK _ none ?_;dsimp only[ur,dC,cL];exact aw.2 (y5 (ag.2 a))
abbrev Y4:c5:= [.string (⟨#[]⟩:dO),.bool false,.string (⟨#[]⟩:dO),.slice none 0 0,.pointer none]
theorem pD{sl:dO}(hb:h[b]? =some (.cells (DB sl has val s ow) 175 (0,0))) (A:Sl qo 1 W h s ks) (C:ks.length<=256) {K:aT->eu}
  (z:∀h' s',h'[h.size]? =some (.cells (DB sl has val s' none) 175 (0,0))->OwnS qo 1 48 (λx=>h.size<x/\x<h'.size) h' s' ks->Upd No h h'->K (some ⟨h.size,0,none⟩) h'):
  fx 153 [gV b,.pointer none] K h:=by
 refine Er _ none ?_;dsimp only[xt,dC,cP,nv,yD,dh,cj,Nn,aam,cL,iL,lf,zo,fL];refine NU (ag.2 ?_);refine⟨_,rfl,sl,dd (i:=0) hb,has,dd (i:=1) hb,val,dd (i:=2) hb,s,dd (i:=3) hb,ow,dd (i:=4) hb,bF ?_⟩;have k1:=fD No h Y4 175;have b1:=bV h Y4 175;simp only[cD h];generalize hnew h [.string (⟨#[]⟩:dO),.bool false,.string (⟨#[]⟩:dO),.slice none 0 0,.pointer none] 175=h1 at k1 b1
 refine cy (c:=Y4) (vs:= [.string sl,.bool has,.string val,.slice s.a s.len s.cap,.pointer ow]) b1 rfl λt b2 p=>?_
 have n:Upd No h t:=k1.trans p λx hx=>.inr (cI hx.symm)
 have v:h.size<t.size:=bw b2;have j:=n.get0 hb;refine⟨_,rfl,s,dd (i:=3) j,?_⟩;refine Lk (A.upd n λ_ h=>h.elim) a4 λg w k d=>?_
 have b3:w[h.size]? =some (.cells (DB sl has val s ow) 175 (0,0)):=d.get0 b2;refine⟨Xr (i:=3) b3 (show 3<5 by decide),Jt (i:=3) (c':=DB sl has val g ow) b3 rfl λD u m=>?_⟩
 refine⟨Xr (i:=4) u (show 4<5 by decide),Jt (i:=4) (c':=DB sl has val g none) u rfl λq y o=>?_⟩
 refine y5 (ag.2 ?_);have a:=m.tr o;have B:=a.size;have f:=(k.within.upd a λx hx e=>by have e:x=h.size:=e;have:=hx.1;omega).more (M':=λx=>h.size<x/\x<q.size) λx hx=>⟨by have:=hx.1;omega,by have:=hx.2;omega⟩
 exact z q g y f ((n.tr d).trans a λx hx=>.inr (cI hx.symm))
theorem xJ{sl nl:dO}(hb:h[b]? =some (.cells (DB sl has val s ow) 175 (0,0))) {K:aT->eu}
  (a:∀h',h'[b]? =some (.cells (DB nl has val s ow) 175 (0,0))->Upd (· =b) h h'->K (some ⟨b,0,none⟩) h'):fx 211 [gV b,.string nl] K h:=by
 refine BJ _ nl ?_;dsimp only[uq,dh,cL];exact⟨_,rfl,Xr (i:=0) hb (show 0<5 by decide),Jt (i:=0) (c':=DB nl has val s ow) hb rfl a⟩
theorem EO{sl:dO}(hb:h[b]? =some (.cells (DB sl has val s ow) 175 (0,0))) {K:aT->eu}
  (d:∀h',h'[b]? =some (.cells (DB sl true v s ow) 175 (0,0))->Upd (· =b) h h'->K (some ⟨b,0,none⟩) h'):fx 154 [gV b,.string v] K h:=by
 refine Ai _ v ?_;dsimp only[sG,dh,cL];exact⟨_,rfl,Xr (i:=1) hb (show 1<5 by decide),Jt (i:=1) (c':=DB sl true val s ow) hb rfl λf b1 c=>⟨_,rfl,Xr (i:=2) b1 (show 2<5 by decide),Jt (i:=2) (c':=DB sl true v s ow) b1 rfl λe b2 a=>d e b2 (c.tr a)⟩⟩
theorem P6{k:dO}{K:aT->eu}(i:∀h' b s,h'[b]? =some (.cells (DB k true v s none) 175 (0,0))->s.len=0->s.len<=s.cap->h.size<=b->Upd No h h'->K (some ⟨b,0,none⟩) h'):fx 157 [.pointer none,.string k,.string v] K h:=by
 refine cZ (AK none k v) .nil Tryz.func157 Tryz.call157 ?_;unfold AK yD gD Nn;have k1:=fD No h Y4 175;have b1:=bV h Y4 175;refine bF ?_;simp only[cD h];generalize hnew h [.string (⟨#[]⟩:dO),.bool false,.string (⟨#[]⟩:dO),.slice none 0 0,.pointer none] 175=h1 at k1 b1;refine pD (W:=No) (ks:= []) (sl:=⟨#[]⟩) (val:=⟨#[]⟩) (has:=false) (s:=⟨none,0,0⟩) (ow:=none) b1 (Sl.nil pE) (aK _) λo s b2 c a=>?_
 refine xJ (nl:=k) b2 λn b3 e=>EO (v:=v) b3 λg m f=>?_
 have d:=e.tr f;have z:=a.size;have j:=k1.size;refine i g h1.size s m c.len c.cap j ((k1.tr a).trans d λx hx=>.inr (by have hx:x=h1.size:=hx;omega))
theorem aaN{k:dO}(hb:h[b]? =some (.cells (DB k true v s ow) 175 (0,0))) (a:s.len=0) (hc:s.len<=s.cap) (nw:¬W b):RxN W h b k (some v) .nil:=
 ⟨v,s,ow,[],hb,rfl,⟨a,pE,λh=>absurd rfl h⟩,⟨hc,nw⟩,rfl⟩
theorem HZ(s:dO)(c:Nat):(s.extract 0 c).data.toList=s.data.toList.take c:=by
 rw[qe,Array.toList_extract,gB];simp
theorem H0(s:dO)(c:Nat):(s.extract c s.size).data.toList=s.data.toList.drop c:=by
 rw[qe,Array.toList_extract,gB,List.take_of_length_le];rw[bo];simp
theorem P5{sl:dO}(r:RxN W h b sl w F)(A:∀y,W y->y<h.size)(X:F.toL.length<=256){c:Nat}(hc:c<=sl.size){K:aT->eu}
  (Y:∀h' b',RxN W h' b' (sl.extract 0 c) none (.cons (sl.data.toList.drop c) w F .nil)->Upd No h h'->K (some ⟨b',0,none⟩) h'):fx 159 [gV b,.pointer none,.int .i64 c] K h:=by
 refine BI _ none c ?_;dsimp only[un,cP,yD,gD,dh,Nn,cL,rV];obtain⟨val,s,ow,ks,hb,hv,hs,I,N⟩:=r;have lab:∀{h'},Upd No h h'->aI h' (adr ⟨b,0,none⟩ 0)=some (.string sl):=λk=>dd (i:=0) (k.get0 hb)
 have Q:=eQ No h;refine⟨_,rfl,sl,lab Q,⟨a4,a4⟩,bF ?_⟩
 have k1:=fD No h Y4 175;have b1:=bV h Y4 175;simp only[cD h];generalize hnew h [.string (⟨#[]⟩:dO),.bool false,.string (⟨#[]⟩:dO),.slice none 0 0,.pointer none] 175=h1 at k1 b1;refine⟨lab k1,?_⟩;refine pD (W:=No) (ks:= []) (sl:=⟨#[]⟩) (val:=⟨#[]⟩) (has:=false) (s:=⟨none,0,0⟩) (ow:=none) b1 (Sl.nil pE) (aK _) λh2 s2 b2 _ z=>⟨lab (k1.tr z),?_⟩
 rw[bi];refine xJ b2 λd b3 G=>?_
 have z1:=k1.size;have a:Upd No h d:=(k1.tr z).trans G λx hx=>.inr (by have hx:x=h1.size:=hx;omega)
 refine pD (a.get0 hb) (hs.upd a λ_ h=>h.elim) (by rw[(jP.1 N).1];exact X) λh4 S J B q=>?_
 refine⟨_,rfl,sl,dd (i:=0) J,⟨a4,a4⟩,?_⟩
 refine xJ (nl:=sl.extract c sl.size) J λf V n=>?_
 have m:Upd No h f:=(a.tr q).trans n λx hx=>.inr (by have hx:x=d.size:=hx;have:=a.size;omega)
 have D:=B.upd n λx hx e=>by have e:x=d.size:=e;have:=hx.1;omega
 have P:=bw b3;have o:f[h1.size]? =some (.cells (DB (sl.extract 0 c) false ⟨#[]⟩ s2 none) 175 (0,0)):=n.get (q.get0 b3) (by show ¬h1.size=d.size;omega);have t:=fD No f [.pointer (some ⟨d.size,0,none⟩)] 48;have O:=bV f [.pointer (some ⟨d.size,0,none⟩)] 48;have U:=m.size;have Z:=a.size;refine bF ?_;simp only[cD f];generalize hnew f [.pointer (some ⟨d.size,0,none⟩)] 48=h6 at t O
 have p:=t.get0 o;have L:=bw o;refine⟨_,rfl,Xr (i:=3) p (show 3<5 by decide),Jt (i:=3) (c':=DB (sl.extract 0 c) false ⟨#[]⟩ ⟨some ⟨f.size,0,none⟩,1,1⟩ none) p rfl λE R g=>?_⟩
 have j:Upd No h E:=(m.tr t).trans g λx hx=>.inr (by have hx:x=h1.size:=hx;omega)
 have H:E[f.size]? =some (.cells #[.pointer (some ⟨d.size,0,none⟩)] 48 (0,0)):=g.get O (by show ¬f.size=h1.size;omega);have C:=g.get (t.get0 V) (by show ¬d.size=h1.size;omega);have u:=(D.upd t λ_ _ h=>h).upd g λx hx e=>by have e:x=h1.size:=e;have:=hx.1;omega
 refine Y E h1.size ⟨⟨#[]⟩,_,none,[some ⟨d.size,0,none⟩],R,rfl,⟨rfl,pE,λ_=>⟨_,rfl,(λhx=>by have hx:W f.size:=hx;have:=A _ hx;omega),qN H λi v hi=>?_⟩⟩,⟨aj _,λhx=>by have:=A _ hx;omega⟩,?_⟩ j
 .rw[aU]
  rw[<-List.getElem?_toArray]at hi;exact hi
 .refine⟨d.size,sl.extract c sl.size,val,S,none,ks,[],rfl,H0 ..,C,hv,u.sl (λx hx _ T=>by have:=A _ T;have:=hx.1;omega),⟨u.cap,λhx=>by have:=A _ hx;omega⟩,RxF.upd0 j N,rfl⟩
theorem WM:∀{x y:c6} {i:Nat},i<=x.length->i<=y.length->(∀j,j<i->x[j]? =y[j]?)->(i=x.length\/i=y.length\/x[i]?≠y[i]?)->cm x y=i
 | [],_,i,h1,_,_,_=>by simp at h1;simp[cm,h1]
 |_::_,[],i,_,h2,_,_=>by simp at h2;simp[cm,h2]
 |a::x,b::y,0,_,_,_,h=>by
  unfold cm;rw[if_neg];rintro rfl;rcases h with h|h|h<;>simp at h
 |a::x,b::y,i+1,h1,h2,h3,h4=>by
  have:=h3 0 a4;simp only[List.getElem?_cons_zero,bI.injEq]at this;unfold cm;rw[if_pos this,WM (i:=i) (by simpa using h1) (by simpa using h2) (λj c=>by simpa using h3 (j+1) a4) (by simpa using h4)]
theorem Um{a b:dO}(y:a.size<=1000000){K:Int->eu}(n:K (cm a.data.toList b.data.toList:Nat) h):fK 158 [.string a,.string b] K h:=by
 refine cZ (AF a b) JW Tryz.func158 Tryz.call158 ?_;dsimp only[AF,Ir];simp only[Bd];have k:(if(b.size:Int)<(a.size:Int)then(b.size:Int)else(a.size:Int))=((min a.size b.size:Nat):Int):=by split<;>omega
 rw[k];have A:a.data.toList.length=a.size:=a7
 have z:b.data.toList.length=b.size:=a7
 refine eF (λ(i:Nat) (t:Int) h'=>t=(i:Int)/\i<=min a.size b.size/\h'=h/\∀j,j<i->a.data.toList[j]? =b.data.toList[j]?) (λi=>min a.size b.size-i) 0 ⟨rfl,aK _,rfl,λj u=>absurd u (oM _)⟩ ?_
 rintro I i t h' ⟨rfl,hi,rfl,o⟩ x;refine aq (λc=>?_) λw=>?_
 .have c:i<min a.size b.size:=by omega
  have m:i<a.size:=a4
  have f:i<b.size:=a4
  refine⟨a[i],a4,by rw[bi,getElem?_pos a i m],b[i],a4,by rw[bi,getElem?_pos b i f],?_⟩
  have v:a.data.toList[i]? =some a[i]:=by rw[<-We,getElem?_pos a i m]
  have s:b.data.toList[i]? =some b[i]:=by rw[<-We,getElem?_pos b i f]
  refine ez (λg=>?_) λd=>?_
  .rw[WM (i:=i) a4 a4 o (.inr (.inr λe=>?_))]at n
   .exact n
   .rw[v,s]at e
    rw[bI.inj e]at g;simp at g
  .have d:a[i]=b[i]:=by
    have:((a[i].toNat:Int))=(b[i].toNat:Int):=by simpa using d
    exact UInt8.toNat_inj.1 a4
   rw[cf c a4];refine x (i+1) _ _ ⟨rfl,c,rfl,λj u=>?_⟩ a4
   rcases cp j i with q|q
   .exact o j q
   .have:j=i:=by omega
    subst this;rw[v,s,d]
 .have p:i=min a.size b.size:=by omega
  rw[WM (i:=i) a4 a4 o a4]at n;rw[<-p];exact n
theorem TI{k:c6}(h:eK F)(hi:i<F.toL.length)(ek:hd F.toL[i].1=hd k)(a:wy (wz F.toL[i]) (wz F.toL[i]) k v):wy (qh F) (qh F) k v:=by
 have:=N8 h hi ek a;rw[List.set_getElem_self,Fo.of_to]at this;exact this
theorem VD{P Q a:c6->dO->Prop}{k:c6}(h:wy P a k v)(e:∀k v,P k v↔Q k v):wy Q a k v:=λk' b=>by rw[h k' b,e]
set_option maxHeartbeats 1000000 in
theorem Vr:∀(n:Nat) {b:Nat} {sl:dO} {w:Option dO} {F:Fo} {h:ad} (k v:dO),k.size<n->k.size<=1000000->RxN W h b sl w F->(∀y,W y->y<h.size)->eK F->∀{K:aT×Bool×Bool->eu},
  (∀h' b' w' F' C ch,Upd No h h'->RxN W h' b' sl w' F'->eK F'->wy (rX w F) (rX w' F') k.data.toList v->(ch=false->b'=b/\w'=w/\F'=F)->(rX w F k.data.toList v->ch=false)->K (some ⟨b',0,none⟩,C,ch) h')->
  MF 97 [gV b,.pointer none,.string k,.string v] K h:=by
 intro n;induction n with
 |zero=>intro b sl w F h k v hk;omega
 |succ n ih=>
  intro b sl w F h k v J hk6 r hW hc K hk;refine cZ (xr (some ⟨b,0,none⟩) none k v) Ey Tryz.func97 Tryz.call97 ?_;dsimp only[xr,cP,fL,yD,gD,dh,lG,cj,XH,Jm,aao,LV,jz,fE,cL,iL,rW,cB,lf,zn,rV];have hr:=r;obtain⟨val,s,ow,ks,hb,hv,hs,hcap,hF⟩:=r;have X:=jP.1 hF;have hn:=jV hc;have hcan:=dB.1 hc;rw[dV]
  refine aq (λhk0=>?_) λhk0=>?_
  .have hke:k.data.toList= []:=by rw[hk0]
   rw[hke]at hk;refine eM (λt h'=>t=decide (w=some v)/\h'=h) (λR hR=>⟨_,rfl,w.isSome,dd (i:=1) hb,?_⟩) ?_
   .cases G:w with
    |none=>exact ag.2 (hR _ _ ⟨by rw[G];rfl,rfl⟩)
    |some u=>
     refine aw.2 ⟨_,rfl,val,dd (i:=2) hb,hR _ _ ⟨?_,rfl⟩⟩;rw[dV,vw hv u G,G];exact decide_eq_decide.2 ⟨λe=>by rw[e],λe=>bI.inj e⟩
   .rintro t h' ⟨rfl,rfl⟩
    refine aq (λe=>?_) λe=>?_
    .refine hk h' b w F false false (eQ _ _) hr hc ?_ (λ_=>⟨rfl,rfl,rfl⟩) λ_=>rfl
     rw[e];exact Ku hc v
    .refine⟨_,rfl,w.isSome,dd (i:=1) hb,?_⟩
     refine pD hb hs (by rw[X.1];exact hn) λh1 s1 b1 ho1 p=>?_
     refine⟨dd (i:=1) (p.get0 hb),?_⟩;refine EO b1 λA b2 B=>?_
     have d:Upd No h' A:=p.trans B λx hx=>.inr (cI (Eq.symm hx))
     refine⟨dd (i:=1) (d.get0 hb),?_⟩;have ho2:=ho1.upd B λx hx e=>by have e:x=h'.size:=e;have:=hx.1;omega
     refine hk A h'.size (some v) F _ true d ⟨v,s1,none,ks,b2,rfl,ho2.sl (λx hx _ G=>by have:=hW _ G;have:=hx.1;omega),⟨ho2.cap,λhx=>l3 _ (hW _ hx)⟩,RxF.upd0 d hF⟩ hc (Ku hc v) (λh=>by cases h) λg=>?_
     rcases g with⟨_,h⟩|h
     .exact absurd h e
     .exact absurd rfl (oU hc h)
  .have f:k.data.toList≠[]:=λe=>hk0 (by cases k;exact congrArg lz (jg.1 e))
   obtain⟨c0,hc0,hc0e⟩:=D7 f;refine⟨c0,eC _,hc0,?_⟩;have hlk:k.data.toList.length=k.size:=a7
   refine DT hr hc (c:=c0.toNat) (UInt8.toNat_lt _) λi ok hil hlo hhi hok=>?_
   rw[hc0e]at hlo hhi hok;cases ok with
   |false=>
    have hno:∀hi:i<F.toL.length,hd F.toL[i].1≠hd k.data.toList:=λhi e=>by have:=hok.2 ⟨hi,e⟩;cases this
    have hhi':∀j (hj:j<F.toL.length),i<=j->hd k.data.toList<hd F.toL[j].1:=λj hj hij=>by
     have h1:=hhi j hj hij;rcases cp i j with V|V
     .have A:=bQ.1 hcan.1 i j a4 hj V
      have h3:=hhi i a4 (aj _);omega
     .have:i=j:=by omega
      subst this;have:=hno hj;omega
    obtain⟨hc',hp'⟩:=TK (v:=v) hc f hlo hhi';refine aw.2 ?_;refine pD hb hs (by rw[X.1];exact hn) λh1 s1 b1 ho1 p=>?_
    refine⟨_,rfl,s1,dd (i:=3) b1,?_⟩;refine P6 λA fb fs fb2 hf0 hfc hfb B=>⟨dd (i:=3) (B.get0 b1),bF ?_⟩
    have k3:=fD No A [.pointer (some ⟨fb,0,none⟩)] 48;have b3:=bV A [.pointer (some ⟨fb,0,none⟩)] 48;have z3:(hnew A [.pointer (some ⟨fb,0,none⟩)] 48).size=A.size+1:=dA ..;simp only[cD A];generalize hnew A [.pointer (some ⟨fb,0,none⟩)] 48=h3 at k3 b3 z3;have E:=B.tr k3;refine⟨dd (i:=3) (E.get0 b1),?_⟩;have z1:=bw b1;have z2:=B.size;have zf:=bw fb2;have Y:=(ho1.upd E λ_ _ h=>h).more (M':=λx=>(h.size<x/\x<h1.size)\/h3.size<=x) λx hx=>.inl hx
    refine QM Y (k:=i) (by rw[X.1];exact hil) (by rw[X.1];omega) b3 (by rintro(h|h)<;>omega) (λx hx=>.inr hx) λs4 h4 N H=>?_
    have b4:=H.get (E.get0 b1) (by rintro(h|h)<;>omega)
    have f4:=H.get (k3.get0 fb2) (by rintro(h|h)<;>omega)
    refine⟨_,rfl,Xr (i:=3) b4 (show 3<5 by decide),Jt (i:=3) (c':=DB sl w.isSome val s4 none) b4 rfl λh5 b5 hu5=>?_⟩
    have hu05:Upd No h h5:=((p.tr E).trans H λx hx=>.inr (by have:=p.size;rcases hx with hx|hx<;>omega)).trans hu5 λx hx=>.inr (cI (Eq.symm hx))
    have ho5:=N.upd hu5 λx hx e=>by have e:x=h.size:=e;rcases hx with hx|hx<;>omega
    have f5:=hu5.get f4 (by show ¬fb=h.size;omega);refine hk h5 h.size w _ true true hu05 ⟨val,s4,none,_,b5,hv,ho5.sl (λx hx _ G=>by have:=hW _ G;rcases hx with hx|hx<;>omega),⟨ho5.cap,λhx=>l3 _ (hW _ hx)⟩,jP.2 (by rw[Fo.to_of];exact(X.upd0 hu05).ins i ⟨fb,k,rfl,rfl,aaN f5 hf0 hfc λhx=>by have:=hW _ hx;omega⟩)⟩ hc' (D2 f hp') (λh=>by cases h) λg=>?_
    rcases g with⟨h,_⟩|g
    .exact absurd h f
    .obtain⟨n',hn',e,_⟩:=qv hc g
     obtain⟨j,hj,rfl⟩:=List.getElem_of_mem hn';rcases cp j i with V|V
     .have:=hlo j hj V;omega
     .have:=hhi' j hj V;omega
   |true=>
    obtain⟨hi,I⟩:=hok.1 rfl;refine ag.2 ⟨_,rfl,s,dd (i:=3) hb,?_⟩;obtain⟨kb,Z,hki,q,J⟩:=X.at hi;have hmem:F.toL[i]∈F.toL:=aG hi;have o:=hcan.2 _ hmem;obtain⟨a,ha,_,hvv⟩:=hs.at0 hki;have hslen:=hs.len;rw[X.1]at hslen;have hlt1:(i:Int)<((s.len:Nat):Int):=a4
    refine⟨⟨by(try simp only);omega,hlt1⟩,a,ha,some ⟨kb,0,none⟩,hvv,_,rfl,?_⟩;obtain⟨kval,kss,kow,kks,hkb,_⟩:=id J;refine⟨Z,dd (i:=0) hkb,Um hk6 ?_⟩;rw[q];have hc1:=ZT f o.1 I.symm;have O:=Zg k.data.toList F.toL[i].1;have T:=SX k.data.toList F.toL[i].1;have hcd:=SY k.data.toList F.toL[i].1;have hll:Z.size=F.toL[i].1.length:=by rw[<-q];simp
    have Q:qh F k.data.toList v->wz F.toL[i] k.data.toList v:=λg=>by
     obtain⟨n',hn',e,hN⟩:=qv hc g;rw[<-xR hc hn' hmem a4];exact hN
    have hset:∀{w2:Option dO} {F2:Fo} {nl:c6},nl≠[]->hd nl=hd F.toL[i].1->eK F2->Br (rX w2 F2)->eK (.ofL (F.toL.set i (nl,w2,F2))):=λh1 A h3 h4=>SZ hc hi ⟨h1,(MX h3).2 h4,h3⟩ A
    have P:∀{m:Bn},wy (wz F.toL[i]) (wz m) k.data.toList v->wy (qh F) (qh (.ofL (F.toL.set i m))) k.data.toList v:=λhp=>N8 hc hi I hp
    have U:wy (wz F.toL[i]) (wz F.toL[i]) k.data.toList v->wy (qh F) (qh F) k.data.toList v:=TI hc hi I;have hrset:∀{h':ad} {k':aT} {m:Bn},Upd No h h'->Kid W h' k' m->RxL W h' (ks.set i k') (F.toL.set i m):=λhu hkd=>(X.upd0 hu).set hi hkd
    generalize F.toL[i]=m at q J o hc1 O T hcd hll Q hset P U I;generalize hcc:cm k.data.toList m.1=c at hc1 O T hcd;obtain⟨lab,wk,Fk⟩:=m;(try simp only at q J o O T hcd hll I hset)
    refine eM (λt h'=>∃ub z wu Fu,t=some ⟨ub,0,none⟩/\Upd No h h'/\RxN W h' ub z wu Fu/\eK Fu/\z.data.toList=k.data.toList.take c/\(∀k' v',wz (z.data.toList,wu,Fu) k' v'↔wz (lab,wk,Fk) k' v')/\(∀w' F',eK F'->wy (rX wu Fu) (rX w' F') (k.data.toList.drop c) v->Br (rX w' F'))) (λR hR=>⟨_,rfl,Z,dd (i:=0) hkb,?_⟩) ?_
    .refine aq (λhlt=>?_) λhge=>?_
     .have hlt:c<lab.length:=by omega
      refine P5 J hW (jV o.2.2) (c:=c) a4 λh1 ub rn p=>hR _ _ ⟨ub,_,none,_,rfl,p,rn,?_,?_,?_,?_⟩
      .rw[q]
       refine⟨λe=>?_,o.2.1,o.2.2,λ_ h=>by simp[Fo.toL]at h,trivial⟩
       have:=congrArg gu e;rw[bo,bC]at this;omega
      .rw[HZ,q,T]
      .intro k' v'
       rw[HZ,q];exact KZ c k' v'
      .intro w' F' hcF hp
       rw[q]at hp;refine WV (λe=>?_) o.2.1 o.2.2 (λhne=>?_) hp
       .have:=congrArg gu e
        rw[bo,bC]at this;omega
       .refine hcd ?_ hlt
        rcases cp c k.data.toList.length with V|V
        .exact V
        .exact absurd (List.drop_eq_nil_of_le V) hne
     .have hce:c=lab.length:=by omega
      refine hR _ _ ⟨kb,Z,wk,Fk,rfl,eQ _ _,J,o.2.2,?_,?_,?_⟩
      .rw[q,T,hce,bZ]
      .intro k' v';rw[q]
      .intro w' F' hcF hp
       exact YJ ((MX o.2.2).1 o.2.1) hp
    .rintro t h1 ⟨ub,z,wu,Fu,rfl,p,rn,hcu,hsl,L,hbr⟩
     refine⟨⟨a4,a4⟩,?_⟩
     rw[bi];have hkd:(k.extract c k.size).data.toList=k.data.toList.drop c:=H0 ..;have hks:(k.extract c k.size).size=k.size-c:=a7
     have D:k.data.toList=z.data.toList++k.data.toList.drop c:=by rw[hsl,bK]
     have S:z.data.toList≠[]:=by
      rw[hsl];intro e;have:=congrArg gu e;rw[aY,bC]at this;omega
     have hslhd:hd z.data.toList=hd lab:=by
      rw[I];conv=>rhs;rw[D]
      rw[oV S]
     refine ih (k.extract c k.size) v (by rw[hks];omega) (by rw[hks];omega) rn (λy hy=>Nat.lt_of_lt_of_le (hW y hy) p.size) hcu λA b2 w2 F2 C ch B rn2 hc2 hp2 hsm hch=>?_
     rw[hkd]at hp2 hch;have d:=p.tr B;have hpn:wy (wz (lab,wk,Fk)) (wz (z.data.toList,w2,F2)) k.data.toList v:=by
      have:=VD (TJ (lab:=z.data.toList) hp2) L;rw[<-D]at this;exact this
     have hchg:rX w F k.data.toList v->ch=false:=λg=>by
      rcases g with⟨h,_⟩|g
      .exact absurd h f
      .obtain⟨r,e,hr'⟩:=(L _ _).2 (Q g)
       (try simp only at e)
       rw[D]at e;have e2:=List.append_cancel_left e;rw[<-D]at e;exact hch (by rw[e2];exact hr')
     cases ch with
     |false=>
      obtain⟨_,rfl,rfl⟩:=hsm rfl;refine aw.2 (hk A b w F false false d (hr.upd0 d) hc (D2 f (U ?_)) (λ_=>⟨rfl,rfl,rfl⟩) λ_=>rfl)
      intro k' v';exact(L k' v').symm.trans (hpn k' v')
     |true=>
      refine ag.2 ?_;refine pD (d.get0 hb) (hs.upd d λ_ h=>h.elim) (by rw[X.1];exact hn) λh3 s3 b3 Y hu3=>?_
      refine⟨_,rfl,s3,dd (i:=3) b3,?_⟩;have hil:i<ks.length:=by rw[X.1];exact hi
      obtain⟨a3,ha3,hab,hw3,N,H⟩:=OwnS.setAt Y hil (some ⟨b2,0,none⟩);have hlen3:=Y.len;refine⟨⟨by(try simp only);omega,by(try simp only);omega⟩,a3,ha3,?_⟩
      have hw1:Wr h3 (adr a3 (i*1)):=by
       rcases hw3 with G|⟨b',hb',G⟩
       .cases G
       .cases hb';exact G 0 a7
      refine⟨hw1,bF ?_⟩;have b4:=H.get b3 λe=>by have e:A.size=a3.block:=e;have:=hab.1;omega
      have hu24:Upd No A _:=hu3.trans H λx hx=>.inr (by have hx:x=a3.block:=hx;have:=hab.1;omega)
      have hu04:=d.tr hu24;have eset:ks.set i (some ⟨b2,0,none⟩)=ks.take i++some ⟨b2,0,none⟩::ks.drop (i+1):=by rw[dt,if_pos hil]
      rw[<-eset]at N;exact hk _ A.size w _ C true hu04 ⟨val,s3,none,_,b4,hv,N.sl (λx hx _ G=>by have:=hW _ G;have:=d.size;have:=hx.1;omega),⟨N.cap,λhx=>by have:=hW _ hx;have:=d.size;omega⟩,jP.2 (by rw[Fo.to_of];exact hrset hu04 ⟨b2,z,rfl,rfl,rn2.upd0 hu24⟩)⟩ (hset S hslhd hc2 (hbr _ _ hc2 hp2)) (D2 f (P hpn)) (λh=>by cases h) hchg
def Ad:Fo->List (c6×dO)
 | .nil=> []
 | .cons lab w kids rest=>((w.map λv=>(([]:c6),v)).toList++Ad kids).map (λp=>(lab++p.1,p.2))++Ad rest
def wS(w:Option dO)(F:Fo):List (c6×dO):=(w.map λv=>(([]:c6),v)).toList++Ad F
theorem vd:∀{F:Fo} {k:c6} {v:dO},(k,v)∈Ad F↔qh F k v
 | .nil,_,_=>by simp[Ad,qh]
 | .cons lab w kids rest,k,v=>by
  unfold Ad qh;rw[aL,vd (F:=rest)];refine or_congr ?_ tu;rw[aR];constructor
  .rintro⟨⟨r,u⟩,hm,b⟩
   simp only[oL.injEq]at b;obtain⟨rfl,rfl⟩:=b;refine⟨r,rfl,?_⟩;rcases aL.1 hm with h|h
   .left
    rw[pX,lj]at h;obtain⟨a,c,b⟩:=h;simp only[oL.injEq]at b;exact⟨b.1.symm,by rw[c,b.2]⟩
   .exact .inr (vd.1 h)
  .rintro⟨r,rfl,h⟩
   refine⟨(r,v),aL.2 ?_,rfl⟩;rcases h with⟨rfl,h⟩|h
   .left;rw[h];simp
   .exact .inr (vd.2 h)
theorem jQ{k:c6}:(k,v)∈wS w F↔rX w F k v:=by
 unfold wS rX;rw[aL,vd];refine or_congr ?_ tu;cases w with
 |none=>simp
 |some u=>simp[Prod.ext_iff,eq_comm]
abbrev Up(l:List (c6×dO)):Prop:=l.Pairwise λp q=>p.1<q.1
theorem M3{x:c6}(h:x<y):a++x<a++y:=by
 induction a with
 |nil=>exact h
 |cons c a ih=>exact List.Lex.cons ih
theorem OI{x:c6}(c:y≠[])(h:hd x<hd y):x<y:=by
 match x,y,c with
 | [],b::y,_=>exact yf
 |a::x,b::y,_=>exact List.Lex.rel (UInt8.lt_iff_toNat_lt.2 h)
theorem Qm:∀{F:Fo},eK F->Up (Ad F)
 | .nil,_=>cq
 | .cons lab w kids rest,h=>by
  unfold Ad;refine cC.2 ⟨?_,Qm h.2.2.2.2,?_⟩
  .rw[fX]
   refine List.Pairwise.imp (R:=λp q:c6×dO=>p.1<q.1) (λi=>M3 i) ?_
   refine cC.2 ⟨?_,Qm h.2.2.1,?_⟩
   .cases w<;>simp
   .intro a f b hb
    have d:b.1≠[]:=oU h.2.2.1 (vd (F:=kids).1 (show(b.1,b.2)∈_ from hb))
    have g:a.1= []:=by
     rw[pX,lj]at f;obtain⟨v,_,e⟩:=f;rw[<-e]
    rw[g];match b.1,d with
    |c::l,_=>exact yf
  .intro a f b hb
   obtain⟨p,_,rfl⟩:=aR.1 f;obtain⟨n,j,e,_⟩:=qv h.2.2.2.2 (vd (F:=rest).1 (show(b.1,b.2)∈_ from hb))
   have d:b.1≠[]:=oU h.2.2.2.2 (vd (F:=rest).1 (show(b.1,b.2)∈_ from hb))
   have:=h.2.2.2.1 n j;exact OI d (by rw[oV h.1];omega)
theorem Sq(h:eK F):Up (wS w F):=by
 refine cC.2 ⟨by cases w<;>simp,Qm h,?_⟩
 intro a g b hb;have f:b.1≠[]:=oU h (vd (F:=F).1 (show(b.1,b.2)∈_ from hb))
 have d:a.1= []:=by
  rw[pX,lj]at g;obtain⟨v,_,e⟩:=g;rw[<-e]
 rw[d];match b.1,f with
 |c::l,_=>exact yf
theorem Va:∀{l l':List (c6×dO)},Up l->Up l'->(∀p,p∈l↔p∈l')->l=l'
 | [],[],_,_,_=>rfl
 | [],q::l',_,_,h=>absurd ((h q).2 (al ..)) a7
 |p::l,[],_,_,h=>absurd ((h p).1 (al ..)) a7
 |p::l,q::l',c,a,h=>by
  have c:=aC.1 c;have a:=aC.1 a;have e:p=q:=by
   rcases au.1 ((h p).1 (al ..))with e|g
   .exact e
   .rcases au.1 ((h q).2 (al ..))with e|f
    .exact e.symm
    .exact absurd (List.lt_trans (c.1 q f) (a.1 p g)) (uH _)
  subst e;rw[Va c.2 a.2 λz=>?_]
  constructor
  .intro d
   rcases au.1 ((h z).1 (ay _ d))with e|b
   .exact absurd (c.1 z d) (by rw[e];exact uH _)
   .exact b
  .intro d
   rcases au.1 ((h z).2 (ay _ d))with e|b
   .exact absurd (a.1 z d) (by rw[e];exact uH _)
   .exact b
def MS:Fo->Nat
 | .nil=>0
 | .cons _ _ kids rest=>1+MS kids+MS rest
theorem MR:∀{F:Fo},eK F->MS F+F.toL.length<=2*(Ad F).length
 | .nil,_=>by simp[MS,Fo.toL]
 | .cons lab w kids rest,h=>by
  have b:=MR h.2.2.1;have c:=MR h.2.2.2.2;have a:=h.2.1;rw[Fo.toL_cons];unfold MS Ad;rw[ae,List.length_map,ae,ar];cases w with
  |none=>
   simp only[Option.map_none,Option.toList_none,bC];have:2<=kids.toL.length:=a.resolve_left a7;omega
  |some v=>simp only[Option.map_some,Option.toList_some,aP];omega
def Pg:Fo->Prop
 | .nil=>True
 | .cons lab w kids rest=>lab.length<=10000/\(∀v,w=some v->v.size<=10000)/\kids.toL.length<=256/\Pg kids/\Pg rest
theorem QU:∀{F:Fo},eK F->(∀k v,qh F k v->k.length<=10000/\v.size<=10000)->Pg F
 | .nil,_,_=>trivial
 | .cons lab w kids rest,h,hl=>by
  obtain⟨r,v,c⟩:=mU h _ (al ..);have b:=(hl _ v (eW.2 ⟨_,al ..,r,rfl,c⟩)).1;rw[ae]at b;simp only at b;refine⟨a4,λv hv=>(hl lab v (.inl ⟨[],(aX _).symm,.inl ⟨rfl,hv⟩⟩)).2,jV h.2.2.1,QU h.2.2.1 λk v a=>?_,QU h.2.2.2.2 λk v a=>hl k v (.inr a)⟩
  have:=hl (lab++k) v (.inl ⟨k,rfl,.inr a⟩);rw[ae]at this;exact⟨a4,this.2⟩
def FR:Option dO->c6
 |some v=>1::yj v
 |none=> [0]
def uZ(lab:c6)(w:Option dO)(n:Nat):c6:=yj ⟨lab.toArray⟩++(FR w++qu n 2)
def pC:Fo->c6
 | .nil=> []
 | .cons lab w kids rest=>uZ lab w kids.toL.length++(pC kids++pC rest)
def oQ(n:Bn):c6:=uZ n.1 n.2.1 n.2.2.toL.length++pC n.2.2
theorem EM:∀F:Fo,pC F=F.toL.flatMap oQ
 | .nil=>rfl
 | .cons lab w kids rest=>by
  rw[Fo.toL_cons,aN,<-EM rest];show uZ lab w kids.toL.length++(pC kids++pC rest)=(uZ lab w kids.toL.length++pC kids)++pC rest
  rw[ao]
theorem KC(b:lab.length<=10000)(a:∀v,w=some v->v.size<=10000):(uZ lab w n).length<=20010:=by
 unfold uZ;rw[ae,ae,kE,ft];have e:(lz lab.toArray).size=lab.length:=by simp[ByteArray.size]
 rw[e];cases w with
 |none=>simp only[FR,aP];omega
 |some v=>have:=a v rfl;simp only[FR,ar,kE];omega
theorem A9:∀{F:Fo},Pg F->(pC F).length<=MS F*20010
 | .nil,_=>by simp[pC]
 | .cons lab w kids rest,h=>by
  have a:=KC (n:=kids.toL.length) h.1 h.2.1;have b:=A9 h.2.2.2.1;have c:=A9 h.2.2.2.2;unfold pC MS;rw[ae,ae,nf,nf];omega
theorem KD{c:Option dO}{n':Nat}{i:c6}(o:lab.length<=10000)(e:a.length<=10000)(p:∀v,w=some v->v.size<=10000)(f:∀v,c=some v->v.size<=10000)(q:n<=256)(m:n'<=256)(h:uZ lab w n++r=uZ a c n'++i):lab=a/\w=c/\n=n'/\r=i:=by
 unfold uZ at h;simp only[ao]at h;have z:∀l:c6,(lz l.toArray).size=l.length:=λl=>by simp[ByteArray.size]
 obtain⟨d,h⟩:=zI (by rw[z];exact o) (by rw[z];exact e) h;have d:lab=a:=by
  have:=congrArg (λb:dO=>b.data.toList) d
  simpa using this
 cases w with
 |none=>
  cases c with
  |none=>
   simp only[FR,cG,List.nil_append,gi.injEq,true_and]at h;obtain⟨g,h⟩:=wW (k:=2) a4 a4 h;exact⟨d,rfl,g,h⟩
  |some v=>simp[FR]at h
 |some v=>
  cases c with
  |none=>simp[FR]at h
  |some v'=>
   simp only[FR,cG,gi.injEq,true_and]at h;obtain⟨j,h⟩:=zI (p v rfl) (f v' rfl) h;obtain⟨g,h⟩:=wW (k:=2) a4 a4 h;exact⟨d,by rw[j],g,h⟩
theorem Ba:∀{F F':Fo} {r r':c6},Pg F->Pg F'->F.toL.length=F'.toL.length->pC F++r=pC F'++r'->F=F'/\r=r'
 | .nil,.nil,_,_,_,_,_,h=>⟨rfl,h⟩
 | .nil,.cons ..,_,_,_,_,e,_=>by simp[Fo.toL]at e
 | .cons ..,.nil,_,_,_,_,e,_=>by simp[Fo.toL]at e
 | .cons lab w kids rest,.cons lab' w' kids' rest',r,r',h1,h2,e,h=>by
  unfold pC at h;simp only[ao]at h;obtain⟨f,d,c,h⟩:=KD h1.1 h2.1 h1.2.1 h2.2.1 h1.2.2.1 h2.2.2.1 h;obtain⟨b,h⟩:=Ba h1.2.2.2.1 h2.2.2.2.1 c h;obtain⟨a,h⟩:=Ba h1.2.2.2.2 h2.2.2.2.2 (by rw[Fo.toL_cons,Fo.toL_cons]at e;simpa using e) h;exact⟨by rw[f,d,b,a],h⟩
theorem YM{so:f9}{out ys:c6}{vs:c5}(hv:vs=ys.flatMap vo)(a:n=ys.length)(e:OwnS vo 1 5 M h so out)(hM:∀b,h.size<=b->M b)(i:out.length+ys.length<=140737488355328)
  (d:∀s' h',OwnS vo 1 5 M h' s' (out++ys)->Upd M h h'->K s' h'):
  ∃xs,SRow (hnew h vs 5) (some (aH h)) (n*1) xs/\AppP (some [.int .u8 0]) 1 1 5 so.a so.len so.cap n xs (hnew h vs 5) K:=by
 subst hv a;have k:=fD No h (ys.flatMap vo) 5;have f:OwnS vo 1 5 (λ_=>True) (hnew h (ys.flatMap vo) 5) ⟨some (aH h),ys.length,ys.length⟩ ys:=⟨rfl,Ef,aj _,.inr ⟨h.size,[],rfl,trivial,by rw[aX];exact bV ..,a7⟩⟩
 refine⟨_,(f.sl (W:=No) λ_ _ _ h=>h).srow,?_⟩
 refine AppP.own (ys:=ys) (e.upd k λ_ _ h=>h) rfl rfl (Gr _) rfl a4 a4 (hM _ (by rw[dA];omega)) λs' h' c g=>?_
 exact d s' h' c ((fD M h _ _).tr g)
def acb(W:eh)(n:Bn):Prop:=∀{b:Nat} {sl:dO} {h0 h:ad} {M:eh} {s:f9} {xs:c6},RxN W h0 b sl n.2.1 n.2.2->sl.data.toList=n.1->Upd No h0 h->(∀y,M y->h0.size<=y)->OwnS vo 1 5 M h s xs->(∀y,h.size<=y->M y)->
 xs.length+(oQ n).length<=140737488355328->∀{K:f9->eu},(∀s' h',OwnS vo 1 5 M h' s' (xs++oQ n)->Upd M h h'->K s' h')->dS 85 [gV b,.slice s.a s.len s.cap] K h
theorem Vo{c:Fo}(hl:lab.length<=10000)(hw:∀v,w=some v->v.size<=10000)(S:c.toL.length<=256)(ih:∀m∈c.toL,acb W m):acb W (lab,w,c):=by
 intro b sl h0 h M s xs r F hu0 G ho hM hx K O;(try simp only at r F)
 have D:(⟨lab.toArray⟩:dO)=sl:=by rw[<-F]
 refine cZ (sH (some ⟨b,0,none⟩) s) Ao Tryz.func85 Tryz.call85 ?_;dsimp only[sH,cP,fL,cj,kr,yL,aap,cL,rW,cB,jz,fE,lf,rV];obtain⟨val,z,ow,ks,Q,hv,hs,hcap,hF⟩:=r;have hL:=jP.1 hF;have st:∀{h'},Upd M h h'->Upd No h0 h':=λk=>hu0.trans k λy hy=>.inr (G y hy)
 have blk:∀{h'},Upd M h h'->h'[b]? =some (.cells (DB sl w.isSome val z ow) 175 (0,0)):=λk=>(st k).get0 Q
 have o:∀{h'},Upd M h h'->∀y,h'.size<=y->M y:=λk y hy=>hM y (aQ k.size hy)
 have X:sl.size=lab.length:=by rw[<-F];simp
 have q:=hs.len;rw[hL.1]at q;unfold oQ at hx O;rw[EM]at hx O;(try simp only at hx O)
 rw[ae]at hx;have H:(uZ lab w c.toL.length).length=2+lab.length+((FR w).length+2):=by
  unfold uZ;rw[ae,ae,kE,ft,D,X]
 refine⟨_,rfl,sl,dd (i:=0) (blk (eQ M h)),?_⟩;refine Gk (W:=No) (ho.sl λ_ _ _ h=>h) ho.cap sl a4 a4 λs2 Y B hu2=>?_
 have B:=B.more hM;have d:Upd M h Y:=hu2.wide;refine eM (λt h'=>OwnS vo 1 5 M h' t (xs++yj sl++(FR w))/\Upd M h h') (λR N=>⟨_,rfl,w.isSome,dd (i:=1) (blk d),?_⟩) ?_
 .cases w with
  |none=>
   refine ag.2 (bF ?_);refine xb (b:=0) rfl B (o d) ?_ λs3 J n f=>N _ _ ⟨n,d.tr f⟩
   rw[ae,kE];simp only[FR,aP]at H;omega
  |some v=>
   have P:=vw hv v rfl;subst P;have hvs:=hw val rfl;simp only[FR,ar,kE]at H;have k3:Upd M h (hnew Y [.int .u8 1] 5):=d.tr (fD M Y _ _);refine aw.2 ⟨_,rfl,val,dd (i:=2) (blk d),bF ⟨dd (i:=2) (blk k3),?_⟩⟩;refine xb (b:=1) rfl B (o d) (by rw[ae,kE];omega) λs3 J n f=>⟨dd (i:=2) (blk (d.tr f)),?_⟩
   refine Gk (W:=No) (n.sl λ_ _ _ h=>h) n.cap val a4 (by rw[ae,ae,kE,aP];omega) λs4 h4 j A=>N _ _ ⟨?_,(d.tr f).tr A.wide⟩
   have j:=j.more (o (d.tr f));simp only[FR,ao,List.singleton_append]at j⊢;exact j
 .rintro s3 J ⟨n,f⟩
  have e8:dX (z.len:Int) (2^(min (8:Int).toNat (ak .i64)))=((c.toL.length>>>8:Nat):Int):=by
   have:(2^(min (8:Int).toNat (ak .i64)):Int)=2^8:=rfl;rw[this,q,mV]
  refine eM (λt h'=>OwnS vo 1 5 M h' t (xs++uZ lab w c.toL.length)/\Upd M h h') (λR N=>⟨_,rfl,z,dd (i:=3) (blk f),_,rfl,z,dd (i:=3) (blk f),a4,?_⟩) ?_
  .simp only[Bd]
   rw[e8];have k4:Upd M h (hnew J [.int .u8 (ac .u8 (z.len:Int)),.int .u8 (ac .u8 ((c.toL.length>>>8:Nat):Int))] 5):=f.tr (fD M J _ _);refine bF ⟨dd (i:=3) (blk k4),dd (i:=3) (blk k4),?_⟩;refine YM (ys:=qu c.toL.length 2) ?_ rfl n (o f) ?_ λs5 h5 E p=>⟨dd (i:=3) (blk (f.tr p)),dd (i:=3) (blk (f.tr p)),N _ _ ⟨?_,f.tr p⟩⟩
   .rw[q,sn,sn]
    simp[qu,List.range_succ]
   .rw[ae,ae,kE,ft];omega
   .unfold uZ
    rw[D,<-ao,<-ao];exact E
  .rintro s4 h4 ⟨j,A⟩
   refine⟨_,rfl,z,dd (i:=3) (blk A),?_⟩;have hs4:∀{h'},Upd M h h'->Sl qo 1 W h' z ks:=λk=>hs.upd (st k) λ_ h=>h.elim
   refine eF (λ(i:Nat) (t:f9×Int) h'=>t.2=(i:Int)/\i<=c.toL.length/\OwnS vo 1 5 M h' t.1 (xs++uZ lab w c.toL.length++(c.toL.take i).flatMap oQ)/\Upd M h h') (λi=>c.toL.length-i) 0 ⟨rfl,aK _,by simpa using j,A⟩ ?_
   rintro I i ⟨so,ti⟩ h' ⟨e1,hi,C,u⟩ hI;(try simp only at e1 C)
   subst e1;have x:∀g:i<c.toL.length,((c.toL.take i).flatMap oQ).length+(oQ c.toL[i]).length<=(c.toL.flatMap oQ).length:=λg=>by
    have e:c.toL=c.toL.take i++c.toL[i]::c.toL.drop (i+1):=by rw[List.getElem_cons_drop,bK]
    have:=congrArg (λL=>(List.flatMap oQ L).length) e
    simp only[bU,aN,ae]at this;omega
   refine aq (λg=>?_) λhge=>?_
   .have g:i<c.toL.length:=by have:(i:Int)<(z.len:Int):=g;omega
    obtain⟨kb,ksl,U,V,T⟩:=hL.at g;obtain⟨a,ha,_,Z⟩:=(hs4 u).at0 U;have hsp:=x g;refine⟨⟨by(try simp only);omega,by(try simp only);omega⟩,a,ha,some ⟨kb,0,none⟩,Z,?_⟩
    refine ih _ (aG g) T V (st u) G C (o u) (by rw[ae,ae];omega) λs5 h5 E p=>?_
    rw[cf g a4];refine hI (i+1) _ _ ⟨rfl,g,?_,u.tr p⟩ a4;rw[ax g,bU,aN,jf,aX,<-ao];exact E
   .have hil:i=c.toL.length:=by have:¬(i:Int)<(z.len:Int):=hge;omega
    subst hil;rw[bZ]at C;refine O _ _ ?_ u;rw[<-ao];exact C
theorem L8{W:eh}:∀{F:Fo},Pg F->∀n∈F.toL,acb W n
 | .nil,_,n,a=>by simp[Fo.toL]at a
 | .cons lab w kids rest,h,n,a=>by
  rcases au.1 a with rfl|a
  .exact Vo h.1 h.2.1 h.2.2.1 (L8 h.2.2.2.1)
  .exact L8 h.2.2.2.2 n a
structure RadAt(W:eh)(h:ad)(b:Nat)(l:bY):Prop where
 ex:∃w F,RxN W h b ⟨#[]⟩ w F/\eK F/\∀k v,(k,v)∈wS w F↔∃p∈l,p.1.data.toList=k/\p.2=v
theorem RadAt.upd0(k:Upd No h h')(r:RadAt W h b l):RadAt W h' b l:=by
 obtain⟨w,F,d,c,a⟩:=r.ex;exact⟨w,F,d.upd0 k,c,a⟩
theorem RadAt.less(hm:∀b,W' b->W b\/h.size<=b)(r:RadAt W h b l):RadAt W' h b l:=by
 obtain⟨w,F,d,c,a⟩:=r.ex;exact⟨w,F,d.less hm,c,a⟩
theorem RadAt.updM(k:Upd M h h')(hm:∀b,M b->W b\/h.size<=b)(r:RadAt W h b l):RadAt W h' b l:=by
 obtain⟨w,F,d,c,a⟩:=r.ex;exact⟨w,F,d.updM k hm,c,a⟩
def Tn(l:bY):List (c6×dO):=l.map λp=>(p.1.data.toList,p.2)
theorem Zr(c:bO l):Up (Tn l):=by
 unfold Tn Up;rw[fX];refine List.Pairwise.imp (R:=λp q:Pr=>kl p.1 q.1) (λ{a b} h=>?_) c
 rw[Mx,ByteArray.toList_eq,ByteArray.toList_eq]at h;exact h
theorem RV:∀{l l':bY},Tn l=Tn l'->l=l'
 | [],[],_=>rfl
 | [],_::_,h=>by simp[Tn]at h
 |_::_,[],h=>by simp[Tn]at h
 |p::l,q::l',h=>by
  unfold Tn at h;simp only[List.map_cons,gi.injEq,oL.injEq]at h;obtain⟨⟨c,d⟩,f⟩:=h;have e:p.1=q.1:=by
   generalize p.1=a at c;generalize q.1=b at c;cases a;cases b;exact congrArg lz (jg.1 c)
  rw[RV f,pW e d]
theorem Si(hc:eK F)(c:bO l)(b:∀k v,(k,v)∈wS w F↔∃p∈l,p.1.data.toList=k/\p.2=v):wS w F=Tn l:=by
 refine Va (Sq hc) (Zr c) λp=>?_
 have:=b p.1 p.2;rw[show(p.1,p.2)=p from rfl]at this
 rw[this];unfold Tn;rw[aR];constructor
 .rintro⟨q,a,f,d⟩;exact⟨q,a,pW f d⟩
 .rintro⟨q,a,e⟩;rw[<-e];exact⟨q,a,rfl,rfl⟩
theorem Vu{b:Option dO}{F':Fo}(hc:eK F)(a:eK F')(h:wS w F=wS b F'):w=b/\F=F':=by
 have hm:∀k v,rX w F k v↔rX b F' k v:=λk v=>by rw[<-jQ,<-jQ,h]
 refine⟨Option.ext λv=>?_,Ra hc a λk v=>?_⟩
 .have:=hm [] v
  constructor
  .intro e
   rcases this.1 (.inl ⟨rfl,e⟩)with⟨_,h⟩|h
   .exact h
   .exact absurd rfl (oU a h)
  .intro e
   rcases this.2 (.inl ⟨rfl,e⟩)with⟨_,h⟩|h
   .exact h
   .exact absurd rfl (oU hc h)
 .constructor
  .intro hi
   rcases(hm k v).1 (.inr hi)with⟨e,_⟩|h
   .exact absurd e (oU hc hi)
   .exact h
  .intro hi
   rcases(hm k v).2 (.inr hi)with⟨e,_⟩|h
   .exact absurd e (oU a hi)
   .exact h
end
end Go.Proofs
