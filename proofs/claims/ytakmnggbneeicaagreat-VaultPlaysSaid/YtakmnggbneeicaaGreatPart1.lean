/- A part of the proof that the named laws of this program answer true, whatever the input. -/
import Derived.Test.YtakmnggbneeicaaGreatPart0
open Array renaming toList_inj->ju
open BitVec renaming ofInt->aB
open Bool renaming eq_iff_iff->gN
open ByteArray renaming mk->lJ,data_extract->qz
open Go.IntKind renaming bits->al,wrap->ac,wrap_u8->ph
open Iff renaming rfl->ug
open Int renaming toNat_natCast->aY,le_refl->gM,fdiv->eY
open List renaming getElem?_eq_getElem->af,getElem_mem->aF,pairwise_cons->aC,any_cons->rG,mem_cons->aw,mem_cons_self->aq,mem_cons_of_mem->aA,pairwise_singleton->cB,filter_cons->bf,mem_filter->bV,filter_eq_nil_iff->lI,mem_singleton->az,any_eq_true->cq,length_filter_le->bQ,length_cons->av,flatMap_cons->aL,map_cons->cn,length_singleton->aG,range->fy,range_succ->j5,map_append->cC,length_append->ae,append_assoc->au,flatMap_append->bI,take_of_length_le->bd,sum_append->j4,map_nil->fZ,sum_cons->rF,mem_filterMap->lG,length_nil->bq,mem_of_mem_take->gi,getElem_cons_drop->lH,take_append_drop->aW,take_succ_eq_append_getElem->ax,flatMap_nil->gk,append_nil->aX,take_length->bG,cons_append->cN,append_inj->te,cons->eB,zip_cons_cons->jH,mem_append->aN,length_take->aV,zip_eq_zipWith->oy,length_drop->ba,set_eq_take_append_cons_drop->dJ,pairwise_iff_getElem->cp,extract_eq_take_drop->gS,length->eT,mem_map->be,pairwise_append->cE,pairwise_map->fH,lt_irrefl->vo
open List.Lex renaming nil->yH
open List.Pairwise renaming nil->cj
open Nat renaming le_of_eq->cL,zero_add->aU,le_refl->aj,lt_irrefl->l8,mod_lt->pC,min_eq_left->bU,lt_of_lt_of_le->aD,zero_le->aJ,le_trans->aO,mul_le_mul_right->cD,pow_succ->qp,testBit_lt_two_pow->gC,pow_le_pow_right->fg,add_zero->dP,add_mul->jl,mul_le_mul_left->fx,not_lt_zero->j1,shiftRight_eq_div_pow->cU,mod_eq_of_lt->d9,lt_or_ge->ci
open Option renaming some->bO,mem_toList->qo,map_eq_some_iff->lD
open Prod renaming ext->qn,mk->pf
open UInt8 renaming ofNat->gf
namespace Go.Proofs
open Go.Lift
section
variable {h h':ad}{b d n i lev c m:Nat}{sp sk:fD}{a e:Bool}{ow r:aT}{K:aT->dO}{q p:Pr}{k:c6}{W M W':dx}{s:Slots}{l:bY}{x:Hs}
theorem UE(hb:h[b]? =some (.cells (eZ d n sp sk a ow) 324 (0,0))) {K:Int->dO} (c:K (d:Int) h):wO 218 [gZ b] K h:=by
 refine Fl _ ?_;dsimp only[xW,Oa,ey,cJ];exact ag.2 ⟨_,rfl,_,eN (i:=0) hb,c⟩
theorem Iq(hb:h[b]? =some (.cells (eZ d n sp sk a ow) 324 (0,0))) {K:Int->dO} (c:K (n:Int) h):wO 219 [gZ b] K h:=by
 refine DU _ ?_;dsimp only[wn,N9,ey,cJ];exact ag.2 ⟨_,rfl,_,eN (i:=1) hb,c⟩
theorem gI(hb:h[b]? =some (.cells (eZ d n sp sk a ow) 324 (0,0))) {K:Bool->dO} (c:K a h):gl 169 [gZ b] K h:=by
 refine Ab _ ?_;dsimp only[sq,ga,cJ];exact ay.2 ⟨_,rfl,_,eN (i:=4) hb,c⟩
def E0(o:Option Pr):Pr:=o.getD (⟨#[]⟩,⟨#[]⟩)
theorem FP(hb:h[b]? =some (.cells #[.string q.1,.string q.2] 33 (0,0))) {k:dO}
  (c:∀h',h'[b]? =some (.cells #[.string p.1,.string p.2] 33 (0,0))->Upd (· =b) h h'->k h'):qV h (some ⟨b,0,none⟩) 0 [.string p.1,.string p.2]/\At (fS h ⟨b,0,none⟩ 0 [.string p.1,.string p.2]) k:=by
 have e:=iE [.string p.1,.string p.2] h 0 0 [.string q.1,.string q.2] hb a6;refine⟨.inr ⟨_,rfl,λj a=>by rw[bZ];exact fk hb (by simp at a⊢;omega)⟩,bL ?_⟩
 rw[e];refine c _ ?_ (Upd.set h _ rfl);rw[eE hb];rfl
theorem Da(nd:NodeAt W h b s)(hi:i<32){K:Pr×Bool->dO}(k:∀h',Upd No h h'->K (E0 (s.p i),(s.p i).isSome) h'):
  IQ 173 [gZ b,.int .i64 i] K h:=by
 refine Fi _ i ?_;dsimp only[xU,dE,bR,kF,mc,pX,Fb,fj,cM,mH,bo,zd,cJ,Oa,ey];obtain⟨d,n,sp,sk,ow,hb,bits,g,t,u,v⟩:=nd.ex;have k1:=e9 No h [.string (⟨#[]⟩:c6),.string (⟨#[]⟩:c6)] 33;have b1:=cf h [.string (⟨#[]⟩:c6),.string (⟨#[]⟩:c6)] 33;refine bL ?_;simp only[cG h];generalize hnew h [.string (⟨#[]⟩:c6),.string (⟨#[]⟩:c6)] 33=h1 at k1 b1
 have c:=k1.get0 hb;have j:h1[h.size]? =some (.cells #[.string QU.1,.string QU.2] 33 (0,0)):=b1;refine UE c (EX bits.d32 hi ?_);rw[bits.dp i hi];cases hp:s.p i with
 |none=>
  rw[hp]at k;refine ay.2 (FP (p:=QU) j λq b2 e=>⟨_,by rw[bZ,bw b2];rfl,_,by rw[bZ,bw b2];rfl,k _ (k1.trans e λx hx=>.inr (cL hx.symm))⟩)
 |some y=>
  rw[hp]at k;refine ag.2 ⟨_,rfl,sp,eN (i:=2) c,_,rfl,_,eN (i:=0) c,rA bits.d32 hi ⟨eN (i:=2) c,?_⟩⟩;have o:=L6 hi bits.dp hp;have f:=g.upd k1 λ_ h=>h.elim
  obtain⟨a,w,_,hv⟩:=f.at (Yb hi bits.dp hp);have m:=g.len;refine⟨a4,a,w,y.1,hv 0 _ rfl,y.2,hv 1 _ rfl,?_⟩;refine FP (p:=y) j λq b2 e=>⟨_,by rw[bZ,bw b2];rfl,_,by rw[bZ,bw b2];rfl,k _ (k1.trans e λx hx=>.inr (cL hx.symm))⟩
theorem yq(nd:NodeAt W h b s)(hi:i<32){K:aT×Bool->dO}(e:K ((s.k i).getD none,(s.k i).isSome) h):
  uC 177 [gZ b,.int .i64 i] K h:=by
 refine G9 _ i ?_;dsimp only[yX,bR,pX,cJ,qW,cz,jX,fj,N9,ey];obtain⟨d,n,sp,sk,ow,hb,bits,j,c,k,m⟩:=nd.ex;refine Iq hb (EX bits.n32 hi ?_);rw[bits.nk i hi];cases hp:s.k i with
 |none=>rw[hp]at e;exact ay.2 e
 |some y=>
  rw[hp]at e;refine ag.2 ⟨_,rfl,sk,eN (i:=3) hb,_,rfl,_,eN (i:=1) hb,rA bits.n32 hi ⟨eN (i:=3) hb,?_⟩⟩;have g:=L6 hi bits.nk hp;obtain⟨a,o,_,hv⟩:=c.at (Yb hi bits.nk hp);have f:=c.len;exact⟨a4,a,o,y,hv 0 _ rfl,e⟩
theorem p9(hb:h[b]? =some (.cells (eZ d n sp sk e ow) 324 (0,0))) (a:Sl dT 2 W h sp l) (f:l.length<=1000000000) {K:fD->dO}
  (c:∀s' h',OwnS dT 2 33 (λx=>h.size<=x) h' s' l->Upd No h h'->K s' h'):ce 156 [gZ b] K h:=by
 refine vL _ ?_;dsimp only[qg,zd,bR,cJ];exact ag.2 ⟨_,rfl,sp,eN (i:=2) hb,xz a a4 c⟩
theorem Ho{l:List aT}(hb:h[b]? =some (.cells (eZ d n sp sk e ow) 324 (0,0))) (a:Sl qO 1 W h sk l) (f:l.length<=1000000000) {K:fD->dO}
  (c:∀s' h',OwnS qO 1 50 (λx=>h.size<=x) h' s' l->Upd No h h'->K s' h'):ce 157 [gZ b] K h:=by
 refine xI _ ?_;dsimp only[qY,bR,cJ];exact ag.2 ⟨_,rfl,sk,eN (i:=3) hb,E4 a a4 c⟩
structure BuckAt(W:dx)(h:ad)(b:Nat)(l:bY):Prop where
 ex:∃sp sk ow,h[b]? =some (.cells (eZ 0 0 sp sk true ow) 324 (0,0))/\Sl dT 2 W h sp l/\Sl qO 1 W h sk []/\sp.len<=sp.cap/\sk.len<=sk.cap
 nw:¬W b
theorem BuckAt.upd(n:BuckAt W h b l)(k:Upd M h h')(hm:∀b,M b->W b\/h.size<=b):BuckAt W h' b l:=by
 obtain⟨sp,sk,ow,a,c,e,d,f⟩:=n.ex;exact⟨⟨sp,sk,ow,k.get a (λhb=>(hm _ hb).elim n.nw λh=>by have:=bB a;omega),c.upd k hm,e.upd k hm,d,f⟩,n.nw⟩
theorem XV(q:BuckAt W h b l)(n:bS l)(p:l.length<=1000000000)(k:c6){K:c6×Bool->dO}
  (i:∀h' v,Upd No h h'->(cI l k=true->(k,v)∈l)->(cI l k=false->v=⟨#[]⟩)->K (v,cI l k) h'):sJ 170 [gZ b,.string k] K h:=by
 refine Tl _ k ?_;dsimp only[Ke,cM,kG,jX,fj];obtain⟨sp,sk,ow,hb,j,t,u,x⟩:=q.ex;refine p9 hb j p λs w m g=>?_
 have c:Sl dT 2 No w s l:=m.sl λ_ _ _ h=>h
 refine NK c n p k λz d=>?_
 cases ht:cI l k with
 |false=>rw[ht]at i;exact ay.2 (i _ _ (g.tr d) (λh=>by cases h) λ_=>rfl)
 |true=>
  rw[ht]at i;obtain⟨f,e⟩:=Nl n ht;obtain⟨a,y,_,hv⟩:=(c.upd d λ_ h=>h.elim).at (af f)
  have o:=c.len;refine ag.2 ⟨by(try simp only);omega,a,y,_,hv 1 _ rfl,i _ _ (g.tr d) (λ_=>?_) λh=>by cases h⟩
  have:(k,l[pos l k].2)=l[pos l k]:=qn e.symm rfl;rw[this];exact aF f
theorem abi(a:BuckAt W h b l)(d:bS l)(f:l.length<=1000000000)(k:c6){K:c6×Bool->dO}
 (g:∀h' v,Upd No h h'->(cI l k=true->(k,v)∈l)->K (v,cI l k) h'):sJ 170 [gZ b,.string k] K h:=XV a d f k λh' v e c _=>g h' v e c
set_option maxRecDepth 4000 in
theorem Ue(nd:BuckAt W h b l)(X:l.length<=1000000000)
  (z:∀h' sp sk,h'[h.size]? =some (.cells (eZ 0 0 sp sk true none) 324 (0,0))->OwnS dT 2 33 (λx=>h.size<x/\x<h'.size) h' sp l->OwnS qO 1 50 (λx=>h.size<x/\x<h'.size) h' sk []->Upd No h h'->K (some ⟨h.size,0,none⟩) h'):
  fu 239 [gZ b,.pointer none] K h:=by
 obtain⟨sp,sk,ow,hb,G,t,R,L⟩:=nd.ex;refine yR _ none ?_;dsimp only[sQ,ey,ga,nv,yK,cO,bR,dd,WG,abp,cJ,ix,zd];refine LB (ag.2 ?_);have c:∀{h:ad} {b:Nat} {c:Array Value} {i:Nat},h[b]? =some (.cells c 324 (0,0))->aZ h ⟨b,0+i,none⟩=c[i]?:=λhb=>by rw[aU];exact bw hb
 refine⟨_,rfl,_,c (i:=0) hb,_,c (i:=1) hb,sp,c (i:=2) hb,sk,c (i:=3) hb,_,c (i:=4) hb,_,c (i:=5) hb,?_⟩;have k1:=e9 No h [.int .u32 0,.int .u32 0,.slice none 0 0,.slice none 0 0,.bool false,.pointer none] 324;have b1:=cf h [.int .u32 0,.int .u32 0,.slice none 0 0,.slice none 0 0,.bool false,.pointer none] 324;refine bL ?_;simp only[cG h];generalize hnew h [.int .u32 0,.int .u32 0,.slice none 0 0,.slice none 0 0,.bool false,.pointer none] 324=h1 at k1 b1
 have C:fS h1 ⟨h.size,0,none⟩ 0 [.int .u32 ((0:Nat):Int),.int .u32 ((0:Nat):Int),.slice sp.a sp.len sp.cap,.slice sk.a sk.len sk.cap,.bool true,.pointer ow]=_:=iE _ h1 0 0 _ b1 a6;refine⟨.inr ⟨_,rfl,λj P=>by rw[bZ];exact fk b1 (by simp at P⊢;omega)⟩,bL ?_⟩
 rw[C];have b2:=eE (o:=.cells (eZ 0 0 sp sk true ow) 324 (0,0)) b1;have m:Upd No h _:=k1.trans (M':=(· =h.size)) (Upd.set h1 (.cells (eZ 0 0 sp sk true ow) 324 (0,0)) rfl) λx hx=>.inr (cL hx.symm)
 have A:h.size<(h1.setIfInBounds h.size (.cells (eZ 0 0 sp sk true ow) 324 (0,0))).size:=bB b2;have N:h.size≠b:=λe=>by have:=bB hb;omega
 have Q:(Obj.cells (List.take (0+0) [Value.int .u32 0,.int .u32 0,.slice none 0 0,.slice none 0 0,.bool false,.pointer none]++ [Value.int .u32 ((0:Nat):Int),.int .u32 ((0:Nat):Int),.slice sp.a sp.len sp.cap,.slice sk.a sk.len sk.cap,.bool true,.pointer ow]++List.drop (0+0+ [Value.int .u32 ((0:Nat):Int),.int .u32 ((0:Nat):Int),.slice sp.a sp.len sp.cap,.slice sk.a sk.len sk.cap,.bool true,.pointer ow].length) [Value.int .u32 0,.int .u32 0,.slice none 0 0,.slice none 0 0,.bool false,.pointer none]).toArray 324 (0,0))=.cells (eZ 0 0 sp sk true ow) 324 (0,0):=rfl
 rw[Q];generalize h1.setIfInBounds h.size (.cells (eZ 0 0 sp sk true ow) 324 (0,0))=h2 at b2 m A;have g:=m.get0 hb;refine⟨_,rfl,sp,c (i:=2) g,_,rfl,sk,c (i:=3) g,?_⟩;refine xz (G.upd m λ_ h=>h.elim) a4 λq U F d=>?_
 refine⟨c (i:=3) (d.get0 g),?_⟩;refine E4 ((t.upd m λ_ h=>h.elim).upd d λ_ h=>h.elim) a6 λs h4 B f=>?_
 have H:=f.get0 (d.get0 b2);have p:=F.within.upd f λ_ _ h=>h
 have n:=B.within;have Y:=d.size;have T:=f.size;have w:∀{h:ad} {c:Array Value} {x i:Nat},h[x]? =some (.cells c 324 (0,0))->i<c.size->Wr h ⟨x,0+i,none⟩:=λhb hi=>by rw[aU];exact fk hb hi
 have st:∀{h:ad} {c c':Array Value} {x i:Nat} {v:Value} {k:dO},h[x]? =some (.cells c 324 (0,0))->c.setIfInBounds i v=c'->(∀h',h'[x]? =some (.cells c' 324 (0,0))->Upd (· =x) h h'->k h')->At (hset h ⟨x,i,none⟩ v) k:=λhb e z=>zV hb λh' E S=>z h' (e▸E) S
 refine⟨w (i:=2) H (show 2<6 by decide),st (i:=2) (c':=eZ 0 0 q sk true ow) H rfl λV I u=>?_⟩
 refine⟨w (i:=3) I (show 3<6 by decide),st (i:=3) (c':=eZ 0 0 q s true ow) I rfl λh6 J y=>?_⟩
 refine⟨w (i:=5) J (show 5<6 by decide),st (i:=5) (c':=eZ 0 0 q s true none) J rfl λh7 O D=>?_⟩
 refine zC (ag.2 ?_);have a:=u.tr (y.tr D);have Z:=a.size;refine z _ q s O ((p.upd a λx hx e=>?_).more λx hx=>?_) ((n.upd a λx hx e=>?_).more λx hx=>?_) ?_
 .have e:x=h.size:=e;omega
 .omega
 .have e:x=h.size:=e;omega
 .omega
 .exact((m.tr d).tr f).trans a λx hx=>.inr (cL hx.symm)
theorem N1(w:BuckAt W h b l)(n:∀x,W x->x<h.size)(D:bS l)(s:l.length<=1000000000)(p:Pr)
  (A:∀h' b',BuckAt W h' b' (Nz l p)->Upd No h h'->K (some ⟨b',0,none⟩) h'):
  fu 171 [gZ b,.pointer none,.agg #[.string p.1,.string p.2]] K h:=by
 refine G8 _ none p ?_;dsimp only[yW,qD,yK,cJ,mH,bo,ix,dd,zd,bR,r7,AO];have k1:=e9 No h [.string p.1,.string p.2] 33;have b1:=cf h [.string p.1,.string p.2] 33;refine bL ?_;simp only[cG h];generalize hnew h [.string p.1,.string p.2] 33=h1 at k1 b1;have H:=bB b1;have j:=w.upd k1 λ_ h=>h.elim
 obtain⟨sp,sk,ow,hb,G,y,E,z⟩:=j.ex;refine gI hb (ag.2 ?_);refine Ue j s λJ C t b2 u q a=>?_
 have f:=a.get0 b1;refine⟨_,rfl,C,eN (i:=2) b2,p.1,by rw[bZ,bw f];rfl,p.2,by rw[bZ,bw f];rfl,?_⟩
 refine R8 (u.sl λ_ _ _ h=>h) u.cap D s p λv I k d=>?_
 have b3:=d.get0 b2;refine⟨_,rfl,Zh (i:=2) b3 (show 2<6 by decide),KF (i:=2) (c':=eZ 0 0 v t true none) b3 rfl λF B c=>?_⟩
 have L:=bB b2;have m:=k.upd c λx hx e=>by have e:x=h1.size:=e;omega
 have o:=(q.upd d λ_ _ h=>h).upd c λx hx e=>by have e:x=h1.size:=e;omega
 refine A F h1.size ⟨⟨v,t,none,B,m.sl λx hx _ g=>?_,o.sl λx hx _ g=>?_,k.cap,q.cap⟩,λg=>?_⟩ (((k1.tr a).tr d).trans c λx hx=>.inr ?_)
 .have:=n x g;have:=a.size;omega
 .have:=n x g;omega
 .have:=n _ g;omega
 .have hx:x=h1.size:=hx
  omega
theorem Wb(a:∀x,W x->x<h.size)(b:∀h' b',BuckAt W h' b' []->Upd No h h'->K (some ⟨b',0,none⟩) h'):fu 249 [] K h:=by
 refine dg Bz .nil Tryz.func249 Tryz.call249 ?_;unfold Bz;exact b _ _ ⟨⟨⟨none,0,0⟩,⟨none,0,0⟩,none,cf h _ _,Sl.nil fP,Sl.nil sH,aj _,aj _⟩,λhx=>l8 _ (a _ hx)⟩ (e9 No h _ _)
theorem tS(d:∀x,W x->x<h.size)(b:∀h' b',NodeAt W h' b' ⟨λ_=>none,λ_=>none⟩->Upd No h h'->K (some ⟨b',0,none⟩) h'):fu 220 [] K h:=by
 refine dg Ec .nil Tryz.func220 Tryz.call220 ?_;unfold Ec WG;have a:fm (λ_=>(none:Option Pr)) 32= []:=by simp[fm]
 have e:fm (λ_=>(none:Option aT)) 32= []:=by simp[fm]
 refine b _ _ ⟨⟨0,0,⟨none,0,0⟩,⟨none,0,0⟩,none,cf h _ _,⟨a8,a8,λc _=>a6,λc _=>a6⟩,?_,?_,aj _,aj _⟩,λhx=>l8 _ (d _ hx)⟩ (e9 No h _ _)
 .show Sl dT 2 W _ _ (fm (λ_=>none) 32)
  rw[a];exact Sl.nil fP
 .show Sl qO 1 W _ _ (fm (λ_=>none) 32)
  rw[e];exact Sl.nil sH
def gQ(p:Pr):bY->bY
 | []=> [p]
 |q::l=>if kl q.1 p.1 then q::gQ p l else if q.1=p.1 then p::l else p::q::l
theorem gH(p q:Pr)(l:bY):gQ p (q::l)=if kl q.1 p.1 then q::gQ p l else if q.1=p.1 then p::l else p::q::l:=rfl
theorem Hq(p:Pr):∀{l:bY},bS l->Nz l p=gQ p l
 | [],_=>by simp[Nz,gQ,pos,cI]
 |q::l,c=>by
  have c:=aC.1 c;unfold gQ;have a:pos (q::l) p.1=if kl q.1 p.1 then pos l p.1+1 else 0:=by
   unfold pos;rw[List.takeWhile_cons];by_cases h:kl q.1 p.1
   .rw[if_pos (by simpa using h),if_pos h];rfl
   .rw[if_neg (by simpa using h),if_neg h];rfl
  have b:cI (q::l) p.1=(decide (q.1=p.1)||cI l p.1):=by unfold cI;rw[rG]
  by_cases h:kl q.1 p.1
  .have i:q.1≠p.1:=λe=>by rw[e]at h;exact bX _ h
   rw[if_pos h,<-Hq p c.2];unfold Nz;rw[b,a,if_pos h,decide_eq_false i,Bool.false_or];by_cases ht:cI l p.1=true
   .rw[if_pos ht,if_pos ht];rfl
   .rw[if_neg ht,if_neg ht];rfl
  .rw[if_neg h]
   unfold Nz;rw[b,a,if_neg h];by_cases e:q.1=p.1
   .rw[if_pos e,decide_eq_true e,Bool.true_or,if_pos rfl];rfl
   .have d:=mf h e
    have ht:cI l p.1=false:=by
     unfold cI;rw[List.any_eq_false];intro r g f;have f:=of_decide_eq_true f;have:=c.1 r g;rw[f]at this;exact bX _ (dX d this)
    rw[if_neg e,decide_eq_false e,ht];rfl
theorem uy{p q:Pr}:∀{l:bY},q∈gQ p l->q=p\/q∈l
 | [],h=>by simp[gQ]at h;exact .inl h
 |r::l,h=>by
  unfold gQ at h;split at h
  .rcases aw.1 h with h|h
   .exact .inr (h▸aq ..)
   .exact(uy h).imp id λh=>aA _ h
  .split at h
   .rcases aw.1 h with h|h
    .exact .inl h
    .exact .inr (aA _ h)
   .rcases aw.1 h with h|h
    .exact .inl h
    .exact .inr h
theorem pF(p:Pr):∀{l:bY},bS l->bS (gQ p l)
 | [],_=>cB ..
 |q::l,a=>by
  have c:=a;have a:=aC.1 a;unfold gQ;split
  .rename_i h
   refine aC.2 ⟨λr hm=>?_,pF p a.2⟩
   rcases uy hm with rfl|hm
   .exact h
   .exact a.1 r hm
  .rename_i h
   split
   .rename_i e
    exact aC.2 ⟨λr hm=>e▸a.1 r hm,a.2⟩
   .rename_i e
    have b:=mf h e;refine aC.2 ⟨λr hm=>?_,c⟩
    rcases aw.1 hm with rfl|hm
    .exact b
    .exact dX b (a.1 r hm)
theorem IW(p:Pr)(g:c6->Bool):∀{l:bY},bS l->(gQ p l).filter (λq=>g q.1)=if g p.1 then gQ p (l.filter λq=>g q.1)else l.filter λq=>g q.1
 | [],_=>by
  unfold gQ;rw[bf,List.filter_nil]
 |q::l,d=>by
  have i:=d;have d:=aC.1 d;have k:=IW p g d.2;rw[gH];by_cases h:kl q.1 p.1
  .rw[if_pos h,bf,bf,k]
   by_cases f:g q.1=true
   .rw[if_pos f,if_pos f]
    split
    .rw[gH,if_pos h]
    .rfl
   .rw[if_neg f,if_neg f]
  .rw[if_neg h]
   by_cases e:q.1=p.1
   .rw[if_pos e,bf,bf,e]
    by_cases a:g p.1=true
    .rw[if_pos a,if_pos a,if_pos a,gH,if_neg h,if_pos e]
    .rw[if_neg a,if_neg a,if_neg a]
   .rw[if_neg e]
    have c:=mf h e;rw[bf];by_cases a:g p.1=true
    .rw[if_pos a,if_pos a]
     have:∀r∈(q::l).filter (λq=>g q.1),kl p.1 r.1:=λr hm=>by
      rcases aw.1 (bV.1 hm).1 with rfl|hm
      .exact c
      .exact dX c (d.1 r hm)
     cases hf:(q::l).filter (λq=>g q.1)with
     |nil=>rfl
     |cons r rs=>
      have b:=this r (by rw[hf];exact aq ..);rw[gH,if_neg λj=>bX _ (dX b j),if_neg λe=>by rw[e]at b;exact bX _ b]
    .rw[if_neg a,if_neg a]
theorem Hp{p:Pr}:∀{l:bY},bS l->p∈l->gQ p l=l
 |q::l,a,hm=>by
  have a:=aC.1 a;unfold gQ;rcases aw.1 hm with rfl|hm
  .rw[if_neg (bX _),if_pos rfl]
  .rw[if_pos (a.1 p hm),Hp a.2 hm]
def ck(x:Hs)(lev:Nat)(k:c6):Nat:=((jg x k).toNat>>>(5*lev))%32
theorem zS(x:Hs)(lev:Nat)(k:c6):ck x lev k<32:=pC _ a4
def part(x:Hs)(lev c:Nat)(l:bY):bY:=l.filter λp=>decide (ck x lev p.1=c)
def TrieAt(W:dx)(x:Hs)(h:ad):Nat->Nat->bY->Prop
 |0,b,l=>BuckAt W h b l
 |m+1,b,l=>∃s,NodeAt W h b s/\∀c,c<32->
  ((part x (12-m) c l= []/\s.p c=none/\s.k c=none)\/(∃p,part x (12-m) c l= [p]/\s.p c=some p/\s.k c=none)\/
   (2<=(part x (12-m) c l).length/\s.p c=none/\∃kb,s.k c=some (some ⟨kb,0,none⟩)/\TrieAt W x h m kb (part x (12-m) c l)))
theorem TrieAt.upd0(k:Upd No h h'):∀{m b:Nat} {l:bY},TrieAt W x h m b l->TrieAt W x h' m b l
 |0,_,_,t=>BuckAt.upd t k λ_ h=>h.elim
 |_+1,_,_,⟨s,nd,hc⟩=>⟨s,nd.upd k λ_ h=>h.elim,λc a=>(hc c a).imp id λo=>o.imp id λ⟨f,e,g,d,i⟩=>⟨f,e,g,d,TrieAt.upd0 k i⟩⟩
theorem NodeAt.less(n:NodeAt W h b s)(hm:∀b,W' b->W b\/h.size<=b):NodeAt W' h b s:=by
 obtain⟨d,m,sp,sk,ow,a,e,c,g,f,i⟩:=n.ex;exact⟨⟨d,m,sp,sk,ow,a,e,c.less hm,g.less hm,f,i⟩,λhx=>(hm _ hx).elim n.nw λh=>by have:=bB a;omega⟩
theorem BuckAt.less(n:BuckAt W h b l)(hm:∀b,W' b->W b\/h.size<=b):BuckAt W' h b l:=by
 obtain⟨sp,sk,ow,a,c,e,d,f⟩:=n.ex;exact⟨⟨sp,sk,ow,a,c.less hm,e.less hm,d,f⟩,λhx=>(hm _ hx).elim n.nw λh=>by have:=bB a;omega⟩
theorem TrieAt.less(hm:∀b,W' b->W b\/h.size<=b):∀{m b:Nat} {l:bY},TrieAt W x h m b l->TrieAt W' x h m b l
 |0,_,_,t=>BuckAt.less t hm
 |_+1,_,_,⟨s,nd,hc⟩=>⟨s,nd.less hm,λc a=>(hc c a).imp id λo=>o.imp id λ⟨f,e,g,d,i⟩=>⟨f,e,g,d,TrieAt.less hm i⟩⟩
theorem TrieAt.updM(k:Upd M h h')(hm:∀b,M b->W b\/h.size<=b):∀{m b:Nat} {l:bY},TrieAt W x h m b l->TrieAt W x h' m b l
 |0,_,_,t=>BuckAt.upd t k hm
 |_+1,_,_,⟨s,nd,hc⟩=>⟨s,nd.upd k hm,λc a=>(hc c a).imp id λo=>o.imp id λ⟨f,e,g,d,i⟩=>⟨f,e,g,d,TrieAt.updM k hm i⟩⟩
theorem acd(a b:Nat):(aB (al .u64) (a:Int)&&&aB (al .u64) (b:Int)).toNat=(a%18446744073709551616)&&&(b%18446744073709551616):=by
 simp[al];rfl
theorem adz{hv:Int}(d:0<=hv/\hv<18446744073709551616)(f:lev<13){K:Int->dO}(b:K (((hv.toNat>>>(5*lev))%32:Nat):Int) h):fK 172 [.int .u64 hv,.int .i64 lev] K h:=by
 refine dg (Kd hv lev) TB Tryz.func172 Tryz.call172 ?_;unfold Kd;refine eQ (ar (λh=>a4) λ_=>?_)
 rw[decide_eq_false a4];refine ag.2 ?_;have c:ac .i64 (5*(lev:Int))=((5*lev:Nat):Int):=by rw[dI a4];omega
 rw[c];have em:min (((5*lev:Nat):Int)).toNat (al .u64)=5*lev:=by rw[aY];exact bU (by show 5*lev<=64;omega)
 rw[em];obtain⟨n,rfl⟩:=Int.eq_ofNat_of_zero_le d.1;rw[aY]at b;simp only[Bd];rw[m8];have a:n>>>(5*lev)<18446744073709551616:=Nat.lt_of_le_of_lt (Nat.shiftRight_le _ _) a4;have e:=acd (n>>>(5*lev)) 31;rw[Nat.mod_eq_of_lt a,show((31:Nat):Int)=(31:Int)from rfl,show 31%18446744073709551616=2^5-1 from rfl,Nat.and_two_pow_sub_one_eq_mod]at e
 rw[e];have hm:n>>>(5*lev)%2^5<32:=pC _ a4;rw[Go.IntWalk.u64_in _ a4,dI a4];exact⟨a4,b⟩
theorem Yy(a:lev<13){K:Int->dO}(b:K (ck x lev k:Int) h):fK 172 [.int .u64 (jg x k),.int .i64 lev] K h:=adz (F4 x k) a b
abbrev WN(x:Hs)(k:c6):Value:=.agg #[.int .u64 x.k0,.int .u64 x.k1,.int .u64 x.mask,.pointer none,.string k,.int .u64 (jg x k)]
theorem Pt(h:∀p∈l,ck x lev p.1=c):part x lev c l=l:=List.filter_eq_self.2 λp a=>decide_eq_true (h p a)
theorem Ud(h:∀p∈l,ck x lev p.1≠c):part x lev c l= []:=lI.2 λp a=>by simpa using h p a
theorem Pp(a:bS l):part x lev c (gQ p l)=if ck x lev p.1=c then gQ p (part x lev c l)else part x lev c l:=by
 have:=IW p (λk=>decide (ck x lev k=c)) a
 unfold part;rw[this];by_cases h:ck x lev p.1=c
 .rw[if_pos h,if_pos (decide_eq_true h)]
 .rw[if_neg h,if_neg (by simpa using h)]
theorem TN(h:p.1≠q.1):(gQ q [p]).length=2:=by
 rw[gH];by_cases a:kl p.1 q.1
 .rw[if_pos a];rfl
 .rw[if_neg a,if_neg h];rfl
theorem Uj{r:Pr}(h:r∈gQ q [p]):r=p\/r=q:=(uy h).symm.imp (λh=>az.1 h) id
theorem hE{β:Type}{g:Nat->Option β}{x:Option β}(h:c≠i):upd g i x c=g c:=by unfold upd;rw[if_neg h]
theorem aaK:∀(m:Nat) (p q:Pr),m<=13->p.1≠q.1->∀{h:ad},(∀y,W y->y<h.size)->∀{K:aT->dO},(∀h' b',TrieAt W x h' m b' (gQ q [p])->Upd No h h'->K (some ⟨b',0,none⟩) h')->
  fu 176 [WN x q.1,.agg #[.string p.1,.string p.2],.agg #[.string q.1,.string q.2],.int .i64 ((13-m:Nat):Int)] K h:=by
 intro m;induction m with
 |zero=>
  intro p q _ I h R K P;have C:∀{h'},Upd No h h'->∀y,W y->y<h'.size:=λk y Q=>aD (R y Q) k.size
  refine vN (x.k0,x.k1,x.mask,none,q.1,jg x q.1) p q ((13-0:Nat):Int) ?_;dsimp only[qi,ao,bo,zh,aE,qD,ge,BF,Nm,pY,HN,mH,GY,iZ,fY,r7,AO,DJ];have k1:=e9 No h [.int .u64 x.k0,.int .u64 x.k1,.int .u64 x.mask,.pointer none,.string q.1,.int .u64 (jg x q.1)] 198;have b1:=cf h [.int .u64 x.k0,.int .u64 x.k1,.int .u64 x.mask,.pointer none,.string q.1,.int .u64 (jg x q.1)] 198
  refine bL ?_;simp only[cG h];generalize hnew h [.int .u64 x.k0,.int .u64 x.k1,.int .u64 x.mask,.pointer none,.string q.1,.int .u64 (jg x q.1)] 198=h1 at k1 b1;have B:=e9 No h1 [.string p.1,.string p.2] 33;have b2:=cf h1 [.string p.1,.string p.2] 33;refine bL ?_;simp only[cG h1];generalize hnew h1 [.string p.1,.string p.2] 33=h2 at B b2;have z:=e9 No h2 [.string q.1,.string q.2] 33
  have b3:=cf h2 [.string q.1,.string q.2] 33;refine bL ?_;simp only[cG h2];generalize hnew h2 [.string q.1,.string q.2] 33=h3 at z b3;have d:∀{h':ad},Upd No h3 h'->∀i,aZ h' (adr ⟨h.size,0,none⟩ i)=(#[.int .u64 x.k0,.int .u64 x.k1,.int .u64 x.mask,.pointer none,.string q.1,.int .u64 (jg x q.1)]:Array Value)[i]?:=λk i=>by
   rw[bZ,bw (k.get0 (z.get0 (B.get0 b1))),aU]
  have u:∀{h':ad},Upd No h3 h'->∀i,aZ h' (adr ⟨h1.size,0,none⟩ i)=(#[.string p.1,.string p.2]:Array Value)[i]?:=λk i=>by rw[bZ,bw (k.get0 (z.get0 b2)),aU]
  have o:∀{h':ad},Upd No h3 h'->∀i,aZ h' (adr ⟨h2.size,0,none⟩ i)=(#[.string q.1,.string q.2]:Array Value)[i]?:=λk i=>by rw[bZ,bw (k.get0 b3),aU]
  have r:=eM No h3;refine ay.2 ⟨none,d r 3,p.1,u r 0,p.2,u r 1,none,d r 3,q.1,o r 0,q.2,o r 1,?_⟩;refine Wb (C ((k1.tr B).tr z)) λh4 b4 U b=>⟨⟨o b 0,o b 1⟩,d b 3,⟨u b 0,u b 1⟩,d b 3,?_⟩
  refine N1 U (C (((k1.tr B).tr z).tr b)) cj a6 p λY b5 J A=>?_
  have n:=b.tr A;refine⟨⟨o n 0,o n 1⟩,d n 3,?_⟩;have L:Nz [] p= [p]:=Hq p cj;rw[L]at J;refine N1 J (C (((k1.tr B).tr z).tr n)) (cB ..) a6 q λX N O v=>?_
  rw[Hq q (cB ..)]at O;exact P X N O ((((k1.tr B).tr z).tr n).tr v)
 |succ m ih=>
  intro p q hm I h R K P;have C:∀{h'},Upd No h h'->∀y,W y->y<h'.size:=λk y Q=>aD (R y Q) k.size
  have Z:13-(m+1)<13:=a4
  have j:13-(m+1)=12-m:=a4
  refine vN (x.k0,x.k1,x.mask,none,q.1,jg x q.1) p q ((13-(m+1):Nat):Int) ?_;dsimp only[qi,ao,bo,zh,aE,qD,ge,BF,Nm,pY,HN,mH,GY,iZ,fY,r7,AO,DJ];have k1:=e9 No h [.int .u64 x.k0,.int .u64 x.k1,.int .u64 x.mask,.pointer none,.string q.1,.int .u64 (jg x q.1)] 198;have b1:=cf h [.int .u64 x.k0,.int .u64 x.k1,.int .u64 x.mask,.pointer none,.string q.1,.int .u64 (jg x q.1)] 198
  refine bL ?_;simp only[cG h];generalize hnew h [.int .u64 x.k0,.int .u64 x.k1,.int .u64 x.mask,.pointer none,.string q.1,.int .u64 (jg x q.1)] 198=h1 at k1 b1;have B:=e9 No h1 [.string p.1,.string p.2] 33;have b2:=cf h1 [.string p.1,.string p.2] 33;refine bL ?_;simp only[cG h1];generalize hnew h1 [.string p.1,.string p.2] 33=h2 at B b2;have z:=e9 No h2 [.string q.1,.string q.2] 33
  have b3:=cf h2 [.string q.1,.string q.2] 33;refine bL ?_;simp only[cG h2];generalize hnew h2 [.string q.1,.string q.2] 33=h3 at z b3;have d:∀{h':ad},Upd No h3 h'->∀i,aZ h' (adr ⟨h.size,0,none⟩ i)=(#[.int .u64 x.k0,.int .u64 x.k1,.int .u64 x.mask,.pointer none,.string q.1,.int .u64 (jg x q.1)]:Array Value)[i]?:=λk i=>by
   rw[bZ,bw (k.get0 (z.get0 (B.get0 b1))),aU]
  have u:∀{h':ad},Upd No h3 h'->∀i,aZ h' (adr ⟨h1.size,0,none⟩ i)=(#[.string p.1,.string p.2]:Array Value)[i]?:=λk i=>by rw[bZ,bw (k.get0 (z.get0 b2)),aU]
  have o:∀{h':ad},Upd No h3 h'->∀i,aZ h' (adr ⟨h2.size,0,none⟩ i)=(#[.string q.1,.string q.2]:Array Value)[i]?:=λk i=>by rw[bZ,bw (k.get0 b3),aU]
  have r:=eM No h3;have ne:(((13-(m+1):Nat):Int)==(13:Int))=false:=by rw[beq_eq_false_iff_ne];omega
  rw[ne];refine ag.2 ⟨_,d r 0,_,d r 1,_,d r 2,_,u r 0,_,d r 5,?_⟩;refine Dk λh4 b=>⟨d b 5,Yy Z ⟨d b 5,Yy Z ?_⟩⟩
  have hi:=zS x (13-(m+1)) p.1;have hj:=zS x (13-(m+1)) q.1;have g:=((k1.tr B).tr z);have hcl:=TN I;refine eh (λe=>?_) λe=>?_
  .have e:ck x (13-(m+1)) p.1=ck x (13-(m+1)) q.1:=by have:=eq_of_beq e;omega
   refine⟨_,d b 3,_,d b 0,_,d b 1,_,d b 2,_,d b 3,_,d b 4,_,d b 5,_,u b 0,_,u b 1,_,o b 0,_,o b 1,?_⟩;refine tS (C (g.tr b)) λY b5 H A=>?_
   have a:=b.tr A;refine⟨⟨o a 0,o a 1⟩,⟨u a 0,u a 1⟩,⟨d a 0,d a 1,d a 2,d a 3,d a 4,d a 5⟩,d a 3,?_⟩;have ew:ac .i64 (((13-(m+1):Nat):Int)+1)=((13-m:Nat):Int):=by rw[dI a4];omega
   rw[ew];refine ih p q a4 I (C (g.tr a)) λX N t6 v=>?_
   have f:=a.tr v;refine⟨d f 3,?_⟩;refine Ar (H.upd v λ_ h=>h.elim) (C (g.tr f)) hi (λy h=>by cases h) ⟨N,0,none⟩ λV S F D=>?_
   refine P V S ⟨_,F,λc hc=>?_⟩ ((g.tr f).tr D)
   rw[j]at e;by_cases s:c=ck x (13-(m+1)) p.1
   .refine .inr (.inr ?_)
    have ea:part x (12-m) c (gQ q [p])=gQ q [p]:=Pt λr G=>by
     rcases Uj G with rfl|rfl
     .rw[s,j]
     .rw[s,j,e]
    rw[ea];exact⟨a4,by simp[upd],N,by rw[s];exact is,TrieAt.upd0 D t6⟩
   .refine .inl ⟨Ud λr G=>?_,by simp[upd],hE s⟩
    rw[j]at s;rcases Uj G with rfl|rfl
    .exact λe=>s e.symm
    .rw[<-e];exactλe=>s e.symm
  .have e:ck x (13-(m+1)) p.1≠ck x (13-(m+1)) q.1:=λh=>by rw[h]at e;simp at e
   refine⟨_,d b 3,_,u b 0,_,u b 1,_,d b 3,_,o b 0,_,o b 1,?_⟩;refine tS (C (g.tr b)) λY b5 H A=>?_
   have a:=b.tr A;refine⟨⟨o a 0,o a 1⟩,d a 3,⟨u a 0,u a 1⟩,d a 3,?_⟩;refine un H (C (g.tr a)) hi (λy h=>by cases h) p λX N T v=>?_
   have f:=a.tr v;refine⟨⟨o f 0,o f 1⟩,d f 3,?_⟩;refine un T (C (g.tr f)) hj (λy h=>by simp[upd]) q λV S F D=>?_
   refine P V S ⟨_,F,λc hc=>?_⟩ ((g.tr f).tr D)
   have t:=Pp (x:=x) (lev:=12-m) (c:=c) (p:=q) (l:= [p]) (cB ..);rw[j]at e;by_cases E:c=ck x (12-m) p.1
   .have w:ck x (12-m) q.1≠c:=λh=>e a4
    have L:part x (12-m) c [p]= [p]:=Pt λr G=>by rw[az.1 G,E]
    rw[if_neg w,L]at t;exact .inr (.inl ⟨p,t,by simp[upd,j,E,e],by simp[upd]⟩)
   .have L:part x (12-m) c [p]= []:=Ud λr G=>by rw[az.1 G];exactλh=>E h.symm
    rw[L]at t;by_cases w:c=ck x (12-m) q.1
    .rw[if_pos w.symm]at t
     exact .inr (.inl ⟨q,t,by simp[upd,j,w],by simp[upd]⟩)
    .rw[if_neg λh=>w h.symm]at t
     exact .inl ⟨t,by simp[upd,j,w,E],by simp[upd]⟩
noncomputable instance memDec (p:Pr) (l:bY):Decidable (p∈l):=Classical.propDecidable _
theorem H9(a:bS l){v w:c6}(b:(k,v)∈l)(c:(k,w)∈l):v=w:=by
 induction l with
 |nil=>cases b
 |cons q l ih=>
  have a:=aC.1 a;rcases aw.1 b with e|b<;>rcases aw.1 c with d|c
  .exact(Prod.mk.inj (e.trans d.symm)).2
  .have:=a.1 _ c;rw[<-e]at this;exact absurd this (bX _)
  .have:=a.1 _ b;rw[<-d]at this;exact absurd this (bX _)
  .exact ih a.2 b c
theorem mV:p∈part x lev c l↔p∈l/\ck x lev p.1=c:=by unfold part;rw[bV,decide_eq_true_iff]
theorem HR:cI (part x lev (ck x lev k) l) k=cI l k:=by
 unfold cI;rw[gN,cq,cq];constructor
 .rintro⟨p,a,e⟩;exact⟨p,(mV.1 a).1,e⟩
 .rintro⟨p,a,e⟩;exact⟨p,mV.2 ⟨a,by rw[of_decide_eq_true e]⟩,e⟩
theorem jv(a:bS l):bS (part x lev c l):=a.sublist List.filter_sublist
theorem jw:(part x lev c l).length<=l.length:=bQ ..
def SlotIs(W:dx)(x:Hs)(h:ad)(m:Nat)(s:Slots)(c:Nat)(l:bY):Prop:=
 (l= []/\s.p c=none/\s.k c=none)\/(∃p,l= [p]/\s.p c=some p/\s.k c=none)\/(2<=l.length/\s.p c=none/\∃kb,s.k c=some (some ⟨kb,0,none⟩)/\TrieAt W x h m kb l)
theorem SlotIs.upd0(k:Upd No h h')(t:SlotIs W x h m s c l):SlotIs W x h' m s c l:=t.imp id λo=>o.imp id λ⟨d,b,e,a,f⟩=>⟨d,b,e,a,TrieAt.upd0 k f⟩
theorem PO(p:Pr):∀{l:bY},l.length<=(gQ p l).length
 | []=>aJ _
 |q::l=>by
  rw[gH];split
  .have:=PO p (l:=l);simp only[av];omega
  .split<;>simp
theorem Vc{b':Nat}{s':Slots}(b:bS l)(a:Upd No h h')(nd:NodeAt W h' b' s')(g:∀c,c<32->SlotIs W x h m s c (part x (12-m) c l))
  (f:∀c,c≠ck x (12-m) p.1->s'.p c=s.p c/\s'.k c=s.k c)(hi:SlotIs W x h' m s' (ck x (12-m) p.1) (gQ p (part x (12-m) (ck x (12-m) p.1) l))):TrieAt W x h' (m+1) b' (gQ p l):=by
 refine⟨s',nd,λc hc=>?_⟩
 rw[Pp b];by_cases e:ck x (12-m) p.1=c
 .rw[if_pos e];subst e;exact hi
 .rw[if_neg e]
  have t:=SlotIs.upd0 a (g c hc);obtain⟨i,d⟩:=f c λh=>e h.symm
  unfold SlotIs at t;rw[<-i,<-d]at t;exact t
theorem dZ{a b:c6}:(a.toList==b.toList)=decide (a=b):=by
 rw[gN,beq_iff_eq,decide_eq_true_iff,AH]
theorem abI:∀(m:Nat),m<=13->∀{b:Nat} {l:bY} (p:Pr) {h:ad},TrieAt W x h m b l->(∀y,W y->y<h.size)->bS l->l.length<=1000000->∀{K:aT×Bool×Bool->dO},
  (∀h' b' ch,Upd No h h'->TrieAt W x h' m b' (gQ p l)->(ch=false->b'=b)->ch= !decide (p∈l)->K (some ⟨b',0,none⟩, !cI l p.1,ch) h')->
  NH 114 [WN x p.1,gZ b,.agg #[.string p.1,.string p.2],.int .i64 ((13-m:Nat):Int)] K h:=by
 intro m;induction m with
 |zero=>
  intro _ b l p h t hW S hn K G;have U:∀{h'},Upd No h h'->∀y,W y->y<h'.size:=λk y hy=>aD (hW y hy) k.size
  refine xL (x.k0,x.k1,x.mask,none,p.1,jg x p.1) (some ⟨b,0,none⟩) p ((13-0:Nat):Int) ?_;dsimp only[rg,ao,bo,nv,aE,qD,pW,AO,mc,jV,BF,Nm,pY,HN,mH,GY,iZ,fY,r7,DJ];have k1:=e9 No h [.int .u64 x.k0,.int .u64 x.k1,.int .u64 x.mask,.pointer none,.string p.1,.int .u64 (jg x p.1)] 198;have b1:=cf h [.int .u64 x.k0,.int .u64 x.k1,.int .u64 x.mask,.pointer none,.string p.1,.int .u64 (jg x p.1)] 198
  refine bL ?_;simp only[cG h];generalize hnew h [.int .u64 x.k0,.int .u64 x.k1,.int .u64 x.mask,.pointer none,.string p.1,.int .u64 (jg x p.1)] 198=C at k1 b1;have k2:=e9 No C [.string p.1,.string p.2] 33;have b2:=cf C [.string p.1,.string p.2] 33;refine bL ?_;simp only[cG C];generalize hnew C [.string p.1,.string p.2] 33=d at k2 b2;have u:∀{h':ad},Upd No d h'->∀i,aZ h' (adr ⟨h.size,0,none⟩ i)=(#[.int .u64 x.k0,.int .u64 x.k1,.int .u64 x.mask,.pointer none,.string p.1,.int .u64 (jg x p.1)]:Array Value)[i]?:=λk i=>by
   rw[bZ,bw (k.get0 (k2.get0 b1)),aU]
  have A:∀{h':ad},Upd No d h'->∀i,aZ h' (adr ⟨C.size,0,none⟩ i)=(#[.string p.1,.string p.2]:Array Value)[i]?:=λk i=>by rw[bZ,bw (k.get0 b2),aU]
  have r:=eM No d;have f:=k1.tr k2;have bk:BuckAt W d b l:=BuckAt.upd t f λ_ h=>h.elim
  obtain⟨sp,sk,ow,hb,_⟩:=bk.ex;refine gI hb (ay.2 ⟨_,A r 0,abi bk S a4 p.1 λI v H hv=>?_⟩)
  have put:∀(V:p∉l) {h4:ad},Upd No d h4->fu 171 [gZ b,.pointer none,.agg #[.string p.1,.string p.2]] (λ(e15:aT) h16=>K (e15, !cI l p.1,true) h16) h4:=λV h4 o=>
   N1 (bk.upd o λ_ h=>h.elim) (U (f.tr o)) S a4 p λh5 b5 bk5 hu5=>by
    rw[Hq p S]at bk5;exact G h5 b5 true ((f.tr o).tr hu5) bk5 (λh=>by cases h) (by rw[decide_eq_false V];rfl)
  refine eF (λt' h'=>t'=decide (p∈l)/\Upd No d h') (λR hR=>?_) ?_
  .cases ht:cI l p.1 with
   |false=>
    refine ag.2 (hR _ _ ⟨?_,H⟩);refine(decide_eq_false λhm=>?_).symm
    have:cI l p.1=true:=cq.2 ⟨p,hm,decide_eq_true rfl⟩;rw[ht]at this;cases this
   |true=>
    have hv:=hv ht;refine ay.2 ⟨_,A H 1,hR _ _ ⟨?_,H⟩⟩;rw[dZ,decide_eq_decide];constructor
    .intro e
     have e:v=p.2:=e;rw[e]at hv;exact hv
    .intro hm
     exact H9 S hv (show(p.1,p.2)∈l from hm)
  .rintro t' h4 ⟨rfl,o⟩
   by_cases hm:p∈l
   .rw[decide_eq_true hm]
    refine ay.2 ?_;have ht:cI l p.1=true:=cq.2 ⟨p,hm,decide_eq_true rfl⟩;have:=G h4 b false (f.tr o) (by rw[Hp S hm];exact bk.upd o λ_ h=>h.elim) (λ_=>rfl) (by rw[decide_eq_true hm];rfl)
    rw[ht]at this;exact this
   .rw[decide_eq_false hm]
    refine ag.2 ⟨none,u o 3,_,A o 0,_,A o 1,put hm o⟩
 |succ m ih=>
  intro hm b l p h t hW S hn K G;have U:∀{h'},Upd No h h'->∀y,W y->y<h'.size:=λk y hy=>aD (hW y hy) k.size
  have hl:13-(m+1)<13:=a4
  have hlev:13-(m+1)=12-m:=a4
  refine xL (x.k0,x.k1,x.mask,none,p.1,jg x p.1) (some ⟨b,0,none⟩) p ((13-(m+1):Nat):Int) ?_;dsimp only[rg,ao,bo,nv,aE,qD,pW,AO,mc,jV,BF,Nm,pY,HN,mH,GY,iZ,fY,r7,DJ];have k1:=e9 No h [.int .u64 x.k0,.int .u64 x.k1,.int .u64 x.mask,.pointer none,.string p.1,.int .u64 (jg x p.1)] 198;have b1:=cf h [.int .u64 x.k0,.int .u64 x.k1,.int .u64 x.mask,.pointer none,.string p.1,.int .u64 (jg x p.1)] 198
  refine bL ?_;simp only[cG h];generalize hnew h [.int .u64 x.k0,.int .u64 x.k1,.int .u64 x.mask,.pointer none,.string p.1,.int .u64 (jg x p.1)] 198=C at k1 b1;have k2:=e9 No C [.string p.1,.string p.2] 33;have b2:=cf C [.string p.1,.string p.2] 33;refine bL ?_;simp only[cG C];generalize hnew C [.string p.1,.string p.2] 33=d at k2 b2;have u:∀{h':ad},Upd No d h'->∀i,aZ h' (adr ⟨h.size,0,none⟩ i)=(#[.int .u64 x.k0,.int .u64 x.k1,.int .u64 x.mask,.pointer none,.string p.1,.int .u64 (jg x p.1)]:Array Value)[i]?:=λk i=>by
   rw[bZ,bw (k.get0 (k2.get0 b1)),aU]
  have A:∀{h':ad},Upd No d h'->∀i,aZ h' (adr ⟨C.size,0,none⟩ i)=(#[.string p.1,.string p.2]:Array Value)[i]?:=λk i=>by rw[bZ,bw (k.get0 b2),aU]
  have r:=eM No d;have f:=k1.tr k2;obtain⟨s,Z,hs0⟩:=TrieAt.upd0 f t;have hs:∀c,c<32->SlotIs W x d m s c (part x (12-m) c l):=hs0;have tt:∀{h':ad},Upd No d h'->TrieAt W x h' (m+1) b l:=λk=>TrieAt.upd0 (f.tr k) t
  obtain⟨d0,n0,sp0,sk0,ow0,hb0,_⟩:=Z.ex;refine gI hb0 (ag.2 ⟨_,u r 5,Yy hl ?_⟩);rw[hlev];have hi:=zS x (12-m) p.1;have N:=hs _ hi;have hrp:=jv (x:=x) (lev:=12-m) (c:=ck x (12-m) p.1) S;have hnp:(part x (12-m) (ck x (12-m) p.1) l).length<=1000000:=aO jw hn;have L:p∈part x (12-m) (ck x (12-m) p.1) l↔p∈l:=by rw[mV];exact⟨λh=>h.1,λh=>⟨h,rfl⟩⟩
  have Q:=HR (x:=x) (lev:=12-m) (l:=l) (k:=p.1);have j:=λ{h':ad} {b':Nat} {s':Slots}=>Vc (W:=W) (x:=x) (h:=d) (h':=h') (m:=m) (b':=b') (s:=s) (s':=s') (l:=l) (p:=p) S
  generalize hc:ck x (12-m) p.1=c at hi N hrp hnp L Q j;generalize hlp:part x (12-m) c l=lc at N hrp hnp L Q j;refine Da Z hi λI H=>?_
  have k4:=e9 No I [.string (⟨#[]⟩:c6),.string (⟨#[]⟩:c6)] 33;have b4:=cf I [.string (⟨#[]⟩:c6),.string (⟨#[]⟩:c6)] 33;refine bL ?_;simp only[cG I];generalize hnew I [.string (⟨#[]⟩:c6),.string (⟨#[]⟩:c6)] 33=h4 at k4 b4;have b4':h4[I.size]? =some (.cells #[.string QU.1,.string QU.2] 33 (0,0)):=b4;refine FP (p:=E0 (s.p c)) b4' λh5 b5 hu5=>?_
  have a:Upd No d h5:=(H.tr k4).trans hu5 λy hy=>.inr (by have hy:y=I.size:=hy;have:=H.size;omega)
  have Y:∀{h':ad},Upd No h5 h'->∀i,aZ h' (adr ⟨I.size,0,none⟩ i)=(#[.string (E0 (s.p c)).1,.string (E0 (s.p c)).2]:Array Value)[i]?:=λk i=>by rw[bZ,bw (k.get0 b5),aU]
  have r5:=eM No h5;have P:=Z.upd a λ_ h=>h.elim
  cases hsp:s.p c with
  |some y=>
   rw[hsp]at Y;obtain⟨D,hk0⟩:lc= [y]/\s.k c=none:=by
    rcases N with⟨_,d,_⟩|⟨q,C,d,I⟩|⟨_,d,_⟩
    .rw[hsp]at d;cases d
    .rw[hsp]at d;cases d;exact⟨C,I⟩
    .rw[hsp]at d;cases d
   refine ay.2 ⟨y.1,Y r5 0,y.2,Y r5 1,p.1,A a 0,p.2,A a 1,?_⟩;rw[dZ,dZ];have hyl:y∈l:=(mV.1 (show y∈part x (12-m) c l by rw[hlp,D];exact az.2 rfl)).1
   by_cases J:y.1=p.1
   .have ht:cI l p.1=true:=cq.2 ⟨y,hyl,decide_eq_true J⟩
    rw[ht]at G;by_cases e2:y.2=p.2
    .rw[decide_eq_true J,decide_eq_true e2]
     have hyp:y=p:=qn J e2;have w:p∈l:=hyp▸hyl;refine ay.2 ?_;exact G h5 b false (f.tr a) (by rw[Hp S w];exact tt a) (λ_=>rfl) (by rw[decide_eq_true w];rfl)
    .rw[decide_eq_true J,decide_eq_false e2]
     refine ag.2 ⟨y.1,Y r5 0,p.1,A a 0,?_⟩;rw[dZ,decide_eq_true J];refine ay.2 ⟨none,u a 3,p.1,A a 0,p.2,A a 1,?_⟩;refine un P (U (f.tr a)) hi (λ_ _=>hk0) p λh6 T nd6 g=>?_
     have O:p∉l:=λhm=>by
      have:=L.2 hm;rw[D]at this;exact e2 (by rw[az.1 this])
     refine G h6 T true ((f.tr a).tr g) (j (a.tr g) nd6 hs (λc' n=>⟨hE n,hE n⟩) ?_) (λh=>by cases h) (by rw[decide_eq_false O];rfl)
     refine .inr (.inl ⟨p,?_,is,is⟩);rw[D,gH,if_neg (by rw[J];exact bX _),if_pos J]
   .rw[decide_eq_false J]
    refine ag.2 ⟨y.1,Y r5 0,p.1,A a 0,?_⟩;rw[dZ,decide_eq_false J];refine ag.2 ⟨none,u a 3,_,u a 0,_,u a 1,_,u a 2,_,u a 3,_,u a 4,_,u a 5,y.1,Y r5 0,y.2,Y r5 1,p.1,A a 0,p.2,A a 1,?_⟩;have ew:ac .i64 (((12-m:Nat):Int)+1)=((13-m:Nat):Int):=by rw[dI a4];omega
    rw[ew];refine aaK m y p a4 J (U (f.tr a)) λh6 T t6 g=>⟨u (a.tr g) 3,?_⟩
    refine Ar (P.upd g λ_ h=>h.elim) (U ((f.tr a).tr g)) hi (λz hz=>by rw[hk0]at hz;cases hz) ⟨T,0,none⟩ λh7 b7 X E=>?_
    have ht:cI l p.1=false:=by
     rw[<-Q,D];unfold cI;rw[rG,decide_eq_false J];rfl
    have O:p∉l:=λhm=>by
     have:cI l p.1=true:=cq.2 ⟨p,hm,decide_eq_true rfl⟩;rw[ht]at this;cases this
    rw[ht]at G;refine G h7 b7 true (((f.tr a).tr g).tr E) (j ((a.tr g).tr E) X hs (λc' n=>⟨hE n,hE n⟩) ?_) (λh=>by cases h) (by rw[decide_eq_false O];rfl)
    rw[D];exact .inr (.inr ⟨by rw[TN J];omega,is,T,is,TrieAt.upd0 E t6⟩)
  |none=>
   refine ag.2 (yq P hi ?_);cases hsk:s.k c with
   |none=>
    have hlc:lc= []:=by
     rcases N with⟨C,_⟩|⟨q,_,d,_⟩|⟨_,_,kb,d,_⟩
     .exact C
     .rw[hsp]at d;cases d
     .rw[hsk]at d;cases d
    refine ay.2 ⟨none,u a 3,p.1,A a 0,p.2,A a 1,?_⟩;refine un P (U (f.tr a)) hi (λ_ _=>hsk) p λh6 T nd6 g=>?_
    have ht:cI l p.1=false:=by rw[<-Q,hlc];rfl
    have O:p∉l:=λhm=>by
     have:cI l p.1=true:=cq.2 ⟨p,hm,decide_eq_true rfl⟩;rw[ht]at this;cases this
    rw[ht]at G;refine G h6 T true ((f.tr a).tr g) (j (a.tr g) nd6 hs (λc' n=>⟨hE n,hE n⟩) ?_) (λh=>by cases h) (by rw[decide_eq_false O];rfl)
    rw[hlc];exact .inr (.inl ⟨p,rfl,is,is⟩)
   |some kp=>
    obtain⟨h2l,kb,rfl,tk⟩:2<=lc.length/\∃kb,kp=some ⟨kb,0,none⟩/\TrieAt W x d m kb lc:=by
     rcases N with⟨_,_,d⟩|⟨q,_,d,_⟩|⟨C,_,kb,d,I⟩
     .rw[hsk]at d;cases d
     .rw[hsp]at d;cases d
     .rw[hsk]at d;cases d;exact⟨C,kb,rfl,I⟩
    refine ag.2 ⟨_,u a 0,_,u a 1,_,u a 2,_,u a 3,_,u a 4,_,u a 5,p.1,A a 0,p.2,A a 1,?_⟩;have ew:ac .i64 (((12-m:Nat):Int)+1)=((13-m:Nat):Int):=by rw[dI a4];omega
    rw[ew];refine ih a4 p (TrieAt.upd0 a tk) (U (f.tr a)) hrp hnp λh6 T ch g t6 hsame F=>?_
    have B:=a.tr g;by_cases w:p∈l
    .have F:ch=false:=by rw[F,decide_eq_true (L.2 w)];rfl
     have ht:cI l p.1=true:=cq.2 ⟨p,w,decide_eq_true rfl⟩;rw[ht]at G;rw[F];refine ay.2 ?_;exact G h6 b false (f.tr B) (by rw[Hp S w];exact tt B) (λ_=>rfl) (by rw[decide_eq_true w];rfl)
    .have F:ch=true:=by rw[F,decide_eq_false λh=>w (L.1 h)];rfl
     rw[F];refine ag.2 ⟨none,u B 3,?_⟩;refine Ar (P.upd g λ_ h=>h.elim) (U ((f.tr a).tr g)) hi (λ_ _=>hsp) ⟨T,0,none⟩ λh7 b7 X E=>?_
     rw[Q];refine G h7 b7 true ((f.tr B).tr E) (j (B.tr E) X hs (λc' n=>⟨hE n,hE n⟩) ?_) (λh=>by cases h) (by rw[decide_eq_false w];rfl)
     exact .inr (.inr ⟨aO h2l (PO p),is,T,is,TrieAt.upd0 E t6⟩)
theorem OM(nd:NodeAt W h b ⟨λ_=>none,λ_=>none⟩):TrieAt W x h (m+1) b []:=⟨_,nd,λ_ _=>.inl ⟨rfl,rfl,rfl⟩⟩
def RootAt(W:dx)(x:Hs)(h:ad)(r:aT)(l:bY):Prop:=(r=none/\l= [])\/∃b,r=some ⟨b,0,none⟩/\TrieAt W x h 13 b l
theorem RootAt.upd0(k:Upd No h h')(t:RootAt W x h r l):RootAt W x h' r l:=t.imp id λ⟨b,e,t⟩=>⟨b,e,TrieAt.upd0 k t⟩
theorem M5(t:RootAt W x h r l)(c:∀y,W y->y<h.size)(a:∀h' b,TrieAt W x h' 13 b l->Upd No h h'->(r=some ⟨b,0,none⟩\/r=none)->K (some ⟨b,0,none⟩) h'):fu 115 [.pointer r] K h:=by
 refine dg (Ef r) .nil Tryz.func115 Tryz.call115 ?_;unfold Ef;rcases t with⟨rfl,rfl⟩|⟨b,rfl,t⟩
 .refine ay.2 (Bk ?_)
  unfold wX;exact tS c λh' b nd d=>a h' b (OM nd) d (.inr rfl)
 .exact ag.2 (a h b t (eM _ _) (.inl rfl))
theorem co{t:TypeId}{c vs:c4}(hb:h[b]? =some (.cells c.toArray t (0,0))) (a:vs.length=c.length) {k:dO}
  (d:∀h',h'[b]? =some (.cells vs.toArray t (0,0))->Upd (· =b) h h'->k h'):qV h (some ⟨b,0,none⟩) 0 vs/\At (fS h ⟨b,0,none⟩ 0 vs) k:=by
 have e:=iE vs h 0 0 c hb a4;refine⟨.inr ⟨_,rfl,λj f=>by rw[bZ];exact fk hb (by rw[List.size_toArray];omega)⟩,bL ?_⟩
 rw[e];refine d _ ?_ (Upd.set h _ rfl);rw[eE hb];congr 3
 simp[a]
set_option maxRecDepth 4000 in
theorem Qe(t:RootAt W x h r l)(O:∀y,W y->y<h.size)(U:bS l)(T:l.length<=1000000)(p:Pr){K:aT×Bool->dO}
  (S:∀h' b',Upd No h h'->TrieAt W x h' 13 b' (gQ p l)->(p∈l->r=some ⟨b',0,none⟩\/r=none)->K (some ⟨b',0,none⟩, !cI l p.1) h'):
  uC 64 [.agg #[.int .u64 x.k0,.int .u64 x.k1,.int .u64 x.mask],.pointer none,.pointer r,.agg #[.string p.1,.string p.2]] K h:=by
 refine dg (GH (x.k0,x.k1,x.mask) none r p) QR Tryz.func64 Tryz.call64 ?_;dsimp only[GH,ao,bo,dE,AP,zh,aE,qD,abn,abs,BF,mH,iZ,GY,fY,r7,AO];have k1:=e9 No h [.int .u64 x.k0,.int .u64 x.k1,.int .u64 x.mask] 26;have b1:=cf h [.int .u64 x.k0,.int .u64 x.k1,.int .u64 x.mask] 26;refine bL ?_;simp only[cG h];generalize hnew h [.int .u64 x.k0,.int .u64 x.k1,.int .u64 x.mask] 26=h1 at k1 b1
 have H:=e9 No h1 [.string p.1,.string p.2] 33;have b2:=cf h1 [.string p.1,.string p.2] 33;refine bL ?_;simp only[cG h1];generalize hnew h1 [.string p.1,.string p.2] 33=h2 at H b2;have e:∀{h':ad},Upd No h2 h'->∀i,aZ h' (adr ⟨h.size,0,none⟩ i)=(#[.int .u64 x.k0,.int .u64 x.k1,.int .u64 x.mask]:Array Value)[i]?:=λk i=>by
  rw[bZ,bw (k.get0 (H.get0 b1)),aU]
 have n:∀{h':ad},Upd No h2 h'->∀i,aZ h' (adr ⟨h1.size,0,none⟩ i)=(#[.string p.1,.string p.2]:Array Value)[i]?:=λk i=>by rw[bZ,bw (k.get0 b2),aU]
 have s:=eM No h2;have q:=k1.tr H;let C:c4:= [.int .u64 0,.int .u64 0,.int .u64 0,.pointer none,.string (⟨#[]⟩:c6),.int .u64 0]
 let B:c4:= [.int .u64 x.k0,.int .u64 x.k1,.int .u64 x.mask,.pointer none,.string p.1,.int .u64 (jg x p.1)]
 have fin:∀{g:ad} {b:Nat},Upd No h2 g->g[b]? =some (.cells B.toArray 198 (0,0))->
   ∃v15:Int,aZ g (adr ⟨b,0,none⟩ 0)=some (.int .u64 v15)/\
    ∃v16:Int,aZ g (adr ⟨b,0,none⟩ 1)=some (.int .u64 v16)/\
    ∃v17:Int,aZ g (adr ⟨b,0,none⟩ 2)=some (.int .u64 v17)/\
    ∃v18:aT,aZ g (adr ⟨b,0,none⟩ 3)=some (.pointer v18)/\
    ∃v19:c6,aZ g (adr ⟨b,0,none⟩ 4)=some (.string v19)/\
    ∃v20:Int,aZ g (adr ⟨b,0,none⟩ 5)=some (.int .u64 v20)/\
    ∃v21:c6,aZ g (adr ⟨h1.size,0,none⟩ 0)=some (.string v21)/\
    ∃v22:c6,aZ g (adr ⟨h1.size,0,none⟩ 1)=some (.string v22)/\
    fu 115 [.pointer r] (λ(G:aT) f=>
     ((aZ f (adr ⟨h1.size,0,none⟩ 0)=some (.string v21)/\aZ f (adr ⟨h1.size,0,none⟩ 1)=some (.string v22))/\
      ((aZ f (adr ⟨b,0,none⟩ 0)=some (.int .u64 v15)/\aZ f (adr ⟨b,0,none⟩ 1)=some (.int .u64 v16)/\aZ f (adr ⟨b,0,none⟩ 2)=some (.int .u64 v17)/\aZ f (adr ⟨b,0,none⟩ 3)=some (.pointer v18)/\aZ f (adr ⟨b,0,none⟩ 4)=some (.string v19)/\aZ f (adr ⟨b,0,none⟩ 5)=some (.int .u64 v20))/\
       NH 114 [.agg #[.int .u64 v15,.int .u64 v16,.int .u64 v17,.pointer v18,.string v19,.int .u64 v20],.pointer G,.agg #[.string v21,.string v22],.int .i64 0] (λ(z:aT×Bool×Bool) L=>
        K (z.1,z.2.1) L) f))) g:=λ{g b} d J=>by
  have m:∀{h':ad},Upd No g h'->∀i,aZ h' (adr ⟨b,0,none⟩ i)=B.toArray[i]?:=λk i=>by rw[bZ,bw (k.get0 J),aU]
  have w:=eM No g;refine⟨_,m w 0,_,m w 1,_,m w 2,_,m w 3,_,m w 4,_,m w 5,p.1,n d 0,p.2,n d 1,?_⟩;refine M5 (t.upd0 (q.tr d)) (λy A=>aD (O y A) (q.tr d).size) λP I X c E=>?_
  have a:=d.tr c;refine⟨⟨n a 0,n a 1⟩,⟨m c 0,m c 1,m c 2,m c 3,m c 4,m c 5⟩,?_⟩;refine abI 13 (aj _) p X (λy A=>aD (O y A) ((q.tr d).tr c).size) U T λQ D Z u R V N=>?_
  refine S Q D ((q.tr a).tr u) R λhm=>?_
  have hb:D=I:=V (by rw[N,decide_eq_true hm];rfl);rw[hb];exact E
 have own:∀{v g:ad} {b:Nat},h2.size<=b->Upd (· =b) v g->Upd No h2 v->Upd No h2 g:=λhb Y k=>k.trans Y λy A=>.inr (A▸hb)
 refine⟨_,e s 0,_,e s 1,_,e s 2,_,n s 0,_,e s 0,_,e s 1,_,e s 2,_,n s 0,?_,?_⟩
 .refine Dk λv j=>⟨n j 0,⟨e j 0,e j 1,e j 2⟩,?_⟩
  have o:=e9 No v C 198;have F:=cf v C 198;have d:=j.tr o;refine bL ?_;simp only[cG v];refine⟨n d 0,⟨e d 0,e d 1,e d 2⟩,?_⟩;refine co (vs:=B) F rfl λP I c=>fin (own j.size c d) I
 .have o:=e9 No h2 C 198
  have F:=cf h2 C 198;refine bL ?_;simp only[cG h2];refine⟨n o 0,⟨e o 0,e o 1,e o 2⟩,n o 0,⟨e o 0,e o 1,e o 2⟩,?_⟩;refine Dk λP c=>?_
  have a:=o.tr c;refine⟨n a 0,⟨e a 0,e a 1,e a 2⟩,?_⟩;exact co (vs:=B) (c.get0 F) rfl λQ D u=>fin (own (aj _) u a) D
abbrev pJ(b:UInt8):c4:= [.int .u8 (b.toNat:Int)]
theorem uH(b:UInt8):(pJ b).length=1/\0<1:=⟨rfl,Nat.one_pos⟩
theorem CY:∀xs:c5,cH (xs.flatMap pJ)=true
 | []=>rfl
 |x::xs=>by rw[aL];exact nL rfl (CY xs)
theorem rY(s:c6):di s=s.data.toList.flatMap pJ:=by
 unfold di;generalize s.data.toList=l;induction l with
 |nil=>rfl
 |cons b l ih=>rw[cn,aL,ih];rfl
theorem xE{so:fD}{out:c5}{v:Int}{b:UInt8}(hv:v=(b.toNat:Int)){K:fD->dO}(c:OwnS pJ 1 5 M h so out)(hM:∀b,h.size<=b->M b)(g:out.length+1<=140737488355328)
  (f:∀s' h',OwnS pJ 1 5 M h' s' (out++ [b])->Upd M h h'->K s' h'):
  ∃xs,SRow (hnew h [.int .u8 v] 5) (some (aR h)) (1*1) xs/\AppP (some [.int .u8 0]) 1 1 5 so.a so.len so.cap 1 xs (hnew h [.int .u8 v] 5) K:=by
 subst hv;have k:=e9 No h [.int .u8 (b.toNat:Int)] 5;have e:OwnS pJ 1 5 (λ_=>True) (hnew h [.int .u8 (b.toNat:Int)] 5) ⟨some (aR h),1,1⟩ [b]:=⟨rfl,uH,aj _,.inr ⟨h.size,[],rfl,trivial,cf ..,rfl⟩⟩
 refine⟨_,(e.sl (W:=No) λ_ _ _ h=>h).srow,?_⟩
 refine AppP.own (ys:= [b]) (c.upd k λ_ _ h=>h) rfl rfl rfl rfl a4 (by simp only[aG];omega) (hM _ (by rw[dS];omega)) λs' h' a d=>?_
 exact f s' h' a ((e9 M h _ _).tr d)
def mY(n k:Nat):c5:=(fy k).map λi=>gf (n>>>(8*i))
theorem AC(n k:Nat):mY n (k+1)=mY n k++ [gf (n>>>(8*k))]:=by unfold mY;rw[j5,cC];rfl
theorem dz(n k:Nat):(mY n k).length=k:=by simp[mY]
theorem Sj{s:fD}{xs:c5}(o:OwnS pJ 1 5 M h s xs)(hM:∀b,h.size<=b->M b){k:Nat}(_:n<18446744073709551616)(u:k<=8)(z:xs.length+k<=140737488355328){K:fD->dO}
  (q:∀s' h',OwnS pJ 1 5 M h' s' (xs++mY n k)->Upd M h h'->K s' h'):ce 216 [.slice s.a s.len s.cap,.int .u64 n,.int .i64 k] K h:=by
 refine Gd s n k ?_;unfold Ah;refine ez (λ(i:Nat) (t:fD×Int) h'=>t.2=(i:Int)/\i<=k/\OwnS pJ 1 5 M h' t.1 (xs++mY n i)/\Upd M h h') (λi=>k-i) 0 ⟨rfl,aJ _,by simpa[mY]using o,eM _ _⟩ ?_
 rintro I i ⟨so,y⟩ h' ⟨m,hi,c,f⟩ p;simp only at m c;subst m;refine ar (λa=>?_) λg=>?_
 .have a:i<k:=by have:(i:Int)<(k:Int):=a;omega
  have v:ac .i64 (8*(i:Int))=((8*i:Nat):Int):=by rw[dI a4];omega
  have em:min (((8*i:Nat):Int)).toNat (al .u64)=8*i:=by rw[aY];exact bU (by show 8*i<=64;omega)
  refine eQ ?_;simp only[Bd];rw[v,em,m8];refine⟨a4,bL ?_⟩;refine xE (b:=gf (n>>>(8*i))) ?_ c (λb hb=>hM b (aO f.size hb)) (by rw[ae,dz];omega) λA w d j=>?_
  .rw[ph];simp
  .rw[bN a a4]
   refine p (i+1) _ _ ⟨rfl,a,?_,f.tr j⟩ a4;rw[AC,<-au];exact d
 .have e:i=k:=by have:¬(i:Int)<(k:Int):=g;omega
  subst e;exact q _ _ c f
end
section
variable {α:Type}{sz m i n d lev b:Nat}{a xs ys r y lab:c5}{t:TypeId}{W M W':dx}{h h':ad}{K:fD->dO}{s sp:fD}{k ow:aT}{p:Pr}{l:bY}{x:Hs}{c:Array Value}{w:Option c6}{val v:c6}{F:Fo}{ks:List aT}{L:List Bn}{has:Bool}
theorem YP{f:α->c4}{a:Nat}{base:aT}{sl:Nat}{xs ys:List α}{g z:c4}
  (n:Sl f sz W h ⟨base,sl,m⟩ xs)(j:i=ys.length)(o:g=ys.flatMap f)(p:z.length=sz)(hb:0<a)(e:m<sl+i)(d:(xs.length+ys.length)*a<=140737488355328)
  (q:∀s' h',OwnS f sz t (λb=>h.size<=b) h' s' (xs++ys)->Upd No h h'->K s' h'):AppP (some z) sz a t base sl m i g h K:=by
 have c:sl=xs.length:=n.len;subst j o;refine⟨λu=>a4,λ_=>?_⟩
 refine⟨xs.flatMap f,z,n.srow,rfl,hb,Go.growslice_fits e (by rw[c];exact d),λs k=>?_⟩
 refine q _ _ ⟨by simp[c],n.ne,k,.inr ⟨h.size,dG (s-(sl+ys.length)) z,rfl,aj _,?_,?_⟩⟩ (e9 No h _ _)
 .rw[cf,bI]
 .rw[lO,p]
theorem aaj(A:Sl pJ 1 No h s xs)(hc:s.cap=s.len){k:Nat}(B:k<=8)(w:0<k)(C:xs.length+k<=140737488355328)
  (u:∀s' h',OwnS pJ 1 5 (λb=>h.size<=b) h' s' (xs++mY n k)->Upd No h h'->K s' h'):ce 216 [.slice s.a s.len s.cap,.int .u64 n,.int .i64 k] K h:=by
 refine Gd s n k ?_;unfold Ah;refine ez (λ(i:Nat) (t:fD×Int) h'=>t.2=(i:Int)/\i<=k/\((i=0/\t.1=s/\h'=h)\/OwnS pJ 1 5 (λb=>h.size<=b) h' t.1 (xs++mY n i))/\Upd No h h') (λi=>k-i) 0 ⟨rfl,aJ _,.inl ⟨rfl,rfl,rfl⟩,eM _ _⟩ ?_
 rintro I i ⟨so,D⟩ h' ⟨p,hi,a,m⟩ q;simp only at p a;subst p;refine ar (λc=>?_) λj=>?_
 .have c:i<k:=by have:(i:Int)<(k:Int):=c;omega
  have v:ac .i64 (8*(i:Int))=((8*i:Nat):Int):=by rw[dI a4];omega
  have em:min (((8*i:Nat):Int)).toNat (al .u64)=8*i:=by rw[aY];exact bU (by show 8*i<=64;omega)
  refine eQ ?_;simp only[Bd];rw[v,em,m8];refine⟨a4,bL ?_⟩;have o:ac .u8 ((n>>>(8*i):Nat):Int)=((gf (n>>>(8*i))).toNat:Int):=by rw[ph];simp
  rcases a with⟨rfl,rfl,rfl⟩|a
  .rw[o]
   have k1:=e9 No h' [.int .u8 ((gf (n>>>(8*0))).toNat:Int)] 5;have y:OwnS pJ 1 5 (λ_=>True) (hnew h' [.int .u8 ((gf (n>>>(8*0))).toNat:Int)] 5) ⟨some (aR h'),1,1⟩ [gf (n>>>(8*0))]:=⟨rfl,uH,aj _,.inr ⟨h'.size,[],rfl,trivial,cf ..,rfl⟩⟩
   refine⟨_,(y.sl (W:=No) λ_ _ _ h=>h).srow,?_⟩
   refine YP (ys:= [gf (n>>>(8*0))]) (A.upd k1 λ_ h=>h.elim) rfl rfl rfl a4 a4 (by simp only[aG];omega) λz x f d=>?_
   rw[bN c a4];refine q 1 _ _ ⟨rfl,c,.inr ?_,k1.tr d⟩ a4;exact f.more λb hb=>aO k1.size hb
  .refine xE o a (λb hb=>aO m.size hb) (by rw[ae,dz];omega) λz x f d=>?_
   rw[bN c a4];refine q (i+1) _ _ ⟨rfl,c,.inr ?_,m.trans d λb hb=>.inr hb⟩ a4
   rw[AC,<-au];exact f
 .have g:i=k:=by have:¬(i:Int)<(k:Int):=j;omega
  subst g;rcases a with⟨e,_⟩|a
  .omega
  .exact u _ _ a m
def oG(s:c6):c5:=mY s.size 2++s.data.toList
theorem Hd(j:Sl pJ 1 W h s xs)(hc:s.len<=s.cap)(b:c6)(hb:b.size<=1000000)(v:xs.length+2+b.size<=140737488355328)
  (p:∀s' h',OwnS pJ 1 5 (λx=>h.size<=x) h' s' (xs++oG b)->Upd No h h'->K s' h'):ce 214 [.slice s.a s.len s.cap,.string b] K h:=by
 refine dg (DZ s b) .nil Tryz.func214 Tryz.call214 ?_;unfold DZ;have i:=j.len;refine⟨a4,a4,?_⟩
 simp only[aY];have f:Sl pJ 1 No h ⟨bj s.a 0 s.len 1,s.len-0,s.len-0⟩ xs:=by
  have:=Sl.sub (j.less (W':=No) λ_ h=>h.elim) (l:=0) (hi:=s.len) (m:=s.len) (c:=s.len-0) (aJ _) a4 (aj _)
  rw[List.drop_zero,bd a4]at this;exact this
 have q:ac .u64 (b.size:Int)=(b.size:Int):=Go.IntWalk.u64_in _ a4;rw[q];refine aaj f rfl (n:=b.size) (k:=2) a4 a4 a4 λw u d a=>?_
 refine AppP.own (ys:=b.data.toList) d a6 (rY b) (by rw[rY];exact CY _) rfl a4 ?_ a.size λt o g e=>?_
 .simp only[ae,dz]
  have:b.data.toList.length=b.size:=a6
  omega
 .refine p t o ?_ (a.trans e λx hx=>.inr hx)
  rw[oG,<-au];exact g
def FT(p:Pr):c5:=oG p.1++oG p.2
def kR(l:bY):c5:=l.flatMap FT
theorem jm(b:c6):(oG b).length=2+b.size:=by simp[oG,dz]
def Fit(l:bY):Prop:=∀p∈l,p.1.size<=10000/\p.2.size<=10000
theorem VC(h:p.1.size<=10000/\p.2.size<=10000):(FT p).length<=20004:=by
 unfold FT;rw[ae,jm,jm];omega
theorem mS:∀{l:bY},Fit l->(kR l).length<=l.length*20004
 | [],_=>by simp[kR]
 |p::l,h=>by
  have c:=VC (h p (aq ..));have b:=mS (l:=l) λq a=>h q (aA _ a)
  unfold kR at*;rw[aL,ae,av];omega
theorem FS(hi:i<l.length):kR (l.take (i+1))=kR (l.take i)++FT l[i]:=by
 unfold kR;rw[List.take_succ_eq_append_getElem hi,bI,aL,List.flatMap_nil,List.append_nil]
theorem H0(G:OwnS pJ 1 5 M h s xs)(hM:∀b,h.size<=b->M b)(D:Sl dT 2 W h sp l)(J:∀x,M x->x<h.size->W x)(C:Fit l)(U:l.length<=1000000)(V:xs.length+l.length*20004<=140737488355328)
  (F:∀s' h',OwnS pJ 1 5 M h' s' (xs++kR l)->Upd M h h'->K s' h'):ce 215 [.slice s.a s.len s.cap,.slice sp.a sp.len sp.cap] K h:=by
 refine dg (Bq s sp) K8 Tryz.func215 Tryz.call215 ?_;dsimp only[Bq,bo,nv,kF,kG,mc,Fb,fj,cM,mH];have E:=D.len;have n:∀b,M b->W b\/h.size<=b:=λb hb=>by
  rcases Nat.lt_or_ge b h.size with hx|hx
  .exact .inl (J b hb hx)
  .exact .inr hx
 refine ez (λ(i:Nat) (t:fD×Int) h'=>t.2=(i:Int)/\i<=l.length/\OwnS pJ 1 5 M h' t.1 (xs++kR (l.take i))/\Upd M h h') (λi=>l.length-i) 0 ⟨rfl,aJ _,by simpa[kR]using G,eM _ _⟩ ?_
 rintro I i ⟨so,X⟩ h' ⟨B,hi,e,m⟩ O;(try simp only at B e)
 subst B;refine ar (λc=>?_) λy=>?_
 .have c:i<l.length:=by have:(i:Int)<(sp.len:Int):=c;omega
  obtain⟨a,R,_,hv⟩:=(D.upd m n).at (af c);have L:=C l[i] (aF c);have z:=mS (l:=l.take i) λq Q=>C q (List.mem_of_mem_take Q)
  rw[List.length_take,bU hi]at z;have k1:=e9 No h' [.string (⟨#[]⟩:c6),.string (⟨#[]⟩:c6)] 33;have b1:=cf h' [.string (⟨#[]⟩:c6),.string (⟨#[]⟩:c6)] 33;refine⟨by(try simp only);omega,a,R,l[i].1,hv 0 _ rfl,l[i].2,hv 1 _ rfl,bL ?_⟩;simp only[cG h'];generalize hnew h' [.string (⟨#[]⟩:c6),.string (⟨#[]⟩:c6)] 33=h1 at k1 b1;have u:h1[h'.size]? =some (.cells #[.string QU.1,.string QU.2] 33 (0,0)):=b1
  refine FP (p:=l[i]) u λH b2 o=>?_
  have d:Upd No h' H:=k1.trans o λx hx=>.inr (cL hx.symm)
  have g:=e.upd d λ_ _ h=>h
  refine⟨l[i].1,by rw[bZ,bw b2];rfl,l[i].2,by rw[bZ,bw b2];rfl,?_⟩
  have A:i*20004+20004<=l.length*20004:=by rw[<-Nat.succ_mul];exact cD _ c
  refine Hd (W:=No) (g.sl λ_ _ _ h=>h) g.cap l[i].1 a4 (by rw[ae];omega) λY T k f=>⟨by rw[bZ,bw (f.get0 b2)];rfl,?_⟩
  refine Hd (W:=No) (k.sl λ_ _ _ h=>h) k.cap l[i].2 a4 (by rw[ae,ae,jm];omega) λS P v w=>?_
  have j:Upd M h P:=m.tr ((d.tr (f.tr w)).wide);rw[bN c a4];refine O (i+1) _ _ ⟨rfl,c,?_,j⟩ a4;rw[FS c,FT,<-au,<-au];exact v.more λb hb=>hM b (aO (m.tr ((d.tr f).wide)).size hb)
 .have N:i=l.length:=by have:¬(i:Int)<(sp.len:Int):=y;omega
  rw[bd a4]at e;exact F _ _ e m
def jA(q:Nat->Bool):Nat->Nat
 |0=>0
 |n+1=>jA q n+(if q n then 2^n else 0)
theorem nf(q:Nat->Bool):∀n,jA q n<2^n
 |0=>by simp[jA]
 |n+1=>by
  have:=nf q n;unfold jA;rw[qp];split<;>omega
theorem E6(q:Nat->Bool)(c:Nat):∀n,(jA q n).testBit c=(decide (c<n)&&q c)
 |0=>by simp[jA]
 |n+1=>by
  have b:=nf q n;have d:=E6 q c n;unfold jA;by_cases a:q n=true
  .rw[if_pos a,Nat.add_comm]
   rcases Nat.lt_trichotomy c n with h|h|h
   .rw[Nat.testBit_two_pow_add_gt h,d,decide_eq_true h,decide_eq_true a4]
   .subst h
    rw[Nat.testBit_two_pow_add_eq,gC b,decide_eq_true a4,a];rfl
   .have f:2^n+jA q n<2^c:=aD (by rw[qp];omega:2^n+jA q n<2^(n+1)) (fg a4 h)
    rw[gC f,decide_eq_false a4];rfl
  .rw[if_neg a,dP,d]
   by_cases h:c<n
   .rw[decide_eq_true h,decide_eq_true a4]
   .by_cases e:c=n
    .subst e;have:q c=false:=by simpa using a
     rw[this];simp
    .rw[decide_eq_false h,decide_eq_false a4]
theorem Ml{q:Nat->Bool}(hd:d<4294967296)(h:∀c,c<32->d.testBit c=q c):d=jA q 32:=by
 refine Nat.eq_of_testBit_eq λc=>?_
 rw[E6];by_cases hc:c<32
 .rw[h c hc,decide_eq_true hc];rfl
 .rw[decide_eq_false hc,gC (aD hd (fg (n:=2) a4 (show 32<=c by omega)))];rfl
def iP(l:bY):Option Pr:=match l with| [p]=>some p|_=>none
def iu(l:bY):Option bY:=if 2<=l.length then some l else none
def iV(x:Hs)(lev:Nat)(l:bY):bY:=fm (λc=>iP (part x lev c l)) 32
def j9(x:Hs)(lev:Nat)(l:bY):List bY:=fm (λc=>iu (part x lev c l)) 32
def fp(x:Hs):Nat->bY->c5
 |0,l=>1::(mY l.length 2++kR l)
 |m+1,l=>0::(mY (jA (λc=>(iP (part x (12-m) c l)).isSome) 32) 4++(mY (jA (λc=>(iu (part x (12-m) c l)).isSome) 32) 4++(kR (iV x (12-m) l)++(j9 x (12-m) l).flatMap (fp x m))))
theorem Rr{s:Slots}{c:Nat}(t:SlotIs W x h m s c l):s.p c=iP l/\(s.k c).isSome=(iu l).isSome:=by
 rcases t with⟨rfl,d,e⟩|⟨p,rfl,d,e⟩|⟨f,d,g,e,_⟩
 .rw[d,e];exact⟨rfl,rfl⟩
 .rw[d,e];exact⟨rfl,rfl⟩
 .rw[d,e]
  refine⟨?_,by simp[iu,f]⟩
  match l,f with
  |a::b::l,_=>rfl
def KidsAt(W:dx)(x:Hs)(h:ad)(m:Nat):List aT->List bY->Prop
 | [],[]=>True
 |k::ks,l::ls=>(∃kb,k=some ⟨kb,0,none⟩/\TrieAt W x h m kb l)/\KidsAt W x h m ks ls
 |_,_=>False
theorem KidsAt.app:∀{ks ks':List aT} {ls ls':List bY},KidsAt W x h m ks ls->KidsAt W x h m ks' ls'->KidsAt W x h m (ks++ks') (ls++ls')
 | [],_,[],_,_,q=>q
 |_::_,_,_::_,_,q,q'=>⟨q.1,KidsAt.app q.2 q'⟩
 | [],_,_::_,_,q,_=>q.elim
 |_::_,_,[],_,q,_=>q.elim
theorem jN{β:Type}(g:Nat->Option β)(n:Nat):fm g (n+1)=fm g n++(g n).toList:=by
 unfold fm;rw[j5,List.filterMap_append];cases h:g n<;>simp[h]
theorem Nw{W:dx}{x:Hs}{h:ad}{m lev:Nat}{s:Slots}{l:bY}:∀n,(∀c,c<n->SlotIs W x h m s c (part x lev c l))->KidsAt W x h m (fm s.k n) (fm (λc=>iu (part x lev c l)) n)
 |0,_=>trivial
 |n+1,hs=>by
  rw[jN,jN];refine KidsAt.app (Nw n λc hc=>hs c a4) ?_
  rcases hs n a4 with⟨a,_,b⟩|⟨p,a,_,b⟩|⟨a,_,d,b,e⟩
  .rw[b,a];exact trivial
  .rw[b,a];exact trivial
  .rw[b]
   have:iu (part x lev n l)=some (part x lev n l):=by unfold iu;rw[if_pos a]
   simp only[this];exact⟨⟨d,rfl,e⟩,trivial⟩
theorem Hf{s:Slots}(a:∀c,c<32->SlotIs W x h m s c (part x lev c l)):fm s.p 32=iV x lev l:=
 adl _ λc hc=>(Rr (a c (List.mem_range.1 hc))).1
theorem xq(x:Hs)(lev:Nat)(l:bY):∀n,(((fy n).map λc=>(part x lev c l).length).sum)=(l.filter λp=>decide (ck x lev p.1<n)).length
 |0=>by
  have:(l.filter λp=>decide (ck x lev p.1<0))= []:=lI.2 λp _=>a6
  rw[this];rfl
 |n+1=>by
  rw[j5,cC,j4,xq x lev l n];simp only[cn,fZ,rF,List.sum_nil,dP];unfold part;clear xq;induction l with
  |nil=>rfl
  |cons p l ih=>
   simp only[bf,decide_eq_true_iff];split<;>split<;>split<;>first|omega|(simp only[av];omega)
theorem xm(x:Hs)(lev:Nat)(l:bY):(iV x lev l).length+(j9 x lev l).flatten.length<=l.length:=by
 have h:=xq x lev l 32;have d:(l.filter λp=>decide (ck x lev p.1<32)).length<=l.length:=bQ ..
 have:∀n,(fm (λc=>iP (part x lev c l)) n).length+(fm (λc=>iu (part x lev c l)) n).flatten.length<=((fy n).map λc=>(part x lev c l).length).sum:=by
  intro n;induction n with
  |zero=>simp[fm]
  |succ n ih=>
   rw[jN,jN,j5,cC,j4];simp only[ae,List.flatten_append,cn,fZ,rF,List.sum_nil,dP];generalize part x lev n l=q;have:(iP q).toList.length+(iu q).toList.flatten.length<=q.length:=by
    match q with
    | []=>simp[iP,iu]
    | [a]=>simp[iP,iu]
    |a::b::q=>simp[iP,iu]
   omega
 have:=this 32;unfold iV j9;omega
theorem qP(h:p∈iV x lev l):p∈l:=by
 unfold iV fm at h;obtain⟨c,_,hc⟩:=lG.1 h;unfold iP at hc;split at hc
 .rename_i q hq
  cases hc;have:p∈part x lev c l:=by rw[hq];exact az.2 rfl
  exact(mV.1 this).1
 .cases hc
theorem nN{L:bY}(h:L∈j9 x lev l):2<=L.length/\∃c,L=part x lev c l:=by
 unfold j9 fm at h;obtain⟨c,_,hc⟩:=lG.1 h;unfold iu at hc;split at hc
 .cases hc;exact⟨by assumption,c,rfl⟩
 .cases hc
theorem Fit.part{x:Hs}{lev c:Nat}{l:bY}(h:Fit l):Fit (part x lev c l):=λp a=>h p (mV.1 a).1
theorem He{B:Nat}{f:bY->c5}:∀{ls:List bY},(∀L∈ls,2<=L.length/\(f L).length<=9+L.length*B)->(ls.flatMap f).length<=ls.flatten.length*(B+9)
 | [],_=>a6
 |L::ls,h=>by
  have b:=h L (aq ..);have a:=He (ls:=ls) λM hM=>h M (aA _ hM)
  rw[aL,ae,List.flatten_cons,ae,jl];have:L.length*(B+9)=L.length*B+L.length*9:=Nat.mul_add ..;omega
theorem pk{x:Hs}:∀(m:Nat) {l:bY},Fit l->(fp x m l).length<=9+l.length*(20004+9*(m+1))
 |0,l,h=>by
  have:=mS h;unfold fp;rw[av,ae,dz];have:l.length*20004<=l.length*(20004+9*(0+1)):=fx _ a4;omega
 |m+1,l,h=>by
  have n:=mS (l:=iV x (12-m) l) λp e=>h p (qP e)
  have d:=He (f:=fp x m) (ls:=j9 x (12-m) l) (B:=20004+9*(m+1)) λL a=>by
   obtain⟨b,c,rfl⟩:=nN a;exact⟨b,pk m h.part⟩
  have i:=xm x (12-m) l;unfold fp;rw[av,ae,ae,ae,dz,dz];have k:(iV x (12-m) l).length*20004<=(iV x (12-m) l).length*(20004+9*(m+1+1)):=fx _ a4;have j:((iV x (12-m) l).length+(j9 x (12-m) l).flatten.length)*(20004+9*(m+1+1))<=l.length*(20004+9*(m+1+1)):=cD _ i;rw[jl]at j
  have g:20004+9*(m+1)+9=20004+9*(m+1+1):=a4
  rw[g]at d;omega
theorem Sb{sk:fD}{a:Bool}(hb:h[b]? =some (.cells (eZ d n sp sk a ow) 324 (0,0))) (e:sp.len+sk.len<=1000000000) {K:Int->dO} (c:K ((sp.len+sk.len:Nat):Int) h):fK 217 [gZ b] K h:=by
 refine yS _ ?_;dsimp only[sR,bR,cJ,zd];refine ag.2 ⟨_,rfl,sp,eN (i:=2) hb,_,rfl,sk,eN (i:=3) hb,?_⟩;rw[dI a4];exact_mod_cast c
def Bes(M:dx)(h a:ad)(b:Nat):Prop:=M b/\(b<h.size\/a.size<=b)
theorem Bes.own{f:α->c4}{a:ad}{xs:List α}(b:OwnS f sz t M h s xs)(c:Upd No h a):OwnS f sz t (Bes M h a) a s xs:=
 (b.within.upd c λ_ _ h=>h).more λ_ hb=>⟨hb.1,.inl hb.2⟩
theorem Bes.sl{f:α->c4}{a:ad}{xs:List α}(c:OwnS f sz t (λx=>h.size<=x) a s xs):Sl f sz (Bes M h a) a s xs:=
 c.sl λb hb d hx=>by rcases hx.2 with h|h<;>omega
theorem Bes.hM{M:dx}{h a:ad}(hM:∀b,h.size<=b->M b)(c:Upd No h a):∀b,a.size<=b->Bes M h a b:=λb hb=>⟨hM b (aO c.size hb),.inr hb⟩
theorem Xe:∀(m:Nat),m<=13->∀{b:Nat} {l:bY} {V h:ad} {M:dx} {s:fD} {xs:c5},TrieAt W x V m b l->Upd No V h->(∀y,M y->V.size<=y)->OwnS pJ 1 5 M h s xs->(∀y,h.size<=y->M y)->Fit l->l.length<=60000->
  xs.length+(9+l.length*(20004+9*(m+1)))<=140737488355328->∀{K:fD->dO},(∀s' h',OwnS pJ 1 5 M h' s' (xs++fp x m l)->Upd M h h'->K s' h')->
  ce 145 [.slice s.a s.len s.cap,gZ b,.int .i64 ((13-m:Nat):Int)] K h:=by
 intro m;induction m with
 |zero=>
  intro _ b l V h M s xs t hu0 T ho hM hf hn hx K hk;refine Gc s (some ⟨b,0,none⟩) ((13-0:Nat):Int) ?_;dsimp only[Ag,AN,U5,Zw,qW,cz,jX,fj];have st:∀{h'},Upd M h h'->Upd No V h':=λk=>hu0.trans k λy j=>.inr (T y j)
  have bk:∀{h'},Upd M h h'->BuckAt W h' b l:=λk=>BuckAt.upd t (st k) λ_ h=>h.elim
  have z:∀{h'},Upd M h h'->∀y,h'.size<=y->M y:=λk y j=>hM y (aO k.size j)
  obtain⟨sp,sk,ow,hb,_⟩:=(bk (eM M h)).ex;refine gI hb (ay.2 (bL ?_));refine xE (b:=1) rfl ho hM a4 λs1 h1 ho1 o=>?_
  obtain⟨sp1,sk1,ow1,S,J,hsk1,_⟩:=(bk o).ex;have e1:=J.len;have e2:=hsk1.len;rw[bq]at e2;refine Sb S a4 ?_;have ew:ac .u64 ((sp1.len+sk1.len:Nat):Int)=((l.length:Nat):Int):=by rw[Go.IntWalk.u64_in _ a4];omega
  rw[ew];have hl2:l.length*20004<=l.length*(20004+9*(0+1)):=fx _ a4;refine Sj ho1 (z o) (n:=l.length) (k:=2) a4 a4 (by rw[ae,aG];omega) λs2 h2 H v=>?_
  have Q:=o.tr v;obtain⟨sp2,sk2,ow2,hb2,G,_⟩:=(bk Q).ex;refine p9 hb2 G a4 λs3 E A C=>?_
  refine H0 (M:=Bes M h2 E) (W:=Bes M h2 E) (Bes.own H C) (Bes.hM (z Q) C) (Bes.sl A) (λ_ h _=>h) hf a4 (by rw[ae,ae,aG,dz];omega) λs4 F ho4 U=>?_
  refine hk s4 F ?_ (Q.tr (C.wide.tr (U.mono λy j=>.inl j.1)))
  have:=ho4.more (M':=M) λy j=>j.1
  rw[fp,List.append_cons,<-au];exact this
 |succ m ih=>
  intro hm b l V h M s xs t hu0 T ho hM hf hn hx K hk;refine Gc s (some ⟨b,0,none⟩) ((13-(m+1):Nat):Int) ?_;dsimp only[Ag,AN,U5,Zw,qW,cz,jX,fj];have st:∀{h'},Upd M h h'->Upd No V h':=λk=>hu0.trans k λy j=>.inr (T y j)
  have z:∀{h'},Upd M h h'->∀y,h'.size<=y->M y:=λk y j=>hM y (aO k.size j)
  obtain⟨sl,nd,hs0⟩:=t;have hs:∀c,c<32->SlotIs W x V m sl c (part x (12-m) c l):=hs0;have hd:∀{h'},Upd M h h'->∃d n sp sk ow,h'[b]? =some (.cells (eZ d n sp sk false ow) 324 (0,0))/\d=jA (λc=>(iP (part x (12-m) c l)).isSome) 32/\n=jA (λc=>(iu (part x (12-m) c l)).isSome) 32/\Sl dT 2 W h' sp (iV x (12-m) l)/\Sl qO 1 W h' sk (fm sl.k 32):=λ{h'} k=>by
   obtain⟨d,n,sp,sk,ow,hb,bits,E,F,_⟩:=(nd.upd (st k) λ_ h=>h.elim).ex
   refine⟨d,n,sp,sk,ow,hb,Ml bits.d32 λc hc=>?_,Ml bits.n32 λc hc=>?_,?_,F⟩
   .rw[bits.dp c hc,(Rr (hs c hc)).1]
   .rw[bits.nk c hc,(Rr (hs c hc)).2]
   .rw[<-Hf hs];exact E
  have hka:KidsAt W x V m (fm sl.k 32) (j9 x (12-m) l):=Nw 32 hs;have u:=pk (x:=x) (m+1) hf;have hlen2:=u;have hml:∀L∈j9 x (12-m) l,Fit L/\L.length<=60000:=λL hL=>by
   obtain⟨_,c,rfl⟩:=nN hL;exact⟨hf.part,aO jw hn⟩
  have hsf:Fit (iV x (12-m) l):=λp hp=>hf p (qP hp)
  have hsl:=xm x (12-m) l;unfold fp at hk u;have X:∀q:Nat->Bool,jA q 32<4294967296:=λq=>nf q 32
  have hd32:=X λc=>(iP (part x (12-m) c l)).isSome
  have hn32:=X λc=>(iu (part x (12-m) c l)).isSome
  generalize jA (λc=>(iP (part x (12-m) c l)).isSome) 32=D at hk hd u hd32
  generalize jA (λc=>(iu (part x (12-m) c l)).isSome) 32=N at hk hd u hn32
  have hS:(iV x (12-m) l).length<=60000:=a4
  have hSb:(iV x (12-m) l).length*20004<=l.length*(20004+9*(m+1+1)):=Nat.mul_le_mul a4 a4;have hML:∀L∈j9 x (12-m) l,2<=L.length/\(fp x m L).length<=9+L.length*(20004+9*(m+1)):=λL hL=>by
   obtain⟨E,c,rfl⟩:=nN hL;exact⟨E,pk m hf.part⟩
  have hbud:9+(iV x (12-m) l).length*20004+(j9 x (12-m) l).flatten.length*(20004+9*(m+1)+9)<=9+l.length*(20004+9*(m+1+1)):=by
   have h5:(iV x (12-m) l).length*20004<=(iV x (12-m) l).length*(20004+9*(m+1+1)):=fx _ a4;have h6:((iV x (12-m) l).length+(j9 x (12-m) l).flatten.length)*(20004+9*(m+1+1))<=l.length*(20004+9*(m+1+1)):=cD _ hsl;rw[jl]at h6;have h7:20004+9*(m+1)+9=20004+9*(m+1+1):=a4
   rw[h7];omega
  have hps:=mS hsf;generalize iV x (12-m) l=So at hk hd hsf hS hSb hbud u hps;generalize j9 x (12-m) l=Ma at hk hka hml hML hbud u;obtain⟨d,n,sp,sk,ow,hb,_⟩:=hd (eM M h);refine gI hb (ag.2 (eF (λs' h'=>OwnS pJ 1 5 M h' s' (xs++(0::(mY D 4++mY N 4)))/\Upd M h h') (λR hR=>bL ?_) ?_))
  .refine xE (b:=0) rfl ho hM a4 λs1 h1 ho1 o=>?_
   obtain⟨d1,n1,sp1,sk1,ow1,S,rfl,rfl,_⟩:=hd o;refine UE S ?_;rw[Go.IntWalk.u64_in _ a4];refine Sj ho1 (z o) (n:=d1) (k:=4) a4 a4 (by rw[ae,aG];omega) λs2 h2 H v=>?_
   obtain⟨d2,n2,sp2,sk2,ow2,hb2,rfl,rfl,_⟩:=hd (o.tr v);refine Iq hb2 ?_;rw[Go.IntWalk.u64_in _ a4];refine Sj H (z (o.tr v)) (n:=n2) (k:=4) a4 a4 (by rw[ae,ae,aG,dz];omega) λs3 E A C=>?_
   refine hR _ _ ⟨?_,(o.tr v).tr C⟩;rw[List.append_cons,<-au];exact A
  .rintro s' h1 ⟨ho1,o⟩
   obtain⟨d1,n1,sp1,sk1,ow1,S,_,_,J,_⟩:=hd o;refine p9 S J a4 λs2 h2 H v=>?_
   refine H0 (M:=Bes M h1 h2) (W:=Bes M h1 h2) (Bes.own ho1 v) (Bes.hM (z o) v) (Bes.sl H) (λ_ h _=>h) hsf a4 (by rw[ae,av,ae,dz,dz];omega) λs3 E A C=>?_
   have A:=A.more (M':=M) λy j=>j.1
   have O:Upd M h E:=o.tr (v.wide.tr (C.mono λy j=>.inl j.1))
   have e13:(((13-(m+1):Nat):Int)==(13:Int))=false:=by rw[beq_eq_false_iff_ne];omega
   rw[e13];refine ag.2 ?_;obtain⟨d3,n3,sp3,sk3,ow3,hb3,_,_,_,hsk3⟩:=hd O;have hk32:=zI (g:=sl.k);refine Ho hb3 hsk3 a4 λs4 F ho4 U=>?_
   have Y:Sl qO 1 (Bes M E F) F s4 (fm sl.k 32):=Bes.sl ho4;have hlk:=Y.len;have ew:ac .i64 (((13-(m+1):Nat):Int)+1)=((13-m:Nat):Int):=by rw[dI a4];omega
   rw[ew];have hMb:=Bes.hM (z O) U;have hob:=Bes.own A U;have hu04:Upd M h F:=O.tr U.wide;have hMM:∀y,Bes M E F y->M y:=λy j=>j.1
   have st4:∀{h'},Upd (Bes M E F) F h'->Upd M h h':=λk=>hu04.tr (k.mono λy j=>.inl j.1)
   generalize Bes M E F=B at Y hMb hob hMM st4;have hkl:∀{ks:List aT} {ls:List bY},KidsAt W x V m ks ls->ks.length=ls.length/\∀i (hi:i<ls.length),∃kb,ks[i]? =some (some ⟨kb,0,none⟩)/\TrieAt W x V m kb ls[i]:=by
    intro ks;induction ks with
    |nil=>intro ls;cases ls with
     |nil=>intro _;exact⟨rfl,λi hi=>absurd hi (j1 _)⟩
     |cons a ls=>intro h;exact h.elim
    |cons k ks ihk=>intro ls;cases ls with
     |nil=>intro h;exact h.elim
     |cons a ls=>
      rintro⟨⟨kb,rfl,tk⟩,h⟩;obtain⟨e,hr⟩:=ihk h;refine⟨by simp[e],λi hi=>?_⟩
      cases i with
      |zero=>exact⟨kb,rfl,tk⟩
      |succ i=>simp only[List.getElem?_cons_succ,List.getElem_cons_succ];exact hr i (by simpa using hi)
   obtain⟨hkl,hkt⟩:=hkl hka;have hbase:(xs++(0::(mY D 4++mY N 4))++kR So).length<=xs.length+(9+So.length*20004):=by
    rw[ae,ae,av,ae,dz,dz];omega
   refine ez (λ(i:Nat) (t:fD×Int) h'=>t.2=(i:Int)/\i<=Ma.length/\OwnS pJ 1 5 B h' t.1 (xs++(0::(mY D 4++mY N 4))++kR So++(Ma.take i).flatMap (fp x m))/\Upd B F h') (λi=>Ma.length-i) 0 ⟨rfl,aJ _,by simpa using hob,eM _ _⟩ ?_
   rintro I i ⟨so,ti⟩ h' ⟨e1,hi,ho',P⟩ hI;(try simp only at e1 ho')
   subst e1;refine ar (λw=>?_) λhge=>?_
   .have w:i<Ma.length:=by have:(i:Int)<(s4.len:Int):=w;omega
    obtain⟨kb,hk1,tk⟩:=hkt i w;obtain⟨a,ha,_,hv⟩:=(Y.upd P λy j=>.inl j).at0 hk1
    refine⟨⟨by(try simp only);omega,by(try simp only);omega⟩,a,ha,some ⟨kb,0,none⟩,hv,?_⟩
    have Z:Ma[i]∈Ma:=aF w;have htl:=He (f:=fp x m) (ls:=Ma.take i) (B:=20004+9*(m+1)) λL hL=>hML L (gi hL)
    have hsp:(Ma.take i).flatten.length+Ma[i].length<=Ma.flatten.length:=by
     have e:Ma=Ma.take i++Ma[i]::Ma.drop (i+1):=by rw[lH,aW]
     have:=congrArg (λL=>(List.flatten L).length) e
     simp only[List.flatten_append,List.flatten_cons,ae]at this;omega
    have G:=cD (20004+9*(m+1)+9) hsp;rw[jl]at G;have h2l:=(hML _ Z).1;have hone:9+Ma[i].length*(20004+9*(m+1))<=Ma[i].length*(20004+9*(m+1)+9):=by rw[Nat.mul_add (Ma[i].length) (20004+9*(m+1)) 9];omega
    refine ih a4 tk (hu0.trans (st4 P) λy j=>.inr (T y j)) (λy j=>T y (hMM y j)) ho' (λy j=>hMb y (aO P.size j)) (hml _ Z).1 (hml _ Z).2 (by rw[ae];omega) λs5 h5 ho5 hu5=>?_
    rw[bN w a4];refine hI (i+1) _ _ ⟨rfl,w,?_,P.tr hu5⟩ a4;rw[ax w,bI,aL,gk,aX,<-au];exact ho5
   .have hil:i=Ma.length:=by have:¬(i:Int)<(s4.len:Int):=hge;omega
    subst hil;rw[bG]at ho';refine hk _ _ ?_ (st4 P);have:=ho'.more hMM;simp only[au,cN]at this⊢;exact this
theorem ZM(t:TrieAt W x h 13 b l)(f:Fit l)(a:l.length<=60000)(g:∀s' h',OwnS pJ 1 5 (λy=>h.size<=y) h' s' (fp x 13 l)->Upd No h h'->K s' h'):ce 99 [gZ b] K h:=by
 refine Tj _ ?_;unfold JI;refine ag.2 ?_;have hb:l.length*(20004+9*(13+1))<=60000*(20004+9*(13+1)):=cD _ a;exact Xe (x:=x) 13 (aj _) (s:=⟨none,0,0⟩) (xs:= []) (M:=λy=>h.size<=y) t (eM _ _) (λ_ h=>h) (OwnS.nil uH) (λ_ h=>h) f a (by rw[bq];omega) λs' h' c d=>g s' h' c (d.mono λy e=>.inr e)
theorem S7{s':fD}(d:Sl pJ 1 W h s xs)(a:Sl pJ 1 W' h s' ys){K:Bool->dO}(e:K (decide (xs=ys)) h):gl 107 [.slice s.a s.len s.cap,.slice s'.a s'.len s'.cap] K h:=by
 refine dg (BC s s') .nil Tryz.func107 Tryz.call107 ?_;unfold BC;have c:=d.srow;have b:=a.srow;rw[Nat.mul_one]at c b;refine⟨⟨xs.toArray⟩,by rw[rY];exact c,⟨ys.toArray⟩,by rw[rY];exact b,?_⟩
 have:((⟨xs.toArray⟩:c6).toList==(⟨ys.toArray⟩:c6).toList)=decide (xs=ys):=by
  rw[ByteArray.toList_eq,ByteArray.toList_eq,Bool.eq_iff_iff,beq_iff_eq,decide_eq_true_iff]
 rw[this];exact e
theorem PH:∀{a b:Nat} (k:Nat),mY a k=mY b k->a%2^(8*k)=b%2^(8*k)
 |_,_,0,_=>by simp[Nat.mod_one]
 |a,b,k+1,h=>by
  rw[AC,AC]at h;obtain⟨g,f⟩:=te h (by rw[dz,dz]);have d:=PH k g;have c:=congrArg UInt8.toNat (eB.inj f).1;rw[UInt8.toNat_ofNat',UInt8.toNat_ofNat',cU,cU]at c;have e:2^(8*(k+1))=2^(8*k)*2^8:=by rw[Nat.mul_add,Nat.pow_add]
  rw[e,Nat.mod_mul,Nat.mod_mul,d,c]
theorem xu{a k:Nat}{c:c5}(e:a<2^(8*k))(hb:b<2^(8*k))(h:mY a k++r=mY b k++c):a=b/\r=c:=by
 obtain⟨d,f⟩:=te h (by rw[dz,dz]);have:=PH k d;rw[d9 e,d9 hb]at this;exact⟨this,f⟩
theorem Aq{a b:c6}{c:c5}(i:a.size<=10000)(hb:b.size<=10000)(h:oG a++r=oG b++c):a=b/\r=c:=by
 unfold oG at h;rw[au,au]at h;obtain⟨f,e⟩:=xu (k:=2) a4 a4 h;obtain⟨d,g⟩:=te e (by simpa using f);refine⟨?_,g⟩;cases a;cases b;exact congrArg lJ (ju.1 d)
theorem B0:∀{l l':bY} {r r':c5},Fit l->Fit l'->l.length=l'.length->kR l++r=kR l'++r'->l=l'/\r=r'
 | [],[],_,_,_,_,_,h=>⟨rfl,h⟩
 | [],_::_,_,_,_,_,e,_=>by simp at e
 |_::_,[],_,_,_,_,e,_=>by simp at e
 |p::l,q::l',r,r',hf,hf',e,h=>by
  unfold kR at h;rw[aL,aL,FT,FT]at h;simp only[au]at h;have c:=hf p (aq ..);have b:=hf' q (aq ..);obtain⟨g,h⟩:=Aq c.1 b.1 h;obtain⟨f,h⟩:=Aq c.2 b.2 h;obtain⟨d,h⟩:=B0 (l:=l) (l':=l') (λz a=>hf z (aA _ a)) (λz a=>hf' z (aA _ a)) (by simpa using e) h
  exact⟨by rw[d,qn g f],h⟩
theorem Hw{β γ:Type}{g:Nat->Option β}{a:Nat->Option γ}:∀n,(∀c,c<n->(g c).isSome=(a c).isSome)->(fm g n).length=(fm a n).length
 |0,_=>rfl
 |n+1,h=>by
  rw[jN,jN,ae,ae,Hw n λc hc=>h c a4]
  have:=h n a4;cases h1:g n<;>cases h2:a n<;>rw[h1,h2]at this<;>first|rfl|cases this
theorem IT{β:Type}{g a:Nat->Option β}:∀n,(∀c,c<n->(g c).isSome=(a c).isSome)->fm g n=fm a n->∀c,c<n->g c=a c
 |0,_,_,c,hc=>absurd hc (j1 _)
 |n+1,h,e,c,hc=>by
  rw[jN,jN]at e;obtain⟨f,b⟩:=te e (Hw n λc hc=>h c a4)
  rcases ci c n with d|d
  .exact IT n (λc hc=>h c a4) f c d
  .have:c=n:=by omega
   subst this;cases h1:g c<;>cases h2:a c<;>rw[h1,h2]at b<;>simp at b⊢
   exact b
theorem xo:∀{l l':bY},bS l->bS l'->(∀p,p∈l↔p∈l')->l=l'
 | [],[],_,_,_=>rfl
 | [],q::l',_,_,h=>absurd ((h q).2 (aq ..)) a6
 |p::l,[],_,_,h=>absurd ((h p).1 (aq ..)) a6
 |p::l,q::l',c,a,h=>by
  have c:=aC.1 c;have a:=aC.1 a;have e:p=q:=by
   rcases aw.1 ((h p).1 (aq ..))with e|f
   .exact e
   .rcases aw.1 ((h q).2 (aq ..))with e|g
    .exact e.symm
    .exact absurd (dX (c.1 q g) (a.1 p f)) (bX _)
  subst e;rw[xo c.2 a.2 λz=>?_]
  constructor
  .intro d
   rcases aw.1 ((h z).1 (aA _ d))with e|b
   .exact absurd (c.1 z d) (by rw[e];exact bX _)
   .exact b
  .intro d
   rcases aw.1 ((h z).2 (aA _ d))with e|b
   .exact absurd (a.1 z d) (by rw[e];exact bX _)
   .exact b
theorem Pq{l':bY}(g:bS l)(a:bS l')(h:∀c,c<32->part x lev c l=part x lev c l'):l=l':=by
 refine xo g a λp=>?_
 have e:=h (ck x lev p.1) (zS ..);have d:=mV (x:=x) (lev:=lev) (c:=ck x lev p.1) (l:=l) (p:=p);have f:=mV (x:=x) (lev:=lev) (c:=ck x lev p.1) (l:=l') (p:=p);rw[e]at d;constructor
 .intro b;exact(f.1 (d.2 ⟨b,rfl⟩)).1
 .intro b;exact(d.1 (f.2 ⟨b,rfl⟩)).1
theorem Vg{q q':bY}(f:iP q=iP q')(e:iu q=iu q'):q=q':=by
 match q,q' with
 | [],[]=>rfl
 | [a],[b]=>simp[iP]at f;rw[f]
 | [],[b]=>simp[iP]at f
 | [a],[]=>simp[iP]at f
 | [],b::c::q'=>simp[iu]at e
 | [a],b::c::q'=>simp[iu]at e
 |b::c::q',[]=>simp[iu]at e
 |b::c::q',[a]=>simp[iu]at e
 |a::b::q,c::d::q'=>simpa[iu]using e
theorem P0{f:bY->c5}:∀{ls ls':List bY} {r r':c5},ls.length=ls'.length->(∀L∈ls,∀L'∈ls',∀r r',f L++r=f L'++r'->L=L'/\r=r')->ls.flatMap f++r=ls'.flatMap f++r'->ls=ls'/\r=r'
 | [],[],_,_,_,_,h=>⟨rfl,h⟩
 | [],_::_,_,_,e,_,_=>by simp at e
 |_::_,[],_,_,e,_,_=>by simp at e
 |L::ls,L'::ls',r,r',e,hf,h=>by
  rw[aL,aL,au,au]at h;obtain⟨d,h⟩:=hf L (aq ..) L' (aq ..) _ _ h;obtain⟨c,h⟩:=P0 (by simpa using e) (λA b B a=>hf A (aA _ b) B (aA _ a)) h
  exact⟨by rw[d,c],h⟩
theorem HZ{x:Hs}:∀(m:Nat) {l l':bY} {r a:c5},Fit l->Fit l'->l.length<=60000->l'.length<=60000->bS l->bS l'->fp x m l++r=fp x m l'++a->l=l'/\r=a
 |0,l,l',r,a,hf,hf',hn,hn',_,_,h=>by
  unfold fp at h;rw[cN,cN,au,au]at h;obtain⟨e,h⟩:=xu (k:=2) a4 a4 (eB.inj h).2;exact B0 hf hf' e h
 |m+1,l,l',r,a,hf,hf',hn,hn',hr,hr',h=>by
  unfold fp at h;simp only[cN,au]at h;obtain⟨b1,h⟩:=xu (k:=4) (nf _ 32) (nf _ 32) (eB.inj h).2;obtain⟨b2,h⟩:=xu (k:=4) (nf _ 32) (nf _ 32) h;have bits:∀{q q':Nat->Bool},jA q 32=jA q' 32->∀c,c<32->q c=q' c:=λ{q q'} e c hc=>by
   have:=congrArg (λn=>n.testBit c) e
   simp only[E6,decide_eq_true hc,Bool.true_and]at this;exact this
  have b1:=bits b1;have b2:=bits b2;obtain⟨o,h⟩:=B0 (λp d=>hf p (qP d)) (λp d=>hf' p (qP d)) (Hw 32 b1) h
  obtain⟨g,h⟩:=P0 (Hw 32 b2) (λL f L' b r a e=>by
   obtain⟨_,c,rfl⟩:=nN f
   obtain⟨_,c',rfl⟩:=nN b
   exact HZ m hf.part hf'.part (aO jw hn) (aO jw hn') (jv hr) (jv hr') e) h
  have j:=IT 32 b1 o;have i:=IT 32 b2 g;exact⟨Pq hr hr' λc hc=>Vg (j c hc) (i c hc),h⟩
def EH(lab:c6)(has:Bool)(val:c6)(s:fD)(ow:aT):Array Value:= #[.string lab,.bool has,.string val,sv s,.pointer ow]
theorem vw(h:val=w.getD ⟨#[]⟩):∀v,w=some v->val=v:=λv e=>by rw[h,e];rfl
def RxF(W:dx)(h:ad):Fo->List aT->Prop
 | .nil,ks=>ks= []
 | .cons lab w kids rest,ks=>∃b sl val s ow ks1 ks',ks=some ⟨b,0,none⟩::ks'/\sl.data.toList=lab/\h[b]? =some (.cells (EH sl w.isSome val s ow) 264 (0,0))/\val=w.getD ⟨#[]⟩/\Sl qA 1 W h s ks1/\(s.len<=s.cap/\¬W b)/\RxF W h kids ks1/\RxF W h rest ks'
def RxN(W:dx)(h:ad)(b:Nat)(sl:c6)(w:Option c6)(F:Fo):Prop:=∃val s ow ks,h[b]? =some (.cells (EH sl w.isSome val s ow) 264 (0,0))/\val=w.getD ⟨#[]⟩/\Sl qA 1 W h s ks/\(s.len<=s.cap/\¬W b)/\RxF W h F ks
def Kid(W:dx)(h:ad)(k:aT)(n:Bn):Prop:=∃b sl,k=some ⟨b,0,none⟩/\sl.data.toList=n.1/\RxN W h b sl n.2.1 n.2.2
def RxL(W:dx)(h:ad)(ks:List aT)(L:List Bn):Prop:=ks.length=L.length/\∀p∈ks.zip L,Kid W h p.1 p.2
theorem lw{W:dx}{h:ad}:∀{F:Fo} {ks:List aT},RxF W h F ks↔RxL W h ks F.toL
 | .nil,ks=>by
  unfold RxF RxL;simp[Fo.toL]
 | .cons lab w kids rest,ks=>by
  unfold RxF RxL;rw[Fo.toL_cons];constructor
  .rintro⟨b,sl,val,s,ow,c,d,rfl,o,i,g,j,n,m,v⟩
   obtain⟨u,t⟩:=lw.1 v;refine⟨by simp[u],λp a=>?_⟩
   rw[jH]at a;rcases aw.1 a with rfl|a
   .exact⟨b,sl,rfl,o,val,s,ow,c,i,g,j,n,m⟩
   .exact t p a
  .cases ks with
   |nil=>rintro⟨e,_⟩;simp at e
   |cons k d=>
    rintro⟨e,a⟩;rw[jH]at a;obtain⟨b,sl,q,o,val,s,ow,c,i,g,j,n,m⟩:=a _ (aq ..);refine⟨b,sl,val,s,ow,c,d,by rw[<-q],o,i,g,j,n,m,lw.2 ⟨by simpa using e,λp f=>a p (aA _ f)⟩⟩
theorem RxF.upd0(k:Upd No h h'):∀{F:Fo} {ks:List aT},RxF W h F ks->RxF W h' F ks
 | .nil,_,r=>r
 | .cons _ _ _ _,_,⟨b,sl,val,s,ow,ks1,ks',e0,e1,e2,e3,e4,e5,e6,e7⟩=>⟨b,sl,val,s,ow,ks1,ks',e0,e1,k.get0 e2,e3,e4.upd k λ_ h=>h.elim,e5,RxF.upd0 k e6,RxF.upd0 k e7⟩
theorem RxN.upd0(k:Upd No h h'){sl:c6}:RxN W h b sl w F->RxN W h' b sl w F
 |⟨val,s,ow,ks,e2,e3,e4,e5,e6⟩=>⟨val,s,ow,ks,k.get0 e2,e3,e4.upd k λ_ h=>h.elim,e5,RxF.upd0 k e6⟩
theorem Kid.upd0(k:Upd No h h'){a:aT}{n:Bn}:Kid W h a n->Kid W h' a n
 |⟨b,sl,e1,e2,e3⟩=>⟨b,sl,e1,e2,e3.upd0 k⟩
theorem RxF.less(hm:∀b,W' b->W b\/h.size<=b):∀{F:Fo} {ks:List aT},RxF W h F ks->RxF W' h F ks
 | .nil,_,r=>r
 | .cons _ _ _ _,_,⟨b,sl,val,s,ow,ks1,ks',e0,e1,e2,e3,e4,e5,e6,e7⟩=>⟨b,sl,val,s,ow,ks1,ks',e0,e1,e2,e3,e4.less hm,⟨e5.1,λhx=>(hm _ hx).elim e5.2 λh=>by have:=bB e2;omega⟩,RxF.less hm e6,RxF.less hm e7⟩
theorem RxN.less(hm:∀b,W' b->W b\/h.size<=b){sl:c6}:RxN W h b sl w F->RxN W' h b sl w F
 |⟨val,s,ow,ks,e2,e3,e4,e5,e6⟩=>⟨val,s,ow,ks,e2,e3,e4.less hm,⟨e5.1,λhx=>(hm _ hx).elim e5.2 λh=>by have:=bB e2;omega⟩,RxF.less hm e6⟩
theorem RxF.updM(k:Upd M h h')(hm:∀b,M b->W b\/h.size<=b):∀{F:Fo} {ks:List aT},RxF W h F ks->RxF W h' F ks
 | .nil,_,r=>r
 | .cons _ _ _ _,_,⟨b,sl,val,s,ow,ks1,ks',e0,e1,e2,e3,e4,e5,e6,e7⟩=>⟨b,sl,val,s,ow,ks1,ks',e0,e1,k.get e2 (λhx=>(hm _ hx).elim e5.2 λh=>by have:=bB e2;omega),e3,e4.upd k hm,e5,RxF.updM k hm e6,RxF.updM k hm e7⟩
theorem RxN.updM(k:Upd M h h')(hm:∀b,M b->W b\/h.size<=b){sl:c6}:RxN W h b sl w F->RxN W h' b sl w F
 |⟨val,s,ow,ks,e2,e3,e4,e5,e6⟩=>⟨val,s,ow,ks,k.get e2 (λhx=>(hm _ hx).elim e5.2 λh=>by have:=bB e2;omega),e3,e4.upd k hm,e5,RxF.updM k hm e6⟩
theorem RxL.upd0(k:Upd No h h')(r:RxL W h ks L):RxL W h' ks L:=⟨r.1,λp a=>(r.2 p a).upd0 k⟩
theorem RxL.app{b:List aT}{L':List Bn}(r:RxL W h ks L)(c:RxL W h b L'):RxL W h (ks++b) (L++L'):=by
 refine⟨by rw[ae,ae,r.1,c.1],λp a=>?_⟩
 rw[List.zip_append r.1]at a;rcases aN.1 a with a|a
 .exact r.2 p a
 .exact c.2 p a
theorem RxL.one{n:Bn}(c:Kid W h k n):RxL W h [k] [n]:=⟨rfl,λp a=>by rw[jH,List.zip_nil_left]at a;rw[List.mem_singleton.1 a];exact c⟩
theorem RxL.take(r:RxL W h ks L)(i:Nat):RxL W h (ks.take i) (L.take i):=by
 refine⟨by rw[aV,aV,r.1],λp a=>r.2 p ?_⟩
 have:(ks.take i).zip (L.take i)=(ks.zip L).take i:=by rw[oy,oy,List.take_zipWith]
 rw[this]at a;exact gi a
theorem RxL.drop(r:RxL W h ks L)(i:Nat):RxL W h (ks.drop i) (L.drop i):=by
 refine⟨by rw[ba,ba,r.1],λp a=>r.2 p ?_⟩
 have:(ks.drop i).zip (L.drop i)=(ks.zip L).drop i:=by rw[oy,oy,List.drop_zipWith]
 rw[this]at a;exact List.mem_of_mem_drop a
theorem RxL.ins(r:RxL W h ks L)(i:Nat){n:Bn}(c:Kid W h k n):RxL W h (ks.take i++k::ks.drop i) (L.take i++n::L.drop i):=by
 have:=(r.take i).app ((RxL.one c).app (r.drop i));exact this
theorem RxL.set(r:RxL W h ks L)(hi:i<L.length){n:Bn}(c:Kid W h k n):RxL W h (ks.set i k) (L.set i n):=by
 have:=(r.take i).app ((RxL.one c).app (r.drop (i+1)));rw[dJ,dJ,if_pos (by rw[r.1];exact hi),if_pos hi];exact this
theorem RxL.at{W:dx}{h:ad}{ks:List aT}{L:List Bn}(r:RxL W h ks L){i:Nat}(hi:i<L.length):∃b sl,ks[i]? =some (some ⟨b,0,none⟩)/\sl.data.toList=L[i].1/\RxN W h b sl L[i].2.1 L[i].2.2:=by
 have e:i<ks.length:=by rw[r.1];exact hi
 have d:i<(ks.zip L).length:=by rw[List.length_zip];omega
 have:=r.2 _ (aF d);rw[List.getElem_zip]at this;obtain⟨b,sl,f,c,a⟩:=this;exact⟨b,sl,by rw[List.getElem?_eq_getElem e];exact congrArg some f,c,a⟩
theorem EJ:∀{L:List Bn} {c:Nat},L.Pairwise (λm n=>hd m.1<hd n.1)->(∀n∈L,c<=hd n.1)->L= []\/c+L.length<=256
 | [],_,_,_=>.inl rfl
 |n::L,c,a,hc=>by
  have a:=aC.1 a;have b:=hc n (aq ..);have d:=abj n.1;rcases EJ (c:=hd n.1+1) a.2 λm hm=>a.1 m hm with e|e
  .rw[e];right;simp only[aG];omega
  .right;rw[av];omega
theorem kh(h:fq F):F.toL.length<=256:=by
 rcases EJ (c:=0) (dY.1 h).1 λ_ _=>aJ _ with e|e
 .rw[e];simp
 .omega
theorem eA(hb:h[b]? =some (.cells c 264 (0,0))):aZ h (adr ⟨b,0,none⟩ i)=c[i]?:=by rw[bZ,aU];exact bw hb
theorem Ze(hb:h[b]? =some (.cells c 264 (0,0))) (hi:i<c.size):Wr h (adr ⟨b,0,none⟩ i):=by rw[bZ,aU];exact fk hb hi
theorem KB{c':Array Value}{v:Value}{k:dO}(hb:h[b]? =some (.cells c 264 (0,0))) (e:c.setIfInBounds i v=c') (f:∀h',h'[b]? =some (.cells c' 264 (0,0))->Upd (· =b) h h'->k h'):At (hset h (adr ⟨b,0,none⟩ i) v) k:=by
 rw[bZ,aU];exact zV hb λh' a d=>f h' (e▸a) d
theorem PV(s:c6)(i:Nat):s[i]? =s.data.toList[i]?:=by
 rw[Array.getElem?_toList];by_cases h:i<s.size
 .rw[getElem?_pos s i h,getElem?_pos s.data i h];rfl
 .rw[getElem?_neg s i h,getElem?_neg s.data i h]
theorem NG{s:c6}(a:s.data.toList≠[]):∃c:UInt8,s[0]? =some c/\c.toNat=hd s.data.toList:=by
 rw[PV];match s.data.toList,a with
 |c::l,_=>exact⟨c,rfl,rfl⟩
theorem EG{sl:c6}(r:RxN W h b sl w F)(hc:fq F){c:Nat}(hc8:c<256){K:Int×Bool->dO}
  (C:∀i ok,i<=F.toL.length->(∀j (p:j<F.toL.length),j<i->hd F.toL[j].1<c)->(∀j (p:j<F.toL.length),i<=j->c<=hd F.toL[j].1)->(ok=true↔∃hi:i<F.toL.length,hd F.toL[i].1=c)->K ((i:Int),ok) h):zG 163 [gZ b,.int .u8 c] K h:=by
 refine DP _ c ?_;dsimp only[vW,nU,bR,cJ];obtain⟨val,s,ow,ks,hb,_,Z,V,hF⟩:=r;refine⟨_,rfl,s,eA (i:=3) hb,?_⟩;have H:=lw.1 hF;have f:=dY.1 hc;have hn:=kh hc;have y:=Z.len;rw[H.1]at y;generalize hLe:F.toL=L at H f hn y C;refine hJ s c _ ?_;dsimp only[d8,za,Kt,qW,cz,jX,fj,Oe]
 have E:∀{i:Nat} (hi:i<L.length) {K:Int->dO},K ((hd L[i].1:Int)-(c:Int)) h->∃a,s.a=some a/\∃v,aZ h (adr a (i*1))=some (.pointer v)/\HV PG (.func (.func 231) #[] #[]) [.pointer v,.int .u8 c] [.c (.int .i64)] K h:=by
  intro i hi K C;obtain⟨kb,D,J,G,N⟩:=H.at hi;obtain⟨a,ha,_,hv⟩:=Z.at0 J;refine⟨a,ha,_,hv,HV.mk' (dg (tL (some ⟨kb,0,none⟩) c) .nil Tryz.func231 Tryz.call231 ?_)⟩;dsimp only[tL,zY,wR,cM,cJ];obtain⟨kval,kss,kow,kks,Q,_⟩:=N;have T:D.data.toList≠[]:=by rw[G];exact(f.2 _ (aF hi)).1
  obtain⟨u,hu,O⟩:=NG T;refine⟨_,rfl,D,eA (i:=0) Q,u,gM _,hu,?_⟩;simp only[Bd];have e:=abj L[i].1;rw[O,G,dI (x:=(hd L[i].1:Int)) a4,dI (x:=(c:Int)) a4,dI a4];exact C
 have mono:∀i j (hi:i<L.length) (p:j<L.length),i<j->hd L[i].1<hd L[j].1:=λi j hi p d=>cp.1 f.1 i j hi p d
 refine ez (λ(g:Nat×Nat) (t:Int×Int) h'=>t.1=(g.1:Int)/\t.2=(g.2:Int)/\g.1<=g.2/\g.2<=L.length/\h'=h/\(∀j (p:j<L.length),j<g.1->hd L[j].1<c)/\(∀j (p:j<L.length),g.2<=j->c<=hd L[j].1)) (λg=>g.2-g.1) (0,L.length)
  ⟨rfl,by(try simp only);omega,a6,a6,rfl,λj p h=>a4,λj p h=>by(try simp only at h);omega⟩ ?_
 rintro I ⟨i,j⟩ ⟨ti,tj⟩ h' ⟨X,Y,d,k,rfl,o,n⟩ hI;(try simp only at X Y d k o n)
 subst X Y;refine ar (λe=>?_) λR=>?_
 .have e:i<j:=by have:(i:Int)<(j:Int):=e;omega
  have em:ac .i64 (eY (ac .u64 (ac .i64 ((i:Int)+(j:Int)))) (2^(min (1:Int).toNat (al .u64))))=(((i+j)/2:Nat):Int):=by
   have e3:(2^(min (1:Int).toNat (al .u64)):Int)=2:=rfl;rw[e3,dI (x:=(i:Int)+(j:Int)) a4,Go.IntWalk.u64_in _ a4,Int.fdiv_eq_ediv_of_nonneg _ a4,dI a4];omega
  refine⟨a8,?_⟩;simp only[Bd];rw[em];generalize hm:(i+j)/2=m;have B:m<L.length:=a4
  refine⟨a4,?_⟩;refine E B ?_;refine ar (λhneg=>?_) λU=>?_
  .refine hI (m+1,j) _ _ ⟨by(try simp only);rw[dI a4];omega,rfl,by(try simp only);omega,k,rfl,λq S z=>?_,n⟩ (by(try simp only);omega)
   (try simp only at z)
   rcases ci q m with h|h
   .have:=mono q m S B h;omega
   .have:q=m:=by omega
    subst this;omega
  .refine hI (i,m) _ _ ⟨rfl,rfl,by(try simp only);omega,by(try simp only);omega,rfl,o,λq S z=>?_⟩ (by(try simp only);omega)
   (try simp only at z)
   rcases ci m q with h|h
   .have:=mono m q B S h;omega
   .have:q=m:=by omega
    subst this;omega
 .have d:i=j:=by have:¬(i:Int)<(j:Int):=R;omega
  subst d;refine ar (λe=>?_) λP=>?_
  .have A:i<L.length:=by have:(i:Int)<(s.len:Int):=e;omega
   refine⟨by(try simp only);omega,?_⟩;refine E A ?_;refine C i _ k o n ?_;rw[beq_iff_eq];exact⟨λh=>⟨A,a4⟩,λ⟨_,h⟩=>a4⟩
  .have A:i=L.length:=by have:¬(i:Int)<(s.len:Int):=P;omega
   exact C i false k o n ⟨λh=>(by cases h),λh=>(by obtain⟨h,_⟩:=h;omega)⟩
theorem O6{K:Bool->dO}(a:K false h):gl 228 [gZ b,.pointer none] K h:=by
 refine Cp _ none ?_;dsimp only[uX,cO,cJ];exact ay.2 (zC (ag.2 a))
abbrev abb:c4:= [.string (⟨#[]⟩:c6),.bool false,.string (⟨#[]⟩:c6),.slice none 0 0,.pointer none]
theorem pZ{sl:c6}(hb:h[b]? =some (.cells (EH sl has val s ow) 264 (0,0))) (A:Sl qA 1 W h s ks) (B:ks.length<=256) {K:aT->dO}
  (v:∀h' s',h'[h.size]? =some (.cells (EH sl has val s' none) 264 (0,0))->OwnS qA 1 51 (λx=>h.size<x/\x<h'.size) h' s' ks->Upd No h h'->K (some ⟨h.size,0,none⟩) h'):
  fu 161 [gZ b,.pointer none] K h:=by
 refine Fh _ none ?_;dsimp only[xS,cM,nv,yK,cO,bR,dd,Ou,acu,cJ,ix,zZ,ga,nU];refine O6 (ag.2 ?_);refine⟨_,rfl,sl,eA (i:=0) hb,has,eA (i:=1) hb,val,eA (i:=2) hb,s,eA (i:=3) hb,ow,eA (i:=4) hb,bL ?_⟩;have k1:=e9 No h abb 264;have b1:=cf h abb 264;simp only[cG h];generalize hnew h [.string (⟨#[]⟩:c6),.bool false,.string (⟨#[]⟩:c6),.slice none 0 0,.pointer none] 264=h1 at k1 b1
 refine co (c:=abb) (vs:= [.string sl,.bool has,.string val,.slice s.a s.len s.cap,.pointer ow]) b1 rfl λt b2 j=>?_
 have m:Upd No h t:=k1.trans j λx hx=>.inr (cL hx.symm)
 have y:h.size<t.size:=bB b2;have n:=m.get0 hb;refine⟨_,rfl,s,eA (i:=3) n,?_⟩;refine Mi (A.upd m λ_ h=>h.elim) a4 λp w o d=>?_
 have b3:w[h.size]? =some (.cells (EH sl has val s ow) 264 (0,0)):=d.get0 b2;refine⟨Ze (i:=3) b3 (show 3<5 by decide),KB (i:=3) (c':=EH sl has val p ow) b3 rfl λC q k=>?_⟩
 refine⟨Ze (i:=4) q (show 4<5 by decide),KB (i:=4) (c':=EH sl has val p none) q rfl λu z g=>?_⟩
 refine zC (ag.2 ?_);have a:=k.tr g;have D:=a.size;have f:=(o.within.upd a λx hx e=>by have e:x=h.size:=e;have:=hx.1;omega).more (M':=λx=>h.size<x/\x<u.size) λx hx=>⟨by have:=hx.1;omega,by have:=hx.2;omega⟩
 exact v u p z f ((m.tr d).trans a λx hx=>.inr (cL hx.symm))
theorem yj{sl nl:c6}(hb:h[b]? =some (.cells (EH sl has val s ow) 264 (0,0))) {K:aT->dO}
  (a:∀h',h'[b]? =some (.cells (EH nl has val s ow) 264 (0,0))->Upd (· =b) h h'->K (some ⟨b,0,none⟩) h'):fu 234 [gZ b,.string nl] K h:=by
 refine Co _ nl ?_;dsimp only[uW,dd,cJ];exact⟨_,rfl,Ze (i:=0) hb (show 0<5 by decide),KB (i:=0) (c':=EH nl has val s ow) hb rfl a⟩
theorem FK{sl:c6}(hb:h[b]? =some (.cells (EH sl has val s ow) 264 (0,0))) {K:aT->dO}
  (e:∀h',h'[b]? =some (.cells (EH sl true v s ow) 264 (0,0))->Upd (· =b) h h'->K (some ⟨b,0,none⟩) h'):fu 162 [gZ b,.string v] K h:=by
 refine AW _ v ?_;dsimp only[tJ,dd,cJ];exact⟨_,rfl,Ze (i:=1) hb (show 1<5 by decide),KB (i:=1) (c':=EH sl true val s ow) hb rfl λf b1 c=>⟨_,rfl,Ze (i:=2) b1 (show 2<5 by decide),KB (i:=2) (c':=EH sl true v s ow) b1 rfl λd b2 a=>e d b2 (c.tr a)⟩⟩
theorem RB{k:c6}{K:aT->dO}(j:∀h' b s,h'[b]? =some (.cells (EH k true v s none) 264 (0,0))->s.len=0->s.len<=s.cap->h.size<=b->Upd No h h'->K (some ⟨b,0,none⟩) h'):fu 165 [.pointer none,.string k,.string v] K h:=by
 refine dg (Bs none k v) .nil Tryz.func165 Tryz.call165 ?_;unfold Bs yK pW Ou;have k1:=e9 No h abb 264;have b1:=cf h abb 264;refine bL ?_;simp only[cG h];generalize hnew h [.string (⟨#[]⟩:c6),.bool false,.string (⟨#[]⟩:c6),.slice none 0 0,.pointer none] 264=h1 at k1 b1;refine pZ (W:=No) (ks:= []) (sl:=⟨#[]⟩) (val:=⟨#[]⟩) (has:=false) (s:=⟨none,0,0⟩) (ow:=none) b1 (Sl.nil pq) (aJ _) λo s b2 a d=>?_
 refine yj (nl:=k) b2 λn b3 e=>FK (v:=v) b3 λm i f=>?_
 have c:=e.tr f;have z:=d.size;have g:=k1.size;refine j m h1.size s i a.len a.cap g ((k1.tr d).trans c λx hx=>.inr (by have hx:x=h1.size:=hx;omega))
theorem acY{k:c6}(hb:h[b]? =some (.cells (EH k true v s ow) 264 (0,0))) (a:s.len=0) (hc:s.len<=s.cap) (nw:¬W b):RxN W h b k (some v) .nil:=
 ⟨v,s,ow,[],hb,rfl,⟨a,pq,λh=>absurd rfl h⟩,⟨hc,nw⟩,rfl⟩
theorem Dr(s:c6)(c:Nat):(s.extract 0 c).data.toList=s.data.toList.take c:=by
 rw[qz,Array.toList_extract,gS];simp
theorem Dt(s:c6)(c:Nat):(s.extract c s.size).data.toList=s.data.toList.drop c:=by
 rw[qz,Array.toList_extract,gS,List.take_of_length_le];rw[ba];simp
theorem RA{sl:c6}(r:RxN W h b sl w F)(A:∀y,W y->y<h.size)(S:F.toL.length<=256){c:Nat}(hc:c<=sl.size){K:aT->dO}
  (Q:∀h' b',RxN W h' b' (sl.extract 0 c) none (.cons (sl.data.toList.drop c) w F .nil)->Upd No h h'->K (some ⟨b',0,none⟩) h'):fu 167 [gZ b,.pointer none,.int .i64 c] K h:=by
 refine Cn _ none c ?_;dsimp only[uV,cM,yK,pW,dd,Ou,cJ,wR];obtain⟨val,s,ow,ks,hb,hv,Z,J,N⟩:=r;have lab:∀{h'},Upd No h h'->aZ h' (adr ⟨b,0,none⟩ 0)=some (.string sl):=λk=>eA (i:=0) (k.get0 hb)
 have r0:=eM No h;refine⟨_,rfl,sl,lab r0,⟨a4,a4⟩,bL ?_⟩
 have k1:=e9 No h abb 264;have b1:=cf h abb 264;simp only[cG h];generalize hnew h [.string (⟨#[]⟩:c6),.bool false,.string (⟨#[]⟩:c6),.slice none 0 0,.pointer none] 264=h1 at k1 b1;refine⟨lab k1,?_⟩;refine pZ (W:=No) (ks:= []) (sl:=⟨#[]⟩) (val:=⟨#[]⟩) (has:=false) (s:=⟨none,0,0⟩) (ow:=none) b1 (Sl.nil pq) (aJ _) λh2 U b2 _ q=>⟨lab (k1.tr q),?_⟩
 rw[aY];refine yj b2 λd b3 E=>?_
 have z1:=k1.size;have a:Upd No h d:=(k1.tr q).trans E λx hx=>.inr (by have hx:x=h1.size:=hx;omega)
 refine pZ (a.get0 hb) (Z.upd a λ_ h=>h.elim) (by rw[(lw.1 N).1];exact S) λh4 P I C t=>?_
 refine⟨_,rfl,sl,eA (i:=0) I,⟨a4,a4⟩,?_⟩
 refine yj (nl:=sl.extract c sl.size) I λf X n=>?_
 have m:Upd No h f:=(a.tr t).trans n λx hx=>.inr (by have hx:x=d.size:=hx;have:=a.size;omega)
 have G:=C.upd n λx hx e=>by have e:x=d.size:=e;have:=hx.1;omega
 have Y:=bB b3;have p:f[h1.size]? =some (.cells (EH (sl.extract 0 c) false ⟨#[]⟩ U none) 264 (0,0)):=n.get (t.get0 b3) (by show ¬h1.size=d.size;omega);have z:=e9 No f [.pointer (some ⟨d.size,0,none⟩)] 51;have L:=cf f [.pointer (some ⟨d.size,0,none⟩)] 51;have hz5:=m.size;have R:=a.size;refine bL ?_;simp only[cG f];generalize hnew f [.pointer (some ⟨d.size,0,none⟩)] 51=h6 at z L
 have u:=z.get0 p;have O:=bB p;refine⟨_,rfl,Ze (i:=3) u (show 3<5 by decide),KB (i:=3) (c':=EH (sl.extract 0 c) false ⟨#[]⟩ ⟨some ⟨f.size,0,none⟩,1,1⟩ none) u rfl λH T g=>?_⟩
 have j:Upd No h H:=(m.tr z).trans g λx hx=>.inr (by have hx:x=h1.size:=hx;omega)
 have B:H[f.size]? =some (.cells #[.pointer (some ⟨d.size,0,none⟩)] 51 (0,0)):=g.get L (by show ¬f.size=h1.size;omega);have D:=g.get (z.get0 X) (by show ¬d.size=h1.size;omega);have o:=(G.upd z λ_ _ h=>h).upd g λx hx e=>by have e:x=h1.size:=e;have:=hx.1;omega
 refine Q H h1.size ⟨⟨#[]⟩,_,none,[some ⟨d.size,0,none⟩],T,rfl,⟨rfl,pq,λ_=>⟨_,rfl,(λhx=>by have hx:W f.size:=hx;have:=A _ hx;omega),p5 B λi v hi=>?_⟩⟩,⟨aj _,λhx=>by have:=A _ hx;omega⟩,?_⟩ j
 .rw[aU]
  rw[<-List.getElem?_toArray]at hi;exact hi
 .refine⟨d.size,sl.extract c sl.size,val,P,none,ks,[],rfl,Dt ..,D,hv,o.sl (λx hx _ V=>by have:=A _ V;have:=hx.1;omega),⟨o.cap,λhx=>by have:=A _ hx;omega⟩,RxF.upd0 j N,rfl⟩
theorem Mg:∀{x y:c5} {i:Nat},i<=x.length->i<=y.length->(∀j,j<i->x[j]? =y[j]?)->(i=x.length\/i=y.length\/x[i]?≠y[i]?)->cm x y=i
 | [],_,i,h1,_,_,_=>by simp at h1;simp[cm,h1]
 |_::_,[],i,_,h2,_,_=>by simp at h2;simp[cm,h2]
 |a::x,b::y,0,_,_,_,h=>by
  unfold cm;rw[if_neg];rintro rfl;rcases h with h|h|h<;>simp at h
 |a::x,b::y,i+1,h1,h2,h3,h4=>by
  have:=h3 0 a4;simp only[List.getElem?_cons_zero,bO.injEq]at this;unfold cm;rw[if_pos this,Mg (i:=i) (by simpa using h1) (by simpa using h2) (λj c=>by simpa using h3 (j+1) a4) (by simpa using h4)]
theorem V7{a b:c6}(y:a.size<=1000000){K:Int->dO}(n:K (cm a.data.toList b.data.toList:Nat) h):fK 166 [.string a,.string b] K h:=by
 refine dg (Bo a b) K7 Tryz.func166 Tryz.call166 ?_;dsimp only[Bo,AR];simp only[Bd];have f:(if(b.size:Int)<(a.size:Int)then(b.size:Int)else(a.size:Int))=((min a.size b.size:Nat):Int):=by split<;>omega
 rw[f];have A:a.data.toList.length=a.size:=a6
 have z:b.data.toList.length=b.size:=a6
 refine ez (λ(i:Nat) (t:Int) h'=>t=(i:Int)/\i<=min a.size b.size/\h'=h/\∀j,j<i->a.data.toList[j]? =b.data.toList[j]?) (λi=>min a.size b.size-i) 0 ⟨rfl,aJ _,rfl,λj u=>absurd u (j1 _)⟩ ?_
 rintro I i t h' ⟨rfl,hi,rfl,p⟩ x;refine ar (λc=>?_) λw=>?_
 .have c:i<min a.size b.size:=by omega
  have k:i<a.size:=a4
  have g:i<b.size:=a4
  refine⟨a[i],a4,by rw[aY,getElem?_pos a i k],b[i],a4,by rw[aY,getElem?_pos b i g],?_⟩
  have v:a.data.toList[i]? =some a[i]:=by rw[<-PV,getElem?_pos a i k]
  have q:b.data.toList[i]? =some b[i]:=by rw[<-PV,getElem?_pos b i g]
  refine eh (λm=>?_) λd=>?_
  .rw[Mg (i:=i) a4 a4 p (.inr (.inr λe=>?_))]at n
   .exact n
   .rw[v,q]at e
    rw[bO.inj e]at m;simp at m
  .have d:a[i]=b[i]:=by
    have:((a[i].toNat:Int))=(b[i].toNat:Int):=by simpa using d
    exact UInt8.toNat_inj.1 a4
   rw[bN c a4];refine x (i+1) _ _ ⟨rfl,c,rfl,λj u=>?_⟩ a4
   rcases ci j i with s|s
   .exact p j s
   .have:j=i:=by omega
    subst this;rw[v,q,d]
 .have o:i=min a.size b.size:=by omega
  rw[Mg (i:=i) a4 a4 p a4]at n;rw[<-o];exact n
theorem Vu{k:c5}(h:fq F)(hi:i<F.toL.length)(ek:hd F.toL[i].1=hd k)(a:wW (vr F.toL[i]) (vr F.toL[i]) k v):wW (qC F) (qC F) k v:=by
 have:=Pl h hi ek a;rw[List.set_getElem_self,Fo.of_to]at this;exact this
theorem Xu{P Q a:c5->c6->Prop}{k:c5}(h:wW P a k v)(e:∀k v,P k v↔Q k v):wW Q a k v:=λk' b=>by rw[h k' b,e]
set_option maxHeartbeats 1000000 in
theorem Xg:∀(n:Nat) {b:Nat} {sl:c6} {w:Option c6} {F:Fo} {h:ad} (k v:c6),k.size<n->k.size<=1000000->RxN W h b sl w F->(∀y,W y->y<h.size)->fq F->∀{K:aT×Bool×Bool->dO},
  (∀h' b' w' F' C ch,Upd No h h'->RxN W h' b' sl w' F'->fq F'->wW (sE w F) (sE w' F') k.data.toList v->(ch=false->b'=b/\w'=w/\F'=F)->(sE w F k.data.toList v->ch=false)->K (some ⟨b',0,none⟩,C,ch) h')->
  NH 112 [gZ b,.pointer none,.string k,.string v] K h:=by
 intro n;induction n with
 |zero=>intro b sl w F h k v hk;omega
 |succ n ih=>
  intro b sl w F h k v G hk6 r hW hc K hk;refine dg (xR (some ⟨b,0,none⟩) none k v) Fs Tryz.func112 Tryz.call112 ?_;dsimp only[xR,cM,ga,yK,pW,bR,dd,kF,Zx,Kt,acy,MR,cJ,jX,fj,ix,qW,cz,nU,zY,wR];have hr:=r;obtain⟨val,s,ow,ks,hb,hv,hs,hcap,hF⟩:=r;have V:=lw.1 hF;have hn:=kh hc;have hcan:=dY.1 hc;rw[dZ]
  refine ar (λhk0=>?_) λhk0=>?_
  .have hke:k.data.toList= []:=by rw[hk0]
   rw[hke]at hk;refine eF (λt h'=>t=decide (w=some v)/\h'=h) (λR hR=>⟨_,rfl,w.isSome,eA (i:=1) hb,?_⟩) ?_
   .cases I:w with
    |none=>exact ag.2 (hR _ _ ⟨by rw[I];rfl,rfl⟩)
    |some u=>
     refine ay.2 ⟨_,rfl,val,eA (i:=2) hb,hR _ _ ⟨?_,rfl⟩⟩;rw[dZ,vw hv u I,I];exact decide_eq_decide.2 ⟨λe=>by rw[e],λe=>bO.inj e⟩
   .rintro t h' ⟨rfl,rfl⟩
    refine ar (λe=>?_) λe=>?_
    .refine hk h' b w F false false (eM _ _) hr hc ?_ (λ_=>⟨rfl,rfl,rfl⟩) λ_=>rfl
     rw[e];exact Lw hc v
    .refine⟨_,rfl,w.isSome,eA (i:=1) hb,?_⟩
     refine pZ hb hs (by rw[V.1];exact hn) λh1 s1 b1 ho1 z=>?_
     refine⟨eA (i:=1) (z.get0 hb),?_⟩;refine FK b1 λA b2 B=>?_
     have d:Upd No h' A:=z.trans B λx hx=>.inr (cL (Eq.symm hx))
     refine⟨eA (i:=1) (d.get0 hb),?_⟩;have ho2:=ho1.upd B λx hx e=>by have e:x=h'.size:=e;have:=hx.1;omega
     refine hk A h'.size (some v) F _ true d ⟨v,s1,none,ks,b2,rfl,ho2.sl (λx hx _ I=>by have:=hW _ I;have:=hx.1;omega),⟨ho2.cap,λhx=>l8 _ (hW _ hx)⟩,RxF.upd0 d hF⟩ hc (Lw hc v) (λh=>by cases h) λo=>?_
     rcases o with⟨_,h⟩|h
     .exact absurd h e
     .exact absurd rfl (pu hc h)
  .have f:k.data.toList≠[]:=λe=>hk0 (by cases k;exact congrArg lJ (ju.1 e))
   obtain⟨c0,hc0,hc0e⟩:=NG f;refine⟨c0,gM _,hc0,?_⟩;have hlk:k.data.toList.length=k.size:=a6
   refine EG hr hc (c:=c0.toNat) (UInt8.toNat_lt _) λi ok Z hlo hhi hok=>?_
   rw[hc0e]at hlo hhi hok;cases ok with
   |false=>
    have hno:∀hi:i<F.toL.length,hd F.toL[i].1≠hd k.data.toList:=λhi e=>by have:=hok.2 ⟨hi,e⟩;cases this
    have hhi':∀j (hj:j<F.toL.length),i<=j->hd k.data.toList<hd F.toL[j].1:=λj hj hij=>by
     have h1:=hhi j hj hij;rcases ci i j with X|X
     .have A:=cp.1 hcan.1 i j a4 hj X
      have h3:=hhi i a4 (aj _);omega
     .have:i=j:=by omega
      subst this;have:=hno hj;omega
    obtain⟨hc',hp'⟩:=Vw (v:=v) hc f hlo hhi';refine ay.2 ?_;refine pZ hb hs (by rw[V.1];exact hn) λh1 s1 b1 ho1 z=>?_
    refine⟨_,rfl,s1,eA (i:=3) b1,?_⟩;refine RB λA fb fs fb2 hf0 hfc hfb B=>⟨eA (i:=3) (B.get0 b1),bL ?_⟩
    have k3:=e9 No A [.pointer (some ⟨fb,0,none⟩)] 51;have b3:=cf A [.pointer (some ⟨fb,0,none⟩)] 51;have z3:(hnew A [.pointer (some ⟨fb,0,none⟩)] 51).size=A.size+1:=dS ..;simp only[cG A];generalize hnew A [.pointer (some ⟨fb,0,none⟩)] 51=h3 at k3 b3 z3;have D:=B.tr k3;refine⟨eA (i:=3) (D.get0 b1),?_⟩;have z1:=bB b1;have z2:=B.size;have zf:=bB fb2;have ho3:=(ho1.upd D λ_ _ h=>h).more (M':=λx=>(h.size<x/\x<h1.size)\/h3.size<=x) λx hx=>.inl hx
    refine SD ho3 (k:=i) (by rw[V.1];exact Z) (by rw[V.1];omega) b3 (by rintro(h|h)<;>omega) (λx hx=>.inr hx) λs4 h4 L H=>?_
    have b4:=H.get (D.get0 b1) (by rintro(h|h)<;>omega)
    have f4:=H.get (k3.get0 fb2) (by rintro(h|h)<;>omega)
    refine⟨_,rfl,Ze (i:=3) b4 (show 3<5 by decide),KB (i:=3) (c':=EH sl w.isSome val s4 none) b4 rfl λh5 b5 hu5=>?_⟩
    have hu05:Upd No h h5:=((z.tr D).trans H λx hx=>.inr (by have:=z.size;rcases hx with hx|hx<;>omega)).trans hu5 λx hx=>.inr (cL (Eq.symm hx))
    have ho5:=L.upd hu5 λx hx e=>by have e:x=h.size:=e;rcases hx with hx|hx<;>omega
    have f5:=hu5.get f4 (by show ¬fb=h.size;omega);refine hk h5 h.size w _ true true hu05 ⟨val,s4,none,_,b5,hv,ho5.sl (λx hx _ I=>by have:=hW _ I;rcases hx with hx|hx<;>omega),⟨ho5.cap,λhx=>l8 _ (hW _ hx)⟩,lw.2 (by rw[Fo.to_of];exact(V.upd0 hu05).ins i ⟨fb,k,rfl,rfl,acY f5 hf0 hfc λhx=>by have:=hW _ hx;omega⟩)⟩ hc' (ER f hp') (λh=>by cases h) λo=>?_
    rcases o with⟨h,_⟩|o
    .exact absurd h f
    .obtain⟨n',hn',e,_⟩:=qR hc o
     obtain⟨j,hj,rfl⟩:=List.getElem_of_mem hn';rcases ci j i with X|X
     .have:=hlo j hj X;omega
     .have:=hhi' j hj X;omega
   |true=>
    obtain⟨hi,J⟩:=hok.1 rfl;refine ag.2 ⟨_,rfl,s,eA (i:=3) hb,?_⟩;obtain⟨kb,Y,hki,p,G⟩:=V.at hi;have hmem:F.toL[i]∈F.toL:=aF hi;have g:=hcan.2 _ hmem;obtain⟨a,ha,_,hvv⟩:=hs.at0 hki;have hslen:=hs.len;rw[V.1]at hslen;have hlt1:(i:Int)<((s.len:Nat):Int):=a4
    refine⟨⟨by(try simp only);omega,hlt1⟩,a,ha,some ⟨kb,0,none⟩,hvv,_,rfl,?_⟩;obtain⟨kval,kss,kow,kks,hkb,_⟩:=id G;refine⟨Y,eA (i:=0) hkb,V7 hk6 ?_⟩;rw[p];have hc1:=Yw f g.1 J.symm;have T:=UM k.data.toList F.toL[i].1;have O:=UK k.data.toList F.toL[i].1;have hcd:=NU k.data.toList F.toL[i].1;have hll:Y.size=F.toL[i].1.length:=by rw[<-p];simp
    have P:qC F k.data.toList v->vr F.toL[i] k.data.toList v:=λo=>by
     obtain⟨n',hn',e,hN⟩:=qR hc o;rw[<-yv hc hn' hmem a4];exact hN
    have hset:∀{w2:Option c6} {F2:Fo} {nl:c5},nl≠[]->hd nl=hd F.toL[i].1->fq F2->Br (sE w2 F2)->fq (.ofL (F.toL.set i (nl,w2,F2))):=λh1 A h3 h4=>UN hc hi ⟨h1,(Jo h3).2 h4,h3⟩ A
    have U:∀{m:Bn},wW (vr F.toL[i]) (vr m) k.data.toList v->wW (qC F) (qC (.ofL (F.toL.set i m))) k.data.toList v:=λhp=>Pl hc hi J hp
    have S:wW (vr F.toL[i]) (vr F.toL[i]) k.data.toList v->wW (qC F) (qC F) k.data.toList v:=Vu hc hi J;have hrset:∀{h':ad} {k':aT} {m:Bn},Upd No h h'->Kid W h' k' m->RxL W h' (ks.set i k') (F.toL.set i m):=λhu hkd=>(V.upd0 hu).set hi hkd
    generalize F.toL[i]=m at p G g hc1 T O hcd hll P hset U S J;generalize hcc:cm k.data.toList m.1=c at hc1 T O hcd;obtain⟨lab,wk,Fk⟩:=m;(try simp only at p G g T O hcd hll J hset)
    refine eF (λt h'=>∃ub q wu Fu,t=some ⟨ub,0,none⟩/\Upd No h h'/\RxN W h' ub q wu Fu/\fq Fu/\q.data.toList=k.data.toList.take c/\(∀k' v',vr (q.data.toList,wu,Fu) k' v'↔vr (lab,wk,Fk) k' v')/\(∀w' F',fq F'->wW (sE wu Fu) (sE w' F') (k.data.toList.drop c) v->Br (sE w' F'))) (λR hR=>⟨_,rfl,Y,eA (i:=0) hkb,?_⟩) ?_
    .refine ar (λhlt=>?_) λhge=>?_
     .have hlt:c<lab.length:=by omega
      refine RA G hW (kh g.2.2) (c:=c) a4 λh1 ub rn z=>hR _ _ ⟨ub,_,none,_,rfl,z,rn,?_,?_,?_,?_⟩
      .rw[p]
       refine⟨λe=>?_,g.2.1,g.2.2,λ_ h=>by simp[Fo.toL]at h,trivial⟩
       have:=congrArg eT e;rw[ba,bq]at this;omega
      .rw[Dr,p,O]
      .intro k' v'
       rw[Dr,p];exact LX c k' v'
      .intro w' F' hcF hp
       rw[p]at hp;refine YH (λe=>?_) g.2.1 g.2.2 (λhne=>?_) hp
       .have:=congrArg eT e
        rw[ba,bq]at this;omega
       .refine hcd ?_ hlt
        rcases ci c k.data.toList.length with X|X
        .exact X
        .exact absurd (List.drop_eq_nil_of_le X) hne
     .have hce:c=lab.length:=by omega
      refine hR _ _ ⟨kb,Y,wk,Fk,rfl,eM _ _,G,g.2.2,?_,?_,?_⟩
      .rw[p,O,hce,bG]
      .intro k' v';rw[p]
      .intro w' F' hcF hp
       exact aaJ ((Jo g.2.2).1 g.2.1) hp
    .rintro t h1 ⟨ub,q,wu,Fu,rfl,z,rn,hcu,hsl,N,hbr⟩
     refine⟨⟨a4,a4⟩,?_⟩
     rw[aY];have hkd:(k.extract c k.size).data.toList=k.data.toList.drop c:=Dt ..;have hks:(k.extract c k.size).size=k.size-c:=a6
     have E:k.data.toList=q.data.toList++k.data.toList.drop c:=by rw[hsl,aW]
     have Q:q.data.toList≠[]:=by
      rw[hsl];intro e;have:=congrArg eT e;rw[aV,bq]at this;omega
     have hslhd:hd q.data.toList=hd lab:=by
      rw[J];conv=>rhs;rw[E]
      rw[oq Q]
     refine ih (k.extract c k.size) v (by rw[hks];omega) (by rw[hks];omega) rn (λy hy=>Nat.lt_of_lt_of_le (hW y hy) z.size) hcu λA b2 w2 F2 C ch B rn2 hc2 hp2 hsm hch=>?_
     rw[hkd]at hp2 hch;have d:=z.tr B;have hpn:wW (vr (lab,wk,Fk)) (vr (q.data.toList,w2,F2)) k.data.toList v:=by
      have:=Xu (Vv (lab:=q.data.toList) hp2) N;rw[<-E]at this;exact this
     have hchg:sE w F k.data.toList v->ch=false:=λo=>by
      rcases o with⟨h,_⟩|o
      .exact absurd h f
      .obtain⟨r,e,hr'⟩:=(N _ _).2 (P o)
       (try simp only at e)
       rw[E]at e;have e2:=List.append_cancel_left e;rw[<-E]at e;exact hch (by rw[e2];exact hr')
     cases ch with
     |false=>
      obtain⟨_,rfl,rfl⟩:=hsm rfl;refine ay.2 (hk A b w F false false d (hr.upd0 d) hc (ER f (S ?_)) (λ_=>⟨rfl,rfl,rfl⟩) λ_=>rfl)
      intro k' v';exact(N k' v').symm.trans (hpn k' v')
     |true=>
      refine ag.2 ?_;refine pZ (d.get0 hb) (hs.upd d λ_ h=>h.elim) (by rw[V.1];exact hn) λh3 s3 b3 ho3 hu3=>?_
      refine⟨_,rfl,s3,eA (i:=3) b3,?_⟩;have Z:i<ks.length:=by rw[V.1];exact hi
      obtain⟨a3,ha3,hab,hw3,L,H⟩:=OwnS.setAt ho3 Z (some ⟨b2,0,none⟩);have hlen3:=ho3.len;refine⟨⟨by(try simp only);omega,by(try simp only);omega⟩,a3,ha3,?_⟩
      have hw1:Wr h3 (adr a3 (i*1)):=by
       rcases hw3 with I|⟨b',hb',I⟩
       .cases I
       .cases hb';exact I 0 a6
      refine⟨hw1,bL ?_⟩;have b4:=H.get b3 λe=>by have e:A.size=a3.block:=e;have:=hab.1;omega
      have hu24:Upd No A _:=hu3.trans H λx hx=>.inr (by have hx:x=a3.block:=hx;have:=hab.1;omega)
      have hu04:=d.tr hu24;have eset:ks.set i (some ⟨b2,0,none⟩)=ks.take i++some ⟨b2,0,none⟩::ks.drop (i+1):=by rw[dJ,if_pos Z]
      rw[<-eset]at L;exact hk _ A.size w _ C true hu04 ⟨val,s3,none,_,b4,hv,L.sl (λx hx _ I=>by have:=hW _ I;have:=d.size;have:=hx.1;omega),⟨L.cap,λhx=>by have:=hW _ hx;have:=d.size;omega⟩,lw.2 (by rw[Fo.to_of];exact hrset hu04 ⟨b2,q,rfl,rfl,rn2.upd0 hu24⟩)⟩ (hset Q hslhd hc2 (hbr _ _ hc2 hp2)) (ER f (U hpn)) (λh=>by cases h) hchg
def zw:Fo->List (c5×c6)
 | .nil=> []
 | .cons lab w kids rest=>((w.map λv=>(([]:c5),v)).toList++zw kids).map (λp=>(lab++p.1,p.2))++zw rest
def mR(w:Option c6)(F:Fo):List (c5×c6):=(w.map λv=>(([]:c5),v)).toList++zw F
theorem vE:∀{F:Fo} {k:c5} {v:c6},(k,v)∈zw F↔qC F k v
 | .nil,_,_=>by simp[zw,qC]
 | .cons lab w kids rest,k,v=>by
  unfold zw qC;rw[aN,vE (F:=rest)];refine or_congr ?_ ug;rw[be];constructor
  .rintro⟨⟨r,u⟩,hm,b⟩
   simp only[pf.injEq]at b;obtain⟨rfl,rfl⟩:=b;refine⟨r,rfl,?_⟩;rcases aN.1 hm with h|h
   .left
    rw[qo,lD]at h;obtain⟨a,c,b⟩:=h;simp only[pf.injEq]at b;exact⟨b.1.symm,by rw[c,b.2]⟩
   .exact .inr (vE.1 h)
  .rintro⟨r,rfl,h⟩
   refine⟨(r,v),aN.2 ?_,rfl⟩;rcases h with⟨rfl,h⟩|h
   .left;rw[h];simp
   .exact .inr (vE.2 h)
theorem jy{k:c5}:(k,v)∈mR w F↔sE w F k v:=by
 unfold mR sE;rw[aN,vE];refine or_congr ?_ ug;cases w with
 |none=>simp
 |some u=>simp[Prod.ext_iff,eq_comm]
abbrev Up(l:List (c5×c6)):Prop:=l.Pairwise λp q=>p.1<q.1
theorem N3{x:c5}(h:x<y):a++x<a++y:=by
 induction a with
 |nil=>exact h
 |cons c a ih=>exact List.Lex.cons ih
theorem PS{x:c5}(c:y≠[])(h:hd x<hd y):x<y:=by
 match x,y,c with
 | [],b::y,_=>exact yH
 |a::x,b::y,_=>exact List.Lex.rel (UInt8.lt_iff_toNat_lt.2 h)
theorem RV:∀{F:Fo},fq F->Up (zw F)
 | .nil,_=>cj
 | .cons lab w kids rest,h=>by
  unfold zw;refine cE.2 ⟨?_,RV h.2.2.2.2,?_⟩
  .rw[fH]
   refine List.Pairwise.imp (R:=λp q:c5×c6=>p.1<q.1) (λg=>N3 g) ?_
   refine cE.2 ⟨?_,RV h.2.2.1,?_⟩
   .cases w<;>simp
   .intro a f b hb
    have d:b.1≠[]:=pu h.2.2.1 (vE (F:=kids).1 (show(b.1,b.2)∈_ from hb))
    have i:a.1= []:=by
     rw[qo,lD]at f;obtain⟨v,_,e⟩:=f;rw[<-e]
    rw[i];match b.1,d with
    |c::l,_=>exact yH
  .intro a f b hb
   obtain⟨p,_,rfl⟩:=be.1 f;obtain⟨n,j,e,_⟩:=qR h.2.2.2.2 (vE (F:=rest).1 (show(b.1,b.2)∈_ from hb))
   have d:b.1≠[]:=pu h.2.2.2.2 (vE (F:=rest).1 (show(b.1,b.2)∈_ from hb))
   have:=h.2.2.2.1 n j;exact PS d (by rw[oq h.1];omega)
theorem Ua(h:fq F):Up (mR w F):=by
 refine cE.2 ⟨by cases w<;>simp,RV h,?_⟩
 intro a g b hb;have f:b.1≠[]:=pu h (vE (F:=F).1 (show(b.1,b.2)∈_ from hb))
 have d:a.1= []:=by
  rw[qo,lD]at g;obtain⟨v,_,e⟩:=g;rw[<-e]
 rw[d];match b.1,f with
 |c::l,_=>exact yH
theorem WW:∀{l l':List (c5×c6)},Up l->Up l'->(∀p,p∈l↔p∈l')->l=l'
 | [],[],_,_,_=>rfl
 | [],q::l',_,_,h=>absurd ((h q).2 (aq ..)) a6
 |p::l,[],_,_,h=>absurd ((h p).1 (aq ..)) a6
 |p::l,q::l',c,a,h=>by
  have c:=aC.1 c;have a:=aC.1 a;have e:p=q:=by
   rcases aw.1 ((h p).1 (aq ..))with e|f
   .exact e
   .rcases aw.1 ((h q).2 (aq ..))with e|g
    .exact e.symm
    .exact absurd (List.lt_trans (c.1 q g) (a.1 p f)) (vo _)
  subst e;rw[WW c.2 a.2 λz=>?_]
  constructor
  .intro d
   rcases aw.1 ((h z).1 (aA _ d))with e|b
   .exact absurd (c.1 z d) (by rw[e];exact vo _)
   .exact b
  .intro d
   rcases aw.1 ((h z).2 (aA _ d))with e|b
   .exact absurd (a.1 z d) (by rw[e];exact vo _)
   .exact b
def NT:Fo->Nat
 | .nil=>0
 | .cons _ _ kids rest=>1+NT kids+NT rest
theorem NS:∀{F:Fo},fq F->NT F+F.toL.length<=2*(zw F).length
 | .nil,_=>by simp[NT,Fo.toL]
 | .cons lab w kids rest,h=>by
  have b:=NS h.2.2.1;have c:=NS h.2.2.2.2;have a:=h.2.1;rw[Fo.toL_cons];unfold NT zw;rw[ae,List.length_map,ae,av];cases w with
  |none=>
   simp only[Option.map_none,Option.toList_none,bq];have:2<=kids.toL.length:=a.resolve_left a6;omega
  |some v=>simp only[Option.map_some,Option.toList_some,aG];omega
def Og:Fo->Prop
 | .nil=>True
 | .cons lab w kids rest=>lab.length<=10000/\(∀v,w=some v->v.size<=10000)/\kids.toL.length<=256/\Og kids/\Og rest
theorem SN:∀{F:Fo},fq F->(∀k v,qC F k v->k.length<=10000/\v.size<=10000)->Og F
 | .nil,_,_=>trivial
 | .cons lab w kids rest,h,hl=>by
  obtain⟨r,v,c⟩:=mZ h _ (aq ..);have b:=(hl _ v (fF.2 ⟨_,aq ..,r,rfl,c⟩)).1;rw[ae]at b;simp only at b;refine⟨a4,λv hv=>(hl lab v (.inl ⟨[],(aX _).symm,.inl ⟨rfl,hv⟩⟩)).2,kh h.2.2.1,SN h.2.2.1 λk v a=>?_,SN h.2.2.2.2 λk v a=>hl k v (.inr a)⟩
  have:=hl (lab++k) v (.inl ⟨k,rfl,.inr a⟩);rw[ae]at this;exact⟨a4,this.2⟩
def wI:Option c6->c5
 |some v=>1::oG v
 |none=> [0]
def tA(lab:c5)(w:Option c6)(n:Nat):c5:=oG ⟨lab.toArray⟩++(wI w++mY n 2)
def po:Fo->c5
 | .nil=> []
 | .cons lab w kids rest=>tA lab w kids.toL.length++(po kids++po rest)
def iQ(n:Bn):c5:=tA n.1 n.2.1 n.2.2.toL.length++po n.2.2
theorem zn:∀F:Fo,po F=F.toL.flatMap iQ
 | .nil=>rfl
 | .cons lab w kids rest=>by
  rw[Fo.toL_cons,aL,<-zn rest];show tA lab w kids.toL.length++(po kids++po rest)=(tA lab w kids.toL.length++po kids)++po rest
  rw[au]
theorem LD(b:lab.length<=10000)(a:∀v,w=some v->v.size<=10000):(tA lab w n).length<=20010:=by
 unfold tA;rw[ae,ae,jm,dz];have e:(lJ lab.toArray).size=lab.length:=by simp[ByteArray.size]
 rw[e];cases w with
 |none=>simp only[wI,aG];omega
 |some v=>have:=a v rfl;simp only[wI,av,jm];omega
theorem BP:∀{F:Fo},Og F->(po F).length<=NT F*20010
 | .nil,_=>by simp[po]
 | .cons lab w kids rest,h=>by
  have a:=LD (n:=kids.toL.length) h.1 h.2.1;have c:=BP h.2.2.2.1;have b:=BP h.2.2.2.2;unfold po NT;rw[ae,ae,jl,jl];omega
theorem LF{c:Option c6}{n':Nat}{i:c5}(p:lab.length<=10000)(g:a.length<=10000)(o:∀v,w=some v->v.size<=10000)(f:∀v,c=some v->v.size<=10000)(q:n<=256)(j:n'<=256)(h:tA lab w n++r=tA a c n'++i):lab=a/\w=c/\n=n'/\r=i:=by
 unfold tA at h;simp only[au]at h;have z:∀l:c5,(lJ l.toArray).size=l.length:=λl=>by simp[ByteArray.size]
 obtain⟨d,h⟩:=Aq (by rw[z];exact p) (by rw[z];exact g) h;have d:lab=a:=by
  have:=congrArg (λb:c6=>b.data.toList) d
  simpa using this
 cases w with
 |none=>
  cases c with
  |none=>
   simp only[wI,cN,List.nil_append,eB.injEq,true_and]at h;obtain⟨e,h⟩:=xu (k:=2) a4 a4 h;exact⟨d,rfl,e,h⟩
  |some v=>simp[wI]at h
 |some v=>
  cases c with
  |none=>simp[wI]at h
  |some v'=>
   simp only[wI,cN,eB.injEq,true_and]at h;obtain⟨m,h⟩:=Aq (o v rfl) (f v' rfl) h;obtain⟨e,h⟩:=xu (k:=2) a4 a4 h;exact⟨d,by rw[m],e,h⟩
theorem BQ:∀{F F':Fo} {r r':c5},Og F->Og F'->F.toL.length=F'.toL.length->po F++r=po F'++r'->F=F'/\r=r'
 | .nil,.nil,_,_,_,_,_,h=>⟨rfl,h⟩
 | .nil,.cons ..,_,_,_,_,e,_=>by simp[Fo.toL]at e
 | .cons ..,.nil,_,_,_,_,e,_=>by simp[Fo.toL]at e
 | .cons lab w kids rest,.cons lab' w' kids' rest',r,r',h1,h2,e,h=>by
  unfold po at h;simp only[au]at h;obtain⟨f,b,a,h⟩:=LF h1.1 h2.1 h1.2.1 h2.2.1 h1.2.2.1 h2.2.2.1 h;obtain⟨c,h⟩:=BQ h1.2.2.2.1 h2.2.2.2.1 a h;obtain⟨d,h⟩:=BQ h1.2.2.2.2 h2.2.2.2.2 (by rw[Fo.toL_cons,Fo.toL_cons]at e;simpa using e) h;exact⟨by rw[f,b,c,d],h⟩
theorem aaN{so:fD}{out:c5}{vs:c4}(hv:vs=ys.flatMap pJ)(a:n=ys.length)(d:OwnS pJ 1 5 M h so out)(hM:∀b,h.size<=b->M b)(i:out.length+ys.length<=140737488355328)
  (g:∀s' h',OwnS pJ 1 5 M h' s' (out++ys)->Upd M h h'->K s' h'):
  ∃xs,SRow (hnew h vs 5) (some (aR h)) (n*1) xs/\AppP (some [.int .u8 0]) 1 1 5 so.a so.len so.cap n xs (hnew h vs 5) K:=by
 subst hv a;have k:=e9 No h (ys.flatMap pJ) 5;have f:OwnS pJ 1 5 (λ_=>True) (hnew h (ys.flatMap pJ) 5) ⟨some (aR h),ys.length,ys.length⟩ ys:=⟨rfl,uH,aj _,.inr ⟨h.size,[],rfl,trivial,by rw[aX];exact cf ..,a6⟩⟩
 refine⟨_,(f.sl (W:=No) λ_ _ _ h=>h).srow,?_⟩
 refine AppP.own (ys:=ys) (d.upd k λ_ _ h=>h) rfl rfl (CY _) rfl a4 a4 (hM _ (by rw[dS];omega)) λs' h' c e=>?_
 exact g s' h' c ((e9 M h _ _).tr e)
def aen(W:dx)(n:Bn):Prop:=∀{b:Nat} {sl:c6} {h0 h:ad} {M:dx} {s:fD} {xs:c5},RxN W h0 b sl n.2.1 n.2.2->sl.data.toList=n.1->Upd No h0 h->(∀y,M y->h0.size<=y)->OwnS pJ 1 5 M h s xs->(∀y,h.size<=y->M y)->
 xs.length+(iQ n).length<=140737488355328->∀{K:fD->dO},(∀s' h',OwnS pJ 1 5 M h' s' (xs++iQ n)->Upd M h h'->K s' h')->ce 144 [gZ b,.slice s.a s.len s.cap] K h
theorem Xd{c:Fo}(hl:lab.length<=10000)(hw:∀v,w=some v->v.size<=10000)(hk256:c.toL.length<=256)(ih:∀m∈c.toL,aen W m):aen W (lab,w,c):=by
 intro b sl h0 h M s xs r E U G ho hM hx K J;(try simp only at r E)
 have D:(⟨lab.toArray⟩:c6)=sl:=by rw[<-E]
 refine AX (some ⟨b,0,none⟩) s ?_;dsimp only[tK,cM,ga,y7,bR,kG,Zv,cJ,qW,cz,jX,fj,nU,wR];obtain⟨val,A,ow,ks,hb0,hv,hs,hcap,hF⟩:=r;have hL:=lw.1 hF;have st:∀{h'},Upd M h h'->Upd No h0 h':=λk=>U.trans k λy X=>.inr (G y X)
 have blk:∀{h'},Upd M h h'->h'[b]? =some (.cells (EH sl w.isSome val A ow) 264 (0,0)):=λk=>(st k).get0 hb0
 have p:∀{h'},Upd M h h'->∀y,h'.size<=y->M y:=λk y X=>hM y (aO k.size X)
 have S:sl.size=lab.length:=by rw[<-E];simp
 have u:=hs.len;rw[hL.1]at u;unfold iQ at hx J;rw[zn]at hx J;(try simp only at hx J)
 rw[ae]at hx;have H:(tA lab w c.toL.length).length=2+lab.length+((wI w).length+2):=by
  unfold tA;rw[ae,ae,jm,dz,D,S]
 refine⟨_,rfl,sl,eA (i:=0) (blk (eM M h)),?_⟩;refine Hd (W:=No) (ho.sl λ_ _ _ h=>h) ho.cap sl a4 a4 λs2 V x Q=>?_
 have x:=x.more hM;have d:Upd M h V:=Q.wide;refine eF (λt h'=>OwnS pJ 1 5 M h' t (xs++oG sl++(wI w))/\Upd M h h') (λR O=>⟨_,rfl,w.isSome,eA (i:=1) (blk d),?_⟩) ?_
 .cases w with
  |none=>
   refine ag.2 (bL ?_);refine xE (b:=0) rfl x (p d) ?_ λs3 N n f=>O _ _ ⟨n,d.tr f⟩
   rw[ae,jm];simp only[wI,aG]at H;omega
  |some v=>
   have Z:=vw hv v rfl;subst Z;have hvs:=hw val rfl;simp only[wI,av,jm]at H;have k3:Upd M h (hnew V [.int .u8 1] 5):=d.tr (e9 M V _ _);refine ay.2 ⟨_,rfl,val,eA (i:=2) (blk d),bL ⟨eA (i:=2) (blk k3),?_⟩⟩;refine xE (b:=1) rfl x (p d) (by rw[ae,jm];omega) λs3 N n f=>⟨eA (i:=2) (blk (d.tr f)),?_⟩
   refine Hd (W:=No) (n.sl λ_ _ _ h=>h) n.cap val a4 (by rw[ae,ae,jm,aG];omega) λs4 h4 j z=>O _ _ ⟨?_,(d.tr f).tr z.wide⟩
   have j:=j.more (p (d.tr f));simp only[wI,au,List.singleton_append]at j⊢;exact j
 .rintro s3 N ⟨n,f⟩
  have e8:eY (A.len:Int) (2^(min (8:Int).toNat (al .i64)))=((c.toL.length>>>8:Nat):Int):=by
   have:(2^(min (8:Int).toNat (al .i64)):Int)=2^8:=rfl;rw[this,u,m8]
  refine eF (λt h'=>OwnS pJ 1 5 M h' t (xs++tA lab w c.toL.length)/\Upd M h h') (λR O=>⟨_,rfl,A,eA (i:=3) (blk f),_,rfl,A,eA (i:=3) (blk f),a4,?_⟩) ?_
  .simp only[Bd]
   rw[e8];have k4:Upd M h (hnew N [.int .u8 (ac .u8 (A.len:Int)),.int .u8 (ac .u8 ((c.toL.length>>>8:Nat):Int))] 5):=f.tr (e9 M N _ _);refine bL ⟨eA (i:=3) (blk k4),eA (i:=3) (blk k4),?_⟩;refine aaN (ys:=mY c.toL.length 2) ?_ rfl n (p f) ?_ λs5 h5 F o=>⟨eA (i:=3) (blk (f.tr o)),eA (i:=3) (blk (f.tr o)),O _ _ ⟨?_,f.tr o⟩⟩
   .rw[u,ph,ph]
    simp[mY,List.range_succ]
   .rw[ae,ae,jm,dz];omega
   .unfold tA
    rw[D,<-au,<-au];exact F
  .rintro s4 h4 ⟨j,z⟩
   refine⟨_,rfl,A,eA (i:=3) (blk z),?_⟩;have Y:∀{h'},Upd M h h'->Sl qA 1 W h' A ks:=λk=>hs.upd (st k) λ_ h=>h.elim
   refine ez (λ(i:Nat) (t:fD×Int) h'=>t.2=(i:Int)/\i<=c.toL.length/\OwnS pJ 1 5 M h' t.1 (xs++tA lab w c.toL.length++(c.toL.take i).flatMap iQ)/\Upd M h h') (λi=>c.toL.length-i) 0 ⟨rfl,aJ _,by simpa using j,z⟩ ?_
   rintro I i ⟨so,ti⟩ h' ⟨e1,hi,B,q⟩ hI;(try simp only at e1 B)
   subst e1;have C:∀g:i<c.toL.length,((c.toL.take i).flatMap iQ).length+(iQ c.toL[i]).length<=(c.toL.flatMap iQ).length:=λg=>by
    have e:c.toL=c.toL.take i++c.toL[i]::c.toL.drop (i+1):=by rw[lH,aW]
    have:=congrArg (λL=>(List.flatMap iQ L).length) e
    simp only[bI,aL,ae]at this;omega
   refine ar (λg=>?_) λhge=>?_
   .have g:i<c.toL.length:=by have:(i:Int)<(A.len:Int):=g;omega
    obtain⟨kb,ksl,P,hkl,T⟩:=hL.at g;obtain⟨a,ha,_,hvv⟩:=(Y q).at0 P;have hsp:=C g;refine⟨⟨by(try simp only);omega,by(try simp only);omega⟩,a,ha,some ⟨kb,0,none⟩,hvv,?_⟩
    refine ih _ (aF g) T hkl (st q) G B (p q) (by rw[ae,ae];omega) λs5 h5 F o=>?_
    rw[bN g a4];refine hI (i+1) _ _ ⟨rfl,g,?_,q.tr o⟩ a4;rw[ax g,bI,aL,gk,aX,<-au];exact F
   .have hil:i=c.toL.length:=by have:¬(i:Int)<(A.len:Int):=hge;omega
    subst hil;rw[bG]at B;refine J _ _ ?_ q;rw[<-au];exact B
theorem M7{W:dx}:∀{F:Fo},Og F->∀n∈F.toL,aen W n
 | .nil,_,n,a=>by simp[Fo.toL]at a
 | .cons lab w kids rest,h,n,a=>by
  rcases aw.1 a with rfl|a
  .exact Xd h.1 h.2.1 h.2.2.1 (M7 h.2.2.2.1)
  .exact M7 h.2.2.2.2 n a
structure RadAt(W:dx)(h:ad)(b:Nat)(l:bY):Prop where
 ex:∃w F,RxN W h b ⟨#[]⟩ w F/\fq F/\∀k v,(k,v)∈mR w F↔∃p∈l,p.1.data.toList=k/\p.2=v
theorem RadAt.upd0(k:Upd No h h')(r:RadAt W h b l):RadAt W h' b l:=by
 obtain⟨w,F,a,d,c⟩:=r.ex;exact⟨w,F,a.upd0 k,d,c⟩
theorem RadAt.less(hm:∀b,W' b->W b\/h.size<=b)(r:RadAt W h b l):RadAt W' h b l:=by
 obtain⟨w,F,a,d,c⟩:=r.ex;exact⟨w,F,a.less hm,d,c⟩
theorem RadAt.updM(k:Upd M h h')(hm:∀b,M b->W b\/h.size<=b)(r:RadAt W h b l):RadAt W h' b l:=by
 obtain⟨w,F,a,d,c⟩:=r.ex;exact⟨w,F,a.updM k hm,d,c⟩
def Re(l:bY):List (c5×c6):=l.map λp=>(p.1.data.toList,p.2)
theorem abx(c:bS l):Up (Re l):=by
 unfold Re Up;rw[fH];refine List.Pairwise.imp (R:=λp q:Pr=>kl p.1 q.1) (λ{a b} h=>?_) c
 rw[Nv,ByteArray.toList_eq,ByteArray.toList_eq]at h;exact h
theorem TO:∀{l l':bY},Re l=Re l'->l=l'
 | [],[],_=>rfl
 | [],_::_,h=>by simp[Re]at h
 |_::_,[],h=>by simp[Re]at h
 |p::l,q::l',h=>by
  unfold Re at h;simp only[List.map_cons,eB.injEq,pf.injEq]at h;obtain⟨⟨c,d⟩,f⟩:=h;have e:p.1=q.1:=by
   generalize p.1=a at c;generalize q.1=b at c;cases a;cases b;exact congrArg lJ (ju.1 c)
  rw[TO f,qn e d]
theorem Hg(hc:fq F)(c:bS l)(d:∀k v,(k,v)∈mR w F↔∃p∈l,p.1.data.toList=k/\p.2=v):mR w F=Re l:=by
 refine WW (Ua hc) (abx c) λp=>?_
 have:=d p.1 p.2;rw[show(p.1,p.2)=p from rfl]at this
 rw[this];unfold Re;rw[be];constructor
 .rintro⟨q,a,f,b⟩;exact⟨q,a,qn f b⟩
 .rintro⟨q,a,e⟩;rw[<-e];exact⟨q,a,rfl,rfl⟩
theorem Xj{b:Option c6}{F':Fo}(hc:fq F)(a:fq F')(h:mR w F=mR b F'):w=b/\F=F':=by
 have hm:∀k v,sE w F k v↔sE b F' k v:=λk v=>by rw[<-jy,<-jy,h]
 refine⟨Option.ext λv=>?_,S6 hc a λk v=>?_⟩
 .have:=hm [] v
  constructor
  .intro e
   rcases this.1 (.inl ⟨rfl,e⟩)with⟨_,h⟩|h
   .exact h
   .exact absurd rfl (pu a h)
  .intro e
   rcases this.2 (.inl ⟨rfl,e⟩)with⟨_,h⟩|h
   .exact h
   .exact absurd rfl (pu hc h)
 .constructor
  .intro hi
   rcases(hm k v).1 (.inr hi)with⟨e,_⟩|h
   .exact absurd e (pu hc hi)
   .exact h
  .intro hi
   rcases(hm k v).2 (.inr hi)with⟨e,_⟩|h
   .exact absurd e (pu a hi)
   .exact h
end
end Go.Proofs
