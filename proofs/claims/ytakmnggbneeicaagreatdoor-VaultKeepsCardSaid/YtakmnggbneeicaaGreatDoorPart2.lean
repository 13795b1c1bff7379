/- A part of the proof that the named laws of this program answer true, whatever the input. -/
import Derived.Test.YtakmnggbneeicaaGreatDoorPart1
import Derived.Test.YtakmnggbneeicaaGreatDoorPart0
import Derived.Test.YtakmnggbneeicaaGreatDoorLift1
open ByteArray renaming mk->lz,size_extract->ly
open Classical renaming byContradiction->nX
open Go.IntKind renaming wrap->ac,bits->ak
open Go.Op renaming bytesLess->bM
open Iff renaming rfl->tu
open Int renaming toNat_natCast->bi,tmod->gK
open List renaming pairwise_cons->aC,mem_cons->au,mem_map->aR,append_assoc->ao,length_append->ae,length_map->bS,length_singleton->aP,cons->gi,replicate->fW,getElem_mem->aG,take_succ_eq_append_getElem->ax,mem_append->aL,mem_singleton->av,take_length->bZ,flatMap_cons->aN,length_set->iA,length_take->aY,drop_drop->cS,drop_left'->cJ,filter_append->ct,getElem?_eq_getElem->af,mem_cons_of_mem->ay,mem_cons_self->al,pairwise_map->fX,mem_iff_getElem?->ql,getElem?_eq_some_iff->bH,getElem_inj->nU,cons_append->cG,mem_filter->bL,append_nil->aX,nil_append->cX,pairwise_append->cC,pairwise_singleton->cx,length_eq_zero_iff->aJ,getElem?_append_right->bB,length_cons->ar,take_left->hJ,getElem?_append_left->bR,length_nil->bC,take_append_drop->bK,length_drop->bo,getElem_of_mem->bJ,mem_range->fY,map_append->cF,flatMap_append->bU,map_cons->ce,map_nil->fj,mem_append_right->cr,take_of_length_le->aS,mem_append_left->ci,not_mem_nil->dL,filter_nil->iB,filter_cons->aZ,getElem?_cons_zero->cK,length_filter_le->bP
open List.Pairwise renaming nil->cq
open Nat renaming le_refl->aj,zero_add->aU,lt_of_lt_of_le->aA,zero_le->aK,mul_le_mul_right->db,sub_self->iQ,eq_zero_or_pos->dQ,add_sub_cancel_left->eo,le_trans->aQ,lt_or_ge->cp
open Option renaming some->bI
namespace Go.Proofs
section
open Go.Lift
variable {h' a:ad}{r:aT}{l l':bY}{K:aT->eu}{xs:c6}{k:eu}{c:Array Value}{W':eh}{d:Hs}
theorem ri{p q:Pr}:∀{l:bY},bO l->(q∈gw p l↔q=p\/(q∈l/\q.1≠p.1))
 | [],_=>by simp[gw]
 |r::l,b=>by
  have b:=aC.1 b;rw[gc];by_cases c:kl r.1 p.1
  .have d:r.1≠p.1:=λe=>by rw[e]at c;exact bT _ c
   rw[if_pos c,au,au,ri b.2];constructor
   .rintro(rfl|h|⟨h,h'⟩)
    .exact .inr ⟨.inl rfl,d⟩
    .exact .inl h
    .exact .inr ⟨.inr h,h'⟩
   .rintro(h|⟨h|h,h'⟩)
    .exact .inr (.inl h)
    .exact .inl h
    .exact .inr (.inr ⟨h,h'⟩)
  .rw[if_neg c]
   by_cases a:r.1=p.1
   .rw[if_pos a,au,au]
    constructor
    .rintro(h|h)
     .exact .inl h
     .refine .inr ⟨.inr h,λe=>?_⟩
      have:=b.1 q h;rw[e,a]at this;exact bT _ this
    .rintro(h|⟨rfl|h,h'⟩)
     .exact .inl h
     .exact absurd a h'
     .exact .inr h
   .rw[if_neg a,au,au]
    have f:=l8 c a;constructor
    .rintro(h|rfl|h)
     .exact .inl h
     .exact .inr ⟨.inl rfl,a⟩
     .refine .inr ⟨.inr h,λe=>?_⟩
      have:=dI f (b.1 q h);rw[e]at this;exact bT _ this
    .rintro(h|⟨rfl|h,h'⟩)
     .exact .inl h
     .exact .inr (.inl rfl)
     .exact .inr (.inr h)
def RadRoot(W:eh)(h:ad)(r:aT)(l:bY):Prop:=(r=none/\l= [])\/∃b,r=some ⟨b,0,none⟩/\RadAt W h b l
theorem RadRoot.upd0{W:eh}{h:ad}(k:Upd No h h')(t:RadRoot W h r l):RadRoot W h' r l:=t.imp id λ⟨b,e,t⟩=>⟨b,e,t.upd0 k⟩
theorem tY{a b:dO}:a.data.toList=b.data.toList↔a=b:=by
 constructor
 .intro h;cases a;cases b;exact congrArg lz (Array.toList_inj.1 h)
 .rintro rfl;rfl
theorem Hg{W:eh}{h:ad}(a:∀y,W y->y<h.size)(c:∀h' b,RadAt W h' b []->Upd No h h'->K (some ⟨b,0,none⟩) h'):fx 150 [] K h:=by
 refine cZ AM .nil Tryz.func150 Tryz.call150 ?_;unfold AM Nn;refine bF (c _ h.size ⟨none,.nil,⟨⟨#[]⟩,⟨none,0,0⟩,none,[],bV h Y4 175,rfl,Sl.nil pE,⟨aj _,λhx=>Nat.lt_irrefl _ (a _ hx)⟩,rfl⟩,trivial,λk v=>?_⟩ (fD No h _ _))
 simp[wS,Ad]
theorem DR{W:eh}{h:ad}(t:RadRoot W h r l)(c:∀y,W y->y<h.size)(a:∀h' b,RadAt W h' b l->Upd No h h'->(r=some ⟨b,0,none⟩\/r=none)->K (some ⟨b,0,none⟩) h'):fx 96 [.pointer r] K h:=by
 refine cZ (Da r) .nil Tryz.func96 Tryz.call96 ?_;unfold Da;rcases t with⟨rfl,rfl⟩|⟨b,rfl,t⟩
 .exact aw.2 (Hg c λh' b t d=>a h' b t d (.inr rfl))
 .exact ag.2 (a h b t (eQ _ _) (.inl rfl))
theorem N0{W:eh}{h:ad}(t:RadRoot W h r l)(A:∀y,W y->y<h.size)(j:bO l)(p:Pr)(L:p.1.size<=1000000){K:aT×Bool->eu}
  (J:∀h' b' a,Upd No h h'->RadAt W h' b' (gw p l)->(p∈l->r=some ⟨b',0,none⟩\/r=none)->K (some ⟨b',0,none⟩,a) h'):
  rR 50 [.pointer none,.pointer r,.agg #[.string p.1,.string p.2]] K h:=by
 refine cZ (Fl none r p) .nil Tryz.func50 Tryz.call50 ?_;dsimp only[Fl,bq,XH,nW,rx,yI];have k1:=fD No h [.string p.1,.string p.2] 35;have b1:=bV h [.string p.1,.string p.2] 35;refine bF ?_;simp only[cD h];generalize hnew h [.string p.1,.string p.2] 35=h1 at k1 b1;have g:∀{h':ad},Upd No h1 h'->∀i,aI h' (adr ⟨h.size,0,none⟩ i)=(#[.string p.1,.string p.2]:Array Value)[i]?:=λk i=>by rw[co,ba (k.get0 b1),aU]
 have B:=eQ No h1;refine⟨p.1,g B 0,p.2,g B 1,DR (t.upd0 k1) (λy x=>aA (A y x) k1.size) λO b E c hb=>⟨g c 1,g c 0,?_⟩⟩
 obtain⟨w,F,I,H,C⟩:=E.ex;refine Vr (p.1.size+1) p.1 p.2 a4 L I (λy x=>aA (A y x) (k1.tr c).size) H λG b3 D F' a N s m u n o z=>?_
 refine J G b3 a ((k1.tr c).tr s) ⟨D,F',m,u,λk v=>?_⟩ λhm=>?_
 .rw[jQ,n k v,<-jQ,C k v]
  constructor
  .rintro(⟨rfl,rfl⟩|⟨d,q,f,rfl,rfl⟩)
   .exact⟨p,(ri j).2 (.inl rfl),rfl,rfl⟩
   .exact⟨q,(ri j).2 (.inr ⟨f,λe=>d (by rw[e])⟩),rfl,rfl⟩
  .rintro⟨q,f,rfl,rfl⟩
   rcases(ri j).1 f with rfl|⟨f,d⟩
   .exact .inl ⟨rfl,rfl⟩
   .exact .inr ⟨λe=>d (tY.1 e),q,f,rfl,rfl⟩
 .have:=z (jQ.1 ((C _ _).2 ⟨p,hm,rfl,rfl⟩))
  rw[(o this).1];exact hb
def UH(l:bY)(xs:c6):Prop:=∃w F,eK F/\wS w F=Tn l/\xs=oQ ([],w,F)
theorem CA{w:Option dO}{F:Fo}(hc:eK F)(c:wS w F=Tn l)(a:Fit l):Pg F/\∀v,w=some v->v.size<=10000:=by
 have hm:∀k v,rX w F k v->k.length<=10000/\v.size<=10000:=λk v hi=>by
  have:=jQ.2 hi;rw[c]at this;obtain⟨q,b,e⟩:=aR.1 this;cases e;have:=a q b;exact⟨by simpa using this.1,this.2⟩
 exact⟨QU hc λk v hi=>hm k v (.inr hi),λv hv=>(hm [] v (.inl ⟨rfl,hv⟩)).2⟩
theorem XZ{a:c6}(h:UH l xs)(h':UH l' a)(k:Fit l)(d:Fit l'):xs=a↔l=l':=by
 obtain⟨w,F,c,e,rfl⟩:=h;obtain⟨j,F',c',g,rfl⟩:=h';have f1:=CA c e k;have i:=CA c' g d;constructor
 .intro hx
  have hx:oQ ([],w,F)++ []=oQ ([],j,F')++ []:=by rw[hx]
  unfold oQ at hx;simp only[ao]at hx;obtain⟨_,f,m,hx⟩:=KD (aK _) (aK _) f1.2 i.2 (jV c) (jV c') hx;obtain⟨b,_⟩:=Ba f1.1 i.1 m hx;exact RV (by rw[<-e,<-g,f,b])
 .rintro rfl
  obtain⟨f,b⟩:=Vu c c' (e.trans g.symm);rw[f,b]
theorem Hm(h:UH l xs)(b:Fit l):xs.length<=20010+2*l.length*20010:=by
 obtain⟨w,F,c,e,rfl⟩:=h;have f1:=CA c e b;have g:=KC (lab:= []) (n:=F.toL.length) (aK _) f1.2;have i:=A9 f1.1;have f:=MR c;have a:=congrArg List.length e;unfold wS Tn at a;rw[ae,bS]at a;have d:MS F*20010<=2*l.length*20010:=db _ a4;unfold oQ;rw[ae];simp only;omega
theorem N2{W:eh}{h:ad}{b:Nat}(t:RadAt W h b l)(i:bO l)(c:Fit l)(o:l.length<=60000){K:f9->eu}
  (e:∀s' h' xs,UH l xs->OwnS vo 1 5 (λy=>h.size<=y) h' s' xs->Upd No h h'->K s' h'):dS 40 [gV b] K h:=by
 refine JQ _ ?_;unfold AL;refine ag.2 ?_;obtain⟨w,F,j,a,g⟩:=t.ex;have d:=Si a i g;have f1:=CA a d c;have hv:UH l (oQ ([],w,F)):=⟨w,F,a,d,rfl⟩;have n:=Hm hv c;exact Vo (lab:= []) (aK _) f1.2 (jV a) (L8 f1.1) (s:=⟨none,0,0⟩) (xs:= []) (M:=λy=>h.size<=y) j rfl (eQ _ _) (λ_ h=>h) (OwnS.nil Ef) (λ_ h=>h) (by rw[List.length_nil];omega) λs' h' f k=>e s' h' _ hv f (k.mono λy m=>.inr m)
theorem aV{h:ad}{cs:c5}{t:TypeId}(a:∀h',h'[h.size]? =some (.cells cs.toArray t (0,0))->Upd No h h'->k h'):At (hnew h cs t) k:=
 bF (a _ (bV h cs t) (fD No h cs t))
theorem vc{h:ad}{b:Nat}{t:TypeId}(hb:h[b]? =some (.cells c t (0,0))) (i:Nat):aI h (adr ⟨b,0,none⟩ i)=c[i]?:=by rw[co,aU];exact ba hb
theorem gL{h:ad}{b:Nat}{t:TypeId}(hb:h[b]? =some (.cells c t (0,0))) (i j:Nat):aI h (adr (adr ⟨b,0,none⟩ i) j)=c[i+j]?:=by rw[co,co,aU];exact ba hb
theorem tC{h:ad}{b i:Nat}{c':Array Value}{t:TypeId}{v:Value}(hb:h[b]? =some (.cells c t (0,0))) (hi:i<c.size) (e:c.setIfInBounds i v=c') (f:∀h',h'[b]? =some (.cells c' t (0,0))->Upd (· =b) h h'->k h'):Wr h (adr ⟨b,0,none⟩ i)/\At (hset h (adr ⟨b,0,none⟩ i) v) k:=by
 rw[co,aU];exact⟨eH hb hi,xS hb λh' a d=>f h' (e▸a) d⟩
theorem _root_.Go.Lift.Upd.own{h c:ad}{b:Nat}(k:Upd No h a)(d:Upd (· =b) a c)(hb:h.size<=b):Upd No h c:=k.trans d λx hx=>.inr (by have hx:x=b:=hx;omega)
theorem _root_.Go.Lift.Upd.oth{h:ad}{b c:Nat}{o:Obj}(d:Upd (· =b) h h')(hc:h[c]? =some o) (a:c≠b):h'[c]? =some o:=d.get hc a
abbrev Tr:=Int×Int×Int×Int×aT×aT
abbrev jJ(t:Tr):c5:= [.int .i64 t.1,.int .u64 t.2.1,.int .u64 t.2.2.1,.int .u64 t.2.2.2.1,.pointer t.2.2.2.2.1,.pointer t.2.2.2.2.2]
abbrev A4(t:Tr):Value:=.agg #[.int .i64 t.1,.int .u64 t.2.1,.int .u64 t.2.2.1,.int .u64 t.2.2.2.1,.pointer t.2.2.2.2.1,.pointer t.2.2.2.2.2]
def Pro(W:eh)(h a:ad)(y:Nat):Prop:=W y\/(h.size<=y/\y<a.size)
theorem Pro.lt{W:eh}{h:ad}(c:∀y,W y->y<h.size)(k:Upd No h a):∀y,Pro W h a y->y<a.size:=λy b=>b.elim (λh=>aA (c y h) k.size) λh=>h.2
theorem Pro.hm{W:eh}{h b:ad}:∀y,Pro W h b y->W y\/h.size<=y:=λ_ a=>a.imp id λh=>h.1
theorem Pro.sub{W:eh}{h b c:ad}:∀y,W y->Pro W h b y\/c.size<=y:=λ_ a=>.inl (.inl a)
theorem RootAt.less{W:eh}{x:Hs}{h:ad}(hm:∀b,W' b->W b\/h.size<=b)(t:RootAt W x h r l):RootAt W' x h r l:=t.imp id λ⟨b,e,t⟩=>⟨b,e,TrieAt.less hm t⟩
theorem RadRoot.less{W:eh}{h:ad}(hm:∀b,W' b->W b\/h.size<=b)(t:RadRoot W h r l):RadRoot W' h r l:=t.imp id λ⟨b,e,t⟩=>⟨b,e,t.less hm⟩
def TreeIs(W:eh)(h:ad)(kind:Int)(x:Hs)(t:Tr)(l:bY):Prop:=(kind=0/\∃b,t=(0,x.k0,x.k1,x.mask,some ⟨b,0,none⟩,none)/\TrieAt W x h 13 b l)\/(kind=1/\∃b,t=(1,0,0,0,none,some ⟨b,0,none⟩)/\RadAt W h b l)
theorem TreeIs.upd0{W:eh}{h:ad}{kind:Int}{x:Hs}{t:Tr}(k:Upd No h h')(i:TreeIs W h kind x t l):TreeIs W h' kind x t l:=
 i.imp (λ⟨e,b,a,t⟩=>⟨e,b,a,TrieAt.upd0 k t⟩) λ⟨e,b,a,t⟩=>⟨e,b,a,t.upd0 k⟩
theorem TreeIs.less{W:eh}{h:ad}(hm:∀b,W' b->W b\/h.size<=b){kind:Int}{x:Hs}{t:Tr}(i:TreeIs W h kind x t l):TreeIs W' h kind x t l:=
 i.imp (λ⟨e,b,a,t⟩=>⟨e,b,a,TrieAt.less hm t⟩) λ⟨e,b,a,t⟩=>⟨e,b,a,t.less hm⟩
theorem TreeIs.updM{W M:eh}{h:ad}(k:Upd M h h')(hm:∀b,M b->W b\/h.size<=b){kind:Int}{x:Hs}{t:Tr}(i:TreeIs W h kind x t l):TreeIs W h' kind x t l:=
 i.imp (λ⟨e,b,a,t⟩=>⟨e,b,a,TrieAt.updM k hm t⟩) λ⟨e,b,a,t⟩=>⟨e,b,a,t.updM k hm⟩
theorem TreeIs.pro{W:eh}{h:ad}(k:Upd No h a){kind:Int}{x:Hs}{t:Tr}(i:TreeIs W h kind x t l):TreeIs (Pro W h a) a kind x t l:=(i.less Pro.hm).upd0 k
theorem JE{W:eh}{x:Hs}{h:ad}(c:∀y,W y->y<h.size)(a:∀h' b,TrieAt W x h' 13 b []->Upd No h h'->K (some ⟨b,0,none⟩) h'):fx 87 [] K h:=by
 refine AC ?_;unfold wB;exact sR c λh' b nd d=>a h' b (NG nd) d
abbrev wI:Tr:=(0,0,0,0,none,none)
theorem NJ{W:eh}{x:Hs}{h:ad}(t:RootAt W x h r l)(u:∀y,W y->y<h.size){K:Tr->eu}(q:∀h' t,TreeIs W h' 0 x t l->Upd No h h'->K t h'):Ym 93 [.agg #[.int .u64 x.k0,.int .u64 x.k1,.int .u64 x.mask],.pointer r] K h:=by
 refine cZ (zA (x.k0,x.k1,x.mask) r) Jg Tryz.func93 Tryz.call93 ?_;dsimp only[zA,dH,Cj,wJ,PK,mE,bh,ai,aF,li];refine aV λj b1 k1=>aV λn b2 k=>?_
 have w:=bw b1;have v:=bw b2;have d:=k1.tr k;refine eM (λt h'=>Upd No n h'/\∃b,t=some ⟨b,0,none⟩/\TrieAt (Pro W h n) x h' 13 b l) (λR m=>?_) ?_
 .rcases t with⟨rfl,rfl⟩|⟨b,rfl,t⟩
  .exact aw.2 (JE (Pro.lt u d) λs b t a=>m _ _ ⟨a,b,rfl,t⟩)
  .exact ag.2 (m _ _ ⟨eQ _ _,b,rfl,TrieAt.upd0 d (TrieAt.less Pro.hm t)⟩)
 .rintro o s ⟨a,b,rfl,o⟩
  have c1:=a.get0 (k.get0 b1);refine⟨_,vc c1 0,_,vc c1 1,_,vc c1 2,?_⟩;refine cy (c:=jJ wI) (vs:=jJ (0,x.k0,x.k1,x.mask,some ⟨b,0,none⟩,none)) (a.get0 b2) rfl λp e f=>?_
  refine⟨_,vc e 0,_,vc e 1,_,vc e 2,_,vc e 3,_,vc e 4,_,vc e 5,?_⟩;have g:h.size<=j.size:=k1.size;exact q p _ (.inl ⟨rfl,b,rfl,TrieAt.less Pro.sub (TrieAt.updM f (λy i=>.inl (.inr (by have i:y=j.size:=i;omega))) o)⟩) ((d.tr a).own f g)
theorem NI{W:eh}{x:Hs}{h:ad}(t:RadRoot W h r l)(p:∀y,W y->y<h.size){K:Tr->eu}(n:∀h' t,TreeIs W h' 1 x t l->Upd No h h'->K t h'):Ym 94 [.pointer r] K h:=by
 refine cZ (zy r) Jf Tryz.func94 Tryz.call94 ?_;dsimp only[zy,dH,wJ,PK,mE,bh,ai,aF];refine aV λj b2 d=>?_
 have q:=bw b2;refine eM (λt h'=>Upd No j h'/\∃b,t=some ⟨b,0,none⟩/\RadAt (Pro W h j) h' b l) (λR g=>?_) ?_
 .rcases t with⟨rfl,rfl⟩|⟨b,rfl,t⟩
  .exact aw.2 (Hg (Pro.lt p d) λo b t a=>g _ _ ⟨a,b,rfl,t⟩)
  .exact ag.2 (g _ _ ⟨eQ _ _,b,rfl,(t.less Pro.hm).upd0 d⟩)
 .rintro k o ⟨a,b,rfl,k⟩
  refine cy (c:=jJ wI) (vs:=jJ (1,0,0,0,none,some ⟨b,0,none⟩)) (a.get0 b2) rfl λm e f=>?_
  refine⟨_,vc e 0,_,vc e 1,_,vc e 2,_,vc e 3,_,vc e 4,_,vc e 5,?_⟩;exact n m _ (.inr ⟨rfl,b,rfl,(k.updM f (λy i=>.inl (.inr (by have i:y=h.size:=i;omega)))).less Pro.sub⟩) ((d.tr a).own f (aj _))
theorem R0{W:eh}{x:Hs}{h:ad}(o:∀y,W y->y<h.size){kind:Int}(k:kind=0\/kind=1){K:Tr×Int->eu}(n:∀h' t,TreeIs W h' kind x t []->Upd No h h'->K (t,0) h'):Py 46 [.int .i64 kind,.agg #[.int .u64 x.k0,.int .u64 x.k1,.int .u64 x.mask]] K h:=by
 refine cZ (IJ kind (x.k0,x.k1,x.mask)) .nil Tryz.func46 Tryz.call46 ?_;dsimp only[IJ,dH,Cj,yi,wJ,uJ,mE,bh,ai,aF,li];refine aV λm b1 k1=>aV λq b2 p=>?_
 have v:=bw b1;have u:=bw b2;have e:=k1.tr p;have g:h.size<=m.size:=k1.size;have c1:=p.get0 b1;rcases k with rfl|rfl
 .refine aw.2 ⟨_,vc c1 0,_,vc c1 1,_,vc c1 2,?_⟩
  refine NJ (W:=Pro W h q) (x:=x) (l:= []) (.inl ⟨rfl,rfl⟩) (Pro.lt o e) λs t j b=>?_
  refine cy (c:=jJ wI) (vs:=jJ t) (b.get0 b2) rfl λi a d=>?_
  refine⟨_,vc a 0,_,vc a 1,_,vc a 2,_,vc a 3,_,vc a 4,_,vc a 5,?_⟩;exact n i t ((j.updM d (λy f=>.inl (.inr (by have f:y=m.size:=f;omega)))).less Pro.sub) ((e.tr b).own d g)
 .refine ag.2 (aw.2 ?_)
  refine NI (W:=Pro W h q) (x:=x) (l:= []) (.inl ⟨rfl,rfl⟩) (Pro.lt o e) λs t j b=>?_
  refine cy (c:=jJ wI) (vs:=jJ t) (b.get0 b2) rfl λi a d=>?_
  refine⟨_,vc a 0,_,vc a 1,_,vc a 2,_,vc a 3,_,vc a 4,_,vc a 5,?_⟩;exact n i t ((j.updM d (λy f=>.inl (.inr (by have f:y=m.size:=f;omega)))).less Pro.sub) ((e.tr b).own d g)
theorem Ky{k v:dO}(b:k.size<=256)(c:v.size<=4096){h:ad}{K:Int->eu}(a:K 0 h):fK 49 [.string k,.string v] K h:=by
 refine cZ (Di k v) .nil Tryz.func49 Tryz.call49 ?_;unfold Di;refine aq (λh=>absurd h a4) λ_=>aq (λh=>absurd h a4) λ_=>a
theorem B9{W:eh}{x:Hs}{h:ad}{kind:Int}{t:Tr}(i:TreeIs W h kind x t l)(L:∀y,W y->y<h.size)(G:bO l)(O:l.length<=1000000)(p:Pr)(F:p.1.size<=256)(E:p.2.size<=4096){K:Tr×Int->eu}
  (H:∀h' t',TreeIs W h' kind x t' (gw p l)->(p∈l->t'=t)->Upd No h h'->K (t',0) h'):Py 18 [A4 t,.pointer none,.agg #[.string p.1,.string p.2]] K h:=by
 refine cZ (xm t none p) .nil Tryz.func18 Tryz.call18 ?_;dsimp only[xm,bh,aF,yi,wJ,qf,dh,lG,nW,bq,zr,dH,PK,mE,ai,Ah,fH,lP,uJ,rx,yI];refine aV λI b1 k1=>aV λB b2 z=>aV λV b3 v=>?_
 have U:=bw b1;have R:=bw b2;have T:=bw b3;have S:h.size<=I.size:=k1.size;have X:I.size<=B.size:=z.size;have Q:=v.size;have o:=(k1.tr z).tr v;have n:=v.get0 (z.get0 b1);have s:=v.get0 b2;have N:=i.pro o;have u:=Pro.lt L o;refine⟨_,vc s 0,_,vc s 1,Ky F E (ag.2 ?_)⟩;rcases N with⟨rfl,b,rfl,w⟩|⟨rfl,b,rfl,w⟩
 .refine⟨_,vc n 0,ag.2 ⟨_,gL n 1 0,_,gL n 1 1,_,gL n 1 2,_,vc n 4,p.1,vc s 0,p.2,vc s 1,?_⟩⟩
  refine O3 (.inr ⟨b,rfl,w⟩) u G O p λP q a A f=>?_
  refine tC (i:=4) (c':=(jJ (0,x.k0,x.k1,x.mask,some ⟨q,0,none⟩,none)).toArray) (a.get0 n) (show 4<6 by decide) rfl λJ g d=>?_
  refine⟨_,vc g 0,_,vc g 1,_,vc g 2,_,vc g 3,_,vc g 4,_,vc g 5,?_⟩;refine cy (c:=jJ wI) (vs:=jJ (0,x.k0,x.k1,x.mask,some ⟨q,0,none⟩,none)) (d.oth (a.get0 b3) a4) rfl λD j k=>?_
  refine⟨_,vc j 0,_,vc j 1,_,vc j 2,_,vc j 3,_,vc j 4,_,vc j 5,?_⟩;refine H D _ (.inl ⟨rfl,q,rfl,TrieAt.less Pro.sub (TrieAt.updM k (λy m=>.inl (.inr (by have m:y=B.size:=m;omega))) (TrieAt.updM d (λy m=>.inl (.inr (by have m:y=h.size:=m;omega))) A))⟩) (λhm=>?_) (((o.tr a).own d (aj _)).own k a4)
  rcases f hm with e|e
  .rw[e]
  .cases e
 .refine⟨_,vc n 0,aw.2 ⟨_,vc n 5,p.1,vc s 0,p.2,vc s 1,?_⟩⟩
  refine N0 (.inr ⟨b,rfl,w⟩) u G p a4 λP q C a A f=>?_
  refine tC (i:=5) (c':=(jJ (1,0,0,0,none,some ⟨q,0,none⟩)).toArray) (a.get0 n) (show 5<6 by decide) rfl λJ g d=>?_
  refine⟨_,vc g 0,_,vc g 1,_,vc g 2,_,vc g 3,_,vc g 4,_,vc g 5,?_⟩;refine cy (c:=jJ wI) (vs:=jJ (1,0,0,0,none,some ⟨q,0,none⟩)) (d.oth (a.get0 b3) a4) rfl λD j k=>?_
  refine⟨_,vc j 0,_,vc j 1,_,vc j 2,_,vc j 3,_,vc j 4,_,vc j 5,?_⟩;refine H D _ (.inr ⟨rfl,q,rfl,((A.updM d (λy m=>.inl (.inr (by have m:y=h.size:=m;omega)))).updM k (λy m=>.inl (.inr (by have m:y=B.size:=m;omega)))).less Pro.sub⟩) (λhm=>?_) (((o.tr a).own d (aj _)).own k a4)
  rcases f hm with e|e
  .rw[e]
  .cases e
def mS(t u:Tr):Bool:=(t.1==u.1)&&((((t.2.1==u.2.1)&&((t.2.2.1==u.2.2.1)&&true)))&&((t.2.2.2.1==u.2.2.2.1)&&true))
theorem yP{t u:Tr}{h:ad}{K:Bool->eu}(c:∀h',Upd No h h'->K (mS t u) h'):eI 53 [A4 t,A4 u] K h:=by
 refine cZ (Fj t u) .nil Tryz.func53 Tryz.call53 ?_;dsimp only[Fj,bh,Ah,fH,lP,uJ];refine aV λd b1 k1=>aV λb b2 a=>?_
 have c1:=a.get0 b1;refine⟨_,vc c1 0,_,vc b2 0,?_⟩;have:=c b (k1.tr a);unfold mS at this;rcases hb:(t.1==u.1)with _|_
 .rw[hb]at this
  exact ag.2 this
 .rw[hb]at this
  exact aw.2 ⟨_,gL c1 1 0,_,gL c1 1 1,_,gL c1 1 2,_,gL b2 1 0,_,gL b2 1 1,_,gL b2 1 2,this⟩
theorem zJ{W:eh}{x:Hs}{h:ad}{b:Nat}(_:TrieAt W x h 13 b l)(d:∀h',Upd No h h'->K (some ⟨b,0,none⟩) h'):fx 42 [A4 (0,x.k0,x.k1,x.mask,some ⟨b,0,none⟩,none)] K h:=by
 refine cZ (vC (0,x.k0,x.k1,x.mask,some ⟨b,0,none⟩,none)) Dt Tryz.func42 Tryz.call42 ?_;dsimp only[vC,bh,aF,lP,uJ];refine aV λa b1 k1=>?_
 refine eM (λt h'=>t=false/\h'=a) (λR c=>⟨_,vc b1 0,aw.2 ⟨_,vc b1 4,c _ _ ⟨rfl,rfl⟩⟩⟩) ?_
 rintro t h' ⟨rfl,rfl⟩;exact ag.2 ⟨_,vc b1 4,d h' k1⟩
def IC(kind:Int)(x:Hs)(l:bY)(xs:c6):Prop:=(kind=0/\xs=0::kW x 13 l)\/(kind=1/\∃ys,UH l ys/\xs=1::ys)
theorem YH{h:ad}{b:UInt8}(hb:a[h.size]? =some (.cells #[.int .u8 (b.toNat:Int)] 5 (0,0))):OwnS vo 1 5 (λy=>h.size<=y) a ⟨some ⟨h.size,0,none⟩,1,1⟩ [b]:=⟨rfl,Ef,aj _,.inr ⟨h.size,[],rfl,aj _,hb,rfl⟩⟩
theorem Ki{W:eh}{x:Hs}{h:ad}{kind:Int}{t:Tr}(i:TreeIs W h kind x t l)(w:bO l)(k:Fit l)(o:l.length<=60000){K:f9->eu}
  (E:∀s' h' xs,IC kind x l xs->OwnS vo 1 5 (λy=>h.size<=y) h' s' xs->Upd No h h'->K s' h'):dS 10 [A4 t] K h:=by
 refine cZ (vA t) .nil Tryz.func10 Tryz.call10 ?_;dsimp only[vA,bh,aF,qY,mE,ai,lP,uJ];refine aV λm b1 k1=>?_
 have I:=k1.size;have app:∀{b:UInt8} {d e:ad} {s:f9} {xs:c6},d[m.size]? =some (.cells #[.int .u8 (b.toNat:Int)] 5 (0,0))->Upd No m d->OwnS vo 1 5 (λy=>d.size<=y) e s xs->Upd No d e->xs.length<=70000000000000->IC kind x l (b::xs)->
   ∃xs7,SRow e s.a (s.len*1) xs7/\AppP (some [.int .u8 0]) 1 1 5 (some (aH m)) 1 1 s.len xs7 e (λB A=>K B A):=λ{b d e s xs} hb a v f F hv=>by
  refine⟨_,(v.sl (W:=No) λ_ _ _ h=>h).srow,?_⟩
  have g:=a.tr f;have G:=bw hb;have D:OwnS vo 1 5 (λy=>h.size<=y) e ⟨some ⟨m.size,0,none⟩,1,1⟩ [b]:=((YH hb).upd f λ_ _ h=>h).more λy u=>a4
  refine AppP.own (ys:=xs) D v.len rfl (Gr _) rfl a4 (by simp only[aP];omega) (by have:=g.size;omega) λs' h' q p=>?_
  exact E s' h' _ hv q ((k1.tr g).trans p λy u=>.inr u)
 rcases i with⟨rfl,b,rfl,t⟩|⟨rfl,b,rfl,t⟩
 .refine⟨_,vc b1 0,ag.2 (aV λd b2 a=>?_)⟩
  have c1:=a.get0 b1;refine⟨_,vc c1 0,_,vc c1 1,_,vc c1 2,_,vc c1 3,_,vc c1 4,_,vc c1 5,?_⟩;refine zJ (TrieAt.upd0 (k1.tr a) t) λe f=>?_
  refine XV (TrieAt.upd0 ((k1.tr a).tr f) t) k o λz C c n=>?_
  have H:=f.size;have j:=tG (x:=x) 13 k;have hb:l.length*(20004+9*(13+1))<=60000*(20004+9*(13+1)):=db _ o;exact app (b:=0) b2 a (c.more λy u=>a4) (f.tr n) a4 (.inl ⟨rfl,rfl⟩)
 .refine⟨_,vc b1 0,aw.2 (aV λd b2 a=>?_)⟩
  have c1:=a.get0 b1;refine⟨_,vc c1 5,?_⟩;refine N2 (t.upd0 (k1.tr a)) w k o λz C xs hv c n=>?_
  have j:=Hm hv k;have hb:2*l.length*20010<=2*60000*20010:=db _ a4;exact app (b:=1) b2 a c n a4 (.inr ⟨rfl,xs,hv,rfl⟩)
theorem TZ{W:eh}{h:ad}{kind a:Int}{x:Hs}{t u:Tr}(i:TreeIs W h kind x t l)(e:TreeIs W' h' a d u l')(c:mS t u=true):kind=a/\(kind=0->x=d):=by
 rcases i with⟨rfl,b,rfl,_⟩|⟨rfl,b,rfl,_⟩<;>rcases e with⟨rfl,b',rfl,_⟩|⟨rfl,b',rfl,_⟩
 .refine⟨rfl,λ_=>?_⟩
  unfold mS at c;simp only[Bool.and_eq_true,beq_iff_eq,Bool.and_true,true_and]at c;cases x;cases d;simp only at c;simp only[Hs.mk.injEq];exact⟨c.1.1,c.1.2,c.2⟩
 .simp[mS]at c
 .simp[mS]at c
 .exact⟨rfl,λh=>by cases h⟩
theorem Vh{kind:Int}{x:Hs}(hx:kind=0->x=d){c:c6}(hv:IC kind x l xs)(a:IC kind d l' c)(i:Fit l)(b:Fit l')(m:l.length<=60000)(g:l'.length<=60000)(k:bO l)(f:bO l'):xs=c↔l=l':=by
 rcases hv with⟨rfl,rfl⟩|⟨rfl,ys,hv,rfl⟩<;>rcases a with⟨e,rfl⟩|⟨e,j,a,rfl⟩
 .rw[hx rfl]
  constructor
  .intro h
   have h:kW d 13 l++ []=kW d 13 l'++ []:=by rw[(gi.inj h).2]
   exact(G9 13 i b m g k f h).1
  .rintro rfl;rfl
 .cases e
 .cases e
 .rw[gi.injEq,<-XZ hv a i b]
  exact⟨λh=>h.2,λh=>⟨rfl,h⟩⟩
theorem TreeIs.plain{W:eh}{h:ad}{kind:Int}{x:Hs}{t:Tr}(i:TreeIs W h kind x t l):(∀a,t.2.2.2.2.1=some a->fc h a)/\(∀a,t.2.2.2.2.2=some a->fc h a):=by
 rcases i with⟨rfl,b,rfl,t⟩|⟨rfl,b,rfl,t⟩
 .obtain⟨s,nd,_⟩:=t
  obtain⟨d,n,sp,sk,ow,hb,_⟩:=nd.ex;refine⟨λa c=>?_,λa c=>(by cases c)⟩
  cases c;exact⟨_,_,hb,show 0<6 by decide⟩
 .obtain⟨w,F,⟨val,s,ow,ks,hb,_⟩,_⟩:=t.ex
  refine⟨λa c=>(by cases c),λa c=>?_⟩
  cases c;exact⟨_,_,hb,show 0<5 by decide⟩
abbrev kStr:KeyE dO:=⟨λs=>.string s,.str,λx=>⟨x,rfl⟩,λx y=>⟨λe=>yn e,λe=>by subst e;exact zm x⟩⟩
abbrev TD:=Tr×bY
abbrev aaw(d:TD):Value:=A4 d.1
abbrev OH(n:Int):Value:=.int .u32 n
structure VS where
 gp:Nat
 gm:Nat
 tm:Nat
 bm:Nat
 nm:Nat
 kind:Int
 x:Hs
 e:Tr
 L:de
 nx:Int
 D:List (Int×TD)
 B:List (dO×Int)
 G:List (dO×Int)
def VS.M(s:VS):Nat->Prop:=λy=>y=s.gp\/y=s.gm\/y=s.tm\/y=s.bm\/y=s.nm
structure VaultAt(W:eh)(h:ad)(vp:Nat)(s:VS):Prop where
 blk:h[vp]? =some (.cells (jJ s.e++ [Value.pointer (some ⟨s.gp,0,none⟩),Value.map (some s.tm),Value.map (some s.bm),Value.map (some s.nm)]).toArray 96 (0,0))
 g:GraphAt W h s.gp s.gm s.L s.nx
 t:MapAt KE aaw h s.tm s.D
 b:MapAt kStr OH h s.bm s.B
 n:MapAt kStr OH h s.nm s.G
 w:∀y,s.M y->W y
 wv:¬W vp
 ne: [s.gp,s.gm,s.tm,s.bm,s.nm].Nodup
 em:TreeIs W h s.kind s.x s.e []
 ts:∀d∈s.D,TreeIs W h s.kind s.x d.2.1 d.2.2/\bO d.2.2/\Fit d.2.2
 sub:∀id,id∈s.D.map (·.1)↔id∈dM s.L
 inv:Inv s.L s.nx
 kd:s.kind=0\/s.kind=1
theorem VaultAt.upd{W M:eh}{h:ad}{a:Nat}{s:VS}(v:VaultAt W h a s)(k:Upd M h h')(hm:∀b,M b->(W b/\¬s.M b)\/h.size<=b):VaultAt W h' a s:=by
 have f:∀y,s.M y->¬M y:=λy g hb=>(hm y hb).elim (λe=>e.2 g) λe=>absurd (v.g.lt y (v.w y g)) a4
 have i:∀b,M b->W b\/h.size<=b:=λb hb=>(hm b hb).imp (·.1) id
 have hv:¬M a:=λhb=>(hm a hb).elim (λe=>v.wv e.1) λe=>absurd (bw v.blk) a4
 exact⟨k.get v.blk hv,v.g.upd k λb hb=>(hm b hb).imp (λe=>⟨e.1,λc=>e.2 (.inl c),λc=>e.2 (.inr (.inl c))⟩) id,v.t.upd k (f _ (.inr (.inr (.inl rfl)))),v.b.upd k (f _ (.inr (.inr (.inr (.inl rfl))))),v.n.upd k (f _ (.inr (.inr (.inr (.inr rfl))))),v.w,v.wv,v.ne,v.em.updM k i,λd hd=>⟨(v.ts d hd).1.updM k i,(v.ts d hd).2⟩,v.sub,v.inv,v.kd⟩
theorem VaultAt.upd0{W:eh}{h:ad}{a:Nat}{s:VS}(v:VaultAt W h a s)(k:Upd No h h'):VaultAt W h' a s:=v.upd k λ_ h=>h.elim
theorem Mw{h:ad}{r:Nat}{es:Array MapEntry}{a:Nat}(t:TypeId)(d:h[r]? =some (.map es a)) {K:Value->eu} (c:K (.iface t (.map (some h.size))) (h.push (.map es a))):
  JC 129 [.iface t (.map (some r))] K h:=by
 refine⟨λw f=>.inr ?_⟩
 subst f;have b:(getObj r).run PG w=.ok (.map es a) w:=by simp[getObj,Sem.run,d]
 refine⟨.iface t (.map (some w.heap.size)),w.alloc (.map es a),?_,⟨rfl,rfl,rfl⟩,_,rfl,c⟩;rw[M8];have e:Extern.MapsClone.clone #[.iface t (.map (some r))]=(getObj r>>=λo=>match o with
   | .map entries a=>(newObj (.map entries a)>>=λn=>pure (.iface t (.map (some n))))
   |_=>stuck "maps.clone: a map expected"):=rfl
 rw[show([Value.iface t (.map (some r))]:c5).toArray= #[.iface t (.map (some r))]from rfl,e]
 simp only[Sem.run_bind,b,Result.andThen_ok];rfl
theorem Wi{W:eh}{h:ad}{gp gm:Nat}{L:de}{nx:Int}(g:GraphAt W h gp gm L nx)
  (o:∀h',Upd No h h'->GraphAt (λb=>W b\/b=h.size+1\/b=h.size) h' gp gm L nx->GraphAt (λb=>W b\/b=h.size+1\/b=h.size) h' (h.size+1) h.size L nx->K (some ⟨h.size+1,0,none⟩) h'):
  fx 37 [gV gp] K h:=by
 refine cZ (uB (some ⟨gp,0,none⟩)) .nil Tryz.func37 Tryz.call37 ?_;dsimp only[uB,cB,dT,cL,BC];refine ez (λe=>by cases e) λ_=>⟨_,rfl,_,g.c0,_,rfl,_,g.c1,?_⟩
 refine cZ (js (some gm)) .nil Tryz.func81 Tryz.call81 ?_;unfold js;refine ez (λe=>by cases e) λ_=>?_
 obtain⟨m,⟨ms,a,hm,v⟩,p⟩:=g.map;refine Mw _ hm.here ⟨_,rfl,?_⟩;have k1:=Upd.push No h (.map (ms.map (Ae KE sv)).toArray a);have c:MapAt KE sv (h.push (.map (ms.map (Ae KE sv)).toArray a)) h.size m:=⟨ms,a,⟨mO h _,hm.keys,hm.nums,hm.old⟩,v⟩;refine⟨(g.upd0 k1).c1,?_⟩;have d:(h.push (.map (ms.map (Ae KE sv)).toArray a)).size=h.size+1:=a7
 generalize (h.push (.map (ms.map (Ae KE sv)).toArray a))=h1 at k1 c d;have f:=fD No h1 [.map (some h.size),.int .u32 nx] 102;have b2:=bV h1 [.map (some h.size),.int .u32 nx] 102;have t:=dA h1 [.map (some h.size),.int .u32 nx] 102;simp only[At,cD];rw[d]at b2⊢;generalize hnew h1 [.map (some h.size),.int .u32 nx] 102=h2 at f b2 t;have k:=k1.tr f;have n:∀b,(b=h.size+1\/b=h.size)->h.size<=b/\b<h2.size:=λb hb=>a4
 have i:=g.more (Q:=λb=>b=h.size+1\/b=h.size) k n
 refine⟨((g.upd0 k1).upd0 f).c1,o h2 k i ⟨b2,⟨m,c.upd f id,?_⟩,.inr (.inl rfl),.inr (.inr rfl),i.lt,g.nd⟩⟩;intro j;rcases p j with⟨s,ps,w,x,u⟩|q
 .exact .inl ⟨s,ps,w,x,(u.less λb hb=>hb.imp id λhb=>(n b hb).1).upd k λ_ h=>h.elim⟩
 .exact .inr q
section
variable {W:eh} {h:ad} {vp:Nat} {s:VS}
abbrev pV(a:Nat):Value:=.pointer (some ⟨a,0,none⟩)
theorem Gj(v:VaultAt W h vp s)(id:Int){K:Bool->eu}(a:K (decide (id=0\/id∈dM s.L)) h):eI 63 [pV vp,.int .u32 id] K h:=by
 refine cZ (vy (some ⟨vp,0,none⟩) id) .nil Tryz.func63 Tryz.call63 ?_;dsimp only[vy,dC,tD,cL];refine ez (λe=>?_) λe=>⟨_,rfl,_,vc v.blk 6,MH v.g id ?_⟩
 .rw[decide_eq_true (.inl (by simpa using e))]at a;exact a
 .have e:id≠0:=by simpa using e
  rw[show decide (id=0\/id∈dM s.L)=decide (id∈dM s.L)from by simp[e]]at a;exact a
theorem tx(v:VaultAt W h vp s)(id fr:Int){K:Bool->eu}(a:∀b h',(b=true↔id=0\/UpG s.L fr id)->Upd No h h'->K b h'):eI 56 [pV vp,.int .u32 id,.int .u32 fr] K h:=by
 refine cZ (ss (some ⟨vp,0,none⟩) id fr) .nil Tryz.func56 Tryz.call56 ?_;dsimp only[ss,dC,uL,cL];refine ez (λe=>a _ _ ⟨λ_=>.inl (by simpa using e),λ_=>rfl⟩ (eQ _ _)) λe=>⟨_,rfl,_,vc v.blk 6,Ub v.g v.inv.good.toSmall fr id λb h' hb c=>a b h' ?_ c⟩
 have e:id≠0:=by simpa using e
 simp[hb,e]
theorem iG(v:VaultAt W h vp s)(n:dO){K:Int×Bool->eu}(a:K ((bE s.B n).getD 0,(bE s.B n).isSome) h):JB 52 [pV vp,.string n] K h:=by
 refine cZ (ui (some ⟨vp,0,none⟩) n) .nil Tryz.func52 Tryz.call52 ?_;dsimp only[ui,cB,cL];exact ez (λe=>by cases e) λ_=>⟨_,rfl,_,vc v.blk 8,_,_,v.b.get n 0,a⟩
theorem Tk(v:VaultAt W h vp s){K:Tr->eu}(d:∀h',Upd No h h'->K s.e h'):Ym 17 [pV vp] K h:=by
 refine cZ (sD (some ⟨vp,0,none⟩)) .nil Tryz.func17 Tryz.call17 ?_;dsimp only[sD,dC,dH,wJ,PK,mE,bh,ai,aF,cL,zq,uY,fH];refine aV λf b1 k1=>ez (λe=>by cases e) λ_=>⟨_,rfl,?_⟩
 have c:=k1.get0 v.blk;refine⟨_,gL c 0 0,_,gL c 0 1,_,gL c 0 2,_,gL c 0 3,_,gL c 0 4,_,gL c 0 5,?_⟩;refine cy (c:=jJ wI) (vs:=jJ s.e) b1 rfl λb b2 a=>?_
 exact⟨_,vc b2 0,_,vc b2 1,_,vc b2 2,_,vc b2 3,_,vc b2 4,_,vc b2 5,d b (k1.own a (aj _))⟩
theorem NB(v:VaultAt W h vp s)(id:Int){K:Tr×Int->eu}(n:id=0->∀h',Upd No h h'->K (s.e,0) h')(j:∀d,bE s.D id=some d->id≠0->∀h',Upd No h h'->K (d.1,0) h')(m:bE s.D id=none->id≠0->∀h',Upd No h h'->K (wI,4) h'):
  Py 9 [pV vp,.int .u32 id] K h:=by
 refine cZ (uh (some ⟨vp,0,none⟩) id) .nil Tryz.func9 Tryz.call9 ?_;dsimp only[uh,cB,dC,dH,nv,wJ,uJ,Ob,PK,Xn,mE,bh,ai,aF,cL,zr,zq,uY,fH];refine aV λu b1 k1=>ez (λe=>by cases e) λ_=>?_
 have c:=k1.get0 v.blk;refine ez (λe=>⟨_,rfl,?_⟩) λe=>⟨_,rfl,_,vc c 7,((bE s.D id).getD (wI,[])).1,_,(v.t.upd k1 λh=>h).get id (wI,[]),aV λq b2 p=>?_⟩
 .refine⟨_,gL c 0 0,_,gL c 0 1,_,gL c 0 2,_,gL c 0 3,_,gL c 0 4,_,gL c 0 5,?_⟩
  refine cy (c:=jJ wI) (vs:=jJ s.e) b1 rfl λq b2 i=>?_
  exact⟨_,vc b2 0,_,vc b2 1,_,vc b2 2,_,vc b2 3,_,vc b2 4,_,vc b2 5,n (by simpa using e) q (k1.own i (aj _))⟩
 .have e:id≠0:=by simpa using e
  have w:=bw b1;have x:=k1.size;refine cy (c:=jJ wI) (vs:=jJ ((bE s.D id).getD (wI,[])).1) b2 rfl λt b3 g=>?_
  have f:=g.oth (p.get0 b1) a4;have o:Upd No h t:=(k1.tr p).own g k1.size;cases hl:bE s.D id with
  |none=>
   refine aw.2 (cy (c:=jJ wI) (vs:=jJ wI) f rfl λk a b=>?_)
   exact⟨_,vc a 0,_,vc a 1,_,vc a 2,_,vc a 3,_,vc a 4,_,vc a 5,m hl e k (o.own b (aj _))⟩
  |some d=>
   rw[hl]at b3;refine ag.2 ⟨_,vc b3 0,_,vc b3 1,_,vc b3 2,_,vc b3 3,_,vc b3 4,_,vc b3 5,?_⟩;refine cy (c:=jJ wI) (vs:=jJ d.1) f rfl λk a b=>?_
   exact⟨_,vc a 0,_,vc a 1,_,vc a 2,_,vc a 3,_,vc a 4,_,vc a 5,j d hl e k (o.own b (aj _))⟩
theorem Tj(v:VaultAt W h vp s)(a:∀h',Upd No h h'->GraphAt (λb=>W b\/b=h.size+1\/b=h.size) h' (h.size+1) h.size s.L s.nx->K (some ⟨h.size+1,0,none⟩) h'):fx 7 [pV vp] K h:=by
 refine cZ (sC (some ⟨vp,0,none⟩)) .nil Tryz.func7 Tryz.call7 ?_;dsimp only[sC,dC,cL];exact ez (λe=>by cases e) λ_=>⟨_,rfl,_,vc v.blk 6,Wi v.g λh' c _ g=>a h' c g⟩
theorem VaultAt.turn{M:eh}{L:de}{nx:Int}{D:List (Int×TD)}{B G:List (dO×Int)}(v:VaultAt W h vp s)(k:Upd M h h')(hm:∀b,M b->W b\/h.size<=b)(g:GraphAt W h' s.gp s.gm L nx)(t:MapAt KE aaw h' s.tm D)(b:MapAt kStr OH h' s.bm B)(n:MapAt kStr OH h' s.nm G)
  (ts:∀d∈D,d∈s.D\/TreeIs W h' s.kind s.x d.2.1 d.2.2/\bO d.2.2/\Fit d.2.2)(sub:∀id,id∈D.map (·.1)↔id∈dM L)(inv:Inv L nx):VaultAt W h' vp {s with L:=L,nx:=nx,D:=D,B:=B,G:=G}:=by
 have hv:¬M vp:=λhb=>(hm vp hb).elim (λe=>v.wv e) λe=>absurd (bw v.blk) a4
 exact⟨k.get v.blk hv,g,t,b,n,v.w,v.wv,v.ne,v.em.updM k hm,λd hd=>(ts d hd).elim (λe=>⟨(v.ts d e).1.updM k hm,(v.ts d e).2⟩) id,sub,inv,v.kd⟩
end
end
section
open Go.Lift
variable {K:Bool->eu}{W:eh}{f i:Nat}{B:List (dO×Int)}{k:eu}
def w9(b:UInt8):Bool:=decide (33<=b.toNat)&&decide (b.toNat<=126)
def pK(n:dO):Bool:=decide (1<=n.size)&&decide (n.size<=32)&&n.data.toList.all w9
theorem WU{b:UInt8}{h:ad}(a:K (!w9 b) h):eI 152 [.int .u8 b.toNat] K h:=by
 refine cZ (yr b.toNat) .nil Tryz.func152 Tryz.call152 ?_;unfold yr;refine aq (λe=>?_) λe=>?_
 .rw[show(!w9 b)=true from by simp[w9];omega]at a;exact a
 .rw[show(!w9 b)=decide ((b.toNat:Int)>126)from by unfold w9;rw[decide_eq_true (by omega:33<=b.toNat),Bool.true_and,<-decide_not,decide_eq_decide];omega]at a;exact a
theorem Th{n:dO}{h:ad}(f:∀h',Upd No h h'->K (pK n) h'):eI 95 [.string n] K h:=by
 refine cZ (AE n) JV Tryz.func95 Tryz.call95 ?_;unfold AE;refine fo (aq (λe=>aw.2 ?_) λe=>aq (λk=>?_) λk=>?_)
 .rw[show pK n=false from by simp[pK];omega]at f;exact f _ (eQ _ _)
 .rw[show pK n=false from by simp[pK];omega]at f;exact f _ (eQ _ _)
 .refine λc hc=>?_
  have k1:=Upd.push No h (.cells (dz n++fW (c-n.size) (Value.int .u8 0)).toArray 5 (c,c+1));have b1:=mO h (.cells (dz n++fW (c-n.size) (Value.int .u8 0)).toArray 5 (c,c+1));generalize h.push (.cells (dz n++fW (c-n.size) (Value.int .u8 0)).toArray 5 (c,c+1))=h1 at k1 b1;have d:n.data.toList.length=n.size:=Array.length_toList;refine py ⟨some (aH h),n.size,c⟩ _ ?_
  unfold jE;refine qx ⟨some (aH h),n.size,c⟩ _ ?_;dsimp only[kI,cB,jz,fE];refine eF (λ(i:Nat) (t:Int) h'=>t=(i:Int)/\h'=h1/\i<=n.size/\∀b∈n.data.toList.take i,w9 b=true) (λi=>n.size-i) 0 ⟨rfl,rfl,aK _,a7⟩ ?_
  rintro I i t h' ⟨rfl,rfl,hi,j⟩ m;refine aq (λa=>?_) λg=>?_
  .have a:i<n.data.toList.length:=by rw[d];(try simp only at a);omega
   refine⟨by(try simp only);omega,aH h,rfl,(n.data.toList[i].toNat:Int),?_,?_⟩
   .rw[kY b1,List.getElem?_toArray,bi,Nat.mul_one,List.getElem?_append_left (by simp[dz];omega)]
    simp[dz,d▸a]
   .refine HV.mk' (WU (b:=n.data.toList[i]) (ez (λe=>?_) λe=>?_))
    .rw[show pK n=false from ?_]at f
     .rw[decide_eq_true a4];exact f _ k1
     .unfold pK
      rw[show n.data.toList.all w9=false from List.all_eq_false.2 ⟨_,aG a,by simpa using e⟩,Bool.and_false]
    .rw[cf (n:=n.size) a4 a4]
     refine m (i+1) _ _ ⟨rfl,rfl,a4,?_⟩ a4
     rw[ax a];intro b hb;rcases aL.1 hb with hb|hb
     .exact j b hb
     .rw[av.1 hb];simpa using e
  .have:i=n.size:=by(try simp only at g);omega
   subst this;rw[<-d,bZ]at j;rw[show pK n=true from by unfold pK;rw[List.all_eq_true.2 j];simp;omega]at f
   exact f _ k1
def mC(B:List (dO×Int))(L:de)(n:dO)(id:Int)(no:Bool):Int:=if pK n=false then 1 else if(bE B n).isSome then 7 else if no|| !decide (id=0\/id∈dM L)then 4 else if B.length>=256 then 6 else 0
theorem S7{h:ad}{s:VS}(v:VaultAt W h f s){r:Nat}(m:MapAt kStr OH h r B)(n:dO)(id:Int)(no:Bool){K:Int->eu}
  (i:∀h',Upd (· =r) h h'->MapAt kStr OH h' r (if mC B s.L n id no=0 then kw B n id else B)->K (mC B s.L n id no) h'):fK 48 [.map (some r),pV f,.string n,.int .u32 id,.bool no] K h:=by
 refine cZ (vx (some r) (some ⟨f,0,none⟩) n id no) Dr Tryz.func48 Tryz.call48 ?_;unfold vx tD;refine⟨_,_,m.get n 0,Th λj k1=>?_⟩
 have a:∀e h',mC B s.L n id no=e->e≠0->Upd No h h'->K e h':=λe h' u x p=>by
  have:=i h' p.wide;rw[u,if_neg x]at this;exact this (m.upd p λh=>h)
 refine ez (λe=>a 1 j ?_ a8 k1) λe=>ez (λc=>a 7 j ?_ a8 k1) λc=>?_
 .unfold mC;rw[if_pos (by simpa using e)]
 .unfold mC;rw[if_neg (by simpa using e),if_pos c]
 .have e:¬pK n=false:=by simpa using e
  have c:¬(bE B n).isSome=true:=by simp[c]
  refine eM (λt h'=>t=(no|| !decide (id=0\/id∈dM s.L))/\Upd No h h') (λR k=>?_) ?_
  .refine ez (λb=>k _ _ ⟨by rw[b];rfl,k1⟩) λb=>Gj (v.upd0 k1) id (k _ _ ⟨by rw[b];rfl,k1⟩)
  .rintro t g ⟨rfl,d⟩
   refine ez (λb=>a 4 g ?_ a8 d) λb=>⟨_,(m.upd d λh=>h).len,aq (λw=>a 6 g ?_ a8 d) λw=>?_⟩
   .unfold mC;rw[if_neg e,if_neg c,if_pos b]
   .unfold mC;rw[if_neg e,if_neg c,if_neg (by rw[b];decide),if_pos a4]
   .have o:=m.upd d λh=>h
    have q:mC B s.L n id no=0:=by unfold mC;rw[if_neg e,if_neg c,if_neg (by rw[b];decide),if_neg a4]
    refine⟨r,rfl,o.isMap,?_⟩;have:=i _ ((d.wide).tr (jN (M:=(· =r)) g (.string n) (.int .u32 id) rfl))
    rw[q,if_pos rfl]at this;exact this (o.put n id)
theorem VS.neB{s:VS}(h: [s.gp,s.gm,s.tm,s.bm,s.nm].Nodup):s.gp≠s.gm/\s.gp≠s.tm/\s.gp≠s.bm/\s.gp≠s.nm/\s.gm≠s.tm/\s.gm≠s.bm/\s.gm≠s.nm/\s.tm≠s.bm/\s.tm≠s.nm/\s.bm≠s.nm:=by
 simp only[List.nodup_cons,au,List.not_mem_nil,or_false,not_or]at h;exact⟨h.1.1,h.1.2.1,h.1.2.2.1,h.1.2.2.2,h.2.1.1,h.2.1.2.1,h.2.1.2.2,h.2.2.1.1,h.2.2.1.2,h.2.2.2.1⟩
theorem VaultAt.setB{h h':ad}{s:VS}(v:VaultAt W h f s)(k:Upd (· =s.bm) h h')(b:MapAt kStr OH h' s.bm B):VaultAt W h' f {s with B:=B}:=by
 obtain⟨n,p,i,q,t,m,o,j,u,c⟩:=VS.neB v.ne;have g:∀b,b=s.bm->W b:=λb e=>v.w b (.inr (.inr (.inr (.inl e))))
 exact v.turn k (λb e=>.inl (g b e)) (v.g.upd k λb e=>.inl ⟨g b e,λa=>i (a.symm.trans e),λa=>m (a.symm.trans e)⟩) (v.t.upd k j) b (v.n.upd k λe=>c e.symm) (λd hd=>.inl hd) v.sub v.inv
theorem AY{h:ad}{a:Nat}{s:VS}(v:VaultAt W h a s)(n:dO)(id:Int){K:Int->eu}
  (c:∀h',Upd (· =s.bm) h h'->VaultAt W h' a {s with B:=if mC s.B s.L n id false=0 then kw s.B n id else s.B}->K (mC s.B s.L n id false) h'):fK 16 [pV a,.string n,.int .u32 id] K h:=by
 refine cZ (rC (some ⟨a,0,none⟩) n id) .nil Tryz.func16 Tryz.call16 ?_;dsimp only[rC,cB,cL];exact ez (λe=>by cases e) λ_=>⟨_,rfl,_,vc v.blk 8,S7 v v.b n id false λh' b m=>c h' b (v.setB b m)⟩
section
variable {M:eh} {h:ad} {s:f9} {xs ys:List Int}
theorem L0(l:List Int):l.flatMap u32=l.map λx=>Value.int .u32 x:=by
 induction l with
 |nil=>rfl
 |cons x l ih=>rw[aN,ih];rfl
theorem OwnS.put1(g:OwnS u32 1 33 M h s ys)(hi:i<ys.length)(x:Int)(m:∀h',OwnS u32 1 33 M h' s (ys.set i x)->Upd M h h'->k h'):∃a,s.a=some a/\Wr h (adr a (i*1))/\At (hset h (adr a (i*1)) (.int .u32 x)) k:=by
 have f:=g.len;have c:=g.cap;rcases g.blk with q|⟨b,d,j,hb,hc,n⟩
 .omega
 refine⟨_,j,?_⟩;rw[Nat.mul_one];refine tC hc (by rw[List.size_toArray,ae,L0,bS];omega) (List.setIfInBounds_toArray ..) λp b2 o=>m p ⟨by rw[iA];exact f,j7,c,.inr ⟨b,d,j,hb,?_,n⟩⟩ (o.mono λ_ e=>.inl (e▸hb))
 rw[b2,L0,List.set_append_left _ _ (by rw[bS];exact hi),L0,List.map_set]
theorem OwnS.cutZ(d:OwnS u32 1 33 M h s ys)(hi:i<ys.length)(p:∀h',OwnS u32 1 33 M h' ⟨aW s.a 0 s.cap 1,i-0,s.cap-0⟩ (ys.take i)->Upd M h h'->k h'):
  qR h (aW s.a i s.cap 1) 0 (dg (s.len-i) [.int .u32 0])/\At (fe h (aW s.a i s.cap 1) 0 (dg (s.len-i) [.int .u32 0])) k:=by
 have o:=d.len;have n:=d.cap;rcases d.blk with v|⟨b,a,m,hb,hc,q⟩
 .omega
 have c:((ys.take i).flatMap u32).length=i*1:=by rw[jU j7,aY,Nat.min_eq_left a4]
 have j:((ys.drop i).flatMap u32).length=(ys.length-i)*1:=by rw[jU j7,List.length_drop]
 rw[zj (f:=u32) ys i]at hc;rw[m,jG a4];have g:(dg (s.len-i) [Value.int .u32 0]).length=(s.len-i)*1:=lH _ _;refine Gm hc (by rw[g,ae,ae,c,j];omega) λu b2 t=>p u ⟨by rw[aY];simp only;omega,j7,cd,
  .inr ⟨b,dg (s.len-i) [Value.int .u32 0]++a,by rw[m,sub_zero],hb,?_,?_⟩⟩ (t.mono λ_ e=>.inl (e▸hb))
 .rw[b2]
  congr 2
  rw[ao,ao,List.take_left' (by rw[c];omega)];congr 2
  rw[<-cS,cJ (by rw[c];omega),cJ (by rw[j,g];omega)]
 .rw[ae,g,q];simp only;omega
def nz(xs:List Int):List Int:=xs.filter λx=> !(x==0)
theorem Vl{x:Int}(a:K (x==0) h):HV PG (.func (.func 170) #[] #[]) [.int .u32 x] [.c .bool] K h:=by
 refine HV.mk' (cZ (zx x) .nil Tryz.func170 Tryz.call170 ?_);unfold zx;exact a
theorem U9(k:OwnS u32 1 33 M h s xs)(R:xs.length<=1000000){K:f9->eu}(E:∀s' h',OwnS u32 1 33 M h' s' (nz xs)->Upd M h h'->K s' h'):dS 102 [.slice s.a s.len s.cap] K h:=by
 have q:=k.len;have D:=k.cap;refine cZ (CZ s) .nil Tryz.func102 Tryz.call102 ?_;unfold CZ;refine ry s _ ?_;dsimp only[kU,dh,uK,cB,fE,jz,nL,ox];refine lQ s _ ?_;dsimp only[ix,uK,cB,fE];have N:Sl u32 1 No h s xs:=k.sl λ_ _ _ h=>h
 refine eF (λ(i:Nat) (t:Int) h'=>t=(i:Int)/\h'=h/\i<=xs.length/\nz (xs.take i)=xs.take i) (λi=>xs.length-i) 0 ⟨rfl,rfl,aK _,by simp[nz]⟩ ?_
 rintro I i t h' ⟨rfl,rfl,hi,m⟩ H;refine aq (λc=>?_) λL=>?_
 .have c:i<xs.length:=by omega
  obtain⟨a,A,_,hx⟩:=Nums.at N c;refine⟨a4,a,A,_,hx,Vl (ez (λe=>?_) λe=>?_)⟩
  .
   have F:nz (xs.take (i+1))=xs.take i:=by
    rw[ax c];unfold nz at m⊢;rw[ct,m];simp[e]
   refine ez (λP=>?_) λ_=>?_
   .simp at P
   rw[cf c a4];refine eF (λ(g:Nat×Nat×List Int) (t:Int×Int) v=>t=((g.1:Int),(g.2.1:Int))/\g.1<g.2.1/\g.2.1<=xs.length/\OwnS u32 1 33 M v s g.2.2/\g.2.2.take g.1=nz (xs.take g.2.1)/\g.2.2.drop g.2.1=xs.drop g.2.1/\Upd M h' v) (λg=>xs.length-g.2.1) (i,i+1,xs) ⟨rfl,by(try simp only);omega,by(try simp only);omega,k,F.symm,rfl,eQ _ _⟩ ?_
   rintro Q ⟨p,j,ys⟩ t v ⟨rfl,B,O,f,ht,hd,y⟩ u;have f:OwnS u32 1 33 M v s ys:=f;have G:ys.length=xs.length:=f.len.symm.trans q;(try simp only at B O ht hd⊢)
   refine aq (λb=>?_) λC=>?_
   .have b:j<xs.length:=by omega
    have z:ys[j]' a4=xs[j]:=by
     have:=congrArg List.head? hd;simpa[List.head?_drop,af b,af (show j<ys.length by omega)]using this
    obtain⟨a,A,_,hx⟩:=Nums.at (f.sl (W:=No) λ_ _ _ h=>h) (show j<ys.length by omega)
    rw[z]at hx;have o:ys.drop (j+1)=xs.drop (j+1):=by rw[<-cS,hd,cS]
    refine fo ⟨a4,a,A,_,hx,Vl (ez (λe=>?_) λe=>?_)⟩
    .have d:(!(xs[j]==0))=true:=e
     refine⟨a4,?_⟩;rw[bi];refine OwnS.put1 f (i:=p) a4 xs[j] λJ w x=>?_
     rw[cf (i:=p) (n:=xs.length) a4 a4,cf b a4];refine u (p+1,j+1,ys.set p xs[j]) _ _ ⟨rfl,by(try simp only);omega,by(try simp only);omega,w,?_,?_,y.tr x⟩ (by(try simp only);omega)
     ·(try simp only)
      rw[ax (by rw[iA];omega),List.getElem_set_self,List.take_set_of_le (aj _),ht,ax b];unfold nz;rw[ct];simp[d]
     ·(try simp only)
      rw[List.drop_set_of_lt a4,o]
    .have d:(!(xs[j]==0))=false:=e
     rw[cf b a4];refine u (p,j+1,ys) _ _ ⟨rfl,by(try simp only);omega,by(try simp only);omega,f,?_,o,y⟩ (by(try simp only);omega)
     (try simp only)
     rw[ht,ax b];unfold nz;rw[ct];simp[d]
   .have:j=xs.length:=by omega
    subst this;rw[bZ]at ht;refine⟨a4,?_⟩;rw[bi];refine OwnS.cutZ (ys:=ys) f a4 λJ w x=>⟨a4,?_⟩
    rw[ht]at w;exact E _ _ w (y.tr x)
  .rw[cf c a4]
   refine H (i+1) _ _ ⟨rfl,rfl,a4,?_⟩ a4
   rw[ax c];unfold nz at m⊢;rw[ct,m];simp[e]
 .have:i=xs.length:=by omega
  subst this;rw[bZ]at m;rw[<-m]at k;exact aw.2 (E s _ k (eQ _ _))
end
end
section
open Go.Lift
variable {L:de}{nx:Int}{ps:List Int}{y:Nat}
def xF(s:VS)(n:dO)(d:TD)(ps:List Int):(Int×Int)×VS:=
 if(fF s.L s.nx ps).1.2≠0 then((0,(fF s.L s.nx ps).1.2),s)
 else(((fF s.L s.nx ps).1.1,0),{s with L:=(fF s.L s.nx ps).2.1,nx:=(fF s.L s.nx ps).2.2,D:=kw s.D (fF s.L s.nx ps).1.1 d,B:=kw s.B n (fF s.L s.nx ps).1.1})
theorem O8(h:(fF L nx ps).1.2≠0):(fF L nx ps).2=(L,nx):=by
 unfold fF at h⊢;split
 .rfl
 .split
  .rfl
  .split
   .rfl
   .rename_i h1 h2 h3
    rw[if_neg h1,if_neg h2,if_neg h3]at h;exact absurd rfl h
theorem Ab(h:(fF L nx ps).1.2=0):fF L nx ps=((nx,0),ws L nx ps,nx+1):=by
 unfold fF at h⊢;split at h
 .rename_i h1;exact absurd h h1
 .split at h
  .rename_i h1;exact absurd h h1
  .split at h
   .have h:(6:Int)=0:=h
    omega
   .rename_i h1 h2 h3;rw[if_neg h1,if_neg h2,if_neg h3]
theorem Ij{h:ad}{k:eu}(a:∀h',h'=h->k h'):At h k:=bF (a h rfl)
theorem Ik{κ β:Type}[DecidableEq κ]{k:κ}{v:β}:∀{l:List (κ×β)} {p:κ×β},p∈kw l k v->p=(k,v)\/p∈l
 | [],p,h=>.inl (by simpa[kw]using h)
 |(k',u)::l,p,h=>by
  unfold kw at h;split at h
  .exact(au.1 h).imp id (ay _)
  .rcases au.1 h with h|h
   .exact .inr (h▸al)
   .exact(Ik h).imp id (ay _)
theorem iH{β:Type}{k:Int}{v:β}:∀{l:List (Int×β)},bE l k=some v->(k,v)∈l
 |(k',u)::l,h=>by
  unfold bE at h;split at h
  .rename_i e;cases h;rw[e];exact al
  .exact ay _ (iH h)
section
variable {W:eh} {h0 h:ad} {vp:Nat} {s:VS}
theorem VaultAt.size(v:VaultAt W h vp s)(a:s.M y):y<h.size:=v.g.lt y (v.w y a)
theorem VS.mG{s:VS}(h:BF s.gp s.gm y):s.M y:=h.imp id .inl
theorem EH(v:VaultAt W h0 vp s)(k0:Upd No h0 h)(n:dO){d:TD}(i:TreeIs W h0 s.kind s.x d.1 d.2)(hr:bO d.2)(hf:Fit d.2){pb:Nat}(P:h0.size<=pb)(hpb2:pb<h.size){sl:f9}(ho:OwnS u32 1 33 (· =pb) h sl ps)(hn:ps.length<=1000000)
  {K:Int×Int->eu}(E:∀h',Upd s.M h0 h'->VaultAt W h' vp (xF s n d (nz ps)).2->K (xF s n d (nz ps)).1 h'):
  GA 54 [pV vp,.string n,A4 d.1,.slice sl.a sl.len sl.cap] K h:=by
 refine cZ (qi (some ⟨vp,0,none⟩) n d.1 sl) .nil Tryz.func54 Tryz.call54 ?_;dsimp only[qi,cB,dC,qY,yL,mE,bh,ai,aF,cL,lP,uJ,F7];refine aV λh1 b1 k1=>⟨_,rfl,_,vc (v.upd0 (k0.tr k1)).blk 6,?_⟩
 have s0:=k0.size;refine U9 (ho.upd k1 λ_ _ h=>h) hn λs5 J o5 u5=>?_
 have H:Upd No h0 J:=(k0.tr k1).own u5 P;have q:=v.upd0 H;have b5:=u5.oth b1 (show h.size≠pb by omega)
 have hl5:(nz ps).length<=ps.length:=List.length_filter_le ..;have Y:∀y,W y->y<h0.size:=v.g.lt;refine⟨vc q.blk 6,Yr q.g (by have:=v.inv.nx1;omega) (λhm=>by have:=(v.inv.pos _ hm).2;omega) (o5.sl (W:=W) λb hb _ hw=>by have:=Y b hw;omega) a4 λI t G=>?_⟩
 have O:∀y,BF s.gp s.gm y->W y\/J.size<=y:=λy a=>.inl (v.w y (VS.mG a))
 obtain⟨n1,n2,n3,n4,n5,n6,n7,n8,n9,R⟩:=VS.neB v.ne;have u:∀y,y≠s.gp->y≠s.gm->¬BF s.gp s.gm y:=λy h1 h2 h=>h.elim h1 h2
 have V:=q.t.upd t (u _ n2.symm n5.symm);have m7:=q.b.upd t (u _ n3.symm n6.symm);have z:=q.n.upd t (u _ n4.symm n7.symm);refine ez (λe=>?_) λe=>?_
 .have e:(fF s.L s.nx (nz ps)).1.2≠0:=by simpa using e
  have e2:=O8 e;have hv:xF s n d (nz ps)=((0,(fF s.L s.nx (nz ps)).1.2),s):=by unfold xF;rw[if_pos e]
  rw[hv]at E;rw[e2]at G;exact E I (H.wide.tr (t.mono λy a=>.inl (VS.mG a))) (q.turn t O G V m7 z (λd hd=>.inl hd) v.sub v.inv)
 .have e:(fF s.L s.nx (nz ps)).1.2=0:=by simpa using e
  have e2:=Ab e;have o:=v.inv.add (nz ps);have hv:xF s n d (nz ps)=(((fF s.L s.nx (nz ps)).1.1,0),{s with L:=(fF s.L s.nx (nz ps)).2.1,nx:=(fF s.L s.nx (nz ps)).2.2,D:=kw s.D (fF s.L s.nx (nz ps)).1.1 d,B:=kw s.B n (fF s.L s.nx (nz ps)).1.1}):=by unfold xF;rw[if_neg (by rw[e];simp)]
  rw[hv]at E;rw[e2]at G E o⊢;have A:∀y,s.M y->vp≠y:=λy a e=>v.wv (e▸v.w y a)
  have c7:=t.get q.blk λhm=>A _ (VS.mG hm) rfl
  have w:=t.get b5 λhm=>by have:=v.size (VS.mG hm);omega
  refine⟨_,rfl,_,vc c7 7,_,vc w 0,_,vc w 1,_,vc w 2,_,vc w 3,_,vc w 4,_,vc w 5,_,rfl,V.isMap,Ij λf m=>?_⟩
  have m:f=fC I s.tm (KE.enc s.nx) (aaw d):=m;have g:Upd (· =s.tm) I f:=by rw[m];exact jN I _ _ rfl
  have Z:MapAt KE aaw f s.tm (kw s.D s.nx d):=by rw[m];exact V.put s.nx d
  have x:=m7.upd g (λe=>n8 e.symm)
  have C:=z.upd g (λe=>n9 e.symm)
  have Q:=G.upd g λb hb=>.inl ⟨v.w b (.inr (.inr (.inl hb))),λe=>n2 (e.symm.trans hb),λe=>n5 (e.symm.trans hb)⟩
  have S:=g.get c7 λe=>A _ (.inr (.inr (.inl rfl))) e
  refine⟨_,rfl,_,vc S 8,_,rfl,x.isMap,Ij λc j=>?_⟩
  have j:c=fC f s.bm (kStr.enc n) (OH s.nx):=j;have k:Upd (· =s.bm) f c:=by rw[j];exact jN f _ _ rfl
  have T:MapAt kStr OH c s.bm (kw s.B n s.nx):=by rw[j];exact x.put n s.nx
  have N:=Z.upd k n8;have F:=C.upd k (λe=>R e.symm)
  have U:=Q.upd k λb hb=>.inl ⟨v.w b (.inr (.inr (.inr (.inl hb)))),λe=>n3 (e.symm.trans hb),λe=>n6 (e.symm.trans hb)⟩
  have X:Upd s.M J c:=((t.mono λy a=>.inl (VS.mG a)).tr (g.mono λy a=>.inl (.inr (.inr (.inl a))))).tr (k.mono λy a=>.inl (.inr (.inr (.inr (.inl a)))))
  refine E c (H.wide.tr X) (q.turn X (λy a=>.inl (v.w y a)) U N T F (λp hp=>(Ik hp).elim (λe=>.inr ?_) .inl) (λid=>?_) o)
  .subst e
   have ku:Upd s.M h0 c:=H.wide.tr X;exact⟨i.updM ku λy a=>.inl (v.w y a),hr,hf⟩
  .rw[xa,insV_ids.mem_iff,au,<-v.sub id]
   split
   .rename_i hm
    exact⟨.inr,λh=>h.elim (λe=>e▸hm) λh=>h⟩
   .rw[aL,av,Or.comm]
end
end
section
open Go.Lift
abbrev BG:=List (dO×Int)
abbrev NUp(l:BG):Prop:=(l.map (·.1)).Pairwise kl
structure NmR(B l:BG):Prop where
 up:NUp l
 ndB:(B.map (·.1)).Nodup
 iff:∀k v,bE B k=some v↔(k,v)∈l
def Ct(l:BG)(n:dO)(id:Int):BG:=l.takeWhile (λp=>bM p.1.toList n.toList)++(n,id)::l.dropWhile (λp=>bM p.1.toList n.toList)
section
variable {B l:BG} {n:dO} {id:Int} {i:Nat}
theorem NUp.nd(u:NUp l):(l.map (·.1)).Nodup:=List.Pairwise.imp (λ{a b} (h:kl a b) (e:a=b)=>bT a (by rw[<-e]at h;exact h)) u
theorem NmR.nil:NmR [] []:=⟨cq,cq,λk v=>⟨λh=>(by cases h),λh=>(by cases h)⟩⟩
theorem Za{l:BG}(h:(l.map (·.1)).Nodup):l.Nodup:=(fX.1 h).imp λh e=>h (by rw[e])
theorem NmR.pm(r:NmR B l):B.Perm l:=(List.perm_ext_iff_of_nodup (Za r.ndB) (Za r.up.nd)).2 λp=>(eJ (v:=p.2) r.ndB).symm.trans (r.iff p.1 p.2)
theorem NmR.at(r:NmR B l)(hi:i<l.length):bE B l[i].1=some l[i].2:=(r.iff _ _).2 (aG hi)
theorem NmR.no(r:NmR B l)(h:∀p∈l,p.1≠n):bE B n=none:=by
 cases e:bE B n with
 |none=>rfl
 |some v=>exact absurd rfl (h _ ((r.iff _ _).1 e))
theorem Co{p:dO×Int}:p∈Ct l n id↔p=(n,id)\/p∈l:=by
 conv=>rhs;rw[<-List.takeWhile_append_dropWhile (p:=λp:dO×Int=>bM p.1.toList n.toList) (l:=l)]
 unfold Ct;simp only[aL,au];exact⟨λh=>h.elim (λh=>.inr (.inl h)) λh=>h.elim .inl λh=>.inr (.inr h),λh=>h.elim (λh=>.inr (.inl h)) λh=>h.elim .inl λh=>.inr (.inr h)⟩
theorem Yl(u:NUp l)(h:∀p∈l,p.1≠n):NUp (Ct l n id):=by
 induction l with
 |nil=>exact List.pairwise_singleton ..
 |cons a l f=>
  have i:=aC.1 u;have f:=f i.2 λp c=>h p (ay _ c)
  unfold Ct at f⊢;rw[List.takeWhile_cons,List.dropWhile_cons];by_cases d:kl a.1 n
  .have b:bM a.1.toList n.toList=true:=d
   rw[if_pos b,if_pos b];refine aC.2 ⟨λk c=>?_,f⟩
   have m:k∈(Ct l n id).map (·.1):=c
   obtain⟨p,g,e⟩:=aR.1 m;rcases Co.1 g with o|g
   .rw[<-e,o];exact d
   .exact i.1 _ (aR.2 ⟨p,g,e⟩)
  .have b:¬bM a.1.toList n.toList=true:=d
   rw[if_neg b,if_neg b];have j:kl n a.1:=l8 d (h a al);refine aC.2 ⟨λk c=>?_,u⟩
   rcases au.1 c with rfl|c
   .exact j
   .exact dI j (i.1 k c)
theorem NmR.add(r:NmR B l)(h:∀p∈l,p.1≠n):NmR (kw B n id) (Ct l n id):=by
 refine⟨Yl r.up h,BB r.ndB,λk v=>?_⟩
 rw[lZ,Co,<-r.iff];split
 .rename_i e
  subst e;exact⟨λe=>.inl (by cases e;rfl),λe=>e.elim (λe=>by cases e;rfl) λe=>by rw[r.no h]at e;cases e⟩
 .rename_i e
  exact⟨.inr,λh=>h.resolve_left λa=>e (by cases a;rfl)⟩
theorem NUp.uniq(u:NUp l){k:dO}{v w:Int}(h:(k,v)∈l)(h':(k,w)∈l):v=w:=bI.inj (((eJ u.nd).2 h).symm.trans ((eJ u.nd).2 h'))
theorem NmR.set(r:NmR B l)(hi:i<l.length):NmR (kw B l[i].1 id) (l.set i (l[i].1,id)):=by
 have em:(l.set i (l[i].1,id)).map (·.1)=l.map (·.1):=by
  apply List.ext_getElem a7;intro j d f;simp only[List.getElem_map,List.getElem_set];split
  .rename_i e;subst e;rfl
  .rfl
 refine⟨by unfold NUp;rw[em];exact r.up,BB r.ndB,λk v=>?_⟩
 rw[lZ,ql];simp only[List.getElem?_set];split
 .rename_i e
  subst e;refine⟨λe=>⟨i,by simp only[if_true];cases e;rfl⟩,λ⟨j,a⟩=>?_⟩
  split at a
  .cases a;rfl
  .rename_i hne
   obtain⟨b,e⟩:=bH.1 a;refine absurd ?_ hne;have:=nU r.up.nd (i:=i) (j:=j) (h₀:=by simpa using hi) (h₁:=by simpa using b)
   exact this.1 (by simp[e])
 .rename_i e
  rw[r.iff,ql];refine⟨λ⟨j,a⟩=>⟨j,?_⟩,λ⟨j,a⟩=>?_⟩
  .rw[if_neg]
   .exact a
   .intro c;subst c;rw[af hi]at a;exact e (congrArg (·.1) (bI.inj a)).symm
  .split at a
   .cases a;exact absurd rfl e
   .exact⟨j,a⟩
theorem NmR.del(r:NmR B l)(hi:i<l.length):NmR (kZ B l[i].1) (l.take i++l.drop (i+1)):=by
 rw[<-List.eraseIdx_eq_take_drop_succ];refine⟨r.up.sublist ((List.eraseIdx_sublist ..).map _),Rg r.ndB,λk v=>?_⟩
 rw[pq,List.mem_eraseIdx_iff_getElem?];split
 .rename_i e
  subst e;refine⟨λh=>(by cases h),λ⟨j,d,a⟩=>?_⟩
  obtain⟨c,e⟩:=bH.1 a;have:=nU r.up.nd (i:=i) (j:=j) (h₀:=by simpa using hi) (h₁:=by simpa using c)
  exact absurd (this.1 (by simp[e])).symm d
 .rename_i e
  rw[r.iff,ql];refine⟨λ⟨j,a⟩=>⟨j,λb=>?_,a⟩,λ⟨j,_,a⟩=>⟨j,a⟩⟩
  subst b;rw[af hi]at a;exact e (congrArg (·.1) (bI.inj a)).symm
theorem NmR.list(r:NmR B l){ys:BG}(d:ys.Perm B)(i:ys.Pairwise λa b=>¬kl b.1 a.1):ys=l:=by
 have up:l.Pairwise λa b=>kl a.1 b.1:=fX.1 r.up
 refine List.Perm.eq_of_pairwise (le:=λa b:dO×Int=>¬kl b.1 a.1) (λa b f hb g j=>?_) i (up.imp λh h'=>bT _ (dI h h')) (d.trans r.pm)
 have e:a.1=b.1:=nX λne=>g (l8 j ne)
 have c:=(d.trans r.pm).mem_iff.1 f;exact Prod.ext e (r.up.uniq (k:=a.1) c (by rw[e];exact hb))
end
end
section
open Go.Lift
variable {t:TypeId}{p:Pr}{hd:Int}
abbrev zPrL:c5:= [.string (⟨#[]⟩:dO),.string (⟨#[]⟩:dO)]
theorem yk{h:ad}{k:eu}(d:∀h',h'[h.size]? =some (.cells #[.string p.1,.string p.2] t (0,0))->Upd No h h'->k h'):
  At (hnew h [.string (⟨#[]⟩:dO),.string (⟨#[]⟩:dO)] t) λb=>qR b (some (aH h)) 0 [.string p.1,.string p.2]/\At (fu b (aH h) 0 [.string p.1,.string p.2]) k:=by
 refine aV λf b1 k1=>?_
 exact cy (c:=zPrL) (vs:= [.string p.1,.string p.2]) b1 rfl λe b2 a=>d e b2 (k1.own a (aj _))
theorem ua{M:eh}{h:ad}{so:f9}{out:bY}{K:f9->eu}(d:OwnS dZ 2 t M h so out)(hM:∀b,h.size<=b->M b)(g:out.length+1<=1000000000)
  (c:∀s' h',OwnS dZ 2 t M h' s' (out++ [p])->Upd M h h'->K s' h'):
  ∃xs,SRow (hnew h [.string p.1,.string p.2] t) (some (aH h)) (1*2) xs/\AppP (some [.string (⟨#[]⟩:dO),.string (⟨#[]⟩:dO)]) 2 32 t so.a so.len so.cap 1 xs (hnew h [.string p.1,.string p.2] t) K:=by
 have k:=fD No h [.string p.1,.string p.2] t;have e:OwnS dZ 2 t (λ_=>True) (hnew h [.string p.1,.string p.2] t) ⟨some (aH h),1,1⟩ [p]:=⟨rfl,fP,aj _,.inr ⟨h.size,[],rfl,trivial,bV ..,rfl⟩⟩
 refine⟨_,(e.sl (W:=No) λ_ _ _ h=>h).srow,?_⟩
 refine AppP.own (ys:= [p]) (d.upd k λ_ _ h=>h) rfl rfl rfl rfl a4 (by simp only[aP];omega) (hM _ (by rw[dA];omega)) λs' h' a f=>?_
 exact c s' h' a ((fD M h _ _).tr f)
theorem HO{p:Pr}:∀{A B:bY},(∀r∈A,kl r.1 p.1)->gw p (A++B)=A++gw p B
 | [],_,_=>rfl
 |r::A,B,h=>by
  rw[cG,gc,if_pos (h r (al ..)),HO λq a=>h q (ay _ a)];rfl
theorem OF{p q:Pr}:∀{A:bY},(∃r∈A,kl p.1 r.1)->gw p (A++ [q])=gw p A++ [q]
 | [],h=>by obtain⟨r,e,_⟩:=h;simp at e
 |r::A,h=>by
  rw[cG,gc,gc];by_cases b:kl r.1 p.1
  .rw[if_pos b,if_pos b,OF]
   .rfl
   .obtain⟨f,a,d⟩:=h
    rcases au.1 a with rfl|a
    .exact absurd (dI b d) (bT _)
    .exact⟨f,a,d⟩
  .rw[if_neg b,if_neg b]
   by_cases c:r.1=p.1
   .rw[if_pos c,if_pos c];rfl
   .rw[if_neg c,if_neg c];rfl
theorem OD:∀{l:bY},(∀q∈l,kl p.1 q.1)->gw p l=p::l
 | [],_=>rfl
 |q::l,h=>by
  have a:=h q (al ..);rw[gc,if_neg λb=>bT _ (dI a b),if_neg λe=>by rw[e]at a;exact bT _ a]
theorem KY{p:Pr}:∀{l:bY},bO l->gw p (l.filter λq=>decide (q.1≠p.1))=gw p l
 | [],_=>rfl
 |r::l,b=>by
  have b:=aC.1 b;have keep:∀{l:bY},(∀q∈l,kl p.1 q.1)->(l.filter λq=>decide (q.1≠p.1))=l:=λ{l} h=>List.filter_eq_self.2 λq a=>decide_eq_true λe=>by have:=h q a;rw[e]at this;exact bT _ this
  rw[List.filter_cons,gc];by_cases e:r.1=p.1
  .have d:∀q∈l,kl p.1 q.1:=λq a=>by rw[<-e];exact b.1 q a
   rw[if_neg (by simp[e]),if_neg (by rw[e];exact bT _),if_pos e,keep d,OD d]
  .rw[if_pos (by simpa using e),gc]
   by_cases c:kl r.1 p.1
   .rw[if_pos c,if_pos c,KY b.2]
   .rw[if_neg c,if_neg c,if_neg e,if_neg e]
    have f:=l8 c e;rw[keep λq a=>dI f (b.1 q a)]
theorem mI{i n:Nat}(h:i<n)(a:n<=9223372036854775807):ac .i64 ((i:Int)+1)=((i+1:Nat):Int):=by rw[Go.IntWalk.i64_in _ a4];omega
theorem D6(p:Pr):∀{l:bY},(gw p l).length<=l.length+1
 | []=>aj _
 |q::l=>by
  rw[gc];split
  .have:=D6 p (l:=l);simp only[List.length_cons];omega
  .split<;>simp
theorem zV{W W':eh}{h h':ad}{kind:Int}{x:Hs}{t u:Tr}{l l':bY}(i:TreeIs W h kind x t l)(a:TreeIs W' h' kind x u l'):mS t u=true:=by
 rcases i with⟨rfl,b,rfl,_⟩|⟨rfl,b,rfl,_⟩<;>rcases a with⟨e,b',rfl,_⟩|⟨e,b',rfl,_⟩
 .simp[mS]
 .cases e
 .cases e
 .simp[mS]
theorem aaO{k:Int}(a:0<=k)(_:k<=255):ac .i64 (gK k 2)=0\/ac .i64 (gK k 2)=1:=by
 have:gK k 2=k%2:=Int.tmod_eq_emod_of_nonneg a;rw[this,dw a4];omega
abbrev hsL(x:Hs):c5:= [.int .u64 x.k0,.int .u64 x.k1,.int .u64 x.mask]
section
variable {W:eh} {h:ad} {vp:Nat} {s:VS}
theorem AZ(v:VaultAt W h vp s)(n:dO)(hb:bE s.B n=some hd){d:TD}(i:TreeIs W h s.kind s.x d.1 d.2)(j:bO d.2)(g:Fit d.2)
  {K:Int×Int->eu}(f:∀h',Upd s.M h h'->VaultAt W h' vp (xF s n d (nz [hd])).2->K (xF s n d (nz [hd])).1 h'):
  GA 19 [pV vp,.string n,A4 d.1] K h:=by
 refine mX (some ⟨vp,0,none⟩) n d.1 ?_;dsimp only[jW,dC,qY,gD,mE,bh,ai,aF,cL,zq,uY,fH,lP,uJ,rU];refine aV λq b1 k1=>iG (v.upd0 k1) n ?_
 rw[hb];refine ag.2 ⟨_,vc b1 0,_,vc b1 1,_,vc b1 2,_,vc b1 3,_,vc b1 4,_,vc b1 5,_,rfl,?_⟩;have c1:=k1.get0 v.blk;refine⟨_,gL c1 0 0,_,gL c1 0 1,_,gL c1 0 2,_,gL c1 0 3,_,gL c1 0 4,_,gL c1 0 5,?_⟩;refine yP (t:=d.1) (u:=s.e) λb c=>?_
 rw[zV i v.em];have b2:=c.get0 b1;refine ag.2 ⟨_,vc b2 0,_,vc b2 1,_,vc b2 2,_,vc b2 3,_,vc b2 4,_,vc b2 5,aV λp b3 e=>?_⟩
 have a:=k1.tr c;have k:=a.size;refine EH v (a.tr e) n i j g (pb:=b.size) k (bw b3) (sl:=⟨some (aH b),1,1⟩) (ps:= [hd]) ⟨rfl,j7,aj _,.inr ⟨b.size,[],rfl,rfl,b3,rfl⟩⟩ a7 λh' m o=>f h' m o
theorem LZ(v:VaultAt W h vp s)(n:dO)(hb:bE s.B n=some hd){id:Int}(hi:id=0\/id∈dM s.L)(g:id=0\/UpG s.L hd id)
  {K:Int->eu}(j:∀h',Upd s.M h h'->VaultAt W h' vp {s with B:=kw s.B n id}->K 0 h'):fK 31 [pV vp,.string n,.int .u32 id] K h:=by
 refine iM (some ⟨vp,0,none⟩) n id ?_;dsimp only[fQ,tD,gD,uL,F7,cB,cL];refine iG v n ?_;rw[hb];refine fo (ag.2 (Gj v id ?_));rw[decide_eq_true hi];refine ag.2 (tx v id hd λb e d k1=>?_)
 rw[d.2 g];have a:=v.upd0 k1;refine ag.2 ⟨_,rfl,_,vc a.blk 8,_,rfl,a.b.isMap,Ij λf c=>?_⟩
 have c:f=fC e s.bm (kStr.enc n) (OH id):=c;have i:Upd (· =s.bm) e f:=by rw[c];exact jN e _ _ rfl
 exact j f (k1.wide.tr (i.mono λy k=>.inl (.inr (.inr (.inr (.inl k)))))) (a.setB i (by rw[c];exact a.b.put n id))
end
end
section
open Go.Lift
variable {M W Q:eh}{h:ad}{K:f9->eu}{N:Nat}{S:bY->Prop}
abbrev Wk:=aT×dO×Bool
theorem OwnS.pop{α:Type}{f:α->c5}{sz:Nat}{t:TypeId}{s:f9}{xs:List α}{x:α}(a:OwnS f sz t M h s (xs++ [x])):OwnS f sz t M h ⟨aW s.a 0 s.cap sz,xs.length,s.cap⟩ xs:=by
 have d:=a.len;have hc:=a.cap;rw[ae,aP]at d;refine⟨rfl,a.ne,cd,a.blk.imp id λ⟨b,c,e,hb,aI,g⟩=>⟨b,f x++c,?_,hb,?_,?_⟩⟩
 .simp only;rw[e,sub_zero]
 .rw[aI,List.flatMap_append,aN,List.flatMap_nil,List.append_nil,ao]
 .rw[ae,(a.ne x).1,g]
  simp only;have:s.cap-xs.length=(s.cap-s.len)+1:=a4
  rw[this,Nat.add_mul];omega
structure It where
 b:Nat
 ah:dO
 own:Bool
 sl:dO
 w:Option dO
 F:Fo
def It.raw(i:It):Wk:=(some ⟨i.b,0,none⟩,i.ah,i.own)
def It.key(i:It):c6:=i.ah.data.toList++i.sl.data.toList
def It.cost(i:It):Nat:=if i.own then 1 else 2+2*MS i.F
theorem mM{b:Nat}{sl:dO}{w:Option dO}{F:Fo}(r:RxN W h b sl w F){K:dO->eu}(a:K sl h):Cw 228 [gV b] K h:=by
 refine BL _ ?_;dsimp only[ut,rV,cP,cL];obtain⟨val,s,ow,ks,hb,_⟩:=r;exact ag.2 ⟨_,rfl,sl,dd (i:=0) hb,a⟩
theorem He{b:Nat}{sl:dO}{w:Option dO}{F:Fo}(r:RxN W h b sl w F){K:dO×Bool->eu}(a:∀v,(∀u,w=some u->v=u)->K (v,w.isSome) h):sX 271 [gV b] K h:=by
 refine uc _ ?_;dsimp only[oY,cP,fL,cL];obtain⟨val,s,ow,ks,hb,hv,_⟩:=r;exact ag.2 ⟨_,rfl,val,dd (i:=2) hb,_,rfl,w.isSome,dd (i:=1) hb,a val (vw hv)⟩
theorem NT{b:Nat}{sl:dO}{w:Option dO}{F:Fo}(r:RxN W h b sl w F){K:dO×Bool->eu}(a:K (w.getD ⟨#[]⟩,w.isSome) h):sX 271 [gV b] K h:=by
 refine uc _ ?_;dsimp only[oY,cP,fL,cL];obtain⟨val,s,ow,ks,hb,rfl,_⟩:=r;exact ag.2 ⟨_,rfl,_,dd (i:=2) hb,_,rfl,w.isSome,dd (i:=1) hb,a⟩
theorem DS{b:Nat}{sl:dO}{w:Option dO}{F:Fo}(r:RxN W h b sl w F)(j:F.toL.length<=256)(d:∀s' h' ks,OwnS qo 1 48 (λy=>h.size<=y) h' s' ks->RxL W h' ks F.toL->Upd No h h'->K s' h'):dS 232 [gV b] K h:=by
 refine CT _ ?_;dsimp only[vI,lf,cj,cL];obtain⟨val,s,ow,ks,hb,hv,g,_,f⟩:=r;have a:=jP.1 f;refine ag.2 ⟨_,rfl,s,dd (i:=3) hb,?_⟩;refine Lk g (by rw[a.1];omega) λs' h' e c=>d s' h' ks e (a.upd0 c) c
def It.Ok(W:eh)(h:ad)(i:It):Prop:=RxN W h i.b i.sl i.w i.F/\eK i.F/\i.key.length<=10000/\∀p∈wS i.w i.F,i.key.length+p.1.length<=10000
theorem It.Ok.updM{h':ad}(k:Upd M h h')(hm:∀b,M b->W b\/h.size<=b){i:It}(o:It.Ok W h i):It.Ok W h' i:=⟨o.1.updM k hm,o.2⟩
theorem TM(lab:c6)(w:Option dO)(a b:Fo):Ad (.cons lab w a b)=((w.map λv=>(([]:c6),v)).toList++Ad a).map (λp=>(lab++p.1,p.2))++Ad b:=rfl
abbrev ZR(x:Pr):c5:= [.agg #[.string x.1,.string x.2]]
theorem JG{fv:Value}(hg:Gives PG fv ZR N S Q h)(hN:N<=100000000)
  (hk:∀s' h' xs,S xs->OwnS dZ 2 35 (λb=>h.size<=b) h' s' xs->Upd No h h'->K s' h'):dS 304 [.slice none 0 0,fv] K h:=by
 refine mc ⟨none,0,0⟩ fv ?_;unfold gI bq nv yI lG nC V5;have k0:=fD No h [.slice none 0 0] 235;have b0:=bV h [.slice none 0 0] 235;have hsz:(hnew h [.slice none 0 0] 235).size=h.size+1:=dA ..;have U:=hg.upd k0 λ_ _=>id
 refine bF ?_;generalize hnew h [.slice none 0 0] 235=h1 at U k0 b0 hsz;refine⟨λlo hlo g=>?_⟩
 obtain⟨f,first,cap,rfl,I⟩:=U.run
 refine⟨f,first,cap,rfl,?_⟩
 have k1:Upd No h1 ((h1.push (.deferred (some []))).push (lo .ready none)):=(Upd.push No _ _).tr (Upd.push No _ _);have l2:((h1.push (.deferred (some []))).push (lo .ready none))[h1.size+1]? =some (lo .ready none):=by
  have:=mO (h1.push (.deferred (some []))) (lo .ready none);rwa [Array.size_push]at this
 have l1:((h1.push (.deferred (some []))).push (lo .ready none))[h1.size]? =some (.deferred (some [])):=(Upd.push No _ _).get0 (mO h1 _);refine I (.func (.yield (h1.size+1)) #[] #[]) (λpre A h'=>(∀b,A b->b<h'.size/\h.size<=b)/\A h.size/\A h1.size/\A (h1.size+1)/\h'[h1.size]? =some (.deferred (some []))/\h'[h1.size+1]? =some (lo .ready none)/\
   ∃s:f9,h'[h.size]? =some (.cells #[sv s] 235 (0,0))/\OwnS dZ 2 35 (λb=>A b/\h1.size+1<b) h' s pre/\pre.length<=N)
  (λb=>b=h.size\/b=h1.size\/b=h1.size+1) No _ _ ⟨λ_ _ _ V b hb=>(V.1 b hb).1,λpre A h' h'' B V u X=>?_,λpre A h' x K' V hlen hK=>?_⟩ ?_ k1 (λ_ _=>id) (λb hb hq=>?_) ?_
 .obtain⟨F,E,j,k,W,h6,s,h7,h8,h9⟩:=V
  exact⟨λb hb=>⟨aA (F b hb).1 u.size,(F b hb).2⟩,E,j,k,u.get W (X _ j),u.get h6 (X _ k),s,u.get h7 (X _ E),h8.upd u λb hb=>X b hb.1,h9⟩
 .obtain⟨m,e,i,a,hd,n,s,T,ho,hpl⟩:=V
  refine g x h' K' n ?_;refine yk (p:=x) λhp bp y=>?_
  have zp:=bw bp;have n:=y.get0 n;have T:=y.get0 T;have hd:=y.get0 hd;have hop:=ho.upd y λ_ _ h=>h
  have sp:=y.size;refine⟨n,?_⟩;have q:Upd (· =h1.size+1) hp (hp.setIfInBounds (h1.size+1) (lo .busy none)):=Upd.set _ _ rfl
  have lb:=dE (o:=lo .busy none) n;have sb:=q.size;refine bF ?_;generalize hp.setIfInBounds (h1.size+1) (lo .busy none)=E at q lb sb;have P:=(m _ e).1;have J:=(m _ a).1;have G:=q.get bp a4;have O:=q.get T a4;refine⟨s,by rw[cD,ba O];rfl,_,vc G 0,_,vc G 1,bF ?_⟩
  refine ua (p:=x) (M:=λb=>((A b/\b<h'.size)\/E.size<=b)/\h1.size+1<b) ((hop.upd q λb hb=>a4).more λb hb=>⟨.inl ⟨hb.1,(m b hb.1).1⟩,hb.2⟩) (λb hb=>⟨.inr hb,by have:=bw lb;omega⟩) a4 λs' j Z d=>?_
  have t:j[h.size]? =some (.cells #[sv s] 235 (0,0)):=d.get O a4;refine⟨by rw[cD];exact eH t a7,?_⟩;have w:Upd (· =h.size) j (hset j (aH h) (.slice s'.a s'.len s'.cap)):=Upd.hset _ _ rfl
  have R:(hset j (aH h) (.slice s'.a s'.len s'.cap))[h.size]? =some (.cells #[sv s'] 235 (0,0)):=by
   rw[cD,kH t,dE t];rfl
  refine bF ?_;generalize hset j (aH h) (.slice s'.a s'.len s'.cap)=k at w R;have D:k[h1.size+1]? =some (lo .busy none):=w.get (d.get lb a4) a4;refine⟨D,?_⟩;have c:Upd (· =h1.size+1) k (k.setIfInBounds (h1.size+1) (lo .ready none)):=Upd.set _ _ rfl
  have Y:=dE (o:=lo .ready none) D;have L:Upd A h' k:=((y.wide.tr (q.mono (M':=A) λb hb=>.inl (hb▸a))).trans d λb hb=>hb.1.imp (λh=>h.1) λh=>a4).trans w λb hb=>.inl (hb▸e)
  have z3:=d.size;have z4:=w.size;have z5:=c.size;refine hK _ (λb=>((A b/\b<h'.size)\/E.size<=b)/\b<k.size) ⟨λb hb=>⟨aA hb.2 z5,hb.1.elim (λh=>(m b h.1).2) λh=>a4⟩,⟨.inl ⟨e,P⟩,a4⟩,⟨.inl ⟨i,(m _ i).1⟩,by have:=(m _ i).1;omega⟩,⟨.inl ⟨a,J⟩,a4⟩,
   c.get (w.get (d.get (q.get hd a4) a4) a4) a4,Y,s',c.get R a4,?_,a9⟩ (L.trans c λb hb=>.inl (hb▸a)) λb hb=>hb.1.imp (λh=>h.1) λh=>a4
  exact(((Z.upd w λb hb=>a4).within).more λb hb=>⟨⟨hb.1.1,hb.2⟩,hb.1.2⟩).upd c λb hb=>a4
 .refine⟨λb hb=>?_,.inl rfl,.inr (.inl rfl),.inr (.inr rfl),l1,l2,⟨none,0,0⟩,k1.get0 b0,OwnS.nil fP,aK _⟩
  have:=bw l2;rcases hb with rfl|rfl|rfl<;>omega
 .have:=hg.lt b hq
  rcases hb with rfl|rfl|rfl<;>omega
 .rintro xs A' h' hS ⟨m,e,i,a,hd,n,s,T,ho,hpl⟩ u hA'
  refine⟨.ready,none,a8,n,?_⟩
  have c:Upd (· =h1.size+1) h' (h'.setIfInBounds (h1.size+1) (lo .exhausted none)):=Upd.set _ _ rfl
  show∃v:f9,aI (h'.setIfInBounds (h1.size+1) (lo .exhausted none)) (aH h)=some (.slice v.a v.len v.cap)/\_
  have C:=c.get hd (show ¬h1.size=h1.size+1 by omega)
  have z:=c.get T (show ¬h.size=h1.size+1 by omega)
  have H:=ho.upd c λb hb=>a4
  generalize h'.setIfInBounds (h1.size+1) (lo .exhausted none)=W at c C z H;refine⟨s,by rw[cD,ba z];rfl,C,?_⟩
  have k6:Upd (· =h1.size) W (W.setIfInBounds h1.size (.deferred none)):=Upd.set _ _ rfl
  refine hk s _ xs hS ((H.upd k6 λb hb=>a4).more λb hb=>(m b hb.1).2) ?_
  refine(((k0.tr k1).trans u λb hb=>?_).trans c λb hb=>.inr a4).trans k6 λb hb=>.inr a4
  rcases hb with rfl|rfl|rfl<;>(right;omega)
theorem O0{a:Value}(d:Gives PG a ZR N S Q h)(c:N<=100000000)
  (e:∀s' h' xs,S xs->OwnS dZ 2 35 (λb=>h.size<=b) h' s' xs->Upd No h h'->K s' h'):dS 293 [a] K h:=by
 refine cZ (m8 a) .nil Tryz.func293 Tryz.call293 ?_;unfold m8;exact JG d c e
end
structure WO{α:Type}(lt:α->α->Bool):Prop where
 irr:∀a,lt a a=false
 asy:∀a b,lt a b=true->lt b a=false
 ntr:∀a b c,lt a b=false->lt b c=false->lt a c=false
section
variable {α:Type} {lt:α->α->Bool}
def O1(lt:α->α->Bool)(x a:α):Bool:= !lt a x&& !lt x a
def Srt(lt:α->α->Bool)(l:List α):Prop:=l.Pairwise λa b=>lt b a=false
structure Eqf(lt:α->α->Bool)(l l':List α):Prop where
 len:l'.length=l.length
 flt:∀x,l'.filter (O1 lt x)=l.filter (O1 lt x)
structure St(lt:α->α->Bool)(l l':List α):Prop where
 eqf:Eqf lt l l'
 srt:Srt lt l'
theorem Eqf.rfl(l:List α):Eqf lt l l:=⟨_root_.rfl,λ_=>_root_.rfl⟩
theorem Eqf.tr{a b c:List α}(h:Eqf lt a b)(k:Eqf lt b c):Eqf lt a c:=⟨k.len.trans h.len,λx=>(k.flt x).trans (h.flt x)⟩
theorem Eqf.app{a b a' b':List α}(h:Eqf lt a a')(k:Eqf lt b b'):Eqf lt (a++b) (a'++b'):=
 ⟨by rw[ae,ae,h.len,k.len],λx=>by rw[ct,ct,h.flt,k.flt]⟩
theorem Ib(w:WO lt)(a:α):O1 lt a a=true:=by unfold O1;rw[w.irr];rfl
theorem Eqf.mem(w:WO lt){l l':List α}(h:Eqf lt l l'){a:α}:a∈l'↔a∈l:=by
 have e:=h.flt a;constructor
 .intro hm
  have:a∈l'.filter (O1 lt a):=bL.2 ⟨hm,Ib w a⟩;rw[e]at this;exact(bL.1 this).1
 .intro hm
  have:a∈l.filter (O1 lt a):=bL.2 ⟨hm,Ib w a⟩;rw[<-e]at this;exact(bL.1 this).1
theorem Yy(w:WO lt){x u v:α}(a:O1 lt x u=true)(hv:O1 lt x v=true):lt v u=false:=by
 unfold O1 at a hv;simp only[Bool.and_eq_true,Bool.not_eq_true']at a hv;exact w.ntr v x u hv.1 a.2
theorem Eqf.swap(w:WO lt){U V:List α}(h:∀u∈U,∀v∈V,lt v u=true):Eqf lt (U++V) (V++U):=by
 refine⟨by rw[ae,ae,Nat.add_comm],λx=>?_⟩
 rw[ct,ct];cases hU:U.filter (O1 lt x)with
 |nil=>rw[aX,cX]
 |cons u us=>
  cases hV:V.filter (O1 lt x)with
  |nil=>rw[aX,cX]
  |cons v vs=>
   have d:u∈U.filter (O1 lt x):=by rw[hU];exact al ..
   have hv:v∈V.filter (O1 lt x):=by rw[hV];exact al ..
   have a:=bL.1 d;have b:=bL.1 hv;have c:=h u a.1 v b.1;rw[Yy w a.2 b.2]at c;cases c
theorem Srt.app{a b:List α}(h:Srt lt a)(k:Srt lt b)(c:∀x∈a,∀y∈b,lt y x=false):Srt lt (a++b):=cC.2 ⟨h,k,c⟩
theorem Srt.left{a b:List α}(h:Srt lt (a++b)):Srt lt a:=(cC.1 h).1
theorem Srt.right{a b:List α}(h:Srt lt (a++b)):Srt lt b:=(cC.1 h).2.1
theorem Srt.cross{a b:List α}(h:Srt lt (a++b)):∀x∈a,∀y∈b,lt y x=false:=(cC.1 h).2.2
theorem Srt.nil:Srt lt ([]:List α):=cq
theorem Srt.one(a:α):Srt lt [a]:=cx ..
theorem Vj(w:WO lt){S L G:List α}{t:α}(h:St lt S (L++G))(d:∀l∈L,lt t l=false)(b:∀g∈G,lt t g=true):St lt (S++ [t]) (L++t::G):=by
 refine⟨(h.eqf.app (Eqf.rfl [t])).tr ?_,?_⟩
 .rw[ao]
  exact(Eqf.rfl L).app (Eqf.swap w (U:=G) (V:= [t]) λu e v hv=>by rw[av.1 hv];exact b u e)
 .refine h.srt.left.app (aC.2 ⟨λg c=>w.asy t g (b g c),h.srt.right⟩) λx hx y a=>?_
  rcases au.1 a with rfl|a
  .exact d x hx
  .exact h.srt.cross x hx y a
theorem L4(w:WO lt){V1 V2:List α}{u:α}(h:Srt lt (V1++V2))(b:∀v∈V1,lt v u=true)(c:∀v∈V2,lt v u=false):St lt ([u]++(V1++V2)) (V1++u::V2):=by
 refine⟨?_,?_⟩
 .rw[<-ao]
  have:=(Eqf.swap w (U:= [u]) (V:=V1) λx hx y a=>by rw[av.1 hx];exact b y a).app (Eqf.rfl V2)
  rw[ao V1]at this;exact this
 .refine h.left.app (aC.2 ⟨c,h.right⟩) λx hx y a=>?_
  rcases au.1 a with rfl|a
  .exact w.asy x y (b x hx)
  .exact h.cross x hx y a
theorem NM(w:WO lt){U1 U2:List α}{v:α}(h:Srt lt (U1++U2))(a:∀u∈U1,lt v u=false)(b:∀u∈U2,lt v u=true):St lt ((U1++U2)++ [v]) (U1++v::U2):=
 Vj w ⟨Eqf.rfl _,h⟩ a b
theorem Tp(w:WO lt){U1 U2 V1 V2 d R2:List α}(j:Srt lt (U1++U2))(k:Srt lt (V1++V2))(f:∀v∈V1,∀u∈U2,lt v u=true)(g:∀u∈U1,∀v∈V2,lt v u=false)(b:St lt (U1++V1) d)(c:St lt (U2++V2) R2):St lt ((U1++U2)++(V1++V2)) (d++R2):=by
 refine⟨?_,b.srt.app c.srt λx hx y a=>?_⟩
 .have e:Eqf lt ((U1++U2)++(V1++V2)) ((U1++V1)++(U2++V2)):=by
   have:=((Eqf.rfl U1).app (Eqf.swap w (U:=U2) (V:=V1) λu i v hv=>f v hv u i)).app (Eqf.rfl (lt:=lt) V2)
   simp only[ao]at this⊢;exact this
  exact e.tr (b.eqf.app c.eqf)
 .rcases aL.1 ((b.eqf.mem w).1 hx)with hx|hx<;>rcases aL.1 ((c.eqf.mem w).1 a)with a|a
  .exact j.cross x hx y a
  .exact g x hx y a
  .exact w.asy x y (f x hx y a)
  .exact k.cross x hx y a
inductive Runs(lt:α->α->Bool)(bs:Nat):List α->Prop where
 |last (l:List α):l.length<=bs->Srt lt l->Runs lt bs l
 |more (b l:List α):b.length=bs->Srt lt b->Runs lt bs l->Runs lt bs (b++l)
theorem Runs.split{a:Nat}{l:List α}(h:Runs lt a l)(c:a<=l.length):∃b r,l=b++r/\b.length=a/\Srt lt b/\Runs lt a r:=by
 cases h with
 |last _ h1 h2=>exact⟨l,[],(aX l).symm,a4,h2,.last _ (aK _) Srt.nil⟩
 |more b r h1 h2 h3=>exact⟨b,r,_root_.rfl,h1,h2,h3⟩
theorem Runs.short{a:Nat}{l:List α}(h:Runs lt a l)(c:l.length<=a):Srt lt l:=by
 cases h with
 |last _ h1 h2=>exact h2
 |more b r h1 h2 h3=>
  rw[ae]at c;have:r= []:=aJ.1 a4;rw[this,aX];exact h2
def Full(lt:α->α->Bool)(a:Nat)(d:List α):Prop:=∀z,Runs lt a z->Runs lt a (d++z)
theorem Full.nil{a:Nat}:Full lt a ([]:List α):=λ_ h=>h
theorem Full.app{a:Nat}{d b:List α}(h:Full lt a d)(hb:b.length=a)(c:Srt lt b):Full lt a (d++b):=λz e=>by
 rw[ao];exact h _ (.more b z hb c e)
end
section
open Go.Lift
variable {i k j:Nat}
section
variable {α:Type} {f:α->c5} {sz:Nat} {t:TypeId} {M:eh} {h:ad} {s:f9} {P Q:List α} {x:α}
theorem mq(b:OwnS f sz t M h s (P++x::Q))(hi:i=P.length):∃a,s.a=some a/\∀j v,(f x)[j]? =some v->aI h (adr (adr a (i*sz)) j)=some v:=by
 obtain⟨a,c,_,hv⟩:=(b.sl (W:=No) λ_ _ _ h=>h).at (i:=i) (x:=x) (by rw[hi,bB (aj _),iQ];rfl)
 exact⟨a,c,hv⟩
theorem wh(j:OwnS f sz t M h s (P++x::Q))(y:α){a:Addr}(e:s.a=some a)(hi:i=P.length){G:eu}(g:∀h',OwnS f sz t M h' s (P++y::Q)->Upd M h h'->G h'):
  qR h (some (adr a (i*sz))) 0 (f y)/\At (fu h (adr a (i*sz)) 0 (f y)) G:=by
 obtain⟨a',c,hM,m,d,n⟩:=OwnS.setAt j (k:=i) (by rw[hi,ae,ar];omega) y;rw[e]at c;cases c;refine⟨m,bF (g _ ?_ (n.mono λb hb=>.inl (by have hb:b=a.block:=hb;rw[hb];exact hM)))⟩
 subst hi;have p:(P++x::Q).take P.length=P:=hJ;have o:(P++x::Q).drop (P.length+1)=Q:=by rw[<-List.drop_drop,List.drop_left];rfl
 rw[p,o]at d;exact d
end
theorem zQ{α:Type}{f:α->c5}{sz:Nat}{t:TypeId}{M:eh}{h:ad}{s:f9}{xs:List α}{x:α}(b:OwnS f sz t M h s xs)(hi:xs[i]? =some x):∃a,s.a=some a/\∀j v,(f x)[j]? =some v->aI h (adr (adr a (i*sz)) j)=some v:=by
 obtain⟨a,c,_,hv⟩:=(b.sl (W:=No) λ_ _ _ h=>h).at hi
 exact⟨a,c,hv⟩
theorem Wc{α:Type}{A U X:List α}(hi:A.length+U.length<=i):(A++(U++X))[i]? =X[i-A.length-U.length]?:=by
 rw[bB a4,bB a4]
theorem Wd{α:Type}{A U V B:List α}{x:α}(hi:A.length+U.length+k=i)(a:V[k]? =some x):(A++(U++(V++B)))[i]? =some x:=by
 rw[Wc a4,show i-A.length-U.length=k by omega,bR (bH.1 a).1];exact a
theorem SP{α:Type}{A U X:List α}{x:α}(hi:A.length+k=i)(a:U[k]? =some x):(A++(U++X))[i]? =some x:=by
 rw[bB a4,show i-A.length=k by omega,bR (bH.1 a).1];exact a
theorem Gz(h:i+j<=4000000000):ac .i64 (Int.fdiv (ac .u64 (ac .i64 ((i:Int)+(j:Int)))) (2^(min (1:Int).toNat (ak .u64))))=(((i+j)/2:Nat):Int):=by
 have a:(2^(min (1:Int).toNat (ak .u64)):Int)=2:=rfl;rw[a,dw (x:=(i:Int)+(j:Int)) a4,Go.IntWalk.u64_in _ a4,Int.fdiv_eq_ediv_of_nonneg _ a4,dw a4];omega
theorem rM{α:Type}{lt:α->α->Bool}(w:WO lt){l:List α}(h:Srt lt l)(b:i<=j){x y:α}(hx:l[i]? =some x) (c:l[j]? =some y):lt y x=false:=by
 obtain⟨hi,rfl⟩:=bH.1 hx;obtain⟨d,rfl⟩:=bH.1 c;rcases Nat.lt_or_ge i j with a|a
 .exact List.pairwise_iff_getElem.1 h i j hi d a
 .have:i=j:=by omega
  subst this;exact w.irr _
theorem MM{α:Type}(l:List α):l= []\/∃l' y,l=l'++ [y]:=by
 rcases List.eq_nil_or_concat l with h|⟨l',y,h⟩
 .exact .inl h
 .exact .inr ⟨l',y,by rw[h,List.concat_eq_append]⟩
structure Cmp{α:Type}(lt:α->α->Bool)(f:α->c5)(M:eh)(Iv:eu)(V:Value):Prop where
 call:∀(a b:α) {h:ad} {K:Int->eu},Iv h->(∀h' e,Upd No h h'->decide (e<0)=lt a b->K e h')->HV PG V [.agg (f a).toArray,.agg (f b).toArray] [.c (.int .i64)] K h
 step:∀{h h':ad},Upd M h h'->Iv h->Iv h'
end
section
open Go.Lift
variable {M:eh}{h:ad}{s:f9}{A U V B:List (Pr)}{a b:Nat}{K:Unit->eu}{lt:Pr->Pr->Bool}{Iv:eu}
theorem wd{C:List (Pr)}(E:OwnS dZ 2 35 M h s (A++(U++(C++(V++B)))))(hn:s.len<=1000000000)(e:U.length=V.length)(f:a=A.length)(hb:b=A.length+U.length+C.length){n:Nat}(x:n=U.length){o:Value}
  (L:∀h',OwnS dZ 2 35 M h' s (A++(V++(C++(U++B))))->Upd M h h'->K () h'):dx 315 [.slice s.a s.len s.cap,.int .i64 a,.int .i64 b,.int .i64 n,o] K h:=by
 subst f hb x;refine oy s A.length (A.length+U.length+C.length:Nat) U.length o ?_;dsimp only[iU,lG,Pe,cB,jz,fE,Is,FL];have d:=E.len;simp only[ae]at d;refine eF (λ(g:(List (Pr)×List (Pr))×List (Pr)×List (Pr)) (t:Int) h'=>t=(g.1.1.length:Int)/\U=g.1.1++g.1.2/\V=g.2.1++g.2.2/\g.1.1.length=g.2.1.length/\OwnS dZ 2 35 M h' s (A++(g.2.1++(g.1.2++(C++(g.1.1++(g.2.2++B))))))/\Upd M h h') (λg=>g.1.2.length) (([],U),[],V)
  ⟨rfl,rfl,rfl,rfl,E,eQ _ _⟩ ?_
 rintro I ⟨⟨U1,U2⟩,V1,V2⟩ t h' ⟨Q,P,N,D,c,J⟩ Y;(try simp only at Q P N D c)
 subst Q P N;simp only[ae]at e d;refine aq (λq=>?_) λz=>?_
 .simp only[ae]at q
  match U2,V2 with
  | [],_=>simp only[bC]at q;omega
  |_::_,[]=>simp only[bC,ar]at e;omega
  |u::U2,v::V2=>
   simp only[ar]at e d;simp only[ae,ar];have y:ac .i64 (((A.length+(U1.length+(U2.length+1))+C.length:Nat):Int)+(U1.length:Int))=((A.length+(U1.length+(U2.length+1))+C.length+U1.length:Nat):Int):=by rw[dw a4];omega
   have w:ac .i64 ((A.length:Int)+(U1.length:Int))=((A.length+U1.length:Nat):Int):=by rw[dw a4];omega
   rw[y,w];have f1:A++(V1++((u::U2)++(C++(U1++((v::V2)++B)))))=(A++V1)++u::(U2++(C++(U1++(v::V2++B)))):=a7
   have X:(A++V1)++u::(U2++(C++(U1++(v::V2++B))))=((A++V1)++u::(U2++(C++U1)))++v::(V2++B):=a7
   have S:(A++V1)++v::(U2++(C++(U1++(v::V2++B))))=((A++V1)++v::(U2++(C++U1)))++v::(V2++B):=a7
   have R:((A++V1)++v::(U2++(C++U1)))++u::(V2++B)=A++((V1++ [v])++(U2++(C++((U1++ [u])++(V2++B))))):=a7
   rw[f1]at c;obtain⟨a,f,m⟩:=mq c (i:=A.length+U1.length) (by rw[ae];omega);have j:=c;rw[X]at j;obtain⟨a',p,k⟩:=mq j (i:=A.length+(U1.length+(U2.length+1))+C.length+U1.length) (by simp only[ae,ar];omega);rw[f]at p;cases p;refine⟨⟨a4,a4⟩,a,f,v.1,k 0 _ rfl,v.2,k 1 _ rfl,⟨a4,a4⟩,a,f,u.1,m 0 _ rfl,u.2,m 1 _ rfl,⟨a4,a4⟩,a,f,?_⟩
   refine wh c v f (by rw[ae];omega) λF H W=>⟨⟨a4,a4⟩,a,f,?_⟩
   rw[S]at H;refine wh H u f bb λZ G T=>?_
   rw[R]at G;rw[mI (n:=U1.length+(U2.length+1)) a4 a4];exact Y ((U1++ [u],U2),V1++ [v],V2) _ _ ⟨a7,a7,a7,by simp[D],G,(J.trans W λb hb=>.inl hb).trans T λb hb=>.inl hb⟩ a7
 .simp only[ae]at z
  have O:U2= []:=aJ.1 a4;have F:V2= []:=aJ.1 (by rw[O,bC]at e;omega);subst O F;simp only[aX,cX]at c L;exact L h' c J
theorem Qb(O:OwnS dZ 2 35 M h s (A++(U++(V++B))))(H:s.len<=1000000000)(Y:0<U.length)(R:0<V.length){m:Nat}(W:a=A.length)(hm:m=A.length+U.length)(hb:b=A.length+U.length+V.length){u:Value}
  (X:∀h',OwnS dZ 2 35 M h' s (A++(V++(U++B)))->Upd M h h'->K () h'):dx 314 [.slice s.a s.len s.cap,.int .i64 a,.int .i64 m,.int .i64 b,u] K h:=by
 subst W hm hb;refine cZ (jY s A.length (A.length+U.length:Nat) (A.length+U.length+V.length:Nat) u) pT Tryz.func314 Tryz.call314 ?_;unfold jY;have y:=O.len;simp only[ae]at y;have C:ac .i64 (((A.length+U.length:Nat):Int)-(A.length:Int))=(U.length:Int):=by rw[dw a4];omega
 have z:ac .i64 (((A.length+U.length+V.length:Nat):Int)-((A.length+U.length:Nat):Int))=(V.length:Int):=by rw[dw a4];omega
 rw[C,z];refine eF (λ(g:(List (Pr)×List (Pr))×List (Pr)×List (Pr)) (t:Int×Int) h'=>t.1=(g.1.2.length:Int)/\t.2=(g.2.1.length:Int)/\0<g.1.2.length/\0<g.2.1.length/\A.length+U.length=g.1.1.length+g.1.2.length/\g.1.1++(g.2.1++(g.1.2++g.2.2))=A++(V++(U++B))/\OwnS dZ 2 35 M h' s (g.1.1++(g.1.2++(g.2.1++g.2.2)))/\Upd M h h') (λg=>g.1.2.length+g.2.1.length) ((A,U),V,B)
  ⟨rfl,rfl,Y,R,rfl,rfl,O,eQ _ _⟩ ?_
 rintro I ⟨⟨A',U'⟩,V',f⟩ ⟨Z,tj⟩ h' ⟨C,z,F,N,k,e,c,G⟩ P;simp only at C z F N k e c;subst C z;have d:=c.len;simp only[ae]at d;have D:((A.length+U.length:Nat):Int)=((A'.length+U'.length:Nat):Int):=a4
 rw[D];have Q:ac .i64 (((A'.length+U'.length:Nat):Int)-(U'.length:Int))=(A'.length:Int):=by rw[dw a4];omega
 simp only;rw[Q];refine ez (λi=>?_) λq=>?_
 .have i:(U'.length:Int)≠(V'.length:Int):=by simpa using i
  refine aq (λw=>?_) λS=>?_
  .
   have w:V'.length<U'.length:=a4
   obtain⟨U1,U2,rfl,j⟩:∃U1 U2,U'=U1++U2/\U1.length=V'.length:=⟨U'.take V'.length,U'.drop V'.length,(bK ..).symm,by rw[aY];omega⟩
   simp only[ae]at w d k i Q;have f1:A'++((U1++U2)++(V'++f))=A'++(U1++(U2++(V'++f))):=a7
   have T:A'++(V'++(U2++(U1++f)))=(A'++V')++(U2++(U1++f)):=a7
   rw[f1]at c;refine wd c H j rfl (b:=A'.length+(U1++U2).length) (by simp only[ae];omega) (n:=V'.length) j.symm λE p v=>?_
   rw[T]at p;have o:ac .i64 (((U1++U2).length:Int)-(V'.length:Int))=(U2.length:Int):=by rw[ae,dw a4];omega
   rw[o];refine P ((A'++V',U2),U1,f) _ _ ⟨rfl,cd,cd,cd,by simp only[ae];omega,?_,p,G.trans v λb hb=>.inl hb⟩ (by simp only[ae];omega)
   rw[<-e];simp
  .have L:U'.length<V'.length:=by omega
   obtain⟨V1,V2,rfl,j⟩:∃V1 V2,V'=V1++V2/\V2.length=U'.length:=⟨V'.take (V'.length-U'.length),V'.drop (V'.length-U'.length),(bK ..).symm,by rw[bo];omega⟩
   simp only[ae]at L d i;have o:ac .i64 ((ac .i64 (((A'.length+U'.length:Nat):Int)+((V1++V2).length:Int)))-(U'.length:Int))=((A'.length+U'.length+V1.length:Nat):Int):=by
    rw[ae,dw (x:=((A'.length+U'.length:Nat):Int)+((V1.length+V2.length:Nat):Int)) a4,dw a4];omega
   rw[o];have f1:A'++(U'++((V1++V2)++f))=A'++(U'++(V1++(V2++f))):=a7
   rw[f1]at c;refine wd c H j.symm rfl rfl rfl λE p v=>?_
   have J:ac .i64 (((V1++V2).length:Int)-(U'.length:Int))=(V1.length:Int):=by rw[ae,dw a4];omega
   rw[J];refine P ((A',V2),V1,U'++f) _ _ ⟨cd,rfl,cd,cd,cd,?_,p,G.trans v λb hb=>.inl hb⟩ (by simp only[ae];omega)
   rw[<-e];simp
 .have q:(U'.length:Int)=(V'.length:Int):=by simpa using q
  have f1:A'++(U'++(V'++f))=A'++(U'++([]++(V'++f))):=a7
  rw[f1]at c;refine wd c H a4 rfl (b:=A'.length+U'.length) a7 rfl λE p v=>?_
  rw[cX,e]at p;exact X E p (G.trans v λb hb=>.inl hb)
theorem E4(w:WO lt){v:Value}(hc:Cmp lt dZ M Iv v){S:List (Pr)}(ho:OwnS dZ 2 35 M h s (A++(S++B)))(hi:Iv h)(hn:s.len<=1000000000)(c:a=A.length)(hb:b=A.length+S.length)
  (hk:∀h' R,OwnS dZ 2 35 M h' s (A++(R++B))->St lt S R->Upd M h h'->K () h'):dx 312 [.slice s.a s.len s.cap,.int .i64 a,.int .i64 b,v] K h:=by
 subst c hb;refine cZ (gS s A.length (A.length+S.length:Nat) v) mD Tryz.func312 Tryz.call312 ?_;dsimp only[gS,qf,tQ,DE,cP,jz,fE,Pe,cB,Xf,lG,Is,FL];have d:=ho.len;simp only[ae]at d;have ea:ac .i64 ((A.length:Int)+1)=((A.length+1:Nat):Int):=by rw[dw a4];omega
 rw[ea];refine eF (λ(g:List (Pr)×List (Pr)×List (Pr)) (t:Int) h'=>t=((A.length+max 1 g.1.length:Nat):Int)/\S=g.1++g.2.2/\(g.1= []->g.2.2= [])/\St lt g.1 g.2.1/\OwnS dZ 2 35 M h' s (A++(g.2.1++(g.2.2++B)))/\Upd M h h') (λg=>g.2.2.length) (S.take 1,S.take 1,S.drop 1)
  ⟨?_,(bK ..).symm,λe=>?_,⟨Eqf.rfl _,?_⟩,by rw[<-ao (S.take 1),bK];exact ho,eQ _ _⟩ ?_
 .simp only[aY];omega
 .have:=congrArg List.length e
  simp only[aY,bC]at this;exact aJ.1 (by simp only[bo];omega)
 .match S with
  | []=>exact Srt.nil
  |x::S=>exact Srt.one x
 rintro I ⟨S1,U,T⟩ t h' ⟨P,O,k,f,u,hu⟩ hI;(try simp only at P O k f u)
 subst P O;simp only[ae]at d;have W:=f.eqf.len;refine aq (λD=>?_) λhge=>?_
 .simp only[ae]at D
  have V:S1≠[]:=λe=>by
   have:=k e;subst e;subst this;simp only[bC]at D;omega
  have hS1l:0<S1.length:=List.length_pos_iff.2 V;match T with
  | []=>simp only[bC]at D;omega
  |x::T=>
   have H:A.length+max 1 S1.length=A.length+S1.length:=a4
   rw[H];refine eF (λ(g:List (Pr)×List (Pr)) (t:Int) Z=>t=((A.length+g.1.length:Nat):Int)/\U=g.1++g.2/\(∀y∈g.2,lt x y=true)/\OwnS dZ 2 35 M Z s (A++(g.1++(x::(g.2++(T++B)))))/\Upd M h Z) (λg=>g.1.length) (U,[])
    ⟨by(try simp only);omega,a7,λy n=>(by cases n),by simpa using u,hu⟩ ?_
   rintro I2 ⟨L,G⟩ t2 Z ⟨P,O,hG,m,C⟩ hI2;(try simp only at P O hG m)
   subst P O;simp only[ae]at W;simp only[ar]at d;refine eM (λt h3=>Upd M h h3/\OwnS dZ 2 35 M h3 s (A++(L++(x::(G++(T++B)))))/\(t=true->∃L' y,L=L'++ [y]/\lt x y=true)/\(t=false->∀y∈L,lt x y=false)) (λRj F=>?_) ?_
   .refine aq (λX=>?_) λhle=>?_
    .rcases MM L with rfl|⟨L',y,rfl⟩
     .simp only[bC]at X;omega
     have o:(L'++ [y]).length=L'.length+1:=a7
     have J:ac .i64 (((A.length+(L'++ [y]).length:Nat):Int)-1)=((A.length+L'.length:Nat):Int):=by rw[o,dw a4];omega
     rw[J];have f1:A++((L'++ [y])++(x::(G++(T++B))))=(A++L')++y::(x::(G++(T++B))):=a7
     have Y:A++((L'++ [y])++(x::(G++(T++B))))=(A++(L'++ [y]))++x::(G++(T++B)):=a7
     have o3:=m;have E:=m;rw[f1]at o3;rw[Y]at E;obtain⟨a,c,n⟩:=mq o3 (i:=A.length+L'.length) bb
     obtain⟨a',j,hx⟩:=mq E (i:=A.length+(L'++ [y]).length) bb
     rw[c]at j;cases j;refine⟨⟨a4,a4⟩,a,c,x.1,hx 0 _ rfl,x.2,hx 1 _ rfl,⟨a4,a4⟩,a,c,y.1,n 0 _ rfl,y.2,n 1 _ rfl,?_⟩
     refine hc.call x y (hc.step C hi) λh5 e Q he=>?_
     rw[he];have ho5:=m.upd Q λ_ _ h=>h
     refine F _ _ ⟨C.tr Q.wide,ho5,λh=>⟨L',y,rfl,h⟩,λh z q=>?_⟩
     have hs:=f.srt.left;rcases aL.1 q with q|q
     .exact w.ntr x y z h (hs.cross z q y (av.2 rfl))
     .rw[av.1 q];exact h
    .have hL:L= []:=aJ.1 a4
     exact F _ _ ⟨C,m,λh=>(by cases h),λ_ y n=>(by rw[hL]at n;cases n)⟩
   .rintro t3 h3 ⟨N,p,ht,hf⟩
    cases t3 with
    |true=>
     obtain⟨L',y,rfl,hxy⟩:=ht rfl;have o:(L'++ [y]).length=L'.length+1:=a7
     refine aw.2 ?_;have J:ac .i64 (((A.length+(L'++ [y]).length:Nat):Int)-1)=((A.length+L'.length:Nat):Int):=by rw[o,dw a4];omega
     rw[J];have f1:A++((L'++ [y])++(x::(G++(T++B))))=(A++L')++y::(x::(G++(T++B))):=a7
     have Y:(A++L')++y::(x::(G++(T++B)))=(A++(L'++ [y]))++x::(G++(T++B)):=a7
     have f3:(A++(L'++ [y]))++y::(G++(T++B))=(A++L')++y::(y::(G++(T++B))):=a7
     have f4:(A++L')++x::(y::(G++(T++B)))=A++(L'++(x::((y::G)++(T++B)))):=a7
     rw[f1]at p;have E:=p;rw[Y]at E;obtain⟨a,c,n⟩:=mq p (i:=A.length+L'.length) bb
     obtain⟨a',j,hx⟩:=mq E (i:=A.length+(L'++ [y]).length) bb
     rw[c]at j;cases j;refine⟨⟨a4,a4⟩,a,c,y.1,n 0 _ rfl,y.2,n 1 _ rfl,⟨a4,a4⟩,a,c,x.1,hx 0 _ rfl,x.2,hx 1 _ rfl,⟨a4,a4⟩,a,c,?_⟩
     refine wh E y c bb λh5 o5 Q=>⟨⟨a4,a4⟩,a,c,?_⟩
     rw[f3]at o5;refine wh o5 x c bb λh6 o6 k6=>?_
     rw[f4]at o6;refine hI2 (L',y::G) _ _ ⟨rfl,a7,λz q=>?_,o6,(N.trans Q λb hb=>.inl hb).trans k6 λb hb=>.inl hb⟩ (by simp only[o];omega)
     rcases au.1 q with rfl|q
     .exact hxy
     .exact hG z q
    |false=>
     refine ag.2 ?_;have J:ac .i64 (((A.length+S1.length:Nat):Int)+1)=((A.length+max 1 (S1.length+1):Nat):Int):=by rw[dw a4];omega
     rw[J];refine hI (S1++ [x],L++x::G,T) _ _ ⟨a7,a7,λe=>(by simp at e),Vj w f (hf rfl) hG,?_,N⟩ a7
     have f1:A++((L++x::G)++(T++B))=A++(L++(x::(G++(T++B)))):=a7
     rw[f1];exact p
 .simp only[ae]at hge
  have hT:T= []:=by
   rcases dQ S1.length with h0|h0
   .exact k (aJ.1 h0)
   .exact aJ.1 a4
  subst hT;rw[cX]at u;rw[aX]at hk;exact hk h' U u f hu
theorem Ca(w:WO lt){cmp:Value}(hc:Cmp lt dZ M Iv cmp)(hn:s.len<=1000000000):∀(n:Nat) {h:ad} {A U V B:List (Pr)},U.length+V.length<=n->OwnS dZ 2 35 M h s (A++(U++(V++B)))->Iv h->0<U.length->0<V.length->Srt lt U->Srt lt V->∀{a m b:Nat},a=A.length->m=A.length+U.length->b=A.length+U.length+V.length->∀{K:Unit->eu},
  (∀h' R,OwnS dZ 2 35 M h' s (A++(R++B))->St lt (U++V) R->Upd M h h'->K () h')->dx 313 [.slice s.a s.len s.cap,.int .i64 a,.int .i64 m,.int .i64 b,cmp] K h:=by
 intro n;induction n with
 |zero=>intro h A U V B hl _ _ hU;omega
 |succ n ih=>
  intro h A U V B hl ho hi hU hV sU sV a m b ha hm hb K hk;refine cZ (jn s a m b cmp) pa Tryz.func313 Tryz.call313 ?_;dsimp only[jn,qf,tQ,DE,cP,jz,fE,Pe,cB,Nf,Xf,lG,Is,FL];have z:=ho.len;simp only[ae]at z;have e1:ac .i64 ((m:Int)-(a:Int))=(U.length:Int):=by rw[dw a4];omega
  have e2:ac .i64 ((b:Int)-(m:Int))=(V.length:Int):=by rw[dw a4];omega
  rw[e1,e2];refine ez (λF=>?_) λhmore=>?_
  .have F:U.length=1:=by have:=eq_of_beq F;omega
   match U,F with
   | [u],_=>
   simp only[aP]at z hm hb;refine eF (λ(g:Nat×Nat) (t:Int×Int) h'=>t.1=(g.1:Int)/\t.2=(g.2:Int)/\m<=g.1/\g.1<=g.2/\g.2<=b/\(∀q x,V[q]? =some x->m+q<g.1->lt x u=true)/\(∀q x,V[q]? =some x->g.2<=m+q->lt x u=false)/\OwnS dZ 2 35 M h' s (A++([u]++(V++B)))/\Upd M h h') (λg=>g.2-g.1) (m,b)
    ⟨rfl,rfl,aj _,by(try simp only);omega,aj _,λq x D h=>(by(try simp only at h);omega),λq x D h=>(by have:=(bH.1 D).1;(try simp only at h);omega),ho,eQ _ _⟩ ?_
   rintro I ⟨i,j⟩ ⟨ti,tj⟩ h' ⟨e1,e2,hmi,L,hjb,J,E,G,hu⟩ hI;(try simp only at e1 e2 hmi L hjb J E)
   subst e1 e2;refine aq (λN=>?_) λhge=>?_
   .have N:i<j:=by have:(i:Int)<(j:Int):=N;omega
    refine⟨a8,?_⟩;simp only[Bd];rw[Gz a4];have Y:(i+j)/2-m<V.length:=a4
    have hk0:(i+j)/2=A.length+1+((i+j)/2-m):=a4
    obtain⟨T,f,hx⟩:=zQ G (i:=(i+j)/2) (x:=V[(i+j)/2-m]) (Wd (U:= [u]) (k:=(i+j)/2-m) (by simp only[aP];omega) (af Y));obtain⟨a2,C,hy⟩:=mq (P:=A) (x:=u) (Q:=V++B) G ha;rw[f]at C;cases C;have hVk:V[(i+j)/2-m]? =some V[(i+j)/2-m]:=af Y;generalize V[(i+j)/2-m]=x at hx hVk;refine⟨⟨a4,a4⟩,T,f,x.1,hx 0 _ rfl,x.2,hx 1 _ rfl,⟨a4,a4⟩,T,f,u.1,hy 0 _ rfl,u.2,hy 1 _ rfl,?_⟩
    refine hc.call x u (hc.step hu hi) λS e k5 he=>?_
    rw[he];have ho5:=G.upd k5 λ_ _ h=>h
    have W:=hu.tr k5.wide;cases hxu:lt x u with
    |true=>
     refine aw.2 ?_;have ew:ac .i64 ((((i+j)/2:Nat):Int)+1)=(((i+j)/2+1:Nat):Int):=by rw[dw a4];omega
     rw[ew];refine hI ((i+j)/2+1,j) _ _ ⟨rfl,rfl,by(try simp only);omega,by(try simp only);omega,hjb,λq y D hqi=>?_,E,ho5,W⟩ (by(try simp only);omega)
     have hle:=rM w sV (i:=q) (j:=(i+j)/2-m) (by(try simp only at hqi);omega) D hVk;cases hyu:lt y u with
     |true=>rfl
     |false=>rw[w.ntr _ _ _ hle hyu]at hxu;cases hxu
    |false=>
     refine ag.2 ?_;refine hI (i,(i+j)/2) _ _ ⟨rfl,rfl,hmi,by(try simp only);omega,by(try simp only);omega,J,λq y D hqi=>?_,ho5,W⟩ (by(try simp only);omega)
     have hle:=rM w sV (i:=(i+j)/2-m) (j:=q) (by(try simp only at hqi);omega) hVk D;exact w.ntr _ _ _ hle hxu
   .have L:i=j:=by have:¬(i:Int)<(j:Int):=hge;omega
    subst L;obtain⟨V1,V2,rfl,hV1⟩:∃V1 V2,V=V1++V2/\V1.length=i-m:=⟨V.take (i-m),V.drop (i-m),(bK ..).symm,by rw[aY];omega⟩
    simp only[ae]at z hb;have lo1:∀x∈V1,lt x u=true:=λx hx=>by
     obtain⟨q,D,e⟩:=bJ hx;exact J q x (by rw[bR D,af D,e]) a4
    have hi1:∀x∈V2,lt x u=false:=λx hx=>by
     obtain⟨q,D,e⟩:=bJ hx;exact E (V1.length+q) x (by rw[bB a4,eo,af D,e]) a4
    have hst:=L4 w sV lo1 hi1;have f0:A++([u]++((V1++V2)++B))=A++([]++(u::(V1++(V2++B)))):=a7
    rw[f0]at G;have ew:ac .i64 ((i:Int)-1)=((A.length+V1.length:Nat):Int):=by rw[dw a4];omega
    rw[ew];refine eF (λ(g:List (Pr)×List (Pr)) (t:Int) H=>t=((A.length+g.1.length:Nat):Int)/\V1=g.1++g.2/\OwnS dZ 2 35 M H s (A++(g.1++(u::(g.2++(V2++B)))))/\Upd M h H) (λg=>g.2.length) ([],V1)
     ⟨by simp[ha],rfl,G,hu⟩ ?_
    rintro I2 ⟨G1,G2⟩ t2 H ⟨e1,e2,o,O⟩ hI2;(try simp only at e1 e2 o)
    subst e1 e2;simp only[ae]at z hb ew⊢;refine aq (λN=>?_) λhge=>?_
    .match G2 with
     | []=>simp only[bC]at N;omega
     |g::G2=>
      simp only[ar]at z;have ew1:ac .i64 (((A.length+G1.length:Nat):Int)+1)=((A.length+G1.length+1:Nat):Int):=by rw[dw a4];omega
      rw[ew1];have f1:A++(G1++(u::((g::G2)++(V2++B))))=(A++G1)++u::(g::(G2++(V2++B))):=a7
      have f2:(A++G1)++u::(g::(G2++(V2++B)))=(A++(G1++ [u]))++g::(G2++(V2++B)):=a7
      have f3:(A++G1)++g::(g::(G2++(V2++B)))=(A++(G1++ [g]))++g::(G2++(V2++B)):=a7
      have f4:(A++(G1++ [g]))++u::(G2++(V2++B))=A++((G1++ [g])++(u::(G2++(V2++B)))):=a7
      rw[f1]at o;have o3:=o;rw[f2]at o3;obtain⟨T,f,hy⟩:=mq o3 (i:=A.length+G1.length+1) bb
      obtain⟨a2,C,hx⟩:=mq o (i:=A.length+G1.length) bb
      rw[f]at C;cases C;refine⟨⟨a4,a4⟩,T,f,g.1,hy 0 _ rfl,g.2,hy 1 _ rfl,⟨a4,a4⟩,T,f,u.1,hx 0 _ rfl,u.2,hx 1 _ rfl,⟨a4,a4⟩,T,f,?_⟩
      refine wh o g f bb λS o5 k5=>⟨⟨a4,a4⟩,T,f,?_⟩
      rw[f3]at o5;refine wh o5 u f bb λh6 o6 k6=>?_
      rw[f4]at o6;exact hI2 (G1++ [g],G2) _ _ ⟨a9,a7,o6,(O.trans k5 λb hb=>.inl hb).trans k6 λb hb=>.inl hb⟩ a7
    .have hG:G2= []:=aJ.1 a4
     subst hG;simp only[aX,cX]at o hst hk;refine hk H (G1++u::V2) ?_ hst O;have f1:A++((G1++u::V2)++B)=A++(G1++(u::(V2++B))):=a7
     rw[f1];exact o
  refine ez (λF=>?_) λhmore2=>?_
  .have F:V.length=1:=by have:=eq_of_beq F;omega
   match V,F with
   | [v],_=>
   simp only[aP]at z hb;refine eF (λ(g:Nat×Nat) (t:Int×Int) h'=>t.1=(g.1:Int)/\t.2=(g.2:Int)/\a<=g.1/\g.1<=g.2/\g.2<=m/\(∀q x,U[q]? =some x->a+q<g.1->lt v x=false)/\(∀q x,U[q]? =some x->g.2<=a+q->lt v x=true)/\OwnS dZ 2 35 M h' s (A++(U++([v]++B)))/\Upd M h h') (λg=>g.2-g.1) (a,m)
    ⟨rfl,rfl,aj _,by(try simp only);omega,aj _,λq x D h=>(by(try simp only at h);omega),λq x D h=>(by have:=(bH.1 D).1;(try simp only at h);omega),ho,eQ _ _⟩ ?_
   rintro I ⟨i,j⟩ ⟨ti,tj⟩ h' ⟨e1,e2,hmi,L,hjb,J,E,G,hu⟩ hI;(try simp only at e1 e2 hmi L hjb J E)
   subst e1 e2;refine aq (λN=>?_) λhge=>?_
   .have N:i<j:=by have:(i:Int)<(j:Int):=N;omega
    refine⟨a8,?_⟩;simp only[Bd];rw[Gz a4];have Y:(i+j)/2-a<U.length:=a4
    obtain⟨T,f,hx⟩:=zQ G (i:=(i+j)/2) (x:=U[(i+j)/2-a]) (SP (k:=(i+j)/2-a) a4 (af Y));have f1:A++(U++([v]++B))=(A++U)++v::B:=a7
    have o3:=G;rw[f1]at o3;obtain⟨a2,C,hy⟩:=mq o3 (i:=m) bb
    rw[f]at C;cases C;have hVk:U[(i+j)/2-a]? =some U[(i+j)/2-a]:=af Y;generalize U[(i+j)/2-a]=x at hx hVk;refine⟨⟨a4,a4⟩,T,f,v.1,hy 0 _ rfl,v.2,hy 1 _ rfl,⟨a4,a4⟩,T,f,x.1,hx 0 _ rfl,x.2,hx 1 _ rfl,?_⟩
    refine hc.call v x (hc.step hu hi) λS e k5 he=>?_
    rw[he];have ho5:=G.upd k5 λ_ _ h=>h
    have W:=hu.tr k5.wide;cases hxu:lt v x with
    |false=>
     refine aw.2 ?_;have ew:ac .i64 ((((i+j)/2:Nat):Int)+1)=(((i+j)/2+1:Nat):Int):=by rw[dw a4];omega
     rw[ew];refine hI ((i+j)/2+1,j) _ _ ⟨rfl,rfl,by(try simp only);omega,by(try simp only);omega,hjb,λq y D hqi=>?_,E,ho5,W⟩ (by(try simp only);omega)
     exact w.ntr _ _ _ hxu (rM w sU (i:=q) (j:=(i+j)/2-a) (by(try simp only at hqi);omega) D hVk)
    |true=>
     refine ag.2 ?_;refine hI (i,(i+j)/2) _ _ ⟨rfl,rfl,hmi,by(try simp only);omega,by(try simp only);omega,J,λq y D hqi=>?_,ho5,W⟩ (by(try simp only);omega)
     have hle:=rM w sU (i:=(i+j)/2-a) (j:=q) (by(try simp only at hqi);omega) hVk D;cases hvy:lt v y with
     |true=>rfl
     |false=>rw[w.ntr _ _ _ hvy hle]at hxu;cases hxu
   .have L:i=j:=by have:¬(i:Int)<(j:Int):=hge;omega
    subst L;obtain⟨U1,U2,rfl,hU1⟩:∃U1 U2,U=U1++U2/\U1.length=i-a:=⟨U.take (i-a),U.drop (i-a),(bK ..).symm,by rw[aY];omega⟩
    simp only[ae]at z hb hm;have lo1:∀x∈U1,lt v x=false:=λx hx=>by
     obtain⟨q,D,e⟩:=bJ hx;exact J q x (by rw[bR D,af D,e]) a4
    have hi1:∀x∈U2,lt v x=true:=λx hx=>by
     obtain⟨q,D,e⟩:=bJ hx;exact E (U1.length+q) x (by rw[bB a4,eo,af D,e]) a4
    have hst:=NM w sU lo1 hi1;have f0:A++((U1++U2)++([v]++B))=A++(U1++(U2++(v::([]++B)))):=a7
    rw[f0]at G;refine eF (λ(g:List (Pr)×List (Pr)) (t:Int) H=>t=((A.length+U1.length+g.1.length:Nat):Int)/\U2=g.1++g.2/\OwnS dZ 2 35 M H s (A++(U1++(g.1++(v::(g.2++B)))))/\Upd M h H) (λg=>g.1.length) (U2,[])
     ⟨by(try simp only);omega,a7,G,hu⟩ ?_
    rintro I2 ⟨G1,G2⟩ t2 H ⟨e1,e2,o,O⟩ hI2;(try simp only at e1 e2 o)
    subst e1 e2;simp only[ae]at z hb hm⊢;refine aq (λhgt=>?_) λhle=>?_
    .rcases MM G1 with rfl|⟨G1',g,rfl⟩
     .simp only[bC]at hgt;omega
     simp only[ae,aP]at z hb hm hgt⊢;have ew1:ac .i64 (((A.length+U1.length+(G1'.length+1):Nat):Int)-1)=((A.length+U1.length+G1'.length:Nat):Int):=by rw[dw a4];omega
     rw[ew1];have f1:A++(U1++((G1'++ [g])++(v::(G2++B))))=(A++(U1++(G1'++ [g])))++v::(G2++B):=a7
     have f2:(A++(U1++(G1'++ [g])))++v::(G2++B)=(A++(U1++G1'))++g::(v::(G2++B)):=a7
     have f3:(A++(U1++(G1'++ [g])))++g::(G2++B)=(A++(U1++G1'))++g::(g::(G2++B)):=a7
     have f4:(A++(U1++G1'))++v::(g::(G2++B))=A++(U1++(G1'++(v::((g::G2)++B)))):=a7
     rw[f1]at o;have o3:=o;rw[f2]at o3;obtain⟨T,f,hy⟩:=mq o3 (i:=A.length+U1.length+G1'.length) bb
     obtain⟨a2,C,hx⟩:=mq o (i:=A.length+U1.length+(G1'.length+1)) bb
     rw[f]at C;cases C;refine⟨⟨a4,a4⟩,T,f,g.1,hy 0 _ rfl,g.2,hy 1 _ rfl,⟨a4,a4⟩,T,f,v.1,hx 0 _ rfl,v.2,hx 1 _ rfl,⟨a4,a4⟩,T,f,?_⟩
     refine wh o g f bb λS o5 k5=>⟨⟨a4,a4⟩,T,f,?_⟩
     rw[f3]at o5;refine wh o5 v f bb λh6 o6 k6=>?_
     rw[f4]at o6;exact hI2 (G1',g::G2) _ _ ⟨rfl,a7,o6,(O.trans k5 λb hb=>.inl hb).trans k6 λb hb=>.inl hb⟩ a7
    .have hG:G1= []:=aJ.1 a4
     subst hG;simp only[cX]at o hst hk;refine hk H (U1++v::G2) ?_ hst O;have f1:A++((U1++v::G2)++B)=A++(U1++(v::(G2++B))):=a7
     rw[f1];exact o
  have hU2:2<=U.length:=by
   have:(U.length:Int)≠1:=by simpa using hmore
   omega
  have hV2:2<=V.length:=by
   have:(V.length:Int)≠1:=by simpa using hmore2
   omega
  refine⟨a8,?_⟩;simp only[Bd];rw[Gz (i:=a) (j:=b) a4];obtain⟨d,hmid⟩:∃d,(a+b)/2=d:=⟨_,rfl⟩;rw[hmid];have em:ac .i64 ((d:Int)+(m:Int))=((d+m:Nat):Int):=by rw[dw a4];omega
  rw[em];have ep:ac .i64 (((d+m:Nat):Int)-1)=((d+m-1:Nat):Int):=by rw[dw a4];omega
  rw[ep];refine eM (λt h'=>h'=h/\∃s0 r0:Nat,t=((s0:Int),(r0:Int))/\a<=s0/\s0<=r0/\r0<=m/\r0<=d/\d+m<=b+s0/\(r0=d\/r0=m)/\(s0=a\/s0+b=d+m)) (λRj Z=>?_) ?_
  .refine aq (λhgt=>?_) λhle=>?_
   .have es:ac .i64 (((d+m:Nat):Int)-(b:Int))=((d+m-b:Nat):Int):=by rw[dw a4];omega
    rw[es];exact Z _ _ ⟨rfl,_,_,rfl,a4,a4,a4,a4,a4,a4,a4⟩
   .exact Z _ _ ⟨rfl,_,_,rfl,a4,a4,a4,a4,a4,a4,a4⟩
  rintro t h' ⟨rfl,s0,r0,rfl,hs0,hsr,hrm,hrd,hsb,hr0,hs00⟩;refine eF (λ(g:Nat×Nat) (t:Int×Int) H=>t.1=(g.1:Int)/\t.2=(g.2:Int)/\s0<=g.1/\g.1<=g.2/\g.2<=r0/\(∀c x y,s0<=c->c<g.1->U[c-a]? =some x->V[d-1-c]? =some y->lt y x=false)/\(∀c x y,g.2<=c->c<r0->U[c-a]? =some x->V[d-1-c]? =some y->lt y x=true)/\OwnS dZ 2 35 M H s (A++(U++(V++B)))/\Upd M h' H) (λg=>g.2-g.1) (s0,r0)
   ⟨rfl,rfl,aj _,hsr,aj _,λc x y h1 H=>(by(try simp only at H);omega),λc x y h1 H=>(by(try simp only at h1);omega),ho,eQ _ _⟩ ?_
  rintro I ⟨i,j⟩ ⟨ti,tj⟩ H ⟨e1,e2,hsi,L,hjr,J,E,o,O⟩ hI;(try simp only at e1 e2 hsi L hjr J E)
  subst e1 e2;refine aq (λN=>?_) λhge=>?_
  .have N:i<j:=by have:(i:Int)<(j:Int):=N;omega
   refine⟨a8,?_⟩;rw[Gz (i:=i) (j:=j) a4];obtain⟨c,hcc⟩:∃c,(i+j)/2=c:=⟨_,rfl⟩;rw[hcc];have hci:i<=c:=a4
   have hcj:c<j:=a4
   have eq:ac .i64 (((d+m-1:Nat):Int)-(c:Int))=((d+m-1-c:Nat):Int):=by rw[dw a4];omega
   rw[eq];have Y:c-a<U.length:=a4
   have hk2:d-1-c<V.length:=a4
   obtain⟨T,f,hx⟩:=zQ o (i:=c) (x:=U[c-a]) (SP (k:=c-a) a4 (af Y));obtain⟨a2,C,hy⟩:=zQ o (i:=d+m-1-c) (x:=V[d-1-c]) (Wd (k:=d-1-c) a4 (af hk2));rw[f]at C;cases C;have hUc:U[c-a]? =some U[c-a]:=af Y;have hVc:V[d-1-c]? =some V[d-1-c]:=af hk2;generalize U[c-a]=x at hx hUc
   generalize V[d-1-c]=y at hy hVc;refine⟨⟨a4,a4⟩,T,f,y.1,hy 0 _ rfl,y.2,hy 1 _ rfl,⟨a4,a4⟩,T,f,x.1,hx 0 _ rfl,x.2,hx 1 _ rfl,?_⟩
   refine hc.call y x (hc.step O hi) λS e k5 he=>?_
   rw[he];have ho5:=o.upd k5 λ_ _ h=>h
   have W:=O.tr k5.wide;cases hyx:lt y x with
   |false=>
    refine aw.2 ?_;have ew:ac .i64 ((c:Int)+1)=((c+1:Nat):Int):=by rw[dw a4];omega
    rw[ew];refine hI (c+1,j) _ _ ⟨rfl,rfl,by(try simp only);omega,by(try simp only);omega,hjr,λc' x' y' h1 H hx' hy'=>?_,E,ho5,W⟩ (by(try simp only);omega)
    (try simp only at H)
    have q1:=rM w sU (i:=c'-a) (j:=c-a) a4 hx' hUc;have q2:=rM w sV (i:=d-1-c) (j:=d-1-c') a4 hVc hy';exact w.ntr _ _ _ (w.ntr _ _ _ q2 hyx) q1
   |true=>
    refine ag.2 ?_;refine hI (i,c) _ _ ⟨rfl,rfl,hsi,hci,by(try simp only);omega,J,λc' x' y' h1 H hx' hy'=>?_,ho5,W⟩ (by(try simp only);omega)
    (try simp only at h1)
    have q1:=rM w sU (i:=c-a) (j:=c'-a) a4 hUc hx';have q2:=rM w sV (i:=d-1-c') (j:=d-1-c) a4 hy' hVc;cases hyx':lt y' x' with
    |true=>rfl
    |false=>rw[w.ntr _ _ _ (w.ntr _ _ _ q2 hyx') q1]at hyx;cases hyx
  have L:i=j:=by have:¬(i:Int)<(j:Int):=hge;omega
  subst L;have en:ac .i64 (((d+m:Nat):Int)-(i:Int))=((d+m-i:Nat):Int):=by rw[dw a4];omega
  (try simp only)
  rw[en];obtain⟨U1,U2,eU,hU1⟩:∃U1 U2,U=U1++U2/\U1.length=i-a:=⟨U.take (i-a),U.drop (i-a),(bK ..).symm,by rw[aY];omega⟩
  obtain⟨V1,V2,eV,hV1⟩:∃V1 V2,V=V1++V2/\V1.length=d-i:=⟨V.take (d-i),V.drop (d-i),(bK ..).symm,by rw[aY];omega⟩
  have c1:∀v∈V1,∀u∈U2,lt v u=true:=λv hv u hu=>by
   obtain⟨q,D,e⟩:=bJ hv;obtain⟨p,hp,e'⟩:=bJ hu;have hlU:U.length=U1.length+U2.length:=by rw[eU,ae]
   have n1:0<U2.length:=a4
   have n2:d-1-i<V1.length:=a4
   have gx:U[i-a]? =some (U2[0]'n1):=by rw[eU,bB a4,<-hU1,iQ,af a4]
   have gy:V[d-1-i]? =some (V1[d-1-i]'n2):=by rw[eV,bR a4,af a4]
   have hQ:=E i _ _ (aj _) a4 gx gy;have q1:=rM w sU (i:=i-a) (j:=i-a+p) a4 gx (by rw[eU,bB a4,<-hU1,eo,af hp,e']);have q2:=rM w sV (i:=q) (j:=d-1-i) a4 (by rw[eV,bR D,af D,e]) gy;cases hvu:lt v u with
   |true=>rfl
   |false=>rw[w.ntr _ _ _ (w.ntr _ _ _ q2 hvu) q1]at hQ;cases hQ
  have c2:∀u∈U1,∀v∈V2,lt v u=false:=λu hu v hv=>by
   obtain⟨p,hp,e'⟩:=bJ hu;obtain⟨q,D,e⟩:=bJ hv;have hlV:V.length=V1.length+V2.length:=by rw[eV,ae]
   have n1:i-1-a<U1.length:=a4
   have n2:0<V2.length:=a4
   have gx:U[i-1-a]? =some (U1[i-1-a]'n1):=by rw[eU,bR a4,af a4]
   have gy:V[d-1-(i-1)]? =some (V2[0]'n2):=by rw[eV,bB a4,show d-1-(i-1)-V1.length=0 by omega,af a4]
   have hQ:=J (i-1) _ _ a4 a4 gx gy;have q1:=rM w sU (i:=p) (j:=i-1-a) a4 (by rw[eU,bR hp,af hp,e']) gx;have q2:=rM w sV (i:=d-i) (j:=d-i+q) a4 (by rw[eV,bB a4,hV1,iQ,af a4]) (by rw[eV,bB a4,hV1,eo,af D,e])
   have gy2:V[d-i]? =some (V2[0]'n2):=by rw[eV,bB a4,hV1,iQ,af a4]
   exact w.ntr _ _ _ (w.ntr _ _ _ q2 hQ) q1
  subst eU eV;simp only[ae]at z hU hV hl hm hb hU2 hV2;have sA1:=sU.left;have sA2:=sU.right;have sB1:=sV.left;have sB2:=sV.right;refine eM (λ_ h3=>OwnS dZ 2 35 M h3 s (A++(U1++(V1++(U2++(V2++B)))))/\Upd M h' h3) (λRj Z=>?_) ?_
  .have f1:A++((U1++U2)++((V1++V2)++B))=(A++U1)++(U2++(V1++(V2++B))):=by simp
   have f2:(A++U1)++(V1++(U2++(V2++B)))=A++(U1++(V1++(U2++(V2++B)))):=a7
   refine eM (λt h3=>h3=H/\(t=true↔0<U2.length/\0<V1.length)) (λRk X=>?_) ?_
   .refine aq (λh=>X _ _ ⟨rfl,?_⟩) λh=>X _ _ ⟨rfl,⟨λh=>(by cases h),λh=>a4⟩⟩
    rw[decide_eq_true_iff];constructor
    .intro h;constructor<;>omega
    .rintro⟨h1,H⟩;omega
   .rintro t h3 ⟨rfl,ht⟩
    cases t with
    |true=>
     obtain⟨p1,p2⟩:=ht.1 rfl;rw[f1]at o;refine aw.2 (Qb o hn p1 p2 (by rw[ae];omega) (by rw[ae];omega) (by rw[ae];omega) λh4 o4 k4=>Z _ _ ⟨?_,O.trans k4 λb hb=>.inl hb⟩)
     rw[f2]at o4;exact o4
    |false=>
     have hz:U2= []\/V1= []:=by
      rcases dQ U2.length with h|h
      .exact .inl (aJ.1 h)
      .rcases dQ V1.length with h3|h3
       .exact .inr (aJ.1 h3)
       .have:=ht.2 ⟨h,h3⟩;cases this
     refine ag.2 (Z _ _ ⟨?_,O⟩);rw[f1]at o;rw[<-f2];rcases hz with rfl|rfl
     .exact o
     .exact o
  rintro _ h3 ⟨o3,k3⟩;refine eM (λ_ h4=>∃R1,OwnS dZ 2 35 M h4 s (A++(R1++(U2++(V2++B))))/\St lt (U1++V1) R1/\Upd M h' h4) (λRj Z=>?_) ?_
  .refine eM (λt h4=>h4=h3/\(t=true↔0<U1.length/\0<V1.length)) (λRk X=>?_) ?_
   .refine aq (λh=>X _ _ ⟨rfl,?_⟩) λh=>X _ _ ⟨rfl,⟨λh=>(by cases h),λh=>a4⟩⟩
    rw[decide_eq_true_iff];constructor
    .intro h;constructor<;>omega
    .rintro⟨h1,H⟩;omega
   .rintro t h4 ⟨rfl,ht⟩
    cases t with
    |true=>
     obtain⟨p1,p2⟩:=ht.1 rfl;refine aw.2 (ih a4 o3 (hc.step k3 hi) p1 p2 sA1 sB1 ha a4 a4 λS R1 o5 s5 k5=>Z _ _ ⟨R1,o5,s5,k3.trans k5 λb hb=>.inl hb⟩)
    |false=>
     refine ag.2 (Z _ _ ⟨U1++V1,by simpa using o3,⟨Eqf.rfl _,?_⟩,k3⟩)
     rcases dQ U1.length with h|h
     .rw[aJ.1 h];exact sB1
     .rcases dQ V1.length with S|S
      .rw[aJ.1 S,aX];exact sA1
      .have:=ht.2 ⟨h,S⟩;cases this
  rintro _ h4 ⟨R1,o4,s1,k4⟩;have hR1:=s1.eqf.len;rw[ae]at hR1;have fin:∀{S:ad} {R2:List (Pr)},OwnS dZ 2 35 M S s (A++(R1++(R2++B)))->St lt (U2++V2) R2->Upd M h' S->K () S:=λ{S R2} o5 s2 k5=>by
   refine hk S (R1++R2) ?_ (Tp w sU sV c1 c2 s1 s2) k5;rw[ao];exact o5
  refine eM (λt S=>S=h4/\(t=true↔0<U2.length/\0<V2.length)) (λRk X=>?_) ?_
  .refine aq (λh=>X _ _ ⟨rfl,?_⟩) λh=>X _ _ ⟨rfl,⟨λh=>(by cases h),λh=>a4⟩⟩
   rw[decide_eq_true_iff];constructor
   .intro h;constructor<;>omega
   .rintro⟨h1,H⟩;omega
  .rintro t S ⟨rfl,ht⟩
   have f1:A++(R1++(U2++(V2++B)))=(A++R1)++(U2++(V2++B)):=a7
   cases t with
   |true=>
    obtain⟨p1,p2⟩:=ht.1 rfl;rw[f1]at o4;refine aw.2 (ih a4 o4 (hc.step k4 hi) p1 p2 sA2 sB2 (by rw[ae];omega) (by rw[ae];omega) (by rw[ae];omega) λh6 R2 o6 s6 k6=>fin (R2:=R2) ?_ s6 (k4.trans k6 λb hb=>.inl hb))
    rw[ao]at o6;exact o6
   |false=>
    refine ag.2 (fin (R2:=U2++V2) (by simpa using o4) ⟨Eqf.rfl _,?_⟩ k4);rcases dQ U2.length with h|h
    .rw[aJ.1 h];exact sB2
    .rcases dQ V2.length with h6|h6
     .rw[aJ.1 h6,aX];exact sA2
     .have:=ht.2 ⟨h,h6⟩;cases this
theorem PV(w:WO lt){f:Value}(hc:Cmp lt dZ M Iv f){xs:List (Pr)}(ho:OwnS dZ 2 35 M h s xs)(hi:Iv h)(hn:xs.length<=100000000)
  (hk:∀h' R,OwnS dZ 2 35 M h' s R->St lt xs R->Upd M h h'->K () h'):dx 302 [.slice s.a s.len s.cap,f] K h:=by
 refine cZ (fk s f) .nil Tryz.func302 Tryz.call302 ?_;unfold fk;refine cZ (jX s (s.len:Int) f) pS Tryz.func310 Tryz.call310 ?_;unfold jX;have j:=ho.len;have e:s.len<=1000000000:=a4
 refine eF (λ(g:List (Pr)×List (Pr)×List (Pr)) (t:Int×Int) h'=>t.1=(g.2.1.length:Int)/\t.2=((g.2.1.length+20:Nat):Int)/\xs=g.1++g.2.2/\Eqf lt g.1 g.2.1/\Full lt 20 g.2.1/\OwnS dZ 2 35 M h' s (g.2.1++g.2.2)/\Upd M h h') (λg=>g.2.2.length) ([],[],xs)
  ⟨rfl,rfl,rfl,Eqf.rfl _,Full.nil,ho,eQ _ _⟩ ?_
 rintro I ⟨X,D,T⟩ ⟨ta,tb⟩ h1 ⟨m,P,O,d,k,N,k1⟩ hI;simp only at m P O d k N;subst m P O;have hXD:=d.len;simp only[ae]at j hn;refine aq (λhle=>?_) λG=>?_
 .obtain⟨S,T',rfl,hS⟩:∃S T',T=S++T'/\S.length=20:=⟨T.take 20,T.drop 20,(bK ..).symm,by rw[aY];omega⟩
  refine E4 w hc N (hc.step k1 hi) e rfl (b:=D.length+20) a4 λh2 R x u F=>?_
  have y:=u.eqf.len;simp only[ae]at j hn;have L:ac .i64 (((D.length+20:Nat):Int)+20)=(((D++R).length+20:Nat):Int):=by rw[ae,dw a4];omega
  rw[L];refine hI (X++S,D++R,T') _ _ ⟨by simp only[ae];omega,rfl,a7,d.app u.eqf,k.app a4 u.srt,by rw[ao];exact x,k1.trans F λb hb=>.inl hb⟩ (by simp only[ae];omega)
 have f1:D++T=D++(T++ []):=a7
 rw[f1]at N;refine E4 w hc N (hc.step k1 hi) e rfl (b:=s.len) a4 λh2 R x u F=>?_
 have y:=u.eqf.len;rw[aX]at x;have q:Eqf lt (X++T) (D++R):=d.app u.eqf;have B:Runs lt 20 (D++R):=k R (.last R a4 u.srt);have F:Upd M h h2:=k1.trans F λb hb=>.inl hb
 generalize D++R=ys at x q B;generalize X++T=zs at q hk;have c:s.len=ys.length:=x.len;clear hI d k N f1 G y;refine eF (λ(g:Nat×List (Pr)) (t:Int) h'=>t=(g.1:Int)/\0<g.1/\g.1<=200000000/\Runs lt g.1 g.2/\Eqf lt zs g.2/\OwnS dZ 2 35 M h' s g.2/\Upd M h h') (λg=>s.len-g.1) (20,ys)
  ⟨rfl,a7,a7,B,q,x,F⟩ ?_
 rintro I2 ⟨a,ys⟩ t h3 ⟨m,Z,hb1,W,p,Q,k3⟩ hI2;simp only at m Z hb1 W p Q;subst m;have c:s.len=ys.length:=Q.len;refine aq (λhlt=>?_) λhge=>?_
 .have hlt:a<s.len:=by omega
  have e0:ac .i64 (2*(a:Int))=((2*a:Nat):Int):=by rw[dw a4];omega
  rw[e0];refine eF (λ(g:List (Pr)×List (Pr)×List (Pr)) (t:Int×Int) h'=>t.1=(g.2.1.length:Int)/\t.2=((g.2.1.length+2*a:Nat):Int)/\ys=g.1++g.2.2/\Eqf lt g.1 g.2.1/\Full lt (2*a) g.2.1/\Runs lt a g.2.2/\OwnS dZ 2 35 M h' s (g.2.1++g.2.2)/\Upd M h h') (λg=>g.2.2.length) ([],[],ys)
   ⟨rfl,a7,rfl,Eqf.rfl _,Full.nil,W,Q,k3⟩ ?_
  rintro I3 ⟨Y,D,T⟩ ⟨ta,tb⟩ h4 ⟨m,P,O,d,k,i,J,H⟩ U;simp only at m P O d k i J;subst m P O;have hYD:=d.len;simp only[ae]at c;have ea:ac .i64 ((D.length:Int)+(a:Int))=((D.length+a:Nat):Int):=by rw[dw a4];omega
  simp only;rw[ea];refine aq (λhle=>?_) λG=>?_
  .obtain⟨B1,T1,rfl,hB1,v,o⟩:=i.split a4
   simp only[ae]at c;obtain⟨B2,T2,rfl,hB2,sB2,V⟩:=o.split a4;simp only[ae]at c;refine Ca w hc e (B1.length+B2.length) (aj _) J (hc.step H hi) a4 a4 v sB2 rfl a4 a4 λA R z n E=>?_
   have y:=n.eqf.len;rw[ae]at y;have L:ac .i64 (((D.length+2*a:Nat):Int)+((2*a:Nat):Int))=(((D++R).length+2*a:Nat):Int):=by rw[ae,dw a4];omega
   rw[L];refine U (Y++(B1++B2),D++R,T2) _ _ ⟨by simp only[ae];omega,rfl,a7,d.app n.eqf,k.app a4 n.srt,V,by rw[ao];exact z,H.trans E λb hb=>.inl hb⟩ (by simp only[ae];omega)
  .refine eM (λ_ A=>∃R,Eqf lt T R/\Runs lt (2*a) R/\OwnS dZ 2 35 M A s (D++R)/\Upd M h A) (λRj C=>?_) ?_
   .refine aq (λhmn=>?_) λhmn=>?_
    .obtain⟨B1,T1,rfl,hB1,v,o⟩:=i.split a4
     simp only[ae]at c;have f1:D++(B1++T1)=D++(B1++(T1++ [])):=a7
     rw[f1]at J;refine Ca w hc e (B1.length+T1.length) (aj _) J (hc.step H hi) a4 a4 v (o.short a4) rfl a4 a4 λA R z n E=>?_
     have y:=n.eqf.len;rw[ae]at y;rw[aX]at z;exact C _ _ ⟨R,n.eqf,.last R a4 n.srt,z,H.trans E λb hb=>.inl hb⟩
    .exact C _ _ ⟨T,Eqf.rfl _,.last T a4 (i.short a4),J,H⟩
   .rintro _ A ⟨R,q5,r5,z,E⟩
    have L:ac .i64 ((a:Int)*2)=((2*a:Nat):Int):=by rw[dw a4];omega
    rw[L];exact hI2 (2*a,D++R) _ _ ⟨rfl,cd,cd,k R r5,p.tr (d.app q5),z,E⟩ cd
 .exact hk h3 ys Q ⟨p,W.short a4⟩ k3
variable {z0:Hs}
end
section
open Go.Lift
variable {l:bY}{h h':ad}{W W' G M:eh}{s:f9}{K:f9->eu}{x:Hs}{m:Nat}{r:aT}
def StP(N:Nat):Prop:=∀{lt:Pr->Pr->Bool},WO lt->∀{M:eh} {Iv:eu} {cmp:Value},Cmp lt dZ M Iv cmp->∀{h:ad} {s:f9} {xs:bY},OwnS dZ 2 35 M h s xs->Iv h->xs.length<=N->∀{K:Unit->eu},
 (∀h' R,OwnS dZ 2 35 M h' s R->St lt xs R->Upd M h h'->K () h')->dx 302 [.slice s.a s.len s.cap,cmp] K h
theorem stP:StP 100000000:=λw _ _ _ hc _ _ _ a hi b _ c=>PV w hc a hi b c
def Yc(a b:Pr):Bool:=decide (kl a.1 b.1)
theorem ZK:WO Yc:=by
 refine⟨λa=>decide_eq_false (bT _),λa b h=>decide_eq_false λk=>bT _ (dI (of_decide_eq_true h) k),λa b c h k=>decide_eq_false λd=>?_⟩
 have h:=of_decide_eq_false h;have k:=of_decide_eq_false k;by_cases e:b.1=c.1
 .rw[<-e]at d;exact h d
 .have f:=l8 k e
  exact h (dI d f)
theorem Yz(x a:Pr):O1 Yc x a=decide (a.1=x.1):=by
 unfold O1 Yc;by_cases e:a.1=x.1
 .rw[decide_eq_true e,e,decide_eq_false (bT _)];rfl
 .rw[decide_eq_false e]
  by_cases h:kl a.1 x.1
  .rw[decide_eq_true h];rfl
  .rw[decide_eq_false h,decide_eq_true (l8 h e)];rfl
def km(l:bY)(k:dO):Option Pr:=(l.filter λq=>decide (q.1=k)).getLast?
theorem tP(q:Pr)(l:bY)(k:dO):km (q::l) k=if q.1=k then some ((km l k).getD q)else km l k:=by
 unfold km;rw[List.filter_cons];by_cases h:q.1=k
 .rw[if_pos (decide_eq_true h),if_pos h,List.getLast?_cons]
 .rw[if_neg (by simpa using h),if_neg h]
theorem T8{k:dO}{p:Pr}(h:km l k=some p):p.1=k:=by
 unfold km at h;have:=List.mem_of_getLast? h;exact of_decide_eq_true (bL.1 this).2
theorem KQ{k:dO}{p:Pr}(h:km l k=some p):p∈l:=by
 unfold km at h;exact(bL.1 (List.mem_of_getLast? h)).1
theorem QD{k:dO}(h:∀q∈l,q.1≠k):km l k=none:=by
 unfold km;rw[List.filter_eq_nil_iff.2 λq a=>by simpa using h q a];rfl
theorem Wy{l':bY}(h:Eqf Yc l l')(k:dO):km l' k=km l k:=by
 unfold km;have:=h.flt (k,k);have e:∀m:bY,m.filter (O1 Yc (k,k))=m.filter λq=>decide (q.1=k):=λm=>List.filter_congr λq _=>Yz (k,k) q
 rw[e,e]at this;rw[this]
def NN(l:bY):bY:=l.foldl (λacc p=>gw p acc) []
theorem Eb:∀(l:bY) {acc:bY},bO acc->bO (l.foldl (λacc p=>gw p acc) acc)/\∀p,p∈l.foldl (λacc p=>gw p acc) acc↔km l p.1=some p\/(km l p.1=none/\p∈acc)
 | [],acc,hr=>⟨hr,λp=>by simp[km]⟩
 |q::l,acc,hr=>by
  obtain⟨b,c⟩:=Eb l (pj q hr);refine⟨b,λp=>?_⟩
  rw[List.foldl_cons,c p,tP,ri hr];by_cases e:q.1=p.1
  .rw[if_pos e]
   cases hl:km l p.1 with
   |none=>
    simp only[Option.getD_none,Option.some.injEq,reduceCtorEq,false_or,false_and,or_false];constructor
    .rintro⟨_,rfl|⟨_,h⟩⟩
     .rfl
     .exact absurd e.symm h
    .rintro rfl;exact⟨trivial,.inl rfl⟩
   |some r=>simp
  .rw[if_neg e]
   constructor
   .rintro(h|⟨h,rfl|⟨a,_⟩⟩)
    .exact .inl h
    .exact absurd rfl e
    .exact .inr ⟨h,a⟩
   .rintro(h|⟨h,a⟩)
    .exact .inl h
    .exact .inr ⟨h,.inr ⟨a,λd=>e d.symm⟩⟩
theorem Kk(l:bY):bO (NN l):=(Eb l cq).1
theorem SD{p:Pr}:p∈NN l↔km l p.1=some p:=by
 have:=(Eb l (acc:= []) cq).2 p;unfold NN;rw[this];simp
def l7:bY->bY
 | []=> []
 | [p]=> [p]
 |p::q::l=>if q.1=p.1 then l7 (q::l)else p::l7 (q::l)
theorem rl(p q:Pr)(l:bY):l7 (p::q::l)=if q.1=p.1 then l7 (q::l)else p::l7 (q::l):=rfl
theorem Bq:∀(l:bY),∀p∈l7 l,p∈l
 | [],p,h=>h
 | [q],p,h=>h
 |q::r::l,p,h=>by
  rw[rl]at h;split at h
  .exact ay _ (Bq (r::l) p h)
  .rcases au.1 h with rfl|h
   .exact al ..
   .exact ay _ (Bq (r::l) p h)
theorem KP:∀{l:bY},Srt Yc l->bO (l7 l)/\∀p,p∈l7 l↔km l p.1=some p
 | [],_=>⟨cq,λp=>by simp[l7,km]⟩
 | [q],_=>⟨cx ..,λp=>by
   show p∈[q]↔_
   rw[av,tP]
   by_cases e:q.1=p.1
   .rw[if_pos e];simp[km,eq_comm]
   .rw[if_neg e];simp only[km,List.filter_nil,List.getLast?_nil,reduceCtorEq,iff_false]
    rintro rfl;exact e rfl⟩
 |p::q::l,hs=>by
  have c:=aC.1 hs;obtain⟨g,i⟩:=KP (l:=q::l) c.2;rw[rl];by_cases e:q.1=p.1
  .rw[if_pos e]
   refine⟨g,λr=>?_⟩
   rw[i r,tP p];by_cases a:p.1=r.1
   .rw[if_pos a]
    have:km (q::l) r.1≠none:=by
     rw[tP,if_pos (e.trans a)];simp
    cases hl:km (q::l) r.1 with
    |none=>exact absurd hl this
    |some z=>simp
   .rw[if_neg a]
  .rw[if_neg e]
   have d:∀r∈q::l,kl p.1 r.1:=λr f=>by
    have b:kl p.1 q.1:=by
     have:=of_decide_eq_false (c.1 q (al ..));exact l8 this e
    rcases au.1 f with rfl|f
    .exact b
    .have:=of_decide_eq_false ((aC.1 c.2).1 r f)
     by_cases a:r.1=q.1
     .rw[a];exact b
     .exact dI b (l8 this a)
   refine⟨aC.2 ⟨λr f=>d r (Bq _ r f),g⟩,λr=>?_⟩
   rw[au,i r,tP p];by_cases a:p.1=r.1
   .rw[if_pos a]
    have m:km (q::l) r.1=none:=QD λz j k=>by
     have:=d z j;rw[k,a]at this;exact bT _ this
    rw[m];simp[eq_comm]
   .rw[if_neg a]
    constructor
    .rintro(rfl|h)
     .exact absurd rfl a
     .exact h
    .exact .inr
theorem QC{ys:bY}(h:St Yc l ys):l7 ys=NN l:=by
 obtain⟨a,b⟩:=KP h.srt;refine wR a (Kk l) λp=>?_
 rw[b p,SD,Wy h.eqf]
theorem abf(M:eh):Cmp Yc dZ M (λ_=>True) (.func (.func 303) #[] #[]):=by
 refine⟨λa b h K _ e=>HV.mk' (cZ (yw a b) .nil Tryz.func303 Tryz.call303 ?_),λ_ h=>h⟩
 dsimp only[yw,qf,nW,bq,gj,rx,yI];refine aV λg b1 k1=>aV λi b2 c=>?_
 have c1:=c.get0 b1;refine⟨a.1,vc c1 0,a.2,vc c1 1,b.1,vc b2 0,?_⟩;refine Oj λf d=>e f _ ((k1.tr c).tr d) ?_
 unfold wZ Yc;split
 .rename_i h;rw[decide_eq_true h];rfl
 .rename_i h
  rw[decide_eq_false h];split<;>rfl
theorem HK:∀(l:bY),(l7 l).length<=l.length
 | []=>aj _
 | [_]=>aj _
 |p::q::l=>by
  rw[rl];have:=HK (q::l);split
  .simp only[ar]at this⊢;omega
  .simp only[ar]at this⊢;omega
theorem VN{t:TypeId}{p:Pr}{k:eu}(b:∀h',h'[h.size]? =some (.cells #[.string p.1,.string p.2] t (0,0))->Upd No h h'->k h'):
 At (hnew h [.string (⟨#[]⟩:dO),.string (⟨#[]⟩:dO)] t) (λa=>qR a (some (aH h)) 0 [.string p.1,.string p.2]/\At (fu a (aH h) 0 [.string p.1,.string p.2]) k):=yk (p:=p) b
theorem PX{N:Nat}(st:StP N)(hN:N<=100000000)(hs:Sl dZ 2 W h s l)(V:∀y,W' y->y<h.size)(hn:l.length<=N)
  (hk:∀s' h',Sl dZ 2 W' h' s' (NN l)->s'.len<=s'.cap->Upd No h h'->K s' h'):dS 292 [.slice s.a s.len s.cap] K h:=by
 refine cZ (AQ s) Ka Tryz.func292 Tryz.call292 ?_;dsimp only[AQ,cB,nv,lG,nC,jz,fE,DE,cP,nW,bq,ox,Is,FL,gj];refine w6 hs a4 λE h1 U w=>?_
 refine st ZK (abf _) U trivial a4 λh2 ys D B Y=>?_
 have hyl:=B.eqf.len;have A:Upd No h h2:=w.trans Y λx hx=>.inr hx
 have hlen:=D.len;have u:=QC B;have z1:=w.size;have hll:=HK ys;refine eF (λ(g:bY×bY×bY) (t:Int×Int) h'=>t.1=(g.1.length:Int)/\t.2=((g.1.length+g.2.1.length:Nat):Int)/\g.1++l7 g.2.2=l7 ys/\g.1.length+g.2.1.length+g.2.2.length=ys.length/\OwnS dZ 2 35 (λb=>h.size<=b) h' E (g.1++(g.2.1++g.2.2))/\Upd No h h') (λg=>g.2.2.length) ([],[],ys)
  ⟨rfl,rfl,rfl,a7,D,A⟩ ?_
 rintro I ⟨R,G,T⟩ ⟨tn,ti⟩ h3 ⟨e1,J,f,k,j,C⟩ hI;(try simp only at e1 J f k j)
 subst e1 J;refine aq (λhlt=>?_) λhge=>?_
 .match T with
  | []=>simp only[bC]at k;omega
  |p::T=>
   simp only[ar]at k;have ew:ac .i64 (((R.length+G.length:Nat):Int)+1)=((R.length+G.length+1:Nat):Int):=by rw[dw a4];omega
   (try simp only)
   rw[ew];refine eM (λn' h'=>∃R' G',n'=(R'.length:Int)/\R'.length+G'.length=R.length+G.length+1/\R'++l7 T=l7 ys/\OwnS dZ 2 35 (λb=>h.size<=b) h' E (R'++(G'++T))/\Upd No h h') (λRj n=>?_) ?_
   .obtain⟨a,H,hv⟩:=zQ j (i:=R.length+G.length) (x:=p) (by rw[bB a4,eo,bB (aj _),iQ];rfl)
    refine⟨⟨a4,a4⟩,a,H,p.1,hv 0 _ rfl,p.2,hv 1 _ rfl,?_⟩
    refine VN (p:=p) λh4 b4 k4=>?_
    have d:=j.upd k4 λ_ _ h=>h
    have o:=C.tr k4;refine eM (λt h'=>h'=h4/\(t=true↔∃q v,T=q::v/\q.1=p.1)) (λRk z=>?_) ?_
    .refine aq (λhlt2=>?_) λhge2=>z _ _ ⟨rfl,⟨λh=>(by cases h),λ⟨q,v,e,_⟩=>(by subst e;simp only[ar]at k;omega)⟩⟩
     rcases T with _|⟨q,T⟩
     .simp only[bC]at k;omega
     .obtain⟨a',ha',hv'⟩:=zQ d (i:=R.length+G.length+1) (x:=q) (by rw[bB a4,show R.length+G.length+1-R.length=G.length+1 by omega,bB a4,eo];rfl)
      refine⟨⟨a4,a4⟩,a',ha',q.1,hv' 0 _ rfl,p.1,vc b4 0,z _ _ ⟨rfl,?_⟩⟩
      rw[dV,decide_eq_true_iff];exact⟨λe=>⟨q,T,rfl,e⟩,λ⟨q',v,e,e'⟩=>by cases e;exact e'⟩
    .rintro t h5 ⟨rfl,ht⟩
     .cases t with
      |true=>
       obtain⟨q,v,rfl,eq⟩:=ht.1 rfl;refine aw.2 (n _ _ ⟨R,G++ [p],rfl,a9,?_,by simpa using d,o⟩)
       rw[<-f,rl,if_pos eq]
      |false=>
       have F:l7 (p::T)=p::l7 T:=by
        rcases T with _|⟨q,v⟩
        .rfl
        .rw[rl,if_neg λe=>by have:=ht.2 ⟨q,v,rfl,e⟩;cases this]
       refine ag.2 ⟨p.1,vc b4 0,p.2,vc b4 1,⟨a4,a4⟩,a,H,?_⟩
       have L:ac .i64 ((R.length:Int)+1)=((R++ [p]).length:Int):=by rw[ae,aP,dw a4];omega
       rw[L];rcases G with _|⟨g,G⟩
       .rw[cX]at d
        refine wh d p H a7 λh6 S X=>n _ _ ⟨R++ [p],[],rfl,a7,?_,by simpa using S,o.trans X λb hb=>.inr hb⟩
        rw[<-f,F];simp
       .have f1:R++((g::G)++p::T)=R++g::(G++p::T):=by simp
        rw[f1]at d;refine wh d p H a7 λh6 S X=>n _ _ ⟨R++ [p],G++ [p],rfl,a9,?_,by simpa using S,o.trans X λb hb=>.inr hb⟩
        rw[<-f,F];simp
   .rintro n' h6 ⟨R',G',rfl,Q,O,P,Z⟩
    exact hI (R',G',T) _ _ ⟨rfl,by(try simp only);rw[Q],O,by(try simp only);omega,P,Z⟩ a7
 .have F:T= []:=aJ.1 a4
  subst F;simp only[bC]at k;simp only[l7,aX]at f j;have hcap:=j.cap;refine⟨⟨by(try simp only);omega,by(try simp only);omega⟩,?_⟩
  have hsl:=j.sl (W:=W') λx hx _ hw=>by have:=V x hw;omega
  have hA:=Sl.sub hsl (l:=0) (hi:=R.length) (m:=E.cap) (c:=E.cap-0) (aK _) a7 a4;have J:((R++G).drop 0).take (R.length-0)=NN l:=by rw[List.drop_zero,Nat.sub_zero,hJ];exact f.trans u
  rw[J]at hA;exact hk _ _ hA (by(try simp only);omega) C
theorem Tq(b:Sl dZ 2 W h s l)(a:∀y,W' y->y<h.size)(d:l.length<=10000000)
 (c:∀s' h',Sl dZ 2 W' h' s' (NN l)->s'.len<=s'.cap->Upd No h h'->K s' h'):dS 292 [.slice s.a s.len s.cap] K h:=PX stP (aj _) b a a4 c
theorem VP{β:Type}{g:Nat->Option β}{n:Nat}{y:β}:y∈fm g n↔∃c,c<n/\g c=some y:=by
 unfold fm;rw[List.mem_filterMap];exact⟨λ⟨c,a,b⟩=>⟨c,fY.1 a,b⟩,λ⟨c,a,b⟩=>⟨c,fY.2 a,b⟩⟩
def wl(x:Hs):Nat->bY->bY
 |0,l=>l
 |m+1,l=>gF x (12-m) l++(mr x (12-m) l).flatMap (wl x m)
theorem LO(x:Hs)(m:Nat)(l:bY):wl x (m+1) l=gF x (12-m) l++(mr x (12-m) l).flatMap (wl x m):=rfl
theorem Hz{x:Hs}{p:Pr}:∀(m:Nat) {l:bY},p∈wl x m l↔p∈l
 |0,_=>tu
 |m+1,l=>by
  rw[LO,aL,List.mem_flatMap];constructor
  .rintro(h|⟨L,d,h⟩)
   .exact tA h
   .obtain⟨_,c,rfl⟩:=qs d
    exact(lL.1 ((Hz m).1 h)).1
  .intro h
   have hm:p∈part x (12-m) (ck x (12-m) p.1) l:=lL.2 ⟨h,rfl⟩;have hc:=zk x (12-m) p.1;rcases d:part x (12-m) (ck x (12-m) p.1) l with _|⟨a,_|⟨b,r⟩⟩
   .rw[d]at hm;cases hm
   .left
    rw[d]at hm;rw[av.1 hm];unfold gF;exact VP.2 ⟨_,hc,by show tF (part x (12-m) (ck x (12-m) p.1) l)=_;rw[d];rfl⟩
   .right
    refine⟨a::b::r,?_,(Hz m).2 (by rw[<-d];exact hm)⟩;unfold mr;exact VP.2 ⟨_,hc,by show iZ (part x (12-m) (ck x (12-m) p.1) l)=_;rw[d];rfl⟩
theorem OO{f:bY->bY}(h:∀l,(f l).length<=l.length):∀ls:List bY,(ls.flatMap f).length<=ls.flatten.length
 | []=>aj _
 |l::ls=>by
  have a:=h l;have b:=OO h ls;rw[aN,List.flatten_cons,ae,ae];omega
theorem LP(x:Hs):∀(m:Nat) (l:bY),(wl x m l).length<=l.length
 |0,_=>aj _
 |m+1,l=>by
  rw[LO,ae];have a:=zK x (12-m) l;have b:=OO (LP x m) (mr x (12-m) l);omega
theorem Zv(b:bO l):NN (wl x m l)=l:=by
 refine wR (Kk _) b λp=>?_
 rw[SD];constructor
 .intro h;exact(Hz m).1 (KQ h)
 .intro h
  have c:p∈(wl x m l).filter λq=>decide (q.1=p.1):=bL.2 ⟨(Hz m).2 h,decide_eq_true rfl⟩
  have a:km (wl x m l) p.1≠none:=by
   unfold km;intro e;rw[List.getLast?_eq_none_iff]at e;rw[e]at c;cases c
  cases hl:km (wl x m l) p.1 with
  |none=>exact absurd hl a
  |some q=>
   have d:=T8 hl;have i:=(Hz m).1 (KQ hl);have g:(p.1,q.2)∈l:=by rw[<-d];exact i
   have f:=Hj b (k:=p.1) (v:=p.2) (w:=q.2) h g;rw[Prod.ext d f.symm]
def cw(x:Hs):Nat->bY->Nat
 |0,_=>2
 |m+1,l=>2+((mr x (12-m) l).map (cw x m)).sum
structure Fr where
 sp:f9
 sk:f9
 n:Nat
 ps:bY
 ks:List (Nat×bY)
abbrev UU(v:f9×f9):c5:= [sv v.1,sv v.2]
theorem Wj(x:f9×f9):(UU x).length=2/\0<2:=⟨rfl,a4⟩
def Fr.raw(f:Fr):f9×f9:=(f.sp,f.sk)
def Fr.rem(x:Hs)(f:Fr):bY:=f.ps++f.ks.flatMap λk=>wl x (f.n-1) k.2
def Fr.cost(x:Hs)(f:Fr):Nat:=1+(f.ks.map λk=>cw x (f.n-1) k.2).sum
def DZ(x:Hs)(l:List Fr):bY:=l.reverse.flatMap (Fr.rem x)
def E9(x:Hs)(l:List Fr):Nat:=(l.map (Fr.cost x)).sum
theorem zP(x:Hs)(l:List Fr)(f:Fr):DZ x (l++ [f])=f.rem x++DZ x l:=by unfold DZ;rw[List.reverse_append];rfl
theorem Bx(x:Hs)(l:List Fr)(f:Fr):E9 x (l++ [f])=E9 x l+f.cost x:=by unfold E9;rw[cF,List.sum_append];simp
abbrev Oz(k:Nat×bY):aT:=some ⟨k.1,0,none⟩
structure Fr.Ok(W G:eh)(x:Hs)(h:ad)(f:Fr):Prop where
 p:Sl dZ 2 (λy=>¬G y) h f.sp f.ps
 k:Sl rh 1 (λy=>¬G y) h f.sk (f.ks.map Oz)
 pc:f.sp.len<=f.sp.cap
 kc:f.sk.len<=f.sk.cap
 t:∀k∈f.ks,TrieAt W x h (f.n-1) k.1 k.2/\k.2.length<=100000
 n0:f.ks≠[]->0<f.n
 n13:f.n<=13
theorem Fr.Ok.upd{f:Fr}(o:f.Ok W G x h)(k:Upd M h h')(d:∀b,M b->W b\/h.size<=b)(a:∀b,M b->¬G b\/h.size<=b):f.Ok W G x h':=
 ⟨o.p.upd k a,o.k.upd k a,o.pc,o.kc,λq c=>⟨TrieAt.updM k d (o.t q c).1,(o.t q c).2⟩,o.n0,o.n13⟩
theorem Fr.Ok.sub{G':eh}{f:Fr}(o:f.Ok W G x h)(c:∀b,G b->G' b):f.Ok W G' x h:=
 ⟨o.p.less λb hb=>.inl λa=>hb (c b a),o.k.less λb hb=>.inl λa=>hb (c b a),o.pc,o.kc,o.t,o.n0,o.n13⟩
abbrev abe(s:f9)(d:Int):Array Value:= #[sv s,.int .i64 d]
structure CurW(W G C:eh)(x:Hs)(h:ad)(cb:Nat)(fs:List Fr):Prop where
 ex:∃s d,h[cb]? =some (.cells (abe s d) 401 (0,0))/\OwnS UU 2 397 C h s (fs.map Fr.raw)
 ok:∀f∈fs,f.Ok W G x h
 lt:∀b,(C b\/G b)->b<h.size
 dj:∀b,G b->¬C b/\b≠cb
 cc:¬C cb
 cw:(∀b,C b->W b)/\W cb
 lv:fs.Pairwise λf g=>g.n<f.n
theorem CurW.upd{C:eh}{a:Nat}{g:List Fr}(c:CurW W G C x h a g)(k:Upd M h h')(n:∀b,M b->W b\/h.size<=b)(p:∀b,C b->¬M b)(i:∀b,G b->¬M b)(e:¬M a):CurW W G C x h' a g:=by
 obtain⟨s,d,o,q⟩:=c.ex;exact⟨⟨s,d,k.get o e,q.upd k p⟩,λf m=>(c.ok f m).upd k n λb hb=>.inl λj=>i b j hb,λb hb=>aA (c.lt b hb) k.size,c.dj,c.cc,c.cw,c.lv⟩
theorem VU:∀{a:List Fr} {n:Nat},a.Pairwise (λf g=>g.n<f.n)->(∀f∈a,f.n<=n)->a.length<=n+1
 | [],_,_,_=>aK _
 |f::a,n,b,hn=>by
  have b:=aC.1 b;have d:=hn f (al ..);rcases a with _|⟨g,a⟩
  .simp
  .have c:=b.1 g (al ..)
   have:=VU (n:=f.n-1) b.2 λg c=>by have:=b.1 g c;omega
   rw[ar];omega
theorem Sa{α:Type}{f:α->c5}{sz:Nat}{t:TypeId}{P Q:List α}{x y:α}{j:Nat}{v:Value}(k:OwnS f sz t M h s (P++x::Q))(F:j<sz)(C:f y=(f x).set j v){a:Addr}(u:s.a=some a){i:Nat}(hi:i=P.length){G:eu}(A:∀h',OwnS f sz t M h' s (P++y::Q)->Upd M h h'->G h'):
  Wr h (adr (adr a (i*sz)) j)/\At (hset h (adr (adr a (i*sz)) j) v) G:=by
 subst hi;have p:=k.ne;have d:=k.len;have e:=k.cap;rcases k.blk with D|⟨b,c,g,hb,hc,w⟩
 .rw[ae,ar]at d;omega
 rw[u]at g;cases g;have E:(P.flatMap f).length=P.length*sz:=jU p P;rw[bU,aN]at hc;have H:=(p x).1;have B:adr (adr ⟨b,0,none⟩ (P.length*sz)) j=⟨b,P.length*sz+j,none⟩:=by rw[co,co,Nat.zero_add]
 rw[B];have n:P.length*sz+j<(P.flatMap f++(f x++Q.flatMap f)++c).toArray.size:=by
  simp only[List.size_toArray,ae];omega
 refine⟨eH hc n,xS hc λh' o q=>A h' ⟨by rw[d];simp,p,e,.inr ⟨b,c,u,hb,?_,w⟩⟩ (q.mono λz m=>.inl (by have m:z=b:=m;rw[m];exact hb))⟩
 rw[o];congr 3
 rw[bU,aN,C];apply Array.toList_inj.1;rw[Array.toList_setIfInBounds];simp only[ao];rw[List.set_append_right _ _ a4,show P.length*sz+j-(P.flatMap f).length=j by omega,List.set_append_left _ _ a4]
theorem KS{W:eh}{x:Hs}{h:ad}{m:Nat}:∀{ks:List aT} {ls:List bY},KidsAt W x h m ks ls->∃q:List (Nat×bY),ks=q.map Oz/\ls=q.map (·.2)/\∀k∈q,TrieAt W x h m k.1 k.2
 | [],[],_=>⟨[],rfl,rfl,λk b=>by cases b⟩
 |_::_,[],h=>h.elim
 | [],_::_,h=>h.elim
 |k::ks,l::ls,b=>by
  obtain⟨⟨g,e,t⟩,d⟩:=b;obtain⟨q,i,f,c⟩:=KS d;refine⟨(g,l)::q,by rw[e,i];rfl,by rw[f];rfl,λk' a=>?_⟩
  rcases au.1 a with rfl|a
  .exact t
  .exact c k' a
theorem Ke{b:Nat}(t:TrieAt W x h m b l)(hm:m<=13)(S:l.length<=100000){K:f9×f9->eu}
  (w:∀h' f,f.n=m->Fr.rem x f=wl x m l->f.cost x+1=cw x m l->f.Ok W (λy=>h.size<=y/\y<h'.size) x h'->Upd No h h'->K f.raw h'):Wa 311 [gV b] K h:=by
 refine Lq (some ⟨b,0,none⟩) ?_;unfold Ev dH UR ee aah;refine aV λj b1 k1=>?_
 have P:=TrieAt.upd0 k1 (TrieAt.less (W':=Pro W h j) Pro.hm t);obtain⟨d,n,sp,sk,Q,ow,D,q,hb,o,u,X,hq,J,Y,B,N⟩:∃d n sp sk Q ow D,∃q:List (Nat×bY),j[b]? =some (.cells (eB d n sp sk Q ow) 298 (0,0))/\Sl dZ 2 (Pro W h j) j sp D/\Sl rh 1 (Pro W h j) j sk (q.map Oz)/\D.length<=100000/\q.length<=32/\(D++q.flatMap λk=>wl x (m-1) k.2)=wl x m l/\2+(q.map λk=>cw x (m-1) k.2).sum=cw x m l/\(∀k∈q,TrieAt (Pro W h j) x j (m-1) k.1 k.2/\k.2.length<=100000)/\(q≠[]->0<m):=by
  cases m with
  |zero=>
   obtain⟨sp,sk,ow,hb,o,u,_⟩:=BuckAt.ex P;exact⟨0,0,sp,sk,true,ow,l,[],hb,o,u,S,a7,by simp[wl],by simp[cw],λk w=>(by cases w),λh=>absurd rfl h⟩
  |succ m=>
   obtain⟨s,nd,F⟩:=P;have F:∀c,c<32->SlotIs (Pro W h j) x j m s c (part x (12-m) c l):=F;obtain⟨d,n,sp,sk,ow,hb,bits,o,u,_⟩:=nd.ex;have I:=QG (W:=Pro W h j) (x:=x) (h:=j) (m:=m) (lev:=12-m) (s:=s) (l:=l) 32 F;obtain⟨q,V,E,e3⟩:=KS I;have E:mr x (12-m) l=q.map (·.2):=E
   have z:=Gl F;have Z:=zK x (12-m) l;have T:=y9 (g:=s.k);have hql:q.length=(fm s.k 32).length:=by rw[V,bS]
   refine⟨d,n,sp,sk,false,ow,fm s.p 32,q,hb,o,by rw[<-V];exact u,by rw[z];omega,a4,?_,?_,λk w=>⟨e3 k w,?_⟩,λ_=>Nat.succ_pos _⟩
   .rw[LO,z,E,List.flatMap_map];rfl
   .show _=2+_
    rw[E,List.map_map];rfl
   .have:k.2∈mr x (12-m) l:=by rw[E];exact aR.2 ⟨k,w,rfl⟩
    obtain⟨_,c,hc⟩:=qs this;rw[hc];exact aQ lJ S
 refine pI hb o a4 λO h2 C i=>?_
 refine SK (i.get0 hb) (u.upd i λ_ h=>h.elim) (by rw[bS];omega) λG h3 A v=>?_
 have b3:=v.get0 (i.get0 b1);have z1:=k1.size;have z2:=i.size;have z3:=v.size;have zb:=bw b1;refine cy (c:= [.slice none 0 0,.slice none 0 0]) (vs:= [sv O,sv G]) b3 rfl λU R p=>?_
 refine⟨O,vc R 0,G,vc R 1,?_⟩;have z4:=p.size;have H:Upd No h U:=((k1.tr i).tr v).own p (aj _);refine w U ⟨O,G,m,D,q⟩ rfl J (by unfold Fr.cost;simp only;omega) ⟨?_,?_,C.cap,A.cap,λk w=>⟨TrieAt.less (W:=Pro W h j) (λy a=>.inl (.inl a)) (TrieAt.updM (M:=(· =h.size)) p (λy a=>.inl (.inr (by have a:y=h.size:=a;omega))) (TrieAt.upd0 (i.tr v) (B k w).1)),(B k w).2⟩,N,hm⟩ H
 .exact(((C.upd v λ_ _ h=>h).within).upd p λy a e=>by have e:y=h.size:=e;have:=a.1;omega).sl λy a _ L=>L ⟨by have:=a.1;omega,by have:=a.2;omega⟩
 .exact(A.within.upd p λy a e=>by have e:y=h.size:=e;have:=a.1;omega).sl λy a _ L=>L ⟨by have:=a.1;omega,by have:=a.2;omega⟩
theorem W3{so:f9}{out:List (f9×f9)}{p:f9×f9}(d:OwnS UU 2 397 M h so out)(hM:∀b,h.size<=b->M b)(g:out.length+1<=1000000000)
  (c:∀s' h',OwnS UU 2 397 M h' s' (out++ [p])->Upd M h h'->K s' h'):
  ∃xs,SRow (hnew h (UU p) 397) (some (aH h)) (1*2) xs/\AppP (some [.slice none 0 0,.slice none 0 0]) 2 48 397 so.a so.len so.cap 1 xs (hnew h (UU p) 397) K:=by
 have k:=fD No h (UU p) 397;have e:OwnS UU 2 397 (λ_=>True) (hnew h (UU p) 397) ⟨some (aH h),1,1⟩ [p]:=⟨rfl,Wj,aj _,.inr ⟨h.size,[],rfl,trivial,bV ..,rfl⟩⟩
 refine⟨_,(e.sl (W:=No) λ_ _ _ h=>h).srow,?_⟩
 refine AppP.own (ys:= [p]) (d.upd k λ_ _ h=>h) rfl rfl rfl rfl a4 (by simp only[aP];omega) (hM _ (by rw[dA];omega)) λs' h' a f=>?_
 exact c s' h' a ((fD M h _ _).tr f)
set_option maxHeartbeats 2000000 in
theorem Nr{G0 C0:eh}{H:Nat}{fs0:List Fr}(cur:CurW W G0 C0 x h H fs0)(hW0:∀b,h.size<=b->W b){K:(dO×dO)×Bool->eu}
  (hn:∀h',DZ x fs0= []->Upd (λb=>C0 b\/b=H) h h'->K (((⟨#[]⟩:dO),(⟨#[]⟩:dO)),false) h')
  (hs:∀h' t p R G' C',DZ x fs0=p::R->DZ x t=R->CurW W G' C' x h' H t->(∀b,C' b->C0 b\/h.size<=b)->(∀b,G' b->G0 b\/h.size<=b)->Upd (λb=>C0 b\/b=H) h h'->K (p,true) h'):
  FZ 307 [gV H] K h:=by
 refine cZ (ud (some ⟨H,0,none⟩)) BO Tryz.func307 Tryz.call307 ?_;dsimp only[ud,cP,dH,nv,dh,lG,cj,nC,abs,aah,jz,fE,cL,nW,bq,Gd,cB,iL,ox,Gc,Nc,CP,uR];refine aV λh1 b1 k1=>ag.2 ?_
 have z1:=bw b1;obtain⟨s00,d00,hc0,_⟩:=cur.ex;have zc:=bw hc0;have s1:=k1.size;have cur1:=cur.upd k1 (λ_ h=>h.elim) (λ_ _ h=>h) (λ_ _ h=>h) λh=>h
 refine eF (λ(g:List Fr×(eh)×(eh)) (_:Unit) h'=>CurW W g.2.1 g.2.2 x h' H g.1/\DZ x g.1=DZ x fs0/\(∀b,g.2.2 b->(C0 b\/h.size<=b)/\b≠h.size)/\(∀b,g.2.1 b->(G0 b\/h.size<=b)/\b≠h.size)/\h'[h.size]? =some (.cells zPrL.toArray 35 (0,0))/\Upd (λb=>C0 b\/b=H) h h') (λg=>E9 x g.1) (fs0,G0,C0)
  ⟨cur1,rfl,λb hb=>⟨.inl hb,by have:=cur.lt b (.inl hb);omega⟩,λb hb=>⟨.inl hb,by have:=cur.lt b (.inr hb);omega⟩,b1,k1.wide⟩ ?_
 rintro I ⟨fs,G,C⟩ ⟨⟩ h' ⟨u,J,D,T,bz,hu⟩ hI;(try simp only at u J D T)
 obtain⟨s,d,aI,O⟩:=u.ex;have X:=O.len;rw[bS]at X;have hzs:h.size<h'.size:=bw bz;have zcb:=bw aI;refine⟨_,rfl,s,vc aI 0,?_⟩;refine aq (λhpos=>?_) λhnp=>?_
 .obtain⟨t,f,rfl⟩:∃t f,fs=t++ [f]:=by
   rcases MM fs with rfl|⟨l',y,e⟩
   .simp only[bC]at X;omega
   .exact⟨l',y,e⟩
  rw[cF,ce,fj]at O;rw[ae,aP]at X;have h14:=VU (n:=13) u.lv λf hf=>(u.ok f hf).n13
  rw[ae,aP]at h14;have eidx:IntKind.wrap .i64 ((s.len:Int)-1)=((t.length:Nat):Int):=by rw[dw a4];omega
  obtain⟨a,ha,hv⟩:=mq O (i:=t.length) (by rw[bS]);have V:=u.ok f (cr _ (av.2 rfl));have hpl:=V.p.len;have Y:=V.k.len;rw[bS]at Y;have hpc:=V.pc;have hkc:=V.kc;have hcap:=O.cap;refine⟨_,rfl,s,vc aI 0,_,rfl,s,vc aI 0,?_⟩;rw[eidx];refine⟨⟨a4,a4⟩,a,ha,_,rfl,f.sp,hv 0 _ rfl,?_⟩
  have keep:∀{h2:ad} {M:eh},Upd M h' h2->(∀b,M b->C b\/b=H\/b=h.size\/h'.size<=b)->∀{g:Fr},g.Ok W G x h'->g.Ok W G x h2:=λ{h2 M} k hM {g} o=>o.upd k (λb hb=>by
   rcases hM b hb with h|h|h|h
   .exact .inl (u.cw.1 b h)
   .exact .inl (by rw[h];exact u.cw.2)
   .exact .inl (by rw[h];exact hW0 _ (aj _))
   .exact .inr h) λb hb=>by
   rcases hM b hb with h|h|h|h
   .exact .inl λL=>(u.dj b L).1 h
   .exact .inl λL=>(u.dj b L).2 h
   .exact .inl λL=>(T b L).2 h
   .exact .inr h
  have S:=cC.1 u.lv;have hrs:=zP x t f;have hcs:=Bx x t f;refine aq (λhp=>?_) λhp=>?_
  .
   rcases N:f.ps with _|⟨p,ps⟩
   .rw[N]at hpl;simp only[bC]at hpl;omega
   have fop:=V.p;rw[N]at fop hpl;simp only[ar]at hpl;obtain⟨ap,hap,_,hvp⟩:=fop.at (i:=0) (x:=p) rfl;refine⟨_,rfl,f.sp,hv 0 _ rfl,⟨a4,a4⟩,ap,hap,p.1,hvp 0 _ rfl,p.2,hvp 1 _ rfl,?_⟩
   refine VN (p:=p) λh8 b8 k8=>?_
   have z8:=bw b8;have hst8:=O.upd k8 λ_ _ h=>h
   obtain⟨a',ha',hv8⟩:=mq hst8 (i:=t.length) (by rw[bS]);rw[ha]at ha';cases ha';refine⟨_,rfl,f.sp,hv8 0 _ rfl,⟨a4,a4⟩,_,rfl,?_⟩
   let P:Fr:=⟨⟨aW f.sp.a 1 f.sp.cap 2,f.sp.len-1,f.sp.cap-1⟩,f.sk,f.n,ps,f.ks⟩
   refine Sa hst8 (y:=P.raw) (j:=0) a4 rfl ha a7 λh9 ho9 Q=>?_
   have c9:=Q.get (k8.get0 aI) u.cc;refine⟨_,rfl,s,vc c9 0,_,rfl,?_⟩;refine tC (i:=1) (c':=abe s (s.len:Int)) c9 (show 1<2 by decide) rfl λh10 c10 w=>?_
   have hCh:∀b,C b->b<h'.size:=λb hb=>u.lt b (.inl hb)
   have b9:=Q.get b8 λhx=>by have:=hCh _ hx;omega
   have b10:=w.oth b9 a4;refine⟨_,vc b10 0,_,vc b10 1,?_⟩;have bz10:=w.oth (Q.get (k8.get0 bz) λhx=>(D _ hx).2 rfl) a4
   refine cy (c:=zPrL) (vs:= [.string p.1,.string p.2]) bz10 rfl λF b11 z=>?_
   refine⟨_,vc b11 0,_,vc b11 1,?_⟩;have c11:=z.oth c10 a4;have v:Upd (λb=>C b\/b=H\/b=h.size\/h'.size<=b) h' F:=((k8.wide.trans Q λb hb=>.inl (.inl hb)).trans w λb hb=>.inl (.inr (.inl hb))).trans z λb hb=>.inl (.inr (.inr (.inl hb)))
   have ho11:OwnS UU 2 397 C F s ((t++ [P]).map Fr.raw):=by
    rw[cF,ce,fj];exact(ho9.upd w λb hb e=>by have e:b=H:=e;rw[e]at hb;exact u.cc hb).upd z λb hb e=>(D b hb).2 e
   have fo':P.Ok W G x F:=by
    have o:=keep v (λb hb=>hb) V
    refine⟨?_,o.k,by show f.sp.len-1<=f.sp.cap-1;omega,o.kc,o.t,o.n0,o.n13⟩
    have op:=o.p;rw[N]at op;have:=Sl.sub op (l:=1) (hi:=(p::ps).length) (m:=f.sp.cap) (c:=f.sp.cap-1) a7 (aj _) (by simp only[ar];omega);rw[List.drop_one,List.tail_cons,aS a7]at this;have e:(p::ps).length-1=f.sp.len-1:=by simp only[ar];omega
    rw[e]at this;exact this
   refine hs F (t++ [P]) p (P.rem x++DZ x t) G C ?_ (zP x t P) ⟨⟨s,_,c11,ho11⟩,λg L=>?_,λb hb=>aA (u.lt b hb) v.size,u.dj,u.cc,u.cw,cC.2 ⟨S.1,cx ..,λg L g' B=>by rw[av.1 B];exact S.2.2 g L f (av.2 rfl)⟩⟩ (λb hb=>(D b hb).1) (λb hb=>(T b hb).1) ?_
   .rw[<-J,hrs]
    unfold Fr.rem;rw[N];rfl
   .rcases aL.1 L with L|L
    .exact keep v (λb hb=>hb) (u.ok g (ci _ L))
    .rw[av.1 L];exact fo'
   .refine hu.trans v λb hb=>?_
    rcases hb with h|h|h|h
    .exact(D b h).1.imp .inl id
    .exact .inl (.inr h)
    .exact .inr a4
    .exact .inr a4
  .have N:f.ps= []:=aJ.1 a4
   refine⟨_,rfl,f.sk,hv 1 _ rfl,?_⟩;refine aq (λhk=>?_) λhk=>?_
   .
    rcases E:f.ks with _|⟨kd,ks⟩
    .rw[E]at Y;simp only[bC]at Y;omega
    have fok:=V.k;rw[E]at fok Y;simp only[ar]at Y;rw[ce]at fok;obtain⟨ap,hap,_,hvp⟩:=fok.at0 (i:=0) (x:=Oz kd) rfl;have hfn:0<f.n:=V.n0 (by rw[E];simp);have hf13:=V.n13;refine⟨_,rfl,f.sk,hv 1 _ rfl,⟨a4,a4⟩,ap,hap,_,hvp,_,rfl,f.sk,hv 1 _ rfl,⟨a4,a4⟩,_,rfl,?_⟩
    let P:Fr:=⟨f.sp,⟨aW f.sk.a 1 f.sk.cap 1,f.sk.len-1,f.sk.cap-1⟩,f.n,f.ps,ks⟩
    refine Sa O (y:=P.raw) (j:=1) a4 rfl ha a7 λh8 ho8 A=>?_
    have c8:=A.get aI u.cc;have U:Upd (λb=>C b\/b=H\/b=h.size\/h'.size<=b) h' h8:=A.mono λb hb=>.inl (.inl hb)
    have s8:=A.size;refine⟨_,rfl,s,vc c8 0,?_⟩;have fo8:=keep U (λb hb=>hb) V
    obtain⟨tk,hkn⟩:=fo8.t kd (by rw[E];exact al ..);refine Ke tk a4 hkn λh9 g hgn hgr hgc go k9=>?_
    have c9:=k9.get0 c8;have s9:=k9.size;refine⟨vc c9 0,bF ⟨vc ((fD No h9 (UU g.raw) 397).get0 c9) 0,?_⟩⟩;have hC9:∀b,C b->b<h9.size:=λb hb=>by have:=u.lt b (.inl hb);omega
    refine W3 (M:=λb=>C b\/h9.size<=b) (p:=g.raw) ((ho8.upd k9 λ_ _ h=>h).more λb hb=>.inl hb) (λb hb=>.inr hb) (by rw[ae,bS,aP];omega) λaac h10 ho10 w=>?_
    have s10':=w.size;have c10:=w.get c9 (by rintro(hx|hx);exact u.cc hx;omega)
    refine⟨_,rfl,?_⟩;refine tC (i:=0) (c':=abe aac d) c10 (show 0<2 by decide) rfl λF c11 z=>?_
    have s11:=z.size;have v:Upd (λb=>C b\/b=H\/b=h.size\/h'.size<=b) h' F:=((U.tr k9.wide).trans w λb hb=>hb.elim (λh=>.inl (.inl h)) λh=>.inr a4).trans z λb hb=>.inl (.inr (.inl hb))
    have bz11:=z.oth (w.get (k9.get0 (A.get bz λhx=>(D _ hx).2 rfl)) (by rintro(hx|hx);exact(D _ hx).2 rfl;omega)) a4
    have hGl:∀b,G b->b<h'.size:=λb hb=>u.lt b (.inr hb)
    refine hI (t++ [P]++ [g],λb=>G b\/(h8.size<=b/\b<h9.size),λb=>(C b\/h9.size<=b)/\b<h10.size) () F ⟨⟨⟨aac,d,c11,?_⟩,λg' B=>?_,λb hb=>?_,λb hb=>?_,λhb=>?_,⟨λb hb=>?_,u.cw.2⟩,?_⟩,?_,λb hb=>?_,λb hb=>?_,bz11,?_⟩ ?_
    .rw[cF,cF,ce,fj,ce,fj]
     exact ho10.within.upd z λb hb e=>by
      have e:b=H:=e;rw[e]at hb;rcases hb.1 with h|h
      .exact u.cc h
      .omega
    .have Z:∀{q:Fr},q.Ok W G x F->q.Ok W (λb=>G b\/(h8.size<=b/\b<h9.size)) x F:=λo=>o.sub λb hb=>.inl hb
     rcases aL.1 B with B|B
     .rcases aL.1 B with B|B
      .exact Z (keep v (λb hb=>hb) (u.ok g' (ci _ B)))
      .rw[av.1 B]
       have o:=keep v (λb hb=>hb) V
       refine Z ⟨o.p,?_,o.pc,by show f.sk.len-1<=f.sk.cap-1;omega,λq hq=>o.t q (by rw[E];exact ay _ hq),λ_=>hfn,hf13⟩
       have op:=o.k;rw[E,ce]at op;have:=Sl.sub op (l:=1) (hi:=(Oz kd::ks.map Oz).length) (m:=f.sk.cap) (c:=f.sk.cap-1) a7 (aj _) (by simp only[ar,bS];omega);rw[List.drop_one,List.tail_cons,aS a7]at this;have e:(Oz kd::ks.map Oz).length-1=f.sk.len-1:=by simp only[ar,bS];omega
       rw[e]at this;exact this
     .rw[av.1 B]
      have o1:=go.upd w (λb hb=>hb.elim (λh=>.inl (u.cw.1 b h)) .inr) λb hb=>hb.elim (λh=>.inl λL=>by have:=u.lt b (.inl h);omega) .inr
      have o2:=o1.upd z (λb hb=>.inl (by have hb:b=H:=hb;rw[hb];exact u.cw.2)) λb hb=>.inl λL=>by have hb:b=H:=hb;omega
      exact o2.sub λb hb=>.inr hb
    .rcases hb with hb|hb|hb
     .omega
     .have:=hGl b hb;omega
     .omega
    .refine⟨λhc=>?_,λe=>?_⟩
     .rcases hb with hb|hb
      .rcases hc.1 with h|h
       .exact(u.dj b hb).1 h
       .have:=hGl b hb;omega
      .rcases hc.1 with h|h
       .have:=u.lt b (.inl h);omega
       .omega
     .subst e
      rcases hb with hb|hb
      .exact(u.dj _ hb).2 rfl
      .omega
    .rcases hb.1 with h|h
     .exact u.cc h
     .omega
    .rcases hb.1 with h|h
     .exact u.cw.1 b h
     .exact hW0 b a4
    .refine cC.2 ⟨cC.2 ⟨S.1,cx ..,λq hq q' hq'=>by rw[av.1 hq'];exact S.2.2 q hq f (av.2 rfl)⟩,cx ..,λq hq q' hq'=>?_⟩
     rw[av.1 hq',hgn];rcases aL.1 hq with hq|hq
     .have:=S.2.2 q hq f (av.2 rfl);omega
     .rw[av.1 hq];show f.n-1<f.n;omega
    .rw[zP,zP,<-J,hrs,hgr]
     unfold Fr.rem;rw[N,E,aN];simp;rfl
    .refine⟨?_,?_⟩
     .rcases hb.1 with h|h
      .exact(D b h).1
      .exact .inr a4
     .rcases hb.1 with h|h
      .exact(D b h).2
      .omega
    .refine⟨?_,?_⟩
     .rcases hb with h|h
      .exact(T b h).1
      .exact .inr a4
     .rcases hb with h|h
      .exact(T b h).2
      .omega
    .refine hu.trans v λb hb=>?_
     rcases hb with h|h|h|h
     .exact(D b h).1.imp .inl id
     .exact .inl (.inr h)
     .exact .inr a4
     .exact .inr a4
    .show E9 x (t++ [P]++ [g])<E9 x (t++ [f])
     rw[Bx,Bx,hcs];have e1:f.cost x=P.cost x+cw x (f.n-1) kd.2:=by
      unfold Fr.cost;rw[E,ce,List.sum_cons];have e0:(P.ks.map λk=>cw x (P.n-1) k.2).sum=(ks.map λk=>cw x (f.n-1) k.2).sum:=rfl
      omega
     omega
   .
    have E:f.ks= []:=aJ.1 a4;refine⟨_,rfl,s,vc aI 0,_,rfl,s,vc aI 0,?_⟩;rw[eidx];refine⟨⟨a4,a4⟩,?_⟩
    simp only[Bd];refine⟨_,rfl,?_⟩;refine tC (i:=0) (c':=abe ⟨aW s.a 0 s.cap 2,t.length,s.cap⟩ d) aI (show 0<2 by decide) rfl λh8 c8 A=>?_
    have hpop:=OwnS.pop O;rw[bS]at hpop;have v:Upd (λb=>C b\/b=H\/b=h.size\/h'.size<=b) h' h8:=A.mono λb hb=>.inl (.inr (.inl hb))
    refine hI (t,G,C) () h8 ⟨⟨⟨_,d,c8,hpop.upd A λb hb e=>by have e:b=H:=e;rw[e]at hb;exact u.cc hb⟩,λg L=>keep v (λb hb=>hb) (u.ok g (ci _ L)),λb hb=>aA (u.lt b hb) v.size,u.dj,u.cc,u.cw,S.1⟩,?_,D,T,A.oth bz a4,hu.trans A λb hb=>.inl (.inr hb)⟩ ?_
    .rw[<-J,hrs]
     unfold Fr.rem;rw[N,E];rfl
    .show E9 x t<E9 x (t++ [f])
     rw[hcs];unfold Fr.cost;omega
 .have h0:fs= []:=aJ.1 a4
  subst h0;refine⟨_,rfl,?_⟩;refine tC (i:=1) (c':=abe s 0) aI (show 1<2 by decide) rfl λh8 c8 A=>?_
  refine cy (c:=zPrL) (vs:=zPrL) (A.oth bz a4) rfl λh9 b9 Q=>?_
  refine⟨_,vc b9 0,_,vc b9 1,hn h9 J.symm ((hu.trans A λb hb=>.inl (.inr hb)).trans Q λb hb=>.inr (Nat.le_of_eq (Eq.symm hb)))⟩
def Below(W:eh)(x:Hs)(h:ad)(m:Nat)(r:aT)(l:bY):Prop:=(r=none/\l= [])\/∃b,r=some ⟨b,0,none⟩/\TrieAt W x h m b l
theorem Below.upd0(k:Upd No h h')(t:Below W x h m r l):Below W x h' m r l:=t.imp id λ⟨b,e,t⟩=>⟨b,e,TrieAt.upd0 k t⟩
theorem Below.less(hm:∀b,W' b->W b\/h.size<=b)(t:Below W x h m r l):Below W' x h m r l:=t.imp id λ⟨b,e,t⟩=>⟨b,e,TrieAt.less hm t⟩
theorem Below.updM(k:Upd M h h')(hm:∀b,M b->W b\/h.size<=b)(t:Below W x h m r l):Below W x h' m r l:=t.imp id λ⟨b,e,t⟩=>⟨b,e,TrieAt.updM k hm t⟩
theorem Zj(x:Hs):∀m,wl x m []= []
 |0=>rfl
 |m+1=>aJ.1 (Nat.le_zero.1 (LP x (m+1) []))
theorem PD(t:Below W x h m r l)(hm:m<=13)(j:l.length<=100000){K:f9×f9->eu}
  (a:∀h' f,Fr.rem x f=wl x m l->f.Ok W (λy=>h.size<=y/\y<h'.size) x h'->Upd No h h'->K f.raw h'):Wa 311 [.pointer r] K h:=by
 rcases t with⟨rfl,rfl⟩|⟨b,rfl,t⟩
 .refine Lq none ?_
  unfold Ev dH UR ee aah;refine aV λo b1 k1=>?_
  refine vr none ?_;dsimp only[pP,yG,cj,cL];refine aw.2 (xf none ?_);dsimp only[qy,cj,cL];refine aw.2 ?_;refine cy (c:= [.slice none 0 0,.slice none 0 0]) (vs:= [.slice none 0 0,.slice none 0 0]) b1 rfl λd g e=>?_
  refine⟨⟨none,0,0⟩,vc g 0,⟨none,0,0⟩,vc g 1,?_⟩;refine a d ⟨⟨none,0,0⟩,⟨none,0,0⟩,0,[],[]⟩ ?_ ⟨Sl.nil fP,Sl.nil rN,aj _,aj _,λk a=>(by cases a),λh=>absurd rfl h,aK _⟩ (k1.own e (aj _))
  rw[Zj];rfl
 .exact Ke t hm j λh' f _ n _ d i=>a h' f n d i
theorem PE(t:Below W x h m r l)(hm:m<=13)(q:l.length<=100000)(i:∀y,h.size<=y->W y){K:aT->eu}
  (v:∀h' cb f G C,h.size<=cb->(∀y,G y\/C y->h.size<=y)->CurW W G C x h' cb [f]->f.rem x=wl x m l->Upd No h h'->K (some ⟨cb,0,none⟩) h'):fx 306 [.pointer r] K h:=by
 refine cZ (IG r) .nil Tryz.func306 Tryz.call306 ?_;unfold IG abs;refine PD t hm q λa f e p j=>?_
 refine aV λk b3 c=>aV λs n d=>?_
 have A:=bw b3;have z:=bw n;have B:=j.size;have w:=c.size;have o:OwnS UU 2 397 (λy=>y=a.size) k ⟨some (aH a),1,1⟩ [f.raw]:=⟨rfl,Wj,aj _,.inr ⟨a.size,[],rfl,rfl,b3,rfl⟩⟩
 refine v s k.size f (λy=>h.size<=y/\y<a.size) (λy=>y=a.size) a4 (λy b=>by rcases b with h|h<;>omega) ⟨⟨_,0,n,o.upd d λ_ _ h=>h⟩,λg u=>?_,λy b=>by rcases b with h|h<;>omega,λy b=>⟨a4,a4⟩,a4,⟨λy b=>i y a4,i _ a4⟩,cx ..⟩ e ((j.tr c).tr d)
 rw[av.1 u];exact p.upd (c.tr d) (λ_ h=>h.elim) λ_ h=>h.elim
theorem PF(t:Below W x h m r l)(hm:m<=13)(hn:l.length<=100000){K:Value->eu}
  (hk:∀fv h',Gives PG fv ZR l.length (λxs=>xs=wl x m l) (λy=>y<h'.size) h'->Upd No h h'->K fv h'):JC 294 [.pointer r] K h:=by
 refine cZ (IH r) .nil Tryz.func294 Tryz.call294 ?_;unfold IH;refine aV λB b1 k1=>?_
 have z1:=bw b1;refine hk _ B ?_ k1;have t1:=Below.less (W':=λy=>B.size<=y) (λy a=>.inr a) (Below.upd0 k1 t)
 have hwl:=LP x m l;refine⟨λy a=>a,305,#[],_,rfl,λy J A M T K' ht hj hu hq ha hk'=>?_⟩
 refine JT y (aH h) ?_;dsimp only[xZ,nv,qf,yI,nC,nW,bq];have d1:=hu.get b1 (hq _ z1);have s4:=hu.size;have t4:Below (λy=>B.size<=y) x T m r l:=Below.updM hu (λy a=>.inl (by
  rcases cp y B.size with D|D
  .exact absurd a (hq y D)
  .exact D)) t1
 refine⟨_,ba d1,?_⟩;refine PE t4 hm hn (λy a=>aQ s4 a) λh5 cb f G C hcb H cur hfr k5=>?_
 have k:=ht.lt _ _ _ hj;have hA3:∀y,A y->B.size<=y:=λy a=>by
  rcases cp y B.size with D|D
  .exact absurd D (ha y a)
  .exact D
 have s5:=k5.size;have P:DZ x [f]=wl x m l:=by rw[<-hfr];simp[DZ]
 refine eF (λ(g:bY×List Fr×(eh)×(eh)×(eh)) (_:Unit) h'=>CurW (λy=>B.size<=y) g.2.2.2.1 g.2.2.2.2 x h' cb g.2.1/\J g.1 g.2.2.1 h'/\Upd A T h'/\(∀y,g.2.2.1 y->(A y\/T.size<=y)/\¬g.2.2.2.1 y/\¬g.2.2.2.2 y/\y≠cb)/\(∀y,g.2.2.2.1 y\/g.2.2.2.2 y->T.size<=y)/\g.1++DZ x g.2.1=wl x m l/\h5.size<=h'.size) (λg=>(DZ x g.2.1).length) ([],[f],A,G,C)
  ⟨cur,ht.keep _ _ _ _ No hj k5 (λ_ _ h=>h),k5.wide,λy a=>⟨.inl a,λhx=>by have:=k y a;have:=H y (.inl hx);omega,λhx=>by have:=k y a;have:=H y (.inr hx);omega,λe=>by have:=k y a;omega⟩,H,by rw[P];rfl,aj _⟩ ?_
 rintro I ⟨pre,fs,A1,G1,C1⟩ ⟨⟩ h' ⟨cu,q,hu',b,i,c,hsz⟩ hI;(try simp only at cu q b i c)
 have z:=ht.lt _ _ _ q;have Y:∀y,A1 y->B.size<=y:=λy a=>(b y a).1.elim (hA3 y) λh=>a4
 have hd:∀y,A1 y->¬(C1 y\/y=cb):=λy a hx=>hx.elim (b y a).2.2.1 (b y a).2.2.2
 have X:∀y,C1 y\/y=cb->T.size<=y:=λy a=>a.elim (λh=>i y (.inr h)) λe=>a4
 refine Nr cu (λy a=>a4) (λh6 hr0 j=>?_) λh6 fs' p R G' C' O U o hC' Z j=>?_
 .have F:=ht.keep _ _ _ _ _ q j hd
  refine yk λS b7 L=>?_
  refine eM (λt u=>t=true/\u=S) (λR hR=>aw.2 (hR _ _ ⟨rfl,rfl⟩)) ?_
  rintro t u ⟨rfl,rfl⟩;refine aw.2 (hk' pre A1 u ?_ (ht.keep _ _ _ _ No F L (λ_ _ h=>h)) ?_ λy a=>(b y a).1)
  .rw[hr0,aX]at c
   exact c
  .exact(hu'.trans j λy a=>.inr (X y a)).tr L.wide
 .have F:=ht.keep _ _ _ _ _ q j hd
  refine yk (p:=p) λS b7 L=>?_
  have hj7:=ht.keep _ _ _ _ No F L (λ_ _ h=>h)
  have cu7:=o.upd L (λ_ h=>h.elim) (λ_ _ h=>h) (λ_ _ h=>h) λh=>h
  have V:Upd A T S:=(hu'.trans j λy a=>.inr (X y a)).tr L.wide
  have s6:=j.size;have s7:=L.size;refine eM (λt u=>t=false/\∃Q,J (pre++ [p]) Q u/\Upd A1 S u/\∀y,Q y->A1 y\/S.size<=y) (λR' hR=>?_) ?_
  .refine ag.2 ⟨_,vc b7 0,_,vc b7 1,?_⟩
   refine ht.step pre A1 S p _ hj7 ?_ λu Q E n N=>hR _ _ ⟨rfl,Q,E,n,N⟩
   have:=congrArg List.length c;rw[O]at this;simp only[ae,ar]at this;omega
  .rintro t u ⟨rfl,Q,E,n,N⟩
   have v:∀y,G' y->¬A1 y:=λy a hx=>(Z y a).elim (b y hx).2.1 λh=>by have:=z y hx;omega
   have w:∀y,C' y->¬A1 y:=λy a hx=>(hC' y a).elim (b y hx).2.2.1 λh=>by have:=z y hx;omega
   have hcb6:cb<h6.size:=by obtain⟨s,d,hx,_⟩:=o.ex;exact bw hx
   refine ag.2 (hI (pre++ [p],fs',Q,G',C') () u ⟨?_,E,?_,λy a=>?_,λy a=>?_,?_,by have:=n.size;omega⟩ ?_)
   .exact cu7.upd n (λy a=>.inl (Y y a)) w v λhx=>(b _ hx).2.2.2 rfl
   .exact V.trans n λy a=>(b y a).1
   .rcases N y a with h|h
    .exact⟨(b y h).1,λhx=>v y hx h,λhx=>w y hx h,(b y h).2.2.2⟩
    .exact⟨.inr a4,λhx=>by have:=o.lt y (.inr hx);omega,λhx=>by have:=o.lt y (.inl hx);omega,a4⟩
   .rcases a with a|a
    .rcases Z y a with h|h
     .exact i y (.inl h)
     .omega
    .rcases hC' y a with h|h
     .exact i y (.inr h)
     .omega
   ·(try simp only)
    rw[ao,U,<-c,O];rfl
   ·(try simp only)
    rw[O,U];simp
theorem Jl(t:Below W x h m r l)(hm:m<=13)(g:bO l)(o:l.length<=100000)(b:∀y,W' y->y<h.size)
  (s:∀s' h',Sl dZ 2 W' h' s' l->s'.len<=s'.cap->Upd No h h'->K s' h'):dS 272 [.pointer r] K h:=by
 refine cZ (AD r) .nil Tryz.func272 Tryz.call272 ?_;unfold AD;refine PF t hm o λw z q f=>?_
 refine O0 q a4 λv A xs e i d=>?_
 subst e;have k:=LP x m l;refine Tq (W':=W') (i.sl (W:=No) λ_ _ _ h=>h) (λy u=>aA (b y u) (f.tr d).size) a4 λj p a c n=>?_
 rw[Zv g]at a;exact s j p a c ((f.tr d).tr n)
end
section
open Go.Lift
variable {a b:Pr}{A B:bY}
abbrev Ch:=dO×dO×dO×Bool×Bool
abbrev Jj(c:Ch):c5:= [.string c.1,.string c.2.1,.string c.2.2.1,.bool c.2.2.2.1,.bool c.2.2.2.2]
def JF(p:Pr):Ch:=(p.1,p.2,⟨#[]⟩,true,false)
def Xu(p:Pr):Ch:=(p.1,⟨#[]⟩,p.2,false,true)
def iE:bY->bY->List Ch
 | [],B=>B.map Xu
 |a::A,[]=>JF a::iE A []
 |a::A,b::B=>if kl a.1 b.1 then JF a::iE A (b::B)else if kl b.1 a.1 then Xu b::iE (a::A) B else if a.2=b.2 then iE A B else(a.1,a.2,b.2,true,true)::iE A B
termination_by A B=>A.length+B.length
theorem jl(B:bY):iE [] B=B.map Xu:=by unfold iE;rfl
theorem w7:∀A:bY,iE A []=A.map JF
 | []=>by rw[jl];rfl
 |a::A=>by unfold iE;rw[w7 A];rfl
theorem rq(a b:Pr)(A B:bY):iE (a::A) (b::B)=if kl a.1 b.1 then JF a::iE A (b::B)else if kl b.1 a.1 then Xu b::iE (a::A) B else if a.2=b.2 then iE A B else(a.1,a.2,b.2,true,true)::iE A B:=by
 conv=>lhs;unfold iE
theorem V0{a b:dO}(h:kl a b):¬kl b a:=λk=>bT _ (dI h k)
theorem tX:∀{B:bY},(∀q∈B,kl a.1 q.1)->iE (a::A) B=JF a::iE A B
 | [],_=>by rw[w7,w7];rfl
 |b::B,h=>by rw[rq,if_pos (h b (al ..))]
theorem tW:∀{A:bY},(∀q∈A,kl b.1 q.1)->iE A (b::B)=Xu b::iE A B
 | [],_=>by rw[jl,jl];rfl
 |a::A,h=>by
  have h:=h a (al ..);rw[rq,if_neg (V0 h),if_pos h]
theorem CF:∀A:bY,iE A A= []
 | []=>by rw[jl];rfl
 |a::A=>by rw[rq,if_neg (bT _),if_neg (bT _),if_pos rfl,CF A]
def zl(a b:Pr):List Ch:=if a.2=b.2 then[]else[(a.1,a.2,b.2,true,true)]
theorem tV(e:a.1=b.1)(A B:bY):iE (a::A) (b::B)=zl a b++iE A B:=by
 rw[rq,e,if_neg (bT _),if_neg (bT _)];unfold zl;split
 .rfl
 .rw[<-e];rfl
theorem zZ:∀{A B:bY} {c:Ch},c∈iE A B->∃p,p∈A++B/\c.1=p.1
 | [],B,c,h=>by
  rw[jl]at h;obtain⟨p,d,e⟩:=aR.1 h;exact⟨p,d,by rw[<-e];rfl⟩
 |a::A,[],c,h=>by
  rw[w7]at h;obtain⟨p,d,e⟩:=aR.1 h;exact⟨p,ci _ d,by rw[<-e];rfl⟩
 |a::A,b::B,c,h=>by
  rw[rq]at h;by_cases f:kl a.1 b.1
  .rw[if_pos f]at h
   rcases au.1 h with h|h
   .exact⟨a,al ..,by rw[h];rfl⟩
   .obtain⟨p,d,e⟩:=zZ h
    exact⟨p,ay _ d,e⟩
  .rw[if_neg f]at h
   by_cases i:kl b.1 a.1
   .rw[if_pos i]at h
    rcases au.1 h with h|h
    .exact⟨b,cr _ (al ..),by rw[h];rfl⟩
    .obtain⟨p,d,e⟩:=zZ h
     refine⟨p,?_,e⟩;rcases aL.1 d with d|d
     .exact ci _ d
     .exact cr _ (ay _ d)
   .rw[if_neg i]at h
    have g:c∈iE A B->∃p,p∈a::A++b::B/\c.1=p.1:=λh=>by
     obtain⟨p,d,e⟩:=zZ h;refine⟨p,?_,e⟩;rcases aL.1 d with d|d
     .exact ci _ (ay _ d)
     .exact cr _ (ay _ d)
    split at h
    .exact g h
    .rcases au.1 h with h|h
     .exact⟨a,al ..,by rw[h]⟩
     .exact g h
termination_by A B=>A.length+B.length
theorem oq{P:bY->bY->Prop}(nil:P [] [])(c:∀a A B,bO (a::A)->bO B->(∀q∈B,kl a.1 q.1)->P A B->P (a::A) B)
  (d:∀b A B,bO A->bO (b::B)->(∀q∈A,kl b.1 q.1)->P A B->P A (b::B))(same:∀a b A B,a.1=b.1->bO (a::A)->bO (b::B)->P A B->P (a::A) (b::B)):
  ∀{A B:bY},bO A->bO B->P A B
 | [],[],_,_=>nil
 | [],b::B,hA,hB=>d b [] B hA hB (λ_ h=>absurd h dL) (oq nil c d same hA (aC.1 hB).2)
 |a::A,[],hA,hB=>c a A [] hA hB (λ_ h=>absurd h dL) (oq nil c d same (aC.1 hA).2 hB)
 |a::A,b::B,hA,hB=>by
  have g:=aC.1 hA;have i:=aC.1 hB;by_cases k:kl a.1 b.1
  .refine c a A (b::B) hA hB (λq f=>?_) (oq nil c d same g.2 hB)
   rcases au.1 f with f|f
   .rw[f];exact k
   .exact dI k (i.1 q f)
  .by_cases m:kl b.1 a.1
   .refine d b (a::A) B hA hB (λq f=>?_) (oq nil c d same hA i.2)
    rcases au.1 f with f|f
    .rw[f];exact m
    .exact dI m (g.1 q f)
   .have e:a.1=b.1:=Decidable.byContradiction λj=>m (l8 k j)
    exact same a b A B e hA hB (oq nil c d same g.2 i.2)
termination_by A B=>A.length+B.length
abbrev Ng(l:List Ch):Prop:=l.Pairwise λp q=>kl p.1 q.1
theorem Bf(f:bO A)(g:bO B):Ng (iE A B):=by
 refine oq (P:=λA B=>Ng (iE A B)) ?_ (λa A B f _ h i=>?_) (λb A B _ g h i=>?_) (λa b A B e f g i=>?_) f g
 .rw[jl];exact .nil
 .rw[tX h]
  refine aC.2 ⟨λc hc=>?_,i⟩
  obtain⟨p,d,e⟩:=zZ hc;rw[e];rcases aL.1 d with d|d
  .exact(aC.1 f).1 p d
  .exact h p d
 .rw[tW h]
  refine aC.2 ⟨λc hc=>?_,i⟩
  obtain⟨p,d,e⟩:=zZ hc;rw[e];rcases aL.1 d with d|d
  .exact h p d
  .exact(aC.1 g).1 p d
 .rw[tV e]
  unfold zl;split
  .exact i
  .refine aC.2 ⟨λc hc=>?_,i⟩
   obtain⟨p,d,j⟩:=zZ hc;rw[j];rcases aL.1 d with d|d
   .exact(aC.1 f).1 p d
   .rw[e];exact(aC.1 g).1 p d
theorem Q9(g:dO->Bool)(f:bO A)(j:bO B):iE (A.filter λp=>g p.1) (B.filter λp=>g p.1)=(iE A B).filter λc=>g c.1:=by
 refine oq (P:=λA B=>iE (A.filter λp=>g p.1) (B.filter λp=>g p.1)=(iE A B).filter λc=>g c.1) ?_ (λa A B f _ h i=>?_) (λb A B _ j h i=>?_) (λa b A B e f j i=>?_) f j
 .rw[iB,jl];rfl
 .rw[tX h,aZ,aZ,<-i]
  show iE (if g a.1=true then _ else _) _=if g a.1=true then _ else _
  by_cases d:g a.1=true
  .rw[if_pos d,if_pos d,tX λq k=>h q (bL.1 k).1]
  .rw[if_neg d,if_neg d]
 .rw[tW h,aZ,aZ,<-i]
  show iE _ (if g b.1=true then _ else _)=if g b.1=true then _ else _
  by_cases d:g b.1=true
  .rw[if_pos d,if_pos d,tW λq k=>h q (bL.1 k).1]
  .rw[if_neg d,if_neg d]
 .rw[tV e,ct,<-i,aZ,aZ,<-e]
  unfold zl;by_cases d:g a.1=true
  .rw[if_pos d,if_pos d,tV e]
   unfold zl;split
   .rfl
   .rw[aZ,if_pos d];rfl
  .rw[if_neg d,if_neg d]
   split
   .rfl
   .rw[aZ,if_neg d];rfl
theorem GD{A2 B2:bY}:∀{A1 B1:bY},bO A1->bO B1->(∀p∈A1,∀q∈A2,kl p.1 q.1)->(∀p∈A1,∀q∈B2,kl p.1 q.1)->(∀p∈B1,∀q∈A2,kl p.1 q.1)->(∀p∈B1,∀q∈B2,kl p.1 q.1)->
  iE (A1++A2) (B1++B2)=iE A1 B1++iE A2 B2:=by
 intro A1 B1 m k;refine oq (P:=λA1 B1=>(∀p∈A1,∀q∈A2,kl p.1 q.1)->(∀p∈A1,∀q∈B2,kl p.1 q.1)->(∀p∈B1,∀q∈A2,kl p.1 q.1)->(∀p∈B1,∀q∈B2,kl p.1 q.1)->iE (A1++A2) (B1++B2)=iE A1 B1++iE A2 B2) ?_ (λa A B m _ h i=>?_) (λb A B _ k h i=>?_) (λa b A B e m k i=>?_) m k
 .intro _ _ _ _;rw[jl];rfl
 .intro j f d g
  rw[cG,tX h,tX (λq n=>(aL.1 n).elim (h q) (f a (al ..) q)),i (λp c=>j p (ay _ c)) (λp c=>f p (ay _ c)) d g];rfl
 .intro j f d g
  rw[cG,tW h,tW (λq n=>(aL.1 n).elim (h q) (d b (al ..) q)),i j f (λp c=>d p (ay _ c)) (λp c=>g p (ay _ c))];rfl
 .intro j f d g
  rw[cG,cG,tV e,tV e,i (λp c=>j p (ay _ c)) (λp c=>f p (ay _ c)) (λp c=>d p (ay _ c)) (λp c=>g p (ay _ c)),ao]
theorem sZ(c:bO A)(d:bO B):(iE A B).length<=A.length+B.length:=by
 refine oq (P:=λA B=>(iE A B).length<=A.length+B.length) ?_ (λa A B c _ h i=>?_) (λb A B _ d h i=>?_) (λa b A B e c d i=>?_) c d
 .rw[jl];exact aj _
 .rw[tX h];simp only[ar];omega
 .rw[tW h];simp only[ar];omega
 .rw[tV e,ae,ar,ar]
  have:(zl a b).length<=1:=by unfold zl;split<;>simp
  omega
theorem EV{α:Type}(g:α->Nat)(n:Nat):∀L:List α,((L.filter λx=>decide (g x<n))++L.filter λx=>decide (g x=n)).Perm (L.filter λx=>decide (g x<n+1))
 | []=>.refl _
 |a::L=>by
  have i:=EV g n L;rw[aZ,aZ,aZ];by_cases c:g a<n
  .rw[if_pos (decide_eq_true c),if_neg a9,if_pos a9]
   exact i.cons a
  .by_cases b:g a=n
   .rw[if_neg a9,if_pos (by simpa using b),if_pos a9]
    exact List.perm_middle.trans (i.cons a)
   .rw[if_neg a9,if_neg (by simpa using b),if_neg a9]
    exact i
end
section
open Go.Lift
variable {C M W:eh}{h h':ad}{sb n:Nat}{x:Hs}{L:List Ch}{s:f9}{l:bY}{kind:Int}
theorem WQ(x:Ch):(Jj x).length=5/\0<5:=⟨rfl,a4⟩
abbrev abJ(x:Hs)(s:f9):Array Value:= #[.int .u64 x.k0,.int .u64 x.k1,.int .u64 x.mask,sv s]
structure SetAt(C:eh)(h:ad)(sb:Nat)(x:Hs)(L:List Ch):Prop where
 ex:∃s,h[sb]? =some (.cells (abJ x s) 272 (0,0))/\OwnS Jj 5 200 C h s L
 lt:∀b,C b->b<h.size
 ne:¬C sb
theorem SetAt.upd(st:SetAt C h sb x L)(k:Upd M h h')(c:∀b,C b->¬M b)(d:¬M sb):SetAt C h' sb x L:=by
 obtain⟨s,a,e⟩:=st.ex;exact⟨⟨s,k.get a d,e.upd k c⟩,λb hb=>aA (st.lt b hb) k.size,st.ne⟩
theorem SetAt.upd0(st:SetAt C h sb x L)(k:Upd No h h'):SetAt C h' sb x L:=st.upd k (λ_ _ h=>h) λh=>h
abbrev UG(C:eh)(h:ad)(sb:Nat)(x:Hs)(L:List Ch)(G:eu):Prop:=∀h' C',SetAt C' h' sb x L->(∀b,C' b->C b\/h.size<=b)->Upd (λb=>C b\/b=sb) h h'->G h'
theorem P1{c:Ch}(st:SetAt C h sb x L)(hb:h[sb]? =some (.cells (abJ x s) 272 (0,0))) (p:OwnS Jj 5 200 C h s L) (w:L.length+1<=100000000) {G:eu} (n:UG C h sb x (L++ [c]) G):
  At (hnew h [.string c.1,.string c.2.1,.string c.2.2.1,.bool c.2.2.2.1,.bool c.2.2.2.2] 200) (λg=>aI g (adr ⟨sb,0,none⟩ 3)=some (.slice s.a s.len s.cap)/\∃xs,SRow g (some (aH h)) (1*5) xs/\
   AppP (some [.string (⟨#[]⟩:dO),.string (⟨#[]⟩:dO),.string (⟨#[]⟩:dO),.bool false,.bool false]) 5 56 200 s.a s.len s.cap 1 xs g (λi j=>∃a:Addr,some (⟨sb,0,none⟩:Addr)=some a/\(Wr j (adr a 3)/\At (hset j (adr a 3) (.slice i.a i.len i.cap)) G))):=by
 refine aV λg b1 k1=>⟨vc (k1.get0 hb) 3,?_⟩
 have u:=bw b1;have v:=k1.size;have t:=bw hb;have m:OwnS Jj 5 200 (λ_=>True) g ⟨some (aH h),1,1⟩ [c]:=⟨rfl,WQ,aj _,.inr ⟨h.size,[],rfl,trivial,b1,rfl⟩⟩
 refine⟨_,(m.sl (W:=No) λ_ _ _ h=>h).srow,?_⟩
 refine AppP.own (M:=λb=>C b\/g.size<=b) (ys:= [c]) ((p.upd k1 λ_ _ h=>h).more λ_ h=>.inl h) rfl rfl rfl rfl a4 (by simp only[aP];omega) (.inr (aj _)) λi j k d=>?_
 have b2:=d.get (k1.get0 hb) λh=>h.elim st.ne λh=>a4
 have q:=d.size;refine⟨_,rfl,tC (c':=abJ x i) b2 a7 rfl λo b3 f=>?_⟩
 refine n o (λb=>(C b\/g.size<=b)/\b<j.size) ⟨⟨i,b3,(k.within).upd f λb hb e=>?_⟩,λb hb=>aA hb.2 f.size,λhb=>?_⟩ (λb hb=>hb.1.imp id λh=>a4) ?_
 .have e:b=sb:=e
  rw[e]at hb;exact hb.1.elim st.ne λh=>a4
 .exact hb.1.elim st.ne λh=>a4
 .exact((k1.wide.trans d λb hb=>hb.elim (λh=>.inl (.inl h)) λh=>.inr a4).trans f λb hb=>.inl (.inr hb))
theorem R8{p:Pr}(a:Sl dZ 2 W h s (p::l))(hc:s.len<=s.cap):Sl dZ 2 W h ⟨aW s.a 1 s.cap 2,s.len-1,s.cap-1⟩ l:=by
 have b:=a.len;rw[ar]at b;have:=Sl.sub a (l:=1) (hi:=s.len) (m:=s.cap) (c:=s.cap-1) a4 (by rw[ar];omega) hc;rw[show((p::l).drop 1).take (s.len-1)=l by rw[List.drop_succ_cons,List.drop_zero];exact aS a4]at this
 exact this
theorem Cs{s':f9}{A B:bY}(st:SetAt C h sb x L)(hs:Sl dZ 2 (λb=>C b\/b=sb) h s A)(hs':Sl dZ 2 (λb=>C b\/b=sb) h s' B)(hc:s.len<=s.cap)(hc':s'.len<=s'.cap)
  (hn:L.length+A.length+B.length<=100000000){K:Unit->eu}(hk:UG C h sb x (L++iE A B) (K ())):dx 229 [gV sb,.slice s.a s.len s.cap,.slice s'.a s'.len s'.cap] K h:=by
 refine cZ (xz (some ⟨sb,0,none⟩) s s') EC Tryz.func229 Tryz.call229 ?_;dsimp only[xz,cj,Ta,FP,cL,iL,dh,Gc,fE,cP,lf,Iu,CP,Ri];have hss:=hs.less (W':=λb=>C b\/b=sb\/h.size<=b) λb hb=>hb.elim (λh=>.inl (.inl h)) λh=>h.elim (λh=>.inl (.inr h)) .inr
 have hss':=hs'.less (W':=λb=>C b\/b=sb\/h.size<=b) λb hb=>hb.elim (λh=>.inl (.inl h)) λh=>h.elim (λh=>.inl (.inr h)) .inr
 refine eF (λ(g:bY×bY×List Ch×(eh)) (t:f9×f9) h'=>SetAt g.2.2.2 h' sb x g.2.2.1/\(∀b,g.2.2.2 b->C b\/h.size<=b)/\Upd (λb=>C b\/b=sb) h h'/\Sl dZ 2 (λb=>C b\/b=sb\/h.size<=b) h' t.1 g.1/\Sl dZ 2 (λb=>C b\/b=sb\/h.size<=b) h' t.2 g.2.1/\t.1.len<=t.1.cap/\t.2.len<=t.2.cap/\g.2.2.1++iE g.1 g.2.1=L++iE A B/\g.2.2.1.length+g.1.length+g.2.1.length<=L.length+A.length+B.length)
  (λg=>g.1.length+g.2.1.length) (A,B,L,C) ⟨st,λ_ h=>.inl h,eQ _ _,hss,hss',hc,hc',rfl,aj _⟩ ?_
 rintro I ⟨A1,B1,L1,W⟩ ⟨v,N⟩ h1 ⟨m,D,T,j,n,F,J,he,H⟩ hI;(try simp only at m D j n F J he H)
 have P:v.len=A1.length:=j.len;have l2:N.len=B1.length:=n.len;obtain⟨sl,o,U⟩:=m.ex;have go:∀(c:List Ch) (A2 B2:bY) (Y Z:f9) (O:ad) (C2:eh),SetAt C2 O sb x (L1++c)->(∀b,C2 b->W b\/h1.size<=b)->Upd (λb=>W b\/b=sb) h1 O->iE A1 B1=c++iE A2 B2->Sl dZ 2 (λb=>C b\/b=sb\/h.size<=b) h1 Y A2->Sl dZ 2 (λb=>C b\/b=sb\/h.size<=b) h1 Z B2->Y.len<=Y.cap->Z.len<=Z.cap->c.length+A2.length+B2.length<=A1.length+B1.length->A2.length+B2.length<A1.length+B1.length->I (Y,Z) O:=by
  intro c A2 B2 Y Z O C2 st2 hC2 V e p G w1 w2 hl d;have hm:∀b,W b\/b=sb->(C b\/b=sb\/h.size<=b)\/h1.size<=b:=λb hb=>.inl (hb.elim (λh=>(D b h).imp id .inr) λh=>.inr (.inl h))
  refine hI (A2,B2,L1++c,C2) (Y,Z) O ⟨st2,λb hb=>?_,?_,p.upd V hm,G.upd V hm,w1,w2,?_,?_⟩ d
  .rcases hC2 b hb with h|h
   .exact D b h
   .exact .inr (aQ T.size h)
  .exact T.trans V λb hb=>hb.elim (λh=>(D b h).imp .inl id) λh=>.inl (.inr h)
  .show(L1++c)++iE A2 B2=_
   rw[ao,<-e,he]
  .show(L1++c).length+A2.length+B2.length<=_
   rw[ae];omega
 refine eM (λt h'=>h'=h1/\(t=true↔A1≠[]\/B1≠[])) (λR q=>?_) ?_
 .refine aq (λhp=>q _ _ ⟨rfl,?_⟩) λhp=>q _ _ ⟨rfl,?_⟩
  .have hp:(v.len:Int)>0:=hp
   simp only[true_iff];left;intro e;rw[e]at P;simp only[bC]at P;omega
  .have hp:¬(v.len:Int)>0:=hp
   have e1:A1= []:=aJ.1 a4;show decide ((N.len:Int)>0)=true↔_
   rw[decide_eq_true_iff];constructor
   .intro h;right;intro e;rw[e]at l2;simp only[bC]at l2;omega
   .intro h
    rcases h with h|h
    .exact absurd e1 h
    .have:=List.length_pos_iff.2 h;omega
 rintro t O ⟨rfl,ht⟩;refine ez (λe=>?_) λe=>?_
 rotate_left
 .have hn:A1= []/\B1= []:=by
   rw[e]at ht;constructor
   .exact Decidable.byContradiction λh=>absurd (ht.2 (.inl h)) a7
   .exact Decidable.byContradiction λh=>absurd (ht.2 (.inr h)) a7
  obtain⟨rfl,rfl⟩:=hn;rw[jl,fj,aX]at he;subst he;exact hk O W m D T
 have hne:=ht.1 e;clear ht e;refine eM (λt h'=>h'=O/\((t=true/\∃a A',A1=a::A'/\iE A1 B1=JF a::iE A' B1)\/(t=false/\∃b u,B1=b::u/\(A1= []\/∃a A',A1=a::A'/\¬kl a.1 b.1)))) (λR q=>?_) ?_
 .rcases B1 with _|⟨b,u⟩
  .rcases A1 with _|⟨a,A'⟩
   .exact absurd hne a7
   rw[show(((N.len:Nat):Int)==0)=true by rw[l2];rfl]
   refine aw.2 (q _ _ ⟨rfl,.inl ⟨rfl,a,A',rfl,?_⟩⟩);rw[w7,w7];rfl
  .rw[ar]at l2
   rw[show(((N.len:Nat):Int)==0)=false by rw[beq_eq_false_iff_ne];omega]
   refine ag.2 ?_;rcases A1 with _|⟨a,A'⟩
   .rw[bC]at P
    rw[decide_eq_false (show ¬((v.len:Int)>0) by omega)]
    exact ag.2 (q _ _ ⟨rfl,.inr ⟨rfl,b,u,rfl,.inl rfl⟩⟩)
   .rw[ar]at P
    rw[decide_eq_true (show((v.len:Int)>0) by omega)]
    refine aw.2 ?_;obtain⟨E,f,_,p⟩:=j.at (i:=0) (x:=a) rfl;obtain⟨X,k,_,G⟩:=n.at (i:=0) (x:=b) rfl;refine⟨⟨a6,a6⟩,E,f,a.1,p 0 _ rfl,⟨a6,a6⟩,X,k,b.1,G 0 _ rfl,q _ _ ⟨rfl,?_⟩⟩
    by_cases d:kl a.1 b.1
    .exact .inl ⟨d,a,A',rfl,by rw[rq,if_pos d]⟩
    .exact .inr ⟨by unfold kl at d;simpa using d,b,u,rfl,.inr ⟨a,A',rfl,d⟩⟩
 rintro t h3 ⟨rfl,⟨rfl,a,A',rfl,ec⟩|⟨rfl,b,u,rfl,hA⟩⟩
 .refine aw.2 (fo ?_)
  rw[ar]at P;obtain⟨E,f,_,p⟩:=j.at (i:=0) (x:=a) rfl;refine⟨_,rfl,sl,vc o 3,⟨a6,a6⟩,E,f,a.1,p 0 _ rfl,⟨a6,a6⟩,E,f,a.2,p 1 _ rfl,?_⟩
  refine P1 (c:=JF a) m o U (by simp only[ar]at H;omega) λh4 C4 st4 hC4 hu4=>?_
  refine⟨⟨a6,a6⟩,?_⟩
  simp only[Bd];exact go [JF a] A' B1 _ _ h4 C4 st4 hC4 hu4 ec (R8 j F) n (by show v.len-1<=v.cap-1;omega) J (by simp only[ar,bC];omega) (by rw[ar];omega)
 refine ag.2 ?_;rw[ar]at l2;obtain⟨X,k,_,G⟩:=n.at (i:=0) (x:=b) rfl;refine eM (λt h'=>h'=h3/\((t=true/\iE A1 (b::u)=Xu b::iE A1 u)\/(t=false/\∃a A',A1=a::A'/\iE A1 (b::u)=zl a b++iE A' u))) (λR q=>?_) ?_
 .rcases hA with rfl|⟨a,A',rfl,hna⟩
  .rw[show(((v.len:Nat):Int)==0)=true by rw[P];rfl]
   refine aw.2 (q _ _ ⟨rfl,.inl ⟨rfl,?_⟩⟩);rw[jl,jl];rfl
  .rw[ar]at P
   rw[show(((v.len:Nat):Int)==0)=false by rw[beq_eq_false_iff_ne];omega]
   obtain⟨E,f,_,p⟩:=j.at (i:=0) (x:=a) rfl;refine ag.2 ⟨⟨a6,a6⟩,X,k,b.1,G 0 _ rfl,⟨a6,a6⟩,E,f,a.1,p 0 _ rfl,q _ _ ⟨rfl,?_⟩⟩
   by_cases d:kl b.1 a.1
   .exact .inl ⟨d,by rw[rq,if_neg hna,if_pos d]⟩
   .refine .inr ⟨by unfold kl at d;simpa using d,a,A',rfl,?_⟩
    rw[rq,if_neg hna,if_neg d];unfold zl;split<;>rfl
 rintro t h4 ⟨rfl,⟨rfl,ec⟩|⟨rfl,a,A',rfl,ec⟩⟩
 .refine aw.2 (fo ?_)
  refine⟨_,rfl,sl,vc o 3,⟨a6,a6⟩,X,k,b.1,G 0 _ rfl,⟨a6,a6⟩,X,k,b.2,G 1 _ rfl,?_⟩
  refine P1 (c:=Xu b) m o U (by simp only[ar]at H;omega) λS Q w z y=>?_
  refine⟨⟨a6,a6⟩,?_⟩
  simp only[Bd];exact go [Xu b] A1 u _ _ S Q w z y ec j (R8 n J) F (by show N.len-1<=N.cap-1;omega) (by simp only[ar,bC];omega) (by rw[ar];omega)
 rw[ar]at P;obtain⟨E,f,_,p⟩:=j.at (i:=0) (x:=a) rfl;have hcl:(zl a b).length<=1:=by unfold zl;split<;>simp
 refine ag.2 (eM (λ_ S=>∃Q,SetAt Q S sb x (L1++zl a b)/\(∀b,Q b->W b\/h4.size<=b)/\Upd (λb=>W b\/b=sb) h4 S) (λR q=>?_) ?_)
 .refine⟨⟨a6,a6⟩,E,f,a.2,p 1 _ rfl,⟨a6,a6⟩,X,k,b.2,G 1 _ rfl,?_⟩
  have eb:(a.2.toList==b.2.toList)=decide (a.2=b.2):=dV;rw[eb];by_cases e:a.2=b.2
  .rw[decide_eq_true e]
   refine ag.2 (q _ _ ⟨W,?_,λ_ h=>.inl h,eQ _ _⟩)
   unfold zl;rw[if_pos e,aX];exact m
  .rw[decide_eq_false e]
   refine aw.2 ⟨_,rfl,sl,vc o 3,⟨a6,a6⟩,E,f,a.1,p 0 _ rfl,⟨a6,a6⟩,E,f,a.2,p 1 _ rfl,⟨a6,a6⟩,X,k,b.2,G 1 _ rfl,?_⟩
   refine P1 (c:=(a.1,a.2,b.2,true,true)) m o U (by simp only[ar]at H;omega) λS Q w z y=>q _ _ ⟨Q,?_,z,y⟩
   unfold zl;rw[if_neg e];exact w
 .rintro _ S ⟨Q,w,z,y⟩
  refine⟨⟨a6,a6⟩,?_⟩
  simp only[Bd];refine⟨⟨a6,a6⟩,?_⟩
  exact go (zl a b) A' u _ _ S Q w z y ec (R8 j F) (R8 n J) (by show v.len-1<=v.cap-1;omega) (by show N.len-1<=N.cap-1;omega) (by rw[ar,ar];omega) (by rw[ar,ar];omega)
theorem NK{t:Tr}{K:Int->eu}(b:∀h',Upd No h h'->K t.1 h'):fK 79 [A4 t] K h:=by
 refine cZ (xn t) .nil Tryz.func79 Tryz.call79 ?_;dsimp only[xn,bh,lP,uJ];exact aV λa b1 k1=>⟨_,vc b1 0,b a k1⟩
theorem KO:∀{x y:c6} {i:Nat} {a b:UInt8},(∀j,j<i->x[j]? =y[j]?)->x[i]? =some a->y[i]? =some b->a≠b->bM x y=decide (a.toNat<b.toNat)
 | [],_,_,_,_,_,h,_,_=>by simp at h
 |_::_,[],_,_,_,_,_,h,_=>by simp at h
 |c::x,d::y,0,a,b,_,h1,h2,hne=>by
  simp only[cK,bI.injEq]at h1 h2;subst h1 h2;simp only[bM];rw[beq_false_of_ne hne];simp[UInt8.lt_iff_toNat_lt]
 |c::x,d::y,i+1,a,b,he,h1,h2,hne=>by
  have e:=he 0 a4;simp only[cK,bI.injEq]at e;subst e;simp only[List.getElem?_cons_succ]at h1 h2;simp only[bM];rw[KO (i:=i) (λj f=>by simpa using he (j+1) a4) h1 h2 hne]
  simp[UInt8.lt_irrefl]
theorem KM:∀{x y:c6} {i:Nat},(∀j,j<i->x[j]? =y[j]?)->i<=x.length->i<=y.length->(i=x.length\/i=y.length)->bM x y=decide (x.length<y.length)
 | [],[],_,_,_,_,_=>by simp[bM]
 | [],_::_,_,_,_,_,_=>by simp[bM]
 |_::_,[],_,_,_,_,_=>by simp[bM]
 |c::x,d::y,0,_,_,_,h=>by simp at h
 |c::x,d::y,i+1,he,h1,h2,h3=>by
  have e:=he 0 a4;simp only[cK,bI.injEq]at e;subst e;simp only[bM];rw[KM (i:=i) (λj a=>by simpa using he (j+1) a4) (by simpa using h1) (by simpa using h2) (by simpa using h3)]
  simp[UInt8.lt_irrefl]
theorem Hn{a b:dO}(B:a.size<=1000000){K:Bool->eu}(y:K (decide (kl a b)) h):eI 112 [.string a,.string b] K h:=by
 refine cZ (IW a b) RB Tryz.func112 Tryz.call112 ?_;dsimp only[IW,Ir];have A:a.data.toList.length=a.size:=a7
 have C:b.data.toList.length=b.size:=a7
 have g:∀{p:Prop} [Decidable p],bM a.data.toList b.data.toList=decide p->K (decide p) h:=λ{p} _ e=>by
  have:decide (kl a b)=decide p:=by
   rw[<-e,<-ByteArray.toList_eq,<-ByteArray.toList_eq];exact Bool.eq_iff_iff.2 (by rw[decide_eq_true_iff];exact tu)
  rw[<-this];exact y
 refine eF (λ(i:Nat) (t:Int) h'=>t=(i:Int)/\i<=a.size/\i<=b.size/\h'=h/\∀j,j<i->a.data.toList[j]? =b.data.toList[j]?) (λi=>a.size-i) 0 ⟨rfl,aK _,aK _,rfl,λj u=>absurd u (Nat.not_lt_zero _)⟩ ?_
 rintro I i t h' ⟨rfl,z,w,rfl,k⟩ x;refine eM (λt o=>t=decide (i<a.size/\i<b.size)/\o=h') (λR q=>?_) ?_
 .refine aq (λc=>q _ _ ⟨?_,rfl⟩) λm=>q _ _ ⟨?_,rfl⟩
  .rw[decide_eq_decide];omega
  .rw[eq_comm,decide_eq_false_iff_not];omega
 .rintro t o ⟨rfl,rfl⟩
  refine aq (λc=>?_) λm=>?_
  .have v:a.data.toList[i]? =some a[i]:=by rw[<-We,getElem?_pos a i c.1]
   have s:b.data.toList[i]? =some b[i]:=by rw[<-We,getElem?_pos b i c.2]
   refine⟨a[i],a4,by rw[bi,getElem?_pos a i c.1],b[i],a4,by rw[bi,getElem?_pos b i c.2],?_⟩
   refine ez (λf=>?_) λd=>?_
   .refine⟨a[i],a4,by rw[bi,getElem?_pos a i c.1],b[i],a4,by rw[bi,getElem?_pos b i c.2],?_⟩
    refine g ?_;rw[KO k v s λe=>by rw[e]at f;simp at f]
    rw[decide_eq_decide];omega
   .have d:a[i]=b[i]:=by
     have:((a[i].toNat:Int))=(b[i].toNat:Int):=by simpa using d
     exact UInt8.toNat_inj.1 a4
    rw[cf c.1 a4];refine x (i+1) _ _ ⟨rfl,a4,a4,rfl,λj u=>?_⟩ a4
    rcases cp j i with n|n
    .exact k j n
    .have:j=i:=by omega
     subst this;rw[v,s,d]
  .refine g ?_
   rw[KM k a4 a4 a4,decide_eq_decide];omega
theorem N5(z:Sl dZ 2 W h s l)(J:l.length<=1000000)(k:dO){K:f9->eu}
  (D:∀s' h',OwnS dZ 2 166 (λy=>h.size<=y) h' s' (l.filter λp=>decide (p.1≠k))->Upd No h h'->K s' h'):dS 127 [.slice s.a s.len s.cap,.string k] K h:=by
 refine cZ (IY s k) RD Tryz.func127 Tryz.call127 ?_;dsimp only[IY,nv,lG,nC,DE,cP,jz,fE,nW,bq,gj];have x:=z.len;refine eF (λ(i:Nat) (t:f9×Int) h'=>t.2=(i:Int)/\i<=l.length/\OwnS dZ 2 166 (λy=>h.size<=y) h' t.1 ((l.take i).filter λp=>decide (p.1≠k))/\Upd No h h') (λi=>l.length-i) 0 ⟨rfl,aK _,by simpa using OwnS.nil fP,eQ _ _⟩ ?_
 rintro I i ⟨so,G⟩ h' ⟨A,hi,g,f⟩ B;(try simp only at A g)
 subst A;refine aq (λb=>?_) λu=>?_
 .have b:i<l.length:=by have:(i:Int)<(s.len:Int):=b;omega
  obtain⟨a,C,_,hv⟩:=(z.upd f λ_ h=>h.elim).at (af b)
  have o:((l.take i).filter λp=>decide (p.1≠k)).length<=l.length:=aQ (bP ..) (by rw[aY];omega)
  refine eM (λt m=>OwnS dZ 2 166 (λy=>h.size<=y) m t ((l.take (i+1)).filter λp=>decide (p.1≠k))/\Upd No h m) (λR d=>⟨⟨by(try simp only);omega,by(try simp only);omega⟩,a,C,l[i].1,hv 0 _ rfl,l[i].2,hv 1 _ rfl,?_⟩) ?_
  .refine yk (p:=l[i]) λm b2 j=>⟨_,vc b2 0,?_⟩
   have c:=g.upd j λ_ _ h=>h
   rw[ax b,ct,aZ,iB]at d;rw[dV];by_cases e:l[i].1=k
   .rw[decide_eq_true e]
    rw[decide_eq_false (not_not_intro e)]at d;rw[if_neg a7,aX]at d;exact ag.2 (d _ _ ⟨c,f.tr j⟩)
   .rw[decide_eq_false e]
    rw[decide_eq_true e,if_pos rfl]at d;refine aw.2 ⟨_,vc b2 0,_,vc b2 1,bF ?_⟩;refine ua (p:=l[i]) c (λy w=>aQ (f.tr j).size w) (aQ (Nat.add_le_add_right o 1) a4) λF H n v=>d _ _ ⟨n,(f.tr j).trans v λy w=>.inr w⟩
  .rintro t m ⟨c,q⟩
   rw[cf b a4];exact B (i+1) _ _ ⟨rfl,b,c,q⟩ a4
 .have E:i=l.length:=by have:¬(i:Int)<(s.len:Int):=u;omega
  rw[aS a4]at g;exact D _ _ g f
theorem Sj(hs:Sl dZ 2 W h s l)(hr:bO l)(hn:l.length<=1000000)(p:Pr)(hp:p.1.size<=1000000){K:f9->eu}
  (Z:∀s' h',OwnS dZ 2 166 (λy=>h.size<=y) h' s' (gw p l)->Upd No h h'->K s' h'):dS 117 [.slice s.a s.len s.cap,.agg #[.string p.1,.string p.2]] K h:=by
 refine cZ (LD s p) UO Tryz.func117 Tryz.call117 ?_;dsimp only[LD,nv,yI,lG,kr,nC,DE,cP,jz,fE,nW,bq,gj];refine aV λh1 b1 k1=>⟨p.1,vc b1 0,?_⟩
 refine N5 (hs.upd k1 λ_ h=>h.elim) hn p.1 λs4 v E k4=>?_
 rw[<-KY hr]at Z;have hrf:bO (l.filter λq=>decide (q.1≠p.1)):=hr.sublist List.filter_sublist
 have hnl:(l.filter λq=>decide (q.1≠p.1)).length<=1000000:=aQ (bP ..) hn
 have F:∀q∈l.filter λq=>decide (q.1≠p.1),q.1≠p.1:=λq u=>of_decide_eq_true (bL.1 u).2
 generalize l.filter (λq=>decide (q.1≠p.1))=L at Z E hrf hnl F
 have x:=k1.tr k4;have U:Sl dZ 2 No v s4 L:=E.sl λ_ _ _ h=>h
 have hlen:=U.len;have z4:=x.size;refine eF (λ(g:Nat×Bool) (t:f9×Bool×Int) h'=>t.2.2=(g.1:Int)/\t.2.1=g.2/\g.1<=L.length/\(∃out,OwnS dZ 2 166 (λy=>v.size<=y) h' t.1 out/\out.length<=g.1+1/\(g.2=false->out=L.take g.1/\∀q∈L.take g.1,kl q.1 p.1)/\(g.2=true->out=gw p (L.take g.1)/\∃q∈L.take g.1,kl p.1 q.1))/\Upd No v h') (λg=>L.length-g.1) (0,false) ⟨rfl,rfl,aK _,⟨[],OwnS.nil fP,a7,λ_=>⟨a7,a7⟩,λh=>by cases h⟩,eQ _ _⟩ ?_
 rintro I ⟨i,pl⟩ ⟨so,X,ti⟩ h' ⟨e1,e2,hi,⟨out,N,S,hf,ht⟩,C⟩ hI;(try simp only at e1 e2 hi N S hf ht)
 subst e1 e2;have b':=C.get0 (k4.get0 b1);refine aq (λf=>?_) λhge=>?_
 .have f:i<L.length:=by have:(i:Int)<(s4.len:Int):=f;omega
  obtain⟨a,ha,_,hv⟩:=(U.upd C λ_ h=>h.elim).at (af f)
  have d:=ax f;have P:L[i]∈L:=List.getElem_mem f;refine eM (λt D=>(∃out,OwnS dZ 2 166 (λy=>v.size<=y) D t.1 out/\out.length<=i+1+1/\(t.2=false->out=L.take (i+1)/\∀q∈L.take (i+1),kl q.1 p.1)/\(t.2=true->out=gw p (L.take (i+1))/\∃q∈L.take (i+1),kl p.1 q.1))/\Upd No v D) (λR hR=>⟨⟨by(try simp only);omega,by(try simp only);omega⟩,a,ha,L[i].1,hv 0 _ rfl,L[i].2,hv 1 _ rfl,?_⟩) ?_
  .refine yk (p:=L[i]) λD b2 Y=>?_
   have o:=N.upd Y λ_ _ h=>h
   have m:=C.tr Y;have zb:=bw b2;have z2:=C.size;have hoM:=(N.within.upd Y λ_ _ h=>h).more (M':=λy=>(v.size<=y/\y<h'.size)\/D.size<=y) λy b=>.inl b
   have c2:=Y.get0 b';refine eM (λt z=>(∃out,OwnS dZ 2 166 (λy=>v.size<=y) z t.1 out/\out.length<=i+1/\(t.2=false->out=L.take i/\∀q∈L.take (i+1),kl q.1 p.1)/\(t.2=true->out++ [L[i]]=gw p (L.take (i+1))/\∃q∈L.take (i+1),kl p.1 q.1))/\z[h'.size]? =some (.cells #[.string L[i].1,.string L[i].2] 166 (0,0))/\Upd No v z) (λR2 w=>?_) ?_
   .refine eM (λt z=>t=(!X&&decide (kl p.1 L[i].1))/\z=D) (λR3 J=>?_) ?_
    .cases X with
     |false=>exact aw.2 ⟨p.1,vc c2 0,L[i].1,vc b2 0,Hn hp (J _ _ ⟨a7,rfl⟩)⟩
     |true=>exact ag.2 (J _ _ ⟨a7,rfl⟩)
    .rintro t z ⟨rfl,rfl⟩
     cases X with
     |true=>
      obtain⟨e,q,u,V⟩:=ht rfl;refine ag.2 (w _ _ ⟨⟨out,o,S,λh=>(by cases h),λ_=>?_⟩,b2,m⟩)
      rw[d,e];exact⟨(OF ⟨q,u,V⟩).symm,q,ci _ u,V⟩
     |false=>
      obtain⟨e,c⟩:=hf rfl;subst e;by_cases k:kl p.1 L[i].1
      .rw[decide_eq_true k]
       refine aw.2 ⟨p.1,vc c2 0,p.2,vc c2 1,bF ?_⟩;refine ua (p:=p) hoM (λy b=>.inr b) (by rw[aY];omega) λs5 h5 n j=>w _ _ ⟨⟨_,n.more (λy b=>by rcases b with b|b<;>omega),by rw[ae,aY,aP];omega,λh=>(by cases h),λ_=>?_⟩,j.get b2 (by rintro(hx|hx)<;>omega),m.trans j λy b=>.inr (by rcases b with b|b<;>omega)⟩
       .rw[d,HO c]
        refine⟨?_,L[i],cr _ (av.2 rfl),k⟩;rw[ao,OD (l:= [L[i]]) λq u=>by rw[av.1 u];exact k]
        rfl
      .rw[decide_eq_false k]
       have u:kl L[i].1 p.1:=l8 k λe=>F _ P e.symm
       refine ag.2 (w _ _ ⟨⟨_,o,by rw[aY];omega,λ_=>⟨rfl,λq Q=>?_⟩,λh=>(by cases h)⟩,b2,m⟩)
       rw[d]at Q;rcases aL.1 Q with h|h
       .exact c q h
       .rw[av.1 h];exact u
   .rintro⟨t1,t2⟩ z ⟨⟨out3,H,hol3,G,O⟩,b3,T⟩
    (try simp only at H G O)
    refine⟨_,vc b3 0,_,vc b3 1,bF ?_⟩;refine ua (p:=L[i]) H (λy b=>aQ T.size b) a4 λs5 h5 n j=>hR _ _ ⟨⟨_,n,by rw[ae,aP];omega,λh=>?_,λh=>O h⟩,T.trans j λy b=>.inr b⟩
    obtain⟨e,c⟩:=G h;exact⟨by rw[e,d],c⟩
  .rintro⟨t1,t2⟩ D ⟨o,m⟩
   rw[cf f a4];exact hI (i+1,t2) _ _ ⟨rfl,rfl,f,o,m⟩ (by(try simp only);omega)
 .have hil:i=L.length:=by have:¬(i:Int)<(s4.len:Int):=hge;omega
  subst hil;rw[List.take_length]at hf ht;cases X with
  |true=>
   obtain⟨e,_⟩:=ht rfl;subst e;exact ag.2 (Z _ _ (N.more λy b=>aQ z4 b) (x.tr C))
  |false=>
   obtain⟨e,c⟩:=hf rfl;subst e;refine aw.2 ⟨p.1,vc b' 0,p.2,vc b' 1,bF ?_⟩;refine ua (p:=p) N (λy b=>aQ C.size b) a4 λs5 h5 n j=>Z _ _ ?_ ((x.tr C).trans j λy b=>.inr (aQ z4 b))
   have:=HO (p:=p) (A:=out) (B:= []) c;rw[aX]at this;rw[this];exact n.more λy b=>aQ z4 b
abbrev Rt:=Int×Int×Int×Int×f9
abbrev uN(r:Rt):c5:= [.int .i64 r.1,.int .u64 r.2.1,.int .u64 r.2.2.1,.int .u64 r.2.2.2.1,.slice r.2.2.2.2.a r.2.2.2.2.len r.2.2.2.2.cap]
abbrev UT(r:Rt):Value:=.agg #[.int .i64 r.1,.int .u64 r.2.1,.int .u64 r.2.2.1,.int .u64 r.2.2.2.1,.slice r.2.2.2.2.a r.2.2.2.2.len r.2.2.2.2.cap]
abbrev Sf:Rt:=(0,0,0,0,⟨none,0,0⟩)
def hx(kind v:Int):Int:=if kind=0 then v else 0
def RefIs(W:eh)(h:ad)(kind:Int)(x:Hs)(r:Rt)(l:bY):Prop:=∃s,r=(kind,hx kind x.k0,hx kind x.k1,hx kind x.mask,s)/\Sl dZ 2 W h s l/\s.len<=s.cap
theorem RefIs.upd0{r:Rt}(k:Upd No h h')(i:RefIs W h kind x r l):RefIs W h' kind x r l:=
 let⟨s,e,a⟩:=i;⟨s,e,a.1.upd k λ_ h=>h.elim,a.2⟩
theorem RefIs.less{W':eh}(hm:∀b,W' b->W b\/h.size<=b){r:Rt}(i:RefIs W h kind x r l):RefIs W' h kind x r l:=
 let⟨s,e,a⟩:=i;⟨s,e,a.1.less hm,a.2⟩
theorem RefIs.updM(k:Upd M h h')(hm:∀b,M b->W b\/h.size<=b){r:Rt}(i:RefIs W h kind x r l):RefIs W h' kind x r l:=
 let⟨s,e,a⟩:=i;⟨s,e,a.1.upd k hm,a.2⟩
theorem Sk(f:kind=0\/kind=1){K:Rt×Int->eu}(g:∀h' r,RefIs W h' kind x r []->Upd No h h'->K (r,0) h'):F0 59 [.int .i64 kind,.agg #[.int .u64 x.k0,.int .u64 x.k1,.int .u64 x.mask]] K h:=by
 refine cZ (LC kind (x.k0,x.k1,x.mask)) .nil Tryz.func59 Tryz.call59 ?_;dsimp only[LC,dH,Cj,sN,ww,bh,ai,ee,li];refine aV λk b1 k1=>aV λm b2 i=>?_
 have c1:=i.get0 b1;have j:=k1.size;have d:=k1.tr i;rcases f with rfl|rfl
 .refine aw.2 ⟨_,vc c1 0,_,vc c1 1,_,vc c1 2,?_⟩
  refine cy (c:=uN Sf) (vs:=uN (0,x.k0,x.k1,x.mask,⟨none,0,0⟩)) b2 rfl λe a b=>?_
  exact⟨_,vc a 0,_,vc a 1,_,vc a 2,_,vc a 3,⟨none,0,0⟩,vc a 4,g e (0,x.k0,x.k1,x.mask,⟨none,0,0⟩) ⟨_,rfl,Sl.nil fP,aj _⟩ (d.own b j)⟩
 .refine ag.2 (aw.2 ?_)
  refine cy (c:=uN Sf) (vs:=uN (1,0,0,0,⟨none,0,0⟩)) b2 rfl λe a b=>?_
  exact⟨_,vc a 0,_,vc a 1,_,vc a 2,_,vc a 3,⟨none,0,0⟩,vc a 4,g e (1,0,0,0,⟨none,0,0⟩) ⟨_,rfl,Sl.nil fP,aj _⟩ (d.own b j)⟩
theorem TG{k v:dO}(b:k.size<=256)(c:v.size<=4096){K:Int->eu}(a:K 0 h):fK 128 [.string k,.string v] K h:=by
 refine cZ (Fx k v) .nil Tryz.func128 Tryz.call128 ?_;unfold Fx;refine aq (λh=>absurd h a4) λ_=>aq (λh=>absurd h a4) λ_=>a
theorem Vy{r:Rt}(i:RefIs W h kind x r l)(D:∀y,W y->y<h.size)(C:bO l)(F:l.length<=1000000)(p:Pr)(v:p.1.size<=256)(u:p.2.size<=4096){K:Rt×Int->eu}
  (H:∀h' r',RefIs W h' kind x r' (gw p l)->Upd No h h'->K (r',0) h'):F0 78 [UT r,.agg #[.string p.1,.string p.2]] K h:=by
 refine cZ (IT r p) .nil Tryz.func78 Tryz.call78 ?_;dsimp only[IT,qf,yI,lG,ee,sN,ou,nW,bq,iL,dh,Gb,dH,LW,ww,bh,ai];refine aV λA b1 k1=>aV λz b2 t=>aV λR b3 n=>?_
 have Q:=bw b1;have N:=bw b2;have P:=bw b3;have O:h.size<=A.size:=k1.size;have T:A.size<=z.size:=t.size;have L:=n.size;have m:=(k1.tr t).tr n;have w:=n.get0 (t.get0 b1);have o:=n.get0 b2;obtain⟨s,rfl,I,_⟩:=i;refine⟨_,vc o 0,_,vc o 1,TG v u (ag.2 ?_)⟩;refine⟨s,vc w 4,p.1,vc o 0,p.2,vc o 1,?_⟩;refine Sj (I.upd m λ_ h=>h.elim) C F p a4 λd S q a=>?_
 refine tC (i:=4) (c':=(uN (kind,hx kind x.k0,hx kind x.k1,hx kind x.mask,d)).toArray) (a.get0 w) (show 4<5 by decide) rfl λJ g b=>?_
 refine⟨_,vc g 0,_,vc g 1,_,vc g 2,_,vc g 3,d,vc g 4,?_⟩;refine cy (c:=uN Sf) (vs:=uN (kind,hx kind x.k0,hx kind x.k1,hx kind x.mask,d)) (b.oth (a.get0 b3) a4) rfl λG j k=>?_
 refine⟨_,vc j 0,_,vc j 1,_,vc j 2,_,vc j 3,d,vc j 4,?_⟩;have f:=(q.upd b λy B e=>by have e:y=h.size:=e;omega).upd k λy B e=>by have e:y=z.size:=e;omega
 refine H G (kind,hx kind x.k0,hx kind x.k1,hx kind x.mask,d) ⟨d,rfl,f.sl λy B _ E=>by have:=D y E;omega,f.cap⟩ (((m.tr a).own b (aj _)).own k a4)
def E3(r q:Rt):Bool:=(r.1==q.1)&&((r.2.1==q.2.1)&&((r.2.2.1==q.2.2.1)&&((r.2.2.2.1==q.2.2.2.1)&&true)))
theorem Ci{r q:Rt}{K:Bool->eu}(c:∀h',Upd No h h'->K (E3 r q) h'):eI 116 [UT r,UT q] K h:=by
 refine cZ (IU r q) .nil Tryz.func116 Tryz.call116 ?_;dsimp only[IU,bh,ou,Ah,fH];refine aV λd b1 k1=>aV λb b2 a=>?_
 have c1:=a.get0 b1;refine⟨_,vc c1 0,_,vc b2 0,?_⟩;have:=c b (k1.tr a);unfold E3 at this;rcases hb:(r.1==q.1)with _|_
 .rw[hb]at this
  exact ag.2 this
 .rw[hb]at this
  exact aw.2 ⟨_,gL c1 1 0,_,gL c1 1 1,_,gL c1 1 2,_,gL b2 1 0,_,gL b2 1 1,_,gL b2 1 2,this⟩
def Lg(s:dO):dO:=s.extract 0 (min s.size 30)
theorem H8(s:dO):(Lg s).size<=30:=by unfold Lg;rw[ly];omega
def abd(p:Pr):Pr:=(Lg p.1,Lg p.2)
structure Few(n:Nat)(L:bY):Prop where
 up:bO L
 len:L.length<=n
 fit:∀p∈L,p.1.size<=30/\p.2.size<=30
theorem Few.ins{L:bY}(f:Few n L)(p:Pr)(a:p.1.size<=30)(b:p.2.size<=30):Few (n+1) (gw p L):=
 ⟨pj p f.up,aQ (D6 p) (by have:=f.len;omega),λq c=>(tO c).elim (λe=>by rw[e];exact⟨a,b⟩) λh=>f.fit q h⟩
theorem Few.fits{L:bY}(f:Few n L):Fit L:=λp a=>by have:=f.fit p a;omega
end
end Go.Proofs
