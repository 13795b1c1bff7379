/- A part of the proof that the named laws of this program answer true, whatever the input. -/
import Derived.Test.YtakmnggbneeicaaGreatPart1
import Derived.Test.YtakmnggbneeicaaGreatPart0
import Derived.Test.YtakmnggbneeicaaGreatLift1
open ByteArray renaming mk->lJ
open Classical renaming byContradiction->om
open Go.IntKind renaming wrap->ac,bits->al
open Go.Op renaming bytesLess->bF
open Iff renaming rfl->ug
open Int renaming toNat_natCast->aY
open List renaming pairwise_cons->aC,mem_cons->aw,mem_map->be,append_assoc->au,length_append->ae,length_map->bP,length_singleton->aG,cons->eB,replicate->eO,getElem_mem->aF,take_succ_eq_append_getElem->ax,mem_append->aN,mem_singleton->az,take_length->bG,flatMap_cons->aL,length_set->iT,length_take->aV,drop_drop->cV,drop_left'->cK,filter_append->cy,getElem?_eq_getElem->af,mem_cons_of_mem->aA,mem_cons_self->aq,pairwise_map->fH,mem_iff_getElem?->qI,getElem?_eq_some_iff->bM,getElem_inj->oh,cons_append->cN,mem_filter->bV,append_nil->aX,nil_append->cS,pairwise_append->cE,pairwise_singleton->cB,length_eq_zero_iff->aK,getElem?_append_right->bE,length_cons->av,take_left->iy,getElem?_append_left->bW,length_nil->bq,take_append_drop->aW,length_drop->ba,getElem_of_mem->bH,mem_of_getLast?->iz,mem_range->fW,map_append->cC,sum_append->j4,flatMap_append->bI,map_cons->cn,map_nil->fZ,mem_append_right->cA,drop_one->wZ,tail_cons->vm,take_of_length_le->bd,mem_append_left->cx,sum_cons->rF,length->eT,not_mem_nil->ee,filter_nil->f9,filter_cons->bf,getElem?_cons_zero->cT,length_filter_le->bQ
open List.Pairwise renaming nil->cj
open Nat renaming le_refl->aj,zero_add->aU,lt_of_lt_of_le->aD,zero_le->aJ,mul_le_mul_right->cD,sub_self->im,eq_zero_or_pos->ic,add_sub_cancel_left->fc,le_trans->aO,lt_or_ge->ci
open Option renaming some->bO
namespace Go.Proofs
section
open Go.Lift
variable {h' a:ad}{r:aT}{l l':bY}{K:aT->dO}{xs:c5}{k:dO}{c:Array Value}{W':dx}{d:Hs}
theorem rQ{p q:Pr}:∀{l:bY},bS l->(q∈gQ p l↔q=p\/(q∈l/\q.1≠p.1))
 | [],_=>by simp[gQ]
 |r::l,b=>by
  have b:=aC.1 b;rw[gH];by_cases c:kl r.1 p.1
  .have d:r.1≠p.1:=λe=>by rw[e]at c;exact bX _ c
   rw[if_pos c,aw,aw,rQ b.2];constructor
   .rintro(rfl|h|⟨h,h'⟩)
    .exact .inr ⟨.inl rfl,d⟩
    .exact .inl h
    .exact .inr ⟨.inr h,h'⟩
   .rintro(h|⟨h|h,h'⟩)
    .exact .inr (.inl h)
    .exact .inl h
    .exact .inr (.inr ⟨h,h'⟩)
  .rw[if_neg c]
   by_cases a:r.1=p.1
   .rw[if_pos a,aw,aw]
    constructor
    .rintro(h|h)
     .exact .inl h
     .refine .inr ⟨.inr h,λe=>?_⟩
      have:=b.1 q h;rw[e,a]at this;exact bX _ this
    .rintro(h|⟨rfl|h,h'⟩)
     .exact .inl h
     .exact absurd a h'
     .exact .inr h
   .rw[if_neg a,aw,aw]
    have f:=mf c a;constructor
    .rintro(h|rfl|h)
     .exact .inl h
     .exact .inr ⟨.inl rfl,a⟩
     .refine .inr ⟨.inr h,λe=>?_⟩
      have:=dX f (b.1 q h);rw[e]at this;exact bX _ this
    .rintro(h|⟨rfl|h,h'⟩)
     .exact .inl h
     .exact .inr (.inl rfl)
     .exact .inr (.inr h)
def RadRoot(W:dx)(h:ad)(r:aT)(l:bY):Prop:=(r=none/\l= [])\/∃b,r=some ⟨b,0,none⟩/\RadAt W h b l
theorem RadRoot.upd0{W:dx}{h:ad}(k:Upd No h h')(t:RadRoot W h r l):RadRoot W h' r l:=t.imp id λ⟨b,e,t⟩=>⟨b,e,t.upd0 k⟩
theorem qS{a b:c6}:a.data.toList=b.data.toList↔a=b:=by
 constructor
 .intro h;cases a;cases b;exact congrArg lJ (Array.toList_inj.1 h)
 .rintro rfl;rfl
theorem H4{W:dx}{h:ad}(a:∀y,W y->y<h.size)(c:∀h' b,RadAt W h' b []->Upd No h h'->K (some ⟨b,0,none⟩) h'):fu 158 [] K h:=by
 refine dg Bu .nil Tryz.func158 Tryz.call158 ?_;unfold Bu Ou;refine bL (c _ h.size ⟨none,.nil,⟨⟨#[]⟩,⟨none,0,0⟩,none,[],cf h abb 264,rfl,Sl.nil pq,⟨aj _,λhx=>Nat.lt_irrefl _ (a _ hx)⟩,rfl⟩,trivial,λk v=>?_⟩ (e9 No h _ _))
 simp[mR,zw]
theorem EF{W:dx}{h:ad}(t:RadRoot W h r l)(d:∀y,W y->y<h.size)(a:∀h' b,RadAt W h' b l->Upd No h h'->(r=some ⟨b,0,none⟩\/r=none)->K (some ⟨b,0,none⟩) h'):fu 111 [.pointer r] K h:=by
 refine dg (D0 r) .nil Tryz.func111 Tryz.call111 ?_;unfold D0;rcases t with⟨rfl,rfl⟩|⟨b,rfl,t⟩
 .exact ay.2 (H4 d λh' b t c=>a h' b t c (.inr rfl))
 .exact ag.2 (a h b t (eM _ _) (.inl rfl))
theorem Pc{W:dx}{h:ad}(t:RadRoot W h r l)(B:∀y,W y->y<h.size)(m:bS l)(p:Pr)(J:p.1.size<=1000000){K:aT×Bool->dO}
  (E:∀h' b' a,Upd No h h'->RadAt W h' b' (gQ p l)->(p∈l->r=some ⟨b',0,none⟩\/r=none)->K (some ⟨b',0,none⟩,a) h'):
  uC 63 [.pointer none,.pointer r,.agg #[.string p.1,.string p.2]] K h:=by
 refine dg (Gj none r p) .nil Tryz.func63 Tryz.call63 ?_;dsimp only[Gj,bo,Zx,mH,r7,AO];have k1:=e9 No h [.string p.1,.string p.2] 33;have b1:=cf h [.string p.1,.string p.2] 33;refine bL ?_;simp only[cG h];generalize hnew h [.string p.1,.string p.2] 33=h1 at k1 b1;have g:∀{h':ad},Upd No h1 h'->∀i,aZ h' (adr ⟨h.size,0,none⟩ i)=(#[.string p.1,.string p.2]:Array Value)[i]?:=λk i=>by rw[bZ,bw (k.get0 b1),aU]
 have C:=eM No h1;refine⟨p.1,g C 0,p.2,g C 1,EF (t.upd0 k1) (λy j=>aD (B y j) k1.size) λN b I c hb=>⟨g c 1,g c 0,?_⟩⟩
 obtain⟨w,F,D,L,A⟩:=I.ex;refine Xg (p.1.size+1) p.1 p.2 a4 J D (λy j=>aD (B y j) (k1.tr c).size) L λH b3 G F' a O s o z n u x=>?_
 refine E H b3 a ((k1.tr c).tr s) ⟨G,F',o,z,λk v=>?_⟩ λhm=>?_
 .rw[jy,n k v,<-jy,A k v]
  constructor
  .rintro(⟨rfl,rfl⟩|⟨d,q,f,rfl,rfl⟩)
   .exact⟨p,(rQ m).2 (.inl rfl),rfl,rfl⟩
   .exact⟨q,(rQ m).2 (.inr ⟨f,λe=>d (by rw[e])⟩),rfl,rfl⟩
  .rintro⟨q,f,rfl,rfl⟩
   rcases(rQ m).1 f with rfl|⟨f,d⟩
   .exact .inl ⟨rfl,rfl⟩
   .exact .inr ⟨λe=>d (qS.1 e),q,f,rfl,rfl⟩
 .have:=x (jy.1 ((A _ _).2 ⟨p,hm,rfl,rfl⟩))
  rw[(u this).1];exact hb
def Ti(l:bY)(xs:c5):Prop:=∃w F,fq F/\mR w F=Re l/\xs=iQ ([],w,F)
theorem zJ{w:Option c6}{F:Fo}(hc:fq F)(c:mR w F=Re l)(a:Fit l):Og F/\∀v,w=some v->v.size<=10000:=by
 have hm:∀k v,sE w F k v->k.length<=10000/\v.size<=10000:=λk v hi=>by
  have:=jy.2 hi;rw[c]at this;obtain⟨q,b,e⟩:=be.1 this;cases e;have:=a q b;exact⟨by simpa using this.1,this.2⟩
 exact⟨SN hc λk v hi=>hm k v (.inr hi),λv hv=>(hm [] v (.inl ⟨rfl,hv⟩)).2⟩
theorem ZU{a:c5}(h:Ti l xs)(h':Ti l' a)(m:Fit l)(f:Fit l'):xs=a↔l=l':=by
 obtain⟨w,F,c,e,rfl⟩:=h;obtain⟨j,F',c',b,rfl⟩:=h';have f1:=zJ c e m;have i:=zJ c' b f;constructor
 .intro hx
  have hx:iQ ([],w,F)++ []=iQ ([],j,F')++ []:=by rw[hx]
  unfold iQ at hx;simp only[au]at hx;obtain⟨_,d,k,hx⟩:=LF (aJ _) (aJ _) f1.2 i.2 (kh c) (kh c') hx;obtain⟨g,_⟩:=BQ f1.1 i.1 k hx;exact TO (by rw[<-e,<-b,d,g])
 .rintro rfl
  obtain⟨d,g⟩:=Xj c c' (e.trans b.symm);rw[d,g]
theorem CU(h:Ti l xs)(b:Fit l):xs.length<=20010+2*l.length*20010:=by
 obtain⟨w,F,c,e,rfl⟩:=h;have f1:=zJ c e b;have i:=LD (lab:= []) (n:=F.toL.length) (aJ _) f1.2;have f:=BP f1.1;have d:=NS c;have a:=congrArg List.length e;unfold mR Re at a;rw[ae,bP]at a;have g:NT F*20010<=2*l.length*20010:=cD _ a4;unfold iQ;rw[ae];simp only;omega
theorem Pe{W:dx}{h:ad}{b:Nat}(t:RadAt W h b l)(i:bS l)(c:Fit l)(n:l.length<=60000){K:fD->dO}
  (m:∀s' h' xs,Ti l xs->OwnS pJ 1 5 (λy=>h.size<=y) h' s' xs->Upd No h h'->K s' h'):ce 98 [gZ b] K h:=by
 refine K2 _ ?_;unfold Bt;refine ag.2 ?_;obtain⟨w,F,k,a,j⟩:=t.ex;have d:=Hg a i j;have f1:=zJ a d c;have hv:Ti l (iQ ([],w,F)):=⟨w,F,a,d,rfl⟩;have o:=CU hv c;exact Xd (lab:= []) (aJ _) f1.2 (kh a) (M7 f1.1) (s:=⟨none,0,0⟩) (xs:= []) (M:=λy=>h.size<=y) k rfl (eM _ _) (λ_ h=>h) (OwnS.nil uH) (λ_ h=>h) (by rw[List.length_nil];omega) λs' h' e f=>m s' h' _ hv e (f.mono λy g=>.inr g)
theorem aQ{h:ad}{cs:c4}{t:TypeId}(a:∀h',h'[h.size]? =some (.cells cs.toArray t (0,0))->Upd No h h'->k h'):At (hnew h cs t) k:=
 bL (a _ (cf h cs t) (e9 No h cs t))
theorem vc{h:ad}{b:Nat}{t:TypeId}(hb:h[b]? =some (.cells c t (0,0))) (i:Nat):aZ h (adr ⟨b,0,none⟩ i)=c[i]?:=by rw[bZ,aU];exact bw hb
theorem iq{h:ad}{b:Nat}{t:TypeId}(hb:h[b]? =some (.cells c t (0,0))) (i j:Nat):aZ h (adr (adr ⟨b,0,none⟩ i) j)=c[i+j]?:=by rw[bZ,bZ,aU];exact bw hb
theorem oD{h:ad}{b i:Nat}{c':Array Value}{t:TypeId}{v:Value}(hb:h[b]? =some (.cells c t (0,0))) (hi:i<c.size) (e:c.setIfInBounds i v=c') (f:∀h',h'[b]? =some (.cells c' t (0,0))->Upd (· =b) h h'->k h'):Wr h (adr ⟨b,0,none⟩ i)/\At (hset h (adr ⟨b,0,none⟩ i) v) k:=by
 rw[bZ,aU];exact⟨fk hb hi,zV hb λh' a d=>f h' (e▸a) d⟩
theorem _root_.Go.Lift.Upd.own{h c:ad}{b:Nat}(k:Upd No h a)(d:Upd (· =b) a c)(hb:h.size<=b):Upd No h c:=k.trans d λx hx=>.inr (by have hx:x=b:=hx;omega)
theorem _root_.Go.Lift.Upd.oth{h:ad}{b c:Nat}{o:Obj}(d:Upd (· =b) h h')(hc:h[c]? =some o) (a:c≠b):h'[c]? =some o:=d.get hc a
abbrev Tr:=Int×Int×Int×Int×aT×aT
abbrev iM(t:Tr):c4:= [.int .i64 t.1,.int .u64 t.2.1,.int .u64 t.2.2.1,.int .u64 t.2.2.2.1,.pointer t.2.2.2.2.1,.pointer t.2.2.2.2.2]
abbrev Ap(t:Tr):Value:=.agg #[.int .i64 t.1,.int .u64 t.2.1,.int .u64 t.2.2.1,.int .u64 t.2.2.2.1,.pointer t.2.2.2.2.1,.pointer t.2.2.2.2.2]
def Pro(W:dx)(h a:ad)(y:Nat):Prop:=W y\/(h.size<=y/\y<a.size)
theorem Pro.lt{W:dx}{h:ad}(c:∀y,W y->y<h.size)(k:Upd No h a):∀y,Pro W h a y->y<a.size:=λy b=>b.elim (λh=>aD (c y h) k.size) λh=>h.2
theorem Pro.hm{W:dx}{h b:ad}:∀y,Pro W h b y->W y\/h.size<=y:=λ_ a=>a.imp id λh=>h.1
theorem Pro.sub{W:dx}{h c b:ad}:∀y,W y->Pro W h c y\/b.size<=y:=λ_ a=>.inl (.inl a)
theorem RootAt.less{W:dx}{x:Hs}{h:ad}(hm:∀b,W' b->W b\/h.size<=b)(t:RootAt W x h r l):RootAt W' x h r l:=t.imp id λ⟨b,e,t⟩=>⟨b,e,TrieAt.less hm t⟩
theorem RadRoot.less{W:dx}{h:ad}(hm:∀b,W' b->W b\/h.size<=b)(t:RadRoot W h r l):RadRoot W' h r l:=t.imp id λ⟨b,e,t⟩=>⟨b,e,t.less hm⟩
def TreeIs(W:dx)(h:ad)(kind:Int)(x:Hs)(t:Tr)(l:bY):Prop:=(kind=0/\∃b,t=(0,x.k0,x.k1,x.mask,some ⟨b,0,none⟩,none)/\TrieAt W x h 13 b l)\/(kind=1/\∃b,t=(1,0,0,0,none,some ⟨b,0,none⟩)/\RadAt W h b l)
theorem TreeIs.upd0{W:dx}{h:ad}{kind:Int}{x:Hs}{t:Tr}(k:Upd No h h')(i:TreeIs W h kind x t l):TreeIs W h' kind x t l:=
 i.imp (λ⟨e,b,a,t⟩=>⟨e,b,a,TrieAt.upd0 k t⟩) λ⟨e,b,a,t⟩=>⟨e,b,a,t.upd0 k⟩
theorem TreeIs.less{W:dx}{h:ad}(hm:∀b,W' b->W b\/h.size<=b){kind:Int}{x:Hs}{t:Tr}(i:TreeIs W h kind x t l):TreeIs W' h kind x t l:=
 i.imp (λ⟨e,b,a,t⟩=>⟨e,b,a,TrieAt.less hm t⟩) λ⟨e,b,a,t⟩=>⟨e,b,a,t.less hm⟩
theorem TreeIs.updM{W M:dx}{h:ad}(k:Upd M h h')(hm:∀b,M b->W b\/h.size<=b){kind:Int}{x:Hs}{t:Tr}(i:TreeIs W h kind x t l):TreeIs W h' kind x t l:=
 i.imp (λ⟨e,b,a,t⟩=>⟨e,b,a,TrieAt.updM k hm t⟩) λ⟨e,b,a,t⟩=>⟨e,b,a,t.updM k hm⟩
theorem TreeIs.pro{W:dx}{h:ad}(k:Upd No h a){kind:Int}{x:Hs}{t:Tr}(i:TreeIs W h kind x t l):TreeIs (Pro W h a) a kind x t l:=(i.less Pro.hm).upd0 k
theorem KL{W:dx}{x:Hs}{h:ad}(c:∀y,W y->y<h.size)(d:∀h' b,TrieAt W x h' 13 b []->Upd No h h'->K (some ⟨b,0,none⟩) h'):fu 146 [] K h:=by
 refine Bk ?_;unfold wX;exact tS c λh' b nd a=>d h' b (OM nd) a
abbrev rL:Tr:=(0,0,0,0,none,none)
theorem OT{W:dx}{x:Hs}{h:ad}(t:RootAt W x h r l)(q:∀y,W y->y<h.size){K:Tr->dO}(s:∀h' t,TreeIs W h' 0 x t l->Upd No h h'->K t h'):Zi 108 [.agg #[.int .u64 x.k0,.int .u64 x.k1,.int .u64 x.mask],.pointer r] K h:=by
 refine dg (Af (x.k0,x.k1,x.mask) r) Kh Tryz.func108 Tryz.call108 ?_;dsimp only[Af,dE,AP,uj,Q6,my,bh,ao,aE,iZ];refine aQ λm b1 k1=>aQ λj b2 i=>?_
 have w:=bB b1;have v:=bB b2;have d:=k1.tr i;refine eF (λt h'=>Upd No j h'/\∃b,t=some ⟨b,0,none⟩/\TrieAt (Pro W h j) x h' 13 b l) (λR o=>?_) ?_
 .rcases t with⟨rfl,rfl⟩|⟨b,rfl,t⟩
  .exact ay.2 (KL (Pro.lt q d) λp b t a=>o _ _ ⟨a,b,rfl,t⟩)
  .exact ag.2 (o _ _ ⟨eM _ _,b,rfl,TrieAt.upd0 d (TrieAt.less Pro.hm t)⟩)
 .rintro n p ⟨a,b,rfl,n⟩
  have c1:=a.get0 (i.get0 b1);refine⟨_,vc c1 0,_,vc c1 1,_,vc c1 2,?_⟩;refine co (c:=iM rL) (vs:=iM (0,x.k0,x.k1,x.mask,some ⟨b,0,none⟩,none)) (a.get0 b2) rfl λu e f=>?_
  refine⟨_,vc e 0,_,vc e 1,_,vc e 2,_,vc e 3,_,vc e 4,_,vc e 5,?_⟩;have g:h.size<=m.size:=k1.size;exact s u _ (.inl ⟨rfl,b,rfl,TrieAt.less Pro.sub (TrieAt.updM f (λy k=>.inl (.inr (by have k:y=m.size:=k;omega))) n)⟩) ((d.tr a).own f g)
theorem OQ{W:dx}{x:Hs}{h:ad}(t:RadRoot W h r l)(n:∀y,W y->y<h.size){K:Tr->dO}(o:∀h' t,TreeIs W h' 1 x t l->Upd No h h'->K t h'):Zi 109 [.pointer r] K h:=by
 refine dg (Ae r) Kg Tryz.func109 Tryz.call109 ?_;dsimp only[Ae,dE,uj,Q6,my,bh,ao,aE];refine aQ λg b2 d=>?_
 have q:=bB b2;refine eF (λt h'=>Upd No g h'/\∃b,t=some ⟨b,0,none⟩/\RadAt (Pro W h g) h' b l) (λR k=>?_) ?_
 .rcases t with⟨rfl,rfl⟩|⟨b,rfl,t⟩
  .exact ay.2 (H4 (Pro.lt n d) λm b t a=>k _ _ ⟨a,b,rfl,t⟩)
  .exact ag.2 (k _ _ ⟨eM _ _,b,rfl,(t.less Pro.hm).upd0 d⟩)
 .rintro j m ⟨a,b,rfl,j⟩
  refine co (c:=iM rL) (vs:=iM (1,0,0,0,none,some ⟨b,0,none⟩)) (a.get0 b2) rfl λp e f=>?_
  refine⟨_,vc e 0,_,vc e 1,_,vc e 2,_,vc e 3,_,vc e 4,_,vc e 5,?_⟩;exact o p _ (.inr ⟨rfl,b,rfl,(j.updM f (λy i=>.inl (.inr (by have i:y=h.size:=i;omega)))).less Pro.sub⟩) ((d.tr a).own f (aj _))
theorem TS{W:dx}{x:Hs}{h:ad}(p:∀y,W y->y<h.size){kind:Int}(k:kind=0\/kind=1){K:Tr×Int->dO}(q:∀h' t,TreeIs W h' kind x t []->Upd No h h'->K (t,0) h'):Kl 59 [.int .i64 kind,.agg #[.int .u64 x.k0,.int .u64 x.k1,.int .u64 x.mask]] K h:=by
 refine JC kind (x.k0,x.k1,x.mask) ?_;dsimp only[Ct,dE,AP,zh,uj,rC,my,bh,ao,aE,iZ];refine aQ λj b1 k1=>aQ λo b2 n=>?_
 have v:=bB b1;have u:=bB b2;have e:=k1.tr n;have g:h.size<=j.size:=k1.size;have c1:=n.get0 b1;rcases k with rfl|rfl
 .refine ay.2 ⟨_,vc c1 0,_,vc c1 1,_,vc c1 2,?_⟩
  refine OT (W:=Pro W h o) (x:=x) (l:= []) (.inl ⟨rfl,rfl⟩) (Pro.lt p e) λs t i b=>?_
  refine co (c:=iM rL) (vs:=iM t) (b.get0 b2) rfl λm a d=>?_
  refine⟨_,vc a 0,_,vc a 1,_,vc a 2,_,vc a 3,_,vc a 4,_,vc a 5,?_⟩;exact q m t ((i.updM d (λy f=>.inl (.inr (by have f:y=j.size:=f;omega)))).less Pro.sub) ((e.tr b).own d g)
 .refine ag.2 (ay.2 ?_)
  refine OQ (W:=Pro W h o) (x:=x) (l:= []) (.inl ⟨rfl,rfl⟩) (Pro.lt p e) λs t i b=>?_
  refine co (c:=iM rL) (vs:=iM t) (b.get0 b2) rfl λm a d=>?_
  refine⟨_,vc a 0,_,vc a 1,_,vc a 2,_,vc a 3,_,vc a 4,_,vc a 5,?_⟩;exact q m t ((i.updM d (λy f=>.inl (.inr (by have f:y=j.size:=f;omega)))).less Pro.sub) ((e.tr b).own d g)
theorem LA{k v:c6}(c:k.size<=256)(b:v.size<=4096){h:ad}{K:Int->dO}(a:K 0 h):fK 62 [.string k,.string v] K h:=by
 refine dg (Eb k v) .nil Tryz.func62 Tryz.call62 ?_;unfold Eb;refine ar (λh=>absurd h a4) λ_=>ar (λh=>absurd h a4) λ_=>a
theorem CN{W:dx}{x:Hs}{h:ad}{kind:Int}{t:Tr}(i:TreeIs W h kind x t l)(L:∀y,W y->y<h.size)(I:bS l)(O:l.length<=1000000)(p:Pr)(w:p.1.size<=256)(A:p.2.size<=4096){K:Tr×Int->dO}
  (G:∀h' t',TreeIs W h' kind x t' (gQ p l)->(p∈l->t'=t)->Upd No h h'->K (t',0) h'):Kl 22 [Ap t,.pointer none,.agg #[.string p.1,.string p.2]] K h:=by
 refine dg (xM t none p) .nil Tryz.func22 Tryz.call22 ?_;dsimp only[xM,bh,zh,aE,qD,uj,dd,kF,mH,bo,z9,dE,Q6,my,ao,AV,ge,kH,rC,r7,AO];refine aQ λH b1 k1=>aQ λz b2 B=>aQ λS b3 v=>?_
 have Q:=bB b1;have X:=bB b2;have T:=bB b3;have V:h.size<=H.size:=k1.size;have U:H.size<=z.size:=B.size;have R:=v.size;have n:=(k1.tr B).tr v;have o:=v.get0 (B.get0 b1);have s:=v.get0 b2;have J:=i.pro n;have u:=Pro.lt L n;refine⟨_,vc s 0,_,vc s 1,LA w A (ag.2 ?_)⟩;rcases J with⟨rfl,b,rfl,C⟩|⟨rfl,b,rfl,C⟩
 .refine⟨_,vc o 0,ag.2 ⟨_,iq o 1 0,_,iq o 1 1,_,iq o 1 2,_,vc o 4,p.1,vc s 0,p.2,vc s 1,?_⟩⟩
  refine Qe (.inr ⟨b,rfl,C⟩) u I O p λP q d D f=>?_
  refine oD (i:=4) (c':=(iM (0,x.k0,x.k1,x.mask,some ⟨q,0,none⟩,none)).toArray) (d.get0 o) (show 4<6 by decide) rfl λN j a=>?_
  refine⟨_,vc j 0,_,vc j 1,_,vc j 2,_,vc j 3,_,vc j 4,_,vc j 5,?_⟩;refine co (c:=iM rL) (vs:=iM (0,x.k0,x.k1,x.mask,some ⟨q,0,none⟩,none)) (a.oth (d.get0 b3) a4) rfl λF g k=>?_
  refine⟨_,vc g 0,_,vc g 1,_,vc g 2,_,vc g 3,_,vc g 4,_,vc g 5,?_⟩;refine G F _ (.inl ⟨rfl,q,rfl,TrieAt.less Pro.sub (TrieAt.updM k (λy m=>.inl (.inr (by have m:y=z.size:=m;omega))) (TrieAt.updM a (λy m=>.inl (.inr (by have m:y=h.size:=m;omega))) D))⟩) (λhm=>?_) (((n.tr d).own a (aj _)).own k a4)
  rcases f hm with e|e
  .rw[e]
  .cases e
 .refine⟨_,vc o 0,ay.2 ⟨_,vc o 5,p.1,vc s 0,p.2,vc s 1,?_⟩⟩
  refine Pc (.inr ⟨b,rfl,C⟩) u I p a4 λP q E d D f=>?_
  refine oD (i:=5) (c':=(iM (1,0,0,0,none,some ⟨q,0,none⟩)).toArray) (d.get0 o) (show 5<6 by decide) rfl λN j a=>?_
  refine⟨_,vc j 0,_,vc j 1,_,vc j 2,_,vc j 3,_,vc j 4,_,vc j 5,?_⟩;refine co (c:=iM rL) (vs:=iM (1,0,0,0,none,some ⟨q,0,none⟩)) (a.oth (d.get0 b3) a4) rfl λF g k=>?_
  refine⟨_,vc g 0,_,vc g 1,_,vc g 2,_,vc g 3,_,vc g 4,_,vc g 5,?_⟩;refine G F _ (.inr ⟨rfl,q,rfl,((D.updM a (λy m=>.inl (.inr (by have m:y=h.size:=m;omega)))).updM k (λy m=>.inl (.inr (by have m:y=z.size:=m;omega)))).less Pro.sub⟩) (λhm=>?_) (((n.tr d).own a (aj _)).own k a4)
  rcases f hm with e|e
  .rw[e]
  .cases e
def kS(t u:Tr):Bool:=(t.1==u.1)&&((((t.2.1==u.2.1)&&((t.2.2.1==u.2.2.1)&&true)))&&((t.2.2.2.1==u.2.2.2.1)&&true))
theorem xk{t u:Tr}{h:ad}{K:Bool->dO}(b:∀h',Upd No h h'->K (kS t u) h'):gl 65 [Ap t,Ap u] K h:=by
 refine Qs t u ?_;dsimp only[Gi,bh,AV,ge,kH,rC];refine aQ λd b1 k1=>aQ λc b2 a=>?_
 have c1:=a.get0 b1;refine⟨_,vc c1 0,_,vc b2 0,?_⟩;have:=b c (k1.tr a);unfold kS at this;rcases hb:(t.1==u.1)with _|_
 .rw[hb]at this
  exact ag.2 this
 .rw[hb]at this
  exact ay.2 ⟨_,iq c1 1 0,_,iq c1 1 1,_,iq c1 1 2,_,iq b2 1 0,_,iq b2 1 1,_,iq b2 1 2,this⟩
theorem EB{W:dx}{x:Hs}{h:ad}{b:Nat}(_:TrieAt W x h 13 b l)(c:∀h',Upd No h h'->K (some ⟨b,0,none⟩) h'):fu 100 [Ap (0,x.k0,x.k1,x.mask,some ⟨b,0,none⟩,none)] K h:=by
 refine dg (vT (0,x.k0,x.k1,x.mask,some ⟨b,0,none⟩,none)) Ej Tryz.func100 Tryz.call100 ?_;dsimp only[vT,bh,aE,kH,rC];refine aQ λd b1 k1=>?_
 refine eF (λt h'=>t=false/\h'=d) (λR a=>⟨_,vc b1 0,ay.2 ⟨_,vc b1 4,a _ _ ⟨rfl,rfl⟩⟩⟩) ?_
 rintro t h' ⟨rfl,rfl⟩;exact ag.2 ⟨_,vc b1 4,c h' k1⟩
def Mq(kind:Int)(x:Hs)(l:bY)(xs:c5):Prop:=(kind=0/\xs=0::fp x 13 l)\/(kind=1/\∃ys,Ti l ys/\xs=1::ys)
theorem AI{h:ad}{b:UInt8}(hb:a[h.size]? =some (.cells #[.int .u8 (b.toNat:Int)] 5 (0,0))):OwnS pJ 1 5 (λy=>h.size<=y) a ⟨some ⟨h.size,0,none⟩,1,1⟩ [b]:=⟨rfl,uH,aj _,.inr ⟨h.size,[],rfl,aj _,hb,rfl⟩⟩
theorem EA{W:dx}{x:Hs}{h:ad}{kind:Int}{t:Tr}(i:TreeIs W h kind x t l)(A:bS l)(m:Fit l)(o:l.length<=60000){K:fD->dO}
  (z:∀s' h' xs,Mq kind x l xs->OwnS pJ 1 5 (λy=>h.size<=y) h' s' xs->Upd No h h'->K s' h'):ce 55 [Ap t] K h:=by
 refine dg (vR t) .nil Tryz.func55 Tryz.call55 ?_;dsimp only[vR,bh,aE,rx,my,ao,kH,rC];refine aQ λk b1 k1=>?_
 have G:=k1.size;have app:∀{b:UInt8} {d c:ad} {s:fD} {xs:c5},d[k.size]? =some (.cells #[.int .u8 (b.toNat:Int)] 5 (0,0))->Upd No k d->OwnS pJ 1 5 (λy=>d.size<=y) c s xs->Upd No d c->xs.length<=70000000000000->Mq kind x l (b::xs)->
   ∃xs7,SRow c s.a (s.len*1) xs7/\AppP (some [.int .u8 0]) 1 1 5 (some (aR k)) 1 1 s.len xs7 c (λE D=>K E D):=λ{b d c s xs} hb a v f I hv=>by
  refine⟨_,(v.sl (W:=No) λ_ _ _ h=>h).srow,?_⟩
  have j:=a.tr f;have F:=bB hb;have C:OwnS pJ 1 5 (λy=>h.size<=y) c ⟨some ⟨k.size,0,none⟩,1,1⟩ [b]:=((AI hb).upd f λ_ _ h=>h).more λy n=>a4
  refine AppP.own (ys:=xs) C v.len rfl (CY _) rfl a4 (by simp only[aG];omega) (by have:=j.size;omega) λs' h' p u=>?_
  exact z s' h' _ hv p ((k1.tr j).trans u λy n=>.inr n)
 rcases i with⟨rfl,b,rfl,t⟩|⟨rfl,b,rfl,t⟩
 .refine⟨_,vc b1 0,ag.2 (aQ λd b2 a=>?_)⟩
  have c1:=a.get0 b1;refine⟨_,vc c1 0,_,vc c1 1,_,vc c1 2,_,vc c1 3,_,vc c1 4,_,vc c1 5,?_⟩;refine EB (TrieAt.upd0 (k1.tr a) t) λc f=>?_
  refine ZM (TrieAt.upd0 ((k1.tr a).tr f) t) m o λw B e q=>?_
  have H:=f.size;have g:=pk (x:=x) 13 m;have hb:l.length*(20004+9*(13+1))<=60000*(20004+9*(13+1)):=cD _ o;exact app (b:=0) b2 a (e.more λy n=>a4) (f.tr q) a4 (.inl ⟨rfl,rfl⟩)
 .refine⟨_,vc b1 0,ay.2 (aQ λd b2 a=>?_)⟩
  have c1:=a.get0 b1;refine⟨_,vc c1 5,?_⟩;refine Pe (t.upd0 (k1.tr a)) A m o λw B xs hv e q=>?_
  have g:=CU hv m;have hb:2*l.length*20010<=2*60000*20010:=cD _ a4;exact app (b:=1) b2 a e q a4 (.inr ⟨rfl,xs,hv,rfl⟩)
theorem LM{W:dx}{h:ad}{kind a:Int}{x:Hs}{t u:Tr}(i:TreeIs W h kind x t l)(e:TreeIs W' h' a d u l')(c:kS t u=true):kind=a/\(kind=0->x=d):=by
 rcases i with⟨rfl,b,rfl,_⟩|⟨rfl,b,rfl,_⟩<;>rcases e with⟨rfl,b',rfl,_⟩|⟨rfl,b',rfl,_⟩
 .refine⟨rfl,λ_=>?_⟩
  unfold kS at c;simp only[Bool.and_eq_true,beq_iff_eq,Bool.and_true,true_and]at c;cases x;cases d;simp only at c;simp only[Hs.mk.injEq];exact⟨c.1.1,c.1.2,c.2⟩
 .simp[kS]at c
 .simp[kS]at c
 .exact⟨rfl,λh=>by cases h⟩
theorem ON{kind:Int}{x:Hs}(hx:kind=0->x=d){b:c5}(hv:Mq kind x l xs)(a:Mq kind d l' b)(i:Fit l)(c:Fit l')(k:l.length<=60000)(f:l'.length<=60000)(j:bS l)(g:bS l'):xs=b↔l=l':=by
 rcases hv with⟨rfl,rfl⟩|⟨rfl,ys,hv,rfl⟩<;>rcases a with⟨e,rfl⟩|⟨e,m,a,rfl⟩
 .rw[hx rfl]
  constructor
  .intro h
   have h:fp d 13 l++ []=fp d 13 l'++ []:=by rw[(eB.inj h).2]
   exact(HZ 13 i c k f j g h).1
  .rintro rfl;rfl
 .cases e
 .cases e
 .rw[eB.injEq,<-ZU hv a i c]
  exact⟨λh=>h.2,λh=>⟨rfl,h⟩⟩
theorem W5{W:dx}{x D:Hs}{h:ad}{kind b:Int}{t u:Tr}(i:TreeIs W h kind x t l)(A:TreeIs W' h b D u l')(y:bS l)(z:Fit l)(v:l.length<=60000)(e:bS l')(g:Fit l')(f:l'.length<=60000){K:Bool->dO}
  (k:∀h',Upd No h h'->K (kS t u&&decide (l=l')) h'):gl 58 [Ap t,Ap u] K h:=by
 refine dg (Gh t u) .nil Tryz.func58 Tryz.call58 ?_;dsimp only[Gh,rx,AN,my,bh,ao,aE,wU,Tg,kH,rC];refine aQ λH b1 k1=>aQ λG b2 w=>?_
 have c1:=w.get0 b1;refine⟨_,vc c1 0,_,vc c1 1,_,vc c1 2,_,vc c1 3,_,vc c1 4,_,vc c1 5,_,vc b2 0,_,vc b2 1,_,vc b2 2,_,vc b2 3,_,vc b2 4,_,vc b2 5,?_⟩;refine xk λB n=>?_
 have a:=(k1.tr w).tr n;have c:=n.get0 c1;have b3:=n.get0 b2;rcases hl:kS t u with _|_
 .rw[hl]at k
  exact ag.2 (k B a)
 .rw[hl]at k
  refine ay.2 ⟨_,vc c 0,_,vc c 1,_,vc c 2,_,vc c 3,_,vc c 4,_,vc c 5,_,vc b3 0,_,vc b3 1,_,vc b3 2,_,vc b3 3,_,vc b3 4,_,vc b3 5,?_⟩;refine EA (i.upd0 a) y z v λE I xs hv m o=>?_
  have d:=o.get0 b3;refine⟨⟨vc d 0,vc d 1,vc d 2,vc d 3,vc d 4,vc d 5⟩,?_⟩;refine EA (A.upd0 (a.tr o)) e g f λF C ys q p s=>?_
  have j:=m.upd s λ_ _ h=>h
  refine S7 (W:=No) (W':=No) (j.sl λ_ _ _ h=>h) (p.sl λ_ _ _ h=>h) ?_
  obtain⟨rfl,hx⟩:=LM i A hl;have:=k C ((a.tr o).tr s);rw[decide_eq_decide.2 (ON hx hv q z g v f y e)];exact this
theorem TreeIs.plain{W:dx}{h:ad}{kind:Int}{x:Hs}{t:Tr}(i:TreeIs W h kind x t l):(∀a,t.2.2.2.2.1=some a->fQ h a)/\(∀a,t.2.2.2.2.2=some a->fQ h a):=by
 rcases i with⟨rfl,b,rfl,t⟩|⟨rfl,b,rfl,t⟩
 .obtain⟨s,nd,_⟩:=t
  obtain⟨d,n,sp,sk,ow,hb,_⟩:=nd.ex;refine⟨λa c=>?_,λa c=>(by cases c)⟩
  cases c;exact⟨_,_,hb,show 0<6 by decide⟩
 .obtain⟨w,F,⟨val,s,ow,ks,hb,_⟩,_⟩:=t.ex
  refine⟨λa c=>(by cases c),λa c=>?_⟩
  cases c;exact⟨_,_,hb,show 0<5 by decide⟩
abbrev kStr:KeyE c6:=⟨λs=>.string s,.str,λx=>⟨x,rfl⟩,λx y=>⟨λe=>yO e,λe=>by subst e;exact zU x⟩⟩
abbrev TD:=Tr×bY
abbrev acF(d:TD):Value:=Ap d.1
abbrev PR(n:Int):Value:=.int .u32 n
structure VS where
 gp:Nat
 gm:Nat
 tm:Nat
 bm:Nat
 nm:Nat
 kind:Int
 x:Hs
 e:Tr
 L:dA
 nx:Int
 D:List (Int×TD)
 B:List (c6×Int)
 G:List (c6×Int)
def VS.M(s:VS):Nat->Prop:=λy=>y=s.gp\/y=s.gm\/y=s.tm\/y=s.bm\/y=s.nm
structure VaultAt(W:dx)(h:ad)(vp:Nat)(s:VS):Prop where
 blk:h[vp]? =some (.cells (iM s.e++ [Value.pointer (some ⟨s.gp,0,none⟩),Value.map (some s.tm),Value.map (some s.bm),Value.map (some s.nm)]).toArray 96 (0,0))
 g:GraphAt W h s.gp s.gm s.L s.nx
 t:MapAt KE acF h s.tm s.D
 b:MapAt kStr PR h s.bm s.B
 n:MapAt kStr PR h s.nm s.G
 w:∀y,s.M y->W y
 wv:¬W vp
 ne: [s.gp,s.gm,s.tm,s.bm,s.nm].Nodup
 em:TreeIs W h s.kind s.x s.e []
 ts:∀d∈s.D,TreeIs W h s.kind s.x d.2.1 d.2.2/\bS d.2.2/\Fit d.2.2
 sub:∀id,id∈s.D.map (·.1)↔id∈eR s.L
 inv:Inv s.L s.nx
 kd:s.kind=0\/s.kind=1
theorem VaultAt.upd{W M:dx}{h:ad}{a:Nat}{s:VS}(v:VaultAt W h a s)(k:Upd M h h')(hm:∀b,M b->(W b/\¬s.M b)\/h.size<=b):VaultAt W h' a s:=by
 have c:∀y,s.M y->¬M y:=λy g hb=>(hm y hb).elim (λe=>e.2 g) λe=>absurd (v.g.lt y (v.w y g)) a4
 have i:∀b,M b->W b\/h.size<=b:=λb hb=>(hm b hb).imp (·.1) id
 have hv:¬M a:=λhb=>(hm a hb).elim (λe=>v.wv e.1) λe=>absurd (bB v.blk) a4
 exact⟨k.get v.blk hv,v.g.upd k λb hb=>(hm b hb).imp (λe=>⟨e.1,λf=>e.2 (.inl f),λf=>e.2 (.inr (.inl f))⟩) id,v.t.upd k (c _ (.inr (.inr (.inl rfl)))),v.b.upd k (c _ (.inr (.inr (.inr (.inl rfl))))),v.n.upd k (c _ (.inr (.inr (.inr (.inr rfl))))),v.w,v.wv,v.ne,v.em.updM k i,λd hd=>⟨(v.ts d hd).1.updM k i,(v.ts d hd).2⟩,v.sub,v.inv,v.kd⟩
theorem VaultAt.upd0{W:dx}{h:ad}{a:Nat}{s:VS}(v:VaultAt W h a s)(k:Upd No h h'):VaultAt W h' a s:=v.upd k λ_ h=>h.elim
theorem Nt{h:ad}{r:Nat}{es:Array MapEntry}{a:Nat}(t:TypeId)(b:h[r]? =some (.map es a)) {K:Value->dO} (c:K (.iface t (.map (some h.size))) (h.push (.map es a))):
  VT 138 [.iface t (.map (some r))] K h:=by
 refine⟨λw f=>.inr ?_⟩
 subst f;have d:(getObj r).run PG w=.ok (.map es a) w:=by simp[getObj,Sem.run,b]
 refine⟨.iface t (.map (some w.heap.size)),w.alloc (.map es a),?_,⟨rfl,rfl,rfl⟩,_,rfl,c⟩;rw[N8];have e:Extern.MapsClone.clone #[.iface t (.map (some r))]=(getObj r>>=λo=>match o with
   | .map entries a=>(newObj (.map entries a)>>=λn=>pure (.iface t (.map (some n))))
   |_=>stuck "maps.clone: a map expected"):=rfl
 rw[show([Value.iface t (.map (some r))]:c4).toArray= #[.iface t (.map (some r))]from rfl,e]
 simp only[Sem.run_bind,d,Result.andThen_ok];rfl
theorem X6{W:dx}{h:ad}{gp gm:Nat}{L:dA}{nx:Int}(g:GraphAt W h gp gm L nx)
  (w:∀h',Upd No h h'->GraphAt (λb=>W b\/b=h.size+1\/b=h.size) h' gp gm L nx->GraphAt (λb=>W b\/b=h.size+1\/b=h.size) h' (h.size+1) h.size L nx->K (some ⟨h.size+1,0,none⟩) h'):
  fu 39 [gZ gp] K h:=by
 refine dg (vj (some ⟨gp,0,none⟩)) .nil Tryz.func39 Tryz.call39 ?_;dsimp only[vj,cz,ey,cJ,xG];refine eh (λe=>by cases e) λ_=>⟨_,rfl,_,g.c0,_,rfl,_,g.c1,?_⟩
 refine dg (jG (some gm)) .nil Tryz.func89 Tryz.call89 ?_;unfold jG;refine eh (λe=>by cases e) λ_=>?_
 obtain⟨m,⟨ms,a,hm,u⟩,p⟩:=g.map;refine Nt _ hm.here ⟨_,rfl,?_⟩;have k1:=Upd.push No h (.map (ms.map (ET KE sv)).toArray a);have c:MapAt KE sv (h.push (.map (ms.map (ET KE sv)).toArray a)) h.size m:=⟨ms,a,⟨oJ h _,hm.keys,hm.nums,hm.old⟩,u⟩;refine⟨(g.upd0 k1).c1,?_⟩;have d:(h.push (.map (ms.map (ET KE sv)).toArray a)).size=h.size+1:=a6
 generalize (h.push (.map (ms.map (ET KE sv)).toArray a))=h1 at k1 c d;have f:=e9 No h1 [.map (some h.size),.int .u32 nx] 104;have b2:=cf h1 [.map (some h.size),.int .u32 nx] 104;have v:=dS h1 [.map (some h.size),.int .u32 nx] 104;simp only[At,cG];rw[d]at b2⊢;generalize hnew h1 [.map (some h.size),.int .u32 nx] 104=h2 at f b2 v;have k:=k1.tr f;have i:∀b,(b=h.size+1\/b=h.size)->h.size<=b/\b<h2.size:=λb hb=>a4
 have n:=g.more (Q:=λb=>b=h.size+1\/b=h.size) k i
 refine⟨((g.upd0 k1).upd0 f).c1,w h2 k n ⟨b2,⟨m,c.upd f id,?_⟩,.inr (.inl rfl),.inr (.inr rfl),n.lt,g.nd⟩⟩;intro j;rcases p j with⟨s,ps,o,t,x⟩|q
 .exact .inl ⟨s,ps,o,t,(x.less λb hb=>hb.imp id λhb=>(i b hb).1).upd k λ_ h=>h.elim⟩
 .exact .inr q
section
variable {W:dx} {h:ad} {vp:Nat} {s:VS}
abbrev pV(a:Nat):Value:=.pointer (some ⟨a,0,none⟩)
theorem Hc(v:VaultAt W h vp s)(id:Int){K:Bool->dO}(a:K (decide (id=0\/id∈eR s.L)) h):gl 74 [pV vp,.int .u32 id] K h:=by
 refine dg (vP (some ⟨vp,0,none⟩) id) .nil Tryz.func74 Tryz.call74 ?_;dsimp only[vP,cO,iC,cJ];refine eh (λe=>?_) λe=>⟨_,rfl,_,vc v.blk 6,NJ v.g id ?_⟩
 .rw[decide_eq_true (.inl (by simpa using e))]at a;exact a
 .have e:id≠0:=by simpa using e
  rw[show decide (id=0\/id∈eR s.L)=decide (id∈eR s.L)from by simp[e]]at a;exact a
theorem uh(v:VaultAt W h vp s)(id fr:Int){K:Bool->dO}(a:∀b h',(b=true↔id=0\/UpG s.L fr id)->Upd No h h'->K b h'):gl 68 [pV vp,.int .u32 id,.int .u32 fr] K h:=by
 refine dg (tC (some ⟨vp,0,none⟩) id fr) .nil Tryz.func68 Tryz.call68 ?_;dsimp only[tC,cO,vt,cJ];refine eh (λe=>a _ _ ⟨λ_=>.inl (by simpa using e),λ_=>rfl⟩ (eM _ _)) λe=>⟨_,rfl,_,vc v.blk 6,VU v.g v.inv.good.toSmall fr id λb h' hb c=>a b h' ?_ c⟩
 have e:id≠0:=by simpa using e
 simp[hb,e]
theorem ir(v:VaultAt W h vp s)(n:c6){K:Int×Bool->dO}(a:K ((bK s.B n).getD 0,(bK s.B n).isSome) h):EZ 50 [pV vp,.string n] K h:=by
 refine dg (uR (some ⟨vp,0,none⟩) n) .nil Tryz.func50 Tryz.call50 ?_;dsimp only[uR,cz,cJ,Qm];exact eh (λe=>by cases e) λ_=>⟨_,rfl,_,vc v.blk 8,_,_,v.b.get n 0,a⟩
theorem Lk(v:VaultAt W h vp s){K:Tr->dO}(b:∀h',Upd No h h'->K s.e h'):Zi 21 [pV vp] K h:=by
 refine dg (tG (some ⟨vp,0,none⟩)) .nil Tryz.func21 Tryz.call21 ?_;dsimp only[tG,dE,uj,cO,Q6,my,bh,ao,aE,cJ,yz,tx,ge];refine aQ λf b1 k1=>eh (λe=>by cases e) λ_=>⟨_,rfl,?_⟩
 have c:=k1.get0 v.blk;refine⟨_,iq c 0 0,_,iq c 0 1,_,iq c 0 2,_,iq c 0 3,_,iq c 0 4,_,iq c 0 5,?_⟩;refine co (c:=iM rL) (vs:=iM s.e) b1 rfl λd b2 a=>?_
 exact⟨_,vc b2 0,_,vc b2 1,_,vc b2 2,_,vc b2 3,_,vc b2 4,_,vc b2 5,b d (k1.own a (aj _))⟩
theorem xh(v:VaultAt W h vp s)(id:Int){K:Tr×Int->dO}(i:id=0->∀h',Upd No h h'->K (s.e,0) h')(m:∀d,bK s.D id=some d->id≠0->∀h',Upd No h h'->K (d.1,0) h')(k:bK s.D id=none->id≠0->∀h',Upd No h h'->K (rL,4) h'):
  Kl 14 [pV vp,.int .u32 id] K h:=by
 refine dg (uP (some ⟨vp,0,none⟩) id) .nil Tryz.func14 Tryz.call14 ?_;dsimp only[uP,cz,dE,nv,Kk,uj,rC,cO,Q6,Za,my,bh,ao,aE,cJ,yz,tx,ge,z9];refine aQ λw b1 k1=>eh (λe=>by cases e) λ_=>?_
 have c:=k1.get0 v.blk;refine eh (λe=>⟨_,rfl,?_⟩) λe=>⟨_,rfl,_,vc c 7,((bK s.D id).getD (rL,[])).1,_,(v.t.upd k1 λh=>h).get id (rL,[]),aQ λp b2 o=>?_⟩
 .refine⟨_,iq c 0 0,_,iq c 0 1,_,iq c 0 2,_,iq c 0 3,_,iq c 0 4,_,iq c 0 5,?_⟩
  refine co (c:=iM rL) (vs:=iM s.e) b1 rfl λp b2 n=>?_
  exact⟨_,vc b2 0,_,vc b2 1,_,vc b2 2,_,vc b2 3,_,vc b2 4,_,vc b2 5,i (by simpa using e) p (k1.own n (aj _))⟩
 .have e:id≠0:=by simpa using e
  have x:=bB b1;have u:=k1.size;refine co (c:=iM rL) (vs:=iM ((bK s.D id).getD (rL,[])).1) b2 rfl λt b3 f=>?_
  have g:=f.oth (o.get0 b1) a4;have q:Upd No h t:=(k1.tr o).own f k1.size;cases hl:bK s.D id with
  |none=>
   refine ay.2 (co (c:=iM rL) (vs:=iM rL) g rfl λj a b=>?_)
   exact⟨_,vc a 0,_,vc a 1,_,vc a 2,_,vc a 3,_,vc a 4,_,vc a 5,k hl e j (q.own b (aj _))⟩
  |some d=>
   rw[hl]at b3;refine ag.2 ⟨_,vc b3 0,_,vc b3 1,_,vc b3 2,_,vc b3 3,_,vc b3 4,_,vc b3 5,?_⟩;refine co (c:=iM rL) (vs:=iM d.1) g rfl λj a b=>?_
   exact⟨_,vc a 0,_,vc a 1,_,vc a 2,_,vc a 3,_,vc a 4,_,vc a 5,m d hl e j (q.own b (aj _))⟩
theorem Vb(v:VaultAt W h vp s)(c:∀h',Upd No h h'->GraphAt (λb=>W b\/b=h.size+1\/b=h.size) h' (h.size+1) h.size s.L s.nx->K (some ⟨h.size+1,0,none⟩) h'):fu 8 [pV vp] K h:=by
 refine dg (tF (some ⟨vp,0,none⟩)) .nil Tryz.func8 Tryz.call8 ?_;dsimp only[tF,cO,cJ];exact eh (λe=>by cases e) λ_=>⟨_,rfl,_,vc v.blk 6,X6 v.g λh' a _ g=>c h' a g⟩
theorem VaultAt.turn{M:dx}{L:dA}{nx:Int}{D:List (Int×TD)}{B G:List (c6×Int)}(v:VaultAt W h vp s)(k:Upd M h h')(hm:∀b,M b->W b\/h.size<=b)(g:GraphAt W h' s.gp s.gm L nx)(t:MapAt KE acF h' s.tm D)(b:MapAt kStr PR h' s.bm B)(n:MapAt kStr PR h' s.nm G)
  (ts:∀d∈D,d∈s.D\/TreeIs W h' s.kind s.x d.2.1 d.2.2/\bS d.2.2/\Fit d.2.2)(sub:∀id,id∈D.map (·.1)↔id∈eR L)(inv:Inv L nx):VaultAt W h' vp {s with L:=L,nx:=nx,D:=D,B:=B,G:=G}:=by
 have hv:¬M vp:=λhb=>(hm vp hb).elim (λe=>v.wv e) λe=>absurd (bB v.blk) a4
 exact⟨k.get v.blk hv,g,t,b,n,v.w,v.wv,v.ne,v.em.updM k hm,λd hd=>(ts d hd).elim (λe=>⟨(v.ts d e).1.updM k hm,(v.ts d e).2⟩) id,sub,inv,v.kd⟩
end
end
section
open Go.Lift
variable {K:Bool->dO}{W:dx}{g i:Nat}{B:List (c6×Int)}{k:dO}
def xC(b:UInt8):Bool:=decide (33<=b.toNat)&&decide (b.toNat<=126)
def qb(n:c6):Bool:=decide (1<=n.size)&&decide (n.size<=32)&&n.data.toList.all xC
theorem YD{b:UInt8}{h:ad}(a:K (!xC b) h):gl 160 [.int .u8 b.toNat] K h:=by
 refine dg (yT b.toNat) .nil Tryz.func160 Tryz.call160 ?_;unfold yT;refine ar (λe=>?_) λe=>?_
 .rw[show(!xC b)=true from by simp[xC];omega]at a;exact a
 .rw[show(!xC b)=decide ((b.toNat:Int)>126)from by unfold xC;rw[decide_eq_true (by omega:33<=b.toNat),Bool.true_and,<-decide_not,decide_eq_decide];omega]at a;exact a
theorem U9{n:c6}{h:ad}(f:∀h',Upd No h h'->K (qb n) h'):gl 110 [.string n] K h:=by
 refine dg (Bm n) K6 Tryz.func110 Tryz.call110 ?_;unfold Bm;refine eQ (ar (λe=>ay.2 ?_) λe=>ar (λk=>?_) λk=>?_)
 .rw[show qb n=false from by simp[qb];omega]at f;exact f _ (eM _ _)
 .rw[show qb n=false from by simp[qb];omega]at f;exact f _ (eM _ _)
 .refine λc hc=>?_
  have k1:=Upd.push No h (.cells (di n++eO (c-n.size) (Value.int .u8 0)).toArray 5 (c,c+1));have b1:=oJ h (.cells (di n++eO (c-n.size) (Value.int .u8 0)).toArray 5 (c,c+1));generalize h.push (.cells (di n++eO (c-n.size) (Value.int .u8 0)).toArray 5 (c,c+1))=h1 at k1 b1;have d:n.data.toList.length=n.size:=Array.length_toList;refine pR ⟨some (aR h),n.size,c⟩ _ ?_
  unfold jS;refine qX ⟨some (aR h),n.size,c⟩ _ ?_;dsimp only[kW,cz,jX,fj];refine ez (λ(i:Nat) (t:Int) h'=>t=(i:Int)/\h'=h1/\i<=n.size/\∀b∈n.data.toList.take i,xC b=true) (λi=>n.size-i) 0 ⟨rfl,rfl,aJ _,a6⟩ ?_
  rintro I i t h' ⟨rfl,rfl,hi,j⟩ m;refine ar (λa=>?_) λg=>?_
  .have a:i<n.data.toList.length:=by rw[d];(try simp only at a);omega
   refine⟨by(try simp only);omega,aR h,rfl,(n.data.toList[i].toNat:Int),?_,?_⟩
   .rw[lz b1,List.getElem?_toArray,aY,Nat.mul_one,List.getElem?_append_left (by simp[di];omega)]
    simp[di,d▸a]
   .refine HV.mk' (YD (b:=n.data.toList[i]) (eh (λe=>?_) λe=>?_))
    .rw[show qb n=false from ?_]at f
     .rw[decide_eq_true a4];exact f _ k1
     .unfold qb
      rw[show n.data.toList.all xC=false from List.all_eq_false.2 ⟨_,aF a,by simpa using e⟩,Bool.and_false]
    .rw[bN (n:=n.size) a4 a4]
     refine m (i+1) _ _ ⟨rfl,rfl,a4,?_⟩ a4
     rw[ax a];intro b hb;rcases aN.1 hb with hb|hb
     .exact j b hb
     .rw[az.1 hb];simpa using e
  .have:i=n.size:=by(try simp only at g);omega
   subst this;rw[<-d,bG]at j;rw[show qb n=true from by unfold qb;rw[List.all_eq_true.2 j];simp;omega]at f
   exact f _ k1
def mF(B:List (c6×Int))(L:dA)(n:c6)(id:Int)(no:Bool):Int:=if qb n=false then 1 else if(bK B n).isSome then 7 else if no|| !decide (id=0\/id∈eR L)then 4 else if B.length>=256 then 6 else 0
theorem UT{h:ad}{s:VS}(v:VaultAt W h g s){r:Nat}(m:MapAt kStr PR h r B)(n:c6)(id:Int)(no:Bool){K:Int->dO}
  (o:∀h',Upd (· =r) h h'->MapAt kStr PR h' r (if mF B s.L n id no=0 then lU B n id else B)->K (mF B s.L n id no) h'):fK 61 [.map (some r),pV g,.string n,.int .u32 id,.bool no] K h:=by
 refine dg (vO (some r) (some ⟨g,0,none⟩) n id no) Ei Tryz.func61 Tryz.call61 ?_;dsimp only[vO,iC,Qm];refine⟨_,_,m.get n 0,U9 λk k1=>?_⟩
 have a:∀e h',mF B s.L n id no=e->e≠0->Upd No h h'->K e h':=λe h' w x j=>by
  have:=o h' j.wide;rw[w,if_neg x]at this;exact this (m.upd j λh=>h)
 refine eh (λe=>a 1 k ?_ a8 k1) λe=>eh (λc=>a 7 k ?_ a8 k1) λc=>?_
 .unfold mF;rw[if_pos (by simpa using e)]
 .unfold mF;rw[if_neg (by simpa using e),if_pos c]
 .have e:¬qb n=false:=by simpa using e
  have c:¬(bK B n).isSome=true:=by simp[c]
  refine eF (λt h'=>t=(no|| !decide (id=0\/id∈eR s.L))/\Upd No h h') (λR i=>?_) ?_
  .refine eh (λb=>i _ _ ⟨by rw[b];rfl,k1⟩) λb=>Hc (v.upd0 k1) id (i _ _ ⟨by rw[b];rfl,k1⟩)
  .rintro t f ⟨rfl,d⟩
   refine eh (λb=>a 4 f ?_ a8 d) λb=>⟨_,(m.upd d λh=>h).len,ar (λq=>a 6 f ?_ a8 d) λq=>?_⟩
   .unfold mF;rw[if_neg e,if_neg c,if_pos b]
   .unfold mF;rw[if_neg e,if_neg c,if_neg (by rw[b];decide),if_pos a4]
   .have p:=m.upd d λh=>h
    have u:mF B s.L n id no=0:=by unfold mF;rw[if_neg e,if_neg c,if_neg (by rw[b];decide),if_neg a4]
    refine⟨r,rfl,p.isMap,?_⟩;have:=o _ ((d.wide).tr (oF (M:=(· =r)) f (.string n) (.int .u32 id) rfl))
    rw[u,if_pos rfl]at this;exact this (p.put n id)
theorem VS.neB{s:VS}(h: [s.gp,s.gm,s.tm,s.bm,s.nm].Nodup):s.gp≠s.gm/\s.gp≠s.tm/\s.gp≠s.bm/\s.gp≠s.nm/\s.gm≠s.tm/\s.gm≠s.bm/\s.gm≠s.nm/\s.tm≠s.bm/\s.tm≠s.nm/\s.bm≠s.nm:=by
 simp only[List.nodup_cons,aw,List.not_mem_nil,or_false,not_or]at h;exact⟨h.1.1,h.1.2.1,h.1.2.2.1,h.1.2.2.2,h.2.1.1,h.2.1.2.1,h.2.1.2.2,h.2.2.1.1,h.2.2.1.2,h.2.2.2.1⟩
theorem VaultAt.setB{h h':ad}{s:VS}(v:VaultAt W h g s)(k:Upd (· =s.bm) h h')(b:MapAt kStr PR h' s.bm B):VaultAt W h' g {s with B:=B}:=by
 obtain⟨q,u,m,n,o,j,t,i,p,c⟩:=VS.neB v.ne;have f:∀b,b=s.bm->W b:=λb e=>v.w b (.inr (.inr (.inr (.inl e))))
 exact v.turn k (λb e=>.inl (f b e)) (v.g.upd k λb e=>.inl ⟨f b e,λa=>m (a.symm.trans e),λa=>j (a.symm.trans e)⟩) (v.t.upd k i) b (v.n.upd k λe=>c e.symm) (λd hd=>.inl hd) v.sub v.inv
theorem BH{h:ad}{a:Nat}{s:VS}(v:VaultAt W h a s)(n:c6)(id:Int){K:Int->dO}
  (c:∀h',Upd (· =s.bm) h h'->VaultAt W h' a {s with B:=if mF s.B s.L n id false=0 then lU s.B n id else s.B}->K (mF s.B s.L n id false) h'):fK 20 [pV a,.string n,.int .u32 id] K h:=by
 refine dg (sf (some ⟨a,0,none⟩) n id) .nil Tryz.func20 Tryz.call20 ?_;dsimp only[sf,cz,cJ];exact eh (λe=>by cases e) λ_=>⟨_,rfl,_,vc v.blk 8,UT v v.b n id false λh' b m=>c h' b (v.setB b m)⟩
section
variable {M:dx} {h:ad} {s:fD} {xs ys:List Int}
theorem M1(l:List Int):l.flatMap u32=l.map λx=>Value.int .u32 x:=by
 induction l with
 |nil=>rfl
 |cons x l ih=>rw[aL,ih];rfl
theorem OwnS.put1(g:OwnS u32 1 31 M h s ys)(hi:i<ys.length)(x:Int)(p:∀h',OwnS u32 1 31 M h' s (ys.set i x)->Upd M h h'->k h'):∃a,s.a=some a/\Wr h (adr a (i*1))/\At (hset h (adr a (i*1)) (.int .u32 x)) k:=by
 have c:=g.len;have d:=g.cap;rcases g.blk with q|⟨b,f,j,hb,hc,n⟩
 .omega
 refine⟨_,j,?_⟩;rw[Nat.mul_one];refine oD hc (by rw[List.size_toArray,ae,M1,bP];omega) (List.setIfInBounds_toArray ..) λo b2 m=>p o ⟨by rw[iT];exact c,kz,d,.inr ⟨b,f,j,hb,?_,n⟩⟩ (m.mono λ_ e=>.inl (e▸hb))
 rw[b2,M1,List.set_append_left _ _ (by rw[bP];exact hi),M1,List.map_set]
theorem OwnS.cutZ(c:OwnS u32 1 31 M h s ys)(hi:i<ys.length)(u:∀h',OwnS u32 1 31 M h' ⟨bj s.a 0 s.cap 1,i-0,s.cap-0⟩ (ys.take i)->Upd M h h'->k h'):
  qV h (bj s.a i s.cap 1) 0 (dG (s.len-i) [.int .u32 0])/\At (fR h (bj s.a i s.cap 1) 0 (dG (s.len-i) [.int .u32 0])) k:=by
 have m:=c.len;have o:=c.cap;rcases c.blk with v|⟨b,a,j,hb,hc,q⟩
 .omega
 have d:((ys.take i).flatMap u32).length=i*1:=by rw[kg kz,aV,Nat.min_eq_left a4]
 have n:((ys.drop i).flatMap u32).length=(ys.length-i)*1:=by rw[kg kz,List.length_drop]
 rw[zR (f:=u32) ys i]at hc;rw[j,jW a4];have g:(dG (s.len-i) [Value.int .u32 0]).length=(s.len-i)*1:=lO _ _;refine Hi hc (by rw[g,ae,ae,d,n];omega) λt b2 p=>u t ⟨by rw[aV];simp only;omega,kz,cd,
  .inr ⟨b,dG (s.len-i) [Value.int .u32 0]++a,by rw[j,sub_zero],hb,?_,?_⟩⟩ (p.mono λ_ e=>.inl (e▸hb))
 .rw[b2]
  congr 2
  rw[au,au,List.take_left' (by rw[d];omega)];congr 2
  rw[<-cV,cK (by rw[d];omega),cK (by rw[n,g];omega)]
 .rw[ae,g,q];simp only;omega
def nz(xs:List Int):List Int:=xs.filter λx=> !(x==0)
theorem W9{x:Int}(a:K (x==0) h):HV PG (.func (.func 181) #[] #[]) [.int .u32 x] [.c .bool] K h:=by
 refine HV.mk' (dg (Ac x) .nil Tryz.func181 Tryz.call181 ?_);unfold Ac;exact a
theorem WV(k:OwnS u32 1 31 M h s xs)(R:xs.length<=1000000){K:fD->dO}(C:∀s' h',OwnS u32 1 31 M h' s' (nz xs)->Upd M h h'->K s' h'):ce 117 [.slice s.a s.len s.cap] K h:=by
 have u:=k.len;have D:=k.cap;refine dg (DY s) .nil Tryz.func117 Tryz.call117 ?_;unfold DY;refine r8 s _ ?_;dsimp only[lq,dd,vK,cz,fj,jX,nW,nV];refine lV s _ ?_;dsimp only[iS,vK,cz,fj];have N:Sl u32 1 No h s xs:=k.sl λ_ _ _ h=>h
 refine ez (λ(i:Nat) (t:Int) h'=>t=(i:Int)/\h'=h/\i<=xs.length/\nz (xs.take i)=xs.take i) (λi=>xs.length-i) 0 ⟨rfl,rfl,aJ _,by simp[nz]⟩ ?_
 rintro I i t h' ⟨rfl,rfl,hi,m⟩ O;refine ar (λc=>?_) λJ=>?_
 .have c:i<xs.length:=by omega
  obtain⟨a,A,_,hx⟩:=Nums.at N c;refine⟨a4,a,A,_,hx,W9 (eh (λe=>?_) λe=>?_)⟩
  .
   have L:nz (xs.take (i+1))=xs.take i:=by
    rw[ax c];unfold nz at m⊢;rw[cy,m];simp[e]
   refine eh (λH=>?_) λ_=>?_
   .simp at H
   rw[bN c a4];refine ez (λ(g:Nat×Nat×List Int) (t:Int×Int) w=>t=((g.1:Int),(g.2.1:Int))/\g.1<g.2.1/\g.2.1<=xs.length/\OwnS u32 1 31 M w s g.2.2/\g.2.2.take g.1=nz (xs.take g.2.1)/\g.2.2.drop g.2.1=xs.drop g.2.1/\Upd M h' w) (λg=>xs.length-g.2.1) (i,i+1,xs) ⟨rfl,by(try simp only);omega,by(try simp only);omega,k,L.symm,rfl,eM _ _⟩ ?_
   rintro Q ⟨p,j,ys⟩ t w ⟨rfl,B,G,f,ht,hd,x⟩ q;have f:OwnS u32 1 31 M w s ys:=f;have P:ys.length=xs.length:=f.len.symm.trans u;(try simp only at B G ht hd⊢)
   refine ar (λb=>?_) λE=>?_
   .have b:j<xs.length:=by omega
    have z:ys[j]' a4=xs[j]:=by
     have:=congrArg List.head? hd;simpa[List.head?_drop,af b,af (show j<ys.length by omega)]using this
    obtain⟨a,A,_,hx⟩:=Nums.at (f.sl (W:=No) λ_ _ _ h=>h) (show j<ys.length by omega)
    rw[z]at hx;have o:ys.drop (j+1)=xs.drop (j+1):=by rw[<-cV,hd,cV]
    refine eQ ⟨a4,a,A,_,hx,W9 (eh (λe=>?_) λe=>?_)⟩
    .have d:(!(xs[j]==0))=true:=e
     refine⟨a4,?_⟩;rw[aY];refine OwnS.put1 f (i:=p) a4 xs[j] λF v y=>?_
     rw[bN (i:=p) (n:=xs.length) a4 a4,bN b a4];refine q (p+1,j+1,ys.set p xs[j]) _ _ ⟨rfl,by(try simp only);omega,by(try simp only);omega,v,?_,?_,x.tr y⟩ (by(try simp only);omega)
     ·(try simp only)
      rw[ax (by rw[iT];omega),List.getElem_set_self,List.take_set_of_le (aj _),ht,ax b];unfold nz;rw[cy];simp[d]
     ·(try simp only)
      rw[List.drop_set_of_lt a4,o]
    .have d:(!(xs[j]==0))=false:=e
     rw[bN b a4];refine q (p,j+1,ys) _ _ ⟨rfl,by(try simp only);omega,by(try simp only);omega,f,?_,o,x⟩ (by(try simp only);omega)
     (try simp only)
     rw[ht,ax b];unfold nz;rw[cy];simp[d]
   .have:j=xs.length:=by omega
    subst this;rw[bG]at ht;refine⟨a4,?_⟩;rw[aY];refine OwnS.cutZ (ys:=ys) f a4 λF v y=>⟨a4,?_⟩
    rw[ht]at v;exact C _ _ v (x.tr y)
  .rw[bN c a4]
   refine O (i+1) _ _ ⟨rfl,rfl,a4,?_⟩ a4
   rw[ax c];unfold nz at m⊢;rw[cy,m];simp[e]
 .have:i=xs.length:=by omega
  subst this;rw[bG]at m;rw[<-m]at k;exact ay.2 (C s _ k (eM _ _))
end
end
section
open Go.Lift
variable {L:dA}{nx:Int}{ps:List Int}{y:Nat}
def y8(s:VS)(n:c6)(d:TD)(ps:List Int):(Int×Int)×VS:=
 if(gu s.L s.nx ps).1.2≠0 then((0,(gu s.L s.nx ps).1.2),s)
 else(((gu s.L s.nx ps).1.1,0),{s with L:=(gu s.L s.nx ps).2.1,nx:=(gu s.L s.nx ps).2.2,D:=lU s.D (gu s.L s.nx ps).1.1 d,B:=lU s.B n (gu s.L s.nx ps).1.1})
theorem Qk(h:(gu L nx ps).1.2≠0):(gu L nx ps).2=(L,nx):=by
 unfold gu at h⊢;split
 .rfl
 .split
  .rfl
  .split
   .rfl
   .rename_i h1 h2 h3
    rw[if_neg h1,if_neg h2,if_neg h3]at h;exact absurd rfl h
theorem E9(h:(gu L nx ps).1.2=0):gu L nx ps=((nx,0),wN L nx ps,nx+1):=by
 unfold gu at h⊢;split at h
 .rename_i h1;exact absurd h h1
 .split at h
  .rename_i h1;exact absurd h h1
  .split at h
   .have h:(6:Int)=0:=h
    omega
   .rename_i h1 h2 h3;rw[if_neg h1,if_neg h2,if_neg h3]
theorem Jq{h:ad}{k:dO}(a:∀h',h'=h->k h'):At h k:=bL (a h rfl)
theorem Jr{κ β:Type}[DecidableEq κ]{k:κ}{v:β}:∀{l:List (κ×β)} {p:κ×β},p∈lU l k v->p=(k,v)\/p∈l
 | [],p,h=>.inl (by simpa[lU]using h)
 |(k',u)::l,p,h=>by
  unfold lU at h;split at h
  .exact(aw.1 h).imp id (aA _)
  .rcases aw.1 h with h|h
   .exact .inr (h▸aq)
   .exact(Jr h).imp id (aA _)
theorem kV{β:Type}{k:Int}{v:β}:∀{l:List (Int×β)},bK l k=some v->(k,v)∈l
 |(k',u)::l,h=>by
  unfold bK at h;split at h
  .rename_i e;cases h;rw[e];exact aq
  .exact aA _ (kV h)
section
variable {W:dx} {h0 h:ad} {vp:Nat} {s:VS}
theorem VaultAt.size(v:VaultAt W h vp s)(a:s.M y):y<h.size:=v.g.lt y (v.w y a)
theorem VS.mG{s:VS}(h:Cl s.gp s.gm y):s.M y:=h.imp id .inl
theorem FC(v:VaultAt W h0 vp s)(k0:Upd No h0 h)(n:c6){d:TD}(i:TreeIs W h0 s.kind s.x d.1 d.2)(hr:bS d.2)(hf:Fit d.2){pb:Nat}(O:h0.size<=pb)(hpb2:pb<h.size){sl:fD}(ho:OwnS u32 1 31 (· =pb) h sl ps)(hn:ps.length<=1000000)
  {K:Int×Int->dO}(z:∀h',Upd s.M h0 h'->VaultAt W h' vp (y8 s n d (nz ps)).2->K (y8 s n d (nz ps)).1 h'):
  Hv 66 [pV vp,.string n,Ap d.1,.slice sl.a sl.len sl.cap] K h:=by
 refine dg (qG (some ⟨vp,0,none⟩) n d.1 sl) .nil Tryz.func66 Tryz.call66 ?_;dsimp only[qG,cz,rx,cO,y7,my,bh,ao,aE,cJ,kH,rC,GX];refine aQ λh1 b1 k1=>⟨_,rfl,_,vc (v.upd0 (k0.tr k1)).blk 6,?_⟩
 have s0:=k0.size;refine WV (ho.upd k1 λ_ _ h=>h) hn λs5 P o5 u5=>?_
 have G:Upd No h0 P:=(k0.tr k1).own u5 O;have t:=v.upd0 G;have b5:=u5.oth b1 (show h.size≠pb by omega)
 have hl5:(nz ps).length<=ps.length:=List.length_filter_le ..;have U:∀y,W y->y<h0.size:=v.g.lt;refine⟨vc t.blk 6,aav t.g (by have:=v.inv.nx1;omega) (λhm=>by have:=(v.inv.pos _ hm).2;omega) (o5.sl (W:=W) λb hb _ hw=>by have:=U b hw;omega) a4 λI q H=>?_⟩
 have J:∀y,Cl s.gp s.gm y->W y\/P.size<=y:=λy a=>.inl (v.w y (VS.mG a))
 obtain⟨n1,n2,n3,n4,n5,n6,n7,n8,n9,S⟩:=VS.neB v.ne;have u:∀y,y≠s.gp->y≠s.gm->¬Cl s.gp s.gm y:=λy h1 h2 h=>h.elim h1 h2
 have V:=t.t.upd q (u _ n2.symm n5.symm);have m7:=t.b.upd q (u _ n3.symm n6.symm);have C:=t.n.upd q (u _ n4.symm n7.symm);refine eh (λe=>?_) λe=>?_
 .have e:(gu s.L s.nx (nz ps)).1.2≠0:=by simpa using e
  have X:=Qk e;have hv:y8 s n d (nz ps)=((0,(gu s.L s.nx (nz ps)).1.2),s):=by unfold y8;rw[if_pos e]
  rw[hv]at z;rw[X]at H;exact z I (G.wide.tr (q.mono λy a=>.inl (VS.mG a))) (t.turn q J H V m7 C (λd hd=>.inl hd) v.sub v.inv)
 .have e:(gu s.L s.nx (nz ps)).1.2=0:=by simpa using e
  have X:=E9 e;have o:=v.inv.add (nz ps);have hv:y8 s n d (nz ps)=(((gu s.L s.nx (nz ps)).1.1,0),{s with L:=(gu s.L s.nx (nz ps)).2.1,nx:=(gu s.L s.nx (nz ps)).2.2,D:=lU s.D (gu s.L s.nx (nz ps)).1.1 d,B:=lU s.B n (gu s.L s.nx (nz ps)).1.1}):=by unfold y8;rw[if_neg (by rw[e];simp)]
  rw[hv]at z;rw[X]at H z o⊢;have A:∀y,s.M y->vp≠y:=λy a e=>v.wv (e▸v.w y a)
  have c7:=q.get t.blk λhm=>A _ (VS.mG hm) rfl
  have w:=q.get b5 λhm=>by have:=v.size (VS.mG hm);omega
  refine⟨_,rfl,_,vc c7 7,_,vc w 0,_,vc w 1,_,vc w 2,_,vc w 3,_,vc w 4,_,vc w 5,_,rfl,V.isMap,Jq λf m=>?_⟩
  have m:f=nM I s.tm (KE.enc s.nx) (acF d):=m;have g:Upd (· =s.tm) I f:=by rw[m];exact oF I _ _ rfl
  have Q:MapAt KE acF f s.tm (lU s.D s.nx d):=by rw[m];exact V.put s.nx d
  have F:=m7.upd g (λe=>n8 e.symm)
  have E:=C.upd g (λe=>n9 e.symm)
  have Z:=H.upd g λb hb=>.inl ⟨v.w b (.inr (.inr (.inl hb))),λe=>n2 (e.symm.trans hb),λe=>n5 (e.symm.trans hb)⟩
  have N:=g.get c7 λe=>A _ (.inr (.inr (.inl rfl))) e
  refine⟨_,rfl,_,vc N 8,_,rfl,F.isMap,Jq λc j=>?_⟩
  have j:c=nM f s.bm (kStr.enc n) (PR s.nx):=j;have k:Upd (· =s.bm) f c:=by rw[j];exact oF f _ _ rfl
  have T:MapAt kStr PR c s.bm (lU s.B n s.nx):=by rw[j];exact F.put n s.nx
  have t21:=Q.upd k n8;have x:=E.upd k (λe=>S e.symm)
  have Y:=Z.upd k λb hb=>.inl ⟨v.w b (.inr (.inr (.inr (.inl hb)))),λe=>n3 (e.symm.trans hb),λe=>n6 (e.symm.trans hb)⟩
  have R:Upd s.M P c:=((q.mono λy a=>.inl (VS.mG a)).tr (g.mono λy a=>.inl (.inr (.inr (.inl a))))).tr (k.mono λy a=>.inl (.inr (.inr (.inr (.inl a)))))
  refine z c (G.wide.tr R) (t.turn R (λy a=>.inl (v.w y a)) Y t21 T x (λp hp=>(Jr hp).elim (λe=>.inr ?_) .inl) (λid=>?_) o)
  .subst e
   have ku:Upd s.M h0 c:=G.wide.tr R;exact⟨i.updM ku λy a=>.inl (v.w y a),hr,hf⟩
  .rw[xD,insV_ids.mem_iff,aw,<-v.sub id]
   split
   .rename_i hm
    exact⟨.inr,λh=>h.elim (λe=>e▸hm) λh=>h⟩
   .rw[aN,az,Or.comm]
end
end
section
open Go.Lift
abbrev Bi:=List (c6×Int)
abbrev NUp(l:Bi):Prop:=(l.map (·.1)).Pairwise kl
structure NmR(B l:Bi):Prop where
 up:NUp l
 ndB:(B.map (·.1)).Nodup
 iff:∀k v,bK B k=some v↔(k,v)∈l
def Di(l:Bi)(n:c6)(id:Int):Bi:=l.takeWhile (λp=>bF p.1.toList n.toList)++(n,id)::l.dropWhile (λp=>bF p.1.toList n.toList)
section
variable {B l:Bi} {n:c6} {id:Int} {i:Nat}
theorem NUp.nd(u:NUp l):(l.map (·.1)).Nodup:=List.Pairwise.imp (λ{a b} (h:kl a b) (e:a=b)=>bX a (by rw[<-e]at h;exact h)) u
theorem NmR.nil:NmR [] []:=⟨cj,cj,λk v=>⟨λh=>(by cases h),λh=>(by cases h)⟩⟩
theorem abg{l:Bi}(h:(l.map (·.1)).Nodup):l.Nodup:=(fH.1 h).imp λh e=>h (by rw[e])
theorem NmR.pm(r:NmR B l):B.Perm l:=(List.perm_ext_iff_of_nodup (abg r.ndB) (abg r.up.nd)).2 λp=>(eS (v:=p.2) r.ndB).symm.trans (r.iff p.1 p.2)
theorem NmR.at(r:NmR B l)(hi:i<l.length):bK B l[i].1=some l[i].2:=(r.iff _ _).2 (aF hi)
theorem NmR.no(r:NmR B l)(h:∀p∈l,p.1≠n):bK B n=none:=by
 cases e:bK B n with
 |none=>rfl
 |some v=>exact absurd rfl (h _ ((r.iff _ _).1 e))
theorem Dc{p:c6×Int}:p∈Di l n id↔p=(n,id)\/p∈l:=by
 conv=>rhs;rw[<-List.takeWhile_append_dropWhile (p:=λp:c6×Int=>bF p.1.toList n.toList) (l:=l)]
 unfold Di;simp only[aN,aw];exact⟨λh=>h.elim (λh=>.inr (.inl h)) λh=>h.elim .inl λh=>.inr (.inr h),λh=>h.elim (λh=>.inr (.inl h)) λh=>h.elim .inl λh=>.inr (.inr h)⟩
theorem aan(u:NUp l)(h:∀p∈l,p.1≠n):NUp (Di l n id):=by
 induction l with
 |nil=>exact List.pairwise_singleton ..
 |cons a l f=>
  have i:=aC.1 u;have f:=f i.2 λp c=>h p (aA _ c)
  unfold Di at f⊢;rw[List.takeWhile_cons,List.dropWhile_cons];by_cases d:kl a.1 n
  .have b:bF a.1.toList n.toList=true:=d
   rw[if_pos b,if_pos b];refine aC.2 ⟨λk c=>?_,f⟩
   have o:k∈(Di l n id).map (·.1):=c
   obtain⟨p,g,e⟩:=be.1 o;rcases Dc.1 g with m|g
   .rw[<-e,m];exact d
   .exact i.1 _ (be.2 ⟨p,g,e⟩)
  .have b:¬bF a.1.toList n.toList=true:=d
   rw[if_neg b,if_neg b];have j:kl n a.1:=mf d (h a aq);refine aC.2 ⟨λk c=>?_,u⟩
   rcases aw.1 c with rfl|c
   .exact j
   .exact dX j (i.1 k c)
theorem NmR.add(r:NmR B l)(h:∀p∈l,p.1≠n):NmR (lU B n id) (Di l n id):=by
 refine⟨aan r.up h,Ck r.ndB,λk v=>?_⟩
 rw[xF,Dc,<-r.iff];split
 .rename_i e
  subst e;exact⟨λe=>.inl (by cases e;rfl),λe=>e.elim (λe=>by cases e;rfl) λe=>by rw[r.no h]at e;cases e⟩
 .rename_i e
  exact⟨.inr,λh=>h.resolve_left λa=>e (by cases a;rfl)⟩
theorem NUp.uniq(u:NUp l){k:c6}{v w:Int}(h:(k,v)∈l)(h':(k,w)∈l):v=w:=bO.inj (((eS u.nd).2 h).symm.trans ((eS u.nd).2 h'))
theorem NmR.set(r:NmR B l)(hi:i<l.length):NmR (lU B l[i].1 id) (l.set i (l[i].1,id)):=by
 have em:(l.set i (l[i].1,id)).map (·.1)=l.map (·.1):=by
  apply List.ext_getElem a6;intro j f d;simp only[List.getElem_map,List.getElem_set];split
  .rename_i e;subst e;rfl
  .rfl
 refine⟨by unfold NUp;rw[em];exact r.up,Ck r.ndB,λk v=>?_⟩
 rw[xF,qI];simp only[List.getElem?_set];split
 .rename_i e
  subst e;refine⟨λe=>⟨i,by simp only[if_true];cases e;rfl⟩,λ⟨j,a⟩=>?_⟩
  split at a
  .cases a;rfl
  .rename_i hne
   obtain⟨b,e⟩:=bM.1 a;refine absurd ?_ hne;have:=oh r.up.nd (i:=i) (j:=j) (h₀:=by simpa using hi) (h₁:=by simpa using b)
   exact this.1 (by simp[e])
 .rename_i e
  rw[r.iff,qI];refine⟨λ⟨j,a⟩=>⟨j,?_⟩,λ⟨j,a⟩=>?_⟩
  .rw[if_neg]
   .exact a
   .intro c;subst c;rw[af hi]at a;exact e (congrArg (·.1) (bO.inj a)).symm
  .split at a
   .cases a;exact absurd rfl e
   .exact⟨j,a⟩
theorem NmR.del(r:NmR B l)(hi:i<l.length):NmR (lA B l[i].1) (l.take i++l.drop (i+1)):=by
 rw[<-List.eraseIdx_eq_take_drop_succ];refine⟨r.up.sublist ((List.eraseIdx_sublist ..).map _),Tf r.ndB,λk v=>?_⟩
 rw[pK,List.mem_eraseIdx_iff_getElem?];split
 .rename_i e
  subst e;refine⟨λh=>(by cases h),λ⟨j,c,a⟩=>?_⟩
  obtain⟨d,e⟩:=bM.1 a;have:=oh r.up.nd (i:=i) (j:=j) (h₀:=by simpa using hi) (h₁:=by simpa using d)
  exact absurd (this.1 (by simp[e])).symm c
 .rename_i e
  rw[r.iff,qI];refine⟨λ⟨j,a⟩=>⟨j,λb=>?_,a⟩,λ⟨j,_,a⟩=>⟨j,a⟩⟩
  subst b;rw[af hi]at a;exact e (congrArg (·.1) (bO.inj a)).symm
theorem NmR.list(r:NmR B l){ys:Bi}(d:ys.Perm B)(i:ys.Pairwise λa b=>¬kl b.1 a.1):ys=l:=by
 have up:l.Pairwise λa b=>kl a.1 b.1:=fH.1 r.up
 refine List.Perm.eq_of_pairwise (le:=λa b:c6×Int=>¬kl b.1 a.1) (λa b j hb g f=>?_) i (up.imp λh h'=>bX _ (dX h h')) (d.trans r.pm)
 have e:a.1=b.1:=om λne=>g (mf f ne)
 have c:=(d.trans r.pm).mem_iff.1 j;exact Prod.ext e (r.up.uniq (k:=a.1) c (by rw[e];exact hb))
end
end
section
open Go.Lift
variable {t:TypeId}{p:Pr}{hd:Int}
abbrev zPrL:c4:= [.string (⟨#[]⟩:c6),.string (⟨#[]⟩:c6)]
theorem ux{h:ad}{k:dO}(e:∀h',h'[h.size]? =some (.cells #[.string p.1,.string p.2] t (0,0))->Upd No h h'->k h'):
  At (hnew h [.string (⟨#[]⟩:c6),.string (⟨#[]⟩:c6)] t) λb=>qV b (some (aR h)) 0 [.string p.1,.string p.2]/\At (fS b (aR h) 0 [.string p.1,.string p.2]) k:=by
 refine aQ λf b1 k1=>?_
 exact co (c:=zPrL) (vs:= [.string p.1,.string p.2]) b1 rfl λd b2 a=>e d b2 (k1.own a (aj _))
theorem uI{M:dx}{h:ad}{so:fD}{out:bY}{K:fD->dO}(c:OwnS dT 2 t M h so out)(hM:∀b,h.size<=b->M b)(g:out.length+1<=1000000000)
  (f:∀s' h',OwnS dT 2 t M h' s' (out++ [p])->Upd M h h'->K s' h'):
  ∃xs,SRow (hnew h [.string p.1,.string p.2] t) (some (aR h)) (1*2) xs/\AppP (some [.string (⟨#[]⟩:c6),.string (⟨#[]⟩:c6)]) 2 32 t so.a so.len so.cap 1 xs (hnew h [.string p.1,.string p.2] t) K:=by
 have k:=e9 No h [.string p.1,.string p.2] t;have e:OwnS dT 2 t (λ_=>True) (hnew h [.string p.1,.string p.2] t) ⟨some (aR h),1,1⟩ [p]:=⟨rfl,fP,aj _,.inr ⟨h.size,[],rfl,trivial,cf ..,rfl⟩⟩
 refine⟨_,(e.sl (W:=No) λ_ _ _ h=>h).srow,?_⟩
 refine AppP.own (ys:= [p]) (c.upd k λ_ _ h=>h) rfl rfl rfl rfl a4 (by simp only[aG];omega) (hM _ (by rw[dS];omega)) λs' h' a d=>?_
 exact f s' h' a ((e9 M h _ _).tr d)
theorem IL{p:Pr}:∀{A B:bY},(∀r∈A,kl r.1 p.1)->gQ p (A++B)=A++gQ p B
 | [],_,_=>rfl
 |r::A,B,h=>by
  rw[cN,gH,if_pos (h r (aq ..)),IL λq a=>h q (aA _ a)];rfl
theorem PP{p q:Pr}:∀{A:bY},(∃r∈A,kl p.1 r.1)->gQ p (A++ [q])=gQ p A++ [q]
 | [],h=>by obtain⟨r,e,_⟩:=h;simp at e
 |r::A,h=>by
  rw[cN,gH,gH];by_cases b:kl r.1 p.1
  .rw[if_pos b,if_pos b,PP]
   .rfl
   .obtain⟨f,a,d⟩:=h
    rcases aw.1 a with rfl|a
    .exact absurd (dX b d) (bX _)
    .exact⟨f,a,d⟩
  .rw[if_neg b,if_neg b]
   by_cases c:r.1=p.1
   .rw[if_pos c,if_pos c];rfl
   .rw[if_neg c,if_neg c];rfl
theorem PN:∀{l:bY},(∀q∈l,kl p.1 q.1)->gQ p l=p::l
 | [],_=>rfl
 |q::l,h=>by
  have a:=h q (aq ..);rw[gH,if_neg λb=>bX _ (dX a b),if_neg λe=>by rw[e]at a;exact bX _ a]
theorem LW{p:Pr}:∀{l:bY},bS l->gQ p (l.filter λq=>decide (q.1≠p.1))=gQ p l
 | [],_=>rfl
 |r::l,a=>by
  have a:=aC.1 a;have keep:∀{l:bY},(∀q∈l,kl p.1 q.1)->(l.filter λq=>decide (q.1≠p.1))=l:=λ{l} h=>List.filter_eq_self.2 λq c=>decide_eq_true λe=>by have:=h q c;rw[e]at this;exact bX _ this
  rw[List.filter_cons,gH];by_cases e:r.1=p.1
  .have d:∀q∈l,kl p.1 q.1:=λq c=>by rw[<-e];exact a.1 q c
   rw[if_neg (by simp[e]),if_neg (by rw[e];exact bX _),if_pos e,keep d,PN d]
  .rw[if_pos (by simpa using e),gH]
   by_cases b:kl r.1 p.1
   .rw[if_pos b,if_pos b,LW a.2]
   .rw[if_neg b,if_neg b,if_neg e,if_neg e]
    have f:=mf b e;rw[keep λq c=>dX f (a.1 q c)]
theorem mK{i n:Nat}(h:i<n)(a:n<=9223372036854775807):IntKind.wrap .i64 ((i:Int)+1)=((i+1:Nat):Int):=by rw[Go.IntWalk.i64_in _ a4];omega
theorem EW(p:Pr):∀{l:bY},(gQ p l).length<=l.length+1
 | []=>aj _
 |q::l=>by
  rw[gH];split
  .have:=EW p (l:=l);simp only[List.length_cons];omega
  .split<;>simp
theorem AB{W W':dx}{h h':ad}{kind:Int}{x:Hs}{t u:Tr}{l l':bY}(i:TreeIs W h kind x t l)(a:TreeIs W' h' kind x u l'):kS t u=true:=by
 rcases i with⟨rfl,b,rfl,_⟩|⟨rfl,b,rfl,_⟩<;>rcases a with⟨e,b',rfl,_⟩|⟨e,b',rfl,_⟩
 .simp[kS]
 .cases e
 .cases e
 .simp[kS]
theorem Si(t:Tr):kS t t=true:=by simp[kS]
abbrev hsL(x:Hs):c4:= [.int .u64 x.k0,.int .u64 x.k1,.int .u64 x.mask]
section
variable {W:dx} {h:ad} {vp:Nat} {s:VS}
theorem BI(v:VaultAt W h vp s)(n:c6)(hb:bK s.B n=some hd){d:TD}(i:TreeIs W h s.kind s.x d.1 d.2)(f:bS d.2)(g:Fit d.2)
  {K:Int×Int->dO}(m:∀h',Upd s.M h h'->VaultAt W h' vp (y8 s n d (nz [hd])).2->K (y8 s n d (nz [hd])).1 h'):
  Hv 23 [pV vp,.string n,Ap d.1] K h:=by
 refine ni (some ⟨vp,0,none⟩) n d.1 ?_;dsimp only[ki,rx,cO,pW,my,bh,ao,aE,cJ,yz,tx,ge,kH,rC,sL];refine aQ λq b1 k1=>ir (v.upd0 k1) n ?_
 rw[hb];refine ag.2 ⟨_,vc b1 0,_,vc b1 1,_,vc b1 2,_,vc b1 3,_,vc b1 4,_,vc b1 5,_,rfl,?_⟩;have c1:=k1.get0 v.blk;refine⟨_,iq c1 0 0,_,iq c1 0 1,_,iq c1 0 2,_,iq c1 0 3,_,iq c1 0 4,_,iq c1 0 5,?_⟩;refine xk (t:=d.1) (u:=s.e) λb c=>?_
 rw[AB i v.em];have b2:=c.get0 b1;refine ag.2 ⟨_,vc b2 0,_,vc b2 1,_,vc b2 2,_,vc b2 3,_,vc b2 4,_,vc b2 5,aQ λp b3 o=>?_⟩
 have a:=k1.tr c;have k:=a.size;refine FC v (a.tr o) n i f g (pb:=b.size) k (bB b3) (sl:=⟨some (aR b),1,1⟩) (ps:= [hd]) ⟨rfl,kz,aj _,.inr ⟨b.size,[],rfl,rfl,b3,rfl⟩⟩ a6 λh' e j=>m h' e j
theorem MW(v:VaultAt W h vp s)(n:c6)(hb:bK s.B n=some hd){id:Int}(hi:id=0\/id∈eR s.L)(e:id=0\/UpG s.L hd id)
  {K:Int->dO}(k:∀h',Upd s.M h h'->VaultAt W h' vp {s with B:=lU s.B n id}->K 0 h'):fK 33 [pV vp,.string n,.int .u32 id] K h:=by
 refine i5 (some ⟨vp,0,none⟩) n id ?_;dsimp only[gw,pW,vt,iC,GX,cz,cJ];refine ir v n ?_;rw[hb];refine eQ (ag.2 (Hc v id ?_));rw[decide_eq_true hi];refine ag.2 (uh v id hd λb g d k1=>?_)
 rw[d.2 e];have c:=v.upd0 k1;refine ag.2 ⟨_,rfl,_,vc c.blk 8,_,rfl,c.b.isMap,Jq λf a=>?_⟩
 have a:f=nM g s.bm (kStr.enc n) (PR id):=a;have i:Upd (· =s.bm) g f:=by rw[a];exact oF g _ _ rfl
 exact k f (k1.wide.tr (i.mono λy j=>.inl (.inr (.inr (.inr (.inl j)))))) (c.setB i (by rw[a];exact c.b.put n id))
end
end
section
open Go.Lift
variable {M W Q:dx}{h:ad}{K:fD->dO}{N:Nat}{S:bY->Prop}
abbrev Wk:=aT×c6×Bool
theorem OwnS.pop{α:Type}{f:α->c4}{sz:Nat}{t:TypeId}{s:fD}{xs:List α}{x:α}(a:OwnS f sz t M h s (xs++ [x])):OwnS f sz t M h ⟨bj s.a 0 s.cap sz,xs.length,s.cap⟩ xs:=by
 have e:=a.len;have hc:=a.cap;rw[ae,aG]at e;refine⟨rfl,a.ne,cd,a.blk.imp id λ⟨b,c,g,hb,aZ,d⟩=>⟨b,f x++c,?_,hb,?_,?_⟩⟩
 .simp only;rw[g,sub_zero]
 .rw[aZ,List.flatMap_append,aL,List.flatMap_nil,List.append_nil,au]
 .rw[ae,(a.ne x).1,d]
  simp only;have:s.cap-xs.length=(s.cap-s.len)+1:=a4
  rw[this,Nat.add_mul];omega
structure It where
 b:Nat
 ah:c6
 own:Bool
 sl:c6
 w:Option c6
 F:Fo
def It.raw(i:It):Wk:=(some ⟨i.b,0,none⟩,i.ah,i.own)
def It.key(i:It):c5:=i.ah.data.toList++i.sl.data.toList
def It.cost(i:It):Nat:=if i.own then 1 else 2+2*NT i.F
theorem mO{b:Nat}{sl:c6}{w:Option c6}{F:Fo}(r:RxN W h b sl w F){K:c6->dO}(a:K sl h):Uy 253 [gZ b] K h:=by
 refine Cq _ ?_;dsimp only[uY,wR,cM,cJ];obtain⟨val,s,ow,ks,hb,_⟩:=r;exact ag.2 ⟨_,rfl,sl,eA (i:=0) hb,a⟩
theorem BT{b:Nat}{sl:c6}{w:Option c6}{F:Fo}(r:RxN W h b sl w F){K:c6×Bool->dO}(a:∀v,(∀u,w=some u->v=u)->K (v,w.isSome) h):sJ 154 [gZ b] K h:=by
 refine uL _ ?_;dsimp only[py,cM,ga,cJ];obtain⟨val,s,ow,ks,hb,hv,_⟩:=r;exact ag.2 ⟨_,rfl,val,eA (i:=2) hb,_,rfl,w.isSome,eA (i:=1) hb,a val (vw hv)⟩
theorem O5{b:Nat}{sl:c6}{w:Option c6}{F:Fo}(r:RxN W h b sl w F){K:c6×Bool->dO}(a:K (w.getD ⟨#[]⟩,w.isSome) h):sJ 154 [gZ b] K h:=by
 refine uL _ ?_;dsimp only[py,cM,ga,cJ];obtain⟨val,s,ow,ks,hb,rfl,_⟩:=r;exact ag.2 ⟨_,rfl,_,eA (i:=2) hb,_,rfl,w.isSome,eA (i:=1) hb,a⟩
theorem Au{b:Nat}{sl:c6}{w:Option c6}{F:Fo}(r:RxN W h b sl w F)(j:F.toL.length<=256)(g:∀s' h' ks,OwnS qA 1 51 (λy=>h.size<=y) h' s' ks->RxL W h' ks F.toL->Upd No h h'->K s' h'):ce 155 [gZ b] K h:=by
 refine DQ _ ?_;dsimp only[vY,nU,bR,cJ];obtain⟨val,s,ow,ks,hb,hv,e,_,f⟩:=r;have a:=lw.1 f;refine ag.2 ⟨_,rfl,s,eA (i:=3) hb,?_⟩;refine Mi e (by rw[a.1];omega) λs' h' d c=>g s' h' ks d (a.upd0 c) c
def It.Ok(W:dx)(h:ad)(i:It):Prop:=RxN W h i.b i.sl i.w i.F/\fq i.F/\i.key.length<=10000/\∀p∈mR i.w i.F,i.key.length+p.1.length<=10000
theorem It.Ok.updM{h':ad}(k:Upd M h h')(hm:∀b,M b->W b\/h.size<=b){i:It}(o:It.Ok W h i):It.Ok W h' i:=⟨o.1.updM k hm,o.2⟩
theorem Lx(lab:c5)(w:Option c6)(b a:Fo):zw (.cons lab w b a)=((w.map λv=>(([]:c5),v)).toList++zw b).map (λp=>(lab++p.1,p.2))++zw a:=rfl
abbrev ab0(x:Pr):c4:= [.agg #[.string x.1,.string x.2]]
theorem KO{Y:Value}(hg:Gives PG Y ab0 N S Q h)(hN:N<=100000000)
  (hk:∀s' h' xs,S xs->OwnS dT 2 33 (λb=>h.size<=b) h' s' xs->Upd No h h'->K s' h'):ce 322 [.slice none 0 0,Y] K h:=by
 refine mg ⟨none,0,0⟩ Y ?_;unfold gX bo nv AO kF mc XT;have k0:=e9 No h [.slice none 0 0] 256;have b0:=cf h [.slice none 0 0] 256;have Z:(hnew h [.slice none 0 0] 256).size=h.size+1:=dS ..;have G:=hg.upd k0 λ_ _=>id
 refine bL ?_;generalize hnew h [.slice none 0 0] 256=h1 at G k0 b0 Z;refine⟨λlo hlo i=>?_⟩
 obtain⟨f,first,cap,rfl,L⟩:=G.run
 refine⟨f,first,cap,rfl,?_⟩
 have k1:Upd No h1 ((h1.push (.deferred (some []))).push (lo .ready none)):=(Upd.push No _ _).tr (Upd.push No _ _);have l2:((h1.push (.deferred (some []))).push (lo .ready none))[h1.size+1]? =some (lo .ready none):=by
  have:=oJ (h1.push (.deferred (some []))) (lo .ready none);rwa [Array.size_push]at this
 have l1:((h1.push (.deferred (some []))).push (lo .ready none))[h1.size]? =some (.deferred (some [])):=(Upd.push No _ _).get0 (oJ h1 _);refine L (.func (.yield (h1.size+1)) #[] #[]) (λpre A h'=>(∀b,A b->b<h'.size/\h.size<=b)/\A h.size/\A h1.size/\A (h1.size+1)/\h'[h1.size]? =some (.deferred (some []))/\h'[h1.size+1]? =some (lo .ready none)/\
   ∃s:fD,h'[h.size]? =some (.cells #[sv s] 256 (0,0))/\OwnS dT 2 33 (λb=>A b/\h1.size+1<b) h' s pre/\pre.length<=N)
  (λb=>b=h.size\/b=h1.size\/b=h1.size+1) No _ _ ⟨λ_ _ _ E b hb=>(E.1 b hb).1,λpre A h' h'' B E u W=>?_,λpre A h' x K' E hlen hK=>?_⟩ ?_ k1 (λ_ _=>id) (λb hb hq=>?_) ?_
 .obtain⟨U,D,j,m,X,h6,s,h7,h8,h9⟩:=E
  exact⟨λb hb=>⟨aD (U b hb).1 u.size,(U b hb).2⟩,D,j,m,u.get X (W _ j),u.get h6 (W _ m),s,u.get h7 (W _ D),h8.upd u λb hb=>W b hb.1,h9⟩
 .obtain⟨k,g,e,c,hd,t,s,J,ho,hpl⟩:=E
  refine i x h' K' t ?_;refine ux (p:=x) λhp bp w=>?_
  have zp:=bB bp;have t:=w.get0 t;have J:=w.get0 J;have hd:=w.get0 hd;have hop:=ho.upd w λ_ _ h=>h
  have sp:=w.size;refine⟨t,?_⟩;have q:Upd (· =h1.size+1) hp (hp.setIfInBounds (h1.size+1) (lo .busy none)):=Upd.set _ _ rfl
  have lb:=eE (o:=lo .busy none) t;have sb:=q.size;refine bL ?_;generalize hp.setIfInBounds (h1.size+1) (lo .busy none)=D at q lb sb;have V:=(k _ g).1;have H:=(k _ c).1;have C:=q.get bp a4;have T:=q.get J a4;refine⟨s,by rw[cG,bw T];rfl,_,vc C 0,_,vc C 1,bL ?_⟩
  refine uI (p:=x) (M:=λb=>((A b/\b<h'.size)\/D.size<=b)/\h1.size+1<b) ((hop.upd q λb hb=>a4).more λb hb=>⟨.inl ⟨hb.1,(k b hb.1).1⟩,hb.2⟩) (λb hb=>⟨.inr hb,by have:=bB lb;omega⟩) a4 λs' j ho3 d=>?_
  have n:j[h.size]? =some (.cells #[sv s] 256 (0,0)):=d.get T a4;refine⟨by rw[cG];exact fk n a6,?_⟩;have y:Upd (· =h.size) j (hset j (aR h) (.slice s'.a s'.len s'.cap)):=Upd.hset _ _ rfl
  have F:(hset j (aR h) (.slice s'.a s'.len s'.cap))[h.size]? =some (.cells #[sv s'] 256 (0,0)):=by
   rw[cG,kU n,eE n];rfl
  refine bL ?_;generalize hset j (aR h) (.slice s'.a s'.len s'.cap)=m at y F;have I:m[h1.size+1]? =some (lo .busy none):=y.get (d.get lb a4) a4;refine⟨I,?_⟩;have a:Upd (· =h1.size+1) m (m.setIfInBounds (h1.size+1) (lo .ready none)):=Upd.set _ _ rfl
  have hl5:=eE (o:=lo .ready none) I;have z:Upd A h' m:=((w.wide.tr (q.mono (M':=A) λb hb=>.inl (hb▸c))).trans d λb hb=>hb.1.imp (λh=>h.1) λh=>a4).trans y λb hb=>.inl (hb▸g)
  have z3:=d.size;have z4:=y.size;have z5:=a.size;refine hK _ (λb=>((A b/\b<h'.size)\/D.size<=b)/\b<m.size) ⟨λb hb=>⟨aD hb.2 z5,hb.1.elim (λh=>(k b h.1).2) λh=>a4⟩,⟨.inl ⟨g,V⟩,a4⟩,⟨.inl ⟨e,(k _ e).1⟩,by have:=(k _ e).1;omega⟩,⟨.inl ⟨c,H⟩,a4⟩,
   a.get (y.get (d.get (q.get hd a4) a4) a4) a4,hl5,s',a.get F a4,?_,a9⟩ (z.trans a λb hb=>.inl (hb▸c)) λb hb=>hb.1.imp (λh=>h.1) λh=>a4
  exact(((ho3.upd y λb hb=>a4).within).more λb hb=>⟨⟨hb.1.1,hb.2⟩,hb.1.2⟩).upd a λb hb=>a4
 .refine⟨λb hb=>?_,.inl rfl,.inr (.inl rfl),.inr (.inr rfl),l1,l2,⟨none,0,0⟩,k1.get0 b0,OwnS.nil fP,aJ _⟩
  have:=bB l2;rcases hb with rfl|rfl|rfl<;>omega
 .have:=hg.lt b hq
  rcases hb with rfl|rfl|rfl<;>omega
 .rintro xs A' h' hS ⟨k,g,e,c,hd,t,s,J,ho,hpl⟩ u hA'
  refine⟨.ready,none,a8,t,?_⟩
  have a:Upd (· =h1.size+1) h' (h'.setIfInBounds (h1.size+1) (lo .exhausted none)):=Upd.set _ _ rfl
  show∃v:fD,aZ (h'.setIfInBounds (h1.size+1) (lo .exhausted none)) (aR h)=some (.slice v.a v.len v.cap)/\_
  have R:=a.get hd (show ¬h1.size=h1.size+1 by omega)
  have O:=a.get J (show ¬h.size=h1.size+1 by omega)
  have P:=ho.upd a λb hb=>a4
  generalize h'.setIfInBounds (h1.size+1) (lo .exhausted none)=X at a R O P;refine⟨s,by rw[cG,bw O];rfl,R,?_⟩
  have k6:Upd (· =h1.size) X (X.setIfInBounds h1.size (.deferred none)):=Upd.set _ _ rfl
  refine hk s _ xs hS ((P.upd k6 λb hb=>a4).more λb hb=>(k b hb.1).2) ?_
  refine(((k0.tr k1).trans u λb hb=>?_).trans a λb hb=>.inr a4).trans k6 λb hb=>.inr a4
  rcases hb with rfl|rfl|rfl<;>(right;omega)
theorem Qb{a:Value}(d:Gives PG a ab0 N S Q h)(c:N<=100000000)
  (e:∀s' h' xs,S xs->OwnS dT 2 33 (λb=>h.size<=b) h' s' xs->Upd No h h'->K s' h'):ce 312 [a] K h:=by
 refine dg (nr a) .nil Tryz.func312 Tryz.call312 ?_;unfold nr;exact KO d c e
end
structure WO{α:Type}(lt:α->α->Bool):Prop where
 irr:∀a,lt a a=false
 asy:∀a b,lt a b=true->lt b a=false
 ntr:∀a b c,lt a b=false->lt b c=false->lt a c=false
section
variable {α:Type} {lt:α->α->Bool}
def Qc(lt:α->α->Bool)(x a:α):Bool:= !lt a x&& !lt x a
def Srt(lt:α->α->Bool)(l:List α):Prop:=l.Pairwise λa b=>lt b a=false
structure Eqf(lt:α->α->Bool)(l l':List α):Prop where
 len:l'.length=l.length
 flt:∀x,l'.filter (Qc lt x)=l.filter (Qc lt x)
structure St(lt:α->α->Bool)(l l':List α):Prop where
 eqf:Eqf lt l l'
 srt:Srt lt l'
theorem Eqf.rfl(l:List α):Eqf lt l l:=⟨_root_.rfl,λ_=>_root_.rfl⟩
theorem Eqf.tr{a b c:List α}(h:Eqf lt a b)(k:Eqf lt b c):Eqf lt a c:=⟨k.len.trans h.len,λx=>(k.flt x).trans (h.flt x)⟩
theorem Eqf.app{a b a' b':List α}(h:Eqf lt a a')(k:Eqf lt b b'):Eqf lt (a++b) (a'++b'):=
 ⟨by rw[ae,ae,h.len,k.len],λx=>by rw[cy,cy,h.flt,k.flt]⟩
theorem Ji(w:WO lt)(a:α):Qc lt a a=true:=by unfold Qc;rw[w.irr];rfl
theorem Eqf.mem(w:WO lt){l l':List α}(h:Eqf lt l l'){a:α}:a∈l'↔a∈l:=by
 have e:=h.flt a;constructor
 .intro hm
  have:a∈l'.filter (Qc lt a):=bV.2 ⟨hm,Ji w a⟩;rw[e]at this;exact(bV.1 this).1
 .intro hm
  have:a∈l.filter (Qc lt a):=bV.2 ⟨hm,Ji w a⟩;rw[<-e]at this;exact(bV.1 this).1
theorem aaB(w:WO lt){x u v:α}(a:Qc lt x u=true)(hv:Qc lt x v=true):lt v u=false:=by
 unfold Qc at a hv;simp only[Bool.and_eq_true,Bool.not_eq_true']at a hv;exact w.ntr v x u hv.1 a.2
theorem Eqf.swap(w:WO lt){U V:List α}(h:∀u∈U,∀v∈V,lt v u=true):Eqf lt (U++V) (V++U):=by
 refine⟨by rw[ae,ae,Nat.add_comm],λx=>?_⟩
 rw[cy,cy];cases hU:U.filter (Qc lt x)with
 |nil=>rw[aX,cS]
 |cons u us=>
  cases hV:V.filter (Qc lt x)with
  |nil=>rw[aX,cS]
  |cons v vs=>
   have d:u∈U.filter (Qc lt x):=by rw[hU];exact aq ..
   have hv:v∈V.filter (Qc lt x):=by rw[hV];exact aq ..
   have a:=bV.1 d;have c:=bV.1 hv;have b:=h u a.1 v c.1;rw[aaB w a.2 c.2]at b;cases b
theorem Srt.app{a b:List α}(h:Srt lt a)(k:Srt lt b)(c:∀x∈a,∀y∈b,lt y x=false):Srt lt (a++b):=cE.2 ⟨h,k,c⟩
theorem Srt.left{a b:List α}(h:Srt lt (a++b)):Srt lt a:=(cE.1 h).1
theorem Srt.right{a b:List α}(h:Srt lt (a++b)):Srt lt b:=(cE.1 h).2.1
theorem Srt.cross{a b:List α}(h:Srt lt (a++b)):∀x∈a,∀y∈b,lt y x=false:=(cE.1 h).2.2
theorem Srt.nil:Srt lt ([]:List α):=cj
theorem Srt.one(a:α):Srt lt [a]:=cB ..
theorem W7(w:WO lt){S L G:List α}{t:α}(h:St lt S (L++G))(c:∀l∈L,lt t l=false)(b:∀g∈G,lt t g=true):St lt (S++ [t]) (L++t::G):=by
 refine⟨(h.eqf.app (Eqf.rfl [t])).tr ?_,?_⟩
 .rw[au]
  exact(Eqf.rfl L).app (Eqf.swap w (U:=G) (V:= [t]) λu d v hv=>by rw[az.1 hv];exact b u d)
 .refine h.srt.left.app (aC.2 ⟨λg e=>w.asy t g (b g e),h.srt.right⟩) λx hx y a=>?_
  rcases aw.1 a with rfl|a
  .exact c x hx
  .exact h.srt.cross x hx y a
theorem M3(w:WO lt){V1 V2:List α}{u:α}(h:Srt lt (V1++V2))(b:∀v∈V1,lt v u=true)(c:∀v∈V2,lt v u=false):St lt ([u]++(V1++V2)) (V1++u::V2):=by
 refine⟨?_,?_⟩
 .rw[<-au]
  have:=(Eqf.swap w (U:= [u]) (V:=V1) λx hx y a=>by rw[az.1 hx];exact b y a).app (Eqf.rfl V2)
  rw[au V1]at this;exact this
 .refine h.left.app (aC.2 ⟨c,h.right⟩) λx hx y a=>?_
  rcases aw.1 a with rfl|a
  .exact w.asy x y (b x hx)
  .exact h.cross x hx y a
theorem OX(w:WO lt){U1 U2:List α}{v:α}(h:Srt lt (U1++U2))(a:∀u∈U1,lt v u=false)(b:∀u∈U2,lt v u=true):St lt ((U1++U2)++ [v]) (U1++v::U2):=
 W7 w ⟨Eqf.rfl _,h⟩ a b
theorem Ve(w:WO lt){U1 U2 V1 V2 d R2:List α}(g:Srt lt (U1++U2))(k:Srt lt (V1++V2))(f:∀v∈V1,∀u∈U2,lt v u=true)(j:∀u∈U1,∀v∈V2,lt v u=false)(c:St lt (U1++V1) d)(b:St lt (U2++V2) R2):St lt ((U1++U2)++(V1++V2)) (d++R2):=by
 refine⟨?_,c.srt.app b.srt λx hx y a=>?_⟩
 .have e:Eqf lt ((U1++U2)++(V1++V2)) ((U1++V1)++(U2++V2)):=by
   have:=((Eqf.rfl U1).app (Eqf.swap w (U:=U2) (V:=V1) λu i v hv=>f v hv u i)).app (Eqf.rfl (lt:=lt) V2)
   simp only[au]at this⊢;exact this
  exact e.tr (c.eqf.app b.eqf)
 .rcases aN.1 ((c.eqf.mem w).1 hx)with hx|hx<;>rcases aN.1 ((b.eqf.mem w).1 a)with a|a
  .exact g.cross x hx y a
  .exact j x hx y a
  .exact w.asy x y (f x hx y a)
  .exact k.cross x hx y a
inductive Runs(lt:α->α->Bool)(bs:Nat):List α->Prop where
 |last (l:List α):l.length<=bs->Srt lt l->Runs lt bs l
 |more (b l:List α):b.length=bs->Srt lt b->Runs lt bs l->Runs lt bs (b++l)
theorem Runs.split{a:Nat}{l:List α}(h:Runs lt a l)(c:a<=l.length):∃b r,l=b++r/\b.length=a/\Srt lt b/\Runs lt a r:=by
 cases h with
 |last _ h1 h2=>exact⟨l,[],(aX l).symm,a4,h2,.last _ (aJ _) Srt.nil⟩
 |more b r h1 h2 h3=>exact⟨b,r,_root_.rfl,h1,h2,h3⟩
theorem Runs.short{a:Nat}{l:List α}(h:Runs lt a l)(c:l.length<=a):Srt lt l:=by
 cases h with
 |last _ h1 h2=>exact h2
 |more b r h1 h2 h3=>
  rw[ae]at c;have:r= []:=aK.1 a4;rw[this,aX];exact h2
def Full(lt:α->α->Bool)(a:Nat)(d:List α):Prop:=∀z,Runs lt a z->Runs lt a (d++z)
theorem Full.nil{a:Nat}:Full lt a ([]:List α):=λ_ h=>h
theorem Full.app{a:Nat}{d b:List α}(h:Full lt a d)(hb:b.length=a)(e:Srt lt b):Full lt a (d++b):=λz c=>by
 rw[au];exact h _ (.more b z hb e c)
end
section
open Go.Lift
variable {i k j:Nat}
section
variable {α:Type} {f:α->c4} {sz:Nat} {t:TypeId} {M:dx} {h:ad} {s:fD} {P Q:List α} {x:α}
theorem mw(b:OwnS f sz t M h s (P++x::Q))(hi:i=P.length):∃a,s.a=some a/\∀j v,(f x)[j]? =some v->aZ h (adr (adr a (i*sz)) j)=some v:=by
 obtain⟨a,c,_,hv⟩:=(b.sl (W:=No) λ_ _ _ h=>h).at (i:=i) (x:=x) (by rw[hi,bE (aj _),im];rfl)
 exact⟨a,c,hv⟩
theorem wK(e:OwnS f sz t M h s (P++x::Q))(y:α){a:Addr}(o:s.a=some a)(hi:i=P.length){G:dO}(n:∀h',OwnS f sz t M h' s (P++y::Q)->Upd M h h'->G h'):
  qV h (some (adr a (i*sz))) 0 (f y)/\At (fS h (adr a (i*sz)) 0 (f y)) G:=by
 obtain⟨a',d,hM,g,c,j⟩:=OwnS.setAt e (k:=i) (by rw[hi,ae,av];omega) y;rw[o]at d;cases d;refine⟨g,bL (n _ ?_ (j.mono λb hb=>.inl (by have hb:b=a.block:=hb;rw[hb];exact hM)))⟩
 subst hi;have p:(P++x::Q).take P.length=P:=iy;have m:(P++x::Q).drop (P.length+1)=Q:=by rw[<-List.drop_drop,List.drop_left];rfl
 rw[p,m]at c;exact c
end
theorem Ax{α:Type}{f:α->c4}{sz:Nat}{t:TypeId}{M:dx}{h:ad}{s:fD}{xs:List α}{x:α}(b:OwnS f sz t M h s xs)(hi:xs[i]? =some x):∃a,s.a=some a/\∀j v,(f x)[j]? =some v->aZ h (adr (adr a (i*sz)) j)=some v:=by
 obtain⟨a,c,_,hv⟩:=(b.sl (W:=No) λ_ _ _ h=>h).at hi
 exact⟨a,c,hv⟩
theorem X0{α:Type}{A U X:List α}(hi:A.length+U.length<=i):(A++(U++X))[i]? =X[i-A.length-U.length]?:=by
 rw[bE a4,bE a4]
theorem X1{α:Type}{A U V B:List α}{x:α}(hi:A.length+U.length+k=i)(a:V[k]? =some x):(A++(U++(V++B)))[i]? =some x:=by
 rw[X0 a4,show i-A.length-U.length=k by omega,bW (bM.1 a).1];exact a
theorem Uz{α:Type}{A U X:List α}{x:α}(hi:A.length+k=i)(a:U[k]? =some x):(A++(U++X))[i]? =some x:=by
 rw[bE a4,show i-A.length=k by omega,bW (bM.1 a).1];exact a
theorem Hu(h:i+j<=4000000000):ac .i64 (Int.fdiv (ac .u64 (ac .i64 ((i:Int)+(j:Int)))) (2^(min (1:Int).toNat (al .u64))))=(((i+j)/2:Nat):Int):=by
 have a:(2^(min (1:Int).toNat (al .u64)):Int)=2:=rfl;rw[a,dI (x:=(i:Int)+(j:Int)) a4,Go.IntWalk.u64_in _ a4,Int.fdiv_eq_ediv_of_nonneg _ a4,dI a4];omega
theorem sG{α:Type}{lt:α->α->Bool}(w:WO lt){l:List α}(h:Srt lt l)(c:i<=j){x y:α}(hx:l[i]? =some x) (b:l[j]? =some y):lt y x=false:=by
 obtain⟨hi,rfl⟩:=bM.1 hx;obtain⟨d,rfl⟩:=bM.1 b;rcases Nat.lt_or_ge i j with a|a
 .exact List.pairwise_iff_getElem.1 h i j hi d a
 .have:i=j:=by omega
  subst this;exact w.irr _
theorem NN{α:Type}(l:List α):l= []\/∃l' y,l=l'++ [y]:=by
 rcases List.eq_nil_or_concat l with h|⟨l',y,h⟩
 .exact .inl h
 .exact .inr ⟨l',y,by rw[h,List.concat_eq_append]⟩
structure Cmp{α:Type}(lt:α->α->Bool)(f:α->c4)(M:dx)(Iv:dO)(V:Value):Prop where
 call:∀(a b:α) {h:ad} {K:Int->dO},Iv h->(∀h' e,Upd No h h'->decide (e<0)=lt a b->K e h')->HV PG V [.agg (f a).toArray,.agg (f b).toArray] [.c (.int .i64)] K h
 step:∀{h h':ad},Upd M h h'->Iv h->Iv h'
end
section
open Go.Lift
variable {M:dx}{h:ad}{s:fD}{A U V B:List (Pr)}{a b:Nat}{K:Unit->dO}{lt:Pr->Pr->Bool}{Iv:dO}
theorem wJ{C:List (Pr)}(E:OwnS dT 2 33 M h s (A++(U++(C++(V++B)))))(hn:s.len<=1000000000)(e:U.length=V.length)(f:a=A.length)(hb:b=A.length+U.length+C.length){n:Nat}(w:n=U.length){m:Value}
  (D:∀h',OwnS dT 2 33 M h' s (A++(V++(C++(U++B))))->Upd M h h'->K () h'):dQ 333 [.slice s.a s.len s.cap,.int .i64 a,.int .i64 b,.int .i64 n,m] K h:=by
 subst f hb w;refine oL s A.length (A.length+U.length+C.length:Nat) U.length m ?_;dsimp only[jh,kF,Qr,cz,jX,fj,Jv,BE];have d:=E.len;simp only[ae]at d;refine ez (λ(g:(List (Pr)×List (Pr))×List (Pr)×List (Pr)) (t:Int) h'=>t=(g.1.1.length:Int)/\U=g.1.1++g.1.2/\V=g.2.1++g.2.2/\g.1.1.length=g.2.1.length/\OwnS dT 2 33 M h' s (A++(g.2.1++(g.1.2++(C++(g.1.1++(g.2.2++B))))))/\Upd M h h') (λg=>g.1.2.length) (([],U),[],V)
  ⟨rfl,rfl,rfl,rfl,E,eM _ _⟩ ?_
 rintro I ⟨⟨U1,U2⟩,V1,V2⟩ t h' ⟨L,N,O,J,c,P⟩ T;(try simp only at L N O J c)
 subst L N O;simp only[ae]at e d;refine ar (λp=>?_) λx=>?_
 .simp only[ae]at p
  match U2,V2 with
  | [],_=>simp only[bq]at p;omega
  |_::_,[]=>simp only[bq,av]at e;omega
  |u::U2,v::V2=>
   simp only[av]at e d;simp only[ae,av];have y:ac .i64 (((A.length+(U1.length+(U2.length+1))+C.length:Nat):Int)+(U1.length:Int))=((A.length+(U1.length+(U2.length+1))+C.length+U1.length:Nat):Int):=by rw[dI a4];omega
   have z:ac .i64 ((A.length:Int)+(U1.length:Int))=((A.length+U1.length:Nat):Int):=by rw[dI a4];omega
   rw[y,z];have f1:A++(V1++((u::U2)++(C++(U1++((v::V2)++B)))))=(A++V1)++u::(U2++(C++(U1++(v::V2++B)))):=a6
   have Y:(A++V1)++u::(U2++(C++(U1++(v::V2++B))))=((A++V1)++u::(U2++(C++U1)))++v::(V2++B):=a6
   have X:(A++V1)++v::(U2++(C++(U1++(v::V2++B))))=((A++V1)++v::(U2++(C++U1)))++v::(V2++B):=a6
   have W:((A++V1)++v::(U2++(C++U1)))++u::(V2++B)=A++((V1++ [v])++(U2++(C++((U1++ [u])++(V2++B))))):=a6
   rw[f1]at c;obtain⟨a,f,o⟩:=mw c (i:=A.length+U1.length) (by rw[ae];omega);have j:=c;rw[Y]at j;obtain⟨a',k,q⟩:=mw j (i:=A.length+(U1.length+(U2.length+1))+C.length+U1.length) (by simp only[ae,av];omega);rw[f]at k;cases k;refine⟨⟨a4,a4⟩,a,f,v.1,q 0 _ rfl,v.2,q 1 _ rfl,⟨a4,a4⟩,a,f,u.1,o 0 _ rfl,u.2,o 1 _ rfl,⟨a4,a4⟩,a,f,?_⟩
   refine wK c v f (by rw[ae];omega) λG Q S=>⟨⟨a4,a4⟩,a,f,?_⟩
   rw[X]at Q;refine wK Q u f bb λZ F R=>?_
   rw[W]at F;rw[mK (n:=U1.length+(U2.length+1)) a4 a4];exact T ((U1++ [u],U2),V1++ [v],V2) _ _ ⟨a6,a6,a6,by simp[J],F,(P.trans S λb hb=>.inl hb).trans R λb hb=>.inl hb⟩ a6
 .simp only[ae]at x
  have H:U2= []:=aK.1 a4;have G:V2= []:=aK.1 (by rw[H,bq]at e;omega);subst H G;simp only[aX,cS]at c D;exact D h' c P
theorem RD(O:OwnS dT 2 33 M h s (A++(U++(V++B))))(H:s.len<=1000000000)(X:0<U.length)(T:0<V.length){m:Nat}(W:a=A.length)(hm:m=A.length+U.length)(hb:b=A.length+U.length+V.length){u:Value}
  (R:∀h',OwnS dT 2 33 M h' s (A++(V++(U++B)))->Upd M h h'->K () h'):dQ 332 [.slice s.a s.len s.cap,.int .i64 a,.int .i64 m,.int .i64 b,u] K h:=by
 subst W hm hb;refine dg (km s A.length (A.length+U.length:Nat) (A.length+U.length+V.length:Nat) u) qk Tryz.func332 Tryz.call332 ?_;unfold km;have y:=O.len;simp only[ae]at y;have z:ac .i64 (((A.length+U.length:Nat):Int)-(A.length:Int))=(U.length:Int):=by rw[dI a4];omega
 have C:ac .i64 (((A.length+U.length+V.length:Nat):Int)-((A.length+U.length:Nat):Int))=(V.length:Int):=by rw[dI a4];omega
 rw[z,C];refine ez (λ(g:(List (Pr)×List (Pr))×List (Pr)×List (Pr)) (t:Int×Int) h'=>t.1=(g.1.2.length:Int)/\t.2=(g.2.1.length:Int)/\0<g.1.2.length/\0<g.2.1.length/\A.length+U.length=g.1.1.length+g.1.2.length/\g.1.1++(g.2.1++(g.1.2++g.2.2))=A++(V++(U++B))/\OwnS dT 2 33 M h' s (g.1.1++(g.1.2++(g.2.1++g.2.2)))/\Upd M h h') (λg=>g.1.2.length+g.2.1.length) ((A,U),V,B)
  ⟨rfl,rfl,X,T,rfl,rfl,O,eM _ _⟩ ?_
 rintro I ⟨⟨A',U'⟩,V',f⟩ ⟨ti,Z⟩ h' ⟨z,C,D,E,k,e,c,N⟩ Q;simp only at z C D E k e c;subst z C;have d:=c.len;simp only[ae]at d;have L:((A.length+U.length:Nat):Int)=((A'.length+U'.length:Nat):Int):=a4
 rw[L];have P:ac .i64 (((A'.length+U'.length:Nat):Int)-(U'.length:Int))=(A'.length:Int):=by rw[dI a4];omega
 simp only;rw[P];refine eh (λi=>?_) λw=>?_
 .have i:(U'.length:Int)≠(V'.length:Int):=by simpa using i
  refine ar (λq=>?_) λS=>?_
  .
   have q:V'.length<U'.length:=a4
   obtain⟨U1,U2,rfl,j⟩:∃U1 U2,U'=U1++U2/\U1.length=V'.length:=⟨U'.take V'.length,U'.drop V'.length,(aW ..).symm,by rw[aV];omega⟩
   simp only[ae]at q d k i P;have f1:A'++((U1++U2)++(V'++f))=A'++(U1++(U2++(V'++f))):=a6
   have Y:A'++(V'++(U2++(U1++f)))=(A'++V')++(U2++(U1++f)):=a6
   rw[f1]at c;refine wJ c H j rfl (b:=A'.length+(U1++U2).length) (by simp only[ae];omega) (n:=V'.length) j.symm λF p v=>?_
   rw[Y]at p;have o:ac .i64 (((U1++U2).length:Int)-(V'.length:Int))=(U2.length:Int):=by rw[ae,dI a4];omega
   rw[o];refine Q ((A'++V',U2),U1,f) _ _ ⟨rfl,cd,cd,cd,by simp only[ae];omega,?_,p,N.trans v λb hb=>.inl hb⟩ (by simp only[ae];omega)
   rw[<-e];simp
  .have J:U'.length<V'.length:=by omega
   obtain⟨V1,V2,rfl,j⟩:∃V1 V2,V'=V1++V2/\V2.length=U'.length:=⟨V'.take (V'.length-U'.length),V'.drop (V'.length-U'.length),(aW ..).symm,by rw[ba];omega⟩
   simp only[ae]at J d i;have o:ac .i64 ((ac .i64 (((A'.length+U'.length:Nat):Int)+((V1++V2).length:Int)))-(U'.length:Int))=((A'.length+U'.length+V1.length:Nat):Int):=by
    rw[ae,dI (x:=((A'.length+U'.length:Nat):Int)+((V1.length+V2.length:Nat):Int)) a4,dI a4];omega
   rw[o];have f1:A'++(U'++((V1++V2)++f))=A'++(U'++(V1++(V2++f))):=a6
   rw[f1]at c;refine wJ c H j.symm rfl rfl rfl λF p v=>?_
   have G:ac .i64 (((V1++V2).length:Int)-(U'.length:Int))=(V1.length:Int):=by rw[ae,dI a4];omega
   rw[G];refine Q ((A',V2),V1,U'++f) _ _ ⟨cd,rfl,cd,cd,cd,?_,p,N.trans v λb hb=>.inl hb⟩ (by simp only[ae];omega)
   rw[<-e];simp
 .have w:(U'.length:Int)=(V'.length:Int):=by simpa using w
  have f1:A'++(U'++(V'++f))=A'++(U'++([]++(V'++f))):=a6
  rw[f1]at c;refine wJ c H a4 rfl (b:=A'.length+U'.length) a6 rfl λF p v=>?_
  rw[cS,e]at p;exact R F p (N.trans v λb hb=>.inl hb)
theorem F3(w:WO lt){C:Value}(hc:Cmp lt dT M Iv C){S:List (Pr)}(ho:OwnS dT 2 33 M h s (A++(S++B)))(hi:Iv h)(hn:s.len<=1000000000)(c:a=A.length)(hb:b=A.length+S.length)
  (hk:∀h' R,OwnS dT 2 33 M h' s (A++(R++B))->St lt S R->Upd M h h'->K () h'):dQ 330 [.slice s.a s.len s.cap,.int .i64 a,.int .i64 b,C] K h:=by
 subst c hb;refine dg (ii s A.length (A.length+S.length:Nat) C) mI Tryz.func330 Tryz.call330 ?_;dsimp only[ii,qD,za,Fb,fj,cM,Qr,cz,jX,YY,kF,Jv,BE];have m:=ho.len;simp only[ae]at m;have ea:ac .i64 ((A.length:Int)+1)=((A.length+1:Nat):Int):=by rw[dI a4];omega
 rw[ea];refine ez (λ(g:List (Pr)×List (Pr)×List (Pr)) (t:Int) h'=>t=((A.length+max 1 g.1.length:Nat):Int)/\S=g.1++g.2.2/\(g.1= []->g.2.2= [])/\St lt g.1 g.2.1/\OwnS dT 2 33 M h' s (A++(g.2.1++(g.2.2++B)))/\Upd M h h') (λg=>g.2.2.length) (S.take 1,S.take 1,S.drop 1)
  ⟨?_,(aW ..).symm,λe=>?_,⟨Eqf.rfl _,?_⟩,by rw[<-au (S.take 1),aW];exact ho,eM _ _⟩ ?_
 .simp only[aV];omega
 .have:=congrArg List.length e
  simp only[aV,bq]at this;exact aK.1 (by simp only[ba];omega)
 .match S with
  | []=>exact Srt.nil
  |x::S=>exact Srt.one x
 rintro I ⟨S1,V,T⟩ t h' ⟨J,N,k,j,q,hu⟩ hI;(try simp only at J N k j q)
 subst J N;simp only[ae]at m;have W:=j.eqf.len;refine ar (λD=>?_) λhge=>?_
 .simp only[ae]at D
  have Y:S1≠[]:=λe=>by
   have:=k e;subst e;subst this;simp only[bq]at D;omega
  have hS1l:0<S1.length:=List.length_pos_iff.2 Y;match T with
  | []=>simp only[bq]at D;omega
  |x::T=>
   have O:A.length+max 1 S1.length=A.length+S1.length:=a4
   rw[O];refine ez (λ(g:List (Pr)×List (Pr)) (t:Int) h2=>t=((A.length+g.1.length:Nat):Int)/\V=g.1++g.2/\(∀y∈g.2,lt x y=true)/\OwnS dT 2 33 M h2 s (A++(g.1++(x::(g.2++(T++B)))))/\Upd M h h2) (λg=>g.1.length) (V,[])
    ⟨by(try simp only);omega,a6,λy n=>(by cases n),by simpa using q,hu⟩ ?_
   rintro I2 ⟨L,G⟩ t2 h2 ⟨J,N,hG,f,v⟩ X;(try simp only at J N hG f)
   subst J N;simp only[ae]at W;simp only[av]at m;refine eF (λt Z=>Upd M h Z/\OwnS dT 2 33 M Z s (A++(L++(x::(G++(T++B)))))/\(t=true->∃L' y,L=L'++ [y]/\lt x y=true)/\(t=false->∀y∈L,lt x y=false)) (λRj F=>?_) ?_
   .refine ar (λU=>?_) λhle=>?_
    .rcases NN L with rfl|⟨L',y,rfl⟩
     .simp only[bq]at U;omega
     have o:(L'++ [y]).length=L'.length+1:=a6
     have H:ac .i64 (((A.length+(L'++ [y]).length:Nat):Int)-1)=((A.length+L'.length:Nat):Int):=by rw[o,dI a4];omega
     rw[H];have f1:A++((L'++ [y])++(x::(G++(T++B))))=(A++L')++y::(x::(G++(T++B))):=a6
     have f2:A++((L'++ [y])++(x::(G++(T++B))))=(A++(L'++ [y]))++x::(G++(T++B)):=a6
     have o3:=f;have E:=f;rw[f1]at o3;rw[f2]at E;obtain⟨a,c,n⟩:=mw o3 (i:=A.length+L'.length) bb
     obtain⟨a',d,hx⟩:=mw E (i:=A.length+(L'++ [y]).length) bb
     rw[c]at d;cases d;refine⟨⟨a4,a4⟩,a,c,x.1,hx 0 _ rfl,x.2,hx 1 _ rfl,⟨a4,a4⟩,a,c,y.1,n 0 _ rfl,y.2,n 1 _ rfl,?_⟩
     refine hc.call x y (hc.step v hi) λh5 e Q he=>?_
     rw[he];have ho5:=f.upd Q λ_ _ h=>h
     refine F _ _ ⟨v.tr Q.wide,ho5,λh=>⟨L',y,rfl,h⟩,λh z p=>?_⟩
     have hs:=j.srt.left;rcases aN.1 p with p|p
     .exact w.ntr x y z h (hs.cross z p y (az.2 rfl))
     .rw[az.1 p];exact h
    .have hL:L= []:=aK.1 a4
     exact F _ _ ⟨v,f,λh=>(by cases h),λ_ y n=>(by rw[hL]at n;cases n)⟩
   .rintro t3 Z ⟨P,u,ht,hf⟩
    cases t3 with
    |true=>
     obtain⟨L',y,rfl,hxy⟩:=ht rfl;have o:(L'++ [y]).length=L'.length+1:=a6
     refine ay.2 ?_;have H:ac .i64 (((A.length+(L'++ [y]).length:Nat):Int)-1)=((A.length+L'.length:Nat):Int):=by rw[o,dI a4];omega
     rw[H];have f1:A++((L'++ [y])++(x::(G++(T++B))))=(A++L')++y::(x::(G++(T++B))):=a6
     have f2:(A++L')++y::(x::(G++(T++B)))=(A++(L'++ [y]))++x::(G++(T++B)):=a6
     have f3:(A++(L'++ [y]))++y::(G++(T++B))=(A++L')++y::(y::(G++(T++B))):=a6
     have f4:(A++L')++x::(y::(G++(T++B)))=A++(L'++(x::((y::G)++(T++B)))):=a6
     rw[f1]at u;have E:=u;rw[f2]at E;obtain⟨a,c,n⟩:=mw u (i:=A.length+L'.length) bb
     obtain⟨a',d,hx⟩:=mw E (i:=A.length+(L'++ [y]).length) bb
     rw[c]at d;cases d;refine⟨⟨a4,a4⟩,a,c,y.1,n 0 _ rfl,y.2,n 1 _ rfl,⟨a4,a4⟩,a,c,x.1,hx 0 _ rfl,x.2,hx 1 _ rfl,⟨a4,a4⟩,a,c,?_⟩
     refine wK E y c bb λh5 o5 Q=>⟨⟨a4,a4⟩,a,c,?_⟩
     rw[f3]at o5;refine wK o5 x c bb λh6 o6 k6=>?_
     rw[f4]at o6;refine X (L',y::G) _ _ ⟨rfl,a6,λz p=>?_,o6,(P.trans Q λb hb=>.inl hb).trans k6 λb hb=>.inl hb⟩ (by simp only[o];omega)
     rcases aw.1 p with rfl|p
     .exact hxy
     .exact hG z p
    |false=>
     refine ag.2 ?_;have H:ac .i64 (((A.length+S1.length:Nat):Int)+1)=((A.length+max 1 (S1.length+1):Nat):Int):=by rw[dI a4];omega
     rw[H];refine hI (S1++ [x],L++x::G,T) _ _ ⟨a6,a6,λe=>(by simp at e),W7 w j (hf rfl) hG,?_,P⟩ a6
     have f1:A++((L++x::G)++(T++B))=A++(L++(x::(G++(T++B)))):=a6
     rw[f1];exact u
 .simp only[ae]at hge
  have hT:T= []:=by
   rcases ic S1.length with h0|h0
   .exact k (aK.1 h0)
   .exact aK.1 a4
  subst hT;rw[cS]at q;rw[aX]at hk;exact hk h' V q j hu
theorem CO(w:WO lt){cmp:Value}(hc:Cmp lt dT M Iv cmp)(hn:s.len<=1000000000):∀(n:Nat) {h:ad} {A U V B:List (Pr)},U.length+V.length<=n->OwnS dT 2 33 M h s (A++(U++(V++B)))->Iv h->0<U.length->0<V.length->Srt lt U->Srt lt V->∀{a m b:Nat},a=A.length->m=A.length+U.length->b=A.length+U.length+V.length->∀{K:Unit->dO},
  (∀h' R,OwnS dT 2 33 M h' s (A++(R++B))->St lt (U++V) R->Upd M h h'->K () h')->dQ 331 [.slice s.a s.len s.cap,.int .i64 a,.int .i64 m,.int .i64 b,cmp] K h:=by
 intro n;induction n with
 |zero=>intro h A U V B hl _ _ hU;omega
 |succ n ih=>
  intro h A U V B hl ho hi hU hV sU sV a m b ha hm hb K hk;refine dg (jD s a m b cmp) pz Tryz.func331 Tryz.call331 ?_;dsimp only[jD,qD,za,Fb,fj,cM,Qr,cz,jX,Oe,YY,kF,Jv,BE];have z:=ho.len;simp only[ae]at z;have e1:ac .i64 ((m:Int)-(a:Int))=(U.length:Int):=by rw[dI a4];omega
  have e2:ac .i64 ((b:Int)-(m:Int))=(V.length:Int):=by rw[dI a4];omega
  rw[e1,e2];refine eh (λL=>?_) λhmore=>?_
  .have L:U.length=1:=by have:=eq_of_beq L;omega
   match U,L with
   | [u],_=>
   simp only[aG]at z hm hb;refine ez (λ(g:Nat×Nat) (t:Int×Int) h'=>t.1=(g.1:Int)/\t.2=(g.2:Int)/\m<=g.1/\g.1<=g.2/\g.2<=b/\(∀q x,V[q]? =some x->m+q<g.1->lt x u=true)/\(∀q x,V[q]? =some x->g.2<=m+q->lt x u=false)/\OwnS dT 2 33 M h' s (A++([u]++(V++B)))/\Upd M h h') (λg=>g.2-g.1) (m,b)
    ⟨rfl,rfl,aj _,by(try simp only);omega,aj _,λq x D h=>(by(try simp only at h);omega),λq x D h=>(by have:=(bM.1 D).1;(try simp only at h);omega),ho,eM _ _⟩ ?_
   rintro I ⟨i,j⟩ ⟨ti,tj⟩ h' ⟨e1,e2,hmi,E,hjb,J,H,G,hu⟩ hI;(try simp only at e1 e2 hmi E hjb J H)
   subst e1 e2;refine ar (λN=>?_) λhge=>?_
   .have N:i<j:=by have:(i:Int)<(j:Int):=N;omega
    refine⟨a8,?_⟩;simp only[Bd];rw[Hu a4];have X:(i+j)/2-m<V.length:=a4
    have hk0:(i+j)/2=A.length+1+((i+j)/2-m):=a4
    obtain⟨T,f,hx⟩:=Ax G (i:=(i+j)/2) (x:=V[(i+j)/2-m]) (X1 (U:= [u]) (k:=(i+j)/2-m) (by simp only[aG];omega) (af X));obtain⟨a2,C,hy⟩:=mw (P:=A) (x:=u) (Q:=V++B) G ha;rw[f]at C;cases C;have hVk:V[(i+j)/2-m]? =some V[(i+j)/2-m]:=af X;generalize V[(i+j)/2-m]=x at hx hVk;refine⟨⟨a4,a4⟩,T,f,x.1,hx 0 _ rfl,x.2,hx 1 _ rfl,⟨a4,a4⟩,T,f,u.1,hy 0 _ rfl,u.2,hy 1 _ rfl,?_⟩
    refine hc.call x u (hc.step hu hi) λS e k5 he=>?_
    rw[he];have Y:=G.upd k5 λ_ _ h=>h
    have Z:=hu.tr k5.wide;cases hxu:lt x u with
    |true=>
     refine ay.2 ?_;have ew:ac .i64 ((((i+j)/2:Nat):Int)+1)=(((i+j)/2+1:Nat):Int):=by rw[dI a4];omega
     rw[ew];refine hI ((i+j)/2+1,j) _ _ ⟨rfl,rfl,by(try simp only);omega,by(try simp only);omega,hjb,λq y D hqi=>?_,H,Y,Z⟩ (by(try simp only);omega)
     have hle:=sG w sV (i:=q) (j:=(i+j)/2-m) (by(try simp only at hqi);omega) D hVk;cases hyu:lt y u with
     |true=>rfl
     |false=>rw[w.ntr _ _ _ hle hyu]at hxu;cases hxu
    |false=>
     refine ag.2 ?_;refine hI (i,(i+j)/2) _ _ ⟨rfl,rfl,hmi,by(try simp only);omega,by(try simp only);omega,J,λq y D hqi=>?_,Y,Z⟩ (by(try simp only);omega)
     have hle:=sG w sV (i:=(i+j)/2-m) (j:=q) (by(try simp only at hqi);omega) hVk D;exact w.ntr _ _ _ hle hxu
   .have E:i=j:=by have:¬(i:Int)<(j:Int):=hge;omega
    subst E;obtain⟨V1,V2,rfl,hV1⟩:∃V1 V2,V=V1++V2/\V1.length=i-m:=⟨V.take (i-m),V.drop (i-m),(aW ..).symm,by rw[aV];omega⟩
    simp only[ae]at z hb;have lo1:∀x∈V1,lt x u=true:=λx hx=>by
     obtain⟨q,D,e⟩:=bH hx;exact J q x (by rw[bW D,af D,e]) a4
    have hi1:∀x∈V2,lt x u=false:=λx hx=>by
     obtain⟨q,D,e⟩:=bH hx;exact H (V1.length+q) x (by rw[bE a4,fc,af D,e]) a4
    have hst:=M3 w sV lo1 hi1;have f0:A++([u]++((V1++V2)++B))=A++([]++(u::(V1++(V2++B)))):=a6
    rw[f0]at G;have ew:ac .i64 ((i:Int)-1)=((A.length+V1.length:Nat):Int):=by rw[dI a4];omega
    rw[ew];refine ez (λ(g:List (Pr)×List (Pr)) (t:Int) F=>t=((A.length+g.1.length:Nat):Int)/\V1=g.1++g.2/\OwnS dT 2 33 M F s (A++(g.1++(u::(g.2++(V2++B)))))/\Upd M h F) (λg=>g.2.length) ([],V1)
     ⟨by simp[ha],rfl,G,hu⟩ ?_
    rintro I2 ⟨G1,G2⟩ t2 F ⟨e1,e2,o,O⟩ hI2;(try simp only at e1 e2 o)
    subst e1 e2;simp only[ae]at z hb ew⊢;refine ar (λN=>?_) λhge=>?_
    .match G2 with
     | []=>simp only[bq]at N;omega
     |g::G2=>
      simp only[av]at z;have ew1:ac .i64 (((A.length+G1.length:Nat):Int)+1)=((A.length+G1.length+1:Nat):Int):=by rw[dI a4];omega
      rw[ew1];have f1:A++(G1++(u::((g::G2)++(V2++B))))=(A++G1)++u::(g::(G2++(V2++B))):=a6
      have f2:(A++G1)++u::(g::(G2++(V2++B)))=(A++(G1++ [u]))++g::(G2++(V2++B)):=a6
      have f3:(A++G1)++g::(g::(G2++(V2++B)))=(A++(G1++ [g]))++g::(G2++(V2++B)):=a6
      have f4:(A++(G1++ [g]))++u::(G2++(V2++B))=A++((G1++ [g])++(u::(G2++(V2++B)))):=a6
      rw[f1]at o;have o3:=o;rw[f2]at o3;obtain⟨T,f,hy⟩:=mw o3 (i:=A.length+G1.length+1) bb
      obtain⟨a2,C,hx⟩:=mw o (i:=A.length+G1.length) bb
      rw[f]at C;cases C;refine⟨⟨a4,a4⟩,T,f,g.1,hy 0 _ rfl,g.2,hy 1 _ rfl,⟨a4,a4⟩,T,f,u.1,hx 0 _ rfl,u.2,hx 1 _ rfl,⟨a4,a4⟩,T,f,?_⟩
      refine wK o g f bb λS o5 k5=>⟨⟨a4,a4⟩,T,f,?_⟩
      rw[f3]at o5;refine wK o5 u f bb λh6 o6 k6=>?_
      rw[f4]at o6;exact hI2 (G1++ [g],G2) _ _ ⟨a9,a6,o6,(O.trans k5 λb hb=>.inl hb).trans k6 λb hb=>.inl hb⟩ a6
    .have hG:G2= []:=aK.1 a4
     subst hG;simp only[aX,cS]at o hst hk;refine hk F (G1++u::V2) ?_ hst O;have f1:A++((G1++u::V2)++B)=A++(G1++(u::(V2++B))):=a6
     rw[f1];exact o
  refine eh (λL=>?_) λhmore2=>?_
  .have L:V.length=1:=by have:=eq_of_beq L;omega
   match V,L with
   | [v],_=>
   simp only[aG]at z hb;refine ez (λ(g:Nat×Nat) (t:Int×Int) h'=>t.1=(g.1:Int)/\t.2=(g.2:Int)/\a<=g.1/\g.1<=g.2/\g.2<=m/\(∀q x,U[q]? =some x->a+q<g.1->lt v x=false)/\(∀q x,U[q]? =some x->g.2<=a+q->lt v x=true)/\OwnS dT 2 33 M h' s (A++(U++([v]++B)))/\Upd M h h') (λg=>g.2-g.1) (a,m)
    ⟨rfl,rfl,aj _,by(try simp only);omega,aj _,λq x D h=>(by(try simp only at h);omega),λq x D h=>(by have:=(bM.1 D).1;(try simp only at h);omega),ho,eM _ _⟩ ?_
   rintro I ⟨i,j⟩ ⟨ti,tj⟩ h' ⟨e1,e2,hmi,E,hjb,J,H,G,hu⟩ hI;(try simp only at e1 e2 hmi E hjb J H)
   subst e1 e2;refine ar (λN=>?_) λhge=>?_
   .have N:i<j:=by have:(i:Int)<(j:Int):=N;omega
    refine⟨a8,?_⟩;simp only[Bd];rw[Hu a4];have X:(i+j)/2-a<U.length:=a4
    obtain⟨T,f,hx⟩:=Ax G (i:=(i+j)/2) (x:=U[(i+j)/2-a]) (Uz (k:=(i+j)/2-a) a4 (af X));have f1:A++(U++([v]++B))=(A++U)++v::B:=a6
    have o3:=G;rw[f1]at o3;obtain⟨a2,C,hy⟩:=mw o3 (i:=m) bb
    rw[f]at C;cases C;have hVk:U[(i+j)/2-a]? =some U[(i+j)/2-a]:=af X;generalize U[(i+j)/2-a]=x at hx hVk;refine⟨⟨a4,a4⟩,T,f,v.1,hy 0 _ rfl,v.2,hy 1 _ rfl,⟨a4,a4⟩,T,f,x.1,hx 0 _ rfl,x.2,hx 1 _ rfl,?_⟩
    refine hc.call v x (hc.step hu hi) λS e k5 he=>?_
    rw[he];have Y:=G.upd k5 λ_ _ h=>h
    have Z:=hu.tr k5.wide;cases hxu:lt v x with
    |false=>
     refine ay.2 ?_;have ew:ac .i64 ((((i+j)/2:Nat):Int)+1)=(((i+j)/2+1:Nat):Int):=by rw[dI a4];omega
     rw[ew];refine hI ((i+j)/2+1,j) _ _ ⟨rfl,rfl,by(try simp only);omega,by(try simp only);omega,hjb,λq y D hqi=>?_,H,Y,Z⟩ (by(try simp only);omega)
     exact w.ntr _ _ _ hxu (sG w sU (i:=q) (j:=(i+j)/2-a) (by(try simp only at hqi);omega) D hVk)
    |true=>
     refine ag.2 ?_;refine hI (i,(i+j)/2) _ _ ⟨rfl,rfl,hmi,by(try simp only);omega,by(try simp only);omega,J,λq y D hqi=>?_,Y,Z⟩ (by(try simp only);omega)
     have hle:=sG w sU (i:=(i+j)/2-a) (j:=q) (by(try simp only at hqi);omega) hVk D;cases hvy:lt v y with
     |true=>rfl
     |false=>rw[w.ntr _ _ _ hvy hle]at hxu;cases hxu
   .have E:i=j:=by have:¬(i:Int)<(j:Int):=hge;omega
    subst E;obtain⟨U1,U2,rfl,hU1⟩:∃U1 U2,U=U1++U2/\U1.length=i-a:=⟨U.take (i-a),U.drop (i-a),(aW ..).symm,by rw[aV];omega⟩
    simp only[ae]at z hb hm;have lo1:∀x∈U1,lt v x=false:=λx hx=>by
     obtain⟨q,D,e⟩:=bH hx;exact J q x (by rw[bW D,af D,e]) a4
    have hi1:∀x∈U2,lt v x=true:=λx hx=>by
     obtain⟨q,D,e⟩:=bH hx;exact H (U1.length+q) x (by rw[bE a4,fc,af D,e]) a4
    have hst:=OX w sU lo1 hi1;have f0:A++((U1++U2)++([v]++B))=A++(U1++(U2++(v::([]++B)))):=a6
    rw[f0]at G;refine ez (λ(g:List (Pr)×List (Pr)) (t:Int) F=>t=((A.length+U1.length+g.1.length:Nat):Int)/\U2=g.1++g.2/\OwnS dT 2 33 M F s (A++(U1++(g.1++(v::(g.2++B)))))/\Upd M h F) (λg=>g.1.length) (U2,[])
     ⟨by(try simp only);omega,a6,G,hu⟩ ?_
    rintro I2 ⟨G1,G2⟩ t2 F ⟨e1,e2,o,O⟩ hI2;(try simp only at e1 e2 o)
    subst e1 e2;simp only[ae]at z hb hm⊢;refine ar (λhgt=>?_) λhle=>?_
    .rcases NN G1 with rfl|⟨G1',g,rfl⟩
     .simp only[bq]at hgt;omega
     simp only[ae,aG]at z hb hm hgt⊢;have ew1:ac .i64 (((A.length+U1.length+(G1'.length+1):Nat):Int)-1)=((A.length+U1.length+G1'.length:Nat):Int):=by rw[dI a4];omega
     rw[ew1];have f1:A++(U1++((G1'++ [g])++(v::(G2++B))))=(A++(U1++(G1'++ [g])))++v::(G2++B):=a6
     have f2:(A++(U1++(G1'++ [g])))++v::(G2++B)=(A++(U1++G1'))++g::(v::(G2++B)):=a6
     have f3:(A++(U1++(G1'++ [g])))++g::(G2++B)=(A++(U1++G1'))++g::(g::(G2++B)):=a6
     have f4:(A++(U1++G1'))++v::(g::(G2++B))=A++(U1++(G1'++(v::((g::G2)++B)))):=a6
     rw[f1]at o;have o3:=o;rw[f2]at o3;obtain⟨T,f,hy⟩:=mw o3 (i:=A.length+U1.length+G1'.length) bb
     obtain⟨a2,C,hx⟩:=mw o (i:=A.length+U1.length+(G1'.length+1)) bb
     rw[f]at C;cases C;refine⟨⟨a4,a4⟩,T,f,g.1,hy 0 _ rfl,g.2,hy 1 _ rfl,⟨a4,a4⟩,T,f,v.1,hx 0 _ rfl,v.2,hx 1 _ rfl,⟨a4,a4⟩,T,f,?_⟩
     refine wK o g f bb λS o5 k5=>⟨⟨a4,a4⟩,T,f,?_⟩
     rw[f3]at o5;refine wK o5 v f bb λh6 o6 k6=>?_
     rw[f4]at o6;exact hI2 (G1',g::G2) _ _ ⟨rfl,a6,o6,(O.trans k5 λb hb=>.inl hb).trans k6 λb hb=>.inl hb⟩ a6
    .have hG:G1= []:=aK.1 a4
     subst hG;simp only[cS]at o hst hk;refine hk F (U1++v::G2) ?_ hst O;have f1:A++((U1++v::G2)++B)=A++(U1++(v::(G2++B))):=a6
     rw[f1];exact o
  have hU2:2<=U.length:=by
   have:(U.length:Int)≠1:=by simpa using hmore
   omega
  have hV2:2<=V.length:=by
   have:(V.length:Int)≠1:=by simpa using hmore2
   omega
  refine⟨a8,?_⟩;simp only[Bd];rw[Hu (i:=a) (j:=b) a4];obtain⟨d,hmid⟩:∃d,(a+b)/2=d:=⟨_,rfl⟩;rw[hmid];have em:ac .i64 ((d:Int)+(m:Int))=((d+m:Nat):Int):=by rw[dI a4];omega
  rw[em];have ep:ac .i64 (((d+m:Nat):Int)-1)=((d+m-1:Nat):Int):=by rw[dI a4];omega
  rw[ep];refine eF (λt h'=>h'=h/\∃s0 r0:Nat,t=((s0:Int),(r0:Int))/\a<=s0/\s0<=r0/\r0<=m/\r0<=d/\d+m<=b+s0/\(r0=d\/r0=m)/\(s0=a\/s0+b=d+m)) (λRj hRj=>?_) ?_
  .refine ar (λhgt=>?_) λhle=>?_
   .have es:ac .i64 (((d+m:Nat):Int)-(b:Int))=((d+m-b:Nat):Int):=by rw[dI a4];omega
    rw[es];exact hRj _ _ ⟨rfl,_,_,rfl,a4,a4,a4,a4,a4,a4,a4⟩
   .exact hRj _ _ ⟨rfl,_,_,rfl,a4,a4,a4,a4,a4,a4,a4⟩
  rintro t h' ⟨rfl,s0,r0,rfl,hs0,hsr,hrm,hrd,hsb,hr0,hs00⟩;refine ez (λ(g:Nat×Nat) (t:Int×Int) F=>t.1=(g.1:Int)/\t.2=(g.2:Int)/\s0<=g.1/\g.1<=g.2/\g.2<=r0/\(∀c x y,s0<=c->c<g.1->U[c-a]? =some x->V[d-1-c]? =some y->lt y x=false)/\(∀c x y,g.2<=c->c<r0->U[c-a]? =some x->V[d-1-c]? =some y->lt y x=true)/\OwnS dT 2 33 M F s (A++(U++(V++B)))/\Upd M h' F) (λg=>g.2-g.1) (s0,r0)
   ⟨rfl,rfl,aj _,hsr,aj _,λc x y h1 F=>(by(try simp only at F);omega),λc x y h1 F=>(by(try simp only at h1);omega),ho,eM _ _⟩ ?_
  rintro I ⟨i,j⟩ ⟨ti,tj⟩ F ⟨e1,e2,hsi,E,hjr,J,H,o,O⟩ hI;(try simp only at e1 e2 hsi E hjr J H)
  subst e1 e2;refine ar (λN=>?_) λhge=>?_
  .have N:i<j:=by have:(i:Int)<(j:Int):=N;omega
   refine⟨a8,?_⟩;rw[Hu (i:=i) (j:=j) a4];obtain⟨c,hcc⟩:∃c,(i+j)/2=c:=⟨_,rfl⟩;rw[hcc];have hci:i<=c:=a4
   have hcj:c<j:=a4
   have eq:ac .i64 (((d+m-1:Nat):Int)-(c:Int))=((d+m-1-c:Nat):Int):=by rw[dI a4];omega
   rw[eq];have X:c-a<U.length:=a4
   have hk2:d-1-c<V.length:=a4
   obtain⟨T,f,hx⟩:=Ax o (i:=c) (x:=U[c-a]) (Uz (k:=c-a) a4 (af X));obtain⟨a2,C,hy⟩:=Ax o (i:=d+m-1-c) (x:=V[d-1-c]) (X1 (k:=d-1-c) a4 (af hk2));rw[f]at C;cases C;have hUc:U[c-a]? =some U[c-a]:=af X;have hVc:V[d-1-c]? =some V[d-1-c]:=af hk2;generalize U[c-a]=x at hx hUc
   generalize V[d-1-c]=y at hy hVc;refine⟨⟨a4,a4⟩,T,f,y.1,hy 0 _ rfl,y.2,hy 1 _ rfl,⟨a4,a4⟩,T,f,x.1,hx 0 _ rfl,x.2,hx 1 _ rfl,?_⟩
   refine hc.call y x (hc.step O hi) λS e k5 he=>?_
   rw[he];have Y:=o.upd k5 λ_ _ h=>h
   have Z:=O.tr k5.wide;cases hyx:lt y x with
   |false=>
    refine ay.2 ?_;have ew:ac .i64 ((c:Int)+1)=((c+1:Nat):Int):=by rw[dI a4];omega
    rw[ew];refine hI (c+1,j) _ _ ⟨rfl,rfl,by(try simp only);omega,by(try simp only);omega,hjr,λc' x' y' h1 F hx' hy'=>?_,H,Y,Z⟩ (by(try simp only);omega)
    (try simp only at F)
    have q1:=sG w sU (i:=c'-a) (j:=c-a) a4 hx' hUc;have q2:=sG w sV (i:=d-1-c) (j:=d-1-c') a4 hVc hy';exact w.ntr _ _ _ (w.ntr _ _ _ q2 hyx) q1
   |true=>
    refine ag.2 ?_;refine hI (i,c) _ _ ⟨rfl,rfl,hsi,hci,by(try simp only);omega,J,λc' x' y' h1 F hx' hy'=>?_,Y,Z⟩ (by(try simp only);omega)
    (try simp only at h1)
    have q1:=sG w sU (i:=c-a) (j:=c'-a) a4 hUc hx';have q2:=sG w sV (i:=d-1-c') (j:=d-1-c) a4 hy' hVc;cases hyx':lt y' x' with
    |true=>rfl
    |false=>rw[w.ntr _ _ _ (w.ntr _ _ _ q2 hyx') q1]at hyx;cases hyx
  have E:i=j:=by have:¬(i:Int)<(j:Int):=hge;omega
  subst E;have en:ac .i64 (((d+m:Nat):Int)-(i:Int))=((d+m-i:Nat):Int):=by rw[dI a4];omega
  (try simp only)
  rw[en];obtain⟨U1,U2,eU,hU1⟩:∃U1 U2,U=U1++U2/\U1.length=i-a:=⟨U.take (i-a),U.drop (i-a),(aW ..).symm,by rw[aV];omega⟩
  obtain⟨V1,V2,eV,hV1⟩:∃V1 V2,V=V1++V2/\V1.length=d-i:=⟨V.take (d-i),V.drop (d-i),(aW ..).symm,by rw[aV];omega⟩
  have c1:∀v∈V1,∀u∈U2,lt v u=true:=λv hv u hu=>by
   obtain⟨q,D,e⟩:=bH hv;obtain⟨p,hp,e'⟩:=bH hu;have hlU:U.length=U1.length+U2.length:=by rw[eU,ae]
   have n1:0<U2.length:=a4
   have n2:d-1-i<V1.length:=a4
   have gx:U[i-a]? =some (U2[0]'n1):=by rw[eU,bE a4,<-hU1,im,af a4]
   have gy:V[d-1-i]? =some (V1[d-1-i]'n2):=by rw[eV,bW a4,af a4]
   have hQ:=H i _ _ (aj _) a4 gx gy;have q1:=sG w sU (i:=i-a) (j:=i-a+p) a4 gx (by rw[eU,bE a4,<-hU1,fc,af hp,e']);have q2:=sG w sV (i:=q) (j:=d-1-i) a4 (by rw[eV,bW D,af D,e]) gy;cases hvu:lt v u with
   |true=>rfl
   |false=>rw[w.ntr _ _ _ (w.ntr _ _ _ q2 hvu) q1]at hQ;cases hQ
  have c2:∀u∈U1,∀v∈V2,lt v u=false:=λu hu v hv=>by
   obtain⟨p,hp,e'⟩:=bH hu;obtain⟨q,D,e⟩:=bH hv;have hlV:V.length=V1.length+V2.length:=by rw[eV,ae]
   have n1:i-1-a<U1.length:=a4
   have n2:0<V2.length:=a4
   have gx:U[i-1-a]? =some (U1[i-1-a]'n1):=by rw[eU,bW a4,af a4]
   have gy:V[d-1-(i-1)]? =some (V2[0]'n2):=by rw[eV,bE a4,show d-1-(i-1)-V1.length=0 by omega,af a4]
   have hQ:=J (i-1) _ _ a4 a4 gx gy;have q1:=sG w sU (i:=p) (j:=i-1-a) a4 (by rw[eU,bW hp,af hp,e']) gx;have q2:=sG w sV (i:=d-i) (j:=d-i+q) a4 (by rw[eV,bE a4,hV1,im,af a4]) (by rw[eV,bE a4,hV1,fc,af D,e])
   have gy2:V[d-i]? =some (V2[0]'n2):=by rw[eV,bE a4,hV1,im,af a4]
   exact w.ntr _ _ _ (w.ntr _ _ _ q2 hQ) q1
  subst eU eV;simp only[ae]at z hU hV hl hm hb hU2 hV2;have sA1:=sU.left;have sA2:=sU.right;have sB1:=sV.left;have sB2:=sV.right;refine eF (λ_ h3=>OwnS dT 2 33 M h3 s (A++(U1++(V1++(U2++(V2++B)))))/\Upd M h' h3) (λRj hRj=>?_) ?_
  .have f1:A++((U1++U2)++((V1++V2)++B))=(A++U1)++(U2++(V1++(V2++B))):=by simp
   have f2:(A++U1)++(V1++(U2++(V2++B)))=A++(U1++(V1++(U2++(V2++B)))):=a6
   refine eF (λt h3=>h3=F/\(t=true↔0<U2.length/\0<V1.length)) (λRk W=>?_) ?_
   .refine ar (λh=>W _ _ ⟨rfl,?_⟩) λh=>W _ _ ⟨rfl,⟨λh=>(by cases h),λh=>a4⟩⟩
    rw[decide_eq_true_iff];constructor
    .intro h;constructor<;>omega
    .rintro⟨h1,F⟩;omega
   .rintro t h3 ⟨rfl,ht⟩
    cases t with
    |true=>
     obtain⟨p1,p2⟩:=ht.1 rfl;rw[f1]at o;refine ay.2 (RD o hn p1 p2 (by rw[ae];omega) (by rw[ae];omega) (by rw[ae];omega) λh4 o4 k4=>hRj _ _ ⟨?_,O.trans k4 λb hb=>.inl hb⟩)
     rw[f2]at o4;exact o4
    |false=>
     have hz:U2= []\/V1= []:=by
      rcases ic U2.length with h|h
      .exact .inl (aK.1 h)
      .rcases ic V1.length with h3|h3
       .exact .inr (aK.1 h3)
       .have:=ht.2 ⟨h,h3⟩;cases this
     refine ag.2 (hRj _ _ ⟨?_,O⟩);rw[f1]at o;rw[<-f2];rcases hz with rfl|rfl
     .exact o
     .exact o
  rintro _ h3 ⟨o3,k3⟩;refine eF (λ_ h4=>∃R1,OwnS dT 2 33 M h4 s (A++(R1++(U2++(V2++B))))/\St lt (U1++V1) R1/\Upd M h' h4) (λRj hRj=>?_) ?_
  .refine eF (λt h4=>h4=h3/\(t=true↔0<U1.length/\0<V1.length)) (λRk W=>?_) ?_
   .refine ar (λh=>W _ _ ⟨rfl,?_⟩) λh=>W _ _ ⟨rfl,⟨λh=>(by cases h),λh=>a4⟩⟩
    rw[decide_eq_true_iff];constructor
    .intro h;constructor<;>omega
    .rintro⟨h1,F⟩;omega
   .rintro t h4 ⟨rfl,ht⟩
    cases t with
    |true=>
     obtain⟨p1,p2⟩:=ht.1 rfl;refine ay.2 (ih a4 o3 (hc.step k3 hi) p1 p2 sA1 sB1 ha a4 a4 λS R1 o5 s5 k5=>hRj _ _ ⟨R1,o5,s5,k3.trans k5 λb hb=>.inl hb⟩)
    |false=>
     refine ag.2 (hRj _ _ ⟨U1++V1,by simpa using o3,⟨Eqf.rfl _,?_⟩,k3⟩)
     rcases ic U1.length with h|h
     .rw[aK.1 h];exact sB1
     .rcases ic V1.length with S|S
      .rw[aK.1 S,aX];exact sA1
      .have:=ht.2 ⟨h,S⟩;cases this
  rintro _ h4 ⟨R1,o4,s1,k4⟩;have hR1:=s1.eqf.len;rw[ae]at hR1;have fin:∀{S:ad} {R2:List (Pr)},OwnS dT 2 33 M S s (A++(R1++(R2++B)))->St lt (U2++V2) R2->Upd M h' S->K () S:=λ{S R2} o5 s2 k5=>by
   refine hk S (R1++R2) ?_ (Ve w sU sV c1 c2 s1 s2) k5;rw[au];exact o5
  refine eF (λt S=>S=h4/\(t=true↔0<U2.length/\0<V2.length)) (λRk W=>?_) ?_
  .refine ar (λh=>W _ _ ⟨rfl,?_⟩) λh=>W _ _ ⟨rfl,⟨λh=>(by cases h),λh=>a4⟩⟩
   rw[decide_eq_true_iff];constructor
   .intro h;constructor<;>omega
   .rintro⟨h1,F⟩;omega
  .rintro t S ⟨rfl,ht⟩
   have f1:A++(R1++(U2++(V2++B)))=(A++R1)++(U2++(V2++B)):=a6
   cases t with
   |true=>
    obtain⟨p1,p2⟩:=ht.1 rfl;rw[f1]at o4;refine ay.2 (ih a4 o4 (hc.step k4 hi) p1 p2 sA2 sB2 (by rw[ae];omega) (by rw[ae];omega) (by rw[ae];omega) λh6 R2 o6 s6 k6=>fin (R2:=R2) ?_ s6 (k4.trans k6 λb hb=>.inl hb))
    rw[au]at o6;exact o6
   |false=>
    refine ag.2 (fin (R2:=U2++V2) (by simpa using o4) ⟨Eqf.rfl _,?_⟩ k4);rcases ic U2.length with h|h
    .rw[aK.1 h];exact sB2
    .rcases ic V2.length with h6|h6
     .rw[aK.1 h6,aX];exact sA2
     .have:=ht.2 ⟨h,h6⟩;cases this
theorem Rm(w:WO lt){f:Value}(hc:Cmp lt dT M Iv f){xs:List (Pr)}(ho:OwnS dT 2 33 M h s xs)(hi:Iv h)(hn:xs.length<=100000000)
  (hk:∀h' R,OwnS dT 2 33 M h' s R->St lt xs R->Upd M h h'->K () h'):dQ 320 [.slice s.a s.len s.cap,f] K h:=by
 refine dg (gb s f) .nil Tryz.func320 Tryz.call320 ?_;unfold gb;refine dg (kj s (s.len:Int) f) qj Tryz.func328 Tryz.call328 ?_;unfold kj;have m:=ho.len;have e:s.len<=1000000000:=a4
 refine ez (λ(g:List (Pr)×List (Pr)×List (Pr)) (t:Int×Int) h'=>t.1=(g.2.1.length:Int)/\t.2=((g.2.1.length+20:Nat):Int)/\xs=g.1++g.2.2/\Eqf lt g.1 g.2.1/\Full lt 20 g.2.1/\OwnS dT 2 33 M h' s (g.2.1++g.2.2)/\Upd M h h') (λg=>g.2.2.length) ([],[],xs)
  ⟨rfl,rfl,rfl,Eqf.rfl _,Full.nil,ho,eM _ _⟩ ?_
 rintro I ⟨X,D,T⟩ ⟨ta,tb⟩ h1 ⟨j,N,O,d,k,P,k1⟩ hI;simp only at j N O d k P;subst j N O;have hXD:=d.len;simp only[ae]at m hn;refine ar (λW=>?_) λA=>?_
 .obtain⟨S,T',rfl,hS⟩:∃S T',T=S++T'/\S.length=20:=⟨T.take 20,T.drop 20,(aW ..).symm,by rw[aV];omega⟩
  refine F3 w hc P (hc.step k1 hi) e rfl (b:=D.length+20) a4 λh2 R z q L=>?_
  have y:=q.eqf.len;simp only[ae]at m hn;have G:ac .i64 (((D.length+20:Nat):Int)+20)=(((D++R).length+20:Nat):Int):=by rw[ae,dI a4];omega
  rw[G];refine hI (X++S,D++R,T') _ _ ⟨by simp only[ae];omega,rfl,a6,d.app q.eqf,k.app a4 q.srt,by rw[au];exact z,k1.trans L λb hb=>.inl hb⟩ (by simp only[ae];omega)
 have f1:D++T=D++(T++ []):=a6
 rw[f1]at P;refine F3 w hc P (hc.step k1 hi) e rfl (b:=s.len) a4 λh2 R z q L=>?_
 have y:=q.eqf.len;rw[aX]at z;have u:Eqf lt (X++T) (D++R):=d.app q.eqf;have H:Runs lt 20 (D++R):=k R (.last R a4 q.srt);have L:Upd M h h2:=k1.trans L λb hb=>.inl hb
 generalize D++R=ys at z u H;generalize X++T=zs at u hk;have c:s.len=ys.length:=z.len;clear hI d k P f1 A y;refine ez (λ(g:Nat×List (Pr)) (t:Int) h'=>t=(g.1:Int)/\0<g.1/\g.1<=200000000/\Runs lt g.1 g.2/\Eqf lt zs g.2/\OwnS dT 2 33 M h' s g.2/\Upd M h h') (λg=>s.len-g.1) (20,ys)
  ⟨rfl,a6,a6,H,u,z,L⟩ ?_
 rintro I2 ⟨a,ys⟩ t h3 ⟨j,hb0,V,hr,p,Q,k3⟩ U;simp only at j hb0 V hr p Q;subst j;have c:s.len=ys.length:=Q.len;refine ar (λZ=>?_) λhge=>?_
 .have Z:a<s.len:=by omega
  have e0:ac .i64 (2*(a:Int))=((2*a:Nat):Int):=by rw[dI a4];omega
  rw[e0];refine ez (λ(g:List (Pr)×List (Pr)×List (Pr)) (t:Int×Int) h'=>t.1=(g.2.1.length:Int)/\t.2=((g.2.1.length+2*a:Nat):Int)/\ys=g.1++g.2.2/\Eqf lt g.1 g.2.1/\Full lt (2*a) g.2.1/\Runs lt a g.2.2/\OwnS dT 2 33 M h' s (g.2.1++g.2.2)/\Upd M h h') (λg=>g.2.2.length) ([],[],ys)
   ⟨rfl,a6,rfl,Eqf.rfl _,Full.nil,hr,Q,k3⟩ ?_
  rintro I3 ⟨Y,D,T⟩ ⟨ta,tb⟩ h4 ⟨j,N,O,d,k,i,E,J⟩ hI3;simp only at j N O d k i E;subst j N O;have hYD:=d.len;simp only[ae]at c;have ea:ac .i64 ((D.length:Int)+(a:Int))=((D.length+a:Nat):Int):=by rw[dI a4];omega
  simp only;rw[ea];refine ar (λW=>?_) λA=>?_
  .obtain⟨B1,T1,rfl,hB1,o,v⟩:=i.split a4
   simp only[ae]at c;obtain⟨B2,T2,rfl,hB2,sB2,hr2⟩:=v.split a4;simp only[ae]at c;refine CO w hc e (B1.length+B2.length) (aj _) E (hc.step J hi) a4 a4 o sB2 rfl a4 a4 λF R x n C=>?_
   have y:=n.eqf.len;rw[ae]at y;have G:ac .i64 (((D.length+2*a:Nat):Int)+((2*a:Nat):Int))=(((D++R).length+2*a:Nat):Int):=by rw[ae,dI a4];omega
   rw[G];refine hI3 (Y++(B1++B2),D++R,T2) _ _ ⟨by simp only[ae];omega,rfl,a6,d.app n.eqf,k.app a4 n.srt,hr2,by rw[au];exact x,J.trans C λb hb=>.inl hb⟩ (by simp only[ae];omega)
  .refine eF (λ_ F=>∃R,Eqf lt T R/\Runs lt (2*a) R/\OwnS dT 2 33 M F s (D++R)/\Upd M h F) (λRj B=>?_) ?_
   .refine ar (λhmn=>?_) λhmn=>?_
    .obtain⟨B1,T1,rfl,hB1,o,v⟩:=i.split a4
     simp only[ae]at c;have f1:D++(B1++T1)=D++(B1++(T1++ [])):=a6
     rw[f1]at E;refine CO w hc e (B1.length+T1.length) (aj _) E (hc.step J hi) a4 a4 o (v.short a4) rfl a4 a4 λF R x n C=>?_
     have y:=n.eqf.len;rw[ae]at y;rw[aX]at x;exact B _ _ ⟨R,n.eqf,.last R a4 n.srt,x,J.trans C λb hb=>.inl hb⟩
    .exact B _ _ ⟨T,Eqf.rfl _,.last T a4 (i.short a4),E,J⟩
   .rintro _ F ⟨R,q5,r5,x,C⟩
    have G:ac .i64 ((a:Int)*2)=((2*a:Nat):Int):=by rw[dI a4];omega
    rw[G];exact U (2*a,D++R) _ _ ⟨rfl,cd,cd,k R r5,p.tr (d.app q5),x,C⟩ cd
 .exact hk h3 ys Q ⟨p,hr.short a4⟩ k3
variable {z0:Hs}
end
section
open Go.Lift
variable {l:bY}{h h':ad}{W W' G M:dx}{s:fD}{K:fD->dO}{x:Hs}{m:Nat}{r:aT}
def StP(N:Nat):Prop:=∀{lt:Pr->Pr->Bool},WO lt->∀{M:dx} {Iv:dO} {cmp:Value},Cmp lt dT M Iv cmp->∀{h:ad} {s:fD} {xs:bY},OwnS dT 2 33 M h s xs->Iv h->xs.length<=N->∀{K:Unit->dO},
 (∀h' R,OwnS dT 2 33 M h' s R->St lt xs R->Upd M h h'->K () h')->dQ 320 [.slice s.a s.len s.cap,cmp] K h
theorem stP:StP 100000000:=λw _ _ _ hc _ _ _ a hi c _ b=>Rm w hc a hi c b
def aad(a b:Pr):Bool:=decide (kl a.1 b.1)
theorem abQ:WO aad:=by
 refine⟨λa=>decide_eq_false (bX _),λa b h=>decide_eq_false λk=>bX _ (dX (of_decide_eq_true h) k),λa b c h k=>decide_eq_false λd=>?_⟩
 have h:=of_decide_eq_false h;have k:=of_decide_eq_false k;by_cases e:b.1=c.1
 .rw[<-e]at d;exact h d
 .have f:=mf k e
  exact h (dX d f)
theorem aaC(x a:Pr):Qc aad x a=decide (a.1=x.1):=by
 unfold Qc aad;by_cases e:a.1=x.1
 .rw[decide_eq_true e,e,decide_eq_false (bX _)];rfl
 .rw[decide_eq_false e]
  by_cases h:kl a.1 x.1
  .rw[decide_eq_true h];rfl
  .rw[decide_eq_false h,decide_eq_true (mf h e)];rfl
def kC(l:bY)(k:c6):Option Pr:=(l.filter λq=>decide (q.1=k)).getLast?
theorem uz(q:Pr)(l:bY)(k:c6):kC (q::l) k=if q.1=k then some ((kC l k).getD q)else kC l k:=by
 unfold kC;rw[List.filter_cons];by_cases h:q.1=k
 .rw[if_pos (decide_eq_true h),if_pos h,List.getLast?_cons]
 .rw[if_neg (by simpa using h),if_neg h]
theorem VO{k:c6}{p:Pr}(h:kC l k=some p):p.1=k:=by
 unfold kC at h;have:=iz h;exact of_decide_eq_true (bV.1 this).2
theorem LQ{k:c6}{p:Pr}(h:kC l k=some p):p∈l:=by
 unfold kC at h;exact(bV.1 (iz h)).1
theorem Sm{k:c6}(h:∀q∈l,q.1≠k):kC l k=none:=by
 unfold kC;rw[List.filter_eq_nil_iff.2 λq a=>by simpa using h q a];rfl
theorem Yh{l':bY}(h:Eqf aad l l')(k:c6):kC l' k=kC l k:=by
 unfold kC;have:=h.flt (k,k);have e:∀m:bY,m.filter (Qc aad (k,k))=m.filter λq=>decide (q.1=k):=λm=>List.filter_congr λq _=>aaC (k,k) q
 rw[e,e]at this;rw[this]
def OY(l:bY):bY:=l.foldl (λacc p=>gQ p acc) []
theorem E1:∀(l:bY) {acc:bY},bS acc->bS (l.foldl (λacc p=>gQ p acc) acc)/\∀p,p∈l.foldl (λacc p=>gQ p acc) acc↔kC l p.1=some p\/(kC l p.1=none/\p∈acc)
 | [],acc,hr=>⟨hr,λp=>by simp[kC]⟩
 |q::l,acc,hr=>by
  obtain⟨b,c⟩:=E1 l (pF q hr);refine⟨b,λp=>?_⟩
  rw[List.foldl_cons,c p,uz,rQ hr];by_cases e:q.1=p.1
  .rw[if_pos e]
   cases hl:kC l p.1 with
   |none=>
    simp only[Option.getD_none,Option.some.injEq,reduceCtorEq,false_or,false_and,or_false];constructor
    .rintro⟨_,rfl|⟨_,h⟩⟩
     .rfl
     .exact absurd e.symm h
    .rintro rfl;exact⟨trivial,.inl rfl⟩
   |some r=>simp
  .rw[if_neg e]
   constructor
   .rintro(h|⟨h,rfl|⟨a,_⟩⟩)
    .exact .inl h
    .exact absurd rfl e
    .exact .inr ⟨h,a⟩
   .rintro(h|⟨h,a⟩)
    .exact .inl h
    .exact .inr ⟨h,.inr ⟨a,λd=>e d.symm⟩⟩
theorem Lp(l:bY):bS (OY l):=(E1 l cj).1
theorem Uk{p:Pr}:p∈OY l↔kC l p.1=some p:=by
 have:=(E1 l (acc:= []) cj).2 p;unfold OY;rw[this];simp
def me:bY->bY
 | []=> []
 | [p]=> [p]
 |p::q::l=>if q.1=p.1 then me (q::l)else p::me (q::l)
theorem rS(p q:Pr)(l:bY):me (p::q::l)=if q.1=p.1 then me (q::l)else p::me (q::l):=rfl
theorem B9:∀(l:bY),∀p∈me l,p∈l
 | [],p,h=>h
 | [q],p,h=>h
 |q::r::l,p,h=>by
  rw[rS]at h;split at h
  .exact aA _ (B9 (r::l) p h)
  .rcases aw.1 h with rfl|h
   .exact aq ..
   .exact aA _ (B9 (r::l) p h)
theorem LP:∀{l:bY},Srt aad l->bS (me l)/\∀p,p∈me l↔kC l p.1=some p
 | [],_=>⟨cj,λp=>by simp[me,kC]⟩
 | [q],_=>⟨cB ..,λp=>by
   show p∈[q]↔_
   rw[az,uz]
   by_cases e:q.1=p.1
   .rw[if_pos e];simp[kC,eq_comm]
   .rw[if_neg e];simp only[kC,List.filter_nil,List.getLast?_nil,reduceCtorEq,iff_false]
    rintro rfl;exact e rfl⟩
 |p::q::l,hs=>by
  have b:=aC.1 hs;obtain⟨i,g⟩:=LP (l:=q::l) b.2;rw[rS];by_cases e:q.1=p.1
  .rw[if_pos e]
   refine⟨i,λr=>?_⟩
   rw[g r,uz p];by_cases a:p.1=r.1
   .rw[if_pos a]
    have:kC (q::l) r.1≠none:=by
     rw[uz,if_pos (e.trans a)];simp
    cases hl:kC (q::l) r.1 with
    |none=>exact absurd hl this
    |some z=>simp
   .rw[if_neg a]
  .rw[if_neg e]
   have d:∀r∈q::l,kl p.1 r.1:=λr f=>by
    have c:kl p.1 q.1:=by
     have:=of_decide_eq_false (b.1 q (aq ..));exact mf this e
    rcases aw.1 f with rfl|f
    .exact c
    .have:=of_decide_eq_false ((aC.1 b.2).1 r f)
     by_cases a:r.1=q.1
     .rw[a];exact c
     .exact dX c (mf this a)
   refine⟨aC.2 ⟨λr f=>d r (B9 _ r f),i⟩,λr=>?_⟩
   rw[aw,g r,uz p];by_cases a:p.1=r.1
   .rw[if_pos a]
    have k:kC (q::l) r.1=none:=Sm λz m j=>by
     have:=d z m;rw[j,a]at this;exact bX _ this
    rw[k];simp[eq_comm]
   .rw[if_neg a]
    constructor
    .rintro(rfl|h)
     .exact absurd rfl a
     .exact h
    .exact .inr
theorem Sk{ys:bY}(h:St aad l ys):me ys=OY l:=by
 obtain⟨a,b⟩:=LP h.srt;refine xo a (Lp l) λp=>?_
 rw[b p,Uk,Yh h.eqf]
theorem adu(M:dx):Cmp aad dT M (λ_=>True) (.func (.func 321) #[] #[]):=by
 refine⟨λa b h K _ e=>HV.mk' (dg (yV a b) .nil Tryz.func321 Tryz.call321 ?_),λ_ h=>h⟩
 dsimp only[yV,qD,mH,bo,fY,r7,AO];refine aQ λi b1 k1=>aQ λg b2 c=>?_
 have c1:=c.get0 b1;refine⟨a.1,vc c1 0,a.2,vc c1 1,b.1,vc b2 0,?_⟩;refine Pw λd f=>e d _ ((k1.tr c).tr f) ?_
 unfold xy aad;split
 .rename_i h;rw[decide_eq_true h];rfl
 .rename_i h
  rw[decide_eq_false h];split<;>rfl
theorem IH:∀(l:bY),(me l).length<=l.length
 | []=>aj _
 | [_]=>aj _
 |p::q::l=>by
  rw[rS];have:=IH (q::l);split
  .simp only[av]at this⊢;omega
  .simp only[av]at this⊢;omega
theorem XF{t:TypeId}{p:Pr}{k:dO}(b:∀h',h'[h.size]? =some (.cells #[.string p.1,.string p.2] t (0,0))->Upd No h h'->k h'):
 At (hnew h [.string (⟨#[]⟩:c6),.string (⟨#[]⟩:c6)] t) (λa=>qV a (some (aR h)) 0 [.string p.1,.string p.2]/\At (fS a (aR h) 0 [.string p.1,.string p.2]) k):=ux (p:=p) b
theorem Rp{N:Nat}(st:StP N)(hN:N<=100000000)(hs:Sl dT 2 W h s l)(hW':∀y,W' y->y<h.size)(hn:l.length<=N)
  (hk:∀s' h',Sl dT 2 W' h' s' (OY l)->s'.len<=s'.cap->Upd No h h'->K s' h'):ce 311 [.slice s.a s.len s.cap] K h:=by
 refine dg (Bx s) Lc Tryz.func311 Tryz.call311 ?_;dsimp only[Bx,cz,nv,kF,mc,Fb,fj,cM,jX,mH,bo,nV,Jv,BE,fY];refine xz hs a4 λE h1 Z B=>?_
 refine st abQ (adu _) Z trivial a4 λh2 ys w z X=>?_
 have hyl:=z.eqf.len;have D:Upd No h h2:=B.trans X λx hx=>.inr hx
 have hlen:=w.len;have o:=Sk z;have z1:=B.size;have hll:=IH ys;refine ez (λ(g:bY×bY×bY) (t:Int×Int) h'=>t.1=(g.1.length:Int)/\t.2=((g.1.length+g.2.1.length:Nat):Int)/\g.1++me g.2.2=me ys/\g.1.length+g.2.1.length+g.2.2.length=ys.length/\OwnS dT 2 33 (λb=>h.size<=b) h' E (g.1++(g.2.1++g.2.2))/\Upd No h h') (λg=>g.2.2.length) ([],[],ys)
  ⟨rfl,rfl,rfl,a6,w,D⟩ ?_
 rintro I ⟨R,G,T⟩ ⟨tn,ti⟩ h3 ⟨e1,F,j,k,f,C⟩ hI;(try simp only at e1 F j k f)
 subst e1 F;refine ar (λhlt=>?_) λhge=>?_
 .match T with
  | []=>simp only[bq]at k;omega
  |p::T=>
   simp only[av]at k;have ew:ac .i64 (((R.length+G.length:Nat):Int)+1)=((R.length+G.length+1:Nat):Int):=by rw[dI a4];omega
   (try simp only)
   rw[ew];refine eF (λn' h'=>∃R' G',n'=(R'.length:Int)/\R'.length+G'.length=R.length+G.length+1/\R'++me T=me ys/\OwnS dT 2 33 (λb=>h.size<=b) h' E (R'++(G'++T))/\Upd No h h') (λRj n=>?_) ?_
   .obtain⟨a,J,hv⟩:=Ax f (i:=R.length+G.length) (x:=p) (by rw[bE a4,fc,bE (aj _),im];rfl)
    refine⟨⟨a4,a4⟩,a,J,p.1,hv 0 _ rfl,p.2,hv 1 _ rfl,?_⟩
    refine XF (p:=p) λh4 V k4=>?_
    have d:=f.upd k4 λ_ _ h=>h
    have u:=C.tr k4;refine eF (λt h'=>h'=h4/\(t=true↔∃q v,T=q::v/\q.1=p.1)) (λRk A=>?_) ?_
    .refine ar (λhlt2=>?_) λhge2=>A _ _ ⟨rfl,⟨λh=>(by cases h),λ⟨q,v,e,_⟩=>(by subst e;simp only[av]at k;omega)⟩⟩
     rcases T with _|⟨q,T⟩
     .simp only[bq]at k;omega
     .obtain⟨a',U,hv'⟩:=Ax d (i:=R.length+G.length+1) (x:=q) (by rw[bE a4,show R.length+G.length+1-R.length=G.length+1 by omega,bE a4,fc];rfl)
      refine⟨⟨a4,a4⟩,a',U,q.1,hv' 0 _ rfl,p.1,vc V 0,A _ _ ⟨rfl,?_⟩⟩
      rw[dZ,decide_eq_true_iff];exact⟨λe=>⟨q,T,rfl,e⟩,λ⟨q',v,e,e'⟩=>by cases e;exact e'⟩
    .rintro t h5 ⟨rfl,ht⟩
     .cases t with
      |true=>
       obtain⟨q,v,rfl,eq⟩:=ht.1 rfl;refine ay.2 (n _ _ ⟨R,G++ [p],rfl,a9,?_,by simpa using d,u⟩)
       rw[<-j,rS,if_pos eq]
      |false=>
       have H:me (p::T)=p::me T:=by
        rcases T with _|⟨q,v⟩
        .rfl
        .rw[rS,if_neg λe=>by have:=ht.2 ⟨q,v,rfl,e⟩;cases this]
       refine ag.2 ⟨p.1,vc V 0,p.2,vc V 1,⟨a4,a4⟩,a,J,?_⟩
       have L:ac .i64 ((R.length:Int)+1)=((R++ [p]).length:Int):=by rw[ae,aG,dI a4];omega
       rw[L];rcases G with _|⟨g,G⟩
       .rw[cS]at d
        refine wK d p J a6 λh6 Y k6=>n _ _ ⟨R++ [p],[],rfl,a6,?_,by simpa using Y,u.trans k6 λb hb=>.inr hb⟩
        rw[<-j,H];simp
       .have f1:R++((g::G)++p::T)=R++g::(G++p::T):=by simp
        rw[f1]at d;refine wK d p J a6 λh6 Y k6=>n _ _ ⟨R++ [p],G++ [p],rfl,a9,?_,by simpa using Y,u.trans k6 λb hb=>.inr hb⟩
        rw[<-j,H];simp
   .rintro n' h6 ⟨R',G',rfl,O,S,Q,P⟩
    exact hI (R',G',T) _ _ ⟨rfl,by(try simp only);rw[O],S,by(try simp only);omega,Q,P⟩ a6
 .have H:T= []:=aK.1 a4
  subst H;simp only[bq]at k;simp only[me,aX]at j f;have hcap:=f.cap;refine⟨⟨by(try simp only);omega,by(try simp only);omega⟩,?_⟩
  have hsl:=f.sl (W:=W') λx hx _ hw=>by have:=hW' x hw;omega
  have hA:=Sl.sub hsl (l:=0) (hi:=R.length) (m:=E.cap) (c:=E.cap-0) (aJ _) a6 a4;have F:((R++G).drop 0).take (R.length-0)=OY l:=by rw[List.drop_zero,Nat.sub_zero,iy];exact j.trans o
  rw[F]at hA;exact hk _ _ hA (by(try simp only);omega) C
theorem Vf(b:Sl dT 2 W h s l)(a:∀y,W' y->y<h.size)(d:l.length<=10000000)
 (c:∀s' h',Sl dT 2 W' h' s' (OY l)->s'.len<=s'.cap->Upd No h h'->K s' h'):ce 311 [.slice s.a s.len s.cap] K h:=Rp stP (aj _) b a a4 c
theorem XH{β:Type}{g:Nat->Option β}{n:Nat}{y:β}:y∈fm g n↔∃c,c<n/\g c=some y:=by
 unfold fm;rw[List.mem_filterMap];exact⟨λ⟨c,b,a⟩=>⟨c,fW.1 b,a⟩,λ⟨c,b,a⟩=>⟨c,fW.2 b,a⟩⟩
def wl(x:Hs):Nat->bY->bY
 |0,l=>l
 |m+1,l=>iV x (12-m) l++(j9 x (12-m) l).flatMap (wl x m)
theorem MM(x:Hs)(m:Nat)(l:bY):wl x (m+1) l=iV x (12-m) l++(j9 x (12-m) l).flatMap (wl x m):=rfl
theorem Ix{x:Hs}{p:Pr}:∀(m:Nat) {l:bY},p∈wl x m l↔p∈l
 |0,_=>ug
 |m+1,l=>by
  rw[MM,aN,List.mem_flatMap];constructor
  .rintro(h|⟨L,d,h⟩)
   .exact qP h
   .obtain⟨_,c,rfl⟩:=nN d
    exact(mV.1 ((Ix m).1 h)).1
  .intro h
   have hm:p∈part x (12-m) (ck x (12-m) p.1) l:=mV.2 ⟨h,rfl⟩;have hc:=zS x (12-m) p.1;rcases d:part x (12-m) (ck x (12-m) p.1) l with _|⟨a,_|⟨b,r⟩⟩
   .rw[d]at hm;cases hm
   .left
    rw[d]at hm;rw[az.1 hm];unfold iV;exact XH.2 ⟨_,hc,by show iP (part x (12-m) (ck x (12-m) p.1) l)=_;rw[d];rfl⟩
   .right
    refine⟨a::b::r,?_,(Ix m).2 (by rw[<-d];exact hm)⟩;unfold j9;exact XH.2 ⟨_,hc,by show iu (part x (12-m) (ck x (12-m) p.1) l)=_;rw[d];rfl⟩
theorem PZ{f:bY->bY}(h:∀l,(f l).length<=l.length):∀ls:List bY,(ls.flatMap f).length<=ls.flatten.length
 | []=>aj _
 |l::ls=>by
  have a:=h l;have b:=PZ h ls;rw[aL,List.flatten_cons,ae,ae];omega
theorem MN(x:Hs):∀(m:Nat) (l:bY),(wl x m l).length<=l.length
 |0,_=>aj _
 |m+1,l=>by
  rw[MM,ae];have b:=xm x (12-m) l;have a:=PZ (MN x m) (j9 x (12-m) l);omega
theorem abA(b:bS l):OY (wl x m l)=l:=by
 refine xo (Lp _) b λp=>?_
 rw[Uk];constructor
 .intro h;exact(Ix m).1 (LQ h)
 .intro h
  have c:p∈(wl x m l).filter λq=>decide (q.1=p.1):=bV.2 ⟨(Ix m).2 h,decide_eq_true rfl⟩
  have a:kC (wl x m l) p.1≠none:=by
   unfold kC;intro e;rw[List.getLast?_eq_none_iff]at e;rw[e]at c;cases c
  cases hl:kC (wl x m l) p.1 with
  |none=>exact absurd hl a
  |some q=>
   have d:=VO hl;have g:=(Ix m).1 (LQ hl);have f:(p.1,q.2)∈l:=by rw[<-d];exact g
   have i:=H9 b (k:=p.1) (v:=p.2) (w:=q.2) h f;rw[Prod.ext d i.symm]
def cw(x:Hs):Nat->bY->Nat
 |0,_=>2
 |m+1,l=>2+((j9 x (12-m) l).map (cw x m)).sum
structure Fr where
 sp:fD
 sk:fD
 n:Nat
 ps:bY
 ks:List (Nat×bY)
abbrev WF(v:fD×fD):c4:= [sv v.1,sv v.2]
theorem X7(x:fD×fD):(WF x).length=2/\0<2:=⟨rfl,a4⟩
def Fr.raw(f:Fr):fD×fD:=(f.sp,f.sk)
def Fr.rem(x:Hs)(f:Fr):bY:=f.ps++f.ks.flatMap λk=>wl x (f.n-1) k.2
def Fr.cost(x:Hs)(f:Fr):Nat:=1+(f.ks.map λk=>cw x (f.n-1) k.2).sum
def EM(x:Hs)(l:List Fr):bY:=l.reverse.flatMap (Fr.rem x)
def F8(x:Hs)(l:List Fr):Nat:=(l.map (Fr.cost x)).sum
theorem Aw(x:Hs)(l:List Fr)(f:Fr):EM x (l++ [f])=f.rem x++EM x l:=by unfold EM;rw[List.reverse_append];rfl
theorem Cg(x:Hs)(l:List Fr)(f:Fr):F8 x (l++ [f])=F8 x l+f.cost x:=by unfold F8;rw[cC,j4];simp
abbrev PI(k:Nat×bY):aT:=some ⟨k.1,0,none⟩
structure Fr.Ok(W G:dx)(x:Hs)(h:ad)(f:Fr):Prop where
 p:Sl dT 2 (λy=>¬G y) h f.sp f.ps
 k:Sl qO 1 (λy=>¬G y) h f.sk (f.ks.map PI)
 pc:f.sp.len<=f.sp.cap
 kc:f.sk.len<=f.sk.cap
 t:∀k∈f.ks,TrieAt W x h (f.n-1) k.1 k.2/\k.2.length<=100000
 n0:f.ks≠[]->0<f.n
 n13:f.n<=13
theorem Fr.Ok.upd{f:Fr}(o:f.Ok W G x h)(k:Upd M h h')(d:∀b,M b->W b\/h.size<=b)(c:∀b,M b->¬G b\/h.size<=b):f.Ok W G x h':=
 ⟨o.p.upd k c,o.k.upd k c,o.pc,o.kc,λq a=>⟨TrieAt.updM k d (o.t q a).1,(o.t q a).2⟩,o.n0,o.n13⟩
theorem Fr.Ok.sub{G':dx}{f:Fr}(o:f.Ok W G x h)(c:∀b,G b->G' b):f.Ok W G' x h:=
 ⟨o.p.less λb hb=>.inl λa=>hb (c b a),o.k.less λb hb=>.inl λa=>hb (c b a),o.pc,o.kc,o.t,o.n0,o.n13⟩
abbrev adt(s:fD)(d:Int):Array Value:= #[sv s,.int .i64 d]
structure CurW(W G C:dx)(x:Hs)(h:ad)(cb:Nat)(fs:List Fr):Prop where
 ex:∃s d,h[cb]? =some (.cells (adt s d) 418 (0,0))/\OwnS WF 2 414 C h s (fs.map Fr.raw)
 ok:∀f∈fs,f.Ok W G x h
 lt:∀b,(C b\/G b)->b<h.size
 dj:∀b,G b->¬C b/\b≠cb
 cc:¬C cb
 cw:(∀b,C b->W b)/\W cb
 lv:fs.Pairwise λf g=>g.n<f.n
theorem CurW.upd{C:dx}{e:Nat}{g:List Fr}(c:CurW W G C x h e g)(k:Upd M h h')(n:∀b,M b->W b\/h.size<=b)(q:∀b,C b->¬M b)(o:∀b,G b->¬M b)(a:¬M e):CurW W G C x h' e g:=by
 obtain⟨s,d,p,j⟩:=c.ex;exact⟨⟨s,d,k.get p a,j.upd k q⟩,λf m=>(c.ok f m).upd k n λb hb=>.inl λi=>o b i hb,λb hb=>aD (c.lt b hb) k.size,c.dj,c.cc,c.cw,c.lv⟩
theorem XL:∀{a:List Fr} {n:Nat},a.Pairwise (λf g=>g.n<f.n)->(∀f∈a,f.n<=n)->a.length<=n+1
 | [],_,_,_=>aJ _
 |f::a,n,b,hn=>by
  have b:=aC.1 b;have d:=hn f (aq ..);rcases a with _|⟨g,a⟩
  .simp
  .have c:=b.1 g (aq ..)
   have:=XL (n:=f.n-1) b.2 λg c=>by have:=b.1 g c;omega
   rw[av];omega
theorem TV{α:Type}{f:α->c4}{sz:Nat}{t:TypeId}{P Q:List α}{x y:α}{j:Nat}{v:Value}(k:OwnS f sz t M h s (P++x::Q))(E:j<sz)(A:f y=(f x).set j v){a:Addr}(u:s.a=some a){i:Nat}(hi:i=P.length){G:dO}(w:∀h',OwnS f sz t M h' s (P++y::Q)->Upd M h h'->G h'):
  Wr h (adr (adr a (i*sz)) j)/\At (hset h (adr (adr a (i*sz)) j) v) G:=by
 subst hi;have q:=k.ne;have d:=k.len;have g:=k.cap;rcases k.blk with F|⟨b,c,e,hb,hc,C⟩
 .rw[ae,av]at d;omega
 rw[u]at e;cases e;have H:(P.flatMap f).length=P.length*sz:=kg q P;rw[bI,aL]at hc;have D:=(q x).1;have B:adr (adr ⟨b,0,none⟩ (P.length*sz)) j=⟨b,P.length*sz+j,none⟩:=by rw[bZ,bZ,Nat.zero_add]
 rw[B];have n:P.length*sz+j<(P.flatMap f++(f x++Q.flatMap f)++c).toArray.size:=by
  simp only[List.size_toArray,ae];omega
 refine⟨fk hc n,zV hc λh' o p=>w h' ⟨by rw[d];simp,q,g,.inr ⟨b,c,u,hb,?_,C⟩⟩ (p.mono λz m=>.inl (by have m:z=b:=m;rw[m];exact hb))⟩
 rw[o];congr 3
 rw[bI,aL,A];apply Array.toList_inj.1;rw[Array.toList_setIfInBounds];simp only[au];rw[List.set_append_right _ _ a4,show P.length*sz+j-(P.flatMap f).length=j by omega,List.set_append_left _ _ a4]
theorem LS{W:dx}{x:Hs}{h:ad}{m:Nat}:∀{ks:List aT} {ls:List bY},KidsAt W x h m ks ls->∃q:List (Nat×bY),ks=q.map PI/\ls=q.map (·.2)/\∀k∈q,TrieAt W x h m k.1 k.2
 | [],[],_=>⟨[],rfl,rfl,λk b=>by cases b⟩
 |_::_,[],h=>h.elim
 | [],_::_,h=>h.elim
 |k::ks,l::ls,b=>by
  obtain⟨⟨g,e,t⟩,f⟩:=b;obtain⟨q,i,d,c⟩:=LS f;refine⟨(g,l)::q,by rw[e,i];rfl,by rw[d];rfl,λk' a=>?_⟩
  rcases aw.1 a with rfl|a
  .exact t
  .exact c k' a
theorem Li{b:Nat}(t:TrieAt W x h m b l)(hm:m<=13)(Q:l.length<=100000){K:fD×fD->dO}
  (w:∀h' f,f.n=m->Fr.rem x f=wl x m l->f.cost x+1=cw x m l->f.Ok W (λy=>h.size<=y/\y<h'.size) x h'->Upd No h h'->K f.raw h'):XZ 329 [gZ b] K h:=by
 refine Mr (some ⟨b,0,none⟩) ?_;unfold Fm dE AN dK WH;refine aQ λj b1 k1=>?_
 have S:=TrieAt.upd0 k1 (TrieAt.less (W':=Pro W h j) Pro.hm t);obtain⟨d,n,sp,sk,U,ow,C,q,hb,u,o,Y,hq,N,Z,z,J⟩:∃d n sp sk U ow C,∃q:List (Nat×bY),j[b]? =some (.cells (eZ d n sp sk U ow) 324 (0,0))/\Sl dT 2 (Pro W h j) j sp C/\Sl qO 1 (Pro W h j) j sk (q.map PI)/\C.length<=100000/\q.length<=32/\(C++q.flatMap λk=>wl x (m-1) k.2)=wl x m l/\2+(q.map λk=>cw x (m-1) k.2).sum=cw x m l/\(∀k∈q,TrieAt (Pro W h j) x j (m-1) k.1 k.2/\k.2.length<=100000)/\(q≠[]->0<m):=by
  cases m with
  |zero=>
   obtain⟨sp,sk,ow,hb,u,o,_⟩:=BuckAt.ex S;exact⟨0,0,sp,sk,true,ow,l,[],hb,u,o,Q,a6,by simp[wl],by simp[cw],λk w=>(by cases w),λh=>absurd rfl h⟩
  |succ m=>
   obtain⟨s,nd,F⟩:=S;have F:∀c,c<32->SlotIs (Pro W h j) x j m s c (part x (12-m) c l):=F;obtain⟨d,n,sp,sk,ow,hb,bits,u,o,_⟩:=nd.ex;have I:=Nw (W:=Pro W h j) (x:=x) (h:=j) (m:=m) (lev:=12-m) (s:=s) (l:=l) 32 F;obtain⟨q,R,D,e3⟩:=LS I;have D:j9 x (12-m) l=q.map (·.2):=D
   have B:=Hf F;have hsl:=xm x (12-m) l;have T:=zI (g:=s.k);have X:q.length=(fm s.k 32).length:=by rw[R,bP]
   refine⟨d,n,sp,sk,false,ow,fm s.p 32,q,hb,u,by rw[<-R];exact o,by rw[B];omega,a4,?_,?_,λk w=>⟨e3 k w,?_⟩,λ_=>Nat.succ_pos _⟩
   .rw[MM,B,D,List.flatMap_map];rfl
   .show _=2+_
    rw[D,List.map_map];rfl
   .have:k.2∈j9 x (12-m) l:=by rw[D];exact be.2 ⟨k,w,rfl⟩
    obtain⟨_,c,hc⟩:=nN this;rw[hc];exact aO jw Q
 refine p9 hb u a4 λH h2 A i=>?_
 refine Ho (i.get0 hb) (o.upd i λ_ h=>h.elim) (by rw[bP];omega) λO h3 E v=>?_
 have b3:=v.get0 (i.get0 b1);have z1:=k1.size;have z2:=i.size;have z3:=v.size;have zb:=bB b1;refine co (c:= [.slice none 0 0,.slice none 0 0]) (vs:= [sv H,sv O]) b3 rfl λV P p=>?_
 refine⟨H,vc P 0,O,vc P 1,?_⟩;have z4:=p.size;have L:Upd No h V:=((k1.tr i).tr v).own p (aj _);refine w V ⟨H,O,m,C,q⟩ rfl N (by unfold Fr.cost;simp only;omega) ⟨?_,?_,A.cap,E.cap,λk w=>⟨TrieAt.less (W:=Pro W h j) (λy a=>.inl (.inl a)) (TrieAt.updM (M:=(· =h.size)) p (λy a=>.inl (.inr (by have a:y=h.size:=a;omega))) (TrieAt.upd0 (i.tr v) (z k w).1)),(z k w).2⟩,J,hm⟩ L
 .exact(((A.upd v λ_ _ h=>h).within).upd p λy a e=>by have e:y=h.size:=e;have:=a.1;omega).sl λy a _ G=>G ⟨by have:=a.1;omega,by have:=a.2;omega⟩
 .exact(E.within.upd p λy a e=>by have e:y=h.size:=e;have:=a.1;omega).sl λy a _ G=>G ⟨by have:=a.1;omega,by have:=a.2;omega⟩
theorem YM{so:fD}{out:List (fD×fD)}{p:fD×fD}(c:OwnS WF 2 414 M h so out)(hM:∀b,h.size<=b->M b)(g:out.length+1<=1000000000)
  (f:∀s' h',OwnS WF 2 414 M h' s' (out++ [p])->Upd M h h'->K s' h'):
  ∃xs,SRow (hnew h (WF p) 414) (some (aR h)) (1*2) xs/\AppP (some [.slice none 0 0,.slice none 0 0]) 2 48 414 so.a so.len so.cap 1 xs (hnew h (WF p) 414) K:=by
 have k:=e9 No h (WF p) 414;have e:OwnS WF 2 414 (λ_=>True) (hnew h (WF p) 414) ⟨some (aR h),1,1⟩ [p]:=⟨rfl,X7,aj _,.inr ⟨h.size,[],rfl,trivial,cf ..,rfl⟩⟩
 refine⟨_,(e.sl (W:=No) λ_ _ _ h=>h).srow,?_⟩
 refine AppP.own (ys:= [p]) (c.upd k λ_ _ h=>h) rfl rfl rfl rfl a4 (by simp only[aG];omega) (hM _ (by rw[dS];omega)) λs' h' a d=>?_
 exact f s' h' a ((e9 M h _ _).tr d)
set_option maxHeartbeats 2000000 in
theorem Oy{G0 C0:dx}{H:Nat}{X:List Fr}(cur:CurW W G0 C0 x h H X)(hW0:∀b,h.size<=b->W b){K:(c6×c6)×Bool->dO}
  (hn:∀h',EM x X= []->Upd (λb=>C0 b\/b=H) h h'->K (((⟨#[]⟩:c6),(⟨#[]⟩:c6)),false) h')
  (hs:∀h' t p R G' C',EM x X=p::R->EM x t=R->CurW W G' C' x h' H t->(∀b,C' b->C0 b\/h.size<=b)->(∀b,G' b->G0 b\/h.size<=b)->Upd (λb=>C0 b\/b=H) h h'->K (p,true) h'):
  IQ 325 [gZ H] K h:=by
 refine dg (uN (some ⟨H,0,none⟩)) Cv Tryz.func325 Tryz.call325 ?_;dsimp only[uN,cM,dE,nv,bR,dd,kF,mc,Z0,WH,cJ,jX,fj,mH,bo,wV,G7,cz,ix,nV,Ob,AS,sM];refine aQ λh1 b1 k1=>ag.2 ?_
 have z1:=bB b1;obtain⟨s00,d00,hc0,_⟩:=cur.ex;have zc:=bB hc0;have s1:=k1.size;have cur1:=cur.upd k1 (λ_ h=>h.elim) (λ_ _ h=>h) (λ_ _ h=>h) λh=>h
 refine ez (λ(g:List Fr×(dx)×(dx)) (_:Unit) h'=>CurW W g.2.1 g.2.2 x h' H g.1/\EM x g.1=EM x X/\(∀b,g.2.2 b->(C0 b\/h.size<=b)/\b≠h.size)/\(∀b,g.2.1 b->(G0 b\/h.size<=b)/\b≠h.size)/\h'[h.size]? =some (.cells zPrL.toArray 33 (0,0))/\Upd (λb=>C0 b\/b=H) h h') (λg=>F8 x g.1) (X,G0,C0)
  ⟨cur1,rfl,λb hb=>⟨.inl hb,by have:=cur.lt b (.inl hb);omega⟩,λb hb=>⟨.inl hb,by have:=cur.lt b (.inr hb);omega⟩,b1,k1.wide⟩ ?_
 rintro I ⟨fs,G,C⟩ ⟨⟩ h' ⟨u,J,B,T,bz,hu⟩ hI;(try simp only at u J B T)
 obtain⟨s,d,aZ,O⟩:=u.ex;have hlen:=O.len;rw[bP]at hlen;have hzs:h.size<h'.size:=bB bz;have zcb:=bB aZ;refine⟨_,rfl,s,vc aZ 0,?_⟩;refine ar (λhpos=>?_) λhnp=>?_
 .obtain⟨t,f,rfl⟩:∃t f,fs=t++ [f]:=by
   rcases NN fs with rfl|⟨l',y,e⟩
   .simp only[bq]at hlen;omega
   .exact⟨l',y,e⟩
  rw[cC,cn,fZ]at O;rw[ae,aG]at hlen;have h14:=XL (n:=13) u.lv λf hf=>(u.ok f hf).n13
  rw[ae,aG]at h14;have eidx:ac .i64 ((s.len:Int)-1)=((t.length:Nat):Int):=by rw[dI a4];omega
  obtain⟨a,ha,hv⟩:=mw O (i:=t.length) (by rw[bP]);have Y:=u.ok f (cA _ (az.2 rfl));have hpl:=Y.p.len;have U:=Y.k.len;rw[bP]at U;have hpc:=Y.pc;have hkc:=Y.kc;have hcap:=O.cap;refine⟨_,rfl,s,vc aZ 0,_,rfl,s,vc aZ 0,?_⟩;rw[eidx];refine⟨⟨a4,a4⟩,a,ha,_,rfl,f.sp,hv 0 _ rfl,?_⟩
  have keep:∀{h2:ad} {M:dx},Upd M h' h2->(∀b,M b->C b\/b=H\/b=h.size\/h'.size<=b)->∀{g:Fr},g.Ok W G x h'->g.Ok W G x h2:=λ{h2 M} k hM {g} o=>o.upd k (λb hb=>by
   rcases hM b hb with h|h|h|h
   .exact .inl (u.cw.1 b h)
   .exact .inl (by rw[h];exact u.cw.2)
   .exact .inl (by rw[h];exact hW0 _ (aj _))
   .exact .inr h) λb hb=>by
   rcases hM b hb with h|h|h|h
   .exact .inl λL=>(u.dj b L).1 h
   .exact .inl λL=>(u.dj b L).2 h
   .exact .inl λL=>(T b L).2 h
   .exact .inr h
  have P:=cE.1 u.lv;have hrs:=Aw x t f;have hcs:=Cg x t f;refine ar (λhp=>?_) λhp=>?_
  .
   rcases N:f.ps with _|⟨p,ps⟩
   .rw[N]at hpl;simp only[bq]at hpl;omega
   have fop:=Y.p;rw[N]at fop hpl;simp only[av]at hpl;obtain⟨ap,hap,_,hvp⟩:=fop.at (i:=0) (x:=p) rfl;refine⟨_,rfl,f.sp,hv 0 _ rfl,⟨a4,a4⟩,ap,hap,p.1,hvp 0 _ rfl,p.2,hvp 1 _ rfl,?_⟩
   refine XF (p:=p) λh8 b8 k8=>?_
   have z8:=bB b8;have hst8:=O.upd k8 λ_ _ h=>h
   obtain⟨a',ha',hv8⟩:=mw hst8 (i:=t.length) (by rw[bP]);rw[ha]at ha';cases ha';refine⟨_,rfl,f.sp,hv8 0 _ rfl,⟨a4,a4⟩,_,rfl,?_⟩
   let Q:Fr:=⟨⟨bj f.sp.a 1 f.sp.cap 2,f.sp.len-1,f.sp.cap-1⟩,f.sk,f.n,ps,f.ks⟩
   refine TV hst8 (y:=Q.raw) (j:=0) a4 rfl ha a6 λh9 ho9 S=>?_
   have c9:=S.get (k8.get0 aZ) u.cc;refine⟨_,rfl,s,vc c9 0,_,rfl,?_⟩;refine oD (i:=1) (c':=adt s (s.len:Int)) c9 (show 1<2 by decide) rfl λh10 c10 w=>?_
   have hCh:∀b,C b->b<h'.size:=λb hb=>u.lt b (.inl hb)
   have b9:=S.get b8 λhx=>by have:=hCh _ hx;omega
   have b10:=w.oth b9 a4;refine⟨_,vc b10 0,_,vc b10 1,?_⟩;have bz10:=w.oth (S.get (k8.get0 bz) λhx=>(B _ hx).2 rfl) a4
   refine co (c:=zPrL) (vs:= [.string p.1,.string p.2]) bz10 rfl λF b11 z=>?_
   refine⟨_,vc b11 0,_,vc b11 1,?_⟩;have c11:=z.oth c10 a4;have v:Upd (λb=>C b\/b=H\/b=h.size\/h'.size<=b) h' F:=((k8.wide.trans S λb hb=>.inl (.inl hb)).trans w λb hb=>.inl (.inr (.inl hb))).trans z λb hb=>.inl (.inr (.inr (.inl hb)))
   have ho11:OwnS WF 2 414 C F s ((t++ [Q]).map Fr.raw):=by
    rw[cC,cn,fZ];exact(ho9.upd w λb hb e=>by have e:b=H:=e;rw[e]at hb;exact u.cc hb).upd z λb hb e=>(B b hb).2 e
   have fo':Q.Ok W G x F:=by
    have o:=keep v (λb hb=>hb) Y
    refine⟨?_,o.k,by show f.sp.len-1<=f.sp.cap-1;omega,o.kc,o.t,o.n0,o.n13⟩
    have op:=o.p;rw[N]at op;have:=Sl.sub op (l:=1) (hi:=(p::ps).length) (m:=f.sp.cap) (c:=f.sp.cap-1) a6 (aj _) (by simp only[av];omega);rw[wZ,vm,bd a6]at this;have e:(p::ps).length-1=f.sp.len-1:=by simp only[av];omega
    rw[e]at this;exact this
   refine hs F (t++ [Q]) p (Q.rem x++EM x t) G C ?_ (Aw x t Q) ⟨⟨s,_,c11,ho11⟩,λg L=>?_,λb hb=>aD (u.lt b hb) v.size,u.dj,u.cc,u.cw,cE.2 ⟨P.1,cB ..,λg L g' D=>by rw[az.1 D];exact P.2.2 g L f (az.2 rfl)⟩⟩ (λb hb=>(B b hb).1) (λb hb=>(T b hb).1) ?_
   .rw[<-J,hrs]
    unfold Fr.rem;rw[N];rfl
   .rcases aN.1 L with L|L
    .exact keep v (λb hb=>hb) (u.ok g (cx _ L))
    .rw[az.1 L];exact fo'
   .refine hu.trans v λb hb=>?_
    rcases hb with h|h|h|h
    .exact(B b h).1.imp .inl id
    .exact .inl (.inr h)
    .exact .inr a4
    .exact .inr a4
  .have N:f.ps= []:=aK.1 a4
   refine⟨_,rfl,f.sk,hv 1 _ rfl,?_⟩;refine ar (λhk=>?_) λhk=>?_
   .
    rcases E:f.ks with _|⟨kd,ks⟩
    .rw[E]at U;simp only[bq]at U;omega
    have fok:=Y.k;rw[E]at fok U;simp only[av]at U;rw[cn]at fok;obtain⟨ap,hap,_,hvp⟩:=fok.at0 (i:=0) (x:=PI kd) rfl;have hfn:0<f.n:=Y.n0 (by rw[E];simp);have hf13:=Y.n13;refine⟨_,rfl,f.sk,hv 1 _ rfl,⟨a4,a4⟩,ap,hap,_,hvp,_,rfl,f.sk,hv 1 _ rfl,⟨a4,a4⟩,_,rfl,?_⟩
    let Q:Fr:=⟨f.sp,⟨bj f.sk.a 1 f.sk.cap 1,f.sk.len-1,f.sk.cap-1⟩,f.n,f.ps,ks⟩
    refine TV O (y:=Q.raw) (j:=1) a4 rfl ha a6 λh8 ho8 A=>?_
    have c8:=A.get aZ u.cc;have V:Upd (λb=>C b\/b=H\/b=h.size\/h'.size<=b) h' h8:=A.mono λb hb=>.inl (.inl hb)
    have s8:=A.size;refine⟨_,rfl,s,vc c8 0,?_⟩;have fo8:=keep V (λb hb=>hb) Y
    obtain⟨tk,hkn⟩:=fo8.t kd (by rw[E];exact aq ..);refine Li tk a4 hkn λh9 g hgn hgr hgc go k9=>?_
    have c9:=k9.get0 c8;have s9:=k9.size;refine⟨vc c9 0,bL ⟨vc ((e9 No h9 (WF g.raw) 414).get0 c9) 0,?_⟩⟩;have hC9:∀b,C b->b<h9.size:=λb hb=>by have:=u.lt b (.inl hb);omega
    refine YM (M:=λb=>C b\/h9.size<=b) (p:=g.raw) ((ho8.upd k9 λ_ _ h=>h).more λb hb=>.inl hb) (λb hb=>.inr hb) (by rw[ae,bP,aG];omega) λaa9 h10 ho10 w=>?_
    have s10':=w.size;have c10:=w.get c9 (by rintro(hx|hx);exact u.cc hx;omega)
    refine⟨_,rfl,?_⟩;refine oD (i:=0) (c':=adt aa9 d) c10 (show 0<2 by decide) rfl λF c11 z=>?_
    have s11:=z.size;have v:Upd (λb=>C b\/b=H\/b=h.size\/h'.size<=b) h' F:=((V.tr k9.wide).trans w λb hb=>hb.elim (λh=>.inl (.inl h)) λh=>.inr a4).trans z λb hb=>.inl (.inr (.inl hb))
    have bz11:=z.oth (w.get (k9.get0 (A.get bz λhx=>(B _ hx).2 rfl)) (by rintro(hx|hx);exact(B _ hx).2 rfl;omega)) a4
    have hGl:∀b,G b->b<h'.size:=λb hb=>u.lt b (.inr hb)
    refine hI (t++ [Q]++ [g],λb=>G b\/(h8.size<=b/\b<h9.size),λb=>(C b\/h9.size<=b)/\b<h10.size) () F ⟨⟨⟨aa9,d,c11,?_⟩,λg' D=>?_,λb hb=>?_,λb hb=>?_,λhb=>?_,⟨λb hb=>?_,u.cw.2⟩,?_⟩,?_,λb hb=>?_,λb hb=>?_,bz11,?_⟩ ?_
    .rw[cC,cC,cn,fZ,cn,fZ]
     exact ho10.within.upd z λb hb e=>by
      have e:b=H:=e;rw[e]at hb;rcases hb.1 with h|h
      .exact u.cc h
      .omega
    .have Z:∀{q:Fr},q.Ok W G x F->q.Ok W (λb=>G b\/(h8.size<=b/\b<h9.size)) x F:=λo=>o.sub λb hb=>.inl hb
     rcases aN.1 D with D|D
     .rcases aN.1 D with D|D
      .exact Z (keep v (λb hb=>hb) (u.ok g' (cx _ D)))
      .rw[az.1 D]
       have o:=keep v (λb hb=>hb) Y
       refine Z ⟨o.p,?_,o.pc,by show f.sk.len-1<=f.sk.cap-1;omega,λq hq=>o.t q (by rw[E];exact aA _ hq),λ_=>hfn,hf13⟩
       have op:=o.k;rw[E,cn]at op;have:=Sl.sub op (l:=1) (hi:=(PI kd::ks.map PI).length) (m:=f.sk.cap) (c:=f.sk.cap-1) a6 (aj _) (by simp only[av,bP];omega);rw[wZ,vm,bd a6]at this;have e:(PI kd::ks.map PI).length-1=f.sk.len-1:=by simp only[av,bP];omega
       rw[e]at this;exact this
     .rw[az.1 D]
      have o1:=go.upd w (λb hb=>hb.elim (λh=>.inl (u.cw.1 b h)) .inr) λb hb=>hb.elim (λh=>.inl λL=>by have:=u.lt b (.inl h);omega) .inr
      have o2:=o1.upd z (λb hb=>.inl (by have hb:b=H:=hb;rw[hb];exact u.cw.2)) λb hb=>.inl λL=>by have hb:b=H:=hb;omega
      exact o2.sub λb hb=>.inr hb
    .rcases hb with hb|hb|hb
     .omega
     .have:=hGl b hb;omega
     .omega
    .refine⟨λhc=>?_,λe=>?_⟩
     .rcases hb with hb|hb
      .rcases hc.1 with h|h
       .exact(u.dj b hb).1 h
       .have:=hGl b hb;omega
      .rcases hc.1 with h|h
       .have:=u.lt b (.inl h);omega
       .omega
     .subst e
      rcases hb with hb|hb
      .exact(u.dj _ hb).2 rfl
      .omega
    .rcases hb.1 with h|h
     .exact u.cc h
     .omega
    .rcases hb.1 with h|h
     .exact u.cw.1 b h
     .exact hW0 b a4
    .refine cE.2 ⟨cE.2 ⟨P.1,cB ..,λq hq q' hq'=>by rw[az.1 hq'];exact P.2.2 q hq f (az.2 rfl)⟩,cB ..,λq hq q' hq'=>?_⟩
     rw[az.1 hq',hgn];rcases aN.1 hq with hq|hq
     .have:=P.2.2 q hq f (az.2 rfl);omega
     .rw[az.1 hq];show f.n-1<f.n;omega
    .rw[Aw,Aw,<-J,hrs,hgr]
     unfold Fr.rem;rw[N,E,aL];simp;rfl
    .refine⟨?_,?_⟩
     .rcases hb.1 with h|h
      .exact(B b h).1
      .exact .inr a4
     .rcases hb.1 with h|h
      .exact(B b h).2
      .omega
    .refine⟨?_,?_⟩
     .rcases hb with h|h
      .exact(T b h).1
      .exact .inr a4
     .rcases hb with h|h
      .exact(T b h).2
      .omega
    .refine hu.trans v λb hb=>?_
     rcases hb with h|h|h|h
     .exact(B b h).1.imp .inl id
     .exact .inl (.inr h)
     .exact .inr a4
     .exact .inr a4
    .show F8 x (t++ [Q]++ [g])<F8 x (t++ [f])
     rw[Cg,Cg,hcs];have e1:f.cost x=Q.cost x+cw x (f.n-1) kd.2:=by
      unfold Fr.cost;rw[E,cn,rF];have e0:(Q.ks.map λk=>cw x (Q.n-1) k.2).sum=(ks.map λk=>cw x (f.n-1) k.2).sum:=rfl
      omega
     omega
   .
    have E:f.ks= []:=aK.1 a4;refine⟨_,rfl,s,vc aZ 0,_,rfl,s,vc aZ 0,?_⟩;rw[eidx];refine⟨⟨a4,a4⟩,?_⟩
    simp only[Bd];refine⟨_,rfl,?_⟩;refine oD (i:=0) (c':=adt ⟨bj s.a 0 s.cap 2,t.length,s.cap⟩ d) aZ (show 0<2 by decide) rfl λh8 c8 A=>?_
    have hpop:=OwnS.pop O;rw[bP]at hpop;have v:Upd (λb=>C b\/b=H\/b=h.size\/h'.size<=b) h' h8:=A.mono λb hb=>.inl (.inr (.inl hb))
    refine hI (t,G,C) () h8 ⟨⟨⟨_,d,c8,hpop.upd A λb hb e=>by have e:b=H:=e;rw[e]at hb;exact u.cc hb⟩,λg L=>keep v (λb hb=>hb) (u.ok g (cx _ L)),λb hb=>aD (u.lt b hb) v.size,u.dj,u.cc,u.cw,P.1⟩,?_,B,T,A.oth bz a4,hu.trans A λb hb=>.inl (.inr hb)⟩ ?_
    .rw[<-J,hrs]
     unfold Fr.rem;rw[N,E];rfl
    .show F8 x t<F8 x (t++ [f])
     rw[hcs];unfold Fr.cost;omega
 .have h0:fs= []:=aK.1 a4
  subst h0;refine⟨_,rfl,?_⟩;refine oD (i:=1) (c':=adt s 0) aZ (show 1<2 by decide) rfl λh8 c8 A=>?_
  refine co (c:=zPrL) (vs:=zPrL) (A.oth bz a4) rfl λh9 b9 S=>?_
  refine⟨_,vc b9 0,_,vc b9 1,hn h9 J.symm ((hu.trans A λb hb=>.inl (.inr hb)).trans S λb hb=>.inr (Nat.le_of_eq (Eq.symm hb)))⟩
def Below(W:dx)(x:Hs)(h:ad)(m:Nat)(r:aT)(l:bY):Prop:=(r=none/\l= [])\/∃b,r=some ⟨b,0,none⟩/\TrieAt W x h m b l
theorem Below.upd0(k:Upd No h h')(t:Below W x h m r l):Below W x h' m r l:=t.imp id λ⟨b,e,t⟩=>⟨b,e,TrieAt.upd0 k t⟩
theorem Below.less(hm:∀b,W' b->W b\/h.size<=b)(t:Below W x h m r l):Below W' x h m r l:=t.imp id λ⟨b,e,t⟩=>⟨b,e,TrieAt.less hm t⟩
theorem Below.updM(k:Upd M h h')(hm:∀b,M b->W b\/h.size<=b)(t:Below W x h m r l):Below W x h' m r l:=t.imp id λ⟨b,e,t⟩=>⟨b,e,TrieAt.updM k hm t⟩
theorem abo(x:Hs):∀m,wl x m []= []
 |0=>rfl
 |m+1=>aK.1 (Nat.le_zero.1 (MN x (m+1) []))
theorem QZ(t:Below W x h m r l)(hm:m<=13)(n:l.length<=100000){K:fD×fD->dO}
  (a:∀h' f,Fr.rem x f=wl x m l->f.Ok W (λy=>h.size<=y/\y<h'.size) x h'->Upd No h h'->K f.raw h'):XZ 329 [.pointer r] K h:=by
 rcases t with⟨rfl,rfl⟩|⟨b,rfl,t⟩
 .refine Mr none ?_
  unfold Fm dE AN dK WH;refine aQ λo b1 k1=>?_
  refine vL none ?_;dsimp only[qg,zd,bR,cJ];refine ay.2 (xI none ?_);dsimp only[qY,bR,cJ];refine ay.2 ?_;refine co (c:= [.slice none 0 0,.slice none 0 0]) (vs:= [.slice none 0 0,.slice none 0 0]) b1 rfl λe g d=>?_
  refine⟨⟨none,0,0⟩,vc g 0,⟨none,0,0⟩,vc g 1,?_⟩;refine a e ⟨⟨none,0,0⟩,⟨none,0,0⟩,0,[],[]⟩ ?_ ⟨Sl.nil fP,Sl.nil sH,aj _,aj _,λk a=>(by cases a),λh=>absurd rfl h,aJ _⟩ (k1.own d (aj _))
  rw[abo];rfl
 .exact Li t hm n λh' f _ i _ e j=>a h' f i e j
theorem Q0(t:Below W x h m r l)(hm:m<=13)(s:l.length<=100000)(k:∀y,h.size<=y->W y){K:aT->dO}
  (o:∀h' cb f G C,h.size<=cb->(∀y,G y\/C y->h.size<=y)->CurW W G C x h' cb [f]->f.rem x=wl x m l->Upd No h h'->K (some ⟨cb,0,none⟩) h'):fu 324 [.pointer r] K h:=by
 refine dg (JE r) .nil Tryz.func324 Tryz.call324 ?_;unfold JE Z0;refine QZ t hm s λa f e u n=>?_
 refine aQ λj b3 c=>aQ λv i d=>?_
 have z:=bB b3;have w:=bB i;have A:=n.size;have B:=c.size;have q:OwnS WF 2 414 (λy=>y=a.size) j ⟨some (aR a),1,1⟩ [f.raw]:=⟨rfl,X7,aj _,.inr ⟨a.size,[],rfl,rfl,b3,rfl⟩⟩
 refine o v j.size f (λy=>h.size<=y/\y<a.size) (λy=>y=a.size) a4 (λy b=>by rcases b with h|h<;>omega) ⟨⟨_,0,i,q.upd d λ_ _ h=>h⟩,λg p=>?_,λy b=>by rcases b with h|h<;>omega,λy b=>⟨a4,a4⟩,a4,⟨λy b=>k y a4,k _ a4⟩,cB ..⟩ e ((n.tr c).tr d)
 rw[az.1 p];exact u.upd (c.tr d) (λ_ h=>h.elim) λ_ h=>h.elim
theorem Q1(t:Below W x h m r l)(hm:m<=13)(hn:l.length<=100000){K:Value->dO}
  (hk:∀fv h',Gives PG fv ab0 l.length (λxs=>xs=wl x m l) (λy=>y<h'.size) h'->Upd No h h'->K fv h'):VT 313 [.pointer r] K h:=by
 refine dg (JF r) .nil Tryz.func313 Tryz.call313 ?_;unfold JF;refine aQ λz b1 k1=>?_
 have z1:=bB b1;refine hk _ z ?_ k1;have t1:=Below.less (W':=λy=>z.size<=y) (λy a=>.inr a) (Below.upd0 k1 t)
 have hwl:=MN x m l;refine⟨λy a=>a,323,#[],_,rfl,λy J A M S K' ht hj hu hq ha hk'=>?_⟩
 refine K4 y (aR h) ?_;dsimp only[yC,nv,qD,AO,mc,mH,bo];have d1:=hu.get b1 (hq _ z1);have s4:=hu.size;have t4:Below (λy=>z.size<=y) x S m r l:=Below.updM hu (λy a=>.inl (by
  rcases ci y z.size with H|H
  .exact absurd a (hq y H)
  .exact H)) t1
 refine⟨_,bw d1,?_⟩;refine Q0 t4 hm hn (λy a=>aO s4 a) λh5 Y f G C hcb O cur hfr k5=>?_
 have k:=ht.lt _ _ _ hj;have hA3:∀y,A y->z.size<=y:=λy a=>by
  rcases ci y z.size with H|H
  .exact absurd H (ha y a)
  .exact H
 have s5:=k5.size;have D:EM x [f]=wl x m l:=by rw[<-hfr];simp[EM]
 refine ez (λ(g:bY×List Fr×(dx)×(dx)×(dx)) (_:Unit) h'=>CurW (λy=>z.size<=y) g.2.2.2.1 g.2.2.2.2 x h' Y g.2.1/\J g.1 g.2.2.1 h'/\Upd A S h'/\(∀y,g.2.2.1 y->(A y\/S.size<=y)/\¬g.2.2.2.1 y/\¬g.2.2.2.2 y/\y≠Y)/\(∀y,g.2.2.2.1 y\/g.2.2.2.2 y->S.size<=y)/\g.1++EM x g.2.1=wl x m l/\h5.size<=h'.size) (λg=>(EM x g.2.1).length) ([],[f],A,G,C)
  ⟨cur,ht.keep _ _ _ _ No hj k5 (λ_ _ h=>h),k5.wide,λy a=>⟨.inl a,λhx=>by have:=k y a;have:=O y (.inl hx);omega,λhx=>by have:=k y a;have:=O y (.inr hx);omega,λe=>by have:=k y a;omega⟩,O,by rw[D];rfl,aj _⟩ ?_
 rintro I ⟨pre,fs,A1,G1,C1⟩ ⟨⟩ h' ⟨cu,o,hu',b,i,c,hsz⟩ hI;(try simp only at cu o b i c)
 have B:=ht.lt _ _ _ o;have Z:∀y,A1 y->z.size<=y:=λy a=>(b y a).1.elim (hA3 y) λh=>a4
 have hd:∀y,A1 y->¬(C1 y\/y=Y):=λy a hx=>hx.elim (b y a).2.2.1 (b y a).2.2.2
 have X:∀y,C1 y\/y=Y->S.size<=y:=λy a=>a.elim (λh=>i y (.inr h)) λe=>a4
 refine Oy cu (λy a=>a4) (λh6 hr0 j=>?_) λh6 fs' p R G' C' P hr2 u U V j=>?_
 .have F:=ht.keep _ _ _ _ _ o j hd
  refine ux λT b7 N=>?_
  refine eF (λt q=>t=true/\q=T) (λR hR=>ay.2 (hR _ _ ⟨rfl,rfl⟩)) ?_
  rintro t q ⟨rfl,rfl⟩;refine ay.2 (hk' pre A1 q ?_ (ht.keep _ _ _ _ No F N (λ_ _ h=>h)) ?_ λy a=>(b y a).1)
  .rw[hr0,aX]at c
   exact c
  .exact(hu'.trans j λy a=>.inr (X y a)).tr N.wide
 .have F:=ht.keep _ _ _ _ _ o j hd
  refine ux (p:=p) λT b7 N=>?_
  have hj7:=ht.keep _ _ _ _ No F N (λ_ _ h=>h)
  have cu7:=u.upd N (λ_ h=>h.elim) (λ_ _ h=>h) (λ_ _ h=>h) λh=>h
  have hu47:Upd A S T:=(hu'.trans j λy a=>.inr (X y a)).tr N.wide
  have s6:=j.size;have s7:=N.size;refine eF (λt q=>t=false/\∃Q,J (pre++ [p]) Q q/\Upd A1 T q/\∀y,Q y->A1 y\/T.size<=y) (λR' hR=>?_) ?_
  .refine ag.2 ⟨_,vc b7 0,_,vc b7 1,?_⟩
   refine ht.step pre A1 T p _ hj7 ?_ λq Q L n E=>hR _ _ ⟨rfl,Q,L,n,E⟩
   have:=congrArg eT c;rw[P]at this;simp only[ae,av]at this;omega
  .rintro t q ⟨rfl,Q,L,n,E⟩
   have v:∀y,G' y->¬A1 y:=λy a hx=>(V y a).elim (b y hx).2.1 λh=>by have:=B y hx;omega
   have w:∀y,C' y->¬A1 y:=λy a hx=>(U y a).elim (b y hx).2.2.1 λh=>by have:=B y hx;omega
   have hcb6:Y<h6.size:=by obtain⟨s,d,hx,_⟩:=u.ex;exact bB hx
   refine ag.2 (hI (pre++ [p],fs',Q,G',C') () q ⟨?_,L,?_,λy a=>?_,λy a=>?_,?_,by have:=n.size;omega⟩ ?_)
   .exact cu7.upd n (λy a=>.inl (Z y a)) w v λhx=>(b _ hx).2.2.2 rfl
   .exact hu47.trans n λy a=>(b y a).1
   .rcases E y a with h|h
    .exact⟨(b y h).1,λhx=>v y hx h,λhx=>w y hx h,(b y h).2.2.2⟩
    .exact⟨.inr a4,λhx=>by have:=u.lt y (.inr hx);omega,λhx=>by have:=u.lt y (.inl hx);omega,a4⟩
   .rcases a with a|a
    .rcases V y a with h|h
     .exact i y (.inl h)
     .omega
    .rcases U y a with h|h
     .exact i y (.inr h)
     .omega
   ·(try simp only)
    rw[au,hr2,<-c,P];rfl
   ·(try simp only)
    rw[P,hr2];simp
theorem Kr(t:Below W x h m r l)(hm:m<=13)(q:bS l)(o:l.length<=100000)(c:∀y,W' y->y<h.size)
  (i:∀s' h',Sl dT 2 W' h' s' l->s'.len<=s'.cap->Upd No h h'->K s' h'):ce 292 [.pointer r] K h:=by
 refine dg (Bl r) .nil Tryz.func292 Tryz.call292 ?_;unfold Bl;refine Q1 t hm o λv z j f=>?_
 refine Qb j a4 λA w xs e k d=>?_
 subst e;have s:=MN x m l;refine Vf (W':=W') (k.sl (W:=No) λ_ _ _ h=>h) (λy n=>aD (c y n) (f.tr d).size) a4 λg u a b p=>?_
 rw[abA q]at a;exact i g u a b ((f.tr d).tr p)
end
section
open Go.Lift
variable {a b:Pr}{A B:bY}
abbrev Ch:=c6×c6×c6×Bool×Bool
abbrev Km(c:Ch):c4:= [.string c.1,.string c.2.1,.string c.2.2.1,.bool c.2.2.2.1,.bool c.2.2.2.2]
def KM(p:Pr):Ch:=(p.1,p.2,⟨#[]⟩,true,false)
def Zj(p:Pr):Ch:=(p.1,⟨#[]⟩,p.2,false,true)
def iU:bY->bY->List Ch
 | [],B=>B.map Zj
 |a::A,[]=>KM a::iU A []
 |a::A,b::B=>if kl a.1 b.1 then KM a::iU A (b::B)else if kl b.1 a.1 then Zj b::iU (a::A) B else if a.2=b.2 then iU A B else(a.1,a.2,b.2,true,true)::iU A B
termination_by A B=>A.length+B.length
theorem jz(B:bY):iU [] B=B.map Zj:=by unfold iU;rfl
theorem xA:∀A:bY,iU A []=A.map KM
 | []=>by rw[jz];rfl
 |a::A=>by unfold iU;rw[xA A];rfl
theorem rW(a b:Pr)(A B:bY):iU (a::A) (b::B)=if kl a.1 b.1 then KM a::iU A (b::B)else if kl b.1 a.1 then Zj b::iU (a::A) B else if a.2=b.2 then iU A B else(a.1,a.2,b.2,true,true)::iU A B:=by
 conv=>lhs;unfold iU
theorem XQ{a b:c6}(h:kl a b):¬kl b a:=λk=>bX _ (dX h k)
theorem uG:∀{B:bY},(∀q∈B,kl a.1 q.1)->iU (a::A) B=KM a::iU A B
 | [],_=>by rw[xA,xA];rfl
 |b::B,h=>by rw[rW,if_pos (h b (aq ..))]
theorem uF:∀{A:bY},(∀q∈A,kl b.1 q.1)->iU A (b::B)=Zj b::iU A B
 | [],_=>by rw[jz,jz];rfl
 |a::A,h=>by
  have h:=h a (aq ..);rw[rW,if_neg (XQ h),if_pos h]
theorem DB:∀A:bY,iU A A= []
 | []=>by rw[jz];rfl
 |a::A=>by rw[rW,if_neg (bX _),if_neg (bX _),if_pos rfl,DB A]
def zT(a b:Pr):List Ch:=if a.2=b.2 then[]else[(a.1,a.2,b.2,true,true)]
theorem uE(e:a.1=b.1)(A B:bY):iU (a::A) (b::B)=zT a b++iU A B:=by
 rw[rW,e,if_neg (bX _),if_neg (bX _)];unfold zT;split
 .rfl
 .rw[<-e];rfl
theorem AG:∀{A B:bY} {c:Ch},c∈iU A B->∃p,p∈A++B/\c.1=p.1
 | [],B,c,h=>by
  rw[jz]at h;obtain⟨p,d,e⟩:=be.1 h;exact⟨p,d,by rw[<-e];rfl⟩
 |a::A,[],c,h=>by
  rw[xA]at h;obtain⟨p,d,e⟩:=be.1 h;exact⟨p,cx _ d,by rw[<-e];rfl⟩
 |a::A,b::B,c,h=>by
  rw[rW]at h;by_cases i:kl a.1 b.1
  .rw[if_pos i]at h
   rcases aw.1 h with h|h
   .exact⟨a,aq ..,by rw[h];rfl⟩
   .obtain⟨p,d,e⟩:=AG h
    exact⟨p,aA _ d,e⟩
  .rw[if_neg i]at h
   by_cases g:kl b.1 a.1
   .rw[if_pos g]at h
    rcases aw.1 h with h|h
    .exact⟨b,cA _ (aq ..),by rw[h];rfl⟩
    .obtain⟨p,d,e⟩:=AG h
     refine⟨p,?_,e⟩;rcases aN.1 d with d|d
     .exact cx _ d
     .exact cA _ (aA _ d)
   .rw[if_neg g]at h
    have f:c∈iU A B->∃p,p∈a::A++b::B/\c.1=p.1:=λh=>by
     obtain⟨p,d,e⟩:=AG h;refine⟨p,?_,e⟩;rcases aN.1 d with d|d
     .exact cx _ (aA _ d)
     .exact cA _ (aA _ d)
    split at h
    .exact f h
    .rcases aw.1 h with h|h
     .exact⟨a,aq ..,by rw[h]⟩
     .exact f h
termination_by A B=>A.length+B.length
theorem oI{P:bY->bY->Prop}(nil:P [] [])(c:∀a A B,bS (a::A)->bS B->(∀q∈B,kl a.1 q.1)->P A B->P (a::A) B)
  (d:∀b A B,bS A->bS (b::B)->(∀q∈A,kl b.1 q.1)->P A B->P A (b::B))(same:∀a b A B,a.1=b.1->bS (a::A)->bS (b::B)->P A B->P (a::A) (b::B)):
  ∀{A B:bY},bS A->bS B->P A B
 | [],[],_,_=>nil
 | [],b::B,hA,hB=>d b [] B hA hB (λ_ h=>absurd h ee) (oI nil c d same hA (aC.1 hB).2)
 |a::A,[],hA,hB=>c a A [] hA hB (λ_ h=>absurd h ee) (oI nil c d same (aC.1 hA).2 hB)
 |a::A,b::B,hA,hB=>by
  have i:=aC.1 hA;have g:=aC.1 hB;by_cases k:kl a.1 b.1
  .refine c a A (b::B) hA hB (λq f=>?_) (oI nil c d same i.2 hB)
   rcases aw.1 f with f|f
   .rw[f];exact k
   .exact dX k (g.1 q f)
  .by_cases j:kl b.1 a.1
   .refine d b (a::A) B hA hB (λq f=>?_) (oI nil c d same hA g.2)
    rcases aw.1 f with f|f
    .rw[f];exact j
    .exact dX j (i.1 q f)
   .have e:a.1=b.1:=Decidable.byContradiction λm=>j (mf k m)
    exact same a b A B e hA hB (oI nil c d same i.2 g.2)
termination_by A B=>A.length+B.length
abbrev Of(l:List Ch):Prop:=l.Pairwise λp q=>kl p.1 q.1
theorem BV(g:bS A)(f:bS B):Of (iU A B):=by
 refine oI (P:=λA B=>Of (iU A B)) ?_ (λa A B g _ h i=>?_) (λb A B _ f h i=>?_) (λa b A B e g f i=>?_) g f
 .rw[jz];exact .nil
 .rw[uG h]
  refine aC.2 ⟨λc hc=>?_,i⟩
  obtain⟨p,d,e⟩:=AG hc;rw[e];rcases aN.1 d with d|d
  .exact(aC.1 g).1 p d
  .exact h p d
 .rw[uF h]
  refine aC.2 ⟨λc hc=>?_,i⟩
  obtain⟨p,d,e⟩:=AG hc;rw[e];rcases aN.1 d with d|d
  .exact h p d
  .exact(aC.1 f).1 p d
 .rw[uE e]
  unfold zT;split
  .exact i
  .refine aC.2 ⟨λc hc=>?_,i⟩
   obtain⟨p,d,j⟩:=AG hc;rw[j];rcases aN.1 d with d|d
   .exact(aC.1 g).1 p d
   .rw[e];exact(aC.1 f).1 p d
theorem S5(g:c6->Bool)(j:bS A)(f:bS B):iU (A.filter λp=>g p.1) (B.filter λp=>g p.1)=(iU A B).filter λc=>g c.1:=by
 refine oI (P:=λA B=>iU (A.filter λp=>g p.1) (B.filter λp=>g p.1)=(iU A B).filter λc=>g c.1) ?_ (λa A B j _ h i=>?_) (λb A B _ f h i=>?_) (λa b A B e j f i=>?_) j f
 .rw[f9,jz];rfl
 .rw[uG h,bf,bf,<-i]
  show iU (if g a.1=true then _ else _) _=if g a.1=true then _ else _
  by_cases d:g a.1=true
  .rw[if_pos d,if_pos d,uG λq k=>h q (bV.1 k).1]
  .rw[if_neg d,if_neg d]
 .rw[uF h,bf,bf,<-i]
  show iU _ (if g b.1=true then _ else _)=if g b.1=true then _ else _
  by_cases d:g b.1=true
  .rw[if_pos d,if_pos d,uF λq k=>h q (bV.1 k).1]
  .rw[if_neg d,if_neg d]
 .rw[uE e,cy,<-i,bf,bf,<-e]
  unfold zT;by_cases d:g a.1=true
  .rw[if_pos d,if_pos d,uE e]
   unfold zT;split
   .rfl
   .rw[bf,if_pos d];rfl
  .rw[if_neg d,if_neg d]
   split
   .rfl
   .rw[bf,if_neg d];rfl
theorem Hy{A2 B2:bY}:∀{A1 B1:bY},bS A1->bS B1->(∀p∈A1,∀q∈A2,kl p.1 q.1)->(∀p∈A1,∀q∈B2,kl p.1 q.1)->(∀p∈B1,∀q∈A2,kl p.1 q.1)->(∀p∈B1,∀q∈B2,kl p.1 q.1)->
  iU (A1++A2) (B1++B2)=iU A1 B1++iU A2 B2:=by
 intro A1 B1 m k;refine oI (P:=λA1 B1=>(∀p∈A1,∀q∈A2,kl p.1 q.1)->(∀p∈A1,∀q∈B2,kl p.1 q.1)->(∀p∈B1,∀q∈A2,kl p.1 q.1)->(∀p∈B1,∀q∈B2,kl p.1 q.1)->iU (A1++A2) (B1++B2)=iU A1 B1++iU A2 B2) ?_ (λa A B m _ h i=>?_) (λb A B _ k h i=>?_) (λa b A B e m k i=>?_) m k
 .intro _ _ _ _;rw[jz];rfl
 .intro g f d j
  rw[cN,uG h,uG (λq n=>(aN.1 n).elim (h q) (f a (aq ..) q)),i (λp c=>g p (aA _ c)) (λp c=>f p (aA _ c)) d j];rfl
 .intro g f d j
  rw[cN,uF h,uF (λq n=>(aN.1 n).elim (h q) (d b (aq ..) q)),i g f (λp c=>d p (aA _ c)) (λp c=>j p (aA _ c))];rfl
 .intro g f d j
  rw[cN,cN,uE e,uE e,i (λp c=>g p (aA _ c)) (λp c=>f p (aA _ c)) (λp c=>d p (aA _ c)) (λp c=>j p (aA _ c)),au]
theorem tW(d:bS A)(c:bS B):(iU A B).length<=A.length+B.length:=by
 refine oI (P:=λA B=>(iU A B).length<=A.length+B.length) ?_ (λa A B d _ h i=>?_) (λb A B _ c h i=>?_) (λa b A B e d c i=>?_) d c
 .rw[jz];exact aj _
 .rw[uG h];simp only[av];omega
 .rw[uF h];simp only[av];omega
 .rw[uE e,ae,av,av]
  have:(zT a b).length<=1:=by unfold zT;split<;>simp
  omega
theorem FR{α:Type}(g:α->Nat)(n:Nat):∀L:List α,((L.filter λx=>decide (g x<n))++L.filter λx=>decide (g x=n)).Perm (L.filter λx=>decide (g x<n+1))
 | []=>.refl _
 |a::L=>by
  have i:=FR g n L;rw[bf,bf,bf];by_cases c:g a<n
  .rw[if_pos (decide_eq_true c),if_neg a9,if_pos a9]
   exact i.cons a
  .by_cases b:g a=n
   .rw[if_neg a9,if_pos (by simpa using b),if_pos a9]
    exact List.perm_middle.trans (i.cons a)
   .rw[if_neg a9,if_neg (by simpa using b),if_neg a9]
    exact i
end
section
open Go.Lift
variable {C W:dx}{h h':ad}{sb:Nat}{x:Hs}{L:List Ch}{s:fD}{l:bY}{t:Tr}{K:fD->dO}
theorem YA(x:Ch):(Km x).length=5/\0<5:=⟨rfl,a4⟩
abbrev adU(x:Hs)(s:fD):Array Value:= #[.int .u64 x.k0,.int .u64 x.k1,.int .u64 x.mask,sv s]
structure SetAt(C:dx)(h:ad)(sb:Nat)(x:Hs)(L:List Ch):Prop where
 ex:∃s,h[sb]? =some (.cells (adU x s) 287 (0,0))/\OwnS Km 5 209 C h s L
 lt:∀b,C b->b<h.size
 ne:¬C sb
theorem SetAt.upd{M:dx}(st:SetAt C h sb x L)(k:Upd M h h')(c:∀b,C b->¬M b)(d:¬M sb):SetAt C h' sb x L:=by
 obtain⟨s,a,e⟩:=st.ex;exact⟨⟨s,k.get a d,e.upd k c⟩,λb hb=>aD (st.lt b hb) k.size,st.ne⟩
theorem SetAt.upd0(st:SetAt C h sb x L)(k:Upd No h h'):SetAt C h' sb x L:=st.upd k (λ_ _ h=>h) λh=>h
abbrev Wo(C:dx)(h:ad)(sb:Nat)(x:Hs)(L:List Ch)(G:dO):Prop:=∀h' C',SetAt C' h' sb x L->(∀b,C' b->C b\/h.size<=b)->Upd (λb=>C b\/b=sb) h h'->G h'
theorem Rw{c:Ch}(st:SetAt C h sb x L)(hb:h[sb]? =some (.cells (adU x s) 287 (0,0))) (n:OwnS Km 5 209 C h s L) (v:L.length+1<=100000000) {G:dO} (p:Wo C h sb x (L++ [c]) G):
  At (hnew h [.string c.1,.string c.2.1,.string c.2.2.1,.bool c.2.2.2.1,.bool c.2.2.2.2] 209) (λf=>aZ f (adr ⟨sb,0,none⟩ 3)=some (.slice s.a s.len s.cap)/\∃xs,SRow f (some (aR h)) (1*5) xs/\
   AppP (some [.string (⟨#[]⟩:c6),.string (⟨#[]⟩:c6),.string (⟨#[]⟩:c6),.bool false,.bool false]) 5 56 209 s.a s.len s.cap 1 xs f (λi j=>∃a:Addr,some (⟨sb,0,none⟩:Addr)=some a/\(Wr j (adr a 3)/\At (hset j (adr a 3) (.slice i.a i.len i.cap)) G))):=by
 refine aQ λf b1 k1=>⟨vc (k1.get0 hb) 3,?_⟩
 have w:=bB b1;have t:=k1.size;have u:=bB hb;have m:OwnS Km 5 209 (λ_=>True) f ⟨some (aR h),1,1⟩ [c]:=⟨rfl,YA,aj _,.inr ⟨h.size,[],rfl,trivial,b1,rfl⟩⟩
 refine⟨_,(m.sl (W:=No) λ_ _ _ h=>h).srow,?_⟩
 refine AppP.own (M:=λb=>C b\/f.size<=b) (ys:= [c]) ((n.upd k1 λ_ _ h=>h).more λ_ h=>.inl h) rfl rfl rfl rfl a4 (by simp only[aG];omega) (.inr (aj _)) λi j k g=>?_
 have b2:=g.get (k1.get0 hb) λh=>h.elim st.ne λh=>a4
 have q:=g.size;refine⟨_,rfl,oD (c':=adU x i) b2 a6 rfl λo b3 d=>?_⟩
 refine p o (λb=>(C b\/f.size<=b)/\b<j.size) ⟨⟨i,b3,(k.within).upd d λb hb e=>?_⟩,λb hb=>aD hb.2 d.size,λhb=>?_⟩ (λb hb=>hb.1.imp id λh=>a4) ?_
 .have e:b=sb:=e
  rw[e]at hb;exact hb.1.elim st.ne λh=>a4
 .exact hb.1.elim st.ne λh=>a4
 .exact((k1.wide.trans g λb hb=>hb.elim (λh=>.inl (.inl h)) λh=>.inr a4).trans d λb hb=>.inl (.inr hb))
theorem TT{p:Pr}(a:Sl dT 2 W h s (p::l))(hc:s.len<=s.cap):Sl dT 2 W h ⟨bj s.a 1 s.cap 2,s.len-1,s.cap-1⟩ l:=by
 have b:=a.len;rw[av]at b;have:=Sl.sub a (l:=1) (hi:=s.len) (m:=s.cap) (c:=s.cap-1) a4 (by rw[av];omega) hc;rw[show((p::l).drop 1).take (s.len-1)=l by rw[List.drop_succ_cons,List.drop_zero];exact bd a4]at this
 exact this
theorem Dg{s':fD}{A B:bY}(st:SetAt C h sb x L)(hs:Sl dT 2 (λb=>C b\/b=sb) h s A)(hs':Sl dT 2 (λb=>C b\/b=sb) h s' B)(hc:s.len<=s.cap)(hc':s'.len<=s'.cap)
  (hn:L.length+A.length+B.length<=100000000){K:Unit->dO}(hk:Wo C h sb x (L++iU A B) (K ())):dQ 254 [gZ sb,.slice s.a s.len s.cap,.slice s'.a s'.len s'.cap] K h:=by
 refine dg (xZ (some ⟨sb,0,none⟩) s s') Fy Tryz.func254 Tryz.call254 ?_;dsimp only[xZ,bR,UY,GL,cJ,wV,fj,cM,ix,dd,Jw,nU,Oc,AS];have hss:=hs.less (W':=λb=>C b\/b=sb\/h.size<=b) λb hb=>hb.elim (λh=>.inl (.inl h)) λh=>h.elim (λh=>.inl (.inr h)) .inr
 have hss':=hs'.less (W':=λb=>C b\/b=sb\/h.size<=b) λb hb=>hb.elim (λh=>.inl (.inl h)) λh=>h.elim (λh=>.inl (.inr h)) .inr
 refine ez (λ(g:bY×bY×List Ch×(dx)) (t:fD×fD) h'=>SetAt g.2.2.2 h' sb x g.2.2.1/\(∀b,g.2.2.2 b->C b\/h.size<=b)/\Upd (λb=>C b\/b=sb) h h'/\Sl dT 2 (λb=>C b\/b=sb\/h.size<=b) h' t.1 g.1/\Sl dT 2 (λb=>C b\/b=sb\/h.size<=b) h' t.2 g.2.1/\t.1.len<=t.1.cap/\t.2.len<=t.2.cap/\g.2.2.1++iU g.1 g.2.1=L++iU A B/\g.2.2.1.length+g.1.length+g.2.1.length<=L.length+A.length+B.length)
  (λg=>g.1.length+g.2.1.length) (A,B,L,C) ⟨st,λ_ h=>.inl h,eM _ _,hss,hss',hc,hc',rfl,aj _⟩ ?_
 rintro I ⟨A1,B1,L1,W⟩ ⟨z,O⟩ Z ⟨n,D,V,j,k,J,H,he,F⟩ hI;(try simp only at n D j k J H he F)
 have Q:z.len=A1.length:=j.len;have l2:O.len=B1.length:=k.len;obtain⟨sl,o,T⟩:=n.ex;have go:∀(c:List Ch) (A2 B2:bY) (u1 Y:fD) (N:ad) (C2:dx),SetAt C2 N sb x (L1++c)->(∀b,C2 b->W b\/Z.size<=b)->Upd (λb=>W b\/b=sb) Z N->iU A1 B1=c++iU A2 B2->Sl dT 2 (λb=>C b\/b=sb\/h.size<=b) Z u1 A2->Sl dT 2 (λb=>C b\/b=sb\/h.size<=b) Z Y B2->u1.len<=u1.cap->Y.len<=Y.cap->c.length+A2.length+B2.length<=A1.length+B1.length->A2.length+B2.length<A1.length+B1.length->I (u1,Y) N:=by
  intro c A2 B2 u1 Y N C2 st2 hC2 S e q G w1 w2 hl d;have hm:∀b,W b\/b=sb->(C b\/b=sb\/h.size<=b)\/Z.size<=b:=λb hb=>.inl (hb.elim (λh=>(D b h).imp id .inr) λh=>.inr (.inl h))
  refine hI (A2,B2,L1++c,C2) (u1,Y) N ⟨st2,λb hb=>?_,?_,q.upd S hm,G.upd S hm,w1,w2,?_,?_⟩ d
  .rcases hC2 b hb with h|h
   .exact D b h
   .exact .inr (aO V.size h)
  .exact V.trans S λb hb=>hb.elim (λh=>(D b h).imp .inl id) λh=>.inl (.inr h)
  .show(L1++c)++iU A2 B2=_
   rw[au,<-e,he]
  .show(L1++c).length+A2.length+B2.length<=_
   rw[ae];omega
 refine eF (λt h'=>h'=Z/\(t=true↔A1≠[]\/B1≠[])) (λR p=>?_) ?_
 .refine ar (λhp=>p _ _ ⟨rfl,?_⟩) λhp=>p _ _ ⟨rfl,?_⟩
  .have hp:(z.len:Int)>0:=hp
   simp only[true_iff];left;intro e;rw[e]at Q;simp only[bq]at Q;omega
  .have hp:¬(z.len:Int)>0:=hp
   have e1:A1= []:=aK.1 a4;show decide ((O.len:Int)>0)=true↔_
   rw[decide_eq_true_iff];constructor
   .intro h;right;intro e;rw[e]at l2;simp only[bq]at l2;omega
   .intro h
    rcases h with h|h
    .exact absurd e1 h
    .have:=List.length_pos_iff.2 h;omega
 rintro t N ⟨rfl,ht⟩;refine eh (λe=>?_) λe=>?_
 rotate_left
 .have hn:A1= []/\B1= []:=by
   rw[e]at ht;constructor
   .exact Decidable.byContradiction λh=>absurd (ht.2 (.inl h)) a6
   .exact Decidable.byContradiction λh=>absurd (ht.2 (.inr h)) a6
  obtain⟨rfl,rfl⟩:=hn;rw[jz,fZ,aX]at he;subst he;exact hk N W n D V
 have hne:=ht.1 e;clear ht e;refine eF (λt h'=>h'=N/\((t=true/\∃a A',A1=a::A'/\iU A1 B1=KM a::iU A' B1)\/(t=false/\∃b u,B1=b::u/\(A1= []\/∃a A',A1=a::A'/\¬kl a.1 b.1)))) (λR p=>?_) ?_
 .rcases B1 with _|⟨b,u⟩
  .rcases A1 with _|⟨a,A'⟩
   .exact absurd hne a6
   rw[show(((O.len:Nat):Int)==0)=true by rw[l2];rfl]
   refine ay.2 (p _ _ ⟨rfl,.inl ⟨rfl,a,A',rfl,?_⟩⟩);rw[xA,xA];rfl
  .rw[av]at l2
   rw[show(((O.len:Nat):Int)==0)=false by rw[beq_eq_false_iff_ne];omega]
   refine ag.2 ?_;rcases A1 with _|⟨a,A'⟩
   .rw[bq]at Q
    rw[decide_eq_false (show ¬((z.len:Int)>0) by omega)]
    exact ag.2 (p _ _ ⟨rfl,.inr ⟨rfl,b,u,rfl,.inl rfl⟩⟩)
   .rw[av]at Q
    rw[decide_eq_true (show((z.len:Int)>0) by omega)]
    refine ay.2 ?_;obtain⟨E,f,_,q⟩:=j.at (i:=0) (x:=a) rfl;obtain⟨X,m,_,G⟩:=k.at (i:=0) (x:=b) rfl;refine⟨⟨a7,a7⟩,E,f,a.1,q 0 _ rfl,⟨a7,a7⟩,X,m,b.1,G 0 _ rfl,p _ _ ⟨rfl,?_⟩⟩
    by_cases d:kl a.1 b.1
    .exact .inl ⟨d,a,A',rfl,by rw[rW,if_pos d]⟩
    .exact .inr ⟨by unfold kl at d;simpa using d,b,u,rfl,.inr ⟨a,A',rfl,d⟩⟩
 rintro t h3 ⟨rfl,⟨rfl,a,A',rfl,ec⟩|⟨rfl,b,u,rfl,hA⟩⟩
 .refine ay.2 (eQ ?_)
  rw[av]at Q;obtain⟨E,f,_,q⟩:=j.at (i:=0) (x:=a) rfl;refine⟨_,rfl,sl,vc o 3,⟨a7,a7⟩,E,f,a.1,q 0 _ rfl,⟨a7,a7⟩,E,f,a.2,q 1 _ rfl,?_⟩
  refine Rw (c:=KM a) n o T (by simp only[av]at F;omega) λh4 C4 st4 hC4 hu4=>?_
  refine⟨⟨a7,a7⟩,?_⟩
  simp only[Bd];exact go [KM a] A' B1 _ _ h4 C4 st4 hC4 hu4 ec (TT j J) k (by show z.len-1<=z.cap-1;omega) H (by simp only[av,bq];omega) (by rw[av];omega)
 refine ag.2 ?_;rw[av]at l2;obtain⟨X,m,_,G⟩:=k.at (i:=0) (x:=b) rfl;refine eF (λt h'=>h'=h3/\((t=true/\iU A1 (b::u)=Zj b::iU A1 u)\/(t=false/\∃a A',A1=a::A'/\iU A1 (b::u)=zT a b++iU A' u))) (λR p=>?_) ?_
 .rcases hA with rfl|⟨a,A',rfl,hna⟩
  .rw[show(((z.len:Nat):Int)==0)=true by rw[Q];rfl]
   refine ay.2 (p _ _ ⟨rfl,.inl ⟨rfl,?_⟩⟩);rw[jz,jz];rfl
  .rw[av]at Q
   rw[show(((z.len:Nat):Int)==0)=false by rw[beq_eq_false_iff_ne];omega]
   obtain⟨E,f,_,q⟩:=j.at (i:=0) (x:=a) rfl;refine ag.2 ⟨⟨a7,a7⟩,X,m,b.1,G 0 _ rfl,⟨a7,a7⟩,E,f,a.1,q 0 _ rfl,p _ _ ⟨rfl,?_⟩⟩
   by_cases d:kl b.1 a.1
   .exact .inl ⟨d,by rw[rW,if_neg hna,if_pos d]⟩
   .refine .inr ⟨by unfold kl at d;simpa using d,a,A',rfl,?_⟩
    rw[rW,if_neg hna,if_neg d];unfold zT;split<;>rfl
 rintro t h4 ⟨rfl,⟨rfl,ec⟩|⟨rfl,a,A',rfl,ec⟩⟩
 .refine ay.2 (eQ ?_)
  refine⟨_,rfl,sl,vc o 3,⟨a7,a7⟩,X,m,b.1,G 0 _ rfl,⟨a7,a7⟩,X,m,b.2,G 1 _ rfl,?_⟩
  refine Rw (c:=Zj b) n o T (by simp only[av]at F;omega) λU P y w v=>?_
  refine⟨⟨a7,a7⟩,?_⟩
  simp only[Bd];exact go [Zj b] A1 u _ _ U P y w v ec j (TT k H) J (by show O.len-1<=O.cap-1;omega) (by simp only[av,bq];omega) (by rw[av];omega)
 rw[av]at Q;obtain⟨E,f,_,q⟩:=j.at (i:=0) (x:=a) rfl;have hcl:(zT a b).length<=1:=by unfold zT;split<;>simp
 refine ag.2 (eF (λ_ U=>∃P,SetAt P U sb x (L1++zT a b)/\(∀b,P b->W b\/h4.size<=b)/\Upd (λb=>W b\/b=sb) h4 U) (λR p=>?_) ?_)
 .refine⟨⟨a7,a7⟩,E,f,a.2,q 1 _ rfl,⟨a7,a7⟩,X,m,b.2,G 1 _ rfl,?_⟩
  have eb:(a.2.toList==b.2.toList)=decide (a.2=b.2):=dZ;rw[eb];by_cases e:a.2=b.2
  .rw[decide_eq_true e]
   refine ag.2 (p _ _ ⟨W,?_,λ_ h=>.inl h,eM _ _⟩)
   unfold zT;rw[if_pos e,aX];exact n
  .rw[decide_eq_false e]
   refine ay.2 ⟨_,rfl,sl,vc o 3,⟨a7,a7⟩,E,f,a.1,q 0 _ rfl,⟨a7,a7⟩,E,f,a.2,q 1 _ rfl,⟨a7,a7⟩,X,m,b.2,G 1 _ rfl,?_⟩
   refine Rw (c:=(a.1,a.2,b.2,true,true)) n o T (by simp only[av]at F;omega) λU P y w v=>p _ _ ⟨P,?_,w,v⟩
   unfold zT;rw[if_neg e];exact y
 .rintro _ U ⟨P,y,w,v⟩
  refine⟨⟨a7,a7⟩,?_⟩
  simp only[Bd];refine⟨⟨a7,a7⟩,?_⟩
  exact go (zT a b) A' u _ _ U P y w v ec (TT j J) (TT k H) (by show z.len-1<=z.cap-1;omega) (by show O.len-1<=O.cap-1;omega) (by rw[av,av];omega) (by rw[av,av];omega)
theorem Po:∀F:Fo,(zw F).length=(F.toL.map λn=>(mR n.2.1 n.2.2).length).sum
 | .nil=>rfl
 | .cons lab w kids rest=>by
  rw[Lx,Fo.toL_cons,cn,rF,<-Po rest,ae,bP];rfl
def acg(n:Bn):Prop:=∀{W:dx} {h:ad} {b:Nat} {sl:c6},RxN W h b sl n.2.1 n.2.2->(mR n.2.1 n.2.2).length<=1000000000->∀{K:Int->dO},(∀h',Upd No h h'->K (((mR n.2.1 n.2.2).length:Nat):Int) h')->fK 105 [gZ b] K h
theorem Uq{lab:c5}{w:Option c6}{F:Fo}(L:F.toL.length<=256)(O:∀n∈F.toL,acg n):acg (lab,w,F):=by
 intro W h b sl r N K C;(try simp only at r N C)
 refine dg (Gk (some ⟨b,0,none⟩)) QE Tryz.func105 Tryz.call105 ?_;dsimp only[Gk,qW,cz,jX,fj];have g:(mR w F).length=(w.map λv=>(([]:c5),v)).toList.length+(F.toL.map λn=>(mR n.2.1 n.2.2).length).sum:=by
  rw[<-Po,<-ae];rfl
 refine eF (λt h'=>t=(((w.map λv=>(([]:c5),v)).toList.length:Nat):Int)/\h'=h) (λR G=>?_) ?_
 .refine BT r λv _=>?_
  cases w with
  |none=>exact ag.2 (G _ _ ⟨rfl,rfl⟩)
  |some u=>exact ay.2 (G _ _ ⟨rfl,rfl⟩)
 .rintro t h' ⟨rfl,rfl⟩
  generalize (w.map λv=>(([]:c5),v)).toList.length=c0 at g
  refine Au r L λz s ks q d k1=>?_
  have f:Sl qA 1 No s z ks:=q.sl λ_ _ _ h=>h
  have j:=f.len;rw[d.1]at j;refine ez (λ(i:Nat) (t:Int×Int) p=>t.1=((c0+((F.toL.take i).map λn=>(mR n.2.1 n.2.2).length).sum:Nat):Int)/\t.2=(i:Int)/\i<=F.toL.length/\Upd No s p) (λi=>F.toL.length-i) 0 ⟨a6,rfl,aJ _,eM _ _⟩ ?_
  rintro I i ⟨V,U⟩ p ⟨D,E,hi,k⟩ P;(try simp only at D E)
  subst D E;have x:∀i,((F.toL.take i).map λn=>(mR n.2.1 n.2.2).length).sum<=(F.toL.map λn=>(mR n.2.1 n.2.2).length).sum:=λi=>by
   conv=>rhs;rw[<-List.take_append_drop i F.toL,cC,j4]
   omega
  refine ar (λc=>?_) λA=>?_
  .have c:i<F.toL.length:=by have:(i:Int)<(z.len:Int):=c;omega
   obtain⟨H,S,m,_,o⟩:=(d.upd0 k).at c;obtain⟨a,Q,_,hv⟩:=(f.upd k λ_ h=>h.elim).at0 m
   refine⟨⟨by(try simp only);omega,by(try simp only);omega⟩,a,Q,some ⟨H,0,none⟩,hv,?_⟩
   have J:((F.toL.take (i+1)).map λn=>(mR n.2.1 n.2.2).length).sum=((F.toL.take i).map λn=>(mR n.2.1 n.2.2).length).sum+(mR F.toL[i].2.1 F.toL[i].2.2).length:=by
    rw[ax c,cC,j4];simp
   have s:=x (i+1);refine O _ (aF c) o a4 λT B=>?_
   rw[bN c a4];have e:ac .i64 (((c0+((F.toL.take i).map λn=>(mR n.2.1 n.2.2).length).sum:Nat):Int)+((mR F.toL[i].2.1 F.toL[i].2.2).length:Int))=((c0+((F.toL.take (i+1)).map λn=>(mR n.2.1 n.2.2).length).sum:Nat):Int):=by
    rw[dI a4];omega
   rw[e];exact P (i+1) _ _ ⟨rfl,rfl,c,k.tr B⟩ a4
  .have y:i=F.toL.length:=by have:¬(i:Int)<(z.len:Int):=A;omega
   subst y;rw[bG,<-g];exact C p (k1.tr k)
theorem IG:∀{F:Fo},fq F->∀n∈F.toL,acg n
 | .nil,_,n,a=>by simp[Fo.toL]at a
 | .cons lab w kids rest,h,n,a=>by
  rcases aw.1 a with rfl|a
  .exact Uq (kh h.2.2.1) (IG h.2.2.1)
  .exact IG h.2.2.2.2 n a
theorem W6(i:TreeIs W h 1 x t l)(g:bS l)(o:l.length<=60000){K:Int->dO}(n:∀h',Upd No h h'->K (l.length:Int) h'):fK 57 [Ap t] K h:=by
 refine yQ t ?_;dsimp only[sP,bh,aE,kH,rC];rcases i with⟨e,_⟩|⟨_,b,rfl,t⟩
 .cases e
 refine aQ λp b1 k1=>⟨_,vc b1 0,ay.2 ⟨_,vc b1 5,?_⟩⟩
 obtain⟨w,F,m,c,k⟩:=(t.upd0 k1).ex;have j:=Hg c g k;have a:=congrArg eT j;unfold Re at a;rw[bP]at a;refine Uq (lab:= []) (kh c) (IG c) m (by(try simp only);omega) λf d=>?_
 (try simp only)
 rw[a];exact n f (k1.tr d)
theorem OU{K:Int->dO}(b:∀h',Upd No h h'->K t.1 h'):fK 87 [Ap t] K h:=by
 refine dg (xN t) .nil Tryz.func87 Tryz.call87 ?_;dsimp only[xN,bh,kH,rC];exact aQ λa b1 k1=>⟨_,vc b1 0,b a k1⟩
theorem LO:∀{x y:c5} {i:Nat} {a b:UInt8},(∀j,j<i->x[j]? =y[j]?)->x[i]? =some a->y[i]? =some b->a≠b->bF x y=decide (a.toNat<b.toNat)
 | [],_,_,_,_,_,h,_,_=>by simp at h
 |_::_,[],_,_,_,_,_,h,_=>by simp at h
 |c::x,d::y,0,a,b,_,h1,h2,hne=>by
  simp only[cT,bO.injEq]at h1 h2;subst h1 h2;simp only[bF];rw[beq_false_of_ne hne];simp[UInt8.lt_iff_toNat_lt]
 |c::x,d::y,i+1,a,b,he,h1,h2,hne=>by
  have e:=he 0 a4;simp only[cT,bO.injEq]at e;subst e;simp only[List.getElem?_cons_succ]at h1 h2;simp only[bF];rw[LO (i:=i) (λj f=>by simpa using he (j+1) a4) h1 h2 hne]
  simp[UInt8.lt_irrefl]
theorem LN:∀{x y:c5} {i:Nat},(∀j,j<i->x[j]? =y[j]?)->i<=x.length->i<=y.length->(i=x.length\/i=y.length)->bF x y=decide (x.length<y.length)
 | [],[],_,_,_,_,_=>by simp[bF]
 | [],_::_,_,_,_,_,_=>by simp[bF]
 |_::_,[],_,_,_,_,_=>by simp[bF]
 |c::x,d::y,0,_,_,_,h=>by simp at h
 |c::x,d::y,i+1,he,h1,h2,h3=>by
  have e:=he 0 a4;simp only[cT,bO.injEq]at e;subst e;simp only[bF];rw[LN (i:=i) (λj a=>by simpa using he (j+1) a4) (by simpa using h1) (by simpa using h2) (by simpa using h3)]
  simp[UInt8.lt_irrefl]
theorem Ic{a b:c6}(C:a.size<=1000000){K:Bool->dO}(y:K (decide (kl a b)) h):gl 125 [.string a,.string b] K h:=by
 refine dg (JW a b) Tu Tryz.func125 Tryz.call125 ?_;dsimp only[JW,AR];have A:a.data.toList.length=a.size:=a6
 have B:b.data.toList.length=b.size:=a6
 have f:∀{p:Prop} [Decidable p],bF a.data.toList b.data.toList=decide p->K (decide p) h:=λ{p} _ e=>by
  have:decide (kl a b)=decide p:=by
   rw[<-e,<-ByteArray.toList_eq,<-ByteArray.toList_eq];exact Bool.eq_iff_iff.2 (by rw[decide_eq_true_iff];exact ug)
  rw[<-this];exact y
 refine ez (λ(i:Nat) (t:Int) h'=>t=(i:Int)/\i<=a.size/\i<=b.size/\h'=h/\∀j,j<i->a.data.toList[j]? =b.data.toList[j]?) (λi=>a.size-i) 0 ⟨rfl,aJ _,aJ _,rfl,λj q=>absurd q (Nat.not_lt_zero _)⟩ ?_
 rintro I i t h' ⟨rfl,x,w,rfl,m⟩ z;refine eF (λt n=>t=decide (i<a.size/\i<b.size)/\n=h') (λR v=>?_) ?_
 .refine ar (λc=>v _ _ ⟨?_,rfl⟩) λk=>v _ _ ⟨?_,rfl⟩
  .rw[decide_eq_decide];omega
  .rw[eq_comm,decide_eq_false_iff_not];omega
 .rintro t n ⟨rfl,rfl⟩
  refine ar (λc=>?_) λk=>?_
  .have s:a.data.toList[i]? =some a[i]:=by rw[<-PV,getElem?_pos a i c.1]
   have u:b.data.toList[i]? =some b[i]:=by rw[<-PV,getElem?_pos b i c.2]
   refine⟨a[i],a4,by rw[aY,getElem?_pos a i c.1],b[i],a4,by rw[aY,getElem?_pos b i c.2],?_⟩
   refine eh (λg=>?_) λd=>?_
   .refine⟨a[i],a4,by rw[aY,getElem?_pos a i c.1],b[i],a4,by rw[aY,getElem?_pos b i c.2],?_⟩
    refine f ?_;rw[LO m s u λe=>by rw[e]at g;simp at g]
    rw[decide_eq_decide];omega
   .have d:a[i]=b[i]:=by
     have:((a[i].toNat:Int))=(b[i].toNat:Int):=by simpa using d
     exact UInt8.toNat_inj.1 a4
    rw[bN c.1 a4];refine z (i+1) _ _ ⟨rfl,a4,a4,rfl,λj q=>?_⟩ a4
    rcases ci j i with o|o
    .exact m j o
    .have:j=i:=by omega
     subst this;rw[s,u,d]
  .refine f ?_
   rw[LN m a4 a4 a4,decide_eq_decide];omega
theorem Pi(z:Sl dT 2 W h s l)(G:l.length<=1000000)(k:c6)
  (B:∀s' h',OwnS dT 2 169 (λy=>h.size<=y) h' s' (l.filter λp=>decide (p.1≠k))->Upd No h h'->K s' h'):ce 136 [.slice s.a s.len s.cap,.string k] K h:=by
 refine dg (JY s k) Tw Tryz.func136 Tryz.call136 ?_;dsimp only[JY,kF,mc,mH,bo,zX,nv,Fb,fj,cM,fY];have A:=z.len;refine ez (λ(i:Nat) (t:fD×Int) h'=>t.2=(i:Int)/\i<=l.length/\OwnS dT 2 169 (λy=>h.size<=y) h' t.1 ((l.take i).filter λp=>decide (p.1≠k))/\Upd No h h') (λi=>l.length-i) 0 ⟨rfl,aJ _,by simpa using OwnS.nil fP,eM _ _⟩ ?_
 rintro I i ⟨so,H⟩ h' ⟨x,hi,g,f⟩ D;(try simp only at x g)
 subst x;refine ar (λb=>?_) λq=>?_
 .have b:i<l.length:=by have:(i:Int)<(s.len:Int):=b;omega
  obtain⟨a,E,_,hv⟩:=(z.upd f λ_ h=>h.elim).at (af b)
  have w:((l.take i).filter λp=>decide (p.1≠k)).length<=l.length:=aO (bQ ..) (by rw[aV];omega)
  refine eF (λt j=>OwnS dT 2 169 (λy=>h.size<=y) j t ((l.take (i+1)).filter λp=>decide (p.1≠k))/\Upd No h j) (λR d=>⟨⟨by(try simp only);omega,by(try simp only);omega⟩,a,E,l[i].1,hv 0 _ rfl,l[i].2,hv 1 _ rfl,?_⟩) ?_
  .refine ux (p:=l[i]) λj b2 m=>⟨_,vc b2 0,?_⟩
   have c:=g.upd m λ_ _ h=>h
   rw[ax b,cy,bf,f9]at d;rw[dZ];by_cases e:l[i].1=k
   .rw[decide_eq_true e]
    rw[decide_eq_false (not_not_intro e)]at d;rw[if_neg a6,aX]at d;exact ag.2 (d _ _ ⟨c,f.tr m⟩)
   .rw[decide_eq_false e]
    rw[decide_eq_true e,if_pos rfl]at d;refine ay.2 ⟨_,vc b2 0,_,vc b2 1,bL ?_⟩;refine uI (p:=l[i]) c (λy o=>aO (f.tr m).size o) (aO (Nat.add_le_add_right w 1) a4) λJ F u v=>d _ _ ⟨u,(f.tr m).trans v λy o=>.inr o⟩
  .rintro t j ⟨c,n⟩
   rw[bN b a4];exact D (i+1) _ _ ⟨rfl,b,c,n⟩ a4
 .have C:i=l.length:=by have:¬(i:Int)<(s.len:Int):=q;omega
  rw[bd a4]at g;exact B _ _ g f
theorem T3(hs:Sl dT 2 W h s l)(hr:bS l)(hn:l.length<=1000000)(p:Pr)(hp:p.1.size<=1000000)
  (X:∀s' h',OwnS dT 2 169 (λy=>h.size<=y) h' s' (gQ p l)->Upd No h h'->K s' h'):ce 129 [.slice s.a s.len s.cap,.agg #[.string p.1,.string p.2]] K h:=by
 refine dg (ME s p) Wy Tryz.func129 Tryz.call129 ?_;dsimp only[ME,AO,kF,kG,mc,mH,bo,zX,nv,Fb,fj,cM,fY];refine aQ λh1 b1 k1=>⟨p.1,vc b1 0,?_⟩
 refine Pi (hs.upd k1 λ_ h=>h.elim) hn p.1 λs4 u J k4=>?_
 rw[<-LW hr]at X;have hrf:bS (l.filter λq=>decide (q.1≠p.1)):=hr.sublist List.filter_sublist
 have hnl:(l.filter λq=>decide (q.1≠p.1)).length<=1000000:=aO (bQ ..) hn
 have S:∀q∈l.filter λq=>decide (q.1≠p.1),q.1≠p.1:=λq v=>of_decide_eq_true (bV.1 v).2
 generalize l.filter (λq=>decide (q.1≠p.1))=L at X J hrf hnl S
 have z:=k1.tr k4;have N:Sl dT 2 No u s4 L:=J.sl λ_ _ _ h=>h
 have hlen:=N.len;have z4:=z.size;refine ez (λ(g:Nat×Bool) (t:fD×Bool×Int) h'=>t.2.2=(g.1:Int)/\t.2.1=g.2/\g.1<=L.length/\(∃out,OwnS dT 2 169 (λy=>u.size<=y) h' t.1 out/\out.length<=g.1+1/\(g.2=false->out=L.take g.1/\∀q∈L.take g.1,kl q.1 p.1)/\(g.2=true->out=gQ p (L.take g.1)/\∃q∈L.take g.1,kl p.1 q.1))/\Upd No u h') (λg=>L.length-g.1) (0,false) ⟨rfl,rfl,aJ _,⟨[],OwnS.nil fP,a6,λ_=>⟨a6,a6⟩,λh=>by cases h⟩,eM _ _⟩ ?_
 rintro I ⟨i,pl⟩ ⟨so,tp,ti⟩ h' ⟨e1,e2,hi,⟨out,H,O,Z,ht⟩,C⟩ hI;(try simp only at e1 e2 hi H O Z ht)
 subst e1 e2;have b':=C.get0 (k4.get0 b1);refine ar (λf=>?_) λhge=>?_
 .have f:i<L.length:=by have:(i:Int)<(s4.len:Int):=f;omega
  obtain⟨a,ha,_,hv⟩:=(N.upd C λ_ h=>h.elim).at (af f)
  have d:=ax f;have F:L[i]∈L:=aF f;refine eF (λt D=>(∃out,OwnS dT 2 169 (λy=>u.size<=y) D t.1 out/\out.length<=i+1+1/\(t.2=false->out=L.take (i+1)/\∀q∈L.take (i+1),kl q.1 p.1)/\(t.2=true->out=gQ p (L.take (i+1))/\∃q∈L.take (i+1),kl p.1 q.1))/\Upd No u D) (λR hR=>⟨⟨by(try simp only);omega,by(try simp only);omega⟩,a,ha,L[i].1,hv 0 _ rfl,L[i].2,hv 1 _ rfl,?_⟩) ?_
  .refine ux (p:=L[i]) λD b2 Y=>?_
   have o:=H.upd Y λ_ _ h=>h
   have k:=C.tr Y;have zb:=bB b2;have z2:=C.size;have hoM:=(H.within.upd Y λ_ _ h=>h).more (M':=λy=>(u.size<=y/\y<h'.size)\/D.size<=y) λy b=>.inl b
   have c2:=Y.get0 b';refine eF (λt x=>(∃out,OwnS dT 2 169 (λy=>u.size<=y) x t.1 out/\out.length<=i+1/\(t.2=false->out=L.take i/\∀q∈L.take (i+1),kl q.1 p.1)/\(t.2=true->out++ [L[i]]=gQ p (L.take (i+1))/\∃q∈L.take (i+1),kl p.1 q.1))/\x[h'.size]? =some (.cells #[.string L[i].1,.string L[i].2] 169 (0,0))/\Upd No u x) (λR2 w=>?_) ?_
   .refine eF (λt x=>t=(!tp&&decide (kl p.1 L[i].1))/\x=D) (λR3 V=>?_) ?_
    .cases tp with
     |false=>exact ay.2 ⟨p.1,vc c2 0,L[i].1,vc b2 0,Ic hp (V _ _ ⟨a6,rfl⟩)⟩
     |true=>exact ag.2 (V _ _ ⟨a6,rfl⟩)
    .rintro t x ⟨rfl,rfl⟩
     cases tp with
     |true=>
      obtain⟨e,q,v,P⟩:=ht rfl;refine ag.2 (w _ _ ⟨⟨out,o,O,λh=>(by cases h),λ_=>?_⟩,b2,k⟩)
      rw[d,e];exact⟨(PP ⟨q,v,P⟩).symm,q,cx _ v,P⟩
     |false=>
      obtain⟨e,c⟩:=Z rfl;subst e;by_cases m:kl p.1 L[i].1
      .rw[decide_eq_true m]
       refine ay.2 ⟨p.1,vc c2 0,p.2,vc c2 1,bL ?_⟩;refine uI (p:=p) hoM (λy b=>.inr b) (by rw[aV];omega) λs5 h5 n j=>w _ _ ⟨⟨_,n.more (λy b=>by rcases b with b|b<;>omega),by rw[ae,aV,aG];omega,λh=>(by cases h),λ_=>?_⟩,j.get b2 (by rintro(hx|hx)<;>omega),k.trans j λy b=>.inr (by rcases b with b|b<;>omega)⟩
       .rw[d,IL c]
        refine⟨?_,L[i],cA _ (az.2 rfl),m⟩;rw[au,PN (l:= [L[i]]) λq v=>by rw[az.1 v];exact m]
        rfl
      .rw[decide_eq_false m]
       have v:kl L[i].1 p.1:=mf m λe=>S _ F e.symm
       refine ag.2 (w _ _ ⟨⟨_,o,by rw[aV];omega,λ_=>⟨rfl,λq Q=>?_⟩,λh=>(by cases h)⟩,b2,k⟩)
       rw[d]at Q;rcases aN.1 Q with h|h
       .exact c q h
       .rw[az.1 h];exact v
   .rintro⟨t1,t2⟩ x ⟨⟨out3,T,hol3,E,G⟩,b3,U⟩
    (try simp only at T E G)
    refine⟨_,vc b3 0,_,vc b3 1,bL ?_⟩;refine uI (p:=L[i]) T (λy b=>aO U.size b) a4 λs5 h5 n j=>hR _ _ ⟨⟨_,n,by rw[ae,aG];omega,λh=>?_,λh=>G h⟩,U.trans j λy b=>.inr b⟩
    obtain⟨e,c⟩:=E h;exact⟨by rw[e,d],c⟩
  .rintro⟨t1,t2⟩ D ⟨o,k⟩
   rw[bN f a4];exact hI (i+1,t2) _ _ ⟨rfl,rfl,f,o,k⟩ (by(try simp only);omega)
 .have hil:i=L.length:=by have:¬(i:Int)<(s4.len:Int):=hge;omega
  subst hil;rw[bG]at Z ht;cases tp with
  |true=>
   obtain⟨e,_⟩:=ht rfl;subst e;exact ag.2 (X _ _ (H.more λy b=>aO z4 b) (z.tr C))
  |false=>
   obtain⟨e,c⟩:=Z rfl;subst e;refine ay.2 ⟨p.1,vc b' 0,p.2,vc b' 1,bL ?_⟩;refine uI (p:=p) H (λy b=>aO C.size b) a4 λs5 h5 n j=>X _ _ ?_ ((z.tr C).trans j λy b=>.inr (aO z4 b))
   have:=IL (p:=p) (A:=out) (B:= []) c;rw[aX]at this;rw[this];exact n.more λy b=>aO z4 b
end
end Go.Proofs
