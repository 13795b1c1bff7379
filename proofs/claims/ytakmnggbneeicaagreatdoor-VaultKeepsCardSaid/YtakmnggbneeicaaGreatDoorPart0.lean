/- A part of the proof that the named laws of this program answer true, whatever the input. -/
import Derived.Test.YtakmnggbneeicaaGreatDoorTreeF0
import Derived.Test.YtakmnggbneeicaaGreatDoorTreeF1
import Derived.Test.YtakmnggbneeicaaGreatDoorLaw0
import Derived.Test.YtakmnggbneeicaaGreatDoorLift1
import Derived.Lib.Overlaps
import Derived.Sort.Walk0
import Derived.IntWalk
open BitVec renaming ofInt->aB,ofInt_natCast->ij,getLsbD_ofNat->nA
open Bool renaming eq_iff_iff->iC
open ByteArray renaming size_extract->ly
open Go.IntKind renaming wrap->ac,bits->ak
open Go.Op renaming bytesLess->bM
open Int renaming fdiv->dX,toNat_natCast->bi,le_refl->eC
open List renaming flatMap_cons->aN,take_length->bZ,length_take->aY,length_drop->bo,flatMap_append->bU,drop_zero->cH,append_assoc->ao,take_append_of_le_length->eX,take_of_length_le->aS,length_append->ae,drop_left->ii,take_left->hJ,size_toArray->cW,drop_eq_getElem_cons->gC,length_eq_zero_iff->aJ,drop_left'->cJ,take_left'->cR,drop_drop->cS,drop_append_of_le_length->eZ,getElem_cons_zero->dR,getElem?_eq_getElem->af,replicate->fW,replicate_succ->oh,length_cons->ar,take_succ_eq_append_getElem->ax,flatten_append->gg,flatten_cons->fZ,flatten_nil->qJ,append_nil->aX,length->gu,any_eq_true->cg,length_singleton->aP,range->fq,range_add->uG,mem_range->fY,filterMap_cons->kC,mem_cons_self->al,mem_cons_of_mem->ay,filterMap_append->ml,getElem_mem->aG,mem_append->aL,mem_singleton->av,takeWhile_append_dropWhile->gA,mem_map->aR,nodup_cons->dW,mem_append_left->ci,mem_append_right->cr,length_filter_le->bP,pairwise_cons->aC,mem_cons->au,getElem_map->jd,take_append_drop->bK,getElem_of_mem->bJ,getElem_take->p9,pairwise_iff_getElem->bQ,map_cons->ce,pairwise_append->cC,mem_filter->bL,append_eq_nil_iff->iS,append_cancel_left->ey,length_set->iA,getElem_set->qI,mem_of_getElem->ol,take_succ_cons->gf,drop_succ_cons->eS
open List.Pairwise renaming nil->cq
open Nat renaming zero_add->aU,sub_self->iQ,le_refl->aj,lt_or_ge->cp,min_eq_left->cn,sub_zero->dP,min->dF,add_one_mul->gt,one_mul->rK,le_mul_of_pos_left->p6,min_eq_right->qF,zero_mul->yd,zero_le->aK,one_pos->vX,testBit_shiftRight->pY,testBit_and->iz,testBit_two_pow_sub_one->mz,shiftRight_eq_div_pow->eR,lt_of_le_of_lt->fp,and_le_right->qH,shiftRight_le->pZ,mod_eq_of_lt->eN,testBit_two_pow->od,testBit_lt_two_pow->fU,lt_of_lt_of_le->aA,pow_le_pow_right->j1,le_of_eq->cI,not_lt->df,le_trans->aQ,le_of_lt->p5
open Option renaming isSome_iff_exists->gX,some->bI
open UInt8 renaming ofNat->gq,toNat_inj->oK
namespace Go.Proofs
section
open Go.Lift
variable {x:Int}{i n b:Nat}{h a:ad}{t:TypeId}{v:Value}{k:eu}{K:Int->eu}{s:dO}
theorem PQ(n:Int):0<=ac .u64 n/\ac .u64 n<18446744073709551616:=by rw[IntKind.wrap_u64];omega
theorem dw(h: -4611686018427387904<=x/\x<=4611686018427387904):ac .i64 x=x:=Go.IntWalk.i64_in _ a4
theorem cf(h:i<n)(a:n<=4611686018427387904):ac .i64 ((i:Int)+1)=((i+1:Nat):Int):=by rw[dw a4];omega
theorem xS{c:Array Value}(hb:h[b]? =some (.cells c t (0,0)))
  (a:∀h',h'[b]? =some (.cells (c.setIfInBounds i v) t (0,0))->Upd (· =b) h h'->k h'):At (hset h ⟨b,i,none⟩ v) k:=by
 refine a _ ?_ (Upd.hset _ _ rfl);rw[kH hb,dE hb]
def W7(a b:Int):Int:=ac .u64 (aB (ak .u64) a&&&aB (ak .u64) b).toNat
def gk(a b:Int):Int:=ac .u64 (aB (ak .u64) a^^^aB (ak .u64) b).toNat
def VK(a b:Int):Int:=ac .u64 (aB (ak .u64) a|||aB (ak .u64) b).toNat
def Qa(x n:Int):Int:=
 VK (ac .u64 (x*2^(min (W7 (ac .u64 n) 63).toNat (ak .u64)))) (dX x (2^(min (ac .u64 (64-W7 (ac .u64 n) 63)).toNat (ak .u64))))
theorem DU{n:Int}(a:K (Qa x n) h):rQ 259 [.int .u64 x,.int .i64 n] K h:=by
 refine cZ (oB x n) .nil Tryz.func259 Tryz.call259 ?_;dsimp only[oB,Iw];exact⟨(PQ _).1,(PQ _).1,a⟩
abbrev Q4:=Int×Int×Int×Int
def q4(s:Q4):Array Value:= #[.int .u64 s.1,.int .u64 s.2.1,.int .u64 s.2.2.1,.int .u64 s.2.2.2]
def YN(a b:Int):Int:=ac .u64 (a+b)
def Xq(s:Q4):Q4:=(YN s.1 s.2.1,s.2)
def XX(s:Q4):Q4:=(s.1,gk (Qa s.2.1 13) s.1,s.2.2)
def Y3(s:Q4):Q4:=(Qa s.1 32,s.2)
def Zx(s:Q4):Q4:=(s.1,s.2.1,YN s.2.2.1 s.2.2.2,s.2.2.2)
def aae(s:Q4):Q4:=(s.1,s.2.1,s.2.2.1,gk (Qa s.2.2.2 16) s.2.2.1)
def aad(s:Q4):Q4:=(YN s.1 s.2.2.2,s.2)
def abr(s:Q4):Q4:=(s.1,s.2.1,s.2.2.1,gk (Qa s.2.2.2 21) s.1)
def abL(s:Q4):Q4:=(s.1,s.2.1,YN s.2.2.1 s.2.1,s.2.2.2)
def abK(s:Q4):Q4:=(s.1,gk (Qa s.2.1 17) s.2.2.1,s.2.2)
def aac(s:Q4):Q4:=(s.1,s.2.1,Qa s.2.2.1 32,s.2.2.2)
def P9(s:Q4):Q4:=aac (abK (abL (abr (aad (aae (Zx (Y3 (XX (Xq s)))))))))
def pF:Nat->Q4->Q4
 |0,s=>s
 |n+1,s=>pF n (P9 s)
theorem qq{s s':Q4}(hb:h[b]? =some (.cells (q4 s) t (0,0))) (e:(q4 s).setIfInBounds i v=q4 s')
  (d:∀h',h'[b]? =some (.cells (q4 s') t (0,0))->Upd (· =b) h h'->k h'):At (hset h ⟨b,i,none⟩ v) k:=
 xS hb λh' a c=>d h' (e▸a) c
theorem Km(Y:n<=100){s:Q4}(hb:h[b]? =some (.cells (q4 s) t (0,0))) {K:Unit->eu}
  (O:∀h',h'[b]? =some (.cells (q4 (pF n s)) t (0,0))->Upd (· =b) h h'->K () h'):dx 214 [gV b,.int .i64 n] K h:=by
 refine BH _ _ ?_;dsimp only[um,cB,fE,dh,vZ,cL,BE,Nb,Pd,Rh,Xg];refine eF (λ(g:Nat×Q4) (L:Int) h'=>L=(g.1:Int)/\g.1<=n/\h'[b]? =some (.cells (q4 g.2) t (0,0))/\Upd (· =b) h h'/\pF (n-g.1) g.2=pF n s) (λg=>n-g.1) (0,s) ⟨rfl,Nat.zero_le _,hb,eQ _ _,rfl⟩ ?_
 rintro I ⟨i,d⟩ L h' ⟨ht,hi,a,N,x⟩ Q;(try simp only at ht hi a x)
 subst ht;refine aq (λv=>?_) λR=>?_
 .have v:i<n:=by omega
  have c:∀{h:ad} {s:Q4} {i:Nat},h[b]? =some (.cells (q4 s) t (0,0))->aI h ⟨b,0+i,none⟩=(q4 s)[i]?:=λhb=>by rw[aU];exact ba hb
  have w:∀{h:ad} {s:Q4} {i:Nat},h[b]? =some (.cells (q4 s) t (0,0))->i<4->Wr h ⟨b,0+i,none⟩:=λhb hi=>by rw[aU];exact eH hb hi
  simp only[show((0:Int)).toNat*1=0 from rfl,show((1:Int)).toNat*1=1 from rfl,show((2:Int)).toNat*1=2 from rfl,show((3:Int)).toNat*1=3 from rfl]
  refine⟨_,rfl,a8,_,c (i:=0) a,_,rfl,a8,_,c (i:=1) a,_,rfl,a8,w (i:=0) a a8,qq (s':=Xq d) a rfl λU e F=>?_⟩
  refine⟨_,rfl,a8,_,c (i:=1) e,_,rfl,a8,_,c (i:=0) e,_,rfl,DU ⟨c (i:=0) e,a8,w (i:=1) e a8,qq (s':=XX (Xq d)) e rfl λV u H=>?_⟩⟩
  refine⟨_,rfl,a8,_,c (i:=0) u,_,rfl,DU ⟨a8,w (i:=0) u a8,qq (s':=Y3 (XX (Xq d))) u rfl λh4 q B=>?_⟩⟩
  refine⟨_,rfl,a8,_,c (i:=2) q,_,rfl,a8,_,c (i:=3) q,_,rfl,a8,w (i:=2) q a8,qq (s':=Zx (Y3 (XX (Xq d)))) q rfl λT k E=>?_⟩
  refine⟨_,rfl,a8,_,c (i:=3) k,_,rfl,a8,_,c (i:=2) k,_,rfl,DU ⟨c (i:=2) k,a8,w (i:=3) k a8,qq (s':=aae (Zx (Y3 (XX (Xq d))))) k rfl λZ p G=>?_⟩⟩
  refine⟨_,rfl,a8,_,c (i:=0) p,_,rfl,a8,_,c (i:=3) p,_,rfl,a8,w (i:=0) p a8,qq (s':=aad (aae (Zx (Y3 (XX (Xq d)))))) p rfl λX j D=>?_⟩
  refine⟨_,rfl,a8,_,c (i:=3) j,_,rfl,a8,_,c (i:=0) j,_,rfl,DU ⟨c (i:=0) j,a8,w (i:=3) j a8,qq (s':=abr (aad (aae (Zx (Y3 (XX (Xq d))))))) j rfl λh8 o C=>?_⟩⟩
  refine⟨_,rfl,a8,_,c (i:=2) o,_,rfl,a8,_,c (i:=1) o,_,rfl,a8,w (i:=2) o a8,qq (s':=abL (abr (aad (aae (Zx (Y3 (XX (Xq d)))))))) o rfl λW f J=>?_⟩
  refine⟨_,rfl,a8,_,c (i:=1) f,_,rfl,a8,_,c (i:=2) f,_,rfl,DU ⟨c (i:=2) f,a8,w (i:=1) f a8,qq (s':=abK (abL (abr (aad (aae (Zx (Y3 (XX (Xq d))))))))) f rfl λP m z=>?_⟩⟩
  refine⟨_,rfl,a8,_,c (i:=2) m,_,rfl,DU ⟨a8,w (i:=2) m a8,qq (s':=P9 d) m rfl λS A y=>?_⟩⟩
  rw[cf v a4];refine Q (i+1,P9 d) _ _ ⟨rfl,v,A,N.tr (F.tr (H.tr (B.tr (E.tr (G.tr (D.tr (C.tr (J.tr (z.tr y))))))))),?_⟩ (by(try simp only);omega);(try simp only)
  rw[<-x,show n-i=(n-(i+1))+1 by omega];rfl
 .obtain rfl:i=n:=by omega
  rw[iQ]at x;have x:d=pF i s:=x;rw[<-x]at O;exact O _ a N
def YI(s:dO)(i:Nat):Int:=match s[i]? with|some b=>(b.toNat:Int)|none=>0
def abq(b:Int)(n:Int):Int:=ac .u64 ((ac .u64 b)*2^(min n.toNat (ak .u64)))
def wj(s:dO):Nat->Int->Int
 |0,t=>t
 |k+1,t=>wj s k (VK t (if k=0 then ac .u64 (YI s 0)else abq (YI s k) ((8*k:Nat):Int)))
def EG(s:dO):Int:=wj s s.size 0
theorem ru(h:i<s.size):∃b,s[i]? =some b/\YI s i=(b.toNat:Int):=⟨s[i],getElem?_pos s i h,by simp[YI,getElem?_pos s i h]⟩
theorem RM(O:s.size<=8)(c:K (EG s) h):rQ 213 [.string s] K h:=by
 refine cZ (IK s) Rv Tryz.func213 Tryz.call213 ?_;dsimp only[IK,Iw,zn];refine eM (λt h'=>h'=h/\1<=s.size/\wj s 1 t=wj s s.size 0) (λz m=>?_) ?_
 .refine eM (λt h'=>h'=h/\2<=s.size/\wj s 2 t=wj s s.size 0) (λR2 f=>?_) ?_
  .refine eM (λt h'=>h'=h/\3<=s.size/\wj s 3 t=wj s s.size 0) (λB k=>?_) ?_
   .refine eM (λt h'=>h'=h/\4<=s.size/\wj s 4 t=wj s s.size 0) (λN g=>?_) ?_
    .refine eM (λt h'=>h'=h/\5<=s.size/\wj s 5 t=wj s s.size 0) (λH n=>?_) ?_
     .refine eM (λt h'=>h'=h/\6<=s.size/\wj s 6 t=wj s s.size 0) (λC j=>?_) ?_
      .refine eM (λt h'=>h'=h/\7<=s.size/\wj s 7 t=wj s s.size 0) (λJ d=>?_) ?_
       .refine ez (λe=>?_) λw=>?_
        .have e:s.size=8:=by have:=of_decide_eq_true (by simpa using e:decide ((s.size:Int)=8)=true);omega
         obtain⟨b,hb,hv⟩:=ru (s:=s) (i:=7) a4;refine⟨b,a8,hb,a8,d _ _ ⟨rfl,a4,?_⟩⟩
         rw[e,<-hv];rfl
        refine ez (λe=>?_) λp=>?_
        .have e:s.size=7:=by have:=of_decide_eq_true (by simpa using e:decide ((s.size:Int)=7)=true);omega
         exact d _ _ ⟨rfl,a4,by rw[e]⟩
        refine ez (λe=>?_) λq=>?_
        .have e:s.size=6:=by have:=of_decide_eq_true (by simpa using e:decide ((s.size:Int)=6)=true);omega
         exact j _ _ ⟨rfl,a4,by rw[e]⟩
        refine ez (λe=>?_) λo=>?_
        .have e:s.size=5:=by have:=of_decide_eq_true (by simpa using e:decide ((s.size:Int)=5)=true);omega
         exact n _ _ ⟨rfl,a4,by rw[e]⟩
        refine ez (λe=>?_) λu=>?_
        .have e:s.size=4:=by have:=of_decide_eq_true (by simpa using e:decide ((s.size:Int)=4)=true);omega
         exact g _ _ ⟨rfl,a4,by rw[e]⟩
        refine ez (λe=>?_) λv=>?_
        .have e:s.size=3:=by have:=of_decide_eq_true (by simpa using e:decide ((s.size:Int)=3)=true);omega
         exact k _ _ ⟨rfl,a4,by rw[e]⟩
        refine ez (λe=>?_) λx=>?_
        .have e:s.size=2:=by have:=of_decide_eq_true (by simpa using e:decide ((s.size:Int)=2)=true);omega
         exact f _ _ ⟨rfl,a4,by rw[e]⟩
        refine ez (λe=>?_) λy=>?_
        .have e:s.size=1:=by have:=of_decide_eq_true (by simpa using e:decide ((s.size:Int)=1)=true);omega
         exact m _ _ ⟨rfl,a4,by rw[e]⟩
        have e:s.size=0:=by
         have F:¬(s.size:Int)=1:=by simpa using y
         have L:¬(s.size:Int)=2:=by simpa using x
         have A:¬(s.size:Int)=3:=by simpa using v
         have q4:¬(s.size:Int)=4:=by simpa using u
         have G:¬(s.size:Int)=5:=by simpa using o
         have I:¬(s.size:Int)=6:=by simpa using q
         have E:¬(s.size:Int)=7:=by simpa using p
         have D:¬(s.size:Int)=8:=by simpa using w
         omega
        unfold EG at c;rw[e]at c;exact c
       .rintro t _ ⟨rfl,a,ht⟩
        obtain⟨b,hb,hv⟩:=ru (s:=s) (i:=6) a4;refine⟨b,a8,hb,a8,j _ _ ⟨rfl,a4,?_⟩⟩
        rw[<-ht,<-hv];rfl
      .rintro t _ ⟨rfl,a,ht⟩
       obtain⟨b,hb,hv⟩:=ru (s:=s) (i:=5) a4;refine⟨b,a8,hb,a8,n _ _ ⟨rfl,a4,?_⟩⟩
       rw[<-ht,<-hv];rfl
     .rintro t _ ⟨rfl,a,ht⟩
      obtain⟨b,hb,hv⟩:=ru (s:=s) (i:=4) a4;refine⟨b,a8,hb,a8,g _ _ ⟨rfl,a4,?_⟩⟩
      rw[<-ht,<-hv];rfl
    .rintro t _ ⟨rfl,a,ht⟩
     obtain⟨b,hb,hv⟩:=ru (s:=s) (i:=3) a4;refine⟨b,a8,hb,a8,k _ _ ⟨rfl,a4,?_⟩⟩
     rw[<-ht,<-hv];rfl
   .rintro t _ ⟨rfl,a,ht⟩
    obtain⟨b,hb,hv⟩:=ru (s:=s) (i:=2) a4;refine⟨b,a8,hb,a8,f _ _ ⟨rfl,a4,?_⟩⟩
    rw[<-ht,<-hv];rfl
  .rintro t _ ⟨rfl,a,ht⟩
   obtain⟨b,hb,hv⟩:=ru (s:=s) (i:=1) a4;refine⟨b,a8,hb,a8,m _ _ ⟨rfl,a4,?_⟩⟩
   rw[<-ht,<-hv];rfl
 .rintro t _ ⟨rfl,a,ht⟩
  obtain⟨b,hb,hv⟩:=ru (s:=s) (i:=0) a4;refine⟨b,a8,hb,?_⟩
  unfold EG at c;rw[<-ht]at c;rw[<-hv];exact c
def GZ(m:Int)(s:Q4):Q4:=
 let r:=pF 2 (s.1,s.2.1,s.2.2.1,gk s.2.2.2 m)
 (gk r.1 m,r.2)
theorem RY{m:Int}{s:Q4}(hb:h[b]? =some (.cells (q4 s) t (0,0))) {K:Unit->eu}
  (j:∀h',h'[b]? =some (.cells (q4 (GZ m s)) t (0,0))->Upd (· =b) h h'->K () h'):dx 212 [gV b,.int .u64 m] K h:=by
 refine Ep _ _ ?_;dsimp only[xq,fE,dh,jM,cL,BE,Pd,cB,Rh];have c:∀{h:ad} {s:Q4} {i:Nat},h[b]? =some (.cells (q4 s) t (0,0))->aI h ⟨b,0+i,none⟩=(q4 s)[i]?:=λhb=>by rw[aU];exact ba hb
 have w:∀{h:ad} {s:Q4} {i:Nat},h[b]? =some (.cells (q4 s) t (0,0))->i<4->Wr h ⟨b,0+i,none⟩:=λhb hi=>by rw[aU];exact eH hb hi
 simp only[show((0:Int)).toNat*1=0 from rfl,show((3:Int)).toNat*1=3 from rfl]
 refine⟨_,rfl,a8,_,c (i:=3) hb,_,rfl,a8,w (i:=3) hb a8,qq (s':=(s.1,s.2.1,s.2.2.1,gk s.2.2.2 m)) hb rfl λu g d=>?_⟩
 refine Km (n:=2) a4 g λq a e=>?_
 have o:GZ m s=(gk (pF 2 (s.1,s.2.1,s.2.2.1,gk s.2.2.2 m)).1 m,(pF 2 (s.1,s.2.1,s.2.2.1,gk s.2.2.2 m)).2):=by unfold GZ;rfl
 rw[o]at j;generalize pF 2 (s.1,s.2.1,s.2.2.1,gk s.2.2.2 m)=r at a j;refine⟨_,rfl,a8,_,c (i:=0) a,_,rfl,a8,w (i:=0) a a8,qq (s':=(gk r.1 m,r.2)) a rfl λp k f=>?_⟩
 exact j _ k (d.tr (e.tr f))
def G4:Nat->dO->Q4->dO×Q4
 |0,s,q=>(s,q)
 |n+1,s,q=>if 8<=s.size then G4 n (s.extract 8 s.size) (GZ (EG (s.extract 0 8)) q)else(s,q)
def aa9(r:Q4):Int:=gk (gk (gk r.1 r.2.1) r.2.2.1) r.2.2.2
def aa8(q:Q4):Int:=aa9 (pF 4 (q.1,q.2.1,gk q.2.2.1 255,q.2.2.2))
def abG(n:Nat)(g:dO×Q4):Int:=aa8 (GZ (VK (EG g.1) (abq (n:Int) 56)) g.2)
def XR(k0 k1:Int)(s:dO):Int:=
 abG s.size (G4 s.size s (gk k0 8317987319222330741,gk k1 7237128888997146477,gk k0 7816392313619706465,gk k1 8387220255154660723))
theorem Yt{r:Q4}(hb:a[b]? =some (.cells (q4 r) t (0,0))) {K:Int->Prop} (f:K (aa9 r)):
  (((0:Int)<=(0:Int)/\(0:Int)<((4:Nat):Int))/\
   ∃v30:Int,aI a (adr ⟨b,0,none⟩ ((0:Int).toNat*1))=some (.int .u64 v30)/\
   (((0:Int)<=(1:Int)/\(1:Int)<((4:Nat):Int))/\
    ∃v31:Int,aI a (adr ⟨b,0,none⟩ ((1:Int).toNat*1))=some (.int .u64 v31)/\
    Bd (ac .u64 (aB (ak .u64) v30^^^aB (ak .u64) v31).toNat:Int) (λn32=>
     (((0:Int)<=(2:Int)/\(2:Int)<((4:Nat):Int))/\
      ∃v33:Int,aI a (adr ⟨b,0,none⟩ ((2:Int).toNat*1))=some (.int .u64 v33)/\
      Bd (ac .u64 (aB (ak .u64) n32^^^aB (ak .u64) v33).toNat:Int) (λe=>
       (((0:Int)<=(3:Int)/\(3:Int)<((4:Nat):Int))/\
        ∃v35:Int,aI a (adr ⟨b,0,none⟩ ((3:Int).toNat*1))=some (.int .u64 v35)/\
        Bd (ac .u64 (aB (ak .u64) e^^^aB (ak .u64) v35).toNat:Int) (λd=>
         K d))))))):=by
 have c:∀{i:Nat},aI a ⟨b,0+i,none⟩=(q4 r)[i]?:=by intro i;rw[aU];exact ba hb
 exact⟨a8,_,c (i:=0),a8,_,c (i:=1),a8,_,c (i:=2),a8,_,c (i:=3),f⟩
theorem Ys{q:Q4}(hb:a[b]? =some (.cells (q4 q) t (0,0))) {K:Unit->eu}
  (o:∀h',h'[b]? =some (.cells (q4 (pF 4 (q.1,q.2.1,gk q.2.2.1 255,q.2.2.2))) t (0,0))->Upd (· =b) a h'->K () h'):
  (((0:Int)<=(2:Int)/\(2:Int)<((4:Nat):Int))/\
   ∃v25:Int,aI a (adr ⟨b,0,none⟩ ((2:Int).toNat*1))=some (.int .u64 v25)/\
   Bd (ac .u64 (aB (ak .u64) v25^^^aB (ak .u64) 255).toNat:Int) (λf=>
    (((0:Int)<=(2:Int)/\(2:Int)<((4:Nat):Int))/\
     (Wr a (adr ⟨b,0,none⟩ ((2:Int).toNat*1))/\
      At (hset a (adr ⟨b,0,none⟩ ((2:Int).toNat*1)) (.int .u64 f)) (λe=>
       dx 214 [gV b,.int .i64 4] K e))))):=by
 have c:∀{i:Nat},aI a ⟨b,0+i,none⟩=(q4 q)[i]?:=by intro i;rw[aU];exact ba hb
 refine⟨a8,_,c (i:=2),a8,by rw[show((2:Int)).toNat*1=2 from rfl,co];exact eH hb (by simp[q4]),?_⟩
 refine qq (s':=(q.1,q.2.1,gk q.2.2.1 255,q.2.2.2)) hb rfl λp j d=>?_
 exact Km (n:=4) a4 j λm k g=>o m k (d.tr g)
theorem bF(a:k h):At h k:=a
theorem Zt{k0 k1:Int}(B:∀h',Upd No h h'->K (XR k0 k1 s) h'):rQ 160 [.agg #[.int .u64 k0,.int .u64 k1],.string s] K h:=by
 refine cZ (Lr (k0,k1) s) UJ Tryz.func160 Tryz.call160 ?_;dsimp only[Lr,cB,fE,ai,nv,dh,jM,aaC,aag,aal,XF,BE,Iw,Nb];have k:=fD No h [.int .u64 k0,.int .u64 k1] 24;have b1:=bV h [.int .u64 k0,.int .u64 k1] 24;have J:=dA h [.int .u64 k0,.int .u64 k1] 24;refine bF ?_;simp only[cD h];generalize hnew h [.int .u64 k0,.int .u64 k1] 24=h1 at k b1 J
 refine⟨k0,by rw[co,ba b1];rfl,k1,by rw[co,ba b1];rfl,k0,by rw[co,ba b1];rfl,k1,by rw[co,ba b1];rfl,?_⟩
 have D:=fD No h1 [.int .u64 0,.int .u64 0,.int .u64 0,.int .u64 0] 311;have b2:=bV h1 [.int .u64 0,.int .u64 0,.int .u64 0,.int .u64 0] 311;simp only[cD h1];simp only[Bd];refine bF ?_;refine⟨.inr ⟨_,rfl,λj L=>by rw[co];exact eH b2 (by simp at L⊢;omega)⟩,?_⟩
 refine bF ?_;rw[ik _ _ 0 0 _ b2 a7];have b3:=dE (o:=.cells (q4 (gk k0 8317987319222330741,gk k1 7237128888997146477,gk k0 7816392313619706465,gk k1 8387220255154660723)) 311 (0,0)) b2;have C:Upd No h _:=k.tr (D.trans (M':=(· =h1.size)) (Upd.set (hnew h1 [.int .u64 0,.int .u64 0,.int .u64 0,.int .u64 0] 311) (.cells (q4 (gk k0 8317987319222330741,gk k1 7237128888997146477,gk k0 7816392313619706465,gk k1 8387220255154660723)) 311 (0,0)) rfl) λb hb=>.inr (Nat.le_of_eq hb.symm))
 refine eF (λ(g:Nat×Q4) (a:dO) h'=>a.size<=g.1/\h'[h1.size]? =some (.cells (q4 g.2) 311 (0,0))/\Upd No h h'/\G4 g.1 a g.2=G4 s.size s (gk k0 8317987319222330741,gk k1 7237128888997146477,gk k0 7816392313619706465,gk k1 8387220255154660723)) (λg=>g.1) (s.size,_)
  ⟨aj _,b3,C,rfl⟩ ?_
 rintro I ⟨n,q⟩ a h' ⟨G,hb,z,t⟩ E;(try simp only at G hb t)
 have e:∀b,b=h1.size->No b\/h.size<=b:=λb hb=>.inr a4
 refine aq (λp=>?_) λy=>?_
 .have p:8<=a.size:=by omega
  cases n with
  |zero=>omega
  |succ n=>
   refine⟨a4,RM (by rw[ly];show min 8 _-0<=8;omega) (RY hb λF d f=>⟨a4,?_⟩)⟩
   have H:((8:Int)).toNat=8:=rfl;rw[H]at d⊢;refine E (n,GZ (EG (a.extract 0 8)) q) _ _ ⟨by simp only[ly];omega,d,z.trans f e,?_⟩ (by(try simp only);omega);rw[<-t];simp only[G4,if_pos p]
 .have y:a.size<8:=by omega
  have t:(a,q)=G4 s.size s (gk k0 8317987319222330741,gk k1 7237128888997146477,gk k0 7816392313619706465,gk k1 8387220255154660723):=by
   rw[<-t];cases n with
   |zero=>rfl
   |succ n=>simp only[G4,if_neg (show ¬8<=a.size by omega)]
  have c:∀{h:ad} {s:Q4} {i:Nat},h[h1.size]? =some (.cells (q4 s) 311 (0,0))->aI h ⟨h1.size,0+i,none⟩=(q4 s)[i]?:=λhb=>by rw[aU];exact ba hb
  have w:∀{h:ad} {s:Q4} {i:Nat},h[h1.size]? =some (.cells (q4 s) 311 (0,0))->i<4->Wr h ⟨h1.size,0+i,none⟩:=λhb hi=>by rw[aU];exact eH hb hi
  have u:XR k0 k1 s=aa8 (GZ (VK (EG a) (abq (s.size:Int) 56)) q):=by unfold XR;rw[<-t];rfl
  rw[u]at B;refine RM a4 ⟨a8,RY (m:=VK (EG a) (abq (s.size:Int) 56)) hb λF d f=>?_⟩
  refine Ys d λA x v=>Yt (K:=λn=>K n A) x ?_
  exact B A ((z.trans f e).trans v e)
structure Hs where
 k0:Int
 k1:Int
 mask:Int
def jj(h:Hs)(s:dO):Int:=W7 (XR h.k0 h.k1 s) h.mask
theorem vg{x:Hs}(c:∀h',Upd No h h'->K (jj x s) h'):rQ 98 [.agg #[.int .u64 x.k0,.int .u64 x.k1,.int .u64 x.mask],.string s] K h:=by
 refine cZ (vE (x.k0,x.k1,x.mask) s) .nil Tryz.func98 Tryz.call98 ?_;unfold vE ai Cj fH aas;have a:=fD No h [.int .u64 x.k0,.int .u64 x.k1,.int .u64 x.mask] 26;have b1:=bV h [.int .u64 x.k0,.int .u64 x.k1,.int .u64 x.mask] 26;simp only[At,cD h];generalize hnew h [.int .u64 x.k0,.int .u64 x.k1,.int .u64 x.mask] 26=h1 at a b1;refine⟨x.k0,by rw[co,co,ba b1];rfl,x.k1,by rw[co,co,ba b1];rfl,x.mask,by rw[co,ba b1];rfl,?_⟩
 refine Zt λd b=>⟨by rw[co,ba (b.get0 b1)];rfl,c _ (a.tr b)⟩
theorem OK(x:Hs)(s:dO):0<=jj x s/\jj x s<18446744073709551616:=PQ _
end
section
open Go.Lift
variable {h:ad}{a b o e d c f k m:Nat}{g cw:Array Value}{j tb:TypeId}{K:f9->eu}{M W:eh}{s:f9}{xs:List aT}{x:aT}
abbrev dZ(x:dO×dO):c5:= [.string x.1,.string x.2]
theorem fP(x:dO×dO):(dZ x).length=2/\0<2:=⟨rfl,a4⟩
theorem xM:∀xs:List (dO×dO),cA (xs.flatMap dZ)=true
 | []=>rfl
 |x::xs=>by rw[aN];exact nH rfl (xM xs)
theorem Mr(hv:h[a]? =some (.cells g j (0,0))) (hb:h[b]? =some (.cells cw tb (0,0))) (m:a≠b) (n:cw.size≠0) {K:Bool->eu} (k:K false h):
  eI 267 [.slice (some ⟨a,0,none⟩) e d,.slice (some ⟨b,o,none⟩) c f] K h:=by
 refine⟨λw i=>.inr ⟨.bool false,w,?_,Tame.refl w,false,rfl,i▸k⟩⟩
 subst i;rw[td];have:=Lib.run_overlaps_apart (P:=PG) w 235 4 35 a5 (cz PG 35) (rm a5) ⟨a,0,none⟩ ⟨b,o,none⟩ e d c f m j tb g.size cw.size
  (by simp[World.shape?,hv]) (by simp[World.shape?,hb]) n (by simp[World.frozen?,hv]) (by simp[World.frozen?,hv])
 rw[show([Value.slice (some ⟨a,0,none⟩) e d,Value.slice (some ⟨b,o,none⟩) c f]:c5).toArray= #[.slice (some ⟨a,0,none⟩) e d,.slice (some ⟨b,o,none⟩) c f]from rfl,this]
 rfl
set_option maxRecDepth 4000 in
theorem QN{xs:List (dO×dO)}(S:OwnS dZ 2 35 M h s xs)(hkl:k<=xs.length)(hn:(xs.length+1)*32<=140737488355328){x:dO×dO}(hv:h[m]? =some (.cells (dZ x).toArray 35 (0,0)))
  (V:¬M m) (hM:∀b,h.size<=b->M b)  (U:∀s' h',OwnS dZ 2 35 M h' s' (xs.take k++x::xs.drop k)->Upd M h h'->K s' h'):
  dS 220 [.slice s.a s.len s.cap,.int .i64 k,.slice (some ⟨m,0,none⟩) 1 1] K h:=by
 refine cZ (il s k ⟨some ⟨m,0,none⟩,1,1⟩) nM Tryz.func220 Tryz.call220 ?_;dsimp only[il,nC,nL,ox,Nd,Ag,Ga,UA];have o:=S.len;have hcap:=S.cap;have I:SRow h (some ⟨m,0,none⟩) (1*2) (dZ x):=⟨rfl,.inr ⟨_,rfl,qN hv λi v hi=>by simpa using hi⟩⟩
 refine⟨a4,ag.2 ?_⟩;refine ez (λe=>?_) λe=>?_
 .have e:k=xs.length:=by have:=of_decide_eq_true (by simpa using e:decide ((k:Int)=(s.len:Int))=true);omega
  subst e;refine⟨_,I,AppP.own (ys:= [x]) S rfl a7 rfl rfl a4 a9 (hM _ (aj _)) λs' h' ho hu=>U s' h' ?_ hu⟩
  rw[bZ,List.drop_length];exact ho
 have hlt:k<xs.length:=by
  rcases cp k xs.length with h|h
  .exact h
  .have:((k:Int)==(s.len:Int))=true:=by rw[beq_iff_eq];omega
   rw[this]at e;cases e
 rcases S.blk with h0|⟨b,d,ha,hb,hc,hr⟩
 .omega
 have j:((xs.take k).flatMap dZ).length=k*2:=by rw[jU fP,aY,cn hkl]
 have p:((xs.drop k).flatMap dZ).length=(xs.length-k)*2:=by rw[jU fP,bo]
 have F:m≠b:=λe=>V (e▸hb)
 rw[zj (f:=dZ) xs k]at hc;have a:(xs.take k++x::xs.drop k).flatMap dZ=(xs.take k).flatMap dZ++(dZ x++(xs.drop k).flatMap dZ):=by rw[bU,aN]
 have g:=xM (xs.drop k);have c:(dZ x).length=2:=rfl;have z:cA (dZ x)=true:=rfl;generalize hAe:(xs.take k).flatMap dZ=A at j hc a;generalize hBe:(xs.drop k).flatMap dZ=B at p hc a g;generalize dZ x=X at I c hv a z;rw[ha];have w1:ac .i64 ((xs.length:Int)+((1:Nat):Int))=((xs.length+1:Nat):Int):=by rw[dw a4];omega
 have w2:ac .i64 ((k:Int)+((1:Nat):Int))=((k+1:Nat):Int):=by rw[dw a4];omega
 have w3:ac .i64 (((xs.length+1:Nat):Int)-(k:Int))=((xs.length+1-k:Nat):Int):=by rw[dw a4];omega
 simp only[w1,w2,w3,bi,o];refine aq (λhgt=>?_) λhle=>?_
 .
  have L:s.cap=xs.length:=a4
  refine fo ⟨a4,⟨a4,a4,a4,a4⟩,λhin=>?_,λG=>?_⟩
  .omega
  .refine⟨A,_,?_,rfl,a4,Go.growslice_fits G a4,λC y=>?_⟩
   .rw[sub_zero]
    exact l4 hc (by rw[j];omega) (by simp only[cH,dP];rw[ao,<-j,eX (aj _),bZ])
   .simp only[bi]at y⊢
    have Q:=fD No h (A++dg (xs.length+1-k) [.string (⟨#[]⟩:dO),.string (⟨#[]⟩:dO)]++dg (C-(k-0+(xs.length+1-k))) [.string (⟨#[]⟩:dO),.string (⟨#[]⟩:dO)]) 35;have bn:=bV h (A++dg (xs.length+1-k) [.string (⟨#[]⟩:dO),.string (⟨#[]⟩:dO)]++dg (C-(k-0+(xs.length+1-k))) [.string (⟨#[]⟩:dO),.string (⟨#[]⟩:dO)]) 35;have w:(dg (xs.length+1-k) [.string (⟨#[]⟩:dO),.string (⟨#[]⟩:dO)]).length=(xs.length+1-k)*2:=lH _ _
    have Z:(dg (C-(k-0+(xs.length+1-k))) [.string (⟨#[]⟩:dO),.string (⟨#[]⟩:dO)]).length=(C-(k-0+(xs.length+1-k)))*2:=lH _ _;have t:k-0+(xs.length+1-k)=xs.length+1:=a4
    rw[cD];have hsz:h.size≠m:=λe=>by have:=bw hv;omega
    have D:h.size≠b:=λe=>by have:=bw hc;omega
    have O:=Q.get0 hc;have H:=Q.get0 hv;generalize hnew h _ 35=h9 at Q bn O H;rw[t]at y Z⊢;have Y:dF 1 (xs.length+1-k)=1:=cn a4;have m2:dF (xs.length-k) (xs.length+1-(k+1))=xs.length-k:=cn a4;rw[Y];have xr9:SRow h9 (some ⟨m,0,none⟩) (1*2) X:=l4 H (by rw[c]) (by rw[cH,aS];rw[c];omega);refine⟨a4,?_⟩
    rw[jG a4];refine lO xr9 z bn (by simp only[ae,j,w];omega) λh11 P n=>⟨a4,?_⟩
    simp only[Bd];rw[jG a4,jG a4,m2];refine⟨a4,?_⟩;have u:=n.get O (λe=>D e.symm)
    have br:SRow h11 (some ⟨b,0+k*2,none⟩) ((xs.length-k)*2) B:=l4 u p (by
     rw[aU,ao,<-j,ii,<-p,hJ])
    refine lO br g P ?_ λh16 J N=>?_
    .simp only[ae,aY,bo,j,w,c];omega
    .refine U _ _ ⟨a9,fP,y,.inr ⟨h.size,dg (C-(xs.length+1)) [.string (⟨#[]⟩:dO),.string (⟨#[]⟩:dO)],rfl,hM _ (aj _),?_,by rw[lH];rfl⟩⟩ ((Q.wide.trans (M':=(· =h.size)) n λb hb=>.inl (hb▸hM _ (aj _))).trans (M':=(· =h.size)) N λb hb=>.inl (hb▸hM _ (aj _)))
     rw[J,a];have:=Mz (A:=A) (X:=X) (B:=B) (Z1:=dg (xs.length+1-k) [.string (⟨#[]⟩:dO),.string (⟨#[]⟩:dO)]) (Z2:=dg (C-(xs.length+1)) [.string (⟨#[]⟩:dO),.string (⟨#[]⟩:dO)]) (r:=(xs.length-k)*2) j c (by rw[w,<-gt];congr 1;omega);rw[t,<-this];simp only[aU,gt]
 .have L:xs.length+1<=s.cap:=by omega
  refine⟨a4,?_⟩;simp only[Bd,dP];rw[sub_zero,jG (show s.cap≠k+1 by omega),jG (show s.cap≠k by omega)]
  refine⟨a4,?_⟩;have hrl:2<=d.length:=by rw[hr];exact p6 _ a4
  refine Mr hv hc F (by rw[cW,ae];omega) ?_;refine aw.2 ⟨a4,a4,?_⟩
  have Y:dF 1 (xs.length+1-k)=1:=cn a4;have m2:dF (xs.length+1-k) (xs.length+1-(k+1))=xs.length-k:=by
   rw[show xs.length+1-(k+1)=xs.length-k by omega];exact qF a4
  rw[m2];have br:SRow h (some ⟨b,0+k*2,none⟩) ((xs.length-k)*2) B:=l4 hc p (by
   rw[aU,ao,<-j,ii,<-p,hJ])
  refine lO br g hc (by simp only[ae,j,p];omega) λh1 hb1 E=>⟨a4,?_⟩
  rw[Y];have W:SRow h1 (some ⟨m,0,none⟩) (1*2) X:=l4 (E.get hv F) (by rw[c]) (by rw[cH,aS];rw[c];omega);refine lO W z hb1 (by simp only[ae,aY,bo,j,p];omega) λh2 T hu2=>?_
  refine U _ _ ⟨a9,fP,L,.inr ⟨b,d.drop 2,rfl,hb,?_,?_⟩⟩ ((E.mono λ_ e=>.inl (e▸hb)).tr (hu2.mono λ_ e=>.inl (e▸hb)))
  .rw[T,a]
   have:=QP (A:=A) (X:=X) (B:=B) (R:=d) (q:=2) (r:=(xs.length-k)*2) j p hrl;rw[<-this];simp only[aU,gt]
  .rw[bo,hr]
   (try simp only)
   rw[o];omega
abbrev rh(x:aT):c5:= [.pointer x]
theorem rN(x:aT):(rh x).length=1/\0<1:=⟨rfl,a4⟩
theorem Gq:∀xs:List aT,cA (xs.flatMap rh)=true
 | []=>rfl
 |x::xs=>by rw[aN];exact nH rfl (Gq xs)
theorem Ms(hv:h[a]? =some (.cells g j (0,0))) (hb:h[b]? =some (.cells cw tb (0,0))) (m:a≠b) (n:cw.size≠0) {K:Bool->eu} (k:K false h):
  eI 269 [.slice (some ⟨a,0,none⟩) e d,.slice (some ⟨b,o,none⟩) c f] K h:=by
 refine⟨λw i=>.inr ⟨.bool false,w,?_,Tame.refl w,false,rfl,i▸k⟩⟩
 subst i;rw[rv];have:=Lib.run_overlaps_apart (P:=PG) w 239 4 47 a5 (cz PG 47) (rm a5) ⟨a,0,none⟩ ⟨b,o,none⟩ e d c f m j tb g.size cw.size
  (by simp[World.shape?,hv]) (by simp[World.shape?,hb]) n (by simp[World.frozen?,hv]) (by simp[World.frozen?,hv])
 rw[show([Value.slice (some ⟨a,0,none⟩) e d,Value.slice (some ⟨b,o,none⟩) c f]:c5).toArray= #[.slice (some ⟨a,0,none⟩) e d,.slice (some ⟨b,o,none⟩) c f]from rfl,this]
 rfl
set_option maxRecDepth 4000 in
theorem QO(S:OwnS rh 1 47 M h s xs)(hkl:k<=xs.length)(hn:(xs.length+1)*8<=140737488355328)(hv:h[m]? =some (.cells (rh x).toArray 47 (0,0)))
  (V:¬M m) (hM:∀b,h.size<=b->M b)  (U:∀s' h',OwnS rh 1 47 M h' s' (xs.take k++x::xs.drop k)->Upd M h h'->K s' h'):
  dS 223 [.slice s.a s.len s.cap,.int .i64 k,.slice (some ⟨m,0,none⟩) 1 1] K h:=by
 refine cZ (gl s k ⟨some ⟨m,0,none⟩,1,1⟩) lV Tryz.func223 Tryz.call223 ?_;dsimp only[gl,nL,ox,Nd,Ag,Ga,UA,YS];have o:=S.len;have hcap:=S.cap;have I:SRow h (some ⟨m,0,none⟩) (1*1) (rh x):=⟨rfl,.inr ⟨_,rfl,qN hv λi v hi=>by simpa using hi⟩⟩
 refine⟨a4,ag.2 ?_⟩;refine ez (λe=>?_) λe=>?_
 .have e:k=xs.length:=by have:=of_decide_eq_true (by simpa using e:decide ((k:Int)=(s.len:Int))=true);omega
  subst e;refine⟨_,I,AppP.own (ys:= [x]) S rfl a7 rfl rfl a4 a9 (hM _ (aj _)) λs' h' ho hu=>U s' h' ?_ hu⟩
  rw[bZ,List.drop_length];exact ho
 have hlt:k<xs.length:=by
  rcases cp k xs.length with h|h
  .exact h
  .have:((k:Int)==(s.len:Int))=true:=by rw[beq_iff_eq];omega
   rw[this]at e;cases e
 rcases S.blk with h0|⟨b,d,ha,hb,hc,hr⟩
 .omega
 have j:((xs.take k).flatMap rh).length=k*1:=by rw[jU rN,aY,cn hkl]
 have p:((xs.drop k).flatMap rh).length=(xs.length-k)*1:=by rw[jU rN,bo]
 have F:m≠b:=λe=>V (e▸hb)
 rw[zj (f:=rh) xs k]at hc;have a:(xs.take k++x::xs.drop k).flatMap rh=(xs.take k).flatMap rh++(rh x++(xs.drop k).flatMap rh):=by rw[bU,aN]
 have g:=Gq (xs.drop k);have c:(rh x).length=1:=rfl;have z:cA (rh x)=true:=rfl;generalize hAe:(xs.take k).flatMap rh=A at j hc a;generalize hBe:(xs.drop k).flatMap rh=B at p hc a g;generalize rh x=X at I c hv a z;rw[ha];have w1:ac .i64 ((xs.length:Int)+((1:Nat):Int))=((xs.length+1:Nat):Int):=by rw[dw a4];omega
 have w2:ac .i64 ((k:Int)+((1:Nat):Int))=((k+1:Nat):Int):=by rw[dw a4];omega
 have w3:ac .i64 (((xs.length+1:Nat):Int)-(k:Int))=((xs.length+1-k:Nat):Int):=by rw[dw a4];omega
 simp only[w1,w2,w3,bi,o];refine aq (λhgt=>?_) λhle=>?_
 .
  have L:s.cap=xs.length:=a4
  refine fo ⟨a4,⟨a4,a4,a4,a4⟩,λhin=>?_,λG=>?_⟩
  .omega
  .refine⟨A,_,?_,rfl,a4,Go.growslice_fits G a4,λC y=>?_⟩
   .rw[sub_zero]
    exact l4 hc (by rw[j];omega) (by simp only[cH,dP];rw[ao,<-j,eX (aj _),bZ])
   .simp only[bi]at y⊢
    have Q:=fD No h (A++dg (xs.length+1-k) [.pointer none]++dg (C-(k-0+(xs.length+1-k))) [.pointer none]) 47;have bn:=bV h (A++dg (xs.length+1-k) [.pointer none]++dg (C-(k-0+(xs.length+1-k))) [.pointer none]) 47;have w:(dg (xs.length+1-k) [.pointer none]).length=(xs.length+1-k)*1:=lH _ _;have Z:(dg (C-(k-0+(xs.length+1-k))) [.pointer none]).length=(C-(k-0+(xs.length+1-k)))*1:=lH _ _
    have t:k-0+(xs.length+1-k)=xs.length+1:=a4
    rw[cD];have hsz:h.size≠m:=λe=>by have:=bw hv;omega
    have D:h.size≠b:=λe=>by have:=bw hc;omega
    have O:=Q.get0 hc;have H:=Q.get0 hv;generalize hnew h _ 47=h9 at Q bn O H;rw[t]at y Z⊢;have Y:dF 1 (xs.length+1-k)=1:=cn a4;have m2:dF (xs.length-k) (xs.length+1-(k+1))=xs.length-k:=cn a4;rw[Y];have xr9:SRow h9 (some ⟨m,0,none⟩) (1*1) X:=l4 H (by rw[c]) (by rw[cH,aS];rw[c];omega);refine⟨a4,?_⟩
    rw[jG a4];refine lO xr9 z bn (by simp only[ae,j,w];omega) λh11 P n=>⟨a4,?_⟩
    simp only[Bd];rw[jG a4,jG a4,m2];refine⟨a4,?_⟩;have u:=n.get O (λe=>D e.symm)
    have br:SRow h11 (some ⟨b,0+k*1,none⟩) ((xs.length-k)*1) B:=l4 u p (by
     rw[aU,ao,<-j,ii,<-p,hJ])
    refine lO br g P ?_ λh16 J N=>?_
    .simp only[ae,aY,bo,j,w,c];omega
    .refine U _ _ ⟨a9,rN,y,.inr ⟨h.size,dg (C-(xs.length+1)) [.pointer none],rfl,hM _ (aj _),?_,by rw[lH];rfl⟩⟩ ((Q.wide.trans (M':=(· =h.size)) n λb hb=>.inl (hb▸hM _ (aj _))).trans (M':=(· =h.size)) N λb hb=>.inl (hb▸hM _ (aj _)))
     rw[J,a];have:=Mz (A:=A) (X:=X) (B:=B) (Z1:=dg (xs.length+1-k) [.pointer none]) (Z2:=dg (C-(xs.length+1)) [.pointer none]) (r:=(xs.length-k)*1) j c (by rw[w,<-gt];congr 1;omega);rw[t,<-this];simp only[aU,gt]
 .have L:xs.length+1<=s.cap:=by omega
  refine⟨a4,?_⟩;simp only[Bd,dP];rw[sub_zero,jG (show s.cap≠k+1 by omega),jG (show s.cap≠k by omega)]
  refine⟨a4,?_⟩;have hrl:1<=d.length:=by rw[hr];exact p6 _ a4
  refine Ms hv hc F (by rw[cW,ae];omega) ?_;refine aw.2 ⟨a4,a4,?_⟩
  have Y:dF 1 (xs.length+1-k)=1:=cn a4;have m2:dF (xs.length+1-k) (xs.length+1-(k+1))=xs.length-k:=by
   rw[show xs.length+1-(k+1)=xs.length-k by omega];exact qF a4
  rw[m2];have br:SRow h (some ⟨b,0+k*1,none⟩) ((xs.length-k)*1) B:=l4 hc p (by
   rw[aU,ao,<-j,ii,<-p,hJ])
  refine lO br g hc (by simp only[ae,j,p];omega) λh1 hb1 E=>⟨a4,?_⟩
  rw[Y];have W:SRow h1 (some ⟨m,0,none⟩) (1*1) X:=l4 (E.get hv F) (by rw[c]) (by rw[cH,aS];rw[c];omega);refine lO W z hb1 (by simp only[ae,aY,bo,j,p];omega) λh2 T hu2=>?_
  refine U _ _ ⟨a9,rN,L,.inr ⟨b,d.drop 1,rfl,hb,?_,?_⟩⟩ ((E.mono λ_ e=>.inl (e▸hb)).tr (hu2.mono λ_ e=>.inl (e▸hb)))
  .rw[T,a]
   have:=QP (A:=A) (X:=X) (B:=B) (R:=d) (q:=1) (r:=(xs.length-k)*1) j p hrl;rw[<-this];simp only[aU,gt]
  .rw[bo,hr]
   (try simp only)
   rw[o];omega
abbrev qo(x:aT):c5:= [.pointer x]
theorem pE(x:aT):(qo x).length=1/\0<1:=⟨rfl,a4⟩
theorem Gp:∀xs:List aT,cA (xs.flatMap qo)=true
 | []=>rfl
 |x::xs=>by rw[aN];exact nH rfl (Gp xs)
theorem Mq(hv:h[a]? =some (.cells g j (0,0))) (hb:h[b]? =some (.cells cw tb (0,0))) (m:a≠b) (n:cw.size≠0) {K:Bool->eu} (k:K false h):
  eI 209 [.slice (some ⟨a,0,none⟩) e d,.slice (some ⟨b,o,none⟩) c f] K h:=by
 refine⟨λw i=>.inr ⟨.bool false,w,?_,Tame.refl w,false,rfl,i▸k⟩⟩
 subst i;rw[qw];have:=Lib.run_overlaps_apart (P:=PG) w 173 4 48 a5 (cz PG 48) (rm a5) ⟨a,0,none⟩ ⟨b,o,none⟩ e d c f m j tb g.size cw.size
  (by simp[World.shape?,hv]) (by simp[World.shape?,hb]) n (by simp[World.frozen?,hv]) (by simp[World.frozen?,hv])
 rw[show([Value.slice (some ⟨a,0,none⟩) e d,Value.slice (some ⟨b,o,none⟩) c f]:c5).toArray= #[.slice (some ⟨a,0,none⟩) e d,.slice (some ⟨b,o,none⟩) c f]from rfl,this]
 rfl
set_option maxRecDepth 4000 in
theorem QM(S:OwnS qo 1 48 M h s xs)(hkl:k<=xs.length)(hn:(xs.length+1)*8<=140737488355328)(hv:h[m]? =some (.cells (qo x).toArray 48 (0,0)))
  (V:¬M m) (hM:∀b,h.size<=b->M b)  (U:∀s' h',OwnS qo 1 48 M h' s' (xs.take k++x::xs.drop k)->Upd M h h'->K s' h'):
  dS 156 [.slice s.a s.len s.cap,.int .i64 k,.slice (some ⟨m,0,none⟩) 1 1] K h:=by
 refine cZ (fI s k ⟨some ⟨m,0,none⟩,1,1⟩) kM Tryz.func156 Tryz.call156 ?_;dsimp only[fI,nL,ox,Nd,Ag,Ga,UA,YS];have o:=S.len;have hcap:=S.cap;have I:SRow h (some ⟨m,0,none⟩) (1*1) (qo x):=⟨rfl,.inr ⟨_,rfl,qN hv λi v hi=>by simpa using hi⟩⟩
 refine⟨a4,ag.2 ?_⟩;refine ez (λe=>?_) λe=>?_
 .have e:k=xs.length:=by have:=of_decide_eq_true (by simpa using e:decide ((k:Int)=(s.len:Int))=true);omega
  subst e;refine⟨_,I,AppP.own (ys:= [x]) S rfl a7 rfl rfl a4 a9 (hM _ (aj _)) λs' h' ho hu=>U s' h' ?_ hu⟩
  rw[bZ,List.drop_length];exact ho
 have hlt:k<xs.length:=by
  rcases cp k xs.length with h|h
  .exact h
  .have:((k:Int)==(s.len:Int))=true:=by rw[beq_iff_eq];omega
   rw[this]at e;cases e
 rcases S.blk with h0|⟨b,d,ha,hb,hc,hr⟩
 .omega
 have j:((xs.take k).flatMap qo).length=k*1:=by rw[jU pE,aY,cn hkl]
 have p:((xs.drop k).flatMap qo).length=(xs.length-k)*1:=by rw[jU pE,bo]
 have F:m≠b:=λe=>V (e▸hb)
 rw[zj (f:=qo) xs k]at hc;have a:(xs.take k++x::xs.drop k).flatMap qo=(xs.take k).flatMap qo++(qo x++(xs.drop k).flatMap qo):=by rw[bU,aN]
 have g:=Gp (xs.drop k);have c:(qo x).length=1:=rfl;have z:cA (qo x)=true:=rfl;generalize hAe:(xs.take k).flatMap qo=A at j hc a;generalize hBe:(xs.drop k).flatMap qo=B at p hc a g;generalize qo x=X at I c hv a z;rw[ha];have w1:ac .i64 ((xs.length:Int)+((1:Nat):Int))=((xs.length+1:Nat):Int):=by rw[dw a4];omega
 have w2:ac .i64 ((k:Int)+((1:Nat):Int))=((k+1:Nat):Int):=by rw[dw a4];omega
 have w3:ac .i64 (((xs.length+1:Nat):Int)-(k:Int))=((xs.length+1-k:Nat):Int):=by rw[dw a4];omega
 simp only[w1,w2,w3,bi,o];refine aq (λhgt=>?_) λhle=>?_
 .
  have L:s.cap=xs.length:=a4
  refine fo ⟨a4,⟨a4,a4,a4,a4⟩,λhin=>?_,λG=>?_⟩
  .omega
  .refine⟨A,_,?_,rfl,a4,Go.growslice_fits G a4,λC y=>?_⟩
   .rw[sub_zero]
    exact l4 hc (by rw[j];omega) (by simp only[cH,dP];rw[ao,<-j,eX (aj _),bZ])
   .simp only[bi]at y⊢
    have Q:=fD No h (A++dg (xs.length+1-k) [.pointer none]++dg (C-(k-0+(xs.length+1-k))) [.pointer none]) 48;have bn:=bV h (A++dg (xs.length+1-k) [.pointer none]++dg (C-(k-0+(xs.length+1-k))) [.pointer none]) 48;have w:(dg (xs.length+1-k) [.pointer none]).length=(xs.length+1-k)*1:=lH _ _;have Z:(dg (C-(k-0+(xs.length+1-k))) [.pointer none]).length=(C-(k-0+(xs.length+1-k)))*1:=lH _ _
    have t:k-0+(xs.length+1-k)=xs.length+1:=a4
    rw[cD];have hsz:h.size≠m:=λe=>by have:=bw hv;omega
    have D:h.size≠b:=λe=>by have:=bw hc;omega
    have O:=Q.get0 hc;have H:=Q.get0 hv;generalize hnew h _ 48=h9 at Q bn O H;rw[t]at y Z⊢;have Y:dF 1 (xs.length+1-k)=1:=cn a4;have m2:dF (xs.length-k) (xs.length+1-(k+1))=xs.length-k:=cn a4;rw[Y];have xr9:SRow h9 (some ⟨m,0,none⟩) (1*1) X:=l4 H (by rw[c]) (by rw[cH,aS];rw[c];omega);refine⟨a4,?_⟩
    rw[jG a4];refine lO xr9 z bn (by simp only[ae,j,w];omega) λh11 P n=>⟨a4,?_⟩
    simp only[Bd];rw[jG a4,jG a4,m2];refine⟨a4,?_⟩;have u:=n.get O (λe=>D e.symm)
    have br:SRow h11 (some ⟨b,0+k*1,none⟩) ((xs.length-k)*1) B:=l4 u p (by
     rw[aU,ao,<-j,ii,<-p,hJ])
    refine lO br g P ?_ λh16 J N=>?_
    .simp only[ae,aY,bo,j,w,c];omega
    .refine U _ _ ⟨a9,pE,y,.inr ⟨h.size,dg (C-(xs.length+1)) [.pointer none],rfl,hM _ (aj _),?_,by rw[lH];rfl⟩⟩ ((Q.wide.trans (M':=(· =h.size)) n λb hb=>.inl (hb▸hM _ (aj _))).trans (M':=(· =h.size)) N λb hb=>.inl (hb▸hM _ (aj _)))
     rw[J,a];have:=Mz (A:=A) (X:=X) (B:=B) (Z1:=dg (xs.length+1-k) [.pointer none]) (Z2:=dg (C-(xs.length+1)) [.pointer none]) (r:=(xs.length-k)*1) j c (by rw[w,<-gt];congr 1;omega);rw[t,<-this];simp only[aU,gt]
 .have L:xs.length+1<=s.cap:=by omega
  refine⟨a4,?_⟩;simp only[Bd,dP];rw[sub_zero,jG (show s.cap≠k+1 by omega),jG (show s.cap≠k by omega)]
  refine⟨a4,?_⟩;have hrl:1<=d.length:=by rw[hr];exact p6 _ a4
  refine Mq hv hc F (by rw[cW,ae];omega) ?_;refine aw.2 ⟨a4,a4,?_⟩
  have Y:dF 1 (xs.length+1-k)=1:=cn a4;have m2:dF (xs.length+1-k) (xs.length+1-(k+1))=xs.length-k:=by
   rw[show xs.length+1-(k+1)=xs.length-k by omega];exact qF a4
  rw[m2];have br:SRow h (some ⟨b,0+k*1,none⟩) ((xs.length-k)*1) B:=l4 hc p (by
   rw[aU,ao,<-j,ii,<-p,hJ])
  refine lO br g hc (by simp only[ae,j,p];omega) λh1 hb1 E=>⟨a4,?_⟩
  rw[Y];have W:SRow h1 (some ⟨m,0,none⟩) (1*1) X:=l4 (E.get hv F) (by rw[c]) (by rw[cH,aS];rw[c];omega);refine lO W z hb1 (by simp only[ae,aY,bo,j,p];omega) λh2 T hu2=>?_
  refine U _ _ ⟨a9,pE,L,.inr ⟨b,d.drop 1,rfl,hb,?_,?_⟩⟩ ((E.mono λ_ e=>.inl (e▸hb)).tr (hu2.mono λ_ e=>.inl (e▸hb)))
  .rw[T,a]
   have:=QP (A:=A) (X:=X) (B:=B) (R:=d) (q:=1) (r:=(xs.length-k)*1) j p hrl;rw[<-this];simp only[aU,gt]
  .rw[bo,hr]
   (try simp only)
   rw[o];omega
theorem w6{xs:List (dO×dO)}(d:Sl dZ 2 W h s xs)(m:xs.length*32<=140737488355328)
  (g:∀s' h',OwnS dZ 2 35 (λb=>h.size<=b) h' s' xs->Upd No h h'->K s' h'):dS 197 [.slice s.a s.len s.cap] K h:=by
 refine cZ (iK s) .nil Tryz.func197 Tryz.call197 ?_;unfold iK nC;refine ez (λc=>?_) (λi=>?_)
 .have c:s.a=none:=by simpa using c
  have hx:xs= []:=by
   by_cases hx:xs= []
   .exact hx
   .obtain⟨a,e,_⟩:=d.row hx
    rw[c]at e;cases e
  subst hx;exact g _ _ (OwnS.nil fP) (eQ _ _)
 .have n:=d.upd (fD No h [] 35) (λ_ h=>h.elim)
  refine⟨_,n.srow,?_⟩;refine AppP.own (f:=dZ) (M:=λb=>h.size<=b) (xs:= []) (ys:=xs) ⟨rfl,fP,aj _,.inl rfl⟩ d.len rfl (xM xs) rfl a4 (by simpa using m) (by rw[dA];omega) λs' h' j k=>?_
  exact g _ _ j ((fD No h [] 35).trans k λb hb=>.inr hb)
theorem Q5{xs:List (dO×dO)}(y:OwnS dZ 2 35 M h s xs)(u:k<xs.length)(L:xs.length<=4398046511104)
  (E:∀s' h',OwnS dZ 2 35 M h' s' (xs.take k++xs.drop (k+1))->Upd M h h'->K s' h'):
  dS 264 [.slice s.a s.len s.cap,.int .i64 k,.int .i64 ((k+1:Nat):Int)] K h:=by
 refine cZ (im s k ((k+1:Nat):Int)) nN Tryz.func264 Tryz.call264 ?_;dsimp only[im,nC,nL,ox,UE,UD,Ux];have f:=y.len;have z:=y.cap;rcases y.blk with N|⟨b,a,H,hb,hc,C⟩
 .omega
 have p:((xs.take k).flatMap dZ).length=k*2:=by rw[jU fP,aY,cn a4]
 have m:((xs.drop (k+1)).flatMap dZ).length=(xs.length-(k+1))*2:=by rw[jU fP,bo]
 have F:xs.flatMap dZ=(xs.take k).flatMap dZ++(dZ xs[k]++(xs.drop (k+1)).flatMap dZ):=by
  rw[<-aN,<-gC u];exact zj xs k
 rw[F]at hc;have d:=xM (xs.drop (k+1));have c:(xs.take k++xs.drop (k+1)).flatMap dZ=(xs.take k).flatMap dZ++(xs.drop (k+1)).flatMap dZ:=bU;have I:(dZ xs[k]).length=2:=rfl;generalize (xs.take k).flatMap dZ=A at p hc c;generalize (xs.drop (k+1)).flatMap dZ=B at m hc d c;generalize dZ xs[k]=X at I hc;rw[H];simp only[f,bi];refine⟨a4,a4,a4,ez (λe=>?_) λ_=>?_⟩
 .have:(k:Int)=((k+1:Nat):Int):=by simpa using e
  omega
 refine fo ⟨a4,a4,B,?_,?_⟩
 .by_cases j:xs.length=k+1
  .exact⟨m,.inl (aJ.1 (by rw[m,j,iQ,yd]))⟩
  rw[jG a4];refine l4 hc m ?_;have:(A++X).length=0+(k+1)*2:=by rw[ae];omega
  rw[show A++(X++B)++a=(A++X)++(B++a) by simp only[ao],cJ this,cR m]
 .rw[sub_zero]
  refine Rc hc (by simp only[ae];omega) a4 d λO g q=>?_
  have x:a.length=(s.cap-xs.length)*2:=by rw[C,f]
  refine⟨by dsimp only;omega,by dsimp only;omega,?_⟩
  simp only[Bd];rw[jG a4];have en:xs.length-(k-0+(xs.length-(k+1)))=1:=a4
  have t:(A++(X++B)++a).drop ((k-0)*2+B.length)=(X++B).drop B.length++a:=by
   rw[ao,<-cS,cJ (show A.length=(k-0)*2 by rw[p,dP]),eZ (by rw[ae];omega)]
  have w:(A++(X++B)++a).take ((k-0)*2)=A:=by rw[ao,cR (show A.length=(k-0)*2 by rw[p,dP])]
  rw[t,w]at g;have o:((X++B).drop B.length).length=2:=by rw[bo,ae];omega
  generalize (X++B).drop B.length=D at o g;rw[en];have G:(dg 1 [.string (⟨#[]⟩:dO),.string (⟨#[]⟩:dO)]).length=2:=rfl;have i:(A++B).length=0+(k-0+(xs.length-(k+1)))*2:=by rw[ae,p,m];omega
  refine Gm g (by simp only[ae]at i⊢;omega) λJ n v=>?_
  rw[cR i,<-cS,cJ i]at n;refine E _ _ ⟨a9,fP,by(try simp only);omega,.inr ⟨b,dg 1 [.string (⟨#[]⟩:dO),.string (⟨#[]⟩:dO)]++(D++a).drop (dg 1 [.string (⟨#[]⟩:dO),.string (⟨#[]⟩:dO)]).length,rfl,hb,?_,?_⟩⟩ ((q.mono λ_ e=>.inl (e▸hb)).tr (v.mono λ_ e=>.inl (e▸hb)))
  .rw[n,c];simp only[ao]
  .simp only[ae,bo,G,o,x]
   omega
theorem Ee(d:Sl rh 1 W h s xs)(m:xs.length*8<=140737488355328)
  (g:∀s' h',OwnS rh 1 47 (λb=>h.size<=b) h' s' xs->Upd No h h'->K s' h'):dS 198 [.slice s.a s.len s.cap] K h:=by
 refine cZ (gH s) .nil Tryz.func198 Tryz.call198 ?_;unfold gH;refine ez (λc=>?_) (λi=>?_)
 .have c:s.a=none:=by simpa using c
  have hx:xs= []:=by
   by_cases hx:xs= []
   .exact hx
   .obtain⟨a,e,_⟩:=d.row hx
    rw[c]at e;cases e
  subst hx;exact g _ _ (OwnS.nil rN) (eQ _ _)
 .have n:=d.upd (fD No h [] 47) (λ_ h=>h.elim)
  refine⟨_,n.srow,?_⟩;refine AppP.own (f:=rh) (M:=λb=>h.size<=b) (xs:= []) (ys:=xs) ⟨rfl,rN,aj _,.inl rfl⟩ d.len rfl (Gq xs) rfl a4 (by simpa using m) (by rw[dA];omega) λs' h' j k=>?_
  exact g _ _ j ((fD No h [] 47).trans k λb hb=>.inr hb)
theorem Q6(y:OwnS rh 1 47 M h s xs)(u:k<xs.length)(L:xs.length<=4398046511104)
  (E:∀s' h',OwnS rh 1 47 M h' s' (xs.take k++xs.drop (k+1))->Upd M h h'->K s' h'):
  dS 265 [.slice s.a s.len s.cap,.int .i64 k,.int .i64 ((k+1:Nat):Int)] K h:=by
 refine cZ (gn s k ((k+1:Nat):Int)) lW Tryz.func265 Tryz.call265 ?_;dsimp only[gn,nL,ox,UE,UD,Ux];have f:=y.len;have z:=y.cap;rcases y.blk with N|⟨b,a,H,hb,hc,C⟩
 .omega
 have p:((xs.take k).flatMap rh).length=k*1:=by rw[jU rN,aY,cn a4]
 have m:((xs.drop (k+1)).flatMap rh).length=(xs.length-(k+1))*1:=by rw[jU rN,bo]
 have F:xs.flatMap rh=(xs.take k).flatMap rh++(rh xs[k]++(xs.drop (k+1)).flatMap rh):=by
  rw[<-aN,<-gC u];exact zj xs k
 rw[F]at hc;have d:=Gq (xs.drop (k+1));have c:(xs.take k++xs.drop (k+1)).flatMap rh=(xs.take k).flatMap rh++(xs.drop (k+1)).flatMap rh:=bU;have I:(rh xs[k]).length=1:=rfl;generalize (xs.take k).flatMap rh=A at p hc c;generalize (xs.drop (k+1)).flatMap rh=B at m hc d c;generalize rh xs[k]=X at I hc;rw[H];simp only[f,bi];refine⟨a4,a4,a4,ez (λe=>?_) λ_=>?_⟩
 .have:(k:Int)=((k+1:Nat):Int):=by simpa using e
  omega
 refine fo ⟨a4,a4,B,?_,?_⟩
 .by_cases j:xs.length=k+1
  .exact⟨m,.inl (aJ.1 (by rw[m,j,iQ,yd]))⟩
  rw[jG a4];refine l4 hc m ?_;have:(A++X).length=0+(k+1)*1:=by rw[ae];omega
  rw[show A++(X++B)++a=(A++X)++(B++a) by simp only[ao],cJ this,cR m]
 .rw[sub_zero]
  refine Rc hc (by simp only[ae];omega) a4 d λO g q=>?_
  have x:a.length=(s.cap-xs.length)*1:=by rw[C,f]
  refine⟨by dsimp only;omega,by dsimp only;omega,?_⟩
  simp only[Bd];rw[jG a4];have en:xs.length-(k-0+(xs.length-(k+1)))=1:=a4
  have t:(A++(X++B)++a).drop ((k-0)*1+B.length)=(X++B).drop B.length++a:=by
   rw[ao,<-cS,cJ (show A.length=(k-0)*1 by rw[p,dP]),eZ (by rw[ae];omega)]
  have w:(A++(X++B)++a).take ((k-0)*1)=A:=by rw[ao,cR (show A.length=(k-0)*1 by rw[p,dP])]
  rw[t,w]at g;have o:((X++B).drop B.length).length=1:=by rw[bo,ae];omega
  generalize (X++B).drop B.length=D at o g;rw[en];have G:(dg 1 [.pointer none]).length=1:=rfl;have i:(A++B).length=0+(k-0+(xs.length-(k+1)))*1:=by rw[ae,p,m];omega
  refine Gm g (by simp only[ae]at i⊢;omega) λJ n v=>?_
  rw[cR i,<-cS,cJ i]at n;refine E _ _ ⟨a9,rN,by(try simp only);omega,.inr ⟨b,dg 1 [.pointer none]++(D++a).drop (dg 1 [.pointer none]).length,rfl,hb,?_,?_⟩⟩ ((q.mono λ_ e=>.inl (e▸hb)).tr (v.mono λ_ e=>.inl (e▸hb)))
  .rw[n,c];simp only[ao]
  .simp only[ae,bo,G,o,x]
   omega
theorem Lk(d:Sl qo 1 W h s xs)(m:xs.length*8<=140737488355328)
  (g:∀s' h',OwnS qo 1 48 (λb=>h.size<=b) h' s' xs->Upd No h h'->K s' h'):dS 205 [.slice s.a s.len s.cap] K h:=by
 refine cZ (fR s) .nil Tryz.func205 Tryz.call205 ?_;unfold fR;refine ez (λc=>?_) (λi=>?_)
 .have c:s.a=none:=by simpa using c
  have hx:xs= []:=by
   by_cases hx:xs= []
   .exact hx
   .obtain⟨a,e,_⟩:=d.row hx
    rw[c]at e;cases e
  subst hx;exact g _ _ (OwnS.nil pE) (eQ _ _)
 .have n:=d.upd (fD No h [] 48) (λ_ h=>h.elim)
  refine⟨_,n.srow,?_⟩;refine AppP.own (f:=qo) (M:=λb=>h.size<=b) (xs:= []) (ys:=xs) ⟨rfl,pE,aj _,.inl rfl⟩ d.len rfl (Gp xs) rfl a4 (by simpa using m) (by rw[dA];omega) λs' h' j k=>?_
  exact g _ _ j ((fD No h [] 48).trans k λb hb=>.inr hb)
theorem Q3(y:OwnS qo 1 48 M h s xs)(u:k<xs.length)(L:xs.length<=4398046511104)
  (E:∀s' h',OwnS qo 1 48 M h' s' (xs.take k++xs.drop (k+1))->Upd M h h'->K s' h'):
  dS 247 [.slice s.a s.len s.cap,.int .i64 k,.int .i64 ((k+1:Nat):Int)] K h:=by
 refine cZ (fJ s k ((k+1:Nat):Int)) kN Tryz.func247 Tryz.call247 ?_;dsimp only[fJ,nL,ox,UE,UD,Ux];have f:=y.len;have z:=y.cap;rcases y.blk with N|⟨b,a,H,hb,hc,C⟩
 .omega
 have p:((xs.take k).flatMap qo).length=k*1:=by rw[jU pE,aY,cn a4]
 have m:((xs.drop (k+1)).flatMap qo).length=(xs.length-(k+1))*1:=by rw[jU pE,bo]
 have F:xs.flatMap qo=(xs.take k).flatMap qo++(qo xs[k]++(xs.drop (k+1)).flatMap qo):=by
  rw[<-aN,<-gC u];exact zj xs k
 rw[F]at hc;have d:=Gp (xs.drop (k+1));have c:(xs.take k++xs.drop (k+1)).flatMap qo=(xs.take k).flatMap qo++(xs.drop (k+1)).flatMap qo:=bU;have I:(qo xs[k]).length=1:=rfl;generalize (xs.take k).flatMap qo=A at p hc c;generalize (xs.drop (k+1)).flatMap qo=B at m hc d c;generalize qo xs[k]=X at I hc;rw[H];simp only[f,bi];refine⟨a4,a4,a4,ez (λe=>?_) λ_=>?_⟩
 .have:(k:Int)=((k+1:Nat):Int):=by simpa using e
  omega
 refine fo ⟨a4,a4,B,?_,?_⟩
 .by_cases j:xs.length=k+1
  .exact⟨m,.inl (aJ.1 (by rw[m,j,iQ,yd]))⟩
  rw[jG a4];refine l4 hc m ?_;have:(A++X).length=0+(k+1)*1:=by rw[ae];omega
  rw[show A++(X++B)++a=(A++X)++(B++a) by simp only[ao],cJ this,cR m]
 .rw[sub_zero]
  refine Rc hc (by simp only[ae];omega) a4 d λO g q=>?_
  have x:a.length=(s.cap-xs.length)*1:=by rw[C,f]
  refine⟨by dsimp only;omega,by dsimp only;omega,?_⟩
  simp only[Bd];rw[jG a4];have en:xs.length-(k-0+(xs.length-(k+1)))=1:=a4
  have t:(A++(X++B)++a).drop ((k-0)*1+B.length)=(X++B).drop B.length++a:=by
   rw[ao,<-cS,cJ (show A.length=(k-0)*1 by rw[p,dP]),eZ (by rw[ae];omega)]
  have w:(A++(X++B)++a).take ((k-0)*1)=A:=by rw[ao,cR (show A.length=(k-0)*1 by rw[p,dP])]
  rw[t,w]at g;have o:((X++B).drop B.length).length=1:=by rw[bo,ae];omega
  generalize (X++B).drop B.length=D at o g;rw[en];have G:(dg 1 [.pointer none]).length=1:=rfl;have i:(A++B).length=0+(k-0+(xs.length-(k+1)))*1:=by rw[ae,p,m];omega
  refine Gm g (by simp only[ae]at i⊢;omega) λJ n v=>?_
  rw[cR i,<-cS,cJ i]at n;refine E _ _ ⟨a9,pE,by(try simp only);omega,.inr ⟨b,dg 1 [.pointer none]++(D++a).drop (dg 1 [.pointer none]).length,rfl,hb,?_,?_⟩⟩ ((q.mono λ_ e=>.inl (e▸hb)).tr (v.mono λ_ e=>.inl (e▸hb)))
  .rw[n,c];simp only[ao]
  .simp only[ae,bo,G,o,x]
   omega
end
section
open Go.Lift
variable {a b k:dO}{h:ad}{K:Int->eu}{i n m:Nat}{s:f9}
abbrev Pr:=dO×dO
theorem z6{a b:dO}:a.toList=b.toList↔a=b:=by
 constructor
 .intro h
  rw[ByteArray.toList_eq,ByteArray.toList_eq]at h;cases a;cases b;simp at h;subst h;rfl
 .rintro rfl;rfl
def kl(a b:dO):Prop:=bM a.toList b.toList=true
instance (a b:dO):Decidable (kl a b):=inferInstanceAs (Decidable (_=true))
theorem Mx:kl a b↔a.toList<b.toList:=by unfold kl;rw[bytesLess_eq,decide_eq_true_iff]
theorem bT(a:dO):¬kl a a:=by rw[Mx];exact List.lt_irrefl _
theorem dI{c:dO}(h:kl a b)(k:kl b c):kl a c:=by rw[Mx]at*;exact List.lt_trans h k
theorem tri:∀x y:c6,bM x y=false->x≠y->bM y x=true
 | [],[],_,h=>absurd rfl h
 | [],_::_,h,_=>by simp[bM]at h
 |_::_,[],_,_=>rfl
 |a::x,b::y,h,hn=>by
  simp only[bM,Bool.or_eq_false_iff,decide_eq_false_iff_not,Bool.and_eq_false_iff]at h;simp only[bM,Bool.or_eq_true,decide_eq_true_iff,Bool.and_eq_true];by_cases e:a=b
  .subst e
   right;refine⟨a7,tri x y ?_ λe=>hn (by rw[e])⟩
   rcases h.2 with h|h
   .simp at h
   .exact h
  .left
   have c:=h.1;rw[UInt8.lt_iff_toNat_lt]at c⊢;have:a.toNat≠b.toNat:=λh=>e (UInt8.toNat_inj.1 h)
   omega
theorem l8(h:¬kl a b)(k:a≠b):kl b a:=tri _ _ (by unfold kl at h;simpa using h) λe=>k (z6.1 e)
def wZ(a b:dO):Int:=if kl a b then-1 else if a=b then 0 else 1
theorem OB{x:dO}{K:Bool->eu}(a:K false h):eI 182 [.string x] K h:=by
 refine cZ (yB x) .nil Tryz.func182 Tryz.call182 ?_;unfold yB;simpa using a
theorem Ia(c:K (wZ a b) h):fK 123 [.string a,.string b] K h:=by
 refine cZ (vT a b) .nil Tryz.func123 Tryz.call123 ?_;unfold vT;refine OB (OB (ag.2 (ag.2 ?_)));unfold wZ at c;refine ez (λe=>?_) λe=>?_
 .rw[if_pos (show kl a b from e)]at c;exact c
 .have f:¬kl a b:=λh=>by rw[show bM a.toList b.toList=true from h]at e;cases e
  rw[if_neg f]at c;rw[e];refine ez (λd=>?_) λd=>?_
  .rw[if_neg (λh=>by subst h;simp at d)]at c;exact c
  .have:a.toList=b.toList:=by simpa using d
   rw[if_pos (z6.1 this)]at c;exact c
theorem Oj{p:Pr}(a:∀h',Upd No h h'->K (wZ p.1 k) h'):fK 261 [.agg #[.string p.1,.string p.2],.string k] K h:=by
 refine cZ (Dg p k) .nil Tryz.func261 Tryz.call261 ?_;dsimp only[Dg,lG,gj,bq,rx,yI];have b1:=bV h [.string p.1,.string p.2] 35;refine⟨p.1,by rw[cD,co,ba b1];rfl,Ia (a _ (fD No h _ _))⟩
abbrev bO(l:bY):Prop:=l.Pairwise λp q=>kl p.1 q.1
def pos(l:bY)(k:dO):Nat:=(l.takeWhile λp=>decide (kl p.1 k)).length
def cE(l:bY)(k:dO):Bool:=l.any λp=>decide (p.1=k)
theorem VE{l:bY}(hi:i<=l.length)(a:∀j (h:j<l.length),j<i->kl l[j].1 k)(b:∀(h:i<l.length),¬kl l[i].1 k):pos l k=i:=by
 unfold pos;induction l generalizing i with
 |nil=>simp at hi;simp[hi]
 |cons p l ih=>
  rw[List.takeWhile_cons];cases i with
  |zero=>
   have:=b a7;simp only[dR]at this;rw[if_neg (by simpa using this)];rfl
  |succ i=>
   have:=a 0 a7 a4;simp only[dR]at this;rw[if_pos (by simpa using this),List.length_cons];congr 1
   refine ih (by simpa using hi) (λj d c=>?_) λh=>?_
   .have:=a (j+1) (by simpa using d) a4
    simpa using this
   .have:=b (by simpa using h)
    simpa using this
theorem VF(l:bY)(k:dO):pos l k<=l.length:=by
 unfold pos;exact(List.takeWhile_prefix _).length_le
theorem MJ{W:eh}{l:bY}(V:Sl dZ 2 W h s l)(Z:bO l)(hn:l.length<=1000000000)(k:dO){K:Int×Bool->eu}
  (E:∀h',Upd No h h'->K ((pos l k:Int),cE l k) h'):uP 215 [.slice s.a s.len s.cap,.string k] K h:=by
 refine cZ (Fy s k) .nil Tryz.func215 Tryz.call215 ?_;unfold Fy;refine ja s k _ ?_;dsimp only[ef,qf,tQ,DE,cP,jz,fE,Nf];have U:=V.len;have H:∀{p:Pr} {h:ad} {K:Int->eu},(∀h',Upd No h h'->K (wZ p.1 k) h')->HV PG (.func (.func 261) #[] #[]) [.agg #[.string p.1,.string p.2],.string k] [.c (.int .i64)] K h:=λE=>HV.mk' (Oj E)
 refine eF (λ(g:Nat×Nat) (t:Int×Int) h'=>t.1=(g.1:Int)/\t.2=(g.2:Int)/\g.1<=g.2/\g.2<=l.length/\Upd No h h'/\(∀j (S:j<l.length),j<g.1->kl l[j].1 k)/\(∀j (S:j<l.length),g.2<=j->¬kl l[j].1 k)) (λg=>g.2-g.1) (0,l.length)
  ⟨rfl,by(try simp only);omega,a7,a7,eQ _ _,λj S h=>a4,λj S h=>by(try simp only at h);omega⟩ ?_
 rintro I ⟨i,j⟩ ⟨ti,tj⟩ h' ⟨Y,X,B,z,J,f,u⟩ T;(try simp only at Y X B z f u)
 subst Y X;have G:=V.upd J λ_ h=>h.elim
 have mono:∀a b (D:a<l.length) (hb:b<l.length),a<b->kl l[a].1 l[b].1:=λa b D hb P=>List.pairwise_iff_getElem.1 Z a b D hb P
 refine aq (λw=>?_) λQ=>?_
 .have w:i<j:=by have:(i:Int)<(j:Int):=w;omega
  have em:ac .i64 (dX (ac .u64 (ac .i64 ((i:Int)+(j:Int)))) (2^(min (1:Int).toNat (ak .u64))))=(((i+j)/2:Nat):Int):=by
   have e3:(2^(min (1:Int).toNat (ak .u64)):Int)=2:=rfl;rw[e3,dw (x:=(i:Int)+(j:Int)) a4,Go.IntWalk.u64_in _ a4,Int.fdiv_eq_ediv_of_nonneg _ a4,dw a4];omega
  refine⟨a8,?_⟩;simp only[Bd];rw[em];generalize hm:(i+j)/2=m;have A:m<l.length:=a4
  obtain⟨a,D,_,hv⟩:=G.at (af A);refine⟨a4,a,D,l[m].1,hv 0 _ rfl,l[m].2,hv 1 _ rfl,H λh2 v=>?_⟩
  refine aq (λd=>?_) λF=>?_
  .have c:kl l[m].1 k:=by
    unfold wZ at d;by_cases c:kl l[m].1 k
    .exact c
    .rw[if_neg c]at d;split at d<;>omega
   refine T (m+1,j) _ _ ⟨by(try simp only);rw[dw a4];omega,rfl,by(try simp only);omega,z,J.tr v,λq y C=>?_,u⟩ (by(try simp only);omega)
   (try simp only at C)
   rcases cp q m with h|h
   .exact dI (mono q m y A h) c
   .have:q=m:=by omega
    subst this;exact c
  .have o:¬kl l[m].1 k:=λc=>F (by unfold wZ;rw[if_pos c];decide)
   refine T (i,m) _ _ ⟨rfl,rfl,by(try simp only);omega,by(try simp only);omega,J.tr v,f,λq y C L=>?_⟩ (by(try simp only);omega)
   (try simp only at C)
   rcases cp m q with h|h
   .exact o (dI (mono m q A y h) L)
   .have:q=m:=by omega
    subst this;exact o L
 .have B:i=j:=by have:¬(i:Int)<(j:Int):=Q;omega
  subst B;have N:pos l k=i:=VE z f λhi=>u i hi (aj _)
  rw[N]at E;refine aq (λw=>?_) λR=>?_
  .have n:i<l.length:=by have:(i:Int)<(s.len:Int):=w;omega
   obtain⟨a,D,_,hv⟩:=G.at (af n);refine⟨by(try simp only);omega,a,D,l[i].1,hv 0 _ rfl,l[i].2,hv 1 _ rfl,H λh2 v=>?_⟩
   have o:=u i n (aj _);have O:(wZ l[i].1 k==(0:Int))=cE l k:=by
    unfold wZ cE;rw[if_neg o,Bool.eq_iff_iff,List.any_eq_true];constructor
    .intro h
     split at h
     .rename_i e;exact⟨l[i],List.getElem_mem n,decide_eq_true e⟩
     .simp at h
    .rintro⟨p,N,e⟩
     have e:=of_decide_eq_true e;obtain⟨q,y,rfl⟩:=List.mem_iff_getElem.1 N;have:q=i:=by
      rcases Nat.lt_trichotomy q i with h|h|h
      .exact absurd (e▸f q y h) (bT _)
      .exact h
      .exact absurd (e▸mono i q n y h) o
     subst this;rw[if_pos e];rfl
   rw[O];exact E _ (J.tr v)
  .have n:i=l.length:=by have:¬(i:Int)<(s.len:Int):=R;omega
   have O:cE l k=false:=by
    unfold cE;rw[List.any_eq_false];intro p N e;have e:=of_decide_eq_true e;obtain⟨q,y,rfl⟩:=List.mem_iff_getElem.1 N;exact absurd (e▸f q y a4) (bT _)
   rw[O]at E;exact E _ J
theorem OwnS.zero{α:Type}{f:α->c5}{sz:Nat}{t:TypeId}{M:eh}{xs:List α}(c:OwnS f sz t M h s xs):OwnS f sz t M h ⟨aW s.a 0 s.cap sz,0-0,s.cap-0⟩ []:=by
 have d:∀x,(f x).length=sz/\0<sz:=c.ne;have g:=c.len;have e:=c.cap;refine⟨rfl,d,cd,?_⟩
 rcases c.blk with k|⟨b,a,i,hb,hc,j⟩
 .exact .inl cd
 .refine .inr ⟨b,xs.flatMap f++a,by rw[i,sub_zero],hb,hc,?_⟩
  rw[ae,jU d,j,<-Nat.add_mul];simp only;congr 1;omega
def Px:Pr:=(⟨#[]⟩,⟨#[]⟩)
theorem RI(n:Nat):dg n [.string (⟨#[]⟩:dO),.string (⟨#[]⟩:dO)]=(fW n Px).flatMap dZ:=by
 unfold dg;induction n with
 |zero=>rfl
 |succ n ih=>rw[oh,oh,aN,<-ih];rfl
theorem Yo(g:n*32<=140737488355328){K:f9->eu}(a:∀s' h',OwnS dZ 2 35 (λb=>h.size<=b) h' s' []->Upd No h h'->K s' h'):
  dS 289 [.slice none 0 0,.int .i64 n] K h:=by
 refine cZ (iV ⟨none,0,0⟩ n) oD Tryz.func289 Tryz.call289 ?_;unfold iV nC;have e:ac .i64 ((n:Int)-ac .i64 (((0:Nat):Int)-((0:Nat):Int)))=(n:Int):=by rw[dw (x:=((0:Nat):Int)-((0:Nat):Int)) a4,dw a4];omega
 refine fo (aq (λh=>a4) λ_=>?_)
 simp only[Bd];rw[e];refine aq (λj=>?_) λi=>a _ _ (OwnS.nil fP) (eQ _ _)
 refine⟨a4,⟨a4,a4,a4,a4⟩,?_⟩
 refine AppP.own (f:=dZ) (M:=λb=>h.size<=b) (xs:= []) (ys:=fW n Px) (OwnS.nil fP) a7 (RI _) (by rw[RI];exact xM _) rfl a4 (by simpa using g) (aj _) λs' h' c d=>?_
 exact⟨a4,a _ _ (OwnS.zero c) (d.mono λb hb=>.inr hb)⟩
abbrev abH(s:f9):c5:= [.slice s.a s.len s.cap]
def ParS(h:ad):List f9->List bY->Prop
 | [],[]=>True
 |v::vs,l::ls=>Sl dZ 2 No h v l/\ParS h vs ls
 |_,_=>False
theorem ParS.upd{h':ad}(k:Upd No h h'):∀{vs:List f9} {ls:List bY},ParS h vs ls->ParS h' vs ls
 | [],[],_=>trivial
 |_::_,_::_,q=>⟨q.1.upd k λ_ h=>h.elim,ParS.upd k q.2⟩
 | [],_::_,q=>q.elim
 |_::_,[],q=>q.elim
theorem ParS.len:∀{vs:List f9} {ls:List bY},ParS h vs ls->vs.length=ls.length
 | [],[],_=>rfl
 |_::_,_::_,q=>by rw[ar,ar,ParS.len q.2]
 | [],_::_,q=>q.elim
 |_::_,[],q=>q.elim
theorem ParS.at:∀{vs:List f9} {ls:List bY},ParS h vs ls->∀{i:Nat} (h1:i<vs.length) (h2:i<ls.length),Sl dZ 2 No h vs[i] ls[i]
 |_::_,_::_,q,0,_,_=>q.1
 |_::_,_::_,q,i+1,h1,h2=>ParS.at q.2 (by simpa using h1) (by simpa using h2)
theorem K9(ls:List bY)(hi:i<ls.length):(ls.take (i+1)).flatten=(ls.take i).flatten++ls[i]:=by
 rw[ax hi,gg,fZ,qJ,aX]
theorem SS(ls:List bY)(i:Nat):(ls.take i).flatten.length<=ls.flatten.length:=by
 have:ls.flatten=(ls.take i).flatten++(ls.drop i).flatten:=by rw[<-gg,List.take_append_drop]
 rw[this,ae];omega
theorem Lh{vs:List f9}{ls:List bY}(D:Sl abH 1 No h s vs)(B:ParS h vs ls)(L:ls.flatten.length*32<=140737488355328)(hv:vs.length<=1000)
  {K:f9->eu}(O:∀s' h',OwnS dZ 2 35 (λb=>h.size<=b) h' s' ls.flatten->Upd No h h'->K s' h'):dS 263 [.slice s.a s.len s.cap] K h:=by
 refine cZ (ip s) nP Tryz.func263 Tryz.call263 ?_;dsimp only[ip,cB,nC,jz,fE];have E:=D.len;have e:=B.len;refine eF (λ(i:Nat) (t:Int×Int) h'=>t.2=(i:Int)/\i<=vs.length/\t.1=((ls.take i).flatten.length:Int)/\h'=h) (λi=>vs.length-i) 0 ⟨rfl,aK _,a7,rfl⟩ ?_
 rintro I i ⟨R,Q⟩ h' ⟨o,hi,F,rfl⟩ J;(try simp only at o F)
 subst o F;refine aq (λc=>?_) λw=>?_
 .have c:i<vs.length:=by have:(i:Int)<(s.len:Int):=c;omega
  obtain⟨a,y,_,f⟩:=D.at (af c);have H:=(B.at c (e▸c)).len;have d:=congrArg gu (K9 ls (e▸c));rw[ae]at d;have q:=SS ls (i+1);refine fo ⟨by(try simp only);omega,a,y,_,f 0 _ rfl,?_⟩;(try simp only)
  have N:ac .i64 (((ls.take i).flatten.length:Int)+((vs[i]).len:Int))=((ls.take (i+1)).flatten.length:Int):=by rw[dw a4];omega
  rw[N];refine aq (λh=>a4) λ_=>?_
  rw[cf c a4];exact J (i+1) _ _ ⟨rfl,c,rfl,rfl⟩ a4
 .have P:i=vs.length:=by have:¬(i:Int)<(s.len:Int):=w;omega
  rw[aS a4];refine Yo L λU X u x=>?_
  refine eF (λ(i:Nat) (t:f9×Int) C=>t.2=(i:Int)/\i<=vs.length/\OwnS dZ 2 35 (λb=>h'.size<=b) C t.1 (ls.take i).flatten/\Upd No h' C) (λi=>vs.length-i) 0 ⟨rfl,aK _,by simpa using u,x⟩ ?_
  rintro V j ⟨S,W⟩ C ⟨o,Z,p,m⟩ A;(try simp only at o p)
  subst o;refine aq (λc=>?_) λg=>?_
  .have c:j<vs.length:=by have:(j:Int)<(s.len:Int):=c;omega
   obtain⟨a,y,_,f⟩:=(D.upd m λ_ h=>h.elim).at (af c)
   have k:=((B.upd m).at c (e▸c));have d:=K9 ls (e▸c);have n:=congrArg gu d;rw[ae]at n;have q:=SS ls (j+1);refine fo ⟨by(try simp only);omega,a,y,_,f 0 _ rfl,_,k.srow,?_⟩;refine AppP.own (ys:=ls[j]) p k.len rfl (xM _) rfl a4 a4 m.size λY T z v=>?_
   (try simp only)
   rw[cf c a4];exact A (j+1) _ _ ⟨rfl,c,d▸z,m.trans v λb hb=>.inr hb⟩ a4
  .have G:j=vs.length:=by have:¬(j:Int)<(s.len:Int):=g;omega
   rw[aS a4]at p;exact O _ _ p m
def MA(l:bY)(p:Pr):bY:=l.take (pos l p.1)++p::l.drop (if cE l p.1 then pos l p.1+1 else pos l p.1)
def Uj(l:bY)(k:dO):bY:=if cE l k then l.take (pos l k)++l.drop (pos l k+1)else l
theorem Mo{l:bY}(c:bO l)(ht:cE l k=true):∃h:pos l k<l.length,l[pos l k].1=k:=by
 unfold cE at ht;obtain⟨p,d,e⟩:=cg.1 ht;have e:=of_decide_eq_true e;obtain⟨q,b,rfl⟩:=List.mem_iff_getElem.1 d;have:pos l k=q:=VE a4 (λj f a=>by rw[<-e];exact List.pairwise_iff_getElem.1 c j q f b a) λh=>by rw[<-e];exact bT _
 subst this;exact⟨b,e⟩
theorem L7{l:bY}(d:Sl dZ 2 No h s l){j:Nat}(a:i<=j)(b:j<=l.length)(e:j<=m)(c:Nat):Sl dZ 2 No h ⟨aW s.a i m 2,j-i,c⟩ ((l.drop i).take (j-i)):=Sl.sub d a b e
theorem Qr{l:bY}(y:Sl dZ 2 No h s l)(hc:s.len<=s.cap)(n:bO l)(H:l.length<=1000000000)(p:Pr)
  {K:f9->eu}(N:∀s' h',OwnS dZ 2 35 (λb=>h.size<=b) h' s' (MA l p)->Upd No h h'->K s' h'):dS 217 [.slice s.a s.len s.cap,.agg #[.string p.1,.string p.2]] K h:=by
 refine cZ (IZ s p) RE Tryz.func217 Tryz.call217 ?_;dsimp only[IZ,lG,kr,nW,bq,nL,ox,Ga,gj,rx,yI];have f:=y.len;have k1:=fD No h [.string p.1,.string p.2] 35;have b1:=bV h [.string p.1,.string p.2] 35;refine bF ?_;simp only[cD h];generalize hnew h [.string p.1,.string p.2] 35=h1 at k1 b1;refine⟨p.1,by rw[co,ba b1];rfl,MJ (y.upd k1 λ_ h=>h.elim) n H p.1 λF c=>?_⟩
 have C:=VF l p.1;have a:=k1.tr c;refine⟨by(try simp only);omega,?_⟩;let q:=if cE l p.1 then pos l p.1+1 else pos l p.1
 have E:q<=l.length:=by
  show(if cE l p.1 then pos l p.1+1 else pos l p.1)<=l.length
  split
  .rename_i ht;obtain⟨h,_⟩:=Mo n ht;omega
  .exact C
 refine eM (λt h'=>h'=F/\t=⟨aW s.a q s.cap 2,s.len-q,s.cap-q⟩) (λR z=>?_) ?_
 .refine ez (λe=>?_) λe=>z _ _ ⟨rfl,?_⟩
  .have e:cE l p.1=true:=e
   obtain⟨L,_⟩:=Mo n e;have I:ac .i64 ((pos l p.1:Int)+1)=((pos l p.1+1:Nat):Int):=by rw[dw a4];omega
   (try simp only)
   rw[I];refine⟨a4,z _ _ ⟨rfl,?_⟩⟩;have:q=pos l p.1+1:=by show(if cE l p.1 then _ else _)=_;rw[if_pos e]
   rw[this];rfl
  .have e:cE l p.1=false:=e
   have:q=pos l p.1:=by show(if cE l p.1 then _ else _)=_;rw[if_neg (by rw[e];decide)]
   rw[this];rfl
 .rintro t h' ⟨rfl,rfl⟩
  have b2:=c.get0 b1;refine⟨by(try simp only);omega,p.1,by rw[co,ba b2];rfl,p.2,by rw[co,ba b2];rfl,?_⟩
  have o:=fD No h' [.string p.1,.string p.2] 35;have b3:=bV h' [.string p.1,.string p.2] 35;refine bF ?_;simp only[cD h'];generalize hnew h' [.string p.1,.string p.2] 35=h3 at o b3;refine bF ?_;have g:=(y.upd a λ_ h=>h.elim).upd o λ_ h=>h.elim
  have k:=fD No h3 [.slice (aW s.a 0 s.cap 2) ((pos l p.1:Int).toNat-0) (s.cap-0),.slice (some ⟨h'.size,0,none⟩) 1 1,.slice (aW s.a q s.cap 2) (s.len-q) (s.cap-q)] 235;have G:=bV h3 [.slice (aW s.a 0 s.cap 2) ((pos l p.1:Int).toNat-0) (s.cap-0),.slice (some ⟨h'.size,0,none⟩) 1 1,.slice (aW s.a q s.cap 2) (s.len-q) (s.cap-q)] 235;have B:=L7 g (i:=0) (j:=pos l p.1) (m:=s.cap) (aK _) C a4 (s.cap-0)
  have J:Sl dZ 2 No h3 ⟨some ⟨h'.size,0,none⟩,1,1⟩ [p]:=⟨rfl,fP,λ_=>⟨_,rfl,λh=>h.elim,qN b3 λi v hv=>by simpa using hv⟩⟩
  have w:=L7 g (i:=q) (j:=l.length) (m:=s.cap) E (aj _) a4 (s.cap-q);rw[<-f]at w;rw[List.drop_zero]at B;rw[aS (by rw[bo];omega)]at w;have D:MA l p= [l.take (pos l p.1-0),[p],l.drop q].flatten:=by simp[MA,q]
  refine Lh (s:=⟨some (aH h3),3,3⟩) (vs:= [⟨aW s.a 0 s.cap 2,(pos l p.1:Int).toNat-0,s.cap-0⟩,⟨some ⟨h'.size,0,none⟩,1,1⟩,⟨aW s.a q s.cap 2,s.len-q,s.cap-q⟩]) (ls:= [l.take (pos l p.1-0),[p],l.drop q])
   ⟨rfl,λx=>⟨rfl,vX⟩,λ_=>⟨_,rfl,λh=>h.elim,qN G λi v hv=>by simpa[abH]using hv⟩⟩ ⟨B.upd k λ_ h=>h.elim,J.upd k λ_ h=>h.elim,w.upd k λ_ h=>h.elim,trivial⟩ ?_ a7 λP O d u=>?_
  .simp only[fZ,qJ,ae,List.length_take,bo,aP,List.length_nil];omega
  .rw[<-D]at d
   have A:=((a.tr o).tr k);exact N _ _ (d.more λb hb=>Nat.le_trans A.size hb) (A.tr u)
def xD(n d:Nat):Nat:=(fq n).countP (d.testBit ·)
theorem GC(m n d:Nat):xD (m+n) d=xD m d+xD n (d>>>m):=by
 unfold xD;rw[uG,List.countP_append,List.countP_map];congr 1
 refine List.countP_congr λi _=>?_
 simp[pY]
theorem SWz(d:Nat)(i:Nat):∀n,i<=n->xD n (d&&&(2^i-1))=xD i d:=by
 intro n a;obtain⟨m,rfl⟩:=Nat.exists_eq_add_of_le a;rw[GC];have e:xD i (d&&&(2^i-1))=xD i d:=by
  unfold xD;refine List.countP_congr λj b=>?_
  have:=fY.1 b;simp[this]
 have c:xD m ((d&&&(2^i-1))>>>i)=0:=by
  unfold xD;rw[List.countP_eq_zero];intro j _;simp[pY];intro h;omega
 omega
theorem ZS(d:Nat):xD 8 (d&&&255)=xD 8 d:=SWz d 8 8 (aj _)
theorem Bz(n d:Nat):xD n d<=n:=by
 have:=List.countP_le_length (p:=(d.testBit ·)) (l:=fq n)
 simpa[xD]using this
theorem mV(d n:Nat):dX (d:Int) (2^n)=((d>>>n:Nat):Int):=by
 rw[Int.fdiv_eq_ediv_of_nonneg _ (by exact Int.le_of_lt (Int.pow_pos a8)),eR];simp
theorem W9(a b:Nat):(aB (ak .u32) (a:Int)&&&aB (ak .u32) (b:Int)).toNat=(a%4294967296)&&&(b%4294967296):=by
 simp[ak];rfl
theorem BZ(h:n<4294967296):ac .u32 (n:Int)=(n:Int):=Go.IntWalk.u32_in _ a4
theorem Hl(hi:i<32){K:Bool->eu}(a:K true h):eI 256 [.int .i64 i] K h:=by
 refine JR i ?_;unfold AS;refine aq (λ_=>?_) λh=>absurd (Int.natCast_nonneg i) h
 rw[decide_eq_true a4];exact a
theorem M5{a b:Nat}(h:b<4294967296):a&&&b<4294967296:=fp qH h
theorem D9{d:Nat}(hd:d<4294967296)(hi:i<32){K:Bool->eu}(f:K (d.testBit i) h):eI 201 [.int .u32 d,.int .i64 i] K h:=by
 refine cZ (xA d i) .nil Tryz.func201 Tryz.call201 ?_;unfold xA;refine Hl hi (aw.2 ⟨a4,?_⟩);have e:min (i:Int).toNat (ak .u32)=i:=by rw[bi];exact cn (by show i<=32;omega)
 rw[e,mV];have b:=W9 (d>>>i) 1;have a:d>>>i<4294967296:=fp (pZ d i) hd;rw[eN a,show(1:Nat)%4294967296=1 from rfl]at b
 simp only[Bd];rw[show((1:Nat):Int)=(1:Int)from rfl]at b
 rw[b,BZ (M5 a4)];have c:(((d>>>i&&&1:Nat):Int)==(1:Int))=d.testBit i:=by
  rw[iC,beq_iff_eq,Nat.testBit,Nat.and_comm];simp only[bne_iff_ne,ne_eq,Nat.one_and_eq_mod_two];have:(d>>>i)%2<2:=Nat.mod_lt _ a4;omega
 rw[c];exact f
theorem Uu{d:Nat}(hd:d<4294967296)(hi:i<32):∃w:Nat,ac .u32 (aB (ak .u32) (d:Int)|||aB (ak .u32) (ac .u32 (1*2^(min (i:Int).toNat (ak .u32))))).toNat=(w:Int)/\w<4294967296/\∀j,w.testBit j=(d.testBit j||decide (j=i)):=by
 have e:min (i:Int).toNat (ak .u32)=i:=by rw[bi];exact cn (by show i<=32;omega)
 have b:2^i<4294967296:=Nat.pow_lt_pow_right a4 (show i<32 from hi)
 have f:(1*2^i:Int)=((2^i:Nat):Int):=a7
 rw[e,f,BZ b];refine⟨_,BZ (BitVec.isLt _),BitVec.isLt _,λj=>?_⟩
 rw[BitVec.testBit_toNat,BitVec.getLsbD_or,ij,ij,nA,nA,od];by_cases a:j<32
 .have:decide (j<ak .u32)=true:=decide_eq_true a
  rw[this];simp[eq_comm]
 .have c:decide (j<ak .u32)=false:=decide_eq_false a
  have g:d.testBit j=false:=fU (aA hd (j1 (n:=2) a4 (show 32<=j by omega)))
  rw[c,g];simp;omega
theorem RN{d:Nat}(hd:d<4294967296)(hi:i<32)(c:∀w:Nat,w<4294967296->(∀j,w.testBit j=(d.testBit j||decide (j=i)))->K (w:Int) h):uO 221 [.int .u32 d,.int .i64 i] K h:=by
 refine cZ (vU d i) .nil Tryz.func221 Tryz.call221 ?_;unfold vU;refine Hl hi (ag.2 ⟨a4,?_⟩);obtain⟨w,e,a,b⟩:=Uu hd hi;simp only[Bd];rw[e];exact c w a b
theorem MZ{d:Nat}(hd:d<4294967296)(hi:i<32):∃w:Nat,ac .u32 (aB (ak .u32) (d:Int)&&& ~~~aB (ak .u32) (ac .u32 (1*2^(min (i:Int).toNat (ak .u32))))).toNat=(w:Int)/\w<4294967296/\∀j,w.testBit j=(d.testBit j&&decide (j≠i)):=by
 have e:min (i:Int).toNat (ak .u32)=i:=by rw[bi];exact cn (by show i<=32;omega)
 have b:2^i<4294967296:=Nat.pow_lt_pow_right a4 (show i<32 from hi)
 have f:(1*2^i:Int)=((2^i:Nat):Int):=a7
 rw[e,f,BZ b];refine⟨_,BZ (BitVec.isLt _),BitVec.isLt _,λj=>?_⟩
 rw[BitVec.testBit_toNat,BitVec.getLsbD_and,BitVec.getLsbD_not,ij,ij,nA,nA,od];by_cases a:j<32
 .have:decide (j<ak .u32)=true:=decide_eq_true a
  rw[this];simp[eq_comm]
 .have c:decide (j<ak .u32)=false:=decide_eq_false a
  have g:d.testBit j=false:=fU (aA hd (j1 (n:=2) a4 (show 32<=j by omega)))
  rw[c,g];simp
theorem GK{d:Nat}(hd:d<4294967296)(hi:i<32)(c:∀w:Nat,w<4294967296->(∀j,w.testBit j=(d.testBit j&&decide (j≠i)))->K (w:Int) h):uO 266 [.int .u32 d,.int .i64 i] K h:=by
 refine cZ (rH d i) .nil Tryz.func266 Tryz.call266 ?_;unfold rH;refine Hl hi (ag.2 ⟨a4,?_⟩);obtain⟨w,e,a,b⟩:=MZ hd hi;simp only[Bd];rw[e];exact c w a b
abbrev aax:dO:=⟨#[0,1,1,2,1,2,2,3,1,2,2,3,2,3,3,4,1,2,2,3,2,3,3,4,2,3,3,4,3,4,4,5,1,2,2,3,2,3,3,4,2,3,3,4,3,4,4,5,2,3,3,4,3,4,4,5,3,4,4,5,4,5,5,6,1,2,2,3,2,3,3,4,2,3,3,4,3,4,4,5,2,3,3,4,3,4,4,5,3,4,4,5,4,5,5,6,2,3,3,4,3,4,4,5,3,4,4,5,4,5,5,6,3,4,4,5,4,5,5,6,4,5,5,6,5,6,6,7,1,2,2,3,2,3,3,4,2,3,3,4,3,4,4,5,2,3,3,4,3,4,4,5,3,4,4,5,4,5,5,6,2,3,3,4,3,4,4,5,3,4,4,5,4,5,5,6,3,4,4,5,4,5,5,6,4,5,5,6,5,6,6,7,2,3,3,4,3,4,4,5,3,4,4,5,4,5,5,6,3,4,4,5,4,5,5,6,4,5,5,6,5,6,6,7,3,4,4,5,4,5,5,6,4,5,5,6,5,6,6,7,4,5,5,6,5,6,6,7,5,6,6,7,6,7,7,8]⟩
theorem XN:(fq 256).all (λb=>decide (aax[b]? =some (gq (xD 8 b))))=true:=by decide+kernel
theorem L2{b:Nat}(h:b<256):aax[b]? =some (gq (xD 8 b)):=of_decide_eq_true (List.all_eq_true.1 XN b (fY.2 h))
theorem MQ(b:Nat):(gq (xD 8 b)).toNat=xD 8 b:=by
 have:=Bz 8 b;simp;omega
theorem ab7(d:Nat):xD 32 d=xD 8 (d>>>24)+xD 8 ((d>>>16)&&&255)+xD 8 ((d>>>8)&&&255)+xD 8 (d&&&255):=by
 rw[ZS,ZS,ZS,show(32:Nat)=8+(8+(8+8))from rfl,GC,GC,GC]
 simp only[<-Nat.shiftRight_add,Nat.reduceAdd];omega
set_option maxRecDepth 100000 in
theorem X5{d:Nat}(hd:d<4294967296)(j:K (xD 32 d:Int) h):fK 287 [.int .u32 d] K h:=by
 refine cZ (pw d) .nil Tryz.func287 Tryz.call287 ?_;dsimp only[pw,YW];have c:dX (d:Int) (2^(min (24:Int).toNat (ak .u32)))=((d>>>24:Nat):Int):=mV d 24;have g:dX (d:Int) (2^(min (16:Int).toNat (ak .u32)))=((d>>>16:Nat):Int):=mV d 16;have k:dX (d:Int) (2^(min (8:Int).toNat (ak .u32)))=((d>>>8:Nat):Int):=mV d 8
 have b:∀x:Nat,x<4294967296->ac .u32 (aB (ak .u32) (x:Int)&&&aB (ak .u32) 255).toNat=((x&&&255:Nat):Int):=λx hx=>by
  have:=W9 x 255;rw[eN hx]at this;rw[show((255:Nat):Int)=(255:Int)from rfl]at this
  rw[this,BZ (M5 a4)]
 have f:d>>>24<256:=by rw[eR];omega
 have a:∀x:Nat,x&&&255<256:=λx=>fp qH a4
 have i:d>>>16<4294967296:=fp (pZ d 16) hd;have m:d>>>8<4294967296:=fp (pZ d 8) hd;simp only[Bd];rw[c,g,k,b _ i,b _ m,b _ hd];refine⟨a8,_,a4,L2 (b:=d>>>24) f,a8,_,a4,L2 (a _),a8,_,a4,L2 (a _),_,a4,L2 (a _),?_⟩
 rw[MQ,MQ,MQ,MQ];simp only[bi];have p:=Bz 8 (d>>>24);have q:=Bz 8 (d>>>16&&&255);have o:=Bz 8 (d>>>8&&&255);have q4:=Bz 8 (d&&&255);rw[ab7]at j;have e:∀n:Nat,n<=255->ac .u8 (n:Int)=(n:Int):=λn s=>Go.IntWalk.u8_in _ a4
 rw[<-Int.natCast_add,e _ a4,<-Int.natCast_add,e _ a4,<-Int.natCast_add,e _ a4,dw a4];exact j
theorem qP{d:Nat}(hd:d<4294967296)(hi:i<32)(a:K (xD i d:Int) h):fK 202 [.int .u32 d,.int .i64 i] K h:=by
 refine cZ (vV d i) .nil Tryz.func202 Tryz.call202 ?_;unfold vV;refine aq (λj=>?_) λj=>?_
 .have:i=0:=by omega
  subst this;exact a
 .refine aq (λh=>a4) λ_=>⟨a4,?_⟩
  have e:min (i:Int).toNat (ak .u32)=i:=by rw[bi];exact cn (by show i<=32;omega)
  have c:2^i<4294967296:=Nat.pow_lt_pow_right a4 (show i<32 from hi)
  have g:0<2^i:=Nat.pow_pos a4;have f:(1*2^i:Int)=((2^i:Nat):Int):=a7
  have b:(((2^i:Nat):Int)-1)=((2^i-1:Nat):Int):=a4
  simp only[Bd];rw[e,f,BZ c,b,BZ (show 2^i-1<4294967296 by omega),W9,eN hd,eN (show 2^i-1<4294967296 by omega),BZ (M5 a4)]
  refine BN _ ?_;unfold uC;refine X5 (M5 a4) ?_;rw[SWz d i 32 a4];exact a
def fm{β:Type}(g:Nat->Option β)(n:Nat):List β:=(fq n).filterMap g
def upd{β:Type}(g:Nat->Option β)(i:Nat)(x:Option β)(j:Nat):Option β:=if j=i then x else g j
theorem aa7{β:Type}{f g:Nat->Option β}:∀l:List Nat,(∀j∈l,f j=g j)->l.filterMap f=l.filterMap g
 | [],_=>rfl
 |j::l,h=>by
  rw[kC,kC,h j (al ..),aa7 l λk a=>h k (ay _ a)]
section
variable {β:Type} {g:Nat->Option β} {d:Nat}
theorem HS(hd:∀c,c<32->d.testBit c=(g c).isSome)(hi:i<=32):(fm g i).length=xD i d:=by
 unfold fm xD;rw[List.length_filterMap_eq_countP];exact List.countP_congr λj a=>by rw[hd j (by have:=fY.1 a;omega)]
theorem rp(hi:i<n):fm g n=fm g i++((g i).toList++(fq (n-(i+1))).filterMap λj=>g (i+1+j)):=by
 unfold fm;have e:n=i+(1+(n-(i+1))):=a4
 rw[e,uG,ml,uG];have a:i+(1+(n-(i+1)))-(i+1)=n-(i+1):=a4
 rw[a];congr 1
 rw[List.map_append,ml,List.map_map];congr 1
 rw[List.filterMap_map];refine aa7 _ λj _=>?_
 show g (i+(1+j))=_
 rw[Nat.add_assoc]
theorem Bt{x:Option β}:fm (upd g i x) i=fm g i:=by
 unfold fm;refine aa7 _ λj a=>?_
 have:=fY.1 a;unfold upd;rw[if_neg a4]
theorem y8{x:Option β}:((fq m).filterMap λj=>upd g i x (i+1+j))=(fq m).filterMap λj=>g (i+1+j):=by
 refine aa7 _ λj _=>?_
 unfold upd;rw[if_neg a4]
theorem Wm(hi:i<32)(hd:∀c,c<32->d.testBit c=(g c).isSome)(b:g i=none)(x:β):fm (upd g i (some x)) 32=(fm g 32).take (xD i d)++x::(fm g 32).drop (xD i d):=by
 have a:=HS hd (i:=i) a4;rw[rp (g:=upd g i (some x)) hi,rp (g:=g) hi,Bt,y8,b,cR a,cJ a];simp[upd]
theorem Wl(hi:i<32)(hd:∀c,c<32->d.testBit c=(g c).isSome){y:β}(b:g i=some y)(x:β):fm (upd g i (some x)) 32=(fm g 32).take (xD i d)++x::(fm g 32).drop (xD i d+1):=by
 have a:=HS hd (i:=i) a4;rw[rp (g:=upd g i (some x)) hi,rp (g:=g) hi,Bt,y8,b,cR a,<-cS,cJ a];simp[upd]
theorem Wn(hi:i<32)(hd:∀c,c<32->d.testBit c=(g c).isSome){y:β}(b:g i=some y):fm (upd g i none) 32=(fm g 32).take (xD i d)++(fm g 32).drop (xD i d+1):=by
 have a:=HS hd (i:=i) a4;rw[rp (g:=upd g i none) hi,rp (g:=g) hi,Bt,y8,b,cR a,<-cS,cJ a];simp[upd]
theorem Wo(hi:i<32)(hd:∀c,c<32->d.testBit c=(g c).isSome){y:β}(b:g i=some y):(fm g 32)[xD i d]? =some y:=by
 have a:=HS hd (i:=i) a4;rw[rp (g:=g) hi,b,List.getElem?_append_right a4,a,Nat.sub_self];rfl
theorem K8(hi:i<32)(hd:∀c,c<32->d.testBit c=(g c).isSome){y:β}(a:g i=some y):xD i d<(fm g 32).length:=(List.getElem?_eq_some_iff.1 (Wo hi hd a)).1
theorem Ze(hi:i<32)(hd:∀c,c<32->d.testBit c=(g c).isSome):xD i d<=(fm g 32).length:=by
 have a:=HS hd (i:=i) a4;rw[rp (g:=g) hi,ae];omega
theorem y9:(fm g 32).length<=32:=by
 have:=List.length_filterMap_le g (fq 32);simpa[fm]using this
end
end
section
open Go.Lift
variable {W M W' Q:eh}{h h':ad}{b x nx id a:Int}{s:f9}{K:Bool->eu}{d n i gp gm:Nat}{xs ps:List Int}{m:List (Int×f9)}{κ β:Type}
abbrev sv(s:f9):Value:=.slice s.a s.len s.cap
structure Slots where
 p:Nat->Option Pr
 k:Nat->Option aT
def eB(d n:Nat)(sp sk:f9)(a:Bool)(ow:aT):Array Value:= #[.int .u32 (d:Int),.int .u32 (n:Int),sv sp,sv sk,.bool a,.pointer ow]
structure BitsOf(d n:Nat)(s:Slots):Prop where
 d32:d<4294967296
 n32:n<4294967296
 dp:∀c,c<32->d.testBit c=(s.p c).isSome
 nk:∀c,c<32->n.testBit c=(s.k c).isSome
structure NodeAt(W:eh)(h:ad)(b:Nat)(s:Slots):Prop where
 ex:∃d n sp sk ow,h[b]? =some (.cells (eB d n sp sk false ow) 298 (0,0))/\BitsOf d n s/\Sl dZ 2 W h sp (fm s.p 32)/\Sl rh 1 W h sk (fm s.k 32)/\sp.len<=sp.cap/\sk.len<=sk.cap
 nw:¬W b
theorem NodeAt.upd{b:Nat}{s:Slots}(n:NodeAt W h b s)(k:Upd M h h')(hm:∀b,M b->W b\/h.size<=b):NodeAt W h' b s:=by
 obtain⟨d,m,sp,sk,ow,a,i,f,c,e,g⟩:=n.ex;exact⟨⟨d,m,sp,sk,ow,k.get a (λhb=>(hm _ hb).elim n.nw λh=>by have:=bw a;omega),i,f.upd k hm,c.upd k hm,e,g⟩,n.nw⟩
structure OwnN(M:eh)(h:ad)(b d n:Nat)(sp sk:f9)(s:Slots)(ow:aT):Prop where
 blk:h[b]? =some (.cells (eB d n sp sk false ow) 298 (0,0))
 bits:BitsOf d n s
 ex:∃A B:Nat->Prop,OwnS dZ 2 35 A h sp (fm s.p 32)/\OwnS rh 1 47 B h sk (fm s.k 32)/\(∀x,A x->M x/\¬B x/\x≠b/\x<h.size)/\(∀x,B x->M x/\x≠b/\x<h.size)
 mb:M b
theorem y5(a:K false h):eI 206 [.pointer none] K h:=by
 refine cZ (uk none) .nil Tryz.func206 Tryz.call206 ?_;dsimp only[uk,fL,cL];exact ag.2 a
theorem KA{b:Nat}(a:K false h):eI 262 [gV b,.pointer none] K h:=by
 refine CW _ none ?_;dsimp only[vL,yF,dC,cL];exact aw.2 (y5 (ag.2 a))
theorem OwnN.upd{M':eh}{b:Nat}{sp sk:f9}{s:Slots}{ow:aT}(o:OwnN M h b d n sp sk s ow)(k:Upd M' h h')(hm:∀x,M' x->¬M x):OwnN M h' b d n sp sk s ow:=by
 obtain⟨A,B,f,g,a,c⟩:=o.ex;have z:=k.size;exact⟨k.get o.blk λhb=>hm _ hb o.mb,o.bits,⟨A,B,f.upd k λx hx e=>hm _ e (a x hx).1,g.upd k λx hx e=>hm _ e (c x hx).1,λx hx=>⟨(a x hx).1,(a x hx).2.1,(a x hx).2.2.1,by have:=(a x hx).2.2.2;omega⟩,λx hx=>⟨(c x hx).1,(c x hx).2.1,by have:=(c x hx).2.2;omega⟩⟩,o.mb⟩
set_option maxRecDepth 4000 in
theorem Qs{b:Nat}{s:Slots}(nd:NodeAt W h b s){K:aT->eu}
  (L:∀h' d n sp sk,OwnN (λx=>h.size<=x) h' h.size d n sp sk s none->Upd No h h'->K (some ⟨h.size,0,none⟩) h'):
  fx 216 [gV b,.pointer none] K h:=by
 obtain⟨d,n,sp,sk,ow,hb,bits,A,E,R,U⟩:=nd.ex;refine yp _ none ?_;dsimp only[r7,dT,dC,fL,nv,yD,dh,cj,UV,Zl,cL,iL,yG];refine KA (ag.2 ?_);have c:∀{h:ad} {b:Nat} {c:Array Value} {i:Nat},h[b]? =some (.cells c 298 (0,0))->aI h ⟨b,0+i,none⟩=c[i]?:=λhb=>by rw[aU];exact ba hb
 refine⟨_,rfl,_,c (i:=0) hb,_,c (i:=1) hb,sp,c (i:=2) hb,sk,c (i:=3) hb,_,c (i:=4) hb,_,c (i:=5) hb,?_⟩;have k1:=fD No h [.int .u32 0,.int .u32 0,.slice none 0 0,.slice none 0 0,.bool false,.pointer none] 298;have b1:=bV h [.int .u32 0,.int .u32 0,.slice none 0 0,.slice none 0 0,.bool false,.pointer none] 298;refine bF ?_;simp only[cD h];generalize hnew h [.int .u32 0,.int .u32 0,.slice none 0 0,.slice none 0 0,.bool false,.pointer none] 298=h1 at k1 b1
 have I:fu h1 ⟨h.size,0,none⟩ 0 [.int .u32 (d:Int),.int .u32 (n:Int),.slice sp.a sp.len sp.cap,.slice sk.a sk.len sk.cap,.bool false,.pointer ow]=_:=ik _ h1 0 0 _ b1 a7;refine⟨.inr ⟨_,rfl,λj Z=>by rw[co];exact eH b1 (by simp at Z⊢;omega)⟩,bF ?_⟩
 rw[I];have b2:=dE (o:=.cells (eB d n sp sk false ow) 298 (0,0)) b1;have t:Upd No h _:=k1.trans (M':=(· =h.size)) (Upd.set h1 (.cells (eB d n sp sk false ow) 298 (0,0)) rfl) λx hx=>.inr (cI hx.symm)
 have D:h.size<(h1.setIfInBounds h.size (.cells (eB d n sp sk false ow) 298 (0,0))).size:=bw b2;have S:h.size≠b:=λe=>by have:=bw hb;omega
 have Y:(Obj.cells (List.take (0+0) [Value.int .u32 0,.int .u32 0,.slice none 0 0,.slice none 0 0,.bool false,.pointer none]++ [Value.int .u32 (d:Int),.int .u32 (n:Int),.slice sp.a sp.len sp.cap,.slice sk.a sk.len sk.cap,.bool false,.pointer ow]++List.drop (0+0+ [Value.int .u32 (d:Int),.int .u32 (n:Int),.slice sp.a sp.len sp.cap,.slice sk.a sk.len sk.cap,.bool false,.pointer ow].length) [Value.int .u32 0,.int .u32 0,.slice none 0 0,.slice none 0 0,.bool false,.pointer none]).toArray 298 (0,0))=.cells (eB d n sp sk false ow) 298 (0,0):=rfl
 rw[Y];generalize h1.setIfInBounds h.size (.cells (eB d n sp sk false ow) 298 (0,0))=h2 at b2 t D;have p:=t.get0 hb;refine⟨_,rfl,sp,c (i:=2) p,_,rfl,sk,c (i:=3) p,?_⟩;refine w6 (A.upd t λ_ h=>h.elim) (by have:=y9 (g:=s.p);omega) λy N B f=>?_
 refine⟨c (i:=3) (f.get0 p),?_⟩;refine Ee ((E.upd t λ_ h=>h.elim).upd f λ_ h=>h.elim) (by have:=y9 (g:=s.k);omega) λC X z m=>?_
 have O:=m.get0 (f.get0 b2);have u:=B.within.upd m λ_ _ h=>h
 have q:=z.within;have z3:=f.size;have z4:=m.size;have w:∀{h:ad} {c:Array Value} {x i:Nat},h[x]? =some (.cells c 298 (0,0))->i<c.size->Wr h ⟨x,0+i,none⟩:=λhb hi=>by rw[aU];exact eH hb hi
 have st:∀{h:ad} {c c':Array Value} {x i:Nat} {v:Value} {k:eu},h[x]? =some (.cells c 298 (0,0))->c.setIfInBounds i v=c'->(∀h',h'[x]? =some (.cells c' 298 (0,0))->Upd (· =x) h h'->k h')->At (hset h ⟨x,i,none⟩ v) k:=λhb e L=>xS hb λh' J V=>L h' (e▸J) V
 refine⟨w (i:=2) O (show 2<6 by decide),st (i:=2) (c':=eB d n y sk false ow) O rfl λh5 P G=>?_⟩
 refine⟨w (i:=3) P (show 3<6 by decide),st (i:=3) (c':=eB d n y C false ow) P rfl λh6 Q H=>?_⟩
 refine⟨w (i:=5) Q (show 5<6 by decide),st (i:=5) (c':=eB d n y C false none) Q rfl λh7 T F=>?_⟩
 refine y5 (ag.2 ?_);have a:=G.tr (H.tr F);have z7:=a.size;refine L _ d n y C ⟨T,bits,⟨λx=>h2.size<=x/\x<N.size,λx=>N.size<=x/\x<X.size,u.upd a λx hx e=>by have e:x=h.size:=e;omega,q.upd a λx hx e=>by have e:x=h.size:=e;omega,λx hx=>⟨a4,a4,a4,a4⟩,λx hx=>⟨a4,a4,a4⟩⟩,aj _⟩ ?_
 exact((t.tr f).tr m).trans a λx hx=>.inr (cI hx.symm)
abbrev u32(x:Int):c5:= [.int .u32 x]
theorem j7(x:Int):(u32 x).length=1/\0<1:=⟨rfl,vX⟩
abbrev Nums(W:eh)(h:ad)(s:f9)(xs:List Int):Prop:=Sl u32 1 W h s xs
theorem Nums.at(b:Nums W h s xs)(hi:i<xs.length):∃a,s.a=some a/\¬W a.block/\aI h (adr a (((i:Int)).toNat*1))=some (.int .u32 xs[i]):=
 b.at0 (g:=λx=>.int .u32 x) (af hi)
theorem OT{s':f9}{ys:List Int}(g:Nums W h s xs)(j:Nums W' h s' ys)(u:xs.length<=4611686018427387904)(d:K (decide (xs=ys)) h):
  eI 13 [.slice s.a s.len s.cap,.slice s'.a s'.len s'.cap] K h:=by
 refine cZ (oz s s') wC Tryz.func13 Tryz.call13 ?_;dsimp only[oz,uK,cB,fE];refine ez (λc=>?_) (λf=>?_)
 .have:xs≠ys:=λe=>by
   rw[g.len,j.len,e]at c;simp at c
  rw[decide_eq_false this]at d;exact d
 .have k:xs.length=ys.length:=by
   rw[g.len,j.len]at f;have:(xs.length:Int)=ys.length:=by simpa using f
   omega
  refine eF (λ(i:Nat) (t:Int) h'=>t=(i:Int)/\h'=h/\i<=xs.length/\xs.take i=ys.take i) (λi=>xs.length-i) 0 ⟨rfl,rfl,aK _,rfl⟩ ?_
  rintro I i t h' ⟨rfl,rfl,hi,o⟩ p;refine aq (λb=>?_) (λn=>?_)
  .rw[g.len]at b
   have b:i<xs.length:=a4
   obtain⟨a,q,_,hx⟩:=Nums.at g b;obtain⟨a',m,_,v⟩:=Nums.at j (k▸b);refine⟨by rw[g.len];omega,a,q,_,hx,by rw[j.len];omega,a',m,_,v,?_⟩
   refine ez (λc=>?_) (λf=>?_)
   .have:xs≠ys:=λe=>by subst e;simp at c
    rw[decide_eq_false this]at d;exact d
   .have f:xs[i]=ys[i]:=by simpa using f
    rw[cf b u];refine p (i+1) _ _ ⟨rfl,rfl,b,?_⟩ a4;rw[ax b,ax (k▸b),o,f]
  .rw[g.len]at n
   have:i=xs.length:=a4
   subst this;have:xs=ys:=by
    rw[bZ,k,bZ]at o;exact o
   rw[decide_eq_true this]at d;exact d
theorem Gy(e:Nums W h s xs)(n:xs.length<=4611686018427387904)(x:Int)(d:K (decide (x∈xs)) h):
  eI 114 [.slice s.a s.len s.cap,.int .u32 x] K h:=by
 refine cZ (Lz s x) UN Tryz.func114 Tryz.call114 ?_;dsimp only[Lz,uK,cB,fE];refine eF (λ(i:Nat) (t:Int) h'=>t=(i:Int)/\h'=h/\i<=xs.length/\x∉xs.take i) (λi=>xs.length-i) 0 ⟨rfl,rfl,aK _,a7⟩ ?_
 rintro I i t h' ⟨rfl,rfl,hi,j⟩ k;refine aq (λb=>?_) (λg=>?_)
 .rw[e.len]at b
  have b:i<xs.length:=a4
  obtain⟨a,m,_,hx⟩:=Nums.at e b;refine⟨by rw[e.len];omega,a,m,_,hx,?_⟩;refine ez (λf=>?_) (λc=>?_)
  .have f:xs[i]=x:=by simpa using f
   rw[decide_eq_true (f▸aG b)]at d;exact d
  .have c:xs[i]≠x:=by simpa using c
   rw[cf b n];refine k (i+1) _ _ ⟨rfl,rfl,b,?_⟩ a4;rw[ax b];rw[aL,av,not_or];exact⟨j,Ne.symm c⟩
 .rw[e.len]at g
  have:i=xs.length:=a4
  subst this;rw[bZ]at j;rw[decide_eq_false j]at d;exact d
theorem MB{j:Value}{p:Int->Bool}(St:eu)(m:∀h,St h->Nums W h s xs)
  (v:∀h x (K:Bool->eu),St h->x∈xs->(∀h',St h'->K (p x) h')->HV PG j [.int .u32 x] [.c .bool] K h)
  (z:xs.length<=4611686018427387904)(y:St h){K:Int->eu}(o:∀(n:Int) h',St h'->(n>=0↔∃x∈xs,p x=true)->K n h'):
  fK 227 [.slice s.a s.len s.cap,j] K h:=by
 refine lQ s j ?_;dsimp only[ix,uK,cB,fE];refine eF (λ(i:Nat) (t:Int) h'=>t=(i:Int)/\St h'/\i<=xs.length/\∀x∈xs.take i,p x=false) (λi=>xs.length-i) 0 ⟨rfl,y,aK _,a7⟩ ?_
 rintro I i t h' ⟨rfl,k,hi,g⟩ w;have d:=m _ k;refine aq (λb=>?_) (λf=>?_)
 .rw[d.len]at b
  have b:i<xs.length:=a4
  obtain⟨a,q,_,hx⟩:=Nums.at d b;refine⟨by rw[d.len];omega,a,q,_,hx,?_⟩;refine v _ _ _ k (aG b) λA c=>?_
  refine ez (λu=>?_) (λe=>?_)
  .exact o _ _ c ⟨λ_=>⟨_,aG b,u⟩,λ_=>a4⟩
  .rw[cf b z]
   refine w (i+1) _ _ ⟨rfl,c,b,?_⟩ a4;rw[ax b];intro x hx;rcases aL.1 hx with h|h
   .exact g x h
   .rw[av.1 h];exact e
 .rw[d.len]at f
  have:i=xs.length:=a4
  subst this;rw[bZ]at g;exact o _ _ k ⟨λh=>a4,λ⟨x,hx,h⟩=>by rw[g x hx]at h;cases h⟩
theorem F4{a:Value}{p:Int->Bool}(St:eu)(b:∀h,St h->Nums W h s xs)
  (e:∀h x (K:Bool->eu),St h->x∈xs->(∀h',St h'->K (p x) h')->HV PG a [.int .u32 x] [.c .bool] K h)
  (c:xs.length<=4611686018427387904)(g:St h)(d:∀h',St h'->K (xs.any p) h'):
  eI 225 [.slice s.a s.len s.cap,a] K h:=by
 refine cZ (kq s a) .nil Tryz.func225 Tryz.call225 ?_;unfold kq;refine MB St b e c g λn h' f c=>?_
 have:decide (n>=0)=xs.any p:=by
  rw[iC,decide_eq_true_iff,c,cg]
 rw[this];exact d _ f
theorem CD(d:Nums W h s xs)(k:xs.length*4<=140737488355328){K:f9->eu}
  (g:∀s' h',OwnS u32 1 33 (λb=>h.size<=b) h' s' xs->Upd No h h'->(s.a=none->xs= [])->K s' h'):dS 43 [.slice s.a s.len s.cap] K h:=by
 refine cZ (oA s) .nil Tryz.func43 Tryz.call43 ?_;unfold oA;refine ez (λi=>?_) (λc=>?_)
 .have i:s.a=none:=by simpa using i
  have hx:xs= []:=by
   by_cases hx:xs= []
   .exact hx
   .obtain⟨a,j,_⟩:=d.row hx
    rw[i]at j;cases j
  subst hx;exact g _ _ (OwnS.nil j7) (eQ _ _) λ_=>rfl
 .have m:=d.upd (fD No h [] 33) (λ_ h=>h.elim)
  refine⟨_,m.srow,?_⟩;refine AppP.own (f:=u32) (M:=λb=>h.size<=b) (xs:= []) (ys:=xs) ⟨rfl,j7,aj _,.inl rfl⟩ d.len rfl ?_ rfl a4 (by simpa using k) (by rw[dA];omega) λs' h' n o=>?_
  .clear g d m k
   induction xs with
   |nil=>rfl
   |cons x xs ih=>rw[aN];exact ih
  .refine g _ _ n ((fD No h [] 33).trans o λb hb=>.inr hb) λe=>?_
   rw[e]at c;cases c
theorem T9(a:K false h):eI 255 [.int .u32 x] K h:=by
 refine cZ (yA x) .nil Tryz.func255 Tryz.call255 ?_;unfold yA;rw[show(x !=x)=false by simp];exact a
theorem Yg{y:Int}(a:K (decide (x<y)) h):eI 192 [.int .u32 x,.int .u32 y] K h:=by
 refine cZ (zG x y) .nil Tryz.func192 Tryz.call192 ?_;unfold zG;refine T9 ?_;exact ag.2 a
abbrev KE:KeyE Int:=ab3 .u32
abbrev de:=List (Int×List Int)
def Rep(W:eh)(h:ad)(m:List (Int×f9))(L:de):Prop:=
 ∀id,(∃s ps,bE m id=some s/\bE L id=some ps/\Nums W h s ps)\/(bE m id=none/\bE L id=none)
structure GraphAt(W:eh)(h:ad)(gp gm:Nat)(L:de)(nx:Int):Prop where
 blk:h[gp]? =some (.cells #[.map (some gm),.int .u32 nx] 102 (0,0))
 map:∃m,MapAt KE sv h gm m/\Rep W h m L
 wp:W gp
 wm:W gm
 lt:∀b,W b->b<h.size
 nd:(L.map (·.1)).Nodup
theorem Rep.upd{L:de}(r:Rep W h m L)(k:Upd M h h')(hm:∀b,M b->W b\/h.size<=b):Rep W h' m L:=λid=>by
 rcases r id with⟨s,ps,a,c,e⟩|d
 .exact .inl ⟨s,ps,a,c,e.upd k hm⟩
 .exact .inr d
theorem GraphAt.upd{L:de}(g:GraphAt W h gp gm L nx)(k:Upd M h h')(hm:∀b,M b->(W b/\b≠gp/\b≠gm)\/h.size<=b):GraphAt W h' gp gm L nx:=by
 have a:=g.lt;have f:¬M gp:=λe=>(hm _ e).elim (λe=>e.2.1 rfl) λe=>absurd (a _ g.wp) (df.2 e)
 have i:¬M gm:=λe=>(hm _ e).elim (λe=>e.2.2 rfl) λe=>absurd (a _ g.wm) (df.2 e)
 obtain⟨m,c,d⟩:=g.map;exact⟨k.get g.blk f,⟨m,c.upd k i,d.upd k λb hb=>(hm b hb).imp (·.1) id⟩,g.wp,g.wm,λb hb=>aA (a b hb) k.size,g.nd⟩
theorem GraphAt.upd0{L:de}(g:GraphAt W h gp gm L nx)(k:Upd No h h'):GraphAt W h' gp gm L nx:=g.upd k λ_ h=>h.elim
theorem GraphAt.c0{L:de}(g:GraphAt W h gp gm L nx):aI h ⟨gp,0,none⟩=some (.map (some gm)):=by rw[ba g.blk];rfl
theorem GraphAt.c1{L:de}(g:GraphAt W h gp gm L nx):aI h ⟨gp,1,none⟩=some (.int .u32 nx):=by rw[ba g.blk];rfl
abbrev dM(L:de):List Int:=L.map (·.1)
theorem V8{L:de}:(bE L id).isSome=decide (id∈dM L):=by
 cases h:bE L id with
 |none=>rw[decide_eq_false (dJ.1 h)];rfl
 |some v=>
  have:id∈dM L:=by
   by_cases hm:id∈dM L
   .exact hm
   .rw[dJ.2 hm]at h;cases h
  rw[decide_eq_true this];rfl
theorem Rep.some{L:de}(r:Rep W h m L)(id:Int):(bE m id).isSome=decide (id∈dM L):=by
 rw[<-V8];rcases r id with⟨s,ps,a,b,_⟩|⟨a,b⟩<;>rw[a,b]<;>rfl
theorem Rep.len{L:de}(r:Rep W h m L)(a:(m.map (·.1)).Nodup)(b:(dM L).Nodup):m.length=L.length:=by
 have:(m.map (·.1)).Perm (dM L):=by
  rw[List.perm_ext_iff_of_nodup a b];intro id;have:=r.some id;have c:id∈m.map (·.1)↔(bE m id).isSome=true:=by
   cases hl:bE m id with
   |none=>simp[dJ.1 hl]
   |some v=>
    simp only[Option.isSome_some,iff_true];by_cases hm:id∈m.map (·.1)
    .exact hm
    .rw[dJ.2 hm]at hl;cases hl
  rw[c,this,decide_eq_true_iff]
 have:=this.length_eq;simpa using this
def aba:List Int->Bool
 | [a,b]=>a==b
 |_=>false
def wr(ps:List Int):Int:=if ps.length>2\/aba ps=true then 1 else 0
def pn(L:de)(ps:List Int):Int:=if ps.any (λp=> !decide (p∈dM L))then 4 else if L.length>=1024 then 6 else 0
theorem MH{L:de}(g:GraphAt W h gp gm L nx)(id:Int)(b:K (decide (id∈dM L)) h):
  eI 113 [gV gp,.int .u32 id] K h:=by
 refine cZ (vR (some ⟨gp,0,none⟩) id) .nil Tryz.func113 Tryz.call113 ?_;dsimp only[vR,UC,cB,cL];obtain⟨m,hm,a⟩:=g.map;refine ez (λe=>by cases e) λ_=>⟨_,rfl,_,g.c0,_,_,hm.get id ⟨none,0,0⟩,?_⟩
 rw[a.some id];exact b
theorem Yq{p:aT}(d:Nums W h s ps){K:Int->eu}(c:K (wr ps) h):
  fK 167 [.pointer p,.slice s.a s.len s.cap] K h:=by
 refine cZ (vP p s) Dx Tryz.func167 Tryz.call167 ?_;dsimp only[vP,YQ,cB,fE];refine fo (aq (λm=>?_) λg=>ez (λf=>?_) λb=>?_)
 .rw[d.len]at m
  rw[show wr ps=1 from if_pos (.inl a4)]at c
  exact aw.2 c
 .rw[d.len]at f
  have f:ps.length=2:=by
   have:(ps.length:Int)=2:=by simpa using f
   omega
  obtain⟨a,n,_,hx⟩:=Nums.at d (i:=0) a4;obtain⟨a',j,_,o⟩:=Nums.at d (i:=1) a4;refine⟨by rw[d.len];omega,a,n,_,hx,by rw[d.len];omega,a',j,_,o,?_⟩
  have e:wr ps=if(ps[0]==ps[1])=true then 1 else 0:=by
   match ps,f with
   | [x,y],_=>simp[wr,aba]
  rw[e]at c;exact ez (λk=>by rw[if_pos k]at c;exact c) λk=>by rw[if_neg (by rw[k];decide)]at c;exact c
 .rw[d.len]at g b
  have b:ps.length≠2:=λe=>by rw[e]at b;exact absurd b a8
  have hd:aba ps=false:=by
   match ps,b with
   | [],_=>rfl
   | [_],_=>rfl
   | [_,_],h=>exact absurd rfl h
   |_::_::_::_,_=>rfl
  rw[show wr ps=0 from if_neg (by rw[hd];simp;omega)]at c
  exact ag.2 c
theorem Wg{L:de}(g:GraphAt W h gp gm L nx)(t:Nums W h s ps)(u:ps.length<=4611686018427387904)
  {K:Int->eu}(c:∀h',Upd No h h'->K (pn L ps) h'):fK 168 [gV gp,.slice s.a s.len s.cap] K h:=by
 refine cZ (uy (some ⟨gp,0,none⟩) s) .nil Tryz.func168 Tryz.call168 ?_;dsimp only[uy,cB,cL];have i:=fD No h [.pointer (some ⟨gp,0,none⟩)] 39;refine F4 (p:=λp=> !decide (p∈dM L)) (λh'=>GraphAt W h' gp gm L nx/\Nums W h' s ps/\h'[h.size]? =some (.cells #[.pointer (some ⟨gp,0,none⟩)] 39 (0,0))/\Upd No h h') (λh' j=>j.2.1) ?_ u ⟨g.upd0 i,t.upd i λ_ h=>h.elim,bV h _ _,i⟩ ?_
 .rintro h' x K ⟨b,d,hb,a⟩ _ f
  refine HV.mk' (cZ (rF x ⟨h.size,0,none⟩) .nil Tryz.func226 Tryz.call226 ?_);unfold rF tD;refine⟨_,by rw[ba hb];rfl,?_⟩
  exact MH b x (f h' ⟨b,d,hb,a⟩)
 .rintro h' ⟨b,d,hb,a⟩
  obtain⟨m,hm,q⟩:=b.map;refine ez (λk=>?_) λe=>?_
  .rw[show pn L ps=4 from if_pos k]at c
   exact c h' a
  .refine⟨_,by rw[cD,ba hb];rfl,_,rfl,_,b.c0,_,hm.len,?_⟩
   rw[q.len hm.nodup b.nd];refine aq (λn=>?_) λo=>?_
   .rw[show pn L ps=6 from(if_neg (by rw[e];decide)).trans (if_pos a4)]at c
    exact c h' a
   .rw[show pn L ps=0 from(if_neg (by rw[e];decide)).trans (if_neg a4)]at c
    exact c h' a
def ws(L:de)(id:Int)(ps:List Int):de:=L.takeWhile (λv=>decide (v.1<id))++(id,ps)::L.dropWhile (λv=>decide (v.1<id))
def fF(L:de)(nx:Int)(ps:List Int):(Int×Int)×de×Int:=
 if wr ps≠0 then((0,wr ps),L,nx)else if pn L ps≠0 then((0,pn L ps),L,nx)else if nx>=2147483648 then((0,6),L,nx)else((nx,0),ws L nx ps,nx+1)
def ZC(L:de)(nx:Int)(id:Int)(ps:List Int):Int×de×Int:=
 if wr ps≠0\/id=0\/id>=2147483648\/ps.any (λp=>decide (p>=id))=true then(1,L,nx)else if id∈dM L then(7,L,nx)else if pn L ps≠0 then(pn L ps,L,nx)else(0,ws L id ps,if id+1>nx then id+1 else nx)
abbrev BF(a b:Nat):Nat->Prop:=λx=>x=a\/x=b
theorem Lo[DecidableEq κ](l l':List (κ×β))(k:κ):bE (l++l') k=(bE l k).or (bE l' k):=by
 induction l with
 |nil=>simp[bE]
 |cons p l ih=>
  obtain⟨k',u⟩:=p;simp only[List.cons_append,bE,ih];split<;>simp
theorem KV{L:de}(c:id∉dM L)(j:Int):bE (ws L id ps) j=if j=id then some ps else bE L j:=by
 have b:∀p:Int×List Int->Bool,bE L j=(bE (L.takeWhile p) j).or (bE (L.dropWhile p) j):=λp=>by rw[<-Lo,gA]
 unfold ws;rw[Lo];simp only[bE];by_cases a:j=id
 .subst a
  have:bE (L.takeWhile λv=>decide (v.1<j)) j=none:=dJ.2 λhm=>c (by
   obtain⟨x,hx,e⟩:=aR.1 hm
   exact aR.2 ⟨x,List.takeWhile_subset _ hx,e⟩)
  rw[this];simp
 .simp only[a,if_false]
  exact(b _).symm
theorem zX(L:de)(id:Int)(ps:List Int):(ws L id ps).Perm ((id,ps)::L):=by
 unfold ws;refine List.perm_middle.trans ?_;rw[gA]
theorem insV_ids{L:de}:(dM (ws L id ps)).Perm (id::dM L):=(zX L id ps).map _
theorem QQ{L:de}(h:(dM L).Nodup)(a:id∉dM L):(dM (ws L id ps)).Nodup:=by
 rw[insV_ids.nodup_iff];exact dW.2 ⟨a,h⟩
theorem Rep.put{L:de}(r:Rep W h m L)(e:∀s xs,Nums W h s xs->Nums W h' s xs)(d:Nums W h' s ps)(f:id∉dM L):Rep W h' (kw m id s) (ws L id ps):=λj=>by
 rw[lZ,KV f];by_cases a:j=id
 .simp only[a,if_true];exact .inl ⟨s,ps,rfl,rfl,d⟩
 .simp only[a,if_false]
  rcases r j with⟨s,ps,c,g,b⟩|i
  .exact .inl ⟨s,ps,c,g,e s ps b⟩
  .exact .inr i
theorem GraphAt.ne{L:de}(g:GraphAt W h gp gm L nx):gm≠gp:=λe=>by
 obtain⟨m,⟨ms,c,hm,_⟩,_⟩:=g.map;have:=hm.here;rw[e,g.blk]at this;cases this
theorem GraphAt.put{L:de}(g:GraphAt W h gp gm L nx)(i:Nums W h s ps)(n:id∉dM L)(n':Int):
  GraphAt W (hset (fC h gm (.int .u32 id) (sv s)) ⟨gp,1,none⟩ (.int .u32 n')) gp gm (ws L id ps) n'/\Upd (BF gp gm) h (hset (fC h gm (.int .u32 id) (sv s)) ⟨gp,1,none⟩ (.int .u32 n'))/\
   Wr (fC h gm (.int .u32 id) (sv s)) ⟨gp,1,none⟩/\aI (fC h gm (.int .u32 id) (sv s)) ⟨gp,1,none⟩=some (.int .u32 nx)/\Upd (BF gp gm) h (fC h gm (.int .u32 id) (sv s)):=by
 obtain⟨m,hm,o⟩:=g.map;have d:=g.ne;have k1:Upd (· =gm) h (fC h gm (.int .u32 id) (sv s)):=jN h _ _ rfl
 have a:=k1.get g.blk (Ne.symm d);have j:Upd (· =gp) (fC h gm (.int .u32 id) (sv s)) (hset (fC h gm (.int .u32 id) (sv s)) ⟨gp,1,none⟩ (.int .u32 n')):=Upd.hset _ _ rfl
 have f:Upd (BF gp gm) h (fC h gm (.int .u32 id) (sv s)):=k1.mono λb hb=>.inl (.inr hb)
 have k:Upd (BF gp gm) h (hset (fC h gm (.int .u32 id) (sv s)) ⟨gp,1,none⟩ (.int .u32 n')):=f.trans j λb hb=>.inl (.inl hb)
 have c:∀b,BF gp gm b->W b\/h.size<=b:=λb hb=>.inl (hb.elim (λe=>e▸g.wp) λe=>e▸g.wm)
 refine⟨⟨?_,⟨_,(MapAt.put hm id s).upd j d,o.put (λs xs i=>i.upd k c) (i.upd k c) n⟩,g.wp,g.wm,λb hb=>aA (g.lt b hb) k.size,QQ g.nd n⟩,k,eH a a7,by rw[ba a];rfl,f⟩
 rw[kH a,dE a];rfl
theorem Yr{L:de}(g:GraphAt W h gp gm L nx)(v:0<=nx)(p:nx∉dM L)(u:Nums W h s ps)(A:ps.length*4<=140737488355328)
  {K:Int×Int->eu}(d:∀h',Upd (BF gp gm) h h'->GraphAt W h' gp gm (fF L nx ps).2.1 (fF L nx ps).2.2->K (fF L nx ps).1 h'):
  GA 101 [gV gp,.slice s.a s.len s.cap] K h:=by
 refine cZ (vS (some ⟨gp,0,none⟩) s) .nil Tryz.func101 Tryz.call101 ?_;dsimp only[vS,cB,dh,yL,cL,BC,dT];refine ez (λe=>by cases e) λ_=>Yq u ?_
 refine ez (λa=>?_) λa=>?_
 .have a:wr ps≠0:=by simpa using a
  rw[show fF L nx ps=_ from if_pos a]at d
  exact d h (eQ _ _) g
 .have a:¬wr ps≠0:=by simpa using a
  refine Wg g u a4 λh' i=>?_
  refine ez (λc=>?_) λc=>?_
  .have c:pn L ps≠0:=by simpa using c
   rw[show fF L nx ps=_ from(if_neg a).trans (if_pos c)]at d
   exact d h' i.wide (g.upd0 i)
  .have c:¬pn L ps≠0:=by simpa using c
   have f:=g.upd0 i;have q:=u.upd i λ_ h=>h.elim
   refine⟨_,rfl,_,f.c1,aq (λo=>?_) λo=>?_⟩
   .rw[show fF L nx ps=_ from(if_neg a).trans ((if_neg c).trans (if_pos o))]at d
    exact d h' i.wide f
   .refine⟨_,rfl,_,f.c1,_,rfl,_,f.c0,CD q A λs' k w j _=>?_⟩
    have n:=f.upd0 j;obtain⟨m,hm,D⟩:=n.map;have t:Nums W k s' ps:=w.sl λb hb _ x=>absurd (f.lt b x) (df.2 hb)
    obtain⟨C,z,y,B,_⟩:=n.put t p (nx+1);refine⟨n.c0,_,rfl,hm.isMap,_,rfl,_,B,_,rfl,y,?_⟩;rw[show ac .u32 (nx+1)=nx+1 from Go.IntWalk.u32_in _ a4]
    rw[show fF L nx ps=_ from(if_neg a).trans ((if_neg c).trans (if_neg o))]at d
    exact d _ ((i.wide.tr j.wide).tr z) C
theorem E5{L:de}(g:GraphAt W h gp gm L nx)(id:Int)(n:∀v∈L,v.2.length*4<=140737488355328)
  {K:f9->eu}(a:∀s' h',OwnS u32 1 33 (λb=>h.size<=b) h' s' ((bE L id).getD [])->Upd No h h'->K s' h'):
  dS 11 [gV gp,.int .u32 id] K h:=by
 refine cZ (qk (some ⟨gp,0,none⟩) id) .nil Tryz.func11 Tryz.call11 ?_;dsimp only[qk,UC,cB,cL];obtain⟨m,hm,k⟩:=g.map;refine ez (λe=>by cases e) λ_=>⟨_,rfl,_,g.c0,_,_,hm.get id ⟨none,0,0⟩,?_⟩
 rcases k id with⟨s,ps,f,c,j⟩|⟨f,c⟩
 .rw[f]
  rw[c]at a;exact CD j (n _ ((eJ g.nd).1 c)) λs' h' d i _=>a s' h' d i
 .rw[f]
  rw[c]at a;exact CD (W:=No) (xs:= []) (Sl.nil j7) a7 λs' h' d i _=>a s' h' d i
theorem Yp{K:aT->eu}(d:∀h',Upd No h h'->GraphAt (BF (h.size+1) h.size) h' (h.size+1) h.size [] 1->K (some ⟨h.size+1,0,none⟩) h'):
  fx 47 [] K h:=by
 refine cZ FE .nil Tryz.func47 Tryz.call47 ?_;dsimp only[FE,Em];have k1:=Upd.push No h (.map #[] 0);have hm:MapAt KE sv (h.push (.map #[] 0)) h.size []:=MapAt.new h;have c:=fD No (h.push (.map #[] 0)) [.map (some h.size),.int .u32 1] 102;have a:(h.push (.map #[] 0)).size=h.size+1:=a7
 have:=d _ (k1.tr c) ⟨by
  have:=bV (h.push (.map #[] 0)) [.map (some h.size),.int .u32 1] 102
  rw[a]at this;exact this,⟨[],hm.upd c id,λid=>.inr ⟨rfl,rfl⟩⟩,.inl rfl,.inr rfl,λb hb=>by rw[dA,a];rcases hb with rfl|rfl<;>omega,List.nodup_nil⟩
 rw[<-a]at this;exact this
abbrev vf(v:Int×f9):c5:= [.int .u32 v.1,sv v.2]
theorem Nz(v:Int×f9):(vf v).length=2/\0<2:=⟨rfl,a4⟩
def Par(W:eh)(h:ad):List (Int×f9)->de->Prop
 | [],[]=>True
 |v::l,u::m=>v.1=u.1/\Nums W h v.2 u.2/\Par W h l m
 |_,_=>False
theorem Par.len:∀{l:List (Int×f9)} {m:de},Par W h l m->l.length=m.length
 | [],[],_=>rfl
 |_::_,_::_,p=>congrArg (· +1) p.2.2.len
 | [],_::_,p=>p.elim
 |_::_,[],p=>p.elim
theorem Par.get:∀{l:List (Int×f9)} {m:de},Par W h l m->∀{i:Nat} (hl:i<l.length) (hm:i<m.length),l[i].1=m[i].1/\Nums W h l[i].2 m[i].2
 |v::l,u::m,p,0,_,_=>⟨p.1,p.2.1⟩
 |v::l,u::m,p,i+1,hl,hm=>p.2.2.get (by simpa using hl) (by simpa using hm)
theorem Par.app:∀{l l':List (Int×f9)} {m m':de},Par W h l m->Par W h l' m'->Par W h (l++l') (m++m')
 | [],_,[],_,_,q=>q
 |_::_,_,_::_,_,p,q=>⟨p.1,p.2.1,p.2.2.app q⟩
 | [],_,_::_,_,p,_=>p.elim
 |_::_,_,[],_,p,_=>p.elim
theorem Par.take:∀{l:List (Int×f9)} {m:de},Par W h l m->∀i,Par W h (l.take i) (m.take i)
 | [],[],_,i=>by simp[Par]
 |_::_,_::_,_,0=>trivial
 |_::_,_::_,p,i+1=>⟨p.1,p.2.1,p.2.2.take i⟩
 | [],_::_,p,_=>p.elim
 |_::_,[],p,_=>p.elim
theorem Par.drop:∀{l:List (Int×f9)} {m:de},Par W h l m->∀i,Par W h (l.drop i) (m.drop i)
 | [],[],_,i=>by simp[Par]
 |_::_,_::_,p,0=>p
 |_::_,_::_,p,i+1=>p.2.2.drop i
 | [],_::_,p,_=>p.elim
 |_::_,[],p,_=>p.elim
theorem Par.upd(k:Upd M h h')(hm:∀b,M b->W b\/h.size<=b):∀{l:List (Int×f9)} {m:de},Par W h l m->Par W h' l m
 | [],[],_=>trivial
 |_::_,_::_,p=>⟨p.1,p.2.1.upd k hm,Par.upd k hm p.2.2⟩
 | [],_::_,p=>p.elim
 |_::_,[],p=>p.elim
structure RefAt(W:eh)(h:ad)(xp:Nat)(L:de)(nx:Int):Prop where
 blk:∃s t Ls,h[xp]? =some (.cells #[sv s,.int .u32 nx] t (0,0))/\Sl vf 2 W h s Ls/\Par W h Ls L/\s.len<=s.cap
 wp:W xp
 lt:∀b,W b->b<h.size
theorem RefAt.upd{a:Nat}{L:de}(g:RefAt W h a L nx)(k:Upd M h h')(hm:∀b,M b->(W b/\b≠a)\/h.size<=b):RefAt W h' a L nx:=by
 obtain⟨s,t,Ls,i,m,f,d⟩:=g.blk;have j:¬M a:=λe=>(hm _ e).elim (λe=>e.2 rfl) λe=>absurd (g.lt _ g.wp) (df.2 e)
 have c:∀b,M b->W b\/h.size<=b:=λb hb=>(hm b hb).imp (·.1) id
 exact⟨⟨s,t,Ls,k.get i j,m.upd k c,Par.upd k c f,d⟩,g.wp,λb hb=>aA (g.lt b hb) k.size⟩
theorem RefAt.upd0{a:Nat}{L:de}(g:RefAt W h a L nx)(k:Upd No h h'):RefAt W h' a L nx:=g.upd k λ_ h=>h.elim
theorem LY{Ls:List (Int×f9)}(c:Sl vf 2 W h s Ls)(hi:i<Ls.length):
  ∃a,s.a=some a/\aI h (adr (adr a (((i:Int)).toNat*2)) 0)=some (.int .u32 Ls[i].1)/\aI h (adr (adr a (((i:Int)).toNat*2)) 1)=some (.slice Ls[i].2.a Ls[i].2.len Ls[i].2.cap):=by
 obtain⟨a,b,_,hv⟩:=c.at (af hi);exact⟨a,b,hv 0 _ rfl,hv 1 _ rfl⟩
theorem P0(h:ad)(t:TypeId)(a b:Value)(v:Int×f9):qR (hnew h [a,b] t) (some (aH h)) 0 [.int .u32 v.1,.slice v.2.a v.2.len v.2.cap]/\
  (fu (hnew h [a,b] t) (aH h) 0 [.int .u32 v.1,.slice v.2.a v.2.len v.2.cap])[h.size]? =some (.cells #[.int .u32 v.1,.slice v.2.a v.2.len v.2.cap] t (0,0))/\
  Upd No h (fu (hnew h [a,b] t) (aH h) 0 [.int .u32 v.1,.slice v.2.a v.2.len v.2.cap]):=by
 have hb:=bV h [a,b] t;refine⟨.inr ⟨_,rfl,λj c=>?_⟩,?_,?_⟩
 .rw[cD,co]
  exact eH hb (by simp at c⊢;omega)
 .rw[cD,ik _ _ 0 0 [a,b] hb a7,dE hb];rfl
 .rw[cD,ik _ _ 0 0 [a,b] hb a7]
  exact(fD No h [a,b] t).trans (M':=(· =h.size)) (Upd.set _ _ rfl) λb hb=>.inr (cI hb.symm)
theorem BW{m:Nat}{L:de}(g:RefAt W h m L nx)(B:L.length<=4611686018427387904)(id:Int)
  {K:Int->eu}(w:∀(n:Int) h',Upd No h h'->(n>=0↔id∈dM L)->K n h'):fK 65 [gV m,.int .u32 id] K h:=by
 refine cZ (IQ (some ⟨m,0,none⟩) id) Ry Tryz.func65 Tryz.call65 ?_;dsimp only[IQ,uR,cj,cL,UF,dT,iw,nv,LK,PL,jz,fE];obtain⟨s,t,Ls,D,j,p,_⟩:=g.blk;refine⟨_,rfl,s,by rw[co,ba D];rfl,?_⟩
 have d:=p.len;refine eF (λ(i:Nat) (t:Int) h'=>t=(i:Int)/\Upd No h h'/\i<=L.length/\id∉(dM L).take i) (λi=>L.length-i) 0 ⟨rfl,eQ _ _,aK _,a7⟩ ?_
 rintro I i t h' ⟨rfl,f,hi,u⟩ z;have k:=j.upd f λ_ h=>h.elim
 have x:=Par.upd f (λ_ h=>h.elim) p
 refine aq (λb=>?_) λq=>?_
 .rw[j.len,d]at b
  have b:i<L.length:=a4
  obtain⟨a,C,c0,c1⟩:=LY k (d▸b);obtain⟨y,A,v⟩:=P0 h' 207 (.int .u32 0) (.slice none 0 0) (Ls[i]'(d▸b));refine⟨by rw[j.len,d];omega,a,C,_,c0,_,c1,y,_,kY A 0,?_⟩;have e:=(p.get (d▸b) b).1;refine ez (λo=>?_) λc=>?_
  .have o:L[i].1=id:=by rw[<-e];simpa using o
   exact w _ _ (f.tr v) ⟨λ_=>aR.2 ⟨_,aG b,o⟩,λ_=>a4⟩
  .have c:L[i].1≠id:=by rw[<-e];simpa using c
   rw[cf b B];refine z (i+1) _ _ ⟨rfl,f.tr v,b,?_⟩ a4;rw[ax (by simpa using b),aL,av,not_or];exact⟨u,by rw[List.getElem_map];exact Ne.symm c⟩
 .rw[j.len,d]at q
  have:i=L.length:=a4
  rw[aS (by simp[this])]at u;exact w _ _ f ⟨λh=>a4,λh=>absurd h u⟩
theorem XA(d:Nums W h s ps){K:Int->eu}(c:K (wr ps) h):
  fK 178 [.slice s.a s.len s.cap] K h:=by
 refine cZ (Ly s) UM Tryz.func178 Tryz.call178 ?_;dsimp only[Ly,YQ,cB,fE];refine fo (aq (λm=>?_) λg=>ez (λf=>?_) λb=>?_)
 .rw[d.len]at m
  rw[show wr ps=1 from if_pos (.inl a4)]at c
  exact aw.2 c
 .rw[d.len]at f
  have f:ps.length=2:=by
   have:(ps.length:Int)=2:=by simpa using f
   omega
  obtain⟨a,n,_,hx⟩:=Nums.at d (i:=0) a4;obtain⟨a',j,_,o⟩:=Nums.at d (i:=1) a4;refine⟨by rw[d.len];omega,a,n,_,hx,by rw[d.len];omega,a',j,_,o,?_⟩
  have e:wr ps=if(ps[0]==ps[1])=true then 1 else 0:=by
   match ps,f with
   | [x,y],_=>simp[wr,aba]
  rw[e]at c;exact ez (λk=>by rw[if_pos k]at c;exact c) λk=>by rw[if_neg (by rw[k];decide)]at c;exact c
 .rw[d.len]at g b
  have b:ps.length≠2:=λe=>by rw[e]at b;exact absurd b a8
  have hd:aba ps=false:=by
   match ps,b with
   | [],_=>rfl
   | [_],_=>rfl
   | [_,_],h=>exact absurd rfl h
   |_::_::_::_,_=>rfl
  rw[show wr ps=0 from if_neg (by rw[hd];simp;omega)]at c
  exact ag.2 c
theorem Tc{u:Nat}{L:de}(g:RefAt W h u L nx)(B:L.length<=4611686018427387904)(q:Nums W h s ps)(D:ps.length<=4611686018427387904)
  {K:Int->eu}(k:∀h',Upd No h h'->K (pn L ps) h'):fK 179 [gV u,.slice s.a s.len s.cap] K h:=by
 refine cZ (Fv (some ⟨u,0,none⟩) s) Pp Tryz.func179 Tryz.call179 ?_;dsimp only[Fv,tD,uK,cB,fE,uR,cj,cL];refine eF (λ(i:Nat) (t:Int) h'=>t=(i:Int)/\Upd No h h'/\i<=ps.length/\∀p∈ps.take i,p∈dM L) (λi=>ps.length-i) 0 ⟨rfl,eQ _ _,aK _,a7⟩ ?_
 rintro I i t h' ⟨rfl,j,hi,y⟩ C;have x:Nums W h' s ps:=q.upd j λ_ h=>h.elim
 have z:=g.upd0 j;refine aq (λb=>?_) λw=>?_
 .rw[q.len]at b
  have b:i<ps.length:=a4
  obtain⟨a,E,_,hx⟩:=Nums.at x b;refine⟨by rw[q.len];omega,a,E,_,hx,BW z B _ λn A o m=>aq (λv=>?_) λv=>?_⟩
  .have c:ps[i]∉dM L:=λhm=>by have:=m.2 hm;omega
   rw[show pn L ps=4 from if_pos (cg.2 ⟨_,aG b,by simpa using c⟩)]at k
   exact k _ (j.tr o)
  .rw[cf b D]
   refine C (i+1) _ _ ⟨rfl,j.tr o,b,?_⟩ a4;rw[ax b];intro p d;rcases aL.1 d with f|f
   .exact y p f
   .rw[av.1 f];exact m.1 a4
 .rw[q.len]at w
  have:i=ps.length:=a4
  subst this;rw[bZ]at y;have c:¬(ps.any (λp=> !decide (p∈dM L)))=true:=λe=>by
   obtain⟨p,d,f⟩:=cg.1 e;simp[y p d]at f
  obtain⟨s',t,Ls,F,A,v,_⟩:=z.blk;refine⟨_,rfl,s',by rw[co,ba F];rfl,?_⟩
  rw[A.len,v.len];refine aq (λf=>?_) λf=>?_
  .rw[show pn L ps=6 from(if_neg c).trans (if_pos a4)]at k
   exact k _ j
  .rw[show pn L ps=0 from(if_neg c).trans (if_neg a4)]at k
   exact k _ j
theorem pJ:∀xs:List Int,cA (xs.flatMap u32)=true
 | []=>rfl
 |x::xs=>by rw[aN];exact pJ xs
abbrev parV(L:de)(id:Int):List Int:=(bE L id).getD []
inductive UpG(L:de):Int->Int->Prop
 |refl {a:Int}:a∈dM L->UpG L a a
 |step {a p b:Int}:a∈dM L->p∈parV L a->UpG L p b->UpG L a b
theorem UpG.left{L:de}(h:UpG L a b):a∈dM L:=by cases h<;>assumption
theorem GraphAt.more{a:ad}{L:de}(g:GraphAt W a gp gm L nx)(k:Upd No a h)(c:∀b,Q b->a.size<=b/\b<h.size):GraphAt (λb=>W b\/Q b) h gp gm L nx:=by
 obtain⟨m,hm,e⟩:=g.map;refine⟨k.get0 g.blk,⟨m,hm.upd k id,λj=>?_⟩,.inl g.wp,.inl g.wm,λb hb=>hb.elim (λhb=>aA (g.lt b hb) k.size) λhb=>(c b hb).2,g.nd⟩
 rcases e j with⟨s,ps,f,i,d⟩|a
 .exact .inl ⟨s,ps,f,i,(d.less λb hb=>hb.imp id λhb=>(c b hb).1).upd k λ_ h=>h.elim⟩
 .exact .inr a
theorem GraphAt.less{L:de}(g:GraphAt W h gp gm L nx)(d:∀b,W' b->W b)(a:W' gp)(c:W' gm):GraphAt W' h gp gm L nx:=by
 obtain⟨m,hm,f⟩:=g.map;refine⟨g.blk,⟨m,hm,λj=>?_⟩,a,c,λb hb=>g.lt b (d b hb),g.nd⟩
 rcases f j with⟨s,ps,a,c,e⟩|i
 .exact .inl ⟨s,ps,a,c,e.less λb hb=>.inl (d b hb)⟩
 .exact .inr i
theorem OwnS.popG{α:Type}{f:α->c5}{sz:Nat}{t:TypeId}{a:aT}{len cap:Nat}{xs:List α}{x:α}(d:OwnS f sz t M h ⟨a,len,cap⟩ (xs++ [x]))(m:n=xs.length):OwnS f sz t M h ⟨aW a 0 cap sz,n-0,cap-0⟩ xs:=by
 have k:len=(xs++ [x]).length:=d.len;have i:len<=cap:=d.cap;rw[ae,aP]at k;subst m;refine⟨rfl,d.ne,by show xs.length-0<=cap-0;omega,?_⟩
 rcases d.blk with j|⟨b,c,e,hb,hc,g⟩
 .have j:cap=0:=j
  omega
 .have e:a=some ⟨b,0,none⟩:=e
  have g:c.length=(cap-len)*sz:=g;refine .inr ⟨b,f x++c,?_,hb,?_,?_⟩
  .show aW a 0 cap sz=_
   unfold aW;rw[if_neg a4,e];simp
  .rw[hc,List.flatMap_append,aN,List.flatMap_nil,aX,List.append_assoc]
  .show(f x++c).length=(cap-0-(xs.length-0))*sz
   rw[ae,(d.ne x).1,g,show cap-0-(xs.length-0)=(cap-len)+1 by omega,Nat.succ_mul];omega
theorem mK:∀{l l':List Int},l.Nodup->(∀x∈l,x∈l')->l.length<=l'.length
 | [],_,_,_=>aK _
 |x::l,l',hn,h=>by
  rw[dW]at hn;have hx:=h x (al ..);have:=mK (l':=l'.erase x) hn.2 λy c=>(List.mem_erase_of_ne (a:=y) (b:=x) λe=>hn.1 (by rw[<-e];exact c)).2 (h y (ay _ c))
  rw[List.length_erase_of_mem hx]at this;have:0<l'.length:=List.length_pos_of_mem hx;rw[ar];omega
theorem K4{L:de}(g:GraphAt W h gp gm L nx)(hQ:∀b,Q b->W b/\b≠gp/\b≠gm)(hP:∀v∈L,v.2.length<=2)(hL:L.length<=100000)
  {start:List Int}(Z:OwnS u32 1 33 (λb=>Q b\/h.size<=b) h s start)(hn:start.length<=1000000000)
  {K:Option Nat->eu}(hk:∀r h' m,h.size<=r->MapAt KE (λn:Int=>.int .i64 n) h' r m->(∀y,y∈m.map (·.1)↔∃s∈start,UpG L s y)->(∀y v,bE m y=some v->v=1)->Upd Q h h'->K (some r) h'):
  QS 104 [gV gp,.slice s.a s.len s.cap] K h:=by
 refine cZ (sL (some ⟨gp,0,none⟩) s) Aq Tryz.func104 Tryz.call104 ?_;dsimp only[sL,tD,uK,cB,fE,ox,UC,cL,Xc,Em];have k0:=Upd.push No h (.map #[] 0);have hPl:∀id,(parV L id).length<=2:=λid=>by
  cases hl:bE L id with
  |none=>simp[parV,hl]
  |some ps=>simp only[parV,hl,Option.getD_some];exact hP _ ((eJ g.nd).1 hl)
 refine eF (λ(u:List Int×List (Int×Int)) (t:f9) h'=>Upd (λb=>Q b\/h.size<=b) h h'/\OwnS u32 1 33 (λb=>(Q b\/h.size<=b)/\b≠h.size) h' t u.1/\MapAt KE (λn:Int=>.int .i64 n) h' h.size u.2/\
   (∀y v,bE u.2 y=some v->v=1)/\u.1.length<=start.length+2*u.2.length/\
   (∀y∈u.2.map (·.1),y∈dM L/\∃s∈start,UpG L s y)/\(∀x∈u.1,∀y,UpG L x y->∃s∈start,UpG L s y)/\
   (∀s∈start,s∈dM L->s∈u.2.map (·.1)\/s∈u.1)/\(∀y∈u.2.map (·.1),∀p∈parV L y,p∈dM L->p∈u.2.map (·.1)\/p∈u.1))
  (λu=>(L.length-u.2.length)*3+u.1.length) (start,[]) ?_ ?_
 .refine⟨k0.wide,?_,MapAt.new h,λy v e=>(by cases e),Nat.le_add_right _ _,λy j=>(by cases j),λx hx y j=>⟨x,hx,j⟩,λs Z _=>.inr Z,λy j=>(by cases j)⟩
  have:=Z.upd k0 λ_ _=>id
  refine⟨this.len,this.ne,this.cap,?_⟩;rcases Z.blk with hb|⟨b,rest,e1,e2,e3,e4⟩
  .exact .inl hb
  .exact .inr ⟨b,rest,e1,⟨e2,Nat.ne_of_lt (bw e3)⟩,k0.get0 e3,e4⟩
 .rintro I ⟨q,m⟩ t h' ⟨hu,P,hm,k,o,d,E,f,G⟩ hI
  have g1:=g.upd hu λb hb=>hb.imp (hQ b) id
  (try simp only at P hm k o d E f G)
  refine aq (λH=>?_) λS=>?_
  .rw[P.len]at H
   obtain⟨xs,x,rfl⟩:∃xs x,q=xs++ [x]:=by
    rcases List.eq_nil_or_concat q with e|⟨xs,x,e⟩
    .subst e;simp at H
    .exact⟨xs,x,by rw[e,List.concat_eq_append]⟩
   have U:t.len=xs.length+1:=by rw[P.len];simp
   have hw:ac .i64 ((t.len:Int)-1)=(xs.length:Int):=by
    rw[Go.IntWalk.i64_in _ ?_,U]
    .omega
    .rw[U];simp only[ae,aP]at o
     have:m.length<=L.length:=by
      have:=mK (hm.nodup) (λy j=>(d y j).1)
      simpa using this
     omega
   rw[hw];have hmL:m.length<=L.length:=by
    have:=mK (hm.nodup) (λy j=>(d y j).1)
    simpa using this
   have hsl:Nums No h' t (xs++ [x]):=P.sl λ_ _ _=>id
   obtain⟨a,ha,_,hx⟩:=Nums.at hsl (i:=xs.length) a7;rw[show(xs++ [x])[xs.length]=x by simp]at hx
   have hcap:=P.cap;have hop:OwnS u32 1 33 (λb=>(Q b\/h.size<=b)/\b≠h.size) h' ⟨aW t.a 0 t.cap 1,((xs.length:Int)).toNat-0,t.cap-0⟩ xs:=OwnS.popG P a7
   refine⟨by rw[U];omega,a,ha,_,hx,a4,?_⟩
   have skip:(¬x∈dM L\/x∈m.map (·.1))->I ⟨aW t.a 0 t.cap 1,((xs.length:Int)).toNat-0,t.cap-0⟩ h':=λhsk=>by
    refine hI (xs,m) _ _ ⟨hu,hop,hm,k,?_,d,λz S=>E z (by simp[S]),λs Z B=>?_,λy j p hp C=>?_⟩ a7
    .simp only[ae,aP]at o⊢;omega
    .rcases f s Z B with c|c
     .exact .inl c
     .rcases aL.1 c with c|c
      .exact .inr c
      .rw[av.1 c]at B⊢
       exact .inl (hsk.resolve_left λh=>h B)
    .rcases G y j p hp C with c|c
     .exact .inl c
     .rcases aL.1 c with c|c
      .exact .inr c
      .rw[av.1 c]at C⊢
       exact .inl (hsk.resolve_left λh=>h C)
   refine eM (λt2 J=>J=h'/\(t2=true->(¬x∈dM L\/x∈m.map (·.1)))/\(t2=false->x∈dM L/\x∉m.map (·.1))) (λR hR=>?_) ?_
   .refine MH g1 x (ez (λc=>?_) λc=>?_)
    .have c:¬x∈dM L:=by simpa using c
     exact hR _ _ ⟨rfl,λ_=>.inl c,λe=>by cases e⟩
    .have c:x∈dM L:=by simpa using c
     refine⟨_,_,hm.get x 0,hR _ _ ⟨rfl,?_⟩⟩;cases hl:bE m x with
     |none=>exact⟨λe=>(by simp at e),λ_=>⟨c,dJ.1 hl⟩⟩
     |some v=>
      have:=k x v hl;subst this;refine⟨λ_=>.inr ?_,λe=>(by simp at e)⟩
      exact aR.2 ⟨_,(eJ hm.nodup).1 hl,rfl⟩
   .rintro t2 J ⟨rfl,e1,e2⟩
    refine ez (λe=>skip (e1 e)) λe=>?_
    obtain⟨A,O⟩:=e2 e;refine⟨_,_,hm.get x 0,_,rfl,hm.isMap,?_⟩;rw[dJ.2 O,show ac .i64 ((none:Option Int).getD 0+1)=1 by decide]
    have Y:=hm.put x 1;have k1:Upd (λb=>Q b\/h.size<=b) J (fC J h.size (.int .u32 x) (.int .i64 1)):=jN _ _ _ (.inr (aj _))
    have k1':Upd (· =h.size) J (fC J h.size (.int .u32 x) (.int .i64 1)):=jN _ _ _ rfl
    have V:=hu.tr k1;have g2:=g.upd V λb hb=>hb.imp (hQ b) id
    have ho2:OwnS u32 1 33 (λb=>(Q b\/h.size<=b)/\b≠h.size) _ _ xs:=hop.upd k1' λb hb=>hb.2
    obtain⟨gmm,hgm,hr⟩:=g2.map;have hml:(kw m x 1).length=m.length+1:=by
     have:=congrArg gu (xa m x 1);rw[if_neg O]at this;simpa using this
    have D:(kw m x 1).map (·.1)=m.map (·.1)++ [x]:=by rw[xa,if_neg O]
    have hmL2:m.length+1<=L.length:=by
     have:=mK Y.nodup (l':=dM L) (λy j=>by
      rw[D]at j
      rcases aL.1 j with c|c
      .exact(d y c).1
      .rw[av.1 c];exact A)
     rw[D]at this;simpa using this
    have T:∀y v,bE (kw m x 1) y=some v->v=1:=λy v hv=>by
     rw[lZ]at hv;split at hv
     .cases hv;rfl
     .exact k y v hv
    have upx:∀y,UpG L x y->∃s∈start,UpG L s y:=E x a7;refine⟨_,rfl,_,g2.c0,_,_,hgm.get x ⟨none,0,0⟩,?_⟩;rcases hr x with⟨sl,ps,l1,l2,hps⟩|⟨_,l2⟩
    .rw[l1]
     have w:parV L x=ps:=by simp[parV,l2]
     refine⟨_,hps.srow,?_⟩;have hpl:=hPl x;rw[w]at hpl;refine AppP.own ho2 hps.len rfl (pJ ps) rfl a4 ?_ ⟨.inr V.size,?_⟩ λs' h3 ho3 k3=>?_
     .simp only[ae,aP]at o;omega
     .exact Nat.ne_of_gt Y.lt
     .have hu3:=V.tr (k3.mono λb hb=>.inl hb.1)
      refine hI (xs++ps,kw m x 1) _ _ ⟨hu3,ho3,Y.upd k3 (λh=>h.2 rfl),T,?_,?_,?_,?_,?_⟩ ?_
      .simp only[ae,aP]at o⊢;rw[hml];omega
      .intro y j
       simp only[D]at j;rcases aL.1 j with c|c
       .exact d y c
       .rw[av.1 c];exact⟨A,upx x (.refl A)⟩
      .intro z S y hzy
       rcases aL.1 S with c|c
       .exact E z (by simp[c]) y hzy
       .exact upx y (.step A (by rw[w];exact c) hzy)
      .intro s1 X B
       simp only[D];rcases f s1 X B with c|c
       .exact .inl (ci _ c)
       .rcases aL.1 c with c|c
        .exact .inr (ci _ c)
        .exact .inl (cr _ c)
      .intro y j p hp C
       simp only[D]at j⊢;rcases aL.1 j with c|c
       .rcases G y c p hp C with F|F
        .exact .inl (ci _ F)
        .rcases aL.1 F with F|F
         .exact .inr (ci _ F)
         .exact .inl (cr _ F)
       .rw[av.1 c,w]at hp
        exact .inr (cr _ hp)
      .show(L.length-(kw m x 1).length)*3+(xs++ps).length<(L.length-m.length)*3+(xs++ [x]).length
       rw[hml,ae,ae,aP];omega
    .exact absurd A (dJ.1 l2)
  .have S:q= []:=by
    rw[P.len]at S;exact List.length_eq_zero_iff.1 a4
   subst S;refine hk _ _ m (aj _) hm (λy=>⟨λj=>(d y j).2,?_⟩) k (hu.mono λb hb=>hb)
   rintro⟨s1,X,hup⟩;have hup':∀a b,UpG L a b->a∈m.map (·.1)->b∈m.map (·.1):=by
    intro a b hab;induction hab with
    |refl _=>exact id
    |step c J h3 ih=>
     intro F;rcases G _ F _ J h3.left with N|N
     .exact ih N
     .cases N
   rcases f s1 X hup.left with N|N
   .exact hup' _ _ hup N
   .cases N
theorem xG{α:Type}{p:α->Bool}:∀(l:List α) (i:Nat),i<=l.length->(∀v∈l.take i,p v=true)->(∀h:i<l.length,p l[i]=false)->l.takeWhile p=l.take i/\l.dropWhile p=l.drop i
 | [],i,_,_,_=>a7
 |x::l,0,_,_,h=>by
  have:=h a7;simp only[List.getElem_cons_zero]at this;simp[this]
 |x::l,i+1,hi,h1,h2=>by
  have hx:=h1 x a7;have:=xG l i (by simpa using hi) (λv hv=>h1 v (by simp[hv])) (λh=>h2 (by simpa using h))
  simp[hx,this]
theorem sQ:∀xs:List (Int×f9),cA (xs.flatMap vf)=true
 | []=>rfl
 |x::xs=>by rw[aN];exact sQ xs
theorem Pz{q:Nat}{L:de}(g:RefAt W h q L nx)(hL:L.length<=100000)(hid:0<=id/\id<4294967295)(hs:Nums W h s ps)(hn:ps.length*4<=140737488355328)
  {K:Unit->eu}(hk:∀h',Upd (· =q) h h'->RefAt W h' q (ws L id ps) (if nx<=id then id+1 else nx)->K () h'):
  dx 180 [gV q,.int .u32 id,.slice s.a s.len s.cap] K h:=by
 refine cZ (Df (some ⟨q,0,none⟩) id s) Ni Tryz.func180 Tryz.call180 ?_;dsimp only[Df,dT,dh,cj,LK,PL,jz,fE,cL,nL,iL,ox,uR,BC];obtain⟨C,t0,Ls,h1,z,h3,E⟩:=g.blk;have D:=h3.len;have y:=g.lt;refine eF (λ(i:Nat) (t:Int) h'=>t=(i:Int)/\h'=h/\i<=L.length/\∀v∈L.take i,decide (v.1<id)=true) (λi=>L.length-i) 0 ⟨rfl,rfl,aK _,a7⟩ ?_
 rintro I i t h' ⟨rfl,rfl,hi,hp⟩ hI;have c0:aI h' (adr ⟨q,0,none⟩ 0)=some (.slice C.a C.len C.cap):=by rw[co,ba h1];rfl
 refine eM (λt z=>z=h'/\(t=true->∃y:i<L.length,L[i].1<id)/\(t=false->∀y:i<L.length,¬L[i].1<id)) (λR hR=>?_) ?_
 .refine⟨_,rfl,C,c0,aq (λB=>?_) λB=>?_⟩
  .rw[z.len,D]at B
   have B:i<L.length:=a4
   obtain⟨a,ha,c1,_⟩:=LY z (D▸B);refine⟨_,rfl,C,c0,by rw[z.len,D];omega,a,ha,_,c1,hR _ _ ⟨rfl,?_⟩⟩
   rw[(h3.get (D▸B) B).1];exact⟨λe=>⟨B,by simpa using e⟩,λe _=>by simpa using e⟩
  .rw[z.len,D]at B
   exact hR _ _ ⟨rfl,λe=>(by cases e),λ_ h5=>a4⟩
 .rintro t x ⟨rfl,e1,e2⟩
  refine ez (λe=>?_) λe=>?_
  .obtain⟨B,h5⟩:=e1 e
   rw[cf B a4];refine hI (i+1) _ _ ⟨rfl,rfl,B,?_⟩ a4;rw[ax B];intro v hv;rcases aL.1 hv with O|O
   .exact hp v O
   .rw[av.1 O];exact decide_eq_true h5
  .obtain⟨w1,w2⟩:=xG (p:=λv=>decide (v.1<id)) L i hi hp (λB=>decide_eq_false (e2 e B))
   have V:ws L id ps=L.take i++(id,ps)::L.drop i:=by unfold ws;rw[w1,w2]
   refine fo ?_;refine⟨_,rfl,C,c0,by rw[z.len,D];omega,?_⟩
   have k1:=fD No x [] 33;refine⟨k1.cell0 c0,_,(hs.upd k1 λ_ h=>h.elim).srow,?_⟩
   refine AppP.own (f:=u32) (M:=λb=>x.size<=b) (xs:= []) (ys:=ps) ⟨rfl,j7,aj _,.inl rfl⟩ hs.len rfl (pJ ps) rfl a4 (by simpa using hn) (by rw[dA];omega) λj n o18 k2=>?_
   have H:Upd No x n:=k1.trans k2 λb hb=>.inr hb
   have c19:=H.cell0 c0;refine⟨c19,?_⟩;have k3:=fD No n [.int .u32 id,.slice j.a j.len j.cap] 207;have Q:=H.tr k3;have h2a:Sl vf 2 W _ C Ls:=z.upd Q λ_ h=>h.elim
   refine⟨Q.cell0 c0,_,(h2a.sub (l:=i) (hi:=C.len) (m:=C.cap) (c:=0) (by rw[z.len,D];exact hi) (by rw[z.len];exact aj _) E).srow,?_⟩;have er:(Ls.drop i).take (C.len-i)=Ls.drop i:=by rw[z.len];exact List.take_of_length_le a7
   rw[er];have hnw:=bV n [.int .u32 id,.slice j.a j.len j.cap] 207;refine AppP.own (f:=vf) (M:=λb=>n.size<=b) (xs:= [(id,j)]) (ys:=Ls.drop i) ⟨rfl,Nz,aj _,.inr ⟨n.size,[],rfl,aj _,hnw,rfl⟩⟩
    (by rw[bo,z.len];rfl) rfl (sQ _) rfl a4 (by rw[bo,D];simp only[aP];omega) (by rw[dA];omega) λs22 o o22 k4=>?_
   have Z:Upd (λb=>n.size<=b) n o:=k3.wide.tr k4
   have u:Upd No x o:=H.trans Z λb hb=>.inr (aQ H.size hb)
   refine⟨u.cell0 c0,fo ?_⟩;have k5:=fD No o [] 207;refine⟨_,rfl,C,(u.tr k5).cell0 c0,by rw[z.len,D]at E;omega,?_⟩
   have h2b:Sl vf 2 W _ C Ls:=z.upd (u.tr k5) λ_ h=>h.elim
   refine⟨_,(h2b.sub (l:=0) (hi:=i) (m:=C.cap) (c:=0) a4 a4 (by rw[z.len,D]at E;omega)).srow,?_⟩;rw[cH,Nat.sub_zero];refine AppP.own (f:=vf) (M:=λb=>o.size<=b) (xs:= []) (ys:=Ls.take i) ⟨rfl,Nz,aj _,.inl rfl⟩ (by rw[aY];simp;omega) rfl (sQ _) rfl a4
    (by rw[aY];simp only[List.length_nil];omega) (by rw[dA];omega) λs31 h32 o31 k6=>?_
   have P:Upd (λb=>o.size<=b) o h32:=k5.wide.tr k6
   have hr:Sl vf 2 (λb=>o.size<=b) o s22 ((id,j)::Ls.drop i):=o22.sl λb _ y=>Nat.not_le.2 y
   refine⟨_,(hr.upd P λb hb=>.inl hb).srow,?_⟩
   refine AppP.own (f:=vf) (M:=λb=>o.size<=b) (xs:=Ls.take i) (ys:=(id,j)::Ls.drop i) o31 hr.len rfl (sQ _) rfl a4
    (by rw[aY,ar,bo];omega) P.size λd w o34 k7=>?_
   have S:Upd (λb=>o.size<=b) o w:=P.tr k7
   have G:Upd No x w:=u.trans S λb hb=>.inr (aQ u.size hb)
   have N:=G.get0 h1;refine⟨_,rfl,by rw[co];exact eH N a7,?_⟩
   have e0:adr ⟨q,0,none⟩ 0=⟨q,0,none⟩:=rfl;rw[e0];have k8:Upd (· =q) w (hset w ⟨q,0,none⟩ (.slice d.a d.len d.cap)):=Upd.hset _ _ rfl
   have F:(hset w ⟨q,0,none⟩ (.slice d.a d.len d.cap))[q]? =some (.cells #[.slice d.a d.len d.cap,.int .u32 nx] t0 (0,0)):=by
    rw[kH N,dE N];rfl
   have kx:Upd (· =q) x (hset w ⟨q,0,none⟩ (.slice d.a d.len d.cap)):=G.wide.tr k8
   have T:∀b,b=q->W b\/x.size<=b:=λb hb=>.inl (hb▸g.wp)
   have J:∀{h':ad},Upd (· =q) w h'->Sl vf 2 W h' d (Ls.take i++(id,j)::Ls.drop i)/\Par W h' (Ls.take i++(id,j)::Ls.drop i) (ws L id ps):=λ{h'} k=>by
    refine⟨?_,?_⟩
    .refine(o34.sl (W:=W) λb hb _ Y=>absurd (y b Y) (df.2 (aQ u.size hb))).upd k λb hb=>.inl (hb▸g.wp)
    .have kk:Upd (· =q) x h':=G.wide.tr k
     rw[V];refine Par.app (Par.upd kk T (h3.take i)) ⟨rfl,?_,Par.upd kk T (h3.drop i)⟩;have U:Nums (λb=>W b\/n.size<=b) n j ps:=o18.sl λb hb D Y=>Y.elim (λY=>absurd (y b Y) (df.2 hb)) λhge=>absurd D (df.2 hge)
     have X:Upd (λb=>W b\/n.size<=b) n h':=((Z.mono λb hb=>.inl (.inr hb)).tr (S.mono λb hb=>.inr hb)).tr (k.mono λb hb=>.inl (.inl (hb▸g.wp)))
     exact(U.upd X λb hb=>.inl hb).less λb hb=>.inl (.inl hb)
   have A:=o34.cap;refine⟨_,rfl,nx,by rw[co,ba F];rfl,aq (λO=>?_) λO=>?_⟩
   .refine⟨_,rfl,eH F a7,?_⟩
    rw[show ac .u32 (id+1)=id+1 from Go.IntWalk.u32_in _ a4]
    rw[if_pos O]at hk;have k9:Upd (· =q) _ (hset (hset w ⟨q,0,none⟩ (.slice d.a d.len d.cap)) ⟨q,1,none⟩ (.int .u32 (id+1))):=Upd.hset _ _ rfl
    obtain⟨f1,f2⟩:=J (k8.tr k9);refine hk _ (kx.tr k9) ⟨⟨d,t0,_,?_,f1,f2,A⟩,g.wp,λb hb=>aA (y b hb) (kx.tr k9).size⟩
    rw[co,kH F,dE F];rfl
   .rw[if_neg O]at hk
    obtain⟨f1,f2⟩:=J k8;exact hk _ kx ⟨⟨d,t0,_,F,f1,f2,A⟩,g.wp,λb hb=>aA (y b hb) kx.size⟩
theorem XB{L:de}(g:RefAt W h d L nx)(o:0<=nx)(p:L.length<=100000)(k:Nums W h s ps)(t:ps.length*4<=140737488355328)
  {K:Int×Int->eu}(b:∀h',Upd (· =d) h h'->RefAt W h' d (fF L nx ps).2.1 (fF L nx ps).2.2->K (fF L nx ps).1 h'):
  GA 120 [gV d,.slice s.a s.len s.cap] K h:=by
 refine cZ (LA (some ⟨d,0,none⟩) s) .nil Tryz.func120 Tryz.call120 ?_;dsimp only[LA,yL,aan,BC,dT,cL];refine XA k (ez (λa=>?_) λa=>?_)
 .have a:wr ps≠0:=by simpa using a
  rw[show fF L nx ps=_ from if_pos a]at b
  exact b h (eQ _ _) g
 .have a:¬wr ps≠0:=by simpa using a
  refine Tc g a4 k a4 λh' e=>?_
  have f:=g.upd0 e;have m:=k.upd e λ_ h=>h.elim
  refine ez (λc=>?_) λc=>?_
  .have c:pn L ps≠0:=by simpa using c
   rw[show fF L nx ps=_ from(if_neg a).trans (if_pos c)]at b
   exact b h' e.wide f
  .have c:¬pn L ps≠0:=by simpa using c
   obtain⟨u,v,Ls,b1,_⟩:=f.blk;have c1:aI h' (adr ⟨d,0,none⟩ 1)=some (.int .u32 nx):=by rw[co,ba b1];rfl
   refine⟨_,rfl,_,c1,aq (λj=>?_) λj=>?_⟩
   .rw[show fF L nx ps=_ from(if_neg a).trans ((if_neg c).trans (if_pos j))]at b
    exact b h' e.wide f
   .refine⟨_,rfl,_,c1,Pz f p a4 m t λq i n=>?_⟩
    rw[show fF L nx ps=_ from(if_neg a).trans ((if_neg c).trans (if_neg j))]at b
    rw[if_pos (eC nx)]at n;exact b _ (e.wide.tr i) n
abbrev iv(n:Int):Value:=.int .i64 n
theorem PY(h:ad)(x:Int)(hM:M h.size):OwnS u32 1 33 M (hnew h [.int .u32 x] 33) ⟨some (aH h),1,1⟩ [x]:=
 ⟨rfl,j7,aj _,.inr ⟨h.size,[],rfl,hM,bV ..,rfl⟩⟩
structure Small(L:de):Prop where
 two:∀v∈L,v.2.length<=2
 len:L.length<=100000
theorem Bs{L:de}(g:GraphAt W h gp gm L nx)(d:Small L)(a:Int)
  {K:Option Nat->eu}(i:∀r h' m,h.size<=r->MapAt KE iv h' r m->(∀y,y∈m.map (·.1)↔UpG L a y)->(∀y v,bE m y=some v->v=1)->Upd No h h'->K (some r) h'):
  QS 104 [gV gp,.slice (some (aH h)) 1 1] K (hnew h [.int .u32 a] 33):=by
 have k:=fD No h [.int .u32 a] 33;have f:=g.more (Q:=(· =h.size)) k λb hb=>by rw[dA];omega
 have c:∀b,W b->b≠h.size:=λb hb e=>absurd (g.lt b hb) a4
 refine K4 (Q:=(· =h.size)) f (λb hb=>⟨.inr hb,λe=>c _ g.wp (e▸hb),λe=>c _ g.wm (e▸hb)⟩) d.two d.len (s:=⟨some (aH h),1,1⟩) (PY h a (.inl rfl)) a7 λr h' m j hm p n o=>?_
 refine i r h' m (by rw[dA]at j;omega) hm (λy=>(p y).trans ?_) n (k.trans o λb hb=>.inr (cI hb.symm))
 simp
theorem Ub{L:de}(g:GraphAt W h gp gm L nx)(f:Small L)(a c:Int)
  (d:∀b h',(b=true↔UpG L a c)->Upd No h h'->K b h'):
  eI 103 [gV gp,.int .u32 a,.int .u32 c] K h:=by
 refine cZ (sM (some ⟨gp,0,none⟩) a c) .nil Tryz.func103 Tryz.call103 ?_;dsimp only[sM,rU];refine Bs g f a λr h' m k hm j e i=>⟨_,_,hm.get c 0,d _ _ ?_ i⟩
 rw[<-j c];cases hl:bE m c with
 |none=>simp[dJ.1 hl]
 |some v=>
  rw[e c v hl];simp only[Option.getD_some,gt_iff_lt,Int.zero_lt_one,decide_true,true_iff];exact aR.2 ⟨_,(eJ hm.nodup).1 hl,rfl⟩
theorem CN[DecidableEq κ]{l:List (κ×β)}{k:κ}{v:β}(hm:(k,v)∈l):(kZ l k).length<l.length:=by
 unfold kZ;exact List.length_filter_lt_length_iff_exists.2 ⟨_,hm,a7⟩
theorem JD{r:Nat}{m:List (Int×Int)}(hm:MapAt KE iv h r m){A:Value}(p:Int->Int->Bool)
  (P:∀h' k v (K:Bool->eu),Upd (· =r) h h'->bE m k=some v->(∀q,Upd No h' q->K (p k v) q)->HV PG A [.int .u32 k,.int .i64 v] [.c .bool] K h')
  {K:Unit->eu}(O:∀h' m',Upd (· =r) h h'->MapAt KE iv h' r m'->(∀y,bE m' y=(bE m y).filter λv=> !p y v)->K () h'):
  dx 105 [.map (some r),A] K h:=by
 refine cZ (iW (some r) A) oE Tryz.func105 Tryz.call105 ?_;dsimp only[iW,pB,Pc];obtain⟨c,⟨es,D⟩,G⟩:=hm.range;refine⟨c,.inr ⟨r,es,rfl,D⟩,?_⟩;refine eF (λ(n:List (Int×Int)×List (Int×Int)) (_:Unit) h'=>IterSt KE iv h' h.size r n.1 n.2/\Upd (· =r) h h'/\(∀y v,bE n.2 y=some v->bE m y=some v)/\
   (∀y,bE n.1 y=if(bE n.2 y).isSome then bE m y else(bE m y).filter λv=> !p y v)) (λn=>n.2.length) (m,m) ⟨G,(Upd.push _ h _),λ_ _ e=>e,λy=>?_⟩ ?_
 .cases bE m y<;>simp
 .rintro I ⟨x,a⟩ ⟨⟩ h' ⟨hi,J,ht,d⟩ H
  (try simp only at hi ht d)
  have z:=hi.nodup;refine NextP.at (M:=(· =h.size)) hi rfl (λL=>?_) λk v g e q ek N hit w C=>?_
  .subst L
   refine O h' x J hi.at λy=>?_
   rw[d y];rfl
  .refine⟨rfl,e,k,v,hit,ek,N,?_⟩
   have u:Upd (· =r) h q:=J.trans C λb hb=>.inr (cI hb.symm)
   have t:bE a k=some v:=(eJ z).2 g;have i:=ht k v t;refine P q k v _ u i λQ o=>?_
   have j:=w.upd o id id;have s:=u.tr o.wide;refine ez (λF=>?_) λF=>?_
   .refine .inr ⟨r,rfl,j.at.isMap,?_⟩
    have E:=j.del k;refine H (kZ x k,kZ (kZ a k) k) () _ ⟨E,s.tr (wQ _ _ rfl),λy B f=>?_,λy=>?_⟩ ?_
    .simp only[pq]at f
     split at f
     .cases f
     .exact ht y B f
    .simp only[pq]
     by_cases f:y=k
     .subst f;rw[if_pos rfl,if_pos rfl,i];simp[Option.filter,F]
     .simp only[f,if_false];exact d y
    .show(kZ (kZ a k) k).length<a.length
     exact Nat.lt_of_le_of_lt (bP ..) (CN g)
   .refine H (x,kZ a k) () _ ⟨j,s,λy B f=>?_,λy=>?_⟩ (CN g)
    .simp only[pq]at f
     split at f
     .cases f
     .exact ht y B f
    .simp only[pq]
     by_cases f:y=k
     .subst f;rw[if_pos rfl,d y,t,i];simp[Option.filter,F]
     .simp only[f,if_false];exact d y
theorem Wf{L:de}(g:GraphAt W h gp gm L nx)(hs:Small L)(a b:Int)
  {K:Int×Bool->eu}(hk:∀best h',(∀c,UpG L a c->UpG L b c->c<=best)->(best=0\/UpG L a best/\UpG L b best)->0<=best->Upd No h h'->K (best,decide (best>0)) h'):
  JB 57 [gV gp,.int .u32 a,.int .u32 b] K h:=by
 refine cZ (uz (some ⟨gp,0,none⟩) a b) BU Tryz.func57 Tryz.call57 ?_;dsimp only[uz,Pc,rU];refine Bs g hs a λr1 h3 m1 hr1 s hy1 ho1 D=>?_
 have g3:=g.upd0 D;refine Bs g3 hs b λJ f G hr2 x V ho2 n=>?_
 have o:=s.upd n id;have k7:=fD No f [.map none] 192;have R:=bV f [.map none] 192;refine⟨by rw[cD];exact eH R a7,?_⟩;have k8:Upd (· =f.size) (hnew f [.map none] 192) (hset (hnew f [.map none] 192) (aH f) (.map (some J))):=Upd.hset _ _ rfl
 have b8:(hset (hnew f [.map none] 192) (aH f) (.map (some J)))[f.size]? =some (.cells #[.map (some J)] 192 (0,0)):=by
  rw[cD,kH R,dE R];rfl
 have w:Upd No f (hset (hnew f [.map none] 192) (aH f) (.map (some J))):=k7.trans k8 λb hb=>.inr (cI hb.symm)
 have l1:=s.lt;have l2:=x.lt;have l6:=o.lt;refine JD (o.upd w id) (λk _=>decide ((bE G k).getD 0=0)) (λh' k v K' N hk1 U=>?_) λm A P hm' z=>?_
 .refine HV.mk' (cZ (rG k v ⟨f.size,0,none⟩) .nil Tryz.func106 Tryz.call106 ?_)
  unfold rG;have O:=(x.upd w id).upd N (λe=>a4)
  refine⟨some J,by rw[ba (N.get b8 a4)];rfl,_,_,O.get k 0,?_⟩
  have e:((bE G k).getD 0==(0:Int))=decide ((bE G k).getD 0=0):=by
   rw[Bool.eq_iff_iff,decide_eq_true_iff];simp
  rw[e];exact U h' (eQ _ _)
 .have F:∀y,(∃v,bE A y=some v)↔UpG L a y/\UpG L b y:=λy=>by
   rw[z y,<-hy1 y,<-V y];cases C:bE m1 y with
   |none=>simp[dJ.1 C]
   |some v=>
    have T:y∈m1.map (·.1):=aR.2 ⟨_,(eJ s.nodup).1 C,rfl⟩
    cases j:bE G y with
    |none=>simp[dJ.1 j,Option.filter]
    |some u=>
     have Z:y∈G.map (·.1):=aR.2 ⟨_,(eJ x.nodup).1 j,rfl⟩
     have:=ho2 y u j;subst this;simp only[T,Z,and_self,iff_true];exact⟨v,rfl⟩
  have p:Upd No h m:=((D.tr n).tr w).trans P λb hb=>.inr a4
  obtain⟨c,⟨es,X⟩,hi0⟩:=hm'.range;refine⟨c,.inr ⟨r1,es,rfl,X⟩,?_⟩;refine eF (λ(d:List (Int×Int)) (t:Int) h'=>IterSt KE iv h' m.size r1 A d/\Upd No h h'/\(∀y v,bE A y=some v->bE d y=none->y<=t)/\(t=0\/∃v,bE A t=some v)/\0<=t/\
    (∀y v,bE d y=some v->bE A y=some v)) (λd=>d.length) A ⟨hi0,p.tr (Upd.push _ _ _),λy v C j=>(by rw[C]at j;cases j),.inl rfl,eC _,λ_ _ e=>e⟩ ?_
  rintro I d t h' ⟨hi,N,E,i,h0,q⟩ hI;have S:=hi.nodup;have hge:h.size<=m.size:=p.size;refine NextP.at (M:=(· =m.size)) hi rfl (λhe=>?_) λk v H e h2 ek ev hit Q n=>?_
  .subst he
   refine hk t h' (λc T Z=>?_) ?_ h0 N
   .obtain⟨v,hv⟩:=(F c).2 ⟨T,Z⟩
    exact E c v hv rfl
   .exact i.imp id λhb=>(F t).1 hb
  .have Y:bE d k=some v:=(eJ S).2 H
   refine⟨rfl,e,k,v,hit,ek,ev,hI (kZ d k) _ _ ⟨Q,N.trans n λb hb=>.inr a4,λy u C j=>?_,?_,?_,λy u B=>?_⟩ (CN H)⟩
   .rw[pq]at j
    split at j
    .rename_i B;subst B;split<;>omega
    .have:=E y u C j;split<;>omega
   .split
    .exact .inr ⟨v,q k v Y⟩
    .exact i
   .split<;>omega
   .rw[pq]at B
    split at B
    .cases B
    .exact q y u B
structure Good(L:de):Prop extends Small L where
 up:(dM L).Pairwise (· < ·)
 par:∀v∈L,∀p∈v.2,p∈dM L/\p<v.1
theorem Good.nd{L:de}(g:Good L):(dM L).Nodup:=g.up.imp λh=>Int.ne_of_lt h
theorem Good.parV{L:de}(g:Good L){p:Int}(h:p∈parV L a):p∈dM L/\p<a/\a∈dM L:=by
 unfold Proofs.parV at h;cases hl:bE L a with
 |none=>rw[hl]at h;simp at h
 |some ps=>
  rw[hl]at h;have hm:=(eJ g.nd).1 hl;have:=g.par _ hm p (by simpa using h);exact⟨this.1,this.2,aR.2 ⟨_,hm,rfl⟩⟩
theorem UpG.snoc{L:de}{z w:Int}(h:UpG L a z)(b:w∈Proofs.parV L z)(hi:w∈dM L):UpG L a w:=by
 induction h with
 |refl h1=>exact .step h1 b (.refl hi)
 |step h1 h2 _ ih=>exact .step h1 h2 (ih b)
theorem UpG.right{L:de}(h:UpG L a b):b∈dM L:=by
 induction h with
 |refl h=>exact h
 |step _ _ _ ih=>exact ih
theorem UpG.last{L:de}(h:UpG L a b):b=a\/∃z,UpG L a z/\b∈Proofs.parV L z:=by
 induction h with
 |refl _=>exact .inl rfl
 | @step a p b h1 h2 h3 ih=>
  rcases ih with rfl|⟨z,c,hb⟩
  .exact .inr ⟨a,.refl h1,h2⟩
  .exact .inr ⟨z,.step h1 h2 c,hb⟩
theorem UpG.le{L:de}(g:Good L)(h:UpG L a b):b<=a:=by
 induction h with
 |refl _=>exact eC _
 |step _ h2 _ ih=>have:=(g.parV h2).2.1;omega
theorem UpG.trans{L:de}{c:Int}(h:UpG L a b)(k:UpG L b c):UpG L a c:=by
 induction h with
 |refl _=>exact k
 |step h1 h2 _ ih=>exact .step h1 h2 (ih k)
theorem Hi:∀{xs ys:List Int},xs.Pairwise (· < ·)->ys.Pairwise (· < ·)->(∀y,y∈xs↔y∈ys)->xs=ys
 | [],[],_,_,_=>rfl
 | [],y::ys,_,_,h=>by have:=(h y).2 (al ..);cases this
 |x::xs,[],_,_,h=>by have:=(h x).1 (al ..);cases this
 |x::xs,y::ys,hx,hy,h=>by
  rw[aC]at hx hy;have e:x=y:=by
   rcases au.1 ((h x).1 (al ..))with e|e
   .exact e
   .rcases au.1 ((h y).2 (al ..))with b|b
    .exact b.symm
    .have:=hy.1 x e;have:=hx.1 y b;omega
  subst e;congr 1
  refine Hi hx.2 hy.2 λz=>?_
  have:=h z;simp only[au]at this;constructor
  .intro a
   rcases this.1 (.inr a)with e|e
   .subst e;exact absurd (hx.1 _ a) (Int.lt_irrefl _)
   .exact e
  .intro a
   rcases this.2 (.inr a)with e|e
   .subst e;exact absurd (hy.1 _ a) (Int.lt_irrefl _)
   .exact e
theorem X3{L:de}(g:(dM L).Nodup)(hi:i<L.length):parV L L[i].1=L[i].2:=by
 have:bE L L[i].1=some L[i].2:=(eJ g).2 (aG hi);simp[parV,this]
theorem wM{xp:Nat}{L:de}(g:RefAt W h xp L nx)(V:Good L)(id:Int)
  {K:f9->eu}(hk:∀s' h' xs,xs.Pairwise (· < ·)->(∀y,y∈xs↔UpG L id y)->Nums (λb=>b<h.size) h' s' xs->Upd No h h'->K s' h'):
  dS 115 [gV xp,.int .u32 id] K h:=by
 refine cZ (Fw (some ⟨xp,0,none⟩) id) Pq Tryz.func115 Tryz.call115 ?_;dsimp only[Fw,iw,ee,uK,cB,fE,uR,cj,cL,UF,dT,nv,LK,PL,jz,rU,Xc,Em];obtain⟨s0,t0,Ls,h1,Y,h3,hcap⟩:=g.blk;have U:=h3.len;have hL:=V.len;have k0:=Upd.push No h (.map #[] 0);have m0:MapAt KE iv (h.push (.map #[] 0)) h.size []:=MapAt.new h;have k1:Upd No h (fC (h.push (.map #[] 0)) h.size (.int .u32 id) (.int .i64 1)):=k0.trans (M':=(· =h.size)) (jN _ _ _ rfl) λb hb=>.inr (cI hb.symm)
 refine⟨_,rfl,m0.isMap,_,rfl,s0,by rw[co,ba (k1.get0 h1)];rfl,?_⟩
 refine eF (λ(f:Nat×List Int×List (Int×Int)) (t:f9×Int) h'=>t.2=(f.1:Int)-1/\f.1<=L.length/\Upd No h h'/\Nums (λb=>b<=h.size) h' t.1 f.2.1/\MapAt KE iv h' h.size f.2.2/\
   (∀y v,bE f.2.2 y=some v->v=1)/\f.2.1.Pairwise (· < ·)/\f.2.1.length<=L.length-f.1/\
   (∀y,y∈f.2.1↔y∈(dM L).drop f.1/\UpG L id y)/\(∀y,y∈f.2.2.map (·.1)↔y=id\/∃z∈(dM L).drop f.1,UpG L id z/\y∈parV L z)) (λf=>f.1) (L.length,[],[(id,1)])
  ⟨?_,aj _,k1,Sl.nil j7,m0.put id 1,?_,cq,aK _,?_,?_⟩ ?_
 .show ac .i64 ((s0.len:Int)-1)=_
  rw[Y.len,U,Go.IntWalk.i64_in _ a4]
 .intro y v hv
  simp only[bE]at hv;split at hv
  .cases hv;rfl
  .cases hv
 .intro y
  rw[List.drop_of_length_le a7];simp
 .intro y
  rw[List.drop_of_length_le a7];simp
 rintro I ⟨n,out,m⟩ ⟨so,ti⟩ h' ⟨hti,hn,hu,w,hm,u,p,hlen,o,F⟩ hI;(try simp only at hti hn w hm u p hlen o F)
 subst hti;refine aq (λQ=>?_) λN=>?_
 .obtain⟨i,rfl⟩:∃i,n=i+1:=⟨n-1,by have Q:(n:Int)-1>=0:=Q;omega⟩
  have hi:i<L.length:=a4
  have ei:((i+1:Nat):Int)-1=(i:Int):=a4
  simp only[ei];have H:=Y.upd hu λ_ h=>h.elim
  obtain⟨a,ha,c0,c1⟩:=LY H (U▸hi);obtain⟨e1,e2⟩:=h3.get (U▸hi) hi;obtain⟨q1,q2,q3⟩:=P0 h' 207 (.int .u32 0) (.slice none 0 0) (Ls[i]'(U▸hi));rw[e1]at c0 q1 q2 q3;have hw:ac .i64 ((i:Int)-1)=(i:Int)-1:=Go.IntWalk.i64_in _ a4;have d:(dM L).drop i=L[i].1::(dM L).drop (i+1):=by
   rw[gC (by simpa using hi),jd]
  have hbig:∀z,z∈dM L->L[i].1<z->z∈(dM L).drop (i+1):=λz k s=>by
   have B:z∈(dM L).take (i+1)++(dM L).drop (i+1):=by rw[bK];exact k
   rcases aL.1 B with B|B
   .exfalso
    obtain⟨j,hj,ej⟩:=bJ B;rw[p9]at ej;have hj':j<=i:=by simp at hj;omega
    rcases cp j i with hji|hji
    .have:=bQ.1 V.up j i a9 (by simpa using hi) hji
     rw[ej,jd]at this;omega
    .have:j=i:=by omega
     subst this;rw[jd]at ej;omega
   .exact B
  have O:L[i].1∈m.map (·.1)↔UpG L id L[i].1:=by
   rw[F];constructor
   .rintro(e|⟨z,k,E,hz3⟩)
    .rw[<-e];exact .refl (aR.2 ⟨_,aG hi,rfl⟩)
    .exact E.snoc hz3 (aR.2 ⟨_,aG hi,rfl⟩)
   .intro p
    rcases p.last with e|⟨z,k,E⟩
    .exact .inl e
    .exact .inr ⟨z,hbig z k.right (V.parV E).2.1,k,E⟩
  have C:=hm.upd q3 λh=>h
  have S:=hu.tr q3;have hml:=hm.lt;refine fo ⟨_,rfl,s0,by rw[co,ba (hu.get0 h1)];rfl,by rw[Y.len,U];omega,a,ha,_,c0,_,c1,q1,_,kY q2 0,_,_,C.get _ 0,?_⟩
  rw[hw];refine ez (λk=>?_) λZ=>?_
  .have P:¬UpG L id L[i].1:=λp=>by
    obtain⟨x,hx,ex⟩:=aR.1 (O.2 p);have A:bE m L[i].1=some x.2:=(eJ hm.nodup).2 (by rw[<-ex];exact hx);rw[A,u _ _ A]at k;exact absurd k a8
   refine hI (i,out,m) _ _ ⟨rfl,p5 hi,S,w.upd q3 λ_ h=>h.elim,C,u,p,by(try simp only);omega,λy=>?_,λy=>?_⟩ a7
   .rw[o,d,au]
    constructor
    .exact λh=>⟨.inr h.1,h.2⟩
    .rintro⟨rfl|h,X⟩
     .exact absurd X P
     .exact⟨h,X⟩
   .rw[F,d]
    refine or_congr Iff.rfl ⟨λ⟨z,k,D⟩=>⟨z,ay _ k,D⟩,λ⟨z,k,D⟩=>?_⟩
    rcases au.1 k with rfl|k
    .exact absurd D.1 P
    .exact⟨z,k,D⟩
  .have R:UpG L id L[i].1:=by
    rw[<-O];cases A:bE m L[i].1 with
    |none=>rw[A]at Z;exact absurd Z a8
    |some v=>exact aR.2 ⟨_,(eJ hm.nodup).1 A,rfl⟩
   refine fo ⟨_,kY q2 0,_,(((w.upd q3 λ_ h=>h.elim).upd (fD No _ _ _) λ_ h=>h.elim).less (W':=No) λ_ h=>h.elim).srow,?_⟩
   have l16:=bw q2;have lh:=hu.size;refine AppP.own (PY (M:=λb=>Array.size h'+1<=b) _ L[i].1 l16) w.len rfl (pJ out) rfl a4 (by simp only[aP];omega) (by rw[dA];omega) λs' J ho3 k3=>?_
   have hu3:Upd No h J:=(S.tr (fD No _ _ _)).trans k3 λb hb=>.inr a4
   have hs3:Nums (λb=>b<=h.size) J s' ([L[i].1]++out):=ho3.sl λb hb _ hw=>a4
   have hm3:MapAt KE iv J h.size m:=(C.upd (fD No _ _ _) λh=>h).upd k3 λhb=>a4
   have b3:=k3.get ((fD No _ [.int .u32 L[i].1] 33).get0 q2) λhb=>a4
   refine⟨_,kY b3 1,?_⟩;have hps:L[i].2.length<=2:=V.two _ (aG hi);have hpv:parV L L[i].1=L[i].2:=X3 V.nd hi;refine eF (λ(f:Nat×List (Int×Int)) (t:Int) Y=>t=(f.1:Int)/\f.1<=L[i].2.length/\Upd (· =h.size) J Y/\MapAt KE iv Y h.size f.2/\(∀y v,bE f.2 y=some v->v=1)/\(∀y,y∈f.2.map (·.1)↔y∈m.map (·.1)\/y∈L[i].2.take f.1)) (λf=>L[i].2.length-f.1) (0,m)
    ⟨rfl,aK _,eQ _ _,hm3,u,λy=>a7⟩ ?_
   rintro I2 ⟨j,m2⟩ t H ⟨ht,hj,T,G,q,c⟩ hI2;(try simp only at ht hj G q c)
   subst ht;have hu4:Upd No h H:=hu3.trans T λb hb=>.inr (cI hb.symm)
   have hnum:Nums W H (Ls[i]'(U▸hi)).2 L[i].2:=e2.upd hu4 λ_ h=>h.elim
   refine aq (λs=>?_) λhge=>?_
   .rw[e2.len]at s
    have s:j<L[i].2.length:=a4
    obtain⟨a2,ha2,_,hx⟩:=Nums.at hnum s;refine⟨by rw[e2.len];omega,a2,ha2,_,hx,_,rfl,G.isMap,?_⟩;rw[cf s a4];have hput:=G.put L[i].2[j] 1;refine hI2 (j+1,kw m2 L[i].2[j] 1) _ _ ⟨rfl,s,T.tr (jN _ _ _ rfl),hput,λy v hv=>?_,λy=>?_⟩ (by(try simp only);omega)
    .rw[lZ]at hv
     split at hv
     .cases hv;rfl
     .exact q y v hv
    ·(try simp only)
     rw[xa,ax s];split
     .rename_i hmem
      rw[c y,aL,av];constructor
      .exact λh=>h.imp (λh=>h) .inl
      .rintro(h|h|rfl)
       .exact .inl h
       .exact .inr h
       .exact(c _).1 hmem
     .rw[aL,aL,av,c y,or_assoc]
   .rw[e2.len]at hge
    have:j=L[i].2.length:=a4
    subst this;rw[List.take_length]at c;refine hI (i,L[i].1::out,m2) _ _ ⟨rfl,p5 hi,hu4,hs3.upd T λb hb=>.inl (cI hb),G,q,?_,?_,λy=>?_,λy=>?_⟩ a7
    .refine aC.2 ⟨λy X=>?_,p⟩
     have hyd:=((o y).1 X).1;have:=V.up.sublist (List.drop_sublist i (dM L));rw[d,aC]at this;exact this.1 y hyd
    .simp only[ar];omega
    .rw[au,o,d,au]
     constructor
     .rintro(rfl|h)
      .exact⟨.inl rfl,R⟩
      .exact⟨.inr h.1,h.2⟩
     .rintro⟨rfl|h,X⟩
      .exact .inl rfl
      .exact .inr ⟨h,X⟩
    ·(try simp only)
     rw[c y,F,d];constructor
     .rintro((h|⟨z,k,D⟩)|h)
      .exact .inl h
      .exact .inr ⟨z,ay _ k,D⟩
      .exact .inr ⟨_,al ..,R,by rw[hpv];exact h⟩
     .rintro(h|⟨z,k,D⟩)
      .exact .inl (.inl h)
      .rcases au.1 k with rfl|k
       .rw[hpv]at D;exact .inr D.2
       .exact .inl (.inr ⟨z,k,D⟩)
 .have:n=0:=by have N:¬(n:Int)-1>=0:=N;omega
  subst this;refine hk so h' out p (λy=>(o y).trans ?_) (w.less λb hb=>.inl (p5 hb)) hu
  rw[cH];exact⟨λh=>h.2,λh=>⟨h.right,h⟩⟩
structure Inv(L:de)(nx:Int):Prop where
 good:Good L
 pos:∀id∈dM L,1<=id/\id<nx
 nx1:1<=nx
 nx2:nx<=2147483648
 few:L.length<=1024
theorem Inv.nil:Inv [] 1:=⟨⟨⟨λv hv=>(by cases hv),a7⟩,cq,λv hv=>(by cases hv)⟩,λv hv=>(by cases hv),a4,a4,a7⟩
theorem MO{id:Int}:∀{L:de},(dM L).Pairwise (· < ·)->id∉dM L->∀v∈L.dropWhile (λv=>decide (v.1<id)),id<v.1
 | [],_,_,v,hv=>by cases hv
 |u::L,hp,hn,v,hv=>by
  simp only[dM,ce,aC,au,not_or]at hp hn;rw[List.dropWhile_cons]at hv;split at hv
  .exact MO hp.2 hn.2 v hv
  .rename_i h
   have h:¬u.1<id:=by simpa using h
   rcases au.1 hv with rfl|hv
   .omega
   .have:=hp.1 v.1 (aR.2 ⟨v,hv,rfl⟩);omega
theorem RZ{id:Int}:∀{L:de},∀v∈L.takeWhile (λv=>decide (v.1<id)),v.1<id
 | [],v,hv=>by cases hv
 |u::L,v,hv=>by
  rw[List.takeWhile_cons]at hv;split at hv
  .rename_i h
   rcases au.1 hv with rfl|hv
   .simpa using h
   .exact RZ v hv
  .cases hv
theorem KW{L:de}(g:Good L)(f:id∉dM L)(e:∀p∈ps,p∈dM L/\p<id)(j:ps.length<=2)(k:L.length<100000):Good (ws L id ps):=by
 have a:=zX L id ps;refine⟨⟨λv hv=>?_,by rw[a.length_eq];simp;omega⟩,?_,λv hv p b=>?_⟩
 .rcases au.1 (a.mem_iff.1 hv)with rfl|hv
  .exact j
  .exact g.two v hv
 .unfold ws dM
  rw[List.map_append,ce,cC];refine⟨(g.up.sublist ((List.takeWhile_sublist _).map _)),aC.2 ⟨λy c=>?_,g.up.sublist ((List.dropWhile_sublist _).map _)⟩,λx hx y c=>?_⟩
  .obtain⟨v,hv,rfl⟩:=aR.1 c
   exact MO g.up f v hv
  .obtain⟨u,i,rfl⟩:=aR.1 hx
   have d:=RZ u i;rcases au.1 c with rfl|c
   .exact d
   .obtain⟨v,hv,rfl⟩:=aR.1 c
    have:=MO g.up f v hv;omega
 .rw[insV_ids.mem_iff]
  rcases au.1 (a.mem_iff.1 hv)with rfl|hv
  .exact⟨ay _ (e p b).1,(e p b).2⟩
  .have:=g.par v hv p b
   exact⟨ay _ this.1,this.2⟩
theorem HU{L:de}(h:pn L ps=0):(∀p∈ps,p∈dM L)/\L.length<1024:=by
 unfold pn at h;split at h
 .cases h
 .rename_i h1
  split at h
  .cases h
  .rename_i h2
   refine⟨λp a=>?_,a4⟩
   by_cases hm:p∈dM L
   .exact hm
   .exact absurd (cg.2 ⟨p,a,by simpa using hm⟩) h1
theorem KI(h:wr ps=0):ps.length<=2:=by
 unfold wr at h;split at h
 .cases h
 .rename_i h1
  have:=not_or.1 h1;omega
theorem Inv.add{L:de}(v:Inv L nx)(ps:List Int):Inv (fF L nx ps).2.1 (fF L nx ps).2.2:=by
 unfold fF;split
 .exact v
 .rename_i c
  split
  .exact v
  .rename_i d
   split
   .exact v
   .rename_i h3
    have c:wr ps=0:=a4
    have d:pn L ps=0:=a4
    obtain⟨f1,f⟩:=HU d;have e:nx∉dM L:=λhm=>by have:=(v.pos nx hm).2;omega
    show Inv (ws L nx ps) (nx+1)
    refine⟨KW v.good e (λp b=>⟨f1 p b,(v.pos p (f1 p b)).2⟩) (KI c) (by have:=v.few;omega),λid a=>?_,by have:=v.nx1;omega,a4,?_⟩
    .rcases au.1 (insV_ids.mem_iff.1 a)with rfl|h
     .have:=v.nx1;omega
     .have:=v.pos id h;omega
    .rw[(zX L nx ps).length_eq];simp;omega
theorem Inv.put{L:de}(v:Inv L nx)(m:0<=id)(ps:List Int):Inv (ZC L nx id ps).2.1 (ZC L nx id ps).2.2:=by
 unfold ZC;split
 .exact v
 .rename_i b
  have b:=not_or.1 b;have k:=b.1;have d:=not_or.1 b.2;have c:=not_or.1 d.2;split
  .exact v
  .rename_i h2
   split
   .exact v
   .rename_i e
    have i:wr ps=0:=a4
    have e:pn L ps=0:=a4
    obtain⟨f1,o⟩:=HU e;have g:=v.nx1;refine⟨KW v.good h2 (λp f=>⟨f1 p f,?_⟩) (KI i) (by have:=v.few;omega),λj n=>?_,by simp only;split<;>omega,?_,?_⟩
    .by_cases a:p<id
     .exact a
     .exact absurd (cg.2 ⟨p,f,by simpa using a⟩) c.2
    .rcases au.1 (insV_ids.mem_iff.1 n)with rfl|h
     .simp only;split<;>omega
     .have:=v.pos j h;simp only;split<;>omega
    .have:=v.nx2;simp only;split<;>omega
    .rw[(zX L id ps).length_eq];simp;omega
theorem Inv.drop{L:de}(v:Inv L nx){keep st:List Int}(c:∀y,y∈st↔∃k∈keep,UpG L k y):Inv (L.filter λv=>decide (v.1∈st)) nx:=by
 have a:∀id,id∈dM (L.filter λv=>decide (v.1∈st))↔id∈dM L/\id∈st:=λid=>by
  unfold dM;simp only[aR,bL,decide_eq_true_iff];constructor
  .rintro⟨u,⟨b,d⟩,rfl⟩;exact⟨⟨u,b,rfl⟩,d⟩
  .rintro⟨⟨u,b,rfl⟩,d⟩;exact⟨u,⟨b,d⟩,rfl⟩
 refine⟨⟨⟨λu f=>v.good.two u (bL.1 f).1,aQ (bP ..) v.good.len⟩,v.good.up.sublist ((List.filter_sublist).map _),λu f p j=>?_⟩,λid g=>v.pos id ((a id).1 g).1,v.nx1,v.nx2,aQ (bP ..) v.few⟩
 obtain⟨b,d⟩:=bL.1 f;obtain⟨i,m⟩:=v.good.par u b p j;refine⟨(a p).2 ⟨i,?_⟩,m⟩;obtain⟨k,n,e⟩:=(c _).1 (of_decide_eq_true d);refine(c p).2 ⟨k,n,e.snoc ?_ i⟩;have:bE L u.1=some u.2:=(eJ v.good.nd).2 b;simp[parV,this,j]
end
section
variable {k lab r:c6}{v:dO}{w:Option dO}{i:Nat}
inductive Fo where
 |nil:Fo
 |cons (lab:c6) (val:Option dO) (kids rest:Fo):Fo
abbrev Bn:=c6×Option dO×Fo
def Fo.toL:Fo->List Bn
 | .nil=> []
 | .cons lab w kids rest=>(lab,w,kids)::rest.toL
theorem Fo.toL_cons(lab:c6)(w:Option dO)(a b:Fo):(Fo.cons lab w a b).toL=(lab,w,a)::b.toL:=rfl
def Fo.ofL:List Bn->Fo
 | []=>.nil
 |(lab,w,kids)::l=>.cons lab w kids (Fo.ofL l)
theorem Fo.to_of:∀l:List Bn,(Fo.ofL l).toL=l
 | []=>rfl
 |(_,_,_)::l=>by show _::(Fo.ofL l).toL=_;rw[Fo.to_of l]
theorem Fo.of_to:∀F:Fo,Fo.ofL F.toL=F
 | .nil=>rfl
 | .cons lab w kids rest=>by show Fo.cons lab w kids (Fo.ofL rest.toL)=_;rw[Fo.of_to rest]
def qh:Fo->c6->dO->Prop
 | .nil,_,_=>False
 | .cons lab w kids rest,k,v=>(∃r,k=lab++r/\((r= []/\w=some v)\/qh kids r v))\/qh rest k v
def rX(w:Option dO)(F:Fo)(k:c6)(v:dO):Prop:=(k= []/\w=some v)\/qh F k v
def wz(n:Bn)(k:c6)(v:dO):Prop:=∃r,k=n.1++r/\rX n.2.1 n.2.2 r v
theorem eW:∀{F:Fo} {k:c6} {v:dO},qh F k v↔∃n∈F.toL,wz n k v
 | .nil,_,_=>by simp[qh,Fo.toL]
 | .cons lab w kids rest,k,v=>by
  rw[Fo.toL_cons];unfold qh;rw[eW (F:=rest)];constructor
  .rintro(h|⟨n,a,h⟩)
   .exact⟨_,al ..,h⟩
   .exact⟨n,ay _ a,h⟩
  .rintro⟨n,a,h⟩
   rcases au.1 a with rfl|a
   .exact .inl h
   .exact .inr ⟨n,a,h⟩
def hd(k:c6):Nat:=(k.headD 0).toNat
theorem oV{a b:c6}(h:a≠[]):hd (a++b)=hd a:=by
 cases a with
 |nil=>exact absurd rfl h
 |cons x a=>rfl
theorem Zd(a:c6):hd a<256:=UInt8.toNat_lt _
def eK:Fo->Prop
 | .nil=>True
 | .cons lab w kids rest=>lab≠[]/\(w.isSome\/2<=kids.toL.length)/\eK kids/\(∀n∈rest.toL,hd lab<hd n.1)/\eK rest
def UI(n:Bn):Prop:=n.1≠[]/\(n.2.1.isSome\/2<=n.2.2.toL.length)/\eK n.2.2
theorem dB:∀{F:Fo},eK F↔F.toL.Pairwise (λm n=>hd m.1<hd n.1)/\∀n∈F.toL,UI n
 | .nil=>by simp[eK,Fo.toL]
 | .cons lab w kids rest=>by
  rw[Fo.toL_cons,aC];show(lab≠[]/\(w.isSome\/2<=kids.toL.length)/\eK kids/\(∀n∈rest.toL,hd lab<hd n.1)/\eK rest)↔_
  rw[dB (F:=rest)];constructor
  .rintro⟨f,g,e,c,d,b⟩
   refine⟨⟨c,d⟩,λn a=>?_⟩
   rcases au.1 a with rfl|a
   .exact⟨f,g,e⟩
   .exact b n a
  .rintro⟨⟨c,d⟩,b⟩
   have:=b _ (al ..);exact⟨this.1,this.2.1,this.2.2,c,d,λn a=>b n (ay _ a)⟩
theorem mU:∀{F:Fo},eK F->∀n∈F.toL,∃r v,rX n.2.1 n.2.2 r v
 | .nil,_,n,a=>by simp[Fo.toL]at a
 | .cons lab w kids rest,h,n,a=>by
  rcases au.1 a with rfl|a
  .rcases h.2.1 with e|b
   .obtain⟨v,hv⟩:=gX.1 e
    exact⟨[],v,.inl ⟨rfl,hv⟩⟩
   .have c:=mU h.2.2.1
    have⟨m,hm⟩:∃m,m∈kids.toL:=by
     cases hl:kids.toL with
     |nil=>rw[hl]at b;simp at b
     |cons m l=>exact⟨m,al ..⟩
    obtain⟨r,v,d⟩:=c m hm;exact⟨m.1++r,v,.inr (eW.2 ⟨m,hm,r,rfl,d⟩)⟩
  .exact mU h.2.2.2.2 n a
theorem oU{F:Fo}(h:eK F)(hi:qh F k v):k≠[]:=by
 obtain⟨n,a,r,rfl,_⟩:=eW.1 hi;have:=((dB.1 h).2 n a).1;intro e;exact this (iS.1 e).1
theorem qv{F:Fo}(h:eK F)(hi:qh F k v):∃n∈F.toL,hd n.1=hd k/\wz n k v:=by
 obtain⟨n,a,r,e,b⟩:=eW.1 hi;exact⟨n,a,by rw[e,oV ((dB.1 h).2 n a).1],r,e,b⟩
theorem xR{F:Fo}(h:eK F){m n:Bn}(hm:m∈F.toL)(f:n∈F.toL)(e:hd m.1=hd n.1):m=n:=by
 have d:=(dB.1 h).1;revert hm f;generalize F.toL=l at*;clear h;induction l with
 |nil=>intro hm;simp at hm
 |cons a l ih=>
  have d:=aC.1 d;intro hm f;rcases au.1 hm with i|c
  .rcases au.1 f with g|b
   .rw[i,g]
   .have:=d.1 n b;rw[<-i]at this;omega
  .rcases au.1 f with g|b
   .have:=d.1 m c;rw[<-g]at this;omega
   .exact ih d.2 c b
def Br(P:c6->dO->Prop):Prop:=(∃v,P [] v)\/∃j k u v,P j u/\P k v/\j≠[]/\k≠[]/\hd j≠hd k
theorem MX{F:Fo}(h:eK F):(w.isSome\/2<=F.toL.length)↔Br (rX w F):=by
 constructor
 .rintro(y|q)
  .obtain⟨v,hv⟩:=gX.1 y
   exact .inl ⟨v,.inl ⟨rfl,hv⟩⟩
  .right
   have c:=mU h;have hc:=dB.1 h;match hL:F.toL,q with
   |a::b::l,_=>
    have d:a∈F.toL:=by rw[hL];simp
    have hb:b∈F.toL:=by rw[hL];simp
    obtain⟨r,v,x⟩:=c a d;obtain⟨s,u,c⟩:=c b hb;have i:=(hc.2 a d).1;have p:=(hc.2 b hb).1;have:=hc.1;rw[hL]at this;have A:=(aC.1 this).1 b (al ..);refine⟨a.1++r,b.1++s,v,u,.inr (eW.2 ⟨a,d,r,rfl,x⟩),.inr (eW.2 ⟨b,hb,s,rfl,c⟩),?_,?_,?_⟩
    .intro e;exact i (iS.1 e).1
    .intro e;exact p (iS.1 e).1
    .rw[oV i,oV p];omega
 .rintro(⟨v,hv⟩|⟨j,k,u,v,g,f,z,nk,t⟩)
  .rcases hv with⟨_,hv⟩|hv
   .left;rw[hv];rfl
   .exact absurd rfl (oU h hv)
  .right
   rcases g with⟨e,_⟩|g
   .exact absurd e z
   rcases f with⟨e,_⟩|f
   .exact absurd e nk
   obtain⟨m,hm,em,_⟩:=qv h g;obtain⟨n,o,en,_⟩:=qv h f;match hL:F.toL with
   | []=>rw[hL]at hm;simp at hm
   | [a]=>
    rw[hL]at hm o;rw[av.1 hm]at em;rw[av.1 o]at en;omega
   |a::b::l=>simp
theorem SN{m n:Bn}(hb:Br (rX m.2.1 m.2.2))(h:∀k v,wz m k v->wz n k v):∃t,m.1=n.1++t:=by
 rcases hb with⟨v,hv⟩|⟨j,k,u,v,i,g,o,nk,b⟩
 .obtain⟨r,e,_⟩:=h m.1 v ⟨[],(aX _).symm,hv⟩
  exact⟨r,e⟩
 .obtain⟨r,e,_⟩:=h (m.1++j) u ⟨j,rfl,i⟩
  obtain⟨s,f,_⟩:=h (m.1++k) v ⟨k,rfl,g⟩;rcases List.append_eq_append_iff.1 e with⟨a,c,d⟩|⟨a,c,d⟩
  .rw[c,ao]at f
   have f:=ey f;cases a with
   |nil=>exact⟨[],by rw[c];simp⟩
   |cons x a=>
    rw[d]at b;rw[f]at b;exact absurd rfl b
  .exact⟨a,c⟩
theorem Ra:∀{F F':Fo},eK F->eK F'->(∀k v,qh F k v↔qh F' k v)->F=F'
 | .nil,.nil,_,_,_=>rfl
 | .nil,.cons lab w b c,_,h,he=>by
  obtain⟨r,v,i⟩:=mU h _ (al ..);exact((he _ v).2 (eW.2 ⟨_,al ..,r,rfl,i⟩)).elim
 | .cons lab w b c,.nil,h,_,he=>by
  obtain⟨r,v,i⟩:=mU h _ (al ..);exact((he _ v).1 (eW.2 ⟨_,al ..,r,rfl,i⟩)).elim
 | .cons lab w b c,.cons d g a f,h,h',he=>by
  have y:∀{lab w b c} {F:Fo},eK (.cons lab w b c)->eK F->(∀k v,qh F k v->qh (.cons lab w b c) k v)->∀n∈F.toL,hd lab<=hd n.1:=by
   intro lab w b c F h D hi n j;obtain⟨r,v,i⟩:=mU D n j;obtain⟨m,hm,e,_⟩:=qv h (hi _ v (eW.2 ⟨n,j,r,rfl,i⟩));rw[oV ((dB.1 D).2 n j).1]at e;rcases au.1 hm with rfl|hm
   .simp only at e;omega
   .have:=h.2.2.2.1 m hm;omega
  have O:=y h h' (λk v=>(he k v).2) _ (al ..)
  have N:=y h' h (λk v=>(he k v).1) _ (al ..)
  simp only at O N;have q:hd lab=hd d:=a4
  have z:∀{lab w b c d g a f},eK (.cons lab w b c)->eK (.cons d g a f)->hd lab=hd d->(∀k v,qh (.cons lab w b c) k v->qh (.cons d g a f) k v)->(∀k v,wz (lab,w,b) k v->wz (d,g,a) k v)/\(∀k v,qh c k v->qh f k v):=by
   intro lab w b c d g a f h h' q hi;refine⟨λk v o=>?_,λk v o=>?_⟩
   .obtain⟨n,j,e,i⟩:=qv h' (hi k v (eW.2 ⟨_,al ..,o⟩))
    obtain⟨r,rfl,_⟩:=o;rw[oV h.1]at e;rw[<-xR h' j (al ..) cd];exact i
   .obtain⟨m,hm,em,_⟩:=qv h.2.2.2.2 o
    have:=h.2.2.2.1 m hm;obtain⟨n,j,e,i⟩:=qv h' (hi k v (Or.inr o));rcases au.1 j with rfl|j
    .simp only at e;omega
    .exact eW.2 ⟨n,j,i⟩
  have⟨C,J⟩:=z h h' q λk v=>(he k v).1
  have⟨E,I⟩:=z h' h q.symm λk v=>(he k v).2
  have s:c=f:=Ra h.2.2.2.2 h'.2.2.2.2 λk v=>⟨J k v,I k v⟩
  obtain⟨t,ht⟩:=SN (m:=(lab,w,b)) (n:=(d,g,a)) ((MX h.2.2.1).1 h.2.1) C;obtain⟨P,A⟩:=SN (m:=(d,g,a)) (n:=(lab,w,b)) ((MX h'.2.2.1).1 h'.2.1) E;simp only at ht A;have x:lab=d:=by
   have:t= []:=by
    have L:=congrArg gu ht;have H:=congrArg gu A;rw[ae]at L H;exact List.length_eq_zero_iff.1 a4
   rw[ht,this,aX]
  subst x;have u:∀{w b g a},(∀k v,wz (lab,w,b) k v->wz (lab,g,a) k v)->∀k v,rX w b k v->rX g a k v:=by
   intro w b g a j k v o;obtain⟨r,e,i⟩:=j (lab++k) v ⟨k,rfl,o⟩;rw[ey e];exact i
  have B:=u C;have G:=u E;have K:w=g:=by
   have wv:∀{w b g a},eK a->(∀k v,rX w b k v->rX g a k v)->∀v,w=some v->g=some v:=by
    intro w b g a hc hi v hv;rcases hi [] v (.inl ⟨rfl,hv⟩)with⟨_,h⟩|h
    .exact h
    .exact absurd rfl (oU hc h)
   exact Option.ext λv=>⟨wv h'.2.2.1 B v,wv h.2.2.1 G v⟩
  have kd:∀{w b g a},eK b->(∀k v,rX w b k v->rX g a k v)->∀k v,qh b k v->qh a k v:=by
   intro w b g a hc hi k v o;rcases hi k v (.inr o)with⟨e,_⟩|h
   .exact absurd e (oU hc o)
   .exact h
  have p:b=a:=Ra h.2.2.1 h'.2.2.1 λk v=>⟨kd h.2.2.1 B k v,kd h'.2.2.1 G k v⟩
  rw[K,p,s]
def wy(P a:c6->dO->Prop)(k:c6)(v:dO):Prop:=∀k' v',a k' v'↔(k'=k/\v'=v)\/(k'≠k/\P k' v')
theorem Ku{F:Fo}(h:eK F)(v:dO):wy (rX w F) (rX (some v) F) [] v:=by
 intro k' a;unfold rX;constructor
 .rintro(⟨e,f⟩|hi)
  .exact .inl ⟨e,(bI.inj f).symm⟩
  .exact .inr ⟨oU h hi,.inr hi⟩
 .rintro(⟨e,f⟩|⟨e,⟨f,_⟩|hi⟩)
  .exact .inl ⟨e,by rw[f]⟩
  .exact absurd f e
  .exact .inr hi
theorem D2{F F':Fo}(c:k≠[])(h:wy (qh F) (qh F') k v):wy (rX w F) (rX w F') k v:=by
 intro k' a;unfold rX;rw[h k' a];constructor
 .rintro(⟨e,f⟩|hi|hi)
  .exact .inr ⟨λb=>c (b.symm.trans e),.inl ⟨e,f⟩⟩
  .exact .inl hi
  .exact .inr ⟨hi.1,.inr hi.2⟩
 .rintro(hi|⟨e,hi|hi⟩)
  .exact .inr (.inl hi)
  .exact .inl hi
  .exact .inr (.inr ⟨e,hi⟩)
theorem TK{F:Fo}(h:eK F)(t:k≠[])(hi:∀j (d:j<F.toL.length),j<i->hd F.toL[j].1<hd k)(g:∀j (d:j<F.toL.length),i<=j->hd k<hd F.toL[j].1):eK (.ofL (F.toL.take i++(k,some v,.nil)::F.toL.drop i))/\wy (qh F) (qh (.ofL (F.toL.take i++(k,some v,.nil)::F.toL.drop i))) k v:=by
 have hc:=dB.1 h;have w:∀n∈F.toL.take i,hd n.1<hd k:=λn c=>by
  obtain⟨j,d,e⟩:=bJ c;rw[aY]at d;rw[<-e,p9];exact hi j a4 a4
 have u:∀n∈F.toL.drop i,hd k<hd n.1:=λn c=>by
  obtain⟨j,d,e⟩:=bJ c;rw[bo]at d;rw[<-e,List.getElem_drop];exact g _ a4 a4
 have mem:∀n,n∈F.toL.take i++(k,some v,.nil)::F.toL.drop i↔n=(k,some v,Fo.nil)\/n∈F.toL:=λn=>by
  conv=>rhs;rw[<-bK i F.toL]
  simp only[aL,au];exact⟨λh=>h.elim (λh=>.inr (.inl h)) λh=>h.elim .inl λh=>.inr (.inr h),λh=>h.elim (λh=>.inr (.inl h)) λh=>h.elim .inl λh=>.inr (.inr h)⟩
 refine⟨dB.2 ⟨?_,?_⟩,λk' x=>?_⟩
 .rw[Fo.to_of]
  have m:=hc.1;rw[<-bK i F.toL,cC]at m;refine cC.2 ⟨m.1,aC.2 ⟨u,m.2.1⟩,λa q b hb=>?_⟩
  rcases au.1 hb with rfl|hb
  .exact w a q
  .exact m.2.2 a q b hb
 .rw[Fo.to_of]
  intro n c;rcases(mem n).1 c with rfl|c
  .exact⟨t,.inl rfl,trivial⟩
  .exact hc.2 n c
 .rw[eW,eW,Fo.to_of]
  constructor
  .rintro⟨n,c,r,e,s⟩
   rcases(mem n).1 c with rfl|c
   .rcases s with⟨rfl,f⟩|f
    .exact .inl ⟨by rw[e];exact aX _,(bI.inj f).symm⟩
    .exact f.elim
   .right
    refine⟨λy=>?_,n,c,r,e,s⟩
    have z:hd k=hd n.1:=by rw[<-y,e,oV (hc.2 n c).1]
    obtain⟨j,d,p⟩:=bJ c;rcases cp j i with o|o
    .have:=hi j d o;rw[p]at this;omega
    .have:=g j d o;rw[p]at this;omega
  .rintro(⟨rfl,rfl⟩|⟨_,n,c,h⟩)
   .exact⟨(k',some x,.nil),(mem _).2 (.inl rfl),[],(aX _).symm,.inl ⟨rfl,rfl⟩⟩
   .exact⟨n,(mem _).2 (.inr c),h⟩
theorem mP{α:Type}{l:List α}(hi:i<l.length){a x:α}(nd:∀j (c:j<l.length),j≠i->l[j]≠l[i]):x∈l.set i a↔x=a\/(x∈l/\x≠l[i]):=by
 constructor
 .intro h
  obtain⟨j,c,e⟩:=bJ h;rw[iA]at c;rw[qI]at e;split at e
  .exact .inl e.symm
  .rename_i b
   exact .inr ⟨by rw[<-e];exact aG c,by rw[<-e];exact nd j c λe=>b e.symm⟩
 .rintro(rfl|⟨h,b⟩)
  .exact ol (i:=i) (h:=by simpa using hi) a7
  .obtain⟨j,c,e⟩:=bJ h
   have:i≠j:=by rintro rfl;exact b e.symm
   exact ol (i:=j) (h:=by simpa using c) (by rw[List.getElem_set_ne this];exact e)
theorem SZ{F:Fo}{m:Bn}(h:eK F)(hi:i<F.toL.length)(hm:UI m)(e:hd m.1=hd F.toL[i].1):eK (.ofL (F.toL.set i m)):=by
 have hc:=dB.1 h;rw[dB,Fo.to_of];refine⟨?_,λn f=>?_⟩
 .rw[bQ]at hc⊢
  intro a b d hb c;rw[iA]at d hb;rw[qI,qI];split
  .rename_i ea;subst ea
   rw[if_neg a4,e];exact hc.1 _ _ d hb c
  .split
   .rename_i eb;subst eb
    rw[e];exact hc.1 _ _ d hb c
   .exact hc.1 _ _ d hb c
 .rcases List.mem_or_eq_of_mem_set f with f|rfl
  .exact hc.2 n f
  .exact hm
theorem xN{F:Fo}(h:eK F)(hi:i<F.toL.length)(j:Nat)(c:j<F.toL.length)(b:j≠i):F.toL[j]≠F.toL[i]:=by
 have hc:=(dB.1 h).1;rw[bQ]at hc;intro e;rcases Nat.lt_or_gt_of_ne b with a|a
 .have:=hc j i c hi a;rw[e]at this;omega
 .have:=hc i j hi c a;rw[e]at this;omega
theorem N8{F:Fo}{m:Bn}(h:eK F)(hi:i<F.toL.length)(ek:hd F.toL[i].1=hd k)(f:wy (wz F.toL[i]) (wz m) k v):wy (qh F) (qh (.ofL (F.toL.set i m))) k v:=by
 intro k' g;have hc:=dB.1 h;rw[eW,eW,Fo.to_of];constructor
 .rintro⟨n,b,c⟩
  rcases(mP hi (xN h hi)).1 b with rfl|⟨b,d⟩
  .rcases(f k' g).1 c with a|⟨a,j⟩
   .exact .inl a
   .exact .inr ⟨a,_,aG hi,j⟩
  .refine .inr ⟨λe=>d ?_,n,b,c⟩
   obtain⟨r,o,_⟩:=c;refine xR h b (aG hi) ?_;rw[ek,<-e,o,oV (hc.2 n b).1]
 .rintro(a|⟨a,n,b,c⟩)
  .exact⟨m,(mP hi (xN h hi)).2 (.inl rfl),(f k' g).2 (.inl a)⟩
  .by_cases e:n=F.toL[i]
   .exact⟨m,(mP hi (xN h hi)).2 (.inl rfl),(f k' g).2 (.inr ⟨a,by rw[<-e];exact c⟩)⟩
   .exact⟨n,(mP hi (xN h hi)).2 (.inr ⟨b,e⟩),c⟩
theorem TJ{f:Option dO}{F F':Fo}(h:wy (rX w F) (rX f F') r v):wy (wz (lab,w,F)) (wz (lab,f,F')) (lab++r) v:=by
 intro k' c;constructor
 .rintro⟨s,e,b⟩
  rcases(h s c).1 b with⟨rfl,rfl⟩|⟨a,g⟩
  .exact .inl ⟨e,rfl⟩
  .exact .inr ⟨λd=>a (ey (e.symm.trans d)),s,e,g⟩
 .rintro(⟨rfl,rfl⟩|⟨a,s,e,b⟩)
  .exact⟨r,rfl,(h r c).2 (.inl ⟨rfl,rfl⟩)⟩
  .exact⟨s,e,(h s c).2 (.inr ⟨λd=>a (by rw[e,d]),b⟩)⟩
def cm:c6->c6->Nat
 |a::x,b::y=>if a=b then cm x y+1 else 0
 |_,_=>0
theorem Zg:∀(x y:c6),cm x y<=x.length/\cm x y<=y.length
 | [],_=>by simp[cm]
 |_::_,[]=>by simp[cm]
 |a::x,b::y=>by unfold cm;have:=Zg x y;split<;>simp<;>omega
theorem SX:∀(x y:c6),x.take (cm x y)=y.take (cm x y)
 | [],_=>by simp[cm]
 |_::_,[]=>by simp[cm]
 |a::x,b::y=>by
  unfold cm;split
  .rename_i e;rw[gf,gf,SX x y,e]
  .simp
theorem SY:∀(x y:c6),cm x y<x.length->cm x y<y.length->hd (x.drop (cm x y))≠hd (y.drop (cm x y))
 | [],_=>by simp[cm]
 |_::_,[]=>by simp[cm]
 |a::x,b::y=>by
  unfold cm;split
  .rename_i e
   intro c d;rw[ar]at c d;rw[eS,eS];exact SY x y a4 a4
  .rename_i e
   intro _ _ h;exact e (oK.1 h)
theorem ZT{x y:c6}(hx:x≠[])(c:y≠[])(h:hd x=hd y):0<cm x y:=by
 match x,y,hx,c with
 |a::x,b::y,_,_=>
  unfold cm;rw[if_pos (show a=b from oK.1 h)]
  omega
theorem KZ{F:Fo}(c:Nat):∀k v,wz (lab.take c,none,.cons (lab.drop c) w F .nil) k v↔wz (lab,w,F) k v:=by
 intro k v;constructor
 .rintro⟨r,e,⟨_,h⟩|(⟨s,rfl,h⟩|h)⟩
  .cases h
  .exact⟨s,by rw[e];simp only;rw[<-ao,bK],h⟩
  .exact h.elim
 .rintro⟨s,e,h⟩
  exact⟨lab.drop c++s,by rw[e];simp only;rw[<-ao,bK],.inr (.inl ⟨s,rfl,h⟩)⟩
theorem WV{d:Option dO}{F F':Fo}(b:lab≠[])(hb:w.isSome\/2<=F.toL.length)(i:eK F)(a:r≠[]->hd r≠hd lab)(h:wy (rX none (.cons lab w F .nil)) (rX d F') r v):Br (rX d F'):=by
 by_cases e:r= []
 .subst e
  exact .inl ⟨v,(h [] v).2 (.inl ⟨rfl,rfl⟩)⟩
 .have hc:eK (.cons lab w F .nil):=⟨b,hb,i,λn j=>by simp[Fo.toL]at j,trivial⟩
  obtain⟨s,u,f⟩:=mU hc _ (al ..);simp only at f;have g:hd (lab++s)=hd lab:=oV b;refine .inr ⟨r,lab++s,v,u,(h r v).2 (.inl ⟨rfl,rfl⟩),(h _ u).2 (.inr ⟨λc=>a e (by rw[<-c,g]),.inr (.inl ⟨s,rfl,f⟩)⟩),e,λc=>b (iS.1 c).1,by rw[g];exact a e⟩
theorem YJ{P d:c6->dO->Prop}(hb:Br P)(h:wy P d k v):Br d:=by
 have keep:∀j u,P j u->∃c,d j c:=λj u f=>by
  by_cases e:j=k
  .exact⟨v,(h j v).2 (.inl ⟨e,rfl⟩)⟩
  .exact⟨u,(h j u).2 (.inr ⟨e,f⟩)⟩
 rcases hb with⟨u,m⟩|⟨j,k',u,c,f,i,r⟩
 .obtain⟨c,h'⟩:=keep [] u m
  exact .inl ⟨c,h'⟩
 .obtain⟨a,g⟩:=keep j u f
  obtain⟨b,hb⟩:=keep k' c i;exact .inr ⟨j,k',a,b,g,hb,r⟩
end
section
open Go.Lift
variable {β:Type}{i b d n:Nat}{h:ad}{c:Array Value}{t:TypeId}{M W:eh}{sp sk:f9}{s:Slots}{ow:aT}{K:aT->eu}
theorem wP{g:Nat->Option β}(h:g i=none):upd g i none=g:=by
 funext j;unfold upd;split
 .rename_i e;rw[e,h]
 .rfl
theorem dU(hb:h[b]? =some (.cells c t (0,0))):aI h ⟨b,0+i,none⟩=c[i]?:=by rw[aU];exact ba hb
theorem Xt(hb:h[b]? =some (.cells c t (0,0))) (hi:i<c.size):Wr h ⟨b,0+i,none⟩:=by rw[aU];exact eH hb hi
theorem Jw{c':Array Value}{v:Value}{k:eu}(hb:h[b]? =some (.cells c t (0,0))) (e:c.setIfInBounds i v=c')
 (f:∀h',h'[b]? =some (.cells c' t (0,0))->Upd (· =b) h h'->k h'):At (hset h ⟨b,i,none⟩ v) k:=xS hb λh' a d=>f h' (e▸a) d
theorem MN(o:OwnN M h b d n sp sk s ow)(hi:i<32){K:Unit->eu}
  (W:∀h' C n' sp' sk',OwnN M h' b C n' sp' sk' ⟨upd s.p i none,upd s.k i none⟩ ow->Upd M h h'->K () h'):dx 219 [gV b,.int .i64 i] K h:=by
 obtain⟨A,B,X,V,a,m⟩:=o.ex;have bits:=o.bits;refine CU _ i ?_;dsimp only[vJ,dT,dh,cj,pB,B0,cL,iL,lf,BC];have U:∀k:Nat,k<=100->ac .i64 ((k:Int)+1)=((k+1:Nat):Int):=λk W=>by rw[dw a4];omega
 have Y:=Bz i d;have Z:=Bz i n;have N:∀x,A x->M x\/h.size<=x:=λx hx=>.inl (a x hx).1
 refine eM (λ_ h'=>∃sp',h'[b]? =some (.cells (eB d n sp' sk false ow) 298 (0,0))/\OwnS dZ 2 35 A h' sp' (fm (upd s.p i none) 32)/\OwnS rh 1 47 B h' sk (fm s.k 32)/\Upd M h h') (λR E=>?_) ?_
 .refine⟨_,rfl,_,dU (i:=0) o.blk,D9 bits.d32 hi ?_⟩
  rw[bits.dp i hi];cases hp:s.p i with
  |none=>exact ag.2 (E _ _ ⟨sp,o.blk,by rw[wP hp];exact X,V,eQ _ _⟩)
  |some y=>
   refine aw.2 ⟨_,rfl,_,dU (i:=0) o.blk,qP bits.d32 hi ⟨_,rfl,sp,dU (i:=2) o.blk,?_⟩⟩;rw[U _ a4];refine Q5 X (K8 hi bits.dp hp) (by have:=y9 (g:=s.p);omega) λF S t f=>?_
   rw[<-Wn hi bits.dp hp]at t;have b2:=f.get o.blk λhb=>(a b hb).2.2.1 rfl
   refine⟨_,rfl,Xt (i:=2) b2 (show 2<6 by decide),Jw (i:=2) (c':=eB d n F sk false ow) b2 rfl λT b3 j=>?_⟩
   refine E _ _ ⟨F,b3,t.upd j λx hx e=>(a x hx).2.2.1 e,(V.upd f λx hx Q=>(a x Q).2.1 hx).upd j λx hx e=>(m x hx).2.1 e,(f.mono N).tr (j.mono λx e=>.inl (e▸o.mb))⟩
 rintro _ h1 ⟨q,b1,v,D,w⟩;refine eM (λ_ h'=>∃sk',h'[b]? =some (.cells (eB d n q sk' false ow) 298 (0,0))/\OwnS dZ 2 35 A h' q (fm (upd s.p i none) 32)/\OwnS rh 1 47 B h' sk' (fm (upd s.k i none) 32)/\Upd M h1 h') (λR E=>?_) ?_
 .refine⟨_,rfl,_,dU (i:=1) b1,D9 bits.n32 hi ?_⟩
  rw[bits.nk i hi];cases hp:s.k i with
  |none=>exact ag.2 (E _ _ ⟨sk,b1,v,by rw[wP hp];exact D,eQ _ _⟩)
  |some y=>
   refine aw.2 ⟨_,rfl,_,dU (i:=1) b1,qP bits.n32 hi ⟨_,rfl,sk,dU (i:=3) b1,?_⟩⟩;rw[U _ a4];refine Q6 D (K8 hi bits.nk hp) (by have:=y9 (g:=s.k);omega) λF S t f=>?_
   rw[<-Wn hi bits.nk hp]at t;have b2:=f.get b1 λhb=>(m b hb).2.1 rfl
   refine⟨_,rfl,Xt (i:=3) b2 (show 3<6 by decide),Jw (i:=3) (c':=eB d n q F false ow) b2 rfl λT b3 j=>?_⟩
   refine E _ _ ⟨F,b3,(v.upd f λx hx Q=>(a x hx).2.1 Q).upd j λx hx e=>(a x hx).2.2.1 e,t.upd j λx hx e=>(m x hx).2.1 e,(f.mono λx hx=>.inl (m x hx).1).tr (j.mono λx e=>.inl (e▸o.mb))⟩
 rintro _ S ⟨u,b2,P,G,f⟩;refine⟨_,rfl,_,dU (i:=0) b2,_,rfl,_,dU (i:=1) b2,?_⟩;refine GK bits.d32 hi λC L O=>⟨dU (i:=1) b2,?_⟩
 refine GK bits.n32 hi λn' J H=>?_
 refine⟨_,rfl,Xt (i:=0) b2 (show 0<6 by decide),Jw (i:=0) (c':=eB C n q u false ow) b2 rfl λT b3 j=>?_⟩
 refine⟨_,rfl,Xt (i:=1) b3 (show 1<6 by decide),Jw (i:=1) (c':=eB C n' q u false ow) b3 rfl λh4 b4 I=>?_⟩
 have p:=j.tr I;have z:=(w.tr (f.tr (p.mono (M':=M) λx e=>.inl (e▸o.mb)))).size
 refine W h4 C n' q u ⟨b4,⟨L,J,λc hc=>?_,λc hc=>?_⟩,⟨A,B,P.upd p λx hx e=>(a x hx).2.2.1 e,G.upd p λx hx e=>(m x hx).2.1 e,λx hx=>⟨(a x hx).1,(a x hx).2.1,(a x hx).2.2.1,by have:=(a x hx).2.2.2;omega⟩,λx hx=>⟨(m x hx).1,(m x hx).2.1,by have:=(m x hx).2.2;omega⟩⟩,o.mb⟩ (w.tr (f.tr (p.mono λx e=>.inl (e▸o.mb))))
 .rw[O,bits.dp c hc];simp only[upd];split<;>simp[*]
 .rw[H,bits.nk c hc];simp only[upd];split<;>simp[*]
theorem OwnS.setAt{α:Type}{f:α->c5}{sz:Nat}{s:f9}{xs:List α}(i:OwnS f sz t M h s xs){k:Nat}(o:k<xs.length)(x:α):
  ∃a,s.a=some a/\M a.block/\qR h (some (adr a (k*sz))) 0 (f x)/\OwnS f sz t M (fu h (adr a (k*sz)) 0 (f x)) s (xs.take k++x::xs.drop (k+1))/\Upd (· =a.block) h (fu h (adr a (k*sz)) 0 (f x)):=by
 have g:∀x,(f x).length=sz/\0<sz:=i.ne;have p:=i.len;have e:=i.cap;rcases i.blk with D|⟨b,d,u,hb,hc,v⟩
 .omega
 have m:((xs.take k).flatMap f).length=k*sz:=by rw[jU g,aY,Nat.min_eq_left a4]
 have y:xs.flatMap f=(xs.take k).flatMap f++(f xs[k]++(xs.drop (k+1)).flatMap f):=by
  rw[<-aN,<-gC o];exact zj xs k
 rw[y]at hc;have w:=(g xs[k]).1;have z:=(g x).1;have c:(xs.take k++x::xs.drop (k+1)).flatMap f=(xs.take k).flatMap f++(f x++(xs.drop (k+1)).flatMap f):=by rw[List.flatMap_append,aN]
 generalize (xs.take k).flatMap f=A at m hc c;generalize (xs.drop (k+1)).flatMap f=B at hc c;generalize f xs[k]=X at w hc;have q:k*sz+0+(f x).length<=(A++(X++B)++d).length:=by simp only[ae];omega
 have n:adr ⟨b,0,none⟩ (k*sz)=⟨b,k*sz,none⟩:=by rw[co,aU]
 refine⟨⟨b,0,none⟩,u,hb,?_,?_,?_⟩
 .rw[n]
  refine .inr ⟨_,rfl,λj C=>?_⟩
  rw[co];exact eH hc (by rw[List.size_toArray];omega)
 .rw[n,ik (f x) h 0 (k*sz) _ hc q]
  refine⟨a9,g,e,.inr ⟨b,d,u,hb,?_,?_⟩⟩
  .rw[dE hc,c]
   congr 3
   rw[Nat.add_zero,ao A,List.take_left' m,<-List.drop_drop,cJ m,ao X,cJ a4];simp only[ao]
  .exact v
 .rw[n,ik (f x) h 0 (k*sz) _ hc q]
  exact Upd.set h _ rfl
theorem OwnN.node(o:OwnN M h b d n sp sk s ow)(a:∀x,M x->¬W x):NodeAt W h b s:=by
 obtain⟨A,B,c,e,g,f⟩:=o.ex;exact⟨⟨d,n,sp,sk,ow,o.blk,o.bits,c.sl λx hx _=>a _ (g x hx).1,e.sl λx hx _=>a _ (f x hx).1,c.cap,e.cap⟩,a _ o.mb⟩
theorem HP(nd:NodeAt W h b s)(hi:i<32){K:Bool->eu}(a:K true h):eI 218 [gV b,.int .i64 i] K h:=by
 obtain⟨d,n,sp,sk,ow,hb,_⟩:=nd.ex;refine CV _ i ?_;dsimp only[vK,fL,cL];refine aw.2 ⟨_,rfl,_,dU (i:=4) hb,aw.2 ?_⟩;refine aq (λ_=>?_) λh=>absurd (Int.natCast_nonneg i) h
 rw[decide_eq_true a4];exact a
theorem RQ{g:Nat->Option β}{x y:Option β}:upd (upd g i x) i y=upd g i y:=by
 funext j;unfold upd;split<;>rfl
theorem gY{g:Nat->Option β}{x:Option β}:upd g i x i=x:=by simp[upd]
theorem tH(nd:NodeAt W h b s)(hW:∀x,W x->x<h.size)(hi:i<32)(hx:∀y,s.p i=some y->s.k i=none)(p:Pr)
  (hk:∀h' b',NodeAt W h' b' ⟨upd s.p i (some p),upd s.k i none⟩->Upd No h h'->K (some ⟨b',0,none⟩) h'):
  fx 164 [gV b,.pointer none,.int .i64 i,.agg #[.string p.1,.string p.2]] K h:=by
 refine Aj _ none i p ?_;dsimp only[sK,dT,bq,yD,dh,lG,cj,jM,pB,cL,nW,iL,Is,FL,jz,fE,yG,rx,yI,Na];have k1:=fD No h [.string p.1,.string p.2] 35;have b1:=bV h [.string p.1,.string p.2] 35;refine bF ?_;simp only[cD h];generalize hnew h [.string p.1,.string p.2] 35=h1 at k1 b1;have z1:=bw b1;have Z:=nd.upd k1 λ_ h=>h.elim
 refine HP Z hi (ag.2 ?_);refine Qs Z λh2 d n sp sk o I=>?_
 have bits:=o.bits;obtain⟨A,B,hA,hB,q,L⟩:=o.ex;have F:=k1.tr I;have u:=I.get0 b1;have Q:∀x,h1.size<=x->¬W x:=λx hx T=>by have:=hW x T;omega
 refine⟨_,rfl,_,dU (i:=0) o.blk,D9 bits.d32 hi ?_⟩;rw[bits.dp i hi];cases hp:s.p i with
 |some y=>
  refine aw.2 ⟨_,rfl,sp,dU (i:=2) o.blk,_,rfl,_,dU (i:=0) o.blk,p.1,by rw[co,ba u];rfl,p.2,by rw[co,ba u];rfl,?_⟩
  refine qP bits.d32 hi ⟨⟨by rw[co,ba u];rfl,by rw[co,ba u];rfl⟩,dU (i:=2) o.blk,?_⟩
  have hlt:=K8 hi bits.dp hp;obtain⟨a,ha,G,T,O,m⟩:=OwnS.setAt hA hlt p;have hlen:=hA.len;refine⟨a4,a,ha,?_⟩;rw[bi];refine⟨T,bF ?_⟩;rw[<-Wl hi bits.dp hp]at O;have ob:=m.get o.blk λe=>(q _ G).2.2.1 e.symm
  have z3:=m.size;have D:OwnN (λx=>h1.size<=x) _ h1.size d n sp sk ⟨upd s.p i (some p),upd s.k i none⟩ none:=⟨ob,⟨bits.d32,bits.n32,λc hc=>by
    rw[bits.dp c hc];simp only[upd];split
    .rename_i e;rw[e,hp];rfl
    .rfl,λc hc=>by rw[bits.nk c hc,wP (hx y hp)]⟩,
   ⟨A,B,O,by rw[wP (hx y hp)];exact hB.upd m λx hx e=>(q _ G).2.1 (e▸hx),λx hx=>⟨(q x hx).1,(q x hx).2.1,(q x hx).2.2.1,by have:=(q x hx).2.2.2;omega⟩,λx hx=>⟨(L x hx).1,(L x hx).2.1,by have:=(L x hx).2.2;omega⟩⟩,o.mb⟩
  refine hk _ _ (D.node Q) (F.trans m λx hx=>.inr ?_)
  have:=(q _ G).1;have hx:x=a.block:=hx;omega
 |none=>
  refine ag.2 ⟨_,rfl,MN o hi λE d3 n3 v J D m=>?_⟩
  have f:=D.bits;obtain⟨A3,B3,hA3,hB3,j,k⟩:=D.ex;have z2:=I.size;have z3:=m.size;have z:=m.get u (show ¬h1.size<=h.size by omega)
  have Y:Upd No h E:=F.trans m λx hx=>.inr (aQ (p5 z1) hx)
  refine⟨_,rfl,v,dU (i:=2) D.blk,_,rfl,_,dU (i:=0) D.blk,p.1,by rw[co,ba z];rfl,p.2,by rw[co,ba z];rfl,?_⟩
  have U:=fD No E [.string p.1,.string p.2] 35;have b4:=bV E [.string p.1,.string p.2] 35;have z4:=dA E [.string p.1,.string p.2] 35;have N:=D.upd U λ_ h=>h.elim
  have fin:dS 220 [.slice v.a v.len v.cap,.int .i64 (xD i d3),.slice (some (aH E)) 1 1] (λ(H:f9) S=>
       ∃a34:Addr,some (⟨h1.size,0,none⟩:Addr)=some a34/\
       (Wr S (adr (adr a34 0) 2)/\
        At (hset S (adr (adr a34 0) 2) (.slice H.a H.len H.cap)) (λP=>
         ∃a36:Addr,some (⟨h1.size,0,none⟩:Addr)=some a36/\
         ∃v37:Int,aI P (adr (adr a36 0) 0)=some (.int .u32 v37)/\
         uO 221 [.int .u32 v37,.int .i64 i] (λ(e38:Int) R=>
          ∃a40:Addr,some (⟨h1.size,0,none⟩:Addr)=some a40/\
          (Wr R (adr (adr a40 0) 0)/\
           At (hset R (adr (adr a40 0) 0) (.int .u32 e38)) (λh41=>
            K (some ⟨h1.size,0,none⟩) h41))) P))) (hnew E [.string p.1,.string p.2] 35):=by
   generalize hnew E [.string p.1,.string p.2] 35=h4 at U b4 z4 N;rw[cD E];have hA4:=(hA3.upd U λ_ _ h=>h).more (M':=λx=>A3 x\/h4.size<=x) λx hx=>.inl hx
   have hpn:(⟨upd s.p i none,upd s.k i none⟩:Slots).p i=none:=gY;refine QN hA4 (Ze hi f.dp) (by have:=y9 (g:=(⟨upd s.p i none,upd s.k i none⟩:Slots).p);omega) (x:=p) b4 (λe=>e.elim (λe=>by have:=(j _ e).2.2.2;omega) λe=>a4) (λx hx=>.inr hx) λs5 h5 X C=>?_
   rw[<-Wm hi f.dp hpn p]at X;have hbl:h1.size<E.size:=bw D.blk;have b5:=C.get N.blk λe=>e.elim (λe=>(j _ e).2.2.1 rfl) λe=>a4
   refine⟨_,rfl,Xt (i:=2) b5 (show 2<6 by decide),Jw (i:=2) (c':=eB d3 n3 s5 J false none) b5 rfl λh6 b6 hu6=>?_⟩
   refine⟨_,rfl,_,dU (i:=0) b6,RN f.d32 hi λw T hwt=>?_⟩
   refine⟨_,rfl,Xt (i:=0) b6 (show 0<6 by decide),Jw (i:=0) (c':=eB w n3 s5 J false none) b6 rfl λh7 b7 hu7=>?_⟩
   have t:=hu6.tr hu7;have z5:=C.size;have z7:=t.size;have V:=X.within;have e1:(⟨upd (⟨upd s.p i none,upd s.k i none⟩:Slots).p i (some p),upd s.k i none⟩:Slots)=⟨upd s.p i (some p),upd s.k i none⟩:=by rw[RQ]
   have o7:OwnN (λx=>h1.size<=x) h7 h1.size w n3 s5 J ⟨upd s.p i (some p),upd s.k i none⟩ none:=by
    rw[<-e1];refine⟨b7,⟨T,f.n32,λc hc=>?_,f.nk⟩,⟨λx=>(A3 x\/h4.size<=x)/\x<h5.size,B3,V.upd t λx hx e=>?_,((hB3.upd U λ_ _ h=>h).upd C λx hx e=>?_).upd t λx hx e=>(k x hx).2.1 e,λx hx=>⟨?_,?_,?_,a4⟩,λx hx=>⟨(k x hx).1,(k x hx).2.1,by have:=(k x hx).2.2;omega⟩⟩,o.mb⟩
    .rw[hwt,f.dp c hc];simp only[upd];split<;>simp[*]
    .have e:x=h1.size:=e
     rcases hx.1 with h|h
     .exact(j x h).2.2.1 e
     .omega
    .rcases e with e|e
     .exact(j x e).2.1 hx
     .have:=(k x hx).2.2;omega
    .rcases hx.1 with h|h
     .exact(j x h).1
     .omega
    .rcases hx.1 with h|h
     .exact(j x h).2.1
     .exact λhb=>by have:=(k x hb).2.2;omega
    .rcases hx.1 with h|h
     .exact(j x h).2.2.1
     .omega
   refine hk _ _ (o7.node Q) (((Y.tr U).trans C λx hx=>.inr ?_).trans t λx hx=>.inr ?_)
   .rcases hx with h|h
    .have:=(j x h).1;omega
    .omega
   .have hx:x=h1.size:=hx
    omega
  refine⟨qP f.d32 hi ⟨⟨by rw[co,ba z];rfl,by rw[co,ba z];rfl⟩,dU (i:=2) D.blk,bF ⟨dU (i:=2) N.blk,fin⟩⟩,bF ⟨dU (i:=0) N.blk,dU (i:=2) N.blk,qP f.d32 hi ⟨dU (i:=2) N.blk,fin⟩⟩⟩
theorem WN(nd:NodeAt W h b s)(j:∀x,W x->x<h.size)(hi:i<32)
  (f:∀h' b',NodeAt W h' b' ⟨upd s.p i none,upd s.k i none⟩->Upd No h h'->K (some ⟨b',0,none⟩) h'):
  fx 222 [gV b,.pointer none,.int .i64 i] K h:=by
 refine CY _ none i ?_;dsimp only[vN,yD,jM,cL];refine HP nd hi (ag.2 ?_);refine Qs nd λt d n sp sk o a=>⟨_,rfl,MN o hi λp u q g m e c=>?_⟩
 exact f _ _ (e.node λx hx k=>by have:=j x k;omega) (a.trans c λx hx=>.inr hx)
theorem zL(nd:NodeAt W h b s)(hW:∀x,W x->x<h.size)(hi:i<32)(hx:∀y,s.k i=some y->s.p i=none)(kid:Addr)
  (hk:∀h' b',NodeAt W h' b' ⟨upd s.p i none,upd s.k i (some (some kid))⟩->Upd No h h'->K (some ⟨b',0,none⟩) h'):
  fx 165 [gV b,.pointer none,.int .i64 i,.pointer (some kid)] K h:=by
 refine BM _ none i (some kid) ?_;dsimp only[uw,dT,yD,dh,cj,jM,LV,pB,jz,fE,cL,iL,M9];refine ag.2 ?_;refine HP nd hi (ag.2 ?_);refine Qs nd λh2 d n sp sk o H=>?_
 have bits:=o.bits;obtain⟨A,B,hA,hB,q,t⟩:=o.ex;have N:∀x,h.size<=x->¬W x:=λx hx u=>by have:=hW x u;omega
 refine⟨_,rfl,_,dU (i:=1) o.blk,D9 bits.n32 hi ?_⟩;rw[bits.nk i hi];cases hp:s.k i with
 |some y=>
  refine aw.2 ⟨_,rfl,sk,dU (i:=3) o.blk,_,rfl,_,dU (i:=1) o.blk,?_⟩;refine qP bits.n32 hi ⟨dU (i:=3) o.blk,?_⟩;have hlt:=K8 hi bits.nk hp;obtain⟨a,ha,F,u,J,m⟩:=OwnS.setAt hB hlt (some kid);have hlen:=hB.len;refine⟨a4,a,ha,?_⟩;rw[bi];have X:Wr h2 (adr a (xD i n*1)):=by
   rcases u with u|⟨b',hb',u⟩
   .cases u
   .cases hb';exact u 0 a7
  refine⟨X,bF ?_⟩;rw[<-Wl hi bits.nk hp]at J;have ob:=m.get o.blk λe=>(t _ F).2.1 e.symm
  have z3:=m.size;have v:OwnN (λx=>h.size<=x) _ h.size d n sp sk ⟨upd s.p i none,upd s.k i (some (some kid))⟩ none:=⟨ob,⟨bits.d32,bits.n32,λc hc=>by rw[bits.dp c hc,wP (hx y hp)],λc hc=>by
    rw[bits.nk c hc];simp only[upd];split
    .rename_i e;rw[e,hp];rfl
    .rfl⟩,
   ⟨A,B,by rw[wP (hx y hp)];exact hA.upd m λx hx e=>(q _ hx).2.1 (e▸F),J,λx hx=>⟨(q x hx).1,(q x hx).2.1,(q x hx).2.2.1,by have:=(q x hx).2.2.2;omega⟩,λx hx=>⟨(t x hx).1,(t x hx).2.1,by have:=(t x hx).2.2;omega⟩⟩,o.mb⟩
  refine hk _ _ (v.node N) (H.trans m λx hx=>.inr ?_)
  have:=(t _ F).1;have hx:x=a.block:=hx;omega
 |none=>
  refine ag.2 ⟨_,rfl,MN o hi λC d3 n3 E D v m=>?_⟩
  have f:=v.bits;obtain⟨A3,B3,U,hB3,j,k⟩:=v.ex;have z2:=H.size;have z3:=m.size;have T:Upd No h C:=H.trans m λx hx=>.inr hx
  refine⟨_,rfl,D,dU (i:=3) v.blk,_,rfl,_,dU (i:=1) v.blk,?_⟩;have R:=fD No C [.pointer (some kid)] 47;have b4:=bV C [.pointer (some kid)] 47;have z4:=dA C [.pointer (some kid)] 47;have I:=v.upd R λ_ h=>h.elim
  have fin:dS 223 [.slice D.a D.len D.cap,.int .i64 (xD i n3),.slice (some (aH C)) 1 1] (λ(G:f9) P=>
       ∃a34:Addr,some (⟨h.size,0,none⟩:Addr)=some a34/\
       (Wr P (adr (adr a34 0) 3)/\
        At (hset P (adr (adr a34 0) 3) (.slice G.a G.len G.cap)) (λL=>
         ∃a36:Addr,some (⟨h.size,0,none⟩:Addr)=some a36/\
         ∃v37:Int,aI L (adr (adr a36 0) 1)=some (.int .u32 v37)/\
         uO 221 [.int .u32 v37,.int .i64 i] (λ(e38:Int) O=>
          ∃a40:Addr,some (⟨h.size,0,none⟩:Addr)=some a40/\
          (Wr O (adr (adr a40 0) 1)/\
           At (hset O (adr (adr a40 0) 1) (.int .u32 e38)) (λV=>
            K (some ⟨h.size,0,none⟩) V))) L))) (hnew C [.pointer (some kid)] 47):=by
   generalize hnew C [.pointer (some kid)] 47=h4 at R b4 z4 I;rw[cD C];have hB4:=(hB3.upd R λ_ _ h=>h).more (M':=λx=>B3 x\/h4.size<=x) λx hx=>.inl hx
   have Z:(⟨upd s.p i none,upd s.k i none⟩:Slots).k i=none:=gY;refine QO hB4 (Ze hi f.nk) (by have:=y9 (g:=(⟨upd s.p i none,upd s.k i none⟩:Slots).k);omega) (x:=some kid) b4 (λe=>e.elim (λe=>by have:=(k _ e).2.2;omega) λe=>a4) (λx hx=>.inr hx) λY h5 S z=>?_
   rw[<-Wm hi f.nk Z (some kid)]at S;have hbl:h.size<C.size:=bw v.blk;have b5:=z.get I.blk λe=>e.elim (λe=>(k _ e).2.1 rfl) λe=>a4
   refine⟨_,rfl,Xt (i:=3) b5 (show 3<6 by decide),Jw (i:=3) (c':=eB d3 n3 E Y false none) b5 rfl λh6 b6 hu6=>?_⟩
   refine⟨_,rfl,_,dU (i:=1) b6,RN f.n32 hi λw u hwt=>?_⟩
   refine⟨_,rfl,Xt (i:=1) b6 (show 1<6 by decide),Jw (i:=1) (c':=eB d3 w E Y false none) b6 rfl λh7 b7 hu7=>?_⟩
   have p:=hu6.tr hu7;have z5:=z.size;have z7:=p.size;have Q:=S.within;have e1:(⟨upd s.p i none,upd (⟨upd s.p i none,upd s.k i none⟩:Slots).k i (some (some kid))⟩:Slots)=⟨upd s.p i none,upd s.k i (some (some kid))⟩:=by rw[RQ]
   have o7:OwnN (λx=>h.size<=x) h7 h.size d3 w E Y ⟨upd s.p i none,upd s.k i (some (some kid))⟩ none:=by
    rw[<-e1];refine⟨b7,⟨f.d32,u,f.dp,λc hc=>?_⟩,⟨A3,λx=>(B3 x\/h4.size<=x)/\x<h5.size,((U.upd R λ_ _ h=>h).upd z λx hx e=>?_).upd p λx hx e=>(j x hx).2.2.1 e,Q.upd p λx hx e=>?_,λx hx=>⟨(j x hx).1,?_,(j x hx).2.2.1,by have:=(j x hx).2.2.2;omega⟩,λx hx=>⟨?_,?_,a4⟩⟩,o.mb⟩
    .rw[hwt,f.nk c hc];simp only[upd];split<;>simp[*]
    .rcases e with e|e
     .exact(j x hx).2.1 e
     .have:=(j x hx).2.2.2;omega
    .have e:x=h.size:=e
     rcases hx.1 with h|h
     .exact(k x h).2.1 e
     .omega
    .rintro⟨h|h,_⟩
     .exact(j x hx).2.1 h
     .have:=(j x hx).2.2.2;omega
    .rcases hx.1 with h|h
     .exact(k x h).1
     .omega
    .rcases hx.1 with h|h
     .exact(k x h).2.1
     .omega
   refine hk _ _ (o7.node N) (((T.tr R).trans z λx hx=>.inr ?_).trans p λx hx=>.inr ?_)
   .rcases hx with h|h
    .exact(k x h).1
    .omega
   .have hx:x=h.size:=hx
    omega
  refine⟨qP f.n32 hi ⟨dU (i:=3) v.blk,bF ⟨dU (i:=3) I.blk,fin⟩⟩,bF ⟨dU (i:=1) I.blk,dU (i:=3) I.blk,qP f.n32 hi ⟨dU (i:=3) I.blk,fin⟩⟩⟩
end
end Go.Proofs
