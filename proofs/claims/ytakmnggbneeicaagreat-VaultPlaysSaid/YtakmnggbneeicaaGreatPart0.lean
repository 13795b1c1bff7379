/- A part of the proof that the named laws of this program answer true, whatever the input. -/
import Derived.Test.YtakmnggbneeicaaGreatTreeF0
import Derived.Test.YtakmnggbneeicaaGreatTreeF1
import Derived.Test.YtakmnggbneeicaaGreatLaw0
import Derived.Test.YtakmnggbneeicaaGreatLift1
import Derived.Lib.Overlaps
import Derived.Sort.Walk0
import Derived.IntWalk
open BitVec renaming ofInt->aB,ofInt_natCast->iB,getLsbD_ofNat->nH
open Bool renaming eq_iff_iff->gN
open ByteArray renaming size_extract->eK
open Go.IntKind renaming wrap->ac,bits->al
open Go.Op renaming bytesLess->bF
open Int renaming fdiv->eY,toNat_natCast->aY,le_refl->gM
open List renaming flatMap_cons->aL,take_length->bG,drop_length->rm,length_take->aV,length_drop->ba,flatMap_append->bI,drop_zero->cP,append_assoc->au,take_append_of_le_length->fG,take_of_length_le->bd,length_append->ae,drop_left->gD,take_left->iy,size_toArray->cW,drop_eq_getElem_cons->dL,length_eq_zero_iff->aK,drop_left'->cK,take_left'->cZ,drop_drop->cV,drop_append_of_le_length->fJ,getElem_cons_zero->eJ,getElem?_eq_getElem->af,replicate->eO,replicate_succ->oz,length_cons->av,take_succ_eq_append_getElem->ax,flatten_append->fz,flatten_cons->eX,flatten_nil->ol,append_nil->aX,length->eT,any_eq_true->cq,length_singleton->aG,range->fy,range_add->vn,mem_range->fW,filterMap_cons->kM,mem_cons_self->aq,mem_cons_of_mem->aA,filterMap_append->mq,getElem_mem->aF,mem_append->aN,mem_singleton->az,takeWhile_append_dropWhile->gR,mem_map->be,nodup_cons->eP,mem_append_left->cx,mem_append_right->cA,length_filter_le->bQ,pairwise_cons->aC,mem_cons->aw,getElem_map->js,take_append_drop->aW,getElem_of_mem->bH,getElem_take->mD,pairwise_iff_getElem->cp,map_cons->cn,pairwise_append->cE,mem_filter->bV,append_eq_nil_iff->jd,append_cancel_left->eo,length_set->iT,getElem_set->rl,mem_of_getElem->oA,take_succ_cons->dw,drop_succ_cons->fC
open List.Pairwise renaming nil->cj
open Nat renaming zero_add->aU,sub_self->im,le_refl->aj,lt_or_ge->ci,min_eq_left->bU,sub_zero->eI,min->dU,add_one_mul->gL,one_mul->sC,le_mul_of_pos_left->qq,min_eq_right->ri,zero_mul->ud,zero_le->aJ,one_pos->wF,testBit_and->l5,testBit_two_pow_sub_one->mB,shiftRight_eq_div_pow->cU,lt_of_le_of_lt->gc,and_le_right->rk,shiftRight_le->iJ,mod_eq_of_lt->d9,testBit_lt_two_pow->gC,lt_of_lt_of_le->aD,pow_le_pow_right->fg,le_of_eq->cL,not_lt->dR,le_trans->aO,le_of_lt->kr
open Option renaming isSome_iff_exists->ik,some->bO
open UInt8 renaming ofNat->gf,toNat_inj->l4
namespace Go.Proofs
section
open Go.Lift
variable {x:Int}{i n b:Nat}{h a:ad}{t:TypeId}{v:Value}{k:dO}{K:Int->dO}{s:c6}
theorem Ew(n:Int):0<=ac .u64 n/\ac .u64 n<18446744073709551616:=by rw[IntKind.wrap_u64];omega
theorem dI(h: -4611686018427387904<=x/\x<=4611686018427387904):ac .i64 x=x:=Go.IntWalk.i64_in _ a4
theorem bN(h:i<n)(a:n<=4611686018427387904):ac .i64 ((i:Int)+1)=((i+1:Nat):Int):=by rw[dI a4];omega
theorem zV{c:Array Value}(hb:h[b]? =some (.cells c t (0,0)))
  (a:∀h',h'[b]? =some (.cells (c.setIfInBounds i v) t (0,0))->Upd (· =b) h h'->k h'):At (hset h ⟨b,i,none⟩ v) k:=by
 refine a _ ?_ (Upd.hset _ _ rfl);rw[kU hb,eE hb]
def Qj(a b:Int):Int:=ac .u64 (aB (al .u64) a&&&aB (al .u64) b).toNat
def dB(a b:Int):Int:=ac .u64 (aB (al .u64) a^^^aB (al .u64) b).toNat
def Il(a b:Int):Int:=ac .u64 (aB (al .u64) a|||aB (al .u64) b).toNat
def H5(x n:Int):Int:=
 Il (ac .u64 (x*2^(min (Qj (ac .u64 n) 63).toNat (al .u64)))) (eY x (2^(min (ac .u64 (64-Qj (ac .u64 n) 63)).toNat (al .u64))))
theorem EI{n:Int}(a:K (H5 x n) h):pQ 278 [.int .u64 x,.int .i64 n] K h:=by
 refine dg (oO x n) .nil Tryz.func278 Tryz.call278 ?_;dsimp only[oO,Jx];exact⟨(Ew _).1,(Ew _).1,a⟩
abbrev Q4:=Int×Int×Int×Int
def q4(s:Q4):Array Value:= #[.int .u64 s.1,.int .u64 s.2.1,.int .u64 s.2.2.1,.int .u64 s.2.2.2]
def YV(a b:Int):Int:=ac .u64 (a+b)
def Zd(s:Q4):Q4:=(YV s.1 s.2.1,s.2)
def ZO(s:Q4):Q4:=(s.1,dB (H5 s.2.1 13) s.1,s.2.2)
def aba(s:Q4):Q4:=(H5 s.1 32,s.2)
def abC(s:Q4):Q4:=(s.1,s.2.1,YV s.2.2.1 s.2.2.2,s.2.2.2)
def acn(s:Q4):Q4:=(s.1,s.2.1,s.2.2.1,dB (H5 s.2.2.2 16) s.2.2.1)
def acm(s:Q4):Q4:=(YV s.1 s.2.2.2,s.2)
def adH(s:Q4):Q4:=(s.1,s.2.1,s.2.2.1,dB (H5 s.2.2.2 21) s.1)
def adW(s:Q4):Q4:=(s.1,s.2.1,YV s.2.2.1 s.2.1,s.2.2.2)
def adV(s:Q4):Q4:=(s.1,dB (H5 s.2.1 17) s.2.2.1,s.2.2)
def aa9(s:Q4):Q4:=(s.1,s.2.1,H5 s.2.2.1 32,s.2.2.2)
def ly(s:Q4):Q4:=aa9 (adV (adW (adH (acm (acn (abC (aba (ZO (Zd s)))))))))
def p6:Nat->Q4->Q4
 |0,s=>s
 |n+1,s=>p6 n (ly s)
theorem qM{s s':Q4}(hb:h[b]? =some (.cells (q4 s) t (0,0))) (e:(q4 s).setIfInBounds i v=q4 s')
  (d:∀h',h'[b]? =some (.cells (q4 s') t (0,0))->Upd (· =b) h h'->k h'):At (hset h ⟨b,i,none⟩ v) k:=
 zV hb λh' a c=>d h' (e▸a) c
theorem Lr(X:n<=100){s:Q4}(hb:h[b]? =some (.cells (q4 s) t (0,0))) {K:Unit->dO}
  (N:∀h',h'[b]? =some (.cells (q4 (p6 n s)) t (0,0))->Upd (· =b) h h'->K () h'):dQ 237 [gZ b,.int .i64 n] K h:=by
 refine Cm _ _ ?_;dsimp only[uU,cz,fj,dd,pY,cJ,ze,G5,Fc,DK,KQ];refine ez (λ(g:Nat×Q4) (L:Int) h'=>L=(g.1:Int)/\g.1<=n/\h'[b]? =some (.cells (q4 g.2) t (0,0))/\Upd (· =b) h h'/\p6 (n-g.1) g.2=p6 n s) (λg=>n-g.1) (0,s) ⟨rfl,Nat.zero_le _,hb,eM _ _,rfl⟩ ?_
 rintro I ⟨i,d⟩ L h' ⟨ht,hi,a,O,x⟩ S;(try simp only at ht hi a x)
 subst ht;refine ar (λu=>?_) λR=>?_
 .have u:i<n:=by omega
  have c:∀{h:ad} {s:Q4} {i:Nat},h[b]? =some (.cells (q4 s) t (0,0))->aZ h ⟨b,0+i,none⟩=(q4 s)[i]?:=λhb=>by rw[aU];exact bw hb
  have w:∀{h:ad} {s:Q4} {i:Nat},h[b]? =some (.cells (q4 s) t (0,0))->i<4->Wr h ⟨b,0+i,none⟩:=λhb hi=>by rw[aU];exact fk hb hi
  simp only[show((0:Int)).toNat*1=0 from rfl,show((1:Int)).toNat*1=1 from rfl,show((2:Int)).toNat*1=2 from rfl,show((3:Int)).toNat*1=3 from rfl]
  refine⟨_,rfl,a8,_,c (i:=0) a,_,rfl,a8,_,c (i:=1) a,_,rfl,a8,w (i:=0) a a8,qM (s':=Zd d) a rfl λV m D=>?_⟩
  refine⟨_,rfl,a8,_,c (i:=1) m,_,rfl,a8,_,c (i:=0) m,_,rfl,EI ⟨c (i:=0) m,a8,w (i:=1) m a8,qM (s':=ZO (Zd d)) m rfl λU v H=>?_⟩⟩
  refine⟨_,rfl,a8,_,c (i:=0) v,_,rfl,EI ⟨a8,w (i:=0) v a8,qM (s':=aba (ZO (Zd d))) v rfl λY p F=>?_⟩⟩
  refine⟨_,rfl,a8,_,c (i:=2) p,_,rfl,a8,_,c (i:=3) p,_,rfl,a8,w (i:=2) p a8,qM (s':=abC (aba (ZO (Zd d)))) p rfl λW f B=>?_⟩
  refine⟨_,rfl,a8,_,c (i:=3) f,_,rfl,a8,_,c (i:=2) f,_,rfl,EI ⟨c (i:=2) f,a8,w (i:=3) f a8,qM (s':=acn (abC (aba (ZO (Zd d))))) f rfl λh6 o C=>?_⟩⟩
  refine⟨_,rfl,a8,_,c (i:=0) o,_,rfl,a8,_,c (i:=3) o,_,rfl,a8,w (i:=0) o a8,qM (s':=acm (acn (abC (aba (ZO (Zd d)))))) o rfl λh7 j G=>?_⟩
  refine⟨_,rfl,a8,_,c (i:=3) j,_,rfl,a8,_,c (i:=0) j,_,rfl,EI ⟨c (i:=0) j,a8,w (i:=3) j a8,qM (s':=adH (acm (acn (abC (aba (ZO (Zd d))))))) j rfl λT q E=>?_⟩⟩
  refine⟨_,rfl,a8,_,c (i:=2) q,_,rfl,a8,_,c (i:=1) q,_,rfl,a8,w (i:=2) q a8,qM (s':=adW (adH (acm (acn (abC (aba (ZO (Zd d)))))))) q rfl λZ k J=>?_⟩
  refine⟨_,rfl,a8,_,c (i:=1) k,_,rfl,a8,_,c (i:=2) k,_,rfl,EI ⟨c (i:=2) k,a8,w (i:=1) k a8,qM (s':=adV (adW (adH (acm (acn (abC (aba (ZO (Zd d))))))))) k rfl λP e z=>?_⟩⟩
  refine⟨_,rfl,a8,_,c (i:=2) e,_,rfl,EI ⟨a8,w (i:=2) e a8,qM (s':=ly d) e rfl λQ y A=>?_⟩⟩
  rw[bN u a4];refine S (i+1,ly d) _ _ ⟨rfl,u,y,O.tr (D.tr (H.tr (F.tr (B.tr (C.tr (G.tr (E.tr (J.tr (z.tr A))))))))),?_⟩ (by(try simp only);omega);(try simp only)
  rw[<-x,show n-i=(n-(i+1))+1 by omega];rfl
 .obtain rfl:i=n:=by omega
  rw[im]at x;have x:d=p6 i s:=x;rw[<-x]at N;exact N _ a O
def Qi(s:c6)(i:Nat):Int:=match s[i]? with|some b=>(b.toNat:Int)|none=>0
def aa8(b:Int)(n:Int):Int:=ac .u64 ((ac .u64 b)*2^(min n.toNat (al .u64)))
def wj(s:c6):Nat->Int->Int
 |0,t=>t
 |k+1,t=>wj s k (Il t (if k=0 then ac .u64 (Qi s 0)else aa8 (Qi s k) ((8*k:Nat):Int)))
def A8(s:c6):Int:=wj s s.size 0
theorem rX(h:i<s.size):∃b,s[i]? =some b/\Qi s i=(b.toNat:Int):=⟨s[i],getElem?_pos s i h,by simp[Qi,getElem?_pos s i h]⟩
theorem TH(E:s.size<=8)(c:K (A8 s) h):pQ 236 [.string s] K h:=by
 refine dg (JH s) Tn Tryz.func236 Tryz.call236 ?_;dsimp only[JH,Jx,zY];refine eF (λt h'=>h'=h/\1<=s.size/\wj s 1 t=wj s s.size 0) (λz d=>?_) ?_
 .refine eF (λt h'=>h'=h/\2<=s.size/\wj s 2 t=wj s s.size 0) (λR2 f=>?_) ?_
  .refine eF (λt h'=>h'=h/\3<=s.size/\wj s 3 t=wj s s.size 0) (λF j=>?_) ?_
   .refine eF (λt h'=>h'=h/\4<=s.size/\wj s 4 t=wj s s.size 0) (λG k=>?_) ?_
    .refine eF (λt h'=>h'=h/\5<=s.size/\wj s 5 t=wj s s.size 0) (λB m=>?_) ?_
     .refine eF (λt h'=>h'=h/\6<=s.size/\wj s 6 t=wj s s.size 0) (λH g=>?_) ?_
      .refine eF (λt h'=>h'=h/\7<=s.size/\wj s 7 t=wj s s.size 0) (λO n=>?_) ?_
       .refine eh (λe=>?_) λp=>?_
        .have e:s.size=8:=by have:=of_decide_eq_true (by simpa using e:decide ((s.size:Int)=8)=true);omega
         obtain⟨b,hb,hv⟩:=rX (s:=s) (i:=7) a4;refine⟨b,a8,hb,a8,n _ _ ⟨rfl,a4,?_⟩⟩
         rw[e,<-hv];rfl
        refine eh (λe=>?_) λw=>?_
        .have e:s.size=7:=by have:=of_decide_eq_true (by simpa using e:decide ((s.size:Int)=7)=true);omega
         exact n _ _ ⟨rfl,a4,by rw[e]⟩
        refine eh (λe=>?_) λo=>?_
        .have e:s.size=6:=by have:=of_decide_eq_true (by simpa using e:decide ((s.size:Int)=6)=true);omega
         exact g _ _ ⟨rfl,a4,by rw[e]⟩
        refine eh (λe=>?_) λx=>?_
        .have e:s.size=5:=by have:=of_decide_eq_true (by simpa using e:decide ((s.size:Int)=5)=true);omega
         exact m _ _ ⟨rfl,a4,by rw[e]⟩
        refine eh (λe=>?_) λq=>?_
        .have e:s.size=4:=by have:=of_decide_eq_true (by simpa using e:decide ((s.size:Int)=4)=true);omega
         exact k _ _ ⟨rfl,a4,by rw[e]⟩
        refine eh (λe=>?_) λy=>?_
        .have e:s.size=3:=by have:=of_decide_eq_true (by simpa using e:decide ((s.size:Int)=3)=true);omega
         exact j _ _ ⟨rfl,a4,by rw[e]⟩
        refine eh (λe=>?_) λv=>?_
        .have e:s.size=2:=by have:=of_decide_eq_true (by simpa using e:decide ((s.size:Int)=2)=true);omega
         exact f _ _ ⟨rfl,a4,by rw[e]⟩
        refine eh (λe=>?_) λu=>?_
        .have e:s.size=1:=by have:=of_decide_eq_true (by simpa using e:decide ((s.size:Int)=1)=true);omega
         exact d _ _ ⟨rfl,a4,by rw[e]⟩
        have e:s.size=0:=by
         have I:¬(s.size:Int)=1:=by simpa using u
         have N:¬(s.size:Int)=2:=by simpa using v
         have L:¬(s.size:Int)=3:=by simpa using y
         have q4:¬(s.size:Int)=4:=by simpa using q
         have D:¬(s.size:Int)=5:=by simpa using x
         have J:¬(s.size:Int)=6:=by simpa using o
         have A:¬(s.size:Int)=7:=by simpa using w
         have C:¬(s.size:Int)=8:=by simpa using p
         omega
        unfold A8 at c;rw[e]at c;exact c
       .rintro t _ ⟨rfl,a,ht⟩
        obtain⟨b,hb,hv⟩:=rX (s:=s) (i:=6) a4;refine⟨b,a8,hb,a8,g _ _ ⟨rfl,a4,?_⟩⟩
        rw[<-ht,<-hv];rfl
      .rintro t _ ⟨rfl,a,ht⟩
       obtain⟨b,hb,hv⟩:=rX (s:=s) (i:=5) a4;refine⟨b,a8,hb,a8,m _ _ ⟨rfl,a4,?_⟩⟩
       rw[<-ht,<-hv];rfl
     .rintro t _ ⟨rfl,a,ht⟩
      obtain⟨b,hb,hv⟩:=rX (s:=s) (i:=4) a4;refine⟨b,a8,hb,a8,k _ _ ⟨rfl,a4,?_⟩⟩
      rw[<-ht,<-hv];rfl
    .rintro t _ ⟨rfl,a,ht⟩
     obtain⟨b,hb,hv⟩:=rX (s:=s) (i:=3) a4;refine⟨b,a8,hb,a8,j _ _ ⟨rfl,a4,?_⟩⟩
     rw[<-ht,<-hv];rfl
   .rintro t _ ⟨rfl,a,ht⟩
    obtain⟨b,hb,hv⟩:=rX (s:=s) (i:=2) a4;refine⟨b,a8,hb,a8,f _ _ ⟨rfl,a4,?_⟩⟩
    rw[<-ht,<-hv];rfl
  .rintro t _ ⟨rfl,a,ht⟩
   obtain⟨b,hb,hv⟩:=rX (s:=s) (i:=1) a4;refine⟨b,a8,hb,a8,d _ _ ⟨rfl,a4,?_⟩⟩
   rw[<-ht,<-hv];rfl
 .rintro t _ ⟨rfl,a,ht⟩
  obtain⟨b,hb,hv⟩:=rX (s:=s) (i:=0) a4;refine⟨b,a8,hb,?_⟩
  unfold A8 at c;rw[<-ht]at c;rw[<-hv];exact c
def tu(m:Int)(s:Q4):Q4:=
 let r:=p6 2 (s.1,s.2.1,s.2.2.1,dB s.2.2.2 m)
 (dB r.1 m,r.2)
theorem TQ{m:Int}{s:Q4}(hb:h[b]? =some (.cells (q4 s) t (0,0))) {K:Unit->dO}
  (g:∀h',h'[b]? =some (.cells (q4 (tu m s)) t (0,0))->Upd (· =b) h h'->K () h'):dQ 235 [gZ b,.int .u64 m] K h:=by
 refine Fg _ _ ?_;dsimp only[xQ,fj,dd,jV,cJ,ze,Fc,cz,DK];have c:∀{h:ad} {s:Q4} {i:Nat},h[b]? =some (.cells (q4 s) t (0,0))->aZ h ⟨b,0+i,none⟩=(q4 s)[i]?:=λhb=>by rw[aU];exact bw hb
 have w:∀{h:ad} {s:Q4} {i:Nat},h[b]? =some (.cells (q4 s) t (0,0))->i<4->Wr h ⟨b,0+i,none⟩:=λhb hi=>by rw[aU];exact fk hb hi
 simp only[show((0:Int)).toNat*1=0 from rfl,show((3:Int)).toNat*1=3 from rfl]
 refine⟨_,rfl,a8,_,c (i:=3) hb,_,rfl,a8,w (i:=3) hb a8,qM (s':=(s.1,s.2.1,s.2.2.1,dB s.2.2.2 m)) hb rfl λq j k=>?_⟩
 refine Lr (n:=2) a4 j λp a d=>?_
 have o:tu m s=(dB (p6 2 (s.1,s.2.1,s.2.2.1,dB s.2.2.2 m)).1 m,(p6 2 (s.1,s.2.1,s.2.2.1,dB s.2.2.2 m)).2):=by unfold tu;rfl
 rw[o]at g;generalize p6 2 (s.1,s.2.1,s.2.2.1,dB s.2.2.2 m)=r at a g;refine⟨_,rfl,a8,_,c (i:=0) a,_,rfl,a8,w (i:=0) a a8,qM (s':=(dB r.1 m,r.2)) a rfl λu f e=>?_⟩
 exact g _ f (k.tr (d.tr e))
def FG:Nat->c6->Q4->c6×Q4
 |0,s,q=>(s,q)
 |n+1,s,q=>if 8<=s.size then FG n (s.extract 8 s.size) (tu (A8 (s.extract 0 8)) q)else(s,q)
def abY(r:Q4):Int:=dB (dB (dB r.1 r.2.1) r.2.2.1) r.2.2.2
def aax(q:Q4):Int:=abY (p6 4 (q.1,q.2.1,dB q.2.2.1 255,q.2.2.2))
def acJ(n:Nat)(g:c6×Q4):Int:=aax (tu (Il (A8 g.1) (aa8 (n:Int) 56)) g.2)
def Ri(k0 k1:Int)(s:c6):Int:=
 acJ s.size (FG s.size s (dB k0 8317987319222330741,dB k1 7237128888997146477,dB k0 7816392313619706465,dB k1 8387220255154660723))
theorem aay{r:Q4}(hb:a[b]? =some (.cells (q4 r) t (0,0))) {K:Int->Prop} (f:K (abY r)):
  (((0:Int)<=(0:Int)/\(0:Int)<((4:Nat):Int))/\
   ∃v30:Int,aZ a (adr ⟨b,0,none⟩ ((0:Int).toNat*1))=some (.int .u64 v30)/\
   (((0:Int)<=(1:Int)/\(1:Int)<((4:Nat):Int))/\
    ∃v31:Int,aZ a (adr ⟨b,0,none⟩ ((1:Int).toNat*1))=some (.int .u64 v31)/\
    Bd (ac .u64 (aB (al .u64) v30^^^aB (al .u64) v31).toNat:Int) (λn32=>
     (((0:Int)<=(2:Int)/\(2:Int)<((4:Nat):Int))/\
      ∃v33:Int,aZ a (adr ⟨b,0,none⟩ ((2:Int).toNat*1))=some (.int .u64 v33)/\
      Bd (ac .u64 (aB (al .u64) n32^^^aB (al .u64) v33).toNat:Int) (λe=>
       (((0:Int)<=(3:Int)/\(3:Int)<((4:Nat):Int))/\
        ∃v35:Int,aZ a (adr ⟨b,0,none⟩ ((3:Int).toNat*1))=some (.int .u64 v35)/\
        Bd (ac .u64 (aB (al .u64) e^^^aB (al .u64) v35).toNat:Int) (λd=>
         K d))))))):=by
 have c:∀{i:Nat},aZ a ⟨b,0+i,none⟩=(q4 r)[i]?:=by intro i;rw[aU];exact bw hb
 exact⟨a8,_,c (i:=0),a8,_,c (i:=1),a8,_,c (i:=2),a8,_,c (i:=3),f⟩
theorem aaw{q:Q4}(hb:a[b]? =some (.cells (q4 q) t (0,0))) {K:Unit->dO}
  (m:∀h',h'[b]? =some (.cells (q4 (p6 4 (q.1,q.2.1,dB q.2.2.1 255,q.2.2.2))) t (0,0))->Upd (· =b) a h'->K () h'):
  (((0:Int)<=(2:Int)/\(2:Int)<((4:Nat):Int))/\
   ∃v25:Int,aZ a (adr ⟨b,0,none⟩ ((2:Int).toNat*1))=some (.int .u64 v25)/\
   Bd (ac .u64 (aB (al .u64) v25^^^aB (al .u64) 255).toNat:Int) (λk=>
    (((0:Int)<=(2:Int)/\(2:Int)<((4:Nat):Int))/\
     (Wr a (adr ⟨b,0,none⟩ ((2:Int).toNat*1))/\
      At (hset a (adr ⟨b,0,none⟩ ((2:Int).toNat*1)) (.int .u64 k)) (λe=>
       dQ 237 [gZ b,.int .i64 4] K e))))):=by
 have c:∀{i:Nat},aZ a ⟨b,0+i,none⟩=(q4 q)[i]?:=by intro i;rw[aU];exact bw hb
 refine⟨a8,_,c (i:=2),a8,by rw[show((2:Int)).toNat*1=2 from rfl,bZ];exact fk hb (by simp[q4]),?_⟩
 refine qM (s':=(q.1,q.2.1,dB q.2.2.1 255,q.2.2.2)) hb rfl λp f d=>?_
 exact Lr (n:=4) a4 f λo j g=>m o j (d.tr g)
theorem bL(a:k h):At h k:=a
theorem aby{k0 k1:Int}(z:∀h',Upd No h h'->K (Ri k0 k1 s) h'):pQ 168 [.agg #[.int .u64 k0,.int .u64 k1],.string s] K h:=by
 refine dg (Mv (k0,k1) s) Wp Tryz.func168 Tryz.call168 ?_;dsimp only[Mv,ao,nv,jV,acN,UX,U4,Zu,Jx,aaT,fj,dd,G5,cz,aaP,ze,Fc,DK,KQ];have p:=e9 No h [.int .u64 k0,.int .u64 k1] 24;have b1:=cf h [.int .u64 k0,.int .u64 k1] 24;have C:=dS h [.int .u64 k0,.int .u64 k1] 24;refine bL ?_;simp only[cG h];generalize hnew h [.int .u64 k0,.int .u64 k1] 24=h1 at p b1 C
 refine⟨k0,by rw[bZ,bw b1];rfl,k1,by rw[bZ,bw b1];rfl,k0,by rw[bZ,bw b1];rfl,k1,by rw[bZ,bw b1];rfl,?_⟩
 have J:=e9 No h1 [.int .u64 0,.int .u64 0,.int .u64 0,.int .u64 0] 333;have b2:=cf h1 [.int .u64 0,.int .u64 0,.int .u64 0,.int .u64 0] 333;simp only[cG h1];simp only[Bd];refine bL ?_;refine⟨.inr ⟨_,rfl,λj G=>by rw[bZ];exact fk b2 (by simp at G⊢;omega)⟩,?_⟩
 refine bL ?_;rw[iE _ _ 0 0 _ b2 a6];have b3:=eE (o:=.cells (q4 (dB k0 8317987319222330741,dB k1 7237128888997146477,dB k0 7816392313619706465,dB k1 8387220255154660723)) 333 (0,0)) b2;have H:Upd No h _:=p.tr (J.trans (M':=(· =h1.size)) (Upd.set (hnew h1 [.int .u64 0,.int .u64 0,.int .u64 0,.int .u64 0] 333) (.cells (q4 (dB k0 8317987319222330741,dB k1 7237128888997146477,dB k0 7816392313619706465,dB k1 8387220255154660723)) 333 (0,0)) rfl) λb hb=>.inr (Nat.le_of_eq hb.symm))
 refine ez (λ(g:Nat×Q4) (a:c6) h'=>a.size<=g.1/\h'[h1.size]? =some (.cells (q4 g.2) 333 (0,0))/\Upd No h h'/\FG g.1 a g.2=FG s.size s (dB k0 8317987319222330741,dB k1 7237128888997146477,dB k0 7816392313619706465,dB k1 8387220255154660723)) (λg=>g.1) (s.size,_)
  ⟨aj _,b3,H,rfl⟩ ?_
 rintro I ⟨n,q⟩ a h' ⟨F,hb,B,k⟩ L;(try simp only at F hb k)
 have f:∀b,b=h1.size->No b\/h.size<=b:=λb hb=>.inr a4
 refine ar (λt=>?_) λx=>?_
 .have t:8<=a.size:=by omega
  cases n with
  |zero=>omega
  |succ n=>
   refine⟨a4,TH (by rw[eK];show min 8 _-0<=8;omega) (TQ hb λE d e=>⟨a4,?_⟩)⟩
   have D:((8:Int)).toNat=8:=rfl;rw[D]at d⊢;refine L (n,tu (A8 (a.extract 0 8)) q) _ _ ⟨by simp only[eK];omega,d,B.trans e f,?_⟩ (by(try simp only);omega);rw[<-k];simp only[FG,if_pos t]
 .have x:a.size<8:=by omega
  have k:(a,q)=FG s.size s (dB k0 8317987319222330741,dB k1 7237128888997146477,dB k0 7816392313619706465,dB k1 8387220255154660723):=by
   rw[<-k];cases n with
   |zero=>rfl
   |succ n=>simp only[FG,if_neg (show ¬8<=a.size by omega)]
  have c:∀{h:ad} {s:Q4} {i:Nat},h[h1.size]? =some (.cells (q4 s) 333 (0,0))->aZ h ⟨h1.size,0+i,none⟩=(q4 s)[i]?:=λhb=>by rw[aU];exact bw hb
  have w:∀{h:ad} {s:Q4} {i:Nat},h[h1.size]? =some (.cells (q4 s) 333 (0,0))->i<4->Wr h ⟨h1.size,0+i,none⟩:=λhb hi=>by rw[aU];exact fk hb hi
  have u:Ri k0 k1 s=aax (tu (Il (A8 a) (aa8 (s.size:Int) 56)) q):=by unfold Ri;rw[<-k];rfl
  rw[u]at z;refine TH a4 ⟨a8,TQ (m:=Il (A8 a) (aa8 (s.size:Int) 56)) hb λE d e=>?_⟩
  refine aaw d λA y v=>aay (K:=λn=>K n A) y ?_
  exact z A ((B.trans e f).trans v f)
structure Hs where
 k0:Int
 k1:Int
 mask:Int
def jg(h:Hs)(s:c6):Int:=Qj (Ri h.k0 h.k1 s) h.mask
theorem Dk{x:Hs}(c:∀h',Upd No h h'->K (jg x s) h'):pQ 113 [.agg #[.int .u64 x.k0,.int .u64 x.k1,.int .u64 x.mask],.string s] K h:=by
 refine dg (vU (x.k0,x.k1,x.mask) s) .nil Tryz.func113 Tryz.call113 ?_;unfold vU ao AP ge acB;have a:=e9 No h [.int .u64 x.k0,.int .u64 x.k1,.int .u64 x.mask] 26;have b1:=cf h [.int .u64 x.k0,.int .u64 x.k1,.int .u64 x.mask] 26;simp only[At,cG h];generalize hnew h [.int .u64 x.k0,.int .u64 x.k1,.int .u64 x.mask] 26=h1 at a b1;refine⟨x.k0,by rw[bZ,bZ,bw b1];rfl,x.k1,by rw[bZ,bZ,bw b1];rfl,x.mask,by rw[bZ,bw b1];rfl,?_⟩
 refine aby λd b=>⟨by rw[bZ,bw (b.get0 b1)];rfl,c _ (a.tr b)⟩
theorem F4(x:Hs)(s:c6):0<=jg x s/\jg x s<18446744073709551616:=Ew _
end
section
open Go.Lift
variable {h:ad}{a b o d e c f k m:Nat}{i cw:Array Value}{j tb:TypeId}{K:fD->dO}{M W:dx}{s:fD}{xs:List aT}{x:aT}
abbrev dT(x:c6×c6):c4:= [.string x.1,.string x.2]
theorem fP(x:c6×c6):(dT x).length=2/\0<2:=⟨rfl,a4⟩
theorem yn:∀xs:List (c6×c6),cH (xs.flatMap dT)=true
 | []=>rfl
 |x::xs=>by rw[aL];exact nL rfl (yn xs)
theorem Np(hv:h[a]? =some (.cells i j (0,0))) (hb:h[b]? =some (.cells cw tb (0,0))) (k:a≠b) (n:cw.size≠0) {K:Bool->dO} (m:K false h):
  gl 288 [.slice (some ⟨a,0,none⟩) d e,.slice (some ⟨b,o,none⟩) c f] K h:=by
 refine⟨λw g=>.inr ⟨.bool false,w,?_,Tame.refl w,false,rfl,g▸m⟩⟩
 subst g;rw[tY];have:=Lib.run_overlaps_apart (P:=PG) w 256 4 33 a5 (cF PG 33) (rU a5) ⟨a,0,none⟩ ⟨b,o,none⟩ d e c f k j tb i.size cw.size
  (by simp[World.shape?,hv]) (by simp[World.shape?,hb]) n (by simp[World.frozen?,hv]) (by simp[World.frozen?,hv])
 rw[show([Value.slice (some ⟨a,0,none⟩) d e,Value.slice (some ⟨b,o,none⟩) c f]:c4).toArray= #[.slice (some ⟨a,0,none⟩) d e,.slice (some ⟨b,o,none⟩) c f]from rfl,this]
 rfl
set_option maxRecDepth 4000 in
theorem SE{xs:List (c6×c6)}(Q:OwnS dT 2 33 M h s xs)(hkl:k<=xs.length)(hn:(xs.length+1)*32<=140737488355328){x:c6×c6}(hv:h[m]? =some (.cells (dT x).toArray 33 (0,0)))
  (U:¬M m) (hM:∀b,h.size<=b->M b)  (hK:∀s' h',OwnS dT 2 33 M h' s' (xs.take k++x::xs.drop k)->Upd M h h'->K s' h'):
  ce 245 [.slice s.a s.len s.cap,.int .i64 k,.slice (some ⟨m,0,none⟩) 1 1] K h:=by
 refine dg (iG s k ⟨some ⟨m,0,none⟩,1,1⟩) nX Tryz.func245 Tryz.call245 ?_;dsimp only[iG,mc,nW,nV,Od,AU,G3,Wi];have p:=Q.len;have hcap:=Q.cap;have N:SRow h (some ⟨m,0,none⟩) (1*2) (dT x):=⟨rfl,.inr ⟨_,rfl,p5 hv λi v hi=>by simpa using hi⟩⟩
 refine⟨a4,ag.2 ?_⟩;refine eh (λe=>?_) λe=>?_
 .have e:k=xs.length:=by have:=of_decide_eq_true (by simpa using e:decide ((k:Int)=(s.len:Int))=true);omega
  subst e;refine⟨_,N,AppP.own (ys:= [x]) Q rfl a6 rfl rfl a4 a9 (hM _ (aj _)) λs' h' ho hu=>hK s' h' ?_ hu⟩
  rw[bG,rm];exact ho
 have hlt:k<xs.length:=by
  rcases ci k xs.length with h|h
  .exact h
  .have:((k:Int)==(s.len:Int))=true:=by rw[beq_iff_eq];omega
   rw[this]at e;cases e
 rcases Q.blk with h0|⟨b,g,ha,hb,hc,hr⟩
 .omega
 have j:((xs.take k).flatMap dT).length=k*2:=by rw[kg fP,aV,bU hkl]
 have n:((xs.drop k).flatMap dT).length=(xs.length-k)*2:=by rw[kg fP,ba]
 have G:m≠b:=λe=>U (e▸hb)
 rw[zR (f:=dT) xs k]at hc;have a:(xs.take k++x::xs.drop k).flatMap dT=(xs.take k).flatMap dT++(dT x++(xs.drop k).flatMap dT):=by rw[bI,aL]
 have d:=yn (xs.drop k);have c:(dT x).length=2:=rfl;have z:cH (dT x)=true:=rfl;generalize hAe:(xs.take k).flatMap dT=A at j hc a;generalize hBe:(xs.drop k).flatMap dT=B at n hc a d;generalize dT x=X at N c hv a z;rw[ha];have w1:ac .i64 ((xs.length:Int)+((1:Nat):Int))=((xs.length+1:Nat):Int):=by rw[dI a4];omega
 have w2:ac .i64 ((k:Int)+((1:Nat):Int))=((k+1:Nat):Int):=by rw[dI a4];omega
 have w3:ac .i64 (((xs.length+1:Nat):Int)-(k:Int))=((xs.length+1-k:Nat):Int):=by rw[dI a4];omega
 simp only[w1,w2,w3,aY,p];refine ar (λhgt=>?_) λhle=>?_
 .
  have H:s.cap=xs.length:=a4
  refine eQ ⟨a4,⟨a4,a4,a4,a4⟩,λhin=>?_,λO=>?_⟩
  .omega
  .refine⟨A,_,?_,rfl,a4,Go.growslice_fits O a4,λC y=>?_⟩
   .rw[sub_zero]
    exact md hc (by rw[j];omega) (by simp only[cP,eI];rw[au,<-j,fG (aj _),bG])
   .simp only[aY]at y⊢
    have S:=e9 No h (A++dG (xs.length+1-k) [.string (⟨#[]⟩:c6),.string (⟨#[]⟩:c6)]++dG (C-(k-0+(xs.length+1-k))) [.string (⟨#[]⟩:c6),.string (⟨#[]⟩:c6)]) 33;have bn:=cf h (A++dG (xs.length+1-k) [.string (⟨#[]⟩:c6),.string (⟨#[]⟩:c6)]++dG (C-(k-0+(xs.length+1-k))) [.string (⟨#[]⟩:c6),.string (⟨#[]⟩:c6)]) 33;have u:(dG (xs.length+1-k) [.string (⟨#[]⟩:c6),.string (⟨#[]⟩:c6)]).length=(xs.length+1-k)*2:=lO _ _
    have Y:(dG (C-(k-0+(xs.length+1-k))) [.string (⟨#[]⟩:c6),.string (⟨#[]⟩:c6)]).length=(C-(k-0+(xs.length+1-k)))*2:=lO _ _;have t:k-0+(xs.length+1-k)=xs.length+1:=a4
    rw[cG];have hsz:h.size≠m:=λe=>by have:=bB hv;omega
    have P:h.size≠b:=λe=>by have:=bB hc;omega
    have D:=S.get0 hc;have I:=S.get0 hv;generalize hnew h _ 33=h9 at S bn D I;rw[t]at y Y⊢;have m1:dU 1 (xs.length+1-k)=1:=bU a4;have W:dU (xs.length-k) (xs.length+1-(k+1))=xs.length-k:=bU a4;rw[m1];have xr9:SRow h9 (some ⟨m,0,none⟩) (1*2) X:=md I (by rw[c]) (by rw[cP,bd];rw[c];omega);refine⟨a4,?_⟩
    rw[jW a4];refine lS xr9 z bn (by simp only[ae,j,u];omega) λh11 E o=>⟨a4,?_⟩
    simp only[Bd];rw[jW a4,jW a4,W];refine⟨a4,?_⟩;have w:=o.get D (λe=>P e.symm)
    have br:SRow h11 (some ⟨b,0+k*2,none⟩) ((xs.length-k)*2) B:=md w n (by
     rw[aU,au,<-j,gD,<-n,iy])
    refine lS br d E ?_ λh16 L F=>?_
    .simp only[ae,aV,ba,j,u,c];omega
    .refine hK _ _ ⟨a9,fP,y,.inr ⟨h.size,dG (C-(xs.length+1)) [.string (⟨#[]⟩:c6),.string (⟨#[]⟩:c6)],rfl,hM _ (aj _),?_,by rw[lO];rfl⟩⟩ ((S.wide.trans (M':=(· =h.size)) o λb hb=>.inl (hb▸hM _ (aj _))).trans (M':=(· =h.size)) F λb hb=>.inl (hb▸hM _ (aj _)))
     rw[L,a];have:=Ny (A:=A) (X:=X) (B:=B) (Z1:=dG (xs.length+1-k) [.string (⟨#[]⟩:c6),.string (⟨#[]⟩:c6)]) (Z2:=dG (C-(xs.length+1)) [.string (⟨#[]⟩:c6),.string (⟨#[]⟩:c6)]) (r:=(xs.length-k)*2) j c (by rw[u,<-gL];congr 1;omega);rw[t,<-this];simp only[aU,gL]
 .have H:xs.length+1<=s.cap:=by omega
  refine⟨a4,?_⟩;simp only[Bd,eI];rw[sub_zero,jW (show s.cap≠k+1 by omega),jW (show s.cap≠k by omega)]
  refine⟨a4,?_⟩;have Z:2<=g.length:=by rw[hr];exact qq _ a4
  refine Np hv hc G (by rw[cW,ae];omega) ?_;refine ay.2 ⟨a4,a4,?_⟩
  have m1:dU 1 (xs.length+1-k)=1:=bU a4;have W:dU (xs.length+1-k) (xs.length+1-(k+1))=xs.length-k:=by
   rw[show xs.length+1-(k+1)=xs.length-k by omega];exact ri a4
  rw[W];have br:SRow h (some ⟨b,0+k*2,none⟩) ((xs.length-k)*2) B:=md hc n (by
   rw[aU,au,<-j,gD,<-n,iy])
  refine lS br d hc (by simp only[ae,j,n];omega) λh1 hb1 J=>⟨a4,?_⟩
  rw[m1];have T:SRow h1 (some ⟨m,0,none⟩) (1*2) X:=md (J.get hv G) (by rw[c]) (by rw[cP,bd];rw[c];omega);refine lS T z hb1 (by simp only[ae,aV,ba,j,n];omega) λh2 hb2 V=>?_
  refine hK _ _ ⟨a9,fP,H,.inr ⟨b,g.drop 2,rfl,hb,?_,?_⟩⟩ ((J.mono λ_ e=>.inl (e▸hb)).tr (V.mono λ_ e=>.inl (e▸hb)))
  .rw[hb2,a]
   have:=SG (A:=A) (X:=X) (B:=B) (R:=g) (q:=2) (r:=(xs.length-k)*2) j n Z;rw[<-this];simp only[aU,gL]
  .rw[ba,hr]
   (try simp only)
   rw[p];omega
abbrev qO(x:aT):c4:= [.pointer x]
theorem sH(x:aT):(qO x).length=1/\0<1:=⟨rfl,a4⟩
theorem Hk:∀xs:List aT,cH (xs.flatMap qO)=true
 | []=>rfl
 |x::xs=>by rw[aL];exact nL rfl (Hk xs)
theorem Nq(hv:h[a]? =some (.cells i j (0,0))) (hb:h[b]? =some (.cells cw tb (0,0))) (k:a≠b) (n:cw.size≠0) {K:Bool->dO} (m:K false h):
  gl 290 [.slice (some ⟨a,0,none⟩) d e,.slice (some ⟨b,o,none⟩) c f] K h:=by
 refine⟨λw g=>.inr ⟨.bool false,w,?_,Tame.refl w,false,rfl,g▸m⟩⟩
 subst g;rw[rZ];have:=Lib.run_overlaps_apart (P:=PG) w 258 4 50 a5 (cF PG 50) (rU a5) ⟨a,0,none⟩ ⟨b,o,none⟩ d e c f k j tb i.size cw.size
  (by simp[World.shape?,hv]) (by simp[World.shape?,hb]) n (by simp[World.frozen?,hv]) (by simp[World.frozen?,hv])
 rw[show([Value.slice (some ⟨a,0,none⟩) d e,Value.slice (some ⟨b,o,none⟩) c f]:c4).toArray= #[.slice (some ⟨a,0,none⟩) d e,.slice (some ⟨b,o,none⟩) c f]from rfl,this]
 rfl
set_option maxRecDepth 4000 in
theorem SF(Q:OwnS qO 1 50 M h s xs)(hkl:k<=xs.length)(hn:(xs.length+1)*8<=140737488355328)(hv:h[m]? =some (.cells (qO x).toArray 50 (0,0)))
  (U:¬M m) (hM:∀b,h.size<=b->M b)  (hK:∀s' h',OwnS qO 1 50 M h' s' (xs.take k++x::xs.drop k)->Upd M h h'->K s' h'):
  ce 248 [.slice s.a s.len s.cap,.int .i64 k,.slice (some ⟨m,0,none⟩) 1 1] K h:=by
 refine dg (gJ s k ⟨some ⟨m,0,none⟩,1,1⟩) lZ Tryz.func248 Tryz.call248 ?_;dsimp only[gJ,nW,nV,Od,AU,G3,Wi,aaU];have p:=Q.len;have hcap:=Q.cap;have N:SRow h (some ⟨m,0,none⟩) (1*1) (qO x):=⟨rfl,.inr ⟨_,rfl,p5 hv λi v hi=>by simpa using hi⟩⟩
 refine⟨a4,ag.2 ?_⟩;refine eh (λe=>?_) λe=>?_
 .have e:k=xs.length:=by have:=of_decide_eq_true (by simpa using e:decide ((k:Int)=(s.len:Int))=true);omega
  subst e;refine⟨_,N,AppP.own (ys:= [x]) Q rfl a6 rfl rfl a4 a9 (hM _ (aj _)) λs' h' ho hu=>hK s' h' ?_ hu⟩
  rw[bG,rm];exact ho
 have hlt:k<xs.length:=by
  rcases ci k xs.length with h|h
  .exact h
  .have:((k:Int)==(s.len:Int))=true:=by rw[beq_iff_eq];omega
   rw[this]at e;cases e
 rcases Q.blk with h0|⟨b,g,ha,hb,hc,hr⟩
 .omega
 have j:((xs.take k).flatMap qO).length=k*1:=by rw[kg sH,aV,bU hkl]
 have n:((xs.drop k).flatMap qO).length=(xs.length-k)*1:=by rw[kg sH,ba]
 have G:m≠b:=λe=>U (e▸hb)
 rw[zR (f:=qO) xs k]at hc;have a:(xs.take k++x::xs.drop k).flatMap qO=(xs.take k).flatMap qO++(qO x++(xs.drop k).flatMap qO):=by rw[bI,aL]
 have d:=Hk (xs.drop k);have c:(qO x).length=1:=rfl;have z:cH (qO x)=true:=rfl;generalize hAe:(xs.take k).flatMap qO=A at j hc a;generalize hBe:(xs.drop k).flatMap qO=B at n hc a d;generalize qO x=X at N c hv a z;rw[ha];have w1:ac .i64 ((xs.length:Int)+((1:Nat):Int))=((xs.length+1:Nat):Int):=by rw[dI a4];omega
 have w2:ac .i64 ((k:Int)+((1:Nat):Int))=((k+1:Nat):Int):=by rw[dI a4];omega
 have w3:ac .i64 (((xs.length+1:Nat):Int)-(k:Int))=((xs.length+1-k:Nat):Int):=by rw[dI a4];omega
 simp only[w1,w2,w3,aY,p];refine ar (λhgt=>?_) λhle=>?_
 .
  have H:s.cap=xs.length:=a4
  refine eQ ⟨a4,⟨a4,a4,a4,a4⟩,λhin=>?_,λO=>?_⟩
  .omega
  .refine⟨A,_,?_,rfl,a4,Go.growslice_fits O a4,λC y=>?_⟩
   .rw[sub_zero]
    exact md hc (by rw[j];omega) (by simp only[cP,eI];rw[au,<-j,fG (aj _),bG])
   .simp only[aY]at y⊢
    have S:=e9 No h (A++dG (xs.length+1-k) [.pointer none]++dG (C-(k-0+(xs.length+1-k))) [.pointer none]) 50;have bn:=cf h (A++dG (xs.length+1-k) [.pointer none]++dG (C-(k-0+(xs.length+1-k))) [.pointer none]) 50;have u:(dG (xs.length+1-k) [.pointer none]).length=(xs.length+1-k)*1:=lO _ _;have Y:(dG (C-(k-0+(xs.length+1-k))) [.pointer none]).length=(C-(k-0+(xs.length+1-k)))*1:=lO _ _
    have t:k-0+(xs.length+1-k)=xs.length+1:=a4
    rw[cG];have hsz:h.size≠m:=λe=>by have:=bB hv;omega
    have P:h.size≠b:=λe=>by have:=bB hc;omega
    have D:=S.get0 hc;have I:=S.get0 hv;generalize hnew h _ 50=h9 at S bn D I;rw[t]at y Y⊢;have m1:dU 1 (xs.length+1-k)=1:=bU a4;have W:dU (xs.length-k) (xs.length+1-(k+1))=xs.length-k:=bU a4;rw[m1];have xr9:SRow h9 (some ⟨m,0,none⟩) (1*1) X:=md I (by rw[c]) (by rw[cP,bd];rw[c];omega);refine⟨a4,?_⟩
    rw[jW a4];refine lS xr9 z bn (by simp only[ae,j,u];omega) λh11 E o=>⟨a4,?_⟩
    simp only[Bd];rw[jW a4,jW a4,W];refine⟨a4,?_⟩;have w:=o.get D (λe=>P e.symm)
    have br:SRow h11 (some ⟨b,0+k*1,none⟩) ((xs.length-k)*1) B:=md w n (by
     rw[aU,au,<-j,gD,<-n,iy])
    refine lS br d E ?_ λh16 L F=>?_
    .simp only[ae,aV,ba,j,u,c];omega
    .refine hK _ _ ⟨a9,sH,y,.inr ⟨h.size,dG (C-(xs.length+1)) [.pointer none],rfl,hM _ (aj _),?_,by rw[lO];rfl⟩⟩ ((S.wide.trans (M':=(· =h.size)) o λb hb=>.inl (hb▸hM _ (aj _))).trans (M':=(· =h.size)) F λb hb=>.inl (hb▸hM _ (aj _)))
     rw[L,a];have:=Ny (A:=A) (X:=X) (B:=B) (Z1:=dG (xs.length+1-k) [.pointer none]) (Z2:=dG (C-(xs.length+1)) [.pointer none]) (r:=(xs.length-k)*1) j c (by rw[u,<-gL];congr 1;omega);rw[t,<-this];simp only[aU,gL]
 .have H:xs.length+1<=s.cap:=by omega
  refine⟨a4,?_⟩;simp only[Bd,eI];rw[sub_zero,jW (show s.cap≠k+1 by omega),jW (show s.cap≠k by omega)]
  refine⟨a4,?_⟩;have Z:1<=g.length:=by rw[hr];exact qq _ a4
  refine Nq hv hc G (by rw[cW,ae];omega) ?_;refine ay.2 ⟨a4,a4,?_⟩
  have m1:dU 1 (xs.length+1-k)=1:=bU a4;have W:dU (xs.length+1-k) (xs.length+1-(k+1))=xs.length-k:=by
   rw[show xs.length+1-(k+1)=xs.length-k by omega];exact ri a4
  rw[W];have br:SRow h (some ⟨b,0+k*1,none⟩) ((xs.length-k)*1) B:=md hc n (by
   rw[aU,au,<-j,gD,<-n,iy])
  refine lS br d hc (by simp only[ae,j,n];omega) λh1 hb1 J=>⟨a4,?_⟩
  rw[m1];have T:SRow h1 (some ⟨m,0,none⟩) (1*1) X:=md (J.get hv G) (by rw[c]) (by rw[cP,bd];rw[c];omega);refine lS T z hb1 (by simp only[ae,aV,ba,j,n];omega) λh2 hb2 V=>?_
  refine hK _ _ ⟨a9,sH,H,.inr ⟨b,g.drop 1,rfl,hb,?_,?_⟩⟩ ((J.mono λ_ e=>.inl (e▸hb)).tr (V.mono λ_ e=>.inl (e▸hb)))
  .rw[hb2,a]
   have:=SG (A:=A) (X:=X) (B:=B) (R:=g) (q:=1) (r:=(xs.length-k)*1) j n Z;rw[<-this];simp only[aU,gL]
  .rw[ba,hr]
   (try simp only)
   rw[p];omega
abbrev qA(x:aT):c4:= [.pointer x]
theorem pq(x:aT):(qA x).length=1/\0<1:=⟨rfl,a4⟩
theorem Hj:∀xs:List aT,cH (xs.flatMap qA)=true
 | []=>rfl
 |x::xs=>by rw[aL];exact nL rfl (Hj xs)
theorem Nn(hv:h[a]? =some (.cells i j (0,0))) (hb:h[b]? =some (.cells cw tb (0,0))) (k:a≠b) (n:cw.size≠0) {K:Bool->dO} (m:K false h):
  gl 232 [.slice (some ⟨a,0,none⟩) d e,.slice (some ⟨b,o,none⟩) c f] K h:=by
 refine⟨λw g=>.inr ⟨.bool false,w,?_,Tame.refl w,false,rfl,g▸m⟩⟩
 subst g;rw[qU];have:=Lib.run_overlaps_apart (P:=PG) w 254 4 51 a5 (cF PG 51) (rU a5) ⟨a,0,none⟩ ⟨b,o,none⟩ d e c f k j tb i.size cw.size
  (by simp[World.shape?,hv]) (by simp[World.shape?,hb]) n (by simp[World.frozen?,hv]) (by simp[World.frozen?,hv])
 rw[show([Value.slice (some ⟨a,0,none⟩) d e,Value.slice (some ⟨b,o,none⟩) c f]:c4).toArray= #[.slice (some ⟨a,0,none⟩) d e,.slice (some ⟨b,o,none⟩) c f]from rfl,this]
 rfl
set_option maxRecDepth 4000 in
theorem SD(Q:OwnS qA 1 51 M h s xs)(hkl:k<=xs.length)(hn:(xs.length+1)*8<=140737488355328)(hv:h[m]? =some (.cells (qA x).toArray 51 (0,0)))
  (U:¬M m) (hM:∀b,h.size<=b->M b)  (hK:∀s' h',OwnS qA 1 51 M h' s' (xs.take k++x::xs.drop k)->Upd M h h'->K s' h'):
  ce 164 [.slice s.a s.len s.cap,.int .i64 k,.slice (some ⟨m,0,none⟩) 1 1] K h:=by
 refine dg (gq s k ⟨some ⟨m,0,none⟩,1,1⟩) kY Tryz.func164 Tryz.call164 ?_;dsimp only[gq,nW,nV,Od,AU,G3,Wi,aaU];have p:=Q.len;have hcap:=Q.cap;have N:SRow h (some ⟨m,0,none⟩) (1*1) (qA x):=⟨rfl,.inr ⟨_,rfl,p5 hv λi v hi=>by simpa using hi⟩⟩
 refine⟨a4,ag.2 ?_⟩;refine eh (λe=>?_) λe=>?_
 .have e:k=xs.length:=by have:=of_decide_eq_true (by simpa using e:decide ((k:Int)=(s.len:Int))=true);omega
  subst e;refine⟨_,N,AppP.own (ys:= [x]) Q rfl a6 rfl rfl a4 a9 (hM _ (aj _)) λs' h' ho hu=>hK s' h' ?_ hu⟩
  rw[bG,rm];exact ho
 have hlt:k<xs.length:=by
  rcases ci k xs.length with h|h
  .exact h
  .have:((k:Int)==(s.len:Int))=true:=by rw[beq_iff_eq];omega
   rw[this]at e;cases e
 rcases Q.blk with h0|⟨b,g,ha,hb,hc,hr⟩
 .omega
 have j:((xs.take k).flatMap qA).length=k*1:=by rw[kg pq,aV,bU hkl]
 have n:((xs.drop k).flatMap qA).length=(xs.length-k)*1:=by rw[kg pq,ba]
 have G:m≠b:=λe=>U (e▸hb)
 rw[zR (f:=qA) xs k]at hc;have a:(xs.take k++x::xs.drop k).flatMap qA=(xs.take k).flatMap qA++(qA x++(xs.drop k).flatMap qA):=by rw[bI,aL]
 have d:=Hj (xs.drop k);have c:(qA x).length=1:=rfl;have z:cH (qA x)=true:=rfl;generalize hAe:(xs.take k).flatMap qA=A at j hc a;generalize hBe:(xs.drop k).flatMap qA=B at n hc a d;generalize qA x=X at N c hv a z;rw[ha];have w1:ac .i64 ((xs.length:Int)+((1:Nat):Int))=((xs.length+1:Nat):Int):=by rw[dI a4];omega
 have w2:ac .i64 ((k:Int)+((1:Nat):Int))=((k+1:Nat):Int):=by rw[dI a4];omega
 have w3:ac .i64 (((xs.length+1:Nat):Int)-(k:Int))=((xs.length+1-k:Nat):Int):=by rw[dI a4];omega
 simp only[w1,w2,w3,aY,p];refine ar (λhgt=>?_) λhle=>?_
 .
  have H:s.cap=xs.length:=a4
  refine eQ ⟨a4,⟨a4,a4,a4,a4⟩,λhin=>?_,λO=>?_⟩
  .omega
  .refine⟨A,_,?_,rfl,a4,Go.growslice_fits O a4,λC y=>?_⟩
   .rw[sub_zero]
    exact md hc (by rw[j];omega) (by simp only[cP,eI];rw[au,<-j,fG (aj _),bG])
   .simp only[aY]at y⊢
    have S:=e9 No h (A++dG (xs.length+1-k) [.pointer none]++dG (C-(k-0+(xs.length+1-k))) [.pointer none]) 51;have bn:=cf h (A++dG (xs.length+1-k) [.pointer none]++dG (C-(k-0+(xs.length+1-k))) [.pointer none]) 51;have u:(dG (xs.length+1-k) [.pointer none]).length=(xs.length+1-k)*1:=lO _ _;have Y:(dG (C-(k-0+(xs.length+1-k))) [.pointer none]).length=(C-(k-0+(xs.length+1-k)))*1:=lO _ _
    have t:k-0+(xs.length+1-k)=xs.length+1:=a4
    rw[cG];have hsz:h.size≠m:=λe=>by have:=bB hv;omega
    have P:h.size≠b:=λe=>by have:=bB hc;omega
    have D:=S.get0 hc;have I:=S.get0 hv;generalize hnew h _ 51=h9 at S bn D I;rw[t]at y Y⊢;have m1:dU 1 (xs.length+1-k)=1:=bU a4;have W:dU (xs.length-k) (xs.length+1-(k+1))=xs.length-k:=bU a4;rw[m1];have xr9:SRow h9 (some ⟨m,0,none⟩) (1*1) X:=md I (by rw[c]) (by rw[cP,bd];rw[c];omega);refine⟨a4,?_⟩
    rw[jW a4];refine lS xr9 z bn (by simp only[ae,j,u];omega) λh11 E o=>⟨a4,?_⟩
    simp only[Bd];rw[jW a4,jW a4,W];refine⟨a4,?_⟩;have w:=o.get D (λe=>P e.symm)
    have br:SRow h11 (some ⟨b,0+k*1,none⟩) ((xs.length-k)*1) B:=md w n (by
     rw[aU,au,<-j,gD,<-n,iy])
    refine lS br d E ?_ λh16 L F=>?_
    .simp only[ae,aV,ba,j,u,c];omega
    .refine hK _ _ ⟨a9,pq,y,.inr ⟨h.size,dG (C-(xs.length+1)) [.pointer none],rfl,hM _ (aj _),?_,by rw[lO];rfl⟩⟩ ((S.wide.trans (M':=(· =h.size)) o λb hb=>.inl (hb▸hM _ (aj _))).trans (M':=(· =h.size)) F λb hb=>.inl (hb▸hM _ (aj _)))
     rw[L,a];have:=Ny (A:=A) (X:=X) (B:=B) (Z1:=dG (xs.length+1-k) [.pointer none]) (Z2:=dG (C-(xs.length+1)) [.pointer none]) (r:=(xs.length-k)*1) j c (by rw[u,<-gL];congr 1;omega);rw[t,<-this];simp only[aU,gL]
 .have H:xs.length+1<=s.cap:=by omega
  refine⟨a4,?_⟩;simp only[Bd,eI];rw[sub_zero,jW (show s.cap≠k+1 by omega),jW (show s.cap≠k by omega)]
  refine⟨a4,?_⟩;have Z:1<=g.length:=by rw[hr];exact qq _ a4
  refine Nn hv hc G (by rw[cW,ae];omega) ?_;refine ay.2 ⟨a4,a4,?_⟩
  have m1:dU 1 (xs.length+1-k)=1:=bU a4;have W:dU (xs.length+1-k) (xs.length+1-(k+1))=xs.length-k:=by
   rw[show xs.length+1-(k+1)=xs.length-k by omega];exact ri a4
  rw[W];have br:SRow h (some ⟨b,0+k*1,none⟩) ((xs.length-k)*1) B:=md hc n (by
   rw[aU,au,<-j,gD,<-n,iy])
  refine lS br d hc (by simp only[ae,j,n];omega) λh1 hb1 J=>⟨a4,?_⟩
  rw[m1];have T:SRow h1 (some ⟨m,0,none⟩) (1*1) X:=md (J.get hv G) (by rw[c]) (by rw[cP,bd];rw[c];omega);refine lS T z hb1 (by simp only[ae,aV,ba,j,n];omega) λh2 hb2 V=>?_
  refine hK _ _ ⟨a9,pq,H,.inr ⟨b,g.drop 1,rfl,hb,?_,?_⟩⟩ ((J.mono λ_ e=>.inl (e▸hb)).tr (V.mono λ_ e=>.inl (e▸hb)))
  .rw[hb2,a]
   have:=SG (A:=A) (X:=X) (B:=B) (R:=g) (q:=1) (r:=(xs.length-k)*1) j n Z;rw[<-this];simp only[aU,gL]
  .rw[ba,hr]
   (try simp only)
   rw[p];omega
theorem xz{xs:List (c6×c6)}(c:Sl dT 2 W h s xs)(m:xs.length*32<=140737488355328)
  (e:∀s' h',OwnS dT 2 33 (λb=>h.size<=b) h' s' xs->Upd No h h'->K s' h'):ce 225 [.slice s.a s.len s.cap] K h:=by
 refine dg (iY s) .nil Tryz.func225 Tryz.call225 ?_;unfold iY mc;refine eh (λd=>?_) (λn=>?_)
 .have d:s.a=none:=by simpa using d
  have hx:xs= []:=by
   by_cases hx:xs= []
   .exact hx
   .obtain⟨a,g,_⟩:=c.row hx
    rw[d]at g;cases g
  subst hx;exact e _ _ (OwnS.nil fP) (eM _ _)
 .have k:=c.upd (e9 No h [] 33) (λ_ h=>h.elim)
  refine⟨_,k.srow,?_⟩;refine AppP.own (f:=dT) (M:=λb=>h.size<=b) (xs:= []) (ys:=xs) ⟨rfl,fP,aj _,.inl rfl⟩ c.len rfl (yn xs) rfl a4 (by simpa using m) (by rw[dS];omega) λs' h' i j=>?_
  exact e _ _ i ((e9 No h [] 33).trans j λb hb=>.inr hb)
theorem SZ{xs:List (c6×c6)}(x:OwnS dT 2 33 M h s xs)(w:k<xs.length)(L:xs.length<=4398046511104)
  (H:∀s' h',OwnS dT 2 33 M h' s' (xs.take k++xs.drop (k+1))->Upd M h h'->K s' h'):
  ce 285 [.slice s.a s.len s.cap,.int .i64 k,.int .i64 ((k+1:Nat):Int)] K h:=by
 refine dg (iH s k ((k+1:Nat):Int)) nY Tryz.func285 Tryz.call285 ?_;dsimp only[iH,mc,nW,nV,Wn,Wm,Wf];have f:=x.len;have z:=x.cap;rcases x.blk with O|⟨b,a,I,hb,hc,G⟩
 .omega
 have p:((xs.take k).flatMap dT).length=k*2:=by rw[kg fP,aV,bU a4]
 have m:((xs.drop (k+1)).flatMap dT).length=(xs.length-(k+1))*2:=by rw[kg fP,ba]
 have F:xs.flatMap dT=(xs.take k).flatMap dT++(dT xs[k]++(xs.drop (k+1)).flatMap dT):=by
  rw[<-aL,<-dL w];exact zR xs k
 rw[F]at hc;have d:=yn (xs.drop (k+1));have c:(xs.take k++xs.drop (k+1)).flatMap dT=(xs.take k).flatMap dT++(xs.drop (k+1)).flatMap dT:=bI;have E:(dT xs[k]).length=2:=rfl;generalize (xs.take k).flatMap dT=A at p hc c;generalize (xs.drop (k+1)).flatMap dT=B at m hc d c;generalize dT xs[k]=X at E hc;rw[I];simp only[f,aY];refine⟨a4,a4,a4,eh (λe=>?_) λ_=>?_⟩
 .have:(k:Int)=((k+1:Nat):Int):=by simpa using e
  omega
 refine eQ ⟨a4,a4,B,?_,?_⟩
 .by_cases g:xs.length=k+1
  .exact⟨m,.inl (aK.1 (by rw[m,g,im,ud]))⟩
  rw[jW a4];refine md hc m ?_;have:(A++X).length=0+(k+1)*2:=by rw[ae];omega
  rw[show A++(X++B)++a=(A++X)++(B++a) by simp only[au],cK this,cZ m]
 .rw[sub_zero]
  refine Tc hc (by simp only[ae];omega) a4 d λN i v=>?_
  have q:a.length=(s.cap-xs.length)*2:=by rw[G,f]
  refine⟨by dsimp only;omega,by dsimp only;omega,?_⟩
  simp only[Bd];rw[jW a4];have en:xs.length-(k-0+(xs.length-(k+1)))=1:=a4
  have u:(A++(X++B)++a).drop ((k-0)*2+B.length)=(X++B).drop B.length++a:=by
   rw[au,<-cV,cK (show A.length=(k-0)*2 by rw[p,eI]),fJ (by rw[ae];omega)]
  have y:(A++(X++B)++a).take ((k-0)*2)=A:=by rw[au,cZ (show A.length=(k-0)*2 by rw[p,eI])]
  rw[u,y]at i;have o:((X++B).drop B.length).length=2:=by rw[ba,ae];omega
  generalize (X++B).drop B.length=D at o i;rw[en];have C:(dG 1 [.string (⟨#[]⟩:c6),.string (⟨#[]⟩:c6)]).length=2:=rfl;have j:(A++B).length=0+(k-0+(xs.length-(k+1)))*2:=by rw[ae,p,m];omega
  refine Hi i (by simp only[ae]at j⊢;omega) λJ n t=>?_
  rw[cZ j,<-cV,cK j]at n;refine H _ _ ⟨a9,fP,by(try simp only);omega,.inr ⟨b,dG 1 [.string (⟨#[]⟩:c6),.string (⟨#[]⟩:c6)]++(D++a).drop (dG 1 [.string (⟨#[]⟩:c6),.string (⟨#[]⟩:c6)]).length,rfl,hb,?_,?_⟩⟩ ((v.mono λ_ e=>.inl (e▸hb)).tr (t.mono λ_ e=>.inl (e▸hb)))
  .rw[n,c];simp only[au]
  .simp only[ae,ba,C,o,q]
   omega
theorem E4(c:Sl qO 1 W h s xs)(m:xs.length*8<=140737488355328)
  (e:∀s' h',OwnS qO 1 50 (λb=>h.size<=b) h' s' xs->Upd No h h'->K s' h'):ce 226 [.slice s.a s.len s.cap] K h:=by
 refine dg (gV s) .nil Tryz.func226 Tryz.call226 ?_;unfold gV;refine eh (λd=>?_) (λn=>?_)
 .have d:s.a=none:=by simpa using d
  have hx:xs= []:=by
   by_cases hx:xs= []
   .exact hx
   .obtain⟨a,g,_⟩:=c.row hx
    rw[d]at g;cases g
  subst hx;exact e _ _ (OwnS.nil sH) (eM _ _)
 .have k:=c.upd (e9 No h [] 50) (λ_ h=>h.elim)
  refine⟨_,k.srow,?_⟩;refine AppP.own (f:=qO) (M:=λb=>h.size<=b) (xs:= []) (ys:=xs) ⟨rfl,sH,aj _,.inl rfl⟩ c.len rfl (Hk xs) rfl a4 (by simpa using m) (by rw[dS];omega) λs' h' i j=>?_
  exact e _ _ i ((e9 No h [] 50).trans j λb hb=>.inr hb)
theorem S0(x:OwnS qO 1 50 M h s xs)(w:k<xs.length)(L:xs.length<=4398046511104)
  (H:∀s' h',OwnS qO 1 50 M h' s' (xs.take k++xs.drop (k+1))->Upd M h h'->K s' h'):
  ce 286 [.slice s.a s.len s.cap,.int .i64 k,.int .i64 ((k+1:Nat):Int)] K h:=by
 refine dg (gK s k ((k+1:Nat):Int)) l3 Tryz.func286 Tryz.call286 ?_;dsimp only[gK,nW,nV,Wn,Wm,Wf];have f:=x.len;have z:=x.cap;rcases x.blk with O|⟨b,a,I,hb,hc,G⟩
 .omega
 have p:((xs.take k).flatMap qO).length=k*1:=by rw[kg sH,aV,bU a4]
 have m:((xs.drop (k+1)).flatMap qO).length=(xs.length-(k+1))*1:=by rw[kg sH,ba]
 have F:xs.flatMap qO=(xs.take k).flatMap qO++(qO xs[k]++(xs.drop (k+1)).flatMap qO):=by
  rw[<-aL,<-dL w];exact zR xs k
 rw[F]at hc;have d:=Hk (xs.drop (k+1));have c:(xs.take k++xs.drop (k+1)).flatMap qO=(xs.take k).flatMap qO++(xs.drop (k+1)).flatMap qO:=bI;have E:(qO xs[k]).length=1:=rfl;generalize (xs.take k).flatMap qO=A at p hc c;generalize (xs.drop (k+1)).flatMap qO=B at m hc d c;generalize qO xs[k]=X at E hc;rw[I];simp only[f,aY];refine⟨a4,a4,a4,eh (λe=>?_) λ_=>?_⟩
 .have:(k:Int)=((k+1:Nat):Int):=by simpa using e
  omega
 refine eQ ⟨a4,a4,B,?_,?_⟩
 .by_cases g:xs.length=k+1
  .exact⟨m,.inl (aK.1 (by rw[m,g,im,ud]))⟩
  rw[jW a4];refine md hc m ?_;have:(A++X).length=0+(k+1)*1:=by rw[ae];omega
  rw[show A++(X++B)++a=(A++X)++(B++a) by simp only[au],cK this,cZ m]
 .rw[sub_zero]
  refine Tc hc (by simp only[ae];omega) a4 d λN i v=>?_
  have q:a.length=(s.cap-xs.length)*1:=by rw[G,f]
  refine⟨by dsimp only;omega,by dsimp only;omega,?_⟩
  simp only[Bd];rw[jW a4];have en:xs.length-(k-0+(xs.length-(k+1)))=1:=a4
  have u:(A++(X++B)++a).drop ((k-0)*1+B.length)=(X++B).drop B.length++a:=by
   rw[au,<-cV,cK (show A.length=(k-0)*1 by rw[p,eI]),fJ (by rw[ae];omega)]
  have y:(A++(X++B)++a).take ((k-0)*1)=A:=by rw[au,cZ (show A.length=(k-0)*1 by rw[p,eI])]
  rw[u,y]at i;have o:((X++B).drop B.length).length=1:=by rw[ba,ae];omega
  generalize (X++B).drop B.length=D at o i;rw[en];have C:(dG 1 [.pointer none]).length=1:=rfl;have j:(A++B).length=0+(k-0+(xs.length-(k+1)))*1:=by rw[ae,p,m];omega
  refine Hi i (by simp only[ae]at j⊢;omega) λJ n t=>?_
  rw[cZ j,<-cV,cK j]at n;refine H _ _ ⟨a9,sH,by(try simp only);omega,.inr ⟨b,dG 1 [.pointer none]++(D++a).drop (dG 1 [.pointer none]).length,rfl,hb,?_,?_⟩⟩ ((v.mono λ_ e=>.inl (e▸hb)).tr (t.mono λ_ e=>.inl (e▸hb)))
  .rw[n,c];simp only[au]
  .simp only[ae,ba,C,o,q]
   omega
theorem Mi(c:Sl qA 1 W h s xs)(m:xs.length*8<=140737488355328)
  (e:∀s' h',OwnS qA 1 51 (λb=>h.size<=b) h' s' xs->Upd No h h'->K s' h'):ce 224 [.slice s.a s.len s.cap] K h:=by
 refine dg (gA s) .nil Tryz.func224 Tryz.call224 ?_;unfold gA;refine eh (λd=>?_) (λn=>?_)
 .have d:s.a=none:=by simpa using d
  have hx:xs= []:=by
   by_cases hx:xs= []
   .exact hx
   .obtain⟨a,g,_⟩:=c.row hx
    rw[d]at g;cases g
  subst hx;exact e _ _ (OwnS.nil pq) (eM _ _)
 .have k:=c.upd (e9 No h [] 51) (λ_ h=>h.elim)
  refine⟨_,k.srow,?_⟩;refine AppP.own (f:=qA) (M:=λb=>h.size<=b) (xs:= []) (ys:=xs) ⟨rfl,pq,aj _,.inl rfl⟩ c.len rfl (Hj xs) rfl a4 (by simpa using m) (by rw[dS];omega) λs' h' i j=>?_
  exact e _ _ i ((e9 No h [] 51).trans j λb hb=>.inr hb)
theorem SY(x:OwnS qA 1 51 M h s xs)(w:k<xs.length)(L:xs.length<=4398046511104)
  (H:∀s' h',OwnS qA 1 51 M h' s' (xs.take k++xs.drop (k+1))->Upd M h h'->K s' h'):
  ce 263 [.slice s.a s.len s.cap,.int .i64 k,.int .i64 ((k+1:Nat):Int)] K h:=by
 refine dg (gt s k ((k+1:Nat):Int)) kZ Tryz.func263 Tryz.call263 ?_;dsimp only[gt,nW,nV,Wn,Wm,Wf];have f:=x.len;have z:=x.cap;rcases x.blk with O|⟨b,a,I,hb,hc,G⟩
 .omega
 have p:((xs.take k).flatMap qA).length=k*1:=by rw[kg pq,aV,bU a4]
 have m:((xs.drop (k+1)).flatMap qA).length=(xs.length-(k+1))*1:=by rw[kg pq,ba]
 have F:xs.flatMap qA=(xs.take k).flatMap qA++(qA xs[k]++(xs.drop (k+1)).flatMap qA):=by
  rw[<-aL,<-dL w];exact zR xs k
 rw[F]at hc;have d:=Hj (xs.drop (k+1));have c:(xs.take k++xs.drop (k+1)).flatMap qA=(xs.take k).flatMap qA++(xs.drop (k+1)).flatMap qA:=bI;have E:(qA xs[k]).length=1:=rfl;generalize (xs.take k).flatMap qA=A at p hc c;generalize (xs.drop (k+1)).flatMap qA=B at m hc d c;generalize qA xs[k]=X at E hc;rw[I];simp only[f,aY];refine⟨a4,a4,a4,eh (λe=>?_) λ_=>?_⟩
 .have:(k:Int)=((k+1:Nat):Int):=by simpa using e
  omega
 refine eQ ⟨a4,a4,B,?_,?_⟩
 .by_cases g:xs.length=k+1
  .exact⟨m,.inl (aK.1 (by rw[m,g,im,ud]))⟩
  rw[jW a4];refine md hc m ?_;have:(A++X).length=0+(k+1)*1:=by rw[ae];omega
  rw[show A++(X++B)++a=(A++X)++(B++a) by simp only[au],cK this,cZ m]
 .rw[sub_zero]
  refine Tc hc (by simp only[ae];omega) a4 d λN i v=>?_
  have q:a.length=(s.cap-xs.length)*1:=by rw[G,f]
  refine⟨by dsimp only;omega,by dsimp only;omega,?_⟩
  simp only[Bd];rw[jW a4];have en:xs.length-(k-0+(xs.length-(k+1)))=1:=a4
  have u:(A++(X++B)++a).drop ((k-0)*1+B.length)=(X++B).drop B.length++a:=by
   rw[au,<-cV,cK (show A.length=(k-0)*1 by rw[p,eI]),fJ (by rw[ae];omega)]
  have y:(A++(X++B)++a).take ((k-0)*1)=A:=by rw[au,cZ (show A.length=(k-0)*1 by rw[p,eI])]
  rw[u,y]at i;have o:((X++B).drop B.length).length=1:=by rw[ba,ae];omega
  generalize (X++B).drop B.length=D at o i;rw[en];have C:(dG 1 [.pointer none]).length=1:=rfl;have j:(A++B).length=0+(k-0+(xs.length-(k+1)))*1:=by rw[ae,p,m];omega
  refine Hi i (by simp only[ae]at j⊢;omega) λJ n t=>?_
  rw[cZ j,<-cV,cK j]at n;refine H _ _ ⟨a9,pq,by(try simp only);omega,.inr ⟨b,dG 1 [.pointer none]++(D++a).drop (dG 1 [.pointer none]).length,rfl,hb,?_,?_⟩⟩ ((v.mono λ_ e=>.inl (e▸hb)).tr (t.mono λ_ e=>.inl (e▸hb)))
  .rw[n,c];simp only[au]
  .simp only[ae,ba,C,o,q]
   omega
end
section
open Go.Lift
variable {a b k:c6}{h:ad}{K:Int->dO}{i n m:Nat}{s:fD}
abbrev Pr:=c6×c6
theorem AH{a b:c6}:a.toList=b.toList↔a=b:=by
 constructor
 .intro h
  rw[ByteArray.toList_eq,ByteArray.toList_eq]at h;cases a;cases b;simp at h;subst h;rfl
 .rintro rfl;rfl
def kl(a b:c6):Prop:=bF a.toList b.toList=true
instance (a b:c6):Decidable (kl a b):=inferInstanceAs (Decidable (_=true))
theorem Nv:kl a b↔a.toList<b.toList:=by unfold kl;rw[bytesLess_eq,decide_eq_true_iff]
theorem bX(a:c6):¬kl a a:=by rw[Nv];exact List.lt_irrefl _
theorem dX{c:c6}(h:kl a b)(k:kl b c):kl a c:=by rw[Nv]at*;exact List.lt_trans h k
theorem tri:∀x y:c5,bF x y=false->x≠y->bF y x=true
 | [],[],_,h=>absurd rfl h
 | [],_::_,h,_=>by simp[bF]at h
 |_::_,[],_,_=>rfl
 |a::x,b::y,h,hn=>by
  simp only[bF,Bool.or_eq_false_iff,decide_eq_false_iff_not,Bool.and_eq_false_iff]at h;simp only[bF,Bool.or_eq_true,decide_eq_true_iff,Bool.and_eq_true];by_cases e:a=b
  .subst e
   right;refine⟨a6,tri x y ?_ λe=>hn (by rw[e])⟩
   rcases h.2 with h|h
   .simp at h
   .exact h
  .left
   have c:=h.1;rw[UInt8.lt_iff_toNat_lt]at c⊢;have:a.toNat≠b.toNat:=λh=>e (UInt8.toNat_inj.1 h)
   omega
theorem mf(h:¬kl a b)(k:a≠b):kl b a:=tri _ _ (by unfold kl at h;simpa using h) λe=>k (AH.1 e)
def xy(a b:c6):Int:=if kl a b then-1 else if a=b then 0 else 1
theorem PL{x:c6}{K:Bool->dO}(a:K false h):gl 141 [.string x] K h:=by
 refine dg (y5 x) .nil Tryz.func141 Tryz.call141 ?_;unfold y5;simpa using a
theorem Jh(c:K (xy a b) h):fK 92 [.string a,.string b] K h:=by
 refine dg (wB a b) .nil Tryz.func92 Tryz.call92 ?_;unfold wB;refine PL (PL (ag.2 (ag.2 ?_)));unfold xy at c;refine eh (λe=>?_) λe=>?_
 .rw[if_pos (show kl a b from e)]at c;exact c
 .have f:¬kl a b:=λh=>by rw[show bF a.toList b.toList=true from h]at e;cases e
  rw[if_neg f]at c;rw[e];refine eh (λd=>?_) λd=>?_
  .rw[if_neg (λh=>by subst h;simp at d)]at c;exact c
  .have:a.toList=b.toList:=by simpa using d
   rw[if_pos (AH.1 this)]at c;exact c
theorem Pw{p:Pr}(a:∀h',Upd No h h'->K (xy p.1 k) h'):fK 280 [.agg #[.string p.1,.string p.2],.string k] K h:=by
 refine dg (Ea p k) .nil Tryz.func280 Tryz.call280 ?_;dsimp only[Ea,kF,fY,bo,r7,AO];have b1:=cf h [.string p.1,.string p.2] 33;refine⟨p.1,by rw[cG,bZ,bw b1];rfl,Jh (a _ (e9 No h _ _))⟩
abbrev bS(l:bY):Prop:=l.Pairwise λp q=>kl p.1 q.1
def pos(l:bY)(k:c6):Nat:=(l.takeWhile λp=>decide (kl p.1 k)).length
def cI(l:bY)(k:c6):Bool:=l.any λp=>decide (p.1=k)
theorem Xw{l:bY}(hi:i<=l.length)(b:∀j (h:j<l.length),j<i->kl l[j].1 k)(a:∀(h:i<l.length),¬kl l[i].1 k):pos l k=i:=by
 unfold pos;induction l generalizing i with
 |nil=>simp at hi;simp[hi]
 |cons p l ih=>
  rw[List.takeWhile_cons];cases i with
  |zero=>
   have:=a a6;simp only[eJ]at this;rw[if_neg (by simpa using this)];rfl
  |succ i=>
   have:=b 0 a6 a4;simp only[eJ]at this;rw[if_pos (by simpa using this),List.length_cons];congr 1
   refine ih (by simpa using hi) (λj d c=>?_) λh=>?_
   .have:=b (j+1) (by simpa using d) a4
    simpa using this
   .have:=a (by simpa using h)
    simpa using this
theorem Xx(l:bY)(k:c6):pos l k<=l.length:=by
 unfold pos;exact(List.takeWhile_prefix _).length_le
theorem NK{W:dx}{l:bY}(V:Sl dT 2 W h s l)(hr:bS l)(hn:l.length<=1000000000)(k:c6){K:Int×Bool->dO}
  (D:∀h',Upd No h h'->K ((pos l k:Int),cI l k) h'):zG 238 [.slice s.a s.len s.cap,.string k] K h:=by
 refine dg (Gy s k) .nil Tryz.func238 Tryz.call238 ?_;unfold Gy;refine jp s k _ ?_;dsimp only[fa,qD,za,Fb,fj,cM,Oe];have Y:=V.len;have H:∀{p:Pr} {h:ad} {K:Int->dO},(∀h',Upd No h h'->K (xy p.1 k) h')->HV PG (.func (.func 280) #[] #[]) [.agg #[.string p.1,.string p.2],.string k] [.c (.int .i64)] K h:=λD=>HV.mk' (Pw D)
 refine ez (λ(g:Nat×Nat) (t:Int×Int) h'=>t.1=(g.1:Int)/\t.2=(g.2:Int)/\g.1<=g.2/\g.2<=l.length/\Upd No h h'/\(∀j (O:j<l.length),j<g.1->kl l[j].1 k)/\(∀j (O:j<l.length),g.2<=j->¬kl l[j].1 k)) (λg=>g.2-g.1) (0,l.length)
  ⟨rfl,by(try simp only);omega,a6,a6,eM _ _,λj O h=>a4,λj O h=>by(try simp only at h);omega⟩ ?_
 rintro I ⟨i,j⟩ ⟨ti,tj⟩ h' ⟨T,U,B,z,L,o,u⟩ X;(try simp only at T U B z o u)
 subst T U;have N:=V.upd L λ_ h=>h.elim
 have mono:∀a b (E:a<l.length) (hb:b<l.length),a<b->kl l[a].1 l[b].1:=λa b E hb R=>List.pairwise_iff_getElem.1 hr a b E hb R
 refine ar (λw=>?_) λQ=>?_
 .have w:i<j:=by have:(i:Int)<(j:Int):=w;omega
  have em:ac .i64 (eY (ac .u64 (ac .i64 ((i:Int)+(j:Int)))) (2^(min (1:Int).toNat (al .u64))))=(((i+j)/2:Nat):Int):=by
   have e3:(2^(min (1:Int).toNat (al .u64)):Int)=2:=rfl;rw[e3,dI (x:=(i:Int)+(j:Int)) a4,Go.IntWalk.u64_in _ a4,Int.fdiv_eq_ediv_of_nonneg _ a4,dI a4];omega
  refine⟨a8,?_⟩;simp only[Bd];rw[em];generalize hm:(i+j)/2=m;have C:m<l.length:=a4
  obtain⟨a,E,_,hv⟩:=N.at (af C);refine⟨a4,a,E,l[m].1,hv 0 _ rfl,l[m].2,hv 1 _ rfl,H λZ v=>?_⟩
  refine ar (λn=>?_) λF=>?_
  .have c:kl l[m].1 k:=by
    unfold xy at n;by_cases c:kl l[m].1 k
    .exact c
    .rw[if_neg c]at n;split at n<;>omega
   refine X (m+1,j) _ _ ⟨by(try simp only);rw[dI a4];omega,rfl,by(try simp only);omega,z,L.tr v,λq y A=>?_,u⟩ (by(try simp only);omega)
   (try simp only at A)
   rcases ci q m with h|h
   .exact dX (mono q m y C h) c
   .have:q=m:=by omega
    subst this;exact c
  .have d:¬kl l[m].1 k:=λc=>F (by unfold xy;rw[if_pos c];decide)
   refine X (i,m) _ _ ⟨rfl,rfl,by(try simp only);omega,by(try simp only);omega,L.tr v,o,λq y A G=>?_⟩ (by(try simp only);omega)
   (try simp only at A)
   rcases ci m q with h|h
   .exact d (dX (mono m q C y h) G)
   .have:q=m:=by omega
    subst this;exact d G
 .have B:i=j:=by have:¬(i:Int)<(j:Int):=Q;omega
  subst B;have J:pos l k=i:=Xw z o λhi=>u i hi (aj _)
  rw[J]at D;refine ar (λw=>?_) λP=>?_
  .have f:i<l.length:=by have:(i:Int)<(s.len:Int):=w;omega
   obtain⟨a,E,_,hv⟩:=N.at (af f);refine⟨by(try simp only);omega,a,E,l[i].1,hv 0 _ rfl,l[i].2,hv 1 _ rfl,H λZ v=>?_⟩
   have d:=u i f (aj _);have S:(xy l[i].1 k==(0:Int))=cI l k:=by
    unfold xy cI;rw[if_neg d,Bool.eq_iff_iff,List.any_eq_true];constructor
    .intro h
     split at h
     .rename_i e;exact⟨l[i],List.getElem_mem f,decide_eq_true e⟩
     .simp at h
    .rintro⟨p,J,e⟩
     have e:=of_decide_eq_true e;obtain⟨q,y,rfl⟩:=List.mem_iff_getElem.1 J;have:q=i:=by
      rcases Nat.lt_trichotomy q i with h|h|h
      .exact absurd (e▸o q y h) (bX _)
      .exact h
      .exact absurd (e▸mono i q f y h) d
     subst this;rw[if_pos e];rfl
   rw[S];exact D _ (L.tr v)
  .have f:i=l.length:=by have:¬(i:Int)<(s.len:Int):=P;omega
   have S:cI l k=false:=by
    unfold cI;rw[List.any_eq_false];intro p J e;have e:=of_decide_eq_true e;obtain⟨q,y,rfl⟩:=List.mem_iff_getElem.1 J;exact absurd (e▸o q y a4) (bX _)
   rw[S]at D;exact D _ L
theorem OwnS.zero{α:Type}{f:α->c4}{sz:Nat}{t:TypeId}{M:dx}{xs:List α}(c:OwnS f sz t M h s xs):OwnS f sz t M h ⟨bj s.a 0 s.cap sz,0-0,s.cap-0⟩ []:=by
 have d:∀x,(f x).length=sz/\0<sz:=c.ne;have e:=c.len;have g:=c.cap;refine⟨rfl,d,cd,?_⟩
 rcases c.blk with k|⟨b,a,i,hb,hc,j⟩
 .exact .inl cd
 .refine .inr ⟨b,xs.flatMap f++a,by rw[i,sub_zero],hb,hc,?_⟩
  rw[ae,kg d,j,<-Nat.add_mul];simp only;congr 1;omega
def QU:Pr:=(⟨#[]⟩,⟨#[]⟩)
theorem TC(n:Nat):dG n [.string (⟨#[]⟩:c6),.string (⟨#[]⟩:c6)]=(eO n QU).flatMap dT:=by
 unfold dG;induction n with
 |zero=>rfl
 |succ n ih=>rw[oz,oz,aL,<-ih];rfl
theorem aaq(g:n*32<=140737488355328){K:fD->dO}(a:∀s' h',OwnS dT 2 33 (λb=>h.size<=b) h' s' []->Upd No h h'->K s' h'):
  ce 307 [.slice none 0 0,.int .i64 n] K h:=by
 refine dg (ji ⟨none,0,0⟩ n) oT Tryz.func307 Tryz.call307 ?_;unfold ji mc;have e:ac .i64 ((n:Int)-ac .i64 (((0:Nat):Int)-((0:Nat):Int)))=(n:Int):=by rw[dI (x:=((0:Nat):Int)-((0:Nat):Int)) a4,dI a4];omega
 refine eQ (ar (λh=>a4) λ_=>?_)
 simp only[Bd];rw[e];refine ar (λi=>?_) λj=>a _ _ (OwnS.nil fP) (eM _ _)
 refine⟨a4,⟨a4,a4,a4,a4⟩,?_⟩
 refine AppP.own (f:=dT) (M:=λb=>h.size<=b) (xs:= []) (ys:=eO n QU) (OwnS.nil fP) a6 (TC _) (by rw[TC];exact yn _) rfl a4 (by simpa using g) (aj _) λs' h' c d=>?_
 exact⟨a4,a _ _ (OwnS.zero c) (d.mono λb hb=>.inr hb)⟩
abbrev adS(s:fD):c4:= [.slice s.a s.len s.cap]
def ParS(h:ad):List fD->List bY->Prop
 | [],[]=>True
 |v::vs,l::ls=>Sl dT 2 No h v l/\ParS h vs ls
 |_,_=>False
theorem ParS.upd{h':ad}(k:Upd No h h'):∀{vs:List fD} {ls:List bY},ParS h vs ls->ParS h' vs ls
 | [],[],_=>trivial
 |_::_,_::_,q=>⟨q.1.upd k λ_ h=>h.elim,ParS.upd k q.2⟩
 | [],_::_,q=>q.elim
 |_::_,[],q=>q.elim
theorem ParS.len:∀{vs:List fD} {ls:List bY},ParS h vs ls->vs.length=ls.length
 | [],[],_=>rfl
 |_::_,_::_,q=>by rw[av,av,ParS.len q.2]
 | [],_::_,q=>q.elim
 |_::_,[],q=>q.elim
theorem ParS.at:∀{vs:List fD} {ls:List bY},ParS h vs ls->∀{i:Nat} (h1:i<vs.length) (h2:i<ls.length),Sl dT 2 No h vs[i] ls[i]
 |_::_,_::_,q,0,_,_=>q.1
 |_::_,_::_,q,i+1,h1,h2=>ParS.at q.2 (by simpa using h1) (by simpa using h2)
theorem L7(ls:List bY)(hi:i<ls.length):(ls.take (i+1)).flatten=(ls.take i).flatten++ls[i]:=by
 rw[ax hi,fz,eX,ol,aX]
theorem UB(ls:List bY)(i:Nat):(ls.take i).flatten.length<=ls.flatten.length:=by
 have:ls.flatten=(ls.take i).flatten++(ls.drop i).flatten:=by rw[<-fz,List.take_append_drop]
 rw[this,ae];omega
theorem Me{vs:List fD}{ls:List bY}(B:Sl adS 1 No h s vs)(A:ParS h vs ls)(J:ls.flatten.length*32<=140737488355328)(hv:vs.length<=1000)
  {K:fD->dO}(H:∀s' h',OwnS dT 2 33 (λb=>h.size<=b) h' s' ls.flatten->Upd No h h'->K s' h'):ce 282 [.slice s.a s.len s.cap] K h:=by
 refine dg (iI s) nZ Tryz.func282 Tryz.call282 ?_;dsimp only[iI,cz,mc,jX,fj];have F:=B.len;have e:=A.len;refine ez (λ(i:Nat) (t:Int×Int) h'=>t.2=(i:Int)/\i<=vs.length/\t.1=((ls.take i).flatten.length:Int)/\h'=h) (λi=>vs.length-i) 0 ⟨rfl,aJ _,a6,rfl⟩ ?_
 rintro I i ⟨R,X⟩ h' ⟨g,hi,E,rfl⟩ O;(try simp only at g E)
 subst g E;refine ar (λc=>?_) λz=>?_
 .have c:i<vs.length:=by have:(i:Int)<(s.len:Int):=c;omega
  obtain⟨a,D,_,f⟩:=B.at (af c);have P:=(A.at c (e▸c)).len;have d:=congrArg eT (L7 ls (e▸c));rw[ae]at d;have C:=UB ls (i+1);refine eQ ⟨by(try simp only);omega,a,D,_,f 0 _ rfl,?_⟩;(try simp only)
  have N:ac .i64 (((ls.take i).flatten.length:Int)+((vs[i]).len:Int))=((ls.take (i+1)).flatten.length:Int):=by rw[dI a4];omega
  rw[N];refine ar (λh=>a4) λ_=>?_
  rw[bN c a4];exact O (i+1) _ _ ⟨rfl,c,rfl,rfl⟩ a4
 .have L:i=vs.length:=by have:¬(i:Int)<(s.len:Int):=z;omega
  rw[bd a4];refine aaq J λS Y y v=>?_
  refine ez (λ(i:Nat) (t:fD×Int) x=>t.2=(i:Int)/\i<=vs.length/\OwnS dT 2 33 (λb=>h'.size<=b) x t.1 (ls.take i).flatten/\Upd No h' x) (λi=>vs.length-i) 0 ⟨rfl,aJ _,by simpa using y,v⟩ ?_
  rintro T j ⟨Z,Q⟩ x ⟨g,W,p,m⟩ q;(try simp only at g p)
  subst g;refine ar (λc=>?_) λo=>?_
  .have c:j<vs.length:=by have:(j:Int)<(s.len:Int):=c;omega
   obtain⟨a,D,_,f⟩:=(B.upd m λ_ h=>h.elim).at (af c)
   have k:=((A.upd m).at c (e▸c));have d:=L7 ls (e▸c);have n:=congrArg eT d;rw[ae]at n;have C:=UB ls (j+1);refine eQ ⟨by(try simp only);omega,a,D,_,f 0 _ rfl,_,k.srow,?_⟩;refine AppP.own (ys:=ls[j]) p k.len rfl (yn _) rfl a4 a4 m.size λV U w u=>?_
   (try simp only)
   rw[bN c a4];exact q (j+1) _ _ ⟨rfl,c,d▸w,m.trans u λb hb=>.inr hb⟩ a4
  .have G:j=vs.length:=by have:¬(j:Int)<(s.len:Int):=o;omega
   rw[bd a4]at p;exact H _ _ p m
def Nz(l:bY)(p:Pr):bY:=l.take (pos l p.1)++p::l.drop (if cI l p.1 then pos l p.1+1 else pos l p.1)
def V4(l:bY)(k:c6):bY:=if cI l k then l.take (pos l k)++l.drop (pos l k+1)else l
theorem Nl{l:bY}(c:bS l)(ht:cI l k=true):∃h:pos l k<l.length,l[pos l k].1=k:=by
 unfold cI at ht;obtain⟨p,d,e⟩:=cq.1 ht;have e:=of_decide_eq_true e;obtain⟨q,b,rfl⟩:=List.mem_iff_getElem.1 d;have:pos l k=q:=Xw a4 (λj f a=>by rw[<-e];exact List.pairwise_iff_getElem.1 c j q f b a) λh=>by rw[<-e];exact bX _
 subst this;exact⟨b,e⟩
theorem M6{l:bY}(a:Sl dT 2 No h s l){j:Nat}(e:i<=j)(b:j<=l.length)(d:j<=m)(c:Nat):Sl dT 2 No h ⟨bj s.a i m 2,j-i,c⟩ ((l.drop i).take (j-i)):=Sl.sub a e b d
theorem R8{l:bY}(y:Sl dT 2 No h s l)(hc:s.len<=s.cap)(w:bS l)(H:l.length<=1000000000)(p:Pr)
  {K:fD->dO}(F:∀s' h',OwnS dT 2 33 (λb=>h.size<=b) h' s' (Nz l p)->Upd No h h'->K s' h'):ce 240 [.slice s.a s.len s.cap,.agg #[.string p.1,.string p.2]] K h:=by
 refine dg (J0 s p) Ty Tryz.func240 Tryz.call240 ?_;dsimp only[J0,kF,kG,mH,bo,nW,nV,G3,fY,r7,AO];have d:=y.len;have k1:=e9 No h [.string p.1,.string p.2] 33;have b1:=cf h [.string p.1,.string p.2] 33;refine bL ?_;simp only[cG h];generalize hnew h [.string p.1,.string p.2] 33=h1 at k1 b1;refine⟨p.1,by rw[bZ,bw b1];rfl,NK (y.upd k1 λ_ h=>h.elim) w H p.1 λG c=>?_⟩
 have z:=Xx l p.1;have a:=k1.tr c;refine⟨by(try simp only);omega,?_⟩;let q:=if cI l p.1 then pos l p.1+1 else pos l p.1
 have N:q<=l.length:=by
  show(if cI l p.1 then pos l p.1+1 else pos l p.1)<=l.length
  split
  .rename_i ht;obtain⟨h,_⟩:=Nl w ht;omega
  .exact z
 refine eF (λt h'=>h'=G/\t=⟨bj s.a q s.cap 2,s.len-q,s.cap-q⟩) (λR B=>?_) ?_
 .refine eh (λe=>?_) λe=>B _ _ ⟨rfl,?_⟩
  .have e:cI l p.1=true:=e
   obtain⟨J,_⟩:=Nl w e;have I:ac .i64 ((pos l p.1:Int)+1)=((pos l p.1+1:Nat):Int):=by rw[dI a4];omega
   (try simp only)
   rw[I];refine⟨a4,B _ _ ⟨rfl,?_⟩⟩;have:q=pos l p.1+1:=by show(if cI l p.1 then _ else _)=_;rw[if_pos e]
   rw[this];rfl
  .have e:cI l p.1=false:=e
   have:q=pos l p.1:=by show(if cI l p.1 then _ else _)=_;rw[if_neg (by rw[e];decide)]
   rw[this];rfl
 .rintro t h' ⟨rfl,rfl⟩
  have b2:=c.get0 b1;refine⟨by(try simp only);omega,p.1,by rw[bZ,bw b2];rfl,p.2,by rw[bZ,bw b2];rfl,?_⟩
  have u:=e9 No h' [.string p.1,.string p.2] 33;have b3:=cf h' [.string p.1,.string p.2] 33;refine bL ?_;simp only[cG h'];generalize hnew h' [.string p.1,.string p.2] 33=h3 at u b3;refine bL ?_;have g:=(y.upd a λ_ h=>h.elim).upd u λ_ h=>h.elim
  have k:=e9 No h3 [.slice (bj s.a 0 s.cap 2) ((pos l p.1:Int).toNat-0) (s.cap-0),.slice (some ⟨h'.size,0,none⟩) 1 1,.slice (bj s.a q s.cap 2) (s.len-q) (s.cap-q)] 256;have E:=cf h3 [.slice (bj s.a 0 s.cap 2) ((pos l p.1:Int).toNat-0) (s.cap-0),.slice (some ⟨h'.size,0,none⟩) 1 1,.slice (bj s.a q s.cap 2) (s.len-q) (s.cap-q)] 256;have A:=M6 g (i:=0) (j:=pos l p.1) (m:=s.cap) (aJ _) z a4 (s.cap-0)
  have D:Sl dT 2 No h3 ⟨some ⟨h'.size,0,none⟩,1,1⟩ [p]:=⟨rfl,fP,λ_=>⟨_,rfl,λh=>h.elim,p5 b3 λi v hv=>by simpa using hv⟩⟩
  have o:=M6 g (i:=q) (j:=l.length) (m:=s.cap) N (aj _) a4 (s.cap-q);rw[<-d]at o;rw[List.drop_zero]at A;rw[bd (by rw[ba];omega)]at o;have L:Nz l p= [l.take (pos l p.1-0),[p],l.drop q].flatten:=by simp[Nz,q]
  refine Me (s:=⟨some (aR h3),3,3⟩) (vs:= [⟨bj s.a 0 s.cap 2,(pos l p.1:Int).toNat-0,s.cap-0⟩,⟨some ⟨h'.size,0,none⟩,1,1⟩,⟨bj s.a q s.cap 2,s.len-q,s.cap-q⟩]) (ls:= [l.take (pos l p.1-0),[p],l.drop q])
   ⟨rfl,λx=>⟨rfl,wF⟩,λ_=>⟨_,rfl,λh=>h.elim,p5 E λi v hv=>by simpa[adS]using hv⟩⟩ ⟨A.upd k λ_ h=>h.elim,D.upd k λ_ h=>h.elim,o.upd k λ_ h=>h.elim,trivial⟩ ?_ a6 λO P f n=>?_
  .simp only[eX,ol,ae,List.length_take,ba,aG,List.length_nil];omega
  .rw[<-L]at f
   have C:=((a.tr u).tr k);exact F _ _ (f.more λb hb=>Nat.le_trans C.size hb) (C.tr n)
def ye(n d:Nat):Nat:=(fy n).countP (d.testBit ·)
theorem Hx(m n d:Nat):ye (m+n) d=ye m d+ye n (d>>>m):=by
 unfold ye;rw[vn,List.countP_append,List.countP_map];congr 1
 refine List.countP_congr λi _=>?_
 simp[Nat.testBit_shiftRight]
theorem UJ(d:Nat)(i:Nat):∀n,i<=n->ye n (d&&&(2^i-1))=ye i d:=by
 intro n a;obtain⟨m,rfl⟩:=Nat.exists_eq_add_of_le a;rw[Hx];have c:ye i (d&&&(2^i-1))=ye i d:=by
  unfold ye;refine List.countP_congr λj b=>?_
  have:=fW.1 b;simp[this]
 have e:ye m ((d&&&(2^i-1))>>>i)=0:=by
  unfold ye;rw[List.countP_eq_zero];intro j _;simp[Nat.testBit_shiftRight];intro h;omega
 omega
theorem ab2(d:Nat):ye 8 (d&&&255)=ye 8 d:=UJ d 8 8 (aj _)
theorem Ci(n d:Nat):ye n d<=n:=by
 have:=List.countP_le_length (p:=(d.testBit ·)) (l:=fy n)
 simpa[ye]using this
theorem m8(d n:Nat):eY (d:Int) (2^n)=((d>>>n:Nat):Int):=by
 rw[Int.fdiv_eq_ediv_of_nonneg _ (by exact Int.le_of_lt (Int.pow_pos a8)),cU];simp
theorem YR(a b:Nat):(aB (al .u32) (a:Int)&&&aB (al .u32) (b:Int)).toNat=(a%4294967296)&&&(b%4294967296):=by
 simp[al];rfl
theorem CE(h:n<4294967296):ac .u32 (n:Int)=(n:Int):=Go.IntWalk.u32_in _ a4
theorem Ib(hi:i<32){K:Bool->dO}(a:K true h):gl 283 [.int .i64 i] K h:=by
 refine dg (BA i) .nil Tryz.func283 Tryz.call283 ?_;unfold BA;refine ar (λ_=>?_) λh=>absurd (Int.natCast_nonneg i) h
 rw[decide_eq_true a4];exact a
theorem N5{a b:Nat}(h:b<4294967296):a&&&b<4294967296:=gc rk h
theorem EX{d:Nat}(hd:d<4294967296)(hi:i<32){K:Bool->dO}(f:K (d.testBit i) h):gl 241 [.int .u32 d,.int .i64 i] K h:=by
 refine dg (ya d i) .nil Tryz.func241 Tryz.call241 ?_;unfold ya;refine Ib hi (ay.2 ⟨a4,?_⟩);have e:min (i:Int).toNat (al .u32)=i:=by rw[aY];exact bU (by show i<=32;omega)
 rw[e,m8];have b:=YR (d>>>i) 1;have a:d>>>i<4294967296:=gc (iJ d i) hd;rw[d9 a,show(1:Nat)%4294967296=1 from rfl]at b
 simp only[Bd];rw[show((1:Nat):Int)=(1:Int)from rfl]at b
 rw[b,CE (N5 a4)];have c:(((d>>>i&&&1:Nat):Int)==(1:Int))=d.testBit i:=by
  rw[gN,beq_iff_eq,Nat.testBit,Nat.and_comm];simp only[bne_iff_ne,ne_eq,Nat.one_and_eq_mod_two];have:(d>>>i)%2<2:=Nat.mod_lt _ a4;omega
 rw[c];exact f
theorem Wc{d:Nat}(hd:d<4294967296)(hi:i<32):∃w:Nat,ac .u32 (aB (al .u32) (d:Int)|||aB (al .u32) (ac .u32 (1*2^(min (i:Int).toNat (al .u32))))).toNat=(w:Int)/\w<4294967296/\∀j,w.testBit j=(d.testBit j||decide (j=i)):=by
 have e:min (i:Int).toNat (al .u32)=i:=by rw[aY];exact bU (by show i<=32;omega)
 have f:2^i<4294967296:=Nat.pow_lt_pow_right a4 (show i<32 from hi)
 have c:(1*2^i:Int)=((2^i:Nat):Int):=a6
 rw[e,c,CE f];refine⟨_,CE (BitVec.isLt _),BitVec.isLt _,λj=>?_⟩
 rw[BitVec.testBit_toNat,BitVec.getLsbD_or,iB,iB,nH,nH,Nat.testBit_two_pow];by_cases a:j<32
 .have:decide (j<al .u32)=true:=decide_eq_true a
  rw[this];simp[eq_comm]
 .have g:decide (j<al .u32)=false:=decide_eq_false a
  have b:d.testBit j=false:=gC (aD hd (fg (n:=2) a4 (show 32<=j by omega)))
  rw[g,b];simp;omega
theorem TI{d:Nat}(hd:d<4294967296)(hi:i<32)(a:∀w:Nat,w<4294967296->(∀j,w.testBit j=(d.testBit j||decide (j=i)))->K (w:Int) h):wO 246 [.int .u32 d,.int .i64 i] K h:=by
 refine dg (wC d i) .nil Tryz.func246 Tryz.call246 ?_;unfold wC;refine Ib hi (ag.2 ⟨a4,?_⟩);obtain⟨w,e,c,b⟩:=Wc hd hi;simp only[Bd];rw[e];exact a w c b
theorem NZ{d:Nat}(hd:d<4294967296)(hi:i<32):∃w:Nat,ac .u32 (aB (al .u32) (d:Int)&&& ~~~aB (al .u32) (ac .u32 (1*2^(min (i:Int).toNat (al .u32))))).toNat=(w:Int)/\w<4294967296/\∀j,w.testBit j=(d.testBit j&&decide (j≠i)):=by
 have e:min (i:Int).toNat (al .u32)=i:=by rw[aY];exact bU (by show i<=32;omega)
 have f:2^i<4294967296:=Nat.pow_lt_pow_right a4 (show i<32 from hi)
 have c:(1*2^i:Int)=((2^i:Nat):Int):=a6
 rw[e,c,CE f];refine⟨_,CE (BitVec.isLt _),BitVec.isLt _,λj=>?_⟩
 rw[BitVec.testBit_toNat,BitVec.getLsbD_and,BitVec.getLsbD_not,iB,iB,nH,nH,Nat.testBit_two_pow];by_cases a:j<32
 .have:decide (j<al .u32)=true:=decide_eq_true a
  rw[this];simp[eq_comm]
 .have g:decide (j<al .u32)=false:=decide_eq_false a
  have b:d.testBit j=false:=gC (aD hd (fg (n:=2) a4 (show 32<=j by omega)))
  rw[g,b];simp
theorem HI{d:Nat}(hd:d<4294967296)(hi:i<32)(a:∀w:Nat,w<4294967296->(∀j,w.testBit j=(d.testBit j&&decide (j≠i)))->K (w:Int) h):wO 287 [.int .u32 d,.int .i64 i] K h:=by
 refine dg (sx d i) .nil Tryz.func287 Tryz.call287 ?_;unfold sx;refine Ib hi (ag.2 ⟨a4,?_⟩);obtain⟨w,e,c,b⟩:=NZ hd hi;simp only[Bd];rw[e];exact a w c b
abbrev acG:c6:=⟨#[0,1,1,2,1,2,2,3,1,2,2,3,2,3,3,4,1,2,2,3,2,3,3,4,2,3,3,4,3,4,4,5,1,2,2,3,2,3,3,4,2,3,3,4,3,4,4,5,2,3,3,4,3,4,4,5,3,4,4,5,4,5,5,6,1,2,2,3,2,3,3,4,2,3,3,4,3,4,4,5,2,3,3,4,3,4,4,5,3,4,4,5,4,5,5,6,2,3,3,4,3,4,4,5,3,4,4,5,4,5,5,6,3,4,4,5,4,5,5,6,4,5,5,6,5,6,6,7,1,2,2,3,2,3,3,4,2,3,3,4,3,4,4,5,2,3,3,4,3,4,4,5,3,4,4,5,4,5,5,6,2,3,3,4,3,4,4,5,3,4,4,5,4,5,5,6,3,4,4,5,4,5,5,6,4,5,5,6,5,6,6,7,2,3,3,4,3,4,4,5,3,4,4,5,4,5,5,6,3,4,4,5,4,5,5,6,4,5,5,6,5,6,6,7,3,4,4,5,4,5,5,6,4,5,5,6,5,6,6,7,4,5,5,6,5,6,6,7,5,6,6,7,6,7,7,8]⟩
theorem ZD:(fy 256).all (λb=>decide (acG[b]? =some (gf (ye 8 b))))=true:=by decide+kernel
theorem M2{b:Nat}(h:b<256):acG[b]? =some (gf (ye 8 b)):=of_decide_eq_true (List.all_eq_true.1 ZD b (fW.2 h))
theorem NR(b:Nat):(gf (ye 8 b)).toNat=ye 8 b:=by
 have:=Ci 8 b;simp;omega
theorem aej(d:Nat):ye 32 d=ye 8 (d>>>24)+ye 8 ((d>>>16)&&&255)+ye 8 ((d>>>8)&&&255)+ye 8 (d&&&255):=by
 rw[ab2,ab2,ab2,show(32:Nat)=8+(8+(8+8))from rfl,Hx,Hx,Hx]
 simp only[<-Nat.shiftRight_add,Nat.reduceAdd];omega
set_option maxRecDepth 100000 in
theorem Z6{d:Nat}(hd:d<4294967296)(j:K (ye 32 d:Int) h):fK 308 [.int .u32 d] K h:=by
 refine dg (pN d) .nil Tryz.func308 Tryz.call308 ?_;dsimp only[pN,aaY];have c:eY (d:Int) (2^(min (24:Int).toNat (al .u32)))=((d>>>24:Nat):Int):=m8 d 24;have i:eY (d:Int) (2^(min (16:Int).toNat (al .u32)))=((d>>>16:Nat):Int):=m8 d 16;have k:eY (d:Int) (2^(min (8:Int).toNat (al .u32)))=((d>>>8:Nat):Int):=m8 d 8
 have b:∀x:Nat,x<4294967296->ac .u32 (aB (al .u32) (x:Int)&&&aB (al .u32) 255).toNat=((x&&&255:Nat):Int):=λx hx=>by
  have:=YR x 255;rw[d9 hx]at this;rw[show((255:Nat):Int)=(255:Int)from rfl]at this
  rw[this,CE (N5 a4)]
 have e:d>>>24<256:=by rw[cU];omega
 have a:∀x:Nat,x&&&255<256:=λx=>gc rk a4
 have g:d>>>16<4294967296:=gc (iJ d 16) hd;have m:d>>>8<4294967296:=gc (iJ d 8) hd;simp only[Bd];rw[c,i,k,b _ g,b _ m,b _ hd];refine⟨a8,_,a4,M2 (b:=d>>>24) e,a8,_,a4,M2 (a _),a8,_,a4,M2 (a _),_,a4,M2 (a _),?_⟩
 rw[NR,NR,NR,NR];simp only[aY];have o:=Ci 8 (d>>>24);have p:=Ci 8 (d>>>16&&&255);have s:=Ci 8 (d>>>8&&&255);have q4:=Ci 8 (d&&&255);rw[aej]at j;have f:∀n:Nat,n<=255->ac .u8 (n:Int)=(n:Int):=λn q=>Go.IntWalk.u8_in _ a4
 rw[<-Int.natCast_add,f _ a4,<-Int.natCast_add,f _ a4,<-Int.natCast_add,f _ a4,dI a4];exact j
theorem rA{d:Nat}(hd:d<4294967296)(hi:i<32)(a:K (ye i d:Int) h):fK 242 [.int .u32 d,.int .i64 i] K h:=by
 refine dg (wD d i) .nil Tryz.func242 Tryz.call242 ?_;unfold wD;refine ar (λg=>?_) λg=>?_
 .have:i=0:=by omega
  subst this;exact a
 .refine ar (λh=>a4) λ_=>⟨a4,?_⟩
  have e:min (i:Int).toNat (al .u32)=i:=by rw[aY];exact bU (by show i<=32;omega)
  have f:2^i<4294967296:=Nat.pow_lt_pow_right a4 (show i<32 from hi)
  have j:0<2^i:=Nat.pow_pos a4;have c:(1*2^i:Int)=((2^i:Nat):Int):=a6
  have b:(((2^i:Nat):Int)-1)=((2^i-1:Nat):Int):=a4
  simp only[Bd];rw[e,c,CE f,b,CE (show 2^i-1<4294967296 by omega),YR,d9 hd,d9 (show 2^i-1<4294967296 by omega),CE (N5 a4)]
  refine Cs _ ?_;unfold vl;refine Z6 (N5 a4) ?_;rw[UJ d i 32 a4];exact a
def fm{β:Type}(g:Nat->Option β)(n:Nat):List β:=(fy n).filterMap g
def upd{β:Type}(g:Nat->Option β)(i:Nat)(x:Option β)(j:Nat):Option β:=if j=i then x else g j
theorem adl{β:Type}{f g:Nat->Option β}:∀l:List Nat,(∀j∈l,f j=g j)->l.filterMap f=l.filterMap g
 | [],_=>rfl
 |j::l,h=>by
  rw[kM,kM,h j (aq ..),adl l λk a=>h k (aA _ a)]
section
variable {β:Type} {g:Nat->Option β} {d:Nat}
theorem IS(hd:∀c,c<32->d.testBit c=(g c).isSome)(hi:i<=32):(fm g i).length=ye i d:=by
 unfold fm ye;rw[List.length_filterMap_eq_countP];exact List.countP_congr λj a=>by rw[hd j (by have:=fW.1 a;omega)]
theorem rV(hi:i<n):fm g n=fm g i++((g i).toList++(fy (n-(i+1))).filterMap λj=>g (i+1+j)):=by
 unfold fm;have e:n=i+(1+(n-(i+1))):=a4
 rw[e,vn,mq,vn];have a:i+(1+(n-(i+1)))-(i+1)=n-(i+1):=a4
 rw[a];congr 1
 rw[List.map_append,mq,List.map_map];congr 1
 rw[List.filterMap_map];refine adl _ λj _=>?_
 show g (i+(1+j))=_
 rw[Nat.add_assoc]
theorem Cb{x:Option β}:fm (upd g i x) i=fm g i:=by
 unfold fm;refine adl _ λj a=>?_
 have:=fW.1 a;unfold upd;rw[if_neg a4]
theorem zH{x:Option β}:((fy m).filterMap λj=>upd g i x (i+1+j))=(fy m).filterMap λj=>g (i+1+j):=by
 refine adl _ λj _=>?_
 unfold upd;rw[if_neg a4]
theorem X9(hi:i<32)(hd:∀c,c<32->d.testBit c=(g c).isSome)(b:g i=none)(x:β):fm (upd g i (some x)) 32=(fm g 32).take (ye i d)++x::(fm g 32).drop (ye i d):=by
 have a:=IS hd (i:=i) a4;rw[rV (g:=upd g i (some x)) hi,rV (g:=g) hi,Cb,zH,b,cZ a,cK a];simp[upd]
theorem X8(hi:i<32)(hd:∀c,c<32->d.testBit c=(g c).isSome){y:β}(b:g i=some y)(x:β):fm (upd g i (some x)) 32=(fm g 32).take (ye i d)++x::(fm g 32).drop (ye i d+1):=by
 have a:=IS hd (i:=i) a4;rw[rV (g:=upd g i (some x)) hi,rV (g:=g) hi,Cb,zH,b,cZ a,<-cV,cK a];simp[upd]
theorem Ya(hi:i<32)(hd:∀c,c<32->d.testBit c=(g c).isSome){y:β}(b:g i=some y):fm (upd g i none) 32=(fm g 32).take (ye i d)++(fm g 32).drop (ye i d+1):=by
 have a:=IS hd (i:=i) a4;rw[rV (g:=upd g i none) hi,rV (g:=g) hi,Cb,zH,b,cZ a,<-cV,cK a];simp[upd]
theorem Yb(hi:i<32)(hd:∀c,c<32->d.testBit c=(g c).isSome){y:β}(b:g i=some y):(fm g 32)[ye i d]? =some y:=by
 have a:=IS hd (i:=i) a4;rw[rV (g:=g) hi,b,List.getElem?_append_right a4,a,Nat.sub_self];rfl
theorem L6(hi:i<32)(hd:∀c,c<32->d.testBit c=(g c).isSome){y:β}(a:g i=some y):ye i d<(fm g 32).length:=(List.getElem?_eq_some_iff.1 (Yb hi hd a)).1
theorem abk(hi:i<32)(hd:∀c,c<32->d.testBit c=(g c).isSome):ye i d<=(fm g 32).length:=by
 have a:=IS hd (i:=i) a4;rw[rV (g:=g) hi,ae];omega
theorem zI:(fm g 32).length<=32:=by
 have:=List.length_filterMap_le g (fy 32);simpa[fm]using this
end
end
section
open Go.Lift
variable {W M W' Q:dx}{h h':ad}{b x nx id a:Int}{s:fD}{K:Bool->dO}{d n i gp gm:Nat}{xs ps:List Int}{m:List (Int×fD)}{κ β:Type}
abbrev sv(s:fD):Value:=.slice s.a s.len s.cap
structure Slots where
 p:Nat->Option Pr
 k:Nat->Option aT
def eZ(d n:Nat)(sp sk:fD)(a:Bool)(ow:aT):Array Value:= #[.int .u32 (d:Int),.int .u32 (n:Int),sv sp,sv sk,.bool a,.pointer ow]
structure BitsOf(d n:Nat)(s:Slots):Prop where
 d32:d<4294967296
 n32:n<4294967296
 dp:∀c,c<32->d.testBit c=(s.p c).isSome
 nk:∀c,c<32->n.testBit c=(s.k c).isSome
structure NodeAt(W:dx)(h:ad)(b:Nat)(s:Slots):Prop where
 ex:∃d n sp sk ow,h[b]? =some (.cells (eZ d n sp sk false ow) 324 (0,0))/\BitsOf d n s/\Sl dT 2 W h sp (fm s.p 32)/\Sl qO 1 W h sk (fm s.k 32)/\sp.len<=sp.cap/\sk.len<=sk.cap
 nw:¬W b
theorem NodeAt.upd{b:Nat}{s:Slots}(n:NodeAt W h b s)(k:Upd M h h')(hm:∀b,M b->W b\/h.size<=b):NodeAt W h' b s:=by
 obtain⟨d,m,sp,sk,ow,a,e,c,g,f,i⟩:=n.ex;exact⟨⟨d,m,sp,sk,ow,k.get a (λhb=>(hm _ hb).elim n.nw λh=>by have:=bB a;omega),e,c.upd k hm,g.upd k hm,f,i⟩,n.nw⟩
structure OwnN(M:dx)(h:ad)(b d n:Nat)(sp sk:fD)(s:Slots)(ow:aT):Prop where
 blk:h[b]? =some (.cells (eZ d n sp sk false ow) 324 (0,0))
 bits:BitsOf d n s
 ex:∃A B:Nat->Prop,OwnS dT 2 33 A h sp (fm s.p 32)/\OwnS qO 1 50 B h sk (fm s.k 32)/\(∀x,A x->M x/\¬B x/\x≠b/\x<h.size)/\(∀x,B x->M x/\x≠b/\x<h.size)
 mb:M b
theorem zC(a:K false h):gl 229 [.pointer none] K h:=by
 refine dg (uT none) .nil Tryz.func229 Tryz.call229 ?_;dsimp only[uT,ga,cJ];exact ag.2 a
theorem LB{b:Nat}(a:K false h):gl 281 [gZ b,.pointer none] K h:=by
 refine DT _ none ?_;dsimp only[wh,uK,cO,cJ];exact ay.2 (zC (ag.2 a))
theorem OwnN.upd{M':dx}{b:Nat}{sp sk:fD}{s:Slots}{ow:aT}(o:OwnN M h b d n sp sk s ow)(k:Upd M' h h')(hm:∀x,M' x->¬M x):OwnN M h' b d n sp sk s ow:=by
 obtain⟨A,B,g,f,a,c⟩:=o.ex;have z:=k.size;exact⟨k.get o.blk λhb=>hm _ hb o.mb,o.bits,⟨A,B,g.upd k λx hx e=>hm _ e (a x hx).1,f.upd k λx hx e=>hm _ e (c x hx).1,λx hx=>⟨(a x hx).1,(a x hx).2.1,(a x hx).2.2.1,by have:=(a x hx).2.2.2;omega⟩,λx hx=>⟨(c x hx).1,(c x hx).2.1,by have:=(c x hx).2.2;omega⟩⟩,o.mb⟩
set_option maxRecDepth 4000 in
theorem R9{b:Nat}{s:Slots}(nd:NodeAt W h b s){K:aT->dO}
  (D:∀h' d n sp sk,OwnN (λx=>h.size<=x) h' h.size d n sp sk s none->Upd No h h'->K (some ⟨h.size,0,none⟩) h'):
  fu 239 [gZ b,.pointer none] K h:=by
 obtain⟨d,n,sp,sk,ow,hb,bits,L,A,X,R⟩:=nd.ex;refine yR _ none ?_;dsimp only[sQ,ey,ga,nv,yK,cO,bR,dd,WG,abp,cJ,ix,zd];refine LB (ag.2 ?_);have c:∀{h:ad} {b:Nat} {c:Array Value} {i:Nat},h[b]? =some (.cells c 324 (0,0))->aZ h ⟨b,0+i,none⟩=c[i]?:=λhb=>by rw[aU];exact bw hb
 refine⟨_,rfl,_,c (i:=0) hb,_,c (i:=1) hb,sp,c (i:=2) hb,sk,c (i:=3) hb,_,c (i:=4) hb,_,c (i:=5) hb,?_⟩;have k1:=e9 No h [.int .u32 0,.int .u32 0,.slice none 0 0,.slice none 0 0,.bool false,.pointer none] 324;have b1:=cf h [.int .u32 0,.int .u32 0,.slice none 0 0,.slice none 0 0,.bool false,.pointer none] 324;refine bL ?_;simp only[cG h];generalize hnew h [.int .u32 0,.int .u32 0,.slice none 0 0,.slice none 0 0,.bool false,.pointer none] 324=h1 at k1 b1
 have G:fS h1 ⟨h.size,0,none⟩ 0 [.int .u32 (d:Int),.int .u32 (n:Int),.slice sp.a sp.len sp.cap,.slice sk.a sk.len sk.cap,.bool false,.pointer ow]=_:=iE _ h1 0 0 _ b1 a6;refine⟨.inr ⟨_,rfl,λj U=>by rw[bZ];exact fk b1 (by simp at U⊢;omega)⟩,bL ?_⟩
 rw[G];have b2:=eE (o:=.cells (eZ d n sp sk false ow) 324 (0,0)) b1;have q:Upd No h _:=k1.trans (M':=(· =h.size)) (Upd.set h1 (.cells (eZ d n sp sk false ow) 324 (0,0)) rfl) λx hx=>.inr (cL hx.symm)
 have E:h.size<(h1.setIfInBounds h.size (.cells (eZ d n sp sk false ow) 324 (0,0))).size:=bB b2;have S:h.size≠b:=λe=>by have:=bB hb;omega
 have V:(Obj.cells (List.take (0+0) [Value.int .u32 0,.int .u32 0,.slice none 0 0,.slice none 0 0,.bool false,.pointer none]++ [Value.int .u32 (d:Int),.int .u32 (n:Int),.slice sp.a sp.len sp.cap,.slice sk.a sk.len sk.cap,.bool false,.pointer ow]++List.drop (0+0+ [Value.int .u32 (d:Int),.int .u32 (n:Int),.slice sp.a sp.len sp.cap,.slice sk.a sk.len sk.cap,.bool false,.pointer ow].length) [Value.int .u32 0,.int .u32 0,.slice none 0 0,.slice none 0 0,.bool false,.pointer none]).toArray 324 (0,0))=.cells (eZ d n sp sk false ow) 324 (0,0):=rfl
 rw[V];generalize h1.setIfInBounds h.size (.cells (eZ d n sp sk false ow) 324 (0,0))=h2 at b2 q E;have p:=q.get0 hb;refine⟨_,rfl,sp,c (i:=2) p,_,rfl,sk,c (i:=3) p,?_⟩;refine xz (L.upd q λ_ h=>h.elim) (by have:=zI (g:=s.p);omega) λy O J f=>?_
 refine⟨c (i:=3) (f.get0 p),?_⟩;refine E4 ((A.upd q λ_ h=>h.elim).upd f λ_ h=>h.elim) (by have:=zI (g:=s.k);omega) λz Y F m=>?_
 have N:=m.get0 (f.get0 b2);have u:=J.within.upd m λ_ _ h=>h
 have t:=F.within;have z3:=f.size;have z4:=m.size;have w:∀{h:ad} {c:Array Value} {x i:Nat},h[x]? =some (.cells c 324 (0,0))->i<c.size->Wr h ⟨x,0+i,none⟩:=λhb hi=>by rw[aU];exact fk hb hi
 have st:∀{h:ad} {c c':Array Value} {x i:Nat} {v:Value} {k:dO},h[x]? =some (.cells c 324 (0,0))->c.setIfInBounds i v=c'->(∀h',h'[x]? =some (.cells c' 324 (0,0))->Upd (· =x) h h'->k h')->At (hset h ⟨x,i,none⟩ v) k:=λhb e D=>zV hb λh' I Z=>D h' (e▸I) Z
 refine⟨w (i:=2) N (show 2<6 by decide),st (i:=2) (c':=eZ d n y sk false ow) N rfl λh5 P B=>?_⟩
 refine⟨w (i:=3) P (show 3<6 by decide),st (i:=3) (c':=eZ d n y z false ow) P rfl λh6 Q C=>?_⟩
 refine⟨w (i:=5) Q (show 5<6 by decide),st (i:=5) (c':=eZ d n y z false none) Q rfl λh7 T H=>?_⟩
 refine zC (ag.2 ?_);have a:=B.tr (C.tr H);have z7:=a.size;refine D _ d n y z ⟨T,bits,⟨λx=>h2.size<=x/\x<O.size,λx=>O.size<=x/\x<Y.size,u.upd a λx hx e=>by have e:x=h.size:=e;omega,t.upd a λx hx e=>by have e:x=h.size:=e;omega,λx hx=>⟨a4,a4,a4,a4⟩,λx hx=>⟨a4,a4,a4⟩⟩,aj _⟩ ?_
 exact((q.tr f).tr m).trans a λx hx=>.inr (cL hx.symm)
abbrev u32(x:Int):c4:= [.int .u32 x]
theorem kz(x:Int):(u32 x).length=1/\0<1:=⟨rfl,wF⟩
abbrev Nums(W:dx)(h:ad)(s:fD)(xs:List Int):Prop:=Sl u32 1 W h s xs
theorem Nums.at(b:Nums W h s xs)(hi:i<xs.length):∃a,s.a=some a/\¬W a.block/\aZ h (adr a (((i:Int)).toNat*1))=some (.int .u32 xs[i]):=
 b.at0 (g:=λx=>.int .u32 x) (af hi)
theorem P1{s':fD}{ys:List Int}(d:Nums W h s xs)(j:Nums W' h s' ys)(q:xs.length<=4611686018427387904)(f:K (decide (xs=ys)) h):
  gl 36 [.slice s.a s.len s.cap,.slice s'.a s'.len s'.cap] K h:=by
 refine dg (oM s s') wY Tryz.func36 Tryz.call36 ?_;dsimp only[oM,vK,cz,fj];refine eh (λc=>?_) (λg=>?_)
 .have:xs≠ys:=λe=>by
   rw[d.len,j.len,e]at c;simp at c
  rw[decide_eq_false this]at f;exact f
 .have n:xs.length=ys.length:=by
   rw[d.len,j.len]at g;have:(xs.length:Int)=ys.length:=by simpa using g
   omega
  refine ez (λ(i:Nat) (t:Int) h'=>t=(i:Int)/\h'=h/\i<=xs.length/\xs.take i=ys.take i) (λi=>xs.length-i) 0 ⟨rfl,rfl,aJ _,rfl⟩ ?_
  rintro I i t h' ⟨rfl,rfl,hi,m⟩ u;refine ar (λb=>?_) (λk=>?_)
  .rw[d.len]at b
   have b:i<xs.length:=a4
   obtain⟨a,v,_,hx⟩:=Nums.at d b;obtain⟨a',o,_,p⟩:=Nums.at j (n▸b);refine⟨by rw[d.len];omega,a,v,_,hx,by rw[j.len];omega,a',o,_,p,?_⟩
   refine eh (λc=>?_) (λg=>?_)
   .have:xs≠ys:=λe=>by subst e;simp at c
    rw[decide_eq_false this]at f;exact f
   .have g:xs[i]=ys[i]:=by simpa using g
    rw[bN b q];refine u (i+1) _ _ ⟨rfl,rfl,b,?_⟩ a4;rw[ax b,ax (n▸b),m,g]
  .rw[d.len]at k
   have:i=xs.length:=a4
   subst this;have:xs=ys:=by
    rw[bG,n,bG]at m;exact m
   rw[decide_eq_true this]at f;exact f
theorem Ht(d:Nums W h s xs)(k:xs.length<=4611686018427387904)(x:Int)(e:K (decide (x∈xs)) h):
  gl 126 [.slice s.a s.len s.cap,.int .u32 x] K h:=by
 refine dg (MA s x) Ww Tryz.func126 Tryz.call126 ?_;dsimp only[MA,vK,cz,fj];refine ez (λ(i:Nat) (t:Int) h'=>t=(i:Int)/\h'=h/\i<=xs.length/\x∉xs.take i) (λi=>xs.length-i) 0 ⟨rfl,rfl,aJ _,a6⟩ ?_
 rintro I i t h' ⟨rfl,rfl,hi,g⟩ m;refine ar (λb=>?_) (λf=>?_)
 .rw[d.len]at b
  have b:i<xs.length:=a4
  obtain⟨a,n,_,hx⟩:=Nums.at d b;refine⟨by rw[d.len];omega,a,n,_,hx,?_⟩;refine eh (λj=>?_) (λc=>?_)
  .have j:xs[i]=x:=by simpa using j
   rw[decide_eq_true (j▸aF b)]at e;exact e
  .have c:xs[i]≠x:=by simpa using c
   rw[bN b k];refine m (i+1) _ _ ⟨rfl,rfl,b,?_⟩ a4;rw[ax b];rw[aN,az,not_or];exact⟨g,Ne.symm c⟩
 .rw[d.len]at f
  have:i=xs.length:=a4
  subst this;rw[bG]at g;rw[decide_eq_false g]at e;exact e
theorem NA{f:Value}{p:Int->Bool}(St:dO)(e:∀h,St h->Nums W h s xs)
  (u:∀h x (K:Bool->dO),St h->x∈xs->(∀h',St h'->K (p x) h')->HV PG f [.int .u32 x] [.c .bool] K h)
  (v:xs.length<=4611686018427387904)(z:St h){K:Int->dO}(o:∀(n:Int) h',St h'->(n>=0↔∃x∈xs,p x=true)->K n h'):
  fK 252 [.slice s.a s.len s.cap,f] K h:=by
 refine lV s f ?_;dsimp only[iS,vK,cz,fj];refine ez (λ(i:Nat) (t:Int) h'=>t=(i:Int)/\St h'/\i<=xs.length/\∀x∈xs.take i,p x=false) (λi=>xs.length-i) 0 ⟨rfl,z,aJ _,a6⟩ ?_
 rintro I i t h' ⟨rfl,k,hi,j⟩ w;have d:=e _ k;refine ar (λb=>?_) (λg=>?_)
 .rw[d.len]at b
  have b:i<xs.length:=a4
  obtain⟨a,q,_,hx⟩:=Nums.at d b;refine⟨by rw[d.len];omega,a,q,_,hx,?_⟩;refine u _ _ _ k (aF b) λA c=>?_
  refine eh (λy=>?_) (λm=>?_)
  .exact o _ _ c ⟨λ_=>⟨_,aF b,y⟩,λ_=>a4⟩
  .rw[bN b v]
   refine w (i+1) _ _ ⟨rfl,c,b,?_⟩ a4;rw[ax b];intro x hx;rcases aN.1 hx with h|h
   .exact j x h
   .rw[az.1 h];exact m
 .rw[d.len]at g
  have:i=xs.length:=a4
  subst this;rw[bG]at j;exact o _ _ k ⟨λh=>a4,λ⟨x,hx,h⟩=>by rw[j x hx]at h;cases h⟩
theorem GU{b:Value}{p:Int->Bool}(St:dO)(a:∀h,St h->Nums W h s xs)
  (d:∀h x (K:Bool->dO),St h->x∈xs->(∀h',St h'->K (p x) h')->HV PG b [.int .u32 x] [.c .bool] K h)
  (c:xs.length<=4611686018427387904)(g:St h)(f:∀h',St h'->K (xs.any p) h'):
  gl 250 [.slice s.a s.len s.cap,b] K h:=by
 refine dg (kE s b) .nil Tryz.func250 Tryz.call250 ?_;unfold kE;refine NA St a d c g λn h' e c=>?_
 have:decide (n>=0)=xs.any p:=by
  rw[gN,decide_eq_true_iff,c,cq]
 rw[this];exact f _ e
theorem Dx(d:Nums W h s xs)(k:xs.length*4<=140737488355328){K:fD->dO}
  (g:∀s' h',OwnS u32 1 31 (λb=>h.size<=b) h' s' xs->Upd No h h'->(s.a=none->xs= [])->K s' h'):ce 93 [.slice s.a s.len s.cap] K h:=by
 refine dg (oN s) .nil Tryz.func93 Tryz.call93 ?_;unfold oN;refine eh (λi=>?_) (λc=>?_)
 .have i:s.a=none:=by simpa using i
  have hx:xs= []:=by
   by_cases hx:xs= []
   .exact hx
   .obtain⟨a,m,_⟩:=d.row hx
    rw[i]at m;cases m
  subst hx;exact g _ _ (OwnS.nil kz) (eM _ _) λ_=>rfl
 .have j:=d.upd (e9 No h [] 31) (λ_ h=>h.elim)
  refine⟨_,j.srow,?_⟩;refine AppP.own (f:=u32) (M:=λb=>h.size<=b) (xs:= []) (ys:=xs) ⟨rfl,kz,aj _,.inl rfl⟩ d.len rfl ?_ rfl a4 (by simpa using k) (by rw[dS];omega) λs' h' n o=>?_
  .clear g d j k
   induction xs with
   |nil=>rfl
   |cons x xs ih=>rw[aL];exact ih
  .refine g _ _ n ((e9 No h [] 31).trans o λb hb=>.inr hb) λe=>?_
   rw[e]at c;cases c
theorem VP(a:K false h):gl 274 [.int .u32 x] K h:=by
 refine dg (yZ x) .nil Tryz.func274 Tryz.call274 ?_;unfold yZ;rw[show(x !=x)=false by simp];exact a
theorem aag{y:Int}(a:K (decide (x<y)) h):gl 211 [.int .u32 x,.int .u32 y] K h:=by
 refine dg (Al x y) .nil Tryz.func211 Tryz.call211 ?_;unfold Al;refine VP ?_;exact ag.2 a
abbrev KE:KeyE Int:=aee .u32
abbrev dA:=List (Int×List Int)
def Rep(W:dx)(h:ad)(m:List (Int×fD))(L:dA):Prop:=
 ∀id,(∃s ps,bK m id=some s/\bK L id=some ps/\Nums W h s ps)\/(bK m id=none/\bK L id=none)
structure GraphAt(W:dx)(h:ad)(gp gm:Nat)(L:dA)(nx:Int):Prop where
 blk:h[gp]? =some (.cells #[.map (some gm),.int .u32 nx] 104 (0,0))
 map:∃m,MapAt KE sv h gm m/\Rep W h m L
 wp:W gp
 wm:W gm
 lt:∀b,W b->b<h.size
 nd:(L.map (·.1)).Nodup
theorem Rep.upd{L:dA}(r:Rep W h m L)(k:Upd M h h')(hm:∀b,M b->W b\/h.size<=b):Rep W h' m L:=λid=>by
 rcases r id with⟨s,ps,c,e,d⟩|a
 .exact .inl ⟨s,ps,c,e,d.upd k hm⟩
 .exact .inr a
theorem GraphAt.upd{L:dA}(g:GraphAt W h gp gm L nx)(k:Upd M h h')(hm:∀b,M b->(W b/\b≠gp/\b≠gm)\/h.size<=b):GraphAt W h' gp gm L nx:=by
 have a:=g.lt;have i:¬M gp:=λe=>(hm _ e).elim (λe=>e.2.1 rfl) λe=>absurd (a _ g.wp) (dR.2 e)
 have d:¬M gm:=λe=>(hm _ e).elim (λe=>e.2.2 rfl) λe=>absurd (a _ g.wm) (dR.2 e)
 obtain⟨m,c,f⟩:=g.map;exact⟨k.get g.blk i,⟨m,c.upd k d,f.upd k λb hb=>(hm b hb).imp (·.1) id⟩,g.wp,g.wm,λb hb=>aD (a b hb) k.size,g.nd⟩
theorem GraphAt.upd0{L:dA}(g:GraphAt W h gp gm L nx)(k:Upd No h h'):GraphAt W h' gp gm L nx:=g.upd k λ_ h=>h.elim
theorem GraphAt.c0{L:dA}(g:GraphAt W h gp gm L nx):aZ h ⟨gp,0,none⟩=some (.map (some gm)):=by rw[bw g.blk];rfl
theorem GraphAt.c1{L:dA}(g:GraphAt W h gp gm L nx):aZ h ⟨gp,1,none⟩=some (.int .u32 nx):=by rw[bw g.blk];rfl
abbrev eR(L:dA):List Int:=L.map (·.1)
theorem XW{L:dA}:(bK L id).isSome=decide (id∈eR L):=by
 cases h:bK L id with
 |none=>rw[decide_eq_false (eH.1 h)];rfl
 |some v=>
  have:id∈eR L:=by
   by_cases hm:id∈eR L
   .exact hm
   .rw[eH.2 hm]at h;cases h
  rw[decide_eq_true this];rfl
theorem Rep.some{L:dA}(r:Rep W h m L)(id:Int):(bK m id).isSome=decide (id∈eR L):=by
 rw[<-XW];rcases r id with⟨s,ps,b,a,_⟩|⟨b,a⟩<;>rw[b,a]<;>rfl
theorem Rep.len{L:dA}(r:Rep W h m L)(a:(m.map (·.1)).Nodup)(c:(eR L).Nodup):m.length=L.length:=by
 have:(m.map (·.1)).Perm (eR L):=by
  rw[List.perm_ext_iff_of_nodup a c];intro id;have:=r.some id;have b:id∈m.map (·.1)↔(bK m id).isSome=true:=by
   cases hl:bK m id with
   |none=>simp[eH.1 hl]
   |some v=>
    simp only[Option.isSome_some,iff_true];by_cases hm:id∈m.map (·.1)
    .exact hm
    .rw[eH.2 hm]at hl;cases hl
  rw[b,this,decide_eq_true_iff]
 have:=this.length_eq;simpa using this
def adm:List Int->Bool
 | [a,b]=>a==b
 |_=>false
def wM(ps:List Int):Int:=if ps.length>2\/adm ps=true then 1 else 0
def pH(L:dA)(ps:List Int):Int:=if ps.any (λp=> !decide (p∈eR L))then 4 else if L.length>=1024 then 6 else 0
theorem NJ{L:dA}(g:GraphAt W h gp gm L nx)(id:Int)(b:K (decide (id∈eR L)) h):
  gl 97 [gZ gp,.int .u32 id] K h:=by
 refine dg (wz (some ⟨gp,0,none⟩) id) .nil Tryz.func97 Tryz.call97 ?_;dsimp only[wz,Wj,cz,cJ];obtain⟨m,hm,a⟩:=g.map;refine eh (λe=>by cases e) λ_=>⟨_,rfl,_,g.c0,_,_,hm.get id ⟨none,0,0⟩,?_⟩
 rw[a.some id];exact b
theorem aat{L:dA}(g:GraphAt W h gp gm L nx){K:Int->dO}(b:K (L.length:Int) h):
  fK 48 [gZ gp] K h:=by
 refine dg (ww (some ⟨gp,0,none⟩)) .nil Tryz.func48 Tryz.call48 ?_;dsimp only[ww,cz,cJ];obtain⟨m,hm,a⟩:=g.map;refine eh (λe=>by cases e) λ_=>⟨_,rfl,_,g.c0,_,hm.len,?_⟩
 rw[a.len hm.nodup g.nd];exact b
theorem X2{L:dA}(g:GraphAt W h gp gm L nx){K:Int->dO}(a:K nx h):
  wO 49 [gZ gp] K h:=by
 refine dg (vg (some ⟨gp,0,none⟩)) .nil Tryz.func49 Tryz.call49 ?_;dsimp only[vg,xG,ey,cJ];exact eh (λe=>by cases e) λ_=>⟨_,rfl,_,g.c1,a⟩
theorem aas{p:aT}(d:Nums W h s ps){K:Int->dO}(c:K (wM ps) h):
  fK 178 [.pointer p,.slice s.a s.len s.cap] K h:=by
 refine dg (wt p s) En Tryz.func178 Tryz.call178 ?_;dsimp only[wt,aaR,cz,fj];refine eQ (ar (λg=>?_) λm=>eh (λf=>?_) λb=>?_)
 .rw[d.len]at g
  rw[show wM ps=1 from if_pos (.inl a4)]at c
  exact ay.2 c
 .rw[d.len]at f
  have f:ps.length=2:=by
   have:(ps.length:Int)=2:=by simpa using f
   omega
  obtain⟨a,o,_,hx⟩:=Nums.at d (i:=0) a4;obtain⟨a',k,_,n⟩:=Nums.at d (i:=1) a4;refine⟨by rw[d.len];omega,a,o,_,hx,by rw[d.len];omega,a',k,_,n,?_⟩
  have e:wM ps=if(ps[0]==ps[1])=true then 1 else 0:=by
   match ps,f with
   | [x,y],_=>simp[wM,adm]
  rw[e]at c;exact eh (λj=>by rw[if_pos j]at c;exact c) λj=>by rw[if_neg (by rw[j];decide)]at c;exact c
 .rw[d.len]at m b
  have b:ps.length≠2:=λe=>by rw[e]at b;exact absurd b a8
  have hd:adm ps=false:=by
   match ps,b with
   | [],_=>rfl
   | [_],_=>rfl
   | [_,_],h=>exact absurd rfl h
   |_::_::_::_,_=>rfl
  rw[show wM ps=0 from if_neg (by rw[hd];simp;omega)]at c
  exact ag.2 c
theorem X4{L:dA}(g:GraphAt W h gp gm L nx)(t:Nums W h s ps)(q:ps.length<=4611686018427387904)
  {K:Int->dO}(b:∀h',Upd No h h'->K (pH L ps) h'):fK 179 [gZ gp,.slice s.a s.len s.cap] K h:=by
 refine dg (ve (some ⟨gp,0,none⟩) s) .nil Tryz.func179 Tryz.call179 ?_;dsimp only[ve,cz,cJ];have f:=e9 No h [.pointer (some ⟨gp,0,none⟩)] 37;refine GU (p:=λp=> !decide (p∈eR L)) (λh'=>GraphAt W h' gp gm L nx/\Nums W h' s ps/\h'[h.size]? =some (.cells #[.pointer (some ⟨gp,0,none⟩)] 37 (0,0))/\Upd No h h') (λh' i=>i.2.1) ?_ q ⟨g.upd0 f,t.upd f λ_ h=>h.elim,cf h _ _,f⟩ ?_
 .rintro h' x K ⟨c,d,hb,a⟩ _ j
  refine HV.mk' (dg (sr x ⟨h.size,0,none⟩) .nil Tryz.func251 Tryz.call251 ?_);unfold sr iC;refine⟨_,by rw[bw hb];rfl,?_⟩
  exact NJ c x (j h' ⟨c,d,hb,a⟩)
 .rintro h' ⟨c,d,hb,a⟩
  obtain⟨m,hm,n⟩:=c.map;refine eh (λu=>?_) λe=>?_
  .rw[show pH L ps=4 from if_pos u]at b
   exact b h' a
  .refine⟨_,by rw[cG,bw hb];rfl,_,rfl,_,c.c0,_,hm.len,?_⟩
   rw[n.len hm.nodup c.nd];refine ar (λo=>?_) λk=>?_
   .rw[show pH L ps=6 from(if_neg (by rw[e];decide)).trans (if_pos a4)]at b
    exact b h' a
   .rw[show pH L ps=0 from(if_neg (by rw[e];decide)).trans (if_neg a4)]at b
    exact b h' a
def wN(L:dA)(id:Int)(ps:List Int):dA:=L.takeWhile (λv=>decide (v.1<id))++(id,ps)::L.dropWhile (λv=>decide (v.1<id))
def gu(L:dA)(nx:Int)(ps:List Int):(Int×Int)×dA×Int:=
 if wM ps≠0 then((0,wM ps),L,nx)else if pH L ps≠0 then((0,pH L ps),L,nx)else if nx>=2147483648 then((0,6),L,nx)else((nx,0),wN L nx ps,nx+1)
def abJ(L:dA)(nx:Int)(id:Int)(ps:List Int):Int×dA×Int:=
 if wM ps≠0\/id=0\/id>=2147483648\/ps.any (λp=>decide (p>=id))=true then(1,L,nx)else if id∈eR L then(7,L,nx)else if pH L ps≠0 then(pH L ps,L,nx)else(0,wN L id ps,if id+1>nx then id+1 else nx)
abbrev Cl(a b:Nat):Nat->Prop:=λx=>x=a\/x=b
theorem Mn[DecidableEq κ](l l':List (κ×β))(k:κ):bK (l++l') k=(bK l k).or (bK l' k):=by
 induction l with
 |nil=>simp[bK]
 |cons p l ih=>
  obtain⟨k',u⟩:=p;simp only[List.cons_append,bK,ih];split<;>simp
theorem VQ{L:dA}(b:id∉eR L)(j:Int):bK (wN L id ps) j=if j=id then some ps else bK L j:=by
 have c:∀p:Int×List Int->Bool,bK L j=(bK (L.takeWhile p) j).or (bK (L.dropWhile p) j):=λp=>by rw[<-Mn,gR]
 unfold wN;rw[Mn];simp only[bK];by_cases a:j=id
 .subst a
  have:bK (L.takeWhile λv=>decide (v.1<j)) j=none:=eH.2 λhm=>b (by
   obtain⟨x,hx,e⟩:=be.1 hm
   exact be.2 ⟨x,List.takeWhile_subset _ hx,e⟩)
  rw[this];simp
 .simp only[a,if_false]
  exact(c _).symm
theorem AE(L:dA)(id:Int)(ps:List Int):(wN L id ps).Perm ((id,ps)::L):=by
 unfold wN;refine List.perm_middle.trans ?_;rw[gR]
theorem insV_ids{L:dA}:(eR (wN L id ps)).Perm (id::eR L):=(AE L id ps).map _
theorem SH{L:dA}(h:(eR L).Nodup)(a:id∉eR L):(eR (wN L id ps)).Nodup:=by
 rw[insV_ids.nodup_iff];exact eP.2 ⟨a,h⟩
theorem Rep.put{L:dA}(r:Rep W h m L)(c:∀s xs,Nums W h s xs->Nums W h' s xs)(g:Nums W h' s ps)(f:id∉eR L):Rep W h' (lU m id s) (wN L id ps):=λj=>by
 rw[xF,VQ f];by_cases a:j=id
 .simp only[a,if_true];exact .inl ⟨s,ps,rfl,rfl,g⟩
 .simp only[a,if_false]
  rcases r j with⟨s,ps,e,d,b⟩|i
  .exact .inl ⟨s,ps,e,d,c s ps b⟩
  .exact .inr i
theorem GraphAt.ne{L:dA}(g:GraphAt W h gp gm L nx):gm≠gp:=λe=>by
 obtain⟨m,⟨ms,c,hm,_⟩,_⟩:=g.map;have:=hm.here;rw[e,g.blk]at this;cases this
theorem GraphAt.put{L:dA}(g:GraphAt W h gp gm L nx)(i:Nums W h s ps)(n:id∉eR L)(n':Int):
  GraphAt W (hset (nM h gm (.int .u32 id) (sv s)) ⟨gp,1,none⟩ (.int .u32 n')) gp gm (wN L id ps) n'/\Upd (Cl gp gm) h (hset (nM h gm (.int .u32 id) (sv s)) ⟨gp,1,none⟩ (.int .u32 n'))/\
   Wr (nM h gm (.int .u32 id) (sv s)) ⟨gp,1,none⟩/\aZ (nM h gm (.int .u32 id) (sv s)) ⟨gp,1,none⟩=some (.int .u32 nx)/\Upd (Cl gp gm) h (nM h gm (.int .u32 id) (sv s)):=by
 obtain⟨m,hm,o⟩:=g.map;have f:=g.ne;have k1:Upd (· =gm) h (nM h gm (.int .u32 id) (sv s)):=oF h _ _ rfl
 have a:=k1.get g.blk (Ne.symm f);have j:Upd (· =gp) (nM h gm (.int .u32 id) (sv s)) (hset (nM h gm (.int .u32 id) (sv s)) ⟨gp,1,none⟩ (.int .u32 n')):=Upd.hset _ _ rfl
 have d:Upd (Cl gp gm) h (nM h gm (.int .u32 id) (sv s)):=k1.mono λb hb=>.inl (.inr hb)
 have k:Upd (Cl gp gm) h (hset (nM h gm (.int .u32 id) (sv s)) ⟨gp,1,none⟩ (.int .u32 n')):=d.trans j λb hb=>.inl (.inl hb)
 have c:∀b,Cl gp gm b->W b\/h.size<=b:=λb hb=>.inl (hb.elim (λe=>e▸g.wp) λe=>e▸g.wm)
 refine⟨⟨?_,⟨_,(MapAt.put hm id s).upd j f,o.put (λs xs i=>i.upd k c) (i.upd k c) n⟩,g.wp,g.wm,λb hb=>aD (g.lt b hb) k.size,SH g.nd n⟩,k,fk a a6,by rw[bw a];rfl,d⟩
 rw[kU a,eE a];rfl
theorem aav{L:dA}(g:GraphAt W h gp gm L nx)(C:0<=nx)(o:nx∉eR L)(q:Nums W h s ps)(y:ps.length*4<=140737488355328)
  {K:Int×Int->dO}(c:∀h',Upd (Cl gp gm) h h'->GraphAt W h' gp gm (gu L nx ps).2.1 (gu L nx ps).2.2->K (gu L nx ps).1 h'):
  Hv 116 [gZ gp,.slice s.a s.len s.cap] K h:=by
 refine dg (wA (some ⟨gp,0,none⟩) s) .nil Tryz.func116 Tryz.call116 ?_;dsimp only[wA,cz,y7,dd,cJ,xG,ey];refine eh (λe=>by cases e) λ_=>aas q ?_
 refine eh (λa=>?_) λa=>?_
 .have a:wM ps≠0:=by simpa using a
  rw[show gu L nx ps=_ from if_pos a]at c
  exact c h (eM _ _) g
 .have a:¬wM ps≠0:=by simpa using a
  refine X4 g q a4 λh' i=>?_
  refine eh (λd=>?_) λd=>?_
  .have d:pH L ps≠0:=by simpa using d
   rw[show gu L nx ps=_ from(if_neg a).trans (if_pos d)]at c
   exact c h' i.wide (g.upd0 i)
  .have d:¬pH L ps≠0:=by simpa using d
   have f:=g.upd0 i;have n:=q.upd i λ_ h=>h.elim
   refine⟨_,rfl,_,f.c1,ar (λk=>?_) λk=>?_⟩
   .rw[show gu L nx ps=_ from(if_neg a).trans ((if_neg d).trans (if_pos k))]at c
    exact c h' i.wide f
   .refine⟨_,rfl,_,f.c1,_,rfl,_,f.c0,Dx n y λs' p x j _=>?_⟩
    have t:=f.upd0 j;obtain⟨m,hm,D⟩:=t.map;have u:Nums W p s' ps:=x.sl λb hb _ z=>absurd (f.lt b z) (dR.2 hb)
    obtain⟨w,A,v,B,_⟩:=t.put u o (nx+1);refine⟨t.c0,_,rfl,hm.isMap,_,rfl,_,B,_,rfl,v,?_⟩;rw[show ac .u32 (nx+1)=nx+1 from Go.IntWalk.u32_in _ a4]
    rw[show gu L nx ps=_ from(if_neg a).trans ((if_neg d).trans (if_neg k))]at c
    exact c _ ((i.wide.tr j.wide).tr A) w
theorem PW{L:dA}(g:GraphAt W h gp gm L nx)(id:Int)(n:∀v∈L,v.2.length*4<=140737488355328)
  {K:fD->dO}(c:∀s' h',OwnS u32 1 31 (λb=>h.size<=b) h' s' ((bK L id).getD [])->Upd No h h'->K s' h'):
  ce 53 [gZ gp,.int .u32 id] K h:=by
 refine dg (qH (some ⟨gp,0,none⟩) id) .nil Tryz.func53 Tryz.call53 ?_;dsimp only[qH,Wj,cz,cJ];obtain⟨m,hm,k⟩:=g.map;refine eh (λe=>by cases e) λ_=>⟨_,rfl,_,g.c0,_,_,hm.get id ⟨none,0,0⟩,?_⟩
 rcases k id with⟨s,ps,i,a,j⟩|⟨i,a⟩
 .rw[i]
  rw[a]at c;exact Dx j (n _ ((eS g.nd).1 a)) λs' h' d f _=>c s' h' d f
 .rw[i]
  rw[a]at c;exact Dx (W:=No) (xs:= []) (Sl.nil kz) a6 λs' h' d f _=>c s' h' d f
theorem aar{K:aT->dO}(d:∀h',Upd No h h'->GraphAt (Cl (h.size+1) h.size) h' (h.size+1) h.size [] 1->K (some ⟨h.size+1,0,none⟩) h'):
  fu 60 [] K h:=by
 refine dg GE .nil Tryz.func60 Tryz.call60 ?_;unfold GE;have k1:=Upd.push No h (.map #[] 0);have hm:MapAt KE sv (h.push (.map #[] 0)) h.size []:=MapAt.new h;have c:=e9 No (h.push (.map #[] 0)) [.map (some h.size),.int .u32 1] 104;have a:(h.push (.map #[] 0)).size=h.size+1:=a6
 have:=d _ (k1.tr c) ⟨by
  have:=cf (h.push (.map #[] 0)) [.map (some h.size),.int .u32 1] 104
  rw[a]at this;exact this,⟨[],hm.upd c id,λid=>.inr ⟨rfl,rfl⟩⟩,.inl rfl,.inr rfl,λb hb=>by rw[dS,a];rcases hb with rfl|rfl<;>omega,List.nodup_nil⟩
 rw[<-a]at this;exact this
abbrev vf(v:Int×fD):c4:= [.int .u32 v.1,sv v.2]
theorem OH(v:Int×fD):(vf v).length=2/\0<2:=⟨rfl,a4⟩
def Par(W:dx)(h:ad):List (Int×fD)->dA->Prop
 | [],[]=>True
 |v::l,u::m=>v.1=u.1/\Nums W h v.2 u.2/\Par W h l m
 |_,_=>False
theorem Par.len:∀{l:List (Int×fD)} {m:dA},Par W h l m->l.length=m.length
 | [],[],_=>rfl
 |_::_,_::_,p=>congrArg (· +1) p.2.2.len
 | [],_::_,p=>p.elim
 |_::_,[],p=>p.elim
theorem Par.get:∀{l:List (Int×fD)} {m:dA},Par W h l m->∀{i:Nat} (hl:i<l.length) (hm:i<m.length),l[i].1=m[i].1/\Nums W h l[i].2 m[i].2
 |v::l,u::m,p,0,_,_=>⟨p.1,p.2.1⟩
 |v::l,u::m,p,i+1,hl,hm=>p.2.2.get (by simpa using hl) (by simpa using hm)
theorem Par.app:∀{l l':List (Int×fD)} {m m':dA},Par W h l m->Par W h l' m'->Par W h (l++l') (m++m')
 | [],_,[],_,_,q=>q
 |_::_,_,_::_,_,p,q=>⟨p.1,p.2.1,p.2.2.app q⟩
 | [],_,_::_,_,p,_=>p.elim
 |_::_,_,[],_,p,_=>p.elim
theorem Par.take:∀{l:List (Int×fD)} {m:dA},Par W h l m->∀i,Par W h (l.take i) (m.take i)
 | [],[],_,i=>by simp[Par]
 |_::_,_::_,_,0=>trivial
 |_::_,_::_,p,i+1=>⟨p.1,p.2.1,p.2.2.take i⟩
 | [],_::_,p,_=>p.elim
 |_::_,[],p,_=>p.elim
theorem Par.drop:∀{l:List (Int×fD)} {m:dA},Par W h l m->∀i,Par W h (l.drop i) (m.drop i)
 | [],[],_,i=>by simp[Par]
 |_::_,_::_,p,0=>p
 |_::_,_::_,p,i+1=>p.2.2.drop i
 | [],_::_,p,_=>p.elim
 |_::_,[],p,_=>p.elim
theorem Par.upd(k:Upd M h h')(hm:∀b,M b->W b\/h.size<=b):∀{l:List (Int×fD)} {m:dA},Par W h l m->Par W h' l m
 | [],[],_=>trivial
 |_::_,_::_,p=>⟨p.1,p.2.1.upd k hm,Par.upd k hm p.2.2⟩
 | [],_::_,p=>p.elim
 |_::_,[],p=>p.elim
structure RefAt(W:dx)(h:ad)(xp:Nat)(L:dA)(nx:Int):Prop where
 blk:∃s t Ls,h[xp]? =some (.cells #[sv s,.int .u32 nx] t (0,0))/\Sl vf 2 W h s Ls/\Par W h Ls L/\s.len<=s.cap
 wp:W xp
 lt:∀b,W b->b<h.size
theorem RefAt.upd{a:Nat}{L:dA}(g:RefAt W h a L nx)(k:Upd M h h')(hm:∀b,M b->(W b/\b≠a)\/h.size<=b):RefAt W h' a L nx:=by
 obtain⟨s,t,Ls,i,f,d,m⟩:=g.blk;have j:¬M a:=λe=>(hm _ e).elim (λe=>e.2 rfl) λe=>absurd (g.lt _ g.wp) (dR.2 e)
 have c:∀b,M b->W b\/h.size<=b:=λb hb=>(hm b hb).imp (·.1) id
 exact⟨⟨s,t,Ls,k.get i j,f.upd k c,Par.upd k c d,m⟩,g.wp,λb hb=>aD (g.lt b hb) k.size⟩
theorem RefAt.upd0{a:Nat}{L:dA}(g:RefAt W h a L nx)(k:Upd No h h'):RefAt W h' a L nx:=g.upd k λ_ h=>h.elim
theorem MV{Ls:List (Int×fD)}(b:Sl vf 2 W h s Ls)(hi:i<Ls.length):
  ∃a,s.a=some a/\aZ h (adr (adr a (((i:Int)).toNat*2)) 0)=some (.int .u32 Ls[i].1)/\aZ h (adr (adr a (((i:Int)).toNat*2)) 1)=some (.slice Ls[i].2.a Ls[i].2.len Ls[i].2.cap):=by
 obtain⟨a,c,_,hv⟩:=b.at (af hi);exact⟨a,c,hv 0 _ rfl,hv 1 _ rfl⟩
theorem Rv(h:ad)(t:TypeId)(a b:Value)(v:Int×fD):qV (hnew h [a,b] t) (some (aR h)) 0 [.int .u32 v.1,.slice v.2.a v.2.len v.2.cap]/\
  (fS (hnew h [a,b] t) (aR h) 0 [.int .u32 v.1,.slice v.2.a v.2.len v.2.cap])[h.size]? =some (.cells #[.int .u32 v.1,.slice v.2.a v.2.len v.2.cap] t (0,0))/\
  Upd No h (fS (hnew h [a,b] t) (aR h) 0 [.int .u32 v.1,.slice v.2.a v.2.len v.2.cap]):=by
 have hb:=cf h [a,b] t;refine⟨.inr ⟨_,rfl,λj c=>?_⟩,?_,?_⟩
 .rw[cG,bZ]
  exact fk hb (by simp at c⊢;omega)
 .rw[cG,iE _ _ 0 0 [a,b] hb a6,eE hb];rfl
 .rw[cG,iE _ _ 0 0 [a,b] hb a6]
  exact(e9 No h [a,b] t).trans (M':=(· =h.size)) (Upd.set _ _ rfl) λb hb=>.inr (cL hb.symm)
theorem CC{q:Nat}{L:dA}(g:RefAt W h q L nx)(y:L.length<=4611686018427387904)(id:Int)
  {K:Int->dO}(v:∀(n:Int) h',Upd No h h'->(n>=0↔id∈eR L)->K n h'):fK 76 [gZ q,.int .u32 id] K h:=by
 refine dg (JL (some ⟨q,0,none⟩) id) Tq Tryz.func76 Tryz.call76 ?_;dsimp only[JL,ff,Qq,ey,nv,bR,Kp,OF,jX,fj,sM,cJ];obtain⟨s,t,Ls,z,j,k,_⟩:=g.blk;refine⟨_,rfl,s,by rw[bZ,bw z];rfl,?_⟩
 have d:=k.len;refine ez (λ(i:Nat) (t:Int) h'=>t=(i:Int)/\Upd No h h'/\i<=L.length/\id∉(eR L).take i) (λi=>L.length-i) 0 ⟨rfl,eM _ _,aJ _,a6⟩ ?_
 rintro I i t h' ⟨rfl,f,hi,p⟩ A;have m:=j.upd f λ_ h=>h.elim
 have x:=Par.upd f (λ_ h=>h.elim) k
 refine ar (λb=>?_) λo=>?_
 .rw[j.len,d]at b
  have b:i<L.length:=a4
  obtain⟨a,B,c0,c1⟩:=MV m (d▸b);obtain⟨C,D,w⟩:=Rv h' 129 (.int .u32 0) (.slice none 0 0) (Ls[i]'(d▸b));refine⟨by rw[j.len,d];omega,a,B,_,c0,_,c1,C,_,lz D 0,?_⟩;have e:=(k.get (d▸b) b).1;refine eh (λu=>?_) λc=>?_
  .have u:L[i].1=id:=by rw[<-e];simpa using u
   exact v _ _ (f.tr w) ⟨λ_=>be.2 ⟨_,aF b,u⟩,λ_=>a4⟩
  .have c:L[i].1≠id:=by rw[<-e];simpa using c
   rw[bN b y];refine A (i+1) _ _ ⟨rfl,f.tr w,b,?_⟩ a4;rw[ax (by simpa using b),aN,az,not_or];exact⟨p,by rw[List.getElem_map];exact Ne.symm c⟩
 .rw[j.len,d]at o
  have:i=L.length:=a4
  rw[bd (by simp[this])]at p;exact v _ _ f ⟨λh=>a4,λh=>absurd h p⟩
theorem Zp(d:Nums W h s ps){K:Int->dO}(c:K (wM ps) h):
  fK 189 [.slice s.a s.len s.cap] K h:=by
 refine dg (Mz s) Wt Tryz.func189 Tryz.call189 ?_;dsimp only[Mz,aaR,cz,fj];refine eQ (ar (λg=>?_) λm=>eh (λf=>?_) λb=>?_)
 .rw[d.len]at g
  rw[show wM ps=1 from if_pos (.inl a4)]at c
  exact ay.2 c
 .rw[d.len]at f
  have f:ps.length=2:=by
   have:(ps.length:Int)=2:=by simpa using f
   omega
  obtain⟨a,o,_,hx⟩:=Nums.at d (i:=0) a4;obtain⟨a',k,_,n⟩:=Nums.at d (i:=1) a4;refine⟨by rw[d.len];omega,a,o,_,hx,by rw[d.len];omega,a',k,_,n,?_⟩
  have e:wM ps=if(ps[0]==ps[1])=true then 1 else 0:=by
   match ps,f with
   | [x,y],_=>simp[wM,adm]
  rw[e]at c;exact eh (λj=>by rw[if_pos j]at c;exact c) λj=>by rw[if_neg (by rw[j];decide)]at c;exact c
 .rw[d.len]at m b
  have b:ps.length≠2:=λe=>by rw[e]at b;exact absurd b a8
  have hd:adm ps=false:=by
   match ps,b with
   | [],_=>rfl
   | [_],_=>rfl
   | [_,_],h=>exact absurd rfl h
   |_::_::_::_,_=>rfl
  rw[show wM ps=0 from if_neg (by rw[hd];simp;omega)]at c
  exact ag.2 c
theorem U0{y:Nat}{L:dA}(g:RefAt W h y L nx)(B:L.length<=4611686018427387904)(q:Nums W h s ps)(C:ps.length<=4611686018427387904)
  {K:Int->dO}(j:∀h',Upd No h h'->K (pH L ps) h'):fK 190 [gZ y,.slice s.a s.len s.cap] K h:=by
 refine dg (Gr (some ⟨y,0,none⟩) s) QJ Tryz.func190 Tryz.call190 ?_;dsimp only[Gr,iC,vK,cz,fj,sM,bR,cJ];refine ez (λ(i:Nat) (t:Int) h'=>t=(i:Int)/\Upd No h h'/\i<=ps.length/\∀p∈ps.take i,p∈eR L) (λi=>ps.length-i) 0 ⟨rfl,eM _ _,aJ _,a6⟩ ?_
 rintro I i t h' ⟨rfl,k,hi,x⟩ E;have v:Nums W h' s ps:=q.upd k λ_ h=>h.elim
 have A:=g.upd0 k;refine ar (λb=>?_) λw=>?_
 .rw[q.len]at b
  have b:i<ps.length:=a4
  obtain⟨a,F,_,hx⟩:=Nums.at v b;refine⟨by rw[q.len];omega,a,F,_,hx,CC A B _ λn z o m=>ar (λu=>?_) λu=>?_⟩
  .have c:ps[i]∉eR L:=λhm=>by have:=m.2 hm;omega
   rw[show pH L ps=4 from if_pos (cq.2 ⟨_,aF b,by simpa using c⟩)]at j
   exact j _ (k.tr o)
  .rw[bN b C]
   refine E (i+1) _ _ ⟨rfl,k.tr o,b,?_⟩ a4;rw[ax b];intro p d;rcases aN.1 d with f|f
   .exact x p f
   .rw[az.1 f];exact m.1 a4
 .rw[q.len]at w
  have:i=ps.length:=a4
  subst this;rw[bG]at x;have c:¬(ps.any (λp=> !decide (p∈eR L)))=true:=λe=>by
   obtain⟨p,d,f⟩:=cq.1 e;simp[x p d]at f
  obtain⟨s',t,Ls,D,z,u,_⟩:=A.blk;refine⟨_,rfl,s',by rw[bZ,bw D];rfl,?_⟩
  rw[z.len,u.len];refine ar (λf=>?_) λf=>?_
  .rw[show pH L ps=6 from(if_neg c).trans (if_pos a4)]at j
   exact j _ k
  .rw[show pH L ps=0 from(if_neg c).trans (if_neg a4)]at j
   exact j _ k
theorem qa:∀xs:List Int,cH (xs.flatMap u32)=true
 | []=>rfl
 |x::xs=>by rw[aL];exact qa xs
abbrev parV(L:dA)(id:Int):List Int:=(bK L id).getD []
inductive UpG(L:dA):Int->Int->Prop
 |refl {a:Int}:a∈eR L->UpG L a a
 |step {a p b:Int}:a∈eR L->p∈parV L a->UpG L p b->UpG L a b
theorem UpG.left{L:dA}(h:UpG L a b):a∈eR L:=by cases h<;>assumption
theorem GraphAt.more{a:ad}{L:dA}(g:GraphAt W a gp gm L nx)(k:Upd No a h)(c:∀b,Q b->a.size<=b/\b<h.size):GraphAt (λb=>W b\/Q b) h gp gm L nx:=by
 obtain⟨m,hm,f⟩:=g.map;refine⟨k.get0 g.blk,⟨m,hm.upd k id,λj=>?_⟩,.inl g.wp,.inl g.wm,λb hb=>hb.elim (λhb=>aD (g.lt b hb) k.size) λhb=>(c b hb).2,g.nd⟩
 rcases f j with⟨s,ps,i,e,d⟩|a
 .exact .inl ⟨s,ps,i,e,(d.less λb hb=>hb.imp id λhb=>(c b hb).1).upd k λ_ h=>h.elim⟩
 .exact .inr a
theorem GraphAt.less{L:dA}(g:GraphAt W h gp gm L nx)(d:∀b,W' b->W b)(c:W' gp)(a:W' gm):GraphAt W' h gp gm L nx:=by
 obtain⟨m,hm,i⟩:=g.map;refine⟨g.blk,⟨m,hm,λj=>?_⟩,c,a,λb hb=>g.lt b (d b hb),g.nd⟩
 rcases i j with⟨s,ps,c,a,f⟩|e
 .exact .inl ⟨s,ps,c,a,f.less λb hb=>.inl (d b hb)⟩
 .exact .inr e
theorem OwnS.popG{α:Type}{f:α->c4}{sz:Nat}{t:TypeId}{a:aT}{len cap:Nat}{xs:List α}{x:α}(d:OwnS f sz t M h ⟨a,len,cap⟩ (xs++ [x]))(k:n=xs.length):OwnS f sz t M h ⟨bj a 0 cap sz,n-0,cap-0⟩ xs:=by
 have m:len=(xs++ [x]).length:=d.len;have i:len<=cap:=d.cap;rw[ae,aG]at m;subst k;refine⟨rfl,d.ne,by show xs.length-0<=cap-0;omega,?_⟩
 rcases d.blk with j|⟨b,c,e,hb,hc,g⟩
 .have j:cap=0:=j
  omega
 .have e:a=some ⟨b,0,none⟩:=e
  have g:c.length=(cap-len)*sz:=g;refine .inr ⟨b,f x++c,?_,hb,?_,?_⟩
  .show bj a 0 cap sz=_
   unfold bj;rw[if_neg a4,e];simp
  .rw[hc,List.flatMap_append,aL,List.flatMap_nil,aX,List.append_assoc]
  .show(f x++c).length=(cap-0-(xs.length-0))*sz
   rw[ae,(d.ne x).1,g,show cap-0-(xs.length-0)=(cap-len)+1 by omega,Nat.succ_mul];omega
theorem mM:∀{l l':List Int},l.Nodup->(∀x∈l,x∈l')->l.length<=l'.length
 | [],_,_,_=>aJ _
 |x::l,l',hn,h=>by
  rw[eP]at hn;have hx:=h x (aq ..);have:=mM (l':=l'.erase x) hn.2 λy c=>(List.mem_erase_of_ne (a:=y) (b:=x) λe=>hn.1 (by rw[<-e];exact c)).2 (h y (aA _ c))
  rw[List.length_erase_of_mem hx]at this;have:0<l'.length:=List.length_pos_of_mem hx;rw[av];omega
theorem L2{L:dA}(g:GraphAt W h gp gm L nx)(hQ:∀b,Q b->W b/\b≠gp/\b≠gm)(hP:∀v∈L,v.2.length<=2)(hL:L.length<=100000)
  {start:List Int}(Z:OwnS u32 1 31 (λb=>Q b\/h.size<=b) h s start)(hn:start.length<=1000000000)
  {K:Option Nat->dO}(hk:∀r h' m,h.size<=r->MapAt KE (λn:Int=>.int .i64 n) h' r m->(∀y,y∈m.map (·.1)↔∃s∈start,UpG L s y)->(∀y v,bK m y=some v->v=1)->Upd Q h h'->K (some r) h'):
  SL 44 [gZ gp,.slice s.a s.len s.cap] K h:=by
 refine dg (tN (some ⟨gp,0,none⟩) s) A6 Tryz.func44 Tryz.call44 ?_;dsimp only[tN,iC,vK,cz,fj,nV,Wj,cJ,YW];have k0:=Upd.push No h (.map #[] 0);have hPl:∀id,(parV L id).length<=2:=λid=>by
  cases hl:bK L id with
  |none=>simp[parV,hl]
  |some ps=>simp only[parV,hl,Option.getD_some];exact hP _ ((eS g.nd).1 hl)
 refine ez (λ(q:List Int×List (Int×Int)) (t:fD) h'=>Upd (λb=>Q b\/h.size<=b) h h'/\OwnS u32 1 31 (λb=>(Q b\/h.size<=b)/\b≠h.size) h' t q.1/\MapAt KE (λn:Int=>.int .i64 n) h' h.size q.2/\
   (∀y v,bK q.2 y=some v->v=1)/\q.1.length<=start.length+2*q.2.length/\
   (∀y∈q.2.map (·.1),y∈eR L/\∃s∈start,UpG L s y)/\(∀x∈q.1,∀y,UpG L x y->∃s∈start,UpG L s y)/\
   (∀s∈start,s∈eR L->s∈q.2.map (·.1)\/s∈q.1)/\(∀y∈q.2.map (·.1),∀p∈parV L y,p∈eR L->p∈q.2.map (·.1)\/p∈q.1))
  (λq=>(L.length-q.2.length)*3+q.1.length) (start,[]) ?_ ?_
 .refine⟨k0.wide,?_,MapAt.new h,λy v e=>(by cases e),Nat.le_add_right _ _,λy j=>(by cases j),λx hx y j=>⟨x,hx,j⟩,λs Z _=>.inr Z,λy j=>(by cases j)⟩
  have:=Z.upd k0 λ_ _=>id
  refine⟨this.len,this.ne,this.cap,?_⟩;rcases Z.blk with hb|⟨b,rest,e1,e2,e3,e4⟩
  .exact .inl hb
  .exact .inr ⟨b,rest,e1,⟨e2,Nat.ne_of_lt (bB e3)⟩,k0.get0 e3,e4⟩
 .rintro I ⟨u,m⟩ t h' ⟨hu,P,hm,k,o,d,F,f,E⟩ hI
  have g1:=g.upd hu λb hb=>hb.imp (hQ b) id
  (try simp only at P hm k o d F f E)
  refine ar (λJ=>?_) λN=>?_
  .rw[P.len]at J
   obtain⟨xs,x,rfl⟩:∃xs x,u=xs++ [x]:=by
    rcases List.eq_nil_or_concat u with e|⟨xs,x,e⟩
    .subst e;simp at J
    .exact⟨xs,x,by rw[e,List.concat_eq_append]⟩
   have Y:t.len=xs.length+1:=by rw[P.len];simp
   have hw:ac .i64 ((t.len:Int)-1)=(xs.length:Int):=by
    rw[Go.IntWalk.i64_in _ ?_,Y]
    .omega
    .rw[Y];simp only[ae,aG]at o
     have:m.length<=L.length:=by
      have:=mM (hm.nodup) (λy j=>(d y j).1)
      simpa using this
     omega
   rw[hw];have hmL:m.length<=L.length:=by
    have:=mM (hm.nodup) (λy j=>(d y j).1)
    simpa using this
   have hsl:Nums No h' t (xs++ [x]):=P.sl λ_ _ _=>id
   obtain⟨a,ha,_,hx⟩:=Nums.at hsl (i:=xs.length) a6;rw[show(xs++ [x])[xs.length]=x by simp]at hx
   have hcap:=P.cap;have hop:OwnS u32 1 31 (λb=>(Q b\/h.size<=b)/\b≠h.size) h' ⟨bj t.a 0 t.cap 1,((xs.length:Int)).toNat-0,t.cap-0⟩ xs:=OwnS.popG P a6
   refine⟨by rw[Y];omega,a,ha,_,hx,a4,?_⟩
   have skip:(¬x∈eR L\/x∈m.map (·.1))->I ⟨bj t.a 0 t.cap 1,((xs.length:Int)).toNat-0,t.cap-0⟩ h':=λhsk=>by
    refine hI (xs,m) _ _ ⟨hu,hop,hm,k,?_,d,λz N=>F z (by simp[N]),λs Z w=>?_,λy j p hp B=>?_⟩ a6
    .simp only[ae,aG]at o⊢;omega
    .rcases f s Z w with c|c
     .exact .inl c
     .rcases aN.1 c with c|c
      .exact .inr c
      .rw[az.1 c]at w⊢
       exact .inl (hsk.resolve_left λh=>h w)
    .rcases E y j p hp B with c|c
     .exact .inl c
     .rcases aN.1 c with c|c
      .exact .inr c
      .rw[az.1 c]at B⊢
       exact .inl (hsk.resolve_left λh=>h B)
   refine eF (λt2 H=>H=h'/\(t2=true->(¬x∈eR L\/x∈m.map (·.1)))/\(t2=false->x∈eR L/\x∉m.map (·.1))) (λR hR=>?_) ?_
   .refine NJ g1 x (eh (λc=>?_) λc=>?_)
    .have c:¬x∈eR L:=by simpa using c
     exact hR _ _ ⟨rfl,λ_=>.inl c,λe=>by cases e⟩
    .have c:x∈eR L:=by simpa using c
     refine⟨_,_,hm.get x 0,hR _ _ ⟨rfl,?_⟩⟩;cases hl:bK m x with
     |none=>exact⟨λe=>(by simp at e),λ_=>⟨c,eH.1 hl⟩⟩
     |some v=>
      have:=k x v hl;subst this;refine⟨λ_=>.inr ?_,λe=>(by simp at e)⟩
      exact be.2 ⟨_,(eS hm.nodup).1 hl,rfl⟩
   .rintro t2 H ⟨rfl,e1,e2⟩
    refine eh (λe=>skip (e1 e)) λe=>?_
    obtain⟨C,V⟩:=e2 e;refine⟨_,_,hm.get x 0,_,rfl,hm.isMap,?_⟩;rw[eH.2 V,show ac .i64 ((none:Option Int).getD 0+1)=1 by decide]
    have X:=hm.put x 1;have k1:Upd (λb=>Q b\/h.size<=b) H (nM H h.size (.int .u32 x) (.int .i64 1)):=oF _ _ _ (.inr (aj _))
    have k1':Upd (· =h.size) H (nM H h.size (.int .u32 x) (.int .i64 1)):=oF _ _ _ rfl
    have O:=hu.tr k1;have g2:=g.upd O λb hb=>hb.imp (hQ b) id
    have ho2:OwnS u32 1 31 (λb=>(Q b\/h.size<=b)/\b≠h.size) _ _ xs:=hop.upd k1' λb hb=>hb.2
    obtain⟨gmm,hgm,hr⟩:=g2.map;have hml:(lU m x 1).length=m.length+1:=by
     have:=congrArg eT (xD m x 1);rw[if_neg V]at this;simpa using this
    have A:(lU m x 1).map (·.1)=m.map (·.1)++ [x]:=by rw[xD,if_neg V]
    have hmL2:m.length+1<=L.length:=by
     have:=mM X.nodup (l':=eR L) (λy j=>by
      rw[A]at j
      rcases aN.1 j with c|c
      .exact(d y c).1
      .rw[az.1 c];exact C)
     rw[A]at this;simpa using this
    have U:∀y v,bK (lU m x 1) y=some v->v=1:=λy v hv=>by
     rw[xF]at hv;split at hv
     .cases hv;rfl
     .exact k y v hv
    have upx:∀y,UpG L x y->∃s∈start,UpG L s y:=F x a6;refine⟨_,rfl,_,g2.c0,_,_,hgm.get x ⟨none,0,0⟩,?_⟩;rcases hr x with⟨sl,ps,l1,l2,hps⟩|⟨_,l2⟩
    .rw[l1]
     have D:parV L x=ps:=by simp[parV,l2]
     refine⟨_,hps.srow,?_⟩;have hpl:=hPl x;rw[D]at hpl;refine AppP.own ho2 hps.len rfl (qa ps) rfl a4 ?_ ⟨.inr O.size,?_⟩ λs' h3 ho3 k3=>?_
     .simp only[ae,aG]at o;omega
     .exact Nat.ne_of_gt X.lt
     .have hu3:=O.tr (k3.mono λb hb=>.inl hb.1)
      refine hI (xs++ps,lU m x 1) _ _ ⟨hu3,ho3,X.upd k3 (λh=>h.2 rfl),U,?_,?_,?_,?_,?_⟩ ?_
      .simp only[ae,aG]at o⊢;rw[hml];omega
      .intro y j
       simp only[A]at j;rcases aN.1 j with c|c
       .exact d y c
       .rw[az.1 c];exact⟨C,upx x (.refl C)⟩
      .intro z N y hzy
       rcases aN.1 N with c|c
       .exact F z (by simp[c]) y hzy
       .exact upx y (.step C (by rw[D];exact c) hzy)
      .intro s1 T w
       simp only[A];rcases f s1 T w with c|c
       .exact .inl (cx _ c)
       .rcases aN.1 c with c|c
        .exact .inr (cx _ c)
        .exact .inl (cA _ c)
      .intro y j p hp B
       simp only[A]at j⊢;rcases aN.1 j with c|c
       .rcases E y c p hp B with G|G
        .exact .inl (cx _ G)
        .rcases aN.1 G with G|G
         .exact .inr (cx _ G)
         .exact .inl (cA _ G)
       .rw[az.1 c,D]at hp
        exact .inr (cA _ hp)
      .show(L.length-(lU m x 1).length)*3+(xs++ps).length<(L.length-m.length)*3+(xs++ [x]).length
       rw[hml,ae,ae,aG];omega
    .exact absurd C (eH.1 l2)
  .have N:u= []:=by
    rw[P.len]at N;exact List.length_eq_zero_iff.1 a4
   subst N;refine hk _ _ m (aj _) hm (λy=>⟨λj=>(d y j).2,?_⟩) k (hu.mono λb hb=>hb)
   rintro⟨s1,T,hup⟩;have hup':∀a b,UpG L a b->a∈m.map (·.1)->b∈m.map (·.1):=by
    intro a b hab;induction hab with
    |refl _=>exact id
    |step c H h3 ih=>
     intro G;rcases E _ G _ H h3.left with S|S
     .exact ih S
     .cases S
   rcases f s1 T hup.left with S|S
   .exact hup' _ _ hup S
   .cases S
theorem yg{α:Type}{p:α->Bool}:∀(l:List α) (i:Nat),i<=l.length->(∀v∈l.take i,p v=true)->(∀h:i<l.length,p l[i]=false)->l.takeWhile p=l.take i/\l.dropWhile p=l.drop i
 | [],i,_,_,_=>a6
 |x::l,0,_,_,h=>by
  have:=h a6;simp only[List.getElem_cons_zero]at this;simp[this]
 |x::l,i+1,hi,h1,h2=>by
  have hx:=h1 x a6;have:=yg l i (by simpa using hi) (λv hv=>h1 v (by simp[hv])) (λh=>h2 (by simpa using h))
  simp[hx,this]
theorem tR:∀xs:List (Int×fD),cH (xs.flatMap vf)=true
 | []=>rfl
 |x::xs=>by rw[aL];exact tR xs
theorem QV{u:Nat}{L:dA}(g:RefAt W h u L nx)(hL:L.length<=100000)(hid:0<=id/\id<4294967295)(hs:Nums W h s ps)(hn:ps.length*4<=140737488355328)
  {K:Unit->dO}(hk:∀h',Upd (· =u) h h'->RefAt W h' u (wN L id ps) (if nx<=id then id+1 else nx)->K () h'):
  dQ 191 [gZ u,.int .u32 id,.slice s.a s.len s.cap] K h:=by
 refine dg (D5 (some ⟨u,0,none⟩) id s) Oi Tryz.func191 Tryz.call191 ?_;dsimp only[D5,ey,bR,Kp,OF,dd,cJ,jX,fj,nW,ix,nV,sM,xG];obtain⟨C,t0,Ls,h1,z,h3,F⟩:=g.blk;have D:=h3.len;have x:=g.lt;refine ez (λ(i:Nat) (t:Int) h'=>t=(i:Int)/\h'=h/\i<=L.length/\∀v∈L.take i,decide (v.1<id)=true) (λi=>L.length-i) 0 ⟨rfl,rfl,aJ _,a6⟩ ?_
 rintro I i t h' ⟨rfl,rfl,hi,hp⟩ hI;have c0:aZ h' (adr ⟨u,0,none⟩ 0)=some (.slice C.a C.len C.cap):=by rw[bZ,bw h1];rfl
 refine eF (λt z=>z=h'/\(t=true->∃x:i<L.length,L[i].1<id)/\(t=false->∀x:i<L.length,¬L[i].1<id)) (λR hR=>?_) ?_
 .refine⟨_,rfl,C,c0,ar (λA=>?_) λA=>?_⟩
  .rw[z.len,D]at A
   have A:i<L.length:=a4
   obtain⟨a,ha,c1,_⟩:=MV z (D▸A);refine⟨_,rfl,C,c0,by rw[z.len,D];omega,a,ha,_,c1,hR _ _ ⟨rfl,?_⟩⟩
   rw[(h3.get (D▸A) A).1];exact⟨λe=>⟨A,by simpa using e⟩,λe _=>by simpa using e⟩
  .rw[z.len,D]at A
   exact hR _ _ ⟨rfl,λe=>(by cases e),λ_ h5=>a4⟩
 .rintro t y ⟨rfl,e1,e2⟩
  refine eh (λe=>?_) λe=>?_
  .obtain⟨A,h5⟩:=e1 e
   rw[bN A a4];refine hI (i+1) _ _ ⟨rfl,rfl,A,?_⟩ a4;rw[ax A];intro v hv;rcases aN.1 hv with P|P
   .exact hp v P
   .rw[az.1 P];exact decide_eq_true h5
  .obtain⟨w1,w2⟩:=yg (p:=λv=>decide (v.1<id)) L i hi hp (λA=>decide_eq_false (e2 e A))
   have hins:wN L id ps=L.take i++(id,ps)::L.drop i:=by unfold wN;rw[w1,w2]
   refine eQ ?_;refine⟨_,rfl,C,c0,by rw[z.len,D];omega,?_⟩
   have k1:=e9 No y [] 31;refine⟨k1.cell0 c0,_,(hs.upd k1 λ_ h=>h.elim).srow,?_⟩
   refine AppP.own (f:=u32) (M:=λb=>y.size<=b) (xs:= []) (ys:=ps) ⟨rfl,kz,aj _,.inl rfl⟩ hs.len rfl (qa ps) rfl a4 (by simpa using hn) (by rw[dS];omega) λj o o18 k2=>?_
   have H:Upd No y o:=k1.trans k2 λb hb=>.inr hb
   have c19:=H.cell0 c0;refine⟨c19,?_⟩;have k3:=e9 No o [.int .u32 id,.slice j.a j.len j.cap] 129;have Z:=H.tr k3;have h2a:Sl vf 2 W _ C Ls:=z.upd Z λ_ h=>h.elim
   refine⟨Z.cell0 c0,_,(h2a.sub (l:=i) (hi:=C.len) (m:=C.cap) (c:=0) (by rw[z.len,D];exact hi) (by rw[z.len];exact aj _) F).srow,?_⟩;have er:(Ls.drop i).take (C.len-i)=Ls.drop i:=by rw[z.len];exact List.take_of_length_le a6
   rw[er];have hnw:=cf o [.int .u32 id,.slice j.a j.len j.cap] 129;refine AppP.own (f:=vf) (M:=λb=>o.size<=b) (xs:= [(id,j)]) (ys:=Ls.drop i) ⟨rfl,OH,aj _,.inr ⟨o.size,[],rfl,aj _,hnw,rfl⟩⟩
    (by rw[ba,z.len];rfl) rfl (tR _) rfl a4 (by rw[ba,D];simp only[aG];omega) (by rw[dS];omega) λs22 n o22 k4=>?_
   have Y:Upd (λb=>o.size<=b) o n:=k3.wide.tr k4
   have q:Upd No y n:=H.trans Y λb hb=>.inr (aO H.size hb)
   refine⟨q.cell0 c0,eQ ?_⟩;have k5:=e9 No n [] 129;refine⟨_,rfl,C,(q.tr k5).cell0 c0,by rw[z.len,D]at F;omega,?_⟩
   have h2b:Sl vf 2 W _ C Ls:=z.upd (q.tr k5) λ_ h=>h.elim
   refine⟨_,(h2b.sub (l:=0) (hi:=i) (m:=C.cap) (c:=0) a4 a4 (by rw[z.len,D]at F;omega)).srow,?_⟩;rw[cP,Nat.sub_zero];refine AppP.own (f:=vf) (M:=λb=>n.size<=b) (xs:= []) (ys:=Ls.take i) ⟨rfl,OH,aj _,.inl rfl⟩ (by rw[aV];simp;omega) rfl (tR _) rfl a4
    (by rw[aV];simp only[List.length_nil];omega) (by rw[dS];omega) λs31 h32 o31 k6=>?_
   have O:Upd (λb=>n.size<=b) n h32:=k5.wide.tr k6
   have hr:Sl vf 2 (λb=>n.size<=b) n s22 ((id,j)::Ls.drop i):=o22.sl λb _ x=>Nat.not_le.2 x
   refine⟨_,(hr.upd O λb hb=>.inl hb).srow,?_⟩
   refine AppP.own (f:=vf) (M:=λb=>n.size<=b) (xs:=Ls.take i) (ys:=(id,j)::Ls.drop i) o31 hr.len rfl (tR _) rfl a4
    (by rw[aV,av,ba];omega) O.size λd w S k7=>?_
   have V:Upd (λb=>n.size<=b) n w:=O.tr k7
   have E:Upd No y w:=q.trans V λb hb=>.inr (aO q.size hb)
   have N:=E.get0 h1;refine⟨_,rfl,by rw[bZ];exact fk N a6,?_⟩
   have e0:adr ⟨u,0,none⟩ 0=⟨u,0,none⟩:=rfl;rw[e0];have k8:Upd (· =u) w (hset w ⟨u,0,none⟩ (.slice d.a d.len d.cap)):=Upd.hset _ _ rfl
   have G:(hset w ⟨u,0,none⟩ (.slice d.a d.len d.cap))[u]? =some (.cells #[.slice d.a d.len d.cap,.int .u32 nx] t0 (0,0)):=by
    rw[kU N,eE N];rfl
   have kx:Upd (· =u) y (hset w ⟨u,0,none⟩ (.slice d.a d.len d.cap)):=E.wide.tr k8
   have U:∀b,b=u->W b\/y.size<=b:=λb hb=>.inl (hb▸g.wp)
   have J:∀{h':ad},Upd (· =u) w h'->Sl vf 2 W h' d (Ls.take i++(id,j)::Ls.drop i)/\Par W h' (Ls.take i++(id,j)::Ls.drop i) (wN L id ps):=λ{h'} k=>by
    refine⟨?_,?_⟩
    .refine(S.sl (W:=W) λb hb _ X=>absurd (x b X) (dR.2 (aO q.size hb))).upd k λb hb=>.inl (hb▸g.wp)
    .have kk:Upd (· =u) y h':=E.wide.tr k
     rw[hins];refine Par.app (Par.upd kk U (h3.take i)) ⟨rfl,?_,Par.upd kk U (h3.drop i)⟩;have T:Nums (λb=>W b\/o.size<=b) o j ps:=o18.sl λb hb D X=>X.elim (λX=>absurd (x b X) (dR.2 hb)) λhge=>absurd D (dR.2 hge)
     have Q:Upd (λb=>W b\/o.size<=b) o h':=((Y.mono λb hb=>.inl (.inr hb)).tr (V.mono λb hb=>.inr hb)).tr (k.mono λb hb=>.inl (.inl (hb▸g.wp)))
     exact(T.upd Q λb hb=>.inl hb).less λb hb=>.inl (.inl hb)
   have B:=S.cap;refine⟨_,rfl,nx,by rw[bZ,bw G];rfl,ar (λP=>?_) λP=>?_⟩
   .refine⟨_,rfl,fk G a6,?_⟩
    rw[show ac .u32 (id+1)=id+1 from Go.IntWalk.u32_in _ a4]
    rw[if_pos P]at hk;have k9:Upd (· =u) _ (hset (hset w ⟨u,0,none⟩ (.slice d.a d.len d.cap)) ⟨u,1,none⟩ (.int .u32 (id+1))):=Upd.hset _ _ rfl
    obtain⟨f1,f2⟩:=J (k8.tr k9);refine hk _ (kx.tr k9) ⟨⟨d,t0,_,?_,f1,f2,B⟩,g.wp,λb hb=>aD (x b hb) (kx.tr k9).size⟩
    rw[bZ,kU G,eE G];rfl
   .rw[if_neg P]at hk
    obtain⟨f1,f2⟩:=J k8;exact hk _ kx ⟨⟨d,t0,_,G,f1,f2,B⟩,g.wp,λb hb=>aD (x b hb) kx.size⟩
theorem Zq{L:dA}(g:RefAt W h d L nx)(t:0<=nx)(o:L.length<=100000)(j:Nums W h s ps)(q:ps.length*4<=140737488355328)
  {K:Int×Int->dO}(c:∀h',Upd (· =d) h h'->RefAt W h' d (gu L nx ps).2.1 (gu L nx ps).2.2->K (gu L nx ps).1 h'):
  Hv 132 [gZ d,.slice s.a s.len s.cap] K h:=by
 refine dg (MB (some ⟨d,0,none⟩) s) .nil Tryz.func132 Tryz.call132 ?_;dsimp only[MB,y7,acx,xG,ey,cJ];refine Zp j (eh (λa=>?_) λa=>?_)
 .have a:wM ps≠0:=by simpa using a
  rw[show gu L nx ps=_ from if_pos a]at c
  exact c h (eM _ _) g
 .have a:¬wM ps≠0:=by simpa using a
  refine U0 g a4 j a4 λh' e=>?_
  have f:=g.upd0 e;have k:=j.upd e λ_ h=>h.elim
  refine eh (λb=>?_) λb=>?_
  .have b:pH L ps≠0:=by simpa using b
   rw[show gu L nx ps=_ from(if_neg a).trans (if_pos b)]at c
   exact c h' e.wide f
  .have b:¬pH L ps≠0:=by simpa using b
   obtain⟨v,u,Ls,b1,_⟩:=f.blk;have c1:aZ h' (adr ⟨d,0,none⟩ 1)=some (.int .u32 nx):=by rw[bZ,bw b1];rfl
   refine⟨_,rfl,_,c1,ar (λi=>?_) λi=>?_⟩
   .rw[show gu L nx ps=_ from(if_neg a).trans ((if_neg b).trans (if_pos i))]at c
    exact c h' e.wide f
   .refine⟨_,rfl,_,c1,QV f o a4 k q λp m n=>?_⟩
    rw[show gu L nx ps=_ from(if_neg a).trans ((if_neg b).trans (if_neg i))]at c
    rw[if_pos (gM nx)]at n;exact c _ (e.wide.tr m) n
abbrev iv(n:Int):Value:=.int .i64 n
theorem Rs(h:ad)(x:Int)(hM:M h.size):OwnS u32 1 31 M (hnew h [.int .u32 x] 31) ⟨some (aR h),1,1⟩ [x]:=
 ⟨rfl,kz,aj _,.inr ⟨h.size,[],rfl,hM,cf ..,rfl⟩⟩
structure Small(L:dA):Prop where
 two:∀v∈L,v.2.length<=2
 len:L.length<=100000
theorem Ca{L:dA}(g:GraphAt W h gp gm L nx)(d:Small L)(a:Int)
  {K:Option Nat->dO}(p:∀r h' m,h.size<=r->MapAt KE iv h' r m->(∀y,y∈m.map (·.1)↔UpG L a y)->(∀y v,bK m y=some v->v=1)->Upd No h h'->K (some r) h'):
  SL 44 [gZ gp,.slice (some (aR h)) 1 1] K (hnew h [.int .u32 a] 31):=by
 have k:=e9 No h [.int .u32 a] 31;have o:=g.more (Q:=(· =h.size)) k λb hb=>by rw[dS];omega
 have c:∀b,W b->b≠h.size:=λb hb e=>absurd (g.lt b hb) a4
 refine L2 (Q:=(· =h.size)) o (λb hb=>⟨.inr hb,λe=>c _ g.wp (e▸hb),λe=>c _ g.wm (e▸hb)⟩) d.two d.len (s:=⟨some (aR h),1,1⟩) (Rs h a (.inl rfl)) a6 λr h' m i hm j n f=>?_
 refine p r h' m (by rw[dS]at i;omega) hm (λy=>(j y).trans ?_) n (k.trans f λb hb=>.inr (cL hb.symm))
 simp
theorem VU{L:dA}(g:GraphAt W h gp gm L nx)(i:Small L)(a c:Int)
  (j:∀b h',(b=true↔UpG L a c)->Upd No h h'->K b h'):
  gl 13 [gZ gp,.int .u32 a,.int .u32 c] K h:=by
 refine dg (tO (some ⟨gp,0,none⟩) a c) .nil Tryz.func13 Tryz.call13 ?_;dsimp only[tO,sL];refine Ca g i a λr h' m k hm e f d=>⟨_,_,hm.get c 0,j _ _ ?_ d⟩
 rw[<-e c];cases hl:bK m c with
 |none=>simp[eH.1 hl]
 |some v=>
  rw[f c v hl];simp only[Option.getD_some,gt_iff_lt,Int.zero_lt_one,decide_true,true_iff];exact be.2 ⟨_,(eS hm.nodup).1 hl,rfl⟩
theorem DI[DecidableEq κ]{l:List (κ×β)}{k:κ}{v:β}(hm:(k,v)∈l):(lA l k).length<l.length:=by
 unfold lA;exact List.length_filter_lt_length_iff_exists.2 ⟨_,hm,a6⟩
theorem KK{r:Nat}{m:List (Int×Int)}(hm:MapAt KE iv h r m){w:Value}(p:Int->Int->Bool)
  (O:∀h' k v (K:Bool->dO),Upd (· =r) h h'->bK m k=some v->(∀s,Upd No h' s->K (p k v) s)->HV PG w [.int .u32 k,.int .i64 v] [.c .bool] K h')
  {K:Unit->dO}(L:∀h' m',Upd (· =r) h h'->MapAt KE iv h' r m'->(∀y,bK m' y=(bK m y).filter λv=> !p y v)->K () h'):
  dQ 118 [.map (some r),w] K h:=by
 refine dg (jj (some r) w) oU Tryz.func118 Tryz.call118 ?_;dsimp only[jj,pX,Qp];obtain⟨c,⟨es,C⟩,z⟩:=hm.range;refine⟨c,.inr ⟨r,es,rfl,C⟩,?_⟩;refine ez (λ(g:List (Int×Int)×List (Int×Int)) (_:Unit) h'=>IterSt KE iv h' h.size r g.1 g.2/\Upd (· =r) h h'/\(∀y v,bK g.2 y=some v->bK m y=some v)/\
   (∀y,bK g.1 y=if(bK g.2 y).isSome then bK m y else(bK m y).filter λv=> !p y v)) (λg=>g.2.length) (m,m) ⟨z,(Upd.push _ h _),λ_ _ e=>e,λy=>?_⟩ ?_
 .cases bK m y<;>simp
 .rintro I ⟨D,d⟩ ⟨⟩ h' ⟨hi,J,ht,a⟩ H
  (try simp only at hi ht a)
  have B:=hi.nodup;refine NextP.at (M:=(· =h.size)) hi rfl (λP=>?_) λk v n e s ek N hit E A=>?_
  .subst P
   refine L h' D J hi.at λy=>?_
   rw[a y];rfl
  .refine⟨rfl,e,k,v,hit,ek,N,?_⟩
   have u:Upd (· =r) h s:=J.trans A λb hb=>.inr (cL hb.symm)
   have o:bK d k=some v:=(eS B).2 n;have j:=ht k v o;refine O s k v _ u j λQ t=>?_
   have i:=E.upd t id id;have q:=u.tr t.wide;refine eh (λG=>?_) λG=>?_
   .refine .inr ⟨r,rfl,i.at.isMap,?_⟩
    have F:=i.del k;refine H (lA D k,lA (lA d k) k) () _ ⟨F,q.tr (xj _ _ rfl),λy x f=>?_,λy=>?_⟩ ?_
    .simp only[pK]at f
     split at f
     .cases f
     .exact ht y x f
    .simp only[pK]
     by_cases f:y=k
     .subst f;rw[if_pos rfl,if_pos rfl,j];simp[Option.filter,G]
     .simp only[f,if_false];exact a y
    .show(lA (lA d k) k).length<d.length
     exact Nat.lt_of_le_of_lt (bQ ..) (DI n)
   .refine H (D,lA d k) () _ ⟨i,q,λy x f=>?_,λy=>?_⟩ (DI n)
    .simp only[pK]at f
     split at f
     .cases f
     .exact ht y x f
    .simp only[pK]
     by_cases f:y=k
     .subst f;rw[if_pos rfl,a y,o,j];simp[Option.filter,G]
     .simp only[f,if_false];exact a y
theorem X3{L:dA}(g:GraphAt W h gp gm L nx)(hs:Small L)(a b:Int)
  {K:Int×Bool->dO}(hk:∀best h',(∀c,UpG L a c->UpG L b c->c<=best)->(best=0\/UpG L a best/\UpG L b best)->0<=best->Upd No h h'->K (best,decide (best>0)) h'):
  EZ 69 [gZ gp,.int .u32 a,.int .u32 b] K h:=by
 refine dg (vh (some ⟨gp,0,none⟩) a b) CA Tryz.func69 Tryz.call69 ?_;dsimp only[vh,Qp,sL];refine Ca g hs a λr1 h3 m1 hr1 z hy1 ho1 F=>?_
 have g3:=g.upd0 F;refine Ca g3 hs b λO f D hr2 x hy2 T n=>?_
 have p:=z.upd n id;have k7:=e9 No f [.map none] 105;have X:=cf f [.map none] 105;refine⟨by rw[cG];exact fk X a6,?_⟩;have k8:Upd (· =f.size) (hnew f [.map none] 105) (hset (hnew f [.map none] 105) (aR f) (.map (some O))):=Upd.hset _ _ rfl
 have b8:(hset (hnew f [.map none] 105) (aR f) (.map (some O)))[f.size]? =some (.cells #[.map (some O)] 105 (0,0)):=by
  rw[cG,kU X,eE X];rfl
 have w:Upd No f (hset (hnew f [.map none] 105) (aR f) (.map (some O))):=k7.trans k8 λb hb=>.inr (cL hb.symm)
 have l1:=z.lt;have l2:=x.lt;have l6:=p.lt;refine KK (p.upd w id) (λk _=>decide ((bK D k).getD 0=0)) (λh' k v K' J hk1 S=>?_) λm A H hm' s=>?_
 .refine HV.mk' (dg (sw k v ⟨f.size,0,none⟩) .nil Tryz.func119 Tryz.call119 ?_)
  unfold sw;have G:=(x.upd w id).upd J (λe=>a4)
  refine⟨some O,by rw[bw (J.get b8 a4)];rfl,_,_,G.get k 0,?_⟩
  have e:((bK D k).getD 0==(0:Int))=decide ((bK D k).getD 0=0):=by
   rw[Bool.eq_iff_iff,decide_eq_true_iff];simp
  rw[e];exact S h' (eM _ _)
 .have P:∀y,(∃v,bK A y=some v)↔UpG L a y/\UpG L b y:=λy=>by
   rw[s y,<-hy1 y,<-hy2 y];cases C:bK m1 y with
   |none=>simp[eH.1 C]
   |some v=>
    have q1:y∈m1.map (·.1):=be.2 ⟨_,(eS z.nodup).1 C,rfl⟩
    cases j:bK D y with
    |none=>simp[eH.1 j,Option.filter]
    |some u=>
     have Z:y∈D.map (·.1):=be.2 ⟨_,(eS x.nodup).1 j,rfl⟩
     have:=T y u j;subst this;simp only[q1,Z,and_self,iff_true];exact⟨v,rfl⟩
  have q:Upd No h m:=((F.tr n).tr w).trans H λb hb=>.inr a4
  obtain⟨c,⟨es,V⟩,R⟩:=hm'.range;refine⟨c,.inr ⟨r1,es,rfl,V⟩,?_⟩;refine ez (λ(d:List (Int×Int)) (t:Int) h'=>IterSt KE iv h' m.size r1 A d/\Upd No h h'/\(∀y v,bK A y=some v->bK d y=none->y<=t)/\(t=0\/∃v,bK A t=some v)/\0<=t/\
    (∀y v,bK d y=some v->bK A y=some v)) (λd=>d.length) A ⟨R,q.tr (Upd.push _ _ _),λy v C j=>(by rw[C]at j;cases j),.inl rfl,gM _,λ_ _ e=>e⟩ ?_
  rintro I d t h' ⟨hi,J,E,i,h0,o⟩ hI;have U:=hi.nodup;have hge:h.size<=m.size:=q.size;refine NextP.at (M:=(· =m.size)) hi rfl (λhe=>?_) λk v N e h2 ek ev hit Y n=>?_
  .subst he
   refine hk t h' (λc q1 Z=>?_) ?_ h0 J
   .obtain⟨v,hv⟩:=(P c).2 ⟨q1,Z⟩
    exact E c v hv rfl
   .exact i.imp id λhb=>(P t).1 hb
  .have Q:bK d k=some v:=(eS U).2 N
   refine⟨rfl,e,k,v,hit,ek,ev,hI (lA d k) _ _ ⟨Y,J.trans n λb hb=>.inr a4,λy u C j=>?_,?_,?_,λy u B=>?_⟩ (DI N)⟩
   .rw[pK]at j
    split at j
    .rename_i B;subst B;split<;>omega
    .have:=E y u C j;split<;>omega
   .split
    .exact .inr ⟨v,o k v Q⟩
    .exact i
   .split<;>omega
   .rw[pK]at B
    split at B
    .cases B
    .exact o y u B
structure Good(L:dA):Prop extends Small L where
 up:(eR L).Pairwise (· < ·)
 par:∀v∈L,∀p∈v.2,p∈eR L/\p<v.1
theorem Good.nd{L:dA}(g:Good L):(eR L).Nodup:=g.up.imp λh=>Int.ne_of_lt h
theorem Good.parV{L:dA}(g:Good L){p:Int}(h:p∈parV L a):p∈eR L/\p<a/\a∈eR L:=by
 unfold Proofs.parV at h;cases hl:bK L a with
 |none=>rw[hl]at h;simp at h
 |some ps=>
  rw[hl]at h;have hm:=(eS g.nd).1 hl;have:=g.par _ hm p (by simpa using h);exact⟨this.1,this.2,be.2 ⟨_,hm,rfl⟩⟩
theorem UpG.snoc{L:dA}{z w:Int}(h:UpG L a z)(b:w∈Proofs.parV L z)(hi:w∈eR L):UpG L a w:=by
 induction h with
 |refl h1=>exact .step h1 b (.refl hi)
 |step h1 h2 _ ih=>exact .step h1 h2 (ih b)
theorem UpG.right{L:dA}(h:UpG L a b):b∈eR L:=by
 induction h with
 |refl h=>exact h
 |step _ _ _ ih=>exact ih
theorem UpG.last{L:dA}(h:UpG L a b):b=a\/∃z,UpG L a z/\b∈Proofs.parV L z:=by
 induction h with
 |refl _=>exact .inl rfl
 | @step a p b h1 h2 h3 ih=>
  rcases ih with rfl|⟨z,c,hb⟩
  .exact .inr ⟨a,.refl h1,h2⟩
  .exact .inr ⟨z,.step h1 h2 c,hb⟩
theorem UpG.le{L:dA}(g:Good L)(h:UpG L a b):b<=a:=by
 induction h with
 |refl _=>exact gM _
 |step _ h2 _ ih=>have:=(g.parV h2).2.1;omega
theorem UpG.trans{L:dA}{c:Int}(h:UpG L a b)(k:UpG L b c):UpG L a c:=by
 induction h with
 |refl _=>exact k
 |step h1 h2 _ ih=>exact .step h1 h2 (ih k)
theorem H8:∀{xs ys:List Int},xs.Pairwise (· < ·)->ys.Pairwise (· < ·)->(∀y,y∈xs↔y∈ys)->xs=ys
 | [],[],_,_,_=>rfl
 | [],y::ys,_,_,h=>by have:=(h y).2 (aq ..);cases this
 |x::xs,[],_,_,h=>by have:=(h x).1 (aq ..);cases this
 |x::xs,y::ys,hx,hy,h=>by
  rw[aC]at hx hy;have e:x=y:=by
   rcases aw.1 ((h x).1 (aq ..))with e|e
   .exact e
   .rcases aw.1 ((h y).2 (aq ..))with b|b
    .exact b.symm
    .have:=hy.1 x e;have:=hx.1 y b;omega
  subst e;congr 1
  refine H8 hx.2 hy.2 λz=>?_
  have:=h z;simp only[aw]at this;constructor
  .intro a
   rcases this.1 (.inr a)with e|e
   .subst e;exact absurd (hx.1 _ a) (Int.lt_irrefl _)
   .exact e
  .intro a
   rcases this.2 (.inr a)with e|e
   .subst e;exact absurd (hy.1 _ a) (Int.lt_irrefl _)
   .exact e
theorem Z4{L:dA}(g:(eR L).Nodup)(hi:i<L.length):parV L L[i].1=L[i].2:=by
 have:bK L L[i].1=some L[i].2:=(eS g).2 (aF hi);simp[parV,this]
theorem xb{xp:Nat}{L:dA}(g:RefAt W h xp L nx)(Y:Good L)(id:Int)
  {K:fD->dO}(hk:∀s' h' xs,xs.Pairwise (· < ·)->(∀y,y∈xs↔UpG L id y)->Nums (λb=>b<h.size) h' s' xs->Upd No h h'->K s' h'):
  ce 127 [gZ xp,.int .u32 id] K h:=by
 refine dg (Gs (some ⟨xp,0,none⟩) id) QK Tryz.func127 Tryz.call127 ?_;dsimp only[Gs,ff,dK,vK,cz,fj,Qq,ey,nv,bR,Kp,OF,jX,sM,cJ,sL,YW];obtain⟨s0,t0,Ls,h1,U,h3,hcap⟩:=g.blk;have X:=h3.len;have hL:=Y.len;have k0:=Upd.push No h (.map #[] 0);have m0:MapAt KE iv (h.push (.map #[] 0)) h.size []:=MapAt.new h;have k1:Upd No h (nM (h.push (.map #[] 0)) h.size (.int .u32 id) (.int .i64 1)):=k0.trans (M':=(· =h.size)) (oF _ _ _ rfl) λb hb=>.inr (cL hb.symm)
 refine⟨_,rfl,m0.isMap,_,rfl,s0,by rw[bZ,bw (k1.get0 h1)];rfl,?_⟩
 refine ez (λ(f:Nat×List Int×List (Int×Int)) (t:fD×Int) h'=>t.2=(f.1:Int)-1/\f.1<=L.length/\Upd No h h'/\Nums (λb=>b<=h.size) h' t.1 f.2.1/\MapAt KE iv h' h.size f.2.2/\
   (∀y v,bK f.2.2 y=some v->v=1)/\f.2.1.Pairwise (· < ·)/\f.2.1.length<=L.length-f.1/\
   (∀y,y∈f.2.1↔y∈(eR L).drop f.1/\UpG L id y)/\(∀y,y∈f.2.2.map (·.1)↔y=id\/∃z∈(eR L).drop f.1,UpG L id z/\y∈parV L z)) (λf=>f.1) (L.length,[],[(id,1)])
  ⟨?_,aj _,k1,Sl.nil kz,m0.put id 1,?_,cj,aJ _,?_,?_⟩ ?_
 .show ac .i64 ((s0.len:Int)-1)=_
  rw[U.len,X,Go.IntWalk.i64_in _ a4]
 .intro y v hv
  simp only[bK]at hv;split at hv
  .cases hv;rfl
  .cases hv
 .intro y
  rw[List.drop_of_length_le a6];simp
 .intro y
  rw[List.drop_of_length_le a6];simp
 rintro I ⟨n,out,m⟩ ⟨so,ti⟩ h' ⟨hti,hn,hu,C,hm,u,o,hlen,p,H⟩ hI;(try simp only at hti hn C hm u o hlen p H)
 subst hti;refine ar (λO=>?_) λN=>?_
 .obtain⟨i,rfl⟩:∃i,n=i+1:=⟨n-1,by have O:(n:Int)-1>=0:=O;omega⟩
  have hi:i<L.length:=a4
  have ei:((i+1:Nat):Int)-1=(i:Int):=a4
  simp only[ei];have G:=U.upd hu λ_ h=>h.elim
  obtain⟨a,ha,c0,c1⟩:=MV G (X▸hi);obtain⟨e1,e2⟩:=h3.get (X▸hi) hi;obtain⟨q1,q2,q3⟩:=Rv h' 129 (.int .u32 0) (.slice none 0 0) (Ls[i]'(X▸hi));rw[e1]at c0 q1 q2 q3;have hw:ac .i64 ((i:Int)-1)=(i:Int)-1:=Go.IntWalk.i64_in _ a4;have d:(eR L).drop i=L[i].1::(eR L).drop (i+1):=by
   rw[dL (by simpa using hi),js]
  have hbig:∀z,z∈eR L->L[i].1<z->z∈(eR L).drop (i+1):=λz k s=>by
   have A:z∈(eR L).take (i+1)++(eR L).drop (i+1):=by rw[aW];exact k
   rcases aN.1 A with A|A
   .exfalso
    obtain⟨j,hj,ej⟩:=bH A;rw[mD]at ej;have hj':j<=i:=by simp at hj;omega
    rcases ci j i with Z|Z
    .have:=cp.1 Y.up j i a9 (by simpa using hi) Z
     rw[ej,js]at this;omega
    .have:j=i:=by omega
     subst this;rw[js]at ej;omega
   .exact A
  have Q:L[i].1∈m.map (·.1)↔UpG L id L[i].1:=by
   rw[H];constructor
   .rintro(e|⟨z,k,E,hz3⟩)
    .rw[<-e];exact .refl (be.2 ⟨_,aF hi,rfl⟩)
    .exact E.snoc hz3 (be.2 ⟨_,aF hi,rfl⟩)
   .intro o
    rcases o.last with e|⟨z,k,E⟩
    .exact .inl e
    .exact .inr ⟨z,hbig z k.right (Y.parV E).2.1,k,E⟩
  have w:=hm.upd q3 λh=>h
  have R:=hu.tr q3;have hml:=hm.lt;refine eQ ⟨_,rfl,s0,by rw[bZ,bw (hu.get0 h1)];rfl,by rw[U.len,X];omega,a,ha,_,c0,_,c1,q1,_,lz q2 0,_,_,w.get _ 0,?_⟩
  rw[hw];refine eh (λk=>?_) λhnz=>?_
  .have S:¬UpG L id L[i].1:=λo=>by
    obtain⟨x,hx,ex⟩:=be.1 (Q.2 o);have B:bK m L[i].1=some x.2:=(eS hm.nodup).2 (by rw[<-ex];exact hx);rw[B,u _ _ B]at k;exact absurd k a8
   refine hI (i,out,m) _ _ ⟨rfl,kr hi,R,C.upd q3 λ_ h=>h.elim,w,u,o,by(try simp only);omega,λy=>?_,λy=>?_⟩ a6
   .rw[p,d,aw]
    constructor
    .exact λh=>⟨.inr h.1,h.2⟩
    .rintro⟨rfl|h,V⟩
     .exact absurd V S
     .exact⟨h,V⟩
   .rw[H,d]
    refine or_congr Iff.rfl ⟨λ⟨z,k,D⟩=>⟨z,aA _ k,D⟩,λ⟨z,k,D⟩=>?_⟩
    rcases aw.1 k with rfl|k
    .exact absurd D.1 S
    .exact⟨z,k,D⟩
  .have P:UpG L id L[i].1:=by
    rw[<-Q];cases B:bK m L[i].1 with
    |none=>rw[B]at hnz;exact absurd hnz a8
    |some v=>exact be.2 ⟨_,(eS hm.nodup).1 B,rfl⟩
   refine eQ ⟨_,lz q2 0,_,(((C.upd q3 λ_ h=>h.elim).upd (e9 No _ _ _) λ_ h=>h.elim).less (W':=No) λ_ h=>h.elim).srow,?_⟩
   have l16:=bB q2;have lh:=hu.size;refine AppP.own (Rs (M:=λb=>Array.size h'+1<=b) _ L[i].1 l16) C.len rfl (qa out) rfl a4 (by simp only[aG];omega) (by rw[dS];omega) λs' F ho3 k3=>?_
   have hu3:Upd No h F:=(R.tr (e9 No _ _ _)).trans k3 λb hb=>.inr a4
   have hs3:Nums (λb=>b<=h.size) F s' ([L[i].1]++out):=ho3.sl λb hb _ hw=>a4
   have hm3:MapAt KE iv F h.size m:=(w.upd (e9 No _ _ _) λh=>h).upd k3 λhb=>a4
   have b3:=k3.get ((e9 No _ [.int .u32 L[i].1] 31).get0 q2) λhb=>a4
   refine⟨_,lz b3 1,?_⟩;have hps:L[i].2.length<=2:=Y.two _ (aF hi);have hpv:parV L L[i].1=L[i].2:=Z4 Y.nd hi;refine ez (λ(f:Nat×List (Int×Int)) (t:Int) U=>t=(f.1:Int)/\f.1<=L[i].2.length/\Upd (· =h.size) F U/\MapAt KE iv U h.size f.2/\(∀y v,bK f.2 y=some v->v=1)/\(∀y,y∈f.2.map (·.1)↔y∈m.map (·.1)\/y∈L[i].2.take f.1)) (λf=>L[i].2.length-f.1) (0,m)
    ⟨rfl,aJ _,eM _ _,hm3,u,λy=>a6⟩ ?_
   rintro I2 ⟨j,m2⟩ t G ⟨ht,hj,T,J,q,c⟩ hI2;(try simp only at ht hj J q c)
   subst ht;have hu4:Upd No h G:=hu3.trans T λb hb=>.inr (cL hb.symm)
   have hnum:Nums W G (Ls[i]'(X▸hi)).2 L[i].2:=e2.upd hu4 λ_ h=>h.elim
   refine ar (λs=>?_) λhge=>?_
   .rw[e2.len]at s
    have s:j<L[i].2.length:=a4
    obtain⟨a2,ha2,_,hx⟩:=Nums.at hnum s;refine⟨by rw[e2.len];omega,a2,ha2,_,hx,_,rfl,J.isMap,?_⟩;rw[bN s a4];have hput:=J.put L[i].2[j] 1;refine hI2 (j+1,lU m2 L[i].2[j] 1) _ _ ⟨rfl,s,T.tr (oF _ _ _ rfl),hput,λy v hv=>?_,λy=>?_⟩ (by(try simp only);omega)
    .rw[xF]at hv
     split at hv
     .cases hv;rfl
     .exact q y v hv
    ·(try simp only)
     rw[xD,ax s];split
     .rename_i hmem
      rw[c y,aN,az];constructor
      .exact λh=>h.imp (λh=>h) .inl
      .rintro(h|h|rfl)
       .exact .inl h
       .exact .inr h
       .exact(c _).1 hmem
     .rw[aN,aN,az,c y,or_assoc]
   .rw[e2.len]at hge
    have:j=L[i].2.length:=a4
    subst this;rw[List.take_length]at c;refine hI (i,L[i].1::out,m2) _ _ ⟨rfl,kr hi,hu4,hs3.upd T λb hb=>.inl (cL hb),J,q,?_,?_,λy=>?_,λy=>?_⟩ a6
    .refine aC.2 ⟨λy V=>?_,o⟩
     have hyd:=((p y).1 V).1;have:=Y.up.sublist (List.drop_sublist i (eR L));rw[d,aC]at this;exact this.1 y hyd
    .simp only[av];omega
    .rw[aw,p,d,aw]
     constructor
     .rintro(rfl|h)
      .exact⟨.inl rfl,P⟩
      .exact⟨.inr h.1,h.2⟩
     .rintro⟨rfl|h,V⟩
      .exact .inl rfl
      .exact .inr ⟨h,V⟩
    ·(try simp only)
     rw[c y,H,d];constructor
     .rintro((h|⟨z,k,D⟩)|h)
      .exact .inl h
      .exact .inr ⟨z,aA _ k,D⟩
      .exact .inr ⟨_,aq ..,P,by rw[hpv];exact h⟩
     .rintro(h|⟨z,k,D⟩)
      .exact .inl (.inl h)
      .rcases aw.1 k with rfl|k
       .rw[hpv]at D;exact .inr D.2
       .exact .inl (.inr ⟨z,k,D⟩)
 .have:n=0:=by have N:¬(n:Int)-1>=0:=N;omega
  subst this;refine hk so h' out o (λy=>(p y).trans ?_) (C.less λb hb=>.inl (kr hb)) hu
  rw[cP];exact⟨λh=>h.2,λh=>⟨h.right,h⟩⟩
structure Inv(L:dA)(nx:Int):Prop where
 good:Good L
 pos:∀id∈eR L,1<=id/\id<nx
 nx1:1<=nx
 nx2:nx<=2147483648
 few:L.length<=1024
theorem Inv.nil:Inv [] 1:=⟨⟨⟨λv hv=>(by cases hv),a6⟩,cj,λv hv=>(by cases hv)⟩,λv hv=>(by cases hv),a4,a4,a6⟩
theorem NP{id:Int}:∀{L:dA},(eR L).Pairwise (· < ·)->id∉eR L->∀v∈L.dropWhile (λv=>decide (v.1<id)),id<v.1
 | [],_,_,v,hv=>by cases hv
 |u::L,hp,hn,v,hv=>by
  simp only[eR,cn,aC,aw,not_or]at hp hn;rw[List.dropWhile_cons]at hv;split at hv
  .exact NP hp.2 hn.2 v hv
  .rename_i h
   have h:¬u.1<id:=by simpa using h
   rcases aw.1 hv with rfl|hv
   .omega
   .have:=hp.1 v.1 (be.2 ⟨v,hv,rfl⟩);omega
theorem TR{id:Int}:∀{L:dA},∀v∈L.takeWhile (λv=>decide (v.1<id)),v.1<id
 | [],v,hv=>by cases hv
 |u::L,v,hv=>by
  rw[List.takeWhile_cons]at hv;split at hv
  .rename_i h
   rcases aw.1 hv with rfl|hv
   .simpa using h
   .exact TR v hv
  .cases hv
theorem LV{L:dA}(g:Good L)(f:id∉eR L)(e:∀p∈ps,p∈eR L/\p<id)(j:ps.length<=2)(k:L.length<100000):Good (wN L id ps):=by
 have a:=AE L id ps;refine⟨⟨λv hv=>?_,by rw[a.length_eq];simp;omega⟩,?_,λv hv p b=>?_⟩
 .rcases aw.1 (a.mem_iff.1 hv)with rfl|hv
  .exact j
  .exact g.two v hv
 .unfold wN eR
  rw[List.map_append,cn,cE];refine⟨(g.up.sublist ((List.takeWhile_sublist _).map _)),aC.2 ⟨λy c=>?_,g.up.sublist ((List.dropWhile_sublist _).map _)⟩,λx hx y c=>?_⟩
  .obtain⟨v,hv,rfl⟩:=be.1 c
   exact NP g.up f v hv
  .obtain⟨u,i,rfl⟩:=be.1 hx
   have d:=TR u i;rcases aw.1 c with rfl|c
   .exact d
   .obtain⟨v,hv,rfl⟩:=be.1 c
    have:=NP g.up f v hv;omega
 .rw[insV_ids.mem_iff]
  rcases aw.1 (a.mem_iff.1 hv)with rfl|hv
  .exact⟨aA _ (e p b).1,(e p b).2⟩
  .have:=g.par v hv p b
   exact⟨aA _ this.1,this.2⟩
theorem IU{L:dA}(h:pH L ps=0):(∀p∈ps,p∈eR L)/\L.length<1024:=by
 unfold pH at h;split at h
 .cases h
 .rename_i h1
  split at h
  .cases h
  .rename_i h2
   refine⟨λp a=>?_,a4⟩
   by_cases hm:p∈eR L
   .exact hm
   .exact absurd (cq.2 ⟨p,a,by simpa using hm⟩) h1
theorem LJ(h:wM ps=0):ps.length<=2:=by
 unfold wM at h;split at h
 .cases h
 .rename_i h1
  have:=not_or.1 h1;omega
theorem Inv.add{L:dA}(v:Inv L nx)(ps:List Int):Inv (gu L nx ps).2.1 (gu L nx ps).2.2:=by
 unfold gu;split
 .exact v
 .rename_i d
  split
  .exact v
  .rename_i b
   split
   .exact v
   .rename_i h3
    have d:wM ps=0:=a4
    have b:pH L ps=0:=a4
    obtain⟨f1,f⟩:=IU b;have e:nx∉eR L:=λhm=>by have:=(v.pos nx hm).2;omega
    show Inv (wN L nx ps) (nx+1)
    refine⟨LV v.good e (λp c=>⟨f1 p c,(v.pos p (f1 p c)).2⟩) (LJ d) (by have:=v.few;omega),λid a=>?_,by have:=v.nx1;omega,a4,?_⟩
    .rcases aw.1 (insV_ids.mem_iff.1 a)with rfl|h
     .have:=v.nx1;omega
     .have:=v.pos id h;omega
    .rw[(AE L nx ps).length_eq];simp;omega
theorem Inv.put{L:dA}(v:Inv L nx)(g:0<=id)(ps:List Int):Inv (abJ L nx id ps).2.1 (abJ L nx id ps).2.2:=by
 unfold abJ;split
 .exact v
 .rename_i b
  have b:=not_or.1 b;have k:=b.1;have d:=not_or.1 b.2;have c:=not_or.1 d.2;split
  .exact v
  .rename_i h2
   split
   .exact v
   .rename_i e
    have i:wM ps=0:=a4
    have e:pH L ps=0:=a4
    obtain⟨f1,o⟩:=IU e;have n:=v.nx1;refine⟨LV v.good h2 (λp f=>⟨f1 p f,?_⟩) (LJ i) (by have:=v.few;omega),λj m=>?_,by simp only;split<;>omega,?_,?_⟩
    .by_cases a:p<id
     .exact a
     .exact absurd (cq.2 ⟨p,f,by simpa using a⟩) c.2
    .rcases aw.1 (insV_ids.mem_iff.1 m)with rfl|h
     .simp only;split<;>omega
     .have:=v.pos j h;simp only;split<;>omega
    .have:=v.nx2;simp only;split<;>omega
    .rw[(AE L id ps).length_eq];simp;omega
theorem Inv.drop{L:dA}(v:Inv L nx){keep st:List Int}(d:∀y,y∈st↔∃k∈keep,UpG L k y):Inv (L.filter λv=>decide (v.1∈st)) nx:=by
 have a:∀id,id∈eR (L.filter λv=>decide (v.1∈st))↔id∈eR L/\id∈st:=λid=>by
  unfold eR;simp only[be,bV,decide_eq_true_iff];constructor
  .rintro⟨u,⟨b,c⟩,rfl⟩;exact⟨⟨u,b,rfl⟩,c⟩
  .rintro⟨⟨u,b,rfl⟩,c⟩;exact⟨u,⟨b,c⟩,rfl⟩
 refine⟨⟨⟨λu f=>v.good.two u (bV.1 f).1,aO (bQ ..) v.good.len⟩,v.good.up.sublist ((List.filter_sublist).map _),λu f p j=>?_⟩,λid e=>v.pos id ((a id).1 e).1,v.nx1,v.nx2,aO (bQ ..) v.few⟩
 obtain⟨b,c⟩:=bV.1 f;obtain⟨i,n⟩:=v.good.par u b p j;refine⟨(a p).2 ⟨i,?_⟩,n⟩;obtain⟨k,m,g⟩:=(d _).1 (of_decide_eq_true c);refine(d p).2 ⟨k,m,g.snoc ?_ i⟩;have:bK L u.1=some u.2:=(eS v.good.nd).2 b;simp[parV,this,j]
end
section
variable {k lab r:c5}{v:c6}{w:Option c6}{i:Nat}
inductive Fo where
 |nil:Fo
 |cons (lab:c5) (val:Option c6) (kids rest:Fo):Fo
abbrev Bn:=c5×Option c6×Fo
def Fo.toL:Fo->List Bn
 | .nil=> []
 | .cons lab w kids rest=>(lab,w,kids)::rest.toL
theorem Fo.toL_cons(lab:c5)(w:Option c6)(b a:Fo):(Fo.cons lab w b a).toL=(lab,w,b)::a.toL:=rfl
def Fo.ofL:List Bn->Fo
 | []=>.nil
 |(lab,w,kids)::l=>.cons lab w kids (Fo.ofL l)
theorem Fo.to_of:∀l:List Bn,(Fo.ofL l).toL=l
 | []=>rfl
 |(_,_,_)::l=>by show _::(Fo.ofL l).toL=_;rw[Fo.to_of l]
theorem Fo.of_to:∀F:Fo,Fo.ofL F.toL=F
 | .nil=>rfl
 | .cons lab w kids rest=>by show Fo.cons lab w kids (Fo.ofL rest.toL)=_;rw[Fo.of_to rest]
def qC:Fo->c5->c6->Prop
 | .nil,_,_=>False
 | .cons lab w kids rest,k,v=>(∃r,k=lab++r/\((r= []/\w=some v)\/qC kids r v))\/qC rest k v
def sE(w:Option c6)(F:Fo)(k:c5)(v:c6):Prop:=(k= []/\w=some v)\/qC F k v
def vr(n:Bn)(k:c5)(v:c6):Prop:=∃r,k=n.1++r/\sE n.2.1 n.2.2 r v
theorem fF:∀{F:Fo} {k:c5} {v:c6},qC F k v↔∃n∈F.toL,vr n k v
 | .nil,_,_=>by simp[qC,Fo.toL]
 | .cons lab w kids rest,k,v=>by
  rw[Fo.toL_cons];unfold qC;rw[fF (F:=rest)];constructor
  .rintro(h|⟨n,a,h⟩)
   .exact⟨_,aq ..,h⟩
   .exact⟨n,aA _ a,h⟩
  .rintro⟨n,a,h⟩
   rcases aw.1 a with rfl|a
   .exact .inl h
   .exact .inr ⟨n,a,h⟩
def hd(k:c5):Nat:=(k.headD 0).toNat
theorem oq{a b:c5}(h:a≠[]):hd (a++b)=hd a:=by
 cases a with
 |nil=>exact absurd rfl h
 |cons x a=>rfl
theorem abj(a:c5):hd a<256:=UInt8.toNat_lt _
def fq:Fo->Prop
 | .nil=>True
 | .cons lab w kids rest=>lab≠[]/\(w.isSome\/2<=kids.toL.length)/\fq kids/\(∀n∈rest.toL,hd lab<hd n.1)/\fq rest
def QB(n:Bn):Prop:=n.1≠[]/\(n.2.1.isSome\/2<=n.2.2.toL.length)/\fq n.2.2
theorem dY:∀{F:Fo},fq F↔F.toL.Pairwise (λm n=>hd m.1<hd n.1)/\∀n∈F.toL,QB n
 | .nil=>by simp[fq,Fo.toL]
 | .cons lab w kids rest=>by
  rw[Fo.toL_cons,aC];show(lab≠[]/\(w.isSome\/2<=kids.toL.length)/\fq kids/\(∀n∈rest.toL,hd lab<hd n.1)/\fq rest)↔_
  rw[dY (F:=rest)];constructor
  .rintro⟨g,f,e,d,c,b⟩
   refine⟨⟨d,c⟩,λn a=>?_⟩
   rcases aw.1 a with rfl|a
   .exact⟨g,f,e⟩
   .exact b n a
  .rintro⟨⟨d,c⟩,b⟩
   have:=b _ (aq ..);exact⟨this.1,this.2.1,this.2.2,d,c,λn a=>b n (aA _ a)⟩
theorem mZ:∀{F:Fo},fq F->∀n∈F.toL,∃r v,sE n.2.1 n.2.2 r v
 | .nil,_,n,a=>by simp[Fo.toL]at a
 | .cons lab w kids rest,h,n,a=>by
  rcases aw.1 a with rfl|a
  .rcases h.2.1 with e|b
   .obtain⟨v,hv⟩:=ik.1 e
    exact⟨[],v,.inl ⟨rfl,hv⟩⟩
   .have d:=mZ h.2.2.1
    have⟨m,hm⟩:∃m,m∈kids.toL:=by
     cases hl:kids.toL with
     |nil=>rw[hl]at b;simp at b
     |cons m l=>exact⟨m,aq ..⟩
    obtain⟨r,v,c⟩:=d m hm;exact⟨m.1++r,v,.inr (fF.2 ⟨m,hm,r,rfl,c⟩)⟩
  .exact mZ h.2.2.2.2 n a
theorem pu{F:Fo}(h:fq F)(hi:qC F k v):k≠[]:=by
 obtain⟨n,a,r,rfl,_⟩:=fF.1 hi;have:=((dY.1 h).2 n a).1;intro e;exact this (jd.1 e).1
theorem qR{F:Fo}(h:fq F)(hi:qC F k v):∃n∈F.toL,hd n.1=hd k/\vr n k v:=by
 obtain⟨n,a,r,e,b⟩:=fF.1 hi;exact⟨n,a,by rw[e,oq ((dY.1 h).2 n a).1],r,e,b⟩
theorem yv{F:Fo}(h:fq F){m n:Bn}(hm:m∈F.toL)(f:n∈F.toL)(e:hd m.1=hd n.1):m=n:=by
 have c:=(dY.1 h).1;revert hm f;generalize F.toL=l at*;clear h;induction l with
 |nil=>intro hm;simp at hm
 |cons a l ih=>
  have c:=aC.1 c;intro hm f;rcases aw.1 hm with i|d
  .rcases aw.1 f with g|b
   .rw[i,g]
   .have:=c.1 n b;rw[<-i]at this;omega
  .rcases aw.1 f with g|b
   .have:=c.1 m d;rw[<-g]at this;omega
   .exact ih c.2 d b
def Br(P:c5->c6->Prop):Prop:=(∃v,P [] v)\/∃j k u v,P j u/\P k v/\j≠[]/\k≠[]/\hd j≠hd k
theorem Jo{F:Fo}(h:fq F):(w.isSome\/2<=F.toL.length)↔Br (sE w F):=by
 constructor
 .rintro(z|x)
  .obtain⟨v,hv⟩:=ik.1 z
   exact .inl ⟨v,.inl ⟨rfl,hv⟩⟩
  .right
   have c:=mZ h;have hc:=dY.1 h;match hL:F.toL,x with
   |a::b::l,_=>
    have d:a∈F.toL:=by rw[hL];simp
    have hb:b∈F.toL:=by rw[hL];simp
    obtain⟨r,v,t⟩:=c a d;obtain⟨s,u,c⟩:=c b hb;have o:=(hc.2 a d).1;have i:=(hc.2 b hb).1;have:=hc.1;rw[hL]at this;have A:=(aC.1 this).1 b (aq ..);refine⟨a.1++r,b.1++s,v,u,.inr (fF.2 ⟨a,d,r,rfl,t⟩),.inr (fF.2 ⟨b,hb,s,rfl,c⟩),?_,?_,?_⟩
    .intro e;exact o (jd.1 e).1
    .intro e;exact i (jd.1 e).1
    .rw[oq o,oq i];omega
 .rintro(⟨v,hv⟩|⟨j,k,u,v,f,g,q,nk,y⟩)
  .rcases hv with⟨_,hv⟩|hv
   .left;rw[hv];rfl
   .exact absurd rfl (pu h hv)
  .right
   rcases f with⟨e,_⟩|f
   .exact absurd e q
   rcases g with⟨e,_⟩|g
   .exact absurd e nk
   obtain⟨m,hm,em,_⟩:=qR h f;obtain⟨n,p,en,_⟩:=qR h g;match hL:F.toL with
   | []=>rw[hL]at hm;simp at hm
   | [a]=>
    rw[hL]at hm p;rw[az.1 hm]at em;rw[az.1 p]at en;omega
   |a::b::l=>simp
theorem Uv{m n:Bn}(hb:Br (sE m.2.1 m.2.2))(h:∀k v,vr m k v->vr n k v):∃t,m.1=n.1++t:=by
 rcases hb with⟨v,hv⟩|⟨j,k,u,v,g,i,o,nk,b⟩
 .obtain⟨r,e,_⟩:=h m.1 v ⟨[],(aX _).symm,hv⟩
  exact⟨r,e⟩
 .obtain⟨r,e,_⟩:=h (m.1++j) u ⟨j,rfl,g⟩
  obtain⟨s,f,_⟩:=h (m.1++k) v ⟨k,rfl,i⟩;rcases List.append_eq_append_iff.1 e with⟨a,c,d⟩|⟨a,c,d⟩
  .rw[c,au]at f
   have f:=eo f;cases a with
   |nil=>exact⟨[],by rw[c];simp⟩
   |cons x a=>
    rw[d]at b;rw[f]at b;exact absurd rfl b
  .exact⟨a,c⟩
theorem S6:∀{F F':Fo},fq F->fq F'->(∀k v,qC F k v↔qC F' k v)->F=F'
 | .nil,.nil,_,_,_=>rfl
 | .nil,.cons lab w b c,_,h,he=>by
  obtain⟨r,v,j⟩:=mZ h _ (aq ..);exact((he _ v).2 (fF.2 ⟨_,aq ..,r,rfl,j⟩)).elim
 | .cons lab w b c,.nil,h,_,he=>by
  obtain⟨r,v,j⟩:=mZ h _ (aq ..);exact((he _ v).1 (fF.2 ⟨_,aq ..,r,rfl,j⟩)).elim
 | .cons lab w b c,.cons d g a f,h,h',he=>by
  have z:∀{lab w b c} {F:Fo},fq (.cons lab w b c)->fq F->(∀k v,qC F k v->qC (.cons lab w b c) k v)->∀n∈F.toL,hd lab<=hd n.1:=by
   intro lab w b c F h E hi n i;obtain⟨r,v,j⟩:=mZ E n i;obtain⟨m,hm,e,_⟩:=qR h (hi _ v (fF.2 ⟨n,i,r,rfl,j⟩));rw[oq ((dY.1 E).2 n i).1]at e;rcases aw.1 hm with rfl|hm
   .simp only at e;omega
   .have:=h.2.2.2.1 m hm;omega
  have L:=z h h' (λk v=>(he k v).2) _ (aq ..)
  have N:=z h' h (λk v=>(he k v).1) _ (aq ..)
  simp only at L N;have p:hd lab=hd d:=a4
  have A:∀{lab w b c d g a f},fq (.cons lab w b c)->fq (.cons d g a f)->hd lab=hd d->(∀k v,qC (.cons lab w b c) k v->qC (.cons d g a f) k v)->(∀k v,vr (lab,w,b) k v->vr (d,g,a) k v)/\(∀k v,qC c k v->qC f k v):=by
   intro lab w b c d g a f h h' p hi;refine⟨λk v o=>?_,λk v o=>?_⟩
   .obtain⟨n,i,e,j⟩:=qR h' (hi k v (fF.2 ⟨_,aq ..,o⟩))
    obtain⟨r,rfl,_⟩:=o;rw[oq h.1]at e;rw[<-yv h' i (aq ..) cd];exact j
   .obtain⟨m,hm,em,_⟩:=qR h.2.2.2.2 o
    have:=h.2.2.2.1 m hm;obtain⟨n,i,e,j⟩:=qR h' (hi k v (Or.inr o));rcases aw.1 i with rfl|i
    .simp only at e;omega
    .exact fF.2 ⟨n,i,j⟩
  have⟨C,H⟩:=A h h' p λk v=>(he k v).1
  have⟨B,O⟩:=A h' h p.symm λk v=>(he k v).2
  have q:c=f:=S6 h.2.2.2.2 h'.2.2.2.2 λk v=>⟨H k v,O k v⟩
  obtain⟨t,ht⟩:=Uv (m:=(lab,w,b)) (n:=(d,g,a)) ((Jo h.2.2.1).1 h.2.1) C;obtain⟨P,x⟩:=Uv (m:=(d,g,a)) (n:=(lab,w,b)) ((Jo h'.2.2.1).1 h'.2.1) B;simp only at ht x;have y:lab=d:=by
   have:t= []:=by
    have J:=congrArg eT ht;have I:=congrArg eT x;rw[ae]at J I;exact List.length_eq_zero_iff.1 a4
   rw[ht,this,aX]
  subst y;have u:∀{w b g a},(∀k v,vr (lab,w,b) k v->vr (lab,g,a) k v)->∀k v,sE w b k v->sE g a k v:=by
   intro w b g a i k v o;obtain⟨r,e,j⟩:=i (lab++k) v ⟨k,rfl,o⟩;rw[eo e];exact j
  have D:=u C;have G:=u B;have K:w=g:=by
   have wv:∀{w b g a},fq a->(∀k v,sE w b k v->sE g a k v)->∀v,w=some v->g=some v:=by
    intro w b g a hc hi v hv;rcases hi [] v (.inl ⟨rfl,hv⟩)with⟨_,h⟩|h
    .exact h
    .exact absurd rfl (pu hc h)
   exact Option.ext λv=>⟨wv h'.2.2.1 D v,wv h.2.2.1 G v⟩
  have kd:∀{w b g a},fq b->(∀k v,sE w b k v->sE g a k v)->∀k v,qC b k v->qC a k v:=by
   intro w b g a hc hi k v o;rcases hi k v (.inr o)with⟨e,_⟩|h
   .exact absurd e (pu hc o)
   .exact h
  have s:b=a:=S6 h.2.2.1 h'.2.2.1 λk v=>⟨kd h.2.2.1 D k v,kd h'.2.2.1 G k v⟩
  rw[K,s,q]
def wW(P a:c5->c6->Prop)(k:c5)(v:c6):Prop:=∀k' v',a k' v'↔(k'=k/\v'=v)\/(k'≠k/\P k' v')
theorem Lw{F:Fo}(h:fq F)(v:c6):wW (sE w F) (sE (some v) F) [] v:=by
 intro k' a;unfold sE;constructor
 .rintro(⟨e,f⟩|hi)
  .exact .inl ⟨e,(bO.inj f).symm⟩
  .exact .inr ⟨pu h hi,.inr hi⟩
 .rintro(⟨e,f⟩|⟨e,⟨f,_⟩|hi⟩)
  .exact .inl ⟨e,by rw[f]⟩
  .exact absurd f e
  .exact .inr hi
theorem ER{F F':Fo}(c:k≠[])(h:wW (qC F) (qC F') k v):wW (sE w F) (sE w F') k v:=by
 intro k' a;unfold sE;rw[h k' a];constructor
 .rintro(⟨e,f⟩|hi|hi)
  .exact .inr ⟨λb=>c (b.symm.trans e),.inl ⟨e,f⟩⟩
  .exact .inl hi
  .exact .inr ⟨hi.1,.inr hi.2⟩
 .rintro(hi|⟨e,hi|hi⟩)
  .exact .inr (.inl hi)
  .exact .inl hi
  .exact .inr (.inr ⟨e,hi⟩)
theorem Vw{F:Fo}(h:fq F)(x:k≠[])(hi:∀j (d:j<F.toL.length),j<i->hd F.toL[j].1<hd k)(g:∀j (d:j<F.toL.length),i<=j->hd k<hd F.toL[j].1):fq (.ofL (F.toL.take i++(k,some v,.nil)::F.toL.drop i))/\wW (qC F) (qC (.ofL (F.toL.take i++(k,some v,.nil)::F.toL.drop i))) k v:=by
 have hc:=dY.1 h;have t:∀n∈F.toL.take i,hd n.1<hd k:=λn c=>by
  obtain⟨j,d,e⟩:=bH c;rw[aV]at d;rw[<-e,mD];exact hi j a4 a4
 have y:∀n∈F.toL.drop i,hd k<hd n.1:=λn c=>by
  obtain⟨j,d,e⟩:=bH c;rw[ba]at d;rw[<-e,List.getElem_drop];exact g _ a4 a4
 have mem:∀n,n∈F.toL.take i++(k,some v,.nil)::F.toL.drop i↔n=(k,some v,Fo.nil)\/n∈F.toL:=λn=>by
  conv=>rhs;rw[<-aW i F.toL]
  simp only[aN,aw];exact⟨λh=>h.elim (λh=>.inr (.inl h)) λh=>h.elim .inl λh=>.inr (.inr h),λh=>h.elim (λh=>.inr (.inl h)) λh=>h.elim .inl λh=>.inr (.inr h)⟩
 refine⟨dY.2 ⟨?_,?_⟩,λk' w=>?_⟩
 .rw[Fo.to_of]
  have m:=hc.1;rw[<-aW i F.toL,cE]at m;refine cE.2 ⟨m.1,aC.2 ⟨y,m.2.1⟩,λa s b hb=>?_⟩
  rcases aw.1 hb with rfl|hb
  .exact t a s
  .exact m.2.2 a s b hb
 .rw[Fo.to_of]
  intro n c;rcases(mem n).1 c with rfl|c
  .exact⟨x,.inl rfl,trivial⟩
  .exact hc.2 n c
 .rw[fF,fF,Fo.to_of]
  constructor
  .rintro⟨n,c,r,e,q⟩
   rcases(mem n).1 c with rfl|c
   .rcases q with⟨rfl,f⟩|f
    .exact .inl ⟨by rw[e];exact aX _,(bO.inj f).symm⟩
    .exact f.elim
   .right
    refine⟨λu=>?_,n,c,r,e,q⟩
    have z:hd k=hd n.1:=by rw[<-u,e,oq (hc.2 n c).1]
    obtain⟨j,d,p⟩:=bH c;rcases ci j i with o|o
    .have:=hi j d o;rw[p]at this;omega
    .have:=g j d o;rw[p]at this;omega
  .rintro(⟨rfl,rfl⟩|⟨_,n,c,h⟩)
   .exact⟨(k',some w,.nil),(mem _).2 (.inl rfl),[],(aX _).symm,.inl ⟨rfl,rfl⟩⟩
   .exact⟨n,(mem _).2 (.inr c),h⟩
theorem mU{α:Type}{l:List α}(hi:i<l.length){a x:α}(nd:∀j (c:j<l.length),j≠i->l[j]≠l[i]):x∈l.set i a↔x=a\/(x∈l/\x≠l[i]):=by
 constructor
 .intro h
  obtain⟨j,c,e⟩:=bH h;rw[iT]at c;rw[rl]at e;split at e
  .exact .inl e.symm
  .rename_i b
   exact .inr ⟨by rw[<-e];exact aF c,by rw[<-e];exact nd j c λe=>b e.symm⟩
 .rintro(rfl|⟨h,b⟩)
  .exact oA (i:=i) (h:=by simpa using hi) a6
  .obtain⟨j,c,e⟩:=bH h
   have:i≠j:=by rintro rfl;exact b e.symm
   exact oA (i:=j) (h:=by simpa using c) (by rw[List.getElem_set_ne this];exact e)
theorem UN{F:Fo}{m:Bn}(h:fq F)(hi:i<F.toL.length)(hm:QB m)(e:hd m.1=hd F.toL[i].1):fq (.ofL (F.toL.set i m)):=by
 have hc:=dY.1 h;rw[dY,Fo.to_of];refine⟨?_,λn f=>?_⟩
 .rw[cp]at hc⊢
  intro a b d hb c;rw[iT]at d hb;rw[rl,rl];split
  .rename_i ea;subst ea
   rw[if_neg a4,e];exact hc.1 _ _ d hb c
  .split
   .rename_i eb;subst eb
    rw[e];exact hc.1 _ _ d hb c
   .exact hc.1 _ _ d hb c
 .rcases List.mem_or_eq_of_mem_set f with f|rfl
  .exact hc.2 n f
  .exact hm
theorem yo{F:Fo}(h:fq F)(hi:i<F.toL.length)(j:Nat)(c:j<F.toL.length)(b:j≠i):F.toL[j]≠F.toL[i]:=by
 have hc:=(dY.1 h).1;rw[cp]at hc;intro e;rcases Nat.lt_or_gt_of_ne b with a|a
 .have:=hc j i c hi a;rw[e]at this;omega
 .have:=hc i j hi c a;rw[e]at this;omega
theorem Pl{F:Fo}{m:Bn}(h:fq F)(hi:i<F.toL.length)(ek:hd F.toL[i].1=hd k)(f:wW (vr F.toL[i]) (vr m) k v):wW (qC F) (qC (.ofL (F.toL.set i m))) k v:=by
 intro k' d;have hc:=dY.1 h;rw[fF,fF,Fo.to_of];constructor
 .rintro⟨n,a,c⟩
  rcases(mU hi (yo h hi)).1 a with rfl|⟨a,g⟩
  .rcases(f k' d).1 c with b|⟨b,o⟩
   .exact .inl b
   .exact .inr ⟨b,_,aF hi,o⟩
  .refine .inr ⟨λe=>g ?_,n,a,c⟩
   obtain⟨r,j,_⟩:=c;refine yv h a (aF hi) ?_;rw[ek,<-e,j,oq (hc.2 n a).1]
 .rintro(b|⟨b,n,a,c⟩)
  .exact⟨m,(mU hi (yo h hi)).2 (.inl rfl),(f k' d).2 (.inl b)⟩
  .by_cases e:n=F.toL[i]
   .exact⟨m,(mU hi (yo h hi)).2 (.inl rfl),(f k' d).2 (.inr ⟨b,by rw[<-e];exact c⟩)⟩
   .exact⟨n,(mU hi (yo h hi)).2 (.inr ⟨a,e⟩),c⟩
theorem Vv{f:Option c6}{F F':Fo}(h:wW (sE w F) (sE f F') r v):wW (vr (lab,w,F)) (vr (lab,f,F')) (lab++r) v:=by
 intro k' b;constructor
 .rintro⟨s,e,d⟩
  rcases(h s b).1 d with⟨rfl,rfl⟩|⟨c,g⟩
  .exact .inl ⟨e,rfl⟩
  .exact .inr ⟨λa=>c (eo (e.symm.trans a)),s,e,g⟩
 .rintro(⟨rfl,rfl⟩|⟨c,s,e,d⟩)
  .exact⟨r,rfl,(h r b).2 (.inl ⟨rfl,rfl⟩)⟩
  .exact⟨s,e,(h s b).2 (.inr ⟨λa=>c (by rw[e,a]),d⟩)⟩
def cm:c5->c5->Nat
 |a::x,b::y=>if a=b then cm x y+1 else 0
 |_,_=>0
theorem UM:∀(x y:c5),cm x y<=x.length/\cm x y<=y.length
 | [],_=>by simp[cm]
 |_::_,[]=>by simp[cm]
 |a::x,b::y=>by unfold cm;have:=UM x y;split<;>simp<;>omega
theorem UK:∀(x y:c5),x.take (cm x y)=y.take (cm x y)
 | [],_=>by simp[cm]
 |_::_,[]=>by simp[cm]
 |a::x,b::y=>by
  unfold cm;split
  .rename_i e;rw[dw,dw,UK x y,e]
  .simp
theorem NU:∀(x y:c5),cm x y<x.length->cm x y<y.length->hd (x.drop (cm x y))≠hd (y.drop (cm x y))
 | [],_=>by simp[cm]
 |_::_,[]=>by simp[cm]
 |a::x,b::y=>by
  unfold cm;split
  .rename_i e
   intro d c;rw[av]at d c;rw[fC,fC];exact NU x y a4 a4
  .rename_i e
   intro _ _ h;exact e (l4.1 h)
theorem Yw{x y:c5}(hx:x≠[])(c:y≠[])(h:hd x=hd y):0<cm x y:=by
 match x,y,hx,c with
 |a::x,b::y,_,_=>
  unfold cm;rw[if_pos (show a=b from l4.1 h)]
  omega
theorem LX{F:Fo}(c:Nat):∀k v,vr (lab.take c,none,.cons (lab.drop c) w F .nil) k v↔vr (lab,w,F) k v:=by
 intro k v;constructor
 .rintro⟨r,e,⟨_,h⟩|(⟨s,rfl,h⟩|h)⟩
  .cases h
  .exact⟨s,by rw[e];simp only;rw[<-au,aW],h⟩
  .exact h.elim
 .rintro⟨s,e,h⟩
  exact⟨lab.drop c++s,by rw[e];simp only;rw[<-au,aW],.inr (.inl ⟨s,rfl,h⟩)⟩
theorem YH{d:Option c6}{F F':Fo}(c:lab≠[])(hb:w.isSome\/2<=F.toL.length)(j:fq F)(a:r≠[]->hd r≠hd lab)(h:wW (sE none (.cons lab w F .nil)) (sE d F') r v):Br (sE d F'):=by
 by_cases e:r= []
 .subst e
  exact .inl ⟨v,(h [] v).2 (.inl ⟨rfl,rfl⟩)⟩
 .have hc:fq (.cons lab w F .nil):=⟨c,hb,j,λn i=>by simp[Fo.toL]at i,trivial⟩
  obtain⟨s,u,g⟩:=mZ hc _ (aq ..);simp only at g;have f:hd (lab++s)=hd lab:=oq c;refine .inr ⟨r,lab++s,v,u,(h r v).2 (.inl ⟨rfl,rfl⟩),(h _ u).2 (.inr ⟨λb=>a e (by rw[<-b,f]),.inr (.inl ⟨s,rfl,g⟩)⟩),e,λb=>c (jd.1 b).1,by rw[f];exact a e⟩
theorem aaJ{P d:c5->c6->Prop}(hb:Br P)(h:wW P d k v):Br d:=by
 have keep:∀j u,P j u->∃c,d j c:=λj u f=>by
  by_cases e:j=k
  .exact⟨v,(h j v).2 (.inl ⟨e,rfl⟩)⟩
  .exact⟨u,(h j u).2 (.inr ⟨e,f⟩)⟩
 rcases hb with⟨u,g⟩|⟨j,k',u,c,f,i,r⟩
 .obtain⟨c,h'⟩:=keep [] u g
  exact .inl ⟨c,h'⟩
 .obtain⟨a,m⟩:=keep j u f
  obtain⟨b,hb⟩:=keep k' c i;exact .inr ⟨j,k',a,b,m,hb,r⟩
end
section
open Go.Lift
variable {β:Type}{i b d n:Nat}{h:ad}{c:Array Value}{t:TypeId}{M W:dx}{sp sk:fD}{s:Slots}{ow:aT}{K:aT->dO}
theorem xi{g:Nat->Option β}(h:g i=none):upd g i none=g:=by
 funext j;unfold upd;split
 .rename_i e;rw[e,h]
 .rfl
theorem eN(hb:h[b]? =some (.cells c t (0,0))):aZ h ⟨b,0+i,none⟩=c[i]?:=by rw[aU];exact bw hb
theorem Zh(hb:h[b]? =some (.cells c t (0,0))) (hi:i<c.size):Wr h ⟨b,0+i,none⟩:=by rw[aU];exact fk hb hi
theorem KF{c':Array Value}{v:Value}{k:dO}(hb:h[b]? =some (.cells c t (0,0))) (e:c.setIfInBounds i v=c')
 (f:∀h',h'[b]? =some (.cells c' t (0,0))->Upd (· =b) h h'->k h'):At (hset h ⟨b,i,none⟩ v) k:=zV hb λh' a d=>f h' (e▸a) d
theorem NO(o:OwnN M h b d n sp sk s ow)(hi:i<32){K:Unit->dO}
  (T:∀h' E n' sp' sk',OwnN M h' b E n' sp' sk' ⟨upd s.p i none,upd s.k i none⟩ ow->Upd M h h'->K () h'):dQ 244 [gZ b,.int .i64 i] K h:=by
 obtain⟨A,B,X,S,a,m⟩:=o.ex;have bits:=o.bits;refine DR _ i ?_;dsimp only[vZ,ey,bR,dd,pX,CG,cJ,ix,nU,xG];have W:∀k:Nat,k<=100->ac .i64 ((k:Int)+1)=((k+1:Nat):Int):=λk T=>by rw[dI a4];omega
 have hc1:=Ci i d;have Y:=Ci i n;have P:∀x,A x->M x\/h.size<=x:=λx hx=>.inl (a x hx).1
 refine eF (λ_ h'=>∃sp',h'[b]? =some (.cells (eZ d n sp' sk false ow) 324 (0,0))/\OwnS dT 2 33 A h' sp' (fm (upd s.p i none) 32)/\OwnS qO 1 50 B h' sk (fm s.k 32)/\Upd M h h') (λR F=>?_) ?_
 .refine⟨_,rfl,_,eN (i:=0) o.blk,EX bits.d32 hi ?_⟩
  rw[bits.dp i hi];cases hp:s.p i with
  |none=>exact ag.2 (F _ _ ⟨sp,o.blk,by rw[xi hp];exact X,S,eM _ _⟩)
  |some y=>
   refine ay.2 ⟨_,rfl,_,eN (i:=0) o.blk,rA bits.d32 hi ⟨_,rfl,sp,eN (i:=2) o.blk,?_⟩⟩;rw[W _ a4];refine SZ X (L6 hi bits.dp hp) (by have:=zI (g:=s.p);omega) λw V t f=>?_
   rw[<-Ya hi bits.dp hp]at t;have b2:=f.get o.blk λhb=>(a b hb).2.2.1 rfl
   refine⟨_,rfl,Zh (i:=2) b2 (show 2<6 by decide),KF (i:=2) (c':=eZ d n w sk false ow) b2 rfl λU b3 j=>?_⟩
   refine F _ _ ⟨w,b3,t.upd j λx hx e=>(a x hx).2.2.1 e,(S.upd f λx hx L=>(a x L).2.1 hx).upd j λx hx e=>(m x hx).2.1 e,(f.mono P).tr (j.mono λx e=>.inl (e▸o.mb))⟩
 rintro _ h1 ⟨q,b1,v,D,C⟩;refine eF (λ_ h'=>∃sk',h'[b]? =some (.cells (eZ d n q sk' false ow) 324 (0,0))/\OwnS dT 2 33 A h' q (fm (upd s.p i none) 32)/\OwnS qO 1 50 B h' sk' (fm (upd s.k i none) 32)/\Upd M h1 h') (λR F=>?_) ?_
 .refine⟨_,rfl,_,eN (i:=1) b1,EX bits.n32 hi ?_⟩
  rw[bits.nk i hi];cases hp:s.k i with
  |none=>exact ag.2 (F _ _ ⟨sk,b1,v,by rw[xi hp];exact D,eM _ _⟩)
  |some y=>
   refine ay.2 ⟨_,rfl,_,eN (i:=1) b1,rA bits.n32 hi ⟨_,rfl,sk,eN (i:=3) b1,?_⟩⟩;rw[W _ a4];refine S0 D (L6 hi bits.nk hp) (by have:=zI (g:=s.k);omega) λw V t f=>?_
   rw[<-Ya hi bits.nk hp]at t;have b2:=f.get b1 λhb=>(m b hb).2.1 rfl
   refine⟨_,rfl,Zh (i:=3) b2 (show 3<6 by decide),KF (i:=3) (c':=eZ d n q w false ow) b2 rfl λU b3 j=>?_⟩
   refine F _ _ ⟨w,b3,(v.upd f λx hx L=>(a x hx).2.1 L).upd j λx hx e=>(a x hx).2.2.1 e,t.upd j λx hx e=>(m x hx).2.1 e,(f.mono λx hx=>.inl (m x hx).1).tr (j.mono λx e=>.inl (e▸o.mb))⟩
 rintro _ V ⟨u,b2,I,H,f⟩;refine⟨_,rfl,_,eN (i:=0) b2,_,rfl,_,eN (i:=1) b2,?_⟩;refine HI bits.d32 hi λE G O=>⟨eN (i:=1) b2,?_⟩
 refine HI bits.n32 hi λn' J Q=>?_
 refine⟨_,rfl,Zh (i:=0) b2 (show 0<6 by decide),KF (i:=0) (c':=eZ E n q u false ow) b2 rfl λU b3 j=>?_⟩
 refine⟨_,rfl,Zh (i:=1) b3 (show 1<6 by decide),KF (i:=1) (c':=eZ E n' q u false ow) b3 rfl λh4 Z N=>?_⟩
 have p:=j.tr N;have z:=(C.tr (f.tr (p.mono (M':=M) λx e=>.inl (e▸o.mb)))).size
 refine T h4 E n' q u ⟨Z,⟨G,J,λc hc=>?_,λc hc=>?_⟩,⟨A,B,I.upd p λx hx e=>(a x hx).2.2.1 e,H.upd p λx hx e=>(m x hx).2.1 e,λx hx=>⟨(a x hx).1,(a x hx).2.1,(a x hx).2.2.1,by have:=(a x hx).2.2.2;omega⟩,λx hx=>⟨(m x hx).1,(m x hx).2.1,by have:=(m x hx).2.2;omega⟩⟩,o.mb⟩ (C.tr (f.tr (p.mono λx e=>.inl (e▸o.mb))))
 .rw[O,bits.dp c hc];simp only[upd];split<;>simp[*]
 .rw[Q,bits.nk c hc];simp only[upd];split<;>simp[*]
theorem OwnS.setAt{α:Type}{f:α->c4}{sz:Nat}{s:fD}{xs:List α}(i:OwnS f sz t M h s xs){k:Nat}(m:k<xs.length)(x:α):
  ∃a,s.a=some a/\M a.block/\qV h (some (adr a (k*sz))) 0 (f x)/\OwnS f sz t M (fS h (adr a (k*sz)) 0 (f x)) s (xs.take k++x::xs.drop (k+1))/\Upd (· =a.block) h (fS h (adr a (k*sz)) 0 (f x)):=by
 have g:∀x,(f x).length=sz/\0<sz:=i.ne;have q:=i.len;have e:=i.cap;rcases i.blk with D|⟨b,d,p,hb,hc,w⟩
 .omega
 have n:((xs.take k).flatMap f).length=k*sz:=by rw[kg g,aV,Nat.min_eq_left a4]
 have y:xs.flatMap f=(xs.take k).flatMap f++(f xs[k]++(xs.drop (k+1)).flatMap f):=by
  rw[<-aL,<-dL m];exact zR xs k
 rw[y]at hc;have v:=(g xs[k]).1;have C:=(g x).1;have c:(xs.take k++x::xs.drop (k+1)).flatMap f=(xs.take k).flatMap f++(f x++(xs.drop (k+1)).flatMap f):=by rw[List.flatMap_append,aL]
 generalize (xs.take k).flatMap f=A at n hc c;generalize (xs.drop (k+1)).flatMap f=B at hc c;generalize f xs[k]=X at v hc;have u:k*sz+0+(f x).length<=(A++(X++B)++d).length:=by simp only[ae];omega
 have o:adr ⟨b,0,none⟩ (k*sz)=⟨b,k*sz,none⟩:=by rw[bZ,aU]
 refine⟨⟨b,0,none⟩,p,hb,?_,?_,?_⟩
 .rw[o]
  refine .inr ⟨_,rfl,λj z=>?_⟩
  rw[bZ];exact fk hc (by rw[List.size_toArray];omega)
 .rw[o,iE (f x) h 0 (k*sz) _ hc u]
  refine⟨a9,g,e,.inr ⟨b,d,p,hb,?_,?_⟩⟩
  .rw[eE hc,c]
   congr 3
   rw[Nat.add_zero,au A,List.take_left' n,<-List.drop_drop,cK n,au X,cK a4];simp only[au]
  .exact w
 .rw[o,iE (f x) h 0 (k*sz) _ hc u]
  exact Upd.set h _ rfl
theorem OwnN.node(o:OwnN M h b d n sp sk s ow)(a:∀x,M x->¬W x):NodeAt W h b s:=by
 obtain⟨A,B,e,c,f,g⟩:=o.ex;exact⟨⟨d,n,sp,sk,ow,o.blk,o.bits,e.sl λx hx _=>a _ (f x hx).1,c.sl λx hx _=>a _ (g x hx).1,e.cap,c.cap⟩,a _ o.mb⟩
theorem IM(nd:NodeAt W h b s)(hi:i<32){K:Bool->dO}(a:K true h):gl 243 [gZ b,.int .i64 i] K h:=by
 obtain⟨d,n,sp,sk,ow,hb,_⟩:=nd.ex;refine DS _ i ?_;dsimp only[wd,ga,cJ];refine ay.2 ⟨_,rfl,_,eN (i:=4) hb,ay.2 ?_⟩;refine ar (λ_=>?_) λh=>absurd (Int.natCast_nonneg i) h
 rw[decide_eq_true a4];exact a
theorem TL{g:Nat->Option β}{x y:Option β}:upd (upd g i x) i y=upd g i y:=by
 funext j;unfold upd;split<;>rfl
theorem is{g:Nat->Option β}{x:Option β}:upd g i x i=x:=by simp[upd]
theorem un(nd:NodeAt W h b s)(hW:∀x,W x->x<h.size)(hi:i<32)(hx:∀y,s.p i=some y->s.k i=none)(p:Pr)
  (hk:∀h' b',NodeAt W h' b' ⟨upd s.p i (some p),upd s.k i none⟩->Upd No h h'->K (some ⟨b',0,none⟩) h'):
  fu 174 [gZ b,.pointer none,.int .i64 i,.agg #[.string p.1,.string p.2]] K h:=by
 refine AY _ none i p ?_;dsimp only[tM,ey,bo,yK,bR,dd,kF,jV,pX,cJ,mH,ix,Jv,BE,jX,fj,zd,r7,AO,Oa];have k1:=e9 No h [.string p.1,.string p.2] 33;have b1:=cf h [.string p.1,.string p.2] 33;refine bL ?_;simp only[cG h];generalize hnew h [.string p.1,.string p.2] 33=h1 at k1 b1;have z1:=bB b1;have R:=nd.upd k1 λ_ h=>h.elim
 refine IM R hi (ag.2 ?_);refine R9 R λh2 d n sp sk o H=>?_
 have bits:=o.bits;obtain⟨A,B,hA,hB,q,I⟩:=o.ex;have F:=k1.tr H;have u:=H.get0 b1;have S:∀x,h1.size<=x->¬W x:=λx hx V=>by have:=hW x V;omega
 refine⟨_,rfl,_,eN (i:=0) o.blk,EX bits.d32 hi ?_⟩;rw[bits.dp i hi];cases hp:s.p i with
 |some y=>
  refine ay.2 ⟨_,rfl,sp,eN (i:=2) o.blk,_,rfl,_,eN (i:=0) o.blk,p.1,by rw[bZ,bw u];rfl,p.2,by rw[bZ,bw u];rfl,?_⟩
  refine rA bits.d32 hi ⟨⟨by rw[bZ,bw u];rfl,by rw[bZ,bw u];rfl⟩,eN (i:=2) o.blk,?_⟩
  have hlt:=L6 hi bits.dp hp;obtain⟨a,ha,L,V,Y,m⟩:=OwnS.setAt hA hlt p;have hlen:=hA.len;refine⟨a4,a,ha,?_⟩;rw[aY];refine⟨V,bL ?_⟩;rw[<-X8 hi bits.dp hp]at Y;have ob:=m.get o.blk λe=>(q _ L).2.2.1 e.symm
  have z3:=m.size;have C:OwnN (λx=>h1.size<=x) _ h1.size d n sp sk ⟨upd s.p i (some p),upd s.k i none⟩ none:=⟨ob,⟨bits.d32,bits.n32,λc hc=>by
    rw[bits.dp c hc];simp only[upd];split
    .rename_i e;rw[e,hp];rfl
    .rfl,λc hc=>by rw[bits.nk c hc,xi (hx y hp)]⟩,
   ⟨A,B,Y,by rw[xi (hx y hp)];exact hB.upd m λx hx e=>(q _ L).2.1 (e▸hx),λx hx=>⟨(q x hx).1,(q x hx).2.1,(q x hx).2.2.1,by have:=(q x hx).2.2.2;omega⟩,λx hx=>⟨(I x hx).1,(I x hx).2.1,by have:=(I x hx).2.2;omega⟩⟩,o.mb⟩
  refine hk _ _ (C.node S) (F.trans m λx hx=>.inr ?_)
  have:=(q _ L).1;have hx:x=a.block:=hx;omega
 |none=>
  refine ag.2 ⟨_,rfl,NO o hi λD d3 n3 E G C m=>?_⟩
  have f:=C.bits;obtain⟨A3,B3,hA3,hB3,j,k⟩:=C.ex;have z2:=H.size;have z3:=m.size;have v:=m.get u (show ¬h1.size<=h.size by omega)
  have T:Upd No h D:=F.trans m λx hx=>.inr (aO (kr z1) hx)
  refine⟨_,rfl,E,eN (i:=2) C.blk,_,rfl,_,eN (i:=0) C.blk,p.1,by rw[bZ,bw v];rfl,p.2,by rw[bZ,bw v];rfl,?_⟩
  have X:=e9 No D [.string p.1,.string p.2] 33;have b4:=cf D [.string p.1,.string p.2] 33;have z4:=dS D [.string p.1,.string p.2] 33;have N:=C.upd X λ_ h=>h.elim
  have fin:ce 245 [.slice E.a E.len E.cap,.int .i64 (ye i d3),.slice (some (aR D)) 1 1] (λ(J:fD) Q=>
       ∃a34:Addr,some (⟨h1.size,0,none⟩:Addr)=some a34/\
       (Wr Q (adr (adr a34 0) 2)/\
        At (hset Q (adr (adr a34 0) 2) (.slice J.a J.len J.cap)) (λP=>
         ∃a36:Addr,some (⟨h1.size,0,none⟩:Addr)=some a36/\
         ∃v37:Int,aZ P (adr (adr a36 0) 0)=some (.int .u32 v37)/\
         wO 246 [.int .u32 v37,.int .i64 i] (λ(e38:Int) O=>
          ∃a40:Addr,some (⟨h1.size,0,none⟩:Addr)=some a40/\
          (Wr O (adr (adr a40 0) 0)/\
           At (hset O (adr (adr a40 0) 0) (.int .u32 e38)) (λh41=>
            K (some ⟨h1.size,0,none⟩) h41))) P))) (hnew D [.string p.1,.string p.2] 33):=by
   generalize hnew D [.string p.1,.string p.2] 33=h4 at X b4 z4 N;rw[cG D];have hA4:=(hA3.upd X λ_ _ h=>h).more (M':=λx=>A3 x\/h4.size<=x) λx hx=>.inl hx
   have hpn:(⟨upd s.p i none,upd s.k i none⟩:Slots).p i=none:=is;refine SE hA4 (abk hi f.dp) (by have:=zI (g:=(⟨upd s.p i none,upd s.k i none⟩:Slots).p);omega) (x:=p) b4 (λe=>e.elim (λe=>by have:=(j _ e).2.2.2;omega) λe=>a4) (λx hx=>.inr hx) λs5 h5 Z z=>?_
   rw[<-X9 hi f.dp hpn p]at Z;have hbl:h1.size<D.size:=bB C.blk;have b5:=z.get N.blk λe=>e.elim (λe=>(j _ e).2.2.1 rfl) λe=>a4
   refine⟨_,rfl,Zh (i:=2) b5 (show 2<6 by decide),KF (i:=2) (c':=eZ d3 n3 s5 G false none) b5 rfl λh6 b6 hu6=>?_⟩
   refine⟨_,rfl,_,eN (i:=0) b6,TI f.d32 hi λw V hwt=>?_⟩
   refine⟨_,rfl,Zh (i:=0) b6 (show 0<6 by decide),KF (i:=0) (c':=eZ w n3 s5 G false none) b6 rfl λh7 b7 hu7=>?_⟩
   have t:=hu6.tr hu7;have z5:=z.size;have z7:=t.size;have U:=Z.within;have e1:(⟨upd (⟨upd s.p i none,upd s.k i none⟩:Slots).p i (some p),upd s.k i none⟩:Slots)=⟨upd s.p i (some p),upd s.k i none⟩:=by rw[TL]
   have o7:OwnN (λx=>h1.size<=x) h7 h1.size w n3 s5 G ⟨upd s.p i (some p),upd s.k i none⟩ none:=by
    rw[<-e1];refine⟨b7,⟨V,f.n32,λc hc=>?_,f.nk⟩,⟨λx=>(A3 x\/h4.size<=x)/\x<h5.size,B3,U.upd t λx hx e=>?_,((hB3.upd X λ_ _ h=>h).upd z λx hx e=>?_).upd t λx hx e=>(k x hx).2.1 e,λx hx=>⟨?_,?_,?_,a4⟩,λx hx=>⟨(k x hx).1,(k x hx).2.1,by have:=(k x hx).2.2;omega⟩⟩,o.mb⟩
    .rw[hwt,f.dp c hc];simp only[upd];split<;>simp[*]
    .have e:x=h1.size:=e
     rcases hx.1 with h|h
     .exact(j x h).2.2.1 e
     .omega
    .rcases e with e|e
     .exact(j x e).2.1 hx
     .have:=(k x hx).2.2;omega
    .rcases hx.1 with h|h
     .exact(j x h).1
     .omega
    .rcases hx.1 with h|h
     .exact(j x h).2.1
     .exact λhb=>by have:=(k x hb).2.2;omega
    .rcases hx.1 with h|h
     .exact(j x h).2.2.1
     .omega
   refine hk _ _ (o7.node S) (((T.tr X).trans z λx hx=>.inr ?_).trans t λx hx=>.inr ?_)
   .rcases hx with h|h
    .have:=(j x h).1;omega
    .omega
   .have hx:x=h1.size:=hx
    omega
  refine⟨rA f.d32 hi ⟨⟨by rw[bZ,bw v];rfl,by rw[bZ,bw v];rfl⟩,eN (i:=2) C.blk,bL ⟨eN (i:=2) N.blk,fin⟩⟩,bL ⟨eN (i:=0) N.blk,eN (i:=2) N.blk,rA f.d32 hi ⟨eN (i:=2) N.blk,fin⟩⟩⟩
theorem Yx(nd:NodeAt W h b s)(g:∀x,W x->x<h.size)(hi:i<32)
  (j:∀h' b',NodeAt W h' b' ⟨upd s.p i none,upd s.k i none⟩->Upd No h h'->K (some ⟨b',0,none⟩) h'):
  fu 247 [gZ b,.pointer none,.int .i64 i] K h:=by
 refine DX _ none i ?_;dsimp only[wr,yK,jV,cJ];refine IM nd hi (ag.2 ?_);refine R9 nd λq d n sp sk o c=>⟨_,rfl,NO o hi λp t u m f e a=>?_⟩
 exact j _ _ (e.node λx hx k=>by have:=g x k;omega) (c.trans a λx hx=>.inr hx)
theorem Ar(nd:NodeAt W h b s)(hW:∀x,W x->x<h.size)(hi:i<32)(hx:∀y,s.k i=some y->s.p i=none)(kid:Addr)
  (hk:∀h' b',NodeAt W h' b' ⟨upd s.p i none,upd s.k i (some (some kid))⟩->Upd No h h'->K (some ⟨b',0,none⟩) h'):
  fu 175 [gZ b,.pointer none,.int .i64 i,.pointer (some kid)] K h:=by
 refine Cr _ none i (some kid) ?_;dsimp only[u0,ey,yK,bR,dd,jV,MR,pX,cJ,jX,fj,ix,N9];refine ag.2 ?_;refine IM nd hi (ag.2 ?_);refine R9 nd λh2 d n sp sk o E=>?_
 have bits:=o.bits;obtain⟨A,B,hA,hB,t,q⟩:=o.ex;have N:∀x,h.size<=x->¬W x:=λx hx D=>by have:=hW x D;omega
 refine⟨_,rfl,_,eN (i:=1) o.blk,EX bits.n32 hi ?_⟩;rw[bits.nk i hi];cases hp:s.k i with
 |some y=>
  refine ay.2 ⟨_,rfl,sk,eN (i:=3) o.blk,_,rfl,_,eN (i:=1) o.blk,?_⟩;refine rA bits.n32 hi ⟨eN (i:=3) o.blk,?_⟩;have hlt:=L6 hi bits.nk hp;obtain⟨a,ha,H,D,R,m⟩:=OwnS.setAt hB hlt (some kid);have hlen:=hB.len;refine⟨a4,a,ha,?_⟩;rw[aY];have Z:Wr h2 (adr a (ye i n*1)):=by
   rcases D with D|⟨b',hb',D⟩
   .cases D
   .cases hb';exact D 0 a6
  refine⟨Z,bL ?_⟩;rw[<-X8 hi bits.nk hp]at R;have ob:=m.get o.blk λe=>(q _ H).2.1 e.symm
  have z3:=m.size;have z:OwnN (λx=>h.size<=x) _ h.size d n sp sk ⟨upd s.p i none,upd s.k i (some (some kid))⟩ none:=⟨ob,⟨bits.d32,bits.n32,λc hc=>by rw[bits.dp c hc,xi (hx y hp)],λc hc=>by
    rw[bits.nk c hc];simp only[upd];split
    .rename_i e;rw[e,hp];rfl
    .rfl⟩,
   ⟨A,B,by rw[xi (hx y hp)];exact hA.upd m λx hx e=>(t _ hx).2.1 (e▸H),R,λx hx=>⟨(t x hx).1,(t x hx).2.1,(t x hx).2.2.1,by have:=(t x hx).2.2.2;omega⟩,λx hx=>⟨(q x hx).1,(q x hx).2.1,by have:=(q x hx).2.2;omega⟩⟩,o.mb⟩
  refine hk _ _ (z.node N) (E.trans m λx hx=>.inr ?_)
  have:=(q _ H).1;have hx:x=a.block:=hx;omega
 |none=>
  refine ag.2 ⟨_,rfl,NO o hi λC d3 n3 F v z m=>?_⟩
  have f:=z.bits;obtain⟨A3,B3,hA3,hB3,j,k⟩:=z.ex;have z2:=E.size;have z3:=m.size;have O:Upd No h C:=E.trans m λx hx=>.inr hx
  refine⟨_,rfl,v,eN (i:=3) z.blk,_,rfl,_,eN (i:=1) z.blk,?_⟩;have Q:=e9 No C [.pointer (some kid)] 50;have b4:=cf C [.pointer (some kid)] 50;have z4:=dS C [.pointer (some kid)] 50;have I:=z.upd Q λ_ h=>h.elim
  have fin:ce 248 [.slice v.a v.len v.cap,.int .i64 (ye i n3),.slice (some (aR C)) 1 1] (λ(G:fD) L=>
       ∃a34:Addr,some (⟨h.size,0,none⟩:Addr)=some a34/\
       (Wr L (adr (adr a34 0) 3)/\
        At (hset L (adr (adr a34 0) 3) (.slice G.a G.len G.cap)) (λT=>
         ∃a36:Addr,some (⟨h.size,0,none⟩:Addr)=some a36/\
         ∃v37:Int,aZ T (adr (adr a36 0) 1)=some (.int .u32 v37)/\
         wO 246 [.int .u32 v37,.int .i64 i] (λ(e38:Int) J=>
          ∃a40:Addr,some (⟨h.size,0,none⟩:Addr)=some a40/\
          (Wr J (adr (adr a40 0) 1)/\
           At (hset J (adr (adr a40 0) 1) (.int .u32 e38)) (λh41=>
            K (some ⟨h.size,0,none⟩) h41))) T))) (hnew C [.pointer (some kid)] 50):=by
   generalize hnew C [.pointer (some kid)] 50=h4 at Q b4 z4 I;rw[cG C];have hB4:=(hB3.upd Q λ_ _ h=>h).more (M':=λx=>B3 x\/h4.size<=x) λx hx=>.inl hx
   have V:(⟨upd s.p i none,upd s.k i none⟩:Slots).k i=none:=is;refine SF hB4 (abk hi f.nk) (by have:=zI (g:=(⟨upd s.p i none,upd s.k i none⟩:Slots).k);omega) (x:=some kid) b4 (λe=>e.elim (λe=>by have:=(k _ e).2.2;omega) λe=>a4) (λx hx=>.inr hx) λU h5 S u=>?_
   rw[<-X9 hi f.nk V (some kid)]at S;have hbl:h.size<C.size:=bB z.blk;have b5:=u.get I.blk λe=>e.elim (λe=>(k _ e).2.1 rfl) λe=>a4
   refine⟨_,rfl,Zh (i:=3) b5 (show 3<6 by decide),KF (i:=3) (c':=eZ d3 n3 F U false none) b5 rfl λh6 b6 Y=>?_⟩
   refine⟨_,rfl,_,eN (i:=1) b6,TI f.n32 hi λw D X=>?_⟩
   refine⟨_,rfl,Zh (i:=1) b6 (show 1<6 by decide),KF (i:=1) (c':=eZ d3 w F U false none) b6 rfl λh7 b7 hu7=>?_⟩
   have p:=Y.tr hu7;have z5:=u.size;have z7:=p.size;have P:=S.within;have e1:(⟨upd s.p i none,upd (⟨upd s.p i none,upd s.k i none⟩:Slots).k i (some (some kid))⟩:Slots)=⟨upd s.p i none,upd s.k i (some (some kid))⟩:=by rw[TL]
   have o7:OwnN (λx=>h.size<=x) h7 h.size d3 w F U ⟨upd s.p i none,upd s.k i (some (some kid))⟩ none:=by
    rw[<-e1];refine⟨b7,⟨f.d32,D,f.dp,λc hc=>?_⟩,⟨A3,λx=>(B3 x\/h4.size<=x)/\x<h5.size,((hA3.upd Q λ_ _ h=>h).upd u λx hx e=>?_).upd p λx hx e=>(j x hx).2.2.1 e,P.upd p λx hx e=>?_,λx hx=>⟨(j x hx).1,?_,(j x hx).2.2.1,by have:=(j x hx).2.2.2;omega⟩,λx hx=>⟨?_,?_,a4⟩⟩,o.mb⟩
    .rw[X,f.nk c hc];simp only[upd];split<;>simp[*]
    .rcases e with e|e
     .exact(j x hx).2.1 e
     .have:=(j x hx).2.2.2;omega
    .have e:x=h.size:=e
     rcases hx.1 with h|h
     .exact(k x h).2.1 e
     .omega
    .rintro⟨h|h,_⟩
     .exact(j x hx).2.1 h
     .have:=(j x hx).2.2.2;omega
    .rcases hx.1 with h|h
     .exact(k x h).1
     .omega
    .rcases hx.1 with h|h
     .exact(k x h).2.1
     .omega
   refine hk _ _ (o7.node N) (((O.tr Q).trans u λx hx=>.inr ?_).trans p λx hx=>.inr ?_)
   .rcases hx with h|h
    .exact(k x h).1
    .omega
   .have hx:x=h.size:=hx
    omega
  refine⟨rA f.n32 hi ⟨eN (i:=3) z.blk,bL ⟨eN (i:=3) I.blk,fin⟩⟩,bL ⟨eN (i:=1) I.blk,eN (i:=3) I.blk,rA f.n32 hi ⟨eN (i:=3) I.blk,fin⟩⟩⟩
end
end Go.Proofs
