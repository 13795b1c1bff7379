/- A part of the proof that the named laws of this program answer true, whatever the input. -/
import Derived.Test.YtakmnggbneeicaaGreatPart4
import Derived.Test.YtakmnggbneeicaaGreatPart3
import Derived.Shelf.SlLaysF0
import Derived.Test.YtakmnggbneeicaaGreatTreeF0
import Derived.Shelf.Lays2
import Derived.Shelf.Sort.Plain
import Derived.Shelf.Slices.In.SortNone
import Derived.Shelf.SlSortCmp.NoneTotal
import Derived.Shelf.Spec.SearchS
import Derived.Laws.Cover1
import Derived.Sort.AssemblyPlain
import Derived.Test.YtakmnggbneeicaaGreatPart0
import Derived.Test.YtakmnggbneeicaaGreatPart2
import Derived.Test.YtakmnggbneeicaaGreatPart1
open Array renaming size->aP,length_toList->eW,getElem?_modify->mu
open BitVec renaming ofInt->aB,ofInt_natCast->iB
open Bool renaming true_and->kA,and_eq_true->bC
open ByteArray renaming size_extract->eK
open Go.IntKind renaming wrap->ac,bits->al,wrap_u64->cX
open Go.Op renaming bytesLess->bF
open Int renaming tdiv->fX,tdiv_eq_ediv_of_nonneg->de,natCast_mul->pi,fdiv->eY,natCast_pow->tf,toNat_natCast->aY,eq_ofNat_of_zero_le->pP,tmod_eq_emod_of_nonneg->nC
open List renaming getElem?_eq_getElem->af,getElem_mem->aF,take_length->bG,map_append->cC,length_map->bP,append_nil->aX,length_eq_zero_iff->aK,filter_cons->bf,length_singleton->aG,mem_append->aN,take_succ_eq_append_getElem->ax,mem_singleton->az,length_append->ae,take_of_length_le->bd,length_filter_le->bQ,filter_append->cy,getElem_map->js,filter_nil->f9,getElem?_toArray->du,getElem?_append_left->bW,getElem?_append_right->bE,getElem?_eq_none->jP,mem_cons->aw,mem_map->be,pairwise_cons->aC,length_take->aV,replicate->eO,zip_cons_cons->jH,mem_cons_self->aq,mem_cons_of_mem->aA,take_succ_cons->dw,filter_eq_self->db,take_append_drop->aW,length_drop->ba,nil_append->cS
open List.Pairwise renaming nil->cj
open List.Perm renaming refl->qx
open Nat renaming le_refl->aj,zero_le->aJ,le_trans->aO,lt_of_lt_of_le->aD,beq->aS,zero_add->aU,mul_le_mul_left->fx,le_of_eq->cL,pow_add->pO,mul_comm->ip,mul_assoc->rE,mul_le_mul_right->cD,mod_eq_of_lt->d9,pow_succ->qp,mod_lt->pC,add_assoc->oV,add_mul->jl,succ_mul->il,min_eq_left->bU,le_of_lt->kr,add_zero->dP,shiftRight_le->iJ,shiftRight_eq_div_pow->cU,not_lt_zero->j1,lt_or_ge->ci
open Option renaming some->bO
open Prod renaming mk->pf
namespace Go.Proofs
open Go.Lift
set_option maxHeartbeats 1000000 in
theorem Xt{W:dx}{x:Hs}{h:ad}{kind p:Int}{rb ro rt:Rt}{B O T:bY}{nb no nt:Nat}(jb:RefIs W h kind x rb B)(jo:RefIs W h kind x ro O)(jt:RefIs W h kind x rt T)(hW:∀y,W y->y<h.size)(fB:Few nb B)(fO:Few no O)(fT:Few nt T)(lb:nb<=1000)(lo:no<=1000)(lt:nt<=1000)
  (hp0:0<=p)(hp1:p<=3){K:Rt×fD×Int->dO}
  (hk0:p=0->pw B O T p≠[]->∀h' s',Sl vu 7 (λb=>b<h.size) h' s' ((pw B O T p).map (Ep B O T))->Upd No h h'->K (ro,s',8) h')
  (hk:(p=0->pw B O T p= [])->∀h' r' s',RefIs W h' kind x r' (jx B O T p)->Sl vu 7 (λb=>b<h.size) h' s' ((pw B O T p).map (Ep B O T))->Upd No h h'->K (r',s',0) h'):
  adj 80 [Vl rb,Vl ro,Vl rt,.int .i64 p] K h:=by
 refine dg (Qx rb ro rt p) Y4 Tryz.func80 Tryz.call80 ?_;dsimp only[Qx,fj,bh,ao,bo,iR,dE,nv,qD,WB,WC,dK,pU,bR,oE,dd,kF,mc,MS,MU,GJ,y9,acz,vy,mH,yz,tx,ge,ix,zZ,cM,ga,G4,KS,zX,Fb,wS,Wl,fY,wQ,qE];refine aQ λh1 b1 k1=>aQ λz b2 k2=>aQ λh3 b3 k3=>aQ λh4 b4 k4=>?_
 have z1:=bB b1;have z2:=bB b2;have z3:=bB b3;have z4:=bB b4;have s1:h.size<=h1.size:=k1.size;have s2:h1.size<=z.size:=k2.size;have s3:z.size<=h3.size:=k3.size;have s4:=k4.size;have k04:=((k1.tr k2).tr k3).tr k4;have c0:=k4.get0 (k3.get0 (k2.get0 b1));have c1:=k4.get0 (k3.get0 b2);have c2:=k4.get0 b3;refine eF (λt h'=>t=false/\h'=h4) (λR hR=>?_) ?_
 .refine ar (λe=>absurd e a4) λ_=>hR _ _ ⟨decide_eq_false a4,rfl⟩
 rintro _ h7 ⟨rfl,e7⟩;rw[e7];refine ag.2 ?_;refine eF (λt h'=>t=false/\Upd No h4 h') (λR hR=>?_) ?_
 .refine⟨_,vc c0 0,_,vc c0 1,_,vc c0 2,_,vc c0 3,rb.2.2.2.2,vc c0 4,_,vc c1 0,_,vc c1 1,_,vc c1 2,_,vc c1 3,ro.2.2.2.2,vc c1 4,?_⟩
  refine CW (r:=rb) (q:=ro) λh5 k5=>?_
  rw[B8 jb jo];have d0:=k5.get0 c0;have d2:=k5.get0 c2;refine ag.2 ⟨_,vc d0 0,_,vc d0 1,_,vc d0 2,_,vc d0 3,rb.2.2.2.2,vc d0 4,_,vc d2 0,_,vc d2 1,_,vc d2 2,_,vc d2 3,rt.2.2.2.2,vc d2 4,?_⟩;refine CW (r:=rb) (q:=rt) λh6 k6=>?_
  rw[B8 jb jt];exact hR _ _ ⟨rfl,k5.tr k6⟩
 rintro t h45 ⟨rfl,k45⟩;have d0:=k45.get0 c0;have d1:=k45.get0 c1;have d2:=k45.get0 c2;have d3:=k45.get0 b4;have k045:=k04.tr k45;have s45:=k45.size;have nB:=fB.len;have nO:=fO.len;have nT:=fT.len;refine ag.2 ⟨_,vc d0 0,_,vc d0 1,_,vc d0 2,_,vc d0 3,rb.2.2.2.2,vc d0 4,_,vc d1 0,_,vc d1 1,_,vc d1 2,_,vc d1 3,ro.2.2.2.2,vc d1 4,_,vc d2 0,_,vc d2 1,_,vc d2 2,_,vc d2 3,rt.2.2.2.2,vc d2 4,?_⟩;refine aQ λh72 b72 k72=>?_
 have s72:=k72.size;have k072:=k045.tr k72;have hrow:∀i,i<3->∃r l,[B,O,T][i]? =some l/\RefIs W h kind x r l/\(l.length<=1000/\Few l.length l)/\∀h',Upd No h72 h'->aZ h' (adr (adr (aR h45) (i*5)) 0)=some (.int .i64 r.1)/\aZ h' (adr (adr (aR h45) (i*5)) 1)=some (.int .u64 r.2.1)/\aZ h' (adr (adr (aR h45) (i*5)) 2)=some (.int .u64 r.2.2.1)/\aZ h' (adr (adr (aR h45) (i*5)) 3)=some (.int .u64 r.2.2.2.1)/\aZ h' (adr (adr (aR h45) (i*5)) 4)=some (.slice r.2.2.2.2.a r.2.2.2.2.len r.2.2.2.2.cap):=λi hi=>by
  have hi:i=0\/i=1\/i=2:=a4
  rcases hi with rfl|rfl|rfl
  .exact⟨rb,B,rfl,jb,⟨a4,fB.up,aj _,fB.fit⟩,λh' k'=>have q:=k'.get0 b72;⟨iq q (0*5) 0,iq q (0*5) 1,iq q (0*5) 2,iq q (0*5) 3,iq q (0*5) 4⟩⟩
  .exact⟨ro,O,rfl,jo,⟨a4,fO.up,aj _,fO.fit⟩,λh' k'=>have q:=k'.get0 b72;⟨iq q (1*5) 0,iq q (1*5) 1,iq q (1*5) 2,iq q (1*5) 3,iq q (1*5) 4⟩⟩
  .exact⟨rt,T,rfl,jt,⟨a4,fT.up,aj _,fT.fit⟩,λh' k'=>have q:=k'.get0 b72;⟨iq q (2*5) 0,iq q (2*5) 1,iq q (2*5) 2,iq q (2*5) 3,iq q (2*5) 4⟩⟩
 refine ez (λ(i:Nat) (t:fD×Int) h'=>t.2=(i:Int)/\i<=3/\(∃acc,acc=([B,O,T].take i).foldl GO []/\Sl dT 2 No h' t.1 acc/\bS acc/\acc.length<=i*1000/\∀q∈acc,q.1.size<=30)/\Upd No h72 h') (λi=>3-i) 0 ⟨rfl,aJ _,⟨[],rfl,Sl.nil fP,cj,aJ _,λ_ h=>(by cases h)⟩,eM _ _⟩ ?_
 rintro I i ⟨sa,ti⟩ D ⟨e,hi,⟨acc,eacc,hs,hra,hla,hka⟩,hu⟩ hI;(try simp only at e hs)
 subst e;refine ar (λhlt=>?_) λhge=>?_
 .have hlt:i<3:=by(try simp only at hlt);omega
  obtain⟨r,l,el,⟨s,er,hl,_⟩,⟨ln,fl⟩,hc⟩:=hrow i hlt;obtain⟨e0,e1,e2,e3,e4⟩:=hc D hu;subst er;refine⟨⟨by(try simp only);omega,by(try simp only);omega⟩,_,rfl,_,e0,_,e1,_,e2,_,e3,s,e4,?_⟩
  refine Is (r:=(kind,hx kind x.k0,hx kind x.k1,hx kind x.mask,s)) λh83 b83 k83=>⟨s,vc b83 4,?_⟩
  have k083:=(k072.tr hu).tr k83;have hll:=hl.len;refine ez (λ(q:Nat) (t:fD×Int) h'=>t.2=(q:Int)/\q<=l.length/\(∃ac2,ac2=GO acc (l.take q)/\Sl dT 2 No h' t.1 ac2/\bS ac2/\ac2.length<=acc.length+q/\∀q∈ac2,q.1.size<=30)/\Upd No h83 h') (λq=>l.length-q) 0 ⟨rfl,aJ _,⟨acc,rfl,hs.upd k83 λ_ h=>h.elim,hra,aj _,hka⟩,eM _ _⟩ ?_
  rintro I2 q ⟨sb,tq⟩ h87 ⟨e,hq,⟨ac2,X,hsb,hra2,hla2,hka2⟩,hu2⟩ hI2;(try simp only at e hsb)
  subst e;refine ar (λm=>?_) λhgq=>?_
  .have m:q<l.length:=by(try simp only at m);omega
   obtain⟨a,ha,_,hv⟩:=(hl.upd (k083.tr hu2) λ_ h=>h.elim).at (af m)
   refine⟨⟨by(try simp only);omega,by(try simp only);omega⟩,a,ha,l[q].1,hv 0 _ rfl,l[q].2,hv 1 _ rfl,?_⟩
   have f30:=fl.fit _ (aF m);refine ux (p:=l[q]) λh92 b92 k92=>⟨_,vc b92 0,_,vc b92 1,?_⟩
   refine T3 (p:=l[q]) (hsb.upd k92 λ_ h=>h.elim) hra2 a4 a4 λs' h96 ho96 k96=>?_
   have hl1:=EW l[q] (l:=ac2);(try simp only)
   rw[mK m a4];refine hI2 (q+1) _ _ ⟨rfl,m,⟨_,rfl,?_,?_,?_,?_⟩,(hu2.tr k92).tr k96⟩ a4
   .rw[Ay m,<-X];exact ho96.sl λ_ _ _ h=>h
   .rw[Ay m,<-X];exact pF _ hra2
   .rw[Ay m,<-X];omega
   .rw[Ay m,<-X]
    intro q' hq';rcases uy hq' with rfl|hq'
    .exact f30.1
    .exact hka2 q' hq'
  .have hql:q=l.length:=by(try simp only at hgq);omega
   subst hql;rw[bG]at X;(try simp only)
   rw[mK hlt a4];refine hI (i+1) _ _ ⟨rfl,hlt,⟨ac2,?_,hsb,hra2,a4,hka2⟩,(hu.tr k83).tr hu2⟩ a4
   rw[List.take_add_one,el,List.foldl_append,<-eacc];exact X
 .have hi3:i=3:=by(try simp only at hge);omega
  subst hi3;have eacc:acc=zk B O T:=eacc;have hU:bS acc:=hra;have u75:=k72.tr hu;have g0:=u75.get0 d0;have g1:=u75.get0 d1;have g2:=u75.get0 d2;have g3:=u75.get0 d3;have k075:=k045.tr u75;have s75:=u75.size;have jo':=jo;obtain⟨so,er,_,_⟩:=jo';subst er;refine⟨_,vc g1 0,_,vc g1 1,_,vc g1 2,_,vc g1 3,so,vc g1 4,?_⟩;refine Is (r:=(kind,hx kind x.k0,hx kind x.k1,hx kind x.mask,so)) λh103 b103 k103=>?_
  have s103:=k103.size;have z103:=bB b103;refine oD (i:=4) (c':=(ry (kind,hx kind x.k0,hx kind x.k1,hx kind x.mask,⟨none,0,0⟩)).toArray) b103 (show 4<5 by decide) rfl λC b104 hu104=>?_
  have U:Upd No D C:=k103.own hu104 (aj _);have s104:=U.size;have z104:=bB b104;have hlen:=hs.len;have hM:B4 B O T p acc=jx B O T p:=by rw[eacc];exact Sa fB.up fO.up fT.up
  have hC:Jg B O T p acc=pw B O T p:=by rw[eacc];exact S3 fB.up fT.up
  clear eacc hI;have hsU:Sl dT 2 (λy=>D.size<=y) C sa acc:=(hs.less λb hb=>.inr hb).upd U λ_ h=>h.elim
  refine ez (λ(g:Nat×(dx)×(dx)) (t:fD×Int) z=>t.2=(g.1:Int)/\g.1<=acc.length/\OwnS vu 7 88 g.2.1 z t.1 ((Jg B O T p (acc.take g.1)).map (Ep B O T))/\(∃sv,OwnS dT 2 169 g.2.2 z sv (B4 B O T p (acc.take g.1))/\z[D.size]? =some (.cells (ry (kind,hx kind x.k0,hx kind x.k1,hx kind x.mask,sv)).toArray 111 (0,0)))/\(∀y,g.2.1 y->C.size<=y/\y<z.size/\¬g.2.2 y)/\(∀y,g.2.2 y->C.size<=y/\y<z.size)/\Upd (· =D.size) C z) (λg=>acc.length-g.1) (0,No,No)
   ⟨rfl,aJ _,OwnS.nil NW,⟨⟨none,0,0⟩,OwnS.nil fP,b104⟩,λ_ h=>h.elim,λ_ h=>h.elim,eM _ _⟩ ?_
  rintro I3 ⟨q,S1,S2⟩ ⟨sc,tq⟩ h107 ⟨e,hq,hoc,⟨sv,hov,bv⟩,N,hS2,hu3⟩ hI3;(try simp only at e hq hoc hov N hS2)
  subst e;have s107:=hu3.size;have hn:∀{b:Nat},b<D.size->¬b=D.size:=λh e=>a4
  have q0:=hu3.get (U.get0 g0) (hn a4);have q1:=hu3.get (U.get0 g1) (hn a4);have q2:=hu3.get (U.get0 g2) (hn a4);have q3:=hu3.get (U.get0 g3) (hn a4);have k0107:Upd No h h107:=(k075.tr U).own hu3 a4;refine ar (λm=>?_) λhgq=>?_
  .have m:q<acc.length:=by(try simp only at m);omega
   obtain⟨a,ha,_,hv⟩:=(hsU.upd hu3 λy f=>.inl (by have f:y=D.size:=f;show D.size<=y;omega)).at (af m)
   have hcl:=Ys (B:=B) (O:=O) (T:=T) (p:=p) (l:=acc.take q);have hol:=XC (B:=B) (O:=O) (T:=T) (p:=p) (l:=acc.take q);rw[List.length_take]at hcl hol;refine eF (λt z=>∃H S2',OwnS vu 7 88 H z t ((Jg B O T p (acc.take (q+1))).map (Ep B O T))/\(∃sv,OwnS dT 2 169 S2' z sv (B4 B O T p (acc.take (q+1)))/\z[D.size]? =some (.cells (ry (kind,hx kind x.k0,hx kind x.k1,hx kind x.mask,sv)).toArray 111 (0,0)))/\(∀y,H y->C.size<=y/\y<z.size/\¬S2' y)/\(∀y,S2' y->C.size<=y/\y<z.size)/\Upd (· =D.size) C z) (λR hR=>⟨⟨by(try simp only);omega,by(try simp only);omega⟩,a,ha,acc[q].1,hv 0 _ rfl,acc[q].2,hv 1 _ rfl,?_⟩) ?_
   .rw[V5 m,VD m,cC]at hR
    have hk30:=hka _ (aF m);generalize acc[q]=c at hR hk30⊢;obtain⟨k,v⟩:=c;(try simp only at hR hk30)
    refine ux (p:=(k,v)) λh113 J Y=>?_
    have s113:=Y.size;have z113:=bB J;have r0:=Y.get0 q0;have r1:=Y.get0 q1;have r2:=Y.get0 q2;have n:=k0107.tr Y;have hB:Fit B:=fB.fits;have hO:Fit O:=fO.fits;have hT:Fit T:=fT.fits;refine eF (λt z=>∃b,t=⟨b,0,none⟩/\z[b]? =some (.cells (vu (Ep B O T k)).toArray 88 (0,0))/\Upd No h113 z) (λR2 hR2=>?_) ?_
    .refine⟨k,vc J 0,_,vc r0 0,_,vc r0 1,_,vc r0 2,_,vc r0 3,rb.2.2.2.2,vc r0 4,k,vc J 0,_,vc r1 0,_,vc r1 1,_,vc r1 2,_,vc r1 3,so,vc r1 4,k,vc J 0,_,vc r2 0,_,vc r2 1,_,vc r2 2,_,vc r2 3,rt.2.2.2.2,vc r2 4,k,vc J 0,?_,?_⟩
     .refine nK (jb.upd0 n) fB.up hB a4 k λh183 Q=>?_
      have b183:=Q.get0 J;have L:=Q.get0 r1;have d:=Q.get0 r2;refine⟨vc b183 0,⟨vc d 0,vc d 1,vc d 2,vc d 3,vc d 4⟩,vc b183 0,⟨vc L 0,vc L 1,vc L 2,vc L 3,vc L 4⟩,vc b183 0,?_,?_⟩
      .refine nK (jo.upd0 (n.tr Q)) fO.up hO a4 k λh185 k185=>?_
       have b185:=k185.get0 b183;have d:=k185.get0 d;have u185:=Q.tr k185;refine⟨vc b185 0,⟨vc d 0,vc d 1,vc d 2,vc d 3,vc d 4⟩,vc b185 0,?_,?_⟩
       .refine nK (jt.upd0 (n.tr u185)) fT.up hT a4 k λh187 k187=>?_
        have u187:=u185.tr k187;refine⟨vc (k187.get0 b185) 0,aQ λh188 b188 k188=>⟨vc (k188.get0 (k187.get0 b185)) 0,?_⟩⟩
        exact co (c:=vu Zn) (vs:=vu (Ep B O T k)) b188 rfl λh189 V E=>hR2 _ _ ⟨_,rfl,V,(u187.tr k188).own E u187.size⟩
       .refine aQ λh190 b190 k190=>?_
        have b190':=k190.get0 b185;have d:=k190.get0 d;have u190:=u185.tr k190;refine⟨vc b190' 0,⟨vc d 0,vc d 1,vc d 2,vc d 3,vc d 4⟩,vc b190' 0,?_⟩;refine nK (jt.upd0 (n.tr u190)) fT.up hT a4 k λh192 k192=>?_
        refine⟨vc (k192.get0 b190') 0,?_⟩;exact co (c:=vu Zn) (vs:=vu (Ep B O T k)) (k192.get0 b190) rfl λh189 V E=>hR2 _ _ ⟨_,rfl,V,(u190.tr k192).own E u185.size⟩
      .refine aQ λh194 b194 k194=>?_
       have b194':=k194.get0 b183;have L:=k194.get0 L;have d:=k194.get0 d;have u194:=Q.tr k194;refine⟨vc b194' 0,⟨vc d 0,vc d 1,vc d 2,vc d 3,vc d 4⟩,vc b194' 0,⟨vc L 0,vc L 1,vc L 2,vc L 3,vc L 4⟩,vc b194' 0,?_⟩;refine nK (jo.upd0 (n.tr u194)) fO.up hO a4 k λh196 k196=>?_
       have b196':=k196.get0 b194';have b196:=k196.get0 b194;have d:=k196.get0 d;have u196:=u194.tr k196;refine⟨vc b196' 0,⟨vc d 0,vc d 1,vc d 2,vc d 3,vc d 4⟩,vc b196' 0,?_⟩;refine nK (jt.upd0 (n.tr u196)) fT.up hT a4 k λh198 k198=>?_
       refine⟨vc (k198.get0 b196') 0,?_⟩;exact co (c:=vu Zn) (vs:=vu (Ep B O T k)) (k198.get0 b196) rfl λh189 V E=>hR2 _ _ ⟨_,rfl,V,(u196.tr k198).own E Q.size⟩
     .refine aQ λh200 b200 k200=>?_
      have P:=k200.get0 J;have p0:=k200.get0 r0;have L:=k200.get0 r1;have d:=k200.get0 r2;refine⟨vc P 0,⟨vc d 0,vc d 1,vc d 2,vc d 3,vc d 4⟩,vc P 0,⟨vc L 0,vc L 1,vc L 2,vc L 3,vc L 4⟩,vc P 0,⟨vc p0 0,vc p0 1,vc p0 2,vc p0 3,vc p0 4⟩,vc P 0,?_⟩;refine nK (jb.upd0 (n.tr k200)) fB.up hB a4 k λh202 k202=>?_
      have b202':=k202.get0 P;have b202:=k202.get0 b200;have L:=k202.get0 L;have d:=k202.get0 d;have u202:=k200.tr k202;refine⟨vc b202' 0,⟨vc d 0,vc d 1,vc d 2,vc d 3,vc d 4⟩,vc b202' 0,⟨vc L 0,vc L 1,vc L 2,vc L 3,vc L 4⟩,vc b202' 0,?_⟩;refine nK (jo.upd0 (n.tr u202)) fO.up hO a4 k λh204 k204=>?_
      have b204':=k204.get0 b202';have b204:=k204.get0 b202;have d:=k204.get0 d;have u204:=u202.tr k204;refine⟨vc b204' 0,⟨vc d 0,vc d 1,vc d 2,vc d 3,vc d 4⟩,vc b204' 0,?_⟩;refine nK (jt.upd0 (n.tr u204)) fT.up hT a4 k λh206 k206=>?_
      refine⟨vc (k206.get0 b204') 0,?_⟩;exact co (c:=vu Zn) (vs:=vu (Ep B O T k)) (k206.get0 b204) rfl λh189 V E=>hR2 _ _ ⟨_,rfl,V,(u204.tr k206).own E (aj _)⟩
    rintro _ h142 ⟨bx,rfl,S,k142⟩;refine⟨_,iq S 1 0,_,iq S 1 1,_,iq S 3 0,_,iq S 3 1,_,iq S 5 0,_,iq S 5 1,?_⟩;refine Xp (b:=As (look B k)) (o:=As (look O k)) (t:=As (look T k)) λh150 k150=>?_
    rw[TP];have htk:um (look B k) (look O k) (look T k) p=tk B O T p k:=rfl;rw[htk];generalize tk B O T p k=tkc at hR;refine abf (s:=As tkc.1) λh152 b152 k152=>?_
    have z152:=bB b152;have u152:=(k142.tr k150).tr k152;have Z:=Y.tr u152;have s152:=Z.size;have s150:h113.size<=h150.size:=(k142.tr k150).size;have b113':=u152.get0 J;have F:=(k150.tr k152).get0 S;have bv152:=Z.get0 bv;refine eF (λt z=>∃H,OwnS vu 7 88 H z t ((Jg B O T p (acc.take q)).map (Ep B O T)++(if tkc.2=true then[]else[k]).map (Ep B O T))/\(∀y,H y->C.size<=y/\y<z.size/\¬S2 y)/\(∀y,H y->S1 y\/h152.size<=y)/\Upd H h152 z) (λR3 hR3=>?_) ?_
    .refine eh (λe=>?_) λe=>?_
     .have e2:tkc.2=false:=by simpa using e
      rw[e2,if_neg Bool.false_ne_true]at hR3;refine⟨_,vc F 0,_,vc F 1,_,vc F 2,_,vc F 3,_,vc F 4,_,vc F 5,_,vc F 6,?_⟩;refine Mm (c:=Ep B O T k) (M:=λy=>S1 y\/h152.size<=y) ((hoc.upd Z λ_ _ h=>h).more λ_ h=>.inl h) (λ_ h=>.inr h) (by rw[bP];omega) λs163 h164 ho164 u=>?_
      have s164:=u.size;refine hR3 _ _ ⟨_,ho164.within,λy f=>⟨?_,f.2,λz=>?_⟩,λy f=>f.1,?_⟩
      .rcases f.1 with h|h
       .exact(N y h).1
       .omega
      .rcases f.1 with h|h
       .exact(N y h).2.2 z
       .have:=(hS2 y z).2;omega
      .exact u.mono λy f=>f.elim (λh=>.inl ⟨.inl h,by have:=(N y h).2.1;omega⟩) .inr
     .have e2:tkc.2=true:=by simpa using e
      rw[e2,if_pos rfl,List.map_nil,aX]at hR3;exact hR3 _ _ ⟨S1,hoc.upd Z λ_ _ h=>h,λy f=>⟨(N y f).1,by have:=(N y f).2.1;omega,(N y f).2.2⟩,λy f=>.inl f,eM _ _⟩
    rintro sc' h164 ⟨H,hoc',j,hS1n,u⟩;have s164:=u.size;have nS:∀{b:Nat},b<C.size\/(h107.size<=b/\b<h152.size)->¬H b:=λ{b} hb hb'=>by
     have h1:=(j b hb').1;rcases hS1n b hb' with h|h
     .have:=(N b h).2.1;omega
     .omega
    have b152':=u.get b152 (nS a4);have b113'':=u.get b113' (nS a4);have bv164:=u.get bv152 (nS a4);have hov164:=(hov.upd Z λ_ _ h=>h).upd u λy f h1=>(j y h1).2.2 f
    have hu104:Upd (· =D.size) C h164:=(hu3.tr Z.wide).trans u λy f=>.inr (j y f).1
    refine⟨(As tkc.1).2,vc b152' 1,?_⟩;cases hc1:tkc.1 with
    |none=>
     rw[hc1]at hR;refine ag.2 (hR _ _ ⟨H,S2,hoc',⟨sv,?_,bv164⟩,j,λy f=>⟨(hS2 y f).1,by have:=(hS2 y f).2;omega⟩,hu104⟩)
     show OwnS dT 2 169 S2 h164 sv (_++ [])
     rw[aX];exact hov164
    |some w=>
     rw[hc1]at hR;rw[hc1]at b152';refine ay.2 ⟨sv,vc bv164 4,k,vc b113'' 0,w,vc b152' 0,bL ?_⟩;refine uI (p:=(k,w)) (M:=λy=>S2 y\/h164.size<=y) (hov164.more λ_ h=>.inl h) (λ_ h=>.inr h) a4 λs171 h172 ho172 hu172=>?_
     have s172:=hu172.size;have nS2:¬(S2 D.size\/h164.size<=D.size):=λh=>by
      rcases h with h|h
      .have:=(hS2 _ h).1;omega
      .omega
     refine oD (i:=4) (c':=(ry (kind,hx kind x.k0,hx kind x.k1,hx kind x.mask,s171)).toArray) (hu172.get bv164 nS2) (show 4<5 by decide) rfl λh173 b173 hu173=>?_
     have s173:=hu173.size;refine hR _ _ ⟨H,λy=>(S2 y\/h164.size<=y)/\y<h172.size,(hoc'.upd hu172 λy f z=>?_).upd hu173 λy f e=>?_,⟨s171,ho172.within.upd hu173 λy f e=>?_,b173⟩,λy f=>⟨(j y f).1,by have:=(j y f).2.1;omega,λz=>?_⟩,λy f=>⟨?_,a4⟩,?_⟩
     .rcases z with z|z
      .exact(j y f).2.2 z
      .have:=(j y f).2.1;omega
     .have e:y=D.size:=e
      have:=(j y f).1;omega
     .have e:y=D.size:=e
      exact nS2 (e▸f.1)
     .rcases z.1 with z|z
      .exact(j y f).2.2 z
      .have:=(j y f).2.1;omega
     .rcases f.1 with h|h
      .exact(hS2 y h).1
      .omega
     .refine(hu104.trans hu172 λy f=>.inr ?_).tr hu173
      rcases f with h|h
      .exact(hS2 y h).1
      .omega
   .rintro sc' z ⟨H,S2',hoc',hex,j,hS2',hu'⟩
    (try simp only)
    rw[mK m a4];exact hI3 (q+1,H,S2') _ _ ⟨rfl,m,hoc',hex,j,hS2',hu'⟩ (by show acc.length-(q+1)<acc.length-q;omega)
  .have hql:q=acc.length:=by(try simp only at hgq);omega
   subst hql;rw[bG]at hoc hov;rw[hC]at hoc;rw[hM]at hov;have hscl:=hoc.len;rw[bP]at hscl;have hb:(pw B O T p= [])↔sc.len=0:=by rw[hscl];exact aK.symm
   refine eF (λt h'=>t=(decide (p=0)&&decide (sc.len>0))/\h'=h107) (λR hR=>?_) ?_
   .refine eh (λe=>hR _ _ ⟨?_,rfl⟩) λe=>hR _ _ ⟨?_,rfl⟩
    .have e:p=0:=by simpa using e
     rw[decide_eq_true e,kA,decide_eq_decide];(try simp only);omega
    .have e:p≠0:=by simpa using e
     rw[decide_eq_false e,Bool.false_and]
   rintro t h' ⟨rfl,e'⟩;rw[e'];have hslc:Sl vu 7 No h107 sc ((pw B O T p).map (Ep B O T)):=hoc.sl λ_ _ _ h=>h
   refine eh (λe=>?_) λe=>?_
   .have e:p=0/\sc.len>0:=by simpa using e
    refine⟨_,vc q1 0,_,vc q1 1,_,vc q1 2,_,vc q1 3,so,vc q1 4,?_⟩;refine co (c:=ry KA) (vs:=ry (kind,hx kind x.k0,hx kind x.k1,hx kind x.mask,so)) q3 rfl λh198 A G=>?_
    refine⟨_,vc A 0,_,vc A 1,_,vc A 2,_,vc A 3,so,vc A 4,?_⟩;refine hk0 e.1 (λhc=>by have:=hb.1 hc;omega) h198 sc ((hoc.upd G λy f e=>?_).sl λb hb _ hw=>by have:=(N b hb).1;have hw:b<h.size:=hw;omega) (k0107.own G a4)
    have e:y=h3.size:=e;have:=(N y f).1;omega
   .have e:p=0->sc.len=0:=λhp=>by
     rw[decide_eq_true hp,kA]at e;have:=of_decide_eq_false e;omega
    refine⟨_,vc bv 0,_,vc bv 1,_,vc bv 2,_,vc bv 3,sv,vc bv 4,?_⟩;refine co (c:=ry KA) (vs:=ry (kind,hx kind x.k0,hx kind x.k1,hx kind x.mask,sv)) q3 rfl λh198 A G=>?_
    refine⟨_,vc A 0,_,vc A 1,_,vc A 2,_,vc A 3,sv,vc A 4,?_⟩;refine hk (λhp=>hb.2 (e hp)) h198 (kind,hx kind x.k0,hx kind x.k1,hx kind x.mask,sv) sc ⟨sv,rfl,(hov.upd G λy f e=>?_).sl λy f _ hw=>?_,hov.cap⟩ ((hoc.upd G λy f e=>?_).sl λb hb _ hw=>by have:=(N b hb).1;have hw:b<h.size:=hw;omega) (k0107.own G a4)
    .have e:y=h3.size:=e
     have:=(hS2 y f).1;omega
    .have h1:=(hS2 y f).1
     have z:=hW y hw;omega
    .have e:y=h3.size:=e
     have:=(N y f).1;omega
section
variable {W:dx}{h:ad}{K:fD->dO}
theorem Par.filter(p:Int->Bool):∀{l:List (Int×fD)} {m:dA},Par W h l m->Par W h (l.filter λv=>p v.1) (m.filter λv=>p v.1)
 | [],[],_=>trivial
 |v::l,u::m,q=>by
  rw[bf,bf,q.1];split
  .exact⟨q.1,q.2.1,Par.filter p q.2.2⟩
  .exact Par.filter p q.2.2
 | [],_::_,q=>q.elim
 |_::_,[],q=>q.elim
theorem YL{M:dx}{so:fD}{out:List (Int×fD)}{v:Int×fD}(c:OwnS vf 2 129 M h so out)(hM:∀b,h.size<=b->M b)(g:out.length<=1000000000)
  (f:∀s' h',OwnS vf 2 129 M h' s' (out++ [v])->Upd M h h'->K s' h'):
  ∃xs,SRow (hnew h [.int .u32 v.1,.slice v.2.a v.2.len v.2.cap] 129) (some (aR h)) (1*2) xs/\AppP (some [.int .u32 0,.slice none 0 0]) 2 32 129 so.a so.len so.cap 1 xs (hnew h [.int .u32 v.1,.slice v.2.a v.2.len v.2.cap] 129) K:=by
 have k:=e9 No h [.int .u32 v.1,.slice v.2.a v.2.len v.2.cap] 129;have e:OwnS vf 2 129 (λ_=>True) (hnew h [.int .u32 v.1,.slice v.2.a v.2.len v.2.cap] 129) ⟨some (aR h),1,1⟩ [v]:=⟨rfl,OH,aj _,.inr ⟨h.size,[],rfl,trivial,cf ..,rfl⟩⟩
 refine⟨_,(e.sl (W:=No) λ_ _ _ h=>h).srow,?_⟩
 refine AppP.own (ys:= [v]) (c.upd k λ_ _ h=>h) rfl rfl rfl rfl a4 (by simp only[aG];omega) (hM _ (by rw[dS];omega)) λs' h' a d=>?_
 exact f s' h' a ((e9 M h _ _).tr d)
theorem WJ{x:Nat}{L:dA}{nx:Int}(g:RefAt W h x L nx)(gd:Good L){s:fD}{keep:List Int}(hs:Nums W h s keep)(hn:keep.length<=1000)
  (z:∀s' h' (st:List Int),(∀y,y∈st↔∃k∈keep,UpG L k y)->Nums (λb=>b<h.size) h' s' ((eR L).filter λy=> !decide (y∈st))->RefAt W h' x (L.filter λv=>decide (v.1∈st)) nx->Upd (· =x) h h'->K s' h'):
  ce 82 [gZ x,.slice s.a s.len s.cap] K h:=by
 refine dg (JM (some ⟨x,0,none⟩) s) Ts Tryz.func82 Tryz.call82 ?_;dsimp only[JM,ff,iC,dK,Kp,OF,Q7,vK,cz,fj,cJ,ix,dd,Qq,ey,nv,bR,jX,sM,sL];have hL:=gd.len;refine ez (λ(m:Nat×List Int) (t:fD×Int) h'=>t.2=(m.1:Int)/\m.1<=keep.length/\Upd No h h'/\OwnS u32 1 31 (λb=>h.size<=b) h' t.1 m.2/\(∀y,y∈m.2↔∃k∈keep.take m.1,UpG L k y)/\m.2.length<=m.1*100000) (λm=>keep.length-m.1) (0,[])
  ⟨rfl,aJ _,eM _ _,OwnS.nil kz,λy=>a6,aJ _⟩ ?_
 rintro I ⟨i,st⟩ ⟨so,t⟩ h' ⟨ht,hi,n,ho,F,V⟩ hI;(try simp only at ht hi ho F V)
 subst ht;have hs1:Nums W h' s keep:=hs.upd n λ_ h=>h.elim
 refine ar (λc=>?_) λhge=>?_
 .rw[hs.len]at c
  have c:i<keep.length:=a4
  obtain⟨a,ha,_,hx⟩:=Nums.at hs1 c;refine eQ ⟨by rw[hs.len];omega,a,ha,_,hx,xb (g.upd0 n) gd _ λs1 h1 xs hx1 U X J=>?_⟩
  have hxl:xs.length<=L.length:=by
   have:=mM (hx1.imp λh=>Int.ne_of_lt h) (l':=eR L) λy hy=>((U y).1 hy).right
   simpa using this
  refine⟨_,X.srow,?_⟩;refine AppP.own (ys:=xs) (ho.upd J λ_ _ h=>h) X.len rfl (qa xs) rfl a4 a4 (aO n.size J.size) λs2 S ho2 d=>?_
  (try simp only)
  rw[bN c a4];refine hI (i+1,st++xs) _ _ ⟨rfl,c,(n.tr J).trans d λb hb=>.inr hb,ho2,λy=>?_,?_⟩ (by(try simp only);omega)
  ·(try simp only)
   rw[aN,F,U,ax c];constructor
   .rintro(⟨k,z,n⟩|n)
    .exact⟨k,List.mem_append_left _ z,n⟩
    .exact⟨_,List.mem_append_right _ (az.2 rfl),n⟩
   .rintro⟨k,z,n⟩
    rcases aN.1 z with z|z
    .exact .inl ⟨k,z,n⟩
    .rw[az.1 z]at n;exact .inr n
  .simp only[ae]
   rw[Nat.succ_mul];omega
 .rw[hs.len]at hge
  rw[bd a4]at F;have g1:=g.upd0 n;obtain⟨Z,t0,Ls,h1,S,h3,hcap⟩:=g1.blk;have G:=h3.len;refine⟨_,rfl,Z,by rw[bZ,bw h1];rfl,?_⟩
  have hst:Nums No h' so st:=ho.sl λ_ _ _ h=>h
  have R:st.length<=4611686018427387904:=a4
  refine ez (λ(m:Nat×(dx)×(dx)) (t:fD×fD×Int) f=>t.2.2=(m.1:Int)/\m.1<=L.length/\Upd No h' f/\OwnS u32 1 31 m.2.1 f t.1 (((eR L).take m.1).filter λy=> !decide (y∈st))/\
    OwnS vf 2 129 m.2.2 f t.2.1 ((Ls.take m.1).filter λv=>decide (v.1∈st))/\(∀b,m.2.1 b->¬m.2.2 b)/\(∀b,m.2.1 b\/m.2.2 b->h'.size<=b/\b<f.size)) (λm=>L.length-m.1) (0,No,No)
   ⟨rfl,aJ _,eM _ _,OwnS.nil kz,OwnS.nil OH,λ_ h=>h.elim,λ_ h=>h.elim (λh=>h.elim) λh=>h.elim⟩ ?_
  rintro I2 ⟨j,A,B⟩ ⟨out,left,t⟩ f ⟨ht,hj,d,w,p,q,e⟩ P;(try simp only at ht hj w p q e)
  subst ht;have T:=S.upd d λ_ h=>h.elim
  refine ar (λc=>?_) λu=>?_
  .have c:(j:Int)<(Z.len:Int):=c
   rw[S.len,G]at c;have c:j<L.length:=a4
   obtain⟨a,ha,c0,c1⟩:=MV T (G▸c);obtain⟨e1,e2⟩:=h3.get (G▸c) c;obtain⟨q1,O,E⟩:=Rv f 129 (.int .u32 0) (.slice none 0 0) (Ls[j]'(G▸c));refine eQ ⟨by show(0:Int)<=(j:Int)/\(j:Int)<(Z.len:Int);rw[S.len,G];omega,a,ha,_,c0,_,c1,q1,_,lz O 0,Ht ((hst.upd d λ_ h=>h.elim).upd E λ_ h=>h.elim) R _ (ar (λhm=>?_) λhm=>?_)⟩
   .refine⟨_,lz O 0,Ls[j].2,lz O 1,?_⟩
    refine YL (M:=λb=>B b\/aP f+1<=b) (v:=Ls[j]) ((p.upd E λ_ _ h=>h).more λb hb=>.inl hb) (λb hb=>.inr (aO (bB O) hb)) ?_ λs5 C N o=>?_
    .have:=bQ (λv:Int×fD=>decide (v.1∈st)) (Ls.take j);simp at this;omega
    ·(try simp only)
     rw[bN c a4];refine P (j+1,A,λb=>(B b\/aP f+1<=b)/\b<C.size) _ _ ⟨rfl,c,?_,?_,?_,?_,?_⟩ (by(try simp only);omega)
     .exact(d.tr E).trans o λb hb=>.inr (hb.elim (λhb=>(e b (.inr hb)).1) λhb=>by have:=d.size;omega)
     ·(try simp only)
      rw[ax (by simpa using c),cy,bf,js,if_neg (by rw[e1]at hm;simpa using hm),f9,aX];exact(w.upd E λ_ _ h=>h).upd o λb hb=>λh=>h.elim (q b hb) λh=>by have:=(e b (.inl hb)).2;omega
     ·(try simp only)
      rw[ax (G▸c),cy,bf,if_pos (decide_eq_true hm)];exact N.within
     .intro b hb D
      rcases D.1 with Y|Y
      .exact q b hb Y
      .have:=(e b (.inl hb)).2;omega
     .intro b hb
      have hs5:=(E.wide.tr o).size;rcases hb with hb|⟨hb|hb,hb3⟩
      .have:=e b (.inl hb);show h'.size<=b/\b<C.size;omega
      .have:=e b (.inr hb);show h'.size<=b/\b<C.size;omega
      .have:=d.size;show h'.size<=b/\b<C.size;omega
   .refine⟨_,lz O 0,?_⟩
    refine AK (M:=λb=>A b\/aP f+1<=b) ((w.upd E λ_ _ h=>h).more λb hb=>.inl hb) (λb hb=>.inr (aO (bB O) hb)) ?_ λs5 C N o=>?_
    .have:=bQ (λy=> !decide (y∈st)) ((eR L).take j);simp at this;omega
    ·(try simp only)
     rw[bN c a4];refine P (j+1,(λb=>(A b\/aP f+1<=b)/\b<C.size),B) _ _ ⟨rfl,c,?_,?_,?_,?_,?_⟩ (by(try simp only);omega)
     .exact(d.tr E).trans o λb hb=>.inr (hb.elim (λhb=>(e b (.inl hb)).1) λhb=>by have:=d.size;omega)
     ·(try simp only)
      rw[ax (by simpa using c),cy,bf,js,if_pos (by rw[e1]at hm;simpa using hm),<-e1];exact N.within
     ·(try simp only)
      rw[ax (G▸c),cy,bf,if_neg (by simpa using hm),f9,aX];exact(p.upd E λ_ _ h=>h).upd o λb hb=>λh=>h.elim (λh=>q b h hb) λh=>by have:=(e b (.inr hb)).2;omega
     .intro b hb D
      rcases hb.1 with Y|Y
      .exact q b Y D
      .have:=(e b (.inr D)).2;omega
     .intro b hb
      have hs5:=(E.wide.tr o).size;rcases hb with⟨hb|hb,hb3⟩|hb
      .have:=e b (.inl hb);show h'.size<=b/\b<C.size;omega
      .have:=d.size;show h'.size<=b/\b<C.size;omega
      .have:=e b (.inr hb);show h'.size<=b/\b<C.size;omega
  .have u:¬(j:Int)<(Z.len:Int):=u
   rw[S.len,G]at u;have hjl:j=L.length:=a4
   rw[bd a9]at w;rw[bd a4]at p;have H:=n.tr d;have b2:=d.get0 h1;have e0:adr ⟨x,0,none⟩ 0=⟨x,0,none⟩:=rfl;have Q:Upd (· =x) f (hset f ⟨x,0,none⟩ (.slice left.a left.len left.cap)):=Upd.hset _ _ rfl
   have hxl:x<h.size:=g.lt _ g.wp;refine⟨_,rfl,by rw[e0];exact fk b2 a6,?_⟩
   rw[e0];refine z out _ st F ?_ ?_ (H.wide.tr Q)
   .refine(w.sl (W:=λb=>b<h.size) λb hb _ hw=>?_).upd Q λb hb=>.inl a4
    have:=(e b (.inl hb)).1;have:=n.size;omega
   .refine⟨⟨left,t0,(Ls.filter λv=>decide (v.1∈st)),?_,?_,?_,p.cap⟩,g.wp,λb hb=>aD (g.lt b hb) (H.wide.tr Q).size⟩
    .rw[kU b2,eE b2];rfl
    .refine(p.sl (W:=W) λb hb _ hw=>?_).upd Q λb hb=>.inl (hb▸g.wp)
     have:=(e b (.inr hb)).1;have:=g.lt b hw;have:=n.size;omega
    .exact Par.upd Q (λb hb=>.inl (hb▸g.wp)) (Par.filter (λy=>decide (y∈st)) (Par.upd d (λ_ h=>h.elim) h3))
end
section
variable {a b p:Int}{n m:c6}{K:Int×fD×Int->dO}
theorem Met.eq{L:dA}{c d:Int}(h:Met L a b c)(k:Met L a b d):c=d:=by
 obtain⟨i,g,j⟩:=h;obtain⟨k1,f,o⟩:=k;have n:c<=d:=g.elim (λe=>a4) λe=>k1 c e.1 e.2
 have m:d<=c:=f.elim (λe=>a4) λe=>i d e.1 e.2
 omega
theorem abM(c:a≠0)(hb:b≠0):nz [a,b]= [a,b]:=by unfold nz;simp[c,hb]
theorem adf{c b:Prop}[Decidable c][Decidable b]{a:Bool->dO}{h:ad}(d:a (decide (c\/b)) h):Join a (λJ=>fo (decide c) (J true h) (J (decide b) h)):=
 eQ (ar (λe=>by rw[decide_eq_true (.inl e)]at d;exact d) λe=>by
  rw[show decide (c\/b)=decide b from decide_eq_decide.2 ⟨λh=>h.resolve_left e,.inr⟩]at d
  exact d)
theorem Ut{W:dx}{h:ad}{nt:TypeId}{s:fD}{l:Bi}(H:Sl yd 2 W h s l)(R:l.length<=100000){REST:fD×Int->dO}(K:∀h' s',OwnS u32 1 31 (λy=>h.size<=y) h' s' (l.map (·.2))->Upd No h h'->REST (s',(l.length:Int)) h'):
  LoopP (λA (e:fD×Int) d=>fo (decide (e.2<(s.len:Int))) (
   Join (λ(G:fD) z=>A (G,ac .i64 (e.2+1)) z) (λv=>
    (((0:Int)<=e.2/\e.2<((s.len:Nat):Int))/\∃a19:Addr,s.a=some a19/\
     ∃v20:c6,aZ d (adr (adr a19 (e.2.toNat*2)) 0)=some (.string v20)/\
     ∃v21:Int,aZ d (adr (adr a19 (e.2.toNat*2)) 1)=some (.int .u32 v21)/\
     At (hnew d [.string (⟨#[]⟩:c6),.int .u32 0] nt) (λk=>
      (qV k (some (aR d)) 0 [.string v20,.int .u32 v21]/\
       At (fS k (aR d) 0 [.string v20,.int .u32 v21]) (λg=>
        ∃v24:Int,aZ g (adr (aR d) 1)=some (.int .u32 v24)/\
        At (hnew g [.int .u32 v24] 31) (λo=>
         ∃xs26,SRow o (some (aR g)) (1*1) xs26/\
         AppP (some [.int .u32 0]) 1 4 31 e.1.a e.1.len e.1.cap 1 xs26 o (λq p=>v q p)))))))) (REST e d)) (⟨none,0,0⟩,0) h:=by
 have S:=H.len;refine ez (λ(i:Nat) (t:fD×Int) h'=>t.2=(i:Int)/\i<=l.length/\OwnS u32 1 31 (λy=>h.size<=y) h' t.1 ((l.take i).map (·.2))/\Upd No h h') (λi=>l.length-i) 0 ⟨rfl,aJ _,OwnS.nil kz,eM _ _⟩ ?_
 rintro I i ⟨so,t⟩ d ⟨J,hi,u,j⟩ P;simp only at J u;subst J;have O:=j.size;refine ar (λf=>?_) λB=>?_
 .have f:i<l.length:=by simp only at f;omega
  obtain⟨a,Q,_,hv⟩:=(H.upd j λ_ h=>h.elim).at (af f)
  refine eQ ⟨⟨cd,cd⟩,a,Q,_,hv 0 _ rfl,_,hv 1 _ rfl,aQ λk C x=>co (c:= [.string ⟨#[]⟩,.int .u32 0]) (vs:=yd l[i]) C rfl λg D w=>⟨_,vc D 1,bL ?_⟩⟩
  have m:Upd No d g:=x.own w (aj _);have N:=m.size;refine AK (M:=λy=>h.size<=y) (u.upd m λ_ _ h=>h) (λb hb=>a4) a9 λq p E F=>?_
  rw[bN (n:=l.length) f a4];exact P (i+1) _ _ ⟨rfl,f,by rw[ax f,cC];exact E,(j.tr m).fresh F λy L=>L⟩ a4
 .have:i=l.length:=by simp only at B;omega
  subst this;rw[bG]at u;exact K d so u j
section
variable {W:dx} {h:ad} {xp xg:Nat} {kind:Int} {x:Hs} {re:Rt} {q:RS}
theorem HB(g:Rn W h xp xg kind x re q)(u:q.B.length<=1000)(d:(∀b∈q.B,b.1≠n)\/∀b∈q.B,b.1≠m)(e:∀h',Upd No h h'->K (0,⟨none,0,0⟩,4) h'):
  XY 35 [gZ xp,.string n,.string m,.int .i64 p] K h:=by
 refine Ge (some ⟨xp,0,none⟩) n m p ?_;dsimp only[Ai,nv,vt,iC,pU,qE,bR,oE,xf,kG,OE,vy,bh,ao,dK,GZ,ey,cJ,jX,fj,uK,cO,uJ];refine⟨_,rfl,q.sB,vc g.blk 7,_,rfl,q.sB,vc g.blk 7,?_⟩;refine lQ g.b a4 (λi hi t s a=>⟨vc (a.get0 g.blk) 7,lQ (g.upd0 a).b a4 (λj k f=>?_) λ_ o c=>adf ?_⟩) λ_ s a=>⟨vc (a.get0 g.blk) 7,lQ (g.upd0 a).b a4 (λj k f o c=>adf ?_) λ_ o c=>adf ?_⟩
 .exact False.elim (d.elim (λh=>h _ (aF hi) t) λh=>h _ (aF k) f)
 .rw[decide_eq_true (.inr a4)];exact ay.2 (e _ (a.tr c))
 .rw[decide_eq_true (.inl a4)];exact ay.2 (e _ (a.tr c))
 .rw[decide_eq_true (.inl a4)];exact ay.2 (e _ (a.tr c))
set_option maxHeartbeats 1000000 in
theorem xa(g:Rn W h xp xg kind x re q)(_:kind=0\/kind=1)(gd:Good q.L)(hnx:0<=q.nx)(nd:(q.D.map (·.1)).Nodup)(hL:q.L.length<=100000)(hD:q.D.length<=100000)(hn:q.B.length<=1000){i k:Nat}(hi:i<q.B.length)(hk:k<q.B.length)(nu:NUp q.B)(ei:q.B[i].1=n)(ek:q.B[k].1=m)
  (hkP:(p<0\/3<p)->∀h',Upd No h h'->K (0,⟨none,0,0⟩,1) h')
  (hk1:0<=p->p<=3->(q.B[k].2=0\/UpG q.L q.B[i].2 q.B[k].2)->∀h',Upd No h h'->K (q.B[i].2,⟨none,0,0⟩,0) h')
  (hk2:0<=p->p<=3->¬(q.B[k].2=0\/UpG q.L q.B[i].2 q.B[k].2)->(q.B[i].2=0\/UpG q.L q.B[k].2 q.B[i].2)->∀h' s',Upd (· =xp) h h'->Rn W h' xp xg kind x re {q with sB:=s',B:=q.B.set i (q.B[i].1,q.B[k].2)}->K (q.B[k].2,⟨none,0,0⟩,0) h')
  (hk3:0<=p->p<=3->¬(q.B[k].2=0\/UpG q.L q.B[i].2 q.B[k].2)->¬(q.B[i].2=0\/UpG q.L q.B[k].2 q.B[i].2)->∃u B O T N,∃tm:Tr,Met q.L q.B[i].2 q.B[k].2 u/\Kf q u B/\Kf q q.B[i].2 O/\Kf q q.B[k].2 T/\Few N B.2/\Few N O.2/\Few N T.2/\N<=1000/\
   (p=0->pw B.2 O.2 T.2 p≠[]->∀h' s',Sl vu 7 (λb=>b<h.size) h' s' ((pw B.2 O.2 T.2 p).map (Ep B.2 O.2 T.2))->Upd No h h'->K (0,s',8) h')/\
   ((p=0->pw B.2 O.2 T.2 p= [])->∀h' r' s' ts sB,Sl vu 7 (λb=>b<h.size) h' s' ((pw B.2 O.2 T.2 p).map (Ep B.2 O.2 T.2))->Upd (RW xg xp q) h h'->(∀y,sb ts y->sb q.ts y\/h.size<=y)->
    (∀W':Nat->Prop,(∀y,W' y->(W y\/sb (zj q i hi (tm,jx B.2 O.2 T.2 p) (nz [q.B[i].2,q.B[k].2]) r' ts sB).ts y))->(∀y,RW xg xp (zj q i hi (tm,jx B.2 O.2 T.2 p) (nz [q.B[i].2,q.B[k].2]) r' ts sB) y->W' y)->Rn W' h' xp xg kind x re (zj q i hi (tm,jx B.2 O.2 T.2 p) (nz [q.B[i].2,q.B[k].2]) r' ts sB))->
    K (if(gu q.L q.nx (nz [q.B[i].2,q.B[k].2])).1.2=0 then((gu q.L q.nx (nz [q.B[i].2,q.B[k].2])).1.1,s',0)else(0,⟨none,0,0⟩,(gu q.L q.nx (nz [q.B[i].2,q.B[k].2])).1.2)) h')):
  XY 35 [gZ xp,.string n,.string m,.int .i64 p] K h:=by
 refine Ge (some ⟨xp,0,none⟩) n m p ?_;dsimp only[Ai,nv,vt,iC,pU,qE,bR,oE,xf,kG,OE,vy,bh,ao,dK,GZ,ey,cJ,jX,fj,uK,cO,uJ];have lb:=g.b.len;have lt:=g.lt;have same:∀{j I:Nat} (hj:j<q.B.length) (L:I<q.B.length),q.B[j].1=q.B[I].1->j=I:=λ{j I} hj L e=>by
  have:=List.getElem_inj nu.nd (i:=j) (j:=I) (h₀:=by simpa using hj) (h₁:=by simpa using L)
  exact this.1 (by simp[e])
 refine⟨_,rfl,q.sB,vc g.blk 7,_,rfl,q.sB,vc g.blk 7,?_⟩;refine lQ g.b a4 (λj hj ej h6 k6=>?_) λV=>absurd ei (V _ (aF hi))
 obtain rfl:i=j:=same hi hj (ei.trans ej.symm);refine⟨vc (k6.get0 g.blk) 7,lQ (g.upd0 k6).b a4 (λI L ej' h8 k8=>?_) λV=>absurd ek (V _ (aF hk))⟩
 obtain rfl:k=I:=same hk L (ek.trans ej'.symm);have X:=k6.tr k8;refine adf ?_;rw[decide_eq_false a4];refine ag.2 (adf (ar (λe=>hkP (e.imp id λe=>a4) h8 X) λe=>?_))
 have p0:0<=p:=Int.not_lt.1 λh=>e (.inl h)
 have p3:p<=3:=Int.not_lt.1 λh=>e (.inr a4)
 have g8:=g.upd0 X;obtain⟨a,ha,_,hv⟩:=g8.b.at (af hi);obtain⟨a',ha',_,hv'⟩:=g8.b.at (af hk);refine⟨_,rfl,q.sB,vc g8.blk 7,⟨a4,a4⟩,a,ha,_,hv 1 _ rfl,_,rfl,q.sB,vc g8.blk 7,⟨a4,a4⟩,a',ha',_,hv' 1 _ rfl,?_⟩
 refine BD g8 gd hL _ _ λb1 h24 hb1 k24=>?_
 have E:=X.tr k24;have g24:=g.upd0 E;refine eh (λe1=>hk1 p0 p3 (hb1.1 e1) h24 E) λe1=>?_
 have n1:¬(q.B[k].2=0\/UpG q.L q.B[i].2 q.B[k].2):=λhh=>by rw[hb1.2 hh]at e1;cases e1
 refine BD g24 gd hL _ _ λb2 h26 hb2 k26=>?_
 have H:=E.tr k26;have U:=g.upd0 H;refine eh (λe2=>ML U hi _ hn λh28 s' u28 G=>hk2 p0 p3 n1 (hb2.1 e2) h28 s' (H.wide.tr u28) G) λe2=>?_
 have n2:¬(q.B[i].2=0\/UpG q.L q.B[k].2 q.B[i].2):=λhh=>by rw[hb2.2 hh]at e2;cases e2
 obtain⟨u,B,O,T,N,tm,mt,xB,xO,xT,fB,fO,fT,hN,c0,c1⟩:=hk3 p0 p3 n1 n2;refine⟨_,rfl,_,vc U.blk 5,WI U.r gd _ _ λS h32 m1 m2 m3 k32=>?_⟩
 have eb:S=u:=Met.eq ⟨m1,m2,m3⟩ mt;subst eb;have Q:=H.tr k32;refine Er (g.upd0 Q) nd xB hL hD λh34 rB jB k34=>Is λh36 b36 k36=>?_
 have R:=(Q.tr k34).tr k36;refine Er (g.upd0 R) nd xO hL hD λh38 rO jO k38=>Is λh40 b40 Y=>?_
 have P:=(R.tr k38).tr Y;refine Er (g.upd0 P) nd xT hL hD λh42 rT jT k42=>Is λh44 C Z=>?_
 have c:=(P.tr k42).tr Z;have f:=k42.tr Z;have D:=(k38.tr Y).tr f;have F:=D.get0 b36;have acp:=f.get0 b40;refine⟨_,vc F 0,_,vc F 1,_,vc F 2,_,vc F 3,rB.2.2.2.2,vc F 4,_,vc acp 0,_,vc acp 1,_,vc acp 2,_,vc acp 3,rO.2.2.2.2,vc acp 4,_,vc C 0,_,vc C 1,_,vc C 2,_,vc C 3,rT.2.2.2.2,vc C 4,?_⟩;refine Xt ((jB.upd0 k36).upd0 D) ((jO.upd0 Y).upd0 f) (jT.upd0 Z) (λy hy=>aD (lt y hy) c.size) fB fO fT hN hN hN p0 p3 (λe0 hc h61 s' hs J=>Is λw v z=>?_) λhc h61 r' s' I hs J=>Is λw v z=>?_
 .exact ay.2 (c0 e0 hc w s' ((hs.less λb hb=>.inl (aD hb c.size)).upd z λ_ h=>h.elim) ((c.tr J).tr z))
 .refine ag.2 ⟨_,vc v 0,_,vc v 1,_,vc v 2,_,vc v 3,r'.2.2.2.2,vc v 4,aQ λh69 b69 k69=>?_⟩
  have o:=z.tr k69;have A:=(c.tr J).tr o;have s069:=A.size;have sm:=(c.tr (J.tr z)).size;have e2:nz [q.B[i].2,q.B[k].2]= [q.B[i].2,q.B[k].2]:=abM (λe=>n2 (.inl e)) λe=>n1 (.inl e)
  rw[e2]at c1;refine FA (g.upd0 A) hnx hL (by have:=g.n;omega) hn hi (d:=(tm,jx B.2 O.2 T.2 p)) (I.upd0 o) (ps:= [q.B[i].2,q.B[k].2]) (OwnS.sl (s:=⟨some (aR w),2,2⟩) (M:=(· =w.size)) (t:=31) ⟨rfl,kz,aj _,.inr ⟨w.size,[],rfl,rfl,b69,rfl⟩⟩ λb hb _ hw=>by have hb:b=w.size:=hb;have:=lt b hw;omega) a6 λh71 ts sB u71 ht G=>?_
  have hs2:=((hs.less (W':=λb=>b<h.size) λb hb=>.inl (aD hb c.size)).upd o λ_ h=>h.elim).upd u71 λb hb=>.inl (lt b (g.rw b hb))
  have r:=c1 hc h71 r' s' ts sB hs2 (A.wide.tr u71) (λy hy=>(ht y hy).imp id λh=>a4) G
  refine eh (λe=>?_) λe=>?_
  .rw[if_neg (by simpa using e)]at r;exact r
  .rw[if_pos (by simpa using e)]at r;exact r
theorem U3(g:Rn W h xp xg kind x re q)(E:Good q.L)(T:q.B.length<=300)(U:q.T.length<=300){K:fD->dO}
  (F:∀h' s' (st:List Int),(∀y,y∈st↔∃k∈(q.B++q.T).map (·.2),UpG q.L k y)->Nums (λb=>b<h.size) h' s' ((eR q.L).filter λy=> !decide (y∈st))->Rn W h' xp xg kind x re {q with L:=q.L.filter λv=>decide (v.1∈st)}->Upd (· =xg) h h'->K s' h'):
  ce 37 [gZ xp] K h:=by
 refine dg (Gq (some ⟨xp,0,none⟩)) QH Tryz.func37 Tryz.call37 ?_;dsimp only[Gq,ff,nv,uk,Ev,y7,bR,cJ,G6,ey,cM,jX,fj,uK,cO,sL,uJ];refine eQ ⟨_,rfl,q.sB,vc g.blk 7,_,rfl,q.sT,vc g.blk 8,aQ λS Y n=>⟨vc (n.get0 g.blk) 8,vc (n.get0 g.blk) 7,?_⟩⟩
 have V:=n.size;refine N4 (M:=λy=>S.size<=y) (out:= []) (c:=q.sB.cap) (OwnS.nil uw) (g.upd0 n).b (aj _) a9 λZ R Q D=>?_
 have X:=D.size;have p:Upd No h R:=n.fresh D λy G=>a4
 refine⟨vc (p.get0 g.blk) 8,N4 Q (c:=q.sT.cap) (g.upd0 p).t a4 a9 λu d m o=>?_⟩
 have i:Upd No h d:=p.fresh o λy G=>a4
 rw[List.nil_append]at m;have f:Sl yd 2 (λy=>d.size<=y) d u (q.B++q.T):=m.sl λb _ N O=>a4
 refine Ut (nt:=125) f a9 λP s' B A=>?_
 have a:=i.tr A;have e:=g.upd0 a;have C:=a.size;have I:=i.size;refine⟨_,rfl,_,vc e.blk 5,WJ e.r E (B.sl (W:=W) λb hb _ J=>by have:=g.lt b J;omega) a9 λw z st t H s j=>F z w st t (H.less λb hb=>.inl a4) (e.graph j s) (a.wide.tr j)⟩
end
end
end Go.Proofs
set_option maxRecDepth 100000
namespace Go.Proofs
open Go Go.Lift Go.Shelf
def adZ:Ren:=⟨λn=>bif aS n 6 then 90 else bif aS n 14 then 139 else bif aS n 15 then 140 else bif aS n 20 then 195 else bif aS n 21 then 196 else bif aS n 22 then 197 else bif aS n 23 then 198 else bif aS n 24 then 199 else bif aS n 25 then 200 else bif aS n 26 then 201 else bif aS n 27 then 202 else bif aS n 28 then 203 else bif aS n 29 then 204 else bif aS n 46 then 266 else bif aS n 47 then 267 else bif aS n 48 then 268 else bif aS n 49 then 269 else bif aS n 50 then 270 else bif aS n 57 then 303 else 0,
 λn=>bif aS n 0 then 0 else bif aS n 3 then 3 else bif aS n 4 then 4 else bif aS n 5 then 5 else bif aS n 9 then 9 else bif aS n 22 then 45 else bif aS n 24 then 48 else bif aS n 25 then 174 else bif aS n 39 then 231 else bif aS n 45 then 300 else bif aS n 46 then 301 else bif aS n 50 then 267 else bif aS n 53 then 31 else bif aS n 55 then 22 else bif aS n 66 then 358 else bif aS n 70 then 362 else bif aS n 76 then 389 else bif aS n 77 then 390 else 0,
 λ_=>0⟩
theorem yM:SlLaysF0.n6 PG adZ:=by
 constructor
 .kernel_rfl
 .exact⟨"slices.SortFunc[[]quickset/vault.Name,quickset/vault.Name]",a8,a5⟩
 .exact⟨"slices.pdqsortCmpFunc[quickset/vault.Name]",a8,a5⟩
 .kernel_rfl
 .exact⟨"slices.insertionSortCmpFunc[quickset/vault.Name]",a8,a5⟩
 .exact⟨"slices.heapSortCmpFunc[quickset/vault.Name]",a8,a5⟩
 .exact⟨"slices.breakPatternsCmpFunc[quickset/vault.Name]",a8,a5⟩
 .exact⟨"slices.choosePivotCmpFunc[quickset/vault.Name]",a8,a5⟩
 .exact⟨"slices.reverseRangeCmpFunc[quickset/vault.Name]",a8,a5⟩
 .exact⟨"slices.partialInsertionSortCmpFunc[quickset/vault.Name]",a8,a5⟩
 .exact⟨"slices.partitionEqualCmpFunc[quickset/vault.Name]",a8,a5⟩
 .exact⟨"slices.partitionCmpFunc[quickset/vault.Name]",a8,a5⟩
 .kernel_rfl
 .kernel_rfl
 .exact⟨"slices.siftDownCmpFunc[quickset/vault.Name]",a8,a5⟩
 .kernel_rfl
 .kernel_rfl
 .exact⟨"slices.medianAdjacentCmpFunc[quickset/vault.Name]",a8,a5⟩
 .exact⟨"slices.medianCmpFunc[quickset/vault.Name]",a8,a5⟩
 .exact⟨"slices.order2CmpFunc[quickset/vault.Name]",a8,a5⟩
 .kernel_rfl
 all_goals first|(intro w;kernel_rfl)|kernel_rfl
end Go.Proofs
set_option maxRecDepth 100000
namespace Go.Proofs
section
open Go.Lift Go.Shelf
def adY:Ren:=⟨λn=>bif aS n 38 then 141 else 0,
 λn=>bif aS n 4 then 4 else bif aS n 9 then 9 else 0,
 λ_=>0⟩
theorem KI:Lays2.n38 PG adY:=by constructor<;>first|kernel_rfl|(intro w;kernel_rfl)|skip
end
section
open Go.Lift Go.RowKit Go.Sort
variable {F:Array Value}{a:c4}{b:Nat}{w:World}
theorem HC.shelf{f:FuncId}{args:c4}{ks:List Kind}{K:vB ks->dO}{h:ad}(hc:∀(args:Array Value) (w:World),(callFunc f args).run PG w=.ok (.enter f args) w)
 (g:∀w:World,w.heap=h->Calls PG f args.toArray w λe w'=>Tame w w'/\∃t:vB ks,e=.returned (EL ks (nP ks t))/\K t w'.heap):HC PG f args ks K h:=⟨λw a=>.inl ⟨hc _ w,g w a⟩⟩
theorem Vx{A:c4}(c:A.length=F.size):putCells id 0 F (A++a).toArray=(F.toList++a).toArray:=by
 apply Array.ext_getElem?;intro k;simp only[putCells,Array.getElem?_mapIdx,du];by_cases b:k<F.size
 .rw[bW a4,bW (by simpa using b),af a4]
  simp[b]
 .rw[bE a4,bE (by simpa using b),c]
  simp only[eW];cases a[k-F.size]? with
  |none=>rfl
  |some v=>simp[b]
section
variable {α:Type} {f:α->c4} {sz:Nat} {ty:TypeId} {M:dx} {h:ad} {s:fD} {xs ys:List α}
theorem _root_.Go.Lift.OwnS.row(o:OwnS f sz ty M h s xs)(hb:h[b]? =some (.cells (xs.flatMap f++a).toArray ty (0,0))) (i:s.a=some ⟨b,0,none⟩) (hM:M b) (m:a.length=(s.cap-s.len)*sz)  (q:w.heap=h) {n:Nat} {os:Array Obj}  (d:F.toList=ys.flatMap f) (c:ys.length=xs.length):
  OwnS f sz ty M (grow (putRow id (Sort.ahead w n) b 0 F) os).heap s ys/\Upd M h (grow (putRow id (Sort.ahead w n) b 0 F) os).heap:=by
 have j:(xs.flatMap f).length=F.size:=by rw[<-eW,d,iw λx=>(o.ne x).1,iw λx=>(o.ne x).1,c]
 have g:(grow (putRow id (Sort.ahead w n) b 0 F) os).heap=h.modify b (onCells (putCells id 0 F))++os:=by subst q;rfl
 have lt:=bB hb;rw[g];refine⟨⟨by rw[c];exact o.len,o.ne,o.cap,.inr ⟨b,a,i,hM,?_,m⟩⟩,⟨a6,λy k p=>?_⟩⟩
 .rw[Array.getElem?_append_left (by simpa using lt),mu,if_pos rfl,hb]
  show some (Obj.cells (putCells id 0 F (xs.flatMap f++a).toArray) ty (0,0))=_
  rw[Vx j,d]
 .rw[Array.getElem?_append_left (by simpa using k),mu,if_neg (λe=>p (by rw[<-e];exact hM))]
theorem tP[Inhabited α](a:∀x,(f x).length=sz)(d:Array α):(flatK f sz d).toList=d.toList.flatMap f:=by
 apply List.ext_getElem?;intro t;by_cases ht:t<d.size*sz
 .have k0:0<sz:=Nat.pos_of_ne_zero λe=>by rw[e]at ht;simp at ht
  have b:t/sz<d.size:=Nat.div_lt_of_lt_mul (by rwa [Nat.mul_comm]at ht);have hm:=Nat.mod_lt t k0;have e:=vF a d.toList (t/sz) (t%sz) d[t/sz] (by simp[b]) hm;rw[Nat.div_add_mod' t sz]at e;rw[e,Array.getElem?_toList,Array.getElem?_eq_getElem (by simpa using ht),<-getElem!_pos (flatK f sz d) t (by simpa using ht),get_flatK _ _ _ _ ht,getElem!_pos d (t/sz) b,af (by rw[a];exact hm),getElem!_pos _ _ (by rw[a];exact hm)]
 .rw[jP (by simpa using Nat.le_of_not_lt ht),jP (by rw[iw a];simpa using Nat.le_of_not_lt ht)]
theorem _root_.Go.Lift.OwnS.holds(o:OwnS f sz ty M h s xs)(hb:h[b]? =some (.cells (xs.flatMap f++a).toArray ty (0,0)))  (d:w.heap=h)  (g:F.toList=xs.flatMap f):Holds id w b 0 F:=λj c=>by
 subst d;have e:(xs.flatMap f++a)[j]? =some F[j]:=by
  rw[<-g,bW (by simpa using c)];simp[c]
 refine⟨?_,?_⟩
 .rw[World.cell?,aU];simp only[hb]
  simp only[Option.isSome_none,Bool.false_eq_true,if_false,du,e,id];rw[getElem!_pos F j c]
 .rw[World.frozen?,aU];simp[hb]
end
end
section
open Go.Lift Go.RowKit Go.Shelf Go.Sort
variable {h:ad}
set_option maxHeartbeats 1000000 in
theorem Mf(x y:c6)(W:World):Calls PG 92 #[.string x,.string y] W λe b=>e=.returned (.int .i64 (xy x y))/\b=W:=by
 have a:=λx W=>Any2.cmp_isNaN_string KI x W
 change∀x W,Calls PG 141 _ _ _ at a;go_enter Tryz.func92,Tryz.ntmps92
 go_wp2_with (go_at_call 141;refine(a _ _).mono ?_;rintro e b ⟨rfl,c⟩;rw[c])
 all_goals(go_ret;refine⟨?_,rfl⟩;have hb:= @AH x y;unfold xy kl;clear a;simp_all)
abbrev adM(x y:c6×Int):Int:=xy x.1 y.1
set_option maxHeartbeats 1000000 in
theorem VF(x y:c6×Int)(W:World):Calls PG 91 #[.agg #[.string x.1,.int .u32 x.2],.agg #[.string y.1,.int .u32 y.2]] W λe b=>e=.returned (.int .i64 (xy x.1 y.1))/\∃q os',b=grow (W.drewN q) os':=by
 have a:=λW'=>Mf x.1 y.1 W'
 change∀W',Calls PG 92 _ _ _ at a;generalize xy x.1 y.1=r at a⊢;go_enter Tryz.func91,Tryz.ntmps91
 go_wp2_with (go_at_call 92;refine(a _).mono ?_;rintro e b ⟨rfl,rfl⟩)
 go_ret
 exact⟨rfl,0,_,by rw[alloc_eq_grow,alloc_eq_grow,grow_grow];rfl⟩
theorem adJ(x y:c6×Int):ltOf adM x y=decide (kl x.1 y.1):=by
 unfold ltOf adM xy;by_cases h:kl x.1 y.1
 .simp[h]
 .by_cases a:x.1=y.1<;>simp[h,a,bX]
theorem adR:SWO (ltOf adM) where
 irrefl x:=by rw[adJ];simpa using bX x.1
 trans x y z h1 h2:=by rw[adJ]at*;simp at*;exact dX h1 h2
 ntrans x y z h1 h2:=by
  rw[adJ]at*;simp at*;intro h;by_cases e:x.1=y.1
  .rw[e]at h;exact h2 h
  .exact h2 (dX (mf h1 e) h)
theorem M4{M:dx}{s:fD}{xs:List (c6×Int)}(p:OwnS yd 2 48 M h s xs)(T:xs.length<=1000000){K:Unit->dO}
  (B:∀h' ys,OwnS yd 2 48 M h' s ys->ys.Perm xs->ys.Pairwise (λa b=>¬kl b.1 a.1)->Upd M h h'->K () h'):dQ 90 [.slice s.a s.len s.cap,.func (.func 91) #[] #[]] K h:=by
 refine HC.shelf Tryz.call90 λw q=>?_
 have k:=p.len;rcases p.blk with U|⟨b,C,E,hM,hb,O⟩
 .have hx:xs= []:=aK.1 (by have:=p.cap;omega)
  subst hx;have Q:s.len=0:=k;rw[Q];refine(AnyF.slices_SortFunc_none yM s.a s.cap (.func (.func 91) #[] #[]) w).mono λe G o=>?_
  obtain⟨o,rfl⟩:=o;exact⟨⟨rfl,rfl,rfl⟩,(),o,B _ [] (by rw[q];exact p) (qx _) cj (by rw[q];exact eM _ _)⟩
 .rw[E,k]
  have R:HoldsK yd 2 w b 0 xs.toArray:=p.holds hb q ((tP (f:=yd) (sz:=2) (λ_=>rfl) xs.toArray).trans a6)
  have lt:=bB hb;have c:=AnyQ.slices_SortFunc yM 2 (λw=>a5) (λw=>a5) yd (λ_=>rfl) (λx v hv=>by simp only[aw,List.not_mem_nil,or_false]at hv;rcases hv with rfl|rfl<;>rfl) adM adR 91 #[] b 0 s.cap xs.toArray w Tryz.call91 (λm os dk L x y=>VF x y _) R (by rw[q];exact lt) a9
  rw[show xs.toArray.size=xs.length by simp]at c
  refine Calls.mono c λe G o=>?_
  obtain⟨o,d,n,os,⟨g,_,D⟩,P,rfl⟩:=o;have g:d.size=xs.length:=by simpa using g
  obtain⟨S,H⟩:=p.row hb E hM O q (n:=n) (os:=os) (F:=flatK yd 2 d) (ys:=d.toList) (tP (f:=yd) (sz:=2) (λ_=>rfl) d) (by simpa using g)
  refine⟨⟨rfl,rfl,rfl⟩,(),o,B _ d.toList S ?_ ?_ H⟩
  .have J:d.extract 0 xs.length=d:=by rw[<-g];exact Array.extract_size
   have N:xs.toArray.extract 0 xs.length=xs.toArray:=a6
   rw[J,N]at D;simpa using D
  .refine List.pairwise_iff_getElem.2 λi j hi I A t=>?_
   have z:i<d.size:=by simpa using hi
   have u:j<d.size:=by simpa using I
   have:=P i j (aJ _) A a4;rw[getElem!_pos d j u,getElem!_pos d i z,adJ]at this;simp only[Array.getElem_toList]at t;simp[t]at this
theorem Ig{κ β:Type}[DecidableEq κ]{k:κ}{v:β}:∀{m:List (κ×β)},(m.map (·.1)).Nodup->(k,v)∈m->m.Perm ((k,v)::lA m k)
 |p::m,a,hm=>by
  have a:=List.nodup_cons.1 a;unfold lA;rw[bf];rcases aw.1 hm with rfl|hm
  .rw[if_neg a6]
   rw[List.filter_eq_self.2 λq b=>by simp;exactλe=>a.1 (be.2 ⟨q,b,e⟩)]
  .have:p.1≠k:=λe=>a.1 (be.2 ⟨(k,v),hm,e.symm⟩)
   rw[if_pos (by simp[this])];exact((Ig a.2 hm).cons p).trans (List.Perm.swap ..)
theorem aaf{r:Nat}{B:List (c6×Int)}(m:MapAt kStr PR h r B)(Z:B.length<=100000){K:fD->dO}
  (L:∀h' s ys,OwnS yd 2 48 (λy=>h.size<=y) h' s ys->ys.Perm B->ys.Pairwise (λa b=>¬kl b.1 a.1)->Upd No h h'->K s h'):ce 40 [.map (some r)] K h:=by
 refine dg (uO (some r)) Cw Tryz.func40 Tryz.call40 ?_;dsimp only[uO,uk,Ev,Qp];obtain⟨c,⟨es,C⟩,H⟩:=m.range;refine⟨c,.inr ⟨r,es,rfl,C⟩,Jq λp u=>?_⟩
 have k1:=Upd.push No h (.mapIter (some r) c #[] c);have u:p=h.push (.mapIter (some r) c #[] c):=u;rw[<-u]at H k1;have s1:p.size=h.size+1:=by rw[u];simp
 refine ez (λ(g:List (c6×Int)×List (c6×Int)) (t:fD) h'=>IterSt kStr PR h' h.size r B g.1/\OwnS yd 2 48 (λy=>p.size<=y) h' t g.2/\(g.2++g.1).Perm B/\Upd No h h'/\p.size<=h'.size) (λg=>g.1.length) (B,[]) ⟨H,OwnS.nil uw,qx _,k1,aj _⟩ ?_
 rintro I ⟨j,out⟩ t h' ⟨hi,z,n,E,Q⟩ T;(try simp only at hi z n)
 have S:=m.lt;have G:=n.length_eq;rw[ae]at G;refine NextP.at (M:=(· =h.size)) hi rfl (λV=>?_) λk v o e Y ek N hit D d=>?_
 .subst V
  rw[aX]at n;refine M4 z (by simp at G;omega) λF ys O J X R=>L F t ys (O.more λy i=>a4) (J.trans n) X (E.trans R λy i=>.inr a4)
 .refine⟨rfl,e,k,v,hit,ek,N,aQ λF b3 q=>?_⟩
  have A:=(z.upd d λy i e=>by have e:y=h.size:=e;omega).upd q λ_ _ h=>h
  have s2:=d.size;have su:=E.size;refine⟨_,((OwnS.one (f:=yd) (x:=(k,v)) uw b3).sl (W:=No) λ_ _ _ h=>h).srow,?_⟩
  have s3:=q.size;refine AppP.own (ys:= [(k,v)]) A rfl rfl rfl rfl a8 (by simp only[aG];omega) a4 λs' U P w=>?_
  refine T (lA j k,out++ [(k,v)]) s' U ⟨?_,P,?_,?_,?_⟩ (DI o)
  .exact(D.upd q id id).upd w (λe=>a4) (λe=>a4)
  .refine List.Perm.trans ?_ n
   simp only[List.append_assoc,List.singleton_append];exact List.Perm.append_left _ (Ig hi.nodup o).symm
  .exact((E.trans d λy i=>.inr (by have i:y=h.size:=i;omega)).tr q).trans w λy i=>.inr a4
  .have:=w.size;omega
end
section
open Go.Lift Go.Sort
variable {i j:Nat}{t e c:Int}{R:dO}
theorem Dq(l:List Int):l.flatMap u32=l.map λx=>Value.int .u32 x:=by
 induction l with
 |nil=>rfl
 |cons x l ih=>rw[List.flatMap_cons,ih];rfl
structure SAG(s:fD)(b:Nat)(rest:c4)(h:ad)(d:Array Int):Prop where
 a:s.a=some ⟨b,0,none⟩
 len:s.len=d.size
 blk:h[b]? =some (.cells (d.toList.flatMap u32++rest).toArray 31 (0,0))
 small:d.size<=1000000000
variable {s:fD} {b:Nat} {rest:c4} {h:ad} {d:Array Int}
theorem SAG.get(a:SAG s b rest h d)(hi:i<d.size):aZ h (adr ⟨b,0,none⟩ (((i:Int)).toNat*1))=some (.int .u32 d[i]!):=by
 rw[bZ,bw a.blk,du,Dq,bW a9];simp[hi]
theorem SAG.upd{M:dx}{h':ad}(a:SAG s b rest h d)(k:Upd M h h')(hb:¬M b):SAG s b rest h' d:=⟨a.a,a.len,k.get a.blk hb,a.small⟩
theorem SAG.put(a:SAG s b rest h d)(hi:i<d.size)(x:Int):Wr h (adr ⟨b,0,none⟩ (((i:Int)).toNat*1))/\SAG s b rest (hset h (adr ⟨b,0,none⟩ (((i:Int)).toNat*1)) (.int .u32 x)) (d.setIfInBounds i x)/\
  Upd (· =b) h (hset h (adr ⟨b,0,none⟩ (((i:Int)).toNat*1)) (.int .u32 x)):=by
 have e:adr ⟨b,0,none⟩ (((i:Int)).toNat*1)=⟨b,i,none⟩:=by rw[bZ];simp
 rw[e];refine⟨fk a.blk (by rw[Dq];simp;omega),⟨a.a,by rw[a.len];simp,?_,by simpa using a.small⟩,Upd.hset _ _ rfl⟩
 rw[kU a.blk,eE a.blk,Dq,Dq,Array.toList_setIfInBounds];congr 2
 rw[List.setIfInBounds_toArray,List.set_append_left _ _ a9,List.map_set]
theorem SAG.ld1(c:SAG s b rest h d)(f:t=(i:Int))(hi:i<d.size){R:Int->Prop}(e:R d[i]!):
  ((0:Int)<=t/\t<((s.len:Nat):Int))/\∃a:Addr,s.a=some a/\∃v:Int,aZ h (adr a (t.toNat*1))=some (.int .u32 v)/\R v:=by
 subst f;exact⟨by rw[c.len];omega,_,c.a,_,c.get hi,e⟩
theorem SAG.st(c:SAG s b rest h d){x:Int}(j:t=(i:Int))(hi:i<d.size)(k:∀h',SAG s b rest h' (d.setIfInBounds i x)->Upd (· =b) h h'->R h'):
  ((0:Int)<=t/\t<((s.len:Nat):Int))/\∃a:Addr,s.a=some a/\(Wr h (adr a (t.toNat*1))/\At (hset h (adr a (t.toNat*1)) (.int .u32 x)) R):=by
 subst j;obtain⟨g,f,e⟩:=c.put hi x;exact⟨by rw[c.len];omega,_,c.a,g,k _ f e⟩
@[simp] theorem ack(d:Array Int)(i j:Nat):(swp d i j).size=d.size:=by simp[swp]
theorem SAG.swap(k:SAG s b rest h d)(o:e=(i:Int))(n:c=(j:Int))(hi:i<d.size)(p:j<d.size)(u:∀h',SAG s b rest h' (swp d i j)->Upd (· =b) h h'->R h'):
  ((0:Int)<=c/\c<((s.len:Nat):Int))/\∃a:Addr,s.a=some a/\∃v:Int,aZ h (adr a (c.toNat*1))=some (.int .u32 v)/\
   (((0:Int)<=e/\e<((s.len:Nat):Int))/\∃a':Addr,s.a=some a'/\∃v':Int,aZ h (adr a' (e.toNat*1))=some (.int .u32 v')/\
    (((0:Int)<=e/\e<((s.len:Nat):Int))/\∃a'':Addr,s.a=some a''/\(Wr h (adr a'' (e.toNat*1))/\At (hset h (adr a'' (e.toNat*1)) (.int .u32 v)) (λf=>
     (((0:Int)<=c/\c<((s.len:Nat):Int))/\∃a3:Addr,s.a=some a3/\(Wr f (adr a3 (c.toNat*1))/\At (hset f (adr a3 (c.toNat*1)) (.int .u32 v')) R)))))):=by
 refine k.ld1 n p (k.ld1 o hi (k.st o hi λf m k1=>m.st n (by simpa using p) λt g q=>u t g (k1.tr q)))
theorem SAG.less(f:SAG s b rest h d)(k:e=(i:Int))(g:c=(j:Int))(hi:i<d.size)(m:j<d.size){R:Bool->dO}(n:R (ltInt d[i]! d[j]!) h):
  ((0:Int)<=e/\e<((s.len:Nat):Int))/\∃a:Addr,s.a=some a/\∃v:Int,aZ h (adr a (e.toNat*1))=some (.int .u32 v)/\
   (((0:Int)<=c/\c<((s.len:Nat):Int))/\∃a':Addr,s.a=some a'/\∃v':Int,aZ h (adr a' (c.toNat*1))=some (.int .u32 v')/\gl 211 [.int .u32 v,.int .u32 v'] R h):=
 f.ld1 k hi (f.ld1 g m (aag n))
theorem PM(L:SAG s b rest h d){a e:Nat}(ha:a<=e)(he:e<=d.size){K:Unit->dO}(P:∀h',SAG s b rest h' (insertionSort ltInt d a e)->Upd (· =b) h h'->K () h'):
  dQ 205 [.slice s.a s.len s.cap,.int .i64 a,.int .i64 e] K h:=by
 refine jQ s a e ?_;dsimp only[gn,Hz,fj,dd,vK,cz,vz,xf];have W:=L.small;refine ez (λ(g:Nat×Array Int) (t:Int) h'=>t=(g.1:Int)/\SAG s b rest h' g.2/\g.2.size=d.size/\insOuter ltInt a e g.1 g.2=insertionSort ltInt d a e/\Upd (· =b) h h'/\a<g.1) (λg=>e-g.1) (a+1,d)
  ⟨by rw[dI a4];rfl,L,rfl,rfl,eM _ _,a6⟩ ?_
 rintro I ⟨i,J⟩ t Y ⟨ht,n,y,p,w,A⟩ U;(try simp only at ht n y p A)
 subst ht;refine ar (λx=>?_) λT=>?_
 .have x:i<e:=by omega
  refine ez (λ(g:Nat×Array Int) (t:Int) h'=>t=(g.1:Int)/\SAG s b rest h' g.2/\g.2.size=d.size/\insInner ltInt a g.1 g.2=insInner ltInt a i J/\Upd (· =b) h h'/\g.1<=i) (λg=>g.1) (i,J)
   ⟨rfl,n,y,rfl,w,aj _⟩ ?_
  rintro X ⟨j,k⟩ t Q ⟨ht,c,m,o,v,E⟩ C;(try simp only at ht c m o E)
  subst ht;refine eF (λt h'=>h'=Q/\(t=true↔a<j/\ltInt k[j]! k[j-1]! =true)) (λR N=>?_) ?_
  .refine ar (λq=>?_) λS=>N _ _ ⟨rfl,a9⟩
   have q:a<j:=a4
   exact c.less rfl (j:=j-1) (by rw[dI a4];omega) a4 a4 (N _ _ ⟨rfl,by simp[q]⟩)
  .rintro t h' ⟨rfl,u⟩
   refine eh (λz=>?_) λz=>?_
   .obtain⟨V,H⟩:=u.1 z
    refine c.swap (i:=j) (j:=j-1) rfl (by rw[dI a4];omega) a4 a4 λZ D B=>?_
    refine C (j-1,swp k j (j-1)) _ _ ⟨by rw[dI a4];(try simp only);omega,D,by simp[m],?_,v.tr B,by(try simp only);omega⟩ (by(try simp only);omega)
    rw[<-o];obtain⟨G,rfl⟩:∃G,j=G+1:=⟨j-1,a4⟩
    simp only[Nat.add_sub_cancel]at H⊢;rw[insInner,if_pos (by simp[H,V])]
   .have f:¬(a<j/\ltInt k[j]! k[j-1]! =true):=λO=>by rw[u.2 O]at z;cases z
    have F:insInner ltInt a j k=k:=by
     cases j with
     |zero=>rw[insInner]
     |succ j=>
      simp only[Nat.add_sub_cancel]at f;rw[insInner,if_neg (by simpa using f)]
    refine U (i+1,k) _ _ ⟨by rw[dI a4];rfl,c,m,?_,v,by(try simp only);omega⟩ (by(try simp only);omega)
    rw[<-p];conv=>rhs;rw[insOuter]
    rw[if_pos x,<-o,F]
 .refine P _ ?_ w
  rw[<-p,insOuter,if_neg a4];exact n
end
section
open Go.Lift Go.Sort
variable {K:Unit->dO}{a e:Nat}
variable {s:fD} {b:Nat} {rest:c4} {h:ad} {d:Array Int}
@[simp] theorem Xc(lt:Int->Int->Bool)(hi first root:Nat)(d:Array Int):(siftDown lt hi first root d).size=d.size:=by
 fun_induction siftDown lt hi first root d<;>simp_all
@[simp] theorem GQ(lt:Int->Int->Bool)(hi first:Nat):∀(k:Nat) (d:Array Int),(heapBuild lt hi first k d).size=d.size
 |0,d=>rfl
 |k+1,d=>by rw[heapBuild,GQ lt hi first k];simp
theorem CQ{root hi first:Nat}(D:SAG s b rest h d)(hb:first+hi<=d.size)(A:∀h',SAG s b rest h' (siftDown ltInt hi first root d)->Upd (· =b) h h'->K () h')(H:root<=1000000000):
  dQ 271 [.slice s.a s.len s.cap,.int .i64 root,.int .i64 hi,.int .i64 first] K h:=by
 refine dg (lW s root hi first) sS Tryz.func271 Tryz.call271 ?_
 dsimp only[lW,xf,vK,cz,fj,Hz,dd,vz,Wh,Wg];have O:=D.small;refine ez (λ(g:Nat×Array Int) (t:Int) h'=>t=(g.1:Int)/\SAG s b rest h' g.2/\g.2.size=d.size/\siftDown ltInt hi first g.1 g.2=siftDown ltInt hi first root d/\Upd (· =b) h h'/\g.1<=1000000000) (λg=>hi-g.1) (root,d)
  ⟨rfl,D,rfl,rfl,eM _ _,H⟩ ?_
 rintro I ⟨i,e⟩ t C ⟨ht,a,u,m,n,y⟩ N;(try simp only at ht a u m y)
 subst ht;have F:ac .i64 (ac .i64 (2*(i:Int))+1)=((2*i+1:Nat):Int):=by rw[dI (x:=2*(i:Int)) a4,dI a4];omega
 have B:ac .i64 (((2*i+1:Nat):Int)+1)=((2*i+2:Nat):Int):=by rw[dI a4];omega
 rw[F];refine ar (λL=>?_) λz=>?_
 .refine A _ ?_ n
  rw[<-m,siftDown,dif_pos a4];exact a
 .have z:2*i+1<hi:=by omega
  refine eF (λt h'=>h'=C/\∃c:Nat,t=(c:Int)/\c=if 2*i+2<hi/\ltInt e[first+(2*i+1)]! e[first+(2*i+1)+1]! =true then 2*i+2 else 2*i+1) (λR E=>?_) ?_
  .refine eF (λt h'=>h'=C/\(t=true↔2*i+2<hi/\ltInt e[first+(2*i+1)]! e[first+(2*i+1)+1]! =true)) (λR2 o=>?_) ?_
   .show fo (decide (ac .i64 (((2*i+1:Nat):Int)+1)<(hi:Int))) _ _
    rw[B];refine ar (λk=>?_) λk=>o _ _ ⟨rfl,a9⟩
    show(((0:Int)<=ac .i64 ((first:Int)+((2*i+1:Nat):Int))/\_)/\_)
    refine a.less (i:=first+(2*i+1)) (j:=first+(2*i+1)+1) (by rw[dI a4];omega) (by rw[dI (x:=(first:Int)+_) a4,dI a4];omega) a4 a4 (o _ _ ⟨rfl,?_⟩)
    simp;omega
   .rintro t h' ⟨rfl,p⟩
    refine eh (λk=>?_) λk=>?_
    .show R (ac .i64 (((2*i+1:Nat):Int)+1)) _
     rw[B];exact E _ _ ⟨rfl,_,rfl,by rw[if_pos (p.1 k)]⟩
    .exact E _ _ ⟨rfl,_,rfl,by rw[if_neg λG=>by rw[p.2 G]at k;cases k]⟩
  .rintro t h' ⟨rfl,c,rfl,hc⟩
   have J:c<hi/\i<c:=by rw[hc];split<;>omega
   refine a.less (i:=first+i) (j:=first+c) (by rw[dI a4];omega) (by rw[dI a4];omega) a4 a4 ?_
   have f:siftDown ltInt hi first i e=if !ltInt e[first+i]! e[first+c]! then e else siftDown ltInt hi first c (swp e (first+i) (first+c)):=by
    rw[siftDown,dif_neg a4];by_cases q:2*i+2<hi/\ltInt e[first+(2*i+1)]! e[first+(2*i+1)+1]! =true
    .rw[if_pos (by simp only[bC,decide_eq_true_iff];exact q),dif_pos q.1]
     rw[if_pos q]at hc;rw[hc]
    .rw[if_neg (by simp only[bC,decide_eq_true_iff];exact q)]
     rw[if_neg q]at hc;rw[hc]
   refine eh (λk=>?_) λk=>?_
   .refine A _ ?_ n
    rw[<-m,f,if_pos k];exact a
   .refine a.swap (i:=first+i) (j:=first+c) (by rw[dI a4];omega) (by rw[dI a4];omega) a4 a4 λP w v=>?_
    refine N (c,swp e (first+i) (first+c)) _ _ ⟨rfl,w,by simp[u],?_,n.tr v,by(try simp only);omega⟩ (by(try simp only);omega)
    rw[<-m,f,if_neg (by rw[k];simp)]
theorem NF(H:SAG s b rest h d)(X:a<=e)(Z:e<=d.size)(L:∀h',SAG s b rest h' (heapSort ltInt d a e)->Upd (· =b) h h'->K () h'):
  dQ 206 [.slice s.a s.len s.cap,.int .i64 a,.int .i64 e] K h:=by
 refine dg (lX s a e) sW Tryz.func206 Tryz.call206 ?_;dsimp only[lX,GK,Hz,fj,dd,vK,cz];have S:=H.small;have J:ac .i64 ((e:Int)-(a:Int))=((e-a:Nat):Int):=by rw[dI a4];omega
 rw[J];refine⟨a8,?_⟩;have y:ac .i64 (fX (ac .i64 (((e-a:Nat):Int)-1)) 2)=(((e-a-1)/2+1:Nat):Int)-1:=by
  rw[dI (x:=((e-a:Nat):Int)-1) a4];by_cases O:e-a=0
  .rw[O];decide
  .rw[Int.tdiv_eq_ediv_of_nonneg a4,dI a4];omega
 show LoopP _ (ac .i64 (fX (ac .i64 (((e-a:Nat):Int)-1)) 2)) h
 rw[y];refine ez (λ(g:Nat×Array Int) (t:Int) h'=>t=(g.1:Int)-1/\SAG s b rest h' g.2/\g.2.size=d.size/\heapBuild ltInt (e-a) a g.1 g.2=heapBuild ltInt (e-a) a ((e-a-1)/2+1) d/\Upd (· =b) h h'/\g.1<=1000000000) (λg=>g.1) ((e-a-1)/2+1,d)
  ⟨rfl,H,rfl,rfl,eM _ _,by(try simp only);omega⟩ ?_
 rintro I ⟨k,Q⟩ t V ⟨ht,m,o,p,u,C⟩ R;(try simp only at ht m o p C)
 subst ht;refine ar (λE=>?_) λP=>?_
 .obtain⟨k,rfl⟩:∃k',k=k'+1:=⟨k-1,a4⟩
  have D:((k+1:Nat):Int)-1=(k:Int):=a4
  rw[D];refine CQ m a4 (λN c f=>R (k,_) _ _ ⟨by rw[dI a4],c,by simp[o],?_,u.tr f,by(try simp only);omega⟩ a6) a4
  rw[<-p];rfl
 .have:k=0:=by omega
  subst this;rw[dI (x:=((e-a:Nat):Int)-1) a4];refine ez (λ(g:Nat×Array Int) (t:Int) h'=>t=(g.1:Int)-1/\SAG s b rest h' g.2/\g.2.size=d.size/\heapPop ltInt a g.1 g.2=heapSort ltInt d a e/\Upd (· =b) h h'/\g.1<=e-a) (λg=>g.1) (e-a,Q)
   ⟨rfl,m,o,by rw[heapSort,<-p];rfl,u,aj _⟩ ?_
  rintro T ⟨k,Y⟩ t N ⟨ht,c,q,n,f,z⟩ w;(try simp only at ht c q n z)
  subst ht;refine ar (λE=>?_) λG=>?_
  .obtain⟨k,rfl⟩:∃k',k=k'+1:=⟨k-1,a4⟩
   have D:((k+1:Nat):Int)-1=(k:Int):=a4
   rw[D];refine c.swap (i:=a) (j:=a+k) rfl (by rw[dI a4];omega) a4 a4 λU v F=>?_
   refine CQ (root:=0) v a9 (λW B A=>w (k,_) _ _ ⟨by rw[dI a4],B,by simp[q],?_,(f.tr F).tr A,by(try simp only);omega⟩ a6) a4
   rw[<-n];rfl
  .have:k=0:=by omega
   subst this;refine L _ ?_ f;rw[<-n];exact c
theorem O9(w:SAG s b rest h d)(G:a<e)(H:e<=d.size)(x:∀h',SAG s b rest h' (reverseRange d a e)->Upd (· =b) h h'->K () h'):
  dQ 209 [.slice s.a s.len s.cap,.int .i64 a,.int .i64 e] K h:=by
 refine dg (ko s a e) ql Tryz.func209 Tryz.call209 ?_;dsimp only[ko,Hz,fj,dd,vK,cz];have B:=w.small;refine ez (λ(g:Nat×Nat×Array Int) (t:Int×Int) h'=>t.1=(g.1:Int)/\t.2=(g.2.1:Int)/\SAG s b rest h' g.2.2/\g.2.2.size=d.size/\reverseLoop g.1 g.2.1 g.2.2=reverseRange d a e/\Upd (· =b) h h'/\g.2.1<e) (λg=>g.2.1-g.1) (a,e-1,d)
  ⟨rfl,by(try simp only);rw[dI a4];omega,w,rfl,rfl,eM _ _,by(try simp only);omega⟩ ?_
 rintro I ⟨i,j,z⟩ ⟨F,E⟩ D ⟨q,p,c,o,k,m,y⟩ A;(try simp only at q p c o k y)
 subst q p;refine ar (λf=>?_) λn=>?_
 .have f:i<j:=by have:(i:Int)<(j:Int):=f;omega
  refine c.swap (i:=i) (j:=j) rfl rfl a4 a4 λC v u=>?_
  refine A (i+1,j-1,swp z i j) _ _ ⟨by(try simp only);rw[dI a4];rfl,by(try simp only);rw[dI a4];omega,v,by simp[o],?_,m.tr u,by(try simp only);omega⟩ (by(try simp only);omega)
  rw[<-k];conv=>rhs;rw[reverseLoop]
  rw[if_pos f]
 .refine x _ ?_ m
  rw[<-k,reverseLoop,if_neg (by have n:¬(i:Int)<(j:Int):=n;omega)];exact c
end
section
open Go.Lift Go.Sort
variable {T:Int->(Bool->dO)->dO}{REST:Int->dO}{p:Int->Bool}{a e:Nat}
variable {s:fD} {b:Nat} {rest:c4} {h:ad} {d:Array Int}
theorem BR{k m:Int}{j i0:Nat}(u:m=(i0:Int))(n:k=(j:Int))(y:j<=1000000000)(w:i0<=1000000000)
  (s:∀(i:Nat) (R:Bool->dO),i0<=i->i<=j->R (p d[i]!) h->T (i:Int) R h) (e:REST ((scanUp p d j i0:Nat):Int) h):
  LoopP (λ(I:Int->dO) (t:Int) h'=>Join (λ(c:Bool) a=>fo c (I (ac .i64 (t+1)) a) (REST t a)) (λJ=>fo (decide (t<=k)) (T t J h') (J false h'))) m h:=by
 subst u n;refine ez (λ(i:Nat) (t:Int) h'=>t=(i:Int)/\h'=h/\i0<=i/\i<=1000000001/\scanUp p d j i=scanUp p d j i0) (λi=>j+1-i) i0 ⟨rfl,rfl,aj _,a4,rfl⟩ ?_
 rintro I i t h' ⟨rfl,rfl,hi,o,b⟩ v;refine eF (λc a=>a=h'/\(c=true↔i<=j/\p d[i]! =true)) (λR e=>?_) ?_
 .refine ar (λx=>?_) λq=>e _ _ ⟨rfl,a9⟩
  exact s i _ hi a4 (e _ _ ⟨rfl,a9⟩)
 .rintro c a ⟨rfl,hc⟩
  refine eh (λg=>?_) λg=>?_
  .have f:=hc.1 g
   refine v (i+1) _ _ ⟨by rw[dI a4];rfl,rfl,a4,a4,?_⟩ a4
   rw[<-b];conv=>rhs;rw[scanUp]
   rw[if_pos (by simp[f])]
  .have:scanUp p d j i=i:=by
    rw[scanUp,if_neg];intro f;simp only[bC,decide_eq_true_iff]at f;rw[hc.2 f]at g;cases g
   rw[<-b,this]at e;exact e
theorem yi{n o:Int}{j0 i:Nat}(u:o=(j0:Int))(x:n=(i:Int))(z:j0<=1000000000)(w:1<=i)
  (s:∀(j:Nat) (R:Bool->dO),i<=j->j<=j0->R (p d[j]!) h->T (j:Int) R h) (e:REST ((scanDown p d i j0:Nat):Int) h):
  LoopP (λ(I:Int->dO) (t:Int) h'=>Join (λ(c:Bool) a=>fo c (I (ac .i64 (t-1)) a) (REST t a)) (λJ=>fo (decide (n<=t)) (T t J h') (J false h'))) o h:=by
 subst u x;refine ez (λ(j:Nat) (t:Int) h'=>t=(j:Int)/\h'=h/\j<=j0/\scanDown p d i j=scanDown p d i j0) (λj=>j) j0 ⟨rfl,rfl,aj _,rfl⟩ ?_
 rintro I j t h' ⟨rfl,rfl,m,b⟩ v;refine eF (λc a=>a=h'/\(c=true↔i<=j/\p d[j]! =true)) (λR e=>?_) ?_
 .refine ar (λy=>?_) λq=>e _ _ ⟨rfl,a9⟩
  exact s j _ a4 m (e _ _ ⟨rfl,a9⟩)
 .rintro c a ⟨rfl,hc⟩
  refine eh (λg=>?_) λg=>?_
  .have f:=hc.1 g
   obtain⟨j,rfl⟩:∃k,j=k+1:=⟨j-1,a4⟩
   refine v j _ _ ⟨by rw[dI a4];omega,rfl,a4,?_⟩ a4
   rw[<-b];conv=>rhs;rw[scanDown]
   rw[if_pos (by simp[f])]
  .have:scanDown p d i j=j:=by
    cases j with
    |zero=>rw[scanDown]
    |succ j=>
     rw[scanDown,if_neg];intro f;simp only[bC,decide_eq_true_iff]at f;rw[hc.2 f]at g;cases g
   rw[<-b,this]at e;exact e
theorem R0{n:Nat}(H:SAG s b rest h d)(Z:a<=n)(Y:n<e)(he:e<=d.size){K:Int->dO}(G:∀h',SAG s b rest h' (partitionEqual ltInt d a e n).2->Upd (· =b) h h'->K ((partitionEqual ltInt d a e n).1:Nat) h'):
  fK 212 [.slice s.a s.len s.cap,.int .i64 a,.int .i64 e,.int .i64 n] K h:=by
 refine dg (jE s a e n) pA Tryz.func212 Tryz.call212 ?_;dsimp only[jE,Hz,fj,dd,vK,cz,vz,xf];have S:=H.small;refine H.swap (i:=a) (j:=n) rfl rfl a4 a4 λW D A=>?_
 refine ez (λ(g:Nat×Nat×Array Int) (t:Int×Int) h'=>t.1=(g.1:Int)/\t.2=(g.2.1:Int)/\SAG s b rest h' g.2.2/\g.2.2.size=d.size/\partEqLoop ltInt a g.1 g.2.1 g.2.2=partitionEqual ltInt d a e n/\Upd (· =b) h h'/\g.2.1<e/\a<g.1/\g.1<=1000000000) (λg=>g.2.1+1-g.1) (a+1,e-1,swp d a n)
  ⟨by(try simp only);rw[dI a4];rfl,by(try simp only);rw[dI a4];omega,D,a6,rfl,A,by(try simp only);omega,a6,by(try simp only);omega⟩ ?_
 rintro I ⟨i,j,f⟩ ⟨X,V⟩ U ⟨w,v,m,u,c,q,O,y,o⟩ P;(try simp only at w v m u c O y o)
 subst w v;have L:=scanUp_ge (λx=> !ltInt f[a]! x) f j i
 rw[partEqLoop_eq]at c;refine BR (d:=f) (p:=λx=> !ltInt f[a]! x) (i0:=i) rfl rfl a4 o (λk R C B E=>m.less (i:=a) (j:=k) rfl rfl a4 a4 E) ?_
 generalize scanUp (λx=> !ltInt f[a]! x) f j i=i2 at L c
 have Q:=scanDown_le (λx=>ltInt f[a]! x) f i2 j
 refine yi (d:=f) (p:=λx=>ltInt f[a]! x) (j0:=j) (i:=i2) rfl rfl a4 a4 (λk R C B E=>m.less (i:=a) (j:=k) rfl rfl a4 a4 E) ?_
 generalize scanDown (λx=>ltInt f[a]! x) f i2 j=j2 at Q c
 refine ar (λJ=>?_) λN=>?_
 .rw[if_pos a4]at c
  rw[<-c]at G;exact G _ m q
 .rw[if_neg a4]at c
  refine m.swap (i:=i2) (j:=j2) rfl rfl a4 a4 λT F z=>?_
  exact P (i2+1,j2-1,swp f i2 j2) _ _ ⟨by(try simp only);rw[dI a4];rfl,by(try simp only);rw[dI a4];omega,F,by simp[u],c,q.tr z,by(try simp only);omega,by(try simp only);omega,by(try simp only);omega⟩ (by(try simp only);omega)
theorem XA{m:Nat}(T:SAG s b rest h d)(ha:a<=m)(hp:m<e)(he:e<=d.size){K:Int×Bool->dO}
  (L:∀h',SAG s b rest h' (partition ltInt d a e m).2.2->Upd (· =b) h h'->K (((partition ltInt d a e m).1:Nat),(partition ltInt d a e m).2.1) h'):
  zG 213 [.slice s.a s.len s.cap,.int .i64 a,.int .i64 e,.int .i64 m] K h:=by
 refine dg (ll s a e m) sy Tryz.func213 Tryz.call213 ?_;dsimp only[ll,Hz,fj,dd,vK,cz,vz,xf];have hsm:=T.small;refine T.swap (i:=a) (j:=m) rfl rfl a4 a4 λh0 o C=>?_
 have J:(swp d a m).size=d.size:=a6
 have q:partition ltInt d a e m=(let d:=swp d a m
  let i:=scanUp (λx=>ltInt x d[a]!) d (e-1) (a+1)
  let j:=scanDown (λx=> !ltInt x d[a]!) d i (e-1)
  if i>j then(j,true,swp d j a)else
  let r:=partLoop ltInt a (i+1) (j-1) (swp d i j)
  (r.1,false,swp r.2 r.1 a)):=rfl
 (try simp only at q)
 generalize swp d a m=d0 at o J q;have S:ac .i64 ((e:Int)-1)=((e-1:Nat):Int):=by rw[dI a4];omega
 have wa:ac .i64 ((a:Int)+1)=((a+1:Nat):Int):=by rw[dI a4];rfl
 have W:=scanUp_ge (λx=>ltInt x d0[a]!) d0 (e-1) (a+1)
 refine BR (d:=d0) (p:=λx=>ltInt x d0[a]!) (j:=e-1) (i0:=a+1) wa S a4 a4 (λk R y w z=>o.less (i:=k) (j:=a) rfl rfl a4 a4 z) ?_
 generalize scanUp (λx=>ltInt x d0[a]!) d0 (e-1) (a+1)=i2 at W q
 have g2:=scanDown_le (λx=> !ltInt x d0[a]!) d0 i2 (e-1)
 refine yi (d:=d0) (p:=λx=> !ltInt x d0[a]!) (j0:=e-1) (i:=i2) S rfl a4 a4 (λk R y w z=>o.less (i:=k) (j:=a) rfl rfl a4 a4 z) ?_
 generalize scanDown (λx=> !ltInt x d0[a]!) d0 i2 (e-1)=j2 at g2 q
 refine ar (λO=>?_) λX=>?_
 .rw[if_pos a4]at q
  rw[q]at L;exact o.swap (i:=j2) (j:=a) rfl rfl a4 a4 λQ B v=>L Q B (C.tr v)
 .rw[if_neg a4]at q
  refine o.swap (i:=i2) (j:=j2) rfl rfl a4 a4 λQ B v=>?_
  refine ez (λ(g:Nat×Nat×Array Int) (t:Int×Int) h'=>t.1=(g.1:Int)/\t.2=(g.2.1:Int)/\SAG s b rest h' g.2.2/\g.2.2.size=d.size/\partLoop ltInt a g.1 g.2.1 g.2.2=partLoop ltInt a (i2+1) (j2-1) (swp d0 i2 j2)/\Upd (· =b) h h'/\g.2.1<e/\a<g.1/\g.1<=1000000000) (λg=>g.2.1+1-g.1) (i2+1,j2-1,swp d0 i2 j2)
   ⟨by(try simp only);rw[dI a4];rfl,by(try simp only);rw[dI a4];omega,B,by simp[J],rfl,C.tr v,by(try simp only);omega,by(try simp only);omega,by(try simp only);omega⟩ ?_
  rintro I ⟨i,j,f⟩ ⟨t1,t2⟩ h1 ⟨H,G,n,F,c,D,Y,N,E⟩ Z;(try simp only at H G n F c Y N E)
  subst H G;have g3:=scanUp_ge (λx=>ltInt x f[a]!) f j i
  rw[partLoop_eq]at c;refine BR (d:=f) (p:=λx=>ltInt x f[a]!) (i0:=i) rfl rfl a4 E (λk R y w z=>n.less (i:=k) (j:=a) rfl rfl a4 a4 z) ?_
  generalize scanUp (λx=>ltInt x f[a]!) f j i=i3 at g3 c
  have V:=scanDown_le (λx=> !ltInt x f[a]!) f i3 j
  refine yi (d:=f) (p:=λx=> !ltInt x f[a]!) (j0:=j) (i:=i3) rfl rfl a4 a4 (λk R y w z=>n.less (i:=k) (j:=a) rfl rfl a4 a4 z) ?_
  generalize scanDown (λx=> !ltInt x f[a]!) f i3 j=j3 at V c
  refine ar (λO=>?_) λU=>?_
  .rw[if_pos a4]at c
   rw[q,<-c]at L;exact n.swap (i:=j3) (j:=a) rfl rfl a4 a4 λP u A=>L P u (D.tr A)
  .rw[if_neg a4]at c
   refine n.swap (i:=i3) (j:=j3) rfl rfl a4 a4 λP u A=>?_
   exact Z (i3+1,j3-1,swp f i3 j3) _ _ ⟨by(try simp only);rw[dI a4];rfl,by(try simp only);rw[dI a4];omega,u,by simp[F],c,D.tr A,by(try simp only);omega,by(try simp only);omega,by(try simp only);omega⟩ (by(try simp only);omega)
end
section
open Go.Lift Go.Sort
variable {a e x y c:Nat}{n:Int}{K:Int×Int->dO}
variable {s:fD} {b:Nat} {rest:c4} {h:ad} {d:Array Int}
@[simp] theorem GM(lt:Int->Int->Bool):∀(j:Nat) (d:Array Int),(shiftDown lt j d).size=d.size
 |0,d=>rfl
 |j+1,d=>by rw[shiftDown];split;rfl;rw[GM lt j];simp
@[simp] theorem Zc(lt:Int->Int->Bool)(e j:Nat)(d:Array Int):(shiftUp lt e j d).size=d.size:=by
 fun_induction shiftUp lt e j d<;>simp_all
theorem Ih(hs:SAG s b rest h d)(ha:a<e)(he:e<=d.size){K:Bool->dO}(O:∀h',SAG s b rest h' (partialInsertionSort ltInt d a e).1->Upd (· =b) h h'->K (partialInsertionSort ltInt d a e).2 h'):
  gl 210 [.slice s.a s.len s.cap,.int .i64 a,.int .i64 e] K h:=by
 refine dg (gU s a e) mh Tryz.func210 Tryz.call210 ?_;dsimp only[gU,Hz,fj,dd,vK,cz,vz,xf];have hsm:=hs.small;refine ez (λ(g:Nat×Nat×Array Int) (t:Int×Int) h'=>t.1=(g.2.1:Int)/\t.2=5-(g.1:Int)/\SAG s b rest h' g.2.2/\g.2.2.size=d.size/\partialIns ltInt a e g.1 g.2.1 g.2.2=partialInsertionSort ltInt d a e/\Upd (· =b) h h'/\g.1<=5/\a<g.2.1/\g.2.1<=e) (λg=>g.1) (5,a+1,d)
  ⟨by(try simp only);rw[dI a4];rfl,by(try simp only);omega,hs,rfl,rfl,eM _ _,a6,a6,by(try simp only);omega⟩ ?_
 rintro I ⟨st,i0,D⟩ ⟨t1,t2⟩ h1 ⟨ht1,ht2,q,hz1,y,w,hst,U,hie⟩ hI;(try simp only at ht1 ht2 q hz1 y hst U hie)
 subst ht1 ht2;refine ar (λhlt=>?_) λhge=>?_
 .obtain⟨st,rfl⟩:∃k,st=k+1:=⟨st-1,by have:5-(st:Int)<5:=hlt;omega⟩
  refine eF (λt h'=>∃Q S,t=(Q:Nat)/\SAG s b rest h' S/\S.size=d.size/\partialIns ltInt a e st Q S=partialInsertionSort ltInt d a e/\Upd (· =b) h h'/\a<Q/\Q<=e) (λR hR=>?_) ?_
  .refine ez (λ(i:Nat) (t:Int) h'=>t=(i:Int)/\h'=h1/\scanSorted ltInt D e i=scanSorted ltInt D e i0/\a<i/\i<=e) (λi=>e-i) i0 ⟨rfl,rfl,rfl,U,hie⟩ ?_
   rintro I2 i t h' ⟨rfl,rfl,T,o,m⟩ hI2;refine eF (λc h''=>h''=h'/\(c=true↔i<e/\ltInt D[i]! D[i-1]! =false)) (λR2 hR2=>?_) ?_
   .refine ar (λhle=>?_) λhgt=>hR2 _ _ ⟨rfl,a9⟩
    refine q.less (i:=i) (j:=i-1) rfl (by rw[dI a4];omega) a4 a4 (hR2 _ _ ⟨rfl,a9⟩)
   .rintro c h'' ⟨rfl,hc⟩
    refine eh (λh2=>?_) λh2=>?_
    .have hh:=hc.1 h2
     refine hI2 (i+1) _ _ ⟨by rw[dI a4];rfl,rfl,?_,a4,a4⟩ a4
     rw[<-T];conv=>rhs;rw[scanSorted]
     rw[if_pos (by simp[hh])]
    .have hsi:scanSorted ltInt D e i=i:=by
      rw[scanSorted,if_neg];intro hh;simp only[bC,decide_eq_true_iff,Bool.not_eq_eq_eq_not,Bool.not_true]at hh;rw[hc.2 hh]at h2;cases h2
     have f:=y;rw[partialIns]at f;simp only[<-T,hsi]at f;refine eh (λJ=>?_) λJ=>?_
     .have J:i=e:=Int.ofNat.inj (by simpa using J)
      rw[if_pos J]at f;rw[<-f]at O;exact O _ q w
     .have J:i≠e:=λe'=>by subst e';simp at J
      rw[if_neg J]at f;have we:ac .i64 ((e:Int)-(a:Int))=((e-a:Nat):Int):=by rw[dI a4];omega
      show fo (decide (ac .i64 ((e:Int)-(a:Int))<50)) _ _
      rw[we];refine ar (λh4=>?_) λh4=>?_
      .rw[if_pos a4]at f
       rw[<-f]at O;exact O _ q w
      .rw[if_neg a4]at f
       have hi1:1<=i:=a4
       refine q.swap (i:=i) (j:=i-1) rfl (by rw[dI a4];omega) a4 a4 λh5 E Z=>?_
       have G:(swp D i (i-1)).size=d.size:=by simp[hz1]
       generalize swp D i (i-1)=d5 at E G f;refine eF (λ_ h'=>SAG s b rest h' (if i-a>=2 then shiftDown ltInt (i-1) d5 else d5)/\Upd (· =b) h h') (λR3 u=>?_) ?_
       .have wi:ac .i64 ((i:Int)-(a:Int))=((i-a:Nat):Int):=by rw[dI a4];omega
        show fo (decide (ac .i64 ((i:Int)-(a:Int))>=2)) _ _
        rw[wi];refine ar (λh6=>?_) λh6=>?_
        .rw[if_pos a4]at u
         refine ez (λ(g:Nat×Array Int) (t:Int) h'=>t=(g.1:Int)/\SAG s b rest h' g.2/\g.2.size=d.size/\shiftDown ltInt g.1 g.2=shiftDown ltInt (i-1) d5/\Upd (· =b) h h'/\g.1<e) (λg=>g.1) (i-1,d5)
          ⟨by rw[dI a4];(try simp only);omega,E,G,rfl,w.tr Z,by(try simp only);omega⟩ ?_
         rintro I4 ⟨j,d6⟩ t h7 ⟨ht,v,hz7,p,C,N⟩ B;(try simp only at ht v hz7 p N)
         subst ht;refine ar (λh8=>?_) λh8=>?_
         .obtain⟨j,rfl⟩:∃k,j=k+1:=⟨j-1,a4⟩
          have P:ac .i64 (((j+1:Nat):Int)-1)=(j:Int):=by rw[dI a4];omega
          rw[shiftDown]at p;refine v.less (i:=j+1) (j:=j) rfl P a4 a4 (eh (λh9=>?_) λh9=>?_)
          .rw[if_pos h9]at p
           exact u _ _ ⟨by rw[<-p];exact v,C⟩
          .rw[if_neg (by rw[h9];simp)]at p
           refine v.swap (i:=j+1) (j:=j) rfl P a4 a4 λz W X=>?_
           exact B (j,swp d6 (j+1) j) _ _ ⟨P,W,by simp[hz7],p,C.tr X,by(try simp only);omega⟩ a6
         .have:j=0:=by omega
          subst this;exact u _ _ ⟨by rw[<-p];exact v,C⟩
        .rw[if_neg a4]at u
         exact u _ _ ⟨E,w.tr Z⟩
       .rintro _ h6 ⟨H,V⟩
        have F:(if i-a>=2 then shiftDown ltInt (i-1) d5 else d5).size=d.size:=by split<;>simp[G]
        generalize (if i-a>=2 then shiftDown ltInt (i-1) d5 else d5)=d6 at H F f
        have wi:ac .i64 ((e:Int)-(i:Int))=((e-i:Nat):Int):=by rw[dI a4];omega
        show fo (decide (ac .i64 ((e:Int)-(i:Int))>=2)) _ _
        rw[wi];refine ar (λh7=>?_) λh7=>?_
        .rw[if_pos a4]at f
         refine ez (λ(g:Nat×Array Int) (t:Int) h'=>t=(g.1:Int)/\SAG s b rest h' g.2/\g.2.size=d.size/\shiftUp ltInt e g.1 g.2=shiftUp ltInt e (i+1) d6/\Upd (· =b) h h'/\1<=g.1/\g.1<=e) (λg=>e-g.1) (i+1,d6)
          ⟨by rw[dI a4];rfl,H,F,rfl,V,a6,by(try simp only);omega⟩ ?_
         rintro I4 ⟨j,d7⟩ t h8 ⟨ht,x,A,n,L,hj1,N⟩ B;(try simp only at ht x A n hj1 N)
         subst ht;refine ar (λh9=>?_) λh9=>?_
         .have P:ac .i64 ((j:Int)-1)=((j-1:Nat):Int):=by rw[dI a4];omega
          rw[shiftUp,if_pos a4]at n;refine x.less (i:=j) (j:=j-1) rfl P a4 a4 (eh (λz=>?_) λz=>?_)
          .rw[if_pos z]at n
           exact hR _ _ ⟨i,d7,rfl,x,A,by rw[n];exact f,L,o,m⟩
          .rw[if_neg (by rw[z];simp)]at n
           refine x.swap (i:=j) (j:=j-1) rfl P a4 a4 λh11 Y hu11=>?_
           exact B (j+1,swp d7 j (j-1)) _ _ ⟨by rw[dI a4];rfl,Y,by simp[A],n,L.tr hu11,a6,by(try simp only);omega⟩ (by(try simp only);omega)
         .rw[shiftUp,if_neg a4]at n
          exact hR _ _ ⟨i,d7,rfl,x,A,by rw[n];exact f,L,o,m⟩
        .rw[if_neg a4]at f
         exact hR _ _ ⟨i,d6,rfl,H,F,f,V,o,m⟩
  .rintro t h' ⟨Q,S,rfl,hs2,hz2,f,hu2,o,m⟩
   exact hI (st,Q,S) _ _ ⟨rfl,by(try simp only);rw[dI a4];omega,hs2,hz2,f,hu2,by(try simp only);omega,o,m⟩ a6
 .have:st=0:=by have:¬5-(st:Int)<5:=hge;omega
  subst this;rw[partialIns]at y;rw[<-y]at O;exact O _ q w
theorem B5(f:SAG s b rest h d)(hx:x<d.size)(o:y<d.size)(hc:h[c]? =some (.cells #[.int .i64 n] 3 (0,0))) (a:c≠b) 
  (g:∀h' (p q:Nat) m,(p=x/\q=y\/p=y/\q=x)->SAG s b rest h' d->h'[c]? =some (.cells #[.int .i64 m] 3 (0,0))->Upd (· =c) h h'->K ((p:Int),(q:Int)) h'):
  VR 304 [.slice s.a s.len s.cap,.int .i64 x,.int .i64 y,gZ c] K h:=by
 refine dg (np s x y (some ⟨c,0,none⟩)) .nil Tryz.func304 Tryz.call304 ?_;dsimp only[np,cJ,vz,xf,vK,cz,fj];refine f.less (i:=y) (j:=x) rfl rfl o hx (eh (λt=>?_) λt=>?_)
 .refine⟨_,rfl,n,by rw[bw hc];rfl,_,rfl,fk hc a6,?_⟩
  have k:Upd (· =c) h (hset h ⟨c,0,none⟩ (.int .i64 (ac .i64 (n+1)))):=Upd.hset _ _ rfl
  refine g _ y x (ac .i64 (n+1)) (.inr ⟨rfl,rfl⟩) (f.upd k λe=>a e.symm) ?_ k
  rw[kU hc,eE hc];rfl
 .exact g _ x y _ (.inl ⟨rfl,rfl⟩) f hc (eM _ _)
theorem Iy{z:Nat}(F:SAG s b rest h d)(hx:x<d.size)(D:y<d.size)(A:z<d.size)(hc:h[c]? =some (.cells #[.int .i64 n] 3 (0,0))) (a:c≠b) {K:Int->dO}
  (B:∀h' (p:Nat) m,(p=x\/p=y\/p=z)->SAG s b rest h' d->h'[c]? =some (.cells #[.int .i64 m] 3 (0,0))->Upd (· =c) h h'->K (p:Int) h'):
  fK 273 [.slice s.a s.len s.cap,.int .i64 x,.int .i64 y,.int .i64 z,gZ c] K h:=by
 refine dg (nq s x y z (some ⟨c,0,none⟩)) .nil Tryz.func273 Tryz.call273 ?_;unfold nq Zr;refine B5 F hx D hc a λP C G R Q o t q=>?_
 have f:G<d.size:=a4
 have e:C<d.size:=a4
 refine B5 o f A t a λO E U L S v g j=>?_
 have k:E<d.size:=a4
 refine B5 v e k g a λN J I H T i w u=>?_
 exact B _ I H a4 i w ((q.tr j).tr u)
theorem wL(i:SAG s b rest h d)(u:1<=x)(hx:x+1<d.size)(hc:h[c]? =some (.cells #[.int .i64 n] 3 (0,0))) (f:c≠b) {K:Int->dO}
  (o:∀h' (p:Nat) m,(x-1<=p/\p<=x+1)->SAG s b rest h' d->h'[c]? =some (.cells #[.int .i64 m] 3 (0,0))->Upd (· =c) h h'->K (p:Int) h'):
  fK 272 [.slice s.a s.len s.cap,.int .i64 x,gZ c] K h:=by
 refine dg (jF s x (some ⟨c,0,none⟩)) .nil Tryz.func272 Tryz.call272 ?_;unfold jF Zt;have k:=i.small;have q:ac .i64 ((x:Int)-1)=((x-1:Nat):Int):=by rw[dI a4];omega
 have j:ac .i64 ((x:Int)+1)=((x+1:Nat):Int):=by rw[dI a4];omega
 rw[q,j];exact Iy i a4 a4 hx hc f λh' p m t g e a=>o h' p m a4 g e a
theorem GW(G:SAG s b rest h d)(ha:a<e)(he:e<=d.size)
  (w:∀h' (p:Nat) (n:Int),a<=p->p<e->SAG s b rest h' d->Upd No h h'->K ((p:Int),n) h'):
  VR 208 [.slice s.a s.len s.cap,.int .i64 a,.int .i64 e] K h:=by
 refine dg (kD s a e) qF Tryz.func208 Tryz.call208 ?_;dsimp only[kD,Zt,Zs,YX];have hsm:=G.small;have k0:=e9 No h [.int .i64 0] 3;have o:=cf h [.int .i64 0] 3;have i:=G.upd k0 id;have Z:=bB G.blk;have j:h.size≠b:=a4
 simp only[Go.Lift.At];generalize hnew h [.int .i64 0] 3=h0 at k0 o i;have wl:ac .i64 ((e:Int)-(a:Int))=((e-a:Nat):Int):=by rw[dI a4];omega
 have X:ac .i64 (fX ((e-a:Nat):Int) 4)=(((e-a)/4:Nat):Int):=by
  rw[de a4,dI a4];omega
 have wm:∀k:Nat,k<=3->ac .i64 (((((e-a)/4:Nat):Int))*(k:Int))=(((e-a)/4*k:Nat):Int):=λk w=>by
  rw[pi,dI];have:(e-a)/4*k<=1000000000*3:=Nat.mul_le_mul a4 w;have:(((e-a)/4*k:Nat):Int)=(((e-a)/4:Nat):Int)*(k:Int):=pi ..;omega
 have N:=wm 1 a4;have P:=wm 2 a4;have T:=wm 3 a4;simp only[Int.cast_ofNat_Int]at N P T;simp only[Bd,wl,X];have J:ac .i64 ((((e-a)/4:Nat):Int)*1)=(((e-a)/4*1:Nat):Int):=N;have C:ac .i64 ((((e-a)/4:Nat):Int)*2)=(((e-a)/4*2:Nat):Int):=P;have I:ac .i64 ((((e-a)/4:Nat):Int)*3)=(((e-a)/4*3:Nat):Int):=T;rw[J,C,I];have E:∀k:Nat,k<=3->ac .i64 ((a:Int)+(((e-a)/4*k:Nat):Int))=((a+(e-a)/4*k:Nat):Int):=λk w=>by
  have:(e-a)/4*k<=(e-a)/4*3:=fx _ w;rw[dI a4];omega
 refine⟨a8,a8,a8,?_⟩
 refine eF (λt h'=>∃p:Nat,t=(p:Int)/\a<=p/\p<e/\SAG s b rest h' d/\Upd No h h'/\∃m,h'[h.size]? =some (.cells #[.int .i64 m] 3 (0,0))) (λR S=>?_) ?_
 .rw[E 1 a4,E 2 a4,E 3 a4]
  refine ar (λO=>?_) λO=>?_
  .have O:8<=e-a:=by omega
   refine eF (λt h'=>∃p q r:Nat,t=((p:Int),(q:Int),(r:Int))/\(a<=p/\p<e)/\(a<=q/\q<e)/\(a<=r/\r<e)/\SAG s b rest h' d/\Upd No h h'/\∃m,h'[h.size]? =some (.cells #[.int .i64 m] 3 (0,0))) (λR2 A=>?_) ?_
   .refine ar (λB=>?_) λB=>?_
    .have B:50<=e-a:=by omega
     refine wL i a4 a4 o j λQ V m1 e1 c g f=>?_
     refine wL c a4 a4 g j λY F W e2 z v x=>?_
     refine wL z a4 a4 v j λh3 U m3 e3 D L H=>?_
     exact A _ _ ⟨V,F,U,rfl,a4,a4,a4,D,k0.trans ((f.tr x).tr H) λb hb=>.inr (cL hb.symm),_,L⟩
    .exact A _ _ ⟨_,_,_,rfl,a4,a4,a4,i,k0,_,o⟩
   .rintro t Q ⟨p,q,r,rfl,hp,hq,hr,c,f,m,g⟩
    refine Iy c a4 a4 a4 g j λY F W e2 z v x=>?_
    exact S _ _ ⟨F,rfl,a4,a4,z,f.trans x λb hb=>.inr (cL hb.symm),_,v⟩
  .exact S _ _ ⟨_,rfl,a4,a4,i,k0,_,o⟩
 .rintro t Q ⟨p,rfl,u,y,c,f,m,g⟩
  refine⟨m,by rw[cG,bw g];rfl,eh (λ_=>w _ p _ u y c f) λ_=>eh (λ_=>w _ p _ u y c f) λ_=>w _ p _ u y c f⟩
end
section
open Go.Lift Go.Sort
variable {n:Nat}{K:Int->dO}
variable {s:fD} {b:Nat} {rest:c4} {h:ad} {d:Array Int}
theorem OL(x:Int):ac .u64 x=x%18446744073709551616:=by
 simp[ac,al,IntKind.signed]
theorem KP(x:Int){m:Int}(a:0<=m)(hm:m<18446744073709551616):0<=ac .u64 ((aB (al .u64) x&&&aB (al .u64) m).toNat:Int)/\ac .u64 ((aB (al .u64) x&&&aB (al .u64) m).toNat:Int)<=m:=by
 have c:(aB (al .u64) x&&&aB (al .u64) m).toNat<=(aB (al .u64) m).toNat:=by
  rw[BitVec.toNat_and];exact Nat.and_le_right
 have b:((aB (al .u64) m).toNat:Int)=m:=by
  show((aB 64 m).toNat:Int)=m
  rw[BitVec.toNat_ofInt];have:m%((2^64:Nat):Int)=m:=Int.emod_eq_of_lt a a4;rw[this];omega
 rw[OL];omega
abbrev Ur:c6:=⟨#[0,1,2,2,3,3,3,3,4,4,4,4,4,4,4,4,5,5,5,5,5,5,5,5,5,5,5,5,5,5,5,5,6,6,6,6,6,6,6,6,6,6,6,6,6,6,6,6,6,6,6,6,6,6,6,6,6,6,6,6,6,6,6,6,7,7,7,7,7,7,7,7,7,7,7,7,7,7,7,7,7,7,7,7,7,7,7,7,7,7,7,7,7,7,7,7,7,7,7,7,7,7,7,7,7,7,7,7,7,7,7,7,7,7,7,7,7,7,7,7,7,7,7,7,7,7,7,7,8,8,8,8,8,8,8,8,8,8,8,8,8,8,8,8,8,8,8,8,8,8,8,8,8,8,8,8,8,8,8,8,8,8,8,8,8,8,8,8,8,8,8,8,8,8,8,8,8,8,8,8,8,8,8,8,8,8,8,8,8,8,8,8,8,8,8,8,8,8,8,8,8,8,8,8,8,8,8,8,8,8,8,8,8,8,8,8,8,8,8,8,8,8,8,8,8,8,8,8,8,8,8,8,8,8,8,8,8,8,8,8,8,8,8,8,8,8,8,8,8,8,8,8,8,8,8,8]⟩
theorem XO:∀x:Nat,x<256->∃c:UInt8,Ur[x]? =some c/\c.toNat<=8/\(1<=x->2^c.toNat<=2*x)/\(x=0->c.toNat=0):=by
 have key:∀x:Fin 256,∃c:UInt8,Ur[x.val]? =some c/\c.toNat<=8/\(1<=x.val->2^c.toNat<=2*x.val)/\(x.val=0->c.toNat=0):=by
  intro x;have:∀x:Fin 256,(match Ur[x.val]? with|some c=>decide (c.toNat<=8/\(1<=x.val->2^c.toNat<=2*x.val)/\(x.val=0->c.toNat=0))|none=>false)=true:=by decide+kernel
  have hx:=this x;split at hx
  .rename_i c hc
   exact⟨c,hc,of_decide_eq_true hx⟩
  .cases hx
 exactλx hx=>key ⟨x,hx⟩
theorem VN(v:n<4294967296)(q:∀L:Nat,L<=64->(1<=n->2^L<=2*n)->K (L:Int) h):fK 204 [.int .u64 n] K h:=by
 refine dg (ws n) Em Tryz.func204 Tryz.call204 ?_;unfold ws;have fd:∀(x k:Nat),eY (x:Int) (2^k)=((x/2^k:Nat):Int):=λx k=>by
  rw[Int.fdiv_eq_ediv_of_nonneg _ (Int.pow_nonneg a4)];rw[Int.natCast_ediv,tf];rfl
 refine eF (λt h'=>h'=h/\t=((n:Int),(0:Int))) (λR d=>?_) ?_
 .exact ar (λa=>a4) λa=>d _ _ ⟨rfl,rfl⟩
 .rintro t h' ⟨rfl,rfl⟩
  refine eF (λt g=>g=h'/\∃x s:Nat,t=((x:Int),(s:Int))/\x*2^s<=n/\(1<=n->1<=x)/\x<65536/\s<=16) (λR d=>?_) ?_
  .refine ar (λa=>?_) λa=>d _ _ ⟨rfl,n,0,rfl,a6,λh=>h,by have a:¬(n:Int)>=65536:=a;omega,a4⟩
   have a:65536<=n:=by have a:(n:Int)>=65536:=a;omega
   refine⟨a4,d _ _ ⟨rfl,n/2^16,16,?_,Nat.div_mul_le_self ..,λ_=>a4,a4,a4⟩⟩
   simp only[pf.injEq];exact⟨fd n 16,a8⟩
  .rintro t g ⟨rfl,x,s,rfl,hx,b,e,j⟩
   refine eF (λt f=>f=g/\∃x s:Nat,t=((x:Int),(s:Int))/\x*2^s<=n/\(1<=n->1<=x)/\x<256/\s<=24) (λR d=>?_) ?_
   .refine ar (λa=>?_) λa=>d _ _ ⟨rfl,x,s,rfl,hx,b,by have a:¬(x:Int)>=256:=a;omega,a4⟩
    have a:256<=x:=by have a:(x:Int)>=256:=a;omega
    refine⟨a4,d _ _ ⟨rfl,x/2^8,s+8,?_,?_,λ_=>a4,a4,a4⟩⟩
    .simp only[pf.injEq]
     exact⟨fd x 8,by rw[dI a4];omega⟩
    .rw[pO,ip (2^s),<-rE]
     exact aO (cD _ (Nat.div_mul_le_self ..)) hx
   .rintro t f ⟨rfl,x,s,rfl,hx,b,e,j⟩
    obtain⟨c,hc,u,i,o⟩:=XO x e;have wx:ac .u8 (x:Int)=(x:Int):=by
     simp[ac,al,IntKind.signed];omega
    show∃b10:UInt8,(0:Int)<=ac .u8 (x:Int)/\Ur[(ac .u8 (x:Int)).toNat]? =some b10/\_
    rw[wx];refine⟨c,a4,by simpa using hc,?_⟩
    have m:ac .i64 (c.toNat:Int)=(c.toNat:Int):=dI a4;have p:ac .i64 ((s:Int)+ac .i64 (c.toNat:Int))=((s+c.toNat:Nat):Int):=by rw[m,dI a4];omega
    show K (ac .i64 ((s:Int)+ac .i64 (c.toNat:Int))) f
    rw[p];refine q _ a4 λa=>?_
    have:=i (b a);rw[pO];calc 2^s*2^c.toNat<=2^s*(2*x):=fx _ this
     _=2*(x*2^s):=by rw[ip (2^s),rE]
     _<=2*n:=fx _ hx
theorem Uo(b:n<4294967296)(a:∀L:Nat,L<=64->(1<=n->2^L<=2*n)->K (L:Int) h):fK 140 [.int .u64 n] K h:=by
 refine dg (yY n) .nil Tryz.func140 Tryz.call140 ?_;unfold yY;exact VN b a
theorem Pz(c:1<=n)(g:n<=1000000000)(d:∀m:Nat,1<=m->m<=2*n->K (m:Int) h):pQ 267 [.int .i64 n] K h:=by
 refine dg (pL n) .nil Tryz.func267 Tryz.call267 ?_;unfold pL;rw[show ac .u64 (n:Int)=(n:Int) by rw[OL];omega]
 refine Uo a4 λL f b=>⟨a4,?_⟩
 have:=b c;have e:ac .u64 (1*2^(min ((L:Int)).toNat (al .u64)))=((2^L:Nat):Int):=by
  rw[OL,show min ((L:Int)).toNat (al .u64)=L by simp[al];omega,Int.one_mul]
  have a:(2:Int)^L=((2^L:Nat):Int):=a6
  rw[a];generalize 2^L=P at this⊢;omega
 rw[e];exact d _ (Nat.one_le_two_pow) this
theorem MK{c:Nat}{n:Int}{t:TypeId}(hc:h[c]? =some (.cells #[.int .u64 n] t (0,0))) 
  (j:∀h' m,h'[c]? =some (.cells #[.int .u64 m] t (0,0))->Upd (· =c) h h'->K m h'):pQ 268 [gZ c] K h:=by
 refine dg (qf (some ⟨c,0,none⟩)) .nil Tryz.func268 Tryz.call268 ?_;dsimp only[qf,cJ,ze,Qo];have set:∀{h:ad} {n:Int} (m:Int),h[c]? =some (.cells #[.int .u64 n] t (0,0))->(hset h ⟨c,0,none⟩ (.int .u64 m))[c]? =some (.cells #[.int .u64 m] t (0,0))/\Upd (· =c) h (hset h ⟨c,0,none⟩ (.int .u64 m))/\Wr h ⟨c,0,none⟩:=λm hc=>by
  refine⟨?_,Upd.hset _ _ rfl,fk hc a6⟩;rw[kU hc,eE hc];rfl
 have a:∀{h:ad} {n:Int},h[c]? =some (.cells #[.int .u64 n] t (0,0))->aZ h ⟨c,0,none⟩=some (.int .u64 n):=λhc=>by rw[bw hc];rfl
 refine⟨_,rfl,_,a hc,_,rfl,_,a hc,a4,_,rfl,?_⟩
 obtain⟨d,k1,i⟩:=set _ hc;refine⟨i,_,rfl,_,a d,_,rfl,_,a d,a4,_,rfl,?_⟩
 obtain⟨b,f,g⟩:=set _ d;refine⟨g,_,rfl,_,a b,_,rfl,_,a b,a4,_,rfl,?_⟩
 obtain⟨e,k,o⟩:=set _ b;exact⟨o,_,rfl,_,a e,j _ _ e ((k1.tr f).tr k)⟩
theorem DE{a e:Nat}(C:SAG s b rest h d)(ha:a<=e)(he:e<=d.size){K:Unit->dO}(N:∀h' d',SAG s b rest h' d'->PermIn a e d d'->Upd (· =b) h h'->K () h'):
  dQ 207 [.slice s.a s.len s.cap,.int .i64 a,.int .i64 e] K h:=by
 refine dg (jR s a e) pT Tryz.func207 Tryz.call207 ?_;dsimp only[jR,Hz,fj,dd,vK,cz,YX];have hsm:=C.small;have wl:ac .i64 ((e:Int)-(a:Int))=((e-a:Nat):Int):=by rw[dI a4];omega
 rw[wl];refine ar (λO=>?_) λO=>N h d C (permIn_refl ..) (eM _ _)
 have O:8<=e-a:=a4
 have k0:=e9 No h [.int .u64 0] 358;have f:=cf h [.int .u64 0] 358;have y:=C.upd k0 id;have Z:=bB C.blk;have k:h.size≠b:=a4
 simp only[Go.Lift.At,cG];generalize hnew h [.int .u64 0] 358=h0 at k0 f y;refine⟨fk f a6,?_⟩;have k1:Upd (· =h.size) h0 (hset h0 ⟨h.size,0,none⟩ (.int .u64 (ac .u64 ((e-a:Nat):Int)))):=Upd.hset _ _ rfl
 have z:(hset h0 ⟨h.size,0,none⟩ (.int .u64 (ac .u64 ((e-a:Nat):Int))))[h.size]? =some (.cells #[.int .u64 (ac .u64 ((e-a:Nat):Int))] 358 (0,0)):=by
  rw[kU f,eE f];rfl
 have w:=y.upd k1 λe=>k e.symm
 generalize hset h0 ⟨h.size,0,none⟩ (.int .u64 (ac .u64 ((e-a:Nat):Int)))=h1 at k1 z w;refine Pz a4 a4 λm hm1 hm2=>⟨a8,?_⟩
 have S:ac .i64 (ac .i64 (fX ((e-a:Nat):Int) 4)*2)=(((e-a)/4*2:Nat):Int):=by
  rw[de a4,dI (x:=((e-a:Nat):Int)/4) a4,dI a4];omega
 simp only[Bd];rw[S];have Y:ac .i64 (ac .i64 ((a:Int)+(((e-a)/4*2:Nat):Int))-1)=((a+(e-a)/4*2-1:Nat):Int):=by
  rw[dI (x:=(a:Int)+_) a4,dI a4];omega
 have U:ac .i64 (ac .i64 ((a:Int)+(((e-a)/4*2:Nat):Int))+1)=((a+(e-a)/4*2+1:Nat):Int):=by
  rw[dI (x:=(a:Int)+_) a4,dI a4];omega
 rw[Y];refine ez (λ(g:Nat×Array Int) (t:Int) h'=>t=(g.1:Int)/\SAG s b rest h' g.2/\PermIn a e d g.2/\Upd (· =b) h h'/\(∃n,h'[h.size]? =some (.cells #[.int .u64 n] 358 (0,0)))/\a+(e-a)/4*2-1<=g.1/\g.1<=a+(e-a)/4*2+2) (λg=>a+(e-a)/4*2+2-g.1) (a+(e-a)/4*2-1,d)
  ⟨rfl,w,permIn_refl ..,k0.wide.trans k1 λx hx=>.inr a4,⟨_,z⟩,aj _,by(try simp only);omega⟩ ?_
 rintro I ⟨i,B⟩ t W ⟨ht,p,c,v,⟨n2,D⟩,G,H⟩ hI;(try simp only at ht p c G H)
 subst ht;have hz:B.size=d.size:=c.1;refine⟨a8,?_⟩;rw[U];refine ar (λF=>?_) λQ=>N W B p c v
 have F:i<=a+(e-a)/4*2+1:=a4
 refine MK D λV r L A=>?_
 have E:=p.upd A λe=>k e.symm
 have wm:ac .u64 ((m:Int)-1)=((m-1:Nat):Int):=by rw[OL];omega
 rw[wm];obtain⟨a0,T⟩:=KP r (m:=((m-1:Nat):Int)) a4 a4;generalize ac .u64 ((aB (al .u64) r&&&aB (al .u64) ((m-1:Nat):Int)).toNat:Int)=o at a0 T;have X:ac .i64 o=o:=dI a4;refine eF (λt h'=>h'=V/\∃q:Nat,t=(q:Int)/\q<e-a) (λR P=>?_) ?_
 .show fo (decide (ac .i64 o>=((e-a:Nat):Int))) _ _
  rw[X];refine ar (λh4=>P _ _ ⟨rfl,(o-((e-a:Nat):Int)).toNat,?_,a4⟩) λh4=>P _ _ ⟨rfl,o.toNat,a4,a4⟩
  show ac .i64 (o-((e-a:Nat):Int))=_
  rw[dI a4];omega
 .rintro t h' ⟨rfl,q,rfl,hq⟩
  have wj:ac .i64 ((a:Int)+(q:Int))=((a+q:Nat):Int):=by rw[dI a4];omega
  refine E.swap (i:=i) (j:=a+q) rfl wj a4 a4 λh5 J u=>?_
  refine hI (i+1,swp B i (a+q)) _ _ ⟨by rw[dI a4];rfl,J,permIn_trans _ _ _ _ _ c (swp_permIn B a e i (a+q) a4 a4 a4 a4 a4),?_,⟨r,u.get L k⟩,by(try simp only);omega,by(try simp only);omega⟩ (by(try simp only);omega)
  exact(v.trans A λx hx=>.inr a4).tr u
end
section
open Go.Lift Go.Sort
variable {s:fD} {b:Nat} {rest:c4} {h:ad} {d:Array Int}
theorem OV:SWO ltInt:=⟨λx=>by simp[ltInt],λx y z b a=>by simp only[ltInt,decide_eq_true_iff]at*;omega,λx y z b a=>by simp only[ltInt,decide_eq_false_iff_not]at*;omega⟩
theorem Z3:∀(n:Nat) {a e:Nat} {lim:Int} {h:ad} {d:Array Int} {K:Unit->dO},e-a=n->SAG s b rest h d->a<=e->e<=d.size->Go.Sort.Below ltInt a e d->
  (∀h' d',SAG s b rest h' d'->PermIn a e d d'->SortedIn ltInt a e d'->Upd (· =b) h h'->K () h')->dQ 143 [.slice s.a s.len s.cap,.int .i64 a,.int .i64 e,.int .i64 lim] K h:=by
 intro n;induction n using Nat.strongRecOn with
 |_ n ih=>
 intro a e lim h d K hn hs ha he hB hk;refine mz s a e lim ?_;dsimp only[ja,GK,CG,vz,xf,vK,cz,fj];have hsm:=hs.small;refine ez (λ(g:Nat×Nat×Array Int) (t:Int×Int×Int×Bool×Bool) h'=>t.1=(g.1:Int)/\t.2.1=(g.2.1:Int)/\SAG s b rest h' g.2.2/\g.2.2.size=d.size/\(a<=g.1/\g.1<=g.2.1/\g.2.1<=e)/\Go.Sort.Below ltInt g.1 g.2.1 g.2.2/\
   (∀R,PermIn g.1 g.2.1 g.2.2 R->SortedIn ltInt g.1 g.2.1 R->PermIn a e d R/\SortedIn ltInt a e R)/\Upd (· =b) h h') (λg=>g.2.1-g.1) (a,e,d)
  ⟨rfl,rfl,hs,rfl,⟨aj _,ha,aj _⟩,hB,λR h1 h2=>⟨h1,h2⟩,eM _ _⟩ ?_
 rintro I ⟨c,f,W⟩ ⟨t1,t2,l1,wb,wp⟩ h1 ⟨T,ht2,D,S,⟨haa,v,hee⟩,hB1,k,Q⟩ hI;(try simp only at T ht2 D S haa v hee hB1 k)
 subst T ht2;have u:f<=W.size:=a4
 have wl:ac .i64 ((f:Int)-(c:Int))=((f-c:Nat):Int):=by rw[dI a4];omega
 (try simp only)
 rw[wl];refine ar (λhle=>?_) λhgt=>?_
 .refine PM D v u λh2 y o=>?_
  obtain⟨p1,p2⟩:=insertionSort_holds OV W c f v u;obtain⟨q1,q2⟩:=k _ p1 p2;exact hk _ _ y q1 q2 (Q.tr o)
 have hgt:12<f-c:=a4
 refine eh (λ_=>?_) λ_=>?_
 .refine NF D v u λh2 y o=>?_
  obtain⟨p1,p2⟩:=heapSort_holds OV W c f v u;obtain⟨q1,q2⟩:=k _ p1 p2;exact hk _ _ y q1 q2 (Q.tr o)
 refine eF (λ_ h'=>∃U,SAG s b rest h' U/\PermIn c f W U/\Upd (· =b) h h') (λR z=>?_) ?_
 .refine eh (λ_=>?_) λ_=>z _ _ ⟨W,D,permIn_refl ..,Q⟩
  exact DE D v u λh2 U y G o=>z _ _ ⟨U,y,G,Q.tr o⟩
 rintro lim2 h2 ⟨U,y,G,o⟩;have hz2:U.size=d.size:=by rw[G.1,S]
 refine GW y a4 a4 λh3 p hn1 hpa hpe hs3 hu3=>?_
 refine eF (λt h'=>∃(q:Nat) (d3:Array Int),t.1=(q:Int)/\c<=q/\q<f/\SAG s b rest h' d3/\PermIn c f W d3/\Upd (· =b) h h') (λR z=>?_) ?_
 .refine eh (λ_=>?_) λ_=>z _ _ ⟨p,U,rfl,hpa,hpe,hs3,G,o.tr hu3.wide⟩
  refine O9 hs3 a4 a4 λh4 P F=>z _ _ ⟨f-1-(p-c),_,?_,a4,a4,P,permIn_trans _ _ _ _ _ G (reverseRange_holds U c f v a4),(o.tr hu3.wide).tr F⟩
  show ac .i64 (ac .i64 ((f:Int)-1)-ac .i64 ((p:Int)-(c:Int)))=_
  rw[dI (x:=(f:Int)-1) a4,dI (x:=(p:Int)-(c:Int)) a4,dI a4];omega
 rintro⟨q1,hint⟩ h4 ⟨q,d3,hq,J,L,P,H,F⟩;(try simp only at hq)
 subst hq;have hz3:d3.size=d.size:=by rw[H.1,S]
 have hB3:Go.Sort.Below ltInt c f d3:=hB1.perm u H;refine eF (λ_ h'=>∃N,SAG s b rest h' N/\PermIn c f W N/\Upd (· =b) h h') (λR z=>?_) ?_
 .refine eF (λ_ h'=>h'=h4) (λR2 hR2=>eh (λ_=>eh (λ_=>hR2 _ _ rfl) λ_=>hR2 _ _ rfl) λ_=>hR2 _ _ rfl) ?_
  rintro _ h5 rfl;refine eh (λ_=>?_) λ_=>z _ _ ⟨d3,P,H,F⟩
  refine Ih P a4 a4 λh6 hs6 hu6=>?_
  obtain⟨p1,p2⟩:=partialInsertionSort_holds OV d3 c f a4 a4 hB3;refine eh (λhb=>?_) λ_=>z _ _ ⟨_,hs6,permIn_trans _ _ _ _ _ H p1,F.tr hu6⟩
  obtain⟨V,Y⟩:=k _ (permIn_trans _ _ _ _ _ H p1) (p2 hb);exact hk _ _ hs6 V Y (F.tr hu6)
 rintro _ h5 ⟨N,X,B,Z⟩;have hz4:N.size=d.size:=by rw[B.1,S]
 have hB4:Go.Sort.Below ltInt c f N:=hB1.perm u B;refine eF (λt h'=>h'=h5/\(t=true->0<c/\ltInt N[c-1]! N[q]! =false)) (λR z=>?_) ?_
 .refine ar (λh6=>?_) λ_=>z _ _ ⟨rfl,λe=>by cases e⟩
  refine X.less (i:=c-1) (j:=q) (by rw[dI a4];omega) rfl a4 a4 (z _ _ ⟨rfl,λe=>⟨a4,by simpa using e⟩⟩)
 rintro t h6 ⟨rfl,ht⟩;refine eh (λT=>?_) λ_=>?_
 .obtain⟨h7,h8⟩:=ht T
  refine R0 X J L a4 λh9 w O=>?_
  cases hx:partitionEqual ltInt N c f q with
  |mk mid d5=>
   rw[hx]at w;obtain⟨m1,m2,m3,m4,m5⟩:=round_eq OV (partitionEqual_holds _) h7 J L a4 hB4 h8 hx;refine hI (mid,f,d5) _ _ ⟨rfl,rfl,w,by(try simp only);omega,⟨by(try simp only);omega,m2,hee⟩,m4,λR V Y=>?_,Z.tr O⟩ (by(try simp only);omega)
   obtain⟨x1,x2⟩:=m5 R V Y;exact k R (permIn_trans _ _ _ _ _ B x1) x2
 .refine XA X J L a4 λh9 w O=>?_
  cases hx:partition ltInt N c f q with
  |mk mid r=>
   obtain⟨ap,d5⟩:=r;rw[hx]at w;obtain⟨m1,m2,m3,m4,m5,m6,m7⟩:=round_part OV (partition_holds _) J L a4 hB4 hx;(try simp only at w⊢)
   refine⟨a8,?_⟩;have w1:ac .i64 ((mid:Int)-(c:Int))=((mid-c:Nat):Int):=by rw[dI a4];omega
   have w2:ac .i64 ((f:Int)-(mid:Int))=((f-mid:Nat):Int):=by rw[dI a4];omega
   have w3:ac .i64 ((mid:Int)+1)=((mid+1:Nat):Int):=by rw[dI a4];omega
   rw[w1,w2,w3];refine ar (λ_=>?_) λ_=>?_
   .refine ih (mid-c) a4 rfl w m1 a4 m4 λh10 d6 C m A E=>?_
    obtain⟨y1,y2⟩:=m6 d6 m A;have hz6:=m.1;refine hI (mid+1,f,d6) _ _ ⟨rfl,rfl,C,by(try simp only);omega,⟨by(try simp only);omega,by(try simp only);omega,hee⟩,y1,λR V Y=>?_,(Z.tr O).tr E⟩ (by(try simp only);omega)
    obtain⟨x1,x2⟩:=y2 R V Y;exact k R (permIn_trans _ _ _ _ _ B x1) x2
   .refine ih (f-(mid+1)) a4 rfl w a4 a4 m5 λh10 d6 C m A E=>?_
    obtain⟨y1,y2⟩:=m7 d6 m A;have hz6:=m.1;refine hI (c,mid,d6) _ _ ⟨rfl,rfl,C,by(try simp only);omega,⟨haa,m1,by(try simp only);omega⟩,y1,λR V Y=>?_,(Z.tr O).tr E⟩ (by(try simp only);omega)
    obtain⟨x1,x2⟩:=y2 R V Y;exact k R (permIn_trans _ _ _ _ _ B x1) x2
theorem GP{d a:Array Int}(b:PermIn 0 d.size d a):a.toList.Perm d.toList:=by
 have:=b.2.2;have c:a.extract 0 d.size=a:=by rw[<-b.1];simp
 rw[c]at this;simpa using this
theorem ZK{M:dx}{h:ad}{s:fD}{xs:List Int}(c:OwnS u32 1 31 M h s xs)(D:xs.length<=1000000000){K:Unit->dO}
  (u:∀h' ys,OwnS u32 1 31 M h' s ys->ys.Perm xs->ys.Pairwise (·<=·)->Upd M h h'->K () h'):dQ 95 [.slice s.a s.len s.cap] K h:=by
 refine dg (pM s) .nil Tryz.func95 Tryz.call95 ?_;unfold pM GK;have g:s.len=xs.length:=c.len;rw[show ac .u64 (s.len:Int)=(s.len:Int) by rw[OL];omega]
 refine Uo a4 λL _ _=>?_
 rcases c.blk with O|⟨b,rest,z,f,hb,E⟩
 .have hx:xs= []:=by
   have:=c.cap;exact List.length_eq_zero_iff.1 a4
  subst hx;obtain⟨A,C,c0⟩:=s;have n:C=0:=g;subst n;refine mz ⟨A,0,c0⟩ 0 ((0:Nat):Int) L ?_;dsimp only[ja,GK,CG,vz,xf,vK,cz,fj];refine ez (λ(_:Unit) (t:Int×Int×Int×Bool×Bool) h'=>t.1=0/\t.2.1=0/\h'=h) (λ_=>0) () ⟨rfl,rfl,rfl⟩ ?_
  rintro I _ ⟨P,N,Q⟩ h' ⟨rfl,rfl,rfl⟩ _;refine ar (λ_=>?_) λk=>absurd (show ac .i64 ((0:Int)-0)<=12 by decide) k
  refine jQ ⟨A,0,c0⟩ 0 0 ?_;dsimp only[gn,Hz,fj,dd,vK,cz,vz,xf];refine ez (λ(_:Unit) (t:Int) v=>t=1/\v=h') (λ_=>0) () ⟨a8,rfl⟩ ?_
  rintro J _ t v ⟨rfl,rfl⟩ _;exact ar (λk=>absurd k a8) λ_=>u _ [] c (qx _) cj (eM _ _)
 .have F:SAG s b rest h xs.toArray:=⟨z,by simp[g],by simpa using hb,by simpa using D⟩
  have B:((s.len:Nat):Int)=((xs.toArray.size:Nat):Int):=by simp[g]
  rw[B];refine Z3 (a:=0) (e:=xs.toArray.size) _ rfl F (aJ _) (aj _) (.inl rfl) λh' p q y G H=>?_
  have d:=GP y;refine u h' p.toList ⟨by rw[g,d.length_eq],c.ne,c.cap,.inr ⟨b,rest,z,f,q.blk,E⟩⟩ (by simpa using d) ?_ (H.mono λx hx=>.inl (hx▸f))
  rw[List.pairwise_iff_getElem];intro i j hi w m;have o:=y.1;have:=G i j (aJ _) m (by rw[<-o];simpa using w);simp only[ltInt,decide_eq_false_iff_not]at this;rw[getElem!_pos p j (by simpa using w),getElem!_pos p i (by simpa using hi)]at this;simp only[Array.getElem_toList];omega
theorem Ro{h:ad}{c:Value}{N:Nat}{S:List Int->Prop}{Q:dx}(g:Gives PG c u32 N S Q h)(f:N<=1000000000)(j:∀xs,S xs->xs.length<=1000000000){K:fD->dO}
  (n:∀s' h' xs ys,S xs->OwnS u32 1 31 (λb=>h.size<=b) h' s' ys->ys.Perm xs->ys.Pairwise (·<=·)->Upd No h h'->K s' h'):ce 42 [c] K h:=by
 refine dg (tI c) .nil Tryz.func42 Tryz.call42 ?_;unfold tI;refine S4 g f λo q xs hx e i=>?_
 exact ZK e (j xs hx) λk ys a m p d=>n o k xs ys hx a m p (i.trans d λb hb=>.inr hb)
end
section
open Go.Lift
variable {W:dx}{h:ad}{L:dA}
theorem Be:∀{ys:List Int},ys.Pairwise (·<=·)->ys.Nodup->ys.Pairwise (· < ·)
 | [],_,_=>cj
 |y::ys,h,n=>by
  rw[aC]at h;rw[List.nodup_cons]at n;exact aC.2 ⟨λz a=>by have:=h.1 z a;have:y≠z:=λe=>n.1 (e▸a);omega,Be h.2 n.2⟩
theorem Rep.keys{m:List (Int×fD)}(r:Rep W h m L)(id:Int):id∈m.map (·.1)↔id∈eR L:=by
 have:=r.some id;have a:id∈m.map (·.1)↔(bK m id).isSome=true:=by
  cases hl:bK m id with
  |none=>simp[eH.1 hl]
  |some v=>
   simp only[Option.isSome_some,iff_true];by_cases hm:id∈m.map (·.1)
   .exact hm
   .rw[eH.2 hm]at hl;cases hl
 rw[a,this,decide_eq_true_iff]
theorem aau{gp gm:Nat}{nx:Int}(g:GraphAt W h gp gm L nx)(d:(eR L).Pairwise (· < ·))(t:L.length<=100000)
  {K:fD->dO}(q:∀s' h',OwnS u32 1 31 (λb=>h.size<=b) h' s' (eR L)->Upd No h h'->K s' h'):ce 10 [gZ gp] K h:=by
 refine dg (wy (some ⟨gp,0,none⟩)) .nil Tryz.func10 Tryz.call10 ?_;dsimp only[wy,cz,cJ];obtain⟨m,hm,i⟩:=g.map;have j:=i.len hm.nodup g.nd;refine eh (λe=>by cases e) λ_=>⟨_,rfl,_,g.c0,?_⟩
 refine XS hm λu v s c=>?_
 refine Ro s a4 (λxs hx=>by have:=hx.length_eq;simp at this;omega) λs' o xs ys hx k p n f=>?_
 have a:=p.trans hx;have e:ys=eR L:=H8 (Be n (a.nodup_iff.2 hm.nodup)) d λy=>by rw[a.mem_iff,i.keys]
 subst e;exact q s' o (k.more λb hb=>aO c.size hb) (c.tr f)
end
section
open Go.Lift
variable {h:ad}{n a b x i lev:Nat}{s:c6}{k0 k1:Int}{K:Int->dO}{q:Q4}
def adC(W:dx)(h:ad)(m:List (Int×fD))(F:Int->Option (List Int)):Prop:=
 ∀id,(∃s ps,bK m id=some s/\F id=some ps/\Nums W h s ps)\/(bK m id=none/\F id=none)
theorem tX(p:Int->Bool):∀(L:dA) (j:Int),bK (L.filter λv=>p v.1) j=if p j then bK L j else none
 | [],j=>by simp[bK]
 |v::L,j=>by
  rw[bf];by_cases h:p v.1=true
  .rw[if_pos h]
   simp only[bK];rw[tX p L j];by_cases e:j=v.1
   .subst e;simp[h]
   .simp[e]
  .rw[if_neg h,tX p L j]
   simp only[bK];by_cases e:j=v.1
   .subst e;simp[h]
   .simp[e]
theorem X5{W:dx}{gp gm:Nat}{L:dA}{nx:Int}(g:GraphAt W h gp gm L nx)(gd:Good L){s:fD}{keep:List Int}(hs:Nums W h s keep)(hn:keep.length<=1000)
  {K:fD->dO}(hk:∀s' h' (st:List Int),(∀y,y∈st↔∃k∈keep,UpG L k y)->OwnS u32 1 31 (λb=>h.size<=b) h' s' ((eR L).filter λy=> !decide (y∈st))->GraphAt W h' gp gm (L.filter λv=>decide (v.1∈st)) nx->Upd (Cl gp gm) h h'->K s' h'):
  ce 41 [gZ gp,.slice s.a s.len s.cap] K h:=by
 refine dg (vi (some ⟨gp,0,none⟩) s) CB Tryz.func41 Tryz.call41 ?_;dsimp only[vi,cz,y7,vK,fj,cJ,sL];have hLl:=gd.len;refine eh (λe=>by cases e) λ_=>?_
 refine Dx hs a4 λs1 R ho1 N _=>?_
 have a:∀b,W b->b<h.size:=g.lt;have g1':=g.more (Q:=λb=>h.size<=b/\b<R.size) N λb hb=>hb
 have z1:=N.size;refine L2 (Q:=λb=>h.size<=b/\b<R.size) g1' (λb hb=>⟨.inr hb,λe=>by have:=a _ g.wp;omega,λe=>by have:=a _ g.wm;omega⟩) gd.two gd.len (ho1.more λb hb=>a4) a4 λr U m hr hm hy hv hu2=>?_
 have u:Upd No h U:=N.trans hu2 λb hb=>.inr hb.1
 have g2:=g.upd0 u;refine aau g2 gd.up hLl λs3 P B C=>?_
 have V:=u.tr C;have g3:=g2.upd0 C;have hm3:=hm.upd C id;have hrW:¬W r:=λe=>by have:=a _ e;omega
 have hr2:=hm.lt;obtain⟨st,J⟩:∃st:List Int,st=m.map (·.1):=⟨_,rfl⟩
 have hyst:∀y,y∈st↔∃k∈keep,UpG L k y:=λy=>by rw[J];exact hy y
 have H:∀y,((bK m y).getD 0==(0:Int))= !decide (y∈st):=λy=>by
  cases hl:bK m y with
  |none=>simp[J,eH.1 hl]
  |some v=>
   have:=hv y v hl;subst this;have:y∈st:=by rw[J];exact List.mem_map.2 ⟨_,(eS hm.nodup).1 hl,rfl⟩
   simp[this]
 have Y:Nums (Cl gp gm) P s3 (eR L):=B.sl λb hb _ hw=>by
  have:=a _ g.wp;have:=a _ g.wm;rcases hw with rfl|rfl<;>omega
 have p:(eR L).length=L.length:=a6
 have hsz2:=C.size;have hsz1:=u.size;have hp3:=a _ g.wp;have hm3':=a _ g.wm;refine ez (λ(i:Nat) (t:fD×Int) h'=>t.2=(i:Int)/\i<=L.length/\Upd (Cl gp gm) P h'/\OwnS u32 1 31 (λb=>P.size<=b) h' t.1 (((eR L).take i).filter λy=> !decide (y∈st))/\
   h'[gp]? =some (.cells #[.map (some gm),.int .u32 nx] 104 (0,0))/\∃z,MapAt KE sv h' gm z/\adC (λb=>W b\/P.size<=b) h' z (λj=>if j∈(eR L).take i/\j∉st then none else bK L j)) (λi=>L.length-i) 0
  ⟨rfl,aJ _,eM _ _,OwnS.nil kz,g3.blk,by
   obtain⟨z,h4,h5⟩:=g3.map
   exact⟨z,h4,λj=>by
    rcases h5 j with⟨D,ps,w,f,E⟩|q
    .exact .inl ⟨D,ps,w,by simpa using f,E.less λb hb=>hb⟩
    .exact .inr (by simpa using q)⟩⟩ ?_
 rintro I i ⟨out,t⟩ h' ⟨ht,hi,S,T,hb,z,A,G⟩ hI;(try simp only at ht T)
 subst ht;have hz':=S.size;refine ar (λc=>?_) λO=>?_
 .have c:(i:Int)<(s3.len:Int):=c
  rw[B.len,p]at c;have c:i<L.length:=a4
  have F:i<(eR L).length:=a4
  obtain⟨a1,ha1,_,hx⟩:=Nums.at (Y.upd S λb hb=>.inl hb) F
  have hmr:=(hm3.upd S (λe=>by rcases e with e|e<;>omega)).get (eR L)[i] 0
  refine eQ ⟨by show(0:Int)<=(i:Int)/\(i:Int)<(s3.len:Int);rw[B.len,p];omega,a1,ha1,_,hx,_,_,hmr,?_⟩;rw[H];have n:(eR L).take (i+1)=(eR L).take i++ [(eR L)[i]]:=List.take_succ_eq_append_getElem F;refine eh (λhc=>?_) λhc=>?_
  .have o:(eR L)[i]∉st:=by simpa using hc
   refine eQ ⟨_,rfl,_,by rw[show adr ⟨gp,0,none⟩ 0=⟨gp,0,none⟩from rfl,bw hb];rfl,.inr ⟨gm,rfl,A.isMap,?_⟩⟩
   have hmd:MapAt KE sv (rR h' gm (.int .u32 (eR L)[i])) gm (lA z (eR L)[i]):=A.del (eR L)[i];have d:Upd (· =gm) h' (rR h' gm (.int .u32 (eR L)[i])):=xj _ _ rfl
   have Z:=T.upd d λb hb e=>a4
   have hbd:(rR h' gm (.int .u32 (eR L)[i]))[gp]? =some (.cells #[.map (some gm),.int .u32 nx] 104 (0,0)):=d.get hb (λe=>g.ne e.symm)
   have X:adC (λb=>W b\/P.size<=b) (rR h' gm (.int .u32 (eR L)[i])) (lA z (eR L)[i]) (λj=>if j∈(eR L).take (i+1)/\j∉st then none else bK L j):=λj=>by
    rw[pK];by_cases e:j=(eR L)[i]
    .right
     rw[if_pos e];refine⟨rfl,?_⟩;(try simp only)
     rw[if_pos ⟨by rw[n,e];exact List.mem_append_right _ (az.2 rfl),by rw[e];exact o⟩]
    .rw[if_neg e]
     have:(j∈(eR L).take (i+1)/\j∉st)↔(j∈(eR L).take i/\j∉st):=by
      rw[n,aN,az];exact⟨λh=>⟨h.1.resolve_right e,h.2⟩,λh=>⟨.inl h.1,h.2⟩⟩
     simp only[this];rcases G j with⟨D,ps,w,f,E⟩|q
     .exact .inl ⟨D,ps,w,f,E.upd d λb hb=>.inl (.inl (hb▸g.wm))⟩
     .exact .inr q
   have hzd:=d.size;generalize rR h' gm (.int .u32 (eR L)[i])=h4 at hmd d Z hbd X hzd;refine AK (M:=λb=>P.size<=b) Z (λb hb=>a4) ?_ λs' h5 ho5 x=>?_
   .have:=List.length_filter_le (λy=> !decide (y∈st)) ((eR L).take i);simp at this;omega
   ·(try simp only)
    rw[bN c a4];refine hI (i+1) _ _ ⟨rfl,c,(S.tr (d.mono λb hb=>.inl (.inr hb))).trans x λb hb=>.inr hb,?_,x.get hbd (Nat.not_le.2 a4),_,hmd.upd x (Nat.not_le.2 a4),?_⟩ a4
    .rw[n,cy,bf,if_pos (by simpa using o)]
     exact ho5
    .intro j
     rcases X j with⟨D,ps,w,f,E⟩|q
     .exact .inl ⟨D,ps,w,f,E.upd x λb hb=>.inl (.inr hb)⟩
     .exact .inr q
  .have o:(eR L)[i]∈st:=by simpa using hc
   (try simp only)
   rw[bN c a4];refine hI (i+1) _ _ ⟨rfl,c,S,?_,hb,z,A,λj=>?_⟩ a4
   .rw[n,cy,bf,if_neg (by simpa using o)]
    simpa using T
   .have:(j∈(eR L).take (i+1)/\j∉st)↔(j∈(eR L).take i/\j∉st):=by
     rw[n];simp only[aN,az];constructor
     .rintro⟨R|R,U⟩
      .exact⟨R,U⟩
      .rw[R]at U;exact absurd o U
     .exact λh=>⟨.inl h.1,h.2⟩
    simp only[this];exact G j
 .have O:¬(i:Int)<(s3.len:Int):=O
  rw[B.len,p]at O;have:i=L.length:=a4
  rw[bd a4]at T;refine hk out h' st hyst (T.more λb hb=>a4) ⟨hb,⟨z,A,λj=>?_⟩,g.wp,g.wm,λb hb=>Nat.lt_of_lt_of_le (a b hb) a4,?_⟩ ((V.wide).tr S)
  .rw[tX (λy=>decide (y∈st))]
   have hj:=G j;rw[bd a4]at hj;by_cases e:j∈st
   .simp only[e,not_true_eq_false,and_false,if_false]at hj
    simp only[e,decide_true,if_true];rcases hj with⟨D,ps,w,f,E⟩|q
    .exact .inl ⟨D,ps,w,f,E.less λb hb=>.inl (.inl hb)⟩
    .exact .inr q
   .right
    rcases hj with⟨D,ps,w,f,E⟩|⟨w,f⟩
    .by_cases e2:j∈eR L
     .simp[e,e2]at f
     .simp only[e2,false_and,if_false]at f
      rw[eH.2 e2]at f;cases f
    .exact⟨w,by simp[e]⟩
  .exact g.nd.sublist ((List.filter_sublist).map _)
theorem TF(n:Nat):ac .u64 (n:Int)=((n%18446744073709551616:Nat):Int):=by rw[cX];omega
theorem CF(h:n<18446744073709551616):ac .u64 (n:Int)=(n:Int):=by rw[TF,d9 h]
theorem Ij(c:a<18446744073709551616)(hb:b<18446744073709551616):Il a b=((a|||b:Nat):Int):=by
 unfold Il;rw[show al .u64=64 from rfl,iB,iB,BitVec.toNat_or,BitVec.toNat_ofNat,BitVec.toNat_ofNat,d9 (show a<2^64 from c),d9 (show b<2^64 from hb)]
 exact CF (Nat.or_lt_two_pow (n:=64) c hb)
theorem Ik(hb:b<2^n)(c:a*2^n+b<18446744073709551616):Il ((a*2^n:Nat):Int) (b:Int)=((a*2^n+b:Nat):Int):=by
 rw[Ij a4 a4,ip a,Nat.two_pow_add_eq_or_of_lt hb]
def RE(x:Nat):Nat:=x*2%18446744073709551616+x/9223372036854775808
def H6:Nat->Nat->Nat
 |0,x=>x
 |n+1,x=>RE (H6 n x)
theorem ZT(q:n<=64)(hb:b<2^(64-n))(p:a<2^n)(e:x=a*2^(64-n)+b):H6 n x=b*2^n+a:=by
 induction n generalizing a b with
 |zero=>
  have:a=0:=by simpa using p
  subst this;rw[e];simp[H6]
 |succ n ih=>
  have i:(2:Nat)^(64-n)=2*2^(64-(n+1)):=by rw[show 64-n=(64-(n+1))+1 by omega,qp,ip]
  have j:(2:Nat)^(n+1)=2*2^n:=by rw[qp,ip]
  have f:(2:Nat)^(64-(n+1))*2^n=9223372036854775808:=by rw[<-pO,show 64-(n+1)+n=63 by omega]
  have s:a%2<2:=pC _ a4;have g:=Nat.div_add_mod a 2;have d:a/2<2^n:=a4
  have m:a%2*2^(64-(n+1))+b<2^(64-n):=by
   rw[i];have:a%2*2^(64-(n+1))<=1*2^(64-(n+1)):=cD _ a4;omega
  have k:x=a/2*2^(64-n)+(a%2*2^(64-(n+1))+b):=by
   rw[e,i,<-oV,<-rE,<-jl,ip (a/2) 2,g]
  have:=ih a4 m d k;show RE (H6 n x)=_
  rw[this,jl,rE,f,j];unfold RE;have c:b*2^n+2^n<=2^(64-(n+1))*2^n:=by
   rw[<-il];exact cD _ hb
  rw[f]at c;have o:b*(2*2^n)=2*(b*2^n):=by rw[Nat.mul_left_comm]
  rw[o];generalize b*2^n=B at c;generalize 2^n=N at d c;have:a%2=0\/a%2=1:=a4
  rcases this with h|h<;>rw[h]at g⊢<;>omega
theorem ZS(n:Nat)(hx:x<18446744073709551616):H6 n x<18446744073709551616:=by
 induction n with
 |zero=>exact hx
 |succ n ih=>show RE _<_;unfold RE;omega
theorem adA(h:n<64):Qj (ac .u64 (n:Int)) 63=(n:Int):=by
 rw[CF a4];unfold Qj;have:∀n:Fin 64,(aB (al .u64) ((n.val:Nat):Int)&&&aB (al .u64) 63).toNat=n.val:=a8
 rw[this ⟨n,h⟩];exact CF a4
theorem ZR(b:n<64)(hx:x<18446744073709551616):H5 (x:Int) (n:Int)=((H6 n x:Nat):Int):=by
 unfold H5;rw[adA b];rw[show((64:Int)-(n:Int))=((64-n:Nat):Int) by omega,CF a4]
 simp only[show al .u64=64 from rfl,aY,bU (kr b),bU (Nat.sub_le 64 n)]
 have a:(2:Nat)^(64-n)*2^n=18446744073709551616:=by rw[<-pO,show 64-n+n=64 by omega]
 have hd:=Nat.div_add_mod x (2^(64-n));have hm:x%2^(64-n)<2^(64-n):=pC _ (Nat.two_pow_pos _);have d:x/2^(64-n)<2^n:=by
  rw[Nat.div_lt_iff_lt_mul (Nat.two_pow_pos _),ip,a];exact hx
 rw[ip]at hd;rw[ZT (kr b) hm d hd.symm];rw[show((x:Int)*2^n)=((x*2^n:Nat):Int) by rw[pi,tf];rfl,TF]
 rw[show eY (x:Int) (2^(64-n))=((x/2^(64-n):Nat):Int) by rw[show((2:Int)^(64-n))=((2^(64-n):Nat):Int) by rw[tf];rfl];exact Int.ofNat_fdiv x _▸rfl]
 have c:x%2^(64-n)*2^n+2^n<=2^(64-n)*2^n:=by
  rw[<-il];exact cD _ hm
 rw[a]at c;have e:x*2^n%18446744073709551616=x%2^(64-n)*2^n:=by
  rw[<-a,Nat.mul_mod_mul_right]
 rw[e];exact Ik d a4
def Ko(s:c6)(i:Nat):Nat:=if h:i<s.size then(s[i]'h).toNat else 0
def hv(s:c6):Nat->Nat->Nat
 |_,0=>0
 |p,c+1=>hv s (p+1) c*256+Ko s p
theorem YF(s:c6)(i:Nat):Ko s i<256:=by
 unfold Ko;split
 .exact UInt8.toNat_lt _
 .omega
theorem UQ(s:c6)(i:Nat):Qi s i=(Ko s i:Int):=by
 unfold Qi Ko;by_cases h:i<s.size
 .rw[dif_pos h,getElem?_pos s i h]
 .rw[dif_neg h,getElem?_neg s i h];rfl
theorem Jn(h:s.size<=i):Ko s i=0:=dif_neg a4
theorem LY(s:c6):∀(c p:Nat),hv s p c<256^c
 |0,_=>by show(0:Nat)<1;omega
 |c+1,p=>by
  have:=LY s c (p+1);have:=YF s p;rw[qp];show hv s (p+1) c*256+Ko s p<_
  omega
theorem Uw{s:c6}:∀{c p:Nat},s.size<=p->hv s p c=0
 |0,_,_=>rfl
 |c+1,p,h=>by
  show hv s (p+1) c*256+Ko s p=0
  rw[Uw a4,Jn h]
theorem NC{s:c6}{d:Nat}:∀{c p:Nat},s.size<=p+c->hv s p (c+d)=hv s p c
 |0,p,h=>by rw[Uw a4];rfl
 |c+1,p,h=>by
  rw[show c+1+d=(c+d)+1 by omega]
  show hv s (p+1) (c+d)*256+_=hv s (p+1) c*256+_
  rw[NC a4]
theorem aaI(hb:b<=s.size):Ko (s.extract a b) i=if a+i<b then Ko s (a+i)else 0:=by
 unfold Ko;have e:(s.extract a b).size=b-a:=by rw[eK];omega
 by_cases h:a+i<b
 .rw[if_pos h,dif_pos a4,dif_pos a4,ByteArray.getElem_extract]
 .rw[if_neg h,dif_neg a4]
theorem SI{s:c6}{a:Nat}:∀{c p b:Nat},b<=s.size->(b=s.size\/a+p+c<=b)->hv (s.extract a b) p c=hv s (a+p) c
 |0,_,_,_,_=>rfl
 |c+1,p,b,hb,h=>by
  show hv _ (p+1) c*256+_=hv s (a+p+1) c*256+_
  rw[SI hb (h.imp id λh=>a4),aaI hb,oV]
  congr 1
  split
  .rfl
  .exact(Jn a4).symm
theorem aa4{s:c6}:∀{k c:Nat},k+c<=8->wj s k ((hv s k c*2^(8*k):Nat):Int)=((hv s 0 (k+c):Nat):Int)
 |0,c,_=>by
  show((hv s 0 c*2^(8*0):Nat):Int)=_
  rw[Nat.zero_add];simp
 |k+1,c,h=>by
  have hb:=YF s k;have hc:=LY s c (k+1);have f:(2:Nat)^(8*(k+1))=256*2^(8*k):=by rw[show 8*(k+1)=8+8*k by omega,pO]
  have b:256^c*2^(8*(k+1))<=18446744073709551616:=by
   rw[show(256:Nat)=2^8 from rfl,<-Nat.pow_mul,<-pO]
   exact Nat.pow_le_pow_right a4 (show 8*c+8*(k+1)<=64 by omega)
  have j:hv s (k+1) c*2^(8*(k+1))+2^(8*(k+1))<=18446744073709551616:=by
   rw[<-il];exact aO (cD _ hc) b
  have g:Ko s k*2^(8*k)<2^(8*(k+1)):=by rw[f];exact Nat.mul_lt_mul_of_pos_right hb (Nat.two_pow_pos _)
  have a:hv s (k+1) c*2^(8*(k+1))+Ko s k*2^(8*k)=hv s k (c+1)*2^(8*k):=by
   rw[f,<-rE,<-jl];rfl
  have d:(if k=0 then ac .u64 (Qi s 0)else aa8 (Qi s k) ((8*k:Nat):Int))=((Ko s k*2^(8*k):Nat):Int):=by
   split
   .rename_i e
    subst e;rw[UQ,cX];simp;omega
   .unfold aa8
    rw[UQ,aY,show al .u64=64 from rfl,bU a4]
    have i:ac .u64 ((Ko s k:Nat):Int)=((Ko s k:Nat):Int):=by rw[cX];omega
    rw[i,show((Ko s k:Int)*2^(8*k))=((Ko s k*2^(8*k):Nat):Int) by rw[pi,tf];rfl,cX]
    omega
  show wj s k (Il _ (if k=0 then _ else _))=_
  rw[d,Ik g a4,a,aa4 a4,show k+(c+1)=k+1+c by omega]
theorem Ox(h:s.size<=8):A8 s=((hv s 0 8:Nat):Int):=by
 have:=aa4 (s:=s) (k:=s.size) (c:=0) a4;rw[show hv s s.size 0=0 from rfl,Nat.zero_mul]at this
 unfold A8;rw[show((0:Nat):Int)=0 from rfl]at this
 rw[this,dP];have e:=NC (s:=s) (d:=8-s.size) (c:=s.size) (p:=0) a4;rw[show s.size+(8-s.size)=8 by omega]at e
 rw[e]
def qc:Nat->c6->Nat->Q4->Nat×Q4
 |0,_,a,q=>(a,q)
 |n+1,s,a,q=>if a+8<=s.size then qc n s (a+8) (tu (hv s a 8:Nat) q)else(a,q)
theorem OW:∀{n:Nat} {s:c6} {a:Nat} {q:Q4},a<=s.size->FG n (s.extract a s.size) q=(s.extract (qc n s a q).1 s.size,(qc n s a q).2)
 |0,_,_,_,_=>rfl
 |n+1,s,a,q,h=>by
  have e:(s.extract a s.size).size=s.size-a:=by rw[eK];omega
  show(if 8<=(s.extract a s.size).size then _ else _)=_
  rw[e];by_cases hc:a+8<=s.size
  .rw[if_pos (show 8<=s.size-a by omega),ByteArray.extract_extract,ByteArray.extract_extract]
   rw[show qc (n+1) s a q=qc n s (a+8) (tu (hv s a 8:Nat) q)from if_pos hc]
   rw[show min (a+(s.size-a)) s.size=s.size by omega,show min (a+8) s.size=a+8 by omega,dP]
   rw[Ox (by rw[eK];omega),SI a4 (.inr a4),dP];exact OW hc
  .rw[if_neg (show ¬8<=s.size-a by omega),show qc (n+1) s a q=(a,q)from if_neg hc]
theorem Mb:∀{n:Nat} {s:c6} {a:Nat} {q:Q4},s.size<=a+n->a<=s.size->s.size<(qc n s a q).1+8/\(qc n s a q).1<=s.size
 |0,_,_,_,h,h'=>⟨by show _<_+8;simp only[qc];omega,h'⟩
 |n+1,s,a,q,h,h'=>by
  by_cases hc:a+8<=s.size
  .rw[show qc (n+1) s a q=qc n s (a+8) (tu (hv s a 8:Nat) q)from if_pos hc]
   exact Mb a4 hc
  .rw[show qc (n+1) s a q=(a,q)from if_neg hc]
   exact⟨cd,h'⟩
theorem ZI:Ri k0 k1 s=(let g:=qc s.size s 0 (dB k0 8317987319222330741,dB k1 7237128888997146477,dB k0 7816392313619706465,dB k1 8387220255154660723)
  aax (tu ((hv s g.1 8+s.size%256*72057594037927936:Nat):Int) g.2)):=by
 unfold Ri acJ;generalize (dB k0 8317987319222330741,dB k1 7237128888997146477,dB k0 7816392313619706465,dB k1 8387220255154660723)=q;have e:=OW (n:=s.size) (s:=s) (a:=0) (q:=q) (aJ _);rw[ByteArray.extract_zero_size]at e;rw[e];have⟨k,j⟩:=Mb (n:=s.size) (s:=s) (a:=0) (q:=q) a4 (aJ _);generalize qc s.size s 0 q=g at k j;obtain⟨a,r⟩:=g;simp only at k j⊢
 rw[Ox (by rw[eK];omega),SI (aj _) (.inl rfl),dP];congr 2
 have hc:hv s a 8<2^56:=by
  have e:=NC (s:=s) (d:=1) (c:=7) (p:=a) a4;rw[show(7+1:Nat)=8 from rfl]at e
  rw[e];exact LY s 7 a
 have i:aa8 (s.size:Int) 56=((s.size%256*2^56:Nat):Int):=by
  unfold aa8;rw[show min ((56:Int)).toNat (al .u64)=56 from rfl,TF]
  rw[show(((s.size%18446744073709551616:Nat):Int)*2^56)=((s.size%18446744073709551616*72057594037927936:Nat):Int) by rw[pi];rfl,TF]
  omega
 have hm:s.size%256*2^56+hv s a 8<18446744073709551616:=a4
 have f:∀{a b:Nat},a<18446744073709551616->b<18446744073709551616->Il a b=Il b a:=λm hb=>by rw[Ij m hb,Ij hb m,Nat.or_comm]
 rw[i,f (Nat.lt_trans hc a8) (Nat.lt_of_le_of_lt (Nat.le_add_right _ _) hm),Ik hc hm,Nat.add_comm]
abbrev Rg(x:Int):Prop:=0<=x/\x<18446744073709551616
theorem ZQ(x n:Int):Rg (H5 x n):=Ew _
theorem wH(x n:Int):Rg (dB x n):=Ew _
theorem YU(x n:Int):Rg (YV x n):=Ew _
theorem Ao{x:Int}(hx:Rg x)(f:n<64)(d:K (H5 x n) h):pQ 305 [.int .u64 x,.int .i64 (n:Int)] K h:=by
 obtain⟨X,rfl⟩:=pP hx.1;have c:X<18446744073709551616:=by have:=hx.2;omega
 rw[ZR f c]at d;refine dg (JZ X n) Tx Tryz.func305 Tryz.call305 ?_;unfold JZ;refine ez (λ(i:Nat) (t:Int×Int) h'=>t=(((H6 i X:Nat):Int),(i:Int))/\i<=n/\h'=h) (λi=>n-i) 0 ⟨rfl,aJ _,rfl⟩ ?_
 rintro I i t h' ⟨rfl,hi,rfl⟩ g;refine ar (λa=>?_) λb=>?_
 .have a:i<n:=by have:(i:Int)<(n:Int):=a;omega
  have j:=ZS i c;refine⟨a8,?_⟩;have e:ac .u64 (ac .u64 (((H6 i X:Nat):Int)*2)+ac .u64 (fX ((H6 i X:Nat):Int) 9223372036854775808))=((H6 (i+1) X:Nat):Int):=by
   show _=((RE (H6 i X):Nat):Int)
   unfold RE;rw[de a4,cX,cX,cX];omega
  simp only[Bd];rw[e,bN a a4];exact g (i+1) _ _ ⟨rfl,a,rfl⟩ a4
 .obtain rfl:i=n:=by have:¬(i:Int)<(n:Int):=b;omega
  exact d
theorem xn{s:Q4}(e:Rg s.2.1)(c:Rg s.2.2.2){K:Q4->dO}(g:∀h',Upd No h h'->K (ly s) h'):SK 276 [.agg #[.int .u64 s.1,.int .u64 s.2.1,.int .u64 s.2.2.1,.int .u64 s.2.2.2]] K h:=by
 refine dg (Gx s) .nil Tryz.func276 Tryz.call276 ?_;dsimp only[Gx,ao,dE,pY,UX,U4,Xy,iZ,G5,cz,fj,Fc,DK,KQ,YZ];refine aQ λf b1 k1=>aQ λi b2 b=>?_
 have c1:=b.get0 b1;have j:=k1.size;refine⟨a8,_,vc c1 0,a8,_,vc c1 1,a8,_,vc c1 2,a8,_,vc c1 3,?_⟩
 refine Ao (n:=13) e a4 (Ao (n:=32) (YU _ _) a4 (Ao (n:=16) c a4 (Ao (n:=21) (wH _ _) a4 (Ao (n:=17) (wH _ _) a4 (Ao (n:=32) (YU _ _) a4 ?_)))));refine co b2 (by rfl) λa b3 d=>?_
 refine⟨_,vc b3 0,_,vc b3 1,_,vc b3 2,_,vc b3 3,?_⟩;exact g a ((k1.tr b).own d a4)
abbrev Rq(q:Q4):Prop:=Rg q.1/\Rg q.2.1/\Rg q.2.2.1/\Rg q.2.2.2
theorem zr(s:Q4):Rq (ly s):=⟨YU _ _,wH _ _,ZQ _ _,wH _ _⟩
theorem W4(m:Int)(s:Q4):Rq (tu m s):=⟨wH _ _,(zr _).2⟩
theorem ab7(h:i<s.size):∃b:UInt8,s[i]? =some b/\Ko s i=b.toNat:=⟨s[i],getElem?_pos s i h,by unfold Ko;rw[dif_pos h]⟩
theorem Ym(h:s.size<=a+n)(hc:a+8<=s.size):∃m,qc n s a q=qc m s (a+8) (tu (hv s a 8:Nat) q)/\s.size<=a+8+m:=by
 cases n with
 |zero=>omega
 |succ n=>exact⟨n,if_pos hc,a4⟩
theorem SWz(hc:s.size<a+8):qc n s a q=(a,q):=by
 cases n with
 |zero=>rfl
 |succ n=>exact if_neg a4
theorem ZV(hs:s.size<=1000000000)(o:∀h',Upd No h h'->K (Ri k0 k1 s) h'):pQ 222 [.int .u64 k0,.int .u64 k1,.string s] K h:=by
 rw[ZI]at o;refine dg (MG k0 k1 s) Wz Tryz.func222 Tryz.call222 ?_;dsimp only[MG,fj,ao,dE,nv,dd,UX,U4,abt,Xz,Xy,iZ,ze,Fc,cz,DK,AR,aaT,G5,aaP,KQ];simp only[Bd,show((0:Int)).toNat*1=0 from rfl,show((1:Int)).toNat*1=1 from rfl,show((2:Int)).toNat*1=2 from rfl,show((3:Int)).toNat*1=3 from rfl]
 have Z:∃D:Q4,D=(dB k0 8317987319222330741,dB k1 7237128888997146477,dB k0 7816392313619706465,dB k1 8387220255154660723):=⟨_,rfl⟩;obtain⟨D,U⟩:=Z;rw[<-U]at o;have hq0:Rq D:=by rw[U];exact⟨wH _ _,wH _ _,wH _ _,wH _ _⟩
 refine aQ λh1 b1 k1=>?_
 refine co b1 (by rfl) λh2 b2 u2=>?_
 have b2':h2[h.size]? =some (.cells (q4 D) 332 (0,0)):=by rw[U];exact b2
 clear b2 U;have Y:∃G:Nat×Q4,G=qc s.size s 0 D:=⟨_,rfl⟩;obtain⟨G,eG⟩:=Y;rw[<-eG]at o;(try simp only at o)
 refine ez (λ(g:Nat×Q4) (t:Int) h'=>t=(g.1:Int)/\h'[h.size]? =some (.cells (q4 g.2) 332 (0,0))/\Upd No h h'/\Rq g.2/\
  ((∃n,qc n s g.1 g.2=G/\s.size<=g.1+n/\g.1<=s.size)\/(s.size<g.1/\g.2=tu ((hv s G.1 8+s.size%256*72057594037927936:Nat):Int) G.2))) (λg=>s.size+1-g.1) (0,D) ⟨rfl,b2',k1.own u2 (aj _),hq0,.inl ⟨s.size,eG.symm,a4,aJ _⟩⟩ ?_
 rintro I ⟨a,q⟩ t h' ⟨rfl,hb,hu,V,w⟩ hI;(try simp only at hb V w)
 refine ar (λhle=>?_) λhgt=>?_
 .have hle:a<=s.size:=by omega
  obtain⟨n,y,hn,_⟩:=w.resolve_right λh=>a4
  refine ez (λ(j:Nat) (t:Int×Int) x=>t=(((hv s (a+(8-j)) j:Nat):Int),(7:Int)-(j:Int))/\j<=8/\x=h') (λj=>8-j) 0 ⟨rfl,a4,rfl⟩ ?_
  rintro I2 j t x ⟨rfl,hj,rfl⟩ X;refine ar (λhge=>?_) λhlt=>?_
  .have hj7:j<=7:=by have:(7:Int)-(j:Int)>=0:=hge;omega
   have ei:ac .i64 ((a:Int)+(7-(j:Int)))=((a+(7-j):Nat):Int):=by rw[dI a4];omega
   have B:=LY s (j+1) (a+(8-(j+1)));have hp:256^(j+1)<=256^8:=Nat.pow_le_pow_right a4 a4;have A:hv s (a+(8-(j+1))) (j+1)=hv s (a+(8-j)) j*256+Ko s (a+(7-j)):=by
    rw[show a+(8-(j+1))=a+(7-j) by omega]
    show hv s (a+(7-j)+1) j*256+_=_
    rw[show a+(7-j)+1=a+(8-j) by omega]
   rw[A]at B;refine eF (λt O=>t=((hv s (a+(8-(j+1))) (j+1):Nat):Int)/\O=x) (λR H=>?_) ?_
   ·(try simp only)
    rw[ei];refine ar (λu=>?_) λN=>?_
    .have u:a+(7-j)<s.size:=by omega
     obtain⟨b,hb1,Q⟩:=ab7 u;refine⟨b,a4,by rw[aY];exact hb1,H _ _ ⟨?_,rfl⟩⟩
     rw[A,Q,cX,cX,cX];rw[Q]at B;omega
    .have hz:Ko s (a+(7-j))=0:=Jn a4
     refine H _ _ ⟨?_,rfl⟩;rw[hz]at B;rw[A,hz,cX];omega
   .rintro t O ⟨rfl,rfl⟩
    (try simp only)
    have e7:ac .i64 ((7:Int)-(j:Int)-1)=(7:Int)-((j+1:Nat):Int):=by rw[dI a4];omega
    rw[e7];exact X (j+1) _ _ ⟨rfl,a4,rfl⟩ a4
  .obtain rfl:j=8:=by have:¬(7:Int)-(j:Int)>=0:=hlt;omega
   simp only[Nat.sub_self,dP];have h8:=LY s 8 a;have e8:ac .i64 ((a:Int)+8)=((a+8:Nat):Int):=by rw[dI a4];omega
   rw[e8];refine eF (λ(t:Int) O=>O=x/\∃m:Nat,t=(m:Int)/\((a+8<=s.size/\m=hv s a 8)\/(s.size<a+8/\m=hv s a 8+s.size%256*72057594037927936))) (λR H=>?_) ?_
   .refine ar (λu=>?_) λN=>?_
    .have u:s.size<a+8:=by omega
     have hc:hv s a 8<2^56:=by
      have e:=NC (s:=s) (d:=1) (c:=7) (p:=a) a4;rw[show(7+1:Nat)=8 from rfl]at e
      rw[e];exact LY s 7 a
     refine⟨a8,H _ _ ⟨rfl,_,?_,.inr ⟨u,rfl⟩⟩⟩;rw[nC a4,cX,cX,cX];omega
    .exact H _ _ ⟨rfl,_,rfl,.inl ⟨a4,rfl⟩⟩
   .rintro t O ⟨rfl,m,rfl,hm⟩
    refine⟨a8,_,vc hb 3,a8,?_⟩
    refine oD (i:=3) (c':=q4 (q.1,q.2.1,q.2.2.1,dB q.2.2.2 (m:Int))) hb (show 3<4 by decide) rfl λh4 k u4=>?_
    refine⟨_,vc k 0,_,vc k 1,_,vc k 2,_,vc k 3,?_⟩;refine xn (s:=(q.1,q.2.1,q.2.2.1,dB q.2.2.2 (m:Int))) V.2.1 (wH _ _) λh5 E=>?_
    have f:=zr (q.1,q.2.1,q.2.2.1,dB q.2.2.2 (m:Int));have et:tu (m:Int) q=(dB (ly (ly (q.1,q.2.1,q.2.2.1,dB q.2.2.2 (m:Int)))).1 m,(ly (ly (q.1,q.2.1,q.2.2.1,dB q.2.2.2 (m:Int)))).2):=rfl;refine xn f.2.1 f.2.2.2 λh6 S=>?_
    obtain⟨r,T⟩:∃r,r=ly (ly (q.1,q.2.1,q.2.2.1,dB q.2.2.2 (m:Int))):=⟨_,rfl⟩;rw[<-T]at et⊢;have b6:=S.get0 (E.get0 k);have z6:=bB b6;refine co (vs:=(q4 r).toList) b6 rfl λh7 b7 u7=>?_
    have L:h7[h.size]? =some (.cells (q4 r) 332 (0,0)):=b7;refine⟨a8,_,vc L 0,a8,?_⟩
    refine oD (i:=0) (c':=q4 (dB r.1 m,r.2)) L (show 0<4 by decide) rfl λh8' W u8=>?_
    have uu:Upd No h h8':=((((hu.own u4 (aj _)).tr E).tr S).own u7 (aj _)).own u8 (aj _);rw[<-et]at W;refine hI (a+8,tu m q) _ _ ⟨rfl,W,uu,W4 _ _,?_⟩ (by(try simp only);omega);rcases hm with⟨hc,rfl⟩|⟨hc,rfl⟩
    .obtain⟨n',hd,hn'⟩:=Ym hn hc
     exact .inl ⟨n',hd.symm.trans y,hn',hc⟩
    .refine .inr ⟨by(try simp only);omega,?_⟩
     have:=SWz (n:=n) (q:=q) hc;rw[y]at this;rw[this]
 .obtain⟨_,eq⟩:=w.resolve_left λ⟨_,_,_,h⟩=>by omega
  rw[<-eq]at o;clear eq w;refine⟨a8,_,vc hb 2,a8,?_⟩
  refine oD (i:=2) (c':=q4 (q.1,q.2.1,dB q.2.2.1 255,q.2.2.2)) hb (show 2<4 by decide) rfl λh4 k u4=>?_
  refine⟨_,vc k 0,_,vc k 1,_,vc k 2,_,vc k 3,?_⟩;have ef:aax q=abY (ly (ly (ly (ly (q.1,q.2.1,dB q.2.2.1 255,q.2.2.2))))):=rfl;rw[ef]at o;refine xn (s:=(q.1,q.2.1,dB q.2.2.1 255,q.2.2.2)) V.2.1 V.2.2.2 λh5 E=>?_
  have f:=zr (q.1,q.2.1,dB q.2.2.1 255,q.2.2.2);obtain⟨r1,J⟩:∃r,r=ly (q.1,q.2.1,dB q.2.2.1 255,q.2.2.2):=⟨_,rfl⟩;rw[<-J]at o f⊢;clear J;refine xn f.2.1 f.2.2.2 λh6 S=>?_
  have C:=zr r1;obtain⟨r2,P⟩:∃r,r=ly r1:=⟨_,rfl⟩;rw[<-P]at o C⊢;clear P;refine xn C.2.1 C.2.2.2 λh7 k7=>?_
  have z:=zr r2;obtain⟨r3,F⟩:∃r,r=ly r2:=⟨_,rfl⟩;rw[<-F]at o z⊢;clear F;refine xn z.2.1 z.2.2.2 λh8 k8=>?_
  obtain⟨r,T⟩:∃r,r=ly r3:=⟨_,rfl⟩;rw[<-T]at o⊢;clear T;have W:=k8.get0 (k7.get0 (S.get0 (E.get0 k)));refine co (vs:=(q4 r).toList) W rfl λh9 b9 u9=>?_
  have v:h9[h.size]? =some (.cells (q4 r) 332 (0,0)):=b9;refine⟨a8,_,vc v 0,a8,_,vc v 1,a8,_,vc v 2,a8,_,vc v 3,?_⟩
  exact o h9 ((((((hu.own u4 (aj _)).tr E).tr S).tr k7).tr k8).own u9 (aj _))
theorem Xq{x:Hs}(c:s.size<=1000000000)(d:∀h',Upd No h h'->K (jg x s) h'):pQ 152 [.agg #[.int .u64 x.k0,.int .u64 x.k1,.int .u64 x.mask],.string s] K h:=by
 refine dg (JV (x.k0,x.k1,x.mask) s) .nil Tryz.func152 Tryz.call152 ?_;dsimp only[JV,ao,AP,acv,iZ];refine aQ λe b1 k1=>⟨_,vc b1 0,_,vc b1 1,_,vc b1 2,ZV c λb a=>⟨vc (a.get0 b1) 2,?_⟩⟩
 exact d b (k1.tr a)
theorem abG{hv:Int}(f:0<=hv/\hv<18446744073709551616)(k:lev<13)(d:K (((hv.toNat>>>(5*lev))%32:Nat):Int) h):fK 223 [.int .u64 hv,.int .i64 lev] K h:=by
 obtain⟨n,rfl⟩:=pP f.1;rw[aY]at d;refine dg (QA n lev) Y9 Tryz.func223 Tryz.call223 ?_;unfold QA;refine eQ (ar (λh=>a4) λ_=>?_)
 rw[decide_eq_false a4];refine ag.2 ?_;refine ez (λ(i:Nat) (t:Int×Int) h'=>t=(((n>>>(5*i):Nat):Int),(i:Int))/\i<=lev/\h'=h) (λi=>lev-i) 0 ⟨rfl,aJ _,rfl⟩ ?_
 rintro I i t h' ⟨rfl,hi,rfl⟩ j;refine ar (λa=>?_) λb=>?_
 .have a:i<lev:=by have:(i:Int)<(lev:Int):=a;omega
  have c:n>>>(5*i)<=n:=iJ _ _;have e:n>>>(5*(i+1))=n>>>(5*i)/32:=by rw[Nat.mul_add,Nat.shiftRight_add,cU _ (5*1)]
  have m:n<18446744073709551616:=by have:=f.2;omega
  have g:ac .u64 (fX ((n>>>(5*i):Nat):Int) 32)=((n>>>(5*(i+1)):Nat):Int):=by
   rw[e];generalize n>>>(5*i)=y at c;rw[de a4,cX];omega
  refine⟨a8,?_⟩;simp only;rw[g,bN a a4];exact j (i+1) _ _ ⟨rfl,a,rfl⟩ a4
 .obtain rfl:i=lev:=by have:¬(i:Int)<(lev:Int):=b;omega
  refine⟨a8,?_⟩;simp only;generalize n>>>(5*i)=y at d;rw[nC a4,dI a4];exact_mod_cast d
theorem acM{x:Hs}{k:c6}(a:lev<13)(b:K (ck x lev k:Int) h):fK 223 [.int .u64 (jg x k),.int .i64 lev] K h:=abG (F4 x k) a b
end
section
open Go.Lift
variable {h h':ad}{b n0 c lev n:Nat}{t:TypeId}{f:Nat->Value}{v:Value}{W:dx}{x:Hs}{so:fD}{L L' l:bY}{p:Pr}{xs:c4}{K:fD->dO}{k:dO}
def dk(d k:Nat):Nat:=(d>>>k)<<<k
theorem oY{cs:c4}(hb:h[b]? =some (.cells cs.toArray t (0,0))):SRow h (some ⟨b,0,none⟩) cs.length cs:=
 ⟨rfl,.inr ⟨_,rfl,p5 hb λi v hv=>by rw[aU,du];exact hv⟩⟩
def Sz(q:bY):Int:=if q.length=1 then 1 else if 2<=q.length then 2 else 0
def dF(a:Bool)(s:fD)(q:Nat->bY)(kk:Nat->aT)(i:Nat):Value:=
 if i=0 then .bool a else if i=1 then sv s else if i<34 then .int .i64 (Sz (q (i-2)))else if i<98 then(if i%2=0 then .string (E0 (iP (q ((i-34)/2)))).1 else .string (E0 (iP (q ((i-34)/2)))).2)else .pointer (kk (i-98))
def dC(f:Nat->Value):c4:=(List.range 130).map f
theorem Je{i:Nat}(h:i<130):(dC f).toArray[i]? =some (f i):=by
 unfold dC;simp[h]
theorem UI(f:Nat->Value):(dC f).toArray.size=130:=by simp[dC]
theorem ab1{i:Nat}:(dC f).toArray.setIfInBounds i v=(dC λj=>if j=i then v else f j).toArray:=by
 unfold dC;apply Array.ext_getElem?;intro j;rw[Array.getElem?_setIfInBounds];simp only[du,List.getElem?_map,List.size_toArray,bP,List.length_range];by_cases e:i=j
 .subst e
  by_cases h:i<130
  .simp[h]
  .simp[h]
 .rw[if_neg e]
  by_cases h:j<130
  .rw[List.getElem?_range h];simp only[Option.map_some];rw[if_neg λa:j=i=>e a.symm]
  .rw[List.getElem?_eq_none (by rw[List.length_range];omega)];rfl
theorem NQ{g:Nat->Value}(h:∀i,i<130->f i=g i):(dC f).toArray=(dC g).toArray:=by
 unfold dC;rw[List.map_congr_left λi hi=>h i (List.mem_range.1 hi)]
def DTrie(W:dx)(x:Hs)(h:ad):Nat->Nat->bY->Prop
 |0,b,l=>¬W b/\∃s,h[b]? =some (.cells (dC (dF true s (λ_=> []) λ_=>none)).toArray 247 (0,0))/\Sl dT 2 W h s l
 |m+1,b,l=>¬W b/\∃kk,h[b]? =some (.cells (dC (dF false ⟨none,0,0⟩ (λc=>part x (12-m) c l) kk)).toArray 247 (0,0))/\∀c,c<32->2<=(part x (12-m) c l).length->∃kb,kk c=some ⟨kb,0,none⟩/\DTrie W x h m kb (part x (12-m) c l)
theorem DTrie.upd{M:dx}(k:Upd M h h')(hm:∀b,M b->W b\/h.size<=b):∀{m b:Nat} {l:bY},DTrie W x h m b l->DTrie W x h' m b l
 |0,b,_,⟨nw,s,h1,h2⟩=>⟨nw,s,k.get h1 λhb=>(hm b hb).elim nw λh=>by have:=bB h1;omega,h2.upd k hm⟩
 |_+1,b,_,⟨nw,kk,h1,h2⟩=>⟨nw,kk,k.get h1 λhb=>(hm b hb).elim nw λh=>by have:=bB h1;omega,λc hc e=>let⟨d,f,a⟩:=h2 c hc e;⟨d,f,DTrie.upd k hm a⟩⟩
theorem DTrie.less{W':dx}(hm:∀b,W' b->W b):∀{m b:Nat} {l:bY},DTrie W x h m b l->DTrie W' x h m b l
 |0,b,_,⟨nw,s,h1,h2⟩=>⟨λhb=>nw (hm b hb),s,h1,h2.less λb hb=>.inl (hm b hb)⟩
 |_+1,b,_,⟨nw,kk,h1,h2⟩=>⟨λhb=>nw (hm b hb),kk,h1,λc hc e=>let⟨d,f,a⟩:=h2 c hc e;⟨d,f,DTrie.less hm a⟩⟩
abbrev aco(x:Hs)(p:Pr):c4:= [.int .u64 (jg x p.1)]
theorem XX(x:Hs)(p:Pr):(aco x p).length=1/\0<1:=⟨rfl,a4⟩
def TwoS(x:Hs)(n0 a:Nat)(h:ad)(so c:fD)(L L':bY):Prop:=
 ∃A B:Nat->Prop,OwnS dT 2 169 A h so L/\OwnS (aco x) 1 22 B h c L'/\(∀b,A b->n0<=b/\b<a/\¬B b)/\∀b,B b->n0<=b/\b<a
theorem TwoS.upd0{a:fD}(t:TwoS x n0 b h so a L L')(k:Upd No h h'):TwoS x n0 b h' so a L L':=by
 obtain⟨A,B,e,d,c,f⟩:=t;exact⟨A,B,e.upd k λ_ _ h=>h,d.upd k λ_ _ h=>h,c,f⟩
theorem acb{f:fD}(t:TwoS x n0 c h so f L L')(o:n0<=c)(k:c<=h.size)(q:L.length<=1000000)(hx:xs=dT p)
  (n:∀s' h',TwoS x n0 h'.size h' s' f (L++ [p]) L'->Upd (λb=>(n0<=b/\b<c)\/h.size<=b) h h'->K s' h'):AppP (some [.string (⟨#[]⟩:c6),.string (⟨#[]⟩:c6)]) 2 32 169 so.a so.len so.cap 1 xs h K:=by
 subst hx;obtain⟨A,B,m,j,a,d⟩:=t;refine AppP.own (ys:= [p]) (m.more (M':=λb=>A b\/h.size<=b) λ_ h=>.inl h) rfl rfl rfl rfl a4 (by simp only[aG];omega) (.inr (aj _)) λs' h' i e=>?_
 have s:=e.size;refine n s' h' ⟨_,B,i.within,j.upd e λb hb hm=>hm.elim (λhm=>(a b hm).2.2 hb) λhm=>by have:=(d b hb).2;omega,λb hb=>⟨?_,hb.2,λg=>?_⟩,λb hb=>⟨(d b hb).1,by have:=(d b hb).2;omega⟩⟩ (e.mono λb hb=>hb.elim (λhb=>.inl (.inl ⟨(a b hb).1,(a b hb).2.1⟩)) .inr)
 .rcases hb.1 with hb|hb
  .exact(a b hb).1
  .omega
 .rcases hb.1 with hb|hb
  .exact(a b hb).2.2 g
  .have:=(d b g).2;omega
theorem appB{d:Nat}{c:fD}(t:TwoS x n0 d h so c L L')(o:n0<=d)(k:d<=h.size)(q:L'.length<=1000000)(hx:xs=aco x p)
  (n:∀s' h',TwoS x n0 h'.size h' so s' L (L'++ [p])->Upd (λb=>(n0<=b/\b<d)\/h.size<=b) h h'->K s' h'):AppP (some [.int .u64 0]) 1 8 22 c.a c.len c.cap 1 xs h K:=by
 subst hx;obtain⟨A,B,m,j,a,g⟩:=t;refine AppP.own (ys:= [p]) (j.more (M':=λb=>B b\/h.size<=b) λ_ h=>.inl h) rfl rfl rfl rfl a4 (by simp only[aG];omega) (.inr (aj _)) λs' h' i f=>?_
 have s:=f.size;refine n s' h' ⟨A,_,m.upd f λb hb hm=>hm.elim (λhm=>(a b hb).2.2 hm) λhm=>by have:=(a b hb).2.1;omega,i.within,λb hb=>⟨(a b hb).1,by have:=(a b hb).2.1;omega,λe=>?_⟩,λb hb=>⟨?_,hb.2⟩⟩ (f.mono λb hb=>hb.elim (λhb=>.inl (.inl (g b hb))) .inr)
 .rcases e.1 with e|e
  .exact(a b hb).2.2 e
  .have:=(a b hb).2.1;omega
 .rcases hb.1 with hb|hb
  .exact(g b hb).1
  .omega
theorem VA:part x lev c (l++ [p])=if ck x lev p.1=c then part x lev c l++ [p]else part x lev c l:=by
 unfold part;rw[cy,bf,f9];by_cases h:ck x lev p.1=c
 .rw[if_pos h,if_pos (decide_eq_true h)]
 .rw[if_neg h,if_neg (by simpa using h),List.append_nil]
abbrev BJ(x:Hs)(lev:Nat)(l:bY)(n:Nat)(c:Nat):bY:=if c<n then part x lev c l else[]
theorem MZ(h:c≠n):BJ x lev l (n+1) c=BJ x lev l n c:=by
 unfold BJ;by_cases hc:c<n
 .rw[if_pos hc,if_pos a4]
 .rw[if_neg hc,if_neg a4]
theorem M0:BJ x lev l (n+1) n=part x lev n l:=if_pos a4
theorem MY:BJ x lev l n n= []:=if_neg a4
structure DOf(W:dx)(x:Hs)(lev m:Nat)(h0 h:ad)(l:bY)(n:Nat)(kk:Nat->aT):Prop where
 blk:h[h0.size]? =some (.cells (dC (dF false ⟨none,0,0⟩ (BJ x lev l n) kk)).toArray 247 (0,0))
 upd:Upd No h0 h
 kid:∀c,c<n->2<=(part x lev c l).length->∃kb,kk c=some ⟨kb,0,none⟩/\DTrie (λy=>W y\/y=h0.size) x h m kb (part x lev c l)
theorem adq{c:Bool}{s:fD}{q q':Nat->bY}{kk b:Nat->aT}{i:Nat}(h:i<2):dF c s q kk i=dF c s q' b i:=by
 unfold dF;by_cases a:i=0
 .rw[if_pos a,if_pos a]
 .rw[if_neg a,if_neg a,if_pos a4,if_pos a4]
section
variable {bu:Bool} {s:fD} {q q':Nat->bY} {kk kk':Nat->aT} {i:Nat}
theorem UH(h:2<=i)(h':i<34):dF bu s q kk i=.int .i64 (Sz (q (i-2))):=by
 unfold dF;rw[if_neg a4,if_neg a4,if_pos h']
theorem P8(h:34<=i)(h':i<98)(e:i%2=0):dF bu s q kk i=.string (E0 (iP (q ((i-34)/2)))).1:=by
 unfold dF;rw[if_neg a4,if_neg a4,if_neg a4,if_pos h',if_pos e]
theorem P6(h:34<=i)(h':i<98)(e:¬i%2=0):dF bu s q kk i=.string (E0 (iP (q ((i-34)/2)))).2:=by
 unfold dF;rw[if_neg a4,if_neg a4,if_neg a4,if_pos h',if_neg e]
theorem P7(h:98<=i):dF bu s q kk i=.pointer (kk (i-98)):=by
 unfold dF;rw[if_neg a4,if_neg a4,if_neg a4,if_neg a4]
theorem UG(hc:c<32)(b:∀j,j≠c->q' j=q j)(d:∀j,j≠c->kk' j=kk j)(i:Nat):
  dF bu s q' kk' i=if i=2+c then .int .i64 (Sz (q' c))else if i=34+c*2 then .string (E0 (iP (q' c))).1 else if i=34+c*2+1 then .string (E0 (iP (q' c))).2 else if i=98+c then .pointer (kk' c)else dF bu s q kk i:=by
 rcases(show i<2\/(2<=i/\i<34)\/(34<=i/\i<98)\/98<=i by omega)with h|h|h|h
 .rw[if_neg a4,if_neg a4,if_neg a4,if_neg a4];exact adq h
 .by_cases e:i=2+c
  .rw[if_pos e,UH h.1 h.2,show i-2=c by omega]
  .rw[if_neg e,if_neg a4,if_neg a4,if_neg a4,UH h.1 h.2,UH h.1 h.2,b _ a4]
 .rw[if_neg (show ¬i=2+c by omega)]
  by_cases e:(i-34)/2=c
  .by_cases a:i%2=0
   .rw[if_pos a4,P8 h.1 h.2 a,e]
   .rw[if_neg a4,if_pos a4,P6 h.1 h.2 a,e]
  .rw[if_neg a4,if_neg a4,if_neg a4]
   by_cases a:i%2=0
   .rw[P8 h.1 h.2 a,P8 h.1 h.2 a,b _ e]
   .rw[P6 h.1 h.2 a,P6 h.1 h.2 a,b _ e]
 .rw[if_neg a4,if_neg a4,if_neg a4]
  by_cases e:i=98+c
  .rw[if_pos e,P7 h,show i-98=c by omega]
  .rw[if_neg e,P7 h,P7 h,d _ a4]
end
theorem Yk{i:Nat}(hb:h[b]? =some (.cells (dC f).toArray t (0,0))) (hi:i<130) (d:∀h',h'[b]? =some (.cells (dC λj=>if j=i then v else f j).toArray t (0,0))->Upd (· =b) h h'->k h'):
  Wr h ⟨b,i,none⟩/\At (hset h ⟨b,i,none⟩ v) k:=
 ⟨fk hb (by rw[UI];exact hi),zV hb λh' a c=>d h' (ab1▸a) c⟩
theorem adn{i:Nat}{w:Value}(hb:h[b]? =some (.cells (dC f).toArray t (0,0))) (hi:i+1<130)
  (o:∀h',h'[b]? =some (.cells (dC λj=>if j=i+1 then w else if j=i then v else f j).toArray t (0,0))->Upd (· =b) h h'->k h'):qV h (some ⟨b,i,none⟩) 0 [v,w]/\At (fS h ⟨b,i,none⟩ 0 [v,w]) k:=by
 refine⟨.inr ⟨_,rfl,λj n=>by rw[bZ];exact fk hb (by rw[UI];simp at n;omega)⟩,bL ?_⟩
 simp only[fS,bZ,dP,aU];exact(Yk (k:=λg=>k (hset g ⟨b,i+1,none⟩ w)) hb a4 λg a e=>(Yk (k:=k) a hi λm d c=>o m d (e.tr c)).2).2
set_option maxRecDepth 4000 in
theorem abD:∀(m:Nat),m<=13->∀{W:dx} {h:ad} {s sh:fD} {l:bY},Sl dT 2 W h s l->(∀y,W y->y<h.size)->Sl (aco x) 1 No h sh l->l.length<=60000->∀{K:aT->dO},(∀h' b,DTrie W x h' m b l->Upd No h h'->K (some ⟨b,0,none⟩) h')->
  fu 153 [.slice s.a s.len s.cap,.slice sh.a sh.len sh.cap,.int .i64 ((13-m:Nat):Int)] K h:=by
 intro m;induction m with
 |zero=>
  intro _ W h s sh l hs hW Z hn K hk;refine Qu s sh ((13-0:Nat):Int) ?_;dsimp only[JU,cz,fj,cM,bo,dd,kF,mc,U7,pY,BE,jX,mH,wV,zX,nv,Fb,wS];refine ay.2 (aQ λu b1 k1=>?_)
  refine hk u h.size ⟨λo=>by have:=hW _ o;omega,s,?_,hs.upd k1 λ_ h=>h.elim⟩ k1
  rw[b1];exact congrArg some (congrArg (λc=>Obj.cells c 247 (0,0)) a5)
 |succ m ih=>
  intro hm W h s sh l hs hW Z hn K hk;have nwh:¬W h.size:=λo=>by have:=hW _ o;omega
  refine Qu s sh ((13-(m+1):Nat):Int) ?_;dsimp only[JU,cz,fj,cM,bo,dd,kF,mc,U7,pY,BE,jX,mH,wV,zX,nv,Fb,wS];have e13:(((13-(m+1):Nat):Int)==(13:Int))=false:=by rw[beq_eq_false_iff_ne];omega
  rw[e13];refine ag.2 (aQ λu b1 k1=>?_)
  have b1':u[h.size]? =some (.cells (dC (dF false ⟨none,0,0⟩ (BJ x (12-m) l 0) λ_=>none)).toArray 247 (0,0)):=by
   have:BJ x (12-m) l 0=λ_=> []:=by funext c;exact if_neg a4
   rw[b1,this];exact congrArg some (congrArg (λc=>Obj.cells c 247 (0,0)) a5)
  clear b1;have elev:(13-(m+1):Nat)=12-m:=a4
  rw[elev];refine ez (λ(g:Nat×(Nat->aT)) (t:Int) h'=>t=(g.1:Int)/\g.1<=32/\DOf W x (12-m) m h h' l g.1 g.2) (λg=>32-g.1) (0,λ_=>none) ⟨rfl,a4,b1',k1,λc hc=>absurd hc (j1 _)⟩ ?_
  rintro I ⟨c,kk⟩ t hc ⟨rfl,hc32,F⟩ hI;(try simp only at hc32 F)
  have s1:=F.upd.size;have zc:=bB F.blk;refine ar (λC=>?_) λhge=>?_
  .have C:c<32:=by have:(c:Int)<32:=C;omega
   refine eF (λ(_:Unit) h'=>∃kk',DOf W x (12-m) m h h' l (c+1) kk') (λR hR=>?_) ?_
   .
    refine ez (λ(i:Nat) (t:fD×fD×Int) h'=>t.2.2=(i:Int)/\i<=l.length/\TwoS x hc.size h'.size h' t.1 t.2.1 (part x (12-m) c (l.take i)) (part x (12-m) c (l.take i))/\Upd No hc h') (λi=>l.length-i) 0 ⟨rfl,aJ _,⟨No,No,OwnS.nil fP,OwnS.nil (XX x),λ_ h=>h.elim,λ_ h=>h.elim⟩,eM _ _⟩ ?_
    rintro I2 i ⟨so,ss,ti⟩ hi ⟨e1,hil,hT,hu⟩ hI2;(try simp only at e1 hT)
    subst e1;have hlen:=hs.len;have hlen2:=Z.len;have s2:=hu.size;have hsi:=(hs.upd F.upd λ_ h=>h.elim).upd hu λ_ h=>h.elim
    have hshi:=(Z.upd F.upd λ_ h=>h.elim).upd hu λ_ h=>h.elim
    refine ar (λd=>?_) λhge2=>?_
    .have d:i<l.length:=by have:(i:Int)<(s.len:Int):=d;omega
     have hpl:(part x (12-m) c (l.take i)).length<=60000:=by
      have:=jw (x:=x) (lev:=12-m) (c:=c) (l:=l.take i);rw[aV]at this;omega
     have S:part x (12-m) c (l.take (i+1))=if ck x (12-m) l[i].1=c then part x (12-m) c (l.take i)++ [l[i]]else part x (12-m) c (l.take i):=by rw[ax d,VA]
     refine eF (λ(t:fD×fD) h'=>TwoS x hc.size h'.size h' t.1 t.2 (part x (12-m) c (l.take (i+1))) (part x (12-m) c (l.take (i+1)))/\Upd No hc h') (λR2 D=>?_) ?_
     .obtain⟨a,ha,_,hv⟩:=hsi.at (af d)
      refine⟨⟨by(try simp only);omega,by(try simp only);omega⟩,a,ha,_,hv 0 _ rfl,_,hv 1 _ rfl,ux (p:=l[i]) λG b3 k3=>?_⟩
      obtain⟨a',ha',_,V⟩:=(hshi.upd k3 λ_ h=>h.elim).at0 (af d)
      refine⟨⟨by(try simp only);omega,by(try simp only);omega⟩,a',ha',_,V,acM (lev:=12-m) a4 ?_⟩
      have T:=hT.upd0 k3;have s3:=k3.size;refine eh (λe=>?_) λe=>?_
      .have e:ck x (12-m) l[i].1=c:=by
        have:((ck x (12-m) l[i].1:Nat):Int)=(c:Int):=by simpa using e
        omega
       rw[if_pos e]at S;rw[S]at D;have uu:∀{h':ad},Upd (λb=>hc.size<=b) G h'->Upd No hc h':=λk=>(hu.tr k3).trans k λy o=>.inr o
       have hab:a'.block<h.size:=Z.lt (λe=>by rw[e]at d;simp at d) ha'
       have sD:=F.upd.size;have wide:∀{n:Nat} {u f:ad},hc.size<=u.size->Upd (λb=>(hc.size<=b/\b<n)\/u.size<=b) u f->Upd (λb=>hc.size<=b) u f:=λhz k=>k.mono λy o=>.inl (o.elim (λh=>h.1) λh=>a4)
       refine⟨_,vc b3 0,_,vc b3 1,⟨by(try simp only);omega,by(try simp only);omega⟩,a',ha',_,V,?_,?_⟩
       .refine aQ λU Y v=>⟨v.cell0 V,?_,?_⟩
        .have s4:=v.size
         refine⟨_,oY Y,acb (p:=l[i]) (T.upd0 v) a4 a4 a4 rfl λs5 h5 P H=>⟨H.cell (v.cell0 V) (by rw[AL];omega),aQ λh6 b6 E=>?_⟩⟩
         have s5':=H.size;have s6:=E.size;refine⟨_,oY b6,appB (p:=l[i]) (P.upd0 E) a4 a4 a4 rfl λs7 h7 J k7=>?_⟩
         exact D _ _ ⟨J,uu (((v.wide.tr (wide a4 H)).tr E.wide).tr (wide a4 k7))⟩
        .refine aQ λh6 b6 E=>?_
         have s4:=v.size;have s6:=E.size;have z6:=bB b6;refine⟨_,oY (E.get0 Y),acb (p:=l[i]) ((T.upd0 v).upd0 E) a4 a4 a4 rfl λs5 h5 P H=>?_⟩
         have s5':=H.size;refine⟨_,oY (H.get b6 a4),appB (p:=l[i]) P a4 a4 a4 rfl λs7 h7 J k7=>?_⟩
         exact D _ _ ⟨J,uu (((v.wide.tr E.wide).tr (wide a4 H)).tr (wide a4 k7))⟩
       .refine aQ λU Y v=>⟨⟨vc (v.get0 b3) 0,vc (v.get0 b3) 1⟩,aQ λh6 b6 E=>?_⟩
        have s4:=v.size;have s6:=E.size;have z4:=bB Y;refine⟨_,oY b6,acb (p:=l[i]) ((T.upd0 v).upd0 E) a4 a4 a4 rfl λs5 h5 P H=>?_⟩
        have s5':=H.size;refine⟨_,oY (H.get (E.get0 Y) a4),appB (p:=l[i]) P a4 a4 a4 rfl λs7 h7 J k7=>?_⟩
        exact D _ _ ⟨J,uu (((v.wide.tr E.wide).tr (wide a4 H)).tr (wide a4 k7))⟩
      .have e:¬ck x (12-m) l[i].1=c:=λe'=>by
        have:¬((ck x (12-m) l[i].1:Nat):Int)=(c:Int):=by simpa using e
        omega
       rw[if_neg e]at S;rw[S]at D;obtain⟨A,B,w,Q,O,q4⟩:=T;exact D _ _ ⟨⟨A,B,w,Q,λb hb=>⟨(O b hb).1,by have:=(O b hb).2.1;omega,(O b hb).2.2⟩,λb hb=>⟨(q4 b hb).1,by have:=(q4 b hb).2;omega⟩⟩,hu.tr k3⟩
     .rintro⟨so',ss'⟩ h' ⟨hT',hu'⟩
      (try simp only)
      rw[bN d a4];exact hI2 (i+1) _ _ ⟨rfl,d,hT',hu'⟩ a4
    .have hil':i=l.length:=by have:¬(i:Int)<(s.len:Int):=hge2;omega
     subst hil';rw[bG]at hT;have hDi:h.size<hi.size:=a4
     have hbi:=hu.get0 F.blk;have hki:∀c',c'<c->2<=(part x (12-m) c' l).length->∃N,kk c'=some ⟨N,0,none⟩/\DTrie (λy=>W y\/y=h.size) x hi m N (part x (12-m) c' l):=λc' u f=>let⟨N,G,U⟩:=F.kid c' u f;⟨N,G,DTrie.upd hu (λ_ h=>h.elim) U⟩
     obtain⟨A,B,hA,hB,hA',hB'⟩:=hT;have hsA:Sl dT 2 (λy=>W y\/y=h.size) hi so (part x (12-m) c l):=hA.sl λy o _ hw=>by
      have:=(hA' y o).1;rcases hw with hw|hw
      .have:=hW y hw;omega
      .omega
     have hsB:Sl (aco x) 1 No hi ss (part x (12-m) c l):=hB.sl λ_ _ _ h=>h
     have hq:=hsA.len;have hpl:(part x (12-m) c l).length<=l.length:=jw;have hU:=F.upd.tr hu;refine eQ ?_;refine eh (λe=>?_) λe=>?_
     .
      have e:so.len=1:=by
       have:((so.len:Nat):Int)=1:=by simpa using e
       omega
      have hone:(part x (12-m) c l).length=1:=a4
      obtain⟨p,hp⟩:=List.length_eq_one_iff.1 hone;rw[hp]at hsA;obtain⟨a,ha,_,hv⟩:=hsA.at (i:=0) (x:=p) rfl;refine⟨⟨a8,by(try simp only);omega⟩,a,ha,_,hv 0 _ rfl,_,hv 1 _ rfl,_,rfl,⟨a4,a4⟩,_,rfl,?_⟩
      have ew:((c:Int).toNat*1)=c:=a4
      have ew2:((c:Int).toNat*2)=c*2:=a4
      simp only[ew,ew2,cG h,bZ,aU];refine Yk hbi a4 λG b3 u3=>⟨⟨a4,a4⟩,adn b3 a4 λU Y u4=>ar (λhl=>a4) λ_=>?_⟩
      have z:Upd (· =h.size) hi U:=u3.tr u4
      refine hR _ _ ⟨kk,?_,hU.own z (aj _),λc' u f=>?_⟩
      .rw[Y]
       refine congrArg some (congrArg (λc=>Obj.cells c 247 (0,0)) (NQ λj L=>?_))
       rw[UG (q:=BJ x (12-m) l c) (q':=BJ x (12-m) l (c+1)) (kk:=kk) C (λj L=>MZ L) (λ_ _=>rfl),M0,hp]
       have e1:Sz [p]=1:=rfl;have e2:E0 (iP [p])=p:=rfl;rw[e1,e2];by_cases w:j=2+c
       .rw[if_neg a4,if_neg a4,if_pos w,if_pos w]
       .by_cases Q:j=34+c*2
        .rw[if_neg a4,if_pos Q,if_neg w,if_pos Q]
        .by_cases O:j=34+c*2+1
         .rw[if_pos O,if_neg w,if_neg Q,if_pos O]
         .rw[if_neg O,if_neg Q,if_neg w,if_neg w,if_neg Q,if_neg O]
          by_cases q4:j=98+c
          .rw[if_pos q4,P7 a4,show j-98=c by omega]
          .rw[if_neg q4]
      .rcases ci c' c with hh|hh
       .obtain⟨N,h3',h4'⟩:=hki c' hh f
        exact⟨N,h3',DTrie.upd z (λy o=>.inl (.inr o)) h4'⟩
       .rw[show c'=c by omega,hone]at f;omega
     .have e:¬so.len=1:=λe'=>by
       have:¬((so.len:Nat):Int)=1:=by simpa using e
       omega
      refine ar (λX=>?_) λhle=>?_
      .
       have X:2<=(part x (12-m) c l).length:=by have:(so.len:Int)>1:=X;omega
       refine⟨_,rfl,_,rfl,?_⟩;have e14:ac .i64 (((12-m:Nat):Int)+1)=((13-m:Nat):Int):=by rw[dI a4];omega
       rw[e14];refine ih a4 hsA (λy o=>o.elim (λo=>by have:=hW y o;omega) λo=>a4) hsB a4 λf N tk k2=>⟨⟨a4,a4⟩,?_⟩
       have ew:((c:Int).toNat*1)=c:=a4
       simp only[ew,cG h,bZ,aU];refine Yk (k2.get0 hbi) a4 λG b3 u3=>⟨⟨a4,a4⟩,Yk b3 a4 λU Y u4=>?_⟩
       have z:Upd (· =h.size) f U:=u3.tr u4
       refine hR _ _ ⟨λj=>if j=c then some ⟨N,0,none⟩else kk j,?_,(hU.tr k2).own z (aj _),λc' u f=>?_⟩
       .rw[Y]
        refine congrArg some (congrArg (λc=>Obj.cells c 247 (0,0)) (NQ λj L=>?_))
        rw[UG (q:=BJ x (12-m) l c) (q':=BJ x (12-m) l (c+1)) (kk:=kk) C (λj L=>MZ L) (λ_ L=>if_neg L),M0]
        have e1:Sz (part x (12-m) c l)=2:=by unfold Sz;rw[if_neg a4,if_pos X]
        have e2:iP (part x (12-m) c l)=none:=by
         match part x (12-m) c l,X with
         |a::b::r,_=>rfl
        rw[e1,e2,if_pos rfl];by_cases w:j=2+c
        .rw[if_neg a4,if_pos w,if_pos w]
        .by_cases q4:j=98+c
         .rw[if_pos q4,if_neg w,if_neg a4,if_neg a4,if_pos q4]
         .rw[if_neg q4,if_neg w,if_neg w]
          by_cases Q:j=34+c*2
          .rw[if_pos Q,P8 a4 a4 a4,show(j-34)/2=c by omega,MY];rfl
          .rw[if_neg Q]
           by_cases O:j=34+c*2+1
           .rw[if_pos O,P6 a4 a4 a4,show(j-34)/2=c by omega,MY];rfl
           .rw[if_neg O,if_neg q4]
       .rcases ci c' c with hh|hh
        .obtain⟨kb',h3',h4'⟩:=hki c' hh f
         exact⟨kb',by rw[if_neg a4];exact h3',DTrie.upd z (λy o=>.inl (.inr o)) (DTrie.upd k2 (λ_ h=>h.elim) h4')⟩
        .obtain rfl:c'=c:=by omega
         exact⟨N,if_pos rfl,DTrie.upd z (λy o=>.inl (.inr o)) tk⟩
      .
       have hnil:part x (12-m) c l= []:=List.length_eq_zero_iff.1 (by have:¬(so.len:Int)>1:=hle;omega);refine hR _ _ ⟨kk,?_,hU,λc' u f=>?_⟩
       .rw[hbi]
        refine congrArg some (congrArg (λc=>Obj.cells c 247 (0,0)) (NQ λj L=>?_))
        have:BJ x (12-m) l (c+1)=BJ x (12-m) l c:=by
         funext j;by_cases L:j=c
         .rw[L,M0,MY,hnil]
         .exact MZ L
        rw[this]
       .rcases ci c' c with hh|hh
        .exact hki c' hh f
        .rw[show c'=c by omega,hnil]at f;simp at f
   .rintro _ h' ⟨kk',hD'⟩
    rw[bN C a4];exact hI (c+1,kk') _ _ ⟨rfl,C,hD'⟩ (by(try simp only);omega)
  .obtain rfl:c=32:=by have:¬(c:Int)<32:=hge;omega
   refine hk hc h.size ⟨nwh,kk,?_,λc hc hp=>let⟨N,G,U⟩:=F.kid c hc hp;⟨N,G,DTrie.less (λ_ h=>.inl h) U⟩⟩ F.upd
   rw[F.blk];refine congrArg some (congrArg (λc=>Obj.cells c 247 (0,0)) (NQ λi hi=>?_))
   have:∀c,c<32->BJ x (12-m) l 32 c=part x (12-m) c l:=λc hc=>if_pos hc
   unfold dF;by_cases h0:i<34
   .by_cases u:i=0
    .rw[if_pos u,if_pos u]
    .by_cases f:i=1
     .rw[if_neg u,if_neg u,if_pos f,if_pos f]
     .rw[if_neg u,if_neg u,if_neg f,if_neg f,if_pos h0,if_pos h0,this _ a4]
   .rw[if_neg (show ¬i=0 by omega),if_neg (show ¬i=0 by omega),if_neg (show ¬i=1 by omega),if_neg (show ¬i=1 by omega),if_neg h0,if_neg h0]
    by_cases G:i<98
    .rw[if_pos G,if_pos G,this _ a4]
    .rw[if_neg G,if_neg G]
end
section
open Go.Lift
variable {h h':ad}{s:fD}{l:bY}{K:fD->dO}{n:Bn}{M W W':dx}{b sl:c6}{w:Option c6}{F:Fo}{a:aT}{ks:List aT}{L:List Bn}
theorem Xo{x:Hs}(B:Sl dT 2 No h s l)(H:l.length<=60000)(m:∀p∈l,p.1.size<=1000000){K:aT->dO}(F:∀h' b,DTrie No x h' 13 b l->Upd No h h'->K (some ⟨b,0,none⟩) h'):
  fu 104 [.agg #[.int .u64 x.k0,.int .u64 x.k1,.int .u64 x.mask],.slice s.a s.len s.cap,.int .i64 0] K h:=by
 refine dg (Qz (x.k0,x.k1,x.mask) s 0) Y8 Tryz.func104 Tryz.call104 ?_;dsimp only[Qz,AP,zh,U7,iZ,ao,zX,nv,kF,mc,Fb,fj,cM,fY,bo];refine aQ λk b1 k1=>?_
 have C:=B.len;refine ez (λ(i:Nat) (t:fD×Int) h'=>t.2=(i:Int)/\i<=l.length/\OwnS (aco x) 1 22 (λb=>k.size<=b) h' t.1 (l.take i)/\Upd No k h') (λi=>l.length-i) 0 ⟨rfl,aJ _,OwnS.nil (XX x),eM _ _⟩ ?_
 rintro I i ⟨so,Q⟩ h' ⟨A,hi,f,g⟩ J;(try simp only at A f)
 subst A;have e:=(B.upd k1 λ_ h=>h.elim).upd g λ_ h=>h.elim
 refine ar (λc=>?_) λo=>?_
 .have c:i<l.length:=by have:(i:Int)<(s.len:Int):=c;omega
  refine eQ ?_;obtain⟨a,L,_,hv⟩:=e.at (af c);refine⟨⟨by(try simp only);omega,by(try simp only);omega⟩,a,L,_,hv 0 _ rfl,_,hv 1 _ rfl,ux (p:=l[i]) λv b2 d=>?_⟩
  have c1:=d.get0 (g.get0 b1);refine⟨_,vc c1 0,_,vc c1 1,_,vc c1 2,_,vc b2 0,Xq (by have:=m _ (aF c);omega) λO w=>aQ λR E z=>⟨_,oY E,?_⟩⟩
  have u:=((g.tr d).tr w).tr z;refine AppP.own (M:=λb=>k.size<=b) (ys:= [l[i]]) (((f.upd d λ_ _ h=>h).upd w λ_ _ h=>h).upd z λ_ _ h=>h) rfl rfl rfl rfl a4 (by simp only[aG,aV];omega) u.size λN P q j=>?_
  (try simp only)
  rw[bN c a4];refine J (i+1) _ _ ⟨rfl,c,?_,u.trans j λy G=>.inr G⟩ a4
  rw[ax c];exact q
 .have n:i=l.length:=by have:¬(i:Int)<(s.len:Int):=o;omega
  subst n;rw[bG]at f;exact abD 13 (aj _) e (λ_ h=>h.elim) (f.sl λ_ _ _ h=>h) H λv b D d=>F v b D ((k1.tr g).tr d)
theorem Ll(n:Nat):ac .u8 (n:Int)=((UInt8.ofNat n).toNat:Int):=by rw[IntKind.wrap_u8];simp
theorem Hh{n:Nat}(e:n<=1000000000)(c:∀s' h',OwnS pJ 1 5 (λy=>h.size<=y) h' s' (mY n 2)->Upd No h h'->K s' h'):ce 148 [.int .i64 (n:Int)] K h:=by
 refine dg (MD (n:Int)) .nil Tryz.func148 Tryz.call148 ?_;unfold MD Zv;have d:fX (n:Int) 256=((n>>>(8*1):Nat):Int):=by rw[de a4,cU];rfl
 have a:n>>>(8*1)<=n:=iJ ..;rw[d,dI (by generalize n>>>(8*1)=y at a;omega),Ll,Ll];refine⟨a8,aQ λb b1 k1=>c _ b ⟨rfl,uH,aj _,.inr ⟨h.size,[],rfl,aj _,b1,rfl⟩⟩ k1⟩
theorem Ph{n:Nat}(f:n<4294967296)(d:∀s' h',OwnS pJ 1 5 (λy=>h.size<=y) h' s' (mY n 4)->Upd No h h'->K s' h'):ce 151 [.int .u32 (n:Int)] K h:=by
 refine dg (JT (n:Int)) .nil Tryz.func151 Tryz.call151 ?_;unfold JT acw;have q:∀k:Nat,((n>>>k:Nat):Int)<4294967296:=λk=>by have:n>>>k<=n:=iJ ..;generalize n>>>k=y at this;omega
 have e:fX (n:Int) 256=((n>>>(8*1):Nat):Int):=by rw[de a4,cU];rfl
 have b:fX (n:Int) 65536=((n>>>(8*2):Nat):Int):=by rw[de a4,cU];rfl
 have a:fX (n:Int) 16777216=((n>>>(8*3):Nat):Int):=by rw[de a4,cU];rfl
 have w:∀k:Nat,ac .u32 ((n>>>k:Nat):Int)=((n>>>k:Nat):Int):=λk=>by have:=q k;generalize n>>>k=y at this;rw[IntKind.wrap_u32];omega
 rw[e,b,a,w,w,w,Ll,Ll,Ll,Ll];refine⟨a8,a8,a8,aQ λc b1 k1=>d _ c ⟨rfl,uH,aj _,.inr ⟨h.size,[],rfl,aj _,b1,rfl⟩⟩ k1⟩
theorem zW{so e:fD}{out ys:c5}(c:OwnS pJ 1 5 M h so out)(a:Sl pJ 1 W h e ys)(hM:∀b,h.size<=b->M b)(f:out.length+ys.length<=140737488355328)
  (d:∀s' h',OwnS pJ 1 5 M h' s' (out++ys)->Upd M h h'->K s' h'):∃xs,SRow h e.a (e.len*1) xs/\AppP (some [.int .u8 0]) 1 1 5 so.a so.len so.cap e.len xs h K:=
 ⟨_,a.srow,AppP.own (ys:=ys) c a.len rfl (CY _) rfl a4 a4 (hM _ (aj _)) d⟩
theorem CV(hb:b.size<=1000000)(o:∀s' h',OwnS pJ 1 5 (λy=>h.size<=y) h' s' (oG b)->Upd No h h'->K s' h'):ce 147 [.string b] K h:=by
 refine dg (JQ b) .nil Tryz.func147 Tryz.call147 ?_;unfold JQ;refine Hh a4 λt d e k1=>?_
 intro c hc;have a:=Upd.push No d (.cells (di b++eO (c-b.size) (Value.int .u8 0)).toArray 5 (c,c+1));have b2:=oJ d (.cells (di b++eO (c-b.size) (Value.int .u8 0)).toArray 5 (c,c+1));generalize d.push (.cells (di b++eO (c-b.size) (Value.int .u8 0)).toArray 5 (c,c+1))=h2 at a b2;have q:b.data.toList.length=b.size:=a6
 have f:Sl pJ 1 No h2 ⟨some (aR d),b.size,c⟩ b.data.toList:=by
  refine⟨a6,uH,λ_=>⟨_,rfl,id,p5 b2 λi v hv=>?_⟩⟩
  rw[aU,du,rY,List.getElem?_append_left (List.getElem?_eq_some_iff.1 hv).1];exact hv
 have k:=k1.size;have s:=a.size;refine zW (e.upd a λ_ _ h=>h) f (λy j=>by show h.size<=y;omega) (by rw[dz];omega) λm n g p=>o m n g ((k1.tr a).trans p λy j=>.inr j)
theorem EN(C:Sl dT 2 W h s l)(B:Fit l)(hn:l.length<=60000)(E:∀s' h',OwnS pJ 1 5 (λy=>h.size<=y) h' s' (kR l)->Upd No h h'->K s' h'):
  ce 150 [.slice s.a s.len s.cap] K h:=by
 refine dg (Gv s) QM Tryz.func150 Tryz.call150 ?_;dsimp only[Gv,bo,mH,zX,nv,kF,mc,Fb,fj,cM];have D:=C.len;refine ez (λ(i:Nat) (t:fD×Int) h'=>t.2=(i:Int)/\i<=l.length/\OwnS pJ 1 5 (λb=>h.size<=b) h' t.1 (kR (l.take i))/\Upd No h h') (λi=>l.length-i) 0 ⟨rfl,aJ _,OwnS.nil uH,eM _ _⟩ ?_
 rintro I i ⟨so,ti⟩ h' ⟨A,hi,f,g⟩ O;(try simp only at A f)
 subst A;refine ar (λc=>?_) λv=>?_
 .have c:i<l.length:=by have:(i:Int)<(s.len:Int):=c;omega
  refine eQ ?_;obtain⟨a,R,_,hv⟩:=(C.upd g λ_ h=>h.elim).at (af c)
  have H:=B l[i] (aF c);have x:=mS (l:=l.take i) λq Q=>B q (List.mem_of_mem_take Q)
  rw[aV,Nat.min_eq_left hi]at x;have h1:=jm l[i].1;have G:=jm l[i].2;refine⟨⟨by(try simp only);omega,by(try simp only);omega⟩,a,R,_,hv 0 _ rfl,_,hv 1 _ rfl,ux (p:=l[i]) λG b2 u=>?_⟩
  refine⟨_,vc b2 0,_,vc b2 1,CV a4 λX Y w e=>⟨vc (e.get0 b2) 1,?_⟩⟩
  have L:=(g.tr u).tr e;have s2:=bB b2;have P:=u.size;have N:=e.size;have V:=g.size;refine zW (M:=λy=>h.size<=y/\y≠h'.size) (((f.within.upd u λ_ _ h=>h).upd e λ_ _ h=>h).more λy d=>⟨d.1,a4⟩) (w.sl (W:=No) λ_ _ _ h=>h) (λy d=>a4) a4 λT h4 m o=>⟨vc (o.get (e.get0 b2) a4) 1,?_⟩
  have J:=o.size;refine CV a4 λU Z z k=>?_
  have F:=k.size;refine zW (M:=λy=>h.size<=y) ((m.upd k λ_ _ h=>h).more λy d=>d.1) (z.sl (W:=No) λ_ _ _ h=>h) (λy d=>by show h.size<=y;omega) (by rw[ae];omega) λs6 h6 j S=>?_
  (try simp only)
  rw[bN c a4];refine O (i+1) _ _ ⟨rfl,c,?_,(((L.trans o λy d=>.inr d.1)).tr k).trans S λy d=>.inr d⟩ a4
  rw[FS c,FT,<-List.append_assoc];exact j
 .have n:i=l.length:=by have:¬(i:Int)<(s.len:Int):=v;omega
  subst n;rw[bG]at f;exact E _ _ f g
theorem Vt{s':fD}{l:c5}(f:Sl pJ 1 W h s l)(c:Sl pJ 1 W' h s' l)(o:l.length<=1000000000000){K:Bool->dO}(m:K true h):gl 54 [.slice s.a s.len s.cap,.slice s'.a s'.len s'.cap] K h:=by
 refine dg (JR s s') Tt Tryz.func54 Tryz.call54 ?_;dsimp only[JR,cz,jX,fj];have j:=f.len;have g:=c.len;rw[j,g,bne_self_eq_false];refine ag.2 ?_;refine ez (λ(i:Nat) (t:Int) h'=>t=(i:Int)/\i<=l.length/\h'=h) (λi=>l.length-i) 0 ⟨rfl,aJ _,rfl⟩ ?_
 rintro I i t h' ⟨rfl,hi,rfl⟩ k;refine ar (λb=>?_) λ_=>m
 have b:i<l.length:=a4
 obtain⟨a,n,_,hv⟩:=f.at0 (af b);obtain⟨a',e,_,d⟩:=c.at0 (af b);refine⟨⟨a4,a4⟩,a,n,_,hv,⟨a4,a4⟩,a',e,_,d,?_⟩
 rw[bne_self_eq_false];refine ag.2 ?_;rw[bN b a4];exact k (i+1) _ _ ⟨rfl,b,rfl⟩ a4
abbrev aei(lab:c6)(has:Bool)(val:c6)(s:fD)(_:aT):Array Value:= #[.string lab,.bool has,.string val,sv s]
def DxF(W:dx)(h:ad):Fo->List aT->Prop
 | .nil,ks=>ks= []
 | .cons lab w kids rest,ks=>∃b sl val s ow ks1 ks',ks=some ⟨b,0,none⟩::ks'/\sl.data.toList=lab/\h[b]? =some (.cells (aei sl w.isSome val s ow) 240 (0,0))/\val=w.getD ⟨#[]⟩/\Sl qA 1 W h s ks1/\(s.len<=s.cap/\¬W b)/\DxF W h kids ks1/\DxF W h rest ks'
def DxN(W:dx)(h:ad)(b:Nat)(sl:c6)(w:Option c6)(F:Fo):Prop:=∃val s ow ks,h[b]? =some (.cells (aei sl w.isSome val s ow) 240 (0,0))/\val=w.getD ⟨#[]⟩/\Sl qA 1 W h s ks/\(s.len<=s.cap/\¬W b)/\DxF W h F ks
def DKid(W:dx)(h:ad)(k:aT)(n:Bn):Prop:=∃b sl,k=some ⟨b,0,none⟩/\sl.data.toList=n.1/\DxN W h b sl n.2.1 n.2.2
def DxL(W:dx)(h:ad)(ks:List aT)(L:List Bn):Prop:=ks.length=L.length/\∀p∈ks.zip L,DKid W h p.1 p.2
theorem Du{W:dx}{h:ad}:∀{F:Fo} {ks:List aT},DxF W h F ks↔DxL W h ks F.toL
 | .nil,ks=>by
  unfold DxF DxL;simp[Fo.toL]
 | .cons lab w kids rest,ks=>by
  unfold DxF DxL;rw[Fo.toL_cons];constructor
  .rintro⟨b,sl,val,s,ow,c,d,rfl,o,i,g,j,n,m,v⟩
   obtain⟨u,t⟩:=Du.1 v;refine⟨by simp[u],λp a=>?_⟩
   rw[jH]at a;rcases List.mem_cons.1 a with rfl|a
   .exact⟨b,sl,rfl,o,val,s,ow,c,i,g,j,n,m⟩
   .exact t p a
  .cases ks with
   |nil=>rintro⟨e,_⟩;simp at e
   |cons k d=>
    rintro⟨e,a⟩;rw[jH]at a;obtain⟨b,sl,q,o,val,s,ow,c,i,g,j,n,m⟩:=a _ (aq ..);refine⟨b,sl,val,s,ow,c,d,by rw[<-q],o,i,g,j,n,m,Du.2 ⟨by simpa using e,λp f=>a p (aA _ f)⟩⟩
theorem DxF.upd0(k:Upd No h h'):∀{F:Fo} {ks:List aT},DxF W h F ks->DxF W h' F ks
 | .nil,_,r=>r
 | .cons _ _ _ _,_,⟨b,sl,val,s,ow,ks1,ks',e0,e1,e2,e3,e4,e5,e6,e7⟩=>⟨b,sl,val,s,ow,ks1,ks',e0,e1,k.get0 e2,e3,e4.upd k λ_ h=>h.elim,e5,DxF.upd0 k e6,DxF.upd0 k e7⟩
theorem DxN.upd0(k:Upd No h h'){b:Nat}:DxN W h b sl w F->DxN W h' b sl w F
 |⟨val,s,ow,ks,e2,e3,e4,e5,e6⟩=>⟨val,s,ow,ks,k.get0 e2,e3,e4.upd k λ_ h=>h.elim,e5,DxF.upd0 k e6⟩
theorem DKid.upd0(k:Upd No h h'):DKid W h a n->DKid W h' a n
 |⟨b,sl,e1,e2,e3⟩=>⟨b,sl,e1,e2,e3.upd0 k⟩
theorem DxF.less(hm:∀b,W' b->W b\/h.size<=b):∀{F:Fo} {ks:List aT},DxF W h F ks->DxF W' h F ks
 | .nil,_,r=>r
 | .cons _ _ _ _,_,⟨b,sl,val,s,ow,ks1,ks',e0,e1,e2,e3,e4,e5,e6,e7⟩=>⟨b,sl,val,s,ow,ks1,ks',e0,e1,e2,e3,e4.less hm,⟨e5.1,λhx=>(hm _ hx).elim e5.2 λh=>by have:=bB e2;omega⟩,DxF.less hm e6,DxF.less hm e7⟩
theorem DxN.less(hm:∀b,W' b->W b\/h.size<=b){b:Nat}:DxN W h b sl w F->DxN W' h b sl w F
 |⟨val,s,ow,ks,e2,e3,e4,e5,e6⟩=>⟨val,s,ow,ks,e2,e3,e4.less hm,⟨e5.1,λhx=>(hm _ hx).elim e5.2 λh=>by have:=bB e2;omega⟩,DxF.less hm e6⟩
theorem DxF.updM(k:Upd M h h')(hm:∀b,M b->W b\/h.size<=b):∀{F:Fo} {ks:List aT},DxF W h F ks->DxF W h' F ks
 | .nil,_,r=>r
 | .cons _ _ _ _,_,⟨b,sl,val,s,ow,ks1,ks',e0,e1,e2,e3,e4,e5,e6,e7⟩=>⟨b,sl,val,s,ow,ks1,ks',e0,e1,k.get e2 (λhx=>(hm _ hx).elim e5.2 λh=>by have:=bB e2;omega),e3,e4.upd k hm,e5,DxF.updM k hm e6,DxF.updM k hm e7⟩
theorem DxN.updM(k:Upd M h h')(hm:∀b,M b->W b\/h.size<=b){b:Nat}:DxN W h b sl w F->DxN W h' b sl w F
 |⟨val,s,ow,ks,e2,e3,e4,e5,e6⟩=>⟨val,s,ow,ks,k.get e2 (λhx=>(hm _ hx).elim e5.2 λh=>by have:=bB e2;omega),e3,e4.upd k hm,e5,DxF.updM k hm e6⟩
theorem DxL.upd0(k:Upd No h h')(r:DxL W h ks L):DxL W h' ks L:=⟨r.1,λp a=>(r.2 p a).upd0 k⟩
theorem DxL.app{b:List aT}{L':List Bn}(r:DxL W h ks L)(c:DxL W h b L'):DxL W h (ks++b) (L++L'):=by
 refine⟨by rw[ae,ae,r.1,c.1],λp a=>?_⟩
 rw[List.zip_append r.1]at a;rcases List.mem_append.1 a with a|a
 .exact r.2 p a
 .exact c.2 p a
theorem DxL.one{k:aT}(c:DKid W h k n):DxL W h [k] [n]:=⟨rfl,λp a=>by rw[jH,List.zip_nil_left]at a;rw[List.mem_singleton.1 a];exact c⟩
theorem DxL.at{W:dx}{h:ad}{ks:List aT}{L:List Bn}(r:DxL W h ks L){i:Nat}(hi:i<L.length):∃b sl,ks[i]? =some (some ⟨b,0,none⟩)/\sl.data.toList=L[i].1/\DxN W h b sl L[i].2.1 L[i].2.2:=by
 have e:i<ks.length:=by rw[r.1];exact hi
 have d:i<(ks.zip L).length:=by rw[List.length_zip];omega
 have:=r.2 _ (aF d);rw[List.getElem_zip]at this;obtain⟨b,sl,f,c,a⟩:=this;exact⟨b,sl,by rw[af e];exact congrArg some f,c,a⟩
theorem DKid.less(hm:∀b,W' b->W b\/h.size<=b):DKid W h a n->DKid W' h a n
 |⟨b,sl,e1,e2,e3⟩=>⟨b,sl,e1,e2,e3.less hm⟩
theorem DKid.updM(k:Upd M h h')(hm:∀b,M b->W b\/h.size<=b):DKid W h a n->DKid W h' a n
 |⟨b,sl,e1,e2,e3⟩=>⟨b,sl,e1,e2,e3.updM k hm⟩
theorem DxL.less(hm:∀b,W' b->W b\/h.size<=b)(r:DxL W h ks L):DxL W' h ks L:=⟨r.1,λp a=>(r.2 p a).less hm⟩
theorem DxL.updM(k:Upd M h h')(hm:∀b,M b->W b\/h.size<=b)(r:DxL W h ks L):DxL W h' ks L:=⟨r.1,λp a=>(r.2 p a).updM k hm⟩
theorem RP{a:c6}(x:a.size<=1000000){K:Int->dO}(s:K (cm a.data.toList b.data.toList:Nat) h):fK 275 [.string a,.string b] K h:=by
 refine dg (D9 a b) Om Tryz.func275 Tryz.call275 ?_;dsimp only[D9,AR];have z:a.data.toList.length=a.size:=a6
 have y:b.data.toList.length=b.size:=a6
 refine ez (λ(i:Nat) (t:Int) h'=>t=(i:Int)/\i<=min a.size b.size/\h'=h/\∀j,j<i->a.data.toList[j]? =b.data.toList[j]?) (λi=>min a.size b.size-i) 0 ⟨rfl,aJ _,rfl,λj q=>absurd q (j1 _)⟩ ?_
 rintro I i t h' ⟨rfl,hi,rfl,k⟩ w;refine eF (λt g=>g=h'/\(t=true->i<min a.size b.size/\a.data.toList[i]? =b.data.toList[i]?)/\(t=false->cm a.data.toList b.data.toList=i)) (λR n=>?_) ?_
 .refine ar (λm=>?_) λm=>n _ _ ⟨rfl,λh=>(by cases h),λ_=>Mg a4 a4 k a4⟩
  refine ar (λg=>?_) λg=>n _ _ ⟨rfl,λh=>(by cases h),λ_=>Mg a4 a4 k a4⟩
  have f:i<a.size:=a4
  have d:i<b.size:=a4
  have u:a.data.toList[i]? =some a[i]:=by rw[<-PV,getElem?_pos a i f]
  have o:b.data.toList[i]? =some b[i]:=by rw[<-PV,getElem?_pos b i d]
  refine⟨a[i],a4,by rw[aY,getElem?_pos a i f],b[i],a4,by rw[aY,getElem?_pos b i d],n _ _ ⟨rfl,λh=>⟨a4,?_⟩,λh=>?_⟩⟩
  .have:((a[i].toNat:Int))=(b[i].toNat:Int):=by simpa using h
   rw[u,o,UInt8.toNat_inj.1 (show a[i].toNat=b[i].toNat by omega)]
  .refine Mg a4 a4 k (.inr (.inr λe=>?_))
   rw[u,o]at e;rw[bO.inj e]at h;simp at h
 .rintro t g ⟨rfl,m,v⟩
  cases t with
  |true=>
   obtain⟨c,e⟩:=m rfl;refine ay.2 ?_;rw[bN c a4];refine w (i+1) _ _ ⟨rfl,c,rfl,λj q=>?_⟩ a4
   rcases ci j i with p|p
   .exact k j p
   .rw[show j=i by omega];exact e
  |false=>
   refine ag.2 ?_;rw[v rfl]at s;exact s
theorem abl:∀{x y:c5} {t:Nat},t<=x.length->t<=y.length->x.take t=y.take t->t<=cm x y
 |_,_,0,_,_,_=>aJ _
 | [],_,t+1,h,_,_=>by simp at h
 |_::_,[],t+1,_,h,_=>by simp at h
 |a::x,b::y,t+1,h1,h2,e=>by
  rw[dw,dw]at e;obtain⟨c,d⟩:=List.cons.inj e;have:=abl (x:=x) (y:=y) (t:=t) (by simpa using h1) (by simpa using h2) d;unfold cm;rw[if_pos c];omega
def aa6(t:Nat)(p:Pr):Pr:=(p.1.extract t p.1.size,p.2)
theorem LR(t:Nat)(p:Pr):ky (aa6 t p)=(ky p).drop t:=Dt p.1 t
def UV(B:Nat):Prop:=∀{W:dx} {h:ad} {s:fD} {l:bY},Sl dT 2 No h s l->s.len<=s.cap->Beg l []->(∀p∈l,(ky p).length<=B)->l.length<=100000->(∀y,W y->y<h.size)->∀{K:fD->dO},
 (∀h' s' ks L,OwnS qA 1 183 (λy=>h.size<=y) h' s' ks->DxL W h' ks L->Row L l [] []->Upd No h h'->K s' h')->ce 149 [.slice s.a s.len s.cap] K h
def yL(to:Nat)(l:bY):bY:=(l.filter λp=>decide ((ky p).length≠to)).map (aa6 to)
theorem RG{to:Nat}{i:Nat}(hi:i<l.length):yL to (l.take (i+1))=if(ky l[i]).length=to then yL to (l.take i)else yL to (l.take i)++ [aa6 to l[i]]:=by
 unfold yL;rw[ax hi,cy,List.map_append,bf,f9];by_cases h:(ky l[i]).length=to
 .rw[if_pos h,if_neg (by simpa using h)];simp
 .rw[if_neg h,if_pos (by simpa using h)];rfl
theorem S9{B:Nat}(hB:B<=1000000)(V:∀B',B'<B->UV B'){r:bY}{f g:Pr}(hs:Sl dT 2 No h s l)(bg:Beg l [])(Q:∀p∈l,(ky p).length<=B)(hn:l.length<=100000)(hW:∀y,W y->y<h.size)
  (w:l=f::r)(hg:l.getLast? =some g)(hb:bt 0 f=bt 0 g){K:aT->dO}
  (hk:∀h' a n,DKid W h' a n->QB n->hd n.1=bt 0 f->(∀k v,vr n k v↔aa1 l [] k v)->Upd No h h'->K a h'):fu 221 [.slice s.a s.len s.cap] K h:=by
 refine dg (D7 s) Ol Tryz.func221 Tryz.call221 ?_;dsimp only[D7,bo,dd,kF,mc,wV,fj,cM,ix,zX,nv,Fb,wS,fY];have hlen:=hs.len;have hl0:0<l.length:=by rw[w];simp
 have hfm:f∈l:=by rw[w];exact aq ..
 have hgm:g∈l:=List.mem_of_getLast? hg;obtain⟨a,ha,_,hvf⟩:=hs.at (i:=0) (x:=f) (by rw[w];rfl);obtain⟨q1,q2,q3,q4,q5⟩:=Mj bg ⟨r,w⟩ hg hb;have hbc:= @S8 l (if(ky f).length=cm (ky f) (ky g)then l.drop 1 else l) [] f g bg ⟨r,w⟩ hg hb
 have hcg:cm (ky f) (ky g)=cm (ky f) (ky g):=rfl;obtain⟨to,T⟩:∃to,cm (ky f) (ky g)=to:=⟨_,rfl⟩;rw[T]at q1 q2 q3 q4 hbc;have hszf:f.1.size=(ky f).length:=(Sw f.1).symm;have hfB:=Q f hfm;have hle:∀p∈l,to<=(ky p).length:=λp j=>(q4 p j).elim (λe=>e▸q2) Nat.le_of_lt
 have hcm:∀p∈l,to<=cm (ky f) (ky p):=λp j=>abl q2 (hle p j) (q3 p j).symm
 have hpos:0<to:=by simpa using q1
 refine⟨⟨a8,a4⟩,a,ha,_,hvf 0 _ rfl,?_⟩
 refine ez (λ(g:Nat×Nat) (t:Int×Int) h'=>t=((g.2:Int),(g.1:Int))/\g.1<=l.length/\to<=g.2/\g.2<=(ky f).length/\(g.1=l.length->g.2=to)/\Upd No h h') (λg=>l.length-g.1) (0,(ky f).length) ⟨by rw[hszf];rfl,aJ _,q2,aj _,λe=>by(try simp only at e);omega,eM _ _⟩ ?_
 rintro I ⟨i,n⟩ t h' ⟨rfl,hi,hn1,hn2,X,Y⟩ hI;(try simp only at hi hn1 hn2 X)
 refine ar (λb=>?_) λU=>?_
 .have b:i<l.length:=by have:(i:Int)<(s.len:Int):=b;omega
  have D:l[i]∈l:=aF b;refine eF (λt o=>∃n':Nat,t=(n':Int)/\to<=n'/\n'<=(ky f).length/\(i+1=l.length->n'=to)/\Upd No h o) (λR hR=>?_) ?_
  .obtain⟨a',S,_,hv⟩:=(hs.upd Y λ_ h=>h.elim).at (af b)
   refine⟨⟨by(try simp only);omega,by(try simp only);omega⟩,a',S,_,hv 0 _ rfl,_,hv 1 _ rfl,ux (p:=l[i]) λo b2 k2=>?_⟩
   obtain⟨a2,ha2,_,hv2⟩:=((hs.upd Y λ_ h=>h.elim).upd k2 λ_ h=>h.elim).at (i:=0) (x:=f) (by rw[w];rfl)
   refine⟨⟨a8,a4⟩,a2,ha2,_,hv2 0 _ rfl,_,vc b2 0,RP a4 ?_⟩
   have hc1:=hcm _ D;have hc2:=(UM (ky f) (ky l[i])).1;have z:i+1=l.length->l[i]=g:=λe=>by
    rw[List.getLast?_eq_getElem?,show l.length-1=i by omega,af b]at hg
    exact bO.inj hg
   change fo (decide ((cm (ky f) (ky l[i]):Int)<(n:Int))) _ _;refine ar (λhc=>hR _ _ ⟨_,rfl,hc1,hc2,λe=>?_,Y.tr k2⟩) λhc=>hR _ _ ⟨n,rfl,hn1,hn2,λe=>?_,Y.tr k2⟩
   .rw[z e,T]
   .rw[z e,T]at hc;omega
  .rintro t o ⟨n',rfl,E,h2',N,m⟩
   (try simp only)
   rw[bN b a4];exact hI (i+1,n') _ _ ⟨rfl,b,E,h2',N,m⟩ (by(try simp only);omega)
 obtain rfl:i=l.length:=by have:¬(i:Int)<(s.len:Int):=U;omega
 obtain rfl:n=to:=X rfl;clear X hI;obtain⟨a',S,_,hv⟩:=(hs.upd Y λ_ h=>h.elim).at (i:=0) (x:=f) (by rw[w];rfl)
 refine⟨⟨a8,a4⟩,a',S,f.1,hv 0 _ rfl,⟨a4,by(try simp only);omega⟩,aQ λE b1 k1=>?_⟩
 have u1:=Y.tr k1;have z1:=bB b1;have s0:=Y.size;simp only[aY]at b1⊢;have hlab:(f.1.extract 0 n).data.toList=((ky f).take n).drop ([]:c5).length:=by rw[Dr];rfl
 refine ez (λ(i:Nat) (t:fD×Int) o=>t.2=(i:Int)/\i<=l.length/\o[h'.size]? =some (.cells #[.string (f.1.extract 0 n),.bool (if 0<i/\(ky f).length=n then some f.2 else none:Option c6).isSome,.string ((if 0<i/\(ky f).length=n then some f.2 else none:Option c6).getD ⟨#[]⟩),.slice none 0 0] 240 (0,0))/\
  OwnS dT 2 169 (λy=>E.size<=y) o t.1 (yL n (l.take i))/\Upd No h o/\E.size<=o.size) (λi=>l.length-i) 0 ⟨rfl,aJ _,by rw[if_neg a4];exact b1,OwnS.nil fP,u1,aj _⟩ ?_
 rintro I i ⟨so,ti⟩ o ⟨e1,hi2,c2,ho,m,hz2⟩ hI;(try simp only at e1 ho)
 subst e1;refine ar (λb=>?_) λU=>?_
 .have b:i<l.length:=by have:(i:Int)<(s.len:Int):=b;omega
  have D:l[i]∈l:=aF b;have J:=RG (to:=n) b;have hszi:l[i].1.size=(ky l[i]).length:=(Sw l[i].1).symm;have hiB:=Q _ D;refine eF (λt N=>N[h'.size]? =some (.cells #[.string (f.1.extract 0 n),.bool (if 0<i+1/\(ky f).length=n then some f.2 else none:Option c6).isSome,.string ((if 0<i+1/\(ky f).length=n then some f.2 else none:Option c6).getD ⟨#[]⟩),.slice none 0 0] 240 (0,0))/\
   OwnS dT 2 169 (λy=>E.size<=y) N t (yL n (l.take (i+1)))/\Upd No h N/\E.size<=N.size) (λR hR=>?_) ?_
  .obtain⟨a3,ha3,_,hv3⟩:=(hs.upd m λ_ h=>h.elim).at (af b)
   refine⟨⟨by(try simp only);omega,by(try simp only);omega⟩,a3,ha3,_,hv3 0 _ rfl,_,hv3 1 _ rfl,ux (p:=l[i]) λN b3 k3=>⟨_,vc b3 0,?_⟩⟩
   have z3:=bB b3;have s3:=k3.size;have zh2:=bB c2;have c3:=k3.get0 c2;refine eh (λA=>?_) λA=>?_
   .have A:(ky l[i]).length=n:=by
     have:((l[i].1.size:Nat):Int)=(n:Int):=by simpa using A
     omega
    have hfi:l[i]=f:=(q4 _ D).resolve_right a4;rw[if_pos A]at J;refine⟨_,vc b3 1,_,rfl,?_⟩;refine oD (i:=1) c3 (show 1<4 by decide) rfl λh4 b4 P=>⟨vc (P.oth b3 a4) 1,_,rfl,?_⟩
    refine oD (i:=2) b4 (show 2<4 by decide) rfl λh5 b5 u5=>hR _ _ ⟨?_,?_,((m.tr k3).own P a4).own u5 a4,?_⟩
    .rw[if_pos (show 0<i+1/\(ky f).length=n from⟨a4,by rw[<-hfi];exact A⟩),b5,hfi];rfl
    .rw[J]
     exact((ho.upd k3 λ_ _ h=>h).upd P λy c e=>by have e:y=h'.size:=e;have c:E.size<=y:=c;omega).upd u5 λy c e=>by have e:y=h'.size:=e;have c:E.size<=y:=c;omega
    .have:=P.size;have:=u5.size;omega
   .have A:¬(ky l[i]).length=n:=λe=>by
     have:¬((l[i].1.size:Nat):Int)=(n:Int):=by simpa using A
     omega
    rw[if_neg A]at J;have hlei:=hle _ D;refine⟨_,vc b3 0,⟨a4,a4⟩,_,vc b3 1,aQ λh4 b4 O=>⟨vc (O.get0 b3) 1,vc (O.get0 b3) 0,_,oY b4,?_⟩⟩
    have s4:=O.size;have z4:=bB b4;refine AppP.own (M:=λy=>(E.size<=y/\y<o.size)\/h4.size<=y) (ys:= [aa6 n l[i]]) (((ho.within.upd k3 λ_ _ h=>h).upd O λ_ _ h=>h).more λy c=>.inl c) rfl rfl rfl rfl a4 ?_ (.inr (aj _)) λs5 h5 ho5 C=>?_
    .have:=List.length_filter_le (λp=>decide ((ky p).length≠n)) (l.take i)
     simp only[yL,bP,aG];rw[aV]at this;omega
    have s5':=C.size;refine⟨vc (C.get (O.get0 b3) a4) 1,vc (C.get (O.get0 b3) a4) 0,hR _ _ ⟨?_,?_,((m.tr k3).tr O).trans C λy c=>.inr a4,a4⟩⟩
    .have u:(if 0<i+1/\(ky f).length=n then some f.2 else none:Option c6)=if 0<i/\(ky f).length=n then some f.2 else none:=by
      by_cases h0:0<i
      .simp[h0]
      .have:i=0:=by omega
       subst this;have:l[0]=f:=by simp[w]
       rw[this]at A;rw[if_neg (λh=>A h.2),if_neg (λh=>A h.2)]
     rw[u];exact C.get (O.get0 c3) a4
    .rw[J]
     exact ho5.more λy c=>by show E.size<=y;omega
  .rintro t N ⟨p1,p2,p3,p4⟩
   (try simp only)
   rw[bN b a4];exact hI (i+1) _ _ ⟨rfl,b,p1,p2,p3,p4⟩ a4
 obtain rfl:i=l.length:=by have:¬(i:Int)<(s.len:Int):=U;omega
 rw[bG]at ho;have hc0:(0<l.length/\(ky f).length=n)↔(ky f).length=n:=⟨λh=>h.2,λh=>⟨hl0,h⟩⟩
 simp only[hc0]at c2;have H:yL n l=(if(ky f).length=n then l.drop 1 else l).map (aa6 n):=by
  unfold yL;congr 1
  by_cases e:(ky f).length=n
  .rw[if_pos e,w,bf,if_neg (by simpa using e),List.drop_one,List.tail_cons]
   refine db.2 λp j=>?_
   have hpl:p∈l:=by rw[w];exact aA _ j
   rcases q4 p hpl with u|o
   .rw[u]at j
    exact absurd ((aC.1 (w▸bg.up)).1 f j) (bX _)
   .exact decide_eq_true a4
  .rw[if_neg e]
   refine db.2 λp j=>?_
   rcases q4 p j with u|o
   .rw[u];exact decide_eq_true e
   .exact decide_eq_true a4
 have d:(if(ky f).length=n then l.drop 1 else l).Sublist l:=by
  split
  .exact List.drop_sublist ..
  .exact List.Sublist.refl _
 have Z:∀p∈(if(ky f).length=n then l.drop 1 else l),n<(ky p).length:=λp j=>by
  rcases q4 p (d.subset j)with e|h
  .by_cases u:(ky f).length=n
   .rw[if_pos u,w,e]at j
    exact absurd ((aC.1 (w▸bg.up)).1 f j) (bX _)
   .rw[e];omega
  .exact h
 have hbeg:Beg (yL n l) []:=by
  rw[H];refine⟨?_,λp j=>?_⟩
  .unfold bS
   rw[List.pairwise_map];refine(bg.up.sublist d).imp_of_mem λ{p q} j G b=>?_
   rw[AD]at b⊢;have e1:=q3 p (d.subset j);have u:=q3 q (d.subset G);change bF (ky (aa6 n p)) (ky (aa6 n q))=true;change bF (ky p) (ky q)=true at b;rw[LR,LR];rw[<-aW n (ky p),<-aW n (ky q),e1,u,NY]at b;exact b
  .obtain⟨q,G,rfl⟩:=be.1 j
   refine⟨rfl,?_⟩;rw[LR,ba];have:=Z q G;simp only[List.length_nil];omega
 have hkB:∀p∈yL n l,(ky p).length<=B-n:=λp j=>by
  rw[H]at j;obtain⟨q,G,rfl⟩:=be.1 j;rw[LR,ba];have:=Q q (d.subset G);omega
 have hrn:(yL n l).length<=100000:=by
  rw[H,bP];exact Nat.le_trans d.length_le hn
 have s2:=m.size;have zc:=bB c2;refine V (B-n) a4 (W:=λy=>W y\/y=h'.size) (ho.sl λ_ _ _ h=>h) ho.cap hbeg hkB hrn (λy c=>c.elim (λc=>by have:=hW y c;omega) λc=>a4) λN s3 ks L ho3 hL3 hrow hu3=>?_
 obtain⟨hcF,hgF⟩:=hrow.done;have hgot:∀k v,qC (.ofL L) k v↔aa1 (if(ky f).length=n then l.drop 1 else l) ((ky f).take n) k v:=λk v=>by
  rw[hgF,H];constructor
  .rintro⟨p,j,u,e3⟩
   obtain⟨q,G,rfl⟩:=be.1 j;rw[LR,cS]at u;refine⟨q,G,?_,e3⟩;rw[<-u,<-q3 q (d.subset G),aW]
  .rintro⟨q,G,u,e3⟩
   refine⟨aa6 n q,be.2 ⟨q,G,rfl⟩,?_,e3⟩;rw[LR,cS,u,List.drop_left' (by rw[aV];omega)]
 obtain⟨hcn,hhd,hin⟩:=hbc (F:=.ofL L) hcF rfl hgot rfl hlab;refine⟨_,rfl,?_⟩;refine oD (i:=3) (hu3.get0 c2) (show 3<4 by decide) rfl λh4 b4 P=>?_
 refine hk h4 _ (_,_,_) ⟨h'.size,_,rfl,rfl,_,s3,none,ks,b4,rfl,?_,⟨ho3.cap,λhw=>by have:=hW _ hw;omega⟩,Du.2 ?_⟩ hcn hhd hin ((m.tr hu3).own P a4)
 .exact(ho3.upd P λy c e=>by have e:y=h'.size:=e;have c:o.size<=y:=c;omega).sl λy c _ hw=>by have:=hW y hw;have c:o.size<=y:=c;omega
 .rw[Fo.to_of]
  exact(hL3.updM P λy c=>.inl (.inr c)).less λy c=>.inl (.inl c)
end
end Go.Proofs
