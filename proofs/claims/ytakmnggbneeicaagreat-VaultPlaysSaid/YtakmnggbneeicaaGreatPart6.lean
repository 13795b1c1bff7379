/- A part of the proof that the named laws of this program answer true, whatever the input. -/
import Derived.Test.YtakmnggbneeicaaGreatPart5
import Derived.Test.YtakmnggbneeicaaGreatPart3
import Derived.Shelf.SlLaysF0
import Derived.Test.YtakmnggbneeicaaGreatTreeF0
import Derived.Test.YtakmnggbneeicaaGreatPart4
import Derived.Test.YtakmnggbneeicaaGreatPart2
open ByteArray renaming size_extract->eK
open Classical renaming byContradiction->om
open Go.IntKind renaming wrap->ac,wrap_u32->rp
open Go.Op renaming bytesLess->bF
open List renaming getElem_mem->aF,getElem?_eq_getElem->af,take_append_drop->aW,getElem_of_mem->bH,drop_eq_getElem_cons->dL,drop_sublist->qv,length_singleton->aG,mem_cons_self->aq,take_length->bG,length_cons->av,length_pos_iff->kK,mem_cons_of_mem->aA,mem_cons->aw,append_assoc->au,length_append->ae,flatMap_append->bI,flatMap_cons->aL,take_succ_eq_append_getElem->ax,flatMap_nil->gk,append_nil->aX,mem_append->aN,mem_singleton->az,filter_congr->fI,mem_map->be,mem_filter->bV,pairwise_iff_getElem->cp,length_set->iT,mem_append_left->cx,mem_append_right->cA,length_filter_le->bQ,length_map->bP,flatten_append->fz,flatten_cons->eX
open List.Pairwise renaming nil->cj
open Nat renaming zero_le->aJ,le_refl->aj,lt_or_ge->ci,zero_add->aU,le_trans->aO,mul_le_mul_right->cD,beq->aS,le_succ->kq,not_lt->dR,lt_of_lt_of_le->aD
open Option renaming some->bO,isSome_some->pB
namespace Go.Proofs
open Go Go.Lift
variable {q L:bY}{n0 d f r:Nat}{so c:fD}{B:c5}{K:fD->dO}{x:Hs}{kind p a:Int}{t u:Tr}{m:c6}
theorem Sr{B:Nat}(hB:B<=1000000)(N:∀Q,Q<B->UV Q):UV B:=by
 intro W h s l hs hcap bg hlB hn hW K hk;refine dg (D6 s) Oj Tryz.func149 Tryz.call149 ?_;dsimp only[D6,nV,zY,Qn,cM,jX,fj];have hlen:=hs.len;refine ez (λ(g:Nat×List aT×List Bn×(dx)) (t:fD×Int) h'=>t.2=(g.1:Int)/\g.1<=l.length/\OwnS qA 1 183 g.2.2.2 h' t.1 g.2.1/\(∀y,g.2.2.2 y->h.size<=y/\y<h'.size)/\DxL (λy=>W y\/g.2.2.2 y) h' g.2.1 g.2.2.1/\Row g.2.2.1 (l.take g.1) (l.drop g.1) []/\Upd No h h') (λg=>l.length-g.1) (0,[],[],λ_=>False)
  ⟨rfl,aJ _,OwnS.nil pq,λy d=>d.elim,⟨rfl,λp hp=>(by cases hp)⟩,Row.nil _ _,eM _ _⟩ ?_
 rintro I ⟨i,ks,L,Mo⟩ ⟨so,ti⟩ S ⟨e1,hi,ho,u,X,f,Z⟩ hI;(try simp only at e1 hi ho u X f)
 subst e1;refine ar (λv=>?_) λhge=>?_
 .have v:i<l.length:=by have:(i:Int)<(s.len:Int):=v;omega
  have J:=hs.upd Z λ_ h=>h.elim
  have U:∀j (D:j<l.length),0<(ky l[j]).length:=λj D=>(bg.at_ _ (aF D)).2
  obtain⟨bi,hbi,hbie⟩:=YE (U i v);obtain⟨ai,hai,_,hvi⟩:=J.at (af v);refine ez (λ(k:Nat) (t:Int) P=>t=(k:Int)/\i<=k/\k<=l.length/\P=S/\∀j (D:j<l.length),i<=j->j<k->bt 0 l[j]=bt 0 l[i]) (λk=>l.length-k) i ⟨rfl,aj _,hi,rfl,λj D S P=>a4⟩ ?_
  rintro I2 k t P ⟨rfl,hik,T,rfl,E⟩ hI2;refine eF (λt h3=>h3=P/\(t=true->∃hk:k<l.length,bt 0 l[k]=bt 0 l[i])/\(t=false->∀hk:k<l.length,bt 0 l[k]≠bt 0 l[i])) (λR hR=>?_) ?_
  .refine ar (λa=>?_) λa=>hR _ _ ⟨rfl,λh=>(by cases h),λ_ hk2=>absurd (show(k:Int)<(s.len:Int) by omega) a⟩
   have a:k<l.length:=by have:(k:Int)<(s.len:Int):=a;omega
   obtain⟨bk,hbk,hbke⟩:=YE (U k a);obtain⟨ak,hak,_,hvk⟩:=J.at (af a);refine⟨⟨a4,a4⟩,ak,hak,_,hvk 0 _ rfl,bk,a8,hbk,⟨by(try simp only);omega,by(try simp only);omega⟩,ai,hai,_,hvi 0 _ rfl,bi,a8,hbi,hR _ _ ⟨rfl,λh=>⟨a,?_⟩,λh _=>?_⟩⟩
   .have:(bk.toNat:Int)=(bi.toNat:Int):=by simpa using h
    omega
   .intro e
    have:¬(bk.toNat:Int)=(bi.toNat:Int):=by simpa using h
    omega
  rintro t h3 ⟨rfl,ht,Y⟩;cases t with
  |true=>
   obtain⟨a,e⟩:=ht rfl;refine ay.2 ?_;rw[bN a a4];refine hI2 (k+1) _ _ ⟨rfl,a4,a,rfl,λj D S P=>?_⟩ a4
   rcases ci j k with h|h
   .exact E j D S h
   .have:j=k:=by omega
    subst this;exact e
  |false=>
   have Y:=Y rfl;have hik2:i<k:=by
    rcases ci i k with h|h
    .exact h
    .have:k=i:=by omega
     subst this;exact absurd rfl (Y v)
   refine ag.2 ⟨⟨a4,a4⟩,⟨by(try simp only);omega,by(try simp only);omega⟩,?_⟩
   simp only[Int.toNat_natCast];have hsA:=Sl.sub J (l:=i) (hi:=k) (m:=s.cap) (c:=s.cap-i) hik T a4;have V:(l.drop i).take (k-i)++l.drop k=l.drop i:=by
    conv=>rhs;rw[<-aW (k-i) (l.drop i)]
    rw[List.drop_drop,show i+(k-i)=k by omega]
   have hDA:l.take i++(l.drop i).take (k-i)=l.take k:=by
    rw[show k=i+(k-i) by omega,List.take_add];congr 2;omega
   have w:∀q∈(l.drop i).take (k-i),bt 0 q=bt 0 l[i]:=λq hq=>by
    obtain⟨j,D,e⟩:=bH hq;rw[List.length_take,List.length_drop]at D;rw[<-e,List.getElem_take,List.getElem_drop];exact E (i+j) a4 a4 a4
   have hAc:∃r,(l.drop i).take (k-i)=l[i]::r:=by
    rw[dL v,show k-i=(k-i-1)+1 by omega,List.take_succ_cons]
    exact⟨_,rfl⟩
   have o:((l.drop i).take (k-i)).Sublist l:=(List.take_sublist _ _).trans (qv _ _);have hBk:∀b Q,l.drop k=b::Q->bt 0 b≠bt 0 l[i]:=λb Q e=>by
    have a:k<l.length:=by
     rcases ci k l.length with h|h
     .exact h
     .rw[List.drop_eq_nil_of_le h]at e;cases e
    rw[dL a]at e;rw[<-(List.cons.inj e).1];exact Y a
   have hAl:((l.drop i).take (k-i)).length<=l.length:=o.length_le;generalize (l.drop i).take (k-i)=A at*;obtain⟨r,G⟩:=hAc;obtain⟨g,hg⟩:∃g,A.getLast? =some g:=by rw[G];exact⟨_,List.getLast?_eq_some_getLast a6⟩
   have s1:=Z.size;refine S9 (W:=λy=>W y\/Mo y) hB N (hsA.less λ_ h=>h.elim) (bg.sub o) (λq hq=>hlB q (o.subset hq)) a4 (λy d=>d.elim (λd=>Nat.lt_of_lt_of_le (hW y d) s1) λd=>(u y d).2) G hg (w g (List.mem_of_getLast? hg)).symm λh4 ka n kd hcn hhd hin hu4=>aQ λF b5 k5=>⟨_,oY b5,?_⟩
   have C:=hu4.tr k5;have z35:=C.size;have hLn:L.length<=256:=by
    rcases EJ (c:=0) f.up λ_ _=>aJ _ with e|e
    .rw[e];simp
    .omega
   have hkl':=X.1;refine AppP.own (M:=λy=>Mo y\/F.size<=y) (ys:= [ka]) ((ho.upd C λ_ _ h=>h).more λy d=>.inl d) rfl rfl rfl rfl a4 (by simp only[aG];omega) (.inr (aj _)) λs6 h6 ho6 H=>?_
   have z6:=H.size;have x:=f;rw[<-V]at x;have O:Beg (A++l.drop k) []:=by rw[V];exact bg.sub (qv _ _)
   have z:=x.more O (p:=l[i]) (by rw[G];exact aq ..) w hBk hcn hhd hin;rw[hDA]at z;refine hI (k,ks++ [ka],L++ [n],λy=>(Mo y\/F.size<=y)/\y<h6.size) _ _ ⟨rfl,T,ho6.within,λy d=>⟨?_,d.2⟩,?_,z,?_⟩ (by(try simp only);omega)
   .rcases d.1 with h|h
    .exact(u y h).1
    .omega
   .have hl:∀b,(W b\/((Mo b\/F.size<=b)/\b<h6.size))->(W b\/Mo b)\/F.size<=b:=λb hb=>by
     rcases hb with h|⟨h|h,_⟩
     .exact .inl (.inl h)
     .exact .inl (.inr h)
     .exact .inr h
    have hm:∀b,(Mo b\/F.size<=b)->(W b\/((Mo b\/F.size<=b)/\b<h6.size))\/F.size<=b:=λb hb=>by
     rcases hb with h|h
     .exact .inl (.inr ⟨.inl h,by have:=(u b h).2;omega⟩)
     .exact .inr h
    exact(((X.upd0 C).app (DxL.one (kd.upd0 k5))).less hl).updM H hm
   .exact(Z.tr C).trans H λy d=>.inr (by
     rcases d with h|h
     .exact(u y h).1
     .omega)
 .obtain rfl:i=l.length:=by have:¬(i:Int)<(s.len:Int):=hge;omega
  rw[bG,List.drop_length]at f;exact hk S _ ks L (ho.more λy d=>(u y d).1) (X.less λy d=>.inl (.inl d)) f Z
theorem XR(B:Nat):B<=1000000->UV B:=by
 induction B using Nat.strongRecOn with
 |_ B ih=>exact λa=>Sr a λb h=>ih b h a4
theorem ZW{h:ad}{s:fD}{l:bY}(Y:Sl dT 2 No h s l)(o:s.len<=s.cap)(V:bS l)(hn:l.length<=60000)(hB:∀p∈l,(ky p).length<=1000000){K:aT->dO}
  (hk:∀h' b w F,DxN No h' b ⟨#[]⟩ w F->fq F->mR w F=Re l->Upd No h h'->K (some ⟨b,0,none⟩) h'):fu 102 [.slice s.a s.len s.cap] K h:=by
 refine dg (Qy s) Y5 Tryz.func102 Tryz.call102 ?_;dsimp only[Qy,dd,acq,wV,fj,cM,ix,Oc,AS,wS];have u:=Y.len;refine aQ λg b1 k1=>?_
 have z1:=bB b1;have z:=Y.upd k1 λ_ h=>h.elim
 refine eF (λ(t:fD) f=>∃(w:Option c6) (l':bY),f[h.size]? =some (.cells #[.string ⟨#[]⟩,.bool w.isSome,.string (w.getD ⟨#[]⟩),.slice none 0 0] 240 (0,0))/\Sl dT 2 No f t l'/\t.len<=t.cap/\Beg l' []/\l'.length<=l.length/\(∀p∈l',p∈l)/\(∀k v,((k= []/\w=some v)\/aa1 l' [] k v)↔∃p∈l,p.1.data.toList=k/\p.2=v)/\Upd No h f) (λR Z=>?_) ?_
 .refine eQ ?_
  rcases l with _|⟨p,r⟩
  .refine ar (λhgt=>?_) λ_=>ag.2 (Z _ _ ⟨none,[],b1,z,o,⟨cj,λp X=>(by cases X)⟩,aj _,λ_ h=>h,λk v=>⟨?_,?_⟩,k1⟩)
   .simp only[List.length_nil]at u;omega
   .rintro(⟨_,h⟩|⟨q,d,_⟩)
    .cases h
    .cases d
   .rintro⟨q,d,_⟩;cases d
  .simp only[av]at u
   obtain⟨a,ha,_,hv⟩:=z.at (i:=0) (x:=p) rfl;refine ar (λ_=>⟨⟨a8,a4⟩,a,ha,_,hv 0 _ rfl,?_⟩) λT=>absurd (show(s.len:Int)>0 by omega) T
   have D:=List.pairwise_cons.1 V;have n:∀q∈r,0<(ky q).length:=λq d=>by
    have g:=AD.1 (D.1 q d);refine kK.2 λU=>?_
    change bF (ky p) (ky q)=true at g;rw[U,Ta]at g;cases g
   rw[dZ];by_cases J:p.1=⟨#[]⟩
   .have ek:ky p= []:=by unfold ky;rw[J]
    rw[decide_eq_true J];refine ay.2 ⟨⟨a8,a4⟩,a,ha,_,hv 1 _ rfl,_,rfl,?_⟩
    refine oD (i:=1) b1 (show 1<4 by decide) rfl λf b2 I=>⟨_,rfl,?_⟩
    refine oD (i:=2) b2 (show 2<4 by decide) rfl λh3 b3 C=>⟨⟨a8,a4⟩,Z _ _ ⟨some p.2,r,b3,?_,by(try simp only);omega,⟨D.2,λq d=>⟨rfl,n q d⟩⟩,a6,λq d=>aA _ d,λk v=>?_,(k1.own I (aj _)).own C (aj _)⟩⟩
    .have Q:Upd (λy=>y=h.size) g h3:=I.tr C
     have:=Sl.sub ((((Y.less (W':=λy=>y=h.size) λy j=>.inr a4).upd k1 λ_ h=>h.elim).upd Q λy j=>.inl j)) (l:=1) (hi:=(p::r).length) (m:=s.cap) (c:=s.cap-1) a6 (aj _) (by simp only[av];omega)
     rw[List.drop_one,List.tail_cons,List.take_of_length_le a6]at this;have U:(p::r).length-1=s.len-1:=by simp only[av];omega
     rw[U]at this;exact this.less λ_ h=>h.elim
    .constructor
     .rintro(⟨rfl,h⟩|⟨q,d,g,f⟩)
      .exact⟨p,aq ..,ek,bO.inj h⟩
      .exact⟨q,aA _ d,g,f⟩
     .rintro⟨q,d,g,f⟩
      rcases aw.1 d with rfl|d
      .exact .inl ⟨by rw[<-g];exact ek,by rw[f]⟩
      .exact .inr ⟨q,d,g,f⟩
   .rw[decide_eq_false J]
    have S:0<(ky p).length:=kK.2 λe=>J (qS.1 e)
    refine ag.2 (Z _ _ ⟨none,p::r,b1,z,o,⟨V,λq d=>⟨rfl,?_⟩⟩,aj _,λ_ h=>h,λk v=>?_,k1⟩)
    .rcases aw.1 d with rfl|d
     .exact S
     .exact n q d
    .constructor
     .rintro(⟨_,h⟩|⟨q,d,g,f⟩)
      .cases h
      .exact⟨q,d,g,f⟩
     .rintro⟨q,d,g,f⟩
      exact .inr ⟨q,d,g,f⟩
 rintro t f ⟨w,l',b2,hs2,O,N,hll,B,H,I⟩;have z2:=bB b2;refine XR 1000000 (aj _) (W:=λy=>y=h.size) hs2 O N (λp X=>hB p (B p X)) a4 (λy j=>a4) λh3 s3 ks L E hL3 A C=>⟨_,rfl,?_⟩
 obtain⟨G,hgF⟩:=A.done;refine oD (i:=3) (C.get0 b2) (show 3<4 by decide) rfl λh4 b4 P=>?_
 refine hk h4 h.size w (.ofL L) ⟨_,s3,none,ks,b4,rfl,?_,⟨E.cap,id⟩,Du.2 ?_⟩ G (Hg G V λk v=>?_) ((I.tr C).own P (aj _))
 .exact(E.upd P λy j e=>by have e:y=h.size:=e;have j:f.size<=y:=j;omega).sl λ_ _ _ h=>h
 .rw[Fo.to_of]
  exact(hL3.updM P λy j=>.inl j).less λ_ h=>h.elim
 .rw[jy]
  unfold sE;rw[hgF,H]
def aci(n:Bn):Prop:=∀{h:ad} {b:Nat} {sl:c6},DxN No h b sl n.2.1 n.2.2->sl.data.toList=n.1->(iQ n).length<=140737488355328->∀{K:fD->dO},(∀s' h',OwnS pJ 1 5 (λy=>h.size<=y) h' s' (iQ n)->Upd No h h'->K s' h')->
 ce 101 [gZ b] K h
theorem UF{lab:c5}{w:Option c6}{c:Fo}(hl:lab.length<=10000)(hw:∀v,w=some v->v.size<=10000)(hk256:c.toL.length<=256)(ih:∀m∈c.toL,aci m):aci (lab,w,c):=by
 intro h b sl r A hx K hk;(try simp only at r A)
 have F:(⟨lab.toArray⟩:c6)=sl:=by rw[<-A]
 have hsz:sl.size=lab.length:=by rw[<-A];simp
 obtain⟨val,s,ow,ks,hb,hv,hs,hcap,hF⟩:=r;have hL:=Du.1 hF;have p:=hs.len;rw[hL.1]at p;have ex:iQ (lab,w,c)=oG sl++wI w++mY c.toL.length 2++c.toL.flatMap iQ:=by
  show tA lab w c.toL.length++po c=_
  rw[zn];unfold tA;rw[F];simp only[au]
 rw[ex]at hx hk;simp only[ae]at hx;have g:∀{h':ad} {i:Nat},Upd No h h'->aZ h' (adr ⟨b,0,none⟩ i)=(aei sl w.isSome val s ow)[i]?:=λk=>vc (k.get0 hb) _
 have r0:=eM No h;refine dg (Gu (some ⟨b,0,none⟩)) QL Tryz.func101 Tryz.call101 ?_;dsimp only[Gu,cM,ga,cJ,qW,cz,jX,fj,nU,bR,wR];refine⟨_,rfl,sl,g (i:=0) r0,CV a4 λs1 h1 G k1=>?_⟩
 refine eF (λt x=>OwnS pJ 1 5 (λy=>h.size<=y) x t (oG sl++wI w)/\Upd No h x) (λR O=>?_) ?_
 .refine⟨_,rfl,w.isSome,g (i:=1) k1,?_⟩
  have s1':=k1.size;cases w with
  |none=>
   refine ag.2 (aQ λx b2 o=>⟨_,oY b2,?_⟩)
   have s2:=o.size;refine AppP.own (ys:= [(0:UInt8)]) (G.upd o λ_ _ h=>h) rfl rfl rfl rfl a4 (by simp only[aG];simp only[wI,aG]at hx;omega) (by show h.size<=x.size;omega) λs3 u f B=>?_
   exact O _ _ ⟨f,(k1.tr o).trans B λy j=>.inr j⟩
  |some v=>
   have hvs:=hw v rfl;have D:val=v:=hv;subst D;refine ay.2 ⟨_,rfl,_,g (i:=2) k1,aQ λx b2 o=>⟨g (i:=2) (k1.tr o),_,oY b2,?_⟩⟩
   have s2:=o.size;have hvl:(wI (some val)).length=1+(oG val).length:=by unfold wI;simp;omega
   rw[hvl]at hx;refine AppP.own (ys:= [(1:UInt8)]) (G.upd o λ_ _ h=>h) rfl rfl rfl rfl a4 (by simp only[aG];omega) (by show h.size<=x.size;omega) λs3 u f B=>?_
   have E:Upd No h u:=(k1.tr o).trans B λy j=>.inr j
   refine⟨g (i:=2) E,CV a4 λs4 h4 n z=>?_⟩
   have H:=E.size;have Y:=z.size;refine zW (f.upd z λ_ _ h=>h) (n.sl (W:=No) λ_ _ _ h=>h) (λy j=>by show h.size<=y;omega) (by rw[ae,aG];omega) λs5 h5 C q=>?_
   refine O _ _ ⟨?_,(E.tr z).trans q λy j=>.inr j⟩
   have e:oG sl++wI (some val)=oG sl++ [1]++oG val:=by unfold wI;simp
   rw[e];exact C
 rintro t2 x ⟨U,Q⟩;refine eF (λt u=>OwnS pJ 1 5 (λy=>h.size<=y) u t (oG sl++wI w++mY c.toL.length 2)/\Upd No h u) (λR O=>?_) ?_
 .refine⟨_,rfl,s,g (i:=3) Q,?_⟩
  rw[p];refine Hh a4 λs3 u f X=>?_
  have s2':=Q.size;have H:=X.size;refine zW (U.upd X λ_ _ h=>h) (f.sl (W:=No) λ_ _ _ h=>h) (λy j=>by show h.size<=y;omega) (by rw[ae];omega) λs4 h4 n V=>?_
  exact O _ _ ⟨n,(Q.tr X).trans V λy j=>.inr j⟩
 rintro t3 u ⟨f,E⟩;refine⟨_,rfl,s,g (i:=3) E,?_⟩;refine ez (λ(i:Nat) (t:fD×Int) h'=>t.2=(i:Int)/\i<=c.toL.length/\OwnS pJ 1 5 (λy=>h.size<=y) h' t.1 (oG sl++wI w++mY c.toL.length 2++(c.toL.take i).flatMap iQ)/\Upd No h h') (λi=>c.toL.length-i) 0 ⟨rfl,aJ _,by simpa using f,E⟩ ?_
 rintro I i ⟨so,ti⟩ h' ⟨e1,hi,N,J⟩ hI;(try simp only at e1 N)
 subst e1;refine ar (λd=>?_) λhge=>?_
 .have d:i<c.toL.length:=by have:(i:Int)<(s.len:Int):=d;omega
  refine eQ ?_;obtain⟨kb,ksl,S,Z,T⟩:=(hL.upd0 J).at d;obtain⟨a,ha,_,D⟩:=(hs.upd J λ_ h=>h.elim).at0 S
  have P:((c.toL.take i).flatMap iQ).length+(iQ c.toL[i]).length<=(c.toL.flatMap iQ).length:=by
   have e:c.toL=c.toL.take i++c.toL[i]::c.toL.drop (i+1):=by rw[List.getElem_cons_drop,aW]
   have:=congrArg (λL=>(List.flatMap iQ L).length) e
   simp only[bI,aL,ae]at this;omega
  refine⟨⟨by(try simp only);omega,by(try simp only);omega⟩,a,ha,_,D,ih _ (aF d) T Z a4 λs4 h4 n z=>?_⟩
  have H:=J.size;have Y:=z.size;refine zW (N.upd z λ_ _ h=>h) (n.sl (W:=No) λ_ _ _ h=>h) (λy j=>by show h.size<=y;omega) (by simp only[ae];omega) λs5 h5 C q=>?_
  (try simp only)
  rw[bN d a4];refine hI (i+1) _ _ ⟨rfl,d,?_,(J.tr z).trans q λy j=>.inr j⟩ a4
  rw[ax d,bI,aL,gk,aX,<-au];exact C
 .obtain rfl:i=c.toL.length:=by have:¬(i:Int)<(s.len:Int):=hge;omega
  rw[bG]at N;exact hk _ _ N J
theorem Jd:∀{F:Fo},Og F->∀n∈F.toL,aci n
 | .nil,_,n,a=>by simp[Fo.toL]at a
 | .cons lab w kids rest,h,n,a=>by
  rcases aw.1 a with rfl|a
  .exact UF h.1 h.2.1 h.2.2.1 (Jd h.2.2.2.1)
  .exact Jd h.2.2.2.2 n a
theorem Xv{c:Nat}:ac .u32 (((2^c%4294967296:Nat):Int)*2)=((2^(c+1)%4294967296:Nat):Int):=by
 rw[rp,Nat.pow_succ];omega
theorem aam:(Sz q==(1:Int))=(iP q).isSome:=by
 match q with
 | []=>rfl
 | [a]=>rfl
 |a::b::q=>rw[show Sz (a::b::q)=2 by unfold Sz;rw[if_neg a6,if_pos a6]];rfl
theorem aal:(Sz q==(2:Int))=(iu q).isSome:=by
 match q with
 | []=>rfl
 | [a]=>rfl
 |a::b::q=>rw[show Sz (a::b::q)=2 by unfold Sz;rw[if_neg a6,if_pos a6]];rw[show iu (a::b::q)=some (a::b::q) by unfold iu;rw[if_pos a6]];rfl
def TwoB(n0 a:Nat)(h:ad)(so c:fD)(L:bY)(B:c5):Prop:=
 ∃M N:Nat->Prop,OwnS dT 2 169 M h so L/\OwnS pJ 1 5 N h c B/\(∀b,M b->n0<=b/\b<a/\¬N b)/\∀b,N b->n0<=b/\b<a
theorem TwoB.upd0{b:Nat}{h h':ad}{a:fD}(t:TwoB n0 b h so a L B)(k:Upd No h h'):TwoB n0 b h' so a L B:=by
 obtain⟨M,N,e,d,c,f⟩:=t;exact⟨M,N,e.upd k λ_ _ h=>h,d.upd k λ_ _ h=>h,c,f⟩
theorem TwoB.up{h:ad}(t:TwoB n0 d h so c L B)(j:d<=f):TwoB n0 f h so c L B:=by
 obtain⟨M,N,i,g,a,e⟩:=t;exact⟨M,N,i,g,λb hb=>⟨(a b hb).1,by have:=(a b hb).2.1;omega,(a b hb).2.2⟩,λb hb=>⟨(e b hb).1,by have:=(e b hb).2;omega⟩⟩
theorem TwoB.appP{h:ad}{f:fD}{p:Pr}(t:TwoB n0 d h so f L B)(o:n0<=d)(k:d<=h.size)(q:L.length<=1000000){xs:c4}(hx:xs=dT p)
  (n:∀s' h',TwoB n0 h'.size h' s' f (L++ [p]) B->Upd (λb=>n0<=b) h h'->K s' h'):AppP (some [.string (⟨#[]⟩:c6),.string (⟨#[]⟩:c6)]) 2 32 169 so.a so.len so.cap 1 xs h K:=by
 subst hx;obtain⟨M,N,m,j,a,c⟩:=t;refine AppP.own (ys:= [p]) (m.more (M':=λb=>M b\/h.size<=b) λ_ h=>.inl h) rfl rfl rfl rfl a4 (by simp only[aG];omega) (.inr (aj _)) λs' h' i e=>?_
 have s:=e.size;refine n s' h' ⟨_,N,i.within,j.upd e λb hb hm=>hm.elim (λhm=>(a b hm).2.2 hb) λhm=>by have:=(c b hb).2;omega,λb hb=>⟨?_,hb.2,λg=>?_⟩,λb hb=>⟨(c b hb).1,by have:=(c b hb).2;omega⟩⟩ (e.mono λb hb=>hb.elim (λhb=>.inl (a b hb).1) .inr)
 .rcases hb.1 with hb|hb
  .exact(a b hb).1
  .omega
 .rcases hb.1 with hb|hb
  .exact(a b hb).2.2 g
  .have:=(c b g).2;omega
theorem TwoB.appB{W:dx}{h:ad}{e:fD}{ys:c5}(t:TwoB n0 f h so c L B)(u:n0<=f)(m:f<=h.size)(q:Sl pJ 1 W h e ys)(o:B.length+ys.length<=140737488355328)
  (p:∀s' h',TwoB n0 h'.size h' so s' L (B++ys)->Upd (λb=>n0<=b) h h'->K s' h'):∃xs,SRow h e.a (e.len*1) xs/\AppP (some [.int .u8 0]) 1 1 5 c.a c.len c.cap e.len xs h K:=by
 obtain⟨M,N,n,k,a,i⟩:=t;refine zW (M:=λb=>N b\/h.size<=b) (k.more λ_ h=>.inl h) q (λ_ h=>.inr h) o λs' h' j g=>?_
 have s:=g.size;refine p s' h' ⟨M,_,n.upd g λb hb hm=>hm.elim (λhm=>(a b hb).2.2 hm) λhm=>by have:=(a b hb).2.1;omega,j.within,λb hb=>⟨(a b hb).1,by have:=(a b hb).2.1;omega,λd=>?_⟩,λb hb=>⟨?_,hb.2⟩⟩ (g.mono λb hb=>hb.elim (λhb=>.inl (i b hb).1) .inr)
 .rcases d.1 with d|d
  .exact(a b hb).2.2 d
  .have:=(a b hb).2.1;omega
 .rcases hb.1 with hb|hb
  .exact(i b hb).1
  .omega
theorem E2{β:Type}(g:Nat->Option β):∀n,(fm g n).length<=n
 |0=>by simp[fm]
 |n+1=>by
  rw[jN,ae];have:=E2 g n;cases g n<;>simp<;>omega
theorem abV{β:Type}(g:Nat->Option β){n m:Nat}(h:n<=m):∃r,fm g m=fm g n++r:=by
 obtain⟨j,rfl⟩:∃j,m=n+j:=⟨m-n,a4⟩
 clear h;induction j with
 |zero=>exact⟨[],a6⟩
 |succ j ih=>obtain⟨r,a⟩:=ih;exact⟨r++(g (n+j)).toList,by rw[<-Nat.add_assoc,jN,a,au]⟩
set_option maxRecDepth 4000 in
theorem ZY:∀(m:Nat),m<=13->∀{h:ad} {b:Nat} {l:bY},DTrie No x h m b l->Fit l->l.length<=60000->∀{K:fD->dO},(∀s' h',OwnS pJ 1 5 (λy=>h.size<=y) h' s' (fp x m l)->Upd No h h'->K s' h')->
  ce 103 [gZ b,.int .i64 ((13-m:Nat):Int)] K h:=by
 intro m;induction m with
 |zero=>
  intro _ h b l t V hn K hk;refine Qt (some ⟨b,0,none⟩) ((13-0:Nat):Int) ?_;dsimp only[JS,cz,fj,cM,ga,bR,kF,mc,jV,cJ];obtain⟨_,⟨sa,sn,sc⟩,hb,hs⟩:=t;obtain rfl:sn=l.length:=hs.len;have g:∀{h':ad} {i:Nat},Upd No h h'->i<130->aZ h' (adr ⟨b,0,none⟩ i)=some (dF true ⟨sa,l.length,sc⟩ (λ_=> []) (λ_=>none) i):=λk hi=>by rw[bZ,bw (k.get0 hb),aU,Je hi]
  have r0:=eM No h;have e1:fp x 0 l= [1]++mY l.length 2++kR l:=by unfold fp;simp
  have hpl:=mS V;rw[e1]at hk;refine⟨_,rfl,true,g (i:=0) r0 a4,ay.2 ⟨_,rfl,⟨sa,l.length,sc⟩,g (i:=1) r0 a4,_,rfl,⟨sa,l.length,sc⟩,g (i:=1) r0 a4,?_,?_⟩⟩
  .refine aQ λX b1 k1=>⟨g (i:=1) k1 a4,g (i:=1) k1 a4,?_⟩
   have o1:=AI (b:=1) b1;refine Hh (n:=l.length) a4 λs2 o w e=>⟨g (i:=1) (k1.tr e) a4,g (i:=1) (k1.tr e) a4,?_⟩
   have s1:=k1.size;have s2':=e.size;refine zW (o1.upd e λ_ _ h=>h) (w.sl (W:=No) λ_ _ _ h=>h) (λy d=>by show h.size<=y;omega) (by rw[dz];simp) λs3 v C Q=>?_
   have u:Upd No h v:=(k1.tr e).trans Q λy d=>.inr d
   refine⟨g (i:=1) u a4,g (i:=1) u a4,?_⟩;refine EN (hs.upd u λ_ h=>h.elim) V hn λs4 h4 s f=>⟨g (i:=1) (u.tr f) a4,?_⟩
   have s3':=u.size;have H:=f.size;refine zW (C.upd f λ_ _ h=>h) (s.sl (W:=No) λ_ _ _ h=>h) (λy d=>by show h.size<=y;omega) (by rw[ae,dz];simp;omega) λs5 O A J=>?_
   have P:Upd No h O:=(u.tr f).trans J λy d=>.inr d
   exact⟨g (i:=1) P a4,hk s5 O A P⟩
  .refine Hh (n:=l.length) a4 λs2 o w e=>⟨g (i:=1) e a4,g (i:=1) e a4,?_⟩
   refine aQ λX b1 k1=>⟨g (i:=1) (e.tr k1) a4,g (i:=1) (e.tr k1) a4,?_⟩
   have o1:=AI (b:=1) b1;have s1:=k1.size;have s2':=e.size;refine zW (M:=λy=>h.size<=y) (o1.more λy d=>by show h.size<=y;omega) ((w.upd k1 λ_ _ h=>h).sl (W:=No) λ_ _ _ h=>h) (λy d=>by show h.size<=y;omega) (by rw[dz];simp) λs3 v C Q=>?_
   have u:Upd No h v:=(e.tr k1).trans Q λy d=>.inr d
   refine⟨g (i:=1) u a4,g (i:=1) u a4,?_⟩;refine EN (hs.upd u λ_ h=>h.elim) V hn λs4 h4 s f=>⟨g (i:=1) (u.tr f) a4,?_⟩
   have s3':=u.size;have H:=f.size;refine zW (C.upd f λ_ _ h=>h) (s.sl (W:=No) λ_ _ _ h=>h) (λy d=>by show h.size<=y;omega) (by rw[ae,dz];simp;omega) λs5 O A J=>?_
   have P:Upd No h O:=(u.tr f).trans J λy d=>.inr d
   exact⟨g (i:=1) P a4,hk s5 O A P⟩
 |succ m ih=>
  intro hm h b l t V hn K hk;refine Qt (some ⟨b,0,none⟩) ((13-(m+1):Nat):Int) ?_;dsimp only[JS,cz,fj,cM,ga,bR,kF,mc,jV,cJ];obtain⟨_,kk,hb,hkid⟩:=t;have elev:(13-(m+1):Nat)=12-m:=a4
  rw[elev];obtain⟨q,hq⟩:∃q:Nat->bY,q=λc=>part x (12-m) c l:=⟨_,rfl⟩
  have E:∀c,part x (12-m) c l=q c:=λc=>by rw[hq]
  rw[<-hq]at hb;have g:∀{h':ad} {i j:Nat},Upd No h h'->i+j<130->aZ h' (adr (adr ⟨b,0,none⟩ i) j)=some (dF false ⟨none,0,0⟩ q kk (i+j)):=λk hi=>by rw[bZ,bZ,bw (k.get0 hb),aU,Je hi]
  have g0:aZ h (adr ⟨b,0,none⟩ 0)=some (dF false ⟨none,0,0⟩ q kk 0):=by rw[bZ,bw hb,Je a4]
  refine⟨_,rfl,false,g0,ag.2 ?_⟩;have hML:∀L∈j9 x (12-m) l,2<=L.length/\(fp x m L).length<=9+L.length*(20004+9*(m+1)):=λL hL=>by
   obtain⟨v,c,rfl⟩:=nN hL;exact⟨v,pk m V.part⟩
  have htot:((j9 x (12-m) l).flatMap (fp x m)).length<=60000*(20004+9*(m+1)+9):=by
   have X:=He hML;have o:=xm x (12-m) l;exact aO X (cD _ a4)
  have hm20:20004+9*(m+1)+9<=20200:=a4
  have Z:((j9 x (12-m) l).flatMap (fp x m)).length<=60000*20200:=aO htot (Nat.mul_le_mul_left _ hm20);have U:∀c,c<=32->((fm (λj=>iu (q j)) c).flatMap (fp x m)).length<=60000*20200:=λc hc=>by
   obtain⟨r,hr⟩:=abV (λj=>iu (q j)) hc
   have:((fm (λj=>iu (q j)) 32).flatMap (fp x m)).length<=60000*20200:=by rw[hq];exact Z
   rw[hr,bI,ae]at this;omega
  refine ez (λ(c:Nat) (t:Int×Int×fD×fD×Int×Int) h'=>t.1=((jA (λj=>(iP (q j)).isSome) c:Nat):Int)/\t.2.1=((jA (λj=>(iu (q j)).isSome) c:Nat):Int)/\t.2.2.2.2.1=((2^c%4294967296:Nat):Int)/\t.2.2.2.2.2=(c:Int)/\c<=32/\
   TwoB h.size h'.size h' t.2.2.1 t.2.2.2.1 (fm (λj=>iP (q j)) c) ((fm (λj=>iu (q j)) c).flatMap (fp x m))/\Upd No h h') (λc=>32-c) 0 ⟨rfl,rfl,rfl,rfl,a4,⟨No,No,OwnS.nil fP,OwnS.nil uH,λ_ h=>h.elim,λ_ h=>h.elim⟩,eM _ _⟩ ?_
  rintro I c ⟨dt,nt,sl,sk,bt,ct⟩ h' ⟨e1,e2,e3,e4,hc32,hT,hu⟩ hI;(try simp only at e1 e2 e3 e4 hT)
  subst e1 e2 e3 e4;have s0:=hu.size;have wide:∀{X o:ad},Upd No h X->Upd (λb=>h.size<=b) X o->Upd No h o:=λa k=>a.trans k λy d=>.inr d
  refine ar (λz=>?_) λhge=>?_
  .have z:c<32:=by have:(c:Int)<32:=z;omega
   have ec:(c:Int).toNat*1=c:=a4
   have ec2:(c:Int).toNat*2=c*2:=a4
   have hbd:=nf (λj=>(iP (q j)).isSome) c
   have hbn:=nf (λj=>(iu (q j)).isSome) c
   have hpw:2^c<=2^31:=Nat.pow_le_pow_right a4 a4;have T:2^c%4294967296=2^c:=Nat.mod_eq_of_lt a4;have vis:dF false ⟨none,0,0⟩ q kk (2+c)=.int .i64 (Sz (q c)):=by rw[UH a4 a4,show 2+c-2=c by omega]
   refine eF (λ(t:Int×fD) o=>t.1=((jA (λj=>(iP (q j)).isSome) (c+1):Nat):Int)/\TwoB h.size o.size o t.2 sk (fm (λj=>iP (q j)) (c+1)) ((fm (λj=>iu (q j)) c).flatMap (fp x m))/\Upd No h o) (λR hR=>?_) ?_
   .refine⟨_,rfl,⟨by(try simp only);omega,by(try simp only);omega⟩,Sz (q c),?_,?_⟩
    .simp only[ec];rw[g hu a4,vis]
    rw[aam];have F:jA (λj=>(iP (q j)).isSome) (c+1)=jA (λj=>(iP (q j)).isSome) c+(if(iP (q c)).isSome then 2^c else 0):=rfl
    cases hso:iP (q c)with
    |none=>
     rw[hso]at F;refine ag.2 (hR _ _ ⟨by rw[F];rfl,?_,hu⟩);rw[jN,hso];simpa using hT
    |some p=>
     rw[hso]at F;have ep:E0 (iP (q c))=p:=by rw[hso];rfl
     refine ay.2 ⟨_,rfl,⟨by(try simp only);omega,by(try simp only);omega⟩,p.1,?_,p.2,?_,aQ λo b2 e=>⟨_,oY b2,?_⟩⟩
     .simp only[ec2];rw[bZ,bZ,bZ,bw (hu.get0 hb),aU,Je a4,P8 a4 a4 a4,show(34+c*2+0-34)/2=c by omega,ep]
     .simp only[ec2];rw[bZ,bZ,bZ,bw (hu.get0 hb),aU,Je a4,P6 a4 a4 a4,show(34+c*2+1-34)/2=c by omega,ep]
     .have s2:=e.size
      have hl:=E2 (λj=>iP (q j)) c
      refine(hT.upd0 e).appP (p:=p) s0 s2 a4 rfl λs3 v G Q=>hR _ _ ⟨?_,?_,wide (hu.tr e) Q⟩
      .rw[F,T]
       simp only[pB,if_true];rw[rp];omega
      .rw[jN,hso];exact G
   rintro⟨dt,sl2⟩ o ⟨rfl,Y,u2⟩;(try simp only at Y⊢)
   have s2:=u2.size;refine eF (λ(t:Int×fD) v=>t.1=((jA (λj=>(iu (q j)).isSome) (c+1):Nat):Int)/\TwoB h.size v.size v sl2 t.2 (fm (λj=>iP (q j)) (c+1)) ((fm (λj=>iu (q j)) (c+1)).flatMap (fp x m))/\Upd No h v) (λR hR=>?_) ?_
   .refine⟨_,rfl,⟨a4,a4⟩,Sz (q c),?_,?_⟩
    .rw[ec,g u2 a4,vis]
    rw[aal];have F:jA (λj=>(iu (q j)).isSome) (c+1)=jA (λj=>(iu (q j)).isSome) c+(if(iu (q c)).isSome then 2^c else 0):=rfl
    cases hma:iu (q c)with
    |none=>
     rw[hma]at F;refine ag.2 (hR _ _ ⟨by rw[F];rfl,?_,u2⟩);rw[jN (λj=>iu (q j)),hma];simpa using Y
    |some L=>
     rw[hma]at F;have hL2:2<=(q c).length/\L=q c:=by
      unfold iu at hma;by_cases o:2<=(q c).length
      .rw[if_pos o]at hma;exact⟨o,(bO.inj hma).symm⟩
      .rw[if_neg o]at hma;cases hma
     obtain⟨h2l,rfl⟩:=hL2;refine ay.2 (ar (λ_=>?_) λhx=>absurd (show((12-m:Nat):Int)<13 by omega) hx)
     obtain⟨kb,hkb,td⟩:=hkid c z (by rw[E];exact h2l);rw[E]at td;have hpt:(q c).length<=l.length:=by rw[<-E];exact jw
     have hpf:Fit (q c):=by rw[<-E];exact V.part
     have e14:ac .i64 (((12-m:Nat):Int)+1)=((13-m:Nat):Int):=by rw[dI a4];omega
     refine⟨_,rfl,⟨a4,a4⟩,some ⟨kb,0,none⟩,?_,?_⟩
     .rw[ec,g u2 a4,P7 a4,show 98+c-98=c by omega,hkb]
     rw[e14];refine ih a4 (DTrie.upd u2 (λ_ h=>h.elim) td) hpf a4 λs4 h4 s f=>?_
     have H:=f.size;have hpr:=U (c+1) a4;rw[jN,hma,bI,ae]at hpr;simp only[Option.toList_some,aL,gk,aX]at hpr;refine(Y.upd0 f).appB s2 H (s.sl (W:=No) λ_ _ _ h=>h) a4 λs5 O hT5 J=>hR _ _ ⟨?_,?_,wide (u2.tr f) J⟩
     .rw[F,T]
      simp only[pB,if_true];rw[rp];omega
     .rw[jN (λj=>iu (q j)),hma,bI]
      simpa using hT5
   rintro⟨nt,sk2⟩ v ⟨rfl,G,u⟩;(try simp only at G⊢)
   rw[bN z a4,Xv];exact hI (c+1) _ _ ⟨rfl,rfl,rfl,rfl,z,G,u⟩ a4
  .obtain rfl:c=32:=by have:¬(c:Int)<32:=hge;omega
   have e1:fp x (m+1) l= [0]++mY (jA (λj=>(iP (q j)).isSome) 32) 4++mY (jA (λj=>(iu (q j)).isSome) 32) 4++kR (fm (λj=>iP (q j)) 32)++(fm (λj=>iu (q j)) 32).flatMap (fp x m):=by
    rw[hq];unfold fp;simp[iV,j9]
   rw[e1]at hk;have hD:=nf (λj=>(iP (q j)).isSome) 32
   have hN:=nf (λj=>(iu (q j)).isSome) 32
   have hsf:Fit (fm (λj=>iP (q j)) 32):=λp hp=>V p (qP (x:=x) (lev:=12-m) (by unfold iV;rw[hq]at hp;exact hp))
   have hsl:=E2 (λj=>iP (q j)) 32
   have hps:=mS hsf;have hpr:=U 32 (aj _);obtain⟨M,N,o1,o2,hMb,hNb⟩:=hT;generalize jA (λj=>(iP (q j)).isSome) 32=D at*
   generalize jA (λj=>(iu (q j)).isSome) 32=N' at*
   generalize fm (λj=>iP (q j)) 32=S at*
   generalize (fm (λj=>iu (q j)) 32).flatMap (fp x m)=B at*
   have hsS:Sl dT 2 No h' sl S:=o1.sl λ_ _ _ h=>h
   have hsB:Sl pJ 1 No h' sk B:=o2.sl λ_ _ _ h=>h
   refine eQ (aQ λX b1 k1=>?_)
   (try simp only)
   have ob:=AI (b:=0) b1;refine Ph a4 λs2 o w e=>?_
   have s1:=k1.size;have s2':=e.size;refine zW (M:=λy=>h'.size<=y) (ob.upd e λ_ _ h=>h) (w.sl (W:=No) λ_ _ _ h=>h) (λy d=>by show h'.size<=y;omega) (by rw[dz];simp) λs3 v C Q=>?_
   have s3':=Q.size;refine eQ (Ph a4 λs4 h4 s f=>?_)
   have H:=f.size;refine zW (M:=λy=>h'.size<=y) (C.upd f λ_ _ h=>h) (s.sl (W:=No) λ_ _ _ h=>h) (λy d=>by show h'.size<=y;omega) (by rw[ae,dz,dz];simp) λs5 O A J=>?_
   have s5':=J.size;have P:Upd No h' O:=(((k1.tr e).trans Q λy d=>.inr d).tr f).trans J λy d=>.inr d
   refine eQ (EN (hsS.upd P λ_ h=>h.elim) hsf a4 λs6 h6 ho6 k6=>?_)
   have s6':=k6.size;refine zW (M:=λy=>h'.size<=y) (A.upd k6 λ_ _ h=>h) (ho6.sl (W:=No) λ_ _ _ h=>h) (λy d=>by show h'.size<=y;omega) (by rw[ae,ae,dz,dz];simp;omega) λs7 h7 ho7 k7=>?_
   have u7:Upd No h' h7:=(P.tr k6).trans k7 λy d=>.inr d
   refine zW (M:=λy=>h'.size<=y) ho7 (hsB.upd u7 λ_ h=>h.elim) (λy d=>by have:=u7.size;show h'.size<=y;omega) (by rw[ae,ae,ae,dz,dz];simp;omega) λs8 h8 ho8 k8=>?_
   refine hk s8 h8 (ho8.more λy d=>by show h.size<=y;omega) ((hu.tr u7).trans k8 λy d=>.inr a4)
theorem Vd{l:bY}{xs:c5}(hv:Mq kind x l xs)(a:Fit l)(d:l.length<=60000):xs.length<=100000000000:=by
 rcases hv with⟨_,rfl⟩|⟨_,ys,b,rfl⟩
 .have c:=pk (x:=x) 13 a
  have e:l.length*(20004+9*(13+1))<=60000*(20004+9*(13+1)):=cD _ d;rw[av];omega
 .have c:=CU b a
  rw[av];omega
theorem Vr{W:dx}{h:ad}{r:Rt}{l:bY}(H:kind=0\/kind=1)(i:RefIs W h kind x r l)(U:bS l)(k:Fit l)(u:l.length<=60000)
  (L:∀s' h' xs,OwnS pJ 1 5 (λy=>h.size<=y) h' s' xs->Mq kind x l xs->Upd No h h'->K s' h'):ce 56 [Vl r] K h:=by
 refine dg (Gt r) .nil Tryz.func56 Tryz.call56 ?_;dsimp only[Gt,bh,zh,dK,jV,AV,ge,wQ,qE];obtain⟨s,rfl,B,hc⟩:=i;have B:=B.less (W':=No) λ_ h=>h.elim
 refine aQ λz b1 k1=>⟨_,vc b1 0,?_⟩
 have A:=k1.size;rcases H with rfl|rfl
 .refine ag.2 (aQ λR b3 a=>⟨_,iq (a.get0 b1) 1 0,_,iq (a.get0 b1) 1 1,_,iq (a.get0 b1) 1 2,s,vc (a.get0 b1) 4,?_⟩)
  have C:=AI (b:=0) b3;have o:=k1.tr a;have V:∀v,hx 0 v=v:=λv=>if_pos rfl
  simp only[V];refine Xo (x:=x) (B.upd o λ_ h=>h.elim) u (λp E=>by have:=k p E;omega) λX b P f=>?_
  have Q:=a.size;have N:=f.size;refine ZY 13 (aj _) P k u λO S j e=>?_
  have D:=e.size;have q:=pk (x:=x) 13 k;have Z:l.length*(20004+9*(13+1))<=60000*(20004+9*(13+1)):=cD _ u;refine zW (M:=λy=>z.size<=y) ((C.upd f λ_ _ h=>h).upd e λ_ _ h=>h) (j.sl (W:=No) λ_ _ _ h=>h) (λy c=>by show z.size<=y;omega) a9 λG J d I=>?_
  exact L G J _ (d.more λy c=>aO A c) (.inl ⟨rfl,rfl⟩) (((o.tr f).tr e).trans I λy c=>.inr (aO A c))
 .refine ay.2 (aQ λR b3 a=>⟨s,vc (a.get0 b1) 4,?_⟩)
  have C:=AI (b:=1) b3;have o:=k1.tr a;refine ZW (B.upd o λ_ h=>h.elim) hc U u (λp E=>by have:=k p E;have:=Sw p.1;show(ky p).length<=_;unfold ky;omega) λX b w F Y g t f=>?_
  have Q:=a.size;have N:=f.size;obtain⟨m,T⟩:=zJ g t k;have n:Ti l (iQ ([],w,F)):=⟨w,F,g,t,rfl⟩;have q:=CU n k;refine UF (lab:= []) a6 T (kh g) (Jd m) Y rfl a4 λO S j e=>?_
  have D:=e.size;refine zW (M:=λy=>z.size<=y) ((C.upd f λ_ _ h=>h).upd e λ_ _ h=>h) (j.sl (W:=No) λ_ _ _ h=>h) (λy c=>by show z.size<=y;omega) a9 λG J d I=>?_
  exact L G J _ (d.more λy c=>aO A c) (.inr ⟨rfl,_,n,rfl⟩) (((o.tr f).tr e).trans I λy c=>.inr (aO A c))
theorem acU{h:ad}{t:TypeId}{c:Cf}{k:dO}(d:∀h',h'[h.size]? =some (.cells (vu c).toArray t (0,0))->Upd No h h'->k h'):
  At (hnew h (vu Zn) t) λb=>qV b (some (aR h)) 0 (vu c)/\At (fS b (aR h) 0 (vu c)) k:=
 aQ λ_ b1 k1=>co (c:=vu Zn) (vs:=vu c) b1 rfl λe b2 a=>d e b2 (k1.own a (aj _))
theorem VE(a:p<0\/3<p):FX p=⟨#[]⟩:=by
 unfold FX;rw[if_neg a4,if_neg a4,if_neg a4,if_neg a4]
theorem VK{W W':dx}{h h':ad}{c:Hs}{l l':bY}(i:TreeIs W h kind x t l)(d:TreeIs W' h' a c u l')(e:kS t u=true):a=kind/\(kind=0->c=x):=by
 rcases i with⟨rfl,b,rfl,_⟩|⟨rfl,b,rfl,_⟩<;>rcases d with⟨rfl,b',rfl,_⟩|⟨rfl,b',rfl,_⟩
 .refine⟨rfl,λ_=>?_⟩
  cases x;cases c;simp[kS]at e;simp[e.1.1,e.1.2,e.2]
 .simp[kS]at e
 .simp[kS]at e
 .exact⟨rfl,λh=>by cases h⟩
theorem TreeIs.turn{W:dx}{h:ad}{d:Hs}{l:bY}(i:TreeIs W h a d u l)(e:a=kind/\(kind=0->d=x)):TreeIs W h kind x u l:=by
 obtain⟨rfl,e⟩:=e;rcases i with⟨f,b,c,t⟩|⟨g,b,c,t⟩
 .rw[<-e f];exact .inl ⟨f,b,c,t⟩
 .exact .inr ⟨g,b,c,t⟩
theorem RefIs.turn{W:dx}{h:ad}{f:Hs}{r:Rt}{l:bY}(b:kind=0\/kind=1)(i:RefIs W h a f r l)(e:a=kind/\(kind=0->f=x)):RefIs W h kind x r l:=by
 obtain⟨rfl,e⟩:=e;obtain⟨s,d,c⟩:=i;rcases b with rfl|rfl
 .rw[<-e rfl];exact⟨s,d,c⟩
 .exact⟨s,d,c⟩
theorem TZ{h:ad}{B:Bi}(m:MapAt kStr PR h r B)(n:c6){K:Int->dO}(b:(bK B n).isSome=true->∀h',Upd (· =r) h h'->MapAt kStr PR h' r (lA B n)->K 0 h')(a:(bK B n).isSome=false->K 4 h):fK 72 [.map (some r),.string n] K h:=by
 refine dg (r9 (some r) n) .nil Tryz.func72 Tryz.call72 ?_;dsimp only[r9,Qm];refine⟨_,_,m.get n 0,eh (λe=>a (by simpa using e)) λe=>.inr ⟨r,rfl,m.isMap,?_⟩⟩
 exact b (by simpa using e) _ (xj (M:=(· =r)) h (.string n) rfl) (m.del n)
section
variable {W:dx} {h h':ad} {vp:Nat} {s:VS} {n:c6} {id:Int} {l:Bi}
theorem VaultAt.setG{G:Bi}(v:VaultAt W h vp s)(k:Upd (· =s.nm) h h')(b:MapAt kStr PR h' s.nm G):VaultAt W h' vp {s with G:=G}:=by
 obtain⟨n,t,q,g,m,p,j,o,i,c⟩:=VS.neB v.ne;have f:∀b,b=s.nm->W b:=λb e=>v.w b (.inr (.inr (.inr (.inr e))))
 exact v.turn k (λb e=>.inl (f b e)) (v.g.upd k λb e=>.inl ⟨f b e,λa=>g (a.symm.trans e),λa=>j (a.symm.trans e)⟩) (v.t.upd k i) (v.b.upd k c) b (λd hd=>.inl hd) v.sub v.inv
theorem Q9(v:VaultAt W h vp s){K:Int->dO}(b:(bK s.B n).isSome=true->∀h',Upd (· =s.bm) h h'->VaultAt W h' vp {s with B:=lA s.B n}->K 0 h')(a:(bK s.B n).isSome=false->K 4 h):fK 27 [pV vp,.string n] K h:=by
 refine dg (se (some ⟨vp,0,none⟩) n) .nil Tryz.func27 Tryz.call27 ?_;dsimp only[se,cz,cJ];exact ag.2 ⟨_,rfl,_,vc v.blk 8,TZ v.b n (λe h' k m=>b e h' k (v.setB k m)) a⟩
theorem U8(v:VaultAt W h vp s){K:Int->dO}(b:(bK s.G n).isSome=true->∀h',Upd (· =s.nm) h h'->VaultAt W h' vp {s with G:=lA s.G n}->K 0 h')(a:(bK s.G n).isSome=false->K 4 h):fK 31 [pV vp,.string n] K h:=by
 refine dg (tD (some ⟨vp,0,none⟩) n) .nil Tryz.func31 Tryz.call31 ?_;dsimp only[tD,cz,cJ];exact ag.2 ⟨_,rfl,_,vc v.blk 9,TZ v.n n (λe h' k m=>b e h' k (v.setG k m)) a⟩
theorem ZA(v:VaultAt W h vp s){K:Int->dO}
  (b:∀h',Upd (· =s.nm) h h'->VaultAt W h' vp {s with G:=if mF s.G s.L n id (id==0)=0 then lU s.G n id else s.G}->K (mF s.G s.L n id (id==0)) h'):fK 29 [pV vp,.string n,.int .u32 id] K h:=by
 refine dg (vQ (some ⟨vp,0,none⟩) n id) .nil Tryz.func29 Tryz.call29 ?_;dsimp only[vQ,cz,cJ];exact ag.2 ⟨_,rfl,_,vc v.blk 9,UT v v.n n id (id==0) λh' a m=>b h' a (v.setG a m)⟩
theorem Dh{B:Bi}(m:MapAt kStr PR h r B)(q:NmR B l)(b:l.length<=1000)(a:∀h' s,OwnS yd 2 48 (λy=>h.size<=y) h' s l->Upd No h h'->K s h'):ce 40 [.map (some r)] K h:=
 aaf m (by have:=q.pm.length_eq;omega) λh' s ys o p w k=>a h' s (q.list p w▸o) k
theorem MX(v:VaultAt W h vp s)(q:NmR s.B l)(a:l.length<=1000)(b:∀h' s',OwnS yd 2 48 (λy=>h.size<=y) h' s' l->Upd No h h'->K s' h'):ce 11 [pV vp] K h:=by
 refine dg (qe (some ⟨vp,0,none⟩)) .nil Tryz.func11 Tryz.call11 ?_;dsimp only[qe,cz,cJ];exact ag.2 ⟨_,rfl,_,vc v.blk 8,Dh v.b q a b⟩
theorem WU(v:VaultAt W h vp s)(q:NmR s.G l)(a:l.length<=1000)(b:∀h' s',OwnS yd 2 48 (λy=>h.size<=y) h' s' l->Upd No h h'->K s' h'):ce 12 [pV vp] K h:=by
 refine dg (uQ (some ⟨vp,0,none⟩)) .nil Tryz.func12 Tryz.call12 ?_;dsimp only[uQ,cz,cJ];exact ag.2 ⟨_,rfl,_,vc v.blk 9,Dh v.n q a b⟩
theorem OJ(v:VaultAt W h vp s)(hb:bK s.B n=none){K:Int×Int->dO}(a:∀h',Upd No h h'->K (0,4) h'):Hv 23 [pV vp,.string n,Ap t] K h:=by
 refine ni (some ⟨vp,0,none⟩) n t ?_;dsimp only[ki,rx,cO,pW,my,bh,ao,aE,cJ,yz,tx,ge,kH,rC,sL];refine aQ λb b1 k1=>ir (v.upd0 k1) n ?_
 rw[hb];exact ay.2 (a b k1)
theorem OK(v:VaultAt W h vp s){hd:Int}(hb:bK s.B n=some hd)(c:kS t s.e=false){K:Int×Int->dO}(d:∀h',Upd No h h'->K (0,11) h'):Hv 23 [pV vp,.string n,Ap t] K h:=by
 refine ni (some ⟨vp,0,none⟩) n t ?_;dsimp only[ki,rx,cO,pW,my,bh,ao,aE,cJ,yz,tx,ge,kH,rC,sL];refine aQ λe b1 k1=>ir (v.upd0 k1) n ?_
 rw[hb];refine ag.2 ⟨_,vc b1 0,_,vc b1 1,_,vc b1 2,_,vc b1 3,_,vc b1 4,_,vc b1 5,_,rfl,?_⟩;have c1:=k1.get0 v.blk;refine⟨_,iq c1 0 0,_,iq c1 0 1,_,iq c1 0 2,_,iq c1 0 3,_,iq c1 0 4,_,iq c1 0 5,xk (t:=t) (u:=s.e) λb a=>?_⟩
 rw[c];exact ay.2 (d b (k1.tr a))
theorem Kw(v:VaultAt W h vp s){K:Int->dO}(g:bK s.B n=none->∀h',Upd No h h'->K 4 h')(f:∀hd,bK s.B n=some hd->¬(id=0\/id∈eR s.L)->∀h',Upd No h h'->K 4 h')(c:∀hd,bK s.B n=some hd->(id=0\/id∈eR s.L)->¬(id=0\/UpG s.L hd id)->∀h',Upd No h h'->K 13 h')
  (j:∀hd,bK s.B n=some hd->(id=0\/id∈eR s.L)->(id=0\/UpG s.L hd id)->∀h',Upd s.M h h'->VaultAt W h' vp {s with B:=lU s.B n id}->K 0 h'):fK 33 [pV vp,.string n,.int .u32 id] K h:=by
 cases hb:bK s.B n with
 |none=>
  refine i5 (some ⟨vp,0,none⟩) n id ?_;dsimp only[gw,pW,vt,iC,GX,cz,cJ];refine ir v n ?_;rw[hb];exact eQ (ay.2 (ay.2 (g hb h (eM _ _))))
 |some hd=>
  by_cases hi:id=0\/id∈eR s.L
  .by_cases a:id=0\/UpG s.L hd id
   .exact MW v n hb hi a (j hd hb hi a)
   .refine i5 (some ⟨vp,0,none⟩) n id ?_
    dsimp only[gw,pW,vt,iC,GX,cz,cJ];refine ir v n ?_;rw[hb];refine eQ (ag.2 (Hc v id ?_));rw[decide_eq_true hi];refine ag.2 (uh v id hd λb i d k1=>?_)
    rw[show b=false from Bool.eq_false_iff.2 λe=>a (d.1 e)]
    exact ay.2 (c hd hb hi a i k1)
  .refine i5 (some ⟨vp,0,none⟩) n id ?_
   dsimp only[gw,pW,vt,iC,GX,cz,cJ];refine ir v n ?_;rw[hb];refine eQ (ag.2 (Hc v id ?_));rw[decide_eq_false hi];exact ay.2 (f hd hb hi h (eM _ _))
theorem HO(v:VaultAt W h vp s)(hb:bK s.B n=none\/bK s.B m=none){K:Int×fD×Int->dO}(a:K (0,⟨none,0,0⟩,4) h):XY 24 [pV vp,.string n,.string m,.int .i64 p] K h:=by
 refine kI (some ⟨vp,0,none⟩) n m p ?_;dsimp only[iW,cz,bh,ao,dE,nv,aE,Kk,uj,rC,rx,cO,pW,vt,Za,iC,xf,my,cJ,wU,GX];refine ir v n (ir v m (eQ ?_));rcases hb with hb|hb
 .rw[hb];exact ay.2 (ay.2 a)
 .rw[hb];exact eh (λ_=>ay.2 a) λ_=>ay.2 a
theorem Rb(v:VaultAt W h vp s){b:Int}(d:bK s.B n=some a)(hb:bK s.B m=some b)(c:p<0\/3<p){K:Int×fD×Int->dO}(e:K (0,⟨none,0,0⟩,1) h):XY 24 [pV vp,.string n,.string m,.int .i64 p] K h:=by
 refine kI (some ⟨vp,0,none⟩) n m p ?_;dsimp only[iW,cz,bh,ao,dE,nv,aE,Kk,uj,rC,rx,cO,pW,vt,Za,iC,xf,my,cJ,wU,GX];refine ir v n (ir v m (eQ ?_));rw[d,hb];refine ag.2 (ag.2 (Df ?_));rw[VE c,dZ,decide_eq_true rfl];exact ay.2 e
set_option maxHeartbeats 1000000 in
theorem Va(v:VaultAt W h vp s){lB lT:Bi}(qB:NmR s.B lB)(qT:NmR s.G lT)(hB:lB.length<=300)(hT:lT.length<=300)
  (U:∀h' s' (st:List Int),(∀y,y∈st↔∃k∈(lB++lT).map (·.2),UpG s.L k y)->OwnS u32 1 31 (λb=>h.size<=b) h' s' ((eR s.L).filter λy=> !decide (y∈st))->VaultAt W h' vp {s with L:=s.L.filter λv=>decide (v.1∈st),D:=s.D.filter λv=>decide (v.1∈st)}->Upd s.M h h'->K s' h'):
  ce 9 [pV vp] K h:=by
 refine dg (tE (some ⟨vp,0,none⟩)) AZ Tryz.func9 Tryz.call9 ?_;dsimp only[tE,cz,ff,nv,cO,uk,Ev,y7,vK,fj,cJ,G6,ey,cM,jX,sL];refine ag.2 (eQ ⟨_,rfl,_,vc v.blk 8,_,rfl,_,vc v.blk 9,Dh v.b qB a4 λh7 s6 o6 V=>⟨vc (v.upd0 V).blk 9,Dh (v.upd0 V).n qT a4 λh9 s8 o8 Y=>?_⟩⟩)
 have s7:=V.size;have N:=V.tr Y;have adV:=N.size;have s9:=Y.size;have hlt:∀y,W y->y<h.size:=v.g.lt;refine N4 (o6.upd Y λ_ _ h=>h) (c:=s8.cap) (o8.sl (W:=No) λ_ _ _ h=>h) a4 a4 λs11 G o12 X=>?_
 have R:Upd No h G:=N.fresh X λy q=>q
 have s12:=R.size;refine Ut (nt:=48) (o12.sl (W:=λy=>G.size<=y) λb _ E hge=>a4) a9 λh17 s' o17 k17=>?_
 have z:=R.tr k17;have o:=v.upd0 z;have s017:=z.size;refine⟨_,rfl,_,vc o.blk 6,X5 o.g o.inv.good (o17.sl (W:=W) λb hb _ Q=>by have:=hlt b Q;omega) a9 λs34 h34 st O A Z u=>?_⟩
 have s34':=u.size;obtain⟨n1,n2,n3,n4,n5,n6,n7,n8,n9,n10⟩:=VS.neB v.ne;have B:∀y,y≠s.gp->y≠s.gm->¬Cl s.gp s.gm y:=λy J F h=>h.elim J F
 have P:∀y,s.M y->vp≠y:=λy q e=>v.wv (e▸v.w y q)
 have T:∀y,s.M y->y<h.size:=λy q=>v.size q
 have t34:=o.t.upd u (B _ n2.symm n5.symm);have b34:=o.b.upd u (B _ n3.symm n6.symm);have q34:=o.n.upd u (B _ n4.symm n7.symm);have c34:=u.get o.blk λhm=>P _ (VS.mG hm) rfl
 obtain⟨f,eg⟩:∃g,g=(eR s.L).filter λy=> !decide (y∈st):=⟨_,rfl⟩
 have U:=λh' s'=>U h' s' st
 rw[<-eg]at A U;have lo:=A.len;have fw:=v.inv.few;have lg:f.length<=100000:=by
  rw[eg];exact aO (List.length_filter_le ..) (by rw[List.length_map];omega)
 refine ez (λ(i:Nat) (t:Int) h'=>t=(i:Int)/\i<=f.length/\MapAt KE acF h' s.tm (s.D.filter λp=> !decide (p.1∈f.take i))/\Upd (· =s.tm) h34 h') (λi=>f.length-i) 0 ⟨rfl,aJ _,by rw[List.filter_eq_self.2 a6];exact t34,eM _ _⟩ ?_
 rintro I i t H ⟨rfl,hi,x,m⟩ hI;refine ar (λE=>?_) λhge=>?_
 .have E:i<f.length:=by omega
  have C:=A.upd m λy q e=>by have e:y=s.tm:=e;have:=T s.tm (.inr (.inr (.inl rfl)));omega
  obtain⟨a,ha,_,hx⟩:=Nums.at (C.sl (W:=No) λ_ _ _ h=>h) E
  refine eQ ⟨⟨a4,a4⟩,a,ha,_,hx,_,rfl,_,vc (m.get c34 λe=>P _ (.inr (.inr (.inl e))) rfl) 7,.inr ⟨_,rfl,x.isMap,?_⟩⟩
  rw[bN (n:=f.length) E a4];refine hI (i+1) _ _ ⟨rfl,E,?_,m.tr (xj _ _ rfl)⟩ a4;have:=x.del f[i];unfold lA at this;rw[List.filter_filter]at this;have e2:∀p∈s.D,(decide (p.1≠f[i])&& !decide (p.1∈f.take i))= !decide (p.1∈f.take (i+1)):=λp _=>by
   rw[ax E];rw[Bool.eq_iff_iff];simp only[Bool.and_eq_true,decide_eq_true_eq,Bool.not_eq_true',decide_eq_false_iff_not,aN,az,not_or,ne_eq];exact And.comm
  rw[fI e2]at this;exact this
 .have:i=f.length:=by omega
  subst this;rw[bG]at x;have eD:(s.D.filter λp=> !decide (p.1∈f))=s.D.filter λv=>decide (v.1∈st):=by
   refine fI λp S=>?_
   have hm:p.1∈eR s.L:=(v.sub _).1 (be.2 ⟨p,S,rfl⟩);rw[eg];by_cases e:p.1∈st<;>simp[e,hm]
  rw[eD]at x;have uM:Upd s.M h17 H:=(u.mono λy q=>.inl (VS.mG q)).tr (m.mono λy q=>.inl (.inr (.inr (.inl q))))
  have C:=A.upd m λy q e=>by have e:y=s.tm:=e;have:=T s.tm (.inr (.inr (.inl rfl)));omega
  refine U H s34 O (C.more λy q=>a4) (o.turn uM (λy q=>.inl (v.w y q)) (Z.upd m λb e=>.inl ⟨by have e:b=s.tm:=e;exact e▸v.w _ (.inr (.inr (.inl rfl))),λe'=>n2 (e'.symm.trans e),λe'=>n5 (e'.symm.trans e)⟩) x (b34.upd m λe=>n8 e.symm) (q34.upd m λe=>n9 e.symm) (λd hd=>.inl (bV.1 hd).1) (λj=>?_) (v.inv.drop O)) (z.wide.tr uM)
  constructor
  .intro hj
   obtain⟨p,S,rfl⟩:=be.1 hj;obtain⟨J,F⟩:=bV.1 S;obtain⟨w,Q,e⟩:=be.1 ((v.sub _).1 (be.2 ⟨p,J,rfl⟩));exact be.2 ⟨w,bV.2 ⟨Q,by rw[e];exact F⟩,e⟩
  .intro hj
   obtain⟨w,Q,rfl⟩:=be.1 hj;obtain⟨J,F⟩:=bV.1 Q;obtain⟨p,S,e⟩:=be.1 ((v.sub _).2 (be.2 ⟨w,J,rfl⟩));exact be.2 ⟨p,bV.2 ⟨S,by rw[e];exact F⟩,e⟩
end
end Go.Proofs
set_option maxRecDepth 100000
namespace Go.Proofs
open Go.Lift
section
open Go.Shelf
def ad0:Ren:=⟨λn=>bif aS n 6 then 186 else bif aS n 14 then 258 else bif aS n 15 then 140 else bif aS n 20 then 293 else bif aS n 21 then 294 else bif aS n 22 then 295 else bif aS n 23 then 296 else bif aS n 24 then 297 else bif aS n 25 then 298 else bif aS n 26 then 299 else bif aS n 27 then 300 else bif aS n 28 then 203 else bif aS n 29 then 204 else bif aS n 46 then 314 else bif aS n 47 then 267 else bif aS n 48 then 268 else bif aS n 49 then 315 else bif aS n 50 then 316 else bif aS n 57 then 326 else 0,
 λn=>bif aS n 0 then 0 else bif aS n 3 then 3 else bif aS n 4 then 4 else bif aS n 5 then 5 else bif aS n 9 then 9 else bif aS n 22 then 205 else bif aS n 24 then 209 else bif aS n 25 then 291 else bif aS n 39 then 231 else bif aS n 45 then 300 else bif aS n 46 then 301 else bif aS n 50 then 267 else bif aS n 53 then 31 else bif aS n 55 then 22 else bif aS n 66 then 358 else bif aS n 70 then 362 else bif aS n 76 then 389 else bif aS n 77 then 390 else 0,
 λ_=>0⟩
theorem xt:SlLaysF0.n6 PG ad0:=by
 constructor
 .kernel_rfl
 .exact⟨"slices.SortFunc[[]quickset/diff.Change,quickset/diff.Change]",a8,a5⟩
 .exact⟨"slices.pdqsortCmpFunc[quickset/diff.Change]",a8,a5⟩
 .kernel_rfl
 .exact⟨"slices.insertionSortCmpFunc[quickset/diff.Change]",a8,a5⟩
 .exact⟨"slices.heapSortCmpFunc[quickset/diff.Change]",a8,a5⟩
 .exact⟨"slices.breakPatternsCmpFunc[quickset/diff.Change]",a8,a5⟩
 .exact⟨"slices.choosePivotCmpFunc[quickset/diff.Change]",a8,a5⟩
 .exact⟨"slices.reverseRangeCmpFunc[quickset/diff.Change]",a8,a5⟩
 .exact⟨"slices.partialInsertionSortCmpFunc[quickset/diff.Change]",a8,a5⟩
 .exact⟨"slices.partitionEqualCmpFunc[quickset/diff.Change]",a8,a5⟩
 .exact⟨"slices.partitionCmpFunc[quickset/diff.Change]",a8,a5⟩
 .kernel_rfl
 .kernel_rfl
 .exact⟨"slices.siftDownCmpFunc[quickset/diff.Change]",a8,a5⟩
 .kernel_rfl
 .kernel_rfl
 .exact⟨"slices.medianAdjacentCmpFunc[quickset/diff.Change]",a8,a5⟩
 .exact⟨"slices.medianCmpFunc[quickset/diff.Change]",a8,a5⟩
 .exact⟨"slices.order2CmpFunc[quickset/diff.Change]",a8,a5⟩
 .kernel_rfl
 all_goals first|(intro w;kernel_rfl)|kernel_rfl
end
section
open Go.RowKit Go.Shelf Go.Sort
abbrev aaE(x y:Ch):Int:=xy x.1 y.1
set_option maxHeartbeats 1000000 in
theorem aaD(x y:Ch)(W:World):Calls PG 187 #[.agg #[.string x.1,.string x.2.1,.string x.2.2.1,.bool x.2.2.2.1,.bool x.2.2.2.2],.agg #[.string y.1,.string y.2.1,.string y.2.2.1,.bool y.2.2.2.1,.bool y.2.2.2.2]] W λe b=>e=.returned (.int .i64 (xy x.1 y.1))/\∃q os',b=grow (W.drewN q) os':=by
 have a:=λW'=>Mf x.1 y.1 W'
 change∀W',Calls PG 92 _ _ _ at a;generalize xy x.1 y.1=r at a⊢;go_enter Tryz.func187,Tryz.ntmps187
 go_wp2_with (go_at_call 92;refine(a _).mono ?_;rintro e b ⟨rfl,rfl⟩)
 go_ret
 exact⟨rfl,0,_,by rw[alloc_eq_grow,alloc_eq_grow,grow_grow];rfl⟩
theorem aae(x y:Ch):ltOf aaE x y=decide (kl x.1 y.1):=by
 unfold ltOf aaE xy;by_cases h:kl x.1 y.1
 .simp[h]
 .by_cases a:x.1=y.1<;>simp[h,a,bX]
theorem acI:SWO (ltOf aaE) where
 irrefl x:=by rw[aae];simpa using bX x.1
 trans x y z h1 h2:=by rw[aae]at*;simp at*;exact dX h1 h2
 ntrans x y z h1 h2:=by
  rw[aae]at*;simp at*;intro h;by_cases e:x.1=y.1
  .rw[e]at h;exact h2 h
  .exact h2 (dX (mf h1 e) h)
theorem W8{M:dx}{h:ad}{s:fD}{xs X:List Ch}(p:OwnS Km 5 209 M h s xs)(N:xs.Perm X)(D:Of X)(hn:xs.length<=1000000){K:Unit->dO}
  (J:∀h',OwnS Km 5 209 M h' s X->Upd M h h'->K () h'):dQ 186 [.slice s.a s.len s.cap,.func (.func 187) #[] #[]] K h:=by
 refine HC.shelf Tryz.call186 λw q=>?_
 have k:=p.len;rcases p.blk with h0|⟨b,L,P,hM,hb,hr⟩
 .have hx:xs= []:=List.length_eq_zero_iff.1 (by have:=p.cap;omega)
  subst hx;have e0:s.len=0:=k;rw[e0];refine(AnyF.slices_SortFunc_none xt s.a s.cap (.func (.func 187) #[] #[]) w).mono λe S o=>?_
  obtain⟨o,rfl⟩:=o;have I:X= []:=N.symm.eq_nil;subst I;exact⟨⟨rfl,rfl,rfl⟩,(),o,J _ (by rw[q];exact p) (by rw[q];exact eM _ _)⟩
 .rw[P,k]
  have hH:HoldsK Km 5 w b 0 xs.toArray:=p.holds hb q ((tP (f:=Km) (sz:=5) (λ_=>rfl) xs.toArray).trans a6)
  have lt:=bB hb;have c:=AnyQ.slices_SortFunc xt 5 (λw=>a5) (λw=>a5) Km (λ_=>rfl) (λx v hv=>by simp only[aw,List.not_mem_nil,or_false]at hv;rcases hv with rfl|rfl|rfl|rfl|rfl<;>rfl) aaE acI 187 #[] b 0 s.cap xs.toArray w Tryz.call187 (λm os dk Y x y=>aaD x y _) hH (by rw[q];exact lt) a9
  rw[show xs.toArray.size=xs.length by simp]at c
  refine Calls.mono c λe S o=>?_
  obtain⟨o,d,n,os,⟨g,_,u⟩,hS,rfl⟩:=o;have g:d.size=xs.length:=by simpa using g
  obtain⟨Q,U⟩:=p.row hb P hM hr q (n:=n) (os:=os) (F:=flatK Km 5 d) (ys:=d.toList) (tP (f:=Km) (sz:=5) (λ_=>rfl) d) (by simpa using g)
  have W:d.extract 0 xs.length=d:=by rw[<-g];exact Array.extract_size
  have Z:xs.toArray.extract 0 xs.length=xs.toArray:=a6
  rw[W,Z]at u;have O:d.toList.Perm X:=List.Perm.trans (by simpa using u) N;have ex:d.toList=X:=by
   refine List.Perm.eq_of_pairwise (le:=λa b:Ch=>¬kl b.1 a.1) (λa b hA R V T=>?_) (cp.2 λi j hi z C t=>?_) (D.imp λh h'=>bX _ (dX h h')) O
   .have e:a.1=b.1:=om λne=>V (mf T ne)
    have G:=O.mem_iff.1 hA;obtain⟨i,hi,E⟩:=bH G;obtain⟨j,z,H⟩:=bH R;rcases Nat.lt_trichotomy i j with h|h|h
    .have:=cp.1 D i j hi z h
     rw[E,H,e]at this;exact absurd this (bX _)
    .subst h;rw[<-E,<-H]
    .have:=cp.1 D j i z hi h
     rw[E,H,e]at this;exact absurd this (bX _)
   .have B:i<d.size:=by simpa using hi
    have A:j<d.size:=by simpa using z
    have:=hS i j (aJ _) C a4;rw[getElem!_pos d j A,getElem!_pos d i B,aae]at this;simp only[Array.getElem_toList]at t;simp[t]at this
  rw[ex]at Q;exact⟨⟨rfl,rfl,rfl⟩,(),o,J _ Q U⟩
end
section
variable {B l:Bi}{v:Int}{i:Nat}{r:c6×Int}
theorem ado{n m:Nat}{B T:bY}(b:Few n B)(a:Few m T)(j:n<=1000)(hm:m<=1000):ach B T:=λi g _ f c=>
 SX i g b.up b.fits (by have:=b.len;omega) a.up a.fits (by have:=a.len;omega) (λ_ {_ _ _ _ _} e _ d c=>W8 e d (BV b.up a.up) (by have:=d.length_eq;have:=tW b.up a.up;have:=b.len;have:=a.len;omega) c) f c
inductive Evo(s:VS):VS->Prop
 |names (B G:Bi):Evo s {s with B:=B,G:=G}
 |ver (n:c6) (d:TD) (ps:List Int):Evo s (y8 s n d ps).2
 |prune (st:List Int):Evo s {s with L:=s.L.filter λv=>decide (v.1∈st),D:=s.D.filter λv=>decide (v.1∈st)}
theorem Evo.same{s s':VS}(e:Evo s s'):s'.M=s.M/\s'.kind=s.kind/\s'.x=s.x:=by
 cases e with
 |names=>exact⟨rfl,rfl,rfl⟩
 |ver=>unfold y8;split<;>exact⟨rfl,rfl,rfl⟩
 |prune=>exact⟨rfl,rfl,rfl⟩
structure Dp(s:VS)(q:RS)(U:List c6)(n:Nat):Prop where
 eL:q.L=s.L
 en:q.nx=s.nx
 nb:NmR s.B q.B
 ng:NmR s.G q.T
 ed:∀p∈s.D,p∈q.D
 nd:(q.D.map (·.1)).Nodup
 lt:∀p∈q.D,p.1<s.nx
 kin:∀d∈q.D,Kin U d.2.2
 ul:U.length<=n
 dl:q.D.length<=n
 hb:∀p∈q.B,(p.2=0\/p.2∈eR s.L)/\p.1.size<=40
 ht:∀p∈q.T,(p.2=0\/p.2∈eR s.L)/\p.1.size<=40
 bl:q.B.length<=n
 tl:q.T.length<=n
section
variable {s:VS} {q:RS} {U V:List c6} {n m:Nat} {k:c6} {id:Int} {sl:fD}
theorem Dp.more(p:Dp s q U n)(h:n<=m):Dp s q U m:=⟨p.eL,p.en,p.nb,p.ng,p.ed,p.nd,p.lt,p.kin,aO p.ul h,aO p.dl h,p.hb,p.ht,aO p.bl h,aO p.tl h⟩
theorem Mp{L:dA}{no:Bool}(h:mF B L k id no=0):bK B k=none/\(id=0\/id∈eR L):=by
 unfold mF at h;split at h
 .cases h
 .split at h
  .cases h
  .split at h
   .cases h
   .rename_i h2 h3
    refine⟨by simpa using h2,?_⟩;by_cases a:id=0\/id∈eR L
    .exact a
    .rw[decide_eq_false a]at h3
     simp at h3
theorem NmR.miss(r:NmR B l)(h:bK B k=none):∀p∈l,p.1≠k:=λp a e=>by
 have:=(r.iff p.1 p.2).2 a;rw[e,h]at this;cases this
theorem NmR.hit(r:NmR B l)(h:bK B k=some v):∃i,∃hi:i<l.length,l[i].1=k/\l[i].2=v:=by
 obtain⟨i,hi,e⟩:=bH ((r.iff k v).1 h);exact⟨i,hi,by rw[e],by rw[e]⟩
theorem PQ:(Di l k id).length=l.length+1:=by
 conv=>rhs;rw[<-List.takeWhile_append_dropWhile (p:=λp:c6×Int=>bF p.1.toList k.toList) (l:=l)]
 unfold Di;simp only[ae,av];omega
theorem Dp.create(p:Dp s q U n)(d:k.size<=40):Dp {s with B:=if mF s.B s.L k id false=0 then lU s.B k id else s.B} {q with sB:=sl,B:=if mF s.B q.L k id false=0 then Di q.B k id else q.B} U (n+1):=by
 have a:=p.more (kq n);rw[p.eL];by_cases e:mF s.B s.L k id false=0
 .obtain⟨f,c⟩:=Mp e
  simp only[if_pos e];refine⟨rfl,p.en,p.nb.add (p.nb.miss f),p.ng,p.ed,p.nd,p.lt,p.kin,a.ul,a.dl,λr b=>?_,p.ht,by simp only[PQ];have:=p.bl;omega,a.tl⟩
  rcases Dc.1 b with rfl|b
  .exact⟨c,d⟩
  .exact p.hb r b
 .simp only[if_neg e]
  exact⟨rfl,p.en,p.nb,p.ng,p.ed,p.nd,p.lt,p.kin,a.ul,a.dl,p.hb,p.ht,a.bl,a.tl⟩
theorem Dp.tag(p:Dp s q U n)(d:k.size<=40):Dp {s with G:=if mF s.G s.L k id (id==0)=0 then lU s.G k id else s.G} {q with sT:=sl,T:=if mF s.G q.L k id (id==0)=0 then Di q.T k id else q.T} U (n+1):=by
 have a:=p.more (kq n);rw[p.eL];by_cases e:mF s.G s.L k id (id==0)=0
 .obtain⟨f,c⟩:=Mp e
  simp only[if_pos e];refine⟨rfl,p.en,p.nb,p.ng.add (p.ng.miss f),p.ed,p.nd,p.lt,p.kin,a.ul,a.dl,p.hb,λr b=>?_,a.bl,by simp only[PQ];have:=p.tl;omega⟩
  rcases Dc.1 b with rfl|b
  .exact⟨c,d⟩
  .exact p.ht r b
 .simp only[if_neg e]
  exact⟨rfl,p.en,p.nb,p.ng,p.ed,p.nd,p.lt,p.kin,a.ul,a.dl,p.hb,p.ht,a.bl,a.tl⟩
theorem Ul(h:r∈l.take i++l.drop (i+1)):r∈l:=(aN.1 h).elim List.mem_of_mem_take List.mem_of_mem_drop
theorem Dp.remove(p:Dp s q U n)(hi:i<q.B.length)(e:q.B[i].1=k):Dp {s with B:=lA s.B k} {q with sB:=sl,B:=q.B.take i++q.B.drop (i+1)} U (n+1):=by
 have a:=p.more (kq n);exact⟨p.eL,p.en,e▸p.nb.del hi,p.ng,p.ed,p.nd,p.lt,p.kin,a.ul,a.dl,λr b=>p.hb r (Ul b),p.ht,by have:=p.bl;simp;omega,a.tl⟩
theorem Dp.untag(p:Dp s q U n)(hi:i<q.T.length)(e:q.T[i].1=k):Dp {s with G:=lA s.G k} {q with sT:=sl,T:=q.T.take i++q.T.drop (i+1)} U (n+1):=by
 have a:=p.more (kq n);exact⟨p.eL,p.en,p.nb,e▸p.ng.del hi,p.ed,p.nd,p.lt,p.kin,a.ul,a.dl,p.hb,λr b=>p.ht r (Ul b),a.bl,by have:=p.tl;simp;omega⟩
theorem PD(hi:i<l.length)(h:r∈l.set i (l[i].1,v)):r=(l[i].1,v)\/r∈l:=(List.mem_or_eq_of_mem_set h).symm
theorem Dp.head(p:Dp s q U n)(hi:i<q.B.length)(e:q.B[i].1=k)(hv:id=0\/id∈eR s.L):Dp {s with B:=lU s.B k id} {q with sB:=sl,B:=q.B.set i (q.B[i].1,id)} U (n+1):=by
 have a:=p.more (kq n);refine⟨p.eL,p.en,e▸p.nb.set hi,p.ng,p.ed,p.nd,p.lt,p.kin,a.ul,a.dl,λr b=>?_,p.ht,by simp only[iT];exact a.bl,a.tl⟩
 rcases PD hi b with rfl|b
 .exact⟨hv,(p.hb _ (aF hi)).2⟩
 .exact p.hb r b
theorem Dp.prune(p:Dp s q U n){st:List Int}(c:∀y,y∈st↔∃k∈(q.B++q.T).map (·.2),UpG s.L k y):Dp {s with L:=s.L.filter λv=>decide (v.1∈st),D:=s.D.filter λv=>decide (v.1∈st)} {q with L:=q.L.filter λv=>decide (v.1∈st)} U (n+1):=by
 have b:=p.more (kq n);have keep:∀r∈q.B++q.T,(r.2=0\/r.2∈eR s.L)->r.2=0\/r.2∈eR (s.L.filter λv=>decide (v.1∈st)):=λr a hv=>hv.imp (λh=>h) λhv=>by
  obtain⟨v,hm,e⟩:=be.1 hv;refine be.2 ⟨v,bV.2 ⟨hm,?_⟩,e⟩;exact decide_eq_true ((c _).2 ⟨r.2,be.2 ⟨r,a,rfl⟩,by rw[e];exact .refl hv⟩)
 exact⟨by simp only[p.eL],p.en,p.nb,p.ng,λr a=>p.ed r (bV.1 a).1,p.nd,p.lt,p.kin,b.ul,b.dl,λr a=>⟨keep r (cx _ a) (p.hb r a).1,(p.hb r a).2⟩,λr a=>⟨keep r (cA _ a) (p.ht r a).1,(p.ht r a).2⟩,b.bl,b.tl⟩
theorem Dp.ver(p:Dp s q U n)(inv:Inv s.L s.nx)(hi:i<q.B.length)(e:q.B[i].1=k){d:TD}{ps:List Int}{r:Rt}{ts:fD}(hd:Kin V d.2)(o:∀y∈U,y∈V)(m:V.length<=n+1):Dp (y8 s k d ps).2 (zj q i hi d ps r ts sl) V (n+1):=by
 have f:=p.more (kq n);unfold y8 zj;rw[p.eL,p.en];have kin:∀d∈q.D,Kin V d.2.2:=λd hd=>(p.kin d hd).more o
 by_cases j:(gu s.L s.nx ps).1.2≠0
 .simp only[if_pos j]
  exact⟨p.eL,p.en,p.nb,p.ng,p.ed,p.nd,p.lt,kin,m,f.dl,p.hb,p.ht,f.bl,f.tl⟩
 .have u:(gu s.L s.nx ps).1.2=0:=Decidable.not_not.1 j
  have t:=E9 u;simp only[if_neg j];simp only[t];have w:s.nx∉eR s.L:=λhm=>by have:=(inv.pos _ hm).2;omega
  have g:∀v,(v=0\/v∈eR s.L)->v=0\/v∈eR (wN s.L s.nx ps):=λv h=>h.imp (λh=>h) λh=>insV_ids.mem_iff.2 (aA _ h)
  have hnew:s.nx∉q.D.map (·.1):=λhm=>by
   obtain⟨a,c,x⟩:=be.1 hm;have:=p.lt a c;omega
  refine⟨rfl,rfl,e▸p.nb.set hi,p.ng,λa c=>?_,?_,λa c=>?_,λa c=>?_,m,by have:=p.dl;simp;omega,λa c=>?_,λa c=>⟨g _ (p.ht a c).1,(p.ht a c).2⟩,by simp only[iT];exact f.bl,f.tl⟩
  .rcases Jr c with rfl|c
   .exact cA _ (az.2 rfl)
   .exact cx _ (p.ed a c)
  .rw[List.map_append,List.nodup_append]
   refine⟨p.nd,List.pairwise_singleton ..,λa c b hb=>?_⟩
   rw[List.map_singleton,az]at hb;subst hb;exactλe=>hnew (by rw[e]at c;exact c)
  .rcases aN.1 c with c|c
   .have:=p.lt a c;simp only;omega
   .rw[az.1 c];simp only;omega
  .rcases aN.1 c with c|c
   .exact kin a c
   .rw[az.1 c];exact hd
  .rcases PD hi c with rfl|c
   .exact⟨.inr (insV_ids.mem_iff.2 aq),(p.hb _ (aF hi)).2⟩
   .exact⟨g _ (p.hb a c).1,(p.hb a c).2⟩
end
end
section
variable {id:Int}{B:TD}
def DW(X:dx)(s:VS)(b a:Nat)(q:RS)(y:Nat):Prop:=s.M y\/RW b a q y\/X y
def DM(s:VS)(b a:Nat)(q:RS)(y:Nat):Prop:=s.M y\/RW b a q y
structure Dz(X:dx)(z:Nat)(h:ad)(vp xp xg:Nat)(re:Rt)(s:VS)(q:RS)(U:List c6)(n:Nat):Prop where
 v:VaultAt (DW X s xg xp q) h vp s
 f:Rn (DW X s xg xp q) h xp xg s.kind s.x re q
 a:∀y,s.M y->¬RW xg xp q y
 xd:∀y,X y->¬s.M y/\¬RW xg xp q y
 p:Dp s q U n
 lo:∀y,DM s xg xp q y->z<=y
section
variable {X M:dx} {h h' h1 h2:ad} {z vp xp xg:Nat} {re:Rt} {s s':VS} {q q':RS} {U V:List c6} {n m:Nat}
theorem Dz.upd(g:Dz X z h vp xp xg re s q U n)(k:Upd M h h')(hm:∀b,M b->X b\/h.size<=b):Dz X z h' vp xp xg re s q U n:=
 ⟨g.v.upd k λb hb=>(hm b hb).imp (λe=>⟨.inr (.inr e),(g.xd b e).1⟩) id,g.f.upd k λb hb=>(hm b hb).imp (λe=>⟨.inr (.inr e),(g.xd b e).2⟩) id,g.a,g.xd,g.p,g.lo⟩
theorem Dz.upd0(g:Dz X z h vp xp xg re s q U n)(k:Upd No h h'):Dz X z h' vp xp xg re s q U n:=g.upd k λ_ h=>h.elim
theorem Dz.more(g:Dz X z h vp xp xg re s q U n)(e:n<=m):Dz X z h vp xp xg re s q U m:=⟨g.v,g.f,g.a,g.xd,g.p.more e,g.lo⟩
theorem Dz.lt(g:Dz X z h vp xp xg re s q U n):∀y,DW X s xg xp q y->y<h.size:=g.f.lt
theorem Dz.f1(g:Dz X z h vp xp xg re s q U n)(k:Upd s.M h h'):Rn (DW X s xg xp q) h' xp xg s.kind s.x re q:=g.f.upd k λb hb=>.inl ⟨.inl hb,g.a b hb⟩
theorem Dz.fin(g:Dz X z h vp xp xg re s q U n)(k1:Upd s.M h h1)(k:VaultAt (DW X s xg xp q) h1 vp s')(e:Evo s s')(j:Upd (RW xg xp q) h1 h2)(ht:∀y,sb q'.ts y->sb q.ts y\/h1.size<=y)
  (G:∀W':Nat->Prop,(∀y,W' y->(DW X s xg xp q y\/sb q'.ts y))->(∀y,RW xg xp q' y->W' y)->Rn W' h2 xp xg s.kind s.x re q')(p:Dp s' q' V m):Dz X z h2 vp xp xg re s' q' V m/\Upd (DM s xg xp q) h h2:=by
 obtain⟨d,ek,ex⟩:=e.same;have c:∀y,RW xg xp q' y->RW xg xp q y\/h1.size<=y:=λy a=>a.elim (λe=>.inl (.inl e)) λa=>a.elim (λe=>.inl (.inr (.inl e))) λa=>(ht y a).imp (λh=>.inr (.inr h)) id
 have f:∀y,DW X s xg xp q y->y<h1.size:=k.g.lt;have R:Rn (DW X s' xg xp q') h2 xp xg s.kind s.x re q':=G _ (λy a=>by
  rcases a with a|a|a
  .exact .inl (.inl (d▸a))
  .rcases a with a|a|a
   .exact .inl (.inr (.inl (.inl a)))
   .exact .inl (.inr (.inl (.inr (.inl a))))
   .exact .inr a
  .exact .inl (.inr (.inr a))) λy a=>.inr (.inl a)
 refine⟨⟨k.re j (λb hb=>.inl ⟨.inr (.inl hb),λhM=>g.a b (d▸hM) hb⟩) (λb hb=>⟨?_,R.lt b hb⟩) λy a=>.inl a,ek▸ex▸R,λy a i=>?_,λy a=>⟨d▸(g.xd y a).1,λi=>?_⟩,p,λy a=>a.elim (λa=>g.lo y (.inl (d▸a))) λa=>(c y a).elim (λh=>g.lo y (.inr h)) λh=>?_⟩,(k1.mono λy a=>.inl (.inl a)).tr (j.mono λy a=>.inl (.inr a))⟩
 .rcases hb with hb|hb|hb
  .exact .inl (.inl (d▸hb))
  .exact(c b hb).imp (λh=>.inr (.inl h)) id
  .exact .inl (.inr (.inr hb))
 .exact(c y i).elim (λh=>g.a y (d▸a) h) λh=>absurd (f y (.inl (d▸a))) (dR.2 h)
 .exact(c y i).elim (λh=>(g.xd y a).2 h) λh=>absurd (f y (.inr (.inr a))) (dR.2 h)
 .have t:=g.lo xg (.inr (.inl rfl))
  have o:=f xg (.inr (.inl (.inl rfl)));omega
theorem Dz.fin0(g:Dz X z h vp xp xg re s q U n)(k1:Upd s.M h h1)(d:VaultAt (DW X s xg xp q) h1 vp s')(e:Evo s s')(a:Upd (RW xg xp q) h1 h2)(ht:q'.ts=q.ts)(G:Rn (DW X s xg xp q) h2 xp xg s.kind s.x re q')(p:Dp s' q' V m):Dz X z h2 vp xp xg re s' q' V m/\Upd (DM s xg xp q) h h2:=
 g.fin k1 d e a (λy c=>.inl (ht▸c)) (λW' i f=>G.mv (eM No h2) (λ_ h=>h.elim) (λb hb=>by
  have:DW X s xg xp q b:=(i b hb).elim id λh=>.inr (.inl (.inr (.inr (ht▸h))))
  exact⟨.inl this,G.lt b this⟩) f) p
theorem Dz.base(g:Dz X z h vp xp xg re s q U n)(a:yD s id B)(hi:id=0\/id∈eR s.L):Kf q id B/\Kin U B.2:=by
 rcases a with⟨e,rfl⟩|⟨e,a⟩
 .exact⟨.inl ⟨e,rfl⟩,Kin.nil⟩
 .have hm:=g.p.ed _ (kV a)
  exact⟨.inr ⟨e,g.p.eL▸hi.resolve_left e,(eS g.p.nd).2 hm⟩,g.p.kin _ hm⟩
theorem Dz.tree(g:Dz X z h vp xp xg re s q U n)(a:yD s id B):TreeIs (DW X s xg xp q) h s.kind s.x B.1 B.2:=by
 rcases a with⟨_,rfl⟩|⟨_,a⟩
 .exact g.v.em
 .exact(g.v.ts _ (kV a)).1
end
end
section
variable {W W':dx}{h':ad}{k k':Int}{x a:Hs}{l l':bY}{ps:List Int}{b:c6}{d:TD}
abbrev aa3:=Int×c6×c6×Int×Int×Int×c6×c6×Bool×Int
abbrev Fa(a:aa3):c4:= [.int .u8 a.1,.string a.2.1,.string a.2.2.1,.int .u8 a.2.2.2.1,.int .u8 a.2.2.2.2.1,.int .u32 a.2.2.2.2.2.1,.string a.2.2.2.2.2.2.1,.string a.2.2.2.2.2.2.2.1,.bool a.2.2.2.2.2.2.2.2.1,.int .i64 a.2.2.2.2.2.2.2.2.2]
theorem LI{t:c6}{b:Int}(hb:0<=b){h:ad}{K:c6->dO}(a:∀h' r,r.size<=40->Upd No h h'->K r h'):Uy 25 [.string t,.int .u8 b] K h:=by
 refine dg (Kb t b) .nil Tryz.func25 Tryz.call25 ?_;dsimp only[Kb,cz,fj,acA,wS];refine⟨a8,eh (λ_=>⟨⟨cv,cv⟩,?_⟩) λ_=>?_⟩
 .unfold Bd
  refine a h _ ?_ (eM _ _);rw[eK];split<;>omega
 .obtain⟨j,g,f⟩:∃j:Nat,j<4/\Int.tmod b 4=(j:Int):=⟨(b%4).toNat,a4,by rw[Int.tmod_eq_emod_of_nonneg hb];omega⟩
  rw[f];refine aQ λd b2 c=>⟨a8,⟨a4,a4⟩,_,rfl,?_⟩
  have e:j=0\/j=1\/j=2\/j=3:=a4
  rcases e with rfl|rfl|rfl|rfl
  .exact⟨_,vc b2 0,a d _ a8 c⟩
  .exact⟨_,vc b2 1,a d _ a8 c⟩
  .exact⟨_,vc b2 2,a d _ a8 c⟩
  .exact⟨_,vc b2 3,a d _ a8 c⟩
section
variable {X:dx} {h:ad} {z vp xp xg st:Nat} {re:Rt} {s:VS} {q:RS} {U:List c6} {n:Nat}
theorem VM{h:ad}{t u:Tr}(i:TreeIs W h k x t l)(b:TreeIs W' h' k' a u l')(e:k≠k'):kS t u=false:=by
 cases hb:kS t u with
 |false=>rfl
 |true=>exact absurd (VK i b hb).1.symm e
theorem VL{h:ad}{t u:Rt}(i:RefIs W h k x t l)(b:RefIs W' h' k' a u l')(e:k≠k'):F1 t u=false:=by
 obtain⟨_,rfl,_⟩:=i;obtain⟨_,rfl,_⟩:=b;unfold F1;rw[show(k==k')=false from beq_eq_false_iff_ne.2 e];rfl
theorem YT{L:dA}{nx:Int}(h:(gu L nx ps).1.2≠0):(gu L nx ps).1=(0,(gu L nx ps).1.2):=by
 unfold gu at h⊢;split
 .rfl
 .split
  .rfl
  .split
   .rfl
   .rename_i h1 h2 h3
    rw[if_neg h1,if_neg h2,if_neg h3]at h;exact absurd rfl h
theorem OI:(y8 s b d ps).1=(gu s.L s.nx ps).1:=by
 unfold y8;split
 .rename_i h;exact(YT h).symm
 .rename_i h
  have e:(gu s.L s.nx ps).1.2=0:=Decidable.not_not.1 h;exact Prod.ext rfl e.symm
theorem TJ{i:Nat}{hi:i<q.B.length}{r:Rt}{ts sB:fD}{z y:Nat}(ht:∀y,sb ts y->sb q.ts y\/z<=y)(a:sb (zj q i hi d ps r ts sB).ts y):sb q.ts y\/z<=y:=by
 unfold zj at a;split at a
 .exact .inl a
 .exact ht y a
set_option maxHeartbeats 4000000 in
theorem Qa(g:Dz X z h vp xp xg re s q U n)(hn:n<=200)(T:h[st]? =some (.cells #[.pointer (some ⟨vp,0,none⟩),.pointer (some ⟨xp,0,none⟩)] 41 (0,0))) (hX:X st)  {a:aa3} {K:Bool->dO}
  (hK:∀h' s' q' U',Evo s s'->Dz X z h' vp xp xg re s' q' U' (n+1)->Upd (DM s xg xp q) h h'->K true h'):
  gl 38 [gZ st,.string b,.agg (Fa a).toArray] K h:=by
 refine dg (vd (some ⟨st,0,none⟩) b a) Cz Tryz.func38 Tryz.call38 ?_;dsimp only[vd,bh,ut,cM,iR,dE,nv,acr,qD,uj,rC,rx,adI,pW,iC,pU,qE,oE,AO,mc,my,ao,aE,vy,dK,mH,bo,vx,cO,cJ,wT,fY];have hL:q.L.length<=1024:=g.p.eL▸g.v.inv.few;have lt:=g.lt;have hnx:=g.v.inv.nx1;obtain⟨hd,ehd,hdv⟩:∃hd,(bK s.B b).getD 0=hd/\(hd=0\/hd∈eR s.L):=by
  refine⟨_,rfl,?_⟩;cases e:bK s.B b with
  |none=>exact .inl rfl
  |some v=>exact(g.p.hb _ ((g.p.nb.iff b v).1 e)).1
 refine aQ λh1 b1 k1=>⟨_,rfl,_,vc (k1.get0 T) 0,ir (g.v.upd0 k1) b ⟨_,rfl,_,vc (k1.get0 T) 0,?_⟩⟩
 rw[ehd];have s1:=k1.size;refine Lj (g.v.upd0 k1) hdv λB hB Y k9=>?_
 have k09:=k1.tr k9;have s9:=k09.size;refine aQ λh10 b10 k10=>co (c:=iM rL) (vs:=iM B.1) b10 rfl λh11 b11 u11=>?_
 have V:Upd No h h11:=(k09.tr k10).own u11 s9;have s11:=V.size;refine⟨_,rfl,_,vc (V.get0 T) 1,?_⟩;obtain⟨xB,kB⟩:=g.base hB hdv;have z11:=bB b11;have G11:Rn (λy=>DW X s xg xp q y\/y=Y.size) h11 xp xg s.kind s.x re q:=g.f.mv V (λ_ h=>h.elim) (λy m=>⟨m.imp id λe=>a4,m.elim (λm=>aD (lt y m) s11) λe=>e▸z11⟩) λy m=>.inl (.inr (.inl m))
 refine Er G11 g.p.nd xB a4 (by have:=g.p.dl;omega) λt r jr k15=>?_
 have k015:=V.tr k15;have s15:=k015.size;have z10:=bB b11;refine aQ λh16 b16 k16=>co (c:=ry KA) (vs:=ry r) b16 rfl λh17 b17 u17=>?_
 have k017:Upd No h h17:=(k015.tr k16).own u17 s15;have k1117:Upd No h11 h17:=(k15.tr k16).own u17 k15.size;have s17:=k017.size;have z17:=bB b17;have s1511:=k15.size;refine eh (λe=>absurd e a6) λ_=>?_
 have c17:=(k9.tr ((k10.own u11 (aj _)).tr k1117)).get0 b1;refine⟨_,iq c17 6 0,_,iq c17 6 1,Yf (p:=(a.2.2.2.2.2.2.1,a.2.2.2.2.2.2.2.1)) λh21 k21=>?_⟩
 obtain⟨p,ep⟩:∃p,p=ads (a.2.2.2.2.2.2.1,a.2.2.2.2.2.2.2.1):=⟨_,rfl⟩;have hp1:p.1.size<=30:=ep▸Jf _;have hp2:p.2.size<=30:=ep▸Jf _;rw[<-ep];have s21:=k21.size;refine aQ λh22 b22 k22=>co (c:= [.string ⟨#[]⟩,.string ⟨#[]⟩]) (vs:= [.string p.1,.string p.2]) b22 rfl λI b23 u23=>?_
 have w:Upd No h17 I:=(k21.tr k22).own u23 s21;have k023:=k017.tr w;have s23:=k023.size;obtain⟨H,Z⟩:∃H:Nat->Prop,H=λy=>DW X s xg xp q y\/y=Y.size\/y=t.size:=⟨_,rfl⟩
 have w1:∀y,H y->DW X s xg xp q y\/h.size<=y:=λy m=>by
  rw[Z]at m;exact m.imp id λm=>a4
 have w1':∀y,DW X s xg xp q y->H y:=λy m=>by rw[Z];exact .inl m
 have Q:∀y,H y->y<I.size:=λy m=>by
  rw[Z]at m;have:=w.size;rcases m with m|m|m
  .have:=lt y m;omega
  .omega
  .omega
 have tb:H Y.size:=by rw[Z];exact .inr (.inl rfl)
 have rb:H t.size:=by rw[Z];exact .inr (.inr rfl)
 have i23:TreeIs H I s.kind s.x B.1 B.2:=(g.tree hB).re k023 (λ_ h=>h.elim) w1
 have j23:RefIs H I s.kind s.x r B.2:=by
  refine RefIs.re jr ((k16.own u17 (aj _)).tr w) (λ_ h=>h.elim) λy m=>?_
  rw[Z]at m;rcases m with m|m|m
  .exact .inl (.inl m)
  .exact .inl (.inr m)
  .exact .inr a4
 have u:=(k1117.tr w).get0 b11;have r23:=w.get0 b17;have a23:=w.get0 c17;have fB:=kB.few (aj _);have lB:B.2.length<=1000000:=by have:=fB.len;have:=g.p.ul;omega
 have ne:Y.size≠t.size:=a4
 have a0:=bB b1;have nb9:h.size≠Y.size:=by have:=k9.size;omega
 have nb15:h.size≠t.size:=a4
 refine eF (λ_ h'=>∃E F l',TreeIs H h' s.kind s.x E l'/\RefIs H h' s.kind s.x F l'/\Kin (p.1::U) l'/\h'[Y.size]? =some (.cells (iM E).toArray 53 (0,0))/\h'[t.size]? =some (.cells (ry F).toArray 111 (0,0))/\Upd (λy=>y=Y.size\/y=t.size) I h') (λR hR=>?_) ?_
 .refine⟨_,vc a23 8,eh (λ_=>?_) λ_=>?_⟩
  .refine⟨_,vc u 0,_,vc u 1,_,vc u 2,_,vc u 3,_,vc u 4,_,vc u 5,_,vc b23 0,FF i23 Q fB.up fB.fits lB p.1 a4 λh34 E i34 _ J=>co (c:=iM B.1) (vs:=iM E) (J.get0 u) rfl λh35 b35 P=>?_⟩
   have A:=P.oth (J.get0 r23) ne.symm;have p35:=P.oth (J.get0 b23) a4;have kk:Upd (λy=>y=Y.size\/y=t.size) I h35:=J.wide.tr (P.mono λy e=>.inl (.inl e))
   have hm:∀y,(y=Y.size\/y=t.size)->H y\/I.size<=y:=λy m=>.inl (m.elim (λe=>e▸tb) λe=>e▸rb)
   refine⟨_,vc A 0,_,vc A 1,_,vc A 2,_,vc A 3,r.2.2.2.2,vc A 4,_,vc p35 0,Pf (j23.updM kk hm) (λy m=>aD (Q y m) kk.size) fB.up fB.fits lB p.1 a4 λh43 F e j43 L=>co (c:=ry r) (vs:=ry F) (L.get0 A) rfl λh44 b44 N=>hR _ _ ?_⟩
   refine⟨E,F,_,((i34.updM P λy e=>.inl (by have e:y=Y.size:=e;exact e▸tb)).upd0 L).updM N λy e=>.inl (by have e:y=t.size:=e;exact e▸rb),j43.updM N λy e=>.inl (by have e:y=t.size:=e;exact e▸rb),(kB.del p.1).more λy m=>aA _ m,N.oth (L.get0 b35) ne,b44,(kk.tr L.wide).tr (N.mono λy e=>.inl (.inr e))⟩
  .refine⟨_,vc u 0,_,vc u 1,_,vc u 2,_,vc u 3,_,vc u 4,_,vc u 5,_,vc b23 0,_,vc b23 1,CN i23 Q fB.up lB p a4 a4 λh34 E i34 _ J=>co (c:=iM B.1) (vs:=iM E) (J.get0 u) rfl λh35 b35 P=>?_⟩
   have A:=P.oth (J.get0 r23) ne.symm;have p35:=P.oth (J.get0 b23) a4;have kk:Upd (λy=>y=Y.size\/y=t.size) I h35:=J.wide.tr (P.mono λy e=>.inl (.inl e))
   have hm:∀y,(y=Y.size\/y=t.size)->H y\/I.size<=y:=λy m=>.inl (m.elim (λe=>e▸tb) λe=>e▸rb)
   refine⟨_,vc A 0,_,vc A 1,_,vc A 2,_,vc A 3,r.2.2.2.2,vc A 4,_,vc p35 0,_,vc p35 1,Xn (j23.updM kk hm) (λy m=>aD (Q y m) kk.size) fB.up lB p a4 a4 λh43 F j43 L=>co (c:=ry r) (vs:=ry F) (L.get0 A) rfl λh44 b44 N=>hR _ _ ?_⟩
   refine⟨E,F,_,((i34.updM P λy e=>.inl (by have e:y=Y.size:=e;exact e▸tb)).upd0 L).updM N λy e=>.inl (by have e:y=t.size:=e;exact e▸rb),j43.updM N λy e=>.inl (by have e:y=t.size:=e;exact e▸rb),kB.ins p hp1 hp2,N.oth (L.get0 b35) ne,b44,(kk.tr L.wide).tr (N.mono λy e=>.inl (.inr e))⟩
 rintro _ h67 ⟨E,F,l',i67,j67,kl67,C,br67,u67⟩;have s67:=u67.size;have a67:=u67.get a23 λe=>e.elim nb9 nb15
 have lt67:∀y,H y->y<h67.size:=λy m=>aD (Q y m) s67
 have k067:Upd No h h67:=k023.fresh u67 λy m=>a4
 refine eF (λ_ h'=>∃E F,((∃l',TreeIs H h' s.kind s.x E l'/\RefIs H h' s.kind s.x F l'/\Kin (p.1::U) l')\/(kS E s.e=false/\F1 F re=false))/\h'[Y.size]? =some (.cells (iM E).toArray 53 (0,0))/\h'[t.size]? =some (.cells (ry F).toArray 111 (0,0))/\Upd No h h') (λR hR=>⟨_,vc a67 0,a8,eh (λ_=>?_) λ_=>hR _ _ ⟨E,F,.inl ⟨l',i67,j67,kl67⟩,C,br67,k067⟩⟩) ?_
 .have et:E.1=s.kind:=by
   rcases i67 with⟨e,b,rfl,_⟩|⟨e,b,rfl,_⟩
   .exact e.symm
   .exact e.symm
  have er:F.1=s.kind:=by obtain⟨_,rfl,_⟩:=j67;rfl
  obtain⟨kd,ekd,hkd,hne⟩:∃kd,ac .i64 (1-s.kind)=kd/\(kd=0\/kd=1)/\kd≠s.kind:=by
   rcases g.v.kd with e|e
   .exact⟨1,by rw[e];decide,.inr rfl,a4⟩
   .exact⟨0,by rw[e];decide,.inl rfl,a4⟩
  refine⟨_,vc C 0,_,vc C 1,_,vc C 2,_,vc C 3,_,vc C 4,_,vc C 5,OU λh77 k77=>?_⟩
  rw[et,ekd];refine TS (W:=H) (x:=⟨0,0,0⟩) (λy m=>aD (lt67 y m) k77.size) hkd λh79 t2 i79 k79=>co (c:=iM E) (vs:=iM t2) ((k77.tr k79).get0 C) rfl λh80 b80 u80=>?_
  have r80:=u80.oth ((k77.tr k79).get0 br67) ne.symm;refine⟨_,vc r80 0,?_⟩;rw[er,ekd];refine T4 (W:=H) (x:=⟨0,0,0⟩) hkd λh83 r2 j83 k83=>co (c:=ry F) (vs:=ry r2) (k83.get0 r80) rfl λh84 b84 u84=>hR _ _ ⟨t2,r2,.inr ⟨VM i79 g.v.em hne,VL j83 g.f.e hne⟩,u84.oth (k83.get0 b80) ne,b84,?_⟩
  exact((((k067.tr k77).tr k79).own u80 s9).tr k83).own u84 s15
 rintro _ h86 ⟨E,F,hc,bt,br,o⟩;have s86:=o.size;have v86:=g.v.upd0 o;have f86:=(g.upd0 o).f;refine⟨_,rfl,_,vc (o.get0 T) 0,_,vc bt 0,_,vc bt 1,_,vc bt 2,_,vc bt 3,_,vc bt 4,_,vc bt 5,?_⟩;have hnB:q.B.length<=1000:=by have:=g.p.bl;omega
 have same:∀h',Upd No h h'->K true h':=λh' k=>hK h' s q U (.names s.B s.G) ((g.upd0 k).more (kq n)) k.wide
 cases eb:bK s.B b with
 |none=>
  refine OJ v86 eb λh96 O=>⟨_,rfl,_,vc ((o.tr O).get0 T) 1,?_⟩
  have j:=O.get0 br;refine⟨_,vc j 0,_,vc j 1,_,vc j 2,_,vc j 3,F.2.2.2.2,vc j 4,Ov (f86.upd0 O) hnB (g.p.nb.miss eb) λS k105=>ay.2 (same S ((o.tr O).tr k105))⟩
 |some hd'=>
  obtain⟨i,hi,ei,ev⟩:=g.p.nb.hit eb;have ehd':hd'=hd:=by rw[eb]at ehd;exact ehd
  rcases hc with⟨l',i86,j86,kl⟩|⟨lb,lr⟩
  .have f:=kl.few (aj _)
   have hw1:∀y,DW X s xg xp q y->H y\/h86.size<=y:=λy m=>.inl (w1' y m)
   refine BI v86 b eb (d:=(E,l')) (i86.less hw1) f.up f.fits λh96 u96 v96=>⟨_,rfl,_,vc (u96.get (o.get0 T) λhm=>(g.xd _ hX).1 hm) 1,?_⟩
   have lM:∀y,s.M y->y<h.size:=λy m=>g.v.size m
   have j:=u96.get br λhm=>by have:=lM _ hm;omega
   have f96:=(g.upd0 o).f1 u96;refine⟨_,vc j 0,_,vc j 1,_,vc j 2,_,vc j 3,F.2.2.2.2,vc j 4,?_⟩;have hp0:0<=q.B[i].2:=by
    rcases(g.p.hb _ (aF hi)).1 with e|e
    .omega
    .have:=(g.v.inv.pos _ e).1;omega
   refine QX f96 (by rw[g.p.en];omega) a4 (by have:=g.f.n;have:=g.p.dl;omega) hnB hi g.p.nb.up ei hp0 (d:=(E,l')) ((j86.less hw1).updM u96 λy m=>.inl (.inl m)) λS ts sB u105 ht G=>?_
   rw[ev]at G⊢;obtain⟨D,ku⟩:=g.fin (o.wide.tr u96) v96 (.ver b (E,l') (nz [hd'])) u105 (λy m=>TJ ht m) G (g.p.ver g.v.inv hi ei kl (λy m=>aA _ m) (by have:=g.p.ul;simp;omega))
   rw[g.p.eL,g.p.en,OI];refine eh (λ_=>?_) λe=>absurd e a6
   rw[beq_self_eq_true];exact hK S _ _ _ (.ver b (E,l') (nz [hd'])) D ku
  .refine OK v86 eb lb λh96 O=>⟨_,rfl,_,vc ((o.tr O).get0 T) 1,?_⟩
   have j:=O.get0 br;refine⟨_,vc j 0,_,vc j 1,_,vc j 2,_,vc j 3,F.2.2.2.2,vc j 4,Ow (f86.upd0 O) hnB hi ei lr λS k105=>ay.2 (same S ((o.tr O).tr k105))⟩
end
end
section
variable {K:Bool->dO}
set_option maxHeartbeats 1000000 in
theorem pI{W W':dx}{h:ad}{a e:Int}{w k:fD}{l:List Cf}(H:Sl vu 7 W h w l)(y:Sl vu 7 W' h k l)(Q:l.length<=1000000)(J:∀h',Upd No h h'->K true h'):
  Join (λ(F:Bool) x=>
   fo F (
    K false x) (
    LoopP (λB (b:Int) d=>
     fo (decide (b<(w.len:Int))) (
      (((0:Int)<=b/\b<((w.len:Nat):Int))/\∃a76:Addr,w.a=some a76/\
       ∃v77:c6,aZ d (adr (adr a76 (b.toNat*7)) 0)=some (.string v77)/\
       ∃v78:c6,aZ d (adr (adr a76 (b.toNat*7)) 1)=some (.string v78)/\
       ∃v79:Bool,aZ d (adr (adr a76 (b.toNat*7)) 2)=some (.bool v79)/\
       ∃v80:c6,aZ d (adr (adr a76 (b.toNat*7)) 3)=some (.string v80)/\
       ∃v81:Bool,aZ d (adr (adr a76 (b.toNat*7)) 4)=some (.bool v81)/\
       ∃v82:c6,aZ d (adr (adr a76 (b.toNat*7)) 5)=some (.string v82)/\
       ∃v83:Bool,aZ d (adr (adr a76 (b.toNat*7)) 6)=some (.bool v83)/\
       At (hnew d [.string (⟨#[]⟩:c6),.string (⟨#[]⟩:c6),.bool false,.string (⟨#[]⟩:c6),.bool false,.string (⟨#[]⟩:c6),.bool false] 85) (λv=>
        (qV v (some (aR d)) 0 [.string v77,.string v78,.bool v79,.string v80,.bool v81,.string v82,.bool v83]/\
         At (fS v (aR d) 0 [.string v77,.string v78,.bool v79,.string v80,.bool v81,.string v82,.bool v83]) (λf=>
          Join (λ(s:Bool) o=>
           fo s (
            K false o) (
            B (ac .i64 (b+1)) o)) (λn=>
           ∃v87:c6,aZ f (adr (aR d) 0)=some (.string v87)/\
           (((0:Int)<=b/\b<((k.len:Nat):Int))/\∃a88:Addr,k.a=some a88/\
            ∃v89:c6,aZ f (adr (adr a88 (b.toNat*7)) 0)=some (.string v89)/\
            fo (!(v87.toList==v89.toList)) (
             n true f) (
             ∃v90:c6,aZ f (adr (adr (aR d) 1) 0)=some (.string v90)/\
             ∃v91:Bool,aZ f (adr (adr (aR d) 1) 1)=some (.bool v91)/\
             (((0:Int)<=b/\b<((k.len:Nat):Int))/\∃a92:Addr,k.a=some a92/\
              ∃v93:c6,aZ f (adr (adr (adr a92 (b.toNat*7)) 1) 0)=some (.string v93)/\
              ∃v94:Bool,aZ f (adr (adr (adr a92 (b.toNat*7)) 1) 1)=some (.bool v94)/\
              fo (!(((v90.toList==v93.toList)&&((v91==v94)&&true)))) (
               n true f) (
               ∃v95:c6,aZ f (adr (adr (aR d) 3) 0)=some (.string v95)/\
               ∃v96:Bool,aZ f (adr (adr (aR d) 3) 1)=some (.bool v96)/\
               (((0:Int)<=b/\b<((k.len:Nat):Int))/\∃a97:Addr,k.a=some a97/\
                ∃v98:c6,aZ f (adr (adr (adr a97 (b.toNat*7)) 3) 0)=some (.string v98)/\
                ∃v99:Bool,aZ f (adr (adr (adr a97 (b.toNat*7)) 3) 1)=some (.bool v99)/\
                fo (!(((v95.toList==v98.toList)&&((v96==v99)&&true)))) (
                 n true f) (
                 ∃v100:c6,aZ f (adr (adr (aR d) 5) 0)=some (.string v100)/\
                 ∃v101:Bool,aZ f (adr (adr (aR d) 5) 1)=some (.bool v101)/\
                 (((0:Int)<=b/\b<((k.len:Nat):Int))/\∃a102:Addr,k.a=some a102/\
                  ∃v103:c6,aZ f (adr (adr (adr a102 (b.toNat*7)) 5) 0)=some (.string v103)/\
                  ∃v104:Bool,aZ f (adr (adr (adr a102 (b.toNat*7)) 5) 1)=some (.bool v104)/\
                  n (!(((v100.toList==v103.toList)&&((v101==v104)&&true)))) f))))))))))))) (
      K true d)) 0 x)) (λq=>
   fo (a !=a) (
    q true h) (
    fo (e !=e) (
     q true h) (
     q ((w.len:Int) !=(k.len:Int)) h))):=by
 have L:=H.len;have N:=y.len;refine eF (λt h'=>t=false/\h'=h) (λR E=>eh (λe=>absurd e a6) λ_=>eh (λe=>absurd e a6) λ_=>E _ _ ⟨by rw[L,N];simp,rfl⟩) ?_
 rintro t h' ⟨rfl,C⟩;rw[C];refine ag.2 (ez (λ(i:Nat) (t:Int) h'=>t=(i:Int)/\i<=l.length/\Upd No h h') (λi=>l.length-i) 0 ⟨rfl,aJ _,eM _ _⟩ ?_)
 rintro I i t h' ⟨rfl,hi,A⟩ O;refine ar (λj=>?_) λ_=>J _ A
 have j:i<l.length:=a4
 obtain⟨a,P,_,hv⟩:=(H.upd A λ_ h=>h.elim).at (af j)
 have u:=y.upd A λ_ h=>h.elim
 refine⟨⟨a4,a4⟩,a,P,_,hv 0 _ rfl,_,hv 1 _ rfl,_,hv 2 _ rfl,_,hv 3 _ rfl,_,hv 4 _ rfl,_,hv 5 _ rfl,_,hv 6 _ rfl,?_⟩
 refine acU (c:=l[i]) λD g z=>?_
 obtain⟨a',m,_,p⟩:=(u.upd z λ_ h=>h.elim).at (af j)
 generalize l[i]=c at g p⊢;refine eF (λt G=>t=false/\G=D) (λR E=>?_) ?_
 .refine⟨c.1,vc g 0,⟨a4,a4⟩,a',m,c.1,p 0 _ rfl,?_⟩
  rw[dZ,decide_eq_true rfl];refine ag.2 ⟨c.2.1.1,iq g 1 0,c.2.1.2,iq g 1 1,⟨a4,a4⟩,a',m,c.2.1.1,by rw[pd];exact p 1 _ rfl,c.2.1.2,by rw[pd];exact p 2 _ rfl,?_⟩
  rw[M8 c.2.1 c.2.1,decide_eq_true rfl];refine ag.2 ⟨c.2.2.1.1,iq g 3 0,c.2.2.1.2,iq g 3 1,⟨a4,a4⟩,a',m,c.2.2.1.1,by rw[pd];exact p 3 _ rfl,c.2.2.1.2,by rw[pd];exact p 4 _ rfl,?_⟩
  rw[M8 c.2.2.1 c.2.2.1,decide_eq_true rfl];refine ag.2 ⟨c.2.2.2.1,iq g 5 0,c.2.2.2.2,iq g 5 1,⟨a4,a4⟩,a',m,c.2.2.2.1,by rw[pd];exact p 5 _ rfl,c.2.2.2.2,by rw[pd];exact p 6 _ rfl,?_⟩
  rw[M8 c.2.2.2 c.2.2.2,decide_eq_true rfl];exact E _ _ ⟨rfl,rfl⟩
 .rintro t G ⟨rfl,C⟩
  rw[C];refine ag.2 ?_;rw[bN j a4];exact O (i+1) _ _ ⟨rfl,j,A.tr z⟩ a4
theorem P9{B O T:bY}{p:Int}(a:bS B)(b:bS T):(pw B O T p).length<=B.length+T.length:=by
 unfold pw GV;exact aO (bQ ..) (by rw[bP];exact tW a b)
section
variable {X:dx} {h:ad} {z vp xp xg st:Nat} {re:Rt} {s:VS} {q:RS} {U:List c6} {n:Nat}
set_option maxHeartbeats 4000000 in
theorem aaA(g:Dz X z h vp xp xg re s q U n)(hn:n<=200)(hst:h[st]? =some (.cells #[.pointer (some ⟨vp,0,none⟩),.pointer (some ⟨xp,0,none⟩)] 41 (0,0))) (hX:X st) {a:aa3} (ha:0<=a.2.2.2.1) (hb:0<=a.2.2.2.2.1) 
  (hK:∀h' s' q' U',Evo s s'->Dz X z h' vp xp xg re s' q' U' (n+1)->Upd (DM s xg xp q) h h'->K true h'):
  gl 7 [gZ st,.agg (Fa a).toArray] K h:=by
 refine dg (Aj (some ⟨st,0,none⟩) a) Kj Tryz.func7 Tryz.call7 ?_;dsimp only[Aj,bh,ut,ff,cM,bo,nv,adG,abq,WD,cO,adI,adN,pW,WB,WC,AN,jX,fj,zZ,ga,vx,cJ,wT,Wl,fY,aaS,iR];have hL:q.L.length<=100000:=by have:=g.p.eL▸g.v.inv.few;omega
 have gd:Good q.L:=g.p.eL▸g.v.inv.good;have lM:∀y,s.M y->y<h.size:=λy hy=>g.v.size hy
 have x:q.B.length<=1000:=by have:=g.p.bl;omega
 have hnT:q.T.length<=1000:=by have:=g.p.tl;omega
 have hbm:s.M s.bm:=.inr (.inr (.inr (.inl rfl)));have hnm:s.M s.nm:=.inr (.inr (.inr (.inr rfl)));refine aQ λh1 b1 k1=>⟨_,vc b1 1,_,vc b1 3,_,vc b1 2,_,vc b1 4,LI ha λh7 m1 hm1 k7=>⟨vc (k7.get0 b1) 4,vc (k7.get0 b1) 2,LI hb λh9 m2 hm2 k9=>?_⟩⟩
 have Y:=(k1.tr k7).tr k9;have C:=k9.get0 (k7.get0 b1);have b:=Y.get0 hst;have f:=g.upd0 Y;have s9:=Y.size;have Z:∀{M:dx} {h':ad},Upd M h9 h'->(∀y,M y->s.M y)->h'[st]? =some (.cells #[.pointer (some ⟨vp,0,none⟩),.pointer (some ⟨xp,0,none⟩)] 41 (0,0)):=λu hM=>u.get b λhm=>(g.xd _ hX).1 (hM _ hm)
 have aM:∀{M:dx} {h':ad},Upd M h9 h'->(∀y,M y->s.M y)->h'[h.size]? =some (.cells (Fa a).toArray 35 (0,0)):=λu hM=>u.get C λhm=>by have:=lM _ (hM _ hm);omega
 have fin:∀{h1 h2 s' q'},Upd s.M h9 h1->VaultAt (DW X s xg xp q) h1 vp s'->Evo s s'->Upd (RW xg xp q) h1 h2->q'.ts=q.ts->Rn (DW X s xg xp q) h2 xp xg s.kind s.x re q'->Dp s' q' U (n+1)->K true h2:=λu1 v1 e u2 ht G p=>by
  obtain⟨D,ku⟩:=f.fin0 u1 v1 e u2 ht G p;exact hK _ _ _ _ e D (Y.wide.tr ku)
 have bmU:∀{h'},Upd (· =s.bm) h9 h'->Upd s.M h9 h':=λu=>u.mono λy (e:y=s.bm)=>.inl (e▸hbm)
 have nmU:∀{h'},Upd (· =s.nm) h9 h'->Upd s.M h9 h':=λu=>u.mono λy (e:y=s.nm)=>.inl (e▸hnm)
 have xpU:∀{h1 h2},Upd (· =xp) h1 h2->Upd (RW xg xp q) h1 h2:=λu=>u.mono λy (e:y=xp)=>.inl (.inr (.inl e))
 have mm:∀y,s.M y->s.M y:=λ_ h=>h
 have zz:∀{h'},Upd No h9 h'->K true h':=λk=>hK _ s q U (.names s.B s.G) ((f.upd0 k).more (kq n)) (Y.tr k).wide
 have same:∀{h1 h2},Upd No h9 h1->Upd (· =xp) h1 h2->Rn (DW X s xg xp q) h2 xp xg s.kind s.x re q->K true h2:=λk u G=>fin (s':=s) (q':=q) k.wide (f.v.upd0 k) (.names s.B s.G) (xpU u) (by rfl) G (g.p.more (kq n))
 refine⟨_,vc C 0,a8,eh (λ_=>?_) λ_=>eh (λ_=>?_) λ_=>eh (λ_=>?_) λ_=>eh (λ_=>?_) λ_=>eh (λ_=>?_) λ_=>?_⟩
 .
  refine⟨_,rfl,_,vc b 0,_,vc C 5,_,rfl,_,vc b 1,_,vc C 5,BH f.v m1 _ λh18 H P=>?_⟩
  have w:=bmU H;refine⟨vc (aM w mm) 5,vc (Z w mm) 1,QW (f.f1 w) hL x (λp hp=>(g.p.hb p hp).2) hm1 g.p.nb λQ s' F G=>?_⟩
  have:=fin w P (.names _ s.G) (xpU F) (by rfl) G (g.p.create hm1);rw[g.p.eL,beq_self_eq_true];exact this
 .
  refine⟨_,rfl,_,vc b 0,_,rfl,_,vc b 1,Q9 f.v (λe h18 H P=>?_) λe=>?_⟩
  .have w:=bmU H
   refine⟨vc (Z w mm) 1,HA (f.f1 w) x (λi hi I Q s' F G=>fin w P (.names _ s.G) (xpU F) (by rfl) G (g.p.remove hi I)) λhno=>?_⟩
   rw[g.p.nb.no hno]at e;cases e
  .refine⟨vc b 1,HA f.f x (λi hi I=>?_) λ_ Q F G=>same (eM _ _) F G⟩
   rw[<-I,g.p.nb.at hi]at e;cases e
 .
  refine⟨_,rfl,_,vc b 0,_,vc C 5,_,rfl,_,vc b 1,_,vc C 5,ZA f.v λh18 H P=>?_⟩
  have w:=nmU H;refine⟨vc (aM w mm) 5,vc (Z w mm) 1,Zo (f.f1 w) hL hnT (λp hp=>(g.p.ht p hp).2) hm1 g.p.ng λQ s' F G=>?_⟩
  have:=fin w P (.names s.B _) (xpU F) (by rfl) G (g.p.tag hm1);rw[g.p.eL,beq_self_eq_true];exact this
 .
  refine⟨_,rfl,_,vc b 0,_,rfl,_,vc b 1,U8 f.v (λe h18 H P=>?_) λe=>?_⟩
  .have w:=nmU H
   refine⟨vc (Z w mm) 1,Lf (f.f1 w) hnT (λi hi I Q s' F G=>fin w P (.names s.B _) (xpU F) (by rfl) G (g.p.untag hi I)) λhno=>?_⟩
   rw[g.p.ng.no hno]at e;cases e
  .refine⟨vc b 1,Lf f.f hnT (λi hi I=>?_) λ_ Q F G=>same (eM _ _) F G⟩
   rw[<-I,g.p.ng.at hi]at e;cases e
 .
  refine⟨_,rfl,_,vc b 0,_,vc C 5,_,rfl,_,vc b 1,_,vc C 5,Kw f.v (λe h18 A=>?_) (λhd e hv h18 A=>?_) (λhd e hv hu h18 A=>?_) λhd e hv hu h18 H P=>?_⟩
  .exact⟨vc (A.get0 C) 5,vc (A.get0 b) 1,Kq (f.upd0 A).f x (g.p.nb.miss e) λQ k20=>zz (A.tr k20)⟩
  .obtain⟨i,hi,I,ev⟩:=g.p.nb.hit e
   exact⟨vc (A.get0 C) 5,vc (A.get0 b) 1,yf (f.upd0 A).f gd hL x hi g.p.nb.up I (λ_ Q k20=>zz (A.tr k20)) (λh=>absurd (g.p.eL▸h) hv) λh=>absurd (g.p.eL▸h) hv⟩
  .obtain⟨i,hi,I,ev⟩:=g.p.nb.hit e
   exact⟨vc (A.get0 C) 5,vc (A.get0 b) 1,yf (f.upd0 A).f gd hL x hi g.p.nb.up I (λh=>absurd hv (g.p.eL▸h)) (λ_ _ Q k20=>zz (A.tr k20)) λ_ h=>absurd (by rw[g.p.eL,ev]at h;exact h) hu⟩
  .obtain⟨i,hi,I,ev⟩:=g.p.nb.hit e
   exact⟨vc (aM H mm) 5,vc (Z H mm) 1,yf (f.f1 H) gd hL x hi g.p.nb.up I (λh=>absurd hv (g.p.eL▸h)) (λ_ h=>absurd (by rw[g.p.eL,ev];exact hu) h) λ_ _ Q s' F G=>fin H P (.names _ s.G) (xpU F) (by rfl) G (g.p.head hi I hv)⟩
 .
  refine eF (λ_ h'=>h'=h9) (λR hR=>eh (λ_=>hR _ _ rfl) λ_=>hR _ _ rfl) ?_
  rintro t h59 e59;rw[e59];refine eh (λ_=>?_) λ_=>eh (λ_=>?_) λ_=>?_
  .
   refine⟨_,rfl,_,vc b 0,_,vc C 9,?_⟩;obtain⟨p,ep⟩:∃p,p=a.2.2.2.2.2.2.2.2.2:=⟨_,rfl⟩;have a9p:∀{h'},h'[h.size]? =some (.cells (Fa a).toArray 35 (0,0))->aZ h' (adr (aR h) 9)=some (.int .i64 p):=λe=>by rw[ep];exact vc e 9
   rw[<-ep];have hD:q.D.length<=100000:=by have:=g.p.dl;omega
   have hnx:0<=q.nx:=by have:=g.v.inv.nx1;rw[g.p.en];omega
   have nil:∀{h'},Sl vu 7 No h' ⟨none,0,0⟩ []:=Sl.nil NW;cases e1:bK s.B m1 with
   |none=>exact HO f.v (.inl e1) ⟨_,rfl,_,vc b 1,_,a9p C,HB f.f x (.inl (g.p.nb.miss e1)) λh69 J=>pI (l:= []) nil nil a6 λh k=>zz (J.tr k)⟩
   |some va=>
   cases e2:bK s.B m2 with
   |none=>exact HO f.v (.inr e2) ⟨_,rfl,_,vc b 1,_,a9p C,HB f.f x (.inr (g.p.nb.miss e2)) λh69 J=>pI (l:= []) nil nil a6 λh k=>zz (J.tr k)⟩
   |some vb=>
   obtain⟨i,hi,I,ev⟩:=g.p.nb.hit e1;obtain⟨j,hj,ej,ew⟩:=g.p.nb.hit e2;have c1:(q.B[j].2=0\/UpG q.L q.B[i].2 q.B[j].2)↔(vb=0\/UpG s.L va vb):=by rw[g.p.eL,ev,ew]
   have c2:(q.B[i].2=0\/UpG q.L q.B[j].2 q.B[i].2)↔(va=0\/UpG s.L vb va):=by rw[g.p.eL,ev,ew]
   by_cases V:p<0\/3<p
   .exact Rb f.v e1 e2 V ⟨_,rfl,_,vc b 1,_,a9p C,xa f.f g.v.kd gd hnx g.p.nd hL hD x hi hj g.p.nb.up I ej (λ_ h69 J=>pI (l:= []) nil nil a6 λh k=>zz (J.tr k)) (λ_ _=>absurd V a4) (λ_ _=>absurd V a4) λ_ _=>absurd V a4⟩
   have p0:0<=p:=a4
   have p3:p<=3:=a4
   have hnm':((FX p).toList==(⟨#[]⟩:c6).toList)=false:=by rw[dZ,decide_eq_false (B7 p0 p3)]
   by_cases f1:vb=0\/UpG s.L va vb
   .refine BG f.v e1 e2 hnm' (.inl f1) (λ_ h64 L=>⟨_,rfl,_,vc (L.get0 b) 1,_,a9p (L.get0 C),xa (f.upd0 L).f g.v.kd gd hnx g.p.nd hL hD x hi hj g.p.nb.up I ej (λh=>absurd h V) (λ_ _ _ h69 J=>?_) (λ_ _ h=>absurd (c1.2 f1) h) λ_ _ h=>absurd (c1.2 f1) h⟩) λh=>absurd f1 h
    rw[ev];exact pI (l:= []) nil nil a6 λh k=>zz ((L.tr J).tr k)
   by_cases f2:va=0\/UpG s.L vb va
   .refine BG f.v e1 e2 hnm' (.inr f2) (λh=>absurd h f1) λ_ h64 S v64=>⟨_,rfl,_,vc (Z S mm) 1,_,a9p (aM S mm),xa (f.f1 S) g.v.kd gd hnx g.p.nd hL hD x hi hj g.p.nb.up I ej (λh=>absurd h V) (λ_ _ h=>absurd (c1.1 h) f1) (λ_ _ _ _ h69 s' u69 G=>?_) λ_ _ _ h=>absurd (c2.2 f2) h⟩
    rw[ew]at G⊢;refine pI (l:= []) nil nil a6 λh2 k2=>?_
    have hv:vb=0\/vb∈eR s.L:=ew▸(g.p.hb _ (aF hj)).1;obtain⟨D,ku⟩:=f.fin0 S v64 (.names _ s.G) (xpU u69) (by rfl) G (g.p.head hi I hv);exact hK _ _ _ _ (.names _ s.G) (D.upd0 k2) (Y.wide.tr (ku.tr k2.wide))
   have na:va≠0:=λe=>f2 (.inl e)
   have nb:vb≠0:=λe=>f1 (.inl e)
   have ma:va∈eR s.L:=(ev▸(g.p.hb _ (aF hi)).1:va=0\/va∈eR s.L).resolve_left na;have mb:vb∈eR s.L:=(ew▸(g.p.hb _ (aF hj)).1:vb=0\/vb∈eR s.L).resolve_left nb;have get:∀{id},id∈eR s.L->∃d,bK s.D id=some d:=λ{id} hm=>by
    cases e:bK s.D id with
    |none=>exact absurd ((g.v.sub id).2 hm) (eH.1 e)
    |some d=>exact⟨d,rfl⟩
   obtain⟨O,hO⟩:=get ma;obtain⟨T,hT⟩:=get mb;have E:=g.p.ul;obtain⟨xO,kO⟩:=g.base (.inr ⟨na,hO⟩) (.inr ma);obtain⟨xT,kT⟩:=g.base (.inr ⟨nb,hT⟩) (.inr mb);have metQ:∀{o},Met s.L va vb o->Met q.L q.B[i].2 q.B[j].2 o:=λm=>by rw[g.p.eL,ev,ew];exact m
   have bs:∀{o B},Met s.L va vb o->yD s o B->Kf q o B/\Kin U B.2:=λm hB=>g.base hB (m.2.1.imp (λh=>h) λh=>h.1.right)
   refine Ra f.v e1 e2 p0 p3 f1 f2 hO hT (N:=n) a4 (λd hd=>(g.p.kin d (g.p.ed d hd)).few E) (λo B m hB=>⟨ado ((bs m hB).2.few E) (kT.few E) a4 a4,λc _=>acL _ _⟩) (λo B m hB e0 hne h64 s1 o1 L=>?_) λo B m hB hc h64 t1 s1 o1 S v64=>?_
   .refine⟨_,rfl,_,vc (L.get0 b) 1,_,a9p (L.get0 C),xa (f.upd0 L).f g.v.kd gd hnx g.p.nd hL hD x hi hj g.p.nb.up I ej (λh=>absurd h V) (λ_ _ h=>absurd (c1.1 h) f1) (λ_ _ _ h=>absurd (c2.1 h) f2) λ_ _ _ _=>⟨o,B,O,T,n,rL,metQ m,(bs m hB).1,ev.symm▸xO,ew.symm▸xT,(bs m hB).2.few E,kO.few E,kT.few E,a4,λ_ _ h69 s2 o2 J=>?_,λh=>absurd (h e0) hne⟩⟩
    exact pI ((o1.upd J λ_ _ h=>h).sl (W:=No) λ_ _ _ h=>h) o2 (by rw[bP];exact by have:=P9 (O:=O.2) (p:=p) (bs m hB).2.up kT.up;have:=((bs m hB).2.few E).len;have:=(kT.few E).len;omega) λh k=>zz ((L.tr J).tr k)
   .have kml:Kin U (jx B.2 O.2 T.2 p):=(bs m hB).2.merge kO kT p
    refine⟨_,rfl,_,vc (Z S mm) 1,_,a9p (aM S mm),xa (f.f1 S) g.v.kd gd hnx g.p.nd hL hD x hi hj g.p.nb.up I ej (λh=>absurd h V) (λ_ _ h=>absurd (c1.1 h) f1) (λ_ _ _ h=>absurd (c2.1 h) f2) λ_ _ _ _=>⟨o,B,O,T,n,t1,metQ m,(bs m hB).1,ev.symm▸xO,ew.symm▸xT,(bs m hB).2.few E,kO.few E,kT.few E,a4,λe0 hne=>absurd (hc e0) hne,λ_ h69 r2 s2 ts sB o2 u69 ht G=>?_⟩⟩
    rw[ev,ew]at G⊢;rw[g.p.eL,g.p.en,OI];obtain⟨D,ku⟩:=f.fin S v64 (.ver m1 (t1,jx B.2 O.2 T.2 p) (nz [va,vb])) u69 (λy hy=>TJ ht hy) G (g.p.ver g.v.inv hi I kml (λy hy=>hy) a4)
    have en:∀h2,Upd No h69 h2->K true h2:=λh2 k2=>hK _ _ _ _ (.ver m1 (t1,jx B.2 O.2 T.2 p) (nz [va,vb])) (D.upd0 k2) (Y.wide.tr (ku.tr k2.wide))
    have o1':=o1.upd u69 λy hy hr=>absurd (f.lt y (.inr (.inl hr))) (Nat.not_lt.2 hy)
    by_cases e0:(gu s.L s.nx (nz [va,vb])).1.2=0
    .rw[if_pos e0,if_pos e0]
     exact pI (o1'.sl (W:=No) λ_ _ _ h=>h) o2 (by rw[bP];exact by have:=P9 (O:=O.2) (p:=p) (bs m hB).2.up kT.up;have:=((bs m hB).2.few E).len;have:=(kT.few E).len;omega) en
    .rw[if_neg e0,if_neg e0]
     exact pI (l:= []) nil nil a6 en
  .
   refine⟨_,rfl,_,vc b 0,_,rfl,_,vc b 1,Va f.v g.p.nb g.p.ng (by have:=g.p.bl;omega) (by have:=g.p.tl;omega) λh112 s1 st1 hst1 o1 v1 u1=>⟨vc (Z u1 mm) 1,U3 (f.f1 u1) gd (by have:=g.p.bl;omega) (by have:=g.p.tl;omega) λh114 s2 st2 hst2 o2 G u2=>?_⟩⟩
   have est:∀y,y∈st2↔y∈st1:=λy=>by rw[hst1,hst2,g.p.eL]
   have exg:=g.lt xg (.inr (.inl (.inl rfl)));have o1':=o1.upd u2 λy hy e=>by have e:y=xg:=e;omega
   have e1:((eR q.L).filter λy=> !decide (y∈st2))=(eR s.L).filter λy=> !decide (y∈st1):=by
    rw[g.p.eL];exact fI λy _=>by simp only[est]
   have e2:(q.L.filter λv=>decide (v.1∈st2))=q.L.filter λv=>decide (v.1∈st1):=fI λy _=>by simp only[est]
   rw[e1]at o2;rw[e2]at G;refine P1 (o1'.sl (W:=No) λ_ _ _ h=>h) o2 (aO (bQ ..) (by rw[bP,<-g.p.eL];omega)) ?_
   rw[decide_eq_true rfl];exact fin u1 v1 (.prune st1) (u2.mono λy (e:y=xg)=>.inl (.inl e)) (by rfl) G (g.p.prune hst1)
  .refine⟨_,vc C 0,_,vc C 1,_,vc C 2,_,vc C 3,_,vc C 4,_,vc C 5,_,vc C 6,_,vc C 7,_,vc C 8,_,vc C 9,?_⟩
   exact Qa (a:=a) f hn b hX λh' s' q' U' e D k=>hK h' s' q' U' e D (Y.wide.tr k)
end
end
section
variable {x:Hs}{kind:Int}{W:dx}{K:Bool->dO}
theorem RU{h:ad}(m:kind=0\/kind=1){K:aT×Int->dO}(p:∀h' re xg xp,RefIs No h' kind x re []->h'[xg]? =some (.cells #[.slice none 0 0,.int .u32 1] 117 (0,0))->h'[xp]? =some (.cells (ry re++ [Value.pointer (some ⟨xg,0,none⟩),.slice none 0 0,.slice none 0 0,.slice none 0 0]).toArray 121 (0,0))->h.size<=xg->xg<xp->Upd No h h'->K (some ⟨xp,0,none⟩,0) h'):
  aao 16 [.int .i64 kind,.agg #[.int .u64 x.k0,.int .u64 x.k1,.int .u64 x.mask]] K h:=by
 refine Ms kind (x.k0,x.k1,x.mask) ?_;dsimp only[Fp,nv,AP,zh,pU,qE,vy,bh,ao,dK,iZ];refine aQ λw b1 k1=>⟨_,vc b1 0,_,vc b1 1,_,vc b1 2,?_⟩
 refine T4 (W:=No) (x:=x) m λv r q u=>?_
 refine aQ λy s t=>co (c:=ry KA) (vs:=ry r) s rfl λo g k=>ag.2 ⟨_,vc g 0,_,vc g 1,_,vc g 2,_,vc g 3,r.2.2.2.2,vc g 4,?_⟩
 have b:Upd No v o:=t.own k (aj _);have d:=(k1.tr u).tr b;refine aQ λj e f=>aQ λn i a=>p n r o.size j.size (q.upd0 ((b.tr f).tr a)) (a.get0 e) i d.size (bB e) ((d.tr f).tr a)
theorem Sg{h:ad}(f:kind=0\/kind=1){K:aT->dO}
  (H:∀h' st o j n re s q,s.kind=kind->s.x=x->Dz (· =st) h.size h' o j n re s q [] 0->h'[st]? =some (.cells #[.pointer (some ⟨o,0,none⟩),.pointer (some ⟨j,0,none⟩)] 41 (0,0))->h.size<=st->s.L= []->Upd No h h'->K (some ⟨st,0,none⟩) h'):
  fu 6 [.int .i64 kind,.agg #[.int .u64 x.k0,.int .u64 x.k1,.int .u64 x.mask]] K h:=by
 refine JD kind (x.k0,x.k1,x.mask) ?_;dsimp only[Cu,AP,zh,Zf,yK,iZ,ao];refine aQ λu b1 k1=>⟨_,vc b1 0,_,vc b1 1,_,vc b1 2,?_⟩
 have T:=k1.size;refine TK (W:=No) (x:=x) (λ_ h=>h.elim) f λE o gp gm tm bm nm t v U R B=>?_
 have w:=B.get0 b1;refine⟨_,vc w 0,_,vc w 1,_,vc w 2,?_⟩;refine Ii λJ g=>RU (x:=x) f λb re n j G S C X I k=>?_
 refine eQ (ag.2 (ag.2 (aQ λA m c=>?_)))
 have d:=(g.tr k).tr c;have V:=B.size;have P:=g.size;have Q:=bB C;have L:=c.size;have O:=bB m;have hM:∀y,VS.M ⟨gp,gm,tm,bm,nm,kind,x,t,[],1,[],[],[]⟩ y->u.size<=y/\y<E.size:=λy a=>⟨R y a,v.size a⟩
 obtain⟨N,p,D,F⟩:=G;have e:∀y,RW n j ⟨[],1,[],[],⟨none,0,0⟩,⟨none,0,0⟩,⟨none,0,0⟩,[],[]⟩ y->E.size<=y/\y<b.size:=λy a=>by
  rcases a with rfl|rfl|a
  .omega
  .omega
  .exact absurd a (Xf y)
 refine H A b.size o j n re ⟨gp,gm,tm,bm,nm,kind,x,t,[],1,[],[],[]⟩ ⟨[],1,[],[],⟨none,0,0⟩,⟨none,0,0⟩,⟨none,0,0⟩,[],[]⟩ rfl rfl ⟨v.re d (λ_ h=>h.elim) (λy a=>?_) λ_=>.inl,?_,λy a z=>?_,λy a=>?_,?_,λy a=>?_⟩ m (by have:=k.size;omega) rfl ((k1.tr B).tr d)
 .rcases a with a|a|a
  .exact⟨.inl (.inr a),by have:=hM y a;omega⟩
  .exact⟨.inr (e y a).1,by have:=e y a;omega⟩
  .have a:y=b.size:=a
   exact⟨.inr a4,a4⟩
 .refine⟨⟨⟨⟨none,0,0⟩,_,[],c.get0 S,Sl.nil OH,trivial,aj _⟩,.inr (.inl (.inl rfl)),λy a=>?_⟩,.inr (.inl (.inr (.inl rfl))),a4,c.get0 C,⟨N,p,⟨D.len,D.ne,λh=>absurd rfl h⟩,F⟩,OwnS.nil ZG,λy a=>absurd a (Xf y),Sl.nil uw,aj _,Sl.nil uw,aj _,rfl,λi u _=>by cases u⟩
  rcases a with a|a|a
  .have:=hM y a;omega
  .have:=e y a;omega
  .have a:y=b.size:=a
   omega
 .have:=hM y a;have:=e y z;omega
 .have a:y=b.size:=a
  exact⟨λhm=>by have:=hM y hm;omega,λz=>by have:=e y z;omega⟩
 .exact⟨rfl,rfl,.nil,.nil,λ_ h=>(by cases h),cj,λ_ h=>(by cases h),λ_ h=>(by cases h),aJ _,aJ _,λ_ h=>(by cases h),λ_ h=>(by cases h),aJ _,aJ _⟩
 .rcases a with a|a
  .have:=hM y a;omega
  .have:=e y a;omega
theorem abP{h:ad}{a:aa3}{k:dO}(g:∀h',h'[h.size]? =some (.cells (Fa a).toArray 35 (0,0))->Upd No h h'->k h'):
  At (hnew h [.int .u8 0,.string (⟨#[]⟩:c6),.string (⟨#[]⟩:c6),.int .u8 0,.int .u8 0,.int .u32 0,.string (⟨#[]⟩:c6),.string (⟨#[]⟩:c6),.bool false,.int .i64 0] 35) λb=>qV b (some (aR h)) 0 (Fa a)/\At (fS b (aR h) 0 (Fa a)) k:=
 aQ λ_ f d=>co (c:= [.int .u8 0,.string ⟨#[]⟩,.string ⟨#[]⟩,.int .u8 0,.int .u8 0,.int .u32 0,.string ⟨#[]⟩,.string ⟨#[]⟩,.bool false,.int .i64 0]) (vs:=Fa a) f rfl λj i e=>g j i (d.own e (aj _))
theorem aaO(a:aa3):(Fa a).length=10/\0<10:=⟨rfl,a4⟩
theorem UpG.keep{L:dA}{st:List Int}{a b:Int}(u:UpG L a b):(∀z,UpG L a z->z∈st)->UpG (L.filter λv=>decide (v.1∈st)) a b:=by
 have mem:∀{a},a∈eR L->a∈st->a∈eR (L.filter λv=>decide (v.1∈st)):=λ{a} h c=>by
  obtain⟨v,hv,e⟩:=be.1 h;exact be.2 ⟨v,List.mem_filter.2 ⟨hv,decide_eq_true (e▸c)⟩,e⟩
 induction u with
 |refl h=>exact λc=>.refl (mem h (c _ (.refl h)))
 |step h hp u ih=>
  rename_i a p b;intro c;have d:=c _ (.refl h);refine .step (p:=p) (mem h d) ?_ (ih λz f=>c z (.step h hp f))
  unfold parV at hp⊢;rw[tX (λj=>decide (j∈st)),if_pos (decide_eq_true d)]
  exact hp
theorem Xb(x:Hs)(lev:Nat)(l:bY):(iV x lev l).length+(j9 x lev l).flatten.length=l.length:=by
 have h:=xq x lev l 32;have d:(l.filter λp=>decide (ck x lev p.1<32))=l:=List.filter_eq_self.2 λp _=>decide_eq_true (zS ..)
 rw[d]at h;have:∀n,(fm (λc=>iP (part x lev c l)) n).length+(fm (λc=>iu (part x lev c l)) n).flatten.length=((List.range n).map λc=>(part x lev c l).length).sum:=by
  intro n;induction n with
  |zero=>simp[fm]
  |succ n ih=>
   rw[jN,jN,List.range_succ,List.map_append,List.sum_append];simp only[ae,fz,List.map_cons,List.map_nil,List.sum_cons,List.sum_nil,Nat.add_zero];generalize part x lev n l=q;have:(iP q).toList.length+(iu q).toList.flatten.length=q.length:=by
    match q with
    | []=>simp[iP,iu]
    | [a]=>simp[iP,iu]
    |a::b::q=>simp[iP,iu]
   omega
 have:=this 32;unfold iV j9;omega
theorem Su{h:ad}{m:Nat}{ks:List aT}:∀{ls:List bY},KidsAt W x h m ks ls->ks.length=ls.length/\∀i (hi:i<ls.length),∃b,ks[i]? =some (some ⟨b,0,none⟩)/\TrieAt W x h m b ls[i]:=by
 induction ks with
 |nil=>intro ls;cases ls with
  |nil=>intro _;exact⟨rfl,λi hi=>absurd hi (Nat.not_lt_zero _)⟩
  |cons a ls=>intro h;exact h.elim
 |cons k ks ihk=>intro ls;cases ls with
  |nil=>intro h;exact h.elim
  |cons a ls=>
   rintro⟨⟨b,rfl,tk⟩,h⟩;obtain⟨e,c⟩:=ihk h;refine⟨by simp[e],λi hi=>?_⟩
   cases i with
   |zero=>exact⟨b,rfl,tk⟩
   |succ i=>simp only[List.getElem?_cons_succ,List.getElem_cons_succ];exact c i (by simpa using hi)
theorem aah:∀(m:Nat),m<=13->∀{b:Nat} {l:bY} {h:ad},TrieAt W x h m b l->l.length<=60000->∀{K:Int->dO},(∀h',Upd No h h'->K (l.length:Int) h')->fK 106 [gZ b] K h:=by
 intro m;induction m with
 |zero=>
  intro _ b l h t T K D;refine Gg _ ?_;dsimp only[Am,qW,cz,jX,fj];have R:∀{h'},Upd No h h'->BuckAt W h' b l:=λk=>BuckAt.upd t k λ_ h=>h.elim
  obtain⟨sp,sk,ow,hb,o,hsk,_⟩:=(R (eM No h)).ex;refine p9 hb o a4 λV h1 q k1=>?_
  obtain⟨O,P,C,s,S,j,_⟩:=(R k1).ex;refine Ho s j a6 λU u p z=>?_
  have A:=p.len;rw[List.length_nil]at A;refine ez (λ(_:Unit) (t:Int×Int) h'=>t=((V.len:Int),0)/\h'=u) (λ_=>0) () ⟨rfl,rfl⟩ ?_
  rintro I _ t y ⟨rfl,e⟩ Z;rw[e];refine ar (λf=>absurd f (by(try simp only);omega)) λ_=>?_
  (try simp only)
  rw[q.len];exact D u (k1.tr z)
 |succ m ih=>
  intro hm b l h t T K D;refine Gg _ ?_;dsimp only[Am,qW,cz,jX,fj];obtain⟨sl,nd,H⟩:=t;have hs:∀c,c<32->SlotIs W x h m sl c (part x (12-m) c l):=H;have hd:∀{h'},Upd No h h'->∃d n sp sk ow,h'[b]? =some (.cells (eZ d n sp sk false ow) 324 (0,0))/\Sl dT 2 W h' sp (iV x (12-m) l)/\Sl qO 1 W h' sk (fm sl.k 32):=λ{h'} k=>by
   obtain⟨d,n,sp,sk,ow,hb,bits,y,h4,_⟩:=(nd.upd k λ_ h=>h.elim).ex
   refine⟨d,n,sp,sk,ow,hb,?_,h4⟩;rw[<-Hf hs];exact y
  have G:KidsAt W x h m (fm sl.k 32) (j9 x (12-m) l):=Nw 32 hs;have w:∀L∈j9 x (12-m) l,L.length<=60000:=λL hL=>by
   obtain⟨_,c,rfl⟩:=nN hL;exact aO jw T
  have Q:=Xb x (12-m) l;obtain⟨J,v⟩:=Su G;generalize iV x (12-m) l=So at hd Q;generalize j9 x (12-m) l=Ma at w Q J v;obtain⟨d,n,sp,sk,ow,hb,o,_⟩:=hd (eM No h);refine p9 hb o a4 λV h1 q k1=>?_
  obtain⟨d1,n1,O,P,C,s,_,j⟩:=hd k1;have Y:=zI (g:=sl.k);refine Ho s j a4 λU u p z=>?_
  have S2:Sl qO 1 No u U (fm sl.k 32):=p.sl λ_ _ _ h=>h
  have hlk:=S2.len;refine ez (λ(i:Nat) (t:Int×Int) h'=>t.1=((So.length+(Ma.take i).flatten.length:Nat):Int)/\t.2=(i:Int)/\i<=Ma.length/\Upd No u h') (λi=>Ma.length-i) 0 ⟨by rw[q.len];simp,rfl,aJ _,eM _ _⟩ ?_
  rintro I i ⟨tn,ti⟩ y ⟨X,A,hi,B⟩ Z;(try simp only at X A)
  subst X A;refine ar (λf=>?_) λN=>?_
  .have f:i<Ma.length:=by(try simp only at f);omega
   obtain⟨kb,E,tk⟩:=v i f;obtain⟨a,ha,_,hv⟩:=(S2.upd B λ_ h=>h.elim).at0 E
   refine⟨⟨by(try simp only);omega,by(try simp only);omega⟩,a,ha,some ⟨kb,0,none⟩,hv,?_⟩
   have o:(Ma.take i).flatten.length+Ma[i].length<=Ma.flatten.length:=by
    have e:Ma=Ma.take i++Ma[i]::Ma.drop (i+1):=by rw[List.getElem_cons_drop,List.take_append_drop]
    have:=congrArg (λL=>(List.flatten L).length) e
    simp only[fz,eX,ae]at this;omega
   refine ih a4 (TrieAt.upd0 ((k1.tr z).tr B) tk) (w _ (aF f)) λh4 k4=>?_
   (try simp only)
   rw[bN f a4,dI a4];refine Z (i+1) _ _ ⟨?_,rfl,f,B.tr k4⟩ a4;rw[List.take_succ_eq_append_getElem f,fz];simp only[eX,List.flatten_nil,List.append_nil,ae];omega
  .have F:i=Ma.length:=by(try simp only at N);omega
   subst F;(try simp only)
   rw[List.take_length,Q];exact D y ((k1.tr z).tr B)
theorem ZE{h:ad}{t:Tr}{l:bY}(i:TreeIs W h kind x t l)(g:bS l)(c:l.length<=60000){K:Int->dO}(d:∀h',Upd No h h'->K (l.length:Int) h'):fK 57 [Ap t] K h:=by
 rcases i with⟨rfl,b,rfl,a⟩|⟨rfl,b,rfl,a⟩
 .refine yQ _ ?_
  dsimp only[sP,bh,aE,kH,rC];refine aQ λj b1 k1=>⟨_,vc b1 0,ag.2 ⟨_,vc b1 4,?_⟩⟩
  exact aah 13 (aj _) (TrieAt.upd0 k1 a) c λf e=>d f (k1.tr e)
 .exact W6 (x:=x) (.inr ⟨rfl,b,rfl,a⟩) g c d
theorem Iu{W':dx}{h:ad}{s s':fD}{l:Bi}(g:Sl yd 2 W h s l)(c:Sl yd 2 W' h s' l)(q:l.length<=1000000)(o:K true h):gl 47 [.slice s.a s.len s.cap,.slice s'.a s'.len s'.cap] K h:=by
 refine dg (GC s s') QO Tryz.func47 Tryz.call47 ?_;dsimp only[GC,G6,ey,cM,jX,fj];have p:=g.len;have m:=c.len;refine eh (λd=>?_) λ_=>?_
 .rw[p,m]at d;simp at d
 refine ez (λ(i:Nat) (t:Int) h'=>t=(i:Int)/\i<=l.length/\h'=h) (λi=>l.length-i) 0 ⟨rfl,aJ _,rfl⟩ ?_
 rintro I i t h' ⟨rfl,hi,rfl⟩ n;refine ar (λb=>?_) λ_=>o
 have b:i<l.length:=a4
 obtain⟨a,k,_,hv⟩:=g.at (af b);obtain⟨a',f,_,j⟩:=c.at (af b);refine⟨⟨a4,a4⟩,a,k,_,hv 0 _ rfl,_,hv 1 _ rfl,⟨a4,a4⟩,a',f,_,j 0 _ rfl,_,j 1 _ rfl,?_⟩
 rw[dZ,decide_eq_true rfl];refine eh (λe=>absurd e a6) λ_=>?_
 rw[bN b a4];exact n (i+1) _ _ ⟨rfl,b,rfl⟩ a4
theorem Q8{h:ad}{a:Nat}{s:VS}(v:VaultAt W h a s)(n:c6){K:Int×Bool->dO}(b:K ((bK s.G n).getD 0,(bK s.G n).isSome) h):EZ 51 [pV a,.string n] K h:=by
 refine dg (sd (some ⟨a,0,none⟩) n) .nil Tryz.func51 Tryz.call51 ?_;dsimp only[sd,cz,cJ,Qm];exact eh (λe=>by cases e) λ_=>⟨_,rfl,_,vc v.blk 9,_,_,v.n.get n 0,b⟩
section
variable {X:dx} {z:Nat} {h:ad} {vp xp xg st:Nat} {re:Rt} {s:VS} {q:RS} {U:List c6} {n:Nat}
set_option maxHeartbeats 4000000 in
theorem XN(g:Dz X z h vp xp xg re s q U n)(hn:n<=200)(b:h[st]? =some (.cells #[.pointer (some ⟨vp,0,none⟩),.pointer (some ⟨xp,0,none⟩)] 41 (0,0)))  (hk:∀h',Upd No h h'->K true h'):
  gl 18 [gZ st] K h:=by
 refine dg (xX (some ⟨st,0,none⟩)) Ft Tryz.func18 Tryz.call18 ?_;dsimp only[xX,cz,tx,ey,ff,dE,nv,Kk,uj,rC,rx,cO,pW,AN,uk,Ev,ge,iC,dK,pU,qE,bR,oE,my,bh,ao,aE,cJ,yz,wU,G6,cM,jX,fj,vx,wT,Qq,Kp,OF,sM,xG,uK,fY,bo,uJ];refine⟨_,rfl,_,vc b 0,Vb g.v λh4 k4 gr=>?_⟩
 obtain⟨sg,tg,Ls,bg,lg,pg,cg⟩:=g.f.r.blk;rw[g.p.eL]at pg;rw[g.p.en]at bg;have lenL:sg.len=s.L.length:=by rw[lg.len,pg.len]
 have fw:=g.v.inv.few;have hbl:=g.p.bl;have htl:=g.p.tl;have two:∀v∈s.L,v.2.length*4<=140737488355328:=λv hv=>by have:=g.v.inv.good.two v hv;omega
 have key:∀{h'},Upd No h h'->h'[st]? =some (.cells #[.pointer (some ⟨vp,0,none⟩),.pointer (some ⟨xp,0,none⟩)] 41 (0,0))/\h'[xp]? =some (.cells (adX re xg q).toArray 121 (0,0))/\h'[xg]? =some (.cells #[sv sg,.int .u32 s.nx] tg (0,0)):=λk=>⟨k.get0 b,k.get0 g.f.blk,k.get0 bg⟩
 refine eF (λt h'=>t=false/\Upd No h4 h') (λR hR=>?_) ?_
 .obtain⟨b4,x4,y4⟩:=key k4
  refine⟨_,rfl,_,vc b4 0,_,rfl,_,vc b4 1,_,rfl,q.sB,vc x4 7,MX (g.upd0 k4).v g.p.nb a4 λh13 s13 o13 Y=>?_⟩
  obtain⟨b13,x13,y13⟩:=key (k4.tr Y);refine⟨vc x13 7,vc b13 1,Iu (o13.sl (W:=No) λ_ _ _ h=>h) ((g.upd0 (k4.tr Y)).f.b) a4 ⟨vc b13 1,ag.2 ⟨_,rfl,_,vc b13 0,_,rfl,_,vc b13 1,_,rfl,q.sT,vc x13 8,WU (g.upd0 (k4.tr Y)).v g.p.ng a4 λh23 s23 o23 k23=>?_⟩⟩⟩
  obtain⟨w,x23,y23⟩:=key ((k4.tr Y).tr k23);have gr23:=gr.upd0 (Y.tr k23);refine⟨vc x23 8,vc w 1,vc w 1,Iu (o23.sl (W:=No) λ_ _ _ h=>h) ((g.upd0 ((k4.tr Y).tr k23)).f.t) a4 ⟨vc w 1,vc w 1,ag.2 ⟨_,rfl,_,vc w 1,_,rfl,_,vc x23 5,_,rfl,sg,vc y23 0,aat gr23 ⟨vc y23 0,vc x23 5,vc w 1,vc w 1,vc w 1,eh (λe=>absurd e (by rw[lenL];simp)) λ_=>?_⟩⟩⟩⟩
  refine⟨_,rfl,_,vc w 1,_,rfl,_,vc x23 5,_,rfl,_,vc y23 1,X2 gr23 ⟨vc y23 1,vc x23 5,vc w 1,vc y23 0,vc x23 5,vc w 1,vc w 1,vc w 1,hR _ _ ⟨bne_self_eq_false _,Y.tr k23⟩⟩⟩
 .rintro _ h43 ⟨rfl,k43⟩
  have k043:=k4.tr k43;obtain⟨b43,x43,y43⟩:=key k043;have lB:=g.f.b.len;have lT:=g.f.t.len;refine ag.2 ⟨_,rfl,_,vc b43 1,_,rfl,q.sB,vc x43 7,?_⟩;refine ez (λ(i:Nat) (t:Int) h'=>t=(i:Int)/\i<=q.B.length/\Upd No h43 h') (λi=>q.B.length-i) 0 ⟨rfl,aJ _,eM _ _⟩ ?_
  rintro I i t h50 ⟨rfl,hi,k50⟩ hI;have J:=k043.tr k50;obtain⟨b50,x50,y50⟩:=key J;refine ar (λf=>?_) λ_=>⟨_,rfl,_,vc b50 1,_,rfl,q.sT,vc x50 8,?_⟩
  .have f:i<q.B.length:=by omega
   obtain⟨a,ha,_,hv⟩:=(g.upd0 J).f.b.at (af f);refine⟨⟨a4,a4⟩,a,ha,_,hv 0 _ rfl,_,hv 1 _ rfl,aQ λh54 b54 k54=>co (c:= [.string ⟨#[]⟩,.int .u32 0]) (vs:=yd q.B[i]) b54 rfl λh55 b55 u55=>?_⟩
   have V:Upd No h50 h55:=k54.own u55 (aj _);refine⟨_,rfl,_,vc (key (J.tr V)).1 0,_,vc b55 0,ir (g.upd0 (J.tr V)).v _ ?_⟩;rw[g.p.nb.at f];refine eQ (ag.2 ⟨_,vc b55 1,eh (λe=>absurd e a6) λ_=>?_⟩)
   rw[bN (n:=q.B.length) f a4];exact hI (i+1) _ _ ⟨rfl,f,k50.tr V⟩ a4
  refine ez (λ(i:Nat) (t:Int) h'=>t=(i:Int)/\i<=q.T.length/\Upd No h50 h') (λi=>q.T.length-i) 0 ⟨rfl,aJ _,eM _ _⟩ ?_
  rintro I j t h71 ⟨rfl,hj,k71⟩ hI;have L:=J.tr k71;obtain⟨b71,x71,y71⟩:=key L;refine ar (λf=>?_) λ_=>⟨_,rfl,_,vc b71 1,_,rfl,_,vc x71 5,_,rfl,sg,vc y71 0,?_⟩
  .have f:j<q.T.length:=by omega
   obtain⟨a,ha,_,hv⟩:=(g.upd0 L).f.t.at (af f);refine⟨⟨a4,a4⟩,a,ha,_,hv 0 _ rfl,_,hv 1 _ rfl,aQ λh54 b54 k54=>co (c:= [.string ⟨#[]⟩,.int .u32 0]) (vs:=yd q.T[j]) b54 rfl λh55 b55 u55=>?_⟩
   have V:Upd No h71 h55:=k54.own u55 (aj _);refine⟨_,rfl,_,vc (key (L.tr V)).1 0,_,vc b55 0,Q8 (g.upd0 (L.tr V)).v _ ?_⟩;rw[g.p.ng.at f];refine eQ (ag.2 ⟨_,vc b55 1,eh (λe=>absurd e a6) λ_=>?_⟩)
   rw[bN (n:=q.T.length) f a4];exact hI (j+1) _ _ ⟨rfl,f,k71.tr V⟩ a4
  refine ez (λ(i:Nat) (t:Int) h'=>t=(i:Int)/\i<=s.L.length/\Upd No h71 h') (λi=>s.L.length-i) 0 ⟨rfl,aJ _,eM _ _⟩ ?_
  rintro I i t h94 ⟨rfl,hi,k94⟩ hI;have m:=L.tr k94;refine ar (λf=>?_) λhge=>?_
  .have f:i<s.L.length:=by omega
   have hlt2:i<Ls.length:=by rw[pg.len];exact f
   obtain⟨pe,pn⟩:=pg.get hlt2 f;obtain⟨a,ha,_,hv⟩:=(lg.upd m λ_ h=>h.elim).at (af hlt2)
   have hmem:s.L[i]∈s.L:=aF f;have hid:s.L[i].1∈eR s.L:=be.2 ⟨_,hmem,rfl⟩;have hpos:=g.v.inv.pos _ hid;obtain⟨d,hd⟩:∃d,bK s.D s.L[i].1=some d:=by
    cases e:bK s.D s.L[i].1 with
    |none=>exact absurd ((g.v.sub _).2 hid) (eH.1 e)
    |some d=>exact⟨d,rfl⟩
   have hdm:=kV hd;have hqd:=g.p.ed _ hdm;have S:d.2.length<=60000:=by have:=((g.p.kin _ hqd).few g.p.ul).len;(try simp only at this);omega
   have hB:Kf q s.L[i].1 d:=.inr ⟨a4,by rw[g.p.eL];exact hid,(eS g.p.nd).2 hqd⟩
   have hDl:q.D.length<=100000:=by have:=g.p.dl;omega
   have hL':q.L.length<=1024:=by rw[g.p.eL];exact fw
   have hps:(bK s.L s.L[i].1).getD []=s.L[i].2:=by
    have hm:(s.L[i].1,s.L[i].2)∈s.L:=hmem;rw[(eS g.v.inv.good.nd).2 hm];rfl
   refine⟨⟨a4,a4⟩,a,ha,_,hv 0 _ rfl,Ls[i].2,hv 1 _ rfl,?_⟩
   refine aQ λh98 b98 k98=>co (c:= [.int .u32 0,.slice none 0 0]) (vs:=vf Ls[i]) b98 rfl λh99 b99 u99=>?_
   have k99:Upd No h94 h99:=k98.own u99 (aj _);have N:=m.tr k99;refine eF (λ(t:Addr×Int) h'=>∃ub,t=(⟨ub,0,none⟩,0)/\h'[ub]? =some (.cells (iM d.1).toArray 53 (0,0))/\Upd No h99 h') (λR hR=>?_) ?_
   .refine⟨_,rfl,_,vc (key N).1 0,_,vc b99 0,?_,aQ λh175 b175 k175=>⟨vc (k175.get0 b99) 0,vc (key (N.tr k175)).1 0,?_⟩⟩
    .rw[pe]
     refine xh (g.upd0 N).v s.L[i].1 (λe=>a4) (λd' C _ h172 k172=>?_) λe=>by rw[hd]at e;cases e
     rw[hd]at C;cases C;refine aQ λh173 b173 k173=>co (c:=iM rL) (vs:=iM d.1) b173 rfl λh174 b174 u174=>hR _ _ ⟨_,rfl,b174,(k172.tr k173).own u174 k172.size⟩
    .rw[pe]
     refine xh (g.upd0 (N.tr k175)).v s.L[i].1 (λe=>a4) (λd' C _ h177 k177=>?_) λe=>by rw[hd]at e;cases e
     rw[hd]at C;cases C;exact co (c:=iM rL) (vs:=iM d.1) (k177.get0 b175) rfl λh178 b178 u178=>hR _ _ ⟨_,rfl,b178,(k175.tr k177).own u178 (aj _)⟩
   .rintro⟨ua,ue⟩ h180 ⟨ub,eu,bu,H⟩
    obtain⟨rfl,rfl⟩:=Prod.mk.inj eu;have p:=N.tr H;refine eF (λ(t:Addr) h'=>∃ur r,t=⟨ur,0,none⟩/\h'[ur]? =some (.cells (ry r).toArray 111 (0,0))/\RefIs (DW X s xg xp q) h' s.kind s.x r d.2/\Upd No h180 h') (λR hR=>?_) ?_
    .refine⟨_,rfl,_,vc (key p).1 1,_,vc (H.get0 b99) 0,?_,aQ λh215 b215 P=>⟨vc ((H.tr P).get0 b99) 0,vc (key (p.tr P)).1 1,?_⟩⟩
     .rw[pe]
      refine Er (g.upd0 p).f g.p.nd hB a4 hDl λh212 r jr0 k212=>?_
      refine aQ λh213 b213 k213=>co (c:=ry KA) (vs:=ry r) b213 rfl λh214 b214 u214=>?_
      exact hR _ _ ⟨_,r,rfl,b214,jr0.upd0 (k213.own u214 (aj _)),(k212.tr k213).own u214 k212.size⟩
     .rw[pe]
      refine Er ((g.upd0 p).f.mv (W':=λy=>DW X s xg xp q y\/y=h180.size) P (λ_ h=>h.elim) (λy hy=>⟨hy.imp id λe=>Nat.le_of_eq e.symm,hy.elim (λhy=>aD (g.lt y hy) (p.tr P).size) λe=>e▸bB b215⟩) λy hy=>.inl (.inr (.inl hy))) g.p.nd hB a4 hDl λh217 r jr0 k217=>?_
      refine co (c:=ry KA) (vs:=ry r) (k217.get0 b215) rfl λh218 b218 u218=>?_
      have jr1:RefIs (λy=>DW X s xg xp q y\/y=h180.size) h217 s.kind s.x r d.2:=jr0
      exact hR _ _ ⟨_,r,rfl,b218,(jr1.updM u218 λy e=>.inl (.inr e)).less λy hy=>.inl (.inl hy),(P.tr k217).own u218 (aj _)⟩
    .rintro _ h220 ⟨ur,r,rfl,br,jr,Q⟩
     have k0220:=p.tr Q;refine eF (λt h'=>t=false/\Upd No h220 h') (λR hR=>?_) ?_
     .have b220:=(H.tr Q).get0 b99
      refine ag.2 ⟨_,vc b220 0,Ls[i].2,vc b220 1,?_⟩;rw[pe];have gr220:=gr.upd0 (k43.tr ((k50.tr k71).tr (k94.tr (k99.tr (H.tr Q)))));refine PW gr220 s.L[i].1 two λs' h225 o F=>⟨vc (F.get0 b220) 1,?_⟩
      rw[hps]at o;refine P1 (W:=No) (W':=DW X s xg xp q) (o.sl λ_ _ _ h=>h) (pn.upd (k0220.tr F) λ_ h=>h.elim) (by have:=g.v.inv.good.two _ hmem;omega) ?_
      rw[decide_eq_true rfl];have x:=F.get0 (Q.get0 bu);have u:=F.get0 br;obtain⟨i1,i2,i3⟩:=(g.upd0 (k0220.tr F)).v.ts _ hdm;refine ag.2 ⟨_,vc x 0,_,vc x 1,_,vc x 2,_,vc x 3,_,vc x 4,_,vc x 5,_,vc u 0,_,vc u 1,_,vc u 2,_,vc u 3,r.2.2.2.2,vc u 4,?_⟩;refine EA i1 i2 i3 S λs1 h240 xs tv o1 k240=>?_
      have D:=k240.get0 u;refine⟨⟨vc D 0,vc D 1,vc D 2,vc D 3,vc D 4⟩,Vr g.v.kd ((jr.upd0 F).upd0 k240) i2 i3 S λs2 h242 ys o2 tv2 k242=>?_⟩
      have exy:xs=ys:=(ON (λ_=>rfl) tv tv2 i3 i3 S S i2 i2).2 rfl
      subst exy;have hl:=Vd tv i3 S;exact Vt ((o1.upd k242 λ_ _ h=>h).sl (W:=No) λ_ _ _ h=>h) (o2.sl (W:=No) λ_ _ _ h=>h) a4 (hR _ _ ⟨rfl,(F.tr k240).tr k242⟩)
     .rintro _ h246 ⟨rfl,k246⟩
      rw[bN (n:=s.L.length) f a4];exact ag.2 (hI (i+1) _ _ ⟨rfl,f,((k94.tr k99).tr (H.tr Q)).tr k246⟩ a4)
  .have hnx:s.nx∉eR s.L:=λhm=>by have:=(g.v.inv.pos _ hm).2;omega
   have hnD:bK s.D s.nx=none:=eH.2 λhm=>hnx ((g.v.sub _).1 hm)
   have nx1:=g.v.inv.nx1;obtain⟨b94,x94,y94⟩:=key m;refine eF (λ(t:Int) h'=>t=4/\Upd No h94 h') (λR hR=>?_) ?_
   .refine⟨_,rfl,_,vc b94 0,_,rfl,_,vc b94 1,_,rfl,_,vc x94 5,_,rfl,_,vc y94 1,?_,aQ λh260 b260 k260=>?_⟩
    .refine xh (g.upd0 m).v s.nx (λe=>a4) (λd' C=>by rw[hnD]at C;cases C) λ_ _ h257 Z=>?_
     obtain⟨b257,x257,y257⟩:=key (m.tr Z);refine⟨vc x257 5,vc b257 1,aQ λh258 b258 k258=>?_⟩
     obtain⟨b2,x2,y2⟩:=key ((m.tr Z).tr k258);exact⟨vc x2 5,vc b2 1,co (c:=iM rL) (vs:=iM rL) b258 rfl λh259 b259 u259=>hR _ _ ⟨rfl,(Z.tr k258).own u259 Z.size⟩⟩
    .obtain⟨b2,x2,y2⟩:=key (m.tr k260)
     refine⟨vc y2 1,vc x2 5,vc b2 1,vc b2 0,xh (g.upd0 (m.tr k260)).v s.nx (λe=>a4) (λd' C=>by rw[hnD]at C;cases C) λ_ _ h262 k262=>?_⟩
     obtain⟨b3,x3,y3⟩:=key ((m.tr k260).tr k262);exact⟨vc x3 5,vc b3 1,co (c:=iM rL) (vs:=iM rL) (k262.get0 b260) rfl λh263 b263 u263=>hR _ _ ⟨rfl,(k260.tr k262).own u263 (aj _)⟩⟩
   .rintro _ h265 ⟨rfl,k265⟩
    have T:=m.tr k265;refine⟨_,rfl,_,vc (key T).1 0,xh (g.upd0 T).v 0 (λ_ h269 k269=>?_) (λ_ _ e=>absurd rfl e) λ_ e=>absurd rfl e⟩
    refine aQ λh270 b270 k270=>co (c:=iM rL) (vs:=iM s.e) b270 rfl λh271 B u271=>?_
    have k271:Upd No h265 h271:=(k269.tr k270).own u271 k269.size;have E:=T.tr k271;refine ay.2 (ay.2 ⟨_,vc B 0,_,vc B 1,_,vc B 2,_,vc B 3,_,vc B 4,_,vc B 5,ZE (g.upd0 E).v.em cj a6 λh279 O=>ay.2 ?_⟩)
    have A:=O.get0 B;refine⟨_,vc A 0,_,vc A 1,_,vc A 2,_,vc A 3,_,vc A 4,_,vc A 5,_,rfl,_,vc (key (E.tr O)).1 0,Lk (g.upd0 (E.tr O)).v λh289 k289=>?_⟩
    have G:=k289.get0 A;have em:=(g.upd0 ((E.tr O).tr k289)).v.em;refine⟨⟨vc G 0,vc G 1,vc G 2,vc G 3,vc G 4,vc G 5⟩,W5 em em cj (λ_ h=>by cases h) a6 cj (λ_ h=>by cases h) a6 λh291 k291=>?_⟩
    rw[Si];exact hk _ (((E.tr O).tr k289).tr k291)
end
end
section
variable {x:Hs}{h:ad}{kind:Int}
theorem Rf(j:kind≠0)(e:kind≠1){K:Tr×Int->dO}(g:∀h',Upd No h h'->K (rL,11) h'):Kl 59 [.int .i64 kind,.agg #[.int .u64 x.k0,.int .u64 x.k1,.int .u64 x.mask]] K h:=by
 refine JC kind (x.k0,x.k1,x.mask) ?_;dsimp only[Ct,dE,AP,zh,uj,rC,my,bh,ao,aE,iZ];refine aQ λf b1 k1=>aQ λk b2 d=>?_
 rw[beq_eq_false_iff_ne.2 j,beq_eq_false_iff_ne.2 e];refine ag.2 (ag.2 ?_);refine co (c:=iM rL) (vs:=iM rL) b2 rfl λi a b=>?_
 exact⟨_,vc a 0,_,vc a 1,_,vc a 2,_,vc a 3,_,vc a 4,_,vc a 5,g i ((k1.tr d).own b k1.size)⟩
theorem RL(j:kind≠0)(e:kind≠1){K:Rt×Int->dO}(g:∀h',Upd No h h'->K (KA,11) h'):AQ 46 [.int .i64 kind,.agg #[.int .u64 x.k0,.int .u64 x.k1,.int .u64 x.mask]] K h:=by
 refine Mu kind (x.k0,x.k1,x.mask) ?_;dsimp only[Fq,dE,AP,pU,vy,bh,ao,dK,iZ];refine aQ λf b1 k1=>aQ λk b2 d=>?_
 rw[beq_eq_false_iff_ne.2 j,beq_eq_false_iff_ne.2 e];refine ag.2 (ag.2 ?_);refine co (c:=ry KA) (vs:=ry KA) b2 rfl λi a b=>?_
 exact⟨_,vc a 0,_,vc a 1,_,vc a 2,_,vc a 3,⟨none,0,0⟩,vc a 4,g i ((k1.tr d).own b k1.size)⟩
theorem CX(j:kind≠0)(e:kind≠1){K:aT×Int->dO}(d:∀h',Upd No h h'->K (none,11) h'):
  aao 16 [.int .i64 kind,.agg #[.int .u64 x.k0,.int .u64 x.k1,.int .u64 x.mask]] K h:=by
 refine Ms kind (x.k0,x.k1,x.mask) ?_;dsimp only[Fp,nv,AP,zh,pU,qE,vy,bh,ao,dK,iZ];refine aQ λg b1 k1=>⟨_,vc b1 0,_,vc b1 1,_,vc b1 2,?_⟩
 refine RL (x:=x) j e λn i=>?_
 exact aQ λk f b=>co (c:=ry KA) (vs:=ry KA) f rfl λo m a=>ay.2 (d _ ((k1.tr i).tr (b.own a (aj _))))
theorem Nu(i:kind≠0)(g:kind≠1){K:aT->dO}(j:∀h',Upd No h h'->K none h'):
  fu 6 [.int .i64 kind,.agg #[.int .u64 x.k0,.int .u64 x.k1,.int .u64 x.mask]] K h:=by
 refine JD kind (x.k0,x.k1,x.mask) ?_;dsimp only[Cu,AP,zh,Zf,yK,iZ,ao];refine aQ λq b1 k1=>⟨_,vc b1 0,_,vc b1 1,_,vc b1 2,Gb kind (x.k0,x.k1,x.mask) ?_⟩
 dsimp only[Ad,bh,ao,nv,AP,zh,aE,uj,rC,my,iZ,wU];refine aQ λu b2 o=>⟨_,vc b2 0,_,vc b2 1,_,vc b2 2,Rf (x:=x) i g λy s=>?_⟩
 refine aQ λw m n=>co (c:=iM rL) (vs:=iM rL) m rfl λt v d=>ay.2 ?_
 have a:=(o.tr s).tr (n.own d (aj _));have b:=a.get0 b1;exact⟨_,vc b 0,_,vc b 1,_,vc b 2,Ii λk e=>CX i g λp f=>eQ (ag.2 (ay.2 (j _ ((k1.tr a).tr (e.tr f)))))⟩
set_option maxHeartbeats 1000000 in
theorem Kv{sl:fD}{c:List aa3}(P:Sl Fa 10 No h sl c)(hl:c.length<=9223372036854775807)(hr:∀a∈c,0<=a.2.2.2.1/\0<=a.2.2.2.2.1):
  gl 4 [.int .i64 kind,.agg #[.int .u64 x.k0,.int .u64 x.k1,.int .u64 x.mask],.slice sl.a sl.len sl.cap] (λb h'=>b=true/\Upd No h h') h:=by
 refine dg (xY kind (x.k0,x.k1,x.mask) sl) Fv Tryz.func4 Tryz.call4 ?_;dsimp only[xY,tx,T0,ey,cM,ga,nv,AP,zh,Zf,zl1,vl1,adG,jX,fj,iZ,ao,aaS,bh,ut,ff,bo,iR];have lsl:=P.len;refine aQ λH b1 k1=>Tb λK N=>ag.2 ?_
 have w:=N.get0 b1;have o:=k1.tr N;have s3:=o.size;refine⟨_,vc w 0,_,vc w 1,_,vc w 2,?_⟩;by_cases n:kind=0\/kind=1
 .refine Sg (x:=x) n λY st A B L re s q _ _ D8 b8 X _ z=>ag.2 ?_
  refine eF (λ_ h'=>∃s' q' U' n',Dz (· =st) K.size h' A B L re s' q' U' n'/\n'<=30/\h'[st]? =some (.cells #[.pointer (some ⟨A,0,none⟩),.pointer (some ⟨B,0,none⟩)] 41 (0,0))/\Upd No h h') (λR S=>?_) ?_
  .refine ez (λ(g:Nat×VS×RS×List c6) (t:Int) h'=>t=(g.1:Int)/\g.1<=c.length/\g.1<=30/\Dz (· =st) K.size h' A B L re g.2.1 g.2.2.1 g.2.2.2 g.1/\h'[st]? =some (.cells #[.pointer (some ⟨A,0,none⟩),.pointer (some ⟨B,0,none⟩)] 41 (0,0))/\Upd No h h') (λg=>c.length-g.1) (0,s,q,[]) ⟨rfl,aJ _,aJ _,D8,b8,o.tr z⟩ ?_
   rintro I ⟨i,s,q,U⟩ t h11 ⟨rfl,hi,m,D,p,k⟩ Q;(try simp only at hi m D Q⊢)
   have s11:=k.size;refine ar (λj=>?_) λhge=>S _ _ ⟨s,q,U,i,D,m,p,k⟩
   have j:i<c.length:=a4
   obtain⟨a,ha,_,hv⟩:=(P.upd k λ_ h=>h.elim).at (af j)
   obtain⟨ra,T⟩:=hr _ (aF j);refine⟨⟨a4,a4⟩,a,ha,_,hv 0 _ rfl,_,hv 1 _ rfl,_,hv 2 _ rfl,_,hv 3 _ rfl,_,hv 4 _ rfl,_,hv 5 _ rfl,_,hv 6 _ rfl,_,hv 7 _ rfl,_,hv 8 _ rfl,_,hv 9 _ rfl,?_⟩
   refine abP (a:=c[i]) λV d f=>ar (λC=>S _ _ ⟨s,q,U,i,D.upd0 f,m,f.get0 p,k.tr f⟩) λC=>⟨_,vc d 0,_,vc d 1,_,vc d 2,_,vc d 3,_,vc d 4,_,vc d 5,_,vc d 6,_,vc d 7,_,vc d 8,_,vc d 9,?_⟩
   refine aaA (a:=c[i]) (D.upd0 f) a4 (f.get0 p) rfl ra T λh37 s' q' U' _ D' u=>ag.2 ?_
   rw[mK j hl];exact Q (i+1,s',q',U') _ _ ⟨rfl,j,a4,D',u.get (f.get0 p) λhm=>hm.elim (D.xd st rfl).1 (D.xd st rfl).2,(k.tr f).fresh u λy Z=>by have:=D.lo y Z;omega⟩ (by(try simp only);omega)
  .rintro _ h46 ⟨s',q',U',n',D,hn,p,E⟩
   exact XN D a4 p λW J=>⟨rfl,E.tr J⟩
 .have O:kind≠0:=λe=>n (.inl e)
  have H:kind≠1:=λe=>n (.inr e)
  refine Nu (x:=x) O H λY z=>ay.2 ?_
  have G:=z.get0 w;exact⟨_,vc G 0,_,vc G 1,_,vc G 2,Ii λh13 v=>CX O H λh15 F=>⟨rfl,((o.tr z).tr v).tr F⟩⟩
end
end Go.Proofs
