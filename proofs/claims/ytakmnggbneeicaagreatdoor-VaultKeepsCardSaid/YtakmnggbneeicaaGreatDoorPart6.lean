/- A part of the proof that the named laws of this program answer true, whatever the input. -/
import Derived.Test.YtakmnggbneeicaaGreatDoorPart5
import Derived.Test.YtakmnggbneeicaaGreatDoorPart3
open Int renaming le_refl->eC
open List renaming mem_map->aR,length_map->bS,mem_filter->bL,getElem_mem->aG
open Nat renaming lt_of_lt_of_le->aA,not_lt->df,zero_le->aK,le_trans->aQ
namespace Go.Lift
open Go
section
variable {κ β:Type} {E:KeyE κ} {g:β->Value} [DecidableEq κ]
theorem EZ{α:Type}(a:α)(f:α->α):∀l:List α,(l++ [a]).modify l.length f=l++ [f a]
 | []=>rfl
 |x::l=>by simp only[List.cons_append,List.length_cons,List.modify_succ_cons,EZ a f l]
theorem MapAt.entry{h:ad}{r:Nat}{m:List (κ×β)}(hm:MapAt E g h r m){k:κ}(i:bE m k=none)(z:Value):
  ∃n:Nat,Rm E.ck h r (E.enc k) n/\Ro (fC h r (E.enc k) z) r (n:Int)/\∀v,Qw (fC h r (E.enc k) z) r (n:Int) v=fC h r (E.enc k) v:=by
 obtain⟨ms,a,hm,rfl⟩:=hm;have f:(ms.map (Ae E g)).findIdx? (λe=>fi (E.enc k) e.key)=none:=by
  rw[List.findIdx?_eq_none_iff];intro e b;obtain⟨x,hx,rfl⟩:=aR.1 b;refine Bool.eq_false_iff.2 λp=>?_
  have e:=(E.same _ _).1 p;refine dJ.1 i (aR.2 ⟨(x.k,x.v),aR.2 ⟨x,hx,rfl⟩,e.symm⟩)
 have c:∀v,fC h r (E.enc k) v=h.setIfInBounds r (.map (ms.map (Ae E g)++ [({key:=E.enc k,val:=v,born:=a}:MapEntry)]).toArray (a+1)):=λv=>by
  have:=Gn (E.enc k) v a (ms.map (Ae E g));rw[f]at this;simp only[fC,hm.here,<-this]
 have j:=bw hm.here;have d:∀o:Obj,(h.setIfInBounds r o)[r]? =some o:=λo=>by simp[j]
 have hi:∀v,(ms.map (Ae E g)++ [({key:=E.enc k,val:=v,born:=a}:MapEntry)]).toArray.findIdx? (λe=>(e.born:Int)==(a:Int))=some ms.length:=λv=>by
  rw[List.findIdx?_toArray,List.findIdx?_append,List.findIdx?_eq_none_iff.2 ?_]
  .simp[List.findIdx?_cons]
  .intro e b
   obtain⟨x,hx,rfl⟩:=aR.1 b;have:=hm.old x hx;simp only[Ae,beq_eq_false_iff_ne,ne_eq];omega
 refine⟨a,⟨_,hm.here,hm.keysOf,by simpa using f⟩,?_,λv=>?_⟩
 .rw[c]
  exact⟨_,_,_,d _,hi z⟩
 .rw[c z,c v]
  simp only[Qw,d,hi];rw[Array.setIfInBounds_setIfInBounds];congr 2
  apply Array.ext';have:=EZ ({key:=E.enc k,val:=z,born:=a}:MapEntry) (λe=>{e with val:=v}) (ms.map (Ae E g))
  rw[bS]at this;simpa using this
end
end Go.Lift
namespace Go.Proofs
open Go.Lift
theorem Re{β:Type}(p:Int->Bool):∀(L:List (Int×β)) (j:Int),bE (L.filter λv=>p v.1) j=if p j then bE L j else none
 | [],j=>by simp[bE]
 |v::L,j=>by
  rw[List.filter_cons];by_cases a:p v.1=true
  .rw[if_pos a]
   unfold bE;by_cases e:j=v.1
   .rw[if_pos e,if_pos e,if_pos (by rw[e];exact a)]
   .rw[if_neg e,if_neg e];exact Re p L j
  .rw[if_neg a,Re p L j]
   conv=>rhs;unfold bE
   by_cases e:j=v.1
   .rw[if_pos e,if_neg (by rw[e];exact a),if_neg (by rw[e];exact a)]
   .rw[if_neg e]
theorem Evo.keep{s s':VS}(e:Evo s s')(inv:Inv s.L s.nx):s.nx<=s'.nx/\∀j,j<s.nx->(∀d,bE s'.D j=some d->bE s.D j=some d)/\(j∈dM s'.L->bE s'.L j=bE s.L j):=by
 cases e with
 |names=>exact⟨eC _,λj _=>⟨λd h=>h,λ_=>rfl⟩⟩
 |ver n d ps=>
  unfold xF;by_cases b:(fF s.L s.nx ps).1.2=0
  .rw[if_neg (by simpa using b),Ab b]
   refine⟨cd,λj a=>⟨λc h'=>?_,λ_=>?_⟩⟩
   .simp only at h'
    rwa [lZ,if_neg a4]at h'
   .simp only
    rw[KV (λhm=>by have:=(inv.pos _ hm).2;omega),if_neg a4]
  .rw[if_pos b]
   exact⟨eC _,λj _=>⟨λd h=>h,λ_=>rfl⟩⟩
 |prune st=>
  refine⟨eC _,λj _=>⟨λd h=>?_,λh=>?_⟩⟩
  .simp only at h
   have a:j∈st:=by
    obtain⟨v,hv,e⟩:=aR.1 (aR.2 ⟨_,iH h,rfl⟩:j∈((s.D.filter λv=>decide (v.1∈st)).map (·.1)))
    have:=of_decide_eq_true (bL.1 hv).2;rwa [e]at this
   rwa [Re (λj=>decide (j∈st)),if_pos (decide_eq_true a)]at h
  .simp only at h⊢
   obtain⟨v,hv,e⟩:=aR.1 h;have a:j∈st:=by
    have:=of_decide_eq_true (bL.1 hv).2;rwa [e]at this
   rw[pM (λj=>decide (j∈st)),if_pos (decide_eq_true a)]
section
variable {A A' M:eh} {h h':ad} {z vp xp xg sm pm:Nat} {re:Rt} {s s':VS} {q:RS} {U:List dO} {n:Nat}
theorem Dz.grow(g:Dz A z h vp xp xg re s q U n)(k:Upd M h h')(hm:∀b,M b->A b\/h.size<=b)(c:∀y,A' y->(A y\/h.size<=y)/\y<h'.size):Dz A' z h' vp xp xg re s q U n:=by
 have d:∀b,DW A' s xg xp q b->(DW A s xg xp q b\/h.size<=b)/\b<h'.size:=λb hb=>by
  have f:=k.size;rcases hb with hb|hb|hb
  .exact⟨.inl (.inl hb),aA (g.lt b (.inl hb)) f⟩
  .exact⟨.inl (.inr (.inl hb)),aA (g.lt b (.inr (.inl hb))) f⟩
  .exact⟨(c b hb).1.imp (λe=>.inr (.inr e)) id,(c b hb).2⟩
 refine⟨g.v.re k (λb hb=>(hm b hb).imp (λe=>⟨.inr (.inr e),(g.xd b e).1⟩) id) d λy a=>.inl a,g.f.mv k (λb hb=>(hm b hb).imp (λe=>⟨.inr (.inr e),(g.xd b e).2⟩) id) d λy a=>.inr (.inl a),g.a,λy a=>?_,g.p,g.lo⟩
 rcases(c y a).1 with e|e
 .exact g.xd y e
 .exact⟨λhm=>absurd (g.lt y (.inl hm)) (df.2 e),λi=>absurd (g.lt y (.inr (.inl i))) (df.2 e)⟩
structure Kp(A:eh)(h:ad)(sm pm:Nat)(s:VS)(S P:List (Int×f9)):Prop where
 ms:MapAt KE sv h sm S
 mp:MapAt KE sv h pm P
 ne:sm≠pm
 am:A sm/\A pm
 lt:∀j sl,bE S j=some sl->j<s.nx
 ok:∀j sl,bE S j=some sl->∃xs sp ps,OwnS vo 1 5 (λb=>A b/\b≠sm/\b≠pm) h sl xs/\bE P j=some sp/\OwnS u32 1 33 (λb=>A b/\b≠sm/\b≠pm) h sp ps/\(∀d,bE s.D j=some d->IC s.kind s.x d.2 xs)/\(j∈dM s.L->ps=(bE s.L j).getD [])
variable {S P:List (Int×f9)}
theorem Kp.upd(w:Kp A h sm pm s S P)(k:Upd M h h')(hm:∀y,A y->¬M y)(a:∀y,A y->A' y):Kp A' h' sm pm s S P:=
 ⟨w.ms.upd k (hm _ w.am.1),w.mp.upd k (hm _ w.am.2),w.ne,⟨a _ w.am.1,a _ w.am.2⟩,w.lt,λj sl i=>by
  obtain⟨xs,sp,ps,c,e,d,f,g⟩:=w.ok j sl i
  exact⟨xs,sp,ps,(c.upd k λb hb=>hm b hb.1).more λb hb=>⟨a b hb.1,hb.2⟩,e,(d.upd k λb hb=>hm b hb.1).more λb hb=>⟨a b hb.1,hb.2⟩,f,g⟩⟩
theorem Kp.evo(w:Kp A h sm pm s S P)(e:Evo s s')(inv:Inv s.L s.nx)(sub:∀id,id∈s'.D.map (·.1)↔id∈dM s'.L)(b:∀id,id∈s.D.map (·.1)↔id∈dM s.L):Kp A h sm pm s' S P:=by
 obtain⟨m,f⟩:=e.keep inv;obtain⟨_,ek,ex⟩:=e.same;refine⟨w.ms,w.mp,w.ne,w.am,λj sl a=>Int.lt_of_lt_of_le (w.lt j sl a) m,λj sl a=>?_⟩
 obtain⟨xs,sp,ps,c,e,g,i,n⟩:=w.ok j sl a;obtain⟨k1,k⟩:=f j (w.lt j sl a);refine⟨xs,sp,ps,c,e,g,λd hd=>ek▸ex▸i d (k1 d hd),λa=>(k a).symm▸n ?_⟩
 obtain⟨v,hv,e⟩:=aR.1 ((sub j).2 a);cases hd:bE s'.D j with
 |none=>exact absurd ((sub j).2 a) (dJ.1 hd)
 |some d=>exact(b j).1 (aR.2 ⟨_,iH (k1 d hd),rfl⟩)
end
theorem WZ{h:ad}{k:eu}(a:∀h',MapAt KE sv h' h.size []->h'.size=h.size+1->Upd No h h'->k h'):At (h.push (.map #[] 0)) k:=
 a _ (MapAt.new h) a7 (Upd.push No h _)
section
variable {A A' B:eh} {h h':ad} {z vp xp xg st sm pm:Nat} {re:Rt} {s:VS} {q:RS} {U:List dO} {n:Nat} {S P:List (Int×f9)}
theorem Kp.put(w:Kp A h sm pm s S P){id:Int}{f a:f9}{xs:c6}{ps:List Int}(n:id<s.nx)(C:OwnS vo 1 5 B h f xs)(u:OwnS u32 1 33 B h a ps)
  (m:∀y,A y->A' y)(o:∀y,B y->y<h.size->A' y/\y≠sm/\y≠pm)(x:∀d,bE s.D id=some d->IC s.kind s.x d.2 xs)(D:id∈dM s.L->ps=(bE s.L id).getD []):
  Kp A' (fC (fC h sm (.int .u32 id) (sv f)) pm (.int .u32 id) (sv a)) sm pm s (kw S id f) (kw P id a):=by
 have i:Upd (· =sm) h (fC h sm (.int .u32 id) (sv f)):=jN h _ _ rfl
 have p:MapAt KE sv (fC h sm (.int .u32 id) (sv f)) sm (kw S id f):=w.ms.put id f;have G:=w.mp.upd i w.ne.symm;generalize fC h sm (.int .u32 id) (sv f)=g at*;have k:Upd (· =pm) g (fC g pm (.int .u32 id) (sv a)):=jN g _ _ rfl
 have v:MapAt KE sv (fC g pm (.int .u32 id) (sv a)) pm (kw P id a):=G.put id a;have q:=p.upd k w.ne;generalize fC g pm (.int .u32 id) (sv a)=g2 at*;refine⟨q,v,w.ne,⟨m _ w.am.1,m _ w.am.2⟩,λj sl c=>?_,λj sl c=>?_⟩
 .rw[lZ]at c
  by_cases e:j=id
  .rw[e];exact n
  .rw[if_neg e]at c;exact w.lt j sl c
 .rw[lZ]at c
  by_cases e:j=id
  .rw[if_pos e]at c
   cases c;subst e;refine⟨xs,a,ps,?_,by rw[lZ,if_pos rfl],?_,x,D⟩
   .exact((C.within.more λb hb=>o b hb.1 hb.2).upd i λb hb=>hb.2.1).upd k λb hb=>hb.2.2
   .exact((u.within.more λb hb=>o b hb.1 hb.2).upd i λb hb=>hb.2.1).upd k λb hb=>hb.2.2
  .rw[if_neg e]at c
   obtain⟨xs,sp,ps,z,H,E,F,t⟩:=w.ok j sl c;exact⟨xs,sp,ps,((z.upd i λb hb=>hb.2.1).upd k λb hb=>hb.2.2).more λb hb=>⟨m b hb.1,hb.2⟩,by rw[lZ,if_neg e];exact H,((E.upd i λb hb=>hb.2.1).upd k λb hb=>hb.2.2).more λb hb=>⟨m b hb.1,hb.2⟩,F,t⟩
structure Kz(A:eh)(z:Nat)(h:ad)(vp xp xg st sm pm:Nat)(re:Rt)(s:VS)(q:RS)(U:List dO)(n:Nat)(S P:List (Int×f9)):Prop where
 d:Dz A z h vp xp xg re s q U n
 w:Kp A h sm pm s S P
 b:h[st]? =some (.cells #[.pointer (some ⟨vp,0,none⟩),.pointer (some ⟨xp,0,none⟩)] 43 (0,0))
 a:A st/\st≠sm/\st≠pm
theorem Kz.upd0(g:Kz A z h vp xp xg st sm pm re s q U n S P)(k:Upd No h h'):Kz A z h' vp xp xg st sm pm re s q U n S P:=
 ⟨g.d.upd0 k,g.w.upd k (λ_ _ h=>h) λ_ h=>h,k.get0 g.b,g.a⟩
end
set_option maxHeartbeats 4000000 in
theorem Jp{h:ad}{k:Int}{x:Hs}{sl:f9}{o:List Y0}(tb:Tab h)(hs:Sl El 10 No h sl o)(hl:o.length<=9223372036854775807)(hr:∀a∈o,0<=a.2.2.2.1/\0<=a.2.2.2.2.1)(hk0:0<=k)(hk1:k<=255):
  eI 3 [.int .u8 k,.agg #[.int .u64 x.k0,.int .u64 x.k1,.int .u64 x.mask],.slice sl.a sl.len sl.cap] (λb h'=>b=true/\Upd No h h') h:=by
 refine cZ (xy k (x.k0,x.k1,x.mask) sl) Ez Tryz.func3 Tryz.call3 ?_;dsimp only[xy,uY,Sh,dT,cP,fL,nv,Cj,yi,zl1,vl1,abp,tD,wJ,uJ,qY,UR,mE,bh,ai,aF,uK,cB,fE,jz,li,BD,dC,cL,Em,YR,tK,iw,bq,iu];have hkk:=aaO hk0 hk1;generalize IntKind.wrap .i64 (Int.tmod k 2)=kind at hkk;have lsl:=hs.len;refine aV λh1 b1 k1=>Rb λh3 k3=>ag.2 ⟨a8,?_⟩
 have c3:=k3.get0 b1;have k13:=k1.tr k3;have s3:=k13.size;refine⟨_,vc c3 0,_,vc c3 1,_,vc c3 2,Qz (x:=x) hkk λh8 st vp xp xg re s q _ _ D8 b8 zst _ k8=>ag.2 (WZ λh9 m9 z9 k9=>WZ λh10 m10 z10 V=>?_)⟩
 have z8:=k8.size;have st8:=bw b8;obtain⟨z,esm⟩:∃y,y=h8.size:=⟨_,rfl⟩;obtain⟨pm,epm⟩:∃y,y=h9.size:=⟨_,rfl⟩;rw[<-esm]at m9⊢;rw[<-epm]at m10⊢;have D10:Dz (λy=>y=st\/y=z\/y=pm) h3.size h10 vp xp xg re s q [] 0:=D8.grow (k9.tr V) (λ_ h=>h.elim) λy f=>by
  rcases f with rfl|rfl|rfl
  .exact⟨.inl rfl,a4⟩
  .exact⟨.inr a4,a4⟩
  .exact⟨.inr a4,a4⟩
 have W10:Kp (λy=>y=st\/y=z\/y=pm) h10 z pm s [] []:=⟨m9.upd V (λh=>h),m10,a4,⟨.inr (.inl rfl),.inr (.inr rfl)⟩,λ_ _ e=>(by cases e),λ_ _ e=>(by cases e)⟩
 refine eF (λ(g:Nat×VS×RS×List dO×(eh)×List (Int×f9)×List (Int×f9)) (t:Int) h'=>t=(g.1:Int)/\g.1<=o.length/\g.1<=30/\Kz g.2.2.2.2.1 h3.size h' vp xp xg st z pm re g.2.1 g.2.2.1 g.2.2.2.1 g.1 g.2.2.2.2.2.1 g.2.2.2.2.2.2/\Upd No h h') (λg=>o.length-g.1) (0,s,q,[],_,[],[]) ⟨rfl,aK _,aK _,⟨D10,W10,(k9.tr V).get0 b8,.inl rfl,a4,a4⟩,(k13.tr k8).tr (k9.tr V)⟩ ?_
 rintro I ⟨i,s,q,U,A,S,P⟩ t h13 ⟨rfl,hi,h30,Z,E⟩ hI;(try simp only at hi h30 Z hI⊢)
 refine aq (λQ=>?_) λ_=>⟨by simp,E⟩
 have Q:i<o.length:=a4
 obtain⟨a,ha,_,hv⟩:=(hs.upd E λ_ h=>h.elim).at (List.getElem?_eq_getElem Q)
 obtain⟨ra,rb⟩:=hr _ (aG Q);refine⟨⟨a4,a4⟩,a,ha,_,hv 0 _ rfl,_,hv 1 _ rfl,_,hv 2 _ rfl,_,hv 3 _ rfl,_,hv 4 _ rfl,_,hv 5 _ rfl,_,hv 6 _ rfl,_,hv 7 _ rfl,_,hv 8 _ rfl,_,hv 9 _ rfl,?_⟩
 refine ZJ (a:=o[i]) λh25 p X=>aq (λ_=>⟨by simp,E.tr X⟩) λhgt=>⟨_,vc p 0,_,vc p 1,_,vc p 2,_,vc p 3,_,vc p 4,_,vc p 5,_,vc p 6,_,vc p 7,_,vc p 8,_,vc p 9,?_⟩
 have Z25:=Z.upd0 X;refine Yw (a:=o[i]) Z25.d a4 Z25.b Z.a.1 ra rb λh38 s' q' U' ev D' u=>?_
 have xd:∀y,A y->¬DM s xg xp q y:=λy f hm=>hm.elim (Z25.d.xd y f).1 (Z25.d.xd y f).2
 have Z38:Kz A h3.size h38 vp xp xg st z pm re s' q' U' (i+1) S P:=⟨D',(Z25.w.upd u xd λ_ h=>h).evo ev Z25.d.v.inv D'.v.sub Z25.d.v.sub,u.get Z25.b (xd _ Z.a.1),Z.a⟩
 have k38:Upd No h h38:=(E.tr X).fresh u λy f=>by have:=Z25.d.lo y f;omega
 clear D' xd u Z25 Z E p hv X D10 W10 D8 b8 m9 m10;have gd:=Z38.d.v.inv.good;have fw:=Z38.d.v.inv.few;have lA:∀y,A y->y<h38.size:=λy f=>Z38.d.lt y (.inr (.inr f))
 have lsm:=lA _ Z38.w.am.1;have lpm:=lA _ Z38.w.am.2;have two:∀v∈s'.L,v.2.length*4<=140737488355328:=λv hv=>by have:=gd.two v hv;omega
 refine⟨_,rfl,_,vc Z38.b 0,Tj Z38.d.v λh42 k42 gr=>SQ gr gd.up a4 λs43 h44 o43 k44=>?_⟩
 have l43:=o43.len;have lids:(dM s'.L).length=s'.L.length:=bS ..;have s42:=k42.size;have gr44:=gr.upd0 k44;have H:=k42.tr k44;have s44:=H.size;have sl43:Nums (λy=>y=z\/y=pm) h44 s43 (dM s'.L):=o43.sl λb hb _ e=>by rcases e with e|e<;>omega
 refine eF (λ(g:Nat×(eh)×List (Int×f9)×List (Int×f9)) (t:Int) h'=>t=(g.1:Int)/\g.1<=(dM s'.L).length/\Kz g.2.1 h3.size h' vp xp xg st z pm re s' q' U' (i+1) g.2.2.1 g.2.2.2/\Upd (λy=>y=z\/y=pm) h44 h') (λg=>(dM s'.L).length-g.1) (0,A,S,P) ⟨rfl,aK _,Z38.upd0 H,eQ _ _⟩ ?_
 clear lA;rintro I2 ⟨j,A,S,P⟩ t O ⟨rfl,hj,Z,N⟩ hI2;(try simp only at hj Z hI2⊢)
 have s47:=N.size;refine aq (λF=>?_) λ_=>?_
 .have F:j<(dM s'.L).length:=by omega
  obtain⟨a,ha,_,hx⟩:=Nums.at (sl43.upd N λ_ h=>.inl h) F
  obtain⟨id,eid⟩:∃id,id=(dM s'.L)[j]:=⟨_,rfl⟩;have mid:id∈dM s'.L:=eid▸aG F;have pid:=Z.d.v.inv.pos id mid;rw[<-eid]at hx;refine eM (λ_ h'=>∃A' S' P',Kz A' h3.size h' vp xp xg st z pm re s' q' U' (i+1) S' P'/\Upd (λy=>y=z\/y=pm) O h') (λR hR=>⟨⟨a4,a4⟩,a,ha,_,hx,_,rfl,_,vc Z.b 0,?_⟩) ?_
  .refine NB Z.d.v id (λe=>absurd e a4) (λd hd _ h54 k54=>?_) λe=>absurd ((Z.d.v.sub id).2 mid) (dJ.1 e)
   refine aV λh55 b55 k55=>cy (c:=jJ wI) (vs:=jJ d.1) b55 rfl λh56 m u56=>?_
   have J:Upd No O h56:=(k54.tr k55).own u56 k54.size;have Z56:=Z.upd0 J;have Y:=(gr44.upd N λy f=>.inl (by
    rcases f with rfl|rfl
    .exact⟨.inl (.inr (.inr Z38.w.am.1)),a4,a4⟩
    .exact⟨.inl (.inr (.inr Z38.w.am.2)),a4,a4⟩)).upd0 J
   have hdm:=iH hd;obtain⟨i1,i2,i3⟩:=Z56.d.v.ts _ hdm;have C:d.2.length<=60000:=by have:=((Z.d.p.kin _ (Z.d.p.ed _ hdm)).few Z.d.p.ul).len;(try simp only at this);omega
   have get:=Z56.w.ms.get id ⟨none,0,0⟩;cases hS:bE S id with
   |none=>
    rw[hS]at get;refine⟨_,_,get,aw.2 ⟨_,vc m 0,_,vc m 1,_,vc m 2,_,vc m 3,_,vc m 4,_,vc m 5,Ki i1 i2 i3 C λD h66 xs tv o65 k66=>E5 (Y.upd0 k66) id two λs67 w o67 k68=>?_⟩⟩
    have G:=J.tr (k66.tr k68);have Z68:=Z.upd0 G;have lA:∀y,A y->y<O.size:=λy f=>Z.d.lt y (.inr (.inr f))
    have s56:=J.size;have s66:=k66.size;have W:=Z68.w.put (A':=λy=>A y\/(O.size<=y/\y<w.size)) (B:=λy=>h56.size<=y) (id:=id) pid.2 (o65.upd k68 λ_ _ h=>h) (o67.more λy f=>aQ s66 f) (λy f=>.inl f) (λy f hz=>⟨.inr ⟨aQ s56 f,hz⟩,a4,a4⟩) (λd' hd'=>by rw[hd]at hd';cases hd';exact tv) λ_=>rfl
    obtain⟨n,e1,e2,e3⟩:=Z68.w.ms.entry hS (sv ⟨none,0,0⟩);have e3':Qw (fC w z (.int .u32 id) (.slice none 0 0)) z (n:Int) (.slice D.a D.len D.cap)=fC w z (.int .u32 id) (sv D):=e3 _;refine⟨_,rfl,n,e1,bF ⟨_,rfl,e2,bF ?_⟩⟩;rw[e3'];have u1:Upd (· =z) w (fC w z (.int .u32 id) (sv D)):=jN w _ _ rfl
    refine⟨_,rfl,(Z68.w.mp.upd u1 Z68.w.ne.symm).isMap,bF ?_⟩;have u2:Upd (· =pm) (fC w z (.int .u32 id) (sv D)) (fC (fC w z (.int .u32 id) (sv D)) pm (.int .u32 id) (sv s67)):=jN _ _ _ rfl
    have uu:Upd (λy=>y=z\/y=pm) w (fC (fC w z (.int .u32 id) (sv D)) pm (.int .u32 id) (sv s67)):=(u1.mono λ_ e=>.inl (.inl e)).tr (u2.mono λ_ e=>.inl (.inr e))
    have ku:Upd (λy=>y=z\/y=pm) O _:=(G.mono λ_ h=>h.elim).tr uu
    refine hR _ _ ⟨_,_,_,⟨Z.d.grow ku (λy f=>.inl (f.elim (λe=>e▸Z.w.am.1) λe=>e▸Z.w.am.2)) λy f=>?_,W,uu.get Z68.b (λe=>e.elim Z.a.2.1 Z.a.2.2),.inl Z.a.1,Z.a.2⟩,ku⟩
    have:=G.size;rcases f with f|⟨f,hz⟩
    .have:=lA y f;exact⟨.inl f,aA (show y<w.size by omega) uu.size⟩
    .exact⟨.inr f,aA hz uu.size⟩
   |some sl0=>
    rw[hS]at get;obtain⟨xs,sp,ps,o1,eP,o2,t1,t2⟩:=Z56.w.ok id sl0 hS;refine⟨_,_,get,ag.2 (eM (λt h'=>t=false/\Upd No h56 h') (λR' hR'=>⟨_,vc m 0,_,vc m 1,_,vc m 2,_,vc m 3,_,vc m 4,_,vc m 5,Ki i1 i2 i3 C λs83 h84 ys tv o83 L=>?_⟩) ?_)⟩
    .have exy:xs=ys:=(Vh (λ_=>rfl) (t1 d hd) tv i3 i3 C C i2 i2).2 rfl
     subst exy;have hxl:=Tm tv i3 C;refine TH (o83.sl (W:=No) λ_ _ _ h=>h) ((o1.upd L λ_ _ h=>h).sl (W:=No) λ_ _ _ h=>h) a4 (ag.2 ?_)
     have g2:=(Z56.upd0 L).w.mp.get id ⟨none,0,0⟩;rw[eP]at g2;refine⟨_,_,g2,E5 (Y.upd0 L) id two λs89 h90 o89 k90=>?_⟩
     have g3:=(Z56.upd0 (L.tr k90)).w.mp.get id ⟨none,0,0⟩;rw[eP]at g3;have hps:=t2 mid;subst hps;refine⟨g3,OT (o89.sl (W:=No) λ_ _ _ h=>h) ((o2.upd (L.tr k90) λ_ _ h=>h).sl (W:=No) λ_ _ _ h=>h) ?_ ?_⟩
     .cases e:bE s'.L id with
      |none=>simp
      |some l=>have h2:=gd.two _ (iH e);(try simp only at h2);simp only[Option.getD_some];omega
     .rw[decide_eq_true rfl]
      have T:=L.tr k90;have K:=T.get0 m;refine ag.2 ⟨_,vc K 0,_,vc K 1,_,vc K 2,_,vc K 3,_,vc K 4,_,vc K 5,?_⟩;have kk:Upd (λy=>y=z\/y=pm) h h90:=((k38.tr H).wide.tr N).tr ((J.tr T).wide)
      exact To ((Z56.upd0 T).d.v.ts _ hdm).1 (tb.upd kk a4) i2 C λh100 k100=>hR' _ _ ⟨rfl,T.tr k100⟩
    .rintro _ h102 ⟨rfl,k102⟩
     exact ag.2 (hR _ _ ⟨A,S,P,Z56.upd0 k102,(J.tr k102).wide⟩)
  .rintro _ h104 ⟨A',S',P',Z',k'⟩
   rw[cf (n:=(dM s'.L).length) F a4];exact hI2 (j+1,A',S',P') _ _ ⟨rfl,F,Z',N.tr k'⟩ (by(try simp only);omega)
 .rw[mI Q hl]
  exact hI (i+1,s',q',U',A,S,P) _ _ ⟨rfl,Q,a4,Z,(k38.tr H).fresh N λy f=>by rcases f with rfl|rfl<;>omega⟩ (by(try simp only);omega)
end Go.Proofs
