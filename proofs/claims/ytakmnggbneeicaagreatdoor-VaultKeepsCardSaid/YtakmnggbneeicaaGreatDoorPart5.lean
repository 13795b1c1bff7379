/- A part of the proof that the named laws of this program answer true, whatever the input. -/
import Derived.Test.YtakmnggbneeicaaGreatDoorPart4
import Derived.Test.YtakmnggbneeicaaGreatDoorPart3
import Derived.Shelf.SlLaysF0
import Derived.Test.YtakmnggbneeicaaGreatDoorTreeF0
import Derived.Shelf.Lays2
import Derived.Shelf.Sort.Plain
import Derived.Shelf.Slices.In.SortNone
import Derived.Shelf.SlSortCmp.NoneTotal
import Derived.Shelf.Spec.SearchS
import Derived.Laws.Cover1
import Derived.Sort.AssemblyPlain
import Derived.Test.YtakmnggbneeicaaGreatDoorPart0
import Derived.Test.YtakmnggbneeicaaGreatDoorPart2
import Derived.Test.YtakmnggbneeicaaGreatDoorPart1
open Array renaming size->az,length_toList->d9,getElem?_modify->mo
open BitVec renaming ofInt->aB,toNat_and->nV,ofInt_natCast->ij
open Bool renaming and_eq_true->bA
open ByteArray renaming size_extract->ly
open Classical renaming byContradiction->nX
open Go.IntKind renaming wrap->ac,bits->ak
open Int renaming tdiv->qc,tdiv_eq_ediv_of_nonneg->nq,fdiv->dX
open List renaming filter_cons->aZ,length_singleton->aP,mem_append->aL,take_succ_eq_append_getElem->ax,mem_singleton->av,length_append->ae,take_of_length_le->aS,length_filter_le->bP,filter_append->ct,getElem_map->jd,filter_nil->iB,append_nil->aX,getElem?_eq_getElem->af,getElem_mem->aG,getElem?_toArray->dD,getElem?_append_left->bR,getElem?_append_right->bB,getElem?_eq_none->mh,mem_cons->au,mem_map->aR,pairwise_iff_getElem->bQ,pairwise_cons->aC,flatten_append->gg,length_cons->ar,length_map->bS,filter_congr->eY,mem_filter->bL,getElem_of_mem->bJ,length_set->iA,mem_append_left->ci,mem_append_right->cr,mem_cons_of_mem->ay
open List.Pairwise renaming nil->cq
open List.Perm renaming refl->qb
open Nat renaming le_refl->aj,zero_le->aK,le_trans->aQ,lt_of_lt_of_le->aA,beq->aO,zero_add->aU,le_of_eq->cI,mul_comm->tg,mul_le_mul_right->db,mul_le_mul_left->ge,testBit_zero->kJ,testBit_succ->gQ,eq_zero_or_pos->dQ,zero_testBit->fy,eq_of_testBit_eq->hE,testBit_and->iz,mod_eq_of_lt->eN,lt_or_ge->cp,le_succ->j4,not_lt->df
open Prod renaming mk->oL
namespace Go.Proofs
open Go.Lift
section
variable {W:eh}{h:ad}{K:f9->eu}
theorem Par.filter(p:Int->Bool):∀{l:List (Int×f9)} {m:de},Par W h l m->Par W h (l.filter λv=>p v.1) (m.filter λv=>p v.1)
 | [],[],_=>trivial
 |v::l,u::m,q=>by
  rw[aZ,aZ,q.1];split
  .exact⟨q.1,q.2.1,Par.filter p q.2.2⟩
  .exact Par.filter p q.2.2
 | [],_::_,q=>q.elim
 |_::_,[],q=>q.elim
theorem W2{M:eh}{so:f9}{out:List (Int×f9)}{v:Int×f9}(d:OwnS vf 2 207 M h so out)(hM:∀b,h.size<=b->M b)(g:out.length<=1000000000)
  (c:∀s' h',OwnS vf 2 207 M h' s' (out++ [v])->Upd M h h'->K s' h'):
  ∃xs,SRow (hnew h [.int .u32 v.1,.slice v.2.a v.2.len v.2.cap] 207) (some (aH h)) (1*2) xs/\AppP (some [.int .u32 0,.slice none 0 0]) 2 32 207 so.a so.len so.cap 1 xs (hnew h [.int .u32 v.1,.slice v.2.a v.2.len v.2.cap] 207) K:=by
 have k:=fD No h [.int .u32 v.1,.slice v.2.a v.2.len v.2.cap] 207;have e:OwnS vf 2 207 (λ_=>True) (hnew h [.int .u32 v.1,.slice v.2.a v.2.len v.2.cap] 207) ⟨some (aH h),1,1⟩ [v]:=⟨rfl,Nz,aj _,.inr ⟨h.size,[],rfl,trivial,bV ..,rfl⟩⟩
 refine⟨_,(e.sl (W:=No) λ_ _ _ h=>h).srow,?_⟩
 refine AppP.own (ys:= [v]) (d.upd k λ_ _ h=>h) rfl rfl rfl rfl a4 (by simp only[aP];omega) (hM _ (by rw[dA];omega)) λs' h' a f=>?_
 exact c s' h' a ((fD M h _ _).tr f)
theorem UX{x:Nat}{L:de}{nx:Int}(g:RefAt W h x L nx)(gd:Good L){s:f9}{keep:List Int}(hs:Nums W h s keep)(hn:keep.length<=1000)
  (F:∀s' h' (st:List Int),(∀y,y∈st↔∃k∈keep,UpG L k y)->Nums (λb=>b<h.size) h' s' ((dM L).filter λy=> !decide (y∈st))->RefAt W h' x (L.filter λv=>decide (v.1∈st)) nx->Upd (· =x) h h'->K s' h'):
  dS 74 [gV x,.slice s.a s.len s.cap] K h:=by
 refine cZ (IR (some ⟨x,0,none⟩) s) Rz Tryz.func74 Tryz.call74 ?_;dsimp only[IR,iw,tD,ee,LK,PL,PM,uK,cB,fE,cL,iL,dh,uR,cj,UF,dT,nv,jz,rU];have hL:=gd.len;refine eF (λ(m:Nat×List Int) (t:f9×Int) h'=>t.2=(m.1:Int)/\m.1<=keep.length/\Upd No h h'/\OwnS u32 1 33 (λb=>h.size<=b) h' t.1 m.2/\(∀y,y∈m.2↔∃k∈keep.take m.1,UpG L k y)/\m.2.length<=m.1*100000) (λm=>keep.length-m.1) (0,[])
  ⟨rfl,aK _,eQ _ _,OwnS.nil j7,λy=>a7,aK _⟩ ?_
 rintro I ⟨i,st⟩ ⟨so,t⟩ h' ⟨ht,hi,n,ho,E,T⟩ hI;(try simp only at ht hi ho E T)
 subst ht;have hs1:Nums W h' s keep:=hs.upd n λ_ h=>h.elim
 refine aq (λc=>?_) λhge=>?_
 .rw[hs.len]at c
  have c:i<keep.length:=a4
  obtain⟨a,ha,_,hx⟩:=Nums.at hs1 c;refine fo ⟨by rw[hs.len];omega,a,ha,_,hx,wM (g.upd0 n) gd _ λs1 h1 xs hx1 Q V J=>?_⟩
  have hxl:xs.length<=L.length:=by
   have:=mK (hx1.imp λh=>Int.ne_of_lt h) (l':=dM L) λy hy=>((Q y).1 hy).right
   simpa using this
  refine⟨_,V.srow,?_⟩;refine AppP.own (ys:=xs) (ho.upd J λ_ _ h=>h) V.len rfl (pJ xs) rfl a4 a4 (aQ n.size J.size) λs2 S ho2 d=>?_
  (try simp only)
  rw[cf c a4];refine hI (i+1,st++xs) _ _ ⟨rfl,c,(n.tr J).trans d λb hb=>.inr hb,ho2,λy=>?_,?_⟩ (by(try simp only);omega)
  ·(try simp only)
   rw[aL,E,Q,ax c];constructor
   .rintro(⟨k,F,n⟩|n)
    .exact⟨k,List.mem_append_left _ F,n⟩
    .exact⟨_,List.mem_append_right _ (av.2 rfl),n⟩
   .rintro⟨k,F,n⟩
    rcases aL.1 F with F|F
    .exact .inl ⟨k,F,n⟩
    .rw[av.1 F]at n;exact .inr n
  .simp only[ae]
   rw[Nat.succ_mul];omega
 .rw[hs.len]at hge
  rw[aS a4]at E;have g1:=g.upd0 n;obtain⟨Z,t0,Ls,h1,S,h3,hcap⟩:=g1.blk;have G:=h3.len;refine⟨_,rfl,Z,by rw[co,ba h1];rfl,?_⟩
  have hst:Nums No h' so st:=ho.sl λ_ _ _ h=>h
  have P:st.length<=4611686018427387904:=a4
  refine eF (λ(m:Nat×(eh)×(eh)) (t:f9×f9×Int) f=>t.2.2=(m.1:Int)/\m.1<=L.length/\Upd No h' f/\OwnS u32 1 33 m.2.1 f t.1 (((dM L).take m.1).filter λy=> !decide (y∈st))/\
    OwnS vf 2 207 m.2.2 f t.2.1 ((Ls.take m.1).filter λv=>decide (v.1∈st))/\(∀b,m.2.1 b->¬m.2.2 b)/\(∀b,m.2.1 b\/m.2.2 b->h'.size<=b/\b<f.size)) (λm=>L.length-m.1) (0,No,No)
   ⟨rfl,aK _,eQ _ _,OwnS.nil j7,OwnS.nil Nz,λ_ h=>h.elim,λ_ h=>h.elim (λh=>h.elim) λh=>h.elim⟩ ?_
  rintro I2 ⟨j,A,B⟩ ⟨out,left,t⟩ f ⟨ht,hj,d,w,p,u,e⟩ Y;(try simp only at ht hj w p u e)
  subst ht;have R:=S.upd d λ_ h=>h.elim
  refine aq (λc=>?_) λq=>?_
  .have c:(j:Int)<(Z.len:Int):=c
   rw[S.len,G]at c;have c:j<L.length:=a4
   obtain⟨a,ha,c0,c1⟩:=LY R (G▸c);obtain⟨e1,e2⟩:=h3.get (G▸c) c;obtain⟨q1,O,D⟩:=P0 f 207 (.int .u32 0) (.slice none 0 0) (Ls[j]'(G▸c));refine fo ⟨by show(0:Int)<=(j:Int)/\(j:Int)<(Z.len:Int);rw[S.len,G];omega,a,ha,_,c0,_,c1,q1,_,kY O 0,Gy ((hst.upd d λ_ h=>h.elim).upd D λ_ h=>h.elim) P _ (aq (λhm=>?_) λhm=>?_)⟩
   .refine⟨_,kY O 0,Ls[j].2,kY O 1,?_⟩
    refine W2 (M:=λb=>B b\/az f+1<=b) (v:=Ls[j]) ((p.upd D λ_ _ h=>h).more λb hb=>.inl hb) (λb hb=>.inr (aQ (bw O) hb)) ?_ λs5 z N o=>?_
    .have:=bP (λv:Int×f9=>decide (v.1∈st)) (Ls.take j);simp at this;omega
    ·(try simp only)
     rw[cf c a4];refine Y (j+1,A,λb=>(B b\/az f+1<=b)/\b<z.size) _ _ ⟨rfl,c,?_,?_,?_,?_,?_⟩ (by(try simp only);omega)
     .exact(d.tr D).trans o λb hb=>.inr (hb.elim (λhb=>(e b (.inr hb)).1) λhb=>by have:=d.size;omega)
     ·(try simp only)
      rw[ax (by simpa using c),ct,aZ,jd,if_neg (by rw[e1]at hm;simpa using hm),iB,aX];exact(w.upd D λ_ _ h=>h).upd o λb hb=>λh=>h.elim (u b hb) λh=>by have:=(e b (.inl hb)).2;omega
     ·(try simp only)
      rw[ax (G▸c),ct,aZ,if_pos (decide_eq_true hm)];exact N.within
     .intro b hb C
      rcases C.1 with U|U
      .exact u b hb U
      .have:=(e b (.inl hb)).2;omega
     .intro b hb
      have hs5:=(D.wide.tr o).size;rcases hb with hb|⟨hb|hb,hb3⟩
      .have:=e b (.inl hb);show h'.size<=b/\b<z.size;omega
      .have:=e b (.inr hb);show h'.size<=b/\b<z.size;omega
      .have:=d.size;show h'.size<=b/\b<z.size;omega
   .refine⟨_,kY O 0,?_⟩
    refine Aa (M:=λb=>A b\/az f+1<=b) ((w.upd D λ_ _ h=>h).more λb hb=>.inl hb) (λb hb=>.inr (aQ (bw O) hb)) ?_ λs5 z N o=>?_
    .have:=bP (λy=> !decide (y∈st)) ((dM L).take j);simp at this;omega
    ·(try simp only)
     rw[cf c a4];refine Y (j+1,(λb=>(A b\/az f+1<=b)/\b<z.size),B) _ _ ⟨rfl,c,?_,?_,?_,?_,?_⟩ (by(try simp only);omega)
     .exact(d.tr D).trans o λb hb=>.inr (hb.elim (λhb=>(e b (.inl hb)).1) λhb=>by have:=d.size;omega)
     ·(try simp only)
      rw[ax (by simpa using c),ct,aZ,jd,if_pos (by rw[e1]at hm;simpa using hm),<-e1];exact N.within
     ·(try simp only)
      rw[ax (G▸c),ct,aZ,if_neg (by simpa using hm),iB,aX];exact(p.upd D λ_ _ h=>h).upd o λb hb=>λh=>h.elim (λh=>u b h hb) λh=>by have:=(e b (.inr hb)).2;omega
     .intro b hb C
      rcases hb.1 with U|U
      .exact u b U C
      .have:=(e b (.inr C)).2;omega
     .intro b hb
      have hs5:=(D.wide.tr o).size;rcases hb with⟨hb|hb,hb3⟩|hb
      .have:=e b (.inl hb);show h'.size<=b/\b<z.size;omega
      .have:=d.size;show h'.size<=b/\b<z.size;omega
      .have:=e b (.inr hb);show h'.size<=b/\b<z.size;omega
  .have q:¬(j:Int)<(Z.len:Int):=q
   rw[S.len,G]at q;have hjl:j=L.length:=a4
   rw[aS a9]at w;rw[aS a4]at p;have H:=n.tr d;have b2:=d.get0 h1;have e0:adr ⟨x,0,none⟩ 0=⟨x,0,none⟩:=rfl;have X:Upd (· =x) f (hset f ⟨x,0,none⟩ (.slice left.a left.len left.cap)):=Upd.hset _ _ rfl
   have hxl:x<h.size:=g.lt _ g.wp;refine⟨_,rfl,by rw[e0];exact eH b2 a7,?_⟩
   rw[e0];refine F out _ st E ?_ ?_ (H.wide.tr X)
   .refine(w.sl (W:=λb=>b<h.size) λb hb _ hw=>?_).upd X λb hb=>.inl a4
    have:=(e b (.inl hb)).1;have:=n.size;omega
   .refine⟨⟨left,t0,(Ls.filter λv=>decide (v.1∈st)),?_,?_,?_,p.cap⟩,g.wp,λb hb=>aA (g.lt b hb) (H.wide.tr X).size⟩
    .rw[kH b2,dE b2];rfl
    .refine(p.sl (W:=W) λb hb _ hw=>?_).upd X λb hb=>.inl (hb▸g.wp)
     have:=(e b (.inr hb)).1;have:=g.lt b hw;have:=n.size;omega
    .exact Par.upd X (λb hb=>.inl (hb▸g.wp)) (Par.filter (λy=>decide (y∈st)) (Par.upd d (λ_ h=>h.elim) h3))
end
section
variable {a b p:Int}{n m:dO}{K:Int×f9×Int->eu}
theorem Met.eq{L:de}{c d:Int}(h:Met L a b c)(k:Met L a b d):c=d:=by
 obtain⟨f,i,n⟩:=h;obtain⟨k1,g,m⟩:=k;have j:c<=d:=i.elim (λe=>a4) λe=>k1 c e.1 e.2
 have o:d<=c:=g.elim (λe=>a4) λe=>f d e.1 e.2
 omega
theorem ZF(c:a≠0)(hb:b≠0):nz [a,b]= [a,b]:=by unfold nz;simp[c,hb]
theorem aa1{c b:Prop}[Decidable c][Decidable b]{a:Bool->eu}{h:ad}(d:a (decide (c\/b)) h):Join a (λJ=>fN (decide c) (J true h) (J (decide b) h)):=
 fo (aq (λe=>by rw[decide_eq_true (.inl e)]at d;exact d) λe=>by
  rw[show decide (c\/b)=decide b from decide_eq_decide.2 ⟨λh=>h.resolve_left e,.inr⟩]at d
  exact d)
theorem SL{W:eh}{h:ad}{nt:TypeId}{s:f9}{l:BG}(J:Sl zS 2 W h s l)(S:l.length<=100000){REST:f9×Int->eu}(P:∀h' s',OwnS u32 1 33 (λy=>h.size<=y) h' s' (l.map (·.2))->Upd No h h'->REST (s',(l.length:Int)) h'):
  LoopP (λv (d:f9×Int) e=>fN (decide (d.2<(s.len:Int))) (
   Join (λ(C:f9) w=>v (C,ac .i64 (d.2+1)) w) (λE=>
    (((0:Int)<=d.2/\d.2<((s.len:Nat):Int))/\∃a19:Addr,s.a=some a19/\
     ∃v20:dO,aI e (adr (adr a19 (d.2.toNat*2)) 0)=some (.string v20)/\
     ∃v21:Int,aI e (adr (adr a19 (d.2.toNat*2)) 1)=some (.int .u32 v21)/\
     At (hnew e [.string (⟨#[]⟩:dO),.int .u32 0] nt) (λk=>
      (qR k (some (aH e)) 0 [.string v20,.int .u32 v21]/\
       At (fu k (aH e) 0 [.string v20,.int .u32 v21]) (λg=>
        ∃v24:Int,aI g (adr (aH e) 1)=some (.int .u32 v24)/\
        At (hnew g [.int .u32 v24] 33) (λp=>
         ∃xs26,SRow p (some (aH g)) (1*1) xs26/\
         AppP (some [.int .u32 0]) 1 4 33 d.1.a d.1.len d.1.cap 1 xs26 p (λq o=>E q o)))))))) (REST d e)) (⟨none,0,0⟩,0) h:=by
 have R:=J.len;refine eF (λ(i:Nat) (t:f9×Int) h'=>t.2=(i:Int)/\i<=l.length/\OwnS u32 1 33 (λy=>h.size<=y) h' t.1 ((l.take i).map (·.2))/\Upd No h h') (λi=>l.length-i) 0 ⟨rfl,aK _,OwnS.nil j7,eQ _ _⟩ ?_
 rintro I i ⟨so,t⟩ e ⟨H,hi,u,j⟩ N;simp only at H u;subst H;have L:=j.size;refine aq (λf=>?_) λA=>?_
 .have f:i<l.length:=by simp only at f;omega
  obtain⟨a,O,_,hv⟩:=(J.upd j λ_ h=>h.elim).at (af f)
  refine fo ⟨⟨cd,cd⟩,a,O,_,hv 0 _ rfl,_,hv 1 _ rfl,aV λk F B=>cy (c:= [.string ⟨#[]⟩,.int .u32 0]) (vs:=zS l[i]) F rfl λg G x=>⟨_,vc G 1,bF ?_⟩⟩
  have m:Upd No e g:=B.own x (aj _);have K:=m.size;refine Aa (M:=λy=>h.size<=y) (u.upd m λ_ _ h=>h) (λb hb=>a4) a9 λq o z D=>?_
  rw[cf (n:=l.length) f a4];exact N (i+1) _ _ ⟨rfl,f,by rw[ax f,List.map_append];exact z,(j.tr m).fresh D λy Q=>Q⟩ a4
 .have:i=l.length:=by simp only at A;omega
  subst this;rw[List.take_length]at u;exact P e so u j
section
variable {W:eh} {h:ad} {xp xg:Nat} {kind:Int} {x:Hs} {re:Rt} {q:RS}
theorem GG(g:Rn W h xp xg kind x re q)(u:q.B.length<=1000)(e:(∀b∈q.B,b.1≠n)\/∀b∈q.B,b.1≠m)(d:∀h',Upd No h h'->K (0,⟨none,0,0⟩,4) h'):
  V9 33 [gV xp,.string n,.string m,.int .i64 p] K h:=by
 refine Fg (some ⟨xp,0,none⟩) n m p ?_;dsimp only[zD,nv,tD,uL,wO,sN,ou,cj,kr,Nx,px,ww,bh,ai,ee,F9,dT,jz,fE,cL,yF,dC,xe];refine⟨_,rfl,q.sB,vc g.blk 7,_,rfl,q.sB,vc g.blk 7,?_⟩;refine lK g.b a4 (λi hi s t a=>⟨vc (a.get0 g.blk) 7,lK (g.upd0 a).b a4 (λj o f=>?_) λ_ k c=>aa1 ?_⟩) λ_ t a=>⟨vc (a.get0 g.blk) 7,lK (g.upd0 a).b a4 (λj o f k c=>aa1 ?_) λ_ k c=>aa1 ?_⟩
 .exact False.elim (e.elim (λh=>h _ (aG hi) s) λh=>h _ (aG o) f)
 .rw[decide_eq_true (.inr a4)];exact aw.2 (d _ (a.tr c))
 .rw[decide_eq_true (.inl a4)];exact aw.2 (d _ (a.tr c))
 .rw[decide_eq_true (.inl a4)];exact aw.2 (d _ (a.tr c))
set_option maxHeartbeats 1000000 in
theorem wL(g:Rn W h xp xg kind x re q)(_:kind=0\/kind=1)(gd:Good q.L)(hnx:0<=q.nx)(nd:(q.D.map (·.1)).Nodup)(hL:q.L.length<=100000)(hD:q.D.length<=100000)(hn:q.B.length<=1000){i k:Nat}(hi:i<q.B.length)(hk:k<q.B.length)(nu:NUp q.B)(ei:q.B[i].1=n)(ek:q.B[k].1=m)
  (hkP:(p<0\/3<p)->∀h',Upd No h h'->K (0,⟨none,0,0⟩,1) h')
  (hk1:0<=p->p<=3->(q.B[k].2=0\/UpG q.L q.B[i].2 q.B[k].2)->∀h',Upd No h h'->K (q.B[i].2,⟨none,0,0⟩,0) h')
  (hk2:0<=p->p<=3->¬(q.B[k].2=0\/UpG q.L q.B[i].2 q.B[k].2)->(q.B[i].2=0\/UpG q.L q.B[k].2 q.B[i].2)->∀h' s',Upd (· =xp) h h'->Rn W h' xp xg kind x re {q with sB:=s',B:=q.B.set i (q.B[i].1,q.B[k].2)}->K (q.B[k].2,⟨none,0,0⟩,0) h')
  (hk3:0<=p->p<=3->¬(q.B[k].2=0\/UpG q.L q.B[i].2 q.B[k].2)->¬(q.B[i].2=0\/UpG q.L q.B[k].2 q.B[i].2)->∃u B O T N,∃tm:Tr,Met q.L q.B[i].2 q.B[k].2 u/\LJ q u B/\LJ q q.B[i].2 O/\LJ q q.B[k].2 T/\Few N B.2/\Few N O.2/\Few N T.2/\N<=1000/\
   (p=0->oW B.2 O.2 T.2 p≠[]->∀h' s',Sl uQ 7 (λb=>b<h.size) h' s' ((oW B.2 O.2 T.2 p).map (DD B.2 O.2 T.2))->Upd No h h'->K (0,s',8) h')/\
   ((p=0->oW B.2 O.2 T.2 p= [])->∀h' r' s' ts sB,Sl uQ 7 (λb=>b<h.size) h' s' ((oW B.2 O.2 T.2 p).map (DD B.2 O.2 T.2))->Upd (RW xg xp q) h h'->(∀y,sb ts y->sb q.ts y\/h.size<=y)->
    (∀W':Nat->Prop,(∀y,W' y->(W y\/sb (yM q i hi (tm,ji B.2 O.2 T.2 p) (nz [q.B[i].2,q.B[k].2]) r' ts sB).ts y))->(∀y,RW xg xp (yM q i hi (tm,ji B.2 O.2 T.2 p) (nz [q.B[i].2,q.B[k].2]) r' ts sB) y->W' y)->Rn W' h' xp xg kind x re (yM q i hi (tm,ji B.2 O.2 T.2 p) (nz [q.B[i].2,q.B[k].2]) r' ts sB))->
    K (if(fF q.L q.nx (nz [q.B[i].2,q.B[k].2])).1.2=0 then((fF q.L q.nx (nz [q.B[i].2,q.B[k].2])).1.1,s',0)else(0,⟨none,0,0⟩,(fF q.L q.nx (nz [q.B[i].2,q.B[k].2])).1.2)) h')):
  V9 33 [gV xp,.string n,.string m,.int .i64 p] K h:=by
 refine Fg (some ⟨xp,0,none⟩) n m p ?_;dsimp only[zD,nv,tD,uL,wO,sN,ou,cj,kr,Nx,px,ww,bh,ai,ee,F9,dT,jz,fE,cL,yF,dC,xe];have lb:=g.b.len;have lt:=g.lt;have same:∀{j L:Nat} (hj:j<q.B.length) (I:L<q.B.length),q.B[j].1=q.B[L].1->j=L:=λ{j L} hj I e=>by
  have:=List.getElem_inj nu.nd (i:=j) (j:=L) (h₀:=by simpa using hj) (h₁:=by simpa using I)
  exact this.1 (by simp[e])
 refine⟨_,rfl,q.sB,vc g.blk 7,_,rfl,q.sB,vc g.blk 7,?_⟩;refine lK g.b a4 (λj hj ej h6 k6=>?_) λZ=>absurd ei (Z _ (aG hi))
 obtain rfl:i=j:=same hi hj (ei.trans ej.symm);refine⟨vc (k6.get0 g.blk) 7,lK (g.upd0 k6).b a4 (λL I ej' h8 k8=>?_) λZ=>absurd ek (Z _ (aG hk))⟩
 obtain rfl:k=L:=same hk I (ek.trans ej'.symm);have V:=k6.tr k8;refine aa1 ?_;rw[decide_eq_false a4];refine ag.2 (aa1 (aq (λe=>hkP (e.imp id λe=>a4) h8 V) λe=>?_))
 have p0:0<=p:=Int.not_lt.1 λh=>e (.inl h)
 have p3:p<=3:=Int.not_lt.1 λh=>e (.inr a4)
 have g8:=g.upd0 V;obtain⟨a,ha,_,hv⟩:=g8.b.at (af hi);obtain⟨a',ha',_,hv'⟩:=g8.b.at (af hk);refine⟨_,rfl,q.sB,vc g8.blk 7,⟨a4,a4⟩,a,ha,_,hv 1 _ rfl,_,rfl,q.sB,vc g8.blk 7,⟨a4,a4⟩,a',ha',_,hv' 1 _ rfl,?_⟩
 refine AV g8 gd hL _ _ λb1 h24 hb1 k24=>?_
 have D:=V.tr k24;have g24:=g.upd0 D;refine ez (λe1=>hk1 p0 p3 (hb1.1 e1) h24 D) λe1=>?_
 have n1:¬(q.B[k].2=0\/UpG q.L q.B[i].2 q.B[k].2):=λhh=>by rw[hb1.2 hh]at e1;cases e1
 refine AV g24 gd hL _ _ λb2 h26 hb2 k26=>?_
 have A:=D.tr k26;have X:=g.upd0 A;refine ez (λe2=>LM X hi _ hn λh28 s' u28 G=>hk2 p0 p3 n1 (hb2.1 e2) h28 s' (A.wide.tr u28) G) λe2=>?_
 have n2:¬(q.B[i].2=0\/UpG q.L q.B[k].2 q.B[i].2):=λhh=>by rw[hb2.2 hh]at e2;cases e2
 obtain⟨u,B,O,T,N,tm,mt,xB,xO,xT,fB,fO,fT,hN,c0,c1⟩:=hk3 p0 p3 n1 n2;refine⟨_,rfl,_,vc X.blk 5,UW X.r gd _ _ λU h32 m1 m2 m3 k32=>?_⟩
 have eb:U=u:=Met.eq ⟨m1,m2,m3⟩ mt;subst eb;have Q:=A.tr k32;refine LN (g.upd0 Q) nd xB hL hD λh34 rB jB k34=>Hx λh36 b36 k36=>?_
 have R:=(Q.tr k34).tr k36;refine LN (g.upd0 R) nd xO hL hD λh38 rO jO k38=>Hx λh40 b40 S=>?_
 have P:=(R.tr k38).tr S;refine LN (g.upd0 P) nd xT hL hD λh42 rT jT k42=>Hx λh44 E Y=>?_
 have c:=(P.tr k42).tr Y;have o:=k42.tr Y;have C:=(k38.tr S).tr o;have H:=C.get0 b36;have aaf:=o.get0 b40;refine⟨_,vc H 0,_,vc H 1,_,vc H 2,_,vc H 3,rB.2.2.2.2,vc H 4,_,vc aaf 0,_,vc aaf 1,_,vc aaf 2,_,vc aaf 3,rO.2.2.2.2,vc aaf 4,_,vc E 0,_,vc E 1,_,vc E 2,_,vc E 3,rT.2.2.2.2,vc E 4,?_⟩;refine VC ((jB.upd0 k36).upd0 C) ((jO.upd0 S).upd0 o) (jT.upd0 Y) (λy hy=>aA (lt y hy) c.size) fB fO fT hN hN hN p0 p3 (λe0 hc h61 s' hs J=>Hx λw v F=>?_) λhc h61 r' s' L hs J=>Hx λw v F=>?_
 .exact aw.2 (c0 e0 hc w s' ((hs.less λb hb=>.inl (aA hb c.size)).upd F λ_ h=>h.elim) ((c.tr J).tr F))
 .refine ag.2 ⟨_,vc v 0,_,vc v 1,_,vc v 2,_,vc v 3,r'.2.2.2.2,vc v 4,aV λh69 b69 k69=>?_⟩
  have f:=F.tr k69;have z:=(c.tr J).tr f;have s069:=z.size;have sm:=(c.tr (J.tr F)).size;have e2:nz [q.B[i].2,q.B[k].2]= [q.B[i].2,q.B[k].2]:=ZF (λe=>n2 (.inl e)) λe=>n1 (.inl e)
  rw[e2]at c1;refine EE (g.upd0 z) hnx hL (by have:=g.n;omega) hn hi (d:=(tm,ji B.2 O.2 T.2 p)) (L.upd0 f) (ps:= [q.B[i].2,q.B[k].2]) (OwnS.sl (s:=⟨some (aH w),2,2⟩) (M:=(· =w.size)) (t:=33) ⟨rfl,j7,aj _,.inr ⟨w.size,[],rfl,rfl,b69,rfl⟩⟩ λb hb _ hw=>by have hb:b=w.size:=hb;have:=lt b hw;omega) a7 λh71 ts sB u71 ht G=>?_
  have hs2:=((hs.less (W':=λb=>b<h.size) λb hb=>.inl (aA hb c.size)).upd f λ_ h=>h.elim).upd u71 λb hb=>.inl (lt b (g.rw b hb))
  have r:=c1 hc h71 r' s' ts sB hs2 (z.wide.tr u71) (λy hy=>(ht y hy).imp id λh=>a4) G
  refine ez (λe=>?_) λe=>?_
  .rw[if_neg (by simpa using e)]at r;exact r
  .rw[if_pos (by simpa using e)]at r;exact r
theorem Td(g:Rn W h xp xg kind x re q)(H:Good q.L)(X:q.B.length<=300)(U:q.T.length<=300){K:f9->eu}
  (S:∀h' s' (st:List Int),(∀y,y∈st↔∃k∈(q.B++q.T).map (·.2),UpG q.L k y)->Nums (λb=>b<h.size) h' s' ((dM q.L).filter λy=> !decide (y∈st))->Rn W h' xp xg kind x re {q with L:=q.L.filter λv=>decide (v.1∈st)}->Upd (· =xg) h h'->K s' h'):
  dS 35 [gV xp] K h:=by
 refine cZ (Ft (some ⟨xp,0,none⟩)) Pn Tryz.func35 Tryz.call35 ?_;dsimp only[Ft,dT,iw,nv,cj,wK,Jo,yL,cL,En,cP,jz,fE,rU,yF,dC,xe];refine fo ⟨_,rfl,q.sB,vc g.blk 7,_,rfl,q.sT,vc g.blk 8,aV λO Y i=>⟨vc (i.get0 g.blk) 8,vc (i.get0 g.blk) 7,?_⟩⟩
 have T:=i.size;refine M4 (M:=λy=>O.size<=y) (out:= []) (c:=q.sB.cap) (OwnS.nil tN) (g.upd0 i).b (aj _) a9 λV J Q C=>?_
 have Z:=C.size;have B:Upd No h J:=i.fresh C λy F=>a4
 refine⟨vc (B.get0 g.blk) 8,M4 Q (c:=q.sT.cap) (g.upd0 B).t a4 a9 λs e f t=>?_⟩
 have m:Upd No h e:=B.fresh t λy F=>a4
 rw[List.nil_append]at f;have n:Sl zS 2 (λy=>e.size<=y) e s (q.B++q.T):=f.sl λb _ R I=>a4
 refine SL (nt:=149) n a9 λN s' u p=>?_
 have a:=m.tr p;have d:=g.upd0 a;have D:=a.size;have E:=m.size;refine⟨_,rfl,_,vc d.blk 5,UX d.r H (u.sl (W:=W) λb hb _ G=>by have:=g.lt b G;omega) a9 λo A st z P w j=>S A o st z (P.less λb hb=>.inl a4) (d.graph j w) (a.wide.tr j)⟩
end
end
end Go.Proofs
set_option maxRecDepth 100000
namespace Go.Proofs
open Go Go.Lift Go.Shelf
def abN:Ren:=⟨λn=>bif aO n 6 then 121 else bif aO n 14 then 181 else bif aO n 15 then 132 else bif aO n 20 then 237 else bif aO n 21 then 238 else bif aO n 22 then 239 else bif aO n 23 then 240 else bif aO n 24 then 241 else bif aO n 25 then 242 else bif aO n 26 then 243 else bif aO n 27 then 244 else bif aO n 28 then 195 else bif aO n 29 then 196 else bif aO n 46 then 281 else bif aO n 47 then 251 else bif aO n 48 then 252 else bif aO n 49 then 282 else bif aO n 50 then 283 else bif aO n 57 then 298 else 0,
 λn=>bif aO n 0 then 0 else bif aO n 3 then 3 else bif aO n 4 then 4 else bif aO n 5 then 5 else bif aO n 9 then 9 else bif aO n 22 then 157 else bif aO n 24 then 159 else bif aO n 25 then 221 else bif aO n 39 then 231 else bif aO n 45 then 287 else bif aO n 46 then 288 else bif aO n 50 then 177 else bif aO n 53 then 33 else bif aO n 55 then 22 else bif aO n 66 then 340 else bif aO n 70 then 344 else bif aO n 76 then 372 else bif aO n 77 then 373 else 0,
 λ_=>0⟩
theorem yl:SlLaysF0.n6 PG abN:=by
 constructor
 .kernel_rfl
 .exact⟨"slices.SortFunc[[]quickset/vault.Name,quickset/vault.Name]",a8,a5⟩
 .exact⟨"slices.pdqsortCmpFunc[quickset/vault.Name]",a8,a5⟩
 .kernel_rfl
 .exact⟨"slices.insertionSortCmpFunc[quickset/vault.Name]",a8,a5⟩
 .exact⟨"slices.heapSortCmpFunc[quickset/vault.Name]",a8,a5⟩
 .exact⟨"slices.breakPatternsCmpFunc[quickset/vault.Name]",a8,a5⟩
 .exact⟨"slices.choosePivotCmpFunc[quickset/vault.Name]",a8,a5⟩
 .exact⟨"slices.reverseRangeCmpFunc[quickset/vault.Name]",a8,a5⟩
 .exact⟨"slices.partialInsertionSortCmpFunc[quickset/vault.Name]",a8,a5⟩
 .exact⟨"slices.partitionEqualCmpFunc[quickset/vault.Name]",a8,a5⟩
 .exact⟨"slices.partitionCmpFunc[quickset/vault.Name]",a8,a5⟩
 .kernel_rfl
 .kernel_rfl
 .exact⟨"slices.siftDownCmpFunc[quickset/vault.Name]",a8,a5⟩
 .kernel_rfl
 .kernel_rfl
 .exact⟨"slices.medianAdjacentCmpFunc[quickset/vault.Name]",a8,a5⟩
 .exact⟨"slices.medianCmpFunc[quickset/vault.Name]",a8,a5⟩
 .exact⟨"slices.order2CmpFunc[quickset/vault.Name]",a8,a5⟩
 .kernel_rfl
 all_goals first|(intro w;kernel_rfl)|kernel_rfl
end Go.Proofs
set_option maxRecDepth 100000
namespace Go.Proofs
section
open Go.Lift Go.Shelf
def abM:Ren:=⟨λn=>bif aO n 38 then 182 else 0,
 λn=>bif aO n 4 then 4 else bif aO n 9 then 9 else 0,
 λ_=>0⟩
theorem Jz:Lays2.n38 PG abM:=by constructor<;>first|kernel_rfl|(intro w;kernel_rfl)|skip
end
section
open Go.Lift Go.RowKit Go.Sort
variable {F:Array Value}{a:c5}{b:Nat}{w:World}
theorem HC.shelf{f:FuncId}{args:c5}{ks:List Kind}{K:uU ks->eu}{h:ad}(hc:∀(args:Array Value) (w:World),(callFunc f args).run PG w=.ok (.enter f args) w)
 (g:∀w:World,w.heap=h->Calls PG f args.toArray w λe w'=>Tame w w'/\∃t:uU ks,e=.returned (DY ks (nI ks t))/\K t w'.heap):HC PG f args ks K h:=⟨λw a=>.inl ⟨hc _ w,g w a⟩⟩
theorem TL{A:c5}(c:A.length=F.size):putCells id 0 F (A++a).toArray=(F.toList++a).toArray:=by
 apply Array.ext_getElem?;intro k;simp only[putCells,Array.getElem?_mapIdx,dD];by_cases b:k<F.size
 .rw[bR a4,bR (by simpa using b),af a4]
  simp[b]
 .rw[bB a4,bB (by simpa using b),c]
  simp only[d9];cases a[k-F.size]? with
  |none=>rfl
  |some v=>simp[b]
section
variable {α:Type} {f:α->c5} {sz:Nat} {ty:TypeId} {M:eh} {h:ad} {s:f9} {xs ys:List α}
theorem _root_.Go.Lift.OwnS.row(o:OwnS f sz ty M h s xs)(hb:h[b]? =some (.cells (xs.flatMap f++a).toArray ty (0,0))) (g:s.a=some ⟨b,0,none⟩) (hM:M b) (j:a.length=(s.cap-s.len)*sz)  (k:w.heap=h) {n:Nat} {os:Array Obj}  (d:F.toList=ys.flatMap f) (c:ys.length=xs.length):
  OwnS f sz ty M (grow (putRow id (Sort.ahead w n) b 0 F) os).heap s ys/\Upd M h (grow (putRow id (Sort.ahead w n) b 0 F) os).heap:=by
 have i:(xs.flatMap f).length=F.size:=by rw[<-d9,d,gZ λx=>(o.ne x).1,gZ λx=>(o.ne x).1,c]
 have m:(grow (putRow id (Sort.ahead w n) b 0 F) os).heap=h.modify b (onCells (putCells id 0 F))++os:=by subst k;rfl
 have lt:=bw hb;rw[m];refine⟨⟨by rw[c];exact o.len,o.ne,o.cap,.inr ⟨b,a,g,hM,?_,j⟩⟩,⟨a7,λy q p=>?_⟩⟩
 .rw[Array.getElem?_append_left (by simpa using lt),mo,if_pos rfl,hb]
  show some (Obj.cells (putCells id 0 F (xs.flatMap f++a).toArray) ty (0,0))=_
  rw[TL i,d]
 .rw[Array.getElem?_append_left (by simpa using q),mo,if_neg (λe=>p (by rw[<-e];exact hM))]
theorem sO[Inhabited α](a:∀x,(f x).length=sz)(d:Array α):(flatK f sz d).toList=d.toList.flatMap f:=by
 apply List.ext_getElem?;intro t;by_cases ht:t<d.size*sz
 .have k0:0<sz:=Nat.pos_of_ne_zero λe=>by rw[e]at ht;simp at ht
  have b:t/sz<d.size:=Nat.div_lt_of_lt_mul (by rwa [Nat.mul_comm]at ht);have hm:=Nat.mod_lt t k0;have e:=vh a d.toList (t/sz) (t%sz) d[t/sz] (by simp[b]) hm;rw[Nat.div_add_mod' t sz]at e;rw[e,Array.getElem?_toList,Array.getElem?_eq_getElem (by simpa using ht),<-getElem!_pos (flatK f sz d) t (by simpa using ht),get_flatK _ _ _ _ ht,getElem!_pos d (t/sz) b,af (by rw[a];exact hm),getElem!_pos _ _ (by rw[a];exact hm)]
 .rw[mh (by simpa using Nat.le_of_not_lt ht),mh (by rw[gZ a];simpa using Nat.le_of_not_lt ht)]
theorem _root_.Go.Lift.OwnS.holds(o:OwnS f sz ty M h s xs)(hb:h[b]? =some (.cells (xs.flatMap f++a).toArray ty (0,0)))  (d:w.heap=h)  (g:F.toList=xs.flatMap f):Holds id w b 0 F:=λj c=>by
 subst d;have e:(xs.flatMap f++a)[j]? =some F[j]:=by
  rw[<-g,bR (by simpa using c)];simp[c]
 refine⟨?_,?_⟩
 .rw[World.cell?,aU];simp only[hb]
  simp only[Option.isSome_none,Bool.false_eq_true,if_false,dD,e,id];rw[getElem!_pos F j c]
 .rw[World.frozen?,aU];simp[hb]
end
end
section
open Go.Lift Go.RowKit Go.Shelf Go.Sort
variable {h:ad}
set_option maxHeartbeats 1000000 in
theorem Li(x y:dO)(W:World):Calls PG 123 #[.string x,.string y] W λe b=>e=.returned (.int .i64 (wZ x y))/\b=W:=by
 have a:=λx W=>Any2.cmp_isNaN_string Jz x W
 change∀x W,Calls PG 182 _ _ _ at a;go_enter Tryz.func123,Tryz.ntmps123
 go_wp2_with (go_at_call 182;refine(a _ _).mono ?_;rintro e b ⟨rfl,c⟩;rw[c])
 all_goals(go_ret;refine⟨?_,rfl⟩;have hb:= @z6 x y;unfold wZ kl;clear a;simp_all)
abbrev abz(x y:dO×Int):Int:=wZ x.1 y.1
set_option maxHeartbeats 1000000 in
theorem TU(x y:dO×Int)(W:World):Calls PG 122 #[.agg #[.string x.1,.int .u32 x.2],.agg #[.string y.1,.int .u32 y.2]] W λe b=>e=.returned (.int .i64 (wZ x.1 y.1))/\∃q os',b=grow (W.drewN q) os':=by
 have a:=λW'=>Li x.1 y.1 W'
 change∀W',Calls PG 123 _ _ _ at a;generalize wZ x.1 y.1=r at a⊢;go_enter Tryz.func122,Tryz.ntmps122
 go_wp2_with (go_at_call 123;refine(a _).mono ?_;rintro e b ⟨rfl,rfl⟩)
 go_ret
 exact⟨rfl,0,_,by rw[alloc_eq_grow,alloc_eq_grow,grow_grow];rfl⟩
theorem abv(x y:dO×Int):ltOf abz x y=decide (kl x.1 y.1):=by
 unfold ltOf abz wZ;by_cases h:kl x.1 y.1
 .simp[h]
 .by_cases a:x.1=y.1<;>simp[h,a,bT]
theorem abF:SWO (ltOf abz) where
 irrefl x:=by rw[abv];simpa using bT x.1
 trans x y z h1 h2:=by rw[abv]at*;simp at*;exact dI h1 h2
 ntrans x y z h1 h2:=by
  rw[abv]at*;simp at*;intro h;by_cases e:x.1=y.1
  .rw[e]at h;exact h2 h
  .exact h2 (dI (l8 h1 e) h)
theorem L5{M:eh}{s:f9}{xs:List (dO×Int)}(p:OwnS zS 2 159 M h s xs)(T:xs.length<=1000000){K:Unit->eu}
  (D:∀h' ys,OwnS zS 2 159 M h' s ys->ys.Perm xs->ys.Pairwise (λa b=>¬kl b.1 a.1)->Upd M h h'->K () h'):dx 121 [.slice s.a s.len s.cap,.func (.func 122) #[] #[]] K h:=by
 refine HC.shelf Tryz.call121 λw q=>?_
 have k:=p.len;rcases p.blk with U|⟨b,B,C,hM,hb,J⟩
 .have hx:xs= []:=List.length_eq_zero_iff.1 (by have:=p.cap;omega)
  subst hx;have G:s.len=0:=k;rw[G];refine(AnyF.slices_SortFunc_none yl s.a s.cap (.func (.func 122) #[] #[]) w).mono λe I o=>?_
  obtain⟨o,rfl⟩:=o;exact⟨⟨rfl,rfl,rfl⟩,(),o,D _ [] (by rw[q];exact p) (qb _) cq (by rw[q];exact eQ _ _)⟩
 .rw[C,k]
  have L:HoldsK zS 2 w b 0 xs.toArray:=p.holds hb q ((sO (f:=zS) (sz:=2) (λ_=>rfl) xs.toArray).trans a7)
  have lt:=bw hb;have c:=AnyQ.slices_SortFunc yl 2 (λw=>a5) (λw=>a5) zS (λ_=>rfl) (λx v hv=>by simp only[au,List.not_mem_nil,or_false]at hv;rcases hv with rfl|rfl<;>rfl) abz abF 122 #[] b 0 s.cap xs.toArray w Tryz.call122 (λm os dk H x y=>TU x y _) L (by rw[q];exact lt) a9
  rw[show xs.toArray.size=xs.length by simp]at c
  refine Calls.mono c λe I o=>?_
  obtain⟨o,d,n,os,⟨g,_,E⟩,N,rfl⟩:=o;have g:d.size=xs.length:=by simpa using g
  obtain⟨R,O⟩:=p.row hb C hM J q (n:=n) (os:=os) (F:=flatK zS 2 d) (ys:=d.toList) (sO (f:=zS) (sz:=2) (λ_=>rfl) d) (by simpa using g)
  refine⟨⟨rfl,rfl,rfl⟩,(),o,D _ d.toList R ?_ ?_ O⟩
  .have S:d.extract 0 xs.length=d:=by rw[<-g];exact Array.extract_size
   have P:xs.toArray.extract 0 xs.length=xs.toArray:=a7
   rw[S,P]at E;simpa using E
  .refine List.pairwise_iff_getElem.2 λi j hi Q A t=>?_
   have u:i<d.size:=by simpa using hi
   have z:j<d.size:=by simpa using Q
   have:=N i j (aK _) A a4;rw[getElem!_pos d j z,getElem!_pos d i u,abv]at this;simp only[Array.getElem_toList]at t;simp[t]at this
theorem Hq{κ β:Type}[DecidableEq κ]{k:κ}{v:β}:∀{m:List (κ×β)},(m.map (·.1)).Nodup->(k,v)∈m->m.Perm ((k,v)::kZ m k)
 |p::m,a,hm=>by
  have a:=List.nodup_cons.1 a;unfold kZ;rw[aZ];rcases au.1 hm with rfl|hm
  .rw[if_neg a7]
   rw[List.filter_eq_self.2 λq b=>by simp;exactλe=>a.1 (aR.2 ⟨q,b,e⟩)]
  .have:p.1≠k:=λe=>a.1 (aR.2 ⟨(k,v),hm,e.symm⟩)
   rw[if_pos (by simp[this])];exact((Hq a.2 hm).cons p).trans (List.Perm.swap ..)
theorem Yf{r:Nat}{B:List (dO×Int)}(m:MapAt kStr OH h r B)(hn:B.length<=100000){K:f9->eu}
  (X:∀h' s ys,OwnS zS 2 159 (λy=>h.size<=y) h' s ys->ys.Perm B->ys.Pairwise (λa b=>¬kl b.1 a.1)->Upd No h h'->K s h'):dS 72 [.map (some r)] K h:=by
 refine cZ (ue (some r)) BP Tryz.func72 Tryz.call72 ?_;dsimp only[ue,wK,Jo,Pc];obtain⟨c,⟨es,A⟩,H⟩:=m.range;refine⟨c,.inr ⟨r,es,rfl,A⟩,Ij λq u=>?_⟩
 have k1:=Upd.push No h (.mapIter (some r) c #[] c);have u:q=h.push (.mapIter (some r) c #[] c):=u;rw[<-u]at H k1;have s1:q.size=h.size+1:=by rw[u];simp
 refine eF (λ(g:List (dO×Int)×List (dO×Int)) (t:f9) h'=>IterSt kStr OH h' h.size r B g.1/\OwnS zS 2 159 (λy=>q.size<=y) h' t g.2/\(g.2++g.1).Perm B/\Upd No h h'/\q.size<=h'.size) (λg=>g.1.length) (B,[]) ⟨H,OwnS.nil tN,qb _,k1,aj _⟩ ?_
 rintro I ⟨j,out⟩ t h' ⟨hi,z,o,C,S⟩ P;(try simp only at hi z o)
 have J:=m.lt;have F:=o.length_eq;rw[ae]at F;refine NextP.at (M:=(· =h.size)) hi rfl (λN=>?_) λk v n e h2 ek V hit w d=>?_
 .subst N
  rw[aX]at o;refine L5 z (by simp at F;omega) λG ys Q O R L=>X G t ys (Q.more λy i=>a4) (O.trans o) R (C.trans L λy i=>.inr a4)
 .refine⟨rfl,e,k,v,hit,ek,V,aV λG b3 p=>?_⟩
  have E:=(z.upd d λy i e=>by have e:y=h.size:=e;omega).upd p λ_ _ h=>h
  have s2:=d.size;have Z:=C.size;refine⟨_,((OwnS.one (f:=zS) (x:=(k,v)) tN b3).sl (W:=No) λ_ _ _ h=>h).srow,?_⟩
  have Y:=p.size;refine AppP.own (ys:= [(k,v)]) E rfl rfl rfl rfl a8 (by simp only[aP];omega) a4 λs' U T D=>?_
  refine P (kZ j k,out++ [(k,v)]) s' U ⟨?_,T,?_,?_,?_⟩ (CN n)
  .exact(w.upd p id id).upd D (λe=>a4) (λe=>a4)
  .refine List.Perm.trans ?_ o
   simp only[List.append_assoc,List.singleton_append];exact List.Perm.append_left _ (Hq hi.nodup n).symm
  .exact((C.trans d λy i=>.inr (by have i:y=h.size:=i;omega)).tr p).trans D λy i=>.inr a4
  .have:=D.size;omega
end
section
open Go.Lift Go.Sort
variable {i j:Nat}{t c e:Int}{R:eu}
theorem Cz(l:List Int):l.flatMap u32=l.map λx=>Value.int .u32 x:=by
 induction l with
 |nil=>rfl
 |cons x l ih=>rw[List.flatMap_cons,ih];rfl
structure SAG(s:f9)(b:Nat)(rest:c5)(h:ad)(d:Array Int):Prop where
 a:s.a=some ⟨b,0,none⟩
 len:s.len=d.size
 blk:h[b]? =some (.cells (d.toList.flatMap u32++rest).toArray 33 (0,0))
 small:d.size<=1000000000
variable {s:f9} {b:Nat} {rest:c5} {h:ad} {d:Array Int}
theorem SAG.get(a:SAG s b rest h d)(hi:i<d.size):aI h (adr ⟨b,0,none⟩ (((i:Int)).toNat*1))=some (.int .u32 d[i]!):=by
 rw[co,ba a.blk,dD,Cz,bR a9];simp[hi]
theorem SAG.upd{M:eh}{h':ad}(a:SAG s b rest h d)(k:Upd M h h')(hb:¬M b):SAG s b rest h' d:=⟨a.a,a.len,k.get a.blk hb,a.small⟩
theorem SAG.put(a:SAG s b rest h d)(hi:i<d.size)(x:Int):Wr h (adr ⟨b,0,none⟩ (((i:Int)).toNat*1))/\SAG s b rest (hset h (adr ⟨b,0,none⟩ (((i:Int)).toNat*1)) (.int .u32 x)) (d.setIfInBounds i x)/\
  Upd (· =b) h (hset h (adr ⟨b,0,none⟩ (((i:Int)).toNat*1)) (.int .u32 x)):=by
 have e:adr ⟨b,0,none⟩ (((i:Int)).toNat*1)=⟨b,i,none⟩:=by rw[co];simp
 rw[e];refine⟨eH a.blk (by rw[Cz];simp;omega),⟨a.a,by rw[a.len];simp,?_,by simpa using a.small⟩,Upd.hset _ _ rfl⟩
 rw[kH a.blk,dE a.blk,Cz,Cz,Array.toList_setIfInBounds];congr 2
 rw[List.setIfInBounds_toArray,List.set_append_left _ _ a9,List.map_set]
theorem SAG.ld1(c:SAG s b rest h d)(e:t=(i:Int))(hi:i<d.size){R:Int->Prop}(f:R d[i]!):
  ((0:Int)<=t/\t<((s.len:Nat):Int))/\∃a:Addr,s.a=some a/\∃v:Int,aI h (adr a (t.toNat*1))=some (.int .u32 v)/\R v:=by
 subst e;exact⟨by rw[c.len];omega,_,c.a,_,c.get hi,f⟩
theorem SAG.st(c:SAG s b rest h d){x:Int}(e:t=(i:Int))(hi:i<d.size)(j:∀h',SAG s b rest h' (d.setIfInBounds i x)->Upd (· =b) h h'->R h'):
  ((0:Int)<=t/\t<((s.len:Nat):Int))/\∃a:Addr,s.a=some a/\(Wr h (adr a (t.toNat*1))/\At (hset h (adr a (t.toNat*1)) (.int .u32 x)) R):=by
 subst e;obtain⟨g,k,f⟩:=c.put hi x;exact⟨by rw[c.len];omega,_,c.a,g,j _ k f⟩
@[simp] theorem aaa(d:Array Int)(i j:Nat):(swp d i j).size=d.size:=by simp[swp]
theorem SAG.swap(m:SAG s b rest h d)(o:c=(i:Int))(n:e=(j:Int))(hi:i<d.size)(p:j<d.size)(t:∀h',SAG s b rest h' (swp d i j)->Upd (· =b) h h'->R h'):
  ((0:Int)<=e/\e<((s.len:Nat):Int))/\∃a:Addr,s.a=some a/\∃v:Int,aI h (adr a (e.toNat*1))=some (.int .u32 v)/\
   (((0:Int)<=c/\c<((s.len:Nat):Int))/\∃a':Addr,s.a=some a'/\∃v':Int,aI h (adr a' (c.toNat*1))=some (.int .u32 v')/\
    (((0:Int)<=c/\c<((s.len:Nat):Int))/\∃a'':Addr,s.a=some a''/\(Wr h (adr a'' (c.toNat*1))/\At (hset h (adr a'' (c.toNat*1)) (.int .u32 v)) (λk=>
     (((0:Int)<=e/\e<((s.len:Nat):Int))/\∃a3:Addr,s.a=some a3/\(Wr k (adr a3 (e.toNat*1))/\At (hset k (adr a3 (e.toNat*1)) (.int .u32 v')) R)))))):=by
 refine m.ld1 n p (m.ld1 o hi (m.st o hi λk g k1=>g.st n (by simpa using p) λu f q=>t u f (k1.tr q)))
theorem SAG.less(f:SAG s b rest h d)(m:c=(i:Int))(g:e=(j:Int))(hi:i<d.size)(n:j<d.size){R:Bool->eu}(k:R (ltInt d[i]! d[j]!) h):
  ((0:Int)<=c/\c<((s.len:Nat):Int))/\∃a:Addr,s.a=some a/\∃v:Int,aI h (adr a (c.toNat*1))=some (.int .u32 v)/\
   (((0:Int)<=e/\e<((s.len:Nat):Int))/\∃a':Addr,s.a=some a'/\∃v':Int,aI h (adr a' (e.toNat*1))=some (.int .u32 v')/\eI 192 [.int .u32 v,.int .u32 v'] R h):=
 f.ld1 m hi (f.ld1 g n (Yg k))
theorem OC(L:SAG s b rest h d){a e:Nat}(ha:a<=e)(X:e<=d.size){K:Unit->eu}(V:∀h',SAG s b rest h' (insertionSort ltInt d a e)->Upd (· =b) h h'->K () h'):
  dx 186 [.slice s.a s.len s.cap,.int .i64 a,.int .i64 e] K h:=by
 refine jC s a e ?_;dsimp only[fG,GE,fE,dh,uK,cB,uS,wO];have T:=L.small;refine eF (λ(g:Nat×Array Int) (t:Int) h'=>t=(g.1:Int)/\SAG s b rest h' g.2/\g.2.size=d.size/\insOuter ltInt a e g.1 g.2=insertionSort ltInt d a e/\Upd (· =b) h h'/\a<g.1) (λg=>e-g.1) (a+1,d)
  ⟨by rw[dw a4];rfl,L,rfl,rfl,eQ _ _,a7⟩ ?_
 rintro I ⟨i,N⟩ t h1 ⟨ht,p,q,o,u,D⟩ P;(try simp only at ht p q o D)
 subst ht;refine aq (λy=>?_) λS=>?_
 .have y:i<e:=by omega
  refine eF (λ(g:Nat×Array Int) (t:Int) h'=>t=(g.1:Int)/\SAG s b rest h' g.2/\g.2.size=d.size/\insInner ltInt a g.1 g.2=insInner ltInt a i N/\Upd (· =b) h h'/\g.1<=i) (λg=>g.1) (i,N)
   ⟨rfl,p,q,rfl,u,aj _⟩ ?_
  rintro Y ⟨j,k⟩ t Q ⟨ht,c,n,m,x,A⟩ E;(try simp only at ht c n m A)
  subst ht;refine eM (λt h'=>h'=Q/\(t=true↔a<j/\ltInt k[j]! k[j-1]! =true)) (λR H=>?_) ?_
  .refine aq (λw=>?_) λO=>H _ _ ⟨rfl,a9⟩
   have w:a<j:=a4
   exact c.less rfl (j:=j-1) (by rw[dw a4];omega) a4 a4 (H _ _ ⟨rfl,by simp[w]⟩)
  .rintro t h' ⟨rfl,v⟩
   refine ez (λz=>?_) λz=>?_
   .obtain⟨U,G⟩:=v.1 z
    refine c.swap (i:=j) (j:=j-1) rfl (by rw[dw a4];omega) a4 a4 λZ F C=>?_
    refine E (j-1,swp k j (j-1)) _ _ ⟨by rw[dw a4];(try simp only);omega,F,by simp[n],?_,x.tr C,by(try simp only);omega⟩ (by(try simp only);omega)
    rw[<-m];obtain⟨J,rfl⟩:∃J,j=J+1:=⟨j-1,a4⟩
    simp only[Nat.add_sub_cancel]at G⊢;rw[insInner,if_pos (by simp[G,U])]
   .have f:¬(a<j/\ltInt k[j]! k[j-1]! =true):=λW=>by rw[v.2 W]at z;cases z
    have B:insInner ltInt a j k=k:=by
     cases j with
     |zero=>rw[insInner]
     |succ j=>
      simp only[Nat.add_sub_cancel]at f;rw[insInner,if_neg (by simpa using f)]
    refine P (i+1,k) _ _ ⟨by rw[dw a4];rfl,c,n,?_,x,by(try simp only);omega⟩ (by(try simp only);omega)
    rw[<-o];conv=>rhs;rw[insOuter]
    rw[if_pos y,<-m,B]
 .refine V _ ?_ u
  rw[<-o,insOuter,if_neg a4];exact p
end
section
open Go.Lift Go.Sort
variable {K:Unit->eu}{a e:Nat}
variable {s:f9} {b:Nat} {rest:c5} {h:ad} {d:Array Int}
@[simp] theorem Vn(lt:Int->Int->Bool)(hi first root:Nat)(d:Array Int):(siftDown lt hi first root d).size=d.size:=by
 fun_induction siftDown lt hi first root d<;>simp_all
@[simp] theorem FX(lt:Int->Int->Bool)(hi first:Nat):∀(k:Nat) (d:Array Int),(heapBuild lt hi first k d).size=d.size
 |0,d=>rfl
 |k+1,d=>by rw[heapBuild,FX lt hi first k];simp
theorem Cc{root hi first:Nat}(E:SAG s b rest h d)(hb:first+hi<=d.size)(C:∀h',SAG s b rest h' (siftDown ltInt hi first root d)->Upd (· =b) h h'->K () h')(G:root<=1000000000):
  dx 250 [.slice s.a s.len s.cap,.int .i64 root,.int .i64 hi,.int .i64 first] K h:=by
 refine cZ (lR s root hi first) r9 Tryz.func250 Tryz.call250 ?_
 dsimp only[lR,wO,uK,cB,fE,GE,dh,uS,Uz,Uy];have N:=E.small;refine eF (λ(g:Nat×Array Int) (t:Int) h'=>t=(g.1:Int)/\SAG s b rest h' g.2/\g.2.size=d.size/\siftDown ltInt hi first g.1 g.2=siftDown ltInt hi first root d/\Upd (· =b) h h'/\g.1<=1000000000) (λg=>hi-g.1) (root,d)
  ⟨rfl,E,rfl,rfl,eQ _ _,G⟩ ?_
 rintro I ⟨i,e⟩ t D ⟨ht,a,o,m,n,w⟩ J;(try simp only at ht a o m w)
 subst ht;have F:ac .i64 (ac .i64 (2*(i:Int))+1)=((2*i+1:Nat):Int):=by rw[dw (x:=2*(i:Int)) a4,dw a4];omega
 have A:ac .i64 (((2*i+1:Nat):Int)+1)=((2*i+2:Nat):Int):=by rw[dw a4];omega
 rw[F];refine aq (λL=>?_) λy=>?_
 .refine C _ ?_ n
  rw[<-m,siftDown,dif_pos a4];exact a
 .have y:2*i+1<hi:=by omega
  refine eM (λt h'=>h'=D/\∃c:Nat,t=(c:Int)/\c=if 2*i+2<hi/\ltInt e[first+(2*i+1)]! e[first+(2*i+1)+1]! =true then 2*i+2 else 2*i+1) (λR B=>?_) ?_
  .refine eM (λt h'=>h'=D/\(t=true↔2*i+2<hi/\ltInt e[first+(2*i+1)]! e[first+(2*i+1)+1]! =true)) (λR2 p=>?_) ?_
   .show fN (decide (ac .i64 (((2*i+1:Nat):Int)+1)<(hi:Int))) _ _
    rw[A];refine aq (λk=>?_) λk=>p _ _ ⟨rfl,a9⟩
    show(((0:Int)<=ac .i64 ((first:Int)+((2*i+1:Nat):Int))/\_)/\_)
    refine a.less (i:=first+(2*i+1)) (j:=first+(2*i+1)+1) (by rw[dw a4];omega) (by rw[dw (x:=(first:Int)+_) a4,dw a4];omega) a4 a4 (p _ _ ⟨rfl,?_⟩)
    simp;omega
   .rintro t h' ⟨rfl,q⟩
    refine ez (λk=>?_) λk=>?_
    .show R (ac .i64 (((2*i+1:Nat):Int)+1)) _
     rw[A];exact B _ _ ⟨rfl,_,rfl,by rw[if_pos (q.1 k)]⟩
    .exact B _ _ ⟨rfl,_,rfl,by rw[if_neg λH=>by rw[q.2 H]at k;cases k]⟩
  .rintro t h' ⟨rfl,c,rfl,hc⟩
   have O:c<hi/\i<c:=by rw[hc];split<;>omega
   refine a.less (i:=first+i) (j:=first+c) (by rw[dw a4];omega) (by rw[dw a4];omega) a4 a4 ?_
   have f:siftDown ltInt hi first i e=if !ltInt e[first+i]! e[first+c]! then e else siftDown ltInt hi first c (swp e (first+i) (first+c)):=by
    rw[siftDown,dif_neg a4];by_cases u:2*i+2<hi/\ltInt e[first+(2*i+1)]! e[first+(2*i+1)+1]! =true
    .rw[if_pos (by simp only[bA,decide_eq_true_iff];exact u),dif_pos u.1]
     rw[if_pos u]at hc;rw[hc]
    .rw[if_neg (by simp only[bA,decide_eq_true_iff];exact u)]
     rw[if_neg u]at hc;rw[hc]
   refine ez (λk=>?_) λk=>?_
   .refine C _ ?_ n
    rw[<-m,f,if_pos k];exact a
   .refine a.swap (i:=first+i) (j:=first+c) (by rw[dw a4];omega) (by rw[dw a4];omega) a4 a4 λP z v=>?_
    refine J (c,swp e (first+i) (first+c)) _ _ ⟨rfl,z,by simp[o],?_,n.tr v,by(try simp only);omega⟩ (by(try simp only);omega)
    rw[<-m,f,if_neg (by rw[k];simp)]
theorem ME(H:SAG s b rest h d)(W:a<=e)(T:e<=d.size)(Q:∀h',SAG s b rest h' (heapSort ltInt d a e)->Upd (· =b) h h'->K () h'):
  dx 187 [.slice s.a s.len s.cap,.int .i64 a,.int .i64 e] K h:=by
 refine cZ (lS s a e) sd Tryz.func187 Tryz.call187 ?_;dsimp only[lS,FO,GE,fE,dh,uK,cB];have O:=H.small;have J:ac .i64 ((e:Int)-(a:Int))=((e-a:Nat):Int):=by rw[dw a4];omega
 rw[J];refine⟨a8,?_⟩;have B:ac .i64 (qc (ac .i64 (((e-a:Nat):Int)-1)) 2)=(((e-a-1)/2+1:Nat):Int)-1:=by
  rw[dw (x:=((e-a:Nat):Int)-1) a4];by_cases P:e-a=0
  .rw[P];decide
  .rw[nq a4,dw a4];omega
 show LoopP _ (ac .i64 (qc (ac .i64 (((e-a:Nat):Int)-1)) 2)) h
 rw[B];refine eF (λ(g:Nat×Array Int) (t:Int) h'=>t=(g.1:Int)-1/\SAG s b rest h' g.2/\g.2.size=d.size/\heapBuild ltInt (e-a) a g.1 g.2=heapBuild ltInt (e-a) a ((e-a-1)/2+1) d/\Upd (· =b) h h'/\g.1<=1000000000) (λg=>g.1) ((e-a-1)/2+1,d)
  ⟨rfl,H,rfl,rfl,eQ _ _,by(try simp only);omega⟩ ?_
 rintro I ⟨k,S⟩ t Y ⟨ht,p,n,o,q,v⟩ L;(try simp only at ht p n o v)
 subst ht;refine aq (λA=>?_) λR=>?_
 .obtain⟨k,rfl⟩:∃k',k=k'+1:=⟨k-1,a4⟩
  have w:((k+1:Nat):Int)-1=(k:Int):=a4
  rw[w];refine Cc p a4 (λN c f=>L (k,_) _ _ ⟨by rw[dw a4],c,by simp[n],?_,q.tr f,by(try simp only);omega⟩ a7) a4
  rw[<-o];rfl
 .have:k=0:=by omega
  subst this;rw[dw (x:=((e-a:Nat):Int)-1) a4];refine eF (λ(g:Nat×Array Int) (t:Int) h'=>t=(g.1:Int)-1/\SAG s b rest h' g.2/\g.2.size=d.size/\heapPop ltInt a g.1 g.2=heapSort ltInt d a e/\Upd (· =b) h h'/\g.1<=e-a) (λg=>g.1) (e-a,S)
   ⟨rfl,p,n,by rw[heapSort,<-o];rfl,q,aj _⟩ ?_
  rintro V ⟨k,Z⟩ t N ⟨ht,c,u,m,f,D⟩ F;(try simp only at ht c u m D)
  subst ht;refine aq (λA=>?_) λG=>?_
  .obtain⟨k,rfl⟩:∃k',k=k'+1:=⟨k-1,a4⟩
   have w:((k+1:Nat):Int)-1=(k:Int):=a4
   rw[w];refine c.swap (i:=a) (j:=a+k) rfl (by rw[dw a4];omega) a4 a4 λU z C=>?_
   refine Cc (root:=0) z a9 (λX E y=>F (k,_) _ _ ⟨by rw[dw a4],E,by simp[u],?_,(f.tr C).tr y,by(try simp only);omega⟩ a7) a4
   rw[<-m];rfl
  .have:k=0:=by omega
   subst this;refine Q _ ?_ f;rw[<-m];exact c
theorem NX(w:SAG s b rest h d)(G:a<e)(E:e<=d.size)(z:∀h',SAG s b rest h' (reverseRange d a e)->Upd (· =b) h h'->K () h'):
  dx 190 [.slice s.a s.len s.cap,.int .i64 a,.int .i64 e] K h:=by
 refine cZ (jZ s a e) pU Tryz.func190 Tryz.call190 ?_;dsimp only[jZ,GE,fE,dh,uK,cB];have y:=w.small;refine eF (λ(g:Nat×Nat×Array Int) (t:Int×Int) h'=>t.1=(g.1:Int)/\t.2=(g.2.1:Int)/\SAG s b rest h' g.2.2/\g.2.2.size=d.size/\reverseLoop g.1 g.2.1 g.2.2=reverseRange d a e/\Upd (· =b) h h'/\g.2.1<e) (λg=>g.2.1-g.1) (a,e-1,d)
  ⟨rfl,by(try simp only);rw[dw a4];omega,w,rfl,rfl,eQ _ _,by(try simp only);omega⟩ ?_
 rintro I ⟨i,j,A⟩ ⟨D,C⟩ H ⟨p,q,f,m,c,n,B⟩ x;(try simp only at p q f m c B)
 subst p q;refine aq (λk=>?_) λo=>?_
 .have k:i<j:=by have:(i:Int)<(j:Int):=k;omega
  refine f.swap (i:=i) (j:=j) rfl rfl a4 a4 λF v u=>?_
  refine x (i+1,j-1,swp A i j) _ _ ⟨by(try simp only);rw[dw a4];rfl,by(try simp only);rw[dw a4];omega,v,by simp[m],?_,n.tr u,by(try simp only);omega⟩ (by(try simp only);omega)
  rw[<-c];conv=>rhs;rw[reverseLoop]
  rw[if_pos k]
 .refine z _ ?_ n
  rw[<-c,reverseLoop,if_neg (by have o:¬(i:Int)<(j:Int):=o;omega)];exact f
end
section
open Go.Lift Go.Sort
variable {T:Int->(Bool->eu)->eu}{REST:Int->eu}{p:Int->Bool}{a e:Nat}
variable {s:f9} {b:Nat} {rest:c5} {h:ad} {d:Array Int}
theorem Bb{m k:Int}{j i0:Nat}(s:k=(i0:Int))(n:m=(j:Int))(y:j<=1000000000)(x:i0<=1000000000)
  (u:∀(i:Nat) (R:Bool->eu),i0<=i->i<=j->R (p d[i]!) h->T (i:Int) R h) (e:REST ((scanUp p d j i0:Nat):Int) h):
  LoopP (λ(I:Int->eu) (t:Int) h'=>Join (λ(c:Bool) a=>fN c (I (ac .i64 (t+1)) a) (REST t a)) (λJ=>fN (decide (t<=m)) (T t J h') (J false h'))) k h:=by
 subst s n;refine eF (λ(i:Nat) (t:Int) h'=>t=(i:Int)/\h'=h/\i0<=i/\i<=1000000001/\scanUp p d j i=scanUp p d j i0) (λi=>j+1-i) i0 ⟨rfl,rfl,aj _,a4,rfl⟩ ?_
 rintro I i t h' ⟨rfl,rfl,hi,q,b⟩ w;refine eM (λc a=>a=h'/\(c=true↔i<=j/\p d[i]! =true)) (λR e=>?_) ?_
 .refine aq (λo=>?_) λv=>e _ _ ⟨rfl,a9⟩
  exact u i _ hi a4 (e _ _ ⟨rfl,a9⟩)
 .rintro c a ⟨rfl,hc⟩
  refine ez (λf=>?_) λf=>?_
  .have g:=hc.1 f
   refine w (i+1) _ _ ⟨by rw[dw a4];rfl,rfl,a4,a4,?_⟩ a4
   rw[<-b];conv=>rhs;rw[scanUp]
   rw[if_pos (by simp[g])]
  .have:scanUp p d j i=i:=by
    rw[scanUp,if_neg];intro g;simp only[bA,decide_eq_true_iff]at g;rw[hc.2 g]at f;cases f
   rw[<-b,this]at e;exact e
theorem xI{n o:Int}{j0 i:Nat}(s:o=(j0:Int))(x:n=(i:Int))(z:j0<=1000000000)(u:1<=i)
  (v:∀(j:Nat) (R:Bool->eu),i<=j->j<=j0->R (p d[j]!) h->T (j:Int) R h) (e:REST ((scanDown p d i j0:Nat):Int) h):
  LoopP (λ(I:Int->eu) (t:Int) h'=>Join (λ(c:Bool) a=>fN c (I (ac .i64 (t-1)) a) (REST t a)) (λJ=>fN (decide (n<=t)) (T t J h') (J false h'))) o h:=by
 subst s x;refine eF (λ(j:Nat) (t:Int) h'=>t=(j:Int)/\h'=h/\j<=j0/\scanDown p d i j=scanDown p d i j0) (λj=>j) j0 ⟨rfl,rfl,aj _,rfl⟩ ?_
 rintro I j t h' ⟨rfl,rfl,m,b⟩ y;refine eM (λc a=>a=h'/\(c=true↔i<=j/\p d[j]! =true)) (λR e=>?_) ?_
 .refine aq (λq=>?_) λw=>e _ _ ⟨rfl,a9⟩
  exact v j _ a4 m (e _ _ ⟨rfl,a9⟩)
 .rintro c a ⟨rfl,hc⟩
  refine ez (λf=>?_) λf=>?_
  .have g:=hc.1 f
   obtain⟨j,rfl⟩:∃k,j=k+1:=⟨j-1,a4⟩
   refine y j _ _ ⟨by rw[dw a4];omega,rfl,a4,?_⟩ a4
   rw[<-b];conv=>rhs;rw[scanDown]
   rw[if_pos (by simp[g])]
  .have:scanDown p d i j=j:=by
    cases j with
    |zero=>rw[scanDown]
    |succ j=>
     rw[scanDown,if_neg];intro g;simp only[bA,decide_eq_true_iff]at g;rw[hc.2 g]at f;cases f
   rw[<-b,this]at e;exact e
theorem Qq{n:Nat}(H:SAG s b rest h d)(Y:a<=n)(Z:n<e)(V:e<=d.size){K:Int->eu}(G:∀h',SAG s b rest h' (partitionEqual ltInt d a e n).2->Upd (· =b) h h'->K ((partitionEqual ltInt d a e n).1:Nat) h'):
  fK 193 [.slice s.a s.len s.cap,.int .i64 a,.int .i64 e,.int .i64 n] K h:=by
 refine cZ (jp s a e n) pd Tryz.func193 Tryz.call193 ?_;dsimp only[jp,GE,fE,dh,uK,cB,uS,wO];have Q:=H.small;refine H.swap (i:=a) (j:=n) rfl rfl a4 a4 λX z D=>?_
 refine eF (λ(g:Nat×Nat×Array Int) (t:Int×Int) h'=>t.1=(g.1:Int)/\t.2=(g.2.1:Int)/\SAG s b rest h' g.2.2/\g.2.2.size=d.size/\partEqLoop ltInt a g.1 g.2.1 g.2.2=partitionEqual ltInt d a e n/\Upd (· =b) h h'/\g.2.1<e/\a<g.1/\g.1<=1000000000) (λg=>g.2.1+1-g.1) (a+1,e-1,swp d a n)
  ⟨by(try simp only);rw[dw a4];rfl,by(try simp only);rw[dw a4];omega,z,a7,rfl,D,by(try simp only);omega,a7,by(try simp only);omega⟩ ?_
 rintro I ⟨i,j,f⟩ ⟨U,T⟩ h1 ⟨u,w,m,o,c,q,S,B,v⟩ O;(try simp only at u w m o c S B v)
 subst u w;have L:=scanUp_ge (λx=> !ltInt f[a]! x) f j i
 rw[partEqLoop_eq]at c;refine Bb (d:=f) (p:=λx=> !ltInt f[a]! x) (i0:=i) rfl rfl a4 v (λk R y F C=>m.less (i:=a) (j:=k) rfl rfl a4 a4 C) ?_
 generalize scanUp (λx=> !ltInt f[a]! x) f j i=i2 at L c
 have P:=scanDown_le (λx=>ltInt f[a]! x) f i2 j
 refine xI (d:=f) (p:=λx=>ltInt f[a]! x) (j0:=j) (i:=i2) rfl rfl a4 a4 (λk R y F C=>m.less (i:=a) (j:=k) rfl rfl a4 a4 C) ?_
 generalize scanDown (λx=>ltInt f[a]! x) f i2 j=j2 at P c
 refine aq (λN=>?_) λJ=>?_
 .rw[if_pos a4]at c
  rw[<-c]at G;exact G _ m q
 .rw[if_neg a4]at c
  refine m.swap (i:=i2) (j:=j2) rfl rfl a4 a4 λW E A=>?_
  exact O (i2+1,j2-1,swp f i2 j2) _ _ ⟨by(try simp only);rw[dw a4];rfl,by(try simp only);rw[dw a4];omega,E,by simp[o],c,q.tr A,by(try simp only);omega,by(try simp only);omega,by(try simp only);omega⟩ (by(try simp only);omega)
theorem VG{m:Nat}(T:SAG s b rest h d)(ha:a<=m)(hp:m<e)(he:e<=d.size){K:Int×Bool->eu}
  (L:∀h',SAG s b rest h' (partition ltInt d a e m).2.2->Upd (· =b) h h'->K (((partition ltInt d a e m).1:Nat),(partition ltInt d a e m).2.1) h'):
  uP 194 [.slice s.a s.len s.cap,.int .i64 a,.int .i64 e,.int .i64 m] K h:=by
 refine cZ (kS s a e m) rI Tryz.func194 Tryz.call194 ?_;dsimp only[kS,GE,fE,dh,uK,cB,uS,wO];have hsm:=T.small;refine T.swap (i:=a) (j:=m) rfl rfl a4 a4 λh0 n F=>?_
 have E:(swp d a m).size=d.size:=a7
 have q:partition ltInt d a e m=(let d:=swp d a m
  let i:=scanUp (λx=>ltInt x d[a]!) d (e-1) (a+1)
  let j:=scanDown (λx=> !ltInt x d[a]!) d i (e-1)
  if i>j then(j,true,swp d j a)else
  let r:=partLoop ltInt a (i+1) (j-1) (swp d i j)
  (r.1,false,swp r.2 r.1 a)):=rfl
 (try simp only at q)
 generalize swp d a m=d0 at n E q;have P:ac .i64 ((e:Int)-1)=((e-1:Nat):Int):=by rw[dw a4];omega
 have wa:ac .i64 ((a:Int)+1)=((a+1:Nat):Int):=by rw[dw a4];rfl
 have X:=scanUp_ge (λx=>ltInt x d0[a]!) d0 (e-1) (a+1)
 refine Bb (d:=d0) (p:=λx=>ltInt x d0[a]!) (j:=e-1) (i0:=a+1) wa P a4 a4 (λk R u B y=>n.less (i:=k) (j:=a) rfl rfl a4 a4 y) ?_
 generalize scanUp (λx=>ltInt x d0[a]!) d0 (e-1) (a+1)=i2 at X q
 have Z:=scanDown_le (λx=> !ltInt x d0[a]!) d0 i2 (e-1)
 refine xI (d:=d0) (p:=λx=> !ltInt x d0[a]!) (j0:=e-1) (i:=i2) P rfl a4 a4 (λk R u B y=>n.less (i:=k) (j:=a) rfl rfl a4 a4 y) ?_
 generalize scanDown (λx=> !ltInt x d0[a]!) d0 i2 (e-1)=j2 at Z q
 refine aq (λN=>?_) λW=>?_
 .rw[if_pos a4]at q
  rw[q]at L;exact n.swap (i:=j2) (j:=a) rfl rfl a4 a4 λQ z v=>L Q z (F.tr v)
 .rw[if_neg a4]at q
  refine n.swap (i:=i2) (j:=j2) rfl rfl a4 a4 λQ z v=>?_
  refine eF (λ(g:Nat×Nat×Array Int) (t:Int×Int) h'=>t.1=(g.1:Int)/\t.2=(g.2.1:Int)/\SAG s b rest h' g.2.2/\g.2.2.size=d.size/\partLoop ltInt a g.1 g.2.1 g.2.2=partLoop ltInt a (i2+1) (j2-1) (swp d0 i2 j2)/\Upd (· =b) h h'/\g.2.1<e/\a<g.1/\g.1<=1000000000) (λg=>g.2.1+1-g.1) (i2+1,j2-1,swp d0 i2 j2)
   ⟨by(try simp only);rw[dw a4];rfl,by(try simp only);rw[dw a4];omega,z,by simp[E],rfl,F.tr v,by(try simp only);omega,by(try simp only);omega,by(try simp only);omega⟩ ?_
  rintro I ⟨i,j,f⟩ ⟨t1,t2⟩ h1 ⟨G,J,o,C,c,D,hj,O,H⟩ Y;(try simp only at G J o C c hj O H)
  subst G J;have V:=scanUp_ge (λx=>ltInt x f[a]!) f j i
  rw[partLoop_eq]at c;refine Bb (d:=f) (p:=λx=>ltInt x f[a]!) (i0:=i) rfl rfl a4 H (λk R u B y=>o.less (i:=k) (j:=a) rfl rfl a4 a4 y) ?_
  generalize scanUp (λx=>ltInt x f[a]!) f j i=i3 at V c
  have g4:=scanDown_le (λx=> !ltInt x f[a]!) f i3 j
  refine xI (d:=f) (p:=λx=> !ltInt x f[a]!) (j0:=j) (i:=i3) rfl rfl a4 a4 (λk R u B y=>o.less (i:=k) (j:=a) rfl rfl a4 a4 y) ?_
  generalize scanDown (λx=> !ltInt x f[a]!) f i3 j=j3 at g4 c
  refine aq (λN=>?_) λU=>?_
  .rw[if_pos a4]at c
   rw[q,<-c]at L;exact o.swap (i:=j3) (j:=a) rfl rfl a4 a4 λS w A=>L S w (D.tr A)
  .rw[if_neg a4]at c
   refine o.swap (i:=i3) (j:=j3) rfl rfl a4 a4 λS w A=>?_
   exact Y (i3+1,j3-1,swp f i3 j3) _ _ ⟨by(try simp only);rw[dw a4];rfl,by(try simp only);rw[dw a4];omega,w,by simp[C],c,D.tr A,by(try simp only);omega,by(try simp only);omega,by(try simp only);omega⟩ (by(try simp only);omega)
end
section
open Go.Lift Go.Sort
variable {a e x y c:Nat}{n:Int}{K:Int×Int->eu}
variable {s:f9} {b:Nat} {rest:c5} {h:ad} {d:Array Int}
@[simp] theorem FS(lt:Int->Int->Bool):∀(j:Nat) (d:Array Int),(shiftDown lt j d).size=d.size
 |0,d=>rfl
 |j+1,d=>by rw[shiftDown];split;rfl;rw[FS lt j];simp
@[simp] theorem Xp(lt:Int->Int->Bool)(e j:Nat)(d:Array Int):(shiftUp lt e j d).size=d.size:=by
 fun_induction shiftUp lt e j d<;>simp_all
theorem Hr(hs:SAG s b rest h d)(ha:a<e)(he:e<=d.size){K:Bool->eu}(O:∀h',SAG s b rest h' (partialInsertionSort ltInt d a e).1->Upd (· =b) h h'->K (partialInsertionSort ltInt d a e).2 h'):
  eI 191 [.slice s.a s.len s.cap,.int .i64 a,.int .i64 e] K h:=by
 refine cZ (gG s a e) md Tryz.func191 Tryz.call191 ?_;dsimp only[gG,GE,fE,dh,uK,cB,uS,wO];have hsm:=hs.small;refine eF (λ(g:Nat×Nat×Array Int) (t:Int×Int) h'=>t.1=(g.2.1:Int)/\t.2=5-(g.1:Int)/\SAG s b rest h' g.2.2/\g.2.2.size=d.size/\partialIns ltInt a e g.1 g.2.1 g.2.2=partialInsertionSort ltInt d a e/\Upd (· =b) h h'/\g.1<=5/\a<g.2.1/\g.2.1<=e) (λg=>g.1) (5,a+1,d)
  ⟨by(try simp only);rw[dw a4];rfl,by(try simp only);omega,hs,rfl,rfl,eQ _ _,a7,a7,by(try simp only);omega⟩ ?_
 rintro I ⟨st,i0,N⟩ ⟨t1,t2⟩ h1 ⟨ht1,ht2,q,S,y,u,hst,hai,hie⟩ hI;(try simp only at ht1 ht2 q S y hst hai hie)
 subst ht1 ht2;refine aq (λhlt=>?_) λhge=>?_
 .obtain⟨st,rfl⟩:∃k,st=k+1:=⟨st-1,by have:5-(st:Int)<5:=hlt;omega⟩
  refine eM (λt h'=>∃P d2,t=(P:Nat)/\SAG s b rest h' d2/\d2.size=d.size/\partialIns ltInt a e st P d2=partialInsertionSort ltInt d a e/\Upd (· =b) h h'/\a<P/\P<=e) (λR hR=>?_) ?_
  .refine eF (λ(i:Nat) (t:Int) h'=>t=(i:Int)/\h'=h1/\scanSorted ltInt N e i=scanSorted ltInt N e i0/\a<i/\i<=e) (λi=>e-i) i0 ⟨rfl,rfl,rfl,hai,hie⟩ ?_
   rintro I2 i t h' ⟨rfl,rfl,hsc,n,o⟩ hI2;refine eM (λc T=>T=h'/\(c=true↔i<e/\ltInt N[i]! N[i-1]! =false)) (λR2 Y=>?_) ?_
   .refine aq (λhle=>?_) λhgt=>Y _ _ ⟨rfl,a9⟩
    refine q.less (i:=i) (j:=i-1) rfl (by rw[dw a4];omega) a4 a4 (Y _ _ ⟨rfl,a9⟩)
   .rintro c T ⟨rfl,hc⟩
    refine ez (λh2=>?_) λh2=>?_
    .have hh:=hc.1 h2
     refine hI2 (i+1) _ _ ⟨by rw[dw a4];rfl,rfl,?_,a4,a4⟩ a4
     rw[<-hsc];conv=>rhs;rw[scanSorted]
     rw[if_pos (by simp[hh])]
    .have hsi:scanSorted ltInt N e i=i:=by
      rw[scanSorted,if_neg];intro hh;simp only[bA,decide_eq_true_iff,Bool.not_eq_eq_eq_not,Bool.not_true]at hh;rw[hc.2 hh]at h2;cases h2
     have f:=y;rw[partialIns]at f;simp only[<-hsc,hsi]at f;refine ez (λL=>?_) λL=>?_
     .have L:i=e:=Int.ofNat.inj (by simpa using L)
      rw[if_pos L]at f;rw[<-f]at O;exact O _ q u
     .have L:i≠e:=λe'=>by subst e';simp at L
      rw[if_neg L]at f;have we:ac .i64 ((e:Int)-(a:Int))=((e-a:Nat):Int):=by rw[dw a4];omega
      show fN (decide (ac .i64 ((e:Int)-(a:Int))<50)) _ _
      rw[we];refine aq (λh4=>?_) λh4=>?_
      .rw[if_pos a4]at f
       rw[<-f]at O;exact O _ q u
      .rw[if_neg a4]at f
       have hi1:1<=i:=a4
       refine q.swap (i:=i) (j:=i-1) rfl (by rw[dw a4];omega) a4 a4 λh5 D Z=>?_
       have J:(swp N i (i-1)).size=d.size:=by simp[S]
       generalize swp N i (i-1)=d5 at D J f;refine eM (λ_ h'=>SAG s b rest h' (if i-a>=2 then shiftDown ltInt (i-1) d5 else d5)/\Upd (· =b) h h') (λR3 v=>?_) ?_
       .have wi:ac .i64 ((i:Int)-(a:Int))=((i-a:Nat):Int):=by rw[dw a4];omega
        show fN (decide (ac .i64 ((i:Int)-(a:Int))>=2)) _ _
        rw[wi];refine aq (λh6=>?_) λh6=>?_
        .rw[if_pos a4]at v
         refine eF (λ(g:Nat×Array Int) (t:Int) h'=>t=(g.1:Int)/\SAG s b rest h' g.2/\g.2.size=d.size/\shiftDown ltInt g.1 g.2=shiftDown ltInt (i-1) d5/\Upd (· =b) h h'/\g.1<e) (λg=>g.1) (i-1,d5)
          ⟨by rw[dw a4];(try simp only);omega,D,J,rfl,u.tr Z,by(try simp only);omega⟩ ?_
         rintro I4 ⟨j,d6⟩ t h7 ⟨ht,w,W,p,H,C⟩ E;(try simp only at ht w W p C)
         subst ht;refine aq (λh8=>?_) λh8=>?_
         .obtain⟨j,rfl⟩:∃k,j=k+1:=⟨j-1,a4⟩
          have Q:ac .i64 (((j+1:Nat):Int)-1)=(j:Int):=by rw[dw a4];omega
          rw[shiftDown]at p;refine w.less (i:=j+1) (j:=j) rfl Q a4 a4 (ez (λU=>?_) λU=>?_)
          .rw[if_pos U]at p
           exact v _ _ ⟨by rw[<-p];exact w,H⟩
          .rw[if_neg (by rw[U];simp)]at p
           refine w.swap (i:=j+1) (j:=j) rfl Q a4 a4 λz V hu10=>?_
           exact E (j,swp d6 (j+1) j) _ _ ⟨Q,V,by simp[W],p,H.tr hu10,by(try simp only);omega⟩ a7
         .have:j=0:=by omega
          subst this;exact v _ _ ⟨by rw[<-p];exact w,H⟩
        .rw[if_neg a4]at v
         exact v _ _ ⟨D,u.tr Z⟩
       .rintro _ h6 ⟨F,hu6⟩
        have B:(if i-a>=2 then shiftDown ltInt (i-1) d5 else d5).size=d.size:=by split<;>simp[J]
        generalize (if i-a>=2 then shiftDown ltInt (i-1) d5 else d5)=d6 at F B f
        have wi:ac .i64 ((e:Int)-(i:Int))=((e-i:Nat):Int):=by rw[dw a4];omega
        show fN (decide (ac .i64 ((e:Int)-(i:Int))>=2)) _ _
        rw[wi];refine aq (λh7=>?_) λh7=>?_
        .rw[if_pos a4]at f
         refine eF (λ(g:Nat×Array Int) (t:Int) h'=>t=(g.1:Int)/\SAG s b rest h' g.2/\g.2.size=d.size/\shiftUp ltInt e g.1 g.2=shiftUp ltInt e (i+1) d6/\Upd (· =b) h h'/\1<=g.1/\g.1<=e) (λg=>e-g.1) (i+1,d6)
          ⟨by rw[dw a4];rfl,F,B,rfl,hu6,a7,by(try simp only);omega⟩ ?_
         rintro I4 ⟨j,d7⟩ t h8 ⟨ht,x,A,m,G,hj1,C⟩ E;(try simp only at ht x A m hj1 C)
         subst ht;refine aq (λU=>?_) λU=>?_
         .have Q:ac .i64 ((j:Int)-1)=((j-1:Nat):Int):=by rw[dw a4];omega
          rw[shiftUp,if_pos a4]at m;refine x.less (i:=j) (j:=j-1) rfl Q a4 a4 (ez (λz=>?_) λz=>?_)
          .rw[if_pos z]at m
           exact hR _ _ ⟨i,d7,rfl,x,A,by rw[m];exact f,G,n,o⟩
          .rw[if_neg (by rw[z];simp)]at m
           refine x.swap (i:=j) (j:=j-1) rfl Q a4 a4 λh11 X hu11=>?_
           exact E (j+1,swp d7 j (j-1)) _ _ ⟨by rw[dw a4];rfl,X,by simp[A],m,G.tr hu11,a7,by(try simp only);omega⟩ (by(try simp only);omega)
         .rw[shiftUp,if_neg a4]at m
          exact hR _ _ ⟨i,d7,rfl,x,A,by rw[m];exact f,G,n,o⟩
        .rw[if_neg a4]at f
         exact hR _ _ ⟨i,d6,rfl,F,B,f,hu6,n,o⟩
  .rintro t h' ⟨P,d2,rfl,hs2,hz2,f,hu2,n,o⟩
   exact hI (st,P,d2) _ _ ⟨rfl,by(try simp only);rw[dw a4];omega,hs2,hz2,f,hu2,by(try simp only);omega,n,o⟩ a7
 .have:st=0:=by have:¬5-(st:Int)<5:=hge;omega
  subst this;rw[partialIns]at y;rw[<-y]at O;exact O _ q u
theorem Bl(a:SAG s b rest h d)(hx:x<d.size)(t:y<d.size)(hc:h[c]? =some (.cells #[.int .i64 n] 3 (0,0))) (f:c≠b) 
  (g:∀h' (p q:Nat) m,(p=x/\q=y\/p=y/\q=x)->SAG s b rest h' d->h'[c]? =some (.cells #[.int .i64 m] 3 (0,0))->Upd (· =c) h h'->K ((p:Int),(q:Int)) h'):
  Ua 286 [.slice s.a s.len s.cap,.int .i64 x,.int .i64 y,gV c] K h:=by
 refine cZ (mY s x y (some ⟨c,0,none⟩)) .nil Tryz.func286 Tryz.call286 ?_;dsimp only[mY,cL,uS,wO,uK,cB,fE];refine a.less (i:=y) (j:=x) rfl rfl t hx (ez (λo=>?_) λo=>?_)
 .refine⟨_,rfl,n,by rw[ba hc];rfl,_,rfl,eH hc a7,?_⟩
  have k:Upd (· =c) h (hset h ⟨c,0,none⟩ (.int .i64 (ac .i64 (n+1)))):=Upd.hset _ _ rfl
  refine g _ y x (ac .i64 (n+1)) (.inr ⟨rfl,rfl⟩) (a.upd k λe=>f e.symm) ?_ k
  rw[kH hc,dE hc];rfl
 .exact g _ x y _ (.inl ⟨rfl,rfl⟩) a hc (eQ _ _)
theorem HA{z:Nat}(G:SAG s b rest h d)(hx:x<d.size)(H:y<d.size)(C:z<d.size)(hc:h[c]? =some (.cells #[.int .i64 n] 3 (0,0))) (a:c≠b) {K:Int->eu}
  (F:∀h' (p:Nat) m,(p=x\/p=y\/p=z)->SAG s b rest h' d->h'[c]? =some (.cells #[.int .i64 m] 3 (0,0))->Upd (· =c) h h'->K (p:Int) h'):
  fK 254 [.slice s.a s.len s.cap,.int .i64 x,.int .i64 y,.int .i64 z,gV c] K h:=by
 refine cZ (mZ s x y z (some ⟨c,0,none⟩)) .nil Tryz.func254 Tryz.call254 ?_;unfold mZ XC;refine Bl G hx H hc a λS I D J U o e g=>?_
 have f:D<d.size:=a4
 have w:I<d.size:=a4
 refine Bl o f C e a λO E Q N T q k i=>?_
 have u:E<d.size:=a4
 refine Bl q w u k a λP L A B R j v t=>?_
 exact F _ A B a4 j v ((g.tr i).tr t)
theorem wn(i:SAG s b rest h d)(u:1<=x)(hx:x+1<d.size)(hc:h[c]? =some (.cells #[.int .i64 n] 3 (0,0))) (f:c≠b) {K:Int->eu}
  (j:∀h' (p:Nat) m,(x-1<=p/\p<=x+1)->SAG s b rest h' d->h'[c]? =some (.cells #[.int .i64 m] 3 (0,0))->Upd (· =c) h h'->K (p:Int) h'):
  fK 253 [.slice s.a s.len s.cap,.int .i64 x,gV c] K h:=by
 refine cZ (jq s x (some ⟨c,0,none⟩)) .nil Tryz.func253 Tryz.call253 ?_;unfold jq XE;have k:=i.small;have q:ac .i64 ((x:Int)-1)=((x-1:Nat):Int):=by rw[dw a4];omega
 have o:ac .i64 ((x:Int)+1)=((x+1:Nat):Int):=by rw[dw a4];omega
 rw[q,o];exact HA i a4 a4 hx hc f λh' p m t g a e=>j h' p m a4 g a e
theorem F6(L:SAG s b rest h d)(ha:a<e)(he:e<=d.size)
  (x:∀h' (p:Nat) (n:Int),a<=p->p<e->SAG s b rest h' d->Upd No h h'->K ((p:Int),n) h'):
  Ua 189 [.slice s.a s.len s.cap,.int .i64 a,.int .i64 e] K h:=by
 refine cZ (ko s a e) qg Tryz.func189 Tryz.call189 ?_;dsimp only[ko,XE,XD,Xd];have X:=L.small;have k0:=fD No h [.int .i64 0] 3;have o:=bV h [.int .i64 0] 3;have i:=L.upd k0 id;have Z:=bw L.blk;have j:h.size≠b:=a4
 simp only[Go.Lift.At];generalize hnew h [.int .i64 0] 3=h0 at k0 o i;have wl:ac .i64 ((e:Int)-(a:Int))=((e-a:Nat):Int):=by rw[dw a4];omega
 have Y:ac .i64 (qc ((e-a:Nat):Int) 4)=(((e-a)/4:Nat):Int):=by
  rw[nq a4,dw a4];omega
 have wm:∀k:Nat,k<=3->ac .i64 (((((e-a)/4:Nat):Int))*(k:Int))=(((e-a)/4*k:Nat):Int):=λk x=>by
  rw[Int.natCast_mul,dw];have:(e-a)/4*k<=1000000000*3:=Nat.mul_le_mul a4 x;have:(((e-a)/4*k:Nat):Int)=(((e-a)/4:Nat):Int)*(k:Int):=Int.natCast_mul ..;omega
 have N:=wm 1 a4;have O:=wm 2 a4;have P:=wm 3 a4;simp only[Int.cast_ofNat_Int]at N O P;simp only[Bd,wl,Y];have E:ac .i64 ((((e-a)/4:Nat):Int)*1)=(((e-a)/4*1:Nat):Int):=N;have C:ac .i64 ((((e-a)/4:Nat):Int)*2)=(((e-a)/4*2:Nat):Int):=O;have D:ac .i64 ((((e-a)/4:Nat):Int)*3)=(((e-a)/4*3:Nat):Int):=P;rw[E,C,D];have F:∀k:Nat,k<=3->ac .i64 ((a:Int)+(((e-a)/4*k:Nat):Int))=((a+(e-a)/4*k:Nat):Int):=λk x=>by
  have:(e-a)/4*k<=(e-a)/4*3:=Nat.mul_le_mul_left _ x;rw[dw a4];omega
 refine⟨a8,a8,a8,?_⟩
 refine eM (λt h'=>∃p:Nat,t=(p:Int)/\a<=p/\p<e/\SAG s b rest h' d/\Upd No h h'/\∃m,h'[h.size]? =some (.cells #[.int .i64 m] 3 (0,0))) (λR Q=>?_) ?_
 .rw[F 1 a4,F 2 a4,F 3 a4]
  refine aq (λT=>?_) λT=>?_
  .have T:8<=e-a:=by omega
   refine eM (λt h'=>∃p q r:Nat,t=((p:Int),(q:Int),(r:Int))/\(a<=p/\p<e)/\(a<=q/\q<e)/\(a<=r/\r<e)/\SAG s b rest h' d/\Upd No h h'/\∃m,h'[h.size]? =some (.cells #[.int .i64 m] 3 (0,0))) (λR2 A=>?_) ?_
   .refine aq (λB=>?_) λB=>?_
    .have B:50<=e-a:=by omega
     refine wn i a4 a4 o j λS p1 m1 e1 f g c=>?_
     refine wn f a4 a4 g j λW H V e2 w v u=>?_
     refine wn w a4 a4 v j λh3 U m3 e3 G J I=>?_
     exact A _ _ ⟨p1,H,U,rfl,a4,a4,a4,G,k0.trans ((c.tr u).tr I) λb hb=>.inr (cI hb.symm),_,J⟩
    .exact A _ _ ⟨_,_,_,rfl,a4,a4,a4,i,k0,_,o⟩
   .rintro t S ⟨p,q,r,rfl,hp,hq,hr,f,c,m,g⟩
    refine HA f a4 a4 a4 g j λW H V e2 w v u=>?_
    exact Q _ _ ⟨H,rfl,a4,a4,w,c.trans u λb hb=>.inr (cI hb.symm),_,v⟩
  .exact Q _ _ ⟨_,rfl,a4,a4,i,k0,_,o⟩
 .rintro t S ⟨p,rfl,z,y,f,c,m,g⟩
  refine⟨m,by rw[cD,ba g];rfl,ez (λ_=>x _ p _ z y f c) λ_=>ez (λ_=>x _ p _ z y f c) λ_=>x _ p _ z y f c⟩
end
section
open Go.Lift Go.Sort
variable {n:Nat}{K:Int->eu}
variable {s:f9} {b:Nat} {rest:c5} {h:ad} {d:Array Int}
theorem NF(x:Int):ac .u64 x=x%18446744073709551616:=by
 simp[ac,ak,IntKind.signed]
theorem JH(x:Int){m:Int}(a:0<=m)(hm:m<18446744073709551616):0<=ac .u64 ((aB (ak .u64) x&&&aB (ak .u64) m).toNat:Int)/\ac .u64 ((aB (ak .u64) x&&&aB (ak .u64) m).toNat:Int)<=m:=by
 have b:(aB (ak .u64) x&&&aB (ak .u64) m).toNat<=(aB (ak .u64) m).toNat:=by
  rw[nV];exact Nat.and_le_right
 have c:((aB (ak .u64) m).toNat:Int)=m:=by
  show((aB 64 m).toNat:Int)=m
  rw[BitVec.toNat_ofInt];have:m%((2^64:Nat):Int)=m:=Int.emod_eq_of_lt a a4;rw[this];omega
 rw[NF];omega
abbrev SI:dO:=⟨#[0,1,2,2,3,3,3,3,4,4,4,4,4,4,4,4,5,5,5,5,5,5,5,5,5,5,5,5,5,5,5,5,6,6,6,6,6,6,6,6,6,6,6,6,6,6,6,6,6,6,6,6,6,6,6,6,6,6,6,6,6,6,6,6,7,7,7,7,7,7,7,7,7,7,7,7,7,7,7,7,7,7,7,7,7,7,7,7,7,7,7,7,7,7,7,7,7,7,7,7,7,7,7,7,7,7,7,7,7,7,7,7,7,7,7,7,7,7,7,7,7,7,7,7,7,7,7,7,8,8,8,8,8,8,8,8,8,8,8,8,8,8,8,8,8,8,8,8,8,8,8,8,8,8,8,8,8,8,8,8,8,8,8,8,8,8,8,8,8,8,8,8,8,8,8,8,8,8,8,8,8,8,8,8,8,8,8,8,8,8,8,8,8,8,8,8,8,8,8,8,8,8,8,8,8,8,8,8,8,8,8,8,8,8,8,8,8,8,8,8,8,8,8,8,8,8,8,8,8,8,8,8,8,8,8,8,8,8,8,8,8,8,8,8,8,8,8,8,8,8,8,8,8,8,8,8]⟩
theorem VX:∀x:Nat,x<256->∃c:UInt8,SI[x]? =some c/\c.toNat<=8/\(1<=x->2^c.toNat<=2*x)/\(x=0->c.toNat=0):=by
 have key:∀x:Fin 256,∃c:UInt8,SI[x.val]? =some c/\c.toNat<=8/\(1<=x.val->2^c.toNat<=2*x.val)/\(x.val=0->c.toNat=0):=by
  intro x;have:∀x:Fin 256,(match SI[x.val]? with|some c=>decide (c.toNat<=8/\(1<=x.val->2^c.toNat<=2*x.val)/\(x.val=0->c.toNat=0))|none=>false)=true:=by decide+kernel
  have hx:=this x;split at hx
  .rename_i c hc
   exact⟨c,hc,of_decide_eq_true hx⟩
  .cases hx
 exactλx hx=>key ⟨x,hx⟩
theorem T7(v:n<4294967296)(m:∀L:Nat,L<=64->(1<=n->2^L<=2*n)->K (L:Int) h):fK 196 [.int .u64 n] K h:=by
 refine cZ (vO n) Dw Tryz.func196 Tryz.call196 ?_;unfold vO;have fd:∀(x k:Nat),dX (x:Int) (2^k)=((x/2^k:Nat):Int):=λx k=>by
  rw[Int.fdiv_eq_ediv_of_nonneg _ (Int.pow_nonneg a4)];rw[Int.natCast_ediv,Int.natCast_pow];rfl
 refine eM (λt h'=>h'=h/\t=((n:Int),(0:Int))) (λR d=>?_) ?_
 .exact aq (λa=>a4) λa=>d _ _ ⟨rfl,rfl⟩
 .rintro t h' ⟨rfl,rfl⟩
  refine eM (λt j=>j=h'/\∃x s:Nat,t=((x:Int),(s:Int))/\x*2^s<=n/\(1<=n->1<=x)/\x<65536/\s<=16) (λR d=>?_) ?_
  .refine aq (λa=>?_) λa=>d _ _ ⟨rfl,n,0,rfl,a7,λh=>h,by have a:¬(n:Int)>=65536:=a;omega,a4⟩
   have a:65536<=n:=by have a:(n:Int)>=65536:=a;omega
   refine⟨a4,d _ _ ⟨rfl,n/2^16,16,?_,Nat.div_mul_le_self ..,λ_=>a4,a4,a4⟩⟩
   simp only[oL.injEq];exact⟨fd n 16,a8⟩
  .rintro t j ⟨rfl,x,s,rfl,hx,b,e,i⟩
   refine eM (λt f=>f=j/\∃x s:Nat,t=((x:Int),(s:Int))/\x*2^s<=n/\(1<=n->1<=x)/\x<256/\s<=24) (λR d=>?_) ?_
   .refine aq (λa=>?_) λa=>d _ _ ⟨rfl,x,s,rfl,hx,b,by have a:¬(x:Int)>=256:=a;omega,a4⟩
    have a:256<=x:=by have a:(x:Int)>=256:=a;omega
    refine⟨a4,d _ _ ⟨rfl,x/2^8,s+8,?_,?_,λ_=>a4,a4,a4⟩⟩
    .simp only[oL.injEq]
     exact⟨fd x 8,by rw[dw a4];omega⟩
    .rw[Nat.pow_add,tg (2^s),<-Nat.mul_assoc]
     exact aQ (db _ (Nat.div_mul_le_self ..)) hx
   .rintro t f ⟨rfl,x,s,rfl,hx,b,e,i⟩
    obtain⟨c,hc,o,g,u⟩:=VX x e;have wx:ac .u8 (x:Int)=(x:Int):=by
     simp[ac,ak,IntKind.signed];omega
    show∃b10:UInt8,(0:Int)<=ac .u8 (x:Int)/\SI[(ac .u8 (x:Int)).toNat]? =some b10/\_
    rw[wx];refine⟨c,a4,by simpa using hc,?_⟩
    have p:ac .i64 (c.toNat:Int)=(c.toNat:Int):=dw a4;have q:ac .i64 ((s:Int)+ac .i64 (c.toNat:Int))=((s+c.toNat:Nat):Int):=by rw[p,dw a4];omega
    show K (ac .i64 ((s:Int)+ac .i64 (c.toNat:Int))) f
    rw[q];refine m _ a4 λa=>?_
    have:=g (b a);rw[Nat.pow_add];calc 2^s*2^c.toNat<=2^s*(2*x):=ge _ this
     _=2*(x*2^s):=by rw[tg (2^s),Nat.mul_assoc]
     _<=2*n:=ge _ hx
theorem SH(a:n<4294967296)(b:∀L:Nat,L<=64->(1<=n->2^L<=2*n)->K (L:Int) h):fK 132 [.int .u64 n] K h:=by
 refine cZ (yz n) .nil Tryz.func132 Tryz.call132 ?_;unfold yz;exact T7 a b
theorem On(c:1<=n)(g:n<=1000000000)(a:∀m:Nat,1<=m->m<=2*n->K (m:Int) h):rQ 251 [.int .i64 n] K h:=by
 refine cZ (pt n) .nil Tryz.func251 Tryz.call251 ?_;unfold pt;rw[show ac .u64 (n:Int)=(n:Int) by rw[NF];omega]
 refine SH a4 λL f b=>⟨a4,?_⟩
 have:=b c;have e:ac .u64 (1*2^(min ((L:Int)).toNat (ak .u64)))=((2^L:Nat):Int):=by
  rw[NF,show min ((L:Int)).toNat (ak .u64)=L by simp[ak];omega,Int.one_mul]
  have d:(2:Int)^L=((2^L:Nat):Int):=a7
  rw[d];generalize 2^L=P at this⊢;omega
 rw[e];exact a _ (Nat.one_le_two_pow) this
theorem LL{c:Nat}{n:Int}{t:TypeId}(hc:h[c]? =some (.cells #[.int .u64 n] t (0,0))) 
  (i:∀h' m,h'[c]? =some (.cells #[.int .u64 m] t (0,0))->Upd (· =c) h h'->K m h'):rQ 252 [gV c] K h:=by
 refine cZ (pO (some ⟨c,0,none⟩)) .nil Tryz.func252 Tryz.call252 ?_;dsimp only[pO,cL,BE,Pb];have set:∀{h:ad} {n:Int} (m:Int),h[c]? =some (.cells #[.int .u64 n] t (0,0))->(hset h ⟨c,0,none⟩ (.int .u64 m))[c]? =some (.cells #[.int .u64 m] t (0,0))/\Upd (· =c) h (hset h ⟨c,0,none⟩ (.int .u64 m))/\Wr h ⟨c,0,none⟩:=λm hc=>by
  refine⟨?_,Upd.hset _ _ rfl,eH hc a7⟩;rw[kH hc,dE hc];rfl
 have a:∀{h:ad} {n:Int},h[c]? =some (.cells #[.int .u64 n] t (0,0))->aI h ⟨c,0,none⟩=some (.int .u64 n):=λhc=>by rw[ba hc];rfl
 refine⟨_,rfl,_,a hc,_,rfl,_,a hc,a4,_,rfl,?_⟩
 obtain⟨d,k1,g⟩:=set _ hc;refine⟨g,_,rfl,_,a d,_,rfl,_,a d,a4,_,rfl,?_⟩
 obtain⟨b,k,o⟩:=set _ d;refine⟨o,_,rfl,_,a b,_,rfl,_,a b,a4,_,rfl,?_⟩
 obtain⟨e,f,j⟩:=set _ b;exact⟨j,_,rfl,_,a e,i _ _ e ((k1.tr k).tr f)⟩
theorem CI{a e:Nat}(B:SAG s b rest h d)(ha:a<=e)(he:e<=d.size){K:Unit->eu}(O:∀h' d',SAG s b rest h' d'->PermIn a e d d'->Upd (· =b) h h'->K () h'):
  dx 188 [.slice s.a s.len s.cap,.int .i64 a,.int .i64 e] K h:=by
 refine cZ (jD s a e) pA Tryz.func188 Tryz.call188 ?_;dsimp only[jD,GE,fE,dh,uK,cB,Xd];have Z:=B.small;have wl:ac .i64 ((e:Int)-(a:Int))=((e-a:Nat):Int):=by rw[dw a4];omega
 rw[wl];refine aq (λP=>?_) λP=>O h d B (permIn_refl ..) (eQ _ _)
 have P:8<=e-a:=a4
 have k0:=fD No h [.int .u64 0] 340;have f:=bV h [.int .u64 0] 340;have v:=B.upd k0 id;have hbl:=bw B.blk;have p:h.size≠b:=a4
 simp only[Go.Lift.At,cD];generalize hnew h [.int .u64 0] 340=h0 at k0 f v;refine⟨eH f a7,?_⟩;have k1:Upd (· =h.size) h0 (hset h0 ⟨h.size,0,none⟩ (.int .u64 (ac .u64 ((e-a:Nat):Int)))):=Upd.hset _ _ rfl
 have u:(hset h0 ⟨h.size,0,none⟩ (.int .u64 (ac .u64 ((e-a:Nat):Int))))[h.size]? =some (.cells #[.int .u64 (ac .u64 ((e-a:Nat):Int))] 340 (0,0)):=by
  rw[kH f,dE f];rfl
 have z:=v.upd k1 λe=>p e.symm
 generalize hset h0 ⟨h.size,0,none⟩ (.int .u64 (ac .u64 ((e-a:Nat):Int)))=h1 at k1 u z;refine On a4 a4 λm S hm2=>⟨a8,?_⟩
 have wq:ac .i64 (ac .i64 (Int.tdiv ((e-a:Nat):Int) 4)*2)=(((e-a)/4*2:Nat):Int):=by
  rw[Int.tdiv_eq_ediv_of_nonneg a4,dw (x:=((e-a:Nat):Int)/4) a4,dw a4];omega
 simp only[Bd];rw[wq];have Q:ac .i64 (ac .i64 ((a:Int)+(((e-a)/4*2:Nat):Int))-1)=((a+(e-a)/4*2-1:Nat):Int):=by
  rw[dw (x:=(a:Int)+_) a4,dw a4];omega
 have U:ac .i64 (ac .i64 ((a:Int)+(((e-a)/4*2:Nat):Int))+1)=((a+(e-a)/4*2+1:Nat):Int):=by
  rw[dw (x:=(a:Int)+_) a4,dw a4];omega
 rw[Q];refine eF (λ(g:Nat×Array Int) (t:Int) h'=>t=(g.1:Int)/\SAG s b rest h' g.2/\PermIn a e d g.2/\Upd (· =b) h h'/\(∃n,h'[h.size]? =some (.cells #[.int .u64 n] 340 (0,0)))/\a+(e-a)/4*2-1<=g.1/\g.1<=a+(e-a)/4*2+2) (λg=>a+(e-a)/4*2+2-g.1) (a+(e-a)/4*2-1,d)
  ⟨rfl,z,permIn_refl ..,k0.wide.trans k1 λx hx=>.inr a4,⟨_,u⟩,aj _,by(try simp only);omega⟩ ?_
 rintro I ⟨i,C⟩ t X ⟨ht,k,c,y,⟨n2,J⟩,H,D⟩ W;(try simp only at ht k c H D)
 subst ht;have hz:C.size=d.size:=c.1;refine⟨a8,?_⟩;rw[U];refine aq (λF=>?_) λV=>O X C k c y
 have F:i<=a+(e-a)/4*2+1:=a4
 refine LL J λY r L A=>?_
 have G:=k.upd A λe=>p e.symm
 have wm:ac .u64 ((m:Int)-1)=((m-1:Nat):Int):=by rw[NF];omega
 rw[wm];obtain⟨T,a1⟩:=JH r (m:=((m-1:Nat):Int)) a4 a4;generalize ac .u64 ((aB (ak .u64) r&&&aB (ak .u64) ((m-1:Nat):Int)).toNat:Int)=o at T a1;have wo:ac .i64 o=o:=dw a4;refine eM (λt h'=>h'=Y/\∃q:Nat,t=(q:Int)/\q<e-a) (λR N=>?_) ?_
 .show fN (decide (ac .i64 o>=((e-a:Nat):Int))) _ _
  rw[wo];refine aq (λh4=>N _ _ ⟨rfl,(o-((e-a:Nat):Int)).toNat,?_,a4⟩) λh4=>N _ _ ⟨rfl,o.toNat,a4,a4⟩
  show ac .i64 (o-((e-a:Nat):Int))=_
  rw[dw a4];omega
 .rintro t h' ⟨rfl,q,rfl,hq⟩
  have wj:ac .i64 ((a:Int)+(q:Int))=((a+q:Nat):Int):=by rw[dw a4];omega
  refine G.swap (i:=i) (j:=a+q) rfl wj a4 a4 λh5 E w=>?_
  refine W (i+1,swp C i (a+q)) _ _ ⟨by rw[dw a4];rfl,E,permIn_trans _ _ _ _ _ c (swp_permIn C a e i (a+q) a4 a4 a4 a4 a4),?_,⟨r,w.get L p⟩,by(try simp only);omega,by(try simp only);omega⟩ (by(try simp only);omega)
  exact(y.trans A λx hx=>.inr a4).tr w
end
section
open Go.Lift Go.Sort
variable {s:f9} {b:Nat} {rest:c5} {h:ad} {d:Array Int}
theorem NL:SWO ltInt:=⟨λx=>by simp[ltInt],λx y z a b=>by simp only[ltInt,decide_eq_true_iff]at*;omega,λx y z a b=>by simp only[ltInt,decide_eq_false_iff_not]at*;omega⟩
theorem X2:∀(n:Nat) {a e:Nat} {Z:Int} {h:ad} {d:Array Int} {K:Unit->eu},e-a=n->SAG s b rest h d->a<=e->e<=d.size->Go.Sort.Below ltInt a e d->
  (∀h' d',SAG s b rest h' d'->PermIn a e d d'->SortedIn ltInt a e d'->Upd (· =b) h h'->K () h')->dx 131 [.slice s.a s.len s.cap,.int .i64 a,.int .i64 e,.int .i64 Z] K h:=by
 intro n;induction n using Nat.strongRecOn with
 |_ n ih=>
 intro a e Z h d K hn hs ha he hB hk;refine mw s a e Z ?_;dsimp only[iP,FO,B0,uS,wO,uK,cB,fE];have hsm:=hs.small;refine eF (λ(g:Nat×Nat×Array Int) (t:Int×Int×Int×Bool×Bool) h'=>t.1=(g.1:Int)/\t.2.1=(g.2.1:Int)/\SAG s b rest h' g.2.2/\g.2.2.size=d.size/\(a<=g.1/\g.1<=g.2.1/\g.2.1<=e)/\Go.Sort.Below ltInt g.1 g.2.1 g.2.2/\
   (∀R,PermIn g.1 g.2.1 g.2.2 R->SortedIn ltInt g.1 g.2.1 R->PermIn a e d R/\SortedIn ltInt a e R)/\Upd (· =b) h h') (λg=>g.2.1-g.1) (a,e,d)
  ⟨rfl,rfl,hs,rfl,⟨aj _,ha,aj _⟩,hB,λR h1 h2=>⟨h1,h2⟩,eQ _ _⟩ ?_
 rintro I ⟨c,f,d1⟩ ⟨t1,t2,l1,wb,wp⟩ h1 ⟨S,ht2,F,J,⟨haa,u,hee⟩,hB1,k,L⟩ hI;(try simp only at S ht2 F J haa u hee hB1 k)
 subst S ht2;have w:f<=d1.size:=a4
 have wl:ac .i64 ((f:Int)-(c:Int))=((f-c:Nat):Int):=by rw[dw a4];omega
 (try simp only)
 rw[wl];refine aq (λhle=>?_) λhgt=>?_
 .refine OC F u w λh2 y m=>?_
  obtain⟨p1,p2⟩:=insertionSort_holds NL d1 c f u w;obtain⟨q1,q2⟩:=k _ p1 p2;exact hk _ _ y q1 q2 (L.tr m)
 have hgt:12<f-c:=a4
 refine ez (λ_=>?_) λ_=>?_
 .refine ME F u w λh2 y m=>?_
  obtain⟨p1,p2⟩:=heapSort_holds NL d1 c f u w;obtain⟨q1,q2⟩:=k _ p1 p2;exact hk _ _ y q1 q2 (L.tr m)
 refine eM (λ_ h'=>∃U,SAG s b rest h' U/\PermIn c f d1 U/\Upd (· =b) h h') (λR E=>?_) ?_
 .refine ez (λ_=>?_) λ_=>E _ _ ⟨d1,F,permIn_refl ..,L⟩
  exact CI F u w λh2 U y H m=>E _ _ ⟨U,y,H,L.tr m⟩
 rintro lim2 h2 ⟨U,y,H,m⟩;have hz2:U.size=d.size:=by rw[H.1,J]
 refine F6 y a4 a4 λh3 p hn1 hpa hpe hs3 hu3=>?_
 refine eM (λt h'=>∃(q:Nat) (V:Array Int),t.1=(q:Int)/\c<=q/\q<f/\SAG s b rest h' V/\PermIn c f d1 V/\Upd (· =b) h h') (λR E=>?_) ?_
 .refine ez (λ_=>?_) λ_=>E _ _ ⟨p,U,rfl,hpa,hpe,hs3,H,m.tr hu3.wide⟩
  refine NX hs3 a4 a4 λh4 O C=>E _ _ ⟨f-1-(p-c),_,?_,a4,a4,O,permIn_trans _ _ _ _ _ H (reverseRange_holds U c f u a4),(m.tr hu3.wide).tr C⟩
  show ac .i64 (ac .i64 ((f:Int)-1)-ac .i64 ((p:Int)-(c:Int)))=_
  rw[dw (x:=(f:Int)-1) a4,dw (x:=(p:Int)-(c:Int)) a4,dw a4];omega
 rintro⟨q1,hint⟩ h4 ⟨q,V,hq,N,Q,O,z,C⟩;(try simp only at hq)
 subst hq;have hz3:V.size=d.size:=by rw[z.1,J]
 have hB3:Go.Sort.Below ltInt c f V:=hB1.perm w z;refine eM (λ_ h'=>∃T,SAG s b rest h' T/\PermIn c f d1 T/\Upd (· =b) h h') (λR E=>?_) ?_
 .refine eM (λ_ h'=>h'=h4) (λR2 X=>ez (λ_=>ez (λ_=>X _ _ rfl) λ_=>X _ _ rfl) λ_=>X _ _ rfl) ?_
  rintro _ h5 rfl;refine ez (λ_=>?_) λ_=>E _ _ ⟨V,O,z,C⟩
  refine Hr O a4 a4 λh6 hs6 hu6=>?_
  obtain⟨p1,p2⟩:=partialInsertionSort_holds NL V c f a4 a4 hB3;refine ez (λhb=>?_) λ_=>E _ _ ⟨_,hs6,permIn_trans _ _ _ _ _ z p1,C.tr hu6⟩
  obtain⟨r1,r2⟩:=k _ (permIn_trans _ _ _ _ _ z p1) (p2 hb);exact hk _ _ hs6 r1 r2 (C.tr hu6)
 rintro _ h5 ⟨T,W,D,Y⟩;have hz4:T.size=d.size:=by rw[D.1,J]
 have hB4:Go.Sort.Below ltInt c f T:=hB1.perm w D;refine eM (λt h'=>h'=h5/\(t=true->0<c/\ltInt T[c-1]! T[q]! =false)) (λR E=>?_) ?_
 .refine aq (λh6=>?_) λ_=>E _ _ ⟨rfl,λe=>by cases e⟩
  refine W.less (i:=c-1) (j:=q) (by rw[dw a4];omega) rfl a4 a4 (E _ _ ⟨rfl,λe=>⟨a4,by simpa using e⟩⟩)
 rintro t h6 ⟨rfl,ht⟩;refine ez (λS=>?_) λ_=>?_
 .obtain⟨h7,h8⟩:=ht S
  refine Qq W N Q a4 λh9 v P=>?_
  cases hx:partitionEqual ltInt T c f q with
  |mk mid d5=>
   rw[hx]at v;obtain⟨m1,m2,m3,m4,m5⟩:=round_eq NL (partitionEqual_holds _) h7 N Q a4 hB4 h8 hx;refine hI (mid,f,d5) _ _ ⟨rfl,rfl,v,by(try simp only);omega,⟨by(try simp only);omega,m2,hee⟩,m4,λR r1 r2=>?_,Y.tr P⟩ (by(try simp only);omega)
   obtain⟨x1,x2⟩:=m5 R r1 r2;exact k R (permIn_trans _ _ _ _ _ D x1) x2
 .refine VG W N Q a4 λh9 v P=>?_
  cases hx:partition ltInt T c f q with
  |mk mid r=>
   obtain⟨ap,d5⟩:=r;rw[hx]at v;obtain⟨m1,m2,m3,m4,m5,m6,m7⟩:=round_part NL (partition_holds _) N Q a4 hB4 hx;(try simp only at v⊢)
   refine⟨a8,?_⟩;have w1:ac .i64 ((mid:Int)-(c:Int))=((mid-c:Nat):Int):=by rw[dw a4];omega
   have w2:ac .i64 ((f:Int)-(mid:Int))=((f-mid:Nat):Int):=by rw[dw a4];omega
   have w3:ac .i64 ((mid:Int)+1)=((mid+1:Nat):Int):=by rw[dw a4];omega
   rw[w1,w2,w3];refine aq (λ_=>?_) λ_=>?_
   .refine ih (mid-c) a4 rfl v m1 a4 m4 λh10 d6 A o G B=>?_
    obtain⟨y1,y2⟩:=m6 d6 o G;have hz6:=o.1;refine hI (mid+1,f,d6) _ _ ⟨rfl,rfl,A,by(try simp only);omega,⟨by(try simp only);omega,by(try simp only);omega,hee⟩,y1,λR r1 r2=>?_,(Y.tr P).tr B⟩ (by(try simp only);omega)
    obtain⟨x1,x2⟩:=y2 R r1 r2;exact k R (permIn_trans _ _ _ _ _ D x1) x2
   .refine ih (f-(mid+1)) a4 rfl v a4 a4 m5 λh10 d6 A o G B=>?_
    obtain⟨y1,y2⟩:=m7 d6 o G;have hz6:=o.1;refine hI (c,mid,d6) _ _ ⟨rfl,rfl,A,by(try simp only);omega,⟨haa,m1,by(try simp only);omega⟩,y1,λR r1 r2=>?_,(Y.tr P).tr B⟩ (by(try simp only);omega)
    obtain⟨x1,x2⟩:=y2 R r1 r2;exact k R (permIn_trans _ _ _ _ _ D x1) x2
theorem FV{d a:Array Int}(b:PermIn 0 d.size d a):a.toList.Perm d.toList:=by
 have:=b.2.2;have c:a.extract 0 d.size=a:=by rw[<-b.1];simp
 rw[c]at this;simpa using this
theorem XT{M:eh}{h:ad}{s:f9}{xs:List Int}(c:OwnS u32 1 33 M h s xs)(F:xs.length<=1000000000){K:Unit->eu}
  (y:∀h' ys,OwnS u32 1 33 M h' s ys->ys.Perm xs->ys.Pairwise (·<=·)->Upd M h h'->K () h'):dx 83 [.slice s.a s.len s.cap] K h:=by
 refine cZ (pu s) .nil Tryz.func83 Tryz.call83 ?_;unfold pu FO;have g:s.len=xs.length:=c.len;rw[show ac .u64 (s.len:Int)=(s.len:Int) by rw[NF];omega]
 refine SH a4 λL _ _=>?_
 rcases c.blk with Q|⟨b,rest,w,d,hb,B⟩
 .have hx:xs= []:=by
   have:=c.cap;exact List.length_eq_zero_iff.1 a4
  subst hx;obtain⟨u,G,c0⟩:=s;have k:G=0:=g;subst k;refine mw ⟨u,0,c0⟩ 0 ((0:Nat):Int) L ?_;dsimp only[iP,FO,B0,uS,wO,uK,cB,fE];refine eF (λ(_:Unit) (t:Int×Int×Int×Bool×Bool) h'=>t.1=0/\t.2.1=0/\h'=h) (λ_=>0) () ⟨rfl,rfl,rfl⟩ ?_
  rintro I _ ⟨N,J,O⟩ h' ⟨rfl,rfl,rfl⟩ _;refine aq (λ_=>?_) λq=>absurd (show ac .i64 ((0:Int)-0)<=12 by decide) q
  refine jC ⟨u,0,c0⟩ 0 0 ?_;dsimp only[fG,GE,fE,dh,uK,cB,uS,wO];refine eF (λ(_:Unit) (t:Int) v=>t=1/\v=h') (λ_=>0) () ⟨a8,rfl⟩ ?_
  rintro P _ t v ⟨rfl,rfl⟩ _;exact aq (λq=>absurd q a8) λ_=>y _ [] c (qb _) cq (eQ _ _)
 .have H:SAG s b rest h xs.toArray:=⟨w,by simp[g],by simpa using hb,by simpa using F⟩
  have C:((s.len:Nat):Int)=((xs.toArray.size:Nat):Int):=by simp[g]
  rw[C];refine X2 (a:=0) (e:=xs.toArray.size) _ rfl H (aK _) (aj _) (.inl rfl) λh' m n z D E=>?_
  have f:=FV z;refine y h' m.toList ⟨by rw[g,f.length_eq],c.ne,c.cap,.inr ⟨b,rest,w,d,n.blk,B⟩⟩ (by simpa using f) ?_ (E.mono λx hx=>.inl (hx▸d))
  rw[bQ];intro i j hi A p;have o:=z.1;have:=D i j (aK _) p (by rw[<-o];simpa using A);simp only[ltInt,decide_eq_false_iff_not]at this;rw[getElem!_pos m j (by simpa using A),getElem!_pos m i (by simpa using hi)]at this;simp only[Array.getElem_toList];omega
theorem PW{h:ad}{d:Value}{N:Nat}{S:List Int->Prop}{Q:eh}(f:Gives PG d u32 N S Q h)(e:N<=1000000000)(m:∀xs,S xs->xs.length<=1000000000){K:f9->eu}
  (g:∀s' h' xs ys,S xs->OwnS u32 1 33 (λb=>h.size<=b) h' s' ys->ys.Perm xs->ys.Pairwise (·<=·)->Upd No h h'->K s' h'):dS 38 [d] K h:=by
 refine cZ (sF d) .nil Tryz.func38 Tryz.call38 ?_;unfold sF;refine Q8 f e λo q xs hx i n=>?_
 exact XT i (m xs hx) λp ys c k j a=>g o p xs ys hx c k j (n.trans a λb hb=>.inr hb)
end
section
open Go.Lift
variable {W:eh}{h:ad}{L:de}
theorem Aw:∀{ys:List Int},ys.Pairwise (·<=·)->ys.Nodup->ys.Pairwise (· < ·)
 | [],_,_=>cq
 |y::ys,h,n=>by
  rw[aC]at h;rw[List.nodup_cons]at n;exact aC.2 ⟨λz a=>by have:=h.1 z a;have:y≠z:=λe=>n.1 (e▸a);omega,Aw h.2 n.2⟩
theorem Rep.keys{m:List (Int×f9)}(r:Rep W h m L)(id:Int):id∈m.map (·.1)↔id∈dM L:=by
 have:=r.some id;have a:id∈m.map (·.1)↔(bE m id).isSome=true:=by
  cases hl:bE m id with
  |none=>simp[dJ.1 hl]
  |some v=>
   simp only[Option.isSome_some,iff_true];by_cases hm:id∈m.map (·.1)
   .exact hm
   .rw[dJ.2 hm]at hl;cases hl
 rw[a,this,decide_eq_true_iff]
theorem SQ{gp gm:Nat}{nx:Int}(g:GraphAt W h gp gm L nx)(f:(dM L).Pairwise (· < ·))(v:L.length<=100000)
  {K:f9->eu}(n:∀s' h',OwnS u32 1 33 (λb=>h.size<=b) h' s' (dM L)->Upd No h h'->K s' h'):dS 8 [gV gp] K h:=by
 refine cZ (vQ (some ⟨gp,0,none⟩)) .nil Tryz.func8 Tryz.call8 ?_;dsimp only[vQ,cB,cL];obtain⟨m,hm,i⟩:=g.map;have j:=i.len hm.nodup g.nd;refine ez (λe=>by cases e) λ_=>⟨_,rfl,_,g.c0,?_⟩
 refine V3 hm λt u k a=>?_
 refine PW k a4 (λxs hx=>by have:=hx.length_eq;simp at this;omega) λs' s xs ys hx o q p d=>?_
 have c:=q.trans hx;have e:ys=dM L:=Hi (Aw p (c.nodup_iff.2 hm.nodup)) f λy=>by rw[c.mem_iff,i.keys]
 subst e;exact n s' s (o.more λb hb=>aQ a.size hb) (a.tr d)
end
section
open Go.Lift
def abm(W:eh)(h:ad)(m:List (Int×f9))(F:Int->Option (List Int)):Prop:=
 ∀id,(∃s ps,bE m id=some s/\F id=some ps/\Nums W h s ps)\/(bE m id=none/\F id=none)
theorem pM(p:Int->Bool):∀(L:de) (j:Int),bE (L.filter λv=>p v.1) j=if p j then bE L j else none
 | [],j=>by simp[bE]
 |v::L,j=>by
  rw[aZ];by_cases h:p v.1=true
  .rw[if_pos h]
   simp only[bE];rw[pM p L j];by_cases e:j=v.1
   .subst e;simp[h]
   .simp[e]
  .rw[if_neg h,pM p L j]
   simp only[bE];by_cases e:j=v.1
   .subst e;simp[h]
   .simp[e]
theorem Wh{W:eh}{h:ad}{gp gm:Nat}{L:de}{nx:Int}(g:GraphAt W h gp gm L nx)(gd:Good L){s:f9}{keep:List Int}(hs:Nums W h s keep)(hn:keep.length<=1000)
  {K:f9->eu}(hk:∀s' h' (st:List Int),(∀y,y∈st↔∃k∈keep,UpG L k y)->OwnS u32 1 33 (λb=>h.size<=b) h' s' ((dM L).filter λy=> !decide (y∈st))->GraphAt W h' gp gm (L.filter λv=>decide (v.1∈st)) nx->Upd (BF gp gm) h h'->K s' h'):
  dS 73 [gV gp,.slice s.a s.len s.cap] K h:=by
 refine cZ (uA (some ⟨gp,0,none⟩) s) BV Tryz.func73 Tryz.call73 ?_;dsimp only[uA,cB,yL,uK,fE,cL,rU];have hLl:=gd.len;refine ez (λe=>by cases e) λ_=>?_
 refine CD hs a4 λs1 S ho1 G _=>?_
 have a:∀b,W b->b<h.size:=g.lt;have g1':=g.more (Q:=λb=>h.size<=b/\b<S.size) G λb hb=>hb
 have z1:=G.size;refine K4 (Q:=λb=>h.size<=b/\b<S.size) g1' (λb hb=>⟨.inr hb,λe=>by have:=a _ g.wp;omega,λe=>by have:=a _ g.wm;omega⟩) gd.two gd.len (ho1.more λb hb=>a4) a4 λr V m hr hm hy hv hu2=>?_
 have p:Upd No h V:=G.trans hu2 λb hb=>.inr hb.1
 have g2:=g.upd0 p;refine SQ g2 gd.up hLl λs3 P x C=>?_
 have Z:=p.tr C;have g3:=g2.upd0 C;have hm3:=hm.upd C id;have hrW:¬W r:=λe=>by have:=a _ e;omega
 have hr2:=hm.lt;obtain⟨st,N⟩:∃st:List Int,st=m.map (·.1):=⟨_,rfl⟩
 have T:∀y,y∈st↔∃k∈keep,UpG L k y:=λy=>by rw[N];exact hy y
 have H:∀y,((bE m y).getD 0==(0:Int))= !decide (y∈st):=λy=>by
  cases hl:bE m y with
  |none=>simp[N,dJ.1 hl]
  |some v=>
   have:=hv y v hl;subst this;have:y∈st:=by rw[N];exact List.mem_map.2 ⟨_,(eJ hm.nodup).1 hl,rfl⟩
   simp[this]
 have Y:Nums (BF gp gm) P s3 (dM L):=x.sl λb hb _ hw=>by
  have:=a _ g.wp;have:=a _ g.wm;rcases hw with rfl|rfl<;>omega
 have o:(dM L).length=L.length:=a7
 have hsz2:=C.size;have hsz1:=p.size;have hp3:=a _ g.wp;have hm3':=a _ g.wm;refine eF (λ(i:Nat) (t:f9×Int) h'=>t.2=(i:Int)/\i<=L.length/\Upd (BF gp gm) P h'/\OwnS u32 1 33 (λb=>P.size<=b) h' t.1 (((dM L).take i).filter λy=> !decide (y∈st))/\
   h'[gp]? =some (.cells #[.map (some gm),.int .u32 nx] 102 (0,0))/\∃A,MapAt KE sv h' gm A/\abm (λb=>W b\/P.size<=b) h' A (λj=>if j∈(dM L).take i/\j∉st then none else bE L j)) (λi=>L.length-i) 0
  ⟨rfl,aK _,eQ _ _,OwnS.nil j7,g3.blk,by
   obtain⟨A,h4,h5⟩:=g3.map
   exact⟨A,h4,λj=>by
    rcases h5 j with⟨E,ps,w,f,D⟩|q
    .exact .inl ⟨E,ps,w,by simpa using f,D.less λb hb=>hb⟩
    .exact .inr (by simpa using q)⟩⟩ ?_
 rintro I i ⟨out,t⟩ h' ⟨ht,hi,R,U,hb,A,B,O⟩ hI;(try simp only at ht U)
 subst ht;have hz':=R.size;refine aq (λc=>?_) λJ=>?_
 .have c:(i:Int)<(s3.len:Int):=c
  rw[x.len,o]at c;have c:i<L.length:=a4
  have F:i<(dM L).length:=a4
  obtain⟨a1,ha1,_,hx⟩:=Nums.at (Y.upd R λb hb=>.inl hb) F
  have hmr:=(hm3.upd R (λe=>by rcases e with e|e<;>omega)).get (dM L)[i] 0
  refine fo ⟨by show(0:Int)<=(i:Int)/\(i:Int)<(s3.len:Int);rw[x.len,o];omega,a1,ha1,_,hx,_,_,hmr,?_⟩;rw[H];have u:(dM L).take (i+1)=(dM L).take i++ [(dM L)[i]]:=List.take_succ_eq_append_getElem F;refine ez (λhc=>?_) λhc=>?_
  .have n:(dM L)[i]∉st:=by simpa using hc
   refine fo ⟨_,rfl,_,by rw[show adr ⟨gp,0,none⟩ 0=⟨gp,0,none⟩from rfl,ba hb];rfl,.inr ⟨gm,rfl,B.isMap,?_⟩⟩
   have hmd:MapAt KE sv (rk h' gm (.int .u32 (dM L)[i])) gm (kZ A (dM L)[i]):=B.del (dM L)[i];have d:Upd (· =gm) h' (rk h' gm (.int .u32 (dM L)[i])):=wQ _ _ rfl
   have hod:=U.upd d λb hb e=>a4
   have X:(rk h' gm (.int .u32 (dM L)[i]))[gp]? =some (.cells #[.map (some gm),.int .u32 nx] 102 (0,0)):=d.get hb (λe=>g.ne e.symm)
   have hrd:abm (λb=>W b\/P.size<=b) (rk h' gm (.int .u32 (dM L)[i])) (kZ A (dM L)[i]) (λj=>if j∈(dM L).take (i+1)/\j∉st then none else bE L j):=λj=>by
    rw[pq];by_cases e:j=(dM L)[i]
    .right
     rw[if_pos e];refine⟨rfl,?_⟩;(try simp only)
     rw[if_pos ⟨by rw[u,e];exact List.mem_append_right _ (av.2 rfl),by rw[e];exact n⟩]
    .rw[if_neg e]
     have:(j∈(dM L).take (i+1)/\j∉st)↔(j∈(dM L).take i/\j∉st):=by
      rw[u,aL,av];exact⟨λh=>⟨h.1.resolve_right e,h.2⟩,λh=>⟨.inl h.1,h.2⟩⟩
     simp only[this];rcases O j with⟨E,ps,w,f,D⟩|q
     .exact .inl ⟨E,ps,w,f,D.upd d λb hb=>.inl (.inl (hb▸g.wm))⟩
     .exact .inr q
   have hzd:=d.size;generalize rk h' gm (.int .u32 (dM L)[i])=h4 at hmd d hod X hrd hzd;refine Aa (M:=λb=>P.size<=b) hod (λb hb=>a4) ?_ λs' h5 ho5 z=>?_
   .have:=List.length_filter_le (λy=> !decide (y∈st)) ((dM L).take i);simp at this;omega
   ·(try simp only)
    rw[cf c a4];refine hI (i+1) _ _ ⟨rfl,c,(R.tr (d.mono λb hb=>.inl (.inr hb))).trans z λb hb=>.inr hb,?_,z.get X (Nat.not_le.2 a4),_,hmd.upd z (Nat.not_le.2 a4),?_⟩ a4
    .rw[u,ct,aZ,if_pos (by simpa using n)]
     exact ho5
    .intro j
     rcases hrd j with⟨E,ps,w,f,D⟩|q
     .exact .inl ⟨E,ps,w,f,D.upd z λb hb=>.inl (.inr hb)⟩
     .exact .inr q
  .have n:(dM L)[i]∈st:=by simpa using hc
   (try simp only)
   rw[cf c a4];refine hI (i+1) _ _ ⟨rfl,c,R,?_,hb,A,B,λj=>?_⟩ a4
   .rw[u,ct,aZ,if_neg (by simpa using n)]
    simpa using U
   .have:(j∈(dM L).take (i+1)/\j∉st)↔(j∈(dM L).take i/\j∉st):=by
     rw[u];simp only[aL,av];constructor
     .rintro⟨S|S,V⟩
      .exact⟨S,V⟩
      .rw[S]at V;exact absurd n V
     .exact λh=>⟨.inl h.1,h.2⟩
    simp only[this];exact O j
 .have J:¬(i:Int)<(s3.len:Int):=J
  rw[x.len,o]at J;have:i=L.length:=a4
  rw[aS a4]at U;refine hk out h' st T (U.more λb hb=>a4) ⟨hb,⟨A,B,λj=>?_⟩,g.wp,g.wm,λb hb=>Nat.lt_of_lt_of_le (a b hb) a4,?_⟩ ((Z.wide).tr R)
  .rw[pM (λy=>decide (y∈st))]
   have hj:=O j;rw[aS a4]at hj;by_cases e:j∈st
   .simp only[e,not_true_eq_false,and_false,if_false]at hj
    simp only[e,decide_true,if_true];rcases hj with⟨E,ps,w,f,D⟩|q
    .exact .inl ⟨E,ps,w,f,D.less λb hb=>.inl (.inl hb)⟩
    .exact .inr q
   .right
    rcases hj with⟨E,ps,w,f,D⟩|⟨w,f⟩
    .by_cases e2:j∈dM L
     .simp[e,e2]at f
     .simp only[e2,false_and,if_false]at f
      rw[dJ.2 e2]at f;cases f
    .exact⟨w,by simp[e]⟩
  .exact g.nd.sublist ((List.filter_sublist).map _)
def byN(s:dO)(i:Nat):Nat:=if h:i<s.size then(s[i]'h).toNat else 0
def hv(s:dO):Nat->Nat->Nat
 |_,0=>0
 |p,c+1=>hv s (p+1) c*256+byN s p
end
section
variable {c x:Nat}
theorem VV:∀{n x:Nat},x<2^n->0<x->∃c,c<n/\x.testBit c=true/\∀j,j<c->x.testBit j=false
 |0,x,h,h'=>by simp at h;omega
 |n+1,x,h,h'=>by
  by_cases e:x%2=1
  .exact⟨0,a4,by rw[kJ];simpa using e,λj a=>absurd a (Nat.not_lt_zero _)⟩
  .obtain⟨c,f,b,d⟩:=VV (n:=n) (x:=x/2) (by rw[Nat.pow_succ]at h;omega) a4
   refine⟨c+1,a4,by rw[gQ];exact b,λj a=>?_⟩
   cases j with
   |zero=>rw[kJ];simpa using e
   |succ j=>rw[gQ];exact d j a4
theorem Ho:∀{c x:Nat},x.testBit c=true->(∀j,j<c->x.testBit j=false)->∀i,(x-1).testBit i=if i<c then true else if i=c then false else x.testBit i
 |0,x,h,_,i=>by
  have h:x%2=1:=by rw[kJ]at h;simpa using h
  cases i with
  |zero=>rw[kJ,if_neg a4,if_pos rfl];simp;omega
  |succ i=>rw[gQ,gQ,if_neg a4,if_neg a4];congr 1;omega
 |c+1,x,h,hl,i=>by
  have a:=hl 0 a4;rw[kJ]at a;have d:¬x%2=1:=by simpa using a
  have a:x%2=0:=a4
  rw[gQ]at h;have b:0<x/2:=by
   rcases dQ (x/2)with e|e
   .rw[e,fy]at h;cases h
   .exact e
  cases i with
  |zero=>rw[kJ,if_pos a4];simp;omega
  |succ i=>
   have:=Ho (x:=x/2) h (λj f=>by have:=hl (j+1) a4;rwa [gQ]at this) i
   rw[gQ,gQ,show(x-1)/2=x/2-1 by omega,this]
   simp only[Nat.add_lt_add_iff_right,Nat.add_right_cancel_iff]
theorem Ye(h:x.testBit c=true)(b:∀j,j<c->x.testBit j=false)(hc:c<32)(hx:x<4294967296):x&&&(4294967296-x)=2^c:=by
 have f:0<x:=by
  rcases dQ x with e|e
  .rw[e,fy]at h;cases h
  .exact e
 refine hE λi=>?_
 have e:4294967296-x=2^32-((x-1)+1):=a4
 rw[iz,e,Nat.testBit_two_pow_sub_succ a4,Ho h b,Nat.testBit_two_pow];by_cases a:i<c
 .rw[if_pos a,b i a];simp;omega
 .rw[if_neg a]
  by_cases d:i=c
  .subst d;simp[h,hc]
  .rw[if_neg d]
   cases x.testBit i<;>simp<;>omega
theorem Uo(h:x.testBit c=true)(b:∀j,j<c->x.testBit j=false)(i:Nat):(x&&&(x-1)).testBit i=(x.testBit i&&decide (c<i)):=by
 rw[iz,Ho h b];by_cases a:i<c
 .rw[if_pos a,b i a];rfl
 .rw[if_neg a]
  by_cases d:i=c
  .subst d;simp
  .rw[if_neg d]
   have:c<i:=a4
   simp[this]
end
section
open Go.Lift
variable {h:ad}{b:Nat}{c:Array Value}{t:TypeId}{W:eh}{K:Bool->eu}
abbrev tzL:List Nat:= [0,1,28,2,29,14,24,3,30,22,20,15,25,17,4,8,31,27,13,23,21,19,16,7,26,12,18,6,11,5,10,9]
def Tab(h:ad):Prop:=∀i,i<32->aI h ⟨0,i,none⟩=some (.int .u8 ((tzL.getD i 0:Nat):Int))
theorem Tab.upd{M:eh}{h':ad}(t:Tab h)(k:Upd M h h')(hm:¬M 0):Tab h':=λi hi=>k.cell (t i hi) hm
theorem Zq:∀c:Fin 32,dX (ac .u32 (ac .u32 ((2^c.val:Nat):Int)*125613361)) (2^(min (27:Int).toNat (ak .u32)))=((2^c.val*125613361%4294967296/134217728:Nat):Int)/\2^c.val*125613361%4294967296/134217728<32/\tzL.getD (2^c.val*125613361%4294967296/134217728) 0=c.val:=by decide+kernel
theorem W8{a:Nat}(c:a<4294967296)(hb:b<4294967296):(aB (ak .u32) (a:Int)&&&aB (ak .u32) (b:Int)).toNat=a&&&b:=by
 rw[show ak .u32=32 from rfl,ij,ij,nV,BitVec.toNat_ofNat,BitVec.toNat_ofNat,eN (show a<2^32 from c),eN (show b<2^32 from hb)]
theorem aav(tb:Tab h){x c:Nat}(hx:x<4294967296)(hc:c<32)(hb:x.testBit c=true)(f:∀j,j<c->x.testBit j=false){K:Int->eu}(g:K (c:Int) h):fK 200 [.int .u32 (x:Int)] K h:=by
 refine cZ (my x) .nil Tryz.func200 Tryz.call200 ?_;unfold my cB fE;have k:0<x:=by
  rcases dQ x with e|e
  .rw[e,fy]at hb;cases hb
  .exact e
 refine ez (λe=>?_) λ_=>?_
 .have e:(x:Int)=0:=by simpa using e
  omega
 have i:ac .u32 (0-(x:Int))=((4294967296-x:Nat):Int):=by rw[IntKind.wrap_u32];omega
 rw[i,W8 hx a4,Ye hb f hc hx];obtain⟨d,b,a⟩:=Zq ⟨c,hc⟩;simp only at d b a;simp only[Bd];rw[d];refine⟨a8,⟨a4,a4⟩,((tzL.getD (2^c*125613361%4294967296/134217728) 0:Nat):Int),?_,?_⟩
 .rw[Nat.mul_one,co,aU,Int.toNat_natCast];exact tb _ b
 .rw[a,dw a4];exact g
def dk(d k:Nat):Nat:=(d>>>k)<<<k
theorem Ed(d k i:Nat):(dk d k).testBit i=(decide (k<=i)&&d.testBit i):=by
 unfold dk;rw[Nat.testBit_shiftLeft];by_cases h:k<=i
 .rw[decide_eq_true (show i>=k from h),Nat.testBit_shiftRight];congr 2;omega
 .rw[decide_eq_false (show ¬i>=k from h)];rfl
theorem Zf(d k:Nat):dk d k<=d:=by
 unfold dk;rw[Nat.shiftLeft_eq,Nat.shiftRight_eq_div_pow];exact Nat.div_mul_le_self ..
theorem Yx(d:Nat):dk d 0=d:=hE λi=>by rw[Ed];simp
theorem Kt{d:Nat}(hd:d<4294967296){s:Nat}(hb:h[s]? =some (.cells #[.int .u32 (d:Int)] 237 (0,0)))
  {BODY:Int->(Option Ex->eu)->eu} {N:eu} {X:Nat->eu} {R:eu} (Inv:Nat->eu) (M:eh)
  (V:∀k a,Inv k a->Tab a) (h0:Inv 0 h) (f:∀k a p,Inv k a->h.size<=a.size->Upd (λb=>b=s\/h.size<=b) a p->Inv k p)
  (hM:∀b,M b->b≠s/\b<h.size)
  (step:∀k c a (KK:Option Ex->eu),Inv k a->k<=c->c<32->d.testBit c=true->(∀j,k<=j->j<c->d.testBit j=false)->(∀p,Inv (c+1) p->Upd M a p->KK none p)->BODY (c:Int) KK a)
  (fin:∀k a,Inv k a->(∀j,k<=j->j<32->d.testBit j=false)->a[h.size]? =some (.deferred (some []))->N a):
  RangeP PG (.func (.func 199) #[] #[.pointer (some ⟨s,0,none⟩)]) [.c (.int .i64)] h
   (λKs bz (x:Int) k F=>(F[(az h+1)]? =some Ks/\At (Array.setIfInBounds F (az h+1) bz) (λL=>BODY x k L))) N X R:=by
 refine⟨λlo hlo q=>?_⟩
 refine⟨199,#[],#[.pointer (some ⟨s,0,none⟩)],rfl,?_⟩;have zb:=bw hb;have k1:Upd No h ((h.push (.deferred (some []))).push (lo .ready none)):=(Upd.push No _ _).tr (Upd.push No _ _);have P:((h.push (.deferred (some []))).push (lo .ready none))[h.size+1]? =some (lo .ready none):=by
  have:=mO (h.push (.deferred (some []))) (lo .ready none);rwa [Array.size_push]at this
 have l1:((h.push (.deferred (some []))).push (lo .ready none))[h.size]? =some (.deferred (some [])):=(Upd.push No _ _).get0 (mO h _);have b1:=k1.get0 hb;have Y:=f 0 _ _ h0 (aj _) k1.wide;have z1:=bw P;generalize (h.push (.deferred (some []))).push (lo .ready none)=a at k1 P l1 b1 Y z1;refine Ak (.func (.yield (h.size+1)) #[] #[]) ⟨s,0,none⟩ ?_;unfold oZ
 refine eF (λ(k:Nat) (_:Unit) h'=>Inv k h'/\h'[s]? =some (.cells #[.int .u32 ((dk d k:Nat):Int)] 237 (0,0))/\h'[h.size]? =some (.deferred (some []))/\h'[h.size+1]? =some (lo .ready none)/\k<=32) (λk=>33-k) 0 ⟨Y,by rw[Yx];exact b1,l1,P,aK _⟩ ?_
 rintro I k ⟨⟩ h' ⟨hi,z,E,g,hk32⟩ hI;have zz:=bw g;have w:=Nat.lt_of_le_of_lt (Zf d k) hd;refine⟨_,ba z,ez (λe=>?_) λe=>?_⟩
 .have J:0<dk d k:=by
   have:((dk d k:Nat):Int)≠0:=by simpa using e
   omega
  obtain⟨c,hc,B,A⟩:=VV (n:=32) w J;have v:=B;rw[Ed,Bool.and_eq_true,decide_eq_true_iff]at v;refine⟨_,ba z,aav (V k _ hi) w hc B A ?_⟩;refine q (c:Int) h' _ g ⟨g,?_⟩;have H:Upd (· =h.size+1) h' (h'.setIfInBounds (h.size+1) (lo .busy none)):=Upd.set _ _ rfl
  have lb:=dE (o:=lo .busy none) g;have sb:=H.size;refine bF ?_;generalize h'.setIfInBounds (h.size+1) (lo .busy none)=p at H lb sb;refine step k c p _ (f k _ _ hi a4 (H.mono λb hb=>.inl (.inr a4))) v.1 hc v.2 (λj a p=>?_) λS U t=>?_
  .have:=A j p
   rw[Ed,decide_eq_true a]at this;simpa using this
  have G:=t.get lb λe=>by have:=(hM _ e).2;omega
  have K:=t.get (H.get z (show ¬s=h.size+1 by omega)) λe=>(hM _ e).1 rfl
  have T:=t.get (H.get E (show ¬h.size=h.size+1 by omega)) λe=>by have:=(hM _ e).2;omega
  refine⟨G,?_⟩;have u:Upd (· =h.size+1) S (S.setIfInBounds (h.size+1) (lo .ready none)):=Upd.set _ _ rfl
  have W:=dE (o:=lo .ready none) G;have m:=u.get K (show ¬s=h.size+1 by omega)
  have D:=u.get T (show ¬h.size=h.size+1 by omega)
  have s3:=t.size;have Z:=f (c+1) _ _ U a4 (u.mono λb hb=>.inl (.inr a4))
  simp only[Option.isNone_none,if_true];refine ag.2 ?_;generalize S.setIfInBounds (h.size+1) (lo .ready none)=h5 at u W m D Z;refine⟨_,ba m,_,ba m,?_⟩;have ew:ac .u32 (((dk d k:Nat):Int)-1)=((dk d k-1:Nat):Int):=by rw[IntKind.wrap_u32];omega
  have ea:dk d k&&&(dk d k-1)=dk d (c+1):=by
   refine hE λi=>?_
   rw[Uo B A,Ed,Ed];by_cases C:c<i
   .rw[decide_eq_true C,decide_eq_true (show k<=i by omega),decide_eq_true (show c+1<=i by omega)];simp
   .rw[decide_eq_false C,decide_eq_false (show ¬c+1<=i by omega)];simp
  simp only[Bd];rw[ew,W8 w a4,ea];have O:ac .u32 ((dk d (c+1):Nat):Int)=((dk d (c+1):Nat):Int):=by have:=Zf d (c+1);rw[IntKind.wrap_u32];omega
  rw[O];refine⟨eH m a7,xS m λh6 Q y=>?_⟩
  have s5:=u.size;refine hI (c+1) () h6 ⟨f _ _ _ Z a4 (y.mono λb hb=>.inl (.inl hb)),Q,y.oth D a4,y.oth W a4,hc⟩ a4
 .have hz:dk d k=0:=by
   have:((dk d k:Nat):Int)=0:=by simpa using e
   omega
  have u:Upd (· =h.size+1) h' (h'.setIfInBounds (h.size+1) (lo .exhausted none)):=Upd.set _ _ rfl
  refine⟨.ready,none,a8,g,?_⟩
  refine fin k _ (f k _ _ hi a4 (u.mono λb hb=>.inl (.inr a4))) (λj a _=>?_) (u.get E (show ¬h.size=h.size+1 by omega))
  have:=Ed d k j;rw[hz,fy,decide_eq_true a]at this;simpa using this.symm
abbrev Y8(n:Nat):c5:= [.int .i64 (n:Int)]
theorem ZH(n:Nat):(Y8 n).length=1/\0<1:=⟨rfl,a4⟩
theorem Dy(hb:h[b]? =some (.cells c t (0,0))):aI h ⟨b,0,none⟩=c[0]?:=ba hb
theorem GS{c':Array Value}{v:Value}{k:eu}(hb:h[b]? =some (.cells c t (0,0))) (hi:0<c.size) (e:c.setIfInBounds 0 v=c') (f:∀h',h'[b]? =some (.cells c' t (0,0))->Upd (· =b) h h'->k h'):Wr h ⟨b,0,none⟩/\At (hset h ⟨b,0,none⟩ v) k:=
 ⟨eH hb hi,xS hb λh' a d=>f h' (e▸a) d⟩
theorem Me{cs:c5}(hb:h[b]? =some (.cells cs.toArray t (0,0))):SRow h (some ⟨b,0,none⟩) cs.length cs:=
 ⟨rfl,.inr ⟨_,rfl,qN hb λi v hv=>by rw[aU,List.getElem?_toArray];exact hv⟩⟩
theorem HJ{x:Hs}{k:dO}{s:f9}{way:List Nat}(d:Sl Y8 1 W h s way)(n:way.length<=13)(j:∀i c,way[i]? =some c->ck x i k=c)  (g:K true h):eI 146 [.int .u64 (jj x k),.slice s.a s.len s.cap] K h:=by
 refine cZ (AI (jj x k) s) JY Tryz.func146 Tryz.call146 ?_;dsimp only[AI,cB,vZ,jz,fE];have e:=d.len;refine eF (λ(i:Nat) (t:Int) h'=>t=(i:Int)/\i<=way.length/\h'=h) (λi=>way.length-i) 0 ⟨rfl,aK _,rfl⟩ ?_
 rintro I i t h' ⟨rfl,hi,rfl⟩ m;refine aq (λb=>?_) λ_=>g
 have b:i<way.length:=a4
 obtain⟨a,f,_,hv⟩:=d.at0 (af b);refine⟨⟨a4,a4⟩,a,f,_,hv,Uq (x:=x) (k:=k) (lev:=i) a4 ?_⟩
 rw[j i _ (af b),bne_self_eq_false];refine ag.2 ?_;rw[cf b a4];exact m (i+1) _ _ ⟨rfl,b,rfl⟩ a4
theorem TR{s:f9}{l:bY}(e:Sl dZ 2 W h s l)(k:bO l)(o:l.length<=1000000)(j:K true h):eI 145 [.slice s.a s.len s.cap] K h:=by
 refine cZ (Dh s) Nj Tryz.func145 Tryz.call145 ?_;dsimp only[Dh,cB,jz,fE,En,cP];have f:=e.len;refine eF (λ(i:Nat) (t:Int) h'=>t=((i+1:Nat):Int)/\h'=h) (λi=>l.length-i) 0 ⟨rfl,rfl⟩ ?_
 rintro I i t h' ⟨rfl,rfl⟩ n;refine aq (λb=>?_) λ_=>j
 have b:i+1<l.length:=a4
 have m:ac .i64 (((i+1:Nat):Int)-1)=(i:Int):=by rw[dw a4];omega
 rw[m];obtain⟨a,g,_,hv⟩:=e.at (af (show i<l.length by omega))
 obtain⟨a',c,_,d⟩:=e.at (af b);refine⟨⟨a4,a4⟩,a,g,_,hv 0 _ rfl,⟨a4,a4⟩,a',c,_,d 0 _ rfl,?_⟩
 have:=bQ.1 k i (i+1) a4 b a4;have hb:Op.bytesLess l[i].1.toList l[i+1].1.toList=true:=this;rw[hb];refine ag.2 ?_;rw[cf b a4];exact n (i+1) _ _ ⟨rfl,rfl⟩ a4
theorem Ts(x:Hs)(lev:Nat)(l:bY):(gF x lev l).length+(mr x lev l).flatten.length=l.length:=by
 have h:=wT x lev l 32;have d:(l.filter λp=>decide (ck x lev p.1<32))=l:=List.filter_eq_self.2 λp _=>decide_eq_true (zk ..)
 rw[d]at h;have:∀n,(fm (λc=>tF (part x lev c l)) n).length+(fm (λc=>iZ (part x lev c l)) n).flatten.length=((List.range n).map λc=>(part x lev c l).length).sum:=by
  intro n;induction n with
  |zero=>simp[fm]
  |succ n ih=>
   rw[mu,mu,List.range_succ,List.map_append,List.sum_append];simp only[ae,gg,List.map_cons,List.map_nil,List.sum_cons,List.sum_nil,Nat.add_zero];generalize part x lev n l=q;have:(tF q).toList.length+(iZ q).toList.flatten.length=q.length:=by
    match q with
    | []=>simp[tF,iZ]
    | [a]=>simp[tF,iZ]
    |a::b::q=>simp[tF,iZ]
   omega
 have:=this 32;unfold gF mr;omega
theorem MI{β:Type}{g:Nat->Option β}{k:Nat}:∀{c:Nat},k<=c->(∀j,k<=j->j<c->g j=none)->fm g c=fm g k
 |0,h,_=>by rw[show k=0 by omega]
 |c+1,h,hn=>by
  rcases cp k (c+1)with b|b
  .rw[mu,hn c a4 a4,MI a4 λj a d=>hn j a a4];simp
  .rw[show k=c+1 by omega]
section
variable {bu:Bool} {s:f9} {q q':Nat->bY} {kk kk':Nat->aT} {i:Nat}
end
end
section
open Go.Lift
variable {W':eh}{K:Bool->eu}{x:Hs}{m:dO}{c b r:Nat}{ks:List aT}{F:Fo}{kind p a:Int}{t u:Tr}{B:BG}
theorem TH{W:eh}{h:ad}{s s':f9}{l:c6}(f:Sl vo 1 W h s l)(c:Sl vo 1 W' h s' l)(o:l.length<=1000000000000)(k:K true h):eI 12 [.slice s.a s.len s.cap,.slice s'.a s'.len s'.cap] K h:=by
 refine cZ (IV s s') RA Tryz.func12 Tryz.call12 ?_;dsimp only[IV,cB,jz,fE];have m:=f.len;have n:=c.len;rw[m,n,bne_self_eq_false];refine ag.2 ?_;refine eF (λ(i:Nat) (t:Int) h'=>t=(i:Int)/\i<=l.length/\h'=h) (λi=>l.length-i) 0 ⟨rfl,aK _,rfl⟩ ?_
 rintro I i t h' ⟨rfl,hi,rfl⟩ g;refine aq (λb=>?_) λ_=>k
 have b:i<l.length:=a4
 obtain⟨a,j,_,hv⟩:=f.at0 (af b);obtain⟨a',d,_,e⟩:=c.at0 (af b);refine⟨⟨a4,a4⟩,a,j,_,hv,⟨a4,a4⟩,a',d,_,e,?_⟩
 rw[bne_self_eq_false];refine ag.2 ?_;rw[cf b a4];exact g (i+1) _ _ ⟨rfl,b,rfl⟩ a4
theorem Tu{W:eh}{h:ad}{m:Nat}{s:Slots}{l:bY}(t:SlotIs W x h m s c l)(b:(s.p c).isSome):∃p,l= [p]/\s.p c=some p:=by
 rcases t with⟨_,a,_⟩|⟨p,d,a,_⟩|⟨_,a,_⟩
 .rw[a]at b;cases b
 .exact⟨p,d,a⟩
 .rw[a]at b;cases b
theorem Tv{W:eh}{h:ad}{m:Nat}{s:Slots}{l:bY}(t:SlotIs W x h m s c l)(b:(s.k c).isSome):2<=l.length/\∃d,s.k c=some (some ⟨d,0,none⟩)/\TrieAt W x h m d l:=by
 rcases t with⟨_,_,a⟩|⟨p,_,_,a⟩|⟨f,_,d,a,e⟩
 .rw[a]at b;cases b
 .rw[a]at b;cases b
 .exact⟨f,d,a,e⟩
theorem LQ{W:eh}{h:ad}{s:f9}{way:List Nat}{xs:c5}(d:Sl Y8 1 W h s way)(hc:s.cap=s.len)(f:way.length<=13)(hx:xs= [.int .i64 (c:Int)]){K:f9->eu}
  (b:∀s' h',Sl Y8 1 No h' s' (way++ [c])->s'.len<=s'.cap->Upd No h h'->K s' h'):AppP (some [.int .i64 0]) 1 8 3 s.a s.len s.cap 1 xs h K:=by
 subst hx;refine O7 (ys:= [c]) d rfl rfl rfl a4 a4 a9 λs' h' a e=>b s' h' (a.sl λ_ _ _ h=>h) a.cap e
def OnWay(x:Hs)(way:List Nat)(l:bY):Prop:=∀p∈l,∀i c,way[i]? =some c->ck x i p.1=c
theorem OnWay.part{x:Hs}{way:List Nat}{l:bY}{c:Nat}(o:OnWay x way l):OnWay x (way++ [c]) (part x way.length c l):=λp a i d hd=>by
 have a:=lL.1 a;rcases cp i way.length with h|h
 .rw[List.getElem?_append_left h]at hd;exact o p a.1 i d hd
 .rw[List.getElem?_append_right h]at hd
  have:i-way.length=0:=by have:=(List.getElem?_eq_some_iff.1 hd).1;simp at this;omega
  rw[this]at hd;simp only[List.getElem?_cons_zero,Option.some.injEq]at hd;subst hd;rw[show i=way.length by omega];exact a.2
theorem WR{W:eh}:∀(m:Nat),m<=13->∀{h:ad} {b:Nat} {l:bY} {sw:f9} {way:List Nat},TrieAt W x h m b l->Tab h->Sl Y8 1 No h sw way->sw.len<=sw.cap->way.length=13-m->OnWay x way l->bO l->l.length<=60000->∀{K:Int×Bool->eu},(∀h',Upd No h h'->K ((l.length:Int),true) h')->
  uP 92 [.agg #[.int .u64 x.k0,.int .u64 x.k1,.int .u64 x.mask],gV b,.slice sw.a sw.len sw.cap] K h:=by
 intro m;induction m with
 |zero=>
  intro _ h b l sw way t tb hs hcp hw V hr hn K hk;refine AA (x.k0,x.k1,x.mask) (some ⟨b,0,none⟩) sw ?_;dsimp only[wA,ai,bq,nv,Cj,yi,tQ,yI,lG,nC,U8,jM,DE,cP,jz,fE,li,Xh,Pa,gj];refine aV λh1 b1 k1=>aV λh2 b2 k2=>aV λh3 b3 U=>aV λh4 b4 L=>aV λh5 b5 P=>?_
  have F:Upd No h h5:=(((k1.tr k2).tr U).tr L).tr P;have c1:=P.get0 (L.get0 (U.get0 (k2.get0 b1)));have c2:=P.get0 (L.get0 (U.get0 b2));have c3:=P.get0 (L.get0 b3);have c4:=P.get0 b4;have s1:=k1.size;have s2:=k2.size;have s3:=U.size;have s4:=L.size;have z3:=bw b3;have z4:=bw b4;have z5:=bw b5;obtain⟨sp,sk,ow,hb,hsp,_⟩:=(BuckAt.upd t F λ_ h=>h.elim:BuckAt W h5 b l).ex
  refine⟨_,Dy c2,pI hb hsp a4 λs8 B ho8 w=>?_⟩
  refine⟨_,Dy (w.get0 c2),eT (w.get0 hb) (aw.2 ?_)⟩;have d1:=w.get0 c1;have X:=w.get0 c3;have d4:=w.get0 c4;have d5:=w.get0 b5;have s8':=w.size;have hs8:Sl dZ 2 No B s8 l:=ho8.sl λ_ _ _ h=>h
  have hlen:=hs8.len;have hwl:=hs.len;have hs':Sl Y8 1 No B sw way:=(hs.upd F λ_ h=>h.elim).upd w λ_ h=>h.elim
  refine fo ⟨sw,Dy X,?_⟩;rw[show((sw.len:Int) !=(13:Int))=false by rw[bne_eq_false_iff_eq];omega]
  refine ag.2 (TR hs8 hr a4 (ag.2 ?_));refine eF (λ(i:Nat) (t:Int) h'=>t=(i:Int)/\i<=l.length/\Upd No B h') (λi=>l.length-i) 0 ⟨rfl,aK _,eQ _ _⟩ ?_
  rintro I i t h' ⟨rfl,hi,S⟩ hI;refine aq (λN=>?_) λhge=>?_
  .have N:i<l.length:=by omega
   obtain⟨a,ha,_,hv⟩:=(hs8.upd S λ_ h=>h.elim).at (af N)
   refine⟨⟨a4,a4⟩,a,ha,_,hv 0 _ rfl,_,hv 1 _ rfl,yk (p:=l[i]) λh9 b9 k9=>?_⟩
   have z:=S.tr k9;refine⟨_,vc (z.get0 d1) 0,_,vc (z.get0 d1) 1,_,vc (z.get0 d1) 2,_,vc b9 0,sw,Dy (z.get0 X),vg λh10 k10=>⟨Dy (k10.get0 (z.get0 X)),?_⟩⟩
   refine HJ ((hs'.upd z λ_ h=>h.elim).upd k10 λ_ h=>h.elim) a4 (λj c hj=>V _ (aG N) j c hj) (ag.2 ?_)
   rw[cf N a4];exact hI (i+1) _ _ ⟨rfl,N,z.tr k10⟩ a4
  .have hil:i=l.length:=by omega
   subst hil;refine GS (S.get0 d4) a7 rfl λh9 b9 z=>GS (z.oth (S.get0 d5) a4) a7 rfl λh10 b10 u=>?_
   refine⟨_,Dy (u.oth b9 a4),_,Dy b10,?_⟩;have e:((s8.len:Nat):Int)=(l.length:Int):=a4
   rw[e];exact hk _ ((((F.tr w).tr S).own z a4).own u a4)
 |succ m ih=>
  intro hm h b l sw way t tb hs hcp hw V hr hn K hk;refine AA (x.k0,x.k1,x.mask) (some ⟨b,0,none⟩) sw ?_;dsimp only[wA,ai,bq,nv,Cj,yi,tQ,yI,lG,nC,U8,jM,DE,cP,jz,fE,li,Xh,Pa,gj];obtain⟨sl,nd,hs0⟩:=t;have H:∀c,c<32->SlotIs W x h m sl c (part x (12-m) c l):=hs0;refine aV λh1 b1 k1=>aV λh2 b2 k2=>aV λh3 b3 U=>aV λh4 b4 L=>aV λh5 b5 P=>?_
  have F:Upd No h h5:=(((k1.tr k2).tr U).tr L).tr P;have c1:=P.get0 (L.get0 (U.get0 (k2.get0 b1)));have c2:=P.get0 (L.get0 (U.get0 b2));have c3:=P.get0 (L.get0 b3);have c4:=P.get0 b4;have s1:=k1.size;have s2:=k2.size;have s3:=U.size;have s4:=L.size;have z1:=bw b1;have z2:=bw b2;have z3:=bw b3;have z4:=bw b4;have z5:=bw b5;obtain⟨d,n,sp,sk,ow,hb,bits,hsp,hsk,_⟩:=(nd.upd F λ_ h=>h.elim).ex
  have hfp:(fm sl.p 32).length<=32:=y9;refine⟨_,Dy c2,pI hb hsp a4 λs8 B ho8 w=>?_⟩
  refine⟨_,Dy (w.get0 c2),eT (w.get0 hb) (ag.2 ⟨sw,Dy (w.get0 c3),?_⟩)⟩;have k08:=F.tr w;have hl8:=ho8.len;rw[Gl H]at hl8;have hwl:=hs.len;rw[decide_eq_false a4];refine ag.2 (aV λh9 b9 k9=>?_)
  have z:=w.tr k9;have s8':=w.size;have z9:=bw b9;refine GS b9 a7 rfl λh10 b10 u=>?_
  have d1:=u.oth (z.get0 c1) a4;have d2:=u.oth (z.get0 c2) a4;have X:=u.oth (z.get0 c3) a4;have d4:=u.oth (z.get0 c4) a4;have d5:=u.oth (z.get0 b5) a4;refine⟨sw,Dy X,sw,Dy X,sw,Dy X,⟨a4,a4⟩,⟨a4,a4⟩,?_⟩
  refine GS X a7 rfl λG b11 A=>?_
  have q:Upd No h G:=((k08.tr k9).own u a4).own A a4;have C:=A.oth d1 a4;have e2:=A.oth d2 a4;have e4:=A.oth d4 a4;have e5:=A.oth d5 a4;have e9:=A.oth b10 a4;have s11:=q.size;have s10a:=u.size;have s11a:=A.size;have D:Sl Y8 1 (λy=>h.size<=y) G ⟨aW sw.a 0 ((sw.len:Int).toNat) 1,((sw.len:Int).toNat)-0,((sw.len:Int).toNat)-0⟩ way:=by
   have:=Sl.sub ((hs.less (W':=λy=>h.size<=y) λ_ h=>.inr h).upd q λ_ h=>h.elim) (l:=0) (hi:=sw.len) (m:=sw.len) (c:=sw.len-0) (aK _) a4 (aj _)
   rw[List.drop_zero,aS a4]at this;exact this
  have T:(⟨aW sw.a 0 ((sw.len:Int).toNat) 1,((sw.len:Int).toNat)-0,((sw.len:Int).toNat)-0⟩:f9).cap=(⟨aW sw.a 0 ((sw.len:Int).toNat) 1,((sw.len:Int).toNat)-0,((sw.len:Int).toNat)-0⟩:f9).len:=rfl;have g:G[h2.size]? =some (.cells #[sv ⟨aW sw.a 0 ((sw.len:Int).toNat) 1,((sw.len:Int).toNat)-0,((sw.len:Int).toNat)-0⟩] 242 (0,0)):=b11;clear b11;generalize (⟨aW sw.a 0 ((sw.len:Int).toNat) 1,((sw.len:Int).toNat)-0,((sw.len:Int).toNat)-0⟩:f9)=s0 at D T g
  obtain⟨d',n',sp',sk',ow',hb',O,_⟩:=(nd.upd q λ_ h=>h.elim).ex
  have tb11:=tb.upd q id;refine⟨_,Dy e2,MP hb' (xj d' (aV λh12 b12 k12=>?_))⟩
  have s12:=k12.size;have z12:=bw b12;refine Kt (d:=d') O.d32 b12 (λk h'=>Upd No G h') No (λk h1 hi=>tb11.upd hi id) k12 (λk ha hb hi hle S=>hi.trans S λy f=>.inr a4) (λ_ h=>h.elim) (λk c ha KK hi hkc hc hdc _ hK=>?_) λk ha hi _ hde=>?_
  .
   have Y:=hdc;rw[O.dp c hc]at Y;obtain⟨p,hp1,hp2⟩:=Tu (H c hc) Y;refine⟨_,Dy (hi.get0 e2),yX (nd.upd (q.tr hi) λ_ h=>h.elim) hc λhb kb=>?_⟩
   rw[hp2];have ib:=hi.tr kb;refine yk (p:=p) λhc' bc kc=>?_
   have E:=ib.tr kc;have hon:∀i c',(way++ [c])[i]? =some c'->ck x i p.1=c':=by
    have:=V.part (c:=c);rw[hw,show 13-(m+1)=12-m by omega,hp1]at this
    exact this p (av.2 rfl)
   refine eM (λt hd=>t=false/\Upd No hc' hd) (λR hR=>?_) ?_
   .refine⟨_,vc (E.get0 C) 0,_,vc (E.get0 C) 1,_,vc (E.get0 C) 2,_,vc bc 0,s0,Dy (E.get0 g),?_,?_⟩
    .refine vg λhd kd=>⟨Dy (kd.get0 (E.get0 g)),aV λhe be Q=>⟨Dy (Q.get0 (kd.get0 (E.get0 g))),_,Me be,?_⟩⟩
     refine LQ (((D.upd E λ_ h=>h.elim).upd kd λ_ h=>h.elim).upd Q λ_ h=>h.elim) T a4 rfl λs' hf hsf _ kf=>?_
     exact HJ hsf a9 hon (hR _ _ ⟨rfl,(kd.tr Q).tr kf⟩)
    .refine aV λhd bd kd=>⟨Dy (kd.get0 (E.get0 g)),vc (kd.get0 bc) 0,⟨vc (kd.get0 (E.get0 C)) 0,vc (kd.get0 (E.get0 C)) 1,vc (kd.get0 (E.get0 C)) 2⟩,?_⟩
     refine vg λhe Q=>⟨Dy (Q.get0 (kd.get0 (E.get0 g))),_,Me (Q.get0 bd),?_⟩
     refine LQ (((D.upd E λ_ h=>h.elim).upd kd λ_ h=>h.elim).upd Q λ_ h=>h.elim) T a4 rfl λs' hf hsf _ kf=>?_
     exact HJ hsf a9 hon (hR _ _ ⟨rfl,(kd.tr Q).tr kf⟩)
   .rintro t hd ⟨rfl,kd⟩
    exact ag.2 (hK hd (E.tr kd) ((kb.tr kc).tr kd))
  .
   obtain⟨d'',n'',sp'',sk'',ow'',hb'',s,_⟩:=(nd.upd (q.tr hi) λ_ h=>h.elim).ex
   refine⟨_,Dy (hi.get0 e2),Cm hb'' (xj n'' (aV λh13 b13 k13=>?_))⟩
   have i13:=hi.tr k13;have s13:=k13.size;have z13:=bw b13;have sa:=hi.size;have zde:=bw hde;have hl8':s8.len=(gF x (12-m) l).length:=hl8;have hall:=Ts x (12-m) l;have hfl:∀k,(fm (λc=>iZ (part x (12-m) c l)) k).flatten.length<=60000\/32<k:=λk=>by
    rcases cp 32 k with h|h
    .exact .inr h
    .refine .inl ?_
     have:((fm (λc=>iZ (part x (12-m) c l)) k).flatten).length<=(mr x (12-m) l).flatten.length:=by
      unfold mr;have hj:∀j,∃r,fm (λc=>iZ (part x (12-m) c l)) (k+j)=fm (λc=>iZ (part x (12-m) c l)) k++r:=λj=>by
       induction j with
       |zero=>exact⟨[],a7⟩
       |succ j ihj=>obtain⟨r,hr⟩:=ihj;exact⟨r++(iZ (part x (12-m) (k+j) l)).toList,by rw[<-Nat.add_assoc,mu,hr,List.append_assoc]⟩
      have this:=hj (32-k);rw[show k+(32-k)=32 by omega]at this
      obtain⟨r,hr⟩:=this;rw[hr,gg,ae];omega
     omega
   refine Kt (d:=n'') s.n32 b13 (λk h'=>k<=32/\Upd (· =B.size) ha h'/\h'[B.size]? =some (.cells #[.int .i64 (((gF x (12-m) l).length+(fm (λc=>iZ (part x (12-m) c l)) k).flatten.length:Nat):Int)] 3 (0,0))) (· =B.size)
    (λk hx f=>(tb11.upd hi id).upd f.2.1 λe=>by have e:0=B.size:=e;omega) ⟨aK _,k13.wide,?_⟩ (λk hx f hz hle S=>⟨hz.1,hz.2.1.trans S λy f=>.inr a4,S.get hz.2.2 a4⟩) (λy f=>⟨by have f:y=B.size:=f;omega,by have f:y=B.size:=f;omega⟩) (λk c hx KK f hkc hc hnc hno hK=>?_) λk hx f hno hdx=>?_
   .have:=i13.get0 e9
    rw[show((gF x (12-m) l).length+(fm (λc=>iZ (part x (12-m) c l)) 0).flatten.length:Nat)=s8.len by rw[hl8'];simp[fm]]
    exact this
   .obtain⟨hk32,v,J⟩:=f
    have Z:=hnc;rw[s.nk c hc]at Z;obtain⟨h2l,kb,hkb,tk⟩:=Tv (H c hc) Z;have gx:∀{y:Nat} {o:Obj},G[y]? =some o->y≠B.size->hx[y]? =some o:=λf hne=>v.get (hi.get0 f) hne
    have uW:Upd No h hx:=(q.tr hi).trans v λy f=>.inr (by have f:y=B.size:=f;omega)
    refine⟨_,Dy (gx e2 a4),u0 (nd.upd uW λ_ h=>h.elim) hc ?_⟩
    rw[hkb];have hmc:iZ (part x (12-m) c l)=some (part x (12-m) c l):=by unfold iZ;rw[if_pos h2l]
    have hskip:fm (λc=>iZ (part x (12-m) c l)) c=fm (λc=>iZ (part x (12-m) c l)) k:=MI hkc λj h1 h2=>by
     have:=hno j h1 h2;rw[s.nk j a4,(G7 (H j a4)).2]at this;simpa using this
    have hnext:(fm (λc=>iZ (part x (12-m) c l)) (c+1)).flatten.length=(fm (λc=>iZ (part x (12-m) c l)) k).flatten.length+(part x (12-m) c l).length:=by
     rw[mu,hskip,hmc];simp
    have hpl:(part x (12-m) c l).length<=l.length:=lJ;refine eM (λt hd=>t=(((part x (12-m) c l).length:Int),true)/\Upd No hx hd) (λR hR=>?_) ?_
    .refine⟨_,vc (gx C a4) 0,_,vc (gx C a4) 1,_,vc (gx C a4) 2,s0,Dy (gx g a4),aV λhd bd kd=>?_⟩
     refine⟨Dy (kd.get0 (gx g a4)),⟨vc (kd.get0 (gx C a4)) 0,vc (kd.get0 (gx C a4)) 1,vc (kd.get0 (gx C a4)) 2⟩,_,Me bd,?_⟩;have hsx:Sl Y8 1 (λy=>h.size<=y) hd s0 way:=((D.upd hi λ_ h=>h.elim).upd v λy f=>.inl (by have f:y=B.size:=f;omega)).upd kd λ_ h=>h.elim
     refine LQ hsx T a4 rfl λs' he hse hce Q=>?_
     have gE:=kd.tr Q;refine⟨⟨vc (gE.get0 (gx C a4)) 0,vc (gE.get0 (gx C a4)) 1,vc (gE.get0 (gx C a4)) 2⟩,?_⟩;refine ih a4 (TrieAt.upd0 (uW.tr gE) tk) (tb.upd (uW.tr gE) id) hse hce a9 ?_ (is hr) a4 λhf kf=>hR _ _ ⟨rfl,gE.tr kf⟩
     have:=V.part (c:=c);rw[hw,show 13-(m+1)=12-m by omega]at this
     exact this
    .rintro t hd ⟨rfl,kd⟩
     refine fo (ag.2 ?_);rw[decide_eq_false (by(try simp only);omega)];refine ag.2 ⟨_,Dy (kd.get0 J),?_⟩;have hf1:=(hfl k).resolve_right a4;have hS:(gF x (12-m) l).length<=60000:=a4
     refine GS (c':= #[.int .i64 (((gF x (12-m) l).length+(fm (λc=>iZ (part x (12-m) c l)) (c+1)).flatten.length:Nat):Int)]) (kd.get0 J) a7 ?_ λhf bf uf=>?_
     .rw[hnext]
      have:ac .i64 ((((gF x (12-m) l).length+(fm (λc=>iZ (part x (12-m) c l)) k).flatten.length:Nat):Int)+((part x (12-m) c l).length:Int))=(((gF x (12-m) l).length+((fm (λc=>iZ (part x (12-m) c l)) k).flatten.length+(part x (12-m) c l).length):Nat):Int):=by rw[dw a4];omega
      simp only[this];rfl
     .exact hK hf ⟨hc,(v.tr kd.wide).tr uf,bf⟩ (kd.wide.tr uf)
   .obtain⟨hk32,v,J⟩:=f
    have gx:∀{y:Nat} {o:Obj},G[y]? =some o->y≠B.size->hx[y]? =some o:=λf hne=>v.get (hi.get0 f) hne
    have hkm:fm (λc=>iZ (part x (12-m) c l)) 32=fm (λc=>iZ (part x (12-m) c l)) k:=MI hk32 λj h1 h2=>by
     have:=hno j h1 h2;rw[s.nk j a4,(G7 (H j a4)).2]at this;simpa using this
    have ev:((gF x (12-m) l).length+(fm (λc=>iZ (part x (12-m) c l)) k).flatten.length:Nat)=l.length:=by rw[<-hkm];exact hall
    rw[ev]at J;have sx:=v.size;refine⟨_,Dy J,GS (gx e4 a4) a7 rfl λhf bf uf=>GS (uf.oth (gx e5 a4) a4) a7 rfl λhg bg ug=>?_⟩
    have sf:=uf.size;have sg:=ug.size;have g2:=ug.oth (uf.oth hdx a4) a4;have kh:Upd (· =h13.size) hg (hg.setIfInBounds h13.size (.deferred none)):=Upd.set _ _ rfl
    refine⟨g2,bF ?_⟩;generalize hg.setIfInBounds h13.size (.deferred none)=hh at kh;have g3:=kh.oth (ug.oth (uf.oth (v.get hde a4) a4) a4) a4;have kj:Upd (· =h12.size) hh (hh.setIfInBounds h12.size (.deferred none)):=Upd.set _ _ rfl
    refine⟨g3,bF ?_⟩;generalize hh.setIfInBounds h12.size (.deferred none)=hj at kj;refine⟨_,Dy (kj.oth (kh.oth (ug.oth bf a4) a4) a4),_,Dy (kj.oth (kh.oth bg a4) a4),?_⟩;refine hk hj ?_;refine(((((q.tr hi).trans v λy f=>.inr ?_).own uf a4).own ug a4).own kh a4).own kj a4
    have f:y=B.size:=f;omega
theorem Hf{W:eh}{h:ad}{sl val:dO}{has:Bool}{s:f9}{ow:aT}(hb:h[b]? =some (.cells (DB sl has val s ow) 175 (0,0))) (G:Sl qo 1 W h s ks) (A:RxL W h ks F.toL) (hc:eK F)  (X:K true h):eI 88 [gV b] K h:=by
 refine cZ (uo (some ⟨b,0,none⟩)) BS Tryz.func88 Tryz.call88 ?_;dsimp only[uo,rW,cB,jz,fE,lf,cj,cL,zn,rV,cP];refine⟨_,rfl,s,dd (i:=3) hb,?_⟩;have q:=G.len;rw[A.1]at q;have N:=jV hc;have j:=dB.1 hc;refine eF (λ(i:Nat) (t:Int) h'=>t=(i:Int)/\i<=F.toL.length/\h'=h) (λi=>F.toL.length-i) 0 ⟨rfl,aK _,rfl⟩ ?_
 rintro I i t h' ⟨rfl,hi,rfl⟩ T;refine aq (λe=>?_) λ_=>X
 have e:i<F.toL.length:=a4
 obtain⟨kb,g,z,p,kv,L,Y,kk,o,_⟩:=A.at e;obtain⟨a,V,_,hv⟩:=G.at0 z;have k:g.data.toList≠[]:=by rw[p];exact(j.2 _ (aG e)).1
 have S:(g.toList==(⟨#[]⟩:dO).toList)=false:=by
  rw[beq_eq_false_iff_ne,ByteArray.toList_eq,ByteArray.toList_eq];exact k
 obtain⟨c,H,w⟩:=D7 k;refine⟨⟨a4,a4⟩,a,V,_,hv,eM (λt O=>t=false/\O=h') (λR P=>?_) ?_⟩
 .refine⟨_,rfl,g,dd (i:=0) o,?_⟩
  rw[S];refine ag.2 (aq (λB=>?_) λ_=>P _ _ ⟨rfl,rfl⟩)
  have J:0<i:=by have:(i:Int)>0:=B;omega
  have Z:ac .i64 ((i:Int)-1)=((i-1:Nat):Int):=by rw[dw a4];omega
  rw[Z];have f:i-1<F.toL.length:=a4
  obtain⟨jb,u,v,n,jv,Q,U,jk,y,_⟩:=A.at f;obtain⟨a',D,_,E⟩:=G.at0 v;have m:u.data.toList≠[]:=by rw[n];exact(j.2 _ (aG f)).1
  obtain⟨d,C,x⟩:=D7 m;refine⟨_,rfl,s,dd (i:=3) hb,⟨a4,a4⟩,a',D,_,E,_,rfl,u,dd (i:=0) y,d,a8,C,_,rfl,g,dd (i:=0) o,c,a8,H,P _ _ ⟨?_,rfl⟩⟩
  have:=bQ.1 j.1 (i-1) i f e a4;rw[p]at w;rw[n]at x;exact decide_eq_false a4
 .rintro t O ⟨rfl,rfl⟩
  refine ag.2 ?_;rw[cf e a4];exact T (i+1) _ _ ⟨rfl,e,rfl⟩ a4
theorem Ln{W:eh}{h:ad}{s:f9}{L:List Bn}{f:FuncId}(g:Sl qo 1 W h s ks)(j:RxL W h ks L)(w:L.length<=256)(n:∀i (hi:i<L.length) {b:Nat} {sl:dO},RxN W h b sl L[i].2.1 L[i].2.2->∀{K:Bool->eu},K false h->HC PG f [.pointer (some ⟨b,0,none⟩)] [.c .bool] K h)(m:K false h):
  eI 89 [.slice s.a s.len s.cap,.func (.func f) #[] #[]] K h:=by
 refine jA s _ ?_;unfold eG;refine j9 s _ ?_;dsimp only[ff,rW,cB,jz,fE];have d:=g.len;rw[j.1]at d;refine eF (λ(i:Nat) (t:Int) h'=>t=(i:Int)/\i<=L.length/\h'=h) (λi=>L.length-i) 0 ⟨rfl,aK _,rfl⟩ ?_
 rintro I i t h' ⟨rfl,hi,rfl⟩ q;refine aq (λc=>?_) λ_=>m
 have c:i<L.length:=a4
 obtain⟨v,u,e,p,o⟩:=j.at c;obtain⟨a,k,_,hv⟩:=g.at0 e;refine⟨⟨a4,a4⟩,a,k,_,hv,HV.mk' (n i c o (ag.2 ?_))⟩
 rw[cf c a4];exact q (i+1) _ _ ⟨rfl,c,rfl⟩ a4
def acf(n:Bn):Prop:=∀{W:eh} {h:ad} {b:Nat} {sl:dO},RxN W h b sl n.2.1 n.2.2->∀{K:Bool->eu},K true h->eI 91 [gV b] K h
theorem ZX{lab:c6}{w:Option dO}(hc:eK F)(a:w.isSome\/2<=F.toL.length)(m:∀n∈F.toL,acf n):acf (lab,w,F):=by
 intro W h b sl r K k;(try simp only at r)
 obtain⟨val,s,ow,ks,hb,hv,e,j,o⟩:=r;have f:=jP.1 o;have c:=e.len;rw[f.1]at c;refine cZ (sJ (some ⟨b,0,none⟩)) Ap Tryz.func91 Tryz.call91 ?_;dsimp only[sJ,fL,cL,lf,cj];refine eM (λt h'=>t=false/\h'=h) (λR g=>?_) ?_
 .refine Hf hb e f hc (ag.2 ⟨_,rfl,w.isSome,dd (i:=1) hb,?_⟩)
  cases hwS:w.isSome with
  |true=>exact ag.2 (g _ _ ⟨rfl,rfl⟩)
  |false=>
   refine aw.2 ⟨_,rfl,s,dd (i:=3) hb,g _ _ ⟨decide_eq_false ?_,rfl⟩⟩;rw[hwS]at a;rcases a with a|a
   .cases a
   .omega
 .rintro t h' ⟨rfl,rfl⟩
  refine ag.2 ⟨_,rfl,s,dd (i:=3) hb,Ln e f (jV hc) (λi hi b sl p q d=>?_) k⟩
  refine yH _ ?_;unfold qj;exact m _ (aG hi) p d
theorem MY:∀{F:Fo},eK F->∀n∈F.toL,acf n
 | .nil,_,n,a=>by simp[Fo.toL]at a
 | .cons lab w kids rest,h,n,a=>by
  rcases List.mem_cons.1 a with rfl|a
  .exact ZX h.2.2.1 h.2.1 (MY h.2.2.1)
  .exact MY h.2.2.2.2 n a
theorem P7{W:eh}{h:ad}{l:bY}(t:RadAt W h b l)(f:K true h):eI 44 [gV b] K h:=by
 obtain⟨w,F,r,hc,_⟩:=t.ex;obtain⟨val,s,ow,ks,hb,hv,c,e,g⟩:=r;have d:=jP.1 g;refine cZ (AN (some ⟨b,0,none⟩)) .nil Tryz.func44 Tryz.call44 ?_;dsimp only[AN,lf,cj,cL,rV,cP];refine aw.2 ⟨_,rfl,_,dd (i:=0) hb,?_⟩;rw[beq_self_eq_true];refine aw.2 (Hf hb c d hc (aw.2 ⟨_,rfl,s,dd (i:=3) hb,Ln c d (jV hc) (λi hi b sl j k a=>?_) f⟩))
 refine Ge _ ?_;unfold yv;exact MY hc _ (aG hi) j a
theorem To{W:eh}{h:ad}{l:bY}(i:TreeIs W h kind x t l)(tb:Tab h)(k:bO l)(n:l.length<=60000)(e:∀h',Upd No h h'->K true h'):eI 14 [A4 t] K h:=by
 refine cZ (vD t) .nil Tryz.func14 Tryz.call14 ?_;dsimp only[vD,bh,aF,yi,qY,fH,mE,ai,Ah,lP,uJ];refine aV λm b1 k1=>⟨_,vc b1 0,?_⟩
 rcases i with⟨_,b,rfl,t⟩|⟨_,b,rfl,t⟩
 .refine ag.2 ⟨_,gL b1 1 0,_,gL b1 1 1,_,gL b1 1 2,_,vc b1 0,_,vc b1 1,_,vc b1 2,_,vc b1 3,_,vc b1 4,_,vc b1 5,?_⟩
  refine zJ (TrieAt.upd0 k1 t) λq d=>⟨⟨gL (d.get0 b1) 1 0,gL (d.get0 b1) 1 1,gL (d.get0 b1) 1 2⟩,?_⟩
  refine JP (x.k0,x.k1,x.mask) _ ?_;dsimp only[AJ,Cj,yi,li,ai];refine aV λo b3 f=>ag.2 ⟨_,vc b3 0,_,vc b3 1,_,vc b3 2,?_⟩
  have a:=(k1.tr d).tr f;refine WR 13 (aj _) (sw:=⟨none,0,0⟩) (way:= []) (TrieAt.upd0 a t) (tb.upd a id) (Sl.nil ZH) (aj _) rfl (λp _ i c hc=>by simp at hc) k n λj g=>?_
  exact e j (a.tr g)
 .refine aw.2 ⟨_,vc b1 5,P7 (t.upd0 k1) (e m k1)⟩
theorem Tm{l:bY}{xs:c6}(hv:IC kind x l xs)(a:Fit l)(d:l.length<=60000):xs.length<=100000000000:=by
 rcases hv with⟨_,rfl⟩|⟨_,ys,b,rfl⟩
 .have c:=tG (x:=x) 13 a
  have e:l.length*(20004+9*(13+1))<=60000*(20004+9*(13+1)):=db _ d;rw[ar];omega
 .have c:=Hm b a
  rw[ar];omega
theorem aaJ{h:ad}{t:TypeId}{c:Cf}{k:eu}(e:∀h',h'[h.size]? =some (.cells (uQ c).toArray t (0,0))->Upd No h h'->k h'):
  At (hnew h (uQ Xy) t) λb=>qR b (some (aH h)) 0 (uQ c)/\At (fu b (aH h) 0 (uQ c)) k:=
 aV λ_ b1 k1=>cy (c:=uQ Xy) (vs:=uQ c) b1 rfl λd b2 a=>e d b2 (k1.own a (aj _))
theorem TT(a:p<0\/3<p):EY p=⟨#[]⟩:=by
 unfold EY;rw[if_neg a4,if_neg a4,if_neg a4,if_neg a4]
theorem T0{W:eh}{h h':ad}{c:Hs}{l l':bY}(i:TreeIs W h kind x t l)(d:TreeIs W' h' a c u l')(e:mS t u=true):a=kind/\(kind=0->c=x):=by
 rcases i with⟨rfl,b,rfl,_⟩|⟨rfl,b,rfl,_⟩<;>rcases d with⟨rfl,b',rfl,_⟩|⟨rfl,b',rfl,_⟩
 .refine⟨rfl,λ_=>?_⟩
  cases x;cases c;simp[mS]at e;simp[e.1.1,e.1.2,e.2]
 .simp[mS]at e
 .simp[mS]at e
 .exact⟨rfl,λh=>by cases h⟩
theorem TreeIs.turn{W:eh}{h:ad}{d:Hs}{l:bY}(i:TreeIs W h a d u l)(e:a=kind/\(kind=0->d=x)):TreeIs W h kind x u l:=by
 obtain⟨rfl,e⟩:=e;rcases i with⟨f,b,c,t⟩|⟨g,b,c,t⟩
 .rw[<-e f];exact .inl ⟨f,b,c,t⟩
 .exact .inr ⟨g,b,c,t⟩
theorem RefIs.turn{W:eh}{h:ad}{c:Hs}{r:Rt}{l:bY}(b:kind=0\/kind=1)(i:RefIs W h a c r l)(e:a=kind/\(kind=0->c=x)):RefIs W h kind x r l:=by
 obtain⟨rfl,e⟩:=e;obtain⟨s,f,d⟩:=i;rcases b with rfl|rfl
 .rw[<-e rfl];exact⟨s,f,d⟩
 .exact⟨s,f,d⟩
theorem Sg{h:ad}(m:MapAt kStr OH h r B)(n:dO){K:Int->eu}(a:(bE B n).isSome=true->∀h',Upd (· =r) h h'->MapAt kStr OH h' r (kZ B n)->K 0 h')(b:(bE B n).isSome=false->K 4 h):fK 61 [.map (some r),.string n] K h:=by
 refine zt (some r) n ?_;unfold rz;refine⟨_,_,m.get n 0,ez (λe=>b (by simpa using e)) λe=>.inr ⟨r,rfl,m.isMap,?_⟩⟩
 exact a (by simpa using e) _ (wQ (M:=(· =r)) h (.string n) rfl) (m.del n)
section
variable {W:eh} {h h':ad} {vp:Nat} {s:VS} {n:dO} {id:Int} {l:BG}
theorem VaultAt.setG{G:BG}(v:VaultAt W h vp s)(k:Upd (· =s.nm) h h')(b:MapAt kStr OH h' s.nm G):VaultAt W h' vp {s with G:=G}:=by
 obtain⟨m,n,o,i,q,t,g,p,j,c⟩:=VS.neB v.ne;have f:∀b,b=s.nm->W b:=λb e=>v.w b (.inr (.inr (.inr (.inr e))))
 exact v.turn k (λb e=>.inl (f b e)) (v.g.upd k λb e=>.inl ⟨f b e,λa=>i (a.symm.trans e),λa=>g (a.symm.trans e)⟩) (v.t.upd k j) (v.b.upd k c) b (λd hd=>.inl hd) v.sub v.inv
theorem PN(v:VaultAt W h vp s){K:Int->eu}(a:(bE s.B n).isSome=true->∀h',Upd (· =s.bm) h h'->VaultAt W h' vp {s with B:=kZ s.B n}->K 0 h')(b:(bE s.B n).isSome=false->K 4 h):fK 25 [pV vp,.string n] K h:=by
 refine cZ (rA (some ⟨vp,0,none⟩) n) .nil Tryz.func25 Tryz.call25 ?_;dsimp only[rA,cB,cL];exact ag.2 ⟨_,rfl,_,vc v.blk 8,Sg v.b n (λe h' k m=>a e h' k (v.setB k m)) b⟩
theorem Tg(v:VaultAt W h vp s){K:Int->eu}(a:(bE s.G n).isSome=true->∀h',Upd (· =s.nm) h h'->VaultAt W h' vp {s with G:=kZ s.G n}->K 0 h')(b:(bE s.G n).isSome=false->K 4 h):fK 29 [pV vp,.string n] K h:=by
 refine cZ (sy (some ⟨vp,0,none⟩) n) .nil Tryz.func29 Tryz.call29 ?_;dsimp only[sy,cB,cL];exact ag.2 ⟨_,rfl,_,vc v.blk 9,Sg v.n n (λe h' k m=>a e h' k (v.setG k m)) b⟩
theorem XK(v:VaultAt W h vp s){K:Int->eu}
  (b:∀h',Upd (· =s.nm) h h'->VaultAt W h' vp {s with G:=if mC s.G s.L n id (id==0)=0 then kw s.G n id else s.G}->K (mC s.G s.L n id (id==0)) h'):fK 27 [pV vp,.string n,.int .u32 id] K h:=by
 refine cZ (vz (some ⟨vp,0,none⟩) n id) .nil Tryz.func27 Tryz.call27 ?_;dsimp only[vz,cB,cL];exact ag.2 ⟨_,rfl,_,vc v.blk 9,S7 v v.n n id (id==0) λh' a m=>b h' a (v.setG a m)⟩
theorem Ox(m:MapAt kStr OH h r B)(q:NmR B l)(b:l.length<=1000){K:f9->eu}(a:∀h' s,OwnS zS 2 159 (λy=>h.size<=y) h' s l->Upd No h h'->K s h'):dS 72 [.map (some r)] K h:=
 Yf m (by have:=q.pm.length_eq;omega) λh' s ys o p w k=>a h' s (q.list p w▸o) k
theorem NC(v:VaultAt W h vp s)(hb:bE s.B n=none){K:Int×Int->eu}(b:∀h',Upd No h h'->K (0,4) h'):GA 19 [pV vp,.string n,A4 t] K h:=by
 refine mX (some ⟨vp,0,none⟩) n t ?_;dsimp only[jW,dC,qY,gD,mE,bh,ai,aF,cL,zq,uY,fH,lP,uJ,rU];refine aV λa b1 k1=>iG (v.upd0 k1) n ?_
 rw[hb];exact aw.2 (b a k1)
theorem ND(v:VaultAt W h vp s){hd:Int}(hb:bE s.B n=some hd)(a:mS t s.e=false){K:Int×Int->eu}(b:∀h',Upd No h h'->K (0,11) h'):GA 19 [pV vp,.string n,A4 t] K h:=by
 refine mX (some ⟨vp,0,none⟩) n t ?_;dsimp only[jW,dC,qY,gD,mE,bh,ai,aF,cL,zq,uY,fH,lP,uJ,rU];refine aV λe b1 k1=>iG (v.upd0 k1) n ?_
 rw[hb];refine ag.2 ⟨_,vc b1 0,_,vc b1 1,_,vc b1 2,_,vc b1 3,_,vc b1 4,_,vc b1 5,_,rfl,?_⟩;have c1:=k1.get0 v.blk;refine⟨_,gL c1 0 0,_,gL c1 0 1,_,gL c1 0 2,_,gL c1 0 3,_,gL c1 0 4,_,gL c1 0 5,yP (t:=t) (u:=s.e) λd c=>?_⟩
 rw[a];exact aw.2 (b d (k1.tr c))
theorem Jq(v:VaultAt W h vp s){K:Int->eu}(g:bE s.B n=none->∀h',Upd No h h'->K 4 h')(d:∀hd,bE s.B n=some hd->¬(id=0\/id∈dM s.L)->∀h',Upd No h h'->K 4 h')(c:∀hd,bE s.B n=some hd->(id=0\/id∈dM s.L)->¬(id=0\/UpG s.L hd id)->∀h',Upd No h h'->K 13 h')
  (i:∀hd,bE s.B n=some hd->(id=0\/id∈dM s.L)->(id=0\/UpG s.L hd id)->∀h',Upd s.M h h'->VaultAt W h' vp {s with B:=kw s.B n id}->K 0 h'):fK 31 [pV vp,.string n,.int .u32 id] K h:=by
 cases hb:bE s.B n with
 |none=>
  refine iM (some ⟨vp,0,none⟩) n id ?_;dsimp only[fQ,tD,gD,uL,F7,cB,cL];refine iG v n ?_;rw[hb];exact fo (aw.2 (aw.2 (g hb h (eQ _ _))))
 |some hd=>
  by_cases hi:id=0\/id∈dM s.L
  .by_cases a:id=0\/UpG s.L hd id
   .exact LZ v n hb hi a (i hd hb hi a)
   .refine iM (some ⟨vp,0,none⟩) n id ?_
    dsimp only[fQ,tD,gD,uL,F7,cB,cL];refine iG v n ?_;rw[hb];refine fo (ag.2 (Gj v id ?_));rw[decide_eq_true hi];refine ag.2 (tx v id hd λb j f k1=>?_)
    rw[show b=false from Bool.eq_false_iff.2 λe=>a (f.1 e)]
    exact aw.2 (c hd hb hi a j k1)
  .refine iM (some ⟨vp,0,none⟩) n id ?_
   dsimp only[fQ,tD,gD,uL,F7,cB,cL];refine iG v n ?_;rw[hb];refine fo (ag.2 (Gj v id ?_));rw[decide_eq_false hi];exact aw.2 (d hd hb hi h (eQ _ _))
theorem GU(v:VaultAt W h vp s)(hb:bE s.B n=none\/bE s.B m=none){K:Int×f9×Int->eu}(a:K (0,⟨none,0,0⟩,4) h):V9 20 [pV vp,.string n,.string m,.int .i64 p] K h:=by
 refine kz (some ⟨vp,0,none⟩) n m p ?_;dsimp only[iI,cB,bh,ai,dC,aF,dH,nv,tD,wJ,uJ,qY,Ob,gD,Xn,uL,wO,mE,cL,Af,F7];refine iG v n (iG v m (fo ?_));rcases hb with hb|hb
 .rw[hb];exact aw.2 (aw.2 a)
 .rw[hb];exact ez (λ_=>aw.2 a) λ_=>aw.2 a
theorem PP(v:VaultAt W h vp s){b:Int}(d:bE s.B n=some a)(hb:bE s.B m=some b)(c:p<0\/3<p){K:Int×f9×Int->eu}(e:K (0,⟨none,0,0⟩,1) h):V9 20 [pV vp,.string n,.string m,.int .i64 p] K h:=by
 refine kz (some ⟨vp,0,none⟩) n m p ?_;dsimp only[iI,cB,bh,ai,dC,aF,dH,nv,tD,wJ,uJ,qY,Ob,gD,Xn,uL,wO,mE,cL,Af,F7];refine iG v n (iG v m (fo ?_));rw[d,hb];refine ag.2 (ag.2 (Cr ?_));rw[TT c,dV,decide_eq_true rfl];exact aw.2 e
set_option maxHeartbeats 1000000 in
theorem Ti(v:VaultAt W h vp s){lB lT:BG}(qB:NmR s.B lB)(qT:NmR s.G lT)(hB:lB.length<=300)(hT:lT.length<=300){K:f9->eu}
  (U:∀h' s' (st:List Int),(∀y,y∈st↔∃k∈(lB++lT).map (·.2),UpG s.L k y)->OwnS u32 1 33 (λb=>h.size<=b) h' s' ((dM s.L).filter λy=> !decide (y∈st))->VaultAt W h' vp {s with L:=s.L.filter λv=>decide (v.1∈st),D:=s.D.filter λv=>decide (v.1∈st)}->Upd s.M h h'->K s' h'):
  dS 34 [pV vp] K h:=by
 refine cZ (sA (some ⟨vp,0,none⟩)) Al Tryz.func34 Tryz.call34 ?_;dsimp only[sA,cB,dT,iw,dC,nv,wK,Jo,yL,uK,fE,cL,En,cP,jz,rU];refine ag.2 (fo ⟨_,rfl,_,vc v.blk 8,_,rfl,_,vc v.blk 9,Ox v.b qB a4 λh7 s6 o6 V=>⟨vc (v.upd0 V).blk 9,Ox (v.upd0 V).n qT a4 λh9 s8 o8 k9=>?_⟩⟩)
 have s7:=V.size;have S:=V.tr k9;have abK:=S.size;have s9:=k9.size;have hlt:∀y,W y->y<h.size:=v.g.lt;refine M4 (o6.upd k9 λ_ _ h=>h) (c:=s8.cap) (o8.sl (W:=No) λ_ _ _ h=>h) a4 a4 λs11 R o12 Z=>?_
 have P:Upd No h R:=S.fresh Z λy q=>q
 have s12:=P.size;refine SL (nt:=159) (o12.sl (W:=λy=>R.size<=y) λb _ E hge=>a4) a9 λh17 s' o17 Y=>?_
 have x:=P.tr Y;have m:=v.upd0 x;have s017:=x.size;refine⟨_,rfl,_,vc m.blk 6,Wh m.g m.inv.good (o17.sl (W:=W) λb hb _ H=>by have:=hlt b H;omega) a9 λX h34 st J A g34 u=>?_⟩
 have s34':=u.size;obtain⟨n1,n2,n3,n4,n5,n6,n7,n8,n9,n10⟩:=VS.neB v.ne;have C:∀y,y≠s.gp->y≠s.gm->¬BF s.gp s.gm y:=λy F N h=>h.elim F N
 have O:∀y,s.M y->vp≠y:=λy q e=>v.wv (e▸v.w y q)
 have T:∀y,s.M y->y<h.size:=λy q=>v.size q
 have t34:=m.t.upd u (C _ n2.symm n5.symm);have b34:=m.b.upd u (C _ n3.symm n6.symm);have q34:=m.n.upd u (C _ n4.symm n7.symm);have c34:=u.get m.blk λhm=>O _ (VS.mG hm) rfl
 obtain⟨f,eg⟩:∃g,g=(dM s.L).filter λy=> !decide (y∈st):=⟨_,rfl⟩
 have U:=λh' s'=>U h' s' st
 rw[<-eg]at A U;have lo:=A.len;have fw:=v.inv.few;have lg:f.length<=100000:=by
  rw[eg];exact aQ (bP ..) (by rw[bS];omega)
 refine eF (λ(i:Nat) (t:Int) h'=>t=(i:Int)/\i<=f.length/\MapAt KE aaw h' s.tm (s.D.filter λp=> !decide (p.1∈f.take i))/\Upd (· =s.tm) h34 h') (λi=>f.length-i) 0 ⟨rfl,aK _,by rw[List.filter_eq_self.2 a7];exact t34,eQ _ _⟩ ?_
 rintro I i t G ⟨rfl,hi,z,o⟩ hI;refine aq (λE=>?_) λhge=>?_
 .have E:i<f.length:=by omega
  have B:=A.upd o λy q e=>by have e:y=s.tm:=e;have:=T s.tm (.inr (.inr (.inl rfl)));omega
  obtain⟨a,ha,_,hx⟩:=Nums.at (B.sl (W:=No) λ_ _ _ h=>h) E
  refine fo ⟨⟨a4,a4⟩,a,ha,_,hx,_,rfl,_,vc (o.get c34 λe=>O _ (.inr (.inr (.inl e))) rfl) 7,.inr ⟨_,rfl,z.isMap,?_⟩⟩
  rw[cf (n:=f.length) E a4];refine hI (i+1) _ _ ⟨rfl,E,?_,o.tr (wQ _ _ rfl)⟩ a4;have:=z.del f[i];unfold kZ at this;rw[List.filter_filter]at this;have e2:∀p∈s.D,(decide (p.1≠f[i])&& !decide (p.1∈f.take i))= !decide (p.1∈f.take (i+1)):=λp _=>by
   rw[List.take_succ_eq_append_getElem E];rw[Bool.eq_iff_iff];simp only[Bool.and_eq_true,decide_eq_true_eq,Bool.not_eq_true',decide_eq_false_iff_not,aL,av,not_or,ne_eq];exact And.comm
  rw[eY e2]at this;exact this
 .have:i=f.length:=by omega
  subst this;rw[List.take_length]at z;have eD:(s.D.filter λp=> !decide (p.1∈f))=s.D.filter λv=>decide (v.1∈st):=by
   refine eY λp Q=>?_
   have hm:p.1∈dM s.L:=(v.sub _).1 (aR.2 ⟨p,Q,rfl⟩);rw[eg];by_cases e:p.1∈st<;>simp[e,hm]
  rw[eD]at z;have uM:Upd s.M h17 G:=(u.mono λy q=>.inl (VS.mG q)).tr (o.mono λy q=>.inl (.inr (.inr (.inl q))))
  have B:=A.upd o λy q e=>by have e:y=s.tm:=e;have:=T s.tm (.inr (.inr (.inl rfl)));omega
  refine U G X J (B.more λy q=>a4) (m.turn uM (λy q=>.inl (v.w y q)) (g34.upd o λb e=>.inl ⟨by have e:b=s.tm:=e;exact e▸v.w _ (.inr (.inr (.inl rfl))),λe'=>n2 (e'.symm.trans e),λe'=>n5 (e'.symm.trans e)⟩) z (b34.upd o λe=>n8 e.symm) (q34.upd o λe=>n9 e.symm) (λd hd=>.inl (bL.1 hd).1) (λj=>?_) (v.inv.drop J)) (x.wide.tr uM)
  constructor
  .intro hj
   obtain⟨p,Q,rfl⟩:=aR.1 hj;obtain⟨F,N⟩:=bL.1 Q;obtain⟨w,H,e⟩:=aR.1 ((v.sub _).1 (aR.2 ⟨p,F,rfl⟩));exact aR.2 ⟨w,bL.2 ⟨H,by rw[e];exact N⟩,e⟩
  .intro hj
   obtain⟨w,H,rfl⟩:=aR.1 hj;obtain⟨F,N⟩:=bL.1 H;obtain⟨p,Q,e⟩:=aR.1 ((v.sub _).2 (aR.2 ⟨w,F,rfl⟩));exact aR.2 ⟨p,bL.2 ⟨Q,by rw[e];exact N⟩,e⟩
end
end
end Go.Proofs
set_option maxRecDepth 100000
namespace Go.Proofs
open Go.Lift
section
open Go.Shelf
def abO:Ren:=⟨λn=>bif aO n 6 then 175 else bif aO n 14 then 234 else bif aO n 15 then 132 else bif aO n 20 then 273 else bif aO n 21 then 274 else bif aO n 22 then 275 else bif aO n 23 then 276 else bif aO n 24 then 277 else bif aO n 25 then 278 else bif aO n 26 then 279 else bif aO n 27 then 280 else bif aO n 28 then 195 else bif aO n 29 then 196 else bif aO n 46 then 295 else bif aO n 47 then 251 else bif aO n 48 then 252 else bif aO n 49 then 296 else bif aO n 50 then 297 else bif aO n 57 then 308 else 0,
 λn=>bif aO n 0 then 0 else bif aO n 3 then 3 else bif aO n 4 then 4 else bif aO n 5 then 5 else bif aO n 9 then 9 else bif aO n 22 then 196 else bif aO n 24 then 200 else bif aO n 25 then 276 else bif aO n 39 then 231 else bif aO n 45 then 287 else bif aO n 46 then 288 else bif aO n 50 then 177 else bif aO n 53 then 33 else bif aO n 55 then 22 else bif aO n 66 then 340 else bif aO n 70 then 344 else bif aO n 76 then 372 else bif aO n 77 then 373 else 0,
 λ_=>0⟩
theorem wV:SlLaysF0.n6 PG abO:=by
 constructor
 .kernel_rfl
 .exact⟨"slices.SortFunc[[]quickset/diff.Change,quickset/diff.Change]",a8,a5⟩
 .exact⟨"slices.pdqsortCmpFunc[quickset/diff.Change]",a8,a5⟩
 .kernel_rfl
 .exact⟨"slices.insertionSortCmpFunc[quickset/diff.Change]",a8,a5⟩
 .exact⟨"slices.heapSortCmpFunc[quickset/diff.Change]",a8,a5⟩
 .exact⟨"slices.breakPatternsCmpFunc[quickset/diff.Change]",a8,a5⟩
 .exact⟨"slices.choosePivotCmpFunc[quickset/diff.Change]",a8,a5⟩
 .exact⟨"slices.reverseRangeCmpFunc[quickset/diff.Change]",a8,a5⟩
 .exact⟨"slices.partialInsertionSortCmpFunc[quickset/diff.Change]",a8,a5⟩
 .exact⟨"slices.partitionEqualCmpFunc[quickset/diff.Change]",a8,a5⟩
 .exact⟨"slices.partitionCmpFunc[quickset/diff.Change]",a8,a5⟩
 .kernel_rfl
 .kernel_rfl
 .exact⟨"slices.siftDownCmpFunc[quickset/diff.Change]",a8,a5⟩
 .kernel_rfl
 .kernel_rfl
 .exact⟨"slices.medianAdjacentCmpFunc[quickset/diff.Change]",a8,a5⟩
 .exact⟨"slices.medianCmpFunc[quickset/diff.Change]",a8,a5⟩
 .exact⟨"slices.order2CmpFunc[quickset/diff.Change]",a8,a5⟩
 .kernel_rfl
 all_goals first|(intro w;kernel_rfl)|kernel_rfl
end
section
open Go.RowKit Go.Shelf Go.Sort
abbrev YB(x y:Ch):Int:=wZ x.1 y.1
set_option maxHeartbeats 1000000 in
theorem YA(x y:Ch)(W:World):Calls PG 176 #[.agg #[.string x.1,.string x.2.1,.string x.2.2.1,.bool x.2.2.2.1,.bool x.2.2.2.2],.agg #[.string y.1,.string y.2.1,.string y.2.2.1,.bool y.2.2.2.1,.bool y.2.2.2.2]] W λe b=>e=.returned (.int .i64 (wZ x.1 y.1))/\∃q os',b=grow (W.drewN q) os':=by
 have a:=λW'=>Li x.1 y.1 W'
 change∀W',Calls PG 123 _ _ _ at a;generalize wZ x.1 y.1=r at a⊢;go_enter Tryz.func176,Tryz.ntmps176
 go_wp2_with (go_at_call 123;refine(a _).mono ?_;rintro e b ⟨rfl,rfl⟩)
 go_ret
 exact⟨rfl,0,_,by rw[alloc_eq_grow,alloc_eq_grow,grow_grow];rfl⟩
theorem Yd(x y:Ch):ltOf YB x y=decide (kl x.1 y.1):=by
 unfold ltOf YB wZ;by_cases h:kl x.1 y.1
 .simp[h]
 .by_cases a:x.1=y.1<;>simp[h,a,bT]
theorem aaz:SWO (ltOf YB) where
 irrefl x:=by rw[Yd];simpa using bT x.1
 trans x y z h1 h2:=by rw[Yd]at*;simp at*;exact dI h1 h2
 ntrans x y z h1 h2:=by
  rw[Yd]at*;simp at*;intro h;by_cases e:x.1=y.1
  .rw[e]at h;exact h2 h
  .exact h2 (dI (l8 h1 e) h)
theorem Vk{M:eh}{h:ad}{s:f9}{xs X:List Ch}(p:OwnS Jj 5 200 M h s xs)(P:xs.Perm X)(A:Ng X)(hn:xs.length<=1000000){K:Unit->eu}
  (O:∀h',OwnS Jj 5 200 M h' s X->Upd M h h'->K () h'):dx 175 [.slice s.a s.len s.cap,.func (.func 176) #[] #[]] K h:=by
 refine HC.shelf Tryz.call175 λw q=>?_
 have k:=p.len;rcases p.blk with h0|⟨b,L,N,hM,hb,U⟩
 .have hx:xs= []:=List.length_eq_zero_iff.1 (by have:=p.cap;omega)
  subst hx;have R:s.len=0:=k;rw[R];refine(AnyF.slices_SortFunc_none wV s.a s.cap (.func (.func 176) #[] #[]) w).mono λe T o=>?_
  obtain⟨o,rfl⟩:=o;have I:X= []:=P.symm.eq_nil;subst I;exact⟨⟨rfl,rfl,rfl⟩,(),o,O _ (by rw[q];exact p) (by rw[q];exact eQ _ _)⟩
 .rw[N,k]
  have W:HoldsK Jj 5 w b 0 xs.toArray:=p.holds hb q ((sO (f:=Jj) (sz:=5) (λ_=>rfl) xs.toArray).trans a7)
  have lt:=bw hb;have c:=AnyQ.slices_SortFunc wV 5 (λw=>a5) (λw=>a5) Jj (λ_=>rfl) (λx v hv=>by simp only[List.mem_cons,List.not_mem_nil,or_false]at hv;rcases hv with rfl|rfl|rfl|rfl|rfl<;>rfl) YB aaz 176 #[] b 0 s.cap xs.toArray w Tryz.call176 (λm os dk S x y=>YA x y _) W (by rw[q];exact lt) a9
  rw[show xs.toArray.size=xs.length by simp]at c
  refine Calls.mono c λe T o=>?_
  obtain⟨o,d,n,os,⟨g,_,u⟩,Y,rfl⟩:=o;have g:d.size=xs.length:=by simpa using g
  obtain⟨Q,Z⟩:=p.row hb N hM U q (n:=n) (os:=os) (F:=flatK Jj 5 d) (ys:=d.toList) (sO (f:=Jj) (sz:=5) (λ_=>rfl) d) (by simpa using g)
  have e1:d.extract 0 xs.length=d:=by rw[<-g];exact Array.extract_size
  have e2:xs.toArray.extract 0 xs.length=xs.toArray:=a7
  rw[e1,e2]at u;have J:d.toList.Perm X:=List.Perm.trans (by simpa using u) P;have ex:d.toList=X:=by
   refine List.Perm.eq_of_pairwise (le:=λa b:Ch=>¬kl b.1 a.1) (λa b hA hB h1 V=>?_) (bQ.2 λi j hi z G t=>?_) (A.imp λh h'=>bT _ (dI h h')) J
   .have e:a.1=b.1:=nX λne=>h1 (l8 V ne)
    have H:=J.mem_iff.1 hA;obtain⟨i,hi,B⟩:=bJ H;obtain⟨j,z,C⟩:=bJ hB;rcases Nat.lt_trichotomy i j with h|h|h
    .have:=bQ.1 A i j hi z h
     rw[B,C,e]at this;exact absurd this (bT _)
    .subst h;rw[<-B,<-C]
    .have:=bQ.1 A j i z hi h
     rw[B,C,e]at this;exact absurd this (bT _)
   .have D:i<d.size:=by simpa using hi
    have E:j<d.size:=by simpa using z
    have:=Y i j (aK _) G a4;rw[getElem!_pos d j E,getElem!_pos d i D,Yd]at this;simp only[Array.getElem_toList]at t;simp[t]at this
  rw[ex]at Q;exact⟨⟨rfl,rfl,rfl⟩,(),o,O _ Q Z⟩
end
section
variable {B l:BG}{v:Int}{i:Nat}{r:dO×Int}
theorem abb{n m:Nat}{B T:bY}(b:Few n B)(a:Few m T)(j:n<=1000)(hm:m<=1000):Z8 B T:=λi f _ g c=>
 Q2 i f b.up b.fits (by have:=b.len;omega) a.up a.fits (by have:=a.len;omega) (λ_ {_ _ _ _ _} e _ d c=>Vk e d (Bf b.up a.up) (by have:=d.length_eq;have:=sZ b.up a.up;have:=b.len;have:=a.len;omega) c) g c
inductive Evo(s:VS):VS->Prop
 |names (B G:BG):Evo s {s with B:=B,G:=G}
 |ver (n:dO) (d:TD) (ps:List Int):Evo s (xF s n d ps).2
 |prune (st:List Int):Evo s {s with L:=s.L.filter λv=>decide (v.1∈st),D:=s.D.filter λv=>decide (v.1∈st)}
theorem Evo.same{s s':VS}(e:Evo s s'):s'.M=s.M/\s'.kind=s.kind/\s'.x=s.x:=by
 cases e with
 |names=>exact⟨rfl,rfl,rfl⟩
 |ver=>unfold xF;split<;>exact⟨rfl,rfl,rfl⟩
 |prune=>exact⟨rfl,rfl,rfl⟩
structure Dp(s:VS)(q:RS)(U:List dO)(n:Nat):Prop where
 eL:q.L=s.L
 en:q.nx=s.nx
 nb:NmR s.B q.B
 ng:NmR s.G q.T
 ed:∀p∈s.D,p∈q.D
 nd:(q.D.map (·.1)).Nodup
 lt:∀p∈q.D,p.1<s.nx
 kin:∀d∈q.D,Kin U d.2.2
 ul:U.length<=n
 dl:q.D.length<=n
 hb:∀p∈q.B,(p.2=0\/p.2∈dM s.L)/\p.1.size<=40
 ht:∀p∈q.T,(p.2=0\/p.2∈dM s.L)/\p.1.size<=40
 bl:q.B.length<=n
 tl:q.T.length<=n
section
variable {s:VS} {q:RS} {U V:List dO} {n m:Nat} {k:dO} {id:Int} {sl:f9}
theorem Dp.more(p:Dp s q U n)(h:n<=m):Dp s q U m:=⟨p.eL,p.en,p.nb,p.ng,p.ed,p.nd,p.lt,p.kin,aQ p.ul h,aQ p.dl h,p.hb,p.ht,aQ p.bl h,aQ p.tl h⟩
theorem Lp{L:de}{no:Bool}(h:mC B L k id no=0):bE B k=none/\(id=0\/id∈dM L):=by
 unfold mC at h;split at h
 .cases h
 .split at h
  .cases h
  .split at h
   .cases h
   .rename_i h2 h3
    refine⟨by simpa using h2,?_⟩;by_cases a:id=0\/id∈dM L
    .exact a
    .rw[decide_eq_false a]at h3
     simp at h3
theorem NmR.miss(r:NmR B l)(h:bE B k=none):∀p∈l,p.1≠k:=λp a e=>by
 have:=(r.iff p.1 p.2).2 a;rw[e,h]at this;cases this
theorem NmR.hit(r:NmR B l)(h:bE B k=some v):∃i,∃hi:i<l.length,l[i].1=k/\l[i].2=v:=by
 obtain⟨i,hi,e⟩:=bJ ((r.iff k v).1 h);exact⟨i,hi,by rw[e],by rw[e]⟩
theorem OG:(Ct l k id).length=l.length+1:=by
 conv=>rhs;rw[<-List.takeWhile_append_dropWhile (p:=λp:dO×Int=>Op.bytesLess p.1.toList k.toList) (l:=l)]
 unfold Ct;simp only[List.length_append,List.length_cons];omega
theorem Dp.create(p:Dp s q U n)(c:k.size<=40):Dp {s with B:=if mC s.B s.L k id false=0 then kw s.B k id else s.B} {q with sB:=sl,B:=if mC s.B q.L k id false=0 then Ct q.B k id else q.B} U (n+1):=by
 have a:=p.more (j4 n);rw[p.eL];by_cases e:mC s.B s.L k id false=0
 .obtain⟨f,d⟩:=Lp e
  simp only[if_pos e];refine⟨rfl,p.en,p.nb.add (p.nb.miss f),p.ng,p.ed,p.nd,p.lt,p.kin,a.ul,a.dl,λr b=>?_,p.ht,by simp only[OG];have:=p.bl;omega,a.tl⟩
  rcases Co.1 b with rfl|b
  .exact⟨d,c⟩
  .exact p.hb r b
 .simp only[if_neg e]
  exact⟨rfl,p.en,p.nb,p.ng,p.ed,p.nd,p.lt,p.kin,a.ul,a.dl,p.hb,p.ht,a.bl,a.tl⟩
theorem Dp.tag(p:Dp s q U n)(c:k.size<=40):Dp {s with G:=if mC s.G s.L k id (id==0)=0 then kw s.G k id else s.G} {q with sT:=sl,T:=if mC s.G q.L k id (id==0)=0 then Ct q.T k id else q.T} U (n+1):=by
 have a:=p.more (j4 n);rw[p.eL];by_cases e:mC s.G s.L k id (id==0)=0
 .obtain⟨f,d⟩:=Lp e
  simp only[if_pos e];refine⟨rfl,p.en,p.nb,p.ng.add (p.ng.miss f),p.ed,p.nd,p.lt,p.kin,a.ul,a.dl,p.hb,λr b=>?_,a.bl,by simp only[OG];have:=p.tl;omega⟩
  rcases Co.1 b with rfl|b
  .exact⟨d,c⟩
  .exact p.ht r b
 .simp only[if_neg e]
  exact⟨rfl,p.en,p.nb,p.ng,p.ed,p.nd,p.lt,p.kin,a.ul,a.dl,p.hb,p.ht,a.bl,a.tl⟩
theorem SE(h:r∈l.take i++l.drop (i+1)):r∈l:=(aL.1 h).elim List.mem_of_mem_take List.mem_of_mem_drop
theorem Dp.remove(p:Dp s q U n)(hi:i<q.B.length)(e:q.B[i].1=k):Dp {s with B:=kZ s.B k} {q with sB:=sl,B:=q.B.take i++q.B.drop (i+1)} U (n+1):=by
 have a:=p.more (j4 n);exact⟨p.eL,p.en,e▸p.nb.del hi,p.ng,p.ed,p.nd,p.lt,p.kin,a.ul,a.dl,λr b=>p.hb r (SE b),p.ht,by have:=p.bl;simp;omega,a.tl⟩
theorem Dp.untag(p:Dp s q U n)(hi:i<q.T.length)(e:q.T[i].1=k):Dp {s with G:=kZ s.G k} {q with sT:=sl,T:=q.T.take i++q.T.drop (i+1)} U (n+1):=by
 have a:=p.more (j4 n);exact⟨p.eL,p.en,p.nb,e▸p.ng.del hi,p.ed,p.nd,p.lt,p.kin,a.ul,a.dl,p.hb,λr b=>p.ht r (SE b),a.bl,by have:=p.tl;simp;omega⟩
theorem Ou(hi:i<l.length)(h:r∈l.set i (l[i].1,v)):r=(l[i].1,v)\/r∈l:=(List.mem_or_eq_of_mem_set h).symm
theorem Dp.head(p:Dp s q U n)(hi:i<q.B.length)(e:q.B[i].1=k)(hv:id=0\/id∈dM s.L):Dp {s with B:=kw s.B k id} {q with sB:=sl,B:=q.B.set i (q.B[i].1,id)} U (n+1):=by
 have a:=p.more (j4 n);refine⟨p.eL,p.en,e▸p.nb.set hi,p.ng,p.ed,p.nd,p.lt,p.kin,a.ul,a.dl,λr b=>?_,p.ht,by simp only[iA];exact a.bl,a.tl⟩
 rcases Ou hi b with rfl|b
 .exact⟨hv,(p.hb _ (aG hi)).2⟩
 .exact p.hb r b
theorem Dp.prune(p:Dp s q U n){st:List Int}(c:∀y,y∈st↔∃k∈(q.B++q.T).map (·.2),UpG s.L k y):Dp {s with L:=s.L.filter λv=>decide (v.1∈st),D:=s.D.filter λv=>decide (v.1∈st)} {q with L:=q.L.filter λv=>decide (v.1∈st)} U (n+1):=by
 have b:=p.more (j4 n);have keep:∀r∈q.B++q.T,(r.2=0\/r.2∈dM s.L)->r.2=0\/r.2∈dM (s.L.filter λv=>decide (v.1∈st)):=λr a hv=>hv.imp (λh=>h) λhv=>by
  obtain⟨v,hm,e⟩:=aR.1 hv;refine aR.2 ⟨v,bL.2 ⟨hm,?_⟩,e⟩;exact decide_eq_true ((c _).2 ⟨r.2,aR.2 ⟨r,a,rfl⟩,by rw[e];exact .refl hv⟩)
 exact⟨by simp only[p.eL],p.en,p.nb,p.ng,λr a=>p.ed r (bL.1 a).1,p.nd,p.lt,p.kin,b.ul,b.dl,λr a=>⟨keep r (ci _ a) (p.hb r a).1,(p.hb r a).2⟩,λr a=>⟨keep r (cr _ a) (p.ht r a).1,(p.ht r a).2⟩,b.bl,b.tl⟩
theorem Dp.ver(p:Dp s q U n)(inv:Inv s.L s.nx)(hi:i<q.B.length)(e:q.B[i].1=k){d:TD}{ps:List Int}{r:Rt}{ts:f9}(hd:Kin V d.2)(u:∀y∈U,y∈V)(m:V.length<=n+1):Dp (xF s k d ps).2 (yM q i hi d ps r ts sl) V (n+1):=by
 have g:=p.more (j4 n);unfold xF yM;rw[p.eL,p.en];have kin:∀d∈q.D,Kin V d.2.2:=λd hd=>(p.kin d hd).more u
 by_cases j:(fF s.L s.nx ps).1.2≠0
 .simp only[if_pos j]
  exact⟨p.eL,p.en,p.nb,p.ng,p.ed,p.nd,p.lt,kin,m,g.dl,p.hb,p.ht,g.bl,g.tl⟩
 .have o:(fF s.L s.nx ps).1.2=0:=Decidable.not_not.1 j
  have t:=Ab o;simp only[if_neg j];simp only[t];have x:s.nx∉dM s.L:=λhm=>by have:=(inv.pos _ hm).2;omega
  have f:∀v,(v=0\/v∈dM s.L)->v=0\/v∈dM (ws s.L s.nx ps):=λv h=>h.imp (λh=>h) λh=>insV_ids.mem_iff.2 (ay _ h)
  have hnew:s.nx∉q.D.map (·.1):=λhm=>by
   obtain⟨a,c,w⟩:=aR.1 hm;have:=p.lt a c;omega
  refine⟨rfl,rfl,e▸p.nb.set hi,p.ng,λa c=>?_,?_,λa c=>?_,λa c=>?_,m,by have:=p.dl;simp;omega,λa c=>?_,λa c=>⟨f _ (p.ht a c).1,(p.ht a c).2⟩,by simp only[iA];exact g.bl,g.tl⟩
  .rcases Ik c with rfl|c
   .exact cr _ (av.2 rfl)
   .exact ci _ (p.ed a c)
  .rw[List.map_append,List.nodup_append]
   refine⟨p.nd,List.pairwise_singleton ..,λa c b hb=>?_⟩
   rw[List.map_singleton,av]at hb;subst hb;exactλe=>hnew (by rw[e]at c;exact c)
  .rcases aL.1 c with c|c
   .have:=p.lt a c;simp only;omega
   .rw[av.1 c];simp only;omega
  .rcases aL.1 c with c|c
   .exact kin a c
   .rw[av.1 c];exact hd
  .rcases Ou hi c with rfl|c
   .exact⟨.inr (insV_ids.mem_iff.2 List.mem_cons_self),(p.hb _ (aG hi)).2⟩
   .exact⟨f _ (p.hb a c).1,(p.hb a c).2⟩
end
end
section
variable {id:Int}{B:TD}
def DW(X:eh)(s:VS)(a b:Nat)(q:RS)(y:Nat):Prop:=s.M y\/RW a b q y\/X y
def DM(s:VS)(a b:Nat)(q:RS)(y:Nat):Prop:=s.M y\/RW a b q y
structure Dz(X:eh)(z:Nat)(h:ad)(vp xp xg:Nat)(re:Rt)(s:VS)(q:RS)(U:List dO)(n:Nat):Prop where
 v:VaultAt (DW X s xg xp q) h vp s
 f:Rn (DW X s xg xp q) h xp xg s.kind s.x re q
 a:∀y,s.M y->¬RW xg xp q y
 xd:∀y,X y->¬s.M y/\¬RW xg xp q y
 p:Dp s q U n
 lo:∀y,DM s xg xp q y->z<=y
section
variable {X M:eh} {h h' h1 h2:ad} {z vp xp xg:Nat} {re:Rt} {s s':VS} {q q':RS} {U V:List dO} {n m:Nat}
theorem Dz.upd(g:Dz X z h vp xp xg re s q U n)(k:Upd M h h')(hm:∀b,M b->X b\/h.size<=b):Dz X z h' vp xp xg re s q U n:=
 ⟨g.v.upd k λb hb=>(hm b hb).imp (λe=>⟨.inr (.inr e),(g.xd b e).1⟩) id,g.f.upd k λb hb=>(hm b hb).imp (λe=>⟨.inr (.inr e),(g.xd b e).2⟩) id,g.a,g.xd,g.p,g.lo⟩
theorem Dz.upd0(g:Dz X z h vp xp xg re s q U n)(k:Upd No h h'):Dz X z h' vp xp xg re s q U n:=g.upd k λ_ h=>h.elim
theorem Dz.more(g:Dz X z h vp xp xg re s q U n)(e:n<=m):Dz X z h vp xp xg re s q U m:=⟨g.v,g.f,g.a,g.xd,g.p.more e,g.lo⟩
theorem Dz.lt(g:Dz X z h vp xp xg re s q U n):∀y,DW X s xg xp q y->y<h.size:=g.f.lt
theorem Dz.f1(g:Dz X z h vp xp xg re s q U n)(k:Upd s.M h h'):Rn (DW X s xg xp q) h' xp xg s.kind s.x re q:=g.f.upd k λb hb=>.inl ⟨.inl hb,g.a b hb⟩
theorem Dz.fin(g:Dz X z h vp xp xg re s q U n)(k1:Upd s.M h h1)(j:VaultAt (DW X s xg xp q) h1 vp s')(e:Evo s s')(k:Upd (RW xg xp q) h1 h2)(ht:∀y,sb q'.ts y->sb q.ts y\/h1.size<=y)
  (G:∀W':Nat->Prop,(∀y,W' y->(DW X s xg xp q y\/sb q'.ts y))->(∀y,RW xg xp q' y->W' y)->Rn W' h2 xp xg s.kind s.x re q')(p:Dp s' q' V m):Dz X z h2 vp xp xg re s' q' V m/\Upd (DM s xg xp q) h h2:=by
 obtain⟨d,ek,ex⟩:=e.same;have c:∀y,RW xg xp q' y->RW xg xp q y\/h1.size<=y:=λy a=>a.elim (λe=>.inl (.inl e)) λa=>a.elim (λe=>.inl (.inr (.inl e))) λa=>(ht y a).imp (λh=>.inr (.inr h)) id
 have f:∀y,DW X s xg xp q y->y<h1.size:=j.g.lt;have R:Rn (DW X s' xg xp q') h2 xp xg s.kind s.x re q':=G _ (λy a=>by
  rcases a with a|a|a
  .exact .inl (.inl (d▸a))
  .rcases a with a|a|a
   .exact .inl (.inr (.inl (.inl a)))
   .exact .inl (.inr (.inl (.inr (.inl a))))
   .exact .inr a
  .exact .inl (.inr (.inr a))) λy a=>.inr (.inl a)
 refine⟨⟨j.re k (λb hb=>.inl ⟨.inr (.inl hb),λhM=>g.a b (d▸hM) hb⟩) (λb hb=>⟨?_,R.lt b hb⟩) λy a=>.inl a,ek▸ex▸R,λy a i=>?_,λy a=>⟨d▸(g.xd y a).1,λi=>?_⟩,p,λy a=>a.elim (λa=>g.lo y (.inl (d▸a))) λa=>(c y a).elim (λh=>g.lo y (.inr h)) λh=>?_⟩,(k1.mono λy a=>.inl (.inl a)).tr (k.mono λy a=>.inl (.inr a))⟩
 .rcases hb with hb|hb|hb
  .exact .inl (.inl (d▸hb))
  .exact(c b hb).imp (λh=>.inr (.inl h)) id
  .exact .inl (.inr (.inr hb))
 .exact(c y i).elim (λh=>g.a y (d▸a) h) λh=>absurd (f y (.inl (d▸a))) (df.2 h)
 .exact(c y i).elim (λh=>(g.xd y a).2 h) λh=>absurd (f y (.inr (.inr a))) (df.2 h)
 .have o:=g.lo xg (.inr (.inl rfl))
  have t:=f xg (.inr (.inl (.inl rfl)));omega
theorem Dz.fin0(g:Dz X z h vp xp xg re s q U n)(k1:Upd s.M h h1)(a:VaultAt (DW X s xg xp q) h1 vp s')(e:Evo s s')(d:Upd (RW xg xp q) h1 h2)(ht:q'.ts=q.ts)(G:Rn (DW X s xg xp q) h2 xp xg s.kind s.x re q')(p:Dp s' q' V m):Dz X z h2 vp xp xg re s' q' V m/\Upd (DM s xg xp q) h h2:=
 g.fin k1 a e d (λy i=>.inl (ht▸i)) (λW' c f=>G.mv (eQ No h2) (λ_ h=>h.elim) (λb hb=>by
  have:DW X s xg xp q b:=(c b hb).elim id λh=>.inr (.inl (.inr (.inr (ht▸h))))
  exact⟨.inl this,G.lt b this⟩) f) p
theorem Dz.base(g:Dz X z h vp xp xg re s q U n)(a:ya s id B)(hi:id=0\/id∈dM s.L):LJ q id B/\Kin U B.2:=by
 rcases a with⟨e,rfl⟩|⟨e,a⟩
 .exact⟨.inl ⟨e,rfl⟩,Kin.nil⟩
 .have hm:=g.p.ed _ (iH a)
  exact⟨.inr ⟨e,g.p.eL▸hi.resolve_left e,(eJ g.p.nd).2 hm⟩,g.p.kin _ hm⟩
theorem Dz.tree(g:Dz X z h vp xp xg re s q U n)(a:ya s id B):TreeIs (DW X s xg xp q) h s.kind s.x B.1 B.2:=by
 rcases a with⟨_,rfl⟩|⟨_,a⟩
 .exact g.v.em
 .exact(g.v.ts _ (iH a)).1
end
end
section
variable {W W':eh}{h':ad}{k k':Int}{x a:Hs}{l l':bY}{ps:List Int}{b:dO}{d:TD}
abbrev Y0:=Int×dO×dO×Int×Int×Int×dO×dO×Bool×Int
abbrev El(a:Y0):c5:= [.int .u8 a.1,.string a.2.1,.string a.2.2.1,.int .u8 a.2.2.2.1,.int .u8 a.2.2.2.2.1,.int .u32 a.2.2.2.2.2.1,.string a.2.2.2.2.2.2.1,.string a.2.2.2.2.2.2.2.1,.bool a.2.2.2.2.2.2.2.2.1,.int .i64 a.2.2.2.2.2.2.2.2.2]
theorem KH{t:dO}{b:Int}(hb:0<=b){h:ad}{K:dO->eu}(a:∀h' r,r.size<=40->Upd No h h'->K r h'):Cw 23 [.string t,.int .u8 b] K h:=by
 refine cZ (Ja t b) .nil Tryz.func23 Tryz.call23 ?_;unfold Ja cB fE aar;refine⟨a8,ez (λ_=>⟨⟨cv,cv⟩,?_⟩) λ_=>?_⟩
 .unfold Bd
  refine a h _ ?_ (eQ _ _);rw[ly];split<;>omega
 .obtain⟨j,g,f⟩:∃j:Nat,j<4/\Int.tmod b 4=(j:Int):=⟨(b%4).toNat,a4,by rw[Int.tmod_eq_emod_of_nonneg hb];omega⟩
  rw[f];refine aV λd b2 c=>⟨a8,⟨a4,a4⟩,_,rfl,?_⟩
  have e:j=0\/j=1\/j=2\/j=3:=a4
  rcases e with rfl|rfl|rfl|rfl
  .exact⟨_,vc b2 0,a d _ a8 c⟩
  .exact⟨_,vc b2 1,a d _ a8 c⟩
  .exact⟨_,vc b2 2,a d _ a8 c⟩
  .exact⟨_,vc b2 3,a d _ a8 c⟩
section
variable {X:eh} {h:ad} {z vp xp xg st:Nat} {re:Rt} {s:VS} {q:RS} {U:List dO} {n:Nat}
theorem T4{h:ad}{t u:Tr}(i:TreeIs W h k x t l)(b:TreeIs W' h' k' a u l')(e:k≠k'):mS t u=false:=by
 cases hb:mS t u with
 |false=>rfl
 |true=>exact absurd (T0 i b hb).1.symm e
theorem T3{h:ad}{t u:Rt}(i:RefIs W h k x t l)(b:RefIs W' h' k' a u l')(e:k≠k'):E3 t u=false:=by
 obtain⟨_,rfl,_⟩:=i;obtain⟨_,rfl,_⟩:=b;unfold E3;rw[show(k==k')=false from beq_eq_false_iff_ne.2 e];rfl
theorem Xb{L:de}{nx:Int}(h:(fF L nx ps).1.2≠0):(fF L nx ps).1=(0,(fF L nx ps).1.2):=by
 unfold fF at h⊢;split
 .rfl
 .split
  .rfl
  .split
   .rfl
   .rename_i h1 h2 h3
    rw[if_neg h1,if_neg h2,if_neg h3]at h;exact absurd rfl h
theorem NA:(xF s b d ps).1=(fF s.L s.nx ps).1:=by
 unfold xF;split
 .rename_i h;exact(Xb h).symm
 .rename_i h
  have e:(fF s.L s.nx ps).1.2=0:=Decidable.not_not.1 h;exact Prod.ext rfl e.symm
theorem RO{i:Nat}{hi:i<q.B.length}{r:Rt}{ts sB:f9}{z y:Nat}(ht:∀y,sb ts y->sb q.ts y\/z<=y)(a:sb (yM q i hi d ps r ts sB).ts y):sb q.ts y\/z<=y:=by
 unfold yM at a;split at a
 .exact .inl a
 .exact ht y a
set_option maxHeartbeats 4000000 in
theorem OZ(g:Dz X z h vp xp xg re s q U n)(hn:n<=200)(T:h[st]? =some (.cells #[.pointer (some ⟨vp,0,none⟩),.pointer (some ⟨xp,0,none⟩)] 43 (0,0))) (hX:X st)  {a:Y0} {K:Bool->eu}
  (hK:∀h' s' q' U',Evo s s'->Dz X z h' vp xp xg re s' q' U' (n+1)->Upd (DM s xg xp q) h h'->K true h'):
  eI 36 [gV st,.string b,.agg (El a).toArray] K h:=by
 refine cZ (ux (some ⟨st,0,none⟩) b a) BT Tryz.func36 Tryz.call36 ?_;dsimp only[ux,bh,tK,cP,iu,dH,nv,tD,wJ,uJ,qY,aai,qf,abt,gD,yI,sN,ou,px,nC,mE,ai,aF,ww,ee,nW,bq,BD,dC,cL,Iq,gj];have hL:q.L.length<=1024:=g.p.eL▸g.v.inv.few;have lt:=g.lt;have hnx:=g.v.inv.nx1;obtain⟨hd,ehd,hdv⟩:∃hd,(bE s.B b).getD 0=hd/\(hd=0\/hd∈dM s.L):=by
  refine⟨_,rfl,?_⟩;cases e:bE s.B b with
  |none=>exact .inl rfl
  |some v=>exact(g.p.hb _ ((g.p.nb.iff b v).1 e)).1
 refine aV λh1 b1 k1=>⟨_,rfl,_,vc (k1.get0 T) 0,iG (g.v.upd0 k1) b ⟨_,rfl,_,vc (k1.get0 T) 0,?_⟩⟩
 rw[ehd];have s1:=k1.size;refine Kf (g.v.upd0 k1) hdv λB hB V k9=>?_
 have k09:=k1.tr k9;have s9:=k09.size;refine aV λh10 b10 k10=>cy (c:=jJ wI) (vs:=jJ B.1) b10 rfl λh11 b11 u11=>?_
 have Y:Upd No h h11:=(k09.tr k10).own u11 s9;have s11:=Y.size;refine⟨_,rfl,_,vc (Y.get0 T) 1,?_⟩;obtain⟨xB,kB⟩:=g.base hB hdv;have z11:=bw b11;have G11:Rn (λy=>DW X s xg xp q y\/y=V.size) h11 xp xg s.kind s.x re q:=g.f.mv Y (λ_ h=>h.elim) (λy m=>⟨m.imp id λe=>a4,m.elim (λm=>aA (lt y m) s11) λe=>e▸z11⟩) λy m=>.inl (.inr (.inl m))
 refine LN G11 g.p.nd xB a4 (by have:=g.p.dl;omega) λt r jr k15=>?_
 have k015:=Y.tr k15;have s15:=k015.size;have z10:=bw b11;refine aV λh16 b16 k16=>cy (c:=uN Sf) (vs:=uN r) b16 rfl λh17 b17 u17=>?_
 have k017:Upd No h h17:=(k015.tr k16).own u17 s15;have k1117:Upd No h11 h17:=(k15.tr k16).own u17 k15.size;have s17:=k017.size;have z17:=bw b17;have s1511:=k15.size;refine ez (λe=>absurd e a7) λ_=>?_
 have c17:=(k9.tr ((k10.own u11 (aj _)).tr k1117)).get0 b1;refine⟨_,gL c17 6 0,_,gL c17 6 1,Wt (p:=(a.2.2.2.2.2.2.1,a.2.2.2.2.2.2.2.1)) λh21 k21=>?_⟩
 obtain⟨p,ep⟩:∃p,p=abd (a.2.2.2.2.2.2.1,a.2.2.2.2.2.2.2.1):=⟨_,rfl⟩;have hp1:p.1.size<=30:=ep▸H8 _;have hp2:p.2.size<=30:=ep▸H8 _;rw[<-ep];have s21:=k21.size;refine aV λh22 b22 k22=>cy (c:= [.string ⟨#[]⟩,.string ⟨#[]⟩]) (vs:= [.string p.1,.string p.2]) b22 rfl λL b23 u23=>?_
 have w:Upd No h17 L:=(k21.tr k22).own u23 s21;have k023:=k017.tr w;have s23:=k023.size;obtain⟨I,Z⟩:∃I:Nat->Prop,I=λy=>DW X s xg xp q y\/y=V.size\/y=t.size:=⟨_,rfl⟩
 have w1:∀y,I y->DW X s xg xp q y\/h.size<=y:=λy m=>by
  rw[Z]at m;exact m.imp id λm=>a4
 have w1':∀y,DW X s xg xp q y->I y:=λy m=>by rw[Z];exact .inl m
 have Q:∀y,I y->y<L.size:=λy m=>by
  rw[Z]at m;have:=w.size;rcases m with m|m|m
  .have:=lt y m;omega
  .omega
  .omega
 have tb:I V.size:=by rw[Z];exact .inr (.inl rfl)
 have rb:I t.size:=by rw[Z];exact .inr (.inr rfl)
 have i23:TreeIs I L s.kind s.x B.1 B.2:=(g.tree hB).re k023 (λ_ h=>h.elim) w1
 have j23:RefIs I L s.kind s.x r B.2:=by
  refine RefIs.re jr ((k16.own u17 (aj _)).tr w) (λ_ h=>h.elim) λy m=>?_
  rw[Z]at m;rcases m with m|m|m
  .exact .inl (.inl m)
  .exact .inl (.inr m)
  .exact .inr a4
 have u:=(k1117.tr w).get0 b11;have r23:=w.get0 b17;have a23:=w.get0 c17;have fB:=kB.few (aj _);have lB:B.2.length<=1000000:=by have:=fB.len;have:=g.p.ul;omega
 have ne:V.size≠t.size:=a4
 have a0:=bw b1;have nb9:h.size≠V.size:=by have:=k9.size;omega
 have nb15:h.size≠t.size:=a4
 refine eM (λ_ h'=>∃E F l',TreeIs I h' s.kind s.x E l'/\RefIs I h' s.kind s.x F l'/\Kin (p.1::U) l'/\h'[V.size]? =some (.cells (jJ E).toArray 50 (0,0))/\h'[t.size]? =some (.cells (uN F).toArray 129 (0,0))/\Upd (λy=>y=V.size\/y=t.size) L h') (λR hR=>?_) ?_
 .refine⟨_,vc a23 8,ez (λ_=>?_) λ_=>?_⟩
  .refine⟨_,vc u 0,_,vc u 1,_,vc u 2,_,vc u 3,_,vc u 4,_,vc u 5,_,vc b23 0,EJ i23 Q fB.up fB.fits lB p.1 a4 λh34 E i34 _ P=>cy (c:=jJ B.1) (vs:=jJ E) (P.get0 u) rfl λh35 b35 N=>?_⟩
   have A:=N.oth (P.get0 r23) ne.symm;have p35:=N.oth (P.get0 b23) a4;have kk:Upd (λy=>y=V.size\/y=t.size) L h35:=P.wide.tr (N.mono λy e=>.inl (.inl e))
   have hm:∀y,(y=V.size\/y=t.size)->I y\/L.size<=y:=λy m=>.inl (m.elim (λe=>e▸tb) λe=>e▸rb)
   refine⟨_,vc A 0,_,vc A 1,_,vc A 2,_,vc A 3,r.2.2.2.2,vc A 4,_,vc p35 0,N3 (j23.updM kk hm) (λy m=>aA (Q y m) kk.size) fB.up fB.fits lB p.1 a4 λh43 F e j43 O=>cy (c:=uN r) (vs:=uN F) (O.get0 A) rfl λh44 b44 H=>hR _ _ ?_⟩
   refine⟨E,F,_,((i34.updM N λy e=>.inl (by have e:y=V.size:=e;exact e▸tb)).upd0 O).updM H λy e=>.inl (by have e:y=t.size:=e;exact e▸rb),j43.updM H λy e=>.inl (by have e:y=t.size:=e;exact e▸rb),(kB.del p.1).more λy m=>ay _ m,H.oth (O.get0 b35) ne,b44,(kk.tr O.wide).tr (H.mono λy e=>.inl (.inr e))⟩
  .refine⟨_,vc u 0,_,vc u 1,_,vc u 2,_,vc u 3,_,vc u 4,_,vc u 5,_,vc b23 0,_,vc b23 1,B9 i23 Q fB.up lB p a4 a4 λh34 E i34 _ P=>cy (c:=jJ B.1) (vs:=jJ E) (P.get0 u) rfl λh35 b35 N=>?_⟩
   have A:=N.oth (P.get0 r23) ne.symm;have p35:=N.oth (P.get0 b23) a4;have kk:Upd (λy=>y=V.size\/y=t.size) L h35:=P.wide.tr (N.mono λy e=>.inl (.inl e))
   have hm:∀y,(y=V.size\/y=t.size)->I y\/L.size<=y:=λy m=>.inl (m.elim (λe=>e▸tb) λe=>e▸rb)
   refine⟨_,vc A 0,_,vc A 1,_,vc A 2,_,vc A 3,r.2.2.2.2,vc A 4,_,vc p35 0,_,vc p35 1,Vy (j23.updM kk hm) (λy m=>aA (Q y m) kk.size) fB.up lB p a4 a4 λh43 F j43 O=>cy (c:=uN r) (vs:=uN F) (O.get0 A) rfl λh44 b44 H=>hR _ _ ?_⟩
   refine⟨E,F,_,((i34.updM N λy e=>.inl (by have e:y=V.size:=e;exact e▸tb)).upd0 O).updM H λy e=>.inl (by have e:y=t.size:=e;exact e▸rb),j43.updM H λy e=>.inl (by have e:y=t.size:=e;exact e▸rb),kB.ins p hp1 hp2,H.oth (O.get0 b35) ne,b44,(kk.tr O.wide).tr (H.mono λy e=>.inl (.inr e))⟩
 rintro _ h67 ⟨E,F,l',i67,j67,kl67,C,br67,u67⟩;have s67:=u67.size;have a67:=u67.get a23 λe=>e.elim nb9 nb15
 have lt67:∀y,I y->y<h67.size:=λy m=>aA (Q y m) s67
 have k067:Upd No h h67:=k023.fresh u67 λy m=>a4
 refine eM (λ_ h'=>∃E F,((∃l',TreeIs I h' s.kind s.x E l'/\RefIs I h' s.kind s.x F l'/\Kin (p.1::U) l')\/(mS E s.e=false/\E3 F re=false))/\h'[V.size]? =some (.cells (jJ E).toArray 50 (0,0))/\h'[t.size]? =some (.cells (uN F).toArray 129 (0,0))/\Upd No h h') (λR hR=>⟨_,vc a67 0,a8,ez (λ_=>?_) λ_=>hR _ _ ⟨E,F,.inl ⟨l',i67,j67,kl67⟩,C,br67,k067⟩⟩) ?_
 .have et:E.1=s.kind:=by
   rcases i67 with⟨e,b,rfl,_⟩|⟨e,b,rfl,_⟩
   .exact e.symm
   .exact e.symm
  have er:F.1=s.kind:=by obtain⟨_,rfl,_⟩:=j67;rfl
  obtain⟨kd,ekd,hkd,hne⟩:∃kd,ac .i64 (1-s.kind)=kd/\(kd=0\/kd=1)/\kd≠s.kind:=by
   rcases g.v.kd with e|e
   .exact⟨1,by rw[e];decide,.inr rfl,a4⟩
   .exact⟨0,by rw[e];decide,.inl rfl,a4⟩
  refine⟨_,vc C 0,_,vc C 1,_,vc C 2,_,vc C 3,_,vc C 4,_,vc C 5,NK λh77 k77=>?_⟩
  rw[et,ekd];refine R0 (W:=I) (x:=⟨0,0,0⟩) (λy m=>aA (lt67 y m) k77.size) hkd λh79 t2 i79 k79=>cy (c:=jJ E) (vs:=jJ t2) ((k77.tr k79).get0 C) rfl λh80 b80 u80=>?_
  have r80:=u80.oth ((k77.tr k79).get0 br67) ne.symm;refine⟨_,vc r80 0,?_⟩;rw[er,ekd];refine Sk (W:=I) (x:=⟨0,0,0⟩) hkd λh83 r2 j83 k83=>cy (c:=uN F) (vs:=uN r2) (k83.get0 r80) rfl λh84 b84 u84=>hR _ _ ⟨t2,r2,.inr ⟨T4 i79 g.v.em hne,T3 j83 g.f.e hne⟩,u84.oth (k83.get0 b80) ne,b84,?_⟩
  exact((((k067.tr k77).tr k79).own u80 s9).tr k83).own u84 s15
 rintro _ h86 ⟨E,F,hc,bt,br,o⟩;have s86:=o.size;have v86:=g.v.upd0 o;have f86:=(g.upd0 o).f;refine⟨_,rfl,_,vc (o.get0 T) 0,_,vc bt 0,_,vc bt 1,_,vc bt 2,_,vc bt 3,_,vc bt 4,_,vc bt 5,?_⟩;have hnB:q.B.length<=1000:=by have:=g.p.bl;omega
 have same:∀h',Upd No h h'->K true h':=λh' k=>hK h' s q U (.names s.B s.G) ((g.upd0 k).more (j4 n)) k.wide
 cases eb:bE s.B b with
 |none=>
  refine NC v86 eb λh96 J=>⟨_,rfl,_,vc ((o.tr J).get0 T) 1,?_⟩
  have j:=J.get0 br;refine⟨_,vc j 0,_,vc j 1,_,vc j 2,_,vc j 3,F.2.2.2.2,vc j 4,Np (f86.upd0 J) hnB (g.p.nb.miss eb) λS k105=>aw.2 (same S ((o.tr J).tr k105))⟩
 |some hd'=>
  obtain⟨i,hi,ei,ev⟩:=g.p.nb.hit eb;have ehd':hd'=hd:=by rw[eb]at ehd;exact ehd
  rcases hc with⟨l',i86,j86,kl⟩|⟨lb,lr⟩
  .have f:=kl.few (aj _)
   have hw1:∀y,DW X s xg xp q y->I y\/h86.size<=y:=λy m=>.inl (w1' y m)
   refine AZ v86 b eb (d:=(E,l')) (i86.less hw1) f.up f.fits λh96 u96 v96=>⟨_,rfl,_,vc (u96.get (o.get0 T) λhm=>(g.xd _ hX).1 hm) 1,?_⟩
   have lM:∀y,s.M y->y<h.size:=λy m=>g.v.size m
   have j:=u96.get br λhm=>by have:=lM _ hm;omega
   have f96:=(g.upd0 o).f1 u96;refine⟨_,vc j 0,_,vc j 1,_,vc j 2,_,vc j 3,F.2.2.2.2,vc j 4,?_⟩;have hp0:0<=q.B[i].2:=by
    rcases(g.p.hb _ (aG hi)).1 with e|e
    .omega
    .have:=(g.v.inv.pos _ e).1;omega
   refine PB f96 (by rw[g.p.en];omega) a4 (by have:=g.f.n;have:=g.p.dl;omega) hnB hi g.p.nb.up ei hp0 (d:=(E,l')) ((j86.less hw1).updM u96 λy m=>.inl (.inl m)) λS ts sB u105 ht G=>?_
   rw[ev]at G⊢;obtain⟨D,ku⟩:=g.fin (o.wide.tr u96) v96 (.ver b (E,l') (nz [hd'])) u105 (λy m=>RO ht m) G (g.p.ver g.v.inv hi ei kl (λy m=>ay _ m) (by have:=g.p.ul;simp;omega))
   rw[g.p.eL,g.p.en,NA];refine ez (λ_=>?_) λe=>absurd e a7
   rw[beq_self_eq_true];exact hK S _ _ _ (.ver b (E,l') (nz [hd'])) D ku
  .refine ND v86 eb lb λh96 J=>⟨_,rfl,_,vc ((o.tr J).get0 T) 1,?_⟩
   have j:=J.get0 br;refine⟨_,vc j 0,_,vc j 1,_,vc j 2,_,vc j 3,F.2.2.2.2,vc j 4,Nq (f86.upd0 J) hnB hi ei lr λS k105=>aw.2 (same S ((o.tr J).tr k105))⟩
end
end
section
variable {K:Bool->eu}
set_option maxHeartbeats 1000000 in
theorem po{W W':eh}{h:ad}{a e:Int}{v k:f9}{l:List Cf}(H:Sl uQ 7 W h v l)(w:Sl uQ 7 W' h k l)(Q:l.length<=1000000)(N:∀h',Upd No h h'->K true h'):
  Join (λ(F:Bool) y=>
   fN F (
    K false y) (
    LoopP (λB (b:Int) d=>
     fN (decide (b<(v.len:Int))) (
      (((0:Int)<=b/\b<((v.len:Nat):Int))/\∃a76:Addr,v.a=some a76/\
       ∃v77:dO,aI d (adr (adr a76 (b.toNat*7)) 0)=some (.string v77)/\
       ∃v78:dO,aI d (adr (adr a76 (b.toNat*7)) 1)=some (.string v78)/\
       ∃v79:Bool,aI d (adr (adr a76 (b.toNat*7)) 2)=some (.bool v79)/\
       ∃v80:dO,aI d (adr (adr a76 (b.toNat*7)) 3)=some (.string v80)/\
       ∃v81:Bool,aI d (adr (adr a76 (b.toNat*7)) 4)=some (.bool v81)/\
       ∃v82:dO,aI d (adr (adr a76 (b.toNat*7)) 5)=some (.string v82)/\
       ∃v83:Bool,aI d (adr (adr a76 (b.toNat*7)) 6)=some (.bool v83)/\
       At (hnew d [.string (⟨#[]⟩:dO),.string (⟨#[]⟩:dO),.bool false,.string (⟨#[]⟩:dO),.bool false,.string (⟨#[]⟩:dO),.bool false] 86) (λx=>
        (qR x (some (aH d)) 0 [.string v77,.string v78,.bool v79,.string v80,.bool v81,.string v82,.bool v83]/\
         At (fu x (aH d) 0 [.string v77,.string v78,.bool v79,.string v80,.bool v81,.string v82,.bool v83]) (λf=>
          Join (λ(z:Bool) o=>
           fN z (
            K false o) (
            B (ac .i64 (b+1)) o)) (λm=>
           ∃v87:dO,aI f (adr (aH d) 0)=some (.string v87)/\
           (((0:Int)<=b/\b<((k.len:Nat):Int))/\∃a88:Addr,k.a=some a88/\
            ∃v89:dO,aI f (adr (adr a88 (b.toNat*7)) 0)=some (.string v89)/\
            fN (!(v87.toList==v89.toList)) (
             m true f) (
             ∃v90:dO,aI f (adr (adr (aH d) 1) 0)=some (.string v90)/\
             ∃v91:Bool,aI f (adr (adr (aH d) 1) 1)=some (.bool v91)/\
             (((0:Int)<=b/\b<((k.len:Nat):Int))/\∃a92:Addr,k.a=some a92/\
              ∃v93:dO,aI f (adr (adr (adr a92 (b.toNat*7)) 1) 0)=some (.string v93)/\
              ∃v94:Bool,aI f (adr (adr (adr a92 (b.toNat*7)) 1) 1)=some (.bool v94)/\
              fN (!(((v90.toList==v93.toList)&&((v91==v94)&&true)))) (
               m true f) (
               ∃v95:dO,aI f (adr (adr (aH d) 3) 0)=some (.string v95)/\
               ∃v96:Bool,aI f (adr (adr (aH d) 3) 1)=some (.bool v96)/\
               (((0:Int)<=b/\b<((k.len:Nat):Int))/\∃a97:Addr,k.a=some a97/\
                ∃v98:dO,aI f (adr (adr (adr a97 (b.toNat*7)) 3) 0)=some (.string v98)/\
                ∃v99:Bool,aI f (adr (adr (adr a97 (b.toNat*7)) 3) 1)=some (.bool v99)/\
                fN (!(((v95.toList==v98.toList)&&((v96==v99)&&true)))) (
                 m true f) (
                 ∃v100:dO,aI f (adr (adr (aH d) 5) 0)=some (.string v100)/\
                 ∃v101:Bool,aI f (adr (adr (aH d) 5) 1)=some (.bool v101)/\
                 (((0:Int)<=b/\b<((k.len:Nat):Int))/\∃a102:Addr,k.a=some a102/\
                  ∃v103:dO,aI f (adr (adr (adr a102 (b.toNat*7)) 5) 0)=some (.string v103)/\
                  ∃v104:Bool,aI f (adr (adr (adr a102 (b.toNat*7)) 5) 1)=some (.bool v104)/\
                  m (!(((v100.toList==v103.toList)&&((v101==v104)&&true)))) f))))))))))))) (
      K true d)) 0 y)) (λq=>
   fN (a !=a) (
    q true h) (
    fN (e !=e) (
     q true h) (
     q ((v.len:Int) !=(k.len:Int)) h))):=by
 have P:=H.len;have O:=w.len;refine eM (λt h'=>t=false/\h'=h) (λR D=>ez (λe=>absurd e a7) λ_=>ez (λe=>absurd e a7) λ_=>D _ _ ⟨by rw[P,O];simp,rfl⟩) ?_
 rintro t h' ⟨rfl,C⟩;rw[C];refine ag.2 (eF (λ(i:Nat) (t:Int) h'=>t=(i:Int)/\i<=l.length/\Upd No h h') (λi=>l.length-i) 0 ⟨rfl,aK _,eQ _ _⟩ ?_)
 rintro I i t h' ⟨rfl,hi,A⟩ J;refine aq (λj=>?_) λ_=>N _ A
 have j:i<l.length:=a4
 obtain⟨a,L,_,hv⟩:=(H.upd A λ_ h=>h.elim).at (af j)
 have u:=w.upd A λ_ h=>h.elim
 refine⟨⟨a4,a4⟩,a,L,_,hv 0 _ rfl,_,hv 1 _ rfl,_,hv 2 _ rfl,_,hv 3 _ rfl,_,hv 4 _ rfl,_,hv 5 _ rfl,_,hv 6 _ rfl,?_⟩
 refine aaJ (c:=l[i]) λE g s=>?_
 obtain⟨a',n,_,p⟩:=(u.upd s λ_ h=>h.elim).at (af j)
 generalize l[i]=c at g p⊢;refine eM (λt G=>t=false/\G=E) (λR D=>?_) ?_
 .refine⟨c.1,vc g 0,⟨a4,a4⟩,a',n,c.1,p 0 _ rfl,?_⟩
  rw[dV,decide_eq_true rfl];refine ag.2 ⟨c.2.1.1,gL g 1 0,c.2.1.2,gL g 1 1,⟨a4,a4⟩,a',n,c.2.1.1,by rw[oJ];exact p 1 _ rfl,c.2.1.2,by rw[oJ];exact p 2 _ rfl,?_⟩
  rw[L9 c.2.1 c.2.1,decide_eq_true rfl];refine ag.2 ⟨c.2.2.1.1,gL g 3 0,c.2.2.1.2,gL g 3 1,⟨a4,a4⟩,a',n,c.2.2.1.1,by rw[oJ];exact p 3 _ rfl,c.2.2.1.2,by rw[oJ];exact p 4 _ rfl,?_⟩
  rw[L9 c.2.2.1 c.2.2.1,decide_eq_true rfl];refine ag.2 ⟨c.2.2.2.1,gL g 5 0,c.2.2.2.2,gL g 5 1,⟨a4,a4⟩,a',n,c.2.2.2.1,by rw[oJ];exact p 5 _ rfl,c.2.2.2.2,by rw[oJ];exact p 6 _ rfl,?_⟩
  rw[L9 c.2.2.2 c.2.2.2,decide_eq_true rfl];exact D _ _ ⟨rfl,rfl⟩
 .rintro t G ⟨rfl,C⟩
  rw[C];refine ag.2 ?_;rw[cf j a4];exact J (i+1) _ _ ⟨rfl,j,A.tr s⟩ a4
theorem OY{B O T:bY}{p:Int}(a:bO B)(b:bO T):(oW B O T p).length<=B.length+T.length:=by
 unfold oW F5;exact aQ (bP ..) (by rw[bS];exact sZ a b)
section
variable {X:eh} {h:ad} {z vp xp xg st:Nat} {re:Rt} {s:VS} {q:RS} {U:List dO} {n:Nat}
set_option maxHeartbeats 4000000 in
theorem Yw(g:Dz X z h vp xp xg re s q U n)(hn:n<=200)(hst:h[st]? =some (.cells #[.pointer (some ⟨vp,0,none⟩),.pointer (some ⟨xp,0,none⟩)] 43 (0,0))) (hX:X st) {a:Y0} (ha:0<=a.2.2.2.1) (hb:0<=a.2.2.2.2.1) 
  (hK:∀h' s' q' U',Evo s s'->Dz X z h' vp xp xg re s' q' U' (n+1)->Upd (DM s xg xp q) h h'->K true h'):
  eI 6 [gV st,.agg (El a).toArray] K h:=by
 refine cZ (zE (some ⟨st,0,none⟩) a) Ji Tryz.func6 Tryz.call6 ?_;dsimp only[zE,bh,tK,iw,dC,cP,bq,nv,abp,UR,Zk,UQ,abt,abA,gD,FK,FQ,jz,fE,zo,fL,BD,cL,UB,Iq,gj,YR,iu];have hL:q.L.length<=100000:=by have:=g.p.eL▸g.v.inv.few;omega
 have gd:Good q.L:=g.p.eL▸g.v.inv.good;have lM:∀y,s.M y->y<h.size:=λy hy=>g.v.size hy
 have x:q.B.length<=1000:=by have:=g.p.bl;omega
 have hnT:q.T.length<=1000:=by have:=g.p.tl;omega
 have hbm:s.M s.bm:=.inr (.inr (.inr (.inl rfl)));have hnm:s.M s.nm:=.inr (.inr (.inr (.inr rfl)));refine aV λh1 b1 k1=>⟨_,vc b1 1,_,vc b1 3,_,vc b1 2,_,vc b1 4,KH ha λh7 m1 hm1 k7=>⟨vc (k7.get0 b1) 4,vc (k7.get0 b1) 2,KH hb λh9 m2 hm2 k9=>?_⟩⟩
 have Z:=(k1.tr k7).tr k9;have C:=k9.get0 (k7.get0 b1);have b:=Z.get0 hst;have f:=g.upd0 Z;have s9:=Z.size;have V:∀{M:eh} {h':ad},Upd M h9 h'->(∀y,M y->s.M y)->h'[st]? =some (.cells #[.pointer (some ⟨vp,0,none⟩),.pointer (some ⟨xp,0,none⟩)] 43 (0,0)):=λu hM=>u.get b λhm=>(g.xd _ hX).1 (hM _ hm)
 have aM:∀{M:eh} {h':ad},Upd M h9 h'->(∀y,M y->s.M y)->h'[h.size]? =some (.cells (El a).toArray 37 (0,0)):=λu hM=>u.get C λhm=>by have:=lM _ (hM _ hm);omega
 have fin:∀{h1 h2 s' q'},Upd s.M h9 h1->VaultAt (DW X s xg xp q) h1 vp s'->Evo s s'->Upd (RW xg xp q) h1 h2->q'.ts=q.ts->Rn (DW X s xg xp q) h2 xp xg s.kind s.x re q'->Dp s' q' U (n+1)->K true h2:=λu1 v1 e u2 ht G p=>by
  obtain⟨D,ku⟩:=f.fin0 u1 v1 e u2 ht G p;exact hK _ _ _ _ e D (Z.wide.tr ku)
 have bmU:∀{h'},Upd (· =s.bm) h9 h'->Upd s.M h9 h':=λu=>u.mono λy (e:y=s.bm)=>.inl (e▸hbm)
 have nmU:∀{h'},Upd (· =s.nm) h9 h'->Upd s.M h9 h':=λu=>u.mono λy (e:y=s.nm)=>.inl (e▸hnm)
 have xpU:∀{h1 h2},Upd (· =xp) h1 h2->Upd (RW xg xp q) h1 h2:=λu=>u.mono λy (e:y=xp)=>.inl (.inr (.inl e))
 have mm:∀y,s.M y->s.M y:=λ_ h=>h
 have zz:∀{h'},Upd No h9 h'->K true h':=λk=>hK _ s q U (.names s.B s.G) ((f.upd0 k).more (j4 n)) (Z.tr k).wide
 have same:∀{h1 h2},Upd No h9 h1->Upd (· =xp) h1 h2->Rn (DW X s xg xp q) h2 xp xg s.kind s.x re q->K true h2:=λk u G=>fin (s':=s) (q':=q) k.wide (f.v.upd0 k) (.names s.B s.G) (xpU u) (by rfl) G (g.p.more (j4 n))
 refine⟨_,vc C 0,a8,ez (λ_=>?_) λ_=>ez (λ_=>?_) λ_=>ez (λ_=>?_) λ_=>ez (λ_=>?_) λ_=>ez (λ_=>?_) λ_=>?_⟩
 .
  refine⟨_,rfl,_,vc b 0,_,vc C 5,_,rfl,_,vc b 1,_,vc C 5,AY f.v m1 _ λh18 H S=>?_⟩
  have o:=bmU H;refine⟨vc (aM o mm) 5,vc (V o mm) 1,PA (f.f1 o) hL x (λp hp=>(g.p.hb p hp).2) hm1 g.p.nb λL s' F G=>?_⟩
  have:=fin o S (.names _ s.G) (xpU F) (by rfl) G (g.p.create hm1);rw[g.p.eL,beq_self_eq_true];exact this
 .
  refine⟨_,rfl,_,vc b 0,_,rfl,_,vc b 1,PN f.v (λe h18 H S=>?_) λe=>?_⟩
  .have o:=bmU H
   refine⟨vc (V o mm) 1,GF (f.f1 o) x (λi hi I L s' F G=>fin o S (.names _ s.G) (xpU F) (by rfl) G (g.p.remove hi I)) λhno=>?_⟩
   rw[g.p.nb.no hno]at e;cases e
  .refine⟨vc b 1,GF f.f x (λi hi I=>?_) λ_ L F G=>same (eQ _ _) F G⟩
   rw[<-I,g.p.nb.at hi]at e;cases e
 .
  refine⟨_,rfl,_,vc b 0,_,vc C 5,_,rfl,_,vc b 1,_,vc C 5,XK f.v λh18 H S=>?_⟩
  have o:=nmU H;refine⟨vc (aM o mm) 5,vc (V o mm) 1,Xz (f.f1 o) hL hnT (λp hp=>(g.p.ht p hp).2) hm1 g.p.ng λL s' F G=>?_⟩
  have:=fin o S (.names s.B _) (xpU F) (by rfl) G (g.p.tag hm1);rw[g.p.eL,beq_self_eq_true];exact this
 .
  refine⟨_,rfl,_,vc b 0,_,rfl,_,vc b 1,Tg f.v (λe h18 H S=>?_) λe=>?_⟩
  .have o:=nmU H
   refine⟨vc (V o mm) 1,Kc (f.f1 o) hnT (λi hi I L s' F G=>fin o S (.names s.B _) (xpU F) (by rfl) G (g.p.untag hi I)) λhno=>?_⟩
   rw[g.p.ng.no hno]at e;cases e
  .refine⟨vc b 1,Kc f.f hnT (λi hi I=>?_) λ_ L F G=>same (eQ _ _) F G⟩
   rw[<-I,g.p.ng.at hi]at e;cases e
 .
  refine⟨_,rfl,_,vc b 0,_,vc C 5,_,rfl,_,vc b 1,_,vc C 5,Jq f.v (λe h18 A=>?_) (λhd e hv h18 A=>?_) (λhd e hv hu h18 A=>?_) λhd e hv hu h18 H S=>?_⟩
  .exact⟨vc (A.get0 C) 5,vc (A.get0 b) 1,Jk (f.upd0 A).f x (g.p.nb.miss e) λL k20=>zz (A.tr k20)⟩
  .obtain⟨i,hi,I,ev⟩:=g.p.nb.hit e
   exact⟨vc (A.get0 C) 5,vc (A.get0 b) 1,xE (f.upd0 A).f gd hL x hi g.p.nb.up I (λ_ L k20=>zz (A.tr k20)) (λh=>absurd (g.p.eL▸h) hv) λh=>absurd (g.p.eL▸h) hv⟩
  .obtain⟨i,hi,I,ev⟩:=g.p.nb.hit e
   exact⟨vc (A.get0 C) 5,vc (A.get0 b) 1,xE (f.upd0 A).f gd hL x hi g.p.nb.up I (λh=>absurd hv (g.p.eL▸h)) (λ_ _ L k20=>zz (A.tr k20)) λ_ h=>absurd (by rw[g.p.eL,ev]at h;exact h) hu⟩
  .obtain⟨i,hi,I,ev⟩:=g.p.nb.hit e
   exact⟨vc (aM H mm) 5,vc (V H mm) 1,xE (f.f1 H) gd hL x hi g.p.nb.up I (λh=>absurd hv (g.p.eL▸h)) (λ_ h=>absurd (by rw[g.p.eL,ev];exact hu) h) λ_ _ L s' F G=>fin H S (.names _ s.G) (xpU F) (by rfl) G (g.p.head hi I hv)⟩
 .
  refine eM (λ_ h'=>h'=h9) (λR hR=>ez (λ_=>hR _ _ rfl) λ_=>hR _ _ rfl) ?_
  rintro t h59 e59;rw[e59];refine ez (λ_=>?_) λ_=>ez (λ_=>?_) λ_=>?_
  .
   refine⟨_,rfl,_,vc b 0,_,vc C 9,?_⟩;obtain⟨p,ep⟩:∃p,p=a.2.2.2.2.2.2.2.2.2:=⟨_,rfl⟩;have a9p:∀{h'},h'[h.size]? =some (.cells (El a).toArray 37 (0,0))->aI h' (adr (aH h) 9)=some (.int .i64 p):=λe=>by rw[ep];exact vc e 9
   rw[<-ep];have hD:q.D.length<=100000:=by have:=g.p.dl;omega
   have hnx:0<=q.nx:=by have:=g.v.inv.nx1;rw[g.p.en];omega
   have nil:∀{h'},Sl uQ 7 No h' ⟨none,0,0⟩ []:=Sl.nil MV;cases e1:bE s.B m1 with
   |none=>exact GU f.v (.inl e1) ⟨_,rfl,_,vc b 1,_,a9p C,GG f.f x (.inl (g.p.nb.miss e1)) λh69 J=>po (l:= []) nil nil a7 λh k=>zz (J.tr k)⟩
   |some va=>
   cases e2:bE s.B m2 with
   |none=>exact GU f.v (.inr e2) ⟨_,rfl,_,vc b 1,_,a9p C,GG f.f x (.inr (g.p.nb.miss e2)) λh69 J=>po (l:= []) nil nil a7 λh k=>zz (J.tr k)⟩
   |some vb=>
   obtain⟨i,hi,I,ev⟩:=g.p.nb.hit e1;obtain⟨j,hj,ej,ew⟩:=g.p.nb.hit e2;have c1:(q.B[j].2=0\/UpG q.L q.B[i].2 q.B[j].2)↔(vb=0\/UpG s.L va vb):=by rw[g.p.eL,ev,ew]
   have c2:(q.B[i].2=0\/UpG q.L q.B[j].2 q.B[i].2)↔(va=0\/UpG s.L vb va):=by rw[g.p.eL,ev,ew]
   by_cases Y:p<0\/3<p
   .exact PP f.v e1 e2 Y ⟨_,rfl,_,vc b 1,_,a9p C,wL f.f g.v.kd gd hnx g.p.nd hL hD x hi hj g.p.nb.up I ej (λ_ h69 J=>po (l:= []) nil nil a7 λh k=>zz (J.tr k)) (λ_ _=>absurd Y a4) (λ_ _=>absurd Y a4) λ_ _=>absurd Y a4⟩
   have p0:0<=p:=a4
   have p3:p<=3:=a4
   have hnm':((EY p).toList==(⟨#[]⟩:dO).toList)=false:=by rw[dV,decide_eq_false (Bo p0 p3)]
   by_cases f1:vb=0\/UpG s.L va vb
   .refine AX f.v e1 e2 hnm' (.inl f1) (λ_ h64 P=>⟨_,rfl,_,vc (P.get0 b) 1,_,a9p (P.get0 C),wL (f.upd0 P).f g.v.kd gd hnx g.p.nd hL hD x hi hj g.p.nb.up I ej (λh=>absurd h Y) (λ_ _ _ h69 J=>?_) (λ_ _ h=>absurd (c1.2 f1) h) λ_ _ h=>absurd (c1.2 f1) h⟩) λh=>absurd f1 h
    rw[ev];exact po (l:= []) nil nil a7 λh k=>zz ((P.tr J).tr k)
   by_cases f2:va=0\/UpG s.L vb va
   .refine AX f.v e1 e2 hnm' (.inr f2) (λh=>absurd h f1) λ_ h64 Q v64=>⟨_,rfl,_,vc (V Q mm) 1,_,a9p (aM Q mm),wL (f.f1 Q) g.v.kd gd hnx g.p.nd hL hD x hi hj g.p.nb.up I ej (λh=>absurd h Y) (λ_ _ h=>absurd (c1.1 h) f1) (λ_ _ _ _ h69 s' u69 G=>?_) λ_ _ _ h=>absurd (c2.2 f2) h⟩
    rw[ew]at G⊢;refine po (l:= []) nil nil a7 λh2 k2=>?_
    have hv:vb=0\/vb∈dM s.L:=ew▸(g.p.hb _ (aG hj)).1;obtain⟨D,ku⟩:=f.fin0 Q v64 (.names _ s.G) (xpU u69) (by rfl) G (g.p.head hi I hv);exact hK _ _ _ _ (.names _ s.G) (D.upd0 k2) (Z.wide.tr (ku.tr k2.wide))
   have na:va≠0:=λe=>f2 (.inl e)
   have nb:vb≠0:=λe=>f1 (.inl e)
   have ma:va∈dM s.L:=(ev▸(g.p.hb _ (aG hi)).1:va=0\/va∈dM s.L).resolve_left na;have mb:vb∈dM s.L:=(ew▸(g.p.hb _ (aG hj)).1:vb=0\/vb∈dM s.L).resolve_left nb;have get:∀{id},id∈dM s.L->∃d,bE s.D id=some d:=λ{id} hm=>by
    cases e:bE s.D id with
    |none=>exact absurd ((g.v.sub id).2 hm) (dJ.1 e)
    |some d=>exact⟨d,rfl⟩
   obtain⟨O,hO⟩:=get ma;obtain⟨T,hT⟩:=get mb;have E:=g.p.ul;obtain⟨xO,kO⟩:=g.base (.inr ⟨na,hO⟩) (.inr ma);obtain⟨xT,kT⟩:=g.base (.inr ⟨nb,hT⟩) (.inr mb);have metQ:∀{w},Met s.L va vb w->Met q.L q.B[i].2 q.B[j].2 w:=λm=>by rw[g.p.eL,ev,ew];exact m
   have bs:∀{w B},Met s.L va vb w->ya s w B->LJ q w B/\Kin U B.2:=λm hB=>g.base hB (m.2.1.imp (λh=>h) λh=>h.1.right)
   refine PO f.v e1 e2 p0 p3 f1 f2 hO hT (N:=n) a4 (λd hd=>(g.p.kin d (g.p.ed d hd)).few E) (λw B m hB=>⟨abb ((bs m hB).2.few E) (kT.few E) a4 a4,λc _=>aaB _ _⟩) (λw B m hB e0 hne h64 s1 o1 P=>?_) λw B m hB hc h64 t1 s1 o1 Q v64=>?_
   .refine⟨_,rfl,_,vc (P.get0 b) 1,_,a9p (P.get0 C),wL (f.upd0 P).f g.v.kd gd hnx g.p.nd hL hD x hi hj g.p.nb.up I ej (λh=>absurd h Y) (λ_ _ h=>absurd (c1.1 h) f1) (λ_ _ _ h=>absurd (c2.1 h) f2) λ_ _ _ _=>⟨w,B,O,T,n,wI,metQ m,(bs m hB).1,ev.symm▸xO,ew.symm▸xT,(bs m hB).2.few E,kO.few E,kT.few E,a4,λ_ _ h69 s2 o2 J=>?_,λh=>absurd (h e0) hne⟩⟩
    exact po ((o1.upd J λ_ _ h=>h).sl (W:=No) λ_ _ _ h=>h) o2 (by rw[bS];exact by have:=OY (O:=O.2) (p:=p) (bs m hB).2.up kT.up;have:=((bs m hB).2.few E).len;have:=(kT.few E).len;omega) λh k=>zz ((P.tr J).tr k)
   .have kml:Kin U (ji B.2 O.2 T.2 p):=(bs m hB).2.merge kO kT p
    refine⟨_,rfl,_,vc (V Q mm) 1,_,a9p (aM Q mm),wL (f.f1 Q) g.v.kd gd hnx g.p.nd hL hD x hi hj g.p.nb.up I ej (λh=>absurd h Y) (λ_ _ h=>absurd (c1.1 h) f1) (λ_ _ _ h=>absurd (c2.1 h) f2) λ_ _ _ _=>⟨w,B,O,T,n,t1,metQ m,(bs m hB).1,ev.symm▸xO,ew.symm▸xT,(bs m hB).2.few E,kO.few E,kT.few E,a4,λe0 hne=>absurd (hc e0) hne,λ_ h69 r2 s2 ts sB o2 u69 ht G=>?_⟩⟩
    rw[ev,ew]at G⊢;rw[g.p.eL,g.p.en,NA];obtain⟨D,ku⟩:=f.fin Q v64 (.ver m1 (t1,ji B.2 O.2 T.2 p) (nz [va,vb])) u69 (λy hy=>RO ht hy) G (g.p.ver g.v.inv hi I kml (λy hy=>hy) a4)
    have en:∀h2,Upd No h69 h2->K true h2:=λh2 k2=>hK _ _ _ _ (.ver m1 (t1,ji B.2 O.2 T.2 p) (nz [va,vb])) (D.upd0 k2) (Z.wide.tr (ku.tr k2.wide))
    have o1':=o1.upd u69 λy hy hr=>absurd (f.lt y (.inr (.inl hr))) (df.2 hy)
    by_cases e0:(fF s.L s.nx (nz [va,vb])).1.2=0
    .rw[if_pos e0,if_pos e0]
     exact po (o1'.sl (W:=No) λ_ _ _ h=>h) o2 (by rw[bS];exact by have:=OY (O:=O.2) (p:=p) (bs m hB).2.up kT.up;have:=((bs m hB).2.few E).len;have:=(kT.few E).len;omega) en
    .rw[if_neg e0,if_neg e0]
     exact po (l:= []) nil nil a7 en
  .
   refine⟨_,rfl,_,vc b 0,_,rfl,_,vc b 1,Ti f.v g.p.nb g.p.ng (by have:=g.p.bl;omega) (by have:=g.p.tl;omega) λh112 s1 st1 hst1 o1 v1 u1=>⟨vc (V u1 mm) 1,Td (f.f1 u1) gd (by have:=g.p.bl;omega) (by have:=g.p.tl;omega) λh114 s2 st2 hst2 o2 G u2=>?_⟩⟩
   have est:∀y,y∈st2↔y∈st1:=λy=>by rw[hst1,hst2,g.p.eL]
   have exg:=g.lt xg (.inr (.inl (.inl rfl)));have o1':=o1.upd u2 λy hy e=>by have e:y=xg:=e;omega
   have e1:((dM q.L).filter λy=> !decide (y∈st2))=(dM s.L).filter λy=> !decide (y∈st1):=by
    rw[g.p.eL];exact eY λy _=>by simp only[est]
   have e2:(q.L.filter λv=>decide (v.1∈st2))=q.L.filter λv=>decide (v.1∈st1):=eY λy _=>by simp only[est]
   rw[e1]at o2;rw[e2]at G;refine OT (o1'.sl (W:=No) λ_ _ _ h=>h) o2 (aQ (bP ..) (by rw[bS,<-g.p.eL];omega)) ?_
   rw[decide_eq_true rfl];exact fin u1 v1 (.prune st1) (u2.mono λy (e:y=xg)=>.inl (.inl e)) (by rfl) G (g.p.prune hst1)
  .refine⟨_,vc C 0,_,vc C 1,_,vc C 2,_,vc C 3,_,vc C 4,_,vc C 5,_,vc C 6,_,vc C 7,_,vc C 8,_,vc C 9,?_⟩
   exact OZ (a:=a) f hn b hX λh' s' q' U' e D k=>hK h' s' q' U' e D (Z.wide.tr k)
end
end
section
variable {x:Hs}{h:ad}{kind:Int}
theorem Ql(m:kind=0\/kind=1){K:aT×Int->eu}(v:∀h' re xg xp,RefIs No h' kind x re []->h'[xg]? =some (.cells #[.slice none 0 0,.int .u32 1] 135 (0,0))->h'[xp]? =some (.cells (uN re++ [Value.pointer (some ⟨xg,0,none⟩),.slice none 0 0,.slice none 0 0,.slice none 0 0]).toArray 139 (0,0))->h.size<=xg->xg<xp->Upd No h h'->K (some ⟨xp,0,none⟩,0) h'):
  aa4 21 [.int .i64 kind,.agg #[.int .u64 x.k0,.int .u64 x.k1,.int .u64 x.mask]] K h:=by
 refine cZ (Lx kind (x.k0,x.k1,x.mask)) .nil Tryz.func21 Tryz.call21 ?_;dsimp only[Lx,nv,Cj,yi,sN,ou,ww,bh,ai,ee,li];refine aV λy b1 k1=>⟨_,vc b1 0,_,vc b1 1,_,vc b1 2,?_⟩
 refine Sk (W:=No) (x:=x) m λu r p s=>?_
 refine aV λw q t=>cy (c:=uN Sf) (vs:=uN r) q rfl λo b n=>ag.2 ⟨_,vc b 0,_,vc b 1,_,vc b 2,_,vc b 3,r.2.2.2.2,vc b 4,?_⟩
 have g:Upd No u o:=t.own n (aj _);have d:=(k1.tr s).tr g;refine aV λi f e=>aV λj k a=>v j r o.size i.size (p.upd0 ((g.tr e).tr a)) (a.get0 f) k d.size (bw f) ((d.tr e).tr a)
theorem Qz(m:kind=0\/kind=1){K:aT->eu}
  (Q:∀h' st o g n re s q,s.kind=kind->s.x=x->Dz (· =st) h.size h' o g n re s q [] 0->h'[st]? =some (.cells #[.pointer (some ⟨o,0,none⟩),.pointer (some ⟨g,0,none⟩)] 43 (0,0))->h.size<=st->s.L= []->Upd No h h'->K (some ⟨st,0,none⟩) h'):
  fx 5 [.int .i64 kind,.agg #[.int .u64 x.k0,.int .u64 x.k1,.int .u64 x.mask]] K h:=by
 refine cZ (Jb kind (x.k0,x.k1,x.mask)) RG Tryz.func5 Tryz.call5 ?_;dsimp only[Jb,Cj,yi,abu,yD,li,ai];refine aV λB b1 k1=>⟨_,vc b1 0,_,vc b1 1,_,vc b1 2,?_⟩
 have T:=k1.size;refine RP (W:=No) (x:=x) (λ_ h=>h.elim) m λD o gp gm tm bm nm t v V P u=>?_
 have w:=u.get0 b1;refine⟨_,vc w 0,_,vc w 1,_,vc w 2,?_⟩;refine VH λN j=>Ql (x:=x) m λb re n g O G C X H f=>?_
 refine fo (ag.2 (ag.2 (aV λz k c=>?_)))
 have d:=(j.tr f).tr c;have U:=u.size;have I:=j.size;have R:=bw C;have L:=c.size;have S:=bw k;have hM:∀y,VS.M ⟨gp,gm,tm,bm,nm,kind,x,t,[],1,[],[],[]⟩ y->B.size<=y/\y<D.size:=λy a=>⟨P y a,v.size a⟩
 obtain⟨F,A,E,J⟩:=O;have e:∀y,RW n g ⟨[],1,[],[],⟨none,0,0⟩,⟨none,0,0⟩,⟨none,0,0⟩,[],[]⟩ y->D.size<=y/\y<b.size:=λy a=>by
  rcases a with rfl|rfl|a
  .omega
  .omega
  .exact absurd a (Vq y)
 refine Q z b.size o g n re ⟨gp,gm,tm,bm,nm,kind,x,t,[],1,[],[],[]⟩ ⟨[],1,[],[],⟨none,0,0⟩,⟨none,0,0⟩,⟨none,0,0⟩,[],[]⟩ rfl rfl ⟨v.re d (λ_ h=>h.elim) (λy a=>?_) λ_=>.inl,?_,λy a p=>?_,λy a=>?_,?_,λy a=>?_⟩ k (by have:=f.size;omega) rfl ((k1.tr u).tr d)
 .rcases a with a|a|a
  .exact⟨.inl (.inr a),by have:=hM y a;omega⟩
  .exact⟨.inr (e y a).1,by have:=e y a;omega⟩
  .have a:y=b.size:=a
   exact⟨.inr a4,a4⟩
 .refine⟨⟨⟨⟨none,0,0⟩,_,[],c.get0 G,Sl.nil Nz,trivial,aj _⟩,.inr (.inl (.inl rfl)),λy a=>?_⟩,.inr (.inl (.inr (.inl rfl))),a4,c.get0 C,⟨F,A,⟨E.len,E.ne,λh=>absurd rfl h⟩,J⟩,OwnS.nil XP,λy a=>absurd a (Vq y),Sl.nil tN,aj _,Sl.nil tN,aj _,rfl,λi B _=>by cases B⟩
  rcases a with a|a|a
  .have:=hM y a;omega
  .have:=e y a;omega
  .have a:y=b.size:=a
   omega
 .have:=hM y a;have:=e y p;omega
 .have a:y=b.size:=a
  exact⟨λhm=>by have:=hM y hm;omega,λp=>by have:=e y p;omega⟩
 .exact⟨rfl,rfl,.nil,.nil,λ_ h=>(by cases h),cq,λ_ h=>(by cases h),λ_ h=>(by cases h),aK _,aK _,λ_ h=>(by cases h),λ_ h=>(by cases h),aK _,aK _⟩
 .rcases a with a|a
  .have:=hM y a;omega
  .have:=e y a;omega
theorem ZJ{a:Y0}{k:eu}(e:∀h',h'[h.size]? =some (.cells (El a).toArray 37 (0,0))->Upd No h h'->k h'):
  At (hnew h [.int .u8 0,.string (⟨#[]⟩:dO),.string (⟨#[]⟩:dO),.int .u8 0,.int .u8 0,.int .u32 0,.string (⟨#[]⟩:dO),.string (⟨#[]⟩:dO),.bool false,.int .i64 0] 37) λb=>qR b (some (aH h)) 0 (El a)/\At (fu b (aH h) 0 (El a)) k:=
 aV λ_ j d=>cy (c:= [.int .u8 0,.string ⟨#[]⟩,.string ⟨#[]⟩,.int .u8 0,.int .u8 0,.int .u32 0,.string ⟨#[]⟩,.string ⟨#[]⟩,.bool false,.int .i64 0]) (vs:=El a) j rfl λi f g=>e i f (d.own g (aj _))
theorem YO(a:Y0):(El a).length=10/\0<10:=⟨rfl,a4⟩
theorem UpG.keep{L:de}{st:List Int}{a b:Int}(u:UpG L a b):(∀z,UpG L a z->z∈st)->UpG (L.filter λv=>decide (v.1∈st)) a b:=by
 have mem:∀{a},a∈dM L->a∈st->a∈dM (L.filter λv=>decide (v.1∈st)):=λ{a} h c=>by
  obtain⟨v,hv,e⟩:=aR.1 h;exact aR.2 ⟨v,bL.2 ⟨hv,decide_eq_true (e▸c)⟩,e⟩
 induction u with
 |refl h=>exact λc=>.refl (mem h (c _ (.refl h)))
 |step h hp u ih=>
  rename_i a p b;intro c;have d:=c _ (.refl h);refine .step (p:=p) (mem h d) ?_ (ih λz f=>c z (.step h hp f))
  unfold parV at hp⊢;rw[pM (λj=>decide (j∈st)),if_pos (decide_eq_true d)]
  exact hp
end
end Go.Proofs
