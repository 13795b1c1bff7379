/- A part of the proof that the named laws of this program answer true, whatever the input. -/
import Derived.Test.YtakmnggbneeicaaGreatDoorPart2
import Derived.Test.YtakmnggbneeicaaGreatDoorPart0
open Array renaming length_toList->d9
open Bool renaming and_eq_true->bA
open ByteArray renaming mk->lz
open Classical renaming byContradiction->nX
open Go.IntKind renaming wrap->ac
open Go.Op renaming bytesLess->bM
open Iff renaming rfl->tu
open Int renaming toNat_natCast->bi
open List renaming getElem?_eq_getElem->af,getElem?_eq_none->mh,cons->gi,append_nil->aX,append_assoc->ao,length_append->ae,flatMap_cons->aN,map_append->cF,map_map->iR,mem_map->aR,take_append_drop->bK,flatMap_append->bU,flatMap_nil->jf,mem_cons->au,length_cons->ar,map_nil->fj,length_nil->bC,not_mem_nil->dL,getElem_cons_zero->dR,mem_cons_self->al,pairwise_cons->aC,sublist_cons_self->lq,mem_cons_of_mem->ay,cons_append->cG,pairwise_append->cC,mem_append_left->ci,mem_append_right->cr,mem_append->aL,mem_singleton->av,find?_cons->lX,nodup_nil->p7,pairwise_singleton->cx,filter_eq_self->dq,any_eq_true->cg,any_cons->qS,filter_filter->ju,mem_range->fY,length_drop->bo,length_take->aY,append_cancel_left->ey,getElem_mem->aG,getElem_of_mem->bJ,getElem_take->p9,mem_of_getElem->ol,drop_left->ii,pairwise_iff_getElem->bQ,singleton_append->mg
open List.Lex renaming nil->yf
open List.Pairwise renaming nil->cq
open Nat renaming lt_of_lt_of_le->aA,le_refl->aj,le_trans->aQ,zero_le->aK,succ_pos->nR,zero_testBit->fy,one_pos->vX,lt_trichotomy->mA,lt_or_ge->cp,lt_irrefl->l3
open Option renaming some->bI
namespace Go.Proofs
section
open Go.Lift
variable {α:Type}{sz b sb:Nat}{W' M C:eh}{ow r:aT}{sl a v ahead:dO}{w:Option dO}{t:TypeId}{x y pre key lab:c6}{l A B l' D:bY}{K:f9->eu}{z:Hs}{n m:Bn}{h':ad}{ks:List aT}{L:List Bn}{F:Fo}{p:Int}{k:eu}
theorem Sl.det{f:α->c5}{W:eh}{h:ad}{s:f9}{xs ys:List α}(hi:∀x y,f x=f y->x=y)(a:Sl f sz W h s xs)(b:Sl f sz W' h s ys):xs=ys:=by
 apply List.ext_getElem
 .rw[<-a.len,<-b.len]
 .intro i k m
  refine hi _ _ (List.ext_getElem? λj=>?_)
  obtain⟨p,g,_,hv⟩:=a.at (af k);obtain⟨q,c,_,e⟩:=b.at (af m);rw[g]at c;cases c;have t:=(a.ne xs[i]).1;have o:=(b.ne ys[i]).1;by_cases u:j<sz
  .have n:=hv j _ (af a4)
   have d:=e j _ (af a4);rw[n]at d;rw[af a4,af a4];exact d
  .rw[mh a4,mh a4]
theorem Su(x y:Pr)(h:dZ x=dZ y):x=y:=by
 simp only[dZ,gi.injEq,Value.string.injEq,and_true]at h;exact Prod.ext h.1 h.2
theorem X7(x y:aT)(h:rh x=rh y):x=y:=by
 simpa[rh]using h
theorem Sc(x y:aT)(h:qo x=qo y):x=y:=by
 simpa[qo]using h
theorem KF{d j n n':Nat}{sp sk b a:f9}{p c:Bool}{e:aT}(h:eB d n sp sk p ow=eB j n' b a c e):d=j/\n=n'/\sp=b/\sk=a:=by
 simp only[eB,Array.mk.injEq,gi.injEq,Value.int.injEq,true_and,sv,Value.slice.injEq,Value.bool.injEq,Value.pointer.injEq,and_true]at h;obtain⟨q,s,⟨i,f,g⟩,⟨o,m,k⟩,_⟩:=h;refine⟨a4,a4,?_,?_⟩
 .cases sp;cases b;simp only at i f g;subst i f g;rfl
 .cases sk;cases a;simp only at o m k;subst o m k;rfl
theorem GW{W W':eh}{x:Hs}{h:ad}:∀{m b:Nat} {l l':bY},TrieAt W x h m b l->TrieAt W' x h m b l'->bO l->bO l'->l=l'
 |0,b,l,l',t,t',_,_=>by
  obtain⟨sp,sk,ow,hb,o,_⟩:=t.ex;obtain⟨j,i,u,a,g,_⟩:=t'.ex;rw[hb]at a;simp only[bI.injEq,Obj.cells.injEq,and_true]at a;obtain⟨_,_,rfl,_⟩:=KF a;exact Sl.det Su o g
 |m+1,b,l,l',⟨s,nd,hc⟩,⟨s',nd',hc'⟩,hr,hr'=>by
  obtain⟨d,n,sp,sk,ow,hb,bits,o,G,_⟩:=nd.ex;obtain⟨K,n',j,i,u,a,e,g,k,_⟩:=nd'.ex;rw[hb]at a;simp only[bI.injEq,Obj.cells.injEq,and_true]at a;obtain⟨rfl,rfl,rfl,rfl⟩:=KF a;have J:=HT 32 (λc hc=>by rw[<-bits.dp c hc,e.dp c hc]) (Sl.det Su o g)
  have H:=HT 32 (λc hc=>by rw[<-bits.nk c hc,e.nk c hc]) (Sl.det X7 G k)
  refine Od (x:=x) (lev:=12-m) hr hr' λc f=>?_
  have D:=hc c f;have v:=hc' c f;rw[<-J c f,<-H c f]at v;rcases D with⟨C,z,B⟩|⟨p,C,z,B⟩|⟨C,z,L,B,F⟩<;>rcases v with⟨y,A,w⟩|⟨q,y,A,w⟩|⟨y,A,E,w,I⟩<;>simp_all
  exact GW F I (is hr) (is hr')
theorem Se{g:dO}{b b':Bool}{s s':f9}{c:aT}(h:DB sl b v s ow=DB a b' g s' c):sl=a/\b=b'/\v=g/\s=s':=by
 simp only[DB,Array.mk.injEq,gi.injEq,Value.string.injEq,sv,Value.slice.injEq,Value.bool.injEq,Value.pointer.injEq,and_true]at h;obtain⟨j,k,i,⟨d,f,e⟩,_⟩:=h;refine⟨j,k,i,?_⟩;cases s;cases s';simp only at d f e;subst d f e;rfl
theorem Sx{a:Option dO}(h:w.isSome=a.isSome)(b:v=w.getD ⟨#[]⟩)(c:v=a.getD ⟨#[]⟩):w=a:=by
 cases w<;>cases a<;>simp_all
theorem P4{W W':eh}{h:ad}:∀{F F':Fo} {ks:List aT},RxF W h F ks->RxF W' h F' ks->F=F'
 | .nil,.nil,_,_,_=>rfl
 | .nil,.cons ..,ks,e,f=>by
  obtain⟨b,sl,val,s,ow,c,d,a,_⟩:=f;have e:ks= []:=e;rw[e]at a;cases a
 | .cons ..,.nil,ks,e,f=>by
  obtain⟨b,sl,val,s,ow,c,d,a,_⟩:=e;have f:ks= []:=f;rw[f]at a;cases a
 | .cons lab w kids rest,.cons lab' w' kids' rest',ks,⟨b,sl,val,s,ow,c,d,a,e1,e2,e3,e4,e5,e6,e7⟩,⟨b',sl',val',s',ow',ks1',ks'',f0,f1,f2,f3,f4,f5,f6,f7⟩=>by
  rw[a]at f0;simp only[gi.injEq,bI.injEq,Addr.mk.injEq,and_true]at f0;obtain⟨rfl,rfl⟩:=f0;rw[e2]at f2;simp only[bI.injEq,Obj.cells.injEq,and_true]at f2;obtain⟨rfl,g,rfl,rfl⟩:=Se f2;have:=Sl.det Sc e4 f4;subst this;rw[P4 e6 f6,P4 e7 f7,<-e1,<-f1,Sx g e3 f3]
theorem Qn{h:ad}{c:Array Value}(hb:h[b]? =some (.cells c t (0,0))) (hc:0<c.size):fc h ⟨b,0,none⟩:=⟨c,t,hb,hc⟩
theorem TrieAt.plain{W:eh}{x:Hs}{h:ad}:∀{m b:Nat} {l:bY},TrieAt W x h m b l->fc h ⟨b,0,none⟩
 |0,_,_,t=>by obtain⟨_,_,_,hb,_⟩:=BuckAt.ex t;exact Qn hb (by simp[eB])
 |m+1,_,_,⟨s,nd,_⟩=>by obtain⟨_,_,_,_,_,hb,_⟩:=nd.ex;exact Qn hb (by simp[eB])
theorem R9{W Wx:eh}{x:Hs}{h:ad}{m:Nat}{s:Slots}{c:Nat}(nd:NodeAt W h b s)(hc:c<32)(sl:SlotIs W x h m s c l)(hm:m<=13)(B:bO l)(F:l.length<=100000)(f:∀y,Wx y->y<h.size)
  (v:∀s' h',Sl dZ 2 Wx h' s' l->s'.len<=s'.cap->Upd No h h'->K s' h'):dS 233 [gV b,.int .i64 c] K h:=by
 refine Pf _ c ?_;dsimp only[FF,nv,yI,lG,nC,jM,nW,bq];refine yX nd hc λH k1=>?_
 refine yk λu b2 E=>?_
 have a:=k1.tr E;have g:s.p c=none->Below W x h m ((s.k c).getD none) l:=λd=>by
  rcases sl with⟨rfl,_,e⟩|⟨p,_,e,_⟩|⟨_,_,G,e,t⟩
  .rw[e];exact .inl ⟨rfl,rfl⟩
  .rw[d]at e;cases e
  .rw[e];exact .inr ⟨G,rfl,t⟩
 rcases d:s.p c with _|p
 .refine ag.2 (u0 (nd.upd a λ_ h=>h.elim) hc ?_)
  exact Jl (W':=Wx) ((g d).upd0 a) hm B F (λy w=>aA (f y w) a.size) λz i k n j=>v z i k n (a.tr j)
 .have A:l= [p]:=by
   rcases sl with⟨_,e,_⟩|⟨q,e,o,_⟩|⟨_,e,_⟩
   .rw[d]at e;cases e
   .rw[d]at o;cases o;exact e
   .rw[d]at e;cases e
  subst A;rw[d]at b2;refine aw.2 ⟨p.1,vc b2 0,p.2,vc b2 1,aV λi b3 j=>?_⟩
  have C:OwnS dZ 2 35 (λy=>h.size<=y) i ⟨some (aH u),1,1⟩ [p]:=⟨rfl,fP,aj _,.inr ⟨u.size,[],rfl,a.size,b3,rfl⟩⟩
  exact v _ i (C.sl λy w _ D=>by have:=f y D;omega) (aj _) (a.tr j)
theorem Vg{W:eh}{x:Hs}:∀(m:Nat),m<=13->∀{b b':Nat} {l l':bY} {C:eh} {h:ad} {L:List Ch},TrieAt W x h m b l->TrieAt W x h m b' l'->SetAt C h sb z L->(∀y,C y\/y=sb->W y)->(∀y,h.size<=y->W y)->bO l->bO l'->l.length<=100000->l'.length<=100000->L.length+(m+1)*200000<=10000000->
  ∀{K:Unit->eu},(∀ys,ys.Perm (iE l l')->UG C h sb z (L++ys) (K ()))->dx 174 [gV sb,gV b,gV b'] K h:=by
 intro m;induction m with
 |zero=>
  intro hm b b' l l' C h L t N st D U J u hn hn' hL K hk;refine xh _ _ _ ?_;unfold qz jM Te Nv;refine⟨trivial,λa a' e e'=>by cases e;cases e';exact⟨t.plain,N.plain⟩,ez (λe=>?_) λe=>?_⟩
  .obtain rfl:b=b':=by simpa using e
   obtain rfl:=GW t N J u;refine hk [] (by rw[CF]) h C (by rw[aX];exact st) (λ_ h=>.inl h) (eQ _ _)
  .obtain⟨sp,sk,ow,hb,hsp,_⟩:=BuckAt.ex t
   obtain⟨sp',sk',ow',hb',hsp',_⟩:=BuckAt.ex N;refine eT hb (aw.2 ?_);refine pI hb hsp a4 λs1 B Z k1=>?_
   refine pI (k1.get0 hb') (hsp'.upd k1 λ_ h=>h.elim) a4 λs2 A ho2 k2=>?_
   have s1z:=k1.size;obtain⟨_,T,_⟩:=st.ex;have zsb:=bw T;have ho1':=Z.upd k2 λ_ _ h=>h
   refine Cs (st.upd0 (k1.tr k2)) (ho1'.sl λy j _ hw=>?_) (ho2.sl λy j _ hw=>?_) Z.cap ho2.cap a4 λY C3 Q H P=>?_
   .rcases hw with h|h
    .have:=st.lt y h;omega
    .omega
   .rcases hw with h|h
    .have:=st.lt y h;omega
    .omega
   .have s2z:=k2.size
    exact hk (iE l l') (.refl _) Y C3 Q (λy j=>(H y j).imp id λh=>a4) ((k1.tr k2).wide.tr P)
 |succ m ih=>
  intro hm b b' l l' C h L t N st D U J u hn hn' hL K hk;refine xh _ _ _ ?_;unfold qz jM Te Nv;refine⟨trivial,λa a' e e'=>by cases e;cases e';exact⟨t.plain,N.plain⟩,ez (λe=>?_) λe=>?_⟩
  .obtain rfl:b=b':=by simpa using e
   obtain rfl:=GW t N J u;exact hk [] (by rw[CF]) h C (by rw[aX];exact st) (λ_ h=>.inl h) (eQ _ _)
  have hcl:=sZ J u;obtain⟨s,nd,hs⟩:=t;obtain⟨s',nd',F⟩:=N;have hs:∀c,c<32->SlotIs W x h m s c (part x (12-m) c l):=hs;have F:∀c,c<32->SlotIs W x h m s' c (part x (12-m) c l'):=F;obtain⟨d,n,sp,sk,ow,hb,_⟩:=nd.ex;refine eT hb (ag.2 ?_);refine eF (λ(g:Nat×List Ch×(eh)) (t:Int) h'=>t=(g.1:Int)/\g.1<=32/\SetAt g.2.2 h' sb z (L++g.2.1)/\(∀y,g.2.2 y->C y\/h.size<=y)/\Upd (λy=>C y\/y=sb) h h'/\g.2.1.Perm ((iE l l').filter λc=>decide (ck x (12-m) c.1<g.1))) (λg=>32-g.1) (0,[],C)
   ⟨rfl,a4,by rw[aX];exact st,λ_ h=>.inl h,eQ _ _,a7⟩ ?_
  rintro I ⟨i,ys,G⟩ t B ⟨rfl,hi,v,w,q,hp⟩ hI;simp only at hi v w hp;have hCW1:∀y,G y\/y=sb->W y:=λy j=>j.elim (λh=>(w y h).elim (λh=>D y (.inl h)) (U y)) λh=>D y (.inr h)
  have O:∀y,C y\/y=sb->W y\/h.size<=y:=λy j=>.inl (D y j)
  refine aq (λf=>?_) λhge=>?_
  rotate_left
  .have hi32:i=32:=by omega
   subst hi32;refine hk ys (hp.trans ?_) B G v w q;rw[List.filter_eq_self.2 λc _=>decide_eq_true (zk x (12-m) c.1)]
  have f:i<32:=a4
  have S:(iE l l').filter (λc=>decide (ck x (12-m) c.1=i))=iE (part x (12-m) i l) (part x (12-m) i l'):=(Q9 (λk=>decide (ck x (12-m) k=i)) J u).symm
  have hyl:ys.length<=200000:=by
   have:=hp.length_eq;have:=List.length_filter_le (λc:Ch=>decide (ck x (12-m) c.1<i)) (iE l l')
   omega
  have hpl:=lJ (x:=x) (lev:=12-m) (c:=i) (l:=l);have hpl':=lJ (x:=x) (lev:=12-m) (c:=i) (l:=l');have step:∀V:List Ch,V.Perm (iE (part x (12-m) i l) (part x (12-m) i l'))->∀A C2,SetAt C2 A sb z ((L++ys)++V)->(∀y,C2 y->G y\/B.size<=y)->Upd (λy=>G y\/y=sb) B A->I (ac .i64 ((i:Int)+1)) A:=by
   intro V hz A C2 st2 hC2 hu2;rw[mI f a4];refine hI (i+1,ys++V,C2) _ A ⟨rfl,f,by rw[<-ao];exact st2,λy j=>?_,?_,?_⟩ (by show 32-(i+1)<32-i;omega)
   .rcases hC2 y j with h|h
    .exact w y h
    .exact .inr (aQ q.size h)
   .exact q.trans hu2 λy j=>j.elim (λh=>(w y h).imp .inl id) λh=>.inl (.inr h)
   .rw[<-S]at hz
    exact(hp.append hz).trans (EV (λc:Ch=>ck x (12-m) c.1) i (iE l l'))
  have nd1:=nd.upd q O;have E:=nd'.upd q O;have up:∀{s:Slots} {l:bY},SlotIs W x h m s i l->SlotIs W x B m s i l:=λo=>o.imp id λo=>o.imp id λ⟨B,A,kb,Y,h4⟩=>⟨B,A,kb,Y,TrieAt.updM q O h4⟩
  have sl:=up (hs i f);have sl':=up (F i f);have hWn1:∀y,B.size<=y->W y:=λy j=>U y (aQ q.size j)
  refine fo (u0 nd1 f (u0 E f ?_));refine eM (λt h'=>h'=B/\(t=true->(s.k i).isSome=true/\(s'.k i).isSome=true)) (λR hR=>?_) ?_
  .refine ez (λe=>hR _ _ ⟨rfl,λe'=>⟨e,e'⟩⟩) λe=>hR _ _ ⟨rfl,λe=>by cases e⟩
  rintro t A ⟨rfl,ht⟩;refine ez (λe=>?_) λe=>?_
  .obtain⟨e1,e2⟩:=ht e
   rcases sl with⟨_,_,e3⟩|⟨p,_,_,e3⟩|⟨_,_,kb,e3,tk⟩
   .rw[e3]at e1;cases e1
   .rw[e3]at e1;cases e1
   rcases sl' with⟨_,_,e4⟩|⟨p,_,_,e4⟩|⟨_,_,kb',e4,tk'⟩
   .rw[e4]at e2;cases e2
   .rw[e4]at e2;cases e2
   rw[e3,e4];refine ih a4 tk tk' v hCW1 hWn1 (is J) (is u) a4 a4 (by rw[ae];omega) λV hz Y C3 Q H P=>?_
   exact step V hz Y C3 Q H P
  .obtain⟨_,T,_⟩:=v.ex
   have zsb:=bw T;have hWx:∀y,G y\/y=sb->y<A.size:=λy j=>j.elim (v.lt y) λh=>a4
   refine R9 (Wx:=λy=>G y\/y=sb) nd1 f sl a4 (is J) a4 hWx λs3 Y hs3 hc3 X=>?_
   refine R9 (Wx:=λy=>G y\/y=sb) (E.upd X λ_ h=>h.elim) f (sl'.upd0 X) a4 (is u) a4 (λy j=>aA (hWx y j) X.size) λs4 h4 hs4 hc4 k4=>?_
   refine Cs (v.upd0 (X.tr k4)) (hs3.upd k4 λ_ h=>h.elim) hs4 hc3 hc4 (by rw[ae];omega) λh5 C5 st5 hC5 hu5=>?_
   have s34:=(X.tr k4).size;exact step _ (.refl _) h5 C5 st5 (λy j=>(hC5 y j).imp id λh=>a4) ((X.tr k4).wide.tr hu5)
def Zb(pre:c6):dO:=⟨pre.toArray⟩
theorem Oq(pre:c6):(Zb pre).data.toList=pre:=by unfold Zb;simp
theorem Qv(k:dO):Zb k.data.toList=k:=by cases k;rfl
def Cx(pre:c6)(p:c6×dO):Pr:=(Zb (pre++p.1),p.2)
def pp(pre:c6)(n:Bn):bY:=(wS n.2.1 n.2.2).map (Cx (pre++n.1))
def wU(key:c6)(w:Option dO):bY:=(w.map λv=>(Zb key,v)).toList
theorem VZ:kl (Zb x) (Zb y)↔x<y:=by rw[Mx,ByteArray.toList_eq,ByteArray.toList_eq,Oq,Oq]
theorem Uc(a b:c6)(p:c6×dO):Cx a (b++p.1,p.2)=Cx (a++b) p:=by unfold Cx;rw[ao]
theorem Sr(pre:c6):∀F:Fo,(Ad F).map (Cx pre)=F.toL.flatMap (pp pre)
 | .nil=>rfl
 | .cons lab w kids rest=>by
  rw[TM,Fo.toL_cons,aN,cF,Sr pre rest,iR];congr 1
  unfold pp wS;exact List.map_congr_left λp _=>Uc pre lab p
theorem Kv(pre lab:c6)(w:Option dO)(F:Fo):pp pre (lab,w,F)=wU (pre++lab) w++F.toL.flatMap (pp (pre++lab)):=by
 unfold pp;rw[show wS w F=(w.map λv=>(([]:c6),v)).toList++Ad F from rfl,cF,Sr]
 congr 1
 cases w with
 |none=>rfl
 |some v=>show[Cx (pre++lab) ([],v)]=_;unfold Cx wU;rw[aX];rfl
theorem qZ(hc:eK n.2.2):bO (pp pre n):=by
 unfold pp;rw[bO,List.pairwise_map];exact(Sq (w:=n.2.1) hc).imp λ{p q} h=>VZ.2 (M3 h)
structure NodeK(n:Bn)(pre:c6):Prop where
 can:eK n.2.2
 len:pre.length+n.1.length<=10000
 all:∀p∈wS n.2.1 n.2.2,pre.length+n.1.length+p.1.length<=10000
theorem NodeK.kid(k:NodeK n pre)(hm:m∈n.2.2.toL):NodeK m (pre++n.1):=by
 have c:=(dB.1 k.can).2 _ hm;have a:∀p∈wS m.2.1 m.2.2,(pre++n.1).length+m.1.length+p.1.length<=10000:=λp e=>by
  have b:qh n.2.2 (m.1++p.1) p.2:=eW.2 ⟨_,hm,p.1,rfl,jQ.1 (show(p.1,p.2)∈_ from e)⟩
  have:=k.all (m.1++p.1,p.2) (jQ.2 (.inr b));simp only[ae]at this⊢;omega
 obtain⟨r,v,d⟩:=mU k.can _ hm;have:=a (r,v) (jQ.2 d);exact⟨c.2.2,by simp only at this;omega,a⟩
theorem EU(hm:m.1≠[])(d:n.1≠[])(h:hd m.1<hd n.1):∀p∈pp pre m,∀q∈pp pre n,kl p.1 q.1:=by
 intro p c q e;unfold pp at c e;obtain⟨a,_,rfl⟩:=aR.1 c;obtain⟨b,_,rfl⟩:=aR.1 e;refine VZ.2 ?_;rw[ao,ao];refine M3 (OI (by simp[d]) ?_);rw[oV hm,oV d];exact h
theorem Mn(e:n.1≠[]):∀p∈wU key w,∀q∈pp key n,kl p.1 q.1:=by
 intro p a q d;unfold wU at a;rw[Option.mem_toList,Option.map_eq_some_iff]at a;obtain⟨v,_,rfl⟩:=a;unfold pp at d;obtain⟨b,_,rfl⟩:=aR.1 d;refine VZ.2 ?_;rw[ao];conv=>lhs;rw[<-aX key]
 refine M3 ?_;match n.1,e with
 |c::l,_=>exact yf
theorem Ud{f:Bn->bY}(L:List Bn)(i:Nat):((L.take i).flatMap f).length<=(L.flatMap f).length:=by
 conv=>rhs;rw[<-bK i L,bU,ae]
 omega
theorem aaA{b:dO}:a.data.toList++b.data.toList=(a++b).data.toList:=by
 rw[ByteArray.data_append,Array.toList_append]
theorem RxL.updN{W:eh}{h:ad}(k:Upd M h h')(hm:∀b,M b->W b\/h.size<=b)(r:RxL W h ks L):RxL W h' ks L:=
 ⟨r.1,λp a=>let⟨b,sl,e,d,c⟩:=r.2 p a;⟨b,sl,e,d,c.updM k hm⟩⟩
def Xi(n:Bn):Prop:=∀{W:eh} {h:ad} {b:Nat} {sl:dO} {ahead:dO},RxN W h b sl n.2.1 n.2.2->sl.data.toList=n.1->NodeK n ahead.data.toList->(pp ahead.data.toList n).length<=1000000->∀{K:f9->eu},(∀s' h',OwnS dZ 2 35 (λy=>h.size<=y) h' s' (pp ahead.data.toList n)->Upd No h h'->K s' h')->dS 230 [gV b,.string ahead] K h
theorem NP(ih:∀n∈F.toL,Xi n):Xi (lab,w,F):=by
 intro W h b sl ahead r e nk S K hk;(try simp only at r e)
 have r:=r.less (W':=λy=>h.size<=y) λ_ h=>.inr h
 refine Fh (some ⟨b,0,none⟩) ahead ?_;dsimp only[zF,gD,lG,nC,rW,cB,jz,fE];refine ag.2 (mM r ?_);have o:=nk.len;(try simp only at o)
 have N:∀k:dO,k.size=k.data.toList.length:=λk=>by rw[d9];rfl
 have e1:=N ahead;have e2:=N sl;rw[e]at e2;refine⟨a4,?_⟩;have d:(ahead++sl).data.toList=ahead.data.toList++lab:=by rw[<-aaA,e]
 have T:Zb (ahead.data.toList++lab)=ahead++sl:=by rw[<-d,Qv]
 rw[Kv]at S hk;refine eM (λt h'=>OwnS dZ 2 35 (λy=>h.size<=y) h' t (wU (ahead.data.toList++lab) w)/\Upd No h h') (λR hR=>?_) ?_
 .refine He r λv hv=>?_
  cases w with
  |none=>exact ag.2 (hR _ _ ⟨OwnS.nil fP,eQ _ _⟩)
  |some u=>
   refine aw.2 ?_;have:=hv u rfl;subst this;refine bF ?_;refine ua (p:=(ahead++sl,v)) (M:=λy=>h.size<=y) (out:= []) (so:=⟨none,0,0⟩) (OwnS.nil fP) (λ_ h=>h) a7 λs1 P x k1=>hR _ _ ⟨?_,k1.mono λy g=>.inr g⟩
   rw[show wU (ahead.data.toList++lab) (some v)= []++ [(ahead++sl,v)] by unfold wU;rw[T];rfl]
   exact x
 rintro t P ⟨x,k1⟩;refine DS (r.upd0 k1) (jV nk.can) λQ B ks L G X=>?_
 have A:Sl qo 1 No B Q ks:=L.sl λ_ _ _ h=>h
 have J:=A.len;rw[G.1]at J;have C:=jV nk.can;(try simp only at C)
 have z1:=k1.size;have z2:=X.size;have A:Sl qo 1 (λy=>h.size<=y/\(y<P.size\/B.size<=y)) B Q ks:=L.sl λy g S hw=>a4
 refine eF (λ(i:Nat) (t:f9×Int) O=>OwnS dZ 2 35 (λy=>h.size<=y/\(y<P.size\/B.size<=y)) O t.1 (wU (ahead.data.toList++lab) w++(F.toL.take i).flatMap (pp (ahead.data.toList++lab)))/\t.2=(i:Int)/\i<=F.toL.length/\Upd (λy=>h.size<=y/\(y<P.size\/B.size<=y)) B O) (λi=>F.toL.length-i) 0 ⟨?_,rfl,aK _,eQ _ _⟩ ?_
 .rw[List.take_zero,jf,aX]
  exact(x.within.more λy g=>⟨g.1,.inl g.2⟩).upd X λ_ _ h=>h
 rintro I i ⟨ta,ti⟩ O ⟨j,e3,hi,H⟩ hI;(try simp only at j e3)
 subst e3;have E:((F.toL.take (i+1)).flatMap (pp (ahead.data.toList++lab))).length<=(F.toL.flatMap (pp (ahead.data.toList++lab))).length:=Ud _ _;rw[ae]at S;refine aq (λc=>?_) λZ=>?_
 .have c:i<F.toL.length:=by have:(i:Int)<(Q.len:Int):=c;omega
  have U:=G.updN H λy g=>.inl g.1
  obtain⟨kb,ksl,V,o,D⟩:=U.at c;obtain⟨a,ha,_,hv⟩:=(A.upd H λ_ h=>.inl h).at0 V
  refine fo ⟨⟨by(try simp only);omega,by(try simp only);omega⟩,a,ha,some ⟨kb,0,none⟩,hv,?_⟩
  have z:(F.toL.take (i+1)).flatMap (pp (ahead.data.toList++lab))=(F.toL.take i).flatMap (pp (ahead.data.toList++lab))++pp (ahead.data.toList++lab) F.toL[i]:=by
   rw[List.take_succ_eq_append_getElem c,bU];simp
  rw[z,ae]at E;have f:=List.getElem_mem c;generalize F.toL[i]=m at o D z E f;refine ih m f D o (by rw[d];exact nk.kid f) (by rw[d];omega) λs4 h4 q s=>?_
  rw[d]at q;refine⟨_,(q.sl (W:=No) λ_ _ _ h=>h).srow,?_⟩
  have z3:=H.size;have z4:=s.size;refine AppP.own (ys:=pp (ahead.data.toList++lab) m) (j.upd s λ_ _ h=>h) q.len rfl (xM _) rfl a4 (by rw[ae];omega) ⟨a4,.inr a4⟩ λs5 h5 ho5 Y=>?_
  rw[cf c a4];refine hI (i+1) _ _ ⟨?_,rfl,c,(H.tr s.wide).tr Y⟩ a4;rw[z,<-ao];exact ho5
 .have hil:i=F.toL.length:=by have:¬(i:Int)<(Q.len:Int):=Z;omega
  subst hil;rw[List.take_length]at j;exact hk _ O (j.more λy g=>g.1) ((k1.tr X).trans H λy g=>.inr g.1)
theorem DN:∀{F:Fo},eK F->∀n∈F.toL,Xi n
 | .nil,_,n,a=>by simp[Fo.toL]at a
 | .cons lab w kids rest,h,n,a=>by
  rcases au.1 a with rfl|a
  .exact NP (DN h.2.2.1)
  .exact DN h.2.2.2.2 n a
theorem Vm{W:eh}{h:ad}(r:RxN W h b sl n.2.1 n.2.2)(e:sl.data.toList=n.1)(nk:NodeK n ahead.data.toList)(a:(pp ahead.data.toList n).length<=1000000)(c:∀s' h',OwnS dZ 2 35 (λy=>h.size<=y) h' s' (pp ahead.data.toList n)->Upd No h h'->K s' h'):dS 230 [gV b,.string ahead] K h:=
 NP (DN nk.can) r e nk a c
theorem EW{W:eh}{h:ad}{key:dO}(r:RxN W h b sl w F)(a:∀s' h',OwnS dZ 2 35 (λy=>h.size<=y) h' s' (wU key.data.toList w)->Upd No h h'->K s' h'):dS 231 [gV b,.string key] K h:=by
 refine Rq _ key ?_;unfold Jc lG;refine He r λv hv=>?_
 cases w with
 |none=>exact aw.2 (a _ h (OwnS.nil fP) (eQ _ _))
 |some u=>
  have:=hv u rfl;subst this;refine ag.2 (aV λc b1 k1=>?_)
  refine a _ c ⟨rfl,fP,aj _,.inr ⟨h.size,[],rfl,aj _,?_,rfl⟩⟩ k1;rw[b1];unfold wU;rw[Qv];rfl
theorem XS{f:α->c5}{W:eh}{h:ad}{s:f9}{p:α}{l:List α}(a:Sl f sz W h s (p::l))(hc:s.len<=s.cap):Sl f sz W h ⟨aW s.a 1 s.cap sz,s.len-1,s.cap-1⟩ l:=by
 have b:=a.len;rw[ar]at b;have:=Sl.sub a (l:=1) (hi:=s.len) (m:=s.cap) (c:=s.cap-1) a4 (by rw[ar];omega) hc;rw[show((p::l).drop 1).take (s.len-1)=l by rw[List.drop_succ_cons,List.drop_zero];exact List.take_of_length_le a4]at this
 exact this
theorem XY{W:eh}{h:ad}{d:Option dO}{F':Fo}(r:RxN W h b sl w F)(q:RxN W' h b a d F'):sl=a/\w=d/\F=F':=by
 obtain⟨val,s,ow,ks,p,j,i,v,o⟩:=r;obtain⟨e,s',t,k,c,n,f,x,m⟩:=q;rw[p]at c;simp only[bI.injEq,Obj.cells.injEq,and_true]at c;obtain⟨g,u,rfl,rfl⟩:=Se c;have:=Sl.det Sc i f;subst this;exact⟨g,Sx u j n,P4 o m⟩
theorem RxN.plain{W:eh}{h:ad}(r:RxN W h b sl w F):fc h ⟨b,0,none⟩:=by
 obtain⟨val,s,ow,ks,hb,_⟩:=r;exact Qn hb (by simp[DB])
def NdO(W:eh)(h:ad)(pre:c6)(r:aT)(A:bY):Prop:=(r=none/\A= [])\/∃b sl n,r=some ⟨b,0,none⟩/\RxN W h b sl n.2.1 n.2.2/\sl.data.toList=n.1/\NodeK n pre/\A=pp pre n
theorem NdO.upd0{W:eh}{h:ad}(k:Upd No h h')(o:NdO W h pre r A):NdO W h' pre r A:=o.imp id λ⟨b,sl,n,d,c,a⟩=>⟨b,sl,n,d,c.upd0 k,a⟩
theorem NO{W:eh}{h:ad}(o:NdO W h ahead.data.toList r A)(c:A.length<=1000000)(a:∀s' h',OwnS dZ 2 35 (λy=>h.size<=y) h' s' A->Upd No h h'->K s' h'):dS 230 [.pointer r,.string ahead] K h:=by
 rcases o with⟨rfl,rfl⟩|⟨b,sl,n,rfl,r,e,nk,rfl⟩
 .refine Fh none ahead ?_
  dsimp only[zF,gD,lG,nC,rW,cB,jz,fE];exact aw.2 (a _ h (OwnS.nil fP) (eQ _ _))
 .exact Vm r e nk c a
theorem Cb{W:eh}{h:ad}{s:aT}{L:List Ch}(o:NdO W h ahead.data.toList r A)(I:NdO W h ahead.data.toList s B)(st:SetAt C h sb z L)(F:A.length<=1000000)(D:B.length<=1000000)(K:L.length+A.length+B.length<=10000000){G:Unit->eu}(E:UG C h sb z (L++iE A B) (G ())):
  dS 230 [.pointer r,.string ahead] (λ(n:f9) x=>dS 230 [.pointer s,.string ahead] (λ(a:f9) j=>dx 229 [gV sb,.slice n.a n.len n.cap,.slice a.a a.len a.cap] (λ(_:Unit) k=>G () k) j) x) h:=by
 refine NO o F λJ O c k1=>NO (I.upd0 k1) D λP N d e=>?_
 have v:=k1.size;obtain⟨_,q,_⟩:=st.ex;have H:=bw q;have b:=c.upd e λ_ _ h=>h
 refine Cs (st.upd0 (k1.tr e)) (b.sl λy f _ g=>?_) (d.sl λy f _ g=>?_) c.cap d.cap a4 λw t p i m=>?_
 .rcases g with h|h
  .have:=st.lt y h;omega
  .omega
 .rcases g with h|h
  .have:=st.lt y h;omega
  .omega
 .have u:=e.size
  exact E w t p (λy f=>(i y f).imp id λh=>a4) ((k1.tr e).wide.tr m)
theorem Kg{W:eh}{h:ad}{b:aT}{L:List Ch}(o:NdO W h ahead.data.toList r A)(g:NdO W h ahead.data.toList b B)(d:r=none\/b=none)(st:SetAt C h sb z L)(j:A.length<=1000000)(i:B.length<=1000000)(m:L.length+A.length+B.length<=10000000){K:Unit->eu}(f:UG C h sb z (L++iE A B) (K ())):
  dx 172 [gV sb,.pointer r,.pointer b,.string ahead] K h:=by
 refine xi _ r b ahead ?_;dsimp only[qA,gD,Nw,Nv,Gd,cB,fE,Iu,CP,YP,zn];refine⟨trivial,λa a' e n=>by rcases d with h|h<;>simp_all,ez (λe=>?_) λe=>?_⟩
 .have p:r=b:=by simpa using e
  have k:r=none/\b=none:=by rcases d with h|h<;>simp_all
  obtain⟨rfl,rfl⟩:=k;obtain rfl:A= []:=by rcases o with⟨_,h⟩|⟨_,_,_,h,_⟩;exact h;cases h
  obtain rfl:B= []:=by rcases g with⟨_,h⟩|⟨_,_,_,h,_⟩;exact h;cases h
  exact f h C (by rw[jl,fj,aX];exact st) (λ_ h=>.inl h) (eQ _ _)
 .refine eM (λt h'=>t=true/\h'=h) (λR c=>?_) ?_
  .rcases d with rfl|rfl
   .exact aw.2 (c _ _ ⟨rfl,rfl⟩)
   .exact ez (λ_=>c _ _ ⟨rfl,rfl⟩) λ_=>aw.2 (c _ _ ⟨rfl,rfl⟩)
  .rintro t h' ⟨rfl,rfl⟩
   exact aw.2 (Cb o g st j i m f)
theorem Yj{l:c6}(e:sl.data.toList=l)(b:l≠[]):∃c:UInt8,(0:Int)<=0/\sl[(0:Int).toNat]? =some c/\c.toNat=hd l:=by
 match l,b with
 |c::l,_=>
  refine⟨c,Int.le_refl _,?_,rfl⟩;have a:0<sl.size:=by
   have:sl.data.toList.length=sl.size:=d9;rw[<-this,e];simp
  have:sl.data[0]? =some c:=by rw[<-Array.getElem?_toList,e];rfl
  rw[show(0:Int).toNat=0 from rfl]
  rw[getElem?_pos sl 0 a];rw[Array.getElem?_eq_getElem a]at this;exact this
def Rl(n:Bn):Prop:=∀{W C:eh} {h:ad} {b b':Nat} {sl sl' ahead:dO} {n':Bn} {L:List Ch} {sb:Nat} {z:Hs},RxN W h b sl n.2.1 n.2.2->sl.data.toList=n.1->RxN W h b' sl' n'.2.1 n'.2.2->sl'.data.toList=n'.1->NodeK n ahead.data.toList->NodeK n' ahead.data.toList->SetAt C h sb z L->
 (∀y,C y\/y=sb->W y)->(∀y,h.size<=y->W y)->(pp ahead.data.toList n).length<=1000000->(pp ahead.data.toList n').length<=1000000->L.length+(pp ahead.data.toList n).length+(pp ahead.data.toList n').length<=10000000->
 ∀{K:Unit->eu},UG C h sb z (L++iE (pp ahead.data.toList n) (pp ahead.data.toList n')) (K ())->dx 172 [gV sb,gV b,gV b',.string ahead] K h
theorem lN{P:bY}(h:∀n∈L,∀p∈P,∀q∈pp key n,kl p.1 q.1):∀p∈P,∀q∈L.flatMap (pp key),kl p.1 q.1:=by
 intro p b q a;obtain⟨n,c,a⟩:=List.mem_flatMap.1 a;exact h n c p b q a
set_option maxHeartbeats 1000000 in
theorem Kh(ih:∀n∈F.toL,Rl n):Rl (lab,w,F):=by
 intro W C h b b' sl sl' ahead n' L sb z r e r' e' nk nk' st hCW hWn hA hB hL K hk;obtain⟨lab',w',F'⟩:=n';(try simp only at r e r' e')
 refine xi _ _ _ ahead ?_;dsimp only[qA,gD,Nw,Nv,Gd,cB,fE,Iu,CP,YP,zn];refine⟨trivial,λa a' e1 e2=>by cases e1;cases e2;exact⟨r.plain,r'.plain⟩,ez (λe1=>?_) λe1=>?_⟩
 .obtain rfl:b=b':=by simpa using e1
  obtain⟨rfl,rfl,rfl⟩:=XY r r';subst e e';exact hk h C (by rw[CF,aX];exact st) (λ_ h=>.inl h) (eQ _ _)
 clear e1;refine eM (λt h'=>h'=h/\t= !(decide (sl=sl'))) (λR hR=>?_) ?_
 .refine ag.2 (ag.2 (mM r (mM r' (hR _ _ ⟨rfl,?_⟩))))
  have eb:(sl.toList==sl'.toList)=decide (sl=sl'):=dV;rw[eb]
 rintro t h0 ⟨rfl,et⟩;by_cases hsl:sl=sl'
 rotate_left
 .rw[decide_eq_false hsl]at et
  subst et;refine aw.2 ?_;exact Cb (.inr ⟨b,sl,(lab,w,F),rfl,r,e,nk,rfl⟩) (.inr ⟨b',sl',(lab',w',F'),rfl,r',e',nk',rfl⟩) st hA hB hL hk
 rw[decide_eq_true hsl]at et;subst et hsl;obtain rfl:lab=lab':=by rw[<-e,<-e']
 refine ag.2 (mM r ?_);have hkl:=nk.len;(try simp only at hkl)
 have esz:∀k:dO,k.size=k.data.toList.length:=λk=>by rw[d9];rfl
 have e1:=esz ahead;have e2:=esz sl;rw[e]at e2;refine⟨a4,?_⟩;have U:(ahead++sl).data.toList=ahead.data.toList++lab:=by rw[<-aaA,e]
 rw[Kv,ae]at hA hB;rw[Kv,Kv,ae,ae]at hL;rw[Kv,Kv]at hk;have hcF:=dB.1 nk.can;have H:=dB.1 nk'.can;have hkid:∀m∈F.toL,NodeK m (ahead++sl).data.toList:=λm hm=>by rw[U];exact nk.kid hm
 have N:∀m∈F'.toL,NodeK m (ahead++sl).data.toList:=λm hm=>by rw[U];exact nk'.kid hm
 rw[<-U]at hA hB hL hk;generalize ahead++sl=key at U hkid N hA hB hL hk⊢;have T:∀{u:Option dO},bO (wU key.data.toList u):=λ{u}=>by cases u<;>simp[wU,bO]
 rw[GD T T (lN λm hm=>Mn (hcF.2 m hm).1) (lN λm hm=>Mn (H.2 m hm).1) (lN λm hm=>Mn (hcF.2 m hm).1) (lN λm hm=>Mn (H.2 m hm).1),<-ao]at hk
 refine EW r λs1 h1 ho1 k1=>EW (r'.upd0 k1) λs2 h2 ho2 k2=>?_
 have k12:=k1.tr k2;have s1z:=k1.size;have s2z:=k2.size;obtain⟨_,hsb,_⟩:=st.ex;have zsb:=bw hsb;refine Cs (st.upd0 k12) ((ho1.upd k2 λ_ _ h=>h).sl λy d _ hw=>?_) (ho2.sl λy d _ hw=>?_) ho1.cap ho2.cap a4 λh3 S st3 hC3 hu3=>?_
 .rcases hw with h|h
  .have:=st.lt y h;omega
  .omega
 .rcases hw with h|h
  .have:=st.lt y h;omega
  .omega
 have hlo:∀u v:Option dO,(iE (wU key.data.toList u) (wU key.data.toList v)).length<=(wU key.data.toList u).length+(wU key.data.toList v).length:=λu v=>sZ T T
 have hlo:=hlo w w';generalize iE (wU key.data.toList w) (wU key.data.toList w')=X at st3 hk hlo;generalize (wU key.data.toList w).length=x1 at hA hL hlo;generalize (wU key.data.toList w').length=x2 at hB hL hlo;have hM3:∀y,C y\/y=sb->W y\/h2.size<=y:=λy d=>.inl (hCW y d)
 have s3z:=hu3.size;refine DS ((r.upd0 k12).updM hu3 hM3) (jV nk.can) λs4 h4 ks ho4 hL4 k4=>?_
 refine DS (((r'.upd0 k12).updM hu3 hM3).upd0 k4) (jV nk'.can) λs5 P ks' ho5 hL5 k5=>?_
 have s4z:=k4.size;have s5z:=k5.size;obtain⟨_,hsb3,_⟩:=st3.ex;have zsb3:=bw hsb3;have st5:=st3.upd0 (k4.tr k5);have hW5:∀y,P.size<=y->W y:=λy d=>hWn y a4
 have hC3W:∀y,S y\/y=sb->W y:=λy d=>d.elim (λh=>(hC3 y h).elim (λh=>hCW y (.inl h)) λh=>hWn y a4) λh=>hCW y (.inr h)
 have hv4:Sl qo 1 (λy=>S y\/y=sb\/P.size<=y) P s4 ks:=(ho4.sl (W:=λy=>S y\/y=sb\/P.size<=y) λy d hl hw=>by
  rcases hw with h|h|h
  .have:=st3.lt y h;omega
  .omega
  .omega).upd k5 λ_ h=>h.elim
 have hv5:Sl qo 1 (λy=>S y\/y=sb\/P.size<=y) P s5 ks':=ho5.sl (W:=λy=>S y\/y=sb\/P.size<=y) λy d hl hw=>by
  rcases hw with h|h|h
  .have:=st3.lt y h;omega
  .omega
  .omega
 have hku:Upd (λy=>C y\/y=sb) h0 P:=(k12.wide.tr hu3).tr (k4.tr k5).wide
 have hC5:∀y,S y->C y\/h0.size<=y:=λy d=>(hC3 y d).imp id λh=>a4
 refine eF (λ(g:(List aT×List Bn)×(List aT×List Bn)×List Ch×(eh)) (t:f9×f9) h'=>SetAt g.2.2.2 h' sb z g.2.2.1/\(∀y,g.2.2.2 y->S y\/P.size<=y)/\Upd (λy=>S y\/y=sb) P h'/\Sl qo 1 (λy=>S y\/y=sb\/P.size<=y) h' t.1 g.1.1/\Sl qo 1 (λy=>S y\/y=sb\/P.size<=y) h' t.2 g.2.1.1/\t.1.len<=t.1.cap/\t.2.len<=t.2.cap/\
   RxL W h' g.1.1 g.1.2/\RxL W h' g.2.1.1 g.2.1.2/\(∀m∈g.1.2,m∈F.toL)/\(∀m∈g.2.1.2,m∈F'.toL)/\g.1.2.Pairwise (λm n=>hd m.1<hd n.1)/\g.2.1.2.Pairwise (λm n=>hd m.1<hd n.1)/\
   g.2.2.1++iE (g.1.2.flatMap (pp key.data.toList)) (g.2.1.2.flatMap (pp key.data.toList))=(L++X)++iE (F.toL.flatMap (pp key.data.toList)) (F'.toL.flatMap (pp key.data.toList))/\
   g.2.2.1.length+(g.1.2.flatMap (pp key.data.toList)).length+(g.2.1.2.flatMap (pp key.data.toList)).length<=10000000/\(g.1.2.flatMap (pp key.data.toList)).length<=1000000/\(g.2.1.2.flatMap (pp key.data.toList)).length<=1000000)
  (λg=>g.1.2.length+g.2.1.2.length) ((ks,F.toL),(ks',F'.toL),L++X,S)
  ⟨st5,λ_ h=>.inl h,eQ _ _,hv4,hv5,ho4.cap,ho5.cap,hL4.upd0 k5,hL5,λ_ h=>h,λ_ h=>h,hcF.1,H.1,rfl,by rw[ae];(try simp only);omega,by(try simp only);omega,by(try simp only);omega⟩ ?_
 rintro I ⟨⟨ka,La⟩,⟨kb,Lb⟩,L1,C1⟩ ⟨t1,t2⟩ j ⟨st1,hC1,hu1,D,Q,hc1,hc2,s,O,G,Y,hpa,hpb,he,hl1,hl2,hl3⟩ hI;(try simp only at st1 hC1 D Q hc1 hc2 s O G Y hpa hpb he hl1 hl2 hl3)
 have z1:t1.len=La.length:=D.len.trans s.1;have z2:t2.len=Lb.length:=Q.len.trans O.1;have hC1W:∀y,C1 y\/y=sb->W y:=λy d=>d.elim (λh=>(hC1 y h).elim (λh=>hC3W y (.inl h)) (hW5 y)) λh=>hC3W y (.inr h)
 have hW1:∀y,j.size<=y->W y:=λy d=>hW5 y (aQ hu1.size d)
 have go:∀(c:List Ch) (u1 u2:f9) (ka2 kb2:List aT) (A2 B2:List Bn) (h2:ad) (C2:eh),SetAt C2 h2 sb z (L1++c)->(∀y,C2 y->C1 y\/j.size<=y)->Upd (λy=>C1 y\/y=sb) j h2->iE (La.flatMap (pp key.data.toList)) (Lb.flatMap (pp key.data.toList))=c++iE (A2.flatMap (pp key.data.toList)) (B2.flatMap (pp key.data.toList))->
   c.length+(A2.flatMap (pp key.data.toList)).length+(B2.flatMap (pp key.data.toList)).length<=(La.flatMap (pp key.data.toList)).length+(Lb.flatMap (pp key.data.toList)).length->(A2.flatMap (pp key.data.toList)).length<=1000000->(B2.flatMap (pp key.data.toList)).length<=1000000->
   Sl qo 1 (λy=>S y\/y=sb\/P.size<=y) j u1 ka2->Sl qo 1 (λy=>S y\/y=sb\/P.size<=y) j u2 kb2->u1.len<=u1.cap->u2.len<=u2.cap->RxL W j ka2 A2->RxL W j kb2 B2->A2.Sublist La->B2.Sublist Lb->A2.length+B2.length<La.length+Lb.length->I (u1,u2) h2:=by
  intro c u1 u2 ka2 kb2 A2 B2 h2 C2 st2 hC2 hu2 ec hlc hlA hlB v1 v2 w1 w2 ra rb sa sb' E;have hm:∀y,C1 y\/y=sb->(S y\/y=sb\/P.size<=y)\/j.size<=y:=λy d=>.inl (d.elim (λh=>(hC1 y h).imp id .inr) λh=>.inr (.inl h))
  have hmW:∀y,C1 y\/y=sb->W y\/j.size<=y:=λy d=>.inl (hC1W y d)
  refine hI ((ka2,A2),(kb2,B2),L1++c,C2) (u1,u2) h2 ⟨st2,λy d=>?_,?_,v1.upd hu2 hm,v2.upd hu2 hm,w1,w2,ra.updN hu2 hmW,rb.updN hu2 hmW,λm hm=>G m (sa.subset hm),λm hm=>Y m (sb'.subset hm),hpa.sublist sa,hpb.sublist sb',?_,?_,hlA,hlB⟩ E
  .rcases hC2 y d with h|h
   .exact hC1 y h
   .exact .inr (aQ hu1.size h)
  .exact hu1.trans hu2 λy d=>d.elim (λh=>(hC1 y h).imp .inl id) λh=>.inl (.inr h)
  .show(L1++c)++_=_
   rw[ao,<-ec,he]
  .show(L1++c).length+(A2.flatMap (pp key.data.toList)).length+(B2.flatMap (pp key.data.toList)).length<=10000000
   rw[ae];omega
 refine eM (λt h'=>h'=j/\(t=true↔La≠[]\/Lb≠[])) (λR hR=>?_) ?_
 .refine aq (λo=>hR _ _ ⟨rfl,?_⟩) λo=>hR _ _ ⟨rfl,?_⟩
  .have o:(t1.len:Int)>0:=o
   simp only[true_iff];left;intro e;rw[e]at z1;simp only[bC]at z1;omega
  .have o:¬(t1.len:Int)>0:=o
   have e1:La= []:=List.length_eq_zero_iff.1 a4;show decide ((t2.len:Int)>0)=true↔_
   rw[decide_eq_true_iff];constructor
   .intro h;right;intro e;rw[e]at z2;simp only[bC]at z2;omega
   .intro h
    rcases h with h|h
    .exact absurd e1 h
    .have:=List.length_pos_iff.2 h;omega
 rintro t h6 ⟨rfl,ht⟩;refine ez (λet=>?_) λet=>?_
 rotate_left
 .have hn:La= []/\Lb= []:=by
   rw[et]at ht;constructor
   .exact Decidable.byContradiction λh=>absurd (ht.2 (.inl h)) a7
   .exact Decidable.byContradiction λh=>absurd (ht.2 (.inr h)) a7
  obtain⟨rfl,rfl⟩:=hn;rw[jf,jl,fj,aX]at he;subst he;exact hk h6 C1 st1 (λy d=>(hC1 y d).elim (hC5 y) λh=>.inr a4) (hku.trans hu1 λy d=>d.elim (λh=>(hC5 y h).imp .inl id) λh=>.inl (.inr h))
 have hne:=ht.1 et;clear ht et;have Z:∀m∈La,m.1≠[]:=λm hm=>(hcF.2 m (G m hm)).1
 have V:∀m∈Lb,m.1≠[]:=λm hm=>(H.2 m (Y m hm)).1
 refine eM (λt h'=>h'=h6/\((t=true/\∃a A',La=a::A'/\∀q∈Lb,hd a.1<hd q.1)\/(t=false/\∃b B',Lb=b::B'/\(La= []\/∃a A',La=a::A'/\¬hd a.1<hd b.1)))) (λR hR=>?_) ?_
 .rcases Lb with _|⟨q,B'⟩
  .rcases La with _|⟨a,A'⟩
   .exact absurd hne a7
   rw[show(((t2.len:Nat):Int)==0)=true by rw[z2];rfl]
   exact aw.2 (hR _ _ ⟨rfl,.inl ⟨rfl,a,A',rfl,λq hq=>absurd hq dL⟩⟩)
  .rw[ar]at z2
   rw[show(((t2.len:Nat):Int)==0)=false by rw[beq_eq_false_iff_ne];omega]
   refine ag.2 ?_;rcases La with _|⟨a,A'⟩
   .rw[bC]at z1
    rw[decide_eq_false (show ¬((t1.len:Int)>0) by omega)]
    exact ag.2 (hR _ _ ⟨rfl,.inr ⟨rfl,q,B',rfl,.inl rfl⟩⟩)
   .rw[ar]at z1
    rw[decide_eq_true (show((t1.len:Int)>0) by omega)]
    obtain⟨b1,l1,g1,g2,g3⟩:=s.at (i:=0) (nR _);obtain⟨b2,l2,f1,f2,f3⟩:=O.at (i:=0) (nR _);simp only[dR]at g2 g3 f2 f3;obtain⟨a1,J,_,v1⟩:=D.at0 g1;obtain⟨a2,ha2,_,v2⟩:=Q.at0 f1;obtain⟨c1,cc1,cd1,ce1⟩:=Yj g2 (Z a (al ..));obtain⟨c2,cc2,cd2,ce2⟩:=Yj f2 (V q (al ..));refine aw.2 ⟨⟨by(try simp only);omega,by(try simp only);omega⟩,a1,J,_,v1,⟨by(try simp only);omega,by(try simp only);omega⟩,a2,ha2,_,v2,mM g3 ⟨v2,c1,cc1,cd1,mM f3 ⟨c2,cc2,cd2,hR _ _ ⟨rfl,?_⟩⟩⟩⟩
    rw[ce1,ce2];by_cases E:hd a.1<hd q.1
    .refine .inl ⟨decide_eq_true a4,a,A',rfl,λm hm=>?_⟩
     rcases au.1 hm with rfl|hm
     .exact E
     .exact Nat.lt_trans E ((aC.1 hpb).1 m hm)
    .exact .inr ⟨decide_eq_false a4,q,B',rfl,.inr ⟨a,A',rfl,E⟩⟩
 rintro t h7 ⟨rfl,⟨rfl,a,A',rfl,hlow⟩|⟨rfl,q,B',rfl,hor⟩⟩
 .
  rw[ar]at z1;obtain⟨b1,l1,g1,g2,g3⟩:=s.at (i:=0) (nR _);simp only[dR]at g2 g3;obtain⟨a1,J,_,v1⟩:=D.at0 g1;rw[aN,ae]at hl1 hl2;refine aw.2 ⟨⟨by(try simp only);omega,by(try simp only);omega⟩,a1,J,_,v1,?_⟩
  refine Kg (A:=pp key.data.toList a) (B:= []) (.inr ⟨b1,l1,a,rfl,g3,g2,hkid a (G a (al ..)),rfl⟩) (.inl ⟨rfl,rfl⟩) (.inr rfl) st1 a4 (aK _) (by rw[bC];omega) λh8 C8 st8 hC8 hu8=>?_
  refine⟨⟨by(try simp only);omega,by(try simp only);omega⟩,?_⟩
  simp only[Bd];rcases ka with _|⟨k0,ka⟩
  .simp at g1
  have ca:=hcF.2 a (G a (al ..));have o:=aC.1 hpa;refine go (iE (pp key.data.toList a) []) _ t2 ka kb A' Lb h8 C8 st8 hC8 hu8 ?_ ?_ a4 hl3 (XS D hc1) Q (by show t1.len-1<=t1.cap-1;omega) hc2 (s.drop 1) O (lq ..) (.refl _) (by rw[ar];omega)
  .rw[aN]
   exact GD (B1:= []) (qZ ca.2.2) .nil (lN λm hm=>EU ca.1 (Z m (ay _ hm)) (o.1 m hm)) (lN λm hm=>EU ca.1 (V m hm) (hlow m hm)) (λp o=>absurd o dL) (λp o=>absurd o dL)
  .have:=sZ (qZ (pre:=key.data.toList) ca.2.2) (B:= []) .nil
   rw[aN,ae];rw[bC]at this;omega
 refine ag.2 ?_;rw[ar]at z2;obtain⟨b2,l2,f1,f2,f3⟩:=O.at (i:=0) (nR _);simp only[dR]at f2 f3;obtain⟨a2,ha2,_,v2⟩:=Q.at0 f1;obtain⟨c2,cc2,cd2,ce2⟩:=Yj f2 (V q (al ..));rcases kb with _|⟨k0',kb⟩
 .simp at f1
 have cb:=H.2 q (Y q (al ..));have hpq:=aC.1 hpb;rw[aN (f:=pp key.data.toList),ae]at hl3;rw[aN (f:=pp key.data.toList) (x:=q),ae]at hl1;refine eM (λt h'=>h'=h7/\((t=true/\∀p∈La,hd q.1<hd p.1)\/(t=false/\∃a A',La=a::A'/\hd a.1=hd q.1))) (λR hR=>?_) ?_
 .rcases hor with rfl|⟨a,A',rfl,hnl⟩
  .rw[show(((t1.len:Nat):Int)==0)=true by rw[z1];rfl]
   exact aw.2 (hR _ _ ⟨rfl,.inl ⟨rfl,λp o=>absurd o dL⟩⟩)
  .rw[ar]at z1
   rw[show(((t1.len:Nat):Int)==0)=false by rw[beq_eq_false_iff_ne];omega]
   obtain⟨b1,l1,g1,g2,g3⟩:=s.at (i:=0) (nR _);simp only[dR]at g2 g3;obtain⟨a1,J,_,v1⟩:=D.at0 g1;obtain⟨c1,cc1,cd1,ce1⟩:=Yj g2 (Z a (al ..));refine ag.2 ⟨⟨by(try simp only);omega,by(try simp only);omega⟩,a2,ha2,_,v2,⟨by(try simp only);omega,by(try simp only);omega⟩,a1,J,_,v1,mM f3 ⟨v1,c2,cc2,cd2,mM g3 ⟨c1,cc1,cd1,hR _ _ ⟨rfl,?_⟩⟩⟩⟩
   rw[ce1,ce2];by_cases E:hd q.1<hd a.1
   .refine .inl ⟨decide_eq_true a4,λm hm=>?_⟩
    rcases au.1 hm with rfl|hm
    .exact E
    .exact Nat.lt_trans E ((aC.1 hpa).1 m hm)
   .exact .inr ⟨decide_eq_false a4,a,A',rfl,a4⟩
 rintro t h8 ⟨rfl,⟨rfl,hlow⟩|⟨rfl,a,A',rfl,heq⟩⟩
 .
  refine aw.2 ⟨⟨by(try simp only);omega,by(try simp only);omega⟩,a2,ha2,_,v2,?_⟩
  refine Kg (A:= []) (B:=pp key.data.toList q) (.inl ⟨rfl,rfl⟩) (.inr ⟨b2,l2,q,rfl,f3,f2,N q (Y q (al ..)),rfl⟩) (.inl rfl) st1 (aK _) a4 (by rw[bC];omega) λh9 C9 st9 hC9 hu9=>?_
  refine⟨⟨by(try simp only);omega,by(try simp only);omega⟩,?_⟩
  simp only[Bd];refine go (iE [] (pp key.data.toList q)) t1 _ ka kb La B' h9 C9 st9 hC9 hu9 ?_ ?_ hl2 a4 D (XS Q hc2) hc1 (by show t2.len-1<=t2.cap-1;omega) s (O.drop 1) (.refl _) (lq ..) (by rw[ar];omega)
  .rw[aN]
   exact GD (A1:= []) .nil (qZ cb.2.2) (λp o=>absurd o dL) (λp o=>absurd o dL) (lN λm hm=>EU cb.1 (Z m hm) (hlow m hm)) (lN λm hm=>EU cb.1 (V m (ay _ hm)) (hpq.1 m hm))
  .have:=sZ (A:= []) (B:=pp key.data.toList q) .nil (qZ cb.2.2)
   rw[aN,ae];rw[bC]at this;omega
 .
  rw[ar]at z1;obtain⟨b1,l1,g1,g2,g3⟩:=s.at (i:=0) (nR _);simp only[dR]at g2 g3;obtain⟨a1,J,_,v1⟩:=D.at0 g1;rcases ka with _|⟨k0,ka⟩
  .simp at g1
  have ca:=hcF.2 a (G a (al ..));have o:=aC.1 hpa;rw[aN,ae]at hl1 hl2;refine ag.2 ⟨⟨by(try simp only);omega,by(try simp only);omega⟩,a1,J,_,v1,⟨by(try simp only);omega,by(try simp only);omega⟩,a2,ha2,_,v2,?_⟩
  refine ih a (G a (al ..)) (n':=q) g3 g2 f3 f2 (hkid a (G a (al ..))) (N q (Y q (al ..))) st1 hC1W hW1 a4 a4 a4 λh9 C9 st9 hC9 hu9=>?_
  refine⟨⟨by(try simp only);omega,by(try simp only);omega⟩,?_⟩
  simp only[Bd];refine⟨⟨by(try simp only);omega,by(try simp only);omega⟩,?_⟩
  refine go (iE (pp key.data.toList a) (pp key.data.toList q)) _ _ ka kb A' B' h9 C9 st9 hC9 hu9 ?_ ?_ a4 a4 (XS D hc1) (XS Q hc2) (by show t1.len-1<=t1.cap-1;omega) (by show t2.len-1<=t2.cap-1;omega) (s.drop 1) (O.drop 1) (lq ..) (lq ..) (by rw[ar,ar];omega)
  .rw[aN,aN]
   exact GD (qZ ca.2.2) (qZ cb.2.2) (lN λm hm=>EU ca.1 (Z m (ay _ hm)) (o.1 m hm)) (lN λm hm=>EU ca.1 (V m (ay _ hm)) (by rw[heq];exact hpq.1 m hm)) (lN λm hm=>EU cb.1 (Z m (ay _ hm)) (by rw[<-heq];exact o.1 m hm)) (lN λm hm=>EU cb.1 (V m (ay _ hm)) (hpq.1 m hm))
  .have:=sZ (qZ (pre:=key.data.toList) ca.2.2) (qZ (pre:=key.data.toList) cb.2.2)
   rw[aN,aN,ae,ae];omega
theorem A0:∀{F:Fo},eK F->∀n∈F.toL,Rl n
 | .nil,_,n,a=>by simp[Fo.toL]at a
 | .cons lab w kids rest,h,n,a=>by
  rcases au.1 a with rfl|a
  .exact Kh (A0 h.2.2.1)
  .exact A0 h.2.2.2.2 n a
def abT(a b:Ch):Bool:=decide (kl a.1 b.1)
theorem abg(M:eh):Cmp abT Jj M (λ_=>True) (.func (.func 176) #[] #[]):=by
 refine⟨λa b h K _ e=>HV.mk' (cZ (FG a b) .nil Tryz.func176 Tryz.call176 ?_),λ_ h=>h⟩
 dsimp only[FG,lG,ZD,gj,bq];refine aV λf b1 k1=>aV λd b2 c=>?_
 refine⟨a.1,vc (c.get0 b1) 0,b.1,vc b2 0,Ia (e d _ (k1.tr c) ?_)⟩;unfold wZ abT;split
 .rename_i h;rw[decide_eq_true h];rfl
 .rename_i h
  rw[decide_eq_false h];split<;>rfl
theorem Eqf.perm[DecidableEq α]{lt:α->α->Bool}(w:WO lt){l l':List α}(h:Eqf lt l l'):l'.Perm l:=by
 rw[List.perm_iff_count];intro a;have e:∀m:List α,m.count a=(m.filter (O1 lt a)).count a:=λm=>(List.count_filter (Ib w a)).symm
 rw[e l',e l,h.flt a]
theorem PT{t:Tr}{h:ad}{K:Int×Int×Int->eu}(d:∀h',Upd No h h'->K (t.2.1,t.2.2.1,t.2.2.2.1) h'):abw 171 [A4 t] K h:=by
 refine cZ (uj t) .nil Tryz.func171 Tryz.call171 ?_;dsimp only[uj,dH,abn,abo,li,ai,Ah,fH,lP,uJ];refine aV λf b1 k1=>aV λg b2 b=>?_
 have c1:=b.get0 b1;refine⟨_,gL c1 1 0,_,gL c1 1 1,_,gL c1 1 2,?_⟩;refine cy (c:= [.int .u64 0,.int .u64 0,.int .u64 0]) (vs:= [.int .u64 t.2.1,.int .u64 t.2.2.1,.int .u64 t.2.2.2.1]) b2 rfl λe b3 a=>?_
 exact⟨_,vc b3 0,_,vc b3 1,_,vc b3 2,d e ((k1.tr b).own a k1.size)⟩
theorem Kj{t:Tr}{h:ad}{K:aT->eu}(b:∀h',Upd No h h'->K t.2.2.2.2.2 h'):fx 173 [A4 t] K h:=by
 refine cZ (vB t) .nil Tryz.func173 Tryz.call173 ?_;dsimp only[vB,aF,lP,uJ];exact aV λa b1 k1=>⟨_,vc b1 5,b a k1⟩
theorem Vx{W:eh}{h:ad}(t:RadAt W h b l)(i:bO l)(f:Fit l):∃n:Bn,n.1= []/\RxN W h b ⟨#[]⟩ n.2.1 n.2.2/\NodeK n []/\pp [] n=l:=by
 obtain⟨w,F,j,d,c⟩:=t.ex;have a:=Si d i c;refine⟨([],w,F),rfl,j,⟨d,a7,λp a=>?_⟩,?_⟩
 .obtain⟨q,g,e,_⟩:=(c p.1 p.2).1 a
  have:=(f q g).1;rw[<-e];have k:q.1.data.toList.length=q.1.size:=d9;simp only[bC];omega
 .unfold pp
  show(wS w F).map (Cx ([]++ []))=l
  rw[a];unfold Tn;rw[iR];conv=>rhs;rw[<-List.map_id l]
  exact List.map_congr_left λp _=>by unfold Cx;simp[Qv]
theorem Q2{W:eh}{x x':Hs}{h:ad}{kind B:Int}{t u:Tr}(i:TreeIs W h kind x t l)(i':TreeIs W' h B x' u l')(hr:bO l)(hf:Fit l)(hn:l.length<=60000)(X:bO l')(hf':Fit l')(hn':l'.length<=60000)(E:mS t u=true->∀{M:eh} {h':ad} {s:f9} {L:List Ch} {K':Unit->eu},OwnS Jj 5 200 M h' s L->(∀b,M b->b<h'.size)->L.Perm (iE l l')->(∀h2,OwnS Jj 5 200 M h2 s (iE l l')->Upd M h' h2->K' () h2)->dx 175 [.slice s.a s.len s.cap,.func (.func 176) #[] #[]] K' h'){K:f9×Int->eu}
  (h0:mS t u=false->∀h',Upd No h h'->K (⟨none,0,0⟩,11) h')(hk:mS t u=true->∀h' s',OwnS Jj 5 200 (λy=>h.size<=y) h' s' (iE l l')->Upd No h h'->K (s',0) h'):MG 107 [A4 t,A4 u] K h:=by
 refine cZ (LI t u) UP Tryz.func107 Tryz.call107 ?_;dsimp only[LI,qY,cj,Nw,Te,mE,bh,ai,aF,Af,lP,uJ,Xe];refine aV λh1 b1 k1=>aV λh2 b2 k2=>?_
 have c1:=k2.get0 b1;refine⟨_,vc c1 0,_,vc c1 1,_,vc c1 2,_,vc c1 3,_,vc c1 4,_,vc c1 5,_,vc b2 0,_,vc b2 1,_,vc b2 2,_,vc b2 3,_,vc b2 4,_,vc b2 5,?_⟩;refine yP λh3 k3=>?_
 have J:=(k1.tr k2).tr k3;have H:=k3.get0 c1;have b3:=k3.get0 b2;rcases hl:mS t u with _|_
 .exact aw.2 (h0 hl h3 J)
 refine ag.2 ⟨_,vc H 0,_,vc H 1,_,vc H 2,_,vc H 3,_,vc H 4,_,vc H 5,?_⟩;refine PT λq k4=>?_
 refine aV λP b5 Z=>?_
 have A:=(J.tr k4).tr Z;have C:=Z.get0 (k4.get0 H);have d5:=Z.get0 (k4.get0 b3);have z5:=bw b5;have s4:=(J.tr k4).size;have s5:=Z.size;obtain⟨rfl,hx⟩:=TZ i i' hl;let z:Hs:=⟨t.2.1,t.2.2.1,t.2.2.2.1⟩
 have st:SetAt No P q.size z []:=⟨⟨⟨none,0,0⟩,b5,OwnS.nil WQ⟩,λ_ h=>h.elim,id⟩
 have Y:∀Q,Upd No P Q->∀h' j ys,SetAt j h' q.size z ([]++ys)->(∀b,j b->No b\/Q.size<=b)->Upd (λb=>No b\/b=q.size) Q h'->ys.Perm (iE l l')->∃j ys,SetAt j h' q.size z ys/\(∀y,j y->P.size<=y)/\Upd (λy=>y=q.size) P h'/\ys.Perm (iE l l'):=
  λQ o h' j ys st' hC' hu' v=>⟨j,ys,st',λy k=>(hC' y k).elim (λh=>h.elim) λh=>aQ o.size h,o.wide.trans hu' λb hb=>hb.elim (λh=>h.elim) λh=>.inl h,v⟩
 refine eM (λ_ h'=>∃j ys,SetAt j h' q.size z ys/\(∀y,j y->P.size<=y)/\Upd (λy=>y=q.size) P h'/\ys.Perm (iE l l')) (λR hR=>?_) ?_
 .refine⟨_,vc C 0,_,vc C 1,_,vc C 2,_,vc C 3,_,vc C 4,_,vc C 5,?_⟩
  refine NK λQ o=>?_
  have g:=o.get0 C;have c:=o.get0 d5;have i6:=(i.less (W':=λy=>h.size<=y) λ_ h=>.inr h).upd0 (A.tr o)
  have S:=(i'.less (W':=λy=>h.size<=y) λ_ h=>.inr h).upd0 (A.tr o)
  have T:∀y,No y\/y=q.size->h.size<=y:=λy k=>k.elim (λh=>h.elim) λe=>a4
  rcases i6 with⟨rfl,b,rfl,tt⟩|⟨rfl,b,rfl,tt⟩
  .rcases S with⟨_,b',rfl,p⟩|⟨e,_⟩
   .obtain rfl:=hx rfl
    refine ag.2 ⟨_,vc g 0,_,vc g 1,_,vc g 2,_,vc g 3,_,vc g 4,_,vc g 5,_,vc c 0,_,vc c 1,_,vc c 2,_,vc c 3,_,vc c 4,_,vc c 5,?_⟩;refine zJ tt λh7 m=>?_
    have f:=m.get0 c;refine⟨⟨vc f 0,vc f 1,vc f 2,vc f 3,vc f 4,vc f 5⟩,?_⟩;refine zJ (TrieAt.upd0 m p) λh8 N=>?_
    have a:=(o.tr m).tr N;refine Vg 13 (aj _) (TrieAt.upd0 (m.tr N) tt) (TrieAt.upd0 (m.tr N) p) (st.upd0 a) T (λy k=>by have:=a.size;omega) hr X a4 a4 a7 λys v h9 C9 d G I=>?_
    exact hR _ _ (Y h8 a h9 C9 ys d G I v)
   .cases e
  .rcases S with⟨e,_⟩|⟨_,b',rfl,p⟩
   .cases e
   .refine aw.2 ⟨_,vc g 0,_,vc g 1,_,vc g 2,_,vc g 3,_,vc g 4,_,vc g 5,_,vc c 0,_,vc c 1,_,vc c 2,_,vc c 3,_,vc c 4,_,vc c 5,?_⟩
    refine Kj λh7 m=>?_
    have f:=m.get0 c;refine⟨⟨vc f 0,vc f 1,vc f 2,vc f 3,vc f 4,vc f 5⟩,?_⟩;refine Kj λh8 N=>?_
    have a:=(o.tr m).tr N;obtain⟨n,e1,r1,nk,v⟩:=Vx (tt.upd0 (m.tr N)) hr hf;obtain⟨n',e1',r1',nk',O⟩:=Vx (p.upd0 (m.tr N)) X hf';obtain⟨lab,w,F⟩:=n;(try simp only at e1)
    subst e1;refine Kh (A0 nk.can) (sl:=⟨#[]⟩) (ahead:=⟨#[]⟩) r1 rfl r1' (by rw[e1']) nk nk' (st.upd0 a) T (λy k=>by have:=a.size;omega) (by show(pp [] _).length<=_;rw[v];omega) (by show(pp [] _).length<=_;rw[O];omega) (by show 0+(pp [] _).length+(pp [] _).length<=_;rw[v,O];omega) λh9 C9 d G I=>?_
    have d:SetAt C9 h9 q.size z ([]++iE (pp [] ([],w,F)) (pp [] n')):=d;rw[v,O]at d;exact hR _ _ (Y h8 a h9 C9 _ d G I (.refl _))
 .rintro _ Q ⟨C6,ys,D,V,hu6,v⟩
  obtain⟨s,e6,ho6⟩:=D.ex;refine⟨_,rfl,s,vc e6 3,?_⟩;refine E hl ho6 D.lt v λh7 ho7 U=>?_
  have e7:=U.get e6 D.ne;refine⟨_,rfl,s,vc e7 3,hk hl h7 s (ho7.more λy k=>by have:=V y k;omega) ?_⟩
  exact(A.trans hu6 λy k=>.inr a4).trans U λy k=>.inr (by have:=V y k;omega)
theorem StP.less{N M:Nat}(h:StP N)(hm:M<=N):StP M:=λw _ _ _ hc _ _ _ a hi b _ c=>h w hc a hi (aQ b hm) c
theorem Yk{b:dO}:kl a b↔bM a.data.toList b.data.toList=true:=by unfold kl;rw[ByteArray.toList_eq,ByteArray.toList_eq]
theorem S5{a b:UInt8}:bM (a::x) (b::y)=true↔a.toNat<b.toNat\/(a=b/\bM x y=true):=by
 simp only[bM,Bool.or_eq_true,decide_eq_true_iff,bA,beq_iff_eq,UInt8.lt_iff_toNat_lt]
theorem WX{x y:c6}:∀pre:c6,bM (pre++x) (pre++y)=true↔bM x y=true
 | []=>Iff.rfl
 |a::pre=>by rw[cG,cG,S5,WX pre];simp
theorem abj(h:bM x y=true)(hx:x≠[])(c:y≠[]):hd x<=hd y:=by
 match x,y,hx,c with
 |a::x,b::y,_,_=>
  show a.toNat<=b.toNat
  rcases S5.1 h with h|⟨rfl,_⟩<;>omega
abbrev ky(p:Pr):c6:=p.1.data.toList
def ace(l:bY)(pre k:c6)(v:dO):Prop:=∃p∈l,ky p=pre++k/\p.2=v
structure Beg(l:bY)(pre:c6):Prop where
 up:bO l
 at_:∀p∈l,(ky p).take pre.length=pre/\pre.length<(ky p).length
theorem Beg.sub(b:Beg l pre)(h:l'.Sublist l):Beg l' pre:=⟨b.up.sublist h,λp a=>b.at_ p (h.subset a)⟩
theorem Beg.split(b:Beg l pre){p:Pr}(a:p∈l):ky p=pre++(ky p).drop pre.length/\(ky p).drop pre.length≠[]:=by
 obtain⟨c,d⟩:=b.at_ p a;refine⟨?_,λe=>?_⟩
 .conv=>lhs;rw[<-bK pre.length (ky p),c]
 .have:=congrArg List.length e
  rw[List.length_drop,bC]at this;omega
def bt(n:Nat)(p:Pr):Nat:=hd ((ky p).drop n)
theorem Beg.mono(b:Beg (A++B) pre){x y:Pr}(hx:x∈A)(a:y∈B):bt pre.length x<=bt pre.length y:=by
 have h:=(cC.1 b.up).2.2 x hx y a;rw[Yk]at h;obtain⟨f,c⟩:=b.split (ci B hx);obtain⟨e,d⟩:=b.split (cr A a);change bM (ky x) (ky y)=true at h;rw[f,e,WX]at h;exact abj h c d
structure Row(L:List Bn)(D T:bY)(pre:c6):Prop where
 can:∀n∈L,UI n
 up:L.Pairwise λm n=>hd m.1<hd n.1
 lo:∀n∈L,∀p∈T,hd n.1<bt pre.length p
 got:∀k v,(∃n∈L,wz n k v)↔ace D pre k v
theorem Row.nil(T:bY)(pre:c6):Row [] [] T pre:=⟨λn h=>(by cases h),cq,λn h=>(by cases h),λk v=>⟨λ⟨n,h,_⟩=>(by cases h),λ⟨p,h,_⟩=>(by cases h)⟩⟩
theorem Row.more{p:Pr}(r:Row L D (A++B) pre)(j:Beg (A++B) pre)(o:p∈A)(_:∀a∈A,bt pre.length a=bt pre.length p)(u:∀b d,B=b::d->bt pre.length b≠bt pre.length p)(hc:UI n)(s:hd n.1=bt pre.length p)(i:∀k v,wz n k v↔ace A pre k v):Row (L++ [n]) (D++A) B pre:=by
 refine⟨λm hm=>?_,cC.2 ⟨r.up,List.pairwise_singleton ..,λa t b hb=>?_⟩,λm hm q c=>?_,λk v=>?_⟩
 .rcases aL.1 hm with hm|hm
  .exact r.can m hm
  .rw[av.1 hm];exact hc
 .rw[av.1 hb,s]
  exact r.lo a t p (ci _ o)
 .rcases aL.1 hm with hm|hm
  .exact r.lo m hm q (cr _ c)
  .rw[av.1 hm,s]
   rcases B with _|⟨f,d⟩
   .cases c
   have x:=u f d rfl;have y:=j.mono o (al (a:=f) (l:=d));rcases au.1 c with rfl|c
   .omega
   .have g:Beg ([f]++d) pre:=j.sub (List.sublist_append_right A _)
    have:=g.mono (av.2 rfl) c;omega
 .constructor
  .rintro⟨m,hm,hi⟩
   rcases aL.1 hm with hm|hm
   .obtain⟨q,c,e⟩:=(r.got k v).1 ⟨m,hm,hi⟩
    exact⟨q,ci _ c,e⟩
   .rw[av.1 hm]at hi
    obtain⟨q,c,e⟩:=(i k v).1 hi;exact⟨q,cr _ c,e⟩
  .rintro⟨q,c,e⟩
   rcases aL.1 c with c|c
   .obtain⟨m,hm,hi⟩:=(r.got k v).2 ⟨q,c,e⟩
    exact⟨m,ci _ hm,hi⟩
   .exact⟨n,cr _ (av.2 rfl),(i k v).2 ⟨q,c,e⟩⟩
theorem Row.done(r:Row L D [] pre):eK (.ofL L)/\∀k v,qh (.ofL L) k v↔ace D pre k v:=by
 refine⟨dB.2 ?_,λk v=>?_⟩
 .rw[Fo.to_of];exact⟨r.up,r.can⟩
 .rw[eW,Fo.to_of];exact r.got k v
theorem Kid.less{W:eh}{h:ad}(hm:∀b,W' b->W b\/h.size<=b){a:aT}:Kid W h a n->Kid W' h a n
 |⟨b,sl,e1,e2,e3⟩=>⟨b,sl,e1,e2,e3.less hm⟩
theorem Kid.updM{W:eh}{h:ad}(k:Upd M h h')(hm:∀b,M b->W b\/h.size<=b){a:aT}:Kid W h a n->Kid W h' a n
 |⟨b,sl,e1,e2,e3⟩=>⟨b,sl,e1,e2,e3.updM k hm⟩
theorem RxL.less{W:eh}{h:ad}(hm:∀b,W' b->W b\/h.size<=b)(r:RxL W h ks L):RxL W' h ks L:=⟨r.1,λp a=>(r.2 p a).less hm⟩
theorem RxL.updM{W:eh}{h:ad}(k:Upd M h h')(hm:∀b,M b->W b\/h.size<=b)(r:RxL W h ks L):RxL W h' ks L:=⟨r.1,λp a=>(r.2 p a).updM k hm⟩
theorem ZI{h:ad}{t:Tr}(e:∀h',h'[h.size]? =some (.cells (jJ t).toArray 50 (0,0))->Upd No h h'->k h'):
  At (hnew h (jJ wI) 50) (λb=>qR b (some (aH h)) 0 (jJ t)/\At (fu b (aH h) 0 (jJ t)) k):=
 aV λ_ b1 k1=>cy (c:=jJ wI) (vs:=jJ t) b1 rfl λd b2 a=>e d b2 (k1.own a (aj _))
def aaf(s:dO):dO:=s.extract 0 (if 40<(s.size:Int)then 40 else(s.size:Int)).toNat
theorem Hx{h:ad}{r:Rt}(e:∀h',h'[h.size]? =some (.cells (uN r).toArray 129 (0,0))->Upd No h h'->k h'):
  At (hnew h (uN Sf) 129) (λb=>qR b (some (aH h)) 0 (uN r)/\At (fu b (aH h) 0 (uN r)) k):=
 aV λ_ b1 k1=>cy (c:=uN Sf) (vs:=uN r) b1 rfl λd b2 a=>e d b2 (k1.own a (aj _))
abbrev aaj:c5:= [.string (⟨#[]⟩:dO),.string (⟨#[]⟩:dO),.string (⟨#[]⟩:dO),.bool false,.bool false]
theorem aaI{h:ad}{c:Ch}(d:∀h',h'[h.size]? =some (.cells (Jj c).toArray t (0,0))->Upd No h h'->k h'):
  At (hnew h aaj t) λb=>qR b (some (aH h)) 0 (Jj c)/\At (fu b (aH h) 0 (Jj c)) k:=
 aV λ_ b1 k1=>cy (c:=aaj) (vs:=Jj c) b1 rfl λe b2 a=>d e b2 (k1.own a (aj _))
abbrev b1:dO:=⟨#[49]⟩
abbrev b2:dO:=⟨#[50]⟩
abbrev b3:dO:=⟨#[51]⟩
def look(l:bY)(k:dO):Option dO:=(l.find? λp=>decide (p.1=k)).map (·.2)
theorem KL{k:dO}(h:cE l k=false):look l k=none:=by
 unfold look;rw[Option.map_eq_none_iff,List.find?_eq_none];intro p a;unfold cE at h;rw[List.any_eq_false]at h;exact h p a
theorem tB:∀{l:bY} {k v:dO},bO l->(k,v)∈l->look l k=some v
 |p::l,k,v,a,h=>by
  have a:=aC.1 a;unfold look;rw[lX];rcases au.1 h with e|h
  .subst e;simp
  .have b:p.1≠k:=λe=>by
    have:=a.1 _ h;simp only at this;rw[e]at this;exact bT _ this
   rw[decide_eq_false b];exact tB a.2 h
theorem SG(c:bO l){k:dO}(a:cE l k=true->(k,v)∈l)(b:cE l k=false->v=⟨#[]⟩):((look l k).getD ⟨#[]⟩,(look l k).isSome)=(v,cE l k):=by
 cases ht:cE l k with
 |true=>rw[tB c (a ht)];rfl
 |false=>rw[KL ht,b ht];rfl
theorem TY{x:Hs}{lev:Nat}{k:dO}:look (part x lev (ck x lev k) l) k=look l k:=by
 unfold look part;congr 1
 rw[List.find?_filter];congr 1
 funext p;by_cases e:p.1=k
 .rw[e];simp
 .simp[e]
theorem O4{W:eh}{x:Hs}{h:ad}(t:TrieAt W x h 13 b l)(U:∀y,W y->y<h.size)(T:bO l)(hn:l.length<=1000000)(k:dO){K:dO×Bool->eu}
  (L:∀h',Upd No h h'->K ((look l k).getD ⟨#[]⟩,(look l k).isSome) h'):sX 236 [.agg #[.int .u64 x.k0,.int .u64 x.k1,.int .u64 x.mask],gV b,.string k] K h:=by
 refine cZ (FI (x.k0,x.k1,x.mask) (some ⟨b,0,none⟩) k) Pw Tryz.func236 Tryz.call236 ?_;dsimp only[FI,bq,nv,Cj,yi,gD,yI,nC,jM,vZ,li,ai,gj];refine aV λh1 b1 k1=>⟨_,vc b1 0,_,vc b1 1,_,vc b1 2,?_⟩
 refine vg λh2 Z=>?_
 have q:=k1.tr Z;refine L6 (.inr ⟨b,rfl,TrieAt.upd0 q t⟩) (λy hy=>aA (U y hy) q.size) λh3 b3 V X _=>?_
 have H:=q.tr X;refine eF (λ(g:Nat×Nat×bY) (t:aT×Int) h'=>t=(some ⟨g.2.1,0,none⟩,((13-g.1:Nat):Int))/\g.1<=13/\TrieAt W x h' g.1 g.2.1 g.2.2/\bO g.2.2/\g.2.2.length<=1000000/\look g.2.2 k=look l k/\Upd No h h') (λg=>g.1) (13,b3,l)
  ⟨rfl,aj _,V,T,hn,rfl,H⟩ ?_
 rintro I ⟨m,c,B⟩ t h4 ⟨rfl,hm,tm,j,A,u,E⟩ hI;(try simp only at hm tm j A u)
 rcases m with _|m
 .obtain⟨sp,sk,ow,hb,_⟩:=BuckAt.ex tm
  refine eT hb (aw.2 (V7 tm j a4 k λQ v J w z=>?_))
  have:=L Q (E.tr J);rw[<-u,SG j w z]at this;exact this
 .obtain⟨s,nd,O⟩:=tm
  have O:∀c,c<32->SlotIs W x h4 m s c (part x (12-m) c B):=O;obtain⟨d,n,sp,sk,ow,hb,_⟩:=nd.ex;refine eT hb (ag.2 ?_);refine Uq a4 ?_;rw[show 13-(m+1)=12-m by omega]
  have hi:=zk x (12-m) k;have o:=O _ hi;have f:look (part x (12-m) (ck x (12-m) k) B) k=look l k:=by rw[TY,u]
  have C:bO (part x (12-m) (ck x (12-m) k) B):=is j;have D:(part x (12-m) (ck x (12-m) k) B).length<=1000000:=aQ lJ A;generalize part x (12-m) (ck x (12-m) k) B=lp at o f C D;generalize ck x (12-m) k=i at hi o;refine yX nd hi λQ J=>?_
  refine yk λF P Y=>?_
  have a:=J.tr Y;rcases o with⟨G,w,z⟩|⟨p,G,w,z⟩|⟨_,w,S,z,tk⟩
  .rw[w]
   refine ag.2 (u0 (nd.upd a λ_ h=>h.elim) hi ?_)
   rw[z];refine aw.2 ?_;have:=L F (E.tr a);rw[<-f,G]at this;exact this
  .rw[w]at P⊢
   refine aw.2 ⟨p.1,vc P 0,?_⟩;rw[dV];have:=L F (E.tr a);rw[<-f,G]at this;by_cases e:p.1=k
   .rw[decide_eq_true e]
    refine ag.2 ⟨p.2,vc P 1,?_⟩;have N:look [p] k=some p.2:=by unfold look;rw[lX,decide_eq_true e];rfl
    rw[N]at this;exact this
   .rw[decide_eq_false e]
    have N:look [p] k=none:=by unfold look;rw[lX,decide_eq_false e];rfl
    rw[N]at this;exact aw.2 this
  .rw[w]
   refine ag.2 (u0 (nd.upd a λ_ h=>h.elim) hi ?_)
   rw[z];refine ag.2 ?_;have R:ac .i64 (((13-(m+1):Nat):Int)+1)=((13-m:Nat):Int):=by rw[dw a4];omega
   rw[show 13-(m+1)=12-m by omega]at R
   show I (some ⟨S,0,none⟩,ac .i64 (((12-m:Nat):Int)+1)) F
   rw[R];exact hI (m,S,lp) _ F ⟨rfl,by(try simp only);omega,TrieAt.upd0 a tk,C,D,f,E.tr a⟩ (by(try simp only);omega)
abbrev Sd:=dO×Bool
abbrev Zw(s:Sd):c5:= [.string s.1,.bool s.2]
theorem L9(a b:Sd):((a.1.toList==b.1.toList)&&((a.2==b.2)&&true))=decide (a=b):=by
 rw[dV];by_cases e:a=b
 .subst e;simp
 .rw[decide_eq_false e]
  obtain⟨d,c⟩:=a;obtain⟨b1,b2⟩:=b;simp only[Prod.mk.injEq]at e;rw[Bool.eq_false_iff];intro h;simp only[bA,decide_eq_true_iff,beq_iff_eq,and_true]at h;exact e h
theorem Y9{h:ad}{s:Sd}(d:∀h',h'[h.size]? =some (.cells (Zw s).toArray t (0,0))->Upd No h h'->k h'):
  At (hnew h [.string (⟨#[]⟩:dO),.bool false] t) λb=>qR b (some (aH h)) 0 (Zw s)/\At (fu b (aH h) 0 (Zw s)) k:=
 aV λ_ b1 k1=>cy (c:= [.string (⟨#[]⟩:dO),.bool false]) (vs:=Zw s) b1 rfl λe b2 a=>d e b2 (k1.own a (aj _))
def yO(b o t:Sd)(p:Int):Sd×Bool:=if o=t\/t=b then(o,true)else if o=b then(t,true)else if p=1 then(o,false)else if p=2 then(t,false)else(b,false)
theorem yV{h:ad}{c:c5}{s:Sd}{g:Bool}{K:Sd×Bool->eu}(hb:h[b]? =some (.cells c.toArray t (0,0))) (hc:c.length=2) (e:∀h',Upd (· =b) h h'->K (s,g) h'):
  qR h (some ⟨b,0,none⟩) 0 [.string s.1,.bool s.2]/\At (fu h ⟨b,0,none⟩ 0 [.string s.1,.bool s.2]) (λh'=>∃v1:dO,aI h' (adr ⟨b,0,none⟩ 0)=some (.string v1)/\∃v2:Bool,aI h' (adr ⟨b,0,none⟩ 1)=some (.bool v2)/\K ((v1,v2),g) h'):=
 cy (c:=c) (vs:=Zw s) hb (by rw[hc];rfl) λd b2 a=>⟨s.1,vc b2 0,s.2,vc b2 1,e d a⟩
theorem VT{b o t:Sd}{h:ad}{K:Sd×Bool->eu}(y:∀h',Upd No h h'->K (yO b o t p) h'):Yn 109 [.agg #[.string b.1,.bool b.2],.agg #[.string o.1,.bool o.2],.agg #[.string t.1,.bool t.2],.int .i64 p] K h:=by
 refine cZ (Dk b o t p) Nk Tryz.func109 Tryz.call109 ?_;dsimp only[Dk,FJ,yE,uT,bq,iu,Eo,dH,Zm];refine aV λz b1 k1=>aV λA b2 q=>aV λv b3 i=>aV λn f k=>?_
 have c1:=k.get0 (i.get0 (q.get0 b1));have d:=k.get0 (i.get0 b2);have c:=k.get0 b3;have x:h.size<=v.size:=((k1.tr q).tr i).size;have m:Upd No h n:=((k1.tr q).tr i).tr k;have fin:∀{h'} (s:Sd) (g:Bool),yO b o t p=(s,g)->Upd (· =v.size) n h'->K (s,g) h':=λs g e a=>by rw[<-e];exact y _ (m.own a x)
 unfold yO at fin;refine eM (λu h'=>h'=n/\u=decide (o=t\/t=b)) (λR w=>?_) ?_
 .refine⟨o.1,vc d 0,o.2,vc d 1,t.1,vc c 0,t.2,vc c 1,?_⟩
  rw[L9 o t];by_cases e:o=t
  .rw[decide_eq_true e]
   exact aw.2 (w _ _ ⟨rfl,(decide_eq_true (.inl e)).symm⟩)
  .rw[decide_eq_false e]
   refine ag.2 ⟨t.1,vc c 0,t.2,vc c 1,b.1,vc c1 0,b.2,vc c1 1,w _ _ ⟨rfl,?_⟩⟩;rw[L9 t b,decide_eq_decide];exact⟨.inr,λh=>h.elim (λh=>absurd h e) id⟩
 rintro u h' ⟨rfl,rfl⟩;refine aq (λe=>?_) λe=>?_
 .rw[if_pos e]at fin
  exact⟨o.1,vc d 0,o.2,vc d 1,yV (s:=o) f rfl λj a=>fin _ _ rfl a⟩
 rw[if_neg e]at fin;refine⟨o.1,vc d 0,o.2,vc d 1,b.1,vc c1 0,b.2,vc c1 1,?_⟩;rw[L9 o b];refine aq (λe=>?_) λe=>?_
 .rw[if_pos e]at fin
  exact⟨t.1,vc c 0,t.2,vc c 1,yV (s:=t) f rfl λj a=>fin _ _ rfl a⟩
 rw[if_neg e]at fin;refine ez (λe=>?_) λe=>?_
 .rw[if_pos (by simpa using e)]at fin
  exact⟨o.1,vc d 0,o.2,vc d 1,yV (s:=o) f rfl λj a=>fin _ _ rfl a⟩
 rw[if_neg (by simpa using e)]at fin;refine ez (λe=>?_) λe=>?_
 .rw[if_pos (by simpa using e)]at fin
  exact⟨t.1,vc c 0,t.2,vc c 1,yV (s:=t) f rfl λj a=>fin _ _ rfl a⟩
 .rw[if_neg (by simpa using e)]at fin
  exact⟨b.1,vc c1 0,b.2,vc c1 1,yV (s:=b) f rfl λj a=>fin _ _ rfl a⟩
theorem Vz{b o t:Sd}{h:ad}{K:Sd×Bool->eu}(x:∀h',Upd No h h'->K (yO b o t p) h'):Yn 119 [.agg #[.string b.1,.bool b.2],.agg #[.string o.1,.bool o.2],.agg #[.string t.1,.bool t.2],.int .i64 p] K h:=by
 refine cZ (IS b o t p) .nil Tryz.func119 Tryz.call119 ?_;dsimp only[IS,FJ,yE,uT,bq,iu,Eo,dH,Zm];refine aV λA b1 k1=>aV λB b2 n=>aV λv b3 j=>aV λu f k=>?_
 have c1:=k.get0 (j.get0 (n.get0 b1));have c:=k.get0 (j.get0 b2);have d:=k.get0 b3;have w:h.size<=v.size:=((k1.tr n).tr j).size;have m:Upd No h u:=((k1.tr n).tr j).tr k;have fin:∀{h'} (s:Sd) (g:Bool),yO b o t p=(s,g)->Upd (· =v.size) u h'->K (s,g) h':=λs g e a=>by rw[<-e];exact x _ (m.own a w)
 unfold yO at fin;refine⟨o.1,vc c 0,o.2,vc c 1,t.1,vc d 0,t.2,vc d 1,?_⟩;rw[L9 o t];refine aq (λe=>?_) λq=>?_
 .rw[if_pos (.inl e)]at fin
  exact⟨o.1,vc c 0,o.2,vc c 1,yV (s:=o) f rfl λi a=>fin _ _ rfl a⟩
 refine⟨o.1,vc c 0,o.2,vc c 1,b.1,vc c1 0,b.2,vc c1 1,?_⟩;rw[L9 o b];refine aq (λe=>?_) λz=>?_
 .rw[if_neg (λh=>h.elim q λh=>q (by rw[e,h])),if_pos e]at fin
  exact⟨t.1,vc d 0,t.2,vc d 1,yV (s:=t) f rfl λi a=>fin _ _ rfl a⟩
 refine⟨t.1,vc d 0,t.2,vc d 1,b.1,vc c1 0,b.2,vc c1 1,?_⟩;rw[L9 t b];refine aq (λe=>?_) λy=>?_
 .rw[if_pos (.inr e)]at fin
  exact⟨o.1,vc c 0,o.2,vc c 1,yV (s:=o) f rfl λi a=>fin _ _ rfl a⟩
 rw[if_neg (λh=>h.elim q y),if_neg z]at fin
 refine ez (λe=>?_) λe=>?_
 .rw[if_pos (by simpa using e)]at fin
  exact⟨o.1,vc c 0,o.2,vc c 1,yV (s:=o) f rfl λi a=>fin _ _ rfl a⟩
 rw[if_neg (by simpa using e)]at fin;refine ez (λe=>?_) λe=>?_
 .rw[if_pos (by simpa using e)]at fin
  exact⟨t.1,vc d 0,t.2,vc d 1,yV (s:=t) f rfl λi a=>fin _ _ rfl a⟩
 .rw[if_neg (by simpa using e)]at fin
  exact⟨b.1,vc c1 0,b.2,vc c1 1,yV (s:=b) f rfl λi a=>fin _ _ rfl a⟩
abbrev aaM:dO:=⟨#[102,97,105,108]⟩
abbrev aaK:dO:=⟨#[111,117,114,115]⟩
abbrev X8:dO:=⟨#[116,104,101,105,114,115]⟩
abbrev aaL:dO:=⟨#[107,101,101,112]⟩
def EY(p:Int):dO:=if p=0 then aaM else if p=1 then aaK else if p=2 then X8 else if p=3 then aaL else⟨#[]⟩
theorem Cr{h:ad}{K:dO->eu}(a:K (EY p) h):Cw 55 [.int .i64 p] K h:=by
 refine cZ (Dl p) .nil Tryz.func55 Tryz.call55 ?_;unfold Dl;unfold EY at a;refine ez (λe=>?_) λe=>?_
 .rw[if_pos (by simpa using e)]at a;exact a
 rw[if_neg (by simpa using e)]at a;refine ez (λe=>?_) λe=>?_
 .rw[if_pos (by simpa using e)]at a;exact a
 rw[if_neg (by simpa using e)]at a;refine ez (λe=>?_) λe=>?_
 .rw[if_pos (by simpa using e)]at a;exact a
 rw[if_neg (by simpa using e)]at a;refine ez (λe=>?_) λe=>?_
 .rw[if_pos (by simpa using e)]at a;exact a
 .rw[if_neg (by simpa using e)]at a;exact a
section
variable {W:eh} {h:ad} {vp:Nat} {s:VS}
theorem AX(v:VaultAt W h vp s){n m:dO}{a b:Int}(x:bE s.B n=some a)(hb:bE s.B m=some b)(C:((EY p).toList==(⟨#[]⟩:dO).toList)=false)(z:(b=0\/UpG s.L a b)\/(a=0\/UpG s.L b a))
  {K:Int×f9×Int->eu}(g:(b=0\/UpG s.L a b)->∀h',Upd No h h'->K (a,⟨none,0,0⟩,0) h')(i:¬(b=0\/UpG s.L a b)->∀h',Upd s.M h h'->VaultAt W h' vp {s with B:=kw s.B n b}->K (b,⟨none,0,0⟩,0) h'):
  V9 20 [pV vp,.string n,.string m,.int .i64 p] K h:=by
 refine kz (some ⟨vp,0,none⟩) n m p ?_;dsimp only[iI,cB,bh,ai,dC,aF,dH,nv,tD,wJ,uJ,qY,Ob,gD,Xn,uL,wO,mE,cL,Af,F7];refine iG v n (iG v m ?_);rw[x,hb];refine fo (ag.2 (ag.2 (Cr ?_)));rw[C];refine ag.2 (tx v b a λc D hc k1=>ez (λe=>g (hc.1 e) D k1) λe=>?_)
 have u:¬(b=0\/UpG s.L a b):=λE=>by rw[hc.2 E]at e;cases e
 have q:=v.upd0 k1;refine tx q a b λF o k t=>?_
 rw[k.2 (z.resolve_left u)];have f:=q.upd0 t;refine aw.2 ⟨_,rfl,_,vc f.blk 8,_,rfl,f.b.isMap,Ij λj d=>?_⟩
 have d:j=fC o s.bm (kStr.enc n) (OH b):=d;have w:Upd (· =s.bm) o j:=by rw[d];exact jN o _ _ rfl
 exact i u j ((k1.tr t).wide.tr (w.mono λy A=>.inl (.inr (.inr (.inr (.inl A)))))) (f.setB w (by rw[d];exact f.b.put n b))
end
end
section
open Go.Lift
variable {W:eh}{kind:Int}{x:Hs}{K:aT×Int->eu}
structure NSt(h8:ad)(b:Nat)(t:Tr)(h:ad)(ps ms:List Nat):Prop where
 k:Upd No h8 h
 blk:h[b]? =some (.cells (jJ t).toArray 50 (0,0))
 gs:∀p∈ps,GraphAt (BF (p+1) p) h (p+1) p [] 1/\h8.size<=p
 mp:∀m∈ms,h[m]? =some (.map #[] 0)/\h8.size<=m
section
variable {h8 h h':ad} {b:Nat} {t:Tr} {ps ms:List Nat}
theorem NSt.upd(n:NSt h8 b t h ps ms)(k:Upd No h h'):NSt h8 b t h' ps ms:=
 ⟨n.k.tr k,k.get0 n.blk,λp a=>⟨(n.gs p a).1.upd0 k,(n.gs p a).2⟩,λm hm=>⟨k.get0 (n.mp m hm).1,(n.mp m hm).2⟩⟩
theorem NSt.rds(n:NSt h8 b t h ps ms):aI h (adr ⟨b,0,none⟩ 0)=some (.int .i64 t.1)/\aI h (adr ⟨b,0,none⟩ 1)=some (.int .u64 t.2.1)/\aI h (adr ⟨b,0,none⟩ 2)=some (.int .u64 t.2.2.1)/\aI h (adr ⟨b,0,none⟩ 3)=some (.int .u64 t.2.2.2.1)/\aI h (adr ⟨b,0,none⟩ 4)=some (.pointer t.2.2.2.2.1)/\aI h (adr ⟨b,0,none⟩ 5)=some (.pointer t.2.2.2.2.2):=
 ⟨vc n.blk 0,vc n.blk 1,vc n.blk 2,vc n.blk 3,vc n.blk 4,vc n.blk 5⟩
theorem NSt.map(n:NSt h8 b t h ps ms){k:eu}(a:∀h',NSt h8 b t h' ps (h.size::ms)->h.size<h'.size->k h'):At (Array.push h (.map #[] 0)) k:=by
 have c:=Upd.push No h (.map #[] 0);have n':=n.upd c;refine bF (a _ ⟨n'.k,n'.blk,n'.gs,λm hm=>?_⟩ a7)
 rcases au.1 hm with rfl|hm
 .exact⟨mO h _,n.k.size⟩
 .exact n'.mp m hm
theorem NSt.graph(n:NSt h8 b t h ps ms){K:aT->eu}(c:∀h',NSt h8 b t h' (h.size::ps) ms->h.size+1<h'.size->K (some ⟨h.size+1,0,none⟩) h'):fx 47 [] K h:=by
 refine Yp λh' d g=>?_
 have n':=n.upd d;refine c h' ⟨n'.k,n'.blk,λp a=>?_,n'.mp⟩ (g.lt _ (.inl rfl))
 rcases au.1 a with rfl|a
 .exact⟨g,n.k.size⟩
 .exact n'.gs p a
theorem NSt.put(n:NSt h8 b t h ps ms){cs:c5}{ty:TypeId}{k:eu}(a:∀h',NSt h8 b t h' ps ms->h'[h.size]? =some (.cells cs.toArray ty (0,0))->h8.size<=h.size->k h'):At (hnew h cs ty) k:=
 aV λh' b' k'=>a h' (n.upd k') b' n.k.size
theorem NSt.done(n:NSt h8 b t h ps ms)(z:∀y,W y->y<h8.size)(i:TreeIs W h8 kind x t [])(w:kind=0\/kind=1){c p j o k:Nat}
  (A:∀h' vp gp gm tm bm nm,VaultAt (λy=>W y\/VS.M ⟨gp,gm,tm,bm,nm,kind,x,t,[],1,[],[],[]⟩ y) h' vp ⟨gp,gm,tm,bm,nm,kind,x,t,[],1,[],[],[]⟩->h8.size<=vp->(∀y,VS.M ⟨gp,gm,tm,bm,nm,kind,x,t,[],1,[],[],[]⟩ y->h8.size<=y)->Upd No h8 h'->K (some ⟨vp,0,none⟩,0) h')
  (B:h[c]? =some (.cells (jJ t++ [Value.pointer (some ⟨p+1,0,none⟩),Value.map (some j),Value.map (some o),Value.map (some k)]).toArray 96 (0,0)))
  (hv:h8.size<=c) (f:∀m∈(p+1)::p::ms,c≠m) (C:p∈ps) (s:j∈ms) (u:o∈ms) (q:k∈ms) (ne: [p+1,p,j,o,k].Nodup):K (some ⟨c,0,none⟩,0) h:=by
 obtain⟨g,D⟩:=n.gs p C;have hM:∀y,VS.M ⟨p+1,p,j,o,k,kind,x,t,[],1,[],[],[]⟩ y->h8.size<=y/\y<h.size/\c≠y:=λy a=>by
  rcases a with e|e|e|e|e<;>(simp only at e;subst e)
  .exact⟨a4,g.lt _ (.inl rfl),f _ a7⟩
  .exact⟨D,g.lt _ (.inr rfl),f _ a7⟩
  .exact⟨(n.mp _ s).2,bw (n.mp _ s).1,f _ (by simp[s])⟩
  .exact⟨(n.mp _ u).2,bw (n.mp _ u).1,f _ (by simp[u])⟩
  .exact⟨(n.mp _ q).2,bw (n.mp _ q).1,f _ (by simp[q])⟩
 obtain⟨m,hm,v⟩:=g.map;have em:∀{κ β:Type} {E:KeyE κ} {g:β->Value} {r:Nat},h[r]? =some (.map #[] 0)->MapAt E g h r []:=λv=>⟨[],0,⟨v,p7,p7,λ_ h=>by cases h⟩,rfl⟩
 refine A h c (p+1) p j o k ⟨B,⟨g.blk,⟨m,hm,λid=>(v id).elim (λ⟨_,_,_,e,_⟩=>by cases e) .inr⟩,.inr (.inl rfl),.inr (.inr (.inl rfl)),λy a=>a.elim (λe=>aA (z y e) n.k.size) λe=>(hM y e).2.1,g.nd⟩,em (n.mp _ s).1,em (n.mp _ u).1,em (n.mp _ q).1,λy a=>.inr a,λa=>a.elim (λe=>by have:=z _ e;omega) λe=>(hM _ e).2.2 rfl,ne,?_,λd hd=>(by cases hd),λid=>tu,Inv.nil,w⟩ hv (λy a=>(hM y a).1) n.k
 exact(i.less λy a=>a.imp id λe=>(hM y e).1).upd0 n.k
end
theorem RP{h:ad}(o:∀y,W y->y<h.size)(m:kind=0\/kind=1)
  (B:∀h' d gp gm tm bm nm t,VaultAt (λy=>W y\/VS.M ⟨gp,gm,tm,bm,nm,kind,x,t,[],1,[],[],[]⟩ y) h' d ⟨gp,gm,tm,bm,nm,kind,x,t,[],1,[],[],[]⟩->h.size<=d->(∀y,VS.M ⟨gp,gm,tm,bm,nm,kind,x,t,[],1,[],[],[]⟩ y->h.size<=y)->Upd No h h'->K (some ⟨d,0,none⟩,0) h'):
  aa4 15 [.int .i64 kind,.agg #[.int .u64 x.k0,.int .u64 x.k1,.int .u64 x.mask]] K h:=by
 refine cZ (Fi kind (x.k0,x.k1,x.mask)) .nil Tryz.func15 Tryz.call15 ?_;dsimp only[Fi,bh,ai,aF,nv,Cj,yi,wJ,uJ,mE,li,Af,Em];refine aV λH b1 k1=>⟨_,vc b1 0,_,vc b1 1,_,vc b1 2,?_⟩
 refine R0 (W:=W) (x:=x) (λy b=>aA (o y b) k1.size) m λA t i w=>?_
 have k:=k1.tr w;refine aV λG u q=>cy (c:=jJ wI) (vs:=jJ t) u rfl λg f j=>ag.2 ?_
 have a:Upd No h g:=(k.tr q).own j k.size;have C:TreeIs W g kind x t []:=((i.less (W':=λy=>W y\/y=A.size) λy b=>b.imp id λe=>Nat.le_of_eq e.symm).updM (q.wide.tr (j.mono λ_ e=>.inl (.inr e))) λy b=>.inl b).less λy b=>.inl (.inl b)
 have p:∀y,W y->y<g.size:=λy b=>aA (o y b) a.size
 have s:∀h' d gp gm tm bm nm,VaultAt (λy=>W y\/VS.M ⟨gp,gm,tm,bm,nm,kind,x,t,[],1,[],[],[]⟩ y) h' d ⟨gp,gm,tm,bm,nm,kind,x,t,[],1,[],[],[]⟩->g.size<=d->(∀y,VS.M ⟨gp,gm,tm,bm,nm,kind,x,t,[],1,[],[],[]⟩ y->g.size<=y)->Upd No g h'->K (some ⟨d,0,none⟩,0) h':=
  λh' d gp gm tm bm nm v hv hM F=>B h' d gp gm tm bm nm t v (aQ a.size hv) (λy b=>aQ a.size (hM y b)) (a.tr F)
 have n:NSt g A.size t g [] []:=⟨eQ _ _,f,λ_ h=>(by cases h),λ_ h=>(by cases h)⟩
 refine⟨_,vc f 0,_,vc f 1,_,vc f 2,_,vc f 3,_,vc f 4,_,vc f 5,?_⟩;clear B a o f j k i w q u b1 k1;repeat' first
  |refine⟨n.rds,?_⟩
  |refine n.graph λ_ n z=>?_
  |refine n.map λ_ n z=>?_
  |refine n.put λ_ n D E=>?_
  |exact n.done p C m s D E a9 a7 a7 a7 a7 a9
  |refine And.intro ?_ ?_
end
section
open Go.Lift
variable {x:Hs}{b:Nat}{W W':eh}
theorem VH{h:ad}{K:Int×Int×Int->eu}(f:∀h',Upd No h h'->K (x.k0,x.k1,x.mask) h'):abw 22 [.agg #[.int .u64 x.k0,.int .u64 x.k1,.int .u64 x.mask]] K h:=by
 refine cZ (LG (x.k0,x.k1,x.mask)) .nil Tryz.func22 Tryz.call22 ?_;dsimp only[LG,ai,dH,Cj,fH,abn,abo,li];refine aV λg b1 k1=>aV λi b2 d=>?_
 have c1:=d.get0 b1;refine⟨_,gL c1 0 0,_,gL c1 0 1,_,vc c1 2,?_⟩;refine cy (c:= [.int .u64 0,.int .u64 0,.int .u64 0]) (vs:= [.int .u64 x.k0,.int .u64 x.k1,.int .u64 x.mask]) b2 rfl λe b a=>?_
 exact⟨_,vc b 0,_,vc b 1,_,vc b 2,f e ((k1.tr d).own a k1.size)⟩
theorem WG(s:dO):s.extract 0 ((if 30<(s.size:Int)then 30 else(s.size:Int)).toNat)=Lg s:=by
 unfold Lg;rw[show((if 30<(s.size:Int)then(30:Int)else(s.size:Int)).toNat)=min s.size 30 from by split<;>omega]
theorem Wt{p:Pr}{h:ad}{K:dO×dO->eu}(f:∀h',Upd No h h'->K (abd p) h'):aa5 75 [.agg #[.string p.1,.string p.2]] K h:=by
 refine cZ (LH p) .nil Tryz.func75 Tryz.call75 ?_;dsimp only[LH,bq,dH,lG,nC,nW,gj,Z6,rx,yI];refine aV λg b1 k1=>aV λi b2 d=>?_
 have c1:=d.get0 b1;refine⟨_,vc c1 0,_,vc c1 0,⟨cv,cv⟩,_,vc c1 1,_,vc c1 1,⟨cv,cv⟩,?_⟩
 refine cy (c:= [.string ⟨#[]⟩,.string ⟨#[]⟩]) (vs:= [.string (p.1.extract 0 ((if 30<(p.1.size:Int)then 30 else(p.1.size:Int)).toNat)),.string (p.2.extract 0 ((if 30<(p.2.size:Int)then 30 else(p.2.size:Int)).toNat))]) b2 rfl λe b a=>?_
 rw[WG,WG]at b;exact⟨_,vc b 0,_,vc b 1,f e ((k1.tr d).own a k1.size)⟩
theorem _root_.Go.Lift.Upd.fresh{M:eh}{h a b:ad}(k:Upd No h a)(u:Upd M a b)(hM:∀y,M y->h.size<=y):Upd No h b:=k.trans u λy c=>.inr (hM y c)
abbrev Hy:dO:=⟨#[109,97,105,110]⟩
abbrev Oo:dO:=⟨#[115,105,100,101]⟩
theorem Rb{h:ad}{K:Bool->eu}(hk:∀h',Upd No h h'->K true h'):eI 4 [] K h:=by
 refine cZ FC Pt Tryz.func4 Tryz.call4 ?_;dsimp only[FC,nv,wJ,uJ,qY,aai,Ob,qf,Zk,UQ,mE,bh,ai,aF];refine RP (W:=No) (x:=⟨0,0,0⟩) (λ_ h=>h.elim) (.inr rfl) λh1 vp gp gm tm bm nm t v zv F k1=>?_
 refine fo (ag.2 (ag.2 (AY v Hy 0 λh2 u2 O=>?_)))
 have e1:mC [] [] Hy 0 false=0:=a8
 simp only[e1,if_true]at O⊢;have k2:=k1.fresh u2 λy g=>F y (.inr (.inr (.inr (.inl g))))
 refine ag.2 (Tk O λh3 Y=>?_)
 have G:=O.upd0 Y;refine B9 G.em G.g.lt cq a7 (⟨#[97]⟩,⟨#[]⟩) a8 a8 λh4 A i4 _ P=>?_
 refine aV λh5 b5 Z=>cy (c:=jJ wI) (vs:=jJ A) b5 rfl λh6 s C=>⟨_,vc s 0,_,vc s 1,_,vc s 2,_,vc s 3,_,vc s 4,_,vc s 5,?_⟩
 have D:Upd No h3 h6:=(P.tr Z).own C P.size;have v6:=G.upd0 D;have i6:=i4.upd0 (Z.own C (aj _));refine AZ v6 Hy (hd:=0) rfl (d:=(A,[(⟨#[97]⟩,⟨#[]⟩)])) i6 (cx _ _) (λq B=>by rw[av.1 B];decide) λS u7 w=>?_
 have w:VaultAt _ S vp ⟨gp,gm,tm,bm,nm,1,⟨0,0,0⟩,t,[(1,[])],2,[(1,(A,[(⟨#[97]⟩,⟨#[]⟩)]))],[(Hy,1)],[]⟩:=w;have i7:=w.ts (1,(A,[(⟨#[97]⟩,⟨#[]⟩)])) (av.2 rfl);have u:=u7.get s λhm=>by have:=G.size hm;have:=P.size;omega
 have k7:Upd No h S:=((k2.tr Y).tr D).fresh u7 λy g=>F y g
 refine⟨_,vc u 0,_,vc u 1,_,vc u 2,_,vc u 3,_,vc u 4,_,vc u 5,?_⟩;refine B9 i7.1 w.g.lt i7.2.1 a7 (⟨#[98]⟩,⟨#[]⟩) a8 a8 λh8 H i8 _ V=>?_
 refine aV λh9 b9 k9=>cy (c:=jJ wI) (vs:=jJ H) b9 rfl λI U j=>?_
 have k:Upd No S I:=(V.tr k9).own j V.size;have z:=w.upd0 k;have J:=i8.upd0 (k9.own j (aj _));refine fo (ag.2 (ag.2 (AY z Oo 1 λh11 o E=>?_)))
 have e2:mC [(Hy,1)] [(1,[])] Oo 1 false=0:=a8
 simp only[e2,if_true]at E⊢;have f:=o.get U λe=>by have:=w.size (y:=bm) (.inr (.inr (.inr (.inl rfl))));have:=V.size;have e:h8.size=bm:=e;omega
 have X:=J.updM o λy g=>.inl (z.w y (.inr (.inr (.inr (.inl g)))))
 refine ag.2 ⟨_,vc f 0,_,vc f 1,_,vc f 2,_,vc f 3,_,vc f 4,_,vc f 5,?_⟩;refine AZ E Oo (hd:=1) rfl (d:=(H,gw (⟨#[98]⟩,⟨#[]⟩) [(⟨#[97]⟩,⟨#[]⟩)])) X (pj _ (cx _ _)) (λq B=>(tO B).elim (λe=>by rw[e];decide) λB=>by rw[av.1 B];decide) λL Q i=>?_
 have i:VaultAt _ L vp ⟨gp,gm,tm,bm,nm,1,⟨0,0,0⟩,t,[(1,[]),(2,[1])],3,[(1,(A,[(⟨#[97]⟩,⟨#[]⟩)])),(2,(H,gw (⟨#[98]⟩,⟨#[]⟩) [(⟨#[97]⟩,⟨#[]⟩)]))],[(Hy,1),(Oo,2)],[]⟩:=i;have N:UpG [(1,[]),(2,[1])] 2 1:=.step (p:=1) a8 a8 (.refl a8);have hn:¬((2:Int)=0\/UpG [(1,[]),(2,[1])] 1 2):=λhh=>hh.elim (λe=>by cases e) λe=>absurd (UpG.le i.inv.good e) a8
 refine AX i (n:=Hy) (m:=Oo) (a:=1) (b:=2) rfl rfl (p:=0) (by rw[dV];decide) (.inr (.inr N)) (λe=>absurd e hn) λ_ R T v13=>?_
 refine aw.2 (aw.2 (aw.2 (hk R ?_)));exact(((k7.tr k).fresh o λy g=>F y (.inr (.inr (.inr (.inl g))))).fresh Q λy g=>F y g).fresh T λy g=>F y g
def sb(s:f9)(y:Nat):Prop:=s.cap≠0/\∃a,s.a=some a/\y=a.block
section
variable {α:Type} {f:α->c5} {sz:Nat} {ty:TypeId} {M:eh} {h:ad} {s so:f9} {xs out:List α}
theorem _root_.Go.Lift.OwnS.sub(o:OwnS f sz ty M h s xs):∀y,sb s y->M y/\y<h.size:=λy ⟨hc,a,e,d⟩=>by
 rcases o.blk with i|⟨b,c,hb,hm,g,_⟩
 .exact absurd i hc
 .rw[e]at hb
  cases hb;exact⟨d▸hm,d▸bw g⟩
theorem _root_.Go.Lift.OwnS.its(o:OwnS f sz ty M h s xs):OwnS f sz ty (sb s) h s xs:=by
 refine⟨o.len,o.ne,o.cap,?_⟩;by_cases hc:s.cap=0
 .exact .inl hc
 .rcases o.blk with c|⟨b,a,hb,hm,e,d⟩
  .exact absurd c hc
  .exact .inr ⟨b,a,hb,⟨hc,_,hb,rfl⟩,e,d⟩
theorem Vq{a:aT}{n:Nat}:∀y,¬sb ⟨a,n,0⟩ y:=λ_ h=>h.1 rfl
theorem _root_.Go.Lift.OwnS.one{x:α}(a:∀x,(f x).length=sz/\0<sz)(hb:h[b]? =some (.cells (f x).toArray ty (0,0))):OwnS f sz ty (sb ⟨some ⟨b,0,none⟩,1,1⟩) h ⟨some ⟨b,0,none⟩,1,1⟩ [x]:=
 ⟨rfl,a,aj _,.inr ⟨b,[],rfl,⟨a7,_,rfl,rfl⟩,by simpa using hb,a7⟩⟩
theorem Z3{a:Nat}{z:c5}{t:α}{K:f9->eu}(i:OwnS f sz ty (sb so) h so out)(hb:h[b]? =some (.cells (f t).toArray ty (0,0))) (d:cA (f t)=true) (k:z.length=sz) (e:0<a/\a<=64) (n:out.length+1<=1000000)
  (j:∀s' h',OwnS f sz ty (sb s') h' s' (out++ [t])->Upd (sb so) h h'->(∀y,sb s' y->(sb so y\/h.size<=y)/\y<h'.size)->K s' h'):
  ∃xs,SRow h (some ⟨b,0,none⟩) (1*sz) xs/\AppP (some z) sz a ty so.a so.len so.cap 1 xs h K:=by
 refine⟨_,((OwnS.one i.ne hb).sl (W:=No) λ_ _ _ h=>h).srow,?_⟩
 refine AppP.own (M:=λy=>sb so y\/h.size<=y) (ys:= [t]) (i.more λy g=>.inl g) rfl rfl (by simpa using d) k e.1 ?_ (.inr (aj _)) λs' h' c m=>j s' h' c.its (m.mono λy g=>g) c.sub
 simp only[List.length_singleton];calc (out.length+1)*a<=1000000*64:=Nat.mul_le_mul n e.2
  _<=140737488355328:=a4
end
structure Sp where
 T:Nat->Prop
 Q:ad->Prop
 loc:∀{M:eh} {h h':ad},Q h->Upd M h h'->(∀y,T y->¬M y)->Q h'
section
variable {Ss:List Sp} {h h':ad} {M:eh} {s s':Sp} {i:Nat}
end
theorem GraphAt.re{M:eh}{h h':ad}{gp gm:Nat}{L:de}{nx:Int}(g:GraphAt W h gp gm L nx)(k:Upd M h h')(hm:∀b,M b->(W b/\b≠gp/\b≠gm)\/h.size<=b)(f:∀b,W' b->(W b\/h.size<=b)/\b<h'.size)(c:W' gp)(d:W' gm):GraphAt W' h' gp gm L nx:=by
 have i:=g.upd k hm;obtain⟨m,a,o⟩:=g.map;refine⟨i.blk,⟨m,a.upd k λe=>(hm _ e).elim (λe=>e.2.2 rfl) λe=>absurd (g.lt _ g.wm) (Nat.not_lt.2 e),λj=>?_⟩,c,d,λb hb=>(f b hb).2,g.nd⟩
 rcases o j with⟨s,ps,c,d,n⟩|p
 .exact .inl ⟨s,ps,c,d,((n.less (W':=λb=>W b\/h.size<=b) λb hb=>hb).upd k λb hb=>.inl ((hm b hb).imp (·.1) id)).less λb hb=>.inl (f b hb).1⟩
 .exact .inr p
theorem TreeIs.re{M:eh}{h h':ad}{kind:Int}{t:Tr}{l:bY}(i:TreeIs W h kind x t l)(k:Upd M h h')(hm:∀b,M b->W b\/h.size<=b)(a:∀b,W' b->W b\/h.size<=b):TreeIs W' h' kind x t l:=
 ((i.less (W':=λb=>W b\/h.size<=b) λ_ hb=>hb).updM k λb hb=>.inl (hm b hb)).less λb hb=>.inl (a b hb)
theorem VaultAt.re{M:eh}{h h':ad}{i:Nat}{s:VS}(v:VaultAt W h i s)(k:Upd M h h')(hm:∀b,M b->(W b/\¬s.M b)\/h.size<=b)(j:∀b,W' b->(W b\/h.size<=b)/\b<h'.size)(hM:∀y,s.M y->W' y):VaultAt W' h' i s:=by
 have f:=v.upd k hm;have c:∀b,M b->W b\/h.size<=b:=λb hb=>(hm b hb).imp (·.1) id
 have a:∀b,W' b->W b\/h.size<=b:=λb hb=>(j b hb).1
 exact⟨f.blk,v.g.re k (λb hb=>(hm b hb).imp (λe=>⟨e.1,λg=>e.2 (.inl g),λg=>e.2 (.inr (.inl g))⟩) id) j (hM _ (.inl rfl)) (hM _ (.inr (.inl rfl))),f.t,f.b,f.n,hM,λhv=>(a _ hv).elim v.wv λe=>absurd (bw v.blk) a4,v.ne,v.em.re k c a,λd hd=>⟨(v.ts d hd).1.re k c a,(v.ts d hd).2⟩,v.sub,v.inv,v.kd⟩
section
variable {Ss:List Sp} {h h':ad} {vp:Nat} {s:VS} {p p':Sp} {i:Nat} {M:eh}
end
end
section
open Go.Lift
variable {k:dO}{l:bY}{x:Hs}{lev c m b:Nat}{W:eh}{h:ad}
def mW(k:dO)(l:bY):bY:=l.filter λq=>decide (q.1≠k)
theorem wX(k:dO)(q:Pr)(l:bY):mW k (q::l)=if q.1=k then mW k l else q::mW k l:=by
 unfold mW;rw[List.filter_cons];by_cases h:q.1=k
 .rw[if_pos h,if_neg (by simpa using h)]
 .rw[if_neg h,if_pos (by simpa using h)]
theorem zi(h:∀q∈l,q.1≠k):mW k l=l:=dq.2 λq a=>decide_eq_true (h q a)
theorem B7(h:cE l k=false):∀q∈l,q.1≠k:=λq a e=>by
 have:cE l k=true:=cg.2 ⟨q,a,decide_eq_true e⟩;rw[h]at this;cases this
theorem yW(h:∀q∈l,q.1≠k):cE l k=false:=by
 rcases ht:cE l k with _|_
 .rfl
 .obtain⟨q,a,e⟩:=cg.1 ht
  exact absurd (of_decide_eq_true e) (h q a)
theorem DX(a:bO l):bO (mW k l):=a.sublist List.filter_sublist
theorem Gt{p:Pr}:p∈mW k l↔p∈l/\p.1≠k:=by unfold mW;rw[List.mem_filter,decide_eq_true_iff]
theorem WD:(mW k l).length<=l.length:=List.length_filter_le ..
theorem SU{k:dO}:∀{l:bY},bO l->l.length<=(mW k l).length+1
 | [],_=>aK _
 |q::l,a=>by
  have a:=aC.1 a;rw[wX];by_cases h:q.1=k
  .rw[if_pos h,zi λr hm e=>by have:=a.1 r hm;rw[h,e]at this;exact bT _ this];exact aj _
  .rw[if_neg h]
   have:=SU (k:=k) a.2;simp only[List.length_cons];omega
theorem SV(k:dO):∀{l:bY},bO l->Uj l k=mW k l
 | [],_=>by simp[Uj,mW,cE]
 |q::l,c=>by
  have j:=c;have c:=aC.1 c;have b:pos (q::l) k=if kl q.1 k then pos l k+1 else 0:=by
   unfold pos;rw[List.takeWhile_cons];by_cases h:kl q.1 k
   .rw[if_pos (by simpa using h),if_pos h];rfl
   .rw[if_neg (by simpa using h),if_neg h];rfl
  have d:cE (q::l) k=(decide (q.1=k)||cE l k):=by unfold cE;rw[qS]
  by_cases h:kl q.1 k
  .have f:q.1≠k:=λe=>by rw[e]at h;exact bT _ h
   rw[wX,if_neg f,<-SV k c.2];unfold Uj;rw[d,b,if_pos h,decide_eq_false f,Bool.false_or];by_cases ht:cE l k=true
   .rw[if_pos ht,if_pos ht];rfl
   .rw[if_neg ht,if_neg ht]
  .by_cases e:q.1=k
   .have a:∀r∈l,r.1≠k:=λr hm g=>by have:=c.1 r hm;rw[e,g]at this;exact bT _ this
    rw[wX,if_pos e,zi a];unfold Uj;rw[d,b,if_neg h,decide_eq_true e,Bool.true_or,if_pos rfl];rfl
   .have i:=l8 h e
    have a:∀r∈q::l,r.1≠k:=λr hm g=>by
     rcases au.1 hm with rfl|hm
     .exact e g
     .have:=c.1 r hm
      rw[g]at this;exact bT _ (dI i this)
    rw[zi a];unfold Uj;rw[yW a];rfl
theorem Oe:part x lev c (mW k l)=mW k (part x lev c l):=by
 unfold part mW;rw[ju,ju];exact List.filter_congr λp _=>Bool.and_comm ..
theorem TP(h:c≠ck x lev k):part x lev c (mW k l)=part x lev c l:=by
 rw[Oe];exact zi λq a e=>h (by rw[<-e];exact(lL.1 a).2.symm)
theorem PR{h':ad}{b':Nat}{s s':Slots}(f:Upd No h h')(nd:NodeAt W h' b' s')(b:∀c,c<32->SlotIs W x h m s c (part x (12-m) c l))
  (a:∀c,c≠ck x (12-m) k->s'.p c=s.p c/\s'.k c=s.k c)(hi:SlotIs W x h' m s' (ck x (12-m) k) (mW k (part x (12-m) (ck x (12-m) k) l))):TrieAt W x h' (m+1) b' (mW k l):=by
 refine⟨s',nd,λc hc=>?_⟩
 by_cases e:ck x (12-m) k=c
 .rw[Oe];subst e;exact hi
 .rw[TP λh=>e h.symm]
  have t:=SlotIs.upd0 f (b c hc);obtain⟨g,d⟩:=a c λh=>e h.symm
  unfold SlotIs at t;rw[<-g,<-d]at t;exact t
theorem SR{β:Type}(g:Nat->Option β):∀n,(fm g n).length=((List.range n).map λc=>(g c).toList.length).sum
 |0=>rfl
 |n+1=>by
  rw[mu,ae,SR g n,List.range_succ,List.map_append,List.sum_append];simp
theorem NQ(h:∀c,c<32->(part x lev c l).length<=1):(gF x lev l).length=l.length:=by
 unfold gF;rw[SR];have e:=wT x lev l 32;have d:(l.filter λp=>decide (ck x lev p.1<32))=l:=dq.2 λp _=>decide_eq_true (zk x lev p.1)
 rw[d]at e;rw[<-e];refine congrArg List.sum (List.map_congr_left λc hc=>?_)
 have:=h c (fY.1 hc);match hp:part x lev c l with
 | []=>rfl
 | [p]=>rfl
 |a::b::r=>rw[hp]at this;simp at this
theorem PS(t:TrieAt W x h m b l)(C:l.length<=1000000):
  ∃d n sp sk bu ow lp lk,h[b]? =some (.cells (eB d n sp sk bu ow) 298 (0,0))/\Sl dZ 2 W h sp lp/\Sl rh 1 W h sk lk/\lp.length<=1000000/\lk.length<=32/\(lp.length+lk.length=1/\n=0↔l.length=1)/\∀p,l= [p]->lp= [p]:=by
 cases m with
 |zero=>
  obtain⟨sp,sk,ow,hb,a,f,_⟩:=BuckAt.ex t;exact⟨0,0,sp,sk,true,ow,l,[],hb,a,f,C,a7,a7,λp e=>e⟩
 |succ m=>
  obtain⟨s,nd,o⟩:=t;have o:∀c,c<32->SlotIs W x h m s c (part x (12-m) c l):=o;obtain⟨d,n,sp,sk,ow,hb,bits,a,f,_⟩:=nd.ex;have k:=Gl o;have B:=y9 (g:=s.p);refine⟨d,n,sp,sk,false,ow,_,_,hb,a,f,a4,y9,?_,?_⟩
  .by_cases u:∀c,c<32->s.k c=none
   .have v:n=0:=Nat.eq_of_testBit_eq λc=>by
     rw[fy];by_cases hc:c<32
     .rw[bits.nk c hc,u c hc];rfl
     .exact Nat.testBit_lt_two_pow (aA bits.n32 (Nat.pow_le_pow_right (n:=2) a4 (by omega:32<=c)))
    have ek:fm s.k 32= []:=by
     unfold fm;rw[List.filterMap_eq_nil_iff];exactλc hc=>u c (fY.1 hc)
    have w:(fm s.p 32).length=l.length:=by
     rw[k];refine NQ λc hc=>?_
     rcases o c hc with⟨j,_⟩|⟨p,j,_⟩|⟨_,_,D,A,_⟩
     .rw[j];simp
     .rw[j];simp
     .rw[u c hc]at A;cases A
    rw[ek,w,v];simp
   .obtain⟨c,hc⟩:=Classical.not_forall.1 u
    obtain⟨hc,i⟩:=Classical.not_imp.1 hc;have z:n≠0:=λv=>by
     have:=bits.nk c hc;rw[v,fy]at this;cases hkk:s.k c with
     |none=>exact i hkk
     |some y=>rw[hkk]at this;cases this
    rcases o c hc with⟨_,_,j⟩|⟨p,_,_,j⟩|⟨A,_⟩
    .exact absurd j i
    .exact absurd j i
    .have:=lJ (x:=x) (lev:=12-m) (c:=c) (l:=l)
     constructor
     .rintro⟨_,e⟩;exact absurd e z
     .intro e;omega
  .rintro p rfl
   rw[k];have hc:=zk x (12-m) p.1;have w:(gF x (12-m) [p]).length=1:=NQ λc _=>aQ lJ a7
   match hq:gF x (12-m) [p],w with
   | [q],_=>
    have:q∈gF x (12-m) [p]:=by rw[hq];exact av.2 rfl
    rw[av.1 (tA this)]
theorem X9{d n:Nat}{sp sk:f9}{a:Bool}{ow:aT}(hb:h[b]? =some (.cells (eB d n sp sk a ow) 298 (0,0))) (f:sp.len+sk.len<=1000000000) {K:Int->eu} (c:K ((sp.len+sk.len:Nat):Int) h):fK 137 [gV b] K h:=by
 refine yq _ ?_;dsimp only[r8,cj,cL,yG];refine ag.2 ⟨_,rfl,sp,dU (i:=2) hb,_,rfl,sk,dU (i:=3) hb,?_⟩;have e:ac .i64 ((sp.len:Int)+(sk.len:Int))=((sp.len+sk.len:Nat):Int):=by rw[dw a4];omega
 rw[e];exact c
theorem Xa(t:TrieAt W x h m b l)(F:l.length<=1000000){K:Pr×Bool->eu}
  (u:∀h' p,Upd No h h'->(l.length=1->l= [p])->K (p,decide (l.length=1)) h'):FZ 249 [gV b] K h:=by
 refine JS _ ?_;dsimp only[AU,cP,dH,lG,nC,nW,bq,Gc,fE];refine aV λH b1 k1=>?_
 have C:=TrieAt.upd0 k1 t;obtain⟨d,n,sp,sk,L,ow,O,lk,hb,k,y,E,D,c,f⟩:=PS C F;have N:=k.len;have J:=y.len;refine eM (λt h'=>t= !decide (l.length=1)/\h'=H) (λR B=>?_) ?_
 .refine X9 hb a4 ?_
  by_cases e:sp.len+sk.len=1
  .have A:((sp.len+sk.len:Nat):Int)=1:=by omega
   rw[A];refine ag.2 (Cm hb (B _ _ ⟨?_,rfl⟩));by_cases v:n=0
   .rw[decide_eq_true (c.1 ⟨a4,v⟩),v];rfl
   .rw[decide_eq_false λh=>v (c.2 h).2]
    exact bne_iff_ne.2 a4
  .have A:(((sp.len+sk.len:Nat):Int) !=(1:Int))=true:=bne_iff_ne.2 a4
   rw[A];refine aw.2 (B _ _ ⟨?_,rfl⟩);rw[decide_eq_false λh=>e (by have:=(c.2 h).1;omega)];rfl
 .rintro _ h' ⟨rfl,rfl⟩
  have j:h'[h.size]? =some (.cells #[.string Px.1,.string Px.2] 35 (0,0)):=b1;by_cases e:l.length=1
  .rw[decide_eq_true e]
   refine ag.2 ?_;refine pI hb k a4 λP I s o=>?_
   match l,e,f with
   | [p],e,f=>
    have w:=f p rfl;subst w;have q:=s.len;obtain⟨a,G,_,hv⟩:=(s.sl (W:=No) λ_ _ _ h=>h).at (i:=0) (x:=p) rfl
    refine⟨⟨a4,by simp at q;omega⟩,a,G,p.1,hv 0 _ rfl,p.2,hv 1 _ rfl,?_⟩
    refine ET (p:=p) (o.get0 j) λz b3 g=>⟨_,vc b3 0,_,vc b3 1,?_⟩
    have:=u z p ((k1.tr o).own g (aj _)) λ_=>rfl
    exact this
  .have:=u
   rw[decide_eq_false e];rw[decide_eq_false e]at u;refine aw.2 (ET (p:=Px) j λz b3 g=>⟨_,vc b3 0,_,vc b3 1,?_⟩)
   exact u z _ (k1.own g (aj _)) λh=>absurd h e
theorem Oi{s:f9}(f:Sl dZ 2 No h s l)(hc:s.len<=s.cap)(g:bO l)(C:l.length<=1000000000)(k:dO)
  {K:f9->eu}(w:∀s' h',OwnS dZ 2 35 (λb=>h.size<=b) h' s' (mW k l)->Upd No h h'->K s' h'):dS 285 [.slice s.a s.len s.cap,.string k] K h:=by
 refine cZ (Fz s k) .nil Tryz.func285 Tryz.call285 ?_;dsimp only[Fz,kr,nL,ox,Ga];have d:=f.len;refine MJ f g C k λo a=>?_
 have F:=VF l k;cases ht:cE l k with
 |false=>
  refine aw.2 (w6 (f.upd a λ_ h=>h.elim) a4 λH J n u=>?_)
  rw[zi (B7 ht)]at w;exact w _ _ (n.more λb hb=>aQ a.size hb) (a.tr u)
 |true=>
  obtain⟨E,_⟩:=Mo g ht;have D:ac .i64 ((pos l k:Int)+1)=((pos l k+1:Nat):Int):=by rw[dw a4];omega
  refine ag.2 ?_;(try simp only)
  rw[D];refine⟨a4,a4,?_⟩
  simp only[Bd,bi];refine bF ?_;have e:=f.upd a λ_ h=>h.elim
  have q:=fD No o [.slice (aW s.a 0 s.cap 2) (pos l k-0) (s.cap-0),.slice (aW s.a (pos l k+1) s.cap 2) (s.len-(pos l k+1)) (s.cap-(pos l k+1))] 235;have B:=bV o [.slice (aW s.a 0 s.cap 2) (pos l k-0) (s.cap-0),.slice (aW s.a (pos l k+1) s.cap 2) (s.len-(pos l k+1)) (s.cap-(pos l k+1))] 235;have z:=L7 e (i:=0) (j:=pos l k) (m:=s.cap) (aK _) F a4 (s.cap-0)
  have t:=L7 e (i:=pos l k+1) (j:=l.length) (m:=s.cap) a4 (aj _) a4 (s.cap-(pos l k+1));rw[<-d]at t;rw[List.drop_zero]at z;rw[List.take_of_length_le (by rw[bo];omega)]at t;have A:mW k l= [l.take (pos l k-0),l.drop (pos l k+1)].flatten:=by rw[<-SV k g];unfold Uj;rw[if_pos ht];simp
  refine Lh (s:=⟨some (aH o),2,2⟩) (vs:= [⟨aW s.a 0 s.cap 2,pos l k-0,s.cap-0⟩,⟨aW s.a (pos l k+1) s.cap 2,s.len-(pos l k+1),s.cap-(pos l k+1)⟩]) (ls:= [l.take (pos l k-0),l.drop (pos l k+1)])
   ⟨rfl,λx=>⟨rfl,vX⟩,λ_=>⟨_,rfl,λh=>h.elim,qN B λi v hv=>by simpa[abH]using hv⟩⟩ ⟨z.upd q λ_ h=>h.elim,t.upd q λ_ h=>h.elim,trivial⟩ ?_ a7 λI G c p=>?_
  .simp only[List.flatten_cons,List.flatten_nil,ae,aY,bo,List.length_nil];omega
  .rw[<-A]at c
   have y:=a.tr q;exact w _ _ (c.more λb hb=>aQ y.size hb) (y.tr p)
theorem WY(q:BuckAt W h b l)(m:∀x,W x->x<h.size)(w:bO l)(s:l.length<=1000000000)(k:dO){K:aT->eu}
  (D:∀h' b',BuckAt W h' b' (mW k l)->Upd No h h'->K (some ⟨b',0,none⟩) h'):
  fx 248 [gV b,.pointer none,.string k] K h:=by
 refine Et _ none k ?_;dsimp only[xw,yD,kr,cL,iL,dh,yG,cj];obtain⟨sp,sk,ow,hb,y,A,v,z⟩:=q.ex;refine eT hb (ag.2 ?_);refine Sw q s λG E p b2 u t g=>?_
 refine⟨_,rfl,E,dU (i:=2) b2,?_⟩;refine Oi (u.sl λ_ _ _ h=>h) u.cap w s k λo H d c=>?_
 have b3:=c.get0 b2;refine⟨_,rfl,Xt (i:=2) b3 (show 2<6 by decide),Jw (i:=2) (c':=eB 0 0 o p true none) b3 rfl λC B a=>?_⟩
 have F:=bw b2;have j:=d.upd a λx hx e=>by have e:x=h.size:=e;omega
 have n:=(t.upd c λ_ _ h=>h).upd a λx hx e=>by have e:x=h.size:=e;omega
 refine D C h.size ⟨⟨o,p,none,B,j.sl λx hx _ f=>?_,n.sl λx hx _ f=>?_,d.cap,t.cap⟩,λf=>?_⟩ ((g.tr c).trans a λx hx=>.inr ?_)
 .have:=m x f;have:=g.size;omega
 .have:=m x f;omega
 .have:=m _ f;omega
 .have hx:x=h.size:=hx
  omega
theorem O5:∀(m:Nat),m<=13->∀{b:Nat} {l:bY} (k:dO) {h:ad},TrieAt W x h m b l->(∀y,W y->y<h.size)->bO l->l.length<=1000000->∀{K:aT×Bool->eu},
  (∀h' b',Upd No h h'->TrieAt W x h' m b' (mW k l)->(cE l k=false->b'=b)->K (some ⟨b',0,none⟩,cE l k) h')->
  rR 184 [U0 x k,gV b,.int .i64 ((13-m:Nat):Int)] K h:=by
 intro m;induction m with
 |zero=>
  intro _ b l k h t hW hr hn K B;have O:∀{h'},Upd No h h'->∀y,W y->y<h'.size:=λk y R=>aA (hW y R) k.size
  refine vt (x.k0,x.k1,x.mask,none,k,jj x k) (some ⟨b,0,none⟩) ((13-0:Nat):Int) ?_;dsimp only[pQ,ai,aF,bq,nv,qf,gD,yI,nC,AW,Jn,jM,LV,Mp,vZ,GT,F8,li,gj,CO,nW];refine aV λw b1 k1=>?_
  have bk:BuckAt W w b l:=BuckAt.upd t k1 λ_ h=>h.elim
  obtain⟨sp,sk,ow,hb,_⟩:=bk.ex;refine eT hb (aw.2 ⟨_,vc b1 4,Zc bk hr a4 k λJ v j hv=>?_⟩)
  have b3:=j.get0 b1;cases ht:cE l k with
  |false=>
   rw[ht]at B;exact aw.2 (B J b (k1.tr j) (by rw[zi (B7 ht)];exact bk.upd j λ_ h=>h.elim) λ_=>rfl)
  |true=>
   rw[ht]at B;refine ag.2 ⟨none,vc b3 3,_,vc b3 4,?_⟩;refine WY (bk.upd j λ_ h=>h.elim) (O (k1.tr j)) hr a4 k λh5 b5 bk5 I=>?_
   exact B h5 b5 ((k1.tr j).tr I) bk5 λh=>by cases h
 |succ m ih=>
  intro hm b l k h t hW hr hn K B;have O:∀{h'},Upd No h h'->∀y,W y->y<h'.size:=λk y R=>aA (hW y R) k.size
  have hl:13-(m+1)<13:=a4
  have U:13-(m+1)=12-m:=a4
  refine vt (x.k0,x.k1,x.mask,none,k,jj x k) (some ⟨b,0,none⟩) ((13-(m+1):Nat):Int) ?_;dsimp only[pQ,ai,aF,bq,nv,qf,gD,yI,nC,AW,Jn,jM,LV,Mp,vZ,GT,F8,li,gj,CO,nW];refine aV λw b1 k1=>?_
  have t1:=TrieAt.upd0 k1 t;obtain⟨s,G,hs⟩:=t1;have hs:∀c,c<32->SlotIs W x w m s c (part x (12-m) c l):=hs;obtain⟨d,n,sp,sk,ow,hb,_⟩:=G.ex;refine eT hb (ag.2 ⟨_,vc b1 5,Uq hl ?_⟩);rw[U];have hi:=zk x (12-m) k;have L:=hs _ hi;have D:cE (part x (12-m) (ck x (12-m) k) l) k=cE l k:=GX;have V:bO (part x (12-m) (ck x (12-m) k) l):=is hr;have Y:(part x (12-m) (ck x (12-m) k) l).length<=1000000:=aQ lJ hn
  have u:∀{h':ad} {b':Nat} {s':Slots},Upd No w h'->NodeAt W h' b' s'->(∀c,c≠ck x (12-m) k->s'.p c=s.p c/\s'.k c=s.k c)->SlotIs W x h' m s' (ck x (12-m) k) (mW k (part x (12-m) (ck x (12-m) k) l))->TrieAt W x h' (m+1) b' (mW k l):=λP nd hp hi=>PR P nd hs hp hi
  have tt:∀{h':ad},Upd No w h'->TrieAt W x h' (m+1) b l:=λP=>TrieAt.upd0 (k1.tr P) t
  generalize hc:ck x (12-m) k=c at*;generalize hlc:part x (12-m) c l=lc at*;refine yX G hi λJ j=>?_
  refine aV λh4 b4 k4=>?_
  have b4':h4[J.size]? =some (.cells #[.string Px.1,.string Px.2] 35 (0,0)):=b4;refine ET (p:=Wb (s.p c)) b4' λh5 b5 I=>?_
  have a:Upd No w h5:=(j.tr k4).own I j.size;have c1:=a.get0 b1;have S:=G.upd a λ_ h=>h.elim
  have same:∀{h':ad},Upd No w h'->cE l k=false->K (some ⟨b,0,none⟩,false) h':=λP ht=>by
   have:=B _ b (k1.tr P) (by rw[zi (B7 ht)];exact tt P) λ_=>rfl
   rw[ht]at this;exact this
  cases hsp:s.p c with
  |some y=>
   rw[hsp]at b5;obtain⟨z,hk0⟩:lc= [y]/\s.k c=none:=by
    rcases L with⟨_,g,_⟩|⟨q,w,g,J⟩|⟨_,g,_⟩
    .rw[hsp]at g;cases g
    .rw[hsp]at g;cases g;exact⟨w,J⟩
    .rw[hsp]at g;cases g
   refine aw.2 ⟨y.1,vc b5 0,k,vc c1 4,?_⟩;rw[dV];by_cases e1:y.1=k
   .have ht:cE l k=true:=by rw[<-D,z];exact cg.2 ⟨y,av.2 rfl,decide_eq_true e1⟩
    rw[decide_eq_true e1];rw[ht]at B;refine ag.2 ⟨none,vc c1 3,WN S (O (k1.tr a)) hi λh6 b6 nd6 F=>?_⟩
    refine B h6 b6 ((k1.tr a).tr F) (u (a.tr F) nd6 (λc' o=>⟨gM o,gM o⟩) ?_) λh=>by cases h
    refine .inl ⟨?_,gY,gY⟩;rw[z,wX,if_pos e1];rfl
   .rw[decide_eq_false e1]
    have ht:cE l k=false:=by
     rw[<-D,z];unfold cE;rw[qS,decide_eq_false e1];rfl
    exact aw.2 (same a ht)
  |none=>
   refine ag.2 (u0 S hi ?_);cases hsk:s.k c with
   |none=>
    have T:lc= []:=by
     rcases L with⟨w,_⟩|⟨q,_,g,_⟩|⟨_,_,Q,g,_⟩
     .exact w
     .rw[hsp]at g;cases g
     .rw[hsk]at g;cases g
    exact aw.2 (same a (by rw[<-D,T];rfl))
   |some kp=>
    obtain⟨h2l,Q,rfl,tk⟩:2<=lc.length/\∃Q,kp=some ⟨Q,0,none⟩/\TrieAt W x w m Q lc:=by
     rcases L with⟨_,_,g⟩|⟨q,_,g,_⟩|⟨w,_,Q,g,J⟩
     .rw[hsk]at g;cases g
     .rw[hsp]at g;cases g
     .rw[hsk]at g;cases g;exact⟨w,Q,rfl,J⟩
    refine ag.2 ⟨_,vc c1 0,_,vc c1 1,_,vc c1 2,_,vc c1 3,_,vc c1 4,_,vc c1 5,?_⟩;have ew:ac .i64 (((12-m:Nat):Int)+1)=((13-m:Nat):Int):=by rw[dw a4];omega
    rw[ew];refine ih a4 k (TrieAt.upd0 a tk) (O (k1.tr a)) V Y λh6 b6 F t6 hsame=>?_
    have C:=a.tr F;rw[D];cases ht:cE l k with
    |false=>exact aw.2 (same C ht)
    |true=>
     rw[ht]at B;have hdl:=SU (k:=k) V;have hdn:(mW k lc).length<=1000000:=aQ WD Y;refine ag.2 (Xa t6 hdn λh7 p E hp=>?_)
     refine aV λh8 b8 k8=>?_
     have b8':h8[h7.size]? =some (.cells #[.string Px.1,.string Px.2] 35 (0,0)):=b8;refine ET (p:=p) b8' λh9 b9 X=>?_
     have f:Upd No w h9:=((C.tr E).tr k8).own X (C.tr E).size;have c9:=f.get0 b1;have Z:=G.upd f λ_ h=>h.elim
     refine aq (λe=>?_) λe=>?_
     .refine⟨none,vc c9 3,p.1,vc b9 0,p.2,vc b9 1,tH Z (O (k1.tr f)) hi (λy R=>by rw[hsp]at R;cases R) p λH N A i=>?_⟩
      refine B H N ((k1.tr f).tr i) (u (f.tr i) A (λc' o=>⟨gM o,gM o⟩) ?_) λh=>by cases h
      exact .inr (.inl ⟨p,hp e,gY,gY⟩)
     .refine⟨none,vc c9 3,zL Z (O (k1.tr f)) hi (λ_ _=>hsp) ⟨b6,0,none⟩ λH N A i=>?_⟩
      refine B H N ((k1.tr f).tr i) (u (f.tr i) A (λc' o=>⟨gM o,gM o⟩) ?_) λh=>by cases h
      exact .inr (.inr ⟨a4,gY,b6,gY,TrieAt.upd0 ((E.tr k8).own X E.size|>.tr i) t6⟩)
theorem MU(t:TrieAt W x h 13 b l)(o:∀y,W y->y<h.size)(p:bO l)(v:l.length<=1000000)(k:dO){K:aT×Bool->eu}
  (z:∀h' b',Upd No h h'->TrieAt W x h' 13 b' (mW k l)->(cE l k=false->b'=b)->K (some ⟨b',0,none⟩,cE l k) h'):
  rR 125 [.agg #[.int .u64 x.k0,.int .u64 x.k1,.int .u64 x.mask],.pointer none,gV b,.string k] K h:=by
 refine cZ (Dn (x.k0,x.k1,x.mask) none (some ⟨b,0,none⟩) k) Nl Tryz.func125 Tryz.call125 ?_;dsimp only[Dn,ai,Cj,yi,AW,li];refine aV λC b1 k1=>?_
 refine L6 (.inr ⟨b,rfl,TrieAt.upd0 k1 t⟩) (λy n=>aA (o y n) k1.size) λA b2 q f g=>?_
 have c:=f.get0 b1;refine⟨_,vc c 0,_,vc c 1,_,vc c 2,_,vc c 0,_,vc c 1,_,vc c 2,?_⟩;refine vg λB d=>?_
 have j:=d.get0 c;refine⟨⟨vc j 0,vc j 1,vc j 2⟩,?_⟩;have a:=(k1.tr f).tr d;refine O5 13 (aj _) k (TrieAt.upd0 d q) (λy n=>aA (o y n) a.size) p v λw u i s m=>?_
 refine z w u (a.tr i) s λht=>?_
 rw[m ht];rcases g with e|e
 .cases e;rfl
 .cases e
end
section
variable {k lab:c6}{w:Option dO}{F F':Fo}{i:Nat}
def vW(P a:c6->dO->Prop)(k:c6):Prop:=∀k' v',a k' v'↔k'≠k/\P k' v'
theorem Q0{P:c6->dO->Prop}(h:∀v,¬P k v):vW P P k:=λ_ b=>⟨λa=>⟨λe=>h b (e▸a),a⟩,λh=>h.2⟩
theorem QZ(h:eK F):vW (rX w F) (rX none F) []:=by
 intro k' a;unfold rX;constructor
 .rintro(⟨_,f⟩|hi)
  .cases f
  .exact⟨oU h hi,.inr hi⟩
 .rintro⟨e,⟨f,_⟩|hi⟩
  .exact absurd f e
  .exact .inr hi
theorem H4(c:k≠[])(h:vW (qh F) (qh F') k):vW (rX w F) (rX w F') k:=by
 intro k' a;unfold rX;rw[h k' a];constructor
 .rintro(⟨e,f⟩|hi)
  .exact⟨λb=>c (b.symm.trans e),.inl ⟨e,f⟩⟩
  .exact⟨hi.1,.inr hi.2⟩
 .rintro⟨e,hi|hi⟩
  .exact .inl hi
  .exact .inr ⟨e,hi⟩
theorem Q1{r:c6}{d:Option dO}(h:vW (rX w F) (rX d F') r):vW (wz (lab,w,F)) (wz (lab,d,F')) (lab++r):=by
 intro k' f;constructor
 .rintro⟨s,e,b⟩
  obtain⟨a,g⟩:=(h s f).1 b;exact⟨λc=>a (ey (e.symm.trans c)),s,e,g⟩
 .rintro⟨a,s,e,b⟩
  exact⟨s,e,(h s f).2 ⟨λc=>a (by rw[e,c]),b⟩⟩
theorem Uh{m:Bn}(h:eK F)(hi:i<F.toL.length)(ek:hd F.toL[i].1=hd k)(f:vW (wz F.toL[i]) (wz m) k):vW (qh F) (qh (.ofL (F.toL.set i m))) k:=by
 intro k' g;have hc:=dB.1 h;rw[eW,eW,Fo.to_of];constructor
 .rintro⟨n,a,b⟩
  rcases(mP hi (xN h hi)).1 a with rfl|⟨a,c⟩
  .obtain⟨d,j⟩:=(f k' g).1 b
   exact⟨d,_,aG hi,j⟩
  .refine⟨λe=>c ?_,n,a,b⟩
   obtain⟨r,o,_⟩:=b;refine xR h a (aG hi) ?_;rw[ek,<-e,o,oV (hc.2 n a).1]
 .rintro⟨d,n,a,b⟩
  by_cases e:n=F.toL[i]
  .exact⟨m,(mP hi (xN h hi)).2 (.inl rfl),(f k' g).2 ⟨d,by rw[<-e];exact b⟩⟩
  .exact⟨n,(mP hi (xN h hi)).2 (.inr ⟨a,e⟩),b⟩
theorem E1{α:Type}{l:List α}(hi:i<l.length){x:α}(nd:∀j (a:j<l.length),j≠i->l[j]≠l[i]):x∈l.take i++l.drop (i+1)↔x∈l/\x≠l[i]:=by
 constructor
 .intro h
  rcases aL.1 h with h|h
  .obtain⟨j,a,e⟩:=bJ h
   rw[aY]at a;rw[p9]at e;exact⟨List.mem_of_mem_take h,by rw[<-e];exact nd j a4 a4⟩
  .obtain⟨j,a,e⟩:=bJ h
   rw[bo]at a;rw[List.getElem_drop]at e;exact⟨List.mem_of_mem_drop h,by rw[<-e];exact nd (i+1+j) a4 a4⟩
 .rintro⟨h,c⟩
  obtain⟨j,a,e⟩:=bJ h;rcases mA j i with b|b|b
  .exact aL.2 (.inl (ol (i:=j) (h:=by rw[aY];omega) (by rw[p9];exact e)))
  .subst b;exact absurd e.symm c
  .refine aL.2 (.inr (ol (i:=j-(i+1)) (h:=by rw[bo];omega) ?_))
   rw[List.getElem_drop];have:i+1+(j-(i+1))=j:=a4
   simp only[this];exact e
theorem YC(h:eK F):eK (.ofL (F.toL.take i++F.toL.drop (i+1))):=by
 have hc:=dB.1 h;rw[dB,Fo.to_of];have a:(F.toL.take i++F.toL.drop (i+1)).Sublist F.toL:=by rw[<-List.eraseIdx_eq_take_drop_succ];exact List.eraseIdx_sublist ..
 exact⟨hc.1.sublist a,λn b=>hc.2 n (a.subset b)⟩
theorem Ui(h:eK F)(hi:i<F.toL.length)(ek:hd F.toL[i].1=hd k)(f:∀k' d,wz F.toL[i] k' d->k'=k):vW (qh F) (qh (.ofL (F.toL.take i++F.toL.drop (i+1)))) k:=by
 intro k' d;have hc:=dB.1 h;rw[eW,eW,Fo.to_of];constructor
 .rintro⟨n,a,b⟩
  obtain⟨a,c⟩:=(E1 hi (xN h hi)).1 a;refine⟨λe=>c ?_,n,a,b⟩
  obtain⟨r,j,_⟩:=b;refine xR h a (aG hi) ?_;rw[ek,<-e,j,oV (hc.2 n a).1]
 .rintro⟨g,n,a,b⟩
  by_cases e:n=F.toL[i]
  .exact absurd (f k' d (by rw[<-e];exact b)) g
  .exact⟨n,(E1 hi (xN h hi)).2 ⟨a,e⟩,b⟩
def YX(n:Bn)(o:Option Bn):Prop:=(o=none/\∀k v,¬wz n k v)\/∃m,o=some m/\UI m/\hd m.1=hd n.1/\∀k v,wz m k v↔wz n k v
theorem TV(a:lab≠[])(hc:eK F)(h:w.isSome\/2<=F.toL.length):YX (lab,w,F) (some (lab,w,F)):=.inr ⟨_,rfl,⟨a,h,hc⟩,rfl,λ_ _=>tu⟩
theorem TW(h:F.toL= []):YX (lab,none,F) none:=by
 refine .inl ⟨rfl,λk v hi=>?_⟩
 obtain⟨r,_,⟨_,h'⟩|h'⟩:=hi
 .cases h'
 .obtain⟨n,a,_⟩:=eW.1 h'
  simp only at a;rw[h]at a;cases a
theorem VO{lk:c6}{a:Option dO}{Fk:Fo}(b:lab≠[])(hc:eK F)(h:F.toL= [(lk,a,Fk)]):YX (lab,none,F) (some (lab++lk,a,Fk)):=by
 have d:F=.cons lk a Fk .nil:=by
  rw[<-Fo.of_to F,h];rfl
 have c:=(dB.1 hc).2 (lk,a,Fk) (by rw[h];exact av.2 rfl);refine .inr ⟨_,rfl,⟨λe=>b (List.append_eq_nil_iff.1 e).1,c.2.1,c.2.2⟩,oV b,λk v=>?_⟩
 have:=KZ (lab:=lab++lk) (w:=a) (F:=Fk) lab.length k v;rw[List.take_left,ii]at this;rw[d];exact this.symm
end
section
open Go.Lift
variable {a b k:dO}{h:ad}{K:dO×Bool->eu}{W:eh}{w:Option dO}{F:Fo}{l:bY}{s:f9}
theorem kF(s:dO):s.data.toList.length=s.size:=a7
theorem W4(a b:dO):(a++b).data.toList=a.data.toList++b.data.toList:=by rw[ByteArray.data_append,Array.toList_append]
theorem TN{K:Bool->eu}(c:K (decide (b.data.toList<+:a.data.toList)) h):eI 284 [.string a,.string b] K h:=by
 refine cZ (AG a b) .nil Tryz.func284 Tryz.call284 ?_;unfold AG lG;refine cZ (xo a b) .nil Tryz.func299 Tryz.call299 ?_;unfold xo lG;refine cZ (kV a b) .nil Tryz.func309 Tryz.call309 ?_;unfold kV;have j:=kF a;have d:=kF b;refine aq (λg=>?_) λf=>?_
 .refine⟨⟨a4,a4⟩,?_⟩
  rw[dV,bi];have e:decide (a.extract 0 b.size=b)=decide (b.data.toList<+:a.data.toList):=by
   rw[decide_eq_decide,<-tY,HZ,List.prefix_iff_eq_take,d];exact eq_comm
  rw[e];exact c
 .have e:decide (b.data.toList<+:a.data.toList)=false:=decide_eq_false λi=>by
   have:=i.length_le;omega
  rw[e]at c;exact c
theorem WF(g:∀s:dO,a.data.toList=b.data.toList++s.data.toList->K (s,true) h)(i:(∀r,a.data.toList≠b.data.toList++r)->K (⟨#[]⟩,false) h):sX 245 [.string a,.string b] K h:=by
 refine cZ (II a b) .nil Tryz.func245 Tryz.call245 ?_;unfold II lG;refine TN ?_;have j:=kF a;have f:=kF b;by_cases c:b.data.toList<+:a.data.toList
 .rw[decide_eq_true c]
  have d:=c.length_le;refine ag.2 ⟨⟨a4,a4⟩,?_⟩
  rw[bi];refine g _ ?_;rw[H0];obtain⟨r,e⟩:=c;rw[<-e,<-f,ii]
 .rw[decide_eq_false c]
  exact aw.2 (i λr e=>c ⟨r,e.symm⟩)
def abR(W:eh)(h:ad)(r:aT)(o:Option Bn):Prop:=(r=none/\o=none)\/∃b sl m,r=some ⟨b,0,none⟩/\o=some m/\sl.data.toList=m.1/\RxN W h b sl m.2.1 m.2.2
theorem Tz{b:Nat}{sl:dO}(r:RxN W h b sl w F)(Z:∀y,W y->y<h.size)(hc:eK F)(q:sl.data.toList≠[])(hs1:sl.size<=1000000)(T:∀k v,qh F k v->k.length<=1000000)
  {K:aT->eu}(U:∀h' r o,Upd No h h'->YX (sl.data.toList,w,F) o->abR W h' r o->K r h'):fx 246 [gV b,.pointer none] K h:=by
 refine CR _ none ?_;dsimp only[vF,fL,yD,gD,cL,Gd,cB,fE,lf,cj,rV,cP];have hr:=r;obtain⟨val,s,ow,ks,hb,hv,hs,Y,hF⟩:=r;have hL:=jP.1 hF;have hn:=jV hc;have c:=hs.len;rw[hL.1]at c;refine eM (λt h'=>t=decide (w.isSome\/2<=F.toL.length)/\h'=h) (λR hR=>⟨_,rfl,w.isSome,dd (i:=1) hb,?_⟩) ?_
 .cases w with
  |some v=>exact aw.2 (hR _ _ ⟨rfl,rfl⟩)
  |none=>
   refine ag.2 ⟨_,rfl,s,dd (i:=3) hb,hR _ _ ⟨?_,rfl⟩⟩;rw[decide_eq_decide];constructor
   .intro h;exact .inr a4
   .rintro(h|h)
    .cases h
    .omega
 .rintro t h' ⟨rfl,rfl⟩
  refine aq (λn=>?_) λn=>?_
  .exact U h' _ _ (eQ _ _) (TV q hc n) (.inr ⟨b,sl,_,rfl,rfl,rfl,hr⟩)
  .have J:w=none:=by
    cases w with
    |none=>rfl
    |some v=>exact absurd (.inl rfl) n
   subst J;have Q:F.toL.length<2:=by
    rcases cp F.toL.length 2 with h|h
    .exact h
    .exact absurd (.inr h) n
   refine⟨_,rfl,s,dd (i:=3) hb,?_⟩;match hFL:F.toL,Q with
   | [],_=>
    rw[hFL]at c;have e:((s.len:Int)==(0:Int))=true:=by rw[beq_iff_eq,c];rfl
    rw[e];exact aw.2 (U h' _ _ (eQ _ _) (TW hFL) (.inl ⟨rfl,rfl⟩))
   | [(lk,wk,Fk)],_=>
    rw[hFL]at c;have e:((s.len:Int)==(0:Int))=false:=by rw[beq_eq_false_iff_ne,c];simp
    rw[e];have f:(lk,wk,Fk)∈F.toL:=by rw[hFL];exact av.2 rfl
    have V:=(dB.1 hc).2 _ f;have h0:0<F.toL.length:=by rw[hFL];exact vX
    obtain⟨kb,d,L,g,m⟩:=hL.at h0;have e0:F.toL[0]=(lk,wk,Fk):=by simp only[hFL];rfl
    rw[e0]at g m;(try simp only at g m)
    obtain⟨a,ha,_,P⟩:=hs.at0 L;obtain⟨z,kss,kow,X,G,O,D,H,p⟩:=m;have E:=jP.1 p;have C:=jV V.2.2;refine ag.2 ⟨_,rfl,s,dd (i:=3) hb,⟨a4,by rw[c];simp⟩,a,ha,some ⟨kb,0,none⟩,P,?_⟩
    refine pD G D (by rw[E.1];exact C) λh1 s1 b1 I u=>?_
    obtain⟨rr,vv,N⟩:=mU hc _ f;have S:=T (lk++rr) vv (eW.2 ⟨_,f,rr,rfl,N⟩);rw[ae]at S;have hlkl:lk.length=d.size:=by rw[<-g];exact kF d
    refine⟨_,rfl,sl,dd (i:=0) (u.get0 hb),_,rfl,d,dd (i:=0) b1,a4,?_⟩
    have hbl:b<h'.size:=bw hb;refine xJ b1 λn b2 A=>?_
    have j:Upd No h' n:=u.own A (aj _);have B:=I.upd A λx hx e=>by have e:x=h'.size:=e;have:=hx.1;omega
    refine U n _ _ j (VO q hc hFL) (.inr ⟨h'.size,sl++d,_,rfl,rfl,by rw[<-g];exact W4 sl d,⟨z,s1,none,X,b2,O,B.sl (λx hx _ J=>by have:=Z _ J;have:=hx.1;omega),⟨B.cap,λhx=>l3 _ (Z _ hx)⟩,RxF.upd0 j p⟩⟩)
set_option maxHeartbeats 1000000 in
theorem Vs:∀(n:Nat) {b:Nat} {sl:dO} {w:Option dO} {F:Fo} {h:ad} (k:dO),k.size<n->RxN W h b sl w F->(∀y,W y->y<h.size)->eK F->(∀j v,qh F j v->j.length<=1000000)->∀{K:aT×Bool->eu},
  (∀h' b' w' F' z,Upd No h h'->RxN W h' b' sl w' F'->eK F'->vW (rX w F) (rX w' F') k.data.toList->(z=false->b'=b/\∀v,¬rX w F k.data.toList v)->(z=true->∃v,rX w F k.data.toList v)->K (some ⟨b',0,none⟩,z) h')->
  rR 183 [gV b,.pointer none,.string k] K h:=by
 intro n;induction n with
 |zero=>intro b sl w F h k hk;omega
 |succ n ih=>
  intro b sl w F h k hkn r hW hc hbd K hk;refine cZ (vH (some ⟨b,0,none⟩) none k) .nil Tryz.func183 Tryz.call183 ?_;dsimp only[vH,fL,yD,dh,lG,Jn,Jm,B0,jz,fE,cL,iL,rW,cB,lf,cj,zn,rV,cP];have hr:=r;obtain⟨val,s,ow,ks,hb,hv,hs,hcap,hF⟩:=r;have hL:=jP.1 hF;have hn:=jV hc;have hcan:=dB.1 hc;have t:∀{h':ad},Upd No h h'->(∀v,¬rX w F k.data.toList v)->K (some ⟨b,0,none⟩,false) h':=λhu C=>hk _ b w F false hu (hr.upd0 hu) hc (Q0 C) (λ_=>⟨rfl,C⟩) λh=>by cases h
  rw[dV];refine aq (λhk0=>?_) λhk0=>?_
  .have hke:k.data.toList= []:=by rw[hk0]
   rw[hke]at hk t;refine⟨_,rfl,w.isSome,dd (i:=1) hb,?_⟩;cases L:w with
   |none=>
    refine aw.2 (t (eQ _ _) λv d=>?_)
    rcases d with⟨_,h⟩|h
    .rw[L]at h;cases h
    .exact absurd rfl (oU hc h)
   |some u=>
    refine ag.2 (pD hb hs (by rw[hL.1];exact hn) λh1 s1 b1 ho1 hu1=>?_)
    refine⟨_,rfl,Xr (i:=1) b1 (show 1<5 by decide),Jt (i:=1) (c':=DB sl false val s1 none) b1 rfl λO b2 o=>?_⟩
    refine⟨_,rfl,Xr (i:=2) b2 (show 2<5 by decide),Jt (i:=2) (c':=DB sl false ⟨#[]⟩ s1 none) b2 rfl λh3 b3 B=>?_⟩
    have G:Upd No h h3:=hu1.own (o.tr B) (aj _);have X:=ho1.upd (o.tr B) λx hx e=>by have e:x=h.size:=e;have:=hx.1;omega
    refine hk h3 h.size none F true G ⟨⟨#[]⟩,s1,none,ks,b3,rfl,X.sl (λx hx _ L=>by have:=hW _ L;have:=hx.1;omega),⟨X.cap,λhx=>l3 _ (hW _ hx)⟩,RxF.upd0 G hF⟩ hc (QZ hc) (λh=>by cases h) λ_=>⟨u,.inl ⟨rfl,L⟩⟩
  .have p:k.data.toList≠[]:=λe=>hk0 (by cases k;exact congrArg lz (Array.toList_inj.1 e))
   obtain⟨c0,hc0,hc0e⟩:=D7 p;refine⟨c0,Int.le_refl _,hc0,?_⟩;have hlk:k.data.toList.length=k.size:=kF k;refine DT hr hc (c:=c0.toNat) (UInt8.toNat_lt _) λi ok hil hlo hhi hok=>?_
   rw[hc0e]at hlo hhi hok;cases ok with
   |false=>
    refine aw.2 (t (eQ _ _) λv d=>?_)
    rcases d with⟨h,_⟩|d
    .exact p h
    .obtain⟨n',hn',e,_⟩:=qv hc d
     obtain⟨j,hj,rfl⟩:=bJ hn';rcases cp j i with hl|hl
     .have:=hlo j hj hl;omega
     .have h1:=hhi j hj hl
      have O:=hhi i a4 (aj _);rcases cp i j with hl2|hl2
      .have h3:=bQ.1 hcan.1 i j a4 hj hl2
       omega
      .have:i=j:=by omega
       subst this;have:=hok.2 ⟨hj,e⟩;cases this
   |true=>
    obtain⟨hi,Z⟩:=hok.1 rfl;refine ag.2 ⟨_,rfl,s,dd (i:=3) hb,?_⟩;obtain⟨kb,ksl,hki,A,H⟩:=hL.at hi;have E:F.toL[i]∈F.toL:=aG hi;have T:=hcan.2 _ E;obtain⟨a,ha,_,hvv⟩:=hs.at0 hki;have hslen:=hs.len;rw[hL.1]at hslen;have hlt1:(i:Int)<((s.len:Nat):Int):=a4
    refine⟨⟨by(try simp only);omega,hlt1⟩,a,ha,some ⟨kb,0,none⟩,hvv,_,rfl,?_⟩;obtain⟨kval,kss,kow,kks,hkb,_⟩:=id H;have D:∀v,qh F k.data.toList v->wz F.toL[i] k.data.toList v:=λv d=>by
     obtain⟨n',hn',e,hN⟩:=qv hc d;rw[<-xR hc hn' E a4];exact hN
    have q:∀j v,wz F.toL[i] j v->qh F j v:=λj v d=>eW.2 ⟨_,E,d⟩
    have g:∀{m:Bn},UI m->hd m.1=hd F.toL[i].1->eK (.ofL (F.toL.set i m)):=λh1 O=>SZ hc hi h1 O
    have P:∀{m:Bn},vW (wz F.toL[i]) (wz m) k.data.toList->vW (qh F) (qh (.ofL (F.toL.set i m))) k.data.toList:=λhp=>Uh hc hi Z hp
    have S:(∀k' v',wz F.toL[i] k' v'->k'=k.data.toList)->vW (qh F) (qh (.ofL (F.toL.take i++F.toL.drop (i+1)))) k.data.toList:=λhp=>Ui hc hi Z hp
    have hrset:∀{h':ad} {k':aT} {m:Bn},Upd No h h'->Kid W h' k' m->RxL W h' (ks.set i k') (F.toL.set i m):=λhu hkd=>(hL.upd0 hu).set hi hkd
    generalize F.toL[i]=m at A H T D q g P S Z;obtain⟨lab,wk,Fk⟩:=m;(try simp only at A H T Z g)
    refine⟨ksl,dd (i:=0) hkb,WF (λR f=>?_) λC=>?_⟩
    .rw[A]at f
     have hlne:lab.length≠0:=λe=>T.1 (List.length_eq_zero_iff.1 e)
     have hrl:R.size<k.size:=by
      rw[<-kF R,<-hlk,f,ae];omega
     refine ag.2 ⟨_,rfl,s,dd (i:=3) hb,⟨by(try simp only);omega,hlt1⟩,a,ha,some ⟨kb,0,none⟩,hvv,?_⟩;have hkbd:∀j v,qh Fk j v->j.length<=1000000:=λj v d=>by
      have:=hbd _ v (q (lab++j) v ⟨j,rfl,.inr d⟩);rw[ae]at this;omega
     refine ih R a4 H hW T.2.2 hkbd λO b2 w2 F2 z o rn2 hc2 hd2 hg0 hg1=>?_
     cases z with
     |false=>
      refine aw.2 (t o λv d=>?_)
      rcases d with⟨h,_⟩|d
      .exact p h
      .obtain⟨r',e,hr'⟩:=D v d
       (try simp only at e)
       rw[f]at e;exact(hg0 rfl).2 v (by rw[ey e];exact hr')
     |true=>
      obtain⟨v0,hv0⟩:=hg1 rfl;have I:∃v,rX w F k.data.toList v:=⟨v0,.inr (q _ _ ⟨_,f,hv0⟩)⟩;have hdn:vW (wz (lab,wk,Fk)) (wz (lab,w2,F2)) k.data.toList:=by
       rw[f];exact Q1 hd2
      refine ag.2 (pD (o.get0 hb) (hs.upd o λ_ h=>h.elim) (by rw[hL.1];exact hn) λh3 s3 b3 X B=>?_)
      have G:=o.tr B;obtain⟨rr,vv,d⟩:=mU hc _ E;have hlb:lab.length<=1000000:=by
       have:=hbd _ v0 (q _ _ ⟨_,f,hv0⟩);rw[f,ae]at this;omega
      have hb2:∀j v,qh F2 j v->j.length<=1000000:=λj v d=>by
       rcases((hd2 j v).1 (.inr d)).2 with⟨e,_⟩|h
       .rw[e];simp
       .exact hkbd j v h
      refine Tz (W:=Pro W O h3) ((rn2.less Pro.hm).upd0 B) (Pro.lt (λy hy=>aA (hW y hy) o.size) B) hc2 (by rw[A];exact T.1) (by rw[<-kF ksl,A];exact hlb) hb2 λh4 r4 o4 Y hm4 hr4=>?_
      rw[A]at hm4;have b4:=Y.get0 b3;have ho4:=X.upd Y λ_ _ h=>h
      have hu04:=G.tr Y;have hz2:h.size<=O.size:=o.size;have hil:i<ks.length:=by rw[hL.1];exact hi
      have hlen4:=ho4.len;rcases hr4 with⟨rfl,rfl⟩|⟨V,sl4,m4,rfl,rfl,hsl4,rn4⟩
      .rcases hm4 with⟨_,C⟩|⟨_,e,_⟩
       .have ew:ac .i64 ((i:Int)+1)=((i+1:Nat):Int):=by rw[dw a4];omega
        refine aw.2 ⟨_,rfl,s3,dd (i:=3) b4,?_⟩;(try simp only)
        rw[ew];refine Q3 ho4 hil (by rw[hL.1];omega) λs5 h5 Q J=>?_
        have b5:=J.get b4 λhx=>by have:=hx.1;omega
        refine⟨_,rfl,Xr (i:=3) b5 (show 3<5 by decide),Jt (i:=3) (c':=DB sl w.isSome val s5 none) b5 rfl λh6 b6 hu6=>?_⟩
        have N:Upd No h h6:=(hu04.trans J λx hx=>.inr (by have:=hx.1;omega)).own hu6 hz2
        have ho6:=Q.upd hu6 λx hx e=>by have e:x=O.size:=e;have:=hx.1;omega
        refine hk h6 O.size w _ true N ⟨val,s5,none,_,b6,hv,ho6.sl (λx hx _ L=>by have:=hW _ L;have:=hx.1;omega),⟨ho6.cap,λhx=>by have:=hW _ hx;omega⟩,jP.2 (by rw[Fo.to_of];exact((hL.upd0 N).take i).app ((hL.upd0 N).drop (i+1)))⟩ (YC hc) (H4 p (S λk' v' hN=>?_)) (λh=>by cases h) λ_=>I
        refine nX λhne=>C k' v' ((hdn k' v').2 ⟨hne,hN⟩)
       .cases e
      .rcases hm4 with⟨e,_⟩|⟨m',e,hcn,hhd,hiff⟩
       .cases e
       .cases e
        obtain⟨a3,ha3,U,hw3,Q,J⟩:=OwnS.setAt ho4 hil (some ⟨V,0,none⟩);refine ag.2 ⟨_,rfl,s3,dd (i:=3) b4,⟨by(try simp only);omega,by(try simp only);omega⟩,a3,ha3,?_⟩
        have hw1:Wr h4 (adr a3 (i*1)):=by
         rcases hw3 with L|⟨b',hb',L⟩
         .cases L
         .cases hb';exact L 0 a7
        refine⟨hw1,bF ?_⟩;have b5:=J.get b4 λe=>by have e:O.size=a3.block:=e;have:=U.1;omega
        have hu45:Upd No O _:=(B.tr Y).trans J λx hx=>.inr (by have hx:x=a3.block:=hx;have:=U.1;omega)
        have hu05:=o.tr hu45;have eset:ks.set i (some ⟨V,0,none⟩)=ks.take i++some ⟨V,0,none⟩::ks.drop (i+1):=by rw[List.set_eq_take_append_cons_drop,if_pos hil]
        rw[<-eset]at Q;have rn5:=(rn4.updM (M:=(· =a3.block)) J λy hy=>.inl (.inr (by have hy:y=a3.block:=hy;have:=U.1;have:=U.2;omega))).less (W':=W) λy hy=>.inl (.inl hy)
        exact hk _ O.size w _ true hu05 ⟨val,s3,none,_,b5,hv,Q.sl (λx hx _ L=>by have:=hW _ L;have:=hx.1;omega),⟨Q.cap,λhx=>by have:=hW _ hx;omega⟩,jP.2 (by rw[Fo.to_of];exact hrset hu05 ⟨V,sl4,rfl,hsl4,rn5⟩)⟩ (g hcn hhd) (H4 p (P λk' v'=>by rw[hiff k' v'];exact hdn k' v')) (λh=>by cases h) λ_=>I
    .rw[A]at C
     refine aw.2 (t (eQ _ _) λv d=>?_)
     rcases d with⟨h,_⟩|d
     .exact p h
     .obtain⟨r',e,_⟩:=D v d
      exact C r' e
theorem TE(h:∀k v,(k,v)∈wS w F↔∃p∈l,p.1.data.toList=k/\p.2=v)(a:Fit l):∀j v,qh F j v->j.length<=1000000:=λj v hi=>by
 obtain⟨p,b,e,_⟩:=(h j v).1 (jQ.2 (.inr hi));have:=(a p b).1;rw[<-e,kF];omega
theorem Mf{b:Nat}(t:RadAt W h b l)(D:∀y,W y->y<h.size)(N:Fit l)(k:dO){K:aT×Bool->eu}
  (L:∀h' b',Upd No h h'->RadAt W h' b' (mW k l)->(cE l k=false->b'=b)->K (some ⟨b',0,none⟩,cE l k) h'):
  rR 124 [.pointer none,gV b,.string k] K h:=by
 refine cZ (Db none (some ⟨b,0,none⟩) k) .nil Tryz.func124 Tryz.call124 ?_;unfold Db Jn;refine DR (.inr ⟨b,rfl,t⟩) D λQ b2 G g m=>?_
 have n:b2=b:=by
  rcases m with e|e
  .cases e;rfl
  .cases e
 subst n;obtain⟨w,F,J,I,z⟩:=G.ex;refine Vs (k.size+1) k a4 J (λy O=>aA (D y O) g.size) I (TE z N) λH b3 E F' a x o B u i C=>?_
 have f:∀v,rX w F k.data.toList v↔(k,v)∈l:=λv=>by
  rw[<-jQ,z];constructor
  .rintro⟨p,A,P,rfl⟩
   rw[<-tY.1 P];exact A
  .intro A;exact⟨_,A,rfl,rfl⟩
 have s:a=cE l k:=by
  cases a with
  |false=>
   refine(yW λq d e=>(i rfl).2 q.2 ((f _).2 ?_)).symm
   rw[<-e];exact d
  |true=>
   obtain⟨v,hv⟩:=C rfl;exact(cg.2 ⟨_,(f v).1 hv,decide_eq_true rfl⟩).symm
 subst s;refine L H b3 (g.tr x) ⟨E,F',o,B,λj v=>?_⟩ λht=>(i ht).1
 rw[jQ,u j v,<-jQ,z];constructor
 .rintro⟨c,q,d,rfl,rfl⟩
  exact⟨q,Gt.2 ⟨d,λe=>c (by rw[e])⟩,rfl,rfl⟩
 .rintro⟨q,d,rfl,rfl⟩
  obtain⟨d,c⟩:=Gt.1 d;exact⟨λe=>c (tY.1 e),q,d,rfl,rfl⟩
theorem EJ{x:Hs}{kind:Int}{t:Tr}(i:TreeIs W h kind x t l)(hW:∀y,W y->y<h.size)(hr:bO l)(hf:Fit l)(hn:l.length<=1000000)(k:dO)(L:k.size<=256){K:Tr×Int->eu}
  (H:∀h' j,TreeIs W h' kind x j (mW k l)->(cE l k=false->j=t)->Upd No h h'->K (j,if cE l k then 0 else 4) h'):Py 76 [A4 t,.pointer none,.string k] K h:=by
 refine cZ (sE t none k) An Tryz.func76 Tryz.call76 ?_;dsimp only[sE,bh,aF,nv,yi,wJ,PK,dh,lG,Jn,mE,ai,zr,dH,Ah,fH,lP,uJ];refine aV λd b1 k1=>aV λs b2 O=>?_
 have z1:=bw b1;have z2:=bw b2;have V:h.size<=d.size:=k1.size;have Q:=k1.tr O;refine Ky (v:=⟨#[]⟩) L (aK 4096) (ag.2 ?_);have c1:=O.get0 b1;refine⟨_,vc c1 0,_,vc c1 1,_,vc c1 2,_,vc c1 3,_,vc c1 4,_,vc c1 5,?_⟩;refine aV λh3 b3 X=>?_
 have z3:=bw b3;have s2:d.size<=s.size:=O.size;refine cy (c:=jJ wI) (vs:=jJ t) b3 rfl λF Y B=>?_
 have u:Upd No h F:=(Q.tr X).own B a4;have C:Upd No s F:=X.own B (aj _);have s4:h3.size<=F.size:=B.size;have w:=C.get0 c1;have d4:=C.get0 b2;have i4:=i.pro u;have D:=Pro.lt hW u;have fin:∀{a:ad} {j:Tr},Upd No h a->a[h.size]? =some (.cells (jJ j).toArray 50 (0,0))->a[d.size]? =some (.cells (jJ wI).toArray 50 (0,0))->a[s.size]? =some (.cells (jJ t).toArray 50 (0,0))->TreeIs (Pro W h F) a kind x j (mW k l)->(cE l k=false->j=t)->
   fN (!cE l k) (∃v41:Int,aI a (adr (aH s) 0)=some (.int .i64 v41)/\
    ∃v42:Int,aI a (adr (aH s) 1)=some (.int .u64 v42)/\
    ∃v43:Int,aI a (adr (aH s) 2)=some (.int .u64 v43)/\
    ∃v44:Int,aI a (adr (aH s) 3)=some (.int .u64 v44)/\
    ∃v45:aT,aI a (adr (aH s) 4)=some (.pointer v45)/\
    ∃v46:aT,aI a (adr (aH s) 5)=some (.pointer v46)/\
    (qR a (some (aH d)) 0 [.int .i64 v41,.int .u64 v42,.int .u64 v43,.int .u64 v44,.pointer v45,.pointer v46]/\
     At (fu a (aH d) 0 [.int .i64 v41,.int .u64 v42,.int .u64 v43,.int .u64 v44,.pointer v45,.pointer v46]) (λn=>
      ∃v48:Int,aI n (adr (aH d) 0)=some (.int .i64 v48)/\
      ∃v49:Int,aI n (adr (aH d) 1)=some (.int .u64 v49)/\
      ∃v50:Int,aI n (adr (aH d) 2)=some (.int .u64 v50)/\
      ∃v51:Int,aI n (adr (aH d) 3)=some (.int .u64 v51)/\
      ∃v52:aT,aI n (adr (aH d) 4)=some (.pointer v52)/\
      ∃v53:aT,aI n (adr (aH d) 5)=some (.pointer v53)/\
      K ((v48,v49,v50,v51,v52,v53),4) n))) (
    ∃v54:Int,aI a (adr (aH h) 0)=some (.int .i64 v54)/\
    ∃v55:Int,aI a (adr (aH h) 1)=some (.int .u64 v55)/\
    ∃v56:Int,aI a (adr (aH h) 2)=some (.int .u64 v56)/\
    ∃v57:Int,aI a (adr (aH h) 3)=some (.int .u64 v57)/\
    ∃v58:aT,aI a (adr (aH h) 4)=some (.pointer v58)/\
    ∃v59:aT,aI a (adr (aH h) 5)=some (.pointer v59)/\
    (qR a (some (aH d)) 0 [.int .i64 v54,.int .u64 v55,.int .u64 v56,.int .u64 v57,.pointer v58,.pointer v59]/\
     At (fu a (aH d) 0 [.int .i64 v54,.int .u64 v55,.int .u64 v56,.int .u64 v57,.pointer v58,.pointer v59]) (λm=>
      ∃v61:Int,aI m (adr (aH d) 0)=some (.int .i64 v61)/\
      ∃v62:Int,aI m (adr (aH d) 1)=some (.int .u64 v62)/\
      ∃v63:Int,aI m (adr (aH d) 2)=some (.int .u64 v63)/\
      ∃v64:Int,aI m (adr (aH d) 3)=some (.int .u64 v64)/\
      ∃v65:aT,aI m (adr (aH d) 4)=some (.pointer v65)/\
      ∃v66:aT,aI m (adr (aH d) 5)=some (.pointer v66)/\
      K ((v61,v62,v63,v64,v65,v66),0) m))):=λ{a j} G z J A I g=>by
  cases ht:cE l k with
  |false=>
   rw[ht]at H g;have T:=g rfl;subst T;refine aw.2 ⟨_,vc A 0,_,vc A 1,_,vc A 2,_,vc A 3,_,vc A 4,_,vc A 5,?_⟩;refine cy (c:=jJ wI) (vs:=jJ j) J rfl λS o p=>?_
   refine⟨_,vc o 0,_,vc o 1,_,vc o 2,_,vc o 3,_,vc o 4,_,vc o 5,?_⟩;exact H S j ((I.updM p (λy q=>.inl (.inr (by have q:y=d.size:=q;omega)))).less Pro.sub) (λ_=>rfl) (G.own p V)
  |true=>
   rw[ht]at H g;refine ag.2 ⟨_,vc z 0,_,vc z 1,_,vc z 2,_,vc z 3,_,vc z 4,_,vc z 5,?_⟩;refine cy (c:=jJ wI) (vs:=jJ j) J rfl λS o p=>?_
   refine⟨_,vc o 0,_,vc o 1,_,vc o 2,_,vc o 3,_,vc o 4,_,vc o 5,?_⟩;exact H S j ((I.updM p (λy q=>.inl (.inr (by have q:y=d.size:=q;omega)))).less Pro.sub) (λh=>by cases h) (G.own p V)
 refine eM (λtk a=>tk=cE l k/\Upd No h a/\∃j,a[h.size]? =some (.cells (jJ j).toArray 50 (0,0))/\a[d.size]? =some (.cells (jJ wI).toArray 50 (0,0))/\a[s.size]? =some (.cells (jJ t).toArray 50 (0,0))/\TreeIs (Pro W h F) a kind x j (mW k l)/\(cE l k=false->j=t)) (λR Z=>?_) ?_
 .rcases i4 with⟨rfl,b,rfl,P⟩|⟨rfl,b,rfl,P⟩
  .refine⟨_,vc w 0,ag.2 ⟨_,gL w 1 0,_,gL w 1 1,_,gL w 1 2,_,vc w 4,?_⟩⟩
   refine MU P D hr hn k λh5 E e N g=>?_
   refine tC (i:=4) (c':=(jJ (0,x.k0,x.k1,x.mask,some ⟨E,0,none⟩,none)).toArray) (e.get0 w) (show 4<6 by decide) rfl λa U f=>?_
   exact Z _ _ ⟨rfl,(u.tr e).own f (aj _),_,U,f.oth (e.get0 d4) a4,f.oth (e.get0 Y) a4,.inl ⟨rfl,E,rfl,TrieAt.updM f (λy q=>.inl (.inr (by have q:y=h.size:=q;omega))) N⟩,λht=>by rw[g ht]⟩
  .refine⟨_,vc w 0,aw.2 ⟨_,vc w 5,?_⟩⟩
   refine Mf P D hf k λh5 E e N g=>?_
   refine tC (i:=5) (c':=(jJ (1,0,0,0,none,some ⟨E,0,none⟩)).toArray) (e.get0 w) (show 5<6 by decide) rfl λa U f=>?_
   exact Z _ _ ⟨rfl,(u.tr e).own f (aj _),_,U,f.oth (e.get0 d4) a4,f.oth (e.get0 Y) a4,.inr ⟨rfl,E,rfl,N.updM f (λy q=>.inl (.inr (by have q:y=h.size:=q;omega)))⟩,λht=>by rw[g ht]⟩
 .rintro _ a ⟨rfl,G,j,z,J,A,I,g⟩
  exact fin G z J A I g
theorem VA(u:Sl dZ 2 W h s l)(B:bO l)(D:Fit l)(F:l.length<=1000000)(k:dO){K:Int×Bool->eu}
  (z:∀i:Nat,(cE l k=true->∃hi:i<l.length,l[i].1=k)->K ((i:Int),cE l k) h):uP 185 [.slice s.a s.len s.cap,.string k] K h:=by
 refine cZ (IX s k) RC Tryz.func185 Tryz.call185 ?_;dsimp only[IX,lG,En,cP,jz,fE];have y:=u.len;refine eF (λ(i:Nat) (t:Int) h'=>t=(i:Int)/\i<=l.length/\h'=h/\∀j (c:j<l.length),j<i->kl l[j].1 k) (λi=>l.length-i) 0 ⟨rfl,aK _,rfl,λj c h=>a4⟩ ?_
 rintro I i t h' ⟨rfl,hi,rfl,d⟩ C;refine eM (λt w=>w=h'/\(t=true↔∃hi:i<l.length,kl l[i].1 k)) (λR x=>?_) ?_
 .refine aq (λb=>?_) λo=>x _ _ ⟨rfl,⟨λh=>(by cases h),λ⟨hi,_⟩=>a4⟩⟩
  have b:i<l.length:=a4
  obtain⟨a,p,_,hv⟩:=u.at (af b);have E:=(D _ (aG b)).1;refine⟨⟨a4,a4⟩,a,p,l[i].1,hv 0 _ rfl,Hn a4 (x _ _ ⟨rfl,?_⟩)⟩
  rw[decide_eq_true_iff];exact⟨λh=>⟨b,h⟩,λ⟨_,h⟩=>h⟩
 .rintro t w ⟨rfl,ht⟩
  cases t with
  |true=>
   obtain⟨b,g⟩:=ht.1 rfl;refine aw.2 ?_;rw[mI b a4];refine C (i+1) _ _ ⟨rfl,b,rfl,λj c A=>?_⟩ a4
   rcases cp j i with h|h
   .exact d j c h
   .have:j=i:=by omega
    subst this;exact g
  |false=>
   refine ag.2 (aq (λb=>?_) λo=>?_)
   .have b:i<l.length:=by omega
    have v:¬kl l[i].1 k:=λh=>by have:=ht.2 ⟨b,h⟩;cases this
    obtain⟨a,p,_,hv⟩:=u.at (af b);refine⟨⟨a4,a4⟩,a,p,l[i].1,hv 0 _ rfl,?_⟩
    rw[dV];have e:decide (l[i].1=k)=cE l k:=by
     by_cases e:l[i].1=k
     .rw[decide_eq_true e]
      exact(cg.2 ⟨_,aG b,decide_eq_true e⟩).symm
     .rw[decide_eq_false e]
      refine(yW λq m f=>?_).symm
      obtain⟨j,c,rfl⟩:=bJ m;have n:=l8 v e;rcases mA j i with h|h|h
      .have:=d j c h;rw[f]at this;exact bT _ this
      .subst h;exact e f
      .have:=bQ.1 B i j b c h
       rw[f]at this;exact bT _ (dI n this)
    rw[e];exact z i λht=>⟨b,of_decide_eq_true (e.trans ht)⟩
   .have e:cE l k=false:=yW λq m f=>by
     obtain⟨j,c,rfl⟩:=bJ m;have:=d j c a4;rw[f]at this;exact bT _ this
    have:=z i λh=>by rw[e]at h;cases h
    rw[e]at this;exact this
theorem Sm(e:Sl dZ 2 W h s l)(m:bO l)(j:Fit l)(n:l.length<=1000000)(k:dO)
  (c:∀v,(cE l k=true->(k,v)∈l)->(cE l k=false->v=⟨#[]⟩)->K (v,cE l k) h):sX 126 [.slice s.a s.len s.cap,.string k] K h:=by
 refine cZ (LF s k) .nil Tryz.func126 Tryz.call126 ?_;dsimp only[LF,cP,kr,jz,fE];have f:=e.len;refine VA e m j n k λi hi=>?_
 cases ht:cE l k with
 |false=>rw[ht]at c;exact aw.2 (c _ (λh=>(by cases h)) λ_=>rfl)
 |true=>
  rw[ht]at c;obtain⟨b,d⟩:=hi ht;obtain⟨a,g,_,hv⟩:=e.at (af b);refine ag.2 ⟨⟨by(try simp only);omega,by(try simp only);omega⟩,a,g,l[i].2,hv 1 _ rfl,c _ (λ_=>by rw[<-d];exact aG b) λh=>(by cases h)⟩
theorem Ow(k:dO):look [] k=none:=rfl
theorem fa(p:Pr)(l:bY)(k:dO):look (p::l) k=if p.1=k then some p.2 else look l k:=by
 unfold look;rw[lX];by_cases e:p.1=k
 .rw[decide_eq_true e,if_pos e];rfl
 .rw[decide_eq_false e,if_neg e]
theorem yZ(h:∀p∈l,kl k p.1):look l k=none:=KL (yW λp a e=>by have:=h p a;rw[e]at this;exact bT _ this)
theorem mR{k v:dO}:∀{l:bY},look l k=some v->(k,v)∈l
 | [],h=>by cases h
 |p::l,h=>by
  rw[fa]at h;by_cases e:p.1=k
  .rw[if_pos e]at h;cases h;rw[<-e];exact al ..
  .rw[if_neg e]at h;exact ay _ (mR h)
theorem VW{m:bY}(b:bO l)(hm:bO m)(h:∀k,look l k=look m k):l=m:=
 wR b hm λp=>⟨λa=>mR (by rw[<-h];exact tB b a),λa=>mR (by rw[h];exact tB hm a)⟩
theorem HH(p:Pr)(k:dO):∀{l:bY},look (gw p l) k=if p.1=k then some p.2 else look l k
 | []=>fa p [] k
 |q::l=>by
  rw[gc];by_cases a:kl q.1 p.1
  .rw[if_pos a,fa,HH p k,fa]
   by_cases e:q.1=k
   .rw[if_pos e,if_pos e,if_neg λc=>by rw[e,c]at a;exact bT _ a]
   .rw[if_neg e,if_neg e]
  .rw[if_neg a]
   by_cases b:q.1=p.1
   .rw[if_pos b,fa,fa,b]
    by_cases e:p.1=k
    .rw[if_pos e,if_pos e]
    .rw[if_neg e,if_neg e,if_neg e]
   .rw[if_neg b,fa]
theorem HI(k' k:dO):∀{l:bY},look (mW k' l) k=if k'=k then none else look l k
 | []=>by
  by_cases e:k'=k; · rw[if_pos e];rfl
  .rw[if_neg e];rfl
 |q::l=>by
  rw[wX];by_cases h:q.1=k'
  .rw[if_pos h,HI k' k,fa,h]
   by_cases e:k'=k
   .rw[if_pos e,if_pos e]
   .rw[if_neg e,if_neg e,if_neg e]
  .rw[if_neg h,fa,HI k' k,fa]
   by_cases e:q.1=k
   .rw[if_pos e,if_pos e,if_neg λa=>h (by rw[e,a])]
   .rw[if_neg e,if_neg e]
def Zh(k:dO)(a b:Option dO):Option Ch:=if a=b then none else some (k,a.getD ⟨#[]⟩,b.getD ⟨#[]⟩,a.isSome,b.isSome)
theorem O6(k:dO)(a:Option dO):Zh k a a=none:=if_pos rfl
theorem YF{a b:Option dO}{c:Ch}(h:Zh k a b=some c):c=(k,a.getD ⟨#[]⟩,b.getD ⟨#[]⟩,a.isSome,b.isSome)/\a≠b:=by
 unfold Zh at h;by_cases e:a=b
 .rw[if_pos e]at h;cases h
 .rw[if_neg e]at h;cases h;exact⟨rfl,e⟩
def fd(l:List Ch)(k:dO):Option Ch:=l.find? λc=>decide (c.1=k)
theorem xQ(c:Ch)(l:List Ch)(k:dO):fd (c::l) k=if c.1=k then some c else fd l k:=by
 unfold fd;rw[lX];by_cases e:c.1=k
 .rw[decide_eq_true e,if_pos e]
 .rw[decide_eq_false e,if_neg e]
theorem QW{k:dO}{c:Ch}:∀{l:List Ch},fd l k=some c->c∈l/\c.1=k
 | [],h=>by cases h
 |a::l,h=>by
  rw[xQ]at h;by_cases e:a.1=k
  .rw[if_pos e]at h;cases h;exact⟨al ..,e⟩
  .rw[if_neg e]at h;exact⟨ay _ (QW h).1,(QW h).2⟩
theorem Ww{c:Ch}:∀{l:List Ch},Ng l->c∈l->fd l c.1=some c
 |a::l,b,h=>by
  have b:=aC.1 b;rw[xQ];rcases au.1 h with rfl|h
  .exact if_pos rfl
  .rw[if_neg λe=>by have:=b.1 c h;rw[e]at this;exact bT _ this]
   exact Ww b.2 h
theorem QX{A B:bY}(d:bO A)(f:bO B)(k:dO):fd (iE A B) k=Zh k (look A k) (look B k):=by
 refine oq (P:=λA B=>fd (iE A B) k=Zh k (look A k) (look B k)) ?_ (λa A B d _ h i=>?_) (λb A B _ f h i=>?_) (λa b A B e d f i=>?_) d f
 .rw[jl];exact(O6 ..).symm
 .rw[tX h,xQ,fa,i]
  by_cases e:a.1=k
  .rw[if_pos (show(JF a).1=k from e),if_pos e,<-e,yZ h];rfl
  .rw[if_neg (show ¬(JF a).1=k from e),if_neg e]
 .rw[tW h,xQ,fa,i]
  by_cases e:b.1=k
  .rw[if_pos (show(Xu b).1=k from e),if_pos e,<-e,yZ h];rfl
  .rw[if_neg (show ¬(Xu b).1=k from e),if_neg e]
 .rw[tV e,fa,fa,<-e]
  by_cases h:a.1=k
  .rw[if_pos h,if_pos h]
   unfold zl Zh;by_cases c:a.2=b.2
   .rw[if_pos c,if_pos (by rw[c]),List.nil_append,i,<-h,yZ (aC.1 d).1,e,yZ (aC.1 f).1,O6]
   .rw[if_neg c,if_neg (λe=>c (Option.some.inj e)),mg,xQ,if_pos h,h];rfl
  .rw[if_neg h,if_neg h,<-i]
   unfold zl;by_cases c:a.2=b.2
   .rw[if_pos c];rfl
   .rw[if_neg c,mg,xQ,if_neg h]
end
end Go.Proofs
