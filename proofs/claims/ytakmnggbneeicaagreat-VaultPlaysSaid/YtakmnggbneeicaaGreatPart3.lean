/- A part of the proof that the named laws of this program answer true, whatever the input. -/
import Derived.Test.YtakmnggbneeicaaGreatPart2
import Derived.Test.YtakmnggbneeicaaGreatPart0
open Array renaming length_toList->eW
open ByteArray renaming size_extract->eK,mk->lJ
open Classical renaming byContradiction->om
open Go.IntKind renaming wrap->ac
open Go.Op renaming bytesLess->bF
open Iff renaming rfl->ug
open Int renaming toNat_natCast->aY
open List renaming getElem?_eq_getElem->af,getElem?_eq_none->jP,cons->eB,append_nil->aX,append_assoc->au,length_append->ae,flatMap_cons->aL,map_append->cC,map_map->jc,map_congr_left->oB,mem_map->be,take_append_drop->aW,flatMap_append->bI,flatMap_nil->gk,take_length->bG,mem_cons->aw,length_cons->av,map_nil->fZ,length_nil->bq,not_mem_nil->ee,getElem_cons_zero->eJ,mem_cons_self->aq,pairwise_cons->aC,sublist_cons_self->lF,mem_cons_of_mem->aA,cons_append->cN,take_succ_cons->dw,length->eT,length_drop->ba,pairwise_append->cE,mem_append_left->cx,mem_append_right->cA,mem_of_getLast?->iz,mem_append->aN,mem_singleton->az,find?_cons->l7,nodup_nil->qr,pairwise_singleton->cB,filter_eq_self->db,any_eq_true->cq,any_cons->rG,filter_filter->jI,mem_range->fW,length_take->aV,append_cancel_left->eo,getElem_mem->aF,getElem_of_mem->bH,getElem_take->mD,getElem_drop->qt,mem_of_getElem->oA,drop_left->gD
open List.Lex renaming nil->yH
open List.Pairwise renaming nil->cj
open Nat renaming le_refl->aj,le_trans->aO,lt_of_lt_of_le->aD,zero_le->aJ,succ_pos->od,zero_testBit->oc,one_pos->wF,lt_or_ge->ci,lt_irrefl->l8
open Option renaming some->bO
namespace Go.Proofs
section
open Go.Lift
variable {h':ad}{kind p:Int}{x z:Hs}{r ow c:aT}{l A B l' D:bY}{W' M C:dx}{K:fD->dO}{k v sl a ahead:c6}{n m:Bn}{L:List Bn}{α:Type}{sz b sb:Nat}{w:Option c6}{t:TypeId}{y pre key lab:c5}{ks:List aT}{F:Fo}
abbrev Rt:=Int×Int×Int×Int×fD
abbrev ry(r:Rt):c4:= [.int .i64 r.1,.int .u64 r.2.1,.int .u64 r.2.2.1,.int .u64 r.2.2.2.1,.slice r.2.2.2.2.a r.2.2.2.2.len r.2.2.2.2.cap]
abbrev Vl(r:Rt):Value:=.agg #[.int .i64 r.1,.int .u64 r.2.1,.int .u64 r.2.2.1,.int .u64 r.2.2.2.1,.slice r.2.2.2.2.a r.2.2.2.2.len r.2.2.2.2.cap]
abbrev KA:Rt:=(0,0,0,0,⟨none,0,0⟩)
def hx(kind v:Int):Int:=if kind=0 then v else 0
def RefIs(W:dx)(h:ad)(kind:Int)(x:Hs)(r:Rt)(l:bY):Prop:=∃s,r=(kind,hx kind x.k0,hx kind x.k1,hx kind x.mask,s)/\Sl dT 2 W h s l/\s.len<=s.cap
theorem RefIs.upd0{W:dx}{h:ad}{r:Rt}(k:Upd No h h')(i:RefIs W h kind x r l):RefIs W h' kind x r l:=
 let⟨s,e,a⟩:=i;⟨s,e,a.1.upd k λ_ h=>h.elim,a.2⟩
theorem RefIs.less{W:dx}{h:ad}(hm:∀b,W' b->W b\/h.size<=b){r:Rt}(i:RefIs W h kind x r l):RefIs W' h kind x r l:=
 let⟨s,e,a⟩:=i;⟨s,e,a.1.less hm,a.2⟩
theorem RefIs.updM{W:dx}{h:ad}(k:Upd M h h')(hm:∀b,M b->W b\/h.size<=b){r:Rt}(i:RefIs W h kind x r l):RefIs W h' kind x r l:=
 let⟨s,e,a⟩:=i;⟨s,e,a.1.upd k hm,a.2⟩
theorem T4{W:dx}{h:ad}(f:kind=0\/kind=1){K:Rt×Int->dO}(i:∀h' r,RefIs W h' kind x r []->Upd No h h'->K (r,0) h'):AQ 46 [.int .i64 kind,.agg #[.int .u64 x.k0,.int .u64 x.k1,.int .u64 x.mask]] K h:=by
 refine Mu kind (x.k0,x.k1,x.mask) ?_;dsimp only[Fq,dE,AP,pU,vy,bh,ao,dK,iZ];refine aQ λm b1 k1=>aQ λk b2 g=>?_
 have c1:=g.get0 b1;have j:=k1.size;have d:=k1.tr g;rcases f with rfl|rfl
 .refine ay.2 ⟨_,vc c1 0,_,vc c1 1,_,vc c1 2,?_⟩
  refine co (c:=ry KA) (vs:=ry (0,x.k0,x.k1,x.mask,⟨none,0,0⟩)) b2 rfl λe a b=>?_
  exact⟨_,vc a 0,_,vc a 1,_,vc a 2,_,vc a 3,⟨none,0,0⟩,vc a 4,i e (0,x.k0,x.k1,x.mask,⟨none,0,0⟩) ⟨_,rfl,Sl.nil fP,aj _⟩ (d.own b j)⟩
 .refine ag.2 (ay.2 ?_)
  refine co (c:=ry KA) (vs:=ry (1,0,0,0,⟨none,0,0⟩)) b2 rfl λe a b=>?_
  exact⟨_,vc a 0,_,vc a 1,_,vc a 2,_,vc a 3,⟨none,0,0⟩,vc a 4,i e (1,0,0,0,⟨none,0,0⟩) ⟨_,rfl,Sl.nil fP,aj _⟩ (d.own b j)⟩
theorem Vs(c:k.size<=256)(b:v.size<=4096){h:ad}{K:Int->dO}(a:K 0 h):fK 137 [.string k,.string v] K h:=by
 refine dg (Gw k v) .nil Tryz.func137 Tryz.call137 ?_;unfold Gw;refine ar (λh=>absurd h a4) λ_=>ar (λh=>absurd h a4) λ_=>a
theorem Xn{W:dx}{h:ad}{r:Rt}(i:RefIs W h kind x r l)(D:∀y,W y->y<h.size)(G:bS l)(E:l.length<=1000000)(p:Pr)(q:p.1.size<=256)(u:p.2.size<=4096){K:Rt×Int->dO}
  (C:∀h' r',RefIs W h' kind x r' (gQ p l)->Upd No h h'->K (r',0) h'):AQ 86 [Vl r,.agg #[.string p.1,.string p.2]] K h:=by
 refine dg (JO r p) .nil Tryz.func86 Tryz.call86 ?_;dsimp only[JO,qD,dK,pU,AO,kF,mH,bo,ix,dd,G4,dE,MS,vy,bh,ao,wQ,qE];refine aQ λA b1 k1=>aQ λw b2 v=>aQ λN b3 o=>?_
 have J:=bB b1;have S:=bB b2;have P:=bB b3;have R:h.size<=A.size:=k1.size;have Q:A.size<=w.size:=v.size;have L:=o.size;have g:=(k1.tr v).tr o;have B:=o.get0 (v.get0 b1);have n:=o.get0 b2;obtain⟨s,rfl,H,_⟩:=i;refine⟨_,vc n 0,_,vc n 1,Vs q u (ag.2 ?_)⟩;refine⟨s,vc B 4,p.1,vc n 0,p.2,vc n 1,?_⟩;refine T3 (H.upd g λ_ h=>h.elim) G E p a4 λd T t b=>?_
 refine oD (i:=4) (c':=(ry (kind,hx kind x.k0,hx kind x.k1,hx kind x.mask,d)).toArray) (b.get0 B) (show 4<5 by decide) rfl λO m a=>?_
 refine⟨_,vc m 0,_,vc m 1,_,vc m 2,_,vc m 3,d,vc m 4,?_⟩;refine co (c:=ry KA) (vs:=ry (kind,hx kind x.k0,hx kind x.k1,hx kind x.mask,d)) (a.oth (b.get0 b3) a4) rfl λI k f=>?_
 refine⟨_,vc k 0,_,vc k 1,_,vc k 2,_,vc k 3,d,vc k 4,?_⟩;have j:=(t.upd a λy z e=>by have e:y=h.size:=e;omega).upd f λy z e=>by have e:y=w.size:=e;omega
 refine C I (kind,hx kind x.k0,hx kind x.k1,hx kind x.mask,d) ⟨d,rfl,j.sl λy z _ F=>by have:=D y F;omega,j.cap⟩ (((g.tr b).own a (aj _)).own f a4)
def F1(r q:Rt):Bool:=(r.1==q.1)&&((r.2.1==q.2.1)&&((r.2.2.1==q.2.2.1)&&((r.2.2.2.1==q.2.2.2.1)&&true)))
theorem CW{r q:Rt}{h:ad}{K:Bool->dO}(b:∀h',Upd No h h'->K (F1 r q) h'):gl 128 [Vl r,Vl q] K h:=by
 refine dg (JP r q) .nil Tryz.func128 Tryz.call128 ?_;dsimp only[JP,bh,AV,ge,wQ,qE];refine aQ λd b1 k1=>aQ λc b2 a=>?_
 have c1:=a.get0 b1;refine⟨_,vc c1 0,_,vc b2 0,?_⟩;have:=b c (k1.tr a);unfold F1 at this;rcases hb:(r.1==q.1)with _|_
 .rw[hb]at this
  exact ag.2 this
 .rw[hb]at this
  exact ay.2 ⟨_,iq c1 1 0,_,iq c1 1 1,_,iq c1 1 2,_,iq b2 1 0,_,iq b2 1 1,_,iq b2 1 2,this⟩
def Md(s:c6):c6:=s.extract 0 (min s.size 30)
theorem Jf(s:c6):(Md s).size<=30:=by unfold Md;rw[eK];omega
def ads(p:Pr):Pr:=(Md p.1,Md p.2)
structure Few(n:Nat)(L:bY):Prop where
 up:bS L
 len:L.length<=n
 fit:∀p∈L,p.1.size<=30/\p.2.size<=30
theorem Few.ins{n:Nat}{L:bY}(f:Few n L)(p:Pr)(c:p.1.size<=30)(b:p.2.size<=30):Few (n+1) (gQ p L):=
 ⟨pF p f.up,aO (EW p) (by have:=f.len;omega),λq a=>(uy a).elim (λe=>by rw[e];exact⟨c,b⟩) λh=>f.fit q h⟩
theorem Few.fits{n:Nat}{L:bY}(f:Few n L):Fit L:=λp a=>by have:=f.fit p a;omega
theorem Sl.det{f:α->c4}{W:dx}{h:ad}{s:fD}{xs ys:List α}(hi:∀x y,f x=f y->x=y)(a:Sl f sz W h s xs)(b:Sl f sz W' h s ys):xs=ys:=by
 apply List.ext_getElem
 .rw[<-a.len,<-b.len]
 .intro i k e
  refine hi _ _ (List.ext_getElem? λj=>?_)
  obtain⟨p,g,_,hv⟩:=a.at (af k);obtain⟨q,d,_,m⟩:=b.at (af e);rw[g]at d;cases d;have t:=(a.ne xs[i]).1;have o:=(b.ne ys[i]).1;by_cases u:j<sz
  .have n:=hv j _ (af a4)
   have c:=m j _ (af a4);rw[n]at c;rw[af a4,af a4];exact c
  .rw[jP a4,jP a4]
theorem Uc(x y:Pr)(h:dT x=dT y):x=y:=by
 simp only[dT,eB.injEq,Value.string.injEq,and_true]at h;exact Prod.ext h.1 h.2
theorem Z8(x y:aT)(h:qO x=qO y):x=y:=by
 simpa[qO]using h
theorem TX(x y:aT)(h:qA x=qA y):x=y:=by
 simpa[qA]using h
theorem LG{d j n n':Nat}{sp sk b a:fD}{p e:Bool}(h:eZ d n sp sk p ow=eZ j n' b a e c):d=j/\n=n'/\sp=b/\sk=a:=by
 simp only[eZ,Array.mk.injEq,eB.injEq,Value.int.injEq,true_and,sv,Value.slice.injEq,Value.bool.injEq,Value.pointer.injEq,and_true]at h;obtain⟨s,q,⟨f,k,g⟩,⟨m,i,o⟩,_⟩:=h;refine⟨a4,a4,?_,?_⟩
 .cases sp;cases b;simp only at f k g;subst f k g;rfl
 .cases sk;cases a;simp only at m i o;subst m i o;rfl
theorem HQ{W W':dx}{x:Hs}{h:ad}:∀{m b:Nat} {l l':bY},TrieAt W x h m b l->TrieAt W' x h m b l'->bS l->bS l'->l=l'
 |0,b,l,l',t,t',_,_=>by
  obtain⟨sp,sk,ow,hb,o,_⟩:=t.ex;obtain⟨u,i,j,a,g,_⟩:=t'.ex;rw[hb]at a;simp only[bO.injEq,Obj.cells.injEq,and_true]at a;obtain⟨_,_,rfl,_⟩:=LG a;exact Sl.det Uc o g
 |m+1,b,l,l',⟨s,nd,hc⟩,⟨s',nd',hc'⟩,hr,hr'=>by
  obtain⟨d,n,sp,sk,ow,hb,bits,o,E,_⟩:=nd.ex;obtain⟨L,n',u,i,j,a,e,g,k,_⟩:=nd'.ex;rw[hb]at a;simp only[bO.injEq,Obj.cells.injEq,and_true]at a;obtain⟨rfl,rfl,rfl,rfl⟩:=LG a;have F:=IT 32 (λc hc=>by rw[<-bits.dp c hc,e.dp c hc]) (Sl.det Uc o g)
  have I:=IT 32 (λc hc=>by rw[<-bits.nk c hc,e.nk c hc]) (Sl.det Z8 E k)
  refine Pq (x:=x) (lev:=12-m) hr hr' λc f=>?_
  have H:=hc c f;have A:=hc' c f;rw[<-F c f,<-I c f]at A;rcases H with⟨y,w,v⟩|⟨p,y,w,v⟩|⟨y,w,K,v,J⟩<;>rcases A with⟨z,B,C⟩|⟨q,z,B,C⟩|⟨z,B,G,C,D⟩<;>simp_all
  exact HQ J D (jv hr) (jv hr')
theorem TY{d:c6}{b b':Bool}{s s':fD}(h:EH sl b v s ow=EH a b' d s' c):sl=a/\b=b'/\v=d/\s=s':=by
 simp only[EH,Array.mk.injEq,eB.injEq,Value.string.injEq,sv,Value.slice.injEq,Value.bool.injEq,Value.pointer.injEq,and_true]at h;obtain⟨k,j,i,⟨f,e,g⟩,_⟩:=h;refine⟨k,j,i,?_⟩;cases s;cases s';simp only at f e g;subst f e g;rfl
theorem Uf{a:Option c6}(h:w.isSome=a.isSome)(b:v=w.getD ⟨#[]⟩)(c:v=a.getD ⟨#[]⟩):w=a:=by
 cases w<;>cases a<;>simp_all
theorem Rz{W W':dx}{h:ad}:∀{F F':Fo} {ks:List aT},RxF W h F ks->RxF W' h F' ks->F=F'
 | .nil,.nil,_,_,_=>rfl
 | .nil,.cons ..,ks,d,c=>by
  obtain⟨b,sl,val,s,ow,e,f,a,_⟩:=c;have d:ks= []:=d;rw[d]at a;cases a
 | .cons ..,.nil,ks,d,c=>by
  obtain⟨b,sl,val,s,ow,e,f,a,_⟩:=d;have c:ks= []:=c;rw[c]at a;cases a
 | .cons lab w kids rest,.cons lab' w' kids' rest',ks,⟨b,sl,val,s,ow,e,f,a,e1,e2,e3,e4,e5,e6,e7⟩,⟨b',sl',val',s',ow',ks1',ks'',f0,f1,f2,f3,f4,f5,f6,f7⟩=>by
  rw[a]at f0;simp only[eB.injEq,bO.injEq,Addr.mk.injEq,and_true]at f0;obtain⟨rfl,rfl⟩:=f0;rw[e2]at f2;simp only[bO.injEq,Obj.cells.injEq,and_true]at f2;obtain⟨rfl,g,rfl,rfl⟩:=TY f2;have:=Sl.det TX e4 f4;subst this;rw[Rz e6 f6,Rz e7 f7,<-e1,<-f1,Uf g e3 f3]
theorem RX{h:ad}{c:Array Value}(hb:h[b]? =some (.cells c t (0,0))) (hc:0<c.size):fQ h ⟨b,0,none⟩:=⟨c,t,hb,hc⟩
theorem TrieAt.plain{W:dx}{h:ad}:∀{m b:Nat} {l:bY},TrieAt W x h m b l->fQ h ⟨b,0,none⟩
 |0,_,_,t=>by obtain⟨_,_,_,hb,_⟩:=BuckAt.ex t;exact RX hb (by simp[eZ])
 |m+1,_,_,⟨s,nd,_⟩=>by obtain⟨_,_,_,_,_,hb,_⟩:=nd.ex;exact RX hb (by simp[eZ])
theorem TU{W Wx:dx}{h:ad}{m:Nat}{s:Slots}{c:Nat}(nd:NodeAt W h b s)(hc:c<32)(sl:SlotIs W x h m s c l)(hm:m<=13)(G:bS l)(D:l.length<=100000)(g:∀y,Wx y->y<h.size)
  (o:∀s' h',Sl dT 2 Wx h' s' l->s'.len<=s'.cap->Upd No h h'->K s' h'):ce 257 [gZ b,.int .i64 c] K h:=by
 refine Qv _ c ?_;dsimp only[GF,nv,AO,kF,mc,jV,mH,bo];refine Da nd hc λH k1=>?_
 refine ux λu b2 F=>?_
 have a:=k1.tr F;have f:s.p c=none->Below W x h m ((s.k c).getD none) l:=λd=>by
  rcases sl with⟨rfl,_,e⟩|⟨p,_,e,_⟩|⟨_,_,z,e,t⟩
  .rw[e];exact .inl ⟨rfl,rfl⟩
  .rw[d]at e;cases e
  .rw[e];exact .inr ⟨z,rfl,t⟩
 rcases d:s.p c with _|p
 .refine ag.2 (yq (nd.upd a λ_ h=>h.elim) hc ?_)
  exact Kr (W':=Wx) ((f d).upd0 a) hm G D (λy v=>aD (g y v) a.size) λB i j n k=>o B i j n (a.tr k)
 .have C:l= [p]:=by
   rcases sl with⟨_,e,_⟩|⟨q,e,w,_⟩|⟨_,e,_⟩
   .rw[d]at e;cases e
   .rw[d]at w;cases w;exact e
   .rw[d]at e;cases e
  subst C;rw[d]at b2;refine ay.2 ⟨p.1,vc b2 0,p.2,vc b2 1,aQ λi b3 k=>?_⟩
  have A:OwnS dT 2 33 (λy=>h.size<=y) i ⟨some (aR u),1,1⟩ [p]:=⟨rfl,fP,aj _,.inr ⟨u.size,[],rfl,a.size,b3,rfl⟩⟩
  exact o _ i (A.sl λy v _ E=>by have:=g y E;omega) (aj _) (a.tr k)
theorem W2{W:dx}:∀(m:Nat),m<=13->∀{b b':Nat} {l l':bY} {C:dx} {h:ad} {L:List Ch},TrieAt W x h m b l->TrieAt W x h m b' l'->SetAt C h sb z L->(∀y,C y\/y=sb->W y)->(∀y,h.size<=y->W y)->bS l->bS l'->l.length<=100000->l'.length<=100000->L.length+(m+1)*200000<=10000000->
  ∀{K:Unit->dO},(∀ys,ys.Perm (iU l l')->Wo C h sb z (L++ys) (K ()))->dQ 185 [gZ sb,gZ b,gZ b'] K h:=by
 intro m;induction m with
 |zero=>
  intro hm b b' l l' C h L t F st D P J q hn hn' hL K hk;refine xJ _ _ _ ?_;unfold qZ jV U6 OC;refine⟨trivial,λa a' e e'=>by cases e;cases e';exact⟨t.plain,F.plain⟩,eh (λe=>?_) λe=>?_⟩
  .obtain rfl:b=b':=by simpa using e
   obtain rfl:=HQ t F J q;refine hk [] (by rw[DB]) h C (by rw[aX];exact st) (λ_ h=>.inl h) (eM _ _)
  .obtain⟨sp,sk,ow,hb,hsp,_⟩:=BuckAt.ex t
   obtain⟨sp',sk',ow',hb',hsp',_⟩:=BuckAt.ex F;refine gI hb (ay.2 ?_);refine p9 hb hsp a4 λs1 B ho1 k1=>?_
   refine p9 (k1.get0 hb') (hsp'.upd k1 λ_ h=>h.elim) a4 λs2 A Z k2=>?_
   have s1z:=k1.size;obtain⟨_,Q,_⟩:=st.ex;have zsb:=bB Q;have ho1':=ho1.upd k2 λ_ _ h=>h
   refine Dg (st.upd0 (k1.tr k2)) (ho1'.sl λy f _ hw=>?_) (Z.sl λy f _ hw=>?_) ho1.cap Z.cap a4 λX C3 S H T=>?_
   .rcases hw with h|h
    .have:=st.lt y h;omega
    .omega
   .rcases hw with h|h
    .have:=st.lt y h;omega
    .omega
   .have s2z:=k2.size
    exact hk (iU l l') (.refl _) X C3 S (λy f=>(H y f).imp id λh=>a4) ((k1.tr k2).wide.tr T)
 |succ m ih=>
  intro hm b b' l l' C h L t F st D P J q hn hn' hL K hk;refine xJ _ _ _ ?_;unfold qZ jV U6 OC;refine⟨trivial,λa a' e e'=>by cases e;cases e';exact⟨t.plain,F.plain⟩,eh (λe=>?_) λe=>?_⟩
  .obtain rfl:b=b':=by simpa using e
   obtain rfl:=HQ t F J q;exact hk [] (by rw[DB]) h C (by rw[aX];exact st) (λ_ h=>.inl h) (eM _ _)
  have hcl:=tW J q;obtain⟨s,nd,hs⟩:=t;obtain⟨s',nd',U⟩:=F;have hs:∀c,c<32->SlotIs W x h m s c (part x (12-m) c l):=hs;have U:∀c,c<32->SlotIs W x h m s' c (part x (12-m) c l'):=U;obtain⟨d,n,sp,sk,ow,hb,_⟩:=nd.ex;refine gI hb (ag.2 ?_);refine ez (λ(g:Nat×List Ch×(dx)) (t:Int) h'=>t=(g.1:Int)/\g.1<=32/\SetAt g.2.2 h' sb z (L++g.2.1)/\(∀y,g.2.2 y->C y\/h.size<=y)/\Upd (λy=>C y\/y=sb) h h'/\g.2.1.Perm ((iU l l').filter λc=>decide (ck x (12-m) c.1<g.1))) (λg=>32-g.1) (0,[],C)
   ⟨rfl,a4,by rw[aX];exact st,λ_ h=>.inl h,eM _ _,a6⟩ ?_
  rintro I ⟨i,ys,N⟩ t B ⟨rfl,hi,v,w,u,hp⟩ hI;simp only at hi v w hp;have hCW1:∀y,N y\/y=sb->W y:=λy f=>f.elim (λh=>(w y h).elim (λh=>D y (.inl h)) (P y)) λh=>D y (.inr h)
  have O:∀y,C y\/y=sb->W y\/h.size<=y:=λy f=>.inl (D y f)
  refine ar (λj=>?_) λhge=>?_
  rotate_left
  .have hi32:i=32:=by omega
   subst hi32;refine hk ys (hp.trans ?_) B N v w u;rw[List.filter_eq_self.2 λc _=>decide_eq_true (zS x (12-m) c.1)]
  have j:i<32:=a4
  have G:(iU l l').filter (λc=>decide (ck x (12-m) c.1=i))=iU (part x (12-m) i l) (part x (12-m) i l'):=(S5 (λk=>decide (ck x (12-m) k=i)) J q).symm
  have hyl:ys.length<=200000:=by
   have:=hp.length_eq;have:=List.length_filter_le (λc:Ch=>decide (ck x (12-m) c.1<i)) (iU l l')
   omega
  have hpl:=jw (x:=x) (lev:=12-m) (c:=i) (l:=l);have hpl':=jw (x:=x) (lev:=12-m) (c:=i) (l:=l');have step:∀V:List Ch,V.Perm (iU (part x (12-m) i l) (part x (12-m) i l'))->∀A C2,SetAt C2 A sb z ((L++ys)++V)->(∀y,C2 y->N y\/B.size<=y)->Upd (λy=>N y\/y=sb) B A->I (IntKind.wrap .i64 ((i:Int)+1)) A:=by
   intro V hz A C2 st2 hC2 hu2;rw[mK j a4];refine hI (i+1,ys++V,C2) _ A ⟨rfl,j,by rw[<-au];exact st2,λy f=>?_,?_,?_⟩ (by show 32-(i+1)<32-i;omega)
   .rcases hC2 y f with h|h
    .exact w y h
    .exact .inr (aO u.size h)
   .exact u.trans hu2 λy f=>f.elim (λh=>(w y h).imp .inl id) λh=>.inl (.inr h)
   .rw[<-G]at hz
    exact(hp.append hz).trans (FR (λc:Ch=>ck x (12-m) c.1) i (iU l l'))
  have nd1:=nd.upd u O;have E:=nd'.upd u O;have up:∀{s:Slots} {l:bY},SlotIs W x h m s i l->SlotIs W x B m s i l:=λo=>o.imp id λo=>o.imp id λ⟨B,A,kb,X,h4⟩=>⟨B,A,kb,X,TrieAt.updM u O h4⟩
  have sl:=up (hs i j);have sl':=up (U i j);have hWn1:∀y,B.size<=y->W y:=λy f=>P y (aO u.size f)
  refine eQ (yq nd1 j (yq E j ?_));refine eF (λt h'=>h'=B/\(t=true->(s.k i).isSome=true/\(s'.k i).isSome=true)) (λR hR=>?_) ?_
  .refine eh (λe=>hR _ _ ⟨rfl,λe'=>⟨e,e'⟩⟩) λe=>hR _ _ ⟨rfl,λe=>by cases e⟩
  rintro t A ⟨rfl,ht⟩;refine eh (λe=>?_) λe=>?_
  .obtain⟨e1,e2⟩:=ht e
   rcases sl with⟨_,_,e3⟩|⟨p,_,_,e3⟩|⟨_,_,kb,e3,tk⟩
   .rw[e3]at e1;cases e1
   .rw[e3]at e1;cases e1
   rcases sl' with⟨_,_,e4⟩|⟨p,_,_,e4⟩|⟨_,_,kb',e4,tk'⟩
   .rw[e4]at e2;cases e2
   .rw[e4]at e2;cases e2
   rw[e3,e4];refine ih a4 tk tk' v hCW1 hWn1 (jv J) (jv q) a4 a4 (by rw[ae];omega) λV hz X C3 S H T=>?_
   exact step V hz X C3 S H T
  .obtain⟨_,Q,_⟩:=v.ex
   have zsb:=bB Q;have hWx:∀y,N y\/y=sb->y<A.size:=λy f=>f.elim (v.lt y) λh=>a4
   refine TU (Wx:=λy=>N y\/y=sb) nd1 j sl a4 (jv J) a4 hWx λs3 X hs3 hc3 Y=>?_
   refine TU (Wx:=λy=>N y\/y=sb) (E.upd Y λ_ h=>h.elim) j (sl'.upd0 Y) a4 (jv q) a4 (λy f=>aD (hWx y f) Y.size) λs4 h4 hs4 hc4 k4=>?_
   refine Dg (v.upd0 (Y.tr k4)) (hs3.upd k4 λ_ h=>h.elim) hs4 hc3 hc4 (by rw[ae];omega) λh5 C5 st5 hC5 hu5=>?_
   have s34:=(Y.tr k4).size;exact step _ (.refl _) h5 C5 st5 (λy f=>(hC5 y f).imp id λh=>a4) ((Y.tr k4).wide.tr hu5)
def abh(pre:c5):c6:=⟨pre.toArray⟩
theorem PB(pre:c5):(abh pre).data.toList=pre:=by unfold abh;simp
theorem Sc(k:c6):abh k.data.toList=k:=by cases k;rfl
def Dm(pre:c5)(p:c5×c6):Pr:=(abh (pre++p.1),p.2)
def pp(pre:c5)(n:Bn):bY:=(mR n.2.1 n.2.2).map (Dm (pre++n.1))
def xr(key:c5)(w:Option c6):bY:=(w.map λv=>(abh key,v)).toList
theorem XP{x:c5}:kl (abh x) (abh y)↔x<y:=by rw[Nv,ByteArray.toList_eq,ByteArray.toList_eq,PB,PB]
theorem VV(a b:c5)(p:c5×c6):Dm a (b++p.1,p.2)=Dm (a++b) p:=by unfold Dm;rw[au]
theorem Ub(pre:c5):∀F:Fo,(zw F).map (Dm pre)=F.toL.flatMap (pp pre)
 | .nil=>rfl
 | .cons lab w kids rest=>by
  rw[Lx,Fo.toL_cons,aL,cC,Ub pre rest,jc];congr 1
  unfold pp mR;exact oB λp _=>VV pre lab p
theorem Ly(pre lab:c5)(w:Option c6)(F:Fo):pp pre (lab,w,F)=xr (pre++lab) w++F.toL.flatMap (pp (pre++lab)):=by
 unfold pp;rw[show mR w F=(w.map λv=>(([]:c5),v)).toList++zw F from rfl,cC,Ub]
 congr 1
 cases w with
 |none=>rfl
 |some v=>show[Dm (pre++lab) ([],v)]=_;unfold Dm xr;rw[aX];rfl
theorem rM(hc:fq n.2.2):bS (pp pre n):=by
 unfold pp;rw[bS,List.pairwise_map];exact(Ua (w:=n.2.1) hc).imp λ{p q} h=>XP.2 (N3 h)
structure NodeK(n:Bn)(pre:c5):Prop where
 can:fq n.2.2
 len:pre.length+n.1.length<=10000
 all:∀p∈mR n.2.1 n.2.2,pre.length+n.1.length+p.1.length<=10000
theorem NodeK.kid(k:NodeK n pre)(hm:m∈n.2.2.toL):NodeK m (pre++n.1):=by
 have b:=(dY.1 k.can).2 _ hm;have a:∀p∈mR m.2.1 m.2.2,(pre++n.1).length+m.1.length+p.1.length<=10000:=λp e=>by
  have c:qC n.2.2 (m.1++p.1) p.2:=fF.2 ⟨_,hm,p.1,rfl,jy.1 (show(p.1,p.2)∈_ from e)⟩
  have:=k.all (m.1++p.1,p.2) (jy.2 (.inr c));simp only[ae]at this⊢;omega
 obtain⟨r,v,d⟩:=mZ k.can _ hm;have:=a (r,v) (jy.2 d);exact⟨b.2.2,by simp only at this;omega,a⟩
theorem FQ(hm:m.1≠[])(e:n.1≠[])(h:hd m.1<hd n.1):∀p∈pp pre m,∀q∈pp pre n,kl p.1 q.1:=by
 intro p d q c;unfold pp at d c;obtain⟨a,_,rfl⟩:=be.1 d;obtain⟨b,_,rfl⟩:=be.1 c;refine XP.2 ?_;rw[au,au];refine N3 (PS (by simp[e]) ?_);rw[oq hm,oq e];exact h
theorem Nk(e:n.1≠[]):∀p∈xr key w,∀q∈pp key n,kl p.1 q.1:=by
 intro p a q d;unfold xr at a;rw[Option.mem_toList,Option.map_eq_some_iff]at a;obtain⟨v,_,rfl⟩:=a;unfold pp at d;obtain⟨b,_,rfl⟩:=be.1 d;refine XP.2 ?_;rw[au];conv=>lhs;rw[<-aX key]
 refine N3 ?_;match n.1,e with
 |c::l,_=>exact yH
theorem VW{f:Bn->bY}(L:List Bn)(i:Nat):((L.take i).flatMap f).length<=(L.flatMap f).length:=by
 conv=>rhs;rw[<-aW i L,bI,ae]
 omega
theorem acK{b:c6}:a.data.toList++b.data.toList=(a++b).data.toList:=by
 rw[ByteArray.data_append,Array.toList_append]
theorem RxL.updN{W:dx}{h:ad}(k:Upd M h h')(hm:∀b,M b->W b\/h.size<=b)(r:RxL W h ks L):RxL W h' ks L:=
 ⟨r.1,λp d=>let⟨b,sl,a,e,c⟩:=r.2 p d;⟨b,sl,a,e,c.updM k hm⟩⟩
def Y0(n:Bn):Prop:=∀{W:dx} {h:ad} {b:Nat} {sl:c6} {ahead:c6},RxN W h b sl n.2.1 n.2.2->sl.data.toList=n.1->NodeK n ahead.data.toList->(pp ahead.data.toList n).length<=1000000->∀{K:fD->dO},(∀s' h',OwnS dT 2 33 (λy=>h.size<=y) h' s' (pp ahead.data.toList n)->Upd No h h'->K s' h')->ce 255 [gZ b,.string ahead] K h
theorem O0(ih:∀n∈F.toL,Y0 n):Y0 (lab,w,F):=by
 intro W h b sl ahead r g nk V K hk;(try simp only at r g)
 have r:=r.less (W':=λy=>h.size<=y) λ_ h=>.inr h
 refine Gf (some ⟨b,0,none⟩) ahead ?_;dsimp only[Ak,pW,kF,mc,qW,cz,jX,fj];refine ag.2 (mO r ?_);have j:=nk.len;(try simp only at j)
 have C:∀k:c6,k.size=k.data.toList.length:=λk=>by rw[eW];rfl
 have e1:=C ahead;have e2:=C sl;rw[g]at e2;refine⟨a4,?_⟩;have d:(ahead++sl).data.toList=ahead.data.toList++lab:=by rw[<-acK,g]
 have U:abh (ahead.data.toList++lab)=ahead++sl:=by rw[<-d,Sc]
 rw[Ly]at V hk;refine eF (λt h'=>OwnS dT 2 33 (λy=>h.size<=y) h' t (xr (ahead.data.toList++lab) w)/\Upd No h h') (λR hR=>?_) ?_
 .refine BT r λv hv=>?_
  cases w with
  |none=>exact ag.2 (hR _ _ ⟨OwnS.nil fP,eM _ _⟩)
  |some u=>
   refine ay.2 ?_;have:=hv u rfl;subst this;refine bL ?_;refine uI (p:=(ahead++sl,v)) (M:=λy=>h.size<=y) (out:= []) (so:=⟨none,0,0⟩) (OwnS.nil fP) (λ_ h=>h) a6 λs1 P x k1=>hR _ _ ⟨?_,k1.mono λy f=>.inr f⟩
   rw[show xr (ahead.data.toList++lab) (some v)= []++ [(ahead++sl,v)] by unfold xr;rw[U];rfl]
   exact x
 rintro t P ⟨x,k1⟩;refine Au (r.upd0 k1) (kh nk.can) λQ B ks E H Y=>?_
 have A:Sl qA 1 No B Q ks:=E.sl λ_ _ _ h=>h
 have N:=A.len;rw[H.1]at N;have G:=kh nk.can;(try simp only at G)
 have z1:=k1.size;have z2:=Y.size;have A:Sl qA 1 (λy=>h.size<=y/\(y<P.size\/B.size<=y)) B Q ks:=E.sl λy f V hw=>a4
 refine ez (λ(i:Nat) (t:fD×Int) O=>OwnS dT 2 33 (λy=>h.size<=y/\(y<P.size\/B.size<=y)) O t.1 (xr (ahead.data.toList++lab) w++(F.toL.take i).flatMap (pp (ahead.data.toList++lab)))/\t.2=(i:Int)/\i<=F.toL.length/\Upd (λy=>h.size<=y/\(y<P.size\/B.size<=y)) B O) (λi=>F.toL.length-i) 0 ⟨?_,rfl,aJ _,eM _ _⟩ ?_
 .rw[List.take_zero,gk,aX]
  exact(x.within.more λy f=>⟨f.1,.inl f.2⟩).upd Y λ_ _ h=>h
 rintro I i ⟨ta,ti⟩ O ⟨o,e3,hi,L⟩ hI;(try simp only at o e3)
 subst e3;have J:((F.toL.take (i+1)).flatMap (pp (ahead.data.toList++lab))).length<=(F.toL.flatMap (pp (ahead.data.toList++lab))).length:=VW _ _;rw[ae]at V;refine ar (λc=>?_) λZ=>?_
 .have c:i<F.toL.length:=by have:(i:Int)<(Q.len:Int):=c;omega
  have hL3:=H.updN L λy f=>.inl f.1
  obtain⟨kb,ksl,S,j,D⟩:=hL3.at c;obtain⟨a,ha,_,hv⟩:=(A.upd L λ_ h=>.inl h).at0 S
  refine eQ ⟨⟨by(try simp only);omega,by(try simp only);omega⟩,a,ha,some ⟨kb,0,none⟩,hv,?_⟩
  have q:(F.toL.take (i+1)).flatMap (pp (ahead.data.toList++lab))=(F.toL.take i).flatMap (pp (ahead.data.toList++lab))++pp (ahead.data.toList++lab) F.toL[i]:=by
   rw[List.take_succ_eq_append_getElem c,bI];simp
  rw[q,ae]at J;have e:=List.getElem_mem c;generalize F.toL[i]=m at j D q J e;refine ih m e D j (by rw[d];exact nk.kid e) (by rw[d];omega) λs4 h4 s z=>?_
  rw[d]at s;refine⟨_,(s.sl (W:=No) λ_ _ _ h=>h).srow,?_⟩
  have z3:=L.size;have z4:=z.size;refine AppP.own (ys:=pp (ahead.data.toList++lab) m) (o.upd z λ_ _ h=>h) s.len rfl (yn _) rfl a4 (by rw[ae];omega) ⟨a4,.inr a4⟩ λs5 h5 ho5 T=>?_
  rw[bN c a4];refine hI (i+1) _ _ ⟨?_,rfl,c,(L.tr z.wide).tr T⟩ a4;rw[q,<-au];exact ho5
 .have X:i=F.toL.length:=by have:¬(i:Int)<(Q.len:Int):=Z;omega
  subst X;rw[bG]at o;exact hk _ O (o.more λy f=>f.1) ((k1.tr Y).trans L λy f=>.inr f.1)
theorem EC:∀{F:Fo},fq F->∀n∈F.toL,Y0 n
 | .nil,_,n,a=>by simp[Fo.toL]at a
 | .cons lab w kids rest,h,n,a=>by
  rcases aw.1 a with rfl|a
  .exact O0 (EC h.2.2.1)
  .exact EC h.2.2.2.2 n a
theorem Xa{W:dx}{h:ad}(r:RxN W h b sl n.2.1 n.2.2)(e:sl.data.toList=n.1)(nk:NodeK n ahead.data.toList)(a:(pp ahead.data.toList n).length<=1000000)(c:∀s' h',OwnS dT 2 33 (λy=>h.size<=y) h' s' (pp ahead.data.toList n)->Upd No h h'->K s' h'):ce 255 [gZ b,.string ahead] K h:=
 O0 (EC nk.can) r e nk a c
theorem FU{W:dx}{h:ad}{key:c6}(r:RxN W h b sl w F)(a:∀s' h',OwnS dT 2 33 (λy=>h.size<=y) h' s' (xr key.data.toList w)->Upd No h h'->K s' h'):ce 256 [gZ b,.string key] K h:=by
 refine Tk _ key ?_;unfold Kc kF;refine BT r λv hv=>?_
 cases w with
 |none=>exact ay.2 (a _ h (OwnS.nil fP) (eM _ _))
 |some u=>
  have:=hv u rfl;subst this;refine ag.2 (aQ λc b1 k1=>?_)
  refine a _ c ⟨rfl,fP,aj _,.inr ⟨h.size,[],rfl,aj _,?_,rfl⟩⟩ k1;rw[b1];unfold xr;rw[Sc];rfl
theorem ZJ{f:α->c4}{W:dx}{h:ad}{s:fD}{p:α}{l:List α}(a:Sl f sz W h s (p::l))(hc:s.len<=s.cap):Sl f sz W h ⟨bj s.a 1 s.cap sz,s.len-1,s.cap-1⟩ l:=by
 have b:=a.len;rw[av]at b;have:=Sl.sub a (l:=1) (hi:=s.len) (m:=s.cap) (c:=s.cap-1) a4 (by rw[av];omega) hc;rw[show((p::l).drop 1).take (s.len-1)=l by rw[List.drop_succ_cons,List.drop_zero];exact List.take_of_length_le a4]at this
 exact this
theorem ZP{W:dx}{h:ad}{d:Option c6}{F':Fo}(r:RxN W h b sl w F)(u:RxN W' h b a d F'):sl=a/\w=d/\F=F':=by
 obtain⟨val,s,ow,ks,g,f,i,x,j⟩:=r;obtain⟨e,s',m,p,c,q,o,v,k⟩:=u;rw[g]at c;simp only[bO.injEq,Obj.cells.injEq,and_true]at c;obtain⟨n,t,rfl,rfl⟩:=TY c;have:=Sl.det TX i o;subst this;exact⟨n,Uf t f q,Rz j k⟩
theorem RxN.plain{W:dx}{h:ad}(r:RxN W h b sl w F):fQ h ⟨b,0,none⟩:=by
 obtain⟨val,s,ow,ks,hb,_⟩:=r;exact RX hb (by simp[EH])
def NdO(W:dx)(h:ad)(pre:c5)(r:aT)(A:bY):Prop:=(r=none/\A= [])\/∃b sl n,r=some ⟨b,0,none⟩/\RxN W h b sl n.2.1 n.2.2/\sl.data.toList=n.1/\NodeK n pre/\A=pp pre n
theorem NdO.upd0{W:dx}{h:ad}(k:Upd No h h')(o:NdO W h pre r A):NdO W h' pre r A:=o.imp id λ⟨b,sl,n,d,c,a⟩=>⟨b,sl,n,d,c.upd0 k,a⟩
theorem OZ{W:dx}{h:ad}(o:NdO W h ahead.data.toList r A)(c:A.length<=1000000)(a:∀s' h',OwnS dT 2 33 (λy=>h.size<=y) h' s' A->Upd No h h'->K s' h'):ce 255 [.pointer r,.string ahead] K h:=by
 rcases o with⟨rfl,rfl⟩|⟨b,sl,n,rfl,r,e,nk,rfl⟩
 .refine Gf none ahead ?_
  dsimp only[Ak,pW,kF,mc,qW,cz,jX,fj];exact ay.2 (a _ h (OwnS.nil fP) (eM _ _))
 .exact Xa r e nk c a
theorem CP{W:dx}{h:ad}{s:aT}{L:List Ch}(o:NdO W h ahead.data.toList r A)(I:NdO W h ahead.data.toList s B)(st:SetAt C h sb z L)(E:A.length<=1000000)(u:B.length<=1000000)(J:L.length+A.length+B.length<=10000000){G:Unit->dO}(v:Wo C h sb z (L++iU A B) (G ())):
  ce 255 [.pointer r,.string ahead] (λ(g:fD) F=>ce 255 [.pointer s,.string ahead] (λ(a:fD) j=>dQ 254 [gZ sb,.slice g.a g.len g.cap,.slice a.a a.len a.cap] (λ(_:Unit) m=>G () m) j) F) h:=by
 refine OZ o E λP N c k1=>OZ (I.upd0 k1) u λO K b e=>?_
 have t:=k1.size;obtain⟨_,n,_⟩:=st.ex;have H:=bB n;have d:=c.upd e λ_ _ h=>h
 refine Dg (st.upd0 (k1.tr e)) (d.sl λy i _ k=>?_) (b.sl λy i _ k=>?_) c.cap b.cap a4 λx D p f q=>?_
 .rcases k with h|h
  .have:=st.lt y h;omega
  .omega
 .rcases k with h|h
  .have:=st.lt y h;omega
  .omega
 .have w:=e.size
  exact v x D p (λy i=>(f y i).imp id λh=>a4) ((k1.tr e).wide.tr q)
theorem Lm{W:dx}{h:ad}{b:aT}{L:List Ch}(o:NdO W h ahead.data.toList r A)(g:NdO W h ahead.data.toList b B)(c:r=none\/b=none)(st:SetAt C h sb z L)(m:A.length<=1000000)(k:B.length<=1000000)(i:L.length+A.length+B.length<=10000000){K:Unit->dO}(f:Wo C h sb z (L++iU A B) (K ())):
  dQ 183 [gZ sb,.pointer r,.pointer b,.string ahead] K h:=by
 refine xK _ r b ahead ?_;dsimp only[q9,pW,OD,OC,G7,cz,fj,Jw,AS,aaQ,zY];refine⟨trivial,λa a' e n=>by rcases c with h|h<;>simp_all,eh (λe=>?_) λe=>?_⟩
 .have p:r=b:=by simpa using e
  have j:r=none/\b=none:=by rcases c with h|h<;>simp_all
  obtain⟨rfl,rfl⟩:=j;obtain rfl:A= []:=by rcases o with⟨_,h⟩|⟨_,_,_,h,_⟩;exact h;cases h
  obtain rfl:B= []:=by rcases g with⟨_,h⟩|⟨_,_,_,h,_⟩;exact h;cases h
  exact f h C (by rw[jz,fZ,aX];exact st) (λ_ h=>.inl h) (eM _ _)
 .refine eF (λt h'=>t=true/\h'=h) (λR d=>?_) ?_
  .rcases c with rfl|rfl
   .exact ay.2 (d _ _ ⟨rfl,rfl⟩)
   .exact eh (λ_=>d _ _ ⟨rfl,rfl⟩) λ_=>ay.2 (d _ _ ⟨rfl,rfl⟩)
  .rintro t h' ⟨rfl,rfl⟩
   exact ay.2 (CP o g st m k i f)
theorem aak{l:c5}(e:sl.data.toList=l)(b:l≠[]):∃c:UInt8,(0:Int)<=0/\sl[(0:Int).toNat]? =some c/\c.toNat=hd l:=by
 match l,b with
 |c::l,_=>
  refine⟨c,Int.le_refl _,?_,rfl⟩;have a:0<sl.size:=by
   have:sl.data.toList.length=sl.size:=eW;rw[<-this,e];simp
  have:sl.data[0]? =some c:=by rw[<-Array.getElem?_toList,e];rfl
  rw[show(0:Int).toNat=0 from rfl]
  rw[getElem?_pos sl 0 a];rw[Array.getElem?_eq_getElem a]at this;exact this
def Th(n:Bn):Prop:=∀{W C:dx} {h:ad} {b b':Nat} {sl sl' ahead:c6} {n':Bn} {L:List Ch} {sb:Nat} {z:Hs},RxN W h b sl n.2.1 n.2.2->sl.data.toList=n.1->RxN W h b' sl' n'.2.1 n'.2.2->sl'.data.toList=n'.1->NodeK n ahead.data.toList->NodeK n' ahead.data.toList->SetAt C h sb z L->
 (∀y,C y\/y=sb->W y)->(∀y,h.size<=y->W y)->(pp ahead.data.toList n).length<=1000000->(pp ahead.data.toList n').length<=1000000->L.length+(pp ahead.data.toList n).length+(pp ahead.data.toList n').length<=10000000->
 ∀{K:Unit->dO},Wo C h sb z (L++iU (pp ahead.data.toList n) (pp ahead.data.toList n')) (K ())->dQ 183 [gZ sb,gZ b,gZ b',.string ahead] K h
theorem lR{P:bY}(h:∀n∈L,∀p∈P,∀q∈pp key n,kl p.1 q.1):∀p∈P,∀q∈L.flatMap (pp key),kl p.1 q.1:=by
 intro p b q a;obtain⟨n,c,a⟩:=List.mem_flatMap.1 a;exact h n c p b q a
set_option maxHeartbeats 1000000 in
theorem Ln(ih:∀n∈F.toL,Th n):Th (lab,w,F):=by
 intro W C h b b' sl sl' ahead n' L sb z r e r' e' nk nk' st hCW hWn hA hB hL K hk;obtain⟨lab',w',F'⟩:=n';(try simp only at r e r' e')
 refine xK _ _ _ ahead ?_;dsimp only[q9,pW,OD,OC,G7,cz,fj,Jw,AS,aaQ,zY];refine⟨trivial,λa a' e1 e2=>by cases e1;cases e2;exact⟨r.plain,r'.plain⟩,eh (λe1=>?_) λe1=>?_⟩
 .obtain rfl:b=b':=by simpa using e1
  obtain⟨rfl,rfl,rfl⟩:=ZP r r';subst e e';exact hk h C (by rw[DB,aX];exact st) (λ_ h=>.inl h) (eM _ _)
 clear e1;refine eF (λt h'=>h'=h/\t= !(decide (sl=sl'))) (λR hR=>?_) ?_
 .refine ag.2 (ag.2 (mO r (mO r' (hR _ _ ⟨rfl,?_⟩))))
  have eb:(sl.toList==sl'.toList)=decide (sl=sl'):=dZ;rw[eb]
 rintro t h0 ⟨rfl,et⟩;by_cases hsl:sl=sl'
 rotate_left
 .rw[decide_eq_false hsl]at et
  subst et;refine ay.2 ?_;exact CP (.inr ⟨b,sl,(lab,w,F),rfl,r,e,nk,rfl⟩) (.inr ⟨b',sl',(lab',w',F'),rfl,r',e',nk',rfl⟩) st hA hB hL hk
 rw[decide_eq_true hsl]at et;subst et hsl;obtain rfl:lab=lab':=by rw[<-e,<-e']
 refine ag.2 (mO r ?_);have hkl:=nk.len;(try simp only at hkl)
 have esz:∀k:c6,k.size=k.data.toList.length:=λk=>by rw[eW];rfl
 have e1:=esz ahead;have e2:=esz sl;rw[e]at e2;refine⟨a4,?_⟩;have U:(ahead++sl).data.toList=ahead.data.toList++lab:=by rw[<-acK,e]
 rw[Ly,ae]at hA hB;rw[Ly,Ly,ae,ae]at hL;rw[Ly,Ly]at hk;have Y:=dY.1 nk.can;have H:=dY.1 nk'.can;have hkid:∀m∈F.toL,NodeK m (ahead++sl).data.toList:=λm hm=>by rw[U];exact nk.kid hm
 have Q:∀m∈F'.toL,NodeK m (ahead++sl).data.toList:=λm hm=>by rw[U];exact nk'.kid hm
 rw[<-U]at hA hB hL hk;generalize ahead++sl=key at U hkid Q hA hB hL hk⊢;have S:∀{u:Option c6},bS (xr key.data.toList u):=λ{u}=>by cases u<;>simp[xr,bS]
 rw[Hy S S (lR λm hm=>Nk (Y.2 m hm).1) (lR λm hm=>Nk (H.2 m hm).1) (lR λm hm=>Nk (Y.2 m hm).1) (lR λm hm=>Nk (H.2 m hm).1),<-au]at hk
 refine FU r λs1 h1 ho1 k1=>FU (r'.upd0 k1) λs2 h2 ho2 k2=>?_
 have k12:=k1.tr k2;have s1z:=k1.size;have s2z:=k2.size;obtain⟨_,hsb,_⟩:=st.ex;have zsb:=bB hsb;refine Dg (st.upd0 k12) ((ho1.upd k2 λ_ _ h=>h).sl λy d _ hw=>?_) (ho2.sl λy d _ hw=>?_) ho1.cap ho2.cap a4 λh3 T st3 hC3 hu3=>?_
 .rcases hw with h|h
  .have:=st.lt y h;omega
  .omega
 .rcases hw with h|h
  .have:=st.lt y h;omega
  .omega
 have hlo:∀u v:Option c6,(iU (xr key.data.toList u) (xr key.data.toList v)).length<=(xr key.data.toList u).length+(xr key.data.toList v).length:=λu v=>tW S S
 have hlo:=hlo w w';generalize iU (xr key.data.toList w) (xr key.data.toList w')=X at st3 hk hlo;generalize (xr key.data.toList w).length=x1 at hA hL hlo;generalize (xr key.data.toList w').length=x2 at hB hL hlo;have hM3:∀y,C y\/y=sb->W y\/h2.size<=y:=λy d=>.inl (hCW y d)
 have s3z:=hu3.size;refine Au ((r.upd0 k12).updM hu3 hM3) (kh nk.can) λs4 h4 ks ho4 hL4 k4=>?_
 refine Au (((r'.upd0 k12).updM hu3 hM3).upd0 k4) (kh nk'.can) λs5 J ks' ho5 hL5 k5=>?_
 have s4z:=k4.size;have s5z:=k5.size;obtain⟨_,hsb3,_⟩:=st3.ex;have zsb3:=bB hsb3;have st5:=st3.upd0 (k4.tr k5);have hW5:∀y,J.size<=y->W y:=λy d=>hWn y a4
 have hC3W:∀y,T y\/y=sb->W y:=λy d=>d.elim (λh=>(hC3 y h).elim (λh=>hCW y (.inl h)) λh=>hWn y a4) λh=>hCW y (.inr h)
 have hv4:Sl qA 1 (λy=>T y\/y=sb\/J.size<=y) J s4 ks:=(ho4.sl (W:=λy=>T y\/y=sb\/J.size<=y) λy d hl hw=>by
  rcases hw with h|h|h
  .have:=st3.lt y h;omega
  .omega
  .omega).upd k5 λ_ h=>h.elim
 have hv5:Sl qA 1 (λy=>T y\/y=sb\/J.size<=y) J s5 ks':=ho5.sl (W:=λy=>T y\/y=sb\/J.size<=y) λy d hl hw=>by
  rcases hw with h|h|h
  .have:=st3.lt y h;omega
  .omega
  .omega
 have hku:Upd (λy=>C y\/y=sb) h0 J:=(k12.wide.tr hu3).tr (k4.tr k5).wide
 have hC5:∀y,T y->C y\/h0.size<=y:=λy d=>(hC3 y d).imp id λh=>a4
 refine ez (λ(g:(List aT×List Bn)×(List aT×List Bn)×List Ch×(dx)) (t:fD×fD) h'=>SetAt g.2.2.2 h' sb z g.2.2.1/\(∀y,g.2.2.2 y->T y\/J.size<=y)/\Upd (λy=>T y\/y=sb) J h'/\Sl qA 1 (λy=>T y\/y=sb\/J.size<=y) h' t.1 g.1.1/\Sl qA 1 (λy=>T y\/y=sb\/J.size<=y) h' t.2 g.2.1.1/\t.1.len<=t.1.cap/\t.2.len<=t.2.cap/\
   RxL W h' g.1.1 g.1.2/\RxL W h' g.2.1.1 g.2.1.2/\(∀m∈g.1.2,m∈F.toL)/\(∀m∈g.2.1.2,m∈F'.toL)/\g.1.2.Pairwise (λm n=>hd m.1<hd n.1)/\g.2.1.2.Pairwise (λm n=>hd m.1<hd n.1)/\
   g.2.2.1++iU (g.1.2.flatMap (pp key.data.toList)) (g.2.1.2.flatMap (pp key.data.toList))=(L++X)++iU (F.toL.flatMap (pp key.data.toList)) (F'.toL.flatMap (pp key.data.toList))/\
   g.2.2.1.length+(g.1.2.flatMap (pp key.data.toList)).length+(g.2.1.2.flatMap (pp key.data.toList)).length<=10000000/\(g.1.2.flatMap (pp key.data.toList)).length<=1000000/\(g.2.1.2.flatMap (pp key.data.toList)).length<=1000000)
  (λg=>g.1.2.length+g.2.1.2.length) ((ks,F.toL),(ks',F'.toL),L++X,T)
  ⟨st5,λ_ h=>.inl h,eM _ _,hv4,hv5,ho4.cap,ho5.cap,hL4.upd0 k5,hL5,λ_ h=>h,λ_ h=>h,Y.1,H.1,rfl,by rw[ae];(try simp only);omega,by(try simp only);omega,by(try simp only);omega⟩ ?_
 rintro I ⟨⟨ka,La⟩,⟨kb,Lb⟩,L1,C1⟩ ⟨t1,t2⟩ j ⟨st1,hC1,hu1,D,O,hc1,hc2,s,P,E,Z,hpa,hpb,he,hl1,hl2,hl3⟩ hI;(try simp only at st1 hC1 D O hc1 hc2 s P E Z hpa hpb he hl1 hl2 hl3)
 have z1:t1.len=La.length:=D.len.trans s.1;have z2:t2.len=Lb.length:=O.len.trans P.1;have hC1W:∀y,C1 y\/y=sb->W y:=λy d=>d.elim (λh=>(hC1 y h).elim (λh=>hC3W y (.inl h)) (hW5 y)) λh=>hC3W y (.inr h)
 have hW1:∀y,j.size<=y->W y:=λy d=>hW5 y (aO hu1.size d)
 have go:∀(c:List Ch) (u1 u2:fD) (ka2 kb2:List aT) (A2 B2:List Bn) (h2:ad) (C2:dx),SetAt C2 h2 sb z (L1++c)->(∀y,C2 y->C1 y\/j.size<=y)->Upd (λy=>C1 y\/y=sb) j h2->iU (La.flatMap (pp key.data.toList)) (Lb.flatMap (pp key.data.toList))=c++iU (A2.flatMap (pp key.data.toList)) (B2.flatMap (pp key.data.toList))->
   c.length+(A2.flatMap (pp key.data.toList)).length+(B2.flatMap (pp key.data.toList)).length<=(La.flatMap (pp key.data.toList)).length+(Lb.flatMap (pp key.data.toList)).length->(A2.flatMap (pp key.data.toList)).length<=1000000->(B2.flatMap (pp key.data.toList)).length<=1000000->
   Sl qA 1 (λy=>T y\/y=sb\/J.size<=y) j u1 ka2->Sl qA 1 (λy=>T y\/y=sb\/J.size<=y) j u2 kb2->u1.len<=u1.cap->u2.len<=u2.cap->RxL W j ka2 A2->RxL W j kb2 B2->A2.Sublist La->B2.Sublist Lb->A2.length+B2.length<La.length+Lb.length->I (u1,u2) h2:=by
  intro c u1 u2 ka2 kb2 A2 B2 h2 C2 st2 hC2 hu2 ec hlc hlA hlB v1 v2 w1 w2 ra rb sa sb' G;have hm:∀y,C1 y\/y=sb->(T y\/y=sb\/J.size<=y)\/j.size<=y:=λy d=>.inl (d.elim (λh=>(hC1 y h).imp id .inr) λh=>.inr (.inl h))
  have hmW:∀y,C1 y\/y=sb->W y\/j.size<=y:=λy d=>.inl (hC1W y d)
  refine hI ((ka2,A2),(kb2,B2),L1++c,C2) (u1,u2) h2 ⟨st2,λy d=>?_,?_,v1.upd hu2 hm,v2.upd hu2 hm,w1,w2,ra.updN hu2 hmW,rb.updN hu2 hmW,λm hm=>E m (sa.subset hm),λm hm=>Z m (sb'.subset hm),hpa.sublist sa,hpb.sublist sb',?_,?_,hlA,hlB⟩ G
  .rcases hC2 y d with h|h
   .exact hC1 y h
   .exact .inr (aO hu1.size h)
  .exact hu1.trans hu2 λy d=>d.elim (λh=>(hC1 y h).imp .inl id) λh=>.inl (.inr h)
  .show(L1++c)++_=_
   rw[au,<-ec,he]
  .show(L1++c).length+(A2.flatMap (pp key.data.toList)).length+(B2.flatMap (pp key.data.toList)).length<=10000000
   rw[ae];omega
 refine eF (λt h'=>h'=j/\(t=true↔La≠[]\/Lb≠[])) (λR hR=>?_) ?_
 .refine ar (λo=>hR _ _ ⟨rfl,?_⟩) λo=>hR _ _ ⟨rfl,?_⟩
  .have o:(t1.len:Int)>0:=o
   simp only[true_iff];left;intro e;rw[e]at z1;simp only[bq]at z1;omega
  .have o:¬(t1.len:Int)>0:=o
   have e1:La= []:=List.length_eq_zero_iff.1 a4;show decide ((t2.len:Int)>0)=true↔_
   rw[decide_eq_true_iff];constructor
   .intro h;right;intro e;rw[e]at z2;simp only[bq]at z2;omega
   .intro h
    rcases h with h|h
    .exact absurd e1 h
    .have:=List.length_pos_iff.2 h;omega
 rintro t h6 ⟨rfl,ht⟩;refine eh (λet=>?_) λet=>?_
 rotate_left
 .have hn:La= []/\Lb= []:=by
   rw[et]at ht;constructor
   .exact Decidable.byContradiction λh=>absurd (ht.2 (.inl h)) a6
   .exact Decidable.byContradiction λh=>absurd (ht.2 (.inr h)) a6
  obtain⟨rfl,rfl⟩:=hn;rw[gk,jz,fZ,aX]at he;subst he;exact hk h6 C1 st1 (λy d=>(hC1 y d).elim (hC5 y) λh=>.inr a4) (hku.trans hu1 λy d=>d.elim (λh=>(hC5 y h).imp .inl id) λh=>.inl (.inr h))
 have hne:=ht.1 et;clear ht et;have hna:∀m∈La,m.1≠[]:=λm hm=>(Y.2 m (E m hm)).1
 have V:∀m∈Lb,m.1≠[]:=λm hm=>(H.2 m (Z m hm)).1
 refine eF (λt h'=>h'=h6/\((t=true/\∃a A',La=a::A'/\∀q∈Lb,hd a.1<hd q.1)\/(t=false/\∃b B',Lb=b::B'/\(La= []\/∃a A',La=a::A'/\¬hd a.1<hd b.1)))) (λR hR=>?_) ?_
 .rcases Lb with _|⟨q,B'⟩
  .rcases La with _|⟨a,A'⟩
   .exact absurd hne a6
   rw[show(((t2.len:Nat):Int)==0)=true by rw[z2];rfl]
   exact ay.2 (hR _ _ ⟨rfl,.inl ⟨rfl,a,A',rfl,λq hq=>absurd hq ee⟩⟩)
  .rw[av]at z2
   rw[show(((t2.len:Nat):Int)==0)=false by rw[beq_eq_false_iff_ne];omega]
   refine ag.2 ?_;rcases La with _|⟨a,A'⟩
   .rw[bq]at z1
    rw[decide_eq_false (show ¬((t1.len:Int)>0) by omega)]
    exact ag.2 (hR _ _ ⟨rfl,.inr ⟨rfl,q,B',rfl,.inl rfl⟩⟩)
   .rw[av]at z1
    rw[decide_eq_true (show((t1.len:Int)>0) by omega)]
    obtain⟨b1,l1,g1,g2,g3⟩:=s.at (i:=0) (od _);obtain⟨b2,l2,f1,f2,f3⟩:=P.at (i:=0) (od _);simp only[eJ]at g2 g3 f2 f3;obtain⟨a1,N,_,v1⟩:=D.at0 g1;obtain⟨a2,ha2,_,v2⟩:=O.at0 f1;obtain⟨c1,cc1,cd1,ce1⟩:=aak g2 (hna a (aq ..));obtain⟨c2,cc2,cd2,ce2⟩:=aak f2 (V q (aq ..));refine ay.2 ⟨⟨by(try simp only);omega,by(try simp only);omega⟩,a1,N,_,v1,⟨by(try simp only);omega,by(try simp only);omega⟩,a2,ha2,_,v2,mO g3 ⟨v2,c1,cc1,cd1,mO f3 ⟨c2,cc2,cd2,hR _ _ ⟨rfl,?_⟩⟩⟩⟩
    rw[ce1,ce2];by_cases G:hd a.1<hd q.1
    .refine .inl ⟨decide_eq_true a4,a,A',rfl,λm hm=>?_⟩
     rcases aw.1 hm with rfl|hm
     .exact G
     .exact Nat.lt_trans G ((aC.1 hpb).1 m hm)
    .exact .inr ⟨decide_eq_false a4,q,B',rfl,.inr ⟨a,A',rfl,G⟩⟩
 rintro t h7 ⟨rfl,⟨rfl,a,A',rfl,hlow⟩|⟨rfl,q,B',rfl,hor⟩⟩
 .
  rw[av]at z1;obtain⟨b1,l1,g1,g2,g3⟩:=s.at (i:=0) (od _);simp only[eJ]at g2 g3;obtain⟨a1,N,_,v1⟩:=D.at0 g1;rw[aL,ae]at hl1 hl2;refine ay.2 ⟨⟨by(try simp only);omega,by(try simp only);omega⟩,a1,N,_,v1,?_⟩
  refine Lm (A:=pp key.data.toList a) (B:= []) (.inr ⟨b1,l1,a,rfl,g3,g2,hkid a (E a (aq ..)),rfl⟩) (.inl ⟨rfl,rfl⟩) (.inr rfl) st1 a4 (aJ _) (by rw[bq];omega) λh8 C8 st8 hC8 hu8=>?_
  refine⟨⟨by(try simp only);omega,by(try simp only);omega⟩,?_⟩
  simp only[Bd];rcases ka with _|⟨k0,ka⟩
  .simp at g1
  have ca:=Y.2 a (E a (aq ..));have o:=aC.1 hpa;refine go (iU (pp key.data.toList a) []) _ t2 ka kb A' Lb h8 C8 st8 hC8 hu8 ?_ ?_ a4 hl3 (ZJ D hc1) O (by show t1.len-1<=t1.cap-1;omega) hc2 (s.drop 1) P (lF ..) (.refl _) (by rw[av];omega)
  .rw[aL]
   exact Hy (B1:= []) (rM ca.2.2) .nil (lR λm hm=>FQ ca.1 (hna m (aA _ hm)) (o.1 m hm)) (lR λm hm=>FQ ca.1 (V m hm) (hlow m hm)) (λp o=>absurd o ee) (λp o=>absurd o ee)
  .have:=tW (rM (pre:=key.data.toList) ca.2.2) (B:= []) .nil
   rw[aL,ae];rw[bq]at this;omega
 refine ag.2 ?_;rw[av]at z2;obtain⟨b2,l2,f1,f2,f3⟩:=P.at (i:=0) (od _);simp only[eJ]at f2 f3;obtain⟨a2,ha2,_,v2⟩:=O.at0 f1;obtain⟨c2,cc2,cd2,ce2⟩:=aak f2 (V q (aq ..));rcases kb with _|⟨k0',kb⟩
 .simp at f1
 have cb:=H.2 q (Z q (aq ..));have hpq:=aC.1 hpb;rw[aL (f:=pp key.data.toList),ae]at hl3;rw[aL (f:=pp key.data.toList) (x:=q),ae]at hl1;refine eF (λt h'=>h'=h7/\((t=true/\∀p∈La,hd q.1<hd p.1)\/(t=false/\∃a A',La=a::A'/\hd a.1=hd q.1))) (λR hR=>?_) ?_
 .rcases hor with rfl|⟨a,A',rfl,hnl⟩
  .rw[show(((t1.len:Nat):Int)==0)=true by rw[z1];rfl]
   exact ay.2 (hR _ _ ⟨rfl,.inl ⟨rfl,λp o=>absurd o ee⟩⟩)
  .rw[av]at z1
   rw[show(((t1.len:Nat):Int)==0)=false by rw[beq_eq_false_iff_ne];omega]
   obtain⟨b1,l1,g1,g2,g3⟩:=s.at (i:=0) (od _);simp only[eJ]at g2 g3;obtain⟨a1,N,_,v1⟩:=D.at0 g1;obtain⟨c1,cc1,cd1,ce1⟩:=aak g2 (hna a (aq ..));refine ag.2 ⟨⟨by(try simp only);omega,by(try simp only);omega⟩,a2,ha2,_,v2,⟨by(try simp only);omega,by(try simp only);omega⟩,a1,N,_,v1,mO f3 ⟨v1,c2,cc2,cd2,mO g3 ⟨c1,cc1,cd1,hR _ _ ⟨rfl,?_⟩⟩⟩⟩
   rw[ce1,ce2];by_cases G:hd q.1<hd a.1
   .refine .inl ⟨decide_eq_true a4,λm hm=>?_⟩
    rcases aw.1 hm with rfl|hm
    .exact G
    .exact Nat.lt_trans G ((aC.1 hpa).1 m hm)
   .exact .inr ⟨decide_eq_false a4,a,A',rfl,a4⟩
 rintro t h8 ⟨rfl,⟨rfl,hlow⟩|⟨rfl,a,A',rfl,heq⟩⟩
 .
  refine ay.2 ⟨⟨by(try simp only);omega,by(try simp only);omega⟩,a2,ha2,_,v2,?_⟩
  refine Lm (A:= []) (B:=pp key.data.toList q) (.inl ⟨rfl,rfl⟩) (.inr ⟨b2,l2,q,rfl,f3,f2,Q q (Z q (aq ..)),rfl⟩) (.inl rfl) st1 (aJ _) a4 (by rw[bq];omega) λh9 C9 st9 hC9 hu9=>?_
  refine⟨⟨by(try simp only);omega,by(try simp only);omega⟩,?_⟩
  simp only[Bd];refine go (iU [] (pp key.data.toList q)) t1 _ ka kb La B' h9 C9 st9 hC9 hu9 ?_ ?_ hl2 a4 D (ZJ O hc2) hc1 (by show t2.len-1<=t2.cap-1;omega) s (P.drop 1) (.refl _) (lF ..) (by rw[av];omega)
  .rw[aL]
   exact Hy (A1:= []) .nil (rM cb.2.2) (λp o=>absurd o ee) (λp o=>absurd o ee) (lR λm hm=>FQ cb.1 (hna m hm) (hlow m hm)) (lR λm hm=>FQ cb.1 (V m (aA _ hm)) (hpq.1 m hm))
  .have:=tW (A:= []) (B:=pp key.data.toList q) .nil (rM cb.2.2)
   rw[aL,ae];rw[bq]at this;omega
 .
  rw[av]at z1;obtain⟨b1,l1,g1,g2,g3⟩:=s.at (i:=0) (od _);simp only[eJ]at g2 g3;obtain⟨a1,N,_,v1⟩:=D.at0 g1;rcases ka with _|⟨k0,ka⟩
  .simp at g1
  have ca:=Y.2 a (E a (aq ..));have o:=aC.1 hpa;rw[aL,ae]at hl1 hl2;refine ag.2 ⟨⟨by(try simp only);omega,by(try simp only);omega⟩,a1,N,_,v1,⟨by(try simp only);omega,by(try simp only);omega⟩,a2,ha2,_,v2,?_⟩
  refine ih a (E a (aq ..)) (n':=q) g3 g2 f3 f2 (hkid a (E a (aq ..))) (Q q (Z q (aq ..))) st1 hC1W hW1 a4 a4 a4 λh9 C9 st9 hC9 hu9=>?_
  refine⟨⟨by(try simp only);omega,by(try simp only);omega⟩,?_⟩
  simp only[Bd];refine⟨⟨by(try simp only);omega,by(try simp only);omega⟩,?_⟩
  refine go (iU (pp key.data.toList a) (pp key.data.toList q)) _ _ ka kb A' B' h9 C9 st9 hC9 hu9 ?_ ?_ a4 a4 (ZJ D hc1) (ZJ O hc2) (by show t1.len-1<=t1.cap-1;omega) (by show t2.len-1<=t2.cap-1;omega) (s.drop 1) (P.drop 1) (lF ..) (lF ..) (by rw[av,av];omega)
  .rw[aL,aL]
   exact Hy (rM ca.2.2) (rM cb.2.2) (lR λm hm=>FQ ca.1 (hna m (aA _ hm)) (o.1 m hm)) (lR λm hm=>FQ ca.1 (V m (aA _ hm)) (by rw[heq];exact hpq.1 m hm)) (lR λm hm=>FQ cb.1 (hna m (aA _ hm)) (by rw[<-heq];exact o.1 m hm)) (lR λm hm=>FQ cb.1 (V m (aA _ hm)) (hpq.1 m hm))
  .have:=tW (rM (pre:=key.data.toList) ca.2.2) (rM (pre:=key.data.toList) cb.2.2)
   rw[aL,aL,ae,ae];omega
theorem BK:∀{F:Fo},fq F->∀n∈F.toL,Th n
 | .nil,_,n,a=>by simp[Fo.toL]at a
 | .cons lab w kids rest,h,n,a=>by
  rcases aw.1 a with rfl|a
  .exact Ln (BK h.2.2.1)
  .exact BK h.2.2.2.2 n a
def ad5(a b:Ch):Bool:=decide (kl a.1 b.1)
theorem adv(M:dx):Cmp ad5 Km M (λ_=>True) (.func (.func 187) #[] #[]):=by
 refine⟨λa b h K _ d=>HV.mk' (dg (GG a b) .nil Tryz.func187 Tryz.call187 ?_),λ_ h=>h⟩
 dsimp only[GG,kF,abK,fY,bo];refine aQ λf b1 k1=>aQ λe b2 c=>?_
 refine⟨a.1,vc (c.get0 b1) 0,b.1,vc b2 0,Jh (d e _ (k1.tr c) ?_)⟩;unfold xy ad5;split
 .rename_i h;rw[decide_eq_true h];rfl
 .rename_i h
  rw[decide_eq_false h];split<;>rfl
theorem Eqf.perm[DecidableEq α]{lt:α->α->Bool}(w:WO lt){l l':List α}(h:Eqf lt l l'):l'.Perm l:=by
 rw[List.perm_iff_count];intro a;have e:∀m:List α,m.count a=(m.filter (Qc lt a)).count a:=λm=>(List.count_filter (Ji w a)).symm
 rw[e l',e l,h.flt a]
theorem Rh{t:Tr}{h:ad}{K:Int×Int×Int->dO}(e:∀h',Upd No h h'->K (t.2.1,t.2.2.1,t.2.2.2.1) h'):adk 182 [Ap t] K h:=by
 refine dg (uS t) .nil Tryz.func182 Tryz.call182 ?_;dsimp only[uS,dE,adE,adF,iZ,ao,AV,ge,kH,rC];refine aQ λg b1 k1=>aQ λf b2 b=>?_
 have c1:=b.get0 b1;refine⟨_,iq c1 1 0,_,iq c1 1 1,_,iq c1 1 2,?_⟩;refine co (c:= [.int .u64 0,.int .u64 0,.int .u64 0]) (vs:= [.int .u64 t.2.1,.int .u64 t.2.2.1,.int .u64 t.2.2.2.1]) b2 rfl λd b3 a=>?_
 exact⟨_,vc b3 0,_,vc b3 1,_,vc b3 2,e d ((k1.tr b).own a k1.size)⟩
theorem Lo{t:Tr}{h:ad}{K:aT->dO}(b:∀h',Upd No h h'->K t.2.2.2.2.2 h'):fu 184 [Ap t] K h:=by
 refine dg (vS t) .nil Tryz.func184 Tryz.call184 ?_;dsimp only[vS,aE,kH,rC];exact aQ λa b1 k1=>⟨_,vc b1 5,b a k1⟩
theorem Xm{W:dx}{h:ad}(t:RadAt W h b l)(f:bS l)(g:Fit l):∃n:Bn,n.1= []/\RxN W h b ⟨#[]⟩ n.2.1 n.2.2/\NodeK n []/\pp [] n=l:=by
 obtain⟨w,F,i,d,c⟩:=t.ex;have a:=Hg d f c;refine⟨([],w,F),rfl,i,⟨d,a6,λp a=>?_⟩,?_⟩
 .obtain⟨q,j,e,_⟩:=(c p.1 p.2).1 a
  have:=(g q j).1;rw[<-e];have k:q.1.data.toList.length=q.1.size:=eW;simp only[bq];omega
 .unfold pp
  show(mR w F).map (Dm ([]++ []))=l
  rw[a];unfold Re;rw[jc];conv=>rhs;rw[<-List.map_id l]
  exact oB λp _=>by unfold Dm;simp[Sc]
theorem SX{W:dx}{x':Hs}{h:ad}{N:Int}{t u:Tr}(i:TreeIs W h kind x t l)(i':TreeIs W' h N x' u l')(hr:bS l)(hf:Fit l)(hn:l.length<=60000)(S:bS l')(hf':Fit l')(hn':l'.length<=60000)(D:kS t u=true->∀{M:dx} {h':ad} {s:fD} {L:List Ch} {K':Unit->dO},OwnS Km 5 209 M h' s L->(∀b,M b->b<h'.size)->L.Perm (iU l l')->(∀h2,OwnS Km 5 209 M h2 s (iU l l')->Upd M h' h2->K' () h2)->dQ 186 [.slice s.a s.len s.cap,.func (.func 187) #[] #[]] K' h'){K:fD×Int->dO}
  (h0:kS t u=false->∀h',Upd No h h'->K (⟨none,0,0⟩,11) h')(hk:kS t u=true->∀h' s',OwnS Km 5 209 (λy=>h.size<=y) h' s' (iU l l')->Upd No h h'->K (s',0) h'):NI 120 [Ap t,Ap u] K h:=by
 refine dg (MJ t u) WA Tryz.func120 Tryz.call120 ?_;dsimp only[MJ,rx,bR,OD,U6,my,bh,ao,aE,wU,Tg,kH,rC,wS];refine aQ λh1 b1 k1=>aQ λh2 b2 k2=>?_
 have c1:=k2.get0 b1;refine⟨_,vc c1 0,_,vc c1 1,_,vc c1 2,_,vc c1 3,_,vc c1 4,_,vc c1 5,_,vc b2 0,_,vc b2 1,_,vc b2 2,_,vc b2 3,_,vc b2 4,_,vc b2 5,?_⟩;refine xk λh3 k3=>?_
 have C:=(k1.tr k2).tr k3;have A:=k3.get0 c1;have b3:=k3.get0 b2;rcases hl:kS t u with _|_
 .exact ay.2 (h0 hl h3 C)
 refine ag.2 ⟨_,vc A 0,_,vc A 1,_,vc A 2,_,vc A 3,_,vc A 4,_,vc A 5,?_⟩;refine Rh λq k4=>?_
 refine aQ λP b5 Z=>?_
 have G:=(C.tr k4).tr Z;have B:=Z.get0 (k4.get0 A);have d5:=Z.get0 (k4.get0 b3);have z5:=bB b5;have s4:=(C.tr k4).size;have s5:=Z.size;obtain⟨rfl,hx⟩:=LM i i' hl;let z:Hs:=⟨t.2.1,t.2.2.1,t.2.2.2.1⟩
 have st:SetAt No P q.size z []:=⟨⟨⟨none,0,0⟩,b5,OwnS.nil YA⟩,λ_ h=>h.elim,id⟩
 have V:∀Q,Upd No P Q->∀h' m ys,SetAt m h' q.size z ([]++ys)->(∀b,m b->No b\/Q.size<=b)->Upd (λb=>No b\/b=q.size) Q h'->ys.Perm (iU l l')->∃m ys,SetAt m h' q.size z ys/\(∀y,m y->P.size<=y)/\Upd (λy=>y=q.size) P h'/\ys.Perm (iU l l'):=
  λQ v h' m ys st' hC' hu' p=>⟨m,ys,st',λy j=>(hC' y j).elim (λh=>h.elim) λh=>aO v.size h,v.wide.trans hu' λb hb=>hb.elim (λh=>h.elim) λh=>.inl h,p⟩
 refine eF (λ_ h'=>∃m ys,SetAt m h' q.size z ys/\(∀y,m y->P.size<=y)/\Upd (λy=>y=q.size) P h'/\ys.Perm (iU l l')) (λR hR=>?_) ?_
 .refine⟨_,vc B 0,_,vc B 1,_,vc B 2,_,vc B 3,_,vc B 4,_,vc B 5,?_⟩
  refine OU λQ v=>?_
  have g:=v.get0 B;have c:=v.get0 d5;have i6:=(i.less (W':=λy=>h.size<=y) λ_ h=>.inr h).upd0 (G.tr v)
  have Y:=(i'.less (W':=λy=>h.size<=y) λ_ h=>.inr h).upd0 (G.tr v)
  have X:∀y,No y\/y=q.size->h.size<=y:=λy j=>j.elim (λh=>h.elim) λe=>a4
  rcases i6 with⟨rfl,b,rfl,tt⟩|⟨rfl,b,rfl,tt⟩
  .rcases Y with⟨_,b',rfl,o⟩|⟨e,_⟩
   .obtain rfl:=hx rfl
    refine ag.2 ⟨_,vc g 0,_,vc g 1,_,vc g 2,_,vc g 3,_,vc g 4,_,vc g 5,_,vc c 0,_,vc c 1,_,vc c 2,_,vc c 3,_,vc c 4,_,vc c 5,?_⟩;refine EB tt λh7 k=>?_
    have f:=k.get0 c;refine⟨⟨vc f 0,vc f 1,vc f 2,vc f 3,vc f 4,vc f 5⟩,?_⟩;refine EB (TrieAt.upd0 k o) λh8 E=>?_
    have a:=(v.tr k).tr E;refine W2 13 (aj _) (TrieAt.upd0 (k.tr E) tt) (TrieAt.upd0 (k.tr E) o) (st.upd0 a) X (λy j=>by have:=a.size;omega) hr S a4 a4 a6 λys p h9 C9 d I O=>?_
    exact hR _ _ (V h8 a h9 C9 ys d I O p)
   .cases e
  .rcases Y with⟨e,_⟩|⟨_,b',rfl,o⟩
   .cases e
   .refine ay.2 ⟨_,vc g 0,_,vc g 1,_,vc g 2,_,vc g 3,_,vc g 4,_,vc g 5,_,vc c 0,_,vc c 1,_,vc c 2,_,vc c 3,_,vc c 4,_,vc c 5,?_⟩
    refine Lo λh7 k=>?_
    have f:=k.get0 c;refine⟨⟨vc f 0,vc f 1,vc f 2,vc f 3,vc f 4,vc f 5⟩,?_⟩;refine Lo λh8 E=>?_
    have a:=(v.tr k).tr E;obtain⟨n,e1,r1,nk,p⟩:=Xm (tt.upd0 (k.tr E)) hr hf;obtain⟨n',e1',r1',nk',J⟩:=Xm (o.upd0 (k.tr E)) S hf';obtain⟨lab,w,F⟩:=n;(try simp only at e1)
    subst e1;refine Ln (BK nk.can) (sl:=⟨#[]⟩) (ahead:=⟨#[]⟩) r1 rfl r1' (by rw[e1']) nk nk' (st.upd0 a) X (λy j=>by have:=a.size;omega) (by show(pp [] _).length<=_;rw[p];omega) (by show(pp [] _).length<=_;rw[J];omega) (by show 0+(pp [] _).length+(pp [] _).length<=_;rw[p,J];omega) λh9 C9 d I O=>?_
    have d:SetAt C9 h9 q.size z ([]++iU (pp [] ([],w,F)) (pp [] n')):=d;rw[p,J]at d;exact hR _ _ (V h8 a h9 C9 _ d I O (.refl _))
 .rintro _ Q ⟨C6,ys,H,U,hu6,p⟩
  obtain⟨s,e6,ho6⟩:=H.ex;refine⟨_,rfl,s,vc e6 3,?_⟩;refine D hl ho6 H.lt p λh7 ho7 T=>?_
  have e7:=T.get e6 H.ne;refine⟨_,rfl,s,vc e7 3,hk hl h7 s (ho7.more λy j=>by have:=U y j;omega) ?_⟩
  exact(G.trans hu6 λy j=>.inr a4).trans T λy j=>.inr (by have:=U y j;omega)
theorem StP.less{N M:Nat}(h:StP N)(hm:M<=N):StP M:=λw _ _ _ hc _ _ _ a hi c _ b=>h w hc a hi (aO c hm) b
theorem AD{b:c6}:kl a b↔bF a.data.toList b.data.toList=true:=by unfold kl;rw[ByteArray.toList_eq,ByteArray.toList_eq]
theorem AJ{a b:UInt8}{x:c5}:bF (a::x) (b::y)=true↔a.toNat<b.toNat\/(a=b/\bF x y=true):=by
 simp only[bF,Bool.or_eq_true,decide_eq_true_iff,Bool.and_eq_true,beq_iff_eq,UInt8.lt_iff_toNat_lt]
theorem Ta(x:c5):bF x []=false:=by cases x<;>rfl
theorem NY{x y:c5}:∀pre:c5,bF (pre++x) (pre++y)=true↔bF x y=true
 | []=>Iff.rfl
 |a::pre=>by rw[cN,cN,AJ,NY pre];simp
theorem ady{x:c5}(h:bF x y=true)(hx:x≠[])(c:y≠[]):hd x<=hd y:=by
 match x,y,hx,c with
 |a::x,b::y,_,_=>
  show a.toNat<=b.toNat
  rcases AJ.1 h with h|⟨rfl,_⟩<;>omega
theorem O2:∀(t:Nat) {f p g:c5},t<=cm f g->(f=p\/bF f p=true)->(p=g\/bF p g=true)->p.take t=f.take t/\t<=p.length
 |0,f,p,g,_,_,_=>a6
 |t+1,[],p,g,h,_,_=>by simp[cm]at h
 |t+1,a::f,p,[],h,_,_=>by simp[cm]at h
 |t+1,a::f,p,b::g,h,d,i=>by
  unfold cm at h;split at h
  .rename_i e
   subst e;rcases p with _|⟨c,p⟩
   .rcases d with d|d
    .cases d
    .rw[Ta]at d;cases d
   .have hc:c=a:=by
     rcases d with d|d
     .exact(eB.inj d).1.symm
     .rcases i with i|i
      .exact(eB.inj i).1
      .have j:=AJ.1 d
       have k:=AJ.1 i;rcases j with j|⟨j,_⟩
       .rcases k with k|⟨k,_⟩
        .omega
        .exact k
       .exact j.symm
    subst hc;have:=O2 t (f:=f) (p:=p) (g:=g) a4 (d.imp (λh=>(eB.inj h).2) λh=>by
     rcases AJ.1 h with h|⟨_,h⟩
     .omega
     .exact h) (i.imp (λh=>(eB.inj h).2) λh=>by
     rcases AJ.1 h with h|⟨_,h⟩
     .omega
     .exact h)
    rw[dw,dw,this.1,av];exact⟨rfl,a4⟩
  .omega
theorem UL:∀f:c5,cm f f=f.length
 | []=>rfl
 |a::f=>by unfold cm;rw[if_pos rfl,UL f];rfl
abbrev ky(p:Pr):c5:=p.1.data.toList
def aa1(l:bY)(pre k:c5)(v:c6):Prop:=∃p∈l,ky p=pre++k/\p.2=v
structure Beg(l:bY)(pre:c5):Prop where
 up:bS l
 at_:∀p∈l,(ky p).take pre.length=pre/\pre.length<(ky p).length
theorem Beg.sub(b:Beg l pre)(h:l'.Sublist l):Beg l' pre:=⟨b.up.sublist h,λp a=>b.at_ p (h.subset a)⟩
theorem Beg.split(b:Beg l pre){p:Pr}(c:p∈l):ky p=pre++(ky p).drop pre.length/\(ky p).drop pre.length≠[]:=by
 obtain⟨a,d⟩:=b.at_ p c;refine⟨?_,λe=>?_⟩
 .conv=>lhs;rw[<-aW pre.length (ky p),a]
 .have:=congrArg eT e
  rw[ba,bq]at this;omega
def bt(n:Nat)(p:Pr):Nat:=hd ((ky p).drop n)
theorem Beg.mono(b:Beg (A++B) pre){x y:Pr}(hx:x∈A)(a:y∈B):bt pre.length x<=bt pre.length y:=by
 have h:=(cE.1 b.up).2.2 x hx y a;rw[AD]at h;obtain⟨f,e⟩:=b.split (cx B hx);obtain⟨d,c⟩:=b.split (cA A a);change bF (ky x) (ky y)=true at h;rw[f,d,NY]at h;exact ady h e c
theorem Mj{f g:Pr}(b:Beg l pre)(H:∃r,l=f::r)(s:l.getLast? =some g)(hb:bt pre.length f=bt pre.length g):
  pre.length<cm (ky f) (ky g)/\cm (ky f) (ky g)<=(ky f).length/\(∀p∈l,(ky p).take (cm (ky f) (ky g))=(ky f).take (cm (ky f) (ky g)))/\(∀p∈l,p=f\/cm (ky f) (ky g)<(ky p).length)/\
   (cm (ky f) (ky g)<(ky f).length->cm (ky f) (ky g)<(ky g).length/\hd ((ky f).drop (cm (ky f) (ky g)))≠hd ((ky g).drop (cm (ky f) (ky g)))):=by
 obtain⟨r,rfl⟩:=H;have z:f∈f::r:=aq ..;have n:g∈f::r:=iz s;obtain⟨F,J⟩:=b.split z;obtain⟨G,C⟩:=b.split n;have v:pre.length<cm (ky f) (ky g):=by
  have:∀(q x y:c5),cm (q++x) (q++y)=q.length+cm x y:=by
   intro q x y;induction q with
   |nil=>simp
   |cons a q ih=>simp only[cN,cm,if_true,ih,av];omega
  have t:=this pre ((ky f).drop pre.length) ((ky g).drop pre.length);rw[<-F,<-G]at t;have D:=Yw J C hb;omega
 have u:=UM (ky f) (ky g);have o:∀p∈f::r,ky f=ky p\/bF (ky f) (ky p)=true:=λp c=>by
  rcases aw.1 c with rfl|c
  .exact .inl rfl
  .exact .inr (AD.1 ((aC.1 b.up).1 p c))
 have w:∀p∈f::r,ky p=ky g\/bF (ky p) (ky g)=true:=λp c=>by
  rcases List.eq_nil_or_concat (f::r)with h|⟨l',y,h⟩
  .cases h
  .rw[List.concat_eq_append]at h
   rw[h,List.getLast?_concat]at s;cases s;have i:=b.up;rw[h]at c i;rcases aN.1 c with c|c
   .exact .inr (AD.1 ((cE.1 i).2.2 p c g (az.2 rfl)))
   .rw[az.1 c];exact .inl rfl
 have d:∀p∈f::r,(ky p).take (cm (ky f) (ky g))=(ky f).take (cm (ky f) (ky g))/\cm (ky f) (ky g)<=(ky p).length:=λp c=>O2 _ (aj _) (o p c) (w p c)
 have m:∀p∈f::r,p=f\/cm (ky f) (ky g)<(ky p).length:=λp c=>by
  obtain⟨t,D⟩:=d p c;rcases Nat.lt_or_ge (cm (ky f) (ky g)) (ky p).length with h|h
  .exact .inr h
  .left
   have E:(ky p).length=cm (ky f) (ky g):=a4
   have e:ky p=(ky f).take (cm (ky f) (ky g)):=by rw[<-t,<-E,bG]
   rcases aw.1 c with rfl|c
   .rfl
   .have A:=AD.1 ((aC.1 b.up).1 p c)
    change bF (ky f) (ky p)=true at A;exfalso;have I:ky f=ky p++(ky f).drop (cm (ky f) (ky g)):=by rw[e,aW]
    have B:bF (ky p++(ky f).drop (cm (ky f) (ky g))) (ky p++ [])=true:=by rw[aX,<-I];exact A
    rw[NY,Ta]at B;cases B
 refine⟨v,u.1,λp c=>(d p c).1,m,λj=>?_⟩
 have k:cm (ky f) (ky g)<(ky g).length:=by
  rcases m g n with h|h
  .exfalso
   rw[h,UL]at j;omega
  .exact h
 exact⟨k,NU _ _ j k⟩
theorem S8{l l':bY}{pre:c5}{f g:Pr}(b:Beg l pre)(D:∃r,l=f::r)(B:l.getLast? =some g)(hb:bt pre.length f=bt pre.length g){F:Fo}(hc:fq F)
  (c:l'=if(ky f).length=cm (ky f) (ky g)then l.drop 1 else l)(x:∀k v,qC F k v↔aa1 l' ((ky f).take (cm (ky f) (ky g))) k v){w:Option c6}(t:w=if(ky f).length=cm (ky f) (ky g)then some f.2 else none){lab:c5}(o:lab=((ky f).take (cm (ky f) (ky g))).drop pre.length):
  QB (lab,w,F)/\hd lab=bt pre.length f/\∀k v,vr (lab,w,F) k v↔aa1 l pre k v:=by
 obtain⟨L,K,C,N,E⟩:=Mj b D B hb;obtain⟨r,rfl⟩:=D;have n:f∈f::r:=aq ..;have u:g∈f::r:=iz B;generalize cm (ky f) (ky g)=to at*;have d:pre++lab=(ky f).take to:=by
  have:=(b.at_ f n).1;rw[o];conv=>rhs;rw[<-aW pre.length ((ky f).take to),List.take_take,Nat.min_eq_left a4,this]
 have i:lab≠[]:=λe=>by
  have:=congrArg eT o;rw[e,bq,ba,List.length_take]at this;omega
 have A:∀k v,vr (lab,w,F) k v↔aa1 (f::r) pre k v:=by
  intro k v;constructor
  .rintro⟨q,e,⟨rfl,j⟩|j⟩
   .simp only at e j
    rw[aX]at e;subst e;rw[t]at j;split at j
    .rename_i a
     cases j;refine⟨f,n,?_,rfl⟩;rw[d,<-a,bG]
    .cases j
   .simp only at e j
    obtain⟨p,m,I,rfl⟩:=(x q v).1 j;refine⟨p,?_,?_,rfl⟩
    .rw[c]at m
     split at m
     .exact aA _ m
     .exact m
    .rw[I,e,<-au,d]
  .rintro⟨p,m,e,rfl⟩
   have s:=C p m;have G:ky p=pre++(lab++(ky p).drop to):=by
    rw[<-au,d,<-s,aW]
   have ek:k=lab++(ky p).drop to:=List.append_cancel_left (e.symm.trans G);refine⟨(ky p).drop to,ek,?_⟩;by_cases a:(ky f).length=to
   .rw[if_pos a]at t c
    rcases aw.1 m with rfl|m
    .left
     refine⟨List.drop_eq_nil_of_le a4,?_⟩;simp only;rw[t]
    .right
     refine(x _ _).2 ⟨p,by rw[c];exact m,?_,rfl⟩
     rw[<-s,aW]
   .rw[if_neg a]at t c
    right;refine(x _ _).2 ⟨p,by rw[c];exact m,?_,rfl⟩
    rw[<-s,aW]
 refine⟨⟨i,?_,hc⟩,?_,A⟩
 .by_cases a:(ky f).length=to
  .left;simp only;rw[t,if_pos a];rfl
  .have y:to<(ky f).length:=by omega
   obtain⟨H,z⟩:=E y;refine(Jo hc).2 (.inr ⟨(ky f).drop to,(ky g).drop to,f.2,g.2,.inr ?_,.inr ?_,λe=>?_,λe=>?_,z⟩)
   .exact(x _ _).2 ⟨f,by rw[c,if_neg a];exact n,(aW ..).symm,rfl⟩
   .exact(x _ _).2 ⟨g,by rw[c,if_neg a];exact u,by rw[<-C g u,aW],rfl⟩
   .have:=congrArg eT e
    rw[ba,bq]at this;omega
   .have:=congrArg eT e
    rw[ba,bq]at this;omega
 .have e:=(b.split n).1
  unfold bt;have j:(ky f).drop pre.length=lab++(ky f).drop to:=by
   have J:ky f=pre++(lab++(ky f).drop to):=by rw[<-au,d,aW]
   conv=>lhs;rw[J]
   rw[List.drop_left]
  rw[j,oq i]
structure Row(L:List Bn)(D T:bY)(pre:c5):Prop where
 can:∀n∈L,QB n
 up:L.Pairwise λm n=>hd m.1<hd n.1
 lo:∀n∈L,∀p∈T,hd n.1<bt pre.length p
 got:∀k v,(∃n∈L,vr n k v)↔aa1 D pre k v
theorem Row.nil(T:bY)(pre:c5):Row [] [] T pre:=⟨λn h=>(by cases h),cj,λn h=>(by cases h),λk v=>⟨λ⟨n,h,_⟩=>(by cases h),λ⟨p,h,_⟩=>(by cases h)⟩⟩
theorem Row.more{p:Pr}(r:Row L D (A++B) pre)(i:Beg (A++B) pre)(s:p∈A)(_:∀a∈A,bt pre.length a=bt pre.length p)(t:∀b d,B=b::d->bt pre.length b≠bt pre.length p)(hc:QB n)(o:hd n.1=bt pre.length p)(j:∀k v,vr n k v↔aa1 A pre k v):Row (L++ [n]) (D++A) B pre:=by
 refine⟨λm hm=>?_,cE.2 ⟨r.up,List.pairwise_singleton ..,λa u b hb=>?_⟩,λm hm q c=>?_,λk v=>?_⟩
 .rcases aN.1 hm with hm|hm
  .exact r.can m hm
  .rw[az.1 hm];exact hc
 .rw[az.1 hb,o]
  exact r.lo a u p (cx _ s)
 .rcases aN.1 hm with hm|hm
  .exact r.lo m hm q (cA _ c)
  .rw[az.1 hm,o]
   rcases B with _|⟨g,d⟩
   .cases c
   have x:=t g d rfl;have w:=i.mono s (aq (a:=g) (l:=d));rcases aw.1 c with rfl|c
   .omega
   .have f:Beg ([g]++d) pre:=i.sub (List.sublist_append_right A _)
    have:=f.mono (az.2 rfl) c;omega
 .constructor
  .rintro⟨m,hm,hi⟩
   rcases aN.1 hm with hm|hm
   .obtain⟨q,c,e⟩:=(r.got k v).1 ⟨m,hm,hi⟩
    exact⟨q,cx _ c,e⟩
   .rw[az.1 hm]at hi
    obtain⟨q,c,e⟩:=(j k v).1 hi;exact⟨q,cA _ c,e⟩
  .rintro⟨q,c,e⟩
   rcases aN.1 c with c|c
   .obtain⟨m,hm,hi⟩:=(r.got k v).2 ⟨q,c,e⟩
    exact⟨m,cx _ hm,hi⟩
   .exact⟨n,cA _ (az.2 rfl),(j k v).2 ⟨q,c,e⟩⟩
theorem Row.done(r:Row L D [] pre):fq (.ofL L)/\∀k v,qC (.ofL L) k v↔aa1 D pre k v:=by
 refine⟨dY.2 ?_,λk v=>?_⟩
 .rw[Fo.to_of];exact⟨r.up,r.can⟩
 .rw[fF,Fo.to_of];exact r.got k v
theorem Sw(s:c6):s.data.toList.length=s.size:=a6
theorem Kid.less{W:dx}{h:ad}(hm:∀b,W' b->W b\/h.size<=b){a:aT}:Kid W h a n->Kid W' h a n
 |⟨b,sl,e1,e2,e3⟩=>⟨b,sl,e1,e2,e3.less hm⟩
theorem Kid.updM{W:dx}{h:ad}(k:Upd M h h')(hm:∀b,M b->W b\/h.size<=b){a:aT}:Kid W h a n->Kid W h' a n
 |⟨b,sl,e1,e2,e3⟩=>⟨b,sl,e1,e2,e3.updM k hm⟩
theorem RxL.less{W:dx}{h:ad}(hm:∀b,W' b->W b\/h.size<=b)(r:RxL W h ks L):RxL W' h ks L:=⟨r.1,λp a=>(r.2 p a).less hm⟩
theorem RxL.updM{W:dx}{h:ad}(k:Upd M h h')(hm:∀b,M b->W b\/h.size<=b)(r:RxL W h ks L):RxL W h' ks L:=⟨r.1,λp a=>(r.2 p a).updM k hm⟩
theorem YE{p:Pr}{n:Nat}(h:n<(ky p).length):∃b:UInt8,p.1[n]? =some b/\b.toNat=bt n p:=by
 rw[PV];refine⟨(ky p)[n],af h,?_⟩;unfold bt hd;rw[List.drop_eq_getElem_cons h];rfl
theorem abO{h:ad}{t:Tr}{k:dO}(d:∀h',h'[h.size]? =some (.cells (iM t).toArray 53 (0,0))->Upd No h h'->k h'):
  At (hnew h (iM rL) 53) (λa=>qV a (some (aR h)) 0 (iM t)/\At (fS a (aR h) 0 (iM t)) k):=
 aQ λ_ b1 k1=>co (c:=iM rL) (vs:=iM t) b1 rfl λe b2 b=>d e b2 (k1.own b (aj _))
def acp(s:c6):c6:=s.extract 0 (if 40<(s.size:Int)then 40 else(s.size:Int)).toNat
theorem Is{h:ad}{r:Rt}{k:dO}(d:∀h',h'[h.size]? =some (.cells (ry r).toArray 111 (0,0))->Upd No h h'->k h'):
  At (hnew h (ry KA) 111) (λa=>qV a (some (aR h)) 0 (ry r)/\At (fS a (aR h) 0 (ry r)) k):=
 aQ λ_ b1 k1=>co (c:=ry KA) (vs:=ry r) b1 rfl λe b2 b=>d e b2 (k1.own b (aj _))
abbrev acs:c4:= [.string (⟨#[]⟩:c6),.string (⟨#[]⟩:c6),.string (⟨#[]⟩:c6),.bool false,.bool false]
theorem acT{h:ad}{c:Ch}{k:dO}(e:∀h',h'[h.size]? =some (.cells (Km c).toArray t (0,0))->Upd No h h'->k h'):
  At (hnew h acs t) λb=>qV b (some (aR h)) 0 (Km c)/\At (fS b (aR h) 0 (Km c)) k:=
 aQ λ_ b1 k1=>co (c:=acs) (vs:=Km c) b1 rfl λd b2 a=>e d b2 (k1.own a (aj _))
abbrev b1:c6:=⟨#[49]⟩
abbrev b2:c6:=⟨#[50]⟩
abbrev b3:c6:=⟨#[51]⟩
def look(l:bY)(k:c6):Option c6:=(l.find? λp=>decide (p.1=k)).map (·.2)
theorem LL(h:cI l k=false):look l k=none:=by
 unfold look;rw[Option.map_eq_none_iff,List.find?_eq_none];intro p a;unfold cI at h;rw[List.any_eq_false]at h;exact h p a
theorem ui:∀{l:bY} {k v:c6},bS l->(k,v)∈l->look l k=some v
 |p::l,k,v,a,h=>by
  have a:=aC.1 a;unfold look;rw[l7];rcases aw.1 h with e|h
  .subst e;simp
  .have b:p.1≠k:=λe=>by
    have:=a.1 _ h;simp only at this;rw[e]at this;exact bX _ this
   rw[decide_eq_false b];exact ui a.2 h
theorem Un(a:bS l)(b:cI l k=true->(k,v)∈l)(c:cI l k=false->v=⟨#[]⟩):((look l k).getD ⟨#[]⟩,(look l k).isSome)=(v,cI l k):=by
 cases ht:cI l k with
 |true=>rw[ui a (b ht)];rfl
 |false=>rw[LL ht,c ht];rfl
theorem VJ{lev:Nat}:look (part x lev (ck x lev k) l) k=look l k:=by
 unfold look part;congr 1
 rw[List.find?_filter];congr 1
 funext p;by_cases e:p.1=k
 .rw[e];simp
 .simp[e]
theorem Qf{W:dx}{h:ad}(t:TrieAt W x h 13 b l)(U:∀y,W y->y<h.size)(Z:bS l)(V:l.length<=1000000)(k:c6){K:c6×Bool->dO}
  (G:∀h',Upd No h h'->K ((look l k).getD ⟨#[]⟩,(look l k).isSome) h'):sJ 260 [.agg #[.int .u64 x.k0,.int .u64 x.k1,.int .u64 x.mask],gZ b,.string k] K h:=by
 refine dg (GI (x.k0,x.k1,x.mask) (some ⟨b,0,none⟩) k) QT Tryz.func260 Tryz.call260 ?_;dsimp only[GI,bo,nv,AP,zh,pW,AO,mc,jV,pY,iZ,ao,fY];refine aQ λh1 b1 k1=>⟨_,vc b1 0,_,vc b1 1,_,vc b1 2,?_⟩
 refine Dk λh2 Y=>?_
 have u:=k1.tr Y;refine M5 (.inr ⟨b,rfl,TrieAt.upd0 u t⟩) (λy T=>aD (U y T) u.size) λh3 b3 t3 X _=>?_
 have P:=u.tr X;refine ez (λ(g:Nat×Nat×bY) (t:aT×Int) h'=>t=(some ⟨g.2.1,0,none⟩,((13-g.1:Nat):Int))/\g.1<=13/\TrieAt W x h' g.1 g.2.1 g.2.2/\bS g.2.2/\g.2.2.length<=1000000/\look g.2.2 k=look l k/\Upd No h h') (λg=>g.1) (13,b3,l)
  ⟨rfl,aj _,t3,Z,V,rfl,P⟩ ?_
 rintro I ⟨m,c,B⟩ t h4 ⟨rfl,hm,tm,f,C,o,E⟩ hI;(try simp only at hm tm f C o)
 rcases m with _|m
 .obtain⟨sp,sk,ow,hb,_⟩:=BuckAt.ex tm
  refine gI hb (ay.2 (XV tm f a4 k λR v H w z=>?_))
  have:=G R (E.tr H);rw[<-o,Un f w z]at this;exact this
 .obtain⟨s,nd,L⟩:=tm
  have L:∀c,c<32->SlotIs W x h4 m s c (part x (12-m) c B):=L;obtain⟨d,n,sp,sk,ow,hb,_⟩:=nd.ex;refine gI hb (ag.2 ?_);refine Yy a4 ?_;rw[show 13-(m+1)=12-m by omega]
  have hi:=zS x (12-m) k;have q:=L _ hi;have j:look (part x (12-m) (ck x (12-m) k) B) k=look l k:=by rw[VJ,o]
  have D:bS (part x (12-m) (ck x (12-m) k) B):=jv f;have A:(part x (12-m) (ck x (12-m) k) B).length<=1000000:=aO jw C;generalize part x (12-m) (ck x (12-m) k) B=lp at q j D A;generalize ck x (12-m) k=i at hi q;refine Da nd hi λR H=>?_
  refine ux λF N k6=>?_
  have a:=H.tr k6;rcases q with⟨J,w,z⟩|⟨p,J,w,z⟩|⟨_,w,Q,z,tk⟩
  .rw[w]
   refine ag.2 (yq (nd.upd a λ_ h=>h.elim) hi ?_)
   rw[z];refine ay.2 ?_;have:=G F (E.tr a);rw[<-j,J]at this;exact this
  .rw[w]at N⊢
   refine ay.2 ⟨p.1,vc N 0,?_⟩;rw[dZ];have:=G F (E.tr a);rw[<-j,J]at this;by_cases e:p.1=k
   .rw[decide_eq_true e]
    refine ag.2 ⟨p.2,vc N 1,?_⟩;have O:look [p] k=some p.2:=by unfold look;rw[l7,decide_eq_true e];rfl
    rw[O]at this;exact this
   .rw[decide_eq_false e]
    have O:look [p] k=none:=by unfold look;rw[l7,decide_eq_false e];rfl
    rw[O]at this;exact ay.2 this
  .rw[w]
   refine ag.2 (yq (nd.upd a λ_ h=>h.elim) hi ?_)
   rw[z];refine ag.2 ?_;have S:ac .i64 (((13-(m+1):Nat):Int)+1)=((13-m:Nat):Int):=by rw[dI a4];omega
   rw[show 13-(m+1)=12-m by omega]at S
   show I (some ⟨Q,0,none⟩,ac .i64 (((12-m:Nat):Int)+1)) F
   rw[S];exact hI (m,Q,lp) _ F ⟨rfl,by(try simp only);omega,TrieAt.upd0 a tk,D,A,j,E.tr a⟩ (by(try simp only);omega)
abbrev Sd:=c6×Bool
abbrev abB(s:Sd):c4:= [.string s.1,.bool s.2]
theorem M8(a b:Sd):((a.1.toList==b.1.toList)&&((a.2==b.2)&&true))=decide (a=b):=by
 rw[dZ];by_cases e:a=b
 .subst e;simp
 .rw[decide_eq_false e]
  obtain⟨c,d⟩:=a;obtain⟨b1,b2⟩:=b;simp only[Prod.mk.injEq]at e;rw[Bool.eq_false_iff];intro h;simp only[Bool.and_eq_true,decide_eq_true_iff,beq_iff_eq,and_true]at h;exact e h
theorem abf{h:ad}{s:Sd}{k:dO}(e:∀h',h'[h.size]? =some (.cells (abB s).toArray t (0,0))->Upd No h h'->k h'):
  At (hnew h [.string (⟨#[]⟩:c6),.bool false] t) λb=>qV b (some (aR h)) 0 (abB s)/\At (fS b (aR h) 0 (abB s)) k:=
 aQ λ_ b1 k1=>co (c:= [.string (⟨#[]⟩:c6),.bool false]) (vs:=abB s) b1 rfl λd b2 a=>e d b2 (k1.own a (aj _))
def zl(b o t:Sd)(p:Int):Sd×Bool:=if o=t\/t=b then(o,true)else if o=b then(t,true)else if p=1 then(o,false)else if p=2 then(t,false)else(b,false)
theorem zx{h:ad}{c:c4}{s:Sd}{g:Bool}{K:Sd×Bool->dO}(hb:h[b]? =some (.cells c.toArray t (0,0))) (hc:c.length=2) (d:∀h',Upd (· =b) h h'->K (s,g) h'):
  qV h (some ⟨b,0,none⟩) 0 [.string s.1,.bool s.2]/\At (fS h ⟨b,0,none⟩ 0 [.string s.1,.bool s.2]) (λh'=>∃v1:c6,aZ h' (adr ⟨b,0,none⟩ 0)=some (.string v1)/\∃v2:Bool,aZ h' (adr ⟨b,0,none⟩ 1)=some (.bool v2)/\K ((v1,v2),g) h'):=
 co (c:=c) (vs:=abB s) hb (by rw[hc];rfl) λe b2 a=>⟨s.1,vc b2 0,s.2,vc b2 1,d e a⟩
theorem XK{b o t:Sd}{h:ad}{K:Sd×Bool->dO}(y:∀h',Upd No h h'->K (zl b o t p) h'):aap 122 [.agg #[.string b.1,.bool b.2],.agg #[.string o.1,.bool o.2],.agg #[.string t.1,.bool t.2],.int .i64 p] K h:=by
 refine dg (Ed b o t p) On Tryz.func122 Tryz.call122 ?_;dsimp only[Ed,GJ,y9,vA,bo,iR,Fe,dE,abr];refine aQ λA b1 k1=>aQ λz b2 m=>aQ λv b3 j=>aQ λq f k=>?_
 have c1:=k.get0 (j.get0 (m.get0 b1));have d:=k.get0 (j.get0 b2);have c:=k.get0 b3;have x:h.size<=v.size:=((k1.tr m).tr j).size;have n:Upd No h q:=((k1.tr m).tr j).tr k;have fin:∀{h'} (s:Sd) (g:Bool),zl b o t p=(s,g)->Upd (· =v.size) q h'->K (s,g) h':=λs g e a=>by rw[<-e];exact y _ (n.own a x)
 unfold zl at fin;refine eF (λw h'=>h'=q/\w=decide (o=t\/t=b)) (λR u=>?_) ?_
 .refine⟨o.1,vc d 0,o.2,vc d 1,t.1,vc c 0,t.2,vc c 1,?_⟩
  rw[M8 o t];by_cases e:o=t
  .rw[decide_eq_true e]
   exact ay.2 (u _ _ ⟨rfl,(decide_eq_true (.inl e)).symm⟩)
  .rw[decide_eq_false e]
   refine ag.2 ⟨t.1,vc c 0,t.2,vc c 1,b.1,vc c1 0,b.2,vc c1 1,u _ _ ⟨rfl,?_⟩⟩;rw[M8 t b,decide_eq_decide];exact⟨.inr,λh=>h.elim (λh=>absurd h e) id⟩
 rintro w h' ⟨rfl,rfl⟩;refine ar (λe=>?_) λe=>?_
 .rw[if_pos e]at fin
  exact⟨o.1,vc d 0,o.2,vc d 1,zx (s:=o) f rfl λi a=>fin _ _ rfl a⟩
 rw[if_neg e]at fin;refine⟨o.1,vc d 0,o.2,vc d 1,b.1,vc c1 0,b.2,vc c1 1,?_⟩;rw[M8 o b];refine ar (λe=>?_) λe=>?_
 .rw[if_pos e]at fin
  exact⟨t.1,vc c 0,t.2,vc c 1,zx (s:=t) f rfl λi a=>fin _ _ rfl a⟩
 rw[if_neg e]at fin;refine eh (λe=>?_) λe=>?_
 .rw[if_pos (by simpa using e)]at fin
  exact⟨o.1,vc d 0,o.2,vc d 1,zx (s:=o) f rfl λi a=>fin _ _ rfl a⟩
 rw[if_neg (by simpa using e)]at fin;refine eh (λe=>?_) λe=>?_
 .rw[if_pos (by simpa using e)]at fin
  exact⟨t.1,vc c 0,t.2,vc c 1,zx (s:=t) f rfl λi a=>fin _ _ rfl a⟩
 .rw[if_neg (by simpa using e)]at fin
  exact⟨b.1,vc c1 0,b.2,vc c1 1,zx (s:=b) f rfl λi a=>fin _ _ rfl a⟩
theorem Xp{b o t:Sd}{h:ad}{K:Sd×Bool->dO}(z:∀h',Upd No h h'->K (zl b o t p) h'):aap 131 [.agg #[.string b.1,.bool b.2],.agg #[.string o.1,.bool o.2],.agg #[.string t.1,.bool t.2],.int .i64 p] K h:=by
 refine dg (JN b o t p) .nil Tryz.func131 Tryz.call131 ?_;dsimp only[JN,GJ,y9,vA,bo,iR,Fe,dE,abr];refine aQ λB b1 k1=>aQ λA b2 m=>aQ λu b3 j=>aQ λv f k=>?_
 have c1:=k.get0 (j.get0 (m.get0 b1));have c:=k.get0 (j.get0 b2);have d:=k.get0 b3;have w:h.size<=u.size:=((k1.tr m).tr j).size;have n:Upd No h v:=((k1.tr m).tr j).tr k;have fin:∀{h'} (s:Sd) (g:Bool),zl b o t p=(s,g)->Upd (· =u.size) v h'->K (s,g) h':=λs g e a=>by rw[<-e];exact z _ (n.own a w)
 unfold zl at fin;refine⟨o.1,vc c 0,o.2,vc c 1,t.1,vc d 0,t.2,vc d 1,?_⟩;rw[M8 o t];refine ar (λe=>?_) λq=>?_
 .rw[if_pos (.inl e)]at fin
  exact⟨o.1,vc c 0,o.2,vc c 1,zx (s:=o) f rfl λi a=>fin _ _ rfl a⟩
 refine⟨o.1,vc c 0,o.2,vc c 1,b.1,vc c1 0,b.2,vc c1 1,?_⟩;rw[M8 o b];refine ar (λe=>?_) λy=>?_
 .rw[if_neg (λh=>h.elim q λh=>q (by rw[e,h])),if_pos e]at fin
  exact⟨t.1,vc d 0,t.2,vc d 1,zx (s:=t) f rfl λi a=>fin _ _ rfl a⟩
 refine⟨t.1,vc d 0,t.2,vc d 1,b.1,vc c1 0,b.2,vc c1 1,?_⟩;rw[M8 t b];refine ar (λe=>?_) λx=>?_
 .rw[if_pos (.inr e)]at fin
  exact⟨o.1,vc c 0,o.2,vc c 1,zx (s:=o) f rfl λi a=>fin _ _ rfl a⟩
 rw[if_neg (λh=>h.elim q x),if_neg y]at fin
 refine eh (λe=>?_) λe=>?_
 .rw[if_pos (by simpa using e)]at fin
  exact⟨o.1,vc c 0,o.2,vc c 1,zx (s:=o) f rfl λi a=>fin _ _ rfl a⟩
 rw[if_neg (by simpa using e)]at fin;refine eh (λe=>?_) λe=>?_
 .rw[if_pos (by simpa using e)]at fin
  exact⟨t.1,vc d 0,t.2,vc d 1,zx (s:=t) f rfl λi a=>fin _ _ rfl a⟩
 .rw[if_neg (by simpa using e)]at fin
  exact⟨b.1,vc c1 0,b.2,vc c1 1,zx (s:=b) f rfl λi a=>fin _ _ rfl a⟩
abbrev acX:c6:=⟨#[102,97,105,108]⟩
abbrev acV:c6:=⟨#[111,117,114,115]⟩
abbrev Z9:c6:=⟨#[116,104,101,105,114,115]⟩
abbrev acW:c6:=⟨#[107,101,101,112]⟩
def FX(p:Int):c6:=if p=0 then acX else if p=1 then acV else if p=2 then Z9 else if p=3 then acW else⟨#[]⟩
theorem Df{h:ad}{K:c6->dO}(a:K (FX p) h):Uy 67 [.int .i64 p] K h:=by
 refine dg (Ee p) .nil Tryz.func67 Tryz.call67 ?_;unfold Ee;unfold FX at a;refine eh (λe=>?_) λe=>?_
 .rw[if_pos (by simpa using e)]at a;exact a
 rw[if_neg (by simpa using e)]at a;refine eh (λe=>?_) λe=>?_
 .rw[if_pos (by simpa using e)]at a;exact a
 rw[if_neg (by simpa using e)]at a;refine eh (λe=>?_) λe=>?_
 .rw[if_pos (by simpa using e)]at a;exact a
 rw[if_neg (by simpa using e)]at a;refine eh (λe=>?_) λe=>?_
 .rw[if_pos (by simpa using e)]at a;exact a
 .rw[if_neg (by simpa using e)]at a;exact a
section
variable {W:dx} {h:ad} {vp:Nat} {s:VS}
theorem BG(v:VaultAt W h vp s){n m:c6}{a b:Int}(E:bK s.B n=some a)(hb:bK s.B m=some b)(C:((FX p).toList==(⟨#[]⟩:c6).toList)=false)(A:(b=0\/UpG s.L a b)\/(a=0\/UpG s.L b a))
  {K:Int×fD×Int->dO}(o:(b=0\/UpG s.L a b)->∀h',Upd No h h'->K (a,⟨none,0,0⟩,0) h')(j:¬(b=0\/UpG s.L a b)->∀h',Upd s.M h h'->VaultAt W h' vp {s with B:=lU s.B n b}->K (b,⟨none,0,0⟩,0) h'):
  XY 24 [pV vp,.string n,.string m,.int .i64 p] K h:=by
 refine kI (some ⟨vp,0,none⟩) n m p ?_;dsimp only[iW,cz,bh,ao,dE,nv,aE,Kk,uj,rC,rx,cO,pW,vt,Za,iC,xf,my,cJ,wU,GX];refine ir v n (ir v m ?_);rw[E,hb];refine eQ (ag.2 (ag.2 (Df ?_)));rw[C];refine ag.2 (uh v b a λc D hc k1=>eh (λe=>o (hc.1 e) D k1) λe=>?_)
 have u:¬(b=0\/UpG s.L a b):=λx=>by rw[hc.2 x]at e;cases e
 have w:=v.upd0 k1;refine uh w a b λF i k q=>?_
 rw[k.2 (A.resolve_left u)];have f:=w.upd0 q;refine ay.2 ⟨_,rfl,_,vc f.blk 8,_,rfl,f.b.isMap,Jq λg d=>?_⟩
 have d:g=nM i s.bm (kStr.enc n) (PR b):=d;have t:Upd (· =s.bm) i g:=by rw[d];exact oF i _ _ rfl
 exact j u g ((k1.tr q).wide.tr (t.mono λy z=>.inl (.inr (.inr (.inr (.inl z)))))) (f.setB t (by rw[d];exact f.b.put n b))
end
end
section
open Go.Lift
variable {W:dx}{kind:Int}{x:Hs}{K:aT×Int->dO}
structure NSt(h8:ad)(b:Nat)(t:Tr)(h:ad)(ps ms:List Nat):Prop where
 k:Upd No h8 h
 blk:h[b]? =some (.cells (iM t).toArray 53 (0,0))
 gs:∀p∈ps,GraphAt (Cl (p+1) p) h (p+1) p [] 1/\h8.size<=p
 mp:∀m∈ms,h[m]? =some (.map #[] 0)/\h8.size<=m
section
variable {h8 h h':ad} {b:Nat} {t:Tr} {ps ms:List Nat}
theorem NSt.upd(n:NSt h8 b t h ps ms)(k:Upd No h h'):NSt h8 b t h' ps ms:=
 ⟨n.k.tr k,k.get0 n.blk,λp a=>⟨(n.gs p a).1.upd0 k,(n.gs p a).2⟩,λm hm=>⟨k.get0 (n.mp m hm).1,(n.mp m hm).2⟩⟩
theorem NSt.rds(n:NSt h8 b t h ps ms):aZ h (adr ⟨b,0,none⟩ 0)=some (.int .i64 t.1)/\aZ h (adr ⟨b,0,none⟩ 1)=some (.int .u64 t.2.1)/\aZ h (adr ⟨b,0,none⟩ 2)=some (.int .u64 t.2.2.1)/\aZ h (adr ⟨b,0,none⟩ 3)=some (.int .u64 t.2.2.2.1)/\aZ h (adr ⟨b,0,none⟩ 4)=some (.pointer t.2.2.2.2.1)/\aZ h (adr ⟨b,0,none⟩ 5)=some (.pointer t.2.2.2.2.2):=
 ⟨vc n.blk 0,vc n.blk 1,vc n.blk 2,vc n.blk 3,vc n.blk 4,vc n.blk 5⟩
theorem NSt.map(n:NSt h8 b t h ps ms){k:dO}(c:∀h',NSt h8 b t h' ps (h.size::ms)->h.size<h'.size->k h'):At (Array.push h (.map #[] 0)) k:=by
 have a:=Upd.push No h (.map #[] 0);have n':=n.upd a;refine bL (c _ ⟨n'.k,n'.blk,n'.gs,λm hm=>?_⟩ a6)
 rcases aw.1 hm with rfl|hm
 .exact⟨oJ h _,n.k.size⟩
 .exact n'.mp m hm
theorem NSt.graph(n:NSt h8 b t h ps ms){K:aT->dO}(d:∀h',NSt h8 b t h' (h.size::ps) ms->h.size+1<h'.size->K (some ⟨h.size+1,0,none⟩) h'):fu 60 [] K h:=by
 refine aar λh' c g=>?_
 have n':=n.upd c;refine d h' ⟨n'.k,n'.blk,λp a=>?_,n'.mp⟩ (g.lt _ (.inl rfl))
 rcases aw.1 a with rfl|a
 .exact⟨g,n.k.size⟩
 .exact n'.gs p a
theorem NSt.put(n:NSt h8 b t h ps ms){cs:c4}{ty:TypeId}{k:dO}(a:∀h',NSt h8 b t h' ps ms->h'[h.size]? =some (.cells cs.toArray ty (0,0))->h8.size<=h.size->k h'):At (hnew h cs ty) k:=
 aQ λh' b' k'=>a h' (n.upd k') b' n.k.size
theorem NSt.done(n:NSt h8 b t h ps ms)(z:∀y,W y->y<h8.size)(i:TreeIs W h8 kind x t [])(w:kind=0\/kind=1){c p f o j:Nat}
  (C:∀h' vp gp gm tm bm nm,VaultAt (λy=>W y\/VS.M ⟨gp,gm,tm,bm,nm,kind,x,t,[],1,[],[],[]⟩ y) h' vp ⟨gp,gm,tm,bm,nm,kind,x,t,[],1,[],[],[]⟩->h8.size<=vp->(∀y,VS.M ⟨gp,gm,tm,bm,nm,kind,x,t,[],1,[],[],[]⟩ y->h8.size<=y)->Upd No h8 h'->K (some ⟨vp,0,none⟩,0) h')
  (A:h[c]? =some (.cells (iM t++ [Value.pointer (some ⟨p+1,0,none⟩),Value.map (some f),Value.map (some o),Value.map (some j)]).toArray 96 (0,0)))
  (hv:h8.size<=c) (k:∀m∈(p+1)::p::ms,c≠m) (B:p∈ps) (u:f∈ms) (s:o∈ms) (q:j∈ms) (ne: [p+1,p,f,o,j].Nodup):K (some ⟨c,0,none⟩,0) h:=by
 obtain⟨g,D⟩:=n.gs p B;have hM:∀y,VS.M ⟨p+1,p,f,o,j,kind,x,t,[],1,[],[],[]⟩ y->h8.size<=y/\y<h.size/\c≠y:=λy a=>by
  rcases a with e|e|e|e|e<;>(simp only at e;subst e)
  .exact⟨a4,g.lt _ (.inl rfl),k _ a6⟩
  .exact⟨D,g.lt _ (.inr rfl),k _ a6⟩
  .exact⟨(n.mp _ u).2,bB (n.mp _ u).1,k _ (by simp[u])⟩
  .exact⟨(n.mp _ s).2,bB (n.mp _ s).1,k _ (by simp[s])⟩
  .exact⟨(n.mp _ q).2,bB (n.mp _ q).1,k _ (by simp[q])⟩
 obtain⟨m,hm,v⟩:=g.map;have em:∀{κ β:Type} {E:KeyE κ} {g:β->Value} {r:Nat},h[r]? =some (.map #[] 0)->MapAt E g h r []:=λv=>⟨[],0,⟨v,qr,qr,λ_ h=>by cases h⟩,rfl⟩
 refine C h c (p+1) p f o j ⟨A,⟨g.blk,⟨m,hm,λid=>(v id).elim (λ⟨_,_,_,e,_⟩=>by cases e) .inr⟩,.inr (.inl rfl),.inr (.inr (.inl rfl)),λy a=>a.elim (λe=>aD (z y e) n.k.size) λe=>(hM y e).2.1,g.nd⟩,em (n.mp _ u).1,em (n.mp _ s).1,em (n.mp _ q).1,λy a=>.inr a,λa=>a.elim (λe=>by have:=z _ e;omega) λe=>(hM _ e).2.2 rfl,ne,?_,λd hd=>(by cases hd),λid=>ug,Inv.nil,w⟩ hv (λy a=>(hM y a).1) n.k
 exact(i.less λy a=>a.imp id λe=>(hM y e).1).upd0 n.k
end
theorem TK{h:ad}(q:∀y,W y->y<h.size)(m:kind=0\/kind=1)
  (u:∀h' d gp gm tm bm nm t,VaultAt (λy=>W y\/VS.M ⟨gp,gm,tm,bm,nm,kind,x,t,[],1,[],[],[]⟩ y) h' d ⟨gp,gm,tm,bm,nm,kind,x,t,[],1,[],[],[]⟩->h.size<=d->(∀y,VS.M ⟨gp,gm,tm,bm,nm,kind,x,t,[],1,[],[],[]⟩ y->h.size<=y)->Upd No h h'->K (some ⟨d,0,none⟩,0) h'):
  aao 19 [.int .i64 kind,.agg #[.int .u64 x.k0,.int .u64 x.k1,.int .u64 x.mask]] K h:=by
 refine Gb kind (x.k0,x.k1,x.mask) ?_;dsimp only[Ad,bh,ao,nv,AP,zh,aE,uj,rC,my,iZ,wU];refine aQ λG b1 k1=>⟨_,vc b1 0,_,vc b1 1,_,vc b1 2,?_⟩
 refine TS (W:=W) (x:=x) (λy a=>aD (q y a) k1.size) m λB t i A=>?_
 have j:=k1.tr A;refine aQ λH w s=>co (c:=iM rL) (vs:=iM t) w rfl λf g k=>ag.2 ?_
 have b:Upd No h f:=(j.tr s).own k j.size;have D:TreeIs W f kind x t []:=((i.less (W':=λy=>W y\/y=B.size) λy a=>a.imp id λe=>Nat.le_of_eq e.symm).updM (s.wide.tr (k.mono λ_ e=>.inl (.inr e))) λy a=>.inl a).less λy a=>.inl (.inl a)
 have o:∀y,W y->y<f.size:=λy a=>aD (q y a) b.size
 have p:∀h' d gp gm tm bm nm,VaultAt (λy=>W y\/VS.M ⟨gp,gm,tm,bm,nm,kind,x,t,[],1,[],[],[]⟩ y) h' d ⟨gp,gm,tm,bm,nm,kind,x,t,[],1,[],[],[]⟩->f.size<=d->(∀y,VS.M ⟨gp,gm,tm,bm,nm,kind,x,t,[],1,[],[],[]⟩ y->f.size<=y)->Upd No f h'->K (some ⟨d,0,none⟩,0) h':=
  λh' d gp gm tm bm nm v hv hM F=>u h' d gp gm tm bm nm t v (aO b.size hv) (λy a=>aO b.size (hM y a)) (b.tr F)
 have n:NSt f B.size t f [] []:=⟨eM _ _,g,λ_ h=>(by cases h),λ_ h=>(by cases h)⟩
 refine⟨_,vc g 0,_,vc g 1,_,vc g 2,_,vc g 3,_,vc g 4,_,vc g 5,?_⟩;clear u b q g k j i A s w b1 k1;repeat' first
  |refine⟨n.rds,?_⟩
  |refine n.graph λ_ n z=>?_
  |refine n.map λ_ n z=>?_
  |refine n.put λ_ n E C=>?_
  |exact n.done o D m p E C a9 a6 a6 a6 a6 a9
  |refine And.intro ?_ ?_
end
section
open Go.Lift
variable {x:Hs}{b:Nat}{W W':dx}
theorem Ii{h:ad}{K:Int×Int×Int->dO}(e:∀h',Upd No h h'->K (x.k0,x.k1,x.mask) h'):adk 17 [.agg #[.int .u64 x.k0,.int .u64 x.k1,.int .u64 x.mask]] K h:=by
 refine dg (MH (x.k0,x.k1,x.mask)) .nil Tryz.func17 Tryz.call17 ?_;dsimp only[MH,ao,dE,AP,ge,adE,adF,iZ];refine aQ λi b1 k1=>aQ λg b2 d=>?_
 have c1:=d.get0 b1;refine⟨_,iq c1 0 0,_,iq c1 0 1,_,vc c1 2,?_⟩;refine co (c:= [.int .u64 0,.int .u64 0,.int .u64 0]) (vs:= [.int .u64 x.k0,.int .u64 x.k1,.int .u64 x.mask]) b2 rfl λf b a=>?_
 exact⟨_,vc b 0,_,vc b 1,_,vc b 2,e f ((k1.tr d).own a k1.size)⟩
theorem Yq(s:c6):s.extract 0 ((if 30<(s.size:Int)then 30 else(s.size:Int)).toNat)=Md s:=by
 unfold Md;rw[show((if 30<(s.size:Int)then(30:Int)else(s.size:Int)).toNat)=min s.size 30 from by split<;>omega]
theorem Yf{p:Pr}{h:ad}{K:c6×c6->dO}(e:∀h',Upd No h h'->K (ads p) h'):adi 83 [.agg #[.string p.1,.string p.2]] K h:=by
 refine dg (MI p) .nil Tryz.func83 Tryz.call83 ?_;dsimp only[MI,bo,dE,kF,mc,mH,fY,acf,r7,AO];refine aQ λi b1 k1=>aQ λg b2 d=>?_
 have c1:=d.get0 b1;refine⟨_,vc c1 0,_,vc c1 0,⟨cv,cv⟩,_,vc c1 1,_,vc c1 1,⟨cv,cv⟩,?_⟩
 refine co (c:= [.string ⟨#[]⟩,.string ⟨#[]⟩]) (vs:= [.string (p.1.extract 0 ((if 30<(p.1.size:Int)then 30 else(p.1.size:Int)).toNat)),.string (p.2.extract 0 ((if 30<(p.2.size:Int)then 30 else(p.2.size:Int)).toNat))]) b2 rfl λf b a=>?_
 rw[Yq,Yq]at b;exact⟨_,vc b 0,_,vc b 1,e f ((k1.tr d).own a k1.size)⟩
theorem _root_.Go.Lift.Upd.fresh{M:dx}{h b a:ad}(k:Upd No h b)(u:Upd M b a)(hM:∀y,M y->h.size<=y):Upd No h a:=k.trans u λy c=>.inr (hM y c)
abbrev Iw:c6:=⟨#[109,97,105,110]⟩
abbrev PA:c6:=⟨#[115,105,100,101]⟩
theorem Tb{h:ad}{K:Bool->dO}(hk:∀h',Upd No h h'->K true h'):gl 5 [] K h:=by
 refine dg GD QP Tryz.func5 Tryz.call5 ?_;dsimp only[GD,nv,acr,Kk,qD,uj,rC,rx,abq,WD,my,bh,ao,aE];refine TK (W:=No) (x:=⟨0,0,0⟩) (λ_ h=>h.elim) (.inr rfl) λh1 vp gp gm tm bm nm t v zv B k1=>?_
 refine eQ (ag.2 (ag.2 (BH v Iw 0 λh2 u2 L=>?_)))
 have e1:mF [] [] Iw 0 false=0:=a8
 simp only[e1,if_true]at L⊢;have k2:=k1.fresh u2 λy g=>B y (.inr (.inr (.inr (.inl g))))
 refine ag.2 (Lk L λh3 k3=>?_)
 have G:=L.upd0 k3;refine CN G.em G.g.lt cj a6 (⟨#[97]⟩,⟨#[]⟩) a8 a8 λh4 A i4 _ R=>?_
 refine aQ λh5 b5 k5=>co (c:=iM rL) (vs:=iM A) b5 rfl λh6 o z=>⟨_,vc o 0,_,vc o 1,_,vc o 2,_,vc o 3,_,vc o 4,_,vc o 5,?_⟩
 have D:Upd No h3 h6:=(R.tr k5).own z R.size;have v6:=G.upd0 D;have i6:=i4.upd0 (k5.own z (aj _));refine BI v6 Iw (hd:=0) rfl (d:=(A,[(⟨#[97]⟩,⟨#[]⟩)])) i6 (cB _ _) (λq C=>by rw[az.1 C];decide) λV u7 w=>?_
 have w:VaultAt _ V vp ⟨gp,gm,tm,bm,nm,1,⟨0,0,0⟩,t,[(1,[])],2,[(1,(A,[(⟨#[97]⟩,⟨#[]⟩)]))],[(Iw,1)],[]⟩:=w;have Y:=w.ts (1,(A,[(⟨#[97]⟩,⟨#[]⟩)])) (az.2 rfl);have u:=u7.get o λhm=>by have:=G.size hm;have:=R.size;omega
 have k7:Upd No h V:=((k2.tr k3).tr D).fresh u7 λy g=>B y g
 refine⟨_,vc u 0,_,vc u 1,_,vc u 2,_,vc u 3,_,vc u 4,_,vc u 5,?_⟩;refine CN Y.1 w.g.lt Y.2.1 a6 (⟨#[98]⟩,⟨#[]⟩) a8 a8 λh8 Q i8 _ N=>?_
 refine aQ λh9 b9 Z=>co (c:=iM rL) (vs:=iM Q) b9 rfl λI X k=>?_
 have j:Upd No V I:=(N.tr Z).own k N.size;have F:=w.upd0 j;have J:=i8.upd0 (Z.own k (aj _));refine eQ (ag.2 (ag.2 (BH F PA 1 λh11 s E=>?_)))
 have e2:mF [(Iw,1)] [(1,[])] PA 1 false=0:=a8
 simp only[e2,if_true]at E⊢;have f:=s.get X λe=>by have:=w.size (y:=bm) (.inr (.inr (.inr (.inl rfl))));have:=N.size;have e:h8.size=bm:=e;omega
 have T:=J.updM s λy g=>.inl (F.w y (.inr (.inr (.inr (.inl g)))))
 refine ag.2 ⟨_,vc f 0,_,vc f 1,_,vc f 2,_,vc f 3,_,vc f 4,_,vc f 5,?_⟩;refine BI E PA (hd:=1) rfl (d:=(Q,gQ (⟨#[98]⟩,⟨#[]⟩) [(⟨#[97]⟩,⟨#[]⟩)])) T (pF _ (cB _ _)) (λq C=>(uy C).elim (λe=>by rw[e];decide) λC=>by rw[az.1 C];decide) λS H i=>?_
 have i:VaultAt _ S vp ⟨gp,gm,tm,bm,nm,1,⟨0,0,0⟩,t,[(1,[]),(2,[1])],3,[(1,(A,[(⟨#[97]⟩,⟨#[]⟩)])),(2,(Q,gQ (⟨#[98]⟩,⟨#[]⟩) [(⟨#[97]⟩,⟨#[]⟩)]))],[(Iw,1),(PA,2)],[]⟩:=i;have P:UpG [(1,[]),(2,[1])] 2 1:=.step (p:=1) a8 a8 (.refl a8);have hn:¬((2:Int)=0\/UpG [(1,[]),(2,[1])] 1 2):=λhh=>hh.elim (λe=>by cases e) λe=>absurd (UpG.le i.inv.good e) a8
 refine BG i (n:=Iw) (m:=PA) (a:=1) (b:=2) rfl rfl (p:=0) (by rw[dZ];decide) (.inr (.inr P)) (λe=>absurd e hn) λ_ U O v13=>?_
 refine ay.2 (ay.2 (ay.2 (hk U ?_)));exact(((k7.tr j).fresh s λy g=>B y (.inr (.inr (.inr (.inl g))))).fresh H λy g=>B y g).fresh O λy g=>B y g
def sb(s:fD)(y:Nat):Prop:=s.cap≠0/\∃a,s.a=some a/\y=a.block
section
variable {α:Type} {f:α->c4} {sz:Nat} {ty:TypeId} {M:dx} {h:ad} {s so:fD} {xs out:List α}
theorem _root_.Go.Lift.OwnS.sub(o:OwnS f sz ty M h s xs):∀y,sb s y->M y/\y<h.size:=λy ⟨hc,a,e,c⟩=>by
 rcases o.blk with i|⟨b,d,hb,hm,g,_⟩
 .exact absurd i hc
 .rw[e]at hb
  cases hb;exact⟨c▸hm,c▸bB g⟩
theorem _root_.Go.Lift.OwnS.its(o:OwnS f sz ty M h s xs):OwnS f sz ty (sb s) h s xs:=by
 refine⟨o.len,o.ne,o.cap,?_⟩;by_cases hc:s.cap=0
 .exact .inl hc
 .rcases o.blk with e|⟨b,a,hb,hm,d,c⟩
  .exact absurd e hc
  .exact .inr ⟨b,a,hb,⟨hc,_,hb,rfl⟩,d,c⟩
theorem Xf{a:aT}{n:Nat}:∀y,¬sb ⟨a,n,0⟩ y:=λ_ h=>h.1 rfl
theorem _root_.Go.Lift.OwnS.one{x:α}(a:∀x,(f x).length=sz/\0<sz)(hb:h[b]? =some (.cells (f x).toArray ty (0,0))):OwnS f sz ty (sb ⟨some ⟨b,0,none⟩,1,1⟩) h ⟨some ⟨b,0,none⟩,1,1⟩ [x]:=
 ⟨rfl,a,aj _,.inr ⟨b,[],rfl,⟨a6,_,rfl,rfl⟩,by simpa using hb,a6⟩⟩
theorem aca{a:Nat}{z:c4}{t:α}{K:fD->dO}(i:OwnS f sz ty (sb so) h so out)(hb:h[b]? =some (.cells (f t).toArray ty (0,0))) (d:cH (f t)=true) (m:z.length=sz) (c:0<a/\a<=64) (k:out.length+1<=1000000)
  (n:∀s' h',OwnS f sz ty (sb s') h' s' (out++ [t])->Upd (sb so) h h'->(∀y,sb s' y->(sb so y\/h.size<=y)/\y<h'.size)->K s' h'):
  ∃xs,SRow h (some ⟨b,0,none⟩) (1*sz) xs/\AppP (some z) sz a ty so.a so.len so.cap 1 xs h K:=by
 refine⟨_,((OwnS.one i.ne hb).sl (W:=No) λ_ _ _ h=>h).srow,?_⟩
 refine AppP.own (M:=λy=>sb so y\/h.size<=y) (ys:= [t]) (i.more λy g=>.inl g) rfl rfl (by simpa using d) m c.1 ?_ (.inr (aj _)) λs' h' e j=>n s' h' e.its (j.mono λy g=>g) e.sub
 simp only[List.length_singleton];calc (out.length+1)*a<=1000000*64:=Nat.mul_le_mul k c.2
  _<=140737488355328:=a4
end
structure Sp where
 T:Nat->Prop
 Q:ad->Prop
 loc:∀{M:dx} {h h':ad},Q h->Upd M h h'->(∀y,T y->¬M y)->Q h'
section
variable {Ss:List Sp} {h h':ad} {M:dx} {s s':Sp} {i:Nat}
end
theorem GraphAt.re{M:dx}{h h':ad}{gp gm:Nat}{L:dA}{nx:Int}(g:GraphAt W h gp gm L nx)(k:Upd M h h')(hm:∀b,M b->(W b/\b≠gp/\b≠gm)\/h.size<=b)(f:∀b,W' b->(W b\/h.size<=b)/\b<h'.size)(c:W' gp)(a:W' gm):GraphAt W' h' gp gm L nx:=by
 have p:=g.upd k hm;obtain⟨m,d,o⟩:=g.map;refine⟨p.blk,⟨m,d.upd k λe=>(hm _ e).elim (λe=>e.2.2 rfl) λe=>absurd (g.lt _ g.wm) (Nat.not_lt.2 e),λj=>?_⟩,c,a,λb hb=>(f b hb).2,g.nd⟩
 rcases o j with⟨s,ps,c,a,n⟩|i
 .exact .inl ⟨s,ps,c,a,((n.less (W':=λb=>W b\/h.size<=b) λb hb=>hb).upd k λb hb=>.inl ((hm b hb).imp (·.1) id)).less λb hb=>.inl (f b hb).1⟩
 .exact .inr i
theorem TreeIs.re{M:dx}{h h':ad}{kind:Int}{t:Tr}{l:bY}(i:TreeIs W h kind x t l)(k:Upd M h h')(hm:∀b,M b->W b\/h.size<=b)(a:∀b,W' b->W b\/h.size<=b):TreeIs W' h' kind x t l:=
 ((i.less (W':=λb=>W b\/h.size<=b) λ_ hb=>hb).updM k λb hb=>.inl (hm b hb)).less λb hb=>.inl (a b hb)
theorem VaultAt.re{M:dx}{h h':ad}{i:Nat}{s:VS}(v:VaultAt W h i s)(k:Upd M h h')(hm:∀b,M b->(W b/\¬s.M b)\/h.size<=b)(j:∀b,W' b->(W b\/h.size<=b)/\b<h'.size)(hM:∀y,s.M y->W' y):VaultAt W' h' i s:=by
 have f:=v.upd k hm;have c:∀b,M b->W b\/h.size<=b:=λb hb=>(hm b hb).imp (·.1) id
 have a:∀b,W' b->W b\/h.size<=b:=λb hb=>(j b hb).1
 exact⟨f.blk,v.g.re k (λb hb=>(hm b hb).imp (λe=>⟨e.1,λg=>e.2 (.inl g),λg=>e.2 (.inr (.inl g))⟩) id) j (hM _ (.inl rfl)) (hM _ (.inr (.inl rfl))),f.t,f.b,f.n,hM,λhv=>(a _ hv).elim v.wv λe=>absurd (bB v.blk) a4,v.ne,v.em.re k c a,λd hd=>⟨(v.ts d hd).1.re k c a,(v.ts d hd).2⟩,v.sub,v.inv,v.kd⟩
section
variable {Ss:List Sp} {h h':ad} {vp:Nat} {s:VS} {p p':Sp} {i:Nat} {M:dx}
end
end
section
open Go.Lift
variable {k:c6}{l:bY}{x:Hs}{lev c m b:Nat}{W:dx}{h:ad}
def m9(k:c6)(l:bY):bY:=l.filter λq=>decide (q.1≠k)
theorem xw(k:c6)(q:Pr)(l:bY):m9 k (q::l)=if q.1=k then m9 k l else q::m9 k l:=by
 unfold m9;rw[List.filter_cons];by_cases h:q.1=k
 .rw[if_pos h,if_neg (by simpa using h)]
 .rw[if_neg h,if_pos (by simpa using h)]
theorem zQ(h:∀q∈l,q.1≠k):m9 k l=l:=db.2 λq a=>decide_eq_true (h q a)
theorem CL(h:cI l k=false):∀q∈l,q.1≠k:=λq a e=>by
 have:cI l k=true:=cq.2 ⟨q,a,decide_eq_true e⟩;rw[h]at this;cases this
theorem zy(h:∀q∈l,q.1≠k):cI l k=false:=by
 rcases ht:cI l k with _|_
 .rfl
 .obtain⟨q,a,e⟩:=cq.1 ht
  exact absurd (of_decide_eq_true e) (h q a)
theorem EK(a:bS l):bS (m9 k l):=a.sublist List.filter_sublist
theorem Hm{p:Pr}:p∈m9 k l↔p∈l/\p.1≠k:=by unfold m9;rw[List.mem_filter,decide_eq_true_iff]
theorem Yn:(m9 k l).length<=l.length:=List.length_filter_le ..
theorem UC{k:c6}:∀{l:bY},bS l->l.length<=(m9 k l).length+1
 | [],_=>aJ _
 |q::l,a=>by
  have a:=aC.1 a;rw[xw];by_cases h:q.1=k
  .rw[if_pos h,zQ λr hm e=>by have:=a.1 r hm;rw[h,e]at this;exact bX _ this];exact aj _
  .rw[if_neg h]
   have:=UC (k:=k) a.2;simp only[List.length_cons];omega
theorem UD(k:c6):∀{l:bY},bS l->V4 l k=m9 k l
 | [],_=>by simp[V4,m9,cI]
 |q::l,c=>by
  have j:=c;have c:=aC.1 c;have b:pos (q::l) k=if kl q.1 k then pos l k+1 else 0:=by
   unfold pos;rw[List.takeWhile_cons];by_cases h:kl q.1 k
   .rw[if_pos (by simpa using h),if_pos h];rfl
   .rw[if_neg (by simpa using h),if_neg h];rfl
  have d:cI (q::l) k=(decide (q.1=k)||cI l k):=by unfold cI;rw[rG]
  by_cases h:kl q.1 k
  .have f:q.1≠k:=λe=>by rw[e]at h;exact bX _ h
   rw[xw,if_neg f,<-UD k c.2];unfold V4;rw[d,b,if_pos h,decide_eq_false f,Bool.false_or];by_cases ht:cI l k=true
   .rw[if_pos ht,if_pos ht];rfl
   .rw[if_neg ht,if_neg ht]
  .by_cases e:q.1=k
   .have a:∀r∈l,r.1≠k:=λr hm g=>by have:=c.1 r hm;rw[e,g]at this;exact bX _ this
    rw[xw,if_pos e,zQ a];unfold V4;rw[d,b,if_neg h,decide_eq_true e,Bool.true_or,if_pos rfl];rfl
   .have i:=mf h e
    have a:∀r∈q::l,r.1≠k:=λr hm g=>by
     rcases aw.1 hm with rfl|hm
     .exact e g
     .have:=c.1 r hm
      rw[g]at this;exact bX _ (dX i this)
    rw[zQ a];unfold V4;rw[zy a];rfl
theorem Ps:part x lev c (m9 k l)=m9 k (part x lev c l):=by
 unfold part m9;rw[jI,jI];exact List.filter_congr λp _=>Bool.and_comm ..
theorem VB(h:c≠ck x lev k):part x lev c (m9 k l)=part x lev c l:=by
 rw[Ps];exact zQ λq a e=>h (by rw[<-e];exact(mV.1 a).2.symm)
theorem Rc{h':ad}{b':Nat}{s s':Slots}(b:Upd No h h')(nd:NodeAt W h' b' s')(f:∀c,c<32->SlotIs W x h m s c (part x (12-m) c l))
  (d:∀c,c≠ck x (12-m) k->s'.p c=s.p c/\s'.k c=s.k c)(hi:SlotIs W x h' m s' (ck x (12-m) k) (m9 k (part x (12-m) (ck x (12-m) k) l))):TrieAt W x h' (m+1) b' (m9 k l):=by
 refine⟨s',nd,λc hc=>?_⟩
 by_cases e:ck x (12-m) k=c
 .rw[Ps];subst e;exact hi
 .rw[VB λh=>e h.symm]
  have t:=SlotIs.upd0 b (f c hc);obtain⟨g,a⟩:=d c λh=>e h.symm
  unfold SlotIs at t;rw[<-g,<-a]at t;exact t
theorem UA{β:Type}(g:Nat->Option β):∀n,(fm g n).length=((List.range n).map λc=>(g c).toList.length).sum
 |0=>rfl
 |n+1=>by
  rw[jN,ae,UA g n,List.range_succ,List.map_append,List.sum_append];simp
theorem O1(h:∀c,c<32->(part x lev c l).length<=1):(iV x lev l).length=l.length:=by
 unfold iV;rw[UA];have e:=xq x lev l 32;have d:(l.filter λp=>decide (ck x lev p.1<32))=l:=db.2 λp _=>decide_eq_true (zS x lev p.1)
 rw[d]at e;rw[<-e];refine congrArg List.sum (List.map_congr_left λc hc=>?_)
 have:=h c (fW.1 hc);match hp:part x lev c l with
 | []=>rfl
 | [p]=>rfl
 |a::b::r=>rw[hp]at this;simp at this
theorem Rd(t:TrieAt W x h m b l)(C:l.length<=1000000):
  ∃d n sp sk bu ow lp lk,h[b]? =some (.cells (eZ d n sp sk bu ow) 324 (0,0))/\Sl dT 2 W h sp lp/\Sl qO 1 W h sk lk/\lp.length<=1000000/\lk.length<=32/\(lp.length+lk.length=1/\n=0↔l.length=1)/\∀p,l= [p]->lp= [p]:=by
 cases m with
 |zero=>
  obtain⟨sp,sk,ow,hb,a,f,_⟩:=BuckAt.ex t;exact⟨0,0,sp,sk,true,ow,l,[],hb,a,f,C,a6,a6,λp e=>e⟩
 |succ m=>
  obtain⟨s,nd,o⟩:=t;have o:∀c,c<32->SlotIs W x h m s c (part x (12-m) c l):=o;obtain⟨d,n,sp,sk,ow,hb,bits,a,f,_⟩:=nd.ex;have k:=Hf o;have B:=zI (g:=s.p);refine⟨d,n,sp,sk,false,ow,_,_,hb,a,f,a4,zI,?_,?_⟩
  .by_cases u:∀c,c<32->s.k c=none
   .have A:n=0:=Nat.eq_of_testBit_eq λc=>by
     rw[oc];by_cases hc:c<32
     .rw[bits.nk c hc,u c hc];rfl
     .exact Nat.testBit_lt_two_pow (aD bits.n32 (Nat.pow_le_pow_right (n:=2) a4 (by omega:32<=c)))
    have ek:fm s.k 32= []:=by
     unfold fm;rw[List.filterMap_eq_nil_iff];exactλc hc=>u c (fW.1 hc)
    have v:(fm s.p 32).length=l.length:=by
     rw[k];refine O1 λc hc=>?_
     rcases o c hc with⟨j,_⟩|⟨p,j,_⟩|⟨_,_,D,w,_⟩
     .rw[j];simp
     .rw[j];simp
     .rw[u c hc]at w;cases w
    rw[ek,v,A];simp
   .obtain⟨c,hc⟩:=Classical.not_forall.1 u
    obtain⟨hc,i⟩:=Classical.not_imp.1 hc;have z:n≠0:=λA=>by
     have:=bits.nk c hc;rw[A,oc]at this;cases hkk:s.k c with
     |none=>exact i hkk
     |some y=>rw[hkk]at this;cases this
    rcases o c hc with⟨_,_,j⟩|⟨p,_,_,j⟩|⟨w,_⟩
    .exact absurd j i
    .exact absurd j i
    .have:=jw (x:=x) (lev:=12-m) (c:=c) (l:=l)
     constructor
     .rintro⟨_,e⟩;exact absurd e z
     .intro e;omega
  .rintro p rfl
   rw[k];have hc:=zS x (12-m) p.1;have v:(iV x (12-m) [p]).length=1:=O1 λc _=>aO jw a6
   match hq:iV x (12-m) [p],v with
   | [q],_=>
    have:q∈iV x (12-m) [p]:=by rw[hq];exact az.2 rfl
    rw[az.1 (qP this)]
theorem aaa{d n:Nat}{sp sk:fD}{a:Bool}{ow:aT}(hb:h[b]? =some (.cells (eZ d n sp sk a ow) 324 (0,0))) (f:sp.len+sk.len<=1000000000) {K:Int->dO} (c:K ((sp.len+sk.len:Nat):Int) h):fK 217 [gZ b] K h:=by
 refine yS _ ?_;dsimp only[sR,bR,cJ,zd];refine ag.2 ⟨_,rfl,sp,eN (i:=2) hb,_,rfl,sk,eN (i:=3) hb,?_⟩;have e:ac .i64 ((sp.len:Int)+(sk.len:Int))=((sp.len+sk.len:Nat):Int):=by rw[dI a4];omega
 rw[e];exact c
theorem YS(t:TrieAt W x h m b l)(E:l.length<=1000000){K:Pr×Bool->dO}
  (u:∀h' p,Upd No h h'->(l.length=1->l= [p])->K (p,decide (l.length=1)) h'):IQ 265 [gZ b] K h:=by
 refine K3 _ ?_;dsimp only[BB,cM,dE,kF,mc,mH,bo,wV,fj];refine aQ λF b1 k1=>?_
 have G:=TrieAt.upd0 k1 t;obtain⟨d,n,sp,sk,O,ow,L,lk,hb,q,v,D,C,f,c⟩:=Rd G E;have N:=q.len;have P:=v.len;refine eF (λt h'=>t= !decide (l.length=1)/\h'=F) (λR B=>?_) ?_
 .refine aaa hb a4 ?_
  by_cases e:sp.len+sk.len=1
  .have z:((sp.len+sk.len:Nat):Int)=1:=by omega
   rw[z];refine ag.2 (Iq hb (B _ _ ⟨?_,rfl⟩));by_cases A:n=0
   .rw[decide_eq_true (f.1 ⟨a4,A⟩),A];rfl
   .rw[decide_eq_false λh=>A (f.2 h).2]
    exact bne_iff_ne.2 a4
  .have z:(((sp.len+sk.len:Nat):Int) !=(1:Int))=true:=bne_iff_ne.2 a4
   rw[z];refine ay.2 (B _ _ ⟨?_,rfl⟩);rw[decide_eq_false λh=>e (by have:=(f.2 h).1;omega)];rfl
 .rintro _ h' ⟨rfl,rfl⟩
  have k:h'[h.size]? =some (.cells #[.string QU.1,.string QU.2] 33 (0,0)):=b1;by_cases e:l.length=1
  .rw[decide_eq_true e]
   refine ag.2 ?_;refine p9 hb q a4 λJ I o j=>?_
   match l,e,c with
   | [p],e,c=>
    have y:=c p rfl;subst y;have s:=o.len;obtain⟨a,H,_,hv⟩:=(o.sl (W:=No) λ_ _ _ h=>h).at (i:=0) (x:=p) rfl
    refine⟨⟨a4,by simp at s;omega⟩,a,H,p.1,hv 0 _ rfl,p.2,hv 1 _ rfl,?_⟩
    refine FP (p:=p) (j.get0 k) λw b3 g=>⟨_,vc b3 0,_,vc b3 1,?_⟩
    have:=u w p ((k1.tr j).own g (aj _)) λ_=>rfl
    exact this
  .have:=u
   rw[decide_eq_false e];rw[decide_eq_false e]at u;refine ay.2 (FP (p:=QU) k λw b3 g=>⟨_,vc b3 0,_,vc b3 1,?_⟩)
   exact u w _ (k1.own g (aj _)) λh=>absurd h e
theorem Pv{s:fD}(f:Sl dT 2 No h s l)(hc:s.len<=s.cap)(t:bS l)(B:l.length<=1000000000)(k:c6)
  {K:fD->dO}(n:∀s' h',OwnS dT 2 33 (λb=>h.size<=b) h' s' (m9 k l)->Upd No h h'->K s' h'):ce 302 [.slice s.a s.len s.cap,.string k] K h:=by
 refine dg (Gz s k) .nil Tryz.func302 Tryz.call302 ?_;dsimp only[Gz,kG,nW,nV,G3];have c:=f.len;refine NK f t B k λo a=>?_
 have E:=Xx l k;cases ht:cI l k with
 |false=>
  refine ay.2 (xz (f.upd a λ_ h=>h.elim) a4 λJ H u w=>?_)
  rw[zQ (CL ht)]at n;exact n _ _ (u.more λb hb=>aO a.size hb) (a.tr w)
 |true=>
  obtain⟨D,_⟩:=Nl t ht;have C:ac .i64 ((pos l k:Int)+1)=((pos l k+1:Nat):Int):=by rw[dI a4];omega
  refine ag.2 ?_;(try simp only)
  rw[C];refine⟨a4,a4,?_⟩
  simp only[Bd,aY];refine bL ?_;have e:=f.upd a λ_ h=>h.elim
  have q:=e9 No o [.slice (bj s.a 0 s.cap 2) (pos l k-0) (s.cap-0),.slice (bj s.a (pos l k+1) s.cap 2) (s.len-(pos l k+1)) (s.cap-(pos l k+1))] 256;have A:=cf o [.slice (bj s.a 0 s.cap 2) (pos l k-0) (s.cap-0),.slice (bj s.a (pos l k+1) s.cap 2) (s.len-(pos l k+1)) (s.cap-(pos l k+1))] 256;have y:=M6 e (i:=0) (j:=pos l k) (m:=s.cap) (aJ _) E a4 (s.cap-0)
  have p:=M6 e (i:=pos l k+1) (j:=l.length) (m:=s.cap) a4 (aj _) a4 (s.cap-(pos l k+1));rw[<-c]at p;rw[List.drop_zero]at y;rw[List.take_of_length_le (by rw[ba];omega)]at p;have F:m9 k l= [l.take (pos l k-0),l.drop (pos l k+1)].flatten:=by rw[<-UD k t];unfold V4;rw[if_pos ht];simp
  refine Me (s:=⟨some (aR o),2,2⟩) (vs:= [⟨bj s.a 0 s.cap 2,pos l k-0,s.cap-0⟩,⟨bj s.a (pos l k+1) s.cap 2,s.len-(pos l k+1),s.cap-(pos l k+1)⟩]) (ls:= [l.take (pos l k-0),l.drop (pos l k+1)])
   ⟨rfl,λx=>⟨rfl,wF⟩,λ_=>⟨_,rfl,λh=>h.elim,p5 A λi v hv=>by simpa[adS]using hv⟩⟩ ⟨y.upd q λ_ h=>h.elim,p.upd q λ_ h=>h.elim,trivial⟩ ?_ a6 λG I d g=>?_
  .simp only[List.flatten_cons,List.flatten_nil,ae,aV,ba,List.length_nil];omega
  .rw[<-F]at d
   have z:=a.tr q;exact n _ _ (d.more λb hb=>aO z.size hb) (z.tr g)
theorem YJ(o:BuckAt W h b l)(m:∀x,W x->x<h.size)(B:bS l)(q:l.length<=1000000000)(k:c6){K:aT->dO}
  (y:∀h' b',BuckAt W h' b' (m9 k l)->Upd No h h'->K (some ⟨b',0,none⟩) h'):
  fu 264 [gZ b,.pointer none,.string k] K h:=by
 refine Fj _ none k ?_;dsimp only[xV,yK,kG,cJ,ix,dd,zd,bR];obtain⟨sp,sk,ow,hb,E,v,C,w⟩:=o.ex;refine gI hb (ag.2 ?_);refine Ue o q λG A s b2 t p d=>?_
 refine⟨_,rfl,A,eN (i:=2) b2,?_⟩;refine Pv (t.sl λ_ _ _ h=>h) t.cap B q k λu F g c=>?_
 have b3:=c.get0 b2;refine⟨_,rfl,Zh (i:=2) b3 (show 2<6 by decide),KF (i:=2) (c':=eZ 0 0 u s true none) b3 rfl λD z a=>?_⟩
 have H:=bB b2;have j:=g.upd a λx hx e=>by have e:x=h.size:=e;omega
 have n:=(p.upd c λ_ _ h=>h).upd a λx hx e=>by have e:x=h.size:=e;omega
 refine y D h.size ⟨⟨u,s,none,z,j.sl λx hx _ f=>?_,n.sl λx hx _ f=>?_,g.cap,p.cap⟩,λf=>?_⟩ ((d.tr c).trans a λx hx=>.inr ?_)
 .have:=m x f;have:=d.size;omega
 .have:=m x f;omega
 .have:=m _ f;omega
 .have hx:x=h.size:=hx
  omega
theorem Qg:∀(m:Nat),m<=13->∀{b:Nat} {l:bY} (k:c6) {h:ad},TrieAt W x h m b l->(∀y,W y->y<h.size)->bS l->l.length<=1000000->∀{K:aT×Bool->dO},
  (∀h' b',Upd No h h'->TrieAt W x h' m b' (m9 k l)->(cI l k=false->b'=b)->K (some ⟨b',0,none⟩,cI l k) h')->
  uC 193 [WN x k,gZ b,.int .i64 ((13-m:Nat):Int)] K h:=by
 intro m;induction m with
 |zero=>
  intro _ b l k h t hW hr hn K z;have R:∀{h'},Upd No h h'->∀y,W y->y<h'.size:=λk y P=>aD (hW y P) k.size
  refine vM (x.k0,x.k1,x.mask,none,k,jg x k) (some ⟨b,0,none⟩) ((13-0:Nat):Int) ?_;dsimp only[qh,ao,bo,nv,aE,qD,pW,AO,mc,jV,BF,Ku,MR,Nm,pY,HN,GY,iZ,fY,DJ,mH];refine aQ λu b1 k1=>?_
  have bk:BuckAt W u b l:=BuckAt.upd t k1 λ_ h=>h.elim
  obtain⟨sp,sk,ow,hb,_⟩:=bk.ex;refine gI hb (ay.2 ⟨_,vc b1 4,abi bk hr a4 k λL v j hv=>?_⟩)
  have b3:=j.get0 b1;cases ht:cI l k with
  |false=>
   rw[ht]at z;exact ay.2 (z L b (k1.tr j) (by rw[zQ (CL ht)];exact bk.upd j λ_ h=>h.elim) λ_=>rfl)
  |true=>
   rw[ht]at z;refine ag.2 ⟨none,vc b3 3,_,vc b3 4,?_⟩;refine YJ (bk.upd j λ_ h=>h.elim) (R (k1.tr j)) hr a4 k λh5 b5 bk5 I=>?_
   exact z h5 b5 ((k1.tr j).tr I) bk5 λh=>by cases h
 |succ m ih=>
  intro hm b l k h t hW hr hn K z;have R:∀{h'},Upd No h h'->∀y,W y->y<h'.size:=λk y P=>aD (hW y P) k.size
  have hl:13-(m+1)<13:=a4
  have Y:13-(m+1)=12-m:=a4
  refine vM (x.k0,x.k1,x.mask,none,k,jg x k) (some ⟨b,0,none⟩) ((13-(m+1):Nat):Int) ?_;dsimp only[qh,ao,bo,nv,aE,qD,pW,AO,mc,jV,BF,Ku,MR,Nm,pY,HN,GY,iZ,fY,DJ,mH];refine aQ λu b1 k1=>?_
  have t1:=TrieAt.upd0 k1 t;obtain⟨s,D,hs⟩:=t1;have hs:∀c,c<32->SlotIs W x u m s c (part x (12-m) c l):=hs;obtain⟨d,n,sp,sk,ow,hb,_⟩:=D.ex;refine gI hb (ag.2 ⟨_,vc b1 5,Yy hl ?_⟩);rw[Y];have hi:=zS x (12-m) k;have J:=hs _ hi;have F:cI (part x (12-m) (ck x (12-m) k) l) k=cI l k:=HR;have Z:bS (part x (12-m) (ck x (12-m) k) l):=jv hr;have S:(part x (12-m) (ck x (12-m) k) l).length<=1000000:=aO jw hn
  have w:∀{h':ad} {b':Nat} {s':Slots},Upd No u h'->NodeAt W h' b' s'->(∀c,c≠ck x (12-m) k->s'.p c=s.p c/\s'.k c=s.k c)->SlotIs W x h' m s' (ck x (12-m) k) (m9 k (part x (12-m) (ck x (12-m) k) l))->TrieAt W x h' (m+1) b' (m9 k l):=λQ nd hp hi=>Rc Q nd hs hp hi
  have tt:∀{h':ad},Upd No u h'->TrieAt W x h' (m+1) b l:=λQ=>TrieAt.upd0 (k1.tr Q) t
  generalize hc:ck x (12-m) k=c at*;generalize hlc:part x (12-m) c l=lc at*;refine Da D hi λL j=>?_
  refine aQ λh4 b4 k4=>?_
  have b4':h4[L.size]? =some (.cells #[.string QU.1,.string QU.2] 33 (0,0)):=b4;refine FP (p:=E0 (s.p c)) b4' λh5 b5 I=>?_
  have a:Upd No u h5:=(j.tr k4).own I j.size;have c1:=a.get0 b1;have X:=D.upd a λ_ h=>h.elim
  have same:∀{h':ad},Upd No u h'->cI l k=false->K (some ⟨b,0,none⟩,false) h':=λQ ht=>by
   have:=z _ b (k1.tr Q) (by rw[zQ (CL ht)];exact tt Q) λ_=>rfl
   rw[ht]at this;exact this
  cases hsp:s.p c with
  |some y=>
   rw[hsp]at b5;obtain⟨B,hk0⟩:lc= [y]/\s.k c=none:=by
    rcases J with⟨_,g,_⟩|⟨q,u,g,L⟩|⟨_,g,_⟩
    .rw[hsp]at g;cases g
    .rw[hsp]at g;cases g;exact⟨u,L⟩
    .rw[hsp]at g;cases g
   refine ay.2 ⟨y.1,vc b5 0,k,vc c1 4,?_⟩;rw[dZ];by_cases V:y.1=k
   .have ht:cI l k=true:=by rw[<-F,B];exact cq.2 ⟨y,az.2 rfl,decide_eq_true V⟩
    rw[decide_eq_true V];rw[ht]at z;refine ag.2 ⟨none,vc c1 3,Yx X (R (k1.tr a)) hi λh6 b6 nd6 E=>?_⟩
    refine z h6 b6 ((k1.tr a).tr E) (w (a.tr E) nd6 (λc' o=>⟨hE o,hE o⟩) ?_) λh=>by cases h
    refine .inl ⟨?_,is,is⟩;rw[B,xw,if_pos V];rfl
   .rw[decide_eq_false V]
    have ht:cI l k=false:=by
     rw[<-F,B];unfold cI;rw[rG,decide_eq_false V];rfl
    exact ay.2 (same a ht)
  |none=>
   refine ag.2 (yq X hi ?_);cases hsk:s.k c with
   |none=>
    have T:lc= []:=by
     rcases J with⟨u,_⟩|⟨q,_,g,_⟩|⟨_,_,O,g,_⟩
     .exact u
     .rw[hsp]at g;cases g
     .rw[hsk]at g;cases g
    exact ay.2 (same a (by rw[<-F,T];rfl))
   |some kp=>
    obtain⟨h2l,O,rfl,tk⟩:2<=lc.length/\∃O,kp=some ⟨O,0,none⟩/\TrieAt W x u m O lc:=by
     rcases J with⟨_,_,g⟩|⟨q,_,g,_⟩|⟨u,_,O,g,L⟩
     .rw[hsk]at g;cases g
     .rw[hsp]at g;cases g
     .rw[hsk]at g;cases g;exact⟨u,O,rfl,L⟩
    refine ag.2 ⟨_,vc c1 0,_,vc c1 1,_,vc c1 2,_,vc c1 3,_,vc c1 4,_,vc c1 5,?_⟩;have ew:ac .i64 (((12-m:Nat):Int)+1)=((13-m:Nat):Int):=by rw[dI a4];omega
    rw[ew];refine ih a4 k (TrieAt.upd0 a tk) (R (k1.tr a)) Z S λh6 b6 E t6 hsame=>?_
    have A:=a.tr E;rw[F];cases ht:cI l k with
    |false=>exact ay.2 (same A ht)
    |true=>
     rw[ht]at z;have hdl:=UC (k:=k) Z;have hdn:(m9 k lc).length<=1000000:=aO Yn S;refine ag.2 (YS t6 hdn λh7 p G hp=>?_)
     refine aQ λh8 b8 k8=>?_
     have b8':h8[h7.size]? =some (.cells #[.string QU.1,.string QU.2] 33 (0,0)):=b8;refine FP (p:=p) b8' λh9 b9 hu9=>?_
     have f:Upd No u h9:=((A.tr G).tr k8).own hu9 (A.tr G).size;have c9:=f.get0 b1;have U:=D.upd f λ_ h=>h.elim
     refine ar (λe=>?_) λe=>?_
     .refine⟨none,vc c9 3,p.1,vc b9 0,p.2,vc b9 1,un U (R (k1.tr f)) hi (λy P=>by rw[hsp]at P;cases P) p λH N C i=>?_⟩
      refine z H N ((k1.tr f).tr i) (w (f.tr i) C (λc' o=>⟨hE o,hE o⟩) ?_) λh=>by cases h
      exact .inr (.inl ⟨p,hp e,is,is⟩)
     .refine⟨none,vc c9 3,Ar U (R (k1.tr f)) hi (λ_ _=>hsp) ⟨b6,0,none⟩ λH N C i=>?_⟩
      refine z H N ((k1.tr f).tr i) (w (f.tr i) C (λc' o=>⟨hE o,hE o⟩) ?_) λh=>by cases h
      exact .inr (.inr ⟨a4,is,b6,is,TrieAt.upd0 ((G.tr k8).own hu9 G.size|>.tr i) t6⟩)
theorem NV(t:TrieAt W x h 13 b l)(o:∀y,W y->y<h.size)(v:bS l)(s:l.length<=1000000)(k:c6){K:aT×Bool->dO}
  (q:∀h' b',Upd No h h'->TrieAt W x h' 13 b' (m9 k l)->(cI l k=false->b'=b)->K (some ⟨b',0,none⟩,cI l k) h'):
  uC 134 [.agg #[.int .u64 x.k0,.int .u64 x.k1,.int .u64 x.mask],.pointer none,gZ b,.string k] K h:=by
 refine dg (Eg (x.k0,x.k1,x.mask) none (some ⟨b,0,none⟩) k) Oo Tryz.func134 Tryz.call134 ?_;dsimp only[Eg,ao,AP,zh,BF,iZ];refine aQ λC b1 k1=>?_
 refine M5 (.inr ⟨b,rfl,TrieAt.upd0 k1 t⟩) (λy i=>aD (o y i) k1.size) λB b2 u f n=>?_
 have c:=f.get0 b1;refine⟨_,vc c 0,_,vc c 1,_,vc c 2,_,vc c 0,_,vc c 1,_,vc c 2,?_⟩;refine Dk λA d=>?_
 have g:=d.get0 c;refine⟨⟨vc g 0,vc g 1,vc g 2⟩,?_⟩;have a:=(k1.tr f).tr d;refine Qg 13 (aj _) k (TrieAt.upd0 d u) (λy i=>aD (o y i) a.size) v s λz p j w m=>?_
 refine q z p (a.tr j) w λht=>?_
 rw[m ht];rcases n with e|e
 .cases e;rfl
 .cases e
end
section
variable {k lab:c5}{w:Option c6}{F F':Fo}{i:Nat}
def wE(P a:c5->c6->Prop)(k:c5):Prop:=∀k' v',a k' v'↔k'≠k/\P k' v'
theorem SU{P:c5->c6->Prop}(h:∀v,¬P k v):wE P P k:=λ_ b=>⟨λa=>⟨λe=>h b (e▸a),a⟩,λh=>h.2⟩
theorem SS(h:fq F):wE (sE w F) (sE none F) []:=by
 intro k' a;unfold sE;constructor
 .rintro(⟨_,f⟩|hi)
  .cases f
  .exact⟨pu h hi,.inr hi⟩
 .rintro⟨e,⟨f,_⟩|hi⟩
  .exact absurd f e
  .exact .inr hi
theorem I0(c:k≠[])(h:wE (qC F) (qC F') k):wE (sE w F) (sE w F') k:=by
 intro k' a;unfold sE;rw[h k' a];constructor
 .rintro(⟨e,f⟩|hi)
  .exact⟨λb=>c (b.symm.trans e),.inl ⟨e,f⟩⟩
  .exact⟨hi.1,.inr hi.2⟩
 .rintro⟨e,hi|hi⟩
  .exact .inl hi
  .exact .inr ⟨e,hi⟩
theorem SV{r:c5}{d:Option c6}(h:wE (sE w F) (sE d F') r):wE (vr (lab,w,F)) (vr (lab,d,F')) (lab++r):=by
 intro k' f;constructor
 .rintro⟨s,e,c⟩
  obtain⟨b,g⟩:=(h s f).1 c;exact⟨λa=>b (eo (e.symm.trans a)),s,e,g⟩
 .rintro⟨b,s,e,c⟩
  exact⟨s,e,(h s f).2 ⟨λa=>b (by rw[e,a]),c⟩⟩
theorem V0{m:Bn}(h:fq F)(hi:i<F.toL.length)(ek:hd F.toL[i].1=hd k)(g:wE (vr F.toL[i]) (vr m) k):wE (qC F) (qC (.ofL (F.toL.set i m))) k:=by
 intro k' f;have hc:=dY.1 h;rw[fF,fF,Fo.to_of];constructor
 .rintro⟨n,a,b⟩
  rcases(mU hi (yo h hi)).1 a with rfl|⟨a,d⟩
  .obtain⟨c,o⟩:=(g k' f).1 b
   exact⟨c,_,aF hi,o⟩
  .refine⟨λe=>d ?_,n,a,b⟩
   obtain⟨r,j,_⟩:=b;refine yv h a (aF hi) ?_;rw[ek,<-e,j,oq (hc.2 n a).1]
 .rintro⟨c,n,a,b⟩
  by_cases e:n=F.toL[i]
  .exact⟨m,(mU hi (yo h hi)).2 (.inl rfl),(g k' f).2 ⟨c,by rw[<-e];exact b⟩⟩
  .exact⟨n,(mU hi (yo h hi)).2 (.inr ⟨a,e⟩),b⟩
theorem FZ{α:Type}{l:List α}(hi:i<l.length){x:α}(nd:∀j (a:j<l.length),j≠i->l[j]≠l[i]):x∈l.take i++l.drop (i+1)↔x∈l/\x≠l[i]:=by
 constructor
 .intro h
  rcases aN.1 h with h|h
  .obtain⟨j,a,e⟩:=bH h
   rw[aV]at a;rw[mD]at e;exact⟨List.mem_of_mem_take h,by rw[<-e];exact nd j a4 a4⟩
  .obtain⟨j,a,e⟩:=bH h
   rw[ba]at a;rw[qt]at e;exact⟨List.mem_of_mem_drop h,by rw[<-e];exact nd (i+1+j) a4 a4⟩
 .rintro⟨h,c⟩
  obtain⟨j,a,e⟩:=bH h;rcases Nat.lt_trichotomy j i with b|b|b
  .exact aN.2 (.inl (oA (i:=j) (h:=by rw[aV];omega) (by rw[mD];exact e)))
  .subst b;exact absurd e.symm c
  .refine aN.2 (.inr (oA (i:=j-(i+1)) (h:=by rw[ba];omega) ?_))
   rw[qt];have:i+1+(j-(i+1))=j:=a4
   simp only[this];exact e
theorem aaF(h:fq F):fq (.ofL (F.toL.take i++F.toL.drop (i+1))):=by
 have hc:=dY.1 h;rw[dY,Fo.to_of];have a:(F.toL.take i++F.toL.drop (i+1)).Sublist F.toL:=by rw[<-List.eraseIdx_eq_take_drop_succ];exact List.eraseIdx_sublist ..
 exact⟨hc.1.sublist a,λn b=>hc.2 n (a.subset b)⟩
theorem V3(h:fq F)(hi:i<F.toL.length)(ek:hd F.toL[i].1=hd k)(g:∀k' c,vr F.toL[i] k' c->k'=k):wE (qC F) (qC (.ofL (F.toL.take i++F.toL.drop (i+1)))) k:=by
 intro k' c;have hc:=dY.1 h;rw[fF,fF,Fo.to_of];constructor
 .rintro⟨n,a,b⟩
  obtain⟨a,d⟩:=(FZ hi (yo h hi)).1 a;refine⟨λe=>d ?_,n,a,b⟩
  obtain⟨r,f,_⟩:=b;refine yv h a (aF hi) ?_;rw[ek,<-e,f,oq (hc.2 n a).1]
 .rintro⟨j,n,a,b⟩
  by_cases e:n=F.toL[i]
  .exact absurd (g k' c (by rw[<-e];exact b)) j
  .exact⟨n,(FZ hi (yo h hi)).2 ⟨a,e⟩,b⟩
def aaZ(n:Bn)(o:Option Bn):Prop:=(o=none/\∀k v,¬vr n k v)\/∃m,o=some m/\QB m/\hd m.1=hd n.1/\∀k v,vr m k v↔vr n k v
theorem VG(a:lab≠[])(hc:fq F)(h:w.isSome\/2<=F.toL.length):aaZ (lab,w,F) (some (lab,w,F)):=.inr ⟨_,rfl,⟨a,h,hc⟩,rfl,λ_ _=>ug⟩
theorem VH(h:F.toL= []):aaZ (lab,none,F) none:=by
 refine .inl ⟨rfl,λk v hi=>?_⟩
 obtain⟨r,_,⟨_,h'⟩|h'⟩:=hi
 .cases h'
 .obtain⟨n,a,_⟩:=fF.1 h'
  simp only at a;rw[h]at a;cases a
theorem XG{lk:c5}{a:Option c6}{Fk:Fo}(b:lab≠[])(hc:fq F)(h:F.toL= [(lk,a,Fk)]):aaZ (lab,none,F) (some (lab++lk,a,Fk)):=by
 have d:F=.cons lk a Fk .nil:=by
  rw[<-Fo.of_to F,h];rfl
 have c:=(dY.1 hc).2 (lk,a,Fk) (by rw[h];exact az.2 rfl);refine .inr ⟨_,rfl,⟨λe=>b (List.append_eq_nil_iff.1 e).1,c.2.1,c.2.2⟩,oq b,λk v=>?_⟩
 have:=LX (lab:=lab++lk) (w:=a) (F:=Fk) lab.length k v;rw[List.take_left,gD]at this;rw[d];exact this.symm
end
section
open Go.Lift
variable {a b:c6}{h:ad}{W:dx}
theorem kP(s:c6):s.data.toList.length=s.size:=a6
theorem YN(a b:c6):(a++b).data.toList=a.data.toList++b.data.toList:=by rw[ByteArray.data_append,Array.toList_append]
theorem Vy{K:Bool->dO}(c:K (decide (b.data.toList<+:a.data.toList)) h):gl 301 [.string a,.string b] K h:=by
 refine dg (Bp a b) .nil Tryz.func301 Tryz.call301 ?_;unfold Bp kF;refine dg (xP a b) .nil Tryz.func317 Tryz.call317 ?_;unfold xP kF;refine dg (lu a b) .nil Tryz.func327 Tryz.call327 ?_;unfold lu;have j:=kP a;have f:=kP b;refine ar (λg=>?_) λd=>?_
 .refine⟨⟨a4,a4⟩,?_⟩
  rw[dZ,aY];have e:decide (a.extract 0 b.size=b)=decide (b.data.toList<+:a.data.toList):=by
   rw[decide_eq_decide,<-qS,Dr,List.prefix_iff_eq_take,f];exact eq_comm
  rw[e];exact c
 .have e:decide (b.data.toList<+:a.data.toList)=false:=decide_eq_false λi=>by
   have:=i.length_le;omega
  rw[e]at c;exact c
theorem Yp{K:c6×Bool->dO}(g:∀s:c6,a.data.toList=b.data.toList++s.data.toList->K (s,true) h)(d:(∀r,a.data.toList≠b.data.toList++r)->K (⟨#[]⟩,false) h):sJ 261 [.string a,.string b] K h:=by
 refine dg (JG a b) .nil Tryz.func261 Tryz.call261 ?_;unfold JG kF;refine Vy ?_;have j:=kP a;have f:=kP b;by_cases c:b.data.toList<+:a.data.toList
 .rw[decide_eq_true c]
  have i:=c.length_le;refine ag.2 ⟨⟨a4,a4⟩,?_⟩
  rw[aY];refine g _ ?_;rw[Dt];obtain⟨r,e⟩:=c;rw[<-e,<-f,gD]
 .rw[decide_eq_false c]
  exact ay.2 (d λr e=>c ⟨r,e.symm⟩)
def ad3(W:dx)(h:ad)(r:aT)(o:Option Bn):Prop:=(r=none/\o=none)\/∃b sl m,r=some ⟨b,0,none⟩/\o=some m/\sl.data.toList=m.1/\RxN W h b sl m.2.1 m.2.2
theorem Vk{b:Nat}{sl:c6}{w:Option c6}{F:Fo}(r:RxN W h b sl w F)(hW:∀y,W y->y<h.size)(hc:fq F)(A:sl.data.toList≠[])(hs1:sl.size<=1000000)(U:∀k v,qC F k v->k.length<=1000000)
  {K:aT->dO}(G:∀h' r o,Upd No h h'->aaZ (sl.data.toList,w,F) o->ad3 W h' r o->K r h'):fu 262 [gZ b,.pointer none] K h:=by
 refine DN _ none ?_;dsimp only[vV,ga,yK,pW,cJ,G7,cz,fj,nU,bR,wR,cM];have hr:=r;obtain⟨val,s,ow,ks,hb,hv,hs,hcap,hF⟩:=r;have Y:=lw.1 hF;have hn:=kh hc;have c:=hs.len;rw[Y.1]at c;refine eF (λt h'=>t=decide (w.isSome\/2<=F.toL.length)/\h'=h) (λR hR=>⟨_,rfl,w.isSome,eA (i:=1) hb,?_⟩) ?_
 .cases w with
  |some v=>exact ay.2 (hR _ _ ⟨rfl,rfl⟩)
  |none=>
   refine ag.2 ⟨_,rfl,s,eA (i:=3) hb,hR _ _ ⟨?_,rfl⟩⟩;rw[decide_eq_decide];constructor
   .intro h;exact .inr a4
   .rintro(h|h)
    .cases h
    .omega
 .rintro t h' ⟨rfl,rfl⟩
  refine ar (λn=>?_) λn=>?_
  .exact G h' _ _ (eM _ _) (VG A hc n) (.inr ⟨b,sl,_,rfl,rfl,rfl,hr⟩)
  .have N:w=none:=by
    cases w with
    |none=>rfl
    |some v=>exact absurd (.inl rfl) n
   subst N;have J:F.toL.length<2:=by
    rcases ci F.toL.length 2 with h|h
    .exact h
    .exact absurd (.inr h) n
   refine⟨_,rfl,s,eA (i:=3) hb,?_⟩;match hFL:F.toL,J with
   | [],_=>
    rw[hFL]at c;have e:((s.len:Int)==(0:Int))=true:=by rw[beq_iff_eq,c];rfl
    rw[e];exact ay.2 (G h' _ _ (eM _ _) (VH hFL) (.inl ⟨rfl,rfl⟩))
   | [(lk,wk,Fk)],_=>
    rw[hFL]at c;have e:((s.len:Int)==(0:Int))=false:=by rw[beq_eq_false_iff_ne,c];simp
    rw[e];have d:(lk,wk,Fk)∈F.toL:=by rw[hFL];exact az.2 rfl
    have H:=(dY.1 hc).2 _ d;have h0:0<F.toL.length:=by rw[hFL];exact wF
    obtain⟨kb,f,E,g,m⟩:=Y.at h0;have e0:F.toL[0]=(lk,wk,Fk):=by simp only[hFL];rfl
    rw[e0]at g m;(try simp only at g m)
    obtain⟨a,ha,_,S⟩:=hs.at0 E;obtain⟨C,kss,kow,O,P,V,u,L,D⟩:=m;have T:=lw.1 D;have B:=kh H.2.2;refine ag.2 ⟨_,rfl,s,eA (i:=3) hb,⟨a4,by rw[c];simp⟩,a,ha,some ⟨kb,0,none⟩,S,?_⟩
    refine pZ P u (by rw[T.1];exact B) λh1 s1 b1 I z=>?_
    obtain⟨rr,vv,X⟩:=mZ hc _ d;have Q:=U (lk++rr) vv (fF.2 ⟨_,d,rr,rfl,X⟩);rw[ae]at Q;have Z:lk.length=f.size:=by rw[<-g];exact kP f
    refine⟨_,rfl,sl,eA (i:=0) (z.get0 hb),_,rfl,f,eA (i:=0) b1,a4,?_⟩
    have hbl:b<h'.size:=bB hb;refine yj b1 λn b2 p=>?_
    have j:Upd No h' n:=z.own p (aj _);have q:=I.upd p λx hx e=>by have e:x=h'.size:=e;have:=hx.1;omega
    refine G n _ _ j (XG A hc hFL) (.inr ⟨h'.size,sl++f,_,rfl,rfl,by rw[<-g];exact YN sl f,⟨C,s1,none,O,b2,V,q.sl (λx hx _ N=>by have:=hW _ N;have:=hx.1;omega),⟨q.cap,λhx=>l8 _ (hW _ hx)⟩,RxF.upd0 j D⟩⟩)
set_option maxHeartbeats 1000000 in
theorem Xh:∀(n:Nat) {b:Nat} {sl:c6} {w:Option c6} {F:Fo} {h:ad} (k:c6),k.size<n->RxN W h b sl w F->(∀y,W y->y<h.size)->fq F->(∀j v,qC F j v->j.length<=1000000)->∀{K:aT×Bool->dO},
  (∀h' b' w' F' t,Upd No h h'->RxN W h' b' sl w' F'->fq F'->wE (sE w F) (sE w' F') k.data.toList->(t=false->b'=b/\∀v,¬sE w F k.data.toList v)->(t=true->∃v,sE w F k.data.toList v)->K (some ⟨b',0,none⟩,t) h')->
  uC 192 [gZ b,.pointer none,.string k] K h:=by
 intro n;induction n with
 |zero=>intro b sl w F h k hk;omega
 |succ n ih=>
  intro b sl w F h k hkn r hW hc hbd K hk;refine dg (vX (some ⟨b,0,none⟩) none k) .nil Tryz.func192 Tryz.call192 ?_;dsimp only[vX,ga,yK,dd,kF,Ku,Kt,CG,cJ,jX,fj,ix,qW,cz,nU,bR,zY,wR,cM];have hr:=r;obtain⟨val,s,ow,ks,hb,hv,hs,hcap,hF⟩:=r;have U:=lw.1 hF;have hn:=kh hc;have hcan:=dY.1 hc;have z:∀{h':ad},Upd No h h'->(∀v,¬sE w F k.data.toList v)->K (some ⟨b,0,none⟩,false) h':=λhu C=>hk _ b w F false hu (hr.upd0 hu) hc (SU C) (λ_=>⟨rfl,C⟩) λh=>by cases h
  rw[dZ];refine ar (λhk0=>?_) λhk0=>?_
  .have hke:k.data.toList= []:=by rw[hk0]
   rw[hke]at hk z;refine⟨_,rfl,w.isSome,eA (i:=1) hb,?_⟩;cases L:w with
   |none=>
    refine ay.2 (z (eM _ _) λv d=>?_)
    rcases d with⟨_,h⟩|h
    .rw[L]at h;cases h
    .exact absurd rfl (pu hc h)
   |some u=>
    refine ag.2 (pZ hb hs (by rw[U.1];exact hn) λh1 s1 b1 ho1 hu1=>?_)
    refine⟨_,rfl,Ze (i:=1) b1 (show 1<5 by decide),KB (i:=1) (c':=EH sl false val s1 none) b1 rfl λO b2 o=>?_⟩
    refine⟨_,rfl,Ze (i:=2) b2 (show 2<5 by decide),KB (i:=2) (c':=EH sl false ⟨#[]⟩ s1 none) b2 rfl λh3 b3 D=>?_⟩
    have E:Upd No h h3:=hu1.own (o.tr D) (aj _);have Z:=ho1.upd (o.tr D) λx hx e=>by have e:x=h.size:=e;have:=hx.1;omega
    refine hk h3 h.size none F true E ⟨⟨#[]⟩,s1,none,ks,b3,rfl,Z.sl (λx hx _ L=>by have:=hW _ L;have:=hx.1;omega),⟨Z.cap,λhx=>l8 _ (hW _ hx)⟩,RxF.upd0 E hF⟩ hc (SS hc) (λh=>by cases h) λ_=>⟨u,.inl ⟨rfl,L⟩⟩
  .have p:k.data.toList≠[]:=λe=>hk0 (by cases k;exact congrArg lJ (Array.toList_inj.1 e))
   obtain⟨c0,hc0,hc0e⟩:=NG p;refine⟨c0,Int.le_refl _,hc0,?_⟩;have hlk:k.data.toList.length=k.size:=kP k;refine EG hr hc (c:=c0.toNat) (UInt8.toNat_lt _) λi ok V hlo hhi hok=>?_
   rw[hc0e]at hlo hhi hok;cases ok with
   |false=>
    refine ay.2 (z (eM _ _) λv d=>?_)
    rcases d with⟨h,_⟩|d
    .exact p h
    .obtain⟨n',hn',e,_⟩:=qR hc d
     obtain⟨j,hj,rfl⟩:=bH hn';rcases ci j i with hl|hl
     .have:=hlo j hj hl;omega
     .have h1:=hhi j hj hl
      have O:=hhi i a4 (aj _);rcases ci i j with hl2|hl2
      .have h3:=List.pairwise_iff_getElem.1 hcan.1 i j a4 hj hl2
       omega
      .have:i=j:=by omega
       subst this;have:=hok.2 ⟨hj,e⟩;cases this
   |true=>
    obtain⟨hi,hie⟩:=hok.1 rfl;refine ag.2 ⟨_,rfl,s,eA (i:=3) hb,?_⟩;obtain⟨kb,ksl,hki,B,H⟩:=U.at hi;have I:F.toL[i]∈F.toL:=aF hi;have R:=hcan.2 _ I;obtain⟨a,ha,_,hvv⟩:=hs.at0 hki;have hslen:=hs.len;rw[U.1]at hslen;have hlt1:(i:Int)<((s.len:Nat):Int):=a4
    refine⟨⟨by(try simp only);omega,hlt1⟩,a,ha,some ⟨kb,0,none⟩,hvv,_,rfl,?_⟩;obtain⟨kval,kss,kow,kks,hkb,_⟩:=id H;have A:∀v,qC F k.data.toList v->vr F.toL[i] k.data.toList v:=λv d=>by
     obtain⟨n',hn',e,hN⟩:=qR hc d;rw[<-yv hc hn' I a4];exact hN
    have q:∀j v,vr F.toL[i] j v->qC F j v:=λj v d=>fF.2 ⟨_,I,d⟩
    have g:∀{m:Bn},QB m->hd m.1=hd F.toL[i].1->fq (.ofL (F.toL.set i m)):=λh1 O=>UN hc hi h1 O
    have P:∀{m:Bn},wE (vr F.toL[i]) (vr m) k.data.toList->wE (qC F) (qC (.ofL (F.toL.set i m))) k.data.toList:=λhp=>V0 hc hi hie hp
    have T:(∀k' v',vr F.toL[i] k' v'->k'=k.data.toList)->wE (qC F) (qC (.ofL (F.toL.take i++F.toL.drop (i+1)))) k.data.toList:=λhp=>V3 hc hi hie hp
    have hrset:∀{h':ad} {k':aT} {m:Bn},Upd No h h'->Kid W h' k' m->RxL W h' (ks.set i k') (F.toL.set i m):=λhu hkd=>(U.upd0 hu).set hi hkd
    generalize F.toL[i]=m at B H R A q g P T hie;obtain⟨lab,wk,Fk⟩:=m;(try simp only at B H R hie g)
    refine⟨ksl,eA (i:=0) hkb,Yp (λQ f=>?_) λC=>?_⟩
    .rw[B]at f
     have hlne:lab.length≠0:=λe=>R.1 (List.length_eq_zero_iff.1 e)
     have hrl:Q.size<k.size:=by
      rw[<-kP Q,<-hlk,f,ae];omega
     refine ag.2 ⟨_,rfl,s,eA (i:=3) hb,⟨by(try simp only);omega,hlt1⟩,a,ha,some ⟨kb,0,none⟩,hvv,?_⟩;have hkbd:∀j v,qC Fk j v->j.length<=1000000:=λj v d=>by
      have:=hbd _ v (q (lab++j) v ⟨j,rfl,.inr d⟩);rw[ae]at this;omega
     refine ih Q a4 H hW R.2.2 hkbd λO b2 w2 F2 t o rn2 hc2 hd2 hg0 hg1=>?_
     cases t with
     |false=>
      refine ay.2 (z o λv d=>?_)
      rcases d with⟨h,_⟩|d
      .exact p h
      .obtain⟨r',e,hr'⟩:=A v d
       (try simp only at e)
       rw[f]at e;exact(hg0 rfl).2 v (by rw[eo e];exact hr')
     |true=>
      obtain⟨v0,hv0⟩:=hg1 rfl;have G:∃v,sE w F k.data.toList v:=⟨v0,.inr (q _ _ ⟨_,f,hv0⟩)⟩;have hdn:wE (vr (lab,wk,Fk)) (vr (lab,w2,F2)) k.data.toList:=by
       rw[f];exact SV hd2
      refine ag.2 (pZ (o.get0 hb) (hs.upd o λ_ h=>h.elim) (by rw[U.1];exact hn) λh3 s3 b3 Z D=>?_)
      have E:=o.tr D;obtain⟨rr,vv,d⟩:=mZ hc _ I;have hlb:lab.length<=1000000:=by
       have:=hbd _ v0 (q _ _ ⟨_,f,hv0⟩);rw[f,ae]at this;omega
      have hb2:∀j v,qC F2 j v->j.length<=1000000:=λj v d=>by
       rcases((hd2 j v).1 (.inr d)).2 with⟨e,_⟩|h
       .rw[e];simp
       .exact hkbd j v h
      refine Vk (W:=Pro W O h3) ((rn2.less Pro.hm).upd0 D) (Pro.lt (λy hy=>aD (hW y hy) o.size) D) hc2 (by rw[B];exact R.1) (by rw[<-kP ksl,B];exact hlb) hb2 λh4 r4 o4 Y hm4 hr4=>?_
      rw[B]at hm4;have b4:=Y.get0 b3;have ho4:=Z.upd Y λ_ _ h=>h
      have hu04:=E.tr Y;have hz2:h.size<=O.size:=o.size;have V:i<ks.length:=by rw[U.1];exact hi
      have hlen4:=ho4.len;rcases hr4 with⟨rfl,rfl⟩|⟨X,sl4,m4,rfl,rfl,hsl4,rn4⟩
      .rcases hm4 with⟨_,C⟩|⟨_,e,_⟩
       .have ew:ac .i64 ((i:Int)+1)=((i+1:Nat):Int):=by rw[dI a4];omega
        refine ay.2 ⟨_,rfl,s3,eA (i:=3) b4,?_⟩;(try simp only)
        rw[ew];refine SY ho4 V (by rw[U.1];omega) λs5 h5 S J=>?_
        have b5:=J.get b4 λhx=>by have:=hx.1;omega
        refine⟨_,rfl,Ze (i:=3) b5 (show 3<5 by decide),KB (i:=3) (c':=EH sl w.isSome val s5 none) b5 rfl λh6 b6 hu6=>?_⟩
        have N:Upd No h h6:=(hu04.trans J λx hx=>.inr (by have:=hx.1;omega)).own hu6 hz2
        have ho6:=S.upd hu6 λx hx e=>by have e:x=O.size:=e;have:=hx.1;omega
        refine hk h6 O.size w _ true N ⟨val,s5,none,_,b6,hv,ho6.sl (λx hx _ L=>by have:=hW _ L;have:=hx.1;omega),⟨ho6.cap,λhx=>by have:=hW _ hx;omega⟩,lw.2 (by rw[Fo.to_of];exact((U.upd0 N).take i).app ((U.upd0 N).drop (i+1)))⟩ (aaF hc) (I0 p (T λk' v' hN=>?_)) (λh=>by cases h) λ_=>G
        refine om λhne=>C k' v' ((hdn k' v').2 ⟨hne,hN⟩)
       .cases e
      .rcases hm4 with⟨e,_⟩|⟨m',e,hcn,hhd,hiff⟩
       .cases e
       .cases e
        obtain⟨a3,ha3,hab,hw3,S,J⟩:=OwnS.setAt ho4 V (some ⟨X,0,none⟩);refine ag.2 ⟨_,rfl,s3,eA (i:=3) b4,⟨by(try simp only);omega,by(try simp only);omega⟩,a3,ha3,?_⟩
        have hw1:Wr h4 (adr a3 (i*1)):=by
         rcases hw3 with L|⟨b',hb',L⟩
         .cases L
         .cases hb';exact L 0 a6
        refine⟨hw1,bL ?_⟩;have b5:=J.get b4 λe=>by have e:O.size=a3.block:=e;have:=hab.1;omega
        have hu45:Upd No O _:=(D.tr Y).trans J λx hx=>.inr (by have hx:x=a3.block:=hx;have:=hab.1;omega)
        have hu05:=o.tr hu45;have eset:ks.set i (some ⟨X,0,none⟩)=ks.take i++some ⟨X,0,none⟩::ks.drop (i+1):=by rw[List.set_eq_take_append_cons_drop,if_pos V]
        rw[<-eset]at S;have rn5:=(rn4.updM (M:=(· =a3.block)) J λy hy=>.inl (.inr (by have hy:y=a3.block:=hy;have:=hab.1;have:=hab.2;omega))).less (W':=W) λy hy=>.inl (.inl hy)
        exact hk _ O.size w _ true hu05 ⟨val,s3,none,_,b5,hv,S.sl (λx hx _ L=>by have:=hW _ L;have:=hx.1;omega),⟨S.cap,λhx=>by have:=hW _ hx;omega⟩,lw.2 (by rw[Fo.to_of];exact hrset hu05 ⟨X,sl4,rfl,hsl4,rn5⟩)⟩ (g hcn hhd) (I0 p (P λk' v'=>by rw[hiff k' v'];exact hdn k' v')) (λh=>by cases h) λ_=>G
    .rw[B]at C
     refine ay.2 (z (eM _ _) λv d=>?_)
     rcases d with⟨h,_⟩|d
     .exact p h
     .obtain⟨r',e,_⟩:=A v d
      exact C r' e
end
end Go.Proofs
