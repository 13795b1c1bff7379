/- A part of the proof that the named laws of this program answer true, whatever the input. -/
import Derived.Test.YtajpljopgikpgaaGreatDoorPart5
import Derived.Test.YtajpljopgikpgaaGreatDoorPart2
import Derived.Test.YtajpljopgikpgaaGreatDoorPart4
import Derived.Test.YtajpljopgikpgaaGreatDoorPart0
import Derived.Test.YtajpljopgikpgaaGreatDoorLift3
open Array renaming getElem?_push→iJ,size_setIfInBounds→lW,getElem?_setIfInBounds→cr
open Int renaming tmod→gk
open List renaming any_eq_true→bV,mem_singleton→aq,any_cons→ol,range→cC,length_append→ae,filter_append→jx,mem_filter→gA,pairwise_append→cS,length_singleton→aO,cons→gb,cons_append→cU,mem_cons_self→au
open List.Pairwise renaming nil→fF
open Nat renaming zero_add→aB,lt_of_lt_of_le→cg,le_trans→aX,le_refl→al,mul_le_mul_right→bQ
namespace Go.Proofs
open Go.Lift
theorem By.updS{h b:ad}{w o:Option Addr}{S:Nat→Prop}(t:By h w o)(k:Upd S h b)(c:∀a,w=some a→¬S a.block):By b w o:=t.upd k fun _ e d=>absurd d (c _ e)
set_option maxHeartbeats 2000000 in
theorem Pn{W:Nat→Prop}{x:Hs}{w o:Option Addr}:∀(m:Nat),m≤13→∀{b:Nat} {l:List Pr} {S:Nat→Prop} (p:Pr) {h:ad},TrieO o W x h m b l S→By h w o→(∀y,W y→y<h.size)→(∀y,S y→W y)→(∀a,o=some a→W a.block)→(∀a,w=some a→¬S a.block)→cB l→l.length≤1000000→∀{K:(Option Addr)×Bool×Bool→ad→Prop},
  (∀A b' ch S',Upd S h A→TrieO o (fun y=>W y∨S' y) x A m b' (gG p l) S'→(∀y,S' y→(S y∨h.size≤y)∧y<A.size)→(ch=false→b'=b∧Upd No h A)→ch= !decide (p∈l)→K (some ⟨b',0,none⟩, !bW l p.1,ch) A)→
  HC PG gO [MH x w p.1,.pointer (some ⟨b,0,none⟩),.agg #[.string p.1,.string p.2],.int .i64 ((13-m:Nat):Int)] [.c .ptr,.c .bool,.c .bool] K h:=by
 intro m;induction m with
 |zero=>
  intro _ b l S p h t by_ hW E N hwS hr hn K hk;have J:∀y,S y→y<h.size:=fun y g=>hW y (E y g)
  refine rN (x.k0,x.k1,x.mask,w,p.1,ko x p.1) (some ⟨b,0,none⟩) p ((13-0:Nat):Int) ?_;unfold nO af aJ az nv mC AN rC tG jP vW E2 lr Bj;refine aQ fun h1 b1 k1=>aQ fun j b2 k2=>?_
  have H:∀{A:ad},Upd No j A→∀i,aK A (adr ⟨h.size,0,none⟩ i)=(#[.int .u64 x.k0,.int .u64 x.k1,.int .u64 x.mask,.pointer w,.string p.1,.int .u64 (ko x p.1)]:Array Value)[i]?:=fun k i=>by
   rw[bF,aY (k.get0 (k2.get0 b1)),aB]
  have M:∀{A:ad},Upd No j A→∀i,aK A (adr ⟨h1.size,0,none⟩ i)=(#[.string p.1,.string p.2]:Array Value)[i]?:=fun k i=>by rw[bF,aY (k.get0 b2),aB]
  have r:=Upd.refl No j;have u:=k1.tr k2;have z02:=u.size;have bk:BuckO o W j b l S:=BuckO.upd0 t u;have by2:=by_.upd0 u;have bkr:=bk.read by2;obtain⟨sp,sk,ow,hb,_⟩:=bkr.ex;refine gL (d:=0) (n:=0) hb (ax.2 ⟨_,M r 0,P4 bkr hr (by omega) p.1 fun h3 v U hv=>?_⟩)
  refine Join.intro (fun t' A=>t'=decide (p∈l)∧Upd No j A) (fun R hR=>?_) ?_
  ·cases C:bW l p.1 with
   |false=>
    refine aj.2 (hR _ _ ⟨?_,U⟩);refine(decide_eq_false fun hm=>?_).symm
    have:bW l p.1=true:=bV.2 ⟨p,hm,decide_eq_true rfl⟩;rw[C]at this;cases this
   |true=>
    have hv:=hv C;refine ax.2 ⟨_,M U 1,hR _ _ ⟨?_,U⟩⟩;rw[iU,decide_eq_decide];constructor
    ·intro e
     have e:v=p.2:=e;rw[e]at hv;exact hv
    ·intro hm
     exact Ij hr hv (show(p.1,p.2)∈l from hm)
  ·rintro t' h4 ⟨rfl,F⟩
   have z4:=F.size;by_cases hm:p∈l
   ·rw[decide_eq_true hm]
    refine ax.2 ?_;have C:bW l p.1=true:=bV.2 ⟨p,hm,decide_eq_true rfl⟩;have:=hk h4 b false S (u.tr F).wide (by rw[AZ hr hm];exact(BuckO.upd0 t (u.tr F)).imp (fun n=>⟨n.1.less fun y g=>.inl (g.elim id (E y)),n.2⟩) id) (fun y g=>⟨.inl g,by have:=J y g;omega⟩) (fun _=>⟨rfl,u.tr F⟩) (by rw[decide_eq_true hm];rfl)
    rw[C]at this;exact this
   ·rw[decide_eq_false hm]
    refine aj.2 ⟨w,H F 3,_,M F 0,_,M F 1,?_⟩;refine Cp (bk.upd0 F) (by2.upd0 F) N (fun y g=>by have:=J y g;omega) hr (by omega) p fun h5 b5 sp5 sk5 on5 hu5=>?_
    have z5:=hu5.size;have hS0:o=none→∀y,¬S y:=fun e y g=>by
     rcases t with⟨_,h⟩|⟨h,_⟩
     ·exact h y g
     ·rw[e]at h;cases h
    refine hk h5 b5 true _ ((u.tr F).wide.tr hu5) (u0 (W:=fun y=>W y∨(o.isSome=true∧(S y∨h4.size≤y)∧y<h5.size)) on5 fun e=>⟨hS0 e,fun y g=>g.elim (fun h=>by have:=hW y h;omega) fun h=>by rw[e]at h;cases h.1⟩) (fun y g=>⟨g.2.1.imp id fun h=>by omega,g.2.2⟩) (fun h=>by cases h) (by rw[decide_eq_false hm];rfl)
 |succ m ih=>
  intro hm b l S p h t by_ hW E N hwS hr hn K hk;have gW:∀{A},Upd No h A→∀y,W y→y<A.size:=fun k y g=>cg (hW y g) k.size
  have J:∀y,S y→y<h.size:=fun y g=>hW y (E y g)
  have hl:13-(m+1)<13:=by omega
  have hlev:13-(m+1)=12-m:=by omega
  refine rN (x.k0,x.k1,x.mask,w,p.1,ko x p.1) (some ⟨b,0,none⟩) p ((13-(m+1):Nat):Int) ?_;unfold nO af aJ az nv mC AN rC tG jP vW E2 lr Bj;refine aQ fun h1 b1 k1=>aQ fun j b2 k2=>?_
  have H:∀{A:ad},Upd No j A→∀i,aK A (adr ⟨h.size,0,none⟩ i)=(#[.int .u64 x.k0,.int .u64 x.k1,.int .u64 x.mask,.pointer w,.string p.1,.int .u64 (ko x p.1)]:Array Value)[i]?:=fun k i=>by
   rw[bF,aY (k.get0 (k2.get0 b1)),aB]
  have M:∀{A:ad},Upd No j A→∀i,aK A (adr ⟨h1.size,0,none⟩ i)=(#[.string p.1,.string p.2]:Array Value)[i]?:=fun k i=>by rw[bF,aY (k.get0 b2),aB]
  have r:=Upd.refl No j;have u:=k1.tr k2;have by2:=by_.upd0 u;have z02:=u.size;have hno:o=none→∀y,¬S y:=fun e=>by subst e;exact t.off.2
  obtain⟨s,S0,T,nd0,h0,I,hd,hs⟩:=(TrieO.upd0 u t).view;have tt:∀{A:ad},Upd No j A→TrieO o (fun y=>W y∨S y) x A (m+1) b l S:=fun k=>(TrieO.upd0 (u.tr k) t).less fun y g=>.inl (g.elim id (E y))
  have ndr:=nd0.read by2;obtain⟨d0,n0,sp0,sk0,ow0,hb0,_⟩:=ndr.ex;refine gL hb0 (aj.2 ⟨_,H r 5,Ob hl ?_⟩);rw[hlev];have hi:=xT x (12-m) p.1;have hsi:=hs _ hi;have hrp:=pI (x:=x) (lev:=12-m) (c:=ck x (12-m) p.1) hr;have hnp:(part x (12-m) (ck x (12-m) p.1) l).length≤1000000:=aX jA hn;have hmp:p∈part x (12-m) (ck x (12-m) p.1) l↔p∈l:=by rw[lK];exact⟨fun h=>h.1,fun h=>⟨h,rfl⟩⟩
  have htp:=Bm (x:=x) (lev:=12-m) (l:=l) (k:=p.1);have turn:∀{hz A:ad} {b' d n:Nat} {sp sk:SliceV} {s':Slots} {T':Nat→Prop},Upd (T (ck x (12-m) p.1)) j hz→OwnN (fun y=>S0 y∨hz.size≤y) A b' d n sp sk s' o→Upd S0 hz A→(∀c,c≠ck x (12-m) p.1→s'.p c=s.p c∧s'.k c=s.k c)→
    SlotO o (fun y=>W y∨T' y) x hz m s' (ck x (12-m) p.1) (gG p (part x (12-m) (ck x (12-m) p.1) l)) T'→(∀y,T' y→(T (ck x (12-m) p.1) y∨j.size≤y)∧y<hz.size)→p∉l→
    K (some ⟨b',0,none⟩, !bW l p.1,true) A:=fun{hz A b' d n sp sk s' T'} ku on ku2 hp hslot V Q=>by
   have zz:=ku.size;have zz':=ku2.size;have b2S:∀y,S y→y<j.size:=fun y g=>by have:=J y g;omega
   have p1:part x (12-m) (ck x (12-m) p.1) (gG p l)=gG p (part x (12-m) (ck x (12-m) p.1) l):=by rw[BM hr,if_pos rfl]
   have hT0:∀y,T' y→¬S0 y∧∀c,c≠ck x (12-m) p.1→¬T c y:=fun y g=>by
    rcases(V y g).1 with h|h
    ·exact⟨(I _ y h).2,fun c hc C=>hc (hd _ _ y C h)⟩
    ·exact⟨fun hs=>by have:=b2S y (h0 y hs);omega,fun c _ C=>by have:=b2S y (I c y C).1;omega⟩
   refine hk A b' true _ ((u.wide.tr (ku.mono fun y g=>.inl (I _ y g).1)).tr (ku2.mono fun y g=>.inl (h0 y g))) (vY (W:=W) (W1:=fun y=>W y∨T' y) (T:=T) (T':=T') (c0:=ck x (12-m) p.1) (s:=s) (hz:=hz) on ku2 (fun c hc hcc=>?_) hp ?_ (fun y g=>.inl g) (fun y g=>.inl (E y (h0 y g))) (fun c y g=>.inl (E y (I c y g).1)) (fun y g=>.inr g) (fun c y g=>⟨by have:=b2S y (I c y g).1;omega,(I c y g).2⟩) (fun y g=>⟨(V y g).2,hT0 y g⟩) hd fun e=>⟨fun y g=>hno e y (h0 y g),fun y g=>g.elim (fun h=>by have:=hW y h;omega) fun h=>(V y h).2⟩) (fun y g=>?_) (fun h=>by cases h) (by rw[decide_eq_false Q];rfl)
   ·rw[BM hr,if_neg fun e=>hcc e.symm]
    refine((hs c hc).less (W':=fun y=>W y∨T' y) fun y g=>g.elim .inl fun h=>(V y h).1.imp (fun h=>E y (I _ y h).1) id).upd ku (fun y g=>b2S y (I c y g).1) fun y g=>.inl ⟨.inl (E y (I _ y g).1),fun h=>hcc (hd _ _ y h g)⟩
   ·rw[p1];exact hslot
   ·have:=Jw (S:=S) (z0:=h.size) h0 (fun c y g=>⟨(I c y g).1,by have:=b2S y (I c y g).1;omega⟩) (fun y g=>⟨(V y g).1.imp (fun h=>(I _ y h).1) fun h=>by omega,by have:=(V y g).2;omega⟩) (by omega) g
    exact this
  generalize hc:ck x (12-m) p.1=c at hi hsi hrp hnp hmp htp turn;generalize hlp:part x (12-m) c l=lc at hsi hrp hnp hmp htp turn;refine BS ndr hi fun h3 U=>?_
  refine aQ fun h4 b4 k4=>?_
  have b4':h4[h3.size]? =some (.cells #[.string HT.1,.string HT.2] ay (0,0)):=b4;refine zV (p:=y6 (s.p c)) b4' fun h5 b5 hu5=>?_
  have f:Upd No j h5:=(U.tr k4).trans hu5 fun y g=>.inr (by have g:y=h3.size:=g;have:=U.size;omega)
  have w5:∀{A:ad},Upd No h5 A→∀i,aK A (adr ⟨h3.size,0,none⟩ i)=(#[.string (y6 (s.p c)).1,.string (y6 (s.p c)).2]:Array Value)[i]?:=fun k i=>by rw[bF,aY (k.get0 b5),aB]
  have r5:=Upd.refl No h5;have z5:=f.size;have P:=by2.upd0 f;have Y:=nd0.upd0 f;have h0b:∀y,S0 y→y<h5.size:=fun y g=>by have:=J y (h0 y g);omega
  cases hsp:s.p c with
  |some y=>
   rw[hsp]at w5;obtain⟨L,hk0,hTn⟩:lc= [y]∧s.k c=none∧∀y,¬T c y:=by
    rcases hsi with⟨_,j,_⟩|⟨q,h1,j,h3,h4⟩|⟨_,j,_⟩
    ·rw[hsp]at j;cases j
    ·rw[hsp]at j;cases j;exact⟨h1,h3,h4⟩
    ·rw[hsp]at j;cases j
   refine ax.2 ⟨y.1,w5 r5 0,y.2,w5 r5 1,p.1,M f 0,p.2,M f 1,?_⟩;rw[iU,iU];have hyl:y∈l:=(lK.1 (show y∈part x (12-m) c l by rw[hlp,L];exact aq.2 rfl)).1
   by_cases X:y.1=p.1
   ·have C:bW l p.1=true:=bV.2 ⟨y,hyl,decide_eq_true X⟩
    by_cases e2:y.2=p.2
    ·rw[decide_eq_true X,decide_eq_true e2]
     have hyp:y=p:=Prod.ext X e2;have G:p∈l:=hyp▸hyl;refine ax.2 ?_;rw[C]at hk;exact hk h5 b false S (u.tr f).wide (by rw[AZ hr G];exact tt f) (fun y g=>⟨.inl g,by have:=J y g;omega⟩) (fun _=>⟨rfl,u.tr f⟩) (by rw[decide_eq_true G];rfl)
    ·rw[decide_eq_true X,decide_eq_false e2]
     refine aj.2 ⟨y.1,w5 r5 0,p.1,M f 0,?_⟩;rw[iU,decide_eq_true X];refine ax.2 ⟨w,H f 3,p.1,M f 0,p.2,M f 1,?_⟩;refine oq Y P N h0b hi (fun _ _=>hk0) p fun h6 b6 d6 n6 sp6 sk6 on6 B=>?_
     have Q:p∉l:=fun hm=>by
      have:=hmp.2 hm;rw[L]at this;exact e2 (by rw[aq.1 this])
     have:=turn (T':=No) f.wide on6 B (fun c' D=>⟨fH D,fH D⟩) (.inr (.inl ⟨p,by rw[L,fY,if_neg (by rw[X];exact cA _),if_pos X],fU,fU,fun _ h=>h⟩)) (fun _ h=>h.elim) Q
     rw[C]at this;exact this
   ·rw[decide_eq_false X]
    refine aj.2 ⟨y.1,w5 r5 0,p.1,M f 0,?_⟩;rw[iU,decide_eq_false X];refine aj.2 ⟨w,H f 3,_,H f 0,_,H f 1,_,H f 2,_,H f 3,_,H f 4,_,H f 5,y.1,w5 r5 0,y.2,w5 r5 1,p.1,M f 0,p.2,M f 1,?_⟩;have ew:IntKind.wrap .i64 (((12-m:Nat):Int)+1)=((13-m:Nat):Int):=by rw[nq (by omega)];omega
    rw[ew];refine Oi m y p (by omega) X (gW (u.tr f)) P N fun h6 b6 Sk t6 hSk B=>⟨H (f.tr B) 3,?_⟩
    have z6:=B.size;refine si (Y.upd0 B) (P.upd0 B) N hi (fun z hz=>by rw[hk0]at hz;cases hz) ⟨b6,0,none⟩ fun h7 b7 d7 n7 sp7 sk7 on7 hu7=>?_
    have C:bW l p.1=false:=by
     rw[←htp,L];unfold bW;rw[ol,decide_eq_false X];rfl
    have Q:p∉l:=fun hm=>by
     have:bW l p.1=true:=bV.2 ⟨p,hm,decide_eq_true rfl⟩;rw[C]at this;cases this
    have:=turn (T':=Sk) (f.tr B).wide on7 hu7 (fun c' D=>⟨fH D,fH D⟩) (.inr (.inr (by rw[L];exact⟨by rw[Ki X];omega,fU,b6,fU,t6⟩))) (fun y g=>⟨.inr (by have:=(hSk y g).1;omega),(hSk y g).2⟩) Q
    rw[C]at this;exact this
  |none=>
   refine aj.2 (Fa (Y.read P) hi ?_);cases hsk:s.k c with
   |none=>
    have hlc:lc= []:=by
     rcases hsi with⟨h1,_⟩|⟨q,_,j,_⟩|⟨_,_,kb,j,_⟩
     ·exact h1
     ·rw[hsp]at j;cases j
     ·rw[hsk]at j;cases j
    refine ax.2 ⟨w,H f 3,p.1,M f 0,p.2,M f 1,?_⟩;refine oq Y P N h0b hi (fun _ _=>hsk) p fun h6 b6 d6 n6 sp6 sk6 on6 B=>?_
    have C:bW l p.1=false:=by rw[←htp,hlc];rfl
    have Q:p∉l:=fun hm=>by
     have:bW l p.1=true:=bV.2 ⟨p,hm,decide_eq_true rfl⟩;rw[C]at this;cases this
    have:=turn (T':=No) f.wide on6 B (fun c' D=>⟨fH D,fH D⟩) (.inr (.inl ⟨p,by rw[hlc];rfl,fU,fU,fun _ h=>h⟩)) (fun _ h=>h.elim) Q
    rw[C]at this;exact this
   |some kp=>
    obtain⟨h2l,kb,rfl,tk⟩:2≤lc.length∧∃kb,kp=some ⟨kb,0,none⟩∧TrieO o W x j m kb lc (T c):=by
     rcases hsi with⟨_,_,j,_⟩|⟨q,_,j,_⟩|⟨h1,_,kb,j,h3⟩
     ·rw[hsk]at j;cases j
     ·rw[hsp]at j;cases j
     ·rw[hsk]at j;cases j;exact⟨h1,kb,rfl,h3⟩
    refine aj.2 ⟨_,H f 0,_,H f 1,_,H f 2,_,H f 3,_,H f 4,_,H f 5,p.1,M f 0,p.2,M f 1,?_⟩;have ew:IntKind.wrap .i64 (((12-m:Nat):Int)+1)=((13-m:Nat):Int):=by rw[nq (by omega)];omega
    rw[ew];refine ih (by omega) p (TrieO.upd0 f tk) P (gW (u.tr f)) (fun y g=>E y (I c y g).1) N (fun a e C=>hwS a e (I c _ C).1) hrp hnp fun h6 b6 ch Sk B t6 hSk hsame O=>?_
    have z6:=B.size;have w16:∀i,aK h6 (adr ⟨h.size,0,none⟩ i)=(#[.int .u64 x.k0,.int .u64 x.k1,.int .u64 x.mask,.pointer w,.string p.1,.int .u64 (ko x p.1)]:Array Value)[i]?:=fun i=>by
     rw[bF,aY (B.get (f.get0 (k2.get0 b1)) fun g=>by have:=J _ (I c _ g).1;omega),aB]
    have Z:Upd (T c) j h6:=f.wide.tr B;by_cases G:p∈l
    ·have O:ch=false:=by rw[O,decide_eq_true (hmp.2 G)];rfl
     have C:bW l p.1=true:=bV.2 ⟨p,G,decide_eq_true rfl⟩;rw[C]at hk;rw[O];refine ax.2 ?_;obtain⟨_,k56⟩:=hsame O;have Z:=f.tr k56;exact hk h6 b false S (u.tr Z).wide (by rw[AZ hr G];exact tt Z) (fun y g=>⟨.inl g,by have:=J y g;omega⟩) (fun _=>⟨rfl,u.tr Z⟩) (by rw[decide_eq_true G];rfl)
    ·have O:ch=true:=by rw[O,decide_eq_false fun h=>G (hmp.1 h)];rfl
     rw[O];refine aj.2 ⟨w,w16 3,?_⟩;have by6:=P.updS B fun a e C=>hwS a e (I c _ C).1
     have nd6:NodeO o W h6 b s S0:=Y.imp (fun n=>⟨n.1.upd B fun y g=>.inl (E y (I c y g).1),n.2⟩) fun⟨e,d,n,sp,sk,on⟩=>⟨e,d,n,sp,sk,on.upd B fun y g=>(I c y g).2⟩
     refine si nd6 by6 N hi (fun _ _=>hsp) ⟨b6,0,none⟩ fun h7 b7 d7 n7 sp7 sk7 on7 hu7=>?_
     have:=turn (T':=Sk) Z on7 hu7 (fun c' D=>⟨fH D,fH D⟩) (.inr (.inr ⟨aX h2l (GX p),fU,b6,fU,t6⟩)) (fun y g=>⟨(hSk y g).1.imp id fun h=>by omega,(hSk y g).2⟩) G
     rw[htp];exact this
end Go.Proofs
namespace Go.Proofs
open Go Go.Lift
theorem Mg{W S:Nat→Prop}{h:ad}{w o:Option Addr}{b:Nat}{l:List Pr}(v:BuckO o W h b l S)(t:By h w o)(F:∀a,o=some a→W a.block)(G:cB l)(q:l.length≤1000000000)(k:ByteArray){K:Option Addr→ad→Prop}
  (H:∀h' b' sp sk,OwnB (fun y=>S y∨h.size≤y) h' b' sp sk (np k l) o→Upd S h h'→K (some ⟨b',0,none⟩) h'):
  HC PG nL [.pointer (some ⟨b,0,none⟩),.pointer w,.string k] [.c .ptr] K h:=by
 refine zE _ w k ?_;unfold rW bG cL yO tc;obtain⟨sp,sk,ow,E,N,J,P,I⟩:=(v.read t).ex;refine gL (d:=0) (n:=0) E (aj.2 ?_);refine GO v t F q fun R p D z L j=>?_
 obtain⟨b2,hM,A,B,u,C,Y,f⟩:=L;refine⟨_,rfl,D,dD (i:=2) b2,?_⟩;refine GM (u.sl (W:=No) fun _ _ _ h=>h) u.cap G q k fun s Q m g=>?_
 have b3:=g.get0 b2;refine⟨_,rfl,OQ (i:=2) b3 (show 2<6 by decide),C4 (i:=2) (c':=ff 0 0 s z true o) b3 rfl fun M T c=>?_⟩
 have U:=aD b2;have O:=j.size;have V:=g.size;have X:=c.size;refine H M p s z ⟨T,hM,fun x=>R.size≤x∧x<Q.size,B,m.within.upd c fun x hx e=>?_,(C.upd g fun _ _ h=>h).upd c fun x hx e=>(f x hx).2.1 e,fun x hx=>⟨.inr (by omega),by omega,by omega⟩,fun x hx=>⟨(f x hx).1,(f x hx).2.1,by have:=(f x hx).2.2;omega⟩⟩ (((j.tr g).wide).trans c fun x hx=>?_)
 ·have e:x=p:=e
  have:=hx.1;omega
 ·have hx:x=p:=hx
  rw[hx];exact hM
set_option maxHeartbeats 2000000 in
theorem FA{W:Nat→Prop}{x:Hs}{w o:Option Addr}:∀(m:Nat),m≤13→∀{b:Nat} {l:List Pr} {S:Nat→Prop} (k:ByteArray) {h:ad},TrieO o W x h m b l S→By h w o→(∀y,W y→y<h.size)→(∀y,S y→W y)→(∀a,o=some a→W a.block)→(∀a,w=some a→¬S a.block)→cB l→l.length≤1000000→∀{K:(Option Addr)×Bool→ad→Prop},
  (∀B Z S',Upd S h B→TrieO o (fun y=>W y∨S' y) x B m Z (np k l) S'→(∀y,S' y→(S y∨h.size≤y)∧y<B.size)→(bW l k=false→Z=b∧Upd No h B)→K (some ⟨Z,0,none⟩,bW l k) B)→
  HC PG jY [MH x w k,.pointer (some ⟨b,0,none⟩),.int .i64 ((13-m:Nat):Int)] [.c .ptr,.c .bool] K h:=by
 intro m;induction m with
 |zero=>
  intro _ b l S k h t by_ hW j J hwS hr hn K Y;have R:∀y,S y→y<h.size:=fun y f=>hW y (j y f)
  refine qD (x.k0,x.k1,x.mask,w,k,ko x k) (some ⟨b,0,none⟩) ((13-0:Nat):Int) ?_;unfold m5 af aJ az nv mC AN rC tG Az jP vW E2 lr EG Bj;refine aQ fun F b1 k1=>?_
  have bk:BuckO o W F b l S:=BuckO.upd0 t k1;have O:=by_.upd0 k1;have bkr:=bk.read O;obtain⟨sp,sk,ow,hb,_⟩:=bkr.ex;refine gL (d:=0) (n:=0) hb (ax.2 ⟨_,vc b1 4,P4 bkr hr (by omega) k fun X v G hv=>?_⟩)
  have b3:=G.get0 b1;have N:=k1.tr G;have z03:=N.size;cases i:bW l k with
  |false=>
   rw[i]at Y;refine ax.2 (Y X b S N.wide (by rw[uv (xk i)];exact(BuckO.upd0 t N).imp (fun n=>⟨n.1.less fun y f=>.inl (f.elim id (j y)),n.2⟩) id) (fun y f=>⟨.inl f,by have:=R y f;omega⟩) fun _=>⟨rfl,N⟩)
  |true=>
   rw[i]at Y;refine aj.2 ⟨w,vc b3 3,_,vc b3 4,?_⟩;refine Mg (bk.upd0 G) (O.upd0 G) J hr (by omega) k fun h5 b5 sp5 sk5 on5 V=>?_
   have z5:=V.size;have hS0:o=none→∀y,¬S y:=fun e y f=>by
    rcases t with⟨_,h⟩|⟨h,_⟩
    ·exact h y f
    ·rw[e]at h;cases h
   exact Y h5 b5 _ (N.wide.tr V) (u0 (W:=fun y=>W y∨(o.isSome=true∧(S y∨X.size≤y)∧y<h5.size)) on5 fun e=>⟨hS0 e,fun y f=>f.elim (fun h=>by have:=hW y h;omega) fun h=>by rw[e]at h;cases h.1⟩) (fun y f=>⟨f.2.1.imp id fun h=>by omega,f.2.2⟩) (fun h=>by cases h)
 |succ m ih=>
  intro hm b l S k h t by_ hW j J hwS hr hn K Y;have gW:∀{B},Upd No h B→∀y,W y→y<B.size:=fun k y f=>cg (hW y f) k.size
  have R:∀y,S y→y<h.size:=fun y f=>hW y (j y f)
  have hl:13-(m+1)<13:=by omega
  have hlev:13-(m+1)=12-m:=by omega
  refine qD (x.k0,x.k1,x.mask,w,k,ko x k) (some ⟨b,0,none⟩) ((13-(m+1):Nat):Int) ?_;unfold m5 af aJ az nv mC AN rC tG Az jP vW E2 lr EG Bj;refine aQ fun F b1 k1=>?_
  have z1:=aD b1;have O:=by_.upd0 k1;have hno:o=none→∀y,¬S y:=fun e=>by subst e;exact t.off.2
  obtain⟨s,S0,T,nd0,h0,C,hd,hs⟩:=(TrieO.upd0 k1 t).view;have ndr:=nd0.read O;obtain⟨d,n,sp,sk,ow,hb,_⟩:=ndr.ex;refine gL hb (aj.2 ⟨_,vc b1 5,Ob hl ?_⟩);rw[hlev];have hi:=xT x (12-m) k;have hsi:=hs _ hi;have M:bW (part x (12-m) (ck x (12-m) k) l) k=bW l k:=Bm;have hrp:cB (part x (12-m) (ck x (12-m) k) l):=pI hr;have hnp:(part x (12-m) (ck x (12-m) k) l).length≤1000000:=aX jA hn
  have H:∀y,S y→y<F.size:=fun y f=>by have:=R y f;omega
  have turn:∀{hz B:ad} {Z d n:Nat} {sp sk:SliceV} {s':Slots} {T':Nat→Prop},Upd (T (ck x (12-m) k)) F hz→OwnN (fun y=>S0 y∨hz.size≤y) B Z d n sp sk s' o→Upd S0 hz B→(∀c,c≠ck x (12-m) k→s'.p c=s.p c∧s'.k c=s.k c)→
    SlotO o (fun y=>W y∨T' y) x hz m s' (ck x (12-m) k) (np k (part x (12-m) (ck x (12-m) k) l)) T'→(∀y,T' y→(T (ck x (12-m) k) y∨F.size≤y)∧y<hz.size)→bW l k=true→
    K (some ⟨Z,0,none⟩,bW l k) B:=fun{hz B Z d n sp sk s' T'} ku on ku2 hp hslot I hth=>by
   have zz:=ku.size;have zz':=ku2.size;have hT0:∀y,T' y→¬S0 y∧∀c,c≠ck x (12-m) k→¬T c y:=fun y f=>by
    rcases(I y f).1 with h|h
    ·exact⟨(C _ y h).2,fun c hc i=>hc (hd _ _ y i h)⟩
    ·exact⟨fun hs=>by have:=H y (h0 y hs);omega,fun c _ i=>by have:=H y (C c y i).1;omega⟩
   refine Y B Z _ ((k1.wide.tr (ku.mono fun y f=>.inl (C _ y f).1)).tr (ku2.mono fun y f=>.inl (h0 y f))) (vY (W:=W) (W1:=fun y=>W y∨T' y) (T:=T) (T':=T') (c0:=ck x (12-m) k) (s:=s) (hz:=hz) on ku2 (fun c hc hcc=>?_) hp ?_ (fun y f=>.inl f) (fun y f=>.inl (j y (h0 y f))) (fun c y f=>.inl (j y (C c y f).1)) (fun y f=>.inr f) (fun c y f=>⟨by have:=H y (C c y f).1;omega,(C c y f).2⟩) (fun y f=>⟨(I y f).2,hT0 y f⟩) hd fun e=>⟨fun y f=>hno e y (h0 y f),fun y f=>f.elim (fun h=>by have:=hW y h;omega) fun h=>(I y h).2⟩) (fun y f=>?_) (fun h=>by rw[hth]at h;cases h)
   ·rw[LM hcc]
    refine((hs c hc).less (W':=fun y=>W y∨T' y) fun y f=>f.elim .inl fun h=>(I y h).1.imp (fun h=>j y (C _ y h).1) id).upd ku (fun y f=>H y (C c y f).1) fun y f=>.inl ⟨.inl (j y (C _ y f).1),fun h=>hcc (hd _ _ y h f)⟩
   ·rw[GJ];exact hslot
   ·have:=Jw (S:=S) (z0:=h.size) h0 (fun c y f=>⟨(C c y f).1,by have:=H y (C c y f).1;omega⟩) (fun y f=>⟨(I y f).1.imp (fun h=>(C _ y h).1) fun h=>by omega,by have:=(I y f).2;omega⟩) (by omega) f
    exact this
  have same:∀{B:ad},Upd No F B→bW l k=false→K (some ⟨b,0,none⟩,false) B:=fun{B} hu i=>by
   have z:=hu.size;have:=Y _ b S (k1.tr hu).wide (by rw[uv (xk i)];exact(TrieO.upd0 (k1.tr hu) t).less fun y f=>.inl (f.elim id (j y))) (fun y f=>⟨.inl f,by have:=H y f;omega⟩) fun _=>⟨rfl,k1.tr hu⟩
   rw[i]at this;exact this
  clear Y;generalize hc:ck x (12-m) k=c at*;generalize hlc:part x (12-m) c l=lc at*;refine BS ndr hi fun X G=>?_
  refine aQ fun h4 b4 k4=>?_
  have b4':h4[X.size]? =some (.cells #[.string HT.1,.string HT.2] ay (0,0)):=b4;refine zV (p:=y6 (s.p c)) b4' fun h5 b5 V=>?_
  have g:Upd No F h5:=(G.tr k4).own V G.size;have z15:=g.size;have c1:=g.get0 b1;have nd5:=nd0.upd0 g;have U:=O.upd0 g;cases hsp:s.p c with
  |some y=>
   rw[hsp]at b5;obtain⟨Q,hk0⟩:lc= [y]∧s.k c=none:=by
    rcases hsi with⟨_,u,_⟩|⟨q,F,u,X,_⟩|⟨_,u,_⟩
    ·rw[hsp]at u;cases u
    ·rw[hsp]at u;cases u;exact⟨F,X⟩
    ·rw[hsp]at u;cases u
   refine ax.2 ⟨y.1,vc b5 0,k,vc c1 4,?_⟩;rw[iU];by_cases e1:y.1=k
   ·have i:bW l k=true:=by rw[←M,Q];exact bV.2 ⟨y,aq.2 rfl,decide_eq_true e1⟩
    rw[decide_eq_true e1];refine aj.2 ⟨w,vc c1 3,L8 nd5 U J hi fun h6 b6 d6 n6 sp6 sk6 on6 E=>?_⟩
    have:=turn (T':=No) g.wide on6 E (fun c' D=>⟨fH D,fH D⟩) (.inl ⟨by rw[Q,uV,if_pos e1];rfl,fU,fU,fun _ h=>h⟩) (fun _ h=>h.elim) i
    rw[i]at this;exact this
   ·rw[decide_eq_false e1]
    have i:bW l k=false:=by
     rw[←M,Q];unfold bW;rw[ol,decide_eq_false e1];rfl
    exact ax.2 (same g i)
  |none=>
   refine aj.2 (Fa (nd5.read U) hi ?_);cases hsk:s.k c with
   |none=>
    have hlc0:lc= []:=by
     rcases hsi with⟨F,_⟩|⟨q,_,u,_⟩|⟨_,_,kb,u,_⟩
     ·exact F
     ·rw[hsp]at u;cases u
     ·rw[hsk]at u;cases u
    exact ax.2 (same g (by rw[←M,hlc0];rfl))
   |some kp=>
    obtain⟨h2l,kb,rfl,tk⟩:2≤lc.length∧∃kb,kp=some ⟨kb,0,none⟩∧TrieO o W x F m kb lc (T c):=by
     rcases hsi with⟨_,_,u,_⟩|⟨q,_,u,_⟩|⟨F,_,kb,u,X⟩
     ·rw[hsk]at u;cases u
     ·rw[hsp]at u;cases u
     ·rw[hsk]at u;cases u;exact⟨F,kb,rfl,X⟩
    refine aj.2 ⟨_,vc c1 0,_,vc c1 1,_,vc c1 2,_,vc c1 3,_,vc c1 4,_,vc c1 5,?_⟩;have ew:IntKind.wrap .i64 (((12-m:Nat):Int)+1)=((13-m:Nat):Int):=by rw[nq (by omega)];omega
    rw[ew];refine ih (by omega) k (TrieO.upd0 g tk) U (gW (k1.tr g)) (fun y f=>j y (C c y f).1) J (fun a e i=>hwS a e (C c _ i).1) hrp hnp fun h6 b6 Sk E t6 hSk hsame=>?_
    have z6:=E.size;rw[M];cases i:bW l k with
    |false=>exact ax.2 (same (g.tr (hsame (by rw[M,i])).2) i)
    |true=>
     have k16:Upd (T c) F h6:=g.wide.tr E;have by6:=U.updS E fun a e i=>hwS a e (C c _ i).1
     have c6:=E.get c1 fun f=>by have:=R _ (C c _ f).1;omega
     have nd6:NodeO o W h6 b s S0:=nd5.imp (fun n=>⟨n.1.upd E fun y f=>.inl (j y (C c y f).1),n.2⟩) fun⟨e,d,n,sp,sk,on⟩=>⟨e,d,n,sp,sk,on.upd E fun y f=>(C c y f).2⟩
     have hdl:=KO (k:=k) hrp;have hdn:(np k lc).length≤1000000:=aX N7 hnp;refine aj.2 (Ou (t6.read by6) hdn fun h7 p hu7 hp=>?_)
     refine aQ fun h8 b8 k8=>?_
     have b8':h8[h7.size]? =some (.cells #[.string HT.1,.string HT.2] ay (0,0)):=b8;refine zV (p:=p) b8' fun h9 b9 hu9=>?_
     have A:Upd No h6 h9:=(hu7.tr k8).own hu9 hu7.size;have z69:=A.size;have c9:=A.get0 c6;have nd9:=nd6.upd0 A;have by9:=by6.upd0 A;have k19:Upd (T c) F h9:=k16.tr A.wide;refine aH (fun e=>?_) fun e=>?_
     ·refine⟨w,vc c9 3,p.1,vc b9 0,p.2,vc b9 1,oq nd9 by9 J (fun y f=>by have:=H y (h0 y f);omega) hi (fun y f=>by rw[hsp]at f;cases f) p fun h10 b10 d10 n10 sp10 sk10 P L=>?_⟩
      have:=turn (T':=No) k19 P L (fun c' D=>⟨fH D,fH D⟩) (.inr (.inl ⟨p,hp e,fU,fU,fun _ h=>h⟩)) (fun _ h=>h.elim) i
      rw[i]at this;exact this
     ·refine⟨w,vc c9 3,si nd9 by9 J hi (fun _ _=>hsp) ⟨b6,0,none⟩ fun h10 b10 d10 n10 sp10 sk10 P L=>?_⟩
      have:=turn (T':=Sk) k19 P L (fun c' D=>⟨fH D,fH D⟩) (.inr (.inr ⟨by omega,fU,b6,fU,TrieO.upd0 A t6⟩)) (fun y f=>⟨(hSk y f).1.imp id fun h=>by omega,by have:=(hSk y f).2;omega⟩) i
      rw[i]at this;exact this
end Go.Proofs
namespace Go.Proofs
open Go Go.Lift
theorem DF{h:ad}{b:Nat}{K:Option Addr→ad→Prop}(a:K (some ⟨b,0,none⟩) h):HC PG kW [.pointer (some ⟨b,0,none⟩)] [.c .ptr] K h:=by
 refine FX _ ?_;unfold yD;exact aj.2 a
theorem zS{h:ad}{b:Nat}{K:Option Addr→ad→Prop}(a:K (some ⟨b,0,none⟩) h):HC PG pq [.pointer (some ⟨b,0,none⟩)] [.c .ptr] K h:=by
 refine FL _ ?_;unfold yr;exact aj.2 a
structure Can(o w:Option Addr)(W S:Nat→Prop)(h:ad):Prop where
 by_:By h w o
 lt:∀y,W y→y<h.size
 sub:∀y,S y→W y
 tok:∀a,o=some a→W a.block
 off:∀a,w=some a→¬S a.block
theorem Can.upd0{o w:Option Addr}{W S:Nat→Prop}{h a:ad}(c:Can o w W S h)(k:Upd No h a):Can o w W S a:=⟨c.by_.upd0 k,fun y b=>cg (c.lt y b) k.size,c.sub,c.tok,c.off⟩
theorem Fz{o w:Option Addr}{W S:Nat→Prop}{x:Hs}{h:ad}{b:Nat}{l:List Pr}(t:TrieO o W x h 13 b l S)(c:Can o w W S h)(Y:cB l)(V:l.length≤1000000)(p:Pr){K:Option Addr×Bool→ad→Prop}
  (Z:∀h' b' S',Upd S h h'→TrieO o (fun y=>W y∨S' y) x h' 13 b' (gG p l) S'→(∀y,S' y→(S y∨h.size≤y)∧y<h'.size)→K (some ⟨b',0,none⟩, !bW l p.1) h'):
  HC PG ur [.agg #[.int .u64 x.k0,.int .u64 x.k1,.int .u64 x.mask],.pointer w,.pointer (some ⟨b,0,none⟩),.agg #[.string p.1,.string p.2]] [.c .ptr,.c .bool] K h:=by
 refine Hy (x.k0,x.k1,x.mask) w (some ⟨b,0,none⟩) p ?_;unfold Ay af aJ az fT y2 uI rC tG vW Qb Qj;refine aQ fun E b1 k1=>aQ fun B b2 Q=>?_
 have d:∀{h':ad},Upd No B h'→∀i,aK h' (adr ⟨h.size,0,none⟩ i)=(#[.int .u64 x.k0,.int .u64 x.k1,.int .u64 x.mask]:Array Value)[i]?:=fun k i=>vc (k.get0 (Q.get0 b1)) i
 have s:∀{h':ad},Upd No B h'→∀i,aK h' (adr ⟨E.size,0,none⟩ i)=(#[.string p.1,.string p.2]:Array Value)[i]?:=fun k i=>vc (k.get0 b2) i
 have z:=Upd.refl No B;have O:=k1.tr Q;let H:List Value:= [.int .u64 x.k0,.int .u64 x.k1,.int .u64 x.mask,.pointer w,.string p.1,.int .u64 (ko x p.1)]
 have fin:∀{f:ad} {j:Nat},Upd No B f→f[j]? =some (.cells H.toArray kM (0,0))→
   ∃v15:Int,aK f (adr ⟨j,0,none⟩ 0)=some (.int .u64 v15)∧
    ∃v16:Int,aK f (adr ⟨j,0,none⟩ 1)=some (.int .u64 v16)∧
    ∃v17:Int,aK f (adr ⟨j,0,none⟩ 2)=some (.int .u64 v17)∧
    ∃v18:Option Addr,aK f (adr ⟨j,0,none⟩ 3)=some (.pointer v18)∧
    ∃v19:ByteArray,aK f (adr ⟨j,0,none⟩ 4)=some (.string v19)∧
    ∃v20:Int,aK f (adr ⟨j,0,none⟩ 5)=some (.int .u64 v20)∧
    ∃v21:ByteArray,aK f (adr ⟨E.size,0,none⟩ 0)=some (.string v21)∧
    ∃v22:ByteArray,aK f (adr ⟨E.size,0,none⟩ 1)=some (.string v22)∧
    HC PG kW [.pointer (some ⟨b,0,none⟩)] [.c .ptr] (fun(N:Option Addr) e=>
     ((aK e (adr ⟨E.size,0,none⟩ 0)=some (.string v21)∧aK e (adr ⟨E.size,0,none⟩ 1)=some (.string v22))∧
      ((aK e (adr ⟨j,0,none⟩ 0)=some (.int .u64 v15)∧aK e (adr ⟨j,0,none⟩ 1)=some (.int .u64 v16)∧aK e (adr ⟨j,0,none⟩ 2)=some (.int .u64 v17)∧aK e (adr ⟨j,0,none⟩ 3)=some (.pointer v18)∧aK e (adr ⟨j,0,none⟩ 4)=some (.string v19)∧aK e (adr ⟨j,0,none⟩ 5)=some (.int .u64 v20))∧
       HC PG gO [.agg #[.int .u64 v15,.int .u64 v16,.int .u64 v17,.pointer v18,.string v19,.int .u64 v20],.pointer N,.agg #[.string v21,.string v22],.int .i64 0] [.c .ptr,.c .bool,.c .bool] (fun(F:(Option Addr)×Bool×Bool) L=>
        K (F.1,F.2.1) L) e))) f:=fun{f j} a J=>by
  have n:∀i,aK f (adr ⟨j,0,none⟩ i)=H.toArray[i]?:=fun i=>vc J i
  refine⟨_,n 0,_,n 1,_,n 2,_,n 3,_,n 4,_,n 5,p.1,s a 0,p.2,s a 1,DF ?_⟩;refine⟨⟨s a 0,s a 1⟩,⟨n 0,n 1,n 2,n 3,n 4,n 5⟩,?_⟩;have v:=O.tr a;have D:=c.upd0 v;have z4:=v.size;exact Pn 13 (al _) p (TrieO.upd0 v t) D.by_ D.lt D.sub D.tok D.off Y V fun R I ch X A T C _ _=>Z R I X (v.wide.tr A) T fun y G=>⟨(C y G).1.imp id fun h=>by omega,(C y G).2⟩
 have own:∀{M f:ad} {b:Nat},B.size≤b→Upd (· =b) M f→Upd No B M→Upd No B f:=fun U hu k=>k.trans hu fun y G=>.inr (G▸U)
 refine⟨_,d z 0,_,d z 1,_,d z 2,_,s z 0,_,d z 0,_,d z 1,_,d z 2,_,s z 0,?_,?_⟩
 ·refine sB fun M m=>⟨s m 0,⟨d m 0,d m 1,d m 2⟩,?_⟩
  refine aQ fun f P q=>?_
  have a:=m.tr q;refine⟨s a 0,⟨d a 0,d a 1,d a 2⟩,?_⟩;refine dT (vs:=H) P rfl fun h5 b5 u=>fin (own m.size u a) b5
 ·refine aQ fun f P q=>?_
  refine⟨s q 0,⟨d q 0,d q 1,d q 2⟩,s q 0,⟨d q 0,d q 1,d q 2⟩,?_⟩;refine sB fun h5 u=>?_
  have g:=q.tr u;refine⟨s g 0,⟨d g 0,d g 1,d g 2⟩,?_⟩;exact dT (vs:=H) (u.get0 P) rfl fun R I A=>fin (own (al _) A g) I
theorem C9{o w:Option Addr}{W S:Nat→Prop}{x:Hs}{h:ad}{b:Nat}{l:List Pr}(t:TrieO o W x h 13 b l S)(c:Can o w W S h)(q:cB l)(n:l.length≤1000000)(k:ByteArray){K:Option Addr×Bool→ad→Prop}
  (u:∀h' b' S',Upd S h h'→TrieO o (fun y=>W y∨S' y) x h' 13 b' (np k l) S'→(∀y,S' y→(S y∨h.size≤y)∧y<h'.size)→(bW l k=false→b'=b)→K (some ⟨b',0,none⟩,bW l k) h'):
  HC PG sO [.agg #[.int .u64 x.k0,.int .u64 x.k1,.int .u64 x.mask],.pointer w,.pointer (some ⟨b,0,none⟩),.string k] [.c .ptr,.c .bool] K h:=by
 refine FY (x.k0,x.k1,x.mask) w (some ⟨b,0,none⟩) k ?_;unfold yE af y2 uI vW;refine aQ fun B b1 k1=>DF ?_
 refine⟨_,vc b1 0,_,vc b1 1,_,vc b1 2,_,vc b1 0,_,vc b1 1,_,vc b1 2,?_⟩;refine sB fun D e=>?_
 have j:=e.get0 b1;refine⟨⟨vc j 0,vc j 1,vc j 2⟩,?_⟩;have a:=k1.tr e;have d:=c.upd0 a;have C:=a.size;exact FA 13 (al _) k (TrieO.upd0 a t) d.by_ d.lt d.sub d.tok d.off q n fun z A s i p f g=>u z A s (a.wide.tr i) p (fun y m=>⟨(f y m).1.imp id fun h=>by omega,(f y m).2⟩) fun v=>(g v).1
def RadO(o:Option Addr)(W:Nat→Prop)(h:ad)(b:Nat)(l:List Pr)(S:Nat→Prop):Prop:=∃w F,RxO o W h b ⟨#[]⟩ w F S∧eH F∧∀k v,(k,v)∈mL w F↔∃p∈l,p.1.data.toList=k∧p.2=v
theorem ET{o w:Option Addr}{W S:Nat→Prop}{h:ad}{b:Nat}{l:List Pr}(t:RadO o W h b l S)(c:Can o w W S h)(m:cB l)(p:Pr)(C:p.1.size≤1000000){K:Option Addr×Bool→ad→Prop}
  (B:∀h' b' S' a,Upd S h h'→RadO o (fun y=>W y∨S' y) h' b' (gG p l) S'→(∀y,S' y→(S y∨h.size≤y)∧y<h'.size)→K (some ⟨b',0,none⟩,a) h'):
  HC PG uk [.pointer w,.pointer (some ⟨b,0,none⟩),.agg #[.string p.1,.string p.2]] [.c .ptr,.c .bool] K h:=by
 refine Hm w (some ⟨b,0,none⟩) p ?_;unfold Ao az tG MO;refine aQ fun L b1 k1=>?_
 refine⟨p.1,vc b1 0,p.2,vc b1 1,zS ⟨vc b1 1,vc b1 0,?_⟩⟩;obtain⟨w0,F,A,H,I⟩:=t;have f:=c.upd0 k1;have J:=k1.size;refine Lq (p.1.size+1) p.1 p.2 (by omega) C (A.upd0 k1) f.by_ f.lt f.sub f.tok f.off H fun G b3 w' F' E a M s u i n j z D=>?_
 refine B G b3 E a (k1.wide.tr s) ⟨w',F',u,n,fun k v=>?_⟩ fun y x=>⟨(i y x).1.imp id fun h=>by omega,(i y x).2⟩
 rw[lJ,j k v,←lJ,I k v];constructor
 ·rintro(⟨rfl,rfl⟩|⟨d,q,g,rfl,rfl⟩)
  ·exact⟨p,(qp m).2 (.inl rfl),rfl,rfl⟩
  ·exact⟨q,(qp m).2 (.inr ⟨g,fun e=>d (by rw[e])⟩),rfl,rfl⟩
 ·rintro⟨q,g,rfl,rfl⟩
  rcases(qp m).1 g with rfl|⟨g,d⟩
  ·exact .inl ⟨rfl,rfl⟩
  ·exact .inr ⟨fun e=>d (pT.1 e),q,g,rfl,rfl⟩
theorem Il{w:Option ByteArray}{F:Fo}{l:List Pr}(h:∀k v,(k,v)∈mL w F↔∃p∈l,p.1.data.toList=k∧p.2=v)(a:Fit l):∀j v,nu F j v→j.length≤1000000:=fun j v hi=>by
 obtain⟨p,b,e,_⟩:=(h j v).1 (lJ.2 (.inr hi));have:=(a p b).1;rw[←e,kN];omega
theorem C1{o w:Option Addr}{W S:Nat→Prop}{h:ad}{b:Nat}{l:List Pr}(t:RadO o W h b l S)(c:Can o w W S h)(I:Fit l)(k:ByteArray){K:Option Addr×Bool→ad→Prop}
  (G:∀h' b' S',Upd S h h'→RadO o (fun y=>W y∨S' y) h' b' (np k l) S'→(∀y,S' y→(S y∨h.size≤y)∧y<h'.size)→(bW l k=false→b'=b)→K (some ⟨b',0,none⟩,bW l k) h'):
  HC PG sG [.pointer w,.pointer (some ⟨b,0,none⟩),.string k] [.c .ptr,.c .bool] K h:=by
 refine FM w (some ⟨b,0,none⟩) k ?_;unfold yu Az;refine zS ?_;obtain⟨w0,F,E,M,B⟩:=t;refine Ls (k.size+1) k (by omega) E c.by_ c.lt c.sub c.tok c.off M (Il B I) fun L b3 w' F' J a A C n x z g m=>?_
 have i:∀v,oK w0 F k.data.toList v↔(k,v)∈l:=fun v=>by
  rw[←lJ,B];constructor
  ·rintro⟨p,s,D,rfl⟩
   rw[←pT.1 D];exact s
  ·intro s;exact⟨_,s,rfl,rfl⟩
 have u:a=bW l k:=by
  cases a with
  |false=>
   refine(xA fun q d e=>(g rfl).2.2.2.2 q.2 ((i _).2 ?_)).symm
   rw[←e];exact d
  |true=>
   obtain⟨v,hv⟩:=m rfl;exact(bV.2 ⟨_,(i v).1 hv,decide_eq_true rfl⟩).symm
 subst u;refine G L b3 J A ⟨w',F',C,x,fun j v=>?_⟩ n fun H=>(g H).1
 rw[lJ,z j v,←lJ,B];constructor
 ·rintro⟨f,q,d,rfl,rfl⟩
  exact⟨q,AX.2 ⟨d,fun e=>f (by rw[e])⟩,rfl,rfl⟩
 ·rintro⟨q,d,rfl,rfl⟩
  obtain⟨d,f⟩:=AX.1 d;exact⟨fun e=>f (pT.1 e),q,d,rfl,rfl⟩
end Go.Proofs
namespace Go.Proofs
open Go Go.Lift
def CU(p:Pr):Int:=if 256<p.1.size then 2 else if 4096<p.2.size then 3 else 0
theorem DL{p:Pr}(h:CU p=0):p.1.size≤256∧p.2.size≤4096:=by
 unfold CU at h;split at h
 ·cases h
 ·split at h
  ·cases h
  ·omega
theorem Kw{p:Pr}{h:ad}{K:Int→ad→Prop}(a:K (CU p) h):HC PG pu [.string p.1,.string p.2] [.c (.int .i64)] K h:=by
 refine FT p.1 p.2 ?_;unfold yA;unfold CU at a;refine aH (fun e=>?_) fun e=>aH (fun e'=>?_) fun e'=>?_
 ·rw[if_pos (by omega)]at a;exact a
 ·rw[if_neg (by omega),if_pos (by omega)]at a;exact a
 ·rw[if_neg (by omega),if_neg (by omega)]at a;exact a
theorem Ph{p:Pr}{h:ad}{K:Int→ad→Prop}(a:K (CU p) h):HC PG qw [.string p.1,.string p.2] [.c (.int .i64)] K h:=by
 refine Am p.1 p.2 ?_;unfold uE;unfold CU at a;refine aH (fun e=>?_) fun e=>aH (fun e'=>?_) fun e'=>?_
 ·rw[if_pos (by omega)]at a;exact a
 ·rw[if_neg (by omega),if_pos (by omega)]at a;exact a
 ·rw[if_neg (by omega),if_neg (by omega)]at a;exact a
end Go.Proofs
namespace Go.Proofs
open Go Go.Lift
def Fq(l:List Pr)(k:ByteArray):Int:=if 256<k.size then 2 else if bW l k then 0 else 4
def o6(l:List Pr)(p:Pr):List Pr:=if CU p=0 then gG p l else l
def pa(l:List Pr)(k:ByteArray):List Pr:=if 256<k.size then l else np k l
theorem RadO.upd{o:Option Addr}{W M S:Nat→Prop}{h a:ad}{b:Nat}{l:List Pr}(k:Upd M h a)(t:RadO o W h b l S)(d:∀y,S y→y<h.size)(hm:∀y,M y→(W y∧¬S y)∨h.size≤y):RadO o W a b l S:=let⟨w,F,r,c,e⟩:=t;⟨w,F,r.upd k d hm,c,e⟩
theorem RadO.less{o:Option Addr}{W W' S:Nat→Prop}{h:ad}{b:Nat}{l:List Pr}(hm:∀y,W' y→W y∨h.size≤y)(t:RadO o W h b l S):RadO o W' h b l S:=let⟨w,F,r,c,e⟩:=t;⟨w,F,r.less hm,c,e⟩
def TreeO(o:Option Addr)(W:Nat→Prop)(h:ad)(a:Int)(x:Hs)(t:Tr)(l:List Pr)(S:Nat→Prop):Prop:=(a=0∧∃b,t=(0,x.k0,x.k1,x.mask,some ⟨b,0,none⟩,none)∧TrieO o W x h 13 b l S)∨(a=1∧∃b,t=(1,0,0,0,none,some ⟨b,0,none⟩)∧RadO o W h b l S)
theorem Bl{o:Option Addr}{W:Nat→Prop}{h:ad}{a:Int}{x:Hs}{t:Tr}{l:List Pr}(i:TreeIs W h a x t l):TreeO o W h a x t l No:=
 i.imp (fun⟨e,b,c,t⟩=>⟨e,b,c,Gi t⟩) fun⟨e,b,c,t⟩=>⟨e,b,c,let⟨w,F,d,f,g⟩:=t.ex;⟨w,F,.inl ⟨d,fun _ h=>h⟩,f,g⟩⟩
theorem TreeO.upd{o:Option Addr}{W M S:Nat→Prop}{h f:ad}{a:Int}{x:Hs}{t:Tr}{l:List Pr}(k:Upd M h f)(i:TreeO o W h a x t l S)(d:∀y,S y→y<h.size)(hm:∀y,M y→(W y∧¬S y)∨h.size≤y):TreeO o W f a x t l S:=
 i.imp (fun⟨e,b,c,t⟩=>⟨e,b,c,TrieO.upd k t d hm⟩) fun⟨e,b,c,t⟩=>⟨e,b,c,t.upd k d hm⟩
theorem TreeO.upd0{o:Option Addr}{W S:Nat→Prop}{h f:ad}{a:Int}{x:Hs}{t:Tr}{l:List Pr}(k:Upd No h f)(i:TreeO o W h a x t l S):TreeO o W f a x t l S:=
 i.imp (fun⟨e,b,d,t⟩=>⟨e,b,d,TrieO.upd0 k t⟩) fun⟨e,b,d,w,F,r,c⟩=>⟨e,b,d,w,F,r.upd0 k,c⟩
theorem TreeO.less{o:Option Addr}{W W' S:Nat→Prop}{h:ad}(hm:∀b,W' b→W b∨h.size≤b){a:Int}{x:Hs}{t:Tr}{l:List Pr}(i:TreeO o W h a x t l S):TreeO o W' h a x t l S:=
 i.imp (fun⟨e,b,c,t⟩=>⟨e,b,c,TrieO.less hm t⟩) fun⟨e,b,c,t⟩=>⟨e,b,c,t.less hm⟩
theorem TreeO.freeze{o:Option Addr}{W W' S:Nat→Prop}{h:ad}(f:∀y,W' y→W y)(d:OwOk W' h o){a:Int}{x:Hs}{t:Tr}{l:List Pr}(i:TreeO o W h a x t l S)(g:∀y,S y→¬W' y):TreeIs W' h a x t l:=
 i.imp (fun⟨e,b,c,t⟩=>⟨e,b,c,TrieO.freeze f d t g⟩) fun⟨e,b,c,w,F,r,c1,c2⟩=>⟨e,b,c,⟨w,F,r.freeze f d g,c1,c2⟩⟩
theorem TreeO.read{o w:Option Addr}{W S:Nat→Prop}{h:ad}{b:Int}{x:Hs}{t:Tr}{l:List Pr}(i:TreeO o W h b x t l S)(by_:By h w o):TreeIs No h b x t l:=
 i.freeze (fun _ h=>h.elim) (fun a e=>⟨id,by_.plain a (by_.tok e)⟩) fun _ _ h=>h
theorem Can.pro{o w:Option Addr}{W S:Nat→Prop}{h b:ad}(c:Can o w W S h)(k:Upd No h b):Can o w (Pro W h b) S b:=⟨c.by_.upd0 k,Pro.lt c.lt k,fun y d=>.inl (c.sub y d),fun a e=>.inl (c.tok a e),c.off⟩
theorem TreeO.pro{o:Option Addr}{W S:Nat→Prop}{h b:ad}(k:Upd No h b){a:Int}{x:Hs}{t:Tr}{l:List Pr}(i:TreeO o W h a x t l S):TreeO o (Pro W h b) b a x t l S:=(i.less Pro.hm).upd0 k
theorem TreeO.loc{o:Option Addr}{W S d:Nat→Prop}{h f g j:ad}{b:Nat}{a:Int}{x:Hs}{t:Tr}{l:List Pr}(i:TreeO o (fun y=>Pro W h f y∨d y) g a x t l d)(k:Upd (· =b) g j)(m:h.size≤b)(p:b<f.size)(q:∀y,S y→y<h.size)(e:∀y,d y→(S y∨f.size≤y)∧y<g.size):TreeO o (fun y=>Pro W h f y∨d y) j a x t l d:=
 i.upd k (fun y c=>(e y c).2) fun y c=>by
  have c:y=b:=c;subst c;refine .inl ⟨.inl (.inr ⟨m,p⟩),fun n=>?_⟩
  rcases(e y n).1 with h|h
  ·have:=q y h;omega
  ·omega
theorem Lg{o w:Option Addr}{W S:Nat→Prop}{x:Hs}{h:ad}{u:Int}{t:Tr}{l:List Pr}(i:TreeO o W h u x t l S)(c:Can o w W S h)(U:cB l)(Z:l.length≤1000000)(p:Pr){K:Tr×Int→ad→Prop}
  (F:∀h' v z,Upd S h h'→TreeO o (fun y=>W y∨z y) h' u x v (o6 l p) z→(∀y,z y→(S y∨h.size≤y)∧y<h'.size)→(CU p≠0→v=t)→K (v,CU p) h'):HC PG nH [Mx t,.pointer w,.agg #[.string p.1,.string p.2]] [.agg [.int .i64,.int .u64,.int .u64,.int .u64,.ptr,.ptr],.c (.int .i64)] K h:=by
 unfold o6 at F;have s:∀y,S y→y<h.size:=fun y a=>c.lt y (c.sub y a)
 refine zu t w p ?_;unfold rO bo af cz aJ az fT uI jO rC yI tH cL Dy tG;refine aQ fun V b1 k1=>aQ fun L b2 O=>aQ fun T b3 N=>?_
 have z1:=aD b1;have z2:=aD b2;have z3:=aD b3;have s1:h.size≤V.size:=k1.size;have s2:V.size≤L.size:=O.size;have s3:=N.size;have B:=(k1.tr O).tr N;have n:=N.get0 (O.get0 b1);have H:=N.get0 b2;refine⟨_,vc H 0,_,vc H 1,Kw (p:=p) ?_⟩;by_cases e:CU p=0
 ·rw[if_pos e]at F
  have M:=DL e;rw[e]at F⊢;refine aj.2 ?_;have i3:=i.pro B;have X:=c.pro B;have fin:∀{A D:ad} {v:Tr} {z:Nat→Prop},Upd S T A→TreeO o (fun y=>Pro W h T y∨z y) A u x v (gG p l) z→(∀y,z y→(S y∨T.size≤y)∧y<A.size)→D[h.size]? =some (.cells (nW v).toArray bB (0,0))→Upd (· =h.size) A D→D[L.size]? =some (.cells (nW DC).toArray bB (0,0))→∀{C:ad},C[L.size]? =some (.cells (nW v).toArray bB (0,0))→Upd (· =L.size) D C→K (v,0) C:=fun{A D v z} I Y g j f G {C} k m=>by
   have z4:=I.size;have z5:=f.size;have z6:=m.size;have i5:=Y.loc f (al _) (by omega) s g;have i6:=i5.loc m (by omega) (by omega) s fun y a=>⟨(g y a).1,by have:=(g y a).2;omega⟩
   refine F C v z (((B.wide.tr I).trans f fun y a=>.inr (by have a:y=h.size:=a;omega)).trans m fun y a=>.inr (by have a:y=L.size:=a;omega)) (i6.less fun y a=>.inl (a.imp .inl id)) (fun y a=>⟨(g y a).1.imp id fun h=>by omega,by have:=(g y a).2;omega⟩) fun h=>absurd rfl h
  rcases i3 with⟨rfl,b,rfl,R⟩|⟨rfl,b,rfl,R⟩
  ·refine⟨_,vc n 0,aj.2 ⟨_,kJ n 1 0,_,kJ n 1 1,_,kJ n 1 2,_,vc n 4,p.1,vc H 0,p.2,vc H 1,?_⟩⟩
   refine Fz R X U Z p fun A q S4 d Q g=>?_
   have J:∀{y},h.size≤y→¬S y:=fun a M=>by have:=s _ M;omega
   refine pj (i:=4) (c':=(nW (0,x.k0,x.k1,x.mask,some ⟨q,0,none⟩,none)).toArray) (d.get n (J (al _))) (show 4<6 by decide) rfl fun D j f=>?_
   refine⟨_,vc j 0,_,vc j 1,_,vc j 2,_,vc j 3,_,vc j 4,_,vc j 5,?_⟩;have G:=f.oth (d.get b3 (J (by omega))) (by omega);refine dT (c:=nW DC) (vs:=nW (0,x.k0,x.k1,x.mask,some ⟨q,0,none⟩,none)) G rfl fun C k m=>?_
   exact⟨_,vc k 0,_,vc k 1,_,vc k 2,_,vc k 3,_,vc k 4,_,vc k 5,fin d (.inl ⟨rfl,q,rfl,Q⟩) g j f G k m⟩
  ·refine⟨_,vc n 0,ax.2 ⟨_,vc n 5,p.1,vc H 0,p.2,vc H 1,?_⟩⟩
   refine ET R X U p (by omega) fun A q S4 P d Q g=>?_
   have J:∀{y},h.size≤y→¬S y:=fun a M=>by have:=s _ M;omega
   refine pj (i:=5) (c':=(nW (1,0,0,0,none,some ⟨q,0,none⟩)).toArray) (d.get n (J (al _))) (show 5<6 by decide) rfl fun D j f=>?_
   refine⟨_,vc j 0,_,vc j 1,_,vc j 2,_,vc j 3,_,vc j 4,_,vc j 5,?_⟩;have G:=f.oth (d.get b3 (J (by omega))) (by omega);refine dT (c:=nW DC) (vs:=nW (1,0,0,0,none,some ⟨q,0,none⟩)) G rfl fun C k m=>?_
   exact⟨_,vc k 0,_,vc k 1,_,vc k 2,_,vc k 3,_,vc k 4,_,vc k 5,fin d (.inr ⟨rfl,q,rfl,Q⟩) g j f G k m⟩
 ·rw[if_neg e]at F
  rw[show(CU p !=0)=true by simpa using e]
  refine ax.2 ⟨_,vc n 0,_,vc n 1,_,vc n 2,_,vc n 3,_,vc n 4,_,vc n 5,?_⟩;refine dT (c:=nW DC) (vs:=nW t) b3 rfl fun A q d=>?_
  have E:=B.own d (by omega);exact⟨_,vc q 0,_,vc q 1,_,vc q 2,_,vc q 3,_,vc q 4,_,vc q 5,F A t S E.wide ((i.upd0 E).less fun y a=>.inl (a.elim id (c.sub y))) (fun y a=>⟨.inl a,by have:=s y a;have:=E.size;omega⟩) fun _=>rfl⟩
end Go.Proofs
namespace Go.Proofs
open Go Go.Lift
theorem EM{o w:Option Addr}{W S:Nat→Prop}{x:Hs}{h:ad}{u:Int}{t:Tr}{l:List Pr}(i:TreeO o W h u x t l S)(c:Can o w W S h)(hr:cB l)(hf:Fit l)(hn:l.length≤1000000)(k:ByteArray){K:Tr×Int→ad→Prop}
  (M:∀h' n q,Upd S h h'→TreeO o (fun y=>W y∨q y) h' u x n (pa l k) q→(∀y,q y→(S y∨h.size≤y)∧y<h'.size)→(Fq l k≠0→n=t)→K (n,Fq l k) h'):HC PG lx [Mx t,.pointer w,.string k] [.agg [.int .i64,.int .u64,.int .u64,.int .u64,.ptr,.ptr],.c (.int .i64)] K h:=by
 unfold pa Fq at M;have D:∀y,S y→y<h.size:=fun y d=>c.lt y (c.sub y d)
 refine vh t w k ?_;unfold pd bo af cz aJ fT nv uI jO yI tH cL Dy Az;refine aQ fun j b1 k1=>aQ fun G b2 k2=>?_
 have z1:=aD b1;have z2:=aD b2;have s1:h.size≤j.size:=k1.size;have X:=k1.tr k2;have c1:=k2.get0 b1;refine Kw (p:=(k,⟨#[]⟩)) ?_;by_cases e:256<k.size
 ·rw[if_pos e,if_pos e]at M
  rw[show CU (k,(⟨#[]⟩:ByteArray))=2 from if_pos e]
  refine ax.2 ⟨_,vc c1 0,_,vc c1 1,_,vc c1 2,_,vc c1 3,_,vc c1 4,_,vc c1 5,?_⟩;refine dT (c:=nW DC) (vs:=nW t) b2 rfl fun J L F=>?_
  have s:=X.own F s1;exact⟨_,vc L 0,_,vc L 1,_,vc L 2,_,vc L 3,_,vc L 4,_,vc L 5,M J t S s.wide ((i.upd0 s).less fun y d=>.inl (d.elim id (c.sub y))) (fun y d=>⟨.inl d,by have:=D y d;have:=s.size;omega⟩) fun _=>rfl⟩
 rw[if_neg e,if_neg e]at M;rw[show CU (k,(⟨#[]⟩:ByteArray))=0 by unfold CU;rw[if_neg e];exact if_neg (Nat.not_lt.2 (Nat.zero_le 4096))]
 refine aj.2 ?_;refine⟨_,vc c1 0,_,vc c1 1,_,vc c1 2,_,vc c1 3,_,vc c1 4,_,vc c1 5,?_⟩;refine aQ fun h3 b3 k3=>?_
 have z3:=aD b3;have s2:j.size≤G.size:=k2.size;refine dT (c:=nW DC) (vs:=nW t) b3 rfl fun J L F=>?_
 have s:Upd No h J:=(X.tr k3).own F (by omega);have T:Upd No G J:=k3.own F (al _);have s4:h3.size≤J.size:=F.size;have H:=T.get0 c1;have d4:=T.get0 b2;have i4:=i.pro s;have V:=c.pro s;have Q:∀{y},h.size≤y→¬S y:=fun d hs=>by have:=D _ hs;omega
 have fin:∀{a:ad} {n:Tr} {q:Nat→Prop},Upd S h a→a[h.size]? =some (.cells (nW n).toArray bB (0,0))→a[j.size]? =some (.cells (nW DC).toArray bB (0,0))→a[G.size]? =some (.cells (nW t).toArray bB (0,0))→TreeO o (fun y=>Pro W h J y∨q y) a u x n (np k l) q→(∀y,q y→(S y∨J.size≤y)∧y<a.size)→(bW l k=false→n=t)→
   CondP (!bW l k) (∃v41:Int,aK a (adr (aA G) 0)=some (.int .i64 v41)∧
    ∃v42:Int,aK a (adr (aA G) 1)=some (.int .u64 v42)∧
    ∃v43:Int,aK a (adr (aA G) 2)=some (.int .u64 v43)∧
    ∃v44:Int,aK a (adr (aA G) 3)=some (.int .u64 v44)∧
    ∃v45:Option Addr,aK a (adr (aA G) 4)=some (.pointer v45)∧
    ∃v46:Option Addr,aK a (adr (aA G) 5)=some (.pointer v46)∧
    (rK a (some (aA j)) 0 [.int .i64 v41,.int .u64 v42,.int .u64 v43,.int .u64 v44,.pointer v45,.pointer v46]∧
     At (gD a (aA j) 0 [.int .i64 v41,.int .u64 v42,.int .u64 v43,.int .u64 v44,.pointer v45,.pointer v46]) (fun B=>
      ∃v48:Int,aK B (adr (aA j) 0)=some (.int .i64 v48)∧
      ∃v49:Int,aK B (adr (aA j) 1)=some (.int .u64 v49)∧
      ∃v50:Int,aK B (adr (aA j) 2)=some (.int .u64 v50)∧
      ∃v51:Int,aK B (adr (aA j) 3)=some (.int .u64 v51)∧
      ∃v52:Option Addr,aK B (adr (aA j) 4)=some (.pointer v52)∧
      ∃v53:Option Addr,aK B (adr (aA j) 5)=some (.pointer v53)∧
      K ((v48,v49,v50,v51,v52,v53),4) B))) (
    ∃v54:Int,aK a (adr (aA h) 0)=some (.int .i64 v54)∧
    ∃v55:Int,aK a (adr (aA h) 1)=some (.int .u64 v55)∧
    ∃v56:Int,aK a (adr (aA h) 2)=some (.int .u64 v56)∧
    ∃v57:Int,aK a (adr (aA h) 3)=some (.int .u64 v57)∧
    ∃v58:Option Addr,aK a (adr (aA h) 4)=some (.pointer v58)∧
    ∃v59:Option Addr,aK a (adr (aA h) 5)=some (.pointer v59)∧
    (rK a (some (aA j)) 0 [.int .i64 v54,.int .u64 v55,.int .u64 v56,.int .u64 v57,.pointer v58,.pointer v59]∧
     At (gD a (aA j) 0 [.int .i64 v54,.int .u64 v55,.int .u64 v56,.int .u64 v57,.pointer v58,.pointer v59]) (fun z=>
      ∃v61:Int,aK z (adr (aA j) 0)=some (.int .i64 v61)∧
      ∃v62:Int,aK z (adr (aA j) 1)=some (.int .u64 v62)∧
      ∃v63:Int,aK z (adr (aA j) 2)=some (.int .u64 v63)∧
      ∃v64:Int,aK z (adr (aA j) 3)=some (.int .u64 v64)∧
      ∃v65:Option Addr,aK z (adr (aA j) 4)=some (.pointer v65)∧
      ∃v66:Option Addr,aK z (adr (aA j) 5)=some (.pointer v66)∧
      K ((v61,v62,v63,v64,v65,v66),0) z))):=fun{a n q} Z O Y N i6 E m=>by
  have done:∀{I:ad},Upd (· =j.size) a I→(bW l k=false→n=t)→Upd S h I∧TreeO o (fun y=>W y∨q y) I u x n (np k l) q∧∀y,q y→(S y∨h.size≤y)∧y<I.size:=fun{I} A _=>by
   have z7:=A.size;exact⟨Z.trans A fun y d=>.inr (by have d:y=j.size:=d;omega),(i6.loc A s1 (by omega) D E).less fun y d=>.inl (d.imp .inl id),fun y d=>⟨(E y d).1.imp id fun h=>by omega,by have:=(E y d).2;omega⟩⟩
  cases P:bW l k with
  |false=>
   rw[P]at M m done;have hte:=m rfl;subst hte;refine ax.2 ⟨_,vc N 0,_,vc N 1,_,vc N 2,_,vc N 3,_,vc N 4,_,vc N 5,?_⟩;refine dT (c:=nW DC) (vs:=nW n) Y rfl fun I C A=>?_
   refine⟨_,vc C 0,_,vc C 1,_,vc C 2,_,vc C 3,_,vc C 4,_,vc C 5,?_⟩;obtain⟨a1,a2,a3⟩:=done A fun _=>rfl
   exact M I n q a1 a2 a3 fun _=>rfl
  |true=>
   rw[P]at M m done;refine aj.2 ⟨_,vc O 0,_,vc O 1,_,vc O 2,_,vc O 3,_,vc O 4,_,vc O 5,?_⟩;refine dT (c:=nW DC) (vs:=nW n) Y rfl fun I C A=>?_
   refine⟨_,vc C 0,_,vc C 1,_,vc C 2,_,vc C 3,_,vc C 4,_,vc C 5,?_⟩;obtain⟨a1,a2,a3⟩:=done A fun h=>by cases h
   exact M I n q a1 a2 a3 fun h=>absurd rfl h
 refine Join.intro (fun tk a=>tk=bW l k∧∃n q,Upd S h a∧a[h.size]? =some (.cells (nW n).toArray bB (0,0))∧a[j.size]? =some (.cells (nW DC).toArray bB (0,0))∧a[G.size]? =some (.cells (nW t).toArray bB (0,0))∧TreeO o (fun y=>Pro W h J y∨q y) a u x n (np k l) q∧(∀y,q y→(S y∨J.size≤y)∧y<a.size)∧(bW l k=false→n=t)) (fun R hR=>?_) ?_
 ·rcases i4 with⟨rfl,b,rfl,t4⟩|⟨rfl,b,rfl,t4⟩
  ·refine⟨_,vc H 0,aj.2 ⟨_,kJ H 1 0,_,kJ H 1 1,_,kJ H 1 2,_,vc H 4,?_⟩⟩
   refine C9 t4 V hr hn k fun h5 U S5 g t5 v m=>?_
   have s5:=g.size;refine pj (i:=4) (c':=(nW (0,x.k0,x.k1,x.mask,some ⟨U,0,none⟩,none)).toArray) (g.get H (Q (al _))) (show 4<6 by decide) rfl fun a b6 f=>?_
   have s6:=f.size;exact hR _ _ ⟨rfl,_,S5,(s.wide.tr g).trans f fun y d=>.inr (by have d:y=h.size:=d;omega),b6,f.oth (g.get d4 (Q (by omega))) (by omega),f.oth (g.get L (Q (by omega))) (by omega),TreeO.loc (.inl ⟨rfl,U,rfl,t5⟩) f (al _) (by omega) D v,fun y d=>⟨(v y d).1,by have:=(v y d).2;omega⟩,fun P=>by rw[m P]⟩
  ·refine⟨_,vc H 0,ax.2 ⟨_,vc H 5,?_⟩⟩
   refine C1 t4 V hf k fun h5 U S5 g t5 v m=>?_
   have s5:=g.size;refine pj (i:=5) (c':=(nW (1,0,0,0,none,some ⟨U,0,none⟩)).toArray) (g.get H (Q (al _))) (show 5<6 by decide) rfl fun a b6 f=>?_
   have s6:=f.size;exact hR _ _ ⟨rfl,_,S5,(s.wide.tr g).trans f fun y d=>.inr (by have d:y=h.size:=d;omega),b6,f.oth (g.get d4 (Q (by omega))) (by omega),f.oth (g.get L (Q (by omega))) (by omega),TreeO.loc (.inr ⟨rfl,U,rfl,t5⟩) f (al _) (by omega) D v,fun y d=>⟨(v y d).1,by have:=(v y d).2;omega⟩,fun P=>by rw[m P]⟩
 ·rintro _ a ⟨rfl,n,q,Z,O,Y,N,i6,E,m⟩
  exact fin Z O Y N i6 E m
theorem Can.nil{W:Nat→Prop}{h:ad}(a:∀y,W y→y<h.size):Can none none W No h:=⟨.inl ⟨rfl,rfl⟩,a,fun _ h=>h.elim,fun _ h=>(by cases h),fun _ _ h=>h⟩
theorem TreeO.nil{W S:Nat→Prop}{h:ad}{a:Int}{x:Hs}{t:Tr}{l:List Pr}(i:TreeO none (fun y=>W y∨S y) h a x t l S):TreeIs W h a x t l:=by
 rcases i with⟨e,b,c,t⟩|⟨e,b,c,w,F,r,c1,c2⟩
 ·exact .inl ⟨e,b,c,TrieAt.less (fun y d=>.inl (.inl d)) t.off.1⟩
 ·exact .inr ⟨e,b,c,⟨w,F,RxN.less (fun y d=>.inl (.inl d)) r.off.1,c1,c2⟩⟩
end Go.Proofs
namespace Go.Proofs
open Go Go.Lift Go.Conc
def PoolAt(h:ad)(pb cb cap:Nat)(a:List Int):Prop:=pb≠cb∧h[pb]? =some (.cells #[.chan (some cb)] 130 (0,0))∧∃s r,h[cb]? =some (.chan cap (a.map fun i=>Value.int .i64 i).toArray false s r false)
theorem PoolAt.upd{M:Nat→Prop}{h d:ad}{pb cb cap:Nat}{c:List Int}(p:PoolAt h pb cb cap c)(k:Upd M h d)(f:¬M pb)(e:¬M cb):PoolAt d pb cb cap c:=let⟨n,a,s,r,b⟩:=p;⟨n,k.get a f,s,r,k.get b e⟩
theorem PoolAt.upd0{h b:ad}{pb cb cap:Nat}{a:List Int}(p:PoolAt h pb cb cap a)(k:Upd No h b):PoolAt b pb cb cap a:=p.upd k id id
def TokAt(h:ad)(tb pb:Nat)(id:Int)(a:Bool):Prop:=h[tb]? =some (.cells #[.pointer (some ⟨pb,0,none⟩),.int .i64 id,.bool a] nX (0,0))
theorem TokAt.by_{h:ad}{tb pb:Nat}{id:Int}{a:Bool}(t:TokAt h tb pb id a):By h (some ⟨tb,0,none⟩) (if a then some ⟨tb,0,none⟩else none):=.inr ⟨tb,_,id,a,rfl,t,rfl⟩
theorem BR{n:Nat}(p:1≤n)(q:n≤4096){h:ad}{K:Option Addr×Int→ad→Prop}(g:∀h',Upd No h h'→PoolAt h' (h.size+1) h.size n ((cC n).map fun j=>((j:Nat):Int)+1)→K (some ⟨h.size+1,0,none⟩,0) h'):HC PG uj [.int .i64 n] [.c .ptr,.c (.int .i64)] K h:=by
 refine⟨fun w t=>.inl ⟨Tryz.call32 _ w,(Ns p q (w:=w)).mono ?_⟩⟩
 subst t;rintro e w' ⟨rfl,b,s,r,o,c,m⟩;have k1:Upd No w.heap ((w.heap.push (.chan n #[] false 0 0 false)).push (.cells #[.chan (some w.heap.size)] 130 (0,0))):=(Upd.push No w.heap _).tr (Upd.push No _ _);have a:b=(((cC n).map fun j=>((j:Nat):Int)+1).map fun i=>Value.int .i64 i):=by rw[o];simp[Function.comp_def]
 have k:((w.heap.push (.chan n #[] false 0 0 false)).push (.cells #[.chan (some w.heap.size)] 130 (0,0)))[w.heap.size+1]? =some (.cells #[.chan (some w.heap.size)] 130 (0,0)):=by
  rw[iJ,Array.size_push,if_pos rfl]
 rcases m with rfl|rfl
 ·refine⟨⟨rfl,rfl,rfl⟩,((some ⟨w.heap.size+1,0,none⟩,0):Option Addr×Int),rfl,g _ k1 ⟨by omega,k,s,r,?_⟩⟩
  rw[←a];exact c
 ·have d:=Upd.set (M:=(· =w.heap.size)) ((w.heap.push (.chan n #[] false 0 0 false)).push (.cells #[.chan (some w.heap.size)] 130 (0,0))) (.chan n b.toArray false s r false) rfl
  refine⟨⟨rfl,rfl,rfl⟩,((some ⟨w.heap.size+1,0,none⟩,0):Option Addr×Int),rfl,g _ (k1.trans d fun y f=>.inr (by have f:y=w.heap.size:=f;omega)) ⟨by omega,d.get k (fun e=>by have e:w.heap.size+1=w.heap.size:=e;omega),s,r,?_⟩⟩
  rw[←a];exact c
theorem GH{h:ad}{pb cb cap:Nat}{i:Int}{a:List Int}(p:PoolAt h pb cb cap (i::a)){K:Option Addr×Int→ad→Prop}(d:∀h',Upd (· =cb) h h'→PoolAt h' pb cb cap a→TokAt h' h.size pb i true→K (some ⟨h.size,0,none⟩,0) h'):HC PG qs [.pointer (some ⟨pb,0,none⟩)] [.c .ptr,.c (.int .i64)] K h:=by
 obtain⟨n,c,s,r,hc⟩:=p;refine⟨fun w g=>.inl ⟨Tryz.call33 _ w,?_⟩⟩
 subst g;rw[List.map_cons]at hc;refine(Lf c hc).mono ?_;rintro e w' ⟨rfl,rfl⟩;have f:cb<w.heap.size:=(Array.getElem?_eq_some_iff.1 hc).1;have k1:=Upd.set (M:=(· =cb)) w.heap (.chan cap (a.map fun i=>Value.int .i64 i).toArray false s (r+1) false) rfl
 have b:=k1.tr (Upd.push (· =cb) _ (.cells #[.pointer (some ⟨pb,0,none⟩),.int .i64 i,.bool true] nX (0,0)))
 refine⟨⟨rfl,rfl,rfl⟩,((some ⟨w.heap.size,0,none⟩,0):Option Addr×Int),rfl,d _ b ⟨n,b.get c n,s,r+1,?_⟩ ?_⟩
 ·show((w.heap.setIfInBounds cb _).push _)[cb]? =_
  rw[iJ,lW,if_neg (by omega),cr,if_pos rfl,if_pos f]
 ·show((w.heap.setIfInBounds cb _).push _)[w.heap.size]? =_
  rw[iJ,lW,if_pos rfl]
theorem Iy{h:ad}{pb cb cap tb:Nat}{id:Int}{b:List Int}(p:PoolAt h pb cb cap b)(t:TokAt h tb pb id true)(q:b.length<cap){K:Int→ad→Prop}(o:∀h',Upd (fun y=>y=cb∨y=tb) h h'→PoolAt h' pb cb cap (b++ [id])→TokAt h' tb pb id false→K 0 h'):HC PG rG [.pointer (some ⟨pb,0,none⟩),.pointer (some ⟨tb,0,none⟩)] [.c (.int .i64)] K h:=by
 obtain⟨n,j,s,r,hc⟩:=p;have d:pb≠tb:=fun e=>by
  subst e;have:=j.symm.trans t;simp at this
 have c:cb≠tb:=fun e=>by
  subst e;have:=hc.symm.trans t;simp at this
 refine⟨fun w v=>.inl ⟨Tryz.call37 _ w,?_⟩⟩
 subst v;refine(NM j t hc (by simpa using q) d c).mono ?_;rintro e w' ⟨rfl,m,rfl⟩;have k1:=Upd.hset (M:=(· =tb)) w.heap (a:=⟨tb,2,none⟩) (.bool false) rfl
 have f:=Upd.set (M:=(· =cb)) (hset w.heap ⟨tb,2,none⟩ (.bool false)) (.chan cap ((b.map fun i=>Value.int .i64 i).toArray.push (.int .i64 id)) false (s+1) r false) rfl
 have u:cb<(hset w.heap ⟨tb,2,none⟩ (.bool false)).size:=aD (k1.get hc fun e=>c e)
 refine⟨⟨rfl,rfl,rfl⟩,(0:Int),rfl,o _ ((k1.mono fun y g=>.inl (.inr g)).trans f fun y g=>.inl (.inl g)) ⟨n,f.get (k1.get j fun e=>d e) (fun e=>n e),s+1,r,?_⟩ (f.get ?_ (fun e=>c e.symm))⟩
 ·show((hset w.heap ⟨tb,2,none⟩ (.bool false)).setIfInBounds cb _)[cb]? =_
  rw[cr,if_pos rfl,if_pos u];simp
 ·have k:w.heap[tb]? =some (.cells #[.pointer (some ⟨pb,0,none⟩),.int .i64 id,.bool true] nX (0,0)):=t
  rw[B2 k,jh k];rfl
end Go.Proofs
namespace Go.Proofs
open Go Go.Lift
end Go.Proofs
namespace Go.Proofs
structure WO{α:Type}(lt:α→α→Bool):Prop where
 irr:∀a,lt a a=false
 asy:∀a b,lt a b=true→lt b a=false
 ntr:∀a b c,lt a b=false→lt b c=false→lt a c=false
section
variable {α:Type} {lt:α→α→Bool}
def Rr(lt:α→α→Bool)(x a:α):Bool:= !lt a x&& !lt x a
def Srt(lt:α→α→Bool)(l:List α):Prop:=l.Pairwise fun a b=>lt b a=false
structure Eqf(lt:α→α→Bool)(l l':List α):Prop where
 len:l'.length=l.length
 flt:∀x,l'.filter (Rr lt x)=l.filter (Rr lt x)
structure St(lt:α→α→Bool)(l l':List α):Prop where
 eqf:Eqf lt l l'
 srt:Srt lt l'
theorem Eqf.rfl(l:List α):Eqf lt l l:=⟨_root_.rfl,fun _=>_root_.rfl⟩
theorem Eqf.tr{a b c:List α}(h:Eqf lt a b)(k:Eqf lt b c):Eqf lt a c:=⟨k.len.trans h.len,fun x=>(k.flt x).trans (h.flt x)⟩
theorem Eqf.app{a b a' c:List α}(h:Eqf lt a a')(k:Eqf lt b c):Eqf lt (a++b) (a'++c):=
 ⟨by rw[ae,ae,h.len,k.len],fun x=>by rw[jx,jx,h.flt,k.flt]⟩
theorem Hg(w:WO lt)(a:α):Rr lt a a=true:=by unfold Rr;rw[w.irr];rfl
theorem Eqf.mem(w:WO lt){l l':List α}(h:Eqf lt l l'){a:α}:a∈l'↔a∈l:=by
 have e:=h.flt a;constructor
 ·intro hm
  have:a∈l'.filter (Rr lt a):=gA.2 ⟨hm,Hg w a⟩;rw[e]at this;exact(gA.1 this).1
 ·intro hm
  have:a∈l.filter (Rr lt a):=gA.2 ⟨hm,Hg w a⟩;rw[←e]at this;exact(gA.1 this).1
theorem Srt.app{a b:List α}(h:Srt lt a)(k:Srt lt b)(c:∀x∈a,∀y∈b,lt y x=false):Srt lt (a++b):=cS.2 ⟨h,k,c⟩
theorem Srt.left{a b:List α}(h:Srt lt (a++b)):Srt lt a:=(cS.1 h).1
theorem Srt.right{a b:List α}(h:Srt lt (a++b)):Srt lt b:=(cS.1 h).2.1
theorem Srt.nil:Srt lt ([]:List α):=fF
theorem Srt.one(a:α):Srt lt [a]:=List.pairwise_singleton ..
end
end Go.Proofs
namespace Go.Proofs
open Go Go.Lift
theorem DE{W:Nat→Prop}{x:Hs}{h:ad}{b:Nat}{l:List Pr}(t:TrieAt W x h 13 b l){K:Option Addr→ad→Prop}(d:∀a,Upd No h a→K (some ⟨b,0,none⟩) a):HC PG jU [Mx (0,x.k0,x.k1,x.mask,some ⟨b,0,none⟩,none)] [.c .ptr] K h:=by
 refine x9 (0,x.k0,x.k1,x.mask,some ⟨b,0,none⟩,none) ?_;unfold qG bo aJ tH;refine aQ fun e b1 k1=>?_
 refine Join.intro (fun t a=>t=false∧a=e) (fun R c=>⟨_,vc b1 0,ax.2 ⟨_,vc b1 4,c _ _ ⟨rfl,rfl⟩⟩⟩) ?_
 rintro t a ⟨rfl,rfl⟩;exact aj.2 ⟨_,vc b1 4,d a k1⟩
def Et(a:Int)(x:Hs)(l:List Pr)(xs:List UInt8):Prop:=(a=0∧xs=0::eB x 13 l)∨(a=1∧∃ys,Jx l ys∧xs=1::ys)
theorem uZ{h a:ad}{b:UInt8}(c:a[h.size]? =some (.cells #[.int .u8 (b.toNat:Int)] bX (0,0))):OwnS mE 1 bX (fun y=>h.size≤y) a ⟨some ⟨h.size,0,none⟩,1,1⟩ [b]:=⟨rfl,pU,al _,.inr ⟨h.size,[],rfl,al _,c,rfl⟩⟩
theorem Lh{W:Nat→Prop}{x:Hs}{h:ad}{a:Int}{t:Tr}{l:List Pr}(i:TreeIs W h a x t l)(B:cB l)(p:Fit l)(q:l.length≤60000){K:SliceV→ad→Prop}
  (D:∀s' m xs,Et a x l xs→OwnS mE 1 bX (fun y=>h.size≤y) m s' xs→Upd No h m→K s' m):HC PG mQ [Mx t] [.c .slice] K h:=by
 refine x8 t ?_;unfold qF bo af aJ CX tH;refine aQ fun o b1 k1=>?_
 have H:=k1.size;have app:∀{b:UInt8} {f e:ad} {s:SliceV} {xs:List UInt8},f[o.size]? =some (.cells #[.int .u8 (b.toNat:Int)] bX (0,0))→Upd No o f→OwnS mE 1 bX (fun y=>f.size≤y) e s xs→Upd No f e→xs.length≤70000000000000→Et a x l (b::xs)→
   ∃xs7,SRow e s.a (s.len*1) xs7∧AppP (some [.int .u8 0]) 1 1 bX (some (aA o)) 1 1 s.len xs7 e (fun C G=>K C G):=fun{b f e s xs} n c A g J hv=>by
  refine⟨_,(A.sl (W:=No) fun _ _ _ h=>h).srow,?_⟩
  have j:=c.tr g;have hz:=aD n;have o1:OwnS mE 1 bX (fun y=>h.size≤y) e ⟨some ⟨o.size,0,none⟩,1,1⟩ [b]:=((uZ n).upd g fun _ _ h=>h).more fun y v=>by omega
  refine AppP.own (ys:=xs) o1 A.len rfl (xw _) rfl (by omega) (by simp only[aO];omega) (by have:=j.size;omega) fun s' m u w=>?_
  exact D s' m _ hv u ((k1.tr j).trans w fun y v=>.inr v)
 rcases i with⟨rfl,b,rfl,t⟩|⟨rfl,b,rfl,t⟩
 ·refine⟨_,vc b1 0,aj.2 (aQ fun f b2 c=>?_)⟩
  have c1:=c.get0 b1;refine⟨_,vc c1 0,_,vc c1 1,_,vc c1 2,_,vc c1 3,_,vc c1 4,_,vc c1 5,?_⟩;refine DE (TrieAt.upd0 (k1.tr c) t) fun e g=>?_
  refine O6 (TrieAt.upd0 ((k1.tr c).tr g) t) p q fun F E d z=>?_
  have I:=g.size;have k:=l7 (x:=x) 13 p;have n:l.length*(20004+9*(13+1))≤60000*(20004+9*(13+1)):=bQ _ q;exact app (b:=0) b2 c (d.more fun y v=>by omega) (g.tr z) (by omega) (.inl ⟨rfl,rfl⟩)
 ·refine⟨_,vc b1 0,ax.2 (aQ fun f b2 c=>?_)⟩
  have c1:=c.get0 b1;refine⟨_,vc c1 5,?_⟩;refine Gx (t.upd0 (k1.tr c)) B p q fun F E xs hv d z=>?_
  have k:=xt hv p;have n:2*l.length*20010≤2*60000*20010:=bQ _ (by omega);exact app (b:=1) b2 c d z (by omega) (.inr ⟨rfl,xs,hv,rfl⟩)
theorem MU{a:Int}{x f:Hs}(hx:a=0→x=f){l l':List Pr}{xs c:List UInt8}(hv:Et a x l xs)(b:Et a f l' c)(j:Fit l)(d:Fit l')(k:l.length≤60000)(g:l'.length≤60000)(n:cB l)(i:cB l'):xs=c↔l=l':=by
 rcases hv with⟨rfl,rfl⟩|⟨rfl,ys,hv,rfl⟩<;>rcases b with⟨e,rfl⟩|⟨e,m,b,rfl⟩
 ·rw[hx rfl]
  constructor
  ·intro h
   have h:eB f 13 l++ []=eB f 13 l'++ []:=by rw[(gb.inj h).2]
   exact(Bv 13 j d k g n i h).1
  ·rintro rfl;rfl
 ·cases e
 ·cases e
 ·rw[gb.injEq,←Pf hv b j d]
  exact⟨fun h=>h.2,fun h=>⟨rfl,h⟩⟩
theorem TreeIs.plain{W:Nat→Prop}{h:ad}{e:Int}{x:Hs}{t:Tr}{l:List Pr}(i:TreeIs W h e x t l):(∀a,t.2.2.2.2.1=some a→dQ h a)∧(∀a,t.2.2.2.2.2=some a→dQ h a):=by
 rcases i with⟨rfl,b,rfl,t⟩|⟨rfl,b,rfl,t⟩
 ·obtain⟨s,g,_⟩:=t
  obtain⟨d,n,sp,sk,ow,f,_⟩:=g.ex;refine⟨fun a c=>?_,fun a c=>(by cases c)⟩
  cases c;exact⟨_,_,f,show 0<6 by decide⟩
 ·obtain⟨w,F,⟨val,s,ow,ks,f,_⟩,_⟩:=t.ex
  refine⟨fun a c=>(by cases c),fun a c=>?_⟩
  cases c;exact⟨_,_,f,show 0<5 by decide⟩
end Go.Proofs
namespace Go.Proofs
open Go Go.Lift
abbrev Sj:List Value:= [.string (⟨#[]⟩:ByteArray),.string (⟨#[]⟩:ByteArray)]
theorem vC{h:ad}{t:TypeId}{p:Pr}{k:ad→Prop}(d:∀h',h'[h.size]? =some (.cells #[.string p.1,.string p.2] t (0,0))→Upd No h h'→k h'):
  At (hnew h [.string (⟨#[]⟩:ByteArray),.string (⟨#[]⟩:ByteArray)] t) fun b=>rK b (some (aA h)) 0 [.string p.1,.string p.2]∧At (gD b (aA h) 0 [.string p.1,.string p.2]) k:=by
 refine aQ fun f b1 k1=>?_
 exact dT (c:=Sj) (vs:= [.string p.1,.string p.2]) b1 rfl fun e b2 a=>d e b2 (k1.own a (al _))
theorem xW{t:TypeId}{M:Nat→Prop}{h:ad}{c:SliceV}{out:List Pr}{p:Pr}{K:SliceV→ad→Prop}(g:OwnS gC 2 t M h c out)(hM:∀b,h.size≤b→M b)(j:out.length+1≤1000000000)
  (f:∀s' a,OwnS gC 2 t M a s' (out++ [p])→Upd M h a→K s' a):
  ∃xs,SRow (hnew h [.string p.1,.string p.2] t) (some (aA h)) (1*2) xs∧AppP (some [.string (⟨#[]⟩:ByteArray),.string (⟨#[]⟩:ByteArray)]) 2 32 t c.a c.len c.cap 1 xs (hnew h [.string p.1,.string p.2] t) K:=by
 have k:=Upd.hnew No h [.string p.1,.string p.2] t;have e:OwnS gC 2 t (fun _=>True) (hnew h [.string p.1,.string p.2] t) ⟨some (aA h),1,1⟩ [p]:=⟨rfl,hJ,al _,.inr ⟨h.size,[],rfl,trivial,cJ ..,rfl⟩⟩
 refine⟨_,(e.sl (W:=No) fun _ _ _ h=>h).srow,?_⟩
 refine AppP.own (ys:= [p]) (g.upd k fun _ _ h=>h) rfl rfl rfl rfl (by omega) (by simp only[aO];omega) (hM _ (by rw[jM];omega)) fun s' a d i=>?_
 exact f s' a d ((Upd.hnew M h _ _).tr i)
theorem B0{p:Pr}:∀{A B:List Pr},(∀r∈A,kl r.1 p.1)→gG p (A++B)=A++gG p B
 | [],_,_=>rfl
 |r::A,B,h=>by
  rw[cU,fY,if_pos (h r (au ..)),B0 fun q a=>h q (List.mem_cons_of_mem _ a)];rfl
theorem GY{p q:Pr}:∀{A:List Pr},(∃r∈A,kl p.1 r.1)→gG p (A++ [q])=gG p A++ [q]
 | [],h=>by obtain⟨r,f,_⟩:=h;simp at f
 |r::A,h=>by
  rw[cU,fY,fY];by_cases b:kl r.1 p.1
  ·rw[if_pos b,if_pos b,GY]
   ·rfl
   ·obtain⟨e,a,d⟩:=h
    rcases List.mem_cons.1 a with rfl|a
    ·exact absurd (iP b d) (cA _)
    ·exact⟨e,a,d⟩
  ·rw[if_neg b,if_neg b]
   by_cases c:r.1=p.1
   ·rw[if_pos c,if_pos c];rfl
   ·rw[if_neg c,if_neg c];rfl
theorem GW{p:Pr}:∀{l:List Pr},(∀q∈l,kl p.1 q.1)→gG p l=p::l
 | [],_=>rfl
 |q::l,h=>by
  have a:=h q (au ..);rw[fY,if_neg fun b=>cA _ (iP a b),if_neg fun e=>by rw[e]at a;exact cA _ a]
theorem D7{p:Pr}:∀{l:List Pr},cB l→gG p (l.filter fun q=>decide (q.1≠p.1))=gG p l
 | [],_=>rfl
 |r::l,c=>by
  have c:=List.pairwise_cons.1 c;have keep:∀{l:List Pr},(∀q∈l,kl p.1 q.1)→(l.filter fun q=>decide (q.1≠p.1))=l:=fun{l} h=>List.filter_eq_self.2 fun q b=>decide_eq_true fun e=>by have:=h q b;rw[e]at this;exact cA _ this
  rw[List.filter_cons,fY];by_cases e:r.1=p.1
  ·have d:∀q∈l,kl p.1 q.1:=fun q b=>by rw[←e];exact c.1 q b
   rw[if_neg (by simp[e]),if_neg (by rw[e];exact cA _),if_pos e,keep d,GW d]
  ·rw[if_pos (by simpa using e),fY]
   by_cases a:kl r.1 p.1
   ·rw[if_pos a,if_pos a,D7 c.2]
   ·rw[if_neg a,if_neg a,if_neg e,if_neg e]
    have f:=tW a e;rw[keep fun q b=>iP f (c.1 q b)]
theorem HU{i n:Nat}(h:i<n)(a:n≤9223372036854775807):IntKind.wrap .i64 ((i:Int)+1)=((i+1:Nat):Int):=by rw[Go.IntWalk.i64_in _ (by omega)];omega
theorem D6(p:Pr):∀{l:List Pr},(gG p l).length≤l.length+1
 | []=>al _
 |q::l=>by
  rw[fY];split
  ·have:=D6 p (l:=l);simp only[List.length_cons];omega
  ·split<;>simp
theorem RR{k:Int}(a:0≤k)(b:k≤255):IntKind.wrap .i64 (gk k 2)=0∨IntKind.wrap .i64 (gk k 2)=1:=by
 have:gk k 2=k%2:=Int.tmod_eq_emod_of_nonneg a;rw[this,nq (by omega)];omega
end Go.Proofs
namespace Go.Proofs
open Go Go.Lift
end Go.Proofs
namespace Go.Proofs
open Go Go.Lift
section
variable {α:Type} {f:α→List Value} {sz:Nat} {t:TypeId} {M:Nat→Prop} {h:ad} {s:SliceV} {P Q:List α} {x:α}
end
end Go.Proofs
namespace Go.Proofs
open Go Go.Lift
variable {z0:Hs}
end Go.Proofs
namespace Go.Proofs
open Go Go.Lift
end Go.Proofs
namespace Go.Proofs
open Go Go.Lift
end Go.Proofs
namespace Go.Proofs
open Go Go.Lift
theorem QH{h:ad}{t:TypeId}{p:Pr}{k:ad→Prop}(b:∀h',h'[h.size]? =some (.cells #[.string p.1,.string p.2] t (0,0))→Upd No h h'→k h'):
 At (hnew h [.string (⟨#[]⟩:ByteArray),.string (⟨#[]⟩:ByteArray)] t) (fun a=>rK a (some (aA h)) 0 [.string p.1,.string p.2]∧At (gD a (aA h) 0 [.string p.1,.string p.2]) k):=vC (p:=p) b
end Go.Proofs
namespace Go.Proofs
open Go Go.Lift
end Go.Proofs
namespace Go.Proofs
open Go Go.Lift
end Go.Proofs
namespace Go.Proofs
open Go Go.Lift
end Go.Proofs
