/- A part of the proof that the named laws of this program answer true, whatever the input. -/
import Derived.Test.YtajpljopgikpgaaGreatDoorPart5
import Derived.Test.YtajpljopgikpgaaGreatDoorPart2
import Derived.Test.YtajpljopgikpgaaGreatDoorPart4
import Derived.Test.YtajpljopgikpgaaGreatDoorPart0
import Derived.Test.YtajpljopgikpgaaGreatDoorLift3
open Array renaming getElem?_push→jQ,size_setIfInBounds→nG,getElem?_setIfInBounds→cN
open Int renaming tmod→aZ
open List renaming any_eq_true→cy,mem_singleton→au,any_cons→p9,range→cQ,length_append→af,filter_append→kT,mem_filter→il,pairwise_append→du,length_singleton→aK,cons→fA,cons_append→cY,mem_cons_self→aE
open List.Pairwise renaming nil→gn
open Nat renaming zero_add→aL,lt_of_lt_of_le→bP,le_trans→bv,le_refl→ao,mul_le_mul_right→ci
namespace Go.Proofs
open Go.Lift
theorem By.updS{h b:ad}{w o:Option Addr}{S:Nat→Prop}(t:By h w o)(k:Upd S h b)(c:∀a,w=some a→¬S a.block):By b w o:=t.upd k fun _ e d=>absurd d (c _ e)
set_option maxHeartbeats 2000000 in
theorem Tl{W:Nat→Prop}{x:Hs}{w o:Option Addr}:∀(m:Nat),m≤13→∀{b:Nat} {l:List Pr} {S:Nat→Prop} (p:Pr) {h:ad},TrieO o W x h m b l S→By h w o→(∀y,W y→y<h.size)→(∀y,S y→W y)→(∀a,o=some a→W a.block)→(∀a,w=some a→¬S a.block)→cA l→l.length≤1000000→∀{K:(Option Addr)×Bool×Bool→ad→Prop},
  (∀A b' ch S',Upd S h A→TrieO o (fun y=>W y∨S' y) x A m b' (ix p l) S'→(∀y,S' y→(S y∨h.size≤y)∧y<A.size)→(ch=false→b'=b∧Upd No h A)→ch= !decide (p∈l)→K (some ⟨b',0,none⟩, !cn l p.1,ch) A)→
  HC PG iM [Qb x w p.1,.pointer (some ⟨b,0,none⟩),.agg #[.string p.1,.string p.2],.int .i64 ((13-m:Nat):Int)] [.c .ptr,.c .bool,.c .bool] K h:=by
 intro m;induction m with
 |zero=>
  intro _ b l S p h t by_ hW D J hwS hr hn K hk;have L:∀y,S y→y<h.size:=fun y g=>hW y (D y g)
  refine uv (x.k0,x.k1,x.mask,w,p.1,l9 x p.1) (some ⟨b,0,none⟩) p ((13-0:Nat):Int) ?_;unfold pN ah aI aG nv qK wm my tZ iR yB Ii lR DU;refine aJ fun h1 b1 k1=>aJ fun j b2 k2=>?_
  have H:∀{A:ad},Upd No j A→∀i,aR A (adr ⟨h.size,0,none⟩ i)=(#[.int .u64 x.k0,.int .u64 x.k1,.int .u64 x.mask,.pointer w,.string p.1,.int .u64 (l9 x p.1)]:Array Value)[i]?:=fun k i=>by
   rw[bO,bA (k.get0 (k2.get0 b1)),aL]
  have M:∀{A:ad},Upd No j A→∀i,aR A (adr ⟨h1.size,0,none⟩ i)=(#[.string p.1,.string p.2]:Array Value)[i]?:=fun k i=>by rw[bO,bA (k.get0 b2),aL]
  have r:=Upd.refl No j;have u:=k1.tr k2;have z02:=u.size;have bk:BuckO o W j b l S:=BuckO.upd0 t u;have by2:=by_.upd0 u;have bkr:=bk.read by2;obtain⟨sp,sk,ow,hb,_⟩:=bkr.ex;refine gt (d:=0) (n:=0) hb (ay.2 ⟨_,M r 0,T4 bkr hr (by omega) p.1 fun h3 v X hv=>?_⟩)
  refine Join.intro (fun t' A=>t'=decide (p∈l)∧Upd No j A) (fun R hR=>?_) ?_
  ·cases E:cn l p.1 with
   |false=>
    refine aj.2 (hR _ _ ⟨?_,X⟩);refine(decide_eq_false fun hm=>?_).symm
    have:cn l p.1=true:=cy.2 ⟨p,hm,decide_eq_true rfl⟩;rw[E]at this;cases this
   |true=>
    have hv:=hv E;refine ay.2 ⟨_,M X 1,hR _ _ ⟨?_,X⟩⟩;rw[iW,decide_eq_decide];constructor
    ·intro e
     have e:v=p.2:=e;rw[e]at hv;exact hv
    ·intro hm
     exact LK hr hv (show(p.1,p.2)∈l from hm)
  ·rintro t' h4 ⟨rfl,F⟩
   have z4:=F.size;by_cases hm:p∈l
   ·rw[decide_eq_true hm]
    refine ay.2 ?_;have E:cn l p.1=true:=cy.2 ⟨p,hm,decide_eq_true rfl⟩;have:=hk h4 b false S (u.tr F).wide (by rw[DC hr hm];exact(BuckO.upd0 t (u.tr F)).imp (fun n=>⟨n.1.less fun y g=>.inl (g.elim id (D y)),n.2⟩) id) (fun y g=>⟨.inl g,by have:=L y g;omega⟩) (fun _=>⟨rfl,u.tr F⟩) (by rw[decide_eq_true hm];rfl)
    rw[E]at this;exact this
   ·rw[decide_eq_false hm]
    refine aj.2 ⟨w,H F 3,_,M F 0,_,M F 1,?_⟩;refine E7 (bk.upd0 F) (by2.upd0 F) J (fun y g=>by have:=L y g;omega) hr (by omega) p fun h5 b5 sp5 sk5 on5 hu5=>?_
    have z5:=hu5.size;have hS0:o=none→∀y,¬S y:=fun e y g=>by
     rcases t with⟨_,h⟩|⟨h,_⟩
     ·exact h y g
     ·rw[e]at h;cases h
    refine hk h5 b5 true _ ((u.tr F).wide.tr hu5) (xI (W:=fun y=>W y∨(o.isSome=true∧(S y∨h4.size≤y)∧y<h5.size)) on5 fun e=>⟨hS0 e,fun y g=>g.elim (fun h=>by have:=hW y h;omega) fun h=>by rw[e]at h;cases h.1⟩) (fun y g=>⟨g.2.1.imp id fun h=>by omega,g.2.2⟩) (fun h=>by cases h) (by rw[decide_eq_false hm];rfl)
 |succ m ih=>
  intro hm b l S p h t by_ hW D J hwS hr hn K hk;have gW:∀{A},Upd No h A→∀y,W y→y<A.size:=fun k y g=>bP (hW y g) k.size
  have L:∀y,S y→y<h.size:=fun y g=>hW y (D y g)
  have hl:13-(m+1)<13:=by omega
  have hlev:13-(m+1)=12-m:=by omega
  refine uv (x.k0,x.k1,x.mask,w,p.1,l9 x p.1) (some ⟨b,0,none⟩) p ((13-(m+1):Nat):Int) ?_;unfold pN ah aI aG nv qK wm my tZ iR yB Ii lR DU;refine aJ fun h1 b1 k1=>aJ fun j b2 k2=>?_
  have H:∀{A:ad},Upd No j A→∀i,aR A (adr ⟨h.size,0,none⟩ i)=(#[.int .u64 x.k0,.int .u64 x.k1,.int .u64 x.mask,.pointer w,.string p.1,.int .u64 (l9 x p.1)]:Array Value)[i]?:=fun k i=>by
   rw[bO,bA (k.get0 (k2.get0 b1)),aL]
  have M:∀{A:ad},Upd No j A→∀i,aR A (adr ⟨h1.size,0,none⟩ i)=(#[.string p.1,.string p.2]:Array Value)[i]?:=fun k i=>by rw[bO,bA (k.get0 b2),aL]
  have r:=Upd.refl No j;have u:=k1.tr k2;have by2:=by_.upd0 u;have z02:=u.size;have hno:o=none→∀y,¬S y:=fun e=>by subst e;exact t.off.2
  obtain⟨s,S0,T,nd0,h0,I,hd,hs⟩:=(TrieO.upd0 u t).view;have tt:∀{A:ad},Upd No j A→TrieO o (fun y=>W y∨S y) x A (m+1) b l S:=fun k=>(TrieO.upd0 (u.tr k) t).less fun y g=>.inl (g.elim id (D y))
  have ndr:=nd0.read by2;obtain⟨d0,n0,sp0,sk0,ow0,hb0,_⟩:=ndr.ex;refine gt hb0 (aj.2 ⟨_,H r 5,PC hl ?_⟩);rw[hlev];have hi:=yg x (12-m) p.1;have Z:=hs _ hi;have hrp:=px (x:=x) (lev:=12-m) (c:=ck x (12-m) p.1) hr;have hnp:(part x (12-m) (ck x (12-m) p.1) l).length≤1000000:=bv jW hn;have hmp:p∈part x (12-m) (ck x (12-m) p.1) l↔p∈l:=by rw[nq];exact⟨fun h=>h.1,fun h=>⟨h,rfl⟩⟩
  have htp:=DY (x:=x) (lev:=12-m) (l:=l) (k:=p.1);have turn:∀{hz A:ad} {b' d n:Nat} {sp sk:SliceV} {s':Slots} {T':Nat→Prop},Upd (T (ck x (12-m) p.1)) j hz→OwnN (fun y=>S0 y∨hz.size≤y) A b' d n sp sk s' o→Upd S0 hz A→(∀c,c≠ck x (12-m) p.1→s'.p c=s.p c∧s'.k c=s.k c)→
    SlotO o (fun y=>W y∨T' y) x hz m s' (ck x (12-m) p.1) (ix p (part x (12-m) (ck x (12-m) p.1) l)) T'→(∀y,T' y→(T (ck x (12-m) p.1) y∨j.size≤y)∧y<hz.size)→p∉l→
    K (some ⟨b',0,none⟩, !cn l p.1,true) A:=fun{hz A b' d n sp sk s' T'} ku on ku2 hp hslot V O=>by
   have zz:=ku.size;have zz':=ku2.size;have b2S:∀y,S y→y<j.size:=fun y g=>by have:=L y g;omega
   have p1:part x (12-m) (ck x (12-m) p.1) (ix p l)=ix p (part x (12-m) (ck x (12-m) p.1) l):=by rw[Er hr,if_pos rfl]
   have hT0:∀y,T' y→¬S0 y∧∀c,c≠ck x (12-m) p.1→¬T c y:=fun y g=>by
    rcases(V y g).1 with h|h
    ·exact⟨(I _ y h).2,fun c hc E=>hc (hd _ _ y E h)⟩
    ·exact⟨fun hs=>by have:=b2S y (h0 y hs);omega,fun c _ E=>by have:=b2S y (I c y E).1;omega⟩
   refine hk A b' true _ ((u.wide.tr (ku.mono fun y g=>.inl (I _ y g).1)).tr (ku2.mono fun y g=>.inl (h0 y g))) (yD (W:=W) (W1:=fun y=>W y∨T' y) (T:=T) (T':=T') (c0:=ck x (12-m) p.1) (s:=s) (hz:=hz) on ku2 (fun c hc hcc=>?_) hp ?_ (fun y g=>.inl g) (fun y g=>.inl (D y (h0 y g))) (fun c y g=>.inl (D y (I c y g).1)) (fun y g=>.inr g) (fun c y g=>⟨by have:=b2S y (I c y g).1;omega,(I c y g).2⟩) (fun y g=>⟨(V y g).2,hT0 y g⟩) hd fun e=>⟨fun y g=>hno e y (h0 y g),fun y g=>g.elim (fun h=>by have:=hW y h;omega) fun h=>(V y h).2⟩) (fun y g=>?_) (fun h=>by cases h) (by rw[decide_eq_false O];rfl)
   ·rw[Er hr,if_neg fun e=>hcc e.symm]
    refine((hs c hc).less (W':=fun y=>W y∨T' y) fun y g=>g.elim .inl fun h=>(V y h).1.imp (fun h=>D y (I _ y h).1) id).upd ku (fun y g=>b2S y (I c y g).1) fun y g=>.inl ⟨.inl (D y (I _ y g).1),fun h=>hcc (hd _ _ y h g)⟩
   ·rw[p1];exact hslot
   ·have:=MW (S:=S) (z0:=h.size) h0 (fun c y g=>⟨(I c y g).1,by have:=b2S y (I c y g).1;omega⟩) (fun y g=>⟨(V y g).1.imp (fun h=>(I _ y h).1) fun h=>by omega,by have:=(V y g).2;omega⟩) (by omega) g
    exact this
  generalize hc:ck x (12-m) p.1=c at hi Z hrp hnp hmp htp turn;generalize hlp:part x (12-m) c l=lc at Z hrp hnp hmp htp turn;refine zZ ndr hi fun h3 X=>?_
  refine aJ fun h4 b4 k4=>?_
  have b4':h4[h3.size]? =some (.cells #[.string FT.1,.string FT.2] aB (0,0)):=b4;refine Cz (p:=BM (s.p c)) b4' fun h5 b5 hu5=>?_
  have f:Upd No j h5:=(X.tr k4).trans hu5 fun y g=>.inr (by have g:y=h3.size:=g;have:=X.size;omega)
  have w5:∀{A:ad},Upd No h5 A→∀i,aR A (adr ⟨h3.size,0,none⟩ i)=(#[.string (BM (s.p c)).1,.string (BM (s.p c)).2]:Array Value)[i]?:=fun k i=>by rw[bO,bA (k.get0 b5),aL]
  have r5:=Upd.refl No h5;have z5:=f.size;have Q:=by2.upd0 f;have nd5:=nd0.upd0 f;have h0b:∀y,S0 y→y<h5.size:=fun y g=>by have:=L y (h0 y g);omega
  cases hsp:s.p c with
  |some y=>
   rw[hsp]at w5;obtain⟨N,hk0,hTn⟩:lc= [y]∧s.k c=none∧∀y,¬T c y:=by
    rcases Z with⟨_,j,_⟩|⟨q,h1,j,h3,h4⟩|⟨_,j,_⟩
    ·rw[hsp]at j;cases j
    ·rw[hsp]at j;cases j;exact⟨h1,h3,h4⟩
    ·rw[hsp]at j;cases j
   refine ay.2 ⟨y.1,w5 r5 0,y.2,w5 r5 1,p.1,M f 0,p.2,M f 1,?_⟩;rw[iW,iW];have hyl:y∈l:=(nq.1 (show y∈part x (12-m) c l by rw[hlp,N];exact au.2 rfl)).1
   by_cases Y:y.1=p.1
   ·have E:cn l p.1=true:=cy.2 ⟨y,hyl,decide_eq_true Y⟩
    by_cases e2:y.2=p.2
    ·rw[decide_eq_true Y,decide_eq_true e2]
     have hyp:y=p:=Prod.ext Y e2;have G:p∈l:=hyp▸hyl;refine ay.2 ?_;rw[E]at hk;exact hk h5 b false S (u.tr f).wide (by rw[DC hr G];exact tt f) (fun y g=>⟨.inl g,by have:=L y g;omega⟩) (fun _=>⟨rfl,u.tr f⟩) (by rw[decide_eq_true G];rfl)
    ·rw[decide_eq_true Y,decide_eq_false e2]
     refine aj.2 ⟨y.1,w5 r5 0,p.1,M f 0,?_⟩;rw[iW,decide_eq_true Y];refine ay.2 ⟨w,H f 3,p.1,M f 0,p.2,M f 1,?_⟩;refine qd nd5 Q J h0b hi (fun _ _=>hk0) p fun h6 b6 d6 n6 sp6 sk6 on6 B=>?_
     have O:p∉l:=fun hm=>by
      have:=hmp.2 hm;rw[N]at this;exact e2 (by rw[au.1 this])
     have:=turn (T':=No) f.wide on6 B (fun c' C=>⟨gp C,gp C⟩) (.inr (.inl ⟨p,by rw[N,gJ,if_neg (by rw[Y];exact cO _),if_pos Y],gD,gD,fun _ h=>h⟩)) (fun _ h=>h.elim) O
     rw[E]at this;exact this
   ·rw[decide_eq_false Y]
    refine aj.2 ⟨y.1,w5 r5 0,p.1,M f 0,?_⟩;rw[iW,decide_eq_false Y];refine aj.2 ⟨w,H f 3,_,H f 0,_,H f 1,_,H f 2,_,H f 3,_,H f 4,_,H f 5,y.1,w5 r5 0,y.2,w5 r5 1,p.1,M f 0,p.2,M f 1,?_⟩;have ew:IntKind.wrap .i64 (((12-m:Nat):Int)+1)=((13-m:Nat):Int):=by rw[oD (by omega)];omega
    rw[ew];refine RQ m y p (by omega) Y (gW (u.tr f)) Q J fun h6 b6 Sk t6 hSk B=>⟨H (f.tr B) 3,?_⟩
    have z6:=B.size;refine uP (nd5.upd0 B) (Q.upd0 B) J hi (fun z hz=>by rw[hk0]at hz;cases hz) ⟨b6,0,none⟩ fun h7 b7 d7 n7 sp7 sk7 on7 hu7=>?_
    have E:cn l p.1=false:=by
     rw[←htp,N];unfold cn;rw[p9,decide_eq_false Y];rfl
    have O:p∉l:=fun hm=>by
     have:cn l p.1=true:=cy.2 ⟨p,hm,decide_eq_true rfl⟩;rw[E]at this;cases this
    have:=turn (T':=Sk) (f.tr B).wide on7 hu7 (fun c' C=>⟨gp C,gp C⟩) (.inr (.inr (by rw[N];exact⟨by rw[NF Y];omega,gD,b6,gD,t6⟩))) (fun y g=>⟨.inr (by have:=(hSk y g).1;omega),(hSk y g).2⟩) O
    rw[E]at this;exact this
  |none=>
   refine aj.2 (Aa (nd5.read Q) hi ?_);cases hsk:s.k c with
   |none=>
    have hlc:lc= []:=by
     rcases Z with⟨h1,_⟩|⟨q,_,j,_⟩|⟨_,_,kb,j,_⟩
     ·exact h1
     ·rw[hsp]at j;cases j
     ·rw[hsk]at j;cases j
    refine ay.2 ⟨w,H f 3,p.1,M f 0,p.2,M f 1,?_⟩;refine qd nd5 Q J h0b hi (fun _ _=>hsk) p fun h6 b6 d6 n6 sp6 sk6 on6 B=>?_
    have E:cn l p.1=false:=by rw[←htp,hlc];rfl
    have O:p∉l:=fun hm=>by
     have:cn l p.1=true:=cy.2 ⟨p,hm,decide_eq_true rfl⟩;rw[E]at this;cases this
    have:=turn (T':=No) f.wide on6 B (fun c' C=>⟨gp C,gp C⟩) (.inr (.inl ⟨p,by rw[hlc];rfl,gD,gD,fun _ h=>h⟩)) (fun _ h=>h.elim) O
    rw[E]at this;exact this
   |some kp=>
    obtain⟨h2l,kb,rfl,tk⟩:2≤lc.length∧∃kb,kp=some ⟨kb,0,none⟩∧TrieO o W x j m kb lc (T c):=by
     rcases Z with⟨_,_,j,_⟩|⟨q,_,j,_⟩|⟨h1,_,kb,j,h3⟩
     ·rw[hsk]at j;cases j
     ·rw[hsp]at j;cases j
     ·rw[hsk]at j;cases j;exact⟨h1,kb,rfl,h3⟩
    refine aj.2 ⟨_,H f 0,_,H f 1,_,H f 2,_,H f 3,_,H f 4,_,H f 5,p.1,M f 0,p.2,M f 1,?_⟩;have ew:IntKind.wrap .i64 (((12-m:Nat):Int)+1)=((13-m:Nat):Int):=by rw[oD (by omega)];omega
    rw[ew];refine ih (by omega) p (TrieO.upd0 f tk) Q (gW (u.tr f)) (fun y g=>D y (I c y g).1) J (fun a e E=>hwS a e (I c _ E).1) hrp hnp fun h6 b6 ch Sk B t6 hSk hsame P=>?_
    have z6:=B.size;have w16:∀i,aR h6 (adr ⟨h.size,0,none⟩ i)=(#[.int .u64 x.k0,.int .u64 x.k1,.int .u64 x.mask,.pointer w,.string p.1,.int .u64 (l9 x p.1)]:Array Value)[i]?:=fun i=>by
     rw[bO,bA (B.get (f.get0 (k2.get0 b1)) fun g=>by have:=L _ (I c _ g).1;omega),aL]
    have k26:Upd (T c) j h6:=f.wide.tr B;by_cases G:p∈l
    ·have P:ch=false:=by rw[P,decide_eq_true (hmp.2 G)];rfl
     have E:cn l p.1=true:=cy.2 ⟨p,G,decide_eq_true rfl⟩;rw[E]at hk;rw[P];refine ay.2 ?_;obtain⟨_,k56⟩:=hsame P;have k26:=f.tr k56;exact hk h6 b false S (u.tr k26).wide (by rw[DC hr G];exact tt k26) (fun y g=>⟨.inl g,by have:=L y g;omega⟩) (fun _=>⟨rfl,u.tr k26⟩) (by rw[decide_eq_true G];rfl)
    ·have P:ch=true:=by rw[P,decide_eq_false fun h=>G (hmp.1 h)];rfl
     rw[P];refine aj.2 ⟨w,w16 3,?_⟩;have by6:=Q.updS B fun a e E=>hwS a e (I c _ E).1
     have nd6:NodeO o W h6 b s S0:=nd5.imp (fun n=>⟨n.1.upd B fun y g=>.inl (D y (I c y g).1),n.2⟩) fun⟨e,d,n,sp,sk,on⟩=>⟨e,d,n,sp,sk,on.upd B fun y g=>(I c y g).2⟩
     refine uP nd6 by6 J hi (fun _ _=>hsp) ⟨b6,0,none⟩ fun h7 b7 d7 n7 sp7 sk7 on7 hu7=>?_
     have:=turn (T':=Sk) k26 on7 hu7 (fun c' C=>⟨gp C,gp C⟩) (.inr (.inr ⟨bv h2l (Kl p),gD,b6,gD,t6⟩)) (fun y g=>⟨(hSk y g).1.imp id fun h=>by omega,(hSk y g).2⟩) G
     rw[htp];exact this
end Go.Proofs
namespace Go.Proofs
open Go Go.Lift
theorem PL{W S:Nat→Prop}{h:ad}{w o:Option Addr}{b:Nat}{l:List Pr}(v:BuckO o W h b l S)(t:By h w o)(J:∀a,o=some a→W a.block)(I:cA l)(q:l.length≤1000000000)(k:ByteArray){K:Option Addr→ad→Prop}
  (O:∀h' b' sp sk,OwnB (fun y=>S y∨h.size≤y) h' b' sp sk (pk k l) o→Upd S h h'→K (some ⟨b',0,none⟩) h'):
  HC PG pH [.pointer (some ⟨b,0,none⟩),.pointer w,.string k] [.c .ptr] K h:=by
 refine Cd _ w k ?_;unfold uE aM cp zE jp;obtain⟨sp,sk,ow,D,H,C,Q,F⟩:=(v.read t).ex;refine gt (d:=0) (n:=0) D (aj.2 ?_);refine Kb v t J q fun L p s2 s M j=>?_
 obtain⟨b2,hM,A,B,u,G,T,g⟩:=M;refine⟨_,rfl,s2,eA (i:=2) b2,?_⟩;refine J9 (u.sl (W:=No) fun _ _ _ h=>h) u.cap I q k fun s3 P m f=>?_
 have b3:=f.get0 b2;refine⟨_,rfl,Sy (i:=2) b3 (show 2<6 by decide),F6 (i:=2) (c':=fM 0 0 s3 s true o) b3 rfl fun N E c=>?_⟩
 have V:=aH b2;have z:=j.size;have R:=f.size;have X:=c.size;refine O N p s3 s ⟨E,hM,fun x=>L.size≤x∧x<P.size,B,m.within.upd c fun x hx e=>?_,(G.upd f fun _ _ h=>h).upd c fun x hx e=>(g x hx).2.1 e,fun x hx=>⟨.inr (by omega),by omega,by omega⟩,fun x hx=>⟨(g x hx).1,(g x hx).2.1,by have:=(g x hx).2.2;omega⟩⟩ (((j.tr f).wide).trans c fun x hx=>?_)
 ·have e:x=p:=e
  have:=hx.1;omega
 ·have hx:x=p:=hx
  rw[hx];exact hM
set_option maxHeartbeats 2000000 in
theorem IL{W:Nat→Prop}{x:Hs}{w o:Option Addr}:∀(m:Nat),m≤13→∀{b:Nat} {l:List Pr} {S:Nat→Prop} (k:ByteArray) {h:ad},TrieO o W x h m b l S→By h w o→(∀y,W y→y<h.size)→(∀y,S y→W y)→(∀a,o=some a→W a.block)→(∀a,w=some a→¬S a.block)→cA l→l.length≤1000000→∀{K:(Option Addr)×Bool→ad→Prop},
  (∀C Y S',Upd S h C→TrieO o (fun y=>W y∨S' y) x C m Y (pk k l) S'→(∀y,S' y→(S y∨h.size≤y)∧y<C.size)→(cn l k=false→Y=b∧Upd No h C)→K (some ⟨Y,0,none⟩,cn l k) C)→
  HC PG lJ [Qb x w k,.pointer (some ⟨b,0,none⟩),.int .i64 ((13-m:Nat):Int)] [.c .ptr,.c .bool] K h:=by
 intro m;induction m with
 |zero=>
  intro _ b l S k h t by_ hW j I hwS hr hn K hk;have R:∀y,S y→y<h.size:=fun y f=>hW y (j y f)
  refine sP (x.k0,x.k1,x.mask,w,k,l9 x k) (some ⟨b,0,none⟩) ((13-0:Nat):Int) ?_;unfold oZ ah aI aG nv qK wm my tZ C6 iR yB Ii lR HS DU;refine aJ fun F b1 k1=>?_
  have bk:BuckO o W F b l S:=BuckO.upd0 t k1;have M:=by_.upd0 k1;have bkr:=bk.read M;obtain⟨sp,sk,ow,hb,_⟩:=bkr.ex;refine gt (d:=0) (n:=0) hb (ay.2 ⟨_,vc b1 4,T4 bkr hr (by omega) k fun Z v H hv=>?_⟩)
  have b3:=H.get0 b1;have Q:=k1.tr H;have z03:=Q.size;cases i:cn l k with
  |false=>
   rw[i]at hk;refine ay.2 (hk Z b S Q.wide (by rw[wZ (zJ i)];exact(BuckO.upd0 t Q).imp (fun n=>⟨n.1.less fun y f=>.inl (f.elim id (j y)),n.2⟩) id) (fun y f=>⟨.inl f,by have:=R y f;omega⟩) fun _=>⟨rfl,Q⟩)
  |true=>
   rw[i]at hk;refine aj.2 ⟨w,vc b3 3,_,vc b3 4,?_⟩;refine PL (bk.upd0 H) (M.upd0 H) I hr (by omega) k fun h5 b5 sp5 sk5 on5 V=>?_
   have z5:=V.size;have hS0:o=none→∀y,¬S y:=fun e y f=>by
    rcases t with⟨_,h⟩|⟨h,_⟩
    ·exact h y f
    ·rw[e]at h;cases h
   exact hk h5 b5 _ (Q.wide.tr V) (xI (W:=fun y=>W y∨(o.isSome=true∧(S y∨Z.size≤y)∧y<h5.size)) on5 fun e=>⟨hS0 e,fun y f=>f.elim (fun h=>by have:=hW y h;omega) fun h=>by rw[e]at h;cases h.1⟩) (fun y f=>⟨f.2.1.imp id fun h=>by omega,f.2.2⟩) (fun h=>by cases h)
 |succ m ih=>
  intro hm b l S k h t by_ hW j I hwS hr hn K hk;have gW:∀{C},Upd No h C→∀y,W y→y<C.size:=fun k y f=>bP (hW y f) k.size
  have R:∀y,S y→y<h.size:=fun y f=>hW y (j y f)
  have hl:13-(m+1)<13:=by omega
  have hlev:13-(m+1)=12-m:=by omega
  refine sP (x.k0,x.k1,x.mask,w,k,l9 x k) (some ⟨b,0,none⟩) ((13-(m+1):Nat):Int) ?_;unfold oZ ah aI aG nv qK wm my tZ C6 iR yB Ii lR HS DU;refine aJ fun F b1 k1=>?_
  have z1:=aH b1;have M:=by_.upd0 k1;have hno:o=none→∀y,¬S y:=fun e=>by subst e;exact t.off.2
  obtain⟨s,S0,T,nd0,h0,B,hd,hs⟩:=(TrieO.upd0 k1 t).view;have ndr:=nd0.read M;obtain⟨d,n,sp,sk,ow,hb,_⟩:=ndr.ex;refine gt hb (aj.2 ⟨_,vc b1 5,PC hl ?_⟩);rw[hlev];have hi:=yg x (12-m) k;have hsi:=hs _ hi;have N:cn (part x (12-m) (ck x (12-m) k) l) k=cn l k:=DY;have hrp:cA (part x (12-m) (ck x (12-m) k) l):=px hr;have hnp:(part x (12-m) (ck x (12-m) k) l).length≤1000000:=bv jW hn
  have G:∀y,S y→y<F.size:=fun y f=>by have:=R y f;omega
  have turn:∀{hz C:ad} {Y d n:Nat} {sp sk:SliceV} {s':Slots} {T':Nat→Prop},Upd (T (ck x (12-m) k)) F hz→OwnN (fun y=>S0 y∨hz.size≤y) C Y d n sp sk s' o→Upd S0 hz C→(∀c,c≠ck x (12-m) k→s'.p c=s.p c∧s'.k c=s.k c)→
    SlotO o (fun y=>W y∨T' y) x hz m s' (ck x (12-m) k) (pk k (part x (12-m) (ck x (12-m) k) l)) T'→(∀y,T' y→(T (ck x (12-m) k) y∨F.size≤y)∧y<hz.size)→cn l k=true→
    K (some ⟨Y,0,none⟩,cn l k) C:=fun{hz C Y d n sp sk s' T'} ku on ku2 hp hslot J hth=>by
   have zz:=ku.size;have zz':=ku2.size;have hT0:∀y,T' y→¬S0 y∧∀c,c≠ck x (12-m) k→¬T c y:=fun y f=>by
    rcases(J y f).1 with h|h
    ·exact⟨(B _ y h).2,fun c hc i=>hc (hd _ _ y i h)⟩
    ·exact⟨fun hs=>by have:=G y (h0 y hs);omega,fun c _ i=>by have:=G y (B c y i).1;omega⟩
   refine hk C Y _ ((k1.wide.tr (ku.mono fun y f=>.inl (B _ y f).1)).tr (ku2.mono fun y f=>.inl (h0 y f))) (yD (W:=W) (W1:=fun y=>W y∨T' y) (T:=T) (T':=T') (c0:=ck x (12-m) k) (s:=s) (hz:=hz) on ku2 (fun c hc hcc=>?_) hp ?_ (fun y f=>.inl f) (fun y f=>.inl (j y (h0 y f))) (fun c y f=>.inl (j y (B c y f).1)) (fun y f=>.inr f) (fun c y f=>⟨by have:=G y (B c y f).1;omega,(B c y f).2⟩) (fun y f=>⟨(J y f).2,hT0 y f⟩) hd fun e=>⟨fun y f=>hno e y (h0 y f),fun y f=>f.elim (fun h=>by have:=hW y h;omega) fun h=>(J y h).2⟩) (fun y f=>?_) (fun h=>by rw[hth]at h;cases h)
   ·rw[Pc hcc]
    refine((hs c hc).less (W':=fun y=>W y∨T' y) fun y f=>f.elim .inl fun h=>(J y h).1.imp (fun h=>j y (B _ y h).1) id).upd ku (fun y f=>G y (B c y f).1) fun y f=>.inl ⟨.inl (j y (B _ y f).1),fun h=>hcc (hd _ _ y h f)⟩
   ·rw[JY];exact hslot
   ·have:=MW (S:=S) (z0:=h.size) h0 (fun c y f=>⟨(B c y f).1,by have:=G y (B c y f).1;omega⟩) (fun y f=>⟨(J y f).1.imp (fun h=>(B _ y h).1) fun h=>by omega,by have:=(J y f).2;omega⟩) (by omega) f
    exact this
  have same:∀{C:ad},Upd No F C→cn l k=false→K (some ⟨b,0,none⟩,false) C:=fun{C} hu i=>by
   have z:=hu.size;have:=hk _ b S (k1.tr hu).wide (by rw[wZ (zJ i)];exact(TrieO.upd0 (k1.tr hu) t).less fun y f=>.inl (f.elim id (j y))) (fun y f=>⟨.inl f,by have:=G y f;omega⟩) fun _=>⟨rfl,k1.tr hu⟩
   rw[i]at this;exact this
  clear hk;generalize hc:ck x (12-m) k=c at*;generalize hlc:part x (12-m) c l=lc at*;refine zZ ndr hi fun Z H=>?_
  refine aJ fun h4 b4 k4=>?_
  have b4':h4[Z.size]? =some (.cells #[.string FT.1,.string FT.2] aB (0,0)):=b4;refine Cz (p:=BM (s.p c)) b4' fun h5 b5 V=>?_
  have g:Upd No F h5:=(H.tr k4).own V H.size;have z15:=g.size;have c1:=g.get0 b1;have nd5:=nd0.upd0 g;have X:=M.upd0 g;cases hsp:s.p c with
  |some y=>
   rw[hsp]at b5;obtain⟨O,hk0⟩:lc= [y]∧s.k c=none:=by
    rcases hsi with⟨_,u,_⟩|⟨q,F,u,Z,_⟩|⟨_,u,_⟩
    ·rw[hsp]at u;cases u
    ·rw[hsp]at u;cases u;exact⟨F,Z⟩
    ·rw[hsp]at u;cases u
   refine ay.2 ⟨y.1,vc b5 0,k,vc c1 4,?_⟩;rw[iW];by_cases e1:y.1=k
   ·have i:cn l k=true:=by rw[←N,O];exact cy.2 ⟨y,au.2 rfl,decide_eq_true e1⟩
    rw[decide_eq_true e1];refine aj.2 ⟨w,vc c1 3,PB nd5 X I hi fun h6 b6 d6 n6 sp6 sk6 on6 E=>?_⟩
    have:=turn (T':=No) g.wide on6 E (fun c' D=>⟨gp D,gp D⟩) (.inl ⟨by rw[O,xG,if_pos e1];rfl,gD,gD,fun _ h=>h⟩) (fun _ h=>h.elim) i
    rw[i]at this;exact this
   ·rw[decide_eq_false e1]
    have i:cn l k=false:=by
     rw[←N,O];unfold cn;rw[p9,decide_eq_false e1];rfl
    exact ay.2 (same g i)
  |none=>
   refine aj.2 (Aa (nd5.read X) hi ?_);cases hsk:s.k c with
   |none=>
    have hlc0:lc= []:=by
     rcases hsi with⟨F,_⟩|⟨q,_,u,_⟩|⟨_,_,kb,u,_⟩
     ·exact F
     ·rw[hsp]at u;cases u
     ·rw[hsk]at u;cases u
    exact ay.2 (same g (by rw[←N,hlc0];rfl))
   |some kp=>
    obtain⟨h2l,kb,rfl,tk⟩:2≤lc.length∧∃kb,kp=some ⟨kb,0,none⟩∧TrieO o W x F m kb lc (T c):=by
     rcases hsi with⟨_,_,u,_⟩|⟨q,_,u,_⟩|⟨F,_,kb,u,Z⟩
     ·rw[hsk]at u;cases u
     ·rw[hsp]at u;cases u
     ·rw[hsk]at u;cases u;exact⟨F,kb,rfl,Z⟩
    refine aj.2 ⟨_,vc c1 0,_,vc c1 1,_,vc c1 2,_,vc c1 3,_,vc c1 4,_,vc c1 5,?_⟩;have ew:IntKind.wrap .i64 (((12-m:Nat):Int)+1)=((13-m:Nat):Int):=by rw[oD (by omega)];omega
    rw[ew];refine ih (by omega) k (TrieO.upd0 g tk) X (gW (k1.tr g)) (fun y f=>j y (B c y f).1) I (fun a e i=>hwS a e (B c _ i).1) hrp hnp fun h6 b6 Sk E t6 hSk hsame=>?_
    have z6:=E.size;rw[N];cases i:cn l k with
    |false=>exact ay.2 (same (g.tr (hsame (by rw[N,i])).2) i)
    |true=>
     have k16:Upd (T c) F h6:=g.wide.tr E;have by6:=X.updS E fun a e i=>hwS a e (B c _ i).1
     have c6:=E.get c1 fun f=>by have:=R _ (B c _ f).1;omega
     have nd6:NodeO o W h6 b s S0:=nd5.imp (fun n=>⟨n.1.upd E fun y f=>.inl (j y (B c y f).1),n.2⟩) fun⟨e,d,n,sp,sk,on⟩=>⟨e,d,n,sp,sk,on.upd E fun y f=>(B c y f).2⟩
     have hdl:=Ob (k:=k) hrp;have hdn:(pk k lc).length≤1000000:=bv RE hnp;refine aj.2 (RZ (t6.read by6) hdn fun h7 p hu7 hp=>?_)
     refine aJ fun h8 b8 k8=>?_
     have b8':h8[h7.size]? =some (.cells #[.string FT.1,.string FT.2] aB (0,0)):=b8;refine Cz (p:=p) b8' fun h9 b9 hu9=>?_
     have A:Upd No h6 h9:=(hu7.tr k8).own hu9 hu7.size;have z69:=A.size;have c9:=A.get0 c6;have nd9:=nd6.upd0 A;have by9:=by6.upd0 A;have k19:Upd (T c) F h9:=k16.tr A.wide;refine aQ (fun e=>?_) fun e=>?_
     ·refine⟨w,vc c9 3,p.1,vc b9 0,p.2,vc b9 1,qd nd9 by9 I (fun y f=>by have:=G y (h0 y f);omega) hi (fun y f=>by rw[hsp]at f;cases f) p fun h10 b10 d10 n10 sp10 sk10 P L=>?_⟩
      have:=turn (T':=No) k19 P L (fun c' D=>⟨gp D,gp D⟩) (.inr (.inl ⟨p,hp e,gD,gD,fun _ h=>h⟩)) (fun _ h=>h.elim) i
      rw[i]at this;exact this
     ·refine⟨w,vc c9 3,uP nd9 by9 I hi (fun _ _=>hsp) ⟨b6,0,none⟩ fun h10 b10 d10 n10 sp10 sk10 P L=>?_⟩
      have:=turn (T':=Sk) k19 P L (fun c' D=>⟨gp D,gp D⟩) (.inr (.inr ⟨by omega,gD,b6,gD,TrieO.upd0 A t6⟩)) (fun y f=>⟨(hSk y f).1.imp id fun h=>by omega,by have:=(hSk y f).2;omega⟩) i
      rw[i]at this;exact this
end Go.Proofs
namespace Go.Proofs
open Go Go.Lift
theorem GO{h:ad}{b:Nat}{K:Option Addr→ad→Prop}(a:K (some ⟨b,0,none⟩) h):HC PG jA [.pointer (some ⟨b,0,none⟩)] [.c .ptr] K h:=by
 refine AZ _ ?_;unfold vB;exact aj.2 a
theorem Cv{h:ad}{b:Nat}{K:Option Addr→ad→Prop}(a:K (some ⟨b,0,none⟩) h):HC PG mG [.pointer (some ⟨b,0,none⟩)] [.c .ptr] K h:=by
 refine AF _ ?_;unfold vx;exact aj.2 a
structure Can(o w:Option Addr)(W S:Nat→Prop)(h:ad):Prop where
 by_:By h w o
 lt:∀y,W y→y<h.size
 sub:∀y,S y→W y
 tok:∀a,o=some a→W a.block
 off:∀a,w=some a→¬S a.block
theorem Can.upd0{o w:Option Addr}{W S:Nat→Prop}{h a:ad}(c:Can o w W S h)(k:Upd No h a):Can o w W S a:=⟨c.by_.upd0 k,fun y b=>bP (c.lt y b) k.size,c.sub,c.tok,c.off⟩
theorem IK{o w:Option Addr}{W S:Nat→Prop}{x:Hs}{h:ad}{b:Nat}{l:List Pr}(t:TrieO o W x h 13 b l S)(c:Can o w W S h)(Z:cA l)(V:l.length≤1000000)(p:Pr){K:Option Addr×Bool→ad→Prop}
  (hk:∀h' b' S',Upd S h h'→TrieO o (fun y=>W y∨S' y) x h' 13 b' (ix p l) S'→(∀y,S' y→(S y∨h.size≤y)∧y<h'.size)→K (some ⟨b',0,none⟩, !cn l p.1) h'):
  HC PG wV [.agg #[.int .u64 x.k0,.int .u64 x.k1,.int .u64 x.mask],.pointer w,.pointer (some ⟨b,0,none⟩),.agg #[.string p.1,.string p.2]] [.c .ptr,.c .bool] K h:=by
 refine K7 (x.k0,x.k1,x.mask) w (some ⟨b,0,none⟩) p ?_;unfold C4 ah aI aG eK zT vH qK tZ yB Ud Ur;refine aJ fun G b1 k1=>aJ fun C b2 R=>?_
 have d:∀{h':ad},Upd No C h'→∀i,aR h' (adr ⟨h.size,0,none⟩ i)=(#[.int .u64 x.k0,.int .u64 x.k1,.int .u64 x.mask]:Array Value)[i]?:=fun k i=>vc (k.get0 (R.get0 b1)) i
 have s:∀{h':ad},Upd No C h'→∀i,aR h' (adr ⟨G.size,0,none⟩ i)=(#[.string p.1,.string p.2]:Array Value)[i]?:=fun k i=>vc (k.get0 b2) i
 have A:=Upd.refl No C;have M:=k1.tr R;let H:List Value:= [.int .u64 x.k0,.int .u64 x.k1,.int .u64 x.mask,.pointer w,.string p.1,.int .u64 (l9 x p.1)]
 have fin:∀{g:ad} {m:Nat},Upd No C g→g[m]? =some (.cells H.toArray mA (0,0))→
   ∃v15:Int,aR g (adr ⟨m,0,none⟩ 0)=some (.int .u64 v15)∧
    ∃v16:Int,aR g (adr ⟨m,0,none⟩ 1)=some (.int .u64 v16)∧
    ∃v17:Int,aR g (adr ⟨m,0,none⟩ 2)=some (.int .u64 v17)∧
    ∃v18:Option Addr,aR g (adr ⟨m,0,none⟩ 3)=some (.pointer v18)∧
    ∃v19:ByteArray,aR g (adr ⟨m,0,none⟩ 4)=some (.string v19)∧
    ∃v20:Int,aR g (adr ⟨m,0,none⟩ 5)=some (.int .u64 v20)∧
    ∃v21:ByteArray,aR g (adr ⟨G.size,0,none⟩ 0)=some (.string v21)∧
    ∃v22:ByteArray,aR g (adr ⟨G.size,0,none⟩ 1)=some (.string v22)∧
    HC PG jA [.pointer (some ⟨b,0,none⟩)] [.c .ptr] (fun(O:Option Addr) f=>
     ((aR f (adr ⟨G.size,0,none⟩ 0)=some (.string v21)∧aR f (adr ⟨G.size,0,none⟩ 1)=some (.string v22))∧
      ((aR f (adr ⟨m,0,none⟩ 0)=some (.int .u64 v15)∧aR f (adr ⟨m,0,none⟩ 1)=some (.int .u64 v16)∧aR f (adr ⟨m,0,none⟩ 2)=some (.int .u64 v17)∧aR f (adr ⟨m,0,none⟩ 3)=some (.pointer v18)∧aR f (adr ⟨m,0,none⟩ 4)=some (.string v19)∧aR f (adr ⟨m,0,none⟩ 5)=some (.int .u64 v20))∧
       HC PG iM [.agg #[.int .u64 v15,.int .u64 v16,.int .u64 v17,.pointer v18,.string v19,.int .u64 v20],.pointer O,.agg #[.string v21,.string v22],.int .i64 0] [.c .ptr,.c .bool,.c .bool] (fun(F:(Option Addr)×Bool×Bool) L=>
        K (F.1,F.2.1) L) f))) g:=fun{g m} a N=>by
  have q:∀i,aR g (adr ⟨m,0,none⟩ i)=H.toArray[i]?:=fun i=>vc N i
  refine⟨_,q 0,_,q 1,_,q 2,_,q 3,_,q 4,_,q 5,p.1,s a 0,p.2,s a 1,GO ?_⟩;refine⟨⟨s a 0,s a 1⟩,⟨q 0,q 1,q 2,q 3,q 4,q 5⟩,?_⟩;have v:=M.tr a;have E:=c.upd0 v;have z4:=v.size;exact Tl 13 (ao _) p (TrieO.upd0 v t) E.by_ E.lt E.sub E.tok E.off Z V fun T P ch S6 B t6 D _ _=>hk T P S6 (v.wide.tr B) t6 fun y I=>⟨(D y I).1.imp id fun h=>by omega,(D y I).2⟩
 have own:∀{Q g:ad} {b:Nat},C.size≤b→Upd (· =b) Q g→Upd No C Q→Upd No C g:=fun X hu k=>k.trans hu fun y I=>.inr (I▸X)
 refine⟨_,d A 0,_,d A 1,_,d A 2,_,s A 0,_,d A 0,_,d A 1,_,d A 2,_,s A 0,?_,?_⟩
 ·refine sA fun Q n=>⟨s n 0,⟨d n 0,d n 1,d n 2⟩,?_⟩
  refine aJ fun g J u=>?_
  have a:=n.tr u;refine⟨s a 0,⟨d a 0,d a 1,d a 2⟩,?_⟩;refine cS (vs:=H) J rfl fun Y b5 z=>fin (own n.size z a) b5
 ·refine aJ fun g J u=>?_
  refine⟨s u 0,⟨d u 0,d u 1,d u 2⟩,s u 0,⟨d u 0,d u 1,d u 2⟩,?_⟩;refine sA fun Y z=>?_
  have j:=u.tr z;refine⟨s j 0,⟨d j 0,d j 1,d j 2⟩,?_⟩;exact cS (vs:=H) (z.get0 J) rfl fun T P B=>fin (own (ao _) B j) P
theorem Ge{o w:Option Addr}{W S:Nat→Prop}{x:Hs}{h:ad}{b:Nat}{l:List Pr}(t:TrieO o W x h 13 b l S)(c:Can o w W S h)(u:cA l)(p:l.length≤1000000)(k:ByteArray){K:Option Addr×Bool→ad→Prop}
  (A:∀h' b' S',Upd S h h'→TrieO o (fun y=>W y∨S' y) x h' 13 b' (pk k l) S'→(∀y,S' y→(S y∨h.size≤y)∧y<h'.size)→(cn l k=false→b'=b)→K (some ⟨b',0,none⟩,cn l k) h'):
  HC PG vn [.agg #[.int .u64 x.k0,.int .u64 x.k1,.int .u64 x.mask],.pointer w,.pointer (some ⟨b,0,none⟩),.string k] [.c .ptr,.c .bool] K h:=by
 refine Jd (x.k0,x.k1,x.mask) w (some ⟨b,0,none⟩) k ?_;unfold Be ah zT vH yB;refine aJ fun E b1 k1=>GO ?_
 refine⟨_,vc b1 0,_,vc b1 1,_,vc b1 2,_,vc b1 0,_,vc b1 1,_,vc b1 2,?_⟩;refine sA fun D d=>?_
 have i:=d.get0 b1;refine⟨⟨vc i 0,vc i 1,vc i 2⟩,?_⟩;have a:=k1.tr d;have g:=c.upd0 a;have C:=a.size;exact IL 13 (ao _) k (TrieO.upd0 a t) g.by_ g.lt g.sub g.tok g.off u p fun z q v j B f m=>A z q v (a.wide.tr j) B (fun y n=>⟨(f y n).1.imp id fun h=>by omega,(f y n).2⟩) fun s=>(m s).1
def RadO(o:Option Addr)(W:Nat→Prop)(h:ad)(b:Nat)(l:List Pr)(S:Nat→Prop):Prop:=∃w F,RxO o W h b ⟨#[]⟩ w F S∧fi F∧∀k v,(k,v)∈oI w F↔∃p∈l,p.1.data.toList=k∧p.2=v
theorem H5{o w:Option Addr}{W S:Nat→Prop}{h:ad}{b:Nat}{l:List Pr}(t:RadO o W h b l S)(c:Can o w W S h)(m:cA l)(p:Pr)(A:p.1.size≤1000000){K:Option Addr×Bool→ad→Prop}
  (E:∀h' b' S' a,Upd S h h'→RadO o (fun y=>W y∨S' y) h' b' (ix p l) S'→(∀y,S' y→(S y∨h.size≤y)∧y<h'.size)→K (some ⟨b',0,none⟩,a) h'):
  HC PG wQ [.pointer w,.pointer (some ⟨b,0,none⟩),.agg #[.string p.1,.string p.2]] [.c .ptr,.c .bool] K h:=by
 refine KS w (some ⟨b,0,none⟩) p ?_;unfold CU aG tZ Qg;refine aJ fun M b1 k1=>?_
 refine⟨p.1,vc b1 0,p.2,vc b1 1,Cv ⟨vc b1 1,vc b1 0,?_⟩⟩;obtain⟨w0,F,B,G,D⟩:=t;have i:=c.upd0 k1;have N:=k1.size;refine OU (p.1.size+1) p.1 p.2 (by omega) A (B.upd0 k1) i.by_ i.lt i.sub i.tok i.off G fun I b3 w' F' C a L n u f j s H J=>?_
 refine E I b3 C a (k1.wide.tr n) ⟨w',F',u,j,fun k v=>?_⟩ fun y z=>⟨(f y z).1.imp id fun h=>by omega,(f y z).2⟩
 rw[l0,s k v,←l0,D k v];constructor
 ·rintro(⟨rfl,rfl⟩|⟨d,q,g,rfl,rfl⟩)
  ·exact⟨p,(su m).2 (.inl rfl),rfl,rfl⟩
  ·exact⟨q,(su m).2 (.inr ⟨g,fun e=>d (by rw[e])⟩),rfl,rfl⟩
 ·rintro⟨q,g,rfl,rfl⟩
  rcases(su m).1 g with rfl|⟨g,d⟩
  ·exact .inl ⟨rfl,rfl⟩
  ·exact .inr ⟨fun e=>d (pJ.1 e),q,g,rfl,rfl⟩
theorem LM{w:Option ByteArray}{F:Fo}{l:List Pr}(h:∀k v,(k,v)∈oI w F↔∃p∈l,p.1.data.toList=k∧p.2=v)(a:Fit l):∀j v,pi F j v→j.length≤1000000:=fun j v hi=>by
 obtain⟨p,b,e,_⟩:=(h j v).1 (l0.2 (.inr hi));have:=(a p b).1;rw[←e,jU];omega
theorem F0{o w:Option Addr}{W S:Nat→Prop}{h:ad}{b:Nat}{l:List Pr}(t:RadO o W h b l S)(c:Can o w W S h)(H:Fit l)(k:ByteArray){K:Option Addr×Bool→ad→Prop}
  (J:∀h' b' S',Upd S h h'→RadO o (fun y=>W y∨S' y) h' b' (pk k l) S'→(∀y,S' y→(S y∨h.size≤y)∧y<h'.size)→(cn l k=false→b'=b)→K (some ⟨b',0,none⟩,cn l k) h'):
  HC PG u0 [.pointer w,.pointer (some ⟨b,0,none⟩),.string k] [.c .ptr,.c .bool] K h:=by
 refine IX w (some ⟨b,0,none⟩) k ?_;unfold A5 C6;refine Cv ?_;obtain⟨w0,F,E,L,u⟩:=t;refine OW (k.size+1) k (by omega) E c.by_ c.lt c.sub c.tok c.off L (LM u H) fun M b3 w' F' G a z D s n B g A=>?_
 have i:∀v,p7 w0 F k.data.toList v↔(k,v)∈l:=fun v=>by
  rw[←l0,u];constructor
  ·rintro⟨p,m,N,rfl⟩
   rw[←pJ.1 N];exact m
  ·intro m;exact⟨_,m,rfl,rfl⟩
 have C:a=cn l k:=by
  cases a with
  |false=>
   refine(zY fun q f e=>(g rfl).2.2.2.2 q.2 ((i _).2 ?_)).symm
   rw[←e];exact f
  |true=>
   obtain⟨v,hv⟩:=A rfl;exact(cy.2 ⟨_,(i v).1 hv,decide_eq_true rfl⟩).symm
 subst C;refine J M b3 G z ⟨w',F',D,n,fun j v=>?_⟩ s fun I=>(g I).1
 rw[l0,B j v,←l0,u];constructor
 ·rintro⟨d,q,f,rfl,rfl⟩
  exact⟨q,Dz.2 ⟨f,fun e=>d (by rw[e])⟩,rfl,rfl⟩
 ·rintro⟨q,f,rfl,rfl⟩
  obtain⟨f,d⟩:=Dz.1 f;exact⟨fun e=>d (pJ.1 e),q,f,rfl,rfl⟩
end Go.Proofs
namespace Go.Proofs
open Go Go.Lift
def Bl(p:Pr):Int:=if 256<p.1.size then 2 else if 4096<p.2.size then 3 else 0
theorem GU{p:Pr}(h:Bl p=0):p.1.size≤256∧p.2.size≤4096:=by
 unfold Bl at h;split at h
 ·cases h
 ·split at h
  ·cases h
  ·omega
theorem NU{p:Pr}{h:ad}{K:Int→ad→Prop}(a:K (Bl p) h):HC PG rc [.string p.1,.string p.2] [.c (.int .i64)] K h:=by
 refine Jb p.1 p.2 ?_;unfold Bb;unfold Bl at a;refine aQ (fun e=>?_) fun e=>aQ (fun e'=>?_) fun e'=>?_
 ·rw[if_pos (by omega)]at a;exact a
 ·rw[if_neg (by omega),if_pos (by omega)]at a;exact a
 ·rw[if_neg (by omega),if_neg (by omega)]at a;exact a
theorem Tg{p:Pr}{h:ad}{K:Int→ad→Prop}(a:K (Bl p) h):HC PG sH [.string p.1,.string p.2] [.c (.int .i64)] K h:=by
 refine CS p.1 p.2 ?_;unfold xh;unfold Bl at a;refine aQ (fun e=>?_) fun e=>aQ (fun e'=>?_) fun e'=>?_
 ·rw[if_pos (by omega)]at a;exact a
 ·rw[if_neg (by omega),if_pos (by omega)]at a;exact a
 ·rw[if_neg (by omega),if_neg (by omega)]at a;exact a
end Go.Proofs
namespace Go.Proofs
open Go Go.Lift
def BU(l:List Pr)(k:ByteArray):Int:=if 256<k.size then 2 else if cn l k then 0 else 4
def lQ(l:List Pr)(p:Pr):List Pr:=if Bl p=0 then ix p l else l
def oy(l:List Pr)(k:ByteArray):List Pr:=if 256<k.size then l else pk k l
theorem RadO.upd{o:Option Addr}{W M S:Nat→Prop}{h a:ad}{b:Nat}{l:List Pr}(k:Upd M h a)(t:RadO o W h b l S)(d:∀y,S y→y<h.size)(hm:∀y,M y→(W y∧¬S y)∨h.size≤y):RadO o W a b l S:=let⟨w,F,r,c,e⟩:=t;⟨w,F,r.upd k d hm,c,e⟩
theorem RadO.less{o:Option Addr}{W W' S:Nat→Prop}{h:ad}{b:Nat}{l:List Pr}(hm:∀y,W' y→W y∨h.size≤y)(t:RadO o W h b l S):RadO o W' h b l S:=let⟨w,F,r,c,e⟩:=t;⟨w,F,r.less hm,c,e⟩
def TreeO(o:Option Addr)(W:Nat→Prop)(h:ad)(a:Int)(x:Hs)(t:Tr)(l:List Pr)(S:Nat→Prop):Prop:=(a=0∧∃b,t=(0,x.k0,x.k1,x.mask,some ⟨b,0,none⟩,none)∧TrieO o W x h 13 b l S)∨(a=1∧∃b,t=(1,0,0,0,none,some ⟨b,0,none⟩)∧RadO o W h b l S)
theorem wn{o:Option Addr}{W:Nat→Prop}{h:ad}{a:Int}{x:Hs}{t:Tr}{l:List Pr}(i:TreeIs W h a x t l):TreeO o W h a x t l No:=
 i.imp (fun⟨e,b,c,t⟩=>⟨e,b,c,Jv t⟩) fun⟨e,b,c,t⟩=>⟨e,b,c,let⟨w,F,d,f,g⟩:=t.ex;⟨w,F,.inl ⟨d,fun _ h=>h⟩,f,g⟩⟩
theorem TreeO.upd{o:Option Addr}{W M S:Nat→Prop}{h f:ad}{a:Int}{x:Hs}{t:Tr}{l:List Pr}(k:Upd M h f)(i:TreeO o W h a x t l S)(d:∀y,S y→y<h.size)(hm:∀y,M y→(W y∧¬S y)∨h.size≤y):TreeO o W f a x t l S:=
 i.imp (fun⟨e,b,c,t⟩=>⟨e,b,c,TrieO.upd k t d hm⟩) fun⟨e,b,c,t⟩=>⟨e,b,c,t.upd k d hm⟩
theorem TreeO.upd0{o:Option Addr}{W S:Nat→Prop}{h f:ad}{a:Int}{x:Hs}{t:Tr}{l:List Pr}(k:Upd No h f)(i:TreeO o W h a x t l S):TreeO o W f a x t l S:=
 i.imp (fun⟨e,b,d,t⟩=>⟨e,b,d,TrieO.upd0 k t⟩) fun⟨e,b,d,w,F,r,c⟩=>⟨e,b,d,w,F,r.upd0 k,c⟩
theorem TreeO.less{o:Option Addr}{W W' S:Nat→Prop}{h:ad}(hm:∀b,W' b→W b∨h.size≤b){a:Int}{x:Hs}{t:Tr}{l:List Pr}(i:TreeO o W h a x t l S):TreeO o W' h a x t l S:=
 i.imp (fun⟨e,b,c,t⟩=>⟨e,b,c,TrieO.less hm t⟩) fun⟨e,b,c,t⟩=>⟨e,b,c,t.less hm⟩
theorem TreeO.freeze{o:Option Addr}{W W' S:Nat→Prop}{h:ad}(g:∀y,W' y→W y)(d:OwOk W' h o){a:Int}{x:Hs}{t:Tr}{l:List Pr}(i:TreeO o W h a x t l S)(f:∀y,S y→¬W' y):TreeIs W' h a x t l:=
 i.imp (fun⟨e,b,c,t⟩=>⟨e,b,c,TrieO.freeze g d t f⟩) fun⟨e,b,c,w,F,r,c1,c2⟩=>⟨e,b,c,⟨w,F,r.freeze g d f,c1,c2⟩⟩
theorem TreeO.read{o w:Option Addr}{W S:Nat→Prop}{h:ad}{b:Int}{x:Hs}{t:Tr}{l:List Pr}(i:TreeO o W h b x t l S)(by_:By h w o):TreeIs No h b x t l:=
 i.freeze (fun _ h=>h.elim) (fun a e=>⟨id,by_.plain a (by_.tok e)⟩) fun _ _ h=>h
theorem Can.pro{o w:Option Addr}{W S:Nat→Prop}{h b:ad}(c:Can o w W S h)(k:Upd No h b):Can o w (Pro W h b) S b:=⟨c.by_.upd0 k,Pro.lt c.lt k,fun y d=>.inl (c.sub y d),fun a e=>.inl (c.tok a e),c.off⟩
theorem TreeO.pro{o:Option Addr}{W S:Nat→Prop}{h b:ad}(k:Upd No h b){a:Int}{x:Hs}{t:Tr}{l:List Pr}(i:TreeO o W h a x t l S):TreeO o (Pro W h b) b a x t l S:=(i.less Pro.hm).upd0 k
theorem TreeO.loc{o:Option Addr}{W S f:Nat→Prop}{h g j m:ad}{b:Nat}{a:Int}{x:Hs}{t:Tr}{l:List Pr}(i:TreeO o (fun y=>Pro W h g y∨f y) j a x t l f)(k:Upd (· =b) j m)(p:h.size≤b)(s:b<g.size)(n:∀y,S y→y<h.size)(d:∀y,f y→(S y∨g.size≤y)∧y<j.size):TreeO o (fun y=>Pro W h g y∨f y) m a x t l f:=
 i.upd k (fun y c=>(d y c).2) fun y c=>by
  have c:y=b:=c;subst c;refine .inl ⟨.inl (.inr ⟨p,s⟩),fun q=>?_⟩
  rcases(d y q).1 with h|h
  ·have:=n y h;omega
  ·omega
theorem GM{o w:Option Addr}{W S:Nat→Prop}{x:Hs}{h:ad}{u:Int}{t:Tr}{l:List Pr}(i:TreeO o W h u x t l S)(c:Can o w W S h)(X:cA l)(hn:l.length≤1000000)(p:Pr){K:Tr×Int→ad→Prop}
  (H:∀h' v A,Upd S h h'→TreeO o (fun y=>W y∨A y) h' u x v (lQ l p) A→(∀y,A y→(S y∨h.size≤y)∧y<h'.size)→(Bl p≠0→v=t)→K (v,Bl p) h'):HC PG iH [GK t,.pointer w,.agg #[.string p.1,.string p.2]] [.agg [.int .i64,.int .u64,.int .u64,.int .u64,.ptr,.ptr],.c (.int .i64)] K h:=by
 unfold lQ at H;have s:∀y,S y→y<h.size:=fun y a=>c.lt y (c.sub y a)
 refine B5 t w p ?_;unfold uw bh ah bS aI aG eK cp vH rk pj qK jS zF tZ;refine aJ fun Y b1 k1=>aJ fun L b2 O=>aJ fun Q b3 N=>?_
 have z1:=aH b1;have z2:=aH b2;have z3:=aH b3;have s1:h.size≤Y.size:=k1.size;have s2:Y.size≤L.size:=O.size;have s3:=N.size;have z:=(k1.tr O).tr N;have n:=N.get0 (O.get0 b1);have F:=N.get0 b2;refine⟨_,vc F 0,_,vc F 1,NU (p:=p) ?_⟩;by_cases e:Bl p=0
 ·rw[if_pos e]at H
  have M:=GU e;rw[e]at H⊢;refine aj.2 ?_;have i3:=i.pro z;have V:=c.pro z;have fin:∀{B D:ad} {v:Tr} {A:Nat→Prop},Upd S Q B→TreeO o (fun y=>Pro W h Q y∨A y) B u x v (ix p l) A→(∀y,A y→(S y∨Q.size≤y)∧y<B.size)→D[h.size]? =some (.cells (jT v).toArray aS (0,0))→Upd (· =h.size) B D→D[L.size]? =some (.cells (jT vI).toArray aS (0,0))→∀{E:ad},E[L.size]? =some (.cells (jT v).toArray aS (0,0))→Upd (· =L.size) D E→K (v,0) E:=fun{B D v A} I i4 f k g G {E} j m=>by
   have z4:=I.size;have z5:=g.size;have z6:=m.size;have Z:=i4.loc g (ao _) (by omega) s f;have i6:=Z.loc m (by omega) (by omega) s fun y a=>⟨(f y a).1,by have:=(f y a).2;omega⟩
   refine H E v A (((z.wide.tr I).trans g fun y a=>.inr (by have a:y=h.size:=a;omega)).trans m fun y a=>.inr (by have a:y=L.size:=a;omega)) (i6.less fun y a=>.inl (a.imp .inl id)) (fun y a=>⟨(f y a).1.imp id fun h=>by omega,by have:=(f y a).2;omega⟩) fun h=>absurd rfl h
  rcases i3 with⟨rfl,b,rfl,R⟩|⟨rfl,b,rfl,R⟩
  ·refine⟨_,vc n 0,aj.2 ⟨_,fI n 1 0,_,fI n 1 1,_,fI n 1 2,_,vc n 4,p.1,vc F 0,p.2,vc F 1,?_⟩⟩
   refine IK R V X hn p fun B q S4 d P f=>?_
   have J:∀{y},h.size≤y→¬S y:=fun a M=>by have:=s _ M;omega
   refine lN (i:=4) (c':=(jT (0,x.k0,x.k1,x.mask,some ⟨q,0,none⟩,none)).toArray) (d.get n (J (ao _))) (show 4<6 by decide) rfl fun D k g=>?_
   refine⟨_,vc k 0,_,vc k 1,_,vc k 2,_,vc k 3,_,vc k 4,_,vc k 5,?_⟩;have G:=g.oth (d.get b3 (J (by omega))) (by omega);refine cS (c:=jT vI) (vs:=jT (0,x.k0,x.k1,x.mask,some ⟨q,0,none⟩,none)) G rfl fun E j m=>?_
   exact⟨_,vc j 0,_,vc j 1,_,vc j 2,_,vc j 3,_,vc j 4,_,vc j 5,fin d (.inl ⟨rfl,q,rfl,P⟩) f k g G j m⟩
  ·refine⟨_,vc n 0,ay.2 ⟨_,vc n 5,p.1,vc F 0,p.2,vc F 1,?_⟩⟩
   refine H5 R V X p (by omega) fun B q S4 T d P f=>?_
   have J:∀{y},h.size≤y→¬S y:=fun a M=>by have:=s _ M;omega
   refine lN (i:=5) (c':=(jT (1,0,0,0,none,some ⟨q,0,none⟩)).toArray) (d.get n (J (ao _))) (show 5<6 by decide) rfl fun D k g=>?_
   refine⟨_,vc k 0,_,vc k 1,_,vc k 2,_,vc k 3,_,vc k 4,_,vc k 5,?_⟩;have G:=g.oth (d.get b3 (J (by omega))) (by omega);refine cS (c:=jT vI) (vs:=jT (1,0,0,0,none,some ⟨q,0,none⟩)) G rfl fun E j m=>?_
   exact⟨_,vc j 0,_,vc j 1,_,vc j 2,_,vc j 3,_,vc j 4,_,vc j 5,fin d (.inr ⟨rfl,q,rfl,P⟩) f k g G j m⟩
 ·rw[if_neg e]at H
  rw[show(Bl p !=0)=true by simpa using e]
  refine ay.2 ⟨_,vc n 0,_,vc n 1,_,vc n 2,_,vc n 3,_,vc n 4,_,vc n 5,?_⟩;refine cS (c:=jT vI) (vs:=jT t) b3 rfl fun B q d=>?_
  have C:=z.own d (by omega);exact⟨_,vc q 0,_,vc q 1,_,vc q 2,_,vc q 3,_,vc q 4,_,vc q 5,H B t S C.wide ((i.upd0 C).less fun y a=>.inl (a.elim id (c.sub y))) (fun y a=>⟨.inl a,by have:=s y a;have:=C.size;omega⟩) fun _=>rfl⟩
end Go.Proofs
namespace Go.Proofs
open Go Go.Lift
theorem zL{o w:Option Addr}{W S:Nat→Prop}{x:Hs}{h:ad}{u:Int}{t:Tr}{l:List Pr}(i:TreeO o W h u x t l S)(c:Can o w W S h)(hr:cA l)(hf:Fit l)(hn:l.length≤1000000)(k:ByteArray){K:Tr×Int→ad→Prop}
  (N:∀h' n q,Upd S h h'→TreeO o (fun y=>W y∨q y) h' u x n (oy l k) q→(∀y,q y→(S y∨h.size≤y)∧y<h'.size)→(BU l k≠0→n=t)→K (n,BU l k) h'):HC PG im [GK t,.pointer w,.string k] [.agg [.int .i64,.int .u64,.int .u64,.int .u64,.ptr,.ptr],.c (.int .i64)] K h:=by
 unfold oy BU at N;have D:∀y,S y→y<h.size:=fun y d=>c.lt y (c.sub y d)
 refine xO t w k ?_;unfold qO bh ah bS aI eK cp nv vH rk pj jS zF C6;refine aJ fun j b1 k1=>aJ fun G b2 k2=>?_
 have z1:=aH b1;have z2:=aH b2;have s1:h.size≤j.size:=k1.size;have T:=k1.tr k2;have c1:=k2.get0 b1;refine NU (p:=(k,⟨#[]⟩)) ?_;by_cases e:256<k.size
 ·rw[if_pos e,if_pos e]at N
  rw[show Bl (k,(⟨#[]⟩:ByteArray))=2 from if_pos e]
  refine ay.2 ⟨_,vc c1 0,_,vc c1 1,_,vc c1 2,_,vc c1 3,_,vc c1 4,_,vc c1 5,?_⟩;refine cS (c:=jT vI) (vs:=jT t) b2 rfl fun J H F=>?_
  have s:=T.own F s1;exact⟨_,vc H 0,_,vc H 1,_,vc H 2,_,vc H 3,_,vc H 4,_,vc H 5,N J t S s.wide ((i.upd0 s).less fun y d=>.inl (d.elim id (c.sub y))) (fun y d=>⟨.inl d,by have:=D y d;have:=s.size;omega⟩) fun _=>rfl⟩
 rw[if_neg e,if_neg e]at N;rw[show Bl (k,(⟨#[]⟩:ByteArray))=0 by unfold Bl;rw[if_neg e];exact if_neg (Nat.not_lt.2 (Nat.zero_le 4096))]
 refine aj.2 ?_;refine⟨_,vc c1 0,_,vc c1 1,_,vc c1 2,_,vc c1 3,_,vc c1 4,_,vc c1 5,?_⟩;refine aJ fun h3 b3 k3=>?_
 have z3:=aH b3;have s2:j.size≤G.size:=k2.size;refine cS (c:=jT vI) (vs:=jT t) b3 rfl fun J H F=>?_
 have s:Upd No h J:=(T.tr k3).own F (by omega);have X:Upd No G J:=k3.own F (ao _);have s4:h3.size≤J.size:=F.size;have L:=X.get0 c1;have d4:=X.get0 b2;have i4:=i.pro s;have V:=c.pro s;have Q:∀{y},h.size≤y→¬S y:=fun d hs=>by have:=D _ hs;omega
 have fin:∀{a:ad} {n:Tr} {q:Nat→Prop},Upd S h a→a[h.size]? =some (.cells (jT n).toArray aS (0,0))→a[j.size]? =some (.cells (jT vI).toArray aS (0,0))→a[G.size]? =some (.cells (jT t).toArray aS (0,0))→TreeO o (fun y=>Pro W h J y∨q y) a u x n (pk k l) q→(∀y,q y→(S y∨J.size≤y)∧y<a.size)→(cn l k=false→n=t)→
   CondP (!cn l k) (∃v41:Int,aR a (adr (aD G) 0)=some (.int .i64 v41)∧
    ∃v42:Int,aR a (adr (aD G) 1)=some (.int .u64 v42)∧
    ∃v43:Int,aR a (adr (aD G) 2)=some (.int .u64 v43)∧
    ∃v44:Int,aR a (adr (aD G) 3)=some (.int .u64 v44)∧
    ∃v45:Option Addr,aR a (adr (aD G) 4)=some (.pointer v45)∧
    ∃v46:Option Addr,aR a (adr (aD G) 5)=some (.pointer v46)∧
    (tT a (some (aD j)) 0 [.int .i64 v41,.int .u64 v42,.int .u64 v43,.int .u64 v44,.pointer v45,.pointer v46]∧
     At (gT a (aD j) 0 [.int .i64 v41,.int .u64 v42,.int .u64 v43,.int .u64 v44,.pointer v45,.pointer v46]) (fun A=>
      ∃v48:Int,aR A (adr (aD j) 0)=some (.int .i64 v48)∧
      ∃v49:Int,aR A (adr (aD j) 1)=some (.int .u64 v49)∧
      ∃v50:Int,aR A (adr (aD j) 2)=some (.int .u64 v50)∧
      ∃v51:Int,aR A (adr (aD j) 3)=some (.int .u64 v51)∧
      ∃v52:Option Addr,aR A (adr (aD j) 4)=some (.pointer v52)∧
      ∃v53:Option Addr,aR A (adr (aD j) 5)=some (.pointer v53)∧
      K ((v48,v49,v50,v51,v52,v53),4) A))) (
    ∃v54:Int,aR a (adr (aD h) 0)=some (.int .i64 v54)∧
    ∃v55:Int,aR a (adr (aD h) 1)=some (.int .u64 v55)∧
    ∃v56:Int,aR a (adr (aD h) 2)=some (.int .u64 v56)∧
    ∃v57:Int,aR a (adr (aD h) 3)=some (.int .u64 v57)∧
    ∃v58:Option Addr,aR a (adr (aD h) 4)=some (.pointer v58)∧
    ∃v59:Option Addr,aR a (adr (aD h) 5)=some (.pointer v59)∧
    (tT a (some (aD j)) 0 [.int .i64 v54,.int .u64 v55,.int .u64 v56,.int .u64 v57,.pointer v58,.pointer v59]∧
     At (gT a (aD j) 0 [.int .i64 v54,.int .u64 v55,.int .u64 v56,.int .u64 v57,.pointer v58,.pointer v59]) (fun B=>
      ∃v61:Int,aR B (adr (aD j) 0)=some (.int .i64 v61)∧
      ∃v62:Int,aR B (adr (aD j) 1)=some (.int .u64 v62)∧
      ∃v63:Int,aR B (adr (aD j) 2)=some (.int .u64 v63)∧
      ∃v64:Int,aR B (adr (aD j) 3)=some (.int .u64 v64)∧
      ∃v65:Option Addr,aR B (adr (aD j) 4)=some (.pointer v65)∧
      ∃v66:Option Addr,aR B (adr (aD j) 5)=some (.pointer v66)∧
      K ((v61,v62,v63,v64,v65,v66),0) B))):=fun{a n q} k6 O Z M i6 E m=>by
  have done:∀{I:ad},Upd (· =j.size) a I→(cn l k=false→n=t)→Upd S h I∧TreeO o (fun y=>W y∨q y) I u x n (pk k l) q∧∀y,q y→(S y∨h.size≤y)∧y<I.size:=fun{I} v _=>by
   have z7:=v.size;exact⟨k6.trans v fun y d=>.inr (by have d:y=j.size:=d;omega),(i6.loc v s1 (by omega) D E).less fun y d=>.inl (d.imp .inl id),fun y d=>⟨(E y d).1.imp id fun h=>by omega,by have:=(E y d).2;omega⟩⟩
  cases P:cn l k with
  |false=>
   rw[P]at N m done;have hte:=m rfl;subst hte;refine ay.2 ⟨_,vc M 0,_,vc M 1,_,vc M 2,_,vc M 3,_,vc M 4,_,vc M 5,?_⟩;refine cS (c:=jT vI) (vs:=jT n) Z rfl fun I C v=>?_
   refine⟨_,vc C 0,_,vc C 1,_,vc C 2,_,vc C 3,_,vc C 4,_,vc C 5,?_⟩;obtain⟨a1,a2,a3⟩:=done v fun _=>rfl
   exact N I n q a1 a2 a3 fun _=>rfl
  |true=>
   rw[P]at N m done;refine aj.2 ⟨_,vc O 0,_,vc O 1,_,vc O 2,_,vc O 3,_,vc O 4,_,vc O 5,?_⟩;refine cS (c:=jT vI) (vs:=jT n) Z rfl fun I C v=>?_
   refine⟨_,vc C 0,_,vc C 1,_,vc C 2,_,vc C 3,_,vc C 4,_,vc C 5,?_⟩;obtain⟨a1,a2,a3⟩:=done v fun h=>by cases h
   exact N I n q a1 a2 a3 fun h=>absurd rfl h
 refine Join.intro (fun tk a=>tk=cn l k∧∃n q,Upd S h a∧a[h.size]? =some (.cells (jT n).toArray aS (0,0))∧a[j.size]? =some (.cells (jT vI).toArray aS (0,0))∧a[G.size]? =some (.cells (jT t).toArray aS (0,0))∧TreeO o (fun y=>Pro W h J y∨q y) a u x n (pk k l) q∧(∀y,q y→(S y∨J.size≤y)∧y<a.size)∧(cn l k=false→n=t)) (fun R hR=>?_) ?_
 ·rcases i4 with⟨rfl,b,rfl,t4⟩|⟨rfl,b,rfl,t4⟩
  ·refine⟨_,vc L 0,aj.2 ⟨_,fI L 1 0,_,fI L 1 1,_,fI L 1 2,_,vc L 4,?_⟩⟩
   refine Ge t4 V hr hn k fun h5 Y S5 g t5 z m=>?_
   have s5:=g.size;refine lN (i:=4) (c':=(jT (0,x.k0,x.k1,x.mask,some ⟨Y,0,none⟩,none)).toArray) (g.get L (Q (ao _))) (show 4<6 by decide) rfl fun a b6 f=>?_
   have s6:=f.size;exact hR _ _ ⟨rfl,_,S5,(s.wide.tr g).trans f fun y d=>.inr (by have d:y=h.size:=d;omega),b6,f.oth (g.get d4 (Q (by omega))) (by omega),f.oth (g.get H (Q (by omega))) (by omega),TreeO.loc (.inl ⟨rfl,Y,rfl,t5⟩) f (ao _) (by omega) D z,fun y d=>⟨(z y d).1,by have:=(z y d).2;omega⟩,fun P=>by rw[m P]⟩
  ·refine⟨_,vc L 0,ay.2 ⟨_,vc L 5,?_⟩⟩
   refine F0 t4 V hf k fun h5 Y S5 g t5 z m=>?_
   have s5:=g.size;refine lN (i:=5) (c':=(jT (1,0,0,0,none,some ⟨Y,0,none⟩)).toArray) (g.get L (Q (ao _))) (show 5<6 by decide) rfl fun a b6 f=>?_
   have s6:=f.size;exact hR _ _ ⟨rfl,_,S5,(s.wide.tr g).trans f fun y d=>.inr (by have d:y=h.size:=d;omega),b6,f.oth (g.get d4 (Q (by omega))) (by omega),f.oth (g.get H (Q (by omega))) (by omega),TreeO.loc (.inr ⟨rfl,Y,rfl,t5⟩) f (ao _) (by omega) D z,fun y d=>⟨(z y d).1,by have:=(z y d).2;omega⟩,fun P=>by rw[m P]⟩
 ·rintro _ a ⟨rfl,n,q,k6,O,Z,M,i6,E,m⟩
  exact fin k6 O Z M i6 E m
theorem Can.nil{W:Nat→Prop}{h:ad}(a:∀y,W y→y<h.size):Can none none W No h:=⟨.inl ⟨rfl,rfl⟩,a,fun _ h=>h.elim,fun _ h=>(by cases h),fun _ _ h=>h⟩
theorem TreeO.nil{W S:Nat→Prop}{h:ad}{a:Int}{x:Hs}{t:Tr}{l:List Pr}(i:TreeO none (fun y=>W y∨S y) h a x t l S):TreeIs W h a x t l:=by
 rcases i with⟨e,b,d,t⟩|⟨e,b,d,w,F,r,c1,c2⟩
 ·exact .inl ⟨e,b,d,TrieAt.less (fun y c=>.inl (.inl c)) t.off.1⟩
 ·exact .inr ⟨e,b,d,⟨w,F,RxN.less (fun y c=>.inl (.inl c)) r.off.1,c1,c2⟩⟩
theorem GL{W:Nat→Prop}{x:Hs}{h:ad}{a:Int}{t:Tr}{l:List Pr}(i:TreeIs W h a x t l)(m:∀y,W y→y<h.size)(j:cA l)(f:l.length≤1000000)(p:Pr){K:Tr×Int→ad→Prop}
  (g:∀b c,TreeIs W b a x c (lQ l p)→(Bl p≠0→c=t)→Upd No h b→K (c,Bl p) b):HC PG iH [GK t,.pointer none,.agg #[.string p.1,.string p.2]] [.agg [.int .i64,.int .u64,.int .u64,.int .u64,.ptr,.ptr],.c (.int .i64)] K h:=
 GM (wn i) (Can.nil m) j f p fun b c _ k d _ e=>g b c d.nil e k
theorem HZ{W:Nat→Prop}{x:Hs}{h:ad}{a:Int}{t:Tr}{l:List Pr}(i:TreeIs W h a x t l)(n:∀y,W y→y<h.size)(m:cA l)(f:Fit l)(g:l.length≤1000000)(k:ByteArray){K:Tr×Int→ad→Prop}
  (j:∀b c,TreeIs W b a x c (oy l k)→(BU l k≠0→c=t)→Upd No h b→K (c,BU l k) b):HC PG im [GK t,.pointer none,.string k] [.agg [.int .i64,.int .u64,.int .u64,.int .u64,.ptr,.ptr],.c (.int .i64)] K h:=
 zL (wn i) (Can.nil n) m f g k fun b c _ o d _ e=>j b c d.nil e o
end Go.Proofs
namespace Go.Proofs
open Go Go.Lift Go.Conc
def PoolAt(h:ad)(pb cb cap:Nat)(ids:List Int):Prop:=pb≠cb∧h[pb]? =some (.cells #[.chan (some cb)] 130 (0,0))∧∃s r,h[cb]? =some (.chan cap (ids.map fun i=>Value.int .i64 i).toArray false s r false)
theorem PoolAt.upd{M:Nat→Prop}{h c:ad}{pb cb cap:Nat}{ids:List Int}(p:PoolAt h pb cb cap ids)(k:Upd M h c)(d:¬M pb)(f:¬M cb):PoolAt c pb cb cap ids:=let⟨n,a,s,r,b⟩:=p;⟨n,k.get a d,s,r,k.get b f⟩
theorem PoolAt.upd0{h a:ad}{pb cb cap:Nat}{ids:List Int}(p:PoolAt h pb cb cap ids)(k:Upd No h a):PoolAt a pb cb cap ids:=p.upd k id id
def TokAt(h:ad)(tb pb:Nat)(id:Int)(a:Bool):Prop:=h[tb]? =some (.cells #[.pointer (some ⟨pb,0,none⟩),.int .i64 id,.bool a] pS (0,0))
theorem TokAt.by_{h:ad}{tb pb:Nat}{id:Int}{a:Bool}(t:TokAt h tb pb id a):By h (some ⟨tb,0,none⟩) (if a then some ⟨tb,0,none⟩else none):=.inr ⟨tb,_,id,a,rfl,t,rfl⟩
theorem Ew{n:Nat}(q:1≤n)(o:n≤4096){h:ad}{K:Option Addr×Int→ad→Prop}(f:∀h',Upd No h h'→PoolAt h' (h.size+1) h.size n ((cQ n).map fun j=>((j:Nat):Int)+1)→K (some ⟨h.size+1,0,none⟩,0) h'):HC PG wP [.int .i64 n] [.c .ptr,.c (.int .i64)] K h:=by
 refine⟨fun w k=>.inl ⟨Tryz.call32 _ w,(QV q o (w:=w)).mono ?_⟩⟩
 subst k;rintro e w' ⟨rfl,ids,s,r,p,c,m⟩;have k1:Upd No w.heap ((w.heap.push (.chan n #[] false 0 0 false)).push (.cells #[.chan (some w.heap.size)] 130 (0,0))):=(Upd.push No w.heap _).tr (Upd.push No _ _);have a:ids=(((cQ n).map fun j=>((j:Nat):Int)+1).map fun i=>Value.int .i64 i):=by rw[p];simp[Function.comp_def]
 have b:((w.heap.push (.chan n #[] false 0 0 false)).push (.cells #[.chan (some w.heap.size)] 130 (0,0)))[w.heap.size+1]? =some (.cells #[.chan (some w.heap.size)] 130 (0,0)):=by
  rw[jQ,Array.size_push,if_pos rfl]
 rcases m with rfl|rfl
 ·refine⟨⟨rfl,rfl,rfl⟩,((some ⟨w.heap.size+1,0,none⟩,0):Option Addr×Int),rfl,f _ k1 ⟨by omega,b,s,r,?_⟩⟩
  rw[←a];exact c
 ·have d:=Upd.set (M:=(· =w.heap.size)) ((w.heap.push (.chan n #[] false 0 0 false)).push (.cells #[.chan (some w.heap.size)] 130 (0,0))) (.chan n ids.toArray false s r false) rfl
  refine⟨⟨rfl,rfl,rfl⟩,((some ⟨w.heap.size+1,0,none⟩,0):Option Addr×Int),rfl,f _ (k1.trans d fun y g=>.inr (by have g:y=w.heap.size:=g;omega)) ⟨by omega,d.get b (fun e=>by have e:w.heap.size+1=w.heap.size:=e;omega),s,r,?_⟩⟩
  rw[←a];exact c
theorem CA{h:ad}{pb cb cap:Nat}{i:Int}{ids:List Int}(p:PoolAt h pb cb cap (i::ids)){K:Option Addr×Int→ad→Prop}(d:∀h',Upd (· =cb) h h'→PoolAt h' pb cb cap ids→TokAt h' h.size pb i true→K (some ⟨h.size,0,none⟩,0) h'):HC PG lF [.pointer (some ⟨pb,0,none⟩)] [.c .ptr,.c (.int .i64)] K h:=by
 obtain⟨n,a,s,r,hc⟩:=p;refine⟨fun w c=>.inl ⟨Tryz.call33 _ w,?_⟩⟩
 subst c;rw[List.map_cons]at hc;refine(OG a hc).mono ?_;rintro e w' ⟨rfl,rfl⟩;have f:cb<w.heap.size:=(Array.getElem?_eq_some_iff.1 hc).1;have k1:=Upd.set (M:=(· =cb)) w.heap (.chan cap (ids.map fun i=>Value.int .i64 i).toArray false s (r+1) false) rfl
 have b:=k1.tr (Upd.push (· =cb) _ (.cells #[.pointer (some ⟨pb,0,none⟩),.int .i64 i,.bool true] pS (0,0)))
 refine⟨⟨rfl,rfl,rfl⟩,((some ⟨w.heap.size,0,none⟩,0):Option Addr×Int),rfl,d _ b ⟨n,b.get a n,s,r+1,?_⟩ ?_⟩
 ·show((w.heap.setIfInBounds cb _).push _)[cb]? =_
  rw[jQ,nG,if_neg (by omega),cN,if_pos rfl,if_pos f]
 ·show((w.heap.setIfInBounds cb _).push _)[w.heap.size]? =_
  rw[jQ,nG,if_pos rfl]
theorem F4{h:ad}{pb cb cap:Nat}(p:PoolAt h pb cb cap []){K:Option Addr×Int→ad→Prop}(b:K (none,6) h):HC PG lF [.pointer (some ⟨pb,0,none⟩)] [.c .ptr,.c (.int .i64)] K h:=by
 obtain⟨n,c,s,r,hc⟩:=p;refine⟨fun w a=>.inl ⟨Tryz.call33 _ w,?_⟩⟩
 subst a;refine(Lv c hc).mono ?_;rintro e w' ⟨rfl,rfl⟩;exact⟨⟨rfl,rfl,rfl⟩,((none,6):Option Addr×Int),rfl,b⟩
theorem L0{h:ad}{pb cb cap tb:Nat}{id:Int}{ids:List Int}(p:PoolAt h pb cb cap ids)(t:TokAt h tb pb id true)(o:ids.length<cap){K:Int→ad→Prop}(q:∀h',Upd (fun y=>y=cb∨y=tb) h h'→PoolAt h' pb cb cap (ids++ [id])→TokAt h' tb pb id false→K 0 h'):HC PG ud [.pointer (some ⟨pb,0,none⟩),.pointer (some ⟨tb,0,none⟩)] [.c (.int .i64)] K h:=by
 obtain⟨n,d,s,r,hc⟩:=p;have c:pb≠tb:=fun e=>by
  subst e;have:=d.symm.trans t;simp at this
 have b:cb≠tb:=fun e=>by
  subst e;have:=hc.symm.trans t;simp at this
 refine⟨fun w k=>.inl ⟨Tryz.call37 _ w,?_⟩⟩
 subst k;refine(Rh d t hc (by simpa using o) c b).mono ?_;rintro e w' ⟨rfl,m,rfl⟩;have k1:=Upd.hset (M:=(· =tb)) w.heap (a:=⟨tb,2,none⟩) (.bool false) rfl
 have f:=Upd.set (M:=(· =cb)) (hset w.heap ⟨tb,2,none⟩ (.bool false)) (.chan cap ((ids.map fun i=>Value.int .i64 i).toArray.push (.int .i64 id)) false (s+1) r false) rfl
 have u:cb<(hset w.heap ⟨tb,2,none⟩ (.bool false)).size:=aH (k1.get hc fun e=>b e)
 refine⟨⟨rfl,rfl,rfl⟩,(0:Int),rfl,q _ ((k1.mono fun y g=>.inl (.inr g)).trans f fun y g=>.inl (.inl g)) ⟨n,f.get (k1.get d fun e=>c e) (fun e=>n e),s+1,r,?_⟩ (f.get ?_ (fun e=>b e.symm))⟩
 ·show((hset w.heap ⟨tb,2,none⟩ (.bool false)).setIfInBounds cb _)[cb]? =_
  rw[cN,if_pos rfl,if_pos u];simp
 ·have j:w.heap[tb]? =some (.cells #[.pointer (some ⟨pb,0,none⟩),.int .i64 id,.bool true] pS (0,0)):=t
  rw[EI j,jK j];rfl
end Go.Proofs
namespace Go.Proofs
open Go Go.Lift
end Go.Proofs
namespace Go.Proofs
structure WO{α:Type}(lt:α→α→Bool):Prop where
 irr:∀a,lt a a=false
 asy:∀a b,lt a b=true→lt b a=false
 ntr:∀a b c,lt a b=false→lt b c=false→lt a c=false
section
variable {α:Type} {lt:α→α→Bool}
def Vz(lt:α→α→Bool)(x a:α):Bool:= !lt a x&& !lt x a
def Srt(lt:α→α→Bool)(l:List α):Prop:=l.Pairwise fun a b=>lt b a=false
structure Eqf(lt:α→α→Bool)(l l':List α):Prop where
 len:l'.length=l.length
 flt:∀x,l'.filter (Vz lt x)=l.filter (Vz lt x)
structure St(lt:α→α→Bool)(l l':List α):Prop where
 eqf:Eqf lt l l'
 srt:Srt lt l'
theorem Eqf.rfl(l:List α):Eqf lt l l:=⟨_root_.rfl,fun _=>_root_.rfl⟩
theorem Eqf.tr{a b c:List α}(h:Eqf lt a b)(k:Eqf lt b c):Eqf lt a c:=⟨k.len.trans h.len,fun x=>(k.flt x).trans (h.flt x)⟩
theorem Eqf.app{a b a' c:List α}(h:Eqf lt a a')(k:Eqf lt b c):Eqf lt (a++b) (a'++c):=
 ⟨by rw[af,af,h.len,k.len],fun x=>by rw[kT,kT,h.flt,k.flt]⟩
theorem KH(w:WO lt)(a:α):Vz lt a a=true:=by unfold Vz;rw[w.irr];rfl
theorem Eqf.mem(w:WO lt){l l':List α}(h:Eqf lt l l'){a:α}:a∈l'↔a∈l:=by
 have e:=h.flt a;constructor
 ·intro hm
  have:a∈l'.filter (Vz lt a):=il.2 ⟨hm,KH w a⟩;rw[e]at this;exact(il.1 this).1
 ·intro hm
  have:a∈l.filter (Vz lt a):=il.2 ⟨hm,KH w a⟩;rw[←e]at this;exact(il.1 this).1
theorem Srt.app{a b:List α}(h:Srt lt a)(k:Srt lt b)(c:∀x∈a,∀y∈b,lt y x=false):Srt lt (a++b):=du.2 ⟨h,k,c⟩
theorem Srt.left{a b:List α}(h:Srt lt (a++b)):Srt lt a:=(du.1 h).1
theorem Srt.right{a b:List α}(h:Srt lt (a++b)):Srt lt b:=(du.1 h).2.1
theorem Srt.nil:Srt lt ([]:List α):=gn
theorem Srt.one(a:α):Srt lt [a]:=List.pairwise_singleton ..
end
end Go.Proofs
namespace Go.Proofs
open Go Go.Lift
theorem GN{W:Nat→Prop}{x:Hs}{h:ad}{b:Nat}{l:List Pr}(t:TrieAt W x h 13 b l){K:Option Addr→ad→Prop}(c:∀a,Upd No h a→K (some ⟨b,0,none⟩) a):HC PG lD [GK (0,x.k0,x.k1,x.mask,some ⟨b,0,none⟩,none)] [.c .ptr] K h:=by
 refine AC (0,x.k0,x.k1,x.mask,some ⟨b,0,none⟩,none) ?_;unfold sS bh aI pj;refine aJ fun d b1 k1=>?_
 refine Join.intro (fun t a=>t=false∧a=d) (fun R f=>⟨_,vc b1 0,ay.2 ⟨_,vc b1 4,f _ _ ⟨rfl,rfl⟩⟩⟩) ?_
 rintro t a ⟨rfl,rfl⟩;exact aj.2 ⟨_,vc b1 4,c a k1⟩
def HB(a:Int)(x:Hs)(l:List Pr)(xs:List UInt8):Prop:=(a=0∧xs=0::fg x 13 l)∨(a=1∧∃ys,MX l ys∧xs=1::ys)
theorem xH{h a:ad}{b:UInt8}(c:a[h.size]? =some (.cells #[.int .u8 (b.toNat:Int)] cz (0,0))):OwnS oz 1 cz (fun y=>h.size≤y) a ⟨some ⟨h.size,0,none⟩,1,1⟩ [b]:=⟨rfl,qB,ao _,.inr ⟨h.size,[],rfl,ao _,c,rfl⟩⟩
theorem OH{W:Nat→Prop}{x:Hs}{h:ad}{a:Int}{t:Tr}{l:List Pr}(i:TreeIs W h a x t l)(E:cA l)(p:Fit l)(u:l.length≤60000){K:SliceV→ad→Prop}
  (H:∀s' m xs,HB a x l xs→OwnS oz 1 cz (fun y=>h.size≤y) m s' xs→Upd No h m→K s' m):HC PG oM [GK t] [.c .slice] K h:=by
 refine AB t ?_;unfold sR bh ah aI pj xn;refine aJ fun q b1 k1=>?_
 have J:=k1.size;have app:∀{b:UInt8} {d f:ad} {s:SliceV} {xs:List UInt8},d[q.size]? =some (.cells #[.int .u8 (b.toNat:Int)] cz (0,0))→Upd No q d→OwnS oz 1 cz (fun y=>d.size≤y) f s xs→Upd No d f→xs.length≤70000000000000→HB a x l (b::xs)→
   ∃xs7,SRow f s.a (s.len*1) xs7∧AppP (some [.int .u8 0]) 1 1 cz (some (aD q)) 1 1 s.len xs7 f (fun C F=>K C F):=fun{b d f s xs} o c B j L hv=>by
  refine⟨_,(B.sl (W:=No) fun _ _ _ h=>h).srow,?_⟩
  have n:=c.tr j;have hz:=aH o;have o1:OwnS oz 1 cz (fun y=>h.size≤y) f ⟨some ⟨q.size,0,none⟩,1,1⟩ [b]:=((xH o).upd j fun _ _ h=>h).more fun y v=>by omega
  refine AppP.own (ys:=xs) o1 B.len rfl (zU _) rfl (by omega) (by simp only[aK];omega) (by have:=n.size;omega) fun s' m w A=>?_
  exact H s' m _ hv w ((k1.tr n).trans A fun y v=>.inr v)
 rcases i with⟨rfl,b,rfl,t⟩|⟨rfl,b,rfl,t⟩
 ·refine⟨_,vc b1 0,aj.2 (aJ fun d b2 c=>?_)⟩
  have c1:=c.get0 b1;refine⟨_,vc c1 0,_,vc c1 1,_,vc c1 2,_,vc c1 3,_,vc c1 4,_,vc c1 5,?_⟩;refine GN (TrieAt.upd0 (k1.tr c) t) fun f j=>?_
  refine S1 (TrieAt.upd0 ((k1.tr c).tr j) t) p u fun D G g z=>?_
  have I:=j.size;have k:=nP (x:=x) 13 p;have o:l.length*(20004+9*(13+1))≤60000*(20004+9*(13+1)):=ci _ u;exact app (b:=0) b2 c (g.more fun y v=>by omega) (j.tr z) (by omega) (.inl ⟨rfl,rfl⟩)
 ·refine⟨_,vc b1 0,ay.2 (aJ fun d b2 c=>?_)⟩
  have c1:=c.get0 b1;refine⟨_,vc c1 5,?_⟩;refine JM (t.upd0 (k1.tr c)) E p u fun D G xs hv g z=>?_
  have k:=zQ hv p;have o:2*l.length*20010≤2*60000*20010:=ci _ (by omega);exact app (b:=1) b2 c g z (by omega) (.inr ⟨rfl,xs,hv,rfl⟩)
theorem Qm{a:Int}{x f:Hs}(hx:a=0→x=f){l l':List Pr}{xs d:List UInt8}(hv:HB a x l xs)(b:HB a f l' d)(j:Fit l)(c:Fit l')(k:l.length≤60000)(i:l'.length≤60000)(n:cA l)(g:cA l'):xs=d↔l=l':=by
 rcases hv with⟨rfl,rfl⟩|⟨rfl,ys,hv,rfl⟩<;>rcases b with⟨e,rfl⟩|⟨e,m,b,rfl⟩
 ·rw[hx rfl]
  constructor
  ·intro h
   have h:fg f 13 l++ []=fg f 13 l'++ []:=by rw[(fA.inj h).2]
   exact(D6 13 j c k i n g h).1
  ·rintro rfl;rfl
 ·cases e
 ·cases e
 ·rw[fA.injEq,←Te hv b j c]
  exact⟨fun h=>h.2,fun h=>⟨rfl,h⟩⟩
theorem TreeIs.plain{W:Nat→Prop}{h:ad}{f:Int}{x:Hs}{t:Tr}{l:List Pr}(i:TreeIs W h f x t l):(∀a,t.2.2.2.2.1=some a→eL h a)∧(∀a,t.2.2.2.2.2=some a→eL h a):=by
 rcases i with⟨rfl,b,rfl,t⟩|⟨rfl,b,rfl,t⟩
 ·obtain⟨s,j,_⟩:=t
  obtain⟨d,n,sp,sk,ow,g,_⟩:=j.ex;refine⟨fun a c=>?_,fun a c=>(by cases c)⟩
  cases c;exact⟨_,_,g,show 0<6 by decide⟩
 ·obtain⟨w,F,⟨val,s,ow,ks,g,_⟩,_⟩:=t.ex
  refine⟨fun a c=>(by cases c),fun a c=>?_⟩
  cases c;exact⟨_,_,g,show 0<5 by decide⟩
theorem SS{W W':Nat→Prop}{x C:Hs}{h:ad}{k g:Int}{t u:Tr}{l l':List Pr}(i:TreeIs W h k x t l)(A:TreeIs W' h g C u l'){K:Bool→ad→Prop}(B:∀h',Upd No h h'→K (decide (t=u)) h'):HC PG yR [GK t,GK u] [.c .bool] K h:=by
 refine M1 t u ?_;unfold Fl bh ah aI pj;refine aJ fun n b1 k1=>aJ fun j b2 m=>?_
 have c1:=m.get0 b1;have p1:=(i.upd0 (k1.tr m)).plain;have w:=(A.upd0 (k1.tr m)).plain;refine⟨_,vc c1 0,_,vc c1 1,_,vc c1 2,_,vc c1 3,_,vc c1 4,_,vc c1 5,_,vc b2 0,_,vc b2 1,_,vc b2 2,_,vc b2 3,_,vc b2 4,_,vc b2 5,⟨⟨fun y z v hz=>⟨p1.1 y v,w.1 z hz⟩,fun y z v hz=>⟨p1.2 y v,w.2 z hz⟩,trivial⟩,?_⟩⟩
 have e:((t.1==u.1)&&((((((t.2.1==u.2.1)&&((t.2.2.1==u.2.2.1)&&true)))&&((t.2.2.2.1==u.2.2.2.1)&&true)))&&((t.2.2.2.2.1==u.2.2.2.2.1)&&((t.2.2.2.2.2==u.2.2.2.2.2)&&true))))=decide (t=u):=by
  obtain⟨a,b,c,d,e,f⟩:=t;obtain⟨a',E,c',D,e',F⟩:=u;rw[Bool.eq_iff_iff];simp only[Bool.and_eq_true,beq_iff_eq,decide_eq_true_iff,Prod.mk.injEq,and_true];constructor
  ·rintro⟨n,⟨⟨j,s⟩,o⟩,p,q⟩;exact⟨n,j,s,o,p,q⟩
  ·rintro⟨n,j,s,o,p,q⟩;exact⟨n,⟨⟨j,s⟩,o⟩,p,q⟩
 rw[e];exact B j (k1.tr m)
end Go.Proofs
namespace Go.Proofs
open Go Go.Lift
abbrev Wp:List Value:= [.string (⟨#[]⟩:ByteArray),.string (⟨#[]⟩:ByteArray)]
theorem yc{h:ad}{t:TypeId}{p:Pr}{k:ad→Prop}(d:∀h',h'[h.size]? =some (.cells #[.string p.1,.string p.2] t (0,0))→Upd No h h'→k h'):
  At (hnew h [.string (⟨#[]⟩:ByteArray),.string (⟨#[]⟩:ByteArray)] t) fun b=>tT b (some (aD h)) 0 [.string p.1,.string p.2]∧At (gT b (aD h) 0 [.string p.1,.string p.2]) k:=by
 refine aJ fun g b1 k1=>?_
 exact cS (c:=Wp) (vs:= [.string p.1,.string p.2]) b1 rfl fun f b2 a=>d f b2 (k1.own a (ao _))
theorem Aw{t:TypeId}{M:Nat→Prop}{h:ad}{c:SliceV}{out:List Pr}{p:Pr}{K:SliceV→ad→Prop}(f:OwnS ge 2 t M h c out)(hM:∀b,h.size≤b→M b)(m:out.length+1≤1000000000)
  (g:∀s' a,OwnS ge 2 t M a s' (out++ [p])→Upd M h a→K s' a):
  ∃xs,SRow (hnew h [.string p.1,.string p.2] t) (some (aD h)) (1*2) xs∧AppP (some [.string (⟨#[]⟩:ByteArray),.string (⟨#[]⟩:ByteArray)]) 2 32 t c.a c.len c.cap 1 xs (hnew h [.string p.1,.string p.2] t) K:=by
 have k:=Upd.hnew No h [.string p.1,.string p.2] t;have i:OwnS ge 2 t (fun _=>True) (hnew h [.string p.1,.string p.2] t) ⟨some (aD h),1,1⟩ [p]:=⟨rfl,jh,ao _,.inr ⟨h.size,[],rfl,trivial,db ..,rfl⟩⟩
 refine⟨_,(i.sl (W:=No) fun _ _ _ h=>h).srow,?_⟩
 refine AppP.own (ys:= [p]) (f.upd k fun _ _ h=>h) rfl rfl rfl rfl (by omega) (by simp only[aK];omega) (hM _ (by rw[ly];omega)) fun s' a d j=>?_
 exact g s' a d ((Upd.hnew M h _ _).tr j)
theorem EG{p:Pr}:∀{A B:List Pr},(∀r∈A,kl r.1 p.1)→ix p (A++B)=A++ix p B
 | [],_,_=>rfl
 |r::A,B,h=>by
  rw[cY,gJ,if_pos (h r (aE ..)),EG fun q a=>h q (List.mem_cons_of_mem _ a)];rfl
theorem Km{p q:Pr}:∀{A:List Pr},(∃r∈A,kl p.1 r.1)→ix p (A++ [q])=ix p A++ [q]
 | [],h=>by obtain⟨r,g,_⟩:=h;simp at g
 |r::A,h=>by
  rw[cY,gJ,gJ];by_cases b:kl r.1 p.1
  ·rw[if_pos b,if_pos b,Km]
   ·rfl
   ·obtain⟨f,a,d⟩:=h
    rcases List.mem_cons.1 a with rfl|a
    ·exact absurd (jY b d) (cO _)
    ·exact⟨f,a,d⟩
  ·rw[if_neg b,if_neg b]
   by_cases c:r.1=p.1
   ·rw[if_pos c,if_pos c];rfl
   ·rw[if_neg c,if_neg c];rfl
theorem Kk{p:Pr}:∀{l:List Pr},(∀q∈l,kl p.1 q.1)→ix p l=p::l
 | [],_=>rfl
 |q::l,h=>by
  have a:=h q (aE ..);rw[gJ,if_neg fun b=>cO _ (jY a b),if_neg fun e=>by rw[e]at a;exact cO _ a]
theorem He{p:Pr}:∀{l:List Pr},cA l→ix p (l.filter fun q=>decide (q.1≠p.1))=ix p l
 | [],_=>rfl
 |r::l,c=>by
  have c:=List.pairwise_cons.1 c;have keep:∀{l:List Pr},(∀q∈l,kl p.1 q.1)→(l.filter fun q=>decide (q.1≠p.1))=l:=fun{l} h=>List.filter_eq_self.2 fun q a=>decide_eq_true fun e=>by have:=h q a;rw[e]at this;exact cO _ this
  rw[List.filter_cons,gJ];by_cases e:r.1=p.1
  ·have d:∀q∈l,kl p.1 q.1:=fun q a=>by rw[←e];exact c.1 q a
   rw[if_neg (by simp[e]),if_neg (by rw[e];exact cO _),if_pos e,keep d,Kk d]
  ·rw[if_pos (by simpa using e),gJ]
   by_cases b:kl r.1 p.1
   ·rw[if_pos b,if_pos b,He c.2]
   ·rw[if_neg b,if_neg b,if_neg e,if_neg e]
    have f:=wF b e;rw[keep fun q a=>jY f (c.1 q a)]
theorem yz{i n:Nat}(h:i<n)(a:n≤9223372036854775807):IntKind.wrap .i64 ((i:Int)+1)=((i+1:Nat):Int):=by rw[Go.IntWalk.i64_in _ (by omega)];omega
theorem Hd(p:Pr):∀{l:List Pr},(ix p l).length≤l.length+1
 | []=>ao _
 |q::l=>by
  rw[gJ];split
  ·have:=Hd p (l:=l);simp only[List.length_cons];omega
  ·split<;>simp
theorem VW{k:Int}(a:0≤k)(b:k≤255):IntKind.wrap .i64 (aZ k 2)=0∨IntKind.wrap .i64 (aZ k 2)=1:=by
 have:aZ k 2=k%2:=Int.tmod_eq_emod_of_nonneg a;rw[this,oD (by omega)];omega
end Go.Proofs
namespace Go.Proofs
open Go Go.Lift
end Go.Proofs
namespace Go.Proofs
open Go Go.Lift
section
variable {α:Type} {f:α→List Value} {sz:Nat} {t:TypeId} {M:Nat→Prop} {h:ad} {s:SliceV} {P Q:List α} {x:α}
end
end Go.Proofs
namespace Go.Proofs
open Go Go.Lift
variable {z0:Hs}
end Go.Proofs
namespace Go.Proofs
open Go Go.Lift
end Go.Proofs
namespace Go.Proofs
open Go Go.Lift
end Go.Proofs
namespace Go.Proofs
open Go Go.Lift
end Go.Proofs
namespace Go.Proofs
open Go Go.Lift
end Go.Proofs
namespace Go.Proofs
open Go Go.Lift
end Go.Proofs
namespace Go.Proofs
open Go Go.Lift
end Go.Proofs
