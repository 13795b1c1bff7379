/- A part of the proof that the named laws of this program answer true, whatever the input. -/
import Derived.Test.YtajpljopgikpgaaGreatDoorPart5
import Derived.Test.YtajpljopgikpgaaGreatDoorPart2
import Derived.Test.YtajpljopgikpgaaGreatDoorPart4
import Derived.Test.YtajpljopgikpgaaGreatDoorPart0
open Array renaming getElem?_push→jT,size_setIfInBounds→nA,getElem?_setIfInBounds→cK
open Int renaming tmod→su
open List renaming any_eq_true→co,mem_singleton→aq,any_cons→qf,range→dV,length_append→ad,filter_append→gZ,mem_filter→d9,append_nil→bh,nil_append→dM,mem_cons_self→av,pairwise_append→ci,append_assoc→au,pairwise_cons→ba,mem_cons→aw,mem_append→bM,length_singleton→aE,cons→eO,cons_append→dN
open List.Pairwise renaming nil→ey
open Nat renaming zero_add→aI,lt_of_lt_of_le→bI,le_trans→aX,le_refl→aj,zero_le→aS,mul_le_mul_right→cg
namespace Go.Proofs
open Go.Lift
theorem By.updS{h b:ae}{w o:Option Addr}{S:Nat→Prop}(t:By h w o)(k:Upd S h b)(c:∀a,w=some a→¬S a.block):By b w o:=t.upd k fun _ e d=>absurd d (c _ e)
set_option maxHeartbeats 2000000 in
theorem Tw{W:Nat→Prop}{x:Hs}{w o:Option Addr}:∀(m:Nat),m≤13→∀{b:Nat} {l:List Pr} {S:Nat→Prop} (p:Pr) {h:ae},TrieO o W x h m b l S→By h w o→(∀y,W y→y<h.size)→(∀y,S y→W y)→(∀a,o=some a→W a.block)→(∀a,w=some a→¬S a.block)→cx l→l.length≤1000000→∀{K:(Option Addr)×Bool×Bool→ae→Prop},
  (∀A b' ch S',Upd S h A→TrieO o (fun y=>W y∨S' y) x A m b' (gA p l) S'→(∀y,S' y→(S y∨h.size≤y)∧y<A.size)→(ch=false→b'=b∧Upd No h A)→ch= !decide (p∈l)→K (some ⟨b',0,none⟩, !cp l p.1,ch) A)→
  HC PG iT [Qh x w p.1,.pointer (some ⟨b,0,none⟩),.agg #[.string p.1,.string p.2],.int .i64 ((13-m:Nat):Int)] [.c .ptr,.c .bool,.c .bool] K h:=by
 intro m;induction m with
 |zero=>
  intro _ b l S p h t by_ hW E L hwS hr hn K hk;have N:∀y,S y→y<h.size:=fun y g=>hW y (E y g)
  refine uH (x.k0,x.k1,x.mask,w,p.1,me x p.1) (some ⟨b,0,none⟩) p ((13-0:Nat):Int) ?_;unfold pR ag aH nv pt jU ay tV lq yu HS tP mZ DE;refine aP fun h1 b1 k1=>aP fun j b2 k2=>?_
  have G:∀{A:ae},Upd No j A→∀i,aJ A (adr ⟨h.size,0,none⟩ i)=(#[.int .u64 x.k0,.int .u64 x.k1,.int .u64 x.mask,.pointer w,.string p.1,.int .u64 (me x p.1)]:Array Value)[i]?:=fun k i=>by
   rw[bV,bl (k.get0 (k2.get0 b1)),aI]
  have M:∀{A:ae},Upd No j A→∀i,aJ A (adr ⟨h1.size,0,none⟩ i)=(#[.string p.1,.string p.2]:Array Value)[i]?:=fun k i=>by rw[bV,bl (k.get0 b2),aI]
  have r:=Upd.refl No j;have u:=k1.tr k2;have z02:=u.size;have bk:BuckO o W j b l S:=BuckO.upd0 t u;have Z:=by_.upd0 u;have bkr:=bk.read Z;obtain⟨sp,sk,ow,hb,_⟩:=bkr.ex;refine iM (d:=0) (n:=0) hb (ax.2 ⟨_,M r 0,Uo bkr hr (by omega) p.1 fun h3 v V hv=>?_⟩)
  refine Join.intro (fun t' A=>t'=decide (p∈l)∧Upd No j A) (fun R hR=>?_) ?_
  ·cases C:cp l p.1 with
   |false=>
    refine al.2 (hR _ _ ⟨?_,V⟩);refine(decide_eq_false fun hm=>?_).symm
    have:cp l p.1=true:=co.2 ⟨p,hm,decide_eq_true rfl⟩;rw[C]at this;cases this
   |true=>
    have hv:=hv C;refine ax.2 ⟨_,M V 1,hR _ _ ⟨?_,V⟩⟩;rw[jB,decide_eq_decide];constructor
    ·intro e
     have e:v=p.2:=e;rw[e]at hv;exact hv
    ·intro hm
     exact D7 hr hv (show(p.1,p.2)∈l from hm)
  ·rintro t' h4 ⟨rfl,F⟩
   have z4:=F.size;by_cases hm:p∈l
   ·rw[decide_eq_true hm]
    refine ax.2 ?_;have C:cp l p.1=true:=co.2 ⟨p,hm,decide_eq_true rfl⟩;have:=hk h4 b false S (u.tr F).wide (by rw[Dl hr hm];exact(BuckO.upd0 t (u.tr F)).imp (fun n=>⟨n.1.less fun y g=>.inl (g.elim id (E y)),n.2⟩) id) (fun y g=>⟨.inl g,by have:=N y g;omega⟩) (fun _=>⟨rfl,u.tr F⟩) (by rw[decide_eq_true hm];rfl)
    rw[C]at this;exact this
   ·rw[decide_eq_false hm]
    refine al.2 ⟨w,G F 3,_,M F 0,_,M F 1,?_⟩;refine EP (bk.upd0 F) (Z.upd0 F) L (fun y g=>by have:=N y g;omega) hr (by omega) p fun h5 b5 sp5 sk5 on5 hu5=>?_
    have z5:=hu5.size;have hS0:o=none→∀y,¬S y:=fun e y g=>by
     rcases t with⟨_,h⟩|⟨h,_⟩
     ·exact h y g
     ·rw[e]at h;cases h
    refine hk h5 b5 true _ ((u.tr F).wide.tr hu5) (xB (W:=fun y=>W y∨(o.isSome=true∧(S y∨h4.size≤y)∧y<h5.size)) on5 fun e=>⟨hS0 e,fun y g=>g.elim (fun h=>by have:=hW y h;omega) fun h=>by rw[e]at h;cases h.1⟩) (fun y g=>⟨g.2.1.imp id fun h=>by omega,g.2.2⟩) (fun h=>by cases h) (by rw[decide_eq_false hm];rfl)
 |succ m ih=>
  intro hm b l S p h t by_ hW E L hwS hr hn K hk;have gW:∀{A},Upd No h A→∀y,W y→y<A.size:=fun k y g=>bI (hW y g) k.size
  have N:∀y,S y→y<h.size:=fun y g=>hW y (E y g)
  have hl:13-(m+1)<13:=by omega
  have hlev:13-(m+1)=12-m:=by omega
  refine uH (x.k0,x.k1,x.mask,w,p.1,me x p.1) (some ⟨b,0,none⟩) p ((13-(m+1):Nat):Int) ?_;unfold pR ag aH nv pt jU ay tV lq yu HS tP mZ DE;refine aP fun h1 b1 k1=>aP fun j b2 k2=>?_
  have G:∀{A:ae},Upd No j A→∀i,aJ A (adr ⟨h.size,0,none⟩ i)=(#[.int .u64 x.k0,.int .u64 x.k1,.int .u64 x.mask,.pointer w,.string p.1,.int .u64 (me x p.1)]:Array Value)[i]?:=fun k i=>by
   rw[bV,bl (k.get0 (k2.get0 b1)),aI]
  have M:∀{A:ae},Upd No j A→∀i,aJ A (adr ⟨h1.size,0,none⟩ i)=(#[.string p.1,.string p.2]:Array Value)[i]?:=fun k i=>by rw[bV,bl (k.get0 b2),aI]
  have r:=Upd.refl No j;have u:=k1.tr k2;have Z:=by_.upd0 u;have z02:=u.size;have hno:o=none→∀y,¬S y:=fun e=>by subst e;exact t.off.2
  obtain⟨s,S0,T,nd0,h0,I,hd,hs⟩:=(TrieO.upd0 u t).view;have tt:∀{A:ae},Upd No j A→TrieO o (fun y=>W y∨S y) x A (m+1) b l S:=fun k=>(TrieO.upd0 (u.tr k) t).less fun y g=>.inl (g.elim id (E y))
  have ndr:=nd0.read Z;obtain⟨d0,n0,sp0,sk0,ow0,hb0,_⟩:=ndr.ex;refine iM hb0 (al.2 ⟨_,G r 5,R8 hl ?_⟩);rw[hlev];have hi:=x8 x (12-m) p.1;have hsi:=hs _ hi;have hrp:=rE (x:=x) (lev:=12-m) (c:=ck x (12-m) p.1) hr;have hnp:(part x (12-m) (ck x (12-m) p.1) l).length≤1000000:=aX jX hn;have hmp:p∈part x (12-m) (ck x (12-m) p.1) l↔p∈l:=by rw[kU];exact⟨fun h=>h.1,fun h=>⟨h,rfl⟩⟩
  have Y:=DJ (x:=x) (lev:=12-m) (l:=l) (k:=p.1);have turn:∀{hz A:ae} {b' d n:Nat} {sp sk:SliceV} {s':Slots} {T':Nat→Prop},Upd (T (ck x (12-m) p.1)) j hz→OwnN (fun y=>S0 y∨hz.size≤y) A b' d n sp sk s' o→Upd S0 hz A→(∀c,c≠ck x (12-m) p.1→s'.p c=s.p c∧s'.k c=s.k c)→
    SlotO o (fun y=>W y∨T' y) x hz m s' (ck x (12-m) p.1) (gA p (part x (12-m) (ck x (12-m) p.1) l)) T'→(∀y,T' y→(T (ck x (12-m) p.1) y∨j.size≤y)∧y<hz.size)→p∉l→
    K (some ⟨b',0,none⟩, !cp l p.1,true) A:=fun{hz A b' d n sp sk s' T'} ku on ku2 hp hslot U Q=>by
   have zz:=ku.size;have zz':=ku2.size;have b2S:∀y,S y→y<j.size:=fun y g=>by have:=N y g;omega
   have p1:part x (12-m) (ck x (12-m) p.1) (gA p l)=gA p (part x (12-m) (ck x (12-m) p.1) l):=by rw[Ec hr,if_pos rfl]
   have hT0:∀y,T' y→¬S0 y∧∀c,c≠ck x (12-m) p.1→¬T c y:=fun y g=>by
    rcases(U y g).1 with h|h
    ·exact⟨(I _ y h).2,fun c hc C=>hc (hd _ _ y C h)⟩
    ·exact⟨fun hs=>by have:=b2S y (h0 y hs);omega,fun c _ C=>by have:=b2S y (I c y C).1;omega⟩
   refine hk A b' true _ ((u.wide.tr (ku.mono fun y g=>.inl (I _ y g).1)).tr (ku2.mono fun y g=>.inl (h0 y g))) (yw (W:=W) (W1:=fun y=>W y∨T' y) (T:=T) (T':=T') (c0:=ck x (12-m) p.1) (s:=s) (hz:=hz) on ku2 (fun c hc hcc=>?_) hp ?_ (fun y g=>.inl g) (fun y g=>.inl (E y (h0 y g))) (fun c y g=>.inl (E y (I c y g).1)) (fun y g=>.inr g) (fun c y g=>⟨by have:=b2S y (I c y g).1;omega,(I c y g).2⟩) (fun y g=>⟨(U y g).2,hT0 y g⟩) hd fun e=>⟨fun y g=>hno e y (h0 y g),fun y g=>g.elim (fun h=>by have:=hW y h;omega) fun h=>(U y h).2⟩) (fun y g=>?_) (fun h=>by cases h) (by rw[decide_eq_false Q];rfl)
   ·rw[Ec hr,if_neg fun e=>hcc e.symm]
    refine((hs c hc).less (W':=fun y=>W y∨T' y) fun y g=>g.elim .inl fun h=>(U y h).1.imp (fun h=>E y (I _ y h).1) id).upd ku (fun y g=>b2S y (I c y g).1) fun y g=>.inl ⟨.inl (E y (I _ y g).1),fun h=>hcc (hd _ _ y h g)⟩
   ·rw[p1];exact hslot
   ·have:=M3 (S:=S) (z0:=h.size) h0 (fun c y g=>⟨(I c y g).1,by have:=b2S y (I c y g).1;omega⟩) (fun y g=>⟨(U y g).1.imp (fun h=>(I _ y h).1) fun h=>by omega,by have:=(U y g).2;omega⟩) (by omega) g
    exact this
  generalize hc:ck x (12-m) p.1=c at hi hsi hrp hnp hmp Y turn;generalize hlp:part x (12-m) c l=lc at hsi hrp hnp hmp Y turn;refine Eh ndr hi fun h3 V=>?_
  refine aP fun h4 b4 k4=>?_
  have b4':h4[h3.size]? =some (.cells #[.string Hl.1,.string Hl.2] ar (0,0)):=b4;refine Cm (p:=BD (s.p c)) b4' fun h5 b5 hu5=>?_
  have f:Upd No j h5:=(V.tr k4).trans hu5 fun y g=>.inr (by have g:y=h3.size:=g;have:=V.size;omega)
  have w5:∀{A:ae},Upd No h5 A→∀i,aJ A (adr ⟨h3.size,0,none⟩ i)=(#[.string (BD (s.p c)).1,.string (BD (s.p c)).2]:Array Value)[i]?:=fun k i=>by rw[bV,bl (k.get0 b5),aI]
  have r5:=Upd.refl No h5;have z5:=f.size;have O:=Z.upd0 f;have nd5:=nd0.upd0 f;have h0b:∀y,S0 y→y<h5.size:=fun y g=>by have:=N y (h0 y g);omega
  cases hsp:s.p c with
  |some y=>
   rw[hsp]at w5;obtain⟨J,hk0,hTn⟩:lc= [y]∧s.k c=none∧∀y,¬T c y:=by
    rcases hsi with⟨_,j,_⟩|⟨q,h1,j,h3,h4⟩|⟨_,j,_⟩
    ·rw[hsp]at j;cases j
    ·rw[hsp]at j;cases j;exact⟨h1,h3,h4⟩
    ·rw[hsp]at j;cases j
   refine ax.2 ⟨y.1,w5 r5 0,y.2,w5 r5 1,p.1,M f 0,p.2,M f 1,?_⟩;rw[jB,jB];have hyl:y∈l:=(kU.1 (show y∈part x (12-m) c l by rw[hlp,J];exact aq.2 rfl)).1
   by_cases X:y.1=p.1
   ·have C:cp l p.1=true:=co.2 ⟨y,hyl,decide_eq_true X⟩
    by_cases e2:y.2=p.2
    ·rw[decide_eq_true X,decide_eq_true e2]
     have hyp:y=p:=Prod.ext X e2;have H:p∈l:=hyp▸hyl;refine ax.2 ?_;rw[C]at hk;exact hk h5 b false S (u.tr f).wide (by rw[Dl hr H];exact tt f) (fun y g=>⟨.inl g,by have:=N y g;omega⟩) (fun _=>⟨rfl,u.tr f⟩) (by rw[decide_eq_true H];rfl)
    ·rw[decide_eq_true X,decide_eq_false e2]
     refine al.2 ⟨y.1,w5 r5 0,p.1,M f 0,?_⟩;rw[jB,decide_eq_true X];refine ax.2 ⟨w,G f 3,p.1,M f 0,p.2,M f 1,?_⟩;refine qi nd5 O L h0b hi (fun _ _=>hk0) p fun h6 b6 d6 n6 sp6 sk6 on6 B=>?_
     have Q:p∉l:=fun hm=>by
      have:=hmp.2 hm;rw[J]at this;exact e2 (by rw[aq.1 this])
     have:=turn (T':=No) f.wide on6 B (fun c' D=>⟨gw D,gw D⟩) (.inr (.inl ⟨p,by rw[J,gP,if_neg (by rw[X];exact cD _),if_pos X],gK,gK,fun _ h=>h⟩)) (fun _ h=>h.elim) Q
     rw[C]at this;exact this
   ·rw[decide_eq_false X]
    refine al.2 ⟨y.1,w5 r5 0,p.1,M f 0,?_⟩;rw[jB,decide_eq_false X];refine al.2 ⟨w,G f 3,_,G f 0,_,G f 1,_,G f 2,_,G f 3,_,G f 4,_,G f 5,y.1,w5 r5 0,y.2,w5 r5 1,p.1,M f 0,p.2,M f 1,?_⟩;have ew:IntKind.wrap .i64 (((12-m:Nat):Int)+1)=((13-m:Nat):Int):=by rw[ji (by omega)];omega
    rw[ew];refine Sf m y p (by omega) X (gW (u.tr f)) O L fun h6 b6 Sk t6 hSk B=>⟨G (f.tr B) 3,?_⟩
    have z6:=B.size;refine uZ (nd5.upd0 B) (O.upd0 B) L hi (fun z hz=>by rw[hk0]at hz;cases hz) ⟨b6,0,none⟩ fun h7 b7 d7 n7 sp7 sk7 on7 hu7=>?_
    have C:cp l p.1=false:=by
     rw[←Y,J];unfold cp;rw[qf,decide_eq_false X];rfl
    have Q:p∉l:=fun hm=>by
     have:cp l p.1=true:=co.2 ⟨p,hm,decide_eq_true rfl⟩;rw[C]at this;cases this
    have:=turn (T':=Sk) (f.tr B).wide on7 hu7 (fun c' D=>⟨gw D,gw D⟩) (.inr (.inr (by rw[J];exact⟨by rw[NO X];omega,gK,b6,gK,t6⟩))) (fun y g=>⟨.inr (by have:=(hSk y g).1;omega),(hSk y g).2⟩) Q
    rw[C]at this;exact this
  |none=>
   refine al.2 (H1 (nd5.read O) hi ?_);cases hsk:s.k c with
   |none=>
    have hlc:lc= []:=by
     rcases hsi with⟨h1,_⟩|⟨q,_,j,_⟩|⟨_,_,kb,j,_⟩
     ·exact h1
     ·rw[hsp]at j;cases j
     ·rw[hsk]at j;cases j
    refine ax.2 ⟨w,G f 3,p.1,M f 0,p.2,M f 1,?_⟩;refine qi nd5 O L h0b hi (fun _ _=>hsk) p fun h6 b6 d6 n6 sp6 sk6 on6 B=>?_
    have C:cp l p.1=false:=by rw[←Y,hlc];rfl
    have Q:p∉l:=fun hm=>by
     have:cp l p.1=true:=co.2 ⟨p,hm,decide_eq_true rfl⟩;rw[C]at this;cases this
    have:=turn (T':=No) f.wide on6 B (fun c' D=>⟨gw D,gw D⟩) (.inr (.inl ⟨p,by rw[hlc];rfl,gK,gK,fun _ h=>h⟩)) (fun _ h=>h.elim) Q
    rw[C]at this;exact this
   |some kp=>
    obtain⟨h2l,kb,rfl,tk⟩:2≤lc.length∧∃kb,kp=some ⟨kb,0,none⟩∧TrieO o W x j m kb lc (T c):=by
     rcases hsi with⟨_,_,j,_⟩|⟨q,_,j,_⟩|⟨h1,_,kb,j,h3⟩
     ·rw[hsk]at j;cases j
     ·rw[hsp]at j;cases j
     ·rw[hsk]at j;cases j;exact⟨h1,kb,rfl,h3⟩
    refine al.2 ⟨_,G f 0,_,G f 1,_,G f 2,_,G f 3,_,G f 4,_,G f 5,p.1,M f 0,p.2,M f 1,?_⟩;have ew:IntKind.wrap .i64 (((12-m:Nat):Int)+1)=((13-m:Nat):Int):=by rw[ji (by omega)];omega
    rw[ew];refine ih (by omega) p (TrieO.upd0 f tk) O (gW (u.tr f)) (fun y g=>E y (I c y g).1) L (fun a e C=>hwS a e (I c _ C).1) hrp hnp fun h6 b6 ch Sk B t6 hSk hsame P=>?_
    have z6:=B.size;have w16:∀i,aJ h6 (adr ⟨h.size,0,none⟩ i)=(#[.int .u64 x.k0,.int .u64 x.k1,.int .u64 x.mask,.pointer w,.string p.1,.int .u64 (me x p.1)]:Array Value)[i]?:=fun i=>by
     rw[bV,bl (B.get (f.get0 (k2.get0 b1)) fun g=>by have:=N _ (I c _ g).1;omega),aI]
    have k26:Upd (T c) j h6:=f.wide.tr B;by_cases H:p∈l
    ·have P:ch=false:=by rw[P,decide_eq_true (hmp.2 H)];rfl
     have C:cp l p.1=true:=co.2 ⟨p,H,decide_eq_true rfl⟩;rw[C]at hk;rw[P];refine ax.2 ?_;obtain⟨_,k56⟩:=hsame P;have k26:=f.tr k56;exact hk h6 b false S (u.tr k26).wide (by rw[Dl hr H];exact tt k26) (fun y g=>⟨.inl g,by have:=N y g;omega⟩) (fun _=>⟨rfl,u.tr k26⟩) (by rw[decide_eq_true H];rfl)
    ·have P:ch=true:=by rw[P,decide_eq_false fun h=>H (hmp.1 h)];rfl
     rw[P];refine al.2 ⟨w,w16 3,?_⟩;have by6:=O.updS B fun a e C=>hwS a e (I c _ C).1
     have nd6:NodeO o W h6 b s S0:=nd5.imp (fun n=>⟨n.1.upd B fun y g=>.inl (E y (I c y g).1),n.2⟩) fun⟨e,d,n,sp,sk,on⟩=>⟨e,d,n,sp,sk,on.upd B fun y g=>(I c y g).2⟩
     refine uZ nd6 by6 L hi (fun _ _=>hsp) ⟨b6,0,none⟩ fun h7 b7 d7 n7 sp7 sk7 on7 hu7=>?_
     have:=turn (T':=Sk) k26 on7 hu7 (fun c' D=>⟨gw D,gw D⟩) (.inr (.inr ⟨aX h2l (Kk p),gK,b6,gK,t6⟩)) (fun y g=>⟨(hSk y g).1.imp id fun h=>by omega,(hSk y g).2⟩) H
     rw[Y];exact this
end Go.Proofs
namespace Go.Proofs
open Go Go.Lift
theorem PQ{W S:Nat→Prop}{h:ae}{w o:Option Addr}{b:Nat}{l:List Pr}(s:BuckO o W h b l S)(t:By h w o)(N:∀a,o=some a→W a.block)(G:cx l)(v:l.length≤1000000000)(k:ByteArray){K:Option Addr→ae→Prop}
  (T:∀h' b' sp sk,OwnB (fun y=>S y∨h.size≤y) h' b' sp sk (pu k l) o→Upd S h h'→K (some ⟨b',0,none⟩) h'):
  HC PG pN [.pointer (some ⟨b,0,none⟩),.pointer w,.string k] [.c .ptr] K h:=by
 refine B5 _ w k ?_;unfold uQ vJ cY Bh bD;obtain⟨sp,sk,ow,E,I,D,J,Q⟩:=(s.read t).ex;refine iM (d:=0) (n:=0) E (al.2 ?_);refine J0 s t N v fun P m R u M j=>?_
 obtain⟨b2,hM,A,B,q,C,Y,g⟩:=M;refine⟨_,rfl,R,eC (i:=2) b2,?_⟩;refine JY (q.sl (W:=No) fun _ _ _ h=>h) q.cap G v k fun z F p f=>?_
 have b3:=f.get0 b2;refine⟨_,rfl,SM (i:=2) b3 (show 2<6 by decide),FK (i:=2) (c':=fR 0 0 z u true o) b3 rfl fun H O c=>?_⟩
 have V:=aN b2;have L:=j.size;have X:=f.size;have U:=c.size;refine T H m z u ⟨O,hM,fun x=>P.size≤x∧x<F.size,B,p.within.upd c fun x hx e=>?_,(C.upd f fun _ _ h=>h).upd c fun x hx e=>(g x hx).2.1 e,fun x hx=>⟨.inr (by omega),by omega,by omega⟩,fun x hx=>⟨(g x hx).1,(g x hx).2.1,by have:=(g x hx).2.2;omega⟩⟩ (((j.tr f).wide).trans c fun x hx=>?_)
 ·have e:x=m:=e
  have:=hx.1;omega
 ·have hx:x=m:=hx
  rw[hx];exact hM
set_option maxHeartbeats 2000000 in
theorem Iq{W:Nat→Prop}{x:Hs}{w o:Option Addr}:∀(m:Nat),m≤13→∀{b:Nat} {l:List Pr} {S:Nat→Prop} (k:ByteArray) {h:ae},TrieO o W x h m b l S→By h w o→(∀y,W y→y<h.size)→(∀y,S y→W y)→(∀a,o=some a→W a.block)→(∀a,w=some a→¬S a.block)→cx l→l.length≤1000000→∀{K:(Option Addr)×Bool→ae→Prop},
  (∀C Z S',Upd S h C→TrieO o (fun y=>W y∨S' y) x C m Z (pu k l) S'→(∀y,S' y→(S y∨h.size≤y)∧y<C.size)→(cp l k=false→Z=b∧Upd No h C)→K (some ⟨Z,0,none⟩,cp l k) C)→
  HC PG lK [Qh x w k,.pointer (some ⟨b,0,none⟩),.int .i64 ((13-m:Nat):Int)] [.c .ptr,.c .bool] K h:=by
 intro m;induction m with
 |zero=>
  intro _ b l S k h t by_ hW u I hwS hr hn K hk;have X:∀y,S y→y<h.size:=fun y f=>hW y (u y f)
  refine sZ (x.k0,x.k1,x.mask,w,k,me x k) (some ⟨b,0,none⟩) ((13-0:Nat):Int) ?_;unfold pa ag aH nv pt jU ay tV P2 lq yu HS tP mZ Hu DE;refine aP fun F b1 k1=>?_
  have bk:BuckO o W F b l S:=BuckO.upd0 t k1;have Q:=by_.upd0 k1;have bkr:=bk.read Q;obtain⟨sp,sk,ow,hb,_⟩:=bkr.ex;refine iM (d:=0) (n:=0) hb (ax.2 ⟨_,vc b1 4,Uo bkr hr (by omega) k fun Y v H hv=>?_⟩)
  have b3:=H.get0 b1;have M:=k1.tr H;have z03:=M.size;cases i:cp l k with
  |false=>
   rw[i]at hk;refine ax.2 (hk Y b S M.wide (by rw[wR (zI i)];exact(BuckO.upd0 t M).imp (fun n=>⟨n.1.less fun y f=>.inl (f.elim id (u y)),n.2⟩) id) (fun y f=>⟨.inl f,by have:=X y f;omega⟩) fun _=>⟨rfl,M⟩)
  |true=>
   rw[i]at hk;refine al.2 ⟨w,vc b3 3,_,vc b3 4,?_⟩;refine PQ (bk.upd0 H) (Q.upd0 H) I hr (by omega) k fun h5 b5 sp5 sk5 on5 U=>?_
   have z5:=U.size;have hS0:o=none→∀y,¬S y:=fun e y f=>by
    rcases t with⟨_,h⟩|⟨h,_⟩
    ·exact h y f
    ·rw[e]at h;cases h
   exact hk h5 b5 _ (M.wide.tr U) (xB (W:=fun y=>W y∨(o.isSome=true∧(S y∨Y.size≤y)∧y<h5.size)) on5 fun e=>⟨hS0 e,fun y f=>f.elim (fun h=>by have:=hW y h;omega) fun h=>by rw[e]at h;cases h.1⟩) (fun y f=>⟨f.2.1.imp id fun h=>by omega,f.2.2⟩) (fun h=>by cases h)
 |succ m ih=>
  intro hm b l S k h t by_ hW u I hwS hr hn K hk;have gW:∀{C},Upd No h C→∀y,W y→y<C.size:=fun k y f=>bI (hW y f) k.size
  have X:∀y,S y→y<h.size:=fun y f=>hW y (u y f)
  have hl:13-(m+1)<13:=by omega
  have hlev:13-(m+1)=12-m:=by omega
  refine sZ (x.k0,x.k1,x.mask,w,k,me x k) (some ⟨b,0,none⟩) ((13-(m+1):Nat):Int) ?_;unfold pa ag aH nv pt jU ay tV P2 lq yu HS tP mZ Hu DE;refine aP fun F b1 k1=>?_
  have z1:=aN b1;have Q:=by_.upd0 k1;have hno:o=none→∀y,¬S y:=fun e=>by subst e;exact t.off.2
  obtain⟨s,S0,T,nd0,h0,B,hd,hs⟩:=(TrieO.upd0 k1 t).view;have ndr:=nd0.read Q;obtain⟨d,n,sp,sk,ow,hb,_⟩:=ndr.ex;refine iM hb (al.2 ⟨_,vc b1 5,R8 hl ?_⟩);rw[hlev];have hi:=x8 x (12-m) k;have hsi:=hs _ hi;have L:cp (part x (12-m) (ck x (12-m) k) l) k=cp l k:=DJ;have hrp:cx (part x (12-m) (ck x (12-m) k) l):=rE hr;have hnp:(part x (12-m) (ck x (12-m) k) l).length≤1000000:=aX jX hn
  have G:∀y,S y→y<F.size:=fun y f=>by have:=X y f;omega
  have turn:∀{hz C:ae} {Z d n:Nat} {sp sk:SliceV} {s':Slots} {T':Nat→Prop},Upd (T (ck x (12-m) k)) F hz→OwnN (fun y=>S0 y∨hz.size≤y) C Z d n sp sk s' o→Upd S0 hz C→(∀c,c≠ck x (12-m) k→s'.p c=s.p c∧s'.k c=s.k c)→
    SlotO o (fun y=>W y∨T' y) x hz m s' (ck x (12-m) k) (pu k (part x (12-m) (ck x (12-m) k) l)) T'→(∀y,T' y→(T (ck x (12-m) k) y∨F.size≤y)∧y<hz.size)→cp l k=true→
    K (some ⟨Z,0,none⟩,cp l k) C:=fun{hz C Z d n sp sk s' T'} ku on ku2 hp hslot J hth=>by
   have zz:=ku.size;have zz':=ku2.size;have hT0:∀y,T' y→¬S0 y∧∀c,c≠ck x (12-m) k→¬T c y:=fun y f=>by
    rcases(J y f).1 with h|h
    ·exact⟨(B _ y h).2,fun c hc i=>hc (hd _ _ y i h)⟩
    ·exact⟨fun hs=>by have:=G y (h0 y hs);omega,fun c _ i=>by have:=G y (B c y i).1;omega⟩
   refine hk C Z _ ((k1.wide.tr (ku.mono fun y f=>.inl (B _ y f).1)).tr (ku2.mono fun y f=>.inl (h0 y f))) (yw (W:=W) (W1:=fun y=>W y∨T' y) (T:=T) (T':=T') (c0:=ck x (12-m) k) (s:=s) (hz:=hz) on ku2 (fun c hc hcc=>?_) hp ?_ (fun y f=>.inl f) (fun y f=>.inl (u y (h0 y f))) (fun c y f=>.inl (u y (B c y f).1)) (fun y f=>.inr f) (fun c y f=>⟨by have:=G y (B c y f).1;omega,(B c y f).2⟩) (fun y f=>⟨(J y f).2,hT0 y f⟩) hd fun e=>⟨fun y f=>hno e y (h0 y f),fun y f=>f.elim (fun h=>by have:=hW y h;omega) fun h=>(J y h).2⟩) (fun y f=>?_) (fun h=>by rw[hth]at h;cases h)
   ·rw[Po hcc]
    refine((hs c hc).less (W':=fun y=>W y∨T' y) fun y f=>f.elim .inl fun h=>(J y h).1.imp (fun h=>u y (B _ y h).1) id).upd ku (fun y f=>G y (B c y f).1) fun y f=>.inl ⟨.inl (u y (B _ y f).1),fun h=>hcc (hd _ _ y h f)⟩
   ·rw[JV];exact hslot
   ·have:=M3 (S:=S) (z0:=h.size) h0 (fun c y f=>⟨(B c y f).1,by have:=G y (B c y f).1;omega⟩) (fun y f=>⟨(J y f).1.imp (fun h=>(B _ y h).1) fun h=>by omega,by have:=(J y f).2;omega⟩) (by omega) f
    exact this
  have same:∀{C:ae},Upd No F C→cp l k=false→K (some ⟨b,0,none⟩,false) C:=fun{C} hu i=>by
   have z:=hu.size;have:=hk _ b S (k1.tr hu).wide (by rw[wR (zI i)];exact(TrieO.upd0 (k1.tr hu) t).less fun y f=>.inl (f.elim id (u y))) (fun y f=>⟨.inl f,by have:=G y f;omega⟩) fun _=>⟨rfl,k1.tr hu⟩
   rw[i]at this;exact this
  clear hk;generalize hc:ck x (12-m) k=c at*;generalize hlc:part x (12-m) c l=lc at*;refine Eh ndr hi fun Y H=>?_
  refine aP fun h4 b4 k4=>?_
  have b4':h4[Y.size]? =some (.cells #[.string Hl.1,.string Hl.2] ar (0,0)):=b4;refine Cm (p:=BD (s.p c)) b4' fun h5 b5 U=>?_
  have g:Upd No F h5:=(H.tr k4).own U H.size;have z15:=g.size;have V:=g.get0 b1;have nd5:=nd0.upd0 g;have R:=Q.upd0 g;cases hsp:s.p c with
  |some y=>
   rw[hsp]at b5;obtain⟨N,hk0⟩:lc= [y]∧s.k c=none:=by
    rcases hsi with⟨_,j,_⟩|⟨q,F,j,Y,_⟩|⟨_,j,_⟩
    ·rw[hsp]at j;cases j
    ·rw[hsp]at j;cases j;exact⟨F,Y⟩
    ·rw[hsp]at j;cases j
   refine ax.2 ⟨y.1,vc b5 0,k,vc V 4,?_⟩;rw[jB];by_cases e1:y.1=k
   ·have i:cp l k=true:=by rw[←L,N];exact co.2 ⟨y,aq.2 rfl,decide_eq_true e1⟩
    rw[decide_eq_true e1];refine al.2 ⟨w,vc V 3,PJ nd5 R I hi fun h6 b6 d6 n6 sp6 sk6 on6 E=>?_⟩
    have:=turn (T':=No) g.wide on6 E (fun c' D=>⟨gw D,gw D⟩) (.inl ⟨by rw[N,xu,if_pos e1];rfl,gK,gK,fun _ h=>h⟩) (fun _ h=>h.elim) i
    rw[i]at this;exact this
   ·rw[decide_eq_false e1]
    have i:cp l k=false:=by
     rw[←L,N];unfold cp;rw[qf,decide_eq_false e1];rfl
    exact ax.2 (same g i)
  |none=>
   refine al.2 (H1 (nd5.read R) hi ?_);cases hsk:s.k c with
   |none=>
    have hlc0:lc= []:=by
     rcases hsi with⟨F,_⟩|⟨q,_,j,_⟩|⟨_,_,kb,j,_⟩
     ·exact F
     ·rw[hsp]at j;cases j
     ·rw[hsk]at j;cases j
    exact ax.2 (same g (by rw[←L,hlc0];rfl))
   |some kp=>
    obtain⟨h2l,kb,rfl,tk⟩:2≤lc.length∧∃kb,kp=some ⟨kb,0,none⟩∧TrieO o W x F m kb lc (T c):=by
     rcases hsi with⟨_,_,j,_⟩|⟨q,_,j,_⟩|⟨F,_,kb,j,Y⟩
     ·rw[hsk]at j;cases j
     ·rw[hsp]at j;cases j
     ·rw[hsk]at j;cases j;exact⟨F,kb,rfl,Y⟩
    refine al.2 ⟨_,vc V 0,_,vc V 1,_,vc V 2,_,vc V 3,_,vc V 4,_,vc V 5,?_⟩;have ew:IntKind.wrap .i64 (((12-m:Nat):Int)+1)=((13-m:Nat):Int):=by rw[ji (by omega)];omega
    rw[ew];refine ih (by omega) k (TrieO.upd0 g tk) R (gW (k1.tr g)) (fun y f=>u y (B c y f).1) I (fun a e i=>hwS a e (B c _ i).1) hrp hnp fun h6 b6 Sk E t6 hSk hsame=>?_
    have z6:=E.size;rw[L];cases i:cp l k with
    |false=>exact ax.2 (same (g.tr (hsame (by rw[L,i])).2) i)
    |true=>
     have k16:Upd (T c) F h6:=g.wide.tr E;have by6:=R.updS E fun a e i=>hwS a e (B c _ i).1
     have c6:=E.get V fun f=>by have:=X _ (B c _ f).1;omega
     have nd6:NodeO o W h6 b s S0:=nd5.imp (fun n=>⟨n.1.upd E fun y f=>.inl (u y (B c y f).1),n.2⟩) fun⟨e,d,n,sp,sk,on⟩=>⟨e,d,n,sp,sk,on.upd E fun y f=>(B c y f).2⟩
     have hdl:=Om (k:=k) hrp;have hdn:(pu k lc).length≤1000000:=aX RX hnp;refine al.2 (Sq (t6.read by6) hdn fun h7 p hu7 hp=>?_)
     refine aP fun h8 b8 k8=>?_
     have b8':h8[h7.size]? =some (.cells #[.string Hl.1,.string Hl.2] ar (0,0)):=b8;refine Cm (p:=p) b8' fun h9 b9 hu9=>?_
     have A:Upd No h6 h9:=(hu7.tr k8).own hu9 hu7.size;have z69:=A.size;have c9:=A.get0 c6;have nd9:=nd6.upd0 A;have by9:=by6.upd0 A;have k19:Upd (T c) F h9:=k16.tr A.wide;refine aB (fun e=>?_) fun e=>?_
     ·refine⟨w,vc c9 3,p.1,vc b9 0,p.2,vc b9 1,qi nd9 by9 I (fun y f=>by have:=G y (h0 y f);omega) hi (fun y f=>by rw[hsp]at f;cases f) p fun h10 b10 d10 n10 sp10 sk10 O P=>?_⟩
      have:=turn (T':=No) k19 O P (fun c' D=>⟨gw D,gw D⟩) (.inr (.inl ⟨p,hp e,gK,gK,fun _ h=>h⟩)) (fun _ h=>h.elim) i
      rw[i]at this;exact this
     ·refine⟨w,vc c9 3,uZ nd9 by9 I hi (fun _ _=>hsp) ⟨b6,0,none⟩ fun h10 b10 d10 n10 sp10 sk10 O P=>?_⟩
      have:=turn (T':=Sk) k19 O P (fun c' D=>⟨gw D,gw D⟩) (.inr (.inr ⟨by omega,gK,b6,gK,TrieO.upd0 A t6⟩)) (fun y f=>⟨(hSk y f).1.imp id fun h=>by omega,by have:=(hSk y f).2;omega⟩) i
      rw[i]at this;exact this
end Go.Proofs
namespace Go.Proofs
open Go Go.Lift
theorem Gr{h:ae}{b:Nat}{K:Option Addr→ae→Prop}(a:K (some ⟨b,0,none⟩) h):HC PG mK [.pointer (some ⟨b,0,none⟩)] [.c .ptr] K h:=by
 refine IV _ ?_;unfold A5;exact al.2 a
theorem Cj{h:ae}{b:Nat}{K:Option Addr→ae→Prop}(a:K (some ⟨b,0,none⟩) h):HC PG ri [.pointer (some ⟨b,0,none⟩)] [.c .ptr] K h:=by
 refine IK _ ?_;unfold AR;exact al.2 a
structure Can(o w:Option Addr)(W S:Nat→Prop)(h:ae):Prop where
 by_:By h w o
 lt:∀y,W y→y<h.size
 sub:∀y,S y→W y
 tok:∀a,o=some a→W a.block
 off:∀a,w=some a→¬S a.block
theorem Can.upd0{o w:Option Addr}{W S:Nat→Prop}{h a:ae}(c:Can o w W S h)(k:Upd No h a):Can o w W S a:=⟨c.by_.upd0 k,fun y b=>bI (c.lt y b) k.size,c.sub,c.tok,c.off⟩
theorem Ip{o w:Option Addr}{W S:Nat→Prop}{x:Hs}{h:ae}{b:Nat}{l:List Pr}(t:TrieO o W x h 13 b l S)(c:Can o w W S h)(X:cx l)(Z:l.length≤1000000)(p:Pr){K:Option Addr×Bool→ae→Prop}
  (hk:∀h' b' S',Upd S h h'→TrieO o (fun y=>W y∨S' y) x h' 13 b' (gA p l) S'→(∀y,S' y→(S y∨h.size≤y)∧y<h'.size)→K (some ⟨b',0,none⟩, !cp l p.1) h'):
  HC PG wP [.agg #[.int .u64 x.k0,.int .u64 x.k1,.int .u64 x.mask],.pointer w,.pointer (some ⟨b,0,none⟩),.agg #[.string p.1,.string p.2]] [.c .ptr,.c .bool] K h:=by
 refine Lb (x.k0,x.k1,x.mask) w (some ⟨b,0,none⟩) p ?_;unfold CR ag aH eP Bx xb pt ay tV yu Uy UF;refine aP fun C b1 k1=>aP fun B b2 R=>?_
 have d:∀{h':ae},Upd No B h'→∀i,aJ h' (adr ⟨h.size,0,none⟩ i)=(#[.int .u64 x.k0,.int .u64 x.k1,.int .u64 x.mask]:Array Value)[i]?:=fun k i=>vc (k.get0 (R.get0 b1)) i
 have s:∀{h':ae},Upd No B h'→∀i,aJ h' (adr ⟨C.size,0,none⟩ i)=(#[.string p.1,.string p.2]:Array Value)[i]?:=fun k i=>vc (k.get0 b2) i
 have z:=Upd.refl No B;have J:=k1.tr R;let I:List Value:= [.int .u64 x.k0,.int .u64 x.k1,.int .u64 x.mask,.pointer w,.string p.1,.int .u64 (me x p.1)]
 have F:∀{f:ae} {j:Nat},Upd No B f→f[j]? =some (.cells I.toArray mB (0,0))→
   ∃v15:Int,aJ f (adr ⟨j,0,none⟩ 0)=some (.int .u64 v15)∧
    ∃v16:Int,aJ f (adr ⟨j,0,none⟩ 1)=some (.int .u64 v16)∧
    ∃v17:Int,aJ f (adr ⟨j,0,none⟩ 2)=some (.int .u64 v17)∧
    ∃v18:Option Addr,aJ f (adr ⟨j,0,none⟩ 3)=some (.pointer v18)∧
    ∃v19:ByteArray,aJ f (adr ⟨j,0,none⟩ 4)=some (.string v19)∧
    ∃v20:Int,aJ f (adr ⟨j,0,none⟩ 5)=some (.int .u64 v20)∧
    ∃v21:ByteArray,aJ f (adr ⟨C.size,0,none⟩ 0)=some (.string v21)∧
    ∃v22:ByteArray,aJ f (adr ⟨C.size,0,none⟩ 1)=some (.string v22)∧
    HC PG mK [.pointer (some ⟨b,0,none⟩)] [.c .ptr] (fun(N:Option Addr) e=>
     ((aJ e (adr ⟨C.size,0,none⟩ 0)=some (.string v21)∧aJ e (adr ⟨C.size,0,none⟩ 1)=some (.string v22))∧
      ((aJ e (adr ⟨j,0,none⟩ 0)=some (.int .u64 v15)∧aJ e (adr ⟨j,0,none⟩ 1)=some (.int .u64 v16)∧aJ e (adr ⟨j,0,none⟩ 2)=some (.int .u64 v17)∧aJ e (adr ⟨j,0,none⟩ 3)=some (.pointer v18)∧aJ e (adr ⟨j,0,none⟩ 4)=some (.string v19)∧aJ e (adr ⟨j,0,none⟩ 5)=some (.int .u64 v20))∧
       HC PG iT [.agg #[.int .u64 v15,.int .u64 v16,.int .u64 v17,.pointer v18,.string v19,.int .u64 v20],.pointer N,.agg #[.string v21,.string v22],.int .i64 0] [.c .ptr,.c .bool,.c .bool] (fun(G:(Option Addr)×Bool×Bool) P=>
        K (G.1,G.2.1) P) e))) f:=fun{f j} a Q=>by
  have n:∀i,aJ f (adr ⟨j,0,none⟩ i)=I.toArray[i]?:=fun i=>vc Q i
  refine⟨_,n 0,_,n 1,_,n 2,_,n 3,_,n 4,_,n 5,p.1,s a 0,p.2,s a 1,Gr ?_⟩;refine⟨⟨s a 0,s a 1⟩,⟨n 0,n 1,n 2,n 3,n 4,n 5⟩,?_⟩;have u:=J.tr a;have D:=c.upd0 u;have z4:=u.size;exact Tw 13 (aj _) p (TrieO.upd0 u t) D.by_ D.lt D.sub D.tok D.off X Z fun T M ch S6 A t6 E _ _=>hk T M S6 (u.wide.tr A) t6 fun y H=>⟨(E y H).1.imp id fun h=>by omega,(E y H).2⟩
 have own:∀{L f:ae} {b:Nat},B.size≤b→Upd (· =b) L f→Upd No B L→Upd No B f:=fun U hu k=>k.trans hu fun y H=>.inr (H▸U)
 refine⟨_,d z 0,_,d z 1,_,d z 2,_,s z 0,_,d z 0,_,d z 1,_,d z 2,_,s z 0,?_,?_⟩
 ·refine vj fun L m=>⟨s m 0,⟨d m 0,d m 1,d m 2⟩,?_⟩
  refine aP fun f O q=>?_
  have a:=m.tr q;refine⟨s a 0,⟨d a 0,d a 1,d a 2⟩,?_⟩;refine cC (vs:=I) O rfl fun V Y v=>F (own m.size v a) Y
 ·refine aP fun f O q=>?_
  refine⟨s q 0,⟨d q 0,d q 1,d q 2⟩,s q 0,⟨d q 0,d q 1,d q 2⟩,?_⟩;refine vj fun V v=>?_
  have g:=q.tr v;refine⟨s g 0,⟨d g 0,d g 1,d g 2⟩,?_⟩;exact cC (vs:=I) (v.get0 O) rfl fun T M A=>F (own (aj _) A g) M
theorem FR{o w:Option Addr}{W S:Nat→Prop}{x:Hs}{h:ae}{b:Nat}{l:List Pr}(t:TrieO o W x h 13 b l S)(c:Can o w W S h)(z:cx l)(n:l.length≤1000000)(k:ByteArray){K:Option Addr×Bool→ae→Prop}
  (m:∀h' b' S',Upd S h h'→TrieO o (fun y=>W y∨S' y) x h' 13 b' (pu k l) S'→(∀y,S' y→(S y∨h.size≤y)∧y<h'.size)→(cp l k=false→b'=b)→K (some ⟨b',0,none⟩,cp l k) h'):
  HC PG vA [.agg #[.int .u64 x.k0,.int .u64 x.k1,.int .u64 x.mask],.pointer w,.pointer (some ⟨b,0,none⟩),.string k] [.c .ptr,.c .bool] K h:=by
 refine IW (x.k0,x.k1,x.mask) w (some ⟨b,0,none⟩) k ?_;unfold A6 ag Bx xb yu;refine aP fun A b1 k1=>Gr ?_
 refine⟨_,vc b1 0,_,vc b1 1,_,vc b1 2,_,vc b1 0,_,vc b1 1,_,vc b1 2,?_⟩;refine vj fun C e=>?_
 have g:=e.get0 b1;refine⟨⟨vc g 0,vc g 1,vc g 2⟩,?_⟩;have a:=k1.tr e;have cc:=c.upd0 a;have B:=a.size;exact Iq 13 (aj _) k (TrieO.upd0 a t) cc.by_ cc.lt cc.sub cc.tok cc.off z n fun q p v f s d i=>m q p v (a.wide.tr f) s (fun y j=>⟨(d y j).1.imp id fun h=>by omega,(d y j).2⟩) fun u=>(i u).1
def RadO(o:Option Addr)(W:Nat→Prop)(h:ae)(b:Nat)(l:List Pr)(S:Nat→Prop):Prop:=∃w F,RxO o W h b ⟨#[]⟩ w F S∧fG F∧∀k v,(k,v)∈l6 w F↔∃p∈l,p.1.data.toList=k∧p.2=v
theorem HK{o w:Option Addr}{W S:Nat→Prop}{h:ae}{b:Nat}{l:List Pr}(t:RadO o W h b l S)(c:Can o w W S h)(j:cx l)(p:Pr)(C:p.1.size≤1000000){K:Option Addr×Bool→ae→Prop}
  (H:∀h' b' S' a,Upd S h h'→RadO o (fun y=>W y∨S' y) h' b' (gA p l) S'→(∀y,S' y→(S y∨h.size≤y)∧y<h'.size)→K (some ⟨b',0,none⟩,a) h'):
  HC PG wK [.pointer w,.pointer (some ⟨b,0,none⟩),.agg #[.string p.1,.string p.2]] [.c .ptr,.c .bool] K h:=by
 refine KY w (some ⟨b,0,none⟩) p ?_;unfold CH ay tV Qn;refine aP fun I b1 k1=>?_
 refine⟨p.1,vc b1 0,p.2,vc b1 1,Cj ⟨vc b1 1,vc b1 0,?_⟩⟩;obtain⟨L,F,E,B,A⟩:=t;have cc:=c.upd0 k1;have M:=k1.size;refine O7 (p.1.size+1) p.1 p.2 (by omega) C (E.upd0 k1) cc.by_ cc.lt cc.sub cc.tok cc.off B fun x b3 w' F' D a J n m f s i z G=>?_
 refine H x b3 D a (k1.wide.tr n) ⟨w',F',m,s,fun k v=>?_⟩ fun y u=>⟨(f y u).1.imp id fun h=>by omega,(f y u).2⟩
 rw[jZ,i k v,←jZ,A k v];constructor
 ·rintro(⟨rfl,rfl⟩|⟨d,q,g,rfl,rfl⟩)
  ·exact⟨p,(ql j).2 (.inl rfl),rfl,rfl⟩
  ·exact⟨q,(ql j).2 (.inr ⟨g,fun e=>d (by rw[e])⟩),rfl,rfl⟩
 ·rintro⟨q,g,rfl,rfl⟩
  rcases(ql j).1 g with rfl|⟨g,d⟩
  ·exact .inl ⟨rfl,rfl⟩
  ·exact .inr ⟨fun e=>d (pO.1 e),q,g,rfl,rfl⟩
theorem LX{w:Option ByteArray}{F:Fo}{l:List Pr}(h:∀k v,(k,v)∈l6 w F↔∃p∈l,p.1.data.toList=k∧p.2=v)(b:Fit l):∀j v,pv F j v→j.length≤1000000:=fun j v hi=>by
 obtain⟨p,a,e,_⟩:=(h j v).1 (jZ.2 (.inr hi));have:=(b p a).1;rw[←e,mC];omega
theorem FG{o w:Option Addr}{W S:Nat→Prop}{h:ae}{b:Nat}{l:List Pr}(t:RadO o W h b l S)(c:Can o w W S h)(E:Fit l)(k:ByteArray){K:Option Addr×Bool→ae→Prop}
  (N:∀h' b' S',Upd S h h'→RadO o (fun y=>W y∨S' y) h' b' (pu k l) S'→(∀y,S' y→(S y∨h.size≤y)∧y<h'.size)→(cp l k=false→b'=b)→K (some ⟨b',0,none⟩,cp l k) h'):
  HC PG vp [.pointer w,.pointer (some ⟨b,0,none⟩),.string k] [.c .ptr,.c .bool] K h:=by
 refine IL w (some ⟨b,0,none⟩) k ?_;unfold AS P2;refine Cj ?_;obtain⟨L,F,I,G,u⟩:=t;refine O8 (k.size+1) k (by omega) I c.by_ c.lt c.sub c.tok c.off G (LX u E) fun D b3 w' F' H a B A s C z i m=>?_
 have g:∀v,qy L F k.data.toList v↔(k,v)∈l:=fun v=>by
  rw[←jZ,u];constructor
  ·rintro⟨p,x,M,rfl⟩
   rw[←pO.1 M];exact x
  ·intro x;exact⟨_,x,rfl,rfl⟩
 have n:a=cp l k:=by
  cases a with
  |false=>
   refine(zY fun q f e=>(i rfl).2.2.2.2 q.2 ((g _).2 ?_)).symm
   rw[←e];exact f
  |true=>
   obtain⟨v,hv⟩:=m rfl;exact(co.2 ⟨_,(g v).1 hv,decide_eq_true rfl⟩).symm
 subst n;refine N D b3 H B ⟨w',F',A,C,fun j v=>?_⟩ s fun J=>(i J).1
 rw[jZ,z j v,←jZ,u];constructor
 ·rintro⟨d,q,f,rfl,rfl⟩
  exact⟨q,H3.2 ⟨f,fun e=>d (by rw[e])⟩,rfl,rfl⟩
 ·rintro⟨q,f,rfl,rfl⟩
  obtain⟨f,d⟩:=H3.1 f;exact⟨fun e=>d (pO.1 e),q,f,rfl,rfl⟩
end Go.Proofs
namespace Go.Proofs
open Go Go.Lift
def FF(p:Pr):Int:=if 256<p.1.size then 2 else if 4096<p.2.size then 3 else 0
theorem Gw{p:Pr}(h:FF p=0):p.1.size≤256∧p.2.size≤4096:=by
 unfold FF at h;split at h
 ·cases h
 ·split at h
  ·cases h
  ·omega
theorem N0{p:Pr}{h:ae}{K:Int→ae→Prop}(a:K (FF p) h):HC PG rk [.string p.1,.string p.2] [.c (.int .i64)] K h:=by
 refine IT p.1 p.2 ?_;unfold AZ;unfold FF at a;refine aB (fun e=>?_) fun e=>aB (fun b=>?_) fun b=>?_
 ·rw[if_pos (by omega)]at a;exact a
 ·rw[if_neg (by omega),if_pos (by omega)]at a;exact a
 ·rw[if_neg (by omega),if_neg (by omega)]at a;exact a
theorem To{p:Pr}{h:ae}{K:Int→ae→Prop}(a:K (FF p) h):HC PG sM [.string p.1,.string p.2] [.c (.int .i64)] K h:=by
 refine CE p.1 p.2 ?_;unfold w6;unfold FF at a;refine aB (fun e=>?_) fun e=>aB (fun b=>?_) fun b=>?_
 ·rw[if_pos (by omega)]at a;exact a
 ·rw[if_neg (by omega),if_pos (by omega)]at a;exact a
 ·rw[if_neg (by omega),if_neg (by omega)]at a;exact a
end Go.Proofs
namespace Go.Proofs
open Go Go.Lift
def Ry(l:List Pr)(k:ByteArray):Int:=if 256<k.size then 2 else if cp l k then 0 else 4
def xT(l:List Pr)(p:Pr):List Pr:=if FF p=0 then gA p l else l
def Ct(l:List Pr)(k:ByteArray):List Pr:=if 256<k.size then l else pu k l
theorem RadO.upd{o:Option Addr}{W M S:Nat→Prop}{h a:ae}{b:Nat}{l:List Pr}(k:Upd M h a)(t:RadO o W h b l S)(d:∀y,S y→y<h.size)(hm:∀y,M y→(W y∧¬S y)∨h.size≤y):RadO o W a b l S:=let⟨w,F,r,c,e⟩:=t;⟨w,F,r.upd k d hm,c,e⟩
theorem RadO.less{o:Option Addr}{W W' S:Nat→Prop}{h:ae}{b:Nat}{l:List Pr}(hm:∀y,W' y→W y∨h.size≤y)(t:RadO o W h b l S):RadO o W' h b l S:=let⟨w,F,r,c,e⟩:=t;⟨w,F,r.less hm,c,e⟩
def TreeO(o:Option Addr)(W:Nat→Prop)(h:ae)(a:Int)(x:Hs)(t:Tr)(l:List Pr)(S:Nat→Prop):Prop:=(a=0∧∃b,t=(0,x.k0,x.k1,x.mask,some ⟨b,0,none⟩,none)∧TrieO o W x h 13 b l S)∨(a=1∧∃b,t=(1,0,0,0,none,some ⟨b,0,none⟩)∧RadO o W h b l S)
theorem zG{o:Option Addr}{W:Nat→Prop}{h:ae}{a:Int}{x:Hs}{t:Tr}{l:List Pr}(i:TreeIs W h a x t l):TreeO o W h a x t l No:=
 i.imp (fun⟨e,b,c,t⟩=>⟨e,b,c,Jk t⟩) fun⟨e,b,c,t⟩=>⟨e,b,c,let⟨w,F,g,f,d⟩:=t.ex;⟨w,F,.inl ⟨g,fun _ h=>h⟩,f,d⟩⟩
theorem TreeO.upd{o:Option Addr}{W M S:Nat→Prop}{h d:ae}{a:Int}{x:Hs}{t:Tr}{l:List Pr}(k:Upd M h d)(i:TreeO o W h a x t l S)(f:∀y,S y→y<h.size)(hm:∀y,M y→(W y∧¬S y)∨h.size≤y):TreeO o W d a x t l S:=
 i.imp (fun⟨e,b,c,t⟩=>⟨e,b,c,TrieO.upd k t f hm⟩) fun⟨e,b,c,t⟩=>⟨e,b,c,t.upd k f hm⟩
theorem TreeO.upd0{o:Option Addr}{W S:Nat→Prop}{h f:ae}{a:Int}{x:Hs}{t:Tr}{l:List Pr}(k:Upd No h f)(i:TreeO o W h a x t l S):TreeO o W f a x t l S:=
 i.imp (fun⟨e,b,d,t⟩=>⟨e,b,d,TrieO.upd0 k t⟩) fun⟨e,b,d,w,F,r,c⟩=>⟨e,b,d,w,F,r.upd0 k,c⟩
theorem TreeO.less{o:Option Addr}{W W' S:Nat→Prop}{h:ae}(hm:∀b,W' b→W b∨h.size≤b){a:Int}{x:Hs}{t:Tr}{l:List Pr}(i:TreeO o W h a x t l S):TreeO o W' h a x t l S:=
 i.imp (fun⟨e,b,c,t⟩=>⟨e,b,c,TrieO.less hm t⟩) fun⟨e,b,c,t⟩=>⟨e,b,c,t.less hm⟩
theorem TreeO.freeze{o:Option Addr}{W W' S:Nat→Prop}{h:ae}(f:∀y,W' y→W y)(d:OwOk W' h o){a:Int}{x:Hs}{t:Tr}{l:List Pr}(i:TreeO o W h a x t l S)(g:∀y,S y→¬W' y):TreeIs W' h a x t l:=
 i.imp (fun⟨e,b,c,t⟩=>⟨e,b,c,TrieO.freeze f d t g⟩) fun⟨e,b,c,w,F,r,k,j⟩=>⟨e,b,c,⟨w,F,r.freeze f d g,k,j⟩⟩
theorem TreeO.read{o w:Option Addr}{W S:Nat→Prop}{h:ae}{b:Int}{x:Hs}{t:Tr}{l:List Pr}(i:TreeO o W h b x t l S)(by_:By h w o):TreeIs No h b x t l:=
 i.freeze (fun _ h=>h.elim) (fun a e=>⟨id,by_.plain a (by_.tok e)⟩) fun _ _ h=>h
theorem Can.pro{o w:Option Addr}{W S:Nat→Prop}{h b:ae}(c:Can o w W S h)(k:Upd No h b):Can o w (Pro W h b) S b:=⟨c.by_.upd0 k,Pro.lt c.lt k,fun y d=>.inl (c.sub y d),fun a e=>.inl (c.tok a e),c.off⟩
theorem TreeO.pro{o:Option Addr}{W S:Nat→Prop}{h b:ae}(k:Upd No h b){a:Int}{x:Hs}{t:Tr}{l:List Pr}(i:TreeO o W h a x t l S):TreeO o (Pro W h b) b a x t l S:=(i.less Pro.hm).upd0 k
theorem TreeO.loc{o:Option Addr}{W S e:Nat→Prop}{h f g j:ae}{b:Nat}{a:Int}{x:Hs}{t:Tr}{l:List Pr}(i:TreeO o (fun y=>Pro W h f y∨e y) g a x t l e)(k:Upd (· =b) g j)(p:h.size≤b)(m:b<f.size)(q:∀y,S y→y<h.size)(c:∀y,e y→(S y∨f.size≤y)∧y<g.size):TreeO o (fun y=>Pro W h f y∨e y) j a x t l e:=
 i.upd k (fun y d=>(c y d).2) fun y d=>by
  have d:y=b:=d;subst d;refine .inl ⟨.inl (.inr ⟨p,m⟩),fun n=>?_⟩
  rcases(c y n).1 with h|h
  ·have:=q y h;omega
  ·omega
theorem Bk{o w:Option Addr}{W S:Nat→Prop}{x:Hs}{h:ae}{u:Int}{t:Tr}{l:List Pr}(i:TreeO o W h u x t l S)(c:Can o w W S h)(Y:cx l)(hn:l.length≤1000000)(p:Pr){K:Tr×Int→ae→Prop}
  (H:∀h' v A,Upd S h h'→TreeO o (fun y=>W y∨A y) h' u x v (xT l p) A→(∀y,A y→(S y∨h.size≤y)∧y<h'.size)→(FF p≠0→v=t)→K (v,FF p) h'):HC PG gb [DG t,.pointer w,.agg #[.string p.1,.string p.2]] [.agg [.int .i64,.int .u64,.int .u64,.int .u64,.ptr,.ptr],.c (.int .i64)] K h:=by
 unfold xT at H;have s:∀y,S y→y<h.size:=fun y a=>c.lt y (c.sub y a)
 refine BT t w p ?_;unfold uI bj ag aH eP xb Dt uU pt im Hw cY ay tV dQ;refine aP fun V b1 k1=>aP fun I b2 Q=>aP fun P b3 N=>?_
 have z1:=aN b1;have z2:=aN b2;have z3:=aN b3;have s1:h.size≤V.size:=k1.size;have s2:V.size≤I.size:=Q.size;have s3:=N.size;have B:=(k1.tr Q).tr N;have n:=N.get0 (Q.get0 b1);have G:=N.get0 b2;refine⟨_,vc G 0,_,vc G 1,N0 (p:=p) ?_⟩;by_cases e:FF p=0
 ·rw[if_pos e]at H
  have O:=Gw e;rw[e]at H⊢;refine al.2 ?_;have Z:=i.pro B;have X:=c.pro B;have J:∀{z C:ae} {v:Tr} {A:Nat→Prop},Upd S P z→TreeO o (fun y=>Pro W h P y∨A y) z u x v (gA p l) A→(∀y,A y→(S y∨P.size≤y)∧y<z.size)→C[h.size]? =some (.cells (lP v).toArray bF (0,0))→Upd (· =h.size) z C→C[I.size]? =some (.cells (lP DH).toArray bF (0,0))→∀{D:ae},D[I.size]? =some (.cells (lP v).toArray bF (0,0))→Upd (· =I.size) C D→K (v,0) D:=fun{z C v A} M i4 f j g F {D} k m=>by
   have z4:=M.size;have z5:=g.size;have z6:=m.size;have i5:=i4.loc g (aj _) (by omega) s f;have i6:=i5.loc m (by omega) (by omega) s fun y a=>⟨(f y a).1,by have:=(f y a).2;omega⟩
   refine H D v A (((B.wide.tr M).trans g fun y a=>.inr (by have a:y=h.size:=a;omega)).trans m fun y a=>.inr (by have a:y=I.size:=a;omega)) (i6.less fun y a=>.inl (a.imp .inl id)) (fun y a=>⟨(f y a).1.imp id fun h=>by omega,by have:=(f y a).2;omega⟩) fun h=>absurd rfl h
  rcases Z with⟨rfl,b,rfl,R⟩|⟨rfl,b,rfl,R⟩
  ·refine⟨_,vc n 0,al.2 ⟨_,oz n 1 0,_,oz n 1 1,_,oz n 1 2,_,vc n 4,p.1,vc G 0,p.2,vc G 1,?_⟩⟩
   refine Ip R X Y hn p fun z q S4 d U f=>?_
   have L:∀{y},h.size≤y→¬S y:=fun a O=>by have:=s _ O;omega
   refine sA (i:=4) (c':=(lP (0,x.k0,x.k1,x.mask,some ⟨q,0,none⟩,none)).toArray) (d.get n (L (aj _))) (show 4<6 by decide) rfl fun C j g=>?_
   refine⟨_,vc j 0,_,vc j 1,_,vc j 2,_,vc j 3,_,vc j 4,_,vc j 5,?_⟩;have F:=g.oth (d.get b3 (L (by omega))) (by omega);refine cC (c:=lP DH) (vs:=lP (0,x.k0,x.k1,x.mask,some ⟨q,0,none⟩,none)) F rfl fun D k m=>?_
   exact⟨_,vc k 0,_,vc k 1,_,vc k 2,_,vc k 3,_,vc k 4,_,vc k 5,J d (.inl ⟨rfl,q,rfl,U⟩) f j g F k m⟩
  ·refine⟨_,vc n 0,ax.2 ⟨_,vc n 5,p.1,vc G 0,p.2,vc G 1,?_⟩⟩
   refine HK R X Y p (by omega) fun z q S4 T d U f=>?_
   have L:∀{y},h.size≤y→¬S y:=fun a O=>by have:=s _ O;omega
   refine sA (i:=5) (c':=(lP (1,0,0,0,none,some ⟨q,0,none⟩)).toArray) (d.get n (L (aj _))) (show 5<6 by decide) rfl fun C j g=>?_
   refine⟨_,vc j 0,_,vc j 1,_,vc j 2,_,vc j 3,_,vc j 4,_,vc j 5,?_⟩;have F:=g.oth (d.get b3 (L (by omega))) (by omega);refine cC (c:=lP DH) (vs:=lP (1,0,0,0,none,some ⟨q,0,none⟩)) F rfl fun D k m=>?_
   exact⟨_,vc k 0,_,vc k 1,_,vc k 2,_,vc k 3,_,vc k 4,_,vc k 5,J d (.inr ⟨rfl,q,rfl,U⟩) f j g F k m⟩
 ·rw[if_neg e]at H
  rw[show(FF p !=0)=true by simpa using e]
  refine ax.2 ⟨_,vc n 0,_,vc n 1,_,vc n 2,_,vc n 3,_,vc n 4,_,vc n 5,?_⟩;refine cC (c:=lP DH) (vs:=lP t) b3 rfl fun z q d=>?_
  have E:=B.own d (by omega);exact⟨_,vc q 0,_,vc q 1,_,vc q 2,_,vc q 3,_,vc q 4,_,vc q 5,H z t S E.wide ((i.upd0 E).less fun y a=>.inl (a.elim id (c.sub y))) (fun y a=>⟨.inl a,by have:=s y a;have:=E.size;omega⟩) fun _=>rfl⟩
end Go.Proofs
namespace Go.Proofs
open Go Go.Lift
theorem zK{o w:Option Addr}{W S:Nat→Prop}{x:Hs}{h:ae}{s:Int}{t:Tr}{l:List Pr}(i:TreeO o W h s x t l S)(c:Can o w W S h)(hr:cx l)(hf:Fit l)(hn:l.length≤1000000)(k:ByteArray){K:Tr×Int→ae→Prop}
  (P:∀h' m q,Upd S h h'→TreeO o (fun y=>W y∨q y) h' s x m (Ct l k) q→(∀y,q y→(S y∨h.size≤y)∧y<h'.size)→(Ry l k≠0→m=t)→K (m,Ry l k) h'):HC PG jP [DG t,.pointer w,.string k] [.agg [.int .i64,.int .u64,.int .u64,.int .u64,.ptr,.ptr],.c (.int .i64)] K h:=by
 unfold Ct Ry at P;have F:∀y,S y→y<h.size:=fun y d=>c.lt y (c.sub y d)
 refine xG t w k ?_;unfold qV bj ag aH eP nv xb Dt uU im Hw cY dQ P2;refine aP fun j b1 k1=>aP fun H b2 k2=>?_
 have z1:=aN b1;have z2:=aN b2;have s1:h.size≤j.size:=k1.size;have V:=k1.tr k2;have C:=k2.get0 b1;refine N0 (p:=(k,⟨#[]⟩)) ?_;by_cases e:256<k.size
 ·rw[if_pos e,if_pos e]at P
  rw[show FF (k,(⟨#[]⟩:ByteArray))=2 from if_pos e]
  refine ax.2 ⟨_,vc C 0,_,vc C 1,_,vc C 2,_,vc C 3,_,vc C 4,_,vc C 5,?_⟩;refine cC (c:=lP DH) (vs:=lP t) b2 rfl fun L M E=>?_
  have u:=V.own E s1;exact⟨_,vc M 0,_,vc M 1,_,vc M 2,_,vc M 3,_,vc M 4,_,vc M 5,P L t S u.wide ((i.upd0 u).less fun y d=>.inl (d.elim id (c.sub y))) (fun y d=>⟨.inl d,by have:=F y d;have:=u.size;omega⟩) fun _=>rfl⟩
 rw[if_neg e,if_neg e]at P;rw[show FF (k,(⟨#[]⟩:ByteArray))=0 by unfold FF;rw[if_neg e];exact if_neg (Nat.not_lt.2 (aS 4096))]
 refine al.2 ?_;refine⟨_,vc C 0,_,vc C 1,_,vc C 2,_,vc C 3,_,vc C 4,_,vc C 5,?_⟩;refine aP fun h3 b3 k3=>?_
 have z3:=aN b3;have s2:j.size≤H.size:=k2.size;refine cC (c:=lP DH) (vs:=lP t) b3 rfl fun L M E=>?_
 have u:Upd No h L:=(V.tr k3).own E (by omega);have U:Upd No H L:=k3.own E (aj _);have s4:h3.size≤L.size:=E.size;have I:=U.get0 C;have d4:=U.get0 b2;have i4:=i.pro u;have Y:=c.pro u;have T:∀{y},h.size≤y→¬S y:=fun d hs=>by have:=F _ hs;omega
 have fin:∀{a:ae} {m:Tr} {q:Nat→Prop},Upd S h a→a[h.size]? =some (.cells (lP m).toArray bF (0,0))→a[j.size]? =some (.cells (lP DH).toArray bF (0,0))→a[H.size]? =some (.cells (lP t).toArray bF (0,0))→TreeO o (fun y=>Pro W h L y∨q y) a s x m (pu k l) q→(∀y,q y→(S y∨L.size≤y)∧y<a.size)→(cp l k=false→m=t)→
   CondP (!cp l k) (∃v41:Int,aJ a (adr (aC H) 0)=some (.int .i64 v41)∧
    ∃v42:Int,aJ a (adr (aC H) 1)=some (.int .u64 v42)∧
    ∃v43:Int,aJ a (adr (aC H) 2)=some (.int .u64 v43)∧
    ∃v44:Int,aJ a (adr (aC H) 3)=some (.int .u64 v44)∧
    ∃v45:Option Addr,aJ a (adr (aC H) 4)=some (.pointer v45)∧
    ∃v46:Option Addr,aJ a (adr (aC H) 5)=some (.pointer v46)∧
    (uD a (some (aC j)) 0 [.int .i64 v41,.int .u64 v42,.int .u64 v43,.int .u64 v44,.pointer v45,.pointer v46]∧
     At (iC a (aC j) 0 [.int .i64 v41,.int .u64 v42,.int .u64 v43,.int .u64 v44,.pointer v45,.pointer v46]) (fun B=>
      ∃v48:Int,aJ B (adr (aC j) 0)=some (.int .i64 v48)∧
      ∃v49:Int,aJ B (adr (aC j) 1)=some (.int .u64 v49)∧
      ∃v50:Int,aJ B (adr (aC j) 2)=some (.int .u64 v50)∧
      ∃v51:Int,aJ B (adr (aC j) 3)=some (.int .u64 v51)∧
      ∃v52:Option Addr,aJ B (adr (aC j) 4)=some (.pointer v52)∧
      ∃v53:Option Addr,aJ B (adr (aC j) 5)=some (.pointer v53)∧
      K ((v48,v49,v50,v51,v52,v53),4) B))) (
    ∃v54:Int,aJ a (adr (aC h) 0)=some (.int .i64 v54)∧
    ∃v55:Int,aJ a (adr (aC h) 1)=some (.int .u64 v55)∧
    ∃v56:Int,aJ a (adr (aC h) 2)=some (.int .u64 v56)∧
    ∃v57:Int,aJ a (adr (aC h) 3)=some (.int .u64 v57)∧
    ∃v58:Option Addr,aJ a (adr (aC h) 4)=some (.pointer v58)∧
    ∃v59:Option Addr,aJ a (adr (aC h) 5)=some (.pointer v59)∧
    (uD a (some (aC j)) 0 [.int .i64 v54,.int .u64 v55,.int .u64 v56,.int .u64 v57,.pointer v58,.pointer v59]∧
     At (iC a (aC j) 0 [.int .i64 v54,.int .u64 v55,.int .u64 v56,.int .u64 v57,.pointer v58,.pointer v59]) (fun z=>
      ∃v61:Int,aJ z (adr (aC j) 0)=some (.int .i64 v61)∧
      ∃v62:Int,aJ z (adr (aC j) 1)=some (.int .u64 v62)∧
      ∃v63:Int,aJ z (adr (aC j) 2)=some (.int .u64 v63)∧
      ∃v64:Int,aJ z (adr (aC j) 3)=some (.int .u64 v64)∧
      ∃v65:Option Addr,aJ z (adr (aC j) 4)=some (.pointer v65)∧
      ∃v66:Option Addr,aJ z (adr (aC j) 5)=some (.pointer v66)∧
      K ((v61,v62,v63,v64,v65,v66),0) z))):=fun{a m q} k6 N Z O i6 G n=>by
  have done:∀{J:ae},Upd (· =j.size) a J→(cp l k=false→m=t)→Upd S h J∧TreeO o (fun y=>W y∨q y) J s x m (pu k l) q∧∀y,q y→(S y∨h.size≤y)∧y<J.size:=fun{J} v _=>by
   have z7:=v.size;exact⟨k6.trans v fun y d=>.inr (by have d:y=j.size:=d;omega),(i6.loc v s1 (by omega) F G).less fun y d=>.inl (d.imp .inl id),fun y d=>⟨(G y d).1.imp id fun h=>by omega,by have:=(G y d).2;omega⟩⟩
  cases Q:cp l k with
  |false=>
   rw[Q]at P n done;have hte:=n rfl;subst hte;refine ax.2 ⟨_,vc O 0,_,vc O 1,_,vc O 2,_,vc O 3,_,vc O 4,_,vc O 5,?_⟩;refine cC (c:=lP DH) (vs:=lP m) Z rfl fun J D v=>?_
   refine⟨_,vc D 0,_,vc D 1,_,vc D 2,_,vc D 3,_,vc D 4,_,vc D 5,?_⟩;obtain⟨a1,a2,a3⟩:=done v fun _=>rfl
   exact P J m q a1 a2 a3 fun _=>rfl
  |true=>
   rw[Q]at P n done;refine al.2 ⟨_,vc N 0,_,vc N 1,_,vc N 2,_,vc N 3,_,vc N 4,_,vc N 5,?_⟩;refine cC (c:=lP DH) (vs:=lP m) Z rfl fun J D v=>?_
   refine⟨_,vc D 0,_,vc D 1,_,vc D 2,_,vc D 3,_,vc D 4,_,vc D 5,?_⟩;obtain⟨a1,a2,a3⟩:=done v fun h=>by cases h
   exact P J m q a1 a2 a3 fun h=>absurd rfl h
 refine Join.intro (fun tk a=>tk=cp l k∧∃m q,Upd S h a∧a[h.size]? =some (.cells (lP m).toArray bF (0,0))∧a[j.size]? =some (.cells (lP DH).toArray bF (0,0))∧a[H.size]? =some (.cells (lP t).toArray bF (0,0))∧TreeO o (fun y=>Pro W h L y∨q y) a s x m (pu k l) q∧(∀y,q y→(S y∨L.size≤y)∧y<a.size)∧(cp l k=false→m=t)) (fun R hR=>?_) ?_
 ·rcases i4 with⟨rfl,b,rfl,t4⟩|⟨rfl,b,rfl,t4⟩
  ·refine⟨_,vc I 0,al.2 ⟨_,oz I 1 0,_,oz I 1 1,_,oz I 1 2,_,vc I 4,?_⟩⟩
   refine FR t4 Y hr hn k fun h5 X S5 g t5 A n=>?_
   have s5:=g.size;refine sA (i:=4) (c':=(lP (0,x.k0,x.k1,x.mask,some ⟨X,0,none⟩,none)).toArray) (g.get I (T (aj _))) (show 4<6 by decide) rfl fun a b6 f=>?_
   have s6:=f.size;exact hR _ _ ⟨rfl,_,S5,(u.wide.tr g).trans f fun y d=>.inr (by have d:y=h.size:=d;omega),b6,f.oth (g.get d4 (T (by omega))) (by omega),f.oth (g.get M (T (by omega))) (by omega),TreeO.loc (.inl ⟨rfl,X,rfl,t5⟩) f (aj _) (by omega) F A,fun y d=>⟨(A y d).1,by have:=(A y d).2;omega⟩,fun Q=>by rw[n Q]⟩
  ·refine⟨_,vc I 0,ax.2 ⟨_,vc I 5,?_⟩⟩
   refine FG t4 Y hf k fun h5 X S5 g t5 A n=>?_
   have s5:=g.size;refine sA (i:=5) (c':=(lP (1,0,0,0,none,some ⟨X,0,none⟩)).toArray) (g.get I (T (aj _))) (show 5<6 by decide) rfl fun a b6 f=>?_
   have s6:=f.size;exact hR _ _ ⟨rfl,_,S5,(u.wide.tr g).trans f fun y d=>.inr (by have d:y=h.size:=d;omega),b6,f.oth (g.get d4 (T (by omega))) (by omega),f.oth (g.get M (T (by omega))) (by omega),TreeO.loc (.inr ⟨rfl,X,rfl,t5⟩) f (aj _) (by omega) F A,fun y d=>⟨(A y d).1,by have:=(A y d).2;omega⟩,fun Q=>by rw[n Q]⟩
 ·rintro _ a ⟨rfl,m,q,k6,N,Z,O,i6,G,n⟩
  exact fin k6 N Z O i6 G n
theorem Can.nil{W:Nat→Prop}{h:ae}(a:∀y,W y→y<h.size):Can none none W No h:=⟨.inl ⟨rfl,rfl⟩,a,fun _ h=>h.elim,fun _ h=>(by cases h),fun _ _ h=>h⟩
theorem TreeO.nil{W S:Nat→Prop}{h:ae}{a:Int}{x:Hs}{t:Tr}{l:List Pr}(i:TreeO none (fun y=>W y∨S y) h a x t l S):TreeIs W h a x t l:=by
 rcases i with⟨e,b,c,t⟩|⟨e,b,c,w,F,r,g,f⟩
 ·exact .inl ⟨e,b,c,TrieAt.less (fun y d=>.inl (.inl d)) t.off.1⟩
 ·exact .inr ⟨e,b,c,⟨w,F,RxN.less (fun y d=>.inl (.inl d)) r.off.1,g,f⟩⟩
theorem OT{W:Nat→Prop}{x:Hs}{h:ae}{a:Int}{t:Tr}{l:List Pr}(i:TreeIs W h a x t l)(g:∀y,W y→y<h.size)(m:cx l)(d:l.length≤1000000)(p:Pr){K:Tr×Int→ae→Prop}
  (j:∀c b,TreeIs W c a x b (xT l p)→(FF p≠0→b=t)→Upd No h c→K (b,FF p) c):HC PG gb [DG t,.pointer none,.agg #[.string p.1,.string p.2]] [.agg [.int .i64,.int .u64,.int .u64,.int .u64,.ptr,.ptr],.c (.int .i64)] K h:=
 Bk (zG i) (Can.nil g) m d p fun c b _ k f _ e=>j c b f.nil e k
theorem Jn{W:Nat→Prop}{x:Hs}{h:ae}{a:Int}{t:Tr}{l:List Pr}(i:TreeIs W h a x t l)(m:∀y,W y→y<h.size)(g:cx l)(f:l.length≤1000000)(p:Pr)(n:p.1.size≤256)(j:p.2.size≤4096){K:Tr×Int→ae→Prop}
  (o:∀b c,TreeIs W b a x c (gA p l)→True→Upd No h b→K (c,0) b):HC PG gb [DG t,.pointer none,.agg #[.string p.1,.string p.2]] [.agg [.int .i64,.int .u64,.int .u64,.int .u64,.ptr,.ptr],.c (.int .i64)] K h:=by
 have e:FF p=0:=by unfold FF;rw[if_neg (by omega),if_neg (by omega)]
 refine OT i m g f p fun b c d _ k=>?_
 unfold xT at d;rw[if_pos e]at d;rw[e];exact o b c d trivial k
end Go.Proofs
namespace Go.Proofs
open Go Go.Lift Go.Conc
def PoolAt(h:ae)(pb cb cap:Nat)(a:List Int):Prop:=pb≠cb∧h[pb]? =some (.cells #[.chan (some cb)] 130 (0,0))∧∃s r,h[cb]? =some (.chan cap (a.map fun i=>Value.int .i64 i).toArray false s r false)
theorem PoolAt.upd{M:Nat→Prop}{h d:ae}{pb cb cap:Nat}{c:List Int}(p:PoolAt h pb cb cap c)(k:Upd M h d)(f:¬M pb)(e:¬M cb):PoolAt d pb cb cap c:=let⟨n,a,s,r,b⟩:=p;⟨n,k.get a f,s,r,k.get b e⟩
theorem PoolAt.upd0{h b:ae}{pb cb cap:Nat}{a:List Int}(p:PoolAt h pb cb cap a)(k:Upd No h b):PoolAt b pb cb cap a:=p.upd k id id
def TokAt(h:ae)(tb pb:Nat)(id:Int)(a:Bool):Prop:=h[tb]? =some (.cells #[.pointer (some ⟨pb,0,none⟩),.int .i64 id,.bool a] pW (0,0))
theorem TokAt.by_{h:ae}{tb pb:Nat}{id:Int}{a:Bool}(t:TokAt h tb pb id a):By h (some ⟨tb,0,none⟩) (if a then some ⟨tb,0,none⟩else none):=.inr ⟨tb,_,id,a,rfl,t,rfl⟩
theorem Mf{n:Nat}(o:1≤n)(p:n≤4096){h:ae}{K:Option Addr×Int→ae→Prop}(k:∀h',Upd No h h'→PoolAt h' (h.size+1) h.size n ((dV n).map fun j=>((j:Nat):Int)+1)→K (some ⟨h.size+1,0,none⟩,0) h'):HC PG Cx [.int .i64 n] [.c .ptr,.c (.int .i64)] K h:=by
 refine⟨fun w q=>.inl ⟨Tryz.call32 _ w,(Q3 o p (w:=w)).mono ?_⟩⟩
 subst q;rintro e w' ⟨rfl,b,s,r,m,d,t⟩;have k1:Upd No w.heap ((w.heap.push (.chan n #[] false 0 0 false)).push (.cells #[.chan (some w.heap.size)] 130 (0,0))):=(Upd.push No w.heap _).tr (Upd.push No _ _);have a:b=(((dV n).map fun j=>((j:Nat):Int)+1).map fun i=>Value.int .i64 i):=by rw[m];simp[Function.comp_def]
 have c:((w.heap.push (.chan n #[] false 0 0 false)).push (.cells #[.chan (some w.heap.size)] 130 (0,0)))[w.heap.size+1]? =some (.cells #[.chan (some w.heap.size)] 130 (0,0)):=by
  rw[jT,Array.size_push,if_pos rfl]
 rcases t with rfl|rfl
 ·refine⟨⟨rfl,rfl,rfl⟩,((some ⟨w.heap.size+1,0,none⟩,0):Option Addr×Int),rfl,k _ k1 ⟨by omega,c,s,r,?_⟩⟩
  rw[←a];exact d
 ·have f:=Upd.set (M:=(· =w.heap.size)) ((w.heap.push (.chan n #[] false 0 0 false)).push (.cells #[.chan (some w.heap.size)] 130 (0,0))) (.chan n b.toArray false s r false) rfl
  refine⟨⟨rfl,rfl,rfl⟩,((some ⟨w.heap.size+1,0,none⟩,0):Option Addr×Int),rfl,k _ (k1.trans f fun y g=>.inr (by have g:y=w.heap.size:=g;omega)) ⟨by omega,f.get c (fun e=>by have e:w.heap.size+1=w.heap.size:=e;omega),s,r,?_⟩⟩
  rw[←a];exact d
theorem JS{h:ae}{pb cb cap:Nat}{i:Int}{a:List Int}(p:PoolAt h pb cb cap (i::a)){K:Option Addr×Int→ae→Prop}(g:∀h',Upd (· =cb) h h'→PoolAt h' pb cb cap a→TokAt h' h.size pb i true→K (some ⟨h.size,0,none⟩,0) h'):HC PG sH [.pointer (some ⟨pb,0,none⟩)] [.c .ptr,.c (.int .i64)] K h:=by
 obtain⟨n,b,s,r,hc⟩:=p;refine⟨fun w f=>.inl ⟨Tryz.call33 _ w,?_⟩⟩
 subst f;rw[List.map_cons]at hc;refine(OQ b hc).mono ?_;rintro e w' ⟨rfl,rfl⟩;have d:cb<w.heap.size:=(Array.getElem?_eq_some_iff.1 hc).1;have k1:=Upd.set (M:=(· =cb)) w.heap (.chan cap (a.map fun i=>Value.int .i64 i).toArray false s (r+1) false) rfl
 have c:=k1.tr (Upd.push (· =cb) _ (.cells #[.pointer (some ⟨pb,0,none⟩),.int .i64 i,.bool true] pW (0,0)))
 refine⟨⟨rfl,rfl,rfl⟩,((some ⟨w.heap.size,0,none⟩,0):Option Addr×Int),rfl,g _ c ⟨n,c.get b n,s,r+1,?_⟩ ?_⟩
 ·show((w.heap.setIfInBounds cb _).push _)[cb]? =_
  rw[jT,nA,if_neg (by omega),cK,if_pos rfl,if_pos d]
 ·show((w.heap.setIfInBounds cb _).push _)[w.heap.size]? =_
  rw[jT,nA,if_pos rfl]
theorem L8{h:ae}{pb cb cap tb:Nat}{id:Int}{b:List Int}(p:PoolAt h pb cb cap b)(t:TokAt h tb pb id true)(o:b.length<cap){K:Int→ae→Prop}(v:∀h',Upd (fun y=>y=cb∨y=tb) h h'→PoolAt h' pb cb cap (b++ [id])→TokAt h' tb pb id false→K 0 h'):HC PG uz [.pointer (some ⟨pb,0,none⟩),.pointer (some ⟨tb,0,none⟩)] [.c (.int .i64)] K h:=by
 obtain⟨n,f,s,r,hc⟩:=p;have d:pb≠tb:=fun e=>by
  subst e;have:=f.symm.trans t;simp at this
 have c:cb≠tb:=fun e=>by
  subst e;have:=hc.symm.trans t;simp at this
 refine⟨fun w u=>.inl ⟨Tryz.call37 _ w,?_⟩⟩
 subst u;refine(RC f t hc (by simpa using o) d c).mono ?_;rintro e w' ⟨rfl,m,rfl⟩;have k1:=Upd.hset (M:=(· =tb)) w.heap (a:=⟨tb,2,none⟩) (.bool false) rfl
 have g:=Upd.set (M:=(· =cb)) (hset w.heap ⟨tb,2,none⟩ (.bool false)) (.chan cap ((b.map fun i=>Value.int .i64 i).toArray.push (.int .i64 id)) false (s+1) r false) rfl
 have q:cb<(hset w.heap ⟨tb,2,none⟩ (.bool false)).size:=aN (k1.get hc fun e=>c e)
 refine⟨⟨rfl,rfl,rfl⟩,(0:Int),rfl,v _ ((k1.mono fun y j=>.inl (.inr j)).trans g fun y j=>.inl (.inl j)) ⟨n,g.get (k1.get f fun e=>d e) (fun e=>n e),s+1,r,?_⟩ (g.get ?_ (fun e=>c e.symm))⟩
 ·show((hset w.heap ⟨tb,2,none⟩ (.bool false)).setIfInBounds cb _)[cb]? =_
  rw[cK,if_pos rfl,if_pos q];simp
 ·have k:w.heap[tb]? =some (.cells #[.pointer (some ⟨pb,0,none⟩),.int .i64 id,.bool true] pW (0,0)):=t
  rw[Ae k,jt k];rfl
end Go.Proofs
namespace Go.Proofs
structure WO{α:Type}(lt:α→α→Bool):Prop where
 irr:∀a,lt a a=false
 asy:∀a b,lt a b=true→lt b a=false
 ntr:∀a b c,lt a b=false→lt b c=false→lt a c=false
section
variable {α:Type} {lt:α→α→Bool}
def Lp(lt:α→α→Bool)(x a:α):Bool:= !lt a x&& !lt x a
def Srt(lt:α→α→Bool)(l:List α):Prop:=l.Pairwise fun a b=>lt b a=false
structure Eqf(lt:α→α→Bool)(l l':List α):Prop where
 len:l'.length=l.length
 flt:∀x,l'.filter (Lp lt x)=l.filter (Lp lt x)
structure St(lt:α→α→Bool)(l l':List α):Prop where
 eqf:Eqf lt l l'
 srt:Srt lt l'
theorem Eqf.rfl(l:List α):Eqf lt l l:=⟨_root_.rfl,fun _=>_root_.rfl⟩
theorem Eqf.tr{a b c:List α}(h:Eqf lt a b)(k:Eqf lt b c):Eqf lt a c:=⟨k.len.trans h.len,fun x=>(k.flt x).trans (h.flt x)⟩
theorem Eqf.app{a b a' c:List α}(h:Eqf lt a a')(k:Eqf lt b c):Eqf lt (a++b) (a'++c):=
 ⟨by rw[ad,ad,h.len,k.len],fun x=>by rw[gZ,gZ,h.flt,k.flt]⟩
theorem KG(w:WO lt)(a:α):Lp lt a a=true:=by unfold Lp;rw[w.irr];rfl
theorem Eqf.mem(w:WO lt){l l':List α}(h:Eqf lt l l'){a:α}:a∈l'↔a∈l:=by
 have e:=h.flt a;constructor
 ·intro hm
  have:a∈l'.filter (Lp lt a):=d9.2 ⟨hm,KG w a⟩;rw[e]at this;exact(d9.1 this).1
 ·intro hm
  have:a∈l.filter (Lp lt a):=d9.2 ⟨hm,KG w a⟩;rw[←e]at this;exact(d9.1 this).1
theorem TW(w:WO lt){x u v:α}(a:Lp lt x u=true)(hv:Lp lt x v=true):lt v u=false:=by
 unfold Lp at a hv;simp only[Bool.and_eq_true,Bool.not_eq_true']at a hv;exact w.ntr v x u hv.1 a.2
theorem Eqf.swap(w:WO lt){U V:List α}(h:∀u∈U,∀v∈V,lt v u=true):Eqf lt (U++V) (V++U):=by
 refine⟨by rw[ad,ad,Nat.add_comm],fun x=>?_⟩
 rw[gZ,gZ];cases hU:U.filter (Lp lt x)with
 |nil=>rw[bh,dM]
 |cons u us=>
  cases hV:V.filter (Lp lt x)with
  |nil=>rw[bh,dM]
  |cons v vs=>
   have d:u∈U.filter (Lp lt x):=by rw[hU];exact av ..
   have hv:v∈V.filter (Lp lt x):=by rw[hV];exact av ..
   have c:=d9.1 d;have a:=d9.1 hv;have b:=h u c.1 v a.1;rw[TW w c.2 a.2]at b;cases b
theorem Srt.app{a b:List α}(h:Srt lt a)(k:Srt lt b)(c:∀x∈a,∀y∈b,lt y x=false):Srt lt (a++b):=ci.2 ⟨h,k,c⟩
theorem Srt.left{a b:List α}(h:Srt lt (a++b)):Srt lt a:=(ci.1 h).1
theorem Srt.right{a b:List α}(h:Srt lt (a++b)):Srt lt b:=(ci.1 h).2.1
theorem Srt.cross{a b:List α}(h:Srt lt (a++b)):∀x∈a,∀y∈b,lt y x=false:=(ci.1 h).2.2
theorem Srt.nil:Srt lt ([]:List α):=ey
theorem Srt.one(a:α):Srt lt [a]:=List.pairwise_singleton ..
theorem QC(w:WO lt){S L G:List α}{t:α}(h:St lt S (L++G))(d:∀l∈L,lt t l=false)(b:∀g∈G,lt t g=true):St lt (S++ [t]) (L++t::G):=by
 refine⟨(h.eqf.app (Eqf.rfl [t])).tr ?_,?_⟩
 ·rw[au]
  exact(Eqf.rfl L).app (Eqf.swap w (U:=G) (V:= [t]) fun u e v hv=>by rw[aq.1 hv];exact b u e)
 ·refine h.srt.left.app (ba.2 ⟨fun g c=>w.asy t g (b g c),h.srt.right⟩) fun x hx y a=>?_
  rcases aw.1 a with rfl|a
  ·exact d x hx
  ·exact h.srt.cross x hx y a
theorem HD(w:WO lt){V1 V2:List α}{u:α}(h:Srt lt (V1++V2))(b:∀v∈V1,lt v u=true)(c:∀v∈V2,lt v u=false):St lt ([u]++(V1++V2)) (V1++u::V2):=by
 refine⟨?_,?_⟩
 ·rw[←au]
  have:=(Eqf.swap w (U:= [u]) (V:=V1) fun x hx y a=>by rw[aq.1 hx];exact b y a).app (Eqf.rfl V2)
  rw[au V1]at this;exact this
 ·refine h.left.app (ba.2 ⟨c,h.right⟩) fun x hx y a=>?_
  rcases aw.1 a with rfl|a
  ·exact w.asy x y (b x hx)
  ·exact h.cross x hx y a
theorem Jt(w:WO lt){U1 U2:List α}{v:α}(h:Srt lt (U1++U2))(b:∀u∈U1,lt v u=false)(a:∀u∈U2,lt v u=true):St lt ((U1++U2)++ [v]) (U1++v::U2):=
 QC w ⟨Eqf.rfl _,h⟩ b a
theorem OY(w:WO lt){U1 U2 V1 V2 f R2:List α}(g:Srt lt (U1++U2))(k:Srt lt (V1++V2))(d:∀v∈V1,∀u∈U2,lt v u=true)(i:∀u∈U1,∀v∈V2,lt v u=false)(b:St lt (U1++V1) f)(c:St lt (U2++V2) R2):St lt ((U1++U2)++(V1++V2)) (f++R2):=by
 refine⟨?_,b.srt.app c.srt fun x hx y a=>?_⟩
 ·have e:Eqf lt ((U1++U2)++(V1++V2)) ((U1++V1)++(U2++V2)):=by
   have:=((Eqf.rfl U1).app (Eqf.swap w (U:=U2) (V:=V1) fun u j v hv=>d v hv u j)).app (Eqf.rfl (lt:=lt) V2)
   simp only[au]at this⊢;exact this
  exact e.tr (b.eqf.app c.eqf)
 ·rcases bM.1 ((b.eqf.mem w).1 hx)with hx|hx<;>rcases bM.1 ((c.eqf.mem w).1 a)with a|a
  ·exact g.cross x hx y a
  ·exact i x hx y a
  ·exact w.asy x y (d x hx y a)
  ·exact k.cross x hx y a
inductive Runs(lt:α→α→Bool)(bs:Nat):List α→Prop where
 |last (l:List α):l.length≤bs→Srt lt l→Runs lt bs l
 |more (b l:List α):b.length=bs→Srt lt b→Runs lt bs l→Runs lt bs (b++l)
theorem Runs.split{a:Nat}{l:List α}(h:Runs lt a l)(c:a≤l.length):∃b r,l=b++r∧b.length=a∧Srt lt b∧Runs lt a r:=by
 cases h with
 |last _ h1 h2=>exact⟨l,[],(bh l).symm,by omega,h2,.last _ (aS _) Srt.nil⟩
 |more b r h1 h2 h3=>exact⟨b,r,_root_.rfl,h1,h2,h3⟩
theorem Runs.short{a:Nat}{l:List α}(h:Runs lt a l)(c:l.length≤a):Srt lt l:=by
 cases h with
 |last _ h1 h2=>exact h2
 |more b r h1 h2 h3=>
  rw[ad]at c;have:r= []:=List.length_eq_zero_iff.1 (by omega);rw[this,bh];exact h2
def Full(lt:α→α→Bool)(a:Nat)(d:List α):Prop:=∀z,Runs lt a z→Runs lt a (d++z)
theorem Full.nil{a:Nat}:Full lt a ([]:List α):=fun _ h=>h
theorem Full.app{a:Nat}{d b:List α}(h:Full lt a d)(c:b.length=a)(e:Srt lt b):Full lt a (d++b):=fun z hz=>by
 rw[au];exact h _ (.more b z c e hz)
end
end Go.Proofs
namespace Go.Proofs
open Go Go.Lift
theorem Bl{W:Nat→Prop}{x:Hs}{h:ae}{b:Nat}{l:List Pr}(t:TrieAt W x h 13 b l){K:Option Addr→ae→Prop}(c:∀a,Upd No h a→K (some ⟨b,0,none⟩) a):HC PG gl [DG (0,x.k0,x.k1,x.mask,some ⟨b,0,none⟩,none)] [.c .ptr] K h:=by
 refine sX (0,x.k0,x.k1,x.mask,some ⟨b,0,none⟩,none) ?_;unfold o8 bj aH uU;refine aP fun d b1 k1=>?_
 refine Join.intro (fun t a=>t=false∧a=d) (fun R e=>⟨_,vc b1 0,ax.2 ⟨_,vc b1 4,e _ _ ⟨rfl,rfl⟩⟩⟩) ?_
 rintro t a ⟨rfl,rfl⟩;exact al.2 ⟨_,vc b1 4,c a k1⟩
def EU(a:Int)(x:Hs)(l:List Pr)(xs:List UInt8):Prop:=(a=0∧xs=0::fC x 13 l)∨(a=1∧∃ys,M4 l ys∧xs=1::ys)
theorem xA{h a:ae}{b:UInt8}(c:a[h.size]? =some (.cells #[.int .u8 (b.toNat:Int)] cr (0,0))):OwnS nX 1 cr (fun y=>h.size≤y) a ⟨some ⟨h.size,0,none⟩,1,1⟩ [b]:=⟨rfl,qJ,aj _,.inr ⟨h.size,[],rfl,aj _,c,rfl⟩⟩
theorem OU{W:Nat→Prop}{x:Hs}{h:ae}{a:Int}{t:Tr}{l:List Pr}(i:TreeIs W h a x t l)(D:cx l)(q:Fit l)(A:l.length≤60000){K:SliceV→ae→Prop}
  (I:∀s' k xs,EU a x l xs→OwnS nX 1 cr (fun y=>h.size≤y) k s' xs→Upd No h k→K s' k):HC PG lD [DG t] [.c .slice] K h:=by
 refine Az t ?_;unfold te bj ag aH uU zD;refine aP fun o b1 k1=>?_
 have L:=k1.size;have app:∀{b:UInt8} {g e:ae} {s:SliceV} {xs:List UInt8},g[o.size]? =some (.cells #[.int .u8 (b.toNat:Int)] cr (0,0))→Upd No o g→OwnS nX 1 cr (fun y=>g.size≤y) e s xs→Upd No g e→xs.length≤70000000000000→EU a x l (b::xs)→
   ∃xs7,SRow e s.a (s.len*1) xs7∧AppP (some [.int .u8 0]) 1 1 cr (some (aC o)) 1 1 s.len xs7 e (fun H C=>K H C):=fun{b g e s xs} p c B j J hv=>by
  refine⟨_,(B.sl (W:=No) fun _ _ _ h=>h).srow,?_⟩
  have m:=c.tr j;have hz:=aN p;have G:OwnS nX 1 cr (fun y=>h.size≤y) e ⟨some ⟨o.size,0,none⟩,1,1⟩ [b]:=((xA p).upd j fun _ _ h=>h).more fun y u=>by omega
  refine AppP.own (ys:=xs) G B.len rfl (zU _) rfl (by omega) (by simp only[aE];omega) (by have:=m.size;omega) fun s' k w z=>?_
  exact I s' k _ hv w ((k1.tr m).trans z fun y u=>.inr u)
 rcases i with⟨rfl,b,rfl,t⟩|⟨rfl,b,rfl,t⟩
 ·refine⟨_,vc b1 0,al.2 (aP fun g b2 c=>?_)⟩
  have d:=c.get0 b1;refine⟨_,vc d 0,_,vc d 1,_,vc d 2,_,vc d 3,_,vc d 4,_,vc d 5,?_⟩;refine Bl (TrieAt.upd0 (k1.tr c) t) fun e j=>?_
  refine Tf (TrieAt.upd0 ((k1.tr c).tr j) t) q A fun F E f v=>?_
  have M:=j.size;have n:=nK (x:=x) 13 q;have p:l.length*(20004+9*(13+1))≤60000*(20004+9*(13+1)):=cg _ A;exact app (b:=0) b2 c (f.more fun y u=>by omega) (j.tr v) (by omega) (.inl ⟨rfl,rfl⟩)
 ·refine⟨_,vc b1 0,ax.2 (aP fun g b2 c=>?_)⟩
  have d:=c.get0 b1;refine⟨_,vc d 5,?_⟩;refine JG (t.upd0 (k1.tr c)) D q A fun F E xs hv f v=>?_
  have n:=zS hv q;have p:2*l.length*20010≤2*60000*20010:=cg _ (by omega);exact app (b:=1) b2 c f v (by omega) (.inr ⟨rfl,xs,hv,rfl⟩)
theorem Qu{a:Int}{x f:Hs}(hx:a=0→x=f){l l':List Pr}{xs c:List UInt8}(hv:EU a x l xs)(b:EU a f l' c)(j:Fit l)(d:Fit l')(k:l.length≤60000)(i:l'.length≤60000)(n:cx l)(g:cx l'):xs=c↔l=l':=by
 rcases hv with⟨rfl,rfl⟩|⟨rfl,ys,hv,rfl⟩<;>rcases b with⟨e,rfl⟩|⟨e,m,b,rfl⟩
 ·rw[hx rfl]
  constructor
  ·intro h
   have h:fC f 13 l++ []=fC f 13 l'++ []:=by rw[(eO.inj h).2]
   exact(DT 13 j d k i n g h).1
  ·rintro rfl;rfl
 ·cases e
 ·cases e
 ·rw[eO.injEq,←Tm hv b j d]
  exact⟨fun h=>h.2,fun h=>⟨rfl,h⟩⟩
theorem TreeIs.plain{W:Nat→Prop}{h:ae}{e:Int}{x:Hs}{t:Tr}{l:List Pr}(i:TreeIs W h e x t l):(∀a,t.2.2.2.2.1=some a→eY h a)∧(∀a,t.2.2.2.2.2=some a→eY h a):=by
 rcases i with⟨rfl,b,rfl,t⟩|⟨rfl,b,rfl,t⟩
 ·obtain⟨s,g,_⟩:=t
  obtain⟨d,n,sp,sk,ow,f,_⟩:=g.ex;refine⟨fun a c=>?_,fun a c=>(by cases c)⟩
  cases c;exact⟨_,_,f,show 0<6 by decide⟩
 ·obtain⟨w,F,⟨val,s,ow,ks,f,_⟩,_⟩:=t.ex
  refine⟨fun a c=>(by cases c),fun a c=>?_⟩
  cases c;exact⟨_,_,f,show 0<5 by decide⟩
end Go.Proofs
namespace Go.Proofs
open Go Go.Lift
abbrev zPrL:List Value:= [.string (⟨#[]⟩:ByteArray),.string (⟨#[]⟩:ByteArray)]
theorem qT{h:ae}{t:TypeId}{p:Pr}{k:ae→Prop}(e:∀h',h'[h.size]? =some (.cells #[.string p.1,.string p.2] t (0,0))→Upd No h h'→k h'):
  At (hnew h [.string (⟨#[]⟩:ByteArray),.string (⟨#[]⟩:ByteArray)] t) fun b=>uD b (some (aC h)) 0 [.string p.1,.string p.2]∧At (iC b (aC h) 0 [.string p.1,.string p.2]) k:=by
 refine aP fun f b1 k1=>?_
 exact cC (c:=zPrL) (vs:= [.string p.1,.string p.2]) b1 rfl fun d b2 a=>e d b2 (k1.own a (aj _))
theorem wS{t:TypeId}{M:Nat→Prop}{h:ae}{c:SliceV}{out:List Pr}{p:Pr}{K:SliceV→ae→Prop}(g:OwnS eg 2 t M h c out)(hM:∀b,h.size≤b→M b)(j:out.length+1≤1000000000)
  (i:∀s' a,OwnS eg 2 t M a s' (out++ [p])→Upd M h a→K s' a):
  ∃xs,SRow (hnew h [.string p.1,.string p.2] t) (some (aC h)) (1*2) xs∧AppP (some [.string (⟨#[]⟩:ByteArray),.string (⟨#[]⟩:ByteArray)]) 2 32 t c.a c.len c.cap 1 xs (hnew h [.string p.1,.string p.2] t) K:=by
 have k:=Upd.hnew No h [.string p.1,.string p.2] t;have e:OwnS eg 2 t (fun _=>True) (hnew h [.string p.1,.string p.2] t) ⟨some (aC h),1,1⟩ [p]:=⟨rfl,g9,aj _,.inr ⟨h.size,[],rfl,trivial,cO ..,rfl⟩⟩
 refine⟨_,(e.sl (W:=No) fun _ _ _ h=>h).srow,?_⟩
 refine AppP.own (ys:= [p]) (g.upd k fun _ _ h=>h) rfl rfl rfl rfl (by omega) (by simp only[aE];omega) (hM _ (by rw[jm];omega)) fun s' a d f=>?_
 exact i s' a d ((Upd.hnew M h _ _).tr f)
theorem Es{p:Pr}:∀{A B:List Pr},(∀r∈A,kl r.1 p.1)→gA p (A++B)=A++gA p B
 | [],_,_=>rfl
 |r::A,B,h=>by
  rw[dN,gP,if_pos (h r (av ..)),Es fun q a=>h q (List.mem_cons_of_mem _ a)];rfl
theorem Kl{p q:Pr}:∀{A:List Pr},(∃r∈A,kl p.1 r.1)→gA p (A++ [q])=gA p A++ [q]
 | [],h=>by obtain⟨r,f,_⟩:=h;simp at f
 |r::A,h=>by
  rw[dN,gP,gP];by_cases b:kl r.1 p.1
  ·rw[if_pos b,if_pos b,Kl]
   ·rfl
   ·obtain⟨e,a,d⟩:=h
    rcases aw.1 a with rfl|a
    ·exact absurd (iB b d) (cD _)
    ·exact⟨e,a,d⟩
  ·rw[if_neg b,if_neg b]
   by_cases c:r.1=p.1
   ·rw[if_pos c,if_pos c];rfl
   ·rw[if_neg c,if_neg c];rfl
theorem Kj{p:Pr}:∀{l:List Pr},(∀q∈l,kl p.1 q.1)→gA p l=p::l
 | [],_=>rfl
 |q::l,h=>by
  have a:=h q (av ..);rw[gP,if_neg fun b=>cD _ (iB a b),if_neg fun e=>by rw[e]at a;exact cD _ a]
theorem GQ{p:Pr}:∀{l:List Pr},cx l→gA p (l.filter fun q=>decide (q.1≠p.1))=gA p l
 | [],_=>rfl
 |r::l,c=>by
  have c:=ba.1 c;have keep:∀{l:List Pr},(∀q∈l,kl p.1 q.1)→(l.filter fun q=>decide (q.1≠p.1))=l:=fun{l} h=>List.filter_eq_self.2 fun q b=>decide_eq_true fun e=>by have:=h q b;rw[e]at this;exact cD _ this
  rw[List.filter_cons,gP];by_cases e:r.1=p.1
  ·have d:∀q∈l,kl p.1 q.1:=fun q b=>by rw[←e];exact c.1 q b
   rw[if_neg (by simp[e]),if_neg (by rw[e];exact cD _),if_pos e,keep d,Kj d]
  ·rw[if_pos (by simpa using e),gP]
   by_cases a:kl r.1 p.1
   ·rw[if_pos a,if_pos a,GQ c.2]
   ·rw[if_neg a,if_neg a,if_neg e,if_neg e]
    have f:=qE a e;rw[keep fun q b=>iB f (c.1 q b)]
theorem rB{i n:Nat}(h:i<n)(a:n≤9223372036854775807):IntKind.wrap .i64 ((i:Int)+1)=((i+1:Nat):Int):=by rw[Go.IntWalk.i64_in _ (by omega)];omega
theorem BB(p:Pr):∀{l:List Pr},(gA p l).length≤l.length+1
 | []=>aj _
 |q::l=>by
  rw[gP];split
  ·have:=BB p (l:=l);simp only[List.length_cons];omega
  ·split<;>simp
theorem V9{k:Int}(a:0≤k)(b:k≤255):IntKind.wrap .i64 (su k 2)=0∨IntKind.wrap .i64 (su k 2)=1:=by
 have:su k 2=k%2:=Int.tmod_eq_emod_of_nonneg a;rw[this,ji (by omega)];omega
abbrev hsL(x:Hs):List Value:= [.int .u64 x.k0,.int .u64 x.k1,.int .u64 x.mask]
end Go.Proofs
