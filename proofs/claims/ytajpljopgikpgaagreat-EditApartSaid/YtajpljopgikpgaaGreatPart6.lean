/- A part of the proof that the named laws of this program answer true, whatever the input. -/
import Derived.Test.YtajpljopgikpgaaGreatPart5
import Derived.Test.YtajpljopgikpgaaGreatPart2
import Derived.Test.YtajpljopgikpgaaGreatPart4
import Derived.Test.YtajpljopgikpgaaGreatPart1
import Derived.Test.YtajpljopgikpgaaGreatLift3
open Array renaming getElem?_push→gq,size_setIfInBounds→jU,getElem?_setIfInBounds→bX
open Int renaming tmod→jT
open List renaming any_eq_true→bH,mem_singleton→ai,any_cons→l7,range→bW,length_append→af,mem_filter→f8,pairwise_append→cE,cons→gx
open List.Pairwise renaming nil→fq
open Nat renaming zero_add→aC,lt_of_lt_of_le→bv,le_trans→bp,le_refl→aw,mul_le_mul_right→cW
namespace Go.Proofs
open Go.Lift
theorem By.updS{h b:ae}{w o:Option Addr}{S:Nat→Prop}(t:By h w o)(k:Upd S h b)(d:∀a,w=some a→¬S a.block):By b w o:=t.upd k fun _ e c=>absurd c (d _ e)
set_option maxHeartbeats 2000000 in
theorem I3{W:Nat→Prop}{x:Hs}{w o:Option Addr}:∀(m:Nat),m≤13→∀{b:Nat} {l:List Pr} {S:Nat→Prop} (p:Pr) {h:ae},TrieO o W x h m b l S→By h w o→(∀y,W y→y<h.size)→(∀y,S y→W y)→(∀a,o=some a→W a.block)→(∀a,w=some a→¬S a.block)→cq l→l.length≤1000000→∀{K:(Option Addr)×Bool×Bool→ae→Prop},
  (∀A b' ch S',Upd S h A→TrieO o (fun y=>W y∨S' y) x A m b' (ic p l) S'→(∀y,S' y→(S y∨h.size≤y)∧y<A.size)→(ch=false→b'=b∧Upd No h A)→ch= !decide (p∈l)→K (some ⟨b',0,none⟩, !bK l p.1,ch) A)→
  HC PG fI [GR x w p.1,.pointer (some ⟨b,0,none⟩),.agg #[.string p.1,.string p.2],.int .i64 ((13-m:Nat):Int)] [.c .ptr,.c .bool,.c .bool] K h:=by
 intro m;induction m with
 |zero=>
  intro _ b l S p h t by_ hW E L hwS hr hn K hk;have M:∀y,S y→y<h.size:=fun y g=>hW y (E y g)
  refine pG (x.k0,x.k1,x.mask,w,p.1,lx x p.1) (some ⟨b,0,none⟩) p ((13-0:Nat):Int) ?_;unfold lR ag ay aD nv qt pq xi tW sE AX pW l9 xJ;refine bi fun h1 b1 k1=>bi fun j b2 k2=>?_
  have G:∀{A:ae},Upd No j A→∀i,aQ A (adr ⟨h.size,0,none⟩ i)=(#[.int .u64 x.k0,.int .u64 x.k1,.int .u64 x.mask,.pointer w,.string p.1,.int .u64 (lx x p.1)]:Array Value)[i]?:=fun k i=>by
   rw[bC,aV (k.get0 (k2.get0 b1)),aC]
  have J:∀{A:ae},Upd No j A→∀i,aQ A (adr ⟨h1.size,0,none⟩ i)=(#[.string p.1,.string p.2]:Array Value)[i]?:=fun k i=>by rw[bC,aV (k.get0 b2),aC]
  have r:=Upd.refl No j;have u:=k1.tr k2;have z02:=u.size;have bk:BuckO o W j b l S:=BuckO.upd0 t u;have by2:=by_.upd0 u;have bkr:=bk.read by2;obtain⟨sp,sk,ow,hb,_⟩:=bkr.ex;refine gI (d:=0) (n:=0) hb (aA.2 ⟨_,J r 0,JE bkr hr (by omega) p.1 fun h3 v U hv=>?_⟩)
  refine Join.intro (fun t' A=>t'=decide (p∈l)∧Upd No j A) (fun R hR=>?_) ?_
  ·cases C:bK l p.1 with
   |false=>
    refine ak.2 (hR _ _ ⟨?_,U⟩);refine(decide_eq_false fun hm=>?_).symm
    have:bK l p.1=true:=bH.2 ⟨p,hm,decide_eq_true rfl⟩;rw[C]at this;cases this
   |true=>
    have hv:=hv C;refine aA.2 ⟨_,J U 1,hR _ _ ⟨?_,U⟩⟩;rw[jP,decide_eq_decide];constructor
    ·intro e
     have e:v=p.2:=e;rw[e]at hv;exact hv
    ·intro hm
     exact Dw hr hv (show(p.1,p.2)∈l from hm)
  ·rintro t' h4 ⟨rfl,F⟩
   have z4:=F.size;by_cases hm:p∈l
   ·rw[decide_eq_true hm]
    refine aA.2 ?_;have C:bK l p.1=true:=bH.2 ⟨p,hm,decide_eq_true rfl⟩;have:=hk h4 b false S (u.tr F).wide (by rw[xu hr hm];exact(BuckO.upd0 t (u.tr F)).imp (fun n=>⟨n.1.less fun y g=>.inl (g.elim id (E y)),n.2⟩) id) (fun y g=>⟨.inl g,by have:=M y g;omega⟩) (fun _=>⟨rfl,u.tr F⟩) (by rw[decide_eq_true hm];rfl)
    rw[C]at this;exact this
   ·rw[decide_eq_false hm]
    refine ak.2 ⟨w,G F 3,_,J F 0,_,J F 1,?_⟩;refine yN (bk.upd0 F) (by2.upd0 F) L (fun y g=>by have:=M y g;omega) hr (by omega) p fun h5 b5 sp5 sk5 on5 hu5=>?_
    have z5:=hu5.size;have hS0:o=none→∀y,¬S y:=fun e y g=>by
     rcases t with⟨_,h⟩|⟨h,_⟩
     ·exact h y g
     ·rw[e]at h;cases h
    refine hk h5 b5 true _ ((u.tr F).wide.tr hu5) (rM (W:=fun y=>W y∨(o.isSome=true∧(S y∨h4.size≤y)∧y<h5.size)) on5 fun e=>⟨hS0 e,fun y g=>g.elim (fun h=>by have:=hW y h;omega) fun h=>by rw[e]at h;cases h.1⟩) (fun y g=>⟨g.2.1.imp id fun h=>by omega,g.2.2⟩) (fun h=>by cases h) (by rw[decide_eq_false hm];rfl)
 |succ m ih=>
  intro hm b l S p h t by_ hW E L hwS hr hn K hk;have gW:∀{A},Upd No h A→∀y,W y→y<A.size:=fun k y g=>bv (hW y g) k.size
  have M:∀y,S y→y<h.size:=fun y g=>hW y (E y g)
  have hl:13-(m+1)<13:=by omega
  have hlev:13-(m+1)=12-m:=by omega
  refine pG (x.k0,x.k1,x.mask,w,p.1,lx x p.1) (some ⟨b,0,none⟩) p ((13-(m+1):Nat):Int) ?_;unfold lR ag ay aD nv qt pq xi tW sE AX pW l9 xJ;refine bi fun h1 b1 k1=>bi fun j b2 k2=>?_
  have G:∀{A:ae},Upd No j A→∀i,aQ A (adr ⟨h.size,0,none⟩ i)=(#[.int .u64 x.k0,.int .u64 x.k1,.int .u64 x.mask,.pointer w,.string p.1,.int .u64 (lx x p.1)]:Array Value)[i]?:=fun k i=>by
   rw[bC,aV (k.get0 (k2.get0 b1)),aC]
  have J:∀{A:ae},Upd No j A→∀i,aQ A (adr ⟨h1.size,0,none⟩ i)=(#[.string p.1,.string p.2]:Array Value)[i]?:=fun k i=>by rw[bC,aV (k.get0 b2),aC]
  have r:=Upd.refl No j;have u:=k1.tr k2;have by2:=by_.upd0 u;have z02:=u.size;have hno:o=none→∀y,¬S y:=fun e=>by subst e;exact t.off.2
  obtain⟨s,S0,T,nd0,h0,I,hd,hs⟩:=(TrieO.upd0 u t).view;have tt:∀{A:ae},Upd No j A→TrieO o (fun y=>W y∨S y) x A (m+1) b l S:=fun k=>(TrieO.upd0 (u.tr k) t).less fun y g=>.inl (g.elim id (E y))
  have ndr:=nd0.read by2;obtain⟨d0,n0,sp0,sk0,ow0,hb0,_⟩:=ndr.ex;refine gI hb0 (ak.2 ⟨_,G r 5,Jm hl ?_⟩);rw[hlev];have hi:=wJ x (12-m) p.1;have hsi:=hs _ hi;have hrp:=p8 (x:=x) (lev:=12-m) (c:=ck x (12-m) p.1) hr;have hnp:(part x (12-m) (ck x (12-m) p.1) l).length≤1000000:=bp mc hn;have hmp:p∈part x (12-m) (ck x (12-m) p.1) l↔p∈l:=by rw[kK];exact⟨fun h=>h.1,fun h=>⟨h,rfl⟩⟩
  have htp:=xL (x:=x) (lev:=12-m) (l:=l) (k:=p.1);have turn:∀{hz A:ae} {b' d n:Nat} {sp sk:SliceV} {s':Slots} {T':Nat→Prop},Upd (T (ck x (12-m) p.1)) j hz→OwnN (fun y=>S0 y∨hz.size≤y) A b' d n sp sk s' o→Upd S0 hz A→(∀c,c≠ck x (12-m) p.1→s'.p c=s.p c∧s'.k c=s.k c)→
    SlotO o (fun y=>W y∨T' y) x hz m s' (ck x (12-m) p.1) (ic p (part x (12-m) (ck x (12-m) p.1) l)) T'→(∀y,T' y→(T (ck x (12-m) p.1) y∨j.size≤y)∧y<hz.size)→p∉l→
    K (some ⟨b',0,none⟩, !bK l p.1,true) A:=fun{hz A b' d n sp sk s' T'} ku on ku2 hp hslot V Q=>by
   have zz:=ku.size;have zz':=ku2.size;have b2S:∀y,S y→y<j.size:=fun y g=>by have:=M y g;omega
   have p1:part x (12-m) (ck x (12-m) p.1) (ic p l)=ic p (part x (12-m) (ck x (12-m) p.1) l):=by rw[yd hr,if_pos rfl]
   have hT0:∀y,T' y→¬S0 y∧∀c,c≠ck x (12-m) p.1→¬T c y:=fun y g=>by
    rcases(V y g).1 with h|h
    ·exact⟨(I _ y h).2,fun c hc C=>hc (hd _ _ y C h)⟩
    ·exact⟨fun hs=>by have:=b2S y (h0 y hs);omega,fun c _ C=>by have:=b2S y (I c y C).1;omega⟩
   refine hk A b' true _ ((u.wide.tr (ku.mono fun y g=>.inl (I _ y g).1)).tr (ku2.mono fun y g=>.inl (h0 y g))) (sF (W:=W) (W1:=fun y=>W y∨T' y) (T:=T) (T':=T') (c0:=ck x (12-m) p.1) (s:=s) (hz:=hz) on ku2 (fun c hc hcc=>?_) hp ?_ (fun y g=>.inl g) (fun y g=>.inl (E y (h0 y g))) (fun c y g=>.inl (E y (I c y g).1)) (fun y g=>.inr g) (fun c y g=>⟨by have:=b2S y (I c y g).1;omega,(I c y g).2⟩) (fun y g=>⟨(V y g).2,hT0 y g⟩) hd fun e=>⟨fun y g=>hno e y (h0 y g),fun y g=>g.elim (fun h=>by have:=hW y h;omega) fun h=>(V y h).2⟩) (fun y g=>?_) (fun h=>by cases h) (by rw[decide_eq_false Q];rfl)
   ·rw[yd hr,if_neg fun e=>hcc e.symm]
    refine((hs c hc).less (W':=fun y=>W y∨T' y) fun y g=>g.elim .inl fun h=>(V y h).1.imp (fun h=>E y (I _ y h).1) id).upd ku (fun y g=>b2S y (I c y g).1) fun y g=>.inl ⟨.inl (E y (I _ y g).1),fun h=>hcc (hd _ _ y h g)⟩
   ·rw[p1];exact hslot
   ·have:=Ev (S:=S) (z0:=h.size) h0 (fun c y g=>⟨(I c y g).1,by have:=b2S y (I c y g).1;omega⟩) (fun y g=>⟨(V y g).1.imp (fun h=>(I _ y h).1) fun h=>by omega,by have:=(V y g).2;omega⟩) (by omega) g
    exact this
  generalize hc:ck x (12-m) p.1=c at hi hsi hrp hnp hmp htp turn;generalize hlp:part x (12-m) c l=lc at hsi hrp hnp hmp htp turn;refine Cx ndr hi fun h3 U=>?_
  refine bi fun h4 b4 k4=>?_
  have b4':h4[h3.size]? =some (.cells #[.string BJ.1,.string BJ.2] al (0,0)):=b4;refine wB (p:=HG (s.p c)) b4' fun h5 b5 hu5=>?_
  have f:Upd No j h5:=(U.tr k4).trans hu5 fun y g=>.inr (by have g:y=h3.size:=g;have:=U.size;omega)
  have w5:∀{A:ae},Upd No h5 A→∀i,aQ A (adr ⟨h3.size,0,none⟩ i)=(#[.string (HG (s.p c)).1,.string (HG (s.p c)).2]:Array Value)[i]?:=fun k i=>by rw[bC,aV (k.get0 b5),aC]
  have r5:=Upd.refl No h5;have z5:=f.size;have P:=by2.upd0 f;have Y:=nd0.upd0 f;have h0b:∀y,S0 y→y<h5.size:=fun y g=>by have:=M y (h0 y g);omega
  cases hsp:s.p c with
  |some y=>
   rw[hsp]at w5;obtain⟨N,hk0,hTn⟩:lc= [y]∧s.k c=none∧∀y,¬T c y:=by
    rcases hsi with⟨_,j,_⟩|⟨q,h1,j,h3,h4⟩|⟨_,j,_⟩
    ·rw[hsp]at j;cases j
    ·rw[hsp]at j;cases j;exact⟨h1,h3,h4⟩
    ·rw[hsp]at j;cases j
   refine aA.2 ⟨y.1,w5 r5 0,y.2,w5 r5 1,p.1,J f 0,p.2,J f 1,?_⟩;rw[jP,jP];have hyl:y∈l:=(kK.1 (show y∈part x (12-m) c l by rw[hlp,N];exact ai.2 rfl)).1
   by_cases X:y.1=p.1
   ·have C:bK l p.1=true:=bH.2 ⟨y,hyl,decide_eq_true X⟩
    by_cases e2:y.2=p.2
    ·rw[decide_eq_true X,decide_eq_true e2]
     have hyp:y=p:=Prod.ext X e2;have H:p∈l:=hyp▸hyl;refine aA.2 ?_;rw[C]at hk;exact hk h5 b false S (u.tr f).wide (by rw[xu hr H];exact tt f) (fun y g=>⟨.inl g,by have:=M y g;omega⟩) (fun _=>⟨rfl,u.tr f⟩) (by rw[decide_eq_true H];rfl)
    ·rw[decide_eq_true X,decide_eq_false e2]
     refine ak.2 ⟨y.1,w5 r5 0,p.1,J f 0,?_⟩;rw[jP,decide_eq_true X];refine aA.2 ⟨w,G f 3,p.1,J f 0,p.2,J f 1,?_⟩;refine ma Y P L h0b hi (fun _ _=>hk0) p fun h6 b6 d6 n6 sp6 sk6 on6 B=>?_
     have Q:p∉l:=fun hm=>by
      have:=hmp.2 hm;rw[N]at this;exact e2 (by rw[ai.1 this])
     have:=turn (T':=No) f.wide on6 B (fun c' D=>⟨ep D,ep D⟩) (.inr (.inl ⟨p,by rw[N,jc,if_neg (by rw[X];exact db _),if_pos X],eJ,eJ,fun _ h=>h⟩)) (fun _ h=>h.elim) Q
     rw[C]at this;exact this
   ·rw[decide_eq_false X]
    refine ak.2 ⟨y.1,w5 r5 0,p.1,J f 0,?_⟩;rw[jP,decide_eq_false X];refine ak.2 ⟨w,G f 3,_,G f 0,_,G f 1,_,G f 2,_,G f 3,_,G f 4,_,G f 5,y.1,w5 r5 0,y.2,w5 r5 1,p.1,J f 0,p.2,J f 1,?_⟩;have ew:IntKind.wrap .i64 (((12-m:Nat):Int)+1)=((13-m:Nat):Int):=by rw[nT (by omega)];omega
    rw[ew];refine Ii m y p (by omega) X (gW (u.tr f)) P L fun h6 b6 Sk t6 hSk B=>⟨G (f.tr B) 3,?_⟩
    have z6:=B.size;refine p4 (Y.upd0 B) (P.upd0 B) L hi (fun z hz=>by rw[hk0]at hz;cases hz) ⟨b6,0,none⟩ fun h7 b7 d7 n7 sp7 sk7 on7 hu7=>?_
    have C:bK l p.1=false:=by
     rw[←htp,N];unfold bK;rw[l7,decide_eq_false X];rfl
    have Q:p∉l:=fun hm=>by
     have:bK l p.1=true:=bH.2 ⟨p,hm,decide_eq_true rfl⟩;rw[C]at this;cases this
    have:=turn (T':=Sk) (f.tr B).wide on7 hu7 (fun c' D=>⟨ep D,ep D⟩) (.inr (.inr (by rw[N];exact⟨by rw[EW X];omega,eJ,b6,eJ,t6⟩))) (fun y g=>⟨.inr (by have:=(hSk y g).1;omega),(hSk y g).2⟩) Q
    rw[C]at this;exact this
  |none=>
   refine ak.2 (Fa (Y.read P) hi ?_);cases hsk:s.k c with
   |none=>
    have hlc:lc= []:=by
     rcases hsi with⟨h1,_⟩|⟨q,_,j,_⟩|⟨_,_,kb,j,_⟩
     ·exact h1
     ·rw[hsp]at j;cases j
     ·rw[hsk]at j;cases j
    refine aA.2 ⟨w,G f 3,p.1,J f 0,p.2,J f 1,?_⟩;refine ma Y P L h0b hi (fun _ _=>hsk) p fun h6 b6 d6 n6 sp6 sk6 on6 B=>?_
    have C:bK l p.1=false:=by rw[←htp,hlc];rfl
    have Q:p∉l:=fun hm=>by
     have:bK l p.1=true:=bH.2 ⟨p,hm,decide_eq_true rfl⟩;rw[C]at this;cases this
    have:=turn (T':=No) f.wide on6 B (fun c' D=>⟨ep D,ep D⟩) (.inr (.inl ⟨p,by rw[hlc];rfl,eJ,eJ,fun _ h=>h⟩)) (fun _ h=>h.elim) Q
    rw[C]at this;exact this
   |some kp=>
    obtain⟨h2l,kb,rfl,tk⟩:2≤lc.length∧∃kb,kp=some ⟨kb,0,none⟩∧TrieO o W x j m kb lc (T c):=by
     rcases hsi with⟨_,_,j,_⟩|⟨q,_,j,_⟩|⟨h1,_,kb,j,h3⟩
     ·rw[hsk]at j;cases j
     ·rw[hsp]at j;cases j
     ·rw[hsk]at j;cases j;exact⟨h1,kb,rfl,h3⟩
    refine ak.2 ⟨_,G f 0,_,G f 1,_,G f 2,_,G f 3,_,G f 4,_,G f 5,p.1,J f 0,p.2,J f 1,?_⟩;have ew:IntKind.wrap .i64 (((12-m:Nat):Int)+1)=((13-m:Nat):Int):=by rw[nT (by omega)];omega
    rw[ew];refine ih (by omega) p (TrieO.upd0 f tk) P (gW (u.tr f)) (fun y g=>E y (I c y g).1) L (fun a e C=>hwS a e (I c _ C).1) hrp hnp fun h6 b6 ch Sk B t6 hSk hsame O=>?_
    have z6:=B.size;have w16:∀i,aQ h6 (adr ⟨h.size,0,none⟩ i)=(#[.int .u64 x.k0,.int .u64 x.k1,.int .u64 x.mask,.pointer w,.string p.1,.int .u64 (lx x p.1)]:Array Value)[i]?:=fun i=>by
     rw[bC,aV (B.get (f.get0 (k2.get0 b1)) fun g=>by have:=M _ (I c _ g).1;omega),aC]
    have Z:Upd (T c) j h6:=f.wide.tr B;by_cases H:p∈l
    ·have O:ch=false:=by rw[O,decide_eq_true (hmp.2 H)];rfl
     have C:bK l p.1=true:=bH.2 ⟨p,H,decide_eq_true rfl⟩;rw[C]at hk;rw[O];refine aA.2 ?_;obtain⟨_,k56⟩:=hsame O;have Z:=f.tr k56;exact hk h6 b false S (u.tr Z).wide (by rw[xu hr H];exact tt Z) (fun y g=>⟨.inl g,by have:=M y g;omega⟩) (fun _=>⟨rfl,u.tr Z⟩) (by rw[decide_eq_true H];rfl)
    ·have O:ch=true:=by rw[O,decide_eq_false fun h=>H (hmp.1 h)];rfl
     rw[O];refine ak.2 ⟨w,w16 3,?_⟩;have by6:=P.updS B fun a e C=>hwS a e (I c _ C).1
     have nd6:NodeO o W h6 b s S0:=Y.imp (fun n=>⟨n.1.upd B fun y g=>.inl (E y (I c y g).1),n.2⟩) fun⟨e,d,n,sp,sk,on⟩=>⟨e,d,n,sp,sk,on.upd B fun y g=>(I c y g).2⟩
     refine p4 nd6 by6 L hi (fun _ _=>hsp) ⟨b6,0,none⟩ fun h7 b7 d7 n7 sp7 sk7 on7 hu7=>?_
     have:=turn (T':=Sk) Z on7 hu7 (fun c' D=>⟨ep D,ep D⟩) (.inr (.inr ⟨bp h2l (CC p),eJ,b6,eJ,t6⟩)) (fun y g=>⟨(hSk y g).1.imp id fun h=>by omega,(hSk y g).2⟩) H
     rw[htp];exact this
end Go.Proofs
namespace Go.Proofs
open Go Go.Lift
theorem GA{W S:Nat→Prop}{h:ae}{w o:Option Addr}{b:Nat}{l:List Pr}(v:BuckO o W h b l S)(t:By h w o)(N:∀a,o=some a→W a.block)(J:cq l)(s:l.length≤1000000000)(k:ByteArray){K:Option Addr→ae→Prop}
  (F:∀h' b' sp sk,OwnB (fun y=>S y∨h.size≤y) h' b' sp sk (lr k l) o→Upd S h h'→K (some ⟨b',0,none⟩) h'):
  HC PG lO [.pointer (some ⟨b,0,none⟩),.pointer w,.string k] [.c .ptr] K h:=by
 refine vT _ w k ?_;unfold pO bL cZ qu qL;obtain⟨sp,sk,ow,D,H,O,M,E⟩:=(v.read t).ex;refine gI (d:=0) (n:=0) D (ak.2 ?_);refine Ct v t N s fun P p I u G j=>?_
 obtain⟨b2,hM,A,B,z,Q,X,c⟩:=G;refine⟨_,rfl,I,cV (i:=2) b2,?_⟩;refine Cr (z.sl (W:=No) fun _ _ _ h=>h) z.cap J s k fun q C m f=>?_
 have b3:=f.get0 b2;refine⟨_,rfl,IE (i:=2) b3 (show 2<6 by decide),zg (i:=2) (c':=dR 0 0 q u true o) b3 rfl fun L T g=>?_⟩
 have V:=aG b2;have R:=j.size;have U:=f.size;have Y:=g.size;refine F L p q u ⟨T,hM,fun x=>P.size≤x∧x<C.size,B,m.within.upd g fun x hx e=>?_,(Q.upd f fun _ _ h=>h).upd g fun x hx e=>(c x hx).2.1 e,fun x hx=>⟨.inr (by omega),by omega,by omega⟩,fun x hx=>⟨(c x hx).1,(c x hx).2.1,by have:=(c x hx).2.2;omega⟩⟩ (((j.tr f).wide).trans g fun x hx=>?_)
 ·have e:x=p:=e
  have:=hx.1;omega
 ·have hx:x=p:=hx
  rw[hx];exact hM
set_option maxHeartbeats 2000000 in
theorem Bp{W:Nat→Prop}{x:Hs}{w o:Option Addr}:∀(m:Nat),m≤13→∀{b:Nat} {l:List Pr} {S:Nat→Prop} (k:ByteArray) {h:ae},TrieO o W x h m b l S→By h w o→(∀y,W y→y<h.size)→(∀y,S y→W y)→(∀a,o=some a→W a.block)→(∀a,w=some a→¬S a.block)→cq l→l.length≤1000000→∀{K:(Option Addr)×Bool→ae→Prop},
  (∀B b' S',Upd S h B→TrieO o (fun y=>W y∨S' y) x B m b' (lr k l) S'→(∀y,S' y→(S y∨h.size≤y)∧y<B.size)→(bK l k=false→b'=b∧Upd No h B)→K (some ⟨b',0,none⟩,bK l k) B)→
  HC PG iv [GR x w k,.pointer (some ⟨b,0,none⟩),.int .i64 ((13-m:Nat):Int)] [.c .ptr,.c .bool] K h:=by
 intro m;induction m with
 |zero=>
  intro _ b l S k h t by_ hW j I hwS hr hn K X;have R:∀y,S y→y<h.size:=fun y f=>hW y (j y f)
  refine oB (x.k0,x.k1,x.mask,w,k,lx x k) (some ⟨b,0,none⟩) ((13-0:Nat):Int) ?_;unfold kX ag ay aD nv qt pq xi tW GJ sE AB AX pW l9 xJ;refine bi fun F b1 k1=>?_
  have bk:BuckO o W F b l S:=BuckO.upd0 t k1;have O:=by_.upd0 k1;have bkr:=bk.read O;obtain⟨sp,sk,ow,hb,_⟩:=bkr.ex;refine gI (d:=0) (n:=0) hb (aA.2 ⟨_,vc b1 4,JE bkr hr (by omega) k fun Y v H hv=>?_⟩)
  have b3:=H.get0 b1;have M:=k1.tr H;have z03:=M.size;cases i:bK l k with
  |false=>
   rw[i]at X;refine aA.2 (X Y b S M.wide (by rw[td (xM i)];exact(BuckO.upd0 t M).imp (fun n=>⟨n.1.less fun y f=>.inl (f.elim id (j y)),n.2⟩) id) (fun y f=>⟨.inl f,by have:=R y f;omega⟩) fun _=>⟨rfl,M⟩)
  |true=>
   rw[i]at X;refine ak.2 ⟨w,vc b3 3,_,vc b3 4,?_⟩;refine GA (bk.upd0 H) (O.upd0 H) I hr (by omega) k fun h5 b5 sp5 sk5 on5 U=>?_
   have z5:=U.size;have hS0:o=none→∀y,¬S y:=fun e y f=>by
    rcases t with⟨_,h⟩|⟨h,_⟩
    ·exact h y f
    ·rw[e]at h;cases h
   exact X h5 b5 _ (M.wide.tr U) (rM (W:=fun y=>W y∨(o.isSome=true∧(S y∨Y.size≤y)∧y<h5.size)) on5 fun e=>⟨hS0 e,fun y f=>f.elim (fun h=>by have:=hW y h;omega) fun h=>by rw[e]at h;cases h.1⟩) (fun y f=>⟨f.2.1.imp id fun h=>by omega,f.2.2⟩) (fun h=>by cases h)
 |succ m ih=>
  intro hm b l S k h t by_ hW j I hwS hr hn K X;have gW:∀{B},Upd No h B→∀y,W y→y<B.size:=fun k y f=>bv (hW y f) k.size
  have R:∀y,S y→y<h.size:=fun y f=>hW y (j y f)
  have hl:13-(m+1)<13:=by omega
  have hlev:13-(m+1)=12-m:=by omega
  refine oB (x.k0,x.k1,x.mask,w,k,lx x k) (some ⟨b,0,none⟩) ((13-(m+1):Nat):Int) ?_;unfold kX ag ay aD nv qt pq xi tW GJ sE AB AX pW l9 xJ;refine bi fun F b1 k1=>?_
  have z1:=aG b1;have O:=by_.upd0 k1;have hno:o=none→∀y,¬S y:=fun e=>by subst e;exact t.off.2
  obtain⟨s,S0,T,nd0,h0,C,hd,hs⟩:=(TrieO.upd0 k1 t).view;have ndr:=nd0.read O;obtain⟨d,n,sp,sk,ow,hb,_⟩:=ndr.ex;refine gI hb (ak.2 ⟨_,vc b1 5,Jm hl ?_⟩);rw[hlev];have hi:=wJ x (12-m) k;have hsi:=hs _ hi;have N:bK (part x (12-m) (ck x (12-m) k) l) k=bK l k:=xL;have hrp:cq (part x (12-m) (ck x (12-m) k) l):=p8 hr;have hnp:(part x (12-m) (ck x (12-m) k) l).length≤1000000:=bp mc hn
  have G:∀y,S y→y<F.size:=fun y f=>by have:=R y f;omega
  have turn:∀{hz B:ae} {b' d n:Nat} {sp sk:SliceV} {s':Slots} {T':Nat→Prop},Upd (T (ck x (12-m) k)) F hz→OwnN (fun y=>S0 y∨hz.size≤y) B b' d n sp sk s' o→Upd S0 hz B→(∀c,c≠ck x (12-m) k→s'.p c=s.p c∧s'.k c=s.k c)→
    SlotO o (fun y=>W y∨T' y) x hz m s' (ck x (12-m) k) (lr k (part x (12-m) (ck x (12-m) k) l)) T'→(∀y,T' y→(T (ck x (12-m) k) y∨F.size≤y)∧y<hz.size)→bK l k=true→
    K (some ⟨b',0,none⟩,bK l k) B:=fun{hz B b' d n sp sk s' T'} ku on ku2 hp hslot J hth=>by
   have zz:=ku.size;have zz':=ku2.size;have hT0:∀y,T' y→¬S0 y∧∀c,c≠ck x (12-m) k→¬T c y:=fun y f=>by
    rcases(J y f).1 with h|h
    ·exact⟨(C _ y h).2,fun c hc i=>hc (hd _ _ y i h)⟩
    ·exact⟨fun hs=>by have:=G y (h0 y hs);omega,fun c _ i=>by have:=G y (C c y i).1;omega⟩
   refine X B b' _ ((k1.wide.tr (ku.mono fun y f=>.inl (C _ y f).1)).tr (ku2.mono fun y f=>.inl (h0 y f))) (sF (W:=W) (W1:=fun y=>W y∨T' y) (T:=T) (T':=T') (c0:=ck x (12-m) k) (s:=s) (hz:=hz) on ku2 (fun c hc hcc=>?_) hp ?_ (fun y f=>.inl f) (fun y f=>.inl (j y (h0 y f))) (fun c y f=>.inl (j y (C c y f).1)) (fun y f=>.inr f) (fun c y f=>⟨by have:=G y (C c y f).1;omega,(C c y f).2⟩) (fun y f=>⟨(J y f).2,hT0 y f⟩) hd fun e=>⟨fun y f=>hno e y (h0 y f),fun y f=>f.elim (fun h=>by have:=hW y h;omega) fun h=>(J y h).2⟩) (fun y f=>?_) (fun h=>by rw[hth]at h;cases h)
   ·rw[F9 hcc]
    refine((hs c hc).less (W':=fun y=>W y∨T' y) fun y f=>f.elim .inl fun h=>(J y h).1.imp (fun h=>j y (C _ y h).1) id).upd ku (fun y f=>G y (C c y f).1) fun y f=>.inl ⟨.inl (j y (C _ y f).1),fun h=>hcc (hd _ _ y h f)⟩
   ·rw[Cn];exact hslot
   ·have:=Ev (S:=S) (z0:=h.size) h0 (fun c y f=>⟨(C c y f).1,by have:=G y (C c y f).1;omega⟩) (fun y f=>⟨(J y f).1.imp (fun h=>(C _ y h).1) fun h=>by omega,by have:=(J y f).2;omega⟩) (by omega) f
    exact this
  have same:∀{B:ae},Upd No F B→bK l k=false→K (some ⟨b,0,none⟩,false) B:=fun{B} hu i=>by
   have z:=hu.size;have:=X _ b S (k1.tr hu).wide (by rw[td (xM i)];exact(TrieO.upd0 (k1.tr hu) t).less fun y f=>.inl (f.elim id (j y))) (fun y f=>⟨.inl f,by have:=G y f;omega⟩) fun _=>⟨rfl,k1.tr hu⟩
   rw[i]at this;exact this
  clear X;generalize hc:ck x (12-m) k=c at*;generalize hlc:part x (12-m) c l=lc at*;refine Cx ndr hi fun Y H=>?_
  refine bi fun h4 b4 k4=>?_
  have b4':h4[Y.size]? =some (.cells #[.string BJ.1,.string BJ.2] al (0,0)):=b4;refine wB (p:=HG (s.p c)) b4' fun h5 b5 U=>?_
  have g:Upd No F h5:=(H.tr k4).own U H.size;have z15:=g.size;have c1:=g.get0 b1;have Z:=nd0.upd0 g;have V:=O.upd0 g;cases hsp:s.p c with
  |some y=>
   rw[hsp]at b5;obtain⟨L,hk0⟩:lc= [y]∧s.k c=none:=by
    rcases hsi with⟨_,u,_⟩|⟨q,F,u,Y,_⟩|⟨_,u,_⟩
    ·rw[hsp]at u;cases u
    ·rw[hsp]at u;cases u;exact⟨F,Y⟩
    ·rw[hsp]at u;cases u
   refine aA.2 ⟨y.1,vc b5 0,k,vc c1 4,?_⟩;rw[jP];by_cases e1:y.1=k
   ·have i:bK l k=true:=by rw[←N,L];exact bH.2 ⟨y,ai.2 rfl,decide_eq_true e1⟩
    rw[decide_eq_true e1];refine ak.2 ⟨w,vc c1 3,Gt Z V I hi fun h6 b6 d6 n6 sp6 sk6 on6 E=>?_⟩
    have:=turn (T':=No) g.wide on6 E (fun c' D=>⟨ep D,ep D⟩) (.inl ⟨by rw[L,rJ,if_pos e1];rfl,eJ,eJ,fun _ h=>h⟩) (fun _ h=>h.elim) i
    rw[i]at this;exact this
   ·rw[decide_eq_false e1]
    have i:bK l k=false:=by
     rw[←N,L];unfold bK;rw[l7,decide_eq_false e1];rfl
    exact aA.2 (same g i)
  |none=>
   refine ak.2 (Fa (Z.read V) hi ?_);cases hsk:s.k c with
   |none=>
    have hlc0:lc= []:=by
     rcases hsi with⟨F,_⟩|⟨q,_,u,_⟩|⟨_,_,kb,u,_⟩
     ·exact F
     ·rw[hsp]at u;cases u
     ·rw[hsk]at u;cases u
    exact aA.2 (same g (by rw[←N,hlc0];rfl))
   |some kp=>
    obtain⟨h2l,kb,rfl,tk⟩:2≤lc.length∧∃kb,kp=some ⟨kb,0,none⟩∧TrieO o W x F m kb lc (T c):=by
     rcases hsi with⟨_,_,u,_⟩|⟨q,_,u,_⟩|⟨F,_,kb,u,Y⟩
     ·rw[hsk]at u;cases u
     ·rw[hsp]at u;cases u
     ·rw[hsk]at u;cases u;exact⟨F,kb,rfl,Y⟩
    refine ak.2 ⟨_,vc c1 0,_,vc c1 1,_,vc c1 2,_,vc c1 3,_,vc c1 4,_,vc c1 5,?_⟩;have ew:IntKind.wrap .i64 (((12-m:Nat):Int)+1)=((13-m:Nat):Int):=by rw[nT (by omega)];omega
    rw[ew];refine ih (by omega) k (TrieO.upd0 g tk) V (gW (k1.tr g)) (fun y f=>j y (C c y f).1) I (fun a e i=>hwS a e (C c _ i).1) hrp hnp fun h6 b6 Sk E t6 hSk hsame=>?_
    have z6:=E.size;rw[N];cases i:bK l k with
    |false=>exact aA.2 (same (g.tr (hsame (by rw[N,i])).2) i)
    |true=>
     have k16:Upd (T c) F h6:=g.wide.tr E;have by6:=V.updS E fun a e i=>hwS a e (C c _ i).1
     have c6:=E.get c1 fun f=>by have:=R _ (C c _ f).1;omega
     have nd6:NodeO o W h6 b s S0:=Z.imp (fun n=>⟨n.1.upd E fun y f=>.inl (j y (C c y f).1),n.2⟩) fun⟨e,d,n,sp,sk,on⟩=>⟨e,d,n,sp,sk,on.upd E fun y f=>(C c y f).2⟩
     have hdl:=Fp (k:=k) hrp;have hdn:(lr k lc).length≤1000000:=bp H9 hnp;refine ak.2 (It (t6.read by6) hdn fun h7 p hu7 hp=>?_)
     refine bi fun h8 b8 k8=>?_
     have b8':h8[h7.size]? =some (.cells #[.string BJ.1,.string BJ.2] al (0,0)):=b8;refine wB (p:=p) b8' fun h9 b9 hu9=>?_
     have A:Upd No h6 h9:=(hu7.tr k8).own hu9 hu7.size;have z69:=A.size;have c9:=A.get0 c6;have nd9:=nd6.upd0 A;have by9:=by6.upd0 A;have k19:Upd (T c) F h9:=k16.tr A.wide;refine bf (fun e=>?_) fun e=>?_
     ·refine⟨w,vc c9 3,p.1,vc b9 0,p.2,vc b9 1,ma nd9 by9 I (fun y f=>by have:=G y (h0 y f);omega) hi (fun y f=>by rw[hsp]at f;cases f) p fun h10 b10 d10 n10 sp10 sk10 P Q=>?_⟩
      have:=turn (T':=No) k19 P Q (fun c' D=>⟨ep D,ep D⟩) (.inr (.inl ⟨p,hp e,eJ,eJ,fun _ h=>h⟩)) (fun _ h=>h.elim) i
      rw[i]at this;exact this
     ·refine⟨w,vc c9 3,p4 nd9 by9 I hi (fun _ _=>hsp) ⟨b6,0,none⟩ fun h10 b10 d10 n10 sp10 sk10 P Q=>?_⟩
      have:=turn (T':=Sk) k19 P Q (fun c' D=>⟨ep D,ep D⟩) (.inr (.inr ⟨by omega,eJ,b6,eJ,TrieO.upd0 A t6⟩)) (fun y f=>⟨(hSk y f).1.imp id fun h=>by omega,by have:=(hSk y f).2;omega⟩) i
      rw[i]at this;exact this
end Go.Proofs
namespace Go.Proofs
open Go Go.Lift
theorem zJ{h:ae}{b:Nat}{K:Option Addr→ae→Prop}(a:K (some ⟨b,0,none⟩) h):HC PG jm [.pointer (some ⟨b,0,none⟩)] [.c .ptr] K h:=by
 refine BG _ ?_;unfold uT;exact ak.2 a
theorem ww{h:ae}{b:Nat}{K:Option Addr→ae→Prop}(a:K (some ⟨b,0,none⟩) h):HC PG mW [.pointer (some ⟨b,0,none⟩)] [.c .ptr] K h:=by
 refine BA _ ?_;unfold uN;exact ak.2 a
structure Can(o w:Option Addr)(W S:Nat→Prop)(h:ae):Prop where
 by_:By h w o
 lt:∀y,W y→y<h.size
 sub:∀y,S y→W y
 tok:∀a,o=some a→W a.block
 off:∀a,w=some a→¬S a.block
theorem Can.upd0{o w:Option Addr}{W S:Nat→Prop}{h a:ae}(c:Can o w W S h)(k:Upd No h a):Can o w W S a:=⟨c.by_.upd0 k,fun y b=>bv (c.lt y b) k.size,c.sub,c.tok,c.off⟩
theorem Bo{o w:Option Addr}{W S:Nat→Prop}{x:Hs}{h:ae}{b:Nat}{l:List Pr}(t:TrieO o W x h 13 b l S)(c:Can o w W S h)(hr:cq l)(Z:l.length≤1000000)(p:Pr){K:Option Addr×Bool→ae→Prop}
  (X:∀h' b' S',Upd S h h'→TrieO o (fun y=>W y∨S' y) x h' 13 b' (ic p l) S'→(∀y,S' y→(S y∨h.size≤y)∧y<h'.size)→K (some ⟨b',0,none⟩, !bK l p.1) h'):
  HC PG rk [.agg #[.int .u64 x.k0,.int .u64 x.k1,.int .u64 x.mask],.pointer w,.pointer (some ⟨b,0,none⟩),.agg #[.string p.1,.string p.2]] [.c .ptr,.c .bool] K h:=by
 refine C4 (x.k0,x.k1,x.mask) w (some ⟨b,0,none⟩) p ?_;unfold wW ag ay aD fH BL AD pq tW JL JR sE;refine bi fun E b1 k1=>bi fun B b2 Q=>?_
 have d:∀{h':ae},Upd No B h'→∀i,aQ h' (adr ⟨h.size,0,none⟩ i)=(#[.int .u64 x.k0,.int .u64 x.k1,.int .u64 x.mask]:Array Value)[i]?:=fun k i=>vc (k.get0 (Q.get0 b1)) i
 have q:∀{h':ae},Upd No B h'→∀i,aQ h' (adr ⟨E.size,0,none⟩ i)=(#[.string p.1,.string p.2]:Array Value)[i]?:=fun k i=>vc (k.get0 b2) i
 have z:=Upd.refl No B;have J:=k1.tr Q;let H:List Value:= [.int .u64 x.k0,.int .u64 x.k1,.int .u64 x.mask,.pointer w,.string p.1,.int .u64 (lx x p.1)]
 have fin:∀{f:ae} {j:Nat},Upd No B f→f[j]? =some (.cells H.toArray iW (0,0))→
   ∃v15:Int,aQ f (adr ⟨j,0,none⟩ 0)=some (.int .u64 v15)∧
    ∃v16:Int,aQ f (adr ⟨j,0,none⟩ 1)=some (.int .u64 v16)∧
    ∃v17:Int,aQ f (adr ⟨j,0,none⟩ 2)=some (.int .u64 v17)∧
    ∃v18:Option Addr,aQ f (adr ⟨j,0,none⟩ 3)=some (.pointer v18)∧
    ∃v19:ByteArray,aQ f (adr ⟨j,0,none⟩ 4)=some (.string v19)∧
    ∃v20:Int,aQ f (adr ⟨j,0,none⟩ 5)=some (.int .u64 v20)∧
    ∃v21:ByteArray,aQ f (adr ⟨E.size,0,none⟩ 0)=some (.string v21)∧
    ∃v22:ByteArray,aQ f (adr ⟨E.size,0,none⟩ 1)=some (.string v22)∧
    HC PG jm [.pointer (some ⟨b,0,none⟩)] [.c .ptr] (fun(M:Option Addr) e=>
     ((aQ e (adr ⟨E.size,0,none⟩ 0)=some (.string v21)∧aQ e (adr ⟨E.size,0,none⟩ 1)=some (.string v22))∧
      ((aQ e (adr ⟨j,0,none⟩ 0)=some (.int .u64 v15)∧aQ e (adr ⟨j,0,none⟩ 1)=some (.int .u64 v16)∧aQ e (adr ⟨j,0,none⟩ 2)=some (.int .u64 v17)∧aQ e (adr ⟨j,0,none⟩ 3)=some (.pointer v18)∧aQ e (adr ⟨j,0,none⟩ 4)=some (.string v19)∧aQ e (adr ⟨j,0,none⟩ 5)=some (.int .u64 v20))∧
       HC PG fI [.agg #[.int .u64 v15,.int .u64 v16,.int .u64 v17,.pointer v18,.string v19,.int .u64 v20],.pointer M,.agg #[.string v21,.string v22],.int .i64 0] [.c .ptr,.c .bool,.c .bool] (fun(C:(Option Addr)×Bool×Bool) O=>
        K (C.1,C.2.1) O) e))) f:=fun{f j} a N=>by
  have n:∀i,aQ f (adr ⟨j,0,none⟩ i)=H.toArray[i]?:=fun i=>vc N i
  refine⟨_,n 0,_,n 1,_,n 2,_,n 3,_,n 4,_,n 5,p.1,q a 0,p.2,q a 1,zJ ?_⟩;refine⟨⟨q a 0,q a 1⟩,⟨n 0,n 1,n 2,n 3,n 4,n 5⟩,?_⟩;have v:=J.tr a;have F:=c.upd0 v;have z4:=v.size;exact I3 13 (aw _) p (TrieO.upd0 v t) F.by_ F.lt F.sub F.tok F.off hr Z fun R L ch S6 A t6 D _ _=>X R L S6 (v.wide.tr A) t6 fun y G=>⟨(D y G).1.imp id fun h=>by omega,(D y G).2⟩
 have own:∀{I f:ae} {b:Nat},B.size≤b→Upd (· =b) I f→Upd No B I→Upd No B f:=fun V T k=>k.trans T fun y G=>.inr (G▸V)
 refine⟨_,d z 0,_,d z 1,_,d z 2,_,q z 0,_,d z 0,_,d z 1,_,d z 2,_,q z 0,?_,?_⟩
 ·refine xx fun I m=>⟨q m 0,⟨d m 0,d m 1,d m 2⟩,?_⟩
  refine bi fun f P s=>?_
  have a:=m.tr s;refine⟨q a 0,⟨d a 0,d a 1,d a 2⟩,?_⟩;refine dy (vs:=H) P rfl fun U Y u=>fin (own m.size u a) Y
 ·refine bi fun f P s=>?_
  refine⟨q s 0,⟨d s 0,d s 1,d s 2⟩,q s 0,⟨d s 0,d s 1,d s 2⟩,?_⟩;refine xx fun U u=>?_
  have g:=s.tr u;refine⟨q g 0,⟨d g 0,d g 1,d g 2⟩,?_⟩;exact dy (vs:=H) (u.get0 P) rfl fun R L A=>fin (own (aw _) A g) L
theorem zl{o w:Option Addr}{W S:Nat→Prop}{x:Hs}{h:ae}{b:Nat}{l:List Pr}(t:TrieO o W x h 13 b l S)(c:Can o w W S h)(q:cq l)(p:l.length≤1000000)(k:ByteArray){K:Option Addr×Bool→ae→Prop}
  (n:∀h' b' S',Upd S h h'→TrieO o (fun y=>W y∨S' y) x h' 13 b' (lr k l) S'→(∀y,S' y→(S y∨h.size≤y)∧y<h'.size)→(bK l k=false→b'=b)→K (some ⟨b',0,none⟩,bK l k) h'):
  HC PG qi [.agg #[.int .u64 x.k0,.int .u64 x.k1,.int .u64 x.mask],.pointer w,.pointer (some ⟨b,0,none⟩),.string k] [.c .ptr,.c .bool] K h:=by
 refine BH (x.k0,x.k1,x.mask) w (some ⟨b,0,none⟩) k ?_;unfold uU ag BL AD sE;refine bi fun D b1 k1=>zJ ?_
 refine⟨_,vc b1 0,_,vc b1 1,_,vc b1 2,_,vc b1 0,_,vc b1 1,_,vc b1 2,?_⟩;refine xx fun B e=>?_
 have i:=e.get0 b1;refine⟨⟨vc i 0,vc i 1,vc i 2⟩,?_⟩;have a:=k1.tr e;have d:=c.upd0 a;have C:=a.size;exact Bp 13 (aw _) k (TrieO.upd0 a t) d.by_ d.lt d.sub d.tok d.off q p fun s A v j u f g=>n s A v (a.wide.tr j) u (fun y m=>⟨(f y m).1.imp id fun h=>by omega,(f y m).2⟩) fun z=>(g z).1
def RadO(o:Option Addr)(W:Nat→Prop)(h:ae)(b:Nat)(l:List Pr)(S:Nat→Prop):Prop:=∃w F,RxO o W h b ⟨#[]⟩ w F S∧dS F∧∀k v,(k,v)∈ll w F↔∃p∈l,p.1.data.toList=k∧p.2=v
theorem AP{o w:Option Addr}{W S:Nat→Prop}{h:ae}{b:Nat}{l:List Pr}(t:RadO o W h b l S)(c:Can o w W S h)(m:cq l)(p:Pr)(I:p.1.size≤1000000){K:Option Addr×Bool→ae→Prop}
  (A:∀h' b' S' a,Upd S h h'→RadO o (fun y=>W y∨S' y) h' b' (ic p l) S'→(∀y,S' y→(S y∨h.size≤y)∧y<h'.size)→K (some ⟨b',0,none⟩,a) h'):
  HC PG rh [.pointer w,.pointer (some ⟨b,0,none⟩),.agg #[.string p.1,.string p.2]] [.c .ptr,.c .bool] K h:=by
 refine CZ w (some ⟨b,0,none⟩) p ?_;unfold wR aD tW GW;refine bi fun L b1 k1=>?_
 refine⟨p.1,vc b1 0,p.2,vc b1 1,ww ⟨vc b1 1,vc b1 0,?_⟩⟩;obtain⟨w0,F,E,D,B⟩:=t;have i:=c.upd0 k1;have J:=k1.size;refine FT (p.1.size+1) p.1 p.2 (by omega) I (E.upd0 k1) i.by_ i.lt i.sub i.tok i.off D fun z b3 w' F' H a M s n f u j G C=>?_
 refine A z b3 H a (k1.wide.tr s) ⟨w',F',n,u,fun k v=>?_⟩ fun y x=>⟨(f y x).1.imp id fun h=>by omega,(f y x).2⟩
 rw[kJ,j k v,←kJ,B k v];constructor
 ·rintro(⟨rfl,rfl⟩|⟨d,q,g,rfl,rfl⟩)
  ·exact⟨p,(oa m).2 (.inl rfl),rfl,rfl⟩
  ·exact⟨q,(oa m).2 (.inr ⟨g,fun e=>d (by rw[e])⟩),rfl,rfl⟩
 ·rintro⟨q,g,rfl,rfl⟩
  rcases(oa m).1 g with rfl|⟨g,d⟩
  ·exact .inl ⟨rfl,rfl⟩
  ·exact .inr ⟨fun e=>d (qj.1 e),q,g,rfl,rfl⟩
theorem Dx{w:Option ByteArray}{F:Fo}{l:List Pr}(h:∀k v,(k,v)∈ll w F↔∃p∈l,p.1.data.toList=k∧p.2=v)(a:Fit l):∀j v,l6 F j v→j.length≤1000000:=fun j v hi=>by
 obtain⟨p,b,e,_⟩:=(h j v).1 (kJ.2 (.inr hi));have:=(a p b).1;rw[←e,iX];omega
theorem y9{o w:Option Addr}{W S:Nat→Prop}{h:ae}{b:Nat}{l:List Pr}(t:RadO o W h b l S)(c:Can o w W S h)(M:Fit l)(k:ByteArray){K:Option Addr×Bool→ae→Prop}
  (G:∀h' b' S',Upd S h h'→RadO o (fun y=>W y∨S' y) h' b' (lr k l) S'→(∀y,S' y→(S y∨h.size≤y)∧y<h'.size)→(bK l k=false→b'=b)→K (some ⟨b',0,none⟩,bK l k) h'):
  HC PG qh [.pointer w,.pointer (some ⟨b,0,none⟩),.string k] [.c .ptr,.c .bool] K h:=by
 refine BB w (some ⟨b,0,none⟩) k ?_;unfold uO GJ;refine ww ?_;obtain⟨w0,F,I,H,u⟩:=t;refine FV (k.size+1) k (by omega) I c.by_ c.lt c.sub c.tok c.off H (Dx u M) fun D b3 w' F' L a z x n A B i m=>?_
 have g:∀v,mD w0 F k.data.toList v↔(k,v)∈l:=fun v=>by
  rw[←kJ,u];constructor
  ·rintro⟨p,C,E,rfl⟩
   rw[←qj.1 E];exact C
  ·intro C;exact⟨_,C,rfl,rfl⟩
 have s:a=bK l k:=by
  cases a with
  |false=>
   refine(Cv fun q f e=>(i rfl).2.2.2.2 q.2 ((g _).2 ?_)).symm
   rw[←e];exact f
  |true=>
   obtain⟨v,hv⟩:=m rfl;exact(bH.2 ⟨_,(g v).1 hv,decide_eq_true rfl⟩).symm
 subst s;refine G D b3 L z ⟨w',F',x,A,fun j v=>?_⟩ n fun J=>(i J).1
 rw[kJ,B j v,←kJ,u];constructor
 ·rintro⟨d,q,f,rfl,rfl⟩
  exact⟨q,xr.2 ⟨f,fun e=>d (by rw[e])⟩,rfl,rfl⟩
 ·rintro⟨q,f,rfl,rfl⟩
  obtain⟨f,d⟩:=xr.1 f;exact⟨fun e=>d (qj.1 e),q,f,rfl,rfl⟩
end Go.Proofs
namespace Go.Proofs
open Go Go.Lift
def AO(p:Pr):Int:=if 256<p.1.size then 2 else if 4096<p.2.size then 3 else 0
theorem FY{p:Pr}(h:AO p=0):p.1.size≤256∧p.2.size≤4096:=by
 unfold AO at h;split at h
 ·cases h
 ·split at h
  ·cases h
  ·omega
theorem E7{p:Pr}{h:ae}{K:Int→ae→Prop}(a:K (AO p) h):HC PG mY [.string p.1,.string p.2] [.c (.int .i64)] K h:=by
 refine BD p.1 p.2 ?_;unfold uQ;unfold AO at a;refine bf (fun e=>?_) fun e=>bf (fun e'=>?_) fun e'=>?_
 ·rw[if_pos (by omega)]at a;exact a
 ·rw[if_neg (by omega),if_pos (by omega)]at a;exact a
 ·rw[if_neg (by omega),if_neg (by omega)]at a;exact a
end Go.Proofs
namespace Go.Proofs
open Go Go.Lift
def Bi(l:List Pr)(k:ByteArray):Int:=if 256<k.size then 2 else if bK l k then 0 else 4
def lw(l:List Pr)(p:Pr):List Pr:=if AO p=0 then ic p l else l
def nn(l:List Pr)(k:ByteArray):List Pr:=if 256<k.size then l else lr k l
theorem RadO.upd{o:Option Addr}{W M S:Nat→Prop}{h a:ae}{b:Nat}{l:List Pr}(k:Upd M h a)(t:RadO o W h b l S)(d:∀y,S y→y<h.size)(hm:∀y,M y→(W y∧¬S y)∨h.size≤y):RadO o W a b l S:=let⟨w,F,r,c,e⟩:=t;⟨w,F,r.upd k d hm,c,e⟩
theorem RadO.less{o:Option Addr}{W W' S:Nat→Prop}{h:ae}{b:Nat}{l:List Pr}(hm:∀y,W' y→W y∨h.size≤y)(t:RadO o W h b l S):RadO o W' h b l S:=let⟨w,F,r,c,e⟩:=t;⟨w,F,r.less hm,c,e⟩
def TreeO(o:Option Addr)(W:Nat→Prop)(h:ae)(a:Int)(x:Hs)(t:Tr)(l:List Pr)(S:Nat→Prop):Prop:=(a=0∧∃b,t=(0,x.k0,x.k1,x.mask,some ⟨b,0,none⟩,none)∧TrieO o W x h 13 b l S)∨(a=1∧∃b,t=(1,0,0,0,none,some ⟨b,0,none⟩)∧RadO o W h b l S)
theorem qM{o:Option Addr}{W:Nat→Prop}{h:ae}{a:Int}{x:Hs}{t:Tr}{l:List Pr}(i:TreeIs W h a x t l):TreeO o W h a x t l No:=
 i.imp (fun⟨e,b,c,t⟩=>⟨e,b,c,BV t⟩) fun⟨e,b,c,t⟩=>⟨e,b,c,let⟨w,F,g,d,f⟩:=t.ex;⟨w,F,.inl ⟨g,fun _ h=>h⟩,d,f⟩⟩
theorem TreeO.upd{o:Option Addr}{W M S:Nat→Prop}{h d:ae}{a:Int}{x:Hs}{t:Tr}{l:List Pr}(k:Upd M h d)(i:TreeO o W h a x t l S)(f:∀y,S y→y<h.size)(hm:∀y,M y→(W y∧¬S y)∨h.size≤y):TreeO o W d a x t l S:=
 i.imp (fun⟨e,b,c,t⟩=>⟨e,b,c,TrieO.upd k t f hm⟩) fun⟨e,b,c,t⟩=>⟨e,b,c,t.upd k f hm⟩
theorem TreeO.upd0{o:Option Addr}{W S:Nat→Prop}{h f:ae}{a:Int}{x:Hs}{t:Tr}{l:List Pr}(k:Upd No h f)(i:TreeO o W h a x t l S):TreeO o W f a x t l S:=
 i.imp (fun⟨e,b,d,t⟩=>⟨e,b,d,TrieO.upd0 k t⟩) fun⟨e,b,d,w,F,r,c⟩=>⟨e,b,d,w,F,r.upd0 k,c⟩
theorem TreeO.less{o:Option Addr}{W W' S:Nat→Prop}{h:ae}(hm:∀b,W' b→W b∨h.size≤b){a:Int}{x:Hs}{t:Tr}{l:List Pr}(i:TreeO o W h a x t l S):TreeO o W' h a x t l S:=
 i.imp (fun⟨e,b,c,t⟩=>⟨e,b,c,TrieO.less hm t⟩) fun⟨e,b,c,t⟩=>⟨e,b,c,t.less hm⟩
theorem TreeO.freeze{o:Option Addr}{W W' S:Nat→Prop}{h:ae}(f:∀y,W' y→W y)(d:OwOk W' h o){a:Int}{x:Hs}{t:Tr}{l:List Pr}(i:TreeO o W h a x t l S)(g:∀y,S y→¬W' y):TreeIs W' h a x t l:=
 i.imp (fun⟨e,b,c,t⟩=>⟨e,b,c,TrieO.freeze f d t g⟩) fun⟨e,b,c,w,F,r,c1,c2⟩=>⟨e,b,c,⟨w,F,r.freeze f d g,c1,c2⟩⟩
theorem TreeO.read{o w:Option Addr}{W S:Nat→Prop}{h:ae}{b:Int}{x:Hs}{t:Tr}{l:List Pr}(i:TreeO o W h b x t l S)(by_:By h w o):TreeIs No h b x t l:=
 i.freeze (fun _ h=>h.elim) (fun a e=>⟨id,by_.plain a (by_.tok e)⟩) fun _ _ h=>h
theorem Can.pro{o w:Option Addr}{W S:Nat→Prop}{h b:ae}(c:Can o w W S h)(k:Upd No h b):Can o w (Pro W h b) S b:=⟨c.by_.upd0 k,Pro.lt c.lt k,fun y d=>.inl (c.sub y d),fun a e=>.inl (c.tok a e),c.off⟩
theorem TreeO.pro{o:Option Addr}{W S:Nat→Prop}{h b:ae}(k:Upd No h b){a:Int}{x:Hs}{t:Tr}{l:List Pr}(i:TreeO o W h a x t l S):TreeO o (Pro W h b) b a x t l S:=(i.less Pro.hm).upd0 k
theorem TreeO.loc{o:Option Addr}{W S d:Nat→Prop}{h f g j:ae}{b:Nat}{a:Int}{x:Hs}{t:Tr}{l:List Pr}(i:TreeO o (fun y=>Pro W h f y∨d y) g a x t l d)(k:Upd (· =b) g j)(m:h.size≤b)(p:b<f.size)(q:∀y,S y→y<h.size)(e:∀y,d y→(S y∨f.size≤y)∧y<g.size):TreeO o (fun y=>Pro W h f y∨d y) j a x t l d:=
 i.upd k (fun y c=>(e y c).2) fun y c=>by
  have c:y=b:=c;subst c;refine .inl ⟨.inl (.inr ⟨m,p⟩),fun n=>?_⟩
  rcases(e y n).1 with h|h
  ·have:=q y h;omega
  ·omega
theorem zH{o w:Option Addr}{W S:Nat→Prop}{x:Hs}{h:ae}{s:Int}{t:Tr}{l:List Pr}(i:TreeO o W h s x t l S)(c:Can o w W S h)(U:cq l)(hn:l.length≤1000000)(p:Pr){K:Tr×Int→ae→Prop}
  (F:∀h' v A,Upd S h h'→TreeO o (fun y=>W y∨A y) h' s x v (lw l p) A→(∀y,A y→(S y∨h.size≤y)∧y<h'.size)→(AO p≠0→v=t)→K (v,AO p) h'):HC PG eM [EX t,.pointer w,.agg #[.string p.1,.string p.2]] [.agg [.int .i64,.int .u64,.int .u64,.int .u64,.ptr,.ptr],.c (.int .i64)] K h:=by
 unfold lw at F;have u:∀y,S y→y<h.size:=fun y a=>c.lt y (c.sub y a)
 refine vM t w p ?_;unfold pH aZ ag dQ ay aD fH AD rB wd oZ pq pU cZ tW;refine bi fun V b1 k1=>bi fun L b2 R=>bi fun O b3 N=>?_
 have z1:=aG b1;have z2:=aG b2;have z3:=aG b3;have s1:h.size≤V.size:=k1.size;have s2:V.size≤L.size:=R.size;have s3:=N.size;have z:=(k1.tr R).tr N;have m:=N.get0 (R.get0 b1);have G:=N.get0 b2;refine⟨_,vc G 0,_,vc G 1,E7 (p:=p) ?_⟩;by_cases e:AO p=0
 ·rw[if_pos e]at F
  have M:=FY e;rw[e]at F⊢;refine ak.2 ?_;have Y:=i.pro z;have X:=c.pro z;have fin:∀{B C:ae} {v:Tr} {A:Nat→Prop},Upd S O B→TreeO o (fun y=>Pro W h O y∨A y) B s x v (ic p l) A→(∀y,A y→(S y∨O.size≤y)∧y<B.size)→C[h.size]? =some (.cells (fA v).toArray az (0,0))→Upd (· =h.size) B C→C[L.size]? =some (.cells (fA xj).toArray az (0,0))→∀{E:ae},E[L.size]? =some (.cells (fA v).toArray az (0,0))→Upd (· =L.size) C E→K (v,0) E:=fun{B C v A} J i4 f k d H {E} j n=>by
   have z4:=J.size;have z5:=d.size;have z6:=n.size;have Z:=i4.loc d (aw _) (by omega) u f;have i6:=Z.loc n (by omega) (by omega) u fun y a=>⟨(f y a).1,by have:=(f y a).2;omega⟩
   refine F E v A (((z.wide.tr J).trans d fun y a=>.inr (by have a:y=h.size:=a;omega)).trans n fun y a=>.inr (by have a:y=L.size:=a;omega)) (i6.less fun y a=>.inl (a.imp .inl id)) (fun y a=>⟨(f y a).1.imp id fun h=>by omega,by have:=(f y a).2;omega⟩) fun h=>absurd rfl h
  rcases Y with⟨rfl,b,rfl,P⟩|⟨rfl,b,rfl,P⟩
  ·refine⟨_,vc m 0,ak.2 ⟨_,qv m 1 0,_,qv m 1 1,_,qv m 1 2,_,vc m 4,p.1,vc G 0,p.2,vc G 1,?_⟩⟩
   refine Bo P X U hn p fun B q S4 g Q f=>?_
   have I:∀{y},h.size≤y→¬S y:=fun a M=>by have:=u _ M;omega
   refine vd (i:=4) (c':=(fA (0,x.k0,x.k1,x.mask,some ⟨q,0,none⟩,none)).toArray) (g.get m (I (aw _))) (show 4<6 by decide) rfl fun C k d=>?_
   refine⟨_,vc k 0,_,vc k 1,_,vc k 2,_,vc k 3,_,vc k 4,_,vc k 5,?_⟩;have H:=d.oth (g.get b3 (I (by omega))) (by omega);refine dy (c:=fA xj) (vs:=fA (0,x.k0,x.k1,x.mask,some ⟨q,0,none⟩,none)) H rfl fun E j n=>?_
   exact⟨_,vc j 0,_,vc j 1,_,vc j 2,_,vc j 3,_,vc j 4,_,vc j 5,fin g (.inl ⟨rfl,q,rfl,Q⟩) f k d H j n⟩
  ·refine⟨_,vc m 0,aA.2 ⟨_,vc m 5,p.1,vc G 0,p.2,vc G 1,?_⟩⟩
   refine AP P X U p (by omega) fun B q S4 T g Q f=>?_
   have I:∀{y},h.size≤y→¬S y:=fun a M=>by have:=u _ M;omega
   refine vd (i:=5) (c':=(fA (1,0,0,0,none,some ⟨q,0,none⟩)).toArray) (g.get m (I (aw _))) (show 5<6 by decide) rfl fun C k d=>?_
   refine⟨_,vc k 0,_,vc k 1,_,vc k 2,_,vc k 3,_,vc k 4,_,vc k 5,?_⟩;have H:=d.oth (g.get b3 (I (by omega))) (by omega);refine dy (c:=fA xj) (vs:=fA (1,0,0,0,none,some ⟨q,0,none⟩)) H rfl fun E j n=>?_
   exact⟨_,vc j 0,_,vc j 1,_,vc j 2,_,vc j 3,_,vc j 4,_,vc j 5,fin g (.inr ⟨rfl,q,rfl,Q⟩) f k d H j n⟩
 ·rw[if_neg e]at F
  rw[show(AO p !=0)=true by simpa using e]
  refine aA.2 ⟨_,vc m 0,_,vc m 1,_,vc m 2,_,vc m 3,_,vc m 4,_,vc m 5,?_⟩;refine dy (c:=fA xj) (vs:=fA t) b3 rfl fun B q g=>?_
  have D:=z.own g (by omega);exact⟨_,vc q 0,_,vc q 1,_,vc q 2,_,vc q 3,_,vc q 4,_,vc q 5,F B t S D.wide ((i.upd0 D).less fun y a=>.inl (a.elim id (c.sub y))) (fun y a=>⟨.inl a,by have:=u y a;have:=D.size;omega⟩) fun _=>rfl⟩
end Go.Proofs
namespace Go.Proofs
open Go Go.Lift
theorem tQ{o w:Option Addr}{W S:Nat→Prop}{x:Hs}{h:ae}{s:Int}{t:Tr}{l:List Pr}(i:TreeO o W h s x t l S)(c:Can o w W S h)(hr:cq l)(hf:Fit l)(hn:l.length≤1000000)(k:ByteArray){K:Tr×Int→ae→Prop}
  (N:∀h' n q,Upd S h h'→TreeO o (fun y=>W y∨q y) h' s x n (nn l k) q→(∀y,q y→(S y∨h.size≤y)∧y<h'.size)→(Bi l k≠0→n=t)→K (n,Bi l k) h'):HC PG fu [EX t,.pointer w,.string k] [.agg [.int .i64,.int .u64,.int .u64,.int .u64,.ptr,.ptr],.c (.int .i64)] K h:=by
 unfold nn Bi at N;have E:∀y,S y→y<h.size:=fun y d=>c.lt y (c.sub y d)
 refine rQ t w k ?_;unfold mO aZ ag dQ ay fH nv AD rB wd oZ pU cZ GJ;refine bi fun j b1 k1=>bi fun G b2 k2=>?_
 have z1:=aG b1;have z2:=aG b2;have s1:h.size≤j.size:=k1.size;have T:=k1.tr k2;have c1:=k2.get0 b1;refine E7 (p:=(k,⟨#[]⟩)) ?_;by_cases e:256<k.size
 ·rw[if_pos e,if_pos e]at N
  rw[show AO (k,(⟨#[]⟩:ByteArray))=2 from if_pos e]
  refine aA.2 ⟨_,vc c1 0,_,vc c1 1,_,vc c1 2,_,vc c1 3,_,vc c1 4,_,vc c1 5,?_⟩;refine dy (c:=fA xj) (vs:=fA t) b2 rfl fun I J F=>?_
  have u:=T.own F s1;exact⟨_,vc J 0,_,vc J 1,_,vc J 2,_,vc J 3,_,vc J 4,_,vc J 5,N I t S u.wide ((i.upd0 u).less fun y d=>.inl (d.elim id (c.sub y))) (fun y d=>⟨.inl d,by have:=E y d;have:=u.size;omega⟩) fun _=>rfl⟩
 rw[if_neg e,if_neg e]at N;rw[show AO (k,(⟨#[]⟩:ByteArray))=0 by unfold AO;rw[if_neg e];exact if_neg (Nat.not_lt.2 (Nat.zero_le 4096))]
 refine ak.2 ?_;refine⟨_,vc c1 0,_,vc c1 1,_,vc c1 2,_,vc c1 3,_,vc c1 4,_,vc c1 5,?_⟩;refine bi fun h3 b3 k3=>?_
 have z3:=aG b3;have s2:j.size≤G.size:=k2.size;refine dy (c:=fA xj) (vs:=fA t) b3 rfl fun I J F=>?_
 have u:Upd No h I:=(T.tr k3).own F (by omega);have X:Upd No G I:=k3.own F (aw _);have s4:h3.size≤I.size:=F.size;have L:=X.get0 c1;have d4:=X.get0 b2;have i4:=i.pro u;have V:=c.pro u;have P:∀{y},h.size≤y→¬S y:=fun d hs=>by have:=E _ hs;omega
 have fin:∀{a:ae} {n:Tr} {q:Nat→Prop},Upd S h a→a[h.size]? =some (.cells (fA n).toArray az (0,0))→a[j.size]? =some (.cells (fA xj).toArray az (0,0))→a[G.size]? =some (.cells (fA t).toArray az (0,0))→TreeO o (fun y=>Pro W h I y∨q y) a s x n (lr k l) q→(∀y,q y→(S y∨I.size≤y)∧y<a.size)→(bK l k=false→n=t)→
   CondP (!bK l k) (∃v41:Int,aQ a (adr (aU G) 0)=some (.int .i64 v41)∧
    ∃v42:Int,aQ a (adr (aU G) 1)=some (.int .u64 v42)∧
    ∃v43:Int,aQ a (adr (aU G) 2)=some (.int .u64 v43)∧
    ∃v44:Int,aQ a (adr (aU G) 3)=some (.int .u64 v44)∧
    ∃v45:Option Addr,aQ a (adr (aU G) 4)=some (.pointer v45)∧
    ∃v46:Option Addr,aQ a (adr (aU G) 5)=some (.pointer v46)∧
    (ph a (some (aU j)) 0 [.int .i64 v41,.int .u64 v42,.int .u64 v43,.int .u64 v44,.pointer v45,.pointer v46]∧
     At (fi a (aU j) 0 [.int .i64 v41,.int .u64 v42,.int .u64 v43,.int .u64 v44,.pointer v45,.pointer v46]) (fun v=>
      ∃v48:Int,aQ v (adr (aU j) 0)=some (.int .i64 v48)∧
      ∃v49:Int,aQ v (adr (aU j) 1)=some (.int .u64 v49)∧
      ∃v50:Int,aQ v (adr (aU j) 2)=some (.int .u64 v50)∧
      ∃v51:Int,aQ v (adr (aU j) 3)=some (.int .u64 v51)∧
      ∃v52:Option Addr,aQ v (adr (aU j) 4)=some (.pointer v52)∧
      ∃v53:Option Addr,aQ v (adr (aU j) 5)=some (.pointer v53)∧
      K ((v48,v49,v50,v51,v52,v53),4) v))) (
    ∃v54:Int,aQ a (adr (aU h) 0)=some (.int .i64 v54)∧
    ∃v55:Int,aQ a (adr (aU h) 1)=some (.int .u64 v55)∧
    ∃v56:Int,aQ a (adr (aU h) 2)=some (.int .u64 v56)∧
    ∃v57:Int,aQ a (adr (aU h) 3)=some (.int .u64 v57)∧
    ∃v58:Option Addr,aQ a (adr (aU h) 4)=some (.pointer v58)∧
    ∃v59:Option Addr,aQ a (adr (aU h) 5)=some (.pointer v59)∧
    (ph a (some (aU j)) 0 [.int .i64 v54,.int .u64 v55,.int .u64 v56,.int .u64 v57,.pointer v58,.pointer v59]∧
     At (fi a (aU j) 0 [.int .i64 v54,.int .u64 v55,.int .u64 v56,.int .u64 v57,.pointer v58,.pointer v59]) (fun B=>
      ∃v61:Int,aQ B (adr (aU j) 0)=some (.int .i64 v61)∧
      ∃v62:Int,aQ B (adr (aU j) 1)=some (.int .u64 v62)∧
      ∃v63:Int,aQ B (adr (aU j) 2)=some (.int .u64 v63)∧
      ∃v64:Int,aQ B (adr (aU j) 3)=some (.int .u64 v64)∧
      ∃v65:Option Addr,aQ B (adr (aU j) 4)=some (.pointer v65)∧
      ∃v66:Option Addr,aQ B (adr (aU j) 5)=some (.pointer v66)∧
      K ((v61,v62,v63,v64,v65,v66),0) B))):=fun{a n q} k6 M Y O Z D m=>by
  have done:∀{H:ae},Upd (· =j.size) a H→(bK l k=false→n=t)→Upd S h H∧TreeO o (fun y=>W y∨q y) H s x n (lr k l) q∧∀y,q y→(S y∨h.size≤y)∧y<H.size:=fun{H} z _=>by
   have z7:=z.size;exact⟨k6.trans z fun y d=>.inr (by have d:y=j.size:=d;omega),(Z.loc z s1 (by omega) E D).less fun y d=>.inl (d.imp .inl id),fun y d=>⟨(D y d).1.imp id fun h=>by omega,by have:=(D y d).2;omega⟩⟩
  cases Q:bK l k with
  |false=>
   rw[Q]at N m done;have hte:=m rfl;subst hte;refine aA.2 ⟨_,vc O 0,_,vc O 1,_,vc O 2,_,vc O 3,_,vc O 4,_,vc O 5,?_⟩;refine dy (c:=fA xj) (vs:=fA n) Y rfl fun H C z=>?_
   refine⟨_,vc C 0,_,vc C 1,_,vc C 2,_,vc C 3,_,vc C 4,_,vc C 5,?_⟩;obtain⟨a1,a2,a3⟩:=done z fun _=>rfl
   exact N H n q a1 a2 a3 fun _=>rfl
  |true=>
   rw[Q]at N m done;refine ak.2 ⟨_,vc M 0,_,vc M 1,_,vc M 2,_,vc M 3,_,vc M 4,_,vc M 5,?_⟩;refine dy (c:=fA xj) (vs:=fA n) Y rfl fun H C z=>?_
   refine⟨_,vc C 0,_,vc C 1,_,vc C 2,_,vc C 3,_,vc C 4,_,vc C 5,?_⟩;obtain⟨a1,a2,a3⟩:=done z fun h=>by cases h
   exact N H n q a1 a2 a3 fun h=>absurd rfl h
 refine Join.intro (fun tk a=>tk=bK l k∧∃n q,Upd S h a∧a[h.size]? =some (.cells (fA n).toArray az (0,0))∧a[j.size]? =some (.cells (fA xj).toArray az (0,0))∧a[G.size]? =some (.cells (fA t).toArray az (0,0))∧TreeO o (fun y=>Pro W h I y∨q y) a s x n (lr k l) q∧(∀y,q y→(S y∨I.size≤y)∧y<a.size)∧(bK l k=false→n=t)) (fun R hR=>?_) ?_
 ·rcases i4 with⟨rfl,b,rfl,t4⟩|⟨rfl,b,rfl,t4⟩
  ·refine⟨_,vc L 0,ak.2 ⟨_,qv L 1 0,_,qv L 1 1,_,qv L 1 2,_,vc L 4,?_⟩⟩
   refine zl t4 V hr hn k fun h5 U S5 f t5 A m=>?_
   have s5:=f.size;refine vd (i:=4) (c':=(fA (0,x.k0,x.k1,x.mask,some ⟨U,0,none⟩,none)).toArray) (f.get L (P (aw _))) (show 4<6 by decide) rfl fun a b6 g=>?_
   have s6:=g.size;exact hR _ _ ⟨rfl,_,S5,(u.wide.tr f).trans g fun y d=>.inr (by have d:y=h.size:=d;omega),b6,g.oth (f.get d4 (P (by omega))) (by omega),g.oth (f.get J (P (by omega))) (by omega),TreeO.loc (.inl ⟨rfl,U,rfl,t5⟩) g (aw _) (by omega) E A,fun y d=>⟨(A y d).1,by have:=(A y d).2;omega⟩,fun Q=>by rw[m Q]⟩
  ·refine⟨_,vc L 0,aA.2 ⟨_,vc L 5,?_⟩⟩
   refine y9 t4 V hf k fun h5 U S5 f t5 A m=>?_
   have s5:=f.size;refine vd (i:=5) (c':=(fA (1,0,0,0,none,some ⟨U,0,none⟩)).toArray) (f.get L (P (aw _))) (show 5<6 by decide) rfl fun a b6 g=>?_
   have s6:=g.size;exact hR _ _ ⟨rfl,_,S5,(u.wide.tr f).trans g fun y d=>.inr (by have d:y=h.size:=d;omega),b6,g.oth (f.get d4 (P (by omega))) (by omega),g.oth (f.get J (P (by omega))) (by omega),TreeO.loc (.inr ⟨rfl,U,rfl,t5⟩) g (aw _) (by omega) E A,fun y d=>⟨(A y d).1,by have:=(A y d).2;omega⟩,fun Q=>by rw[m Q]⟩
 ·rintro _ a ⟨rfl,n,q,k6,M,Y,O,Z,D,m⟩
  exact fin k6 M Y O Z D m
theorem Can.nil{W:Nat→Prop}{h:ae}(a:∀y,W y→y<h.size):Can none none W No h:=⟨.inl ⟨rfl,rfl⟩,a,fun _ h=>h.elim,fun _ h=>(by cases h),fun _ _ h=>h⟩
theorem TreeO.nil{W S:Nat→Prop}{h:ae}{a:Int}{x:Hs}{t:Tr}{l:List Pr}(i:TreeO none (fun y=>W y∨S y) h a x t l S):TreeIs W h a x t l:=by
 rcases i with⟨e,b,d,t⟩|⟨e,b,d,w,F,r,c1,c2⟩
 ·exact .inl ⟨e,b,d,TrieAt.less (fun y c=>.inl (.inl c)) t.off.1⟩
 ·exact .inr ⟨e,b,d,⟨w,F,RxN.less (fun y c=>.inl (.inl c)) r.off.1,c1,c2⟩⟩
theorem ve{W:Nat→Prop}{x:Hs}{h:ae}{a:Int}{t:Tr}{l:List Pr}(i:TreeIs W h a x t l)(d:∀y,W y→y<h.size)(g:cq l)(f:l.length≤1000000)(p:Pr){K:Tr×Int→ae→Prop}
  (j:∀c b,TreeIs W c a x b (lw l p)→(AO p≠0→b=t)→Upd No h c→K (b,AO p) c):HC PG eM [EX t,.pointer none,.agg #[.string p.1,.string p.2]] [.agg [.int .i64,.int .u64,.int .u64,.int .u64,.ptr,.ptr],.c (.int .i64)] K h:=
 zH (qM i) (Can.nil d) g f p fun c b _ k m _ e=>j c b m.nil e k
theorem AF{W:Nat→Prop}{x:Hs}{h:ae}{a:Int}{t:Tr}{l:List Pr}(i:TreeIs W h a x t l)(d:∀y,W y→y<h.size)(j:cq l)(f:Fit l)(g:l.length≤1000000)(k:ByteArray){K:Tr×Int→ae→Prop}
  (n:∀c b,TreeIs W c a x b (nn l k)→(Bi l k≠0→b=t)→Upd No h c→K (b,Bi l k) c):HC PG fu [EX t,.pointer none,.string k] [.agg [.int .i64,.int .u64,.int .u64,.int .u64,.ptr,.ptr],.c (.int .i64)] K h:=
 tQ (qM i) (Can.nil d) j f g k fun c b _ m o _ e=>n c b o.nil e m
end Go.Proofs
namespace Go.Proofs
open Go Go.Lift Go.Conc
def PoolAt(h:ae)(pb cb cap:Nat)(a:List Int):Prop:=pb≠cb∧h[pb]? =some (.cells #[.chan (some cb)] 99 (0,0))∧∃s r,h[cb]? =some (.chan cap (a.map fun i=>Value.int .i64 i).toArray false s r false)
theorem PoolAt.upd{M:Nat→Prop}{h d:ae}{pb cb cap:Nat}{c:List Int}(p:PoolAt h pb cb cap c)(k:Upd M h d)(e:¬M pb)(f:¬M cb):PoolAt d pb cb cap c:=let⟨n,a,s,r,b⟩:=p;⟨n,k.get a e,s,r,k.get b f⟩
theorem PoolAt.upd0{h b:ae}{pb cb cap:Nat}{a:List Int}(p:PoolAt h pb cb cap a)(k:Upd No h b):PoolAt b pb cb cap a:=p.upd k id id
def TokAt(h:ae)(tb pb:Nat)(id:Int)(a:Bool):Prop:=h[tb]? =some (.cells #[.pointer (some ⟨pb,0,none⟩),.int .i64 id,.bool a] lX (0,0))
theorem TokAt.by_{h:ae}{tb pb:Nat}{id:Int}{a:Bool}(t:TokAt h tb pb id a):By h (some ⟨tb,0,none⟩) (if a then some ⟨tb,0,none⟩else none):=.inr ⟨tb,_,id,a,rfl,t,rfl⟩
theorem yh{n:Nat}(m:1≤n)(p:n≤4096){h:ae}{K:Option Addr×Int→ae→Prop}(k:∀h',Upd No h h'→PoolAt h' (h.size+1) h.size n ((bW n).map fun j=>((j:Nat):Int)+1)→K (some ⟨h.size+1,0,none⟩,0) h'):HC PG rg [.int .i64 n] [.c .ptr,.c (.int .i64)] K h:=by
 refine⟨fun w q=>.inl ⟨Tryz.call18 _ w,(Hu m p (w:=w)).mono ?_⟩⟩
 subst q;rintro e w' ⟨rfl,b,s,r,o,d,t⟩;have k1:Upd No w.heap ((w.heap.push (.chan n #[] false 0 0 false)).push (.cells #[.chan (some w.heap.size)] 99 (0,0))):=(Upd.push No w.heap _).tr (Upd.push No _ _);have a:b=(((bW n).map fun j=>((j:Nat):Int)+1).map fun i=>Value.int .i64 i):=by rw[o];simp[Function.comp_def]
 have g:((w.heap.push (.chan n #[] false 0 0 false)).push (.cells #[.chan (some w.heap.size)] 99 (0,0)))[w.heap.size+1]? =some (.cells #[.chan (some w.heap.size)] 99 (0,0)):=by
  rw[gq,Array.size_push,if_pos rfl]
 rcases t with rfl|rfl
 ·refine⟨⟨rfl,rfl,rfl⟩,((some ⟨w.heap.size+1,0,none⟩,0):Option Addr×Int),rfl,k _ k1 ⟨by omega,g,s,r,?_⟩⟩
  rw[←a];exact d
 ·have f:=Upd.set (M:=(· =w.heap.size)) ((w.heap.push (.chan n #[] false 0 0 false)).push (.cells #[.chan (some w.heap.size)] 99 (0,0))) (.chan n b.toArray false s r false) rfl
  refine⟨⟨rfl,rfl,rfl⟩,((some ⟨w.heap.size+1,0,none⟩,0):Option Addr×Int),rfl,k _ (k1.trans f fun y c=>.inr (by have c:y=w.heap.size:=c;omega)) ⟨by omega,f.get g (fun e=>by have e:w.heap.size+1=w.heap.size:=e;omega),s,r,?_⟩⟩
  rw[←a];exact d
theorem Cm{h:ae}{pb cb cap:Nat}{i:Int}{a:List Int}(p:PoolAt h pb cb cap (i::a)){K:Option Addr×Int→ae→Prop}(f:∀h',Upd (· =cb) h h'→PoolAt h' pb cb cap a→TokAt h' h.size pb i true→K (some ⟨h.size,0,none⟩,0) h'):HC PG ol [.pointer (some ⟨pb,0,none⟩)] [.c .ptr,.c (.int .i64)] K h:=by
 obtain⟨n,c,s,r,hc⟩:=p;refine⟨fun w g=>.inl ⟨Tryz.call32 _ w,?_⟩⟩
 subst g;rw[List.map_cons]at hc;refine(FM c hc).mono ?_;rintro e w' ⟨rfl,rfl⟩;have d:cb<w.heap.size:=(Array.getElem?_eq_some_iff.1 hc).1;have k1:=Upd.set (M:=(· =cb)) w.heap (.chan cap (a.map fun i=>Value.int .i64 i).toArray false s (r+1) false) rfl
 have b:=k1.tr (Upd.push (· =cb) _ (.cells #[.pointer (some ⟨pb,0,none⟩),.int .i64 i,.bool true] lX (0,0)))
 refine⟨⟨rfl,rfl,rfl⟩,((some ⟨w.heap.size,0,none⟩,0):Option Addr×Int),rfl,f _ b ⟨n,b.get c n,s,r+1,?_⟩ ?_⟩
 ·show((w.heap.setIfInBounds cb _).push _)[cb]? =_
  rw[gq,jU,if_neg (by omega),bX,if_pos rfl,if_pos d]
 ·show((w.heap.setIfInBounds cb _).push _)[w.heap.size]? =_
  rw[gq,jU,if_pos rfl]
theorem DI{h:ae}{pb cb cap tb:Nat}{id:Int}{b:List Int}(p:PoolAt h pb cb cap b)(t:TokAt h tb pb id true)(q:b.length<cap){K:Int→ae→Prop}(v:∀h',Upd (fun y=>y=cb∨y=tb) h h'→PoolAt h' pb cb cap (b++ [id])→TokAt h' tb pb id false→K 0 h'):HC PG pB [.pointer (some ⟨pb,0,none⟩),.pointer (some ⟨tb,0,none⟩)] [.c (.int .i64)] K h:=by
 obtain⟨n,j,s,r,hc⟩:=p;have d:pb≠tb:=fun e=>by
  subst e;have:=j.symm.trans t;simp at this
 have c:cb≠tb:=fun e=>by
  subst e;have:=hc.symm.trans t;simp at this
 refine⟨fun w u=>.inl ⟨Tryz.call39 _ w,?_⟩⟩
 subst u;refine(HP j t hc (by simpa using q) d c).mono ?_;rintro e w' ⟨rfl,m,rfl⟩;have k1:=Upd.hset (M:=(· =tb)) w.heap (a:=⟨tb,2,none⟩) (.bool false) rfl
 have g:=Upd.set (M:=(· =cb)) (hset w.heap ⟨tb,2,none⟩ (.bool false)) (.chan cap ((b.map fun i=>Value.int .i64 i).toArray.push (.int .i64 id)) false (s+1) r false) rfl
 have o:cb<(hset w.heap ⟨tb,2,none⟩ (.bool false)).size:=aG (k1.get hc fun e=>c e)
 refine⟨⟨rfl,rfl,rfl⟩,(0:Int),rfl,v _ ((k1.mono fun y f=>.inl (.inr f)).trans g fun y f=>.inl (.inl f)) ⟨n,g.get (k1.get j fun e=>d e) (fun e=>n e),s+1,r,?_⟩ (g.get ?_ (fun e=>c e.symm))⟩
 ·show((hset w.heap ⟨tb,2,none⟩ (.bool false)).setIfInBounds cb _)[cb]? =_
  rw[bX,if_pos rfl,if_pos o];simp
 ·have k:w.heap[tb]? =some (.cells #[.pointer (some ⟨pb,0,none⟩),.int .i64 id,.bool true] lX (0,0)):=t
  rw[yq k,iY k];rfl
end Go.Proofs
namespace Go.Proofs
open Go Go.Lift
end Go.Proofs
namespace Go.Proofs
structure WO{α:Type}(lt:α→α→Bool):Prop where
 irr:∀a,lt a a=false
 asy:∀a b,lt a b=true→lt b a=false
 ntr:∀a b c,lt a b=false→lt b c=false→lt a c=false
section
variable {α:Type} {lt:α→α→Bool}
def KT(lt:α→α→Bool)(x a:α):Bool:= !lt a x&& !lt x a
def Srt(lt:α→α→Bool)(l:List α):Prop:=l.Pairwise fun a b=>lt b a=false
structure Eqf(lt:α→α→Bool)(l l':List α):Prop where
 len:l'.length=l.length
 flt:∀x,l'.filter (KT lt x)=l.filter (KT lt x)
structure St(lt:α→α→Bool)(l l':List α):Prop where
 eqf:Eqf lt l l'
 srt:Srt lt l'
theorem Eqf.rfl(l:List α):Eqf lt l l:=⟨_root_.rfl,fun _=>_root_.rfl⟩
theorem Eqf.tr{a b c:List α}(h:Eqf lt a b)(k:Eqf lt b c):Eqf lt a c:=⟨k.len.trans h.len,fun x=>(k.flt x).trans (h.flt x)⟩
theorem Eqf.app{a b a' b':List α}(h:Eqf lt a a')(k:Eqf lt b b'):Eqf lt (a++b) (a'++b'):=
 ⟨by rw[af,af,h.len,k.len],fun x=>by rw[List.filter_append,List.filter_append,h.flt,k.flt]⟩
theorem CU(w:WO lt)(a:α):KT lt a a=true:=by unfold KT;rw[w.irr];rfl
theorem Eqf.mem(w:WO lt){l l':List α}(h:Eqf lt l l'){a:α}:a∈l'↔a∈l:=by
 have e:=h.flt a;constructor
 ·intro hm
  have:a∈l'.filter (KT lt a):=f8.2 ⟨hm,CU w a⟩;rw[e]at this;exact(f8.1 this).1
 ·intro hm
  have:a∈l.filter (KT lt a):=f8.2 ⟨hm,CU w a⟩;rw[←e]at this;exact(f8.1 this).1
theorem Srt.app{a b:List α}(h:Srt lt a)(k:Srt lt b)(c:∀x∈a,∀y∈b,lt y x=false):Srt lt (a++b):=cE.2 ⟨h,k,c⟩
theorem Srt.left{a b:List α}(h:Srt lt (a++b)):Srt lt a:=(cE.1 h).1
theorem Srt.right{a b:List α}(h:Srt lt (a++b)):Srt lt b:=(cE.1 h).2.1
theorem Srt.nil:Srt lt ([]:List α):=fq
theorem Srt.one(a:α):Srt lt [a]:=List.pairwise_singleton ..
end
end Go.Proofs
namespace Go.Proofs
open Go Go.Lift
def qU(t u:Tr):Bool:=(t.1==u.1)&&((((t.2.1==u.2.1)&&((t.2.2.1==u.2.2.1)&&true)))&&((t.2.2.2.1==u.2.2.2.1)&&true))
theorem G5{t u:Tr}{h:ae}{K:Bool→ae→Prop}(b:∀h',Upd No h h'→K (qU t u) h'):HC PG re [EX t,EX u] [.c .bool] K h:=by
 refine CY t u ?_;unfold wQ aZ dQ pU;refine bi fun d b1 k1=>bi fun c b2 a=>?_
 have c1:=a.get0 b1;refine⟨_,vc c1 0,_,vc b2 0,?_⟩;have:=b c (k1.tr a);unfold qU at this;rcases hb:(t.1==u.1)with _|_
 ·rw[hb]at this
  exact ak.2 this
 ·rw[hb]at this
  exact aA.2 ⟨_,qv c1 1 0,_,qv c1 1 1,_,qv c1 1 2,_,qv b2 1 0,_,qv b2 1 1,_,qv b2 1 2,this⟩
theorem FO{W:Nat→Prop}{x:Hs}{h:ae}{b:Nat}{l:List Pr}(t:TrieAt W x h 13 b l){K:Option Addr→ae→Prop}(d:∀a,Upd No h a→K (some ⟨b,0,none⟩) a):HC PG kO [EX (0,x.k0,x.k1,x.mask,some ⟨b,0,none⟩,none)] [.c .ptr] K h:=by
 refine uw (0,x.k0,x.k1,x.mask,some ⟨b,0,none⟩,none) ?_;unfold oE aZ ay pU;refine bi fun c b1 k1=>?_
 refine Join.intro (fun t a=>t=false∧a=c) (fun R e=>⟨_,vc b1 0,aA.2 ⟨_,vc b1 4,e _ _ ⟨rfl,rfl⟩⟩⟩) ?_
 rintro t a ⟨rfl,rfl⟩;exact ak.2 ⟨_,vc b1 4,d a k1⟩
def FE(a:Int)(x:Hs)(l:List Pr)(xs:List UInt8):Prop:=(a=0∧xs=0::gN x 13 l)∨(a=1∧∃ys,GB l ys∧xs=1::ys)
theorem Jo{h a:ae}{b:UInt8}(c:a[h.size]? =some (.cells #[.int .u8 (b.toNat:Int)] dx (0,0))):OwnS po 1 dx (fun y=>h.size≤y) a ⟨some ⟨h.size,0,none⟩,1,1⟩ [b]:=⟨rfl,vE,aw _,.inr ⟨h.size,[],rfl,aw _,c,rfl⟩⟩
theorem zI{W:Nat→Prop}{x:Hs}{h:ae}{a:Int}{t:Tr}{l:List Pr}(i:TreeIs W h a x t l)(F:cq l)(p:Fit l)(v:l.length≤60000){K:SliceV→ae→Prop}
  (E:∀s' m xs,FE a x l xs→OwnS po 1 dx (fun y=>h.size≤y) m s' xs→Upd No h m→K s' m):HC PG ij [EX t] [.c .slice] K h:=by
 refine uv t ?_;unfold oD aZ ag ay wg pU;refine bi fun o b1 k1=>?_
 have J:=k1.size;have app:∀{b:UInt8} {f d:ae} {s:SliceV} {xs:List UInt8},f[o.size]? =some (.cells #[.int .u8 (b.toNat:Int)] dx (0,0))→Upd No o f→OwnS po 1 dx (fun y=>f.size≤y) d s xs→Upd No f d→xs.length≤70000000000000→FE a x l (b::xs)→
   ∃xs7,SRow d s.a (s.len*1) xs7∧AppP (some [.int .u8 0]) 1 1 dx (some (aU o)) 1 1 s.len xs7 d (fun D C=>K D C):=fun{b f d s xs} n c A g H hv=>by
  refine⟨_,(A.sl (W:=No) fun _ _ _ h=>h).srow,?_⟩
  have k:=c.tr g;have hz:=aG n;have o1:OwnS po 1 dx (fun y=>h.size≤y) d ⟨some ⟨o.size,0,none⟩,1,1⟩ [b]:=((Jo n).upd g fun _ _ h=>h).more fun y w=>by omega
  refine AppP.own (ys:=xs) o1 A.len rfl (xo _) rfl (by omega) (by simp only[List.length_singleton];omega) (by have:=k.size;omega) fun s' m u q=>?_
  exact E s' m _ hv u ((k1.tr k).trans q fun y w=>.inr w)
 rcases i with⟨rfl,b,rfl,t⟩|⟨rfl,b,rfl,t⟩
 ·refine⟨_,vc b1 0,ak.2 (bi fun f b2 c=>?_)⟩
  have c1:=c.get0 b1;refine⟨_,vc c1 0,_,vc c1 1,_,vc c1 2,_,vc c1 3,_,vc c1 4,_,vc c1 5,?_⟩;refine FO (TrieAt.upd0 (k1.tr c) t) fun d g=>?_
  refine IV (TrieAt.upd0 ((k1.tr c).tr g) t) p v fun B G e z=>?_
  have I:=g.size;have j:=pZ (x:=x) 13 p;have n:l.length*(20004+9*(13+1))≤60000*(20004+9*(13+1)):=cW _ v;exact app (b:=0) b2 c (e.more fun y w=>by omega) (g.tr z) (by omega) (.inl ⟨rfl,rfl⟩)
 ·refine⟨_,vc b1 0,aA.2 (bi fun f b2 c=>?_)⟩
  have c1:=c.get0 b1;refine⟨_,vc c1 5,?_⟩;refine Ce (t.upd0 (k1.tr c)) F p v fun B G xs hv e z=>?_
  have j:=Cd hv p;have n:2*l.length*20010≤2*60000*20010:=cW _ (by omega);exact app (b:=1) b2 c e z (by omega) (.inr ⟨rfl,xs,hv,rfl⟩)
theorem Gf{W W':Nat→Prop}{h f:ae}{c a:Int}{x e:Hs}{t u:Tr}{l l':List Pr}(i:TreeIs W h c x t l)(g:TreeIs W' f a e u l')(d:qU t u=true):c=a∧(c=0→x=e):=by
 rcases i with⟨rfl,b,rfl,_⟩|⟨rfl,b,rfl,_⟩<;>rcases g with⟨rfl,b',rfl,_⟩|⟨rfl,b',rfl,_⟩
 ·refine⟨rfl,fun _=>?_⟩
  unfold qU at d;simp only[Bool.and_eq_true,beq_iff_eq,Bool.and_true,true_and]at d;cases x;cases e;simp only at d;simp only[Hs.mk.injEq];exact⟨d.1.1,d.1.2,d.2⟩
 ·simp[qU]at d
 ·simp[qU]at d
 ·exact⟨rfl,fun h=>by cases h⟩
theorem G1{a:Int}{x f:Hs}(hx:a=0→x=f){l l':List Pr}{xs c:List UInt8}(hv:FE a x l xs)(b:FE a f l' c)(j:Fit l)(d:Fit l')(m:l.length≤60000)(g:l'.length≤60000)(n:cq l)(i:cq l'):xs=c↔l=l':=by
 rcases hv with⟨rfl,rfl⟩|⟨rfl,ys,hv,rfl⟩<;>rcases b with⟨e,rfl⟩|⟨e,k,b,rfl⟩
 ·rw[hx rfl]
  constructor
  ·intro h
   have h:gN f 13 l++ []=gN f 13 l'++ []:=by rw[(gx.inj h).2]
   exact(xV 13 j d m g n i h).1
  ·rintro rfl;rfl
 ·cases e
 ·cases e
 ·rw[gx.injEq,←IZ hv b j d]
  exact⟨fun h=>h.2,fun h=>⟨rfl,h⟩⟩
theorem BX{W W':Nat→Prop}{x C:Hs}{h:ae}{e b:Int}{t u:Tr}{l l':List Pr}(i:TreeIs W h e x t l)(B:TreeIs W' h b C u l')(y:cq l)(A:Fit l)(w:l.length≤60000)(j:cq l')(f:Fit l')(k:l'.length≤60000){K:Bool→ae→Prop}
  (m:∀h',Upd No h h'→K (qU t u&&decide (l=l')) h'):HC PG oh [EX t,EX u] [.c .bool] K h:=by
 refine CX t u ?_;unfold wP aZ ag ay wg pU BU;refine bi fun H b1 k1=>bi fun J b2 z=>?_
 have c1:=z.get0 b1;refine⟨_,vc c1 0,_,vc c1 1,_,vc c1 2,_,vc c1 3,_,vc c1 4,_,vc c1 5,_,vc b2 0,_,vc b2 1,_,vc b2 2,_,vc b2 3,_,vc b2 4,_,vc b2 5,?_⟩;refine G5 fun D q=>?_
 have a:=(k1.tr z).tr q;have c:=q.get0 c1;have b3:=q.get0 b2;rcases hl:qU t u with _|_
 ·rw[hl]at m
  exact ak.2 (m D a)
 ·rw[hl]at m
  refine aA.2 ⟨_,vc c 0,_,vc c 1,_,vc c 2,_,vc c 3,_,vc c 4,_,vc c 5,_,vc b3 0,_,vc b3 1,_,vc b3 2,_,vc b3 3,_,vc b3 4,_,vc b3 5,?_⟩;refine zI (i.upd0 a) y A w fun G I xs hv o p=>?_
  have d:=p.get0 b3;refine⟨⟨vc d 0,vc d 1,vc d 2,vc d 3,vc d 4,vc d 5⟩,?_⟩;refine zI (B.upd0 (a.tr p)) j f k fun F E ys n s v=>?_
  have g:=o.upd v fun _ _ h=>h
  refine Ep (W:=No) (W':=No) (g.sl fun _ _ _ h=>h) (s.sl fun _ _ _ h=>h) ?_
  obtain⟨rfl,hx⟩:=Gf i B hl;have:=m E ((a.tr p).tr v);rw[decide_eq_decide.2 (G1 hx hv n A f w k y j)];exact this
theorem TreeIs.plain{W:Nat→Prop}{h:ae}{e:Int}{x:Hs}{t:Tr}{l:List Pr}(i:TreeIs W h e x t l):(∀a,t.2.2.2.2.1=some a→de h a)∧(∀a,t.2.2.2.2.2=some a→de h a):=by
 rcases i with⟨rfl,b,rfl,t⟩|⟨rfl,b,rfl,t⟩
 ·obtain⟨s,g,_⟩:=t
  obtain⟨d,n,sp,sk,ow,f,_⟩:=g.ex;refine⟨fun a c=>?_,fun a c=>(by cases c)⟩
  cases c;exact⟨_,_,f,show 0<6 by decide⟩
 ·obtain⟨w,F,⟨val,s,ow,ks,f,_⟩,_⟩:=t.ex
  refine⟨fun a c=>(by cases c),fun a c=>?_⟩
  cases c;exact⟨_,_,f,show 0<5 by decide⟩
end Go.Proofs
namespace Go.Proofs
open Go Go.Lift
abbrev Lz:List Value:= [.string (⟨#[]⟩:ByteArray),.string (⟨#[]⟩:ByteArray)]
theorem Lf{h:ae}{t:TypeId}{p:Pr}{k:ae→Prop}(e:∀h',h'[h.size]? =some (.cells #[.string p.1,.string p.2] t (0,0))→Upd No h h'→k h'):
  At (hnew h [.string (⟨#[]⟩:ByteArray),.string (⟨#[]⟩:ByteArray)] t) fun b=>ph b (some (aU h)) 0 [.string p.1,.string p.2]∧At (fi b (aU h) 0 [.string p.1,.string p.2]) k:=by
 refine bi fun f b1 k1=>?_
 exact dy (c:=Lz) (vs:= [.string p.1,.string p.2]) b1 rfl fun d b2 a=>e d b2 (k1.own a (aw _))
theorem Dc{i n:Nat}(h:i<n)(a:n≤9223372036854775807):IntKind.wrap .i64 ((i:Int)+1)=((i+1:Nat):Int):=by rw[Go.IntWalk.i64_in _ (by omega)];omega
theorem Ae(p:Pr):∀{l:List Pr},(ic p l).length≤l.length+1
 | []=>aw _
 |q::l=>by
  rw[jc];split
  ·have:=Ae p (l:=l);simp only[List.length_cons];omega
  ·split<;>simp
theorem Ac{W W':Nat→Prop}{h c:ae}{a:Int}{x:Hs}{t u:Tr}{l l':List Pr}(i:TreeIs W h a x t l)(d:TreeIs W' c a x u l'):qU t u=true:=by
 rcases i with⟨rfl,b,rfl,_⟩|⟨rfl,b,rfl,_⟩<;>rcases d with⟨e,b',rfl,_⟩|⟨e,b',rfl,_⟩
 ·simp[qU]
 ·cases e
 ·cases e
 ·simp[qU]
theorem Lh{k:Int}(a:0≤k)(b:k≤255):IntKind.wrap .i64 (jT k 2)=0∨IntKind.wrap .i64 (jT k 2)=1:=by
 have:jT k 2=k%2:=Int.tmod_eq_emod_of_nonneg a;rw[this,nT (by omega)];omega
end Go.Proofs
namespace Go.Proofs
open Go Go.Lift
end Go.Proofs
namespace Go.Proofs
open Go Go.Lift
section
variable {α:Type} {f:α→List Value} {sz:Nat} {t:TypeId} {M:Nat→Prop} {h:ae} {s:SliceV} {P Q:List α} {x:α}
end
end Go.Proofs
namespace Go.Proofs
open Go Go.Lift
variable {z0:Hs}
end Go.Proofs
namespace Go.Proofs
open Go Go.Lift
end Go.Proofs
namespace Go.Proofs
open Go Go.Lift
end Go.Proofs
namespace Go.Proofs
open Go Go.Lift
theorem Hw{h:ae}{t:TypeId}{p:Pr}{k:ae→Prop}(b:∀h',h'[h.size]? =some (.cells #[.string p.1,.string p.2] t (0,0))→Upd No h h'→k h'):
 At (hnew h [.string (⟨#[]⟩:ByteArray),.string (⟨#[]⟩:ByteArray)] t) (fun a=>ph a (some (aU h)) 0 [.string p.1,.string p.2]∧At (fi a (aU h) 0 [.string p.1,.string p.2]) k):=Lf (p:=p) b
end Go.Proofs
namespace Go.Proofs
open Go Go.Lift
end Go.Proofs
namespace Go.Proofs
open Go Go.Lift
end Go.Proofs
namespace Go.Proofs
open Go Go.Lift
end Go.Proofs
