/- A part of the proof that the named laws of this program answer true, whatever the input. -/
import Derived.Test.YtajpljopgikpgaaGreatDoorPart5
import Derived.Test.YtajpljopgikpgaaGreatDoorPart2
import Derived.Test.YtajpljopgikpgaaGreatDoorPart4
import Derived.Test.YtajpljopgikpgaaGreatDoorPart0
import Derived.Test.YtajpljopgikpgaaGreatDoorLift3
open Array renaming getElem?_push→gY,size_setIfInBounds→kQ,getElem?_setIfInBounds→ci
open Bool renaming and_eq_true→aV
open Int renaming tmod→gL
open List renaming any_eq_true→bO,mem_singleton→aj,any_cons→m6,range→bX,length_append→ae,mem_filter→gA,pairwise_append→cL,pairwise_singleton→eC,cons→hP,cons_append→dt,mem_append_left→fC,mem_append_right→gq,mem_append→bN
open List.Pairwise renaming nil→fO
open Nat renaming zero_add→aD,lt_of_lt_of_le→bI,le_trans→bB,le_refl→au,mul_le_mul_right→de
namespace Go.Proofs
open Go.Lift
theorem By.updS{h b:ad}{w o:Option Addr}{S:Nat→Prop}(t:By h w o)(k:Upd S h b)(d:∀a,w=some a→¬S a.block):By b w o:=t.upd k fun _ e c=>absurd c (d _ e)
set_option maxHeartbeats 2000000 in
theorem LL{W:Nat→Prop}{x:Hs}{w o:Option Addr}:∀(m:Nat),m≤13→∀{b:Nat} {l:List Pr} {S:Nat→Prop} (p:Pr) {h:ad},TrieO o W x h m b l S→By h w o→(∀y,W y→y<h.size)→(∀y,S y→W y)→(∀a,o=some a→W a.block)→(∀a,w=some a→¬S a.block)→cp l→l.length≤1000000→∀{K:(Option Addr)×Bool×Bool→ad→Prop},
  (∀A b' ch S',Upd S h A→TrieO o (fun y=>W y∨S' y) x A m b' (jc p l) S'→(∀y,S' y→(S y∨h.size≤y)∧y<A.size)→(ch=false→b'=b∧Upd No h A)→ch= !decide (p∈l)→K (some ⟨b',0,none⟩, !bQ l p.1,ch) A)→
  HC PG f9 [Jr x w p.1,.pointer (some ⟨b,0,none⟩),.agg #[.string p.1,.string p.2],.int .i64 ((13-m:Nat):Int)] [.c .ptr,.c .bool,.c .bool] K h:=by
 intro m;induction m with
 |zero=>
  intro _ b l S p h t by_ hW E L hwS hr hn K hk;have M:∀y,S y→y<h.size:=fun y g=>hW y (E y g)
  refine qL (x.k0,x.k1,x.mask,w,p.1,lG x p.1) (some ⟨b,0,none⟩) p ((13-0:Nat):Int) ?_;unfold mP af aA aE nv su y9 rP ui uG C9 qd ld zH;refine aX fun h1 b1 k1=>aX fun j b2 k2=>?_
  have H:∀{A:ad},Upd No j A→∀i,aG A (adr ⟨h.size,0,none⟩ i)=(#[.int .u64 x.k0,.int .u64 x.k1,.int .u64 x.mask,.pointer w,.string p.1,.int .u64 (lG x p.1)]:Array Value)[i]?:=fun k i=>by
   rw[bG,aS (k.get0 (k2.get0 b1)),aD]
  have N:∀{A:ad},Upd No j A→∀i,aG A (adr ⟨h1.size,0,none⟩ i)=(#[.string p.1,.string p.2]:Array Value)[i]?:=fun k i=>by rw[bG,aS (k.get0 b2),aD]
  have r:=Upd.refl No j;have u:=k1.tr k2;have z02:=u.size;have bk:BuckO o W j b l S:=BuckO.upd0 t u;have by2:=by_.upd0 u;have bkr:=bk.read by2;obtain⟨sp,sk,ow,hb,_⟩:=bkr.ex;refine f6 (d:=0) (n:=0) hb (az.2 ⟨_,N r 0,Mp bkr hr (by omega) p.1 fun h3 v V hv=>?_⟩)
  refine Join.intro (fun t' A=>t'=decide (p∈l)∧Upd No j A) (fun R hR=>?_) ?_
  ·cases C:bQ l p.1 with
   |false=>
    refine ah.2 (hR _ _ ⟨?_,V⟩);refine(decide_eq_false fun hm=>?_).symm
    have:bQ l p.1=true:=bO.2 ⟨p,hm,decide_eq_true rfl⟩;rw[C]at this;cases this
   |true=>
    have hv:=hv C;refine az.2 ⟨_,N V 1,hR _ _ ⟨?_,V⟩⟩;rw[kM,decide_eq_decide];constructor
    ·intro e
     have e:v=p.2:=e;rw[e]at hv;exact hv
    ·intro hm
     exact FV hr hv (show(p.1,p.2)∈l from hm)
  ·rintro t' h4 ⟨rfl,F⟩
   have z4:=F.size;by_cases hm:p∈l
   ·rw[decide_eq_true hm]
    refine az.2 ?_;have C:bQ l p.1=true:=bO.2 ⟨p,hm,decide_eq_true rfl⟩;have:=hk h4 b false S (u.tr F).wide (by rw[zn hr hm];exact(BuckO.upd0 t (u.tr F)).imp (fun n=>⟨n.1.less fun y g=>.inl (g.elim id (E y)),n.2⟩) id) (fun y g=>⟨.inl g,by have:=M y g;omega⟩) (fun _=>⟨rfl,u.tr F⟩) (by rw[decide_eq_true hm];rfl)
    rw[C]at this;exact this
   ·rw[decide_eq_false hm]
    refine ah.2 ⟨w,H F 3,_,N F 0,_,N F 1,?_⟩;refine AV (bk.upd0 F) (by2.upd0 F) L (fun y g=>by have:=M y g;omega) hr (by omega) p fun h5 b5 sp5 sk5 on5 hu5=>?_
    have z5:=hu5.size;have hS0:o=none→∀y,¬S y:=fun e y g=>by
     rcases t with⟨_,h⟩|⟨h,_⟩
     ·exact h y g
     ·rw[e]at h;cases h
    refine hk h5 b5 true _ ((u.tr F).wide.tr hu5) (tL (W:=fun y=>W y∨(o.isSome=true∧(S y∨h4.size≤y)∧y<h5.size)) on5 fun e=>⟨hS0 e,fun y g=>g.elim (fun h=>by have:=hW y h;omega) fun h=>by rw[e]at h;cases h.1⟩) (fun y g=>⟨g.2.1.imp id fun h=>by omega,g.2.2⟩) (fun h=>by cases h) (by rw[decide_eq_false hm];rfl)
 |succ m ih=>
  intro hm b l S p h t by_ hW E L hwS hr hn K hk;have gW:∀{A},Upd No h A→∀y,W y→y<A.size:=fun k y g=>bI (hW y g) k.size
  have M:∀y,S y→y<h.size:=fun y g=>hW y (E y g)
  have hl:13-(m+1)<13:=by omega
  have hlev:13-(m+1)=12-m:=by omega
  refine qL (x.k0,x.k1,x.mask,w,p.1,lG x p.1) (some ⟨b,0,none⟩) p ((13-(m+1):Nat):Int) ?_;unfold mP af aA aE nv su y9 rP ui uG C9 qd ld zH;refine aX fun h1 b1 k1=>aX fun j b2 k2=>?_
  have H:∀{A:ad},Upd No j A→∀i,aG A (adr ⟨h.size,0,none⟩ i)=(#[.int .u64 x.k0,.int .u64 x.k1,.int .u64 x.mask,.pointer w,.string p.1,.int .u64 (lG x p.1)]:Array Value)[i]?:=fun k i=>by
   rw[bG,aS (k.get0 (k2.get0 b1)),aD]
  have N:∀{A:ad},Upd No j A→∀i,aG A (adr ⟨h1.size,0,none⟩ i)=(#[.string p.1,.string p.2]:Array Value)[i]?:=fun k i=>by rw[bG,aS (k.get0 b2),aD]
  have r:=Upd.refl No j;have u:=k1.tr k2;have by2:=by_.upd0 u;have z02:=u.size;have hno:o=none→∀y,¬S y:=fun e=>by subst e;exact t.off.2
  obtain⟨s,S0,T,nd0,h0,I,hd,hs⟩:=(TrieO.upd0 u t).view;have tt:∀{A:ad},Upd No j A→TrieO o (fun y=>W y∨S y) x A (m+1) b l S:=fun k=>(TrieO.upd0 (u.tr k) t).less fun y g=>.inl (g.elim id (E y))
  have ndr:=nd0.read by2;obtain⟨d0,n0,sp0,sk0,ow0,hb0,_⟩:=ndr.ex;refine f6 hb0 (ah.2 ⟨_,H r 5,KY hl ?_⟩);rw[hlev];have hi:=ww x (12-m) p.1;have hsi:=hs _ hi;have hrp:=oD (x:=x) (lev:=12-m) (c:=ck x (12-m) p.1) hr;have hnp:(part x (12-m) (ck x (12-m) p.1) l).length≤1000000:=bB lO hn;have hmp:p∈part x (12-m) (ck x (12-m) p.1) l↔p∈l:=by rw[kF];exact⟨fun h=>h.1,fun h=>⟨h,rfl⟩⟩
  have htp:=zK (x:=x) (lev:=12-m) (l:=l) (k:=p.1);have turn:∀{hz A:ad} {b' d n:Nat} {sp sk:SliceV} {s':Slots} {T':Nat→Prop},Upd (T (ck x (12-m) p.1)) j hz→OwnN (fun y=>S0 y∨hz.size≤y) A b' d n sp sk s' o→Upd S0 hz A→(∀c,c≠ck x (12-m) p.1→s'.p c=s.p c∧s'.k c=s.k c)→
    SlotO o (fun y=>W y∨T' y) x hz m s' (ck x (12-m) p.1) (jc p (part x (12-m) (ck x (12-m) p.1) l)) T'→(∀y,T' y→(T (ck x (12-m) p.1) y∨j.size≤y)∧y<hz.size)→p∉l→
    K (some ⟨b',0,none⟩, !bQ l p.1,true) A:=fun{hz A b' d n sp sk s' T'} ku on ku2 hp hslot X P=>by
   have zz:=ku.size;have zz':=ku2.size;have b2S:∀y,S y→y<j.size:=fun y g=>by have:=M y g;omega
   have p1:part x (12-m) (ck x (12-m) p.1) (jc p l)=jc p (part x (12-m) (ck x (12-m) p.1) l):=by rw[Aj hr,if_pos rfl]
   have hT0:∀y,T' y→¬S0 y∧∀c,c≠ck x (12-m) p.1→¬T c y:=fun y g=>by
    rcases(X y g).1 with h|h
    ·exact⟨(I _ y h).2,fun c hc C=>hc (hd _ _ y C h)⟩
    ·exact⟨fun hs=>by have:=b2S y (h0 y hs);omega,fun c _ C=>by have:=b2S y (I c y C).1;omega⟩
   refine hk A b' true _ ((u.wide.tr (ku.mono fun y g=>.inl (I _ y g).1)).tr (ku2.mono fun y g=>.inl (h0 y g))) (uH (W:=W) (W1:=fun y=>W y∨T' y) (T:=T) (T':=T') (c0:=ck x (12-m) p.1) (s:=s) (hz:=hz) on ku2 (fun c hc hcc=>?_) hp ?_ (fun y g=>.inl g) (fun y g=>.inl (E y (h0 y g))) (fun c y g=>.inl (E y (I c y g).1)) (fun y g=>.inr g) (fun c y g=>⟨by have:=b2S y (I c y g).1;omega,(I c y g).2⟩) (fun y g=>⟨(X y g).2,hT0 y g⟩) hd fun e=>⟨fun y g=>hno e y (h0 y g),fun y g=>g.elim (fun h=>by have:=hW y h;omega) fun h=>(X y h).2⟩) (fun y g=>?_) (fun h=>by cases h) (by rw[decide_eq_false P];rfl)
   ·rw[Aj hr,if_neg fun e=>hcc e.symm]
    refine((hs c hc).less (W':=fun y=>W y∨T' y) fun y g=>g.elim .inl fun h=>(X y h).1.imp (fun h=>E y (I _ y h).1) id).upd ku (fun y g=>b2S y (I c y g).1) fun y g=>.inl ⟨.inl (E y (I _ y g).1),fun h=>hcc (hd _ _ y h g)⟩
   ·rw[p1];exact hslot
   ·have:=GR (S:=S) (z0:=h.size) h0 (fun c y g=>⟨(I c y g).1,by have:=b2S y (I c y g).1;omega⟩) (fun y g=>⟨(X y g).1.imp (fun h=>(I _ y h).1) fun h=>by omega,by have:=(X y g).2;omega⟩) (by omega) g
    exact this
  generalize hc:ck x (12-m) p.1=c at hi hsi hrp hnp hmp htp turn;generalize hlp:part x (12-m) c l=lc at hsi hrp hnp hmp htp turn;refine An ndr hi fun h3 V=>?_
  refine aX fun h4 b4 k4=>?_
  have b4':h4[h3.size]? =some (.cells #[.string Fv.1,.string Fv.2] ar (0,0)):=b4;refine yv (p:=Ko (s.p c)) b4' fun h5 b5 hu5=>?_
  have f:Upd No j h5:=(V.tr k4).trans hu5 fun y g=>.inr (by have g:y=h3.size:=g;have:=V.size;omega)
  have w5:∀{A:ad},Upd No h5 A→∀i,aG A (adr ⟨h3.size,0,none⟩ i)=(#[.string (Ko (s.p c)).1,.string (Ko (s.p c)).2]:Array Value)[i]?:=fun k i=>by rw[bG,aS (k.get0 b5),aD]
  have r5:=Upd.refl No h5;have z5:=f.size;have O:=by2.upd0 f;have nd5:=nd0.upd0 f;have h0b:∀y,S0 y→y<h5.size:=fun y g=>by have:=M y (h0 y g);omega
  cases hsp:s.p c with
  |some y=>
   rw[hsp]at w5;obtain⟨J,hk0,hTn⟩:lc= [y]∧s.k c=none∧∀y,¬T c y:=by
    rcases hsi with⟨_,j,_⟩|⟨q,h1,j,h3,h4⟩|⟨_,j,_⟩
    ·rw[hsp]at j;cases j
    ·rw[hsp]at j;cases j;exact⟨h1,h3,h4⟩
    ·rw[hsp]at j;cases j
   refine az.2 ⟨y.1,w5 r5 0,y.2,w5 r5 1,p.1,N f 0,p.2,N f 1,?_⟩;rw[kM,kM];have hyl:y∈l:=(kF.1 (show y∈part x (12-m) c l by rw[hlp,J];exact aj.2 rfl)).1
   by_cases Y:y.1=p.1
   ·have C:bQ l p.1=true:=bO.2 ⟨y,hyl,decide_eq_true Y⟩
    by_cases e2:y.2=p.2
    ·rw[decide_eq_true Y,decide_eq_true e2]
     have hyp:y=p:=Prod.ext Y e2;have G:p∈l:=hyp▸hyl;refine az.2 ?_;rw[C]at hk;exact hk h5 b false S (u.tr f).wide (by rw[zn hr G];exact tt f) (fun y g=>⟨.inl g,by have:=M y g;omega⟩) (fun _=>⟨rfl,u.tr f⟩) (by rw[decide_eq_true G];rfl)
    ·rw[decide_eq_true Y,decide_eq_false e2]
     refine ah.2 ⟨y.1,w5 r5 0,p.1,N f 0,?_⟩;rw[kM,decide_eq_true Y];refine az.2 ⟨w,H f 3,p.1,N f 0,p.2,N f 1,?_⟩;refine m8 nd5 O L h0b hi (fun _ _=>hk0) p fun h6 b6 d6 n6 sp6 sk6 on6 B=>?_
     have P:p∉l:=fun hm=>by
      have:=hmp.2 hm;rw[J]at this;exact e2 (by rw[aj.1 this])
     have:=turn (T':=No) f.wide on6 B (fun c' D=>⟨eP D,eP D⟩) (.inr (.inl ⟨p,by rw[J,jO,if_neg (by rw[Y];exact dq _),if_pos Y],fg,fg,fun _ h=>h⟩)) (fun _ h=>h.elim) P
     rw[C]at this;exact this
   ·rw[decide_eq_false Y]
    refine ah.2 ⟨y.1,w5 r5 0,p.1,N f 0,?_⟩;rw[kM,decide_eq_false Y];refine ah.2 ⟨w,H f 3,_,H f 0,_,H f 1,_,H f 2,_,H f 3,_,H f 4,_,H f 5,y.1,w5 r5 0,y.2,w5 r5 1,p.1,N f 0,p.2,N f 1,?_⟩;have ew:IntKind.wrap .i64 (((12-m:Nat):Int)+1)=((13-m:Nat):Int):=by rw[nA (by omega)];omega
    rw[ew];refine K5 m y p (by omega) Y (gW (u.tr f)) O L fun h6 b6 Sk t6 Z B=>⟨H (f.tr B) 3,?_⟩
    have z6:=B.size;refine rj (nd5.upd0 B) (O.upd0 B) L hi (fun z hz=>by rw[hk0]at hz;cases hz) ⟨b6,0,none⟩ fun h7 b7 d7 n7 sp7 sk7 on7 hu7=>?_
    have C:bQ l p.1=false:=by
     rw[←htp,J];unfold bQ;rw[m6,decide_eq_false Y];rfl
    have P:p∉l:=fun hm=>by
     have:bQ l p.1=true:=bO.2 ⟨p,hm,decide_eq_true rfl⟩;rw[C]at this;cases this
    have:=turn (T':=Sk) (f.tr B).wide on7 hu7 (fun c' D=>⟨eP D,eP D⟩) (.inr (.inr (by rw[J];exact⟨by rw[Hf Y];omega,fg,b6,fg,t6⟩))) (fun y g=>⟨.inr (by have:=(Z y g).1;omega),(Z y g).2⟩) P
    rw[C]at this;exact this
  |none=>
   refine ah.2 (Dg (nd5.read O) hi ?_);cases hsk:s.k c with
   |none=>
    have hlc:lc= []:=by
     rcases hsi with⟨h1,_⟩|⟨q,_,j,_⟩|⟨_,_,kb,j,_⟩
     ·exact h1
     ·rw[hsp]at j;cases j
     ·rw[hsk]at j;cases j
    refine az.2 ⟨w,H f 3,p.1,N f 0,p.2,N f 1,?_⟩;refine m8 nd5 O L h0b hi (fun _ _=>hsk) p fun h6 b6 d6 n6 sp6 sk6 on6 B=>?_
    have C:bQ l p.1=false:=by rw[←htp,hlc];rfl
    have P:p∉l:=fun hm=>by
     have:bQ l p.1=true:=bO.2 ⟨p,hm,decide_eq_true rfl⟩;rw[C]at this;cases this
    have:=turn (T':=No) f.wide on6 B (fun c' D=>⟨eP D,eP D⟩) (.inr (.inl ⟨p,by rw[hlc];rfl,fg,fg,fun _ h=>h⟩)) (fun _ h=>h.elim) P
    rw[C]at this;exact this
   |some kp=>
    obtain⟨h2l,kb,rfl,tk⟩:2≤lc.length∧∃kb,kp=some ⟨kb,0,none⟩∧TrieO o W x j m kb lc (T c):=by
     rcases hsi with⟨_,_,j,_⟩|⟨q,_,j,_⟩|⟨h1,_,kb,j,h3⟩
     ·rw[hsk]at j;cases j
     ·rw[hsp]at j;cases j
     ·rw[hsk]at j;cases j;exact⟨h1,kb,rfl,h3⟩
    refine ah.2 ⟨_,H f 0,_,H f 1,_,H f 2,_,H f 3,_,H f 4,_,H f 5,p.1,N f 0,p.2,N f 1,?_⟩;have ew:IntKind.wrap .i64 (((12-m:Nat):Int)+1)=((13-m:Nat):Int):=by rw[nA (by omega)];omega
    rw[ew];refine ih (by omega) p (TrieO.upd0 f tk) O (gW (u.tr f)) (fun y g=>E y (I c y g).1) L (fun a e C=>hwS a e (I c _ C).1) hrp hnp fun h6 b6 ch Sk B t6 Z hsame Q=>?_
    have z6:=B.size;have w16:∀i,aG h6 (adr ⟨h.size,0,none⟩ i)=(#[.int .u64 x.k0,.int .u64 x.k1,.int .u64 x.mask,.pointer w,.string p.1,.int .u64 (lG x p.1)]:Array Value)[i]?:=fun i=>by
     rw[bG,aS (B.get (f.get0 (k2.get0 b1)) fun g=>by have:=M _ (I c _ g).1;omega),aD]
    have k26:Upd (T c) j h6:=f.wide.tr B;by_cases G:p∈l
    ·have Q:ch=false:=by rw[Q,decide_eq_true (hmp.2 G)];rfl
     have C:bQ l p.1=true:=bO.2 ⟨p,G,decide_eq_true rfl⟩;rw[C]at hk;rw[Q];refine az.2 ?_;obtain⟨_,k56⟩:=hsame Q;have k26:=f.tr k56;exact hk h6 b false S (u.tr k26).wide (by rw[zn hr G];exact tt k26) (fun y g=>⟨.inl g,by have:=M y g;omega⟩) (fun _=>⟨rfl,u.tr k26⟩) (by rw[decide_eq_true G];rfl)
    ·have Q:ch=true:=by rw[Q,decide_eq_false fun h=>G (hmp.1 h)];rfl
     rw[Q];refine ah.2 ⟨w,w16 3,?_⟩;have by6:=O.updS B fun a e C=>hwS a e (I c _ C).1
     have nd6:NodeO o W h6 b s S0:=nd5.imp (fun n=>⟨n.1.upd B fun y g=>.inl (E y (I c y g).1),n.2⟩) fun⟨e,d,n,sp,sk,on⟩=>⟨e,d,n,sp,sk,on.upd B fun y g=>(I c y g).2⟩
     refine rj nd6 by6 L hi (fun _ _=>hsp) ⟨b6,0,none⟩ fun h7 b7 d7 n7 sp7 sk7 on7 hu7=>?_
     have:=turn (T':=Sk) k26 on7 hu7 (fun c' D=>⟨eP D,eP D⟩) (.inr (.inr ⟨bB h2l (EP p),fg,b6,fg,t6⟩)) (fun y g=>⟨(Z y g).1.imp id fun h=>by omega,(Z y g).2⟩) G
     rw[htp];exact this
end Go.Proofs
namespace Go.Proofs
open Go Go.Lift
theorem I9{W S:Nat→Prop}{h:ad}{w o:Option Addr}{b:Nat}{l:List Pr}(u:BuckO o W h b l S)(t:By h w o)(N:∀a,o=some a→W a.block)(H:cp l)(q:l.length≤1000000000)(k:ByteArray){K:Option Addr→ad→Prop}
  (C:∀h' b' sp sk,OwnB (fun y=>S y∨h.size≤y) h' b' sp sk (mr k l) o→Upd S h h'→K (some ⟨b',0,none⟩) h'):
  HC PG mN [.pointer (some ⟨b,0,none⟩),.pointer w,.string k] [.c .ptr] K h:=by
 refine xX _ w k ?_;unfold qU bL c8 rO sA;obtain⟨sp,sk,ow,z,E,L,D,O⟩:=(u.read t).ex;refine f6 (d:=0) (n:=0) z (ah.2 ?_);refine EH u t N q fun G p s2 s Q j=>?_
 obtain⟨b2,hM,A,B,v,M,T,g⟩:=Q;refine⟨_,rfl,s2,db (i:=2) b2,?_⟩;refine EF (v.sl (W:=No) fun _ _ _ h=>h) v.cap H q k fun s3 F m f=>?_
 have b3:=f.get0 b2;refine⟨_,rfl,Lq (i:=2) b3 (show 2<6 by decide),Bp (i:=2) (c':=eg 0 0 s3 s true o) b3 rfl fun J I c=>?_⟩
 have V:=aF b2;have P:=j.size;have X:=f.size;have R:=c.size;refine C J p s3 s ⟨I,hM,fun x=>G.size≤x∧x<F.size,B,m.within.upd c fun x hx e=>?_,(M.upd f fun _ _ h=>h).upd c fun x hx e=>(g x hx).2.1 e,fun x hx=>⟨.inr (by omega),by omega,by omega⟩,fun x hx=>⟨(g x hx).1,(g x hx).2.1,by have:=(g x hx).2.2;omega⟩⟩ (((j.tr f).wide).trans c fun x hx=>?_)
 ·have e:x=p:=e
  have:=hx.1;omega
 ·have hx:x=p:=hx
  rw[hx];exact hM
set_option maxHeartbeats 2000000 in
theorem DC{W:Nat→Prop}{x:Hs}{w o:Option Addr}:∀(m:Nat),m≤13→∀{b:Nat} {l:List Pr} {S:Nat→Prop} (k:ByteArray) {h:ad},TrieO o W x h m b l S→By h w o→(∀y,W y→y<h.size)→(∀y,S y→W y)→(∀a,o=some a→W a.block)→(∀a,w=some a→¬S a.block)→cp l→l.length≤1000000→∀{K:(Option Addr)×Bool→ad→Prop},
  (∀C Z S',Upd S h C→TrieO o (fun y=>W y∨S' y) x C m Z (mr k l) S'→(∀y,S' y→(S y∨h.size≤y)∧y<C.size)→(bQ l k=false→Z=b∧Upd No h C)→K (some ⟨Z,0,none⟩,bQ l k) C)→
  HC PG jn [Jr x w k,.pointer (some ⟨b,0,none⟩),.int .i64 ((13-m:Nat):Int)] [.c .ptr,.c .bool] K h:=by
 intro m;induction m with
 |zero=>
  intro _ b l S k h t by_ hW u I hwS hr hn K Y;have V:∀y,S y→y<h.size:=fun y f=>hW y (u y f)
  refine pI (x.k0,x.k1,x.mask,w,k,lG x k) (some ⟨b,0,none⟩) ((13-0:Nat):Int) ?_;unfold l9 af aA aE nv su y9 rP ui Jj uG C9 qd ld CQ zH;refine aX fun F b1 k1=>?_
  have bk:BuckO o W F b l S:=BuckO.upd0 t k1;have Q:=by_.upd0 k1;have bkr:=bk.read Q;obtain⟨sp,sk,ow,hb,_⟩:=bkr.ex;refine f6 (d:=0) (n:=0) hb (az.2 ⟨_,vc b1 4,Mp bkr hr (by omega) k fun h3 v G hv=>?_⟩)
  have b3:=G.get0 b1;have L:=k1.tr G;have z03:=L.size;cases i:bQ l k with
  |false=>
   rw[i]at Y;refine az.2 (Y h3 b S L.wide (by rw[vg (zL i)];exact(BuckO.upd0 t L).imp (fun n=>⟨n.1.less fun y f=>.inl (f.elim id (u y)),n.2⟩) id) (fun y f=>⟨.inl f,by have:=V y f;omega⟩) fun _=>⟨rfl,L⟩)
  |true=>
   rw[i]at Y;refine ah.2 ⟨w,vc b3 3,_,vc b3 4,?_⟩;refine I9 (bk.upd0 G) (Q.upd0 G) I hr (by omega) k fun h5 b5 sp5 sk5 on5 X=>?_
   have z5:=X.size;have hS0:o=none→∀y,¬S y:=fun e y f=>by
    rcases t with⟨_,h⟩|⟨h,_⟩
    ·exact h y f
    ·rw[e]at h;cases h
   exact Y h5 b5 _ (L.wide.tr X) (tL (W:=fun y=>W y∨(o.isSome=true∧(S y∨h3.size≤y)∧y<h5.size)) on5 fun e=>⟨hS0 e,fun y f=>f.elim (fun h=>by have:=hW y h;omega) fun h=>by rw[e]at h;cases h.1⟩) (fun y f=>⟨f.2.1.imp id fun h=>by omega,f.2.2⟩) (fun h=>by cases h)
 |succ m ih=>
  intro hm b l S k h t by_ hW u I hwS hr hn K Y;have gW:∀{C},Upd No h C→∀y,W y→y<C.size:=fun k y f=>bI (hW y f) k.size
  have V:∀y,S y→y<h.size:=fun y f=>hW y (u y f)
  have hl:13-(m+1)<13:=by omega
  have hlev:13-(m+1)=12-m:=by omega
  refine pI (x.k0,x.k1,x.mask,w,k,lG x k) (some ⟨b,0,none⟩) ((13-(m+1):Nat):Int) ?_;unfold l9 af aA aE nv su y9 rP ui Jj uG C9 qd ld CQ zH;refine aX fun F b1 k1=>?_
  have z1:=aF b1;have Q:=by_.upd0 k1;have hno:o=none→∀y,¬S y:=fun e=>by subst e;exact t.off.2
  obtain⟨s,S0,T,nd0,h0,B,hd,hs⟩:=(TrieO.upd0 k1 t).view;have ndr:=nd0.read Q;obtain⟨d,n,sp,sk,ow,hb,_⟩:=ndr.ex;refine f6 hb (ah.2 ⟨_,vc b1 5,KY hl ?_⟩);rw[hlev];have hi:=ww x (12-m) k;have hsi:=hs _ hi;have O:bQ (part x (12-m) (ck x (12-m) k) l) k=bQ l k:=zK;have hrp:cp (part x (12-m) (ck x (12-m) k) l):=oD hr;have hnp:(part x (12-m) (ck x (12-m) k) l).length≤1000000:=bB lO hn
  have H:∀y,S y→y<F.size:=fun y f=>by have:=V y f;omega
  have turn:∀{hz C:ad} {Z d n:Nat} {sp sk:SliceV} {s':Slots} {T':Nat→Prop},Upd (T (ck x (12-m) k)) F hz→OwnN (fun y=>S0 y∨hz.size≤y) C Z d n sp sk s' o→Upd S0 hz C→(∀c,c≠ck x (12-m) k→s'.p c=s.p c∧s'.k c=s.k c)→
    SlotO o (fun y=>W y∨T' y) x hz m s' (ck x (12-m) k) (mr k (part x (12-m) (ck x (12-m) k) l)) T'→(∀y,T' y→(T (ck x (12-m) k) y∨F.size≤y)∧y<hz.size)→bQ l k=true→
    K (some ⟨Z,0,none⟩,bQ l k) C:=fun{hz C Z d n sp sk s' T'} ku on ku2 hp hslot J hth=>by
   have zz:=ku.size;have zz':=ku2.size;have hT0:∀y,T' y→¬S0 y∧∀c,c≠ck x (12-m) k→¬T c y:=fun y f=>by
    rcases(J y f).1 with h|h
    ·exact⟨(B _ y h).2,fun c hc i=>hc (hd _ _ y i h)⟩
    ·exact⟨fun hs=>by have:=H y (h0 y hs);omega,fun c _ i=>by have:=H y (B c y i).1;omega⟩
   refine Y C Z _ ((k1.wide.tr (ku.mono fun y f=>.inl (B _ y f).1)).tr (ku2.mono fun y f=>.inl (h0 y f))) (uH (W:=W) (W1:=fun y=>W y∨T' y) (T:=T) (T':=T') (c0:=ck x (12-m) k) (s:=s) (hz:=hz) on ku2 (fun c hc hcc=>?_) hp ?_ (fun y f=>.inl f) (fun y f=>.inl (u y (h0 y f))) (fun c y f=>.inl (u y (B c y f).1)) (fun y f=>.inr f) (fun c y f=>⟨by have:=H y (B c y f).1;omega,(B c y f).2⟩) (fun y f=>⟨(J y f).2,hT0 y f⟩) hd fun e=>⟨fun y f=>hno e y (h0 y f),fun y f=>f.elim (fun h=>by have:=hW y h;omega) fun h=>(J y h).2⟩) (fun y f=>?_) (fun h=>by rw[hth]at h;cases h)
   ·rw[Ix hcc]
    refine((hs c hc).less (W':=fun y=>W y∨T' y) fun y f=>f.elim .inl fun h=>(J y h).1.imp (fun h=>u y (B _ y h).1) id).upd ku (fun y f=>H y (B c y f).1) fun y f=>.inl ⟨.inl (u y (B _ y f).1),fun h=>hcc (hd _ _ y h f)⟩
   ·rw[EB];exact hslot
   ·have:=GR (S:=S) (z0:=h.size) h0 (fun c y f=>⟨(B c y f).1,by have:=H y (B c y f).1;omega⟩) (fun y f=>⟨(J y f).1.imp (fun h=>(B _ y h).1) fun h=>by omega,by have:=(J y f).2;omega⟩) (by omega) f
    exact this
  have same:∀{C:ad},Upd No F C→bQ l k=false→K (some ⟨b,0,none⟩,false) C:=fun{C} hu i=>by
   have z:=hu.size;have:=Y _ b S (k1.tr hu).wide (by rw[vg (zL i)];exact(TrieO.upd0 (k1.tr hu) t).less fun y f=>.inl (f.elim id (u y))) (fun y f=>⟨.inl f,by have:=H y f;omega⟩) fun _=>⟨rfl,k1.tr hu⟩
   rw[i]at this;exact this
  clear Y;generalize hc:ck x (12-m) k=c at*;generalize hlc:part x (12-m) c l=lc at*;refine An ndr hi fun h3 G=>?_
  refine aX fun h4 b4 k4=>?_
  have b4':h4[h3.size]? =some (.cells #[.string Fv.1,.string Fv.2] ar (0,0)):=b4;refine yv (p:=Ko (s.p c)) b4' fun h5 b5 X=>?_
  have g:Upd No F h5:=(G.tr k4).own X G.size;have z15:=g.size;have c1:=g.get0 b1;have nd5:=nd0.upd0 g;have R:=Q.upd0 g;cases hsp:s.p c with
  |some y=>
   rw[hsp]at b5;obtain⟨M,hk0⟩:lc= [y]∧s.k c=none:=by
    rcases hsi with⟨_,j,_⟩|⟨q,F,j,h3,_⟩|⟨_,j,_⟩
    ·rw[hsp]at j;cases j
    ·rw[hsp]at j;cases j;exact⟨F,h3⟩
    ·rw[hsp]at j;cases j
   refine az.2 ⟨y.1,vc b5 0,k,vc c1 4,?_⟩;rw[kM];by_cases e1:y.1=k
   ·have i:bQ l k=true:=by rw[←O,M];exact bO.2 ⟨y,aj.2 rfl,decide_eq_true e1⟩
    rw[decide_eq_true e1];refine ah.2 ⟨w,vc c1 3,IX nd5 R I hi fun h6 b6 d6 n6 sp6 sk6 on6 E=>?_⟩
    have:=turn (T':=No) g.wide on6 E (fun c' D=>⟨eP D,eP D⟩) (.inl ⟨by rw[M,tI,if_pos e1];rfl,fg,fg,fun _ h=>h⟩) (fun _ h=>h.elim) i
    rw[i]at this;exact this
   ·rw[decide_eq_false e1]
    have i:bQ l k=false:=by
     rw[←O,M];unfold bQ;rw[m6,decide_eq_false e1];rfl
    exact az.2 (same g i)
  |none=>
   refine ah.2 (Dg (nd5.read R) hi ?_);cases hsk:s.k c with
   |none=>
    have hlc0:lc= []:=by
     rcases hsi with⟨F,_⟩|⟨q,_,j,_⟩|⟨_,_,kb,j,_⟩
     ·exact F
     ·rw[hsp]at j;cases j
     ·rw[hsk]at j;cases j
    exact az.2 (same g (by rw[←O,hlc0];rfl))
   |some kp=>
    obtain⟨h2l,kb,rfl,tk⟩:2≤lc.length∧∃kb,kp=some ⟨kb,0,none⟩∧TrieO o W x F m kb lc (T c):=by
     rcases hsi with⟨_,_,j,_⟩|⟨q,_,j,_⟩|⟨F,_,kb,j,h3⟩
     ·rw[hsk]at j;cases j
     ·rw[hsp]at j;cases j
     ·rw[hsk]at j;cases j;exact⟨F,kb,rfl,h3⟩
    refine ah.2 ⟨_,vc c1 0,_,vc c1 1,_,vc c1 2,_,vc c1 3,_,vc c1 4,_,vc c1 5,?_⟩;have ew:IntKind.wrap .i64 (((12-m:Nat):Int)+1)=((13-m:Nat):Int):=by rw[nA (by omega)];omega
    rw[ew];refine ih (by omega) k (TrieO.upd0 g tk) R (gW (k1.tr g)) (fun y f=>u y (B c y f).1) I (fun a e i=>hwS a e (B c _ i).1) hrp hnp fun h6 b6 Sk E t6 hSk hsame=>?_
    have z6:=E.size;rw[O];cases i:bQ l k with
    |false=>exact az.2 (same (g.tr (hsame (by rw[O,i])).2) i)
    |true=>
     have k16:Upd (T c) F h6:=g.wide.tr E;have by6:=R.updS E fun a e i=>hwS a e (B c _ i).1
     have c6:=E.get c1 fun f=>by have:=V _ (B c _ f).1;omega
     have nd6:NodeO o W h6 b s S0:=nd5.imp (fun n=>⟨n.1.upd E fun y f=>.inl (u y (B c y f).1),n.2⟩) fun⟨e,d,n,sp,sk,on⟩=>⟨e,d,n,sp,sk,on.upd E fun y f=>(B c y f).2⟩
     have hdl:=HJ (k:=k) hrp;have hdn:(mr k lc).length≤1000000:=bB KT hnp;refine ah.2 (Lh (t6.read by6) hdn fun h7 p hu7 hp=>?_)
     refine aX fun h8 b8 k8=>?_
     have b8':h8[h7.size]? =some (.cells #[.string Fv.1,.string Fv.2] ar (0,0)):=b8;refine yv (p:=p) b8' fun h9 b9 hu9=>?_
     have A:Upd No h6 h9:=(hu7.tr k8).own hu9 hu7.size;have z69:=A.size;have c9:=A.get0 c6;have nd9:=nd6.upd0 A;have by9:=by6.upd0 A;have k19:Upd (T c) F h9:=k16.tr A.wide;refine bj (fun e=>?_) fun e=>?_
     ·refine⟨w,vc c9 3,p.1,vc b9 0,p.2,vc b9 1,m8 nd9 by9 I (fun y f=>by have:=H y (h0 y f);omega) hi (fun y f=>by rw[hsp]at f;cases f) p fun h10 b10 d10 n10 sp10 sk10 N P=>?_⟩
      have:=turn (T':=No) k19 N P (fun c' D=>⟨eP D,eP D⟩) (.inr (.inl ⟨p,hp e,fg,fg,fun _ h=>h⟩)) (fun _ h=>h.elim) i
      rw[i]at this;exact this
     ·refine⟨w,vc c9 3,rj nd9 by9 I hi (fun _ _=>hsp) ⟨b6,0,none⟩ fun h10 b10 d10 n10 sp10 sk10 N P=>?_⟩
      have:=turn (T':=Sk) k19 N P (fun c' D=>⟨eP D,eP D⟩) (.inr (.inr ⟨by omega,fg,b6,fg,TrieO.upd0 A t6⟩)) (fun y f=>⟨(hSk y f).1.imp id fun h=>by omega,by have:=(hSk y f).2;omega⟩) i
      rw[i]at this;exact this
end Go.Proofs
namespace Go.Proofs
open Go Go.Lift
theorem B2{h:ad}{b:Nat}{K:Option Addr→ad→Prop}(a:K (some ⟨b,0,none⟩) h):HC PG jX [.pointer (some ⟨b,0,none⟩)] [.c .ptr] K h:=by
 refine DW _ ?_;unfold xa;exact ah.2 a
theorem yp{h:ad}{b:Nat}{K:Option Addr→ad→Prop}(a:K (some ⟨b,0,none⟩) h):HC PG oc [.pointer (some ⟨b,0,none⟩)] [.c .ptr] K h:=by
 refine DN _ ?_;unfold wW;exact ah.2 a
structure Can(o w:Option Addr)(W S:Nat→Prop)(h:ad):Prop where
 by_:By h w o
 lt:∀y,W y→y<h.size
 sub:∀y,S y→W y
 tok:∀a,o=some a→W a.block
 off:∀a,w=some a→¬S a.block
theorem Can.upd0{o w:Option Addr}{W S:Nat→Prop}{h a:ad}(c:Can o w W S h)(k:Upd No h a):Can o w W S a:=⟨c.by_.upd0 k,fun y b=>bI (c.lt y b) k.size,c.sub,c.tok,c.off⟩
theorem DB{o w:Option Addr}{W S:Nat→Prop}{x:Hs}{h:ad}{b:Nat}{l:List Pr}(t:TrieO o W x h 13 b l S)(c:Can o w W S h)(Z:cp l)(Y:l.length≤1000000)(p:Pr){K:Option Addr×Bool→ad→Prop}
  (X:∀h' b' S',Upd S h h'→TrieO o (fun y=>W y∨S' y) x h' 13 b' (jc p l) S'→(∀y,S' y→(S y∨h.size≤y)∧y<h'.size)→K (some ⟨b',0,none⟩, !bQ l p.1) h'):
  HC PG sZ [.agg #[.int .u64 x.k0,.int .u64 x.k1,.int .u64 x.mask],.pointer w,.pointer (some ⟨b,0,none⟩),.agg #[.string p.1,.string p.2]] [.c .ptr,.c .bool] K h:=by
 refine Fi (x.k0,x.k1,x.mask) w (some ⟨b,0,none⟩) p ?_;unfold yQ af aA aE gC Ai vE rP ui uG My MF;refine aX fun C b1 k1=>aX fun A b2 R=>?_
 have d:∀{h':ad},Upd No A h'→∀i,aG h' (adr ⟨h.size,0,none⟩ i)=(#[.int .u64 x.k0,.int .u64 x.k1,.int .u64 x.mask]:Array Value)[i]?:=fun k i=>vc (k.get0 (R.get0 b1)) i
 have s:∀{h':ad},Upd No A h'→∀i,aG h' (adr ⟨C.size,0,none⟩ i)=(#[.string p.1,.string p.2]:Array Value)[i]?:=fun k i=>vc (k.get0 b2) i
 have z:=Upd.refl No A;have L:=k1.tr R;let H:List Value:= [.int .u64 x.k0,.int .u64 x.k1,.int .u64 x.mask,.pointer w,.string p.1,.int .u64 (lG x p.1)]
 have fin:∀{f:ad} {j:Nat},Upd No A f→f[j]? =some (.cells H.toArray jJ (0,0))→
   ∃v15:Int,aG f (adr ⟨j,0,none⟩ 0)=some (.int .u64 v15)∧
    ∃v16:Int,aG f (adr ⟨j,0,none⟩ 1)=some (.int .u64 v16)∧
    ∃v17:Int,aG f (adr ⟨j,0,none⟩ 2)=some (.int .u64 v17)∧
    ∃v18:Option Addr,aG f (adr ⟨j,0,none⟩ 3)=some (.pointer v18)∧
    ∃v19:ByteArray,aG f (adr ⟨j,0,none⟩ 4)=some (.string v19)∧
    ∃v20:Int,aG f (adr ⟨j,0,none⟩ 5)=some (.int .u64 v20)∧
    ∃v21:ByteArray,aG f (adr ⟨C.size,0,none⟩ 0)=some (.string v21)∧
    ∃v22:ByteArray,aG f (adr ⟨C.size,0,none⟩ 1)=some (.string v22)∧
    HC PG jX [.pointer (some ⟨b,0,none⟩)] [.c .ptr] (fun(N:Option Addr) e=>
     ((aG e (adr ⟨C.size,0,none⟩ 0)=some (.string v21)∧aG e (adr ⟨C.size,0,none⟩ 1)=some (.string v22))∧
      ((aG e (adr ⟨j,0,none⟩ 0)=some (.int .u64 v15)∧aG e (adr ⟨j,0,none⟩ 1)=some (.int .u64 v16)∧aG e (adr ⟨j,0,none⟩ 2)=some (.int .u64 v17)∧aG e (adr ⟨j,0,none⟩ 3)=some (.pointer v18)∧aG e (adr ⟨j,0,none⟩ 4)=some (.string v19)∧aG e (adr ⟨j,0,none⟩ 5)=some (.int .u64 v20))∧
       HC PG f9 [.agg #[.int .u64 v15,.int .u64 v16,.int .u64 v17,.pointer v18,.string v19,.int .u64 v20],.pointer N,.agg #[.string v21,.string v22],.int .i64 0] [.c .ptr,.c .bool,.c .bool] (fun(F:(Option Addr)×Bool×Bool) M=>
        K (F.1,F.2.1) M) e))) f:=fun{f j} a P=>by
  have n:∀i,aG f (adr ⟨j,0,none⟩ i)=H.toArray[i]?:=fun i=>vc P i
  refine⟨_,n 0,_,n 1,_,n 2,_,n 3,_,n 4,_,n 5,p.1,s a 0,p.2,s a 1,B2 ?_⟩;refine⟨⟨s a 0,s a 1⟩,⟨n 0,n 1,n 2,n 3,n 4,n 5⟩,?_⟩;have u:=L.tr a;have E:=c.upd0 u;have z4:=u.size;exact LL 13 (au _) p (TrieO.upd0 u t) E.by_ E.lt E.sub E.tok E.off Z Y fun Q O ch S6 B V D _ _=>X Q O S6 (u.wide.tr B) V fun y G=>⟨(D y G).1.imp id fun h=>by omega,(D y G).2⟩
 have own:∀{I f:ad} {b:Nat},A.size≤b→Upd (· =b) I f→Upd No A I→Upd No A f:=fun T hu k=>k.trans hu fun y G=>.inr (G▸T)
 refine⟨_,d z 0,_,d z 1,_,d z 2,_,s z 0,_,d z 0,_,d z 1,_,d z 2,_,s z 0,?_,?_⟩
 ·refine rv fun I m=>⟨s m 0,⟨d m 0,d m 1,d m 2⟩,?_⟩
  refine aX fun f J q=>?_
  have a:=m.tr q;refine⟨s a 0,⟨d a 0,d a 1,d a 2⟩,?_⟩;refine fc (vs:=H) J rfl fun h5 b5 v=>fin (own m.size v a) b5
 ·refine aX fun f J q=>?_
  refine⟨s q 0,⟨d q 0,d q 1,d q 2⟩,s q 0,⟨d q 0,d q 1,d q 2⟩,?_⟩;refine rv fun h5 v=>?_
  have g:=q.tr v;refine⟨s g 0,⟨d g 0,d g 1,d g 2⟩,?_⟩;exact fc (vs:=H) (v.get0 J) rfl fun Q O B=>fin (own (au _) B g) O
theorem Bv{o w:Option Addr}{W S:Nat→Prop}{x:Hs}{h:ad}{b:Nat}{l:List Pr}(t:TrieO o W x h 13 b l S)(c:Can o w W S h)(s:cp l)(q:l.length≤1000000)(k:ByteArray){K:Option Addr×Bool→ad→Prop}
  (n:∀h' b' S',Upd S h h'→TrieO o (fun y=>W y∨S' y) x h' 13 b' (mr k l) S'→(∀y,S' y→(S y∨h.size≤y)∧y<h'.size)→(bQ l k=false→b'=b)→K (some ⟨b',0,none⟩,bQ l k) h'):
  HC PG rE [.agg #[.int .u64 x.k0,.int .u64 x.k1,.int .u64 x.mask],.pointer w,.pointer (some ⟨b,0,none⟩),.string k] [.c .ptr,.c .bool] K h:=by
 refine DX (x.k0,x.k1,x.mask) w (some ⟨b,0,none⟩) k ?_;unfold xb af Ai vE uG;refine aX fun C b1 k1=>B2 ?_
 refine⟨_,vc b1 0,_,vc b1 1,_,vc b1 2,_,vc b1 0,_,vc b1 1,_,vc b1 2,?_⟩;refine rv fun B e=>?_
 have g:=e.get0 b1;refine⟨⟨vc g 0,vc g 1,vc g 2⟩,?_⟩;have a:=k1.tr e;have d:=c.upd0 a;have D:=a.size;exact DC 13 (au _) k (TrieO.upd0 a t) d.by_ d.lt d.sub d.tok d.off s q fun v u p i A f j=>n v u p (a.wide.tr i) A (fun y m=>⟨(f y m).1.imp id fun h=>by omega,(f y m).2⟩) fun z=>(j z).1
def RadO(o:Option Addr)(W:Nat→Prop)(h:ad)(b:Nat)(l:List Pr)(S:Nat→Prop):Prop:=∃w F,RxO o W h b ⟨#[]⟩ w F S∧dW F∧∀k v,(k,v)∈mq w F↔∃p∈l,p.1.data.toList=k∧p.2=v
theorem C2{o w:Option Addr}{W S:Nat→Prop}{h:ad}{b:Nat}{l:List Pr}(t:RadO o W h b l S)(c:Can o w W S h)(m:cp l)(p:Pr)(G:p.1.size≤1000000){K:Option Addr×Bool→ad→Prop}
  (A:∀h' b' S' a,Upd S h h'→RadO o (fun y=>W y∨S' y) h' b' (jc p l) S'→(∀y,S' y→(S y∨h.size≤y)∧y<h'.size)→K (some ⟨b',0,none⟩,a) h'):
  HC PG sW [.pointer w,.pointer (some ⟨b,0,none⟩),.agg #[.string p.1,.string p.2]] [.c .ptr,.c .bool] K h:=by
 refine Fc w (some ⟨b,0,none⟩) p ?_;unfold yL aE ui Jy;refine aX fun L b1 k1=>?_
 refine⟨p.1,vc b1 0,p.2,vc b1 1,yp ⟨vc b1 1,vc b1 0,?_⟩⟩;obtain⟨w0,F,I,D,z⟩:=t;have f:=c.upd0 k1;have J:=k1.size;refine Ie (p.1.size+1) p.1 p.2 (by omega) G (I.upd0 k1) f.by_ f.lt f.sub f.tok f.off D fun C b3 w' F' E a M u n i j s H B=>?_
 refine A C b3 E a (k1.wide.tr u) ⟨w',F',n,j,fun k v=>?_⟩ fun y x=>⟨(i y x).1.imp id fun h=>by omega,(i y x).2⟩
 rw[lQ,s k v,←lQ,z k v];constructor
 ·rintro(⟨rfl,rfl⟩|⟨d,q,g,rfl,rfl⟩)
  ·exact⟨p,(pr m).2 (.inl rfl),rfl,rfl⟩
  ·exact⟨q,(pr m).2 (.inr ⟨g,fun e=>d (by rw[e])⟩),rfl,rfl⟩
 ·rintro⟨q,g,rfl,rfl⟩
  rcases(pr m).1 g with rfl|⟨g,d⟩
  ·exact .inl ⟨rfl,rfl⟩
  ·exact .inr ⟨fun e=>d (rF.1 e),q,g,rfl,rfl⟩
theorem FX{w:Option ByteArray}{F:Fo}{l:List Pr}(h:∀k v,(k,v)∈mq w F↔∃p∈l,p.1.data.toList=k∧p.2=v)(b:Fit l):∀j v,m0 F j v→j.length≤1000000:=fun j v hi=>by
 obtain⟨p,a,e,_⟩:=(h j v).1 (lQ.2 (.inr hi));have:=(b p a).1;rw[←e,jK];omega
theorem Bl{o w:Option Addr}{W S:Nat→Prop}{h:ad}{b:Nat}{l:List Pr}(t:RadO o W h b l S)(c:Can o w W S h)(G:Fit l)(k:ByteArray){K:Option Addr×Bool→ad→Prop}
  (D:∀h' b' S',Upd S h h'→RadO o (fun y=>W y∨S' y) h' b' (mr k l) S'→(∀y,S' y→(S y∨h.size≤y)∧y<h'.size)→(bQ l k=false→b'=b)→K (some ⟨b',0,none⟩,bQ l k) h'):
  HC PG rB [.pointer w,.pointer (some ⟨b,0,none⟩),.string k] [.c .ptr,.c .bool] K h:=by
 refine DP w (some ⟨b,0,none⟩) k ?_;unfold wX Jj;refine yp ?_;obtain⟨w0,F,M,H,m⟩:=t;refine Ih (k.size+1) k (by omega) M c.by_ c.lt c.sub c.tok c.off H (FX m G) fun E b3 w' F' J a z u A n C i x=>?_
 have g:∀v,nF w0 F k.data.toList v↔(k,v)∈l:=fun v=>by
  rw[←lQ,m];constructor
  ·rintro⟨p,B,L,rfl⟩
   rw[←rF.1 L];exact B
  ·intro B;exact⟨_,B,rfl,rfl⟩
 have s:a=bQ l k:=by
  cases a with
  |false=>
   refine(EJ fun q d e=>(i rfl).2.2.2.2 q.2 ((g _).2 ?_)).symm
   rw[←e];exact d
  |true=>
   obtain⟨v,hv⟩:=x rfl;exact(bO.2 ⟨_,(g v).1 hv,decide_eq_true rfl⟩).symm
 subst s;refine D E b3 J z ⟨w',F',u,n,fun j v=>?_⟩ A fun I=>(i I).1
 rw[lQ,C j v,←lQ,m];constructor
 ·rintro⟨f,q,d,rfl,rfl⟩
  exact⟨q,zl.2 ⟨d,fun e=>f (by rw[e])⟩,rfl,rfl⟩
 ·rintro⟨q,d,rfl,rfl⟩
  obtain⟨d,f⟩:=zl.1 d;exact⟨fun e=>f (rF.1 e),q,d,rfl,rfl⟩
end Go.Proofs
namespace Go.Proofs
open Go Go.Lift
def C1(p:Pr):Int:=if 256<p.1.size then 2 else if 4096<p.2.size then 3 else 0
theorem Ik{p:Pr}(h:C1 p=0):p.1.size≤256∧p.2.size≤4096:=by
 unfold C1 at h;split at h
 ·cases h
 ·split at h
  ·cases h
  ·omega
theorem Hq{p:Pr}{h:ad}{K:Int→ad→Prop}(a:K (C1 p) h):HC PG oh [.string p.1,.string p.2] [.c (.int .i64)] K h:=by
 refine DS p.1 p.2 ?_;unfold w6;unfold C1 at a;refine bj (fun e=>?_) fun e=>bj (fun e'=>?_) fun e'=>?_
 ·rw[if_pos (by omega)]at a;exact a
 ·rw[if_neg (by omega),if_pos (by omega)]at a;exact a
 ·rw[if_neg (by omega),if_neg (by omega)]at a;exact a
end Go.Proofs
namespace Go.Proofs
open Go Go.Lift
def Du(l:List Pr)(k:ByteArray):Int:=if 256<k.size then 2 else if bQ l k then 0 else 4
def oy(l:List Pr)(p:Pr):List Pr:=if C1 p=0 then jc p l else l
def oK(l:List Pr)(k:ByteArray):List Pr:=if 256<k.size then l else mr k l
theorem RadO.upd{o:Option Addr}{W M S:Nat→Prop}{h a:ad}{b:Nat}{l:List Pr}(k:Upd M h a)(t:RadO o W h b l S)(d:∀y,S y→y<h.size)(hm:∀y,M y→(W y∧¬S y)∨h.size≤y):RadO o W a b l S:=let⟨w,F,r,c,e⟩:=t;⟨w,F,r.upd k d hm,c,e⟩
theorem RadO.less{o:Option Addr}{W W' S:Nat→Prop}{h:ad}{b:Nat}{l:List Pr}(hm:∀y,W' y→W y∨h.size≤y)(t:RadO o W h b l S):RadO o W' h b l S:=let⟨w,F,r,c,e⟩:=t;⟨w,F,r.less hm,c,e⟩
def TreeO(o:Option Addr)(W:Nat→Prop)(h:ad)(a:Int)(x:Hs)(t:Tr)(l:List Pr)(S:Nat→Prop):Prop:=(a=0∧∃b,t=(0,x.k0,x.k1,x.mask,some ⟨b,0,none⟩,none)∧TrieO o W x h 13 b l S)∨(a=1∧∃b,t=(1,0,0,0,none,some ⟨b,0,none⟩)∧RadO o W h b l S)
theorem sB{o:Option Addr}{W:Nat→Prop}{h:ad}{a:Int}{x:Hs}{t:Tr}{l:List Pr}(i:TreeIs W h a x t l):TreeO o W h a x t l No:=
 i.imp (fun⟨e,b,c,t⟩=>⟨e,b,c,Ec t⟩) fun⟨e,b,c,t⟩=>⟨e,b,c,let⟨w,F,g,f,d⟩:=t.ex;⟨w,F,.inl ⟨g,fun _ h=>h⟩,f,d⟩⟩
theorem TreeO.upd{o:Option Addr}{W M S:Nat→Prop}{h d:ad}{a:Int}{x:Hs}{t:Tr}{l:List Pr}(k:Upd M h d)(i:TreeO o W h a x t l S)(f:∀y,S y→y<h.size)(hm:∀y,M y→(W y∧¬S y)∨h.size≤y):TreeO o W d a x t l S:=
 i.imp (fun⟨e,b,c,t⟩=>⟨e,b,c,TrieO.upd k t f hm⟩) fun⟨e,b,c,t⟩=>⟨e,b,c,t.upd k f hm⟩
theorem TreeO.upd0{o:Option Addr}{W S:Nat→Prop}{h f:ad}{a:Int}{x:Hs}{t:Tr}{l:List Pr}(k:Upd No h f)(i:TreeO o W h a x t l S):TreeO o W f a x t l S:=
 i.imp (fun⟨e,b,d,t⟩=>⟨e,b,d,TrieO.upd0 k t⟩) fun⟨e,b,d,w,F,r,c⟩=>⟨e,b,d,w,F,r.upd0 k,c⟩
theorem TreeO.less{o:Option Addr}{W W' S:Nat→Prop}{h:ad}(hm:∀b,W' b→W b∨h.size≤b){a:Int}{x:Hs}{t:Tr}{l:List Pr}(i:TreeO o W h a x t l S):TreeO o W' h a x t l S:=
 i.imp (fun⟨e,b,c,t⟩=>⟨e,b,c,TrieO.less hm t⟩) fun⟨e,b,c,t⟩=>⟨e,b,c,t.less hm⟩
theorem TreeO.freeze{o:Option Addr}{W W' S:Nat→Prop}{h:ad}(d:∀y,W' y→W y)(f:OwOk W' h o){a:Int}{x:Hs}{t:Tr}{l:List Pr}(i:TreeO o W h a x t l S)(g:∀y,S y→¬W' y):TreeIs W' h a x t l:=
 i.imp (fun⟨e,b,c,t⟩=>⟨e,b,c,TrieO.freeze d f t g⟩) fun⟨e,b,c,w,F,r,c1,c2⟩=>⟨e,b,c,⟨w,F,r.freeze d f g,c1,c2⟩⟩
theorem TreeO.read{o w:Option Addr}{W S:Nat→Prop}{h:ad}{b:Int}{x:Hs}{t:Tr}{l:List Pr}(i:TreeO o W h b x t l S)(by_:By h w o):TreeIs No h b x t l:=
 i.freeze (fun _ h=>h.elim) (fun a e=>⟨id,by_.plain a (by_.tok e)⟩) fun _ _ h=>h
theorem Can.pro{o w:Option Addr}{W S:Nat→Prop}{h b:ad}(c:Can o w W S h)(k:Upd No h b):Can o w (Pro W h b) S b:=⟨c.by_.upd0 k,Pro.lt c.lt k,fun y d=>.inl (c.sub y d),fun a e=>.inl (c.tok a e),c.off⟩
theorem TreeO.pro{o:Option Addr}{W S:Nat→Prop}{h b:ad}(k:Upd No h b){a:Int}{x:Hs}{t:Tr}{l:List Pr}(i:TreeO o W h a x t l S):TreeO o (Pro W h b) b a x t l S:=(i.less Pro.hm).upd0 k
theorem TreeO.loc{o:Option Addr}{W S e:Nat→Prop}{h f g j:ad}{b:Nat}{a:Int}{x:Hs}{t:Tr}{l:List Pr}(i:TreeO o (fun y=>Pro W h f y∨e y) g a x t l e)(k:Upd (· =b) g j)(m:h.size≤b)(p:b<f.size)(q:∀y,S y→y<h.size)(d:∀y,e y→(S y∨f.size≤y)∧y<g.size):TreeO o (fun y=>Pro W h f y∨e y) j a x t l e:=
 i.upd k (fun y c=>(d y c).2) fun y c=>by
  have c:y=b:=c;subst c;refine .inl ⟨.inl (.inr ⟨m,p⟩),fun n=>?_⟩
  rcases(d y n).1 with h|h
  ·have:=q y h;omega
  ·omega
theorem BZ{o w:Option Addr}{W S:Nat→Prop}{x:Hs}{h:ad}{u:Int}{t:Tr}{l:List Pr}(i:TreeO o W h u x t l S)(c:Can o w W S h)(V:cp l)(hn:l.length≤1000000)(p:Pr){K:Tr×Int→ad→Prop}
  (F:∀h' v z,Upd S h h'→TreeO o (fun y=>W y∨z y) h' u x v (oy l p) z→(∀y,z y→(S y∨h.size≤y)∧y<h'.size)→(C1 p≠0→v=t)→K (v,C1 p) h'):HC PG g8 [FB t,.pointer w,.agg #[.string p.1,.string p.2]] [.agg [.int .i64,.int .u64,.int .u64,.int .u64,.ptr,.ptr],.c (.int .i64)] K h:=by
 unfold oy at F;have s:∀y,S y→y<h.size:=fun y a=>c.lt y (c.sub y a)
 refine xP t w p ?_;unfold qM bo af cE aA aE gC vE rd vI qv qz rP c8 ui;refine aX fun Y b1 k1=>aX fun J b2 Q=>aX fun O b3 N=>?_
 have z1:=aF b1;have z2:=aF b2;have z3:=aF b3;have s1:h.size≤Y.size:=k1.size;have s2:Y.size≤J.size:=Q.size;have s3:=N.size;have A:=(k1.tr Q).tr N;have m:=N.get0 (Q.get0 b1);have G:=N.get0 b2;refine⟨_,vc G 0,_,vc G 1,Hq (p:=p) ?_⟩;by_cases e:C1 p=0
 ·rw[if_pos e]at F
  have M:=Ik e;rw[e]at F⊢;refine ah.2 ?_;have i3:=i.pro A;have X:=c.pro A;have fin:∀{B D:ad} {v:Tr} {z:Nat→Prop},Upd S O B→TreeO o (fun y=>Pro W h O y∨z y) B u x v (jc p l) z→(∀y,z y→(S y∨O.size≤y)∧y<B.size)→D[h.size]? =some (.cells (gm v).toArray ax (0,0))→Upd (· =h.size) B D→D[J.size]? =some (.cells (gm zJ).toArray ax (0,0))→∀{C:ad},C[J.size]? =some (.cells (gm v).toArray ax (0,0))→Upd (· =J.size) D C→K (v,0) C:=fun{B D v z} L i4 g j d H {C} k n=>by
   have z4:=L.size;have z5:=d.size;have z6:=n.size;have i5:=i4.loc d (au _) (by omega) s g;have i6:=i5.loc n (by omega) (by omega) s fun y a=>⟨(g y a).1,by have:=(g y a).2;omega⟩
   refine F C v z (((A.wide.tr L).trans d fun y a=>.inr (by have a:y=h.size:=a;omega)).trans n fun y a=>.inr (by have a:y=J.size:=a;omega)) (i6.less fun y a=>.inl (a.imp .inl id)) (fun y a=>⟨(g y a).1.imp id fun h=>by omega,by have:=(g y a).2;omega⟩) fun h=>absurd rfl h
  rcases i3 with⟨rfl,b,rfl,P⟩|⟨rfl,b,rfl,P⟩
  ·refine⟨_,vc m 0,ah.2 ⟨_,nO m 1 0,_,nO m 1 1,_,nO m 1 2,_,vc m 4,p.1,vc G 0,p.2,vc G 1,?_⟩⟩
   refine DB P X V hn p fun B q Z f T g=>?_
   have I:∀{y},h.size≤y→¬S y:=fun a M=>by have:=s _ M;omega
   refine vH (i:=4) (c':=(gm (0,x.k0,x.k1,x.mask,some ⟨q,0,none⟩,none)).toArray) (f.get m (I (au _))) (show 4<6 by decide) rfl fun D j d=>?_
   refine⟨_,vc j 0,_,vc j 1,_,vc j 2,_,vc j 3,_,vc j 4,_,vc j 5,?_⟩;have H:=d.oth (f.get b3 (I (by omega))) (by omega);refine fc (c:=gm zJ) (vs:=gm (0,x.k0,x.k1,x.mask,some ⟨q,0,none⟩,none)) H rfl fun C k n=>?_
   exact⟨_,vc k 0,_,vc k 1,_,vc k 2,_,vc k 3,_,vc k 4,_,vc k 5,fin f (.inl ⟨rfl,q,rfl,T⟩) g j d H k n⟩
  ·refine⟨_,vc m 0,az.2 ⟨_,vc m 5,p.1,vc G 0,p.2,vc G 1,?_⟩⟩
   refine C2 P X V p (by omega) fun B q Z R f T g=>?_
   have I:∀{y},h.size≤y→¬S y:=fun a M=>by have:=s _ M;omega
   refine vH (i:=5) (c':=(gm (1,0,0,0,none,some ⟨q,0,none⟩)).toArray) (f.get m (I (au _))) (show 5<6 by decide) rfl fun D j d=>?_
   refine⟨_,vc j 0,_,vc j 1,_,vc j 2,_,vc j 3,_,vc j 4,_,vc j 5,?_⟩;have H:=d.oth (f.get b3 (I (by omega))) (by omega);refine fc (c:=gm zJ) (vs:=gm (1,0,0,0,none,some ⟨q,0,none⟩)) H rfl fun C k n=>?_
   exact⟨_,vc k 0,_,vc k 1,_,vc k 2,_,vc k 3,_,vc k 4,_,vc k 5,fin f (.inr ⟨rfl,q,rfl,T⟩) g j d H k n⟩
 ·rw[if_neg e]at F
  rw[show(C1 p !=0)=true by simpa using e]
  refine az.2 ⟨_,vc m 0,_,vc m 1,_,vc m 2,_,vc m 3,_,vc m 4,_,vc m 5,?_⟩;refine fc (c:=gm zJ) (vs:=gm t) b3 rfl fun B q f=>?_
  have E:=A.own f (by omega);exact⟨_,vc q 0,_,vc q 1,_,vc q 2,_,vc q 3,_,vc q 4,_,vc q 5,F B t S E.wide ((i.upd0 E).less fun y a=>.inl (a.elim id (c.sub y))) (fun y a=>⟨.inl a,by have:=s y a;have:=E.size;omega⟩) fun _=>rfl⟩
end Go.Proofs
namespace Go.Proofs
open Go Go.Lift
theorem vO{o w:Option Addr}{W S:Nat→Prop}{x:Hs}{h:ad}{u:Int}{t:Tr}{l:List Pr}(i:TreeO o W h u x t l S)(c:Can o w W S h)(hr:cp l)(hf:Fit l)(hn:l.length≤1000000)(k:ByteArray){K:Tr×Int→ad→Prop}
  (M:∀h' m q,Upd S h h'→TreeO o (fun y=>W y∨q y) h' u x m (oK l k) q→(∀y,q y→(S y∨h.size≤y)∧y<h'.size)→(Du l k≠0→m=t)→K (m,Du l k) h'):HC PG fT [FB t,.pointer w,.string k] [.agg [.int .i64,.int .u64,.int .u64,.int .u64,.ptr,.ptr],.c (.int .i64)] K h:=by
 unfold oK Du at M;have D:∀y,S y→y<h.size:=fun y d=>c.lt y (c.sub y d)
 refine tP t w k ?_;unfold nQ bo af cE aA gC nv vE rd vI qv qz c8 Jj;refine aX fun j b1 k1=>aX fun G b2 k2=>?_
 have z1:=aF b1;have z2:=aF b2;have s1:h.size≤j.size:=k1.size;have T:=k1.tr k2;have c1:=k2.get0 b1;refine Hq (p:=(k,⟨#[]⟩)) ?_;by_cases e:256<k.size
 ·rw[if_pos e,if_pos e]at M
  rw[show C1 (k,(⟨#[]⟩:ByteArray))=2 from if_pos e]
  refine az.2 ⟨_,vc c1 0,_,vc c1 1,_,vc c1 2,_,vc c1 3,_,vc c1 4,_,vc c1 5,?_⟩;refine fc (c:=gm zJ) (vs:=gm t) b2 rfl fun J I F=>?_
  have s:=T.own F s1;exact⟨_,vc I 0,_,vc I 1,_,vc I 2,_,vc I 3,_,vc I 4,_,vc I 5,M J t S s.wide ((i.upd0 s).less fun y d=>.inl (d.elim id (c.sub y))) (fun y d=>⟨.inl d,by have:=D y d;have:=s.size;omega⟩) fun _=>rfl⟩
 rw[if_neg e,if_neg e]at M;rw[show C1 (k,(⟨#[]⟩:ByteArray))=0 by unfold C1;rw[if_neg e];exact if_neg (Nat.not_lt.2 (Nat.zero_le 4096))]
 refine ah.2 ?_;refine⟨_,vc c1 0,_,vc c1 1,_,vc c1 2,_,vc c1 3,_,vc c1 4,_,vc c1 5,?_⟩;refine aX fun h3 b3 k3=>?_
 have z3:=aF b3;have s2:j.size≤G.size:=k2.size;refine fc (c:=gm zJ) (vs:=gm t) b3 rfl fun J I F=>?_
 have s:Upd No h J:=(T.tr k3).own F (by omega);have Y:Upd No G J:=k3.own F (au _);have s4:h3.size≤J.size:=F.size;have L:=Y.get0 c1;have d4:=Y.get0 b2;have i4:=i.pro s;have V:=c.pro s;have P:∀{y},h.size≤y→¬S y:=fun d hs=>by have:=D _ hs;omega
 have fin:∀{a:ad} {m:Tr} {q:Nat→Prop},Upd S h a→a[h.size]? =some (.cells (gm m).toArray ax (0,0))→a[j.size]? =some (.cells (gm zJ).toArray ax (0,0))→a[G.size]? =some (.cells (gm t).toArray ax (0,0))→TreeO o (fun y=>Pro W h J y∨q y) a u x m (mr k l) q→(∀y,q y→(S y∨J.size≤y)∧y<a.size)→(bQ l k=false→m=t)→
   CondP (!bQ l k) (∃v41:Int,aG a (adr (aC G) 0)=some (.int .i64 v41)∧
    ∃v42:Int,aG a (adr (aC G) 1)=some (.int .u64 v42)∧
    ∃v43:Int,aG a (adr (aC G) 2)=some (.int .u64 v43)∧
    ∃v44:Int,aG a (adr (aC G) 3)=some (.int .u64 v44)∧
    ∃v45:Option Addr,aG a (adr (aC G) 4)=some (.pointer v45)∧
    ∃v46:Option Addr,aG a (adr (aC G) 5)=some (.pointer v46)∧
    (rc a (some (aC j)) 0 [.int .i64 v41,.int .u64 v42,.int .u64 v43,.int .u64 v44,.pointer v45,.pointer v46]∧
     At (gd a (aC j) 0 [.int .i64 v41,.int .u64 v42,.int .u64 v43,.int .u64 v44,.pointer v45,.pointer v46]) (fun A=>
      ∃v48:Int,aG A (adr (aC j) 0)=some (.int .i64 v48)∧
      ∃v49:Int,aG A (adr (aC j) 1)=some (.int .u64 v49)∧
      ∃v50:Int,aG A (adr (aC j) 2)=some (.int .u64 v50)∧
      ∃v51:Int,aG A (adr (aC j) 3)=some (.int .u64 v51)∧
      ∃v52:Option Addr,aG A (adr (aC j) 4)=some (.pointer v52)∧
      ∃v53:Option Addr,aG A (adr (aC j) 5)=some (.pointer v53)∧
      K ((v48,v49,v50,v51,v52,v53),4) A))) (
    ∃v54:Int,aG a (adr (aC h) 0)=some (.int .i64 v54)∧
    ∃v55:Int,aG a (adr (aC h) 1)=some (.int .u64 v55)∧
    ∃v56:Int,aG a (adr (aC h) 2)=some (.int .u64 v56)∧
    ∃v57:Int,aG a (adr (aC h) 3)=some (.int .u64 v57)∧
    ∃v58:Option Addr,aG a (adr (aC h) 4)=some (.pointer v58)∧
    ∃v59:Option Addr,aG a (adr (aC h) 5)=some (.pointer v59)∧
    (rc a (some (aC j)) 0 [.int .i64 v54,.int .u64 v55,.int .u64 v56,.int .u64 v57,.pointer v58,.pointer v59]∧
     At (gd a (aC j) 0 [.int .i64 v54,.int .u64 v55,.int .u64 v56,.int .u64 v57,.pointer v58,.pointer v59]) (fun B=>
      ∃v61:Int,aG B (adr (aC j) 0)=some (.int .i64 v61)∧
      ∃v62:Int,aG B (adr (aC j) 1)=some (.int .u64 v62)∧
      ∃v63:Int,aG B (adr (aC j) 2)=some (.int .u64 v63)∧
      ∃v64:Int,aG B (adr (aC j) 3)=some (.int .u64 v64)∧
      ∃v65:Option Addr,aG B (adr (aC j) 4)=some (.pointer v65)∧
      ∃v66:Option Addr,aG B (adr (aC j) 5)=some (.pointer v66)∧
      K ((v61,v62,v63,v64,v65,v66),0) B))):=fun{a m q} k6 N Z O i6 E n=>by
  have done:∀{H:ad},Upd (· =j.size) a H→(bQ l k=false→m=t)→Upd S h H∧TreeO o (fun y=>W y∨q y) H u x m (mr k l) q∧∀y,q y→(S y∨h.size≤y)∧y<H.size:=fun{H} v _=>by
   have z7:=v.size;exact⟨k6.trans v fun y d=>.inr (by have d:y=j.size:=d;omega),(i6.loc v s1 (by omega) D E).less fun y d=>.inl (d.imp .inl id),fun y d=>⟨(E y d).1.imp id fun h=>by omega,by have:=(E y d).2;omega⟩⟩
  cases Q:bQ l k with
  |false=>
   rw[Q]at M n done;have hte:=n rfl;subst hte;refine az.2 ⟨_,vc O 0,_,vc O 1,_,vc O 2,_,vc O 3,_,vc O 4,_,vc O 5,?_⟩;refine fc (c:=gm zJ) (vs:=gm m) Z rfl fun H C v=>?_
   refine⟨_,vc C 0,_,vc C 1,_,vc C 2,_,vc C 3,_,vc C 4,_,vc C 5,?_⟩;obtain⟨a1,a2,a3⟩:=done v fun _=>rfl
   exact M H m q a1 a2 a3 fun _=>rfl
  |true=>
   rw[Q]at M n done;refine ah.2 ⟨_,vc N 0,_,vc N 1,_,vc N 2,_,vc N 3,_,vc N 4,_,vc N 5,?_⟩;refine fc (c:=gm zJ) (vs:=gm m) Z rfl fun H C v=>?_
   refine⟨_,vc C 0,_,vc C 1,_,vc C 2,_,vc C 3,_,vc C 4,_,vc C 5,?_⟩;obtain⟨a1,a2,a3⟩:=done v fun h=>by cases h
   exact M H m q a1 a2 a3 fun h=>absurd rfl h
 refine Join.intro (fun tk a=>tk=bQ l k∧∃m q,Upd S h a∧a[h.size]? =some (.cells (gm m).toArray ax (0,0))∧a[j.size]? =some (.cells (gm zJ).toArray ax (0,0))∧a[G.size]? =some (.cells (gm t).toArray ax (0,0))∧TreeO o (fun y=>Pro W h J y∨q y) a u x m (mr k l) q∧(∀y,q y→(S y∨J.size≤y)∧y<a.size)∧(bQ l k=false→m=t)) (fun R hR=>?_) ?_
 ·rcases i4 with⟨rfl,b,rfl,t4⟩|⟨rfl,b,rfl,t4⟩
  ·refine⟨_,vc L 0,ah.2 ⟨_,nO L 1 0,_,nO L 1 1,_,nO L 1 2,_,vc L 4,?_⟩⟩
   refine Bv t4 V hr hn k fun h5 X S5 g t5 z n=>?_
   have s5:=g.size;refine vH (i:=4) (c':=(gm (0,x.k0,x.k1,x.mask,some ⟨X,0,none⟩,none)).toArray) (g.get L (P (au _))) (show 4<6 by decide) rfl fun a b6 f=>?_
   have s6:=f.size;exact hR _ _ ⟨rfl,_,S5,(s.wide.tr g).trans f fun y d=>.inr (by have d:y=h.size:=d;omega),b6,f.oth (g.get d4 (P (by omega))) (by omega),f.oth (g.get I (P (by omega))) (by omega),TreeO.loc (.inl ⟨rfl,X,rfl,t5⟩) f (au _) (by omega) D z,fun y d=>⟨(z y d).1,by have:=(z y d).2;omega⟩,fun Q=>by rw[n Q]⟩
  ·refine⟨_,vc L 0,az.2 ⟨_,vc L 5,?_⟩⟩
   refine Bl t4 V hf k fun h5 X S5 g t5 z n=>?_
   have s5:=g.size;refine vH (i:=5) (c':=(gm (1,0,0,0,none,some ⟨X,0,none⟩)).toArray) (g.get L (P (au _))) (show 5<6 by decide) rfl fun a b6 f=>?_
   have s6:=f.size;exact hR _ _ ⟨rfl,_,S5,(s.wide.tr g).trans f fun y d=>.inr (by have d:y=h.size:=d;omega),b6,f.oth (g.get d4 (P (by omega))) (by omega),f.oth (g.get I (P (by omega))) (by omega),TreeO.loc (.inr ⟨rfl,X,rfl,t5⟩) f (au _) (by omega) D z,fun y d=>⟨(z y d).1,by have:=(z y d).2;omega⟩,fun Q=>by rw[n Q]⟩
 ·rintro _ a ⟨rfl,m,q,k6,N,Z,O,i6,E,n⟩
  exact fin k6 N Z O i6 E n
theorem Can.nil{W:Nat→Prop}{h:ad}(a:∀y,W y→y<h.size):Can none none W No h:=⟨.inl ⟨rfl,rfl⟩,a,fun _ h=>h.elim,fun _ h=>(by cases h),fun _ _ h=>h⟩
theorem TreeO.nil{W S:Nat→Prop}{h:ad}{a:Int}{x:Hs}{t:Tr}{l:List Pr}(i:TreeO none (fun y=>W y∨S y) h a x t l S):TreeIs W h a x t l:=by
 rcases i with⟨e,b,d,t⟩|⟨e,b,d,w,F,r,c1,c2⟩
 ·exact .inl ⟨e,b,d,TrieAt.less (fun y c=>.inl (.inl c)) t.off.1⟩
 ·exact .inr ⟨e,b,d,⟨w,F,RxN.less (fun y c=>.inl (.inl c)) r.off.1,c1,c2⟩⟩
theorem H4{W:Nat→Prop}{x:Hs}{h:ad}{a:Int}{t:Tr}{l:List Pr}(i:TreeIs W h a x t l)(m:∀y,W y→y<h.size)(d:cp l)(g:l.length≤1000000)(p:Pr){K:Tr×Int→ad→Prop}
  (f:∀c b,TreeIs W c a x b (oy l p)→(C1 p≠0→b=t)→Upd No h c→K (b,C1 p) c):HC PG g8 [FB t,.pointer none,.agg #[.string p.1,.string p.2]] [.agg [.int .i64,.int .u64,.int .u64,.int .u64,.ptr,.ptr],.c (.int .i64)] K h:=
 BZ (sB i) (Can.nil m) d g p fun c b _ k j _ e=>f c b j.nil e k
theorem CU{W:Nat→Prop}{x:Hs}{h:ad}{a:Int}{t:Tr}{l:List Pr}(i:TreeIs W h a x t l)(n:∀y,W y→y<h.size)(d:cp l)(o:Fit l)(j:l.length≤1000000)(k:ByteArray){K:Tr×Int→ad→Prop}
  (g:∀c b,TreeIs W c a x b (oK l k)→(Du l k≠0→b=t)→Upd No h c→K (b,Du l k) c):HC PG fT [FB t,.pointer none,.string k] [.agg [.int .i64,.int .u64,.int .u64,.int .u64,.ptr,.ptr],.c (.int .i64)] K h:=
 vO (sB i) (Can.nil n) d o j k fun c b _ f m _ e=>g c b m.nil e f
end Go.Proofs
namespace Go.Proofs
open Go Go.Lift Go.Conc
def PoolAt(h:ad)(pb cb cap:Nat)(ids:List Int):Prop:=pb≠cb∧h[pb]? =some (.cells #[.chan (some cb)] 130 (0,0))∧∃s r,h[cb]? =some (.chan cap (ids.map fun i=>Value.int .i64 i).toArray false s r false)
theorem PoolAt.upd{M:Nat→Prop}{h c:ad}{pb cb cap:Nat}{ids:List Int}(p:PoolAt h pb cb cap ids)(k:Upd M h c)(e:¬M pb)(d:¬M cb):PoolAt c pb cb cap ids:=let⟨n,a,s,r,b⟩:=p;⟨n,k.get a e,s,r,k.get b d⟩
theorem PoolAt.upd0{h a:ad}{pb cb cap:Nat}{ids:List Int}(p:PoolAt h pb cb cap ids)(k:Upd No h a):PoolAt a pb cb cap ids:=p.upd k id id
def TokAt(h:ad)(tb pb:Nat)(id:Int)(a:Bool):Prop:=h[tb]? =some (.cells #[.pointer (some ⟨pb,0,none⟩),.int .i64 id,.bool a] mU (0,0))
theorem TokAt.by_{h:ad}{tb pb:Nat}{id:Int}{a:Bool}(t:TokAt h tb pb id a):By h (some ⟨tb,0,none⟩) (if a then some ⟨tb,0,none⟩else none):=.inr ⟨tb,_,id,a,rfl,t,rfl⟩
theorem Am{n:Nat}(k:1≤n)(o:n≤4096){h:ad}{K:Option Addr×Int→ad→Prop}(d:∀h',Upd No h h'→PoolAt h' (h.size+1) h.size n ((bX n).map fun j=>((j:Nat):Int)+1)→K (some ⟨h.size+1,0,none⟩,0) h'):HC PG sV [.int .i64 n] [.c .ptr,.c (.int .i64)] K h:=by
 refine⟨fun w m=>.inl ⟨Tryz.call32 _ w,(Ke k o (w:=w)).mono ?_⟩⟩
 subst m;rintro e w' ⟨rfl,ids,s,r,p,g,q⟩;have k1:Upd No w.heap ((w.heap.push (.chan n #[] false 0 0 false)).push (.cells #[.chan (some w.heap.size)] 130 (0,0))):=(Upd.push No w.heap _).tr (Upd.push No _ _);have a:ids=(((bX n).map fun j=>((j:Nat):Int)+1).map fun i=>Value.int .i64 i):=by rw[p];simp[Function.comp_def]
 have b:((w.heap.push (.chan n #[] false 0 0 false)).push (.cells #[.chan (some w.heap.size)] 130 (0,0)))[w.heap.size+1]? =some (.cells #[.chan (some w.heap.size)] 130 (0,0)):=by
  rw[gY,Array.size_push,if_pos rfl]
 rcases q with rfl|rfl
 ·refine⟨⟨rfl,rfl,rfl⟩,((some ⟨w.heap.size+1,0,none⟩,0):Option Addr×Int),rfl,d _ k1 ⟨by omega,b,s,r,?_⟩⟩
  rw[←a];exact g
 ·have f:=Upd.set (M:=(· =w.heap.size)) ((w.heap.push (.chan n #[] false 0 0 false)).push (.cells #[.chan (some w.heap.size)] 130 (0,0))) (.chan n ids.toArray false s r false) rfl
  refine⟨⟨rfl,rfl,rfl⟩,((some ⟨w.heap.size+1,0,none⟩,0):Option Addr×Int),rfl,d _ (k1.trans f fun y c=>.inr (by have c:y=w.heap.size:=c;omega)) ⟨by omega,f.get b (fun e=>by have e:w.heap.size+1=w.heap.size:=e;omega),s,r,?_⟩⟩
  rw[←a];exact g
theorem yw{h:ad}{pb cb cap:Nat}{i:Int}{ids:List Int}(p:PoolAt h pb cb cap (i::ids)){K:Option Addr×Int→ad→Prop}(c:∀h',Upd (· =cb) h h'→PoolAt h' pb cb cap ids→TokAt h' h.size pb i true→K (some ⟨h.size,0,none⟩,0) h'):HC PG lV [.pointer (some ⟨pb,0,none⟩)] [.c .ptr,.c (.int .i64)] K h:=by
 obtain⟨n,a,s,r,hc⟩:=p;refine⟨fun w d=>.inl ⟨Tryz.call33 _ w,?_⟩⟩
 subst d;rw[List.map_cons]at hc;refine(H3 a hc).mono ?_;rintro e w' ⟨rfl,rfl⟩;have f:cb<w.heap.size:=(Array.getElem?_eq_some_iff.1 hc).1;have k1:=Upd.set (M:=(· =cb)) w.heap (.chan cap (ids.map fun i=>Value.int .i64 i).toArray false s (r+1) false) rfl
 have b:=k1.tr (Upd.push (· =cb) _ (.cells #[.pointer (some ⟨pb,0,none⟩),.int .i64 i,.bool true] mU (0,0)))
 refine⟨⟨rfl,rfl,rfl⟩,((some ⟨w.heap.size,0,none⟩,0):Option Addr×Int),rfl,c _ b ⟨n,b.get a n,s,r+1,?_⟩ ?_⟩
 ·show((w.heap.setIfInBounds cb _).push _)[cb]? =_
  rw[gY,kQ,if_neg (by omega),ci,if_pos rfl,if_pos f]
 ·show((w.heap.setIfInBounds cb _).push _)[w.heap.size]? =_
  rw[gY,kQ,if_pos rfl]
theorem F9{h:ad}{pb cb cap tb:Nat}{id:Int}{ids:List Int}(p:PoolAt h pb cb cap ids)(t:TokAt h tb pb id true)(q:ids.length<cap){K:Int→ad→Prop}(k:∀h',Upd (fun y=>y=cb∨y=tb) h h'→PoolAt h' pb cb cap (ids++ [id])→TokAt h' tb pb id false→K 0 h'):HC PG qE [.pointer (some ⟨pb,0,none⟩),.pointer (some ⟨tb,0,none⟩)] [.c (.int .i64)] K h:=by
 obtain⟨n,d,s,r,hc⟩:=p;have c:pb≠tb:=fun e=>by
  subst e;have:=d.symm.trans t;simp at this
 have b:cb≠tb:=fun e=>by
  subst e;have:=hc.symm.trans t;simp at this
 refine⟨fun w o=>.inl ⟨Tryz.call37 _ w,?_⟩⟩
 subst o;refine(Ky d t hc (by simpa using q) c b).mono ?_;rintro e w' ⟨rfl,m,rfl⟩;have k1:=Upd.hset (M:=(· =tb)) w.heap (a:=⟨tb,2,none⟩) (.bool false) rfl
 have g:=Upd.set (M:=(· =cb)) (hset w.heap ⟨tb,2,none⟩ (.bool false)) (.chan cap ((ids.map fun i=>Value.int .i64 i).toArray.push (.int .i64 id)) false (s+1) r false) rfl
 have u:cb<(hset w.heap ⟨tb,2,none⟩ (.bool false)).size:=aF (k1.get hc fun e=>b e)
 refine⟨⟨rfl,rfl,rfl⟩,(0:Int),rfl,k _ ((k1.mono fun y f=>.inl (.inr f)).trans g fun y f=>.inl (.inl f)) ⟨n,g.get (k1.get d fun e=>c e) (fun e=>n e),s+1,r,?_⟩ (g.get ?_ (fun e=>b e.symm))⟩
 ·show((hset w.heap ⟨tb,2,none⟩ (.bool false)).setIfInBounds cb _)[cb]? =_
  rw[ci,if_pos rfl,if_pos u];simp
 ·have j:w.heap[tb]? =some (.cells #[.pointer (some ⟨pb,0,none⟩),.int .i64 id,.bool true] mU (0,0)):=t
  rw[Ay j,ix j];rfl
end Go.Proofs
namespace Go.Proofs
open Go Go.Lift
end Go.Proofs
namespace Go.Proofs
structure WO{α:Type}(lt:α→α→Bool):Prop where
 irr:∀a,lt a a=false
 asy:∀a b,lt a b=true→lt b a=false
 ntr:∀a b c,lt a b=false→lt b c=false→lt a c=false
section
variable {α:Type} {lt:α→α→Bool}
def NB(lt:α→α→Bool)(x a:α):Bool:= !lt a x&& !lt x a
def Srt(lt:α→α→Bool)(l:List α):Prop:=l.Pairwise fun a b=>lt b a=false
structure Eqf(lt:α→α→Bool)(l l':List α):Prop where
 len:l'.length=l.length
 flt:∀x,l'.filter (NB lt x)=l.filter (NB lt x)
structure St(lt:α→α→Bool)(l l':List α):Prop where
 eqf:Eqf lt l l'
 srt:Srt lt l'
theorem Eqf.rfl(l:List α):Eqf lt l l:=⟨_root_.rfl,fun _=>_root_.rfl⟩
theorem Eqf.tr{a b c:List α}(h:Eqf lt a b)(k:Eqf lt b c):Eqf lt a c:=⟨k.len.trans h.len,fun x=>(k.flt x).trans (h.flt x)⟩
theorem Eqf.app{a b a' c:List α}(h:Eqf lt a a')(k:Eqf lt b c):Eqf lt (a++b) (a'++c):=
 ⟨by rw[ae,ae,h.len,k.len],fun x=>by rw[List.filter_append,List.filter_append,h.flt,k.flt]⟩
theorem E6(w:WO lt)(a:α):NB lt a a=true:=by unfold NB;rw[w.irr];rfl
theorem Eqf.mem(w:WO lt){l l':List α}(h:Eqf lt l l'){a:α}:a∈l'↔a∈l:=by
 have e:=h.flt a;constructor
 ·intro hm
  have:a∈l'.filter (NB lt a):=gA.2 ⟨hm,E6 w a⟩;rw[e]at this;exact(gA.1 this).1
 ·intro hm
  have:a∈l.filter (NB lt a):=gA.2 ⟨hm,E6 w a⟩;rw[←e]at this;exact(gA.1 this).1
theorem Srt.app{a b:List α}(h:Srt lt a)(k:Srt lt b)(c:∀x∈a,∀y∈b,lt y x=false):Srt lt (a++b):=cL.2 ⟨h,k,c⟩
theorem Srt.left{a b:List α}(h:Srt lt (a++b)):Srt lt a:=(cL.1 h).1
theorem Srt.right{a b:List α}(h:Srt lt (a++b)):Srt lt b:=(cL.1 h).2.1
theorem Srt.nil:Srt lt ([]:List α):=fO
theorem Srt.one(a:α):Srt lt [a]:=eC ..
end
end Go.Proofs
namespace Go.Proofs
open Go Go.Lift
def sJ(t u:Tr):Bool:=(t.1==u.1)&&((((t.2.1==u.2.1)&&((t.2.2.1==u.2.2.1)&&true)))&&((t.2.2.2.1==u.2.2.2.1)&&true))
theorem JJ{t u:Tr}{h:ad}{K:Bool→ad→Prop}(b:∀h',Upd No h h'→K (sJ t u) h'):HC PG sU [FB t,FB u] [.c .bool] K h:=by
 refine Fb t u ?_;unfold yK bo cE qv;refine aX fun d b1 k1=>aX fun c b2 a=>?_
 have c1:=a.get0 b1;refine⟨_,vc c1 0,_,vc b2 0,?_⟩;have:=b c (k1.tr a);unfold sJ at this;rcases hb:(t.1==u.1)with _|_
 ·rw[hb]at this
  exact ah.2 this
 ·rw[hb]at this
  exact az.2 ⟨_,nO c1 1 0,_,nO c1 1 1,_,nO c1 1 2,_,nO b2 1 0,_,nO b2 1 1,_,nO b2 1 2,this⟩
theorem B1{W:Nat→Prop}{x:Hs}{h:ad}{b:Nat}{l:List Pr}(t:TrieAt W x h 13 b l){K:Option Addr→ad→Prop}(d:∀a,Upd No h a→K (some ⟨b,0,none⟩) a):HC PG ji [FB (0,x.k0,x.k1,x.mask,some ⟨b,0,none⟩,none)] [.c .ptr] K h:=by
 refine wE (0,x.k0,x.k1,x.mask,some ⟨b,0,none⟩,none) ?_;unfold pL bo aA qv;refine aX fun e b1 k1=>?_
 refine Join.intro (fun t a=>t=false∧a=e) (fun R c=>⟨_,vc b1 0,az.2 ⟨_,vc b1 4,c _ _ ⟨rfl,rfl⟩⟩⟩) ?_
 rintro t a ⟨rfl,rfl⟩;exact ah.2 ⟨_,vc b1 4,d a k1⟩
def HT(a:Int)(x:Hs)(l:List Pr)(xs:List UInt8):Prop:=(a=0∧xs=0::iw x 13 l)∨(a=1∧∃ys,Jb l ys∧xs=1::ys)
theorem L6{h a:ad}{b:UInt8}(c:a[h.size]? =some (.cells #[.int .u8 (b.toNat:Int)] dg (0,0))):OwnS qx 1 dg (fun y=>h.size≤y) a ⟨some ⟨h.size,0,none⟩,1,1⟩ [b]:=⟨rfl,xI,au _,.inr ⟨h.size,[],rfl,au _,c,rfl⟩⟩
theorem B0{W:Nat→Prop}{x:Hs}{h:ad}{a:Int}{t:Tr}{l:List Pr}(i:TreeIs W h a x t l)(E:cp l)(o:Fit l)(v:l.length≤60000){K:SliceV→ad→Prop}
  (B:∀s' m xs,HT a x l xs→OwnS qx 1 dg (fun y=>h.size≤y) m s' xs→Upd No h m→K s' m):HC PG jh [FB t] [.c .slice] K h:=by
 refine wD t ?_;unfold pK bo af aA yi qv;refine aX fun p b1 k1=>?_
 have H:=k1.size;have app:∀{b:UInt8} {f e:ad} {s:SliceV} {xs:List UInt8},f[p.size]? =some (.cells #[.int .u8 (b.toNat:Int)] dg (0,0))→Upd No p f→OwnS qx 1 dg (fun y=>f.size≤y) e s xs→Upd No f e→xs.length≤70000000000000→HT a x l (b::xs)→
   ∃xs7,SRow e s.a (s.len*1) xs7∧AppP (some [.int .u8 0]) 1 1 dg (some (aC p)) 1 1 s.len xs7 e (fun G D=>K G D):=fun{b f e s xs} n c A g J hv=>by
  refine⟨_,(A.sl (W:=No) fun _ _ _ h=>h).srow,?_⟩
  have j:=c.tr g;have hz:=aF n;have o1:OwnS qx 1 dg (fun y=>h.size≤y) e ⟨some ⟨p.size,0,none⟩,1,1⟩ [b]:=((L6 n).upd g fun _ _ h=>h).more fun y q=>by omega
  refine AppP.own (ys:=xs) o1 A.len rfl (zi _) rfl (by omega) (by simp only[List.length_singleton];omega) (by have:=j.size;omega) fun s' m w u=>?_
  exact B s' m _ hv w ((k1.tr j).trans u fun y q=>.inr q)
 rcases i with⟨rfl,b,rfl,t⟩|⟨rfl,b,rfl,t⟩
 ·refine⟨_,vc b1 0,ah.2 (aX fun f b2 c=>?_)⟩
  have c1:=c.get0 b1;refine⟨_,vc c1 0,_,vc c1 1,_,vc c1 2,_,vc c1 3,_,vc c1 4,_,vc c1 5,?_⟩;refine B1 (TrieAt.upd0 (k1.tr c) t) fun e g=>?_
  refine LG (TrieAt.upd0 ((k1.tr c).tr g) t) o v fun C F d z=>?_
  have I:=g.size;have k:=ri (x:=x) 13 o;have n:l.length*(20004+9*(13+1))≤60000*(20004+9*(13+1)):=de _ v;exact app (b:=0) b2 c (d.more fun y q=>by omega) (g.tr z) (by omega) (.inl ⟨rfl,rfl⟩)
 ·refine⟨_,vc b1 0,az.2 (aX fun f b2 c=>?_)⟩
  have c1:=c.get0 b1;refine⟨_,vc c1 5,?_⟩;refine Es (t.upd0 (k1.tr c)) E o v fun C F xs hv d z=>?_
  have k:=Er hv o;have n:2*l.length*20010≤2*60000*20010:=de _ (by omega);exact app (b:=1) b2 c d z (by omega) (.inr ⟨rfl,xs,hv,rfl⟩)
theorem IG{W W':Nat→Prop}{h j:ad}{c a:Int}{x e:Hs}{t u:Tr}{l l':List Pr}(i:TreeIs W h c x t l)(g:TreeIs W' j a e u l')(d:sJ t u=true):c=a∧(c=0→x=e):=by
 rcases i with⟨rfl,b,rfl,_⟩|⟨rfl,b,rfl,_⟩<;>rcases g with⟨rfl,f,rfl,_⟩|⟨rfl,f,rfl,_⟩
 ·refine⟨rfl,fun _=>?_⟩
  unfold sJ at d;simp only[aV,beq_iff_eq,Bool.and_true,true_and]at d;cases x;cases e;simp only at d;simp only[Hs.mk.injEq];exact⟨d.1.1,d.1.2,d.2⟩
 ·simp[sJ]at d
 ·simp[sJ]at d
 ·exact⟨rfl,fun h=>by cases h⟩
theorem JD{a:Int}{x f:Hs}(hx:a=0→x=f){l l':List Pr}{xs d:List UInt8}(hv:HT a x l xs)(b:HT a f l' d)(j:Fit l)(c:Fit l')(m:l.length≤60000)(g:l'.length≤60000)(k:cp l)(i:cp l'):xs=d↔l=l':=by
 rcases hv with⟨rfl,rfl⟩|⟨rfl,ys,hv,rfl⟩<;>rcases b with⟨e,rfl⟩|⟨e,n,b,rfl⟩
 ·rw[hx rfl]
  constructor
  ·intro h
   have h:iw f 13 l++ []=iw f 13 l'++ []:=by rw[(hP.inj h).2]
   exact(zV 13 j c m g k i h).1
  ·rintro rfl;rfl
 ·cases e
 ·cases e
 ·rw[hP.injEq,←LJ hv b j c]
  exact⟨fun h=>h.2,fun h=>⟨rfl,h⟩⟩
theorem Ee{W W':Nat→Prop}{x C:Hs}{h:ad}{k b:Int}{t u:Tr}{l l':List Pr}(i:TreeIs W h k x t l)(z:TreeIs W' h b C u l')(y:cp l)(w:Fit l)(v:l.length≤60000)(j:cp l')(g:Fit l')(e:l'.length≤60000){K:Bool→ad→Prop}
  (m:∀h',Upd No h h'→K (sJ t u&&decide (l=l')) h'):HC PG px [FB t,FB u] [.c .bool] K h:=by
 refine Fa t u ?_;unfold yJ bo af aA yi qv Eb;refine aX fun I b1 k1=>aX fun G b2 A=>?_
 have c1:=A.get0 b1;refine⟨_,vc c1 0,_,vc c1 1,_,vc c1 2,_,vc c1 3,_,vc c1 4,_,vc c1 5,_,vc b2 0,_,vc b2 1,_,vc b2 2,_,vc b2 3,_,vc b2 4,_,vc b2 5,?_⟩;refine JJ fun D s=>?_
 have a:=(k1.tr A).tr s;have c:=s.get0 c1;have b3:=s.get0 b2;rcases hl:sJ t u with _|_
 ·rw[hl]at m
  exact ah.2 (m D a)
 ·rw[hl]at m
  refine az.2 ⟨_,vc c 0,_,vc c 1,_,vc c 2,_,vc c 3,_,vc c 4,_,vc c 5,_,vc b3 0,_,vc b3 1,_,vc b3 2,_,vc b3 3,_,vc b3 4,_,vc b3 5,?_⟩;refine B0 (i.upd0 a) y w v fun F H xs hv n q=>?_
  have d:=q.get0 b3;refine⟨⟨vc d 0,vc d 1,vc d 2,vc d 3,vc d 4,vc d 5⟩,?_⟩;refine B0 (z.upd0 (a.tr q)) j g e fun J E ys o p B=>?_
  have f:=n.upd B fun _ _ h=>h
  refine GL (W:=No) (W':=No) (f.sl fun _ _ _ h=>h) (p.sl fun _ _ _ h=>h) ?_
  obtain⟨rfl,hx⟩:=IG i z hl;have:=m E ((a.tr q).tr B);rw[decide_eq_decide.2 (JD hx hv o w g v e y j)];exact this
theorem TreeIs.plain{W:Nat→Prop}{h:ad}{e:Int}{x:Hs}{t:Tr}{l:List Pr}(i:TreeIs W h e x t l):(∀a,t.2.2.2.2.1=some a→du h a)∧(∀a,t.2.2.2.2.2=some a→du h a):=by
 rcases i with⟨rfl,b,rfl,t⟩|⟨rfl,b,rfl,t⟩
 ·obtain⟨s,g,_⟩:=t
  obtain⟨d,n,sp,sk,ow,f,_⟩:=g.ex;refine⟨fun a c=>?_,fun a c=>(by cases c)⟩
  cases c;exact⟨_,_,f,show 0<6 by decide⟩
 ·obtain⟨w,F,⟨val,s,ow,ks,f,_⟩,_⟩:=t.ex
  refine⟨fun a c=>(by cases c),fun a c=>?_⟩
  cases c;exact⟨_,_,f,show 0<5 by decide⟩
end Go.Proofs
namespace Go.Proofs
open Go Go.Lift
abbrev Of:List Value:= [.string (⟨#[]⟩:ByteArray),.string (⟨#[]⟩:ByteArray)]
theorem Kg{h:ad}{t:TypeId}{p:Pr}{k:ad→Prop}(d:∀h',h'[h.size]? =some (.cells #[.string p.1,.string p.2] t (0,0))→Upd No h h'→k h'):
  At (hnew h [.string (⟨#[]⟩:ByteArray),.string (⟨#[]⟩:ByteArray)] t) fun b=>rc b (some (aC h)) 0 [.string p.1,.string p.2]∧At (gd b (aC h) 0 [.string p.1,.string p.2]) k:=by
 refine aX fun f b1 k1=>?_
 exact fc (c:=Of) (vs:= [.string p.1,.string p.2]) b1 rfl fun e b2 a=>d e b2 (k1.own a (au _))
theorem Cr(p:Pr):∀{l:List Pr},(jc p l).length≤l.length+1
 | []=>au _
 |q::l=>by
  rw[jO];split
  ·have:=Cr p (l:=l);simp only[List.length_cons];omega
  ·split<;>simp
theorem Cp{W W':Nat→Prop}{h c:ad}{a:Int}{x:Hs}{t u:Tr}{l l':List Pr}(i:TreeIs W h a x t l)(d:TreeIs W' c a x u l'):sJ t u=true:=by
 rcases i with⟨rfl,b,rfl,_⟩|⟨rfl,b,rfl,_⟩<;>rcases d with⟨e,f,rfl,_⟩|⟨e,f,rfl,_⟩
 ·simp[sJ]
 ·cases e
 ·cases e
 ·simp[sJ]
theorem NY{k:Int}(a:0≤k)(b:k≤255):IntKind.wrap .i64 (gL k 2)=0∨IntKind.wrap .i64 (gL k 2)=1:=by
 have:gL k 2=k%2:=Int.tmod_eq_emod_of_nonneg a;rw[this,nA (by omega)];omega
end Go.Proofs
namespace Go.Proofs
open Go Go.Lift
end Go.Proofs
namespace Go.Proofs
open Go Go.Lift
section
variable {α:Type} {f:α→List Value} {sz:Nat} {t:TypeId} {M:Nat→Prop} {h:ad} {s:SliceV} {P Q:List α} {x:α}
end
end Go.Proofs
namespace Go.Proofs
open Go Go.Lift
variable {z0:Hs}
end Go.Proofs
namespace Go.Proofs
open Go Go.Lift
end Go.Proofs
namespace Go.Proofs
open Go Go.Lift
end Go.Proofs
namespace Go.Proofs
open Go Go.Lift
theorem M0{h:ad}{t:TypeId}{p:Pr}{k:ad→Prop}(b:∀h',h'[h.size]? =some (.cells #[.string p.1,.string p.2] t (0,0))→Upd No h h'→k h'):
 At (hnew h [.string (⟨#[]⟩:ByteArray),.string (⟨#[]⟩:ByteArray)] t) (fun a=>rc a (some (aC h)) 0 [.string p.1,.string p.2]∧At (gd a (aC h) 0 [.string p.1,.string p.2]) k):=Kg (p:=p) b
end Go.Proofs
namespace Go.Proofs
open Go Go.Lift
end Go.Proofs
namespace Go.Proofs
open Go Go.Lift
end Go.Proofs
namespace Go.Proofs
open Go Go.Lift
end Go.Proofs
namespace Go.Proofs
open Go Go.Lift
theorem LX{a b:ByteArray}:kl a b↔Op.bytesLess a.data.toList b.data.toList=true:=by unfold kl;rw[ByteArray.toList_eq,ByteArray.toList_eq]
theorem HR{a b:UInt8}{x y:List UInt8}:Op.bytesLess (a::x) (b::y)=true↔a.toNat<b.toNat∨(a=b∧Op.bytesLess x y=true):=by
 simp only[Op.bytesLess,Bool.or_eq_true,decide_eq_true_iff,aV,beq_iff_eq,UInt8.lt_iff_toNat_lt]
theorem K7{x y:List UInt8}:∀pre:List UInt8,Op.bytesLess (pre++x) (pre++y)=true↔Op.bytesLess x y=true
 | []=>Iff.rfl
 |a::pre=>by rw[dt,dt,HR,K7 pre];simp
theorem N8{x y:List UInt8}(h:Op.bytesLess x y=true)(hx:x≠[])(c:y≠[]):hd x≤hd y:=by
 match x,y,hx,c with
 |a::x,b::y,_,_=>
  show a.toNat≤b.toNat
  rcases HR.1 h with h|⟨rfl,_⟩<;>omega
abbrev ky(p:Pr):List UInt8:=p.1.data.toList
def OU(l:List Pr)(a k:List UInt8)(v:ByteArray):Prop:=∃p∈l,ky p=a++k∧p.2=v
structure Beg(l:List Pr)(pre:List UInt8):Prop where
 up:cp l
 at_:∀p∈l,(ky p).take pre.length=pre∧pre.length<(ky p).length
theorem Beg.sub{l l':List Pr}{a:List UInt8}(b:Beg l a)(h:l'.Sublist l):Beg l' a:=⟨b.up.sublist h,fun p c=>b.at_ p (h.subset c)⟩
theorem Beg.split{l:List Pr}{a:List UInt8}(b:Beg l a){p:Pr}(c:p∈l):ky p=a++(ky p).drop a.length∧(ky p).drop a.length≠[]:=by
 obtain⟨d,f⟩:=b.at_ p c;refine⟨?_,fun e=>?_⟩
 ·conv=>lhs;rw[←List.take_append_drop a.length (ky p),d]
 ·have:=congrArg List.length e
  rw[List.length_drop,List.length_nil]at this;omega
def bt(n:Nat)(p:Pr):Nat:=hd ((ky p).drop n)
theorem Beg.mono{A B:List Pr}{a:List UInt8}(b:Beg (A++B) a){x y:Pr}(hx:x∈A)(c:y∈B):bt a.length x≤bt a.length y:=by
 have h:=(cL.1 b.up).2.2 x hx y c;rw[LX]at h;obtain⟨f,e⟩:=b.split (fC B hx);obtain⟨g,d⟩:=b.split (gq A c);change Op.bytesLess (ky x) (ky y)=true at h;rw[f,g,K7]at h;exact N8 h e d
structure Row(L:List Bn)(D T:List Pr)(pre:List UInt8):Prop where
 can:∀n∈L,Jg n
 up:L.Pairwise fun m n=>hd m.1<hd n.1
 lo:∀n∈L,∀p∈T,hd n.1<bt pre.length p
 got:∀k v,(∃n∈L,qq n k v)↔OU D pre k v
theorem Row.nil(T:List Pr)(a:List UInt8):Row [] [] T a:=⟨fun n h=>(by cases h),fO,fun n h=>(by cases h),fun k v=>⟨fun⟨n,h,_⟩=>(by cases h),fun⟨p,h,_⟩=>(by cases h)⟩⟩
theorem Row.more{L:List Bn}{D A B:List Pr}{c:List UInt8}{n:Bn}{p:Pr}(r:Row L D (A++B) c)(o:Beg (A++B) c)(j:p∈A)(z:∀a∈A,bt c.length a=bt c.length p)(u:∀b f,B=b::f→bt c.length b≠bt c.length p)(hc:Jg n)(s:hd n.1=bt c.length p)(t:∀k v,qq n k v↔OU A c k v):Row (L++ [n]) (D++A) B c:=by
 refine⟨fun m hm=>?_,cL.2 ⟨r.up,eC ..,fun a x b w=>?_⟩,fun m hm q d=>?_,fun k v=>?_⟩
 ·rcases bN.1 hm with hm|hm
  ·exact r.can m hm
  ·rw[aj.1 hm];exact hc
 ·rw[aj.1 w,s]
  exact r.lo a x p (fC _ j)
 ·rcases bN.1 hm with hm|hm
  ·exact r.lo m hm q (gq _ d)
  ·rw[aj.1 hm,s]
   rcases B with _|⟨g,f⟩
   ·cases d
   have y:=u g f rfl;have C:=o.mono j (List.mem_cons_self (a:=g) (l:=f));rcases List.mem_cons.1 d with rfl|d
   ·omega
   ·have i:Beg ([g]++f) c:=o.sub (List.sublist_append_right A _)
    have:=i.mono (aj.2 rfl) d;omega
 ·constructor
  ·rintro⟨m,hm,hi⟩
   rcases bN.1 hm with hm|hm
   ·obtain⟨q,d,e⟩:=(r.got k v).1 ⟨m,hm,hi⟩
    exact⟨q,fC _ d,e⟩
   ·rw[aj.1 hm]at hi
    obtain⟨q,d,e⟩:=(t k v).1 hi;exact⟨q,gq _ d,e⟩
  ·rintro⟨q,d,e⟩
   rcases bN.1 d with d|d
   ·obtain⟨m,hm,hi⟩:=(r.got k v).2 ⟨q,d,e⟩
    exact⟨m,fC _ hm,hi⟩
   ·exact⟨n,gq _ (aj.2 rfl),(t k v).2 ⟨q,d,e⟩⟩
theorem Row.done{L:List Bn}{D:List Pr}{a:List UInt8}(r:Row L D [] a):dW (.ofL L)∧∀k v,m0 (.ofL L) k v↔OU D a k v:=by
 refine⟨dx.2 ?_,fun k v=>?_⟩
 ·rw[Fo.to_of];exact⟨r.up,r.can⟩
 ·rw[ee,Fo.to_of];exact r.got k v
end Go.Proofs
