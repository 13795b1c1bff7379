/- A part of the proof that the named laws of this program answer true, whatever the input. -/
import Derived.Test.YtajpljopgikpgaaGreatDoorPart5
import Derived.Test.YtajpljopgikpgaaGreatDoorPart2
import Derived.Test.YtajpljopgikpgaaGreatDoorPart4
import Derived.Test.YtajpljopgikpgaaGreatDoorPart0
import Derived.Test.YtajpljopgikpgaaGreatDoorLift3
open Array renaming getElem?_push→jc,size_setIfInBounds→mI,getElem?_setIfInBounds→cG
open Int renaming tmod→ju
open List renaming any_eq_true→ci,mem_singleton→aq,any_cons→o8,range→cK,length_append→ae,filter_append→jY,mem_filter→gR,pairwise_append→db,length_singleton→aK,cons→fi,cons_append→cQ,mem_cons_self→az
open List.Pairwise renaming nil→fX
open Nat renaming zero_add→aE,lt_of_lt_of_le→bR,le_trans→ba,le_refl→ao,mul_le_mul_right→bZ
namespace Go.Proofs
open Go.Lift
theorem By.updS{h b:ad}{w o:Option Addr}{S:Nat→Prop}(t:By h w o)(k:Upd S h b)(d:∀a,w=some a→¬S a.block):By b w o:=t.upd k fun _ e c=>absurd c (d _ e)
set_option maxHeartbeats 2000000 in
theorem QN{W:Nat→Prop}{x:Hs}{w o:Option Addr}:∀(m:Nat),m≤13→∀{b:Nat} {l:List Pr} {S:Nat→Prop} (p:Pr) {h:ad},TrieO o W x h m b l S→By h w o→(∀y,W y→y<h.size)→(∀y,S y→W y)→(∀a,o=some a→W a.block)→(∀a,w=some a→¬S a.block)→cu l→l.length≤1000000→∀{K:(Option Addr)×Bool×Bool→ad→Prop},
  (∀A b' ch S',Upd S h A→TrieO o (fun y=>W y∨S' y) x A m b' (gY p l) S'→(∀y,S' y→(S y∨h.size≤y)∧y<A.size)→(ch=false→b'=b∧Upd No h A)→ch= !decide (p∈l)→K (some ⟨b',0,none⟩, !cj l p.1,ch) A)→
  HC PG hG [N5 x w p.1,.pointer (some ⟨b,0,none⟩),.agg #[.string p.1,.string p.2],.int .i64 ((13-m:Nat):Int)] [.c .ptr,.c .bool,.c .bool] K h:=by
 intro m;induction m with
 |zero=>
  intro _ b l S p h t by_ hW D L hwS hr hn K hk;have N:∀y,S y→y<h.size:=fun y g=>hW y (D y g)
  refine sX (x.k0,x.k1,x.mask,w,p.1,kX x p.1) (some ⟨b,0,none⟩) p ((13-0:Nat):Int) ?_;unfold oN ag aB nv mo qX aJ BU uL kC xg Gi l9 Cn;refine aO fun h1 b1 k1=>aO fun j b2 k2=>?_
  have G:∀{A:ad},Upd No j A→∀i,aM A (adr ⟨h.size,0,none⟩ i)=(#[.int .u64 x.k0,.int .u64 x.k1,.int .u64 x.mask,.pointer w,.string p.1,.int .u64 (kX x p.1)]:Array Value)[i]?:=fun k i=>by
   rw[bL,bj (k.get0 (k2.get0 b1)),aE]
  have J:∀{A:ad},Upd No j A→∀i,aM A (adr ⟨h1.size,0,none⟩ i)=(#[.string p.1,.string p.2]:Array Value)[i]?:=fun k i=>by rw[bL,bj (k.get0 b2),aE]
  have r:=Upd.refl No j;have u:=k1.tr k2;have z02:=u.size;have bk:BuckO o W j b l S:=BuckO.upd0 t u;have by2:=by_.upd0 u;have bkr:=bk.read by2;obtain⟨sp,sk,ow,hb,_⟩:=bkr.ex;refine g7 (d:=0) (n:=0) hb (aA.2 ⟨_,J r 0,RA bkr hr (by omega) p.1 fun h3 v V hv=>?_⟩)
  refine Join.intro (fun t' A=>t'=decide (p∈l)∧Upd No j A) (fun R hR=>?_) ?_
  ·cases E:cj l p.1 with
   |false=>
    refine aj.2 (hR _ _ ⟨?_,V⟩);refine(decide_eq_false fun hm=>?_).symm
    have:cj l p.1=true:=ci.2 ⟨p,hm,decide_eq_true rfl⟩;rw[E]at this;cases this
   |true=>
    have hv:=hv E;refine aA.2 ⟨_,J V 1,hR _ _ ⟨?_,V⟩⟩;rw[jp,decide_eq_decide];constructor
    ·intro e
     have e:v=p.2:=e;rw[e]at hv;exact hv
    ·intro hm
     exact JE hr hv (show(p.1,p.2)∈l from hm)
  ·rintro t' h4 ⟨rfl,F⟩
   have z4:=F.size;by_cases hm:p∈l
   ·rw[decide_eq_true hm]
    refine aA.2 ?_;have E:cj l p.1=true:=ci.2 ⟨p,hm,decide_eq_true rfl⟩;have:=hk h4 b false S (u.tr F).wide (by rw[B7 hr hm];exact(BuckO.upd0 t (u.tr F)).imp (fun n=>⟨n.1.less fun y g=>.inl (g.elim id (D y)),n.2⟩) id) (fun y g=>⟨.inl g,by have:=N y g;omega⟩) (fun _=>⟨rfl,u.tr F⟩) (by rw[decide_eq_true hm];rfl)
    rw[E]at this;exact this
   ·rw[decide_eq_false hm]
    refine aj.2 ⟨w,G F 3,_,J F 0,_,J F 1,?_⟩;refine Du (bk.upd0 F) (by2.upd0 F) L (fun y g=>by have:=N y g;omega) hr (by omega) p fun h5 b5 sp5 sk5 on5 hu5=>?_
    have z5:=hu5.size;have hS0:o=none→∀y,¬S y:=fun e y g=>by
     rcases t with⟨_,h⟩|⟨h,_⟩
     ·exact h y g
     ·rw[e]at h;cases h
    refine hk h5 b5 true _ ((u.tr F).wide.tr hu5) (wg (W:=fun y=>W y∨(o.isSome=true∧(S y∨h4.size≤y)∧y<h5.size)) on5 fun e=>⟨hS0 e,fun y g=>g.elim (fun h=>by have:=hW y h;omega) fun h=>by rw[e]at h;cases h.1⟩) (fun y g=>⟨g.2.1.imp id fun h=>by omega,g.2.2⟩) (fun h=>by cases h) (by rw[decide_eq_false hm];rfl)
 |succ m ih=>
  intro hm b l S p h t by_ hW D L hwS hr hn K hk;have gW:∀{A},Upd No h A→∀y,W y→y<A.size:=fun k y g=>bR (hW y g) k.size
  have N:∀y,S y→y<h.size:=fun y g=>hW y (D y g)
  have hl:13-(m+1)<13:=by omega
  have hlev:13-(m+1)=12-m:=by omega
  refine sX (x.k0,x.k1,x.mask,w,p.1,kX x p.1) (some ⟨b,0,none⟩) p ((13-(m+1):Nat):Int) ?_;unfold oN ag aB nv mo qX aJ BU uL kC xg Gi l9 Cn;refine aO fun h1 b1 k1=>aO fun j b2 k2=>?_
  have G:∀{A:ad},Upd No j A→∀i,aM A (adr ⟨h.size,0,none⟩ i)=(#[.int .u64 x.k0,.int .u64 x.k1,.int .u64 x.mask,.pointer w,.string p.1,.int .u64 (kX x p.1)]:Array Value)[i]?:=fun k i=>by
   rw[bL,bj (k.get0 (k2.get0 b1)),aE]
  have J:∀{A:ad},Upd No j A→∀i,aM A (adr ⟨h1.size,0,none⟩ i)=(#[.string p.1,.string p.2]:Array Value)[i]?:=fun k i=>by rw[bL,bj (k.get0 b2),aE]
  have r:=Upd.refl No j;have u:=k1.tr k2;have by2:=by_.upd0 u;have z02:=u.size;have hno:o=none→∀y,¬S y:=fun e=>by subst e;exact t.off.2
  obtain⟨s,S0,T,nd0,h0,I,hd,hs⟩:=(TrieO.upd0 u t).view;have tt:∀{A:ad},Upd No j A→TrieO o (fun y=>W y∨S y) x A (m+1) b l S:=fun k=>(TrieO.upd0 (u.tr k) t).less fun y g=>.inl (g.elim id (D y))
  have ndr:=nd0.read by2;obtain⟨d0,n0,sp0,sk0,ow0,hb0,_⟩:=ndr.ex;refine g7 hb0 (aj.2 ⟨_,G r 5,PE hl ?_⟩);rw[hlev];have hi:=yU x (12-m) p.1;have hsi:=hs _ hi;have hrp:=qq (x:=x) (lev:=12-m) (c:=ck x (12-m) p.1) hr;have hnp:(part x (12-m) (ck x (12-m) p.1) l).length≤1000000:=ba j3 hn;have hmp:p∈part x (12-m) (ck x (12-m) p.1) l↔p∈l:=by rw[my];exact⟨fun h=>h.1,fun h=>⟨h,rfl⟩⟩
  have htp:=Cp (x:=x) (lev:=12-m) (l:=l) (k:=p.1);have turn:∀{hz A:ad} {b' d n:Nat} {sp sk:SliceV} {s':Slots} {T':Nat→Prop},Upd (T (ck x (12-m) p.1)) j hz→OwnN (fun y=>S0 y∨hz.size≤y) A b' d n sp sk s' o→Upd S0 hz A→(∀c,c≠ck x (12-m) p.1→s'.p c=s.p c∧s'.k c=s.k c)→
    SlotO o (fun y=>W y∨T' y) x hz m s' (ck x (12-m) p.1) (gY p (part x (12-m) (ck x (12-m) p.1) l)) T'→(∀y,T' y→(T (ck x (12-m) p.1) y∨j.size≤y)∧y<hz.size)→p∉l→
    K (some ⟨b',0,none⟩, !cj l p.1,true) A:=fun{hz A b' d n sp sk s' T'} ku on ku2 hp hslot X Q=>by
   have zz:=ku.size;have zz':=ku2.size;have b2S:∀y,S y→y<j.size:=fun y g=>by have:=N y g;omega
   have p1:part x (12-m) (ck x (12-m) p.1) (gY p l)=gY p (part x (12-m) (ck x (12-m) p.1) l):=by rw[CN hr,if_pos rfl]
   have hT0:∀y,T' y→¬S0 y∧∀c,c≠ck x (12-m) p.1→¬T c y:=fun y g=>by
    rcases(X y g).1 with h|h
    ·exact⟨(I _ y h).2,fun c hc E=>hc (hd _ _ y E h)⟩
    ·exact⟨fun hs=>by have:=b2S y (h0 y hs);omega,fun c _ E=>by have:=b2S y (I c y E).1;omega⟩
   refine hk A b' true _ ((u.wide.tr (ku.mono fun y g=>.inl (I _ y g).1)).tr (ku2.mono fun y g=>.inl (h0 y g))) (xi (W:=W) (W1:=fun y=>W y∨T' y) (T:=T) (T':=T') (c0:=ck x (12-m) p.1) (s:=s) (hz:=hz) on ku2 (fun c hc hcc=>?_) hp ?_ (fun y g=>.inl g) (fun y g=>.inl (D y (h0 y g))) (fun c y g=>.inl (D y (I c y g).1)) (fun y g=>.inr g) (fun c y g=>⟨by have:=b2S y (I c y g).1;omega,(I c y g).2⟩) (fun y g=>⟨(X y g).2,hT0 y g⟩) hd fun e=>⟨fun y g=>hno e y (h0 y g),fun y g=>g.elim (fun h=>by have:=hW y h;omega) fun h=>(X y h).2⟩) (fun y g=>?_) (fun h=>by cases h) (by rw[decide_eq_false Q];rfl)
   ·rw[CN hr,if_neg fun e=>hcc e.symm]
    refine((hs c hc).less (W':=fun y=>W y∨T' y) fun y g=>g.elim .inl fun h=>(X y h).1.imp (fun h=>D y (I _ y h).1) id).upd ku (fun y g=>b2S y (I c y g).1) fun y g=>.inl ⟨.inl (D y (I _ y g).1),fun h=>hcc (hd _ _ y h g)⟩
   ·rw[p1];exact hslot
   ·have:=KW (S:=S) (z0:=h.size) h0 (fun c y g=>⟨(I c y g).1,by have:=b2S y (I c y g).1;omega⟩) (fun y g=>⟨(X y g).1.imp (fun h=>(I _ y h).1) fun h=>by omega,by have:=(X y g).2;omega⟩) (by omega) g
    exact this
  generalize hc:ck x (12-m) p.1=c at hi hsi hrp hnp hmp htp turn;generalize hlp:part x (12-m) c l=lc at hsi hrp hnp hmp htp turn;refine CT ndr hi fun h3 V=>?_
  refine aO fun h4 b4 k4=>?_
  have b4':h4[h3.size]? =some (.cells #[.string Jj.1,.string Jj.2] aw (0,0)):=b4;refine A8 (p:=Aj (s.p c)) b4' fun h5 b5 hu5=>?_
  have f:Upd No j h5:=(V.tr k4).trans hu5 fun y g=>.inr (by have g:y=h3.size:=g;have:=V.size;omega)
  have w5:∀{A:ad},Upd No h5 A→∀i,aM A (adr ⟨h3.size,0,none⟩ i)=(#[.string (Aj (s.p c)).1,.string (Aj (s.p c)).2]:Array Value)[i]?:=fun k i=>by rw[bL,bj (k.get0 b5),aE]
  have r5:=Upd.refl No h5;have z5:=f.size;have O:=by2.upd0 f;have nd5:=nd0.upd0 f;have h0b:∀y,S0 y→y<h5.size:=fun y g=>by have:=N y (h0 y g);omega
  cases hsp:s.p c with
  |some y=>
   rw[hsp]at w5;obtain⟨M,hk0,hTn⟩:lc= [y]∧s.k c=none∧∀y,¬T c y:=by
    rcases hsi with⟨_,j,_⟩|⟨q,h1,j,h3,h4⟩|⟨_,j,_⟩
    ·rw[hsp]at j;cases j
    ·rw[hsp]at j;cases j;exact⟨h1,h3,h4⟩
    ·rw[hsp]at j;cases j
   refine aA.2 ⟨y.1,w5 r5 0,y.2,w5 r5 1,p.1,J f 0,p.2,J f 1,?_⟩;rw[jp,jp];have hyl:y∈l:=(my.1 (show y∈part x (12-m) c l by rw[hlp,M];exact aq.2 rfl)).1
   by_cases Y:y.1=p.1
   ·have E:cj l p.1=true:=ci.2 ⟨y,hyl,decide_eq_true Y⟩
    by_cases e2:y.2=p.2
    ·rw[decide_eq_true Y,decide_eq_true e2]
     have hyp:y=p:=Prod.ext Y e2;have H:p∈l:=hyp▸hyl;refine aA.2 ?_;rw[E]at hk;exact hk h5 b false S (u.tr f).wide (by rw[B7 hr H];exact tt f) (fun y g=>⟨.inl g,by have:=N y g;omega⟩) (fun _=>⟨rfl,u.tr f⟩) (by rw[decide_eq_true H];rfl)
    ·rw[decide_eq_true Y,decide_eq_false e2]
     refine aj.2 ⟨y.1,w5 r5 0,p.1,J f 0,?_⟩;rw[jp,decide_eq_true Y];refine aA.2 ⟨w,G f 3,p.1,J f 0,p.2,J f 1,?_⟩;refine pc nd5 O L h0b hi (fun _ _=>hk0) p fun h6 b6 d6 n6 sp6 sk6 on6 B=>?_
     have Q:p∉l:=fun hm=>by
      have:=hmp.2 hm;rw[M]at this;exact e2 (by rw[aq.1 this])
     have:=turn (T':=No) f.wide on6 B (fun c' C=>⟨fY C,fY C⟩) (.inr (.inl ⟨p,by rw[M,gm,if_neg (by rw[Y];exact cJ _),if_pos Y],gg,gg,fun _ h=>h⟩)) (fun _ h=>h.elim) Q
     rw[E]at this;exact this
   ·rw[decide_eq_false Y]
    refine aj.2 ⟨y.1,w5 r5 0,p.1,J f 0,?_⟩;rw[jp,decide_eq_false Y];refine aj.2 ⟨w,G f 3,_,G f 0,_,G f 1,_,G f 2,_,G f 3,_,G f 4,_,G f 5,y.1,w5 r5 0,y.2,w5 r5 1,p.1,J f 0,p.2,J f 1,?_⟩;have ew:IntKind.wrap .i64 (((12-m:Nat):Int)+1)=((13-m:Nat):Int):=by rw[oq (by omega)];omega
    rw[ew];refine PN m y p (by omega) Y (gW (u.tr f)) O L fun h6 b6 Sk t6 Z B=>⟨G (f.tr B) 3,?_⟩
    have z6:=B.size;refine tJ (nd5.upd0 B) (O.upd0 B) L hi (fun z hz=>by rw[hk0]at hz;cases hz) ⟨b6,0,none⟩ fun h7 b7 d7 n7 sp7 sk7 on7 hu7=>?_
    have E:cj l p.1=false:=by
     rw[←htp,M];unfold cj;rw[o8,decide_eq_false Y];rfl
    have Q:p∉l:=fun hm=>by
     have:cj l p.1=true:=ci.2 ⟨p,hm,decide_eq_true rfl⟩;rw[E]at this;cases this
    have:=turn (T':=Sk) (f.tr B).wide on7 hu7 (fun c' C=>⟨fY C,fY C⟩) (.inr (.inr (by rw[M];exact⟨by rw[LI Y];omega,gg,b6,gg,t6⟩))) (fun y g=>⟨.inr (by have:=(Z y g).1;omega),(Z y g).2⟩) Q
    rw[E]at this;exact this
  |none=>
   refine aj.2 (Gr (nd5.read O) hi ?_);cases hsk:s.k c with
   |none=>
    have hlc:lc= []:=by
     rcases hsi with⟨h1,_⟩|⟨q,_,j,_⟩|⟨_,_,kb,j,_⟩
     ·exact h1
     ·rw[hsp]at j;cases j
     ·rw[hsk]at j;cases j
    refine aA.2 ⟨w,G f 3,p.1,J f 0,p.2,J f 1,?_⟩;refine pc nd5 O L h0b hi (fun _ _=>hsk) p fun h6 b6 d6 n6 sp6 sk6 on6 B=>?_
    have E:cj l p.1=false:=by rw[←htp,hlc];rfl
    have Q:p∉l:=fun hm=>by
     have:cj l p.1=true:=ci.2 ⟨p,hm,decide_eq_true rfl⟩;rw[E]at this;cases this
    have:=turn (T':=No) f.wide on6 B (fun c' C=>⟨fY C,fY C⟩) (.inr (.inl ⟨p,by rw[hlc];rfl,gg,gg,fun _ h=>h⟩)) (fun _ h=>h.elim) Q
    rw[E]at this;exact this
   |some kp=>
    obtain⟨h2l,kb,rfl,tk⟩:2≤lc.length∧∃kb,kp=some ⟨kb,0,none⟩∧TrieO o W x j m kb lc (T c):=by
     rcases hsi with⟨_,_,j,_⟩|⟨q,_,j,_⟩|⟨h1,_,kb,j,h3⟩
     ·rw[hsk]at j;cases j
     ·rw[hsp]at j;cases j
     ·rw[hsk]at j;cases j;exact⟨h1,kb,rfl,h3⟩
    refine aj.2 ⟨_,G f 0,_,G f 1,_,G f 2,_,G f 3,_,G f 4,_,G f 5,p.1,J f 0,p.2,J f 1,?_⟩;have ew:IntKind.wrap .i64 (((12-m:Nat):Int)+1)=((13-m:Nat):Int):=by rw[oq (by omega)];omega
    rw[ew];refine ih (by omega) p (TrieO.upd0 f tk) O (gW (u.tr f)) (fun y g=>D y (I c y g).1) L (fun a e E=>hwS a e (I c _ E).1) hrp hnp fun h6 b6 ch Sk B t6 Z hsame P=>?_
    have z6:=B.size;have w16:∀i,aM h6 (adr ⟨h.size,0,none⟩ i)=(#[.int .u64 x.k0,.int .u64 x.k1,.int .u64 x.mask,.pointer w,.string p.1,.int .u64 (kX x p.1)]:Array Value)[i]?:=fun i=>by
     rw[bL,bj (B.get (f.get0 (k2.get0 b1)) fun g=>by have:=N _ (I c _ g).1;omega),aE]
    have k26:Upd (T c) j h6:=f.wide.tr B;by_cases H:p∈l
    ·have P:ch=false:=by rw[P,decide_eq_true (hmp.2 H)];rfl
     have E:cj l p.1=true:=ci.2 ⟨p,H,decide_eq_true rfl⟩;rw[E]at hk;rw[P];refine aA.2 ?_;obtain⟨_,k56⟩:=hsame P;have k26:=f.tr k56;exact hk h6 b false S (u.tr k26).wide (by rw[B7 hr H];exact tt k26) (fun y g=>⟨.inl g,by have:=N y g;omega⟩) (fun _=>⟨rfl,u.tr k26⟩) (by rw[decide_eq_true H];rfl)
    ·have P:ch=true:=by rw[P,decide_eq_false fun h=>H (hmp.1 h)];rfl
     rw[P];refine aj.2 ⟨w,w16 3,?_⟩;have by6:=O.updS B fun a e E=>hwS a e (I c _ E).1
     have nd6:NodeO o W h6 b s S0:=nd5.imp (fun n=>⟨n.1.upd B fun y g=>.inl (D y (I c y g).1),n.2⟩) fun⟨e,d,n,sp,sk,on⟩=>⟨e,d,n,sp,sk,on.upd B fun y g=>(I c y g).2⟩
     refine tJ nd6 by6 L hi (fun _ _=>hsp) ⟨b6,0,none⟩ fun h7 b7 d7 n7 sp7 sk7 on7 hu7=>?_
     have:=turn (T':=Sk) k26 on7 hu7 (fun c' C=>⟨fY C,fY C⟩) (.inr (.inr ⟨ba h2l (H8 p),gg,b6,gg,t6⟩)) (fun y g=>⟨(Z y g).1.imp id fun h=>by omega,(Z y g).2⟩) H
     rw[htp];exact this
end Go.Proofs
namespace Go.Proofs
open Go Go.Lift
theorem NI{W S:Nat→Prop}{h:ad}{w o:Option Addr}{b:Nat}{l:List Pr}(v:BuckO o W h b l S)(t:By h w o)(H:∀a,o=some a→W a.block)(I:cu l)(q:l.length≤1000000000)(k:ByteArray){K:Option Addr→ad→Prop}
  (F:∀h' b' sp sk,OwnB (fun y=>S y∨h.size≤y) h' b' sp sk (ot k l) o→Upd S h h'→K (some ⟨b',0,none⟩) h'):
  HC PG oL [.pointer (some ⟨b,0,none⟩),.pointer w,.string k] [.c .ptr] K h:=by
 refine AK _ w k ?_;unfold tw bD cV zR uw;obtain⟨sp,sk,ow,J,P,M,D,O⟩:=(v.read t).ex;refine g7 (d:=0) (n:=0) J (aj.2 ?_);refine HZ v t H q fun C p s2 s E j=>?_
 obtain⟨b2,hM,A,B,u,z,T,c⟩:=E;refine⟨_,rfl,s2,dT (i:=2) b2,?_⟩;refine HW (u.sl (W:=No) fun _ _ _ h=>h) u.cap I q k fun s3 G m f=>?_
 have b3:=f.get0 b2;refine⟨_,rfl,Qh (i:=2) b3 (show 2<6 by decide),Ee (i:=2) (c':=fy 0 0 s3 s true o) b3 rfl fun N Q g=>?_⟩
 have X:=aD b2;have L:=j.size;have V:=f.size;have R:=g.size;refine F N p s3 s ⟨Q,hM,fun x=>C.size≤x∧x<G.size,B,m.within.upd g fun x hx e=>?_,(z.upd f fun _ _ h=>h).upd g fun x hx e=>(c x hx).2.1 e,fun x hx=>⟨.inr (by omega),by omega,by omega⟩,fun x hx=>⟨(c x hx).1,(c x hx).2.1,by have:=(c x hx).2.2;omega⟩⟩ (((j.tr f).wide).trans g fun x hx=>?_)
 ·have e:x=p:=e
  have:=hx.1;omega
 ·have hx:x=p:=hx
  rw[hx];exact hM
set_option maxHeartbeats 2000000 in
theorem GK{W:Nat→Prop}{x:Hs}{w o:Option Addr}:∀(m:Nat),m≤13→∀{b:Nat} {l:List Pr} {S:Nat→Prop} (k:ByteArray) {h:ad},TrieO o W x h m b l S→By h w o→(∀y,W y→y<h.size)→(∀y,S y→W y)→(∀a,o=some a→W a.block)→(∀a,w=some a→¬S a.block)→cu l→l.length≤1000000→∀{K:(Option Addr)×Bool→ad→Prop},
  (∀B Y S',Upd S h B→TrieO o (fun y=>W y∨S' y) x B m Y (ot k l) S'→(∀y,S' y→(S y∨h.size≤y)∧y<B.size)→(cj l k=false→Y=b∧Upd No h B)→K (some ⟨Y,0,none⟩,cj l k) B)→
  HC PG kK [N5 x w k,.pointer (some ⟨b,0,none⟩),.int .i64 ((13-m:Nat):Int)] [.c .ptr,.c .bool] K h:=by
 intro m;induction m with
 |zero=>
  intro _ b l S k h t by_ hW j J hwS hr hn K Z;have X:∀y,S y→y<h.size:=fun y f=>hW y (j y f)
  refine rB (x.k0,x.k1,x.mask,w,k,kX x k) (some ⟨b,0,none⟩) ((13-0:Nat):Int) ?_;unfold nW ag aB nv mo qX aJ BU uL BD kC xg Gi l9 FV Cn;refine aO fun F b1 k1=>?_
  have bk:BuckO o W F b l S:=BuckO.upd0 t k1;have M:=by_.upd0 k1;have bkr:=bk.read M;obtain⟨sp,sk,ow,hb,_⟩:=bkr.ex;refine g7 (d:=0) (n:=0) hb (aA.2 ⟨_,vc b1 4,RA bkr hr (by omega) k fun h3 v G hv=>?_⟩)
  have b3:=G.get0 b1;have P:=k1.tr G;have z03:=P.size;cases i:cj l k with
  |false=>
   rw[i]at Z;refine aA.2 (Z h3 b S P.wide (by rw[vA (yn i)];exact(BuckO.upd0 t P).imp (fun n=>⟨n.1.less fun y f=>.inl (f.elim id (j y)),n.2⟩) id) (fun y f=>⟨.inl f,by have:=X y f;omega⟩) fun _=>⟨rfl,P⟩)
  |true=>
   rw[i]at Z;refine aj.2 ⟨w,vc b3 3,_,vc b3 4,?_⟩;refine NI (bk.upd0 G) (M.upd0 G) J hr (by omega) k fun h5 b5 sp5 sk5 on5 R=>?_
   have z5:=R.size;have hS0:o=none→∀y,¬S y:=fun e y f=>by
    rcases t with⟨_,h⟩|⟨h,_⟩
    ·exact h y f
    ·rw[e]at h;cases h
   exact Z h5 b5 _ (P.wide.tr R) (wg (W:=fun y=>W y∨(o.isSome=true∧(S y∨h3.size≤y)∧y<h5.size)) on5 fun e=>⟨hS0 e,fun y f=>f.elim (fun h=>by have:=hW y h;omega) fun h=>by rw[e]at h;cases h.1⟩) (fun y f=>⟨f.2.1.imp id fun h=>by omega,f.2.2⟩) (fun h=>by cases h)
 |succ m ih=>
  intro hm b l S k h t by_ hW j J hwS hr hn K Z;have gW:∀{B},Upd No h B→∀y,W y→y<B.size:=fun k y f=>bR (hW y f) k.size
  have X:∀y,S y→y<h.size:=fun y f=>hW y (j y f)
  have hl:13-(m+1)<13:=by omega
  have hlev:13-(m+1)=12-m:=by omega
  refine rB (x.k0,x.k1,x.mask,w,k,kX x k) (some ⟨b,0,none⟩) ((13-(m+1):Nat):Int) ?_;unfold nW ag aB nv mo qX aJ BU uL BD kC xg Gi l9 FV Cn;refine aO fun F b1 k1=>?_
  have z1:=aD b1;have M:=by_.upd0 k1;have hno:o=none→∀y,¬S y:=fun e=>by subst e;exact t.off.2
  obtain⟨s,S0,T,nd0,h0,C,hd,hs⟩:=(TrieO.upd0 k1 t).view;have ndr:=nd0.read M;obtain⟨d,n,sp,sk,ow,hb,_⟩:=ndr.ex;refine g7 hb (aj.2 ⟨_,vc b1 5,PE hl ?_⟩);rw[hlev];have hi:=yU x (12-m) k;have hsi:=hs _ hi;have O:cj (part x (12-m) (ck x (12-m) k) l) k=cj l k:=Cp;have hrp:cu (part x (12-m) (ck x (12-m) k) l):=qq hr;have hnp:(part x (12-m) (ck x (12-m) k) l).length≤1000000:=ba j3 hn
  have H:∀y,S y→y<F.size:=fun y f=>by have:=X y f;omega
  have turn:∀{hz B:ad} {Y d n:Nat} {sp sk:SliceV} {s':Slots} {T':Nat→Prop},Upd (T (ck x (12-m) k)) F hz→OwnN (fun y=>S0 y∨hz.size≤y) B Y d n sp sk s' o→Upd S0 hz B→(∀c,c≠ck x (12-m) k→s'.p c=s.p c∧s'.k c=s.k c)→
    SlotO o (fun y=>W y∨T' y) x hz m s' (ck x (12-m) k) (ot k (part x (12-m) (ck x (12-m) k) l)) T'→(∀y,T' y→(T (ck x (12-m) k) y∨F.size≤y)∧y<hz.size)→cj l k=true→
    K (some ⟨Y,0,none⟩,cj l k) B:=fun{hz B Y d n sp sk s' T'} ku on ku2 hp hslot I hth=>by
   have zz:=ku.size;have zz':=ku2.size;have hT0:∀y,T' y→¬S0 y∧∀c,c≠ck x (12-m) k→¬T c y:=fun y f=>by
    rcases(I y f).1 with h|h
    ·exact⟨(C _ y h).2,fun c hc i=>hc (hd _ _ y i h)⟩
    ·exact⟨fun hs=>by have:=H y (h0 y hs);omega,fun c _ i=>by have:=H y (C c y i).1;omega⟩
   refine Z B Y _ ((k1.wide.tr (ku.mono fun y f=>.inl (C _ y f).1)).tr (ku2.mono fun y f=>.inl (h0 y f))) (xi (W:=W) (W1:=fun y=>W y∨T' y) (T:=T) (T':=T') (c0:=ck x (12-m) k) (s:=s) (hz:=hz) on ku2 (fun c hc hcc=>?_) hp ?_ (fun y f=>.inl f) (fun y f=>.inl (j y (h0 y f))) (fun c y f=>.inl (j y (C c y f).1)) (fun y f=>.inr f) (fun c y f=>⟨by have:=H y (C c y f).1;omega,(C c y f).2⟩) (fun y f=>⟨(I y f).2,hT0 y f⟩) hd fun e=>⟨fun y f=>hno e y (h0 y f),fun y f=>f.elim (fun h=>by have:=hW y h;omega) fun h=>(I y h).2⟩) (fun y f=>?_) (fun h=>by rw[hth]at h;cases h)
   ·rw[Nd hcc]
    refine((hs c hc).less (W':=fun y=>W y∨T' y) fun y f=>f.elim .inl fun h=>(I y h).1.imp (fun h=>j y (C _ y h).1) id).upd ku (fun y f=>H y (C c y f).1) fun y f=>.inl ⟨.inl (j y (C _ y f).1),fun h=>hcc (hd _ _ y h f)⟩
   ·rw[HS];exact hslot
   ·have:=KW (S:=S) (z0:=h.size) h0 (fun c y f=>⟨(C c y f).1,by have:=H y (C c y f).1;omega⟩) (fun y f=>⟨(I y f).1.imp (fun h=>(C _ y h).1) fun h=>by omega,by have:=(I y f).2;omega⟩) (by omega) f
    exact this
  have same:∀{B:ad},Upd No F B→cj l k=false→K (some ⟨b,0,none⟩,false) B:=fun{B} hu i=>by
   have z:=hu.size;have:=Z _ b S (k1.tr hu).wide (by rw[vA (yn i)];exact(TrieO.upd0 (k1.tr hu) t).less fun y f=>.inl (f.elim id (j y))) (fun y f=>⟨.inl f,by have:=H y f;omega⟩) fun _=>⟨rfl,k1.tr hu⟩
   rw[i]at this;exact this
  clear Z;generalize hc:ck x (12-m) k=c at*;generalize hlc:part x (12-m) c l=lc at*;refine CT ndr hi fun h3 G=>?_
  refine aO fun h4 b4 k4=>?_
  have b4':h4[h3.size]? =some (.cells #[.string Jj.1,.string Jj.2] aw (0,0)):=b4;refine A8 (p:=Aj (s.p c)) b4' fun h5 b5 R=>?_
  have g:Upd No F h5:=(G.tr k4).own R G.size;have z15:=g.size;have c1:=g.get0 b1;have nd5:=nd0.upd0 g;have V:=M.upd0 g;cases hsp:s.p c with
  |some y=>
   rw[hsp]at b5;obtain⟨Q,hk0⟩:lc= [y]∧s.k c=none:=by
    rcases hsi with⟨_,u,_⟩|⟨q,F,u,h3,_⟩|⟨_,u,_⟩
    ·rw[hsp]at u;cases u
    ·rw[hsp]at u;cases u;exact⟨F,h3⟩
    ·rw[hsp]at u;cases u
   refine aA.2 ⟨y.1,vc b5 0,k,vc c1 4,?_⟩;rw[jp];by_cases e1:y.1=k
   ·have i:cj l k=true:=by rw[←O,Q];exact ci.2 ⟨y,aq.2 rfl,decide_eq_true e1⟩
    rw[decide_eq_true e1];refine aj.2 ⟨w,vc c1 3,NA nd5 V J hi fun h6 b6 d6 n6 sp6 sk6 on6 E=>?_⟩
    have:=turn (T':=No) g.wide on6 E (fun c' D=>⟨fY D,fY D⟩) (.inl ⟨by rw[Q,vZ,if_pos e1];rfl,gg,gg,fun _ h=>h⟩) (fun _ h=>h.elim) i
    rw[i]at this;exact this
   ·rw[decide_eq_false e1]
    have i:cj l k=false:=by
     rw[←O,Q];unfold cj;rw[o8,decide_eq_false e1];rfl
    exact aA.2 (same g i)
  |none=>
   refine aj.2 (Gr (nd5.read V) hi ?_);cases hsk:s.k c with
   |none=>
    have hlc0:lc= []:=by
     rcases hsi with⟨F,_⟩|⟨q,_,u,_⟩|⟨_,_,kb,u,_⟩
     ·exact F
     ·rw[hsp]at u;cases u
     ·rw[hsk]at u;cases u
    exact aA.2 (same g (by rw[←O,hlc0];rfl))
   |some kp=>
    obtain⟨h2l,kb,rfl,tk⟩:2≤lc.length∧∃kb,kp=some ⟨kb,0,none⟩∧TrieO o W x F m kb lc (T c):=by
     rcases hsi with⟨_,_,u,_⟩|⟨q,_,u,_⟩|⟨F,_,kb,u,h3⟩
     ·rw[hsk]at u;cases u
     ·rw[hsp]at u;cases u
     ·rw[hsk]at u;cases u;exact⟨F,kb,rfl,h3⟩
    refine aj.2 ⟨_,vc c1 0,_,vc c1 1,_,vc c1 2,_,vc c1 3,_,vc c1 4,_,vc c1 5,?_⟩;have ew:IntKind.wrap .i64 (((12-m:Nat):Int)+1)=((13-m:Nat):Int):=by rw[oq (by omega)];omega
    rw[ew];refine ih (by omega) k (TrieO.upd0 g tk) V (gW (k1.tr g)) (fun y f=>j y (C c y f).1) J (fun a e i=>hwS a e (C c _ i).1) hrp hnp fun h6 b6 Sk E t6 hSk hsame=>?_
    have z6:=E.size;rw[O];cases i:cj l k with
    |false=>exact aA.2 (same (g.tr (hsame (by rw[O,i])).2) i)
    |true=>
     have k16:Upd (T c) F h6:=g.wide.tr E;have by6:=V.updS E fun a e i=>hwS a e (C c _ i).1
     have c6:=E.get c1 fun f=>by have:=X _ (C c _ f).1;omega
     have nd6:NodeO o W h6 b s S0:=nd5.imp (fun n=>⟨n.1.upd E fun y f=>.inl (j y (C c y f).1),n.2⟩) fun⟨e,d,n,sp,sk,on⟩=>⟨e,d,n,sp,sk,on.upd E fun y f=>(C c y f).2⟩
     have hdl:=Md (k:=k) hrp;have hdn:(ot k lc).length≤1000000:=ba Pz hnp;refine aj.2 (PW (t6.read by6) hdn fun h7 p hu7 hp=>?_)
     refine aO fun h8 b8 k8=>?_
     have b8':h8[h7.size]? =some (.cells #[.string Jj.1,.string Jj.2] aw (0,0)):=b8;refine A8 (p:=p) b8' fun h9 b9 hu9=>?_
     have A:Upd No h6 h9:=(hu7.tr k8).own hu9 hu7.size;have z69:=A.size;have c9:=A.get0 c6;have nd9:=nd6.upd0 A;have by9:=by6.upd0 A;have k19:Upd (T c) F h9:=k16.tr A.wide;refine aG (fun e=>?_) fun e=>?_
     ·refine⟨w,vc c9 3,p.1,vc b9 0,p.2,vc b9 1,pc nd9 by9 J (fun y f=>by have:=H y (h0 y f);omega) hi (fun y f=>by rw[hsp]at f;cases f) p fun h10 b10 d10 n10 sp10 sk10 N L=>?_⟩
      have:=turn (T':=No) k19 N L (fun c' D=>⟨fY D,fY D⟩) (.inr (.inl ⟨p,hp e,gg,gg,fun _ h=>h⟩)) (fun _ h=>h.elim) i
      rw[i]at this;exact this
     ·refine⟨w,vc c9 3,tJ nd9 by9 J hi (fun _ _=>hsp) ⟨b6,0,none⟩ fun h10 b10 d10 n10 sp10 sk10 N L=>?_⟩
      have:=turn (T':=Sk) k19 N L (fun c' D=>⟨fY D,fY D⟩) (.inr (.inr ⟨by omega,gg,b6,gg,TrieO.upd0 A t6⟩)) (fun y f=>⟨(hSk y f).1.imp id fun h=>by omega,by have:=(hSk y f).2;omega⟩) i
      rw[i]at this;exact this
end Go.Proofs
namespace Go.Proofs
open Go Go.Lift
theorem EN{h:ad}{b:Nat}{K:Option Addr→ad→Prop}(a:K (some ⟨b,0,none⟩) h):HC PG lO [.pointer (some ⟨b,0,none⟩)] [.c .ptr] K h:=by
 refine G4 _ ?_;unfold zH;exact aj.2 a
theorem A0{h:ad}{b:Nat}{K:Option Addr→ad→Prop}(a:K (some ⟨b,0,none⟩) h):HC PG p6 [.pointer (some ⟨b,0,none⟩)] [.c .ptr] K h:=by
 refine GU _ ?_;unfold zv;exact aj.2 a
structure Can(o w:Option Addr)(W S:Nat→Prop)(h:ad):Prop where
 by_:By h w o
 lt:∀y,W y→y<h.size
 sub:∀y,S y→W y
 tok:∀a,o=some a→W a.block
 off:∀a,w=some a→¬S a.block
theorem Can.upd0{o w:Option Addr}{W S:Nat→Prop}{h a:ad}(c:Can o w W S h)(k:Upd No h a):Can o w W S a:=⟨c.by_.upd0 k,fun y b=>bR (c.lt y b) k.size,c.sub,c.tok,c.off⟩
theorem GJ{o w:Option Addr}{W S:Nat→Prop}{x:Hs}{h:ad}{b:Nat}{l:List Pr}(t:TrieO o W x h 13 b l S)(c:Can o w W S h)(hr:cu l)(X:l.length≤1000000)(p:Pr){K:Option Addr×Bool→ad→Prop}
  (Y:∀h' b' S',Upd S h h'→TrieO o (fun y=>W y∨S' y) x h' 13 b' (gY p l) S'→(∀y,S' y→(S y∨h.size≤y)∧y<h'.size)→K (some ⟨b',0,none⟩, !cj l p.1) h'):
  HC PG vy [.agg #[.int .u64 x.k0,.int .u64 x.k1,.int .u64 x.mask],.pointer w,.pointer (some ⟨b,0,none⟩),.agg #[.string p.1,.string p.2]] [.c .ptr,.c .bool] K h:=by
 refine IT (x.k0,x.k1,x.mask) w (some ⟨b,0,none⟩) p ?_;unfold BB ag aB eO Ae vM qX aJ uL xg RH RP;refine aO fun F b1 k1=>aO fun A b2 R=>?_
 have d:∀{h':ad},Upd No A h'→∀i,aM h' (adr ⟨h.size,0,none⟩ i)=(#[.int .u64 x.k0,.int .u64 x.k1,.int .u64 x.mask]:Array Value)[i]?:=fun k i=>vc (k.get0 (R.get0 b1)) i
 have s:∀{h':ad},Upd No A h'→∀i,aM h' (adr ⟨F.size,0,none⟩ i)=(#[.string p.1,.string p.2]:Array Value)[i]?:=fun k i=>vc (k.get0 b2) i
 have z:=Upd.refl No A;have L:=k1.tr R;let G:List Value:= [.int .u64 x.k0,.int .u64 x.k1,.int .u64 x.mask,.pointer w,.string p.1,.int .u64 (kX x p.1)]
 have fin:∀{f:ad} {j:Nat},Upd No A f→f[j]? =some (.cells G.toArray lC (0,0))→
   ∃v15:Int,aM f (adr ⟨j,0,none⟩ 0)=some (.int .u64 v15)∧
    ∃v16:Int,aM f (adr ⟨j,0,none⟩ 1)=some (.int .u64 v16)∧
    ∃v17:Int,aM f (adr ⟨j,0,none⟩ 2)=some (.int .u64 v17)∧
    ∃v18:Option Addr,aM f (adr ⟨j,0,none⟩ 3)=some (.pointer v18)∧
    ∃v19:ByteArray,aM f (adr ⟨j,0,none⟩ 4)=some (.string v19)∧
    ∃v20:Int,aM f (adr ⟨j,0,none⟩ 5)=some (.int .u64 v20)∧
    ∃v21:ByteArray,aM f (adr ⟨F.size,0,none⟩ 0)=some (.string v21)∧
    ∃v22:ByteArray,aM f (adr ⟨F.size,0,none⟩ 1)=some (.string v22)∧
    HC PG lO [.pointer (some ⟨b,0,none⟩)] [.c .ptr] (fun(O:Option Addr) e=>
     ((aM e (adr ⟨F.size,0,none⟩ 0)=some (.string v21)∧aM e (adr ⟨F.size,0,none⟩ 1)=some (.string v22))∧
      ((aM e (adr ⟨j,0,none⟩ 0)=some (.int .u64 v15)∧aM e (adr ⟨j,0,none⟩ 1)=some (.int .u64 v16)∧aM e (adr ⟨j,0,none⟩ 2)=some (.int .u64 v17)∧aM e (adr ⟨j,0,none⟩ 3)=some (.pointer v18)∧aM e (adr ⟨j,0,none⟩ 4)=some (.string v19)∧aM e (adr ⟨j,0,none⟩ 5)=some (.int .u64 v20))∧
       HC PG hG [.agg #[.int .u64 v15,.int .u64 v16,.int .u64 v17,.pointer v18,.string v19,.int .u64 v20],.pointer O,.agg #[.string v21,.string v22],.int .i64 0] [.c .ptr,.c .bool,.c .bool] (fun(D:(Option Addr)×Bool×Bool) I=>
        K (D.1,D.2.1) I) e))) f:=fun{f j} a M=>by
  have n:∀i,aM f (adr ⟨j,0,none⟩ i)=G.toArray[i]?:=fun i=>vc M i
  refine⟨_,n 0,_,n 1,_,n 2,_,n 3,_,n 4,_,n 5,p.1,s a 0,p.2,s a 1,EN ?_⟩;refine⟨⟨s a 0,s a 1⟩,⟨n 0,n 1,n 2,n 3,n 4,n 5⟩,?_⟩;have v:=L.tr a;have E:=c.upd0 v;have z4:=v.size;exact QN 13 (ao _) p (TrieO.upd0 v t) E.by_ E.lt E.sub E.tok E.off hr X fun Q N ch S6 B T C _ _=>Y Q N S6 (v.wide.tr B) T fun y H=>⟨(C y H).1.imp id fun h=>by omega,(C y H).2⟩
 have own:∀{J f:ad} {b:Nat},A.size≤b→Upd (· =b) J f→Upd No A J→Upd No A f:=fun hb hu k=>k.trans hu fun y H=>.inr (H▸hb)
 refine⟨_,d z 0,_,d z 1,_,d z 2,_,s z 0,_,d z 0,_,d z 1,_,d z 2,_,s z 0,?_,?_⟩
 ·refine tP fun J m=>⟨s m 0,⟨d m 0,d m 1,d m 2⟩,?_⟩
  refine aO fun f P q=>?_
  have a:=m.tr q;refine⟨s a 0,⟨d a 0,d a 1,d a 2⟩,?_⟩;refine dd (vs:=G) P rfl fun V Z u=>fin (own m.size u a) Z
 ·refine aO fun f P q=>?_
  refine⟨s q 0,⟨d q 0,d q 1,d q 2⟩,s q 0,⟨d q 0,d q 1,d q 2⟩,?_⟩;refine tP fun V u=>?_
  have g:=q.tr u;refine⟨s g 0,⟨d g 0,d g 1,d g 2⟩,?_⟩;exact dd (vs:=G) (u.get0 P) rfl fun Q N B=>fin (own (ao _) B g) N
theorem Ej{o w:Option Addr}{W S:Nat→Prop}{x:Hs}{h:ad}{b:Nat}{l:List Pr}(t:TrieO o W x h 13 b l S)(c:Can o w W S h)(u:cu l)(q:l.length≤1000000)(k:ByteArray){K:Option Addr×Bool→ad→Prop}
  (s:∀h' b' S',Upd S h h'→TrieO o (fun y=>W y∨S' y) x h' 13 b' (ot k l) S'→(∀y,S' y→(S y∨h.size≤y)∧y<h'.size)→(cj l k=false→b'=b)→K (some ⟨b',0,none⟩,cj l k) h'):
  HC PG uh [.agg #[.int .u64 x.k0,.int .u64 x.k1,.int .u64 x.mask],.pointer w,.pointer (some ⟨b,0,none⟩),.string k] [.c .ptr,.c .bool] K h:=by
 refine G5 (x.k0,x.k1,x.mask) w (some ⟨b,0,none⟩) k ?_;unfold zI ag Ae vM xg;refine aO fun D b1 k1=>EN ?_
 refine⟨_,vc b1 0,_,vc b1 1,_,vc b1 2,_,vc b1 0,_,vc b1 1,_,vc b1 2,?_⟩;refine tP fun B d=>?_
 have j:=d.get0 b1;refine⟨⟨vc j 0,vc j 1,vc j 2⟩,?_⟩;have a:=k1.tr d;have e:=c.upd0 a;have C:=a.size;exact GK 13 (ao _) k (TrieO.upd0 a t) e.by_ e.lt e.sub e.tok e.off u q fun z v p i n f g=>s z v p (a.wide.tr i) n (fun y m=>⟨(f y m).1.imp id fun h=>by omega,(f y m).2⟩) fun A=>(g A).1
def RadO(o:Option Addr)(W:Nat→Prop)(h:ad)(b:Nat)(l:List Pr)(S:Nat→Prop):Prop:=∃w F,RxO o W h b ⟨#[]⟩ w F S∧eW F∧∀k v,(k,v)∈nF w F↔∃p∈l,p.1.data.toList=k∧p.2=v
theorem F9{o w:Option Addr}{W S:Nat→Prop}{h:ad}{b:Nat}{l:List Pr}(t:RadO o W h b l S)(c:Can o w W S h)(n:cu l)(p:Pr)(C:p.1.size≤1000000){K:Option Addr×Bool→ad→Prop}
  (D:∀h' b' S' a,Upd S h h'→RadO o (fun y=>W y∨S' y) h' b' (gY p l) S'→(∀y,S' y→(S y∨h.size≤y)∧y<h'.size)→K (some ⟨b',0,none⟩,a) h'):
  HC PG vq [.pointer w,.pointer (some ⟨b,0,none⟩),.agg #[.string p.1,.string p.2]] [.c .ptr,.c .bool] K h:=by
 refine IG w (some ⟨b,0,none⟩) p ?_;unfold Bq aB uL Oa;refine aO fun J b1 k1=>?_
 refine⟨p.1,vc b1 0,p.2,vc b1 1,A0 ⟨vc b1 1,vc b1 0,?_⟩⟩;obtain⟨w0,F,B,z,H⟩:=t;have g:=c.upd0 k1;have M:=k1.size;refine MS (p.1.size+1) p.1 p.2 (by omega) C (B.upd0 k1) g.by_ g.lt g.sub g.tok g.off z fun E b3 w' F' A a L m s f j u G I=>?_
 refine D E b3 A a (k1.wide.tr m) ⟨w',F',s,j,fun k v=>?_⟩ fun y x=>⟨(f y x).1.imp id fun h=>by omega,(f y x).2⟩
 rw[mw,u k v,←mw,H k v];constructor
 ·rintro(⟨rfl,rfl⟩|⟨d,q,i,rfl,rfl⟩)
  ·exact⟨p,(rc n).2 (.inl rfl),rfl,rfl⟩
  ·exact⟨q,(rc n).2 (.inr ⟨i,fun e=>d (by rw[e])⟩),rfl,rfl⟩
 ·rintro⟨q,i,rfl,rfl⟩
  rcases(rc n).1 i with rfl|⟨i,d⟩
  ·exact .inl ⟨rfl,rfl⟩
  ·exact .inr ⟨fun e=>d (qD.1 e),q,i,rfl,rfl⟩
theorem JG{w:Option ByteArray}{F:Fo}{l:List Pr}(h:∀k v,(k,v)∈nF w F↔∃p∈l,p.1.data.toList=k∧p.2=v)(a:Fit l):∀j v,ox F j v→j.length≤1000000:=fun j v hi=>by
 obtain⟨p,b,e,_⟩:=(h j v).1 (mw.2 (.inr hi));have:=(a p b).1;rw[←e,lD];omega
theorem Ea{o w:Option Addr}{W S:Nat→Prop}{h:ad}{b:Nat}{l:List Pr}(t:RadO o W h b l S)(c:Can o w W S h)(D:Fit l)(k:ByteArray){K:Option Addr×Bool→ad→Prop}
  (I:∀h' b' S',Upd S h h'→RadO o (fun y=>W y∨S' y) h' b' (ot k l) S'→(∀y,S' y→(S y∨h.size≤y)∧y<h'.size)→(cj l k=false→b'=b)→K (some ⟨b',0,none⟩,cj l k) h'):
  HC PG tV [.pointer w,.pointer (some ⟨b,0,none⟩),.string k] [.c .ptr,.c .bool] K h:=by
 refine GV w (some ⟨b,0,none⟩) k ?_;unfold zx BD;refine A0 ?_;obtain⟨w0,F,H,E,z⟩:=t;refine MV (k.size+1) k (by omega) H c.by_ c.lt c.sub c.tok c.off E (JG z D) fun J b3 w' F' G a s B m n A i C=>?_
 have g:∀v,py w0 F k.data.toList v↔(k,v)∈l:=fun v=>by
  rw[←mw,z];constructor
  ·rintro⟨p,x,L,rfl⟩
   rw[←qD.1 L];exact x
  ·intro x;exact⟨_,x,rfl,rfl⟩
 have u:a=cj l k:=by
  cases a with
  |false=>
   refine(yB fun q f e=>(i rfl).2.2.2.2 q.2 ((g _).2 ?_)).symm
   rw[←e];exact f
  |true=>
   obtain⟨v,hv⟩:=C rfl;exact(ci.2 ⟨_,(g v).1 hv,decide_eq_true rfl⟩).symm
 subst u;refine I J b3 G s ⟨w',F',B,n,fun j v=>?_⟩ m fun M=>(i M).1
 rw[mw,A j v,←mw,z];constructor
 ·rintro⟨d,q,f,rfl,rfl⟩
  exact⟨q,B5.2 ⟨f,fun e=>d (by rw[e])⟩,rfl,rfl⟩
 ·rintro⟨q,f,rfl,rfl⟩
  obtain⟨f,d⟩:=B5.1 f;exact⟨fun e=>d (qD.1 e),q,f,rfl,rfl⟩
end Go.Proofs
namespace Go.Proofs
open Go Go.Lift
def yf(p:Pr):Int:=if 256<p.1.size then 2 else if 4096<p.2.size then 3 else 0
theorem EU{p:Pr}(h:yf p=0):p.1.size≤256∧p.2.size≤4096:=by
 unfold yf at h;split at h
 ·cases h
 ·split at h
  ·cases h
  ·omega
theorem LX{p:Pr}{h:ad}{K:Int→ad→Prop}(a:K (yf p) h):HC PG p9 [.string p.1,.string p.2] [.c (.int .i64)] K h:=by
 refine G1 p.1 p.2 ?_;unfold zE;unfold yf at a;refine aG (fun e=>?_) fun e=>aG (fun e'=>?_) fun e'=>?_
 ·rw[if_pos (by omega)]at a;exact a
 ·rw[if_neg (by omega),if_pos (by omega)]at a;exact a
 ·rw[if_neg (by omega),if_neg (by omega)]at a;exact a
theorem QH{p:Pr}{h:ad}{K:Int→ad→Prop}(a:K (yf p) h):HC PG rk [.string p.1,.string p.2] [.c (.int .i64)] K h:=by
 refine Bo p.1 p.2 ?_;unfold vI;unfold yf at a;refine aG (fun e=>?_) fun e=>aG (fun e'=>?_) fun e'=>?_
 ·rw[if_pos (by omega)]at a;exact a
 ·rw[if_neg (by omega),if_pos (by omega)]at a;exact a
 ·rw[if_neg (by omega),if_neg (by omega)]at a;exact a
end Go.Proofs
namespace Go.Proofs
open Go Go.Lift
def BK(l:List Pr)(k:ByteArray):Int:=if 256<k.size then 2 else if cj l k then 0 else 4
def l6(l:List Pr)(p:Pr):List Pr:=if yf p=0 then gY p l else l
def jH(l:List Pr)(k:ByteArray):List Pr:=if 256<k.size then l else ot k l
theorem RadO.upd{o:Option Addr}{W M S:Nat→Prop}{h a:ad}{b:Nat}{l:List Pr}(k:Upd M h a)(t:RadO o W h b l S)(d:∀y,S y→y<h.size)(hm:∀y,M y→(W y∧¬S y)∨h.size≤y):RadO o W a b l S:=let⟨w,F,r,c,e⟩:=t;⟨w,F,r.upd k d hm,c,e⟩
theorem RadO.less{o:Option Addr}{W W' S:Nat→Prop}{h:ad}{b:Nat}{l:List Pr}(hm:∀y,W' y→W y∨h.size≤y)(t:RadO o W h b l S):RadO o W' h b l S:=let⟨w,F,r,c,e⟩:=t;⟨w,F,r.less hm,c,e⟩
def TreeO(o:Option Addr)(W:Nat→Prop)(h:ad)(a:Int)(x:Hs)(t:Tr)(l:List Pr)(S:Nat→Prop):Prop:=(a=0∧∃b,t=(0,x.k0,x.k1,x.mask,some ⟨b,0,none⟩,none)∧TrieO o W x h 13 b l S)∨(a=1∧∃b,t=(1,0,0,0,none,some ⟨b,0,none⟩)∧RadO o W h b l S)
theorem yl{o:Option Addr}{W:Nat→Prop}{h:ad}{a:Int}{x:Hs}{t:Tr}{l:List Pr}(i:TreeIs W h a x t l):TreeO o W h a x t l No:=
 i.imp (fun⟨e,b,c,t⟩=>⟨e,b,c,Ho t⟩) fun⟨e,b,c,t⟩=>⟨e,b,c,let⟨w,F,g,f,d⟩:=t.ex;⟨w,F,.inl ⟨g,fun _ h=>h⟩,f,d⟩⟩
theorem TreeO.upd{o:Option Addr}{W M S:Nat→Prop}{h f:ad}{a:Int}{x:Hs}{t:Tr}{l:List Pr}(k:Upd M h f)(i:TreeO o W h a x t l S)(d:∀y,S y→y<h.size)(hm:∀y,M y→(W y∧¬S y)∨h.size≤y):TreeO o W f a x t l S:=
 i.imp (fun⟨e,b,c,t⟩=>⟨e,b,c,TrieO.upd k t d hm⟩) fun⟨e,b,c,t⟩=>⟨e,b,c,t.upd k d hm⟩
theorem TreeO.upd0{o:Option Addr}{W S:Nat→Prop}{h f:ad}{a:Int}{x:Hs}{t:Tr}{l:List Pr}(k:Upd No h f)(i:TreeO o W h a x t l S):TreeO o W f a x t l S:=
 i.imp (fun⟨e,b,d,t⟩=>⟨e,b,d,TrieO.upd0 k t⟩) fun⟨e,b,d,w,F,r,c⟩=>⟨e,b,d,w,F,r.upd0 k,c⟩
theorem TreeO.less{o:Option Addr}{W W' S:Nat→Prop}{h:ad}(hm:∀b,W' b→W b∨h.size≤b){a:Int}{x:Hs}{t:Tr}{l:List Pr}(i:TreeO o W h a x t l S):TreeO o W' h a x t l S:=
 i.imp (fun⟨e,b,c,t⟩=>⟨e,b,c,TrieO.less hm t⟩) fun⟨e,b,c,t⟩=>⟨e,b,c,t.less hm⟩
theorem TreeO.freeze{o:Option Addr}{W W' S:Nat→Prop}{h:ad}(g:∀y,W' y→W y)(f:OwOk W' h o){a:Int}{x:Hs}{t:Tr}{l:List Pr}(i:TreeO o W h a x t l S)(d:∀y,S y→¬W' y):TreeIs W' h a x t l:=
 i.imp (fun⟨e,b,c,t⟩=>⟨e,b,c,TrieO.freeze g f t d⟩) fun⟨e,b,c,w,F,r,c1,c2⟩=>⟨e,b,c,⟨w,F,r.freeze g f d,c1,c2⟩⟩
theorem TreeO.read{o w:Option Addr}{W S:Nat→Prop}{h:ad}{b:Int}{x:Hs}{t:Tr}{l:List Pr}(i:TreeO o W h b x t l S)(by_:By h w o):TreeIs No h b x t l:=
 i.freeze (fun _ h=>h.elim) (fun a e=>⟨id,by_.plain a (by_.tok e)⟩) fun _ _ h=>h
theorem Can.pro{o w:Option Addr}{W S:Nat→Prop}{h b:ad}(c:Can o w W S h)(k:Upd No h b):Can o w (Pro W h b) S b:=⟨c.by_.upd0 k,Pro.lt c.lt k,fun y d=>.inl (c.sub y d),fun a e=>.inl (c.tok a e),c.off⟩
theorem TreeO.pro{o:Option Addr}{W S:Nat→Prop}{h b:ad}(k:Upd No h b){a:Int}{x:Hs}{t:Tr}{l:List Pr}(i:TreeO o W h a x t l S):TreeO o (Pro W h b) b a x t l S:=(i.less Pro.hm).upd0 k
theorem TreeO.loc{o:Option Addr}{W S c:Nat→Prop}{h f g j:ad}{b:Nat}{a:Int}{x:Hs}{t:Tr}{l:List Pr}(i:TreeO o (fun y=>Pro W h f y∨c y) g a x t l c)(k:Upd (· =b) g j)(n:h.size≤b)(p:b<f.size)(m:∀y,S y→y<h.size)(e:∀y,c y→(S y∨f.size≤y)∧y<g.size):TreeO o (fun y=>Pro W h f y∨c y) j a x t l c:=
 i.upd k (fun y d=>(e y d).2) fun y d=>by
  have d:y=b:=d;subst d;refine .inl ⟨.inl (.inr ⟨n,p⟩),fun q=>?_⟩
  rcases(e y q).1 with h|h
  ·have:=m y h;omega
  ·omega
theorem EL{o w:Option Addr}{W S:Nat→Prop}{x:Hs}{h:ad}{s:Int}{t:Tr}{l:List Pr}(i:TreeO o W h s x t l S)(c:Can o w W S h)(V:cu l)(hn:l.length≤1000000)(p:Pr){K:Tr×Int→ad→Prop}
  (G:∀h' v z,Upd S h h'→TreeO o (fun y=>W y∨z y) h' s x v (l6 l p) z→(∀y,z y→(S y∨h.size≤y)∧y<h'.size)→(yf p≠0→v=t)→K (v,yf p) h'):HC PG ji [LK t,.pointer w,.agg #[.string p.1,.string p.2]] [.agg [.int .i64,.int .u64,.int .u64,.int .u64,.ptr,.ptr],.c (.int .i64)] K h:=by
 unfold l6 at G;have u:∀y,S y→y<h.size:=fun y a=>c.lt y (c.sub y a)
 refine AB t w p ?_;unfold sY bo ag bN aB eO cV vM jw qX sK uO BC aJ uL;refine aO fun X b1 k1=>aO fun I b2 P=>aO fun Q b3 M=>?_
 have z1:=aD b1;have z2:=aD b2;have z3:=aD b3;have s1:h.size≤X.size:=k1.size;have s2:X.size≤I.size:=P.size;have s3:=M.size;have A:=(k1.tr P).tr M;have n:=M.get0 (P.get0 b1);have F:=M.get0 b2;refine⟨_,vc F 0,_,vc F 1,LX (p:=p) ?_⟩;by_cases e:yf p=0
 ·rw[if_pos e]at G
  have N:=EU e;rw[e]at G⊢;refine aj.2 ?_;have Z:=i.pro A;have Y:=c.pro A;have fin:∀{B D:ad} {v:Tr} {z:Nat→Prop},Upd S Q B→TreeO o (fun y=>Pro W h Q y∨z y) B s x v (gY p l) z→(∀y,z y→(S y∨Q.size≤y)∧y<B.size)→D[h.size]? =some (.cells (je v).toArray aS (0,0))→Upd (· =h.size) B D→D[I.size]? =some (.cells (je wM).toArray aS (0,0))→∀{C:ad},C[I.size]? =some (.cells (je v).toArray aS (0,0))→Upd (· =I.size) D C→K (v,0) C:=fun{B D v z} L i4 f k d H {C} j m=>by
   have z4:=L.size;have z5:=d.size;have z6:=m.size;have i5:=i4.loc d (ao _) (by omega) u f;have i6:=i5.loc m (by omega) (by omega) u fun y a=>⟨(f y a).1,by have:=(f y a).2;omega⟩
   refine G C v z (((A.wide.tr L).trans d fun y a=>.inr (by have a:y=h.size:=a;omega)).trans m fun y a=>.inr (by have a:y=I.size:=a;omega)) (i6.less fun y a=>.inl (a.imp .inl id)) (fun y a=>⟨(f y a).1.imp id fun h=>by omega,by have:=(f y a).2;omega⟩) fun h=>absurd rfl h
  rcases Z with⟨rfl,b,rfl,T⟩|⟨rfl,b,rfl,T⟩
  ·refine⟨_,vc n 0,aj.2 ⟨_,fu n 1 0,_,fu n 1 1,_,fu n 1 2,_,vc n 4,p.1,vc F 0,p.2,vc F 1,?_⟩⟩
   refine GJ T Y V hn p fun B q S4 g O f=>?_
   have J:∀{y},h.size≤y→¬S y:=fun a N=>by have:=u _ N;omega
   refine pB (i:=4) (c':=(je (0,x.k0,x.k1,x.mask,some ⟨q,0,none⟩,none)).toArray) (g.get n (J (ao _))) (show 4<6 by decide) rfl fun D k d=>?_
   refine⟨_,vc k 0,_,vc k 1,_,vc k 2,_,vc k 3,_,vc k 4,_,vc k 5,?_⟩;have H:=d.oth (g.get b3 (J (by omega))) (by omega);refine dd (c:=je wM) (vs:=je (0,x.k0,x.k1,x.mask,some ⟨q,0,none⟩,none)) H rfl fun C j m=>?_
   exact⟨_,vc j 0,_,vc j 1,_,vc j 2,_,vc j 3,_,vc j 4,_,vc j 5,fin g (.inl ⟨rfl,q,rfl,O⟩) f k d H j m⟩
  ·refine⟨_,vc n 0,aA.2 ⟨_,vc n 5,p.1,vc F 0,p.2,vc F 1,?_⟩⟩
   refine F9 T Y V p (by omega) fun B q S4 R g O f=>?_
   have J:∀{y},h.size≤y→¬S y:=fun a N=>by have:=u _ N;omega
   refine pB (i:=5) (c':=(je (1,0,0,0,none,some ⟨q,0,none⟩)).toArray) (g.get n (J (ao _))) (show 5<6 by decide) rfl fun D k d=>?_
   refine⟨_,vc k 0,_,vc k 1,_,vc k 2,_,vc k 3,_,vc k 4,_,vc k 5,?_⟩;have H:=d.oth (g.get b3 (J (by omega))) (by omega);refine dd (c:=je wM) (vs:=je (1,0,0,0,none,some ⟨q,0,none⟩)) H rfl fun C j m=>?_
   exact⟨_,vc j 0,_,vc j 1,_,vc j 2,_,vc j 3,_,vc j 4,_,vc j 5,fin g (.inr ⟨rfl,q,rfl,O⟩) f k d H j m⟩
 ·rw[if_neg e]at G
  rw[show(yf p !=0)=true by simpa using e]
  refine aA.2 ⟨_,vc n 0,_,vc n 1,_,vc n 2,_,vc n 3,_,vc n 4,_,vc n 5,?_⟩;refine dd (c:=je wM) (vs:=je t) b3 rfl fun B q g=>?_
  have E:=A.own g (by omega);exact⟨_,vc q 0,_,vc q 1,_,vc q 2,_,vc q 3,_,vc q 4,_,vc q 5,G B t S E.wide ((i.upd0 E).less fun y a=>.inl (a.elim id (c.sub y))) (fun y a=>⟨.inl a,by have:=u y a;have:=E.size;omega⟩) fun _=>rfl⟩
end Go.Proofs
namespace Go.Proofs
open Go Go.Lift
theorem F4{o w:Option Addr}{W S:Nat→Prop}{x:Hs}{h:ad}{s:Int}{t:Tr}{l:List Pr}(i:TreeO o W h s x t l S)(c:Can o w W S h)(hr:cu l)(hf:Fit l)(hn:l.length≤1000000)(k:ByteArray){K:Tr×Int→ad→Prop}
  (O:∀h' m q,Upd S h h'→TreeO o (fun y=>W y∨q y) h' s x m (jH l k) q→(∀y,q y→(S y∨h.size≤y)∧y<h'.size)→(BK l k≠0→m=t)→K (m,BK l k) h'):HC PG ma [LK t,.pointer w,.string k] [.agg [.int .i64,.int .u64,.int .u64,.int .u64,.ptr,.ptr],.c (.int .i64)] K h:=by
 unfold jH BK at O;have E:∀y,S y→y<h.size:=fun y d=>c.lt y (c.sub y d)
 refine wp t w k ?_;unfold pQ bo ag bN eO cV nv vM jw sK uO BC aJ BD;refine aO fun j b1 k1=>aO fun G b2 k2=>?_
 have z1:=aD b1;have z2:=aD b2;have s1:h.size≤j.size:=k1.size;have Y:=k1.tr k2;have c1:=k2.get0 b1;refine LX (p:=(k,⟨#[]⟩)) ?_;by_cases e:256<k.size
 ·rw[if_pos e,if_pos e]at O
  rw[show yf (k,(⟨#[]⟩:ByteArray))=2 from if_pos e]
  refine aA.2 ⟨_,vc c1 0,_,vc c1 1,_,vc c1 2,_,vc c1 3,_,vc c1 4,_,vc c1 5,?_⟩;refine dd (c:=je wM) (vs:=je t) b2 rfl fun L J F=>?_
  have u:=Y.own F s1;exact⟨_,vc J 0,_,vc J 1,_,vc J 2,_,vc J 3,_,vc J 4,_,vc J 5,O L t S u.wide ((i.upd0 u).less fun y d=>.inl (d.elim id (c.sub y))) (fun y d=>⟨.inl d,by have:=E y d;have:=u.size;omega⟩) fun _=>rfl⟩
 rw[if_neg e,if_neg e]at O;rw[show yf (k,(⟨#[]⟩:ByteArray))=0 by unfold yf;rw[if_neg e];exact if_neg (Nat.not_lt.2 (Nat.zero_le 4096))]
 refine aj.2 ?_;refine⟨_,vc c1 0,_,vc c1 1,_,vc c1 2,_,vc c1 3,_,vc c1 4,_,vc c1 5,?_⟩;refine aO fun h3 b3 k3=>?_
 have z3:=aD b3;have s2:j.size≤G.size:=k2.size;refine dd (c:=je wM) (vs:=je t) b3 rfl fun L J F=>?_
 have u:Upd No h L:=(Y.tr k3).own F (by omega);have V:Upd No G L:=k3.own F (ao _);have s4:h3.size≤L.size:=F.size;have I:=V.get0 c1;have d4:=V.get0 b2;have i4:=i.pro u;have T:=c.pro u;have P:∀{y},h.size≤y→¬S y:=fun d hs=>by have:=E _ hs;omega
 have fin:∀{a:ad} {m:Tr} {q:Nat→Prop},Upd S h a→a[h.size]? =some (.cells (je m).toArray aS (0,0))→a[j.size]? =some (.cells (je wM).toArray aS (0,0))→a[G.size]? =some (.cells (je t).toArray aS (0,0))→TreeO o (fun y=>Pro W h L y∨q y) a s x m (ot k l) q→(∀y,q y→(S y∨L.size≤y)∧y<a.size)→(cj l k=false→m=t)→
   CondP (!cj l k) (∃v41:Int,aM a (adr (aC G) 0)=some (.int .i64 v41)∧
    ∃v42:Int,aM a (adr (aC G) 1)=some (.int .u64 v42)∧
    ∃v43:Int,aM a (adr (aC G) 2)=some (.int .u64 v43)∧
    ∃v44:Int,aM a (adr (aC G) 3)=some (.int .u64 v44)∧
    ∃v45:Option Addr,aM a (adr (aC G) 4)=some (.pointer v45)∧
    ∃v46:Option Addr,aM a (adr (aC G) 5)=some (.pointer v46)∧
    (sS a (some (aC j)) 0 [.int .i64 v41,.int .u64 v42,.int .u64 v43,.int .u64 v44,.pointer v45,.pointer v46]∧
     At (gT a (aC j) 0 [.int .i64 v41,.int .u64 v42,.int .u64 v43,.int .u64 v44,.pointer v45,.pointer v46]) (fun z=>
      ∃v48:Int,aM z (adr (aC j) 0)=some (.int .i64 v48)∧
      ∃v49:Int,aM z (adr (aC j) 1)=some (.int .u64 v49)∧
      ∃v50:Int,aM z (adr (aC j) 2)=some (.int .u64 v50)∧
      ∃v51:Int,aM z (adr (aC j) 3)=some (.int .u64 v51)∧
      ∃v52:Option Addr,aM z (adr (aC j) 4)=some (.pointer v52)∧
      ∃v53:Option Addr,aM z (adr (aC j) 5)=some (.pointer v53)∧
      K ((v48,v49,v50,v51,v52,v53),4) z))) (
    ∃v54:Int,aM a (adr (aC h) 0)=some (.int .i64 v54)∧
    ∃v55:Int,aM a (adr (aC h) 1)=some (.int .u64 v55)∧
    ∃v56:Int,aM a (adr (aC h) 2)=some (.int .u64 v56)∧
    ∃v57:Int,aM a (adr (aC h) 3)=some (.int .u64 v57)∧
    ∃v58:Option Addr,aM a (adr (aC h) 4)=some (.pointer v58)∧
    ∃v59:Option Addr,aM a (adr (aC h) 5)=some (.pointer v59)∧
    (sS a (some (aC j)) 0 [.int .i64 v54,.int .u64 v55,.int .u64 v56,.int .u64 v57,.pointer v58,.pointer v59]∧
     At (gT a (aC j) 0 [.int .i64 v54,.int .u64 v55,.int .u64 v56,.int .u64 v57,.pointer v58,.pointer v59]) (fun v=>
      ∃v61:Int,aM v (adr (aC j) 0)=some (.int .i64 v61)∧
      ∃v62:Int,aM v (adr (aC j) 1)=some (.int .u64 v62)∧
      ∃v63:Int,aM v (adr (aC j) 2)=some (.int .u64 v63)∧
      ∃v64:Int,aM v (adr (aC j) 3)=some (.int .u64 v64)∧
      ∃v65:Option Addr,aM v (adr (aC j) 4)=some (.pointer v65)∧
      ∃v66:Option Addr,aM v (adr (aC j) 5)=some (.pointer v66)∧
      K ((v61,v62,v63,v64,v65,v66),0) v))):=fun{a m q} k6 M Z N i6 D n=>by
  have done:∀{H:ad},Upd (· =j.size) a H→(cj l k=false→m=t)→Upd S h H∧TreeO o (fun y=>W y∨q y) H s x m (ot k l) q∧∀y,q y→(S y∨h.size≤y)∧y<H.size:=fun{H} A _=>by
   have z7:=A.size;exact⟨k6.trans A fun y d=>.inr (by have d:y=j.size:=d;omega),(i6.loc A s1 (by omega) E D).less fun y d=>.inl (d.imp .inl id),fun y d=>⟨(D y d).1.imp id fun h=>by omega,by have:=(D y d).2;omega⟩⟩
  cases Q:cj l k with
  |false=>
   rw[Q]at O n done;have hte:=n rfl;subst hte;refine aA.2 ⟨_,vc N 0,_,vc N 1,_,vc N 2,_,vc N 3,_,vc N 4,_,vc N 5,?_⟩;refine dd (c:=je wM) (vs:=je m) Z rfl fun H C A=>?_
   refine⟨_,vc C 0,_,vc C 1,_,vc C 2,_,vc C 3,_,vc C 4,_,vc C 5,?_⟩;obtain⟨a1,a2,a3⟩:=done A fun _=>rfl
   exact O H m q a1 a2 a3 fun _=>rfl
  |true=>
   rw[Q]at O n done;refine aj.2 ⟨_,vc M 0,_,vc M 1,_,vc M 2,_,vc M 3,_,vc M 4,_,vc M 5,?_⟩;refine dd (c:=je wM) (vs:=je m) Z rfl fun H C A=>?_
   refine⟨_,vc C 0,_,vc C 1,_,vc C 2,_,vc C 3,_,vc C 4,_,vc C 5,?_⟩;obtain⟨a1,a2,a3⟩:=done A fun h=>by cases h
   exact O H m q a1 a2 a3 fun h=>absurd rfl h
 refine Join.intro (fun tk a=>tk=cj l k∧∃m q,Upd S h a∧a[h.size]? =some (.cells (je m).toArray aS (0,0))∧a[j.size]? =some (.cells (je wM).toArray aS (0,0))∧a[G.size]? =some (.cells (je t).toArray aS (0,0))∧TreeO o (fun y=>Pro W h L y∨q y) a s x m (ot k l) q∧(∀y,q y→(S y∨L.size≤y)∧y<a.size)∧(cj l k=false→m=t)) (fun R hR=>?_) ?_
 ·rcases i4 with⟨rfl,b,rfl,t4⟩|⟨rfl,b,rfl,t4⟩
  ·refine⟨_,vc I 0,aj.2 ⟨_,fu I 1 0,_,fu I 1 1,_,fu I 1 2,_,vc I 4,?_⟩⟩
   refine Ej t4 T hr hn k fun h5 X S5 f t5 B n=>?_
   have s5:=f.size;refine pB (i:=4) (c':=(je (0,x.k0,x.k1,x.mask,some ⟨X,0,none⟩,none)).toArray) (f.get I (P (ao _))) (show 4<6 by decide) rfl fun a b6 g=>?_
   have s6:=g.size;exact hR _ _ ⟨rfl,_,S5,(u.wide.tr f).trans g fun y d=>.inr (by have d:y=h.size:=d;omega),b6,g.oth (f.get d4 (P (by omega))) (by omega),g.oth (f.get J (P (by omega))) (by omega),TreeO.loc (.inl ⟨rfl,X,rfl,t5⟩) g (ao _) (by omega) E B,fun y d=>⟨(B y d).1,by have:=(B y d).2;omega⟩,fun Q=>by rw[n Q]⟩
  ·refine⟨_,vc I 0,aA.2 ⟨_,vc I 5,?_⟩⟩
   refine Ea t4 T hf k fun h5 X S5 f t5 B n=>?_
   have s5:=f.size;refine pB (i:=5) (c':=(je (1,0,0,0,none,some ⟨X,0,none⟩)).toArray) (f.get I (P (ao _))) (show 5<6 by decide) rfl fun a b6 g=>?_
   have s6:=g.size;exact hR _ _ ⟨rfl,_,S5,(u.wide.tr f).trans g fun y d=>.inr (by have d:y=h.size:=d;omega),b6,g.oth (f.get d4 (P (by omega))) (by omega),g.oth (f.get J (P (by omega))) (by omega),TreeO.loc (.inr ⟨rfl,X,rfl,t5⟩) g (ao _) (by omega) E B,fun y d=>⟨(B y d).1,by have:=(B y d).2;omega⟩,fun Q=>by rw[n Q]⟩
 ·rintro _ a ⟨rfl,m,q,k6,M,Z,N,i6,D,n⟩
  exact fin k6 M Z N i6 D n
theorem Can.nil{W:Nat→Prop}{h:ad}(a:∀y,W y→y<h.size):Can none none W No h:=⟨.inl ⟨rfl,rfl⟩,a,fun _ h=>h.elim,fun _ h=>(by cases h),fun _ _ h=>h⟩
theorem TreeO.nil{W S:Nat→Prop}{h:ad}{a:Int}{x:Hs}{t:Tr}{l:List Pr}(i:TreeO none (fun y=>W y∨S y) h a x t l S):TreeIs W h a x t l:=by
 rcases i with⟨e,b,c,t⟩|⟨e,b,c,w,F,r,c1,c2⟩
 ·exact .inl ⟨e,b,c,TrieAt.less (fun y d=>.inl (.inl d)) t.off.1⟩
 ·exact .inr ⟨e,b,c,⟨w,F,RxN.less (fun y d=>.inl (.inl d)) r.off.1,c1,c2⟩⟩
theorem MI{W:Nat→Prop}{x:Hs}{h:ad}{a:Int}{t:Tr}{l:List Pr}(i:TreeIs W h a x t l)(m:∀y,W y→y<h.size)(f:cu l)(d:l.length≤1000000)(p:Pr){K:Tr×Int→ad→Prop}
  (j:∀b c,TreeIs W b a x c (l6 l p)→(yf p≠0→c=t)→Upd No h b→K (c,yf p) b):HC PG ji [LK t,.pointer none,.agg #[.string p.1,.string p.2]] [.agg [.int .i64,.int .u64,.int .u64,.int .u64,.ptr,.ptr],.c (.int .i64)] K h:=
 EL (yl i) (Can.nil m) f d p fun b c _ k g _ e=>j b c g.nil e k
end Go.Proofs
namespace Go.Proofs
open Go Go.Lift Go.Conc
def PoolAt(h:ad)(pb cb cap:Nat)(ids:List Int):Prop:=pb≠cb∧h[pb]? =some (.cells #[.chan (some cb)] 130 (0,0))∧∃s r,h[cb]? =some (.chan cap (ids.map fun i=>Value.int .i64 i).toArray false s r false)
theorem PoolAt.upd{M:Nat→Prop}{h c:ad}{pb cb cap:Nat}{ids:List Int}(p:PoolAt h pb cb cap ids)(k:Upd M h c)(d:¬M pb)(e:¬M cb):PoolAt c pb cb cap ids:=let⟨n,a,s,r,b⟩:=p;⟨n,k.get a d,s,r,k.get b e⟩
theorem PoolAt.upd0{h a:ad}{pb cb cap:Nat}{ids:List Int}(p:PoolAt h pb cb cap ids)(k:Upd No h a):PoolAt a pb cb cap ids:=p.upd k id id
def TokAt(h:ad)(tb pb:Nat)(id:Int)(a:Bool):Prop:=h[tb]? =some (.cells #[.pointer (some ⟨pb,0,none⟩),.int .i64 id,.bool a] oU (0,0))
theorem TokAt.by_{h:ad}{tb pb:Nat}{id:Int}{a:Bool}(t:TokAt h tb pb id a):By h (some ⟨tb,0,none⟩) (if a then some ⟨tb,0,none⟩else none):=.inr ⟨tb,_,id,a,rfl,t,rfl⟩
theorem CS{n:Nat}(o:1≤n)(k:n≤4096){h:ad}{K:Option Addr×Int→ad→Prop}(c:∀h',Upd No h h'→PoolAt h' (h.size+1) h.size n ((cK n).map fun j=>((j:Nat):Int)+1)→K (some ⟨h.size+1,0,none⟩,0) h'):HC PG vp [.int .i64 n] [.c .ptr,.c (.int .i64)] K h:=by
 refine⟨fun w m=>.inl ⟨Tryz.call32 _ w,(OW o k (w:=w)).mono ?_⟩⟩
 subst m;rintro e w' ⟨rfl,ids,s,r,p,g,q⟩;have k1:Upd No w.heap ((w.heap.push (.chan n #[] false 0 0 false)).push (.cells #[.chan (some w.heap.size)] 130 (0,0))):=(Upd.push No w.heap _).tr (Upd.push No _ _);have a:ids=(((cK n).map fun j=>((j:Nat):Int)+1).map fun i=>Value.int .i64 i):=by rw[p];simp[Function.comp_def]
 have b:((w.heap.push (.chan n #[] false 0 0 false)).push (.cells #[.chan (some w.heap.size)] 130 (0,0)))[w.heap.size+1]? =some (.cells #[.chan (some w.heap.size)] 130 (0,0)):=by
  rw[jc,Array.size_push,if_pos rfl]
 rcases q with rfl|rfl
 ·refine⟨⟨rfl,rfl,rfl⟩,((some ⟨w.heap.size+1,0,none⟩,0):Option Addr×Int),rfl,c _ k1 ⟨by omega,b,s,r,?_⟩⟩
  rw[←a];exact g
 ·have d:=Upd.set (M:=(· =w.heap.size)) ((w.heap.push (.chan n #[] false 0 0 false)).push (.cells #[.chan (some w.heap.size)] 130 (0,0))) (.chan n ids.toArray false s r false) rfl
  refine⟨⟨rfl,rfl,rfl⟩,((some ⟨w.heap.size+1,0,none⟩,0):Option Addr×Int),rfl,c _ (k1.trans d fun y f=>.inr (by have f:y=w.heap.size:=f;omega)) ⟨by omega,d.get b (fun e=>by have e:w.heap.size+1=w.heap.size:=e;omega),s,r,?_⟩⟩
  rw[←a];exact g
theorem HQ{h:ad}{pb cb cap:Nat}{i:Int}{ids:List Int}(p:PoolAt h pb cb cap (i::ids)){K:Option Addr×Int→ad→Prop}(d:∀h',Upd (· =cb) h h'→PoolAt h' pb cb cap ids→TokAt h' h.size pb i true→K (some ⟨h.size,0,none⟩,0) h'):HC PG rg [.pointer (some ⟨pb,0,none⟩)] [.c .ptr,.c (.int .i64)] K h:=by
 obtain⟨n,a,s,r,hc⟩:=p;refine⟨fun w f=>.inl ⟨Tryz.call33 _ w,?_⟩⟩
 subst f;rw[List.map_cons]at hc;refine(MH a hc).mono ?_;rintro e w' ⟨rfl,rfl⟩;have c:cb<w.heap.size:=(Array.getElem?_eq_some_iff.1 hc).1;have k1:=Upd.set (M:=(· =cb)) w.heap (.chan cap (ids.map fun i=>Value.int .i64 i).toArray false s (r+1) false) rfl
 have b:=k1.tr (Upd.push (· =cb) _ (.cells #[.pointer (some ⟨pb,0,none⟩),.int .i64 i,.bool true] oU (0,0)))
 refine⟨⟨rfl,rfl,rfl⟩,((some ⟨w.heap.size,0,none⟩,0):Option Addr×Int),rfl,d _ b ⟨n,b.get a n,s,r+1,?_⟩ ?_⟩
 ·show((w.heap.setIfInBounds cb _).push _)[cb]? =_
  rw[jc,mI,if_neg (by omega),cG,if_pos rfl,if_pos c]
 ·show((w.heap.setIfInBounds cb _).push _)[w.heap.size]? =_
  rw[jc,mI,if_pos rfl]
theorem JS{h:ad}{pb cb cap tb:Nat}{id:Int}{ids:List Int}(p:PoolAt h pb cb cap ids)(t:TokAt h tb pb id true)(k:ids.length<cap){K:Int→ad→Prop}(q:∀h',Upd (fun y=>y=cb∨y=tb) h h'→PoolAt h' pb cb cap (ids++ [id])→TokAt h' tb pb id false→K 0 h'):HC PG sM [.pointer (some ⟨pb,0,none⟩),.pointer (some ⟨tb,0,none⟩)] [.c (.int .i64)] K h:=by
 obtain⟨n,d,s,r,hc⟩:=p;have c:pb≠tb:=fun e=>by
  subst e;have:=d.symm.trans t;simp at this
 have b:cb≠tb:=fun e=>by
  subst e;have:=hc.symm.trans t;simp at this
 refine⟨fun w o=>.inl ⟨Tryz.call37 _ w,?_⟩⟩
 subst o;refine(Pd d t hc (by simpa using k) c b).mono ?_;rintro e w' ⟨rfl,m,rfl⟩;have k1:=Upd.hset (M:=(· =tb)) w.heap (a:=⟨tb,2,none⟩) (.bool false) rfl
 have f:=Upd.set (M:=(· =cb)) (hset w.heap ⟨tb,2,none⟩ (.bool false)) (.chan cap ((ids.map fun i=>Value.int .i64 i).toArray.push (.int .i64 id)) false (s+1) r false) rfl
 have u:cb<(hset w.heap ⟨tb,2,none⟩ (.bool false)).size:=aD (k1.get hc fun e=>b e)
 refine⟨⟨rfl,rfl,rfl⟩,(0:Int),rfl,q _ ((k1.mono fun y g=>.inl (.inr g)).trans f fun y g=>.inl (.inl g)) ⟨n,f.get (k1.get d fun e=>c e) (fun e=>n e),s+1,r,?_⟩ (f.get ?_ (fun e=>b e.symm))⟩
 ·show((hset w.heap ⟨tb,2,none⟩ (.bool false)).setIfInBounds cb _)[cb]? =_
  rw[cG,if_pos rfl,if_pos u];simp
 ·have j:w.heap[tb]? =some (.cells #[.pointer (some ⟨pb,0,none⟩),.int .i64 id,.bool true] oU (0,0)):=t
  rw[C3 j,jL j];rfl
end Go.Proofs
namespace Go.Proofs
open Go Go.Lift
end Go.Proofs
namespace Go.Proofs
structure WO{α:Type}(lt:α→α→Bool):Prop where
 irr:∀a,lt a a=false
 asy:∀a b,lt a b=true→lt b a=false
 ntr:∀a b c,lt a b=false→lt b c=false→lt a c=false
section
variable {α:Type} {lt:α→α→Bool}
def Tl(lt:α→α→Bool)(x a:α):Bool:= !lt a x&& !lt x a
def Srt(lt:α→α→Bool)(l:List α):Prop:=l.Pairwise fun a b=>lt b a=false
structure Eqf(lt:α→α→Bool)(l l':List α):Prop where
 len:l'.length=l.length
 flt:∀x,l'.filter (Tl lt x)=l.filter (Tl lt x)
structure St(lt:α→α→Bool)(l l':List α):Prop where
 eqf:Eqf lt l l'
 srt:Srt lt l'
theorem Eqf.rfl(l:List α):Eqf lt l l:=⟨_root_.rfl,fun _=>_root_.rfl⟩
theorem Eqf.tr{a b c:List α}(h:Eqf lt a b)(k:Eqf lt b c):Eqf lt a c:=⟨k.len.trans h.len,fun x=>(k.flt x).trans (h.flt x)⟩
theorem Eqf.app{a b a' c:List α}(h:Eqf lt a a')(k:Eqf lt b c):Eqf lt (a++b) (a'++c):=
 ⟨by rw[ae,ae,h.len,k.len],fun x=>by rw[jY,jY,h.flt,k.flt]⟩
theorem Iy(w:WO lt)(a:α):Tl lt a a=true:=by unfold Tl;rw[w.irr];rfl
theorem Eqf.mem(w:WO lt){l l':List α}(h:Eqf lt l l'){a:α}:a∈l'↔a∈l:=by
 have e:=h.flt a;constructor
 ·intro hm
  have:a∈l'.filter (Tl lt a):=gR.2 ⟨hm,Iy w a⟩;rw[e]at this;exact(gR.1 this).1
 ·intro hm
  have:a∈l.filter (Tl lt a):=gR.2 ⟨hm,Iy w a⟩;rw[←e]at this;exact(gR.1 this).1
theorem Srt.app{a b:List α}(h:Srt lt a)(k:Srt lt b)(c:∀x∈a,∀y∈b,lt y x=false):Srt lt (a++b):=db.2 ⟨h,k,c⟩
theorem Srt.left{a b:List α}(h:Srt lt (a++b)):Srt lt a:=(db.1 h).1
theorem Srt.right{a b:List α}(h:Srt lt (a++b)):Srt lt b:=(db.1 h).2.1
theorem Srt.nil:Srt lt ([]:List α):=fX
theorem Srt.one(a:α):Srt lt [a]:=List.pairwise_singleton ..
end
end Go.Proofs
namespace Go.Proofs
open Go Go.Lift
theorem EM{W:Nat→Prop}{x:Hs}{h:ad}{b:Nat}{l:List Pr}(t:TrieAt W x h 13 b l){K:Option Addr→ad→Prop}(d:∀a,Upd No h a→K (some ⟨b,0,none⟩) a):HC PG kG [LK (0,x.k0,x.k1,x.mask,some ⟨b,0,none⟩,none)] [.c .ptr] K h:=by
 refine y5 (0,x.k0,x.k1,x.mask,some ⟨b,0,none⟩,none) ?_;unfold rE bo sK aJ;refine aO fun c b1 k1=>?_
 refine Join.intro (fun t a=>t=false∧a=c) (fun R e=>⟨_,vc b1 0,aA.2 ⟨_,vc b1 4,e _ _ ⟨rfl,rfl⟩⟩⟩) ?_
 rintro t a ⟨rfl,rfl⟩;exact aj.2 ⟨_,vc b1 4,d a k1⟩
def FH(a:Int)(x:Hs)(l:List Pr)(xs:List UInt8):Prop:=(a=0∧xs=0::eP x 13 l)∨(a=1∧∃ys,KY l ys∧xs=1::ys)
theorem wd{h a:ad}{b:UInt8}(c:a[h.size]? =some (.cells #[.int .u8 (b.toNat:Int)] cp (0,0))):OwnS nq 1 cp (fun y=>h.size≤y) a ⟨some ⟨h.size,0,none⟩,1,1⟩ [b]:=⟨rfl,pF,ao _,.inr ⟨h.size,[],rfl,ao _,c,rfl⟩⟩
theorem MJ{W:Nat→Prop}{x:Hs}{h:ad}{a:Int}{t:Tr}{l:List Pr}(i:TreeIs W h a x t l)(D:cu l)(n:Fit l)(v:l.length≤60000){K:SliceV→ad→Prop}
  (B:∀s' j xs,FH a x l xs→OwnS nq 1 cp (fun y=>h.size≤y) j s' xs→Upd No h j→K s' j):HC PG nJ [LK t] [.c .slice] K h:=by
 refine y4 t ?_;unfold rD bo ag BE sK aJ;refine aO fun p b1 k1=>?_
 have H:=k1.size;have app:∀{b:UInt8} {e f:ad} {s:SliceV} {xs:List UInt8},e[p.size]? =some (.cells #[.int .u8 (b.toNat:Int)] cp (0,0))→Upd No p e→OwnS nq 1 cp (fun y=>e.size≤y) f s xs→Upd No e f→xs.length≤70000000000000→FH a x l (b::xs)→
   ∃xs7,SRow f s.a (s.len*1) xs7∧AppP (some [.int .u8 0]) 1 1 cp (some (aC p)) 1 1 s.len xs7 f (fun C F=>K C F):=fun{b e f s xs} o c A g J hv=>by
  refine⟨_,(A.sl (W:=No) fun _ _ _ h=>h).srow,?_⟩
  have m:=c.tr g;have hz:=aD o;have o1:OwnS nq 1 cp (fun y=>h.size≤y) f ⟨some ⟨p.size,0,none⟩,1,1⟩ [b]:=((wd o).upd g fun _ _ h=>h).more fun y z=>by omega
  refine AppP.own (ys:=xs) o1 A.len rfl (yx _) rfl (by omega) (by simp only[aK];omega) (by have:=m.size;omega) fun s' j w u=>?_
  exact B s' j _ hv w ((k1.tr m).trans u fun y z=>.inr z)
 rcases i with⟨rfl,b,rfl,t⟩|⟨rfl,b,rfl,t⟩
 ·refine⟨_,vc b1 0,aj.2 (aO fun e b2 c=>?_)⟩
  have c1:=c.get0 b1;refine⟨_,vc c1 0,_,vc c1 1,_,vc c1 2,_,vc c1 3,_,vc c1 4,_,vc c1 5,?_⟩;refine EM (TrieAt.upd0 (k1.tr c) t) fun f g=>?_
  refine Qy (TrieAt.upd0 ((k1.tr c).tr g) t) n v fun E G d q=>?_
  have I:=g.size;have k:=mS (x:=x) 13 n;have o:l.length*(20004+9*(13+1))≤60000*(20004+9*(13+1)):=bZ _ v;exact app (b:=0) b2 c (d.more fun y z=>by omega) (g.tr q) (by omega) (.inl ⟨rfl,rfl⟩)
 ·refine⟨_,vc b1 0,aA.2 (aO fun e b2 c=>?_)⟩
  have c1:=c.get0 b1;refine⟨_,vc c1 5,?_⟩;refine HG (t.upd0 (k1.tr c)) D n v fun E G xs hv d q=>?_
  have k:=yv hv n;have o:2*l.length*20010≤2*60000*20010:=bZ _ (by omega);exact app (b:=1) b2 c d q (by omega) (.inr ⟨rfl,xs,hv,rfl⟩)
theorem Oh{a:Int}{x f:Hs}(hx:a=0→x=f){l l':List Pr}{xs d:List UInt8}(hv:FH a x l xs)(b:FH a f l' d)(j:Fit l)(c:Fit l')(k:l.length≤60000)(i:l'.length≤60000)(m:cu l)(g:cu l'):xs=d↔l=l':=by
 rcases hv with⟨rfl,rfl⟩|⟨rfl,ys,hv,rfl⟩<;>rcases b with⟨e,rfl⟩|⟨e,n,b,rfl⟩
 ·rw[hx rfl]
  constructor
  ·intro h
   have h:eP f 13 l++ []=eP f 13 l'++ []:=by rw[(fi.inj h).2]
   exact(Cw 13 j c k i m g h).1
  ·rintro rfl;rfl
 ·cases e
 ·cases e
 ·rw[fi.injEq,←QF hv b j c]
  exact⟨fun h=>h.2,fun h=>⟨rfl,h⟩⟩
theorem TreeIs.plain{W:Nat→Prop}{h:ad}{e:Int}{x:Hs}{t:Tr}{l:List Pr}(i:TreeIs W h e x t l):(∀a,t.2.2.2.2.1=some a→d9 h a)∧(∀a,t.2.2.2.2.2=some a→d9 h a):=by
 rcases i with⟨rfl,b,rfl,t⟩|⟨rfl,b,rfl,t⟩
 ·obtain⟨s,g,_⟩:=t
  obtain⟨d,n,sp,sk,ow,f,_⟩:=g.ex;refine⟨fun a c=>?_,fun a c=>(by cases c)⟩
  cases c;exact⟨_,_,f,show 0<6 by decide⟩
 ·obtain⟨w,F,⟨val,s,ow,ks,f,_⟩,_⟩:=t.ex
  refine⟨fun a c=>(by cases c),fun a c=>?_⟩
  cases c;exact⟨_,_,f,show 0<5 by decide⟩
end Go.Proofs
namespace Go.Proofs
open Go Go.Lift
abbrev T9:List Value:= [.string (⟨#[]⟩:ByteArray),.string (⟨#[]⟩:ByteArray)]
theorem wN{h:ad}{t:TypeId}{p:Pr}{k:ad→Prop}(d:∀h',h'[h.size]? =some (.cells #[.string p.1,.string p.2] t (0,0))→Upd No h h'→k h'):
  At (hnew h [.string (⟨#[]⟩:ByteArray),.string (⟨#[]⟩:ByteArray)] t) fun b=>sS b (some (aC h)) 0 [.string p.1,.string p.2]∧At (gT b (aC h) 0 [.string p.1,.string p.2]) k:=by
 refine aO fun f b1 k1=>?_
 exact dd (c:=T9) (vs:= [.string p.1,.string p.2]) b1 rfl fun e b2 a=>d e b2 (k1.own a (ao _))
theorem yX{t:TypeId}{M:Nat→Prop}{h:ad}{c:SliceV}{out:List Pr}{p:Pr}{K:SliceV→ad→Prop}(f:OwnS fP 2 t M h c out)(hM:∀b,h.size≤b→M b)(j:out.length+1≤1000000000)
  (g:∀s' a,OwnS fP 2 t M a s' (out++ [p])→Upd M h a→K s' a):
  ∃xs,SRow (hnew h [.string p.1,.string p.2] t) (some (aC h)) (1*2) xs∧AppP (some [.string (⟨#[]⟩:ByteArray),.string (⟨#[]⟩:ByteArray)]) 2 32 t c.a c.len c.cap 1 xs (hnew h [.string p.1,.string p.2] t) K:=by
 have k:=Upd.hnew No h [.string p.1,.string p.2] t;have i:OwnS fP 2 t (fun _=>True) (hnew h [.string p.1,.string p.2] t) ⟨some (aC h),1,1⟩ [p]:=⟨rfl,gX,ao _,.inr ⟨h.size,[],rfl,trivial,cW ..,rfl⟩⟩
 refine⟨_,(i.sl (W:=No) fun _ _ _ h=>h).srow,?_⟩
 refine AppP.own (ys:= [p]) (f.upd k fun _ _ h=>h) rfl rfl rfl rfl (by omega) (by simp only[aK];omega) (hM _ (by rw[kA];omega)) fun s' a d e=>?_
 exact g s' a d ((Upd.hnew M h _ _).tr e)
theorem C1{p:Pr}:∀{A B:List Pr},(∀r∈A,kl r.1 p.1)→gY p (A++B)=A++gY p B
 | [],_,_=>rfl
 |r::A,B,h=>by
  rw[cQ,gm,if_pos (h r (az ..)),C1 fun q a=>h q (List.mem_cons_of_mem _ a)];rfl
theorem H9{p q:Pr}:∀{A:List Pr},(∃r∈A,kl p.1 r.1)→gY p (A++ [q])=gY p A++ [q]
 | [],h=>by obtain⟨r,e,_⟩:=h;simp at e
 |r::A,h=>by
  rw[cQ,gm,gm];by_cases b:kl r.1 p.1
  ·rw[if_pos b,if_pos b,H9]
   ·rfl
   ·obtain⟨f,a,d⟩:=h
    rcases List.mem_cons.1 a with rfl|a
    ·exact absurd (jh b d) (cJ _)
    ·exact⟨f,a,d⟩
  ·rw[if_neg b,if_neg b]
   by_cases c:r.1=p.1
   ·rw[if_pos c,if_pos c];rfl
   ·rw[if_neg c,if_neg c];rfl
theorem H7{p:Pr}:∀{l:List Pr},(∀q∈l,kl p.1 q.1)→gY p l=p::l
 | [],_=>rfl
 |q::l,h=>by
  have a:=h q (az ..);rw[gm,if_neg fun b=>cJ _ (jh a b),if_neg fun e=>by rw[e]at a;exact cJ _ a]
theorem Fg{p:Pr}:∀{l:List Pr},cu l→gY p (l.filter fun q=>decide (q.1≠p.1))=gY p l
 | [],_=>rfl
 |r::l,a=>by
  have a:=List.pairwise_cons.1 a;have keep:∀{l:List Pr},(∀q∈l,kl p.1 q.1)→(l.filter fun q=>decide (q.1≠p.1))=l:=fun{l} h=>List.filter_eq_self.2 fun q b=>decide_eq_true fun e=>by have:=h q b;rw[e]at this;exact cJ _ this
  rw[List.filter_cons,gm];by_cases e:r.1=p.1
  ·have d:∀q∈l,kl p.1 q.1:=fun q b=>by rw[←e];exact a.1 q b
   rw[if_neg (by simp[e]),if_neg (by rw[e];exact cJ _),if_pos e,keep d,H7 d]
  ·rw[if_pos (by simpa using e),gm]
   by_cases c:kl r.1 p.1
   ·rw[if_pos c,if_pos c,Fg a.2]
   ·rw[if_neg c,if_neg c,if_neg e,if_neg e]
    have f:=u0 c e;rw[keep fun q b=>jh f (a.1 q b)]
theorem xf{i n:Nat}(h:i<n)(a:n≤9223372036854775807):IntKind.wrap .i64 ((i:Int)+1)=((i+1:Nat):Int):=by rw[Go.IntWalk.i64_in _ (by omega)];omega
theorem Ff(p:Pr):∀{l:List Pr},(gY p l).length≤l.length+1
 | []=>ao _
 |q::l=>by
  rw[gm];split
  ·have:=Ff p (l:=l);simp only[List.length_cons];omega
  ·split<;>simp
theorem TL{k:Int}(a:0≤k)(b:k≤255):IntKind.wrap .i64 (ju k 2)=0∨IntKind.wrap .i64 (ju k 2)=1:=by
 have:ju k 2=k%2:=Int.tmod_eq_emod_of_nonneg a;rw[this,oq (by omega)];omega
end Go.Proofs
namespace Go.Proofs
open Go Go.Lift
end Go.Proofs
namespace Go.Proofs
open Go Go.Lift
section
variable {α:Type} {f:α→List Value} {sz:Nat} {t:TypeId} {M:Nat→Prop} {h:ad} {s:SliceV} {P Q:List α} {x:α}
end
end Go.Proofs
namespace Go.Proofs
open Go Go.Lift
variable {z0:Hs}
end Go.Proofs
namespace Go.Proofs
open Go Go.Lift
end Go.Proofs
namespace Go.Proofs
open Go Go.Lift
end Go.Proofs
namespace Go.Proofs
open Go Go.Lift
theorem JZ{h:ad}{t:TypeId}{p:Pr}{k:ad→Prop}(b:∀h',h'[h.size]? =some (.cells #[.string p.1,.string p.2] t (0,0))→Upd No h h'→k h'):
 At (hnew h [.string (⟨#[]⟩:ByteArray),.string (⟨#[]⟩:ByteArray)] t) (fun a=>sS a (some (aC h)) 0 [.string p.1,.string p.2]∧At (gT a (aC h) 0 [.string p.1,.string p.2]) k):=wN (p:=p) b
end Go.Proofs
namespace Go.Proofs
open Go Go.Lift
end Go.Proofs
namespace Go.Proofs
open Go Go.Lift
end Go.Proofs
namespace Go.Proofs
open Go Go.Lift
end Go.Proofs
