/- A part of the proof that the named laws of this program answer true, whatever the input. -/
import Derived.Test.YtajpljopgikpgaaGreatDoorPart5
import Derived.Test.YtajpljopgikpgaaGreatDoorPart2
import Derived.Test.YtajpljopgikpgaaGreatDoorPart4
import Derived.Test.YtajpljopgikpgaaGreatDoorPart0
open Array renaming getElem?_push→ld,size_setIfInBounds→oX,getElem?_setIfInBounds→cZ
open Int renaming tmod→bE
open List renaming any_eq_true→cL,mem_singleton→au,any_cons→rQ,range→dh,length_append→ad,filter_append→iE,mem_filter→eP,append_nil→bB,nil_append→dE,mem_cons_self→aC,pairwise_append→cE,append_assoc→az,pairwise_cons→bA,mem_cons→aB,mem_append→bM,length_singleton→aF,cons→fH,cons_append→dB
open List.Pairwise renaming nil→fc
open Nat renaming zero_add→aU,lt_of_lt_of_le→bG,le_trans→bv,le_refl→ao,zero_le→bj,mul_le_mul_right→cD
namespace Go.Proofs
open Go.Lift
theorem By.updS{h b:af}{w o:Option Addr}{S:Nat→Prop}(t:By h w o)(k:Upd S h b)(d:∀a,w=some a→¬S a.block):By b w o:=t.upd k fun _ e c=>absurd c (d _ e)
set_option maxHeartbeats 2000000 in
theorem X4{W:Nat→Prop}{x:Hs}{w o:Option Addr}:∀(m:Nat),m≤13→∀{b:Nat} {l:List Pr} {S:Nat→Prop} (p:Pr) {h:af},TrieO o W x h m b l S→By h w o→(∀y,W y→y<h.size)→(∀y,S y→W y)→(∀a,o=some a→W a.block)→(∀a,w=some a→¬S a.block)→cA l→l.length≤1000000→∀{K:(Option Addr)×Bool×Bool→af→Prop},
  (∀A b' ch S',Upd S h A→TrieO o (fun y=>W y∨S' y) x A m b' (iV p l) S'→(∀y,S' y→(S y∨h.size≤y)∧y<A.size)→(ch=false→b'=b∧Upd No h A)→ch= !decide (p∈l)→K (some ⟨b',0,none⟩, !cI l p.1,ch) A)→
  HC PG jN [US x w p.1,.pointer (some ⟨b,0,none⟩),.agg #[.string p.1,.string p.2],.int .i64 ((13-m:Nat):Int)] [.c .ptr,.c .bool,.c .bool] K h:=by
 intro m;induction m with
 |zero=>
  intro _ b l S p h t by_ hW D M hwS hr hn K hk;have N:∀y,S y→y<h.size:=fun y g=>hW y (D y g)
  refine wX (x.k0,x.k1,x.mask,w,p.1,nr x p.1) (some ⟨b,0,none⟩) p ((13-0:Nat):Int) ?_;unfold rq aq aD nv aQ oZ Ao tc lf jQ Bc LX m0 GL;refine aN fun h1 b1 k1=>aN fun j b2 k2=>?_
  have H:∀{A:af},Upd No j A→∀i,aR A (adr ⟨h.size,0,none⟩ i)=(#[.int .u64 x.k0,.int .u64 x.k1,.int .u64 x.mask,.pointer w,.string p.1,.int .u64 (nr x p.1)]:Array Value)[i]?:=fun k i=>by
   rw[cd,bI (k.get0 (k2.get0 b1)),aU]
  have J:∀{A:af},Upd No j A→∀i,aR A (adr ⟨h1.size,0,none⟩ i)=(#[.string p.1,.string p.2]:Array Value)[i]?:=fun k i=>by rw[cd,bI (k.get0 b2),aU]
  have r:=Upd.refl No j;have u:=k1.tr k2;have z02:=u.size;have bk:BuckO o W j b l S:=BuckO.upd0 t u;have by2:=by_.upd0 u;have bkr:=bk.read by2;obtain⟨sp,sk,ow,hb,_⟩:=bkr.ex;refine g7 (d:=0) (n:=0) hb (aA.2 ⟨_,J r 0,YY bkr hr (by omega) p.1 fun h3 v X hv=>?_⟩)
  refine Join.intro (fun t' A=>t'=decide (p∈l)∧Upd No j A) (fun R hR=>?_) ?_
  ·cases C:cI l p.1 with
   |false=>
    refine aj.2 (hR _ _ ⟨?_,X⟩);refine(decide_eq_false fun hm=>?_).symm
    have:cI l p.1=true:=cL.2 ⟨p,hm,decide_eq_true rfl⟩;rw[C]at this;cases this
   |true=>
    have hv:=hv C;refine aA.2 ⟨_,J X 1,hR _ _ ⟨?_,X⟩⟩;rw[jq,decide_eq_decide];constructor
    ·intro e
     have e:v=p.2:=e;rw[e]at hv;exact hv
    ·intro hm
     exact Hf hr hv (show(p.1,p.2)∈l from hm)
  ·rintro t' h4 ⟨rfl,F⟩
   have z4:=F.size;by_cases hm:p∈l
   ·rw[decide_eq_true hm]
    refine aA.2 ?_;have C:cI l p.1=true:=cL.2 ⟨p,hm,decide_eq_true rfl⟩;have:=hk h4 b false S (u.tr F).wide (by rw[Gt hr hm];exact(BuckO.upd0 t (u.tr F)).imp (fun n=>⟨n.1.less fun y g=>.inl (g.elim id (D y)),n.2⟩) id) (fun y g=>⟨.inl g,by have:=N y g;omega⟩) (fun _=>⟨rfl,u.tr F⟩) (by rw[decide_eq_true hm];rfl)
    rw[C]at this;exact this
   ·rw[decide_eq_false hm]
    refine aj.2 ⟨w,H F 3,_,J F 0,_,J F 1,?_⟩;refine H9 (bk.upd0 F) (by2.upd0 F) M (fun y g=>by have:=N y g;omega) hr (by omega) p fun h5 b5 sp5 sk5 on5 hu5=>?_
    have z5:=hu5.size;have hS0:o=none→∀y,¬S y:=fun e y g=>by
     rcases t with⟨_,h⟩|⟨h,_⟩
     ·exact h y g
     ·rw[e]at h;cases h
    refine hk h5 b5 true _ ((u.tr F).wide.tr hu5) (Aj (W:=fun y=>W y∨(o.isSome=true∧(S y∨h4.size≤y)∧y<h5.size)) on5 fun e=>⟨hS0 e,fun y g=>g.elim (fun h=>by have:=hW y h;omega) fun h=>by rw[e]at h;cases h.1⟩) (fun y g=>⟨g.2.1.imp id fun h=>by omega,g.2.2⟩) (fun h=>by cases h) (by rw[decide_eq_false hm];rfl)
 |succ m ih=>
  intro hm b l S p h t by_ hW D M hwS hr hn K hk;have gW:∀{A},Upd No h A→∀y,W y→y<A.size:=fun k y g=>bG (hW y g) k.size
  have N:∀y,S y→y<h.size:=fun y g=>hW y (D y g)
  have hl:13-(m+1)<13:=by omega
  have hlev:13-(m+1)=12-m:=by omega
  refine wX (x.k0,x.k1,x.mask,w,p.1,nr x p.1) (some ⟨b,0,none⟩) p ((13-(m+1):Nat):Int) ?_;unfold rq aq aD nv aQ oZ Ao tc lf jQ Bc LX m0 GL;refine aN fun h1 b1 k1=>aN fun j b2 k2=>?_
  have H:∀{A:af},Upd No j A→∀i,aR A (adr ⟨h.size,0,none⟩ i)=(#[.int .u64 x.k0,.int .u64 x.k1,.int .u64 x.mask,.pointer w,.string p.1,.int .u64 (nr x p.1)]:Array Value)[i]?:=fun k i=>by
   rw[cd,bI (k.get0 (k2.get0 b1)),aU]
  have J:∀{A:af},Upd No j A→∀i,aR A (adr ⟨h1.size,0,none⟩ i)=(#[.string p.1,.string p.2]:Array Value)[i]?:=fun k i=>by rw[cd,bI (k.get0 b2),aU]
  have r:=Upd.refl No j;have u:=k1.tr k2;have by2:=by_.upd0 u;have z02:=u.size;have hno:o=none→∀y,¬S y:=fun e=>by subst e;exact t.off.2
  obtain⟨s,S0,T,nd0,h0,I,hd,hs⟩:=(TrieO.upd0 u t).view;have tt:∀{A:af},Upd No j A→TrieO o (fun y=>W y∨S y) x A (m+1) b l S:=fun k=>(TrieO.upd0 (u.tr k) t).less fun y g=>.inl (g.elim id (D y))
  have ndr:=nd0.read by2;obtain⟨d0,n0,sp0,sk0,ow0,hb0,_⟩:=ndr.ex;refine g7 hb0 (aj.2 ⟨_,H r 5,Ud hl ?_⟩);rw[hlev];have hi:=zq x (12-m) p.1;have hsi:=hs _ hi;have hrp:=qV (x:=x) (lev:=12-m) (c:=ck x (12-m) p.1) hr;have hnp:(part x (12-m) (ck x (12-m) p.1) l).length≤1000000:=bv kz hn;have Z:p∈part x (12-m) (ck x (12-m) p.1) l↔p∈l:=by rw[mh];exact⟨fun h=>h.1,fun h=>⟨h,rfl⟩⟩
  have htp:=GQ (x:=x) (lev:=12-m) (l:=l) (k:=p.1);have turn:∀{hz A:af} {b' d n:Nat} {sp sk:SliceV} {s':Slots} {T':Nat→Prop},Upd (T (ck x (12-m) p.1)) j hz→OwnN (fun y=>S0 y∨hz.size≤y) A b' d n sp sk s' o→Upd S0 hz A→(∀c,c≠ck x (12-m) p.1→s'.p c=s.p c∧s'.k c=s.k c)→
    SlotO o (fun y=>W y∨T' y) x hz m s' (ck x (12-m) p.1) (iV p (part x (12-m) (ck x (12-m) p.1) l)) T'→(∀y,T' y→(T (ck x (12-m) p.1) y∨j.size≤y)∧y<hz.size)→p∉l→
    K (some ⟨b',0,none⟩, !cI l p.1,true) A:=fun{hz A b' d n sp sk s' T'} ku on ku2 hp hslot V P=>by
   have zz:=ku.size;have zz':=ku2.size;have b2S:∀y,S y→y<j.size:=fun y g=>by have:=N y g;omega
   have p1:part x (12-m) (ck x (12-m) p.1) (iV p l)=iV p (part x (12-m) (ck x (12-m) p.1) l):=by rw[Hl hr,if_pos rfl]
   have hT0:∀y,T' y→¬S0 y∧∀c,c≠ck x (12-m) p.1→¬T c y:=fun y g=>by
    rcases(V y g).1 with h|h
    ·exact⟨(I _ y h).2,fun c hc C=>hc (hd _ _ y C h)⟩
    ·exact⟨fun hs=>by have:=b2S y (h0 y hs);omega,fun c _ C=>by have:=b2S y (I c y C).1;omega⟩
   refine hk A b' true _ ((u.wide.tr (ku.mono fun y g=>.inl (I _ y g).1)).tr (ku2.mono fun y g=>.inl (h0 y g))) (Bf (W:=W) (W1:=fun y=>W y∨T' y) (T:=T) (T':=T') (c0:=ck x (12-m) p.1) (s:=s) (hz:=hz) on ku2 (fun c hc hcc=>?_) hp ?_ (fun y g=>.inl g) (fun y g=>.inl (D y (h0 y g))) (fun c y g=>.inl (D y (I c y g).1)) (fun y g=>.inr g) (fun c y g=>⟨by have:=b2S y (I c y g).1;omega,(I c y g).2⟩) (fun y g=>⟨(V y g).2,hT0 y g⟩) hd fun e=>⟨fun y g=>hno e y (h0 y g),fun y g=>g.elim (fun h=>by have:=hW y h;omega) fun h=>(V y h).2⟩) (fun y g=>?_) (fun h=>by cases h) (by rw[decide_eq_false P];rfl)
   ·rw[Hl hr,if_neg fun e=>hcc e.symm]
    refine((hs c hc).less (W':=fun y=>W y∨T' y) fun y g=>g.elim .inl fun h=>(V y h).1.imp (fun h=>D y (I _ y h).1) id).upd ku (fun y g=>b2S y (I c y g).1) fun y g=>.inl ⟨.inl (D y (I _ y g).1),fun h=>hcc (hd _ _ y h g)⟩
   ·rw[p1];exact hslot
   ·have:=QS (S:=S) (z0:=h.size) h0 (fun c y g=>⟨(I c y g).1,by have:=b2S y (I c y g).1;omega⟩) (fun y g=>⟨(V y g).1.imp (fun h=>(I _ y h).1) fun h=>by omega,by have:=(V y g).2;omega⟩) (by omega) g
    exact this
  generalize hc:ck x (12-m) p.1=c at hi hsi hrp hnp Z htp turn;generalize hlp:part x (12-m) c l=lc at hsi hrp hnp Z htp turn;refine CI ndr hi fun h3 X=>?_
  refine aN fun h4 b4 k4=>?_
  have b4':h4[h3.size]? =some (.cells #[.string Ln.1,.string Ln.2] ay (0,0)):=b4;refine Fb (p:=Ek (s.p c)) b4' fun h5 b5 hu5=>?_
  have f:Upd No j h5:=(X.tr k4).trans hu5 fun y g=>.inr (by have g:y=h3.size:=g;have:=X.size;omega)
  have w5:∀{A:af},Upd No h5 A→∀i,aR A (adr ⟨h3.size,0,none⟩ i)=(#[.string (Ek (s.p c)).1,.string (Ek (s.p c)).2]:Array Value)[i]?:=fun k i=>by rw[cd,bI (k.get0 b5),aU]
  have r5:=Upd.refl No h5;have z5:=f.size;have Q:=by2.upd0 f;have nd5:=nd0.upd0 f;have h0b:∀y,S0 y→y<h5.size:=fun y g=>by have:=N y (h0 y g);omega
  cases hsp:s.p c with
  |some y=>
   rw[hsp]at w5;obtain⟨L,hk0,hTn⟩:lc= [y]∧s.k c=none∧∀y,¬T c y:=by
    rcases hsi with⟨_,j,_⟩|⟨q,h1,j,h3,h4⟩|⟨_,j,_⟩
    ·rw[hsp]at j;cases j
    ·rw[hsp]at j;cases j;exact⟨h1,h3,h4⟩
    ·rw[hsp]at j;cases j
   refine aA.2 ⟨y.1,w5 r5 0,y.2,w5 r5 1,p.1,J f 0,p.2,J f 1,?_⟩;rw[jq,jq];have hyl:y∈l:=(mh.1 (show y∈part x (12-m) c l by rw[hlp,L];exact au.2 rfl)).1
   by_cases Y:y.1=p.1
   ·have C:cI l p.1=true:=cL.2 ⟨y,hyl,decide_eq_true Y⟩
    by_cases e2:y.2=p.2
    ·rw[decide_eq_true Y,decide_eq_true e2]
     have hyp:y=p:=Prod.ext Y e2;have G:p∈l:=hyp▸hyl;refine aA.2 ?_;rw[C]at hk;exact hk h5 b false S (u.tr f).wide (by rw[Gt hr G];exact tt f) (fun y g=>⟨.inl g,by have:=N y g;omega⟩) (fun _=>⟨rfl,u.tr f⟩) (by rw[decide_eq_true G];rfl)
    ·rw[decide_eq_true Y,decide_eq_false e2]
     refine aj.2 ⟨y.1,w5 r5 0,p.1,J f 0,?_⟩;rw[jq,decide_eq_true Y];refine aA.2 ⟨w,H f 3,p.1,J f 0,p.2,J f 1,?_⟩;refine rS nd5 Q M h0b hi (fun _ _=>hk0) p fun h6 b6 d6 n6 sp6 sk6 on6 B=>?_
     have P:p∉l:=fun hm=>by
      have:=Z.2 hm;rw[L]at this;exact e2 (by rw[au.1 this])
     have:=turn (T':=No) f.wide on6 B (fun c' E=>⟨gY E,gY E⟩) (.inr (.inl ⟨p,by rw[L,iv,if_neg (by rw[Y];exact cM _),if_pos Y],ik,ik,fun _ h=>h⟩)) (fun _ h=>h.elim) P
     rw[C]at this;exact this
   ·rw[decide_eq_false Y]
    refine aj.2 ⟨y.1,w5 r5 0,p.1,J f 0,?_⟩;rw[jq,decide_eq_false Y];refine aj.2 ⟨w,H f 3,_,H f 0,_,H f 1,_,H f 2,_,H f 3,_,H f 4,_,H f 5,y.1,w5 r5 0,y.2,w5 r5 1,p.1,J f 0,p.2,J f 1,?_⟩;have ew:IntKind.wrap .i64 (((12-m:Nat):Int)+1)=((13-m:Nat):Int):=by rw[jj (by omega)];omega
    rw[ew];refine WT m y p (by omega) Y (gW (u.tr f)) Q M fun h6 b6 Sk t6 hSk B=>⟨H (f.tr B) 3,?_⟩
    have z6:=B.size;refine xu (nd5.upd0 B) (Q.upd0 B) M hi (fun z hz=>by rw[hk0]at hz;cases hz) ⟨b6,0,none⟩ fun h7 b7 d7 n7 sp7 sk7 on7 hu7=>?_
    have C:cI l p.1=false:=by
     rw[←htp,L];unfold cI;rw[rQ,decide_eq_false Y];rfl
    have P:p∉l:=fun hm=>by
     have:cI l p.1=true:=cL.2 ⟨p,hm,decide_eq_true rfl⟩;rw[C]at this;cases this
    have:=turn (T':=Sk) (f.tr B).wide on7 hu7 (fun c' E=>⟨gY E,gY E⟩) (.inr (.inr (by rw[L];exact⟨by rw[RH Y];omega,ik,b6,ik,t6⟩))) (fun y g=>⟨.inr (by have:=(hSk y g).1;omega),(hSk y g).2⟩) P
    rw[C]at this;exact this
  |none=>
   refine aj.2 (CJ (nd5.read Q) hi ?_);cases hsk:s.k c with
   |none=>
    have hlc:lc= []:=by
     rcases hsi with⟨h1,_⟩|⟨q,_,j,_⟩|⟨_,_,kb,j,_⟩
     ·exact h1
     ·rw[hsp]at j;cases j
     ·rw[hsk]at j;cases j
    refine aA.2 ⟨w,H f 3,p.1,J f 0,p.2,J f 1,?_⟩;refine rS nd5 Q M h0b hi (fun _ _=>hsk) p fun h6 b6 d6 n6 sp6 sk6 on6 B=>?_
    have C:cI l p.1=false:=by rw[←htp,hlc];rfl
    have P:p∉l:=fun hm=>by
     have:cI l p.1=true:=cL.2 ⟨p,hm,decide_eq_true rfl⟩;rw[C]at this;cases this
    have:=turn (T':=No) f.wide on6 B (fun c' E=>⟨gY E,gY E⟩) (.inr (.inl ⟨p,by rw[hlc];rfl,ik,ik,fun _ h=>h⟩)) (fun _ h=>h.elim) P
    rw[C]at this;exact this
   |some kp=>
    obtain⟨h2l,kb,rfl,tk⟩:2≤lc.length∧∃kb,kp=some ⟨kb,0,none⟩∧TrieO o W x j m kb lc (T c):=by
     rcases hsi with⟨_,_,j,_⟩|⟨q,_,j,_⟩|⟨h1,_,kb,j,h3⟩
     ·rw[hsk]at j;cases j
     ·rw[hsp]at j;cases j
     ·rw[hsk]at j;cases j;exact⟨h1,kb,rfl,h3⟩
    refine aj.2 ⟨_,H f 0,_,H f 1,_,H f 2,_,H f 3,_,H f 4,_,H f 5,p.1,J f 0,p.2,J f 1,?_⟩;have ew:IntKind.wrap .i64 (((12-m:Nat):Int)+1)=((13-m:Nat):Int):=by rw[jj (by omega)];omega
    rw[ew];refine ih (by omega) p (TrieO.upd0 f tk) Q (gW (u.tr f)) (fun y g=>D y (I c y g).1) M (fun a e C=>hwS a e (I c _ C).1) hrp hnp fun h6 b6 ch Sk B t6 hSk hsame O=>?_
    have z6:=B.size;have w16:∀i,aR h6 (adr ⟨h.size,0,none⟩ i)=(#[.int .u64 x.k0,.int .u64 x.k1,.int .u64 x.mask,.pointer w,.string p.1,.int .u64 (nr x p.1)]:Array Value)[i]?:=fun i=>by
     rw[cd,bI (B.get (f.get0 (k2.get0 b1)) fun g=>by have:=N _ (I c _ g).1;omega),aU]
    have k26:Upd (T c) j h6:=f.wide.tr B;by_cases G:p∈l
    ·have O:ch=false:=by rw[O,decide_eq_true (Z.2 G)];rfl
     have C:cI l p.1=true:=cL.2 ⟨p,G,decide_eq_true rfl⟩;rw[C]at hk;rw[O];refine aA.2 ?_;obtain⟨_,k56⟩:=hsame O;have k26:=f.tr k56;exact hk h6 b false S (u.tr k26).wide (by rw[Gt hr G];exact tt k26) (fun y g=>⟨.inl g,by have:=N y g;omega⟩) (fun _=>⟨rfl,u.tr k26⟩) (by rw[decide_eq_true G];rfl)
    ·have O:ch=true:=by rw[O,decide_eq_false fun h=>G (Z.1 h)];rfl
     rw[O];refine aj.2 ⟨w,w16 3,?_⟩;have by6:=Q.updS B fun a e C=>hwS a e (I c _ C).1
     have nd6:NodeO o W h6 b s S0:=nd5.imp (fun n=>⟨n.1.upd B fun y g=>.inl (D y (I c y g).1),n.2⟩) fun⟨e,d,n,sp,sk,on⟩=>⟨e,d,n,sp,sk,on.upd B fun y g=>(I c y g).2⟩
     refine xu nd6 by6 M hi (fun _ _=>hsp) ⟨b6,0,none⟩ fun h7 b7 d7 n7 sp7 sk7 on7 hu7=>?_
     have:=turn (T':=Sk) k26 on7 hu7 (fun c' E=>⟨gY E,gY E⟩) (.inr (.inr ⟨bv h2l (N8 p),ik,b6,ik,t6⟩)) (fun y g=>⟨(hSk y g).1.imp id fun h=>by omega,(hSk y g).2⟩) G
     rw[htp];exact this
end Go.Proofs
namespace Go.Proofs
open Go Go.Lift
theorem Ul{W S:Nat→Prop}{h:af}{w o:Option Addr}{b:Nat}{l:List Pr}(v:BuckO o W h b l S)(t:By h w o)(L:∀a,o=some a→W a.block)(M:cA l)(u:l.length≤1000000000)(k:ByteArray){K:Option Addr→af→Prop}
  (P:∀h' b' sp sk,OwnB (fun y=>S y∨h.size≤y) h' b' sp sk (qM k l) o→Upd S h h'→K (some ⟨b',0,none⟩) h'):
  HC PG rg [.pointer (some ⟨b,0,none⟩),.pointer w,.string k] [.c .ptr] K h:=by
 refine EM _ w k ?_;unfold xg cz Cl uP aK;obtain⟨sp,sk,ow,N,F,J,I,H⟩:=(v.read t).ex;refine g7 (d:=0) (n:=0) N (aj.2 ?_);refine NU v t L u fun C p s2 s E j=>?_
 obtain⟨b2,hM,A,B,q,O,V,g⟩:=E;refine⟨_,rfl,s2,fh (i:=2) b2,?_⟩;refine NS (q.sl (W:=No) fun _ _ _ h=>h) q.cap M u k fun s3 G m f=>?_
 have b3:=f.get0 b2;refine⟨_,rfl,Xs (i:=2) b3 (show 2<6 by decide),Jl (i:=2) (c':=gj 0 0 s3 s true o) b3 rfl fun Q z c=>?_⟩
 have X:=aL b2;have D:=j.size;have R:=f.size;have T:=c.size;refine P Q p s3 s ⟨z,hM,fun x=>C.size≤x∧x<G.size,B,m.within.upd c fun x hx e=>?_,(O.upd f fun _ _ h=>h).upd c fun x hx e=>(g x hx).2.1 e,fun x hx=>⟨.inr (by omega),by omega,by omega⟩,fun x hx=>⟨(g x hx).1,(g x hx).2.1,by have:=(g x hx).2.2;omega⟩⟩ (((j.tr f).wide).trans c fun x hx=>?_)
 ·have e:x=p:=e
  have:=hx.1;omega
 ·have hx:x=p:=hx
  rw[hx];exact hM
set_option maxHeartbeats 2000000 in
theorem Ms{W:Nat→Prop}{x:Hs}{w o:Option Addr}:∀(m:Nat),m≤13→∀{b:Nat} {l:List Pr} {S:Nat→Prop} (k:ByteArray) {h:af},TrieO o W x h m b l S→By h w o→(∀y,W y→y<h.size)→(∀y,S y→W y)→(∀a,o=some a→W a.block)→(∀a,w=some a→¬S a.block)→cA l→l.length≤1000000→∀{K:(Option Addr)×Bool→af→Prop},
  (∀C b' S',Upd S h C→TrieO o (fun y=>W y∨S' y) x C m b' (qM k l) S'→(∀y,S' y→(S y∨h.size≤y)∧y<C.size)→(cI l k=false→b'=b∧Upd No h C)→K (some ⟨b',0,none⟩,cI l k) C)→
  HC PG mQ [US x w k,.pointer (some ⟨b,0,none⟩),.int .i64 ((13-m:Nat):Int)] [.c .ptr,.c .bool] K h:=by
 intro m;induction m with
 |zero=>
  intro _ b l S k h t by_ hW u J hwS hr hn K Z;have V:∀y,S y→y<h.size:=fun y f=>hW y (u y f)
  refine vr (x.k0,x.k1,x.mask,w,k,nr x k) (some ⟨b,0,none⟩) ((13-0:Nat):Int) ?_;unfold qy aq aD nv aQ oZ Ao tc FT lf jQ Bc LX m0 Lv GL;refine aN fun F b1 k1=>?_
  have bk:BuckO o W F b l S:=BuckO.upd0 t k1;have L:=by_.upd0 k1;have bkr:=bk.read L;obtain⟨sp,sk,ow,hb,_⟩:=bkr.ex;refine g7 (d:=0) (n:=0) hb (aA.2 ⟨_,vc b1 4,YY bkr hr (by omega) k fun Y v G hv=>?_⟩)
  have b3:=G.get0 b1;have P:=k1.tr G;have z03:=P.size;cases i:cI l k with
  |false=>
   rw[i]at Z;refine aA.2 (Z Y b S P.wide (by rw[zo (Cq i)];exact(BuckO.upd0 t P).imp (fun n=>⟨n.1.less fun y f=>.inl (f.elim id (u y)),n.2⟩) id) (fun y f=>⟨.inl f,by have:=V y f;omega⟩) fun _=>⟨rfl,P⟩)
  |true=>
   rw[i]at Z;refine aj.2 ⟨w,vc b3 3,_,vc b3 4,?_⟩;refine Ul (bk.upd0 G) (L.upd0 G) J hr (by omega) k fun h5 b5 sp5 sk5 on5 R=>?_
   have z5:=R.size;have hS0:o=none→∀y,¬S y:=fun e y f=>by
    rcases t with⟨_,h⟩|⟨h,_⟩
    ·exact h y f
    ·rw[e]at h;cases h
   exact Z h5 b5 _ (P.wide.tr R) (Aj (W:=fun y=>W y∨(o.isSome=true∧(S y∨Y.size≤y)∧y<h5.size)) on5 fun e=>⟨hS0 e,fun y f=>f.elim (fun h=>by have:=hW y h;omega) fun h=>by rw[e]at h;cases h.1⟩) (fun y f=>⟨f.2.1.imp id fun h=>by omega,f.2.2⟩) (fun h=>by cases h)
 |succ m ih=>
  intro hm b l S k h t by_ hW u J hwS hr hn K Z;have gW:∀{C},Upd No h C→∀y,W y→y<C.size:=fun k y f=>bG (hW y f) k.size
  have V:∀y,S y→y<h.size:=fun y f=>hW y (u y f)
  have hl:13-(m+1)<13:=by omega
  have hlev:13-(m+1)=12-m:=by omega
  refine vr (x.k0,x.k1,x.mask,w,k,nr x k) (some ⟨b,0,none⟩) ((13-(m+1):Nat):Int) ?_;unfold qy aq aD nv aQ oZ Ao tc FT lf jQ Bc LX m0 Lv GL;refine aN fun F b1 k1=>?_
  have z1:=aL b1;have L:=by_.upd0 k1;have hno:o=none→∀y,¬S y:=fun e=>by subst e;exact t.off.2
  obtain⟨s,S0,T,nd0,h0,B,hd,hs⟩:=(TrieO.upd0 k1 t).view;have ndr:=nd0.read L;obtain⟨d,n,sp,sk,ow,hb,_⟩:=ndr.ex;refine g7 hb (aj.2 ⟨_,vc b1 5,Ud hl ?_⟩);rw[hlev];have hi:=zq x (12-m) k;have hsi:=hs _ hi;have O:cI (part x (12-m) (ck x (12-m) k) l) k=cI l k:=GQ;have hrp:cA (part x (12-m) (ck x (12-m) k) l):=qV hr;have hnp:(part x (12-m) (ck x (12-m) k) l).length≤1000000:=bv kz hn
  have H:∀y,S y→y<F.size:=fun y f=>by have:=V y f;omega
  have turn:∀{hz C:af} {b' d n:Nat} {sp sk:SliceV} {s':Slots} {T':Nat→Prop},Upd (T (ck x (12-m) k)) F hz→OwnN (fun y=>S0 y∨hz.size≤y) C b' d n sp sk s' o→Upd S0 hz C→(∀c,c≠ck x (12-m) k→s'.p c=s.p c∧s'.k c=s.k c)→
    SlotO o (fun y=>W y∨T' y) x hz m s' (ck x (12-m) k) (qM k (part x (12-m) (ck x (12-m) k) l)) T'→(∀y,T' y→(T (ck x (12-m) k) y∨F.size≤y)∧y<hz.size)→cI l k=true→
    K (some ⟨b',0,none⟩,cI l k) C:=fun{hz C b' d n sp sk s' T'} ku on ku2 hp hslot I hth=>by
   have zz:=ku.size;have zz':=ku2.size;have hT0:∀y,T' y→¬S0 y∧∀c,c≠ck x (12-m) k→¬T c y:=fun y f=>by
    rcases(I y f).1 with h|h
    ·exact⟨(B _ y h).2,fun c hc i=>hc (hd _ _ y i h)⟩
    ·exact⟨fun hs=>by have:=H y (h0 y hs);omega,fun c _ i=>by have:=H y (B c y i).1;omega⟩
   refine Z C b' _ ((k1.wide.tr (ku.mono fun y f=>.inl (B _ y f).1)).tr (ku2.mono fun y f=>.inl (h0 y f))) (Bf (W:=W) (W1:=fun y=>W y∨T' y) (T:=T) (T':=T') (c0:=ck x (12-m) k) (s:=s) (hz:=hz) on ku2 (fun c hc hcc=>?_) hp ?_ (fun y f=>.inl f) (fun y f=>.inl (u y (h0 y f))) (fun c y f=>.inl (u y (B c y f).1)) (fun y f=>.inr f) (fun c y f=>⟨by have:=H y (B c y f).1;omega,(B c y f).2⟩) (fun y f=>⟨(I y f).2,hT0 y f⟩) hd fun e=>⟨fun y f=>hno e y (h0 y f),fun y f=>f.elim (fun h=>by have:=hW y h;omega) fun h=>(I y h).2⟩) (fun y f=>?_) (fun h=>by rw[hth]at h;cases h)
   ·rw[TG hcc]
    refine((hs c hc).less (W':=fun y=>W y∨T' y) fun y f=>f.elim .inl fun h=>(I y h).1.imp (fun h=>u y (B _ y h).1) id).upd ku (fun y f=>H y (B c y f).1) fun y f=>.inl ⟨.inl (u y (B _ y f).1),fun h=>hcc (hd _ _ y h f)⟩
   ·rw[NP];exact hslot
   ·have:=QS (S:=S) (z0:=h.size) h0 (fun c y f=>⟨(B c y f).1,by have:=H y (B c y f).1;omega⟩) (fun y f=>⟨(I y f).1.imp (fun h=>(B _ y h).1) fun h=>by omega,by have:=(I y f).2;omega⟩) (by omega) f
    exact this
  have same:∀{C:af},Upd No F C→cI l k=false→K (some ⟨b,0,none⟩,false) C:=fun{C} hu i=>by
   have z:=hu.size;have:=Z _ b S (k1.tr hu).wide (by rw[zo (Cq i)];exact(TrieO.upd0 (k1.tr hu) t).less fun y f=>.inl (f.elim id (u y))) (fun y f=>⟨.inl f,by have:=H y f;omega⟩) fun _=>⟨rfl,k1.tr hu⟩
   rw[i]at this;exact this
  clear Z;generalize hc:ck x (12-m) k=c at*;generalize hlc:part x (12-m) c l=lc at*;refine CI ndr hi fun Y G=>?_
  refine aN fun h4 b4 k4=>?_
  have b4':h4[Y.size]? =some (.cells #[.string Ln.1,.string Ln.2] ay (0,0)):=b4;refine Fb (p:=Ek (s.p c)) b4' fun h5 b5 R=>?_
  have g:Upd No F h5:=(G.tr k4).own R G.size;have z15:=g.size;have c1:=g.get0 b1;have nd5:=nd0.upd0 g;have X:=L.upd0 g;cases hsp:s.p c with
  |some y=>
   rw[hsp]at b5;obtain⟨M,hk0⟩:lc= [y]∧s.k c=none:=by
    rcases hsi with⟨_,j,_⟩|⟨q,F,j,Y,_⟩|⟨_,j,_⟩
    ·rw[hsp]at j;cases j
    ·rw[hsp]at j;cases j;exact⟨F,Y⟩
    ·rw[hsp]at j;cases j
   refine aA.2 ⟨y.1,vc b5 0,k,vc c1 4,?_⟩;rw[jq];by_cases e1:y.1=k
   ·have i:cI l k=true:=by rw[←O,M];exact cL.2 ⟨y,au.2 rfl,decide_eq_true e1⟩
    rw[decide_eq_true e1];refine aj.2 ⟨w,vc c1 3,Uc nd5 X J hi fun h6 b6 d6 n6 sp6 sk6 on6 D=>?_⟩
    have:=turn (T':=No) g.wide on6 D (fun c' E=>⟨gY E,gY E⟩) (.inl ⟨by rw[M,Ae,if_pos e1];rfl,ik,ik,fun _ h=>h⟩) (fun _ h=>h.elim) i
    rw[i]at this;exact this
   ·rw[decide_eq_false e1]
    have i:cI l k=false:=by
     rw[←O,M];unfold cI;rw[rQ,decide_eq_false e1];rfl
    exact aA.2 (same g i)
  |none=>
   refine aj.2 (CJ (nd5.read X) hi ?_);cases hsk:s.k c with
   |none=>
    have hlc0:lc= []:=by
     rcases hsi with⟨F,_⟩|⟨q,_,j,_⟩|⟨_,_,kb,j,_⟩
     ·exact F
     ·rw[hsp]at j;cases j
     ·rw[hsk]at j;cases j
    exact aA.2 (same g (by rw[←O,hlc0];rfl))
   |some kp=>
    obtain⟨h2l,kb,rfl,tk⟩:2≤lc.length∧∃kb,kp=some ⟨kb,0,none⟩∧TrieO o W x F m kb lc (T c):=by
     rcases hsi with⟨_,_,j,_⟩|⟨q,_,j,_⟩|⟨F,_,kb,j,Y⟩
     ·rw[hsk]at j;cases j
     ·rw[hsp]at j;cases j
     ·rw[hsk]at j;cases j;exact⟨F,kb,rfl,Y⟩
    refine aj.2 ⟨_,vc c1 0,_,vc c1 1,_,vc c1 2,_,vc c1 3,_,vc c1 4,_,vc c1 5,?_⟩;have ew:IntKind.wrap .i64 (((12-m:Nat):Int)+1)=((13-m:Nat):Int):=by rw[jj (by omega)];omega
    rw[ew];refine ih (by omega) k (TrieO.upd0 g tk) X (gW (k1.tr g)) (fun y f=>u y (B c y f).1) J (fun a e i=>hwS a e (B c _ i).1) hrp hnp fun h6 b6 Sk D t6 hSk hsame=>?_
    have z6:=D.size;rw[O];cases i:cI l k with
    |false=>exact aA.2 (same (g.tr (hsame (by rw[O,i])).2) i)
    |true=>
     have k16:Upd (T c) F h6:=g.wide.tr D;have by6:=X.updS D fun a e i=>hwS a e (B c _ i).1
     have c6:=D.get c1 fun f=>by have:=V _ (B c _ f).1;omega
     have nd6:NodeO o W h6 b s S0:=nd5.imp (fun n=>⟨n.1.upd D fun y f=>.inl (u y (B c y f).1),n.2⟩) fun⟨e,d,n,sp,sk,on⟩=>⟨e,d,n,sp,sk,on.upd D fun y f=>(B c y f).2⟩
     have hdl:=Su (k:=k) hrp;have hdn:(qM k lc).length≤1000000:=bv WF hnp;refine aj.2 (W5 (t6.read by6) hdn fun h7 p hu7 hp=>?_)
     refine aN fun h8 b8 k8=>?_
     have b8':h8[h7.size]? =some (.cells #[.string Ln.1,.string Ln.2] ay (0,0)):=b8;refine Fb (p:=p) b8' fun h9 b9 hu9=>?_
     have A:Upd No h6 h9:=(hu7.tr k8).own hu9 hu7.size;have z69:=A.size;have c9:=A.get0 c6;have nd9:=nd6.upd0 A;have by9:=by6.upd0 A;have k19:Upd (T c) F h9:=k16.tr A.wide;refine aM (fun e=>?_) fun e=>?_
     ·refine⟨w,vc c9 3,p.1,vc b9 0,p.2,vc b9 1,rS nd9 by9 J (fun y f=>by have:=H y (h0 y f);omega) hi (fun y f=>by rw[hsp]at f;cases f) p fun h10 b10 d10 n10 sp10 sk10 Q N=>?_⟩
      have:=turn (T':=No) k19 Q N (fun c' E=>⟨gY E,gY E⟩) (.inr (.inl ⟨p,hp e,ik,ik,fun _ h=>h⟩)) (fun _ h=>h.elim) i
      rw[i]at this;exact this
     ·refine⟨w,vc c9 3,xu nd9 by9 J hi (fun _ _=>hsp) ⟨b6,0,none⟩ fun h10 b10 d10 n10 sp10 sk10 Q N=>?_⟩
      have:=turn (T':=Sk) k19 Q N (fun c' E=>⟨gY E,gY E⟩) (.inr (.inr ⟨by omega,ik,b6,ik,TrieO.upd0 A t6⟩)) (fun y f=>⟨(hSk y f).1.imp id fun h=>by omega,by have:=(hSk y f).2;omega⟩) i
      rw[i]at this;exact this
end Go.Proofs
namespace Go.Proofs
open Go Go.Lift
theorem Kb{h:af}{b:Nat}{K:Option Addr→af→Prop}(a:K (some ⟨b,0,none⟩) h):HC PG kI [.pointer (some ⟨b,0,none⟩)] [.c .ptr] K h:=by
 refine DB _ ?_;unfold yc;exact aj.2 a
theorem E7{h:af}{b:Nat}{K:Option Addr→af→Prop}(a:K (some ⟨b,0,none⟩) h):HC PG nU [.pointer (some ⟨b,0,none⟩)] [.c .ptr] K h:=by
 refine Dg _ ?_;unfold x9;exact aj.2 a
structure Can(o w:Option Addr)(W S:Nat→Prop)(h:af):Prop where
 by_:By h w o
 lt:∀y,W y→y<h.size
 sub:∀y,S y→W y
 tok:∀a,o=some a→W a.block
 off:∀a,w=some a→¬S a.block
theorem Can.upd0{o w:Option Addr}{W S:Nat→Prop}{h a:af}(c:Can o w W S h)(k:Upd No h a):Can o w W S a:=⟨c.by_.upd0 k,fun y b=>bG (c.lt y b) k.size,c.sub,c.tok,c.off⟩
theorem Mr{o w:Option Addr}{W S:Nat→Prop}{x:Hs}{h:af}{b:Nat}{l:List Pr}(t:TrieO o W x h 13 b l S)(c:Can o w W S h)(hr:cA l)(hn:l.length≤1000000)(p:Pr){K:Option Addr×Bool→af→Prop}
  (hk:∀h' b' S',Upd S h h'→TrieO o (fun y=>W y∨S' y) x h' 13 b' (iV p l) S'→(∀y,S' y→(S y∨h.size≤y)∧y<h'.size)→K (some ⟨b',0,none⟩, !cI l p.1) h'):
  HC PG zk [.agg #[.int .u64 x.k0,.int .u64 x.k1,.int .u64 x.mask],.pointer w,.pointer (some ⟨b,0,none⟩),.agg #[.string p.1,.string p.2]] [.c .ptr,.c .bool] K h:=by
 refine OX (x.k0,x.k1,x.mask) w (some ⟨b,0,none⟩) p ?_;unfold FR aq aD eX CC yg aQ oZ tc Bc Y5 Zg;refine aN fun E b1 k1=>aN fun B b2 R=>?_
 have d:∀{h':af},Upd No B h'→∀i,aR h' (adr ⟨h.size,0,none⟩ i)=(#[.int .u64 x.k0,.int .u64 x.k1,.int .u64 x.mask]:Array Value)[i]?:=fun k i=>vc (k.get0 (R.get0 b1)) i
 have s:∀{h':af},Upd No B h'→∀i,aR h' (adr ⟨E.size,0,none⟩ i)=(#[.string p.1,.string p.2]:Array Value)[i]?:=fun k i=>vc (k.get0 b2) i
 have A:=Upd.refl No B;have Q:=k1.tr R;let H:List Value:= [.int .u64 x.k0,.int .u64 x.k1,.int .u64 x.mask,.pointer w,.string p.1,.int .u64 (nr x p.1)]
 have fin:∀{g:af} {m:Nat},Upd No B g→g[m]? =some (.cells H.toArray nN (0,0))→
   ∃v15:Int,aR g (adr ⟨m,0,none⟩ 0)=some (.int .u64 v15)∧
    ∃v16:Int,aR g (adr ⟨m,0,none⟩ 1)=some (.int .u64 v16)∧
    ∃v17:Int,aR g (adr ⟨m,0,none⟩ 2)=some (.int .u64 v17)∧
    ∃v18:Option Addr,aR g (adr ⟨m,0,none⟩ 3)=some (.pointer v18)∧
    ∃v19:ByteArray,aR g (adr ⟨m,0,none⟩ 4)=some (.string v19)∧
    ∃v20:Int,aR g (adr ⟨m,0,none⟩ 5)=some (.int .u64 v20)∧
    ∃v21:ByteArray,aR g (adr ⟨E.size,0,none⟩ 0)=some (.string v21)∧
    ∃v22:ByteArray,aR g (adr ⟨E.size,0,none⟩ 1)=some (.string v22)∧
    HC PG kI [.pointer (some ⟨b,0,none⟩)] [.c .ptr] (fun(M:Option Addr) f=>
     ((aR f (adr ⟨E.size,0,none⟩ 0)=some (.string v21)∧aR f (adr ⟨E.size,0,none⟩ 1)=some (.string v22))∧
      ((aR f (adr ⟨m,0,none⟩ 0)=some (.int .u64 v15)∧aR f (adr ⟨m,0,none⟩ 1)=some (.int .u64 v16)∧aR f (adr ⟨m,0,none⟩ 2)=some (.int .u64 v17)∧aR f (adr ⟨m,0,none⟩ 3)=some (.pointer v18)∧aR f (adr ⟨m,0,none⟩ 4)=some (.string v19)∧aR f (adr ⟨m,0,none⟩ 5)=some (.int .u64 v20))∧
       HC PG jN [.agg #[.int .u64 v15,.int .u64 v16,.int .u64 v17,.pointer v18,.string v19,.int .u64 v20],.pointer M,.agg #[.string v21,.string v22],.int .i64 0] [.c .ptr,.c .bool,.c .bool] (fun(F:(Option Addr)×Bool×Bool) P=>
        K (F.1,F.2.1) P) f))) g:=fun{g m} a N=>by
  have q:∀i,aR g (adr ⟨m,0,none⟩ i)=H.toArray[i]?:=fun i=>vc N i
  refine⟨_,q 0,_,q 1,_,q 2,_,q 3,_,q 4,_,q 5,p.1,s a 0,p.2,s a 1,Kb ?_⟩;refine⟨⟨s a 0,s a 1⟩,⟨q 0,q 1,q 2,q 3,q 4,q 5⟩,?_⟩;have z:=Q.tr a;have D:=c.upd0 z;have z4:=z.size;exact X4 13 (ao _) p (TrieO.upd0 z t) D.by_ D.lt D.sub D.tok D.off hr hn fun T L ch Y C t6 G _ _=>hk T L Y (z.wide.tr C) t6 fun y I=>⟨(G y I).1.imp id fun h=>by omega,(G y I).2⟩
 have own:∀{O g:af} {b:Nat},B.size≤b→Upd (· =b) O g→Upd No B O→Upd No B g:=fun hb V k=>k.trans V fun y I=>.inr (I▸hb)
 refine⟨_,d A 0,_,d A 1,_,d A 2,_,s A 0,_,d A 0,_,d A 1,_,d A 2,_,s A 0,?_,?_⟩
 ·refine uV fun O n=>⟨s n 0,⟨d n 0,d n 1,d n 2⟩,?_⟩
  refine aN fun g J u=>?_
  have a:=n.tr u;refine⟨s a 0,⟨d a 0,d a 1,d a 2⟩,?_⟩;refine cW (vs:=H) J rfl fun Z X v=>fin (own n.size v a) X
 ·refine aN fun g J u=>?_
  refine⟨s u 0,⟨d u 0,d u 1,d u 2⟩,s u 0,⟨d u 0,d u 1,d u 2⟩,?_⟩;refine uV fun Z v=>?_
  have j:=u.tr v;refine⟨s j 0,⟨d j 0,d j 1,d j 2⟩,?_⟩;exact cW (vs:=H) (v.get0 J) rfl fun T L C=>fin (own (ao _) C j) L
theorem Jq{o w:Option Addr}{W S:Nat→Prop}{x:Hs}{h:af}{b:Nat}{l:List Pr}(t:TrieO o W x h 13 b l S)(c:Can o w W S h)(n:cA l)(s:l.length≤1000000)(k:ByteArray){K:Option Addr×Bool→af→Prop}
  (u:∀h' b' S',Upd S h h'→TrieO o (fun y=>W y∨S' y) x h' 13 b' (qM k l) S'→(∀y,S' y→(S y∨h.size≤y)∧y<h'.size)→(cI l k=false→b'=b)→K (some ⟨b',0,none⟩,cI l k) h'):
  HC PG xT [.agg #[.int .u64 x.k0,.int .u64 x.k1,.int .u64 x.mask],.pointer w,.pointer (some ⟨b,0,none⟩),.string k] [.c .ptr,.c .bool] K h:=by
 refine MN (x.k0,x.k1,x.mask) w (some ⟨b,0,none⟩) k ?_;unfold DN aq CC yg Bc;refine aN fun C b1 k1=>Kb ?_
 refine⟨_,vc b1 0,_,vc b1 1,_,vc b1 2,_,vc b1 0,_,vc b1 1,_,vc b1 2,?_⟩;refine uV fun D f=>?_
 have i:=f.get0 b1;refine⟨⟨vc i 0,vc i 1,vc i 2⟩,?_⟩;have a:=k1.tr f;have cc:=c.upd0 a;have B:=a.size;exact Ms 13 (ao _) k (TrieO.upd0 a t) cc.by_ cc.lt cc.sub cc.tok cc.off n s fun z p v g q d j=>u z p v (a.wide.tr g) q (fun y m=>⟨(d y m).1.imp id fun h=>by omega,(d y m).2⟩) fun A=>(j A).1
def RadO(o:Option Addr)(W:Nat→Prop)(h:af)(b:Nat)(l:List Pr)(S:Nat→Prop):Prop:=∃w F,RxO o W h b ⟨#[]⟩ w F S∧fU F∧∀k v,(k,v)∈ng w F↔∃p∈l,p.1.data.toList=k∧p.2=v
theorem LM{o w:Option Addr}{W S:Nat→Prop}{h:af}{b:Nat}{l:List Pr}(t:RadO o W h b l S)(c:Can o w W S h)(s:cA l)(p:Pr)(G:p.1.size≤1000000){K:Option Addr×Bool→af→Prop}
  (H:∀h' b' S' a,Upd S h h'→RadO o (fun y=>W y∨S' y) h' b' (iV p l) S'→(∀y,S' y→(S y∨h.size≤y)∧y<h'.size)→K (some ⟨b',0,none⟩,a) h'):
  HC PG zd [.pointer w,.pointer (some ⟨b,0,none⟩),.agg #[.string p.1,.string p.2]] [.c .ptr,.c .bool] K h:=by
 refine OI w (some ⟨b,0,none⟩) p ?_;unfold FG aD tc UZ;refine aN fun J b1 k1=>?_
 refine⟨p.1,vc b1 0,p.2,vc b1 1,E7 ⟨vc b1 1,vc b1 0,?_⟩⟩;obtain⟨w0,F,I,A,C⟩:=t;have cc:=c.upd0 k1;have M:=k1.size;refine Tn (p.1.size+1) p.1 p.2 (by omega) G (I.upd0 k1) cc.by_ cc.lt cc.sub cc.tok cc.off A fun D b3 w' F' B a L i m f n j E z=>?_
 refine H D b3 B a (k1.wide.tr i) ⟨w',F',m,n,fun k v=>?_⟩ fun y u=>⟨(f y u).1.imp id fun h=>by omega,(f y u).2⟩
 rw[kB,j k v,←kB,C k v];constructor
 ·rintro(⟨rfl,rfl⟩|⟨d,q,g,rfl,rfl⟩)
  ·exact⟨p,(rV s).2 (.inl rfl),rfl,rfl⟩
  ·exact⟨q,(rV s).2 (.inr ⟨g,fun e=>d (by rw[e])⟩),rfl,rfl⟩
 ·rintro⟨q,g,rfl,rfl⟩
  rcases(rV s).1 g with rfl|⟨g,d⟩
  ·exact .inl ⟨rfl,rfl⟩
  ·exact .inr ⟨fun e=>d (pE.1 e),q,g,rfl,rfl⟩
theorem PO{w:Option ByteArray}{F:Fo}{l:List Pr}(h:∀k v,(k,v)∈ng w F↔∃p∈l,p.1.data.toList=k∧p.2=v)(b:Fit l):∀j v,qt F j v→j.length≤1000000:=fun j v hi=>by
 obtain⟨p,a,e,_⟩:=(h j v).1 (kB.2 (.inr hi));have:=(b p a).1;rw[←e,lh];omega
theorem Jf{o w:Option Addr}{W S:Nat→Prop}{h:af}{b:Nat}{l:List Pr}(t:RadO o W h b l S)(c:Can o w W S h)(L:Fit l)(k:ByteArray){K:Option Addr×Bool→af→Prop}
  (M:∀h' b' S',Upd S h h'→RadO o (fun y=>W y∨S' y) h' b' (qM k l) S'→(∀y,S' y→(S y∨h.size≤y)∧y<h'.size)→(cI l k=false→b'=b)→K (some ⟨b',0,none⟩,cI l k) h'):
  HC PG xI [.pointer w,.pointer (some ⟨b,0,none⟩),.string k] [.c .ptr,.c .bool] K h:=by
 refine MF w (some ⟨b,0,none⟩) k ?_;unfold DE FT;refine E7 ?_;obtain⟨w0,F,N,G,A⟩:=t;refine To (k.size+1) k (by omega) N c.by_ c.lt c.sub c.tok c.off G (PO A L) fun I b3 w' F' H a m C n B u g s=>?_
 have i:∀v,rO w0 F k.data.toList v↔(k,v)∈l:=fun v=>by
  rw[←kB,A];constructor
  ·rintro⟨p,D,J,rfl⟩
   rw[←pE.1 J];exact D
  ·intro D;exact⟨_,D,rfl,rfl⟩
 have z:a=cI l k:=by
  cases a with
  |false=>
   refine(CH fun q f e=>(g rfl).2.2.2.2 q.2 ((i _).2 ?_)).symm
   rw[←e];exact f
  |true=>
   obtain⟨v,hv⟩:=s rfl;exact(cL.2 ⟨_,(i v).1 hv,decide_eq_true rfl⟩).symm
 subst z;refine M I b3 H m ⟨w',F',C,B,fun j v=>?_⟩ n fun E=>(g E).1
 rw[kB,u j v,←kB,A];constructor
 ·rintro⟨d,q,f,rfl,rfl⟩
  exact⟨q,Gq.2 ⟨f,fun e=>d (by rw[e])⟩,rfl,rfl⟩
 ·rintro⟨q,f,rfl,rfl⟩
  obtain⟨f,d⟩:=Gq.1 f;exact⟨fun e=>d (pE.1 e),q,f,rfl,rfl⟩
end Go.Proofs
namespace Go.Proofs
open Go Go.Lift
def DW(p:Pr):Int:=if 256<p.1.size then 2 else if 4096<p.2.size then 3 else 0
theorem Kh{p:Pr}(h:DW p=0):p.1.size≤256∧p.2.size≤4096:=by
 unfold DW at h;split at h
 ·cases h
 ·split at h
  ·cases h
  ·omega
theorem RU{p:Pr}{h:af}{K:Int→af→Prop}(a:K (DW p) h):HC PG tJ [.string p.1,.string p.2] [.c (.int .i64)] K h:=by
 refine ML p.1 p.2 ?_;unfold DK;unfold DW at a;refine aM (fun e=>?_) fun e=>aM (fun e'=>?_) fun e'=>?_
 ·rw[if_pos (by omega)]at a;exact a
 ·rw[if_neg (by omega),if_pos (by omega)]at a;exact a
 ·rw[if_neg (by omega),if_neg (by omega)]at a;exact a
theorem XZ{p:Pr}{h:af}{K:Int→af→Prop}(a:K (DW p) h):HC PG ve [.string p.1,.string p.2] [.c (.int .i64)] K h:=by
 refine FC p.1 p.2 ?_;unfold zG;unfold DW at a;refine aM (fun e=>?_) fun e=>aM (fun e'=>?_) fun e'=>?_
 ·rw[if_pos (by omega)]at a;exact a
 ·rw[if_neg (by omega),if_pos (by omega)]at a;exact a
 ·rw[if_neg (by omega),if_neg (by omega)]at a;exact a
end Go.Proofs
namespace Go.Proofs
open Go Go.Lift
def Eu(l:List Pr)(k:ByteArray):Int:=if 256<k.size then 2 else if cI l k then 0 else 4
def mZ(l:List Pr)(p:Pr):List Pr:=if DW p=0 then iV p l else l
def pV(l:List Pr)(k:ByteArray):List Pr:=if 256<k.size then l else qM k l
theorem RadO.upd{o:Option Addr}{W M S:Nat→Prop}{h a:af}{b:Nat}{l:List Pr}(k:Upd M h a)(t:RadO o W h b l S)(d:∀y,S y→y<h.size)(hm:∀y,M y→(W y∧¬S y)∨h.size≤y):RadO o W a b l S:=let⟨w,F,r,c,e⟩:=t;⟨w,F,r.upd k d hm,c,e⟩
theorem RadO.less{o:Option Addr}{W W' S:Nat→Prop}{h:af}{b:Nat}{l:List Pr}(hm:∀y,W' y→W y∨h.size≤y)(t:RadO o W h b l S):RadO o W' h b l S:=let⟨w,F,r,c,e⟩:=t;⟨w,F,r.less hm,c,e⟩
def TreeO(o:Option Addr)(W:Nat→Prop)(h:af)(a:Int)(x:Hs)(t:Tr)(l:List Pr)(S:Nat→Prop):Prop:=(a=0∧∃b,t=(0,x.k0,x.k1,x.mask,some ⟨b,0,none⟩,none)∧TrieO o W x h 13 b l S)∨(a=1∧∃b,t=(1,0,0,0,none,some ⟨b,0,none⟩)∧RadO o W h b l S)
theorem yN{o:Option Addr}{W:Nat→Prop}{h:af}{a:Int}{x:Hs}{t:Tr}{l:List Pr}(i:TreeIs W h a x t l):TreeO o W h a x t l No:=
 i.imp (fun⟨e,b,c,t⟩=>⟨e,b,c,Ng t⟩) fun⟨e,b,c,t⟩=>⟨e,b,c,let⟨w,F,f,d,g⟩:=t.ex;⟨w,F,.inl ⟨f,fun _ h=>h⟩,d,g⟩⟩
theorem TreeO.upd{o:Option Addr}{W M S:Nat→Prop}{h d:af}{a:Int}{x:Hs}{t:Tr}{l:List Pr}(k:Upd M h d)(i:TreeO o W h a x t l S)(f:∀y,S y→y<h.size)(hm:∀y,M y→(W y∧¬S y)∨h.size≤y):TreeO o W d a x t l S:=
 i.imp (fun⟨e,b,c,t⟩=>⟨e,b,c,TrieO.upd k t f hm⟩) fun⟨e,b,c,t⟩=>⟨e,b,c,t.upd k f hm⟩
theorem TreeO.upd0{o:Option Addr}{W S:Nat→Prop}{h f:af}{a:Int}{x:Hs}{t:Tr}{l:List Pr}(k:Upd No h f)(i:TreeO o W h a x t l S):TreeO o W f a x t l S:=
 i.imp (fun⟨e,b,d,t⟩=>⟨e,b,d,TrieO.upd0 k t⟩) fun⟨e,b,d,w,F,r,c⟩=>⟨e,b,d,w,F,r.upd0 k,c⟩
theorem TreeO.less{o:Option Addr}{W W' S:Nat→Prop}{h:af}(hm:∀b,W' b→W b∨h.size≤b){a:Int}{x:Hs}{t:Tr}{l:List Pr}(i:TreeO o W h a x t l S):TreeO o W' h a x t l S:=
 i.imp (fun⟨e,b,c,t⟩=>⟨e,b,c,TrieO.less hm t⟩) fun⟨e,b,c,t⟩=>⟨e,b,c,t.less hm⟩
theorem TreeO.freeze{o:Option Addr}{W W' S:Nat→Prop}{h:af}(f:∀y,W' y→W y)(g:OwOk W' h o){a:Int}{x:Hs}{t:Tr}{l:List Pr}(i:TreeO o W h a x t l S)(d:∀y,S y→¬W' y):TreeIs W' h a x t l:=
 i.imp (fun⟨e,b,c,t⟩=>⟨e,b,c,TrieO.freeze f g t d⟩) fun⟨e,b,c,w,F,r,c1,c2⟩=>⟨e,b,c,⟨w,F,r.freeze f g d,c1,c2⟩⟩
theorem TreeO.read{o w:Option Addr}{W S:Nat→Prop}{h:af}{b:Int}{x:Hs}{t:Tr}{l:List Pr}(i:TreeO o W h b x t l S)(by_:By h w o):TreeIs No h b x t l:=
 i.freeze (fun _ h=>h.elim) (fun a e=>⟨id,by_.plain a (by_.tok e)⟩) fun _ _ h=>h
theorem Can.pro{o w:Option Addr}{W S:Nat→Prop}{h b:af}(c:Can o w W S h)(k:Upd No h b):Can o w (Pro W h b) S b:=⟨c.by_.upd0 k,Pro.lt c.lt k,fun y d=>.inl (c.sub y d),fun a e=>.inl (c.tok a e),c.off⟩
theorem TreeO.pro{o:Option Addr}{W S:Nat→Prop}{h b:af}(k:Upd No h b){a:Int}{x:Hs}{t:Tr}{l:List Pr}(i:TreeO o W h a x t l S):TreeO o (Pro W h b) b a x t l S:=(i.less Pro.hm).upd0 k
theorem TreeO.loc{o:Option Addr}{W S c:Nat→Prop}{h g j m:af}{b:Nat}{a:Int}{x:Hs}{t:Tr}{l:List Pr}(i:TreeO o (fun y=>Pro W h g y∨c y) j a x t l c)(k:Upd (· =b) j m)(s:h.size≤b)(q:b<g.size)(n:∀y,S y→y<h.size)(d:∀y,c y→(S y∨g.size≤y)∧y<j.size):TreeO o (fun y=>Pro W h g y∨c y) m a x t l c:=
 i.upd k (fun y f=>(d y f).2) fun y f=>by
  have f:y=b:=f;subst f;refine .inl ⟨.inl (.inr ⟨s,q⟩),fun p=>?_⟩
  rcases(d y p).1 with h|h
  ·have:=n y h;omega
  ·omega
theorem JZ{o w:Option Addr}{W S:Nat→Prop}{x:Hs}{h:af}{u:Int}{t:Tr}{l:List Pr}(i:TreeO o W h u x t l S)(c:Can o w W S h)(Y:cA l)(hn:l.length≤1000000)(p:Pr){K:Tr×Int→af→Prop}
  (H:∀h' v z,Upd S h h'→TreeO o (fun y=>W y∨z y) h' u x v (mZ l p) z→(∀y,z y→(S y∨h.size≤y)∧y<h'.size)→(DW p≠0→v=t)→K (v,DW p) h'):HC PG jI [Jb t,.pointer w,.agg #[.string p.1,.string p.2]] [.agg [.int .i64,.int .u64,.int .u64,.int .u64,.ptr,.ptr],.c (.int .i64)] K h:=by
 unfold mZ at H;have s:∀y,S y→y<h.size:=fun y a=>c.lt y (c.sub y a)
 refine ED t w p ?_;unfold wY aq aD eX yg bD aQ uO rF oZ cz Cm tc jm ci;refine aN fun V b1 k1=>aN fun J b2 O=>aN fun P b3 M=>?_
 have z1:=aL b1;have z2:=aL b2;have z3:=aL b3;have s1:h.size≤V.size:=k1.size;have s2:V.size≤J.size:=O.size;have s3:=M.size;have A:=(k1.tr O).tr M;have n:=M.get0 (O.get0 b1);have G:=M.get0 b2;refine⟨_,vc G 0,_,vc G 1,RU (p:=p) ?_⟩;by_cases e:DW p=0
 ·rw[if_pos e]at H
  have N:=Kh e;rw[e]at H⊢;refine aj.2 ?_;have i3:=i.pro A;have X:=c.pro A;have fin:∀{B C:af} {v:Tr} {z:Nat→Prop},Upd S P B→TreeO o (fun y=>Pro W h P y∨z y) B u x v (iV p l) z→(∀y,z y→(S y∨P.size≤y)∧y<B.size)→C[h.size]? =some (.cells (lD v).toArray bm (0,0))→Upd (· =h.size) B C→C[J.size]? =some (.cells (lD yF).toArray bm (0,0))→∀{D:af},D[J.size]? =some (.cells (lD v).toArray bm (0,0))→Upd (· =J.size) C D→K (v,0) D:=fun{B C v z} L Z g j d F {D} k m=>by
   have z4:=L.size;have z5:=d.size;have z6:=m.size;have i5:=Z.loc d (ao _) (by omega) s g;have i6:=i5.loc m (by omega) (by omega) s fun y a=>⟨(g y a).1,by have:=(g y a).2;omega⟩
   refine H D v z (((A.wide.tr L).trans d fun y a=>.inr (by have a:y=h.size:=a;omega)).trans m fun y a=>.inr (by have a:y=J.size:=a;omega)) (i6.less fun y a=>.inl (a.imp .inl id)) (fun y a=>⟨(g y a).1.imp id fun h=>by omega,by have:=(g y a).2;omega⟩) fun h=>absurd rfl h
  rcases i3 with⟨rfl,b,rfl,R⟩|⟨rfl,b,rfl,R⟩
  ·refine⟨_,vc n 0,aj.2 ⟨_,ga n 1 0,_,ga n 1 1,_,ga n 1 2,_,vc n 4,p.1,vc G 0,p.2,vc G 1,?_⟩⟩
   refine Mr R X Y hn p fun B q S4 f Q g=>?_
   have I:∀{y},h.size≤y→¬S y:=fun a N=>by have:=s _ N;omega
   refine kU (i:=4) (c':=(lD (0,x.k0,x.k1,x.mask,some ⟨q,0,none⟩,none)).toArray) (f.get n (I (ao _))) (show 4<6 by decide) rfl fun C j d=>?_
   refine⟨_,vc j 0,_,vc j 1,_,vc j 2,_,vc j 3,_,vc j 4,_,vc j 5,?_⟩;have F:=d.oth (f.get b3 (I (by omega))) (by omega);refine cW (c:=lD yF) (vs:=lD (0,x.k0,x.k1,x.mask,some ⟨q,0,none⟩,none)) F rfl fun D k m=>?_
   exact⟨_,vc k 0,_,vc k 1,_,vc k 2,_,vc k 3,_,vc k 4,_,vc k 5,fin f (.inl ⟨rfl,q,rfl,Q⟩) g j d F k m⟩
  ·refine⟨_,vc n 0,aA.2 ⟨_,vc n 5,p.1,vc G 0,p.2,vc G 1,?_⟩⟩
   refine LM R X Y p (by omega) fun B q S4 T f Q g=>?_
   have I:∀{y},h.size≤y→¬S y:=fun a N=>by have:=s _ N;omega
   refine kU (i:=5) (c':=(lD (1,0,0,0,none,some ⟨q,0,none⟩)).toArray) (f.get n (I (ao _))) (show 5<6 by decide) rfl fun C j d=>?_
   refine⟨_,vc j 0,_,vc j 1,_,vc j 2,_,vc j 3,_,vc j 4,_,vc j 5,?_⟩;have F:=d.oth (f.get b3 (I (by omega))) (by omega);refine cW (c:=lD yF) (vs:=lD (1,0,0,0,none,some ⟨q,0,none⟩)) F rfl fun D k m=>?_
   exact⟨_,vc k 0,_,vc k 1,_,vc k 2,_,vc k 3,_,vc k 4,_,vc k 5,fin f (.inr ⟨rfl,q,rfl,Q⟩) g j d F k m⟩
 ·rw[if_neg e]at H
  rw[show(DW p !=0)=true by simpa using e]
  refine aA.2 ⟨_,vc n 0,_,vc n 1,_,vc n 2,_,vc n 3,_,vc n 4,_,vc n 5,?_⟩;refine cW (c:=lD yF) (vs:=lD t) b3 rfl fun B q f=>?_
  have E:=A.own f (by omega);exact⟨_,vc q 0,_,vc q 1,_,vc q 2,_,vc q 3,_,vc q 4,_,vc q 5,H B t S E.wide ((i.upd0 E).less fun y a=>.inl (a.elim id (c.sub y))) (fun y a=>⟨.inl a,by have:=s y a;have:=E.size;omega⟩) fun _=>rfl⟩
end Go.Proofs
namespace Go.Proofs
open Go Go.Lift
theorem Cs{o w:Option Addr}{W S:Nat→Prop}{x:Hs}{h:af}{s:Int}{t:Tr}{l:List Pr}(i:TreeO o W h s x t l S)(c:Can o w W S h)(hr:cA l)(hf:Fit l)(hn:l.length≤1000000)(k:ByteArray){K:Tr×Int→af→Prop}
  (O:∀h' n q,Upd S h h'→TreeO o (fun y=>W y∨q y) h' s x n (pV l k) q→(∀y,q y→(S y∨h.size≤y)∧y<h'.size)→(Eu l k≠0→n=t)→K (n,Eu l k) h'):HC PG jp [Jb t,.pointer w,.string k] [.agg [.int .i64,.int .u64,.int .u64,.int .u64,.ptr,.ptr],.c (.int .i64)] K h:=by
 unfold pV Eu at O;have E:∀y,S y→y<h.size:=fun y d=>c.lt y (c.sub y d)
 refine Aq t w k ?_;unfold th aq eX nv yg bD aQ uO rF cz Cm jm ci FT;refine aN fun j b1 k1=>aN fun G b2 k2=>?_
 have z1:=aL b1;have z2:=aL b2;have s1:h.size≤j.size:=k1.size;have X:=k1.tr k2;have c1:=k2.get0 b1;refine RU (p:=(k,⟨#[]⟩)) ?_;by_cases e:256<k.size
 ·rw[if_pos e,if_pos e]at O
  rw[show DW (k,(⟨#[]⟩:ByteArray))=2 from if_pos e]
  refine aA.2 ⟨_,vc c1 0,_,vc c1 1,_,vc c1 2,_,vc c1 3,_,vc c1 4,_,vc c1 5,?_⟩;refine cW (c:=lD yF) (vs:=lD t) b2 rfl fun L I D=>?_
  have u:=X.own D s1;exact⟨_,vc I 0,_,vc I 1,_,vc I 2,_,vc I 3,_,vc I 4,_,vc I 5,O L t S u.wide ((i.upd0 u).less fun y d=>.inl (d.elim id (c.sub y))) (fun y d=>⟨.inl d,by have:=E y d;have:=u.size;omega⟩) fun _=>rfl⟩
 rw[if_neg e,if_neg e]at O;rw[show DW (k,(⟨#[]⟩:ByteArray))=0 by unfold DW;rw[if_neg e];exact if_neg (Nat.not_lt.2 (bj 4096))]
 refine aj.2 ?_;refine⟨_,vc c1 0,_,vc c1 1,_,vc c1 2,_,vc c1 3,_,vc c1 4,_,vc c1 5,?_⟩;refine aN fun h3 b3 k3=>?_
 have z3:=aL b3;have s2:j.size≤G.size:=k2.size;refine cW (c:=lD yF) (vs:=lD t) b3 rfl fun L I D=>?_
 have u:Upd No h L:=(X.tr k3).own D (by omega);have V:Upd No G L:=k3.own D (ao _);have s4:h3.size≤L.size:=D.size;have H:=V.get0 c1;have d4:=V.get0 b2;have i4:=i.pro u;have Y:=c.pro u;have P:∀{y},h.size≤y→¬S y:=fun d hs=>by have:=E _ hs;omega
 have fin:∀{a:af} {n:Tr} {q:Nat→Prop},Upd S h a→a[h.size]? =some (.cells (lD n).toArray bm (0,0))→a[j.size]? =some (.cells (lD yF).toArray bm (0,0))→a[G.size]? =some (.cells (lD t).toArray bm (0,0))→TreeO o (fun y=>Pro W h L y∨q y) a s x n (qM k l) q→(∀y,q y→(S y∨L.size≤y)∧y<a.size)→(cI l k=false→n=t)→
   CondP (!cI l k) (∃v41:Int,aR a (adr (aI G) 0)=some (.int .i64 v41)∧
    ∃v42:Int,aR a (adr (aI G) 1)=some (.int .u64 v42)∧
    ∃v43:Int,aR a (adr (aI G) 2)=some (.int .u64 v43)∧
    ∃v44:Int,aR a (adr (aI G) 3)=some (.int .u64 v44)∧
    ∃v45:Option Addr,aR a (adr (aI G) 4)=some (.pointer v45)∧
    ∃v46:Option Addr,aR a (adr (aI G) 5)=some (.pointer v46)∧
    (vo a (some (aI j)) 0 [.int .i64 v41,.int .u64 v42,.int .u64 v43,.int .u64 v44,.pointer v45,.pointer v46]∧
     At (g8 a (aI j) 0 [.int .i64 v41,.int .u64 v42,.int .u64 v43,.int .u64 v44,.pointer v45,.pointer v46]) (fun z=>
      ∃v48:Int,aR z (adr (aI j) 0)=some (.int .i64 v48)∧
      ∃v49:Int,aR z (adr (aI j) 1)=some (.int .u64 v49)∧
      ∃v50:Int,aR z (adr (aI j) 2)=some (.int .u64 v50)∧
      ∃v51:Int,aR z (adr (aI j) 3)=some (.int .u64 v51)∧
      ∃v52:Option Addr,aR z (adr (aI j) 4)=some (.pointer v52)∧
      ∃v53:Option Addr,aR z (adr (aI j) 5)=some (.pointer v53)∧
      K ((v48,v49,v50,v51,v52,v53),4) z))) (
    ∃v54:Int,aR a (adr (aI h) 0)=some (.int .i64 v54)∧
    ∃v55:Int,aR a (adr (aI h) 1)=some (.int .u64 v55)∧
    ∃v56:Int,aR a (adr (aI h) 2)=some (.int .u64 v56)∧
    ∃v57:Int,aR a (adr (aI h) 3)=some (.int .u64 v57)∧
    ∃v58:Option Addr,aR a (adr (aI h) 4)=some (.pointer v58)∧
    ∃v59:Option Addr,aR a (adr (aI h) 5)=some (.pointer v59)∧
    (vo a (some (aI j)) 0 [.int .i64 v54,.int .u64 v55,.int .u64 v56,.int .u64 v57,.pointer v58,.pointer v59]∧
     At (g8 a (aI j) 0 [.int .i64 v54,.int .u64 v55,.int .u64 v56,.int .u64 v57,.pointer v58,.pointer v59]) (fun B=>
      ∃v61:Int,aR B (adr (aI j) 0)=some (.int .i64 v61)∧
      ∃v62:Int,aR B (adr (aI j) 1)=some (.int .u64 v62)∧
      ∃v63:Int,aR B (adr (aI j) 2)=some (.int .u64 v63)∧
      ∃v64:Int,aR B (adr (aI j) 3)=some (.int .u64 v64)∧
      ∃v65:Option Addr,aR B (adr (aI j) 4)=some (.pointer v65)∧
      ∃v66:Option Addr,aR B (adr (aI j) 5)=some (.pointer v66)∧
      K ((v61,v62,v63,v64,v65,v66),0) B))):=fun{a n q} k6 N Z M i6 F m=>by
  have done:∀{J:af},Upd (· =j.size) a J→(cI l k=false→n=t)→Upd S h J∧TreeO o (fun y=>W y∨q y) J s x n (qM k l) q∧∀y,q y→(S y∨h.size≤y)∧y<J.size:=fun{J} v _=>by
   have z7:=v.size;exact⟨k6.trans v fun y d=>.inr (by have d:y=j.size:=d;omega),(i6.loc v s1 (by omega) E F).less fun y d=>.inl (d.imp .inl id),fun y d=>⟨(F y d).1.imp id fun h=>by omega,by have:=(F y d).2;omega⟩⟩
  cases Q:cI l k with
  |false=>
   rw[Q]at O m done;have hte:=m rfl;subst hte;refine aA.2 ⟨_,vc M 0,_,vc M 1,_,vc M 2,_,vc M 3,_,vc M 4,_,vc M 5,?_⟩;refine cW (c:=lD yF) (vs:=lD n) Z rfl fun J C v=>?_
   refine⟨_,vc C 0,_,vc C 1,_,vc C 2,_,vc C 3,_,vc C 4,_,vc C 5,?_⟩;obtain⟨a1,a2,a3⟩:=done v fun _=>rfl
   exact O J n q a1 a2 a3 fun _=>rfl
  |true=>
   rw[Q]at O m done;refine aj.2 ⟨_,vc N 0,_,vc N 1,_,vc N 2,_,vc N 3,_,vc N 4,_,vc N 5,?_⟩;refine cW (c:=lD yF) (vs:=lD n) Z rfl fun J C v=>?_
   refine⟨_,vc C 0,_,vc C 1,_,vc C 2,_,vc C 3,_,vc C 4,_,vc C 5,?_⟩;obtain⟨a1,a2,a3⟩:=done v fun h=>by cases h
   exact O J n q a1 a2 a3 fun h=>absurd rfl h
 refine Join.intro (fun tk a=>tk=cI l k∧∃n q,Upd S h a∧a[h.size]? =some (.cells (lD n).toArray bm (0,0))∧a[j.size]? =some (.cells (lD yF).toArray bm (0,0))∧a[G.size]? =some (.cells (lD t).toArray bm (0,0))∧TreeO o (fun y=>Pro W h L y∨q y) a s x n (qM k l) q∧(∀y,q y→(S y∨L.size≤y)∧y<a.size)∧(cI l k=false→n=t)) (fun R hR=>?_) ?_
 ·rcases i4 with⟨rfl,b,rfl,t4⟩|⟨rfl,b,rfl,t4⟩
  ·refine⟨_,vc H 0,aj.2 ⟨_,ga H 1 0,_,ga H 1 1,_,ga H 1 2,_,vc H 4,?_⟩⟩
   refine Jq t4 Y hr hn k fun h5 T S5 f t5 A m=>?_
   have s5:=f.size;refine kU (i:=4) (c':=(lD (0,x.k0,x.k1,x.mask,some ⟨T,0,none⟩,none)).toArray) (f.get H (P (ao _))) (show 4<6 by decide) rfl fun a b6 g=>?_
   have s6:=g.size;exact hR _ _ ⟨rfl,_,S5,(u.wide.tr f).trans g fun y d=>.inr (by have d:y=h.size:=d;omega),b6,g.oth (f.get d4 (P (by omega))) (by omega),g.oth (f.get I (P (by omega))) (by omega),TreeO.loc (.inl ⟨rfl,T,rfl,t5⟩) g (ao _) (by omega) E A,fun y d=>⟨(A y d).1,by have:=(A y d).2;omega⟩,fun Q=>by rw[m Q]⟩
  ·refine⟨_,vc H 0,aA.2 ⟨_,vc H 5,?_⟩⟩
   refine Jf t4 Y hf k fun h5 T S5 f t5 A m=>?_
   have s5:=f.size;refine kU (i:=5) (c':=(lD (1,0,0,0,none,some ⟨T,0,none⟩)).toArray) (f.get H (P (ao _))) (show 5<6 by decide) rfl fun a b6 g=>?_
   have s6:=g.size;exact hR _ _ ⟨rfl,_,S5,(u.wide.tr f).trans g fun y d=>.inr (by have d:y=h.size:=d;omega),b6,g.oth (f.get d4 (P (by omega))) (by omega),g.oth (f.get I (P (by omega))) (by omega),TreeO.loc (.inr ⟨rfl,T,rfl,t5⟩) g (ao _) (by omega) E A,fun y d=>⟨(A y d).1,by have:=(A y d).2;omega⟩,fun Q=>by rw[m Q]⟩
 ·rintro _ a ⟨rfl,n,q,k6,N,Z,M,i6,F,m⟩
  exact fin k6 N Z M i6 F m
theorem Can.nil{W:Nat→Prop}{h:af}(a:∀y,W y→y<h.size):Can none none W No h:=⟨.inl ⟨rfl,rfl⟩,a,fun _ h=>h.elim,fun _ h=>(by cases h),fun _ _ h=>h⟩
theorem TreeO.nil{W S:Nat→Prop}{h:af}{a:Int}{x:Hs}{t:Tr}{l:List Pr}(i:TreeO none (fun y=>W y∨S y) h a x t l S):TreeIs W h a x t l:=by
 rcases i with⟨e,b,c,t⟩|⟨e,b,c,w,F,r,c1,c2⟩
 ·exact .inl ⟨e,b,c,TrieAt.less (fun y d=>.inl (.inl d)) t.off.1⟩
 ·exact .inr ⟨e,b,c,⟨w,F,RxN.less (fun y d=>.inl (.inl d)) r.off.1,c1,c2⟩⟩
theorem JY{W:Nat→Prop}{x:Hs}{h:af}{a:Int}{t:Tr}{l:List Pr}(i:TreeIs W h a x t l)(m:∀y,W y→y<h.size)(d:cA l)(g:l.length≤1000000)(p:Pr){K:Tr×Int→af→Prop}
  (j:∀b c,TreeIs W b a x c (mZ l p)→(DW p≠0→c=t)→Upd No h b→K (c,DW p) b):HC PG jI [Jb t,.pointer none,.agg #[.string p.1,.string p.2]] [.agg [.int .i64,.int .u64,.int .u64,.int .u64,.ptr,.ptr],.c (.int .i64)] K h:=
 JZ (yN i) (Can.nil m) d g p fun b c _ k f _ e=>j b c f.nil e k
theorem LC{W:Nat→Prop}{x:Hs}{h:af}{a:Int}{t:Tr}{l:List Pr}(i:TreeIs W h a x t l)(o:∀y,W y→y<h.size)(f:cA l)(g:Fit l)(m:l.length≤1000000)(k:ByteArray){K:Tr×Int→af→Prop}
  (n:∀b c,TreeIs W b a x c (pV l k)→(Eu l k≠0→c=t)→Upd No h b→K (c,Eu l k) b):HC PG jp [Jb t,.pointer none,.string k] [.agg [.int .i64,.int .u64,.int .u64,.int .u64,.ptr,.ptr],.c (.int .i64)] K h:=
 Cs (yN i) (Can.nil o) f g m k fun b c _ d j _ e=>n b c j.nil e d
end Go.Proofs
namespace Go.Proofs
open Go Go.Lift Go.Conc
def PoolAt(h:af)(pb cb cap:Nat)(ids:List Int):Prop:=pb≠cb∧h[pb]? =some (.cells #[.chan (some cb)] 130 (0,0))∧∃s r,h[cb]? =some (.chan cap (ids.map fun i=>Value.int .i64 i).toArray false s r false)
theorem PoolAt.upd{M:Nat→Prop}{h c:af}{pb cb cap:Nat}{ids:List Int}(p:PoolAt h pb cb cap ids)(k:Upd M h c)(f:¬M pb)(d:¬M cb):PoolAt c pb cb cap ids:=let⟨n,a,s,r,b⟩:=p;⟨n,k.get a f,s,r,k.get b d⟩
theorem PoolAt.upd0{h a:af}{pb cb cap:Nat}{ids:List Int}(p:PoolAt h pb cb cap ids)(k:Upd No h a):PoolAt a pb cb cap ids:=p.upd k id id
def TokAt(h:af)(tb pb:Nat)(id:Int)(a:Bool):Prop:=h[tb]? =some (.cells #[.pointer (some ⟨pb,0,none⟩),.int .i64 id,.bool a] rA (0,0))
theorem TokAt.by_{h:af}{tb pb:Nat}{id:Int}{a:Bool}(t:TokAt h tb pb id a):By h (some ⟨tb,0,none⟩) (if a then some ⟨tb,0,none⟩else none):=.inr ⟨tb,_,id,a,rfl,t,rfl⟩
theorem Hq{n:Nat}(p:1≤n)(m:n≤4096){h:af}{K:Option Addr×Int→af→Prop}(b:∀h',Upd No h h'→PoolAt h' (h.size+1) h.size n ((dh n).map fun j=>((j:Nat):Int)+1)→K (some ⟨h.size+1,0,none⟩,0) h'):HC PG y9 [.int .i64 n] [.c .ptr,.c (.int .i64)] K h:=by
 refine⟨fun w q=>.inl ⟨Tryz.call32 _ w,(VK p m (w:=w)).mono ?_⟩⟩
 subst q;rintro e w' ⟨rfl,ids,s,r,k,d,o⟩;have k1:Upd No w.heap ((w.heap.push (.chan n #[] false 0 0 false)).push (.cells #[.chan (some w.heap.size)] 130 (0,0))):=(Upd.push No w.heap _).tr (Upd.push No _ _);have a:ids=(((dh n).map fun j=>((j:Nat):Int)+1).map fun i=>Value.int .i64 i):=by rw[k];simp[Function.comp_def]
 have c:((w.heap.push (.chan n #[] false 0 0 false)).push (.cells #[.chan (some w.heap.size)] 130 (0,0)))[w.heap.size+1]? =some (.cells #[.chan (some w.heap.size)] 130 (0,0)):=by
  rw[ld,Array.size_push,if_pos rfl]
 rcases o with rfl|rfl
 ·refine⟨⟨rfl,rfl,rfl⟩,((some ⟨w.heap.size+1,0,none⟩,0):Option Addr×Int),rfl,b _ k1 ⟨by omega,c,s,r,?_⟩⟩
  rw[←a];exact d
 ·have f:=Upd.set (M:=(· =w.heap.size)) ((w.heap.push (.chan n #[] false 0 0 false)).push (.cells #[.chan (some w.heap.size)] 130 (0,0))) (.chan n ids.toArray false s r false) rfl
  refine⟨⟨rfl,rfl,rfl⟩,((some ⟨w.heap.size+1,0,none⟩,0):Option Addr×Int),rfl,b _ (k1.trans f fun y g=>.inr (by have g:y=w.heap.size:=g;omega)) ⟨by omega,f.get c (fun e=>by have e:w.heap.size+1=w.heap.size:=e;omega),s,r,?_⟩⟩
  rw[←a];exact d
theorem Fc{h:af}{pb cb cap:Nat}{i:Int}{ids:List Int}(p:PoolAt h pb cb cap (i::ids)){K:Option Addr×Int→af→Prop}(c:∀h',Upd (· =cb) h h'→PoolAt h' pb cb cap ids→TokAt h' h.size pb i true→K (some ⟨h.size,0,none⟩,0) h'):HC PG mL [.pointer (some ⟨pb,0,none⟩)] [.c .ptr,.c (.int .i64)] K h:=by
 obtain⟨n,a,s,r,hc⟩:=p;refine⟨fun w f=>.inl ⟨Tryz.call33 _ w,?_⟩⟩
 subst f;rw[List.map_cons]at hc;refine(S9 a hc).mono ?_;rintro e w' ⟨rfl,rfl⟩;have d:cb<w.heap.size:=(Array.getElem?_eq_some_iff.1 hc).1;have k1:=Upd.set (M:=(· =cb)) w.heap (.chan cap (ids.map fun i=>Value.int .i64 i).toArray false s (r+1) false) rfl
 have b:=k1.tr (Upd.push (· =cb) _ (.cells #[.pointer (some ⟨pb,0,none⟩),.int .i64 i,.bool true] rA (0,0)))
 refine⟨⟨rfl,rfl,rfl⟩,((some ⟨w.heap.size,0,none⟩,0):Option Addr×Int),rfl,c _ b ⟨n,b.get a n,s,r+1,?_⟩ ?_⟩
 ·show((w.heap.setIfInBounds cb _).push _)[cb]? =_
  rw[ld,oX,if_neg (by omega),cZ,if_pos rfl,if_pos d]
 ·show((w.heap.setIfInBounds cb _).push _)[w.heap.size]? =_
  rw[ld,oX,if_pos rfl]
theorem Ji{h:af}{pb cb cap:Nat}(p:PoolAt h pb cb cap []){K:Option Addr×Int→af→Prop}(a:K (none,6) h):HC PG mL [.pointer (some ⟨pb,0,none⟩)] [.c .ptr,.c (.int .i64)] K h:=by
 obtain⟨n,c,s,r,hc⟩:=p;refine⟨fun w b=>.inl ⟨Tryz.call33 _ w,?_⟩⟩
 subst b;refine(Pp c hc).mono ?_;rintro e w' ⟨rfl,rfl⟩;exact⟨⟨rfl,rfl,rfl⟩,((none,6):Option Addr×Int),rfl,a⟩
theorem P2{h:af}{pb cb cap tb:Nat}{id:Int}{ids:List Int}(p:PoolAt h pb cb cap ids)(t:TokAt h tb pb id true)(k:ids.length<cap){K:Int→af→Prop}(o:∀h',Upd (fun y=>y=cb∨y=tb) h h'→PoolAt h' pb cb cap (ids++ [id])→TokAt h' tb pb id false→K 0 h'):HC PG wM [.pointer (some ⟨pb,0,none⟩),.pointer (some ⟨tb,0,none⟩)] [.c (.int .i64)] K h:=by
 obtain⟨n,d,s,r,hc⟩:=p;have c:pb≠tb:=fun e=>by
  subst e;have:=d.symm.trans t;simp at this
 have b:cb≠tb:=fun e=>by
  subst e;have:=hc.symm.trans t;simp at this
 refine⟨fun w u=>.inl ⟨Tryz.call37 _ w,?_⟩⟩
 subst u;refine(Wb d t hc (by simpa using k) c b).mono ?_;rintro e w' ⟨rfl,m,rfl⟩;have k1:=Upd.hset (M:=(· =tb)) w.heap (a:=⟨tb,2,none⟩) (.bool false) rfl
 have f:=Upd.set (M:=(· =cb)) (hset w.heap ⟨tb,2,none⟩ (.bool false)) (.chan cap ((ids.map fun i=>Value.int .i64 i).toArray.push (.int .i64 id)) false (s+1) r false) rfl
 have q:cb<(hset w.heap ⟨tb,2,none⟩ (.bool false)).size:=aL (k1.get hc fun e=>b e)
 refine⟨⟨rfl,rfl,rfl⟩,(0:Int),rfl,o _ ((k1.mono fun y g=>.inl (.inr g)).trans f fun y g=>.inl (.inl g)) ⟨n,f.get (k1.get d fun e=>c e) (fun e=>n e),s+1,r,?_⟩ (f.get ?_ (fun e=>b e.symm))⟩
 ·show((hset w.heap ⟨tb,2,none⟩ (.bool false)).setIfInBounds cb _)[cb]? =_
  rw[cZ,if_pos rfl,if_pos q];simp
 ·have j:w.heap[tb]? =some (.cells #[.pointer (some ⟨pb,0,none⟩),.int .i64 id,.bool true] rA (0,0)):=t
  rw[CR j,jw j];rfl
end Go.Proofs
namespace Go.Proofs
open Go Go.Lift
end Go.Proofs
namespace Go.Proofs
structure WO{α:Type}(lt:α→α→Bool):Prop where
 irr:∀a,lt a a=false
 asy:∀a b,lt a b=true→lt b a=false
 ntr:∀a b c,lt a b=false→lt b c=false→lt a c=false
section
variable {α:Type} {lt:α→α→Bool}
def Pe(lt:α→α→Bool)(x a:α):Bool:= !lt a x&& !lt x a
def Srt(lt:α→α→Bool)(l:List α):Prop:=l.Pairwise fun a b=>lt b a=false
structure Eqf(lt:α→α→Bool)(l l':List α):Prop where
 len:l'.length=l.length
 flt:∀x,l'.filter (Pe lt x)=l.filter (Pe lt x)
structure St(lt:α→α→Bool)(l l':List α):Prop where
 eqf:Eqf lt l l'
 srt:Srt lt l'
theorem Eqf.rfl(l:List α):Eqf lt l l:=⟨_root_.rfl,fun _=>_root_.rfl⟩
theorem Eqf.tr{a b c:List α}(h:Eqf lt a b)(k:Eqf lt b c):Eqf lt a c:=⟨k.len.trans h.len,fun x=>(k.flt x).trans (h.flt x)⟩
theorem Eqf.app{a b a' c:List α}(h:Eqf lt a a')(k:Eqf lt b c):Eqf lt (a++b) (a'++c):=
 ⟨by rw[ad,ad,h.len,k.len],fun x=>by rw[iE,iE,h.flt,k.flt]⟩
theorem OA(w:WO lt)(a:α):Pe lt a a=true:=by unfold Pe;rw[w.irr];rfl
theorem Eqf.mem(w:WO lt){l l':List α}(h:Eqf lt l l'){a:α}:a∈l'↔a∈l:=by
 have e:=h.flt a;constructor
 ·intro hm
  have:a∈l'.filter (Pe lt a):=eP.2 ⟨hm,OA w a⟩;rw[e]at this;exact(eP.1 this).1
 ·intro hm
  have:a∈l.filter (Pe lt a):=eP.2 ⟨hm,OA w a⟩;rw[←e]at this;exact(eP.1 this).1
theorem Yz(w:WO lt){x u v:α}(a:Pe lt x u=true)(hv:Pe lt x v=true):lt v u=false:=by
 unfold Pe at a hv;simp only[Bool.and_eq_true,Bool.not_eq_true']at a hv;exact w.ntr v x u hv.1 a.2
theorem Eqf.swap(w:WO lt){U V:List α}(h:∀u∈U,∀v∈V,lt v u=true):Eqf lt (U++V) (V++U):=by
 refine⟨by rw[ad,ad,Nat.add_comm],fun x=>?_⟩
 rw[iE,iE];cases hU:U.filter (Pe lt x)with
 |nil=>rw[bB,dE]
 |cons u us=>
  cases hV:V.filter (Pe lt x)with
  |nil=>rw[bB,dE]
  |cons v vs=>
   have d:u∈U.filter (Pe lt x):=by rw[hU];exact aC ..
   have hv:v∈V.filter (Pe lt x):=by rw[hV];exact aC ..
   have c:=eP.1 d;have a:=eP.1 hv;have b:=h u c.1 v a.1;rw[Yz w c.2 a.2]at b;cases b
theorem Srt.app{a b:List α}(h:Srt lt a)(k:Srt lt b)(c:∀x∈a,∀y∈b,lt y x=false):Srt lt (a++b):=cE.2 ⟨h,k,c⟩
theorem Srt.left{a b:List α}(h:Srt lt (a++b)):Srt lt a:=(cE.1 h).1
theorem Srt.right{a b:List α}(h:Srt lt (a++b)):Srt lt b:=(cE.1 h).2.1
theorem Srt.cross{a b:List α}(h:Srt lt (a++b)):∀x∈a,∀y∈b,lt y x=false:=(cE.1 h).2.2
theorem Srt.nil:Srt lt ([]:List α):=fc
theorem Srt.one(a:α):Srt lt [a]:=List.pairwise_singleton ..
theorem Vi(w:WO lt){S L G:List α}{t:α}(h:St lt S (L++G))(d:∀l∈L,lt t l=false)(b:∀g∈G,lt t g=true):St lt (S++ [t]) (L++t::G):=by
 refine⟨(h.eqf.app (Eqf.rfl [t])).tr ?_,?_⟩
 ·rw[az]
  exact(Eqf.rfl L).app (Eqf.swap w (U:=G) (V:= [t]) fun u c v hv=>by rw[au.1 hv];exact b u c)
 ·refine h.srt.left.app (bA.2 ⟨fun g f=>w.asy t g (b g f),h.srt.right⟩) fun x hx y a=>?_
  rcases aB.1 a with rfl|a
  ·exact d x hx
  ·exact h.srt.cross x hx y a
theorem LF(w:WO lt){V1 V2:List α}{u:α}(h:Srt lt (V1++V2))(b:∀v∈V1,lt v u=true)(c:∀v∈V2,lt v u=false):St lt ([u]++(V1++V2)) (V1++u::V2):=by
 refine⟨?_,?_⟩
 ·rw[←az]
  have:=(Eqf.swap w (U:= [u]) (V:=V1) fun x hx y a=>by rw[au.1 hx];exact b y a).app (Eqf.rfl V2)
  rw[az V1]at this;exact this
 ·refine h.left.app (bA.2 ⟨c,h.right⟩) fun x hx y a=>?_
  rcases aB.1 a with rfl|a
  ·exact w.asy x y (b x hx)
  ·exact h.cross x hx y a
theorem Nl(w:WO lt){U1 U2:List α}{v:α}(h:Srt lt (U1++U2))(b:∀u∈U1,lt v u=false)(a:∀u∈U2,lt v u=true):St lt ((U1++U2)++ [v]) (U1++v::U2):=
 Vi w ⟨Eqf.rfl _,h⟩ b a
theorem Td(w:WO lt){U1 U2 V1 V2 b R2:List α}(d:Srt lt (U1++U2))(g:Srt lt (V1++V2))(c:∀v∈V1,∀u∈U2,lt v u=true)(i:∀u∈U1,∀v∈V2,lt v u=false)(s1:St lt (U1++V1) b)(s2:St lt (U2++V2) R2):St lt ((U1++U2)++(V1++V2)) (b++R2):=by
 refine⟨?_,s1.srt.app s2.srt fun x hx y a=>?_⟩
 ·have e:Eqf lt ((U1++U2)++(V1++V2)) ((U1++V1)++(U2++V2)):=by
   have:=((Eqf.rfl U1).app (Eqf.swap w (U:=U2) (V:=V1) fun u f v hv=>c v hv u f)).app (Eqf.rfl (lt:=lt) V2)
   simp only[az]at this⊢;exact this
  exact e.tr (s1.eqf.app s2.eqf)
 ·rcases bM.1 ((s1.eqf.mem w).1 hx)with hx|hx<;>rcases bM.1 ((s2.eqf.mem w).1 a)with a|a
  ·exact d.cross x hx y a
  ·exact i x hx y a
  ·exact w.asy x y (c x hx y a)
  ·exact g.cross x hx y a
inductive Runs(lt:α→α→Bool)(bs:Nat):List α→Prop where
 |last (l:List α):l.length≤bs→Srt lt l→Runs lt bs l
 |more (b l:List α):b.length=bs→Srt lt b→Runs lt bs l→Runs lt bs (b++l)
theorem Runs.split{a:Nat}{l:List α}(h:Runs lt a l)(c:a≤l.length):∃b r,l=b++r∧b.length=a∧Srt lt b∧Runs lt a r:=by
 cases h with
 |last _ h1 h2=>exact⟨l,[],(bB l).symm,by omega,h2,.last _ (bj _) Srt.nil⟩
 |more b r h1 h2 h3=>exact⟨b,r,_root_.rfl,h1,h2,h3⟩
theorem Runs.short{a:Nat}{l:List α}(h:Runs lt a l)(c:l.length≤a):Srt lt l:=by
 cases h with
 |last _ h1 h2=>exact h2
 |more b r h1 h2 h3=>
  rw[ad]at c;have:r= []:=List.length_eq_zero_iff.1 (by omega);rw[this,bB];exact h2
def Full(lt:α→α→Bool)(a:Nat)(d:List α):Prop:=∀z,Runs lt a z→Runs lt a (d++z)
theorem Full.nil{a:Nat}:Full lt a ([]:List α):=fun _ h=>h
theorem Full.app{a:Nat}{d b:List α}(h:Full lt a d)(c:b.length=a)(f:Srt lt b):Full lt a (d++b):=fun z hz=>by
 rw[az];exact h _ (.more b z c f hz)
end
end Go.Proofs
namespace Go.Proofs
open Go Go.Lift
theorem J0{W:Nat→Prop}{x:Hs}{h:af}{b:Nat}{l:List Pr}(t:TrieAt W x h 13 b l){K:Option Addr→af→Prop}(c:∀a,Upd No h a→K (some ⟨b,0,none⟩) a):HC PG mK [Jb (0,x.k0,x.k1,x.mask,some ⟨b,0,none⟩,none)] [.c .ptr] K h:=by
 refine Dd (0,x.k0,x.k1,x.mask,some ⟨b,0,none⟩,none) ?_;unfold vx bD aQ rF;refine aN fun f b1 k1=>?_
 refine Join.intro (fun t a=>t=false∧a=f) (fun R d=>⟨_,vc b1 0,aA.2 ⟨_,vc b1 4,d _ _ ⟨rfl,rfl⟩⟩⟩) ?_
 rintro t a ⟨rfl,rfl⟩;exact aj.2 ⟨_,vc b1 4,c a k1⟩
def La(a:Int)(x:Hs)(l:List Pr)(xs:List UInt8):Prop:=(a=0∧xs=0::fW x 13 l)∨(a=1∧∃ys,QT l ys∧xs=1::ys)
theorem Ai{h a:af}{b:UInt8}(c:a[h.size]? =some (.cells #[.int .u8 (b.toNat:Int)] cK (0,0))):OwnS pW 1 cK (fun y=>h.size≤y) a ⟨some ⟨h.size,0,none⟩,1,1⟩ [b]:=⟨rfl,sO,ao _,.inr ⟨h.size,[],rfl,ao _,c,rfl⟩⟩
theorem Ta{W:Nat→Prop}{x:Hs}{h:af}{a:Int}{t:Tr}{l:List Pr}(i:TreeIs W h a x t l)(E:cA l)(q:Fit l)(A:l.length≤60000){K:SliceV→af→Prop}
  (G:∀s' n xs,La a x l xs→OwnS pW 1 cK (fun y=>h.size≤y) n s' xs→Upd No h n→K s' n):HC PG qg [Jb t] [.c .slice] K h:=by
 refine Dc t ?_;unfold vu aq bD aQ rF yM;refine aN fun o b1 k1=>?_
 have L:=k1.size;have app:∀{b:UInt8} {d g:af} {s:SliceV} {xs:List UInt8},d[o.size]? =some (.cells #[.int .u8 (b.toNat:Int)] cK (0,0))→Upd No o d→OwnS pW 1 cK (fun y=>d.size≤y) g s xs→Upd No d g→xs.length≤70000000000000→La a x l (b::xs)→
   ∃xs7,SRow g s.a (s.len*1) xs7∧AppP (some [.int .u8 0]) 1 1 cK (some (aI o)) 1 1 s.len xs7 g (fun C D=>K C D):=fun{b d g s xs} p c B j I hv=>by
  refine⟨_,(B.sl (W:=No) fun _ _ _ h=>h).srow,?_⟩
  have m:=c.tr j;have hz:=aL p;have o1:OwnS pW 1 cK (fun y=>h.size≤y) g ⟨some ⟨o.size,0,none⟩,1,1⟩ [b]:=((Ai p).upd j fun _ _ h=>h).more fun y w=>by omega
  refine AppP.own (ys:=xs) o1 B.len rfl (CD _) rfl (by omega) (by simp only[aF];omega) (by have:=m.size;omega) fun s' n u v=>?_
  exact G s' n _ hv u ((k1.tr m).trans v fun y w=>.inr w)
 rcases i with⟨rfl,b,rfl,t⟩|⟨rfl,b,rfl,t⟩
 ·refine⟨_,vc b1 0,aj.2 (aN fun d b2 c=>?_)⟩
  have c1:=c.get0 b1;refine⟨_,vc c1 0,_,vc c1 1,_,vc c1 2,_,vc c1 3,_,vc c1 4,_,vc c1 5,?_⟩;refine J0 (TrieAt.upd0 (k1.tr c) t) fun g j=>?_
  refine XP (TrieAt.upd0 ((k1.tr c).tr j) t) q A fun F H f z=>?_
  have J:=j.size;have k:=pk (x:=x) 13 q;have p:l.length*(20004+9*(13+1))≤60000*(20004+9*(13+1)):=cD _ A;exact app (b:=0) b2 c (f.more fun y w=>by omega) (j.tr z) (by omega) (.inl ⟨rfl,rfl⟩)
 ·refine⟨_,vc b1 0,aA.2 (aN fun d b2 c=>?_)⟩
  have c1:=c.get0 b1;refine⟨_,vc c1 5,?_⟩;refine NB (t.upd0 (k1.tr c)) E q A fun F H xs hv f z=>?_
  have k:=Cz hv q;have p:2*l.length*20010≤2*60000*20010:=cD _ (by omega);exact app (b:=1) b2 c f z (by omega) (.inr ⟨rfl,xs,hv,rfl⟩)
theorem U7{a:Int}{x f:Hs}(hx:a=0→x=f){l l':List Pr}{xs c:List UInt8}(hv:La a x l xs)(b:La a f l' c)(j:Fit l)(d:Fit l')(n:l.length≤60000)(i:l'.length≤60000)(m:cA l)(g:cA l'):xs=c↔l=l':=by
 rcases hv with⟨rfl,rfl⟩|⟨rfl,ys,hv,rfl⟩<;>rcases b with⟨e,rfl⟩|⟨e,k,b,rfl⟩
 ·rw[hx rfl]
  constructor
  ·intro h
   have h:fW f 13 l++ []=fW f 13 l'++ []:=by rw[(fH.inj h).2]
   exact(GY 13 j d n i m g h).1
  ·rintro rfl;rfl
 ·cases e
 ·cases e
 ·rw[fH.injEq,←XX hv b j d]
  exact⟨fun h=>h.2,fun h=>⟨rfl,h⟩⟩
theorem TreeIs.plain{W:Nat→Prop}{h:af}{f:Int}{x:Hs}{t:Tr}{l:List Pr}(i:TreeIs W h f x t l):(∀a,t.2.2.2.2.1=some a→fA h a)∧(∀a,t.2.2.2.2.2=some a→fA h a):=by
 rcases i with⟨rfl,b,rfl,t⟩|⟨rfl,b,rfl,t⟩
 ·obtain⟨s,j,_⟩:=t
  obtain⟨d,n,sp,sk,ow,g,_⟩:=j.ex;refine⟨fun a c=>?_,fun a c=>(by cases c)⟩
  cases c;exact⟨_,_,g,show 0<6 by decide⟩
 ·obtain⟨w,F,⟨val,s,ow,ks,g,_⟩,_⟩:=t.ex
  refine⟨fun a c=>(by cases c),fun a c=>?_⟩
  cases c;exact⟨_,_,g,show 0<5 by decide⟩
end Go.Proofs
namespace Go.Proofs
open Go Go.Lift
abbrev zPrL:List Value:= [.string (⟨#[]⟩:ByteArray),.string (⟨#[]⟩:ByteArray)]
theorem tf{h:af}{t:TypeId}{p:Pr}{k:af→Prop}(d:∀h',h'[h.size]? =some (.cells #[.string p.1,.string p.2] t (0,0))→Upd No h h'→k h'):
  At (hnew h [.string (⟨#[]⟩:ByteArray),.string (⟨#[]⟩:ByteArray)] t) fun b=>vo b (some (aI h)) 0 [.string p.1,.string p.2]∧At (g8 b (aI h) 0 [.string p.1,.string p.2]) k:=by
 refine aN fun g b1 k1=>?_
 exact cW (c:=zPrL) (vs:= [.string p.1,.string p.2]) b1 rfl fun f b2 a=>d f b2 (k1.own a (ao _))
theorem zu{t:TypeId}{M:Nat→Prop}{h:af}{c:SliceV}{out:List Pr}{p:Pr}{K:SliceV→af→Prop}(j:OwnS fe 2 t M h c out)(hM:∀b,h.size≤b→M b)(m:out.length+1≤1000000000)
  (g:∀s' a,OwnS fe 2 t M a s' (out++ [p])→Upd M h a→K s' a):
  ∃xs,SRow (hnew h [.string p.1,.string p.2] t) (some (aI h)) (1*2) xs∧AppP (some [.string (⟨#[]⟩:ByteArray),.string (⟨#[]⟩:ByteArray)]) 2 32 t c.a c.len c.cap 1 xs (hnew h [.string p.1,.string p.2] t) K:=by
 have k:=Upd.hnew No h [.string p.1,.string p.2] t;have i:OwnS fe 2 t (fun _=>True) (hnew h [.string p.1,.string p.2] t) ⟨some (aI h),1,1⟩ [p]:=⟨rfl,jx,ao _,.inr ⟨h.size,[],rfl,trivial,dq ..,rfl⟩⟩
 refine⟨_,(i.sl (W:=No) fun _ _ _ h=>h).srow,?_⟩
 refine AppP.own (ys:= [p]) (j.upd k fun _ _ h=>h) rfl rfl rfl rfl (by omega) (by simp only[aF];omega) (hM _ (by rw[ki];omega)) fun s' a d f=>?_
 exact g s' a d ((Upd.hnew M h _ _).tr f)
theorem HG{p:Pr}:∀{A B:List Pr},(∀r∈A,kl r.1 p.1)→iV p (A++B)=A++iV p B
 | [],_,_=>rfl
 |r::A,B,h=>by
  rw[dB,iv,if_pos (h r (aC ..)),HG fun q a=>h q (List.mem_cons_of_mem _ a)];rfl
theorem N9{p q:Pr}:∀{A:List Pr},(∃r∈A,kl p.1 r.1)→iV p (A++ [q])=iV p A++ [q]
 | [],h=>by obtain⟨r,f,_⟩:=h;simp at f
 |r::A,h=>by
  rw[dB,iv,iv];by_cases b:kl r.1 p.1
  ·rw[if_pos b,if_pos b,N9]
   ·rfl
   ·obtain⟨g,a,d⟩:=h
    rcases aB.1 a with rfl|a
    ·exact absurd (jo b d) (cM _)
    ·exact⟨g,a,d⟩
  ·rw[if_neg b,if_neg b]
   by_cases c:r.1=p.1
   ·rw[if_pos c,if_pos c];rfl
   ·rw[if_neg c,if_neg c];rfl
theorem N7{p:Pr}:∀{l:List Pr},(∀q∈l,kl p.1 q.1)→iV p l=p::l
 | [],_=>rfl
 |q::l,h=>by
  have a:=h q (aC ..);rw[iv,if_neg fun b=>cM _ (jo a b),if_neg fun e=>by rw[e]at a;exact cM _ a]
theorem KL{p:Pr}:∀{l:List Pr},cA l→iV p (l.filter fun q=>decide (q.1≠p.1))=iV p l
 | [],_=>rfl
 |r::l,b=>by
  have b:=bA.1 b;have keep:∀{l:List Pr},(∀q∈l,kl p.1 q.1)→(l.filter fun q=>decide (q.1≠p.1))=l:=fun{l} h=>List.filter_eq_self.2 fun q c=>decide_eq_true fun e=>by have:=h q c;rw[e]at this;exact cM _ this
  rw[List.filter_cons,iv];by_cases e:r.1=p.1
  ·have d:∀q∈l,kl p.1 q.1:=fun q c=>by rw[←e];exact b.1 q c
   rw[if_neg (by simp[e]),if_neg (by rw[e];exact cM _),if_pos e,keep d,N7 d]
  ·rw[if_pos (by simpa using e),iv]
   by_cases a:kl r.1 p.1
   ·rw[if_pos a,if_pos a,KL b.2]
   ·rw[if_neg a,if_neg a,if_neg e,if_neg e]
    have f:=sH a e;rw[keep fun q c=>jo f (b.1 q c)]
theorem Bb{i n:Nat}(h:i<n)(a:n≤9223372036854775807):IntKind.wrap .i64 ((i:Int)+1)=((i+1:Nat):Int):=by rw[Go.IntWalk.i64_in _ (by omega)];omega
theorem KJ(p:Pr):∀{l:List Pr},(iV p l).length≤l.length+1
 | []=>ao _
 |q::l=>by
  rw[iv];split
  ·have:=KJ p (l:=l);simp only[List.length_cons];omega
  ·split<;>simp
theorem aaR{k:Int}(a:0≤k)(b:k≤255):IntKind.wrap .i64 (bE k 2)=0∨IntKind.wrap .i64 (bE k 2)=1:=by
 have:bE k 2=k%2:=Int.tmod_eq_emod_of_nonneg a;rw[this,jj (by omega)];omega
end Go.Proofs
