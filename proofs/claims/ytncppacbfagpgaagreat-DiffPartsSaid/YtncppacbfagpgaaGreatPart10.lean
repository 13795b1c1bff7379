/- A part of the proof that the named laws of this program answer true, whatever the input. -/
import Derived.Test.YtncppacbfagpgaaGreatPart9
import Derived.Test.YtncppacbfagpgaaGreatPart1
import Derived.Test.YtncppacbfagpgaaGreatPart6
open ByteArray renaming mk→lM
open Int renaming toNat_natCast→aS
open List renaming take_of_length_le→aW,length_drop→aN,length_append→ac,length_take→aI,any_eq_true→bT,mem_singleton→aC,append_cancel_left→dW,getElem_mem→bJ,mem_append→bd,getElem_of_mem→aU,getElem_take→j5,mem_of_getElem→oo,drop_left→fS,pairwise_iff_getElem→bP,getElem?_eq_getElem→ai,find?_cons→oY,mem_cons_self→ar,mem_cons_of_mem→aD,pairwise_cons→aA,singleton_append→qw,take_succ_eq_append_getElem→bh,take_length→bV,pairwise_singleton→bU,take_take→gu
open Nat renaming le_trans→aZ,zero_le→be,le_refl→aq,one_pos→nb,lt_of_lt_of_le→ay,lt_trichotomy→mD,lt_or_ge→bX,lt_irrefl→l6,min_eq_right→gd,min_eq_left→bo
namespace Go.Proofs
open Go Go.Lift
theorem LT{h:af}{s:SliceV}{l:List Pr}(hs:Sl eh 2 No h s l)(hc:s.len≤s.cap)(hr:bD l)(hn:l.length≤1000000000)(k:ByteArray)
  {K:SliceV→af→Prop}(hk:∀s' h',OwnS eh 2 al (fun b=>h.size≤b) h' s' (mE k l)→Upd No h h'→K s' h'):HC PG xJ [.slice s.a s.len s.cap,.string k] [.c .slice] K h:=by
 refine MP s k ?_;unfold Ep;have hlen:=hs.len;refine Kf hs hr hn k fun h2 hu2=>?_
 have hp:=SI l k;cases ht:cf l k with
 |false=>
  refine au.2 (vo (hs.upd hu2 fun _ h=>h.elim) (by omega) fun s3 h3 ho3 hu3=>?_)
  rw[xT (AD ht)]at hk;exact hk _ _ (ho3.more fun b hb=>aZ hu2.size hb) (hu2.tr hu3)
 |true=>
  obtain⟨hlt,_⟩:=JR hr ht;have ew:IntKind.wrap .i64 ((o8 l k:Int)+1)=((o8 l k+1:Nat):Int):=by rw[cS (by omega)];omega
  refine ak.2 ?_;simp only;rw[ew];refine⟨by omega,by omega,?_⟩
  simp only[Bd,aS];refine bi ?_;have hs2:=hs.upd hu2 fun _ h=>h.elim
  have k4:=Upd.hnew No h2 [.slice (aM s.a 0 s.cap 2) (o8 l k-0) (s.cap-0),.slice (aM s.a (o8 l k+1) s.cap 2) (s.len-(o8 l k+1)) (s.cap-(o8 l k+1))] cj;have b4:=bR h2 [.slice (aM s.a 0 s.cap 2) (o8 l k-0) (s.cap-0),.slice (aM s.a (o8 l k+1) s.cap 2) (s.len-(o8 l k+1)) (s.cap-(o8 l k+1))] cj;have hA:=JG hs2 (i:=0) (j:=o8 l k) (m:=s.cap) (be _) hp (by omega) (s.cap-0)
  have hC:=JG hs2 (i:=o8 l k+1) (j:=l.length) (m:=s.cap) (by omega) (aq _) (by omega) (s.cap-(o8 l k+1));rw[←hlen]at hC;rw[List.drop_zero]at hA;rw[aW (by rw[aN];omega)]at hC;have e0:mE k l= [l.take (o8 l k-0),l.drop (o8 l k+1)].flatten:=by rw[←P9 k hr];unfold Q7;rw[if_pos ht];simp
  refine Jf (s:=⟨some (ag h2),2,2⟩) (vs:= [⟨aM s.a 0 s.cap 2,o8 l k-0,s.cap-0⟩,⟨aM s.a (o8 l k+1) s.cap 2,s.len-(o8 l k+1),s.cap-(o8 l k+1)⟩]) (ls:= [l.take (o8 l k-0),l.drop (o8 l k+1)])
   ⟨rfl,fun x=>⟨rfl,nb⟩,fun _=>⟨_,rfl,fun h=>h.elim,pL b4 fun i v hv=>by simpa[V8]using hv⟩⟩ ⟨hA.upd k4 fun _ h=>h.elim,hC.upd k4 fun _ h=>h.elim,trivial⟩ ?_ (by simp) fun s5 h5 ho5 hu5=>?_
  ·simp only[List.flatten_cons,List.flatten_nil,ac,aI,aN,List.length_nil];omega
  ·rw[←e0]at ho5
   have hu:=hu2.tr k4;exact hk _ _ (ho5.more fun b hb=>aZ hu.size hb) (hu.tr hu5)
theorem Tm{W:Nat→Prop}{h:af}{b:Nat}{l:List Pr}(bk:BuckAt W h b l)(hW:∀x,W x→x<h.size)(hr:bD l)(hn:l.length≤1000000000)(k:ByteArray){K:Option Addr→af→Prop}
  (hk:∀h' b',BuckAt W h' b' (mE k l)→Upd No h h'→K (some ⟨b',0,none⟩) h'):
  HC PG qJ [.pointer (some ⟨b,0,none⟩),.pointer none,.string k] [.c .ptr] K h:=by
 refine Dm _ none k ?_;unfold vI ae;obtain⟨sp,sk,ow,hb,hsp,hsk,hcp,hck⟩:=bk.ex;refine gI hb (ak.2 ?_);refine PU bk hn fun h2 s2 t2 b2 hA hB hu2=>?_
 refine⟨_,rfl,s2,eA (i:=2) b2,?_⟩;refine LT (hA.sl fun _ _ _ h=>h) hA.cap hr hn k fun s3 h3 ho3 hu3=>?_
 have b3:=hu3.get0 b2;refine⟨_,rfl,TI (i:=2) b3 (show 2<6 by decide),Ho (i:=2) (c':=fa 0 0 s3 t2 true none) b3 rfl fun h4 b4 hu4=>?_⟩
 have z2:=bF b2;have ho4:=ho3.upd hu4 fun x hx e=>by have e:x=h.size:=e;omega
 have hB4:=(hB.upd hu3 fun _ _ h=>h).upd hu4 fun x hx e=>by have e:x=h.size:=e;omega
 refine hk h4 h.size ⟨⟨s3,t2,none,b4,ho4.sl fun x hx _ hw=>?_,hB4.sl fun x hx _ hw=>?_,ho3.cap,hB.cap⟩,fun hw=>?_⟩ ((hu2.tr hu3).trans hu4 fun x hx=>.inr ?_)
 ·have:=hW x hw;have:=hu2.size;omega
 ·have:=hW x hw;omega
 ·have:=hW _ hw;omega
 ·have hx:x=h.size:=hx
  omega
theorem ME{W:Nat→Prop}{x:Hs}:∀(m:Nat),m≤13→∀{b:Nat} {l:List Pr} (k:ByteArray) {h:af},TrieAt W x h m b l→(∀y,W y→y<h.size)→bD l→l.length≤1000000→∀{K:(Option Addr)×Bool→af→Prop},
  (∀h' b',Upd No h h'→TrieAt W x h' m b' (mE k l)→(cf l k=false→b'=b)→K (some ⟨b',0,none⟩,cf l k) h')→
  HC PG mA [RM x k,.pointer (some ⟨b,0,none⟩),.int .i64 ((13-m:Nat):Int)] [.c .ptr,.c .bool] K h:=by
 intro m;induction m with
 |zero=>
  intro _ b l k h t hW hr hn K hk;have gW:∀{h'},Upd No h h'→∀y,W y→y<h'.size:=fun k y hy=>ay (hW y hy) k.size
  refine ui (x.k0,x.k1,x.mask,none,k,d9 x k) (some ⟨b,0,none⟩) ((13-0:Nat):Int) ?_;unfold qc ae;refine bm fun h1 b1 k1=>?_
  have bk:BuckAt W h1 b l:=BuckAt.upd t k1 fun _ h=>h.elim
  obtain⟨sp,sk,ow,hb,_⟩:=bk.ex;refine gI hb (au.2 ⟨_,vc b1 4,UT bk hr (by omega) k fun h3 v hu3 hv=>?_⟩)
  have b3:=hu3.get0 b1;cases ht:cf l k with
  |false=>
   rw[ht]at hk;exact au.2 (hk h3 b (k1.tr hu3) (by rw[xT (AD ht)];exact bk.upd hu3 fun _ h=>h.elim) fun _=>rfl)
  |true=>
   rw[ht]at hk;refine ak.2 ⟨none,vc b3 3,_,vc b3 4,?_⟩;refine Tm (bk.upd hu3 fun _ h=>h.elim) (gW (k1.tr hu3)) hr (by omega) k fun h5 b5 bk5 hu5=>?_
   exact hk h5 b5 ((k1.tr hu3).tr hu5) bk5 fun h=>by cases h
 |succ m ih=>
  intro hm b l k h t hW hr hn K hk;have gW:∀{h'},Upd No h h'→∀y,W y→y<h'.size:=fun k y hy=>ay (hW y hy) k.size
  have hl:13-(m+1)<13:=by omega
  have hlev:13-(m+1)=12-m:=by omega
  refine ui (x.k0,x.k1,x.mask,none,k,d9 x k) (some ⟨b,0,none⟩) ((13-(m+1):Nat):Int) ?_;unfold qc ae;refine bm fun h1 b1 k1=>?_
  have t1:=TrieAt.upd0 k1 t;obtain⟨s,nd1,hs⟩:=t1;have hs:∀c,c<32→SlotIs W x h1 m s c (part x (12-m) c l):=hs;obtain⟨d,n,sp,sk,ow,hb,_⟩:=nd1.ex;refine gI hb (ak.2 ⟨_,vc b1 5,Rc hl ?_⟩);rw[hlev];have hi:=xU x (12-m) k;have hsi:=hs _ hi;have htp:cf (part x (12-m) (ck x (12-m) k) l) k=cf l k:=Fy;have hrp:bD (part x (12-m) (ck x (12-m) k) l):=iS hr;have hnp:(part x (12-m) (ck x (12-m) k) l).length≤1000000:=aZ mT hn
  have hturn:∀{h':af} {b':Nat} {s':Slots},Upd No h1 h'→NodeAt W h' b' s'→(∀c,c≠ck x (12-m) k→s'.p c=s.p c∧s'.k c=s.k c)→SlotIs W x h' m s' (ck x (12-m) k) (mE k (part x (12-m) (ck x (12-m) k) l))→TrieAt W x h' (m+1) b' (mE k l):=fun hu nd hp hi=>Nv hu nd hs hp hi
  have tt:∀{h':af},Upd No h1 h'→TrieAt W x h' (m+1) b l:=fun hu=>TrieAt.upd0 (k1.tr hu) t
  generalize hc:ck x (12-m) k=c at*;generalize hlc:part x (12-m) c l=lc at*;refine AP nd1 hi fun h3 hu3=>?_
  refine bm fun h4 b4 k4=>?_
  have b4':h4[h3.size]? =some (.cells #[.string Nk.1,.string Nk.2] al (0,0)):=b4;refine D1 (p:=SW (s.p c)) b4' fun h5 b5 hu5=>?_
  have hu15:Upd No h1 h5:=(hu3.tr k4).own hu5 hu3.size;have c1:=hu15.get0 b1;have nd5:=nd1.upd hu15 fun _ h=>h.elim
  have same:∀{h':af},Upd No h1 h'→cf l k=false→K (some ⟨b,0,none⟩,false) h':=fun hu ht=>by
   have:=hk _ b (k1.tr hu) (by rw[xT (AD ht)];exact tt hu) fun _=>rfl
   rw[ht]at this;exact this
  cases hsp:s.p c with
  |some y=>
   rw[hsp]at b5;obtain⟨hone,hk0⟩:lc= [y]∧s.k c=none:=by
    rcases hsi with⟨_,h2,_⟩|⟨q,h1,h2,h3⟩|⟨_,h2,_⟩
    ·rw[hsp]at h2;cases h2
    ·rw[hsp]at h2;cases h2;exact⟨h1,h3⟩
    ·rw[hsp]at h2;cases h2
   refine au.2 ⟨y.1,vc b5 0,k,vc c1 4,?_⟩;rw[dG];by_cases e1:y.1=k
   ·have ht:cf l k=true:=by rw[←htp,hone];exact bT.2 ⟨y,aC.2 rfl,decide_eq_true e1⟩
    rw[decide_eq_true e1];rw[ht]at hk;refine ak.2 ⟨none,vc c1 3,Te nd5 (gW (k1.tr hu15)) hi fun h6 b6 nd6 hu6=>?_⟩
    refine hk h6 b6 ((k1.tr hu15).tr hu6) (hturn (hu15.tr hu6) nd6 (fun c' hc'=>⟨fg hc',fg hc'⟩) ?_) fun h=>by cases h
    refine .inl ⟨?_,fK,fK⟩;rw[hone,vm,if_pos e1];rfl
   ·rw[decide_eq_false e1]
    have ht:cf l k=false:=by
     rw[←htp,hone];unfold cf;rw[List.any_cons,decide_eq_false e1];rfl
    exact au.2 (same hu15 ht)
  |none=>
   refine ak.2 (vZ nd5 hi ?_);cases hsk:s.k c with
   |none=>
    have hlc0:lc= []:=by
     rcases hsi with⟨h1,_⟩|⟨q,_,h2,_⟩|⟨_,_,kb,h2,_⟩
     ·exact h1
     ·rw[hsp]at h2;cases h2
     ·rw[hsk]at h2;cases h2
    exact au.2 (same hu15 (by rw[←htp,hlc0];rfl))
   |some kp=>
    obtain⟨h2l,kb,rfl,tk⟩:2≤lc.length∧∃kb,kp=some ⟨kb,0,none⟩∧TrieAt W x h1 m kb lc:=by
     rcases hsi with⟨_,_,h2⟩|⟨q,_,h2,_⟩|⟨h1,_,kb,h2,h3⟩
     ·rw[hsk]at h2;cases h2
     ·rw[hsp]at h2;cases h2
     ·rw[hsk]at h2;cases h2;exact⟨h1,kb,rfl,h3⟩
    refine ak.2 ⟨_,vc c1 0,_,vc c1 1,_,vc c1 2,_,vc c1 3,_,vc c1 4,_,vc c1 5,?_⟩;have ew:IntKind.wrap .i64 (((12-m:Nat):Int)+1)=((13-m:Nat):Int):=by rw[cS (by omega)];omega
    rw[ew];refine ih (by omega) k (TrieAt.upd0 hu15 tk) (gW (k1.tr hu15)) hrp hnp fun h6 b6 hu6 t6 hsame=>?_
    have hu16:=hu15.tr hu6;rw[htp];cases ht:cf l k with
    |false=>exact au.2 (same hu16 ht)
    |true=>
     rw[ht]at hk;have hdl:=P8 (k:=k) hrp;have hdn:(mE k lc).length≤1000000:=aZ OG hnp;refine ak.2 (Ty t6 hdn fun h7 p hu7 hp=>?_)
     refine bm fun h8 b8 k8=>?_
     have b8':h8[h7.size]? =some (.cells #[.string Nk.1,.string Nk.2] al (0,0)):=b8;refine D1 (p:=p) b8' fun h9 b9 hu9=>?_
     have hu19:Upd No h1 h9:=((hu16.tr hu7).tr k8).own hu9 (hu16.tr hu7).size;have c9:=hu19.get0 b1;have nd9:=nd1.upd hu19 fun _ h=>h.elim
     refine ax (fun e=>?_) fun e=>?_
     ·refine⟨none,vc c9 3,p.1,vc b9 0,p.2,vc b9 1,qB nd9 (gW (k1.tr hu19)) hi (fun y hy=>by rw[hsp]at hy;cases hy) p fun h10 b10 nd10 hu10=>?_⟩
      refine hk h10 b10 ((k1.tr hu19).tr hu10) (hturn (hu19.tr hu10) nd10 (fun c' hc'=>⟨fg hc',fg hc'⟩) ?_) fun h=>by cases h
      exact .inr (.inl ⟨p,hp e,fK,fK⟩)
     ·refine⟨none,vc c9 3,u0 nd9 (gW (k1.tr hu19)) hi (fun _ _=>hsp) ⟨b6,0,none⟩ fun h10 b10 nd10 hu10=>?_⟩
      refine hk h10 b10 ((k1.tr hu19).tr hu10) (hturn (hu19.tr hu10) nd10 (fun c' hc'=>⟨fg hc',fg hc'⟩) ?_) fun h=>by cases h
      exact .inr (.inr ⟨by omega,fK,b6,fK,TrieAt.upd0 ((hu7.tr k8).own hu9 hu7.size|>.tr hu10) t6⟩)
theorem Kq{W:Nat→Prop}{x:Hs}{h:af}{b:Nat}{l:List Pr}(t:TrieAt W x h 13 b l)(hW:∀y,W y→y<h.size)(hr:bD l)(hn:l.length≤1000000)(k:ByteArray){K:Option Addr×Bool→af→Prop}
  (hk:∀h' b',Upd No h h'→TrieAt W x h' 13 b' (mE k l)→(cf l k=false→b'=b)→K (some ⟨b',0,none⟩,cf l k) h'):
  HC PG wD [.agg #[.int .u64 x.k0,.int .u64 x.k1,.int .u64 x.mask],.pointer none,.pointer (some ⟨b,0,none⟩),.string k] [.c .ptr,.c .bool] K h:=by
 refine KJ (x.k0,x.k1,x.mask) none (some ⟨b,0,none⟩) k ?_;unfold BV ae;refine bm fun h1 b1 k1=>?_
 refine JE (.inr ⟨b,rfl,TrieAt.upd0 k1 t⟩) (fun y hy=>ay (hW y hy) k1.size) fun h2 b2 t2 hu2 hb2=>?_
 have c2:=hu2.get0 b1;refine⟨_,vc c2 0,_,vc c2 1,_,vc c2 2,_,vc c2 0,_,vc c2 1,_,vc c2 2,?_⟩;refine yy fun h3 hu3=>?_
 have c3:=hu3.get0 c2;refine⟨⟨vc c3 0,vc c3 1,vc c3 2⟩,?_⟩;have hu03:=(k1.tr hu2).tr hu3;refine ME 13 (aq _) k (TrieAt.upd0 hu3 t2) (fun y hy=>ay (hW y hy) hu03.size) hr hn fun h4 b4 hu4 t4 hs4=>?_
 refine hk h4 b4 (hu03.tr hu4) t4 fun ht=>?_
 rw[hs4 ht];rcases hb2 with e|e
 ·cases e;rfl
 ·cases e
end Go.Proofs
namespace Go.Proofs
def uE(P P':List UInt8→ByteArray→Prop)(k:List UInt8):Prop:=∀k' v',P' k' v'↔k'≠k∧P k' v'
theorem OA{P:List UInt8→ByteArray→Prop}{k:List UInt8}(h:∀v,¬P k v):uE P P k:=fun k' v'=>⟨fun hp=>⟨fun e=>h v' (e▸hp),hp⟩,fun h=>h.2⟩
theorem Oz{w:Option ByteArray}{F:Fo}(h:fz F):uE (rL w F) (rL none F) []:=by
 intro k' v';unfold rL;constructor
 ·rintro(⟨_,f⟩|hi)
  ·cases f
  ·exact⟨pd h hi,.inr hi⟩
 ·rintro⟨e,⟨f,_⟩|hi⟩
  ·exact absurd f e
  ·exact .inr hi
theorem Gm{w:Option ByteArray}{F F':Fo}{k:List UInt8}(hk:k≠[])(h:uE (qu F) (qu F') k):uE (rL w F) (rL w F') k:=by
 intro k' v';unfold rL;rw[h k' v'];constructor
 ·rintro(⟨e,f⟩|hi)
  ·exact⟨fun e'=>hk (e'.symm.trans e),.inl ⟨e,f⟩⟩
  ·exact⟨hi.1,.inr hi.2⟩
 ·rintro⟨e,hi|hi⟩
  ·exact .inl hi
  ·exact .inr ⟨e,hi⟩
theorem OB{lab r:List UInt8}{w w':Option ByteArray}{F F':Fo}(h:uE (rL w F) (rL w' F') r):uE (tg (lab,w,F)) (tg (lab,w',F')) (lab++r):=by
 intro k' v';constructor
 ·rintro⟨s,e,hs⟩
  obtain⟨h1,h2⟩:=(h s v').1 hs;exact⟨fun e'=>h1 (dW (e.symm.trans e')),s,e,h2⟩
 ·rintro⟨h1,s,e,hs⟩
  exact⟨s,e,(h s v').2 ⟨fun e'=>h1 (by rw[e,e']),hs⟩⟩
theorem Q3{F:Fo}{i:Nat}{m:Bn}{k:List UInt8}(h:fz F)(hi:i<F.toL.length)(ek:hd F.toL[i].1=hd k)(hp:uE (tg F.toL[i]) (tg m) k):uE (qu F) (qu (.ofL (F.toL.set i m))) k:=by
 intro k' v';have hc:=dU.1 h;rw[fD,fD,Fo.to_of];constructor
 ·rintro⟨n,hn,hr⟩
  rcases(mU hi (vX h hi)).1 hn with rfl|⟨hn,hne⟩
  ·obtain⟨h1,h2⟩:=(hp k' v').1 hr
   exact⟨h1,_,bJ hi,h2⟩
  ·refine⟨fun e=>hne ?_,n,hn,hr⟩
   obtain⟨r,e',_⟩:=hr;refine wH h hn (bJ hi) ?_;rw[ek,←e,e',nX (hc.2 n hn).1]
 ·rintro⟨h1,n,hn,hr⟩
  by_cases e:n=F.toL[i]
  ·exact⟨m,(mU hi (vX h hi)).2 (.inl rfl),(hp k' v').2 ⟨h1,by rw[←e];exact hr⟩⟩
  ·exact⟨n,(mU hi (vX h hi)).2 (.inr ⟨hn,e⟩),hr⟩
theorem D6{α:Type}{l:List α}{i:Nat}(hi:i<l.length){x:α}(nd:∀j (hj:j<l.length),j≠i→l[j]≠l[i]):x∈l.take i++l.drop (i+1)↔x∈l∧x≠l[i]:=by
 constructor
 ·intro h
  rcases bd.1 h with h|h
  ·obtain⟨j,hj,e⟩:=aU h
   rw[aI]at hj;rw[j5]at e;exact⟨List.mem_of_mem_take h,by rw[←e];exact nd j (by omega) (by omega)⟩
  ·obtain⟨j,hj,e⟩:=aU h
   rw[aN]at hj;rw[List.getElem_drop]at e;exact⟨List.mem_of_mem_drop h,by rw[←e];exact nd (i+1+j) (by omega) (by omega)⟩
 ·rintro⟨h,hne⟩
  obtain⟨j,hj,e⟩:=aU h;rcases mD j i with hl|hl|hl
  ·exact bd.2 (.inl (oo (i:=j) (h:=by rw[aI];omega) (by rw[j5];exact e)))
  ·subst hl;exact absurd e.symm hne
  ·refine bd.2 (.inr (oo (i:=j-(i+1)) (h:=by rw[aN];omega) ?_))
   rw[List.getElem_drop];have:i+1+(j-(i+1))=j:=by omega
   simp only[this];exact e
theorem Uz{F:Fo}{i:Nat}(h:fz F):fz (.ofL (F.toL.take i++F.toL.drop (i+1))):=by
 have hc:=dU.1 h;rw[dU,Fo.to_of];have hs:(F.toL.take i++F.toL.drop (i+1)).Sublist F.toL:=by rw[←List.eraseIdx_eq_take_drop_succ];exact List.eraseIdx_sublist ..
 exact⟨hc.1.sublist hs,fun n hn=>hc.2 n (hs.subset hn)⟩
theorem Q5{F:Fo}{i:Nat}{k:List UInt8}(h:fz F)(hi:i<F.toL.length)(ek:hd F.toL[i].1=hd k)(hp:∀k' v',tg F.toL[i] k' v'→k'=k):uE (qu F) (qu (.ofL (F.toL.take i++F.toL.drop (i+1)))) k:=by
 intro k' v';have hc:=dU.1 h;rw[fD,fD,Fo.to_of];constructor
 ·rintro⟨n,hn,hr⟩
  obtain⟨hn,hne⟩:=(D6 hi (vX h hi)).1 hn;refine⟨fun e=>hne ?_,n,hn,hr⟩
  obtain⟨r,e',_⟩:=hr;refine wH h hn (bJ hi) ?_;rw[ek,←e,e',nX (hc.2 n hn).1]
 ·rintro⟨h1,n,hn,hr⟩
  by_cases e:n=F.toL[i]
  ·exact absurd (hp k' v' (by rw[←e];exact hr)) h1
  ·exact⟨n,(D6 hi (vX h hi)).2 ⟨hn,e⟩,hr⟩
def UI(n:Bn)(o:Option Bn):Prop:=(o=none∧∀k v,¬tg n k v)∨∃m,o=some m∧KM m∧hd m.1=hd n.1∧∀k v,tg m k v↔tg n k v
theorem QO{lab:List UInt8}{w:Option ByteArray}{F:Fo}(hl:lab≠[])(hc:fz F)(h:w.isSome∨2≤F.toL.length):UI (lab,w,F) (some (lab,w,F)):=.inr ⟨_,rfl,⟨hl,h,hc⟩,rfl,fun _ _=>Iff.rfl⟩
theorem QP{lab:List UInt8}{F:Fo}(h:F.toL= []):UI (lab,none,F) none:=by
 refine .inl ⟨rfl,fun k v hi=>?_⟩
 obtain⟨r,_,⟨_,h'⟩|h'⟩:=hi
 ·cases h'
 ·obtain⟨n,hn,_⟩:=fD.1 h'
  simp only at hn;rw[h]at hn;cases hn
theorem SO{lab lk:List UInt8}{wk:Option ByteArray}{F Fk:Fo}(hl:lab≠[])(hc:fz F)(h:F.toL= [(lk,wk,Fk)]):UI (lab,none,F) (some (lab++lk,wk,Fk)):=by
 have eF:F=.cons lk wk Fk .nil:=by
  rw[←Fo.of_to F,h];rfl
 have hn:=(dU.1 hc).2 (lk,wk,Fk) (by rw[h];exact aC.2 rfl);refine .inr ⟨_,rfl,⟨fun e=>hl (List.append_eq_nil_iff.1 e).1,hn.2.1,hn.2.2⟩,nX hl,fun k v=>?_⟩
 have:=IT (lab:=lab++lk) (w:=wk) (F:=Fk) lab.length k v;rw[List.take_left,fS]at this;rw[eF];exact this.symm
end Go.Proofs
namespace Go.Proofs
open Go Go.Lift
theorem kG(s:ByteArray):s.data.toList.length=s.size:=by simp
theorem Ts(a b:ByteArray):(a++b).data.toList=a.data.toList++b.data.toList:=by rw[ByteArray.data_append,Array.toList_append]
theorem QJ{a b:ByteArray}{h:af}{K:Bool→af→Prop}(hk:K (decide (b.data.toList<+:a.data.toList)) h):HC PG uJ [.string a,.string b] [.c .bool] K h:=by
 refine HB a b ?_;unfold za;refine Dh a b ?_;unfold vD;refine rF a b ?_;unfold kZ;have la:=kG a;have lb:=kG b;refine ax (fun hge=>?_) fun hlt=>?_
 ·refine⟨⟨by omega,by omega⟩,?_⟩
  rw[dG,aS];have e:decide (a.extract 0 b.size=b)=decide (b.data.toList<+:a.data.toList):=by
   rw[decide_eq_decide,←qM,Gi,List.prefix_iff_eq_take,lb];exact eq_comm
  rw[e];exact hk
 ·have e:decide (b.data.toList<+:a.data.toList)=false:=decide_eq_false fun hp=>by
   have:=hp.length_le;omega
  rw[e]at hk;exact hk
theorem S9{a b:ByteArray}{h:af}{K:ByteArray×Bool→af→Prop}(h1:∀s:ByteArray,a.data.toList=b.data.toList++s.data.toList→K (s,true) h)(h2:(∀r,a.data.toList≠b.data.toList++r)→K (⟨#[]⟩,false) h):HC PG wt [.string a,.string b] [.c .str,.c .bool] K h:=by
 refine O0 a b ?_;unfold GP;refine QJ ?_;have la:=kG a;have lb:=kG b;by_cases hp:b.data.toList<+:a.data.toList
 ·rw[decide_eq_true hp]
  have hle:=hp.length_le;refine ak.2 ⟨⟨by omega,by omega⟩,?_⟩
  rw[aS];refine h1 _ ?_;rw[Gj];obtain⟨r,e⟩:=hp;rw[←e,←lb,fS]
 ·rw[decide_eq_false hp]
  exact au.2 (h2 fun r e=>hp ⟨r,e.symm⟩)
def Wd(W:Nat→Prop)(h:af)(r:Option Addr)(o:Option Bn):Prop:=(r=none∧o=none)∨∃b sl m,r=some ⟨b,0,none⟩∧o=some m∧sl.data.toList=m.1∧RxN W h b sl m.2.1 m.2.2
theorem Qv{W:Nat→Prop}{h:af}{b:Nat}{sl:ByteArray}{w:Option ByteArray}{F:Fo}(r:RxN W h b sl w F)(hW:∀y,W y→y<h.size)(hc:fz F)(hne:sl.data.toList≠[])(hs1:sl.size≤1000000)(hs2:∀k v,qu F k v→k.length≤1000000)
  {K:Option Addr→af→Prop}(hk:∀h' r o,Upd No h h'→UI (sl.data.toList,w,F) o→Wd W h' r o→K r h'):HC PG pV [.pointer (some ⟨b,0,none⟩),.pointer none] [.c .ptr] K h:=by
 refine Bv _ none ?_;unfold uo ae bS;have hr:=r;obtain⟨val,s,ow,ks,hb,hv,hs,hcap,hF⟩:=r;have hL:=ki.1 hF;have hn:=kq hc;have hlen:=hs.len;rw[hL.1]at hlen;refine Join.intro (fun t h'=>t=decide (w.isSome∨2≤F.toL.length)∧h'=h) (fun R hR=>⟨_,rfl,w.isSome,dX (i:=1) hb,?_⟩) ?_
 ·cases w with
  |some v=>exact au.2 (hR _ _ ⟨rfl,rfl⟩)
  |none=>
   refine ak.2 ⟨_,rfl,s,dX (i:=3) hb,hR _ _ ⟨?_,rfl⟩⟩;rw[decide_eq_decide];constructor
   ·intro h;exact .inr (by omega)
   ·rintro(h|h)
    ·cases h
    ·omega
 ·rintro t h' ⟨rfl,rfl⟩
  refine ax (fun h2=>?_) fun h2=>?_
  ·exact hk h' _ _ (Upd.refl _ _) (QO hne hc h2) (.inr ⟨b,sl,_,rfl,rfl,rfl,hr⟩)
  ·have hw:w=none:=by
    cases w with
    |none=>rfl
    |some v=>exact absurd (.inl rfl) h2
   subst hw;have hl2:F.toL.length<2:=by
    rcases bX F.toL.length 2 with h|h
    ·exact h
    ·exact absurd (.inr h) h2
   refine⟨_,rfl,s,dX (i:=3) hb,?_⟩;match hFL:F.toL,hl2 with
   | [],_=>
    rw[hFL]at hlen;have e:((s.len:Int)==(0:Int))=true:=by rw[beq_iff_eq,hlen];rfl
    rw[e];exact au.2 (hk h' _ _ (Upd.refl _ _) (QP hFL) (.inl ⟨rfl,rfl⟩))
   | [(lk,wk,Fk)],_=>
    rw[hFL]at hlen;have e:((s.len:Int)==(0:Int))=false:=by rw[beq_eq_false_iff_ne,hlen];simp
    rw[e];have hmem:(lk,wk,Fk)∈F.toL:=by rw[hFL];exact aC.2 rfl
    have hcm:=(dU.1 hc).2 _ hmem;have h0:0<F.toL.length:=by rw[hFL];exact nb
    obtain⟨kb,ksl,hki,hkl,hkn⟩:=hL.at h0;have e0:F.toL[0]=(lk,wk,Fk):=by simp only[hFL];rfl
    rw[e0]at hkl hkn;simp only at hkl hkn;obtain⟨a,ha,_,hvv⟩:=hs.at0 hki;obtain⟨kval,kss,kow,kks,hkb,hkv,hkss,hkcap,hkF⟩:=hkn;have hkL:=ki.1 hkF;have hkn2:=kq hcm.2.2;refine ak.2 ⟨_,rfl,s,dX (i:=3) hb,⟨by omega,by rw[hlen];simp⟩,a,ha,some ⟨kb,0,none⟩,hvv,?_⟩
    refine pK hkb hkss (by rw[hkL.1];exact hkn2) fun h1 s1 b1 ho1 hu1=>?_
    obtain⟨rr,vv,hin⟩:=mW hc _ hmem;have hbd:=hs2 (lk++rr) vv (fD.2 ⟨_,hmem,rr,rfl,hin⟩);rw[ac]at hbd;have hlkl:lk.length=ksl.size:=by rw[←hkl];exact kG ksl
    refine⟨_,rfl,sl,dX (i:=0) (hu1.get0 hb),_,rfl,ksl,dX (i:=0) b1,by omega,?_⟩
    have hbl:b<h'.size:=bF hb;refine vT b1 fun h2 b2 hu2=>?_
    have hu02:Upd No h' h2:=hu1.own hu2 (aq _);have ho2:=ho1.upd hu2 fun x hx e=>by have e:x=h'.size:=e;have:=hx.1;omega
    refine hk h2 _ _ hu02 (SO hne hc hFL) (.inr ⟨h'.size,sl++ksl,_,rfl,rfl,by rw[←hkl];exact Ts sl ksl,⟨kval,s1,none,kks,b2,hkv,ho2.sl (fun x hx _ hw=>by have:=hW _ hw;have:=hx.1;omega),⟨ho2.cap,fun hx=>l6 _ (hW _ hx)⟩,RxF.upd0 hu02 hkF⟩⟩)
set_option maxHeartbeats 1000000 in
theorem Sp{W:Nat→Prop}:∀(n:Nat) {b:Nat} {sl:ByteArray} {w:Option ByteArray} {F:Fo} {h:af} (k:ByteArray),k.size<n→RxN W h b sl w F→(∀y,W y→y<h.size)→fz F→(∀j v,qu F j v→j.length≤1000000)→∀{K:(Option Addr)×Bool→af→Prop},
  (∀h' b' w' F' gone,Upd No h h'→RxN W h' b' sl w' F'→fz F'→uE (rL w F) (rL w' F') k.data.toList→(gone=false→b'=b∧∀v,¬rL w F k.data.toList v)→(gone=true→∃v,rL w F k.data.toList v)→K (some ⟨b',0,none⟩,gone) h')→
  HC PG mw [.pointer (some ⟨b,0,none⟩),.pointer none,.string k] [.c .ptr,.c .bool] K h:=by
 intro n;induction n with
 |zero=>intro b sl w F h k hk;omega
 |succ n ih=>
  intro b sl w F h k hkn r hW hc hbd K hk;refine Bx (some ⟨b,0,none⟩) none k ?_;unfold ur ae bS;have hr:=r;obtain⟨val,s,ow,ks,hb,hv,hs,hcap,hF⟩:=r;have hL:=ki.1 hF;have hn:=kq hc;have hcan:=dU.1 hc;have stay:∀{h':af},Upd No h h'→(∀v,¬rL w F k.data.toList v)→K (some ⟨b,0,none⟩,false) h':=fun hu hno=>hk _ b w F false hu (hr.upd0 hu) hc (OA hno) (fun _=>⟨rfl,hno⟩) fun h=>by cases h
  rw[dG];refine ax (fun hk0=>?_) fun hk0=>?_
  ·have hke:k.data.toList= []:=by rw[hk0]
   rw[hke]at hk stay;refine⟨_,rfl,w.isSome,dX (i:=1) hb,?_⟩;cases hw:w with
   |none=>
    refine au.2 (stay (Upd.refl _ _) fun v hin=>?_)
    rcases hin with⟨_,h⟩|h
    ·rw[hw]at h;cases h
    ·exact absurd rfl (pd hc h)
   |some u=>
    refine ak.2 (pK hb hs (by rw[hL.1];exact hn) fun h1 s1 b1 ho1 hu1=>?_)
    refine⟨_,rfl,TH (i:=1) b1 (show 1<5 by decide),Hk (i:=1) (c':=yY sl false val s1 none) b1 rfl fun h2 b2 hu2=>?_⟩
    refine⟨_,rfl,TH (i:=2) b2 (show 2<5 by decide),Hk (i:=2) (c':=yY sl false ⟨#[]⟩ s1 none) b2 rfl fun h3 b3 hu3=>?_⟩
    have hu03:Upd No h h3:=hu1.own (hu2.tr hu3) (aq _);have ho3:=ho1.upd (hu2.tr hu3) fun x hx e=>by have e:x=h.size:=e;have:=hx.1;omega
    refine hk h3 h.size none F true hu03 ⟨⟨#[]⟩,s1,none,ks,b3,rfl,ho3.sl (fun x hx _ hw=>by have:=hW _ hw;have:=hx.1;omega),⟨ho3.cap,fun hx=>l6 _ (hW _ hx)⟩,RxF.upd0 hu03 hF⟩ hc (Oz hc) (fun h=>by cases h) fun _=>⟨u,.inl ⟨rfl,hw⟩⟩
  ·have hkne:k.data.toList≠[]:=fun e=>hk0 (by cases k;exact congrArg lM (Array.toList_inj.1 e))
   obtain⟨c0,hc0,hc0e⟩:=Kd hkne;refine⟨c0,Int.le_refl _,hc0,?_⟩;have hlk:k.data.toList.length=k.size:=kG k;refine CB hr hc (c:=c0.toNat) (UInt8.toNat_lt _) fun i ok hil hlo hhi hok=>?_
   rw[hc0e]at hlo hhi hok;cases ok with
   |false=>
    refine au.2 (stay (Upd.refl _ _) fun v hin=>?_)
    rcases hin with⟨h,_⟩|hin
    ·exact hkne h
    ·obtain⟨n',hn',e,_⟩:=qG hc hin
     obtain⟨j,hj,rfl⟩:=aU hn';rcases bX j i with hl|hl
     ·have:=hlo j hj hl;omega
     ·have h1:=hhi j hj hl
      have h2:=hhi i (by omega) (aq _);rcases bX i j with hl2|hl2
      ·have h3:=bP.1 hcan.1 i j (by omega) hj hl2
       omega
      ·have:i=j:=by omega
       subst this;have:=hok.2 ⟨hj,e⟩;cases this
   |true=>
    obtain⟨hi,hie⟩:=hok.1 rfl;refine ak.2 ⟨_,rfl,s,dX (i:=3) hb,?_⟩;obtain⟨kb,ksl,hki,hkl,hkn'⟩:=hL.at hi;have hmem:F.toL[i]∈F.toL:=bJ hi;have hcm:=hcan.2 _ hmem;obtain⟨a,ha,_,hvv⟩:=hs.at0 hki;have hslen:=hs.len;rw[hL.1]at hslen;have hlt1:(i:Int)<((s.len:Nat):Int):=by omega
    refine⟨⟨by simp only;omega,hlt1⟩,a,ha,some ⟨kb,0,none⟩,hvv,_,rfl,?_⟩;obtain⟨kval,kss,kow,kks,hkb,_⟩:=id hkn';have hin_m:∀v,qu F k.data.toList v→tg F.toL[i] k.data.toList v:=fun v hin=>by
     obtain⟨n',hn',e,hN⟩:=qG hc hin;rw[←wH hc hn' hmem (by omega)];exact hN
    have hm_in:∀j v,tg F.toL[i] j v→qu F j v:=fun j v hin=>fD.2 ⟨_,hmem,hin⟩
    have hcanset:∀{m:Bn},KM m→hd m.1=hd F.toL[i].1→fz (.ofL (F.toL.set i m)):=fun h1 h2=>Qe hc hi h1 h2
    have hdset:∀{m:Bn},uE (tg F.toL[i]) (tg m) k.data.toList→uE (qu F) (qu (.ofL (F.toL.set i m))) k.data.toList:=fun hp=>Q3 hc hi hie hp
    have hddel:(∀k' v',tg F.toL[i] k' v'→k'=k.data.toList)→uE (qu F) (qu (.ofL (F.toL.take i++F.toL.drop (i+1)))) k.data.toList:=fun hp=>Q5 hc hi hie hp
    have hrset:∀{h':af} {k':Option Addr} {m:Bn},Upd No h h'→Kid W h' k' m→RxL W h' (ks.set i k') (F.toL.set i m):=fun hu hkd=>(hL.upd0 hu).set hi hkd
    generalize F.toL[i]=m at hkl hkn' hcm hin_m hm_in hcanset hdset hddel hie;obtain⟨lab,wk,Fk⟩:=m;simp only at hkl hkn' hcm hie hcanset;refine⟨ksl,dX (i:=0) hkb,S9 (fun rest hrest=>?_) fun hno=>?_⟩
    ·rw[hkl]at hrest
     have hlne:lab.length≠0:=fun e=>hcm.1 (List.length_eq_zero_iff.1 e)
     have hrl:rest.size<k.size:=by
      rw[←kG rest,←hlk,hrest,ac];omega
     refine ak.2 ⟨_,rfl,s,dX (i:=3) hb,⟨by simp only;omega,hlt1⟩,a,ha,some ⟨kb,0,none⟩,hvv,?_⟩;have hkbd:∀j v,qu Fk j v→j.length≤1000000:=fun j v hin=>by
      have:=hbd _ v (hm_in (lab++j) v ⟨j,rfl,.inr hin⟩);rw[ac]at this;omega
     refine ih rest (by omega) hkn' hW hcm.2.2 hkbd fun h2 b2 w2 F2 gone hu2 rn2 hc2 hd2 hg0 hg1=>?_
     cases gone with
     |false=>
      refine au.2 (stay hu2 fun v hin=>?_)
      rcases hin with⟨h,_⟩|hin
      ·exact hkne h
      ·obtain⟨r',e,hr'⟩:=hin_m v hin
       simp only at e;rw[hrest]at e;exact(hg0 rfl).2 v (by rw[dW e];exact hr')
     |true=>
      obtain⟨v0,hv0⟩:=hg1 rfl;have hthere:∃v,rL w F k.data.toList v:=⟨v0,.inr (hm_in _ _ ⟨_,hrest,hv0⟩)⟩;have hdn:uE (tg (lab,wk,Fk)) (tg (lab,w2,F2)) k.data.toList:=by
       rw[hrest];exact OB hd2
      refine ak.2 (pK (hu2.get0 hb) (hs.upd hu2 fun _ h=>h.elim) (by rw[hL.1];exact hn) fun h3 s3 b3 ho3 hu3=>?_)
      have hu03:=hu2.tr hu3;obtain⟨rr,vv,hin⟩:=mW hc _ hmem;have hlb:lab.length≤1000000:=by
       have:=hbd _ v0 (hm_in _ _ ⟨_,hrest,hv0⟩);rw[hrest,ac]at this;omega
      have hb2:∀j v,qu F2 j v→j.length≤1000000:=fun j v hin=>by
       rcases((hd2 j v).1 (.inr hin)).2 with⟨e,_⟩|h
       ·rw[e];simp
       ·exact hkbd j v h
      refine Qv (W:=Pro W h2 h3) ((rn2.less Pro.hm).upd0 hu3) (Pro.lt (fun y hy=>ay (hW y hy) hu2.size) hu3) hc2 (by rw[hkl];exact hcm.1) (by rw[←kG ksl,hkl];exact hlb) hb2 fun h4 r4 o4 hu4 hm4 hr4=>?_
      rw[hkl]at hm4;have b4:=hu4.get0 b3;have ho4:=ho3.upd hu4 fun _ _ h=>h
      have hu04:=hu03.tr hu4;have hz2:h.size≤h2.size:=hu2.size;have hil:i<ks.length:=by rw[hL.1];exact hi
      have hlen4:=ho4.len;rcases hr4 with⟨rfl,rfl⟩|⟨b4',sl4,m4,rfl,rfl,hsl4,rn4⟩
      ·rcases hm4 with⟨_,hno⟩|⟨_,e,_⟩
       ·have ew:IntKind.wrap .i64 ((i:Int)+1)=((i+1:Nat):Int):=by rw[cS (by omega)];omega
        refine au.2 ⟨_,rfl,s3,dX (i:=3) b4,?_⟩;simp only;rw[ew];refine OD ho4 hil (by rw[hL.1];omega) fun s5 h5 ho5 hu5=>?_
        have b5:=hu5.get b4 fun hx=>by have:=hx.1;omega
        refine⟨_,rfl,TH (i:=3) b5 (show 3<5 by decide),Hk (i:=3) (c':=yY sl w.isSome val s5 none) b5 rfl fun h6 b6 hu6=>?_⟩
        have hu06:Upd No h h6:=(hu04.trans hu5 fun x hx=>.inr (by have:=hx.1;omega)).own hu6 hz2
        have ho6:=ho5.upd hu6 fun x hx e=>by have e:x=h2.size:=e;have:=hx.1;omega
        refine hk h6 h2.size w _ true hu06 ⟨val,s5,none,_,b6,hv,ho6.sl (fun x hx _ hw=>by have:=hW _ hw;have:=hx.1;omega),⟨ho6.cap,fun hx=>by have:=hW _ hx;omega⟩,ki.2 (by rw[Fo.to_of];exact((hL.upd0 hu06).take i).app ((hL.upd0 hu06).drop (i+1)))⟩ (Uz hc) (Gm hkne (hddel fun k' v' hN=>?_)) (fun h=>by cases h) fun _=>hthere
        refine Classical.byContradiction fun hne=>hno k' v' ((hdn k' v').2 ⟨hne,hN⟩)
       ·cases e
      ·rcases hm4 with⟨e,_⟩|⟨m',e,hcn,hhd,hiff⟩
       ·cases e
       ·cases e
        obtain⟨a3,ha3,hab,hw3,ho5,hu5⟩:=OwnS.setAt ho4 hil (some ⟨b4',0,none⟩);refine ak.2 ⟨_,rfl,s3,dX (i:=3) b4,⟨by simp only;omega,by simp only;omega⟩,a3,ha3,?_⟩
        have hw1:Wr h4 (adr a3 (i*1)):=by
         rcases hw3 with hw|⟨b',hb',hw⟩
         ·cases hw
         ·cases hb';exact hw 0 (by simp)
        refine⟨hw1,bi ?_⟩;have b5:=hu5.get b4 fun e=>by have e:h2.size=a3.block:=e;have:=hab.1;omega
        have hu45:Upd No h2 _:=(hu3.tr hu4).trans hu5 fun x hx=>.inr (by have hx:x=a3.block:=hx;have:=hab.1;omega)
        have hu05:=hu2.tr hu45;have eset:ks.set i (some ⟨b4',0,none⟩)=ks.take i++some ⟨b4',0,none⟩::ks.drop (i+1):=by rw[List.set_eq_take_append_cons_drop,if_pos hil]
        rw[←eset]at ho5;have rn5:=(rn4.updM (M:=(· =a3.block)) hu5 fun y hy=>.inl (.inr (by have hy:y=a3.block:=hy;have:=hab.1;have:=hab.2;omega))).less (W':=W) fun y hy=>.inl (.inl hy)
        exact hk _ h2.size w _ true hu05 ⟨val,s3,none,_,b5,hv,ho5.sl (fun x hx _ hw=>by have:=hW _ hw;have:=hx.1;omega),⟨ho5.cap,fun hx=>by have:=hW _ hx;omega⟩,ki.2 (by rw[Fo.to_of];exact hrset hu05 ⟨b4',sl4,rfl,hsl4,rn5⟩)⟩ (hcanset hcn hhd) (Gm hkne (hdset fun k' v'=>by rw[hiff k' v'];exact hdn k' v')) (fun h=>by cases h) fun _=>hthere
    ·rw[hkl]at hno
     refine au.2 (stay (Upd.refl _ _) fun v hin=>?_)
     rcases hin with⟨h,_⟩|hin
     ·exact hkne h
     ·obtain⟨r',e,_⟩:=hin_m v hin
      exact hno r' e
end Go.Proofs
namespace Go.Proofs
open Go Go.Lift
theorem QC{w:Option ByteArray}{F:Fo}{l:List Pr}(h:∀k v,(k,v)∈u5 w F↔∃p∈l,p.1.data.toList=k∧p.2=v)(hf:Fit l):∀j v,qu F j v→j.length≤1000000:=fun j v hi=>by
 obtain⟨p,hp,e,_⟩:=(h j v).1 (jt.2 (.inr hi));have:=(hf p hp).1;rw[←e,kG];omega
theorem JK{W:Nat→Prop}{h:af}{b:Nat}{l:List Pr}(t:RadAt W h b l)(hW:∀y,W y→y<h.size)(hf:Fit l)(k:ByteArray){K:Option Addr×Bool→af→Prop}
  (hk:∀h' b',Upd No h h'→RadAt W h' b' (mE k l)→(cf l k=false→b'=b)→K (some ⟨b',0,none⟩,cf l k) h'):
  HC PG wz [.pointer none,.pointer (some ⟨b,0,none⟩),.string k] [.c .ptr,.c .bool] K h:=by
 refine KC none (some ⟨b,0,none⟩) k ?_;unfold BO;refine Cz (.inr ⟨b,rfl,t⟩) hW fun h2 b2 t2 hu2 hb2=>?_
 have hbb:b2=b:=by
  rcases hb2 with e|e
  ·cases e;rfl
  ·cases e
 subst hbb;obtain⟨w,F,r1,r2,r3⟩:=t2.ex;refine Sp (k.size+1) k (by omega) r1 (fun y hy=>ay (hW y hy) hu2.size) r2 (QC r3 hf) fun h3 b3 w' F' gone hu3 rn3 hc3 hd3 hg0 hg1=>?_
 have hin:∀v,rL w F k.data.toList v↔(k,v)∈l:=fun v=>by
  rw[←jt,r3];constructor
  ·rintro⟨p,hp,e1,rfl⟩
   rw[←qM.1 e1];exact hp
  ·intro hp;exact⟨_,hp,rfl,rfl⟩
 have hgt:gone=cf l k:=by
  cases gone with
  |false=>
   refine(xt fun q hq e=>(hg0 rfl).2 q.2 ((hin _).2 ?_)).symm
   rw[←e];exact hq
  |true=>
   obtain⟨v,hv⟩:=hg1 rfl;exact(bT.2 ⟨_,(hin v).1 hv,decide_eq_true rfl⟩).symm
 subst hgt;refine hk h3 b3 (hu2.tr hu3) ⟨w',F',rn3,hc3,fun j v=>?_⟩ fun ht=>(hg0 ht).1
 rw[jt,hd3 j v,←jt,r3];constructor
 ·rintro⟨hne,q,hq,rfl,rfl⟩
  exact⟨q,E9.2 ⟨hq,fun e=>hne (by rw[e])⟩,rfl,rfl⟩
 ·rintro⟨q,hq,rfl,rfl⟩
  obtain⟨hq,hne⟩:=E9.1 hq;exact⟨fun e=>hne (qM.1 e),q,hq,rfl,rfl⟩
theorem DP{W:Nat→Prop}{x:Hs}{h:af}{kind:Int}{t:Tr}{l:List Pr}(i:TreeIs W h kind x t l)(hW:∀y,W y→y<h.size)(hr:bD l)(hf:Fit l)(hn:l.length≤1000000)(k:ByteArray)(hk1:k.size≤256){K:Tr×Int→af→Prop}
  (hk:∀h' t',TreeIs W h' kind x t' (mE k l)→(cf l k=false→t'=t)→Upd No h h'→K (t',if cf l k then 0 else 4) h'):HC PG kj [Fx t,.pointer none,.string k] [.agg [.int .i64,.int .u64,.int .u64,.int .u64,.ptr,.ptr],.c (.int .i64)] K h:=by
 refine yF t none k ?_;unfold sd ae;refine bm fun h1 b1 k1=>bm fun h2 b2 k2=>?_
 have z1:=bF b1;have z2:=bF b2;have s1:h.size≤h1.size:=k1.size;have k02:=k1.tr k2;refine vd (v:=⟨#[]⟩) hk1 (be 4096) (ak.2 ?_);have c1:=k2.get0 b1;refine⟨_,vc c1 0,_,vc c1 1,_,vc c1 2,_,vc c1 3,_,vc c1 4,_,vc c1 5,?_⟩;refine bm fun h3 b3 k3=>?_
 have z3:=bF b3;have s2:h1.size≤h2.size:=k2.size;refine cR (c:=le EC) (vs:=le t) b3 rfl fun h4 b4 hu4=>?_
 have k04:Upd No h h4:=(k02.tr k3).own hu4 (by omega);have k24:Upd No h2 h4:=k3.own hu4 (aq _);have s4:h3.size≤h4.size:=hu4.size;have c4:=k24.get0 c1;have d4:=k24.get0 b2;have i4:=i.pro k04;have hW4:=Pro.lt hW k04;have fin:∀{h6:af} {t':Tr},Upd No h h6→h6[h.size]? =some (.cells (le t').toArray aV (0,0))→h6[h1.size]? =some (.cells (le EC).toArray aV (0,0))→h6[h2.size]? =some (.cells (le t).toArray aV (0,0))→TreeIs (Pro W h h4) h6 kind x t' (mE k l)→(cf l k=false→t'=t)→
   CondP (!cf l k) (∃v41:Int,aL h6 (adr (ag h2) 0)=some (.int .i64 v41)∧
    ∃v42:Int,aL h6 (adr (ag h2) 1)=some (.int .u64 v42)∧
    ∃v43:Int,aL h6 (adr (ag h2) 2)=some (.int .u64 v43)∧
    ∃v44:Int,aL h6 (adr (ag h2) 3)=some (.int .u64 v44)∧
    ∃v45:Option Addr,aL h6 (adr (ag h2) 4)=some (.pointer v45)∧
    ∃v46:Option Addr,aL h6 (adr (ag h2) 5)=some (.pointer v46)∧
    (dq h6 (some (ag h1)) 0 [.int .i64 v41,.int .u64 v42,.int .u64 v43,.int .u64 v44,.pointer v45,.pointer v46]∧
     At (aX h6 (ag h1) 0 [.int .i64 v41,.int .u64 v42,.int .u64 v43,.int .u64 v44,.pointer v45,.pointer v46]) (fun h47=>
      ∃v48:Int,aL h47 (adr (ag h1) 0)=some (.int .i64 v48)∧
      ∃v49:Int,aL h47 (adr (ag h1) 1)=some (.int .u64 v49)∧
      ∃v50:Int,aL h47 (adr (ag h1) 2)=some (.int .u64 v50)∧
      ∃v51:Int,aL h47 (adr (ag h1) 3)=some (.int .u64 v51)∧
      ∃v52:Option Addr,aL h47 (adr (ag h1) 4)=some (.pointer v52)∧
      ∃v53:Option Addr,aL h47 (adr (ag h1) 5)=some (.pointer v53)∧
      K ((v48,v49,v50,v51,v52,v53),4) h47))) (
    ∃v54:Int,aL h6 (adr (ag h) 0)=some (.int .i64 v54)∧
    ∃v55:Int,aL h6 (adr (ag h) 1)=some (.int .u64 v55)∧
    ∃v56:Int,aL h6 (adr (ag h) 2)=some (.int .u64 v56)∧
    ∃v57:Int,aL h6 (adr (ag h) 3)=some (.int .u64 v57)∧
    ∃v58:Option Addr,aL h6 (adr (ag h) 4)=some (.pointer v58)∧
    ∃v59:Option Addr,aL h6 (adr (ag h) 5)=some (.pointer v59)∧
    (dq h6 (some (ag h1)) 0 [.int .i64 v54,.int .u64 v55,.int .u64 v56,.int .u64 v57,.pointer v58,.pointer v59]∧
     At (aX h6 (ag h1) 0 [.int .i64 v54,.int .u64 v55,.int .u64 v56,.int .u64 v57,.pointer v58,.pointer v59]) (fun h60=>
      ∃v61:Int,aL h60 (adr (ag h1) 0)=some (.int .i64 v61)∧
      ∃v62:Int,aL h60 (adr (ag h1) 1)=some (.int .u64 v62)∧
      ∃v63:Int,aL h60 (adr (ag h1) 2)=some (.int .u64 v63)∧
      ∃v64:Int,aL h60 (adr (ag h1) 3)=some (.int .u64 v64)∧
      ∃v65:Option Addr,aL h60 (adr (ag h1) 4)=some (.pointer v65)∧
      ∃v66:Option Addr,aL h60 (adr (ag h1) 5)=some (.pointer v66)∧
      K ((v61,v62,v63,v64,v65,v66),0) h60))):=fun{h6 t'} k6 e0 e1 e2 i6 hsm=>by
  cases ht:cf l k with
  |false=>
   rw[ht]at hk hsm;have hte:=hsm rfl;subst hte;refine au.2 ⟨_,vc e2 0,_,vc e2 1,_,vc e2 2,_,vc e2 3,_,vc e2 4,_,vc e2 5,?_⟩;refine cR (c:=le EC) (vs:=le t') e1 rfl fun h7 b7 hu7=>?_
   refine⟨_,vc b7 0,_,vc b7 1,_,vc b7 2,_,vc b7 3,_,vc b7 4,_,vc b7 5,?_⟩;exact hk h7 t' ((i6.updM hu7 (fun y hy=>.inl (.inr (by have hy:y=h1.size:=hy;omega)))).less Pro.sub) (fun _=>rfl) (k6.own hu7 s1)
  |true=>
   rw[ht]at hk hsm;refine ak.2 ⟨_,vc e0 0,_,vc e0 1,_,vc e0 2,_,vc e0 3,_,vc e0 4,_,vc e0 5,?_⟩;refine cR (c:=le EC) (vs:=le t') e1 rfl fun h7 b7 hu7=>?_
   refine⟨_,vc b7 0,_,vc b7 1,_,vc b7 2,_,vc b7 3,_,vc b7 4,_,vc b7 5,?_⟩;exact hk h7 t' ((i6.updM hu7 (fun y hy=>.inl (.inr (by have hy:y=h1.size:=hy;omega)))).less Pro.sub) (fun h=>by cases h) (k6.own hu7 s1)
 refine Join.intro (fun tk h6=>tk=cf l k∧Upd No h h6∧∃t',h6[h.size]? =some (.cells (le t').toArray aV (0,0))∧h6[h1.size]? =some (.cells (le EC).toArray aV (0,0))∧h6[h2.size]? =some (.cells (le t).toArray aV (0,0))∧TreeIs (Pro W h h4) h6 kind x t' (mE k l)∧(cf l k=false→t'=t)) (fun R hR=>?_) ?_
 ·rcases i4 with⟨rfl,b,rfl,t4⟩|⟨rfl,b,rfl,t4⟩
  ·refine⟨_,vc c4 0,ak.2 ⟨_,Hd c4 1 0,_,Hd c4 1 1,_,Hd c4 1 2,_,vc c4 4,?_⟩⟩
   refine Kq t4 hW4 hr hn k fun h5 b5 hu5 t5 hsm=>?_
   refine zr (i:=4) (c':=(le (0,x.k0,x.k1,x.mask,some ⟨b5,0,none⟩,none)).toArray) (hu5.get0 c4) (show 4<6 by decide) rfl fun h6 b6 hu6=>?_
   exact hR _ _ ⟨rfl,(k04.tr hu5).own hu6 (aq _),_,b6,hu6.oth (hu5.get0 d4) (by omega),hu6.oth (hu5.get0 b4) (by omega),.inl ⟨rfl,b5,rfl,TrieAt.updM hu6 (fun y hy=>.inl (.inr (by have hy:y=h.size:=hy;omega))) t5⟩,fun ht=>by rw[hsm ht]⟩
  ·refine⟨_,vc c4 0,au.2 ⟨_,vc c4 5,?_⟩⟩
   refine JK t4 hW4 hf k fun h5 b5 hu5 t5 hsm=>?_
   refine zr (i:=5) (c':=(le (1,0,0,0,none,some ⟨b5,0,none⟩)).toArray) (hu5.get0 c4) (show 5<6 by decide) rfl fun h6 b6 hu6=>?_
   exact hR _ _ ⟨rfl,(k04.tr hu5).own hu6 (aq _),_,b6,hu6.oth (hu5.get0 d4) (by omega),hu6.oth (hu5.get0 b4) (by omega),.inr ⟨rfl,b5,rfl,t5.updM hu6 (fun y hy=>.inl (.inr (by have hy:y=h.size:=hy;omega)))⟩,fun ht=>by rw[hsm ht]⟩
 ·rintro _ h6 ⟨rfl,k6,t',e0,e1,e2,i6,hsm⟩
  exact fin k6 e0 e1 e2 i6 hsm
end Go.Proofs
namespace Go.Proofs
open Go Go.Lift
theorem SE{W:Nat→Prop}{h:af}{s:SliceV}{l:List Pr}(hs:Sl eh 2 W h s l)(hr:bD l)(hf:Fit l)(hn:l.length≤1000000)(k:ByteArray){K:Int×Bool→af→Prop}
  (hk:∀i:Nat,(cf l k=true→i<l.length)→K ((i:Int),cf l k) h):HC PG zS [.slice s.a s.len s.cap,.string k] [.c (.int .i64),.c .bool] K h:=by
 refine O6 s k ?_;unfold GV ae bS;have hlen:=hs.len;refine LoopP.ghost (fun(i:Nat) (t:Int) h'=>t=(i:Int)∧i≤l.length∧h'=h∧∀j (hj:j<l.length),j<i→kl l[j].1 k) (fun i=>l.length-i) 0 ⟨rfl,be _,rfl,fun j hj h=>by omega⟩ ?_
 rintro I i t h' ⟨rfl,hi,rfl,hlo⟩ hI;refine Join.intro (fun t h2=>h2=h'∧(t=true↔∃hi:i<l.length,kl l[i].1 k)) (fun R hR=>?_) ?_
 ·refine ax (fun hlt=>?_) fun hge=>hR _ _ ⟨rfl,⟨fun h=>(by cases h),fun⟨hi,_⟩=>by omega⟩⟩
  have hlt:i<l.length:=by omega
  obtain⟨a,ha,_,hv⟩:=hs.at (ai hlt);have hf1:=(hf _ (bJ hlt)).1;refine⟨⟨by omega,by omega⟩,a,ha,l[i].1,hv 0 _ rfl,LH (by omega) (hR _ _ ⟨rfl,?_⟩)⟩
  rw[decide_eq_true_iff];exact⟨fun h=>⟨hlt,h⟩,fun⟨_,h⟩=>h⟩
 ·rintro t h2 ⟨rfl,ht⟩
  cases t with
  |true=>
   obtain⟨hlt,hk1⟩:=ht.1 rfl;refine au.2 ?_;rw[hE hlt (by omega)];refine hI (i+1) _ _ ⟨rfl,hlt,rfl,fun j hj hji=>?_⟩ (by omega)
   rcases bX j i with h|h
   ·exact hlo j hj h
   ·have:j=i:=by omega
    subst this;exact hk1
  |false=>
   refine ak.2 (ax (fun hlt=>?_) fun hge=>?_)
   ·have hlt:i<l.length:=by omega
    have hnk:¬kl l[i].1 k:=fun h=>by have:=ht.2 ⟨hlt,h⟩;cases this
    obtain⟨a,ha,_,hv⟩:=hs.at (ai hlt);refine⟨⟨by omega,by omega⟩,a,ha,l[i].1,hv 0 _ rfl,?_⟩
    rw[dG];have e:decide (l[i].1=k)=cf l k:=by
     by_cases e:l[i].1=k
     ·rw[decide_eq_true e]
      exact(bT.2 ⟨_,bJ hlt,decide_eq_true e⟩).symm
     ·rw[decide_eq_false e]
      refine(xt fun q hq e2=>?_).symm
      obtain⟨j,hj,rfl⟩:=aU hq;have hgt:=o9 hnk e;rcases mD j i with h|h|h
      ·have:=hlo j hj h;rw[e2]at this;exact bQ _ this
      ·subst h;exact e e2
      ·have:=bP.1 hr i j hlt hj h
       rw[e2]at this;exact bQ _ (fp hgt this)
    rw[e];exact hk i fun _=>hlt
   ·have e:cf l k=false:=xt fun q hq e2=>by
     obtain⟨j,hj,rfl⟩:=aU hq;have:=hlo j hj (by omega);rw[e2]at this;exact bQ _ this
    have:=hk i fun h=>by rw[e]at h;cases h
    rw[e]at this;exact this
theorem T9{W:Nat→Prop}{h:af}{s:SliceV}{l:List Pr}(hs:Sl eh 2 W h s l)(hr:bD l)(hf:Fit l)(hn:l.length≤1000000)(k:ByteArray){K:ByteArray×Bool→af→Prop}
  (hk:∀v,K (v,cf l k) h):HC PG CV [.slice s.a s.len s.cap,.string k] [.c .str,.c .bool] K h:=by
 refine Ru s k ?_;unfold Js ae bS;have hlen:=hs.len;refine SE hs hr hf hn k fun i hi=>?_
 cases ht:cf l k with
 |false=>rw[ht]at hk;exact au.2 (hk _)
 |true=>
  rw[ht]at hk;have hlt:=hi ht;obtain⟨a,ha,_,hv⟩:=hs.at (ai hlt);refine ak.2 ⟨⟨by simp only;omega,by simp only;omega⟩,a,ha,l[i].2,hv 1 _ rfl,hk _⟩
end Go.Proofs
namespace Go.Proofs
open Go Go.Lift
theorem iH(p:Pr)(l:List Pr)(k:ByteArray):look (p::l) k=if p.1=k then some p.2 else look l k:=by
 unfold look;rw[oY];by_cases e:p.1=k
 ·rw[decide_eq_true e,if_pos e];rfl
 ·rw[decide_eq_false e,if_neg e]
theorem AV{l:List Pr}{k:ByteArray}(h:∀p∈l,kl k p.1):look l k=none:=II (xt fun p hp e=>by have:=h p hp;rw[e]at this;exact bQ _ this)
theorem sM{k v:ByteArray}:∀{l:List Pr},look l k=some v→(k,v)∈l
 | [],h=>by cases h
 |p::l,h=>by
  rw[iH]at h;by_cases e:p.1=k
  ·rw[if_pos e]at h;cases h;rw[←e];exact ar ..
  ·rw[if_neg e]at h;exact aD _ (sM h)
theorem SR{l m:List Pr}(hl:bD l)(hm:bD m)(h:∀k,look l k=look m k):l=m:=
 u3 hl hm fun p=>⟨fun hp=>sM (by rw[←h];exact vf hl hp),fun hp=>sM (by rw[h];exact vf hm hp)⟩
theorem L2(p:Pr)(k:ByteArray):∀{l:List Pr},look (gU p l) k=if p.1=k then some p.2 else look l k
 | []=>iH p [] k
 |q::l=>by
  rw[fX];by_cases h1:kl q.1 p.1
  ·rw[if_pos h1,iH,L2 p k,iH]
   by_cases e:q.1=k
   ·rw[if_pos e,if_pos e,if_neg fun e2=>by rw[e,e2]at h1;exact bQ _ h1]
   ·rw[if_neg e,if_neg e]
  ·rw[if_neg h1]
   by_cases h2:q.1=p.1
   ·rw[if_pos h2,iH,iH,h2]
    by_cases e:p.1=k
    ·rw[if_pos e,if_pos e]
    ·rw[if_neg e,if_neg e,if_neg e]
   ·rw[if_neg h2,iH]
theorem F1(k' k:ByteArray):∀{l:List Pr},look (mE k' l) k=if k'=k then none else look l k
 | []=>by
  by_cases e:k'=k; · rw[if_pos e];rfl
  ·rw[if_neg e];rfl
 |q::l=>by
  rw[vm];by_cases h:q.1=k'
  ·rw[if_pos h,F1 k' k,iH,h]
   by_cases e:k'=k
   ·rw[if_pos e,if_pos e]
   ·rw[if_neg e,if_neg e,if_neg e]
  ·rw[if_neg h,iH,F1 k' k,iH]
   by_cases e:q.1=k
   ·rw[if_pos e,if_pos e,if_neg fun e2=>h (by rw[e,e2])]
   ·rw[if_neg e,if_neg e]
def UY(k:ByteArray)(a b:Option ByteArray):Option Ch:=if a=b then none else some (k,a.getD ⟨#[]⟩,b.getD ⟨#[]⟩,a.isSome,b.isSome)
theorem MF(k:ByteArray)(a:Option ByteArray):UY k a a=none:=if_pos rfl
theorem Qg{k:ByteArray}{a b:Option ByteArray}{c:Ch}(h:UY k a b=some c):c=(k,a.getD ⟨#[]⟩,b.getD ⟨#[]⟩,a.isSome,b.isSome)∧a≠b:=by
 unfold UY at h;by_cases e:a=b
 ·rw[if_pos e]at h;cases h
 ·rw[if_neg e]at h;cases h;exact⟨rfl,e⟩
def fd(l:List Ch)(k:ByteArray):Option Ch:=l.find? fun c=>decide (c.1=k)
theorem ws(c:Ch)(l:List Ch)(k:ByteArray):fd (c::l) k=if c.1=k then some c else fd l k:=by
 unfold fd;rw[oY];by_cases e:c.1=k
 ·rw[decide_eq_true e,if_pos e]
 ·rw[decide_eq_false e,if_neg e]
theorem Gh{k:ByteArray}{c:Ch}:∀{l:List Ch},fd l k=some c→c∈l∧c.1=k
 | [],h=>by cases h
 |a::l,h=>by
  rw[ws]at h;by_cases e:a.1=k
  ·rw[if_pos e]at h;cases h;exact⟨ar ..,e⟩
  ·rw[if_neg e]at h;exact⟨aD _ (Gh h).1,(Gh h).2⟩
theorem UW{k:ByteArray}{l:List Ch}(h:∀c∈l,c.1≠k):fd l k=none:=by
 cases e:fd l k with
 |none=>rfl
 |some c=>exact absurd (Gh e).2 (h c (Gh e).1)
theorem Vo{k:ByteArray}{l:List Ch}(h:∀c∈l,kl k c.1):fd l k=none:=UW fun c hc e=>by have:=h c hc;rw[e]at this;exact bQ _ this
theorem Ow{c:Ch}:∀{l:List Ch},lx l→c∈l→fd l c.1=some c
 |a::l,hr,h=>by
  have hr:=aA.1 hr;rw[ws];rcases List.mem_cons.1 h with rfl|h
  ·exact if_pos rfl
  ·rw[if_neg fun e=>by have:=hr.1 c h;rw[e]at this;exact bQ _ this]
   exact Ow hr.2 h
theorem Kg{A B:List Pr}(hA:bD A)(hB:bD B)(k:ByteArray):fd (fy A B) k=UY k (look A k) (look B k):=by
 refine ox (P:=fun A B=>fd (fy A B) k=UY k (look A k) (look B k)) ?_ (fun a A B hA _ h i=>?_) (fun b A B _ hB h i=>?_) (fun a b A B e hA hB i=>?_) hA hB
 ·rw[iV];exact(MF ..).symm
 ·rw[te h,ws,iH,i]
  by_cases e:a.1=k
  ·rw[if_pos (show(Hx a).1=k from e),if_pos e,←e,AV h];rfl
  ·rw[if_neg (show ¬(Hx a).1=k from e),if_neg e]
 ·rw[td h,ws,iH,i]
  by_cases e:b.1=k
  ·rw[if_pos (show(TJ b).1=k from e),if_pos e,←e,AV h];rfl
  ·rw[if_neg (show ¬(TJ b).1=k from e),if_neg e]
 ·rw[rB e,iH,iH,←e]
  by_cases h:a.1=k
  ·rw[if_pos h,if_pos h]
   unfold xi UY;by_cases h2:a.2=b.2
   ·rw[if_pos h2,if_pos (by rw[h2]),List.nil_append,i,←h,AV (aA.1 hA).1,e,AV (aA.1 hB).1,MF]
   ·rw[if_neg h2,if_neg (fun e=>h2 (Option.some.inj e)),qw,ws,if_pos h,h];rfl
  ·rw[if_neg h,if_neg h,←i]
   unfold xi;by_cases h2:a.2=b.2
   ·rw[if_pos h2];rfl
   ·rw[if_neg h2,qw,ws,if_neg h]
def lh(c:Ch):Bool:=(!((!c.2.2.2.1&& !c.2.2.2.2)||(c.2.2.2.1&&(c.2.2.2.2&&decide (c.2.1=c.2.2.1)))))&&((c.2.2.2.1||decide (c.2.1=⟨#[]⟩))&&(c.2.2.2.2||decide (c.2.2.1=⟨#[]⟩)))
def SN(a b:Ch):Ch:=(a.1,a.2.1,b.2.2.1,a.2.2.2.1,b.2.2.2.2)
def AR(a b:Ch):Bool:=a.2.2.2.2==b.2.2.2.1&&decide (a.2.2.1=b.2.1)
def one(c:Ch):Option Ch:=if lh c then some c else none
def qv:List Ch→List Ch→Option (List Ch)
 | [],m=>some m
 |a::l,[]=>some (a::l)
 |a::l,b::m=>if kl a.1 b.1 then(qv l (b::m)).map (a:: ·)else if kl b.1 a.1 then(qv (a::l) m).map (b:: ·)else if AR a b then(qv l m).map ((one (SN a b)).toList++ ·)else none
termination_by l m=>l.length+m.length
theorem sO(m:List Ch):qv [] m=some m:=by unfold qv;rfl
theorem zM:∀l:List Ch,qv l []=some l
 | []=>sO []
 |a::l=>by unfold qv;rfl
theorem wh(a b:Ch)(l m:List Ch):qv (a::l) (b::m)=if kl a.1 b.1 then(qv l (b::m)).map (a:: ·)else if kl b.1 a.1 then(qv (a::l) m).map (b:: ·)else if AR a b then(qv l m).map ((one (SN a b)).toList++ ·)else none:=by
 conv=>lhs;unfold qv
theorem Sy(k:ByteArray)(a b:Option ByteArray):lh (k,a.getD ⟨#[]⟩,b.getD ⟨#[]⟩,a.isSome,b.isSome)=decide (a≠b):=by
 cases a with
 |none=>cases b with
  |none=>rfl
  |some b=>simp[lh]
 |some a=>cases b with
  |none=>simp[lh]
  |some b=>simp[lh]
theorem Qy{A B:List Pr}(hA:bD A)(hB:bD B){c:Ch}(h:c∈fy A B):lh c=true:=by
 have:=Kg hA hB c.1;rw[Ow (mQ hA hB) h]at this;obtain⟨e,hne⟩:=Qg this.symm;rw[e,Sy];exact decide_eq_true hne
end Go.Proofs
namespace Go.Proofs
open Go Go.Lift
theorem Sx(k o n:ByteArray):lh (k,o,n,false,true)=decide (o=⟨#[]⟩):=by simp[lh]
theorem Sw(k o n:ByteArray):lh (k,o,n,true,false)=decide (n=⟨#[]⟩):=by simp[lh]
theorem Sv(k o n:ByteArray):lh (k,o,n,true,true)= !decide (o=n):=by simp[lh]
theorem Gu{c:Ch}{h:af}{K:Bool→af→Prop}(hk:∀h',Upd No h h'→K (lh c) h'):HC PG gD [.agg #[.string c.1,.string c.2.1,.string c.2.2.1,.bool c.2.2.2.1,.bool c.2.2.2.2]] [.c .bool] K h:=by
 refine yK c ?_;unfold sn ae;refine bm fun h1 b1 k1=>?_
 obtain⟨k,o,n,w,i⟩:=c;have hk:=hk h1 k1;refine Join.plain ?_;cases w<;>cases i
 ·exact⟨false,vc b1 3,au.2 ⟨false,vc b1 4,au.2 (au.2 hk)⟩⟩
 ·rw[Sx]at hk
  refine⟨false,vc b1 3,au.2 ⟨true,vc b1 4,ak.2 ⟨false,vc b1 3,ak.2 (ak.2 ⟨false,vc b1 3,ak.2 ⟨o,vc b1 1,?_⟩⟩)⟩⟩⟩;rw[dG];cases e:decide (o=⟨#[]⟩)with
  |true=>rw[e]at hk;exact au.2 ⟨true,vc b1 4,au.2 hk⟩
  |false=>rw[e]at hk;exact ak.2 hk
 ·rw[Sw]at hk
  refine⟨true,vc b1 3,ak.2 ⟨true,vc b1 3,au.2 ⟨false,vc b1 4,ak.2 (ak.2 ⟨true,vc b1 3,au.2 ⟨false,vc b1 4,ak.2 ⟨n,vc b1 2,?_⟩⟩⟩)⟩⟩⟩;rw[dG];exact hk
 ·rw[Sv]at hk
  refine⟨true,vc b1 3,ak.2 ⟨true,vc b1 3,au.2 ⟨true,vc b1 4,au.2 ⟨o,vc b1 1,n,vc b1 2,?_⟩⟩⟩⟩;rw[dG];cases e:decide (o=n)with
  |true=>rw[e]at hk;exact au.2 hk
  |false=>rw[e]at hk;exact ak.2 ⟨true,vc b1 3,au.2 ⟨true,vc b1 4,au.2 hk⟩⟩
theorem Bb{W:Nat→Prop}{h:af}{s:SliceV}{l:List Ch}{fv:Value}{p:Ch→Bool}(hs:Sl p5 5 W h s l)(hn:l.length≤1000000)
  (hv:∀c∈l,∀h',Upd No h h'→∀{K':Bool→af→Prop},(∀h'',Upd No h' h''→K' (p c) h'')→HV PG fv [.agg #[.string c.1,.string c.2.1,.string c.2.2.1,.bool c.2.2.2.1,.bool c.2.2.2.2]] [.c .bool] K' h')
  {K:Bool→af→Prop}(hk:∀h',Upd No h h'→K (l.any p) h'):HC PG cJ [.slice s.a s.len s.cap,fv] [.c .bool] K h:=by
 refine jU s fv ?_;unfold fG;refine kM s fv ?_;unfold gb ae bS;have hl:=hs.len;refine LoopP.ghost (fun(i:Nat) (t:Int) h'=>t=(i:Int)∧i≤l.length∧(l.take i).any p=false∧Upd No h h') (fun i=>l.length-i) 0 ⟨rfl,be _,rfl,Upd.refl _ _⟩ ?_
 rintro I i t h' ⟨rfl,hi,ha,hu⟩ hI;refine ax (fun hlt=>?_) fun hge=>?_
 ·have hlt:i<l.length:=by omega
  obtain⟨a,ha',_,hv'⟩:=(hs.upd hu fun _ h=>h.elim).at (ai hlt)
  refine⟨⟨by omega,by omega⟩,a,ha',_,hv' 0 _ rfl,_,hv' 1 _ rfl,_,hv' 2 _ rfl,_,hv' 3 _ rfl,_,hv' 4 _ rfl,?_⟩
  refine hv l[i] (bJ hlt) h' hu fun h2 k2=>?_
  refine CondP.intro (fun hp=>?_) fun hp=>?_
  ·have e1:l.any p=true:=bT.2 ⟨_,bJ hlt,hp⟩
   have:=hk h2 (hu.tr k2);rw[e1]at this;show K (decide ((i:Int)≥0)) h2
   rw[show decide ((i:Int)≥0)=true from decide_eq_true (by omega)]
   exact this
  ·rw[hE hlt (by omega)]
   refine hI (i+1) _ _ ⟨rfl,hlt,?_,hu.tr k2⟩ (by omega);rw[bh hlt,List.any_append,ha,Bool.false_or];simpa using hp
 ·have hil:i=l.length:=by omega
  rw[hil,bV]at ha;have:=hk h' hu;rw[ha]at this;exact this
theorem LW{h:af}(c:Ch){K:Bool→af→Prop}(hk:∀h',Upd No h h'→K (!lh c) h'):HV PG (.func (.func sQ) #[] #[]) [.agg #[.string c.1,.string c.2.1,.string c.2.2.1,.bool c.2.2.2.1,.bool c.2.2.2.2]] [.c .bool] K h:=by
 refine⟨.inl ⟨_,#[],#[],rfl,?_⟩⟩;refine GG c ?_;unfold yb ae;refine bm fun h1 b1 k1=>⟨_,vc b1 0,_,vc b1 1,_,vc b1 2,_,vc b1 3,_,vc b1 4,?_⟩
 exact Gu fun h2 k2=>hk h2 (k1.tr k2)
def i5(l:List Ch):Int:=if lx l then(if l.any (fun c=> !lh c)then 1 else 0)else 13
def xW(l:List Ch):Prop:=∀c∈l,c.1.size≤256∧c.2.1.size≤4096∧c.2.2.1.size≤4096
theorem NO{l:List Ch}{g:Nat}(hg:0<g)(hl:g<l.length)(hr:lx (l.take g))(hk:kl (l[g-1]'(by omega)).1 l[g].1):lx (l.take (g+1)):=by
 rw[bh hl];refine List.pairwise_append.2 ⟨hr,bU ..,fun a ha b hb=>?_⟩
 rw[aC.1 hb];obtain⟨j,hj,rfl⟩:=aU ha;rw[aI]at hj;rw[j5];by_cases e:j=g-1
 ·subst e;exact hk
 ·have:=bP.1 hr j (g-1) (by rw[aI];omega) (by rw[aI];omega) (by omega)
  rw[j5,j5]at this;exact fp this hk
theorem Lv{l:List Ch}{g:Nat}(hg:g≤1):lx (l.take g):=by
 match l,g,hg with
 | [],_,_=>rw[List.take_nil];exact .nil
 |a::l,0,_=>exact .nil
 |a::l,1,_=>exact bU ..
theorem QN{l:List Ch}{i j:Nat}(hij:i<j)(hj:j<l.length)(h:¬kl (l[i]'(by omega)).1 l[j].1):¬lx l:=fun hr=>h (bP.1 hr i j (by omega) hj hij)
theorem wF{W:Nat→Prop}{h:af}{s:SliceV}{l:List Ch}(hs:Sl p5 5 W h s l)(hn:l.length≤1000000)(hz:xW l){K:Int→af→Prop}(hk:∀h',Upd No h h'→K (i5 l) h'):HC PG sx [.slice s.a s.len s.cap] [.c (.int .i64)] K h:=by
 refine KG s ?_;unfold BS ae bS;have hl:=hs.len;refine LoopP.ghost (fun(i:Nat) (t:Int) h'=>t=(i:Int)∧1≤i∧i≤max 1 l.length∧lx (l.take i)∧h'=h) (fun i=>l.length-i) 1 ⟨rfl,aq _,by omega,Lv (aq _),rfl⟩ ?_
 rintro I i t h' ⟨rfl,hi1,hi,hr,rfl⟩ hI;refine ax (fun hlt=>?_) fun hge=>?_
 ·have hlt:i<l.length:=by omega
  have e1:IntKind.wrap .i64 ((i:Int)-1)=((i-1:Nat):Int):=by rw[cS (by omega)];omega
  rw[e1];obtain⟨a,ha,_,hv⟩:=hs.at (i:=i-1) (ai (by omega));obtain⟨a',ha',_,hv'⟩:=hs.at (i:=i) (ai hlt);refine⟨⟨by omega,by omega⟩,a,ha,_,hv 0 _ rfl,⟨by omega,by omega⟩,a',ha',_,hv' 0 _ rfl,?_⟩
  refine CondP.intro (fun hb=>?_) fun hb=>?_
  ·have:¬lx l:=QN (i:=i-1) (j:=i) (by omega) hlt fun h=>by unfold kl at h;rw[h]at hb;cases hb
   have hk:=hk h' (Upd.refl _ _);unfold i5 at hk;rw[if_neg this]at hk;exact hk
  ·rw[hE hlt (by omega)]
   exact hI (i+1) _ _ ⟨rfl,by omega,by omega,NO hi1 hlt hr (by unfold kl;simpa using hb),rfl⟩ (by omega)
 ·have hil:l.take i=l:=aW (by omega)
  rw[hil]at hr;unfold i5 at hk;rw[if_pos hr]at hk;refine Bb hs hn (fun c _ h1 _ K' hk'=>LW c hk') fun h1 k1=>?_
  have hk:=fun h2 (k2:Upd No h1 h2)=>hk h2 (k1.tr k2)
  cases ea:l.any (fun c=> !lh c)with
  |true=>rw[ea]at hk;exact au.2 (hk h1 (Upd.refl _ _))
  |false=>
   rw[ea]at hk;refine ak.2 ?_;refine LoopP.ghost (fun(i:Nat) (t:Int) h'=>t=(i:Int)∧i≤l.length∧Upd No h1 h') (fun i=>l.length-i) 0 ⟨rfl,be _,Upd.refl _ _⟩ ?_
   rintro I2 j t h3 ⟨rfl,hj,hu⟩ hI2;refine ax (fun hlt=>?_) fun _=>hk h3 hu
   have hlt:j<l.length:=by omega
   obtain⟨a,ha,_,hv⟩:=(hs.upd (k1.tr hu) fun _ h=>h.elim).at (ai hlt)
   refine⟨⟨by omega,by omega⟩,a,ha,_,hv 0 _ rfl,_,hv 1 _ rfl,_,hv 2 _ rfl,_,hv 3 _ rfl,_,hv 4 _ rfl,?_⟩
   refine PX (c:=l[j]) fun h4 b4 k4=>?_
   obtain⟨z1,z2,z3⟩:=hz _ (bJ hlt);refine⟨_,vc b4 0,_,vc b4 1,vd z1 z2 (ak.2 ⟨_,vc b4 0,_,vc b4 2,vd z1 z3 (ak.2 ?_)⟩)⟩;rw[hE hlt (by omega)];exact hI2 (j+1) _ _ ⟨rfl,hlt,hu.tr k4⟩ (by omega)
end Go.Proofs
namespace Go.Proofs
open Go Go.Lift
abbrev VW(s:ByteArray):List Value:= [.string s]
def r8(L:List Pr)(g:List ByteArray):List Pr:=(g.take 15).foldl (fun acc s=>mE (oD s) acc) L
theorem Ml{L:List Pr}{g:List ByteArray}{i:Nat}(hi:i<g.length)(h15:i<15):r8 L (g.take (i+1))=mE (oD g[i]) (r8 L (g.take i)):=by
 unfold r8;rw[gu,gu,gd (by omega),gd (by omega),bh hi,List.foldl_append];rfl
theorem Mm{L:List Pr}{g:List ByteArray}{i:Nat}(h15:15≤i):r8 L (g.take (i+1))=r8 L (g.take i):=by
 unfold r8;rw[gu,gu,bo (by omega),bo (by omega)]
theorem Few.del{n:Nat}{L:List Pr}(f:Few n L)(k:ByteArray):Few n (mE k L):=⟨Iq f.up,aZ OG f.len,fun p hp=>f.fit p (E9.1 hp).1⟩
theorem Gg{n:Nat}{L:List Pr}(f:Few n L)(g:List ByteArray):Few n (r8 L g):=by
 unfold r8;generalize g.take 15=m;induction m generalizing L with
 |nil=>exact f
 |cons s m ih=>rw[List.foldl_cons];exact ih (f.del _)
theorem LE{W:Nat→Prop}{x:Hs}{h:af}{kind:Int}{r:Rt}{l:List Pr}(i:RefIs W h kind x r l)(hW:∀y,W y→y<h.size)(hr:bD l)(hf:Fit l)(hn:l.length≤1000000)(k:ByteArray)(hk1:k.size≤256){K:Rt×Int→af→Prop}
  (hk:∀h' r' e,RefIs W h' kind x r' (mE k l)→Upd No h h'→K (r',e) h'):HC PG uM [Wb r,.string k] [.agg [.int .i64,.int .u64,.int .u64,.int .u64,.slice],.c (.int .i64)] K h:=by
 refine HI r k ?_;unfold zi ae;refine bm fun h1 b1 k1=>bm fun h2 b2 k2=>?_
 have z1:=bF b1;have z2:=bF b2;have s1:h.size≤h1.size:=k1.size;have k02:=k1.tr k2;have v1:=k2.get0 b1;obtain⟨s,rfl,hs⟩:=i;refine ax (fun h=>absurd h (by omega)) fun _=>?_
 refine⟨s,vc v1 4,T9 (hs.upd k02 fun _ h=>h.elim) hr hf hn k fun v=>?_⟩
 refine CondP.intro (fun hb=>?_) fun hb=>?_
 ·have hno:cf l k=false:=by simpa using hb
  refine⟨_,vc v1 0,_,vc v1 1,_,vc v1 2,_,vc v1 3,s,vc v1 4,?_⟩;refine cR (c:=xj Ss) (vs:=xj (kind,hx kind x.k0,hx kind x.k1,hx kind x.mask,s)) b2 rfl fun h6 v6 hu6=>?_
  refine⟨_,vc v6 0,_,vc v6 1,_,vc v6 2,_,vc v6 3,s,vc v6 4,?_⟩;refine hk h6 (kind,hx kind x.k0,hx kind x.k1,hx kind x.mask,s) 4 ⟨s,rfl,?_⟩ (k02.own hu6 s1);rw[xT (AD hno)];exact hs.upd (k02.own hu6 s1) fun _ h=>h.elim
 ·refine⟨s,vc v1 4,LI (hs.upd k02 fun _ h=>h.elim) hn k fun s4 h4 ho4 hu4=>?_⟩
  refine zr (i:=4) (c':=(xj (kind,hx kind x.k0,hx kind x.k1,hx kind x.mask,s4)).toArray) (hu4.get0 v1) (show 4<5 by decide) rfl fun h5 v5 hu5=>?_
  refine⟨_,vc v5 0,_,vc v5 1,_,vc v5 2,_,vc v5 3,s4,vc v5 4,?_⟩;refine cR (c:=xj Ss) (vs:=xj (kind,hx kind x.k0,hx kind x.k1,hx kind x.mask,s4)) (hu5.oth (hu4.get0 b2) (by omega)) rfl fun h6 v6 hu6=>?_
  refine⟨_,vc v6 0,_,vc v6 1,_,vc v6 2,_,vc v6 3,s4,vc v6 4,?_⟩;have ho6:=(ho4.upd hu5 fun y hy e=>by have e:y=h.size:=e;omega).upd hu6 fun y hy e=>by have e:y=h1.size:=e;omega
  refine hk h6 (kind,hx kind x.k0,hx kind x.k1,hx kind x.mask,s4) 0 ⟨s4,rfl,ho6.sl fun y hy _ hw=>by have:=hW y hw;omega⟩ (((k02.tr hu4).own hu5 (aq _)).own hu6 (by omega))
set_option maxHeartbeats 1000000 in
theorem Mk{W:Nat→Prop}{x:Hs}{h:af}{s sg:SliceV}{l L0 R0:List Pr}{g:List ByteArray}{kind:Int}{t:Tr}{r:Rt}{n:Nat}(it:TreeIs W h kind x t L0)(jr:RefIs W h kind x r R0)(fw0:Few n L0)(fr0:Few n R0)(hn0:n≤1000)(hs:Sl eh 2 W h s l)(hg:Sl VW 1 W h sg g)(hW:∀y,W y→y<h.size)(hn:l.length≤9223372036854775807)(hgn:g.length≤9223372036854775807){K:Tr×Rt→af→Prop}
  (hk:∀h' t' r',TreeIs W h' kind x t' (r8 (j7 L0 l) g)→RefIs W h' kind x r' (r8 (j7 R0 l) g)→Upd No h h'→K (t',r') h'):
  HC PG ua [Fx t,Wb r,.slice s.a s.len s.cap,.slice sg.a sg.len sg.cap] [.agg [.int .i64,.int .u64,.int .u64,.int .u64,.ptr,.ptr],.agg [.int .i64,.int .u64,.int .u64,.int .u64,.slice]] K h:=by
 refine MQ t r s sg ?_;unfold Er ae bS;refine bm fun h1 b1 k1=>bm fun h2 b2 k2=>bm fun h3 b3 k3=>bm fun hL b4 k4=>?_
 have z1:=bF b1;have z2:=bF b2;have z3:=bF b3;have z4:=bF b4;have s1:h.size≤h1.size:=k1.size;have s2:h1.size≤h2.size:=k2.size;have s3:h2.size≤h3.size:=k3.size;have s4:=k4.size;have kL:Upd No h hL:=((k1.tr k2).tr k3).tr k4;have t0:=k4.get0 (k3.get0 (k2.get0 b1));have x0:=k4.get0 (k3.get0 b2);have rL1:=k4.get0 b3;have rL2:=b4;have iL:=it.pro kL;have jL:RefIs (Pro W h hL) hL kind x r R0:=(jr.less (W':=Pro W h hL) Pro.hm).upd0 kL
 have hWL:=Pro.lt hW kL;have hPt:Pro W h hL h.size:=.inr (by omega);have hPx:Pro W h hL h1.size:=.inr (by omega);have hP1:Pro W h hL h2.size:=.inr (by omega);have hP2:Pro W h hL h3.size:=.inr (by omega);have hlen:=hs.len;refine LoopP.ghost (fun(i:Nat) (ti:Int) h'=>ti=(i:Int)∧i≤l.length∧(∃tv rv,TreeIs (Pro W h hL) h' kind x tv (j7 L0 (l.take i))∧RefIs (Pro W h hL) h' kind x rv (j7 R0 (l.take i))∧h'[h.size]? =some (.cells (le tv).toArray aV (0,0))∧h'[h1.size]? =some (.cells (xj rv).toArray dQ (0,0)))∧Upd (fun y=>y=h.size∨y=h1.size) hL h') (fun i=>l.length-i) 0 ⟨rfl,be _,⟨t,r,iL,jL,t0,x0⟩,Upd.refl _ _⟩ ?_
 rintro I i ti h' ⟨rfl,hi,⟨tv,rv,it,jr,bt,bx⟩,hu⟩ hI;have hus:=hu.size;have hu0:Upd No h h':=kL.trans hu fun y hy=>.inr (by rcases hy with rfl|rfl<;>omega)
 refine ax (fun hlt=>?_) fun hge=>?_
 ·have hlt:i<l.length:=by omega
  obtain⟨a,ha,_,hv⟩:=(hs.upd hu0 fun _ h=>h.elim).at (ai hlt)
  refine Join.intro (fun _ h2'=>(∃tv rv,TreeIs (Pro W h hL) h2' kind x tv (j7 L0 (l.take (i+1)))∧RefIs (Pro W h hL) h2' kind x rv (j7 R0 (l.take (i+1)))∧h2'[h.size]? =some (.cells (le tv).toArray aV (0,0))∧h2'[h1.size]? =some (.cells (xj rv).toArray dQ (0,0)))∧Upd (fun y=>y=h.size∨y=h1.size) hL h2') (fun R hR=>⟨⟨by omega,by omega⟩,a,ha,l[i].1,hv 0 _ rfl,l[i].2,hv 1 _ rfl,?_⟩) ?_
  ·refine AO (p:=l[i]) fun h28 b28 k28=>?_
   have z28:=bF b28;have nt:h'.size≠h.size:=by omega
   have nx:h'.size≠h1.size:=by omega
   refine ax (fun h25=>?_) fun h25=>?_
   ·have h25:i<25:=by omega
    rw[IV hlt h25,IV hlt h25]at hR;obtain⟨q1,e1⟩:=Uv l[i].1;obtain⟨q2,e2⟩:=Uv l[i].2;refine⟨_,vc b28 0,_,vc b28 0,q1,?_⟩;simp only[Bd];refine⟨_,vc b28 1,_,vc b28 1,q2,?_⟩;rw[e1,e2];refine zr (c':= #[.string (oD l[i].1),.string l[i].2]) b28 (by simp) rfl fun h29 b29 hu29=>?_
    refine zr (c':= #[.string (oD l[i].1),.string (oD l[i].2)]) b29 (by simp) rfl fun h35 b35 hu35=>?_
    have k35:Upd No h' h35:=(k28.own hu29 (aq _)).own hu35 (aq _);have t35:=k35.get0 bt;have x35:=k35.get0 bx;have s35:=k35.size;have fw:=sE fw0 (l.take i);have fl:=fw.len;have gw:=sE fr0 (l.take i);have gl:=gw.len;have p1:=tc l[i].1;have p2:=tc l[i].2;refine⟨_,vc t35 0,_,vc t35 1,_,vc t35 2,_,vc t35 3,_,vc t35 4,_,vc t35 5,_,vc b35 0,_,vc b35 1,?_⟩;refine Li (it.upd0 k35) (fun y hy=>ay (hWL y hy) (by omega)) fw.up (by omega) (Hu l[i]) (by unfold Hu;simp only;omega) (by unfold Hu;simp only;omega) fun h45 t' i45 _ k45=>?_
    refine cR (c:=le tv) (vs:=le t') (k45.get0 t35) rfl fun h46 t46 hu46=>?_
    have x46:=hu46.oth (k45.get0 x35) (by omega);have p46:=hu46.oth (k45.get0 b35) nt;have j46:=((jr.upd0 k35).upd0 k45).updM hu46 fun y hy=>.inl (by have hy:y=h.size:=hy;rw[hy];exact hPt)
    have s45:=k45.size;have s46:=hu46.size;refine⟨_,vc x46 0,_,vc x46 1,_,vc x46 2,_,vc x46 3,rv.2.2.2.2,vc x46 4,_,vc p46 0,_,vc p46 1,?_⟩;refine SD j46 (fun y hy=>ay (hWL y hy) (by omega)) gw.up (by omega) (Hu l[i]) (by unfold Hu;simp only;omega) (by unfold Hu;simp only;omega) fun h55 r' j55 k55=>?_
    refine cR (c:=xj rv) (vs:=xj r') (k55.get0 x46) rfl fun h56 x56 hu56=>hR _ _ ⟨⟨t',r',?_,j55.updM hu56 fun y hy=>.inl (by have hy:y=h1.size:=hy;rw[hy];exact hPx),hu56.oth (k55.get0 t46) (by omega),x56⟩,?_⟩
    ·exact((i45.updM hu46 fun y hy=>.inl (by have hy:y=h.size:=hy;rw[hy];exact hPt)).upd0 k55).updM hu56 fun y hy=>.inl (by have hy:y=h1.size:=hy;rw[hy];exact hPx)
    ·exact((((hu.tr k35.wide).tr k45.wide).trans hu46 fun y hy=>.inl (.inl hy)).tr k55.wide).trans hu56 fun y hy=>.inl (.inr hy)
   ·have h25:25≤i:=by omega
    rw[IW h25,IW h25]at hR;exact hR _ _ ⟨⟨tv,rv,it.upd0 k28,jr.upd0 k28,k28.get0 bt,k28.get0 bx⟩,hu.tr k28.wide⟩
  ·rintro _ h2' ⟨hex,hu2⟩
   rw[hE hlt hn];exact hI (i+1) _ _ ⟨rfl,hlt,hex,hu2⟩ (by omega)
 ·have hil:i=l.length:=by omega
  subst hil;rw[bV]at it jr;have y1:=hu.get rL1 (by rintro(e|e)<;>omega)
  have y2:=hu.get rL2 (by rintro(e|e)<;>omega)
  have hgl:=hg.len;have fw1:=sE fw0 l;have fr1:=sE fr0 l;generalize j7 L0 l=L1 at it hk fw1;generalize j7 R0 l=R1 at jr hk fr1;refine LoopP.ghost (fun(i:Nat) (ti:Int) h2'=>ti=(i:Int)∧i≤g.length∧(∃tv rv,TreeIs (Pro W h hL) h2' kind x tv (r8 L1 (g.take i))∧RefIs (Pro W h hL) h2' kind x rv (r8 R1 (g.take i))∧h2'[h.size]? =some (.cells (le tv).toArray aV (0,0))∧h2'[h1.size]? =some (.cells (xj rv).toArray dQ (0,0)))∧Upd (fun y=>y=h.size∨y=h1.size) hL h2') (fun i=>g.length-i) 0 ⟨rfl,be _,⟨tv,rv,it,jr,bt,bx⟩,hu⟩ ?_
  clear hI it jr bt bx y1 y2 hu hus hu0 tv rv;rintro I2 i ti h' ⟨rfl,hi,⟨tv,rv,it,jr,bt,bx⟩,hu⟩ hI2;have hus:=hu.size;have hu0:Upd No h h':=kL.trans hu fun y hy=>.inr (by rcases hy with rfl|rfl<;>omega)
  refine ax (fun hlt=>?_) fun hge=>?_
  ·have hlt:i<g.length:=by omega
   obtain⟨a,ha,_,hv⟩:=(hg.upd hu0 fun _ h=>h.elim).at0 (ai hlt)
   refine Join.intro (fun _ h2'=>(∃tv rv,TreeIs (Pro W h hL) h2' kind x tv (r8 L1 (g.take (i+1)))∧RefIs (Pro W h hL) h2' kind x rv (r8 R1 (g.take (i+1)))∧h2'[h.size]? =some (.cells (le tv).toArray aV (0,0))∧h2'[h1.size]? =some (.cells (xj rv).toArray dQ (0,0)))∧Upd (fun y=>y=h.size∨y=h1.size) hL h2') (fun R hR=>⟨⟨by omega,by omega⟩,a,ha,g[i],hv,?_⟩) ?_
   ·refine ax (fun h15=>?_) fun h15=>?_
    ·have h15:i<15:=by omega
     rw[Ml hlt h15,Ml hlt h15]at hR;obtain⟨q1,e1⟩:=Uv g[i];refine⟨q1,?_⟩;simp only[Bd];rw[e1];refine⟨_,vc bt 0,_,vc bt 1,_,vc bt 2,_,vc bt 3,_,vc bt 4,_,vc bt 5,?_⟩;have fw:=Gg fw1 (g.take i);have fl:=fw.len;have gw:=Gg fr1 (g.take i);have gl:=gw.len;have p1:=tc g[i];refine DP it (fun y hy=>ay (hWL y hy) (by omega)) fw.up fw.fits (by omega) (oD g[i]) (by omega) fun h45 t' i45 _ k45=>?_
     refine cR (c:=le tv) (vs:=le t') (k45.get0 bt) rfl fun h46 t46 hu46=>?_
     have x46:=hu46.oth (k45.get0 bx) (by omega);have j46:=(jr.upd0 k45).updM hu46 fun y hy=>.inl (by have hy:y=h.size:=hy;rw[hy];exact hPt)
     have s45:=k45.size;have s46:=hu46.size;refine⟨_,vc x46 0,_,vc x46 1,_,vc x46 2,_,vc x46 3,rv.2.2.2.2,vc x46 4,?_⟩;refine LE j46 (fun y hy=>ay (hWL y hy) (by omega)) gw.up gw.fits (by omega) (oD g[i]) (by omega) fun h55 r' _ j55 k55=>?_
     refine cR (c:=xj rv) (vs:=xj r') (k55.get0 x46) rfl fun h56 x56 hu56=>hR _ _ ⟨⟨t',r',?_,j55.updM hu56 fun y hy=>.inl (by have hy:y=h1.size:=hy;rw[hy];exact hPx),hu56.oth (k55.get0 t46) (by omega),x56⟩,?_⟩
     ·exact((i45.updM hu46 fun y hy=>.inl (by have hy:y=h.size:=hy;rw[hy];exact hPt)).upd0 k55).updM hu56 fun y hy=>.inl (by have hy:y=h1.size:=hy;rw[hy];exact hPx)
     ·exact(((hu.tr k45.wide).trans hu46 fun y hy=>.inl (.inl hy)).tr k55.wide).trans hu56 fun y hy=>.inl (.inr hy)
    ·have h15:15≤i:=by omega
     rw[Mm h15,Mm h15]at hR;exact hR _ _ ⟨⟨tv,rv,it,jr,bt,bx⟩,hu⟩
   ·rintro _ h2' ⟨hex,hu2⟩
    rw[hE hlt hgn];exact hI2 (i+1) _ _ ⟨rfl,hlt,hex,hu2⟩ (by omega)
  have hil:i=g.length:=by omega
  subst hil;rw[bV]at it jr;have y1:=hu.get rL1 (by rintro(e|e)<;>omega)
  have y2:=hu.get rL2 (by rintro(e|e)<;>omega)
  refine⟨_,vc bt 0,_,vc bt 1,_,vc bt 2,_,vc bt 3,_,vc bt 4,_,vc bt 5,_,vc bx 0,_,vc bx 1,_,vc bx 2,_,vc bx 3,rv.2.2.2.2,vc bx 4,?_⟩;refine cR (c:=le EC) (vs:=le tv) y1 rfl fun h70 b70 hu70=>?_
  have x70:=hu70.oth bx (by omega);refine⟨⟨vc x70 0,vc x70 1,vc x70 2,vc x70 3,vc x70 4⟩,?_⟩;refine cR (c:=xj Ss) (vs:=xj rv) (hu70.oth y2 (by omega)) rfl fun h71 b71 hu71=>?_
  have t71:=hu71.oth b70 (by omega);refine⟨_,vc t71 0,_,vc t71 1,_,vc t71 2,_,vc t71 3,_,vc t71 4,_,vc t71 5,_,vc b71 0,_,vc b71 1,_,vc b71 2,_,vc b71 3,rv.2.2.2.2,vc b71 4,?_⟩;refine hk h71 tv rv (((it.updM hu70 fun y hy=>.inl (by have hy:y=h2.size:=hy;rw[hy];exact hP1)).updM hu71 fun y hy=>.inl (by have hy:y=h3.size:=hy;rw[hy];exact hP2)).less Pro.sub) (((jr.updM hu70 fun y hy=>.inl (by have hy:y=h2.size:=hy;rw[hy];exact hP1)).updM hu71 fun y hy=>.inl (by have hy:y=h3.size:=hy;rw[hy];exact hP2)).less Pro.sub) ((hu0.own hu70 (by omega)).own hu71 (by omega))
end Go.Proofs
