/- A part of the proof that the named laws of this program answer true, whatever the input. -/
import Derived.Test.YtncppacbfagpgaaGreatPart8
import Derived.Test.YtncppacbfagpgaaGreatPart1
import Derived.Test.YtncppacbfagpgaaGreatPart5
namespace Go.Proofs
open Go Go.Lift
open Bool renaming false_or→ur
open Int renaming toNat_natCast→aY
open IntKind renaming wrap→ac
open List renaming take_of_length_le→aZ,length_drop→aO,length_append→ad,length_take→aI,any_eq_true→bT,mem_singleton→aC,append_cancel_left→iq,getElem_mem→bF,mem_append→be,getElem_of_mem→aW,getElem_take→jO,mem_of_getElem→nG,drop_left→fP,pairwise_iff_getElem→bS,getElem?_eq_getElem→ai,find?_cons→rm,mem_cons_self→ax,mem_cons_of_mem→aF,pairwise_cons→az,mem_cons→aB,singleton_append→lP,take_succ_eq_append_getElem→bh,take_length→bR,pairwise_singleton→bV
open Nat renaming le_trans→bJ,zero_le→bf,le_refl→au,one_pos→oY,lt_of_lt_of_le→aJ,lt_trichotomy→pO,lt_or_ge→cg,lt_irrefl→lB
open Option renaming some→bm
theorem Ku{h:af}{s:SliceV}{l:List Pr}(hs:Sl ee 2 No h s l)(hc:s.len≤s.cap)(hr:bU l)(hn:l.length≤1000000000)(k:ByteArray)
  {K:SliceV→af→Prop}(hk:∀s' h',OwnS ee 2 aq(fun b=>h.size≤b) h' s'(nr k l)→Upd No h h'→K s' h'):HC PG wW [.slice s.a s.len s.cap,.string k] [.c .slice] K h:=by
 refine Lp s k ?_;unfold Dr;have hlen:=hs.len;refine IU hs hr hn k fun h2 hu2=>?_
 have hp:=QB l k;cases ht:cp l k with
 |false=>
  refine ar.2 (uH (hs.upd hu2 fun _ h=>h.elim) (by omega)fun s3 h3 ho3 hu3=>?_)
  rw[w9 (zC ht)]at hk;exact hk _ _ (ho3.more fun b hb=>bJ hu2.size hb) (hu2.tr hu3)
 |true=>
  obtain⟨hlt,_⟩:=IB hr ht;have ew:ac .i64 ((oy l k:Int)+1)=((oy l k+1:Nat):Int):=by rw[cR (by omega)];omega
  refine al.2 ?_;simp only;rw[ew];refine⟨by omega,by omega,?_⟩
  simp only[Bd,aY];refine bC ?_;have hs2:=hs.upd hu2 fun _ h=>h.elim
  have k4:=Upd.hnew No h2 [.slice (aP s.a 0 s.cap 2) (oy l k-0) (s.cap-0),.slice (aP s.a (oy l k+1) s.cap 2) (s.len-(oy l k+1)) (s.cap-(oy l k+1))] cj;have b4:=bW h2 [.slice (aP s.a 0 s.cap 2) (oy l k-0) (s.cap-0),.slice (aP s.a (oy l k+1) s.cap 2) (s.len-(oy l k+1)) (s.cap-(oy l k+1))] cj;have hA:=Il hs2 (i:=0) (j:=oy l k) (m:=s.cap) (bf _) hp (by omega) (s.cap-0)
  have hC:=Il hs2 (i:=oy l k+1) (j:=l.length) (m:=s.cap) (by omega) (au _) (by omega) (s.cap-(oy l k+1));rw[←hlen]at hC;rw[List.drop_zero]at hA;rw[aZ (by rw[aO];omega)]at hC;have e0:nr k l= [l.take (oy l k-0),l.drop (oy l k+1)].flatten:=by rw[←Oy k hr];unfold Ps;rw[if_pos ht];simp
  refine HS (s:=⟨some (ag h2),2,2⟩) (vs:= [⟨aP s.a 0 s.cap 2,oy l k-0,s.cap-0⟩,⟨aP s.a (oy l k+1) s.cap 2,s.len-(oy l k+1),s.cap-(oy l k+1)⟩]) (ls:= [l.take (oy l k-0),l.drop (oy l k+1)])
   ⟨rfl,fun x=>⟨rfl,oY⟩,fun _=>⟨_,rfl,fun h=>h.elim,pd b4 fun i v hv=>by simpa[Uc]using hv⟩⟩ ⟨hA.upd k4 fun _ h=>h.elim,hC.upd k4 fun _ h=>h.elim,trivial⟩ ?_ (by simp)fun s5 h5 ho5 hu5=>?_
  ·simp only[List.flatten_cons,List.flatten_nil,ad,aI,aO,List.length_nil];omega
  ·rw[←e0]at ho5
   have hu:=hu2.tr k4;exact hk _ _ (ho5.more fun b hb=>bJ hu.size hb) (hu.tr hu5)
theorem Rh{W:Nat→Prop}{h:af}{b:Nat}{l:List Pr}(bk:BuckAt W h b l)(hW:∀x,W x→x<h.size)(hr:bU l)(hn:l.length≤1000000000)(k:ByteArray){K:Option Addr→af→Prop}
  (hk:∀h' b',BuckAt W h' b'(nr k l)→Upd No h h'→K(some ⟨b',0,none⟩) h'):
  HC PG qg [.pointer (some ⟨b,0,none⟩),.pointer none,.string k] [.c .ptr] K h:=by
 refine Cl _ none k ?_;unfold uX aj;obtain⟨sp,sk,ow,hb,hsp,hsk,hcp,hck⟩:=bk.ex;refine kw hb (al.2 ?_);refine Og bk hn fun h2 s2 t2 b2 hA hB hu2=>?_
 refine⟨_,rfl,s2,eN (i:=2) b2,?_⟩;refine Ku (hA.sl fun _ _ _ h=>h) hA.cap hr hn k fun s3 h3 ho3 hu3=>?_
 have b3:=hu3.get0 b2;refine⟨_,rfl,RD (i:=2) b3 (show 2<6 by decide),Ge (i:=2) (c':=fj 0 0 s3 t2 true none) b3 rfl fun h4 b4 hu4=>?_⟩
 have z2:=bD b2;have ho4:=ho3.upd hu4 fun x hx e=>by have e:x=h.size:=e;omega
 have hB4:=(hB.upd hu3 fun _ _ h=>h).upd hu4 fun x hx e=>by have e:x=h.size:=e;omega
 refine hk h4 h.size ⟨⟨s3,t2,none,b4,ho4.sl fun x hx _ hw=>?_,hB4.sl fun x hx _ hw=>?_,ho3.cap,hB.cap⟩,fun hw=>?_⟩ ((hu2.tr hu3).trans hu4 fun x hx=>.inr ?_)
 ·have:=hW x hw;have:=hu2.size;omega
 ·have:=hW x hw;omega
 ·have:=hW _ hw;omega
 ·have hx:x=h.size:=hx
  omega
theorem Lh{W:Nat→Prop}{x:Hs}:∀(m:Nat),m≤13→∀{b:Nat} {l:List Pr} (k:ByteArray) {h:af},TrieAt W x h m b l→(∀y,W y→y<h.size)→bU l→l.length≤1000000→∀{K:(Option Addr)×Bool→af→Prop},
  (∀h' b',Upd No h h'→TrieAt W x h' m b' (nr k l)→(cp l k=false→b'=b)→K (some ⟨b',0,none⟩,cp l k) h')→
  HC PG l4 [P2 x k,.pointer (some ⟨b,0,none⟩),.int .i64 ((13-m:Nat):Int)] [.c .ptr,.c .bool] K h:=by
 intro m;induction m with
 |zero=>
  intro _ b l k h t hW hr hn K hk;have gW:∀{h'},Upd No h h'→∀y,W y→y<h'.size:=fun k y hy=>aJ (hW y hy) k.size
  refine tE (x.k0,x.k1,x.mask,none,k,ef x k) (some ⟨b,0,none⟩) ((13-0:Nat):Int) ?_;unfold pH aj;refine bH fun h1 b1 k1=>?_
  have bk:BuckAt W h1 b l:=BuckAt.upd t k1 fun _ h=>h.elim
  obtain⟨sp,sk,ow,hb,_⟩:=bk.ex;refine kw hb (ar.2 ⟨_,vc b1 4,SV bk hr (by omega) k fun h3 v hu3 hv=>?_⟩)
  have b3:=hu3.get0 b1;cases ht:cp l k with
  |false=>
   rw[ht]at hk;exact ar.2 (hk h3 b (k1.tr hu3) (by rw[w9 (zC ht)];exact bk.upd hu3 fun _ h=>h.elim)fun _=>rfl)
  |true=>
   rw[ht]at hk;refine al.2 ⟨none,vc b3 3,_,vc b3 4,?_⟩;refine Rh (bk.upd hu3 fun _ h=>h.elim) (gW (k1.tr hu3)) hr (by omega) k fun h5 b5 bk5 hu5=>?_
   exact hk h5 b5 ((k1.tr hu3).tr hu5) bk5 fun h=>by cases h
 |succ m ih=>
  intro hm b l k h t hW hr hn K hk;have gW:∀{h'},Upd No h h'→∀y,W y→y<h'.size:=fun k y hy=>aJ (hW y hy) k.size
  have hl:13-(m+1)<13:=by omega
  have hlev:13-(m+1)=12-m:=by omega
  refine tE (x.k0,x.k1,x.mask,none,k,ef x k) (some ⟨b,0,none⟩) ((13-(m+1):Nat):Int) ?_;unfold pH aj;refine bH fun h1 b1 k1=>?_
  have t1:=TrieAt.upd0 k1 t;obtain⟨s,nd1,hs⟩:=t1;have hs:∀c,c<32→SlotIs W x h1 m s c (part x (12-m) c l):=hs;obtain⟨d,n,sp,sk,ow,hb,_⟩:=nd1.ex;refine kw hb (al.2 ⟨_,vc b1 5,Ra hl ?_⟩);rw[hlev];have hi:=yc x (12-m) k;have hsi:=hs _ hi;have htp:cp (part x (12-m) (ck x (12-m) k) l) k=cp l k:=Ep;have hrp:bU (part x (12-m) (ck x (12-m) k) l):=kG hr;have hnp:(part x (12-m) (ck x (12-m) k) l).length≤1000000:=bJ rV hn
  have hturn:∀{h':af} {b':Nat} {s':Slots},Upd No h1 h'→NodeAt W h' b' s'→(∀c,c≠ck x (12-m) k→s'.p c=s.p c∧s'.k c=s.k c)→SlotIs W x h' m s' (ck x (12-m) k) (nr k (part x (12-m) (ck x (12-m) k) l))→TrieAt W x h' (m+1) b' (nr k l):=fun hu nd hp hi=>LX hu nd hs hp hi
  have tt:∀{h':af},Upd No h1 h'→TrieAt W x h' (m+1) b l:=fun hu=>TrieAt.upd0 (k1.tr hu) t
  generalize hc:ck x (12-m) k=c at*;generalize hlc:part x (12-m) c l=lc at*;refine ET nd1 hi fun h3 hu3=>?_
  refine bH fun h4 b4 k4=>?_
  have b4':h4[h3.size]?=some (.cells #[.string NR.1,.string NR.2] aq (0,0)):=b4;refine EO (p:=QP (s.p c)) b4' fun h5 b5 hu5=>?_
  have hu15:Upd No h1 h5:=(hu3.tr k4).own hu5 hu3.size;have c1:=hu15.get0 b1;have nd5:=nd1.upd hu15 fun _ h=>h.elim
  have same:∀{h':af},Upd No h1 h'→cp l k=false→K (some ⟨b,0,none⟩,false) h':=fun hu ht=>by
   have:=hk _ b (k1.tr hu) (by rw[w9 (zC ht)];exact tt hu)fun _=>rfl
   rw[ht]at this;exact this
  cases hsp:s.p c with
  |some y=>
   rw[hsp]at b5;obtain⟨hone,hk0⟩:lc= [y]∧s.k c=none:=by
    rcases hsi with⟨_,h2,_⟩|⟨q,h1,h2,h3⟩|⟨_,h2,_⟩
    ·rw[hsp]at h2;cases h2
    ·rw[hsp]at h2;cases h2;exact⟨h1,h3⟩
    ·rw[hsp]at h2;cases h2
   refine ar.2 ⟨y.1,vc b5 0,k,vc c1 4,?_⟩;rw[dD];by_cases e1:y.1=k
   ·have ht:cp l k=true:=by rw[←htp,hone];exact bT.2 ⟨y,aC.2 rfl,decide_eq_true e1⟩
    rw[decide_eq_true e1];rw[ht]at hk;refine al.2 ⟨none,vc c1 3,Q9 nd5 (gW (k1.tr hu15)) hi fun h6 b6 nd6 hu6=>?_⟩
    refine hk h6 b6 ((k1.tr hu15).tr hu6) (hturn (hu15.tr hu6) nd6 (fun c' hc'=>⟨fc hc',fc hc'⟩) ?_)fun h=>by cases h
    refine.inl ⟨?_,fH,fH⟩;rw[hone,xH,if_pos e1];rfl
   ·rw[decide_eq_false e1]
    have ht:cp l k=false:=by
     rw[←htp,hone];unfold cp;rw[List.any_cons,decide_eq_false e1];rfl
    exact ar.2 (same hu15 ht)
  |none=>
   refine al.2 (zT nd5 hi ?_);cases hsk:s.k c with
   |none=>
    have hlc0:lc= []:=by
     rcases hsi with⟨h1,_⟩|⟨q,_,h2,_⟩|⟨_,_,kb,h2,_⟩
     ·exact h1
     ·rw[hsp]at h2;cases h2
     ·rw[hsk]at h2;cases h2
    exact ar.2 (same hu15 (by rw[←htp,hlc0];rfl))
   |some kp=>
    obtain⟨h2l,kb,rfl,tk⟩:2≤lc.length∧∃kb,kp=some ⟨kb,0,none⟩∧TrieAt W x h1 m kb lc:=by
     rcases hsi with⟨_,_,h2⟩|⟨q,_,h2,_⟩|⟨h1,_,kb,h2,h3⟩
     ·rw[hsk]at h2;cases h2
     ·rw[hsp]at h2;cases h2
     ·rw[hsk]at h2;cases h2;exact⟨h1,kb,rfl,h3⟩
    refine al.2 ⟨_,vc c1 0,_,vc c1 1,_,vc c1 2,_,vc c1 3,_,vc c1 4,_,vc c1 5,?_⟩;have ew:ac .i64 (((12-m:Nat):Int)+1)=((13-m:Nat):Int):=by rw[cR (by omega)];omega
    rw[ew];refine ih (by omega) k (TrieAt.upd0 hu15 tk) (gW (k1.tr hu15)) hrp hnp fun h6 b6 hu6 t6 hsame=>?_
    have hu16:=hu15.tr hu6;rw[htp];cases ht:cp l k with
    |false=>exact ar.2 (same hu16 ht)
    |true=>
     rw[ht]at hk;have hdl:=Ox (k:=k) hrp;have hdn:(nr k lc).length≤1000000:=bJ Q2 hnp;refine al.2 (Rs t6 hdn fun h7 p hu7 hp=>?_)
     refine bH fun h8 b8 k8=>?_
     have b8':h8[h7.size]?=some (.cells #[.string NR.1,.string NR.2] aq (0,0)):=b8;refine EO (p:=p) b8' fun h9 b9 hu9=>?_
     have hu19:Upd No h1 h9:=((hu16.tr hu7).tr k8).own hu9 (hu16.tr hu7).size;have c9:=hu19.get0 b1;have nd9:=nd1.upd hu19 fun _ h=>h.elim
     refine ay (fun e=>?_)fun e=>?_
     ·refine⟨none,vc c9 3,p.1,vc b9 0,p.2,vc b9 1,p7 nd9 (gW (k1.tr hu19)) hi (fun y hy=>by rw[hsp]at hy;cases hy) p fun h10 b10 nd10 hu10=>?_⟩
      refine hk h10 b10 ((k1.tr hu19).tr hu10) (hturn (hu19.tr hu10) nd10 (fun c' hc'=>⟨fc hc',fc hc'⟩) ?_)fun h=>by cases h
      exact.inr (.inl ⟨p,hp e,fH,fH⟩)
     ·refine⟨none,vc c9 3,uw nd9 (gW (k1.tr hu19)) hi (fun _ _=>hsp) ⟨b6,0,none⟩fun h10 b10 nd10 hu10=>?_⟩
      refine hk h10 b10 ((k1.tr hu19).tr hu10) (hturn (hu19.tr hu10) nd10 (fun c' hc'=>⟨fc hc',fc hc'⟩) ?_)fun h=>by cases h
      exact.inr (.inr ⟨by omega,fH,b6,fH,TrieAt.upd0 ((hu7.tr k8).own hu9 hu7.size|>.tr hu10) t6⟩)
theorem Jd{W:Nat→Prop}{x:Hs}{h:af}{b:Nat}{l:List Pr}(t:TrieAt W x h 13 b l)(hW:∀y,W y→y<h.size)(hr:bU l)(hn:l.length≤1000000)(k:ByteArray){K:Option Addr×Bool→af→Prop}
  (hk:∀h' b',Upd No h h'→TrieAt W x h' 13 b'(nr k l)→(cp l k=false→b'=b)→K(some ⟨b',0,none⟩,cp l k) h'):
  HC PG vE [.agg #[.int .u64 x.k0,.int .u64 x.k1,.int .u64 x.mask],.pointer none,.pointer (some ⟨b,0,none⟩),.string k] [.c .ptr,.c .bool] K h:=by
 refine Jt (x.k0,x.k1,x.mask) none (some ⟨b,0,none⟩) k ?_;unfold A6 aj;refine bH fun h1 b1 k1=>?_
 refine N1 (.inr ⟨b,rfl,TrieAt.upd0 k1 t⟩) (fun y hy=>aJ (hW y hy) k1.size)fun h2 b2 t2 hu2 hb2=>?_
 have c2:=hu2.get0 b1;refine⟨_,vc c2 0,_,vc c2 1,_,vc c2 2,_,vc c2 0,_,vc c2 1,_,vc c2 2,?_⟩;refine Ah fun h3 hu3=>?_
 have c3:=hu3.get0 c2;refine⟨⟨vc c3 0,vc c3 1,vc c3 2⟩,?_⟩;have hu03:=(k1.tr hu2).tr hu3;refine Lh 13 (au _) k (TrieAt.upd0 hu3 t2) (fun y hy=>aJ (hW y hy) hu03.size) hr hn fun h4 b4 hu4 t4 hs4=>?_
 refine hk h4 b4 (hu03.tr hu4) t4 fun ht=>?_
 rw[hs4 ht];rcases hb2 with e|e
 ·cases e;rfl
 ·cases e
end Go.Proofs
namespace Go.Proofs
def tY(P P':List UInt8→ByteArray→Prop)(k:List UInt8):Prop:=∀k' v',P' k' v'↔k'≠k∧P k' v'
theorem MX{P:List UInt8→ByteArray→Prop}{k:List UInt8}(h:∀v,¬P k v):tY P P k:=fun k' v'=>⟨fun hp=>⟨fun e=>h v' (e▸hp),hp⟩,fun h=>h.2⟩
theorem MW{w:Option ByteArray}{F:Fo}(h:ie F):tY (vf w F) (vf none F) []:=by
 intro k' v';unfold vf;constructor
 ·rintro(⟨_,f⟩|hi)
  ·cases f
  ·exact⟨wN h hi,.inr hi⟩
 ·rintro⟨e,⟨f,_⟩|hi⟩
  ·exact absurd f e
  ·exact.inr hi
theorem Fd{w:Option ByteArray}{F F':Fo}{k:List UInt8}(hk:k≠[])(h:tY(tC F)(tC F') k):tY (vf w F) (vf w F') k:=by
 intro k' v';unfold vf;rw[h k' v'];constructor
 ·rintro(⟨e,f⟩|hi)
  ·exact⟨fun e'=>hk (e'.symm.trans e),.inl ⟨e,f⟩⟩
  ·exact⟨hi.1,.inr hi.2⟩
 ·rintro⟨e,hi|hi⟩
  ·exact.inl hi
  ·exact.inr ⟨e,hi⟩
theorem MY{lab r:List UInt8}{w w':Option ByteArray}{F F':Fo}(h:tY(vf w F)(vf w' F') r):tY (vg (lab,w,F)) (vg (lab,w',F')) (lab++r):=by
 intro k' v';constructor
 ·rintro⟨s,e,hs⟩
  obtain⟨h1,h2⟩:=(h s v').1 hs;exact⟨fun e'=>h1 (iq (e.symm.trans e')),s,e,h2⟩
 ·rintro⟨h1,s,e,hs⟩
  exact⟨s,e,(h s v').2 ⟨fun e'=>h1 (by rw[e,e']),hs⟩⟩
theorem Po{F:Fo}{i:Nat}{m:Bn}{k:List UInt8}(h:ie F)(hi:i<F.toL.length)(ek:hd F.toL[i].1=hd k)(hp:tY(vg F.toL[i])(vg m) k):tY (tC F) (tC (.ofL (F.toL.set i m))) k:=by
 intro k' v';have hc:=eE.1 h;rw[iJ,iJ,Fo.to_of];constructor
 ·rintro⟨n,hn,hr⟩
  rcases(mp hi (vo h hi)).1 hn with rfl|⟨hn,hne⟩
  ·obtain⟨h1,h2⟩:=(hp k' v').1 hr
   exact⟨h1,_,bF hi,h2⟩
  ·refine⟨fun e=>hne ?_,n,hn,hr⟩
   obtain⟨r,e',_⟩:=hr;refine Au h hn (bF hi) ?_;rw[ek,←e,e',pk (hc.2 n hn).1]
 ·rintro⟨h1,n,hn,hr⟩
  by_cases e:n=F.toL[i]
  ·exact⟨m,(mp hi (vo h hi)).2 (.inl rfl),(hp k' v').2 ⟨h1,by rw[←e];exact hr⟩⟩
  ·exact⟨n,(mp hi (vo h hi)).2 (.inr ⟨hn,e⟩),hr⟩
theorem C7{α:Type}{l:List α}{i:Nat}(hi:i<l.length){x:α}(nd:∀j(hj:j<l.length),j≠i→l[j]≠l[i]):x∈l.take i++l.drop (i+1)↔x∈l∧x≠l[i]:=by
 constructor
 ·intro h
  rcases be.1 h with h|h
  ·obtain⟨j,hj,e⟩:=aW h
   rw[aI]at hj;rw[jO]at e;exact⟨List.mem_of_mem_take h,by rw[←e];exact nd j (by omega) (by omega)⟩
  ·obtain⟨j,hj,e⟩:=aW h
   rw[aO]at hj;rw[List.getElem_drop]at e;exact⟨List.mem_of_mem_drop h,by rw[←e];exact nd (i+1+j) (by omega) (by omega)⟩
 ·rintro⟨h,hne⟩
  obtain⟨j,hj,e⟩:=aW h;rcases pO j i with hl|hl|hl
  ·exact be.2 (.inl (nG (i:=j) (h:=by rw[aI];omega) (by rw[jO];exact e)))
  ·subst hl;exact absurd e.symm hne
  ·refine be.2 (.inr (nG (i:=j-(i+1)) (h:=by rw[aO];omega) ?_))
   rw[List.getElem_drop];have:i+1+(j-(i+1))=j:=by omega
   simp only[this];exact e
theorem SC{F:Fo}{i:Nat}(h:ie F):ie (.ofL (F.toL.take i++F.toL.drop (i+1))):=by
 have hc:=eE.1 h;rw[eE,Fo.to_of];have hs:(F.toL.take i++F.toL.drop (i+1)).Sublist F.toL:=by rw[←List.eraseIdx_eq_take_drop_succ];exact List.eraseIdx_sublist ..
 exact⟨hc.1.sublist hs,fun n hn=>hc.2 n (hs.subset hn)⟩
theorem Pp{F:Fo}{i:Nat}{k:List UInt8}(h:ie F)(hi:i<F.toL.length)(ek:hd F.toL[i].1=hd k)(hp:∀k' v',vg F.toL[i] k' v'→k'=k):tY (tC F) (tC (.ofL (F.toL.take i++F.toL.drop (i+1)))) k:=by
 intro k' v';have hc:=eE.1 h;rw[iJ,iJ,Fo.to_of];constructor
 ·rintro⟨n,hn,hr⟩
  obtain⟨hn,hne⟩:=(C7 hi (vo h hi)).1 hn;refine⟨fun e=>hne ?_,n,hn,hr⟩
  obtain⟨r,e',_⟩:=hr;refine Au h hn (bF hi) ?_;rw[ek,←e,e',pk (hc.2 n hn).1]
 ·rintro⟨h1,n,hn,hr⟩
  by_cases e:n=F.toL[i]
  ·exact absurd (hp k' v' (by rw[←e];exact hr)) h1
  ·exact⟨n,(C7 hi (vo h hi)).2 ⟨hn,e⟩,hr⟩
def SJ(n:Bn)(o:Option Bn):Prop:=(o=none∧∀k v,¬vg n k v)∨∃m,o=some m∧Jw m∧hd m.1=hd n.1∧∀k v,vg m k v↔vg n k v
theorem O9{lab:List UInt8}{w:Option ByteArray}{F:Fo}(hl:lab≠[])(hc:ie F)(h:w.isSome∨2≤F.toL.length):SJ (lab,w,F) (some (lab,w,F)):=.inr ⟨_,rfl,⟨hl,h,hc⟩,rfl,fun _ _=>Iff.rfl⟩
theorem Pa{lab:List UInt8}{F:Fo}(h:F.toL= []):SJ (lab,none,F) none:=by
 refine.inl ⟨rfl,fun k v hi=>?_⟩
 obtain⟨r,_,⟨_,h'⟩|h'⟩:=hi
 ·cases h'
 ·obtain⟨n,hn,_⟩:=iJ.1 h'
  simp only at hn;rw[h]at hn;cases hn
theorem QG{lab lk:List UInt8}{wk:Option ByteArray}{F Fk:Fo}(hl:lab≠[])(hc:ie F)(h:F.toL= [(lk,wk,Fk)]):SJ (lab,none,F) (some (lab++lk,wk,Fk)):=by
 have eF:F=.cons lk wk Fk .nil:=by
  rw[←Fo.of_to F,h];rfl
 have hn:=(eE.1 hc).2 (lk,wk,Fk) (by rw[h];exact aC.2 rfl);refine.inr ⟨_,rfl,⟨fun e=>hl (List.append_eq_nil_iff.1 e).1,hn.2.1,hn.2.2⟩,pk hl,fun k v=>?_⟩
 have:=HF (lab:=lab++lk) (w:=wk) (F:=Fk) lab.length k v;rw[List.take_left,fP]at this;rw[eF];exact this.symm
end Go.Proofs
namespace Go.Proofs
open Go Go.Lift
theorem mL(s:ByteArray):s.data.toList.length=s.size:=by simp
theorem Rn(a b:ByteArray):(a++b).data.toList=a.data.toList++b.data.toList:=by rw[ByteArray.data_append,Array.toList_append]
theorem O6{a b:ByteArray}{h:af}{K:Bool→af→Prop}(hk:K(decide(b.data.toList<+:a.data.toList)) h):HC PG ue [.string a,.string b] [.c .bool] K h:=by
 refine Gr a b ?_;unfold yh;refine Cf a b ?_;unfold uS;refine qQ a b ?_;unfold kE;have la:=mL a;have lb:=mL b;refine ay (fun hge=>?_)fun hlt=>?_
 ·refine⟨⟨by omega,by omega⟩,?_⟩
  rw[dD,aY];have e:decide (a.extract 0 b.size=b)=decide (b.data.toList<+:a.data.toList):=by
   rw[decide_eq_decide,←sA,E9,List.prefix_iff_eq_take,lb];exact eq_comm
  rw[e];exact hk
 ·have e:decide (b.data.toList<+:a.data.toList)=false:=decide_eq_false fun hp=>by
   have:=hp.length_le;omega
  rw[e]at hk;exact hk
theorem Tp{a b:ByteArray}{h:af}{K:ByteArray×Bool→af→Prop}(h1:∀s:ByteArray,a.data.toList=b.data.toList++s.data.toList→K(s,true) h)(h2:(∀r,a.data.toList≠b.data.toList++r)→K(⟨#[]⟩,false) h):HC PG yR [.string a,.string b] [.c .str,.c .bool] K h:=by
 refine Nj a b ?_;unfold FH;refine O6 ?_;have la:=mL a;have lb:=mL b;by_cases hp:b.data.toList<+:a.data.toList
 ·rw[decide_eq_true hp]
  have hle:=hp.length_le;refine al.2 ⟨⟨by omega,by omega⟩,?_⟩
  rw[aY];refine h1 _ ?_;rw[Fa];obtain⟨r,e⟩:=hp;rw[←e,←lb,fP]
 ·rw[decide_eq_false hp]
  exact ar.2 (h2 fun r e=>hp ⟨r,e.symm⟩)
def Uh(W:Nat→Prop)(h:af)(r:Option Addr)(o:Option Bn):Prop:=(r=none∧o=none)∨∃b sl m,r=some ⟨b,0,none⟩∧o=some m∧sl.data.toList=m.1∧RxN W h b sl m.2.1 m.2.2
theorem OS{W:Nat→Prop}{h:af}{b:Nat}{sl:ByteArray}{w:Option ByteArray}{F:Fo}(r:RxN W h b sl w F)(hW:∀y,W y→y<h.size)(hc:ie F)(hne:sl.data.toList≠[])(hs1:sl.size≤1000000)(hs2:∀k v,tC F k v→k.length≤1000000)
  {K:Option Addr→af→Prop}(hk:∀h' r o,Upd No h h'→SJ(sl.data.toList,w,F) o→Uh W h' r o→K r h'):HC PG pq [.pointer (some ⟨b,0,none⟩),.pointer none] [.c .ptr] K h:=by
 refine AF _ none ?_;unfold tJ aj bP;have hr:=r;obtain⟨val,s,ow,ks,hb,hv,hs,hcap,hF⟩:=r;have hL:=lU.1 hF;have hn:=ou hc;have hlen:=hs.len;rw[hL.1]at hlen;refine Join.intro (fun t h'=>t=decide (w.isSome∨2≤F.toL.length)∧h'=h) (fun R hR=>⟨_,rfl,w.isSome,gD (i:=1) hb,?_⟩) ?_
 ·cases w with
  |some v=>exact ar.2 (hR _ _ ⟨rfl,rfl⟩)
  |none=>
   refine al.2 ⟨_,rfl,s,gD (i:=3) hb,hR _ _ ⟨?_,rfl⟩⟩;rw[decide_eq_decide];constructor
   ·intro h;exact.inr (by omega)
   ·rintro(h|h)
    ·cases h
    ·omega
 ·rintro t h' ⟨rfl,rfl⟩
  refine ay (fun h2=>?_)fun h2=>?_
  ·exact hk h' _ _ (Upd.refl _ _) (O9 hne hc h2) (.inr ⟨b,sl,_,rfl,rfl,rfl,hr⟩)
  ·have hw:w=none:=by
    cases w with
    |none=>rfl
    |some v=>exact absurd (.inl rfl) h2
   subst hw;have hl2:F.toL.length<2:=by
    rcases cg F.toL.length 2 with h|h
    ·exact h
    ·exact absurd (.inr h) h2
   refine⟨_,rfl,s,gD (i:=3) hb,?_⟩;match hFL:F.toL,hl2 with
   | [],_=>
    rw[hFL]at hlen;have e:((s.len:Int)==(0:Int))=true:=by rw[beq_iff_eq,hlen];rfl
    rw[e];exact ar.2 (hk h' _ _ (Upd.refl _ _) (Pa hFL) (.inl ⟨rfl,rfl⟩))
   | [(lk,wk,Fk)],_=>
    rw[hFL]at hlen;have e:((s.len:Int)==(0:Int))=false:=by rw[beq_eq_false_iff_ne,hlen];simp
    rw[e];have hmem:(lk,wk,Fk)∈F.toL:=by rw[hFL];exact aC.2 rfl
    have hcm:=(eE.1 hc).2 _ hmem;have h0:0<F.toL.length:=by rw[hFL];exact oY
    obtain⟨kb,ksl,hki,hkl,hkn⟩:=hL.at h0;have e0:F.toL[0]=(lk,wk,Fk):=by simp only[hFL];rfl
    rw[e0]at hkl hkn;simp only at hkl hkn;obtain⟨a,ha,_,hvv⟩:=hs.at0 hki;obtain⟨kval,kss,kow,kks,hkb,hkv,hkss,hkcap,hkF⟩:=hkn;have hkL:=lU.1 hkF;have hkn2:=ou hcm.2.2;refine al.2 ⟨_,rfl,s,gD (i:=3) hb,⟨by omega,by rw[hlen];simp⟩,a,ha,some ⟨kb,0,none⟩,hvv,?_⟩
    refine o9 hkb hkss (by rw[hkL.1];exact hkn2)fun h1 s1 b1 ho1 hu1=>?_
    obtain⟨rr,vv,hin⟩:=rX hc _ hmem;have hbd:=hs2 (lk++rr) vv (iJ.2 ⟨_,hmem,rr,rfl,hin⟩);rw[ad]at hbd;have hlkl:lk.length=ksl.size:=by rw[←hkl];exact mL ksl
    refine⟨_,rfl,sl,gD (i:=0) (hu1.get0 hb),_,rfl,ksl,gD (i:=0) b1,by omega,?_⟩
    have hbl:b<h'.size:=bD hb;refine vj b1 fun h2 b2 hu2=>?_
    have hu02:Upd No h' h2:=hu1.own hu2 (au _);have ho2:=ho1.upd hu2 fun x hx e=>by have e:x=h'.size:=e;have:=hx.1;omega
    refine hk h2 _ _ hu02 (QG hne hc hFL) (.inr ⟨h'.size,sl++ksl,_,rfl,rfl,by rw[←hkl];exact Rn sl ksl,⟨kval,s1,none,kks,b2,hkv,ho2.sl (fun x hx _ hw=>by have:=hW _ hw;have:=hx.1;omega),⟨ho2.cap,fun hx=>lB _ (hW _ hx)⟩,RxF.upd0 hu02 hkF⟩⟩)
set_option maxHeartbeats 1000000 in
theorem Qp{W:Nat→Prop}:∀(n:Nat) {b:Nat} {sl:ByteArray} {w:Option ByteArray} {F:Fo} {h:af} (k:ByteArray),k.size<n→RxN W h b sl w F→(∀y,W y→y<h.size)→ie F→(∀j v,tC F j v→j.length≤1000000)→∀{K:(Option Addr)×Bool→af→Prop},
  (∀h' b' w' F' gone,Upd No h h'→RxN W h' b' sl w' F'→ie F'→tY (vf w F) (vf w' F') k.data.toList→(gone=false→b'=b∧∀v,¬vf w F k.data.toList v)→(gone=true→∃v,vf w F k.data.toList v)→K (some ⟨b',0,none⟩,gone) h')→
  HC PG lY [.pointer (some ⟨b,0,none⟩),.pointer none,.string k] [.c .ptr,.c .bool] K h:=by
 intro n;induction n with
 |zero=>intro b sl w F h k hk;omega
 |succ n ih=>
  intro b sl w F h k hkn r hW hc hbd K hk;refine AH (some ⟨b,0,none⟩) none k ?_;unfold tM aj bP;have hr:=r;obtain⟨val,s,ow,ks,hb,hv,hs,hcap,hF⟩:=r;have hL:=lU.1 hF;have hn:=ou hc;have hcan:=eE.1 hc;have stay:∀{h':af},Upd No h h'→(∀v,¬vf w F k.data.toList v)→K (some ⟨b,0,none⟩,false) h':=fun hu hno=>hk _ b w F false hu (hr.upd0 hu) hc (MX hno) (fun _=>⟨rfl,hno⟩)fun h=>by cases h
  rw[dD];refine ay (fun hk0=>?_)fun hk0=>?_
  ·have hke:k.data.toList= []:=by rw[hk0]
   rw[hke]at hk stay;refine⟨_,rfl,w.isSome,gD (i:=1) hb,?_⟩;cases hw:w with
   |none=>
    refine ar.2 (stay (Upd.refl _ _)fun v hin=>?_)
    rcases hin with⟨_,h⟩|h
    ·rw[hw]at h;cases h
    ·exact absurd rfl (wN hc h)
   |some u=>
    refine al.2 (o9 hb hs (by rw[hL.1];exact hn)fun h1 s1 b1 ho1 hu1=>?_)
    refine⟨_,rfl,RC (i:=1) b1 (show 1<5 by decide),F9 (i:=1) (c':=yD sl false val s1 none) b1 rfl fun h2 b2 hu2=>?_⟩
    refine⟨_,rfl,RC (i:=2) b2 (show 2<5 by decide),F9 (i:=2) (c':=yD sl false ⟨#[]⟩ s1 none) b2 rfl fun h3 b3 hu3=>?_⟩
    have hu03:Upd No h h3:=hu1.own (hu2.tr hu3) (au _);have ho3:=ho1.upd (hu2.tr hu3)fun x hx e=>by have e:x=h.size:=e;have:=hx.1;omega
    refine hk h3 h.size none F true hu03 ⟨⟨#[]⟩,s1,none,ks,b3,rfl,ho3.sl (fun x hx _ hw=>by have:=hW _ hw;have:=hx.1;omega),⟨ho3.cap,fun hx=>lB _ (hW _ hx)⟩,RxF.upd0 hu03 hF⟩ hc (MW hc) (fun h=>by cases h)fun _=>⟨u,.inl ⟨rfl,hw⟩⟩
  ·have hkne:k.data.toList≠[]:=fun e=>hk0 (by cases k;exact congrArg ByteArray.mk (Array.toList_inj.1 e))
   obtain⟨c0,hc0,hc0e⟩:=MR hkne;refine⟨c0,Int.le_refl _,hc0,?_⟩;have hlk:k.data.toList.length=k.size:=mL k;refine Hc hr hc (c:=c0.toNat) (UInt8.toNat_lt _)fun i ok hil hlo hhi hok=>?_
   rw[hc0e]at hlo hhi hok;cases ok with
   |false=>
    refine ar.2 (stay (Upd.refl _ _)fun v hin=>?_)
    rcases hin with⟨h,_⟩|hin
    ·exact hkne h
    ·obtain⟨n',hn',e,_⟩:=yM hc hin
     obtain⟨j,hj,rfl⟩:=aW hn';rcases cg j i with hl|hl
     ·have:=hlo j hj hl;omega
     ·have h1:=hhi j hj hl
      have h2:=hhi i (by omega) (au _);rcases cg i j with hl2|hl2
      ·have h3:=bS.1 hcan.1 i j (by omega) hj hl2
       omega
      ·have:i=j:=by omega
       subst this;have:=hok.2 ⟨hj,e⟩;cases this
   |true=>
    obtain⟨hi,hie⟩:=hok.1 rfl;refine al.2 ⟨_,rfl,s,gD (i:=3) hb,?_⟩;obtain⟨kb,ksl,hki,hkl,hkn'⟩:=hL.at hi;have hmem:F.toL[i]∈F.toL:=bF hi;have hcm:=hcan.2 _ hmem;obtain⟨a,ha,_,hvv⟩:=hs.at0 hki;have hslen:=hs.len;rw[hL.1]at hslen;have hlt1:(i:Int)<((s.len:Nat):Int):=by omega
    refine⟨⟨by simp only;omega,hlt1⟩,a,ha,some ⟨kb,0,none⟩,hvv,_,rfl,?_⟩;obtain⟨kval,kss,kow,kks,hkb,_⟩:=id hkn';have hin_m:∀v,tC F k.data.toList v→vg F.toL[i] k.data.toList v:=fun v hin=>by
     obtain⟨n',hn',e,hN⟩:=yM hc hin;rw[←Au hc hn' hmem (by omega)];exact hN
    have hm_in:∀j v,vg F.toL[i] j v→tC F j v:=fun j v hin=>iJ.2 ⟨_,hmem,hin⟩
    have hcanset:∀{m:Bn},Jw m→hd m.1=hd F.toL[i].1→ie (.ofL (F.toL.set i m)):=fun h1 h2=>OC hc hi h1 h2
    have hdset:∀{m:Bn},tY (vg F.toL[i]) (vg m) k.data.toList→tY (tC F) (tC (.ofL (F.toL.set i m))) k.data.toList:=fun hp=>Po hc hi hie hp
    have hddel:(∀k' v',vg F.toL[i] k' v'→k'=k.data.toList)→tY (tC F) (tC (.ofL (F.toL.take i++F.toL.drop (i+1)))) k.data.toList:=fun hp=>Pp hc hi hie hp
    have hrset:∀{h':af} {k':Option Addr} {m:Bn},Upd No h h'→Kid W h' k' m→RxL W h' (ks.set i k') (F.toL.set i m):=fun hu hkd=>(hL.upd0 hu).set hi hkd
    generalize F.toL[i]=m at hkl hkn' hcm hin_m hm_in hcanset hdset hddel hie;obtain⟨lab,wk,Fk⟩:=m;simp only at hkl hkn' hcm hie hcanset;refine⟨ksl,gD (i:=0) hkb,Tp (fun rest hrest=>?_)fun hno=>?_⟩
    ·rw[hkl]at hrest
     have hlne:lab.length≠0:=fun e=>hcm.1 (List.length_eq_zero_iff.1 e)
     have hrl:rest.size<k.size:=by
      rw[←mL rest,←hlk,hrest,ad];omega
     refine al.2 ⟨_,rfl,s,gD (i:=3) hb,⟨by simp only;omega,hlt1⟩,a,ha,some ⟨kb,0,none⟩,hvv,?_⟩;have hkbd:∀j v,tC Fk j v→j.length≤1000000:=fun j v hin=>by
      have:=hbd _ v (hm_in (lab++j) v ⟨j,rfl,.inr hin⟩);rw[ad]at this;omega
     refine ih rest (by omega) hkn' hW hcm.2.2 hkbd fun h2 b2 w2 F2 gone hu2 rn2 hc2 hd2 hg0 hg1=>?_
     cases gone with
     |false=>
      refine ar.2 (stay hu2 fun v hin=>?_)
      rcases hin with⟨h,_⟩|hin
      ·exact hkne h
      ·obtain⟨r',e,hr'⟩:=hin_m v hin
       simp only at e;rw[hrest]at e;exact(hg0 rfl).2 v (by rw[iq e];exact hr')
     |true=>
      obtain⟨v0,hv0⟩:=hg1 rfl;have hthere:∃v,vf w F k.data.toList v:=⟨v0,.inr (hm_in _ _ ⟨_,hrest,hv0⟩)⟩;have hdn:tY (vg (lab,wk,Fk)) (vg (lab,w2,F2)) k.data.toList:=by
       rw[hrest];exact MY hd2
      refine al.2 (o9 (hu2.get0 hb) (hs.upd hu2 fun _ h=>h.elim) (by rw[hL.1];exact hn)fun h3 s3 b3 ho3 hu3=>?_)
      have hu03:=hu2.tr hu3;obtain⟨rr,vv,hin⟩:=rX hc _ hmem;have hlb:lab.length≤1000000:=by
       have:=hbd _ v0 (hm_in _ _ ⟨_,hrest,hv0⟩);rw[hrest,ad]at this;omega
      have hb2:∀j v,tC F2 j v→j.length≤1000000:=fun j v hin=>by
       rcases((hd2 j v).1 (.inr hin)).2 with⟨e,_⟩|h
       ·rw[e];simp
       ·exact hkbd j v h
      refine OS (W:=Pro W h2 h3) ((rn2.less Pro.hm).upd0 hu3) (Pro.lt (fun y hy=>aJ (hW y hy) hu2.size) hu3) hc2 (by rw[hkl];exact hcm.1) (by rw[←mL ksl,hkl];exact hlb) hb2 fun h4 r4 o4 hu4 hm4 hr4=>?_
      rw[hkl]at hm4;have b4:=hu4.get0 b3;have ho4:=ho3.upd hu4 fun _ _ h=>h
      have hu04:=hu03.tr hu4;have hz2:h.size≤h2.size:=hu2.size;have hil:i<ks.length:=by rw[hL.1];exact hi
      have hlen4:=ho4.len;rcases hr4 with⟨rfl,rfl⟩|⟨b4',sl4,m4,rfl,rfl,hsl4,rn4⟩
      ·rcases hm4 with⟨_,hno⟩|⟨_,e,_⟩
       ·have ew:ac .i64 ((i:Int)+1)=((i+1:Nat):Int):=by rw[cR (by omega)];omega
        refine ar.2 ⟨_,rfl,s3,gD (i:=3) b4,?_⟩;simp only;rw[ew];refine MZ ho4 hil (by rw[hL.1];omega)fun s5 h5 ho5 hu5=>?_
        have b5:=hu5.get b4 fun hx=>by have:=hx.1;omega
        refine⟨_,rfl,RC (i:=3) b5 (show 3<5 by decide),F9 (i:=3) (c':=yD sl w.isSome val s5 none) b5 rfl fun h6 b6 hu6=>?_⟩
        have hu06:Upd No h h6:=(hu04.trans hu5 fun x hx=>.inr (by have:=hx.1;omega)).own hu6 hz2
        have ho6:=ho5.upd hu6 fun x hx e=>by have e:x=h2.size:=e;have:=hx.1;omega
        refine hk h6 h2.size w _ true hu06 ⟨val,s5,none,_,b6,hv,ho6.sl (fun x hx _ hw=>by have:=hW _ hw;have:=hx.1;omega),⟨ho6.cap,fun hx=>by have:=hW _ hx;omega⟩,lU.2 (by rw[Fo.to_of];exact((hL.upd0 hu06).take i).app ((hL.upd0 hu06).drop (i+1)))⟩ (SC hc) (Fd hkne (hddel fun k' v' hN=>?_)) (fun h=>by cases h)fun _=>hthere
        refine Classical.byContradiction fun hne=>hno k' v' ((hdn k' v').2 ⟨hne,hN⟩)
       ·cases e
      ·rcases hm4 with⟨e,_⟩|⟨m',e,hcn,hhd,hiff⟩
       ·cases e
       ·cases e
        obtain⟨a3,ha3,hab,hw3,ho5,hu5⟩:=OwnS.setAt ho4 hil (some ⟨b4',0,none⟩);refine al.2 ⟨_,rfl,s3,gD (i:=3) b4,⟨by simp only;omega,by simp only;omega⟩,a3,ha3,?_⟩
        have hw1:Wr h4 (adr a3 (i*1)):=by
         rcases hw3 with hw|⟨b',hb',hw⟩
         ·cases hw
         ·cases hb';exact hw 0 (by simp)
        refine⟨hw1,bC ?_⟩;have b5:=hu5.get b4 fun e=>by have e:h2.size=a3.block:=e;have:=hab.1;omega
        have hu45:Upd No h2 _:=(hu3.tr hu4).trans hu5 fun x hx=>.inr (by have hx:x=a3.block:=hx;have:=hab.1;omega)
        have hu05:=hu2.tr hu45;have eset:ks.set i (some ⟨b4',0,none⟩)=ks.take i++some ⟨b4',0,none⟩::ks.drop (i+1):=by rw[List.set_eq_take_append_cons_drop,if_pos hil]
        rw[←eset]at ho5;have rn5:=(rn4.updM (M:=(·=a3.block)) hu5 fun y hy=>.inl (.inr (by have hy:y=a3.block:=hy;have:=hab.1;have:=hab.2;omega))).less (W':=W)fun y hy=>.inl (.inl hy)
        exact hk _ h2.size w _ true hu05 ⟨val,s3,none,_,b5,hv,ho5.sl (fun x hx _ hw=>by have:=hW _ hw;have:=hx.1;omega),⟨ho5.cap,fun hx=>by have:=hW _ hx;omega⟩,lU.2 (by rw[Fo.to_of];exact hrset hu05 ⟨b4',sl4,rfl,hsl4,rn5⟩)⟩ (hcanset hcn hhd) (Fd hkne (hdset fun k' v'=>by rw[hiff k' v'];exact hdn k' v')) (fun h=>by cases h)fun _=>hthere
    ·rw[hkl]at hno
     refine ar.2 (stay (Upd.refl _ _)fun v hin=>?_)
     rcases hin with⟨h,_⟩|hin
     ·exact hkne h
     ·obtain⟨r',e,_⟩:=hin_m v hin
      exact hno r' e
end Go.Proofs
namespace Go.Proofs
open Go Go.Lift
theorem O0{w:Option ByteArray}{F:Fo}{l:List Pr}(h:∀k v,(k,v)∈yH w F↔∃p∈l,p.1.data.toList=k∧p.2=v)(hf:Fit l):∀j v,tC F j v→j.length≤1000000:=fun j v hi=>by
 obtain⟨p,hp,e,_⟩:=(h j v).1 (mq.2 (.inr hi));have:=(hf p hp).1;rw[←e,mL];omega
theorem Ir{W:Nat→Prop}{h:af}{b:Nat}{l:List Pr}(t:RadAt W h b l)(hW:∀y,W y→y<h.size)(hf:Fit l)(k:ByteArray){K:Option Addr×Bool→af→Prop}
  (hk:∀h' b',Upd No h h'→RadAt W h' b'(nr k l)→(cp l k=false→b'=b)→K(some ⟨b',0,none⟩,cp l k) h'):
  HC PG vz [.pointer none,.pointer (some ⟨b,0,none⟩),.string k] [.c .ptr,.c .bool] K h:=by
 refine Jn none (some ⟨b,0,none⟩) k ?_;unfold AX;refine Ha (.inr ⟨b,rfl,t⟩) hW fun h2 b2 t2 hu2 hb2=>?_
 have hbb:b2=b:=by
  rcases hb2 with e|e
  ·cases e;rfl
  ·cases e
 subst hbb;obtain⟨w,F,r1,r2,r3⟩:=t2.ex;refine Qp (k.size+1) k (by omega) r1 (fun y hy=>aJ (hW y hy) hu2.size) r2 (O0 r3 hf)fun h3 b3 w' F' gone hu3 rn3 hc3 hd3 hg0 hg1=>?_
 have hin:∀v,vf w F k.data.toList v↔(k,v)∈l:=fun v=>by
  rw[←mq,r3];constructor
  ·rintro⟨p,hp,e1,rfl⟩
   rw[←sA.1 e1];exact hp
  ·intro hp;exact⟨_,hp,rfl,rfl⟩
 have hgt:gone=cp l k:=by
  cases gone with
  |false=>
   refine(wF fun q hq e=>(hg0 rfl).2 q.2 ((hin _).2 ?_)).symm
   rw[←e];exact hq
  |true=>
   obtain⟨v,hv⟩:=hg1 rfl;exact(bT.2 ⟨_,(hin v).1 hv,decide_eq_true rfl⟩).symm
 subst hgt;refine hk h3 b3 (hu2.tr hu3) ⟨w',F',rn3,hc3,fun j v=>?_⟩fun ht=>(hg0 ht).1
 rw[mq,hd3 j v,←mq,r3];constructor
 ·rintro⟨hne,q,hq,rfl,rfl⟩
  exact⟨q,IL.2 ⟨hq,fun e=>hne (by rw[e])⟩,rfl,rfl⟩
 ·rintro⟨q,hq,rfl,rfl⟩
  obtain⟨hq,hne⟩:=IL.1 hq;exact⟨fun e=>hne (sA.1 e),q,hq,rfl,rfl⟩
theorem JT{W:Nat→Prop}{x:Hs}{h:af}{kind:Int}{t:Tr}{l:List Pr}(i:TreeIs W h kind x t l)(hW:∀y,W y→y<h.size)(hr:bU l)(hf:Fit l)(hn:l.length≤1000000)(k:ByteArray)(hk1:k.size≤256){K:Tr×Int→af→Prop}
  (hk:∀h' t',TreeIs W h' kind x t'(nr k l)→(cp l k=false→t'=t)→Upd No h h'→K(t',if cp l k then 0 else 4) h'):HC PG np [LZ t,.pointer none,.string k] [.agg [.int .i64,.int .u64,.int .u64,.int .u64,.ptr,.ptr],.c (.int .i64)] K h:=by
 refine xL t none k ?_;unfold ry aj;refine bH fun h1 b1 k1=>bH fun h2 b2 k2=>?_
 have z1:=bD b1;have z2:=bD b2;have s1:h.size≤h1.size:=k1.size;have k02:=k1.tr k2;refine ux (v:=⟨#[]⟩) hk1 (bf 4096) (al.2 ?_);have c1:=k2.get0 b1;refine⟨_,vc c1 0,_,vc c1 1,_,vc c1 2,_,vc c1 3,_,vc c1 4,_,vc c1 5,?_⟩;refine bH fun h3 b3 k3=>?_
 have z3:=bD b3;have s2:h1.size≤h2.size:=k2.size;refine dd (c:=pX Ig) (vs:=pX t) b3 rfl fun h4 b4 hu4=>?_
 have k04:Upd No h h4:=(k02.tr k3).own hu4 (by omega);have k24:Upd No h2 h4:=k3.own hu4 (au _);have s4:h3.size≤h4.size:=hu4.size;have c4:=k24.get0 c1;have d4:=k24.get0 b2;have i4:=i.pro k04;have hW4:=Pro.lt hW k04;have fin:∀{h6:af} {t':Tr},Upd No h h6→h6[h.size]?=some (.cells (pX t').toArray bE (0,0))→h6[h1.size]?=some (.cells (pX Ig).toArray bE (0,0))→h6[h2.size]?=some (.cells (pX t).toArray bE (0,0))→TreeIs (Pro W h h4) h6 kind x t' (nr k l)→(cp l k=false→t'=t)→
   CondP (!there l k) (∃v41:Int,aN h6 (adr (ag h2) 0)=some (.int .i64 v41)∧
    ∃v42:Int,aN h6 (adr (ag h2) 1)=some (.int .u64 v42)∧
    ∃v43:Int,aN h6 (adr (ag h2) 2)=some (.int .u64 v43)∧
    ∃v44:Int,aN h6 (adr (ag h2) 3)=some (.int .u64 v44)∧
    ∃v45:Option Addr,aN h6 (adr (ag h2) 4)=some (.pointer v45)∧
    ∃v46:Option Addr,aN h6 (adr (ag h2) 5)=some (.pointer v46)∧
    (dq h6 (some (ag h1)) 0 [.int .i64 v41,.int .u64 v42,.int .u64 v43,.int .u64 v44,.pointer v45,.pointer v46]∧
     At (aV h6 (ag h1) 0 [.int .i64 v41,.int .u64 v42,.int .u64 v43,.int .u64 v44,.pointer v45,.pointer v46]) (fun h47=>
      ∃v48:Int,aN h47 (adr (ag h1) 0)=some (.int .i64 v48)∧
      ∃v49:Int,aN h47 (adr (ag h1) 1)=some (.int .u64 v49)∧
      ∃v50:Int,aN h47 (adr (ag h1) 2)=some (.int .u64 v50)∧
      ∃v51:Int,aN h47 (adr (ag h1) 3)=some (.int .u64 v51)∧
      ∃v52:Option Addr,aN h47 (adr (ag h1) 4)=some (.pointer v52)∧
      ∃v53:Option Addr,aN h47 (adr (ag h1) 5)=some (.pointer v53)∧
      K ((v48,v49,v50,v51,v52,v53),4) h47))) (
    ∃v54:Int,aN h6 (adr (ag h) 0)=some (.int .i64 v54)∧
    ∃v55:Int,aN h6 (adr (ag h) 1)=some (.int .u64 v55)∧
    ∃v56:Int,aN h6 (adr (ag h) 2)=some (.int .u64 v56)∧
    ∃v57:Int,aN h6 (adr (ag h) 3)=some (.int .u64 v57)∧
    ∃v58:Option Addr,aN h6 (adr (ag h) 4)=some (.pointer v58)∧
    ∃v59:Option Addr,aN h6 (adr (ag h) 5)=some (.pointer v59)∧
    (dq h6 (some (ag h1)) 0 [.int .i64 v54,.int .u64 v55,.int .u64 v56,.int .u64 v57,.pointer v58,.pointer v59]∧
     At (aV h6 (ag h1) 0 [.int .i64 v54,.int .u64 v55,.int .u64 v56,.int .u64 v57,.pointer v58,.pointer v59]) (fun h60=>
      ∃v61:Int,aN h60 (adr (ag h1) 0)=some (.int .i64 v61)∧
      ∃v62:Int,aN h60 (adr (ag h1) 1)=some (.int .u64 v62)∧
      ∃v63:Int,aN h60 (adr (ag h1) 2)=some (.int .u64 v63)∧
      ∃v64:Int,aN h60 (adr (ag h1) 3)=some (.int .u64 v64)∧
      ∃v65:Option Addr,aN h60 (adr (ag h1) 4)=some (.pointer v65)∧
      ∃v66:Option Addr,aN h60 (adr (ag h1) 5)=some (.pointer v66)∧
      K ((v61,v62,v63,v64,v65,v66),0) h60))):=fun{h6 t'} k6 e0 e1 e2 i6 hsm=>by
  cases ht:cp l k with
  |false=>
   rw[ht]at hk hsm;have hte:=hsm rfl;subst hte;refine ar.2 ⟨_,vc e2 0,_,vc e2 1,_,vc e2 2,_,vc e2 3,_,vc e2 4,_,vc e2 5,?_⟩;refine dd (c:=pX Ig) (vs:=pX t') e1 rfl fun h7 b7 hu7=>?_
   refine⟨_,vc b7 0,_,vc b7 1,_,vc b7 2,_,vc b7 3,_,vc b7 4,_,vc b7 5,?_⟩;exact hk h7 t' ((i6.updM hu7 (fun y hy=>.inl (.inr (by have hy:y=h1.size:=hy;omega)))).less Pro.sub) (fun _=>rfl) (k6.own hu7 s1)
  |true=>
   rw[ht]at hk hsm;refine al.2 ⟨_,vc e0 0,_,vc e0 1,_,vc e0 2,_,vc e0 3,_,vc e0 4,_,vc e0 5,?_⟩;refine dd (c:=pX Ig) (vs:=pX t') e1 rfl fun h7 b7 hu7=>?_
   refine⟨_,vc b7 0,_,vc b7 1,_,vc b7 2,_,vc b7 3,_,vc b7 4,_,vc b7 5,?_⟩;exact hk h7 t' ((i6.updM hu7 (fun y hy=>.inl (.inr (by have hy:y=h1.size:=hy;omega)))).less Pro.sub) (fun h=>by cases h) (k6.own hu7 s1)
 refine Join.intro (fun tk h6=>tk=cp l k∧Upd No h h6∧∃t',h6[h.size]?=some (.cells (pX t').toArray bE (0,0))∧h6[h1.size]?=some (.cells (pX Ig).toArray bE (0,0))∧h6[h2.size]?=some (.cells (pX t).toArray bE (0,0))∧TreeIs (Pro W h h4) h6 kind x t' (nr k l)∧(cp l k=false→t'=t)) (fun R hR=>?_) ?_
 ·rcases i4 with⟨rfl,b,rfl,t4⟩|⟨rfl,b,rfl,t4⟩
  ·refine⟨_,vc c4 0,al.2 ⟨_,Id c4 1 0,_,Id c4 1 1,_,Id c4 1 2,_,vc c4 4,?_⟩⟩
   refine Jd t4 hW4 hr hn k fun h5 b5 hu5 t5 hsm=>?_
   refine ut (i:=4) (c':=(pX (0,x.k0,x.k1,x.mask,some ⟨b5,0,none⟩,none)).toArray) (hu5.get0 c4) (show 4<6 by decide) rfl fun h6 b6 hu6=>?_
   exact hR _ _ ⟨rfl,(k04.tr hu5).own hu6 (au _),_,b6,hu6.oth (hu5.get0 d4) (by omega),hu6.oth (hu5.get0 b4) (by omega),.inl ⟨rfl,b5,rfl,TrieAt.updM hu6 (fun y hy=>.inl (.inr (by have hy:y=h.size:=hy;omega))) t5⟩,fun ht=>by rw[hsm ht]⟩
  ·refine⟨_,vc c4 0,ar.2 ⟨_,vc c4 5,?_⟩⟩
   refine Ir t4 hW4 hf k fun h5 b5 hu5 t5 hsm=>?_
   refine ut (i:=5) (c':=(pX (1,0,0,0,none,some ⟨b5,0,none⟩)).toArray) (hu5.get0 c4) (show 5<6 by decide) rfl fun h6 b6 hu6=>?_
   exact hR _ _ ⟨rfl,(k04.tr hu5).own hu6 (au _),_,b6,hu6.oth (hu5.get0 d4) (by omega),hu6.oth (hu5.get0 b4) (by omega),.inr ⟨rfl,b5,rfl,t5.updM hu6 (fun y hy=>.inl (.inr (by have hy:y=h.size:=hy;omega)))⟩,fun ht=>by rw[hsm ht]⟩
 ·rintro _ h6 ⟨rfl,k6,t',e0,e1,e2,i6,hsm⟩
  exact fin k6 e0 e1 e2 i6 hsm
end Go.Proofs
namespace Go.Proofs
open Go Go.Lift
theorem Qx{W:Nat→Prop}{h:af}{s:SliceV}{l:List Pr}(hs:Sl ee 2 W h s l)(hr:bU l)(hf:Fit l)(hn:l.length≤1000000)(k:ByteArray){K:Int×Bool→af→Prop}
  (hk:∀i:Nat,(cp l k=true→i<l.length)→K((i:Int),cp l k) h):HC PG yV [.slice s.a s.len s.cap,.string k] [.c (.int .i64),.c .bool] K h:=by
 refine Ns s k ?_;unfold FO aj bP;have hlen:=hs.len;refine LoopP.ghost (fun(i:Nat) (t:Int) h'=>t=(i:Int)∧i≤l.length∧h'=h∧∀j (hj:j<l.length),j<i→kl l[j].1 k) (fun i=>l.length-i) 0 ⟨rfl,bf _,rfl,fun j hj h=>by omega⟩ ?_
 rintro I i t h' ⟨rfl,hi,rfl,hlo⟩ hI;refine Join.intro (fun t h2=>h2=h'∧(t=true↔∃hi:i<l.length,kl l[i].1 k)) (fun R hR=>?_) ?_
 ·refine ay (fun hlt=>?_)fun hge=>hR _ _ ⟨rfl,⟨fun h=>(by cases h),fun⟨hi,_⟩=>by omega⟩⟩
  have hlt:i<l.length:=by omega
  obtain⟨a,ha,_,hv⟩:=hs.at (ai hlt);have hf1:=(hf _ (bF hlt)).1;refine⟨⟨by omega,by omega⟩,a,ha,l[i].1,hv 0 _ rfl,EM (by omega) (hR _ _ ⟨rfl,?_⟩)⟩
  rw[decide_eq_true_iff];exact⟨fun h=>⟨hlt,h⟩,fun⟨_,h⟩=>h⟩
 ·rintro t h2 ⟨rfl,ht⟩
  cases t with
  |true=>
   obtain⟨hlt,hk1⟩:=ht.1 rfl;refine ar.2 ?_;rw[eu hlt (by omega)];refine hI (i+1) _ _ ⟨rfl,hlt,rfl,fun j hj hji=>?_⟩ (by omega)
   rcases cg j i with h|h
   ·exact hlo j hj h
   ·have:j=i:=by omega
    subst this;exact hk1
  |false=>
   refine al.2 (ay (fun hlt=>?_)fun hge=>?_)
   ·have hlt:i<l.length:=by omega
    have hnk:¬kl l[i].1 k:=fun h=>by have:=ht.2 ⟨hlt,h⟩;cases this
    obtain⟨a,ha,_,hv⟩:=hs.at (ai hlt);refine⟨⟨by omega,by omega⟩,a,ha,l[i].1,hv 0 _ rfl,?_⟩
    rw[dD];have e:decide (l[i].1=k)=cp l k:=by
     by_cases e:l[i].1=k
     ·rw[decide_eq_true e]
      exact(bT.2 ⟨_,bF hlt,decide_eq_true e⟩).symm
     ·rw[decide_eq_false e]
      refine(wF fun q hq e2=>?_).symm
      obtain⟨j,hj,rfl⟩:=aW hq;have hgt:=mt hnk e;rcases pO j i with h|h|h
      ·have:=hlo j hj h;rw[e2]at this;exact bI _ this
      ·subst h;exact e e2
      ·have:=bS.1 hr i j hlt hj h
       rw[e2]at this;exact bI _ (dV hgt this)
    rw[e];exact hk i fun _=>hlt
   ·have e:cp l k=false:=wF fun q hq e2=>by
     obtain⟨j,hj,rfl⟩:=aW hq;have:=hlo j hj (by omega);rw[e2]at this;exact bI _ this
    have:=hk i fun h=>by rw[e]at h;cases h
    rw[e]at this;exact this
theorem R8{W:Nat→Prop}{h:af}{s:SliceV}{l:List Pr}(hs:Sl ee 2 W h s l)(hr:bU l)(hf:Fit l)(hn:l.length≤1000000)(k:ByteArray){K:ByteArray×Bool→af→Prop}
  (hk:∀v,K(v,cp l k) h):HC PG B0 [.slice s.a s.len s.cap,.string k] [.c .str,.c .bool] K h:=by
 refine PJ s k ?_;unfold H5 aj bP;have hlen:=hs.len;refine Qx hs hr hf hn k fun i hi=>?_
 cases ht:cp l k with
 |false=>rw[ht]at hk;exact ar.2 (hk _)
 |true=>
  rw[ht]at hk;have hlt:=hi ht;obtain⟨a,ha,_,hv⟩:=hs.at (ai hlt);refine al.2 ⟨⟨by simp only;omega,by simp only;omega⟩,a,ha,l[i].2,hv 1 _ rfl,hk _⟩
end Go.Proofs
namespace Go.Proofs
open Go Go.Lift
theorem j4(p:Pr)(l:List Pr)(k:ByteArray):look (p::l) k=if p.1=k then some p.2 else look l k:=by
 unfold look;rw[rm];by_cases e:p.1=k
 ·rw[decide_eq_true e,if_pos e];rfl
 ·rw[decide_eq_false e,if_neg e]
theorem zY{l:List Pr}{k:ByteArray}(h:∀p∈l,kl k p.1):look l k=none:=Pb (wF fun p hp e=>by have:=h p hp;rw[e]at this;exact bI _ this)
theorem wJ{k v:ByteArray}:∀{l:List Pr},look l k=some v→(k,v)∈l
 | [],h=>by cases h
 |p::l,h=>by
  rw[j4]at h;by_cases e:p.1=k
  ·rw[if_pos e]at h;cases h;rw[←e];exact ax ..
  ·rw[if_neg e]at h;exact aF _ (wJ h)
theorem KD(p:Pr)(k:ByteArray):∀{l:List Pr},look (fU p l) k=if p.1=k then some p.2 else look l k
 | []=>j4 p [] k
 |q::l=>by
  rw[fT];by_cases h1:kl q.1 p.1
  ·rw[if_pos h1,j4,KD p k,j4]
   by_cases e:q.1=k
   ·rw[if_pos e,if_pos e,if_neg fun e2=>by rw[e,e2]at h1;exact bI _ h1]
   ·rw[if_neg e,if_neg e]
  ·rw[if_neg h1]
   by_cases h2:q.1=p.1
   ·rw[if_pos h2,j4,j4,h2]
    by_cases e:p.1=k
    ·rw[if_pos e,if_pos e]
    ·rw[if_neg e,if_neg e,if_neg e]
   ·rw[if_neg h2,j4]
def aj(k:ByteArray)(a b:Option ByteArray):Option Ch:=if a=b then none else some (k,a.getD ⟨#[]⟩,b.getD ⟨#[]⟩,a.isSome,b.isSome)
theorem Av(k:ByteArray)(a:Option ByteArray):aj k a a=none:=if_pos rfl
theorem OE{k:ByteArray}{a b:Option ByteArray}{c:Ch}(h:aj k a b=some c):c=(k,a.getD ⟨#[]⟩,b.getD ⟨#[]⟩,a.isSome,b.isSome)∧a≠b:=by
 unfold aj at h;by_cases e:a=b
 ·rw[if_pos e]at h;cases h
 ·rw[if_neg e]at h;cases h;exact⟨rfl,e⟩
def fd(l:List Ch)(k:ByteArray):Option Ch:=l.find? fun c=>decide (c.1=k)
theorem du(c:Ch)(l:List Ch)(k:ByteArray):fd (c::l) k=if c.1=k then some c else fd l k:=by
 unfold fd;rw[rm];by_cases e:c.1=k
 ·rw[decide_eq_true e,if_pos e]
 ·rw[decide_eq_false e,if_neg e]
theorem wT{k:ByteArray}{c:Ch}:∀{l:List Ch},fd l k=some c→c∈l∧c.1=k
 | [],h=>by cases h
 |a::l,h=>by
  rw[du]at h;by_cases e:a.1=k
  ·rw[if_pos e]at h;cases h;exact⟨ax ..,e⟩
  ·rw[if_neg e]at h;exact⟨aF _ (wT h).1,(wT h).2⟩
theorem SY{k:ByteArray}{l:List Ch}(h:∀c∈l,c.1≠k):fd l k=none:=by
 cases e:fd l k with
 |none=>rfl
 |some c=>exact absurd (wT e).2 (h c (wT e).1)
theorem oz{k:ByteArray}{l:List Ch}(h:∀c∈l,kl k c.1):fd l k=none:=SY fun c hc e=>by have:=h c hc;rw[e]at this;exact bI _ this
theorem IV{c:Ch}:∀{l:List Ch},gL l→c∈l→fd l c.1=some c
 |a::l,hr,h=>by
  have hr:=az.1 hr;rw[du];rcases aB.1 h with rfl|h
  ·exact if_pos rfl
  ·rw[if_neg fun e=>by have:=hr.1 c h;rw[e]at this;exact bI _ this]
   exact IV hr.2 h
theorem QX:∀{l m:List Ch},gL l→gL m→(∀k,fd l k=fd m k)→l=m
 | [],[],_,_,_=>rfl
 | [],b::m,_,_,h=>by have:=h b.1;rw[du,if_pos rfl]at this;cases this
 |a::l,[],_,_,h=>by have:=h a.1;rw[du,if_pos rfl]at this;cases this
 |a::l,b::m,hl,hm,h=>by
  have hl:=az.1 hl;have hm:=az.1 hm;have e:a.1=b.1:=Decidable.byContradiction fun hne=>by
   by_cases k:kl a.1 b.1
   ·have:=h a.1
    rw[du,if_pos rfl,du,if_neg (fun e=>hne e.symm),oz fun p hp=>dV k (hm.1 p hp)]at this;cases this
   ·have k:=mt k hne
    have:=h b.1;rw[du,du,if_pos rfl,if_neg hne,oz fun p hp=>dV k (hl.1 p hp)]at this;cases this
  have e2:a=b:=by
   have:=h a.1;rw[du,du,if_pos rfl,if_pos e.symm]at this;exact bm.inj this
  rw[e2,QX hl.2 hm.2 fun k=>?_]
  by_cases hk:a.1=k
  ·rw[←hk,oz hl.1,e,oz hm.1]
  ·have:=h k
   rw[du,du,if_neg hk,if_neg (by rw[←e];exact hk)]at this;exact this
theorem yO{A B:List Pr}(hA:bU A)(hB:bU B)(k:ByteArray):fd (iH A B) k=aj k (look A k) (look B k):=by
 refine nM (P:=fun A B=>fd (iH A B) k=aj k (look A k) (look B k)) ?_ (fun a A B hA _ h i=>?_) (fun b A B _ hB h i=>?_) (fun a b A B e hA hB i=>?_) hA hB
 ·rw[iz];exact(Av ..).symm
 ·rw[sy h,du,j4,i]
  by_cases e:a.1=k
  ·rw[if_pos (show(Gm a).1=k from e),if_pos e,←e,zY h];rfl
  ·rw[if_neg (show ¬(Gm a).1=k from e),if_neg e]
 ·rw[sx h,du,j4,i]
  by_cases e:b.1=k
  ·rw[if_pos (show(RE b).1=k from e),if_pos e,←e,zY h];rfl
  ·rw[if_neg (show ¬(RE b).1=k from e),if_neg e]
 ·rw[qN e,j4,j4,←e]
  by_cases h:a.1=k
  ·rw[if_pos h,if_pos h]
   unfold wv aj;by_cases h2:a.2=b.2
   ·rw[if_pos h2,if_pos (by rw[h2]),List.nil_append,i,←h,zY (az.1 hA).1,e,zY (az.1 hB).1,Av]
   ·rw[if_neg h2,if_neg (fun e=>h2 (bm.inj e)),lP,du,if_pos h,h];rfl
  ·rw[if_neg h,if_neg h,←i]
   unfold wv;by_cases h2:a.2=b.2
   ·rw[if_pos h2];rfl
   ·rw[if_neg h2,lP,du,if_neg h]
def jg(c:Ch):Bool:=(!((!c.2.2.2.1&& !c.2.2.2.2)||(c.2.2.2.1&&(c.2.2.2.2&&decide (c.2.1=c.2.2.1)))))&&((c.2.2.2.1||decide (c.2.1=⟨#[]⟩))&&(c.2.2.2.2||decide (c.2.2.1=⟨#[]⟩)))
def zU(a b:Ch):Ch:=(a.1,a.2.1,b.2.2.1,a.2.2.2.1,b.2.2.2.2)
def oT(a b:Ch):Bool:=a.2.2.2.2==b.2.2.2.1&&decide (a.2.2.1=b.2.1)
def one(c:Ch):Option Ch:=if jg c then some c else none
def jy:List Ch→List Ch→Option (List Ch)
 | [],m=>some m
 |a::l,[]=>some (a::l)
 |a::l,b::m=>if kl a.1 b.1 then(jy l (b::m)).map (a::·)else if kl b.1 a.1 then(jy (a::l) m).map (b::·)else if oT a b then(jy l m).map ((one (zU a b)).toList++·)else none
termination_by l m=>l.length+m.length
theorem kH(m:List Ch):jy [] m=some m:=by unfold jy;rfl
theorem qa:∀l:List Ch,jy l []=some l
 | []=>kH []
 |a::l=>by unfold jy;rfl
theorem mu(a b:Ch)(l m:List Ch):jy (a::l) (b::m)=if kl a.1 b.1 then(jy l (b::m)).map (a::·)else if kl b.1 a.1 then(jy (a::l) m).map (b::·)else if oT a b then(jy l m).map ((one (zU a b)).toList++·)else none:=by
 conv=>lhs;unfold jy
def pY:Option Ch→Option Ch→Option (Option Ch)
 |none,y=>some y
 |x,none=>some x
 |some a,some b=>if oT a b then some (one (zU a b))else none
theorem yL(x:Option Ch):pY x none=some x:=by cases x<;>rfl
theorem uA(a b:Ch):pY (some a) (some b)=if oT a b then some (one (zU a b))else none:=rfl
theorem D5{c d:Ch}(h:one c=some d):d=c:=by
 unfold one at h;cases e:jg c with
 |true=>rw[e,if_pos rfl]at h;exact(bm.inj h).symm
 |false=>rw[e,if_neg Bool.false_ne_true]at h;cases h
theorem MJ{x y:Option Ch}{c:Ch}(h:pY x y=some(some c)):(∃a,x=some a∧a.1=c.1)∨∃b,y=some b∧b.1=c.1:=by
 cases x with
 |none=>cases y with
  |none=>cases h
  |some b=>cases h;exact.inr ⟨_,rfl,rfl⟩
 |some a=>cases y with
  |none=>cases h;exact.inl ⟨_,rfl,rfl⟩
  |some b=>
   have h:(if oT a b then some (one (zU a b))else none)=some (some c):=h
   by_cases hm:oT a b=true
   ·rw[if_pos hm]at h
    rw[D5 (bm.inj h)];exact.inl ⟨_,rfl,rfl⟩
   ·rw[if_neg hm]at h;cases h
theorem Ad:∀{l m:List Ch},gL l→gL m→(∀k,pY (fd l k) (fd m k)≠none)→∃r,jy l m=some r∧gL r∧∀k,pY (fd l k) (fd m k)=some (fd r k)
 | [],m,_,hm,_=>⟨m,kH m,hm,fun _=>rfl⟩
 |a::l,[],hl,_,_=>⟨a::l,qa _,hl,fun k=>yL _⟩
 |a::l,b::m,hl,hm,h=>by
  have hl':=az.1 hl;have hm':=az.1 hm;have low:∀{c:Ch} {r l1 m1:List Ch},gL r→(∀k,pY (fd l1 k) (fd m1 k)=some (fd r k))→(∀x∈l1,kl c.1 x.1)→(∀x∈m1,kl c.1 x.1)→gL (c::r):=by
   intro c r l1 m1 hr hk h1 h2;refine az.2 ⟨fun d hd=>?_,hr⟩
   have:=hk d.1;rw[IV hr hd]at this;rcases MJ this with⟨x,hx,e⟩|⟨x,hx,e⟩
   ·rw[←e];exact h1 x (wT hx).1
   ·rw[←e];exact h2 x (wT hx).1
  rw[mu];by_cases h1:kl a.1 b.1
  ·have lm:∀x∈b::m,kl a.1 x.1:=fun x hx=>by
    rcases aB.1 hx with rfl|hx
    ·exact h1
    ·exact dV h1 (hm'.1 x hx)
   obtain⟨r,e,hr,hk⟩:=Ad hl'.2 hm fun k=>by
    by_cases ek:a.1=k
    ·rw[←ek,oz hl'.1];exact fun e=>by cases e
    ·have:=h k;rw[du,if_neg ek]at this;exact this
   rw[if_pos h1,e];refine⟨a::r,rfl,low hr hk hl'.1 lm,fun k=>?_⟩
   rw[du a l,du a r];by_cases ek:a.1=k
   ·rw[if_pos ek,if_pos ek,←ek,oz lm];rfl
   ·rw[if_neg ek,if_neg ek];exact hk k
  ·rw[if_neg h1]
   by_cases h2:kl b.1 a.1
   ·have lm:∀x∈a::l,kl b.1 x.1:=fun x hx=>by
     rcases aB.1 hx with rfl|hx
     ·exact h2
     ·exact dV h2 (hl'.1 x hx)
    obtain⟨r,e,hr,hk⟩:=Ad hl hm'.2 fun k=>by
     by_cases ek:b.1=k
     ·rw[←ek,oz hm'.1,yL];exact fun e=>by cases e
     ·have:=h k;rw[du b,if_neg ek]at this;exact this
    rw[if_pos h2,e];refine⟨b::r,rfl,low hr hk lm hm'.1,fun k=>?_⟩
    rw[du b m,du b r];by_cases ek:b.1=k
    ·rw[if_pos ek,if_pos ek,←ek,oz lm];rfl
    ·rw[if_neg ek,if_neg ek];exact hk k
   ·have e:a.1=b.1:=Decidable.byContradiction fun hne=>h2 (mt h1 hne)
    rw[if_neg h2];have hab:pY (some a) (some b)≠none:=by
     have:=h a.1;rw[du,du,if_pos rfl,if_pos e.symm]at this;exact this
    have hme:oT a b=true:=by
     cases hme:oT a b with
     |true=>rfl
     |false=>exact absurd (show pY (some a) (some b)=none by rw[uA,hme];rfl) hab
    obtain⟨r,er,hr,hk⟩:=Ad hl'.2 hm'.2 fun k=>by
     by_cases ek:a.1=k
     ·rw[←ek,oz hl'.1];exact fun e=>by cases e
     ·have:=h k;rw[du,if_neg ek,du,if_neg (by rw[←e];exact ek)]at this;exact this
    rw[if_pos hme,er];have hml:∀x∈m,kl a.1 x.1:=fun x hx=>by rw[e];exact hm'.1 x hx
    refine⟨(one (zU a b)).toList++r,rfl,?_,fun k=>?_⟩
    ·cases eo:one (zU a b)with
     |none=>exact hr
     |some c=>
      have ec:=D5 eo;exact low hr hk (fun x hx=>by rw[ec];exact hl'.1 x hx)fun x hx=>by rw[ec];exact hml x hx
    ·rw[du,du,←e]
     by_cases ek:a.1=k
     ·rw[if_pos ek,if_pos ek]
      have:pY (some a) (some b)=some (one (zU a b)):=by rw[uA,hme];rfl
      rw[this];cases eo:one (zU a b)with
      |none=>
       have:=hk k;rw[←ek,oz hl'.1,oz hml]at this;rw[←ek];exact this
      |some c=>
       have ec:=D5 eo;rw[Option.toList_some,lP,du,if_pos (by rw[ec];exact ek)]
     ·rw[if_neg ek,if_neg ek,hk k]
      cases eo:one (zU a b)with
      |none=>rfl
      |some c=>
       have ec:=D5 eo;rw[Option.toList_some,lP,du,if_neg (by rw[ec];exact ek)]
termination_by l m=>l.length+m.length
theorem Kc(k:ByteArray)(a b:Option ByteArray):jg (k,a.getD ⟨#[]⟩,b.getD ⟨#[]⟩,a.isSome,b.isSome)=decide (a≠b):=by
 cases a with
 |none=>cases b with
  |none=>rfl
  |some b=>simp[jg]
 |some a=>cases b with
  |none=>simp[jg]
  |some b=>simp[jg]
theorem KJ(k:ByteArray)(a b e:Option ByteArray):pY (aj k a b) (aj k b e)=some (aj k a e):=by
 by_cases h1:a=b
 ·rw[h1,Av];rfl
 ·by_cases h2:b=e
  ·rw[h2,Av,yL]
  ·have m1:aj k a b=some (k,a.getD ⟨#[]⟩,b.getD ⟨#[]⟩,a.isSome,b.isSome):=if_neg h1
   have m2:aj k b e=some (k,b.getD ⟨#[]⟩,e.getD ⟨#[]⟩,b.isSome,e.isSome):=if_neg h2;rw[m1,m2,uA,if_pos (by unfold oT;simp)];unfold one zU aj;simp only;rw[Kc];by_cases h3:a=e
   ·rw[if_pos h3,if_neg (by simpa using h3)]
   ·rw[if_neg h3,if_pos (by simpa using h3)]
theorem QN{A B E:List Pr}(hA:bU A)(hB:bU B)(hE:bU E):jy (iH A B) (iH B E)=some (iH A E):=by
 obtain⟨r,e,hr,hk⟩:=Ad (ml hA hB) (ml hB hE)fun k=>by rw[yO hA hB,yO hB hE,KJ];exact fun e=>by cases e
 rw[e,QX hr (ml hA hE)fun k=>?_]
 have:=hk k;rw[yO hA hB,yO hB hE,KJ]at this;rw[yO hA hE];exact(bm.inj this).symm
theorem OV{A B:List Pr}(hA:bU A)(hB:bU B){c:Ch}(h:c∈iH A B):jg c=true:=by
 have:=yO hA hB c.1;rw[IV (ml hA hB) h]at this;obtain⟨e,hne⟩:=OE this.symm;rw[e,Kc];exact decide_eq_true hne
end Go.Proofs
namespace Go.Proofs
open Go Go.Lift
theorem zN(k o n:ByteArray):jg (k,o,n,false,true)=decide (o=⟨#[]⟩):=by simp[jg]
theorem zM(k o n:ByteArray):jg (k,o,n,true,false)=decide (n=⟨#[]⟩):=by simp[jg]
theorem zK(k o n:ByteArray):jg (k,o,n,true,true)= !decide (o=n):=by simp[jg]
theorem Fl{c:Ch}{h:af}{K:Bool→af→Prop}(hk:∀h',Upd No h h'→K(jg c) h'):HC PG gA [.agg #[.string c.1,.string c.2.1,.string c.2.2.1,.bool c.2.2.2.1,.bool c.2.2.2.2]] [.c .bool] K h:=by
 refine xP c ?_;unfold rC aj;refine bH fun h1 b1 k1=>?_
 obtain⟨k,o,n,w,i⟩:=c;have hk:=hk h1 k1;refine Join.plain ?_;cases w<;>cases i
 ·exact⟨false,vc b1 3,ar.2 ⟨false,vc b1 4,ar.2 (ar.2 hk)⟩⟩
 ·rw[zN]at hk
  refine⟨false,vc b1 3,ar.2 ⟨true,vc b1 4,al.2 ⟨false,vc b1 3,al.2 (al.2 ⟨false,vc b1 3,al.2 ⟨o,vc b1 1,?_⟩⟩)⟩⟩⟩;rw[dD];cases e:decide (o=⟨#[]⟩)with
  |true=>rw[e]at hk;exact ar.2 ⟨true,vc b1 4,ar.2 hk⟩
  |false=>rw[e]at hk;exact al.2 hk
 ·rw[zM]at hk
  refine⟨true,vc b1 3,al.2 ⟨true,vc b1 3,ar.2 ⟨false,vc b1 4,al.2 (al.2 ⟨true,vc b1 3,ar.2 ⟨false,vc b1 4,al.2 ⟨n,vc b1 2,?_⟩⟩⟩)⟩⟩⟩;rw[dD];exact hk
 ·rw[zK]at hk
  refine⟨true,vc b1 3,al.2 ⟨true,vc b1 3,ar.2 ⟨true,vc b1 4,ar.2 ⟨o,vc b1 1,n,vc b1 2,?_⟩⟩⟩⟩;rw[dD];cases e:decide (o=n)with
  |true=>rw[e]at hk;exact ar.2 hk
  |false=>rw[e]at hk;exact al.2 ⟨true,vc b1 3,ar.2 ⟨true,vc b1 4,ar.2 hk⟩⟩
theorem I0{W:Nat→Prop}{h:af}{s:SliceV}{l:List Ch}{fv:Value}{p:Ch→Bool}(hs:Sl jv 5 W h s l)(hn:l.length≤1000000)
  (hv:∀c∈l,∀h',Upd No h h'→∀{K':Bool→af→Prop},(∀h'',Upd No h' h''→K'(p c) h'')→HV PG fv[.agg #[.string c.1,.string c.2.1,.string c.2.2.1,.bool c.2.2.2.1,.bool c.2.2.2.2]][.c .bool] K' h')
  {K:Bool→af→Prop}(hk:∀h',Upd No h h'→K(l.any p) h'):HC PG dB [.slice s.a s.len s.cap,fv] [.c .bool] K h:=by
 refine jG s fv ?_;unfold fz;refine j9 s fv ?_;unfold fY aj bP;have hl:=hs.len;refine LoopP.ghost (fun(i:Nat) (t:Int) h'=>t=(i:Int)∧i≤l.length∧(l.take i).any p=false∧Upd No h h') (fun i=>l.length-i) 0 ⟨rfl,bf _,rfl,Upd.refl _ _⟩ ?_
 rintro I i t h' ⟨rfl,hi,ha,hu⟩ hI;refine ay (fun hlt=>?_)fun hge=>?_
 ·have hlt:i<l.length:=by omega
  obtain⟨a,ha',_,hv'⟩:=(hs.upd hu fun _ h=>h.elim).at (ai hlt)
  refine⟨⟨by omega,by omega⟩,a,ha',_,hv' 0 _ rfl,_,hv' 1 _ rfl,_,hv' 2 _ rfl,_,hv' 3 _ rfl,_,hv' 4 _ rfl,?_⟩
  refine hv l[i] (bF hlt) h' hu fun h2 k2=>?_
  refine CondP.intro (fun hp=>?_)fun hp=>?_
  ·have e1:l.any p=true:=bT.2 ⟨_,bF hlt,hp⟩
   have:=hk h2 (hu.tr k2);rw[e1]at this;show K (decide ((i:Int)≥0)) h2
   rw[show decide ((i:Int)≥0)=true from decide_eq_true (by omega)]
   exact this
  ·rw[eu hlt (by omega)]
   refine hI (i+1) _ _ ⟨rfl,hlt,?_,hu.tr k2⟩ (by omega);rw[bh hlt,List.any_append,ha,ur];simpa using hp
 ·have hil:i=l.length:=by omega
  rw[hil,bR]at ha;have:=hk h' hu;rw[ha]at this;exact this
theorem Ky{h:af}(c:Ch){K:Bool→af→Prop}(hk:∀h',Upd No h h'→K(!rightC c) h'):HV PG (.func (.func r9) #[] #[]) [.agg #[.string c.1,.string c.2.1,.string c.2.2.1,.bool c.2.2.2.1,.bool c.2.2.2.2]] [.c .bool] K h:=by
 refine⟨.inl ⟨_,#[],#[],rfl,?_⟩⟩;refine Fz c ?_;unfold xi aj;refine bH fun h1 b1 k1=>⟨_,vc b1 0,_,vc b1 1,_,vc b1 2,_,vc b1 3,_,vc b1 4,?_⟩
 exact Fl fun h2 k2=>hk h2 (k1.tr k2)
def is(l:List Ch):Int:=if gL l then(if l.any (fun c=> !rightC c)then 1 else 0)else 13
def xb(l:List Ch):Prop:=∀c∈l,c.1.size≤256∧c.2.1.size≤4096∧c.2.2.1.size≤4096
theorem EI{l:List Ch}{g:Nat}(hg:0<g)(hl:g<l.length)(hr:gL(l.take g))(hk:kl(l[g-1]'(by omega)).1 l[g].1):gL(l.take(g+1)):=by
 rw[bh hl];refine List.pairwise_append.2 ⟨hr,bV ..,fun a ha b hb=>?_⟩
 rw[aC.1 hb];obtain⟨j,hj,rfl⟩:=aW ha;rw[aI]at hj;rw[jO];by_cases e:j=g-1
 ·subst e;exact hk
 ·have:=bS.1 hr j(g-1)(by rw[aI];omega)(by rw[aI];omega)(by omega)
  rw[jO,jO]at this;exact dV this hk
theorem CS{l:List Ch}{g:Nat}(hg:g≤1):gL (l.take g):=by
 match l,g,hg with
 | [],_,_=>rw[List.take_nil];exact.nil
 |a::l,0,_=>exact.nil
 |a::l,1,_=>exact bV ..
theorem Hn{l:List Ch}{i j:Nat}(hij:i<j)(hj:j<l.length)(h:¬kl(l[i]'(by omega)).1 l[j].1):¬gL l:=fun hr=>h(bS.1 hr i j(by omega) hj hij)
theorem An{W:Nat→Prop}{h:af}{s:SliceV}{l:List Ch}(hs:Sl jv 5 W h s l)(hn:l.length≤1000000)(hz:xb l){K:Int→af→Prop}(hk:∀h',Upd No h h'→K(is l) h'):HC PG vD [.slice s.a s.len s.cap] [.c (.int .i64)] K h:=by
 refine Jr s ?_;unfold A4 aj bP;have hl:=hs.len;refine LoopP.ghost (fun(i:Nat) (t:Int) h'=>t=(i:Int)∧1≤i∧i≤max 1 l.length∧gL (l.take i)∧h'=h) (fun i=>l.length-i) 1 ⟨rfl,au _,by omega,CS (au _),rfl⟩ ?_
 rintro I i t h' ⟨rfl,hi1,hi,hr,rfl⟩ hI;refine ay (fun hlt=>?_)fun hge=>?_
 ·have hlt:i<l.length:=by omega
  have e1:ac .i64 ((i:Int)-1)=((i-1:Nat):Int):=by rw[cR (by omega)];omega
  rw[e1];obtain⟨a,ha,_,hv⟩:=hs.at (i:=i-1) (ai (by omega));obtain⟨a',ha',_,hv'⟩:=hs.at (i:=i) (ai hlt);refine⟨⟨by omega,by omega⟩,a,ha,_,hv 0 _ rfl,⟨by omega,by omega⟩,a',ha',_,hv' 0 _ rfl,?_⟩
  refine CondP.intro (fun hb=>?_)fun hb=>?_
  ·have:¬gL l:=Hn (i:=i-1) (j:=i) (by omega) hlt fun h=>by unfold kl at h;rw[h]at hb;cases hb
   have hk:=hk h' (Upd.refl _ _);unfold is at hk;rw[if_neg this]at hk;exact hk
  ·rw[eu hlt (by omega)]
   exact hI (i+1) _ _ ⟨rfl,by omega,by omega,EI hi1 hlt hr (by unfold kl;simpa using hb),rfl⟩ (by omega)
 ·have hil:l.take i=l:=aZ (by omega)
  rw[hil]at hr;unfold is at hk;rw[if_pos hr]at hk;refine I0 hs hn (fun c _ h1 _ K' hk'=>Ky c hk')fun h1 k1=>?_
  have hk:=fun h2 (k2:Upd No h1 h2)=>hk h2 (k1.tr k2)
  cases ea:l.any (fun c=> !rightC c)with
  |true=>rw[ea]at hk;exact ar.2 (hk h1 (Upd.refl _ _))
  |false=>
   rw[ea]at hk;refine al.2 ?_;refine LoopP.ghost (fun(i:Nat) (t:Int) h'=>t=(i:Int)∧i≤l.length∧Upd No h1 h') (fun i=>l.length-i) 0 ⟨rfl,bf _,Upd.refl _ _⟩ ?_
   rintro I2 j t h3 ⟨rfl,hj,hu⟩ hI2;refine ay (fun hlt=>?_)fun _=>hk h3 hu
   have hlt:j<l.length:=by omega
   obtain⟨a,ha,_,hv⟩:=(hs.upd (k1.tr hu)fun _ h=>h.elim).at (ai hlt)
   refine⟨⟨by omega,by omega⟩,a,ha,_,hv 0 _ rfl,_,hv 1 _ rfl,_,hv 2 _ rfl,_,hv 3 _ rfl,_,hv 4 _ rfl,?_⟩
   refine x9 (c:=l[j])fun h4 b4 k4=>?_
   obtain⟨z1,z2,z3⟩:=hz _ (bF hlt);refine⟨_,vc b4 0,_,vc b4 1,ux z1 z2 (al.2 ⟨_,vc b4 0,_,vc b4 2,ux z1 z3 (al.2 ?_)⟩)⟩;rw[eu hlt (by omega)];exact hI2 (j+1) _ _ ⟨rfl,hlt,hu.tr k4⟩ (by omega)
theorem CV{W:Nat→Prop}{h:af}{s:SliceV}{l:List Ch}(hs:Sl jv 5 W h s l)(hn:l.length≤1000000)(hz:xb l){K:Int→af→Prop}(hk:∀h',Upd No h h'→K(is l) h'):HC PG tl [.slice s.a s.len s.cap] [.c (.int .i64)] K h:=by
 refine Lm s ?_;unfold Dn aj bP;have hl:=hs.len;refine LoopP.ghost (fun(i:Nat) (t:Int) h'=>t=(i:Int)∧i+1≤max 1 l.length∧gL (l.take (i+1))∧h'=h) (fun i=>l.length-i) 0 ⟨rfl,by omega,CS (au _),rfl⟩ ?_
 rintro I i t h' ⟨rfl,hi,hr,rfl⟩ hI;have e1:ac .i64 ((i:Int)+1)=((i+1:Nat):Int):=by rw[cR (by omega)];omega
 rw[e1];refine ay (fun hlt=>?_)fun hge=>?_
 ·have hlt:i+1<l.length:=by omega
  obtain⟨a,ha,_,hv⟩:=hs.at (i:=i) (ai (by omega));obtain⟨a',ha',_,hv'⟩:=hs.at (i:=i+1) (ai hlt);have hz1:=(hz _ (bF (show i<l.length by omega))).1
  refine⟨⟨by omega,by omega⟩,a,ha,_,hv 0 _ rfl,⟨by omega,by omega⟩,a',ha',_,hv' 0 _ rfl,?_⟩
  refine EM (by omega) ?_;refine CondP.intro (fun hb=>?_)fun hb=>?_
  ·have:¬gL l:=Hn (i:=i) (j:=i+1) (by omega) hlt (by simpa using hb)
   have hk:=hk h' (Upd.refl _ _);unfold is at hk;rw[if_neg this]at hk;exact hk
  ·exact hI (i+1) _ _ ⟨rfl,by omega,EI (by omega) hlt hr (by simpa using hb),rfl⟩ (by omega)
 ·have hil:l.take (i+1)=l:=aZ (by omega)
  rw[hil]at hr;unfold is at hk;rw[if_pos hr]at hk;refine LoopP.ghost (fun(i:Nat) (t:Int) h1=>t=(i:Int)∧i≤l.length∧(l.take i).any (fun c=> !rightC c)=false∧Upd No h' h1) (fun i=>l.length-i) 0 ⟨rfl,bf _,rfl,Upd.refl _ _⟩ ?_
  rintro I2 j t h3 ⟨rfl,hj,hany,hu⟩ hI2;refine ay (fun hlt=>?_)fun hge=>?_
  ·have hlt:j<l.length:=by omega
   obtain⟨a,ha,_,hv⟩:=(hs.upd hu fun _ h=>h.elim).at (ai hlt)
   refine⟨⟨by omega,by omega⟩,a,ha,_,hv 0 _ rfl,_,hv 1 _ rfl,_,hv 2 _ rfl,_,hv 3 _ rfl,_,hv 4 _ rfl,?_⟩
   refine x9 (c:=l[j])fun h4 b4 k4=>?_
   refine Join.intro (fun b h5=>b=(!rightC l[j])∧h5=h4) (fun R hR=>?_) ?_
   ·have hR:=hR _ _ ⟨rfl,rfl⟩
    generalize l[j]=c at hR b4;obtain⟨k,o,n,w,i⟩:=c;cases w<;>cases i
    ·exact⟨false,vc b4 3,ar.2 ⟨false,vc b4 4,ar.2 hR⟩⟩
    ·rw[zN]at hR
     refine⟨false,vc b4 3,ar.2 ⟨true,vc b4 4,al.2 ⟨false,vc b4 3,al.2 ⟨false,vc b4 3,ar.2 ⟨o,vc b4 1,?_⟩⟩⟩⟩⟩;rw[dD];cases e:decide (o=⟨#[]⟩)with
     |true=>rw[e]at hR;exact al.2 ⟨true,vc b4 4,al.2 hR⟩
     |false=>rw[e]at hR;exact ar.2 hR
    ·rw[zM]at hR
     refine⟨true,vc b4 3,al.2 ⟨true,vc b4 3,ar.2 ⟨false,vc b4 4,al.2 ⟨true,vc b4 3,al.2 ⟨false,vc b4 4,ar.2 ⟨n,vc b4 2,?_⟩⟩⟩⟩⟩⟩;rw[dD];exact hR
    ·rw[zK]at hR
     refine⟨true,vc b4 3,al.2 ⟨true,vc b4 3,ar.2 ⟨true,vc b4 4,ar.2 ⟨o,vc b4 1,n,vc b4 2,?_⟩⟩⟩⟩;rw[dD];cases e:decide (o=n)with
     |true=>rw[e]at hR;exact ar.2 hR
     |false=>rw[e]at hR;exact al.2 ⟨true,vc b4 3,al.2 ⟨true,vc b4 4,al.2 hR⟩⟩
   ·rintro b h5 ⟨rfl,rfl⟩
    refine CondP.intro (fun hb=>?_)fun hb=>?_
    ·have:l.any (fun c=> !rightC c)=true:=bT.2 ⟨_,bF hlt,hb⟩
     have hk:=hk h5 (hu.tr k4);rw[this]at hk;exact hk
    ·rw[eu hlt (by omega)]
     refine hI2 (j+1) _ _ ⟨rfl,hlt,?_,hu.tr k4⟩ (by omega);rw[bh hlt,List.any_append,hany,ur];simpa using hb
  ·have hil:j=l.length:=by omega
   rw[hil,bR]at hany;rw[hany]at hk;refine LoopP.ghost (fun(i:Nat) (t:Int) h1=>t=(i:Int)∧i≤l.length∧Upd No h' h1) (fun i=>l.length-i) 0 ⟨rfl,bf _,hu⟩ ?_
   rintro I3 m t h6 ⟨rfl,hm,hu6⟩ hI3;refine ay (fun hlt=>?_)fun _=>hk h6 hu6
   have hlt:m<l.length:=by omega
   obtain⟨a,ha,_,hv⟩:=(hs.upd hu6 fun _ h=>h.elim).at (ai hlt)
   refine⟨⟨by omega,by omega⟩,a,ha,_,hv 0 _ rfl,_,hv 1 _ rfl,_,hv 2 _ rfl,_,hv 3 _ rfl,_,hv 4 _ rfl,?_⟩
   refine x9 (c:=l[m])fun h7 b7 k7=>?_
   obtain⟨z1,z2,z3⟩:=hz _ (bF hlt);refine⟨_,vc b7 1,_,vc b7 2,bH fun h8 b8 k8=>?_⟩
   have c8:=k8.get0 b7;refine LoopP.ghost (fun(i:Nat) (t:Int) h1=>t=(i:Int)∧i≤2∧h1=h8) (fun i=>2-i) 0 ⟨rfl,bf _,rfl⟩ ?_
   rintro I4 q t h9 ⟨rfl,hq,rfl⟩ hI4;refine ay (fun hlt2=>?_)fun _=>?_
   ·have hlt2:q<2:=by omega
    refine⟨⟨by omega,by omega⟩,_,rfl,?_⟩
    have hw:ac .i64 ((q:Int)+1)=((q+1:Nat):Int):=by rw[cR (by omega)];omega
    rw[hw];match q,hlt2 with
    |0,_=>exact⟨_,vc b8 0,_,vc c8 0,BM z1 z2 (al.2 (hI4 1 _ _ ⟨rfl,by omega,rfl⟩ (by omega)))⟩
    |1,_=>exact⟨_,vc b8 1,_,vc c8 0,BM z1 z3 (al.2 (hI4 2 _ _ ⟨rfl,by omega,rfl⟩ (by omega)))⟩
   ·rw[eu hlt (by omega)]
    exact hI3 (m+1) _ _ ⟨rfl,hlt,(hu6.tr k7).tr k8⟩ (by omega)
end Go.Proofs
