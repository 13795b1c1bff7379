/- A part of the proof that the named laws of this program answer true, whatever the input. -/
import Derived.Test.YtfmnhpbjeapjaaaGreatPart1
import Derived.Test.YtfmnhpbjeapjaaaGreatLift3
import Derived.IntWalk
open Bool renaming eq_iff_iff→mR
open List renaming pairwise_cons→bK,mem_cons→ah,mem_filter→bG,any_eq_true→bQ,filter_sublist→fw,length_filter_le→eu,length_cons→aX,mem_singleton→ak,getElem_mem→cj,mem_append→bo,mem_map→aI,map_cons→aY,pairwise_append→dL,mem_cons_of_mem→aQ,mem_cons_self→aP,append_eq_nil_iff→jK,getElem_of_mem→bW,take_append_drop→co,append_nil→dR,length_set→mP,pairwise_iff_getElem→cJ,take_succ_cons→i4,drop_succ_cons→mg,append_assoc→aJ
open List.Pairwise renaming nil→gn
open Nat renaming zero_le→cu,lt_of_lt_of_le→aE,zero_add→az,le_trans→cQ,le_refl→av,not_lt→ny
open Option renaming isSome_iff_exists→f7,some→bD
open UInt8 renaming toNat_inj→qH
namespace Go.Proofs
open Go.Lift
noncomputable instance memDec (p:Pr) (l:List Pr):Decidable (p∈l):=Classical.propDecidable _
theorem IE{l:List Pr}(b:fk l){k v w:ByteArray}(c:(k,v)∈l)(d:(k,w)∈l):v=w:=by
 induction l with
 |nil=>cases c
 |cons q l ih=>
  have b:=bK.1 b;rcases ah.1 c with f|c<;>rcases ah.1 d with e|d
  ·exact(Prod.mk.inj (f.trans e.symm)).2
  ·have:=b.1 _ d;rw[←f]at this;exact absurd this (fS _)
  ·have:=b.1 _ c;rw[←e]at this;exact absurd this (fS _)
  ·exact ih b.2 c d
theorem vU{x:Hs}{lev c:Nat}{l:List Pr}{p:Pr}:p∈part x lev c l↔p∈l∧ck x lev p.1=c:=by unfold part;rw[bG,decide_eq_true_iff]
theorem Ij{x:Hs}{lev:Nat}{l:List Pr}{k:ByteArray}:dA (part x lev (ck x lev k) l) k=dA l k:=by
 unfold dA;rw[mR,bQ,bQ];constructor
 ·rintro⟨p,b,e⟩;exact⟨p,(vU.1 b).1,e⟩
 ·rintro⟨p,b,e⟩;exact⟨p,vU.2 ⟨b,by rw[of_decide_eq_true e]⟩,e⟩
theorem Dl{x:Hs}{lev c:Nat}{l:List Pr}(b:fk l):fk (part x lev c l):=b.sublist fw
theorem He{x:Hs}{lev c:Nat}{l:List Pr}:(part x lev c l).length≤l.length:=eu ..
def SlotIs(W:Nat→Prop)(x:Hs)(h:ac)(m:Nat)(s:Slots)(c:Nat)(l:List Pr):Prop:=
 (l= []∧s.p c=none∧s.k c=none)∨(∃p,l= [p]∧s.p c=some p∧s.k c=none)∨(2≤l.length∧s.p c=none∧∃kb,s.k c=some (some ⟨kb,0,none⟩)∧TrieAt W x h m kb l)
theorem SlotIs.upd0{W:Nat→Prop}{x:Hs}{h h':ac}{m:Nat}{s:Slots}{c:Nat}{l:List Pr}(k:Upd No h h')(t:SlotIs W x h m s c l):SlotIs W x h' m s c l:=t.imp id fun o=>o.imp id fun⟨f,g,b,e,d⟩=>⟨f,g,b,e,TrieAt.upd0 k d⟩
theorem Ht(p:Pr):∀{l:List Pr},l.length≤(jb p l).length
 | []=>cu _
 |q::l=>by
  rw[lC];split
  ·have:=Ht p (l:=l);simp only[aX];omega
  ·split<;>simp
theorem KM{W:Nat→Prop}{x:Hs}{h h':ac}{m b':Nat}{s s':Slots}{l:List Pr}{p:Pr}(i:fk l)(f:Upd No h h')(nd:NodeAt W h' b' s')(b:∀c,c<32→SlotIs W x h m s c (part x (12-m) c l))
  (k:∀c,c≠ck x (12-m) p.1→s'.p c=s.p c∧s'.k c=s.k c)(j:SlotIs W x h' m s' (ck x (12-m) p.1) (jb p (part x (12-m) (ck x (12-m) p.1) l))):TrieAt W x h' (m+1) b' (jb p l):=by
 refine⟨s',nd,fun c hc=>?_⟩
 rw[Hf i];by_cases e:ck x (12-m) p.1=c
 ·rw[if_pos e];subst e;exact j
 ·rw[if_neg e]
  have t:=SlotIs.upd0 f (b c hc);obtain⟨g,d⟩:=k c fun h=>e h.symm
  unfold SlotIs at t;rw[←g,←d]at t;exact t
theorem lg{a b:ByteArray}:(a.toList==b.toList)=decide (a=b):=by
 rw[mR,beq_iff_eq,decide_eq_true_iff,Bf]
theorem PU{W:Nat→Prop}{x:Hs}:∀(m:Nat),m≤13→∀{b:Nat} {l:List Pr} (p:Pr) {h:ac},TrieAt W x h m b l→(∀y,W y→y<h.size)→fk l→l.length≤1000000→∀{K:(Option Addr)×Bool×Bool→ac→Prop},
  (∀h' b' ch,Upd No h h'→TrieAt W x h' m b' (jb p l)→(ch=false→b'=b)→ch= !decide (p∈l)→K (some ⟨b',0,none⟩, !dA l p.1,ch) h')→
  HC PG gO [Pg x p.1,.pointer (some ⟨b,0,none⟩),.agg #[.string p.1,.string p.2],.int .i64 ((13-m:Nat):Int)] [.c .ptr,.c .bool,.c .bool] K h:=by
 intro m;induction m with
 |zero=>
  intro _ b l p h t hW U hn K H;have Y:∀{h'},Upd No h h'→∀y,W y→y<h'.size:=fun k y hy=>aE (hW y hy) k.size
  refine uD (x.k0,x.k1,x.mask,none,p.1,jc x p.1) (some ⟨b,0,none⟩) p ((13-0:Nat):Int) ?_;unfold pr ad nv aw af rj nU rm Ek vH sN rF K6 GI;have k1:=Upd.hnew No h [.int .u64 x.k0,.int .u64 x.k1,.int .u64 x.mask,.pointer none,.string p.1,.int .u64 (jc x p.1)] cd;have b1:=be h [.int .u64 x.k0,.int .u64 x.k1,.int .u64 x.mask,.pointer none,.string p.1,.int .u64 (jc x p.1)] cd
  refine bl ?_;simp only[bN h];generalize hnew h [.int .u64 x.k0,.int .u64 x.k1,.int .u64 x.mask,.pointer none,.string p.1,.int .u64 (jc x p.1)] cd=E at k1 b1;have k2:=Upd.hnew No E [.string p.1,.string p.2] ar;have b2:=be E [.string p.1,.string p.2] ar;refine bl ?_;simp only[bN E];generalize hnew E [.string p.1,.string p.2] ar=f at k2 b2
  have w:∀{h':ac},Upd No f h'→∀i,aB h' (adr ⟨h.size,0,none⟩ i)=(#[.int .u64 x.k0,.int .u64 x.k1,.int .u64 x.mask,.pointer none,.string p.1,.int .u64 (jc x p.1)]:Array Value)[i]?:=fun k i=>by
   rw[bC,aC (k.get0 (k2.get0 b1)),az]
  have C:∀{h':ac},Upd No f h'→∀i,aB h' (adr ⟨E.size,0,none⟩ i)=(#[.string p.1,.string p.2]:Array Value)[i]?:=fun k i=>by rw[bC,aC (k.get0 b2),az]
  have r:=Upd.refl No f;have g:=k1.tr k2;have bk:BuckAt W f b l:=BuckAt.upd t g fun _ h=>h.elim
  obtain⟨sp,sk,ow,hb,_⟩:=bk.ex;refine pO hb (aK.2 ⟨_,C r 0,Re bk U (by omega) p.1 fun N v J hv=>?_⟩)
  have put:∀(X:p∉l) {h4:ac},Upd No f h4→HC PG iB [.pointer (some ⟨b,0,none⟩),.pointer none,.agg #[.string p.1,.string p.2]] [.c .ptr] (fun(e15:Option Addr) h16=>K (e15, !dA l p.1,true) h16) h4:=fun X h4 u=>
   Gn (bk.upd u fun _ h=>h.elim) (Y (g.tr u)) U (by omega) p fun h5 b5 bk5 hu5=>by
    rw[CS p U]at bk5;exact H h5 b5 true ((g.tr u).tr hu5) bk5 (fun h=>by cases h) (by rw[decide_eq_false X];rfl)
  refine Join.intro (fun t' h'=>t'=decide (p∈l)∧Upd No f h') (fun R hR=>?_) ?_
  ·cases G:dA l p.1 with
   |false=>
    refine aq.2 (hR _ _ ⟨?_,J⟩);refine(decide_eq_false fun hm=>?_).symm
    have:dA l p.1=true:=bQ.2 ⟨p,hm,decide_eq_true rfl⟩;rw[G]at this;cases this
   |true=>
    have hv:=hv G;refine aK.2 ⟨_,C J 1,hR _ _ ⟨?_,J⟩⟩;rw[lg,decide_eq_decide];constructor
    ·intro e
     have e:v=p.2:=e;rw[e]at hv;exact hv
    ·intro hm
     exact IE U hv (show(p.1,p.2)∈l from hm)
  ·rintro t' h4 ⟨rfl,u⟩
   by_cases hm:p∈l
   ·rw[decide_eq_true hm]
    refine aK.2 ?_;have G:dA l p.1=true:=bQ.2 ⟨p,hm,decide_eq_true rfl⟩;have:=H h4 b false (g.tr u) (by rw[CR U hm];exact bk.upd u fun _ h=>h.elim) (fun _=>rfl) (by rw[decide_eq_true hm];rfl)
    rw[G]at this;exact this
   ·rw[decide_eq_false hm]
    refine aq.2 ⟨none,w u 3,_,C u 0,_,C u 1,put hm u⟩
 |succ m ih=>
  intro hm b l p h t hW U hn K H;have Y:∀{h'},Upd No h h'→∀y,W y→y<h'.size:=fun k y hy=>aE (hW y hy) k.size
  have hl:13-(m+1)<13:=by omega
  have hlev:13-(m+1)=12-m:=by omega
  refine uD (x.k0,x.k1,x.mask,none,p.1,jc x p.1) (some ⟨b,0,none⟩) p ((13-(m+1):Nat):Int) ?_;unfold pr ad nv aw af rj nU rm Ek vH sN rF K6 GI;have k1:=Upd.hnew No h [.int .u64 x.k0,.int .u64 x.k1,.int .u64 x.mask,.pointer none,.string p.1,.int .u64 (jc x p.1)] cd;have b1:=be h [.int .u64 x.k0,.int .u64 x.k1,.int .u64 x.mask,.pointer none,.string p.1,.int .u64 (jc x p.1)] cd
  refine bl ?_;simp only[bN h];generalize hnew h [.int .u64 x.k0,.int .u64 x.k1,.int .u64 x.mask,.pointer none,.string p.1,.int .u64 (jc x p.1)] cd=E at k1 b1;have k2:=Upd.hnew No E [.string p.1,.string p.2] ar;have b2:=be E [.string p.1,.string p.2] ar;refine bl ?_;simp only[bN E];generalize hnew E [.string p.1,.string p.2] ar=f at k2 b2
  have w:∀{h':ac},Upd No f h'→∀i,aB h' (adr ⟨h.size,0,none⟩ i)=(#[.int .u64 x.k0,.int .u64 x.k1,.int .u64 x.mask,.pointer none,.string p.1,.int .u64 (jc x p.1)]:Array Value)[i]?:=fun k i=>by
   rw[bC,aC (k.get0 (k2.get0 b1)),az]
  have C:∀{h':ac},Upd No f h'→∀i,aB h' (adr ⟨E.size,0,none⟩ i)=(#[.string p.1,.string p.2]:Array Value)[i]?:=fun k i=>by rw[bC,aC (k.get0 b2),az]
  have r:=Upd.refl No f;have g:=k1.tr k2;obtain⟨s,nd0,hs0⟩:=TrieAt.upd0 g t;have hs:∀c,c<32→SlotIs W x f m s c (part x (12-m) c l):=hs0;have tt:∀{h':ac},Upd No f h'→TrieAt W x h' (m+1) b l:=fun k=>TrieAt.upd0 (g.tr k) t
  obtain⟨d0,n0,sp0,sk0,ow0,hb0,_⟩:=nd0.ex;refine pO hb0 (aq.2 ⟨_,w r 5,O4 hl ?_⟩);rw[hlev];have Z:=Kz x (12-m) p.1;have Q:=hs _ Z;have hrp:=Dl (x:=x) (lev:=12-m) (c:=ck x (12-m) p.1) U;have hnp:(part x (12-m) (ck x (12-m) p.1) l).length≤1000000:=cQ He hn;have S:p∈part x (12-m) (ck x (12-m) p.1) l↔p∈l:=by rw[vU];exact⟨fun h=>h.1,fun h=>⟨h,rfl⟩⟩
  have O:=Ij (x:=x) (lev:=12-m) (l:=l) (k:=p.1);have n:=fun{h':ac} {b':Nat} {s':Slots}=>KM (W:=W) (x:=x) (h:=f) (h':=h') (m:=m) (b':=b') (s:=s) (s':=s') (l:=l) (p:=p) U
  generalize hc:ck x (12-m) p.1=c at Z Q hrp hnp S O n;generalize hlp:part x (12-m) c l=lc at Q hrp hnp S O n;refine Hl nd0 Z fun N J=>?_
  have k4:=Upd.hnew No N [.string (⟨#[]⟩:ByteArray),.string (⟨#[]⟩:ByteArray)] ar;have b4:=be N [.string (⟨#[]⟩:ByteArray),.string (⟨#[]⟩:ByteArray)] ar;refine bl ?_;simp only[bN N];generalize hnew N [.string (⟨#[]⟩:ByteArray),.string (⟨#[]⟩:ByteArray)] ar=h4 at k4 b4;have b4':h4[N.size]? =some (.cells #[.string PC.1,.string PC.2] ar (0,0)):=b4
  refine MD (p:=OU (s.p c)) b4' fun h5 b5 hu5=>?_
  have d:Upd No f h5:=(J.tr k4).trans hu5 fun y hy=>.inr (by have hy:y=N.size:=hy;have:=J.size;omega)
  have w5:∀{h':ac},Upd No h5 h'→∀i,aB h' (adr ⟨N.size,0,none⟩ i)=(#[.string (OU (s.p c)).1,.string (OU (s.p c)).2]:Array Value)[i]?:=fun k i=>by rw[bC,aC (k.get0 b5),az]
  have r5:=Upd.refl No h5;have P:=nd0.upd d fun _ h=>h.elim
  cases hsp:s.p c with
  |some y=>
   rw[hsp]at w5;obtain⟨D,hk0⟩:lc= [y]∧s.k c=none:=by
    rcases Q with⟨_,f,_⟩|⟨q,E,f,N⟩|⟨_,f,_⟩
    ·rw[hsp]at f;cases f
    ·rw[hsp]at f;cases f;exact⟨E,N⟩
    ·rw[hsp]at f;cases f
   refine aK.2 ⟨y.1,w5 r5 0,y.2,w5 r5 1,p.1,C d 0,p.2,C d 1,?_⟩;rw[lg,lg];have hyl:y∈l:=(vU.1 (show y∈part x (12-m) c l by rw[hlp,D];exact ak.2 rfl)).1
   by_cases L:y.1=p.1
   ·have G:dA l p.1=true:=bQ.2 ⟨y,hyl,decide_eq_true L⟩
    rw[G]at H;by_cases e2:y.2=p.2
    ·rw[decide_eq_true L,decide_eq_true e2]
     have hyp:y=p:=Prod.ext L e2;have A:p∈l:=hyp▸hyl;refine aK.2 ?_;exact H h5 b false (g.tr d) (by rw[CR U A];exact tt d) (fun _=>rfl) (by rw[decide_eq_true A];rfl)
    ·rw[decide_eq_true L,decide_eq_false e2]
     refine aq.2 ⟨y.1,w5 r5 0,p.1,C d 0,?_⟩;rw[lg,decide_eq_true L];refine aK.2 ⟨none,w d 3,p.1,C d 0,p.2,C d 1,?_⟩;refine uW P (Y (g.tr d)) Z (fun _ _=>hk0) p fun h6 V nd6 j=>?_
     have T:p∉l:=fun hm=>by
      have:=S.2 hm;rw[D]at this;exact e2 (by rw[ak.1 this])
     refine H h6 V true ((g.tr d).tr j) (n (d.tr j) nd6 hs (fun c' o=>⟨lz o,lz o⟩) ?_) (fun h=>by cases h) (by rw[decide_eq_false T];rfl)
     refine .inr (.inl ⟨p,?_,kN,kN⟩);rw[D,lC,if_neg (by rw[L];exact fS _),if_pos L]
   ·rw[decide_eq_false L]
    refine aq.2 ⟨y.1,w5 r5 0,p.1,C d 0,?_⟩;rw[lg,decide_eq_false L];refine aq.2 ⟨none,w d 3,_,w d 0,_,w d 1,_,w d 2,_,w d 3,_,w d 4,_,w d 5,y.1,w5 r5 0,y.2,w5 r5 1,p.1,C d 0,p.2,C d 1,?_⟩;have ew:IntKind.wrap .i64 (((12-m:Nat):Int)+1)=((13-m:Nat):Int):=by rw[dT (by omega)];omega
    rw[ew];refine O8 m y p (by omega) L (Y (g.tr d)) fun h6 V t6 j=>⟨w (d.tr j) 3,?_⟩
    refine AR (P.upd j fun _ h=>h.elim) (Y ((g.tr d).tr j)) Z (fun z hz=>by rw[hk0]at hz;cases hz) ⟨V,0,none⟩ fun h7 b7 nd7 F=>?_
    have G:dA l p.1=false:=by
     rw[←O,D];unfold dA;rw[List.any_cons,decide_eq_false L];rfl
    have T:p∉l:=fun hm=>by
     have:dA l p.1=true:=bQ.2 ⟨p,hm,decide_eq_true rfl⟩;rw[G]at this;cases this
    rw[G]at H;refine H h7 b7 true (((g.tr d).tr j).tr F) (n ((d.tr j).tr F) nd7 hs (fun c' o=>⟨lz o,lz o⟩) ?_) (fun h=>by cases h) (by rw[decide_eq_false T];rfl)
    rw[D];exact .inr (.inr ⟨by rw[JU L];omega,kN,V,kN,TrieAt.upd0 F t6⟩)
  |none=>
   refine aq.2 (FZ P Z ?_);cases hsk:s.k c with
   |none=>
    have hlc:lc= []:=by
     rcases Q with⟨E,_⟩|⟨q,_,f,_⟩|⟨_,_,kb,f,_⟩
     ·exact E
     ·rw[hsp]at f;cases f
     ·rw[hsk]at f;cases f
    refine aK.2 ⟨none,w d 3,p.1,C d 0,p.2,C d 1,?_⟩;refine uW P (Y (g.tr d)) Z (fun _ _=>hsk) p fun h6 V nd6 j=>?_
    have G:dA l p.1=false:=by rw[←O,hlc];rfl
    have T:p∉l:=fun hm=>by
     have:dA l p.1=true:=bQ.2 ⟨p,hm,decide_eq_true rfl⟩;rw[G]at this;cases this
    rw[G]at H;refine H h6 V true ((g.tr d).tr j) (n (d.tr j) nd6 hs (fun c' o=>⟨lz o,lz o⟩) ?_) (fun h=>by cases h) (by rw[decide_eq_false T];rfl)
    rw[hlc];exact .inr (.inl ⟨p,rfl,kN,kN⟩)
   |some kp=>
    obtain⟨h2l,kb,rfl,tk⟩:2≤lc.length∧∃kb,kp=some ⟨kb,0,none⟩∧TrieAt W x f m kb lc:=by
     rcases Q with⟨_,_,f⟩|⟨q,_,f,_⟩|⟨E,_,kb,f,N⟩
     ·rw[hsk]at f;cases f
     ·rw[hsp]at f;cases f
     ·rw[hsk]at f;cases f;exact⟨E,kb,rfl,N⟩
    refine aq.2 ⟨_,w d 0,_,w d 1,_,w d 2,_,w d 3,_,w d 4,_,w d 5,p.1,C d 0,p.2,C d 1,?_⟩;have ew:IntKind.wrap .i64 (((12-m:Nat):Int)+1)=((13-m:Nat):Int):=by rw[dT (by omega)];omega
    rw[ew];refine ih (by omega) p (TrieAt.upd0 d tk) (Y (g.tr d)) hrp hnp fun h6 V ch j t6 hsame I=>?_
    have B:=d.tr j;by_cases A:p∈l
    ·have I:ch=false:=by rw[I,decide_eq_true (S.2 A)];rfl
     have G:dA l p.1=true:=bQ.2 ⟨p,A,decide_eq_true rfl⟩;rw[G]at H;rw[I];refine aK.2 ?_;exact H h6 b false (g.tr B) (by rw[CR U A];exact tt B) (fun _=>rfl) (by rw[decide_eq_true A];rfl)
    ·have I:ch=true:=by rw[I,decide_eq_false fun h=>A (S.1 h)];rfl
     rw[I];refine aq.2 ⟨none,w B 3,?_⟩;refine AR (P.upd j fun _ h=>h.elim) (Y ((g.tr d).tr j)) Z (fun _ _=>hsp) ⟨V,0,none⟩ fun h7 b7 nd7 F=>?_
     rw[O];refine H h7 b7 true ((g.tr B).tr F) (n (B.tr F) nd7 hs (fun c' o=>⟨lz o,lz o⟩) ?_) (fun h=>by cases h) (by rw[decide_eq_false A];rfl)
     exact .inr (.inr ⟨cQ h2l (Ht p),kN,V,kN,TrieAt.upd0 F t6⟩)
end Go.Proofs
namespace Go.Proofs
open Go.Lift
theorem GN{W:Nat→Prop}{x:Hs}{h:ac}{m b:Nat}(nd:NodeAt W h b ⟨fun _=>none,fun _=>none⟩):TrieAt W x h (m+1) b []:=⟨_,nd,fun _ _=>.inl ⟨rfl,rfl,rfl⟩⟩
def RootAt(W:Nat→Prop)(x:Hs)(h:ac)(r:Option Addr)(l:List Pr):Prop:=(r=none∧l= [])∨∃b,r=some ⟨b,0,none⟩∧TrieAt W x h 13 b l
theorem RootAt.upd0{W:Nat→Prop}{x:Hs}{h h':ac}{r:Option Addr}{l:List Pr}(k:Upd No h h')(t:RootAt W x h r l):RootAt W x h' r l:=t.imp id fun⟨b,e,t⟩=>⟨b,e,TrieAt.upd0 k t⟩
theorem J9{W:Nat→Prop}{x:Hs}{h:ac}{r:Option Addr}{l:List Pr}(t:RootAt W x h r l)(e:∀y,W y→y<h.size){K:Option Addr→ac→Prop}(c:∀h' b,TrieAt W x h' 13 b l→Upd No h h'→(r=some ⟨b,0,none⟩∨r=none)→K (some ⟨b,0,none⟩) h'):HC PG lI [.pointer r] [.c .ptr] K h:=by
 refine GA r ?_;unfold AB;rcases t with⟨rfl,rfl⟩|⟨b,rfl,t⟩
 ·refine aK.2 (xZ ?_)
  unfold uj;exact rp e fun h' b nd d=>c h' b (GN nd) d (.inr rfl)
 ·exact aq.2 (c h b t (Upd.refl _ _) (.inl rfl))
theorem cU{h:ac}{b:Nat}{t:TypeId}{c vs:List Value}(d:h[b]? =some (.cells c.toArray t (0,0))) (g:vs.length=c.length) {k:ac→Prop}
  (f:∀h',h'[b]? =some (.cells vs.toArray t (0,0))→Upd (· =b) h h'→k h'):uf h (some ⟨b,0,none⟩) 0 vs∧At (ii h ⟨b,0,none⟩ 0 vs) k:=by
 have e:=iz vs h 0 0 c d (by omega);refine⟨.inr ⟨_,rfl,fun j i=>by rw[bC];exact fR d (by rw[List.size_toArray];omega)⟩,bl ?_⟩
 rw[e];refine f _ ?_ (Upd.set h _ rfl);rw[dU d];congr 3
 simp[g]
set_option maxRecDepth 4000 in
theorem HL{W:Nat→Prop}{x:Hs}{h:ac}{r:Option Addr}{l:List Pr}(t:RootAt W x h r l)(Q:∀y,W y→y<h.size)(U:fk l)(X:l.length≤1000000)(p:Pr){K:Option Addr×Bool→ac→Prop}
  (V:∀h' b',Upd No h h'→TrieAt W x h' 13 b' (jb p l)→(p∈l→r=some ⟨b',0,none⟩∨r=none)→K (some ⟨b',0,none⟩, !dA l p.1) h'):
  HC PG wE [.agg #[.int .u64 x.k0,.int .u64 x.k1,.int .u64 x.mask],.pointer none,.pointer r,.agg #[.string p.1,.string p.2]] [.c .ptr,.c .bool] K h:=by
 refine H1 (x.k0,x.k1,x.mask) none r p ?_;unfold Cn ad cT Hc El aw af nU rm PB PH Ek;have k1:=Upd.hnew No h [.int .u64 x.k0,.int .u64 x.k1,.int .u64 x.mask] cc;have b1:=be h [.int .u64 x.k0,.int .u64 x.k1,.int .u64 x.mask] cc;refine bl ?_;simp only[bN h];generalize hnew h [.int .u64 x.k0,.int .u64 x.k1,.int .u64 x.mask] cc=h1 at k1 b1
 have H:=Upd.hnew No h1 [.string p.1,.string p.2] ar;have b2:=be h1 [.string p.1,.string p.2] ar;refine bl ?_;simp only[bN h1];generalize hnew h1 [.string p.1,.string p.2] ar=h2 at H b2;have f:∀{h':ac},Upd No h2 h'→∀i,aB h' (adr ⟨h.size,0,none⟩ i)=(#[.int .u64 x.k0,.int .u64 x.k1,.int .u64 x.mask]:Array Value)[i]?:=fun k i=>by
  rw[bC,aC (k.get0 (H.get0 b1)),az]
 have o:∀{h':ac},Upd No h2 h'→∀i,aB h' (adr ⟨h1.size,0,none⟩ i)=(#[.string p.1,.string p.2]:Array Value)[i]?:=fun k i=>by rw[bC,aC (k.get0 b2),az]
 have u:=Upd.refl No h2;have s:=k1.tr H;let D:List Value:= [.int .u64 0,.int .u64 0,.int .u64 0,.pointer none,.string (⟨#[]⟩:ByteArray),.int .u64 0]
 let C:List Value:= [.int .u64 x.k0,.int .u64 x.k1,.int .u64 x.mask,.pointer none,.string p.1,.int .u64 (jc x p.1)]
 have fin:∀{j:ac} {b:Nat},Upd No h2 j→j[b]? =some (.cells C.toArray cd (0,0))→
   ∃v15:Int,aB j (adr ⟨b,0,none⟩ 0)=some (.int .u64 v15)∧
    ∃v16:Int,aB j (adr ⟨b,0,none⟩ 1)=some (.int .u64 v16)∧
    ∃v17:Int,aB j (adr ⟨b,0,none⟩ 2)=some (.int .u64 v17)∧
    ∃v18:Option Addr,aB j (adr ⟨b,0,none⟩ 3)=some (.pointer v18)∧
    ∃v19:ByteArray,aB j (adr ⟨b,0,none⟩ 4)=some (.string v19)∧
    ∃v20:Int,aB j (adr ⟨b,0,none⟩ 5)=some (.int .u64 v20)∧
    ∃v21:ByteArray,aB j (adr ⟨h1.size,0,none⟩ 0)=some (.string v21)∧
    ∃v22:ByteArray,aB j (adr ⟨h1.size,0,none⟩ 1)=some (.string v22)∧
    HC PG lI [.pointer r] [.c .ptr] (fun(I:Option Addr) g=>
     ((aB g (adr ⟨h1.size,0,none⟩ 0)=some (.string v21)∧aB g (adr ⟨h1.size,0,none⟩ 1)=some (.string v22))∧
      ((aB g (adr ⟨b,0,none⟩ 0)=some (.int .u64 v15)∧aB g (adr ⟨b,0,none⟩ 1)=some (.int .u64 v16)∧aB g (adr ⟨b,0,none⟩ 2)=some (.int .u64 v17)∧aB g (adr ⟨b,0,none⟩ 3)=some (.pointer v18)∧aB g (adr ⟨b,0,none⟩ 4)=some (.string v19)∧aB g (adr ⟨b,0,none⟩ 5)=some (.int .u64 v20))∧
       HC PG gO [.agg #[.int .u64 v15,.int .u64 v16,.int .u64 v17,.pointer v18,.string v19,.int .u64 v20],.pointer I,.agg #[.string v21,.string v22],.int .i64 0] [.c .ptr,.c .bool,.c .bool] (fun(A:(Option Addr)×Bool×Bool) F=>
        K (A.1,A.2.1) F) g))) j:=fun{j b} e P=>by
  have n:∀{h':ac},Upd No j h'→∀i,aB h' (adr ⟨b,0,none⟩ i)=C.toArray[i]?:=fun k i=>by rw[bC,aC (k.get0 P),az]
  have z:=Upd.refl No j;refine⟨_,n z 0,_,n z 1,_,n z 2,_,n z 3,_,n z 4,_,n z 5,p.1,o e 0,p.2,o e 1,?_⟩;refine J9 (t.upd0 (s.tr e)) (fun y B=>aE (Q y B) (s.tr e).size) fun S L t5 d N=>?_
  have c:=e.tr d;refine⟨⟨o c 0,o c 1⟩,⟨n d 0,n d 1,n d 2,n d 3,n d 4,n d 5⟩,?_⟩;refine PU 13 (av _) p t5 (fun y B=>aE (Q y B) ((s.tr e).tr d).size) U X fun R E ch v T Y G=>?_
  refine V R E ((s.tr c).tr v) T fun hm=>?_
  have O:E=L:=Y (by rw[G,decide_eq_true hm];rfl);rw[O];exact N
 have own:∀{w j:ac} {b:Nat},h2.size≤b→Upd (· =b) w j→Upd No h2 w→Upd No h2 j:=fun O Z k=>k.trans Z fun y B=>.inr (B▸O)
 refine⟨_,f u 0,_,f u 1,_,f u 2,_,o u 0,_,f u 0,_,f u 1,_,f u 2,_,o u 0,?_,?_⟩
 ·refine CU fun w m=>⟨o m 0,⟨f m 0,f m 1,f m 2⟩,?_⟩
  have q:=Upd.hnew No w D cd;have J:=be w D cd;have e:=m.tr q;refine bl ?_;simp only[bN w];refine⟨o e 0,⟨f e 0,f e 1,f e 2⟩,?_⟩;refine cU (vs:=C) J rfl fun S L d=>fin (own m.size d e) L
 ·have q:=Upd.hnew No h2 D cd
  have J:=be h2 D cd;refine bl ?_;simp only[bN h2];refine⟨o q 0,⟨f q 0,f q 1,f q 2⟩,o q 0,⟨f q 0,f q 1,f q 2⟩,?_⟩;refine CU fun S d=>?_
  have c:=q.tr d;refine⟨o c 0,⟨f c 0,f c 1,f c 2⟩,?_⟩;exact cU (vs:=C) (d.get0 J) rfl fun R E v=>fin (own (av _) v c) E
end Go.Proofs
namespace Go.Proofs
open Go.Lift
abbrev Ry(b:UInt8):List Value:= [.int .u8 (b.toNat:Int)]
theorem Qt(b:UInt8):(Ry b).length=1∧0<1:=⟨rfl,Nat.one_pos⟩
end Go.Proofs
namespace Go.Proofs
open Go.Lift
abbrev u32(x:Int):List Value:= [.int .u32 x]
theorem uT(x:Int):(u32 x).length=1∧0<1:=⟨rfl,Nat.one_pos⟩
abbrev Nums(W:Nat→Prop)(h:ac)(s:SliceV)(xs:List Int):Prop:=Sl u32 1 W h s xs
theorem Nums.at{W:Nat→Prop}{h:ac}{s:SliceV}{xs:List Int}(c:Nums W h s xs){i:Nat}(b:i<xs.length):∃a,s.a=some a∧¬W a.block∧aB h (adr a (((i:Int)).toNat*1))=some (.int .u32 xs[i]):=
 c.at0 (g:=fun x=>.int .u32 x) (List.getElem?_eq_getElem b)
theorem F6{W:Nat→Prop}{s:SliceV}{xs:List Int}{j:Value}{p:Int→Bool}(St:ac→Prop)(f:∀h,St h→Nums W h s xs)
  (w:∀h x (K:Bool→ac→Prop),St h→x∈xs→(∀h',St h'→K (p x) h')→HV PG j [.int .u32 x] [.c .bool] K h)
  (y:xs.length≤4611686018427387904){h:ac}(q:St h){K:Int→ac→Prop}(o:∀(n:Int) h',St h'→(n≥0↔∃x∈xs,p x=true)→K n h'):
  HC PG eJ [.slice s.a s.len s.cap,j] [.c (.int .i64)] K h:=by
 refine jS s j ?_;unfold gy aD bT;refine LoopP.ghost (fun(i:Nat) (t:Int) h'=>t=(i:Int)∧St h'∧i≤xs.length∧∀x∈xs.take i,p x=false) (fun i=>xs.length-i) 0 ⟨rfl,q,cu _,by simp⟩ ?_
 rintro I i t h' ⟨rfl,e,A,m⟩ z;have d:=f _ e;refine ax (fun b=>?_) (fun g=>?_)
 ·rw[d.len]at b
  have b:i<xs.length:=by omega
  obtain⟨a,u,_,hx⟩:=Nums.at d b;refine⟨by rw[d.len];omega,a,u,_,hx,?_⟩;refine w _ _ _ e (cj b) fun B c=>?_
  refine CondP.intro (fun v=>?_) (fun k=>?_)
  ·exact o _ _ c ⟨fun _=>⟨_,cj b,v⟩,fun _=>by omega⟩
  ·rw[gN b y]
   refine z (i+1) _ _ ⟨rfl,c,b,?_⟩ (by omega);rw[List.take_succ_eq_append_getElem b];intro x hx;rcases bo.1 hx with h|h
   ·exact m x h
   ·rw[ak.1 h];exact k
 ·rw[d.len]at g
  have:i=xs.length:=by omega
  subst this;rw[List.take_length]at m;exact o _ _ e ⟨fun h=>by omega,fun⟨x,hx,h⟩=>by rw[m x hx]at h;cases h⟩
theorem Cz{W:Nat→Prop}{s:SliceV}{xs:List Int}{d:Value}{p:Int→Bool}(St:ac→Prop)(b:∀h,St h→Nums W h s xs)
  (g:∀h x (K:Bool→ac→Prop),St h→x∈xs→(∀h',St h'→K (p x) h')→HV PG d [.int .u32 x] [.c .bool] K h)
  (c:xs.length≤4611686018427387904){h:ac}(e:St h){K:Bool→ac→Prop}(i:∀h',St h'→K (xs.any p) h'):
  HC PG fG [.slice s.a s.len s.cap,d] [.c .bool] K h:=by
 refine oY s d ?_;unfold iS;refine F6 St b g c e fun n h' f c=>?_
 have:decide (n≥0)=xs.any p:=by
  rw[mR,decide_eq_true_iff,c,bQ]
 rw[this];exact i _ f
theorem NI{W:Nat→Prop}{h:ac}{s:SliceV}{xs:List Int}(d:Nums W h s xs)(k:xs.length*4≤140737488355328){K:SliceV→ac→Prop}
  (i:∀s' h',OwnS u32 1 iQ (fun b=>h.size≤b) h' s' xs→Upd No h h'→(s.a=none→xs= [])→K s' h'):HC PG iP [.slice s.a s.len s.cap] [.c .slice] K h:=by
 refine uh s ?_;unfold mA;refine CondP.intro (fun g=>?_) (fun c=>?_)
 ·have g:s.a=none:=by simpa using g
  have hx:xs= []:=by
   by_cases hx:xs= []
   ·exact hx
   ·obtain⟨a,j,_⟩:=d.row hx
    rw[g]at j;cases j
  subst hx;exact i _ _ (OwnS.nil uT) (Upd.refl _ _) fun _=>rfl
 ·have m:=d.upd (Upd.hnew No h [] iQ) (fun _ h=>h.elim)
  refine⟨_,m.srow,?_⟩;refine AppP.own (f:=u32) (M:=fun b=>h.size≤b) (xs:= []) (ys:=xs) ⟨rfl,uT,av _,.inl rfl⟩ d.len rfl ?_ rfl (by omega) (by simpa using k) (by rw[gg];omega) fun s' h' p n=>?_
  ·clear i d m k
   induction xs with
   |nil=>rfl
   |cons x xs ih=>rw[List.flatMap_cons];exact ih
  ·refine i _ _ p ((Upd.hnew No h [] iQ).trans n fun b o=>.inr o) fun e=>?_
   rw[e]at c;cases c
end Go.Proofs
namespace Go.Proofs
open Go.Lift
abbrev KE:KeyE Int:=Rd .u32
abbrev fH:=List (Int×List Int)
def Rep(W:Nat→Prop)(h:ac)(m:List (Int×SliceV))(L:fH):Prop:=
 ∀id,(∃s ps,cz m id=some s∧cz L id=some ps∧Nums W h s ps)∨(cz m id=none∧cz L id=none)
structure GraphAt(W:Nat→Prop)(h:ac)(gp gm:Nat)(L:fH)(nx:Int):Prop where
 blk:h[gp]? =some (.cells #[.map (some gm),.int .u32 nx] ff (0,0))
 map:∃m,MapAt KE sv h gm m∧Rep W h m L
 wp:W gp
 wm:W gm
 lt:∀b,W b→b<h.size
 nd:(L.map (·.1)).Nodup
theorem Rep.upd{W M:Nat→Prop}{h h':ac}{m:List (Int×SliceV)}{L:fH}(r:Rep W h m L)(k:Upd M h h')(hm:∀b,M b→W b∨h.size≤b):Rep W h' m L:=fun id=>by
 rcases r id with⟨s,ps,f,c,e⟩|d
 ·exact .inl ⟨s,ps,f,c,e.upd k hm⟩
 ·exact .inr d
theorem GraphAt.upd{W M:Nat→Prop}{h h':ac}{gp gm:Nat}{L:fH}{nx:Int}(g:GraphAt W h gp gm L nx)(k:Upd M h h')(hm:∀b,M b→(W b∧b≠gp∧b≠gm)∨h.size≤b):GraphAt W h' gp gm L nx:=by
 have c:=g.lt;have j:¬M gp:=fun e=>(hm _ e).elim (fun e=>e.2.1 rfl) fun e=>absurd (c _ g.wp) (ny.2 e)
 have n:¬M gm:=fun e=>(hm _ e).elim (fun e=>e.2.2 rfl) fun e=>absurd (c _ g.wm) (ny.2 e)
 obtain⟨m,d,i⟩:=g.map;exact⟨k.get g.blk j,⟨m,d.upd k n,i.upd k fun b f=>(hm b f).imp (·.1) id⟩,g.wp,g.wm,fun b f=>aE (c b f) k.size,g.nd⟩
theorem GraphAt.upd0{W:Nat→Prop}{h h':ac}{gp gm:Nat}{L:fH}{nx:Int}(g:GraphAt W h gp gm L nx)(k:Upd No h h'):GraphAt W h' gp gm L nx:=g.upd k fun _ h=>h.elim
theorem GraphAt.c0{W:Nat→Prop}{h:ac}{gp gm:Nat}{L:fH}{nx:Int}(g:GraphAt W h gp gm L nx):aB h ⟨gp,0,none⟩=some (.map (some gm)):=by rw[aC g.blk];rfl
theorem GraphAt.c1{W:Nat→Prop}{h:ac}{gp gm:Nat}{L:fH}{nx:Int}(g:GraphAt W h gp gm L nx):aB h ⟨gp,1,none⟩=some (.int .u32 nx):=by rw[aC g.blk];rfl
abbrev ids(L:fH):List Int:=L.map (·.1)
theorem M2{L:fH}{id:Int}:(cz L id).isSome=decide (id∈ids L):=by
 cases h:cz L id with
 |none=>rw[decide_eq_false (lh.1 h)];rfl
 |some v=>
  have:id∈ids L:=by
   by_cases hm:id∈ids L
   ·exact hm
   ·rw[lh.2 hm]at h;cases h
  rw[decide_eq_true this];rfl
theorem Rep.some{W:Nat→Prop}{h:ac}{m:List (Int×SliceV)}{L:fH}(r:Rep W h m L)(id:Int):(cz m id).isSome=decide (id∈ids L):=by
 rw[←M2];rcases r id with⟨s,ps,c,b,_⟩|⟨c,b⟩<;>rw[c,b]<;>rfl
theorem Rep.len{W:Nat→Prop}{h:ac}{m:List (Int×SliceV)}{L:fH}(r:Rep W h m L)(d:(m.map (·.1)).Nodup)(b:(ids L).Nodup):m.length=L.length:=by
 have:(m.map (·.1)).Perm (ids L):=by
  rw[List.perm_ext_iff_of_nodup d b];intro id;have:=r.some id;have c:id∈m.map (·.1)↔(cz m id).isSome=true:=by
   cases hl:cz m id with
   |none=>simp[lh.1 hl]
   |some v=>
    simp only[Option.isSome_some,iff_true];by_cases hm:id∈m.map (·.1)
    ·exact hm
    ·rw[lh.2 hm]at hl;cases hl
  rw[c,this,decide_eq_true_iff]
 have:=this.length_eq;simpa using this
def R8:List Int→Bool
 | [a,b]=>a==b
 |_=>false
def zD(ps:List Int):Int:=if ps.length>2∨R8 ps=true then 1 else 0
def s9(L:fH)(ps:List Int):Int:=if ps.any (fun p=> !decide (p∈ids L))then 4 else if L.length≥1024 then 6 else 0
theorem Km{W:Nat→Prop}{h:ac}{gp gm:Nat}{L:fH}{nx:Int}(g:GraphAt W h gp gm L nx)(id:Int){K:Bool→ac→Prop}(c:K (decide (id∈ids L)) h):
  HC PG kA [.pointer (some ⟨gp,0,none⟩),.int .u32 id] [.c .bool] K h:=by
 refine Ap (some ⟨gp,0,none⟩) id ?_;unfold tM aD;obtain⟨m,hm,b⟩:=g.map;refine CondP.intro (fun e=>by cases e) fun _=>⟨_,rfl,_,g.c0,_,_,hm.get id ⟨none,0,0⟩,?_⟩
 rw[b.some id];exact c
theorem M4{W:Nat→Prop}{h:ac}{gp gm:Nat}{L:fH}{nx:Int}(g:GraphAt W h gp gm L nx){K:Int→ac→Prop}(b:K nx h):
  HC PG eR [.pointer (some ⟨gp,0,none⟩)] [.c (.int .u32)] K h:=by
 refine yZ (some ⟨gp,0,none⟩) ?_;unfold sF dj;exact CondP.intro (fun e=>by cases e) fun _=>⟨_,rfl,_,g.c1,b⟩
theorem OX{W:Nat→Prop}{h:ac}{p:Option Addr}{s:SliceV}{ps:List Int}(d:Nums W h s ps){K:Int→ac→Prop}(c:K (zD ps) h):
  HC PG oA [.pointer p,.slice s.a s.len s.cap] [.c (.int .i64)] K h:=by
 refine Am p s ?_;unfold tK aD bT;refine Join.plain (ax (fun j=>?_) fun k=>CondP.intro (fun f=>?_) fun b=>?_)
 ·rw[d.len]at j
  rw[show zD ps=1 from if_pos (.inl (by omega))]at c
  exact aK.2 c
 ·rw[d.len]at f
  have f:ps.length=2:=by
   have:(ps.length:Int)=2:=by simpa using f
   omega
  obtain⟨a,n,_,hx⟩:=Nums.at d (i:=0) (by omega);obtain⟨a',g,_,o⟩:=Nums.at d (i:=1) (by omega);refine⟨by rw[d.len];omega,a,n,_,hx,by rw[d.len];omega,a',g,_,o,?_⟩
  have e:zD ps=if(ps[0]==ps[1])=true then 1 else 0:=by
   match ps,f with
   | [x,y],_=>simp[zD,R8]
  rw[e]at c;exact CondP.intro (fun m=>by rw[if_pos m]at c;exact c) fun m=>by rw[if_neg (by rw[m];decide)]at c;exact c
 ·rw[d.len]at k b
  have b:ps.length≠2:=fun e=>by rw[e]at b;exact absurd b (by decide)
  have hd:R8 ps=false:=by
   match ps,b with
   | [],_=>rfl
   | [_],_=>rfl
   | [_,_],h=>exact absurd rfl h
   |_::_::_::_,_=>rfl
  rw[show zD ps=0 from if_neg (by rw[hd];simp;omega)]at c
  exact aq.2 c
theorem M6{W:Nat→Prop}{h:ac}{gp gm:Nat}{L:fH}{nx:Int}(g:GraphAt W h gp gm L nx){s:SliceV}{ps:List Int}(o:Nums W h s ps)(w:ps.length≤4611686018427387904)
  {K:Int→ac→Prop}(d:∀h',Upd No h h'→K (s9 L ps) h'):HC PG m9 [.pointer (some ⟨gp,0,none⟩),.slice s.a s.len s.cap] [.c (.int .i64)] K h:=by
 refine yY (some ⟨gp,0,none⟩) s ?_;unfold sE aD;have k:=Upd.hnew No h [.pointer (some ⟨gp,0,none⟩)] qo;refine Cz (p:=fun p=> !decide (p∈ids L)) (fun h'=>GraphAt W h' gp gm L nx∧Nums W h' s ps∧h'[h.size]? =some (.cells #[.pointer (some ⟨gp,0,none⟩)] qo (0,0))∧Upd No h h') (fun h' j=>j.2.1) ?_ w ⟨g.upd0 k,o.upd k fun _ h=>h.elim,be h _ _,k⟩ ?_
 ·rintro h' x K ⟨c,e,i,b⟩ _ n
  refine HV.mk' (wV x ⟨h.size,0,none⟩ ?_);unfold qi GH;refine⟨_,by rw[aC i];rfl,?_⟩
  exact Km c x (n h' ⟨c,e,i,b⟩)
 ·rintro h' ⟨c,e,i,b⟩
  obtain⟨m,hm,v⟩:=c.map;refine CondP.intro (fun q=>?_) fun f=>?_
  ·rw[show s9 L ps=4 from if_pos q]at d
   exact d h' b
  ·refine⟨_,by rw[bN,aC i];rfl,_,rfl,_,c.c0,_,hm.len,?_⟩
   rw[v.len hm.nodup c.nd];refine ax (fun t=>?_) fun u=>?_
   ·rw[show s9 L ps=6 from(if_neg (by rw[f];decide)).trans (if_pos (by omega))]at d
    exact d h' b
   ·rw[show s9 L ps=0 from(if_neg (by rw[f];decide)).trans (if_neg (by omega))]at d
    exact d h' b
end Go.Proofs
namespace Go.Proofs
open Go.Lift
def zG(L:fH)(id:Int)(ps:List Int):fH:=L.takeWhile (fun v=>decide (v.1<id))++(id,ps)::L.dropWhile (fun v=>decide (v.1<id))
def kJ(L:fH)(nx:Int)(ps:List Int):(Int×Int)×fH×Int:=
 if zD ps≠0 then((0,zD ps),L,nx)else if s9 L ps≠0 then((0,s9 L ps),L,nx)else if nx≥2147483648 then((0,6),L,nx)else((nx,0),zG L nx ps,nx+1)
def PV(L:fH)(nx:Int)(id:Int)(ps:List Int):Int×fH×Int:=
 if zD ps≠0∨id=0∨id≥2147483648∨ps.any (fun p=>decide (p≥id))=true then(1,L,nx)else if id∈ids L then(7,L,nx)else if s9 L ps≠0 then(s9 L ps,L,nx)else(0,zG L id ps,if id+1>nx then id+1 else nx)
abbrev CB(a b:Nat):Nat→Prop:=fun x=>x=a∨x=b
theorem Fw{κ β:Type}[DecidableEq κ](l b:List (κ×β))(k:κ):cz (l++b) k=(cz l k).or (cz b k):=by
 induction l with
 |nil=>simp[cz]
 |cons p l ih=>
  obtain⟨k',u⟩:=p;simp only[List.cons_append,cz,ih];split<;>simp
theorem Lh{L:fH}{id:Int}{ps:List Int}(d:id∉ids L)(j:Int):cz (zG L id ps) j=if j=id then some ps else cz L j:=by
 have c:∀p:Int×List Int→Bool,cz L j=(cz (L.takeWhile p) j).or (cz (L.dropWhile p) j):=fun p=>by rw[←Fw,List.takeWhile_append_dropWhile]
 unfold zG;rw[Fw];simp only[cz];by_cases b:j=id
 ·subst b
  have:cz (L.takeWhile fun v=>decide (v.1<j)) j=none:=lh.2 fun hm=>d (by
   obtain⟨x,hx,e⟩:=aI.1 hm
   exact aI.2 ⟨x,List.takeWhile_subset _ hx,e⟩)
  rw[this];simp
 ·simp only[b,if_false]
  exact(c _).symm
theorem xm(L:fH)(id:Int)(ps:List Int):(zG L id ps).Perm ((id,ps)::L):=by
 unfold zG;refine List.perm_middle.trans ?_;rw[List.takeWhile_append_dropWhile]
theorem insV_ids{L:fH}{id:Int}{ps:List Int}:(ids (zG L id ps)).Perm (id::ids L):=(xm L id ps).map _
theorem Ji{L:fH}{id:Int}{ps:List Int}(h:(ids L).Nodup)(b:id∉ids L):(ids (zG L id ps)).Nodup:=by
 rw[insV_ids.nodup_iff];exact List.nodup_cons.2 ⟨b,h⟩
theorem Rep.put{W:Nat→Prop}{h h':ac}{m:List (Int×SliceV)}{L:fH}(r:Rep W h m L){id:Int}{s:SliceV}{ps:List Int}(e:∀s xs,Nums W h s xs→Nums W h' s xs)(d:Nums W h' s ps)(i:id∉ids L):Rep W h' (my m id s) (zG L id ps):=fun j=>by
 rw[LD,Lh i];by_cases b:j=id
 ·simp only[b,if_true];exact .inl ⟨s,ps,rfl,rfl,d⟩
 ·simp only[b,if_false]
  rcases r j with⟨s,ps,g,k,f⟩|c
  ·exact .inl ⟨s,ps,g,k,e s ps f⟩
  ·exact .inr c
theorem GraphAt.ne{W:Nat→Prop}{h:ac}{gp gm:Nat}{L:fH}{nx:Int}(g:GraphAt W h gp gm L nx):gm≠gp:=fun e=>by
 obtain⟨m,⟨ms,c,hm,_⟩,_⟩:=g.map;have:=hm.here;rw[e,g.blk]at this;cases this
theorem GraphAt.put{W:Nat→Prop}{h:ac}{gp gm:Nat}{L:fH}{nx:Int}(g:GraphAt W h gp gm L nx){id:Int}{s:SliceV}{ps:List Int}(o:Nums W h s ps)(q:id∉ids L)(i:Int):
  GraphAt W (hset (nJ h gm (.int .u32 id) (sv s)) ⟨gp,1,none⟩ (.int .u32 i)) gp gm (zG L id ps) i∧Upd (CB gp gm) h (hset (nJ h gm (.int .u32 id) (sv s)) ⟨gp,1,none⟩ (.int .u32 i))∧
   Wr (nJ h gm (.int .u32 id) (sv s)) ⟨gp,1,none⟩∧aB (nJ h gm (.int .u32 id) (sv s)) ⟨gp,1,none⟩=some (.int .u32 nx)∧Upd (CB gp gm) h (nJ h gm (.int .u32 id) (sv s)):=by
 obtain⟨m,hm,t⟩:=g.map;have j:=g.ne;have k1:Upd (· =gm) h (nJ h gm (.int .u32 id) (sv s)):=ur h _ _ rfl
 have c:=k1.get g.blk (Ne.symm j);have p:Upd (· =gp) (nJ h gm (.int .u32 id) (sv s)) (hset (nJ h gm (.int .u32 id) (sv s)) ⟨gp,1,none⟩ (.int .u32 i)):=Upd.hset _ _ rfl
 have n:Upd (CB gp gm) h (nJ h gm (.int .u32 id) (sv s)):=k1.mono fun b f=>.inl (.inr f)
 have k:Upd (CB gp gm) h (hset (nJ h gm (.int .u32 id) (sv s)) ⟨gp,1,none⟩ (.int .u32 i)):=n.trans p fun b f=>.inl (.inl f)
 have d:∀b,CB gp gm b→W b∨h.size≤b:=fun b f=>.inl (f.elim (fun e=>e▸g.wp) fun e=>e▸g.wm)
 refine⟨⟨?_,⟨_,(MapAt.put hm id s).upd p j,t.put (fun s xs o=>o.upd k d) (o.upd k d) q⟩,g.wp,g.wm,fun b f=>aE (g.lt b f) k.size,Ji g.nd q⟩,k,fR c (by simp),by rw[aC c];rfl,n⟩
 rw[mq c,dU c];rfl
theorem OY{W:Nat→Prop}{h:ac}{gp gm:Nat}{L:fH}{nx:Int}(g:GraphAt W h gp gm L nx)(x:0≤nx)(n:nx∉ids L){s:SliceV}{ps:List Int}(v:Nums W h s ps)(B:ps.length*4≤140737488355328)
  {K:Int×Int→ac→Prop}(f:∀h',Upd (CB gp gm) h h'→GraphAt W h' gp gm (kJ L nx ps).2.1 (kJ L nx ps).2.2→K (kJ L nx ps).1 h'):
  HC PG oC [.pointer (some ⟨gp,0,none⟩),.slice s.a s.len s.cap] [.c (.int .u32),.c (.int .i64)] K h:=by
 refine Aq (some ⟨gp,0,none⟩) s ?_;unfold tN aD dj bV GJ;refine CondP.intro (fun e=>by cases e) fun _=>OX v ?_
 refine CondP.intro (fun c=>?_) fun c=>?_
 ·have c:zD ps≠0:=by simpa using c
  rw[show kJ L nx ps=_ from if_pos c]at f
  exact f h (Upd.refl _ _) g
 ·have c:¬zD ps≠0:=by simpa using c
  refine M6 g v (by omega) fun h' j=>?_
  refine CondP.intro (fun d=>?_) fun d=>?_
  ·have d:s9 L ps≠0:=by simpa using d
   rw[show kJ L nx ps=_ from(if_neg c).trans (if_pos d)]at f
   exact f h' j.wide (g.upd0 j)
  ·have d:¬s9 L ps≠0:=by simpa using d
   have i:=g.upd0 j;have q:=v.upd j fun _ h=>h.elim
   refine⟨_,rfl,_,i.c1,ax (fun u=>?_) fun u=>?_⟩
   ·rw[show kJ L nx ps=_ from(if_neg c).trans ((if_neg d).trans (if_pos u))]at f
    exact f h' j.wide i
   ·refine⟨_,rfl,_,i.c1,_,rfl,_,i.c0,NI q B fun s' o y k _=>?_⟩
    have t:=i.upd0 k;obtain⟨m,hm,F⟩:=t.map;have p:Nums W o s' ps:=y.sl fun b E _ w=>absurd (i.lt b w) (ny.2 E)
    obtain⟨A,C,z,D,_⟩:=t.put p n (nx+1);refine⟨t.c0,_,rfl,hm.isMap,_,rfl,_,D,_,rfl,z,?_⟩;rw[show IntKind.wrap .u32 (nx+1)=nx+1 from Go.IntWalk.u32_in _ (by omega)]
    rw[show kJ L nx ps=_ from(if_neg c).trans ((if_neg d).trans (if_neg u))]at f
    exact f _ ((j.wide.tr k.wide).tr C) A
end Go.Proofs
namespace Go.Proofs
open Go.Lift
theorem OW{h:ac}{K:Option Addr→ac→Prop}(e:∀h',Upd No h h'→GraphAt (CB (h.size+1) h.size) h' (h.size+1) h.size [] 1→K (some ⟨h.size+1,0,none⟩) h'):
  HC PG cM [] [.c .ptr] K h:=by
 refine HZ ?_;unfold Cl;have k1:=Upd.push No h (.map #[] 0);have hm:MapAt KE sv (h.push (.map #[] 0)) h.size []:=MapAt.new h;have d:=Upd.hnew No (h.push (.map #[] 0)) [.map (some h.size),.int .u32 1] ff;have c:(h.push (.map #[] 0)).size=h.size+1:=by simp
 have:=e _ (k1.tr d) ⟨by
  have:=be (h.push (.map #[] 0)) [.map (some h.size),.int .u32 1] ff
  rw[c]at this;exact this,⟨[],hm.upd d id,fun id=>.inr ⟨rfl,rfl⟩⟩,.inl rfl,.inr rfl,fun b f=>by rw[gg,c];rcases f with rfl|rfl<;>omega,List.nodup_nil⟩
 rw[←c]at this;exact this
end Go.Proofs
namespace Go.Proofs
open Go.Lift
abbrev parV(L:fH)(id:Int):List Int:=(cz L id).getD []
inductive UpG(L:fH):Int→Int→Prop
 |refl {a:Int}:a∈ids L→UpG L a a
 |step {a p b:Int}:a∈ids L→p∈parV L a→UpG L p b→UpG L a b
theorem UpG.left{L:fH}{a b:Int}(h:UpG L a b):a∈ids L:=by cases h<;>assumption
theorem GraphAt.more{W Q:Nat→Prop}{d h:ac}{gp gm:Nat}{L:fH}{nx:Int}(g:GraphAt W d gp gm L nx)(k:Upd No d h)(e:∀b,Q b→d.size≤b∧b<h.size):GraphAt (fun b=>W b∨Q b) h gp gm L nx:=by
 obtain⟨m,hm,f⟩:=g.map;refine⟨k.get0 g.blk,⟨m,hm.upd k id,fun j=>?_⟩,.inl g.wp,.inl g.wm,fun b c=>c.elim (fun c=>aE (g.lt b c) k.size) fun c=>(e b c).2,g.nd⟩
 rcases f j with⟨s,ps,n,o,i⟩|d
 ·exact .inl ⟨s,ps,n,o,(i.less fun b c=>c.imp id fun c=>(e b c).1).upd k fun _ h=>h.elim⟩
 ·exact .inr d
theorem GraphAt.less{W W':Nat→Prop}{h:ac}{gp gm:Nat}{L:fH}{nx:Int}(g:GraphAt W h gp gm L nx)(f:∀b,W' b→W b)(d:W' gp)(e:W' gm):GraphAt W' h gp gm L nx:=by
 obtain⟨m,hm,k⟩:=g.map;refine⟨g.blk,⟨m,hm,fun j=>?_⟩,d,e,fun b c=>g.lt b (f b c),g.nd⟩
 rcases k j with⟨s,ps,d,e,n⟩|i
 ·exact .inl ⟨s,ps,d,e,n.less fun b c=>.inl (f b c)⟩
 ·exact .inr i
end Go.Proofs
namespace Go.Proofs
open Go.Lift
theorem PM{M:Nat→Prop}(h:ac)(x:Int)(hM:M h.size):OwnS u32 1 iQ M (hnew h [.int .u32 x] iQ) ⟨some (aV h),1,1⟩ [x]:=
 ⟨rfl,uT,av _,.inr ⟨h.size,[],rfl,hM,be ..,rfl⟩⟩
structure Small(L:fH):Prop where
 two:∀v∈L,v.2.length≤2
 len:L.length≤100000
end Go.Proofs
namespace Go.Proofs
open Go.Lift
structure Good(L:fH):Prop extends Small L where
 up:(ids L).Pairwise (· < ·)
 par:∀v∈L,∀p∈v.2,p∈ids L∧p<v.1
theorem Good.nd{L:fH}(g:Good L):(ids L).Nodup:=g.up.imp fun h=>Int.ne_of_lt h
theorem Good.parV{L:fH}(g:Good L){a p:Int}(h:p∈parV L a):p∈ids L∧p<a∧a∈ids L:=by
 unfold Proofs.parV at h;cases hl:cz L a with
 |none=>rw[hl]at h;simp at h
 |some ps=>
  rw[hl]at h;have hm:=(Bk g.nd).1 hl;have:=g.par _ hm p (by simpa using h);exact⟨this.1,this.2,aI.2 ⟨_,hm,rfl⟩⟩
theorem UpG.snoc{L:fH}{a z w:Int}(h:UpG L a z)(b:w∈Proofs.parV L z)(c:w∈ids L):UpG L a w:=by
 induction h with
 |refl h1=>exact .step h1 b (.refl c)
 |step h1 h2 _ ih=>exact .step h1 h2 (ih b)
theorem UpG.right{L:fH}{a b:Int}(h:UpG L a b):b∈ids L:=by
 induction h with
 |refl h=>exact h
 |step _ _ _ ih=>exact ih
theorem UpG.last{L:fH}{a b:Int}(h:UpG L a b):b=a∨∃z,UpG L a z∧b∈Proofs.parV L z:=by
 induction h with
 |refl _=>exact .inl rfl
 | @step a p b h1 h2 h3 ih=>
  rcases ih with rfl|⟨z,d,c⟩
  ·exact .inr ⟨a,.refl h1,h2⟩
  ·exact .inr ⟨z,.step h1 h2 d,c⟩
theorem UpG.trans{L:fH}{a b c:Int}(h:UpG L a b)(k:UpG L b c):UpG L a c:=by
 induction h with
 |refl _=>exact k
 |step h1 h2 _ ih=>exact .step h1 h2 (ih k)
end Go.Proofs
namespace Go.Proofs
open Go.Lift
structure Inv(L:fH)(nx:Int):Prop where
 good:Good L
 pos:∀id∈ids L,1≤id∧id<nx
 nx1:1≤nx
 nx2:nx≤2147483648
 few:L.length≤1024
theorem Inv.nil:Inv [] 1:=⟨⟨⟨fun v b=>(by cases b),by simp⟩,gn,fun v b=>(by cases b)⟩,fun v b=>(by cases b),by omega,by omega,by simp⟩
theorem Gf{id:Int}:∀{L:fH},(ids L).Pairwise (· < ·)→id∉ids L→∀v∈L.dropWhile (fun v=>decide (v.1<id)),id<v.1
 | [],_,_,v,b=>by cases b
 |u::L,hp,hn,v,b=>by
  simp only[ids,aY,bK,ah,not_or]at hp hn;rw[List.dropWhile_cons]at b;split at b
  ·exact Gf hp.2 hn.2 v b
  ·rename_i h
   have h:¬u.1<id:=by simpa using h
   rcases ah.1 b with rfl|b
   ·omega
   ·have:=hp.1 v.1 (aI.2 ⟨v,b,rfl⟩);omega
theorem JW{id:Int}:∀{L:fH},∀v∈L.takeWhile (fun v=>decide (v.1<id)),v.1<id
 | [],v,b=>by cases b
 |u::L,v,b=>by
  rw[List.takeWhile_cons]at b;split at b
  ·rename_i h
   rcases ah.1 b with rfl|b
   ·simpa using h
   ·exact JW v b
  ·cases b
theorem E9{L:fH}(g:Good L){id:Int}{ps:List Int}(i:id∉ids L)(j:∀p∈ps,p∈ids L∧p<id)(m:ps.length≤2)(n:L.length<100000):Good (zG L id ps):=by
 have b:=xm L id ps;refine⟨⟨fun v c=>?_,by rw[b.length_eq];simp;omega⟩,?_,fun v c p d=>?_⟩
 ·rcases ah.1 (b.mem_iff.1 c)with rfl|c
  ·exact m
  ·exact g.two v c
 ·unfold zG ids
  rw[List.map_append,aY,dL];refine⟨(g.up.sublist ((List.takeWhile_sublist _).map _)),bK.2 ⟨fun y e=>?_,g.up.sublist ((List.dropWhile_sublist _).map _)⟩,fun x hx y e=>?_⟩
  ·obtain⟨v,c,rfl⟩:=aI.1 e
   exact Gf g.up i v c
  ·obtain⟨u,k,rfl⟩:=aI.1 hx
   have f:=JW u k;rcases ah.1 e with rfl|e
   ·exact f
   ·obtain⟨v,c,rfl⟩:=aI.1 e
    have:=Gf g.up i v c;omega
 ·rw[insV_ids.mem_iff]
  rcases ah.1 (b.mem_iff.1 c)with rfl|c
  ·exact⟨aQ _ (j p d).1,(j p d).2⟩
  ·have:=g.par v c p d
   exact⟨aQ _ this.1,this.2⟩
theorem DE{L:fH}{ps:List Int}(h:s9 L ps=0):(∀p∈ps,p∈ids L)∧L.length<1024:=by
 unfold s9 at h;split at h
 ·cases h
 ·rename_i h1
  split at h
  ·cases h
  ·rename_i h2
   refine⟨fun p b=>?_,by omega⟩
   by_cases hm:p∈ids L
   ·exact hm
   ·exact absurd (bQ.2 ⟨p,b,by simpa using hm⟩) h1
theorem E7{ps:List Int}(h:zD ps=0):ps.length≤2:=by
 unfold zD at h;split at h
 ·cases h
 ·rename_i h1
  have:=not_or.1 h1;omega
theorem Inv.add{L:fH}{nx:Int}(v:Inv L nx)(ps:List Int):Inv (kJ L nx ps).2.1 (kJ L nx ps).2.2:=by
 unfold kJ;split
 ·exact v
 ·rename_i d
  split
  ·exact v
  ·rename_i e
   split
   ·exact v
   ·rename_i h3
    have d:zD ps=0:=by omega
    have e:s9 L ps=0:=by omega
    obtain⟨c,i⟩:=DE e;have g:nx∉ids L:=fun hm=>by have:=(v.pos nx hm).2;omega
    show Inv (zG L nx ps) (nx+1)
    refine⟨E9 v.good g (fun p f=>⟨c p f,(v.pos p (c p f)).2⟩) (E7 d) (by have:=v.few;omega),fun id b=>?_,by have:=v.nx1;omega,by omega,?_⟩
    ·rcases ah.1 (insV_ids.mem_iff.1 b)with rfl|h
     ·have:=v.nx1;omega
     ·have:=v.pos id h;omega
    ·rw[(xm L nx ps).length_eq];simp;omega
theorem Inv.put{L:fH}{nx:Int}(v:Inv L nx){id:Int}(n:0≤id)(ps:List Int):Inv (PV L nx id ps).2.1 (PV L nx id ps).2.2:=by
 unfold PV;split
 ·exact v
 ·rename_i c
  have c:=not_or.1 c;have o:=c.1;have d:=not_or.1 c.2;have e:=not_or.1 d.2;split
  ·exact v
  ·rename_i h2
   split
   ·exact v
   ·rename_i f
    have k:zD ps=0:=by omega
    have f:s9 L ps=0:=by omega
    obtain⟨i,s⟩:=DE f;have m:=v.nx1;refine⟨E9 v.good h2 (fun p g=>⟨i p g,?_⟩) (E7 k) (by have:=v.few;omega),fun j q=>?_,by simp only;split<;>omega,?_,?_⟩
    ·by_cases b:p<id
     ·exact b
     ·exact absurd (bQ.2 ⟨p,g,by simpa using b⟩) e.2
    ·rcases ah.1 (insV_ids.mem_iff.1 q)with rfl|h
     ·simp only;split<;>omega
     ·have:=v.pos j h;simp only;split<;>omega
    ·have:=v.nx2;simp only;split<;>omega
    ·rw[(xm L id ps).length_eq];simp;omega
theorem Inv.drop{L:fH}{nx:Int}(v:Inv L nx){keep st:List Int}(d:∀y,y∈st↔∃k∈keep,UpG L k y):Inv (L.filter fun v=>decide (v.1∈st)) nx:=by
 have b:∀id,id∈ids (L.filter fun v=>decide (v.1∈st))↔id∈ids L∧id∈st:=fun id=>by
  unfold ids;simp only[aI,bG,decide_eq_true_iff];constructor
  ·rintro⟨u,⟨c,e⟩,rfl⟩;exact⟨⟨u,c,rfl⟩,e⟩
  ·rintro⟨⟨u,c,rfl⟩,e⟩;exact⟨u,⟨c,e⟩,rfl⟩
 refine⟨⟨⟨fun u f=>v.good.two u (bG.1 f).1,cQ (eu ..) v.good.len⟩,v.good.up.sublist ((fw).map _),fun u f p m=>?_⟩,fun id g=>v.pos id ((b id).1 g).1,v.nx1,v.nx2,cQ (eu ..) v.few⟩
 obtain⟨c,e⟩:=bG.1 f;obtain⟨j,n⟩:=v.good.par u c p m;refine⟨(b p).2 ⟨j,?_⟩,n⟩;obtain⟨k,o,i⟩:=(d _).1 (of_decide_eq_true e);refine(d p).2 ⟨k,o,i.snoc ?_ j⟩;have:cz L u.1=some u.2:=(Bk v.good.nd).2 c;simp[parV,this,m]
end Go.Proofs
namespace Go.Proofs
inductive Fo where
 |nil:Fo
 |cons (lab:List UInt8) (val:Option ByteArray) (kids rest:Fo):Fo
abbrev Bn:=List UInt8×Option ByteArray×Fo
def Fo.toL:Fo→List Bn
 | .nil=> []
 | .cons lab w kids rest=>(lab,w,kids)::rest.toL
theorem Fo.toL_cons(lab:List UInt8)(w:Option ByteArray)(b c:Fo):(Fo.cons lab w b c).toL=(lab,w,b)::c.toL:=rfl
def Fo.ofL:List Bn→Fo
 | []=>.nil
 |(lab,w,kids)::l=>.cons lab w kids (Fo.ofL l)
theorem Fo.to_of:∀l:List Bn,(Fo.ofL l).toL=l
 | []=>rfl
 |(_,_,_)::l=>by show _::(Fo.ofL l).toL=_;rw[Fo.to_of l]
theorem Fo.of_to:∀F:Fo,Fo.ofL F.toL=F
 | .nil=>rfl
 | .cons lab w kids rest=>by show Fo.cons lab w kids (Fo.ofL rest.toL)=_;rw[Fo.of_to rest]
def Bu:Fo→List UInt8→ByteArray→Prop
 | .nil,_,_=>False
 | .cons lab w kids rest,k,v=>(∃r,k=lab++r∧((r= []∧w=some v)∨Bu kids r v))∨Bu rest k v
def Cb(w:Option ByteArray)(F:Fo)(k:List UInt8)(v:ByteArray):Prop:=(k= []∧w=some v)∨Bu F k v
def Eh(n:Bn)(k:List UInt8)(v:ByteArray):Prop:=∃r,k=n.1++r∧Cb n.2.1 n.2.2 r v
theorem mH:∀{F:Fo} {k:List UInt8} {v:ByteArray},Bu F k v↔∃n∈F.toL,Eh n k v
 | .nil,_,_=>by simp[Bu,Fo.toL]
 | .cons lab w kids rest,k,v=>by
  rw[Fo.toL_cons];unfold Bu;rw[mH (F:=rest)];constructor
  ·rintro(h|⟨n,b,h⟩)
   ·exact⟨_,aP ..,h⟩
   ·exact⟨n,aQ _ b,h⟩
  ·rintro⟨n,b,h⟩
   rcases ah.1 b with rfl|b
   ·exact .inl h
   ·exact .inr ⟨n,b,h⟩
def hd(k:List UInt8):Nat:=(k.headD 0).toNat
theorem yA{a b:List UInt8}(h:a≠[]):hd (a++b)=hd a:=by
 cases a with
 |nil=>exact absurd rfl h
 |cons x a=>rfl
theorem Pw(a:List UInt8):hd a<256:=UInt8.toNat_lt _
def l8:Fo→Prop
 | .nil=>True
 | .cons lab w kids rest=>lab≠[]∧(w.isSome∨2≤kids.toL.length)∧l8 kids∧(∀n∈rest.toL,hd lab<hd n.1)∧l8 rest
def Pf(n:Bn):Prop:=n.1≠[]∧(n.2.1.isSome∨2≤n.2.2.toL.length)∧l8 n.2.2
theorem gE:∀{F:Fo},l8 F↔F.toL.Pairwise (fun m n=>hd m.1<hd n.1)∧∀n∈F.toL,Pf n
 | .nil=>by simp[l8,Fo.toL]
 | .cons lab w kids rest=>by
  rw[Fo.toL_cons,bK];show(lab≠[]∧(w.isSome∨2≤kids.toL.length)∧l8 kids∧(∀n∈rest.toL,hd lab<hd n.1)∧l8 rest)↔_
  rw[gE (F:=rest)];constructor
  ·rintro⟨g,i,f,d,e,c⟩
   refine⟨⟨d,e⟩,fun n b=>?_⟩
   rcases ah.1 b with rfl|b
   ·exact⟨g,i,f⟩
   ·exact c n b
  ·rintro⟨⟨d,e⟩,c⟩
   have:=c _ (aP ..);exact⟨this.1,this.2.1,this.2.2,d,e,fun n b=>c n (aQ _ b)⟩
theorem zH:∀{F:Fo},l8 F→∀n∈F.toL,∃r v,Cb n.2.1 n.2.2 r v
 | .nil,_,n,b=>by simp[Fo.toL]at b
 | .cons lab w kids rest,h,n,b=>by
  rcases ah.1 b with rfl|b
  ·rcases h.2.1 with d|c
   ·obtain⟨v,e⟩:=f7.1 d
    exact⟨[],v,.inl ⟨rfl,e⟩⟩
   ·have g:=zH h.2.2.1
    have⟨m,hm⟩:∃m,m∈kids.toL:=by
     cases hl:kids.toL with
     |nil=>rw[hl]at c;simp at c
     |cons m l=>exact⟨m,aP ..⟩
    obtain⟨r,v,f⟩:=g m hm;exact⟨m.1++r,v,.inr (mH.2 ⟨m,hm,r,rfl,f⟩)⟩
  ·exact zH h.2.2.2.2 n b
theorem F7{F:Fo}(h:l8 F){k:List UInt8}{v:ByteArray}(b:Bu F k v):k≠[]:=by
 obtain⟨n,c,r,rfl,_⟩:=mH.1 b;have:=((gE.1 h).2 n c).1;intro e;exact this (jK.1 e).1
theorem A5{F:Fo}(h:l8 F){k:List UInt8}{v:ByteArray}(c:Bu F k v):∃n∈F.toL,hd n.1=hd k∧Eh n k v:=by
 obtain⟨n,b,r,e,d⟩:=mH.1 c;exact⟨n,b,by rw[e,yA ((gE.1 h).2 n b).1],r,e,d⟩
theorem Gi{F:Fo}(h:l8 F){m n:Bn}(hm:m∈F.toL)(f:n∈F.toL)(e:hd m.1=hd n.1):m=n:=by
 have d:=(gE.1 h).1;revert hm f;generalize F.toL=l at*;clear h;induction l with
 |nil=>intro hm;simp at hm
 |cons a l ih=>
  have d:=bK.1 d;intro hm f;rcases ah.1 hm with i|c
  ·rcases ah.1 f with g|b
   ·rw[i,g]
   ·have:=d.1 n b;rw[←i]at this;omega
  ·rcases ah.1 f with g|b
   ·have:=d.1 m c;rw[←g]at this;omega
   ·exact ih d.2 c b
def Br(P:List UInt8→ByteArray→Prop):Prop:=(∃v,P [] v)∨∃j k u v,P j u∧P k v∧j≠[]∧k≠[]∧hd j≠hd k
theorem NN{w:Option ByteArray}{F:Fo}(h:l8 F):(w.isSome∨2≤F.toL.length)↔Br (Cb w F):=by
 constructor
 ·rintro(x|y)
  ·obtain⟨v,c⟩:=f7.1 x
   exact .inl ⟨v,.inl ⟨rfl,c⟩⟩
  ·right
   have d:=zH h;have hc:=gE.1 h;match hL:F.toL,y with
   |a::b::l,_=>
    have f:a∈F.toL:=by rw[hL];simp
    have o:b∈F.toL:=by rw[hL];simp
    obtain⟨r,v,A⟩:=d a f;obtain⟨s,u,d⟩:=d b o;have p:=(hc.2 a f).1;have t:=(hc.2 b o).1;have:=hc.1;rw[hL]at this;have D:=(bK.1 this).1 b (aP ..);refine⟨a.1++r,b.1++s,v,u,.inr (mH.2 ⟨a,f,r,rfl,A⟩),.inr (mH.2 ⟨b,o,s,rfl,d⟩),?_,?_,?_⟩
    ·intro e;exact p (jK.1 e).1
    ·intro e;exact t (jK.1 e).1
    ·rw[yA p,yA t];omega
 ·rintro(⟨v,c⟩|⟨j,k,u,v,g,i,B,nk,C⟩)
  ·rcases c with⟨_,c⟩|c
   ·left;rw[c];rfl
   ·exact absurd rfl (F7 h c)
  ·right
   rcases g with⟨e,_⟩|g
   ·exact absurd e B
   rcases i with⟨e,_⟩|i
   ·exact absurd e nk
   obtain⟨m,hm,em,_⟩:=A5 h g;obtain⟨n,q,z,_⟩:=A5 h i;match hL:F.toL with
   | []=>rw[hL]at hm;simp at hm
   | [a]=>
    rw[hL]at hm q;rw[ak.1 hm]at em;rw[ak.1 q]at z;omega
   |a::b::l=>simp
end Go.Proofs
namespace Go.Proofs
def ug(P b:List UInt8→ByteArray→Prop)(k:List UInt8)(v:ByteArray):Prop:=∀k' v',b k' v'↔(k'=k∧v'=v)∨(k'≠k∧P k' v')
theorem E0{w:Option ByteArray}{F:Fo}(h:l8 F)(v:ByteArray):ug (Cb w F) (Cb (some v) F) [] v:=by
 intro k' c;unfold Cb;constructor
 ·rintro(⟨e,f⟩|b)
  ·exact .inl ⟨e,(bD.inj f).symm⟩
  ·exact .inr ⟨F7 h b,.inr b⟩
 ·rintro(⟨e,f⟩|⟨e,⟨f,_⟩|b⟩)
  ·exact .inl ⟨e,by rw[f]⟩
  ·exact absurd f e
  ·exact .inr b
theorem AX{w:Option ByteArray}{F c:Fo}{k:List UInt8}{v:ByteArray}(g:k≠[])(h:ug (Bu F) (Bu c) k v):ug (Cb w F) (Cb w c) k v:=by
 intro k' d;unfold Cb;rw[h k' d];constructor
 ·rintro(⟨e,f⟩|b|b)
  ·exact .inr ⟨fun i=>g (i.symm.trans e),.inl ⟨e,f⟩⟩
  ·exact .inl b
  ·exact .inr ⟨b.1,.inr b.2⟩
 ·rintro(b|⟨e,b|b⟩)
  ·exact .inr (.inl b)
  ·exact .inl b
  ·exact .inr (.inr ⟨e,b⟩)
theorem K4{F:Fo}{k:List UInt8}{v:ByteArray}{i:Nat}(h:l8 F)(y:k≠[])(t:∀j (d:j<F.toL.length),j<i→hd F.toL[j].1<hd k)(g:∀j (d:j<F.toL.length),i≤j→hd k<hd F.toL[j].1):l8 (.ofL (F.toL.take i++(k,some v,.nil)::F.toL.drop i))∧ug (Bu F) (Bu (.ofL (F.toL.take i++(k,some v,.nil)::F.toL.drop i))) k v:=by
 have hc:=gE.1 h;have z:∀n∈F.toL.take i,hd n.1<hd k:=fun n c=>by
  obtain⟨j,d,e⟩:=bW c;rw[List.length_take]at d;rw[←e,List.getElem_take];exact t j (by omega) (by omega)
 have x:∀n∈F.toL.drop i,hd k<hd n.1:=fun n c=>by
  obtain⟨j,d,e⟩:=bW c;rw[List.length_drop]at d;rw[←e,List.getElem_drop];exact g _ (by omega) (by omega)
 have mem:∀n,n∈F.toL.take i++(k,some v,.nil)::F.toL.drop i↔n=(k,some v,Fo.nil)∨n∈F.toL:=fun n=>by
  conv=>rhs;rw[←co i F.toL]
  simp only[bo,ah];exact⟨fun h=>h.elim (fun h=>.inr (.inl h)) fun h=>h.elim .inl fun h=>.inr (.inr h),fun h=>h.elim (fun h=>.inr (.inl h)) fun h=>h.elim .inl fun h=>.inr (.inr h)⟩
 refine⟨gE.2 ⟨?_,?_⟩,fun k' w=>?_⟩
 ·rw[Fo.to_of]
  have m:=hc.1;rw[←co i F.toL,dL]at m;refine dL.2 ⟨m.1,bK.2 ⟨x,m.2.1⟩,fun a q b o=>?_⟩
  rcases ah.1 o with rfl|o
  ·exact z a q
  ·exact m.2.2 a q b o
 ·rw[Fo.to_of]
  intro n c;rcases(mem n).1 c with rfl|c
  ·exact⟨y,.inl rfl,trivial⟩
  ·exact hc.2 n c
 ·rw[mH,mH,Fo.to_of]
  constructor
  ·rintro⟨n,c,r,e,u⟩
   rcases(mem n).1 c with rfl|c
   ·rcases u with⟨rfl,f⟩|f
    ·exact .inl ⟨by rw[e];exact dR _,(bD.inj f).symm⟩
    ·exact f.elim
   ·right
    refine⟨fun A=>?_,n,c,r,e,u⟩
    have B:hd k=hd n.1:=by rw[←A,e,yA (hc.2 n c).1]
    obtain⟨j,d,s⟩:=bW c;rcases Nat.lt_or_ge j i with p|p
    ·have:=t j d p;rw[s]at this;omega
    ·have:=g j d p;rw[s]at this;omega
  ·rintro(⟨rfl,rfl⟩|⟨_,n,c,h⟩)
   ·exact⟨(k',some w,.nil),(mem _).2 (.inl rfl),[],(dR _).symm,.inl ⟨rfl,rfl⟩⟩
   ·exact⟨n,(mem _).2 (.inr c),h⟩
theorem sY{α:Type}{l:List α}{i:Nat}(d:i<l.length){a x:α}(nd:∀j (c:j<l.length),j≠i→l[j]≠l[i]):x∈l.set i a↔x=a∨(x∈l∧x≠l[i]):=by
 constructor
 ·intro h
  obtain⟨j,c,e⟩:=bW h;rw[mP]at c;rw[List.getElem_set]at e;split at e
  ·exact .inl e.symm
  ·rename_i b
   exact .inr ⟨by rw[←e];exact cj c,by rw[←e];exact nd j c fun e=>b e.symm⟩
 ·rintro(rfl|⟨h,b⟩)
  ·exact List.mem_of_getElem (i:=i) (h:=by simpa using d) (by simp)
  ·obtain⟨j,c,e⟩:=bW h
   have:i≠j:=by rintro rfl;exact b e.symm
   exact List.mem_of_getElem (i:=j) (h:=by simpa using c) (by rw[List.getElem_set_ne this];exact e)
theorem O5{F:Fo}{i:Nat}{m:Bn}(h:l8 F)(j:i<F.toL.length)(hm:Pf m)(e:hd m.1=hd F.toL[i].1):l8 (.ofL (F.toL.set i m)):=by
 have hc:=gE.1 h;rw[gE,Fo.to_of];refine⟨?_,fun n g=>?_⟩
 ·rw[cJ]at hc⊢
  intro a b d f c;rw[mP]at d f;rw[List.getElem_set,List.getElem_set];split
  ·rename_i ea;subst ea
   rw[if_neg (by omega),e];exact hc.1 _ _ d f c
  ·split
   ·rename_i eb;subst eb
    rw[e];exact hc.1 _ _ d f c
   ·exact hc.1 _ _ d f c
 ·rcases List.mem_or_eq_of_mem_set g with g|rfl
  ·exact hc.2 n g
  ·exact hm
theorem FX{F:Fo}(h:l8 F){i:Nat}(d:i<F.toL.length)(j:Nat)(f:j<F.toL.length)(b:j≠i):F.toL[j]≠F.toL[i]:=by
 have hc:=(gE.1 h).1;rw[cJ]at hc;intro e;rcases Nat.lt_or_gt_of_ne b with c|c
 ·have:=hc j i f d c;rw[e]at this;omega
 ·have:=hc i j d f c;rw[e]at this;omega
theorem G9{F:Fo}{i:Nat}{m:Bn}{k:List UInt8}{v:ByteArray}(h:l8 F)(b:i<F.toL.length)(ek:hd F.toL[i].1=hd k)(o:ug (Eh F.toL[i]) (Eh m) k v):ug (Bu F) (Bu (.ofL (F.toL.set i m))) k v:=by
 intro k' g;have hc:=gE.1 h;rw[mH,mH,Fo.to_of];constructor
 ·rintro⟨n,d,f⟩
  rcases(sY b (FX h b)).1 d with rfl|⟨d,j⟩
  ·rcases(o k' g).1 f with c|⟨c,p⟩
   ·exact .inl c
   ·exact .inr ⟨c,_,cj b,p⟩
  ·refine .inr ⟨fun e=>j ?_,n,d,f⟩
   obtain⟨r,q,_⟩:=f;refine Gi h d (cj b) ?_;rw[ek,←e,q,yA (hc.2 n d).1]
 ·rintro(c|⟨c,n,d,f⟩)
  ·exact⟨m,(sY b (FX h b)).2 (.inl rfl),(o k' g).2 (.inl c)⟩
  ·by_cases e:n=F.toL[i]
   ·exact⟨m,(sY b (FX h b)).2 (.inl rfl),(o k' g).2 (.inr ⟨c,by rw[←e];exact f⟩)⟩
   ·exact⟨n,(sY b (FX h b)).2 (.inr ⟨d,e⟩),f⟩
theorem K3{lab r:List UInt8}{w w':Option ByteArray}{F g:Fo}{v:ByteArray}(h:ug (Cb w F) (Cb w' g) r v):ug (Eh (lab,w,F)) (Eh (lab,w',g)) (lab++r) v:=by
 intro k' c;constructor
 ·rintro⟨s,e,b⟩
  rcases(h s c).1 b with⟨rfl,rfl⟩|⟨d,i⟩
  ·exact .inl ⟨e,rfl⟩
  ·exact .inr ⟨fun f=>d (List.append_cancel_left (e.symm.trans f)),s,e,i⟩
 ·rintro(⟨rfl,rfl⟩|⟨d,s,e,b⟩)
  ·exact⟨r,rfl,(h r c).2 (.inl ⟨rfl,rfl⟩)⟩
  ·exact⟨s,e,(h s c).2 (.inr ⟨fun f=>d (by rw[e,f]),b⟩)⟩
def cm:List UInt8→List UInt8→Nat
 |a::x,b::y=>if a=b then cm x y+1 else 0
 |_,_=>0
theorem PA:∀(x y:List UInt8),cm x y≤x.length∧cm x y≤y.length
 | [],_=>by simp[cm]
 |_::_,[]=>by simp[cm]
 |a::x,b::y=>by unfold cm;have:=PA x y;split<;>simp<;>omega
theorem Kv:∀(x y:List UInt8),x.take (cm x y)=y.take (cm x y)
 | [],_=>by simp[cm]
 |_::_,[]=>by simp[cm]
 |a::x,b::y=>by
  unfold cm;split
  ·rename_i e;rw[i4,i4,Kv x y,e]
  ·simp
theorem Kw:∀(x y:List UInt8),cm x y<x.length→cm x y<y.length→hd (x.drop (cm x y))≠hd (y.drop (cm x y))
 | [],_=>by simp[cm]
 |_::_,[]=>by simp[cm]
 |a::x,b::y=>by
  unfold cm;split
  ·rename_i e
   intro d c;rw[aX]at d c;rw[mg,mg];exact Kw x y (by omega) (by omega)
  ·rename_i e
   intro _ _ h;exact e (qH.1 h)
theorem Qr{x y:List UInt8}(hx:x≠[])(c:y≠[])(h:hd x=hd y):0<cm x y:=by
 match x,y,hx,c with
 |a::x,b::y,_,_=>
  unfold cm;rw[if_pos (show a=b from qH.1 h)]
  omega
theorem Li{lab:List UInt8}{w:Option ByteArray}{F:Fo}(c:Nat):∀k v,Eh (lab.take c,none,.cons (lab.drop c) w F .nil) k v↔Eh (lab,w,F) k v:=by
 intro k v;constructor
 ·rintro⟨r,e,⟨_,h⟩|(⟨s,rfl,h⟩|h)⟩
  ·cases h
  ·exact⟨s,by rw[e];simp only;rw[←aJ,co],h⟩
  ·exact h.elim
 ·rintro⟨s,e,h⟩
  exact⟨lab.drop c++s,by rw[e];simp only;rw[←aJ,co],.inr (.inl ⟨s,rfl,h⟩)⟩
theorem NM{lab r:List UInt8}{w w':Option ByteArray}{F i:Fo}{v:ByteArray}(c:lab≠[])(j:w.isSome∨2≤F.toL.length)(m:l8 F)(b:r≠[]→hd r≠hd lab)(h:ug (Cb none (.cons lab w F .nil)) (Cb w' i) r v):Br (Cb w' i):=by
 by_cases e:r= []
 ·subst e
  exact .inl ⟨v,(h [] v).2 (.inl ⟨rfl,rfl⟩)⟩
 ·have hc:l8 (.cons lab w F .nil):=⟨c,j,m,fun n k=>by simp[Fo.toL]at k,trivial⟩
  obtain⟨s,u,f⟩:=zH hc _ (aP ..);simp only at f;have g:hd (lab++s)=hd lab:=yA c;refine .inr ⟨r,lab++s,v,u,(h r v).2 (.inl ⟨rfl,rfl⟩),(h _ u).2 (.inr ⟨fun d=>b e (by rw[←d,g]),.inr (.inl ⟨s,rfl,f⟩)⟩),e,fun d=>c (jK.1 d).1,by rw[g];exact b e⟩
theorem O7{P g:List UInt8→ByteArray→Prop}{k:List UInt8}{v:ByteArray}(f:Br P)(h:ug P g k v):Br g:=by
 have keep:∀j u,P j u→∃c,g j c:=fun j u d=>by
  by_cases e:j=k
  ·exact⟨v,(h j v).2 (.inl ⟨e,rfl⟩)⟩
  ·exact⟨u,(h j u).2 (.inr ⟨e,d⟩)⟩
 rcases f with⟨u,m⟩|⟨j,k',u,c,d,n,r⟩
 ·obtain⟨c,h'⟩:=keep [] u m
  exact .inl ⟨c,h'⟩
 ·obtain⟨a,i⟩:=keep j u d
  obtain⟨b,f⟩:=keep k' c n;exact .inr ⟨j,k',a,b,i,f,r⟩
end Go.Proofs
namespace Go.Proofs
open Go Go.Lift
end Go.Proofs
namespace Go.Proofs
open Go Go.Lift
def Fit(l:List Pr):Prop:=∀p∈l,p.1.size≤10000∧p.2.size≤10000
end Go.Proofs
namespace Go.Proofs
open Go Go.Lift
end Go.Proofs
namespace Go.Proofs
open Go Go.Lift
def RH(l:List Pr):Option Pr:=match l with| [p]=>some p|_=>none
def RO(l:List Pr):Option (List Pr):=if 2≤l.length then some l else none
def QT(x:Hs)(lev:Nat)(l:List Pr):List Pr:=fm (fun c=>RH (part x lev c l)) 32
def Pu(x:Hs)(lev:Nat)(l:List Pr):List (List Pr):=fm (fun c=>RO (part x lev c l)) 32
end Go.Proofs
namespace Go.Proofs
open Go Go.Lift
end Go.Proofs
namespace Go.Proofs
open Go Go.Lift
theorem Fit.part{x:Hs}{lev c:Nat}{l:List Pr}(h:Fit l):Fit (part x lev c l):=fun p b=>h p (vU.1 b).1
end Go.Proofs
namespace Go.Proofs
open Go Go.Lift
end Go.Proofs
namespace Go.Proofs
open Go Go.Lift
end Go.Proofs
