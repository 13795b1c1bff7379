/- A part of the proof that the named laws of this program answer true, whatever the input. -/
import Derived.Test.YtcpiahjlddmfiaaGreatPart2
open Bool renaming eq_iff_iff→g6
open ByteArray renaming mk→kE
open Int renaming toNat_natCast→aM
open List renaming pairwise_cons→bf,mem_cons→ao,any_eq_true→bF,length_filter_le→eg,length_cons→aI,mem_singleton→ay,flatMap_cons→aD,map_cons→bN,length_singleton→aN,range→dB,range_succ→g4,map_append→fO,length_append→ae,append_assoc→aj,flatMap_append→bo,take_of_length_le→be,mem_cons_self→aq,mem_cons_of_mem→aC,take_succ_eq_append_getElem→aP,flatMap_nil→ll,append_nil→bW,getElem?_eq_getElem→au,getElem_mem→bK,length_take→aY,flatten_append→ga,flatten_cons→fY,length_nil→cQ,cons_append→cR,append_inj→md,cons→gu,zip_eq_zipWith→jo,length_drop→aH,set_eq_take_append_cons_drop→dM
open Nat renaming zero_le→bB,lt_of_lt_of_le→aK,zero_add→aw,le_trans→bI,le_refl→ar,min_eq_left→aX,lt_or_ge→cj,mul_le_mul_right→cN,testBit_lt_two_pow→fg,pow_le_pow_right→ix,add_zero→eG,add_mul→jW,mul_le_mul_left→jn,shiftRight_eq_div_pow→d8,mod_eq_of_lt→eA
open UInt8 renaming ofNat→d4
namespace Go.Proofs
open Go.Lift
noncomputable instance memDec (p:Pr) (l:List Pr):Decidable (p∈l):=Classical.propDecidable _
theorem Cl{l:List Pr}(c:dJ l){k v w:ByteArray}(a:(k,v)∈l)(d:(k,w)∈l):v=w:=by
 induction l with
 |nil=>cases a
 |cons q l ih=>
  have c:=bf.1 c;rcases ao.1 a with f|a<;>rcases ao.1 d with e|d
  ·exact(Prod.mk.inj (f.trans e.symm)).2
  ·have:=c.1 _ d;rw[←f]at this;exact absurd this (dD _)
  ·have:=c.1 _ a;rw[←e]at this;exact absurd this (dD _)
  ·exact ih c.2 a d
theorem lC{x:Hs}{lev c:Nat}{l:List Pr}{p:Pr}:p∈part x lev c l↔p∈l∧ck x lev p.1=c:=by unfold part;rw[List.mem_filter,decide_eq_true_iff]
theorem B9{x:Hs}{lev:Nat}{l:List Pr}{k:ByteArray}:di (part x lev (ck x lev k) l) k=di l k:=by
 unfold di;rw[g6,bF,bF];constructor
 ·rintro⟨p,a,e⟩;exact⟨p,(lC.1 a).1,e⟩
 ·rintro⟨p,a,e⟩;exact⟨p,lC.2 ⟨a,by rw[of_decide_eq_true e]⟩,e⟩
theorem r9{x:Hs}{lev c:Nat}{l:List Pr}(a:dJ l):dJ (part x lev c l):=a.sublist List.filter_sublist
theorem ta{x:Hs}{lev c:Nat}{l:List Pr}:(part x lev c l).length≤l.length:=eg ..
def SlotIs(W:Nat→Prop)(x:Hs)(h:ac)(m:Nat)(s:Slots)(c:Nat)(l:List Pr):Prop:=
 (l= []∧s.p c=none∧s.k c=none)∨(∃p,l= [p]∧s.p c=some p∧s.k c=none)∨(2≤l.length∧s.p c=none∧∃kb,s.k c=some (some ⟨kb,0,none⟩)∧TrieAt W x h m kb l)
theorem SlotIs.upd0{W:Nat→Prop}{x:Hs}{h h':ac}{m:Nat}{s:Slots}{c:Nat}{l:List Pr}(k:Upd No h h')(t:SlotIs W x h m s c l):SlotIs W x h' m s c l:=t.imp id fun o=>o.imp id fun⟨e,d,g,a,f⟩=>⟨e,d,g,a,TrieAt.upd0 k f⟩
theorem Bv(p:Pr):∀{l:List Pr},l.length≤(g9 p l).length
 | []=>bB _
 |q::l=>by
  rw[iP];split
  ·have:=Bv p (l:=l);simp only[aI];omega
  ·split<;>simp
theorem D6{W:Nat→Prop}{x:Hs}{h h':ac}{m b':Nat}{s s':Slots}{l:List Pr}{p:Pr}(g:dJ l)(f:Upd No h h')(nd:NodeAt W h' b' s')(d:∀c,c<32→SlotIs W x h m s c (part x (12-m) c l))
  (j:∀c,c≠ck x (12-m) p.1→s'.p c=s.p c∧s'.k c=s.k c)(hi:SlotIs W x h' m s' (ck x (12-m) p.1) (g9 p (part x (12-m) (ck x (12-m) p.1) l))):TrieAt W x h' (m+1) b' (g9 p l):=by
 refine⟨s',nd,fun c hc=>?_⟩
 rw[Bh g];by_cases e:ck x (12-m) p.1=c
 ·rw[if_pos e];subst e;exact hi
 ·rw[if_neg e]
  have t:=SlotIs.upd0 f (d c hc);obtain⟨i,a⟩:=j c fun h=>e h.symm
  unfold SlotIs at t;rw[←i,←a]at t;exact t
theorem lM{a b:ByteArray}:(a.toList==b.toList)=decide (a=b):=by
 rw[g6,beq_iff_eq,decide_eq_true_iff,uX]
theorem Ip{W:Nat→Prop}{x:Hs}:∀(m:Nat),m≤13→∀{b:Nat} {l:List Pr} (p:Pr) {h:ac},TrieAt W x h m b l→(∀y,W y→y<h.size)→dJ l→l.length≤1000000→∀{K:(Option Addr)×Bool×Bool→ac→Prop},
  (∀h' b' ch,Upd No h h'→TrieAt W x h' m b' (g9 p l)→(ch=false→b'=b)→ch= !decide (p∈l)→K (some ⟨b',0,none⟩, !di l p.1,ch) h')→
  HC PG fk [HM x p.1,.pointer (some ⟨b,0,none⟩),.agg #[.string p.1,.string p.2],.int .i64 ((13-m:Nat):Int)] [.c .ptr,.c .bool,.c .bool] K h:=by
 intro m;induction m with
 |zero=>
  intro _ b l p h t hW T hn K H;have X:∀{h'},Upd No h h'→∀y,W y→y<h'.size:=fun k y hy=>aK (hW y hy) k.size
  refine o6 (x.k0,x.k1,x.mask,none,p.1,gj x p.1) (some ⟨b,0,none⟩) p ((13-0:Nat):Int) ?_;unfold lg ad af aB nv wC uw rF wE yo En ri pk AO;have k1:=Upd.hnew No h [.int .u64 x.k0,.int .u64 x.k1,.int .u64 x.mask,.pointer none,.string p.1,.int .u64 (gj x p.1)] bM;have b1:=bh h [.int .u64 x.k0,.int .u64 x.k1,.int .u64 x.mask,.pointer none,.string p.1,.int .u64 (gj x p.1)] bM
  refine aR ?_;simp only[bS h];generalize hnew h [.int .u64 x.k0,.int .u64 x.k1,.int .u64 x.mask,.pointer none,.string p.1,.int .u64 (gj x p.1)] bM=C at k1 b1;have k2:=Upd.hnew No C [.string p.1,.string p.2] ah;have b2:=bh C [.string p.1,.string p.2] ah;refine aR ?_;simp only[bS C];generalize hnew C [.string p.1,.string p.2] ah=f at k2 b2
  have u:∀{h':ac},Upd No f h'→∀i,bc h' (adr ⟨h.size,0,none⟩ i)=(#[.int .u64 x.k0,.int .u64 x.k1,.int .u64 x.mask,.pointer none,.string p.1,.int .u64 (gj x p.1)]:Array Value)[i]?:=fun k i=>by
   rw[bp,aE (k.get0 (k2.get0 b1)),aw]
  have D:∀{h':ac},Upd No f h'→∀i,bc h' (adr ⟨C.size,0,none⟩ i)=(#[.string p.1,.string p.2]:Array Value)[i]?:=fun k i=>by rw[bp,aE (k.get0 b2),aw]
  have r:=Upd.refl No f;have d:=k1.tr k2;have bk:BuckAt W f b l:=BuckAt.upd t d fun _ h=>h.elim
  obtain⟨sp,sk,ow,hb,_⟩:=bk.ex;refine lF hb (aA.2 ⟨_,D r 0,Jr bk T (by omega) p.1 fun J v I hv=>?_⟩)
  have put:∀(V:p∉l) {h4:ac},Upd No f h4→HC PG fM [.pointer (some ⟨b,0,none⟩),.pointer none,.agg #[.string p.1,.string p.2]] [.c .ptr] (fun(e15:Option Addr) h16=>K (e15, !di l p.1,true) h16) h4:=fun V h4 o=>
   Au (bk.upd o fun _ h=>h.elim) (X (d.tr o)) T (by omega) p fun h5 b5 bk5 hu5=>by
    rw[wK p T]at bk5;exact H h5 b5 true ((d.tr o).tr hu5) bk5 (fun h=>by cases h) (by rw[decide_eq_false V];rfl)
  refine Join.intro (fun t' h'=>t'=decide (p∈l)∧Upd No f h') (fun R hR=>?_) ?_
  ·cases F:di l p.1 with
   |false=>
    refine ak.2 (hR _ _ ⟨?_,I⟩);refine(decide_eq_false fun hm=>?_).symm
    have:di l p.1=true:=bF.2 ⟨p,hm,decide_eq_true rfl⟩;rw[F]at this;cases this
   |true=>
    have hv:=hv F;refine aA.2 ⟨_,D I 1,hR _ _ ⟨?_,I⟩⟩;rw[lM,decide_eq_decide];constructor
    ·intro e
     have e:v=p.2:=e;rw[e]at hv;exact hv
    ·intro hm
     exact Cl T hv (show(p.1,p.2)∈l from hm)
  ·rintro t' h4 ⟨rfl,o⟩
   by_cases hm:p∈l
   ·rw[decide_eq_true hm]
    refine aA.2 ?_;have F:di l p.1=true:=bF.2 ⟨p,hm,decide_eq_true rfl⟩;have:=H h4 b false (d.tr o) (by rw[wJ T hm];exact bk.upd o fun _ h=>h.elim) (fun _=>rfl) (by rw[decide_eq_true hm];rfl)
    rw[F]at this;exact this
   ·rw[decide_eq_false hm]
    refine ak.2 ⟨none,u o 3,_,D o 0,_,D o 1,put hm o⟩
 |succ m ih=>
  intro hm b l p h t hW T hn K H;have X:∀{h'},Upd No h h'→∀y,W y→y<h'.size:=fun k y hy=>aK (hW y hy) k.size
  have hl:13-(m+1)<13:=by omega
  have hlev:13-(m+1)=12-m:=by omega
  refine o6 (x.k0,x.k1,x.mask,none,p.1,gj x p.1) (some ⟨b,0,none⟩) p ((13-(m+1):Nat):Int) ?_;unfold lg ad af aB nv wC uw rF wE yo En ri pk AO;have k1:=Upd.hnew No h [.int .u64 x.k0,.int .u64 x.k1,.int .u64 x.mask,.pointer none,.string p.1,.int .u64 (gj x p.1)] bM;have b1:=bh h [.int .u64 x.k0,.int .u64 x.k1,.int .u64 x.mask,.pointer none,.string p.1,.int .u64 (gj x p.1)] bM
  refine aR ?_;simp only[bS h];generalize hnew h [.int .u64 x.k0,.int .u64 x.k1,.int .u64 x.mask,.pointer none,.string p.1,.int .u64 (gj x p.1)] bM=C at k1 b1;have k2:=Upd.hnew No C [.string p.1,.string p.2] ah;have b2:=bh C [.string p.1,.string p.2] ah;refine aR ?_;simp only[bS C];generalize hnew C [.string p.1,.string p.2] ah=f at k2 b2
  have u:∀{h':ac},Upd No f h'→∀i,bc h' (adr ⟨h.size,0,none⟩ i)=(#[.int .u64 x.k0,.int .u64 x.k1,.int .u64 x.mask,.pointer none,.string p.1,.int .u64 (gj x p.1)]:Array Value)[i]?:=fun k i=>by
   rw[bp,aE (k.get0 (k2.get0 b1)),aw]
  have D:∀{h':ac},Upd No f h'→∀i,bc h' (adr ⟨C.size,0,none⟩ i)=(#[.string p.1,.string p.2]:Array Value)[i]?:=fun k i=>by rw[bp,aE (k.get0 b2),aw]
  have r:=Upd.refl No f;have d:=k1.tr k2;obtain⟨s,nd0,hs0⟩:=TrieAt.upd0 d t;have hs:∀c,c<32→SlotIs W x f m s c (part x (12-m) c l):=hs0;have tt:∀{h':ac},Upd No f h'→TrieAt W x h' (m+1) b l:=fun k=>TrieAt.upd0 (d.tr k) t
  obtain⟨d0,n0,sp0,sk0,ow0,hb0,_⟩:=nd0.ex;refine lF hb0 (ak.2 ⟨_,u r 5,IH hl ?_⟩);rw[hlev];have hi:=DU x (12-m) p.1;have S:=hs _ hi;have Z:=r9 (x:=x) (lev:=12-m) (c:=ck x (12-m) p.1) T;have Y:(part x (12-m) (ck x (12-m) p.1) l).length≤1000000:=bI ta hn;have N:p∈part x (12-m) (ck x (12-m) p.1) l↔p∈l:=by rw[lC];exact⟨fun h=>h.1,fun h=>⟨h,rfl⟩⟩
  have P:=B9 (x:=x) (lev:=12-m) (l:=l) (k:=p.1);have j:=fun{h':ac} {b':Nat} {s':Slots}=>D6 (W:=W) (x:=x) (h:=f) (h':=h') (m:=m) (b':=b') (s:=s) (s':=s') (l:=l) (p:=p) T
  generalize hc:ck x (12-m) p.1=c at hi S Z Y N P j;generalize hlp:part x (12-m) c l=lc at S Z Y N P j;refine FT nd0 hi fun J I=>?_
  have k4:=Upd.hnew No J [.string (⟨#[]⟩:ByteArray),.string (⟨#[]⟩:ByteArray)] ah;have b4:=bh J [.string (⟨#[]⟩:ByteArray),.string (⟨#[]⟩:ByteArray)] ah;refine aR ?_;simp only[bS J];generalize hnew J [.string (⟨#[]⟩:ByteArray),.string (⟨#[]⟩:ByteArray)] ah=h4 at k4 b4;have b4':h4[J.size]? =some (.cells #[.string GN.1,.string GN.2] ah (0,0)):=b4
  refine DE (p:=Hq (s.p c)) b4' fun h5 b5 hu5=>?_
  have a:Upd No f h5:=(I.tr k4).trans hu5 fun y hy=>.inr (by have hy:y=J.size:=hy;have:=I.size;omega)
  have w5:∀{h':ac},Upd No h5 h'→∀i,bc h' (adr ⟨J.size,0,none⟩ i)=(#[.string (Hq (s.p c)).1,.string (Hq (s.p c)).2]:Array Value)[i]?:=fun k i=>by rw[bp,aE (k.get0 b5),aw]
  have r5:=Upd.refl No h5;have O:=nd0.upd a fun _ h=>h.elim
  cases hsp:s.p c with
  |some y=>
   rw[hsp]at w5;obtain⟨B,hk0⟩:lc= [y]∧s.k c=none:=by
    rcases S with⟨_,f,_⟩|⟨q,C,f,J⟩|⟨_,f,_⟩
    ·rw[hsp]at f;cases f
    ·rw[hsp]at f;cases f;exact⟨C,J⟩
    ·rw[hsp]at f;cases f
   refine aA.2 ⟨y.1,w5 r5 0,y.2,w5 r5 1,p.1,D a 0,p.2,D a 1,?_⟩;rw[lM,lM];have hyl:y∈l:=(lC.1 (show y∈part x (12-m) c l by rw[hlp,B];exact ay.2 rfl)).1
   by_cases L:y.1=p.1
   ·have F:di l p.1=true:=bF.2 ⟨y,hyl,decide_eq_true L⟩
    rw[F]at H;by_cases e2:y.2=p.2
    ·rw[decide_eq_true L,decide_eq_true e2]
     have hyp:y=p:=Prod.ext L e2;have w:p∈l:=hyp▸hyl;refine aA.2 ?_;exact H h5 b false (d.tr a) (by rw[wJ T w];exact tt a) (fun _=>rfl) (by rw[decide_eq_true w];rfl)
    ·rw[decide_eq_true L,decide_eq_false e2]
     refine ak.2 ⟨y.1,w5 r5 0,p.1,D a 0,?_⟩;rw[lM,decide_eq_true L];refine aA.2 ⟨none,u a 3,p.1,D a 0,p.2,D a 1,?_⟩;refine pr O (X (d.tr a)) hi (fun _ _=>hk0) p fun h6 U nd6 g=>?_
     have Q:p∉l:=fun hm=>by
      have:=N.2 hm;rw[B]at this;exact e2 (by rw[ay.1 this])
     refine H h6 U true ((d.tr a).tr g) (j (a.tr g) nd6 hs (fun c' n=>⟨iI n,iI n⟩) ?_) (fun h=>by cases h) (by rw[decide_eq_false Q];rfl)
     refine .inr (.inl ⟨p,?_,ig,ig⟩);rw[B,iP,if_neg (by rw[L];exact dD _),if_pos L]
   ·rw[decide_eq_false L]
    refine ak.2 ⟨y.1,w5 r5 0,p.1,D a 0,?_⟩;rw[lM,decide_eq_false L];refine ak.2 ⟨none,u a 3,_,u a 0,_,u a 1,_,u a 2,_,u a 3,_,u a 4,_,u a 5,y.1,w5 r5 0,y.2,w5 r5 1,p.1,D a 0,p.2,D a 1,?_⟩;have ew:IntKind.wrap .i64 (((12-m:Nat):Int)+1)=((13-m:Nat):Int):=by rw[pL (by omega)];omega
    rw[ew];refine HG m y p (by omega) L (X (d.tr a)) fun h6 U t6 g=>⟨u (a.tr g) 3,?_⟩
    refine uD (O.upd g fun _ h=>h.elim) (X ((d.tr a).tr g)) hi (fun z hz=>by rw[hk0]at hz;cases hz) ⟨U,0,none⟩ fun h7 b7 nd7 E=>?_
    have F:di l p.1=false:=by
     rw[←P,B];unfold di;rw[List.any_cons,decide_eq_false L];rfl
    have Q:p∉l:=fun hm=>by
     have:di l p.1=true:=bF.2 ⟨p,hm,decide_eq_true rfl⟩;rw[F]at this;cases this
    rw[F]at H;refine H h7 b7 true (((d.tr a).tr g).tr E) (j ((a.tr g).tr E) nd7 hs (fun c' n=>⟨iI n,iI n⟩) ?_) (fun h=>by cases h) (by rw[decide_eq_false Q];rfl)
    rw[B];exact .inr (.inr ⟨by rw[Dv L];omega,ig,U,ig,TrieAt.upd0 E t6⟩)
  |none=>
   refine ak.2 (Hg O hi ?_);cases hsk:s.k c with
   |none=>
    have hlc:lc= []:=by
     rcases S with⟨C,_⟩|⟨q,_,f,_⟩|⟨_,_,kb,f,_⟩
     ·exact C
     ·rw[hsp]at f;cases f
     ·rw[hsk]at f;cases f
    refine aA.2 ⟨none,u a 3,p.1,D a 0,p.2,D a 1,?_⟩;refine pr O (X (d.tr a)) hi (fun _ _=>hsk) p fun h6 U nd6 g=>?_
    have F:di l p.1=false:=by rw[←P,hlc];rfl
    have Q:p∉l:=fun hm=>by
     have:di l p.1=true:=bF.2 ⟨p,hm,decide_eq_true rfl⟩;rw[F]at this;cases this
    rw[F]at H;refine H h6 U true ((d.tr a).tr g) (j (a.tr g) nd6 hs (fun c' n=>⟨iI n,iI n⟩) ?_) (fun h=>by cases h) (by rw[decide_eq_false Q];rfl)
    rw[hlc];exact .inr (.inl ⟨p,rfl,ig,ig⟩)
   |some kp=>
    obtain⟨h2l,kb,rfl,tk⟩:2≤lc.length∧∃kb,kp=some ⟨kb,0,none⟩∧TrieAt W x f m kb lc:=by
     rcases S with⟨_,_,f⟩|⟨q,_,f,_⟩|⟨C,_,kb,f,J⟩
     ·rw[hsk]at f;cases f
     ·rw[hsp]at f;cases f
     ·rw[hsk]at f;cases f;exact⟨C,kb,rfl,J⟩
    refine ak.2 ⟨_,u a 0,_,u a 1,_,u a 2,_,u a 3,_,u a 4,_,u a 5,p.1,D a 0,p.2,D a 1,?_⟩;have ew:IntKind.wrap .i64 (((12-m:Nat):Int)+1)=((13-m:Nat):Int):=by rw[pL (by omega)];omega
    rw[ew];refine ih (by omega) p (TrieAt.upd0 a tk) (X (d.tr a)) Z Y fun h6 U ch g t6 hsame G=>?_
    have A:=a.tr g;by_cases w:p∈l
    ·have G:ch=false:=by rw[G,decide_eq_true (N.2 w)];rfl
     have F:di l p.1=true:=bF.2 ⟨p,w,decide_eq_true rfl⟩;rw[F]at H;rw[G];refine aA.2 ?_;exact H h6 b false (d.tr A) (by rw[wJ T w];exact tt A) (fun _=>rfl) (by rw[decide_eq_true w];rfl)
    ·have G:ch=true:=by rw[G,decide_eq_false fun h=>w (N.1 h)];rfl
     rw[G];refine ak.2 ⟨none,u A 3,?_⟩;refine uD (O.upd g fun _ h=>h.elim) (X ((d.tr a).tr g)) hi (fun _ _=>hsp) ⟨U,0,none⟩ fun h7 b7 nd7 E=>?_
     rw[P];refine H h7 b7 true ((d.tr A).tr E) (j (A.tr E) nd7 hs (fun c' n=>⟨iI n,iI n⟩) ?_) (fun h=>by cases h) (by rw[decide_eq_false w];rfl)
     exact .inr (.inr ⟨bI h2l (Bv p),ig,U,ig,TrieAt.upd0 E t6⟩)
end Go.Proofs
namespace Go.Proofs
open Go.Lift
theorem AS{W:Nat→Prop}{x:Hs}{h:ac}{m b:Nat}(nd:NodeAt W h b ⟨fun _=>none,fun _=>none⟩):TrieAt W x h (m+1) b []:=⟨_,nd,fun _ _=>.inl ⟨rfl,rfl,rfl⟩⟩
def RootAt(W:Nat→Prop)(x:Hs)(h:ac)(r:Option Addr)(l:List Pr):Prop:=(r=none∧l= [])∨∃b,r=some ⟨b,0,none⟩∧TrieAt W x h 13 b l
theorem RootAt.upd0{W:Nat→Prop}{x:Hs}{h h':ac}{r:Option Addr}{l:List Pr}(k:Upd No h h')(t:RootAt W x h r l):RootAt W x h' r l:=t.imp id fun⟨b,e,t⟩=>⟨b,e,TrieAt.upd0 k t⟩
theorem G1{W:Nat→Prop}{x:Hs}{h:ac}{r:Option Addr}{l:List Pr}(t:RootAt W x h r l)(c:∀y,W y→y<h.size){K:Option Addr→ac→Prop}(a:∀h' b,TrieAt W x h' 13 b l→Upd No h h'→(r=some ⟨b,0,none⟩∨r=none)→K (some ⟨b,0,none⟩) h'):HC PG km [.pointer r] [.c .ptr] K h:=by
 refine AH r ?_;unfold un;rcases t with⟨rfl,rfl⟩|⟨b,rfl,t⟩
 ·refine aA.2 (rL ?_)
  unfold oJ;exact my c fun h' b nd d=>a h' b (AS nd) d (.inr rfl)
 ·exact ak.2 (a h b t (Upd.refl _ _) (.inl rfl))
theorem ei{h:ac}{b:Nat}{t:TypeId}{c vs:List Value}(a:h[b]? =some (.cells c.toArray t (0,0))) (f:vs.length=c.length) {k:ac→Prop}
  (d:∀h',h'[b]? =some (.cells vs.toArray t (0,0))→Upd (· =b) h h'→k h'):qH h (some ⟨b,0,none⟩) 0 vs∧At (jd h ⟨b,0,none⟩ 0 vs) k:=by
 have e:=fK vs h 0 0 c a (by omega);refine⟨.inr ⟨_,rfl,fun j g=>by rw[bp];exact ge a (by rw[List.size_toArray];omega)⟩,aR ?_⟩
 rw[e];refine d _ ?_ (Upd.set h _ rfl);rw[gH a];congr 3
 simp[f]
set_option maxRecDepth 4000 in
theorem BL{W:Nat→Prop}{x:Hs}{h:ac}{r:Option Addr}{l:List Pr}(t:RootAt W x h r l)(Q:∀y,W y→y<h.size)(V:dJ l)(Z:l.length≤1000000)(p:Pr){K:Option Addr×Bool→ac→Prop}
  (Y:∀h' b',Upd No h h'→TrieAt W x h' 13 b' (g9 p l)→(p∈l→r=some ⟨b',0,none⟩∨r=none)→K (some ⟨b',0,none⟩, !di l p.1) h'):
  HC PG qD [.agg #[.int .u64 x.k0,.int .u64 x.k1,.int .u64 x.mask],.pointer none,.pointer r,.agg #[.string p.1,.string p.2]] [.c .ptr,.c .bool] K h:=by
 refine BV (x.k0,x.k1,x.mask) none r p ?_;unfold vW ad af aB gw y2 zC rF wE H2 H8 yo;have k1:=Upd.hnew No h [.int .u64 x.k0,.int .u64 x.k1,.int .u64 x.mask] bQ;have b1:=bh h [.int .u64 x.k0,.int .u64 x.k1,.int .u64 x.mask] bQ;refine aR ?_;simp only[bS h];generalize hnew h [.int .u64 x.k0,.int .u64 x.k1,.int .u64 x.mask] bQ=h1 at k1 b1
 have N:=Upd.hnew No h1 [.string p.1,.string p.2] ah;have b2:=bh h1 [.string p.1,.string p.2] ah;refine aR ?_;simp only[bS h1];generalize hnew h1 [.string p.1,.string p.2] ah=h2 at N b2;have e:∀{h':ac},Upd No h2 h'→∀i,bc h' (adr ⟨h.size,0,none⟩ i)=(#[.int .u64 x.k0,.int .u64 x.k1,.int .u64 x.mask]:Array Value)[i]?:=fun k i=>by
  rw[bp,aE (k.get0 (N.get0 b1)),aw]
 have o:∀{h':ac},Upd No h2 h'→∀i,bc h' (adr ⟨h1.size,0,none⟩ i)=(#[.string p.1,.string p.2]:Array Value)[i]?:=fun k i=>by rw[bp,aE (k.get0 b2),aw]
 have s:=Upd.refl No h2;have q:=k1.tr N;let E:List Value:= [.int .u64 0,.int .u64 0,.int .u64 0,.pointer none,.string (⟨#[]⟩:ByteArray),.int .u64 0]
 let D:List Value:= [.int .u64 x.k0,.int .u64 x.k1,.int .u64 x.mask,.pointer none,.string p.1,.int .u64 (gj x p.1)]
 have B:∀{g:ac} {b:Nat},Upd No h2 g→g[b]? =some (.cells D.toArray bM (0,0))→
   ∃v15:Int,bc g (adr ⟨b,0,none⟩ 0)=some (.int .u64 v15)∧
    ∃v16:Int,bc g (adr ⟨b,0,none⟩ 1)=some (.int .u64 v16)∧
    ∃v17:Int,bc g (adr ⟨b,0,none⟩ 2)=some (.int .u64 v17)∧
    ∃v18:Option Addr,bc g (adr ⟨b,0,none⟩ 3)=some (.pointer v18)∧
    ∃v19:ByteArray,bc g (adr ⟨b,0,none⟩ 4)=some (.string v19)∧
    ∃v20:Int,bc g (adr ⟨b,0,none⟩ 5)=some (.int .u64 v20)∧
    ∃v21:ByteArray,bc g (adr ⟨h1.size,0,none⟩ 0)=some (.string v21)∧
    ∃v22:ByteArray,bc g (adr ⟨h1.size,0,none⟩ 1)=some (.string v22)∧
    HC PG km [.pointer r] [.c .ptr] (fun(G:Option Addr) f=>
     ((bc f (adr ⟨h1.size,0,none⟩ 0)=some (.string v21)∧bc f (adr ⟨h1.size,0,none⟩ 1)=some (.string v22))∧
      ((bc f (adr ⟨b,0,none⟩ 0)=some (.int .u64 v15)∧bc f (adr ⟨b,0,none⟩ 1)=some (.int .u64 v16)∧bc f (adr ⟨b,0,none⟩ 2)=some (.int .u64 v17)∧bc f (adr ⟨b,0,none⟩ 3)=some (.pointer v18)∧bc f (adr ⟨b,0,none⟩ 4)=some (.string v19)∧bc f (adr ⟨b,0,none⟩ 5)=some (.int .u64 v20))∧
       HC PG fk [.agg #[.int .u64 v15,.int .u64 v16,.int .u64 v17,.pointer v18,.string v19,.int .u64 v20],.pointer G,.agg #[.string v21,.string v22],.int .i64 0] [.c .ptr,.c .bool,.c .bool] (fun(z:(Option Addr)×Bool×Bool) F=>
        K (z.1,z.2.1) F) f))) g:=fun{g b} d L=>by
  have m:∀{h':ac},Upd No g h'→∀i,bc h' (adr ⟨b,0,none⟩ i)=D.toArray[i]?:=fun k i=>by rw[bp,aE (k.get0 L),aw]
  have v:=Upd.refl No g;refine⟨_,m v 0,_,m v 1,_,m v 2,_,m v 3,_,m v 4,_,m v 5,p.1,o d 0,p.2,o d 1,?_⟩;refine G1 (t.upd0 (q.tr d)) (fun y A=>aK (Q y A) (q.tr d).size) fun R O T c J=>?_
  have a:=d.tr c;refine⟨⟨o a 0,o a 1⟩,⟨m c 0,m c 1,m c 2,m c 3,m c 4,m c 5⟩,?_⟩;refine Ip 13 (ar _) p T (fun y A=>aK (Q y A) ((q.tr d).tr c).size) V Z fun S C ch u X U I=>?_
  refine Y S C ((q.tr a).tr u) X fun hm=>?_
  have H:C=O:=U (by rw[I,decide_eq_true hm];rfl);rw[H];exact J
 have own:∀{w g:ac} {b:Nat},h2.size≤b→Upd (· =b) w g→Upd No h2 w→Upd No h2 g:=fun H hu k=>k.trans hu fun y A=>.inr (A▸H)
 refine⟨_,e s 0,_,e s 1,_,e s 2,_,o s 0,_,e s 0,_,e s 1,_,e s 2,_,o s 0,?_,?_⟩
 ·refine Ag fun w j=>⟨o j 0,⟨e j 0,e j 1,e j 2⟩,?_⟩
  have n:=Upd.hnew No w E bM;have P:=bh w E bM;have d:=j.tr n;refine aR ?_;simp only[bS w];refine⟨o d 0,⟨e d 0,e d 1,e d 2⟩,?_⟩;refine ei (vs:=D) P rfl fun R O c=>B (own j.size c d) O
 ·have n:=Upd.hnew No h2 E bM
  have P:=bh h2 E bM;refine aR ?_;simp only[bS h2];refine⟨o n 0,⟨e n 0,e n 1,e n 2⟩,o n 0,⟨e n 0,e n 1,e n 2⟩,?_⟩;refine Ag fun R c=>?_
  have a:=n.tr c;refine⟨o a 0,⟨e a 0,e a 1,e a 2⟩,?_⟩;exact ei (vs:=D) (c.get0 P) rfl fun S C u=>B (own (ar _) u a) C
end Go.Proofs
namespace Go.Proofs
open Go.Lift
abbrev oL(b:UInt8):List Value:= [.int .u8 (b.toNat:Int)]
theorem uY(b:UInt8):(oL b).length=1∧0<1:=⟨rfl,Nat.one_pos⟩
theorem wG:∀xs:List UInt8,bq (xs.flatMap oL)=true
 | []=>rfl
 |x::xs=>by rw[aD];exact iM rfl (wG xs)
theorem nR(s:ByteArray):cg s=s.data.toList.flatMap oL:=by
 unfold cg;generalize s.data.toList=l;induction l with
 |nil=>rfl
 |cons b l ih=>rw[bN,aD,ih];rfl
theorem oX{M:Nat→Prop}{h:ac}{so:SliceV}{out:List UInt8}{v:Int}{b:UInt8}(c:v=(b.toNat:Int)){K:SliceV→ac→Prop}(d:OwnS oL 1 cT M h so out)(hM:∀b,h.size≤b→M b)(i:out.length+1≤140737488355328)
  (e:∀s' h',OwnS oL 1 cT M h' s' (out++ [b])→Upd M h h'→K s' h'):
  ∃xs,SRow (hnew h [.int .u8 v] cT) (some (aZ h)) (1*1) xs∧AppP (some [.int .u8 0]) 1 1 cT so.a so.len so.cap 1 xs (hnew h [.int .u8 v] cT) K:=by
 subst c;have k:=Upd.hnew No h [.int .u8 (b.toNat:Int)] cT;have g:OwnS oL 1 cT (fun _=>True) (hnew h [.int .u8 (b.toNat:Int)] cT) ⟨some (aZ h),1,1⟩ [b]:=⟨rfl,uY,ar _,.inr ⟨h.size,[],rfl,trivial,bh ..,rfl⟩⟩
 refine⟨_,(g.sl (W:=No) fun _ _ _ h=>h).srow,?_⟩
 refine AppP.own (ys:= [b]) (d.upd k fun _ _ h=>h) rfl rfl rfl rfl (by omega) (by simp only[aN];omega) (hM _ (by rw[eO];omega)) fun s' h' a f=>?_
 exact e s' h' a ((Upd.hnew M h _ _).tr f)
def kV(n k:Nat):List UInt8:=(dB k).map fun i=>d4 (n>>>(8*i))
theorem qZ(n k:Nat):kV n (k+1)=kV n k++ [d4 (n>>>(8*k))]:=by unfold kV;rw[g4,fO];rfl
theorem dC(n k:Nat):(kV n k).length=k:=by simp[kV]
theorem CE{M:Nat→Prop}{h:ac}{s:SliceV}{xs:List UInt8}(q:OwnS oL 1 cT M h s xs)(hM:∀b,h.size≤b→M b){n k:Nat}(A:n<18446744073709551616)(o:k≤8)(z:xs.length+k≤140737488355328){K:SliceV→ac→Prop}
  (u:∀s' h',OwnS oL 1 cT M h' s' (xs++kV n k)→Upd M h h'→K s' h'):HC PG iu [.slice s.a s.len s.cap,.int .u64 n,.int .i64 k] [.c .slice] K h:=by
 refine vO s n k ?_;unfold qR;refine LoopP.ghost (fun(i:Nat) (t:SliceV×Int) h'=>t.2=(i:Int)∧i≤k∧OwnS oL 1 cT M h' t.1 (xs++kV n i)∧Upd M h h') (fun i=>k-i) 0 ⟨rfl,bB _,by simpa[kV]using q,Upd.refl _ _⟩ ?_
 rintro I i ⟨so,x⟩ h' ⟨m,hi,c,j⟩ v;simp only at m c;subst m;refine aU (fun a=>?_) fun d=>?_
 ·have a:i<k:=by have:(i:Int)<(k:Int):=a;omega
  have w:IntKind.wrap .i64 (8*(i:Int))=((8*i:Nat):Int):=by rw[pL (by omega)];omega
  have em:min (((8*i:Nat):Int)).toNat (IntKind.bits .u64)=8*i:=by rw[aM];exact aX (by show 8*i≤64;omega)
  refine Join.plain ?_;simp only[Bd];rw[w,em,is];refine⟨by omega,aR ?_⟩;refine oX (b:=d4 (n>>>(8*i))) ?_ c (fun b p=>hM b (bI j.size p)) (by rw[ae,dC];omega) fun y B f e=>?_
  ·rw[IntKind.wrap_u8];simp
  ·rw[dg a (by omega)]
   refine v (i+1) _ _ ⟨rfl,a,?_,j.tr e⟩ (by omega);rw[qZ,←aj];exact f
 ·have g:i=k:=by have:¬(i:Int)<(k:Int):=d;omega
  subst g;exact u _ _ c j
end Go.Proofs
namespace Go.Proofs
open Go Go.Lift
theorem Gu{α:Type}{f:α→List Value}{j a:Nat}{t:TypeId}{W:Nat→Prop}{h:ac}{d:Option Addr}{sl n o:Nat}{xs ys:List α}{g z:List Value}{K:SliceV→ac→Prop}
  (q:Sl f j W h ⟨d,sl,n⟩ xs)(p:o=ys.length)(k:g=ys.flatMap f)(v:z.length=j)(x:0<a)(e:n<sl+o)(i:(xs.length+ys.length)*a≤140737488355328)
  (w:∀s' h',OwnS f j t (fun b=>h.size≤b) h' s' (xs++ys)→Upd No h h'→K s' h'):AppP (some z) j a t d sl n o g h K:=by
 have c:sl=xs.length:=q.len;subst p k;refine⟨fun s=>by omega,fun _=>?_⟩
 refine⟨xs.flatMap f,z,q.srow,rfl,x,Go.growslice_fits e (by rw[c];exact i),fun u m=>?_⟩
 refine w _ _ ⟨by simp[c],q.ne,m,.inr ⟨h.size,cq (u-(sl+ys.length)) z,rfl,ar _,?_,?_⟩⟩ (Upd.hnew No h _ _)
 ·rw[bh,bo]
 ·rw[gQ,v]
theorem Hk{h:ac}{s:SliceV}{xs:List UInt8}(y:Sl oL 1 No h s xs)(hc:s.cap=s.len){n k:Nat}(z:k≤8)(x:0<k)(E:xs.length+k≤140737488355328){K:SliceV→ac→Prop}
  (A:∀s' h',OwnS oL 1 cT (fun b=>h.size≤b) h' s' (xs++kV n k)→Upd No h h'→K s' h'):HC PG iu [.slice s.a s.len s.cap,.int .u64 n,.int .i64 k] [.c .slice] K h:=by
 refine vO s n k ?_;unfold qR;refine LoopP.ghost (fun(i:Nat) (t:SliceV×Int) h'=>t.2=(i:Int)∧i≤k∧((i=0∧t.1=s∧h'=h)∨OwnS oL 1 cT (fun b=>h.size≤b) h' t.1 (xs++kV n i))∧Upd No h h') (fun i=>k-i) 0 ⟨rfl,bB _,.inl ⟨rfl,rfl,rfl⟩,Upd.refl _ _⟩ ?_
 rintro I i ⟨so,D⟩ h' ⟨p,hi,a,o⟩ q;simp only at p a;subst p;refine aU (fun c=>?_) fun j=>?_
 ·have c:i<k:=by have:(i:Int)<(k:Int):=c;omega
  have B:IntKind.wrap .i64 (8*(i:Int))=((8*i:Nat):Int):=by rw[pL (by omega)];omega
  have em:min (((8*i:Nat):Int)).toNat (IntKind.bits .u64)=8*i:=by rw[aM];exact aX (by show 8*i≤64;omega)
  refine Join.plain ?_;simp only[Bd];rw[B,em,is];refine⟨by omega,aR ?_⟩;have u:IntKind.wrap .u8 ((n>>>(8*i):Nat):Int)=((d4 (n>>>(8*i))).toNat:Int):=by rw[IntKind.wrap_u8];simp
  rcases a with⟨rfl,rfl,rfl⟩|a
  ·rw[u]
   have k1:=Upd.hnew No h' [.int .u8 ((d4 (n>>>(8*0))).toNat:Int)] cT;have w:OwnS oL 1 cT (fun _=>True) (hnew h' [.int .u8 ((d4 (n>>>(8*0))).toNat:Int)] cT) ⟨some (aZ h'),1,1⟩ [d4 (n>>>(8*0))]:=⟨rfl,uY,ar _,.inr ⟨h'.size,[],rfl,trivial,bh ..,rfl⟩⟩
   refine⟨_,(w.sl (W:=No) fun _ _ _ h=>h).srow,?_⟩
   refine Gu (ys:= [d4 (n>>>(8*0))]) (y.upd k1 fun _ h=>h.elim) rfl rfl rfl (by omega) (by omega) (by simp only[aN];omega) fun v C f d=>?_
   rw[dg c (by omega)];refine q 1 _ _ ⟨rfl,c,.inr ?_,k1.tr d⟩ (by omega);exact f.more fun b g=>bI k1.size g
  ·refine oX u a (fun b g=>bI o.size g) (by rw[ae,dC];omega) fun v C f d=>?_
   rw[dg c (by omega)];refine q (i+1) _ _ ⟨rfl,c,.inr ?_,o.trans d fun b g=>.inr g⟩ (by omega)
   rw[qZ,←aj];exact f
 ·have m:i=k:=by have:¬(i:Int)<(k:Int):=j;omega
  subst m;rcases a with⟨e,_⟩|a
  ·omega
  ·exact A _ _ a o
def pM(s:ByteArray):List UInt8:=kV s.size 2++s.data.toList
theorem wD{W:Nat→Prop}{h:ac}{s:SliceV}{xs:List UInt8}(j:Sl oL 1 W h s xs)(hc:s.len≤s.cap)(b:ByteArray)(y:b.size≤1000000)(v:xs.length+2+b.size≤140737488355328){K:SliceV→ac→Prop}
  (q:∀s' h',OwnS oL 1 cT (fun x=>h.size≤x) h' s' (xs++pM b)→Upd No h h'→K s' h'):HC PG iR [.slice s.a s.len s.cap,.string b] [.c .slice] K h:=by
 refine AB s b ?_;unfold uh;have i:=j.len;refine⟨by omega,by omega,?_⟩
 simp only[aM];have f:Sl oL 1 No h ⟨aF s.a 0 s.len 1,s.len-0,s.len-0⟩ xs:=by
  have:=Sl.sub (j.less (W':=No) fun _ h=>h.elim) (l:=0) (hi:=s.len) (m:=s.len) (c:=s.len-0) (bB _) (by omega) (ar _)
  rw[List.drop_zero,be (by omega)]at this;exact this
 have t:IntKind.wrap .u64 (b.size:Int)=(b.size:Int):=Go.IntWalk.u64_in _ (by omega);rw[t];refine Hk f rfl (n:=b.size) (k:=2) (by omega) (by omega) (by omega) fun u w d a=>?_
 refine AppP.own (ys:=b.data.toList) d (by simp) (nR b) (by rw[nR];exact wG _) rfl (by omega) ?_ a.size fun o p g e=>?_
 ·simp only[ae,dC]
  have:b.data.toList.length=b.size:=by simp
  omega
 ·refine q o p ?_ (a.trans e fun x hx=>.inr hx)
  rw[pM,←aj];exact g
end Go.Proofs
namespace Go.Proofs
open Go Go.Lift
def xx(p:Pr):List UInt8:=pM p.1++pM p.2
def jg(l:List Pr):List UInt8:=l.flatMap xx
theorem gf(b:ByteArray):(pM b).length=2+b.size:=by simp[pM,dC]
def Fit(l:List Pr):Prop:=∀p∈l,p.1.size≤10000∧p.2.size≤10000
theorem Ep{p:Pr}(h:p.1.size≤10000∧p.2.size≤10000):(xx p).length≤20004:=by
 unfold xx;rw[ae,gf,gf];omega
theorem mN:∀{l:List Pr},Fit l→(jg l).length≤l.length*20004
 | [],_=>by simp[jg]
 |p::l,h=>by
  have d:=Ep (h p (aq ..));have c:=mN (l:=l) fun q a=>h q (aC _ a)
  unfold jg at*;rw[aD,ae,aI];omega
theorem Bk{l:List Pr}{i:Nat}(hi:i<l.length):jg (l.take (i+1))=jg (l.take i)++xx l[i]:=by
 unfold jg;rw[aP hi,bo,aD,ll,bW]
theorem xj{M W:Nat→Prop}{h:ac}{s sp:SliceV}{xs:List UInt8}{l:List Pr}(N:OwnS oL 1 cT M h s xs)(hM:∀b,h.size≤b→M b)(B:Sl jq 2 W h sp l)(J:∀x,M x→x<h.size→W x)(F:Fit l)(Y:l.length≤1000000)(X:xs.length+l.length*20004≤140737488355328){K:SliceV→ac→Prop}
  (O:∀s' h',OwnS oL 1 cT M h' s' (xs++jg l)→Upd M h h'→K s' h'):HC PG lu [.slice s.a s.len s.cap,.slice sp.a sp.len sp.cap] [.c .slice] K h:=by
 refine yC s sp ?_;unfold rO fc eH aB nv uw wY vX;have C:=B.len;have n:∀b,M b→W b∨h.size≤b:=fun b z=>by
  rcases cj b h.size with hx|hx
  ·exact .inl (J b z hx)
  ·exact .inr hx
 refine LoopP.ghost (fun(i:Nat) (t:SliceV×Int) h'=>t.2=(i:Int)∧i≤l.length∧OwnS oL 1 cT M h' t.1 (xs++jg (l.take i))∧Upd M h h') (fun i=>l.length-i) 0 ⟨rfl,bB _,by simpa[jg]using N,Upd.refl _ _⟩ ?_
 rintro I i ⟨so,U⟩ h' ⟨E,hi,e,m⟩ P;simp only at E e;subst E;refine aU (fun c=>?_) fun u=>?_
 ·have c:i<l.length:=by have:(i:Int)<(sp.len:Int):=c;omega
  obtain⟨a,L,_,D⟩:=(B.upd m n).at (au c);have R:=F l[i] (bK c);have v:=mN (l:=l.take i) fun q H=>F q (List.mem_of_mem_take H)
  rw[aY,aX hi]at v;have k1:=Upd.hnew No h' [.string (⟨#[]⟩:ByteArray),.string (⟨#[]⟩:ByteArray)] ah;have b1:=bh h' [.string (⟨#[]⟩:ByteArray),.string (⟨#[]⟩:ByteArray)] ah;refine⟨by simp only;omega,a,L,l[i].1,D 0 _ rfl,l[i].2,D 1 _ rfl,aR ?_⟩;simp only[bS h'];generalize hnew h' [.string (⟨#[]⟩:ByteArray),.string (⟨#[]⟩:ByteArray)] ah=h1 at k1 b1
  have o:h1[h'.size]? =some (.cells #[.string GN.1,.string GN.2] ah (0,0)):=b1;refine DE (p:=l[i]) o fun T b2 y=>?_
  have d:Upd No h' T:=k1.trans y fun x hx=>.inr (Nat.le_of_eq hx.symm)
  have j:=e.upd d fun _ _ h=>h
  refine⟨l[i].1,by rw[bp,aE b2];rfl,l[i].2,by rw[bp,aE b2];rfl,?_⟩
  have G:i*20004+20004≤l.length*20004:=by rw[←Nat.succ_mul];exact cN _ c
  refine wD (W:=No) (j.sl fun _ _ _ h=>h) j.cap l[i].1 (by omega) (by rw[ae];omega) fun V h3 g f=>⟨by rw[bp,aE (f.get0 b2)];rfl,?_⟩
  refine wD (W:=No) (g.sl fun _ _ _ h=>h) g.cap l[i].2 (by omega) (by rw[ae,ae,gf];omega) fun Z Q w A=>?_
  have k:Upd M h Q:=m.tr ((d.tr (f.tr A)).wide);rw[dg c (by omega)];refine P (i+1) _ _ ⟨rfl,c,?_,k⟩ (by omega);rw[Bk c,xx,←aj,←aj];exact w.more fun b z=>hM b (bI (m.tr ((d.tr f).wide)).size z)
 ·have S:i=l.length:=by have:¬(i:Int)<(sp.len:Int):=u;omega
  rw[be (by omega)]at e;exact O _ _ e m
end Go.Proofs
namespace Go.Proofs
open Go Go.Lift
def ko(q:Nat→Bool):Nat→Nat
 |0=>0
 |n+1=>ko q n+(if q n then 2^n else 0)
theorem mZ(q:Nat→Bool):∀n,ko q n<2^n
 |0=>by simp[ko]
 |n+1=>by
  have:=mZ q n;unfold ko;rw[Nat.pow_succ];split<;>omega
theorem u0(q:Nat→Bool)(c:Nat):∀n,(ko q n).testBit c=(decide (c<n)&&q c)
 |0=>by simp[ko]
 |n+1=>by
  have d:=mZ q n;have f:=u0 q c n;unfold ko;by_cases a:q n=true
  ·rw[if_pos a,Nat.add_comm]
   rcases Nat.lt_trichotomy c n with h|h|h
   ·rw[Nat.testBit_two_pow_add_gt h,f,decide_eq_true h,decide_eq_true (by omega)]
   ·subst h
    rw[Nat.testBit_two_pow_add_eq,fg d,decide_eq_true (by omega),a];rfl
   ·have g:2^n+ko q n<2^c:=aK (by rw[Nat.pow_succ];omega:2^n+ko q n<2^(n+1)) (ix (by omega) h)
    rw[fg g,decide_eq_false (by omega)];rfl
  ·rw[if_neg a,eG,f]
   by_cases h:c<n
   ·rw[decide_eq_true h,decide_eq_true (by omega)]
   ·by_cases e:c=n
    ·subst e;have:q c=false:=by simpa using a
     rw[this];simp
    ·rw[decide_eq_false h,decide_eq_false (by omega)]
theorem zr{d:Nat}{q:Nat→Bool}(hd:d<4294967296)(h:∀c,c<32→d.testBit c=q c):d=ko q 32:=by
 refine Nat.eq_of_testBit_eq fun c=>?_
 rw[u0];by_cases hc:c<32
 ·rw[h c hc,decide_eq_true hc];rfl
 ·rw[decide_eq_false hc,fg (aK hd (ix (n:=2) (by omega) (show 32≤c by omega)))];rfl
end Go.Proofs
namespace Go.Proofs
open Go Go.Lift
def qi(l:List Pr):Option Pr:=match l with| [p]=>some p|_=>none
def mR(l:List Pr):Option (List Pr):=if 2≤l.length then some l else none
def jT(x:Hs)(lev:Nat)(l:List Pr):List Pr:=fm (fun c=>qi (part x lev c l)) 32
def mQ(x:Hs)(lev:Nat)(l:List Pr):List (List Pr):=fm (fun c=>mR (part x lev c l)) 32
def gG(x:Hs):Nat→List Pr→List UInt8
 |0,l=>1::(kV l.length 2++jg l)
 |m+1,l=>0::(kV (ko (fun c=>(qi (part x (12-m) c l)).isSome) 32) 4++(kV (ko (fun c=>(mR (part x (12-m) c l)).isSome) 32) 4++(jg (jT x (12-m) l)++(mQ x (12-m) l).flatMap (gG x m))))
theorem Cc{W:Nat→Prop}{x:Hs}{h:ac}{m:Nat}{s:Slots}{c:Nat}{l:List Pr}(t:SlotIs W x h m s c l):s.p c=qi l∧(s.k c).isSome=(mR l).isSome:=by
 rcases t with⟨rfl,e,d⟩|⟨p,rfl,e,d⟩|⟨f,e,g,d,_⟩
 ·rw[e,d];exact⟨rfl,rfl⟩
 ·rw[e,d];exact⟨rfl,rfl⟩
 ·rw[e,d]
  refine⟨?_,by simp[mR,f]⟩
  match l,f with
  |a::b::l,_=>rfl
def KidsAt(W:Nat→Prop)(x:Hs)(h:ac)(m:Nat):List (Option Addr)→List (List Pr)→Prop
 | [],[]=>True
 |k::ks,l::ls=>(∃kb,k=some ⟨kb,0,none⟩∧TrieAt W x h m kb l)∧KidsAt W x h m ks ls
 |_,_=>False
theorem KidsAt.app{W:Nat→Prop}{x:Hs}{h:ac}{m:Nat}:∀{ks ks':List (Option Addr)} {ls ls':List (List Pr)},KidsAt W x h m ks ls→KidsAt W x h m ks' ls'→KidsAt W x h m (ks++ks') (ls++ls')
 | [],_,[],_,_,q=>q
 |_::_,_,_::_,_,q,q'=>⟨q.1,KidsAt.app q.2 q'⟩
 | [],_,_::_,_,q,_=>q.elim
 |_::_,_,[],_,q,_=>q.elim
theorem nF{β:Type}(g:Nat→Option β)(n:Nat):fm g (n+1)=fm g n++(g n).toList:=by
 unfold fm;rw[g4,List.filterMap_append];cases h:g n<;>simp[h]
theorem FV{W:Nat→Prop}{x:Hs}{h:ac}{m lev:Nat}{s:Slots}{l:List Pr}:∀n,(∀c,c<n→SlotIs W x h m s c (part x lev c l))→KidsAt W x h m (fm s.k n) (fm (fun c=>mR (part x lev c l)) n)
 |0,_=>trivial
 |n+1,hs=>by
  rw[nF,nF];refine KidsAt.app (FV n fun c hc=>hs c (by omega)) ?_
  rcases hs n (by omega)with⟨d,_,a⟩|⟨p,d,_,a⟩|⟨d,_,e,a,f⟩
  ·rw[a,d];exact trivial
  ·rw[a,d];exact trivial
  ·rw[a]
   have:mR (part x lev n l)=some (part x lev n l):=by unfold mR;rw[if_pos d]
   simp only[this];exact⟨⟨e,rfl,f⟩,trivial⟩
theorem G2{W:Nat→Prop}{x:Hs}{h:ac}{m lev:Nat}{s:Slots}{l:List Pr}(a:∀c,c<32→SlotIs W x h m s c (part x lev c l)):fm s.p 32=jT x lev l:=
 JA _ fun c hc=>(Cc (a c (List.mem_range.1 hc))).1
end Go.Proofs
namespace Go.Proofs
open Go Go.Lift
theorem uL(x:Hs)(lev:Nat)(l:List Pr):∀n,(((dB n).map fun c=>(part x lev c l).length).sum)=(l.filter fun p=>decide (ck x lev p.1<n)).length
 |0=>by
  have:(l.filter fun p=>decide (ck x lev p.1<0))= []:=List.filter_eq_nil_iff.2 fun p _=>by simp
  rw[this];rfl
 |n+1=>by
  rw[g4,fO,List.sum_append,uL x lev l n];simp only[bN,List.map_nil,List.sum_cons,List.sum_nil,eG];unfold part;clear uL;induction l with
  |nil=>rfl
  |cons p l ih=>
   simp only[List.filter_cons,decide_eq_true_iff];split<;>split<;>split<;>first|omega|(simp only[aI];omega)
theorem yR(x:Hs)(lev:Nat)(l:List Pr):(jT x lev l).length+(mQ x lev l).flatten.length≤l.length:=by
 have h:=uL x lev l 32;have d:(l.filter fun p=>decide (ck x lev p.1<32)).length≤l.length:=eg ..
 have:∀n,(fm (fun c=>qi (part x lev c l)) n).length+(fm (fun c=>mR (part x lev c l)) n).flatten.length≤((dB n).map fun c=>(part x lev c l).length).sum:=by
  intro n;induction n with
  |zero=>simp[fm]
  |succ n ih=>
   rw[nF,nF,g4,fO,List.sum_append];simp only[ae,ga,bN,List.map_nil,List.sum_cons,List.sum_nil,eG];generalize part x lev n l=q;have:(qi q).toList.length+(mR q).toList.flatten.length≤q.length:=by
    match q with
    | []=>simp[qi,mR]
    | [a]=>simp[qi,mR]
    |a::b::q=>simp[qi,mR]
   omega
 have:=this 32;unfold jT mQ;omega
end Go.Proofs
namespace Go.Proofs
open Go Go.Lift
theorem qY{x:Hs}{lev:Nat}{l:List Pr}{p:Pr}(h:p∈jT x lev l):p∈l:=by
 unfold jT fm at h;obtain⟨c,_,hc⟩:=List.mem_filterMap.1 h;unfold qi at hc;split at hc
 ·rename_i q hq
  cases hc;have:p∈part x lev c l:=by rw[hq];exact ay.2 rfl
  exact(lC.1 this).1
 ·cases hc
theorem oT{x:Hs}{lev:Nat}{l L:List Pr}(h:L∈mQ x lev l):2≤L.length∧∃c,L=part x lev c l:=by
 unfold mQ fm at h;obtain⟨c,_,hc⟩:=List.mem_filterMap.1 h;unfold mR at hc;split at hc
 ·cases hc;exact⟨by assumption,c,rfl⟩
 ·cases hc
theorem Fit.part{x:Hs}{lev c:Nat}{l:List Pr}(h:Fit l):Fit (part x lev c l):=fun p a=>h p (lC.1 a).1
theorem zH{B:Nat}{f:List Pr→List UInt8}:∀{ls:List (List Pr)},(∀L∈ls,2≤L.length∧(f L).length≤9+L.length*B)→(ls.flatMap f).length≤ls.flatten.length*(B+9)
 | [],_=>by simp
 |L::ls,h=>by
  have c:=h L (aq ..);have a:=zH (ls:=ls) fun M hM=>h M (aC _ hM)
  rw[aD,ae,fY,ae,jW];have:L.length*(B+9)=L.length*B+L.length*9:=Nat.mul_add ..;omega
theorem pq{x:Hs}:∀(m:Nat) {l:List Pr},Fit l→(gG x m l).length≤9+l.length*(20004+9*(m+1))
 |0,l,h=>by
  have:=mN h;unfold gG;rw[aI,ae,dC];have:l.length*20004≤l.length*(20004+9*(0+1)):=jn _ (by omega);omega
 |m+1,l,h=>by
  have o:=mN (l:=jT x (12-m) l) fun p k=>h p (qY k)
  have d:=zH (f:=gG x m) (ls:=mQ x (12-m) l) (B:=20004+9*(m+1)) fun L j=>by
   obtain⟨a,c,rfl⟩:=oT j;exact⟨a,pq m h.part⟩
  have g:=yR x (12-m) l;unfold gG;rw[aI,ae,ae,ae,dC,dC];have n:(jT x (12-m) l).length*20004≤(jT x (12-m) l).length*(20004+9*(m+1+1)):=jn _ (by omega);have i:((jT x (12-m) l).length+(mQ x (12-m) l).flatten.length)*(20004+9*(m+1+1))≤l.length*(20004+9*(m+1+1)):=cN _ g;rw[jW]at i
  have e:20004+9*(m+1)+9=20004+9*(m+1+1):=by omega
  rw[e]at d;omega
end Go.Proofs
namespace Go.Proofs
open Go Go.Lift
theorem Cz{h:ac}{b d n:Nat}{sp sk:SliceV}{c:Bool}{ow:Option Addr}(a:h[b]? =some (.cells (dN d n sp sk c ow) aQ (0,0))) (f:sp.len+sk.len≤1000000000) {K:Int→ac→Prop} (e:K ((sp.len+sk.len:Nat):Int) h):HC PG l4 [.pointer (some ⟨b,0,none⟩)] [.c (.int .i64)] K h:=by
 refine ws _ ?_;unfold pY co;refine ak.2 ⟨_,rfl,sp,cU (i:=2) a,_,rfl,sk,cU (i:=3) a,?_⟩;rw[pL (by omega)];exact_mod_cast e
def Bes(M:Nat→Prop)(h a:ac)(b:Nat):Prop:=M b∧(b<h.size∨a.size≤b)
theorem Bes.own{α:Type}{f:α→List Value}{c:Nat}{t:TypeId}{M:Nat→Prop}{h a:ac}{s:SliceV}{xs:List α}(e:OwnS f c t M h s xs)(g:Upd No h a):OwnS f c t (Bes M h a) a s xs:=
 (e.within.upd g fun _ _ h=>h).more fun _ d=>⟨d.1,.inl d.2⟩
theorem Bes.sl{α:Type}{f:α→List Value}{c:Nat}{t:TypeId}{M:Nat→Prop}{h a:ac}{s:SliceV}{xs:List α}(d:OwnS f c t (fun x=>h.size≤x) a s xs):Sl f c (Bes M h a) a s xs:=
 d.sl fun b g e hx=>by rcases hx.2 with h|h<;>omega
theorem Bes.hM{M:Nat→Prop}{h a:ac}(hM:∀b,h.size≤b→M b)(d:Upd No h a):∀b,a.size≤b→Bes M h a b:=fun b c=>⟨hM b (bI d.size c),.inr c⟩
theorem FA{W:Nat→Prop}{x:Hs}:∀(m:Nat),m≤13→∀{b:Nat} {l:List Pr} {X h:ac} {M:Nat→Prop} {s:SliceV} {xs:List UInt8},TrieAt W x X m b l→Upd No X h→(∀y,M y→X.size≤y)→OwnS oL 1 cT M h s xs→(∀y,h.size≤y→M y)→Fit l→l.length≤60000→
  xs.length+(9+l.length*(20004+9*(m+1)))≤140737488355328→∀{K:SliceV→ac→Prop},(∀s' h',OwnS oL 1 cT M h' s' (xs++gG x m l)→Upd M h h'→K s' h')→
  HC PG nK [.slice s.a s.len s.cap,.pointer (some ⟨b,0,none⟩),.int .i64 ((13-m:Nat):Int)] [.c .slice] K h:=by
 intro m;induction m with
 |zero=>
  intro _ b l X h M s xs t hu0 O ho hM hf hn hx K hk;refine vN s (some ⟨b,0,none⟩) ((13-0:Nat):Int) ?_;unfold qQ bA fc zB D4 GQ;have st:∀{h'},Upd M h h'→Upd No X h':=fun k=>hu0.trans k fun y j=>.inr (O y j)
  have bk:∀{h'},Upd M h h'→BuckAt W h' b l:=fun k=>BuckAt.upd t (st k) fun _ h=>h.elim
  have A:∀{h'},Upd M h h'→∀y,h'.size≤y→M y:=fun k y j=>hM y (bI k.size j)
  obtain⟨sp,sk,ow,hb,_⟩:=(bk (Upd.refl M h)).ex;refine lF hb (aA.2 (aR ?_));refine oX (b:=1) rfl ho hM (by omega) fun s1 h1 P o=>?_
  obtain⟨sp1,sk1,ow1,S,G,hsk1,_⟩:=(bk o).ex;have e1:=G.len;have e2:=hsk1.len;rw[cQ]at e2;refine Cz S (by omega) ?_;have ew:IntKind.wrap .u64 ((sp1.len+sk1.len:Nat):Int)=((l.length:Nat):Int):=by rw[Go.IntWalk.u64_in _ (by omega)];omega
  rw[ew];have hl2:l.length*20004≤l.length*(20004+9*(0+1)):=jn _ (by omega);refine CE P (A o) (n:=l.length) (k:=2) (by omega) (by omega) (by rw[ae,aN];omega) fun s2 h2 T v=>?_
  have Q:=o.tr v;obtain⟨sp2,sk2,ow2,hb2,V,_⟩:=(bk Q).ex;refine xw hb2 V (by omega) fun s3 E C w=>?_
  refine xj (M:=Bes M h2 E) (W:=Bes M h2 E) (Bes.own T w) (Bes.hM (A Q) w) (Bes.sl C) (fun _ h _=>h) hf (by omega) (by rw[ae,ae,aN,dC];omega) fun s4 F ho4 hu4=>?_
  refine hk s4 F ?_ (Q.tr (w.wide.tr (hu4.mono fun y j=>.inl j.1)))
  have:=ho4.more (M':=M) fun y j=>j.1
  rw[gG,List.append_cons,←aj];exact this
 |succ m ih=>
  intro hm b l X h M s xs t hu0 O ho hM hf hn hx K hk;refine vN s (some ⟨b,0,none⟩) ((13-(m+1):Nat):Int) ?_;unfold qQ bA fc zB D4 GQ;have st:∀{h'},Upd M h h'→Upd No X h':=fun k=>hu0.trans k fun y j=>.inr (O y j)
  have A:∀{h'},Upd M h h'→∀y,h'.size≤y→M y:=fun k y j=>hM y (bI k.size j)
  obtain⟨sl,nd,hs0⟩:=t;have hs:∀c,c<32→SlotIs W x X m sl c (part x (12-m) c l):=hs0;have hd:∀{h'},Upd M h h'→∃d n sp sk ow,h'[b]? =some (.cells (dN d n sp sk false ow) aQ (0,0))∧d=ko (fun c=>(qi (part x (12-m) c l)).isSome) 32∧n=ko (fun c=>(mR (part x (12-m) c l)).isSome) 32∧Sl jq 2 W h' sp (jT x (12-m) l)∧Sl mP 1 W h' sk (fm sl.k 32):=fun{h'} k=>by
   obtain⟨d,n,sp,sk,ow,hb,bits,E,F,_⟩:=(nd.upd (st k) fun _ h=>h.elim).ex
   refine⟨d,n,sp,sk,ow,hb,zr bits.d32 fun c hc=>?_,zr bits.n32 fun c hc=>?_,?_,F⟩
   ·rw[bits.dp c hc,(Cc (hs c hc)).1]
   ·rw[bits.nk c hc,(Cc (hs c hc)).2]
   ·rw[←G2 hs];exact E
  have hka:KidsAt W x X m (fm sl.k 32) (mQ x (12-m) l):=FV 32 hs;have u:=pq (x:=x) (m+1) hf;have hlen2:=u;have hml:∀L∈mQ x (12-m) l,Fit L∧L.length≤60000:=fun L hL=>by
   obtain⟨_,c,rfl⟩:=oT hL;exact⟨hf.part,bI ta hn⟩
  have hsf:Fit (jT x (12-m) l):=fun p hp=>hf p (qY hp)
  have hsl:=yR x (12-m) l;unfold gG at hk u;have J:∀q:Nat→Bool,ko q 32<4294967296:=fun q=>mZ q 32
  have hd32:=J fun c=>(qi (part x (12-m) c l)).isSome
  have hn32:=J fun c=>(mR (part x (12-m) c l)).isSome
  generalize ko (fun c=>(qi (part x (12-m) c l)).isSome) 32=D at hk hd u hd32
  generalize ko (fun c=>(mR (part x (12-m) c l)).isSome) 32=N at hk hd u hn32
  have hS:(jT x (12-m) l).length≤60000:=by omega
  have hSb:(jT x (12-m) l).length*20004≤l.length*(20004+9*(m+1+1)):=Nat.mul_le_mul (by omega) (by omega);have hML:∀L∈mQ x (12-m) l,2≤L.length∧(gG x m L).length≤9+L.length*(20004+9*(m+1)):=fun L hL=>by
   obtain⟨E,c,rfl⟩:=oT hL;exact⟨E,pq m hf.part⟩
  have hbud:9+(jT x (12-m) l).length*20004+(mQ x (12-m) l).flatten.length*(20004+9*(m+1)+9)≤9+l.length*(20004+9*(m+1+1)):=by
   have h5:(jT x (12-m) l).length*20004≤(jT x (12-m) l).length*(20004+9*(m+1+1)):=jn _ (by omega);have h6:((jT x (12-m) l).length+(mQ x (12-m) l).flatten.length)*(20004+9*(m+1+1))≤l.length*(20004+9*(m+1+1)):=cN _ hsl;rw[jW]at h6;have h7:20004+9*(m+1)+9=20004+9*(m+1+1):=by omega
   rw[h7];omega
  have hps:=mN hsf;generalize jT x (12-m) l=So at hk hd hsf hS hSb hbud u hps;generalize mQ x (12-m) l=Ma at hk hka hml hML hbud u;obtain⟨d,n,sp,sk,ow,hb,_⟩:=hd (Upd.refl M h);refine lF hb (ak.2 (Join.intro (fun s' h'=>OwnS oL 1 cT M h' s' (xs++(0::(kV D 4++kV N 4)))∧Upd M h h') (fun R hR=>aR ?_) ?_))
  ·refine oX (b:=0) rfl ho hM (by omega) fun s1 h1 P o=>?_
   obtain⟨d1,n1,sp1,sk1,ow1,S,rfl,rfl,_⟩:=hd o;refine DQ S ?_;rw[Go.IntWalk.u64_in _ (by omega)];refine CE P (A o) (n:=d1) (k:=4) (by omega) (by omega) (by rw[ae,aN];omega) fun s2 h2 T v=>?_
   obtain⟨d2,n2,sp2,sk2,ow2,hb2,rfl,rfl,_⟩:=hd (o.tr v);refine Bm hb2 ?_;rw[Go.IntWalk.u64_in _ (by omega)];refine CE T (A (o.tr v)) (n:=n2) (k:=4) (by omega) (by omega) (by rw[ae,ae,aN,dC];omega) fun s3 E C w=>?_
   refine hR _ _ ⟨?_,(o.tr v).tr w⟩;rw[List.append_cons,←aj];exact C
  ·rintro s' h1 ⟨P,o⟩
   obtain⟨d1,n1,sp1,sk1,ow1,S,_,_,G,_⟩:=hd o;refine xw S G (by omega) fun s2 h2 T v=>?_
   refine xj (M:=Bes M h1 h2) (W:=Bes M h1 h2) (Bes.own P v) (Bes.hM (A o) v) (Bes.sl T) (fun _ h _=>h) hsf (by omega) (by rw[ae,aI,ae,dC,dC];omega) fun s3 E C w=>?_
   have C:=C.more (M':=M) fun y j=>j.1
   have H:Upd M h E:=o.tr (v.wide.tr (w.mono fun y j=>.inl j.1))
   have e13:(((13-(m+1):Nat):Int)==(13:Int))=false:=by rw[beq_eq_false_iff_ne];omega
   rw[e13];refine ak.2 ?_;obtain⟨d3,n3,sp3,sk3,ow3,hb3,_,_,_,hsk3⟩:=hd H;have hk32:=xH (g:=sl.k);refine Hm hb3 hsk3 (by omega) fun s4 F ho4 hu4=>?_
   have U:Sl mP 1 (Bes M E F) F s4 (fm sl.k 32):=Bes.sl ho4;have hlk:=U.len;have ew:IntKind.wrap .i64 (((13-(m+1):Nat):Int)+1)=((13-m:Nat):Int):=by rw[pL (by omega)];omega
   rw[ew];have hMb:=Bes.hM (A H) hu4;have hob:=Bes.own C hu4;have hu04:Upd M h F:=H.tr hu4.wide;have hMM:∀y,Bes M E F y→M y:=fun y j=>j.1
   have st4:∀{h'},Upd (Bes M E F) F h'→Upd M h h':=fun k=>hu04.tr (k.mono fun y j=>.inl j.1)
   generalize Bes M E F=B at U hMb hob hMM st4;have hkl:∀{ks:List (Option Addr)} {ls:List (List Pr)},KidsAt W x X m ks ls→ks.length=ls.length∧∀i (hi:i<ls.length),∃kb,ks[i]? =some (some ⟨kb,0,none⟩)∧TrieAt W x X m kb ls[i]:=by
    intro ks;induction ks with
    |nil=>intro ls;cases ls with
     |nil=>intro _;exact⟨rfl,fun i hi=>absurd hi (Nat.not_lt_zero _)⟩
     |cons a ls=>intro h;exact h.elim
    |cons k ks ihk=>intro ls;cases ls with
     |nil=>intro h;exact h.elim
     |cons a ls=>
      rintro⟨⟨kb,rfl,tk⟩,h⟩;obtain⟨e,hr⟩:=ihk h;refine⟨by simp[e],fun i hi=>?_⟩
      cases i with
      |zero=>exact⟨kb,rfl,tk⟩
      |succ i=>simp only[List.getElem?_cons_succ,List.getElem_cons_succ];exact hr i (by simpa using hi)
   obtain⟨hkl,hkt⟩:=hkl hka;have hbase:(xs++(0::(kV D 4++kV N 4))++jg So).length≤xs.length+(9+So.length*20004):=by
    rw[ae,ae,aI,ae,dC,dC];omega
   refine LoopP.ghost (fun(i:Nat) (t:SliceV×Int) h'=>t.2=(i:Int)∧i≤Ma.length∧OwnS oL 1 cT B h' t.1 (xs++(0::(kV D 4++kV N 4))++jg So++(Ma.take i).flatMap (gG x m))∧Upd B F h') (fun i=>Ma.length-i) 0 ⟨rfl,bB _,by simpa using hob,Upd.refl _ _⟩ ?_
   rintro I i ⟨so,ti⟩ h' ⟨e1,hi,ho',Y⟩ hI;simp only at e1 ho';subst e1;refine aU (fun z=>?_) fun hge=>?_
   ·have z:i<Ma.length:=by have:(i:Int)<(s4.len:Int):=z;omega
    obtain⟨kb,hk1,tk⟩:=hkt i z;obtain⟨a,ha,_,hv⟩:=(U.upd Y fun y j=>.inl j).at0 hk1
    refine⟨⟨by simp only;omega,by simp only;omega⟩,a,ha,some ⟨kb,0,none⟩,hv,?_⟩
    have Z:Ma[i]∈Ma:=bK z;have htl:=zH (f:=gG x m) (ls:=Ma.take i) (B:=20004+9*(m+1)) fun L hL=>hML L (List.mem_of_mem_take hL)
    have hsp:(Ma.take i).flatten.length+Ma[i].length≤Ma.flatten.length:=by
     have e:Ma=Ma.take i++Ma[i]::Ma.drop (i+1):=by rw[List.getElem_cons_drop,List.take_append_drop]
     have:=congrArg (fun L=>(List.flatten L).length) e
     simp only[ga,fY,ae]at this;omega
    have V:=cN (20004+9*(m+1)+9) hsp;rw[jW]at V;have h2l:=(hML _ Z).1;have hone:9+Ma[i].length*(20004+9*(m+1))≤Ma[i].length*(20004+9*(m+1)+9):=by rw[Nat.mul_add (Ma[i].length) (20004+9*(m+1)) 9];omega
    refine ih (by omega) tk (hu0.trans (st4 Y) fun y j=>.inr (O y j)) (fun y j=>O y (hMM y j)) ho' (fun y j=>hMb y (bI Y.size j)) (hml _ Z).1 (hml _ Z).2 (by rw[ae];omega) fun s5 h5 ho5 hu5=>?_
    rw[dg z (by omega)];refine hI (i+1) _ _ ⟨rfl,z,?_,Y.tr hu5⟩ (by omega);rw[aP z,bo,aD,ll,bW,←aj];exact ho5
   ·have hil:i=Ma.length:=by have:¬(i:Int)<(s4.len:Int):=hge;omega
    subst hil;rw[List.take_length]at ho';refine hk _ _ ?_ (st4 Y);have:=ho'.more hMM;simp only[aj,cR]at this⊢;exact this
end Go.Proofs
namespace Go.Proofs
open Go Go.Lift
theorem G3{W:Nat→Prop}{x:Hs}{h:ac}{b:Nat}{l:List Pr}(t:TrieAt W x h 13 b l)(g:Fit l)(a:l.length≤60000){K:SliceV→ac→Prop}(c:∀s' h',OwnS oL 1 cT (fun y=>h.size≤y) h' s' (gG x 13 l)→Upd No h h'→K s' h'):HC PG sq [.pointer (some ⟨b,0,none⟩)] [.c .slice] K h:=by
 refine Dc _ ?_;unfold yf;refine ak.2 ?_;have i:l.length*(20004+9*(13+1))≤60000*(20004+9*(13+1)):=cN _ a;exact FA (x:=x) 13 (ar _) (s:=⟨none,0,0⟩) (xs:= []) (M:=fun y=>h.size≤y) t (Upd.refl _ _) (fun _ h=>h) (OwnS.nil uY) (fun _ h=>h) g a (by rw[cQ];omega) fun s' h' d e=>c s' h' d (e.mono fun y f=>.inr f)
theorem C4{W W':Nat→Prop}{h:ac}{s s':SliceV}{xs ys:List UInt8}(f:Sl oL 1 W h s xs)(a:Sl oL 1 W' h s' ys){K:Bool→ac→Prop}(e:K (decide (xs=ys)) h):HC PG oD [.slice s.a s.len s.cap,.slice s'.a s'.len s'.cap] [.c .bool] K h:=by
 refine yI s s' ?_;unfold rU;have d:=f.srow;have c:=a.srow;rw[Nat.mul_one]at d c;refine⟨⟨xs.toArray⟩,by rw[nR];exact d,⟨ys.toArray⟩,by rw[nR];exact c,?_⟩
 have:((⟨xs.toArray⟩:ByteArray).toList==(⟨ys.toArray⟩:ByteArray).toList)=decide (xs=ys):=by
  rw[ByteArray.toList_eq,ByteArray.toList_eq,g6,beq_iff_eq,decide_eq_true_iff]
 rw[this];exact e
theorem Bs:∀{a b:Nat} (k:Nat),kV a k=kV b k→a%2^(8*k)=b%2^(8*k)
 |_,_,0,_=>by simp[Nat.mod_one]
 |a,b,k+1,h=>by
  rw[qZ,qZ]at h;obtain⟨g,d⟩:=md h (by rw[dC,dC]);have f:=Bs k g;have c:=congrArg UInt8.toNat (gu.inj d).1;rw[UInt8.toNat_ofNat',UInt8.toNat_ofNat',d8,d8]at c;have e:2^(8*(k+1))=2^(8*k)*2^8:=by rw[Nat.mul_add,Nat.pow_add]
  rw[e,Nat.mod_mul,Nat.mod_mul,f,c]
theorem oV{a b k:Nat}{r c:List UInt8}(d:a<2^(8*k))(g:b<2^(8*k))(h:kV a k++r=kV b k++c):a=b∧r=c:=by
 obtain⟨f,e⟩:=md h (by rw[dC,dC]);have:=Bs k f;rw[eA d,eA g]at this;exact⟨this,e⟩
theorem qU{a b:ByteArray}{r c:List UInt8}(i:a.size≤10000)(j:b.size≤10000)(h:pM a++r=pM b++c):a=b∧r=c:=by
 unfold pM at h;rw[aj,aj]at h;obtain⟨f,e⟩:=oV (k:=2) (by omega) (by omega) h;obtain⟨d,g⟩:=md e (by simpa using f);refine⟨?_,g⟩;cases a;cases b;exact congrArg kE (Array.toList_inj.1 d)
theorem sf:∀{l l':List Pr} {r r':List UInt8},Fit l→Fit l'→l.length=l'.length→jg l++r=jg l'++r'→l=l'∧r=r'
 | [],[],_,_,_,_,_,h=>⟨rfl,h⟩
 | [],_::_,_,_,_,_,e,_=>by simp at e
 |_::_,[],_,_,_,_,e,_=>by simp at e
 |p::l,q::l',r,r',hf,hf',e,h=>by
  unfold jg at h;rw[aD,aD,xx,xx]at h;simp only[aj]at h;have d:=hf p (aq ..);have c:=hf' q (aq ..);obtain⟨i,h⟩:=qU d.1 c.1 h;obtain⟨f,h⟩:=qU d.2 c.2 h;obtain⟨g,h⟩:=sf (l:=l) (l':=l') (fun z a=>hf z (aC _ a)) (fun z a=>hf' z (aC _ a)) (by simpa using e) h
  exact⟨by rw[g,Prod.ext i f],h⟩
theorem wM{β γ:Type}{g:Nat→Option β}{a:Nat→Option γ}:∀n,(∀c,c<n→(g c).isSome=(a c).isSome)→(fm g n).length=(fm a n).length
 |0,_=>rfl
 |n+1,h=>by
  rw[nF,nF,ae,ae,wM n fun c hc=>h c (by omega)]
  have:=h n (by omega);cases h1:g n<;>cases h2:a n<;>rw[h1,h2]at this<;>first|rfl|cases this
theorem CW{β:Type}{g a:Nat→Option β}:∀n,(∀c,c<n→(g c).isSome=(a c).isSome)→fm g n=fm a n→∀c,c<n→g c=a c
 |0,_,_,c,hc=>absurd hc (Nat.not_lt_zero _)
 |n+1,h,e,c,hc=>by
  rw[nF,nF]at e;obtain⟨i,d⟩:=md e (wM n fun c hc=>h c (by omega))
  rcases cj c n with f|f
  ·exact CW n (fun c hc=>h c (by omega)) i c f
  ·have:c=n:=by omega
   subst this;cases h1:g c<;>cases h2:a c<;>rw[h1,h2]at d<;>simp at d⊢
   exact d
theorem yV:∀{l l':List Pr},dJ l→dJ l'→(∀p,p∈l↔p∈l')→l=l'
 | [],[],_,_,_=>rfl
 | [],q::l',_,_,h=>absurd ((h q).2 (aq ..)) (by simp)
 |p::l,[],_,_,h=>absurd ((h p).1 (aq ..)) (by simp)
 |p::l,q::l',f,a,h=>by
  have f:=bf.1 f;have a:=bf.1 a;have e:p=q:=by
   rcases ao.1 ((h p).1 (aq ..))with e|i
   ·exact e
   ·rcases ao.1 ((h q).2 (aq ..))with e|g
    ·exact e.symm
    ·exact absurd (lD (f.1 q g) (a.1 p i)) (dD _)
  subst e;rw[yV f.2 a.2 fun z=>?_]
  constructor
  ·intro d
   rcases ao.1 ((h z).1 (aC _ d))with e|c
   ·exact absurd (f.1 z d) (by rw[e];exact dD _)
   ·exact c
  ·intro d
   rcases ao.1 ((h z).2 (aC _ d))with e|c
   ·exact absurd (a.1 z d) (by rw[e];exact dD _)
   ·exact c
theorem FL{x:Hs}{lev:Nat}{l l':List Pr}(i:dJ l)(a:dJ l')(h:∀c,c<32→part x lev c l=part x lev c l'):l=l':=by
 refine yV i a fun p=>?_
 have e:=h (ck x lev p.1) (DU ..);have d:=lC (x:=x) (lev:=lev) (c:=ck x lev p.1) (l:=l) (p:=p);have g:=lC (x:=x) (lev:=lev) (c:=ck x lev p.1) (l:=l') (p:=p);rw[e]at d;constructor
 ·intro f;exact(g.1 (d.2 ⟨f,rfl⟩)).1
 ·intro f;exact(d.1 (g.2 ⟨f,rfl⟩)).1
theorem D9{q e:List Pr}(g:qi q=qi e)(f:mR q=mR e):q=e:=by
 match q,e with
 | [],[]=>rfl
 | [a],[b]=>simp[qi]at g;rw[g]
 | [],[b]=>simp[qi]at g
 | [a],[]=>simp[qi]at g
 | [],b::c::e=>simp[mR]at f
 | [a],b::c::e=>simp[mR]at f
 |b::c::e,[]=>simp[mR]at f
 |b::c::e,[a]=>simp[mR]at f
 |a::b::q,c::d::e=>simpa[mR]using f
theorem BC{f:List Pr→List UInt8}:∀{ls ls':List (List Pr)} {r r':List UInt8},ls.length=ls'.length→(∀L∈ls,∀L'∈ls',∀r r',f L++r=f L'++r'→L=L'∧r=r')→ls.flatMap f++r=ls'.flatMap f++r'→ls=ls'∧r=r'
 | [],[],_,_,_,_,h=>⟨rfl,h⟩
 | [],_::_,_,_,e,_,_=>by simp at e
 |_::_,[],_,_,e,_,_=>by simp at e
 |L::ls,L'::ls',r,r',e,hf,h=>by
  rw[aD,aD,aj,aj]at h;obtain⟨d,h⟩:=hf L (aq ..) L' (aq ..) _ _ h;obtain⟨c,h⟩:=BC (by simpa using e) (fun A g B a=>hf A (aC _ g) B (aC _ a)) h
  exact⟨by rw[d,c],h⟩
theorem xi{x:Hs}:∀(m:Nat) {l l':List Pr} {r a:List UInt8},Fit l→Fit l'→l.length≤60000→l'.length≤60000→dJ l→dJ l'→gG x m l++r=gG x m l'++a→l=l'∧r=a
 |0,l,l',r,a,hf,hf',hn,hn',_,_,h=>by
  unfold gG at h;rw[cR,cR,aj,aj]at h;obtain⟨e,h⟩:=oV (k:=2) (by omega) (by omega) (gu.inj h).2;exact sf hf hf' e h
 |m+1,l,l',r,a,hf,hf',hn,hn',hr,hr',h=>by
  unfold gG at h;simp only[cR,aj]at h;obtain⟨b1,h⟩:=oV (k:=4) (mZ _ 32) (mZ _ 32) (gu.inj h).2;obtain⟨b2,h⟩:=oV (k:=4) (mZ _ 32) (mZ _ 32) h;have bits:∀{q f:Nat→Bool},ko q 32=ko f 32→∀c,c<32→q c=f c:=fun{q f} e c hc=>by
   have:=congrArg (fun n=>n.testBit c) e
   simp only[u0,decide_eq_true hc,Bool.true_and]at this;exact this
  have b1:=bits b1;have b2:=bits b2;obtain⟨s,h⟩:=sf (fun p g=>hf p (qY g)) (fun p g=>hf' p (qY g)) (wM 32 b1) h
  obtain⟨i,h⟩:=BC (wM 32 b2) (fun L o u d r a e=>by
   obtain⟨_,c,rfl⟩:=oT o
   obtain⟨_,c',rfl⟩:=oT d
   exact xi m hf.part hf'.part (bI ta hn) (bI ta hn') (r9 hr) (r9 hr') e) h
  have t:=CW 32 b1 s;have j:=CW 32 b2 i;exact⟨FL hr hr' fun c hc=>D9 (t c hc) (j c hc),h⟩
end Go.Proofs
namespace Go.Proofs
open Go Go.Lift
def yq(lab:ByteArray)(has:Bool)(val:ByteArray)(s:SliceV)(ow:Option Addr):Array Value:= #[.string lab,.bool has,.string val,sv s,.pointer ow]
theorem vw{w:Option ByteArray}{val:ByteArray}(h:val=w.getD ⟨#[]⟩):∀v,w=some v→val=v:=fun v e=>by rw[h,e];rfl
def RxF(W:Nat→Prop)(h:ac):Fo→List (Option Addr)→Prop
 | .nil,ks=>ks= []
 | .cons lab w kids rest,ks=>∃b sl val s ow ks1 ks',ks=some ⟨b,0,none⟩::ks'∧sl.data.toList=lab∧h[b]? =some (.cells (yq sl w.isSome val s ow) bd (0,0))∧val=w.getD ⟨#[]⟩∧Sl vB 1 W h s ks1∧(s.len≤s.cap∧¬W b)∧RxF W h kids ks1∧RxF W h rest ks'
def RxN(W:Nat→Prop)(h:ac)(b:Nat)(sl:ByteArray)(w:Option ByteArray)(F:Fo):Prop:=∃val s ow ks,h[b]? =some (.cells (yq sl w.isSome val s ow) bd (0,0))∧val=w.getD ⟨#[]⟩∧Sl vB 1 W h s ks∧(s.len≤s.cap∧¬W b)∧RxF W h F ks
def Kid(W:Nat→Prop)(h:ac)(k:Option Addr)(n:Bn):Prop:=∃b sl,k=some ⟨b,0,none⟩∧sl.data.toList=n.1∧RxN W h b sl n.2.1 n.2.2
def RxL(W:Nat→Prop)(h:ac)(ks:List (Option Addr))(L:List Bn):Prop:=ks.length=L.length∧∀p∈ks.zip L,Kid W h p.1 p.2
theorem ns{W:Nat→Prop}{h:ac}:∀{F:Fo} {ks:List (Option Addr)},RxF W h F ks↔RxL W h ks F.toL
 | .nil,ks=>by
  unfold RxF RxL;simp[Fo.toL]
 | .cons lab w kids rest,ks=>by
  unfold RxF RxL;rw[Fo.toL_cons];constructor
  ·rintro⟨b,sl,val,s,ow,c,d,rfl,o,f,i,g,j,n,t⟩
   obtain⟨v,u⟩:=ns.1 t;refine⟨by simp[v],fun p a=>?_⟩
   rw[List.zip_cons_cons]at a;rcases ao.1 a with rfl|a
   ·exact⟨b,sl,rfl,o,val,s,ow,c,f,i,g,j,n⟩
   ·exact u p a
  ·cases ks with
   |nil=>rintro⟨e,_⟩;simp at e
   |cons k d=>
    rintro⟨e,a⟩;rw[List.zip_cons_cons]at a;obtain⟨b,sl,q,o,val,s,ow,c,f,i,g,j,n⟩:=a _ (aq ..);refine⟨b,sl,val,s,ow,c,d,by rw[←q],o,f,i,g,j,n,ns.2 ⟨by simpa using e,fun p m=>a p (aC _ m)⟩⟩
theorem RxF.upd0{W:Nat→Prop}{h h':ac}(k:Upd No h h'):∀{F:Fo} {ks:List (Option Addr)},RxF W h F ks→RxF W h' F ks
 | .nil,_,r=>r
 | .cons _ _ _ _,_,⟨b,sl,val,s,ow,ks1,ks',e0,e1,e2,e3,e4,e5,e6,e7⟩=>⟨b,sl,val,s,ow,ks1,ks',e0,e1,k.get0 e2,e3,e4.upd k fun _ h=>h.elim,e5,RxF.upd0 k e6,RxF.upd0 k e7⟩
theorem RxN.upd0{W:Nat→Prop}{h h':ac}(k:Upd No h h'){b:Nat}{sl:ByteArray}{w:Option ByteArray}{F:Fo}:RxN W h b sl w F→RxN W h' b sl w F
 |⟨val,s,ow,ks,e2,e3,e4,e5,e6⟩=>⟨val,s,ow,ks,k.get0 e2,e3,e4.upd k fun _ h=>h.elim,e5,RxF.upd0 k e6⟩
theorem Kid.upd0{W:Nat→Prop}{h h':ac}(k:Upd No h h'){a:Option Addr}{n:Bn}:Kid W h a n→Kid W h' a n
 |⟨b,sl,e1,e2,e3⟩=>⟨b,sl,e1,e2,e3.upd0 k⟩
theorem RxF.less{W W':Nat→Prop}{h:ac}(hm:∀b,W' b→W b∨h.size≤b):∀{F:Fo} {ks:List (Option Addr)},RxF W h F ks→RxF W' h F ks
 | .nil,_,r=>r
 | .cons _ _ _ _,_,⟨b,sl,val,s,ow,ks1,ks',e0,e1,e2,e3,e4,e5,e6,e7⟩=>⟨b,sl,val,s,ow,ks1,ks',e0,e1,e2,e3,e4.less hm,⟨e5.1,fun hx=>(hm _ hx).elim e5.2 fun h=>by have:=bG e2;omega⟩,RxF.less hm e6,RxF.less hm e7⟩
theorem RxN.less{W W':Nat→Prop}{h:ac}(hm:∀b,W' b→W b∨h.size≤b){b:Nat}{sl:ByteArray}{w:Option ByteArray}{F:Fo}:RxN W h b sl w F→RxN W' h b sl w F
 |⟨val,s,ow,ks,e2,e3,e4,e5,e6⟩=>⟨val,s,ow,ks,e2,e3,e4.less hm,⟨e5.1,fun hx=>(hm _ hx).elim e5.2 fun h=>by have:=bG e2;omega⟩,RxF.less hm e6⟩
theorem RxF.updM{W M:Nat→Prop}{h h':ac}(k:Upd M h h')(hm:∀b,M b→W b∨h.size≤b):∀{F:Fo} {ks:List (Option Addr)},RxF W h F ks→RxF W h' F ks
 | .nil,_,r=>r
 | .cons _ _ _ _,_,⟨b,sl,val,s,ow,ks1,ks',e0,e1,e2,e3,e4,e5,e6,e7⟩=>⟨b,sl,val,s,ow,ks1,ks',e0,e1,k.get e2 (fun hx=>(hm _ hx).elim e5.2 fun h=>by have:=bG e2;omega),e3,e4.upd k hm,e5,RxF.updM k hm e6,RxF.updM k hm e7⟩
theorem RxN.updM{W M:Nat→Prop}{h h':ac}(k:Upd M h h')(hm:∀b,M b→W b∨h.size≤b){b:Nat}{sl:ByteArray}{w:Option ByteArray}{F:Fo}:RxN W h b sl w F→RxN W h' b sl w F
 |⟨val,s,ow,ks,e2,e3,e4,e5,e6⟩=>⟨val,s,ow,ks,k.get e2 (fun hx=>(hm _ hx).elim e5.2 fun h=>by have:=bG e2;omega),e3,e4.upd k hm,e5,RxF.updM k hm e6⟩
theorem RxL.upd0{W:Nat→Prop}{h h':ac}(k:Upd No h h'){ks:List (Option Addr)}{L:List Bn}(r:RxL W h ks L):RxL W h' ks L:=⟨r.1,fun p a=>(r.2 p a).upd0 k⟩
theorem RxL.app{W:Nat→Prop}{h:ac}{ks c:List (Option Addr)}{L d:List Bn}(r:RxL W h ks L)(e:RxL W h c d):RxL W h (ks++c) (L++d):=by
 refine⟨by rw[ae,ae,r.1,e.1],fun p a=>?_⟩
 rw[List.zip_append r.1]at a;rcases List.mem_append.1 a with a|a
 ·exact r.2 p a
 ·exact e.2 p a
theorem RxL.one{W:Nat→Prop}{h:ac}{k:Option Addr}{n:Bn}(c:Kid W h k n):RxL W h [k] [n]:=⟨rfl,fun p a=>by rw[List.zip_cons_cons,List.zip_nil_left]at a;rw[ay.1 a];exact c⟩
theorem RxL.take{W:Nat→Prop}{h:ac}{ks:List (Option Addr)}{L:List Bn}(r:RxL W h ks L)(i:Nat):RxL W h (ks.take i) (L.take i):=by
 refine⟨by rw[aY,aY,r.1],fun p a=>r.2 p ?_⟩
 have:(ks.take i).zip (L.take i)=(ks.zip L).take i:=by rw[jo,jo,List.take_zipWith]
 rw[this]at a;exact List.mem_of_mem_take a
theorem RxL.drop{W:Nat→Prop}{h:ac}{ks:List (Option Addr)}{L:List Bn}(r:RxL W h ks L)(i:Nat):RxL W h (ks.drop i) (L.drop i):=by
 refine⟨by rw[aH,aH,r.1],fun p a=>r.2 p ?_⟩
 have:(ks.drop i).zip (L.drop i)=(ks.zip L).drop i:=by rw[jo,jo,List.drop_zipWith]
 rw[this]at a;exact List.mem_of_mem_drop a
theorem RxL.ins{W:Nat→Prop}{h:ac}{ks:List (Option Addr)}{L:List Bn}(r:RxL W h ks L)(i:Nat){k:Option Addr}{n:Bn}(c:Kid W h k n):RxL W h (ks.take i++k::ks.drop i) (L.take i++n::L.drop i):=by
 have:=(r.take i).app ((RxL.one c).app (r.drop i));exact this
theorem RxL.set{W:Nat→Prop}{h:ac}{ks:List (Option Addr)}{L:List Bn}(r:RxL W h ks L){i:Nat}(hi:i<L.length){k:Option Addr}{n:Bn}(c:Kid W h k n):RxL W h (ks.set i k) (L.set i n):=by
 have:=(r.take i).app ((RxL.one c).app (r.drop (i+1)));rw[dM,dM,if_pos (by rw[r.1];exact hi),if_pos hi];exact this
theorem RxL.at{W:Nat→Prop}{h:ac}{ks:List (Option Addr)}{L:List Bn}(r:RxL W h ks L){i:Nat}(hi:i<L.length):∃b sl,ks[i]? =some (some ⟨b,0,none⟩)∧sl.data.toList=L[i].1∧RxN W h b sl L[i].2.1 L[i].2.2:=by
 have e:i<ks.length:=by rw[r.1];exact hi
 have d:i<(ks.zip L).length:=by rw[List.length_zip];omega
 have:=r.2 _ (bK d);rw[List.getElem_zip]at this;obtain⟨b,sl,f,a,c⟩:=this;exact⟨b,sl,by rw[au e];exact congrArg some f,a,c⟩
theorem yU:∀{L:List Bn} {c:Nat},L.Pairwise (fun m n=>hd m.1<hd n.1)→(∀n∈L,c≤hd n.1)→L= []∨c+L.length≤256
 | [],_,_,_=>.inl rfl
 |n::L,c,a,hc=>by
  have a:=bf.1 a;have d:=hc n (aq ..);have f:=HW n.1;rcases yU (c:=hd n.1+1) a.2 fun m hm=>a.1 m hm with e|e
  ·rw[e];right;simp only[aN];omega
  ·right;rw[aI];omega
theorem pE{F:Fo}(h:ff F):F.toL.length≤256:=by
 rcases yU (c:=0) (eX.1 h).1 fun _ _=>bB _ with e|e
 ·rw[e];simp
 ·omega
theorem eN{h:ac}{b i:Nat}{c:Array Value}(a:h[b]? =some (.cells c bd (0,0))):bc h (adr ⟨b,0,none⟩ i)=c[i]?:=by rw[bp,aw];exact aE a
theorem Ii{h:ac}{b i:Nat}{c:Array Value}(a:h[b]? =some (.cells c bd (0,0))) (hi:i<c.size):Wr h (adr ⟨b,0,none⟩ i):=by rw[bp,aw];exact ge a hi
theorem Ci{h:ac}{b i:Nat}{c c':Array Value}{v:Value}{k:ac→Prop}(f:h[b]? =some (.cells c bd (0,0))) (e:c.setIfInBounds i v=c') (g:∀h',h'[b]? =some (.cells c' bd (0,0))→Upd (· =b) h h'→k h'):At (hset h (adr ⟨b,0,none⟩ i) v) k:=by
 rw[bp,aw];exact u4 f fun h' a d=>g h' (e▸a) d
theorem Iy(s:ByteArray)(i:Nat):s[i]? =s.data.toList[i]?:=by
 rw[Array.getElem?_toList];by_cases h:i<s.size
 ·rw[getElem?_pos s i h,getElem?_pos s.data i h];rfl
 ·rw[getElem?_neg s i h,getElem?_neg s.data i h]
theorem F1{s:ByteArray}(a:s.data.toList≠[]):∃c:UInt8,s[0]? =some c∧c.toNat=hd s.data.toList:=by
 rw[Iy];match s.data.toList,a with
 |c::l,_=>exact⟨c,rfl,rfl⟩
theorem Ee{W:Nat→Prop}{h:ac}{b:Nat}{sl:ByteArray}{w:Option ByteArray}{F:Fo}(r:RxN W h b sl w F)(hc:ff F){c:Nat}(hc8:c<256){K:Int×Bool→ac→Prop}
  (E:∀i ok,i≤F.toL.length→(∀j (p:j<F.toL.length),j<i→hd F.toL[j].1<c)→(∀j (p:j<F.toL.length),i≤j→c≤hd F.toL[j].1)→(ok=true↔∃hi:i<F.toL.length,hd F.toL[i].1=c)→K ((i:Int),ok) h):HC PG ke [.pointer (some ⟨b,0,none⟩),.int .u8 c] [.c (.int .i64),.c .bool] K h:=by
 refine tR _ c ?_;unfold nY co;obtain⟨val,s,ow,ks,hb,_,V,hcap,hF⟩:=r;refine⟨_,rfl,s,eN (i:=3) hb,?_⟩;have P:=ns.1 hF;have d:=eX.1 hc;have hn:=pE hc;have y:=V.len;rw[P.1]at y;generalize hLe:F.toL=L at P d hn y E;refine ey s c _ ?_;unfold cG bA fc CI B6
 have C:∀{i:Nat} (hi:i<L.length) {K:Int→ac→Prop},K ((hd L[i].1:Int)-(c:Int)) h→∃a,s.a=some a∧∃v,bc h (adr a (i*1))=some (.pointer v)∧HV PG (.func (.func jj) #[] #[]) [.pointer v,.int .u8 c] [.c (.int .i64)] K h:=by
  intro i hi K E;obtain⟨kb,D,S,G,Q⟩:=P.at hi;obtain⟨a,ha,_,hv⟩:=V.at0 S;refine⟨a,ha,_,hv,HV.mk' (rt (some ⟨kb,0,none⟩) c ?_)⟩;unfold mq eH;obtain⟨kval,kss,kow,kks,R,_⟩:=Q;have H:D.data.toList≠[]:=by rw[G];exact(d.2 _ (bK hi)).1
  obtain⟨u,hu,O⟩:=F1 H;refine⟨_,rfl,D,eN (i:=0) R,u,Int.le_refl _,hu,?_⟩;simp only[Bd];have e:=HW L[i].1;rw[O,G,pL (x:=(hd L[i].1:Int)) (by omega),pL (x:=(c:Int)) (by omega),pL (by omega)];exact E
 have mono:∀i j (hi:i<L.length) (p:j<L.length),i<j→hd L[i].1<hd L[j].1:=fun i j hi p f=>List.pairwise_iff_getElem.1 d.1 i j hi p f
 refine LoopP.ghost (fun(g:Nat×Nat) (t:Int×Int) h'=>t.1=(g.1:Int)∧t.2=(g.2:Int)∧g.1≤g.2∧g.2≤L.length∧h'=h∧(∀j (p:j<L.length),j<g.1→hd L[j].1<c)∧(∀j (p:j<L.length),g.2≤j→c≤hd L[j].1)) (fun g=>g.2-g.1) (0,L.length)
  ⟨rfl,by simp only;omega,by simp,by simp,rfl,fun j p h=>by omega,fun j p h=>by simp only at h;omega⟩ ?_
 rintro I ⟨i,j⟩ ⟨ti,tj⟩ h' ⟨Y,X,f,k,rfl,n,o⟩ Z;simp only at Y X f k n o;subst Y X;refine aU (fun e=>?_) fun J=>?_
 ·have e:i<j:=by have:(i:Int)<(j:Int):=e;omega
  have em:IntKind.wrap .i64 (Int.fdiv (IntKind.wrap .u64 (IntKind.wrap .i64 ((i:Int)+(j:Int)))) (2^(min (1:Int).toNat (IntKind.bits .u64))))=(((i+j)/2:Nat):Int):=by
   have e3:(2^(min (1:Int).toNat (IntKind.bits .u64)):Int)=2:=rfl;rw[e3,pL (x:=(i:Int)+(j:Int)) (by omega),Go.IntWalk.u64_in _ (by omega),Int.fdiv_eq_ediv_of_nonneg _ (by omega),pL (by omega)];omega
  refine⟨by decide,?_⟩;simp only[Bd];rw[em];generalize hm:(i+j)/2=m;have z:m<L.length:=by omega
  refine⟨by omega,?_⟩;refine C z ?_;refine aU (fun hneg=>?_) fun U=>?_
  ·refine Z (m+1,j) _ _ ⟨by simp only;rw[pL (by omega)];omega,rfl,by simp only;omega,k,rfl,fun q N A=>?_,o⟩ (by simp only;omega)
   simp only at A;rcases cj q m with h|h
   ·have:=mono q m N z h;omega
   ·have:q=m:=by omega
    subst this;omega
  ·refine Z (i,m) _ _ ⟨rfl,rfl,by simp only;omega,by simp only;omega,rfl,n,fun q N A=>?_⟩ (by simp only;omega)
   simp only at A;rcases cj m q with h|h
   ·have:=mono m q z N h;omega
   ·have:q=m:=by omega
    subst this;omega
 ·have f:i=j:=by have:¬(i:Int)<(j:Int):=J;omega
  subst f;refine aU (fun e=>?_) fun T=>?_
  ·have B:i<L.length:=by have:(i:Int)<(s.len:Int):=e;omega
   refine⟨by simp only;omega,?_⟩;refine C B ?_;refine E i _ k n o ?_;rw[beq_iff_eq];exact⟨fun h=>⟨B,by omega⟩,fun⟨_,h⟩=>by omega⟩
  ·have B:i=L.length:=by have:¬(i:Int)<(s.len:Int):=T;omega
   exact E i false k n o ⟨fun h=>(by cases h),fun h=>(by obtain⟨h,_⟩:=h;omega)⟩
end Go.Proofs
