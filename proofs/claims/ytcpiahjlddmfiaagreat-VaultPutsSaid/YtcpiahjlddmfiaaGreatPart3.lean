/- A part of the proof that the named laws of this program answer true, whatever the input. -/
import Derived.Test.YtcpiahjlddmfiaaGreatPart2
open Bool renaming eq_iff_iff→eV
open ByteArray renaming mk→od
open Int renaming toNat_natCast→aF
open List renaming pairwise_cons→bd,mem_cons→aq,any_eq_true→bS,length_filter_le→dq,length_cons→aN,mem_singleton→aB,flatMap_cons→aK,map_cons→bT,length_singleton→aD,range→eX,range_succ→jS,map_append→eU,length_append→ae,append_assoc→ao,flatMap_append→bA,take_of_length_le→bh,mem_cons_self→au,mem_cons_of_mem→aG,take_succ_eq_append_getElem→ax,flatMap_nil→jh,append_nil→bI,getElem?_eq_getElem→al,getElem_mem→aU,mem_of_mem_take→lh,length_take→aJ,sum_append→mA,sum_cons→tC,flatten_append→eD,flatten_cons→fx,length_nil→cc,cons_append→cM,append_inj→qm,cons→fj,zip_cons_cons→ib,zip_eq_zipWith→lZ,length_drop→aI,set_eq_take_append_cons_drop→dN
open Nat renaming zero_le→aP,lt_of_lt_of_le→aO,zero_add→aA,le_trans→aW,le_refl→aj,min_eq_left→bf,lt_or_ge→bV,mul_le_mul_right→bP,pow_succ→nY,testBit_lt_two_pow→gP,pow_le_pow_right→fh,add_zero→df,add_mul→iT,mul_le_mul_left→fA,not_lt_zero→iE,shiftRight_eq_div_pow→cr,mod_eq_of_lt→cW
open UInt8 renaming ofNat→dW
namespace Go.Proofs
open Go.Lift
noncomputable instance memDec (p:Pr) (l:List Pr):Decidable (p∈l):=Classical.propDecidable _
theorem JR{l:List Pr}(a:dL l){k v w:ByteArray}(b:(k,v)∈l)(c:(k,w)∈l):v=w:=by
 induction l with
 |nil=>cases b
 |cons q l ih=>
  have a:=bd.1 a;rcases aq.1 b with e|b<;>rcases aq.1 c with d|c
  ·exact(Prod.mk.inj (e.trans d.symm)).2
  ·have:=a.1 _ c;rw[←e]at this;exact absurd this (dj _)
  ·have:=a.1 _ b;rw[←d]at this;exact absurd this (dj _)
  ·exact ih a.2 b c
theorem py{x:Hs}{lev c:Nat}{l:List Pr}{p:Pr}:p∈part x lev c l↔p∈l∧ck x lev p.1=c:=by unfold part;rw[List.mem_filter,decide_eq_true_iff]
theorem JD{x:Hs}{lev:Nat}{l:List Pr}{k:ByteArray}:eK (part x lev (ck x lev k) l) k=eK l k:=by
 unfold eK;rw[eV,bS,bS];constructor
 ·rintro⟨p,a,e⟩;exact⟨p,(py.1 a).1,e⟩
 ·rintro⟨p,a,e⟩;exact⟨p,py.2 ⟨a,by rw[of_decide_eq_true e]⟩,e⟩
theorem x7{x:Hs}{lev c:Nat}{l:List Pr}(a:dL l):dL (part x lev c l):=a.sublist List.filter_sublist
theorem pv{x:Hs}{lev c:Nat}{l:List Pr}:(part x lev c l).length≤l.length:=dq ..
def SlotIs(W:Nat→Prop)(x:Hs)(h:ac)(m:Nat)(s:Slots)(c:Nat)(l:List Pr):Prop:=
 (l= []∧s.p c=none∧s.k c=none)∨(∃p,l= [p]∧s.p c=some p∧s.k c=none)∨(2≤l.length∧s.p c=none∧∃kb,s.k c=some (some ⟨kb,0,none⟩)∧TrieAt W x h m kb l)
theorem SlotIs.upd0{W:Nat→Prop}{x:Hs}{h h':ac}{m:Nat}{s:Slots}{c:Nat}{l:List Pr}(k:Upd No h h')(t:SlotIs W x h m s c l):SlotIs W x h' m s c l:=t.imp id fun o=>o.imp id fun⟨e,b,a,f,d⟩=>⟨e,b,a,f,TrieAt.upd0 k d⟩
theorem Ik(p:Pr):∀{l:List Pr},l.length≤(ij p l).length
 | []=>aP _
 |q::l=>by
  rw[gi];split
  ·have:=Ik p (l:=l);simp only[aN];omega
  ·split<;>simp
theorem MR{W:Nat→Prop}{x:Hs}{h h':ac}{m b':Nat}{s s':Slots}{l:List Pr}{p:Pr}(d:dL l)(f:Upd No h h')(nd:NodeAt W h' b' s')(b:∀c,c<32→SlotIs W x h m s c (part x (12-m) c l))
  (i:∀c,c≠ck x (12-m) p.1→s'.p c=s.p c∧s'.k c=s.k c)(hi:SlotIs W x h' m s' (ck x (12-m) p.1) (ij p (part x (12-m) (ck x (12-m) p.1) l))):TrieAt W x h' (m+1) b' (ij p l):=by
 refine⟨s',nd,fun c hc=>?_⟩
 rw[H6 d];by_cases e:ck x (12-m) p.1=c
 ·rw[if_pos e];subst e;exact hi
 ·rw[if_neg e]
  have t:=SlotIs.upd0 f (b c hc);obtain⟨g,a⟩:=i c fun h=>e h.symm
  unfold SlotIs at t;rw[←g,←a]at t;exact t
theorem mc{a b:ByteArray}:(a.toList==b.toList)=decide (a=b):=by
 rw[eV,beq_iff_eq,decide_eq_true_iff,A2]
theorem SI{W:Nat→Prop}{x:Hs}:∀(m:Nat),m≤13→∀{b:Nat} {l:List Pr} (p:Pr) {h:ac},TrieAt W x h m b l→(∀y,W y→y<h.size)→dL l→l.length≤1000000→∀{K:(Option Addr)×Bool×Bool→ac→Prop},
  (∀h' b' ch,Upd No h h'→TrieAt W x h' m b' (ij p l)→(ch=false→b'=b)→ch= !decide (p∈l)→K (some ⟨b',0,none⟩, !eK l p.1,ch) h')→
  HC PG gX [RR x p.1,.pointer (some ⟨b,0,none⟩),.agg #[.string p.1,.string p.2],.int .i64 ((13-m:Nat):Int)] [.c .ptr,.c .bool,.c .bool] K h:=by
 intro m;induction m with
 |zero=>
  intro _ b l p h t hW T hn K I;have V:∀{h'},Upd No h h'→∀y,W y→y<h'.size:=fun k y hy=>aO (hW y hy) k.size
  refine tV (x.k0,x.k1,x.mask,none,p.1,im x p.1) (some ⟨b,0,none⟩) p ((13-0:Nat):Int) ?_;unfold oW ad ag nv vA rQ aC BB EB qT p6 Ng om Hy;have k1:=Upd.hnew No h [.int .u64 x.k0,.int .u64 x.k1,.int .u64 x.mask,.pointer none,.string p.1,.int .u64 (im x p.1)] cu;have b1:=bG h [.int .u64 x.k0,.int .u64 x.k1,.int .u64 x.mask,.pointer none,.string p.1,.int .u64 (im x p.1)] cu
  refine bq ?_;simp only[bZ h];generalize hnew h [.int .u64 x.k0,.int .u64 x.k1,.int .u64 x.mask,.pointer none,.string p.1,.int .u64 (im x p.1)] cu=B at k1 b1;have Y:=Upd.hnew No B [.string p.1,.string p.2] ar;have b2:=bG B [.string p.1,.string p.2] ar;refine bq ?_;simp only[bZ B];generalize hnew B [.string p.1,.string p.2] ar=f at Y b2
  have u:∀{h':ac},Upd No f h'→∀i,aX h' (adr ⟨h.size,0,none⟩ i)=(#[.int .u64 x.k0,.int .u64 x.k1,.int .u64 x.mask,.pointer none,.string p.1,.int .u64 (im x p.1)]:Array Value)[i]?:=fun k i=>by
   rw[bB,aL (k.get0 (Y.get0 b1)),aA]
  have A:∀{h':ac},Upd No f h'→∀i,aX h' (adr ⟨B.size,0,none⟩ i)=(#[.string p.1,.string p.2]:Array Value)[i]?:=fun k i=>by rw[bB,aL (k.get0 b2),aA]
  have r:=Upd.refl No f;have d:=k1.tr Y;have bk:BuckAt W f b l:=BuckAt.upd t d fun _ h=>h.elim
  obtain⟨sp,sk,ow,hb,_⟩:=bk.ex;refine pA hb (ay.2 ⟨_,A r 0,TW bk T (by omega) p.1 fun L v H hv=>?_⟩)
  have put:∀(X:p∉l) {h4:ac},Upd No f h4→HC PG iB [.pointer (some ⟨b,0,none⟩),.pointer none,.agg #[.string p.1,.string p.2]] [.c .ptr] (fun(e15:Option Addr) h16=>K (e15, !eK l p.1,true) h16) h4:=fun X h4 o=>
   G0 (bk.upd o fun _ h=>h.elim) (V (d.tr o)) T (by omega) p fun h5 b5 bk5 hu5=>by
    rw[CA p T]at bk5;exact I h5 b5 true ((d.tr o).tr hu5) bk5 (fun h=>by cases h) (by rw[decide_eq_false X];rfl)
  refine Join.intro (fun t' h'=>t'=decide (p∈l)∧Upd No f h') (fun R hR=>?_) ?_
  ·cases F:eK l p.1 with
   |false=>
    refine ah.2 (hR _ _ ⟨?_,H⟩);refine(decide_eq_false fun hm=>?_).symm
    have:eK l p.1=true:=bS.2 ⟨p,hm,decide_eq_true rfl⟩;rw[F]at this;cases this
   |true=>
    have hv:=hv F;refine ay.2 ⟨_,A H 1,hR _ _ ⟨?_,H⟩⟩;rw[mc,decide_eq_decide];constructor
    ·intro e
     have e:v=p.2:=e;rw[e]at hv;exact hv
    ·intro hm
     exact JR T hv (show(p.1,p.2)∈l from hm)
  ·rintro t' h4 ⟨rfl,o⟩
   by_cases hm:p∈l
   ·rw[decide_eq_true hm]
    refine ay.2 ?_;have F:eK l p.1=true:=bS.2 ⟨p,hm,decide_eq_true rfl⟩;have:=I h4 b false (d.tr o) (by rw[Cz T hm];exact bk.upd o fun _ h=>h.elim) (fun _=>rfl) (by rw[decide_eq_true hm];rfl)
    rw[F]at this;exact this
   ·rw[decide_eq_false hm]
    refine ah.2 ⟨none,u o 3,_,A o 0,_,A o 1,put hm o⟩
 |succ m ih=>
  intro hm b l p h t hW T hn K I;have V:∀{h'},Upd No h h'→∀y,W y→y<h'.size:=fun k y hy=>aO (hW y hy) k.size
  have hl:13-(m+1)<13:=by omega
  have hlev:13-(m+1)=12-m:=by omega
  refine tV (x.k0,x.k1,x.mask,none,p.1,im x p.1) (some ⟨b,0,none⟩) p ((13-(m+1):Nat):Int) ?_;unfold oW ad ag nv vA rQ aC BB EB qT p6 Ng om Hy;have k1:=Upd.hnew No h [.int .u64 x.k0,.int .u64 x.k1,.int .u64 x.mask,.pointer none,.string p.1,.int .u64 (im x p.1)] cu;have b1:=bG h [.int .u64 x.k0,.int .u64 x.k1,.int .u64 x.mask,.pointer none,.string p.1,.int .u64 (im x p.1)] cu
  refine bq ?_;simp only[bZ h];generalize hnew h [.int .u64 x.k0,.int .u64 x.k1,.int .u64 x.mask,.pointer none,.string p.1,.int .u64 (im x p.1)] cu=B at k1 b1;have Y:=Upd.hnew No B [.string p.1,.string p.2] ar;have b2:=bG B [.string p.1,.string p.2] ar;refine bq ?_;simp only[bZ B];generalize hnew B [.string p.1,.string p.2] ar=f at Y b2
  have u:∀{h':ac},Upd No f h'→∀i,aX h' (adr ⟨h.size,0,none⟩ i)=(#[.int .u64 x.k0,.int .u64 x.k1,.int .u64 x.mask,.pointer none,.string p.1,.int .u64 (im x p.1)]:Array Value)[i]?:=fun k i=>by
   rw[bB,aL (k.get0 (Y.get0 b1)),aA]
  have A:∀{h':ac},Upd No f h'→∀i,aX h' (adr ⟨B.size,0,none⟩ i)=(#[.string p.1,.string p.2]:Array Value)[i]?:=fun k i=>by rw[bB,aL (k.get0 b2),aA]
  have r:=Upd.refl No f;have d:=k1.tr Y;obtain⟨s,nd0,hs0⟩:=TrieAt.upd0 d t;have hs:∀c,c<32→SlotIs W x f m s c (part x (12-m) c l):=hs0;have tt:∀{h':ac},Upd No f h'→TrieAt W x h' (m+1) b l:=fun k=>TrieAt.upd0 (d.tr k) t
  obtain⟨d0,n0,sp0,sk0,ow0,hb0,_⟩:=nd0.ex;refine pA hb0 (ah.2 ⟨_,u r 5,SZ hl ?_⟩);rw[hlev];have hi:=IH x (12-m) p.1;have Q:=hs _ hi;have hrp:=x7 (x:=x) (lev:=12-m) (c:=ck x (12-m) p.1) T;have Z:(part x (12-m) (ck x (12-m) p.1) l).length≤1000000:=aW pv hn;have N:p∈part x (12-m) (ck x (12-m) p.1) l↔p∈l:=by rw[py];exact⟨fun h=>h.1,fun h=>⟨h,rfl⟩⟩
  have P:=JD (x:=x) (lev:=12-m) (l:=l) (k:=p.1);have j:=fun{h':ac} {b':Nat} {s':Slots}=>MR (W:=W) (x:=x) (h:=f) (h':=h') (m:=m) (b':=b') (s:=s) (s':=s') (l:=l) (p:=p) T
  generalize hc:ck x (12-m) p.1=c at hi Q hrp Z N P j;generalize hlp:part x (12-m) c l=lc at Q hrp Z N P j;refine Pk nd0 hi fun L H=>?_
  have k4:=Upd.hnew No L [.string (⟨#[]⟩:ByteArray),.string (⟨#[]⟩:ByteArray)] ar;have b4:=bG L [.string (⟨#[]⟩:ByteArray),.string (⟨#[]⟩:ByteArray)] ar;refine bq ?_;simp only[bZ L];generalize hnew L [.string (⟨#[]⟩:ByteArray),.string (⟨#[]⟩:ByteArray)] ar=h4 at k4 b4;have b4':h4[L.size]? =some (.cells #[.string Qy.1,.string Qy.2] ar (0,0)):=b4
  refine L6 (p:=Cd (s.p c)) b4' fun h5 b5 hu5=>?_
  have a:Upd No f h5:=(H.tr k4).trans hu5 fun y hy=>.inr (by have hy:y=L.size:=hy;have:=H.size;omega)
  have w5:∀{h':ac},Upd No h5 h'→∀i,aX h' (adr ⟨L.size,0,none⟩ i)=(#[.string (Cd (s.p c)).1,.string (Cd (s.p c)).2]:Array Value)[i]?:=fun k i=>by rw[bB,aL (k.get0 b5),aA]
  have r5:=Upd.refl No h5;have O:=nd0.upd a fun _ h=>h.elim
  cases hsp:s.p c with
  |some y=>
   rw[hsp]at w5;obtain⟨D,hk0⟩:lc= [y]∧s.k c=none:=by
    rcases Q with⟨_,f,_⟩|⟨q,B,f,L⟩|⟨_,f,_⟩
    ·rw[hsp]at f;cases f
    ·rw[hsp]at f;cases f;exact⟨B,L⟩
    ·rw[hsp]at f;cases f
   refine ay.2 ⟨y.1,w5 r5 0,y.2,w5 r5 1,p.1,A a 0,p.2,A a 1,?_⟩;rw[mc,mc];have hyl:y∈l:=(py.1 (show y∈part x (12-m) c l by rw[hlp,D];exact aB.2 rfl)).1
   by_cases J:y.1=p.1
   ·have F:eK l p.1=true:=bS.2 ⟨y,hyl,decide_eq_true J⟩
    rw[F]at I;by_cases e2:y.2=p.2
    ·rw[decide_eq_true J,decide_eq_true e2]
     have hyp:y=p:=Prod.ext J e2;have w:p∈l:=hyp▸hyl;refine ay.2 ?_;exact I h5 b false (d.tr a) (by rw[Cz T w];exact tt a) (fun _=>rfl) (by rw[decide_eq_true w];rfl)
    ·rw[decide_eq_true J,decide_eq_false e2]
     refine ah.2 ⟨y.1,w5 r5 0,p.1,A a 0,?_⟩;rw[mc,decide_eq_true J];refine ay.2 ⟨none,u a 3,p.1,A a 0,p.2,A a 1,?_⟩;refine uo O (V (d.tr a)) hi (fun _ _=>hk0) p fun h6 U nd6 g=>?_
     have S:p∉l:=fun hm=>by
      have:=N.2 hm;rw[D]at this;exact e2 (by rw[aB.1 this])
     refine I h6 U true ((d.tr a).tr g) (j (a.tr g) nd6 hs (fun c' n=>⟨ln n,ln n⟩) ?_) (fun h=>by cases h) (by rw[decide_eq_false S];rfl)
     refine .inr (.inl ⟨p,?_,kF,kF⟩);rw[D,gi,if_neg (by rw[J];exact dj _),if_pos J]
   ·rw[decide_eq_false J]
    refine ah.2 ⟨y.1,w5 r5 0,p.1,A a 0,?_⟩;rw[mc,decide_eq_false J];refine ah.2 ⟨none,u a 3,_,u a 0,_,u a 1,_,u a 2,_,u a 3,_,u a 4,_,u a 5,y.1,w5 r5 0,y.2,w5 r5 1,p.1,A a 0,p.2,A a 1,?_⟩;have ew:IntKind.wrap .i64 (((12-m:Nat):Int)+1)=((13-m:Nat):Int):=by rw[kE (by omega)];omega
    rw[ew];refine RL m y p (by omega) J (V (d.tr a)) fun h6 U t6 g=>⟨u (a.tr g) 3,?_⟩
    refine Az (O.upd g fun _ h=>h.elim) (V ((d.tr a).tr g)) hi (fun z hz=>by rw[hk0]at hz;cases hz) ⟨U,0,none⟩ fun h7 b7 nd7 E=>?_
    have F:eK l p.1=false:=by
     rw[←P,D];unfold eK;rw[List.any_cons,decide_eq_false J];rfl
    have S:p∉l:=fun hm=>by
     have:eK l p.1=true:=bS.2 ⟨p,hm,decide_eq_true rfl⟩;rw[F]at this;cases this
    rw[F]at I;refine I h7 b7 true (((d.tr a).tr g).tr E) (j ((a.tr g).tr E) nd7 hs (fun c' n=>⟨ln n,ln n⟩) ?_) (fun h=>by cases h) (by rw[decide_eq_false S];rfl)
    rw[D];exact .inr (.inr ⟨by rw[LR J];omega,kF,U,kF,TrieAt.upd0 E t6⟩)
  |none=>
   refine ah.2 (Ri O hi ?_);cases hsk:s.k c with
   |none=>
    have hlc:lc= []:=by
     rcases Q with⟨B,_⟩|⟨q,_,f,_⟩|⟨_,_,kb,f,_⟩
     ·exact B
     ·rw[hsp]at f;cases f
     ·rw[hsk]at f;cases f
    refine ay.2 ⟨none,u a 3,p.1,A a 0,p.2,A a 1,?_⟩;refine uo O (V (d.tr a)) hi (fun _ _=>hsk) p fun h6 U nd6 g=>?_
    have F:eK l p.1=false:=by rw[←P,hlc];rfl
    have S:p∉l:=fun hm=>by
     have:eK l p.1=true:=bS.2 ⟨p,hm,decide_eq_true rfl⟩;rw[F]at this;cases this
    rw[F]at I;refine I h6 U true ((d.tr a).tr g) (j (a.tr g) nd6 hs (fun c' n=>⟨ln n,ln n⟩) ?_) (fun h=>by cases h) (by rw[decide_eq_false S];rfl)
    rw[hlc];exact .inr (.inl ⟨p,rfl,kF,kF⟩)
   |some kp=>
    obtain⟨h2l,kb,rfl,tk⟩:2≤lc.length∧∃kb,kp=some ⟨kb,0,none⟩∧TrieAt W x f m kb lc:=by
     rcases Q with⟨_,_,f⟩|⟨q,_,f,_⟩|⟨B,_,kb,f,L⟩
     ·rw[hsk]at f;cases f
     ·rw[hsp]at f;cases f
     ·rw[hsk]at f;cases f;exact⟨B,kb,rfl,L⟩
    refine ah.2 ⟨_,u a 0,_,u a 1,_,u a 2,_,u a 3,_,u a 4,_,u a 5,p.1,A a 0,p.2,A a 1,?_⟩;have ew:IntKind.wrap .i64 (((12-m:Nat):Int)+1)=((13-m:Nat):Int):=by rw[kE (by omega)];omega
    rw[ew];refine ih (by omega) p (TrieAt.upd0 a tk) (V (d.tr a)) hrp Z fun h6 U ch g t6 hsame G=>?_
    have C:=a.tr g;by_cases w:p∈l
    ·have G:ch=false:=by rw[G,decide_eq_true (N.2 w)];rfl
     have F:eK l p.1=true:=bS.2 ⟨p,w,decide_eq_true rfl⟩;rw[F]at I;rw[G];refine ay.2 ?_;exact I h6 b false (d.tr C) (by rw[Cz T w];exact tt C) (fun _=>rfl) (by rw[decide_eq_true w];rfl)
    ·have G:ch=true:=by rw[G,decide_eq_false fun h=>w (N.1 h)];rfl
     rw[G];refine ah.2 ⟨none,u C 3,?_⟩;refine Az (O.upd g fun _ h=>h.elim) (V ((d.tr a).tr g)) hi (fun _ _=>hsp) ⟨U,0,none⟩ fun h7 b7 nd7 E=>?_
     rw[P];refine I h7 b7 true ((d.tr C).tr E) (j (C.tr E) nd7 hs (fun c' n=>⟨ln n,ln n⟩) ?_) (fun h=>by cases h) (by rw[decide_eq_false w];rfl)
     exact .inr (.inr ⟨aW h2l (Ik p),kF,U,kF,TrieAt.upd0 E t6⟩)
end Go.Proofs
namespace Go.Proofs
open Go.Lift
theorem HB{W:Nat→Prop}{x:Hs}{h:ac}{m b:Nat}(nd:NodeAt W h b ⟨fun _=>none,fun _=>none⟩):TrieAt W x h (m+1) b []:=⟨_,nd,fun _ _=>.inl ⟨rfl,rfl,rfl⟩⟩
def RootAt(W:Nat→Prop)(x:Hs)(h:ac)(r:Option Addr)(l:List Pr):Prop:=(r=none∧l= [])∨∃b,r=some ⟨b,0,none⟩∧TrieAt W x h 13 b l
theorem RootAt.upd0{W:Nat→Prop}{x:Hs}{h h':ac}{r:Option Addr}{l:List Pr}(k:Upd No h h')(t:RootAt W x h r l):RootAt W x h' r l:=t.imp id fun⟨b,e,t⟩=>⟨b,e,TrieAt.upd0 k t⟩
theorem QR{W:Nat→Prop}{x:Hs}{h:ac}{r:Option Addr}{l:List Pr}(t:RootAt W x h r l)(d:∀y,W y→y<h.size){K:Option Addr→ac→Prop}(a:∀h' b,TrieAt W x h' 13 b l→Upd No h h'→(r=some ⟨b,0,none⟩∨r=none)→K (some ⟨b,0,none⟩) h'):HC PG nM [.pointer r] [.c .ptr] K h:=by
 refine Hg r ?_;unfold Aj;rcases t with⟨rfl,rfl⟩|⟨b,rfl,t⟩
 ·refine ay.2 (xG ?_)
  unfold tA;exact qK d fun h' b nd c=>a h' b (HB nd) c (.inr rfl)
 ·exact ah.2 (a h b t (Upd.refl _ _) (.inl rfl))
theorem cy{h:ac}{b:Nat}{t:TypeId}{c vs:List Value}(hb:h[b]? =some (.cells c.toArray t (0,0))) (a:vs.length=c.length) {k:ac→Prop}
  (d:∀h',h'[b]? =some (.cells vs.toArray t (0,0))→Upd (· =b) h h'→k h'):uj h (some ⟨b,0,none⟩) 0 vs∧At (iJ h ⟨b,0,none⟩ 0 vs) k:=by
 have e:=gj vs h 0 0 c hb (by omega);refine⟨.inr ⟨_,rfl,fun j f=>by rw[bB];exact f6 hb (by rw[List.size_toArray];omega)⟩,bq ?_⟩
 rw[e];refine d _ ?_ (Upd.set h _ rfl);rw[gg hb];congr 3
 simp[a]
set_option maxRecDepth 4000 in
theorem IJ{W:Nat→Prop}{x:Hs}{h:ac}{r:Option Addr}{l:List Pr}(t:RootAt W x h r l)(P:∀y,W y→y<h.size)(X:dL l)(V:l.length≤1000000)(p:Pr){K:Option Addr×Bool→ac→Prop}
  (U:∀h' b',Upd No h h'→TrieAt W x h' 13 b' (ij p l)→(p∈l→r=some ⟨b',0,none⟩∨r=none)→K (some ⟨b',0,none⟩, !eK l p.1) h'):
  HC PG wr [.agg #[.int .u64 x.k0,.int .u64 x.k1,.int .u64 x.mask],.pointer none,.pointer r,.agg #[.string p.1,.string p.2]] [.c .ptr,.c .bool] K h:=by
 refine Jg (x.k0,x.k1,x.mask) none r p ?_;unfold B8 ad ag eB Cv Cr rQ aC BB Se Sj EB;have k1:=Upd.hnew No h [.int .u64 x.k0,.int .u64 x.k1,.int .u64 x.mask] cq;have b1:=bG h [.int .u64 x.k0,.int .u64 x.k1,.int .u64 x.mask] cq;refine bq ?_;simp only[bZ h];generalize hnew h [.int .u64 x.k0,.int .u64 x.k1,.int .u64 x.mask] cq=h1 at k1 b1
 have N:=Upd.hnew No h1 [.string p.1,.string p.2] ar;have b2:=bG h1 [.string p.1,.string p.2] ar;refine bq ?_;simp only[bZ h1];generalize hnew h1 [.string p.1,.string p.2] ar=h2 at N b2;have e:∀{h':ac},Upd No h2 h'→∀i,aX h' (adr ⟨h.size,0,none⟩ i)=(#[.int .u64 x.k0,.int .u64 x.k1,.int .u64 x.mask]:Array Value)[i]?:=fun k i=>by
  rw[bB,aL (k.get0 (N.get0 b1)),aA]
 have n:∀{h':ac},Upd No h2 h'→∀i,aX h' (adr ⟨h1.size,0,none⟩ i)=(#[.string p.1,.string p.2]:Array Value)[i]?:=fun k i=>by rw[bB,aL (k.get0 b2),aA]
 have s:=Upd.refl No h2;have q:=k1.tr N;let D:List Value:= [.int .u64 0,.int .u64 0,.int .u64 0,.pointer none,.string (⟨#[]⟩:ByteArray),.int .u64 0]
 let E:List Value:= [.int .u64 x.k0,.int .u64 x.k1,.int .u64 x.mask,.pointer none,.string p.1,.int .u64 (im x p.1)]
 have A:∀{g:ac} {b:Nat},Upd No h2 g→g[b]? =some (.cells E.toArray cu (0,0))→
   ∃v15:Int,aX g (adr ⟨b,0,none⟩ 0)=some (.int .u64 v15)∧
    ∃v16:Int,aX g (adr ⟨b,0,none⟩ 1)=some (.int .u64 v16)∧
    ∃v17:Int,aX g (adr ⟨b,0,none⟩ 2)=some (.int .u64 v17)∧
    ∃v18:Option Addr,aX g (adr ⟨b,0,none⟩ 3)=some (.pointer v18)∧
    ∃v19:ByteArray,aX g (adr ⟨b,0,none⟩ 4)=some (.string v19)∧
    ∃v20:Int,aX g (adr ⟨b,0,none⟩ 5)=some (.int .u64 v20)∧
    ∃v21:ByteArray,aX g (adr ⟨h1.size,0,none⟩ 0)=some (.string v21)∧
    ∃v22:ByteArray,aX g (adr ⟨h1.size,0,none⟩ 1)=some (.string v22)∧
    HC PG nM [.pointer r] [.c .ptr] (fun(F:Option Addr) f=>
     ((aX f (adr ⟨h1.size,0,none⟩ 0)=some (.string v21)∧aX f (adr ⟨h1.size,0,none⟩ 1)=some (.string v22))∧
      ((aX f (adr ⟨b,0,none⟩ 0)=some (.int .u64 v15)∧aX f (adr ⟨b,0,none⟩ 1)=some (.int .u64 v16)∧aX f (adr ⟨b,0,none⟩ 2)=some (.int .u64 v17)∧aX f (adr ⟨b,0,none⟩ 3)=some (.pointer v18)∧aX f (adr ⟨b,0,none⟩ 4)=some (.string v19)∧aX f (adr ⟨b,0,none⟩ 5)=some (.int .u64 v20))∧
       HC PG gX [.agg #[.int .u64 v15,.int .u64 v16,.int .u64 v17,.pointer v18,.string v19,.int .u64 v20],.pointer F,.agg #[.string v21,.string v22],.int .i64 0] [.c .ptr,.c .bool,.c .bool] (fun(z:(Option Addr)×Bool×Bool) G=>
        K (z.1,z.2.1) G) f))) g:=fun{g b} d H=>by
  have m:∀{h':ac},Upd No g h'→∀i,aX h' (adr ⟨b,0,none⟩ i)=E.toArray[i]?:=fun k i=>by rw[bB,aL (k.get0 H),aA]
  have v:=Upd.refl No g;refine⟨_,m v 0,_,m v 1,_,m v 2,_,m v 3,_,m v 4,_,m v 5,p.1,n d 0,p.2,n d 1,?_⟩;refine QR (t.upd0 (q.tr d)) (fun y B=>aO (P y B) (q.tr d).size) fun Q I S c L=>?_
  have a:=d.tr c;refine⟨⟨n a 0,n a 1⟩,⟨m c 0,m c 1,m c 2,m c 3,m c 4,m c 5⟩,?_⟩;refine SI 13 (aj _) p S (fun y B=>aO (P y B) ((q.tr d).tr c).size) X V fun R C ch u Y T J=>?_
  refine U R C ((q.tr a).tr u) Y fun hm=>?_
  have hb:C=I:=T (by rw[J,decide_eq_true hm];rfl);rw[hb];exact L
 have own:∀{w g:ac} {b:Nat},h2.size≤b→Upd (· =b) w g→Upd No h2 w→Upd No h2 g:=fun hb Z k=>k.trans Z fun y B=>.inr (B▸hb)
 refine⟨_,e s 0,_,e s 1,_,e s 2,_,n s 0,_,e s 0,_,e s 1,_,e s 2,_,n s 0,?_,?_⟩
 ·refine GM fun w j=>⟨n j 0,⟨e j 0,e j 1,e j 2⟩,?_⟩
  have o:=Upd.hnew No w D cu;have O:=bG w D cu;have d:=j.tr o;refine bq ?_;simp only[bZ w];refine⟨n d 0,⟨e d 0,e d 1,e d 2⟩,?_⟩;refine cy (vs:=E) O rfl fun Q I c=>A (own j.size c d) I
 ·have o:=Upd.hnew No h2 D cu
  have O:=bG h2 D cu;refine bq ?_;simp only[bZ h2];refine⟨n o 0,⟨e o 0,e o 1,e o 2⟩,n o 0,⟨e o 0,e o 1,e o 2⟩,?_⟩;refine GM fun Q c=>?_
  have a:=o.tr c;refine⟨n a 0,⟨e a 0,e a 1,e a 2⟩,?_⟩;exact cy (vs:=E) (c.get0 O) rfl fun R C u=>A (own (aj _) u a) C
end Go.Proofs
namespace Go.Proofs
open Go.Lift
abbrev m8(b:UInt8):List Value:= [.int .u8 (b.toNat:Int)]
theorem rt(b:UInt8):(m8 b).length=1∧0<1:=⟨rfl,Nat.one_pos⟩
theorem y7:∀xs:List UInt8,bU (xs.flatMap m8)=true
 | []=>rfl
 |x::xs=>by rw[aK];exact lr rfl (y7 xs)
theorem pM(s:ByteArray):bv s=s.data.toList.flatMap m8:=by
 unfold bv;generalize s.data.toList=l;induction l with
 |nil=>rfl
 |cons b l ih=>rw[bT,aK,ih];rfl
theorem tS{M:Nat→Prop}{h:ac}{so:SliceV}{out:List UInt8}{v:Int}{b:UInt8}(hv:v=(b.toNat:Int)){K:SliceV→ac→Prop}(e:OwnS m8 1 bX M h so out)(hM:∀b,h.size≤b→M b)(g:out.length+1≤140737488355328)
  (c:∀s' h',OwnS m8 1 bX M h' s' (out++ [b])→Upd M h h'→K s' h'):
  ∃xs,SRow (hnew h [.int .u8 v] bX) (some (aH h)) (1*1) xs∧AppP (some [.int .u8 0]) 1 1 bX so.a so.len so.cap 1 xs (hnew h [.int .u8 v] bX) K:=by
 subst hv;have k:=Upd.hnew No h [.int .u8 (b.toNat:Int)] bX;have d:OwnS m8 1 bX (fun _=>True) (hnew h [.int .u8 (b.toNat:Int)] bX) ⟨some (aH h),1,1⟩ [b]:=⟨rfl,rt,aj _,.inr ⟨h.size,[],rfl,trivial,bG ..,rfl⟩⟩
 refine⟨_,(d.sl (W:=No) fun _ _ _ h=>h).srow,?_⟩
 refine AppP.own (ys:= [b]) (e.upd k fun _ _ h=>h) rfl rfl rfl rfl (by omega) (by simp only[aD];omega) (hM _ (by rw[eI];omega)) fun s' h' a f=>?_
 exact c s' h' a ((Upd.hnew M h _ _).tr f)
def kQ(n k:Nat):List UInt8:=(eX k).map fun i=>dW (n>>>(8*i))
theorem wT(n k:Nat):kQ n (k+1)=kQ n k++ [dW (n>>>(8*k))]:=by unfold kQ;rw[jS,eU];rfl
theorem cI(n k:Nat):(kQ n k).length=k:=by simp[kQ]
theorem Ku{M:Nat→Prop}{h:ac}{s:SliceV}{xs:List UInt8}(v:OwnS m8 1 bX M h s xs)(hM:∀b,h.size≤b→M b){n k:Nat}(w:n<18446744073709551616)(u:k≤8)(x:xs.length+k≤140737488355328){K:SliceV→ac→Prop}
  (o:∀s' h',OwnS m8 1 bX M h' s' (xs++kQ n k)→Upd M h h'→K s' h'):HC PG kW [.slice s.a s.len s.cap,.int .u64 n,.int .i64 k] [.c .slice] K h:=by
 refine BO s n k ?_;unfold wK;refine LoopP.ghost (fun(i:Nat) (t:SliceV×Int) h'=>t.2=(i:Int)∧i≤k∧OwnS m8 1 bX M h' t.1 (xs++kQ n i)∧Upd M h h') (fun i=>k-i) 0 ⟨rfl,aP _,by simpa[kQ]using v,Upd.refl _ _⟩ ?_
 rintro I i ⟨so,z⟩ h' ⟨m,hi,c,g⟩ q;simp only at m c;subst m;refine aw (fun a=>?_) fun d=>?_
 ·have a:i<k:=by have:(i:Int)<(k:Int):=a;omega
  have p:IntKind.wrap .i64 (8*(i:Int))=((8*i:Nat):Int):=by rw[kE (by omega)];omega
  have em:min (((8*i:Nat):Int)).toNat (IntKind.bits .u64)=8*i:=by rw[aF];exact bf (by show 8*i≤64;omega)
  refine Join.plain ?_;simp only[Bd];rw[p,em,kT];refine⟨by omega,bq ?_⟩;refine tS (b:=dW (n>>>(8*i))) ?_ c (fun b hb=>hM b (aW g.size hb)) (by rw[ae,cI];omega) fun A y e f=>?_
  ·rw[IntKind.wrap_u8];simp
  ·rw[bN a (by omega)]
   refine q (i+1) _ _ ⟨rfl,a,?_,g.tr f⟩ (by omega);rw[wT,←ao];exact e
 ·have j:i=k:=by have:¬(i:Int)<(k:Int):=d;omega
  subst j;exact o _ _ c g
end Go.Proofs
namespace Go.Proofs
open Go Go.Lift
theorem P1{α:Type}{f:α→List Value}{j a:Nat}{t:TypeId}{W:Nat→Prop}{h:ac}{d:Option Addr}{sl n o:Nat}{xs ys:List α}{g z:List Value}{K:SliceV→ac→Prop}
  (q:Sl f j W h ⟨d,sl,n⟩ xs)(p:o=ys.length)(m:g=ys.flatMap f)(s:z.length=j)(hb:0<a)(e:n<sl+o)(i:(xs.length+ys.length)*a≤140737488355328)
  (v:∀s' h',OwnS f j t (fun b=>h.size≤b) h' s' (xs++ys)→Upd No h h'→K s' h'):AppP (some z) j a t d sl n o g h K:=by
 have c:sl=xs.length:=q.len;subst p m;refine⟨fun u=>by omega,fun _=>?_⟩
 refine⟨xs.flatMap f,z,q.srow,rfl,hb,Go.growslice_fits e (by rw[c];exact i),fun w k=>?_⟩
 refine v _ _ ⟨by simp[c],q.ne,k,.inr ⟨h.size,c8 (w-(sl+ys.length)) z,rfl,aj _,?_,?_⟩⟩ (Upd.hnew No h _ _)
 ·rw[bG,bA]
 ·rw[jG,s]
theorem Rp{h:ac}{s:SliceV}{xs:List UInt8}(x:Sl m8 1 No h s xs)(hc:s.cap=s.len){n k:Nat}(y:k≤8)(v:0<k)(C:xs.length+k≤140737488355328){K:SliceV→ac→Prop}
  (z:∀s' h',OwnS m8 1 bX (fun b=>h.size≤b) h' s' (xs++kQ n k)→Upd No h h'→K s' h'):HC PG kW [.slice s.a s.len s.cap,.int .u64 n,.int .i64 k] [.c .slice] K h:=by
 refine BO s n k ?_;unfold wK;refine LoopP.ghost (fun(i:Nat) (t:SliceV×Int) h'=>t.2=(i:Int)∧i≤k∧((i=0∧t.1=s∧h'=h)∨OwnS m8 1 bX (fun b=>h.size≤b) h' t.1 (xs++kQ n i))∧Upd No h h') (fun i=>k-i) 0 ⟨rfl,aP _,.inl ⟨rfl,rfl,rfl⟩,Upd.refl _ _⟩ ?_
 rintro I i ⟨so,D⟩ h' ⟨p,hi,a,m⟩ o;simp only at p a;subst p;refine aw (fun c=>?_) fun g=>?_
 ·have c:i<k:=by have:(i:Int)<(k:Int):=c;omega
  have u:IntKind.wrap .i64 (8*(i:Int))=((8*i:Nat):Int):=by rw[kE (by omega)];omega
  have em:min (((8*i:Nat):Int)).toNat (IntKind.bits .u64)=8*i:=by rw[aF];exact bf (by show 8*i≤64;omega)
  refine Join.plain ?_;simp only[Bd];rw[u,em,kT];refine⟨by omega,bq ?_⟩;have q:IntKind.wrap .u8 ((n>>>(8*i):Nat):Int)=((dW (n>>>(8*i))).toNat:Int):=by rw[IntKind.wrap_u8];simp
  rcases a with⟨rfl,rfl,rfl⟩|a
  ·rw[q]
   have k1:=Upd.hnew No h' [.int .u8 ((dW (n>>>(8*0))).toNat:Int)] bX;have B:OwnS m8 1 bX (fun _=>True) (hnew h' [.int .u8 ((dW (n>>>(8*0))).toNat:Int)] bX) ⟨some (aH h'),1,1⟩ [dW (n>>>(8*0))]:=⟨rfl,rt,aj _,.inr ⟨h'.size,[],rfl,trivial,bG ..,rfl⟩⟩
   refine⟨_,(B.sl (W:=No) fun _ _ _ h=>h).srow,?_⟩
   refine P1 (ys:= [dW (n>>>(8*0))]) (x.upd k1 fun _ h=>h.elim) rfl rfl rfl (by omega) (by omega) (by simp only[aD];omega) fun w A d f=>?_
   rw[bN c (by omega)];refine o 1 _ _ ⟨rfl,c,.inr ?_,k1.tr f⟩ (by omega);exact d.more fun b hb=>aW k1.size hb
  ·refine tS q a (fun b hb=>aW m.size hb) (by rw[ae,cI];omega) fun w A d f=>?_
   rw[bN c (by omega)];refine o (i+1) _ _ ⟨rfl,c,.inr ?_,m.trans f fun b hb=>.inr hb⟩ (by omega)
   rw[wT,←ao];exact d
 ·have j:i=k:=by have:¬(i:Int)<(k:Int):=g;omega
  subst j;rcases a with⟨e,_⟩|a
  ·omega
  ·exact z _ _ a m
def l5(s:ByteArray):List UInt8:=kQ s.size 2++s.data.toList
theorem Cs{W:Nat→Prop}{h:ac}{s:SliceV}{xs:List UInt8}(j:Sl m8 1 W h s xs)(hc:s.len≤s.cap)(b:ByteArray)(hb:b.size≤1000000)(u:xs.length+2+b.size≤140737488355328){K:SliceV→ac→Prop}
  (o:∀s' h',OwnS m8 1 bX (fun x=>h.size≤x) h' s' (xs++l5 b)→Upd No h h'→K s' h'):HC PG lv [.slice s.a s.len s.cap,.string b] [.c .slice] K h:=by
 refine G6 s b ?_;unfold z9;have i:=j.len;refine⟨by omega,by omega,?_⟩
 simp only[aF];have f:Sl m8 1 No h ⟨aS s.a 0 s.len 1,s.len-0,s.len-0⟩ xs:=by
  have:=Sl.sub (j.less (W':=No) fun _ h=>h.elim) (l:=0) (hi:=s.len) (m:=s.len) (c:=s.len-0) (aP _) (by omega) (aj _)
  rw[List.drop_zero,bh (by omega)]at this;exact this
 have p:IntKind.wrap .u64 (b.size:Int)=(b.size:Int):=Go.IntWalk.u64_in _ (by omega);rw[p];refine Rp f rfl (n:=b.size) (k:=2) (by omega) (by omega) (by omega) fun w v d a=>?_
 refine AppP.own (ys:=b.data.toList) d (by simp) (pM b) (by rw[pM];exact y7 _) rfl (by omega) ?_ a.size fun q t g e=>?_
 ·simp only[ae,cI]
  have:b.data.toList.length=b.size:=by simp
  omega
 ·refine o q t ?_ (a.trans e fun x hx=>.inr hx)
  rw[l5,←ao];exact g
end Go.Proofs
namespace Go.Proofs
open Go Go.Lift
def BD(p:Pr):List UInt8:=l5 p.1++l5 p.2
def jb(l:List Pr):List UInt8:=l.flatMap BD
theorem gV(b:ByteArray):(l5 b).length=2+b.size:=by simp[l5,cI]
def Fit(l:List Pr):Prop:=∀p∈l,p.1.size≤10000∧p.2.size≤10000
theorem Nj{p:Pr}(h:p.1.size≤10000∧p.2.size≤10000):(BD p).length≤20004:=by
 unfold BD;rw[ae,gV,gV];omega
theorem kO:∀{l:List Pr},Fit l→(jb l).length≤l.length*20004
 | [],_=>by simp[jb]
 |p::l,h=>by
  have c:=Nj (h p (au ..));have b:=kO (l:=l) fun q a=>h q (aG _ a)
  unfold jb at*;rw[aK,ae,aN];omega
theorem BC{l:List Pr}{i:Nat}(hi:i<l.length):jb (l.take (i+1))=jb (l.take i)++BD l[i]:=by
 unfold jb;rw[ax hi,bA,aK,jh,bI]
theorem C3{M W:Nat→Prop}{h:ac}{s sp:SliceV}{xs:List UInt8}{l:List Pr}(Q:OwnS m8 1 bX M h s xs)(hM:∀b,h.size≤b→M b)(B:Sl il 2 W h sp l)(G:∀x,M x→x<h.size→W x)(D:Fit l)(U:l.length≤1000000)(V:xs.length+l.length*20004≤140737488355328){K:SliceV→ac→Prop}
  (J:∀s' h',OwnS m8 1 bX M h' s' (xs++jb l)→Upd M h h'→K s' h'):HC PG ph [.slice s.a s.len s.cap,.slice sp.a sp.len sp.cap] [.c .slice] K h:=by
 refine EP s sp ?_;unfold xJ cx nv aC pq bK xQ qT;have A:=B.len;have z:∀b,M b→W b∨h.size≤b:=fun b hb=>by
  rcases bV b h.size with hx|hx
  ·exact .inl (G b hb hx)
  ·exact .inr hx
 refine LoopP.ghost (fun(i:Nat) (t:SliceV×Int) h'=>t.2=(i:Int)∧i≤l.length∧OwnS m8 1 bX M h' t.1 (xs++jb (l.take i))∧Upd M h h') (fun i=>l.length-i) 0 ⟨rfl,aP _,by simpa[jb]using Q,Upd.refl _ _⟩ ?_
 rintro I i ⟨so,X⟩ h' ⟨E,hi,e,m⟩ H;simp only at E e;subst E;refine aw (fun c=>?_) fun w=>?_
 ·have c:i<l.length:=by have:(i:Int)<(sp.len:Int):=c;omega
  obtain⟨a,L,_,hv⟩:=(B.upd m z).at (al c);have O:=D l[i] (aU c);have o:=kO (l:=l.take i) fun q R=>D q (lh R)
  rw[aJ,bf hi]at o;have k1:=Upd.hnew No h' [.string (⟨#[]⟩:ByteArray),.string (⟨#[]⟩:ByteArray)] ar;have b1:=bG h' [.string (⟨#[]⟩:ByteArray),.string (⟨#[]⟩:ByteArray)] ar;refine⟨by simp only;omega,a,L,l[i].1,hv 0 _ rfl,l[i].2,hv 1 _ rfl,bq ?_⟩;simp only[bZ h'];generalize hnew h' [.string (⟨#[]⟩:ByteArray),.string (⟨#[]⟩:ByteArray)] ar=h1 at k1 b1
  have n:h1[h'.size]? =some (.cells #[.string Qy.1,.string Qy.2] ar (0,0)):=b1;refine L6 (p:=l[i]) n fun N b2 u=>?_
  have d:Upd No h' N:=k1.trans u fun x hx=>.inr (Nat.le_of_eq hx.symm)
  have j:=e.upd d fun _ _ h=>h
  refine⟨l[i].1,by rw[bB,aL b2];rfl,l[i].2,by rw[bB,aL b2];rfl,?_⟩
  have C:i*20004+20004≤l.length*20004:=by rw[←Nat.succ_mul];exact bP _ c
  refine Cs (W:=No) (j.sl fun _ _ _ h=>h) j.cap l[i].1 (by omega) (by rw[ae];omega) fun T Y k f=>⟨by rw[bB,aL (f.get0 b2)];rfl,?_⟩
  refine Cs (W:=No) (k.sl fun _ _ _ h=>h) k.cap l[i].2 (by omega) (by rw[ae,ae,gV];omega) fun S F v y=>?_
  have g:Upd M h F:=m.tr ((d.tr (f.tr y)).wide);rw[bN c (by omega)];refine H (i+1) _ _ ⟨rfl,c,?_,g⟩ (by omega);rw[BC c,BD,←ao,←ao];exact v.more fun b hb=>hM b (aW (m.tr ((d.tr f).wide)).size hb)
 ·have P:i=l.length:=by have:¬(i:Int)<(sp.len:Int):=w;omega
  rw[bh (by omega)]at e;exact J _ _ e m
end Go.Proofs
namespace Go.Proofs
open Go Go.Lift
def hH(q:Nat→Bool):Nat→Nat
 |0=>0
 |n+1=>hH q n+(if q n then 2^n else 0)
theorem kY(q:Nat→Bool):∀n,hH q n<2^n
 |0=>by simp[hH]
 |n+1=>by
  have:=kY q n;unfold hH;rw[nY];split<;>omega
theorem A5(q:Nat→Bool)(c:Nat):∀n,(hH q n).testBit c=(decide (c<n)&&q c)
 |0=>by simp[hH]
 |n+1=>by
  have b:=kY q n;have d:=A5 q c n;unfold hH;by_cases a:q n=true
  ·rw[if_pos a,Nat.add_comm]
   rcases Nat.lt_trichotomy c n with h|h|h
   ·rw[Nat.testBit_two_pow_add_gt h,d,decide_eq_true h,decide_eq_true (by omega)]
   ·subst h
    rw[Nat.testBit_two_pow_add_eq,gP b,decide_eq_true (by omega),a];rfl
   ·have f:2^n+hH q n<2^c:=aO (by rw[nY];omega:2^n+hH q n<2^(n+1)) (fh (by omega) h)
    rw[gP f,decide_eq_false (by omega)];rfl
  ·rw[if_neg a,df,d]
   by_cases h:c<n
   ·rw[decide_eq_true h,decide_eq_true (by omega)]
   ·by_cases e:c=n
    ·subst e;have:q c=false:=by simpa using a
     rw[this];simp
    ·rw[decide_eq_false h,decide_eq_false (by omega)]
theorem FR{d:Nat}{q:Nat→Bool}(hd:d<4294967296)(h:∀c,c<32→d.testBit c=q c):d=hH q 32:=by
 refine Nat.eq_of_testBit_eq fun c=>?_
 rw[A5];by_cases hc:c<32
 ·rw[h c hc,decide_eq_true hc];rfl
 ·rw[decide_eq_false hc,gP (aO hd (fh (n:=2) (by omega) (show 32≤c by omega)))];rfl
end Go.Proofs
namespace Go.Proofs
open Go Go.Lift
def gE(l:List Pr):Option Pr:=match l with| [p]=>some p|_=>none
def ge(l:List Pr):Option (List Pr):=if 2≤l.length then some l else none
def jo(x:Hs)(lev:Nat)(l:List Pr):List Pr:=fm (fun c=>gE (part x lev c l)) 32
def j8(x:Hs)(lev:Nat)(l:List Pr):List (List Pr):=fm (fun c=>ge (part x lev c l)) 32
def d8(x:Hs):Nat→List Pr→List UInt8
 |0,l=>1::(kQ l.length 2++jb l)
 |m+1,l=>0::(kQ (hH (fun c=>(gE (part x (12-m) c l)).isSome) 32) 4++(kQ (hH (fun c=>(ge (part x (12-m) c l)).isSome) 32) 4++(jb (jo x (12-m) l)++(j8 x (12-m) l).flatMap (d8 x m))))
theorem JI{W:Nat→Prop}{x:Hs}{h:ac}{m:Nat}{s:Slots}{c:Nat}{l:List Pr}(t:SlotIs W x h m s c l):s.p c=gE l∧(s.k c).isSome=(ge l).isSome:=by
 rcases t with⟨rfl,e,d⟩|⟨p,rfl,e,d⟩|⟨f,e,g,d,_⟩
 ·rw[e,d];exact⟨rfl,rfl⟩
 ·rw[e,d];exact⟨rfl,rfl⟩
 ·rw[e,d]
  refine⟨?_,by simp[ge,f]⟩
  match l,f with
  |a::b::l,_=>rfl
def KidsAt(W:Nat→Prop)(x:Hs)(h:ac)(m:Nat):List (Option Addr)→List (List Pr)→Prop
 | [],[]=>True
 |k::ks,l::ls=>(∃kb,k=some ⟨kb,0,none⟩∧TrieAt W x h m kb l)∧KidsAt W x h m ks ls
 |_,_=>False
theorem KidsAt.app{W:Nat→Prop}{x:Hs}{h:ac}{m:Nat}:∀{ks ks':List (Option Addr)} {ls ls':List (List Pr)},KidsAt W x h m ks ls→KidsAt W x h m ks' ls'→KidsAt W x h m (ks++ks') (ls++ls')
 | [],_,[],_,_,q=>q
 |_::_,_,_::_,_,q,q'=>⟨q.1,KidsAt.app q.2 q'⟩
 | [],_,_::_,_,q,_=>q.elim
 |_::_,_,[],_,q,_=>q.elim
theorem iK{β:Type}(g:Nat→Option β)(n:Nat):fm g (n+1)=fm g n++(g n).toList:=by
 unfold fm;rw[jS,List.filterMap_append];cases h:g n<;>simp[h]
theorem KB{W:Nat→Prop}{x:Hs}{h:ac}{m lev:Nat}{s:Slots}{l:List Pr}:∀n,(∀c,c<n→SlotIs W x h m s c (part x lev c l))→KidsAt W x h m (fm s.k n) (fm (fun c=>ge (part x lev c l)) n)
 |0,_=>trivial
 |n+1,hs=>by
  rw[iK,iK];refine KidsAt.app (KB n fun c hc=>hs c (by omega)) ?_
  rcases hs n (by omega)with⟨b,_,a⟩|⟨p,b,_,a⟩|⟨b,_,d,a,e⟩
  ·rw[a,b];exact trivial
  ·rw[a,b];exact trivial
  ·rw[a]
   have:ge (part x lev n l)=some (part x lev n l):=by unfold ge;rw[if_pos b]
   simp only[this];exact⟨⟨d,rfl,e⟩,trivial⟩
theorem L2{W:Nat→Prop}{x:Hs}{h:ac}{m lev:Nat}{s:Slots}{l:List Pr}(a:∀c,c<32→SlotIs W x h m s c (part x lev c l)):fm s.p 32=jo x lev l:=
 T2 _ fun c hc=>(JI (a c (List.mem_range.1 hc))).1
end Go.Proofs
namespace Go.Proofs
open Go Go.Lift
theorem wQ(x:Hs)(lev:Nat)(l:List Pr):∀n,(((eX n).map fun c=>(part x lev c l).length).sum)=(l.filter fun p=>decide (ck x lev p.1<n)).length
 |0=>by
  have:(l.filter fun p=>decide (ck x lev p.1<0))= []:=List.filter_eq_nil_iff.2 fun p _=>by simp
  rw[this];rfl
 |n+1=>by
  rw[jS,eU,mA,wQ x lev l n];simp only[bT,List.map_nil,tC,List.sum_nil,df];unfold part;clear wQ;induction l with
  |nil=>rfl
  |cons p l ih=>
   simp only[List.filter_cons,decide_eq_true_iff];split<;>split<;>split<;>first|omega|(simp only[aN];omega)
theorem Ax(x:Hs)(lev:Nat)(l:List Pr):(jo x lev l).length+(j8 x lev l).flatten.length≤l.length:=by
 have h:=wQ x lev l 32;have d:(l.filter fun p=>decide (ck x lev p.1<32)).length≤l.length:=dq ..
 have:∀n,(fm (fun c=>gE (part x lev c l)) n).length+(fm (fun c=>ge (part x lev c l)) n).flatten.length≤((eX n).map fun c=>(part x lev c l).length).sum:=by
  intro n;induction n with
  |zero=>simp[fm]
  |succ n ih=>
   rw[iK,iK,jS,eU,mA];simp only[ae,eD,bT,List.map_nil,tC,List.sum_nil,df];generalize part x lev n l=q;have:(gE q).toList.length+(ge q).toList.flatten.length≤q.length:=by
    match q with
    | []=>simp[gE,ge]
    | [a]=>simp[gE,ge]
    |a::b::q=>simp[gE,ge]
   omega
 have:=this 32;unfold jo j8;omega
end Go.Proofs
namespace Go.Proofs
open Go Go.Lift
theorem tM{x:Hs}{lev:Nat}{l:List Pr}{p:Pr}(h:p∈jo x lev l):p∈l:=by
 unfold jo fm at h;obtain⟨c,_,hc⟩:=List.mem_filterMap.1 h;unfold gE at hc;split at hc
 ·rename_i q hq
  cases hc;have:p∈part x lev c l:=by rw[hq];exact aB.2 rfl
  exact(py.1 this).1
 ·cases hc
theorem oH{x:Hs}{lev:Nat}{l L:List Pr}(h:L∈j8 x lev l):2≤L.length∧∃c,L=part x lev c l:=by
 unfold j8 fm at h;obtain⟨c,_,hc⟩:=List.mem_filterMap.1 h;unfold ge at hc;split at hc
 ·cases hc;exact⟨by assumption,c,rfl⟩
 ·cases hc
theorem Fit.part{x:Hs}{lev c:Nat}{l:List Pr}(h:Fit l):Fit (part x lev c l):=fun p a=>h p (py.1 a).1
theorem Ct{B:Nat}{f:List Pr→List UInt8}:∀{ls:List (List Pr)},(∀L∈ls,2≤L.length∧(f L).length≤9+L.length*B)→(ls.flatMap f).length≤ls.flatten.length*(B+9)
 | [],_=>by simp
 |L::ls,h=>by
  have b:=h L (au ..);have a:=Ct (ls:=ls) fun M hM=>h M (aG _ hM)
  rw[aK,ae,fx,ae,iT];have:L.length*(B+9)=L.length*B+L.length*9:=Nat.mul_add ..;omega
theorem mH{x:Hs}:∀(m:Nat) {l:List Pr},Fit l→(d8 x m l).length≤9+l.length*(20004+9*(m+1))
 |0,l,h=>by
  have:=kO h;unfold d8;rw[aN,ae,cI];have:l.length*20004≤l.length*(20004+9*(0+1)):=fA _ (by omega);omega
 |m+1,l,h=>by
  have n:=kO (l:=jo x (12-m) l) fun p j=>h p (tM j)
  have e:=Ct (f:=d8 x m) (ls:=j8 x (12-m) l) (B:=20004+9*(m+1)) fun L a=>by
   obtain⟨i,c,rfl⟩:=oH a;exact⟨i,mH m h.part⟩
  have g:=Ax x (12-m) l;unfold d8;rw[aN,ae,ae,ae,cI,cI];have k:(jo x (12-m) l).length*20004≤(jo x (12-m) l).length*(20004+9*(m+1+1)):=fA _ (by omega);have b:((jo x (12-m) l).length+(j8 x (12-m) l).flatten.length)*(20004+9*(m+1+1))≤l.length*(20004+9*(m+1+1)):=bP _ g;rw[iT]at b
  have d:20004+9*(m+1)+9=20004+9*(m+1+1):=by omega
  rw[d]at e;omega
end Go.Proofs
namespace Go.Proofs
open Go Go.Lift
theorem Ki{h:ac}{b d n:Nat}{sp sk:SliceV}{a:Bool}{ow:Option Addr}(hb:h[b]? =some (.cells (eZ d n sp sk a ow) bo (0,0))) (e:sp.len+sk.len≤1000000000) {K:Int→ac→Prop} (c:K ((sp.len+sk.len:Nat):Int) h):HC PG qc [.pointer (some ⟨b,0,none⟩)] [.c (.int .i64)] K h:=by
 refine Cj _ ?_;unfold vi bj;refine ah.2 ⟨_,rfl,sp,dQ (i:=2) hb,_,rfl,sk,dQ (i:=3) hb,?_⟩;rw[kE (by omega)];exact_mod_cast c
def Bes(M:Nat→Prop)(h a:ac)(b:Nat):Prop:=M b∧(b<h.size∨a.size≤b)
theorem Bes.own{α:Type}{f:α→List Value}{b:Nat}{t:TypeId}{M:Nat→Prop}{h a:ac}{s:SliceV}{xs:List α}(d:OwnS f b t M h s xs)(c:Upd No h a):OwnS f b t (Bes M h a) a s xs:=
 (d.within.upd c fun _ _ h=>h).more fun _ hb=>⟨hb.1,.inl hb.2⟩
theorem Bes.sl{α:Type}{f:α→List Value}{c:Nat}{t:TypeId}{M:Nat→Prop}{h a:ac}{s:SliceV}{xs:List α}(d:OwnS f c t (fun x=>h.size≤x) a s xs):Sl f c (Bes M h a) a s xs:=
 d.sl fun b hb e hx=>by rcases hx.2 with h|h<;>omega
theorem Bes.hM{M:Nat→Prop}{h a:ac}(hM:∀b,h.size≤b→M b)(c:Upd No h a):∀b,a.size≤b→Bes M h a b:=fun b hb=>⟨hM b (aW c.size hb),.inr hb⟩
theorem OT{W:Nat→Prop}{x:Hs}:∀(m:Nat),m≤13→∀{b:Nat} {l:List Pr} {G h:ac} {M:Nat→Prop} {s:SliceV} {xs:List UInt8},TrieAt W x G m b l→Upd No G h→(∀y,M y→G.size≤y)→OwnS m8 1 bX M h s xs→(∀y,h.size≤y→M y)→Fit l→l.length≤60000→
  xs.length+(9+l.length*(20004+9*(m+1)))≤140737488355328→∀{K:SliceV→ac→Prop},(∀s' h',OwnS m8 1 bX M h' s' (xs++d8 x m l)→Upd M h h'→K s' h')→
  HC PG rZ [.slice s.a s.len s.cap,.pointer (some ⟨b,0,none⟩),.int .i64 ((13-m:Nat):Int)] [.c .slice] K h:=by
 intro m;induction m with
 |zero=>
  intro _ b l G h M s xs t hu0 S ho hM hf hn hx K hk;refine BN s (some ⟨b,0,none⟩) ((13-0:Nat):Int) ?_;unfold wJ aR cx w8 MJ QD;have st:∀{h'},Upd M h h'→Upd No G h':=fun k=>hu0.trans k fun y o=>.inr (S y o)
  have bk:∀{h'},Upd M h h'→BuckAt W h' b l:=fun k=>BuckAt.upd t (st k) fun _ h=>h.elim
  have A:∀{h'},Upd M h h'→∀y,h'.size≤y→M y:=fun k y o=>hM y (aW k.size o)
  obtain⟨sp,sk,ow,hb,_⟩:=(bk (Upd.refl M h)).ex;refine pA hb (ay.2 (bq ?_));refine tS (b:=1) rfl ho hM (by omega) fun s1 h1 P j=>?_
  obtain⟨sp1,sk1,ow1,Q,T,hsk1,_⟩:=(bk j).ex;have e1:=T.len;have e2:=hsk1.len;rw[cc]at e2;refine Ki Q (by omega) ?_;have ew:IntKind.wrap .u64 ((sp1.len+sk1.len:Nat):Int)=((l.length:Nat):Int):=by rw[Go.IntWalk.u64_in _ (by omega)];omega
  rw[ew];have hl2:l.length*20004≤l.length*(20004+9*(0+1)):=fA _ (by omega);refine Ku P (A j) (n:=l.length) (k:=2) (by omega) (by omega) (by rw[ae,aD];omega) fun s2 h2 Y v=>?_
  have O:=j.tr v;obtain⟨sp2,sk2,ow2,hb2,U,_⟩:=(bk O).ex;refine vK hb2 U (by omega) fun s3 E z C=>?_
  refine C3 (M:=Bes M h2 E) (W:=Bes M h2 E) (Bes.own Y C) (Bes.hM (A O) C) (Bes.sl z) (fun _ h _=>h) hf (by omega) (by rw[ae,ae,aD,cI];omega) fun s4 F ho4 H=>?_
  refine hk s4 F ?_ (O.tr (C.wide.tr (H.mono fun y o=>.inl o.1)))
  have:=ho4.more (M':=M) fun y o=>o.1
  rw[d8,List.append_cons,←ao];exact this
 |succ m ih=>
  intro hm b l G h M s xs t hu0 S ho hM hf hn hx K hk;refine BN s (some ⟨b,0,none⟩) ((13-(m+1):Nat):Int) ?_;unfold wJ aR cx w8 MJ QD;have st:∀{h'},Upd M h h'→Upd No G h':=fun k=>hu0.trans k fun y o=>.inr (S y o)
  have A:∀{h'},Upd M h h'→∀y,h'.size≤y→M y:=fun k y o=>hM y (aW k.size o)
  obtain⟨sl,nd,hs0⟩:=t;have hs:∀c,c<32→SlotIs W x G m sl c (part x (12-m) c l):=hs0;have hd:∀{h'},Upd M h h'→∃d n sp sk ow,h'[b]? =some (.cells (eZ d n sp sk false ow) bo (0,0))∧d=hH (fun c=>(gE (part x (12-m) c l)).isSome) 32∧n=hH (fun c=>(ge (part x (12-m) c l)).isSome) 32∧Sl il 2 W h' sp (jo x (12-m) l)∧Sl qL 1 W h' sk (fm sl.k 32):=fun{h'} k=>by
   obtain⟨d,n,sp,sk,ow,hb,bits,E,F,_⟩:=(nd.upd (st k) fun _ h=>h.elim).ex
   refine⟨d,n,sp,sk,ow,hb,FR bits.d32 fun c hc=>?_,FR bits.n32 fun c hc=>?_,?_,F⟩
   ·rw[bits.dp c hc,(JI (hs c hc)).1]
   ·rw[bits.nk c hc,(JI (hs c hc)).2]
   ·rw[←L2 hs];exact E
  have hka:KidsAt W x G m (fm sl.k 32) (j8 x (12-m) l):=KB 32 hs;have u:=mH (x:=x) (m+1) hf;have hlen2:=u;have hml:∀L∈j8 x (12-m) l,Fit L∧L.length≤60000:=fun L hL=>by
   obtain⟨_,c,rfl⟩:=oH hL;exact⟨hf.part,aW pv hn⟩
  have hsf:Fit (jo x (12-m) l):=fun p hp=>hf p (tM hp)
  have hsl:=Ax x (12-m) l;unfold d8 at hk u;have Z:∀q:Nat→Bool,hH q 32<4294967296:=fun q=>kY q 32
  have hd32:=Z fun c=>(gE (part x (12-m) c l)).isSome
  have hn32:=Z fun c=>(ge (part x (12-m) c l)).isSome
  generalize hH (fun c=>(gE (part x (12-m) c l)).isSome) 32=D at hk hd u hd32
  generalize hH (fun c=>(ge (part x (12-m) c l)).isSome) 32=N at hk hd u hn32
  have hS:(jo x (12-m) l).length≤60000:=by omega
  have hSb:(jo x (12-m) l).length*20004≤l.length*(20004+9*(m+1+1)):=Nat.mul_le_mul (by omega) (by omega);have hML:∀L∈j8 x (12-m) l,2≤L.length∧(d8 x m L).length≤9+L.length*(20004+9*(m+1)):=fun L hL=>by
   obtain⟨E,c,rfl⟩:=oH hL;exact⟨E,mH m hf.part⟩
  have hbud:9+(jo x (12-m) l).length*20004+(j8 x (12-m) l).flatten.length*(20004+9*(m+1)+9)≤9+l.length*(20004+9*(m+1+1)):=by
   have h5:(jo x (12-m) l).length*20004≤(jo x (12-m) l).length*(20004+9*(m+1+1)):=fA _ (by omega);have h6:((jo x (12-m) l).length+(j8 x (12-m) l).flatten.length)*(20004+9*(m+1+1))≤l.length*(20004+9*(m+1+1)):=bP _ hsl;rw[iT]at h6;have h7:20004+9*(m+1)+9=20004+9*(m+1+1):=by omega
   rw[h7];omega
  have hps:=kO hsf;generalize jo x (12-m) l=So at hk hd hsf hS hSb hbud u hps;generalize j8 x (12-m) l=Ma at hk hka hml hML hbud u;obtain⟨d,n,sp,sk,ow,hb,_⟩:=hd (Upd.refl M h);refine pA hb (ah.2 (Join.intro (fun s' h'=>OwnS m8 1 bX M h' s' (xs++(0::(kQ D 4++kQ N 4)))∧Upd M h h') (fun R hR=>bq ?_) ?_))
  ·refine tS (b:=0) rfl ho hM (by omega) fun s1 h1 P j=>?_
   obtain⟨d1,n1,sp1,sk1,ow1,Q,rfl,rfl,_⟩:=hd j;refine Mp Q ?_;rw[Go.IntWalk.u64_in _ (by omega)];refine Ku P (A j) (n:=d1) (k:=4) (by omega) (by omega) (by rw[ae,aD];omega) fun s2 h2 Y v=>?_
   obtain⟨d2,n2,sp2,sk2,ow2,hb2,rfl,rfl,_⟩:=hd (j.tr v);refine Ia hb2 ?_;rw[Go.IntWalk.u64_in _ (by omega)];refine Ku Y (A (j.tr v)) (n:=n2) (k:=4) (by omega) (by omega) (by rw[ae,ae,aD,cI];omega) fun s3 E z C=>?_
   refine hR _ _ ⟨?_,(j.tr v).tr C⟩;rw[List.append_cons,←ao];exact z
  ·rintro s' h1 ⟨P,j⟩
   obtain⟨d1,n1,sp1,sk1,ow1,Q,_,_,T,_⟩:=hd j;refine vK Q T (by omega) fun s2 h2 Y v=>?_
   refine C3 (M:=Bes M h1 h2) (W:=Bes M h1 h2) (Bes.own P v) (Bes.hM (A j) v) (Bes.sl Y) (fun _ h _=>h) hsf (by omega) (by rw[ae,aN,ae,cI,cI];omega) fun s3 E z C=>?_
   have z:=z.more (M':=M) fun y o=>o.1
   have X:Upd M h E:=j.tr (v.wide.tr (C.mono fun y o=>.inl o.1))
   have e13:(((13-(m+1):Nat):Int)==(13:Int))=false:=by rw[beq_eq_false_iff_ne];omega
   rw[e13];refine ah.2 ?_;obtain⟨d3,n3,sp3,sk3,ow3,hb3,_,_,_,hsk3⟩:=hd X;have hk32:=BI (g:=sl.k);refine GF hb3 hsk3 (by omega) fun s4 F ho4 H=>?_
   have J:Sl qL 1 (Bes M E F) F s4 (fm sl.k 32):=Bes.sl ho4;have hlk:=J.len;have ew:IntKind.wrap .i64 (((13-(m+1):Nat):Int)+1)=((13-m:Nat):Int):=by rw[kE (by omega)];omega
   rw[ew];have hMb:=Bes.hM (A X) H;have hob:=Bes.own z H;have hu04:Upd M h F:=X.tr H.wide;have hMM:∀y,Bes M E F y→M y:=fun y o=>o.1
   have st4:∀{h'},Upd (Bes M E F) F h'→Upd M h h':=fun k=>hu04.tr (k.mono fun y o=>.inl o.1)
   generalize Bes M E F=B at J hMb hob hMM st4;have hkl:∀{ks:List (Option Addr)} {ls:List (List Pr)},KidsAt W x G m ks ls→ks.length=ls.length∧∀i (hi:i<ls.length),∃kb,ks[i]? =some (some ⟨kb,0,none⟩)∧TrieAt W x G m kb ls[i]:=by
    intro ks;induction ks with
    |nil=>intro ls;cases ls with
     |nil=>intro _;exact⟨rfl,fun i hi=>absurd hi (iE _)⟩
     |cons a ls=>intro h;exact h.elim
    |cons k ks ihk=>intro ls;cases ls with
     |nil=>intro h;exact h.elim
     |cons a ls=>
      rintro⟨⟨kb,rfl,tk⟩,h⟩;obtain⟨e,hr⟩:=ihk h;refine⟨by simp[e],fun i hi=>?_⟩
      cases i with
      |zero=>exact⟨kb,rfl,tk⟩
      |succ i=>simp only[List.getElem?_cons_succ,List.getElem_cons_succ];exact hr i (by simpa using hi)
   obtain⟨hkl,hkt⟩:=hkl hka;have hbase:(xs++(0::(kQ D 4++kQ N 4))++jb So).length≤xs.length+(9+So.length*20004):=by
    rw[ae,ae,aN,ae,cI,cI];omega
   refine LoopP.ghost (fun(i:Nat) (t:SliceV×Int) h'=>t.2=(i:Int)∧i≤Ma.length∧OwnS m8 1 bX B h' t.1 (xs++(0::(kQ D 4++kQ N 4))++jb So++(Ma.take i).flatMap (d8 x m))∧Upd B F h') (fun i=>Ma.length-i) 0 ⟨rfl,aP _,by simpa using hob,Upd.refl _ _⟩ ?_
   rintro I i ⟨so,ti⟩ h' ⟨e1,hi,ho',V⟩ hI;simp only at e1 ho';subst e1;refine aw (fun w=>?_) fun hge=>?_
   ·have w:i<Ma.length:=by have:(i:Int)<(s4.len:Int):=w;omega
    obtain⟨kb,hk1,tk⟩:=hkt i w;obtain⟨a,ha,_,hv⟩:=(J.upd V fun y o=>.inl o).at0 hk1
    refine⟨⟨by simp only;omega,by simp only;omega⟩,a,ha,some ⟨kb,0,none⟩,hv,?_⟩
    have hmem:Ma[i]∈Ma:=aU w;have htl:=Ct (f:=d8 x m) (ls:=Ma.take i) (B:=20004+9*(m+1)) fun L hL=>hML L (lh hL)
    have hsp:(Ma.take i).flatten.length+Ma[i].length≤Ma.flatten.length:=by
     have e:Ma=Ma.take i++Ma[i]::Ma.drop (i+1):=by rw[List.getElem_cons_drop,List.take_append_drop]
     have:=congrArg (fun L=>(List.flatten L).length) e
     simp only[eD,fx,ae]at this;omega
    have U:=bP (20004+9*(m+1)+9) hsp;rw[iT]at U;have h2l:=(hML _ hmem).1;have hone:9+Ma[i].length*(20004+9*(m+1))≤Ma[i].length*(20004+9*(m+1)+9):=by rw[Nat.mul_add (Ma[i].length) (20004+9*(m+1)) 9];omega
    refine ih (by omega) tk (hu0.trans (st4 V) fun y o=>.inr (S y o)) (fun y o=>S y (hMM y o)) ho' (fun y o=>hMb y (aW V.size o)) (hml _ hmem).1 (hml _ hmem).2 (by rw[ae];omega) fun s5 h5 ho5 hu5=>?_
    rw[bN w (by omega)];refine hI (i+1) _ _ ⟨rfl,w,?_,V.tr hu5⟩ (by omega);rw[ax w,bA,aK,jh,bI,←ao];exact ho5
   ·have hil:i=Ma.length:=by have:¬(i:Int)<(s4.len:Int):=hge;omega
    subst hil;rw[List.take_length]at ho';refine hk _ _ ?_ (st4 V);have:=ho'.more hMM;simp only[ao,cM]at this⊢;exact this
end Go.Proofs
namespace Go.Proofs
open Go Go.Lift
theorem QT{W:Nat→Prop}{x:Hs}{h:ac}{b:Nat}{l:List Pr}(t:TrieAt W x h 13 b l)(d:Fit l)(a:l.length≤60000){K:SliceV→ac→Prop}(c:∀s' h',OwnS m8 1 bX (fun y=>h.size≤y) h' s' (d8 x 13 l)→Upd No h h'→K s' h'):HC PG ye [.pointer (some ⟨b,0,none⟩)] [.c .slice] K h:=by
 refine Lg _ ?_;unfold Eb;refine ah.2 ?_;have hb:l.length*(20004+9*(13+1))≤60000*(20004+9*(13+1)):=bP _ a;exact OT (x:=x) 13 (aj _) (s:=⟨none,0,0⟩) (xs:= []) (M:=fun y=>h.size≤y) t (Upd.refl _ _) (fun _ h=>h) (OwnS.nil rt) (fun _ h=>h) d a (by rw[cc];omega) fun s' h' e f=>c s' h' e (f.mono fun y g=>.inr g)
theorem K4{W W':Nat→Prop}{h:ac}{s s':SliceV}{xs ys:List UInt8}(e:Sl m8 1 W h s xs)(a:Sl m8 1 W' h s' ys){K:Bool→ac→Prop}(d:K (decide (xs=ys)) h):HC PG tf [.slice s.a s.len s.cap,.slice s'.a s'.len s'.cap] [.c .bool] K h:=by
 refine EW s s' ?_;unfold xP;have c:=e.srow;have b:=a.srow;rw[Nat.mul_one]at c b;refine⟨⟨xs.toArray⟩,by rw[pM];exact c,⟨ys.toArray⟩,by rw[pM];exact b,?_⟩
 have:((⟨xs.toArray⟩:ByteArray).toList==(⟨ys.toArray⟩:ByteArray).toList)=decide (xs=ys):=by
  rw[ByteArray.toList_eq,ByteArray.toList_eq,eV,beq_iff_eq,decide_eq_true_iff]
 rw[this];exact d
theorem Ig:∀{a b:Nat} (k:Nat),kQ a k=kQ b k→a%2^(8*k)=b%2^(8*k)
 |_,_,0,_=>by simp[Nat.mod_one]
 |a,b,k+1,h=>by
  rw[wT,wT]at h;obtain⟨g,d⟩:=qm h (by rw[cI,cI]);have f:=Ig k g;have c:=congrArg UInt8.toNat (fj.inj d).1;rw[UInt8.toNat_ofNat',UInt8.toNat_ofNat',cr,cr]at c;have e:2^(8*(k+1))=2^(8*k)*2^8:=by rw[Nat.mul_add,Nat.pow_add]
  rw[e,Nat.mod_mul,Nat.mod_mul,f,c]
theorem tN{a b k:Nat}{r c:List UInt8}(e:a<2^(8*k))(hb:b<2^(8*k))(h:kQ a k++r=kQ b k++c):a=b∧r=c:=by
 obtain⟨f,d⟩:=qm h (by rw[cI,cI]);have:=Ig k f;rw[cW e,cW hb]at this;exact⟨this,d⟩
theorem wN{a b:ByteArray}{r c:List UInt8}(i:a.size≤10000)(hb:b.size≤10000)(h:l5 a++r=l5 b++c):a=b∧r=c:=by
 unfold l5 at h;rw[ao,ao]at h;obtain⟨f,d⟩:=tN (k:=2) (by omega) (by omega) h;obtain⟨g,e⟩:=qm d (by simpa using f);refine⟨?_,e⟩;cases a;cases b;exact congrArg od (Array.toList_inj.1 g)
theorem yb:∀{l l':List Pr} {r r':List UInt8},Fit l→Fit l'→l.length=l'.length→jb l++r=jb l'++r'→l=l'∧r=r'
 | [],[],_,_,_,_,_,h=>⟨rfl,h⟩
 | [],_::_,_,_,_,_,e,_=>by simp at e
 |_::_,[],_,_,_,_,e,_=>by simp at e
 |p::l,q::l',r,r',hf,hf',e,h=>by
  unfold jb at h;rw[aK,aK,BD,BD]at h;simp only[ao]at h;have c:=hf p (au ..);have b:=hf' q (au ..);obtain⟨f,h⟩:=wN c.1 b.1 h;obtain⟨d,h⟩:=wN c.2 b.2 h;obtain⟨g,h⟩:=yb (l:=l) (l':=l') (fun z a=>hf z (aG _ a)) (fun z a=>hf' z (aG _ a)) (by simpa using e) h
  exact⟨by rw[g,Prod.ext f d],h⟩
theorem CD{β γ:Type}{g:Nat→Option β}{a:Nat→Option γ}:∀n,(∀c,c<n→(g c).isSome=(a c).isSome)→(fm g n).length=(fm a n).length
 |0,_=>rfl
 |n+1,h=>by
  rw[iK,iK,ae,ae,CD n fun c hc=>h c (by omega)]
  have:=h n (by omega);cases h1:g n<;>cases h2:a n<;>rw[h1,h2]at this<;>first|rfl|cases this
theorem KU{β:Type}{g a:Nat→Option β}:∀n,(∀c,c<n→(g c).isSome=(a c).isSome)→fm g n=fm a n→∀c,c<n→g c=a c
 |0,_,_,c,hc=>absurd hc (iE _)
 |n+1,h,e,c,hc=>by
  rw[iK,iK]at e;obtain⟨f,b⟩:=qm e (CD n fun c hc=>h c (by omega))
  rcases bV c n with d|d
  ·exact KU n (fun c hc=>h c (by omega)) f c d
  ·have:c=n:=by omega
   subst this;cases h1:g c<;>cases h2:a c<;>rw[h1,h2]at b<;>simp at b⊢
   exact b
theorem E9:∀{l l':List Pr},dL l→dL l'→(∀p,p∈l↔p∈l')→l=l'
 | [],[],_,_,_=>rfl
 | [],q::l',_,_,h=>absurd ((h q).2 (au ..)) (by simp)
 |p::l,[],_,_,h=>absurd ((h p).1 (au ..)) (by simp)
 |p::l,q::l',d,a,h=>by
  have d:=bd.1 d;have a:=bd.1 a;have e:p=q:=by
   rcases aq.1 ((h p).1 (au ..))with e|g
   ·exact e
   ·rcases aq.1 ((h q).2 (au ..))with e|f
    ·exact e.symm
    ·exact absurd (kR (d.1 q f) (a.1 p g)) (dj _)
  subst e;rw[E9 d.2 a.2 fun z=>?_]
  constructor
  ·intro c
   rcases aq.1 ((h z).1 (aG _ c))with e|b
   ·exact absurd (d.1 z c) (by rw[e];exact dj _)
   ·exact b
  ·intro c
   rcases aq.1 ((h z).2 (aG _ c))with e|b
   ·exact absurd (a.1 z c) (by rw[e];exact dj _)
   ·exact b
theorem Pc{x:Hs}{lev:Nat}{l l':List Pr}(g:dL l)(b:dL l')(h:∀c,c<32→part x lev c l=part x lev c l'):l=l':=by
 refine E9 g b fun p=>?_
 have e:=h (ck x lev p.1) (IH ..);have a:=py (x:=x) (lev:=lev) (c:=ck x lev p.1) (l:=l) (p:=p);have f:=py (x:=x) (lev:=lev) (c:=ck x lev p.1) (l:=l') (p:=p);rw[e]at a;constructor
 ·intro d;exact(f.1 (a.2 ⟨d,rfl⟩)).1
 ·intro d;exact(a.1 (f.2 ⟨d,rfl⟩)).1
theorem MW{q q':List Pr}(f:gE q=gE q')(e:ge q=ge q'):q=q':=by
 match q,q' with
 | [],[]=>rfl
 | [a],[b]=>simp[gE]at f;rw[f]
 | [],[b]=>simp[gE]at f
 | [a],[]=>simp[gE]at f
 | [],b::c::q'=>simp[ge]at e
 | [a],b::c::q'=>simp[ge]at e
 |b::c::q',[]=>simp[ge]at e
 |b::c::q',[a]=>simp[ge]at e
 |a::b::q,c::d::q'=>simpa[ge]using e
theorem Ix{f:List Pr→List UInt8}:∀{ls ls':List (List Pr)} {r r':List UInt8},ls.length=ls'.length→(∀L∈ls,∀L'∈ls',∀r r',f L++r=f L'++r'→L=L'∧r=r')→ls.flatMap f++r=ls'.flatMap f++r'→ls=ls'∧r=r'
 | [],[],_,_,_,_,h=>⟨rfl,h⟩
 | [],_::_,_,_,e,_,_=>by simp at e
 |_::_,[],_,_,e,_,_=>by simp at e
 |L::ls,L'::ls',r,r',e,hf,h=>by
  rw[aK,aK,ao,ao]at h;obtain⟨b,h⟩:=hf L (au ..) L' (au ..) _ _ h;obtain⟨a,h⟩:=Ix (by simpa using e) (fun A d B c=>hf A (aG _ d) B (aG _ c)) h
  exact⟨by rw[b,a],h⟩
theorem C2{x:Hs}:∀(m:Nat) {l l':List Pr} {r a:List UInt8},Fit l→Fit l'→l.length≤60000→l'.length≤60000→dL l→dL l'→d8 x m l++r=d8 x m l'++a→l=l'∧r=a
 |0,l,l',r,a,hf,hf',hn,hn',_,_,h=>by
  unfold d8 at h;rw[cM,cM,ao,ao]at h;obtain⟨e,h⟩:=tN (k:=2) (by omega) (by omega) (fj.inj h).2;exact yb hf hf' e h
 |m+1,l,l',r,a,hf,hf',hn,hn',hr,hr',h=>by
  unfold d8 at h;simp only[cM,ao]at h;obtain⟨b1,h⟩:=tN (k:=4) (kY _ 32) (kY _ 32) (fj.inj h).2;obtain⟨b2,h⟩:=tN (k:=4) (kY _ 32) (kY _ 32) h;have bits:∀{q q':Nat→Bool},hH q 32=hH q' 32→∀c,c<32→q c=q' c:=fun{q q'} e c hc=>by
   have:=congrArg (fun n=>n.testBit c) e
   simp only[A5,decide_eq_true hc,Bool.true_and]at this;exact this
  have b1:=bits b1;have b2:=bits b2;obtain⟨j,h⟩:=yb (fun p d=>hf p (tM d)) (fun p d=>hf' p (tM d)) (CD 32 b1) h
  obtain⟨g,h⟩:=Ix (CD 32 b2) (fun L f L' b r a e=>by
   obtain⟨_,c,rfl⟩:=oH f
   obtain⟨_,c',rfl⟩:=oH b
   exact C2 m hf.part hf'.part (aW pv hn) (aW pv hn') (x7 hr) (x7 hr') e) h
  have i:=KU 32 b1 j;have o:=KU 32 b2 g;exact⟨Pc hr hr' fun c hc=>MW (i c hc) (o c hc),h⟩
end Go.Proofs
namespace Go.Proofs
open Go Go.Lift
def EE(lab:ByteArray)(has:Bool)(val:ByteArray)(s:SliceV)(ow:Option Addr):Array Value:= #[.string lab,.bool has,.string val,sv s,.pointer ow]
theorem vw{w:Option ByteArray}{val:ByteArray}(h:val=w.getD ⟨#[]⟩):∀v,w=some v→val=v:=fun v e=>by rw[h,e];rfl
def RxF(W:Nat→Prop)(h:ac):Fo→List (Option Addr)→Prop
 | .nil,ks=>ks= []
 | .cons lab w kids rest,ks=>∃b sl val s ow ks1 ks',ks=some ⟨b,0,none⟩::ks'∧sl.data.toList=lab∧h[b]? =some (.cells (EE sl w.isSome val s ow) bM (0,0))∧val=w.getD ⟨#[]⟩∧Sl xB 1 W h s ks1∧(s.len≤s.cap∧¬W b)∧RxF W h kids ks1∧RxF W h rest ks'
def RxN(W:Nat→Prop)(h:ac)(b:Nat)(sl:ByteArray)(w:Option ByteArray)(F:Fo):Prop:=∃val s ow ks,h[b]? =some (.cells (EE sl w.isSome val s ow) bM (0,0))∧val=w.getD ⟨#[]⟩∧Sl xB 1 W h s ks∧(s.len≤s.cap∧¬W b)∧RxF W h F ks
def Kid(W:Nat→Prop)(h:ac)(k:Option Addr)(n:Bn):Prop:=∃b sl,k=some ⟨b,0,none⟩∧sl.data.toList=n.1∧RxN W h b sl n.2.1 n.2.2
def RxL(W:Nat→Prop)(h:ac)(ks:List (Option Addr))(L:List Bn):Prop:=ks.length=L.length∧∀p∈ks.zip L,Kid W h p.1 p.2
theorem qI{W:Nat→Prop}{h:ac}:∀{F:Fo} {ks:List (Option Addr)},RxF W h F ks↔RxL W h ks F.toL
 | .nil,ks=>by
  unfold RxF RxL;simp[Fo.toL]
 | .cons lab w kids rest,ks=>by
  unfold RxF RxL;rw[Fo.toL_cons];constructor
  ·rintro⟨b,sl,val,s,ow,c,d,rfl,n,g,o,f,j,i,u⟩
   obtain⟨q,t⟩:=qI.1 u;refine⟨by simp[q],fun p a=>?_⟩
   rw[ib]at a;rcases aq.1 a with rfl|a
   ·exact⟨b,sl,rfl,n,val,s,ow,c,g,o,f,j,i⟩
   ·exact t p a
  ·cases ks with
   |nil=>rintro⟨e,_⟩;simp at e
   |cons k d=>
    rintro⟨e,a⟩;rw[ib]at a;obtain⟨b,sl,v,n,val,s,ow,c,g,o,f,j,i⟩:=a _ (au ..);refine⟨b,sl,val,s,ow,c,d,by rw[←v],n,g,o,f,j,i,qI.2 ⟨by simpa using e,fun p m=>a p (aG _ m)⟩⟩
theorem RxF.upd0{W:Nat→Prop}{h h':ac}(k:Upd No h h'):∀{F:Fo} {ks:List (Option Addr)},RxF W h F ks→RxF W h' F ks
 | .nil,_,r=>r
 | .cons _ _ _ _,_,⟨b,sl,val,s,ow,ks1,ks',e0,e1,e2,e3,e4,e5,e6,e7⟩=>⟨b,sl,val,s,ow,ks1,ks',e0,e1,k.get0 e2,e3,e4.upd k fun _ h=>h.elim,e5,RxF.upd0 k e6,RxF.upd0 k e7⟩
theorem RxN.upd0{W:Nat→Prop}{h h':ac}(k:Upd No h h'){b:Nat}{sl:ByteArray}{w:Option ByteArray}{F:Fo}:RxN W h b sl w F→RxN W h' b sl w F
 |⟨val,s,ow,ks,e2,e3,e4,e5,e6⟩=>⟨val,s,ow,ks,k.get0 e2,e3,e4.upd k fun _ h=>h.elim,e5,RxF.upd0 k e6⟩
theorem Kid.upd0{W:Nat→Prop}{h h':ac}(k:Upd No h h'){a:Option Addr}{n:Bn}:Kid W h a n→Kid W h' a n
 |⟨b,sl,e1,e2,e3⟩=>⟨b,sl,e1,e2,e3.upd0 k⟩
theorem RxF.less{W W':Nat→Prop}{h:ac}(hm:∀b,W' b→W b∨h.size≤b):∀{F:Fo} {ks:List (Option Addr)},RxF W h F ks→RxF W' h F ks
 | .nil,_,r=>r
 | .cons _ _ _ _,_,⟨b,sl,val,s,ow,ks1,ks',e0,e1,e2,e3,e4,e5,e6,e7⟩=>⟨b,sl,val,s,ow,ks1,ks',e0,e1,e2,e3,e4.less hm,⟨e5.1,fun hx=>(hm _ hx).elim e5.2 fun h=>by have:=bF e2;omega⟩,RxF.less hm e6,RxF.less hm e7⟩
theorem RxN.less{W W':Nat→Prop}{h:ac}(hm:∀b,W' b→W b∨h.size≤b){b:Nat}{sl:ByteArray}{w:Option ByteArray}{F:Fo}:RxN W h b sl w F→RxN W' h b sl w F
 |⟨val,s,ow,ks,e2,e3,e4,e5,e6⟩=>⟨val,s,ow,ks,e2,e3,e4.less hm,⟨e5.1,fun hx=>(hm _ hx).elim e5.2 fun h=>by have:=bF e2;omega⟩,RxF.less hm e6⟩
theorem RxF.updM{W M:Nat→Prop}{h h':ac}(k:Upd M h h')(hm:∀b,M b→W b∨h.size≤b):∀{F:Fo} {ks:List (Option Addr)},RxF W h F ks→RxF W h' F ks
 | .nil,_,r=>r
 | .cons _ _ _ _,_,⟨b,sl,val,s,ow,ks1,ks',e0,e1,e2,e3,e4,e5,e6,e7⟩=>⟨b,sl,val,s,ow,ks1,ks',e0,e1,k.get e2 (fun hx=>(hm _ hx).elim e5.2 fun h=>by have:=bF e2;omega),e3,e4.upd k hm,e5,RxF.updM k hm e6,RxF.updM k hm e7⟩
theorem RxN.updM{W M:Nat→Prop}{h h':ac}(k:Upd M h h')(hm:∀b,M b→W b∨h.size≤b){b:Nat}{sl:ByteArray}{w:Option ByteArray}{F:Fo}:RxN W h b sl w F→RxN W h' b sl w F
 |⟨val,s,ow,ks,e2,e3,e4,e5,e6⟩=>⟨val,s,ow,ks,k.get e2 (fun hx=>(hm _ hx).elim e5.2 fun h=>by have:=bF e2;omega),e3,e4.upd k hm,e5,RxF.updM k hm e6⟩
theorem RxL.upd0{W:Nat→Prop}{h h':ac}(k:Upd No h h'){ks:List (Option Addr)}{L:List Bn}(r:RxL W h ks L):RxL W h' ks L:=⟨r.1,fun p a=>(r.2 p a).upd0 k⟩
theorem RxL.app{W:Nat→Prop}{h:ac}{ks b:List (Option Addr)}{L L':List Bn}(r:RxL W h ks L)(c:RxL W h b L'):RxL W h (ks++b) (L++L'):=by
 refine⟨by rw[ae,ae,r.1,c.1],fun p a=>?_⟩
 rw[List.zip_append r.1]at a;rcases List.mem_append.1 a with a|a
 ·exact r.2 p a
 ·exact c.2 p a
theorem RxL.one{W:Nat→Prop}{h:ac}{k:Option Addr}{n:Bn}(c:Kid W h k n):RxL W h [k] [n]:=⟨rfl,fun p a=>by rw[ib,List.zip_nil_left]at a;rw[aB.1 a];exact c⟩
theorem RxL.take{W:Nat→Prop}{h:ac}{ks:List (Option Addr)}{L:List Bn}(r:RxL W h ks L)(i:Nat):RxL W h (ks.take i) (L.take i):=by
 refine⟨by rw[aJ,aJ,r.1],fun p a=>r.2 p ?_⟩
 have:(ks.take i).zip (L.take i)=(ks.zip L).take i:=by rw[lZ,lZ,List.take_zipWith]
 rw[this]at a;exact lh a
theorem RxL.drop{W:Nat→Prop}{h:ac}{ks:List (Option Addr)}{L:List Bn}(r:RxL W h ks L)(i:Nat):RxL W h (ks.drop i) (L.drop i):=by
 refine⟨by rw[aI,aI,r.1],fun p a=>r.2 p ?_⟩
 have:(ks.drop i).zip (L.drop i)=(ks.zip L).drop i:=by rw[lZ,lZ,List.drop_zipWith]
 rw[this]at a;exact List.mem_of_mem_drop a
theorem RxL.ins{W:Nat→Prop}{h:ac}{ks:List (Option Addr)}{L:List Bn}(r:RxL W h ks L)(i:Nat){k:Option Addr}{n:Bn}(c:Kid W h k n):RxL W h (ks.take i++k::ks.drop i) (L.take i++n::L.drop i):=by
 have:=(r.take i).app ((RxL.one c).app (r.drop i));exact this
theorem RxL.set{W:Nat→Prop}{h:ac}{ks:List (Option Addr)}{L:List Bn}(r:RxL W h ks L){i:Nat}(hi:i<L.length){k:Option Addr}{n:Bn}(c:Kid W h k n):RxL W h (ks.set i k) (L.set i n):=by
 have:=(r.take i).app ((RxL.one c).app (r.drop (i+1)));rw[dN,dN,if_pos (by rw[r.1];exact hi),if_pos hi];exact this
theorem RxL.at{W:Nat→Prop}{h:ac}{ks:List (Option Addr)}{L:List Bn}(r:RxL W h ks L){i:Nat}(hi:i<L.length):∃b sl,ks[i]? =some (some ⟨b,0,none⟩)∧sl.data.toList=L[i].1∧RxN W h b sl L[i].2.1 L[i].2.2:=by
 have c:i<ks.length:=by rw[r.1];exact hi
 have a:i<(ks.zip L).length:=by rw[List.length_zip];omega
 have:=r.2 _ (aU a);rw[List.getElem_zip]at this;obtain⟨b,sl,e,d,f⟩:=this;exact⟨b,sl,by rw[al c];exact congrArg some e,d,f⟩
theorem AC:∀{L:List Bn} {c:Nat},L.Pairwise (fun m n=>hd m.1<hd n.1)→(∀n∈L,c≤hd n.1)→L= []∨c+L.length≤256
 | [],_,_,_=>.inl rfl
 |n::L,c,a,hc=>by
  have a:=bd.1 a;have b:=hc n (au ..);have d:=Sb n.1;rcases AC (c:=hd n.1+1) a.2 fun m hm=>a.1 m hm with e|e
  ·rw[e];right;simp only[aD];omega
  ·right;rw[aN];omega
theorem pj{F:Fo}(h:gf F):F.toL.length≤256:=by
 rcases AC (c:=0) (gJ.1 h).1 fun _ _=>aP _ with e|e
 ·rw[e];simp
 ·omega
theorem fL{h:ac}{b i:Nat}{c:Array Value}(hb:h[b]? =some (.cells c bM (0,0))):aX h (adr ⟨b,0,none⟩ i)=c[i]?:=by rw[bB,aA];exact aL hb
theorem Sz{h:ac}{b i:Nat}{c:Array Value}(hb:h[b]? =some (.cells c bM (0,0))) (hi:i<c.size):Wr h (adr ⟨b,0,none⟩ i):=by rw[bB,aA];exact f6 hb hi
theorem JP{h:ac}{b i:Nat}{c c':Array Value}{v:Value}{k:ac→Prop}(hb:h[b]? =some (.cells c bM (0,0))) (e:c.setIfInBounds i v=c') (f:∀h',h'[b]? =some (.cells c' bM (0,0))→Upd (· =b) h h'→k h'):At (hset h (adr ⟨b,0,none⟩ i) v) k:=by
 rw[bB,aA];exact yv hb fun h' a d=>f h' (e▸a) d
theorem Ir(s:ByteArray)(i:Nat):s[i]? =s.data.toList[i]?:=by
 rw[Array.getElem?_toList];by_cases h:i<s.size
 ·rw[getElem?_pos s i h,getElem?_pos s.data i h];rfl
 ·rw[getElem?_neg s i h,getElem?_neg s.data i h]
theorem Pu{s:ByteArray}(a:s.data.toList≠[]):∃c:UInt8,s[0]? =some c∧c.toNat=hd s.data.toList:=by
 rw[Ir];match s.data.toList,a with
 |c::l,_=>exact⟨c,rfl,rfl⟩
theorem M2{W:Nat→Prop}{h:ac}{b:Nat}{sl:ByteArray}{w:Option ByteArray}{F:Fo}(r:RxN W h b sl w F)(hc:gf F){c:Nat}(hc8:c<256){K:Int×Bool→ac→Prop}
  (D:∀i ok,i≤F.toL.length→(∀j (y:j<F.toL.length),j<i→hd F.toL[j].1<c)→(∀j (y:j<F.toL.length),i≤j→c≤hd F.toL[j].1)→(ok=true↔∃hi:i<F.toL.length,hd F.toL[i].1=c)→K ((i:Int),ok) h):HC PG nC [.pointer (some ⟨b,0,none⟩),.int .u8 c] [.c (.int .i64),.c .bool] K h:=by
 refine zK _ c ?_;unfold sE bj;obtain⟨val,s,ow,ks,hb,_,U,Y,hF⟩:=r;refine⟨_,rfl,s,fL (i:=3) hb,?_⟩;have S:=qI.1 hF;have e:=gJ.1 hc;have hn:=pj hc;have p:=U.len;rw[S.1]at p;generalize hLe:F.toL=L at S e hn p D;refine fU s c _ ?_;unfold dD aR cx vt JA
 have E:∀{i:Nat} (hi:i<L.length) {K:Int→ac→Prop},K ((hd L[i].1:Int)-(c:Int)) h→∃a,s.a=some a∧∃v,aX h (adr a (i*1))=some (.pointer v)∧HV PG (.func (.func lP) #[] #[]) [.pointer v,.int .u8 c] [.c (.int .i64)] K h:=by
  intro i hi K D;obtain⟨kb,G,R,C,O⟩:=S.at hi;obtain⟨a,ha,_,hv⟩:=U.at0 R;refine⟨a,ha,_,hv,HV.mk' (xh (some ⟨kb,0,none⟩) c ?_)⟩;unfold qB bK;obtain⟨kval,kss,kow,kks,H,_⟩:=O;have N:G.data.toList≠[]:=by rw[C];exact(e.2 _ (aU hi)).1
  obtain⟨u,hu,Q⟩:=Pu N;refine⟨_,rfl,G,fL (i:=0) H,u,Int.le_refl _,hu,?_⟩;simp only[Bd];have d:=Sb L[i].1;rw[Q,C,kE (x:=(hd L[i].1:Int)) (by omega),kE (x:=(c:Int)) (by omega),kE (by omega)];exact D
 have mono:∀i j (hi:i<L.length) (y:j<L.length),i<j→hd L[i].1<hd L[j].1:=fun i j hi y f=>List.pairwise_iff_getElem.1 e.1 i j hi y f
 refine LoopP.ghost (fun(g:Nat×Nat) (t:Int×Int) h'=>t.1=(g.1:Int)∧t.2=(g.2:Int)∧g.1≤g.2∧g.2≤L.length∧h'=h∧(∀j (y:j<L.length),j<g.1→hd L[j].1<c)∧(∀j (y:j<L.length),g.2≤j→c≤hd L[j].1)) (fun g=>g.2-g.1) (0,L.length)
  ⟨rfl,by simp only;omega,by simp,by simp,rfl,fun j y h=>by omega,fun j y h=>by simp only at h;omega⟩ ?_
 rintro I ⟨i,j⟩ ⟨ti,tj⟩ h' ⟨e1,e2,f,n,rfl,k,o⟩ X;simp only at e1 e2 f n k o;subst e1 e2;refine aw (fun d=>?_) fun P=>?_
 ·have d:i<j:=by have:(i:Int)<(j:Int):=d;omega
  have em:IntKind.wrap .i64 (Int.fdiv (IntKind.wrap .u64 (IntKind.wrap .i64 ((i:Int)+(j:Int)))) (2^(min (1:Int).toNat (IntKind.bits .u64))))=(((i+j)/2:Nat):Int):=by
   have e3:(2^(min (1:Int).toNat (IntKind.bits .u64)):Int)=2:=rfl;rw[e3,kE (x:=(i:Int)+(j:Int)) (by omega),Go.IntWalk.u64_in _ (by omega),Int.fdiv_eq_ediv_of_nonneg _ (by omega),kE (by omega)];omega
  refine⟨by decide,?_⟩;simp only[Bd];rw[em];generalize hm:(i+j)/2=m;have z:m<L.length:=by omega
  refine⟨by omega,?_⟩;refine E z ?_;refine aw (fun Z=>?_) fun V=>?_
  ·refine X (m+1,j) _ _ ⟨by simp only;rw[kE (by omega)];omega,rfl,by simp only;omega,n,rfl,fun q T A=>?_,o⟩ (by simp only;omega)
   simp only at A;rcases bV q m with h|h
   ·have:=mono q m T z h;omega
   ·have:q=m:=by omega
    subst this;omega
  ·refine X (i,m) _ _ ⟨rfl,rfl,by simp only;omega,by simp only;omega,rfl,k,fun q T A=>?_⟩ (by simp only;omega)
   simp only at A;rcases bV m q with h|h
   ·have:=mono m q z T h;omega
   ·have:q=m:=by omega
    subst this;omega
 ·have f:i=j:=by have:¬(i:Int)<(j:Int):=P;omega
  subst f;refine aw (fun d=>?_) fun J=>?_
  ·have B:i<L.length:=by have:(i:Int)<(s.len:Int):=d;omega
   refine⟨by simp only;omega,?_⟩;refine E B ?_;refine D i _ n k o ?_;rw[beq_iff_eq];exact⟨fun h=>⟨B,by omega⟩,fun⟨_,h⟩=>by omega⟩
  ·have B:i=L.length:=by have:¬(i:Int)<(s.len:Int):=J;omega
   exact D i false n k o ⟨fun h=>(by cases h),fun h=>(by obtain⟨h,_⟩:=h;omega)⟩
end Go.Proofs
