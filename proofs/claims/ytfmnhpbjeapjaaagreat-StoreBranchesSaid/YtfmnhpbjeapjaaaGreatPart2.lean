/- A part of the proof that the named laws of this program answer true, whatever the input. -/
import Derived.Test.YtfmnhpbjeapjaaaGreatPart1
import Derived.Test.YtfmnhpbjeapjaaaGreatLift3
import Derived.IntWalk
open Bool renaming eq_iff_iff→jg
open List renaming pairwise_cons→aQ,mem_cons→au,mem_filter→cF,any_eq_true→bZ,filter_sublist→gd,length_filter_le→dP,length_cons→az,mem_singleton→aw,getElem_mem→cR,mem_append→bq,mem_map→cX,map_cons→be,map_append→ce,pairwise_append→bP,mem_cons_of_mem→aI,mem_cons_self→ay,append_eq_nil_iff→iY,getElem_of_mem→bU,take_append_drop→aY,append_nil→bG,length_set→eI,pairwise_iff_getElem→dd,take_succ_cons→gc,drop_succ_cons→il,append_assoc→ax,range→dH,sum_append→ou,map_nil→mq,sum_cons→nn,mem_filterMap→lJ
open List.Pairwise renaming nil→dC
open Nat renaming zero_le→cj,lt_of_lt_of_le→aG,zero_add→aC,le_trans→bQ,le_refl→aq,not_lt→lI,add_zero→fe
open Option renaming isSome_iff_exists→fM,some→bE
open UInt8 renaming toNat_inj→li
namespace Go.Proofs
open Go.Lift
noncomputable instance memDec (p:Pr) (l:List Pr):Decidable (p∈l):=Classical.propDecidable _
theorem AD{l:List Pr}(b:di l){k v w:ByteArray}(a:(k,v)∈l)(c:(k,w)∈l):v=w:=by
 induction l with
 |nil=>cases a
 |cons q l ih=>
  have b:=aQ.1 b;rcases au.1 a with e|a<;>rcases au.1 c with d|c
  ·exact(Prod.mk.inj (e.trans d.symm)).2
  ·have:=b.1 _ c;rw[←e]at this;exact absurd this (cP _)
  ·have:=b.1 _ a;rw[←d]at this;exact absurd this (cP _)
  ·exact ih b.2 a c
theorem nt{x:Hs}{lev c:Nat}{l:List Pr}{p:Pr}:p∈part x lev c l↔p∈l∧ck x lev p.1=c:=by unfold part;rw[cF,decide_eq_true_iff]
theorem Gu{x:Hs}{lev:Nat}{l:List Pr}{k:ByteArray}:dQ (part x lev (ck x lev k) l) k=dQ l k:=by
 unfold dQ;rw[jg,bZ,bZ];constructor
 ·rintro⟨p,a,e⟩;exact⟨p,(nt.1 a).1,e⟩
 ·rintro⟨p,a,e⟩;exact⟨p,nt.2 ⟨a,by rw[of_decide_eq_true e]⟩,e⟩
theorem AE{x:Hs}{lev c:Nat}{l:List Pr}(a:di l):di (part x lev c l):=a.sublist gd
theorem AI{x:Hs}{lev c:Nat}{l:List Pr}:(part x lev c l).length≤l.length:=dP ..
def SlotIs(W:Nat→Prop)(x:Hs)(h:ac)(m:Nat)(s:Slots)(c:Nat)(l:List Pr):Prop:=
 (l= []∧s.p c=none∧s.k c=none)∨(∃p,l= [p]∧s.p c=some p∧s.k c=none)∨(2≤l.length∧s.p c=none∧∃kb,s.k c=some (some ⟨kb,0,none⟩)∧TrieAt W x h m kb l)
theorem SlotIs.upd0{W:Nat→Prop}{x:Hs}{h h':ac}{m:Nat}{s:Slots}{c:Nat}{l:List Pr}(k:Upd No h h')(t:SlotIs W x h m s c l):SlotIs W x h' m s c l:=t.imp id fun o=>o.imp id fun⟨a,f,b,e,d⟩=>⟨a,f,b,e,TrieAt.upd0 k d⟩
theorem Fx(p:Pr):∀{l:List Pr},l.length≤(eX p l).length
 | []=>cj _
 |q::l=>by
  rw[fC];split
  ·have:=Fx p (l:=l);simp only[az];omega
  ·split<;>simp
theorem IU{W:Nat→Prop}{x:Hs}{h h':ac}{m b':Nat}{s s':Slots}{l:List Pr}{p:Pr}(f:di l)(g:Upd No h h')(nd:NodeAt W h' b' s')(b:∀c,c<32→SlotIs W x h m s c (part x (12-m) c l))
  (a:∀c,c≠ck x (12-m) p.1→s'.p c=s.p c∧s'.k c=s.k c)(hi:SlotIs W x h' m s' (ck x (12-m) p.1) (eX p (part x (12-m) (ck x (12-m) p.1) l))):TrieAt W x h' (m+1) b' (eX p l):=by
 refine⟨s',nd,fun c hc=>?_⟩
 rw[Fa f];by_cases e:ck x (12-m) p.1=c
 ·rw[if_pos e];subst e;exact hi
 ·rw[if_neg e]
  have t:=SlotIs.upd0 g (b c hc);obtain⟨i,d⟩:=a c fun h=>e h.symm
  unfold SlotIs at t;rw[←i,←d]at t;exact t
theorem gC{a b:ByteArray}:(a.toList==b.toList)=decide (a=b):=by
 rw[jg,beq_iff_eq,decide_eq_true_iff,yj]
theorem NR{W:Nat→Prop}{x:Hs}:∀(m:Nat),m≤13→∀{b:Nat} {l:List Pr} (p:Pr) {h:ac},TrieAt W x h m b l→(∀y,W y→y<h.size)→di l→l.length≤1000000→∀{K:(Option Addr)×Bool×Bool→ac→Prop},
  (∀h' b' ch,Upd No h h'→TrieAt W x h' m b' (eX p l)→(ch=false→b'=b)→ch= !decide (p∈l)→K (some ⟨b',0,none⟩, !dQ l p.1,ch) h')→
  HC PG gj [Nc x p.1,.pointer (some ⟨b,0,none⟩),.agg #[.string p.1,.string p.2],.int .i64 ((13-m:Nat):Int)] [.c .ptr,.c .bool,.c .bool] K h:=by
 intro m;induction m with
 |zero=>
  intro _ b l p h t hW T hn K I;have V:∀{h'},Upd No h h'→∀y,W y→y<h'.size:=fun k y hy=>aG (hW y hy) k.size
  refine rp (x.k0,x.k1,x.mask,none,p.1,ir x p.1) (some ⟨b,0,none⟩) p ((13-0:Nat):Int) ?_;unfold mW ae al nv nW pf sF ai oT BV su qb Jk ED;have k1:=Upd.hnew No h [.int .u64 x.k0,.int .u64 x.k1,.int .u64 x.mask,.pointer none,.string p.1,.int .u64 (ir x p.1)] cq;have b1:=bN h [.int .u64 x.k0,.int .u64 x.k1,.int .u64 x.mask,.pointer none,.string p.1,.int .u64 (ir x p.1)] cq
  refine aX ?_;simp only[cr h];generalize hnew h [.int .u64 x.k0,.int .u64 x.k1,.int .u64 x.mask,.pointer none,.string p.1,.int .u64 (ir x p.1)] cq=A at k1 b1;have k2:=Upd.hnew No A [.string p.1,.string p.2] af;have b2:=bN A [.string p.1,.string p.2] af;refine aX ?_;simp only[cr A];generalize hnew A [.string p.1,.string p.2] af=f at k2 b2
  have u:∀{h':ac},Upd No f h'→∀i,aF h' (adr ⟨h.size,0,none⟩ i)=(#[.int .u64 x.k0,.int .u64 x.k1,.int .u64 x.mask,.pointer none,.string p.1,.int .u64 (ir x p.1)]:Array Value)[i]?:=fun k i=>by
   rw[bO,aP (k.get0 (k2.get0 b1)),aC]
  have C:∀{h':ac},Upd No f h'→∀i,aF h' (adr ⟨A.size,0,none⟩ i)=(#[.string p.1,.string p.2]:Array Value)[i]?:=fun k i=>by rw[bO,aP (k.get0 b2),aC]
  have r:=Upd.refl No f;have d:=k1.tr k2;have bk:BuckAt W f b l:=BuckAt.upd t d fun _ h=>h.elim
  obtain⟨sp,sk,ow,hb,_⟩:=bk.ex;refine nA hb (aB.2 ⟨_,C r 0,O8 bk T (by omega) p.1 fun J v G hv=>?_⟩)
  have put:∀(X:p∉l) {Z:ac},Upd No f Z→HC PG gZ [.pointer (some ⟨b,0,none⟩),.pointer none,.agg #[.string p.1,.string p.2]] [.c .ptr] (fun(e15:Option Addr) h16=>K (e15, !dQ l p.1,true) h16) Z:=fun X Z o=>
   Ef (bk.upd o fun _ h=>h.elim) (V (d.tr o)) T (by omega) p fun h5 b5 bk5 hu5=>by
    rw[zV p T]at bk5;exact I h5 b5 true ((d.tr o).tr hu5) bk5 (fun h=>by cases h) (by rw[decide_eq_false X];rfl)
  refine Join.intro (fun t' h'=>t'=decide (p∈l)∧Upd No f h') (fun R hR=>?_) ?_
  ·cases F:dQ l p.1 with
   |false=>
    refine ak.2 (hR _ _ ⟨?_,G⟩);refine(decide_eq_false fun hm=>?_).symm
    have:dQ l p.1=true:=bZ.2 ⟨p,hm,decide_eq_true rfl⟩;rw[F]at this;cases this
   |true=>
    have hv:=hv F;refine aB.2 ⟨_,C G 1,hR _ _ ⟨?_,G⟩⟩;rw[gC,decide_eq_decide];constructor
    ·intro e
     have e:v=p.2:=e;rw[e]at hv;exact hv
    ·intro hm
     exact AD T hv (show(p.1,p.2)∈l from hm)
  ·rintro t' Z ⟨rfl,o⟩
   by_cases hm:p∈l
   ·rw[decide_eq_true hm]
    refine aB.2 ?_;have F:dQ l p.1=true:=bZ.2 ⟨p,hm,decide_eq_true rfl⟩;have:=I Z b false (d.tr o) (by rw[zU T hm];exact bk.upd o fun _ h=>h.elim) (fun _=>rfl) (by rw[decide_eq_true hm];rfl)
    rw[F]at this;exact this
   ·rw[decide_eq_false hm]
    refine ak.2 ⟨none,u o 3,_,C o 0,_,C o 1,put hm o⟩
 |succ m ih=>
  intro hm b l p h t hW T hn K I;have V:∀{h'},Upd No h h'→∀y,W y→y<h'.size:=fun k y hy=>aG (hW y hy) k.size
  have hl:13-(m+1)<13:=by omega
  have hlev:13-(m+1)=12-m:=by omega
  refine rp (x.k0,x.k1,x.mask,none,p.1,ir x p.1) (some ⟨b,0,none⟩) p ((13-(m+1):Nat):Int) ?_;unfold mW ae al nv nW pf sF ai oT BV su qb Jk ED;have k1:=Upd.hnew No h [.int .u64 x.k0,.int .u64 x.k1,.int .u64 x.mask,.pointer none,.string p.1,.int .u64 (ir x p.1)] cq;have b1:=bN h [.int .u64 x.k0,.int .u64 x.k1,.int .u64 x.mask,.pointer none,.string p.1,.int .u64 (ir x p.1)] cq
  refine aX ?_;simp only[cr h];generalize hnew h [.int .u64 x.k0,.int .u64 x.k1,.int .u64 x.mask,.pointer none,.string p.1,.int .u64 (ir x p.1)] cq=A at k1 b1;have k2:=Upd.hnew No A [.string p.1,.string p.2] af;have b2:=bN A [.string p.1,.string p.2] af;refine aX ?_;simp only[cr A];generalize hnew A [.string p.1,.string p.2] af=f at k2 b2
  have u:∀{h':ac},Upd No f h'→∀i,aF h' (adr ⟨h.size,0,none⟩ i)=(#[.int .u64 x.k0,.int .u64 x.k1,.int .u64 x.mask,.pointer none,.string p.1,.int .u64 (ir x p.1)]:Array Value)[i]?:=fun k i=>by
   rw[bO,aP (k.get0 (k2.get0 b1)),aC]
  have C:∀{h':ac},Upd No f h'→∀i,aF h' (adr ⟨A.size,0,none⟩ i)=(#[.string p.1,.string p.2]:Array Value)[i]?:=fun k i=>by rw[bO,aP (k.get0 b2),aC]
  have r:=Upd.refl No f;have d:=k1.tr k2;obtain⟨s,nd0,hs0⟩:=TrieAt.upd0 d t;have hs:∀c,c<32→SlotIs W x f m s c (part x (12-m) c l):=hs0;have tt:∀{h':ac},Upd No f h'→TrieAt W x h' (m+1) b l:=fun k=>TrieAt.upd0 (d.tr k) t
  obtain⟨d0,n0,sp0,sk0,ow0,hb0,_⟩:=nd0.ex;refine nA hb0 (ak.2 ⟨_,u r 5,MW hl ?_⟩);rw[hlev];have hi:=FM x (12-m) p.1;have S:=hs _ hi;have Y:=AE (x:=x) (lev:=12-m) (c:=ck x (12-m) p.1) T;have hnp:(part x (12-m) (ck x (12-m) p.1) l).length≤1000000:=bQ AI hn;have Q:p∈part x (12-m) (ck x (12-m) p.1) l↔p∈l:=by rw[nt];exact⟨fun h=>h.1,fun h=>⟨h,rfl⟩⟩
  have P:=Gu (x:=x) (lev:=12-m) (l:=l) (k:=p.1);have j:=fun{h':ac} {b':Nat} {s':Slots}=>IU (W:=W) (x:=x) (h:=f) (h':=h') (m:=m) (b':=b') (s:=s) (s':=s') (l:=l) (p:=p) T
  generalize hc:ck x (12-m) p.1=c at hi S Y hnp Q P j;generalize hlp:part x (12-m) c l=lc at S Y hnp Q P j;refine Fj nd0 hi fun J G=>?_
  have k4:=Upd.hnew No J [.string (⟨#[]⟩:ByteArray),.string (⟨#[]⟩:ByteArray)] af;have b4:=bN J [.string (⟨#[]⟩:ByteArray),.string (⟨#[]⟩:ByteArray)] af;refine aX ?_;simp only[cr J];generalize hnew J [.string (⟨#[]⟩:ByteArray),.string (⟨#[]⟩:ByteArray)] af=Z at k4 b4;have b4':Z[J.size]? =some (.cells #[.string Nx.1,.string Nx.2] af (0,0)):=b4
  refine KV (p:=MI (s.p c)) b4' fun h5 b5 hu5=>?_
  have a:Upd No f h5:=(G.tr k4).trans hu5 fun y hy=>.inr (by have hy:y=J.size:=hy;have:=G.size;omega)
  have w5:∀{h':ac},Upd No h5 h'→∀i,aF h' (adr ⟨J.size,0,none⟩ i)=(#[.string (MI (s.p c)).1,.string (MI (s.p c)).2]:Array Value)[i]?:=fun k i=>by rw[bO,aP (k.get0 b5),aC]
  have r5:=Upd.refl No h5;have O:=nd0.upd a fun _ h=>h.elim
  cases hsp:s.p c with
  |some y=>
   rw[hsp]at w5;obtain⟨B,hk0⟩:lc= [y]∧s.k c=none:=by
    rcases S with⟨_,f,_⟩|⟨q,A,f,J⟩|⟨_,f,_⟩
    ·rw[hsp]at f;cases f
    ·rw[hsp]at f;cases f;exact⟨A,J⟩
    ·rw[hsp]at f;cases f
   refine aB.2 ⟨y.1,w5 r5 0,y.2,w5 r5 1,p.1,C a 0,p.2,C a 1,?_⟩;rw[gC,gC];have hyl:y∈l:=(nt.1 (show y∈part x (12-m) c l by rw[hlp,B];exact aw.2 rfl)).1
   by_cases L:y.1=p.1
   ·have F:dQ l p.1=true:=bZ.2 ⟨y,hyl,decide_eq_true L⟩
    rw[F]at I;by_cases e2:y.2=p.2
    ·rw[decide_eq_true L,decide_eq_true e2]
     have hyp:y=p:=Prod.ext L e2;have w:p∈l:=hyp▸hyl;refine aB.2 ?_;exact I h5 b false (d.tr a) (by rw[zU T w];exact tt a) (fun _=>rfl) (by rw[decide_eq_true w];rfl)
    ·rw[decide_eq_true L,decide_eq_false e2]
     refine ak.2 ⟨y.1,w5 r5 0,p.1,C a 0,?_⟩;rw[gC,decide_eq_true L];refine aB.2 ⟨none,u a 3,p.1,C a 0,p.2,C a 1,?_⟩;refine rK O (V (d.tr a)) hi (fun _ _=>hk0) p fun h6 U nd6 g=>?_
     have N:p∉l:=fun hm=>by
      have:=Q.2 hm;rw[B]at this;exact e2 (by rw[aw.1 this])
     refine I h6 U true ((d.tr a).tr g) (j (a.tr g) nd6 hs (fun c' n=>⟨jZ n,jZ n⟩) ?_) (fun h=>by cases h) (by rw[decide_eq_false N];rfl)
     refine .inr (.inl ⟨p,?_,jF,jF⟩);rw[B,fC,if_neg (by rw[L];exact cP _),if_pos L]
   ·rw[decide_eq_false L]
    refine ak.2 ⟨y.1,w5 r5 0,p.1,C a 0,?_⟩;rw[gC,decide_eq_false L];refine ak.2 ⟨none,u a 3,_,u a 0,_,u a 1,_,u a 2,_,u a 3,_,u a 4,_,u a 5,y.1,w5 r5 0,y.2,w5 r5 1,p.1,C a 0,p.2,C a 1,?_⟩;have ew:IntKind.wrap .i64 (((12-m:Nat):Int)+1)=((13-m:Nat):Int):=by rw[gi (by omega)];omega
    rw[ew];refine M2 m y p (by omega) L (V (d.tr a)) fun h6 U t6 g=>⟨u (a.tr g) 3,?_⟩
    refine xL (O.upd g fun _ h=>h.elim) (V ((d.tr a).tr g)) hi (fun z hz=>by rw[hk0]at hz;cases hz) ⟨U,0,none⟩ fun h7 b7 nd7 E=>?_
    have F:dQ l p.1=false:=by
     rw[←P,B];unfold dQ;rw[List.any_cons,decide_eq_false L];rfl
    have N:p∉l:=fun hm=>by
     have:dQ l p.1=true:=bZ.2 ⟨p,hm,decide_eq_true rfl⟩;rw[F]at this;cases this
    rw[F]at I;refine I h7 b7 true (((d.tr a).tr g).tr E) (j ((a.tr g).tr E) nd7 hs (fun c' n=>⟨jZ n,jZ n⟩) ?_) (fun h=>by cases h) (by rw[decide_eq_false N];rfl)
    rw[B];exact .inr (.inr ⟨by rw[H7 L];omega,jF,U,jF,TrieAt.upd0 E t6⟩)
  |none=>
   refine ak.2 (DX O hi ?_);cases hsk:s.k c with
   |none=>
    have hlc:lc= []:=by
     rcases S with⟨A,_⟩|⟨q,_,f,_⟩|⟨_,_,kb,f,_⟩
     ·exact A
     ·rw[hsp]at f;cases f
     ·rw[hsk]at f;cases f
    refine aB.2 ⟨none,u a 3,p.1,C a 0,p.2,C a 1,?_⟩;refine rK O (V (d.tr a)) hi (fun _ _=>hsk) p fun h6 U nd6 g=>?_
    have F:dQ l p.1=false:=by rw[←P,hlc];rfl
    have N:p∉l:=fun hm=>by
     have:dQ l p.1=true:=bZ.2 ⟨p,hm,decide_eq_true rfl⟩;rw[F]at this;cases this
    rw[F]at I;refine I h6 U true ((d.tr a).tr g) (j (a.tr g) nd6 hs (fun c' n=>⟨jZ n,jZ n⟩) ?_) (fun h=>by cases h) (by rw[decide_eq_false N];rfl)
    rw[hlc];exact .inr (.inl ⟨p,rfl,jF,jF⟩)
   |some kp=>
    obtain⟨h2l,kb,rfl,tk⟩:2≤lc.length∧∃kb,kp=some ⟨kb,0,none⟩∧TrieAt W x f m kb lc:=by
     rcases S with⟨_,_,f⟩|⟨q,_,f,_⟩|⟨A,_,kb,f,J⟩
     ·rw[hsk]at f;cases f
     ·rw[hsp]at f;cases f
     ·rw[hsk]at f;cases f;exact⟨A,kb,rfl,J⟩
    refine ak.2 ⟨_,u a 0,_,u a 1,_,u a 2,_,u a 3,_,u a 4,_,u a 5,p.1,C a 0,p.2,C a 1,?_⟩;have ew:IntKind.wrap .i64 (((12-m:Nat):Int)+1)=((13-m:Nat):Int):=by rw[gi (by omega)];omega
    rw[ew];refine ih (by omega) p (TrieAt.upd0 a tk) (V (d.tr a)) Y hnp fun h6 U ch g t6 hsame H=>?_
    have D:=a.tr g;by_cases w:p∈l
    ·have H:ch=false:=by rw[H,decide_eq_true (Q.2 w)];rfl
     have F:dQ l p.1=true:=bZ.2 ⟨p,w,decide_eq_true rfl⟩;rw[F]at I;rw[H];refine aB.2 ?_;exact I h6 b false (d.tr D) (by rw[zU T w];exact tt D) (fun _=>rfl) (by rw[decide_eq_true w];rfl)
    ·have H:ch=true:=by rw[H,decide_eq_false fun h=>w (Q.1 h)];rfl
     rw[H];refine ak.2 ⟨none,u D 3,?_⟩;refine xL (O.upd g fun _ h=>h.elim) (V ((d.tr a).tr g)) hi (fun _ _=>hsp) ⟨U,0,none⟩ fun h7 b7 nd7 E=>?_
     rw[P];refine I h7 b7 true ((d.tr D).tr E) (j (D.tr E) nd7 hs (fun c' n=>⟨jZ n,jZ n⟩) ?_) (fun h=>by cases h) (by rw[decide_eq_false w];rfl)
     exact .inr (.inr ⟨bQ h2l (Fx p),jF,U,jF,TrieAt.upd0 E t6⟩)
end Go.Proofs
namespace Go.Proofs
open Go.Lift
theorem EJ{W:Nat→Prop}{x:Hs}{h:ac}{m b:Nat}(nd:NodeAt W h b ⟨fun _=>none,fun _=>none⟩):TrieAt W x h (m+1) b []:=⟨_,nd,fun _ _=>.inl ⟨rfl,rfl,rfl⟩⟩
def RootAt(W:Nat→Prop)(x:Hs)(h:ac)(r:Option Addr)(l:List Pr):Prop:=(r=none∧l= [])∨∃b,r=some ⟨b,0,none⟩∧TrieAt W x h 13 b l
theorem RootAt.upd0{W:Nat→Prop}{x:Hs}{h h':ac}{r:Option Addr}{l:List Pr}(k:Upd No h h')(t:RootAt W x h r l):RootAt W x h' r l:=t.imp id fun⟨b,e,t⟩=>⟨b,e,TrieAt.upd0 k t⟩
theorem Ih{W:Nat→Prop}{x:Hs}{h:ac}{r:Option Addr}{l:List Pr}(t:RootAt W x h r l)(d:∀y,W y→y<h.size){K:Option Addr→ac→Prop}(a:∀h' b,TrieAt W x h' 13 b l→Upd No h h'→(r=some ⟨b,0,none⟩∨r=none)→K (some ⟨b,0,none⟩) h'):HC PG j9 [.pointer r] [.c .ptr] K h:=by
 refine Es r ?_;unfold xx;rcases t with⟨rfl,rfl⟩|⟨b,rfl,t⟩
 ·refine aB.2 (uD ?_)
  unfold qZ;exact oV d fun h' b nd c=>a h' b (EJ nd) c (.inr rfl)
 ·exact ak.2 (a h b t (Upd.refl _ _) (.inl rfl))
theorem dW{h:ac}{b:Nat}{t:TypeId}{c vs:List Value}(a:h[b]? =some (.cells c.toArray t (0,0))) (f:vs.length=c.length) {k:ac→Prop}
  (d:∀h',h'[b]? =some (.cells vs.toArray t (0,0))→Upd (· =b) h h'→k h'):rk h (some ⟨b,0,none⟩) 0 vs∧At (ie h ⟨b,0,none⟩ 0 vs) k:=by
 have e:=gV vs h 0 0 c a (by omega);refine⟨.inr ⟨_,rfl,fun j g=>by rw[bO];exact gR a (by rw[List.size_toArray];omega)⟩,aX ?_⟩
 rw[e];refine d _ ?_ (Upd.set h _ rfl);rw[gL a];congr 3
 simp[f]
set_option maxRecDepth 4000 in
theorem FP{W:Nat→Prop}{x:Hs}{h:ac}{r:Option Addr}{l:List Pr}(t:RootAt W x h r l)(R:∀y,W y→y<h.size)(X:di l)(Y:l.length≤1000000)(p:Pr){K:Option Addr×Bool→ac→Prop}
  (Z:∀h' b',Upd No h h'→TrieAt W x h' 13 b' (eX p l)→(p∈l→r=some ⟨b',0,none⟩∨r=none)→K (some ⟨b',0,none⟩, !dQ l p.1) h'):
  HC PG tq [.agg #[.int .u64 x.k0,.int .u64 x.k1,.int .u64 x.mask],.pointer none,.pointer r,.agg #[.string p.1,.string p.2]] [.c .ptr,.c .bool] K h:=by
 refine F9 (x.k0,x.k1,x.mask) none r p ?_;unfold zw ae al eg Gh Cy pf sF ai Nw NC BV;have k1:=Upd.hnew No h [.int .u64 x.k0,.int .u64 x.k1,.int .u64 x.mask] cx;have b1:=bN h [.int .u64 x.k0,.int .u64 x.k1,.int .u64 x.mask] cx;refine aX ?_;simp only[cr h];generalize hnew h [.int .u64 x.k0,.int .u64 x.k1,.int .u64 x.mask] cx=h1 at k1 b1
 have O:=Upd.hnew No h1 [.string p.1,.string p.2] af;have b2:=bN h1 [.string p.1,.string p.2] af;refine aX ?_;simp only[cr h1];generalize hnew h1 [.string p.1,.string p.2] af=h2 at O b2;have e:∀{h':ac},Upd No h2 h'→∀i,aF h' (adr ⟨h.size,0,none⟩ i)=(#[.int .u64 x.k0,.int .u64 x.k1,.int .u64 x.mask]:Array Value)[i]?:=fun k i=>by
  rw[bO,aP (k.get0 (O.get0 b1)),aC]
 have n:∀{h':ac},Upd No h2 h'→∀i,aF h' (adr ⟨h1.size,0,none⟩ i)=(#[.string p.1,.string p.2]:Array Value)[i]?:=fun k i=>by rw[bO,aP (k.get0 b2),aC]
 have s:=Upd.refl No h2;have q:=k1.tr O;let C:List Value:= [.int .u64 0,.int .u64 0,.int .u64 0,.pointer none,.string (⟨#[]⟩:ByteArray),.int .u64 0]
 let D:List Value:= [.int .u64 x.k0,.int .u64 x.k1,.int .u64 x.mask,.pointer none,.string p.1,.int .u64 (ir x p.1)]
 have A:∀{g:ac} {b:Nat},Upd No h2 g→g[b]? =some (.cells D.toArray cq (0,0))→
   ∃v15:Int,aF g (adr ⟨b,0,none⟩ 0)=some (.int .u64 v15)∧
    ∃v16:Int,aF g (adr ⟨b,0,none⟩ 1)=some (.int .u64 v16)∧
    ∃v17:Int,aF g (adr ⟨b,0,none⟩ 2)=some (.int .u64 v17)∧
    ∃v18:Option Addr,aF g (adr ⟨b,0,none⟩ 3)=some (.pointer v18)∧
    ∃v19:ByteArray,aF g (adr ⟨b,0,none⟩ 4)=some (.string v19)∧
    ∃v20:Int,aF g (adr ⟨b,0,none⟩ 5)=some (.int .u64 v20)∧
    ∃v21:ByteArray,aF g (adr ⟨h1.size,0,none⟩ 0)=some (.string v21)∧
    ∃v22:ByteArray,aF g (adr ⟨h1.size,0,none⟩ 1)=some (.string v22)∧
    HC PG j9 [.pointer r] [.c .ptr] (fun(J:Option Addr) f=>
     ((aF f (adr ⟨h1.size,0,none⟩ 0)=some (.string v21)∧aF f (adr ⟨h1.size,0,none⟩ 1)=some (.string v22))∧
      ((aF f (adr ⟨b,0,none⟩ 0)=some (.int .u64 v15)∧aF f (adr ⟨b,0,none⟩ 1)=some (.int .u64 v16)∧aF f (adr ⟨b,0,none⟩ 2)=some (.int .u64 v17)∧aF f (adr ⟨b,0,none⟩ 3)=some (.pointer v18)∧aF f (adr ⟨b,0,none⟩ 4)=some (.string v19)∧aF f (adr ⟨b,0,none⟩ 5)=some (.int .u64 v20))∧
       HC PG gj [.agg #[.int .u64 v15,.int .u64 v16,.int .u64 v17,.pointer v18,.string v19,.int .u64 v20],.pointer J,.agg #[.string v21,.string v22],.int .i64 0] [.c .ptr,.c .bool,.c .bool] (fun(B:(Option Addr)×Bool×Bool) N=>
        K (B.1,B.2.1) N) f))) g:=fun{g b} d F=>by
  have m:∀{h':ac},Upd No g h'→∀i,aF h' (adr ⟨b,0,none⟩ i)=D.toArray[i]?:=fun k i=>by rw[bO,aP (k.get0 F),aC]
  have v:=Upd.refl No g;refine⟨_,m v 0,_,m v 1,_,m v 2,_,m v 3,_,m v 4,_,m v 5,p.1,n d 0,p.2,n d 1,?_⟩;refine Ih (t.upd0 (q.tr d)) (fun y z=>aG (R y z) (q.tr d).size) fun S G U c I=>?_
  have a:=d.tr c;refine⟨⟨n a 0,n a 1⟩,⟨m c 0,m c 1,m c 2,m c 3,m c 4,m c 5⟩,?_⟩;refine NR 13 (aq _) p U (fun y z=>aG (R y z) ((q.tr d).tr c).size) X Y fun Q E ch u V T L=>?_
  refine Z Q E ((q.tr a).tr u) V fun hm=>?_
  have H:E=G:=T (by rw[L,decide_eq_true hm];rfl);rw[H];exact I
 have own:∀{w g:ac} {b:Nat},h2.size≤b→Upd (· =b) w g→Upd No h2 w→Upd No h2 g:=fun H hu k=>k.trans hu fun y z=>.inr (z▸H)
 refine⟨_,e s 0,_,e s 1,_,e s 2,_,n s 0,_,e s 0,_,e s 1,_,e s 2,_,n s 0,?_,?_⟩
 ·refine zX fun w j=>⟨n j 0,⟨e j 0,e j 1,e j 2⟩,?_⟩
  have o:=Upd.hnew No w C cq;have P:=bN w C cq;have d:=j.tr o;refine aX ?_;simp only[cr w];refine⟨n d 0,⟨e d 0,e d 1,e d 2⟩,?_⟩;refine dW (vs:=D) P rfl fun S G c=>A (own j.size c d) G
 ·have o:=Upd.hnew No h2 C cq
  have P:=bN h2 C cq;refine aX ?_;simp only[cr h2];refine⟨n o 0,⟨e o 0,e o 1,e o 2⟩,n o 0,⟨e o 0,e o 1,e o 2⟩,?_⟩;refine zX fun S c=>?_
  have a:=o.tr c;refine⟨n a 0,⟨e a 0,e a 1,e a 2⟩,?_⟩;exact dW (vs:=D) (c.get0 P) rfl fun Q E u=>A (own (aq _) u a) E
end Go.Proofs
namespace Go.Proofs
open Go.Lift
abbrev Pv(b:UInt8):List Value:= [.int .u8 (b.toNat:Int)]
theorem Od(b:UInt8):(Pv b).length=1∧0<1:=⟨rfl,Nat.one_pos⟩
end Go.Proofs
namespace Go.Proofs
open Go.Lift
abbrev u32(x:Int):List Value:= [.int .u32 x]
theorem uS(x:Int):(u32 x).length=1∧0<1:=⟨rfl,Nat.one_pos⟩
abbrev Nums(W:Nat→Prop)(h:ac)(s:SliceV)(xs:List Int):Prop:=Sl u32 1 W h s xs
theorem Nums.at{W:Nat→Prop}{h:ac}{s:SliceV}{xs:List Int}(b:Nums W h s xs){i:Nat}(hi:i<xs.length):∃a,s.a=some a∧¬W a.block∧aF h (adr a (((i:Int)).toNat*1))=some (.int .u32 xs[i]):=
 b.at0 (g:=fun x=>.int .u32 x) (List.getElem?_eq_getElem hi)
theorem D1{W:Nat→Prop}{s:SliceV}{xs:List Int}{m:Value}{p:Int→Bool}(St:ac→Prop)(k:∀h,St h→Nums W h s xs)
  (y:∀h x (K:Bool→ac→Prop),St h→x∈xs→(∀h',St h'→K (p x) h')→HV PG m [.int .u32 x] [.c .bool] K h)
  (w:xs.length≤4611686018427387904){h:ac}(z:St h){K:Int→ac→Prop}(o:∀(n:Int) h',St h'→(n≥0↔∃x∈xs,p x=true)→K n h'):
  HC PG eG [.slice s.a s.len s.cap,m] [.c (.int .i64)] K h:=by
 refine i7 s m ?_;unfold f7 bB dw;refine LoopP.ghost (fun(i:Nat) (t:Int) h'=>t=(i:Int)∧St h'∧i≤xs.length∧∀x∈xs.take i,p x=false) (fun i=>xs.length-i) 0 ⟨rfl,z,cj _,by simp⟩ ?_
 rintro I i t h' ⟨rfl,f,hi,e⟩ u;have d:=k _ f;refine aE (fun b=>?_) (fun g=>?_)
 ·rw[d.len]at b
  have b:i<xs.length:=by omega
  obtain⟨a,v,_,hx⟩:=Nums.at d b;refine⟨by rw[d.len];omega,a,v,_,hx,?_⟩;refine y _ _ _ f (cR b) fun A c=>?_
  refine CondP.intro (fun q=>?_) (fun j=>?_)
  ·exact o _ _ c ⟨fun _=>⟨_,cR b,q⟩,fun _=>by omega⟩
  ·rw[ec b w]
   refine u (i+1) _ _ ⟨rfl,c,b,?_⟩ (by omega);rw[List.take_succ_eq_append_getElem b];intro x hx;rcases bq.1 hx with h|h
   ·exact e x h
   ·rw[aw.1 h];exact j
 ·rw[d.len]at g
  have:i=xs.length:=by omega
  subst this;rw[List.take_length]at e;exact o _ _ f ⟨fun h=>by omega,fun⟨x,hx,h⟩=>by rw[e x hx]at h;cases h⟩
theorem zF{W:Nat→Prop}{s:SliceV}{xs:List Int}{c:Value}{p:Int→Bool}(St:ac→Prop)(b:∀h,St h→Nums W h s xs)
  (f:∀h x (K:Bool→ac→Prop),St h→x∈xs→(∀h',St h'→K (p x) h')→HV PG c [.int .u32 x] [.c .bool] K h)
  (a:xs.length≤4611686018427387904){h:ac}(g:St h){K:Bool→ac→Prop}(e:∀h',St h'→K (xs.any p) h'):
  HC PG fp [.slice s.a s.len s.cap,c] [.c .bool] K h:=by
 refine mC s c ?_;unfold ig;refine D1 St b f a g fun n h' d a=>?_
 have:decide (n≥0)=xs.any p:=by
  rw[jg,decide_eq_true_iff,a,bZ]
 rw[this];exact e _ d
theorem LC{W:Nat→Prop}{h:ac}{s:SliceV}{xs:List Int}(d:Nums W h s xs)(k:xs.length*4≤140737488355328){K:SliceV→ac→Prop}
  (i:∀s' h',OwnS u32 1 mD (fun b=>h.size≤b) h' s' xs→Upd No h h'→(s.a=none→xs= [])→K s' h'):HC PG ib [.slice s.a s.len s.cap] [.c .slice] K h:=by
 refine qW s ?_;unfold kV;refine CondP.intro (fun g=>?_) (fun c=>?_)
 ·have g:s.a=none:=by simpa using g
  have hx:xs= []:=by
   by_cases hx:xs= []
   ·exact hx
   ·obtain⟨a,j,_⟩:=d.row hx
    rw[g]at j;cases j
  subst hx;exact i _ _ (OwnS.nil uS) (Upd.refl _ _) fun _=>rfl
 ·have m:=d.upd (Upd.hnew No h [] mD) (fun _ h=>h.elim)
  refine⟨_,m.srow,?_⟩;refine AppP.own (f:=u32) (M:=fun b=>h.size≤b) (xs:= []) (ys:=xs) ⟨rfl,uS,aq _,.inl rfl⟩ d.len rfl ?_ rfl (by omega) (by simpa using k) (by rw[gX];omega) fun s' h' n p=>?_
  ·clear i d m k
   induction xs with
   |nil=>rfl
   |cons x xs ih=>rw[List.flatMap_cons];exact ih
  ·refine i _ _ n ((Upd.hnew No h [] mD).trans p fun b o=>.inr o) fun e=>?_
   rw[e]at c;cases c
end Go.Proofs
namespace Go.Proofs
open Go.Lift
abbrev KE:KeyE Int:=PR .u32
abbrev fu:=List (Int×List Int)
def Rep(W:Nat→Prop)(h:ac)(m:List (Int×SliceV))(L:fu):Prop:=
 ∀id,(∃s ps,dh m id=some s∧dh L id=some ps∧Nums W h s ps)∨(dh m id=none∧dh L id=none)
structure GraphAt(W:Nat→Prop)(h:ac)(gp gm:Nat)(L:fu)(nx:Int):Prop where
 blk:h[gp]? =some (.cells #[.map (some gm),.int .u32 nx] m4 (0,0))
 map:∃m,MapAt KE sv h gm m∧Rep W h m L
 wp:W gp
 wm:W gm
 lt:∀b,W b→b<h.size
 nd:(L.map (·.1)).Nodup
theorem Rep.upd{W M:Nat→Prop}{h h':ac}{m:List (Int×SliceV)}{L:fu}(r:Rep W h m L)(k:Upd M h h')(hm:∀b,M b→W b∨h.size≤b):Rep W h' m L:=fun id=>by
 rcases r id with⟨s,ps,e,c,d⟩|a
 ·exact .inl ⟨s,ps,e,c,d.upd k hm⟩
 ·exact .inr a
theorem GraphAt.upd{W M:Nat→Prop}{h h':ac}{gp gm:Nat}{L:fu}{nx:Int}(g:GraphAt W h gp gm L nx)(k:Upd M h h')(hm:∀b,M b→(W b∧b≠gp∧b≠gm)∨h.size≤b):GraphAt W h' gp gm L nx:=by
 have a:=g.lt;have f:¬M gp:=fun e=>(hm _ e).elim (fun e=>e.2.1 rfl) fun e=>absurd (a _ g.wp) (lI.2 e)
 have j:¬M gm:=fun e=>(hm _ e).elim (fun e=>e.2.2 rfl) fun e=>absurd (a _ g.wm) (lI.2 e)
 obtain⟨m,c,i⟩:=g.map;exact⟨k.get g.blk f,⟨m,c.upd k j,i.upd k fun b d=>(hm b d).imp (·.1) id⟩,g.wp,g.wm,fun b d=>aG (a b d) k.size,g.nd⟩
theorem GraphAt.upd0{W:Nat→Prop}{h h':ac}{gp gm:Nat}{L:fu}{nx:Int}(g:GraphAt W h gp gm L nx)(k:Upd No h h'):GraphAt W h' gp gm L nx:=g.upd k fun _ h=>h.elim
theorem GraphAt.c0{W:Nat→Prop}{h:ac}{gp gm:Nat}{L:fu}{nx:Int}(g:GraphAt W h gp gm L nx):aF h ⟨gp,0,none⟩=some (.map (some gm)):=by rw[aP g.blk];rfl
theorem GraphAt.c1{W:Nat→Prop}{h:ac}{gp gm:Nat}{L:fu}{nx:Int}(g:GraphAt W h gp gm L nx):aF h ⟨gp,1,none⟩=some (.int .u32 nx):=by rw[aP g.blk];rfl
abbrev ids(L:fu):List Int:=L.map (·.1)
theorem Lg{L:fu}{id:Int}:(dh L id).isSome=decide (id∈ids L):=by
 cases h:dh L id with
 |none=>rw[decide_eq_false (mR.1 h)];rfl
 |some v=>
  have:id∈ids L:=by
   by_cases hm:id∈ids L
   ·exact hm
   ·rw[mR.2 hm]at h;cases h
  rw[decide_eq_true this];rfl
theorem Rep.some{W:Nat→Prop}{h:ac}{m:List (Int×SliceV)}{L:fu}(r:Rep W h m L)(id:Int):(dh m id).isSome=decide (id∈ids L):=by
 rw[←Lg];rcases r id with⟨s,ps,b,a,_⟩|⟨b,a⟩<;>rw[b,a]<;>rfl
theorem Rep.len{W:Nat→Prop}{h:ac}{m:List (Int×SliceV)}{L:fu}(r:Rep W h m L)(c:(m.map (·.1)).Nodup)(a:(ids L).Nodup):m.length=L.length:=by
 have:(m.map (·.1)).Perm (ids L):=by
  rw[List.perm_ext_iff_of_nodup c a];intro id;have:=r.some id;have b:id∈m.map (·.1)↔(dh m id).isSome=true:=by
   cases hl:dh m id with
   |none=>simp[mR.1 hl]
   |some v=>
    simp only[Option.isSome_some,iff_true];by_cases hm:id∈m.map (·.1)
    ·exact hm
    ·rw[mR.2 hm]at hl;cases hl
  rw[b,this,decide_eq_true_iff]
 have:=this.length_eq;simpa using this
def Pu:List Int→Bool
 | [a,b]=>a==b
 |_=>false
def uh(ps:List Int):Int:=if ps.length>2∨Pu ps=true then 1 else 0
def oy(L:fu)(ps:List Int):Int:=if ps.any (fun p=> !decide (p∈ids L))then 4 else if L.length≥1024 then 6 else 0
theorem Iz{W:Nat→Prop}{h:ac}{gp gm:Nat}{L:fu}{nx:Int}(g:GraphAt W h gp gm L nx)(id:Int){K:Bool→ac→Prop}(b:K (decide (id∈ids L)) h):
  HC PG jw [.pointer (some ⟨gp,0,none⟩),.int .u32 id] [.c .bool] K h:=by
 refine xj (some ⟨gp,0,none⟩) id ?_;unfold qE bB;obtain⟨m,hm,a⟩:=g.map;refine CondP.intro (fun e=>by cases e) fun _=>⟨_,rfl,_,g.c0,_,_,hm.get id ⟨none,0,0⟩,?_⟩
 rw[a.some id];exact b
theorem ML{W:Nat→Prop}{h:ac}{p:Option Addr}{s:SliceV}{ps:List Int}(d:Nums W h s ps){K:Int→ac→Prop}(c:K (uh ps) h):
  HC PG l7 [.pointer p,.slice s.a s.len s.cap] [.c (.int .i64)] K h:=by
 refine xi p s ?_;unfold qD bB dw;refine Join.plain (aE (fun m=>?_) fun j=>CondP.intro (fun f=>?_) fun b=>?_)
 ·rw[d.len]at m
  rw[show uh ps=1 from if_pos (.inl (by omega))]at c
  exact aB.2 c
 ·rw[d.len]at f
  have f:ps.length=2:=by
   have:(ps.length:Int)=2:=by simpa using f
   omega
  obtain⟨a,n,_,hx⟩:=Nums.at d (i:=0) (by omega);obtain⟨a',k,_,o⟩:=Nums.at d (i:=1) (by omega);refine⟨by rw[d.len];omega,a,n,_,hx,by rw[d.len];omega,a',k,_,o,?_⟩
  have e:uh ps=if(ps[0]==ps[1])=true then 1 else 0:=by
   match ps,f with
   | [x,y],_=>simp[uh,Pu]
  rw[e]at c;exact CondP.intro (fun g=>by rw[if_pos g]at c;exact c) fun g=>by rw[if_neg (by rw[g];decide)]at c;exact c
 ·rw[d.len]at j b
  have b:ps.length≠2:=fun e=>by rw[e]at b;exact absurd b (by decide)
  have hd:Pu ps=false:=by
   match ps,b with
   | [],_=>rfl
   | [_],_=>rfl
   | [_,_],h=>exact absurd rfl h
   |_::_::_::_,_=>rfl
  rw[show uh ps=0 from if_neg (by rw[hd];simp;omega)]at c
  exact ak.2 c
theorem Ll{W:Nat→Prop}{h:ac}{gp gm:Nat}{L:fu}{nx:Int}(g:GraphAt W h gp gm L nx){s:SliceV}{ps:List Int}(o:Nums W h s ps)(v:ps.length≤4611686018427387904)
  {K:Int→ac→Prop}(c:∀h',Upd No h h'→K (oy L ps) h'):HC PG lA [.pointer (some ⟨gp,0,none⟩),.slice s.a s.len s.cap] [.c (.int .i64)] K h:=by
 refine vT (some ⟨gp,0,none⟩) s ?_;unfold pY bB;have j:=Upd.hnew No h [.pointer (some ⟨gp,0,none⟩)] nY;refine zF (p:=fun p=> !decide (p∈ids L)) (fun h'=>GraphAt W h' gp gm L nx∧Nums W h' s ps∧h'[h.size]? =some (.cells #[.pointer (some ⟨gp,0,none⟩)] nY (0,0))∧Upd No h h') (fun h' k=>k.2.1) ?_ v ⟨g.upd0 j,o.upd j fun _ h=>h.elim,bN h _ _,j⟩ ?_
 ·rintro h' x K ⟨b,d,f,a⟩ _ i
  refine HV.mk' (tK x ⟨h.size,0,none⟩ ?_);unfold nS IS;refine⟨_,by rw[aP f];rfl,?_⟩
  exact Iz b x (i h' ⟨b,d,f,a⟩)
 ·rintro h' ⟨b,d,f,a⟩
  obtain⟨m,hm,u⟩:=b.map;refine CondP.intro (fun t=>?_) fun e=>?_
  ·rw[show oy L ps=4 from if_pos t]at c
   exact c h' a
  ·refine⟨_,by rw[cr,aP f];rfl,_,rfl,_,b.c0,_,hm.len,?_⟩
   rw[u.len hm.nodup b.nd];refine aE (fun n=>?_) fun q=>?_
   ·rw[show oy L ps=6 from(if_neg (by rw[e];decide)).trans (if_pos (by omega))]at c
    exact c h' a
   ·rw[show oy L ps=0 from(if_neg (by rw[e];decide)).trans (if_neg (by omega))]at c
    exact c h' a
end Go.Proofs
namespace Go.Proofs
open Go.Lift
def rg(L:fu)(id:Int)(ps:List Int):fu:=L.takeWhile (fun v=>decide (v.1<id))++(id,ps)::L.dropWhile (fun v=>decide (v.1<id))
def i5(L:fu)(nx:Int)(ps:List Int):(Int×Int)×fu×Int:=
 if uh ps≠0 then((0,uh ps),L,nx)else if oy L ps≠0 then((0,oy L ps),L,nx)else if nx≥2147483648 then((0,6),L,nx)else((nx,0),rg L nx ps,nx+1)
def NS(L:fu)(nx:Int)(id:Int)(ps:List Int):Int×fu×Int:=
 if uh ps≠0∨id=0∨id≥2147483648∨ps.any (fun p=>decide (p≥id))=true then(1,L,nx)else if id∈ids L then(7,L,nx)else if oy L ps≠0 then(oy L ps,L,nx)else(0,rg L id ps,if id+1>nx then id+1 else nx)
abbrev Bs(a b:Nat):Nat→Prop:=fun x=>x=a∨x=b
theorem Dk{κ β:Type}[DecidableEq κ](l a:List (κ×β))(k:κ):dh (l++a) k=(dh l k).or (dh a k):=by
 induction l with
 |nil=>simp[dh]
 |cons p l ih=>
  obtain⟨k',u⟩:=p;simp only[List.cons_append,dh,ih];split<;>simp
theorem Ju{L:fu}{id:Int}{ps:List Int}(b:id∉ids L)(j:Int):dh (rg L id ps) j=if j=id then some ps else dh L j:=by
 have c:∀p:Int×List Int→Bool,dh L j=(dh (L.takeWhile p) j).or (dh (L.dropWhile p) j):=fun p=>by rw[←Dk,List.takeWhile_append_dropWhile]
 unfold rg;rw[Dk];simp only[dh];by_cases a:j=id
 ·subst a
  have:dh (L.takeWhile fun v=>decide (v.1<j)) j=none:=mR.2 fun hm=>b (by
   obtain⟨x,hx,e⟩:=cX.1 hm
   exact cX.2 ⟨x,List.takeWhile_subset _ hx,e⟩)
  rw[this];simp
 ·simp only[a,if_false]
  exact(c _).symm
theorem tX(L:fu)(id:Int)(ps:List Int):(rg L id ps).Perm ((id,ps)::L):=by
 unfold rg;refine List.perm_middle.trans ?_;rw[List.takeWhile_append_dropWhile]
theorem insV_ids{L:fu}{id:Int}{ps:List Int}:(ids (rg L id ps)).Perm (id::ids L):=(tX L id ps).map _
theorem Hl{L:fu}{id:Int}{ps:List Int}(h:(ids L).Nodup)(a:id∉ids L):(ids (rg L id ps)).Nodup:=by
 rw[insV_ids.nodup_iff];exact List.nodup_cons.2 ⟨a,h⟩
theorem Rep.put{W:Nat→Prop}{h h':ac}{m:List (Int×SliceV)}{L:fu}(r:Rep W h m L){id:Int}{s:SliceV}{ps:List Int}(d:∀s xs,Nums W h s xs→Nums W h' s xs)(b:Nums W h' s ps)(f:id∉ids L):Rep W h' (ke m id s) (rg L id ps):=fun j=>by
 rw[uc,Ju f];by_cases a:j=id
 ·simp only[a,if_true];exact .inl ⟨s,ps,rfl,rfl,b⟩
 ·simp only[a,if_false]
  rcases r j with⟨s,ps,c,i,e⟩|g
  ·exact .inl ⟨s,ps,c,i,d s ps e⟩
  ·exact .inr g
theorem GraphAt.ne{W:Nat→Prop}{h:ac}{gp gm:Nat}{L:fu}{nx:Int}(g:GraphAt W h gp gm L nx):gm≠gp:=fun e=>by
 obtain⟨m,⟨ms,c,hm,_⟩,_⟩:=g.map;have:=hm.here;rw[e,g.blk]at this;cases this
theorem GraphAt.put{W:Nat→Prop}{h:ac}{gp gm:Nat}{L:fu}{nx:Int}(g:GraphAt W h gp gm L nx){id:Int}{s:SliceV}{ps:List Int}(n:Nums W h s ps)(p:id∉ids L)(j:Int):
  GraphAt W (hset (ns h gm (.int .u32 id) (sv s)) ⟨gp,1,none⟩ (.int .u32 j)) gp gm (rg L id ps) j∧Upd (Bs gp gm) h (hset (ns h gm (.int .u32 id) (sv s)) ⟨gp,1,none⟩ (.int .u32 j))∧
   Wr (ns h gm (.int .u32 id) (sv s)) ⟨gp,1,none⟩∧aF (ns h gm (.int .u32 id) (sv s)) ⟨gp,1,none⟩=some (.int .u32 nx)∧Upd (Bs gp gm) h (ns h gm (.int .u32 id) (sv s)):=by
 obtain⟨m,hm,q⟩:=g.map;have f:=g.ne;have k1:Upd (· =gm) h (ns h gm (.int .u32 id) (sv s)):=wg h _ _ rfl
 have a:=k1.get g.blk (Ne.symm f);have o:Upd (· =gp) (ns h gm (.int .u32 id) (sv s)) (hset (ns h gm (.int .u32 id) (sv s)) ⟨gp,1,none⟩ (.int .u32 j)):=Upd.hset _ _ rfl
 have i:Upd (Bs gp gm) h (ns h gm (.int .u32 id) (sv s)):=k1.mono fun b d=>.inl (.inr d)
 have k:Upd (Bs gp gm) h (hset (ns h gm (.int .u32 id) (sv s)) ⟨gp,1,none⟩ (.int .u32 j)):=i.trans o fun b d=>.inl (.inl d)
 have c:∀b,Bs gp gm b→W b∨h.size≤b:=fun b d=>.inl (d.elim (fun e=>e▸g.wp) fun e=>e▸g.wm)
 refine⟨⟨?_,⟨_,(MapAt.put hm id s).upd o f,q.put (fun s xs n=>n.upd k c) (n.upd k c) p⟩,g.wp,g.wm,fun b d=>aG (g.lt b d) k.size,Hl g.nd p⟩,k,gR a (by simp),by rw[aP a];rfl,i⟩
 rw[wG a,gL a];rfl
theorem MM{W:Nat→Prop}{h:ac}{gp gm:Nat}{L:fu}{nx:Int}(g:GraphAt W h gp gm L nx)(D:0≤nx)(t:nx∉ids L){s:SliceV}{ps:List Int}(n:Nums W h s ps)(A:ps.length*4≤140737488355328)
  {K:Int×Int→ac→Prop}(c:∀h',Upd (Bs gp gm) h h'→GraphAt W h' gp gm (i5 L nx ps).2.1 (i5 L nx ps).2.2→K (i5 L nx ps).1 h'):
  HC PG l8 [.pointer (some ⟨gp,0,none⟩),.slice s.a s.len s.cap] [.c (.int .u32),.c (.int .i64)] K h:=by
 refine xk (some ⟨gp,0,none⟩) s ?_;unfold qF bB eC dJ EE;refine CondP.intro (fun e=>by cases e) fun _=>ML n ?_
 refine CondP.intro (fun a=>?_) fun a=>?_
 ·have a:uh ps≠0:=by simpa using a
  rw[show i5 L nx ps=_ from if_pos a]at c
  exact c h (Upd.refl _ _) g
 ·have a:¬uh ps≠0:=by simpa using a
  refine Ll g n (by omega) fun h' f=>?_
  refine CondP.intro (fun d=>?_) fun d=>?_
  ·have d:oy L ps≠0:=by simpa using d
   rw[show i5 L nx ps=_ from(if_neg a).trans (if_pos d)]at c
   exact c h' f.wide (g.upd0 f)
  ·have d:¬oy L ps≠0:=by simpa using d
   have i:=g.upd0 f;have u:=n.upd f fun _ h=>h.elim
   refine⟨_,rfl,_,i.c1,aE (fun p=>?_) fun p=>?_⟩
   ·rw[show i5 L nx ps=_ from(if_neg a).trans ((if_neg d).trans (if_pos p))]at c
    exact c h' f.wide i
   ·refine⟨_,rfl,_,i.c1,_,rfl,_,i.c0,LC u A fun s' q v j _=>?_⟩
    have k:=i.upd0 j;obtain⟨m,hm,E⟩:=k.map;have o:Nums W q s' ps:=v.sl fun b x _ C=>absurd (i.lt b C) (lI.2 x)
    obtain⟨w,z,B,y,_⟩:=k.put o t (nx+1);refine⟨k.c0,_,rfl,hm.isMap,_,rfl,_,y,_,rfl,B,?_⟩;rw[show IntKind.wrap .u32 (nx+1)=nx+1 from Go.IntWalk.u32_in _ (by omega)]
    rw[show i5 L nx ps=_ from(if_neg a).trans ((if_neg d).trans (if_neg p))]at c
    exact c _ ((f.wide.tr j.wide).tr z) w
end Go.Proofs
namespace Go.Proofs
open Go.Lift
theorem MK{h:ac}{K:Option Addr→ac→Prop}(d:∀h',Upd No h h'→GraphAt (Bs (h.size+1) h.size) h' (h.size+1) h.size [] 1→K (some ⟨h.size+1,0,none⟩) h'):
  HC PG df [] [.c .ptr] K h:=by
 refine F7 ?_;unfold zt;have k1:=Upd.push No h (.map #[] 0);have hm:MapAt KE sv (h.push (.map #[] 0)) h.size []:=MapAt.new h;have c:=Upd.hnew No (h.push (.map #[] 0)) [.map (some h.size),.int .u32 1] m4;have a:(h.push (.map #[] 0)).size=h.size+1:=by simp
 have:=d _ (k1.tr c) ⟨by
  have:=bN (h.push (.map #[] 0)) [.map (some h.size),.int .u32 1] m4
  rw[a]at this;exact this,⟨[],hm.upd c id,fun id=>.inr ⟨rfl,rfl⟩⟩,.inl rfl,.inr rfl,fun b e=>by rw[gX,a];rcases e with rfl|rfl<;>omega,List.nodup_nil⟩
 rw[←a]at this;exact this
end Go.Proofs
namespace Go.Proofs
open Go.Lift
abbrev parV(L:fu)(id:Int):List Int:=(dh L id).getD []
inductive UpG(L:fu):Int→Int→Prop
 |refl {a:Int}:a∈ids L→UpG L a a
 |step {a p b:Int}:a∈ids L→p∈parV L a→UpG L p b→UpG L a b
theorem UpG.left{L:fu}{a b:Int}(h:UpG L a b):a∈ids L:=by cases h<;>assumption
theorem GraphAt.more{W Q:Nat→Prop}{c h:ac}{gp gm:Nat}{L:fu}{nx:Int}(g:GraphAt W c gp gm L nx)(k:Upd No c h)(d:∀b,Q b→c.size≤b∧b<h.size):GraphAt (fun b=>W b∨Q b) h gp gm L nx:=by
 obtain⟨m,hm,f⟩:=g.map;refine⟨k.get0 g.blk,⟨m,hm.upd k id,fun j=>?_⟩,.inl g.wp,.inl g.wm,fun b a=>a.elim (fun a=>aG (g.lt b a) k.size) fun a=>(d b a).2,g.nd⟩
 rcases f j with⟨s,ps,e,n,i⟩|c
 ·exact .inl ⟨s,ps,e,n,(i.less fun b a=>a.imp id fun a=>(d b a).1).upd k fun _ h=>h.elim⟩
 ·exact .inr c
theorem GraphAt.less{W W':Nat→Prop}{h:ac}{gp gm:Nat}{L:fu}{nx:Int}(g:GraphAt W h gp gm L nx)(e:∀b,W' b→W b)(a:W' gp)(d:W' gm):GraphAt W' h gp gm L nx:=by
 obtain⟨m,hm,f⟩:=g.map;refine⟨g.blk,⟨m,hm,fun j=>?_⟩,a,d,fun b c=>g.lt b (e b c),g.nd⟩
 rcases f j with⟨s,ps,a,d,i⟩|k
 ·exact .inl ⟨s,ps,a,d,i.less fun b c=>.inl (e b c)⟩
 ·exact .inr k
end Go.Proofs
namespace Go.Proofs
open Go.Lift
structure Small(L:fu):Prop where
 two:∀v∈L,v.2.length≤2
 len:L.length≤100000
end Go.Proofs
namespace Go.Proofs
open Go.Lift
structure Good(L:fu):Prop extends Small L where
 up:(ids L).Pairwise (· < ·)
 par:∀v∈L,∀p∈v.2,p∈ids L∧p<v.1
theorem Good.nd{L:fu}(g:Good L):(ids L).Nodup:=g.up.imp fun h=>Int.ne_of_lt h
theorem Good.parV{L:fu}(g:Good L){a p:Int}(h:p∈parV L a):p∈ids L∧p<a∧a∈ids L:=by
 unfold Proofs.parV at h;cases hl:dh L a with
 |none=>rw[hl]at h;simp at h
 |some ps=>
  rw[hl]at h;have hm:=(Dj g.nd).1 hl;have:=g.par _ hm p (by simpa using h);exact⟨this.1,this.2,cX.2 ⟨_,hm,rfl⟩⟩
theorem UpG.snoc{L:fu}{a z w:Int}(h:UpG L a z)(b:w∈Proofs.parV L z)(hi:w∈ids L):UpG L a w:=by
 induction h with
 |refl h1=>exact .step h1 b (.refl hi)
 |step h1 h2 _ ih=>exact .step h1 h2 (ih b)
theorem UpG.right{L:fu}{a b:Int}(h:UpG L a b):b∈ids L:=by
 induction h with
 |refl h=>exact h
 |step _ _ _ ih=>exact ih
theorem UpG.last{L:fu}{a b:Int}(h:UpG L a b):b=a∨∃z,UpG L a z∧b∈Proofs.parV L z:=by
 induction h with
 |refl _=>exact .inl rfl
 | @step a p b h1 h2 h3 ih=>
  rcases ih with rfl|⟨z,c,d⟩
  ·exact .inr ⟨a,.refl h1,h2⟩
  ·exact .inr ⟨z,.step h1 h2 c,d⟩
theorem UpG.trans{L:fu}{a b c:Int}(h:UpG L a b)(k:UpG L b c):UpG L a c:=by
 induction h with
 |refl _=>exact k
 |step h1 h2 _ ih=>exact .step h1 h2 (ih k)
end Go.Proofs
namespace Go.Proofs
open Go.Lift
structure Inv(L:fu)(nx:Int):Prop where
 good:Good L
 pos:∀id∈ids L,1≤id∧id<nx
 nx1:1≤nx
 nx2:nx≤2147483648
 few:L.length≤1024
theorem Inv.nil:Inv [] 1:=⟨⟨⟨fun v a=>(by cases a),by simp⟩,dC,fun v a=>(by cases a)⟩,fun v a=>(by cases a),by omega,by omega,by simp⟩
theorem D8{id:Int}:∀{L:fu},(ids L).Pairwise (· < ·)→id∉ids L→∀v∈L.dropWhile (fun v=>decide (v.1<id)),id<v.1
 | [],_,_,v,a=>by cases a
 |u::L,hp,hn,v,a=>by
  simp only[ids,be,aQ,au,not_or]at hp hn;rw[List.dropWhile_cons]at a;split at a
  ·exact D8 hp.2 hn.2 v a
  ·rename_i h
   have h:¬u.1<id:=by simpa using h
   rcases au.1 a with rfl|a
   ·omega
   ·have:=hp.1 v.1 (cX.2 ⟨v,a,rfl⟩);omega
theorem Ic{id:Int}:∀{L:fu},∀v∈L.takeWhile (fun v=>decide (v.1<id)),v.1<id
 | [],v,a=>by cases a
 |u::L,v,a=>by
  rw[List.takeWhile_cons]at a;split at a
  ·rename_i h
   rcases au.1 a with rfl|a
   ·simpa using h
   ·exact Ic v a
  ·cases a
theorem C4{L:fu}(g:Good L){id:Int}{ps:List Int}(i:id∉ids L)(f:∀p∈ps,p∈ids L∧p<id)(k:ps.length≤2)(m:L.length<100000):Good (rg L id ps):=by
 have a:=tX L id ps;refine⟨⟨fun v b=>?_,by rw[a.length_eq];simp;omega⟩,?_,fun v b p c=>?_⟩
 ·rcases au.1 (a.mem_iff.1 b)with rfl|b
  ·exact k
  ·exact g.two v b
 ·unfold rg ids
  rw[ce,be,bP];refine⟨(g.up.sublist ((List.takeWhile_sublist _).map _)),aQ.2 ⟨fun y d=>?_,g.up.sublist ((List.dropWhile_sublist _).map _)⟩,fun x hx y d=>?_⟩
  ·obtain⟨v,b,rfl⟩:=cX.1 d
   exact D8 g.up i v b
  ·obtain⟨u,j,rfl⟩:=cX.1 hx
   have e:=Ic u j;rcases au.1 d with rfl|d
   ·exact e
   ·obtain⟨v,b,rfl⟩:=cX.1 d
    have:=D8 g.up i v b;omega
 ·rw[insV_ids.mem_iff]
  rcases au.1 (a.mem_iff.1 b)with rfl|b
  ·exact⟨aI _ (f p c).1,(f p c).2⟩
  ·have:=g.par v b p c
   exact⟨aI _ this.1,this.2⟩
theorem AZ{L:fu}{ps:List Int}(h:oy L ps=0):(∀p∈ps,p∈ids L)∧L.length<1024:=by
 unfold oy at h;split at h
 ·cases h
 ·rename_i h1
  split at h
  ·cases h
  ·rename_i h2
   refine⟨fun p a=>?_,by omega⟩
   by_cases hm:p∈ids L
   ·exact hm
   ·exact absurd (bZ.2 ⟨p,a,by simpa using hm⟩) h1
theorem CV{ps:List Int}(h:uh ps=0):ps.length≤2:=by
 unfold uh at h;split at h
 ·cases h
 ·rename_i h1
  have:=not_or.1 h1;omega
theorem Inv.add{L:fu}{nx:Int}(v:Inv L nx)(ps:List Int):Inv (i5 L nx ps).2.1 (i5 L nx ps).2.2:=by
 unfold i5;split
 ·exact v
 ·rename_i c
  split
  ·exact v
  ·rename_i d
   split
   ·exact v
   ·rename_i h3
    have c:uh ps=0:=by omega
    have d:oy L ps=0:=by omega
    obtain⟨e,g⟩:=AZ d;have f:nx∉ids L:=fun hm=>by have:=(v.pos nx hm).2;omega
    show Inv (rg L nx ps) (nx+1)
    refine⟨C4 v.good f (fun p b=>⟨e p b,(v.pos p (e p b)).2⟩) (CV c) (by have:=v.few;omega),fun id a=>?_,by have:=v.nx1;omega,by omega,?_⟩
    ·rcases au.1 (insV_ids.mem_iff.1 a)with rfl|h
     ·have:=v.nx1;omega
     ·have:=v.pos id h;omega
    ·rw[(tX L nx ps).length_eq];simp;omega
theorem Inv.put{L:fu}{nx:Int}(v:Inv L nx){id:Int}(n:0≤id)(ps:List Int):Inv (NS L nx id ps).2.1 (NS L nx id ps).2.2:=by
 unfold NS;split
 ·exact v
 ·rename_i b
  have b:=not_or.1 b;have g:=b.1;have d:=not_or.1 b.2;have c:=not_or.1 d.2;split
  ·exact v
  ·rename_i h2
   split
   ·exact v
   ·rename_i f
    have m:uh ps=0:=by omega
    have f:oy L ps=0:=by omega
    obtain⟨o,q⟩:=AZ f;have i:=v.nx1;refine⟨C4 v.good h2 (fun p e=>⟨o p e,?_⟩) (CV m) (by have:=v.few;omega),fun j k=>?_,by simp only;split<;>omega,?_,?_⟩
    ·by_cases a:p<id
     ·exact a
     ·exact absurd (bZ.2 ⟨p,e,by simpa using a⟩) c.2
    ·rcases au.1 (insV_ids.mem_iff.1 k)with rfl|h
     ·simp only;split<;>omega
     ·have:=v.pos j h;simp only;split<;>omega
    ·have:=v.nx2;simp only;split<;>omega
    ·rw[(tX L id ps).length_eq];simp;omega
theorem Inv.drop{L:fu}{nx:Int}(v:Inv L nx){keep st:List Int}(c:∀y,y∈st↔∃k∈keep,UpG L k y):Inv (L.filter fun v=>decide (v.1∈st)) nx:=by
 have a:∀id,id∈ids (L.filter fun v=>decide (v.1∈st))↔id∈ids L∧id∈st:=fun id=>by
  unfold ids;simp only[cX,cF,decide_eq_true_iff];constructor
  ·rintro⟨u,⟨b,d⟩,rfl⟩;exact⟨⟨u,b,rfl⟩,d⟩
  ·rintro⟨⟨u,b,rfl⟩,d⟩;exact⟨u,⟨b,d⟩,rfl⟩
 refine⟨⟨⟨fun u e=>v.good.two u (cF.1 e).1,bQ (dP ..) v.good.len⟩,v.good.up.sublist ((gd).map _),fun u e p i=>?_⟩,fun id f=>v.pos id ((a id).1 f).1,v.nx1,v.nx2,bQ (dP ..) v.few⟩
 obtain⟨b,d⟩:=cF.1 e;obtain⟨j,m⟩:=v.good.par u b p i;refine⟨(a p).2 ⟨j,?_⟩,m⟩;obtain⟨k,n,g⟩:=(c _).1 (of_decide_eq_true d);refine(c p).2 ⟨k,n,g.snoc ?_ j⟩;have:dh L u.1=some u.2:=(Dj v.good.nd).2 b;simp[parV,this,i]
end Go.Proofs
namespace Go.Proofs
inductive Fo where
 |nil:Fo
 |cons (lab:List UInt8) (val:Option ByteArray) (kids rest:Fo):Fo
abbrev Bn:=List UInt8×Option ByteArray×Fo
def Fo.toL:Fo→List Bn
 | .nil=> []
 | .cons lab w kids rest=>(lab,w,kids)::rest.toL
theorem Fo.toL_cons(lab:List UInt8)(w:Option ByteArray)(a b:Fo):(Fo.cons lab w a b).toL=(lab,w,a)::b.toL:=rfl
def Fo.ofL:List Bn→Fo
 | []=>.nil
 |(lab,w,kids)::l=>.cons lab w kids (Fo.ofL l)
theorem Fo.to_of:∀l:List Bn,(Fo.ofL l).toL=l
 | []=>rfl
 |(_,_,_)::l=>by show _::(Fo.ofL l).toL=_;rw[Fo.to_of l]
theorem Fo.of_to:∀F:Fo,Fo.ofL F.toL=F
 | .nil=>rfl
 | .cons lab w kids rest=>by show Fo.cons lab w kids (Fo.ofL rest.toL)=_;rw[Fo.of_to rest]
def xD:Fo→List UInt8→ByteArray→Prop
 | .nil,_,_=>False
 | .cons lab w kids rest,k,v=>(∃r,k=lab++r∧((r= []∧w=some v)∨xD kids r v))∨xD rest k v
def zg(w:Option ByteArray)(F:Fo)(k:List UInt8)(v:ByteArray):Prop:=(k= []∧w=some v)∨xD F k v
def BQ(n:Bn)(k:List UInt8)(v:ByteArray):Prop:=∃r,k=n.1++r∧zg n.2.1 n.2.2 r v
theorem j4:∀{F:Fo} {k:List UInt8} {v:ByteArray},xD F k v↔∃n∈F.toL,BQ n k v
 | .nil,_,_=>by simp[xD,Fo.toL]
 | .cons lab w kids rest,k,v=>by
  rw[Fo.toL_cons];unfold xD;rw[j4 (F:=rest)];constructor
  ·rintro(h|⟨n,a,h⟩)
   ·exact⟨_,ay ..,h⟩
   ·exact⟨n,aI _ a,h⟩
  ·rintro⟨n,a,h⟩
   rcases au.1 a with rfl|a
   ·exact .inl h
   ·exact .inr ⟨n,a,h⟩
def hd(k:List UInt8):Nat:=(k.headD 0).toNat
theorem sO{a b:List UInt8}(h:a≠[]):hd (a++b)=hd a:=by
 cases a with
 |nil=>exact absurd rfl h
 |cons x a=>rfl
theorem Nr(a:List UInt8):hd a<256:=UInt8.toNat_lt _
def jb:Fo→Prop
 | .nil=>True
 | .cons lab w kids rest=>lab≠[]∧(w.isSome∨2≤kids.toL.length)∧jb kids∧(∀n∈rest.toL,hd lab<hd n.1)∧jb rest
def M9(n:Bn):Prop:=n.1≠[]∧(n.2.1.isSome∨2≤n.2.2.toL.length)∧jb n.2.2
theorem fS:∀{F:Fo},jb F↔F.toL.Pairwise (fun m n=>hd m.1<hd n.1)∧∀n∈F.toL,M9 n
 | .nil=>by simp[jb,Fo.toL]
 | .cons lab w kids rest=>by
  rw[Fo.toL_cons,aQ];show(lab≠[]∧(w.isSome∨2≤kids.toL.length)∧jb kids∧(∀n∈rest.toL,hd lab<hd n.1)∧jb rest)↔_
  rw[fS (F:=rest)];constructor
  ·rintro⟨e,g,f,c,d,b⟩
   refine⟨⟨c,d⟩,fun n a=>?_⟩
   rcases au.1 a with rfl|a
   ·exact⟨e,g,f⟩
   ·exact b n a
  ·rintro⟨⟨c,d⟩,b⟩
   have:=b _ (ay ..);exact⟨this.1,this.2.1,this.2.2,c,d,fun n a=>b n (aI _ a)⟩
theorem sN:∀{F:Fo},jb F→∀n∈F.toL,∃r v,zg n.2.1 n.2.2 r v
 | .nil,_,n,a=>by simp[Fo.toL]at a
 | .cons lab w kids rest,h,n,a=>by
  rcases au.1 a with rfl|a
  ·rcases h.2.1 with c|b
   ·obtain⟨v,f⟩:=fM.1 c
    exact⟨[],v,.inl ⟨rfl,f⟩⟩
   ·have e:=sN h.2.2.1
    have⟨m,hm⟩:∃m,m∈kids.toL:=by
     cases hl:kids.toL with
     |nil=>rw[hl]at b;simp at b
     |cons m l=>exact⟨m,ay ..⟩
    obtain⟨r,v,d⟩:=e m hm;exact⟨m.1++r,v,.inr (j4.2 ⟨m,hm,r,rfl,d⟩)⟩
  ·exact sN h.2.2.2.2 n a
theorem vh{F:Fo}(h:jb F){k:List UInt8}{v:ByteArray}(hi:xD F k v):k≠[]:=by
 obtain⟨n,a,r,rfl,_⟩:=j4.1 hi;have:=((fS.1 h).2 n a).1;intro e;exact this (iY.1 e).1
theorem vi{F:Fo}(h:jb F){k:List UInt8}{v:ByteArray}(hi:xD F k v):∃n∈F.toL,hd n.1=hd k∧BQ n k v:=by
 obtain⟨n,a,r,e,b⟩:=j4.1 hi;exact⟨n,a,by rw[e,sO ((fS.1 h).2 n a).1],r,e,b⟩
theorem Eb{F:Fo}(h:jb F){m n:Bn}(hm:m∈F.toL)(f:n∈F.toL)(e:hd m.1=hd n.1):m=n:=by
 have c:=(fS.1 h).1;revert hm f;generalize F.toL=l at*;clear h;induction l with
 |nil=>intro hm;simp at hm
 |cons a l ih=>
  have c:=aQ.1 c;intro hm f;rcases au.1 hm with i|d
  ·rcases au.1 f with g|b
   ·rw[i,g]
   ·have:=c.1 n b;rw[←i]at this;omega
  ·rcases au.1 f with g|b
   ·have:=c.1 m d;rw[←g]at this;omega
   ·exact ih c.2 d b
def Br(P:List UInt8→ByteArray→Prop):Prop:=(∃v,P [] v)∨∃j k u v,P j u∧P k v∧j≠[]∧k≠[]∧hd j≠hd k
theorem LI{w:Option ByteArray}{F:Fo}(h:jb F):(w.isSome∨2≤F.toL.length)↔Br (zg w F):=by
 constructor
 ·rintro(x|A)
  ·obtain⟨v,c⟩:=fM.1 x
   exact .inl ⟨v,.inl ⟨rfl,c⟩⟩
  ·right
   have d:=sN h;have hc:=fS.1 h;match hL:F.toL,A with
   |a::b::l,_=>
    have o:a∈F.toL:=by rw[hL];simp
    have f:b∈F.toL:=by rw[hL];simp
    obtain⟨r,v,y⟩:=d a o;obtain⟨s,u,d⟩:=d b f;have p:=(hc.2 a o).1;have t:=(hc.2 b f).1;have:=hc.1;rw[hL]at this;have D:=(aQ.1 this).1 b (ay ..);refine⟨a.1++r,b.1++s,v,u,.inr (j4.2 ⟨a,o,r,rfl,y⟩),.inr (j4.2 ⟨b,f,s,rfl,d⟩),?_,?_,?_⟩
    ·intro e;exact p (iY.1 e).1
    ·intro e;exact t (iY.1 e).1
    ·rw[sO p,sO t];omega
 ·rintro(⟨v,c⟩|⟨j,k,u,v,g,i,B,nk,z⟩)
  ·rcases c with⟨_,c⟩|c
   ·left;rw[c];rfl
   ·exact absurd rfl (vh h c)
  ·right
   rcases g with⟨e,_⟩|g
   ·exact absurd e B
   rcases i with⟨e,_⟩|i
   ·exact absurd e nk
   obtain⟨m,hm,em,_⟩:=vi h g;obtain⟨n,q,C,_⟩:=vi h i;match hL:F.toL with
   | []=>rw[hL]at hm;simp at hm
   | [a]=>
    rw[hL]at hm q;rw[aw.1 hm]at em;rw[aw.1 q]at C;omega
   |a::b::l=>simp
end Go.Proofs
namespace Go.Proofs
def qV(P a:List UInt8→ByteArray→Prop)(k:List UInt8)(v:ByteArray):Prop:=∀k' v',a k' v'↔(k'=k∧v'=v)∨(k'≠k∧P k' v')
theorem CP{w:Option ByteArray}{F:Fo}(h:jb F)(v:ByteArray):qV (zg w F) (zg (some v) F) [] v:=by
 intro k' a;unfold zg;constructor
 ·rintro(⟨e,f⟩|hi)
  ·exact .inl ⟨e,(bE.inj f).symm⟩
  ·exact .inr ⟨vh h hi,.inr hi⟩
 ·rintro(⟨e,f⟩|⟨e,⟨f,_⟩|hi⟩)
  ·exact .inl ⟨e,by rw[f]⟩
  ·exact absurd f e
  ·exact .inr hi
theorem xU{w:Option ByteArray}{F a:Fo}{k:List UInt8}{v:ByteArray}(c:k≠[])(h:qV (xD F) (xD a) k v):qV (zg w F) (zg w a) k v:=by
 intro k' b;unfold zg;rw[h k' b];constructor
 ·rintro(⟨e,f⟩|hi|hi)
  ·exact .inr ⟨fun d=>c (d.symm.trans e),.inl ⟨e,f⟩⟩
  ·exact .inl hi
  ·exact .inr ⟨hi.1,.inr hi.2⟩
 ·rintro(hi|⟨e,hi|hi⟩)
  ·exact .inr (.inl hi)
  ·exact .inl hi
  ·exact .inr (.inr ⟨e,hi⟩)
theorem Jh{F:Fo}{k:List UInt8}{v:ByteArray}{i:Nat}(h:jb F)(y:k≠[])(hi:∀j (d:j<F.toL.length),j<i→hd F.toL[j].1<hd k)(g:∀j (d:j<F.toL.length),i≤j→hd k<hd F.toL[j].1):jb (.ofL (F.toL.take i++(k,some v,.nil)::F.toL.drop i))∧qV (xD F) (xD (.ofL (F.toL.take i++(k,some v,.nil)::F.toL.drop i))) k v:=by
 have hc:=fS.1 h;have z:∀n∈F.toL.take i,hd n.1<hd k:=fun n c=>by
  obtain⟨j,d,e⟩:=bU c;rw[List.length_take]at d;rw[←e,List.getElem_take];exact hi j (by omega) (by omega)
 have w:∀n∈F.toL.drop i,hd k<hd n.1:=fun n c=>by
  obtain⟨j,d,e⟩:=bU c;rw[List.length_drop]at d;rw[←e,List.getElem_drop];exact g _ (by omega) (by omega)
 have mem:∀n,n∈F.toL.take i++(k,some v,.nil)::F.toL.drop i↔n=(k,some v,Fo.nil)∨n∈F.toL:=fun n=>by
  conv=>rhs;rw[←aY i F.toL]
  simp only[bq,au];exact⟨fun h=>h.elim (fun h=>.inr (.inl h)) fun h=>h.elim .inl fun h=>.inr (.inr h),fun h=>h.elim (fun h=>.inr (.inl h)) fun h=>h.elim .inl fun h=>.inr (.inr h)⟩
 refine⟨fS.2 ⟨?_,?_⟩,fun k' x=>?_⟩
 ·rw[Fo.to_of]
  have m:=hc.1;rw[←aY i F.toL,bP]at m;refine bP.2 ⟨m.1,aQ.2 ⟨w,m.2.1⟩,fun a t b p=>?_⟩
  rcases au.1 p with rfl|p
  ·exact z a t
  ·exact m.2.2 a t b p
 ·rw[Fo.to_of]
  intro n c;rcases(mem n).1 c with rfl|c
  ·exact⟨y,.inl rfl,trivial⟩
  ·exact hc.2 n c
 ·rw[j4,j4,Fo.to_of]
  constructor
  ·rintro⟨n,c,r,e,s⟩
   rcases(mem n).1 c with rfl|c
   ·rcases s with⟨rfl,f⟩|f
    ·exact .inl ⟨by rw[e];exact bG _,(bE.inj f).symm⟩
    ·exact f.elim
   ·right
    refine⟨fun u=>?_,n,c,r,e,s⟩
    have A:hd k=hd n.1:=by rw[←u,e,sO (hc.2 n c).1]
    obtain⟨j,d,q⟩:=bU c;rcases Nat.lt_or_ge j i with o|o
    ·have:=hi j d o;rw[q]at this;omega
    ·have:=g j d o;rw[q]at this;omega
  ·rintro(⟨rfl,rfl⟩|⟨_,n,c,h⟩)
   ·exact⟨(k',some x,.nil),(mem _).2 (.inl rfl),[],(bG _).symm,.inl ⟨rfl,rfl⟩⟩
   ·exact⟨n,(mem _).2 (.inr c),h⟩
theorem qf{α:Type}{l:List α}{i:Nat}(hi:i<l.length){a x:α}(nd:∀j (c:j<l.length),j≠i→l[j]≠l[i]):x∈l.set i a↔x=a∨(x∈l∧x≠l[i]):=by
 constructor
 ·intro h
  obtain⟨j,c,e⟩:=bU h;rw[eI]at c;rw[List.getElem_set]at e;split at e
  ·exact .inl e.symm
  ·rename_i b
   exact .inr ⟨by rw[←e];exact cR c,by rw[←e];exact nd j c fun e=>b e.symm⟩
 ·rintro(rfl|⟨h,b⟩)
  ·exact List.mem_of_getElem (i:=i) (h:=by simpa using hi) (by simp)
  ·obtain⟨j,c,e⟩:=bU h
   have:i≠j:=by rintro rfl;exact b e.symm
   exact List.mem_of_getElem (i:=j) (h:=by simpa using c) (by rw[List.getElem_set_ne this];exact e)
theorem MY{F:Fo}{i:Nat}{m:Bn}(h:jb F)(hi:i<F.toL.length)(hm:M9 m)(e:hd m.1=hd F.toL[i].1):jb (.ofL (F.toL.set i m)):=by
 have hc:=fS.1 h;rw[fS,Fo.to_of];refine⟨?_,fun n g=>?_⟩
 ·rw[dd]at hc⊢
  intro a b d f c;rw[eI]at d f;rw[List.getElem_set,List.getElem_set];split
  ·rename_i ea;subst ea
   rw[if_neg (by omega),e];exact hc.1 _ _ d f c
  ·split
   ·rename_i eb;subst eb
    rw[e];exact hc.1 _ _ d f c
   ·exact hc.1 _ _ d f c
 ·rcases List.mem_or_eq_of_mem_set g with g|rfl
  ·exact hc.2 n g
  ·exact hm
theorem DU{F:Fo}(h:jb F){i:Nat}(hi:i<F.toL.length)(j:Nat)(c:j<F.toL.length)(a:j≠i):F.toL[j]≠F.toL[i]:=by
 have hc:=(fS.1 h).1;rw[dd]at hc;intro e;rcases Nat.lt_or_gt_of_ne a with b|b
 ·have:=hc j i c hi b;rw[e]at this;omega
 ·have:=hc i j hi c b;rw[e]at this;omega
theorem E5{F:Fo}{i:Nat}{m:Bn}{k:List UInt8}{v:ByteArray}(h:jb F)(hi:i<F.toL.length)(ek:hd F.toL[i].1=hd k)(d:qV (BQ F.toL[i]) (BQ m) k v):qV (xD F) (xD (.ofL (F.toL.set i m))) k v:=by
 intro k' g;have hc:=fS.1 h;rw[j4,j4,Fo.to_of];constructor
 ·rintro⟨n,b,c⟩
  rcases(qf hi (DU h hi)).1 b with rfl|⟨b,f⟩
  ·rcases(d k' g).1 c with a|⟨a,o⟩
   ·exact .inl a
   ·exact .inr ⟨a,_,cR hi,o⟩
  ·refine .inr ⟨fun e=>f ?_,n,b,c⟩
   obtain⟨r,j,_⟩:=c;refine Eb h b (cR hi) ?_;rw[ek,←e,j,sO (hc.2 n b).1]
 ·rintro(a|⟨a,n,b,c⟩)
  ·exact⟨m,(qf hi (DU h hi)).2 (.inl rfl),(d k' g).2 (.inl a)⟩
  ·by_cases e:n=F.toL[i]
   ·exact⟨m,(qf hi (DU h hi)).2 (.inl rfl),(d k' g).2 (.inr ⟨a,by rw[←e];exact c⟩)⟩
   ·exact⟨n,(qf hi (DU h hi)).2 (.inr ⟨b,e⟩),c⟩
theorem Jg{lab r:List UInt8}{w w':Option ByteArray}{F f:Fo}{v:ByteArray}(h:qV (zg w F) (zg w' f) r v):qV (BQ (lab,w,F)) (BQ (lab,w',f)) (lab++r) v:=by
 intro k' d;constructor
 ·rintro⟨s,e,a⟩
  rcases(h s d).1 a with⟨rfl,rfl⟩|⟨b,g⟩
  ·exact .inl ⟨e,rfl⟩
  ·exact .inr ⟨fun c=>b (List.append_cancel_left (e.symm.trans c)),s,e,g⟩
 ·rintro(⟨rfl,rfl⟩|⟨b,s,e,a⟩)
  ·exact⟨r,rfl,(h r d).2 (.inl ⟨rfl,rfl⟩)⟩
  ·exact⟨s,e,(h s d).2 (.inr ⟨fun c=>b (by rw[e,c]),a⟩)⟩
def cm:List UInt8→List UInt8→Nat
 |a::x,b::y=>if a=b then cm x y+1 else 0
 |_,_=>0
theorem Nu:∀(x y:List UInt8),cm x y≤x.length∧cm x y≤y.length
 | [],_=>by simp[cm]
 |_::_,[]=>by simp[cm]
 |a::x,b::y=>by unfold cm;have:=Nu x y;split<;>simp<;>omega
theorem IH:∀(x y:List UInt8),x.take (cm x y)=y.take (cm x y)
 | [],_=>by simp[cm]
 |_::_,[]=>by simp[cm]
 |a::x,b::y=>by
  unfold cm;split
  ·rename_i e;rw[gc,gc,IH x y,e]
  ·simp
theorem II:∀(x y:List UInt8),cm x y<x.length→cm x y<y.length→hd (x.drop (cm x y))≠hd (y.drop (cm x y))
 | [],_=>by simp[cm]
 |_::_,[]=>by simp[cm]
 |a::x,b::y=>by
  unfold cm;split
  ·rename_i e
   intro d c;rw[az]at d c;rw[il,il];exact II x y (by omega) (by omega)
  ·rename_i e
   intro _ _ h;exact e (li.1 h)
theorem Ob{x y:List UInt8}(hx:x≠[])(c:y≠[])(h:hd x=hd y):0<cm x y:=by
 match x,y,hx,c with
 |a::x,b::y,_,_=>
  unfold cm;rw[if_pos (show a=b from li.1 h)]
  omega
theorem Jv{lab:List UInt8}{w:Option ByteArray}{F:Fo}(c:Nat):∀k v,BQ (lab.take c,none,.cons (lab.drop c) w F .nil) k v↔BQ (lab,w,F) k v:=by
 intro k v;constructor
 ·rintro⟨r,e,⟨_,h⟩|(⟨s,rfl,h⟩|h)⟩
  ·cases h
  ·exact⟨s,by rw[e];simp only;rw[←ax,aY],h⟩
  ·exact h.elim
 ·rintro⟨s,e,h⟩
  exact⟨lab.drop c++s,by rw[e];simp only;rw[←ax,aY],.inr (.inl ⟨s,rfl,h⟩)⟩
theorem LH{lab r:List UInt8}{w w':Option ByteArray}{F g:Fo}{v:ByteArray}(c:lab≠[])(i:w.isSome∨2≤F.toL.length)(j:jb F)(a:r≠[]→hd r≠hd lab)(h:qV (zg none (.cons lab w F .nil)) (zg w' g) r v):Br (zg w' g):=by
 by_cases e:r= []
 ·subst e
  exact .inl ⟨v,(h [] v).2 (.inl ⟨rfl,rfl⟩)⟩
 ·have hc:jb (.cons lab w F .nil):=⟨c,i,j,fun n k=>by simp[Fo.toL]at k,trivial⟩
  obtain⟨s,u,d⟩:=sN hc _ (ay ..);simp only at d;have f:hd (lab++s)=hd lab:=sO c;refine .inr ⟨r,lab++s,v,u,(h r v).2 (.inl ⟨rfl,rfl⟩),(h _ u).2 (.inr ⟨fun b=>a e (by rw[←b,f]),.inr (.inl ⟨s,rfl,d⟩)⟩),e,fun b=>c (iY.1 b).1,by rw[f];exact a e⟩
theorem M1{P g:List UInt8→ByteArray→Prop}{k:List UInt8}{v:ByteArray}(d:Br P)(h:qV P g k v):Br g:=by
 have keep:∀j u,P j u→∃c,g j c:=fun j u f=>by
  by_cases e:j=k
  ·exact⟨v,(h j v).2 (.inl ⟨e,rfl⟩)⟩
  ·exact⟨u,(h j u).2 (.inr ⟨e,f⟩)⟩
 rcases d with⟨u,i⟩|⟨j,k',u,c,f,m,r⟩
 ·obtain⟨c,h'⟩:=keep [] u i
  exact .inl ⟨c,h'⟩
 ·obtain⟨a,n⟩:=keep j u f
  obtain⟨b,d⟩:=keep k' c m;exact .inr ⟨j,k',a,b,n,d,r⟩
end Go.Proofs
namespace Go.Proofs
open Go Go.Lift
end Go.Proofs
namespace Go.Proofs
open Go Go.Lift
def Fit(l:List Pr):Prop:=∀p∈l,p.1.size≤10000∧p.2.size≤10000
end Go.Proofs
namespace Go.Proofs
open Go Go.Lift
end Go.Proofs
namespace Go.Proofs
open Go Go.Lift
def DC(l:List Pr):Option Pr:=match l with| [p]=>some p|_=>none
def xX(l:List Pr):Option (List Pr):=if 2≤l.length then some l else none
def yR(x:Hs)(lev:Nat)(l:List Pr):List Pr:=fm (fun c=>DC (part x lev c l)) 32
def sI(x:Hs)(lev:Nat)(l:List Pr):List (List Pr):=fm (fun c=>xX (part x lev c l)) 32
theorem NK{W:Nat→Prop}{x:Hs}{h:ac}{m:Nat}{s:Slots}{c:Nat}{l:List Pr}(t:SlotIs W x h m s c l):s.p c=DC l∧(s.k c).isSome=(xX l).isSome:=by
 rcases t with⟨rfl,e,d⟩|⟨p,rfl,e,d⟩|⟨f,e,g,d,_⟩
 ·rw[e,d];exact⟨rfl,rfl⟩
 ·rw[e,d];exact⟨rfl,rfl⟩
 ·rw[e,d]
  refine⟨?_,by simp[xX,f]⟩
  match l,f with
  |a::b::l,_=>rfl
def KidsAt(W:Nat→Prop)(x:Hs)(h:ac)(m:Nat):List (Option Addr)→List (List Pr)→Prop
 | [],[]=>True
 |k::ks,l::ls=>(∃kb,k=some ⟨kb,0,none⟩∧TrieAt W x h m kb l)∧KidsAt W x h m ks ls
 |_,_=>False
theorem KidsAt.app{W:Nat→Prop}{x:Hs}{h:ac}{m:Nat}:∀{ks ks':List (Option Addr)} {ls ls':List (List Pr)},KidsAt W x h m ks ls→KidsAt W x h m ks' ls'→KidsAt W x h m (ks++ks') (ls++ls')
 | [],_,[],_,_,q=>q
 |_::_,_,_::_,_,q,q'=>⟨q.1,KidsAt.app q.2 q'⟩
 | [],_,_::_,_,q,_=>q.elim
 |_::_,_,[],_,q,_=>q.elim
theorem zZ{β:Type}(g:Nat→Option β)(n:Nat):fm g (n+1)=fm g n++(g n).toList:=by
 unfold fm;rw[List.range_succ,List.filterMap_append];cases h:g n<;>simp[h]
theorem Lc{W:Nat→Prop}{x:Hs}{h:ac}{m lev:Nat}{s:Slots}{l:List Pr}:∀n,(∀c,c<n→SlotIs W x h m s c (part x lev c l))→KidsAt W x h m (fm s.k n) (fm (fun c=>xX (part x lev c l)) n)
 |0,_=>trivial
 |n+1,hs=>by
  rw[zZ,zZ];refine KidsAt.app (Lc n fun c hc=>hs c (by omega)) ?_
  rcases hs n (by omega)with⟨b,_,a⟩|⟨p,b,_,a⟩|⟨b,_,e,a,d⟩
  ·rw[a,b];exact trivial
  ·rw[a,b];exact trivial
  ·rw[a]
   have:xX (part x lev n l)=some (part x lev n l):=by unfold xX;rw[if_pos b]
   simp only[this];exact⟨⟨e,rfl,d⟩,trivial⟩
theorem Mh{W:Nat→Prop}{x:Hs}{h:ac}{m lev:Nat}{s:Slots}{l:List Pr}(a:∀c,c<32→SlotIs W x h m s c (part x lev c l)):fm s.p 32=yR x lev l:=
 Pa _ fun c hc=>(NK (a c (List.mem_range.1 hc))).1
end Go.Proofs
namespace Go.Proofs
open Go Go.Lift
theorem xW(x:Hs)(lev:Nat)(l:List Pr):∀n,(((dH n).map fun c=>(part x lev c l).length).sum)=(l.filter fun p=>decide (ck x lev p.1<n)).length
 |0=>by
  have:(l.filter fun p=>decide (ck x lev p.1<0))= []:=List.filter_eq_nil_iff.2 fun p _=>by simp
  rw[this];rfl
 |n+1=>by
  rw[List.range_succ,ce,ou,xW x lev l n];simp only[be,mq,nn,List.sum_nil,fe];unfold part;clear xW;induction l with
  |nil=>rfl
  |cons p l ih=>
   simp only[List.filter_cons,decide_eq_true_iff];split<;>split<;>split<;>first|omega|(simp only[az];omega)
theorem CC(x:Hs)(lev:Nat)(l:List Pr):(yR x lev l).length+(sI x lev l).flatten.length≤l.length:=by
 have h:=xW x lev l 32;have d:(l.filter fun p=>decide (ck x lev p.1<32)).length≤l.length:=dP ..
 have:∀n,(fm (fun c=>DC (part x lev c l)) n).length+(fm (fun c=>xX (part x lev c l)) n).flatten.length≤((dH n).map fun c=>(part x lev c l).length).sum:=by
  intro n;induction n with
  |zero=>simp[fm]
  |succ n ih=>
   rw[zZ,zZ,List.range_succ,ce,ou];simp only[List.length_append,List.flatten_append,be,mq,nn,List.sum_nil,fe];generalize part x lev n l=q;have:(DC q).toList.length+(xX q).toList.flatten.length≤q.length:=by
    match q with
    | []=>simp[DC,xX]
    | [a]=>simp[DC,xX]
    |a::b::q=>simp[DC,xX]
   omega
 have:=this 32;unfold yR sI;omega
end Go.Proofs
namespace Go.Proofs
open Go Go.Lift
theorem Jo{x:Hs}{lev:Nat}{l:List Pr}{p:Pr}(h:p∈yR x lev l):p∈l:=by
 unfold yR fm at h;obtain⟨c,_,hc⟩:=lJ.1 h;unfold DC at hc;split at hc
 ·rename_i q hq
  cases hc;have:p∈part x lev c l:=by rw[hq];exact aw.2 rfl
  exact(nt.1 this).1
 ·cases hc
theorem CU{x:Hs}{lev:Nat}{l L:List Pr}(h:L∈sI x lev l):2≤L.length∧∃c,L=part x lev c l:=by
 unfold sI fm at h;obtain⟨c,_,hc⟩:=lJ.1 h;unfold xX at hc;split at hc
 ·cases hc;exact⟨by assumption,c,rfl⟩
 ·cases hc
theorem Fit.part{x:Hs}{lev c:Nat}{l:List Pr}(h:Fit l):Fit (part x lev c l):=fun p a=>h p (nt.1 a).1
end Go.Proofs
namespace Go.Proofs
open Go Go.Lift
end Go.Proofs
namespace Go.Proofs
open Go Go.Lift
theorem xQ:∀{l l':List Pr},di l→di l'→(∀p,p∈l↔p∈l')→l=l'
 | [],[],_,_,_=>rfl
 | [],q::l',_,_,h=>absurd ((h q).2 (ay ..)) (by simp)
 |p::l,[],_,_,h=>absurd ((h p).1 (ay ..)) (by simp)
 |p::l,q::l',c,a,h=>by
  have c:=aQ.1 c;have a:=aQ.1 a;have e:p=q:=by
   rcases au.1 ((h p).1 (ay ..))with e|f
   ·exact e
   ·rcases au.1 ((h q).2 (ay ..))with e|g
    ·exact e.symm
    ·exact absurd (g5 (c.1 q g) (a.1 p f)) (cP _)
  subst e;rw[xQ c.2 a.2 fun z=>?_]
  constructor
  ·intro d
   rcases au.1 ((h z).1 (aI _ d))with e|b
   ·exact absurd (c.1 z d) (by rw[e];exact cP _)
   ·exact b
  ·intro d
   rcases au.1 ((h z).2 (aI _ d))with e|b
   ·exact absurd (a.1 z d) (by rw[e];exact cP _)
   ·exact b
end Go.Proofs
