/- A part of the proof that the named laws of this program answer true, whatever the input. -/
import Derived.Test.YtcpiahjlddmfiaaGreatPart2
open Bool renaming eq_iff_iff→lr
open ByteArray renaming data_extract→pW,mk→wJ
open Iff renaming rfl→wI
open Int renaming le_refl→pe,toNat_natCast→aY
open List renaming pairwise_cons→aB,mem_cons→aq,any_eq_true→bP,length_filter_le→dk,length_cons→ao,mem_singleton→av,range_succ→rM,range→fq,map_append→cZ,sum_append→rL,map_cons→bK,map_nil→iC,length_append→ad,mem_filterMap→oV,mem_cons_self→au,mem_cons_of_mem→az,mem_append→aN,length_take→aP,zip_eq_zipWith→nC,length_drop→aM,set_eq_take_append_cons_drop→dt,getElem_mem→bX,pairwise_iff_getElem→bZ,extract_eq_take_drop→gi,length→jG,length_nil→aS,mem_map→bG,pairwise_append→bT,pairwise_map→pS,lt_irrefl→tE
open List.Lex renaming nil→wH
open List.Pairwise renaming nil→db
open Nat renaming zero_le→bS,lt_of_lt_of_le→aC,zero_add→aH,le_trans→bI,le_refl→al,add_zero→iA,lt_or_ge→cg,le_of_eq→di,lt_irrefl→lw
open Option renaming some→bD,mem_toList→pM,map_eq_some_iff→kM
open Prod renaming mk→qC
namespace Go.Proofs
open Go.Lift
noncomputable instance memDec (p:Pr) (l:List Pr):Decidable (p∈l):=Classical.propDecidable _
theorem ER{l:List Pr}(a:bV l){k v w:ByteArray}(b:(k,v)∈l)(c:(k,w)∈l):v=w:=by
 induction l with
 |nil=>cases b
 |cons q l ih=>
  have a:=aB.1 a;rcases aq.1 b with d|b<;>rcases aq.1 c with e|c
  ·exact(qC.inj (d.trans e.symm)).2
  ·have:=a.1 _ c;rw[←d]at this;exact absurd this (cn _)
  ·have:=a.1 _ b;rw[←e]at this;exact absurd this (cn _)
  ·exact ih a.2 b c
theorem me{x:Hs}{lev c:Nat}{l:List Pr}{p:Pr}:p∈part x lev c l↔p∈l∧ck x lev p.1=c:=by unfold part;rw[List.mem_filter,decide_eq_true_iff]
theorem Ey{x:Hs}{lev:Nat}{l:List Pr}{k:ByteArray}:cq (part x lev (ck x lev k) l) k=cq l k:=by
 unfold cq;rw[lr,bP,bP];constructor
 ·rintro⟨p,a,e⟩;exact⟨p,(me.1 a).1,e⟩
 ·rintro⟨p,a,e⟩;exact⟨p,me.2 ⟨a,by rw[of_decide_eq_true e]⟩,e⟩
theorem kz{x:Hs}{lev c:Nat}{l:List Pr}(a:bV l):bV (part x lev c l):=a.sublist List.filter_sublist
theorem qI{x:Hs}{lev c:Nat}{l:List Pr}:(part x lev c l).length≤l.length:=dk ..
def SlotIs(W:Nat→Prop)(x:Hs)(h:ac)(m:Nat)(s:Slots)(c:Nat)(l:List Pr):Prop:=
 (l= []∧s.p c=none∧s.k c=none)∨(∃p,l= [p]∧s.p c=some p∧s.k c=none)∨(2≤l.length∧s.p c=none∧∃kb,s.k c=some (some ⟨kb,0,none⟩)∧TrieAt W x h m kb l)
theorem SlotIs.upd0{W:Nat→Prop}{x:Hs}{h h':ac}{m:Nat}{s:Slots}{c:Nat}{l:List Pr}(k:Upd No h h')(t:SlotIs W x h m s c l):SlotIs W x h' m s c l:=t.imp id fun o=>o.imp id fun⟨f,a,d,e,b⟩=>⟨f,a,d,e,TrieAt.upd0 k b⟩
theorem Kk(p:Pr):∀{l:List Pr},l.length≤(jZ p l).length
 | []=>bS _
 |q::l=>by
  rw[mD];split
  ·have:=Kk p (l:=l);simp only[ao];omega
  ·split<;>simp
theorem NY{W:Nat→Prop}{x:Hs}{h h':ac}{m b':Nat}{s s':Slots}{l:List Pr}{p:Pr}(d:bV l)(a:Upd No h h')(nd:NodeAt W h' b' s')(b:∀c,c<32→SlotIs W x h m s c (part x (12-m) c l))
  (g:∀c,c≠ck x (12-m) p.1→s'.p c=s.p c∧s'.k c=s.k c)(hi:SlotIs W x h' m s' (ck x (12-m) p.1) (jZ p (part x (12-m) (ck x (12-m) p.1) l))):TrieAt W x h' (m+1) b' (jZ p l):=by
 refine⟨s',nd,fun c hc=>?_⟩
 rw[JW d];by_cases e:ck x (12-m) p.1=c
 ·rw[if_pos e];subst e;exact hi
 ·rw[if_neg e]
  have t:=SlotIs.upd0 a (b c hc);obtain⟨f,i⟩:=g c fun h=>e h.symm
  unfold SlotIs at t;rw[←f,←i]at t;exact t
theorem fw{a b:ByteArray}:(a.toList==b.toList)=decide (a=b):=by
 rw[lr,beq_iff_eq,decide_eq_true_iff,Cr]
theorem Tj{W:Nat→Prop}{x:Hs}:∀(m:Nat),m≤13→∀{b:Nat} {l:List Pr} (p:Pr) {h:ac},TrieAt W x h m b l→(∀y,W y→y<h.size)→bV l→l.length≤1000000→∀{K:(Option Addr)×Bool×Bool→ac→Prop},
  (∀h' b' ch,Upd No h h'→TrieAt W x h' m b' (jZ p l)→(ch=false→b'=b)→ch= !decide (p∈l)→K (some ⟨b',0,none⟩, !cq l p.1,ch) h')→
  HC PG iR [Pj x p.1,.pointer (some ⟨b,0,none⟩),.agg #[.string p.1,.string p.2],.int .i64 ((13-m:Nat):Int)] [.c .ptr,.c .bool,.c .bool] K h:=by
 intro m;induction m with
 |zero=>
  intro _ b l p h t hW T hn K H;have V:∀{h'},Upd No h h'→∀y,W y→y<h'.size:=fun k y hy=>aC (hW y hy) k.size
  refine vq (x.k0,x.k1,x.mask,none,p.1,jt x p.1) (some ⟨b,0,none⟩) p ((13-0:Nat):Int) ?_;unfold qp ae sx af nv ru ay rp vR y9 Ig uA kq Et;have k1:=Upd.hnew No h [.int .u64 x.k0,.int .u64 x.k1,.int .u64 x.mask,.pointer none,.string p.1,.int .u64 (jt x p.1)] cC;have b1:=bE h [.int .u64 x.k0,.int .u64 x.k1,.int .u64 x.mask,.pointer none,.string p.1,.int .u64 (jt x p.1)] cC
  refine bw ?_;simp only[cr h];generalize hnew h [.int .u64 x.k0,.int .u64 x.k1,.int .u64 x.mask,.pointer none,.string p.1,.int .u64 (jt x p.1)] cC=A at k1 b1;have k2:=Upd.hnew No A [.string p.1,.string p.2] ag;have b2:=bE A [.string p.1,.string p.2] ag;refine bw ?_;simp only[cr A];generalize hnew A [.string p.1,.string p.2] ag=f at k2 b2
  have u:∀{h':ac},Upd No f h'→∀i,aI h' (adr ⟨h.size,0,none⟩ i)=(#[.int .u64 x.k0,.int .u64 x.k1,.int .u64 x.mask,.pointer none,.string p.1,.int .u64 (jt x p.1)]:Array Value)[i]?:=fun k i=>by
   rw[bW,aL (k.get0 (k2.get0 b1)),aH]
  have B:∀{h':ac},Upd No f h'→∀i,aI h' (adr ⟨A.size,0,none⟩ i)=(#[.string p.1,.string p.2]:Array Value)[i]?:=fun k i=>by rw[bW,aL (k.get0 b2),aH]
  have r:=Upd.refl No f;have d:=k1.tr k2;have bk:BuckAt W f b l:=BuckAt.upd t d fun _ h=>h.elim
  obtain⟨sp,sk,ow,hb,_⟩:=bk.ex;refine iI hb (ar.2 ⟨_,B r 0,SM bk T (by omega) p.1 fun J v G hv=>?_⟩)
  have put:∀(X:p∉l) {h4:ac},Upd No f h4→HC PG jp [.pointer (some ⟨b,0,none⟩),.pointer none,.agg #[.string p.1,.string p.2]] [.c .ptr] (fun(e15:Option Addr) h16=>K (e15, !cq l p.1,true) h16) h4:=fun X h4 o=>
   IS (bk.upd o fun _ h=>h.elim) (V (d.tr o)) T (by omega) p fun h5 b5 bk5 hu5=>by
    rw[Ef p T]at bk5;exact H h5 b5 true ((d.tr o).tr hu5) bk5 (fun h=>by cases h) (by rw[decide_eq_false X];rfl)
  refine Join.intro (fun t' h'=>t'=decide (p∈l)∧Upd No f h') (fun R hR=>?_) ?_
  ·cases F:cq l p.1 with
   |false=>
    refine ai.2 (hR _ _ ⟨?_,G⟩);refine(decide_eq_false fun hm=>?_).symm
    have:cq l p.1=true:=bP.2 ⟨p,hm,decide_eq_true rfl⟩;rw[F]at this;cases this
   |true=>
    have hv:=hv F;refine ar.2 ⟨_,B G 1,hR _ _ ⟨?_,G⟩⟩;rw[fw,decide_eq_decide];constructor
    ·intro e
     have e:v=p.2:=e;rw[e]at hv;exact hv
    ·intro hm
     exact ER T hv (show(p.1,p.2)∈l from hm)
  ·rintro t' h4 ⟨rfl,o⟩
   by_cases hm:p∈l
   ·rw[decide_eq_true hm]
    refine ar.2 ?_;have F:cq l p.1=true:=bP.2 ⟨p,hm,decide_eq_true rfl⟩;have:=H h4 b false (d.tr o) (by rw[Ee T hm];exact bk.upd o fun _ h=>h.elim) (fun _=>rfl) (by rw[decide_eq_true hm];rfl)
    rw[F]at this;exact this
   ·rw[decide_eq_false hm]
    refine ai.2 ⟨none,u o 3,_,B o 0,_,B o 1,put hm o⟩
 |succ m ih=>
  intro hm b l p h t hW T hn K H;have V:∀{h'},Upd No h h'→∀y,W y→y<h'.size:=fun k y hy=>aC (hW y hy) k.size
  have hl:13-(m+1)<13:=by omega
  have hlev:13-(m+1)=12-m:=by omega
  refine vq (x.k0,x.k1,x.mask,none,p.1,jt x p.1) (some ⟨b,0,none⟩) p ((13-(m+1):Nat):Int) ?_;unfold qp ae sx af nv ru ay rp vR y9 Ig uA kq Et;have k1:=Upd.hnew No h [.int .u64 x.k0,.int .u64 x.k1,.int .u64 x.mask,.pointer none,.string p.1,.int .u64 (jt x p.1)] cC;have b1:=bE h [.int .u64 x.k0,.int .u64 x.k1,.int .u64 x.mask,.pointer none,.string p.1,.int .u64 (jt x p.1)] cC
  refine bw ?_;simp only[cr h];generalize hnew h [.int .u64 x.k0,.int .u64 x.k1,.int .u64 x.mask,.pointer none,.string p.1,.int .u64 (jt x p.1)] cC=A at k1 b1;have k2:=Upd.hnew No A [.string p.1,.string p.2] ag;have b2:=bE A [.string p.1,.string p.2] ag;refine bw ?_;simp only[cr A];generalize hnew A [.string p.1,.string p.2] ag=f at k2 b2
  have u:∀{h':ac},Upd No f h'→∀i,aI h' (adr ⟨h.size,0,none⟩ i)=(#[.int .u64 x.k0,.int .u64 x.k1,.int .u64 x.mask,.pointer none,.string p.1,.int .u64 (jt x p.1)]:Array Value)[i]?:=fun k i=>by
   rw[bW,aL (k.get0 (k2.get0 b1)),aH]
  have B:∀{h':ac},Upd No f h'→∀i,aI h' (adr ⟨A.size,0,none⟩ i)=(#[.string p.1,.string p.2]:Array Value)[i]?:=fun k i=>by rw[bW,aL (k.get0 b2),aH]
  have r:=Upd.refl No f;have d:=k1.tr k2;obtain⟨s,nd0,hs0⟩:=TrieAt.upd0 d t;have hs:∀c,c<32→SlotIs W x f m s c (part x (12-m) c l):=hs0;have tt:∀{h':ac},Upd No f h'→TrieAt W x h' (m+1) b l:=fun k=>TrieAt.upd0 (d.tr k) t
  obtain⟨d0,n0,sp0,sk0,ow0,hb0,_⟩:=nd0.ex;refine iI hb0 (ai.2 ⟨_,u r 5,QC hl ?_⟩);rw[hlev];have hi:=yR x (12-m) p.1;have O:=hs _ hi;have Y:=kz (x:=x) (lev:=12-m) (c:=ck x (12-m) p.1) T;have hnp:(part x (12-m) (ck x (12-m) p.1) l).length≤1000000:=bI qI hn;have N:p∈part x (12-m) (ck x (12-m) p.1) l↔p∈l:=by rw[me];exact⟨fun h=>h.1,fun h=>⟨h,rfl⟩⟩
  have P:=Ey (x:=x) (lev:=12-m) (l:=l) (k:=p.1);have j:=fun{h':ac} {b':Nat} {s':Slots}=>NY (W:=W) (x:=x) (h:=f) (h':=h') (m:=m) (b':=b') (s:=s) (s':=s') (l:=l) (p:=p) T
  generalize hc:ck x (12-m) p.1=c at hi O Y hnp N P j;generalize hlp:part x (12-m) c l=lc at O Y hnp N P j;refine Ay nd0 hi fun J G=>?_
  have k4:=Upd.hnew No J [.string (⟨#[]⟩:ByteArray),.string (⟨#[]⟩:ByteArray)] ag;have b4:=bE J [.string (⟨#[]⟩:ByteArray),.string (⟨#[]⟩:ByteArray)] ag;refine bw ?_;simp only[cr J];generalize hnew J [.string (⟨#[]⟩:ByteArray),.string (⟨#[]⟩:ByteArray)] ag=h4 at k4 b4;have b4':h4[J.size]? =some (.cells #[.string MZ.1,.string MZ.2] ag (0,0)):=b4
  refine EU (p:=P8 (s.p c)) b4' fun h5 b5 hu5=>?_
  have a:Upd No f h5:=(G.tr k4).trans hu5 fun y hy=>.inr (by have hy:y=J.size:=hy;have:=G.size;omega)
  have w5:∀{h':ac},Upd No h5 h'→∀i,aI h' (adr ⟨J.size,0,none⟩ i)=(#[.string (P8 (s.p c)).1,.string (P8 (s.p c)).2]:Array Value)[i]?:=fun k i=>by rw[bW,aL (k.get0 b5),aH]
  have r5:=Upd.refl No h5;have Q:=nd0.upd a fun _ h=>h.elim
  cases hsp:s.p c with
  |some y=>
   rw[hsp]at w5;obtain⟨C,hk0⟩:lc= [y]∧s.k c=none:=by
    rcases O with⟨_,f,_⟩|⟨q,A,f,J⟩|⟨_,f,_⟩
    ·rw[hsp]at f;cases f
    ·rw[hsp]at f;cases f;exact⟨A,J⟩
    ·rw[hsp]at f;cases f
   refine ar.2 ⟨y.1,w5 r5 0,y.2,w5 r5 1,p.1,B a 0,p.2,B a 1,?_⟩;rw[fw,fw];have hyl:y∈l:=(me.1 (show y∈part x (12-m) c l by rw[hlp,C];exact av.2 rfl)).1
   by_cases L:y.1=p.1
   ·have F:cq l p.1=true:=bP.2 ⟨y,hyl,decide_eq_true L⟩
    rw[F]at H;by_cases e2:y.2=p.2
    ·rw[decide_eq_true L,decide_eq_true e2]
     have hyp:y=p:=Prod.ext L e2;have w:p∈l:=hyp▸hyl;refine ar.2 ?_;exact H h5 b false (d.tr a) (by rw[Ee T w];exact tt a) (fun _=>rfl) (by rw[decide_eq_true w];rfl)
    ·rw[decide_eq_true L,decide_eq_false e2]
     refine ai.2 ⟨y.1,w5 r5 0,p.1,B a 0,?_⟩;rw[fw,decide_eq_true L];refine ar.2 ⟨none,u a 3,p.1,B a 0,p.2,B a 1,?_⟩;refine sA Q (V (d.tr a)) hi (fun _ _=>hk0) p fun h6 U nd6 g=>?_
     have S:p∉l:=fun hm=>by
      have:=N.2 hm;rw[C]at this;exact e2 (by rw[av.1 this])
     refine H h6 U true ((d.tr a).tr g) (j (a.tr g) nd6 hs (fun c' n=>⟨gq n,gq n⟩) ?_) (fun h=>by cases h) (by rw[decide_eq_false S];rfl)
     refine .inr (.inl ⟨p,?_,gR,gR⟩);rw[C,mD,if_neg (by rw[L];exact cn _),if_pos L]
   ·rw[decide_eq_false L]
    refine ai.2 ⟨y.1,w5 r5 0,p.1,B a 0,?_⟩;rw[fw,decide_eq_false L];refine ai.2 ⟨none,u a 3,_,u a 0,_,u a 1,_,u a 2,_,u a 3,_,u a 4,_,u a 5,y.1,w5 r5 0,y.2,w5 r5 1,p.1,B a 0,p.2,B a 1,?_⟩;have ew:IntKind.wrap .i64 (((12-m:Nat):Int)+1)=((13-m:Nat):Int):=by rw[d8 (by omega)];omega
    rw[ew];refine Sw m y p (by omega) L (V (d.tr a)) fun h6 U t6 g=>⟨u (a.tr g) 3,?_⟩
    refine x9 (Q.upd g fun _ h=>h.elim) (V ((d.tr a).tr g)) hi (fun z hz=>by rw[hk0]at hz;cases hz) ⟨U,0,none⟩ fun h7 b7 Z E=>?_
    have F:cq l p.1=false:=by
     rw[←P,C];unfold cq;rw[List.any_cons,decide_eq_false L];rfl
    have S:p∉l:=fun hm=>by
     have:cq l p.1=true:=bP.2 ⟨p,hm,decide_eq_true rfl⟩;rw[F]at this;cases this
    rw[F]at H;refine H h7 b7 true (((d.tr a).tr g).tr E) (j ((a.tr g).tr E) Z hs (fun c' n=>⟨gq n,gq n⟩) ?_) (fun h=>by cases h) (by rw[decide_eq_false S];rfl)
    rw[C];exact .inr (.inr ⟨by rw[M5 L];omega,gR,U,gR,TrieAt.upd0 E t6⟩)
  |none=>
   refine ai.2 (vV Q hi ?_);cases hsk:s.k c with
   |none=>
    have hlc:lc= []:=by
     rcases O with⟨A,_⟩|⟨q,_,f,_⟩|⟨_,_,kb,f,_⟩
     ·exact A
     ·rw[hsp]at f;cases f
     ·rw[hsk]at f;cases f
    refine ar.2 ⟨none,u a 3,p.1,B a 0,p.2,B a 1,?_⟩;refine sA Q (V (d.tr a)) hi (fun _ _=>hsk) p fun h6 U nd6 g=>?_
    have F:cq l p.1=false:=by rw[←P,hlc];rfl
    have S:p∉l:=fun hm=>by
     have:cq l p.1=true:=bP.2 ⟨p,hm,decide_eq_true rfl⟩;rw[F]at this;cases this
    rw[F]at H;refine H h6 U true ((d.tr a).tr g) (j (a.tr g) nd6 hs (fun c' n=>⟨gq n,gq n⟩) ?_) (fun h=>by cases h) (by rw[decide_eq_false S];rfl)
    rw[hlc];exact .inr (.inl ⟨p,rfl,gR,gR⟩)
   |some kp=>
    obtain⟨h2l,kb,rfl,tk⟩:2≤lc.length∧∃kb,kp=some ⟨kb,0,none⟩∧TrieAt W x f m kb lc:=by
     rcases O with⟨_,_,f⟩|⟨q,_,f,_⟩|⟨A,_,kb,f,J⟩
     ·rw[hsk]at f;cases f
     ·rw[hsp]at f;cases f
     ·rw[hsk]at f;cases f;exact⟨A,kb,rfl,J⟩
    refine ai.2 ⟨_,u a 0,_,u a 1,_,u a 2,_,u a 3,_,u a 4,_,u a 5,p.1,B a 0,p.2,B a 1,?_⟩;have ew:IntKind.wrap .i64 (((12-m:Nat):Int)+1)=((13-m:Nat):Int):=by rw[d8 (by omega)];omega
    rw[ew];refine ih (by omega) p (TrieAt.upd0 a tk) (V (d.tr a)) Y hnp fun h6 U ch g t6 hsame I=>?_
    have D:=a.tr g;by_cases w:p∈l
    ·have I:ch=false:=by rw[I,decide_eq_true (N.2 w)];rfl
     have F:cq l p.1=true:=bP.2 ⟨p,w,decide_eq_true rfl⟩;rw[F]at H;rw[I];refine ar.2 ?_;exact H h6 b false (d.tr D) (by rw[Ee T w];exact tt D) (fun _=>rfl) (by rw[decide_eq_true w];rfl)
    ·have I:ch=true:=by rw[I,decide_eq_false fun h=>w (N.1 h)];rfl
     rw[I];refine ai.2 ⟨none,u D 3,?_⟩;refine x9 (Q.upd g fun _ h=>h.elim) (V ((d.tr a).tr g)) hi (fun _ _=>hsp) ⟨U,0,none⟩ fun h7 b7 Z E=>?_
     rw[P];refine H h7 b7 true ((d.tr D).tr E) (j (D.tr E) Z hs (fun c' n=>⟨gq n,gq n⟩) ?_) (fun h=>by cases h) (by rw[decide_eq_false w];rfl)
     exact .inr (.inr ⟨bI h2l (Kk p),gR,U,gR,TrieAt.upd0 E t6⟩)
end Go.Proofs
namespace Go.Proofs
open Go.Lift
theorem Ju{W:Nat→Prop}{x:Hs}{h:ac}{m b:Nat}(nd:NodeAt W h b ⟨fun _=>none,fun _=>none⟩):TrieAt W x h (m+1) b []:=⟨_,nd,fun _ _=>.inl ⟨rfl,rfl,rfl⟩⟩
def RootAt(W:Nat→Prop)(x:Hs)(h:ac)(r:Option Addr)(l:List Pr):Prop:=(r=none∧l= [])∨∃b,r=some ⟨b,0,none⟩∧TrieAt W x h 13 b l
theorem RootAt.upd0{W:Nat→Prop}{x:Hs}{h h':ac}{r:Option Addr}{l:List Pr}(k:Upd No h h')(t:RootAt W x h r l):RootAt W x h' r l:=t.imp id fun⟨b,e,t⟩=>⟨b,e,TrieAt.upd0 k t⟩
theorem H0{W:Nat→Prop}{x:Hs}{h:ac}{r:Option Addr}{l:List Pr}(t:RootAt W x h r l)(d:∀y,W y→y<h.size){K:Option Addr→ac→Prop}(a:∀h' b,TrieAt W x h' 13 b l→Upd No h h'→(r=some ⟨b,0,none⟩∨r=none)→K (some ⟨b,0,none⟩) h'):HC PG kF [.pointer r] [.c .ptr] K h:=by
 refine Jf r ?_;unfold BA;rcases t with⟨rfl,rfl⟩|⟨b,rfl,t⟩
 ·refine ar.2 (yT ?_)
  unfold uT;exact r8 d fun h' b nd c=>a h' b (Ju nd) c (.inr rfl)
 ·exact ai.2 (a h b t (Upd.refl _ _) (.inl rfl))
theorem cO{h:ac}{b:Nat}{t:TypeId}{c vs:List Value}(a:h[b]? =some (.cells c.toArray t (0,0))) (f:vs.length=c.length) {k:ac→Prop}
  (d:∀h',h'[b]? =some (.cells vs.toArray t (0,0))→Upd (· =b) h h'→k h'):sw h (some ⟨b,0,none⟩) 0 vs∧At (hH h ⟨b,0,none⟩ 0 vs) k:=by
 have e:=jo vs h 0 0 c a (by omega);refine⟨.inr ⟨_,rfl,fun j g=>by rw[bW];exact gn a (by rw[List.size_toArray];omega)⟩,bw ?_⟩
 rw[e];refine d _ ?_ (Upd.set h _ rfl);rw[fF a];congr 3
 simp[f]
set_option maxRecDepth 4000 in
theorem KA{W:Nat→Prop}{x:Hs}{h:ac}{r:Option Addr}{l:List Pr}(t:RootAt W x h r l)(S:∀y,W y→y<h.size)(X:bV l)(U:l.length≤1000000)(p:Pr){K:Option Addr×Bool→ac→Prop}
  (hk:∀h' b',Upd No h h'→TrieAt W x h' 13 b' (jZ p l)→(p∈l→r=some ⟨b',0,none⟩∨r=none)→K (some ⟨b',0,none⟩, !cq l p.1) h'):
  HC PG xI [.agg #[.int .u64 x.k0,.int .u64 x.k1,.int .u64 x.mask],.pointer none,.pointer r,.agg #[.string p.1,.string p.2]] [.c .ptr,.c .bool] K h:=by
 refine KW (x.k0,x.k1,x.mask) none r p ?_;unfold DL ae D9 BN af dY ru ay vR SS S3 y9;have k1:=Upd.hnew No h [.int .u64 x.k0,.int .u64 x.k1,.int .u64 x.mask] ct;have b1:=bE h [.int .u64 x.k0,.int .u64 x.k1,.int .u64 x.mask] ct;refine bw ?_;simp only[cr h];generalize hnew h [.int .u64 x.k0,.int .u64 x.k1,.int .u64 x.mask] ct=h1 at k1 b1
 have H:=Upd.hnew No h1 [.string p.1,.string p.2] ag;have b2:=bE h1 [.string p.1,.string p.2] ag;refine bw ?_;simp only[cr h1];generalize hnew h1 [.string p.1,.string p.2] ag=h2 at H b2;have e:∀{h':ac},Upd No h2 h'→∀i,aI h' (adr ⟨h.size,0,none⟩ i)=(#[.int .u64 x.k0,.int .u64 x.k1,.int .u64 x.mask]:Array Value)[i]?:=fun k i=>by
  rw[bW,aL (k.get0 (H.get0 b1)),aH]
 have o:∀{h':ac},Upd No h2 h'→∀i,aI h' (adr ⟨h1.size,0,none⟩ i)=(#[.string p.1,.string p.2]:Array Value)[i]?:=fun k i=>by rw[bW,aL (k.get0 b2),aH]
 have s:=Upd.refl No h2;have q:=k1.tr H;let E:List Value:= [.int .u64 0,.int .u64 0,.int .u64 0,.pointer none,.string (⟨#[]⟩:ByteArray),.int .u64 0]
 let D:List Value:= [.int .u64 x.k0,.int .u64 x.k1,.int .u64 x.mask,.pointer none,.string p.1,.int .u64 (jt x p.1)]
 have A:∀{g:ac} {b:Nat},Upd No h2 g→g[b]? =some (.cells D.toArray cC (0,0))→
   ∃v15:Int,aI g (adr ⟨b,0,none⟩ 0)=some (.int .u64 v15)∧
    ∃v16:Int,aI g (adr ⟨b,0,none⟩ 1)=some (.int .u64 v16)∧
    ∃v17:Int,aI g (adr ⟨b,0,none⟩ 2)=some (.int .u64 v17)∧
    ∃v18:Option Addr,aI g (adr ⟨b,0,none⟩ 3)=some (.pointer v18)∧
    ∃v19:ByteArray,aI g (adr ⟨b,0,none⟩ 4)=some (.string v19)∧
    ∃v20:Int,aI g (adr ⟨b,0,none⟩ 5)=some (.int .u64 v20)∧
    ∃v21:ByteArray,aI g (adr ⟨h1.size,0,none⟩ 0)=some (.string v21)∧
    ∃v22:ByteArray,aI g (adr ⟨h1.size,0,none⟩ 1)=some (.string v22)∧
    HC PG kF [.pointer r] [.c .ptr] (fun(P:Option Addr) f=>
     ((aI f (adr ⟨h1.size,0,none⟩ 0)=some (.string v21)∧aI f (adr ⟨h1.size,0,none⟩ 1)=some (.string v22))∧
      ((aI f (adr ⟨b,0,none⟩ 0)=some (.int .u64 v15)∧aI f (adr ⟨b,0,none⟩ 1)=some (.int .u64 v16)∧aI f (adr ⟨b,0,none⟩ 2)=some (.int .u64 v17)∧aI f (adr ⟨b,0,none⟩ 3)=some (.pointer v18)∧aI f (adr ⟨b,0,none⟩ 4)=some (.string v19)∧aI f (adr ⟨b,0,none⟩ 5)=some (.int .u64 v20))∧
       HC PG iR [.agg #[.int .u64 v15,.int .u64 v16,.int .u64 v17,.pointer v18,.string v19,.int .u64 v20],.pointer P,.agg #[.string v21,.string v22],.int .i64 0] [.c .ptr,.c .bool,.c .bool] (fun(B:(Option Addr)×Bool×Bool) N=>
        K (B.1,B.2.1) N) f))) g:=fun{g b} d I=>by
  have m:∀{h':ac},Upd No g h'→∀i,aI h' (adr ⟨b,0,none⟩ i)=D.toArray[i]?:=fun k i=>by rw[bW,aL (k.get0 I),aH]
  have v:=Upd.refl No g;refine⟨_,m v 0,_,m v 1,_,m v 2,_,m v 3,_,m v 4,_,m v 5,p.1,o d 0,p.2,o d 1,?_⟩;refine H0 (t.upd0 (q.tr d)) (fun y z=>aC (S y z) (q.tr d).size) fun Q J T c G=>?_
  have a:=d.tr c;refine⟨⟨o a 0,o a 1⟩,⟨m c 0,m c 1,m c 2,m c 3,m c 4,m c 5⟩,?_⟩;refine Tj 13 (al _) p T (fun y z=>aC (S y z) ((q.tr d).tr c).size) X U fun R C ch u V Z L=>?_
  refine hk R C ((q.tr a).tr u) V fun hm=>?_
  have O:C=J:=Z (by rw[L,decide_eq_true hm];rfl);rw[O];exact G
 have own:∀{w g:ac} {b:Nat},h2.size≤b→Upd (· =b) w g→Upd No h2 w→Upd No h2 g:=fun O Y k=>k.trans Y fun y z=>.inr (z▸O)
 refine⟨_,e s 0,_,e s 1,_,e s 2,_,o s 0,_,e s 0,_,e s 1,_,e s 2,_,o s 0,?_,?_⟩
 ·refine AH fun w j=>⟨o j 0,⟨e j 0,e j 1,e j 2⟩,?_⟩
  have n:=Upd.hnew No w E cC;have F:=bE w E cC;have d:=j.tr n;refine bw ?_;simp only[cr w];refine⟨o d 0,⟨e d 0,e d 1,e d 2⟩,?_⟩;refine cO (vs:=D) F rfl fun Q J c=>A (own j.size c d) J
 ·have n:=Upd.hnew No h2 E cC
  have F:=bE h2 E cC;refine bw ?_;simp only[cr h2];refine⟨o n 0,⟨e n 0,e n 1,e n 2⟩,o n 0,⟨e n 0,e n 1,e n 2⟩,?_⟩;refine AH fun Q c=>?_
  have a:=n.tr c;refine⟨o a 0,⟨e a 0,e a 1,e a 2⟩,?_⟩;exact cO (vs:=D) (c.get0 F) rfl fun R C u=>A (own (al _) u a) C
end Go.Proofs
namespace Go.Proofs
open Go.Lift
end Go.Proofs
namespace Go.Proofs
open Go Go.Lift
end Go.Proofs
namespace Go.Proofs
open Go Go.Lift
def Fit(l:List Pr):Prop:=∀p∈l,p.1.size≤10000∧p.2.size≤10000
end Go.Proofs
namespace Go.Proofs
open Go Go.Lift
end Go.Proofs
namespace Go.Proofs
open Go Go.Lift
def H1(l:List Pr):Option Pr:=match l with| [p]=>some p|_=>none
def Ca(l:List Pr):Option (List Pr):=if 2≤l.length then some l else none
def uW(x:Hs)(lev:Nat)(l:List Pr):List Pr:=fm (fun c=>H1 (part x lev c l)) 32
def xq(x:Hs)(lev:Nat)(l:List Pr):List (List Pr):=fm (fun c=>Ca (part x lev c l)) 32
theorem S9{W:Nat→Prop}{x:Hs}{h:ac}{m:Nat}{s:Slots}{c:Nat}{l:List Pr}(t:SlotIs W x h m s c l):s.p c=H1 l∧(s.k c).isSome=(Ca l).isSome:=by
 rcases t with⟨rfl,e,d⟩|⟨p,rfl,e,d⟩|⟨f,e,g,d,_⟩
 ·rw[e,d];exact⟨rfl,rfl⟩
 ·rw[e,d];exact⟨rfl,rfl⟩
 ·rw[e,d]
  refine⟨?_,by simp[Ca,f]⟩
  match l,f with
  |a::b::l,_=>rfl
def KidsAt(W:Nat→Prop)(x:Hs)(h:ac)(m:Nat):List (Option Addr)→List (List Pr)→Prop
 | [],[]=>True
 |k::ks,l::ls=>(∃kb,k=some ⟨kb,0,none⟩∧TrieAt W x h m kb l)∧KidsAt W x h m ks ls
 |_,_=>False
theorem KidsAt.app{W:Nat→Prop}{x:Hs}{h:ac}{m:Nat}:∀{ks ks':List (Option Addr)} {ls ls':List (List Pr)},KidsAt W x h m ks ls→KidsAt W x h m ks' ls'→KidsAt W x h m (ks++ks') (ls++ls')
 | [],_,[],_,_,q=>q
 |_::_,_,_::_,_,q,q'=>⟨q.1,KidsAt.app q.2 q'⟩
 | [],_,_::_,_,q,_=>q.elim
 |_::_,_,[],_,q,_=>q.elim
theorem se{β:Type}(g:Nat→Option β)(n:Nat):fm g (n+1)=fm g n++(g n).toList:=by
 unfold fm;rw[rM,List.filterMap_append];cases h:g n<;>simp[h]
theorem P5{W:Nat→Prop}{x:Hs}{h:ac}{m lev:Nat}{s:Slots}{l:List Pr}:∀n,(∀c,c<n→SlotIs W x h m s c (part x lev c l))→KidsAt W x h m (fm s.k n) (fm (fun c=>Ca (part x lev c l)) n)
 |0,_=>trivial
 |n+1,hs=>by
  rw[se,se];refine KidsAt.app (P5 n fun c hc=>hs c (by omega)) ?_
  rcases hs n (by omega)with⟨a,_,b⟩|⟨p,a,_,b⟩|⟨a,_,e,b,d⟩
  ·rw[b,a];exact trivial
  ·rw[b,a];exact trivial
  ·rw[b]
   have:Ca (part x lev n l)=some (part x lev n l):=by unfold Ca;rw[if_pos a]
   simp only[this];exact⟨⟨e,rfl,d⟩,trivial⟩
theorem Na{W:Nat→Prop}{x:Hs}{h:ac}{m lev:Nat}{s:Slots}{l:List Pr}(a:∀c,c<32→SlotIs W x h m s c (part x lev c l)):fm s.p 32=uW x lev l:=
 UG _ fun c hc=>(S9 (a c (List.mem_range.1 hc))).1
end Go.Proofs
namespace Go.Proofs
open Go Go.Lift
theorem yg(x:Hs)(lev:Nat)(l:List Pr):∀n,(((fq n).map fun c=>(part x lev c l).length).sum)=(l.filter fun p=>decide (ck x lev p.1<n)).length
 |0=>by
  have:(l.filter fun p=>decide (ck x lev p.1<0))= []:=List.filter_eq_nil_iff.2 fun p _=>by simp
  rw[this];rfl
 |n+1=>by
  rw[rM,cZ,rL,yg x lev l n];simp only[bK,iC,List.sum_cons,List.sum_nil,iA];unfold part;clear yg;induction l with
  |nil=>rfl
  |cons p l ih=>
   simp only[List.filter_cons,decide_eq_true_iff];split<;>split<;>split<;>first|omega|(simp only[ao];omega)
theorem GR(x:Hs)(lev:Nat)(l:List Pr):(uW x lev l).length+(xq x lev l).flatten.length≤l.length:=by
 have h:=yg x lev l 32;have d:(l.filter fun p=>decide (ck x lev p.1<32)).length≤l.length:=dk ..
 have:∀n,(fm (fun c=>H1 (part x lev c l)) n).length+(fm (fun c=>Ca (part x lev c l)) n).flatten.length≤((fq n).map fun c=>(part x lev c l).length).sum:=by
  intro n;induction n with
  |zero=>simp[fm]
  |succ n ih=>
   rw[se,se,rM,cZ,rL];simp only[ad,List.flatten_append,bK,iC,List.sum_cons,List.sum_nil,iA];generalize part x lev n l=q;have:(H1 q).toList.length+(Ca q).toList.flatten.length≤q.length:=by
    match q with
    | []=>simp[H1,Ca]
    | [a]=>simp[H1,Ca]
    |a::b::q=>simp[H1,Ca]
   omega
 have:=this 32;unfold uW xq;omega
end Go.Proofs
namespace Go.Proofs
open Go Go.Lift
theorem Hb{x:Hs}{lev:Nat}{l:List Pr}{p:Pr}(h:p∈uW x lev l):p∈l:=by
 unfold uW fm at h;obtain⟨c,_,hc⟩:=oV.1 h;unfold H1 at hc;split at hc
 ·rename_i q hq
  cases hc;have:p∈part x lev c l:=by rw[hq];exact av.2 rfl
  exact(me.1 this).1
 ·cases hc
theorem Hc{x:Hs}{lev:Nat}{l L:List Pr}(h:L∈xq x lev l):2≤L.length∧∃c,L=part x lev c l:=by
 unfold xq fm at h;obtain⟨c,_,hc⟩:=oV.1 h;unfold Ca at hc;split at hc
 ·cases hc;exact⟨by assumption,c,rfl⟩
 ·cases hc
theorem Fit.part{x:Hs}{lev c:Nat}{l:List Pr}(h:Fit l):Fit (part x lev c l):=fun p a=>h p (me.1 a).1
end Go.Proofs
namespace Go.Proofs
open Go Go.Lift
end Go.Proofs
namespace Go.Proofs
open Go Go.Lift
theorem Ny{β γ:Type}{g:Nat→Option β}{a:Nat→Option γ}:∀n,(∀c,c<n→(g c).isSome=(a c).isSome)→(fm g n).length=(fm a n).length
 |0,_=>rfl
 |n+1,h=>by
  rw[se,se,ad,ad,Ny n fun c hc=>h c (by omega)]
  have:=h n (by omega);cases h1:g n<;>cases h2:a n<;>rw[h1,h2]at this<;>first|rfl|cases this
theorem Ml{β:Type}{g a:Nat→Option β}:∀n,(∀c,c<n→(g c).isSome=(a c).isSome)→fm g n=fm a n→∀c,c<n→g c=a c
 |0,_,_,c,hc=>absurd hc (Nat.not_lt_zero _)
 |n+1,h,e,c,hc=>by
  rw[se,se]at e;obtain⟨f,b⟩:=List.append_inj e (Ny n fun c hc=>h c (by omega))
  rcases cg c n with d|d
  ·exact Ml n (fun c hc=>h c (by omega)) f c d
  ·have:c=n:=by omega
   subst this;cases h1:g c<;>cases h2:a c<;>rw[h1,h2]at b<;>simp at b⊢
   exact b
theorem yd:∀{l l':List Pr},bV l→bV l'→(∀p,p∈l↔p∈l')→l=l'
 | [],[],_,_,_=>rfl
 | [],q::l',_,_,h=>absurd ((h q).2 (au ..)) (by simp)
 |p::l,[],_,_,h=>absurd ((h p).1 (au ..)) (by simp)
 |p::l,q::l',d,a,h=>by
  have d:=aB.1 d;have a:=aB.1 a;have e:p=q:=by
   rcases aq.1 ((h p).1 (au ..))with e|f
   ·exact e
   ·rcases aq.1 ((h q).2 (au ..))with e|g
    ·exact e.symm
    ·exact absurd (gU (d.1 q g) (a.1 p f)) (cn _)
  subst e;rw[yd d.2 a.2 fun z=>?_]
  constructor
  ·intro c
   rcases aq.1 ((h z).1 (az _ c))with e|b
   ·exact absurd (d.1 z c) (by rw[e];exact cn _)
   ·exact b
  ·intro c
   rcases aq.1 ((h z).2 (az _ c))with e|b
   ·exact absurd (a.1 z c) (by rw[e];exact cn _)
   ·exact b
theorem PT{x:Hs}{lev:Nat}{l l':List Pr}(g:bV l)(d:bV l')(h:∀c,c<32→part x lev c l=part x lev c l'):l=l':=by
 refine yd g d fun p=>?_
 have e:=h (ck x lev p.1) (yR ..);have b:=me (x:=x) (lev:=lev) (c:=ck x lev p.1) (l:=l) (p:=p);have f:=me (x:=x) (lev:=lev) (c:=ck x lev p.1) (l:=l') (p:=p);rw[e]at b;constructor
 ·intro a;exact(f.1 (b.2 ⟨a,rfl⟩)).1
 ·intro a;exact(b.1 (f.2 ⟨a,rfl⟩)).1
end Go.Proofs
namespace Go.Proofs
open Go Go.Lift
def De(lab:ByteArray)(has:Bool)(val:ByteArray)(s:SliceV)(ow:Option Addr):Array Value:= #[.string lab,.bool has,.string val,sv s,.pointer ow]
theorem vw{w:Option ByteArray}{val:ByteArray}(h:val=w.getD ⟨#[]⟩):∀v,w=some v→val=v:=fun v e=>by rw[h,e];rfl
def RxF(W:Nat→Prop)(h:ac):Fo→List (Option Addr)→Prop
 | .nil,ks=>ks= []
 | .cons lab w kids rest,ks=>∃b sl val s ow ks1 ks',ks=some ⟨b,0,none⟩::ks'∧sl.data.toList=lab∧h[b]? =some (.cells (De sl w.isSome val s ow) bJ (0,0))∧val=w.getD ⟨#[]⟩∧Sl rq 1 W h s ks1∧(s.len≤s.cap∧¬W b)∧RxF W h kids ks1∧RxF W h rest ks'
def RxN(W:Nat→Prop)(h:ac)(b:Nat)(sl:ByteArray)(w:Option ByteArray)(F:Fo):Prop:=∃val s ow ks,h[b]? =some (.cells (De sl w.isSome val s ow) bJ (0,0))∧val=w.getD ⟨#[]⟩∧Sl rq 1 W h s ks∧(s.len≤s.cap∧¬W b)∧RxF W h F ks
def Kid(W:Nat→Prop)(h:ac)(k:Option Addr)(n:Bn):Prop:=∃b sl,k=some ⟨b,0,none⟩∧sl.data.toList=n.1∧RxN W h b sl n.2.1 n.2.2
def RxL(W:Nat→Prop)(h:ac)(ks:List (Option Addr))(L:List Bn):Prop:=ks.length=L.length∧∀p∈ks.zip L,Kid W h p.1 p.2
theorem lH{W:Nat→Prop}{h:ac}:∀{F:Fo} {ks:List (Option Addr)},RxF W h F ks↔RxL W h ks F.toL
 | .nil,ks=>by
  unfold RxF RxL;simp[Fo.toL]
 | .cons lab w kids rest,ks=>by
  unfold RxF RxL;rw[Fo.toL_cons];constructor
  ·rintro⟨b,sl,val,s,ow,c,d,rfl,j,n,i,o,g,m,q⟩
   obtain⟨v,t⟩:=lH.1 q;refine⟨by simp[v],fun p a=>?_⟩
   rw[List.zip_cons_cons]at a;rcases aq.1 a with rfl|a
   ·exact⟨b,sl,rfl,j,val,s,ow,c,n,i,o,g,m⟩
   ·exact t p a
  ·cases ks with
   |nil=>rintro⟨e,_⟩;simp at e
   |cons k d=>
    rintro⟨e,a⟩;rw[List.zip_cons_cons]at a;obtain⟨b,sl,u,j,val,s,ow,c,n,i,o,g,m⟩:=a _ (au ..);refine⟨b,sl,val,s,ow,c,d,by rw[←u],j,n,i,o,g,m,lH.2 ⟨by simpa using e,fun p f=>a p (az _ f)⟩⟩
theorem RxF.upd0{W:Nat→Prop}{h h':ac}(k:Upd No h h'):∀{F:Fo} {ks:List (Option Addr)},RxF W h F ks→RxF W h' F ks
 | .nil,_,r=>r
 | .cons _ _ _ _,_,⟨b,sl,val,s,ow,ks1,ks',e0,e1,e2,e3,e4,e5,e6,e7⟩=>⟨b,sl,val,s,ow,ks1,ks',e0,e1,k.get0 e2,e3,e4.upd k fun _ h=>h.elim,e5,RxF.upd0 k e6,RxF.upd0 k e7⟩
theorem RxN.upd0{W:Nat→Prop}{h h':ac}(k:Upd No h h'){b:Nat}{sl:ByteArray}{w:Option ByteArray}{F:Fo}:RxN W h b sl w F→RxN W h' b sl w F
 |⟨val,s,ow,ks,e2,e3,e4,e5,e6⟩=>⟨val,s,ow,ks,k.get0 e2,e3,e4.upd k fun _ h=>h.elim,e5,RxF.upd0 k e6⟩
theorem Kid.upd0{W:Nat→Prop}{h h':ac}(k:Upd No h h'){a:Option Addr}{n:Bn}:Kid W h a n→Kid W h' a n
 |⟨b,sl,e1,e2,e3⟩=>⟨b,sl,e1,e2,e3.upd0 k⟩
theorem RxF.less{W W':Nat→Prop}{h:ac}(hm:∀b,W' b→W b∨h.size≤b):∀{F:Fo} {ks:List (Option Addr)},RxF W h F ks→RxF W' h F ks
 | .nil,_,r=>r
 | .cons _ _ _ _,_,⟨b,sl,val,s,ow,ks1,ks',e0,e1,e2,e3,e4,e5,e6,e7⟩=>⟨b,sl,val,s,ow,ks1,ks',e0,e1,e2,e3,e4.less hm,⟨e5.1,fun hx=>(hm _ hx).elim e5.2 fun h=>by have:=bo e2;omega⟩,RxF.less hm e6,RxF.less hm e7⟩
theorem RxN.less{W W':Nat→Prop}{h:ac}(hm:∀b,W' b→W b∨h.size≤b){b:Nat}{sl:ByteArray}{w:Option ByteArray}{F:Fo}:RxN W h b sl w F→RxN W' h b sl w F
 |⟨val,s,ow,ks,e2,e3,e4,e5,e6⟩=>⟨val,s,ow,ks,e2,e3,e4.less hm,⟨e5.1,fun hx=>(hm _ hx).elim e5.2 fun h=>by have:=bo e2;omega⟩,RxF.less hm e6⟩
theorem RxF.updM{W M:Nat→Prop}{h h':ac}(k:Upd M h h')(hm:∀b,M b→W b∨h.size≤b):∀{F:Fo} {ks:List (Option Addr)},RxF W h F ks→RxF W h' F ks
 | .nil,_,r=>r
 | .cons _ _ _ _,_,⟨b,sl,val,s,ow,ks1,ks',e0,e1,e2,e3,e4,e5,e6,e7⟩=>⟨b,sl,val,s,ow,ks1,ks',e0,e1,k.get e2 (fun hx=>(hm _ hx).elim e5.2 fun h=>by have:=bo e2;omega),e3,e4.upd k hm,e5,RxF.updM k hm e6,RxF.updM k hm e7⟩
theorem RxN.updM{W M:Nat→Prop}{h h':ac}(k:Upd M h h')(hm:∀b,M b→W b∨h.size≤b){b:Nat}{sl:ByteArray}{w:Option ByteArray}{F:Fo}:RxN W h b sl w F→RxN W h' b sl w F
 |⟨val,s,ow,ks,e2,e3,e4,e5,e6⟩=>⟨val,s,ow,ks,k.get e2 (fun hx=>(hm _ hx).elim e5.2 fun h=>by have:=bo e2;omega),e3,e4.upd k hm,e5,RxF.updM k hm e6⟩
theorem RxL.upd0{W:Nat→Prop}{h h':ac}(k:Upd No h h'){ks:List (Option Addr)}{L:List Bn}(r:RxL W h ks L):RxL W h' ks L:=⟨r.1,fun p a=>(r.2 p a).upd0 k⟩
theorem RxL.app{W:Nat→Prop}{h:ac}{ks b:List (Option Addr)}{L L':List Bn}(r:RxL W h ks L)(c:RxL W h b L'):RxL W h (ks++b) (L++L'):=by
 refine⟨by rw[ad,ad,r.1,c.1],fun p a=>?_⟩
 rw[List.zip_append r.1]at a;rcases aN.1 a with a|a
 ·exact r.2 p a
 ·exact c.2 p a
theorem RxL.one{W:Nat→Prop}{h:ac}{k:Option Addr}{n:Bn}(c:Kid W h k n):RxL W h [k] [n]:=⟨rfl,fun p a=>by rw[List.zip_cons_cons,List.zip_nil_left]at a;rw[av.1 a];exact c⟩
theorem RxL.take{W:Nat→Prop}{h:ac}{ks:List (Option Addr)}{L:List Bn}(r:RxL W h ks L)(i:Nat):RxL W h (ks.take i) (L.take i):=by
 refine⟨by rw[aP,aP,r.1],fun p a=>r.2 p ?_⟩
 have:(ks.take i).zip (L.take i)=(ks.zip L).take i:=by rw[nC,nC,List.take_zipWith]
 rw[this]at a;exact List.mem_of_mem_take a
theorem RxL.drop{W:Nat→Prop}{h:ac}{ks:List (Option Addr)}{L:List Bn}(r:RxL W h ks L)(i:Nat):RxL W h (ks.drop i) (L.drop i):=by
 refine⟨by rw[aM,aM,r.1],fun p a=>r.2 p ?_⟩
 have:(ks.drop i).zip (L.drop i)=(ks.zip L).drop i:=by rw[nC,nC,List.drop_zipWith]
 rw[this]at a;exact List.mem_of_mem_drop a
theorem RxL.ins{W:Nat→Prop}{h:ac}{ks:List (Option Addr)}{L:List Bn}(r:RxL W h ks L)(i:Nat){k:Option Addr}{n:Bn}(c:Kid W h k n):RxL W h (ks.take i++k::ks.drop i) (L.take i++n::L.drop i):=by
 have:=(r.take i).app ((RxL.one c).app (r.drop i));exact this
theorem RxL.set{W:Nat→Prop}{h:ac}{ks:List (Option Addr)}{L:List Bn}(r:RxL W h ks L){i:Nat}(hi:i<L.length){k:Option Addr}{n:Bn}(c:Kid W h k n):RxL W h (ks.set i k) (L.set i n):=by
 have:=(r.take i).app ((RxL.one c).app (r.drop (i+1)));rw[dt,dt,if_pos (by rw[r.1];exact hi),if_pos hi];exact this
theorem RxL.at{W:Nat→Prop}{h:ac}{ks:List (Option Addr)}{L:List Bn}(r:RxL W h ks L){i:Nat}(hi:i<L.length):∃b sl,ks[i]? =some (some ⟨b,0,none⟩)∧sl.data.toList=L[i].1∧RxN W h b sl L[i].2.1 L[i].2.2:=by
 have d:i<ks.length:=by rw[r.1];exact hi
 have a:i<(ks.zip L).length:=by rw[List.length_zip];omega
 have:=r.2 _ (bX a);rw[List.getElem_zip]at this;obtain⟨b,sl,e,f,c⟩:=this;exact⟨b,sl,by rw[List.getElem?_eq_getElem d];exact congrArg some e,f,c⟩
theorem GV:∀{L:List Bn} {c:Nat},L.Pairwise (fun m n=>hd m.1<hd n.1)→(∀n∈L,c≤hd n.1)→L= []∨c+L.length≤256
 | [],_,_,_=>.inl rfl
 |n::L,c,a,hc=>by
  have a:=aB.1 a;have b:=hc n (au ..);have d:=SN n.1;rcases GV (c:=hd n.1+1) a.2 fun m hm=>a.1 m hm with e|e
  ·rw[e];right;simp only[List.length_singleton];omega
  ·right;rw[ao];omega
theorem qA{F:Fo}(h:g8 F):F.toL.length≤256:=by
 rcases GV (c:=0) (dM.1 h).1 fun _ _=>bS _ with e|e
 ·rw[e];simp
 ·omega
theorem fk{h:ac}{b i:Nat}{c:Array Value}(a:h[b]? =some (.cells c bJ (0,0))):aI h (adr ⟨b,0,none⟩ i)=c[i]?:=by rw[bW,aH];exact aL a
theorem Q8{h:ac}{b i:Nat}{c:Array Value}(a:h[b]? =some (.cells c bJ (0,0))) (hi:i<c.size):Wr h (adr ⟨b,0,none⟩ i):=by rw[bW,aH];exact gn a hi
theorem Gb{h:ac}{b i:Nat}{c c':Array Value}{v:Value}{k:ac→Prop}(g:h[b]? =some (.cells c bJ (0,0))) (e:c.setIfInBounds i v=c') (d:∀h',h'[b]? =some (.cells c' bJ (0,0))→Upd (· =b) h h'→k h'):At (hset h (adr ⟨b,0,none⟩ i) v) k:=by
 rw[bW,aH];exact xP g fun h' a f=>d h' (e▸a) f
theorem Tz(s:ByteArray)(i:Nat):s[i]? =s.data.toList[i]?:=by
 rw[Array.getElem?_toList];by_cases h:i<s.size
 ·rw[getElem?_pos s i h,getElem?_pos s.data i h];rfl
 ·rw[getElem?_neg s i h,getElem?_neg s.data i h]
theorem Iy{s:ByteArray}(a:s.data.toList≠[]):∃c:UInt8,s[0]? =some c∧c.toNat=hd s.data.toList:=by
 rw[Tz];match s.data.toList,a with
 |c::l,_=>exact⟨c,rfl,rfl⟩
theorem BX{W:Nat→Prop}{h:ac}{b:Nat}{sl:ByteArray}{w:Option ByteArray}{F:Fo}(r:RxN W h b sl w F)(hc:g8 F){c:Nat}(hc8:c<256){K:Int×Bool→ac→Prop}
  (G:∀i ok,i≤F.toL.length→(∀j (p:j<F.toL.length),j<i→hd F.toL[j].1<c)→(∀j (p:j<F.toL.length),i≤j→c≤hd F.toL[j].1)→(ok=true↔∃hi:i<F.toL.length,hd F.toL[i].1=c)→K ((i:Int),ok) h):HC PG jv [.pointer (some ⟨b,0,none⟩),.int .u8 c] [.c (.int .i64),.c .bool] K h:=by
 refine A8 _ c ?_;unfold ug bR;obtain⟨val,s,ow,ks,hb,_,hs,hcap,hF⟩:=r;refine⟨_,rfl,s,fk (i:=3) hb,?_⟩;have T:=lH.1 hF;have e:=dM.1 hc;have hn:=qA hc;have y:=hs.len;rw[T.1]at y;generalize hLe:F.toL=L at T e hn y G;refine gF s c _ ?_;unfold dG aZ cp mC Eu
 have C:∀{i:Nat} (hi:i<L.length) {K:Int→ac→Prop},K ((hd L[i].1:Int)-(c:Int)) h→∃a,s.a=some a∧∃v,aI h (adr a (i*1))=some (.pointer v)∧HV PG (.func (.func nh) #[] #[]) [.pointer v,.int .u8 c] [.c (.int .i64)] K h:=by
  intro i hi K G;obtain⟨kb,D,N,E,H⟩:=T.at hi;obtain⟨a,ha,_,hv⟩:=hs.at0 N;refine⟨a,ha,_,hv,HV.mk' (yy (some ⟨kb,0,none⟩) c ?_)⟩;unfold rV aF;obtain⟨kval,kss,kow,kks,R,_⟩:=H;have J:D.data.toList≠[]:=by rw[E];exact(e.2 _ (bX hi)).1
  obtain⟨u,hu,P⟩:=Iy J;refine⟨_,rfl,D,fk (i:=0) R,u,pe _,hu,?_⟩;simp only[Bd];have f:=SN L[i].1;rw[P,E,d8 (x:=(hd L[i].1:Int)) (by omega),d8 (x:=(c:Int)) (by omega),d8 (by omega)];exact G
 have mono:∀i j (hi:i<L.length) (p:j<L.length),i<j→hd L[i].1<hd L[j].1:=fun i j hi p d=>bZ.1 e.1 i j hi p d
 refine LoopP.ghost (fun(g:Nat×Nat) (t:Int×Int) h'=>t.1=(g.1:Int)∧t.2=(g.2:Int)∧g.1≤g.2∧g.2≤L.length∧h'=h∧(∀j (p:j<L.length),j<g.1→hd L[j].1<c)∧(∀j (p:j<L.length),g.2≤j→c≤hd L[j].1)) (fun g=>g.2-g.1) (0,L.length)
  ⟨rfl,by simp only;omega,by simp,by simp,rfl,fun j p h=>by omega,fun j p h=>by simp only at h;omega⟩ ?_
 rintro I ⟨i,j⟩ ⟨ti,tj⟩ h' ⟨Z,X,d,n,rfl,o,k⟩ U;simp only at Z X d n o k;subst Z X;refine aD (fun f=>?_) fun S=>?_
 ·have f:i<j:=by have:(i:Int)<(j:Int):=f;omega
  have em:IntKind.wrap .i64 (Int.fdiv (IntKind.wrap .u64 (IntKind.wrap .i64 ((i:Int)+(j:Int)))) (2^(min (1:Int).toNat (IntKind.bits .u64))))=(((i+j)/2:Nat):Int):=by
   have e3:(2^(min (1:Int).toNat (IntKind.bits .u64)):Int)=2:=rfl;rw[e3,d8 (x:=(i:Int)+(j:Int)) (by omega),Go.IntWalk.u64_in _ (by omega),Int.fdiv_eq_ediv_of_nonneg _ (by omega),d8 (by omega)];omega
  refine⟨by decide,?_⟩;simp only[Bd];rw[em];generalize hm:(i+j)/2=m;have A:m<L.length:=by omega
  refine⟨by omega,?_⟩;refine C A ?_;refine aD (fun V=>?_) fun Y=>?_
  ·refine U (m+1,j) _ _ ⟨by simp only;rw[d8 (by omega)];omega,rfl,by simp only;omega,n,rfl,fun q Q z=>?_,k⟩ (by simp only;omega)
   simp only at z;rcases cg q m with h|h
   ·have:=mono q m Q A h;omega
   ·have:q=m:=by omega
    subst this;omega
  ·refine U (i,m) _ _ ⟨rfl,rfl,by simp only;omega,by simp only;omega,rfl,o,fun q Q z=>?_⟩ (by simp only;omega)
   simp only at z;rcases cg m q with h|h
   ·have:=mono m q A Q h;omega
   ·have:q=m:=by omega
    subst this;omega
 ·have d:i=j:=by have:¬(i:Int)<(j:Int):=S;omega
  subst d;refine aD (fun f=>?_) fun O=>?_
  ·have B:i<L.length:=by have:(i:Int)<(s.len:Int):=f;omega
   refine⟨by simp only;omega,?_⟩;refine C B ?_;refine G i _ n o k ?_;rw[beq_iff_eq];exact⟨fun h=>⟨B,by omega⟩,fun⟨_,h⟩=>by omega⟩
  ·have B:i=L.length:=by have:¬(i:Int)<(s.len:Int):=O;omega
   exact G i false n o k ⟨fun h=>(by cases h),fun h=>(by obtain⟨h,_⟩:=h;omega)⟩
end Go.Proofs
namespace Go.Proofs
open Go Go.Lift
theorem JJ{b:Nat}{h:ac}{K:Bool→ac→Prop}(a:K false h):HC PG oD [.pointer (some ⟨b,0,none⟩),.pointer none] [.c .bool] K h:=by
 refine zU _ none ?_;unfold th eZ;exact ar.2 (xt (ai.2 a))
abbrev SJ:List Value:= [.string (⟨#[]⟩:ByteArray),.bool false,.string (⟨#[]⟩:ByteArray),.slice none 0 0,.pointer none]
theorem ph{W:Nat→Prop}{h:ac}{b:Nat}{sl val:ByteArray}{has:Bool}{s:SliceV}{ow:Option Addr}{ks:List (Option Addr)}(d:h[b]? =some (.cells (De sl has val s ow) bJ (0,0))) (A:Sl rq 1 W h s ks) (C:ks.length≤256) {K:Option Addr→ac→Prop}
  (B:∀h' s',h'[h.size]? =some (.cells (De sl has val s' none) bJ (0,0))→OwnS rq 1 bq (fun x=>h.size<x∧x<h'.size) h' s' ks→Upd No h h'→K (some ⟨h.size,0,none⟩) h'):
  HC PG dF [.pointer (some ⟨b,0,none⟩),.pointer none] [.c .ptr] K h:=by
 refine CF _ none ?_;unfold vz eZ nv w7 aF dI bh bR Jn TX;refine JJ (ai.2 ?_);refine⟨_,rfl,sl,fk (i:=0) d,has,fk (i:=1) d,val,fk (i:=2) d,s,fk (i:=3) d,ow,fk (i:=4) d,bw ?_⟩;have k1:=Upd.hnew No h SJ bJ;have b1:=bE h SJ bJ;simp only[cr h];generalize hnew h [.string (⟨#[]⟩:ByteArray),.bool false,.string (⟨#[]⟩:ByteArray),.slice none 0 0,.pointer none] bJ=h1 at k1 b1
 refine cO (c:=SJ) (vs:= [.string sl,.bool has,.string val,.slice s.a s.len s.cap,.pointer ow]) b1 rfl fun v b2 p=>?_
 have m:Upd No h v:=k1.trans p fun x hx=>.inr (di hx.symm)
 have w:h.size<v.size:=bo b2;have k:=m.get0 d;refine⟨_,rfl,s,fk (i:=3) k,?_⟩;refine HA (A.upd m fun _ h=>h.elim) (by omega) fun j y q g=>?_
 have b3:y[h.size]? =some (.cells (De sl has val s ow) bJ (0,0)):=g.get0 b2;refine⟨Q8 (i:=3) b3 (show 3<5 by decide),Gb (i:=3) (c':=De sl has val j ow) b3 rfl fun D t n=>?_⟩
 refine⟨Q8 (i:=4) t (show 4<5 by decide),Gb (i:=4) (c':=De sl has val j none) t rfl fun u z o=>?_⟩
 refine xt (ai.2 ?_);have a:=n.tr o;have E:=a.size;have f:=(q.within.upd a fun x hx e=>by have e:x=h.size:=e;have:=hx.1;omega).more (M':=fun x=>h.size<x∧x<u.size) fun x hx=>⟨by have:=hx.1;omega,by have:=hx.2;omega⟩
 exact B u j z f ((m.tr g).trans a fun x hx=>.inr (di hx.symm))
theorem vP{h:ac}{b:Nat}{sl nl:ByteArray}{has:Bool}{val:ByteArray}{s:SliceV}{ow:Option Addr}(a:h[b]? =some (.cells (De sl has val s ow) bJ (0,0))) {K:Option Addr→ac→Prop}
  (c:∀h',h'[b]? =some (.cells (De nl has val s ow) bJ (0,0))→Upd (· =b) h h'→K (some ⟨b,0,none⟩) h'):HC PG gw [.pointer (some ⟨b,0,none⟩),.string nl] [.c .ptr] K h:=by
 refine zT _ nl ?_;unfold tg dI;exact⟨_,rfl,Q8 (i:=0) a (show 0<5 by decide),Gb (i:=0) (c':=De nl has val s ow) a rfl c⟩
theorem Dd{h:ac}{b:Nat}{sl v:ByteArray}{has:Bool}{val:ByteArray}{s:SliceV}{ow:Option Addr}(d:h[b]? =some (.cells (De sl has val s ow) bJ (0,0))) {K:Option Addr→ac→Prop}
  (f:∀h',h'[b]? =some (.cells (De sl true v s ow) bJ (0,0))→Upd (· =b) h h'→K (some ⟨b,0,none⟩) h'):HC PG jP [.pointer (some ⟨b,0,none⟩),.string v] [.c .ptr] K h:=by
 refine yx _ v ?_;unfold rU dI;exact⟨_,rfl,Q8 (i:=1) d (show 1<5 by decide),Gb (i:=1) (c':=De sl true val s ow) d rfl fun g b1 c=>⟨_,rfl,Q8 (i:=2) b1 (show 2<5 by decide),Gb (i:=2) (c':=De sl true v s ow) b1 rfl fun e b2 a=>f e b2 (c.tr a)⟩⟩
theorem LC{h:ac}{k v:ByteArray}{K:Option Addr→ac→Prop}(m:∀h' b s,h'[b]? =some (.cells (De k true v s none) bJ (0,0))→s.len=0→s.len≤s.cap→h.size≤b→Upd No h h'→K (some ⟨b,0,none⟩) h'):HC PG uL [.pointer none,.string k,.string v] [.c .ptr] K h:=by
 refine Gu none k v ?_;unfold yY sx w7 Jn;have k1:=Upd.hnew No h SJ bJ;have b1:=bE h SJ bJ;refine bw ?_;simp only[cr h];generalize hnew h [.string (⟨#[]⟩:ByteArray),.bool false,.string (⟨#[]⟩:ByteArray),.slice none 0 0,.pointer none] bJ=h1 at k1 b1;refine ph (W:=No) (ks:= []) (sl:=⟨#[]⟩) (val:=⟨#[]⟩) (has:=false) (s:=⟨none,0,0⟩) (ow:=none) b1 (Sl.nil pi) (bS _) fun n s b2 a c=>?_
 refine vP (nl:=k) b2 fun o b3 e=>Dd (v:=v) b3 fun i j f=>?_
 have d:=e.tr f;have z:=c.size;have g:=k1.size;refine m i h1.size s j a.len a.cap g ((k1.tr c).trans d fun x hx=>.inr (by have hx:x=h1.size:=hx;omega))
theorem Uk{W:Nat→Prop}{h:ac}{b:Nat}{k v:ByteArray}{s:SliceV}{ow:Option Addr}(c:h[b]? =some (.cells (De k true v s ow) bJ (0,0))) (a:s.len=0) (hc:s.len≤s.cap) (nw:¬W b):RxN W h b k (some v) .nil:=
 ⟨v,s,ow,[],c,rfl,⟨a,pi,fun h=>absurd rfl h⟩,⟨hc,nw⟩,rfl⟩
theorem Fg(s:ByteArray)(c:Nat):(s.extract 0 c).data.toList=s.data.toList.take c:=by
 rw[pW,Array.toList_extract,gi];simp
theorem Fh(s:ByteArray)(c:Nat):(s.extract c s.size).data.toList=s.data.toList.drop c:=by
 rw[pW,Array.toList_extract,gi,List.take_of_length_le];rw[aM];simp
theorem LB{W:Nat→Prop}{h:ac}{b:Nat}{sl:ByteArray}{w:Option ByteArray}{F:Fo}(r:RxN W h b sl w F)(A:∀y,W y→y<h.size)(S:F.toL.length≤256){c:Nat}(hc:c≤sl.size){K:Option Addr→ac→Prop}
  (hk:∀h' b',RxN W h' b' (sl.extract 0 c) none (.cons (sl.data.toList.drop c) w F .nil)→Upd No h h'→K (some ⟨b',0,none⟩) h'):HC PG oC [.pointer (some ⟨b,0,none⟩),.pointer none,.int .i64 c] [.c .ptr] K h:=by
 refine zS _ none c ?_;unfold tf sx w7 aF dI Jn;obtain⟨val,s,ow,ks,O,hv,hs,P,J⟩:=r;have lab:∀{h'},Upd No h h'→aI h' (adr ⟨b,0,none⟩ 0)=some (.string sl):=fun k=>fk (i:=0) (k.get0 O)
 have R:=Upd.refl No h;refine⟨_,rfl,sl,lab R,⟨by omega,by omega⟩,bw ?_⟩
 have k1:=Upd.hnew No h SJ bJ;have b1:=bE h SJ bJ;simp only[cr h];generalize hnew h [.string (⟨#[]⟩:ByteArray),.bool false,.string (⟨#[]⟩:ByteArray),.slice none 0 0,.pointer none] bJ=h1 at k1 b1;refine⟨lab k1,?_⟩;refine ph (W:=No) (ks:= []) (sl:=⟨#[]⟩) (val:=⟨#[]⟩) (has:=false) (s:=⟨none,0,0⟩) (ow:=none) b1 (Sl.nil pi) (bS _) fun h2 Y b2 _ z=>⟨lab (k1.tr z),?_⟩
 rw[aY];refine vP b2 fun d b3 H=>?_
 have z1:=k1.size;have a:Upd No h d:=(k1.tr z).trans H fun x hx=>.inr (by have hx:x=h1.size:=hx;omega)
 refine ph (a.get0 O) (hs.upd a fun _ h=>h.elim) (by rw[(lH.1 J).1];exact S) fun h4 Z I B t=>?_
 refine⟨_,rfl,sl,fk (i:=0) I,⟨by omega,by omega⟩,?_⟩
 refine vP (nl:=sl.extract c sl.size) I fun f X n=>?_
 have j:Upd No h f:=(a.tr t).trans n fun x hx=>.inr (by have hx:x=d.size:=hx;have:=a.size;omega)
 have G:=B.upd n fun x hx e=>by have e:x=d.size:=e;have:=hx.1;omega
 have V:=bo b3;have q:f[h1.size]? =some (.cells (De (sl.extract 0 c) false ⟨#[]⟩ Y none) bJ (0,0)):=n.get (t.get0 b3) (by show ¬h1.size=d.size;omega);have p:=Upd.hnew No f [.pointer (some ⟨d.size,0,none⟩)] bq;have N:=bE f [.pointer (some ⟨d.size,0,none⟩)] bq;have U:=j.size;have hz3:=a.size;refine bw ?_;simp only[cr f]
 generalize hnew f [.pointer (some ⟨d.size,0,none⟩)] bq=h6 at p N;have u:=p.get0 q;have L:=bo q;refine⟨_,rfl,Q8 (i:=3) u (show 3<5 by decide),Gb (i:=3) (c':=De (sl.extract 0 c) false ⟨#[]⟩ ⟨some ⟨f.size,0,none⟩,1,1⟩ none) u rfl fun C T g=>?_⟩
 have m:Upd No h C:=(j.tr p).trans g fun x hx=>.inr (by have hx:x=h1.size:=hx;omega)
 have D:C[f.size]? =some (.cells #[.pointer (some ⟨d.size,0,none⟩)] bq (0,0)):=g.get N (by show ¬f.size=h1.size;omega);have E:=g.get (p.get0 X) (by show ¬d.size=h1.size;omega);have o:=(G.upd p fun _ _ h=>h).upd g fun x hx e=>by have e:x=h1.size:=e;have:=hx.1;omega
 refine hk C h1.size ⟨⟨#[]⟩,_,none,[some ⟨d.size,0,none⟩],T,rfl,⟨rfl,pi,fun _=>⟨_,rfl,(fun hx=>by have hx:W f.size:=hx;have:=A _ hx;omega),rZ D fun i v hi=>?_⟩⟩,⟨al _,fun hx=>by have:=A _ hx;omega⟩,?_⟩ m
 ·rw[aH]
  rw[←List.getElem?_toArray]at hi;exact hi
 ·refine⟨d.size,sl.extract c sl.size,val,Z,none,ks,[],rfl,Fh ..,E,hv,o.sl (fun x hx _ Q=>by have:=A _ Q;have:=hx.1;omega),⟨o.cap,fun hx=>by have:=A _ hx;omega⟩,RxF.upd0 m J,rfl⟩
end Go.Proofs
namespace Go.Proofs
open Go Go.Lift
theorem Qz:∀{x y:List UInt8} {i:Nat},i≤x.length→i≤y.length→(∀j,j<i→x[j]? =y[j]?)→(i=x.length∨i=y.length∨x[i]?≠y[i]?)→cm x y=i
 | [],_,i,h1,_,_,_=>by simp at h1;simp[cm,h1]
 |_::_,[],i,_,h2,_,_=>by simp at h2;simp[cm,h2]
 |a::x,b::y,0,_,_,_,h=>by
  unfold cm;rw[if_neg];rintro rfl;rcases h with h|h|h<;>simp at h
 |a::x,b::y,i+1,h1,h2,h3,h4=>by
  have:=h3 0 (by omega);simp only[List.getElem?_cons_zero,bD.injEq]at this;unfold cm;rw[if_pos this,Qz (i:=i) (by simpa using h1) (by simpa using h2) (fun j c=>by simpa using h3 (j+1) (by omega)) (by simpa using h4)]
theorem OH{a b:ByteArray}(z:a.size≤1000000){h:ac}{K:Int→ac→Prop}(n:K (cm a.data.toList b.data.toList:Nat) h):HC PG uJ [.string a,.string b] [.c (.int .i64)] K h:=by
 refine Gs a b ?_;unfold yW;simp only[Bd];have g:(if(b.size:Int)<(a.size:Int)then(b.size:Int)else(a.size:Int))=((min a.size b.size:Nat):Int):=by split<;>omega
 rw[g];have y:a.data.toList.length=a.size:=by simp
 have A:b.data.toList.length=b.size:=by simp
 refine LoopP.ghost (fun(i:Nat) (t:Int) h'=>t=(i:Int)∧i≤min a.size b.size∧h'=h∧∀j,j<i→a.data.toList[j]? =b.data.toList[j]?) (fun i=>min a.size b.size-i) 0 ⟨rfl,bS _,rfl,fun j s=>absurd s (Nat.not_lt_zero _)⟩ ?_
 rintro I i t h' ⟨rfl,hi,rfl,p⟩ w;refine aD (fun d=>?_) fun x=>?_
 ·have d:i<min a.size b.size:=by omega
  have m:i<a.size:=by omega
  have k:i<b.size:=by omega
  refine⟨a[i],by omega,by rw[aY,getElem?_pos a i m],b[i],by omega,by rw[aY,getElem?_pos b i k],?_⟩
  have u:a.data.toList[i]? =some a[i]:=by rw[←Tz,getElem?_pos a i m]
  have v:b.data.toList[i]? =some b[i]:=by rw[←Tz,getElem?_pos b i k]
  refine CondP.intro (fun f=>?_) fun c=>?_
  ·rw[Qz (i:=i) (by omega) (by omega) p (.inr (.inr fun e=>?_))]at n
   ·exact n
   ·rw[u,v]at e
    rw[bD.inj e]at f;simp at f
  ·have c:a[i]=b[i]:=by
    have:((a[i].toNat:Int))=(b[i].toNat:Int):=by simpa using c
    exact UInt8.toNat_inj.1 (by omega)
   rw[jm d (by omega)];refine w (i+1) _ _ ⟨rfl,d,rfl,fun j s=>?_⟩ (by omega)
   rcases cg j i with q|q
   ·exact p j q
   ·have:j=i:=by omega
    subst this;rw[u,v,c]
 ·have o:i=min a.size b.size:=by omega
  rw[Qz (i:=i) (by omega) (by omega) p (by omega)]at n;rw[←o];exact n
theorem Oc{F:Fo}{i:Nat}{k:List UInt8}{v:ByteArray}(h:g8 F)(hi:i<F.toL.length)(ek:hd F.toL[i].1=hd k)(a:uQ (w9 F.toL[i]) (w9 F.toL[i]) k v):uQ (tG F) (tG F) k v:=by
 have:=JT h hi ek a;rw[List.set_getElem_self,Fo.of_to]at this;exact this
theorem PQ{P Q a:List UInt8→ByteArray→Prop}{k:List UInt8}{v:ByteArray}(h:uQ P a k v)(e:∀k v,P k v↔Q k v):uQ Q a k v:=fun k' b=>by rw[h k' b,e]
set_option maxHeartbeats 1000000 in
theorem PJ{W:Nat→Prop}:∀(n:Nat) {b:Nat} {sl:ByteArray} {w:Option ByteArray} {F:Fo} {h:ac} (k v:ByteArray),k.size<n→k.size≤1000000→RxN W h b sl w F→(∀y,W y→y<h.size)→g8 F→∀{K:(Option Addr)×Bool×Bool→ac→Prop},
  (∀h' b' w' F' C ch,Upd No h h'→RxN W h' b' sl w' F'→g8 F'→uQ (vi w F) (vi w' F') k.data.toList v→(ch=false→b'=b∧w'=w∧F'=F)→(vi w F k.data.toList v→ch=false)→K (some ⟨b',0,none⟩,C,ch) h')→
  HC PG mF [.pointer (some ⟨b,0,none⟩),.pointer none,.string k,.string v] [.c .ptr,.c .bool,.c .bool] K h:=by
 intro n;induction n with
 |zero=>intro b sl w F h k v hk;omega
 |succ n ih=>
  intro b sl w F h k v J hk6 r Z hc K hk;refine CE (some ⟨b,0,none⟩) none k v ?_;unfold vy aZ cp sx w7 aF m8 dI Po bh bR Eu SZ HS;have hr:=r;obtain⟨val,s,ow,ks,Y,hv,hs,hcap,hF⟩:=r;have V:=lH.1 hF;have hn:=qA hc;have hcan:=dM.1 hc;rw[fw];refine aD (fun hk0=>?_) fun hk0=>?_
  ·have hke:k.data.toList= []:=by rw[hk0]
   rw[hke]at hk;refine Join.intro (fun t h'=>t=decide (w=some v)∧h'=h) (fun R hR=>⟨_,rfl,w.isSome,fk (i:=1) Y,?_⟩) ?_
   ·cases I:w with
    |none=>exact ai.2 (hR _ _ ⟨by rw[I];rfl,rfl⟩)
    |some u=>
     refine ar.2 ⟨_,rfl,val,fk (i:=2) Y,hR _ _ ⟨?_,rfl⟩⟩;rw[fw,vw hv u I,I];exact decide_eq_decide.2 ⟨fun e=>by rw[e],fun e=>bD.inj e⟩
   ·rintro t h' ⟨rfl,rfl⟩
    refine aD (fun e=>?_) fun e=>?_
    ·refine hk h' b w F false false (Upd.refl _ _) hr hc ?_ (fun _=>⟨rfl,rfl,rfl⟩) fun _=>rfl
     rw[e];exact GZ hc v
    ·refine⟨_,rfl,w.isSome,fk (i:=1) Y,?_⟩
     refine ph Y hs (by rw[V.1];exact hn) fun h1 s1 b1 ho1 p=>?_
     refine⟨fk (i:=1) (p.get0 Y),?_⟩;refine Dd b1 fun B b2 A=>?_
     have d:Upd No h' B:=p.trans A fun x hx=>.inr (di (Eq.symm hx))
     refine⟨fk (i:=1) (d.get0 Y),?_⟩;have ho2:=ho1.upd A fun x hx e=>by have e:x=h'.size:=e;have:=hx.1;omega
     refine hk B h'.size (some v) F _ true d ⟨v,s1,none,ks,b2,rfl,ho2.sl (fun x hx _ I=>by have:=Z _ I;have:=hx.1;omega),⟨ho2.cap,fun hx=>lw _ (Z _ hx)⟩,RxF.upd0 d hF⟩ hc (GZ hc v) (fun h=>by cases h) fun g=>?_
     rcases g with⟨_,h⟩|h
     ·exact absurd h e
     ·exact absurd rfl (vY hc h)
  ·have f:k.data.toList≠[]:=fun e=>hk0 (by cases k;exact congrArg wJ (Array.toList_inj.1 e))
   obtain⟨c0,hc0,hc0e⟩:=Iy f;refine⟨c0,pe _,hc0,?_⟩;have hlk:k.data.toList.length=k.size:=by simp
   refine BX hr hc (c:=c0.toNat) (UInt8.toNat_lt _) fun i ok hil hlo hhi hok=>?_
   rw[hc0e]at hlo hhi hok;cases ok with
   |false=>
    have hno:∀hi:i<F.toL.length,hd F.toL[i].1≠hd k.data.toList:=fun hi e=>by have:=hok.2 ⟨hi,e⟩;cases this
    have hhi':∀j (hj:j<F.toL.length),i≤j→hd k.data.toList<hd F.toL[j].1:=fun j hj hij=>by
     have h1:=hhi j hj hij;rcases cg i j with X|X
     ·have B:=bZ.1 hcan.1 i j (by omega) hj X
      have h3:=hhi i (by omega) (al _);omega
     ·have:i=j:=by omega
      subst this;have:=hno hj;omega
    obtain⟨hc',hp'⟩:=Oe (v:=v) hc f hlo hhi';refine ar.2 ?_;refine ph Y hs (by rw[V.1];exact hn) fun h1 s1 b1 ho1 p=>?_
    refine⟨_,rfl,s1,fk (i:=3) b1,?_⟩;refine LC fun B fb fs fb2 hf0 hfc hfb A=>⟨fk (i:=3) (A.get0 b1),bw ?_⟩
    have k3:=Upd.hnew No B [.pointer (some ⟨fb,0,none⟩)] bq;have b3:=bE B [.pointer (some ⟨fb,0,none⟩)] bq;have z3:(hnew B [.pointer (some ⟨fb,0,none⟩)] bq).size=B.size+1:=gt ..;simp only[cr B];generalize hnew B [.pointer (some ⟨fb,0,none⟩)] bq=h3 at k3 b3 z3;have E:=A.tr k3;refine⟨fk (i:=3) (E.get0 b1),?_⟩;have z1:=bo b1
    have z2:=A.size;have zf:=bo fb2;have ho3:=(ho1.upd E fun _ _ h=>h).more (M':=fun x=>(h.size<x∧x<h1.size)∨h3.size≤x) fun x hx=>.inl hx
    refine Ma ho3 (k:=i) (by rw[V.1];exact hil) (by rw[V.1];omega) b3 (by rintro(h|h)<;>omega) (fun x hx=>.inr hx) fun s4 h4 L G=>?_
    have b4:=G.get (E.get0 b1) (by rintro(h|h)<;>omega)
    have f4:=G.get (k3.get0 fb2) (by rintro(h|h)<;>omega)
    refine⟨_,rfl,Q8 (i:=3) b4 (show 3<5 by decide),Gb (i:=3) (c':=De sl w.isSome val s4 none) b4 rfl fun h5 b5 hu5=>?_⟩
    have hu05:Upd No h h5:=((p.tr E).trans G fun x hx=>.inr (by have:=p.size;rcases hx with hx|hx<;>omega)).trans hu5 fun x hx=>.inr (di (Eq.symm hx))
    have ho5:=L.upd hu5 fun x hx e=>by have e:x=h.size:=e;rcases hx with hx|hx<;>omega
    have f5:=hu5.get f4 (by show ¬fb=h.size;omega);refine hk h5 h.size w _ true true hu05 ⟨val,s4,none,_,b5,hv,ho5.sl (fun x hx _ I=>by have:=Z _ I;rcases hx with hx|hx<;>omega),⟨ho5.cap,fun hx=>lw _ (Z _ hx)⟩,lH.2 (by rw[Fo.to_of];exact(V.upd0 hu05).ins i ⟨fb,k,rfl,rfl,Uk f5 hf0 hfc fun hx=>by have:=Z _ hx;omega⟩)⟩ hc' (B6 f hp') (fun h=>by cases h) fun g=>?_
    rcases g with⟨h,_⟩|g
    ·exact absurd h f
    ·obtain⟨n',hn',e,_⟩:=vZ hc g
     obtain⟨j,hj,rfl⟩:=List.getElem_of_mem hn';rcases cg j i with X|X
     ·have:=hlo j hj X;omega
     ·have:=hhi' j hj X;omega
   |true=>
    obtain⟨hi,H⟩:=hok.1 rfl;refine ai.2 ⟨_,rfl,s,fk (i:=3) Y,?_⟩;obtain⟨kb,ksl,hki,z,J⟩:=V.at hi;have hmem:F.toL[i]∈F.toL:=bX hi;have o:=hcan.2 _ hmem;obtain⟨a,ha,_,hvv⟩:=hs.at0 hki;have hslen:=hs.len;rw[V.1]at hslen;have hlt1:(i:Int)<((s.len:Nat):Int):=by omega
    refine⟨⟨by simp only;omega,hlt1⟩,a,ha,some ⟨kb,0,none⟩,hvv,_,rfl,?_⟩;obtain⟨kval,kss,kow,kks,hkb,_⟩:=id J;refine⟨ksl,fk (i:=0) hkb,OH hk6 ?_⟩;rw[z];have hc1:=TI f o.1 H.symm;have P:=SQ k.data.toList F.toL[i].1;have Q:=NG k.data.toList F.toL[i].1;have hcd:=NH k.data.toList F.toL[i].1;have hll:ksl.size=F.toL[i].1.length:=by rw[←z];simp
    have U:tG F k.data.toList v→w9 F.toL[i] k.data.toList v:=fun g=>by
     obtain⟨n',hn',e,hN⟩:=vZ hc g;rw[←yn hc hn' hmem (by omega)];exact hN
    have hset:∀{w2:Option ByteArray} {F2:Fo} {nl:List UInt8},nl≠[]→hd nl=hd F.toL[i].1→g8 F2→Br (vi w2 F2)→g8 (.ofL (F.toL.set i (nl,w2,F2))):=fun h1 B h3 h4=>NI hc hi ⟨h1,(QK h3).2 h4,h3⟩ B
    have S:∀{m:Bn},uQ (w9 F.toL[i]) (w9 m) k.data.toList v→uQ (tG F) (tG (.ofL (F.toL.set i m))) k.data.toList v:=fun hp=>JT hc hi H hp
    have O:uQ (w9 F.toL[i]) (w9 F.toL[i]) k.data.toList v→uQ (tG F) (tG F) k.data.toList v:=Oc hc hi H;have hrset:∀{h':ac} {k':Option Addr} {m:Bn},Upd No h h'→Kid W h' k' m→RxL W h' (ks.set i k') (F.toL.set i m):=fun hu hkd=>(V.upd0 hu).set hi hkd
    generalize F.toL[i]=m at z J o hc1 P Q hcd hll U hset S O H;generalize hcc:cm k.data.toList m.1=c at hc1 P Q hcd;obtain⟨lab,wk,Fk⟩:=m;simp only at z J o P Q hcd hll H hset;refine Join.intro (fun t h'=>∃ub q wu Fu,t=some ⟨ub,0,none⟩∧Upd No h h'∧RxN W h' ub q wu Fu∧g8 Fu∧q.data.toList=k.data.toList.take c∧(∀k' v',w9 (q.data.toList,wu,Fu) k' v'↔w9 (lab,wk,Fk) k' v')∧(∀w' F',g8 F'→uQ (vi wu Fu) (vi w' F') (k.data.toList.drop c) v→Br (vi w' F'))) (fun R hR=>⟨_,rfl,ksl,fk (i:=0) hkb,?_⟩) ?_
    ·refine aD (fun hlt=>?_) fun hge=>?_
     ·have hlt:c<lab.length:=by omega
      refine LB J Z (qA o.2.2) (c:=c) (by omega) fun h1 ub rn p=>hR _ _ ⟨ub,_,none,_,rfl,p,rn,?_,?_,?_,?_⟩
      ·rw[z]
       refine⟨fun e=>?_,o.2.1,o.2.2,fun _ h=>by simp[Fo.toL]at h,trivial⟩
       have:=congrArg jG e;rw[aM,aS]at this;omega
      ·rw[Fg,z,Q]
      ·intro k' v'
       rw[Fg,z];exact Hm c k' v'
      ·intro w' F' hcF hp
       rw[z]at hp;refine QJ (fun e=>?_) o.2.1 o.2.2 (fun hne=>?_) hp
       ·have:=congrArg jG e
        rw[aM,aS]at this;omega
       ·refine hcd ?_ hlt
        rcases cg c k.data.toList.length with X|X
        ·exact X
        ·exact absurd (List.drop_eq_nil_of_le X) hne
     ·have hce:c=lab.length:=by omega
      refine hR _ _ ⟨kb,ksl,wk,Fk,rfl,Upd.refl _ _,J,o.2.2,?_,?_,?_⟩
      ·rw[z,Q,hce,List.take_length]
      ·intro k' v';rw[z]
      ·intro w' F' hcF hp
       exact Sv ((QK o.2.2).1 o.2.1) hp
    ·rintro t h1 ⟨ub,q,wu,Fu,rfl,p,rn,hcu,hsl,T,hbr⟩
     refine⟨⟨by omega,by omega⟩,?_⟩
     rw[aY];have hkd:(k.extract c k.size).data.toList=k.data.toList.drop c:=Fh ..;have hks:(k.extract c k.size).size=k.size-c:=by simp
     have D:k.data.toList=q.data.toList++k.data.toList.drop c:=by rw[hsl,List.take_append_drop]
     have N:q.data.toList≠[]:=by
      rw[hsl];intro e;have:=congrArg jG e;rw[aP,aS]at this;omega
     have hslhd:hd q.data.toList=hd lab:=by
      rw[H];conv=>rhs;rw[D]
      rw[qc N]
     refine ih (k.extract c k.size) v (by rw[hks];omega) (by rw[hks];omega) rn (fun y hy=>aC (Z y hy) p.size) hcu fun B b2 w2 F2 C ch A rn2 hc2 hp2 hsm hch=>?_
     rw[hkd]at hp2 hch;have d:=p.tr A;have hpn:uQ (w9 (lab,wk,Fk)) (w9 (q.data.toList,w2,F2)) k.data.toList v:=by
      have:=PQ (Od (lab:=q.data.toList) hp2) T;rw[←D]at this;exact this
     have hchg:vi w F k.data.toList v→ch=false:=fun g=>by
      rcases g with⟨h,_⟩|g
      ·exact absurd h f
      ·obtain⟨r,e,hr'⟩:=(T _ _).2 (U g)
       simp only at e;rw[D]at e;have e2:=List.append_cancel_left e;rw[←D]at e;exact hch (by rw[e2];exact hr')
     cases ch with
     |false=>
      obtain⟨_,rfl,rfl⟩:=hsm rfl;refine ar.2 (hk B b w F false false d (hr.upd0 d) hc (B6 f (O ?_)) (fun _=>⟨rfl,rfl,rfl⟩) fun _=>rfl)
      intro k' v';exact(T k' v').symm.trans (hpn k' v')
     |true=>
      refine ai.2 ?_;refine ph (d.get0 Y) (hs.upd d fun _ h=>h.elim) (by rw[V.1];exact hn) fun h3 s3 b3 ho3 hu3=>?_
      refine⟨_,rfl,s3,fk (i:=3) b3,?_⟩;have hil:i<ks.length:=by rw[V.1];exact hi
      obtain⟨a3,ha3,hab,hw3,L,G⟩:=OwnS.setAt ho3 hil (some ⟨b2,0,none⟩);have hlen3:=ho3.len;refine⟨⟨by simp only;omega,by simp only;omega⟩,a3,ha3,?_⟩
      have hw1:Wr h3 (adr a3 (i*1)):=by
       rcases hw3 with I|⟨b',hb',I⟩
       ·cases I
       ·cases hb';exact I 0 (by simp)
      refine⟨hw1,bw ?_⟩;have b4:=G.get b3 fun e=>by have e:B.size=a3.block:=e;have:=hab.1;omega
      have hu24:Upd No B _:=hu3.trans G fun x hx=>.inr (by have hx:x=a3.block:=hx;have:=hab.1;omega)
      have hu04:=d.tr hu24;have eset:ks.set i (some ⟨b2,0,none⟩)=ks.take i++some ⟨b2,0,none⟩::ks.drop (i+1):=by rw[dt,if_pos hil]
      rw[←eset]at L;exact hk _ B.size w _ C true hu04 ⟨val,s3,none,_,b4,hv,L.sl (fun x hx _ I=>by have:=Z _ I;have:=d.size;have:=hx.1;omega),⟨L.cap,fun hx=>by have:=Z _ hx;have:=d.size;omega⟩,lH.2 (by rw[Fo.to_of];exact hrset hu04 ⟨b2,q,rfl,rfl,rn2.upd0 hu24⟩)⟩ (hset N hslhd hc2 (hbr _ _ hc2 hp2)) (B6 f (S hpn)) (fun h=>by cases h) hchg
end Go.Proofs
namespace Go.Proofs
open Go Go.Lift
def Au:Fo→List (List UInt8×ByteArray)
 | .nil=> []
 | .cons lab w kids rest=>((w.map fun v=>(([]:List UInt8),v)).toList++Au kids).map (fun p=>(lab++p.1,p.2))++Au rest
def zo(w:Option ByteArray)(F:Fo):List (List UInt8×ByteArray):=(w.map fun v=>(([]:List UInt8),v)).toList++Au F
theorem tK:∀{F:Fo} {k:List UInt8} {v:ByteArray},(k,v)∈Au F↔tG F k v
 | .nil,_,_=>by simp[Au,tG]
 | .cons lab w kids rest,k,v=>by
  unfold Au tG;rw[aN,tK (F:=rest)];refine or_congr ?_ wI;rw[bG];constructor
  ·rintro⟨⟨r,u⟩,hm,b⟩
   simp only[qC.injEq]at b;obtain⟨rfl,rfl⟩:=b;refine⟨r,rfl,?_⟩;rcases aN.1 hm with h|h
   ·left
    rw[pM,kM]at h;obtain⟨a,c,b⟩:=h;simp only[qC.injEq]at b;exact⟨b.1.symm,by rw[c,b.2]⟩
   ·exact .inr (tK.1 h)
  ·rintro⟨r,rfl,h⟩
   refine⟨(r,v),aN.2 ?_,rfl⟩;rcases h with⟨rfl,h⟩|h
   ·left;rw[h];simp
   ·exact .inr (tK.2 h)
theorem md{w:Option ByteArray}{F:Fo}{k:List UInt8}{v:ByteArray}:(k,v)∈zo w F↔vi w F k v:=by
 unfold zo vi;rw[aN,tK];refine or_congr ?_ wI;cases w with
 |none=>simp
 |some u=>simp[Prod.ext_iff,eq_comm]
abbrev Up(l:List (List UInt8×ByteArray)):Prop:=l.Pairwise fun p q=>p.1<q.1
theorem IT{a x y:List UInt8}(h:x<y):a++x<a++y:=by
 induction a with
 |nil=>exact h
 |cons c a ih=>exact List.Lex.cons ih
theorem Km{x y:List UInt8}(c:y≠[])(h:hd x<hd y):x<y:=by
 match x,y,c with
 | [],b::y,_=>exact wH
 |a::x,b::y,_=>exact List.Lex.rel (UInt8.lt_iff_toNat_lt.2 h)
theorem LP:∀{F:Fo},g8 F→Up (Au F)
 | .nil,_=>db
 | .cons lab w kids rest,h=>by
  unfold Au;refine bT.2 ⟨?_,LP h.2.2.2.2,?_⟩
  ·rw[pS]
   refine List.Pairwise.imp (R:=fun p q:List UInt8×ByteArray=>p.1<q.1) (fun i=>IT i) ?_
   refine bT.2 ⟨?_,LP h.2.2.1,?_⟩
   ·cases w<;>simp
   ·intro a f b g
    have d:b.1≠[]:=vY h.2.2.1 (tK (F:=kids).1 (show(b.1,b.2)∈_ from g))
    have j:a.1= []:=by
     rw[pM,kM]at f;obtain⟨v,_,e⟩:=f;rw[←e]
    rw[j];match b.1,d with
    |c::l,_=>exact wH
  ·intro a f b g
   obtain⟨p,_,rfl⟩:=bG.1 f;obtain⟨n,k,e,_⟩:=vZ h.2.2.2.2 (tK (F:=rest).1 (show(b.1,b.2)∈_ from g))
   have d:b.1≠[]:=vY h.2.2.2.2 (tK (F:=rest).1 (show(b.1,b.2)∈_ from g))
   have:=h.2.2.2.1 n k;exact Km d (by rw[qc h.1];omega)
theorem Nj{w:Option ByteArray}{F:Fo}(h:g8 F):Up (zo w F):=by
 refine bT.2 ⟨by cases w<;>simp,LP h,?_⟩
 intro a g b i;have d:b.1≠[]:=vY h (tK (F:=F).1 (show(b.1,b.2)∈_ from i))
 have f:a.1= []:=by
  rw[pM,kM]at g;obtain⟨v,_,e⟩:=g;rw[←e]
 rw[f];match b.1,d with
 |c::l,_=>exact wH
theorem Pt:∀{l l':List (List UInt8×ByteArray)},Up l→Up l'→(∀p,p∈l↔p∈l')→l=l'
 | [],[],_,_,_=>rfl
 | [],q::l',_,_,h=>absurd ((h q).2 (au ..)) (by simp)
 |p::l,[],_,_,h=>absurd ((h p).1 (au ..)) (by simp)
 |p::l,q::l',d,a,h=>by
  have d:=aB.1 d;have a:=aB.1 a;have e:p=q:=by
   rcases aq.1 ((h p).1 (au ..))with e|f
   ·exact e
   ·rcases aq.1 ((h q).2 (au ..))with e|g
    ·exact e.symm
    ·exact absurd (List.lt_trans (d.1 q g) (a.1 p f)) (tE _)
  subst e;rw[Pt d.2 a.2 fun z=>?_]
  constructor
  ·intro c
   rcases aq.1 ((h z).1 (az _ c))with e|b
   ·exact absurd (d.1 z c) (by rw[e];exact tE _)
   ·exact b
  ·intro c
   rcases aq.1 ((h z).2 (az _ c))with e|b
   ·exact absurd (a.1 z c) (by rw[e];exact tE _)
   ·exact b
def TG:Fo→Nat
 | .nil=>0
 | .cons _ _ kids rest=>1+TG kids+TG rest
end Go.Proofs
namespace Go.Proofs
open Go Go.Lift
structure RadAt(W:Nat→Prop)(h:ac)(b:Nat)(l:List Pr):Prop where
 ex:∃w F,RxN W h b ⟨#[]⟩ w F∧g8 F∧∀k v,(k,v)∈zo w F↔∃p∈l,p.1.data.toList=k∧p.2=v
theorem RadAt.upd0{W:Nat→Prop}{h h':ac}{b:Nat}{l:List Pr}(k:Upd No h h')(r:RadAt W h b l):RadAt W h' b l:=by
 obtain⟨w,F,a,d,c⟩:=r.ex;exact⟨w,F,a.upd0 k,d,c⟩
theorem RadAt.less{W W':Nat→Prop}{h:ac}(hm:∀b,W' b→W b∨h.size≤b){b:Nat}{l:List Pr}(r:RadAt W h b l):RadAt W' h b l:=by
 obtain⟨w,F,a,d,c⟩:=r.ex;exact⟨w,F,a.less hm,d,c⟩
theorem RadAt.updM{W M:Nat→Prop}{h h':ac}(k:Upd M h h')(hm:∀b,M b→W b∨h.size≤b){b:Nat}{l:List Pr}(r:RadAt W h b l):RadAt W h' b l:=by
 obtain⟨w,F,a,d,c⟩:=r.ex;exact⟨w,F,a.updM k hm,d,c⟩
def T0(l:List Pr):List (List UInt8×ByteArray):=l.map fun p=>(p.1.data.toList,p.2)
theorem S5{l:List Pr}(c:bV l):Up (T0 l):=by
 unfold T0 Up;rw[pS];refine List.Pairwise.imp (R:=fun p q:Pr=>kl p.1 q.1) (fun{a b} h=>?_) c
 rw[Iq,ByteArray.toList_eq,ByteArray.toList_eq]at h;exact h
theorem RF{w:Option ByteArray}{F:Fo}{l:List Pr}(hc:g8 F)(b:bV l)(f:∀k v,(k,v)∈zo w F↔∃p∈l,p.1.data.toList=k∧p.2=v):zo w F=T0 l:=by
 refine Pt (Nj hc) (S5 b) fun p=>?_
 have:=f p.1 p.2;rw[show(p.1,p.2)=p from rfl]at this
 rw[this];unfold T0;rw[bG];constructor
 ·rintro⟨q,a,c,d⟩;exact⟨q,a,Prod.ext c d⟩
 ·rintro⟨q,a,e⟩;rw[←e];exact⟨q,a,rfl,rfl⟩
end Go.Proofs
