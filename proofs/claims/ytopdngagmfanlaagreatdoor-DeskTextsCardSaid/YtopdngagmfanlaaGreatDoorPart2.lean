/- A part of the proof that the named laws of this program answer true, whatever the input. -/
import Derived.Test.YtopdngagmfanlaaGreatDoorPart1
open BitVec renaming ofInt→au
open Bool renaming eq_iff_iff→oM
open Go.IntKind renaming bits→ai,wrap→ac
open Int renaming toNat_natCast→ak
open List renaming mem_singleton→aO,pairwise_singleton→eW,pairwise_cons→cf,mem_cons→ar,any_eq_true→cp,length_cons→ay,flatMap_cons→bK,map_cons→cN,length_singleton→bO,all_cons→wb,all_append→si,length_eq_zero_iff→bp,length_append→aj,mem_cons_self→aP,mem_cons_of_mem→aK,append_eq_nil_iff→gx,getElem_of_mem→dC,length_take→be,length_drop→aS,take_append_drop→bT,mem_append→bD,pairwise_append→ff,append_nil→cE,length_set→oL,getElem_mem→bZ,mem_of_getElem→nV,pairwise_iff_getElem→dE,take_succ_cons→gC,drop_succ_cons→iX,append_assoc→aM,zip_cons_cons→oZ,zip_eq_zipWith→nT,set_eq_take_append_cons_drop→dD
open List.Pairwise renaming nil→j9
open Nat renaming lt_of_lt_of_le→aQ,zero_add→aR,zero_le→aV,le_trans→aU,le_refl→av,strongRecOn→lM,lt_or_ge→cC
open Option renaming isSome_iff_exists→fO,some→bq
open UInt8 renaming ofNat→cq,toNat_inj→jL
namespace Go.Proofs
open Go.Lift
theorem Zn(a b:Nat):(au (ai .u64) (a:Int)&&&au (ai .u64) (b:Int)).toNat=(a%18446744073709551616)&&&(b%18446744073709551616):=by
 simp[ai];rfl
theorem aaq{a:Int}(d:0≤a∧a<18446744073709551616){lev:Nat}(g:lev<13){h:ad}{K:Int→ad→Prop}(c:K (((a.toNat>>>(5*lev))%32:Nat):Int) h):HC PG mM [.int .u64 a,.int .i64 lev] [.c (.int .i64)] K h:=by
 refine Rl a lev ?_;unfold IK;refine Join.plain (aF (fun h=>by omega) fun _=>?_)
 rw[decide_eq_false (by omega)];refine af.2 ?_;have f:ac .i64 (5*(lev:Int))=((5*lev:Nat):Int):=by rw[kO (by omega)];omega
 rw[f];have em:min (((5*lev:Nat):Int)).toNat (ai .u64)=5*lev:=by rw[ak];exact Nat.min_eq_left (by show 5*lev≤64;omega)
 rw[em];obtain⟨n,rfl⟩:=Int.eq_ofNat_of_zero_le d.1;rw[ak]at c;simp only[Bd];rw[tI];have b:n>>>(5*lev)<18446744073709551616:=Nat.lt_of_le_of_lt (Nat.shiftRight_le _ _) (by omega);have e:=Zn (n>>>(5*lev)) 31;rw[Nat.mod_eq_of_lt b,show((31:Nat):Int)=(31:Int)from rfl,show 31%18446744073709551616=2^5-1 from rfl,Nat.and_two_pow_sub_one_eq_mod]at e
 rw[e];have hm:n>>>(5*lev)%2^5<32:=Nat.mod_lt _ (by omega);rw[Go.IntWalk.u64_in _ (by omega),kO (by omega)];exact⟨by omega,c⟩
theorem Wj{x:Hs}{k:ByteArray}{lev:Nat}(b:lev<13){h:ad}{K:Int→ad→Prop}(a:K (ck x lev k:Int) h):HC PG mM [.int .u64 (jU x k),.int .i64 lev] [.c (.int .i64)] K h:=aaq (Of x k) b a
abbrev Uw(x:Hs)(k:ByteArray):Value:=.agg #[.int .u64 x.k0,.int .u64 x.k1,.int .u64 x.mask,.pointer none,.string k,.int .u64 (jU x k)]
theorem NK{x:Hs}{lev c:Nat}{l:List Pr}(h:∀p∈l,ck x lev p.1=c):part x lev c l=l:=List.filter_eq_self.2 fun p a=>decide_eq_true (h p a)
theorem RV{x:Hs}{lev c:Nat}{l:List Pr}(h:∀p∈l,ck x lev p.1≠c):part x lev c l= []:=List.filter_eq_nil_iff.2 fun p a=>by simpa using h p a
theorem NI{x:Hs}{lev c:Nat}{p:Pr}{l:List Pr}(a:fe l):part x lev c (km p l)=if ck x lev p.1=c then km p (part x lev c l)else part x lev c l:=by
 have:=HO p (fun k=>decide (ck x lev k=c)) a
 unfold part;rw[this];by_cases h:ck x lev p.1=c
 ·rw[if_pos h,if_pos (decide_eq_true h)]
 ·rw[if_neg h,if_neg (by simpa using h)]
theorem RI{p q:Pr}(h:p.1≠q.1):(km q [p]).length=2:=by
 rw[na];by_cases a:kl p.1 q.1
 ·rw[if_pos a];rfl
 ·rw[if_neg a,if_neg h];rfl
theorem R8{p q r:Pr}(h:r∈km q [p]):r=p∨r=q:=(CM h).symm.imp (fun h=>aO.1 h) id
theorem gS{β:Type}{g:Nat→Option β}{i c:Nat}{x:Option β}(h:c≠i):upd g i x c=g c:=by unfold upd;rw[if_neg h]
theorem Ya{W:Nat→Prop}{x:Hs}:∀(m:Nat) (p q:Pr),m≤13→p.1≠q.1→∀{h:ad},(∀y,W y→y<h.size)→∀{K:Option Addr→ad→Prop},(∀h' b',TrieAt W x h' m b' (km q [p])→Upd No h h'→K (some ⟨b',0,none⟩) h')→
  HC PG ml [Uw x q.1,.agg #[.string p.1,.string p.2],.agg #[.string q.1,.string q.2],.int .i64 ((13-m:Nat):Int)] [.c .ptr] K h:=by
 intro m;induction m with
 |zero=>
  intro p q _ G h S K O;have C:∀{h'},Upd No h h'→∀y,W y→y<h'.size:=fun k y U=>aQ (S y U) k.size
  refine uW (x.k0,x.k1,x.mask,none,q.1,jU x q.1) p q ((13-0:Nat):Int) ?_;unfold pU ag AZ rQ ae aq im mW qg Bp Lz GM;have k1:=Upd.hnew No h [.int .u64 x.k0,.int .u64 x.k1,.int .u64 x.mask,.pointer none,.string q.1,.int .u64 (jU x q.1)] cO;have b1:=bI h [.int .u64 x.k0,.int .u64 x.k1,.int .u64 x.mask,.pointer none,.string q.1,.int .u64 (jU x q.1)] cO
  refine bj ?_;simp only[df h];generalize hnew h [.int .u64 x.k0,.int .u64 x.k1,.int .u64 x.mask,.pointer none,.string q.1,.int .u64 (jU x q.1)] cO=h1 at k1 b1;have B:=Upd.hnew No h1 [.string p.1,.string p.2] ax;have b2:=bI h1 [.string p.1,.string p.2] ax;refine bj ?_;simp only[df h1];generalize hnew h1 [.string p.1,.string p.2] ax=h2 at B b2
  have z:=Upd.hnew No h2 [.string q.1,.string q.2] ax;have b3:=bI h2 [.string q.1,.string q.2] ax;refine bj ?_;simp only[df h2];generalize hnew h2 [.string q.1,.string q.2] ax=h3 at z b3;have d:∀{h':ad},Upd No h3 h'→∀i,aD h' (adr ⟨h.size,0,none⟩ i)=(#[.int .u64 x.k0,.int .u64 x.k1,.int .u64 x.mask,.pointer none,.string q.1,.int .u64 (jU x q.1)]:Array Value)[i]?:=fun k i=>by
   rw[ci,bc (k.get0 (z.get0 (B.get0 b1))),aR]
  have u:∀{h':ad},Upd No h3 h'→∀i,aD h' (adr ⟨h1.size,0,none⟩ i)=(#[.string p.1,.string p.2]:Array Value)[i]?:=fun k i=>by rw[ci,bc (k.get0 (z.get0 b2)),aR]
  have n:∀{h':ad},Upd No h3 h'→∀i,aD h' (adr ⟨h2.size,0,none⟩ i)=(#[.string q.1,.string q.2]:Array Value)[i]?:=fun k i=>by rw[ci,bc (k.get0 b3),aR]
  have r:=Upd.refl No h3;refine aA.2 ⟨none,d r 3,p.1,u r 0,p.2,u r 1,none,d r 3,q.1,n r 0,q.2,n r 1,?_⟩;refine T0 (C ((k1.tr B).tr z)) fun h4 b4 P b=>⟨⟨n b 0,n b 1⟩,d b 3,⟨u b 0,u b 1⟩,d b 3,?_⟩
  refine Mi P (C (((k1.tr B).tr z).tr b)) j9 (by simp) p fun Z Y N A=>?_
  have o:=b.tr A;refine⟨⟨n o 0,n o 1⟩,d o 3,?_⟩;have e1:LP [] p= [p]:=Gy p j9;rw[e1]at N;refine Mi N (C (((k1.tr B).tr z).tr o)) (eW ..) (by simp) q fun T L J w=>?_
  rw[Gy q (eW ..)]at J;exact O T L J ((((k1.tr B).tr z).tr o).tr w)
 |succ m ih=>
  intro p q hm G h S K O;have C:∀{h'},Upd No h h'→∀y,W y→y<h'.size:=fun k y U=>aQ (S y U) k.size
  have X:13-(m+1)<13:=by omega
  have j:13-(m+1)=12-m:=by omega
  refine uW (x.k0,x.k1,x.mask,none,q.1,jU x q.1) p q ((13-(m+1):Nat):Int) ?_;unfold pU ag AZ rQ ae aq im mW qg Bp Lz GM;have k1:=Upd.hnew No h [.int .u64 x.k0,.int .u64 x.k1,.int .u64 x.mask,.pointer none,.string q.1,.int .u64 (jU x q.1)] cO;have b1:=bI h [.int .u64 x.k0,.int .u64 x.k1,.int .u64 x.mask,.pointer none,.string q.1,.int .u64 (jU x q.1)] cO
  refine bj ?_;simp only[df h];generalize hnew h [.int .u64 x.k0,.int .u64 x.k1,.int .u64 x.mask,.pointer none,.string q.1,.int .u64 (jU x q.1)] cO=h1 at k1 b1;have B:=Upd.hnew No h1 [.string p.1,.string p.2] ax;have b2:=bI h1 [.string p.1,.string p.2] ax;refine bj ?_;simp only[df h1];generalize hnew h1 [.string p.1,.string p.2] ax=h2 at B b2
  have z:=Upd.hnew No h2 [.string q.1,.string q.2] ax;have b3:=bI h2 [.string q.1,.string q.2] ax;refine bj ?_;simp only[df h2];generalize hnew h2 [.string q.1,.string q.2] ax=h3 at z b3;have d:∀{h':ad},Upd No h3 h'→∀i,aD h' (adr ⟨h.size,0,none⟩ i)=(#[.int .u64 x.k0,.int .u64 x.k1,.int .u64 x.mask,.pointer none,.string q.1,.int .u64 (jU x q.1)]:Array Value)[i]?:=fun k i=>by
   rw[ci,bc (k.get0 (z.get0 (B.get0 b1))),aR]
  have u:∀{h':ad},Upd No h3 h'→∀i,aD h' (adr ⟨h1.size,0,none⟩ i)=(#[.string p.1,.string p.2]:Array Value)[i]?:=fun k i=>by rw[ci,bc (k.get0 (z.get0 b2)),aR]
  have n:∀{h':ad},Upd No h3 h'→∀i,aD h' (adr ⟨h2.size,0,none⟩ i)=(#[.string q.1,.string q.2]:Array Value)[i]?:=fun k i=>by rw[ci,bc (k.get0 b3),aR]
  have r:=Upd.refl No h3;have ne:(((13-(m+1):Nat):Int)==(13:Int))=false:=by rw[beq_eq_false_iff_ne];omega
  rw[ne];refine af.2 ⟨_,d r 0,_,d r 1,_,d r 2,_,u r 0,_,d r 5,?_⟩;refine CV fun h4 b=>⟨d b 5,Wj X ⟨d b 5,Wj X ?_⟩⟩
  have hi:=H7 x (13-(m+1)) p.1;have hj:=H7 x (13-(m+1)) q.1;have g:=((k1.tr B).tr z);have hcl:=RI G;refine CondP.intro (fun e=>?_) fun e=>?_
  ·have e:ck x (13-(m+1)) p.1=ck x (13-(m+1)) q.1:=by have:=eq_of_beq e;omega
   refine⟨_,d b 3,_,d b 0,_,d b 1,_,d b 2,_,d b 3,_,d b 4,_,d b 5,_,u b 0,_,u b 1,_,n b 0,_,n b 1,?_⟩;refine sP (C (g.tr b)) fun Z Y I A=>?_
   have a:=b.tr A;refine⟨⟨n a 0,n a 1⟩,⟨u a 0,u a 1⟩,⟨d a 0,d a 1,d a 2,d a 3,d a 4,d a 5⟩,d a 3,?_⟩;have ew:ac .i64 (((13-(m+1):Nat):Int)+1)=((13-m:Nat):Int):=by rw[kO (by omega)];omega
   rw[ew];refine ih p q (by omega) G (C (g.tr a)) fun T L t6 w=>?_
   have f:=a.tr w;refine⟨d f 3,?_⟩;refine Al (I.upd w fun _ h=>h.elim) (C (g.tr f)) hi (fun y h=>by cases h) ⟨L,0,none⟩ fun Q R F D=>?_
   refine O Q R ⟨_,F,fun c hc=>?_⟩ ((g.tr f).tr D)
   rw[j]at e;by_cases s:c=ck x (13-(m+1)) p.1
   ·refine .inr (.inr ?_)
    have ea:part x (12-m) c (km q [p])=km q [p]:=NK fun r H=>by
     rcases R8 H with rfl|rfl
     ·rw[s,j]
     ·rw[s,j,e]
    rw[ea];exact⟨by omega,by simp[upd],L,by rw[s];exact ij,TrieAt.upd0 D t6⟩
   ·refine .inl ⟨RV fun r H=>?_,by simp[upd],gS s⟩
    rw[j]at s;rcases R8 H with rfl|rfl
    ·exact fun e=>s e.symm
    ·rw[←e];exact fun e=>s e.symm
  ·have e:ck x (13-(m+1)) p.1≠ck x (13-(m+1)) q.1:=fun h=>by rw[h]at e;simp at e
   refine⟨_,d b 3,_,u b 0,_,u b 1,_,d b 3,_,n b 0,_,n b 1,?_⟩;refine sP (C (g.tr b)) fun Z Y I A=>?_
   have a:=b.tr A;refine⟨⟨n a 0,n a 1⟩,d a 3,⟨u a 0,u a 1⟩,d a 3,?_⟩;refine tq I (C (g.tr a)) hi (fun y h=>by cases h) p fun T L V w=>?_
   have f:=a.tr w;refine⟨⟨n f 0,n f 1⟩,d f 3,?_⟩;refine tq V (C (g.tr f)) hj (fun y h=>by simp[upd]) q fun Q R F D=>?_
   refine O Q R ⟨_,F,fun c hc=>?_⟩ ((g.tr f).tr D)
   have t:=NI (x:=x) (lev:=12-m) (c:=c) (p:=q) (l:= [p]) (eW ..);rw[j]at e;by_cases E:c=ck x (12-m) p.1
   ·have v:ck x (12-m) q.1≠c:=fun h=>e (by omega)
    have e1:part x (12-m) c [p]= [p]:=NK fun r H=>by rw[aO.1 H,E]
    rw[if_neg v,e1]at t;exact .inr (.inl ⟨p,t,by simp[upd,j,E,e],by simp[upd]⟩)
   ·have e1:part x (12-m) c [p]= []:=RV fun r H=>by rw[aO.1 H];exact fun h=>E h.symm
    rw[e1]at t;by_cases v:c=ck x (12-m) q.1
    ·rw[if_pos v.symm]at t
     exact .inr (.inl ⟨q,t,by simp[upd,j,v],by simp[upd]⟩)
    ·rw[if_neg fun h=>v h.symm]at t
     exact .inl ⟨t,by simp[upd,j,v,E],by simp[upd]⟩
end Go.Proofs
namespace Go.Proofs
open Go.Lift
noncomputable instance memDec (p:Pr) (l:List Pr):Decidable (p∈l):=Classical.propDecidable _
theorem PY{l:List Pr}(b:fe l){k v w:ByteArray}(a:(k,v)∈l)(c:(k,w)∈l):v=w:=by
 induction l with
 |nil=>cases a
 |cons q l ih=>
  have b:=cf.1 b;rcases ar.1 a with e1|a<;>rcases ar.1 c with e2|c
  ·exact(Prod.mk.inj (e1.trans e2.symm)).2
  ·have:=b.1 _ c;rw[←e1]at this;exact absurd this (fw _)
  ·have:=b.1 _ a;rw[←e2]at this;exact absurd this (fw _)
  ·exact ih b.2 a c
theorem tD{x:Hs}{lev c:Nat}{l:List Pr}{p:Pr}:p∈part x lev c l↔p∈l∧ck x lev p.1=c:=by unfold part;rw[List.mem_filter,decide_eq_true_iff]
theorem GQ{x:Hs}{lev:Nat}{l:List Pr}{k:ByteArray}:cG (part x lev (ck x lev k) l) k=cG l k:=by
 unfold cG;rw[oM,cp,cp];constructor
 ·rintro⟨p,a,e⟩;exact⟨p,(tD.1 a).1,e⟩
 ·rintro⟨p,a,e⟩;exact⟨p,tD.2 ⟨a,by rw[of_decide_eq_true e]⟩,e⟩
theorem BD{x:Hs}{lev c:Nat}{l:List Pr}(a:fe l):fe (part x lev c l):=a.sublist List.filter_sublist
theorem yW{x:Hs}{lev c:Nat}{l:List Pr}:(part x lev c l).length≤l.length:=List.length_filter_le ..
def SlotIs(W:Nat→Prop)(x:Hs)(h:ad)(m:Nat)(s:Slots)(c:Nat)(l:List Pr):Prop:=
 (l= []∧s.p c=none∧s.k c=none)∨(∃p,l= [p]∧s.p c=some p∧s.k c=none)∨(2≤l.length∧s.p c=none∧∃kb,s.k c=some (some ⟨kb,0,none⟩)∧TrieAt W x h m kb l)
theorem SlotIs.upd0{W:Nat→Prop}{x:Hs}{h h':ad}{m:Nat}{s:Slots}{c:Nat}{l:List Pr}(k:Upd No h h')(t:SlotIs W x h m s c l):SlotIs W x h' m s c l:=t.imp id fun o=>o.imp id fun⟨b,a,e,d,f⟩=>⟨b,a,e,d,TrieAt.upd0 k f⟩
theorem Ob(p:Pr):∀{l:List Pr},l.length≤(km p l).length
 | []=>aV _
 |q::l=>by
  rw[na];split
  ·have:=Ob p (l:=l);simp only[ay];omega
  ·split<;>simp
theorem SL{W:Nat→Prop}{x:Hs}{h h':ad}{m b':Nat}{s s':Slots}{l:List Pr}{p:Pr}(a:fe l)(f:Upd No h h')(nd:NodeAt W h' b' s')(d:∀c,c<32→SlotIs W x h m s c (part x (12-m) c l))
  (b:∀c,c≠ck x (12-m) p.1→s'.p c=s.p c∧s'.k c=s.k c)(hi:SlotIs W x h' m s' (ck x (12-m) p.1) (km p (part x (12-m) (ck x (12-m) p.1) l))):TrieAt W x h' (m+1) b' (km p l):=by
 refine⟨s',nd,fun c hc=>?_⟩
 rw[NI a];by_cases e:ck x (12-m) p.1=c
 ·rw[if_pos e];subst e;exact hi
 ·rw[if_neg e]
  have t:=SlotIs.upd0 f (d c hc);obtain⟨e1,e2⟩:=b c fun h=>e h.symm
  unfold SlotIs at t;rw[←e1,←e2]at t;exact t
theorem di{a b:ByteArray}:(a.toList==b.toList)=decide (a=b):=by
 rw[oM,beq_iff_eq,decide_eq_true_iff,EC]
theorem YW{W:Nat→Prop}{x:Hs}:∀(m:Nat),m≤13→∀{b:Nat} {l:List Pr} (p:Pr) {h:ad},TrieAt W x h m b l→(∀y,W y→y<h.size)→fe l→l.length≤1000000→∀{K:(Option Addr)×Bool×Bool→ad→Prop},
  (∀h' b' ch,Upd No h h'→TrieAt W x h' m b' (km p l)→(ch=false→b'=b)→ch= !decide (p∈l)→K (some ⟨b',0,none⟩, !cG l p.1,ch) h')→
  HC PG jj [Uw x p.1,.pointer (some ⟨b,0,none⟩),.agg #[.string p.1,.string p.2],.int .i64 ((13-m:Nat):Int)] [.c .ptr,.c .bool,.c .bool] K h:=by
 intro m;induction m with
 |zero=>
  intro _ b l p h t hW S hn K G;have U:∀{h'},Upd No h h'→∀y,W y→y<h'.size:=fun k y hy=>aQ (hW y hy) k.size
  refine wO (x.k0,x.k1,x.mask,none,p.1,jU x p.1) (some ⟨b,0,none⟩) p ((13-0:Nat):Int) ?_;unfold qG ag nv AZ ic nZ ae aq mW qg Bp pu Lz GM;have k1:=Upd.hnew No h [.int .u64 x.k0,.int .u64 x.k1,.int .u64 x.mask,.pointer none,.string p.1,.int .u64 (jU x p.1)] cO;have b1:=bI h [.int .u64 x.k0,.int .u64 x.k1,.int .u64 x.mask,.pointer none,.string p.1,.int .u64 (jU x p.1)] cO
  refine bj ?_;simp only[df h];generalize hnew h [.int .u64 x.k0,.int .u64 x.k1,.int .u64 x.mask,.pointer none,.string p.1,.int .u64 (jU x p.1)] cO=D at k1 b1;have k2:=Upd.hnew No D [.string p.1,.string p.2] ax;have b2:=bI D [.string p.1,.string p.2] ax;refine bj ?_;simp only[df D];generalize hnew D [.string p.1,.string p.2] ax=d at k2 b2
  have u:∀{h':ad},Upd No d h'→∀i,aD h' (adr ⟨h.size,0,none⟩ i)=(#[.int .u64 x.k0,.int .u64 x.k1,.int .u64 x.mask,.pointer none,.string p.1,.int .u64 (jU x p.1)]:Array Value)[i]?:=fun k i=>by
   rw[ci,bc (k.get0 (k2.get0 b1)),aR]
  have C:∀{h':ad},Upd No d h'→∀i,aD h' (adr ⟨D.size,0,none⟩ i)=(#[.string p.1,.string p.2]:Array Value)[i]?:=fun k i=>by rw[ci,bc (k.get0 b2),aR]
  have r:=Upd.refl No d;have f:=k1.tr k2;have bk:BuckAt W d b l:=BuckAt.upd t f fun _ h=>h.elim
  obtain⟨sp,sk,ow,hb,_⟩:=bk.ex;refine kX hb (aA.2 ⟨_,C r 0,Yp bk S (by omega) p.1 fun J v I hv=>?_⟩)
  have put:∀(V:p∉l) {h4:ad},Upd No d h4→HC PG jK [.pointer (some ⟨b,0,none⟩),.pointer none,.agg #[.string p.1,.string p.2]] [.c .ptr] (fun(e15:Option Addr) h16=>K (e15, !cG l p.1,true) h16) h4:=fun V h4 o=>
   Mi (bk.upd o fun _ h=>h.elim) (U (f.tr o)) S (by omega) p fun h5 b5 bk5 Z=>by
    rw[Gy p S]at bk5;exact G h5 b5 true ((f.tr o).tr Z) bk5 (fun h=>by cases h) (by rw[decide_eq_false V];rfl)
  refine Join.intro (fun t' h'=>t'=decide (p∈l)∧Upd No d h') (fun R hR=>?_) ?_
  ·cases F:cG l p.1 with
   |false=>
    refine af.2 (hR _ _ ⟨?_,I⟩);refine(decide_eq_false fun hm=>?_).symm
    have:cG l p.1=true:=cp.2 ⟨p,hm,decide_eq_true rfl⟩;rw[F]at this;cases this
   |true=>
    have hv:=hv F;refine aA.2 ⟨_,C I 1,hR _ _ ⟨?_,I⟩⟩;rw[di,decide_eq_decide];constructor
    ·intro e
     have e:v=p.2:=e;rw[e]at hv;exact hv
    ·intro hm
     exact PY S hv (show(p.1,p.2)∈l from hm)
  ·rintro t' h4 ⟨rfl,o⟩
   by_cases hm:p∈l
   ·rw[decide_eq_true hm]
    refine aA.2 ?_;have F:cG l p.1=true:=cp.2 ⟨p,hm,decide_eq_true rfl⟩;have:=G h4 b false (f.tr o) (by rw[Gx S hm];exact bk.upd o fun _ h=>h.elim) (fun _=>rfl) (by rw[decide_eq_true hm];rfl)
    rw[F]at this;exact this
   ·rw[decide_eq_false hm]
    refine af.2 ⟨none,u o 3,_,C o 0,_,C o 1,put hm o⟩
 |succ m ih=>
  intro hm b l p h t hW S hn K G;have U:∀{h'},Upd No h h'→∀y,W y→y<h'.size:=fun k y hy=>aQ (hW y hy) k.size
  have hl:13-(m+1)<13:=by omega
  have hlev:13-(m+1)=12-m:=by omega
  refine wO (x.k0,x.k1,x.mask,none,p.1,jU x p.1) (some ⟨b,0,none⟩) p ((13-(m+1):Nat):Int) ?_;unfold qG ag nv AZ ic nZ ae aq mW qg Bp pu Lz GM;have k1:=Upd.hnew No h [.int .u64 x.k0,.int .u64 x.k1,.int .u64 x.mask,.pointer none,.string p.1,.int .u64 (jU x p.1)] cO;have b1:=bI h [.int .u64 x.k0,.int .u64 x.k1,.int .u64 x.mask,.pointer none,.string p.1,.int .u64 (jU x p.1)] cO
  refine bj ?_;simp only[df h];generalize hnew h [.int .u64 x.k0,.int .u64 x.k1,.int .u64 x.mask,.pointer none,.string p.1,.int .u64 (jU x p.1)] cO=D at k1 b1;have k2:=Upd.hnew No D [.string p.1,.string p.2] ax;have b2:=bI D [.string p.1,.string p.2] ax;refine bj ?_;simp only[df D];generalize hnew D [.string p.1,.string p.2] ax=d at k2 b2
  have u:∀{h':ad},Upd No d h'→∀i,aD h' (adr ⟨h.size,0,none⟩ i)=(#[.int .u64 x.k0,.int .u64 x.k1,.int .u64 x.mask,.pointer none,.string p.1,.int .u64 (jU x p.1)]:Array Value)[i]?:=fun k i=>by
   rw[ci,bc (k.get0 (k2.get0 b1)),aR]
  have C:∀{h':ad},Upd No d h'→∀i,aD h' (adr ⟨D.size,0,none⟩ i)=(#[.string p.1,.string p.2]:Array Value)[i]?:=fun k i=>by rw[ci,bc (k.get0 b2),aR]
  have r:=Upd.refl No d;have f:=k1.tr k2;obtain⟨s,nd0,hs0⟩:=TrieAt.upd0 f t;have hs:∀c,c<32→SlotIs W x d m s c (part x (12-m) c l):=hs0;have tt:∀{h':ad},Upd No d h'→TrieAt W x h' (m+1) b l:=fun k=>TrieAt.upd0 (f.tr k) t
  obtain⟨d0,n0,sp0,sk0,ow0,hb0,_⟩:=nd0.ex;refine kX hb0 (af.2 ⟨_,u r 5,Wj hl ?_⟩);rw[hlev];have hi:=H7 x (12-m) p.1;have N:=hs _ hi;have hrp:=BD (x:=x) (lev:=12-m) (c:=ck x (12-m) p.1) S;have X:(part x (12-m) (ck x (12-m) p.1) l).length≤1000000:=aU yW hn;have O:p∈part x (12-m) (ck x (12-m) p.1) l↔p∈l:=by rw[tD];exact⟨fun h=>h.1,fun h=>⟨h,rfl⟩⟩
  have P:=GQ (x:=x) (lev:=12-m) (l:=l) (k:=p.1);have j:=fun{h':ad} {b':Nat} {s':Slots}=>SL (W:=W) (x:=x) (h:=d) (h':=h') (m:=m) (b':=b') (s:=s) (s':=s') (l:=l) (p:=p) S
  generalize hc:ck x (12-m) p.1=c at hi N hrp X O P j;generalize hlp:part x (12-m) c l=lc at N hrp X O P j;refine Hm nd0 hi fun J I=>?_
  have k4:=Upd.hnew No J [.string (⟨#[]⟩:ByteArray),.string (⟨#[]⟩:ByteArray)] ax;have b4:=bI J [.string (⟨#[]⟩:ByteArray),.string (⟨#[]⟩:ByteArray)] ax;refine bj ?_;simp only[df J];generalize hnew J [.string (⟨#[]⟩:ByteArray),.string (⟨#[]⟩:ByteArray)] ax=h4 at k4 b4;have b4':h4[J.size]? =some (.cells #[.string Rz.1,.string Rz.2] ax (0,0)):=b4
  refine Hf (p:=VN (s.p c)) b4' fun h5 b5 Z=>?_
  have a:Upd No d h5:=(I.tr k4).trans Z fun y hy=>.inr (by have hy:y=J.size:=hy;have:=I.size;omega)
  have w5:∀{h':ad},Upd No h5 h'→∀i,aD h' (adr ⟨J.size,0,none⟩ i)=(#[.string (VN (s.p c)).1,.string (VN (s.p c)).2]:Array Value)[i]?:=fun k i=>by rw[ci,bc (k.get0 b5),aR]
  have r5:=Upd.refl No h5;have L:=nd0.upd a fun _ h=>h.elim
  cases hsp:s.p c with
  |some y=>
   rw[hsp]at w5;obtain⟨B,hk0⟩:lc= [y]∧s.k c=none:=by
    rcases N with⟨_,d,_⟩|⟨q,D,d,J⟩|⟨_,d,_⟩
    ·rw[hsp]at d;cases d
    ·rw[hsp]at d;cases d;exact⟨D,J⟩
    ·rw[hsp]at d;cases d
   refine aA.2 ⟨y.1,w5 r5 0,y.2,w5 r5 1,p.1,C a 0,p.2,C a 1,?_⟩;rw[di,di];have hyl:y∈l:=(tD.1 (show y∈part x (12-m) c l by rw[hlp,B];exact aO.2 rfl)).1
   by_cases e1:y.1=p.1
   ·have F:cG l p.1=true:=cp.2 ⟨y,hyl,decide_eq_true e1⟩
    rw[F]at G;by_cases e2:y.2=p.2
    ·rw[decide_eq_true e1,decide_eq_true e2]
     have hyp:y=p:=Prod.ext e1 e2;have w:p∈l:=hyp▸hyl;refine aA.2 ?_;exact G h5 b false (f.tr a) (by rw[Gx S w];exact tt a) (fun _=>rfl) (by rw[decide_eq_true w];rfl)
    ·rw[decide_eq_true e1,decide_eq_false e2]
     refine af.2 ⟨y.1,w5 r5 0,p.1,C a 0,?_⟩;rw[di,decide_eq_true e1];refine aA.2 ⟨none,u a 3,p.1,C a 0,p.2,C a 1,?_⟩;refine tq L (U (f.tr a)) hi (fun _ _=>hk0) p fun h6 T nd6 g=>?_
     have Q:p∉l:=fun hm=>by
      have:=O.2 hm;rw[B]at this;exact e2 (by rw[aO.1 this])
     refine G h6 T true ((f.tr a).tr g) (j (a.tr g) nd6 hs (fun c' n=>⟨gS n,gS n⟩) ?_) (fun h=>by cases h) (by rw[decide_eq_false Q];rfl)
     refine .inr (.inl ⟨p,?_,ij,ij⟩);rw[B,na,if_neg (by rw[e1];exact fw _),if_pos e1]
   ·rw[decide_eq_false e1]
    refine af.2 ⟨y.1,w5 r5 0,p.1,C a 0,?_⟩;rw[di,decide_eq_false e1];refine af.2 ⟨none,u a 3,_,u a 0,_,u a 1,_,u a 2,_,u a 3,_,u a 4,_,u a 5,y.1,w5 r5 0,y.2,w5 r5 1,p.1,C a 0,p.2,C a 1,?_⟩;have ew:ac .i64 (((12-m:Nat):Int)+1)=((13-m:Nat):Int):=by rw[kO (by omega)];omega
    rw[ew];refine Ya m y p (by omega) e1 (U (f.tr a)) fun h6 T t6 g=>⟨u (a.tr g) 3,?_⟩
    refine Al (L.upd g fun _ h=>h.elim) (U ((f.tr a).tr g)) hi (fun z hz=>by rw[hk0]at hz;cases hz) ⟨T,0,none⟩ fun h7 b7 Y E=>?_
    have F:cG l p.1=false:=by
     rw[←P,B];unfold cG;rw[List.any_cons,decide_eq_false e1];rfl
    have Q:p∉l:=fun hm=>by
     have:cG l p.1=true:=cp.2 ⟨p,hm,decide_eq_true rfl⟩;rw[F]at this;cases this
    rw[F]at G;refine G h7 b7 true (((f.tr a).tr g).tr E) (j ((a.tr g).tr E) Y hs (fun c' n=>⟨gS n,gS n⟩) ?_) (fun h=>by cases h) (by rw[decide_eq_false Q];rfl)
    rw[B];exact .inr (.inr ⟨by rw[RI e1];omega,ij,T,ij,TrieAt.upd0 E t6⟩)
  |none=>
   refine af.2 (Gs L hi ?_);cases hsk:s.k c with
   |none=>
    have hlc:lc= []:=by
     rcases N with⟨D,_⟩|⟨q,_,d,_⟩|⟨_,_,kb,d,_⟩
     ·exact D
     ·rw[hsp]at d;cases d
     ·rw[hsk]at d;cases d
    refine aA.2 ⟨none,u a 3,p.1,C a 0,p.2,C a 1,?_⟩;refine tq L (U (f.tr a)) hi (fun _ _=>hsk) p fun h6 T nd6 g=>?_
    have F:cG l p.1=false:=by rw[←P,hlc];rfl
    have Q:p∉l:=fun hm=>by
     have:cG l p.1=true:=cp.2 ⟨p,hm,decide_eq_true rfl⟩;rw[F]at this;cases this
    rw[F]at G;refine G h6 T true ((f.tr a).tr g) (j (a.tr g) nd6 hs (fun c' n=>⟨gS n,gS n⟩) ?_) (fun h=>by cases h) (by rw[decide_eq_false Q];rfl)
    rw[hlc];exact .inr (.inl ⟨p,rfl,ij,ij⟩)
   |some kp=>
    obtain⟨h2l,kb,rfl,tk⟩:2≤lc.length∧∃kb,kp=some ⟨kb,0,none⟩∧TrieAt W x d m kb lc:=by
     rcases N with⟨_,_,d⟩|⟨q,_,d,_⟩|⟨D,_,kb,d,J⟩
     ·rw[hsk]at d;cases d
     ·rw[hsp]at d;cases d
     ·rw[hsk]at d;cases d;exact⟨D,kb,rfl,J⟩
    refine af.2 ⟨_,u a 0,_,u a 1,_,u a 2,_,u a 3,_,u a 4,_,u a 5,p.1,C a 0,p.2,C a 1,?_⟩;have ew:ac .i64 (((12-m:Nat):Int)+1)=((13-m:Nat):Int):=by rw[kO (by omega)];omega
    rw[ew];refine ih (by omega) p (TrieAt.upd0 a tk) (U (f.tr a)) hrp X fun h6 T ch g t6 hsame H=>?_
    have A:=a.tr g;by_cases w:p∈l
    ·have H:ch=false:=by rw[H,decide_eq_true (O.2 w)];rfl
     have F:cG l p.1=true:=cp.2 ⟨p,w,decide_eq_true rfl⟩;rw[F]at G;rw[H];refine aA.2 ?_;exact G h6 b false (f.tr A) (by rw[Gx S w];exact tt A) (fun _=>rfl) (by rw[decide_eq_true w];rfl)
    ·have H:ch=true:=by rw[H,decide_eq_false fun h=>w (O.1 h)];rfl
     rw[H];refine af.2 ⟨none,u A 3,?_⟩;refine Al (L.upd g fun _ h=>h.elim) (U ((f.tr a).tr g)) hi (fun _ _=>hsp) ⟨T,0,none⟩ fun h7 b7 Y E=>?_
     rw[P];refine G h7 b7 true ((f.tr A).tr E) (j (A.tr E) Y hs (fun c' n=>⟨gS n,gS n⟩) ?_) (fun h=>by cases h) (by rw[decide_eq_false w];rfl)
     exact .inr (.inr ⟨aU h2l (Ob p),ij,T,ij,TrieAt.upd0 E t6⟩)
end Go.Proofs
namespace Go.Proofs
open Go.Lift
theorem MZ{W:Nat→Prop}{x:Hs}{h:ad}{m b:Nat}(nd:NodeAt W h b ⟨fun _=>none,fun _=>none⟩):TrieAt W x h (m+1) b []:=⟨_,nd,fun _ _=>.inl ⟨rfl,rfl,rfl⟩⟩
def RootAt(W:Nat→Prop)(x:Hs)(h:ad)(r:Option Addr)(l:List Pr):Prop:=(r=none∧l= [])∨∃b,r=some ⟨b,0,none⟩∧TrieAt W x h 13 b l
theorem RootAt.upd0{W:Nat→Prop}{x:Hs}{h h':ad}{r:Option Addr}{l:List Pr}(k:Upd No h h')(t:RootAt W x h r l):RootAt W x h' r l:=t.imp id fun⟨b,e,t⟩=>⟨b,e,TrieAt.upd0 k t⟩
theorem Lg{W:Nat→Prop}{x:Hs}{h:ad}{r:Option Addr}{l:List Pr}(t:RootAt W x h r l)(d:∀y,W y→y<h.size){K:Option Addr→ad→Prop}(a:∀h' b,TrieAt W x h' 13 b l→Upd No h h'→(r=some ⟨b,0,none⟩∨r=none)→K (some ⟨b,0,none⟩) h'):HC PG lw [.pointer r] [.c .ptr] K h:=by
 refine MD r ?_;unfold DW;rcases t with⟨rfl,rfl⟩|⟨b,rfl,t⟩
 ·refine aA.2 (A8 ?_)
  unfold vZ;exact sP d fun h' b nd c=>a h' b (MZ nd) c (.inr rfl)
 ·exact af.2 (a h b t (Upd.refl _ _) (.inl rfl))
theorem cS{h:ad}{b:Nat}{t:TypeId}{c vs:List Value}(a:h[b]? =some (.cells c.toArray t (0,0))) (f:vs.length=c.length) {k:ad→Prop}
  (d:∀h',h'[b]? =some (.cells vs.toArray t (0,0))→Upd (· =b) h h'→k h'):tc h (some ⟨b,0,none⟩) 0 vs∧At (ir h ⟨b,0,none⟩ 0 vs) k:=by
 have e:=jI vs h 0 0 c a (by omega);refine⟨.inr ⟨_,rfl,fun j g=>by rw[ci];exact i5 a (by rw[List.size_toArray];omega)⟩,bj ?_⟩
 rw[e];refine d _ ?_ (Upd.set h _ rfl);rw[jx a];congr 3
 simp[f]
set_option maxRecDepth 4000 in
theorem OF{W:Nat→Prop}{x:Hs}{h:ad}{r:Option Addr}{l:List Pr}(t:RootAt W x h r l)(Q:∀y,W y→y<h.size)(T:fe l)(Z:l.length≤1000000)(p:Pr){K:Option Addr×Bool→ad→Prop}
  (X:∀h' b',Upd No h h'→TrieAt W x h' 13 b' (km p l)→(p∈l→r=some ⟨b',0,none⟩∨r=none)→K (some ⟨b',0,none⟩, !cG l p.1) h'):
  HC PG zH [.agg #[.int .u64 x.k0,.int .u64 x.k1,.int .u64 x.mask],.pointer none,.pointer r,.agg #[.string p.1,.string p.2]] [.c .ptr,.c .bool] K h:=by
 refine Pa (x.k0,x.k1,x.mask) none r p ?_;unfold FS ag eX rQ ae AG aq mW qg Yx YE Bp;have k1:=Upd.hnew No h [.int .u64 x.k0,.int .u64 x.k1,.int .u64 x.mask] eO;have b1:=bI h [.int .u64 x.k0,.int .u64 x.k1,.int .u64 x.mask] eO;refine bj ?_;simp only[df h];generalize hnew h [.int .u64 x.k0,.int .u64 x.k1,.int .u64 x.mask] eO=h1 at k1 b1
 have G:=Upd.hnew No h1 [.string p.1,.string p.2] ax;have b2:=bI h1 [.string p.1,.string p.2] ax;refine bj ?_;simp only[df h1];generalize hnew h1 [.string p.1,.string p.2] ax=h2 at G b2;have e:∀{h':ad},Upd No h2 h'→∀i,aD h' (adr ⟨h.size,0,none⟩ i)=(#[.int .u64 x.k0,.int .u64 x.k1,.int .u64 x.mask]:Array Value)[i]?:=fun k i=>by
  rw[ci,bc (k.get0 (G.get0 b1)),aR]
 have o:∀{h':ad},Upd No h2 h'→∀i,aD h' (adr ⟨h1.size,0,none⟩ i)=(#[.string p.1,.string p.2]:Array Value)[i]?:=fun k i=>by rw[ci,bc (k.get0 b2),aR]
 have s:=Upd.refl No h2;have q:=k1.tr G;let C:List Value:= [.int .u64 0,.int .u64 0,.int .u64 0,.pointer none,.string (⟨#[]⟩:ByteArray),.int .u64 0]
 let E:List Value:= [.int .u64 x.k0,.int .u64 x.k1,.int .u64 x.mask,.pointer none,.string p.1,.int .u64 (jU x p.1)]
 have z:∀{g:ad} {b:Nat},Upd No h2 g→g[b]? =some (.cells E.toArray cO (0,0))→
   ∃v15:Int,aD g (adr ⟨b,0,none⟩ 0)=some (.int .u64 v15)∧
    ∃v16:Int,aD g (adr ⟨b,0,none⟩ 1)=some (.int .u64 v16)∧
    ∃v17:Int,aD g (adr ⟨b,0,none⟩ 2)=some (.int .u64 v17)∧
    ∃v18:Option Addr,aD g (adr ⟨b,0,none⟩ 3)=some (.pointer v18)∧
    ∃v19:ByteArray,aD g (adr ⟨b,0,none⟩ 4)=some (.string v19)∧
    ∃v20:Int,aD g (adr ⟨b,0,none⟩ 5)=some (.int .u64 v20)∧
    ∃v21:ByteArray,aD g (adr ⟨h1.size,0,none⟩ 0)=some (.string v21)∧
    ∃v22:ByteArray,aD g (adr ⟨h1.size,0,none⟩ 1)=some (.string v22)∧
    HC PG lw [.pointer r] [.c .ptr] (fun(N:Option Addr) f=>
     ((aD f (adr ⟨h1.size,0,none⟩ 0)=some (.string v21)∧aD f (adr ⟨h1.size,0,none⟩ 1)=some (.string v22))∧
      ((aD f (adr ⟨b,0,none⟩ 0)=some (.int .u64 v15)∧aD f (adr ⟨b,0,none⟩ 1)=some (.int .u64 v16)∧aD f (adr ⟨b,0,none⟩ 2)=some (.int .u64 v17)∧aD f (adr ⟨b,0,none⟩ 3)=some (.pointer v18)∧aD f (adr ⟨b,0,none⟩ 4)=some (.string v19)∧aD f (adr ⟨b,0,none⟩ 5)=some (.int .u64 v20))∧
       HC PG jj [.agg #[.int .u64 v15,.int .u64 v16,.int .u64 v17,.pointer v18,.string v19,.int .u64 v20],.pointer N,.agg #[.string v21,.string v22],.int .i64 0] [.c .ptr,.c .bool,.c .bool] (fun(A:(Option Addr)×Bool×Bool) P=>
        K (A.1,A.2.1) P) f))) g:=fun{g b} d I=>by
  have m:∀{h':ad},Upd No g h'→∀i,aD h' (adr ⟨b,0,none⟩ i)=E.toArray[i]?:=fun k i=>by rw[ci,bc (k.get0 I),aR]
  have v:=Upd.refl No g;refine⟨_,m v 0,_,m v 1,_,m v 2,_,m v 3,_,m v 4,_,m v 5,p.1,o d 0,p.2,o d 1,?_⟩;refine Lg (t.upd0 (q.tr d)) (fun y B=>aQ (Q y B) (q.tr d).size) fun S J V c H=>?_
  have a:=d.tr c;refine⟨⟨o a 0,o a 1⟩,⟨m c 0,m c 1,m c 2,m c 3,m c 4,m c 5⟩,?_⟩;refine YW 13 (av _) p V (fun y B=>aQ (Q y B) ((q.tr d).tr c).size) T Z fun R D ch u U Y F=>?_
  refine X R D ((q.tr a).tr u) U fun hm=>?_
  have O:D=J:=Y (by rw[F,decide_eq_true hm];rfl);rw[O];exact H
 have own:∀{w g:ad} {b:Nat},h2.size≤b→Upd (· =b) w g→Upd No h2 w→Upd No h2 g:=fun O hu k=>k.trans hu fun y B=>.inr (B▸O)
 refine⟨_,e s 0,_,e s 1,_,e s 2,_,o s 0,_,e s 0,_,e s 1,_,e s 2,_,o s 0,?_,?_⟩
 ·refine CV fun w j=>⟨o j 0,⟨e j 0,e j 1,e j 2⟩,?_⟩
  have n:=Upd.hnew No w C cO;have L:=bI w C cO;have d:=j.tr n;refine bj ?_;simp only[df w];refine⟨o d 0,⟨e d 0,e d 1,e d 2⟩,?_⟩;refine cS (vs:=E) L rfl fun S J c=>z (own j.size c d) J
 ·have n:=Upd.hnew No h2 C cO
  have L:=bI h2 C cO;refine bj ?_;simp only[df h2];refine⟨o n 0,⟨e n 0,e n 1,e n 2⟩,o n 0,⟨e n 0,e n 1,e n 2⟩,?_⟩;refine CV fun S c=>?_
  have a:=n.tr c;refine⟨o a 0,⟨e a 0,e a 1,e a 2⟩,?_⟩;exact cS (vs:=E) (c.get0 L) rfl fun R D u=>z (own (av _) u a) D
end Go.Proofs
namespace Go.Proofs
open Go.Lift
abbrev KW(b:UInt8):List Value:= [.int .u8 (b.toNat:Int)]
theorem ED(b:UInt8):(KW b).length=1∧0<1:=⟨rfl,Nat.one_pos⟩
theorem RX:∀xs:List UInt8,cx (xs.flatMap KW)=true
 | []=>rfl
 |x::xs=>by rw[bK];exact m8 rfl (RX xs)
theorem pk(s:ByteArray):cL s=s.data.toList.flatMap KW:=by
 unfold cL;generalize s.data.toList=l;induction l with
 |nil=>rfl
 |cons b l ih=>rw[cN,bK,ih];rfl
theorem Ih{M:Nat→Prop}{h:ad}{a:SliceV}{out:List UInt8}{v:Int}{b:UInt8}(d:v=(b.toNat:Int)){K:SliceV→ad→Prop}(f:OwnS KW 1 ll M h a out)(hM:∀b,h.size≤b→M b)(j:out.length+1≤140737488355328)
  (e:∀s' h',OwnS KW 1 ll M h' s' (out++ [b])→Upd M h h'→K s' h'):
  ∃xs,SRow (hnew h [.int .u8 v] ll) (some (aH h)) (1*1) xs∧AppP (some [.int .u8 0]) 1 1 ll a.a a.len a.cap 1 xs (hnew h [.int .u8 v] ll) K:=by
 subst d;have k:=Upd.hnew No h [.int .u8 (b.toNat:Int)] ll;have g:OwnS KW 1 ll (fun _=>True) (hnew h [.int .u8 (b.toNat:Int)] ll) ⟨some (aH h),1,1⟩ [b]:=⟨rfl,ED,av _,.inr ⟨h.size,[],rfl,trivial,bI ..,rfl⟩⟩
 refine⟨_,(g.sl (W:=No) fun _ _ _ h=>h).srow,?_⟩
 refine AppP.own (ys:= [b]) (f.upd k fun _ _ h=>h) rfl rfl rfl rfl (by omega) (by simp only[bO];omega) (hM _ (by rw[eT];omega)) fun s' h' c i=>?_
 exact e s' h' c ((Upd.hnew M h _ _).tr i)
end Go.Proofs
namespace Go.Proofs
open Go Go.Lift
def sS(n:Nat):UInt8:=cq (if n<10 then 48+n else 87+n)
def yH(l:List UInt8):List UInt8:=l.flatMap fun b=> [sS (b.toNat/16),sS (b.toNat%16)]
def lU(s:List UInt8):List UInt8:=if s= []then[45]else yH s
def qC(c:UInt8):Nat:=if 48≤c.toNat∧c.toNat≤57 then c.toNat-48 else if 97≤c.toNat∧c.toNat≤102 then c.toNat-87 else 16
def gd:List UInt8→Option (List UInt8)
 | []=>some []
 | [_]=>none
 |a::b::l=>if qC a<16∧qC b<16 then(gd l).map (cq (16*qC a+qC b):: ·)else none
def i7(w:List UInt8):Option (List UInt8):=if w= [45]then some []else if w= []then none else gd w
theorem Ow{n:Nat}(h:n<16):qC (sS n)=n:=by
 have:∀n:Fin 16,qC (sS n.val)=n.val:=by decide+kernel
 exact this ⟨n,h⟩
theorem EY:∀l:List UInt8,gd (yH l)=some l
 | []=>rfl
 |b::l=>by
  have a:=b.toNat_lt;show gd (sS (b.toNat/16)::sS (b.toNat%16)::yH l)=_
  unfold gd;rw[Ow (by omega),Ow (by omega),if_pos ⟨by omega,by omega⟩,EY l]
  have e:16*(b.toNat/16)+b.toNat%16=b.toNat:=by omega
  simp[e]
theorem JN(s:List UInt8):i7 (lU s)=some s:=by
 unfold lU;split
 ·rename_i h;rw[h];rfl
 ·rename_i h
  cases s with
  |nil=>exact absurd rfl h
  |cons b l=>
   unfold i7;have e:yH (b::l)=sS (b.toNat/16)::sS (b.toNat%16)::yH l:=rfl;rw[if_neg (by rw[e];intro h;simp at h),if_neg (by rw[e];intro h;cases h)];exact EY _
def dL(n:Nat):List UInt8:=if h:n<10 then[cq (48+n)]else dL (n/10)++ [cq (48+n%10)]
termination_by n
decreasing_by omega
theorem oJ{n:Nat}(h:n<10):dL n= [cq (48+n)]:=by rw[dL,dif_pos h]
theorem xO{n:Nat}(h:¬n<10):dL n=dL (n/10)++ [cq (48+n%10)]:=by rw[dL,dif_neg h]
def Jh(c:UInt8):Bool:=decide (48≤c.toNat)&&decide (c.toNat≤57)
def mz(w:List UInt8):Nat:=w.foldl (fun a c=>10*a+(c.toNat-48)) 0
theorem Ai(u:List UInt8)(c:UInt8):mz (u++ [c])=10*mz u+(c.toNat-48):=by unfold mz;rw[List.foldl_append];rfl
def mI(w:List UInt8):Option Nat:=if w≠[]∧w.all Jh=true∧mz w<18446744073709551616∧dL (mz w)=w then some (mz w)else none
theorem Qx{d:Nat}(h:d<10):Jh (cq (48+d))=true∧(cq (48+d)).toNat=48+d:=by
 have:∀d:Fin 10,Jh (cq (48+d.val))=true∧(cq (48+d.val)).toNat=48+d.val:=by decide+kernel
 exact this ⟨d,h⟩
theorem C5:∀n:Nat,(dL n).all Jh=true∧mz (dL n)=n∧dL n≠[]:=by
 intro n;induction n using lM with
 |ind n ih=>
  by_cases h:n<10
  ·rw[oJ h]
   obtain⟨a,b⟩:=Qx h;refine⟨by rw[wb,a];rfl,?_,List.cons_ne_nil _ _⟩;show 10*0+((cq (48+n)).toNat-48)=n
   omega
  ·obtain⟨a,b,c⟩:=ih (n/10) (by omega)
   obtain⟨d,e⟩:=Qx (d:=n%10) (by omega);rw[xO h];refine⟨by rw[si,a,wb,d];rfl,?_,fun e=>by have:=congrArg List.length e;simp at this⟩
   rw[Ai,b,e];omega
theorem CI{n:Nat}(h:n<18446744073709551616):mI (dL n)=some n:=by
 obtain⟨a,b,c⟩:=C5 n;unfold mI;rw[b,if_pos ⟨c,a,h,rfl⟩]
theorem Gw{c:UInt8}:Jh c=true↔48≤c.toNat∧c.toNat≤57:=by unfold Jh;simp
theorem Sk:∀(w:List UInt8),w.all Jh=true→w≠[]→(w.head? =some 48→w.length=1)→dL (mz w)=w∧(w.head?≠some 48→10^(w.length-1)≤mz w):=by
 intro w;obtain⟨k,j⟩:∃k,w.length=k:=⟨_,rfl⟩;induction k generalizing w with
 |zero=>intro _ h;exact absurd (bp.1 j) h
 |succ k ih=>
  intro i d o;obtain⟨u,c,rfl⟩:∃u c,w=u++ [c]:=⟨w.dropLast,w.getLast d,(List.dropLast_concat_getLast d).symm⟩;rw[si,Bool.and_eq_true]at i;have hc:Jh c=true:=by have:=i.2;simpa using this
  obtain⟨c1,x⟩:=Gw.1 hc;have b:u.length=k:=by simpa using j
  by_cases f:u= []
  ·subst f
   have e:mz ([]++ [c])=c.toNat-48:=by rw[Ai];show 10*0+_=_;omega
   rw[e];refine⟨?_,fun g=>?_⟩
   ·rw[oJ (by omega),show 48+(c.toNat-48)=c.toNat by omega];simp
   ·have:c.toNat≠48:=fun e=>g (by
     have:c=48:=jL.1 e
     rw[this];rfl)
    simp;omega
  ·have q:(u++ [c]).head? =u.head?:=by cases u with
    |nil=>exact absurd rfl f
    |cons a l=>rfl
   have g:u.head?≠some 48:=fun e=>by
    have p:=o (q.trans e);have:u.length≠0:=fun e=>f (bp.1 e)
    rw[aj,bO]at p;omega
   obtain⟨s,m⟩:=ih u b i.1 f fun e=>absurd e g
   have m:=m g;have t:1≤10^(u.length-1):=Nat.one_le_pow _ _ (by omega);rw[Ai];refine⟨?_,fun _=>?_⟩
   ·rw[xO (by omega)]
    have e1:(10*mz u+(c.toNat-48))/10=mz u:=by omega
    have e2:48+(10*mz u+(c.toNat-48))%10=c.toNat:=by omega
    rw[e1,e2,s];simp
   ·have v:u.length≠0:=fun e=>f (bp.1 e)
    have n:(u++ [c]).length-1=u.length-1+1:=by simp;omega
    rw[n,Nat.pow_succ];omega
theorem Ox:∀n:Nat,(dL n).head? =some 48→(dL n).length=1:=by
 intro n;induction n using lM with
 |ind n ih=>
  by_cases h:n<10
  ·rw[oJ h];intro _;rfl
  ·rw[xO h]
   intro e;have d:=(C5 (n/10)).2.2;have g:(dL (n/10)++ [cq (48+n%10)]).head? =(dL (n/10)).head?:=by cases e2:dL (n/10)with
    |nil=>exact absurd e2 d
    |cons a l=>rfl
   rw[g]at e;have c:=ih (n/10) (by omega) e;have b:n/10<10:=by
    by_cases f:n/10<10
    ·exact f
    ·rw[xO f]at c
     have:=(C5 (n/10/10)).2.2;simp at c;exact absurd c this
   rw[oJ b]at e;have:cq (48+n/10)=48:=by simpa using e
   have:=congrArg UInt8.toNat this;rw[(Qx b).2]at this;have:(48:UInt8).toNat=48:=rfl;omega
theorem NS(w:List UInt8):mI w=if w.length=0∨20<w.length∨(w.head? =some 48∧1<w.length)∨w.all Jh=false∨18446744073709551616≤mz w then none else some (mz w):=by
 unfold mI;by_cases h:w.length=0∨20<w.length∨(w.head? =some 48∧1<w.length)∨w.all Jh=false∨18446744073709551616≤mz w
 ·rw[if_pos h,if_neg]
  rintro⟨b,a,c,d⟩;rcases h with h|h|⟨h,g⟩|h|h
  ·exact b (bp.1 h)
  ·have hd:=Ox (mz w)
   rw[d]at hd;have f:w.head?≠some 48:=fun e=>by have:=hd e;omega
   have:=(Sk w a b hd).2 f;have:10^20≤10^(w.length-1):=Nat.pow_le_pow_right (by omega) (by omega);omega
  ·have hd:=Ox (mz w)
   rw[d]at hd;have:=hd h;omega
  ·rw[a]at h;cases h
  ·omega
 ·rw[if_neg h,if_pos]
  have b:w≠[]:=fun e=>h (.inl (by rw[e];rfl))
  have a:w.all Jh=true:=by
   cases e:w.all Jh
   ·exact absurd (.inr (.inr (.inr (.inl e)))) h
   ·rfl
  have c:w.head? =some 48→w.length=1:=fun e=>by
   have:w.length≠0:=fun e=>h (.inl e)
   have:¬1<w.length:=fun e2=>h (.inr (.inr (.inl ⟨e,e2⟩)))
   omega
  exact⟨b,a,by omega,(Sk w a b c).1⟩
end Go.Proofs
namespace Go.Proofs
inductive Fo where
 |nil:Fo
 |cons (lab:List UInt8) (val:Option ByteArray) (kids rest:Fo):Fo
abbrev Bn:=List UInt8×Option ByteArray×Fo
def Fo.toL:Fo→List Bn
 | .nil=> []
 | .cons lab w kids rest=>(lab,w,kids)::rest.toL
theorem Fo.toL_cons(lab:List UInt8)(w:Option ByteArray)(a b:Fo):(Fo.cons lab w a b).toL=(lab,w,a)::b.toL:=rfl
def Fo.ofL:List Bn→Fo
 | []=>.nil
 |(lab,w,kids)::l=>.cons lab w kids (Fo.ofL l)
theorem Fo.to_of:∀l:List Bn,(Fo.ofL l).toL=l
 | []=>rfl
 |(_,_,_)::l=>by show _::(Fo.ofL l).toL=_;rw[Fo.to_of l]
theorem Fo.of_to:∀F:Fo,Fo.ofL F.toL=F
 | .nil=>rfl
 | .cons lab w kids rest=>by show Fo.cons lab w kids (Fo.ofL rest.toL)=_;rw[Fo.of_to rest]
def uT:Fo→List UInt8→ByteArray→Prop
 | .nil,_,_=>False
 | .cons lab w kids rest,k,v=>(∃r,k=lab++r∧((r= []∧w=some v)∨uT kids r v))∨uT rest k v
def wM(w:Option ByteArray)(F:Fo)(k:List UInt8)(v:ByteArray):Prop:=(k= []∧w=some v)∨uT F k v
def yL(n:Bn)(k:List UInt8)(v:ByteArray):Prop:=∃r,k=n.1++r∧wM n.2.1 n.2.2 r v
theorem ja:∀{F:Fo} {k:List UInt8} {v:ByteArray},uT F k v↔∃n∈F.toL,yL n k v
 | .nil,_,_=>by simp[uT,Fo.toL]
 | .cons lab w kids rest,k,v=>by
  rw[Fo.toL_cons];unfold uT;rw[ja (F:=rest)];constructor
  ·rintro(h|⟨n,a,h⟩)
   ·exact⟨_,aP ..,h⟩
   ·exact⟨n,aK _ a,h⟩
  ·rintro⟨n,a,h⟩
   rcases ar.1 a with rfl|a
   ·exact .inl h
   ·exact .inr ⟨n,a,h⟩
def hd(k:List UInt8):Nat:=(k.headD 0).toNat
theorem vG{a b:List UInt8}(h:a≠[]):hd (a++b)=hd a:=by
 cases a with
 |nil=>exact absurd rfl h
 |cons x a=>rfl
theorem Yr(a:List UInt8):hd a<256:=UInt8.toNat_lt _
def j5:Fo→Prop
 | .nil=>True
 | .cons lab w kids rest=>lab≠[]∧(w.isSome∨2≤kids.toL.length)∧j5 kids∧(∀n∈rest.toL,hd lab<hd n.1)∧j5 rest
def Ue(n:Bn):Prop:=n.1≠[]∧(n.2.1.isSome∨2≤n.2.2.toL.length)∧j5 n.2.2
theorem fc:∀{F:Fo},j5 F↔F.toL.Pairwise (fun m n=>hd m.1<hd n.1)∧∀n∈F.toL,Ue n
 | .nil=>by simp[j5,Fo.toL]
 | .cons lab w kids rest=>by
  rw[Fo.toL_cons,cf];show(lab≠[]∧(w.isSome∨2≤kids.toL.length)∧j5 kids∧(∀n∈rest.toL,hd lab<hd n.1)∧j5 rest)↔_
  rw[fc (F:=rest)];constructor
  ·rintro⟨f,e,g,c,d,b⟩
   refine⟨⟨c,d⟩,fun n a=>?_⟩
   rcases ar.1 a with rfl|a
   ·exact⟨f,e,g⟩
   ·exact b n a
  ·rintro⟨⟨c,d⟩,b⟩
   have:=b _ (aP ..);exact⟨this.1,this.2.1,this.2.2,c,d,fun n a=>b n (aK _ a)⟩
theorem wC:∀{F:Fo},j5 F→∀n∈F.toL,∃r v,wM n.2.1 n.2.2 r v
 | .nil,_,n,a=>by simp[Fo.toL]at a
 | .cons lab w kids rest,h,n,a=>by
  rcases ar.1 a with rfl|a
  ·rcases h.2.1 with d|b
   ·obtain⟨v,c⟩:=fO.1 d
    exact⟨[],v,.inl ⟨rfl,c⟩⟩
   ·have e:=wC h.2.2.1
    have⟨m,hm⟩:∃m,m∈kids.toL:=by
     cases hl:kids.toL with
     |nil=>rw[hl]at b;simp at b
     |cons m l=>exact⟨m,aP ..⟩
    obtain⟨r,v,f⟩:=e m hm;exact⟨m.1++r,v,.inr (ja.2 ⟨m,hm,r,rfl,f⟩)⟩
  ·exact wC h.2.2.2.2 n a
theorem Et{F:Fo}(h:j5 F){k:List UInt8}{v:ByteArray}(hi:uT F k v):k≠[]:=by
 obtain⟨n,a,r,rfl,_⟩:=ja.1 hi;have:=((fc.1 h).2 n a).1;intro e;exact this (gx.1 e).1
theorem zd{F:Fo}(h:j5 F){k:List UInt8}{v:ByteArray}(hi:uT F k v):∃n∈F.toL,hd n.1=hd k∧yL n k v:=by
 obtain⟨n,a,r,e,b⟩:=ja.1 hi;exact⟨n,a,by rw[e,vG ((fc.1 h).2 n a).1],r,e,b⟩
theorem Az{F:Fo}(h:j5 F){m n:Bn}(hm:m∈F.toL)(f:n∈F.toL)(e:hd m.1=hd n.1):m=n:=by
 have d:=(fc.1 h).1;revert hm f;generalize F.toL=l at*;clear h;induction l with
 |nil=>intro hm;simp at hm
 |cons a l ih=>
  have d:=cf.1 d;intro hm f;rcases ar.1 hm with e1|c
  ·rcases ar.1 f with e2|b
   ·rw[e1,e2]
   ·have:=d.1 n b;rw[←e1]at this;omega
  ·rcases ar.1 f with e2|b
   ·have:=d.1 m c;rw[←e2]at this;omega
   ·exact ih d.2 c b
def Br(P:List UInt8→ByteArray→Prop):Prop:=(∃v,P [] v)∨∃j k u v,P j u∧P k v∧j≠[]∧k≠[]∧hd j≠hd k
theorem Ww{w:Option ByteArray}{F:Fo}(h:j5 F):(w.isSome∨2≤F.toL.length)↔Br (wM w F):=by
 constructor
 ·rintro(y|z)
  ·obtain⟨v,c⟩:=fO.1 y
   exact .inl ⟨v,.inl ⟨rfl,c⟩⟩
  ·right
   have d:=wC h;have hc:=fc.1 h;match hL:F.toL,z with
   |a::b::l,_=>
    have g:a∈F.toL:=by rw[hL];simp
    have o:b∈F.toL:=by rw[hL];simp
    obtain⟨r,v,C⟩:=d a g;obtain⟨s,u,d⟩:=d b o;have q:=(hc.2 a g).1;have p:=(hc.2 b o).1;have:=hc.1;rw[hL]at this;have D:=(cf.1 this).1 b (aP ..);refine⟨a.1++r,b.1++s,v,u,.inr (ja.2 ⟨a,g,r,rfl,C⟩),.inr (ja.2 ⟨b,o,s,rfl,d⟩),?_,?_,?_⟩
    ·intro e;exact q (gx.1 e).1
    ·intro e;exact p (gx.1 e).1
    ·rw[vG q,vG p];omega
 ·rintro(⟨v,c⟩|⟨j,k,u,v,i,f,B,nk,A⟩)
  ·rcases c with⟨_,c⟩|c
   ·left;rw[c];rfl
   ·exact absurd rfl (Et h c)
  ·right
   rcases i with⟨e,_⟩|i
   ·exact absurd e B
   rcases f with⟨e,_⟩|f
   ·exact absurd e nk
   obtain⟨m,hm,em,_⟩:=zd h i;obtain⟨n,t,x,_⟩:=zd h f;match hL:F.toL with
   | []=>rw[hL]at hm;simp at hm
   | [a]=>
    rw[hL]at hm t;rw[aO.1 hm]at em;rw[aO.1 t]at x;omega
   |a::b::l=>simp
end Go.Proofs
namespace Go.Proofs
def vU(P a:List UInt8→ByteArray→Prop)(k:List UInt8)(v:ByteArray):Prop:=∀k' v',a k' v'↔(k'=k∧v'=v)∨(k'≠k∧P k' v')
theorem Kc{w:Option ByteArray}{F:Fo}(h:j5 F)(v:ByteArray):vU (wM w F) (wM (some v) F) [] v:=by
 intro k' a;unfold wM;constructor
 ·rintro(⟨e,f⟩|hi)
  ·exact .inl ⟨e,(bq.inj f).symm⟩
  ·exact .inr ⟨Et h hi,.inr hi⟩
 ·rintro(⟨e,f⟩|⟨e,⟨f,_⟩|hi⟩)
  ·exact .inl ⟨e,by rw[f]⟩
  ·exact absurd f e
  ·exact .inr hi
theorem Ek{w:Option ByteArray}{F a:Fo}{k:List UInt8}{v:ByteArray}(b:k≠[])(h:vU (uT F) (uT a) k v):vU (wM w F) (wM w a) k v:=by
 intro k' c;unfold wM;rw[h k' c];constructor
 ·rintro(⟨e,f⟩|hi|hi)
  ·exact .inr ⟨fun d=>b (d.symm.trans e),.inl ⟨e,f⟩⟩
  ·exact .inl hi
  ·exact .inr ⟨hi.1,.inr hi.2⟩
 ·rintro(hi|⟨e,hi|hi⟩)
  ·exact .inr (.inl hi)
  ·exact .inl hi
  ·exact .inr (.inr ⟨e,hi⟩)
theorem Tc{F:Fo}{k:List UInt8}{v:ByteArray}{i:Nat}(h:j5 F)(w:k≠[])(hi:∀j (d:j<F.toL.length),j<i→hd F.toL[j].1<hd k)(g:∀j (d:j<F.toL.length),i≤j→hd k<hd F.toL[j].1):j5 (.ofL (F.toL.take i++(k,some v,.nil)::F.toL.drop i))∧vU (uT F) (uT (.ofL (F.toL.take i++(k,some v,.nil)::F.toL.drop i))) k v:=by
 have hc:=fc.1 h;have z:∀n∈F.toL.take i,hd n.1<hd k:=fun n c=>by
  obtain⟨j,d,e⟩:=dC c;rw[be]at d;rw[←e,List.getElem_take];exact hi j (by omega) (by omega)
 have u:∀n∈F.toL.drop i,hd k<hd n.1:=fun n c=>by
  obtain⟨j,d,e⟩:=dC c;rw[aS]at d;rw[←e,List.getElem_drop];exact g _ (by omega) (by omega)
 have mem:∀n,n∈F.toL.take i++(k,some v,.nil)::F.toL.drop i↔n=(k,some v,Fo.nil)∨n∈F.toL:=fun n=>by
  conv=>rhs;rw[←bT i F.toL]
  simp only[bD,ar];exact⟨fun h=>h.elim (fun h=>.inr (.inl h)) fun h=>h.elim .inl fun h=>.inr (.inr h),fun h=>h.elim (fun h=>.inr (.inl h)) fun h=>h.elim .inl fun h=>.inr (.inr h)⟩
 refine⟨fc.2 ⟨?_,?_⟩,fun k' y=>?_⟩
 ·rw[Fo.to_of]
  have m:=hc.1;rw[←bT i F.toL,ff]at m;refine ff.2 ⟨m.1,cf.2 ⟨u,m.2.1⟩,fun a s b p=>?_⟩
  rcases ar.1 p with rfl|p
  ·exact z a s
  ·exact m.2.2 a s b p
 ·rw[Fo.to_of]
  intro n c;rcases(mem n).1 c with rfl|c
  ·exact⟨w,.inl rfl,trivial⟩
  ·exact hc.2 n c
 ·rw[ja,ja,Fo.to_of]
  constructor
  ·rintro⟨n,c,r,e,t⟩
   rcases(mem n).1 c with rfl|c
   ·rcases t with⟨rfl,f⟩|f
    ·exact .inl ⟨by rw[e];exact cE _,(bq.inj f).symm⟩
    ·exact f.elim
   ·right
    refine⟨fun x=>?_,n,c,r,e,t⟩
    have e2:hd k=hd n.1:=by rw[←x,e,vG (hc.2 n c).1]
    obtain⟨j,d,q⟩:=dC c;rcases cC j i with o|o
    ·have:=hi j d o;rw[q]at this;omega
    ·have:=g j d o;rw[q]at this;omega
  ·rintro(⟨rfl,rfl⟩|⟨_,n,c,h⟩)
   ·exact⟨(k',some y,.nil),(mem _).2 (.inl rfl),[],(cE _).symm,.inl ⟨rfl,rfl⟩⟩
   ·exact⟨n,(mem _).2 (.inr c),h⟩
theorem mJ{α:Type}{l:List α}{i:Nat}(hi:i<l.length){a x:α}(nd:∀j (c:j<l.length),j≠i→l[j]≠l[i]):x∈l.set i a↔x=a∨(x∈l∧x≠l[i]):=by
 constructor
 ·intro h
  obtain⟨j,c,e⟩:=dC h;rw[oL]at c;rw[List.getElem_set]at e;split at e
  ·exact .inl e.symm
  ·rename_i b
   exact .inr ⟨by rw[←e];exact bZ c,by rw[←e];exact nd j c fun e=>b e.symm⟩
 ·rintro(rfl|⟨h,b⟩)
  ·exact nV (i:=i) (h:=by simpa using hi) (by simp)
  ·obtain⟨j,c,e⟩:=dC h
   have:i≠j:=by rintro rfl;exact b e.symm
   exact nV (i:=j) (h:=by simpa using c) (by rw[List.getElem_set_ne this];exact e)
theorem Su{F:Fo}{i:Nat}{m:Bn}(h:j5 F)(hi:i<F.toL.length)(hm:Ue m)(e:hd m.1=hd F.toL[i].1):j5 (.ofL (F.toL.set i m)):=by
 have hc:=fc.1 h;rw[fc,Fo.to_of];refine⟨?_,fun n g=>?_⟩
 ·rw[dE]at hc⊢
  intro a b d f c;rw[oL]at d f;rw[List.getElem_set,List.getElem_set];split
  ·rename_i ea;subst ea
   rw[if_neg (by omega),e];exact hc.1 _ _ d f c
  ·split
   ·rename_i eb;subst eb
    rw[e];exact hc.1 _ _ d f c
   ·exact hc.1 _ _ d f c
 ·rcases List.mem_or_eq_of_mem_set g with g|rfl
  ·exact hc.2 n g
  ·exact hm
theorem xz{F:Fo}(h:j5 F){i:Nat}(hi:i<F.toL.length)(j:Nat)(c:j<F.toL.length)(b:j≠i):F.toL[j]≠F.toL[i]:=by
 have hc:=(fc.1 h).1;rw[dE]at hc;intro e;rcases Nat.lt_or_gt_of_ne b with a|a
 ·have:=hc j i c hi a;rw[e]at this;omega
 ·have:=hc i j hi c a;rw[e]at this;omega
theorem NC{F:Fo}{i:Nat}{m:Bn}{k:List UInt8}{v:ByteArray}(h:j5 F)(hi:i<F.toL.length)(ek:hd F.toL[i].1=hd k)(d:vU (yL F.toL[i]) (yL m) k v):vU (uT F) (uT (.ofL (F.toL.set i m))) k v:=by
 intro k' f;have hc:=fc.1 h;rw[ja,ja,Fo.to_of];constructor
 ·rintro⟨n,b,c⟩
  rcases(mJ hi (xz h hi)).1 b with rfl|⟨b,g⟩
  ·rcases(d k' f).1 c with a|⟨a,j⟩
   ·exact .inl a
   ·exact .inr ⟨a,_,bZ hi,j⟩
  ·refine .inr ⟨fun e=>g ?_,n,b,c⟩
   obtain⟨r,o,_⟩:=c;refine Az h b (bZ hi) ?_;rw[ek,←e,o,vG (hc.2 n b).1]
 ·rintro(a|⟨a,n,b,c⟩)
  ·exact⟨m,(mJ hi (xz h hi)).2 (.inl rfl),(d k' f).2 (.inl a)⟩
  ·by_cases e:n=F.toL[i]
   ·exact⟨m,(mJ hi (xz h hi)).2 (.inl rfl),(d k' f).2 (.inr ⟨a,by rw[←e];exact c⟩)⟩
   ·exact⟨n,(mJ hi (xz h hi)).2 (.inr ⟨b,e⟩),c⟩
theorem Tb{lab r:List UInt8}{w w':Option ByteArray}{F f:Fo}{v:ByteArray}(h:vU (wM w F) (wM w' f) r v):vU (yL (lab,w,F)) (yL (lab,w',f)) (lab++r) v:=by
 intro k' d;constructor
 ·rintro⟨s,e,a⟩
  rcases(h s d).1 a with⟨rfl,rfl⟩|⟨b,g⟩
  ·exact .inl ⟨e,rfl⟩
  ·exact .inr ⟨fun c=>b (List.append_cancel_left (e.symm.trans c)),s,e,g⟩
 ·rintro(⟨rfl,rfl⟩|⟨b,s,e,a⟩)
  ·exact⟨r,rfl,(h r d).2 (.inl ⟨rfl,rfl⟩)⟩
  ·exact⟨s,e,(h s d).2 (.inr ⟨fun c=>b (by rw[e,c]),a⟩)⟩
def cm:List UInt8→List UInt8→Nat
 |a::x,b::y=>if a=b then cm x y+1 else 0
 |_,_=>0
theorem Yt:∀(x y:List UInt8),cm x y≤x.length∧cm x y≤y.length
 | [],_=>by simp[cm]
 |_::_,[]=>by simp[cm]
 |a::x,b::y=>by unfold cm;have:=Yt x y;split<;>simp<;>omega
theorem Sn:∀(x y:List UInt8),x.take (cm x y)=y.take (cm x y)
 | [],_=>by simp[cm]
 |_::_,[]=>by simp[cm]
 |a::x,b::y=>by
  unfold cm;split
  ·rename_i e;rw[gC,gC,Sn x y,e]
  ·simp
theorem So:∀(x y:List UInt8),cm x y<x.length→cm x y<y.length→hd (x.drop (cm x y))≠hd (y.drop (cm x y))
 | [],_=>by simp[cm]
 |_::_,[]=>by simp[cm]
 |a::x,b::y=>by
  unfold cm;split
  ·rename_i e
   intro c d;rw[ay]at c d;rw[iX,iX];exact So x y (by omega) (by omega)
  ·rename_i e
   intro _ _ h;exact e (jL.1 h)
theorem Zg{x y:List UInt8}(hx:x≠[])(c:y≠[])(h:hd x=hd y):0<cm x y:=by
 match x,y,hx,c with
 |a::x,b::y,_,_=>
  unfold cm;rw[if_pos (show a=b from jL.1 h)]
  omega
theorem KA{lab:List UInt8}{w:Option ByteArray}{F:Fo}(c:Nat):∀k v,yL (lab.take c,none,.cons (lab.drop c) w F .nil) k v↔yL (lab,w,F) k v:=by
 intro k v;constructor
 ·rintro⟨r,e,⟨_,h⟩|(⟨s,rfl,h⟩|h)⟩
  ·cases h
  ·exact⟨s,by rw[e];simp only;rw[←aM,bT],h⟩
  ·exact h.elim
 ·rintro⟨s,e,h⟩
  exact⟨lab.drop c++s,by rw[e];simp only;rw[←aM,bT],.inr (.inl ⟨s,rfl,h⟩)⟩
theorem Wt{lab r:List UInt8}{w w':Option ByteArray}{F f:Fo}{v:ByteArray}(c:lab≠[])(j:w.isSome∨2≤F.toL.length)(g:j5 F)(a:r≠[]→hd r≠hd lab)(h:vU (wM none (.cons lab w F .nil)) (wM w' f) r v):Br (wM w' f):=by
 by_cases e:r= []
 ·subst e
  exact .inl ⟨v,(h [] v).2 (.inl ⟨rfl,rfl⟩)⟩
 ·have hc:j5 (.cons lab w F .nil):=⟨c,j,g,fun n i=>by simp[Fo.toL]at i,trivial⟩
  obtain⟨s,u,d⟩:=wC hc _ (aP ..);simp only at d;have e2:hd (lab++s)=hd lab:=vG c;refine .inr ⟨r,lab++s,v,u,(h r v).2 (.inl ⟨rfl,rfl⟩),(h _ u).2 (.inr ⟨fun b=>a e (by rw[←b,e2]),.inr (.inl ⟨s,rfl,d⟩)⟩),e,fun b=>c (gx.1 b).1,by rw[e2];exact a e⟩
theorem X9{P d:List UInt8→ByteArray→Prop}{k:List UInt8}{v:ByteArray}(g:Br P)(h:vU P d k v):Br d:=by
 have keep:∀j u,P j u→∃c,d j c:=fun j u f=>by
  by_cases e:j=k
  ·exact⟨v,(h j v).2 (.inl ⟨e,rfl⟩)⟩
  ·exact⟨u,(h j u).2 (.inr ⟨e,f⟩)⟩
 rcases g with⟨u,n⟩|⟨j,k',u,c,f,i,r⟩
 ·obtain⟨c,h'⟩:=keep [] u n
  exact .inl ⟨c,h'⟩
 ·obtain⟨a,m⟩:=keep j u f
  obtain⟨b,g⟩:=keep k' c i;exact .inr ⟨j,k',a,b,m,g,r⟩
end Go.Proofs
namespace Go.Proofs
open Go Go.Lift
end Go.Proofs
namespace Go.Proofs
open Go Go.Lift
def Fit(l:List Pr):Prop:=∀p∈l,p.1.size≤10000∧p.2.size≤10000
end Go.Proofs
namespace Go.Proofs
open Go Go.Lift
end Go.Proofs
namespace Go.Proofs
open Go Go.Lift
def YP(l:List Pr):Option Pr:=match l with| [p]=>some p|_=>none
def Y1(l:List Pr):Option (List Pr):=if 2≤l.length then some l else none
def Cy(x:Hs)(lev:Nat)(l:List Pr):List Pr:=fm (fun c=>YP (part x lev c l)) 32
def Yo(x:Hs)(lev:Nat)(l:List Pr):List (List Pr):=fm (fun c=>Y1 (part x lev c l)) 32
theorem YQ{W:Nat→Prop}{x:Hs}{h:ad}{m:Nat}{s:Slots}{c:Nat}{l:List Pr}(t:SlotIs W x h m s c l):s.p c=YP l∧(s.k c).isSome=(Y1 l).isSome:=by
 rcases t with⟨rfl,d,e⟩|⟨p,rfl,d,e⟩|⟨f,d,g,e,_⟩
 ·rw[d,e];exact⟨rfl,rfl⟩
 ·rw[d,e];exact⟨rfl,rfl⟩
 ·rw[d,e]
  refine⟨?_,by simp[Y1,f]⟩
  match l,f with
  |a::b::l,_=>rfl
theorem XY{β:Type}(g:Nat→Option β)(n:Nat):fm g (n+1)=fm g n++(g n).toList:=by
 unfold fm;rw[List.range_succ,List.filterMap_append];cases h:g n<;>simp[h]
theorem Xm{W:Nat→Prop}{x:Hs}{h:ad}{m lev:Nat}{s:Slots}{l:List Pr}(a:∀c,c<32→SlotIs W x h m s c (part x lev c l)):fm s.p 32=Cy x lev l:=
 aai _ fun c hc=>(YQ (a c (List.mem_range.1 hc))).1
end Go.Proofs
namespace Go.Proofs
open Go Go.Lift
theorem El(x:Hs)(lev:Nat)(l:List Pr):∀n,(((List.range n).map fun c=>(part x lev c l).length).sum)=(l.filter fun p=>decide (ck x lev p.1<n)).length
 |0=>by
  have:(l.filter fun p=>decide (ck x lev p.1<0))= []:=List.filter_eq_nil_iff.2 fun p _=>by simp
  rw[this];rfl
 |n+1=>by
  rw[List.range_succ,List.map_append,List.sum_append,El x lev l n];simp only[cN,List.map_nil,List.sum_cons,List.sum_nil,Nat.add_zero];unfold part;clear El;induction l with
  |nil=>rfl
  |cons p l ih=>
   simp only[List.filter_cons,decide_eq_true_iff];split<;>split<;>split<;>first|omega|(simp only[ay];omega)
end Go.Proofs
namespace Go.Proofs
open Go Go.Lift
theorem Ts{x:Hs}{lev:Nat}{l:List Pr}{p:Pr}(h:p∈Cy x lev l):p∈l:=by
 unfold Cy fm at h;obtain⟨c,_,hc⟩:=List.mem_filterMap.1 h;unfold YP at hc;split at hc
 ·rename_i q hq
  cases hc;have:p∈part x lev c l:=by rw[hq];exact aO.2 rfl
  exact(tD.1 this).1
 ·cases hc
theorem Fit.part{x:Hs}{lev c:Nat}{l:List Pr}(h:Fit l):Fit (part x lev c l):=fun p a=>h p (tD.1 a).1
end Go.Proofs
namespace Go.Proofs
open Go Go.Lift
end Go.Proofs
namespace Go.Proofs
open Go Go.Lift
end Go.Proofs
namespace Go.Proofs
open Go Go.Lift
def G4(lab:ByteArray)(has:Bool)(val:ByteArray)(s:SliceV)(ow:Option Addr):Array Value:= #[.string lab,.bool has,.string val,sv s,.pointer ow]
theorem vw{w:Option ByteArray}{val:ByteArray}(h:val=w.getD ⟨#[]⟩):∀v,w=some v→val=v:=fun v e=>by rw[h,e];rfl
def RxF(W:Nat→Prop)(h:ad):Fo→List (Option Addr)→Prop
 | .nil,ks=>ks= []
 | .cons lab w kids rest,ks=>∃b sl val s ow ks1 ks',ks=some ⟨b,0,none⟩::ks'∧sl.data.toList=lab∧h[b]? =some (.cells (G4 sl w.isSome val s ow) bV (0,0))∧val=w.getD ⟨#[]⟩∧Sl xh 1 W h s ks1∧(s.len≤s.cap∧¬W b)∧RxF W h kids ks1∧RxF W h rest ks'
def RxN(W:Nat→Prop)(h:ad)(b:Nat)(sl:ByteArray)(w:Option ByteArray)(F:Fo):Prop:=∃val s ow ks,h[b]? =some (.cells (G4 sl w.isSome val s ow) bV (0,0))∧val=w.getD ⟨#[]⟩∧Sl xh 1 W h s ks∧(s.len≤s.cap∧¬W b)∧RxF W h F ks
def Kid(W:Nat→Prop)(h:ad)(k:Option Addr)(n:Bn):Prop:=∃b sl,k=some ⟨b,0,none⟩∧sl.data.toList=n.1∧RxN W h b sl n.2.1 n.2.2
def RxL(W:Nat→Prop)(h:ad)(ks:List (Option Addr))(L:List Bn):Prop:=ks.length=L.length∧∀p∈ks.zip L,Kid W h p.1 p.2
theorem mY{W:Nat→Prop}{h:ad}:∀{F:Fo} {ks:List (Option Addr)},RxF W h F ks↔RxL W h ks F.toL
 | .nil,ks=>by
  unfold RxF RxL;simp[Fo.toL]
 | .cons lab w kids rest,ks=>by
  unfold RxF RxL;rw[Fo.toL_cons];constructor
  ·rintro⟨b,sl,val,s,ow,c,d,rfl,e1,e2,f,i,j,g,q⟩
   obtain⟨n,o⟩:=mY.1 q;refine⟨by simp[n],fun p a=>?_⟩
   rw[oZ]at a;rcases ar.1 a with rfl|a
   ·exact⟨b,sl,rfl,e1,val,s,ow,c,e2,f,i,j,g⟩
   ·exact o p a
  ·cases ks with
   |nil=>rintro⟨e,_⟩;simp at e
   |cons k d=>
    rintro⟨e,a⟩;rw[oZ]at a;obtain⟨b,sl,t,e1,val,s,ow,c,e2,f,i,j,g⟩:=a _ (aP ..);refine⟨b,sl,val,s,ow,c,d,by rw[←t],e1,e2,f,i,j,g,mY.2 ⟨by simpa using e,fun p m=>a p (aK _ m)⟩⟩
theorem RxF.upd0{W:Nat→Prop}{h h':ad}(k:Upd No h h'):∀{F:Fo} {ks:List (Option Addr)},RxF W h F ks→RxF W h' F ks
 | .nil,_,r=>r
 | .cons _ _ _ _,_,⟨b,sl,val,s,ow,ks1,ks',e0,e1,e2,e3,e4,e5,e6,e7⟩=>⟨b,sl,val,s,ow,ks1,ks',e0,e1,k.get0 e2,e3,e4.upd k fun _ h=>h.elim,e5,RxF.upd0 k e6,RxF.upd0 k e7⟩
theorem RxN.upd0{W:Nat→Prop}{h h':ad}(k:Upd No h h'){b:Nat}{sl:ByteArray}{w:Option ByteArray}{F:Fo}:RxN W h b sl w F→RxN W h' b sl w F
 |⟨val,s,ow,ks,e2,e3,e4,e5,e6⟩=>⟨val,s,ow,ks,k.get0 e2,e3,e4.upd k fun _ h=>h.elim,e5,RxF.upd0 k e6⟩
theorem Kid.upd0{W:Nat→Prop}{h h':ad}(k:Upd No h h'){a:Option Addr}{n:Bn}:Kid W h a n→Kid W h' a n
 |⟨b,sl,e1,e2,e3⟩=>⟨b,sl,e1,e2,e3.upd0 k⟩
theorem RxF.less{W W':Nat→Prop}{h:ad}(hm:∀b,W' b→W b∨h.size≤b):∀{F:Fo} {ks:List (Option Addr)},RxF W h F ks→RxF W' h F ks
 | .nil,_,r=>r
 | .cons _ _ _ _,_,⟨b,sl,val,s,ow,ks1,ks',e0,e1,e2,e3,e4,e5,e6,e7⟩=>⟨b,sl,val,s,ow,ks1,ks',e0,e1,e2,e3,e4.less hm,⟨e5.1,fun hx=>(hm _ hx).elim e5.2 fun h=>by have:=bB e2;omega⟩,RxF.less hm e6,RxF.less hm e7⟩
theorem RxN.less{W W':Nat→Prop}{h:ad}(hm:∀b,W' b→W b∨h.size≤b){b:Nat}{sl:ByteArray}{w:Option ByteArray}{F:Fo}:RxN W h b sl w F→RxN W' h b sl w F
 |⟨val,s,ow,ks,e2,e3,e4,e5,e6⟩=>⟨val,s,ow,ks,e2,e3,e4.less hm,⟨e5.1,fun hx=>(hm _ hx).elim e5.2 fun h=>by have:=bB e2;omega⟩,RxF.less hm e6⟩
theorem RxF.updM{W M:Nat→Prop}{h h':ad}(k:Upd M h h')(hm:∀b,M b→W b∨h.size≤b):∀{F:Fo} {ks:List (Option Addr)},RxF W h F ks→RxF W h' F ks
 | .nil,_,r=>r
 | .cons _ _ _ _,_,⟨b,sl,val,s,ow,ks1,ks',e0,e1,e2,e3,e4,e5,e6,e7⟩=>⟨b,sl,val,s,ow,ks1,ks',e0,e1,k.get e2 (fun hx=>(hm _ hx).elim e5.2 fun h=>by have:=bB e2;omega),e3,e4.upd k hm,e5,RxF.updM k hm e6,RxF.updM k hm e7⟩
theorem RxN.updM{W M:Nat→Prop}{h h':ad}(k:Upd M h h')(hm:∀b,M b→W b∨h.size≤b){b:Nat}{sl:ByteArray}{w:Option ByteArray}{F:Fo}:RxN W h b sl w F→RxN W h' b sl w F
 |⟨val,s,ow,ks,e2,e3,e4,e5,e6⟩=>⟨val,s,ow,ks,k.get e2 (fun hx=>(hm _ hx).elim e5.2 fun h=>by have:=bB e2;omega),e3,e4.upd k hm,e5,RxF.updM k hm e6⟩
theorem RxL.upd0{W:Nat→Prop}{h h':ad}(k:Upd No h h'){ks:List (Option Addr)}{L:List Bn}(r:RxL W h ks L):RxL W h' ks L:=⟨r.1,fun p a=>(r.2 p a).upd0 k⟩
theorem RxL.app{W:Nat→Prop}{h:ad}{ks b:List (Option Addr)}{L d:List Bn}(r:RxL W h ks L)(c:RxL W h b d):RxL W h (ks++b) (L++d):=by
 refine⟨by rw[aj,aj,r.1,c.1],fun p a=>?_⟩
 rw[List.zip_append r.1]at a;rcases bD.1 a with a|a
 ·exact r.2 p a
 ·exact c.2 p a
theorem RxL.one{W:Nat→Prop}{h:ad}{k:Option Addr}{n:Bn}(c:Kid W h k n):RxL W h [k] [n]:=⟨rfl,fun p a=>by rw[oZ,List.zip_nil_left]at a;rw[aO.1 a];exact c⟩
theorem RxL.take{W:Nat→Prop}{h:ad}{ks:List (Option Addr)}{L:List Bn}(r:RxL W h ks L)(i:Nat):RxL W h (ks.take i) (L.take i):=by
 refine⟨by rw[be,be,r.1],fun p a=>r.2 p ?_⟩
 have:(ks.take i).zip (L.take i)=(ks.zip L).take i:=by rw[nT,nT,List.take_zipWith]
 rw[this]at a;exact List.mem_of_mem_take a
theorem RxL.drop{W:Nat→Prop}{h:ad}{ks:List (Option Addr)}{L:List Bn}(r:RxL W h ks L)(i:Nat):RxL W h (ks.drop i) (L.drop i):=by
 refine⟨by rw[aS,aS,r.1],fun p a=>r.2 p ?_⟩
 have:(ks.drop i).zip (L.drop i)=(ks.zip L).drop i:=by rw[nT,nT,List.drop_zipWith]
 rw[this]at a;exact List.mem_of_mem_drop a
theorem RxL.ins{W:Nat→Prop}{h:ad}{ks:List (Option Addr)}{L:List Bn}(r:RxL W h ks L)(i:Nat){k:Option Addr}{n:Bn}(c:Kid W h k n):RxL W h (ks.take i++k::ks.drop i) (L.take i++n::L.drop i):=by
 have:=(r.take i).app ((RxL.one c).app (r.drop i));exact this
theorem RxL.set{W:Nat→Prop}{h:ad}{ks:List (Option Addr)}{L:List Bn}(r:RxL W h ks L){i:Nat}(hi:i<L.length){k:Option Addr}{n:Bn}(c:Kid W h k n):RxL W h (ks.set i k) (L.set i n):=by
 have:=(r.take i).app ((RxL.one c).app (r.drop (i+1)));rw[dD,dD,if_pos (by rw[r.1];exact hi),if_pos hi];exact this
theorem RxL.at{W:Nat→Prop}{h:ad}{ks:List (Option Addr)}{L:List Bn}(r:RxL W h ks L){i:Nat}(hi:i<L.length):∃b sl,ks[i]? =some (some ⟨b,0,none⟩)∧sl.data.toList=L[i].1∧RxN W h b sl L[i].2.1 L[i].2.2:=by
 have a:i<ks.length:=by rw[r.1];exact hi
 have d:i<(ks.zip L).length:=by rw[List.length_zip];omega
 have:=r.2 _ (bZ d);rw[List.getElem_zip]at this;obtain⟨b,sl,e1,e2,c⟩:=this;exact⟨b,sl,by rw[List.getElem?_eq_getElem a];exact congrArg some e1,e2,c⟩
theorem JT:∀{L:List Bn} {c:Nat},L.Pairwise (fun m n=>hd m.1<hd n.1)→(∀n∈L,c≤hd n.1)→L= []∨c+L.length≤256
 | [],_,_,_=>.inl rfl
 |n::L,c,a,hc=>by
  have a:=cf.1 a;have d:=hc n (aP ..);have b:=Yr n.1;rcases JT (c:=hd n.1+1) a.2 fun m hm=>a.1 m hm with e|e
  ·rw[e];right;simp only[bO];omega
  ·right;rw[ay];omega
theorem AA{F:Fo}(h:j5 F):F.toL.length≤256:=by
 rcases JT (c:=0) (fc.1 h).1 fun _ _=>aV _ with e|e
 ·rw[e];simp
 ·omega
theorem gF{h:ad}{b i:Nat}{c:Array Value}(a:h[b]? =some (.cells c bV (0,0))):aD h (adr ⟨b,0,none⟩ i)=c[i]?:=by rw[ci,aR];exact bc a
theorem WX{h:ad}{b i:Nat}{c:Array Value}(a:h[b]? =some (.cells c bV (0,0))) (hi:i<c.size):Wr h (adr ⟨b,0,none⟩ i):=by rw[ci,aR];exact i5 a hi
theorem IU{h:ad}{b i:Nat}{c c':Array Value}{v:Value}{k:ad→Prop}(g:h[b]? =some (.cells c bV (0,0))) (e:c.setIfInBounds i v=c') (d:∀h',h'[b]? =some (.cells c' bV (0,0))→Upd (· =b) h h'→k h'):At (hset h (adr ⟨b,0,none⟩ i) v) k:=by
 rw[ci,aR];exact vS g fun h' a f=>d h' (e▸a) f
theorem Oh(s:ByteArray)(i:Nat):s[i]? =s.data.toList[i]?:=by
 rw[Array.getElem?_toList];by_cases h:i<s.size
 ·rw[getElem?_pos s i h,getElem?_pos s.data i h];rfl
 ·rw[getElem?_neg s i h,getElem?_neg s.data i h]
theorem LW{s:ByteArray}(a:s.data.toList≠[]):∃c:UInt8,s[0]? =some c∧c.toNat=hd s.data.toList:=by
 rw[Oh];match s.data.toList,a with
 |c::l,_=>exact⟨c,rfl,rfl⟩
theorem Ef{W:Nat→Prop}{h:ad}{b:Nat}{sl:ByteArray}{w:Option ByteArray}{F:Fo}(r:RxN W h b sl w F)(hc:j5 F){c:Nat}(hc8:c<256){K:Int×Bool→ad→Prop}
  (E:∀i ok,i≤F.toL.length→(∀j (y:j<F.toL.length),j<i→hd F.toL[j].1<c)→(∀j (y:j<F.toL.length),i≤j→c≤hd F.toL[j].1)→(ok=true↔∃hi:i<F.toL.length,hd F.toL[i].1=c)→K ((i:Int),ok) h):HC PG jX [.pointer (some ⟨b,0,none⟩),.int .u8 c] [.c (.int .i64),.c .bool] K h:=by
 refine Dm _ c ?_;unfold vf bW;obtain⟨val,s,ow,ks,hb,_,hs,X,hF⟩:=r;refine⟨_,rfl,s,gF (i:=3) hb,?_⟩;have S:=mY.1 hF;have e:=fc.1 hc;have hn:=AA hc;have p:=hs.len;rw[S.1]at p;generalize hLe:F.toL=L at S e hn p E;refine hT s c _ ?_;unfold dX bi cU CQ PC
 have C:∀{i:Nat} (hi:i<L.length) {K:Int→ad→Prop},K ((hd L[i].1:Int)-(c:Int)) h→∃a,s.a=some a∧∃v,aD h (adr a (i*1))=some (.pointer v)∧HV PG (.func (.func nL) #[] #[]) [.pointer v,.int .u8 c] [.c (.int .i64)] K h:=by
  intro i hi K E;obtain⟨kb,G,P,D,Q⟩:=S.at hi;obtain⟨a,ha,_,hv⟩:=hs.at0 P;refine⟨a,ha,_,hv,HV.mk' (AN (some ⟨kb,0,none⟩) c ?_)⟩;unfold sJ bL;obtain⟨Z,kss,kow,kks,R,_⟩:=Q;have J:G.data.toList≠[]:=by rw[D];exact(e.2 _ (bZ hi)).1
  obtain⟨u,hu,H⟩:=LW J;refine⟨_,rfl,G,gF (i:=0) R,u,Int.le_refl _,hu,?_⟩;simp only[Bd];have f:=Yr L[i].1;rw[H,D,kO (x:=(hd L[i].1:Int)) (by omega),kO (x:=(c:Int)) (by omega),kO (by omega)];exact E
 have mono:∀i j (hi:i<L.length) (y:j<L.length),i<j→hd L[i].1<hd L[j].1:=fun i j hi y d=>dE.1 e.1 i j hi y d
 refine LoopP.ghost (fun(g:Nat×Nat) (t:Int×Int) h'=>t.1=(g.1:Int)∧t.2=(g.2:Int)∧g.1≤g.2∧g.2≤L.length∧h'=h∧(∀j (y:j<L.length),j<g.1→hd L[j].1<c)∧(∀j (y:j<L.length),g.2≤j→c≤hd L[j].1)) (fun g=>g.2-g.1) (0,L.length)
  ⟨rfl,by simp only;omega,by simp,by simp,rfl,fun j y h=>by omega,fun j y h=>by simp only at h;omega⟩ ?_
 rintro I ⟨i,j⟩ ⟨ti,tj⟩ h' ⟨e1,e2,d,k,rfl,o,n⟩ V;simp only at e1 e2 d k o n;subst e1 e2;refine aF (fun f=>?_) fun O=>?_
 ·have f:i<j:=by have:(i:Int)<(j:Int):=f;omega
  have em:ac .i64 (Int.fdiv (ac .u64 (ac .i64 ((i:Int)+(j:Int)))) (2^(min (1:Int).toNat (ai .u64))))=(((i+j)/2:Nat):Int):=by
   have e3:(2^(min (1:Int).toNat (ai .u64)):Int)=2:=rfl;rw[e3,kO (x:=(i:Int)+(j:Int)) (by omega),Go.IntWalk.u64_in _ (by omega),Int.fdiv_eq_ediv_of_nonneg _ (by omega),kO (by omega)];omega
  refine⟨by decide,?_⟩;simp only[Bd];rw[em];generalize hm:(i+j)/2=m;have A:m<L.length:=by omega
  refine⟨by omega,?_⟩;refine C A ?_;refine aF (fun U=>?_) fun Y=>?_
  ·refine V (m+1,j) _ _ ⟨by simp only;rw[kO (by omega)];omega,rfl,by simp only;omega,k,rfl,fun q N B=>?_,n⟩ (by simp only;omega)
   simp only at B;rcases cC q m with h|h
   ·have:=mono q m N A h;omega
   ·have:q=m:=by omega
    subst this;omega
  ·refine V (i,m) _ _ ⟨rfl,rfl,by simp only;omega,by simp only;omega,rfl,o,fun q N B=>?_⟩ (by simp only;omega)
   simp only at B;rcases cC m q with h|h
   ·have:=mono m q A N h;omega
   ·have:q=m:=by omega
    subst this;omega
 ·have d:i=j:=by have:¬(i:Int)<(j:Int):=O;omega
  subst d;refine aF (fun f=>?_) fun T=>?_
  ·have z:i<L.length:=by have:(i:Int)<(s.len:Int):=f;omega
   refine⟨by simp only;omega,?_⟩;refine C z ?_;refine E i _ k o n ?_;rw[beq_iff_eq];exact⟨fun h=>⟨z,by omega⟩,fun⟨_,h⟩=>by omega⟩
  ·have z:i=L.length:=by have:¬(i:Int)<(s.len:Int):=T;omega
   exact E i false k o n ⟨fun h=>(by cases h),fun h=>(by obtain⟨h,_⟩:=h;omega)⟩
end Go.Proofs
