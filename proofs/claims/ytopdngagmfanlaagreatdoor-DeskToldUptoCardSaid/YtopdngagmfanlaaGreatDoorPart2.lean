/- A part of the proof that the named laws of this program answer true, whatever the input. -/
import Derived.Test.YtopdngagmfanlaaGreatDoorPart1
open BitVec renaming ofInt→ao
open Bool renaming eq_iff_iff→nL
open Go.IntKind renaming bits→af,wrap→ac
open Int renaming toNat_natCast→ai
open List renaming mem_singleton→aM,pairwise_singleton→eA,pairwise_cons→bS,mem_cons→aA,any_eq_true→bZ,length_cons→aG,flatMap_cons→bD,map_cons→cD,length_singleton→bw,all_cons→vg,mem_cons_self→aU,mem_cons_of_mem→bj,append_eq_nil_iff→gZ,getElem_of_mem→dq,length_take→aL,length_drop→aR,take_append_drop→cF,mem_append→bM,pairwise_append→eJ,append_nil→dd,length_set→nK,getElem_mem→bp,mem_of_getElem→mV,pairwise_iff_getElem→du,take_succ_cons→dG,drop_succ_cons→dZ,append_assoc→aH,zip_cons_cons→nV,length_append→ah,zip_eq_zipWith→mS,set_eq_take_append_cons_drop→dt,getElem?_eq_getElem→ag,drop_eq_getElem_cons→eU
open List.Pairwise renaming nil→jo
open Nat renaming lt_of_lt_of_le→aF,zero_add→aI,zero_le→be,le_trans→bH,le_refl→ax,lt_or_ge→co
open Option renaming isSome_iff_exists→gt,some→bh
open UInt8 renaming ofNat→cG,toNat_inj→rx
namespace Go.Proofs
open Go.Lift
theorem Wg(a b:Nat):(ao (af .u64) (a:Int)&&&ao (af .u64) (b:Int)).toNat=(a%18446744073709551616)&&&(b%18446744073709551616):=by
 simp[af];rfl
theorem Xj{a:Int}(d:0≤a∧a<18446744073709551616){lev:Nat}(g:lev<13){h:ad}{K:Int→ad→Prop}(c:K (((a.toNat>>>(5*lev))%32:Nat):Int) h):HC PG lN [.int .u64 a,.int .i64 lev] [.c (.int .i64)] K h:=by
 refine OD a lev ?_;unfold G3;refine Join.plain (aK (fun h=>by omega) fun _=>?_)
 rw[decide_eq_false (by omega)];refine aj.2 ?_;have f:ac .i64 (5*(lev:Int))=((5*lev:Nat):Int):=by rw[lz (by omega)];omega
 rw[f];have em:min (((5*lev:Nat):Int)).toNat (af .u64)=5*lev:=by rw[ai];exact Nat.min_eq_left (by show 5*lev≤64;omega)
 rw[em];obtain⟨n,rfl⟩:=Int.eq_ofNat_of_zero_le d.1;rw[ai]at c;simp only[Bd];rw[sL];have b:n>>>(5*lev)<18446744073709551616:=Nat.lt_of_le_of_lt (Nat.shiftRight_le _ _) (by omega);have e:=Wg (n>>>(5*lev)) 31;rw[Nat.mod_eq_of_lt b,show((31:Nat):Int)=(31:Int)from rfl,show 31%18446744073709551616=2^5-1 from rfl,Nat.and_two_pow_sub_one_eq_mod]at e
 rw[e];have hm:n>>>(5*lev)%2^5<32:=Nat.mod_lt _ (by omega);rw[Go.IntWalk.u64_in _ (by omega),lz (by omega)];exact⟨by omega,c⟩
theorem Tg{x:Hs}{k:ByteArray}{lev:Nat}(a:lev<13){h:ad}{K:Int→ad→Prop}(b:K (ck x lev k:Int) h):HC PG lN [.int .u64 (i5 x k),.int .i64 lev] [.c (.int .i64)] K h:=Xj (LZ x k) a b
abbrev Rb(x:Hs)(k:ByteArray):Value:=.agg #[.int .u64 x.k0,.int .u64 x.k1,.int .u64 x.mask,.pointer none,.string k,.int .u64 (i5 x k)]
theorem LD{x:Hs}{lev c:Nat}{l:List Pr}(h:∀p∈l,ck x lev p.1=c):part x lev c l=l:=List.filter_eq_self.2 fun p a=>decide_eq_true (h p a)
theorem O7{x:Hs}{lev c:Nat}{l:List Pr}(h:∀p∈l,ck x lev p.1≠c):part x lev c l= []:=List.filter_eq_nil_iff.2 fun p a=>by simpa using h p a
theorem LB{x:Hs}{lev c:Nat}{p:Pr}{l:List Pr}(a:eH l):part x lev c (jA p l)=if ck x lev p.1=c then jA p (part x lev c l)else part x lev c l:=by
 have:=Gd p (fun k=>decide (ck x lev k=c)) a
 unfold part;rw[this];by_cases h:ck x lev p.1=c
 ·rw[if_pos h,if_pos (decide_eq_true h)]
 ·rw[if_neg h,if_neg (by simpa using h)]
theorem OY{p q:Pr}(h:p.1≠q.1):(jA q [p]).length=2:=by
 rw[mf];by_cases a:kl p.1 q.1
 ·rw[if_pos a];rfl
 ·rw[if_neg a,if_neg h];rfl
theorem Pa{p q r:Pr}(h:r∈jA q [p]):r=p∨r=q:=(Bl h).symm.imp (fun h=>aM.1 h) id
theorem gc{β:Type}{g:Nat→Option β}{i c:Nat}{x:Option β}(h:c≠i):upd g i x c=g c:=by unfold upd;rw[if_neg h]
theorem UZ{W:Nat→Prop}{x:Hs}:∀(m:Nat) (p q:Pr),m≤13→p.1≠q.1→∀{h:ad},(∀y,W y→y<h.size)→∀{K:Option Addr→ad→Prop},(∀h' b',TrieAt W x h' m b' (jA q [p])→Upd No h h'→K (some ⟨b',0,none⟩) h')→
  HC PG lx [Rb x q.1,.agg #[.string p.1,.string p.2],.agg #[.string q.1,.string q.2],.int .i64 ((13-m:Nat):Int)] [.c .ptr] K h:=by
 intro m;induction m with
 |zero=>
  intro p q _ G h P K O;have C:∀{h'},Upd No h h'→∀y,W y→y<h'.size:=fun k y R=>aF (P y R) k.size
  refine uh (x.k0,x.k1,x.mask,none,q.1,i5 x q.1) p q ((13-0:Nat):Int) ?_;unfold pg aq oq xn A0 rc ae ak gx zX JG Ff;have k1:=Upd.hnew No h [.int .u64 x.k0,.int .u64 x.k1,.int .u64 x.mask,.pointer none,.string q.1,.int .u64 (i5 x q.1)] cE;have b1:=bG h [.int .u64 x.k0,.int .u64 x.k1,.int .u64 x.mask,.pointer none,.string q.1,.int .u64 (i5 x q.1)] cE
  refine aY ?_;simp only[cV h];generalize hnew h [.int .u64 x.k0,.int .u64 x.k1,.int .u64 x.mask,.pointer none,.string q.1,.int .u64 (i5 x q.1)] cE=h1 at k1 b1;have B:=Upd.hnew No h1 [.string p.1,.string p.2] au;have b2:=bG h1 [.string p.1,.string p.2] au;refine aY ?_;simp only[cV h1];generalize hnew h1 [.string p.1,.string p.2] au=h2 at B b2
  have z:=Upd.hnew No h2 [.string q.1,.string q.2] au;have b3:=bG h2 [.string q.1,.string q.2] au;refine aY ?_;simp only[cV h2];generalize hnew h2 [.string q.1,.string q.2] au=h3 at z b3;have d:∀{h':ad},Upd No h3 h'→∀i,aC h' (adr ⟨h.size,0,none⟩ i)=(#[.int .u64 x.k0,.int .u64 x.k1,.int .u64 x.mask,.pointer none,.string q.1,.int .u64 (i5 x q.1)]:Array Value)[i]?:=fun k i=>by
   rw[cc,aP (k.get0 (z.get0 (B.get0 b1))),aI]
  have u:∀{h':ad},Upd No h3 h'→∀i,aC h' (adr ⟨h1.size,0,none⟩ i)=(#[.string p.1,.string p.2]:Array Value)[i]?:=fun k i=>by rw[cc,aP (k.get0 (z.get0 b2)),aI]
  have o:∀{h':ad},Upd No h3 h'→∀i,aC h' (adr ⟨h2.size,0,none⟩ i)=(#[.string q.1,.string q.2]:Array Value)[i]?:=fun k i=>by rw[cc,aP (k.get0 b3),aI]
  have r:=Upd.refl No h3;refine aB.2 ⟨none,d r 3,p.1,u r 0,p.2,u r 1,none,d r 3,q.1,o r 0,q.2,o r 1,?_⟩;refine QG (C ((k1.tr B).tr z)) fun h4 b4 T b=>⟨⟨o b 0,o b 1⟩,d b 3,⟨u b 0,u b 1⟩,d b 3,?_⟩
  refine Km T (C (((k1.tr B).tr z).tr b)) jo (by simp) p fun X Z N A=>?_
  have n:=b.tr A;refine⟨⟨o n 0,o n 1⟩,d n 3,?_⟩;have e1:JS [] p= [p]:=E2 p jo;rw[e1]at N;refine Km N (C (((k1.tr B).tr z).tr n)) (eA ..) (by simp) q fun V L J w=>?_
  rw[E2 q (eA ..)]at J;exact O V L J ((((k1.tr B).tr z).tr n).tr w)
 |succ m ih=>
  intro p q hm G h P K O;have C:∀{h'},Upd No h h'→∀y,W y→y<h'.size:=fun k y R=>aF (P y R) k.size
  have Y:13-(m+1)<13:=by omega
  have g:13-(m+1)=12-m:=by omega
  refine uh (x.k0,x.k1,x.mask,none,q.1,i5 x q.1) p q ((13-(m+1):Nat):Int) ?_;unfold pg aq oq xn A0 rc ae ak gx zX JG Ff;have k1:=Upd.hnew No h [.int .u64 x.k0,.int .u64 x.k1,.int .u64 x.mask,.pointer none,.string q.1,.int .u64 (i5 x q.1)] cE;have b1:=bG h [.int .u64 x.k0,.int .u64 x.k1,.int .u64 x.mask,.pointer none,.string q.1,.int .u64 (i5 x q.1)] cE
  refine aY ?_;simp only[cV h];generalize hnew h [.int .u64 x.k0,.int .u64 x.k1,.int .u64 x.mask,.pointer none,.string q.1,.int .u64 (i5 x q.1)] cE=h1 at k1 b1;have B:=Upd.hnew No h1 [.string p.1,.string p.2] au;have b2:=bG h1 [.string p.1,.string p.2] au;refine aY ?_;simp only[cV h1];generalize hnew h1 [.string p.1,.string p.2] au=h2 at B b2
  have z:=Upd.hnew No h2 [.string q.1,.string q.2] au;have b3:=bG h2 [.string q.1,.string q.2] au;refine aY ?_;simp only[cV h2];generalize hnew h2 [.string q.1,.string q.2] au=h3 at z b3;have d:∀{h':ad},Upd No h3 h'→∀i,aC h' (adr ⟨h.size,0,none⟩ i)=(#[.int .u64 x.k0,.int .u64 x.k1,.int .u64 x.mask,.pointer none,.string q.1,.int .u64 (i5 x q.1)]:Array Value)[i]?:=fun k i=>by
   rw[cc,aP (k.get0 (z.get0 (B.get0 b1))),aI]
  have u:∀{h':ad},Upd No h3 h'→∀i,aC h' (adr ⟨h1.size,0,none⟩ i)=(#[.string p.1,.string p.2]:Array Value)[i]?:=fun k i=>by rw[cc,aP (k.get0 (z.get0 b2)),aI]
  have o:∀{h':ad},Upd No h3 h'→∀i,aC h' (adr ⟨h2.size,0,none⟩ i)=(#[.string q.1,.string q.2]:Array Value)[i]?:=fun k i=>by rw[cc,aP (k.get0 b3),aI]
  have r:=Upd.refl No h3;have ne:(((13-(m+1):Nat):Int)==(13:Int))=false:=by rw[beq_eq_false_iff_ne];omega
  rw[ne];refine aj.2 ⟨_,d r 0,_,d r 1,_,d r 2,_,u r 0,_,d r 5,?_⟩;refine Bw fun h4 b=>⟨d b 5,Tg Y ⟨d b 5,Tg Y ?_⟩⟩
  have hi:=Gy x (13-(m+1)) p.1;have hj:=Gy x (13-(m+1)) q.1;have j:=((k1.tr B).tr z);have hcl:=OY G;refine CondP.intro (fun e=>?_) fun e=>?_
  ·have e:ck x (13-(m+1)) p.1=ck x (13-(m+1)) q.1:=by have:=eq_of_beq e;omega
   refine⟨_,d b 3,_,d b 0,_,d b 1,_,d b 2,_,d b 3,_,d b 4,_,d b 5,_,u b 0,_,u b 1,_,o b 0,_,o b 1,?_⟩;refine rW (C (j.tr b)) fun X Z F A=>?_
   have a:=b.tr A;refine⟨⟨o a 0,o a 1⟩,⟨u a 0,u a 1⟩,⟨d a 0,d a 1,d a 2,d a 3,d a 4,d a 5⟩,d a 3,?_⟩;have ew:ac .i64 (((13-(m+1):Nat):Int)+1)=((13-m:Nat):Int):=by rw[lz (by omega)];omega
   rw[ew];refine ih p q (by omega) G (C (j.tr a)) fun V L t6 w=>?_
   have f:=a.tr w;refine⟨d f 3,?_⟩;refine yB (F.upd w fun _ h=>h.elim) (C (j.tr f)) hi (fun y h=>by cases h) ⟨L,0,none⟩ fun U S H E=>?_
   refine O U S ⟨_,H,fun c hc=>?_⟩ ((j.tr f).tr E)
   rw[g]at e;by_cases t:c=ck x (13-(m+1)) p.1
   ·refine .inr (.inr ?_)
    have ea:part x (12-m) c (jA q [p])=jA q [p]:=LD fun r I=>by
     rcases Pa I with rfl|rfl
     ·rw[t,g]
     ·rw[t,g,e]
    rw[ea];exact⟨by omega,by simp[upd],L,by rw[t];exact gu,TrieAt.upd0 E t6⟩
   ·refine .inl ⟨O7 fun r I=>?_,by simp[upd],gc t⟩
    rw[g]at t;rcases Pa I with rfl|rfl
    ·exact fun e=>t e.symm
    ·rw[←e];exact fun e=>t e.symm
  ·have e:ck x (13-(m+1)) p.1≠ck x (13-(m+1)) q.1:=fun h=>by rw[h]at e;simp at e
   refine⟨_,d b 3,_,u b 0,_,u b 1,_,d b 3,_,o b 0,_,o b 1,?_⟩;refine rW (C (j.tr b)) fun X Z F A=>?_
   have a:=b.tr A;refine⟨⟨o a 0,o a 1⟩,d a 3,⟨u a 0,u a 1⟩,d a 3,?_⟩;refine sB F (C (j.tr a)) hi (fun y h=>by cases h) p fun V L Q w=>?_
   have f:=a.tr w;refine⟨⟨o f 0,o f 1⟩,d f 3,?_⟩;refine sB Q (C (j.tr f)) hj (fun y h=>by simp[upd]) q fun U S H E=>?_
   refine O U S ⟨_,H,fun c hc=>?_⟩ ((j.tr f).tr E)
   have s:=LB (x:=x) (lev:=12-m) (c:=c) (p:=q) (l:= [p]) (eA ..);rw[g]at e;by_cases D:c=ck x (12-m) p.1
   ·have v:ck x (12-m) q.1≠c:=fun h=>e (by omega)
    have e1:part x (12-m) c [p]= [p]:=LD fun r I=>by rw[aM.1 I,D]
    rw[if_neg v,e1]at s;exact .inr (.inl ⟨p,s,by simp[upd,g,D,e],by simp[upd]⟩)
   ·have e1:part x (12-m) c [p]= []:=O7 fun r I=>by rw[aM.1 I];exact fun h=>D h.symm
    rw[e1]at s;by_cases v:c=ck x (12-m) q.1
    ·rw[if_pos v.symm]at s
     exact .inr (.inl ⟨q,s,by simp[upd,g,v],by simp[upd]⟩)
    ·rw[if_neg fun h=>v h.symm]at s
     exact .inl ⟨s,by simp[upd,g,v,D],by simp[upd]⟩
end Go.Proofs
namespace Go.Proofs
open Go.Lift
noncomputable instance memDec (p:Pr) (l:List Pr):Decidable (p∈l):=Classical.propDecidable _
theorem Nj{l:List Pr}(b:eH l){k v w:ByteArray}(a:(k,v)∈l)(c:(k,w)∈l):v=w:=by
 induction l with
 |nil=>cases a
 |cons q l ih=>
  have b:=bS.1 b;rcases aA.1 a with e1|a<;>rcases aA.1 c with e2|c
  ·exact(Prod.mk.inj (e1.trans e2.symm)).2
  ·have:=b.1 _ c;rw[←e1]at this;exact absurd this (eN _)
  ·have:=b.1 _ a;rw[←e2]at this;exact absurd this (eN _)
  ·exact ih b.2 a c
theorem sG{x:Hs}{lev c:Nat}{l:List Pr}{p:Pr}:p∈part x lev c l↔p∈l∧ck x lev p.1=c:=by unfold part;rw[List.mem_filter,decide_eq_true_iff]
theorem Fl{x:Hs}{lev:Nat}{l:List Pr}{k:ByteArray}:cu (part x lev (ck x lev k) l) k=cu l k:=by
 unfold cu;rw[nL,bZ,bZ];constructor
 ·rintro⟨p,a,e⟩;exact⟨p,(sG.1 a).1,e⟩
 ·rintro⟨p,a,e⟩;exact⟨p,sG.2 ⟨a,by rw[of_decide_eq_true e]⟩,e⟩
theorem Aj{x:Hs}{lev c:Nat}{l:List Pr}(a:eH l):eH (part x lev c l):=a.sublist List.filter_sublist
theorem xy{x:Hs}{lev c:Nat}{l:List Pr}:(part x lev c l).length≤l.length:=List.length_filter_le ..
def SlotIs(W:Nat→Prop)(x:Hs)(h:ad)(m:Nat)(s:Slots)(c:Nat)(l:List Pr):Prop:=
 (l= []∧s.p c=none∧s.k c=none)∨(∃p,l= [p]∧s.p c=some p∧s.k c=none)∨(2≤l.length∧s.p c=none∧∃kb,s.k c=some (some ⟨kb,0,none⟩)∧TrieAt W x h m kb l)
theorem SlotIs.upd0{W:Nat→Prop}{x:Hs}{h h':ad}{m:Nat}{s:Slots}{c:Nat}{l:List Pr}(k:Upd No h h')(t:SlotIs W x h m s c l):SlotIs W x h' m s c l:=t.imp id fun o=>o.imp id fun⟨a,f,e,b,d⟩=>⟨a,f,e,b,TrieAt.upd0 k d⟩
theorem LW(p:Pr):∀{l:List Pr},l.length≤(jA p l).length
 | []=>be _
 |q::l=>by
  rw[mf];split
  ·have:=LW p (l:=l);simp only[aG];omega
  ·split<;>simp
theorem PD{W:Nat→Prop}{x:Hs}{h h':ad}{m b':Nat}{s s':Slots}{l:List Pr}{p:Pr}(d:eH l)(f:Upd No h h')(nd:NodeAt W h' b' s')(b:∀c,c<32→SlotIs W x h m s c (part x (12-m) c l))
  (a:∀c,c≠ck x (12-m) p.1→s'.p c=s.p c∧s'.k c=s.k c)(hi:SlotIs W x h' m s' (ck x (12-m) p.1) (jA p (part x (12-m) (ck x (12-m) p.1) l))):TrieAt W x h' (m+1) b' (jA p l):=by
 refine⟨s',nd,fun c hc=>?_⟩
 rw[LB d];by_cases e:ck x (12-m) p.1=c
 ·rw[if_pos e];subst e;exact hi
 ·rw[if_neg e]
  have t:=SlotIs.upd0 f (b c hc);obtain⟨e1,e2⟩:=a c fun h=>e h.symm
  unfold SlotIs at t;rw[←e1,←e2]at t;exact t
theorem eG{a b:ByteArray}:(a.toList==b.toList)=decide (a=b):=by
 rw[nL,beq_iff_eq,decide_eq_true_iff,Db]
theorem VN{W:Nat→Prop}{x:Hs}:∀(m:Nat),m≤13→∀{b:Nat} {l:List Pr} (p:Pr) {h:ad},TrieAt W x h m b l→(∀y,W y→y<h.size)→eH l→l.length≤1000000→∀{K:(Option Addr)×Bool×Bool→ad→Prop},
  (∀h' b' ch,Upd No h h'→TrieAt W x h' m b' (jA p l)→(ch=false→b'=b)→ch= !decide (p∈l)→K (some ⟨b',0,none⟩, !cu l p.1,ch) h')→
  HC PG ic [Rb x p.1,.pointer (some ⟨b,0,none⟩),.agg #[.string p.1,.string p.2],.int .i64 ((13-m:Nat):Int)] [.c .ptr,.c .bool,.c .bool] K h:=by
 intro m;induction m with
 |zero=>
  intro _ b l p h t hW S hn K G;have V:∀{h'},Upd No h h'→∀y,W y→y<h'.size:=fun k y hy=>aF (hW y hy) k.size
  refine vB (x.k0,x.k1,x.mask,none,p.1,i5 x p.1) (some ⟨b,0,none⟩) p ((13-0:Nat):Int) ?_;unfold pX aq nv rV oq iL xn A0 ae ak zX oo JG Ff;have k1:=Upd.hnew No h [.int .u64 x.k0,.int .u64 x.k1,.int .u64 x.mask,.pointer none,.string p.1,.int .u64 (i5 x p.1)] cE;have b1:=bG h [.int .u64 x.k0,.int .u64 x.k1,.int .u64 x.mask,.pointer none,.string p.1,.int .u64 (i5 x p.1)] cE
  refine aY ?_;simp only[cV h];generalize hnew h [.int .u64 x.k0,.int .u64 x.k1,.int .u64 x.mask,.pointer none,.string p.1,.int .u64 (i5 x p.1)] cE=A at k1 b1;have Y:=Upd.hnew No A [.string p.1,.string p.2] au;have b2:=bG A [.string p.1,.string p.2] au;refine aY ?_;simp only[cV A];generalize hnew A [.string p.1,.string p.2] au=d at Y b2
  have u:∀{h':ad},Upd No d h'→∀i,aC h' (adr ⟨h.size,0,none⟩ i)=(#[.int .u64 x.k0,.int .u64 x.k1,.int .u64 x.mask,.pointer none,.string p.1,.int .u64 (i5 x p.1)]:Array Value)[i]?:=fun k i=>by
   rw[cc,aP (k.get0 (Y.get0 b1)),aI]
  have D:∀{h':ad},Upd No d h'→∀i,aC h' (adr ⟨A.size,0,none⟩ i)=(#[.string p.1,.string p.2]:Array Value)[i]?:=fun k i=>by rw[cc,aP (k.get0 b2),aI]
  have r:=Upd.refl No d;have f:=k1.tr Y;have bk:BuckAt W d b l:=BuckAt.upd t f fun _ h=>h.elim
  obtain⟨sp,sk,ow,hb,_⟩:=bk.ex;refine j3 hb (aB.2 ⟨_,D r 0,Vh bk S (by omega) p.1 fun J v I hv=>?_⟩)
  have put:∀(U:p∉l) {h4:ad},Upd No d h4→HC PG iT [.pointer (some ⟨b,0,none⟩),.pointer none,.agg #[.string p.1,.string p.2]] [.c .ptr] (fun(e15:Option Addr) h16=>K (e15, !cu l p.1,true) h16) h4:=fun U h4 o=>
   Km (bk.upd o fun _ h=>h.elim) (V (f.tr o)) S (by omega) p fun h5 b5 bk5 X=>by
    rw[E2 p S]at bk5;exact G h5 b5 true ((f.tr o).tr X) bk5 (fun h=>by cases h) (by rw[decide_eq_false U];rfl)
  refine Join.intro (fun t' h'=>t'=decide (p∈l)∧Upd No d h') (fun R hR=>?_) ?_
  ·cases F:cu l p.1 with
   |false=>
    refine aj.2 (hR _ _ ⟨?_,I⟩);refine(decide_eq_false fun hm=>?_).symm
    have:cu l p.1=true:=bZ.2 ⟨p,hm,decide_eq_true rfl⟩;rw[F]at this;cases this
   |true=>
    have hv:=hv F;refine aB.2 ⟨_,D I 1,hR _ _ ⟨?_,I⟩⟩;rw[eG,decide_eq_decide];constructor
    ·intro e
     have e:v=p.2:=e;rw[e]at hv;exact hv
    ·intro hm
     exact Nj S hv (show(p.1,p.2)∈l from hm)
  ·rintro t' h4 ⟨rfl,o⟩
   by_cases hm:p∈l
   ·rw[decide_eq_true hm]
    refine aB.2 ?_;have F:cu l p.1=true:=bZ.2 ⟨p,hm,decide_eq_true rfl⟩;have:=G h4 b false (f.tr o) (by rw[E1 S hm];exact bk.upd o fun _ h=>h.elim) (fun _=>rfl) (by rw[decide_eq_true hm];rfl)
    rw[F]at this;exact this
   ·rw[decide_eq_false hm]
    refine aj.2 ⟨none,u o 3,_,D o 0,_,D o 1,put hm o⟩
 |succ m ih=>
  intro hm b l p h t hW S hn K G;have V:∀{h'},Upd No h h'→∀y,W y→y<h'.size:=fun k y hy=>aF (hW y hy) k.size
  have hl:13-(m+1)<13:=by omega
  have hlev:13-(m+1)=12-m:=by omega
  refine vB (x.k0,x.k1,x.mask,none,p.1,i5 x p.1) (some ⟨b,0,none⟩) p ((13-(m+1):Nat):Int) ?_;unfold pX aq nv rV oq iL xn A0 ae ak zX oo JG Ff;have k1:=Upd.hnew No h [.int .u64 x.k0,.int .u64 x.k1,.int .u64 x.mask,.pointer none,.string p.1,.int .u64 (i5 x p.1)] cE;have b1:=bG h [.int .u64 x.k0,.int .u64 x.k1,.int .u64 x.mask,.pointer none,.string p.1,.int .u64 (i5 x p.1)] cE
  refine aY ?_;simp only[cV h];generalize hnew h [.int .u64 x.k0,.int .u64 x.k1,.int .u64 x.mask,.pointer none,.string p.1,.int .u64 (i5 x p.1)] cE=A at k1 b1;have Y:=Upd.hnew No A [.string p.1,.string p.2] au;have b2:=bG A [.string p.1,.string p.2] au;refine aY ?_;simp only[cV A];generalize hnew A [.string p.1,.string p.2] au=d at Y b2
  have u:∀{h':ad},Upd No d h'→∀i,aC h' (adr ⟨h.size,0,none⟩ i)=(#[.int .u64 x.k0,.int .u64 x.k1,.int .u64 x.mask,.pointer none,.string p.1,.int .u64 (i5 x p.1)]:Array Value)[i]?:=fun k i=>by
   rw[cc,aP (k.get0 (Y.get0 b1)),aI]
  have D:∀{h':ad},Upd No d h'→∀i,aC h' (adr ⟨A.size,0,none⟩ i)=(#[.string p.1,.string p.2]:Array Value)[i]?:=fun k i=>by rw[cc,aP (k.get0 b2),aI]
  have r:=Upd.refl No d;have f:=k1.tr Y;obtain⟨s,Z,hs0⟩:=TrieAt.upd0 f t;have hs:∀c,c<32→SlotIs W x d m s c (part x (12-m) c l):=hs0;have tt:∀{h':ad},Upd No d h'→TrieAt W x h' (m+1) b l:=fun k=>TrieAt.upd0 (f.tr k) t
  obtain⟨d0,n0,sp0,sk0,ow0,hb0,_⟩:=Z.ex;refine j3 hb0 (aj.2 ⟨_,u r 5,Tg hl ?_⟩);rw[hlev];have hi:=Gy x (12-m) p.1;have P:=hs _ hi;have hrp:=Aj (x:=x) (lev:=12-m) (c:=ck x (12-m) p.1) S;have hnp:(part x (12-m) (ck x (12-m) p.1) l).length≤1000000:=bH xy hn;have Q:p∈part x (12-m) (ck x (12-m) p.1) l↔p∈l:=by rw[sG];exact⟨fun h=>h.1,fun h=>⟨h,rfl⟩⟩
  have O:=Fl (x:=x) (lev:=12-m) (l:=l) (k:=p.1);have j:=fun{h':ad} {b':Nat} {s':Slots}=>PD (W:=W) (x:=x) (h:=d) (h':=h') (m:=m) (b':=b') (s:=s) (s':=s') (l:=l) (p:=p) S
  generalize hc:ck x (12-m) p.1=c at hi P hrp hnp Q O j;generalize hlp:part x (12-m) c l=lc at P hrp hnp Q O j;refine FQ Z hi fun J I=>?_
  have k4:=Upd.hnew No J [.string (⟨#[]⟩:ByteArray),.string (⟨#[]⟩:ByteArray)] au;have b4:=bG J [.string (⟨#[]⟩:ByteArray),.string (⟨#[]⟩:ByteArray)] au;refine aY ?_;simp only[cV J];generalize hnew J [.string (⟨#[]⟩:ByteArray),.string (⟨#[]⟩:ByteArray)] au=h4 at k4 b4;have b4':h4[J.size]? =some (.cells #[.string OO.1,.string OO.2] au (0,0)):=b4
  refine FJ (p:=SK (s.p c)) b4' fun h5 b5 X=>?_
  have a:Upd No d h5:=(I.tr k4).trans X fun y hy=>.inr (by have hy:y=J.size:=hy;have:=I.size;omega)
  have w5:∀{h':ad},Upd No h5 h'→∀i,aC h' (adr ⟨J.size,0,none⟩ i)=(#[.string (SK (s.p c)).1,.string (SK (s.p c)).2]:Array Value)[i]?:=fun k i=>by rw[cc,aP (k.get0 b5),aI]
  have r5:=Upd.refl No h5;have N:=Z.upd a fun _ h=>h.elim
  cases hsp:s.p c with
  |some y=>
   rw[hsp]at w5;obtain⟨B,hk0⟩:lc= [y]∧s.k c=none:=by
    rcases P with⟨_,d,_⟩|⟨q,A,d,J⟩|⟨_,d,_⟩
    ·rw[hsp]at d;cases d
    ·rw[hsp]at d;cases d;exact⟨A,J⟩
    ·rw[hsp]at d;cases d
   refine aB.2 ⟨y.1,w5 r5 0,y.2,w5 r5 1,p.1,D a 0,p.2,D a 1,?_⟩;rw[eG,eG];have hyl:y∈l:=(sG.1 (show y∈part x (12-m) c l by rw[hlp,B];exact aM.2 rfl)).1
   by_cases e1:y.1=p.1
   ·have F:cu l p.1=true:=bZ.2 ⟨y,hyl,decide_eq_true e1⟩
    rw[F]at G;by_cases e2:y.2=p.2
    ·rw[decide_eq_true e1,decide_eq_true e2]
     have hyp:y=p:=Prod.ext e1 e2;have w:p∈l:=hyp▸hyl;refine aB.2 ?_;exact G h5 b false (f.tr a) (by rw[E1 S w];exact tt a) (fun _=>rfl) (by rw[decide_eq_true w];rfl)
    ·rw[decide_eq_true e1,decide_eq_false e2]
     refine aj.2 ⟨y.1,w5 r5 0,p.1,D a 0,?_⟩;rw[eG,decide_eq_true e1];refine aB.2 ⟨none,u a 3,p.1,D a 0,p.2,D a 1,?_⟩;refine sB N (V (f.tr a)) hi (fun _ _=>hk0) p fun h6 T nd6 g=>?_
     have L:p∉l:=fun hm=>by
      have:=Q.2 hm;rw[B]at this;exact e2 (by rw[aM.1 this])
     refine G h6 T true ((f.tr a).tr g) (j (a.tr g) nd6 hs (fun c' n=>⟨gc n,gc n⟩) ?_) (fun h=>by cases h) (by rw[decide_eq_false L];rfl)
     refine .inr (.inl ⟨p,?_,gu,gu⟩);rw[B,mf,if_neg (by rw[e1];exact eN _),if_pos e1]
   ·rw[decide_eq_false e1]
    refine aj.2 ⟨y.1,w5 r5 0,p.1,D a 0,?_⟩;rw[eG,decide_eq_false e1];refine aj.2 ⟨none,u a 3,_,u a 0,_,u a 1,_,u a 2,_,u a 3,_,u a 4,_,u a 5,y.1,w5 r5 0,y.2,w5 r5 1,p.1,D a 0,p.2,D a 1,?_⟩;have ew:ac .i64 (((12-m:Nat):Int)+1)=((13-m:Nat):Int):=by rw[lz (by omega)];omega
    rw[ew];refine UZ m y p (by omega) e1 (V (f.tr a)) fun h6 T t6 g=>⟨u (a.tr g) 3,?_⟩
    refine yB (N.upd g fun _ h=>h.elim) (V ((f.tr a).tr g)) hi (fun z hz=>by rw[hk0]at hz;cases hz) ⟨T,0,none⟩ fun h7 b7 nd7 E=>?_
    have F:cu l p.1=false:=by
     rw[←O,B];unfold cu;rw[List.any_cons,decide_eq_false e1];rfl
    have L:p∉l:=fun hm=>by
     have:cu l p.1=true:=bZ.2 ⟨p,hm,decide_eq_true rfl⟩;rw[F]at this;cases this
    rw[F]at G;refine G h7 b7 true (((f.tr a).tr g).tr E) (j ((a.tr g).tr E) nd7 hs (fun c' n=>⟨gc n,gc n⟩) ?_) (fun h=>by cases h) (by rw[decide_eq_false L];rfl)
    rw[B];exact .inr (.inr ⟨by rw[OY e1];omega,gu,T,gu,TrieAt.upd0 E t6⟩)
  |none=>
   refine aj.2 (EX N hi ?_);cases hsk:s.k c with
   |none=>
    have hlc:lc= []:=by
     rcases P with⟨A,_⟩|⟨q,_,d,_⟩|⟨_,_,kb,d,_⟩
     ·exact A
     ·rw[hsp]at d;cases d
     ·rw[hsk]at d;cases d
    refine aB.2 ⟨none,u a 3,p.1,D a 0,p.2,D a 1,?_⟩;refine sB N (V (f.tr a)) hi (fun _ _=>hsk) p fun h6 T nd6 g=>?_
    have F:cu l p.1=false:=by rw[←O,hlc];rfl
    have L:p∉l:=fun hm=>by
     have:cu l p.1=true:=bZ.2 ⟨p,hm,decide_eq_true rfl⟩;rw[F]at this;cases this
    rw[F]at G;refine G h6 T true ((f.tr a).tr g) (j (a.tr g) nd6 hs (fun c' n=>⟨gc n,gc n⟩) ?_) (fun h=>by cases h) (by rw[decide_eq_false L];rfl)
    rw[hlc];exact .inr (.inl ⟨p,rfl,gu,gu⟩)
   |some kp=>
    obtain⟨h2l,kb,rfl,tk⟩:2≤lc.length∧∃kb,kp=some ⟨kb,0,none⟩∧TrieAt W x d m kb lc:=by
     rcases P with⟨_,_,d⟩|⟨q,_,d,_⟩|⟨A,_,kb,d,J⟩
     ·rw[hsk]at d;cases d
     ·rw[hsp]at d;cases d
     ·rw[hsk]at d;cases d;exact⟨A,kb,rfl,J⟩
    refine aj.2 ⟨_,u a 0,_,u a 1,_,u a 2,_,u a 3,_,u a 4,_,u a 5,p.1,D a 0,p.2,D a 1,?_⟩;have ew:ac .i64 (((12-m:Nat):Int)+1)=((13-m:Nat):Int):=by rw[lz (by omega)];omega
    rw[ew];refine ih (by omega) p (TrieAt.upd0 a tk) (V (f.tr a)) hrp hnp fun h6 T ch g t6 hsame H=>?_
    have C:=a.tr g;by_cases w:p∈l
    ·have H:ch=false:=by rw[H,decide_eq_true (Q.2 w)];rfl
     have F:cu l p.1=true:=bZ.2 ⟨p,w,decide_eq_true rfl⟩;rw[F]at G;rw[H];refine aB.2 ?_;exact G h6 b false (f.tr C) (by rw[E1 S w];exact tt C) (fun _=>rfl) (by rw[decide_eq_true w];rfl)
    ·have H:ch=true:=by rw[H,decide_eq_false fun h=>w (Q.1 h)];rfl
     rw[H];refine aj.2 ⟨none,u C 3,?_⟩;refine yB (N.upd g fun _ h=>h.elim) (V ((f.tr a).tr g)) hi (fun _ _=>hsp) ⟨T,0,none⟩ fun h7 b7 nd7 E=>?_
     rw[O];refine G h7 b7 true ((f.tr C).tr E) (j (C.tr E) nd7 hs (fun c' n=>⟨gc n,gc n⟩) ?_) (fun h=>by cases h) (by rw[decide_eq_false w];rfl)
     exact .inr (.inr ⟨bH h2l (LW p),gu,T,gu,TrieAt.upd0 E t6⟩)
end Go.Proofs
namespace Go.Proofs
open Go.Lift
theorem K8{W:Nat→Prop}{x:Hs}{h:ad}{m b:Nat}(nd:NodeAt W h b ⟨fun _=>none,fun _=>none⟩):TrieAt W x h (m+1) b []:=⟨_,nd,fun _ _=>.inl ⟨rfl,rfl,rfl⟩⟩
def RootAt(W:Nat→Prop)(x:Hs)(h:ad)(r:Option Addr)(l:List Pr):Prop:=(r=none∧l= [])∨∃b,r=some ⟨b,0,none⟩∧TrieAt W x h 13 b l
theorem RootAt.upd0{W:Nat→Prop}{x:Hs}{h h':ad}{r:Option Addr}{l:List Pr}(k:Upd No h h')(t:RootAt W x h r l):RootAt W x h' r l:=t.imp id fun⟨b,e,t⟩=>⟨b,e,TrieAt.upd0 k t⟩
theorem Jp{W:Nat→Prop}{x:Hs}{h:ad}{r:Option Addr}{l:List Pr}(t:RootAt W x h r l)(c:∀y,W y→y<h.size){K:Option Addr→ad→Prop}(a:∀h' b,TrieAt W x h' 13 b l→Upd No h h'→(r=some ⟨b,0,none⟩∨r=none)→K (some ⟨b,0,none⟩) h'):HC PG kB [.pointer r] [.c .ptr] K h:=by
 refine KJ r ?_;unfold Cw;rcases t with⟨rfl,rfl⟩|⟨b,rfl,t⟩
 ·refine aB.2 (zG ?_)
  unfold ve;exact rW c fun h' b nd d=>a h' b (K8 nd) d (.inr rfl)
 ·exact aj.2 (a h b t (Upd.refl _ _) (.inl rfl))
theorem cY{h:ad}{b:Nat}{t:TypeId}{c vs:List Value}(a:h[b]? =some (.cells c.toArray t (0,0))) (f:vs.length=c.length) {k:ad→Prop}
  (d:∀h',h'[b]? =some (.cells vs.toArray t (0,0))→Upd (· =b) h h'→k h'):td h (some ⟨b,0,none⟩) 0 vs∧At (gP h ⟨b,0,none⟩ 0 vs) k:=by
 have e:=iS vs h 0 0 c a (by omega);refine⟨.inr ⟨_,rfl,fun j g=>by rw[cc];exact ij a (by rw[List.size_toArray];omega)⟩,aY ?_⟩
 rw[e];refine d _ ?_ (Upd.set h _ rfl);rw[iB a];congr 3
 simp[f]
set_option maxRecDepth 4000 in
theorem Mg{W:Nat→Prop}{x:Hs}{h:ad}{r:Option Addr}{l:List Pr}(t:RootAt W x h r l)(R:∀y,W y→y<h.size)(V:eH l)(T:l.length≤1000000)(p:Pr){K:Option Addr×Bool→ad→Prop}
  (Z:∀h' b',Upd No h h'→TrieAt W x h' 13 b' (jA p l)→(p∈l→r=some ⟨b',0,none⟩∨r=none)→K (some ⟨b',0,none⟩, !cu l p.1) h'):
  HC PG xV [.agg #[.int .u64 x.k0,.int .u64 x.k1,.int .u64 x.mask],.pointer none,.pointer r,.agg #[.string p.1,.string p.2]] [.c .ptr,.c .bool] K h:=by
 refine ME (x.k0,x.k1,x.mask) none r p ?_;unfold Eh aq fe xn A0 rc ae yV ak Vo Vu zX;have k1:=Upd.hnew No h [.int .u64 x.k0,.int .u64 x.k1,.int .u64 x.mask] eg;have b1:=bG h [.int .u64 x.k0,.int .u64 x.k1,.int .u64 x.mask] eg;refine aY ?_;simp only[cV h];generalize hnew h [.int .u64 x.k0,.int .u64 x.k1,.int .u64 x.mask] eg=h1 at k1 b1
 have I:=Upd.hnew No h1 [.string p.1,.string p.2] au;have b2:=bG h1 [.string p.1,.string p.2] au;refine aY ?_;simp only[cV h1];generalize hnew h1 [.string p.1,.string p.2] au=h2 at I b2;have e:∀{h':ad},Upd No h2 h'→∀i,aC h' (adr ⟨h.size,0,none⟩ i)=(#[.int .u64 x.k0,.int .u64 x.k1,.int .u64 x.mask]:Array Value)[i]?:=fun k i=>by
  rw[cc,aP (k.get0 (I.get0 b1)),aI]
 have n:∀{h':ad},Upd No h2 h'→∀i,aC h' (adr ⟨h1.size,0,none⟩ i)=(#[.string p.1,.string p.2]:Array Value)[i]?:=fun k i=>by rw[cc,aP (k.get0 b2),aI]
 have s:=Upd.refl No h2;have q:=k1.tr I;let C:List Value:= [.int .u64 0,.int .u64 0,.int .u64 0,.pointer none,.string (⟨#[]⟩:ByteArray),.int .u64 0]
 let D:List Value:= [.int .u64 x.k0,.int .u64 x.k1,.int .u64 x.mask,.pointer none,.string p.1,.int .u64 (i5 x p.1)]
 have z:∀{g:ad} {b:Nat},Upd No h2 g→g[b]? =some (.cells D.toArray cE (0,0))→
   ∃v15:Int,aC g (adr ⟨b,0,none⟩ 0)=some (.int .u64 v15)∧
    ∃v16:Int,aC g (adr ⟨b,0,none⟩ 1)=some (.int .u64 v16)∧
    ∃v17:Int,aC g (adr ⟨b,0,none⟩ 2)=some (.int .u64 v17)∧
    ∃v18:Option Addr,aC g (adr ⟨b,0,none⟩ 3)=some (.pointer v18)∧
    ∃v19:ByteArray,aC g (adr ⟨b,0,none⟩ 4)=some (.string v19)∧
    ∃v20:Int,aC g (adr ⟨b,0,none⟩ 5)=some (.int .u64 v20)∧
    ∃v21:ByteArray,aC g (adr ⟨h1.size,0,none⟩ 0)=some (.string v21)∧
    ∃v22:ByteArray,aC g (adr ⟨h1.size,0,none⟩ 1)=some (.string v22)∧
    HC PG kB [.pointer r] [.c .ptr] (fun(H:Option Addr) f=>
     ((aC f (adr ⟨h1.size,0,none⟩ 0)=some (.string v21)∧aC f (adr ⟨h1.size,0,none⟩ 1)=some (.string v22))∧
      ((aC f (adr ⟨b,0,none⟩ 0)=some (.int .u64 v15)∧aC f (adr ⟨b,0,none⟩ 1)=some (.int .u64 v16)∧aC f (adr ⟨b,0,none⟩ 2)=some (.int .u64 v17)∧aC f (adr ⟨b,0,none⟩ 3)=some (.pointer v18)∧aC f (adr ⟨b,0,none⟩ 4)=some (.string v19)∧aC f (adr ⟨b,0,none⟩ 5)=some (.int .u64 v20))∧
       HC PG ic [.agg #[.int .u64 v15,.int .u64 v16,.int .u64 v17,.pointer v18,.string v19,.int .u64 v20],.pointer H,.agg #[.string v21,.string v22],.int .i64 0] [.c .ptr,.c .bool,.c .bool] (fun(B:(Option Addr)×Bool×Bool) F=>
        K (B.1,B.2.1) F) f))) g:=fun{g b} d O=>by
  have m:∀{h':ad},Upd No g h'→∀i,aC h' (adr ⟨b,0,none⟩ i)=D.toArray[i]?:=fun k i=>by rw[cc,aP (k.get0 O),aI]
  have w:=Upd.refl No g;refine⟨_,m w 0,_,m w 1,_,m w 2,_,m w 3,_,m w 4,_,m w 5,p.1,n d 0,p.2,n d 1,?_⟩;refine Jp (t.upd0 (q.tr d)) (fun y A=>aF (R y A) (q.tr d).size) fun Q P t5 c G=>?_
  have a:=d.tr c;refine⟨⟨n a 0,n a 1⟩,⟨m c 0,m c 1,m c 2,m c 3,m c 4,m c 5⟩,?_⟩;refine VN 13 (ax _) p t5 (fun y A=>aF (R y A) ((q.tr d).tr c).size) V T fun S E ch u Y X J=>?_
  refine Z S E ((q.tr a).tr u) Y fun hm=>?_
  have L:E=P:=X (by rw[J,decide_eq_true hm];rfl);rw[L];exact G
 have own:∀{v g:ad} {b:Nat},h2.size≤b→Upd (· =b) v g→Upd No h2 v→Upd No h2 g:=fun L U k=>k.trans U fun y A=>.inr (A▸L)
 refine⟨_,e s 0,_,e s 1,_,e s 2,_,n s 0,_,e s 0,_,e s 1,_,e s 2,_,n s 0,?_,?_⟩
 ·refine Bw fun v j=>⟨n j 0,⟨e j 0,e j 1,e j 2⟩,?_⟩
  have o:=Upd.hnew No v C cE;have N:=bG v C cE;have d:=j.tr o;refine aY ?_;simp only[cV v];refine⟨n d 0,⟨e d 0,e d 1,e d 2⟩,?_⟩;refine cY (vs:=D) N rfl fun Q P c=>z (own j.size c d) P
 ·have o:=Upd.hnew No h2 C cE
  have N:=bG h2 C cE;refine aY ?_;simp only[cV h2];refine⟨n o 0,⟨e o 0,e o 1,e o 2⟩,n o 0,⟨e o 0,e o 1,e o 2⟩,?_⟩;refine Bw fun Q c=>?_
  have a:=o.tr c;refine⟨n a 0,⟨e a 0,e a 1,e a 2⟩,?_⟩;exact cY (vs:=D) (c.get0 N) rfl fun S E u=>z (own (ax _) u a) E
end Go.Proofs
namespace Go.Proofs
open Go.Lift
abbrev Ki(b:UInt8):List Value:= [.int .u8 (b.toNat:Int)]
theorem Dc(b:UInt8):(Ki b).length=1∧0<1:=⟨rfl,Nat.one_pos⟩
theorem JL:∀xs:List UInt8,cj (xs.flatMap Ki)=true
 | []=>rfl
 |x::xs=>by rw[bD];exact md rfl (JL xs)
theorem j9(s:ByteArray):cz s=s.data.toList.flatMap Ki:=by
 unfold cz;generalize s.data.toList=l;induction l with
 |nil=>rfl
 |cons b l ih=>rw[cD,bD,ih];rfl
theorem Mm{M:Nat→Prop}{h:ad}{a:SliceV}{out:List UInt8}{v:Int}{b:UInt8}(f:v=(b.toNat:Int)){K:SliceV→ad→Prop}(g:OwnS Ki 1 kY M h a out)(hM:∀b,h.size≤b→M b)(j:out.length+1≤140737488355328)
  (i:∀s' h',OwnS Ki 1 kY M h' s' (out++ [b])→Upd M h h'→K s' h'):
  ∃xs,SRow (hnew h [.int .u8 v] kY) (some (aJ h)) (1*1) xs∧AppP (some [.int .u8 0]) 1 1 kY a.a a.len a.cap 1 xs (hnew h [.int .u8 v] kY) K:=by
 subst f;have k:=Upd.hnew No h [.int .u8 (b.toNat:Int)] kY;have d:OwnS Ki 1 kY (fun _=>True) (hnew h [.int .u8 (b.toNat:Int)] kY) ⟨some (aJ h),1,1⟩ [b]:=⟨rfl,Dc,ax _,.inr ⟨h.size,[],rfl,trivial,bG ..,rfl⟩⟩
 refine⟨_,(d.sl (W:=No) fun _ _ _ h=>h).srow,?_⟩
 refine AppP.own (ys:= [b]) (g.upd k fun _ _ h=>h) rfl rfl rfl rfl (by omega) (by simp only[bw];omega) (hM _ (by rw[fM];omega)) fun s' h' c e=>?_
 exact i s' h' c ((Upd.hnew M h _ _).tr e)
end Go.Proofs
namespace Go.Proofs
open Go Go.Lift
def Eo(n:Nat):UInt8:=cG (if n<10 then 48+n else 87+n)
def HA(l:List UInt8):List UInt8:=l.flatMap fun b=> [Eo (b.toNat/16),Eo (b.toNat%16)]
def mI(s:List UInt8):List UInt8:=if s= []then[45]else HA s
def Hd(c:UInt8):Nat:=if 48≤c.toNat∧c.toNat≤57 then c.toNat-48 else if 97≤c.toNat∧c.toNat≤102 then c.toNat-87 else 16
def jG:List UInt8→Option (List UInt8)
 | []=>some []
 | [_]=>none
 |a::b::l=>if Hd a<16∧Hd b<16 then(jG l).map (cG (16*Hd a+Hd b):: ·)else none
def rg(w:List UInt8):Option (List UInt8):=if w= [45]then some []else if w= []then none else jG w
def dW(n:Nat):List UInt8:=if h:n<10 then[cG (48+n)]else dW (n/10)++ [cG (48+n%10)]
termination_by n
decreasing_by omega
theorem sf{n:Nat}(h:n<10):dW n= [cG (48+n)]:=by rw[dW,dif_pos h]
theorem E4{n:Nat}(h:¬n<10):dW n=dW (n/10)++ [cG (48+n%10)]:=by rw[dW,dif_neg h]
def UD(c:UInt8):Bool:=decide (48≤c.toNat)&&decide (c.toNat≤57)
def Fg(w:List UInt8):Nat:=w.foldl (fun a c=>10*a+(c.toNat-48)) 0
theorem PC(u:List UInt8)(c:UInt8):Fg (u++ [c])=10*Fg u+(c.toNat-48):=by unfold Fg;rw[List.foldl_append];rfl
def uL(w:List UInt8):Option Nat:=if w≠[]∧w.all UD=true∧Fg w<18446744073709551616∧dW (Fg w)=w then some (Fg w)else none
theorem SG{d:Nat}(h:d<10):UD (cG (48+d))=true∧(cG (48+d)).toNat=48+d:=by
 have:∀d:Fin 10,UD (cG (48+d.val))=true∧(cG (48+d.val)).toNat=48+d.val:=by decide+kernel
 exact this ⟨d,h⟩
theorem S7:∀n:Nat,(dW n).all UD=true∧Fg (dW n)=n∧dW n≠[]:=by
 intro n;induction n using Nat.strongRecOn with
 |ind n ih=>
  by_cases h:n<10
  ·rw[sf h]
   obtain⟨a,b⟩:=SG h;refine⟨by rw[vg,a];rfl,?_,List.cons_ne_nil _ _⟩;show 10*0+((cG (48+n)).toNat-48)=n
   omega
  ·obtain⟨a,b,c⟩:=ih (n/10) (by omega)
   obtain⟨d,e⟩:=SG (d:=n%10) (by omega);rw[E4 h];refine⟨by rw[List.all_append,a,vg,d];rfl,?_,fun e=>by have:=congrArg List.length e;simp at this⟩
   rw[PC,b,e];omega
theorem FO{n:Nat}(h:n<18446744073709551616):uL (dW n)=some n:=by
 obtain⟨a,b,c⟩:=S7 n;unfold uL;rw[b,if_pos ⟨c,a,h,rfl⟩]
theorem Pe{c:UInt8}:UD c=true↔48≤c.toNat∧c.toNat≤57:=by unfold UD;simp
end Go.Proofs
namespace Go.Proofs
inductive Fo where
 |nil:Fo
 |cons (lab:List UInt8) (val:Option ByteArray) (kids rest:Fo):Fo
abbrev Bn:=List UInt8×Option ByteArray×Fo
def Fo.toL:Fo→List Bn
 | .nil=> []
 | .cons lab w kids rest=>(lab,w,kids)::rest.toL
theorem Fo.toL_cons(lab:List UInt8)(w:Option ByteArray)(a b:Fo):(Fo.cons lab w a b).toL=(lab,w,a)::b.toL:=rfl
def Fo.ofL:List Bn→Fo
 | []=>.nil
 |(lab,w,kids)::l=>.cons lab w kids (Fo.ofL l)
theorem Fo.to_of:∀l:List Bn,(Fo.ofL l).toL=l
 | []=>rfl
 |(_,_,_)::l=>by show _::(Fo.ofL l).toL=_;rw[Fo.to_of l]
theorem Fo.of_to:∀F:Fo,Fo.ofL F.toL=F
 | .nil=>rfl
 | .cons lab w kids rest=>by show Fo.cons lab w kids (Fo.ofL rest.toL)=_;rw[Fo.of_to rest]
def ud:Fo→List UInt8→ByteArray→Prop
 | .nil,_,_=>False
 | .cons lab w kids rest,k,v=>(∃r,k=lab++r∧((r= []∧w=some v)∨ud kids r v))∨ud rest k v
def vz(w:Option ByteArray)(F:Fo)(k:List UInt8)(v:ByteArray):Prop:=(k= []∧w=some v)∨ud F k v
def xh(n:Bn)(k:List UInt8)(v:ByteArray):Prop:=∃r,k=n.1++r∧vz n.2.1 n.2.2 r v
theorem gX:∀{F:Fo} {k:List UInt8} {v:ByteArray},ud F k v↔∃n∈F.toL,xh n k v
 | .nil,_,_=>by simp[ud,Fo.toL]
 | .cons lab w kids rest,k,v=>by
  rw[Fo.toL_cons];unfold ud;rw[gX (F:=rest)];constructor
  ·rintro(h|⟨n,a,h⟩)
   ·exact⟨_,aU ..,h⟩
   ·exact⟨n,bj _ a,h⟩
  ·rintro⟨n,a,h⟩
   rcases aA.1 a with rfl|a
   ·exact .inl h
   ·exact .inr ⟨n,a,h⟩
def hd(k:List UInt8):Nat:=(k.headD 0).toNat
theorem uN{a b:List UInt8}(h:a≠[]):hd (a++b)=hd a:=by
 cases a with
 |nil=>exact absurd rfl h
 |cons x a=>rfl
theorem Vi(a:List UInt8):hd a<256:=UInt8.toNat_lt _
def jk:Fo→Prop
 | .nil=>True
 | .cons lab w kids rest=>lab≠[]∧(w.isSome∨2≤kids.toL.length)∧jk kids∧(∀n∈rest.toL,hd lab<hd n.1)∧jk rest
def QS(n:Bn):Prop:=n.1≠[]∧(n.2.1.isSome∨2≤n.2.2.toL.length)∧jk n.2.2
theorem eE:∀{F:Fo},jk F↔F.toL.Pairwise (fun m n=>hd m.1<hd n.1)∧∀n∈F.toL,QS n
 | .nil=>by simp[jk,Fo.toL]
 | .cons lab w kids rest=>by
  rw[Fo.toL_cons,bS];show(lab≠[]∧(w.isSome∨2≤kids.toL.length)∧jk kids∧(∀n∈rest.toL,hd lab<hd n.1)∧jk rest)↔_
  rw[eE (F:=rest)];constructor
  ·rintro⟨e,g,f,d,c,b⟩
   refine⟨⟨d,c⟩,fun n a=>?_⟩
   rcases aA.1 a with rfl|a
   ·exact⟨e,g,f⟩
   ·exact b n a
  ·rintro⟨⟨d,c⟩,b⟩
   have:=b _ (aU ..);exact⟨this.1,this.2.1,this.2.2,d,c,fun n a=>b n (bj _ a)⟩
theorem vq:∀{F:Fo},jk F→∀n∈F.toL,∃r v,vz n.2.1 n.2.2 r v
 | .nil,_,n,a=>by simp[Fo.toL]at a
 | .cons lab w kids rest,h,n,a=>by
  rcases aA.1 a with rfl|a
  ·rcases h.2.1 with d|b
   ·obtain⟨v,c⟩:=gt.1 d
    exact⟨[],v,.inl ⟨rfl,c⟩⟩
   ·have e:=vq h.2.2.1
    have⟨m,hm⟩:∃m,m∈kids.toL:=by
     cases hl:kids.toL with
     |nil=>rw[hl]at b;simp at b
     |cons m l=>exact⟨m,aU ..⟩
    obtain⟨r,v,f⟩:=e m hm;exact⟨m.1++r,v,.inr (gX.2 ⟨m,hm,r,rfl,f⟩)⟩
  ·exact vq h.2.2.2.2 n a
theorem C2{F:Fo}(h:jk F){k:List UInt8}{v:ByteArray}(hi:ud F k v):k≠[]:=by
 obtain⟨n,a,r,rfl,_⟩:=gX.1 hi;have:=((eE.1 h).2 n a).1;intro e;exact this (gZ.1 e).1
theorem xE{F:Fo}(h:jk F){k:List UInt8}{v:ByteArray}(hi:ud F k v):∃n∈F.toL,hd n.1=hd k∧xh n k v:=by
 obtain⟨n,a,r,e,b⟩:=gX.1 hi;exact⟨n,a,by rw[e,uN ((eE.1 h).2 n a).1],r,e,b⟩
theorem yK{F:Fo}(h:jk F){m n:Bn}(hm:m∈F.toL)(f:n∈F.toL)(e:hd m.1=hd n.1):m=n:=by
 have c:=(eE.1 h).1;revert hm f;generalize F.toL=l at*;clear h;induction l with
 |nil=>intro hm;simp at hm
 |cons a l ih=>
  have c:=bS.1 c;intro hm f;rcases aA.1 hm with e1|d
  ·rcases aA.1 f with e2|b
   ·rw[e1,e2]
   ·have:=c.1 n b;rw[←e1]at this;omega
  ·rcases aA.1 f with e2|b
   ·have:=c.1 m d;rw[←e2]at this;omega
   ·exact ih c.2 d b
def Br(P:List UInt8→ByteArray→Prop):Prop:=(∃v,P [] v)∨∃j k u v,P j u∧P k v∧j≠[]∧k≠[]∧hd j≠hd k
theorem Tn{w:Option ByteArray}{F:Fo}(h:jk F):(w.isSome∨2≤F.toL.length)↔Br (vz w F):=by
 constructor
 ·rintro(z|A)
  ·obtain⟨v,c⟩:=gt.1 z
   exact .inl ⟨v,.inl ⟨rfl,c⟩⟩
  ·right
   have d:=vq h;have hc:=eE.1 h;match hL:F.toL,A with
   |a::b::l,_=>
    have i:a∈F.toL:=by rw[hL];simp
    have f:b∈F.toL:=by rw[hL];simp
    obtain⟨r,v,B⟩:=d a i;obtain⟨s,u,d⟩:=d b f;have q:=(hc.2 a i).1;have t:=(hc.2 b f).1;have:=hc.1;rw[hL]at this;have D:=(bS.1 this).1 b (aU ..);refine⟨a.1++r,b.1++s,v,u,.inr (gX.2 ⟨a,i,r,rfl,B⟩),.inr (gX.2 ⟨b,f,s,rfl,d⟩),?_,?_,?_⟩
    ·intro e;exact q (gZ.1 e).1
    ·intro e;exact t (gZ.1 e).1
    ·rw[uN q,uN t];omega
 ·rintro(⟨v,c⟩|⟨j,k,u,v,g,o,x,nk,y⟩)
  ·rcases c with⟨_,c⟩|c
   ·left;rw[c];rfl
   ·exact absurd rfl (C2 h c)
  ·right
   rcases g with⟨e,_⟩|g
   ·exact absurd e x
   rcases o with⟨e,_⟩|o
   ·exact absurd e nk
   obtain⟨m,hm,em,_⟩:=xE h g;obtain⟨n,p,C,_⟩:=xE h o;match hL:F.toL with
   | []=>rw[hL]at hm;simp at hm
   | [a]=>
    rw[hL]at hm p;rw[aM.1 hm]at em;rw[aM.1 p]at C;omega
   |a::b::l=>simp
end Go.Proofs
namespace Go.Proofs
def uW(P a:List UInt8→ByteArray→Prop)(k:List UInt8)(v:ByteArray):Prop:=∀k' v',a k' v'↔(k'=k∧v'=v)∨(k'≠k∧P k' v')
theorem Iq{w:Option ByteArray}{F:Fo}(h:jk F)(v:ByteArray):uW (vz w F) (vz (some v) F) [] v:=by
 intro k' a;unfold vz;constructor
 ·rintro(⟨e,f⟩|hi)
  ·exact .inl ⟨e,(bh.inj f).symm⟩
  ·exact .inr ⟨C2 h hi,.inr hi⟩
 ·rintro(⟨e,f⟩|⟨e,⟨f,_⟩|hi⟩)
  ·exact .inl ⟨e,by rw[f]⟩
  ·exact absurd f e
  ·exact .inr hi
theorem CU{w:Option ByteArray}{F a:Fo}{k:List UInt8}{v:ByteArray}(b:k≠[])(h:uW (ud F) (ud a) k v):uW (vz w F) (vz w a) k v:=by
 intro k' c;unfold vz;rw[h k' c];constructor
 ·rintro(⟨e,f⟩|hi|hi)
  ·exact .inr ⟨fun d=>b (d.symm.trans e),.inl ⟨e,f⟩⟩
  ·exact .inl hi
  ·exact .inr ⟨hi.1,.inr hi.2⟩
 ·rintro(hi|⟨e,hi|hi⟩)
  ·exact .inr (.inl hi)
  ·exact .inl hi
  ·exact .inr (.inr ⟨e,hi⟩)
theorem PV{F:Fo}{k:List UInt8}{v:ByteArray}{i:Nat}(h:jk F)(w:k≠[])(hi:∀j (d:j<F.toL.length),j<i→hd F.toL[j].1<hd k)(g:∀j (d:j<F.toL.length),i≤j→hd k<hd F.toL[j].1):jk (.ofL (F.toL.take i++(k,some v,.nil)::F.toL.drop i))∧uW (ud F) (ud (.ofL (F.toL.take i++(k,some v,.nil)::F.toL.drop i))) k v:=by
 have hc:=eE.1 h;have z:∀n∈F.toL.take i,hd n.1<hd k:=fun n c=>by
  obtain⟨j,d,e⟩:=dq c;rw[aL]at d;rw[←e,List.getElem_take];exact hi j (by omega) (by omega)
 have y:∀n∈F.toL.drop i,hd k<hd n.1:=fun n c=>by
  obtain⟨j,d,e⟩:=dq c;rw[aR]at d;rw[←e,List.getElem_drop];exact g _ (by omega) (by omega)
 have mem:∀n,n∈F.toL.take i++(k,some v,.nil)::F.toL.drop i↔n=(k,some v,Fo.nil)∨n∈F.toL:=fun n=>by
  conv=>rhs;rw[←cF i F.toL]
  simp only[bM,aA];exact⟨fun h=>h.elim (fun h=>.inr (.inl h)) fun h=>h.elim .inl fun h=>.inr (.inr h),fun h=>h.elim (fun h=>.inr (.inl h)) fun h=>h.elim .inl fun h=>.inr (.inr h)⟩
 refine⟨eE.2 ⟨?_,?_⟩,fun k' u=>?_⟩
 ·rw[Fo.to_of]
  have m:=hc.1;rw[←cF i F.toL,eJ]at m;refine eJ.2 ⟨m.1,bS.2 ⟨y,m.2.1⟩,fun a s b p=>?_⟩
  rcases aA.1 p with rfl|p
  ·exact z a s
  ·exact m.2.2 a s b p
 ·rw[Fo.to_of]
  intro n c;rcases(mem n).1 c with rfl|c
  ·exact⟨w,.inl rfl,trivial⟩
  ·exact hc.2 n c
 ·rw[gX,gX,Fo.to_of]
  constructor
  ·rintro⟨n,c,r,e,q⟩
   rcases(mem n).1 c with rfl|c
   ·rcases q with⟨rfl,f⟩|f
    ·exact .inl ⟨by rw[e];exact dd _,(bh.inj f).symm⟩
    ·exact f.elim
   ·right
    refine⟨fun x=>?_,n,c,r,e,q⟩
    have e2:hd k=hd n.1:=by rw[←x,e,uN (hc.2 n c).1]
    obtain⟨j,d,t⟩:=dq c;rcases co j i with o|o
    ·have:=hi j d o;rw[t]at this;omega
    ·have:=g j d o;rw[t]at this;omega
  ·rintro(⟨rfl,rfl⟩|⟨_,n,c,h⟩)
   ·exact⟨(k',some u,.nil),(mem _).2 (.inl rfl),[],(dd _).symm,.inl ⟨rfl,rfl⟩⟩
   ·exact⟨n,(mem _).2 (.inr c),h⟩
theorem lJ{α:Type}{l:List α}{i:Nat}(hi:i<l.length){a x:α}(nd:∀j (c:j<l.length),j≠i→l[j]≠l[i]):x∈l.set i a↔x=a∨(x∈l∧x≠l[i]):=by
 constructor
 ·intro h
  obtain⟨j,c,e⟩:=dq h;rw[nK]at c;rw[List.getElem_set]at e;split at e
  ·exact .inl e.symm
  ·rename_i b
   exact .inr ⟨by rw[←e];exact bp c,by rw[←e];exact nd j c fun e=>b e.symm⟩
 ·rintro(rfl|⟨h,b⟩)
  ·exact mV (i:=i) (h:=by simpa using hi) (by simp)
  ·obtain⟨j,c,e⟩:=dq h
   have:i≠j:=by rintro rfl;exact b e.symm
   exact mV (i:=j) (h:=by simpa using c) (by rw[List.getElem_set_ne this];exact e)
theorem Pq{F:Fo}{i:Nat}{m:Bn}(h:jk F)(hi:i<F.toL.length)(hm:QS m)(e:hd m.1=hd F.toL[i].1):jk (.ofL (F.toL.set i m)):=by
 have hc:=eE.1 h;rw[eE,Fo.to_of];refine⟨?_,fun n g=>?_⟩
 ·rw[du]at hc⊢
  intro a b d f c;rw[nK]at d f;rw[List.getElem_set,List.getElem_set];split
  ·rename_i ea;subst ea
   rw[if_neg (by omega),e];exact hc.1 _ _ d f c
  ·split
   ·rename_i eb;subst eb
    rw[e];exact hc.1 _ _ d f c
   ·exact hc.1 _ _ d f c
 ·rcases List.mem_or_eq_of_mem_set g with g|rfl
  ·exact hc.2 n g
  ·exact hm
theorem vZ{F:Fo}(h:jk F){i:Nat}(hi:i<F.toL.length)(j:Nat)(c:j<F.toL.length)(a:j≠i):F.toL[j]≠F.toL[i]:=by
 have hc:=(eE.1 h).1;rw[du]at hc;intro e;rcases Nat.lt_or_gt_of_ne a with b|b
 ·have:=hc j i c hi b;rw[e]at this;omega
 ·have:=hc i j hi c b;rw[e]at this;omega
theorem Lx{F:Fo}{i:Nat}{m:Bn}{k:List UInt8}{v:ByteArray}(h:jk F)(hi:i<F.toL.length)(ek:hd F.toL[i].1=hd k)(g:uW (xh F.toL[i]) (xh m) k v):uW (ud F) (ud (.ofL (F.toL.set i m))) k v:=by
 intro k' f;have hc:=eE.1 h;rw[gX,gX,Fo.to_of];constructor
 ·rintro⟨n,a,c⟩
  rcases(lJ hi (vZ h hi)).1 a with rfl|⟨a,d⟩
  ·rcases(g k' f).1 c with b|⟨b,j⟩
   ·exact .inl b
   ·exact .inr ⟨b,_,bp hi,j⟩
  ·refine .inr ⟨fun e=>d ?_,n,a,c⟩
   obtain⟨r,o,_⟩:=c;refine yK h a (bp hi) ?_;rw[ek,←e,o,uN (hc.2 n a).1]
 ·rintro(b|⟨b,n,a,c⟩)
  ·exact⟨m,(lJ hi (vZ h hi)).2 (.inl rfl),(g k' f).2 (.inl b)⟩
  ·by_cases e:n=F.toL[i]
   ·exact⟨m,(lJ hi (vZ h hi)).2 (.inl rfl),(g k' f).2 (.inr ⟨b,by rw[←e];exact c⟩)⟩
   ·exact⟨n,(lJ hi (vZ h hi)).2 (.inr ⟨a,e⟩),c⟩
theorem PU{lab r:List UInt8}{w w':Option ByteArray}{F f:Fo}{v:ByteArray}(h:uW (vz w F) (vz w' f) r v):uW (xh (lab,w,F)) (xh (lab,w',f)) (lab++r) v:=by
 intro k' c;constructor
 ·rintro⟨s,e,b⟩
  rcases(h s c).1 b with⟨rfl,rfl⟩|⟨a,g⟩
  ·exact .inl ⟨e,rfl⟩
  ·exact .inr ⟨fun d=>a (List.append_cancel_left (e.symm.trans d)),s,e,g⟩
 ·rintro(⟨rfl,rfl⟩|⟨a,s,e,b⟩)
  ·exact⟨r,rfl,(h r c).2 (.inl ⟨rfl,rfl⟩)⟩
  ·exact⟨s,e,(h s c).2 (.inr ⟨fun d=>a (by rw[e,d]),b⟩)⟩
def cm:List UInt8→List UInt8→Nat
 |a::x,b::y=>if a=b then cm x y+1 else 0
 |_,_=>0
theorem Vk:∀(x y:List UInt8),cm x y≤x.length∧cm x y≤y.length
 | [],_=>by simp[cm]
 |_::_,[]=>by simp[cm]
 |a::x,b::y=>by unfold cm;have:=Vk x y;split<;>simp<;>omega
theorem Po:∀(x y:List UInt8),x.take (cm x y)=y.take (cm x y)
 | [],_=>by simp[cm]
 |_::_,[]=>by simp[cm]
 |a::x,b::y=>by
  unfold cm;split
  ·rename_i e;rw[dG,dG,Po x y,e]
  ·simp
theorem Pp:∀(x y:List UInt8),cm x y<x.length→cm x y<y.length→hd (x.drop (cm x y))≠hd (y.drop (cm x y))
 | [],_=>by simp[cm]
 |_::_,[]=>by simp[cm]
 |a::x,b::y=>by
  unfold cm;split
  ·rename_i e
   intro c d;rw[aG]at c d;rw[dZ,dZ];exact Pp x y (by omega) (by omega)
  ·rename_i e
   intro _ _ h;exact e (rx.1 h)
theorem V7{x y:List UInt8}(hx:x≠[])(c:y≠[])(h:hd x=hd y):0<cm x y:=by
 match x,y,hx,c with
 |a::x,b::y,_,_=>
  unfold cm;rw[if_pos (show a=b from rx.1 h)]
  omega
theorem IL{lab:List UInt8}{w:Option ByteArray}{F:Fo}(c:Nat):∀k v,xh (lab.take c,none,.cons (lab.drop c) w F .nil) k v↔xh (lab,w,F) k v:=by
 intro k v;constructor
 ·rintro⟨r,e,⟨_,h⟩|(⟨s,rfl,h⟩|h)⟩
  ·cases h
  ·exact⟨s,by rw[e];simp only;rw[←aH,cF],h⟩
  ·exact h.elim
 ·rintro⟨s,e,h⟩
  exact⟨lab.drop c++s,by rw[e];simp only;rw[←aH,cF],.inr (.inl ⟨s,rfl,h⟩)⟩
theorem Tm{lab r:List UInt8}{w w':Option ByteArray}{F f:Fo}{v:ByteArray}(b:lab≠[])(j:w.isSome∨2≤F.toL.length)(i:jk F)(a:r≠[]→hd r≠hd lab)(h:uW (vz none (.cons lab w F .nil)) (vz w' f) r v):Br (vz w' f):=by
 by_cases e:r= []
 ·subst e
  exact .inl ⟨v,(h [] v).2 (.inl ⟨rfl,rfl⟩)⟩
 ·have hc:jk (.cons lab w F .nil):=⟨b,j,i,fun n g=>by simp[Fo.toL]at g,trivial⟩
  obtain⟨s,u,d⟩:=vq hc _ (aU ..);simp only at d;have e2:hd (lab++s)=hd lab:=uN b;refine .inr ⟨r,lab++s,v,u,(h r v).2 (.inl ⟨rfl,rfl⟩),(h _ u).2 (.inr ⟨fun c=>a e (by rw[←c,e2]),.inr (.inl ⟨s,rfl,d⟩)⟩),e,fun c=>b (gZ.1 c).1,by rw[e2];exact a e⟩
theorem UY{P d:List UInt8→ByteArray→Prop}{k:List UInt8}{v:ByteArray}(f:Br P)(h:uW P d k v):Br d:=by
 have keep:∀j u,P j u→∃c,d j c:=fun j u g=>by
  by_cases e:j=k
  ·exact⟨v,(h j v).2 (.inl ⟨e,rfl⟩)⟩
  ·exact⟨u,(h j u).2 (.inr ⟨e,g⟩)⟩
 rcases f with⟨u,i⟩|⟨j,k',u,c,g,n,r⟩
 ·obtain⟨c,h'⟩:=keep [] u i
  exact .inl ⟨c,h'⟩
 ·obtain⟨a,m⟩:=keep j u g
  obtain⟨b,f⟩:=keep k' c n;exact .inr ⟨j,k',a,b,m,f,r⟩
end Go.Proofs
namespace Go.Proofs
open Go Go.Lift
end Go.Proofs
namespace Go.Proofs
open Go Go.Lift
def Fit(l:List Pr):Prop:=∀p∈l,p.1.size≤10000∧p.2.size≤10000
end Go.Proofs
namespace Go.Proofs
open Go Go.Lift
end Go.Proofs
namespace Go.Proofs
open Go Go.Lift
def VH(l:List Pr):Option Pr:=match l with| [p]=>some p|_=>none
def VU(l:List Pr):Option (List Pr):=if 2≤l.length then some l else none
def Bb(x:Hs)(lev:Nat)(l:List Pr):List Pr:=fm (fun c=>VH (part x lev c l)) 32
def Vg(x:Hs)(lev:Nat)(l:List Pr):List (List Pr):=fm (fun c=>VU (part x lev c l)) 32
theorem VI{W:Nat→Prop}{x:Hs}{h:ad}{m:Nat}{s:Slots}{c:Nat}{l:List Pr}(t:SlotIs W x h m s c l):s.p c=VH l∧(s.k c).isSome=(VU l).isSome:=by
 rcases t with⟨rfl,d,e⟩|⟨p,rfl,d,e⟩|⟨f,d,g,e,_⟩
 ·rw[d,e];exact⟨rfl,rfl⟩
 ·rw[d,e];exact⟨rfl,rfl⟩
 ·rw[d,e]
  refine⟨?_,by simp[VU,f]⟩
  match l,f with
  |a::b::l,_=>rfl
theorem UM{β:Type}(g:Nat→Option β)(n:Nat):fm g (n+1)=fm g n++(g n).toList:=by
 unfold fm;rw[List.range_succ,List.filterMap_append];cases h:g n<;>simp[h]
theorem Uf{W:Nat→Prop}{x:Hs}{h:ad}{m lev:Nat}{s:Slots}{l:List Pr}(a:∀c,c<32→SlotIs W x h m s c (part x lev c l)):fm s.p 32=Bb x lev l:=
 W9 _ fun c hc=>(VI (a c (List.mem_range.1 hc))).1
end Go.Proofs
namespace Go.Proofs
open Go Go.Lift
theorem CW(x:Hs)(lev:Nat)(l:List Pr):∀n,(((List.range n).map fun c=>(part x lev c l).length).sum)=(l.filter fun p=>decide (ck x lev p.1<n)).length
 |0=>by
  have:(l.filter fun p=>decide (ck x lev p.1<0))= []:=List.filter_eq_nil_iff.2 fun p _=>by simp
  rw[this];rfl
 |n+1=>by
  rw[List.range_succ,List.map_append,List.sum_append,CW x lev l n];simp only[cD,List.map_nil,List.sum_cons,List.sum_nil,Nat.add_zero];unfold part;clear CW;induction l with
  |nil=>rfl
  |cons p l ih=>
   simp only[List.filter_cons,decide_eq_true_iff];split<;>split<;>split<;>first|omega|(simp only[aG];omega)
end Go.Proofs
namespace Go.Proofs
open Go Go.Lift
theorem P9{x:Hs}{lev:Nat}{l:List Pr}{p:Pr}(h:p∈Bb x lev l):p∈l:=by
 unfold Bb fm at h;obtain⟨c,_,hc⟩:=List.mem_filterMap.1 h;unfold VH at hc;split at hc
 ·rename_i q hq
  cases hc;have:p∈part x lev c l:=by rw[hq];exact aM.2 rfl
  exact(sG.1 this).1
 ·cases hc
theorem Fit.part{x:Hs}{lev c:Nat}{l:List Pr}(h:Fit l):Fit (part x lev c l):=fun p a=>h p (sG.1 a).1
end Go.Proofs
namespace Go.Proofs
open Go Go.Lift
end Go.Proofs
namespace Go.Proofs
open Go Go.Lift
end Go.Proofs
namespace Go.Proofs
open Go Go.Lift
def FF(lab:ByteArray)(has:Bool)(val:ByteArray)(s:SliceV)(ow:Option Addr):Array Value:= #[.string lab,.bool has,.string val,sv s,.pointer ow]
theorem vw{w:Option ByteArray}{val:ByteArray}(h:val=w.getD ⟨#[]⟩):∀v,w=some v→val=v:=fun v e=>by rw[h,e];rfl
def RxF(W:Nat→Prop)(h:ad):Fo→List (Option Addr)→Prop
 | .nil,ks=>ks= []
 | .cons lab w kids rest,ks=>∃b sl val s ow ks1 ks',ks=some ⟨b,0,none⟩::ks'∧sl.data.toList=lab∧h[b]? =some (.cells (FF sl w.isSome val s ow) bR (0,0))∧val=w.getD ⟨#[]⟩∧Sl vR 1 W h s ks1∧(s.len≤s.cap∧¬W b)∧RxF W h kids ks1∧RxF W h rest ks'
def RxN(W:Nat→Prop)(h:ad)(b:Nat)(sl:ByteArray)(w:Option ByteArray)(F:Fo):Prop:=∃val s ow ks,h[b]? =some (.cells (FF sl w.isSome val s ow) bR (0,0))∧val=w.getD ⟨#[]⟩∧Sl vR 1 W h s ks∧(s.len≤s.cap∧¬W b)∧RxF W h F ks
def Kid(W:Nat→Prop)(h:ad)(k:Option Addr)(n:Bn):Prop:=∃b sl,k=some ⟨b,0,none⟩∧sl.data.toList=n.1∧RxN W h b sl n.2.1 n.2.2
def RxL(W:Nat→Prop)(h:ad)(ks:List (Option Addr))(L:List Bn):Prop:=ks.length=L.length∧∀p∈ks.zip L,Kid W h p.1 p.2
theorem lZ{W:Nat→Prop}{h:ad}:∀{F:Fo} {ks:List (Option Addr)},RxF W h F ks↔RxL W h ks F.toL
 | .nil,ks=>by
  unfold RxF RxL;simp[Fo.toL]
 | .cons lab w kids rest,ks=>by
  unfold RxF RxL;rw[Fo.toL_cons];constructor
  ·rintro⟨b,sl,val,s,ow,c,d,rfl,e1,e2,i,m,j,f,t⟩
   obtain⟨o,n⟩:=lZ.1 t;refine⟨by simp[o],fun p a=>?_⟩
   rw[nV]at a;rcases aA.1 a with rfl|a
   ·exact⟨b,sl,rfl,e1,val,s,ow,c,e2,i,m,j,f⟩
   ·exact n p a
  ·cases ks with
   |nil=>rintro⟨e,_⟩;simp at e
   |cons k d=>
    rintro⟨e,a⟩;rw[nV]at a;obtain⟨b,sl,q,e1,val,s,ow,c,e2,i,m,j,f⟩:=a _ (aU ..);refine⟨b,sl,val,s,ow,c,d,by rw[←q],e1,e2,i,m,j,f,lZ.2 ⟨by simpa using e,fun p g=>a p (bj _ g)⟩⟩
theorem RxF.upd0{W:Nat→Prop}{h h':ad}(k:Upd No h h'):∀{F:Fo} {ks:List (Option Addr)},RxF W h F ks→RxF W h' F ks
 | .nil,_,r=>r
 | .cons _ _ _ _,_,⟨b,sl,val,s,ow,ks1,ks',e0,e1,e2,e3,e4,e5,e6,e7⟩=>⟨b,sl,val,s,ow,ks1,ks',e0,e1,k.get0 e2,e3,e4.upd k fun _ h=>h.elim,e5,RxF.upd0 k e6,RxF.upd0 k e7⟩
theorem RxN.upd0{W:Nat→Prop}{h h':ad}(k:Upd No h h'){b:Nat}{sl:ByteArray}{w:Option ByteArray}{F:Fo}:RxN W h b sl w F→RxN W h' b sl w F
 |⟨val,s,ow,ks,e2,e3,e4,e5,e6⟩=>⟨val,s,ow,ks,k.get0 e2,e3,e4.upd k fun _ h=>h.elim,e5,RxF.upd0 k e6⟩
theorem Kid.upd0{W:Nat→Prop}{h h':ad}(k:Upd No h h'){a:Option Addr}{n:Bn}:Kid W h a n→Kid W h' a n
 |⟨b,sl,e1,e2,e3⟩=>⟨b,sl,e1,e2,e3.upd0 k⟩
theorem RxF.less{W W':Nat→Prop}{h:ad}(hm:∀b,W' b→W b∨h.size≤b):∀{F:Fo} {ks:List (Option Addr)},RxF W h F ks→RxF W' h F ks
 | .nil,_,r=>r
 | .cons _ _ _ _,_,⟨b,sl,val,s,ow,ks1,ks',e0,e1,e2,e3,e4,e5,e6,e7⟩=>⟨b,sl,val,s,ow,ks1,ks',e0,e1,e2,e3,e4.less hm,⟨e5.1,fun hx=>(hm _ hx).elim e5.2 fun h=>by have:=bv e2;omega⟩,RxF.less hm e6,RxF.less hm e7⟩
theorem RxN.less{W W':Nat→Prop}{h:ad}(hm:∀b,W' b→W b∨h.size≤b){b:Nat}{sl:ByteArray}{w:Option ByteArray}{F:Fo}:RxN W h b sl w F→RxN W' h b sl w F
 |⟨val,s,ow,ks,e2,e3,e4,e5,e6⟩=>⟨val,s,ow,ks,e2,e3,e4.less hm,⟨e5.1,fun hx=>(hm _ hx).elim e5.2 fun h=>by have:=bv e2;omega⟩,RxF.less hm e6⟩
theorem RxF.updM{W M:Nat→Prop}{h h':ad}(k:Upd M h h')(hm:∀b,M b→W b∨h.size≤b):∀{F:Fo} {ks:List (Option Addr)},RxF W h F ks→RxF W h' F ks
 | .nil,_,r=>r
 | .cons _ _ _ _,_,⟨b,sl,val,s,ow,ks1,ks',e0,e1,e2,e3,e4,e5,e6,e7⟩=>⟨b,sl,val,s,ow,ks1,ks',e0,e1,k.get e2 (fun hx=>(hm _ hx).elim e5.2 fun h=>by have:=bv e2;omega),e3,e4.upd k hm,e5,RxF.updM k hm e6,RxF.updM k hm e7⟩
theorem RxN.updM{W M:Nat→Prop}{h h':ad}(k:Upd M h h')(hm:∀b,M b→W b∨h.size≤b){b:Nat}{sl:ByteArray}{w:Option ByteArray}{F:Fo}:RxN W h b sl w F→RxN W h' b sl w F
 |⟨val,s,ow,ks,e2,e3,e4,e5,e6⟩=>⟨val,s,ow,ks,k.get e2 (fun hx=>(hm _ hx).elim e5.2 fun h=>by have:=bv e2;omega),e3,e4.upd k hm,e5,RxF.updM k hm e6⟩
theorem RxL.upd0{W:Nat→Prop}{h h':ad}(k:Upd No h h'){ks:List (Option Addr)}{L:List Bn}(r:RxL W h ks L):RxL W h' ks L:=⟨r.1,fun p a=>(r.2 p a).upd0 k⟩
theorem RxL.app{W:Nat→Prop}{h:ad}{ks b:List (Option Addr)}{L d:List Bn}(r:RxL W h ks L)(c:RxL W h b d):RxL W h (ks++b) (L++d):=by
 refine⟨by rw[ah,ah,r.1,c.1],fun p a=>?_⟩
 rw[List.zip_append r.1]at a;rcases bM.1 a with a|a
 ·exact r.2 p a
 ·exact c.2 p a
theorem RxL.one{W:Nat→Prop}{h:ad}{k:Option Addr}{n:Bn}(c:Kid W h k n):RxL W h [k] [n]:=⟨rfl,fun p a=>by rw[nV,List.zip_nil_left]at a;rw[aM.1 a];exact c⟩
theorem RxL.take{W:Nat→Prop}{h:ad}{ks:List (Option Addr)}{L:List Bn}(r:RxL W h ks L)(i:Nat):RxL W h (ks.take i) (L.take i):=by
 refine⟨by rw[aL,aL,r.1],fun p a=>r.2 p ?_⟩
 have:(ks.take i).zip (L.take i)=(ks.zip L).take i:=by rw[mS,mS,List.take_zipWith]
 rw[this]at a;exact List.mem_of_mem_take a
theorem RxL.drop{W:Nat→Prop}{h:ad}{ks:List (Option Addr)}{L:List Bn}(r:RxL W h ks L)(i:Nat):RxL W h (ks.drop i) (L.drop i):=by
 refine⟨by rw[aR,aR,r.1],fun p a=>r.2 p ?_⟩
 have:(ks.drop i).zip (L.drop i)=(ks.zip L).drop i:=by rw[mS,mS,List.drop_zipWith]
 rw[this]at a;exact List.mem_of_mem_drop a
theorem RxL.ins{W:Nat→Prop}{h:ad}{ks:List (Option Addr)}{L:List Bn}(r:RxL W h ks L)(i:Nat){k:Option Addr}{n:Bn}(c:Kid W h k n):RxL W h (ks.take i++k::ks.drop i) (L.take i++n::L.drop i):=by
 have:=(r.take i).app ((RxL.one c).app (r.drop i));exact this
theorem RxL.set{W:Nat→Prop}{h:ad}{ks:List (Option Addr)}{L:List Bn}(r:RxL W h ks L){i:Nat}(hi:i<L.length){k:Option Addr}{n:Bn}(c:Kid W h k n):RxL W h (ks.set i k) (L.set i n):=by
 have:=(r.take i).app ((RxL.one c).app (r.drop (i+1)));rw[dt,dt,if_pos (by rw[r.1];exact hi),if_pos hi];exact this
theorem RxL.at{W:Nat→Prop}{h:ad}{ks:List (Option Addr)}{L:List Bn}(r:RxL W h ks L){i:Nat}(hi:i<L.length):∃b sl,ks[i]? =some (some ⟨b,0,none⟩)∧sl.data.toList=L[i].1∧RxN W h b sl L[i].2.1 L[i].2.2:=by
 have c:i<ks.length:=by rw[r.1];exact hi
 have a:i<(ks.zip L).length:=by rw[List.length_zip];omega
 have:=r.2 _ (bp a);rw[List.getElem_zip]at this;obtain⟨b,sl,e1,e2,d⟩:=this;exact⟨b,sl,by rw[ag c];exact congrArg some e1,e2,d⟩
theorem Ii:∀{L:List Bn} {c:Nat},L.Pairwise (fun m n=>hd m.1<hd n.1)→(∀n∈L,c≤hd n.1)→L= []∨c+L.length≤256
 | [],_,_,_=>.inl rfl
 |n::L,c,a,hc=>by
  have a:=bS.1 a;have d:=hc n (aU ..);have b:=Vi n.1;rcases Ii (c:=hd n.1+1) a.2 fun m hm=>a.1 m hm with e|e
  ·rw[e];right;simp only[bw];omega
  ·right;rw[aG];omega
theorem yL{F:Fo}(h:jk F):F.toL.length≤256:=by
 rcases Ii (c:=0) (eE.1 h).1 fun _ _=>be _ with e|e
 ·rw[e];simp
 ·omega
theorem fQ{h:ad}{b i:Nat}{c:Array Value}(a:h[b]? =some (.cells c bR (0,0))):aC h (adr ⟨b,0,none⟩ i)=c[i]?:=by rw[cc,aI];exact aP a
theorem TP{h:ad}{b i:Nat}{c:Array Value}(a:h[b]? =some (.cells c bR (0,0))) (hi:i<c.size):Wr h (adr ⟨b,0,none⟩ i):=by rw[cc,aI];exact ij a hi
theorem Hk{h:ad}{b i:Nat}{c c':Array Value}{v:Value}{k:ad→Prop}(f:h[b]? =some (.cells c bR (0,0))) (e:c.setIfInBounds i v=c') (d:∀h',h'[b]? =some (.cells c' bR (0,0))→Upd (· =b) h h'→k h'):At (hset h (adr ⟨b,0,none⟩ i) v) k:=by
 rw[cc,aI];exact wB f fun h' a g=>d h' (e▸a) g
theorem Qm(s:ByteArray)(i:Nat):s[i]? =s.data.toList[i]?:=by
 rw[Array.getElem?_toList];by_cases h:i<s.size
 ·rw[getElem?_pos s i h,getElem?_pos s.data i h];rfl
 ·rw[getElem?_neg s i h,getElem?_neg s.data i h]
theorem JW{s:ByteArray}(a:s.data.toList≠[]):∃c:UInt8,s[0]? =some c∧c.toNat=hd s.data.toList:=by
 rw[Qm];match s.data.toList,a with
 |c::l,_=>exact⟨c,rfl,rfl⟩
theorem CP{W:Nat→Prop}{h:ad}{b:Nat}{sl:ByteArray}{w:Option ByteArray}{F:Fo}(r:RxN W h b sl w F)(hc:jk F){c:Nat}(hc8:c<256){K:Int×Bool→ad→Prop}
  (G:∀i ok,i≤F.toL.length→(∀j (p:j<F.toL.length),j<i→hd F.toL[j].1<c)→(∀j (p:j<F.toL.length),i≤j→c≤hd F.toL[j].1)→(ok=true↔∃hi:i<F.toL.length,hd F.toL[i].1=c)→K ((i:Int),ok) h):HC PG jd [.pointer (some ⟨b,0,none⟩),.int .u8 c] [.c (.int .i64),.c .bool] K h:=by
 refine BZ _ c ?_;unfold uq ce;obtain⟨val,s,ow,ks,hb,_,Y,V,hF⟩:=r;refine⟨_,rfl,s,fQ (i:=3) hb,?_⟩;have R:=lZ.1 hF;have d:=eE.1 hc;have hn:=yL hc;have y:=Y.len;rw[R.1]at y;generalize hLe:F.toL=L at R d hn y G;refine gj s c _ ?_;unfold dN bL dE Bq zW
 have E:∀{i:Nat} (hi:i<L.length) {K:Int→ad→Prop},K ((hd L[i].1:Int)-(c:Int)) h→∃a,s.a=some a∧∃v,aC h (adr a (i*1))=some (.pointer v)∧HV PG (.func (.func mM) #[] #[]) [.pointer v,.int .u8 c] [.c (.int .i64)] K h:=by
  intro i hi K G;obtain⟨kb,C,N,D,O⟩:=R.at hi;obtain⟨a,ha,_,hv⟩:=Y.at0 N;refine⟨a,ha,_,hv,HV.mk' (za (some ⟨kb,0,none⟩) c ?_)⟩;unfold rR bE;obtain⟨U,kss,kow,kks,Q,_⟩:=O;have H:C.data.toList≠[]:=by rw[D];exact(d.2 _ (bp hi)).1
  obtain⟨u,hu,S⟩:=JW H;refine⟨_,rfl,C,fQ (i:=0) Q,u,Int.le_refl _,hu,?_⟩;simp only[Bd];have e:=Vi L[i].1;rw[S,D,lz (x:=(hd L[i].1:Int)) (by omega),lz (x:=(c:Int)) (by omega),lz (by omega)];exact G
 have mono:∀i j (hi:i<L.length) (p:j<L.length),i<j→hd L[i].1<hd L[j].1:=fun i j hi p f=>du.1 d.1 i j hi p f
 refine LoopP.ghost (fun(g:Nat×Nat) (t:Int×Int) h'=>t.1=(g.1:Int)∧t.2=(g.2:Int)∧g.1≤g.2∧g.2≤L.length∧h'=h∧(∀j (p:j<L.length),j<g.1→hd L[j].1<c)∧(∀j (p:j<L.length),g.2≤j→c≤hd L[j].1)) (fun g=>g.2-g.1) (0,L.length)
  ⟨rfl,by simp only;omega,by simp,by simp,rfl,fun j p h=>by omega,fun j p h=>by simp only at h;omega⟩ ?_
 rintro I ⟨i,j⟩ ⟨ti,tj⟩ h' ⟨e1,e2,f,o,rfl,k,n⟩ X;simp only at e1 e2 f o k n;subst e1 e2;refine aK (fun e=>?_) fun P=>?_
 ·have e:i<j:=by have:(i:Int)<(j:Int):=e;omega
  have em:ac .i64 (Int.fdiv (ac .u64 (ac .i64 ((i:Int)+(j:Int)))) (2^(min (1:Int).toNat (af .u64))))=(((i+j)/2:Nat):Int):=by
   have e3:(2^(min (1:Int).toNat (af .u64)):Int)=2:=rfl;rw[e3,lz (x:=(i:Int)+(j:Int)) (by omega),Go.IntWalk.u64_in _ (by omega),Int.fdiv_eq_ediv_of_nonneg _ (by omega),lz (by omega)];omega
  refine⟨by decide,?_⟩;simp only[Bd];rw[em];generalize hm:(i+j)/2=m;have z:m<L.length:=by omega
  refine⟨by omega,?_⟩;refine E z ?_;refine aK (fun Z=>?_) fun hpos=>?_
  ·refine X (m+1,j) _ _ ⟨by simp only;rw[lz (by omega)];omega,rfl,by simp only;omega,o,rfl,fun q T A=>?_,n⟩ (by simp only;omega)
   simp only at A;rcases co q m with h|h
   ·have:=mono q m T z h;omega
   ·have:q=m:=by omega
    subst this;omega
  ·refine X (i,m) _ _ ⟨rfl,rfl,by simp only;omega,by simp only;omega,rfl,k,fun q T A=>?_⟩ (by simp only;omega)
   simp only at A;rcases co m q with h|h
   ·have:=mono m q z T h;omega
   ·have:q=m:=by omega
    subst this;omega
 ·have f:i=j:=by have:¬(i:Int)<(j:Int):=P;omega
  subst f;refine aK (fun e=>?_) fun J=>?_
  ·have B:i<L.length:=by have:(i:Int)<(s.len:Int):=e;omega
   refine⟨by simp only;omega,?_⟩;refine E B ?_;refine G i _ o k n ?_;rw[beq_iff_eq];exact⟨fun h=>⟨B,by omega⟩,fun⟨_,h⟩=>by omega⟩
  ·have B:i=L.length:=by have:¬(i:Int)<(s.len:Int):=J;omega
   exact G i false o k n ⟨fun h=>(by cases h),fun h=>(by obtain⟨h,_⟩:=h;omega)⟩
end Go.Proofs
namespace Go.Proofs
open Go Go.Lift
theorem GE{T:Type}{x:T}{k:T→Prop}(h:k x):Bd x k:=h
theorem Tt{M:Nat→Prop}{h:ad}{a:SliceV}{out bs:List UInt8}{vs:List Value}{n:Nat}(g:vs=bs.flatMap Ki)(d:n=bs.length){K:SliceV→ad→Prop}(i:OwnS Ki 1 kY M h a out)(hM:∀b,h.size≤b→M b)(m:out.length+bs.length≤140737488355328)
  (j:∀s' h',OwnS Ki 1 kY M h' s' (out++bs)→Upd M h h'→K s' h'):
  ∃xs,SRow (hnew h vs kY) (some (aJ h)) (n*1) xs∧AppP (some [.int .u8 0]) 1 1 kY a.a a.len a.cap n xs (hnew h vs kY) K:=by
 subst g d;have k:=Upd.hnew No h (bs.flatMap Ki) kY;have e:OwnS Ki 1 kY (fun _=>True) (hnew h (bs.flatMap Ki) kY) ⟨some (aJ h),bs.length,bs.length⟩ bs:=⟨rfl,Dc,ax _,.inr ⟨h.size,[],rfl,trivial,by rw[dd];exact bG ..,by simp⟩⟩
 refine⟨_,(e.sl (W:=No) fun _ _ _ h=>h).srow,?_⟩
 refine AppP.own (ys:=bs) (i.upd k fun _ _ h=>h) rfl rfl (JL bs) rfl (by omega) (by omega) (hM _ (by rw[fM];omega)) fun s' h' c f=>?_
 exact j s' h' c ((Upd.hnew M h _ _).tr f)
abbrev sgn16:ByteArray:=⟨#[48,49,50,51,52,53,54,55,56,57,97,98,99,100,101,102]⟩
theorem Jr{n:Nat}(h:n<16):sgn16[n]? =some (Eo n):=by
 have:∀n:Fin 16,sgn16.data.toList[n.val]? =some (Eo n.val):=by decide+kernel
 rw[Qm];exact this ⟨n,h⟩
theorem LY(a b:List UInt8):HA (a++b)=HA a++HA b:=by unfold HA;rw[List.flatMap_append]
theorem xF(l:List UInt8):(HA l).length=2*l.length:=by
 induction l with
 |nil=>rfl
 |cons b l ih=>show(Eo _::Eo _::HA l).length=_;simp only[aG,ih];omega
abbrev aW(l:List UInt8):ByteArray:=⟨l.toArray⟩
theorem O3(x:ByteArray):aW x.data.toList=x:=rfl
theorem ox(x:ByteArray):x.data.toList.length=x.size:=Array.length_toList
theorem U1{x:ByteArray}{i:Nat}(h:i<x.size):∃b,x[((i:Nat):Int).toNat]? =some b∧x.data.toList[i]? =some b∧x.data.toList.take (i+1)=x.data.toList.take i++ [b]:=by
 have a:i<x.data.toList.length:=by rw[ox];exact h
 refine⟨x.data.toList[i],?_,ag a,?_⟩
 ·rw[ai,Qm];exact ag a
 ·rw[List.take_add_one,ag a];rfl
theorem su{x:ByteArray}(hx:x.size≤1000000){h:ad}{K:ByteArray→ad→Prop}(n:∀h',Upd No h h'→K (aW (mI x.data.toList)) h'):HC PG nY [.string x] [.c .str] K h:=by
 refine QP x ?_;unfold Jf WA;have j:=ox x;refine CondP.intro (fun e=>?_) fun e=>?_
 ·have e:x.size=0:=by simpa using e
  have f:x.data.toList= []:=List.length_eq_zero_iff.1 (by omega);have:=n h (Upd.refl _ _);rw[f]at this;exact this
 ·have e:x.size≠0:=by simpa using e
  refine LoopP.ghost (fun(i:Nat) (t:SliceV×Int) h'=>t.2=(i:Int)∧i≤x.size∧OwnS Ki 1 kY (fun y=>h.size≤y) h' t.1 (HA (x.data.toList.take i))∧Upd No h h') (fun i=>x.size-i) 0 ⟨rfl,be _,OwnS.nil Dc,Upd.refl _ _⟩ ?_
  rintro I i ⟨A,w⟩ h' ⟨e1,hi,c,d⟩ s;simp only at e1 c;subst e1;refine aK (fun a=>?_) fun g=>?_
  ·have a:i<x.size:=by have:(i:Int)<(x.size:Int):=a;omega
   obtain⟨b,b1,_,b3⟩:=U1 a;have z:=b.toNat_lt;have m:ac .u8 (Int.tdiv (b.toNat:Int) 16)=((b.toNat/16:Nat):Int):=by rw[Int.tdiv_eq_ediv_of_nonneg (by omega),IntKind.wrap_u8];omega
   have q:Int.tmod (b.toNat:Int) 16=((b.toNat%16:Nat):Int):=by rw[Int.tmod_eq_emod_of_nonneg (by omega)];omega
   refine Join.plain ⟨b,by simp only;omega,b1,by decide,Eo (b.toNat/16),by rw[m];omega,by rw[m,ai];exact Jr (by omega),b,by simp only;omega,b1,by decide,Eo (b.toNat%16),by rw[q];omega,by rw[q,ai];exact Jr (by omega),aY ?_⟩
   have v:=d.size;refine Tt (bs:= [Eo (b.toNat/16),Eo (b.toNat%16)]) rfl rfl c (fun y p=>by omega) (by rw[xF];simp only[aG,List.length_nil,aL];omega) fun s' k o u=>?_
   show I (s',ac .i64 ((i:Int)+1)) k
   rw[dw a (by omega)];refine s (i+1) _ _ ⟨rfl,a,?_,d.trans u fun y p=>.inr p⟩ (by omega)
   rw[b3,LY];exact o
  ·have hi:i=x.size:=by have:¬(i:Int)<(x.size:Int):=g;omega
   rw[hi,←j,List.take_length]at c;refine⟨aW (HA x.data.toList),?_,?_⟩
   ·rw[j9];simpa using(c.sl (W:=No) fun _ _ _ h=>h).srow
   ·have:=n h' d
    rw[mI,if_neg (fun f=>by rw[f]at j;simp at j;omega)]at this
    exact this
theorem DD(c d:UInt8)(l:List UInt8):jG (c::d::l)=if Hd c<16∧Hd d<16 then(jG l).map (cG (16*Hd c+Hd d):: ·)else none:=by rw[jG]
theorem Aa:∀(a b:List UInt8),a.length%2=0→jG (a++b)=(jG a).bind fun x=>(jG b).map (x++ ·)
 | [],b,_=>by cases h:jG b<;>simp[jG,h]
 | [_],_,h=>by simp at h
 |c::d::l,b,h=>by
  have h:l.length%2=0:=by simp only[aG]at h;omega
  show jG (c::d::(l++b))=_
  rw[DD,DD,Aa l b h];split
  ·cases jG l<;>cases jG b<;>rfl
  ·rfl
theorem Fh:∀l:List UInt8,l.length%2=1→jG l=none
 | [],h=>by simp at h
 | [_],_=>rfl
 |c::d::l,h=>by
  have h:l.length%2=1:=by simp only[aG]at h;omega
  unfold jG;split
  ·rw[Fh l h];rfl
  ·rfl
abbrev VR(o:Option (List UInt8)):ByteArray×Bool:=match o with|some l=>(aW l,true)|none=>(aW [],false)
theorem Xk{x:ByteArray}{i:Nat}(h:i+1<x.size):∃a b,x[((i:Nat):Int).toNat]? =some a∧x[((i+1:Nat):Int).toNat]? =some b∧x.data.toList.drop i=a::b::x.data.toList.drop (i+2)∧x.data.toList.take (i+2)=x.data.toList.take i++ [a,b]:=by
 obtain⟨a,d,c,e⟩:=U1 (x:=x) (i:=i) (by omega);obtain⟨b,b1,b2,b3⟩:=U1 h;have f:=ox x;refine⟨a,b,d,b1,?_,by rw[b3,e,aH];rfl⟩
 rw[eU (by omega),eU (by omega)];rw[ag (by omega)]at c b2;rw[bh.inj c,bh.inj b2]
theorem P6{x:ByteArray}:(x.toList==(⟨#[45]⟩:ByteArray).toList)=decide (x.data.toList= [45]):=by
 rw[eG,decide_eq_decide];exact⟨fun e=>by rw[e],fun e=>by rw[←O3 x,e]⟩
theorem EV{x:ByteArray}:(x.toList==(⟨#[]⟩:ByteArray).toList)=decide (x.data.toList= []):=by
 rw[eG,decide_eq_decide];exact⟨fun e=>by rw[e],fun e=>by rw[←O3 x,e]⟩
end Go.Proofs
