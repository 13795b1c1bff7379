/- A part of the proof that the named laws of this program answer true, whatever the input. -/
import Derived.Test.YtopdngagmfanlaaGreatDoorPart1
open BitVec renaming ofInt→aj
open Bool renaming eq_iff_iff→l6
open Go.IntKind renaming bits→af,wrap→ac
open Int renaming toNat_natCast→aB
open List renaming mem_singleton→aN,pairwise_singleton→dH,pairwise_cons→bE,mem_cons→au,any_eq_true→bI,length_cons→aV,flatMap_cons→be,map_cons→cn,length_singleton→bZ,all_cons→sC,length_eq_zero_iff→aY,length_append→ai,mem_cons_self→aW,mem_cons_of_mem→bj,append_eq_nil_iff→gv,getElem_of_mem→cP,length_take→aP,length_drop→aK,take_append_drop→bO,mem_append→bS,pairwise_append→dP,append_nil→dx,length_set→l4,getElem_mem→ce,mem_of_getElem→lx,pairwise_iff_getElem→cR,append_assoc→aF,zip_cons_cons→mh,zip_eq_zipWith→lv,set_eq_take_append_cons_drop→cQ
open List.Pairwise renaming nil→ix
open Nat renaming lt_of_lt_of_le→aC,zero_add→aD,zero_le→cu,le_trans→bR,le_refl→az,strongRecOn→jE,lt_or_ge→bQ
open Option renaming isSome_iff_exists→fU,some→aZ
open UInt8 renaming ofNat→bP,toNat_inj→jD
namespace Go.Proofs
open Go.Lift
theorem RP(a b:Nat):(aj (af .u64) (a:Int)&&&aj (af .u64) (b:Int)).toNat=(a%18446744073709551616)&&&(b%18446744073709551616):=by
 simp[af];rfl
theorem SW{a:Int}(d:0≤a∧a<18446744073709551616){lev:Nat}(g:lev<13){h:ad}{K:Int→ad→Prop}(c:K (((a.toNat>>>(5*lev))%32:Nat):Int) h):HC PG kh [.int .u64 a,.int .i64 lev] [.c (.int .i64)] K h:=by
 refine K4 a lev ?_;unfold DX;refine Join.plain (aG (fun h=>by omega) fun _=>?_)
 rw[decide_eq_false (by omega)];refine ag.2 ?_;have f:ac .i64 (5*(lev:Int))=((5*lev:Nat):Int):=by rw[j2 (by omega)];omega
 rw[f];have em:min (((5*lev:Nat):Int)).toNat (af .u64)=5*lev:=by rw[aB];exact Nat.min_eq_left (by show 5*lev≤64;omega)
 rw[em];obtain⟨n,rfl⟩:=Int.eq_ofNat_of_zero_le d.1;rw[aB]at c;simp only[Bd];rw[qq];have b:n>>>(5*lev)<18446744073709551616:=Nat.lt_of_le_of_lt (Nat.shiftRight_le _ _) (by omega);have e:=RP (n>>>(5*lev)) 31;rw[Nat.mod_eq_of_lt b,show((31:Nat):Int)=(31:Int)from rfl,show 31%18446744073709551616=2^5-1 from rfl,Nat.and_two_pow_sub_one_eq_mod]at e
 rw[e];have hm:n>>>(5*lev)%2^5<32:=Nat.mod_lt _ (by omega);rw[Go.IntWalk.u64_in _ (by omega),j2 (by omega)];exact⟨by omega,c⟩
theorem Pf{x:Hs}{k:ByteArray}{lev:Nat}(a:lev<13){h:ad}{K:Int→ad→Prop}(b:K (ck x lev k:Int) h):HC PG kh [.int .u64 (ib x k),.int .i64 lev] [.c (.int .i64)] K h:=SW (Ie x k) a b
abbrev Ny(x:Hs)(k:ByteArray):Value:=.agg #[.int .u64 x.k0,.int .u64 x.k1,.int .u64 x.mask,.pointer none,.string k,.int .u64 (ib x k)]
theorem HR{x:Hs}{lev c:Nat}{l:List Pr}(h:∀p∈l,ck x lev p.1=c):part x lev c l=l:=List.filter_eq_self.2 fun p a=>decide_eq_true (h p a)
theorem Lu{x:Hs}{lev c:Nat}{l:List Pr}(h:∀p∈l,ck x lev p.1≠c):part x lev c l= []:=List.filter_eq_nil_iff.2 fun p a=>by simpa using h p a
theorem HP{x:Hs}{lev c:Nat}{p:Pr}{l:List Pr}(a:dM l):part x lev c (iG p l)=if ck x lev p.1=c then iG p (part x lev c l)else part x lev c l:=by
 have:=Dd p (fun k=>decide (ck x lev k=c)) a
 unfold part;rw[this];by_cases h:ck x lev p.1=c
 ·rw[if_pos h,if_pos (decide_eq_true h)]
 ·rw[if_neg h,if_neg (by simpa using h)]
theorem Ll{p q:Pr}(h:p.1≠q.1):(iG q [p]).length=2:=by
 rw[kK];by_cases a:kl p.1 q.1
 ·rw[if_pos a];rfl
 ·rw[if_neg a,if_neg h];rfl
theorem Ly{p q r:Pr}(h:r∈iG q [p]):r=p∨r=q:=(yo h).symm.imp (fun h=>aN.1 h) id
theorem fF{β:Type}{g:Nat→Option β}{i c:Nat}{x:Option β}(h:c≠i):upd g i x c=g c:=by unfold upd;rw[if_neg h]
theorem QG{W:Nat→Prop}{x:Hs}:∀(m:Nat) (p q:Pr),m≤13→p.1≠q.1→∀{h:ad},(∀y,W y→y<h.size)→∀{K:Option Addr→ad→Prop},(∀h' b',TrieAt W x h' m b' (iG q [p])→Upd No h h'→K (some ⟨b',0,none⟩) h')→
  HC PG j1 [Ny x q.1,.agg #[.string p.1,.string p.2],.agg #[.string q.1,.string q.2],.int .i64 ((13-m:Nat):Int)] [.c .ptr] K h:=by
 intro m;induction m with
 |zero=>
  intro p q _ F h U K O;have B:∀{h'},Upd No h h'→∀y,W y→y<h'.size:=fun k y R=>aC (U y R) k.size
  refine rv (x.k0,x.k1,x.mask,none,q.1,ib x q.1) p q ((13-0:Nat):Int) ?_;unfold nf av xX pj ae ah fZ kD ny wX Gd Cu;have k1:=Upd.hnew No h [.int .u64 x.k0,.int .u64 x.k1,.int .u64 x.mask,.pointer none,.string q.1,.int .u64 (ib x q.1)] co;have b1:=bh h [.int .u64 x.k0,.int .u64 x.k1,.int .u64 x.mask,.pointer none,.string q.1,.int .u64 (ib x q.1)] co
  refine aU ?_;simp only[cG h];generalize hnew h [.int .u64 x.k0,.int .u64 x.k1,.int .u64 x.mask,.pointer none,.string q.1,.int .u64 (ib x q.1)] co=h1 at k1 b1;have C:=Upd.hnew No h1 [.string p.1,.string p.2] ak;have b2:=bh h1 [.string p.1,.string p.2] ak;refine aU ?_;simp only[cG h1];generalize hnew h1 [.string p.1,.string p.2] ak=h2 at C b2
  have z:=Upd.hnew No h2 [.string q.1,.string q.2] ak;have b3:=bh h2 [.string q.1,.string q.2] ak;refine aU ?_;simp only[cG h2];generalize hnew h2 [.string q.1,.string q.2] ak=h3 at z b3;have d:∀{h':ad},Upd No h3 h'→∀i,aE h' (adr ⟨h.size,0,none⟩ i)=(#[.int .u64 x.k0,.int .u64 x.k1,.int .u64 x.mask,.pointer none,.string q.1,.int .u64 (ib x q.1)]:Array Value)[i]?:=fun k i=>by
   rw[bJ,aI (k.get0 (z.get0 (C.get0 b1))),aD]
  have u:∀{h':ad},Upd No h3 h'→∀i,aE h' (adr ⟨h1.size,0,none⟩ i)=(#[.string p.1,.string p.2]:Array Value)[i]?:=fun k i=>by rw[bJ,aI (k.get0 (z.get0 b2)),aD]
  have o:∀{h':ad},Upd No h3 h'→∀i,aE h' (adr ⟨h2.size,0,none⟩ i)=(#[.string q.1,.string q.2]:Array Value)[i]?:=fun k i=>by rw[bJ,aI (k.get0 b3),aD]
  have r:=Upd.refl No h3;refine ay.2 ⟨none,d r 3,p.1,u r 0,p.2,u r 1,none,d r 3,q.1,o r 0,q.2,o r 1,?_⟩;refine M4 (B ((k1.tr C).tr z)) fun h4 b4 T b=>⟨⟨o b 0,o b 1⟩,d b 3,⟨u b 0,u b 1⟩,d b 3,?_⟩
  refine GP T (B (((k1.tr C).tr z).tr b)) ix (by simp) p fun X Z J A=>?_
  have n:=b.tr A;refine⟨⟨o n 0,o n 1⟩,d n 3,?_⟩;have e1:Gs [] p= [p]:=Ci p ix;rw[e1]at J;refine GP J (B (((k1.tr C).tr z).tr n)) (dH ..) (by simp) q fun P L N v=>?_
  rw[Ci q (dH ..)]at N;exact O P L N ((((k1.tr C).tr z).tr n).tr v)
 |succ m ih=>
  intro p q hm F h U K O;have B:∀{h'},Upd No h h'→∀y,W y→y<h'.size:=fun k y R=>aC (U y R) k.size
  have Y:13-(m+1)<13:=by omega
  have g:13-(m+1)=12-m:=by omega
  refine rv (x.k0,x.k1,x.mask,none,q.1,ib x q.1) p q ((13-(m+1):Nat):Int) ?_;unfold nf av xX pj ae ah fZ kD ny wX Gd Cu;have k1:=Upd.hnew No h [.int .u64 x.k0,.int .u64 x.k1,.int .u64 x.mask,.pointer none,.string q.1,.int .u64 (ib x q.1)] co;have b1:=bh h [.int .u64 x.k0,.int .u64 x.k1,.int .u64 x.mask,.pointer none,.string q.1,.int .u64 (ib x q.1)] co
  refine aU ?_;simp only[cG h];generalize hnew h [.int .u64 x.k0,.int .u64 x.k1,.int .u64 x.mask,.pointer none,.string q.1,.int .u64 (ib x q.1)] co=h1 at k1 b1;have C:=Upd.hnew No h1 [.string p.1,.string p.2] ak;have b2:=bh h1 [.string p.1,.string p.2] ak;refine aU ?_;simp only[cG h1];generalize hnew h1 [.string p.1,.string p.2] ak=h2 at C b2
  have z:=Upd.hnew No h2 [.string q.1,.string q.2] ak;have b3:=bh h2 [.string q.1,.string q.2] ak;refine aU ?_;simp only[cG h2];generalize hnew h2 [.string q.1,.string q.2] ak=h3 at z b3;have d:∀{h':ad},Upd No h3 h'→∀i,aE h' (adr ⟨h.size,0,none⟩ i)=(#[.int .u64 x.k0,.int .u64 x.k1,.int .u64 x.mask,.pointer none,.string q.1,.int .u64 (ib x q.1)]:Array Value)[i]?:=fun k i=>by
   rw[bJ,aI (k.get0 (z.get0 (C.get0 b1))),aD]
  have u:∀{h':ad},Upd No h3 h'→∀i,aE h' (adr ⟨h1.size,0,none⟩ i)=(#[.string p.1,.string p.2]:Array Value)[i]?:=fun k i=>by rw[bJ,aI (k.get0 (z.get0 b2)),aD]
  have o:∀{h':ad},Upd No h3 h'→∀i,aE h' (adr ⟨h2.size,0,none⟩ i)=(#[.string q.1,.string q.2]:Array Value)[i]?:=fun k i=>by rw[bJ,aI (k.get0 b3),aD]
  have r:=Upd.refl No h3;have ne:(((13-(m+1):Nat):Int)==(13:Int))=false:=by rw[beq_eq_false_iff_ne];omega
  rw[ne];refine ag.2 ⟨_,d r 0,_,d r 1,_,d r 2,_,u r 0,_,d r 5,?_⟩;refine yz fun h4 b=>⟨d b 5,Pf Y ⟨d b 5,Pf Y ?_⟩⟩
  have hi:=Dw x (13-(m+1)) p.1;have hj:=Dw x (13-(m+1)) q.1;have j:=((k1.tr C).tr z);have hcl:=Ll F;refine CondP.intro (fun e=>?_) fun e=>?_
  ·have e:ck x (13-(m+1)) p.1=ck x (13-(m+1)) q.1:=by have:=eq_of_beq e;omega
   refine⟨_,d b 3,_,d b 0,_,d b 1,_,d b 2,_,d b 3,_,d b 4,_,d b 5,_,u b 0,_,u b 1,_,o b 0,_,o b 1,?_⟩;refine pU (B (j.tr b)) fun X Z I A=>?_
   have a:=b.tr A;refine⟨⟨o a 0,o a 1⟩,⟨u a 0,u a 1⟩,⟨d a 0,d a 1,d a 2,d a 3,d a 4,d a 5⟩,d a 3,?_⟩;have ew:ac .i64 (((13-(m+1):Nat):Int)+1)=((13-m:Nat):Int):=by rw[j2 (by omega)];omega
   rw[ew];refine ih p q (by omega) F (B (j.tr a)) fun P L t6 v=>?_
   have f:=a.tr v;refine⟨d f 3,?_⟩;refine vN (I.upd v fun _ h=>h.elim) (B (j.tr f)) hi (fun y h=>by cases h) ⟨L,0,none⟩ fun V S G E=>?_
   refine O V S ⟨_,G,fun c hc=>?_⟩ ((j.tr f).tr E)
   rw[g]at e;by_cases s:c=ck x (13-(m+1)) p.1
   ·refine .inr (.inr ?_)
    have ea:part x (12-m) c (iG q [p])=iG q [p]:=HR fun r H=>by
     rcases Ly H with rfl|rfl
     ·rw[s,g]
     ·rw[s,g,e]
    rw[ea];exact⟨by omega,by simp[upd],L,by rw[s];exact fV,TrieAt.upd0 E t6⟩
   ·refine .inl ⟨Lu fun r H=>?_,by simp[upd],fF s⟩
    rw[g]at s;rcases Ly H with rfl|rfl
    ·exact fun e=>s e.symm
    ·rw[←e];exact fun e=>s e.symm
  ·have e:ck x (13-(m+1)) p.1≠ck x (13-(m+1)) q.1:=fun h=>by rw[h]at e;simp at e
   refine⟨_,d b 3,_,u b 0,_,u b 1,_,d b 3,_,o b 0,_,o b 1,?_⟩;refine pU (B (j.tr b)) fun X Z I A=>?_
   have a:=b.tr A;refine⟨⟨o a 0,o a 1⟩,d a 3,⟨u a 0,u a 1⟩,d a 3,?_⟩;refine qg I (B (j.tr a)) hi (fun y h=>by cases h) p fun P L Q v=>?_
   have f:=a.tr v;refine⟨⟨o f 0,o f 1⟩,d f 3,?_⟩;refine qg Q (B (j.tr f)) hj (fun y h=>by simp[upd]) q fun V S G E=>?_
   refine O V S ⟨_,G,fun c hc=>?_⟩ ((j.tr f).tr E)
   have t:=HP (x:=x) (lev:=12-m) (c:=c) (p:=q) (l:= [p]) (dH ..);rw[g]at e;by_cases D:c=ck x (12-m) p.1
   ·have w:ck x (12-m) q.1≠c:=fun h=>e (by omega)
    have e1:part x (12-m) c [p]= [p]:=HR fun r H=>by rw[aN.1 H,D]
    rw[if_neg w,e1]at t;exact .inr (.inl ⟨p,t,by simp[upd,g,D,e],by simp[upd]⟩)
   ·have e1:part x (12-m) c [p]= []:=Lu fun r H=>by rw[aN.1 H];exact fun h=>D h.symm
    rw[e1]at t;by_cases w:c=ck x (12-m) q.1
    ·rw[if_pos w.symm]at t
     exact .inr (.inl ⟨q,t,by simp[upd,g,w],by simp[upd]⟩)
    ·rw[if_neg fun h=>w h.symm]at t
     exact .inl ⟨t,by simp[upd,g,w,D],by simp[upd]⟩
end Go.Proofs
namespace Go.Proofs
open Go.Lift
noncomputable instance memDec (p:Pr) (l:List Pr):Decidable (p∈l):=Classical.propDecidable _
theorem JG{l:List Pr}(b:dM l){k v w:ByteArray}(a:(k,v)∈l)(c:(k,w)∈l):v=w:=by
 induction l with
 |nil=>cases a
 |cons q l ih=>
  have b:=bE.1 b;rcases au.1 a with e1|a<;>rcases au.1 c with e2|c
  ·exact(Prod.mk.inj (e1.trans e2.symm)).2
  ·have:=b.1 _ c;rw[←e1]at this;exact absurd this (dV _)
  ·have:=b.1 _ a;rw[←e2]at this;exact absurd this (dV _)
  ·exact ih b.2 a c
theorem ql{x:Hs}{lev c:Nat}{l:List Pr}{p:Pr}:p∈part x lev c l↔p∈l∧ck x lev p.1=c:=by unfold part;rw[List.mem_filter,decide_eq_true_iff]
theorem Cx{x:Hs}{lev:Nat}{l:List Pr}{k:ByteArray}:bX (part x lev (ck x lev k) l) k=bX l k:=by
 unfold bX;rw[l6,bI,bI];constructor
 ·rintro⟨p,a,e⟩;exact⟨p,(ql.1 a).1,e⟩
 ·rintro⟨p,a,e⟩;exact⟨p,ql.2 ⟨a,by rw[of_decide_eq_true e]⟩,e⟩
theorem xg{x:Hs}{lev c:Nat}{l:List Pr}(a:dM l):dM (part x lev c l):=a.sublist List.filter_sublist
theorem uK{x:Hs}{lev c:Nat}{l:List Pr}:(part x lev c l).length≤l.length:=List.length_filter_le ..
def SlotIs(W:Nat→Prop)(x:Hs)(h:ad)(m:Nat)(s:Slots)(c:Nat)(l:List Pr):Prop:=
 (l= []∧s.p c=none∧s.k c=none)∨(∃p,l= [p]∧s.p c=some p∧s.k c=none)∨(2≤l.length∧s.p c=none∧∃kb,s.k c=some (some ⟨kb,0,none⟩)∧TrieAt W x h m kb l)
theorem SlotIs.upd0{W:Nat→Prop}{x:Hs}{h h':ad}{m:Nat}{s:Slots}{c:Nat}{l:List Pr}(k:Upd No h h')(t:SlotIs W x h m s c l):SlotIs W x h' m s c l:=t.imp id fun o=>o.imp id fun⟨b,f,e,a,d⟩=>⟨b,f,e,a,TrieAt.upd0 k d⟩
theorem H9(p:Pr):∀{l:List Pr},l.length≤(iG p l).length
 | []=>cu _
 |q::l=>by
  rw[kK];split
  ·have:=H9 p (l:=l);simp only[aV];omega
  ·split<;>simp
theorem L3{W:Nat→Prop}{x:Hs}{h h':ad}{m b':Nat}{s s':Slots}{l:List Pr}{p:Pr}(f:dM l)(b:Upd No h h')(nd:NodeAt W h' b' s')(a:∀c,c<32→SlotIs W x h m s c (part x (12-m) c l))
  (d:∀c,c≠ck x (12-m) p.1→s'.p c=s.p c∧s'.k c=s.k c)(hi:SlotIs W x h' m s' (ck x (12-m) p.1) (iG p (part x (12-m) (ck x (12-m) p.1) l))):TrieAt W x h' (m+1) b' (iG p l):=by
 refine⟨s',nd,fun c hc=>?_⟩
 rw[HP f];by_cases e:ck x (12-m) p.1=c
 ·rw[if_pos e];subst e;exact hi
 ·rw[if_neg e]
  have t:=SlotIs.upd0 b (a c hc);obtain⟨e1,e2⟩:=d c fun h=>e h.symm
  unfold SlotIs at t;rw[←e1,←e2]at t;exact t
theorem f8{a b:ByteArray}:(a.toList==b.toList)=decide (a=b):=by
 rw[l6,beq_iff_eq,decide_eq_true_iff,Az]
theorem Rr{W:Nat→Prop}{x:Hs}:∀(m:Nat),m≤13→∀{b:Nat} {l:List Pr} (p:Pr) {h:ad},TrieAt W x h m b l→(∀y,W y→y<h.size)→dM l→l.length≤1000000→∀{K:(Option Addr)×Bool×Bool→ad→Prop},
  (∀h' b' ch,Upd No h h'→TrieAt W x h' m b' (iG p l)→(ch=false→b'=b)→ch= !decide (p∈l)→K (some ⟨b',0,none⟩, !bX l p.1,ch) h')→
  HC PG gC [Ny x p.1,.pointer (some ⟨b,0,none⟩),.agg #[.string p.1,.string p.2],.int .i64 ((13-m:Nat):Int)] [.c .ptr,.c .bool,.c .bool] K h:=by
 intro m;induction m with
 |zero=>
  intro _ b l p h t hW S hn K G;have V:∀{h'},Upd No h h'→∀y,W y→y<h'.size:=fun k y hy=>aC (hW y hy) k.size
  refine sU (x.k0,x.k1,x.mask,none,p.1,ib x p.1) (some ⟨b,0,none⟩) p ((13-0:Nat):Int) ?_;unfold nZ av xX nv lA jl ae ah kD ny wX mE Gd Cu;have k1:=Upd.hnew No h [.int .u64 x.k0,.int .u64 x.k1,.int .u64 x.mask,.pointer none,.string p.1,.int .u64 (ib x p.1)] co;have b1:=bh h [.int .u64 x.k0,.int .u64 x.k1,.int .u64 x.mask,.pointer none,.string p.1,.int .u64 (ib x p.1)] co
  refine aU ?_;simp only[cG h];generalize hnew h [.int .u64 x.k0,.int .u64 x.k1,.int .u64 x.mask,.pointer none,.string p.1,.int .u64 (ib x p.1)] co=D at k1 b1;have k2:=Upd.hnew No D [.string p.1,.string p.2] ak;have b2:=bh D [.string p.1,.string p.2] ak;refine aU ?_;simp only[cG D];generalize hnew D [.string p.1,.string p.2] ak=d at k2 b2
  have u:∀{h':ad},Upd No d h'→∀i,aE h' (adr ⟨h.size,0,none⟩ i)=(#[.int .u64 x.k0,.int .u64 x.k1,.int .u64 x.mask,.pointer none,.string p.1,.int .u64 (ib x p.1)]:Array Value)[i]?:=fun k i=>by
   rw[bJ,aI (k.get0 (k2.get0 b1)),aD]
  have B:∀{h':ad},Upd No d h'→∀i,aE h' (adr ⟨D.size,0,none⟩ i)=(#[.string p.1,.string p.2]:Array Value)[i]?:=fun k i=>by rw[bJ,aI (k.get0 b2),aD]
  have r:=Upd.refl No d;have f:=k1.tr k2;have bk:BuckAt W d b l:=BuckAt.upd t f fun _ h=>h.elim
  obtain⟨sp,sk,ow,hb,_⟩:=bk.ex;refine jd hb (ay.2 ⟨_,B r 0,QW bk S (by omega) p.1 fun J v I hv=>?_⟩)
  have put:∀(U:p∉l) {h4:ad},Upd No d h4→HC PG g8 [.pointer (some ⟨b,0,none⟩),.pointer none,.agg #[.string p.1,.string p.2]] [.c .ptr] (fun(e15:Option Addr) h16=>K (e15, !bX l p.1,true) h16) h4:=fun U h4 o=>
   GP (bk.upd o fun _ h=>h.elim) (V (f.tr o)) S (by omega) p fun h5 b5 bk5 X=>by
    rw[Ci p S]at bk5;exact G h5 b5 true ((f.tr o).tr X) bk5 (fun h=>by cases h) (by rw[decide_eq_false U];rfl)
  refine Join.intro (fun t' h'=>t'=decide (p∈l)∧Upd No d h') (fun R hR=>?_) ?_
  ·cases F:bX l p.1 with
   |false=>
    refine ag.2 (hR _ _ ⟨?_,I⟩);refine(decide_eq_false fun hm=>?_).symm
    have:bX l p.1=true:=bI.2 ⟨p,hm,decide_eq_true rfl⟩;rw[F]at this;cases this
   |true=>
    have hv:=hv F;refine ay.2 ⟨_,B I 1,hR _ _ ⟨?_,I⟩⟩;rw[f8,decide_eq_decide];constructor
    ·intro e
     have e:v=p.2:=e;rw[e]at hv;exact hv
    ·intro hm
     exact JG S hv (show(p.1,p.2)∈l from hm)
  ·rintro t' h4 ⟨rfl,o⟩
   by_cases hm:p∈l
   ·rw[decide_eq_true hm]
    refine ay.2 ?_;have F:bX l p.1=true:=bI.2 ⟨p,hm,decide_eq_true rfl⟩;have:=G h4 b false (f.tr o) (by rw[Cg S hm];exact bk.upd o fun _ h=>h.elim) (fun _=>rfl) (by rw[decide_eq_true hm];rfl)
    rw[F]at this;exact this
   ·rw[decide_eq_false hm]
    refine ag.2 ⟨none,u o 3,_,B o 0,_,B o 1,put hm o⟩
 |succ m ih=>
  intro hm b l p h t hW S hn K G;have V:∀{h'},Upd No h h'→∀y,W y→y<h'.size:=fun k y hy=>aC (hW y hy) k.size
  have hl:13-(m+1)<13:=by omega
  have hlev:13-(m+1)=12-m:=by omega
  refine sU (x.k0,x.k1,x.mask,none,p.1,ib x p.1) (some ⟨b,0,none⟩) p ((13-(m+1):Nat):Int) ?_;unfold nZ av xX nv lA jl ae ah kD ny wX mE Gd Cu;have k1:=Upd.hnew No h [.int .u64 x.k0,.int .u64 x.k1,.int .u64 x.mask,.pointer none,.string p.1,.int .u64 (ib x p.1)] co;have b1:=bh h [.int .u64 x.k0,.int .u64 x.k1,.int .u64 x.mask,.pointer none,.string p.1,.int .u64 (ib x p.1)] co
  refine aU ?_;simp only[cG h];generalize hnew h [.int .u64 x.k0,.int .u64 x.k1,.int .u64 x.mask,.pointer none,.string p.1,.int .u64 (ib x p.1)] co=D at k1 b1;have k2:=Upd.hnew No D [.string p.1,.string p.2] ak;have b2:=bh D [.string p.1,.string p.2] ak;refine aU ?_;simp only[cG D];generalize hnew D [.string p.1,.string p.2] ak=d at k2 b2
  have u:∀{h':ad},Upd No d h'→∀i,aE h' (adr ⟨h.size,0,none⟩ i)=(#[.int .u64 x.k0,.int .u64 x.k1,.int .u64 x.mask,.pointer none,.string p.1,.int .u64 (ib x p.1)]:Array Value)[i]?:=fun k i=>by
   rw[bJ,aI (k.get0 (k2.get0 b1)),aD]
  have B:∀{h':ad},Upd No d h'→∀i,aE h' (adr ⟨D.size,0,none⟩ i)=(#[.string p.1,.string p.2]:Array Value)[i]?:=fun k i=>by rw[bJ,aI (k.get0 b2),aD]
  have r:=Upd.refl No d;have f:=k1.tr k2;obtain⟨s,Z,hs0⟩:=TrieAt.upd0 f t;have hs:∀c,c<32→SlotIs W x d m s c (part x (12-m) c l):=hs0;have tt:∀{h':ad},Upd No d h'→TrieAt W x h' (m+1) b l:=fun k=>TrieAt.upd0 (f.tr k) t
  obtain⟨d0,n0,sp0,sk0,ow0,hb0,_⟩:=Z.ex;refine jd hb0 (ag.2 ⟨_,u r 5,Pf hl ?_⟩);rw[hlev];have hi:=Dw x (12-m) p.1;have P:=hs _ hi;have Y:=xg (x:=x) (lev:=12-m) (c:=ck x (12-m) p.1) S;have hnp:(part x (12-m) (ck x (12-m) p.1) l).length≤1000000:=bR uK hn;have N:p∈part x (12-m) (ck x (12-m) p.1) l↔p∈l:=by rw[ql];exact⟨fun h=>h.1,fun h=>⟨h,rfl⟩⟩
  have Q:=Cx (x:=x) (lev:=12-m) (l:=l) (k:=p.1);have j:=fun{h':ad} {b':Nat} {s':Slots}=>L3 (W:=W) (x:=x) (h:=d) (h':=h') (m:=m) (b':=b') (s:=s) (s':=s') (l:=l) (p:=p) S
  generalize hc:ck x (12-m) p.1=c at hi P Y hnp N Q j;generalize hlp:part x (12-m) c l=lc at P Y hnp N Q j;refine CU Z hi fun J I=>?_
  have k4:=Upd.hnew No J [.string (⟨#[]⟩:ByteArray),.string (⟨#[]⟩:ByteArray)] ak;have b4:=bh J [.string (⟨#[]⟩:ByteArray),.string (⟨#[]⟩:ByteArray)] ak;refine aU ?_;simp only[cG J];generalize hnew J [.string (⟨#[]⟩:ByteArray),.string (⟨#[]⟩:ByteArray)] ak=h4 at k4 b4;have b4':h4[J.size]? =some (.cells #[.string Lf.1,.string Lf.2] ak (0,0)):=b4
  refine CP (p:=OK (s.p c)) b4' fun h5 b5 X=>?_
  have a:Upd No d h5:=(I.tr k4).trans X fun y hy=>.inr (by have hy:y=J.size:=hy;have:=I.size;omega)
  have w5:∀{h':ad},Upd No h5 h'→∀i,aE h' (adr ⟨J.size,0,none⟩ i)=(#[.string (OK (s.p c)).1,.string (OK (s.p c)).2]:Array Value)[i]?:=fun k i=>by rw[bJ,aI (k.get0 b5),aD]
  have r5:=Upd.refl No h5;have L:=Z.upd a fun _ h=>h.elim
  cases hsp:s.p c with
  |some y=>
   rw[hsp]at w5;obtain⟨A,hk0⟩:lc= [y]∧s.k c=none:=by
    rcases P with⟨_,d,_⟩|⟨q,D,d,J⟩|⟨_,d,_⟩
    ·rw[hsp]at d;cases d
    ·rw[hsp]at d;cases d;exact⟨D,J⟩
    ·rw[hsp]at d;cases d
   refine ay.2 ⟨y.1,w5 r5 0,y.2,w5 r5 1,p.1,B a 0,p.2,B a 1,?_⟩;rw[f8,f8];have hyl:y∈l:=(ql.1 (show y∈part x (12-m) c l by rw[hlp,A];exact aN.2 rfl)).1
   by_cases e1:y.1=p.1
   ·have F:bX l p.1=true:=bI.2 ⟨y,hyl,decide_eq_true e1⟩
    rw[F]at G;by_cases e2:y.2=p.2
    ·rw[decide_eq_true e1,decide_eq_true e2]
     have hyp:y=p:=Prod.ext e1 e2;have w:p∈l:=hyp▸hyl;refine ay.2 ?_;exact G h5 b false (f.tr a) (by rw[Cg S w];exact tt a) (fun _=>rfl) (by rw[decide_eq_true w];rfl)
    ·rw[decide_eq_true e1,decide_eq_false e2]
     refine ag.2 ⟨y.1,w5 r5 0,p.1,B a 0,?_⟩;rw[f8,decide_eq_true e1];refine ay.2 ⟨none,u a 3,p.1,B a 0,p.2,B a 1,?_⟩;refine qg L (V (f.tr a)) hi (fun _ _=>hk0) p fun h6 T nd6 g=>?_
     have O:p∉l:=fun hm=>by
      have:=N.2 hm;rw[A]at this;exact e2 (by rw[aN.1 this])
     refine G h6 T true ((f.tr a).tr g) (j (a.tr g) nd6 hs (fun c' n=>⟨fF n,fF n⟩) ?_) (fun h=>by cases h) (by rw[decide_eq_false O];rfl)
     refine .inr (.inl ⟨p,?_,fV,fV⟩);rw[A,kK,if_neg (by rw[e1];exact dV _),if_pos e1]
   ·rw[decide_eq_false e1]
    refine ag.2 ⟨y.1,w5 r5 0,p.1,B a 0,?_⟩;rw[f8,decide_eq_false e1];refine ag.2 ⟨none,u a 3,_,u a 0,_,u a 1,_,u a 2,_,u a 3,_,u a 4,_,u a 5,y.1,w5 r5 0,y.2,w5 r5 1,p.1,B a 0,p.2,B a 1,?_⟩;have ew:ac .i64 (((12-m:Nat):Int)+1)=((13-m:Nat):Int):=by rw[j2 (by omega)];omega
    rw[ew];refine QG m y p (by omega) e1 (V (f.tr a)) fun h6 T t6 g=>⟨u (a.tr g) 3,?_⟩
    refine vN (L.upd g fun _ h=>h.elim) (V ((f.tr a).tr g)) hi (fun z hz=>by rw[hk0]at hz;cases hz) ⟨T,0,none⟩ fun h7 b7 nd7 E=>?_
    have F:bX l p.1=false:=by
     rw[←Q,A];unfold bX;rw[List.any_cons,decide_eq_false e1];rfl
    have O:p∉l:=fun hm=>by
     have:bX l p.1=true:=bI.2 ⟨p,hm,decide_eq_true rfl⟩;rw[F]at this;cases this
    rw[F]at G;refine G h7 b7 true (((f.tr a).tr g).tr E) (j ((a.tr g).tr E) nd7 hs (fun c' n=>⟨fF n,fF n⟩) ?_) (fun h=>by cases h) (by rw[decide_eq_false O];rfl)
    rw[A];exact .inr (.inr ⟨by rw[Ll e1];omega,fV,T,fV,TrieAt.upd0 E t6⟩)
  |none=>
   refine ag.2 (Cb L hi ?_);cases hsk:s.k c with
   |none=>
    have hlc:lc= []:=by
     rcases P with⟨D,_⟩|⟨q,_,d,_⟩|⟨_,_,kb,d,_⟩
     ·exact D
     ·rw[hsp]at d;cases d
     ·rw[hsk]at d;cases d
    refine ay.2 ⟨none,u a 3,p.1,B a 0,p.2,B a 1,?_⟩;refine qg L (V (f.tr a)) hi (fun _ _=>hsk) p fun h6 T nd6 g=>?_
    have F:bX l p.1=false:=by rw[←Q,hlc];rfl
    have O:p∉l:=fun hm=>by
     have:bX l p.1=true:=bI.2 ⟨p,hm,decide_eq_true rfl⟩;rw[F]at this;cases this
    rw[F]at G;refine G h6 T true ((f.tr a).tr g) (j (a.tr g) nd6 hs (fun c' n=>⟨fF n,fF n⟩) ?_) (fun h=>by cases h) (by rw[decide_eq_false O];rfl)
    rw[hlc];exact .inr (.inl ⟨p,rfl,fV,fV⟩)
   |some kp=>
    obtain⟨h2l,kb,rfl,tk⟩:2≤lc.length∧∃kb,kp=some ⟨kb,0,none⟩∧TrieAt W x d m kb lc:=by
     rcases P with⟨_,_,d⟩|⟨q,_,d,_⟩|⟨D,_,kb,d,J⟩
     ·rw[hsk]at d;cases d
     ·rw[hsp]at d;cases d
     ·rw[hsk]at d;cases d;exact⟨D,kb,rfl,J⟩
    refine ag.2 ⟨_,u a 0,_,u a 1,_,u a 2,_,u a 3,_,u a 4,_,u a 5,p.1,B a 0,p.2,B a 1,?_⟩;have ew:ac .i64 (((12-m:Nat):Int)+1)=((13-m:Nat):Int):=by rw[j2 (by omega)];omega
    rw[ew];refine ih (by omega) p (TrieAt.upd0 a tk) (V (f.tr a)) Y hnp fun h6 T ch g t6 hsame H=>?_
    have C:=a.tr g;by_cases w:p∈l
    ·have H:ch=false:=by rw[H,decide_eq_true (N.2 w)];rfl
     have F:bX l p.1=true:=bI.2 ⟨p,w,decide_eq_true rfl⟩;rw[F]at G;rw[H];refine ay.2 ?_;exact G h6 b false (f.tr C) (by rw[Cg S w];exact tt C) (fun _=>rfl) (by rw[decide_eq_true w];rfl)
    ·have H:ch=true:=by rw[H,decide_eq_false fun h=>w (N.1 h)];rfl
     rw[H];refine ag.2 ⟨none,u C 3,?_⟩;refine vN (L.upd g fun _ h=>h.elim) (V ((f.tr a).tr g)) hi (fun _ _=>hsp) ⟨T,0,none⟩ fun h7 b7 nd7 E=>?_
     rw[Q];refine G h7 b7 true ((f.tr C).tr E) (j (C.tr E) nd7 hs (fun c' n=>⟨fF n,fF n⟩) ?_) (fun h=>by cases h) (by rw[decide_eq_false w];rfl)
     exact .inr (.inr ⟨bR h2l (H9 p),fV,T,fV,TrieAt.upd0 E t6⟩)
end Go.Proofs
namespace Go.Proofs
open Go.Lift
theorem Hl{W:Nat→Prop}{x:Hs}{h:ad}{m b:Nat}(nd:NodeAt W h b ⟨fun _=>none,fun _=>none⟩):TrieAt W x h (m+1) b []:=⟨_,nd,fun _ _=>.inl ⟨rfl,rfl,rfl⟩⟩
def RootAt(W:Nat→Prop)(x:Hs)(h:ad)(r:Option Addr)(l:List Pr):Prop:=(r=none∧l= [])∨∃b,r=some ⟨b,0,none⟩∧TrieAt W x h 13 b l
theorem RootAt.upd0{W:Nat→Prop}{x:Hs}{h h':ad}{r:Option Addr}{l:List Pr}(k:Upd No h h')(t:RootAt W x h r l):RootAt W x h' r l:=t.imp id fun⟨b,e,t⟩=>⟨b,e,TrieAt.upd0 k t⟩
theorem FT{W:Nat→Prop}{x:Hs}{h:ad}{r:Option Addr}{l:List Pr}(t:RootAt W x h r l)(c:∀y,W y→y<h.size){K:Option Addr→ad→Prop}(a:∀h' b,TrieAt W x h' 13 b l→Upd No h h'→(r=some ⟨b,0,none⟩∨r=none)→K (some ⟨b,0,none⟩) h'):HC PG jq [.pointer r] [.c .ptr] K h:=by
 refine G5 r ?_;unfold zH;rcases t with⟨rfl,rfl⟩|⟨b,rfl,t⟩
 ·refine ay.2 (wK ?_)
  unfold sA;exact pU c fun h' b nd d=>a h' b (Hl nd) d (.inr rfl)
 ·exact ag.2 (a h b t (Upd.refl _ _) (.inl rfl))
theorem eN{h:ad}{b:Nat}{t:TypeId}{c vs:List Value}(a:h[b]? =some (.cells c.toArray t (0,0))) (d:vs.length=c.length) {k:ad→Prop}
  (f:∀h',h'[b]? =some (.cells vs.toArray t (0,0))→Upd (· =b) h h'→k h'):sq h (some ⟨b,0,none⟩) 0 vs∧At (ia h ⟨b,0,none⟩ 0 vs) k:=by
 have e:=g6 vs h 0 0 c a (by omega);refine⟨.inr ⟨_,rfl,fun j g=>by rw[bJ];exact gI a (by rw[List.size_toArray];omega)⟩,aU ?_⟩
 rw[e];refine f _ ?_ (Upd.set h _ rfl);rw[hT a];congr 3
 simp[d]
set_option maxRecDepth 4000 in
theorem IA{W:Nat→Prop}{x:Hs}{h:ad}{r:Option Addr}{l:List Pr}(t:RootAt W x h r l)(S:∀y,W y→y<h.size)(Y:dM l)(Z:l.length≤1000000)(p:Pr){K:Option Addr×Bool→ad→Prop}
  (X:∀h' b',Upd No h h'→TrieAt W x h' 13 b' (iG p l)→(p∈l→r=some ⟨b',0,none⟩∨r=none)→K (some ⟨b',0,none⟩, !bX l p.1) h'):
  HC PG vj [.agg #[.int .u64 x.k0,.int .u64 x.k1,.int .u64 x.mask],.pointer none,.pointer r,.agg #[.string p.1,.string p.2]] [.c .ptr,.c .bool] K h:=by
 refine IZ (x.k0,x.k1,x.mask) none r p ?_;unfold BE av eH pj ae wc ah kD ny Q3 Q8 wX;have k1:=Upd.hnew No h [.int .u64 x.k0,.int .u64 x.k1,.int .u64 x.mask] dC;have b1:=bh h [.int .u64 x.k0,.int .u64 x.k1,.int .u64 x.mask] dC;refine aU ?_;simp only[cG h];generalize hnew h [.int .u64 x.k0,.int .u64 x.k1,.int .u64 x.mask] dC=h1 at k1 b1
 have J:=Upd.hnew No h1 [.string p.1,.string p.2] ak;have b2:=bh h1 [.string p.1,.string p.2] ak;refine aU ?_;simp only[cG h1];generalize hnew h1 [.string p.1,.string p.2] ak=h2 at J b2;have e:∀{h':ad},Upd No h2 h'→∀i,aE h' (adr ⟨h.size,0,none⟩ i)=(#[.int .u64 x.k0,.int .u64 x.k1,.int .u64 x.mask]:Array Value)[i]?:=fun k i=>by
  rw[bJ,aI (k.get0 (J.get0 b1)),aD]
 have n:∀{h':ad},Upd No h2 h'→∀i,aE h' (adr ⟨h1.size,0,none⟩ i)=(#[.string p.1,.string p.2]:Array Value)[i]?:=fun k i=>by rw[bJ,aI (k.get0 b2),aD]
 have s:=Upd.refl No h2;have q:=k1.tr J;let D:List Value:= [.int .u64 0,.int .u64 0,.int .u64 0,.pointer none,.string (⟨#[]⟩:ByteArray),.int .u64 0]
 let C:List Value:= [.int .u64 x.k0,.int .u64 x.k1,.int .u64 x.mask,.pointer none,.string p.1,.int .u64 (ib x p.1)]
 have B:∀{g:ad} {b:Nat},Upd No h2 g→g[b]? =some (.cells C.toArray co (0,0))→
   ∃v15:Int,aE g (adr ⟨b,0,none⟩ 0)=some (.int .u64 v15)∧
    ∃v16:Int,aE g (adr ⟨b,0,none⟩ 1)=some (.int .u64 v16)∧
    ∃v17:Int,aE g (adr ⟨b,0,none⟩ 2)=some (.int .u64 v17)∧
    ∃v18:Option Addr,aE g (adr ⟨b,0,none⟩ 3)=some (.pointer v18)∧
    ∃v19:ByteArray,aE g (adr ⟨b,0,none⟩ 4)=some (.string v19)∧
    ∃v20:Int,aE g (adr ⟨b,0,none⟩ 5)=some (.int .u64 v20)∧
    ∃v21:ByteArray,aE g (adr ⟨h1.size,0,none⟩ 0)=some (.string v21)∧
    ∃v22:ByteArray,aE g (adr ⟨h1.size,0,none⟩ 1)=some (.string v22)∧
    HC PG jq [.pointer r] [.c .ptr] (fun(H:Option Addr) f=>
     ((aE f (adr ⟨h1.size,0,none⟩ 0)=some (.string v21)∧aE f (adr ⟨h1.size,0,none⟩ 1)=some (.string v22))∧
      ((aE f (adr ⟨b,0,none⟩ 0)=some (.int .u64 v15)∧aE f (adr ⟨b,0,none⟩ 1)=some (.int .u64 v16)∧aE f (adr ⟨b,0,none⟩ 2)=some (.int .u64 v17)∧aE f (adr ⟨b,0,none⟩ 3)=some (.pointer v18)∧aE f (adr ⟨b,0,none⟩ 4)=some (.string v19)∧aE f (adr ⟨b,0,none⟩ 5)=some (.int .u64 v20))∧
       HC PG gC [.agg #[.int .u64 v15,.int .u64 v16,.int .u64 v17,.pointer v18,.string v19,.int .u64 v20],.pointer H,.agg #[.string v21,.string v22],.int .i64 0] [.c .ptr,.c .bool,.c .bool] (fun(A:(Option Addr)×Bool×Bool) I=>
        K (A.1,A.2.1) I) f))) g:=fun{g b} d P=>by
  have m:∀{h':ad},Upd No g h'→∀i,aE h' (adr ⟨b,0,none⟩ i)=C.toArray[i]?:=fun k i=>by rw[bJ,aI (k.get0 P),aD]
  have w:=Upd.refl No g;refine⟨_,m w 0,_,m w 1,_,m w 2,_,m w 3,_,m w 4,_,m w 5,p.1,n d 0,p.2,n d 1,?_⟩;refine FT (t.upd0 (q.tr d)) (fun y z=>aC (S y z) (q.tr d).size) fun R N T c L=>?_
  have a:=d.tr c;refine⟨⟨n a 0,n a 1⟩,⟨m c 0,m c 1,m c 2,m c 3,m c 4,m c 5⟩,?_⟩;refine Rr 13 (az _) p T (fun y z=>aC (S y z) ((q.tr d).tr c).size) Y Z fun Q E ch u V U O=>?_
  refine X Q E ((q.tr a).tr u) V fun hm=>?_
  have F:E=N:=U (by rw[O,decide_eq_true hm];rfl);rw[F];exact L
 have own:∀{v g:ad} {b:Nat},h2.size≤b→Upd (· =b) v g→Upd No h2 v→Upd No h2 g:=fun F hu k=>k.trans hu fun y z=>.inr (z▸F)
 refine⟨_,e s 0,_,e s 1,_,e s 2,_,n s 0,_,e s 0,_,e s 1,_,e s 2,_,n s 0,?_,?_⟩
 ·refine yz fun v j=>⟨n j 0,⟨e j 0,e j 1,e j 2⟩,?_⟩
  have o:=Upd.hnew No v D co;have G:=bh v D co;have d:=j.tr o;refine aU ?_;simp only[cG v];refine⟨n d 0,⟨e d 0,e d 1,e d 2⟩,?_⟩;refine eN (vs:=C) G rfl fun R N c=>B (own j.size c d) N
 ·have o:=Upd.hnew No h2 D co
  have G:=bh h2 D co;refine aU ?_;simp only[cG h2];refine⟨n o 0,⟨e o 0,e o 1,e o 2⟩,n o 0,⟨e o 0,e o 1,e o 2⟩,?_⟩;refine yz fun R c=>?_
  have a:=o.tr c;refine⟨n a 0,⟨e a 0,e a 1,e a 2⟩,?_⟩;exact eN (vs:=C) (c.get0 G) rfl fun Q E u=>B (own (az _) u a) E
end Go.Proofs
namespace Go.Proofs
open Go.Lift
abbrev FB(b:UInt8):List Value:= [.int .u8 (b.toNat:Int)]
theorem AA(b:UInt8):(FB b).length=1∧0<1:=⟨rfl,Nat.one_pos⟩
theorem Lw:∀xs:List UInt8,bM (xs.flatMap FB)=true
 | []=>rfl
 |x::xs=>by rw[be];exact kI rfl (Lw xs)
theorem mr(s:ByteArray):cj s=s.data.toList.flatMap FB:=by
 unfold cj;generalize s.data.toList=l;induction l with
 |nil=>rfl
 |cons b l ih=>rw[cn,be,ih];rfl
theorem DC{M:Nat→Prop}{h:ad}{a:SliceV}{out:List UInt8}{v:Int}{b:UInt8}(e:v=(b.toNat:Int)){K:SliceV→ad→Prop}(i:OwnS FB 1 jm M h a out)(hM:∀b,h.size≤b→M b)(j:out.length+1≤140737488355328)
  (d:∀s' h',OwnS FB 1 jm M h' s' (out++ [b])→Upd M h h'→K s' h'):
  ∃xs,SRow (hnew h [.int .u8 v] jm) (some (aR h)) (1*1) xs∧AppP (some [.int .u8 0]) 1 1 jm a.a a.len a.cap 1 xs (hnew h [.int .u8 v] jm) K:=by
 subst e;have k:=Upd.hnew No h [.int .u8 (b.toNat:Int)] jm;have f:OwnS FB 1 jm (fun _=>True) (hnew h [.int .u8 (b.toNat:Int)] jm) ⟨some (aR h),1,1⟩ [b]:=⟨rfl,AA,az _,.inr ⟨h.size,[],rfl,trivial,bh ..,rfl⟩⟩
 refine⟨_,(f.sl (W:=No) fun _ _ _ h=>h).srow,?_⟩
 refine AppP.own (ys:= [b]) (i.upd k fun _ _ h=>h) rfl rfl rfl rfl (by omega) (by simp only[bZ];omega) (hM _ (by rw[fe];omega)) fun s' h' c g=>?_
 exact d s' h' c ((Upd.hnew M h _ _).tr g)
end Go.Proofs
namespace Go.Proofs
open Go Go.Lift
def uy(n:Nat):UInt8:=bP (if n<10 then 48+n else 87+n)
def yy(l:List UInt8):List UInt8:=l.flatMap fun b=> [uy (b.toNat/16),uy (b.toNat%16)]
def xm(s:List UInt8):List UInt8:=if s= []then[45]else yy s
def qY(c:UInt8):Nat:=if 48≤c.toNat∧c.toNat≤57 then c.toNat-48 else if 97≤c.toNat∧c.toNat≤102 then c.toNat-87 else 16
def fu:List UInt8→Option (List UInt8)
 | []=>some []
 | [_]=>none
 |a::b::l=>if qY a<16∧qY b<16 then(fu l).map (bP (16*qY a+qY b):: ·)else none
def jL(w:List UInt8):Option (List UInt8):=if w= [45]then some []else if w= []then none else fu w
theorem Is{n:Nat}(h:n<16):qY (uy n)=n:=by
 have:∀n:Fin 16,qY (uy n.val)=n.val:=by decide+kernel
 exact this ⟨n,h⟩
theorem AZ:∀l:List UInt8,fu (yy l)=some l
 | []=>rfl
 |b::l=>by
  have a:=b.toNat_lt;show fu (uy (b.toNat/16)::uy (b.toNat%16)::yy l)=_
  unfold fu;rw[Is (by omega),Is (by omega),if_pos ⟨by omega,by omega⟩,AZ l]
  have e:16*(b.toNat/16)+b.toNat%16=b.toNat:=by omega
  simp[e]
theorem L2(s:List UInt8):jL (xm s)=some s:=by
 unfold xm;split
 ·rename_i h;rw[h];rfl
 ·rename_i h
  cases s with
  |nil=>exact absurd rfl h
  |cons b l=>
   unfold jL;have e:yy (b::l)=uy (b.toNat/16)::uy (b.toNat%16)::yy l:=rfl;rw[if_neg (by rw[e];intro h;simp at h),if_neg (by rw[e];intro h;cases h)];exact AZ _
def gM(n:Nat):List UInt8:=if h:n<10 then[bP (48+n)]else gM (n/10)++ [bP (48+n%10)]
termination_by n
decreasing_by omega
theorem lV{n:Nat}(h:n<10):gM n= [bP (48+n)]:=by rw[gM,dif_pos h]
theorem tN{n:Nat}(h:¬n<10):gM n=gM (n/10)++ [bP (48+n%10)]:=by rw[gM,dif_neg h]
def El(c:UInt8):Bool:=decide (48≤c.toNat)&&decide (c.toNat≤57)
def j6(w:List UInt8):Nat:=w.foldl (fun a c=>10*a+(c.toNat-48)) 0
theorem vK(u:List UInt8)(c:UInt8):j6 (u++ [c])=10*j6 u+(c.toNat-48):=by unfold j6;rw[List.foldl_append];rfl
def nA(w:List UInt8):Option Nat:=if w≠[]∧w.all El=true∧j6 w<18446744073709551616∧gM (j6 w)=w then some (j6 w)else none
theorem Kk{d:Nat}(h:d<10):El (bP (48+d))=true∧(bP (48+d)).toNat=48+d:=by
 have:∀d:Fin 10,El (bP (48+d.val))=true∧(bP (48+d.val)).toNat=48+d.val:=by decide+kernel
 exact this ⟨d,h⟩
theorem Ds:∀n:Nat,(gM n).all El=true∧j6 (gM n)=n∧gM n≠[]:=by
 intro n;induction n using jE with
 |ind n ih=>
  by_cases h:n<10
  ·rw[lV h]
   obtain⟨a,b⟩:=Kk h;refine⟨by rw[sC,a];rfl,?_,List.cons_ne_nil _ _⟩;show 10*0+((bP (48+n)).toNat-48)=n
   omega
  ·obtain⟨a,b,c⟩:=ih (n/10) (by omega)
   obtain⟨d,e⟩:=Kk (d:=n%10) (by omega);rw[tN h];refine⟨by rw[List.all_append,a,sC,d];rfl,?_,fun e=>by have:=congrArg List.length e;simp at this⟩
   rw[vK,b,e];omega
theorem ym{n:Nat}(h:n<18446744073709551616):nA (gM n)=some n:=by
 obtain⟨a,b,c⟩:=Ds n;unfold nA;rw[b,if_pos ⟨c,a,h,rfl⟩]
theorem Cf{c:UInt8}:El c=true↔48≤c.toNat∧c.toNat≤57:=by unfold El;simp
theorem LJ:∀(w:List UInt8),w.all El=true→w≠[]→(w.head? =some 48→w.length=1)→gM (j6 w)=w∧(w.head?≠some 48→10^(w.length-1)≤j6 w):=by
 intro w;obtain⟨k,j⟩:∃k,w.length=k:=⟨_,rfl⟩;induction k generalizing w with
 |zero=>intro _ h;exact absurd (aY.1 j) h
 |succ k ih=>
  intro i b o;obtain⟨u,c,rfl⟩:∃u c,w=u++ [c]:=⟨w.dropLast,w.getLast b,(List.dropLast_concat_getLast b).symm⟩;rw[List.all_append,Bool.and_eq_true]at i;have hc:El c=true:=by have:=i.2;simpa using this
  obtain⟨c1,t⟩:=Cf.1 hc;have d:u.length=k:=by simpa using j
  by_cases f:u= []
  ·subst f
   have e:j6 ([]++ [c])=c.toNat-48:=by rw[vK];show 10*0+_=_;omega
   rw[e];refine⟨?_,fun g=>?_⟩
   ·rw[lV (by omega),show 48+(c.toNat-48)=c.toNat by omega];simp
   ·have:c.toNat≠48:=fun e=>g (by
     have:c=48:=jD.1 e
     rw[this];rfl)
    simp;omega
  ·have p:(u++ [c]).head? =u.head?:=by cases u with
    |nil=>exact absurd rfl f
    |cons a l=>rfl
   have g:u.head?≠some 48:=fun e=>by
    have q:=o (p.trans e);have:u.length≠0:=fun e=>f (aY.1 e)
    rw[ai,bZ]at q;omega
   obtain⟨n,m⟩:=ih u d i.1 f fun e=>absurd e g
   have m:=m g;have x:1≤10^(u.length-1):=Nat.one_le_pow _ _ (by omega);rw[vK];refine⟨?_,fun _=>?_⟩
   ·rw[tN (by omega)]
    have e1:(10*j6 u+(c.toNat-48))/10=j6 u:=by omega
    have e2:48+(10*j6 u+(c.toNat-48))%10=c.toNat:=by omega
    rw[e1,e2,n];simp
   ·have v:u.length≠0:=fun e=>f (aY.1 e)
    have s:(u++ [c]).length-1=u.length-1+1:=by simp;omega
    rw[s,Nat.pow_succ];omega
theorem It:∀n:Nat,(gM n).head? =some 48→(gM n).length=1:=by
 intro n;induction n using jE with
 |ind n ih=>
  by_cases h:n<10
  ·rw[lV h];intro _;rfl
  ·rw[tN h]
   intro e;have c:=(Ds (n/10)).2.2;have g:(gM (n/10)++ [bP (48+n%10)]).head? =(gM (n/10)).head?:=by cases e2:gM (n/10)with
    |nil=>exact absurd e2 c
    |cons a l=>rfl
   rw[g]at e;have d:=ih (n/10) (by omega) e;have b:n/10<10:=by
    by_cases f:n/10<10
    ·exact f
    ·rw[tN f]at d
     have:=(Ds (n/10/10)).2.2;simp at d;exact absurd d this
   rw[lV b]at e;have:bP (48+n/10)=48:=by simpa using e
   have:=congrArg UInt8.toNat this;rw[(Kk b).2]at this;have:(48:UInt8).toNat=48:=rfl;omega
theorem HX(w:List UInt8):nA w=if w.length=0∨20<w.length∨(w.head? =some 48∧1<w.length)∨w.all El=false∨18446744073709551616≤j6 w then none else some (j6 w):=by
 unfold nA;by_cases h:w.length=0∨20<w.length∨(w.head? =some 48∧1<w.length)∨w.all El=false∨18446744073709551616≤j6 w
 ·rw[if_pos h,if_neg]
  rintro⟨a,b,c,d⟩;rcases h with h|h|⟨h,g⟩|h|h
  ·exact a (aY.1 h)
  ·have hd:=It (j6 w)
   rw[d]at hd;have f:w.head?≠some 48:=fun e=>by have:=hd e;omega
   have:=(LJ w b a hd).2 f;have:10^20≤10^(w.length-1):=Nat.pow_le_pow_right (by omega) (by omega);omega
  ·have hd:=It (j6 w)
   rw[d]at hd;have:=hd h;omega
  ·rw[b]at h;cases h
  ·omega
 ·rw[if_neg h,if_pos]
  have a:w≠[]:=fun e=>h (.inl (by rw[e];rfl))
  have b:w.all El=true:=by
   cases e:w.all El
   ·exact absurd (.inr (.inr (.inr (.inl e)))) h
   ·rfl
  have c:w.head? =some 48→w.length=1:=fun e=>by
   have:w.length≠0:=fun e=>h (.inl e)
   have:¬1<w.length:=fun e2=>h (.inr (.inr (.inl ⟨e,e2⟩)))
   omega
  exact⟨a,b,by omega,(LJ w b a c).1⟩
end Go.Proofs
namespace Go.Proofs
inductive Fo where
 |nil:Fo
 |cons (lab:List UInt8) (val:Option ByteArray) (kids rest:Fo):Fo
abbrev Bn:=List UInt8×Option ByteArray×Fo
def Fo.toL:Fo→List Bn
 | .nil=> []
 | .cons lab w kids rest=>(lab,w,kids)::rest.toL
theorem Fo.toL_cons(lab:List UInt8)(w:Option ByteArray)(b a:Fo):(Fo.cons lab w b a).toL=(lab,w,b)::a.toL:=rfl
def Fo.ofL:List Bn→Fo
 | []=>.nil
 |(lab,w,kids)::l=>.cons lab w kids (Fo.ofL l)
theorem Fo.to_of:∀l:List Bn,(Fo.ofL l).toL=l
 | []=>rfl
 |(_,_,_)::l=>by show _::(Fo.ofL l).toL=_;rw[Fo.to_of l]
theorem Fo.of_to:∀F:Fo,Fo.ofL F.toL=F
 | .nil=>rfl
 | .cons lab w kids rest=>by show Fo.cons lab w kids (Fo.ofL rest.toL)=_;rw[Fo.of_to rest]
def rq:Fo→List UInt8→ByteArray→Prop
 | .nil,_,_=>False
 | .cons lab w kids rest,k,v=>(∃r,k=lab++r∧((r= []∧w=some v)∨rq kids r v))∨rq rest k v
def sR(w:Option ByteArray)(F:Fo)(k:List UInt8)(v:ByteArray):Prop:=(k= []∧w=some v)∨rq F k v
def uA(n:Bn)(k:List UInt8)(v:ByteArray):Prop:=∃r,k=n.1++r∧sR n.2.1 n.2.2 r v
theorem gt:∀{F:Fo} {k:List UInt8} {v:ByteArray},rq F k v↔∃n∈F.toL,uA n k v
 | .nil,_,_=>by simp[rq,Fo.toL]
 | .cons lab w kids rest,k,v=>by
  rw[Fo.toL_cons];unfold rq;rw[gt (F:=rest)];constructor
  ·rintro(h|⟨n,a,h⟩)
   ·exact⟨_,aW ..,h⟩
   ·exact⟨n,bj _ a,h⟩
  ·rintro⟨n,a,h⟩
   rcases au.1 a with rfl|a
   ·exact .inl h
   ·exact .inr ⟨n,a,h⟩
def hd(k:List UInt8):Nat:=(k.headD 0).toNat
theorem rZ{a b:List UInt8}(h:a≠[]):hd (a++b)=hd a:=by
 cases a with
 |nil=>exact absurd rfl h
 |cons x a=>rfl
theorem QX(a:List UInt8):hd a<256:=UInt8.toNat_lt _
def ir:Fo→Prop
 | .nil=>True
 | .cons lab w kids rest=>lab≠[]∧(w.isSome∨2≤kids.toL.length)∧ir kids∧(∀n∈rest.toL,hd lab<hd n.1)∧ir rest
def Nh(n:Bn):Prop:=n.1≠[]∧(n.2.1.isSome∨2≤n.2.2.toL.length)∧ir n.2.2
theorem dL:∀{F:Fo},ir F↔F.toL.Pairwise (fun m n=>hd m.1<hd n.1)∧∀n∈F.toL,Nh n
 | .nil=>by simp[ir,Fo.toL]
 | .cons lab w kids rest=>by
  rw[Fo.toL_cons,bE];show(lab≠[]∧(w.isSome∨2≤kids.toL.length)∧ir kids∧(∀n∈rest.toL,hd lab<hd n.1)∧ir rest)↔_
  rw[dL (F:=rest)];constructor
  ·rintro⟨f,g,e,d,c,b⟩
   refine⟨⟨d,c⟩,fun n a=>?_⟩
   rcases au.1 a with rfl|a
   ·exact⟨f,g,e⟩
   ·exact b n a
  ·rintro⟨⟨d,c⟩,b⟩
   have:=b _ (aW ..);exact⟨this.1,this.2.1,this.2.2,d,c,fun n a=>b n (bj _ a)⟩
theorem sL:∀{F:Fo},ir F→∀n∈F.toL,∃r v,sR n.2.1 n.2.2 r v
 | .nil,_,n,a=>by simp[Fo.toL]at a
 | .cons lab w kids rest,h,n,a=>by
  rcases au.1 a with rfl|a
  ·rcases h.2.1 with d|b
   ·obtain⟨v,f⟩:=fU.1 d
    exact⟨[],v,.inl ⟨rfl,f⟩⟩
   ·have c:=sL h.2.2.1
    have⟨m,hm⟩:∃m,m∈kids.toL:=by
     cases hl:kids.toL with
     |nil=>rw[hl]at b;simp at b
     |cons m l=>exact⟨m,aW ..⟩
    obtain⟨r,v,e⟩:=c m hm;exact⟨m.1++r,v,.inr (gt.2 ⟨m,hm,r,rfl,e⟩)⟩
  ·exact sL h.2.2.2.2 n a
theorem Aq{F:Fo}(h:ir F){k:List UInt8}{v:ByteArray}(hi:rq F k v):k≠[]:=by
 obtain⟨n,a,r,rfl,_⟩:=gt.1 hi;have:=((dL.1 h).2 n a).1;intro e;exact this (gv.1 e).1
theorem uR{F:Fo}(h:ir F){k:List UInt8}{v:ByteArray}(hi:rq F k v):∃n∈F.toL,hd n.1=hd k∧uA n k v:=by
 obtain⟨n,a,r,e,b⟩:=gt.1 hi;exact⟨n,a,by rw[e,rZ ((dL.1 h).2 n a).1],r,e,b⟩
theorem vW{F:Fo}(h:ir F){m n:Bn}(hm:m∈F.toL)(f:n∈F.toL)(e:hd m.1=hd n.1):m=n:=by
 have d:=(dL.1 h).1;revert hm f;generalize F.toL=l at*;clear h;induction l with
 |nil=>intro hm;simp at hm
 |cons a l ih=>
  have d:=bE.1 d;intro hm f;rcases au.1 hm with e1|c
  ·rcases au.1 f with e2|b
   ·rw[e1,e2]
   ·have:=d.1 n b;rw[←e1]at this;omega
  ·rcases au.1 f with e2|b
   ·have:=d.1 m c;rw[←e2]at this;omega
   ·exact ih d.2 c b
def Br(P:List UInt8→ByteArray→Prop):Prop:=(∃v,P [] v)∨∃j k u v,P j u∧P k v∧j≠[]∧k≠[]∧hd j≠hd k
theorem Pl{w:Option ByteArray}{F:Fo}(h:ir F):(w.isSome∨2≤F.toL.length)↔Br (sR w F):=by
 constructor
 ·rintro(z|B)
  ·obtain⟨v,c⟩:=fU.1 z
   exact .inl ⟨v,.inl ⟨rfl,c⟩⟩
  ·right
   have d:=sL h;have hc:=dL.1 h;match hL:F.toL,B with
   |a::b::l,_=>
    have i:a∈F.toL:=by rw[hL];simp
    have g:b∈F.toL:=by rw[hL];simp
    obtain⟨r,v,A⟩:=d a i;obtain⟨s,u,d⟩:=d b g;have q:=(hc.2 a i).1;have t:=(hc.2 b g).1;have:=hc.1;rw[hL]at this;have D:=(bE.1 this).1 b (aW ..);refine⟨a.1++r,b.1++s,v,u,.inr (gt.2 ⟨a,i,r,rfl,A⟩),.inr (gt.2 ⟨b,g,s,rfl,d⟩),?_,?_,?_⟩
    ·intro e;exact q (gv.1 e).1
    ·intro e;exact t (gv.1 e).1
    ·rw[rZ q,rZ t];omega
 ·rintro(⟨v,c⟩|⟨j,k,u,v,o,f,y,nk,x⟩)
  ·rcases c with⟨_,c⟩|c
   ·left;rw[c];rfl
   ·exact absurd rfl (Aq h c)
  ·right
   rcases o with⟨e,_⟩|o
   ·exact absurd e y
   rcases f with⟨e,_⟩|f
   ·exact absurd e nk
   obtain⟨m,hm,em,_⟩:=uR h o;obtain⟨n,p,C,_⟩:=uR h f;match hL:F.toL with
   | []=>rw[hL]at hm;simp at hm
   | [a]=>
    rw[hL]at hm p;rw[aN.1 hm]at em;rw[aN.1 p]at C;omega
   |a::b::l=>simp
end Go.Proofs
namespace Go.Proofs
def sr(P a:List UInt8→ByteArray→Prop)(k:List UInt8)(v:ByteArray):Prop:=∀k' v',a k' v'↔(k'=k∧v'=v)∨(k'≠k∧P k' v')
theorem EZ{w:Option ByteArray}{F:Fo}(h:ir F)(v:ByteArray):sr (sR w F) (sR (some v) F) [] v:=by
 intro k' a;unfold sR;constructor
 ·rintro(⟨e,f⟩|hi)
  ·exact .inl ⟨e,(aZ.inj f).symm⟩
  ·exact .inr ⟨Aq h hi,.inr hi⟩
 ·rintro(⟨e,f⟩|⟨e,⟨f,_⟩|hi⟩)
  ·exact .inl ⟨e,by rw[f]⟩
  ·exact absurd f e
  ·exact .inr hi
theorem Ai{w:Option ByteArray}{F a:Fo}{k:List UInt8}{v:ByteArray}(b:k≠[])(h:sr (rq F) (rq a) k v):sr (sR w F) (sR w a) k v:=by
 intro k' d;unfold sR;rw[h k' d];constructor
 ·rintro(⟨e,f⟩|hi|hi)
  ·exact .inr ⟨fun c=>b (c.symm.trans e),.inl ⟨e,f⟩⟩
  ·exact .inl hi
  ·exact .inr ⟨hi.1,.inr hi.2⟩
 ·rintro(hi|⟨e,hi|hi⟩)
  ·exact .inr (.inl hi)
  ·exact .inl hi
  ·exact .inr (.inr ⟨e,hi⟩)
theorem Mn{F:Fo}{k:List UInt8}{v:ByteArray}{i:Nat}(h:ir F)(u:k≠[])(hi:∀j (d:j<F.toL.length),j<i→hd F.toL[j].1<hd k)(g:∀j (d:j<F.toL.length),i≤j→hd k<hd F.toL[j].1):ir (.ofL (F.toL.take i++(k,some v,.nil)::F.toL.drop i))∧sr (rq F) (rq (.ofL (F.toL.take i++(k,some v,.nil)::F.toL.drop i))) k v:=by
 have hc:=dL.1 h;have y:∀n∈F.toL.take i,hd n.1<hd k:=fun n c=>by
  obtain⟨j,d,e⟩:=cP c;rw[aP]at d;rw[←e,List.getElem_take];exact hi j (by omega) (by omega)
 have z:∀n∈F.toL.drop i,hd k<hd n.1:=fun n c=>by
  obtain⟨j,d,e⟩:=cP c;rw[aK]at d;rw[←e,List.getElem_drop];exact g _ (by omega) (by omega)
 have mem:∀n,n∈F.toL.take i++(k,some v,.nil)::F.toL.drop i↔n=(k,some v,Fo.nil)∨n∈F.toL:=fun n=>by
  conv=>rhs;rw[←bO i F.toL]
  simp only[bS,au];exact⟨fun h=>h.elim (fun h=>.inr (.inl h)) fun h=>h.elim .inl fun h=>.inr (.inr h),fun h=>h.elim (fun h=>.inr (.inl h)) fun h=>h.elim .inl fun h=>.inr (.inr h)⟩
 refine⟨dL.2 ⟨?_,?_⟩,fun k' x=>?_⟩
 ·rw[Fo.to_of]
  have m:=hc.1;rw[←bO i F.toL,dP]at m;refine dP.2 ⟨m.1,bE.2 ⟨z,m.2.1⟩,fun a s b o=>?_⟩
  rcases au.1 o with rfl|o
  ·exact y a s
  ·exact m.2.2 a s b o
 ·rw[Fo.to_of]
  intro n c;rcases(mem n).1 c with rfl|c
  ·exact⟨u,.inl rfl,trivial⟩
  ·exact hc.2 n c
 ·rw[gt,gt,Fo.to_of]
  constructor
  ·rintro⟨n,c,r,e,t⟩
   rcases(mem n).1 c with rfl|c
   ·rcases t with⟨rfl,f⟩|f
    ·exact .inl ⟨by rw[e];exact dx _,(aZ.inj f).symm⟩
    ·exact f.elim
   ·right
    refine⟨fun w=>?_,n,c,r,e,t⟩
    have e2:hd k=hd n.1:=by rw[←w,e,rZ (hc.2 n c).1]
    obtain⟨j,d,q⟩:=cP c;rcases bQ j i with p|p
    ·have:=hi j d p;rw[q]at this;omega
    ·have:=g j d p;rw[q]at this;omega
  ·rintro(⟨rfl,rfl⟩|⟨_,n,c,h⟩)
   ·exact⟨(k',some x,.nil),(mem _).2 (.inl rfl),[],(dx _).symm,.inl ⟨rfl,rfl⟩⟩
   ·exact⟨n,(mem _).2 (.inr c),h⟩
theorem kc{α:Type}{l:List α}{i:Nat}(hi:i<l.length){a x:α}(nd:∀j (c:j<l.length),j≠i→l[j]≠l[i]):x∈l.set i a↔x=a∨(x∈l∧x≠l[i]):=by
 constructor
 ·intro h
  obtain⟨j,c,e⟩:=cP h;rw[l4]at c;rw[List.getElem_set]at e;split at e
  ·exact .inl e.symm
  ·rename_i b
   exact .inr ⟨by rw[←e];exact ce c,by rw[←e];exact nd j c fun e=>b e.symm⟩
 ·rintro(rfl|⟨h,b⟩)
  ·exact lx (i:=i) (h:=by simpa using hi) (by simp)
  ·obtain⟨j,c,e⟩:=cP h
   have:i≠j:=by rintro rfl;exact b e.symm
   exact lx (i:=j) (h:=by simpa using c) (by rw[List.getElem_set_ne this];exact e)
theorem LN{F:Fo}{i:Nat}{m:Bn}(h:ir F)(hi:i<F.toL.length)(hm:Nh m)(e:hd m.1=hd F.toL[i].1):ir (.ofL (F.toL.set i m)):=by
 have hc:=dL.1 h;rw[dL,Fo.to_of];refine⟨?_,fun n g=>?_⟩
 ·rw[cR]at hc⊢
  intro a b f d c;rw[l4]at f d;rw[List.getElem_set,List.getElem_set];split
  ·rename_i ea;subst ea
   rw[if_neg (by omega),e];exact hc.1 _ _ f d c
  ·split
   ·rename_i eb;subst eb
    rw[e];exact hc.1 _ _ f d c
   ·exact hc.1 _ _ f d c
 ·rcases List.mem_or_eq_of_mem_set g with g|rfl
  ·exact hc.2 n g
  ·exact hm
theorem tB{F:Fo}(h:ir F){i:Nat}(hi:i<F.toL.length)(j:Nat)(c:j<F.toL.length)(a:j≠i):F.toL[j]≠F.toL[i]:=by
 have hc:=(dL.1 h).1;rw[cR]at hc;intro e;rcases Nat.lt_or_gt_of_ne a with b|b
 ·have:=hc j i c hi b;rw[e]at this;omega
 ·have:=hc i j hi c b;rw[e]at this;omega
theorem HL{F:Fo}{i:Nat}{m:Bn}{k:List UInt8}{v:ByteArray}(h:ir F)(hi:i<F.toL.length)(ek:hd F.toL[i].1=hd k)(g:sr (uA F.toL[i]) (uA m) k v):sr (rq F) (rq (.ofL (F.toL.set i m))) k v:=by
 intro k' f;have hc:=dL.1 h;rw[gt,gt,Fo.to_of];constructor
 ·rintro⟨n,a,c⟩
  rcases(kc hi (tB h hi)).1 a with rfl|⟨a,d⟩
  ·rcases(g k' f).1 c with b|⟨b,o⟩
   ·exact .inl b
   ·exact .inr ⟨b,_,ce hi,o⟩
  ·refine .inr ⟨fun e=>d ?_,n,a,c⟩
   obtain⟨r,j,_⟩:=c;refine vW h a (ce hi) ?_;rw[ek,←e,j,rZ (hc.2 n a).1]
 ·rintro(b|⟨b,n,a,c⟩)
  ·exact⟨m,(kc hi (tB h hi)).2 (.inl rfl),(g k' f).2 (.inl b)⟩
  ·by_cases e:n=F.toL[i]
   ·exact⟨m,(kc hi (tB h hi)).2 (.inl rfl),(g k' f).2 (.inr ⟨b,by rw[←e];exact c⟩)⟩
   ·exact⟨n,(kc hi (tB h hi)).2 (.inr ⟨a,e⟩),c⟩
theorem Mm{lab r:List UInt8}{w w':Option ByteArray}{F f:Fo}{v:ByteArray}(h:sr (sR w F) (sR w' f) r v):sr (uA (lab,w,F)) (uA (lab,w',f)) (lab++r) v:=by
 intro k' b;constructor
 ·rintro⟨s,e,c⟩
  rcases(h s b).1 c with⟨rfl,rfl⟩|⟨d,g⟩
  ·exact .inl ⟨e,rfl⟩
  ·exact .inr ⟨fun a=>d (List.append_cancel_left (e.symm.trans a)),s,e,g⟩
 ·rintro(⟨rfl,rfl⟩|⟨d,s,e,c⟩)
  ·exact⟨r,rfl,(h r b).2 (.inl ⟨rfl,rfl⟩)⟩
  ·exact⟨s,e,(h s b).2 (.inr ⟨fun a=>d (by rw[e,a]),c⟩)⟩
def cm:List UInt8→List UInt8→Nat
 |a::x,b::y=>if a=b then cm x y+1 else 0
 |_,_=>0
theorem QZ:∀(x y:List UInt8),cm x y≤x.length∧cm x y≤y.length
 | [],_=>by simp[cm]
 |_::_,[]=>by simp[cm]
 |a::x,b::y=>by unfold cm;have:=QZ x y;split<;>simp<;>omega
theorem LL:∀(x y:List UInt8),x.take (cm x y)=y.take (cm x y)
 | [],_=>by simp[cm]
 |_::_,[]=>by simp[cm]
 |a::x,b::y=>by
  unfold cm;split
  ·rename_i e;rw[List.take_succ_cons,List.take_succ_cons,LL x y,e]
  ·simp
theorem LM:∀(x y:List UInt8),cm x y<x.length→cm x y<y.length→hd (x.drop (cm x y))≠hd (y.drop (cm x y))
 | [],_=>by simp[cm]
 |_::_,[]=>by simp[cm]
 |a::x,b::y=>by
  unfold cm;split
  ·rename_i e
   intro c d;rw[aV]at c d;rw[List.drop_succ_cons,List.drop_succ_cons];exact LM x y (by omega) (by omega)
  ·rename_i e
   intro _ _ h;exact e (jD.1 h)
theorem RL{x y:List UInt8}(hx:x≠[])(c:y≠[])(h:hd x=hd y):0<cm x y:=by
 match x,y,hx,c with
 |a::x,b::y,_,_=>
  unfold cm;rw[if_pos (show a=b from jD.1 h)]
  omega
theorem Fg{lab:List UInt8}{w:Option ByteArray}{F:Fo}(c:Nat):∀k v,uA (lab.take c,none,.cons (lab.drop c) w F .nil) k v↔uA (lab,w,F) k v:=by
 intro k v;constructor
 ·rintro⟨r,e,⟨_,h⟩|(⟨s,rfl,h⟩|h)⟩
  ·cases h
  ·exact⟨s,by rw[e];simp only;rw[←aF,bO],h⟩
  ·exact h.elim
 ·rintro⟨s,e,h⟩
  exact⟨lab.drop c++s,by rw[e];simp only;rw[←aF,bO],.inr (.inl ⟨s,rfl,h⟩)⟩
theorem Pk{lab r:List UInt8}{w w':Option ByteArray}{F d:Fo}{v:ByteArray}(c:lab≠[])(g:w.isSome∨2≤F.toL.length)(i:ir F)(a:r≠[]→hd r≠hd lab)(h:sr (sR none (.cons lab w F .nil)) (sR w' d) r v):Br (sR w' d):=by
 by_cases e:r= []
 ·subst e
  exact .inl ⟨v,(h [] v).2 (.inl ⟨rfl,rfl⟩)⟩
 ·have hc:ir (.cons lab w F .nil):=⟨c,g,i,fun n j=>by simp[Fo.toL]at j,trivial⟩
  obtain⟨s,u,f⟩:=sL hc _ (aW ..);simp only at f;have e2:hd (lab++s)=hd lab:=rZ c;refine .inr ⟨r,lab++s,v,u,(h r v).2 (.inl ⟨rfl,rfl⟩),(h _ u).2 (.inr ⟨fun b=>a e (by rw[←b,e2]),.inr (.inl ⟨s,rfl,f⟩)⟩),e,fun b=>c (gv.1 b).1,by rw[e2];exact a e⟩
theorem QF{P g:List UInt8→ByteArray→Prop}{k:List UInt8}{v:ByteArray}(d:Br P)(h:sr P g k v):Br g:=by
 have keep:∀j u,P j u→∃c,g j c:=fun j u f=>by
  by_cases e:j=k
  ·exact⟨v,(h j v).2 (.inl ⟨e,rfl⟩)⟩
  ·exact⟨u,(h j u).2 (.inr ⟨e,f⟩)⟩
 rcases d with⟨u,n⟩|⟨j,k',u,c,f,i,r⟩
 ·obtain⟨c,h'⟩:=keep [] u n
  exact .inl ⟨c,h'⟩
 ·obtain⟨a,m⟩:=keep j u f
  obtain⟨b,d⟩:=keep k' c i;exact .inr ⟨j,k',a,b,m,d,r⟩
end Go.Proofs
namespace Go.Proofs
open Go Go.Lift
end Go.Proofs
namespace Go.Proofs
open Go Go.Lift
def Fit(l:List Pr):Prop:=∀p∈l,p.1.size≤10000∧p.2.size≤10000
end Go.Proofs
namespace Go.Proofs
open Go Go.Lift
end Go.Proofs
namespace Go.Proofs
open Go Go.Lift
def Rk(l:List Pr):Option Pr:=match l with| [p]=>some p|_=>none
def Rw(l:List Pr):Option (List Pr):=if 2≤l.length then some l else none
def ye(x:Hs)(lev:Nat)(l:List Pr):List Pr:=fm (fun c=>Rk (part x lev c l)) 32
def QV(x:Hs)(lev:Nat)(l:List Pr):List (List Pr):=fm (fun c=>Rw (part x lev c l)) 32
theorem Rl{W:Nat→Prop}{x:Hs}{h:ad}{m:Nat}{s:Slots}{c:Nat}{l:List Pr}(t:SlotIs W x h m s c l):s.p c=Rk l∧(s.k c).isSome=(Rw l).isSome:=by
 rcases t with⟨rfl,e,d⟩|⟨p,rfl,e,d⟩|⟨f,e,g,d,_⟩
 ·rw[e,d];exact⟨rfl,rfl⟩
 ·rw[e,d];exact⟨rfl,rfl⟩
 ·rw[e,d]
  refine⟨?_,by simp[Rw,f]⟩
  match l,f with
  |a::b::l,_=>rfl
theorem Qw{β:Type}(g:Nat→Option β)(n:Nat):fm g (n+1)=fm g n++(g n).toList:=by
 unfold fm;rw[List.range_succ,List.filterMap_append];cases h:g n<;>simp[h]
theorem P3{W:Nat→Prop}{x:Hs}{h:ad}{m lev:Nat}{s:Slots}{l:List Pr}(a:∀c,c<32→SlotIs W x h m s c (part x lev c l)):fm s.p 32=ye x lev l:=
 SN _ fun c hc=>(Rl (a c (List.mem_range.1 hc))).1
end Go.Proofs
namespace Go.Proofs
open Go Go.Lift
theorem Ak(x:Hs)(lev:Nat)(l:List Pr):∀n,(((List.range n).map fun c=>(part x lev c l).length).sum)=(l.filter fun p=>decide (ck x lev p.1<n)).length
 |0=>by
  have:(l.filter fun p=>decide (ck x lev p.1<0))= []:=List.filter_eq_nil_iff.2 fun p _=>by simp
  rw[this];rfl
 |n+1=>by
  rw[List.range_succ,List.map_append,List.sum_append,Ak x lev l n];simp only[cn,List.map_nil,List.sum_cons,List.sum_nil,Nat.add_zero];unfold part;clear Ak;induction l with
  |nil=>rfl
  |cons p l ih=>
   simp only[List.filter_cons,decide_eq_true_iff];split<;>split<;>split<;>first|omega|(simp only[aV];omega)
end Go.Proofs
namespace Go.Proofs
open Go Go.Lift
theorem Mz{x:Hs}{lev:Nat}{l:List Pr}{p:Pr}(h:p∈ye x lev l):p∈l:=by
 unfold ye fm at h;obtain⟨c,_,hc⟩:=List.mem_filterMap.1 h;unfold Rk at hc;split at hc
 ·rename_i q hq
  cases hc;have:p∈part x lev c l:=by rw[hq];exact aN.2 rfl
  exact(ql.1 this).1
 ·cases hc
theorem Fit.part{x:Hs}{lev c:Nat}{l:List Pr}(h:Fit l):Fit (part x lev c l):=fun p a=>h p (ql.1 a).1
end Go.Proofs
namespace Go.Proofs
open Go Go.Lift
end Go.Proofs
namespace Go.Proofs
open Go Go.Lift
end Go.Proofs
namespace Go.Proofs
open Go Go.Lift
def CM(lab:ByteArray)(has:Bool)(val:ByteArray)(s:SliceV)(ow:Option Addr):Array Value:= #[.string lab,.bool has,.string val,sv s,.pointer ow]
theorem vw{w:Option ByteArray}{val:ByteArray}(h:val=w.getD ⟨#[]⟩):∀v,w=some v→val=v:=fun v e=>by rw[h,e];rfl
def RxF(W:Nat→Prop)(h:ad):Fo→List (Option Addr)→Prop
 | .nil,ks=>ks= []
 | .cons lab w kids rest,ks=>∃b sl val s ow ks1 ks',ks=some ⟨b,0,none⟩::ks'∧sl.data.toList=lab∧h[b]? =some (.cells (CM sl w.isSome val s ow) bC (0,0))∧val=w.getD ⟨#[]⟩∧Sl tl 1 W h s ks1∧(s.len≤s.cap∧¬W b)∧RxF W h kids ks1∧RxF W h rest ks'
def RxN(W:Nat→Prop)(h:ad)(b:Nat)(sl:ByteArray)(w:Option ByteArray)(F:Fo):Prop:=∃val s ow ks,h[b]? =some (.cells (CM sl w.isSome val s ow) bC (0,0))∧val=w.getD ⟨#[]⟩∧Sl tl 1 W h s ks∧(s.len≤s.cap∧¬W b)∧RxF W h F ks
def Kid(W:Nat→Prop)(h:ad)(k:Option Addr)(n:Bn):Prop:=∃b sl,k=some ⟨b,0,none⟩∧sl.data.toList=n.1∧RxN W h b sl n.2.1 n.2.2
def RxL(W:Nat→Prop)(h:ad)(ks:List (Option Addr))(L:List Bn):Prop:=ks.length=L.length∧∀p∈ks.zip L,Kid W h p.1 p.2
theorem kE{W:Nat→Prop}{h:ad}:∀{F:Fo} {ks:List (Option Addr)},RxF W h F ks↔RxL W h ks F.toL
 | .nil,ks=>by
  unfold RxF RxL;simp[Fo.toL]
 | .cons lab w kids rest,ks=>by
  unfold RxF RxL;rw[Fo.toL_cons];constructor
  ·rintro⟨b,sl,val,s,ow,c,d,rfl,e1,e2,m,f,g,j,o⟩
   obtain⟨t,q⟩:=kE.1 o;refine⟨by simp[t],fun p a=>?_⟩
   rw[mh]at a;rcases au.1 a with rfl|a
   ·exact⟨b,sl,rfl,e1,val,s,ow,c,e2,m,f,g,j⟩
   ·exact q p a
  ·cases ks with
   |nil=>rintro⟨e,_⟩;simp at e
   |cons k d=>
    rintro⟨e,a⟩;rw[mh]at a;obtain⟨b,sl,n,e1,val,s,ow,c,e2,m,f,g,j⟩:=a _ (aW ..);refine⟨b,sl,val,s,ow,c,d,by rw[←n],e1,e2,m,f,g,j,kE.2 ⟨by simpa using e,fun p i=>a p (bj _ i)⟩⟩
theorem RxF.upd0{W:Nat→Prop}{h h':ad}(k:Upd No h h'):∀{F:Fo} {ks:List (Option Addr)},RxF W h F ks→RxF W h' F ks
 | .nil,_,r=>r
 | .cons _ _ _ _,_,⟨b,sl,val,s,ow,ks1,ks',e0,e1,e2,e3,e4,e5,e6,e7⟩=>⟨b,sl,val,s,ow,ks1,ks',e0,e1,k.get0 e2,e3,e4.upd k fun _ h=>h.elim,e5,RxF.upd0 k e6,RxF.upd0 k e7⟩
theorem RxN.upd0{W:Nat→Prop}{h h':ad}(k:Upd No h h'){b:Nat}{sl:ByteArray}{w:Option ByteArray}{F:Fo}:RxN W h b sl w F→RxN W h' b sl w F
 |⟨val,s,ow,ks,e2,e3,e4,e5,e6⟩=>⟨val,s,ow,ks,k.get0 e2,e3,e4.upd k fun _ h=>h.elim,e5,RxF.upd0 k e6⟩
theorem Kid.upd0{W:Nat→Prop}{h h':ad}(k:Upd No h h'){a:Option Addr}{n:Bn}:Kid W h a n→Kid W h' a n
 |⟨b,sl,e1,e2,e3⟩=>⟨b,sl,e1,e2,e3.upd0 k⟩
theorem RxF.less{W W':Nat→Prop}{h:ad}(hm:∀b,W' b→W b∨h.size≤b):∀{F:Fo} {ks:List (Option Addr)},RxF W h F ks→RxF W' h F ks
 | .nil,_,r=>r
 | .cons _ _ _ _,_,⟨b,sl,val,s,ow,ks1,ks',e0,e1,e2,e3,e4,e5,e6,e7⟩=>⟨b,sl,val,s,ow,ks1,ks',e0,e1,e2,e3,e4.less hm,⟨e5.1,fun hx=>(hm _ hx).elim e5.2 fun h=>by have:=bp e2;omega⟩,RxF.less hm e6,RxF.less hm e7⟩
theorem RxN.less{W W':Nat→Prop}{h:ad}(hm:∀b,W' b→W b∨h.size≤b){b:Nat}{sl:ByteArray}{w:Option ByteArray}{F:Fo}:RxN W h b sl w F→RxN W' h b sl w F
 |⟨val,s,ow,ks,e2,e3,e4,e5,e6⟩=>⟨val,s,ow,ks,e2,e3,e4.less hm,⟨e5.1,fun hx=>(hm _ hx).elim e5.2 fun h=>by have:=bp e2;omega⟩,RxF.less hm e6⟩
theorem RxF.updM{W M:Nat→Prop}{h h':ad}(k:Upd M h h')(hm:∀b,M b→W b∨h.size≤b):∀{F:Fo} {ks:List (Option Addr)},RxF W h F ks→RxF W h' F ks
 | .nil,_,r=>r
 | .cons _ _ _ _,_,⟨b,sl,val,s,ow,ks1,ks',e0,e1,e2,e3,e4,e5,e6,e7⟩=>⟨b,sl,val,s,ow,ks1,ks',e0,e1,k.get e2 (fun hx=>(hm _ hx).elim e5.2 fun h=>by have:=bp e2;omega),e3,e4.upd k hm,e5,RxF.updM k hm e6,RxF.updM k hm e7⟩
theorem RxN.updM{W M:Nat→Prop}{h h':ad}(k:Upd M h h')(hm:∀b,M b→W b∨h.size≤b){b:Nat}{sl:ByteArray}{w:Option ByteArray}{F:Fo}:RxN W h b sl w F→RxN W h' b sl w F
 |⟨val,s,ow,ks,e2,e3,e4,e5,e6⟩=>⟨val,s,ow,ks,k.get e2 (fun hx=>(hm _ hx).elim e5.2 fun h=>by have:=bp e2;omega),e3,e4.upd k hm,e5,RxF.updM k hm e6⟩
theorem RxL.upd0{W:Nat→Prop}{h h':ad}(k:Upd No h h'){ks:List (Option Addr)}{L:List Bn}(r:RxL W h ks L):RxL W h' ks L:=⟨r.1,fun p a=>(r.2 p a).upd0 k⟩
theorem RxL.app{W:Nat→Prop}{h:ad}{ks b:List (Option Addr)}{L c:List Bn}(r:RxL W h ks L)(d:RxL W h b c):RxL W h (ks++b) (L++c):=by
 refine⟨by rw[ai,ai,r.1,d.1],fun p a=>?_⟩
 rw[List.zip_append r.1]at a;rcases bS.1 a with a|a
 ·exact r.2 p a
 ·exact d.2 p a
theorem RxL.one{W:Nat→Prop}{h:ad}{k:Option Addr}{n:Bn}(c:Kid W h k n):RxL W h [k] [n]:=⟨rfl,fun p a=>by rw[mh,List.zip_nil_left]at a;rw[aN.1 a];exact c⟩
theorem RxL.take{W:Nat→Prop}{h:ad}{ks:List (Option Addr)}{L:List Bn}(r:RxL W h ks L)(i:Nat):RxL W h (ks.take i) (L.take i):=by
 refine⟨by rw[aP,aP,r.1],fun p a=>r.2 p ?_⟩
 have:(ks.take i).zip (L.take i)=(ks.zip L).take i:=by rw[lv,lv,List.take_zipWith]
 rw[this]at a;exact List.mem_of_mem_take a
theorem RxL.drop{W:Nat→Prop}{h:ad}{ks:List (Option Addr)}{L:List Bn}(r:RxL W h ks L)(i:Nat):RxL W h (ks.drop i) (L.drop i):=by
 refine⟨by rw[aK,aK,r.1],fun p a=>r.2 p ?_⟩
 have:(ks.drop i).zip (L.drop i)=(ks.zip L).drop i:=by rw[lv,lv,List.drop_zipWith]
 rw[this]at a;exact List.mem_of_mem_drop a
theorem RxL.ins{W:Nat→Prop}{h:ad}{ks:List (Option Addr)}{L:List Bn}(r:RxL W h ks L)(i:Nat){k:Option Addr}{n:Bn}(c:Kid W h k n):RxL W h (ks.take i++k::ks.drop i) (L.take i++n::L.drop i):=by
 have:=(r.take i).app ((RxL.one c).app (r.drop i));exact this
theorem RxL.set{W:Nat→Prop}{h:ad}{ks:List (Option Addr)}{L:List Bn}(r:RxL W h ks L){i:Nat}(hi:i<L.length){k:Option Addr}{n:Bn}(c:Kid W h k n):RxL W h (ks.set i k) (L.set i n):=by
 have:=(r.take i).app ((RxL.one c).app (r.drop (i+1)));rw[cQ,cQ,if_pos (by rw[r.1];exact hi),if_pos hi];exact this
theorem RxL.at{W:Nat→Prop}{h:ad}{ks:List (Option Addr)}{L:List Bn}(r:RxL W h ks L){i:Nat}(hi:i<L.length):∃b sl,ks[i]? =some (some ⟨b,0,none⟩)∧sl.data.toList=L[i].1∧RxN W h b sl L[i].2.1 L[i].2.2:=by
 have a:i<ks.length:=by rw[r.1];exact hi
 have d:i<(ks.zip L).length:=by rw[List.length_zip];omega
 have:=r.2 _ (ce d);rw[List.getElem_zip]at this;obtain⟨b,sl,e1,e2,c⟩:=this;exact⟨b,sl,by rw[List.getElem?_eq_getElem a];exact congrArg some e1,e2,c⟩
theorem ET:∀{L:List Bn} {c:Nat},L.Pairwise (fun m n=>hd m.1<hd n.1)→(∀n∈L,c≤hd n.1)→L= []∨c+L.length≤256
 | [],_,_,_=>.inl rfl
 |n::L,c,a,hc=>by
  have a:=bE.1 a;have d:=hc n (aW ..);have b:=QX n.1;rcases ET (c:=hd n.1+1) a.2 fun m hm=>a.1 m hm with e|e
  ·rw[e];right;simp only[bZ];omega
  ·right;rw[aV];omega
theorem vX{F:Fo}(h:ir F):F.toL.length≤256:=by
 rcases ET (c:=0) (dL.1 h).1 fun _ _=>cu _ with e|e
 ·rw[e];simp
 ·omega
theorem fh{h:ad}{b i:Nat}{c:Array Value}(a:h[b]? =some (.cells c bC (0,0))):aE h (adr ⟨b,0,none⟩ i)=c[i]?:=by rw[bJ,aD];exact aI a
theorem PL{h:ad}{b i:Nat}{c:Array Value}(a:h[b]? =some (.cells c bC (0,0))) (hi:i<c.size):Wr h (adr ⟨b,0,none⟩ i):=by rw[bJ,aD];exact gI a hi
theorem D7{h:ad}{b i:Nat}{c c':Array Value}{v:Value}{k:ad→Prop}(d:h[b]? =some (.cells c bC (0,0))) (e:c.setIfInBounds i v=c') (f:∀h',h'[b]? =some (.cells c' bC (0,0))→Upd (· =b) h h'→k h'):At (hset h (adr ⟨b,0,none⟩ i) v) k:=by
 rw[bJ,aD];exact tO d fun h' a g=>f h' (e▸a) g
theorem MJ(s:ByteArray)(i:Nat):s[i]? =s.data.toList[i]?:=by
 rw[Array.getElem?_toList];by_cases h:i<s.size
 ·rw[getElem?_pos s i h,getElem?_pos s.data i h];rfl
 ·rw[getElem?_neg s i h,getElem?_neg s.data i h]
theorem Gw{s:ByteArray}(a:s.data.toList≠[]):∃c:UInt8,s[0]? =some c∧c.toNat=hd s.data.toList:=by
 rw[MJ];match s.data.toList,a with
 |c::l,_=>exact⟨c,rfl,rfl⟩
theorem Ad{W:Nat→Prop}{h:ad}{b:Nat}{sl:ByteArray}{w:Option ByteArray}{F:Fo}(r:RxN W h b sl w F)(hc:ir F){c:Nat}(hc8:c<256){K:Int×Bool→ad→Prop}
  (E:∀i ok,i≤F.toL.length→(∀j (y:j<F.toL.length),j<i→hd F.toL[j].1<c)→(∀j (y:j<F.toL.length),i≤j→c≤hd F.toL[j].1)→(ok=true↔∃hi:i<F.toL.length,hd F.toL[i].1=c)→K ((i:Int),ok) h):HC PG ii [.pointer (some ⟨b,0,none⟩),.int .u8 c] [.c (.int .i64),.c .bool] K h:=by
 refine yW _ c ?_;unfold rD bL;obtain⟨val,s,ow,ks,hb,_,Y,U,hF⟩:=r;refine⟨_,rfl,s,fh (i:=3) hb,?_⟩;have P:=kE.1 hF;have e:=dL.1 hc;have hn:=vX hc;have p:=Y.len;rw[P.1]at p;generalize hLe:F.toL=L at P e hn p E;refine fM s c _ ?_;unfold dh bA dU yu Jn
 have D:∀{i:Nat} (hi:i<L.length) {K:Int→ad→Prop},K ((hd L[i].1:Int)-(c:Int)) h→∃a,s.a=some a∧∃v,aE h (adr a (i*1))=some (.pointer v)∧HV PG (.func (.func ll) #[] #[]) [.pointer v,.int .u8 c] [.c (.int .i64)] K h:=by
  intro i hi K E;obtain⟨kb,G,R,C,N⟩:=P.at hi;obtain⟨a,ha,_,hv⟩:=Y.at0 R;refine⟨a,ha,_,hv,HV.mk' (wr (some ⟨kb,0,none⟩) c ?_)⟩;unfold pR cC;obtain⟨V,kss,kow,kks,S,_⟩:=N;have H:G.data.toList≠[]:=by rw[C];exact(e.2 _ (ce hi)).1
  obtain⟨u,hu,O⟩:=Gw H;refine⟨_,rfl,G,fh (i:=0) S,u,Int.le_refl _,hu,?_⟩;simp only[Bd];have f:=QX L[i].1;rw[O,C,j2 (x:=(hd L[i].1:Int)) (by omega),j2 (x:=(c:Int)) (by omega),j2 (by omega)];exact E
 have mono:∀i j (hi:i<L.length) (y:j<L.length),i<j→hd L[i].1<hd L[j].1:=fun i j hi y d=>cR.1 e.1 i j hi y d
 refine LoopP.ghost (fun(g:Nat×Nat) (t:Int×Int) h'=>t.1=(g.1:Int)∧t.2=(g.2:Int)∧g.1≤g.2∧g.2≤L.length∧h'=h∧(∀j (y:j<L.length),j<g.1→hd L[j].1<c)∧(∀j (y:j<L.length),g.2≤j→c≤hd L[j].1)) (fun g=>g.2-g.1) (0,L.length)
  ⟨rfl,by simp only;omega,by simp,by simp,rfl,fun j y h=>by omega,fun j y h=>by simp only at h;omega⟩ ?_
 rintro I ⟨i,j⟩ ⟨ti,tj⟩ h' ⟨e1,e2,d,n,rfl,o,k⟩ Z;simp only at e1 e2 d n o k;subst e1 e2;refine aG (fun f=>?_) fun Q=>?_
 ·have f:i<j:=by have:(i:Int)<(j:Int):=f;omega
  have em:ac .i64 (Int.fdiv (ac .u64 (ac .i64 ((i:Int)+(j:Int)))) (2^(min (1:Int).toNat (af .u64))))=(((i+j)/2:Nat):Int):=by
   have e3:(2^(min (1:Int).toNat (af .u64)):Int)=2:=rfl;rw[e3,j2 (x:=(i:Int)+(j:Int)) (by omega),Go.IntWalk.u64_in _ (by omega),Int.fdiv_eq_ediv_of_nonneg _ (by omega),j2 (by omega)];omega
  refine⟨by decide,?_⟩;simp only[Bd];rw[em];generalize hm:(i+j)/2=m;have A:m<L.length:=by omega
  refine⟨by omega,?_⟩;refine D A ?_;refine aG (fun hneg=>?_) fun X=>?_
  ·refine Z (m+1,j) _ _ ⟨by simp only;rw[j2 (by omega)];omega,rfl,by simp only;omega,n,rfl,fun q J B=>?_,k⟩ (by simp only;omega)
   simp only at B;rcases bQ q m with h|h
   ·have:=mono q m J A h;omega
   ·have:q=m:=by omega
    subst this;omega
  ·refine Z (i,m) _ _ ⟨rfl,rfl,by simp only;omega,by simp only;omega,rfl,o,fun q J B=>?_⟩ (by simp only;omega)
   simp only at B;rcases bQ m q with h|h
   ·have:=mono m q A J h;omega
   ·have:q=m:=by omega
    subst this;omega
 ·have d:i=j:=by have:¬(i:Int)<(j:Int):=Q;omega
  subst d;refine aG (fun f=>?_) fun T=>?_
  ·have z:i<L.length:=by have:(i:Int)<(s.len:Int):=f;omega
   refine⟨by simp only;omega,?_⟩;refine D z ?_;refine E i _ n o k ?_;rw[beq_iff_eq];exact⟨fun h=>⟨z,by omega⟩,fun⟨_,h⟩=>by omega⟩
  ·have z:i=L.length:=by have:¬(i:Int)<(s.len:Int):=T;omega
   exact E i false n o k ⟨fun h=>(by cases h),fun h=>(by obtain⟨h,_⟩:=h;omega)⟩
end Go.Proofs
