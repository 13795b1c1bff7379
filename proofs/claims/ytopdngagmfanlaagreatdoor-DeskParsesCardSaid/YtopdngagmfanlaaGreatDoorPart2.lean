/- A part of the proof that the named laws of this program answer true, whatever the input. -/
import Derived.Test.YtopdngagmfanlaaGreatDoorPart1
open BitVec renaming ofInt→aq
open Bool renaming eq_iff_iff→oy
open Go.IntKind renaming bits→ag,wrap→ac
open Int renaming toNat_natCast→ak
open List renaming mem_singleton→aQ,pairwise_singleton→eR,pairwise_cons→cc,mem_cons→ar,any_eq_true→cj,length_cons→ay,flatMap_cons→bH,map_cons→cN,length_singleton→ct,all_cons→vL,all_append→rQ,length_eq_zero_iff→bj,length_append→ai,mem_cons_self→aN,mem_cons_of_mem→aI,append_eq_nil_iff→iT,getElem_of_mem→dC,length_take→aY,length_drop→aS,take_append_drop→bQ,mem_append→bL,pairwise_append→eZ,append_nil→cE,length_set→ox,getElem_mem→bV,mem_of_getElem→nI,pairwise_iff_getElem→dE,append_assoc→aK,zip_cons_cons→oJ,zip_eq_zipWith→nG,set_eq_take_append_cons_drop→dD
open List.Pairwise renaming nil→jZ
open Nat renaming lt_of_lt_of_le→aO,zero_add→aP,zero_le→bc,le_trans→bv,le_refl→au,strongRecOn→lA,lt_or_ge→cC
open Option renaming isSome_iff_exists→fK,some→bp
open UInt8 renaming ofNat→cp,toNat_inj→jD
namespace Go.Proofs
open Go.Lift
theorem Yw(a b:Nat):(aq (ag .u64) (a:Int)&&&aq (ag .u64) (b:Int)).toNat=(a%18446744073709551616)&&&(b%18446744073709551616):=by
 simp[ag,BitVec.toNat_and,BitVec.toNat_ofInt];rfl
theorem Zy{a:Int}(d:0≤a∧a<18446744073709551616){lev:Nat}(g:lev<13){h:ad}{K:Int→ad→Prop}(c:K (((a.toNat>>>(5*lev))%32:Nat):Int) h):HC PG mA [.int .u64 a,.int .i64 lev] [.c (.int .i64)] K h:=by
 refine QH a lev ?_;unfold H4;refine Join.plain (aF (fun h=>by omega) fun _=>?_)
 rw[decide_eq_false (by omega)];refine af.2 ?_;have f:ac .i64 (5*(lev:Int))=((5*lev:Nat):Int):=by rw[kD (by omega)];omega
 rw[f];have em:min (((5*lev:Nat):Int)).toNat (ag .u64)=5*lev:=by rw[ak];exact Nat.min_eq_left (by show 5*lev≤64;omega)
 rw[em];obtain⟨n,rfl⟩:=Int.eq_ofNat_of_zero_le d.1;rw[ak]at c;simp only[Bd];rw[th];have b:n>>>(5*lev)<18446744073709551616:=Nat.lt_of_le_of_lt (Nat.shiftRight_le _ _) (by omega);have e:=Yw (n>>>(5*lev)) 31;rw[Nat.mod_eq_of_lt b,show((31:Nat):Int)=(31:Int)from rfl,show 31%18446744073709551616=2^5-1 from rfl,Nat.and_two_pow_sub_one_eq_mod]at e
 rw[e];have hm:n>>>(5*lev)%2^5<32:=Nat.mod_lt _ (by omega);rw[Go.IntWalk.u64_in _ (by omega),kD (by omega)];exact⟨by omega,c⟩
theorem Vz{x:Hs}{k:ByteArray}{lev:Nat}(b:lev<13){h:ad}{K:Int→ad→Prop}(a:K (ck x lev k:Int) h):HC PG mA [.int .u64 (jL x k),.int .i64 lev] [.c (.int .i64)] K h:=Zy (NC x k) b a
abbrev TN(x:Hs)(k:ByteArray):Value:=.agg #[.int .u64 x.k0,.int .u64 x.k1,.int .u64 x.mask,.pointer none,.string k,.int .u64 (jL x k)]
theorem M5{x:Hs}{lev c:Nat}{l:List Pr}(h:∀p∈l,ck x lev p.1=c):part x lev c l=l:=List.filter_eq_self.2 fun p a=>decide_eq_true (h p a)
theorem Rf{x:Hs}{lev c:Nat}{l:List Pr}(h:∀p∈l,ck x lev p.1≠c):part x lev c l= []:=List.filter_eq_nil_iff.2 fun p a=>by simpa using h p a
theorem M3{x:Hs}{lev c:Nat}{p:Pr}{l:List Pr}(a:eY l):part x lev c (j8 p l)=if ck x lev p.1=c then j8 p (part x lev c l)else part x lev c l:=by
 have:=Hc p (fun k=>decide (ck x lev k=c)) a
 unfold part;rw[this];by_cases h:ck x lev p.1=c
 ·rw[if_pos h,if_pos (decide_eq_true h)]
 ·rw[if_neg h,if_neg (by simpa using h)]
theorem Q5{p q:Pr}(h:p.1≠q.1):(j8 q [p]).length=2:=by
 rw[mS];by_cases a:kl p.1 q.1
 ·rw[if_pos a];rfl
 ·rw[if_neg a,if_neg h];rfl
theorem Rl{p q r:Pr}(h:r∈j8 q [p]):r=p∨r=q:=(Cl h).symm.imp (fun h=>aQ.1 h) id
theorem gI{β:Type}{g:Nat→Option β}{i c:Nat}{x:Option β}(h:c≠i):upd g i x c=g c:=by unfold upd;rw[if_neg h]
theorem Xm{W:Nat→Prop}{x:Hs}:∀(m:Nat) (p q:Pr),m≤13→p.1≠q.1→∀{h:ad},(∀y,W y→y<h.size)→∀{K:Option Addr→ad→Prop},(∀h' b',TrieAt W x h' m b' (j8 q [p])→Upd No h h'→K (some ⟨b',0,none⟩) h')→
  HC PG l7 [TN x q.1,.agg #[.string p.1,.string p.2],.agg #[.string q.1,.string q.2],.int .i64 ((13-m:Nat):Int)] [.c .ptr] K h:=by
 intro m;induction m with
 |zero=>
  intro p q _ G h R K O;have B:∀{h'},Upd No h h'→∀y,W y→y<h'.size:=fun k y V=>aO (R y V) k.size
  refine uG (x.k0,x.k1,x.mask,none,q.1,jL x q.1) p q ((13-0:Nat):Int) ?_;unfold pI ah Av rD ae ao hG mL pW AU KZ Gi;have k1:=Upd.hnew No h [.int .u64 x.k0,.int .u64 x.k1,.int .u64 x.mask,.pointer none,.string q.1,.int .u64 (jL x q.1)] cO;have b1:=bF h [.int .u64 x.k0,.int .u64 x.k1,.int .u64 x.mask,.pointer none,.string q.1,.int .u64 (jL x q.1)] cO
  refine bi ?_;simp only[df h];generalize hnew h [.int .u64 x.k0,.int .u64 x.k1,.int .u64 x.mask,.pointer none,.string q.1,.int .u64 (jL x q.1)] cO=h1 at k1 b1;have C:=Upd.hnew No h1 [.string p.1,.string p.2] az;have b2:=bF h1 [.string p.1,.string p.2] az;refine bi ?_;simp only[df h1];generalize hnew h1 [.string p.1,.string p.2] az=h2 at C b2
  have z:=Upd.hnew No h2 [.string q.1,.string q.2] az;have b3:=bF h2 [.string q.1,.string q.2] az;refine bi ?_;simp only[df h2];generalize hnew h2 [.string q.1,.string q.2] az=h3 at z b3;have d:∀{h':ad},Upd No h3 h'→∀i,aD h' (adr ⟨h.size,0,none⟩ i)=(#[.int .u64 x.k0,.int .u64 x.k1,.int .u64 x.mask,.pointer none,.string q.1,.int .u64 (jL x q.1)]:Array Value)[i]?:=fun k i=>by
   rw[ce,aW (k.get0 (z.get0 (C.get0 b1))),aP]
  have u:∀{h':ad},Upd No h3 h'→∀i,aD h' (adr ⟨h1.size,0,none⟩ i)=(#[.string p.1,.string p.2]:Array Value)[i]?:=fun k i=>by rw[ce,aW (k.get0 (z.get0 b2)),aP]
  have o:∀{h':ad},Upd No h3 h'→∀i,aD h' (adr ⟨h2.size,0,none⟩ i)=(#[.string q.1,.string q.2]:Array Value)[i]?:=fun k i=>by rw[ce,aW (k.get0 b3),aP]
  have r:=Upd.refl No h3;refine aA.2 ⟨none,d r 3,p.1,u r 0,p.2,u r 1,none,d r 3,q.1,o r 0,q.2,o r 1,?_⟩;refine Th (B ((k1.tr C).tr z)) fun h4 b4 U b=>⟨⟨o b 0,o b 1⟩,d b 3,⟨u b 0,u b 1⟩,d b 3,?_⟩
  refine LG U (B (((k1.tr C).tr z).tr b)) jZ (by simp) p fun X Y J A=>?_
  have n:=b.tr A;refine⟨⟨o n 0,o n 1⟩,d n 3,?_⟩;have e1:Ld [] p= [p]:=F0 p jZ;rw[e1]at J;refine LG J (B (((k1.tr C).tr z).tr n)) (eR ..) (by simp) q fun Q L N v=>?_
  rw[F0 q (eR ..)]at N;exact O Q L N ((((k1.tr C).tr z).tr n).tr v)
 |succ m ih=>
  intro p q hm G h R K O;have B:∀{h'},Upd No h h'→∀y,W y→y<h'.size:=fun k y V=>aO (R y V) k.size
  have Z:13-(m+1)<13:=by omega
  have j:13-(m+1)=12-m:=by omega
  refine uG (x.k0,x.k1,x.mask,none,q.1,jL x q.1) p q ((13-(m+1):Nat):Int) ?_;unfold pI ah Av rD ae ao hG mL pW AU KZ Gi;have k1:=Upd.hnew No h [.int .u64 x.k0,.int .u64 x.k1,.int .u64 x.mask,.pointer none,.string q.1,.int .u64 (jL x q.1)] cO;have b1:=bF h [.int .u64 x.k0,.int .u64 x.k1,.int .u64 x.mask,.pointer none,.string q.1,.int .u64 (jL x q.1)] cO
  refine bi ?_;simp only[df h];generalize hnew h [.int .u64 x.k0,.int .u64 x.k1,.int .u64 x.mask,.pointer none,.string q.1,.int .u64 (jL x q.1)] cO=h1 at k1 b1;have C:=Upd.hnew No h1 [.string p.1,.string p.2] az;have b2:=bF h1 [.string p.1,.string p.2] az;refine bi ?_;simp only[df h1];generalize hnew h1 [.string p.1,.string p.2] az=h2 at C b2
  have z:=Upd.hnew No h2 [.string q.1,.string q.2] az;have b3:=bF h2 [.string q.1,.string q.2] az;refine bi ?_;simp only[df h2];generalize hnew h2 [.string q.1,.string q.2] az=h3 at z b3;have d:∀{h':ad},Upd No h3 h'→∀i,aD h' (adr ⟨h.size,0,none⟩ i)=(#[.int .u64 x.k0,.int .u64 x.k1,.int .u64 x.mask,.pointer none,.string q.1,.int .u64 (jL x q.1)]:Array Value)[i]?:=fun k i=>by
   rw[ce,aW (k.get0 (z.get0 (C.get0 b1))),aP]
  have u:∀{h':ad},Upd No h3 h'→∀i,aD h' (adr ⟨h1.size,0,none⟩ i)=(#[.string p.1,.string p.2]:Array Value)[i]?:=fun k i=>by rw[ce,aW (k.get0 (z.get0 b2)),aP]
  have o:∀{h':ad},Upd No h3 h'→∀i,aD h' (adr ⟨h2.size,0,none⟩ i)=(#[.string q.1,.string q.2]:Array Value)[i]?:=fun k i=>by rw[ce,aW (k.get0 b3),aP]
  have r:=Upd.refl No h3;have ne:(((13-(m+1):Nat):Int)==(13:Int))=false:=by rw[beq_eq_false_iff_ne];omega
  rw[ne];refine af.2 ⟨_,d r 0,_,d r 1,_,d r 2,_,u r 0,_,d r 5,?_⟩;refine Cu fun h4 b=>⟨d b 5,Vz Z ⟨d b 5,Vz Z ?_⟩⟩
  have hi:=Hv x (13-(m+1)) p.1;have hj:=Hv x (13-(m+1)) q.1;have g:=((k1.tr C).tr z);have hcl:=Q5 G;refine CondP.intro (fun e=>?_) fun e=>?_
  ·have e:ck x (13-(m+1)) p.1=ck x (13-(m+1)) q.1:=by have:=eq_of_beq e;omega
   refine⟨_,d b 3,_,d b 0,_,d b 1,_,d b 2,_,d b 3,_,d b 4,_,d b 5,_,u b 0,_,u b 1,_,o b 0,_,o b 1,?_⟩;refine sB (B (g.tr b)) fun X Y F A=>?_
   have a:=b.tr A;refine⟨⟨o a 0,o a 1⟩,⟨u a 0,u a 1⟩,⟨d a 0,d a 1,d a 2,d a 3,d a 4,d a 5⟩,d a 3,?_⟩;have ew:ac .i64 (((13-(m+1):Nat):Int)+1)=((13-m:Nat):Int):=by rw[kD (by omega)];omega
   rw[ew];refine ih p q (by omega) G (B (g.tr a)) fun Q L t6 v=>?_
   have f:=a.tr v;refine⟨d f 3,?_⟩;refine zH (F.upd v fun _ h=>h.elim) (B (g.tr f)) hi (fun y h=>by cases h) ⟨L,0,none⟩ fun T S I E=>?_
   refine O T S ⟨_,I,fun c hc=>?_⟩ ((g.tr f).tr E)
   rw[j]at e;by_cases s:c=ck x (13-(m+1)) p.1
   ·refine .inr (.inr ?_)
    have ea:part x (12-m) c (j8 q [p])=j8 q [p]:=M5 fun r H=>by
     rcases Rl H with rfl|rfl
     ·rw[s,j]
     ·rw[s,j,e]
    rw[ea];exact⟨by omega,by simp[upd],L,by rw[s];exact gZ,TrieAt.upd0 E t6⟩
   ·refine .inl ⟨Rf fun r H=>?_,by simp[upd],gI s⟩
    rw[j]at s;rcases Rl H with rfl|rfl
    ·exact fun e=>s e.symm
    ·rw[←e];exact fun e=>s e.symm
  ·have e:ck x (13-(m+1)) p.1≠ck x (13-(m+1)) q.1:=fun h=>by rw[h]at e;simp at e
   refine⟨_,d b 3,_,u b 0,_,u b 1,_,d b 3,_,o b 0,_,o b 1,?_⟩;refine sB (B (g.tr b)) fun X Y F A=>?_
   have a:=b.tr A;refine⟨⟨o a 0,o a 1⟩,d a 3,⟨u a 0,u a 1⟩,d a 3,?_⟩;refine sW F (B (g.tr a)) hi (fun y h=>by cases h) p fun Q L P v=>?_
   have f:=a.tr v;refine⟨⟨o f 0,o f 1⟩,d f 3,?_⟩;refine sW P (B (g.tr f)) hj (fun y h=>by simp[upd]) q fun T S I E=>?_
   refine O T S ⟨_,I,fun c hc=>?_⟩ ((g.tr f).tr E)
   have t:=M3 (x:=x) (lev:=12-m) (c:=c) (p:=q) (l:= [p]) (eR ..);rw[j]at e;by_cases D:c=ck x (12-m) p.1
   ·have w:ck x (12-m) q.1≠c:=fun h=>e (by omega)
    have e1:part x (12-m) c [p]= [p]:=M5 fun r H=>by rw[aQ.1 H,D]
    rw[if_neg w,e1]at t;exact .inr (.inl ⟨p,t,by simp[upd,j,D,e],by simp[upd]⟩)
   ·have e1:part x (12-m) c [p]= []:=Rf fun r H=>by rw[aQ.1 H];exact fun h=>D h.symm
    rw[e1]at t;by_cases w:c=ck x (12-m) q.1
    ·rw[if_pos w.symm]at t
     exact .inr (.inl ⟨q,t,by simp[upd,j,w],by simp[upd]⟩)
    ·rw[if_neg fun h=>w h.symm]at t
     exact .inl ⟨t,by simp[upd,j,w,D],by simp[upd]⟩
end Go.Proofs
namespace Go.Proofs
open Go.Lift
noncomputable instance memDec (p:Pr) (l:List Pr):Decidable (p∈l):=Classical.propDecidable _
theorem Pj{l:List Pr}(a:eY l){k v w:ByteArray}(b:(k,v)∈l)(c:(k,w)∈l):v=w:=by
 induction l with
 |nil=>cases b
 |cons q l ih=>
  have a:=cc.1 a;rcases ar.1 b with e1|b<;>rcases ar.1 c with e2|c
  ·exact(Prod.mk.inj (e1.trans e2.symm)).2
  ·have:=a.1 _ c;rw[←e1]at this;exact absurd this (fo _)
  ·have:=a.1 _ b;rw[←e2]at this;exact absurd this (fo _)
  ·exact ih a.2 b c
theorem tc{x:Hs}{lev c:Nat}{l:List Pr}{p:Pr}:p∈part x lev c l↔p∈l∧ck x lev p.1=c:=by unfold part;rw[List.mem_filter,decide_eq_true_iff]
theorem Gl{x:Hs}{lev:Nat}{l:List Pr}{k:ByteArray}:cG (part x lev (ck x lev k) l) k=cG l k:=by
 unfold cG;rw[oy,cj,cj];constructor
 ·rintro⟨p,a,e⟩;exact⟨p,(tc.1 a).1,e⟩
 ·rintro⟨p,a,e⟩;exact⟨p,tc.2 ⟨a,by rw[of_decide_eq_true e]⟩,e⟩
theorem A7{x:Hs}{lev c:Nat}{l:List Pr}(a:eY l):eY (part x lev c l):=a.sublist List.filter_sublist
theorem yr{x:Hs}{lev c:Nat}{l:List Pr}:(part x lev c l).length≤l.length:=List.length_filter_le ..
def SlotIs(W:Nat→Prop)(x:Hs)(h:ad)(m:Nat)(s:Slots)(c:Nat)(l:List Pr):Prop:=
 (l= []∧s.p c=none∧s.k c=none)∨(∃p,l= [p]∧s.p c=some p∧s.k c=none)∨(2≤l.length∧s.p c=none∧∃kb,s.k c=some (some ⟨kb,0,none⟩)∧TrieAt W x h m kb l)
theorem SlotIs.upd0{W:Nat→Prop}{x:Hs}{h h':ad}{m:Nat}{s:Slots}{c:Nat}{l:List Pr}(k:Upd No h h')(t:SlotIs W x h m s c l):SlotIs W x h' m s c l:=t.imp id fun o=>o.imp id fun⟨a,b,f,d,e⟩=>⟨a,b,f,d,TrieAt.upd0 k e⟩
theorem Ny(p:Pr):∀{l:List Pr},l.length≤(j8 p l).length
 | []=>bc _
 |q::l=>by
  rw[mS];split
  ·have:=Ny p (l:=l);simp only[ay];omega
  ·split<;>simp
theorem RS{W:Nat→Prop}{x:Hs}{h h':ad}{m b':Nat}{s s':Slots}{l:List Pr}{p:Pr}(b:eY l)(f:Upd No h h')(nd:NodeAt W h' b' s')(d:∀c,c<32→SlotIs W x h m s c (part x (12-m) c l))
  (a:∀c,c≠ck x (12-m) p.1→s'.p c=s.p c∧s'.k c=s.k c)(hi:SlotIs W x h' m s' (ck x (12-m) p.1) (j8 p (part x (12-m) (ck x (12-m) p.1) l))):TrieAt W x h' (m+1) b' (j8 p l):=by
 refine⟨s',nd,fun c hc=>?_⟩
 rw[M3 b];by_cases e:ck x (12-m) p.1=c
 ·rw[if_pos e];subst e;exact hi
 ·rw[if_neg e]
  have t:=SlotIs.upd0 f (d c hc);obtain⟨e1,e2⟩:=a c fun h=>e h.symm
  unfold SlotIs at t;rw[←e1,←e2]at t;exact t
theorem di{a b:ByteArray}:(a.toList==b.toList)=decide (a=b):=by
 rw[oy,beq_iff_eq,decide_eq_true_iff,D6]
theorem X8{W:Nat→Prop}{x:Hs}:∀(m:Nat),m≤13→∀{b:Nat} {l:List Pr} (p:Pr) {h:ad},TrieAt W x h m b l→(∀y,W y→y<h.size)→eY l→l.length≤1000000→∀{K:(Option Addr)×Bool×Bool→ad→Prop},
  (∀h' b' ch,Upd No h h'→TrieAt W x h' m b' (j8 p l)→(ch=false→b'=b)→ch= !decide (p∈l)→K (some ⟨b',0,none⟩, !cG l p.1,ch) h')→
  HC PG ja [TN x p.1,.pointer (some ⟨b,0,none⟩),.agg #[.string p.1,.string p.2],.int .i64 ((13-m:Nat):Int)] [.c .ptr,.c .bool,.c .bool] K h:=by
 intro m;induction m with
 |zero=>
  intro _ b l p h t hW S hn K G;have U:∀{h'},Upd No h h'→∀y,W y→y<h'.size:=fun k y hy=>aO (hW y hy) k.size
  refine wy (x.k0,x.k1,x.mask,none,p.1,jL x p.1) (some ⟨b,0,none⟩) p ((13-0:Nat):Int) ?_;unfold qu ah nv Av iA nN ae ao mL pW AU pf KZ Gi;have k1:=Upd.hnew No h [.int .u64 x.k0,.int .u64 x.k1,.int .u64 x.mask,.pointer none,.string p.1,.int .u64 (jL x p.1)] cO;have b1:=bF h [.int .u64 x.k0,.int .u64 x.k1,.int .u64 x.mask,.pointer none,.string p.1,.int .u64 (jL x p.1)] cO
  refine bi ?_;simp only[df h];generalize hnew h [.int .u64 x.k0,.int .u64 x.k1,.int .u64 x.mask,.pointer none,.string p.1,.int .u64 (jL x p.1)] cO=D at k1 b1;have k2:=Upd.hnew No D [.string p.1,.string p.2] az;have b2:=bF D [.string p.1,.string p.2] az;refine bi ?_;simp only[df D];generalize hnew D [.string p.1,.string p.2] az=d at k2 b2
  have u:∀{h':ad},Upd No d h'→∀i,aD h' (adr ⟨h.size,0,none⟩ i)=(#[.int .u64 x.k0,.int .u64 x.k1,.int .u64 x.mask,.pointer none,.string p.1,.int .u64 (jL x p.1)]:Array Value)[i]?:=fun k i=>by
   rw[ce,aW (k.get0 (k2.get0 b1)),aP]
  have A:∀{h':ad},Upd No d h'→∀i,aD h' (adr ⟨D.size,0,none⟩ i)=(#[.string p.1,.string p.2]:Array Value)[i]?:=fun k i=>by rw[ce,aW (k.get0 b2),aP]
  have r:=Upd.refl No d;have f:=k1.tr k2;have bk:BuckAt W d b l:=BuckAt.upd t f fun _ h=>h.elim
  obtain⟨sp,sk,ow,hb,_⟩:=bk.ex;refine kM hb (aA.2 ⟨_,A r 0,XD bk S (by omega) p.1 fun J v I hv=>?_⟩)
  have put:∀(V:p∉l) {h4:ad},Upd No d h4→HC PG jC [.pointer (some ⟨b,0,none⟩),.pointer none,.agg #[.string p.1,.string p.2]] [.c .ptr] (fun(e15:Option Addr) h16=>K (e15, !cG l p.1,true) h16) h4:=fun V h4 o=>
   LG (bk.upd o fun _ h=>h.elim) (U (f.tr o)) S (by omega) p fun h5 b5 bk5 hu5=>by
    rw[F0 p S]at bk5;exact G h5 b5 true ((f.tr o).tr hu5) bk5 (fun h=>by cases h) (by rw[decide_eq_false V];rfl)
  refine Join.intro (fun t' h'=>t'=decide (p∈l)∧Upd No d h') (fun R hR=>?_) ?_
  ·cases F:cG l p.1 with
   |false=>
    refine af.2 (hR _ _ ⟨?_,I⟩);refine(decide_eq_false fun hm=>?_).symm
    have:cG l p.1=true:=cj.2 ⟨p,hm,decide_eq_true rfl⟩;rw[F]at this;cases this
   |true=>
    have hv:=hv F;refine aA.2 ⟨_,A I 1,hR _ _ ⟨?_,I⟩⟩;rw[di,decide_eq_decide];constructor
    ·intro e
     have e:v=p.2:=e;rw[e]at hv;exact hv
    ·intro hm
     exact Pj S hv (show(p.1,p.2)∈l from hm)
  ·rintro t' h4 ⟨rfl,o⟩
   by_cases hm:p∈l
   ·rw[decide_eq_true hm]
    refine aA.2 ?_;have F:cG l p.1=true:=cj.2 ⟨p,hm,decide_eq_true rfl⟩;have:=G h4 b false (f.tr o) (by rw[FZ S hm];exact bk.upd o fun _ h=>h.elim) (fun _=>rfl) (by rw[decide_eq_true hm];rfl)
    rw[F]at this;exact this
   ·rw[decide_eq_false hm]
    refine af.2 ⟨none,u o 3,_,A o 0,_,A o 1,put hm o⟩
 |succ m ih=>
  intro hm b l p h t hW S hn K G;have U:∀{h'},Upd No h h'→∀y,W y→y<h'.size:=fun k y hy=>aO (hW y hy) k.size
  have hl:13-(m+1)<13:=by omega
  have hlev:13-(m+1)=12-m:=by omega
  refine wy (x.k0,x.k1,x.mask,none,p.1,jL x p.1) (some ⟨b,0,none⟩) p ((13-(m+1):Nat):Int) ?_;unfold qu ah nv Av iA nN ae ao mL pW AU pf KZ Gi;have k1:=Upd.hnew No h [.int .u64 x.k0,.int .u64 x.k1,.int .u64 x.mask,.pointer none,.string p.1,.int .u64 (jL x p.1)] cO;have b1:=bF h [.int .u64 x.k0,.int .u64 x.k1,.int .u64 x.mask,.pointer none,.string p.1,.int .u64 (jL x p.1)] cO
  refine bi ?_;simp only[df h];generalize hnew h [.int .u64 x.k0,.int .u64 x.k1,.int .u64 x.mask,.pointer none,.string p.1,.int .u64 (jL x p.1)] cO=D at k1 b1;have k2:=Upd.hnew No D [.string p.1,.string p.2] az;have b2:=bF D [.string p.1,.string p.2] az;refine bi ?_;simp only[df D];generalize hnew D [.string p.1,.string p.2] az=d at k2 b2
  have u:∀{h':ad},Upd No d h'→∀i,aD h' (adr ⟨h.size,0,none⟩ i)=(#[.int .u64 x.k0,.int .u64 x.k1,.int .u64 x.mask,.pointer none,.string p.1,.int .u64 (jL x p.1)]:Array Value)[i]?:=fun k i=>by
   rw[ce,aW (k.get0 (k2.get0 b1)),aP]
  have A:∀{h':ad},Upd No d h'→∀i,aD h' (adr ⟨D.size,0,none⟩ i)=(#[.string p.1,.string p.2]:Array Value)[i]?:=fun k i=>by rw[ce,aW (k.get0 b2),aP]
  have r:=Upd.refl No d;have f:=k1.tr k2;obtain⟨s,X,hs0⟩:=TrieAt.upd0 f t;have hs:∀c,c<32→SlotIs W x d m s c (part x (12-m) c l):=hs0;have tt:∀{h':ad},Upd No d h'→TrieAt W x h' (m+1) b l:=fun k=>TrieAt.upd0 (f.tr k) t
  obtain⟨d0,n0,sp0,sk0,ow0,hb0,_⟩:=X.ex;refine kM hb0 (af.2 ⟨_,u r 5,Vz hl ?_⟩);rw[hlev];have hi:=Hv x (12-m) p.1;have P:=hs _ hi;have Y:=A7 (x:=x) (lev:=12-m) (c:=ck x (12-m) p.1) S;have hnp:(part x (12-m) (ck x (12-m) p.1) l).length≤1000000:=bv yr hn;have O:p∈part x (12-m) (ck x (12-m) p.1) l↔p∈l:=by rw[tc];exact⟨fun h=>h.1,fun h=>⟨h,rfl⟩⟩
  have Q:=Gl (x:=x) (lev:=12-m) (l:=l) (k:=p.1);have j:=fun{h':ad} {b':Nat} {s':Slots}=>RS (W:=W) (x:=x) (h:=d) (h':=h') (m:=m) (b':=b') (s:=s) (s':=s') (l:=l) (p:=p) S
  generalize hc:ck x (12-m) p.1=c at hi P Y hnp O Q j;generalize hlp:part x (12-m) c l=lc at P Y hnp O Q j;refine GQ X hi fun J I=>?_
  have k4:=Upd.hnew No J [.string (⟨#[]⟩:ByteArray),.string (⟨#[]⟩:ByteArray)] az;have b4:=bF J [.string (⟨#[]⟩:ByteArray),.string (⟨#[]⟩:ByteArray)] az;refine bi ?_;simp only[df J];generalize hnew J [.string (⟨#[]⟩:ByteArray),.string (⟨#[]⟩:ByteArray)] az=h4 at k4 b4;have b4':h4[J.size]? =some (.cells #[.string QV.1,.string QV.2] az (0,0)):=b4
  refine GK (p:=U4 (s.p c)) b4' fun h5 b5 hu5=>?_
  have a:Upd No d h5:=(I.tr k4).trans hu5 fun y hy=>.inr (by have hy:y=J.size:=hy;have:=I.size;omega)
  have w5:∀{h':ad},Upd No h5 h'→∀i,aD h' (adr ⟨J.size,0,none⟩ i)=(#[.string (U4 (s.p c)).1,.string (U4 (s.p c)).2]:Array Value)[i]?:=fun k i=>by rw[ce,aW (k.get0 b5),aP]
  have r5:=Upd.refl No h5;have L:=X.upd a fun _ h=>h.elim
  cases hsp:s.p c with
  |some y=>
   rw[hsp]at w5;obtain⟨C,hk0⟩:lc= [y]∧s.k c=none:=by
    rcases P with⟨_,d,_⟩|⟨q,D,d,J⟩|⟨_,d,_⟩
    ·rw[hsp]at d;cases d
    ·rw[hsp]at d;cases d;exact⟨D,J⟩
    ·rw[hsp]at d;cases d
   refine aA.2 ⟨y.1,w5 r5 0,y.2,w5 r5 1,p.1,A a 0,p.2,A a 1,?_⟩;rw[di,di];have hyl:y∈l:=(tc.1 (show y∈part x (12-m) c l by rw[hlp,C];exact aQ.2 rfl)).1
   by_cases e1:y.1=p.1
   ·have F:cG l p.1=true:=cj.2 ⟨y,hyl,decide_eq_true e1⟩
    rw[F]at G;by_cases e2:y.2=p.2
    ·rw[decide_eq_true e1,decide_eq_true e2]
     have hyp:y=p:=Prod.ext e1 e2;have w:p∈l:=hyp▸hyl;refine aA.2 ?_;exact G h5 b false (f.tr a) (by rw[FZ S w];exact tt a) (fun _=>rfl) (by rw[decide_eq_true w];rfl)
    ·rw[decide_eq_true e1,decide_eq_false e2]
     refine af.2 ⟨y.1,w5 r5 0,p.1,A a 0,?_⟩;rw[di,decide_eq_true e1];refine aA.2 ⟨none,u a 3,p.1,A a 0,p.2,A a 1,?_⟩;refine sW L (U (f.tr a)) hi (fun _ _=>hk0) p fun h6 T nd6 g=>?_
     have N:p∉l:=fun hm=>by
      have:=O.2 hm;rw[C]at this;exact e2 (by rw[aQ.1 this])
     refine G h6 T true ((f.tr a).tr g) (j (a.tr g) nd6 hs (fun c' n=>⟨gI n,gI n⟩) ?_) (fun h=>by cases h) (by rw[decide_eq_false N];rfl)
     refine .inr (.inl ⟨p,?_,gZ,gZ⟩);rw[C,mS,if_neg (by rw[e1];exact fo _),if_pos e1]
   ·rw[decide_eq_false e1]
    refine af.2 ⟨y.1,w5 r5 0,p.1,A a 0,?_⟩;rw[di,decide_eq_false e1];refine af.2 ⟨none,u a 3,_,u a 0,_,u a 1,_,u a 2,_,u a 3,_,u a 4,_,u a 5,y.1,w5 r5 0,y.2,w5 r5 1,p.1,A a 0,p.2,A a 1,?_⟩;have ew:ac .i64 (((12-m:Nat):Int)+1)=((13-m:Nat):Int):=by rw[kD (by omega)];omega
    rw[ew];refine Xm m y p (by omega) e1 (U (f.tr a)) fun h6 T t6 g=>⟨u (a.tr g) 3,?_⟩
    refine zH (L.upd g fun _ h=>h.elim) (U ((f.tr a).tr g)) hi (fun z hz=>by rw[hk0]at hz;cases hz) ⟨T,0,none⟩ fun h7 b7 Z E=>?_
    have F:cG l p.1=false:=by
     rw[←Q,C];unfold cG;rw[List.any_cons,decide_eq_false e1];rfl
    have N:p∉l:=fun hm=>by
     have:cG l p.1=true:=cj.2 ⟨p,hm,decide_eq_true rfl⟩;rw[F]at this;cases this
    rw[F]at G;refine G h7 b7 true (((f.tr a).tr g).tr E) (j ((a.tr g).tr E) Z hs (fun c' n=>⟨gI n,gI n⟩) ?_) (fun h=>by cases h) (by rw[decide_eq_false N];rfl)
    rw[C];exact .inr (.inr ⟨by rw[Q5 e1];omega,gZ,T,gZ,TrieAt.upd0 E t6⟩)
  |none=>
   refine af.2 (FT L hi ?_);cases hsk:s.k c with
   |none=>
    have hlc:lc= []:=by
     rcases P with⟨D,_⟩|⟨q,_,d,_⟩|⟨_,_,kb,d,_⟩
     ·exact D
     ·rw[hsp]at d;cases d
     ·rw[hsk]at d;cases d
    refine aA.2 ⟨none,u a 3,p.1,A a 0,p.2,A a 1,?_⟩;refine sW L (U (f.tr a)) hi (fun _ _=>hsk) p fun h6 T nd6 g=>?_
    have F:cG l p.1=false:=by rw[←Q,hlc];rfl
    have N:p∉l:=fun hm=>by
     have:cG l p.1=true:=cj.2 ⟨p,hm,decide_eq_true rfl⟩;rw[F]at this;cases this
    rw[F]at G;refine G h6 T true ((f.tr a).tr g) (j (a.tr g) nd6 hs (fun c' n=>⟨gI n,gI n⟩) ?_) (fun h=>by cases h) (by rw[decide_eq_false N];rfl)
    rw[hlc];exact .inr (.inl ⟨p,rfl,gZ,gZ⟩)
   |some kp=>
    obtain⟨h2l,kb,rfl,tk⟩:2≤lc.length∧∃kb,kp=some ⟨kb,0,none⟩∧TrieAt W x d m kb lc:=by
     rcases P with⟨_,_,d⟩|⟨q,_,d,_⟩|⟨D,_,kb,d,J⟩
     ·rw[hsk]at d;cases d
     ·rw[hsp]at d;cases d
     ·rw[hsk]at d;cases d;exact⟨D,kb,rfl,J⟩
    refine af.2 ⟨_,u a 0,_,u a 1,_,u a 2,_,u a 3,_,u a 4,_,u a 5,p.1,A a 0,p.2,A a 1,?_⟩;have ew:ac .i64 (((12-m:Nat):Int)+1)=((13-m:Nat):Int):=by rw[kD (by omega)];omega
    rw[ew];refine ih (by omega) p (TrieAt.upd0 a tk) (U (f.tr a)) Y hnp fun h6 T ch g t6 hsame H=>?_
    have B:=a.tr g;by_cases w:p∈l
    ·have H:ch=false:=by rw[H,decide_eq_true (O.2 w)];rfl
     have F:cG l p.1=true:=cj.2 ⟨p,w,decide_eq_true rfl⟩;rw[F]at G;rw[H];refine aA.2 ?_;exact G h6 b false (f.tr B) (by rw[FZ S w];exact tt B) (fun _=>rfl) (by rw[decide_eq_true w];rfl)
    ·have H:ch=true:=by rw[H,decide_eq_false fun h=>w (O.1 h)];rfl
     rw[H];refine af.2 ⟨none,u B 3,?_⟩;refine zH (L.upd g fun _ h=>h.elim) (U ((f.tr a).tr g)) hi (fun _ _=>hsp) ⟨T,0,none⟩ fun h7 b7 Z E=>?_
     rw[Q];refine G h7 b7 true ((f.tr B).tr E) (j (B.tr E) Z hs (fun c' n=>⟨gI n,gI n⟩) ?_) (fun h=>by cases h) (by rw[decide_eq_false w];rfl)
     exact .inr (.inr ⟨bv h2l (Ny p),gZ,T,gZ,TrieAt.upd0 E t6⟩)
end Go.Proofs
namespace Go.Proofs
open Go.Lift
theorem Mj{W:Nat→Prop}{x:Hs}{h:ad}{m b:Nat}(nd:NodeAt W h b ⟨fun _=>none,fun _=>none⟩):TrieAt W x h (m+1) b []:=⟨_,nd,fun _ _=>.inl ⟨rfl,rfl,rfl⟩⟩
def RootAt(W:Nat→Prop)(x:Hs)(h:ad)(r:Option Addr)(l:List Pr):Prop:=(r=none∧l= [])∨∃b,r=some ⟨b,0,none⟩∧TrieAt W x h 13 b l
theorem RootAt.upd0{W:Nat→Prop}{x:Hs}{h h':ad}{r:Option Addr}{l:List Pr}(k:Upd No h h')(t:RootAt W x h r l):RootAt W x h' r l:=t.imp id fun⟨b,e,t⟩=>⟨b,e,TrieAt.upd0 k t⟩
theorem KC{W:Nat→Prop}{x:Hs}{h:ad}{r:Option Addr}{l:List Pr}(t:RootAt W x h r l)(d:∀y,W y→y<h.size){K:Option Addr→ad→Prop}(a:∀h' b,TrieAt W x h' 13 b l→Upd No h h'→(r=some ⟨b,0,none⟩∨r=none)→K (some ⟨b,0,none⟩) h'):HC PG ld [.pointer r] [.c .ptr] K h:=by
 refine L0 r ?_;unfold Dp;rcases t with⟨rfl,rfl⟩|⟨b,rfl,t⟩
 ·refine aA.2 (AD ?_)
  unfold vJ;exact sB d fun h' b nd c=>a h' b (Mj nd) c (.inr rfl)
 ·exact af.2 (a h b t (Upd.refl _ _) (.inl rfl))
theorem dd{h:ad}{b:Nat}{t:TypeId}{c vs:List Value}(a:h[b]? =some (.cells c.toArray t (0,0))) (f:vs.length=c.length) {k:ad→Prop}
  (d:∀h',h'[b]? =some (.cells vs.toArray t (0,0))→Upd (· =b) h h'→k h'):sN h (some ⟨b,0,none⟩) 0 vs∧At (ib h ⟨b,0,none⟩ 0 vs) k:=by
 have e:=jA vs h 0 0 c a (by omega);refine⟨.inr ⟨_,rfl,fun j g=>by rw[ce];exact iM a (by rw[List.size_toArray];omega)⟩,bi ?_⟩
 rw[e];refine d _ ?_ (Upd.set h _ rfl);rw[jo a];congr 3
 simp[f]
set_option maxRecDepth 4000 in
theorem N1{W:Nat→Prop}{x:Hs}{h:ad}{r:Option Addr}{l:List Pr}(t:RootAt W x h r l)(R:∀y,W y→y<h.size)(Y:eY l)(V:l.length≤1000000)(p:Pr){K:Option Addr×Bool→ad→Prop}
  (U:∀h' b',Upd No h h'→TrieAt W x h' 13 b' (j8 p l)→(p∈l→r=some ⟨b',0,none⟩∨r=none)→K (some ⟨b',0,none⟩, !cG l p.1) h'):
  HC PG yT [.agg #[.int .u64 x.k0,.int .u64 x.k1,.int .u64 x.mask],.pointer none,.pointer r,.agg #[.string p.1,.string p.2]] [.c .ptr,.c .bool] K h:=by
 refine Ow (x.k0,x.k1,x.mask) none r p ?_;unfold Fg ah fx rD ae Ac ao mL pW XJ XQ AU;have k1:=Upd.hnew No h [.int .u64 x.k0,.int .u64 x.k1,.int .u64 x.mask] eJ;have b1:=bF h [.int .u64 x.k0,.int .u64 x.k1,.int .u64 x.mask] eJ;refine bi ?_;simp only[df h];generalize hnew h [.int .u64 x.k0,.int .u64 x.k1,.int .u64 x.mask] eJ=h1 at k1 b1
 have P:=Upd.hnew No h1 [.string p.1,.string p.2] az;have b2:=bF h1 [.string p.1,.string p.2] az;refine bi ?_;simp only[df h1];generalize hnew h1 [.string p.1,.string p.2] az=h2 at P b2;have e:∀{h':ad},Upd No h2 h'→∀i,aD h' (adr ⟨h.size,0,none⟩ i)=(#[.int .u64 x.k0,.int .u64 x.k1,.int .u64 x.mask]:Array Value)[i]?:=fun k i=>by
  rw[ce,aW (k.get0 (P.get0 b1)),aP]
 have o:∀{h':ad},Upd No h2 h'→∀i,aD h' (adr ⟨h1.size,0,none⟩ i)=(#[.string p.1,.string p.2]:Array Value)[i]?:=fun k i=>by rw[ce,aW (k.get0 b2),aP]
 have s:=Upd.refl No h2;have q:=k1.tr P;let C:List Value:= [.int .u64 0,.int .u64 0,.int .u64 0,.pointer none,.string (⟨#[]⟩:ByteArray),.int .u64 0]
 let E:List Value:= [.int .u64 x.k0,.int .u64 x.k1,.int .u64 x.mask,.pointer none,.string p.1,.int .u64 (jL x p.1)]
 have z:∀{g:ad} {b:Nat},Upd No h2 g→g[b]? =some (.cells E.toArray cO (0,0))→
   ∃v15:Int,aD g (adr ⟨b,0,none⟩ 0)=some (.int .u64 v15)∧
    ∃v16:Int,aD g (adr ⟨b,0,none⟩ 1)=some (.int .u64 v16)∧
    ∃v17:Int,aD g (adr ⟨b,0,none⟩ 2)=some (.int .u64 v17)∧
    ∃v18:Option Addr,aD g (adr ⟨b,0,none⟩ 3)=some (.pointer v18)∧
    ∃v19:ByteArray,aD g (adr ⟨b,0,none⟩ 4)=some (.string v19)∧
    ∃v20:Int,aD g (adr ⟨b,0,none⟩ 5)=some (.int .u64 v20)∧
    ∃v21:ByteArray,aD g (adr ⟨h1.size,0,none⟩ 0)=some (.string v21)∧
    ∃v22:ByteArray,aD g (adr ⟨h1.size,0,none⟩ 1)=some (.string v22)∧
    HC PG ld [.pointer r] [.c .ptr] (fun(I:Option Addr) f=>
     ((aD f (adr ⟨h1.size,0,none⟩ 0)=some (.string v21)∧aD f (adr ⟨h1.size,0,none⟩ 1)=some (.string v22))∧
      ((aD f (adr ⟨b,0,none⟩ 0)=some (.int .u64 v15)∧aD f (adr ⟨b,0,none⟩ 1)=some (.int .u64 v16)∧aD f (adr ⟨b,0,none⟩ 2)=some (.int .u64 v17)∧aD f (adr ⟨b,0,none⟩ 3)=some (.pointer v18)∧aD f (adr ⟨b,0,none⟩ 4)=some (.string v19)∧aD f (adr ⟨b,0,none⟩ 5)=some (.int .u64 v20))∧
       HC PG ja [.agg #[.int .u64 v15,.int .u64 v16,.int .u64 v17,.pointer v18,.string v19,.int .u64 v20],.pointer I,.agg #[.string v21,.string v22],.int .i64 0] [.c .ptr,.c .bool,.c .bool] (fun(A:(Option Addr)×Bool×Bool) F=>
        K (A.1,A.2.1) F) f))) g:=fun{g b} d H=>by
  have m:∀{h':ad},Upd No g h'→∀i,aD h' (adr ⟨b,0,none⟩ i)=E.toArray[i]?:=fun k i=>by rw[ce,aW (k.get0 H),aP]
  have v:=Upd.refl No g;refine⟨_,m v 0,_,m v 1,_,m v 2,_,m v 3,_,m v 4,_,m v 5,p.1,o d 0,p.2,o d 1,?_⟩;refine KC (t.upd0 (q.tr d)) (fun y B=>aO (R y B) (q.tr d).size) fun S O t5 c L=>?_
  have a:=d.tr c;refine⟨⟨o a 0,o a 1⟩,⟨m c 0,m c 1,m c 2,m c 3,m c 4,m c 5⟩,?_⟩;refine X8 13 (au _) p t5 (fun y B=>aO (R y B) ((q.tr d).tr c).size) Y V fun Q D ch u X Z N=>?_
  refine U Q D ((q.tr a).tr u) X fun hm=>?_
  have G:D=O:=Z (by rw[N,decide_eq_true hm];rfl);rw[G];exact L
 have own:∀{w g:ad} {b:Nat},h2.size≤b→Upd (· =b) w g→Upd No h2 w→Upd No h2 g:=fun G T k=>k.trans T fun y B=>.inr (B▸G)
 refine⟨_,e s 0,_,e s 1,_,e s 2,_,o s 0,_,e s 0,_,e s 1,_,e s 2,_,o s 0,?_,?_⟩
 ·refine Cu fun w j=>⟨o j 0,⟨e j 0,e j 1,e j 2⟩,?_⟩
  have n:=Upd.hnew No w C cO;have J:=bF w C cO;have d:=j.tr n;refine bi ?_;simp only[df w];refine⟨o d 0,⟨e d 0,e d 1,e d 2⟩,?_⟩;refine dd (vs:=E) J rfl fun S O c=>z (own j.size c d) O
 ·have n:=Upd.hnew No h2 C cO
  have J:=bF h2 C cO;refine bi ?_;simp only[df h2];refine⟨o n 0,⟨e n 0,e n 1,e n 2⟩,o n 0,⟨e n 0,e n 1,e n 2⟩,?_⟩;refine Cu fun S c=>?_
  have a:=n.tr c;refine⟨o a 0,⟨e a 0,e a 1,e a 2⟩,?_⟩;exact dd (vs:=E) (c.get0 J) rfl fun Q D u=>z (own (au _) u a) D
end Go.Proofs
namespace Go.Proofs
open Go.Lift
abbrev Ki(b:UInt8):List Value:= [.int .u8 (b.toNat:Int)]
theorem D7(b:UInt8):(Ki b).length=1∧0<1:=⟨rfl,Nat.one_pos⟩
theorem Rh:∀xs:List UInt8,cu (xs.flatMap Ki)=true
 | []=>rfl
 |x::xs=>by rw[bH];exact mQ rfl (Rh xs)
theorem oU(s:ByteArray):cL s=s.data.toList.flatMap Ki:=by
 unfold cL;generalize s.data.toList=l;induction l with
 |nil=>rfl
 |cons b l ih=>rw[cN,bH,ih];rfl
theorem HG{M:Nat→Prop}{h:ad}{a:SliceV}{out:List UInt8}{v:Int}{b:UInt8}(f:v=(b.toNat:Int)){K:SliceV→ad→Prop}(d:OwnS Ki 1 kU M h a out)(hM:∀b,h.size≤b→M b)(j:out.length+1≤140737488355328)
  (i:∀s' h',OwnS Ki 1 kU M h' s' (out++ [b])→Upd M h h'→K s' h'):
  ∃xs,SRow (hnew h [.int .u8 v] kU) (some (aH h)) (1*1) xs∧AppP (some [.int .u8 0]) 1 1 kU a.a a.len a.cap 1 xs (hnew h [.int .u8 v] kU) K:=by
 subst f;have k:=Upd.hnew No h [.int .u8 (b.toNat:Int)] kU;have g:OwnS Ki 1 kU (fun _=>True) (hnew h [.int .u8 (b.toNat:Int)] kU) ⟨some (aH h),1,1⟩ [b]:=⟨rfl,D7,au _,.inr ⟨h.size,[],rfl,trivial,bF ..,rfl⟩⟩
 refine⟨_,(g.sl (W:=No) fun _ _ _ h=>h).srow,?_⟩
 refine AppP.own (ys:= [b]) (d.upd k fun _ _ h=>h) rfl rfl rfl rfl (by omega) (by simp only[ct];omega) (hM _ (by rw[eN];omega)) fun s' h' c e=>?_
 exact i s' h' c ((Upd.hnew M h _ _).tr e)
end Go.Proofs
namespace Go.Proofs
open Go Go.Lift
def sE(n:Nat):UInt8:=cp (if n<10 then 48+n else 87+n)
def xX(l:List UInt8):List UInt8:=l.flatMap fun b=> [sE (b.toNat/16),sE (b.toNat%16)]
def lI(s:List UInt8):List UInt8:=if s= []then[45]else xX s
def qq(c:UInt8):Nat:=if 48≤c.toNat∧c.toNat≤57 then c.toNat-48 else if 97≤c.toNat∧c.toNat≤102 then c.toNat-87 else 16
def fY:List UInt8→Option (List UInt8)
 | []=>some []
 | [_]=>none
 |a::b::l=>if qq a<16∧qq b<16 then(fY l).map (cp (16*qq a+qq b):: ·)else none
def iP(w:List UInt8):Option (List UInt8):=if w= [45]then some []else if w= []then none else fY w
theorem NS{n:Nat}(h:n<16):qq (sE n)=n:=by
 have:∀n:Fin 16,qq (sE n.val)=n.val:=by decide+kernel
 exact this ⟨n,h⟩
theorem Es:∀l:List UInt8,fY (xX l)=some l
 | []=>rfl
 |b::l=>by
  have a:=b.toNat_lt;show fY (sE (b.toNat/16)::sE (b.toNat%16)::xX l)=_
  unfold fY;rw[NS (by omega),NS (by omega),if_pos ⟨by omega,by omega⟩,Es l]
  have e:16*(b.toNat/16)+b.toNat%16=b.toNat:=by omega
  simp[e]
theorem Jf(s:List UInt8):iP (lI s)=some s:=by
 unfold lI;split
 ·rename_i h;rw[h];rfl
 ·rename_i h
  cases s with
  |nil=>exact absurd rfl h
  |cons b l=>
   unfold iP;have e:xX (b::l)=sE (b.toNat/16)::sE (b.toNat%16)::xX l:=rfl;rw[if_neg (by rw[e];intro h;simp at h),if_neg (by rw[e];intro h;cases h)];exact Es _
def dJ(n:Nat):List UInt8:=if h:n<10 then[cp (48+n)]else dJ (n/10)++ [cp (48+n%10)]
termination_by n
decreasing_by omega
theorem ot{n:Nat}(h:n<10):dJ n= [cp (48+n)]:=by rw[dJ,dif_pos h]
theorem xh{n:Nat}(h:¬n<10):dJ n=dJ (n/10)++ [cp (48+n%10)]:=by rw[dJ,dif_neg h]
def Ix(c:UInt8):Bool:=decide (48≤c.toNat)&&decide (c.toNat≤57)
def mf(w:List UInt8):Nat:=w.foldl (fun a c=>10*a+(c.toNat-48)) 0
theorem zE(u:List UInt8)(c:UInt8):mf (u++ [c])=10*mf u+(c.toNat-48):=by unfold mf;rw[List.foldl_append];rfl
def mr(w:List UInt8):Option Nat:=if w≠[]∧w.all Ix=true∧mf w<18446744073709551616∧dJ (mf w)=w then some (mf w)else none
theorem PX{d:Nat}(h:d<10):Ix (cp (48+d))=true∧(cp (48+d)).toNat=48+d:=by
 have:∀d:Fin 10,Ix (cp (48+d.val))=true∧(cp (48+d.val)).toNat=48+d.val:=by decide+kernel
 exact this ⟨d,h⟩
theorem CC:∀n:Nat,(dJ n).all Ix=true∧mf (dJ n)=n∧dJ n≠[]:=by
 intro n;induction n using lA with
 |ind n ih=>
  by_cases h:n<10
  ·rw[ot h]
   obtain⟨a,b⟩:=PX h;refine⟨by rw[vL,a];rfl,?_,List.cons_ne_nil _ _⟩;show 10*0+((cp (48+n)).toNat-48)=n
   omega
  ·obtain⟨a,b,c⟩:=ih (n/10) (by omega)
   obtain⟨d,e⟩:=PX (d:=n%10) (by omega);rw[xh h];refine⟨by rw[rQ,a,vL,d];rfl,?_,fun e=>by have:=congrArg List.length e;simp at this⟩
   rw[zE,b,e];omega
theorem Cg{n:Nat}(h:n<18446744073709551616):mr (dJ n)=some n:=by
 obtain⟨a,b,c⟩:=CC n;unfold mr;rw[b,if_pos ⟨c,a,h,rfl⟩]
theorem FY{c:UInt8}:Ix c=true↔48≤c.toNat∧c.toNat≤57:=by unfold Ix;simp
theorem Rw:∀(w:List UInt8),w.all Ix=true→w≠[]→(w.head? =some 48→w.length=1)→dJ (mf w)=w∧(w.head?≠some 48→10^(w.length-1)≤mf w):=by
 intro w;obtain⟨k,m⟩:∃k,w.length=k:=⟨_,rfl⟩;induction k generalizing w with
 |zero=>intro _ h;exact absurd (bj.1 m) h
 |succ k ih=>
  intro i d n;obtain⟨u,c,rfl⟩:∃u c,w=u++ [c]:=⟨w.dropLast,w.getLast d,(List.dropLast_concat_getLast d).symm⟩;rw[rQ,Bool.and_eq_true]at i;have hc:Ix c=true:=by have:=i.2;simpa using this
  obtain⟨c1,v⟩:=FY.1 hc;have f:u.length=k:=by simpa using m
  by_cases b:u= []
  ·subst b
   have e:mf ([]++ [c])=c.toNat-48:=by rw[zE];show 10*0+_=_;omega
   rw[e];refine⟨?_,fun g=>?_⟩
   ·rw[ot (by omega),show 48+(c.toNat-48)=c.toNat by omega];simp
   ·have:c.toNat≠48:=fun e=>g (by
     have:c=48:=jD.1 e
     rw[this];rfl)
    simp;omega
  ·have q:(u++ [c]).head? =u.head?:=by cases u with
    |nil=>exact absurd rfl b
    |cons a l=>rfl
   have g:u.head?≠some 48:=fun e=>by
    have o:=n (q.trans e);have:u.length≠0:=fun e=>b (bj.1 e)
    rw[ai,ct]at o;omega
   obtain⟨p,j⟩:=ih u f i.1 b fun e=>absurd e g
   have j:=j g;have t:1≤10^(u.length-1):=Nat.one_le_pow _ _ (by omega);rw[zE];refine⟨?_,fun _=>?_⟩
   ·rw[xh (by omega)]
    have e1:(10*mf u+(c.toNat-48))/10=mf u:=by omega
    have e2:48+(10*mf u+(c.toNat-48))%10=c.toNat:=by omega
    rw[e1,e2,p];simp
   ·have x:u.length≠0:=fun e=>b (bj.1 e)
    have s:(u++ [c]).length-1=u.length-1+1:=by simp;omega
    rw[s,Nat.pow_succ];omega
theorem NU:∀n:Nat,(dJ n).head? =some 48→(dJ n).length=1:=by
 intro n;induction n using lA with
 |ind n ih=>
  by_cases h:n<10
  ·rw[ot h];intro _;rfl
  ·rw[xh h]
   intro e;have d:=(CC (n/10)).2.2;have g:(dJ (n/10)++ [cp (48+n%10)]).head? =(dJ (n/10)).head?:=by cases e2:dJ (n/10)with
    |nil=>exact absurd e2 d
    |cons a l=>rfl
   rw[g]at e;have c:=ih (n/10) (by omega) e;have b:n/10<10:=by
    by_cases f:n/10<10
    ·exact f
    ·rw[xh f]at c
     have:=(CC (n/10/10)).2.2;simp at c;exact absurd c this
   rw[ot b]at e;have:cp (48+n/10)=48:=by simpa using e
   have:=congrArg UInt8.toNat this;rw[(PX b).2]at this;have:(48:UInt8).toNat=48:=rfl;omega
theorem Nd(w:List UInt8):mr w=if w.length=0∨20<w.length∨(w.head? =some 48∧1<w.length)∨w.all Ix=false∨18446744073709551616≤mf w then none else some (mf w):=by
 unfold mr;by_cases h:w.length=0∨20<w.length∨(w.head? =some 48∧1<w.length)∨w.all Ix=false∨18446744073709551616≤mf w
 ·rw[if_pos h,if_neg]
  rintro⟨a,b,c,d⟩;rcases h with h|h|⟨h,g⟩|h|h
  ·exact a (bj.1 h)
  ·have hd:=NU (mf w)
   rw[d]at hd;have f:w.head?≠some 48:=fun e=>by have:=hd e;omega
   have:=(Rw w b a hd).2 f;have:10^20≤10^(w.length-1):=Nat.pow_le_pow_right (by omega) (by omega);omega
  ·have hd:=NU (mf w)
   rw[d]at hd;have:=hd h;omega
  ·rw[b]at h;cases h
  ·omega
 ·rw[if_neg h,if_pos]
  have a:w≠[]:=fun e=>h (.inl (by rw[e];rfl))
  have b:w.all Ix=true:=by
   cases e:w.all Ix
   ·exact absurd (.inr (.inr (.inr (.inl e)))) h
   ·rfl
  have c:w.head? =some 48→w.length=1:=fun e=>by
   have:w.length≠0:=fun e=>h (.inl e)
   have:¬1<w.length:=fun e2=>h (.inr (.inr (.inl ⟨e,e2⟩)))
   omega
  exact⟨a,b,by omega,(Rw w b a c).1⟩
end Go.Proofs
namespace Go.Proofs
inductive Fo where
 |nil:Fo
 |cons (lab:List UInt8) (val:Option ByteArray) (kids rest:Fo):Fo
abbrev Bn:=List UInt8×Option ByteArray×Fo
def Fo.toL:Fo→List Bn
 | .nil=> []
 | .cons lab w kids rest=>(lab,w,kids)::rest.toL
theorem Fo.toL_cons(lab:List UInt8)(w:Option ByteArray)(b a:Fo):(Fo.cons lab w b a).toL=(lab,w,b)::a.toL:=rfl
def Fo.ofL:List Bn→Fo
 | []=>.nil
 |(lab,w,kids)::l=>.cons lab w kids (Fo.ofL l)
theorem Fo.to_of:∀l:List Bn,(Fo.ofL l).toL=l
 | []=>rfl
 |(_,_,_)::l=>by show _::(Fo.ofL l).toL=_;rw[Fo.to_of l]
theorem Fo.of_to:∀F:Fo,Fo.ofL F.toL=F
 | .nil=>rfl
 | .cons lab w kids rest=>by show Fo.cons lab w kids (Fo.ofL rest.toL)=_;rw[Fo.of_to rest]
def uD:Fo→List UInt8→ByteArray→Prop
 | .nil,_,_=>False
 | .cons lab w kids rest,k,v=>(∃r,k=lab++r∧((r= []∧w=some v)∨uD kids r v))∨uD rest k v
def ww(w:Option ByteArray)(F:Fo)(k:List UInt8)(v:ByteArray):Prop:=(k= []∧w=some v)∨uD F k v
def yd(n:Bn)(k:List UInt8)(v:ByteArray):Prop:=∃r,k=n.1++r∧ww n.2.1 n.2.2 r v
theorem iR:∀{F:Fo} {k:List UInt8} {v:ByteArray},uD F k v↔∃n∈F.toL,yd n k v
 | .nil,_,_=>by simp[uD,Fo.toL]
 | .cons lab w kids rest,k,v=>by
  rw[Fo.toL_cons];unfold uD;rw[iR (F:=rest)];constructor
  ·rintro(h|⟨n,a,h⟩)
   ·exact⟨_,aN ..,h⟩
   ·exact⟨n,aI _ a,h⟩
  ·rintro⟨n,a,h⟩
   rcases ar.1 a with rfl|a
   ·exact .inl h
   ·exact .inr ⟨n,a,h⟩
def hd(k:List UInt8):Nat:=(k.headD 0).toNat
theorem vn{a b:List UInt8}(h:a≠[]):hd (a++b)=hd a:=by
 cases a with
 |nil=>exact absurd rfl h
 |cons x a=>rfl
theorem XE(a:List UInt8):hd a<256:=UInt8.toNat_lt _
def jV:Fo→Prop
 | .nil=>True
 | .cons lab w kids rest=>lab≠[]∧(w.isSome∨2≤kids.toL.length)∧jV kids∧(∀n∈rest.toL,hd lab<hd n.1)∧jV rest
def Tu(n:Bn):Prop:=n.1≠[]∧(n.2.1.isSome∨2≤n.2.2.toL.length)∧jV n.2.2
theorem eX:∀{F:Fo},jV F↔F.toL.Pairwise (fun m n=>hd m.1<hd n.1)∧∀n∈F.toL,Tu n
 | .nil=>by simp[jV,Fo.toL]
 | .cons lab w kids rest=>by
  rw[Fo.toL_cons,cc];show(lab≠[]∧(w.isSome∨2≤kids.toL.length)∧jV kids∧(∀n∈rest.toL,hd lab<hd n.1)∧jV rest)↔_
  rw[eX (F:=rest)];constructor
  ·rintro⟨e,f,g,d,c,b⟩
   refine⟨⟨d,c⟩,fun n a=>?_⟩
   rcases ar.1 a with rfl|a
   ·exact⟨e,f,g⟩
   ·exact b n a
  ·rintro⟨⟨d,c⟩,b⟩
   have:=b _ (aN ..);exact⟨this.1,this.2.1,this.2.2,d,c,fun n a=>b n (aI _ a)⟩
theorem vZ:∀{F:Fo},jV F→∀n∈F.toL,∃r v,ww n.2.1 n.2.2 r v
 | .nil,_,n,a=>by simp[Fo.toL]at a
 | .cons lab w kids rest,h,n,a=>by
  rcases ar.1 a with rfl|a
  ·rcases h.2.1 with d|b
   ·obtain⟨v,c⟩:=fK.1 d
    exact⟨[],v,.inl ⟨rfl,c⟩⟩
   ·have f:=vZ h.2.2.1
    have⟨m,hm⟩:∃m,m∈kids.toL:=by
     cases hl:kids.toL with
     |nil=>rw[hl]at b;simp at b
     |cons m l=>exact⟨m,aN ..⟩
    obtain⟨r,v,e⟩:=f m hm;exact⟨m.1++r,v,.inr (iR.2 ⟨m,hm,r,rfl,e⟩)⟩
  ·exact vZ h.2.2.2.2 n a
theorem DZ{F:Fo}(h:jV F){k:List UInt8}{v:ByteArray}(hi:uD F k v):k≠[]:=by
 obtain⟨n,a,r,rfl,_⟩:=iR.1 hi;have:=((eX.1 h).2 n a).1;intro e;exact this (iT.1 e).1
theorem yB{F:Fo}(h:jV F){k:List UInt8}{v:ByteArray}(hi:uD F k v):∃n∈F.toL,hd n.1=hd k∧yd n k v:=by
 obtain⟨n,a,r,e,b⟩:=iR.1 hi;exact⟨n,a,by rw[e,vn ((eX.1 h).2 n a).1],r,e,b⟩
theorem zT{F:Fo}(h:jV F){m n:Bn}(hm:m∈F.toL)(f:n∈F.toL)(e:hd m.1=hd n.1):m=n:=by
 have c:=(eX.1 h).1;revert hm f;generalize F.toL=l at*;clear h;induction l with
 |nil=>intro hm;simp at hm
 |cons a l ih=>
  have c:=cc.1 c;intro hm f;rcases ar.1 hm with e1|d
  ·rcases ar.1 f with e2|b
   ·rw[e1,e2]
   ·have:=c.1 n b;rw[←e1]at this;omega
  ·rcases ar.1 f with e2|b
   ·have:=c.1 m d;rw[←e2]at this;omega
   ·exact ih c.2 d b
def Br(P:List UInt8→ByteArray→Prop):Prop:=(∃v,P [] v)∨∃j k u v,P j u∧P k v∧j≠[]∧k≠[]∧hd j≠hd k
theorem VI{w:Option ByteArray}{F:Fo}(h:jV F):(w.isSome∨2≤F.toL.length)↔Br (ww w F):=by
 constructor
 ·rintro(y|C)
  ·obtain⟨v,c⟩:=fK.1 y
   exact .inl ⟨v,.inl ⟨rfl,c⟩⟩
  ·right
   have d:=vZ h;have hc:=eX.1 h;match hL:F.toL,C with
   |a::b::l,_=>
    have o:a∈F.toL:=by rw[hL];simp
    have f:b∈F.toL:=by rw[hL];simp
    obtain⟨r,v,z⟩:=d a o;obtain⟨s,u,d⟩:=d b f;have q:=(hc.2 a o).1;have t:=(hc.2 b f).1;have:=hc.1;rw[hL]at this;have D:=(cc.1 this).1 b (aN ..);refine⟨a.1++r,b.1++s,v,u,.inr (iR.2 ⟨a,o,r,rfl,z⟩),.inr (iR.2 ⟨b,f,s,rfl,d⟩),?_,?_,?_⟩
    ·intro e;exact q (iT.1 e).1
    ·intro e;exact t (iT.1 e).1
    ·rw[vn q,vn t];omega
 ·rintro(⟨v,c⟩|⟨j,k,u,v,g,i,x,nk,A⟩)
  ·rcases c with⟨_,c⟩|c
   ·left;rw[c];rfl
   ·exact absurd rfl (DZ h c)
  ·right
   rcases g with⟨e,_⟩|g
   ·exact absurd e x
   rcases i with⟨e,_⟩|i
   ·exact absurd e nk
   obtain⟨m,hm,em,_⟩:=yB h g;obtain⟨n,p,B,_⟩:=yB h i;match hL:F.toL with
   | []=>rw[hL]at hm;simp at hm
   | [a]=>
    rw[hL]at hm p;rw[aQ.1 hm]at em;rw[aQ.1 p]at B;omega
   |a::b::l=>simp
end Go.Proofs
namespace Go.Proofs
def vE(P a:List UInt8→ByteArray→Prop)(k:List UInt8)(v:ByteArray):Prop:=∀k' v',a k' v'↔(k'=k∧v'=v)∨(k'≠k∧P k' v')
theorem Jv{w:Option ByteArray}{F:Fo}(h:jV F)(v:ByteArray):vE (ww w F) (ww (some v) F) [] v:=by
 intro k' a;unfold ww;constructor
 ·rintro(⟨e,f⟩|hi)
  ·exact .inl ⟨e,(bp.inj f).symm⟩
  ·exact .inr ⟨DZ h hi,.inr hi⟩
 ·rintro(⟨e,f⟩|⟨e,⟨f,_⟩|hi⟩)
  ·exact .inl ⟨e,by rw[f]⟩
  ·exact absurd f e
  ·exact .inr hi
theorem DQ{w:Option ByteArray}{F a:Fo}{k:List UInt8}{v:ByteArray}(d:k≠[])(h:vE (uD F) (uD a) k v):vE (ww w F) (ww w a) k v:=by
 intro k' b;unfold ww;rw[h k' b];constructor
 ·rintro(⟨e,f⟩|hi|hi)
  ·exact .inr ⟨fun c=>d (c.symm.trans e),.inl ⟨e,f⟩⟩
  ·exact .inl hi
  ·exact .inr ⟨hi.1,.inr hi.2⟩
 ·rintro(hi|⟨e,hi|hi⟩)
  ·exact .inr (.inl hi)
  ·exact .inl hi
  ·exact .inr (.inr ⟨e,hi⟩)
theorem Sr{F:Fo}{k:List UInt8}{v:ByteArray}{i:Nat}(h:jV F)(x:k≠[])(hi:∀j (d:j<F.toL.length),j<i→hd F.toL[j].1<hd k)(g:∀j (d:j<F.toL.length),i≤j→hd k<hd F.toL[j].1):jV (.ofL (F.toL.take i++(k,some v,.nil)::F.toL.drop i))∧vE (uD F) (uD (.ofL (F.toL.take i++(k,some v,.nil)::F.toL.drop i))) k v:=by
 have hc:=eX.1 h;have z:∀n∈F.toL.take i,hd n.1<hd k:=fun n c=>by
  obtain⟨j,d,e⟩:=dC c;rw[aY]at d;rw[←e,List.getElem_take];exact hi j (by omega) (by omega)
 have u:∀n∈F.toL.drop i,hd k<hd n.1:=fun n c=>by
  obtain⟨j,d,e⟩:=dC c;rw[aS]at d;rw[←e,List.getElem_drop];exact g _ (by omega) (by omega)
 have mem:∀n,n∈F.toL.take i++(k,some v,.nil)::F.toL.drop i↔n=(k,some v,Fo.nil)∨n∈F.toL:=fun n=>by
  conv=>rhs;rw[←bQ i F.toL]
  simp only[bL,ar];exact⟨fun h=>h.elim (fun h=>.inr (.inl h)) fun h=>h.elim .inl fun h=>.inr (.inr h),fun h=>h.elim (fun h=>.inr (.inl h)) fun h=>h.elim .inl fun h=>.inr (.inr h)⟩
 refine⟨eX.2 ⟨?_,?_⟩,fun k' y=>?_⟩
 ·rw[Fo.to_of]
  have m:=hc.1;rw[←bQ i F.toL,eZ]at m;refine eZ.2 ⟨m.1,cc.2 ⟨u,m.2.1⟩,fun a s b o=>?_⟩
  rcases ar.1 o with rfl|o
  ·exact z a s
  ·exact m.2.2 a s b o
 ·rw[Fo.to_of]
  intro n c;rcases(mem n).1 c with rfl|c
  ·exact⟨x,.inl rfl,trivial⟩
  ·exact hc.2 n c
 ·rw[iR,iR,Fo.to_of]
  constructor
  ·rintro⟨n,c,r,e,q⟩
   rcases(mem n).1 c with rfl|c
   ·rcases q with⟨rfl,f⟩|f
    ·exact .inl ⟨by rw[e];exact cE _,(bp.inj f).symm⟩
    ·exact f.elim
   ·right
    refine⟨fun w=>?_,n,c,r,e,q⟩
    have e2:hd k=hd n.1:=by rw[←w,e,vn (hc.2 n c).1]
    obtain⟨j,d,t⟩:=dC c;rcases cC j i with p|p
    ·have:=hi j d p;rw[t]at this;omega
    ·have:=g j d p;rw[t]at this;omega
  ·rintro(⟨rfl,rfl⟩|⟨_,n,c,h⟩)
   ·exact⟨(k',some y,.nil),(mem _).2 (.inl rfl),[],(cE _).symm,.inl ⟨rfl,rfl⟩⟩
   ·exact⟨n,(mem _).2 (.inr c),h⟩
theorem mu{α:Type}{l:List α}{i:Nat}(hi:i<l.length){a x:α}(nd:∀j (c:j<l.length),j≠i→l[j]≠l[i]):x∈l.set i a↔x=a∨(x∈l∧x≠l[i]):=by
 constructor
 ·intro h
  obtain⟨j,c,e⟩:=dC h;rw[ox]at c;rw[List.getElem_set]at e;split at e
  ·exact .inl e.symm
  ·rename_i b
   exact .inr ⟨by rw[←e];exact bV c,by rw[←e];exact nd j c fun e=>b e.symm⟩
 ·rintro(rfl|⟨h,b⟩)
  ·exact nI (i:=i) (h:=by simpa using hi) (by simp)
  ·obtain⟨j,c,e⟩:=dC h
   have:i≠j:=by rintro rfl;exact b e.symm
   exact nI (i:=j) (h:=by simpa using c) (by rw[List.getElem_set_ne this];exact e)
theorem RC{F:Fo}{i:Nat}{m:Bn}(h:jV F)(hi:i<F.toL.length)(hm:Tu m)(e:hd m.1=hd F.toL[i].1):jV (.ofL (F.toL.set i m)):=by
 have hc:=eX.1 h;rw[eX,Fo.to_of];refine⟨?_,fun n g=>?_⟩
 ·rw[dE]at hc⊢
  intro a b d f c;rw[ox]at d f;rw[List.getElem_set,List.getElem_set];split
  ·rename_i ea;subst ea
   rw[if_neg (by omega),e];exact hc.1 _ _ d f c
  ·split
   ·rename_i eb;subst eb
    rw[e];exact hc.1 _ _ d f c
   ·exact hc.1 _ _ d f c
 ·rcases List.mem_or_eq_of_mem_set g with g|rfl
  ·exact hc.2 n g
  ·exact hm
theorem wV{F:Fo}(h:jV F){i:Nat}(hi:i<F.toL.length)(j:Nat)(c:j<F.toL.length)(a:j≠i):F.toL[j]≠F.toL[i]:=by
 have hc:=(eX.1 h).1;rw[dE]at hc;intro e;rcases Nat.lt_or_gt_of_ne a with b|b
 ·have:=hc j i c hi b;rw[e]at this;omega
 ·have:=hc i j hi c b;rw[e]at this;omega
theorem MY{F:Fo}{i:Nat}{m:Bn}{k:List UInt8}{v:ByteArray}(h:jV F)(hi:i<F.toL.length)(ek:hd F.toL[i].1=hd k)(d:vE (yd F.toL[i]) (yd m) k v):vE (uD F) (uD (.ofL (F.toL.set i m))) k v:=by
 intro k' g;have hc:=eX.1 h;rw[iR,iR,Fo.to_of];constructor
 ·rintro⟨n,a,c⟩
  rcases(mu hi (wV h hi)).1 a with rfl|⟨a,f⟩
  ·rcases(d k' g).1 c with b|⟨b,j⟩
   ·exact .inl b
   ·exact .inr ⟨b,_,bV hi,j⟩
  ·refine .inr ⟨fun e=>f ?_,n,a,c⟩
   obtain⟨r,o,_⟩:=c;refine zT h a (bV hi) ?_;rw[ek,←e,o,vn (hc.2 n a).1]
 ·rintro(b|⟨b,n,a,c⟩)
  ·exact⟨m,(mu hi (wV h hi)).2 (.inl rfl),(d k' g).2 (.inl b)⟩
  ·by_cases e:n=F.toL[i]
   ·exact⟨m,(mu hi (wV h hi)).2 (.inl rfl),(d k' g).2 (.inr ⟨b,by rw[←e];exact c⟩)⟩
   ·exact⟨n,(mu hi (wV h hi)).2 (.inr ⟨a,e⟩),c⟩
theorem Sq{lab r:List UInt8}{w w':Option ByteArray}{F f:Fo}{v:ByteArray}(h:vE (ww w F) (ww w' f) r v):vE (yd (lab,w,F)) (yd (lab,w',f)) (lab++r) v:=by
 intro k' c;constructor
 ·rintro⟨s,e,d⟩
  rcases(h s c).1 d with⟨rfl,rfl⟩|⟨a,g⟩
  ·exact .inl ⟨e,rfl⟩
  ·exact .inr ⟨fun b=>a (List.append_cancel_left (e.symm.trans b)),s,e,g⟩
 ·rintro(⟨rfl,rfl⟩|⟨a,s,e,d⟩)
  ·exact⟨r,rfl,(h r c).2 (.inl ⟨rfl,rfl⟩)⟩
  ·exact⟨s,e,(h s c).2 (.inr ⟨fun b=>a (by rw[e,b]),d⟩)⟩
def cm:List UInt8→List UInt8→Nat
 |a::x,b::y=>if a=b then cm x y+1 else 0
 |_,_=>0
theorem XG:∀(x y:List UInt8),cm x y≤x.length∧cm x y≤y.length
 | [],_=>by simp[cm]
 |_::_,[]=>by simp[cm]
 |a::x,b::y=>by unfold cm;have:=XG x y;split<;>simp<;>omega
theorem Ry:∀(x y:List UInt8),x.take (cm x y)=y.take (cm x y)
 | [],_=>by simp[cm]
 |_::_,[]=>by simp[cm]
 |a::x,b::y=>by
  unfold cm;split
  ·rename_i e;rw[List.take_succ_cons,List.take_succ_cons,Ry x y,e]
  ·simp
theorem Rz:∀(x y:List UInt8),cm x y<x.length→cm x y<y.length→hd (x.drop (cm x y))≠hd (y.drop (cm x y))
 | [],_=>by simp[cm]
 |_::_,[]=>by simp[cm]
 |a::x,b::y=>by
  unfold cm;split
  ·rename_i e
   intro d c;rw[ay]at d c;rw[List.drop_succ_cons,List.drop_succ_cons];exact Rz x y (by omega) (by omega)
  ·rename_i e
   intro _ _ h;exact e (jD.1 h)
theorem Yr{x y:List UInt8}(hx:x≠[])(c:y≠[])(h:hd x=hd y):0<cm x y:=by
 match x,y,hx,c with
 |a::x,b::y,_,_=>
  unfold cm;rw[if_pos (show a=b from jD.1 h)]
  omega
theorem JQ{lab:List UInt8}{w:Option ByteArray}{F:Fo}(c:Nat):∀k v,yd (lab.take c,none,.cons (lab.drop c) w F .nil) k v↔yd (lab,w,F) k v:=by
 intro k v;constructor
 ·rintro⟨r,e,⟨_,h⟩|(⟨s,rfl,h⟩|h)⟩
  ·cases h
  ·exact⟨s,by rw[e];simp only;rw[←aK,bQ],h⟩
  ·exact h.elim
 ·rintro⟨s,e,h⟩
  exact⟨lab.drop c++s,by rw[e];simp only;rw[←aK,bQ],.inr (.inl ⟨s,rfl,h⟩)⟩
theorem VH{lab r:List UInt8}{w w':Option ByteArray}{F f:Fo}{v:ByteArray}(c:lab≠[])(j:w.isSome∨2≤F.toL.length)(g:jV F)(a:r≠[]→hd r≠hd lab)(h:vE (ww none (.cons lab w F .nil)) (ww w' f) r v):Br (ww w' f):=by
 by_cases e:r= []
 ·subst e
  exact .inl ⟨v,(h [] v).2 (.inl ⟨rfl,rfl⟩)⟩
 ·have hc:jV (.cons lab w F .nil):=⟨c,j,g,fun n i=>by simp[Fo.toL]at i,trivial⟩
  obtain⟨s,u,d⟩:=vZ hc _ (aN ..);simp only at d;have e2:hd (lab++s)=hd lab:=vn c;refine .inr ⟨r,lab++s,v,u,(h r v).2 (.inl ⟨rfl,rfl⟩),(h _ u).2 (.inr ⟨fun b=>a e (by rw[←b,e2]),.inr (.inl ⟨s,rfl,d⟩)⟩),e,fun b=>c (iT.1 b).1,by rw[e2];exact a e⟩
theorem Xl{P g:List UInt8→ByteArray→Prop}{k:List UInt8}{v:ByteArray}(d:Br P)(h:vE P g k v):Br g:=by
 have keep:∀j u,P j u→∃c,g j c:=fun j u f=>by
  by_cases e:j=k
  ·exact⟨v,(h j v).2 (.inl ⟨e,rfl⟩)⟩
  ·exact⟨u,(h j u).2 (.inr ⟨e,f⟩)⟩
 rcases d with⟨u,i⟩|⟨j,k',u,c,f,m,r⟩
 ·obtain⟨c,h'⟩:=keep [] u i
  exact .inl ⟨c,h'⟩
 ·obtain⟨a,n⟩:=keep j u f
  obtain⟨b,d⟩:=keep k' c m;exact .inr ⟨j,k',a,b,n,d,r⟩
end Go.Proofs
namespace Go.Proofs
open Go Go.Lift
end Go.Proofs
namespace Go.Proofs
open Go Go.Lift
def Fit(l:List Pr):Prop:=∀p∈l,p.1.size≤10000∧p.2.size≤10000
end Go.Proofs
namespace Go.Proofs
open Go Go.Lift
end Go.Proofs
namespace Go.Proofs
open Go Go.Lift
def X1(l:List Pr):Option Pr:=match l with| [p]=>some p|_=>none
def Yc(l:List Pr):Option (List Pr):=if 2≤l.length then some l else none
def B6(x:Hs)(lev:Nat)(l:List Pr):List Pr:=fm (fun c=>X1 (part x lev c l)) 32
def XC(x:Hs)(lev:Nat)(l:List Pr):List (List Pr):=fm (fun c=>Yc (part x lev c l)) 32
theorem X2{W:Nat→Prop}{x:Hs}{h:ad}{m:Nat}{s:Slots}{c:Nat}{l:List Pr}(t:SlotIs W x h m s c l):s.p c=X1 l∧(s.k c).isSome=(Yc l).isSome:=by
 rcases t with⟨rfl,e,d⟩|⟨p,rfl,e,d⟩|⟨f,e,g,d,_⟩
 ·rw[e,d];exact⟨rfl,rfl⟩
 ·rw[e,d];exact⟨rfl,rfl⟩
 ·rw[e,d]
  refine⟨?_,by simp[Yc,f]⟩
  match l,f with
  |a::b::l,_=>rfl
theorem Xb{β:Type}(g:Nat→Option β)(n:Nat):fm g (n+1)=fm g n++(g n).toList:=by
 unfold fm;rw[List.range_succ,List.filterMap_append];cases h:g n<;>simp[h]
theorem Wy{W:Nat→Prop}{x:Hs}{h:ad}{m lev:Nat}{s:Slots}{l:List Pr}(a:∀c,c<32→SlotIs W x h m s c (part x lev c l)):fm s.p 32=B6 x lev l:=
 Zq _ fun c hc=>(X2 (a c (List.mem_range.1 hc))).1
end Go.Proofs
namespace Go.Proofs
open Go Go.Lift
theorem DS(x:Hs)(lev:Nat)(l:List Pr):∀n,(((List.range n).map fun c=>(part x lev c l).length).sum)=(l.filter fun p=>decide (ck x lev p.1<n)).length
 |0=>by
  have:(l.filter fun p=>decide (ck x lev p.1<0))= []:=List.filter_eq_nil_iff.2 fun p _=>by simp
  rw[this];rfl
 |n+1=>by
  rw[List.range_succ,List.map_append,List.sum_append,DS x lev l n];simp only[cN,List.map_nil,List.sum_cons,List.sum_nil,Nat.add_zero];unfold part;clear DS;induction l with
  |nil=>rfl
  |cons p l ih=>
   simp only[List.filter_cons,decide_eq_true_iff];split<;>split<;>split<;>first|omega|(simp only[ay];omega)
end Go.Proofs
namespace Go.Proofs
open Go Go.Lift
theorem SI{x:Hs}{lev:Nat}{l:List Pr}{p:Pr}(h:p∈B6 x lev l):p∈l:=by
 unfold B6 fm at h;obtain⟨c,_,hc⟩:=List.mem_filterMap.1 h;unfold X1 at hc;split at hc
 ·rename_i q hq
  cases hc;have:p∈part x lev c l:=by rw[hq];exact aQ.2 rfl
  exact(tc.1 this).1
 ·cases hc
theorem Fit.part{x:Hs}{lev c:Nat}{l:List Pr}(h:Fit l):Fit (part x lev c l):=fun p a=>h p (tc.1 a).1
end Go.Proofs
namespace Go.Proofs
open Go Go.Lift
end Go.Proofs
namespace Go.Proofs
open Go Go.Lift
end Go.Proofs
namespace Go.Proofs
open Go Go.Lift
def GA(lab:ByteArray)(has:Bool)(val:ByteArray)(s:SliceV)(ow:Option Addr):Array Value:= #[.string lab,.bool has,.string val,sv s,.pointer ow]
theorem vw{w:Option ByteArray}{val:ByteArray}(h:val=w.getD ⟨#[]⟩):∀v,w=some v→val=v:=fun v e=>by rw[h,e];rfl
def RxF(W:Nat→Prop)(h:ad):Fo→List (Option Addr)→Prop
 | .nil,ks=>ks= []
 | .cons lab w kids rest,ks=>∃b sl val s ow ks1 ks',ks=some ⟨b,0,none⟩::ks'∧sl.data.toList=lab∧h[b]? =some (.cells (GA sl w.isSome val s ow) bS (0,0))∧val=w.getD ⟨#[]⟩∧Sl wN 1 W h s ks1∧(s.len≤s.cap∧¬W b)∧RxF W h kids ks1∧RxF W h rest ks'
def RxN(W:Nat→Prop)(h:ad)(b:Nat)(sl:ByteArray)(w:Option ByteArray)(F:Fo):Prop:=∃val s ow ks,h[b]? =some (.cells (GA sl w.isSome val s ow) bS (0,0))∧val=w.getD ⟨#[]⟩∧Sl wN 1 W h s ks∧(s.len≤s.cap∧¬W b)∧RxF W h F ks
def Kid(W:Nat→Prop)(h:ad)(k:Option Addr)(n:Bn):Prop:=∃b sl,k=some ⟨b,0,none⟩∧sl.data.toList=n.1∧RxN W h b sl n.2.1 n.2.2
def RxL(W:Nat→Prop)(h:ad)(ks:List (Option Addr))(L:List Bn):Prop:=ks.length=L.length∧∀p∈ks.zip L,Kid W h p.1 p.2
theorem mM{W:Nat→Prop}{h:ad}:∀{F:Fo} {ks:List (Option Addr)},RxF W h F ks↔RxL W h ks F.toL
 | .nil,ks=>by
  unfold RxF RxL;simp[Fo.toL]
 | .cons lab w kids rest,ks=>by
  unfold RxF RxL;rw[Fo.toL_cons];constructor
  ·rintro⟨b,sl,val,s,ow,c,d,rfl,e1,e2,i,j,g,f,o⟩
   obtain⟨q,t⟩:=mM.1 o;refine⟨by simp[q],fun p a=>?_⟩
   rw[oJ]at a;rcases ar.1 a with rfl|a
   ·exact⟨b,sl,rfl,e1,val,s,ow,c,e2,i,j,g,f⟩
   ·exact t p a
  ·cases ks with
   |nil=>rintro⟨e,_⟩;simp at e
   |cons k d=>
    rintro⟨e,a⟩;rw[oJ]at a;obtain⟨b,sl,n,e1,val,s,ow,c,e2,i,j,g,f⟩:=a _ (aN ..);refine⟨b,sl,val,s,ow,c,d,by rw[←n],e1,e2,i,j,g,f,mM.2 ⟨by simpa using e,fun p m=>a p (aI _ m)⟩⟩
theorem RxF.upd0{W:Nat→Prop}{h h':ad}(k:Upd No h h'):∀{F:Fo} {ks:List (Option Addr)},RxF W h F ks→RxF W h' F ks
 | .nil,_,r=>r
 | .cons _ _ _ _,_,⟨b,sl,val,s,ow,ks1,ks',e0,e1,e2,e3,e4,e5,e6,e7⟩=>⟨b,sl,val,s,ow,ks1,ks',e0,e1,k.get0 e2,e3,e4.upd k fun _ h=>h.elim,e5,RxF.upd0 k e6,RxF.upd0 k e7⟩
theorem RxN.upd0{W:Nat→Prop}{h h':ad}(k:Upd No h h'){b:Nat}{sl:ByteArray}{w:Option ByteArray}{F:Fo}:RxN W h b sl w F→RxN W h' b sl w F
 |⟨val,s,ow,ks,e2,e3,e4,e5,e6⟩=>⟨val,s,ow,ks,k.get0 e2,e3,e4.upd k fun _ h=>h.elim,e5,RxF.upd0 k e6⟩
theorem Kid.upd0{W:Nat→Prop}{h h':ad}(k:Upd No h h'){a:Option Addr}{n:Bn}:Kid W h a n→Kid W h' a n
 |⟨b,sl,e1,e2,e3⟩=>⟨b,sl,e1,e2,e3.upd0 k⟩
theorem RxF.less{W W':Nat→Prop}{h:ad}(hm:∀b,W' b→W b∨h.size≤b):∀{F:Fo} {ks:List (Option Addr)},RxF W h F ks→RxF W' h F ks
 | .nil,_,r=>r
 | .cons _ _ _ _,_,⟨b,sl,val,s,ow,ks1,ks',e0,e1,e2,e3,e4,e5,e6,e7⟩=>⟨b,sl,val,s,ow,ks1,ks',e0,e1,e2,e3,e4.less hm,⟨e5.1,fun hx=>(hm _ hx).elim e5.2 fun h=>by have:=bB e2;omega⟩,RxF.less hm e6,RxF.less hm e7⟩
theorem RxN.less{W W':Nat→Prop}{h:ad}(hm:∀b,W' b→W b∨h.size≤b){b:Nat}{sl:ByteArray}{w:Option ByteArray}{F:Fo}:RxN W h b sl w F→RxN W' h b sl w F
 |⟨val,s,ow,ks,e2,e3,e4,e5,e6⟩=>⟨val,s,ow,ks,e2,e3,e4.less hm,⟨e5.1,fun hx=>(hm _ hx).elim e5.2 fun h=>by have:=bB e2;omega⟩,RxF.less hm e6⟩
theorem RxF.updM{W M:Nat→Prop}{h h':ad}(k:Upd M h h')(hm:∀b,M b→W b∨h.size≤b):∀{F:Fo} {ks:List (Option Addr)},RxF W h F ks→RxF W h' F ks
 | .nil,_,r=>r
 | .cons _ _ _ _,_,⟨b,sl,val,s,ow,ks1,ks',e0,e1,e2,e3,e4,e5,e6,e7⟩=>⟨b,sl,val,s,ow,ks1,ks',e0,e1,k.get e2 (fun hx=>(hm _ hx).elim e5.2 fun h=>by have:=bB e2;omega),e3,e4.upd k hm,e5,RxF.updM k hm e6,RxF.updM k hm e7⟩
theorem RxN.updM{W M:Nat→Prop}{h h':ad}(k:Upd M h h')(hm:∀b,M b→W b∨h.size≤b){b:Nat}{sl:ByteArray}{w:Option ByteArray}{F:Fo}:RxN W h b sl w F→RxN W h' b sl w F
 |⟨val,s,ow,ks,e2,e3,e4,e5,e6⟩=>⟨val,s,ow,ks,k.get e2 (fun hx=>(hm _ hx).elim e5.2 fun h=>by have:=bB e2;omega),e3,e4.upd k hm,e5,RxF.updM k hm e6⟩
theorem RxL.upd0{W:Nat→Prop}{h h':ad}(k:Upd No h h'){ks:List (Option Addr)}{L:List Bn}(r:RxL W h ks L):RxL W h' ks L:=⟨r.1,fun p a=>(r.2 p a).upd0 k⟩
theorem RxL.app{W:Nat→Prop}{h:ad}{ks b:List (Option Addr)}{L c:List Bn}(r:RxL W h ks L)(d:RxL W h b c):RxL W h (ks++b) (L++c):=by
 refine⟨by rw[ai,ai,r.1,d.1],fun p a=>?_⟩
 rw[List.zip_append r.1]at a;rcases bL.1 a with a|a
 ·exact r.2 p a
 ·exact d.2 p a
theorem RxL.one{W:Nat→Prop}{h:ad}{k:Option Addr}{n:Bn}(c:Kid W h k n):RxL W h [k] [n]:=⟨rfl,fun p a=>by rw[oJ,List.zip_nil_left]at a;rw[aQ.1 a];exact c⟩
theorem RxL.take{W:Nat→Prop}{h:ad}{ks:List (Option Addr)}{L:List Bn}(r:RxL W h ks L)(i:Nat):RxL W h (ks.take i) (L.take i):=by
 refine⟨by rw[aY,aY,r.1],fun p a=>r.2 p ?_⟩
 have:(ks.take i).zip (L.take i)=(ks.zip L).take i:=by rw[nG,nG,List.take_zipWith]
 rw[this]at a;exact List.mem_of_mem_take a
theorem RxL.drop{W:Nat→Prop}{h:ad}{ks:List (Option Addr)}{L:List Bn}(r:RxL W h ks L)(i:Nat):RxL W h (ks.drop i) (L.drop i):=by
 refine⟨by rw[aS,aS,r.1],fun p a=>r.2 p ?_⟩
 have:(ks.drop i).zip (L.drop i)=(ks.zip L).drop i:=by rw[nG,nG,List.drop_zipWith]
 rw[this]at a;exact List.mem_of_mem_drop a
theorem RxL.ins{W:Nat→Prop}{h:ad}{ks:List (Option Addr)}{L:List Bn}(r:RxL W h ks L)(i:Nat){k:Option Addr}{n:Bn}(c:Kid W h k n):RxL W h (ks.take i++k::ks.drop i) (L.take i++n::L.drop i):=by
 have:=(r.take i).app ((RxL.one c).app (r.drop i));exact this
theorem RxL.set{W:Nat→Prop}{h:ad}{ks:List (Option Addr)}{L:List Bn}(r:RxL W h ks L){i:Nat}(hi:i<L.length){k:Option Addr}{n:Bn}(c:Kid W h k n):RxL W h (ks.set i k) (L.set i n):=by
 have:=(r.take i).app ((RxL.one c).app (r.drop (i+1)));rw[dD,dD,if_pos (by rw[r.1];exact hi),if_pos hi];exact this
theorem RxL.at{W:Nat→Prop}{h:ad}{ks:List (Option Addr)}{L:List Bn}(r:RxL W h ks L){i:Nat}(hi:i<L.length):∃b sl,ks[i]? =some (some ⟨b,0,none⟩)∧sl.data.toList=L[i].1∧RxN W h b sl L[i].2.1 L[i].2.2:=by
 have c:i<ks.length:=by rw[r.1];exact hi
 have d:i<(ks.zip L).length:=by rw[List.length_zip];omega
 have:=r.2 _ (bV d);rw[List.getElem_zip]at this;obtain⟨b,sl,e1,e2,a⟩:=this;exact⟨b,sl,by rw[List.getElem?_eq_getElem c];exact congrArg some e1,e2,a⟩
theorem Jl:∀{L:List Bn} {c:Nat},L.Pairwise (fun m n=>hd m.1<hd n.1)→(∀n∈L,c≤hd n.1)→L= []∨c+L.length≤256
 | [],_,_,_=>.inl rfl
 |n::L,c,a,hc=>by
  have a:=cc.1 a;have b:=hc n (aN ..);have d:=XE n.1;rcases Jl (c:=hd n.1+1) a.2 fun m hm=>a.1 m hm with e|e
  ·rw[e];right;simp only[ct];omega
  ·right;rw[ay];omega
theorem zU{F:Fo}(h:jV F):F.toL.length≤256:=by
 rcases Jl (c:=0) (eX.1 h).1 fun _ _=>bc _ with e|e
 ·rw[e];simp
 ·omega
theorem gq{h:ad}{b i:Nat}{c:Array Value}(a:h[b]? =some (.cells c bS (0,0))):aD h (adr ⟨b,0,none⟩ i)=c[i]?:=by rw[ce,aP];exact aW a
theorem V8{h:ad}{b i:Nat}{c:Array Value}(a:h[b]? =some (.cells c bS (0,0))) (hi:i<c.size):Wr h (adr ⟨b,0,none⟩ i):=by rw[ce,aP];exact iM a hi
theorem Ie{h:ad}{b i:Nat}{c c':Array Value}{v:Value}{k:ad→Prop}(d:h[b]? =some (.cells c bS (0,0))) (e:c.setIfInBounds i v=c') (g:∀h',h'[b]? =some (.cells c' bS (0,0))→Upd (· =b) h h'→k h'):At (hset h (adr ⟨b,0,none⟩ i) v) k:=by
 rw[ce,aP];exact vC d fun h' a f=>g h' (e▸a) f
theorem NF(s:ByteArray)(i:Nat):s[i]? =s.data.toList[i]?:=by
 rw[Array.getElem?_toList];by_cases h:i<s.size
 ·rw[getElem?_pos s i h,getElem?_pos s.data i h];rfl
 ·rw[getElem?_neg s i h,getElem?_neg s.data i h]
theorem Lk{s:ByteArray}(a:s.data.toList≠[]):∃c:UInt8,s[0]? =some c∧c.toNat=hd s.data.toList:=by
 rw[NF];match s.data.toList,a with
 |c::l,_=>exact⟨c,rfl,rfl⟩
theorem DJ{W:Nat→Prop}{h:ad}{b:Nat}{sl:ByteArray}{w:Option ByteArray}{F:Fo}(r:RxN W h b sl w F)(hc:jV F){c:Nat}(hc8:c<256){K:Int×Bool→ad→Prop}
  (C:∀i ok,i≤F.toL.length→(∀j (p:j<F.toL.length),j<i→hd F.toL[j].1<c)→(∀j (p:j<F.toL.length),i≤j→c≤hd F.toL[j].1)→(ok=true↔∃hi:i<F.toL.length,hd F.toL[i].1=c)→K ((i:Int),ok) h):HC PG jO [.pointer (some ⟨b,0,none⟩),.int .u8 c] [.c (.int .i64),.c .bool] K h:=by
 refine CT _ c ?_;unfold uO bT;obtain⟨val,s,ow,ks,hb,_,Y,X,hF⟩:=r;refine⟨_,rfl,s,gq (i:=3) hb,?_⟩;have S:=mM.1 hF;have f:=eX.1 hc;have hn:=zU hc;have y:=Y.len;rw[S.1]at y;generalize hLe:F.toL=L at S f hn y C;refine gR s c _ ?_;unfold dV bf cU Cp OZ
 have G:∀{i:Nat} (hi:i<L.length) {K:Int→ad→Prop},K ((hd L[i].1:Int)-(c:Int)) h→∃a,s.a=some a∧∃v,aD h (adr a (i*1))=some (.pointer v)∧HV PG (.func (.func ny) #[] #[]) [.pointer v,.int .u8 c] [.c (.int .i64)] K h:=by
  intro i hi K C;obtain⟨kb,D,H,E,N⟩:=S.at hi;obtain⟨a,ha,_,hv⟩:=Y.at0 H;refine⟨a,ha,_,hv,HV.mk' (Ai (some ⟨kb,0,none⟩) c ?_)⟩;unfold ss bP;obtain⟨kval,kss,kow,kks,T,_⟩:=N;have O:D.data.toList≠[]:=by rw[E];exact(f.2 _ (bV hi)).1
  obtain⟨u,hu,R⟩:=Lk O;refine⟨_,rfl,D,gq (i:=0) T,u,Int.le_refl _,hu,?_⟩;simp only[Bd];have d:=XE L[i].1;rw[R,E,kD (x:=(hd L[i].1:Int)) (by omega),kD (x:=(c:Int)) (by omega),kD (by omega)];exact C
 have mono:∀i j (hi:i<L.length) (p:j<L.length),i<j→hd L[i].1<hd L[j].1:=fun i j hi p e=>dE.1 f.1 i j hi p e
 refine LoopP.ghost (fun(g:Nat×Nat) (t:Int×Int) h'=>t.1=(g.1:Int)∧t.2=(g.2:Int)∧g.1≤g.2∧g.2≤L.length∧h'=h∧(∀j (p:j<L.length),j<g.1→hd L[j].1<c)∧(∀j (p:j<L.length),g.2≤j→c≤hd L[j].1)) (fun g=>g.2-g.1) (0,L.length)
  ⟨rfl,by simp only;omega,by simp,by simp,rfl,fun j p h=>by omega,fun j p h=>by simp only at h;omega⟩ ?_
 rintro I ⟨i,j⟩ ⟨ti,tj⟩ h' ⟨e1,e2,e,o,rfl,k,n⟩ V;simp only at e1 e2 e o k n;subst e1 e2;refine aF (fun d=>?_) fun J=>?_
 ·have d:i<j:=by have:(i:Int)<(j:Int):=d;omega
  have em:ac .i64 (Int.fdiv (ac .u64 (ac .i64 ((i:Int)+(j:Int)))) (2^(min (1:Int).toNat (ag .u64))))=(((i+j)/2:Nat):Int):=by
   have e3:(2^(min (1:Int).toNat (ag .u64)):Int)=2:=rfl;rw[e3,kD (x:=(i:Int)+(j:Int)) (by omega),Go.IntWalk.u64_in _ (by omega),Int.fdiv_eq_ediv_of_nonneg _ (by omega),kD (by omega)];omega
  refine⟨by decide,?_⟩;simp only[Bd];rw[em];generalize hm:(i+j)/2=m;have A:m<L.length:=by omega
  refine⟨by omega,?_⟩;refine G A ?_;refine aF (fun U=>?_) fun Z=>?_
  ·refine V (m+1,j) _ _ ⟨by simp only;rw[kD (by omega)];omega,rfl,by simp only;omega,o,rfl,fun q P z=>?_,n⟩ (by simp only;omega)
   simp only at z;rcases cC q m with h|h
   ·have:=mono q m P A h;omega
   ·have:q=m:=by omega
    subst this;omega
  ·refine V (i,m) _ _ ⟨rfl,rfl,by simp only;omega,by simp only;omega,rfl,k,fun q P z=>?_⟩ (by simp only;omega)
   simp only at z;rcases cC m q with h|h
   ·have:=mono m q A P h;omega
   ·have:q=m:=by omega
    subst this;omega
 ·have e:i=j:=by have:¬(i:Int)<(j:Int):=J;omega
  subst e;refine aF (fun d=>?_) fun Q=>?_
  ·have B:i<L.length:=by have:(i:Int)<(s.len:Int):=d;omega
   refine⟨by simp only;omega,?_⟩;refine G B ?_;refine C i _ o k n ?_;rw[beq_iff_eq];exact⟨fun h=>⟨B,by omega⟩,fun⟨_,h⟩=>by omega⟩
  ·have B:i=L.length:=by have:¬(i:Int)<(s.len:Int):=Q;omega
   exact C i false o k n ⟨fun h=>(by cases h),fun h=>(by obtain⟨h,_⟩:=h;omega)⟩
end Go.Proofs
