/- A part of the proof that the named laws of this program answer true, whatever the input. -/
import Derived.Test.YtncppacbfagpgaaGreatDoorPart1
open BitVec renaming ofInt→ao
open Bool renaming eq_iff_iff→mf
open Int renaming toNat_natCast→aV
open List renaming pairwise_cons→aD,mem_cons→aB,mem_cons_self→av,mem_cons_of_mem→aC,pairwise_singleton→cC,filter_cons→bF,mem_filter→de,filter_eq_nil_iff→qi,mem_singleton→aF,any_eq_true→cL,length_filter_le→dV,length_cons→ar,flatMap_cons→aN,map_cons→eO,length_singleton→aI,range→gR,range_succ→me,map_append→cY,length_append→ac,append_assoc→au,flatMap_append→bH,take_of_length_le→bD,take_succ_eq_append_getElem→bo,flatMap_nil→iw,append_nil→aJ,getElem_mem→bw,mem_of_mem_take→kJ,sum_append→rR,map_nil→gS,sum_cons→vo,flatten_append→gY,mem_filterMap→lW,flatten_cons→iY
open List.Pairwise renaming nil→ee
open Nat renaming mod_lt→qL,min_eq_left→bN,lt_of_lt_of_le→aQ,zero_add→aM,zero_le→aW,le_trans→bh,le_refl→aq,mul_le_mul_right→cy,pow_succ→nP,testBit_lt_two_pow→jy,pow_le_pow_right→gz,add_zero→dU,add_mul→jG,mul_le_mul_left→gV
open UInt8 renaming ofNat→gu
namespace Go.Proofs
open Go.Lift
def gC(p:Pr):List Pr→List Pr
 | []=> [p]
 |q::l=>if kl q.1 p.1 then q::gC p l else if q.1=p.1 then p::l else p::q::l
theorem fX(p q:Pr)(l:List Pr):gC p (q::l)=if kl q.1 p.1 then q::gC p l else if q.1=p.1 then p::l else p::q::l:=rfl
theorem BE(p:Pr):∀{l:List Pr},bO l→H1 l p=gC p l
 | [],_=>by simp[H1,gC,xx,dX]
 |q::l,hr=>by
  have hr:=aD.1 hr;unfold gC;have hpos:xx (q::l) p.1=if kl q.1 p.1 then xx l p.1+1 else 0:=by
   unfold xx;rw[List.takeWhile_cons];by_cases h:kl q.1 p.1
   ·rw[if_pos (by simpa using h),if_pos h];rfl
   ·rw[if_neg (by simpa using h),if_neg h];rfl
  have hth:dX (q::l) p.1=(decide (q.1=p.1)||dX l p.1):=by unfold dX;rw[List.any_cons]
  by_cases h:kl q.1 p.1
  ·have hne:q.1≠p.1:=fun e=>by rw[e]at h;exact cg _ h
   rw[if_pos h,←BE p hr.2];unfold H1;rw[hth,hpos,if_pos h,decide_eq_false hne,Bool.false_or];by_cases ht:dX l p.1=true
   ·rw[if_pos ht,if_pos ht];rfl
   ·rw[if_neg ht,if_neg ht];rfl
  ·rw[if_neg h]
   unfold H1;rw[hth,hpos,if_neg h];by_cases e:q.1=p.1
   ·rw[if_pos e,decide_eq_true e,Bool.true_or,if_pos rfl];rfl
   ·have hgt:=pG h e
    have ht:dX l p.1=false:=by
     unfold dX;rw[List.any_eq_false];intro r hr' e2;have e2:=of_decide_eq_true e2;have:=hr.1 r hr';rw[e2]at this;exact cg _ (gq hgt this)
    rw[if_neg e,decide_eq_false e,ht];rfl
theorem xQ{p q:Pr}:∀{l:List Pr},q∈gC p l→q=p∨q∈l
 | [],h=>by simp[gC]at h;exact .inl h
 |r::l,h=>by
  unfold gC at h;split at h
  ·rcases aB.1 h with h|h
   ·exact .inr (h▸av ..)
   ·exact(xQ h).imp id fun h=>aC _ h
  ·split at h
   ·rcases aB.1 h with h|h
    ·exact .inl h
    ·exact .inr (aC _ h)
   ·rcases aB.1 h with h|h
    ·exact .inl h
    ·exact .inr h
theorem sN(p:Pr):∀{l:List Pr},bO l→bO (gC p l)
 | [],_=>cC ..
 |q::l,hr=>by
  have hr':=hr;have hr:=aD.1 hr;unfold gC;split
  ·rename_i h
   refine aD.2 ⟨fun r hm=>?_,sN p hr.2⟩
   rcases xQ hm with rfl|hm
   ·exact h
   ·exact hr.1 r hm
  ·rename_i h
   split
   ·rename_i e
    exact aD.2 ⟨fun r hm=>e▸hr.1 r hm,hr.2⟩
   ·rename_i e
    have hgt:=pG h e;refine aD.2 ⟨fun r hm=>?_,hr'⟩
    rcases aB.1 hm with rfl|hm
    ·exact hgt
    ·exact gq hgt (hr.1 r hm)
theorem Gv(p:Pr)(g:ByteArray→Bool):∀{l:List Pr},bO l→(gC p l).filter (fun q=>g q.1)=if g p.1 then gC p (l.filter fun q=>g q.1)else l.filter fun q=>g q.1
 | [],_=>by
  unfold gC;rw[bF,List.filter_nil]
 |q::l,hr=>by
  have hr':=hr;have hr:=aD.1 hr;have ih:=Gv p g hr.2;rw[fX];by_cases h:kl q.1 p.1
  ·rw[if_pos h,bF,bF,ih]
   by_cases hq:g q.1=true
   ·rw[if_pos hq,if_pos hq]
    split
    ·rw[fX,if_pos h]
    ·rfl
   ·rw[if_neg hq,if_neg hq]
  ·rw[if_neg h]
   by_cases e:q.1=p.1
   ·rw[if_pos e,bF,bF,e]
    by_cases hp:g p.1=true
    ·rw[if_pos hp,if_pos hp,if_pos hp,fX,if_neg h,if_pos e]
    ·rw[if_neg hp,if_neg hp,if_neg hp]
   ·rw[if_neg e]
    have hgt:=pG h e;rw[bF];by_cases hp:g p.1=true
    ·rw[if_pos hp,if_pos hp]
     have:∀r∈(q::l).filter (fun q=>g q.1),kl p.1 r.1:=fun r hm=>by
      rcases aB.1 (de.1 hm).1 with rfl|hm
      ·exact hgt
      ·exact gq hgt (hr.1 r hm)
     cases hf:(q::l).filter (fun q=>g q.1)with
     |nil=>rfl
     |cons r rs=>
      have hpr:=this r (by rw[hf];exact av ..);rw[fX,if_neg fun hk=>cg _ (gq hpr hk),if_neg fun e=>by rw[e]at hpr;exact cg _ hpr]
    ·rw[if_neg hp,if_neg hp]
theorem Fe{p:Pr}:∀{l:List Pr},bO l→p∈l→gC p l=l
 |q::l,hr,hm=>by
  have hr:=aD.1 hr;unfold gC;rcases aB.1 hm with rfl|hm
  ·rw[if_neg (cg _),if_pos rfl]
  ·rw[if_pos (hr.1 p hm),Fe hr.2 hm]
def ck(x:Hs)(lev:Nat)(k:ByteArray):Nat:=((fU x k).toNat>>>(5*lev))%32
theorem BZ(x:Hs)(lev:Nat)(k:ByteArray):ck x lev k<32:=qL _ (by omega)
def part(x:Hs)(lev c:Nat)(l:List Pr):List Pr:=l.filter fun p=>decide (ck x lev p.1=c)
def TrieAt(W:Nat→Prop)(x:Hs)(h:ae):Nat→Nat→List Pr→Prop
 |0,b,l=>BuckAt W h b l
 |m+1,b,l=>∃s,NodeAt W h b s∧∀c,c<32→
  ((part x (12-m) c l= []∧s.p c=none∧s.k c=none)∨(∃p,part x (12-m) c l= [p]∧s.p c=some p∧s.k c=none)∨
   (2≤(part x (12-m) c l).length∧s.p c=none∧∃kb,s.k c=some (some ⟨kb,0,none⟩)∧TrieAt W x h m kb (part x (12-m) c l)))
theorem TrieAt.upd0{W:Nat→Prop}{x:Hs}{h h':ae}(k:Upd No h h'):∀{m b:Nat} {l:List Pr},TrieAt W x h m b l→TrieAt W x h' m b l
 |0,_,_,t=>BuckAt.upd t k fun _ h=>h.elim
 |m+1,_,_,⟨s,nd,hc⟩=>⟨s,nd.upd k fun _ h=>h.elim,fun c hc'=>(hc c hc').imp id fun o=>o.imp id fun⟨h1,h2,kb,h3,h4⟩=>⟨h1,h2,kb,h3,TrieAt.upd0 k h4⟩⟩
theorem NodeAt.less{W W':Nat→Prop}{h:ae}{b:Nat}{s:Slots}(n:NodeAt W h b s)(hm:∀b,W' b→W b∨h.size≤b):NodeAt W' h b s:=by
 obtain⟨d,m,sp,sk,ow,h1,h2,h3,h4,h5,h6⟩:=n.ex;exact⟨⟨d,m,sp,sk,ow,h1,h2,h3.less hm,h4.less hm,h5,h6⟩,fun hx=>(hm _ hx).elim n.nw fun h=>by have:=aZ h1;omega⟩
theorem BuckAt.less{W W':Nat→Prop}{h:ae}{b:Nat}{l:List Pr}(n:BuckAt W h b l)(hm:∀b,W' b→W b∨h.size≤b):BuckAt W' h b l:=by
 obtain⟨sp,sk,ow,h1,h3,h4,h5,h6⟩:=n.ex;exact⟨⟨sp,sk,ow,h1,h3.less hm,h4.less hm,h5,h6⟩,fun hx=>(hm _ hx).elim n.nw fun h=>by have:=aZ h1;omega⟩
theorem TrieAt.less{W W':Nat→Prop}{x:Hs}{h:ae}(hm:∀b,W' b→W b∨h.size≤b):∀{m b:Nat} {l:List Pr},TrieAt W x h m b l→TrieAt W' x h m b l
 |0,_,_,t=>BuckAt.less t hm
 |m+1,_,_,⟨s,nd,hc⟩=>⟨s,nd.less hm,fun c hc'=>(hc c hc').imp id fun o=>o.imp id fun⟨h1,h2,kb,h3,h4⟩=>⟨h1,h2,kb,h3,TrieAt.less hm h4⟩⟩
theorem TrieAt.updM{W M:Nat→Prop}{x:Hs}{h h':ae}(k:Upd M h h')(hm:∀b,M b→W b∨h.size≤b):∀{m b:Nat} {l:List Pr},TrieAt W x h m b l→TrieAt W x h' m b l
 |0,_,_,t=>BuckAt.upd t k hm
 |m+1,_,_,⟨s,nd,hc⟩=>⟨s,nd.upd k hm,fun c hc'=>(hc c hc').imp id fun o=>o.imp id fun⟨h1,h2,kb,h3,h4⟩=>⟨h1,h2,kb,h3,TrieAt.updM k hm h4⟩⟩
end Go.Proofs
namespace Go.Proofs
open Go.Lift
theorem Yb(a b:Nat):(ao (IntKind.bits .u64) (a:Int)&&&ao (IntKind.bits .u64) (b:Int)).toNat=(a%18446744073709551616)&&&(b%18446744073709551616):=by
 simp[IntKind.bits];rfl
theorem Y3{hv:Int}(h0:0≤hv∧hv<18446744073709551616){lev:Nat}(hl:lev<13){h:ae}{K:Int→ae→Prop}(hk:K (((hv.toNat>>>(5*lev))%32:Nat):Int) h):HC PG lO [.int .u64 hv,.int .i64 lev] [.c (.int .i64)] K h:=by
 refine PW hv lev ?_;unfold HA;refine Join.plain (az (fun h=>by omega) fun _=>?_)
 rw[decide_eq_false (by omega)];refine aj.2 ?_;have e5:IntKind.wrap .i64 (5*(lev:Int))=((5*lev:Nat):Int):=by rw[gD (by omega)];omega
 rw[e5];have em:min (((5*lev:Nat):Int)).toNat (IntKind.bits .u64)=5*lev:=by rw[aV];exact bN (by show 5*lev≤64;omega)
 rw[em];obtain⟨n,rfl⟩:=Int.eq_ofNat_of_zero_le h0.1;rw[aV]at hk;simp only[Bd];rw[mZ];have hlt:n>>>(5*lev)<18446744073709551616:=Nat.lt_of_le_of_lt (Nat.shiftRight_le _ _) (by omega);have e:=Yb (n>>>(5*lev)) 31;rw[Nat.mod_eq_of_lt hlt,show((31:Nat):Int)=(31:Int)from rfl,show 31%18446744073709551616=2^5-1 from rfl,Nat.and_two_pow_sub_one_eq_mod]at e
 rw[e];have hm:n>>>(5*lev)%2^5<32:=qL _ (by omega);rw[Go.IntWalk.u64_in _ (by omega),gD (by omega)];exact⟨by omega,hk⟩
theorem SJ{x:Hs}{k:ByteArray}{lev:Nat}(hl:lev<13){h:ae}{K:Int→ae→Prop}(hk:K (ck x lev k:Int) h):HC PG lO [.int .u64 (fU x k),.int .i64 lev] [.c (.int .i64)] K h:=Y3 (Eh x k) hl hk
abbrev WS(x:Hs)(k:ByteArray):Value:=.agg #[.int .u64 x.k0,.int .u64 x.k1,.int .u64 x.mask,.pointer none,.string k,.int .u64 (fU x k)]
theorem F4{x:Hs}{lev c:Nat}{l:List Pr}(h:∀p∈l,ck x lev p.1=c):part x lev c l=l:=List.filter_eq_self.2 fun p hp=>decide_eq_true (h p hp)
theorem wA{x:Hs}{lev c:Nat}{l:List Pr}(h:∀p∈l,ck x lev p.1≠c):part x lev c l= []:=qi.2 fun p hp=>by simpa using h p hp
theorem Mu{x:Hs}{lev c:Nat}{p:Pr}{l:List Pr}(hr:bO l):part x lev c (gC p l)=if ck x lev p.1=c then gC p (part x lev c l)else part x lev c l:=by
 have:=Gv p (fun k=>decide (ck x lev k=c)) hr
 unfold part;rw[this];by_cases h:ck x lev p.1=c
 ·rw[if_pos h,if_pos (decide_eq_true h)]
 ·rw[if_neg h,if_neg (by simpa using h)]
theorem Qk{p q:Pr}(h:p.1≠q.1):(gC q [p]).length=2:=by
 rw[fX];by_cases hk:kl p.1 q.1
 ·rw[if_pos hk];rfl
 ·rw[if_neg hk,if_neg h];rfl
theorem QO{p q r:Pr}(h:r∈gC q [p]):r=p∨r=q:=(xQ h).symm.imp (fun h=>aF.1 h) id
theorem jH{β:Type}{g:Nat→Option β}{i c:Nat}{x:Option β}(h:c≠i):upd g i x c=g c:=by unfold upd;rw[if_neg h]
theorem WL{W:Nat→Prop}{x:Hs}:∀(m:Nat) (p q:Pr),m≤13→p.1≠q.1→∀{h:ae},(∀y,W y→y<h.size)→∀{K:Option Addr→ae→Prop},(∀h' b',TrieAt W x h' m b' (gC q [p])→Upd No h h'→K (some ⟨b',0,none⟩) h')→
  HC PG mD [WS x q.1,.agg #[.string p.1,.string p.2],.agg #[.string q.1,.string q.2],.int .i64 ((13-m:Nat):Int)] [.c .ptr] K h:=by
 intro m;induction m with
 |zero=>
  intro p q _ hne h hW K hk;have gW:∀{h'},Upd No h h'→∀y,W y→y<h'.size:=fun k y hy=>aQ (hW y hy) k.size
  refine uA (x.k0,x.k1,x.mask,none,q.1,fU x q.1) p q ((13-0:Nat):Int) ?_;unfold p5 af cM aH vr aw cr wq qn eW HK nf EN R9;have k1:=Upd.hnew No h [.int .u64 x.k0,.int .u64 x.k1,.int .u64 x.mask,.pointer none,.string q.1,.int .u64 (fU x q.1)] df;have b1:=cq h [.int .u64 x.k0,.int .u64 x.k1,.int .u64 x.mask,.pointer none,.string q.1,.int .u64 (fU x q.1)] df
  refine bE ?_;simp only[cV h];generalize hnew h [.int .u64 x.k0,.int .u64 x.k1,.int .u64 x.mask,.pointer none,.string q.1,.int .u64 (fU x q.1)] df=h1 at k1 b1;have k2:=Upd.hnew No h1 [.string p.1,.string p.2] al;have b2:=cq h1 [.string p.1,.string p.2] al;refine bE ?_;simp only[cV h1];generalize hnew h1 [.string p.1,.string p.2] al=h2 at k2 b2
  have k3:=Upd.hnew No h2 [.string q.1,.string q.2] al;have b3:=cq h2 [.string q.1,.string q.2] al;refine bE ?_;simp only[cV h2];generalize hnew h2 [.string q.1,.string q.2] al=h3 at k3 b3;have w1:∀{h':ae},Upd No h3 h'→∀i,aP h' (adr ⟨h.size,0,none⟩ i)=(#[.int .u64 x.k0,.int .u64 x.k1,.int .u64 x.mask,.pointer none,.string q.1,.int .u64 (fU x q.1)]:Array Value)[i]?:=fun k i=>by
   rw[bX,bq (k.get0 (k3.get0 (k2.get0 b1))),aM]
  have w2:∀{h':ae},Upd No h3 h'→∀i,aP h' (adr ⟨h1.size,0,none⟩ i)=(#[.string p.1,.string p.2]:Array Value)[i]?:=fun k i=>by rw[bX,bq (k.get0 (k3.get0 b2)),aM]
  have w3:∀{h':ae},Upd No h3 h'→∀i,aP h' (adr ⟨h2.size,0,none⟩ i)=(#[.string q.1,.string q.2]:Array Value)[i]?:=fun k i=>by rw[bX,bq (k.get0 b3),aM]
  have r:=Upd.refl No h3;refine ay.2 ⟨none,w1 r 3,p.1,w2 r 0,p.2,w2 r 1,none,w1 r 3,q.1,w3 r 0,q.2,w3 r 1,?_⟩;refine JQ (gW ((k1.tr k2).tr k3)) fun h4 b4 bk4 hu4=>⟨⟨w3 hu4 0,w3 hu4 1⟩,w1 hu4 3,⟨w2 hu4 0,w2 hu4 1⟩,w1 hu4 3,?_⟩
  refine Fm bk4 (gW (((k1.tr k2).tr k3).tr hu4)) ee (by simp) p fun h5 b5 bk5 hu5=>?_
  have hu45:=hu4.tr hu5;refine⟨⟨w3 hu45 0,w3 hu45 1⟩,w1 hu45 3,?_⟩;have e1:H1 [] p= [p]:=BE p ee;rw[e1]at bk5;refine Fm bk5 (gW (((k1.tr k2).tr k3).tr hu45)) (cC ..) (by simp) q fun h6 b6 bk6 hu6=>?_
  rw[BE q (cC ..)]at bk6;exact hk h6 b6 bk6 ((((k1.tr k2).tr k3).tr hu45).tr hu6)
 |succ m ih=>
  intro p q hm hne h hW K hk;have gW:∀{h'},Upd No h h'→∀y,W y→y<h'.size:=fun k y hy=>aQ (hW y hy) k.size
  have hl:13-(m+1)<13:=by omega
  have hlev:13-(m+1)=12-m:=by omega
  refine uA (x.k0,x.k1,x.mask,none,q.1,fU x q.1) p q ((13-(m+1):Nat):Int) ?_;unfold p5 af cM aH vr aw cr wq qn eW HK nf EN R9;have k1:=Upd.hnew No h [.int .u64 x.k0,.int .u64 x.k1,.int .u64 x.mask,.pointer none,.string q.1,.int .u64 (fU x q.1)] df;have b1:=cq h [.int .u64 x.k0,.int .u64 x.k1,.int .u64 x.mask,.pointer none,.string q.1,.int .u64 (fU x q.1)] df
  refine bE ?_;simp only[cV h];generalize hnew h [.int .u64 x.k0,.int .u64 x.k1,.int .u64 x.mask,.pointer none,.string q.1,.int .u64 (fU x q.1)] df=h1 at k1 b1;have k2:=Upd.hnew No h1 [.string p.1,.string p.2] al;have b2:=cq h1 [.string p.1,.string p.2] al;refine bE ?_;simp only[cV h1];generalize hnew h1 [.string p.1,.string p.2] al=h2 at k2 b2
  have k3:=Upd.hnew No h2 [.string q.1,.string q.2] al;have b3:=cq h2 [.string q.1,.string q.2] al;refine bE ?_;simp only[cV h2];generalize hnew h2 [.string q.1,.string q.2] al=h3 at k3 b3;have w1:∀{h':ae},Upd No h3 h'→∀i,aP h' (adr ⟨h.size,0,none⟩ i)=(#[.int .u64 x.k0,.int .u64 x.k1,.int .u64 x.mask,.pointer none,.string q.1,.int .u64 (fU x q.1)]:Array Value)[i]?:=fun k i=>by
   rw[bX,bq (k.get0 (k3.get0 (k2.get0 b1))),aM]
  have w2:∀{h':ae},Upd No h3 h'→∀i,aP h' (adr ⟨h1.size,0,none⟩ i)=(#[.string p.1,.string p.2]:Array Value)[i]?:=fun k i=>by rw[bX,bq (k.get0 (k3.get0 b2)),aM]
  have w3:∀{h':ae},Upd No h3 h'→∀i,aP h' (adr ⟨h2.size,0,none⟩ i)=(#[.string q.1,.string q.2]:Array Value)[i]?:=fun k i=>by rw[bX,bq (k.get0 b3),aM]
  have r:=Upd.refl No h3;have ne:(((13-(m+1):Nat):Int)==(13:Int))=false:=by rw[beq_eq_false_iff_ne];omega
  rw[ne];refine aj.2 ⟨_,w1 r 0,_,w1 r 1,_,w1 r 2,_,w2 r 0,_,w1 r 5,?_⟩;refine uj fun h4 hu4=>⟨w1 hu4 5,SJ hl ⟨w1 hu4 5,SJ hl ?_⟩⟩
  have hi:=BZ x (13-(m+1)) p.1;have hj:=BZ x (13-(m+1)) q.1;have hk03:=((k1.tr k2).tr k3);have hcl:=Qk hne;refine CondP.intro (fun e=>?_) fun e=>?_
  ·have e:ck x (13-(m+1)) p.1=ck x (13-(m+1)) q.1:=by have:=eq_of_beq e;omega
   refine⟨_,w1 hu4 3,_,w1 hu4 0,_,w1 hu4 1,_,w1 hu4 2,_,w1 hu4 3,_,w1 hu4 4,_,w1 hu4 5,_,w2 hu4 0,_,w2 hu4 1,_,w3 hu4 0,_,w3 hu4 1,?_⟩;refine pE (gW (hk03.tr hu4)) fun h5 b5 nd5 hu5=>?_
   have hu35:=hu4.tr hu5;refine⟨⟨w3 hu35 0,w3 hu35 1⟩,⟨w2 hu35 0,w2 hu35 1⟩,⟨w1 hu35 0,w1 hu35 1,w1 hu35 2,w1 hu35 3,w1 hu35 4,w1 hu35 5⟩,w1 hu35 3,?_⟩;have ew:IntKind.wrap .i64 (((13-(m+1):Nat):Int)+1)=((13-m:Nat):Int):=by rw[gD (by omega)];omega
   rw[ew];refine ih p q (by omega) hne (gW (hk03.tr hu35)) fun h6 b6 t6 hu6=>?_
   have hu36:=hu35.tr hu6;refine⟨w1 hu36 3,?_⟩;refine yG (nd5.upd hu6 fun _ h=>h.elim) (gW (hk03.tr hu36)) hi (fun y h=>by cases h) ⟨b6,0,none⟩ fun h7 b7 nd7 hu7=>?_
   refine hk h7 b7 ⟨_,nd7,fun c hc=>?_⟩ ((hk03.tr hu36).tr hu7)
   rw[hlev]at e;by_cases hcc:c=ck x (13-(m+1)) p.1
   ·refine .inr (.inr ?_)
    have ea:part x (12-m) c (gC q [p])=gC q [p]:=F4 fun r hr=>by
     rcases QO hr with rfl|rfl
     ·rw[hcc,hlev]
     ·rw[hcc,hlev,e]
    rw[ea];exact⟨by omega,by simp[upd],b6,by rw[hcc];exact jS,TrieAt.upd0 hu7 t6⟩
   ·refine .inl ⟨wA fun r hr=>?_,by simp[upd],jH hcc⟩
    rw[hlev]at hcc;rcases QO hr with rfl|rfl
    ·exact fun e=>hcc e.symm
    ·rw[←e];exact fun e=>hcc e.symm
  ·have e:ck x (13-(m+1)) p.1≠ck x (13-(m+1)) q.1:=fun h=>by rw[h]at e;simp at e
   refine⟨_,w1 hu4 3,_,w2 hu4 0,_,w2 hu4 1,_,w1 hu4 3,_,w3 hu4 0,_,w3 hu4 1,?_⟩;refine pE (gW (hk03.tr hu4)) fun h5 b5 nd5 hu5=>?_
   have hu35:=hu4.tr hu5;refine⟨⟨w3 hu35 0,w3 hu35 1⟩,w1 hu35 3,⟨w2 hu35 0,w2 hu35 1⟩,w1 hu35 3,?_⟩;refine sR nd5 (gW (hk03.tr hu35)) hi (fun y h=>by cases h) p fun h6 b6 nd6 hu6=>?_
   have hu36:=hu35.tr hu6;refine⟨⟨w3 hu36 0,w3 hu36 1⟩,w1 hu36 3,?_⟩;refine sR nd6 (gW (hk03.tr hu36)) hj (fun y h=>by simp[upd]) q fun h7 b7 nd7 hu7=>?_
   refine hk h7 b7 ⟨_,nd7,fun c hc=>?_⟩ ((hk03.tr hu36).tr hu7)
   have hpi:=Mu (x:=x) (lev:=12-m) (c:=c) (p:=q) (l:= [p]) (cC ..);rw[hlev]at e;by_cases hcp:c=ck x (12-m) p.1
   ·have hcq:ck x (12-m) q.1≠c:=fun h=>e (by omega)
    have e1:part x (12-m) c [p]= [p]:=F4 fun r hr=>by rw[aF.1 hr,hcp]
    rw[if_neg hcq,e1]at hpi;exact .inr (.inl ⟨p,hpi,by simp[upd,hlev,hcp,e],by simp[upd]⟩)
   ·have e1:part x (12-m) c [p]= []:=wA fun r hr=>by rw[aF.1 hr];exact fun h=>hcp h.symm
    rw[e1]at hpi;by_cases hcq:c=ck x (12-m) q.1
    ·rw[if_pos hcq.symm]at hpi
     exact .inr (.inl ⟨q,hpi,by simp[upd,hlev,hcq],by simp[upd]⟩)
    ·rw[if_neg fun h=>hcq h.symm]at hpi
     exact .inl ⟨hpi,by simp[upd,hlev,hcq,hcp],by simp[upd]⟩
end Go.Proofs
namespace Go.Proofs
open Go.Lift
noncomputable instance memDec (p:Pr) (l:List Pr):Decidable (p∈l):=Classical.propDecidable _
theorem FX{l:List Pr}(hr:bO l){k v w:ByteArray}(h1:(k,v)∈l)(h2:(k,w)∈l):v=w:=by
 induction l with
 |nil=>cases h1
 |cons q l ih=>
  have hr:=aD.1 hr;rcases aB.1 h1 with e1|h1<;>rcases aB.1 h2 with e2|h2
  ·exact(Prod.mk.inj (e1.trans e2.symm)).2
  ·have:=hr.1 _ h2;rw[←e1]at this;exact absurd this (cg _)
  ·have:=hr.1 _ h1;rw[←e2]at this;exact absurd this (cg _)
  ·exact ih hr.2 h1 h2
theorem mU{x:Hs}{lev c:Nat}{l:List Pr}{p:Pr}:p∈part x lev c l↔p∈l∧ck x lev p.1=c:=by unfold part;rw[de,decide_eq_true_iff]
theorem N1{x:Hs}{lev:Nat}{l:List Pr}{k:ByteArray}:dX (part x lev (ck x lev k) l) k=dX l k:=by
 unfold dX;rw[mf,cL,cL];constructor
 ·rintro⟨p,hp,e⟩;exact⟨p,(mU.1 hp).1,e⟩
 ·rintro⟨p,hp,e⟩;exact⟨p,mU.2 ⟨hp,by rw[of_decide_eq_true e]⟩,e⟩
theorem je{x:Hs}{lev c:Nat}{l:List Pr}(hr:bO l):bO (part x lev c l):=hr.sublist List.filter_sublist
theorem lZ{x:Hs}{lev c:Nat}{l:List Pr}:(part x lev c l).length≤l.length:=dV ..
def SlotIs(W:Nat→Prop)(x:Hs)(h:ae)(m:Nat)(s:Slots)(c:Nat)(l:List Pr):Prop:=
 (l= []∧s.p c=none∧s.k c=none)∨(∃p,l= [p]∧s.p c=some p∧s.k c=none)∨(2≤l.length∧s.p c=none∧∃kb,s.k c=some (some ⟨kb,0,none⟩)∧TrieAt W x h m kb l)
theorem SlotIs.upd0{W:Nat→Prop}{x:Hs}{h h':ae}{m:Nat}{s:Slots}{c:Nat}{l:List Pr}(k:Upd No h h')(t:SlotIs W x h m s c l):SlotIs W x h' m s c l:=t.imp id fun o=>o.imp id fun⟨h1,h2,kb,h3,h4⟩=>⟨h1,h2,kb,h3,TrieAt.upd0 k h4⟩
theorem MQ(p:Pr):∀{l:List Pr},l.length≤(gC p l).length
 | []=>aW _
 |q::l=>by
  rw[fX];split
  ·have:=MQ p (l:=l);simp only[ar];omega
  ·split<;>simp
theorem Rw{W:Nat→Prop}{x:Hs}{h h':ae}{m b':Nat}{s s':Slots}{l:List Pr}{p:Pr}(hr:bO l)(hu:Upd No h h')(nd:NodeAt W h' b' s')(hs:∀c,c<32→SlotIs W x h m s c (part x (12-m) c l))
  (hp:∀c,c≠ck x (12-m) p.1→s'.p c=s.p c∧s'.k c=s.k c)(hi:SlotIs W x h' m s' (ck x (12-m) p.1) (gC p (part x (12-m) (ck x (12-m) p.1) l))):TrieAt W x h' (m+1) b' (gC p l):=by
 refine⟨s',nd,fun c hc=>?_⟩
 rw[Mu hr];by_cases e:ck x (12-m) p.1=c
 ·rw[if_pos e];subst e;exact hi
 ·rw[if_neg e]
  have t:=SlotIs.upd0 hu (hs c hc);obtain⟨e1,e2⟩:=hp c fun h=>e h.symm
  unfold SlotIs at t;rw[←e1,←e2]at t;exact t
theorem gd{a b:ByteArray}:(a.toList==b.toList)=decide (a=b):=by
 rw[mf,beq_iff_eq,decide_eq_true_iff,Dx]
theorem XM{W:Nat→Prop}{x:Hs}:∀(m:Nat),m≤13→∀{b:Nat} {l:List Pr} (p:Pr) {h:ae},TrieAt W x h m b l→(∀y,W y→y<h.size)→bO l→l.length≤1000000→∀{K:(Option Addr)×Bool×Bool→ae→Prop},
  (∀h' b' ch,Upd No h h'→TrieAt W x h' m b' (gC p l)→(ch=false→b'=b)→ch= !decide (p∈l)→K (some ⟨b',0,none⟩, !dX l p.1,ch) h')→
  HC PG jM [WS x p.1,.pointer (some ⟨b,0,none⟩),.agg #[.string p.1,.string p.2],.int .i64 ((13-m:Nat):Int)] [.c .ptr,.c .bool,.c .bool] K h:=by
 intro m;induction m with
 |zero=>
  intro _ b l p h t hW hr hn K hk;have gW:∀{h'},Upd No h h'→∀y,W y→y<h'.size:=fun k y hy=>aQ (hW y hy) k.size
  refine vU (x.k0,x.k1,x.mask,none,p.1,fU x p.1) (some ⟨b,0,none⟩) p ((13-0:Nat):Int) ?_;unfold qK af aH nv aw kZ cr uV wq qn sA A0 nn ui HK nf rZ EN R9;have k1:=Upd.hnew No h [.int .u64 x.k0,.int .u64 x.k1,.int .u64 x.mask,.pointer none,.string p.1,.int .u64 (fU x p.1)] df;have b1:=cq h [.int .u64 x.k0,.int .u64 x.k1,.int .u64 x.mask,.pointer none,.string p.1,.int .u64 (fU x p.1)] df
  refine bE ?_;simp only[cV h];generalize hnew h [.int .u64 x.k0,.int .u64 x.k1,.int .u64 x.mask,.pointer none,.string p.1,.int .u64 (fU x p.1)] df=h1 at k1 b1;have k2:=Upd.hnew No h1 [.string p.1,.string p.2] al;have b2:=cq h1 [.string p.1,.string p.2] al;refine bE ?_;simp only[cV h1];generalize hnew h1 [.string p.1,.string p.2] al=h2 at k2 b2
  have w1:∀{h':ae},Upd No h2 h'→∀i,aP h' (adr ⟨h.size,0,none⟩ i)=(#[.int .u64 x.k0,.int .u64 x.k1,.int .u64 x.mask,.pointer none,.string p.1,.int .u64 (fU x p.1)]:Array Value)[i]?:=fun k i=>by
   rw[bX,bq (k.get0 (k2.get0 b1)),aM]
  have w2:∀{h':ae},Upd No h2 h'→∀i,aP h' (adr ⟨h1.size,0,none⟩ i)=(#[.string p.1,.string p.2]:Array Value)[i]?:=fun k i=>by rw[bX,bq (k.get0 b2),aM]
  have r:=Upd.refl No h2;have k02:=k1.tr k2;have bk:BuckAt W h2 b l:=BuckAt.upd t k02 fun _ h=>h.elim
  obtain⟨sp,sk,ow,hb,_⟩:=bk.ex;refine iB hb (ay.2 ⟨_,w2 r 0,YS bk hr (by omega) p.1 fun h3 v hu3 hv=>?_⟩)
  have put:∀(hnot:p∉l) {h4:ae},Upd No h2 h4→HC PG jf [.pointer (some ⟨b,0,none⟩),.pointer none,.agg #[.string p.1,.string p.2]] [.c .ptr] (fun(e15:Option Addr) h16=>K (e15, !dX l p.1,true) h16) h4:=fun hnot h4 hu4=>
   Fm (bk.upd hu4 fun _ h=>h.elim) (gW (k02.tr hu4)) hr (by omega) p fun h5 b5 bk5 hu5=>by
    rw[BE p hr]at bk5;exact hk h5 b5 true ((k02.tr hu4).tr hu5) bk5 (fun h=>by cases h) (by rw[decide_eq_false hnot];rfl)
  refine Join.intro (fun t' h'=>t'=decide (p∈l)∧Upd No h2 h') (fun R hR=>?_) ?_
  ·cases ht:dX l p.1 with
   |false=>
    refine aj.2 (hR _ _ ⟨?_,hu3⟩);refine(decide_eq_false fun hm=>?_).symm
    have:dX l p.1=true:=cL.2 ⟨p,hm,decide_eq_true rfl⟩;rw[ht]at this;cases this
   |true=>
    have hv:=hv ht;refine ay.2 ⟨_,w2 hu3 1,hR _ _ ⟨?_,hu3⟩⟩;rw[gd,decide_eq_decide];constructor
    ·intro e
     have e:v=p.2:=e;rw[e]at hv;exact hv
    ·intro hm
     exact FX hr hv (show(p.1,p.2)∈l from hm)
  ·rintro t' h4 ⟨rfl,hu4⟩
   by_cases hm:p∈l
   ·rw[decide_eq_true hm]
    refine ay.2 ?_;have ht:dX l p.1=true:=cL.2 ⟨p,hm,decide_eq_true rfl⟩;have:=hk h4 b false (k02.tr hu4) (by rw[Fe hr hm];exact bk.upd hu4 fun _ h=>h.elim) (fun _=>rfl) (by rw[decide_eq_true hm];rfl)
    rw[ht]at this;exact this
   ·rw[decide_eq_false hm]
    refine aj.2 ⟨none,w1 hu4 3,_,w2 hu4 0,_,w2 hu4 1,put hm hu4⟩
 |succ m ih=>
  intro hm b l p h t hW hr hn K hk;have gW:∀{h'},Upd No h h'→∀y,W y→y<h'.size:=fun k y hy=>aQ (hW y hy) k.size
  have hl:13-(m+1)<13:=by omega
  have hlev:13-(m+1)=12-m:=by omega
  refine vU (x.k0,x.k1,x.mask,none,p.1,fU x p.1) (some ⟨b,0,none⟩) p ((13-(m+1):Nat):Int) ?_;unfold qK af aH nv aw kZ cr uV wq qn sA A0 nn ui HK nf rZ EN R9;have k1:=Upd.hnew No h [.int .u64 x.k0,.int .u64 x.k1,.int .u64 x.mask,.pointer none,.string p.1,.int .u64 (fU x p.1)] df;have b1:=cq h [.int .u64 x.k0,.int .u64 x.k1,.int .u64 x.mask,.pointer none,.string p.1,.int .u64 (fU x p.1)] df
  refine bE ?_;simp only[cV h];generalize hnew h [.int .u64 x.k0,.int .u64 x.k1,.int .u64 x.mask,.pointer none,.string p.1,.int .u64 (fU x p.1)] df=h1 at k1 b1;have k2:=Upd.hnew No h1 [.string p.1,.string p.2] al;have b2:=cq h1 [.string p.1,.string p.2] al;refine bE ?_;simp only[cV h1];generalize hnew h1 [.string p.1,.string p.2] al=h2 at k2 b2
  have w1:∀{h':ae},Upd No h2 h'→∀i,aP h' (adr ⟨h.size,0,none⟩ i)=(#[.int .u64 x.k0,.int .u64 x.k1,.int .u64 x.mask,.pointer none,.string p.1,.int .u64 (fU x p.1)]:Array Value)[i]?:=fun k i=>by
   rw[bX,bq (k.get0 (k2.get0 b1)),aM]
  have w2:∀{h':ae},Upd No h2 h'→∀i,aP h' (adr ⟨h1.size,0,none⟩ i)=(#[.string p.1,.string p.2]:Array Value)[i]?:=fun k i=>by rw[bX,bq (k.get0 b2),aM]
  have r:=Upd.refl No h2;have k02:=k1.tr k2;obtain⟨s,nd0,hs0⟩:=TrieAt.upd0 k02 t;have hs:∀c,c<32→SlotIs W x h2 m s c (part x (12-m) c l):=hs0;have tt:∀{h':ae},Upd No h2 h'→TrieAt W x h' (m+1) b l:=fun k=>TrieAt.upd0 (k02.tr k) t
  obtain⟨d0,n0,sp0,sk0,ow0,hb0,_⟩:=nd0.ex;refine iB hb0 (aj.2 ⟨_,w1 r 5,SJ hl ?_⟩);rw[hlev];have hi:=BZ x (12-m) p.1;have hsi:=hs _ hi;have hrp:=je (x:=x) (lev:=12-m) (c:=ck x (12-m) p.1) hr;have hnp:(part x (12-m) (ck x (12-m) p.1) l).length≤1000000:=bh lZ hn;have hmp:p∈part x (12-m) (ck x (12-m) p.1) l↔p∈l:=by rw[mU];exact⟨fun h=>h.1,fun h=>⟨h,rfl⟩⟩
  have htp:=N1 (x:=x) (lev:=12-m) (l:=l) (k:=p.1);have hturn:=fun{h':ae} {b':Nat} {s':Slots}=>Rw (W:=W) (x:=x) (h:=h2) (h':=h') (m:=m) (b':=b') (s:=s) (s':=s') (l:=l) (p:=p) hr
  generalize hc:ck x (12-m) p.1=c at hi hsi hrp hnp hmp htp hturn;generalize hlp:part x (12-m) c l=lc at hsi hrp hnp hmp htp hturn;refine Bu nd0 hi fun h3 hu3=>?_
  have k4:=Upd.hnew No h3 [.string (⟨#[]⟩:ByteArray),.string (⟨#[]⟩:ByteArray)] al;have b4:=cq h3 [.string (⟨#[]⟩:ByteArray),.string (⟨#[]⟩:ByteArray)] al;refine bE ?_;simp only[cV h3];generalize hnew h3 [.string (⟨#[]⟩:ByteArray),.string (⟨#[]⟩:ByteArray)] al=h4 at k4 b4;have b4':h4[h3.size]? =some (.cells #[.string Vy.1,.string Vy.2] al (0,0)):=b4
  refine QH (p:=ES (s.p c)) b4' fun h5 b5 hu5=>?_
  have hu25:Upd No h2 h5:=(hu3.tr k4).trans hu5 fun y hy=>.inr (by have hy:y=h3.size:=hy;have:=hu3.size;omega)
  have w5:∀{h':ae},Upd No h5 h'→∀i,aP h' (adr ⟨h3.size,0,none⟩ i)=(#[.string (ES (s.p c)).1,.string (ES (s.p c)).2]:Array Value)[i]?:=fun k i=>by rw[bX,bq (k.get0 b5),aM]
  have r5:=Upd.refl No h5;have nd5:=nd0.upd hu25 fun _ h=>h.elim
  cases hsp:s.p c with
  |some y=>
   rw[hsp]at w5;obtain⟨hone,hk0⟩:lc= [y]∧s.k c=none:=by
    rcases hsi with⟨_,h2,_⟩|⟨q,h1,h2,h3⟩|⟨_,h2,_⟩
    ·rw[hsp]at h2;cases h2
    ·rw[hsp]at h2;cases h2;exact⟨h1,h3⟩
    ·rw[hsp]at h2;cases h2
   refine ay.2 ⟨y.1,w5 r5 0,y.2,w5 r5 1,p.1,w2 hu25 0,p.2,w2 hu25 1,?_⟩;rw[gd,gd];have hyl:y∈l:=(mU.1 (show y∈part x (12-m) c l by rw[hlp,hone];exact aF.2 rfl)).1
   by_cases e1:y.1=p.1
   ·have ht:dX l p.1=true:=cL.2 ⟨y,hyl,decide_eq_true e1⟩
    rw[ht]at hk;by_cases e2:y.2=p.2
    ·rw[decide_eq_true e1,decide_eq_true e2]
     have hyp:y=p:=Prod.ext e1 e2;have hml:p∈l:=hyp▸hyl;refine ay.2 ?_;exact hk h5 b false (k02.tr hu25) (by rw[Fe hr hml];exact tt hu25) (fun _=>rfl) (by rw[decide_eq_true hml];rfl)
    ·rw[decide_eq_true e1,decide_eq_false e2]
     refine aj.2 ⟨y.1,w5 r5 0,p.1,w2 hu25 0,?_⟩;rw[gd,decide_eq_true e1];refine ay.2 ⟨none,w1 hu25 3,p.1,w2 hu25 0,p.2,w2 hu25 1,?_⟩;refine sR nd5 (gW (k02.tr hu25)) hi (fun _ _=>hk0) p fun h6 b6 nd6 hu6=>?_
     have hnl:p∉l:=fun hm=>by
      have:=hmp.2 hm;rw[hone]at this;exact e2 (by rw[aF.1 this])
     refine hk h6 b6 true ((k02.tr hu25).tr hu6) (hturn (hu25.tr hu6) nd6 hs (fun c' hc'=>⟨jH hc',jH hc'⟩) ?_) (fun h=>by cases h) (by rw[decide_eq_false hnl];rfl)
     refine .inr (.inl ⟨p,?_,jS,jS⟩);rw[hone,fX,if_neg (by rw[e1];exact cg _),if_pos e1]
   ·rw[decide_eq_false e1]
    refine aj.2 ⟨y.1,w5 r5 0,p.1,w2 hu25 0,?_⟩;rw[gd,decide_eq_false e1];refine aj.2 ⟨none,w1 hu25 3,_,w1 hu25 0,_,w1 hu25 1,_,w1 hu25 2,_,w1 hu25 3,_,w1 hu25 4,_,w1 hu25 5,y.1,w5 r5 0,y.2,w5 r5 1,p.1,w2 hu25 0,p.2,w2 hu25 1,?_⟩;have ew:IntKind.wrap .i64 (((12-m:Nat):Int)+1)=((13-m:Nat):Int):=by rw[gD (by omega)];omega
    rw[ew];refine WL m y p (by omega) e1 (gW (k02.tr hu25)) fun h6 b6 t6 hu6=>⟨w1 (hu25.tr hu6) 3,?_⟩
    refine yG (nd5.upd hu6 fun _ h=>h.elim) (gW ((k02.tr hu25).tr hu6)) hi (fun z hz=>by rw[hk0]at hz;cases hz) ⟨b6,0,none⟩ fun h7 b7 nd7 hu7=>?_
    have ht:dX l p.1=false:=by
     rw[←htp,hone];unfold dX;rw[List.any_cons,decide_eq_false e1];rfl
    have hnl:p∉l:=fun hm=>by
     have:dX l p.1=true:=cL.2 ⟨p,hm,decide_eq_true rfl⟩;rw[ht]at this;cases this
    rw[ht]at hk;refine hk h7 b7 true (((k02.tr hu25).tr hu6).tr hu7) (hturn ((hu25.tr hu6).tr hu7) nd7 hs (fun c' hc'=>⟨jH hc',jH hc'⟩) ?_) (fun h=>by cases h) (by rw[decide_eq_false hnl];rfl)
    rw[hone];exact .inr (.inr ⟨by rw[Qk e1];omega,jS,b6,jS,TrieAt.upd0 hu7 t6⟩)
  |none=>
   refine aj.2 (wD nd5 hi ?_);cases hsk:s.k c with
   |none=>
    have hlc:lc= []:=by
     rcases hsi with⟨h1,_⟩|⟨q,_,h2,_⟩|⟨_,_,kb,h2,_⟩
     ·exact h1
     ·rw[hsp]at h2;cases h2
     ·rw[hsk]at h2;cases h2
    refine ay.2 ⟨none,w1 hu25 3,p.1,w2 hu25 0,p.2,w2 hu25 1,?_⟩;refine sR nd5 (gW (k02.tr hu25)) hi (fun _ _=>hsk) p fun h6 b6 nd6 hu6=>?_
    have ht:dX l p.1=false:=by rw[←htp,hlc];rfl
    have hnl:p∉l:=fun hm=>by
     have:dX l p.1=true:=cL.2 ⟨p,hm,decide_eq_true rfl⟩;rw[ht]at this;cases this
    rw[ht]at hk;refine hk h6 b6 true ((k02.tr hu25).tr hu6) (hturn (hu25.tr hu6) nd6 hs (fun c' hc'=>⟨jH hc',jH hc'⟩) ?_) (fun h=>by cases h) (by rw[decide_eq_false hnl];rfl)
    rw[hlc];exact .inr (.inl ⟨p,rfl,jS,jS⟩)
   |some kp=>
    obtain⟨h2l,kb,rfl,tk⟩:2≤lc.length∧∃kb,kp=some ⟨kb,0,none⟩∧TrieAt W x h2 m kb lc:=by
     rcases hsi with⟨_,_,h2⟩|⟨q,_,h2,_⟩|⟨h1,_,kb,h2,h3⟩
     ·rw[hsk]at h2;cases h2
     ·rw[hsp]at h2;cases h2
     ·rw[hsk]at h2;cases h2;exact⟨h1,kb,rfl,h3⟩
    refine aj.2 ⟨_,w1 hu25 0,_,w1 hu25 1,_,w1 hu25 2,_,w1 hu25 3,_,w1 hu25 4,_,w1 hu25 5,p.1,w2 hu25 0,p.2,w2 hu25 1,?_⟩;have ew:IntKind.wrap .i64 (((12-m:Nat):Int)+1)=((13-m:Nat):Int):=by rw[gD (by omega)];omega
    rw[ew];refine ih (by omega) p (TrieAt.upd0 hu25 tk) (gW (k02.tr hu25)) hrp hnp fun h6 b6 ch hu6 t6 hsame hch=>?_
    have hu26:=hu25.tr hu6;by_cases hml:p∈l
    ·have hch:ch=false:=by rw[hch,decide_eq_true (hmp.2 hml)];rfl
     have ht:dX l p.1=true:=cL.2 ⟨p,hml,decide_eq_true rfl⟩;rw[ht]at hk;rw[hch];refine ay.2 ?_;exact hk h6 b false (k02.tr hu26) (by rw[Fe hr hml];exact tt hu26) (fun _=>rfl) (by rw[decide_eq_true hml];rfl)
    ·have hch:ch=true:=by rw[hch,decide_eq_false fun h=>hml (hmp.1 h)];rfl
     rw[hch];refine aj.2 ⟨none,w1 hu26 3,?_⟩;refine yG (nd5.upd hu6 fun _ h=>h.elim) (gW ((k02.tr hu25).tr hu6)) hi (fun _ _=>hsp) ⟨b6,0,none⟩ fun h7 b7 nd7 hu7=>?_
     rw[htp];refine hk h7 b7 true ((k02.tr hu26).tr hu7) (hturn (hu26.tr hu7) nd7 hs (fun c' hc'=>⟨jH hc',jH hc'⟩) ?_) (fun h=>by cases h) (by rw[decide_eq_false hml];rfl)
     exact .inr (.inr ⟨bh h2l (MQ p),jS,b6,jS,TrieAt.upd0 hu7 t6⟩)
end Go.Proofs
namespace Go.Proofs
open Go.Lift
theorem LW{W:Nat→Prop}{x:Hs}{h:ae}{m b:Nat}(nd:NodeAt W h b ⟨fun _=>none,fun _=>none⟩):TrieAt W x h (m+1) b []:=⟨_,nd,fun _ _=>.inl ⟨rfl,rfl,rfl⟩⟩
def RootAt(W:Nat→Prop)(x:Hs)(h:ae)(r:Option Addr)(l:List Pr):Prop:=(r=none∧l= [])∨∃b,r=some ⟨b,0,none⟩∧TrieAt W x h 13 b l
theorem RootAt.upd0{W:Nat→Prop}{x:Hs}{h h':ae}{r:Option Addr}{l:List Pr}(k:Upd No h h')(t:RootAt W x h r l):RootAt W x h' r l:=t.imp id fun⟨b,e,t⟩=>⟨b,e,TrieAt.upd0 k t⟩
theorem Qt{W:Nat→Prop}{x:Hs}{h:ae}{r:Option Addr}{l:List Pr}(t:RootAt W x h r l)(hW:∀y,W y→y<h.size){K:Option Addr→ae→Prop}(hk:∀h' b,TrieAt W x h' 13 b l→Upd No h h'→(r=some ⟨b,0,none⟩∨r=none)→K (some ⟨b,0,none⟩) h'):HC PG nD [.pointer r] [.c .ptr] K h:=by
 refine LA r ?_;unfold CE;rcases t with⟨rfl,rfl⟩|⟨b,rfl,t⟩
 ·refine ay.2 (zB ?_)
  unfold vn;exact pE hW fun h' b nd hu=>hk h' b (LW nd) hu (.inr rfl)
 ·exact aj.2 (hk h b t (Upd.refl _ _) (.inl rfl))
theorem cO{h:ae}{b:Nat}{t:TypeId}{c vs:List Value}(hb:h[b]? =some (.cells c.toArray t (0,0))) (hl:vs.length=c.length) {k:ae→Prop}
  (hk:∀h',h'[b]? =some (.cells vs.toArray t (0,0))→Upd (· =b) h h'→k h'):r9 h (some ⟨b,0,none⟩) 0 vs∧At (gG h ⟨b,0,none⟩ 0 vs) k:=by
 have e:=jJ vs h 0 0 c hb (by omega);refine⟨.inr ⟨_,rfl,fun j hj=>by rw[bX];exact ii hb (by rw[List.size_toArray];omega)⟩,bE ?_⟩
 rw[e];refine hk _ ?_ (Upd.set h _ rfl);rw[j4 hb];congr 3
 simp[hl]
set_option maxRecDepth 4000 in
theorem M9{W:Nat→Prop}{x:Hs}{h:ae}{r:Option Addr}{l:List Pr}(t:RootAt W x h r l)(hW:∀y,W y→y<h.size)(hr:bO l)(hn:l.length≤1000000)(p:Pr){K:Option Addr×Bool→ae→Prop}
  (hk:∀h' b',Upd No h h'→TrieAt W x h' 13 b' (gC p l)→(p∈l→r=some ⟨b',0,none⟩∨r=none)→K (some ⟨b',0,none⟩, !dX l p.1) h'):
  HC PG yk [.agg #[.int .u64 x.k0,.int .u64 x.k1,.int .u64 x.mask],.pointer none,.pointer r,.agg #[.string p.1,.string p.2]] [.c .ptr,.c .bool] K h:=by
 refine NB (x.k0,x.k1,x.mask) none r p ?_;unfold EL af aH di zt vr aw wq qn eW ui Xj Xq HK;have k1:=Upd.hnew No h [.int .u64 x.k0,.int .u64 x.k1,.int .u64 x.mask] co;have b1:=cq h [.int .u64 x.k0,.int .u64 x.k1,.int .u64 x.mask] co;refine bE ?_;simp only[cV h];generalize hnew h [.int .u64 x.k0,.int .u64 x.k1,.int .u64 x.mask] co=h1 at k1 b1
 have k2:=Upd.hnew No h1 [.string p.1,.string p.2] al;have b2:=cq h1 [.string p.1,.string p.2] al;refine bE ?_;simp only[cV h1];generalize hnew h1 [.string p.1,.string p.2] al=h2 at k2 b2;have w1:∀{h':ae},Upd No h2 h'→∀i,aP h' (adr ⟨h.size,0,none⟩ i)=(#[.int .u64 x.k0,.int .u64 x.k1,.int .u64 x.mask]:Array Value)[i]?:=fun k i=>by
  rw[bX,bq (k.get0 (k2.get0 b1)),aM]
 have w2:∀{h':ae},Upd No h2 h'→∀i,aP h' (adr ⟨h1.size,0,none⟩ i)=(#[.string p.1,.string p.2]:Array Value)[i]?:=fun k i=>by rw[bX,bq (k.get0 b2),aM]
 have r2:=Upd.refl No h2;have k02:=k1.tr k2;let c6:List Value:= [.int .u64 0,.int .u64 0,.int .u64 0,.pointer none,.string (⟨#[]⟩:ByteArray),.int .u64 0]
 let v6:List Value:= [.int .u64 x.k0,.int .u64 x.k1,.int .u64 x.mask,.pointer none,.string p.1,.int .u64 (fU x p.1)]
 have fin:∀{h4:ae} {b:Nat},Upd No h2 h4→h4[b]? =some (.cells v6.toArray df (0,0))→
   ∃v15:Int,aP h4 (adr ⟨b,0,none⟩ 0)=some (.int .u64 v15)∧
    ∃v16:Int,aP h4 (adr ⟨b,0,none⟩ 1)=some (.int .u64 v16)∧
    ∃v17:Int,aP h4 (adr ⟨b,0,none⟩ 2)=some (.int .u64 v17)∧
    ∃v18:Option Addr,aP h4 (adr ⟨b,0,none⟩ 3)=some (.pointer v18)∧
    ∃v19:ByteArray,aP h4 (adr ⟨b,0,none⟩ 4)=some (.string v19)∧
    ∃v20:Int,aP h4 (adr ⟨b,0,none⟩ 5)=some (.int .u64 v20)∧
    ∃v21:ByteArray,aP h4 (adr ⟨h1.size,0,none⟩ 0)=some (.string v21)∧
    ∃v22:ByteArray,aP h4 (adr ⟨h1.size,0,none⟩ 1)=some (.string v22)∧
    HC PG nD [.pointer r] [.c .ptr] (fun(e23:Option Addr) h24=>
     ((aP h24 (adr ⟨h1.size,0,none⟩ 0)=some (.string v21)∧aP h24 (adr ⟨h1.size,0,none⟩ 1)=some (.string v22))∧
      ((aP h24 (adr ⟨b,0,none⟩ 0)=some (.int .u64 v15)∧aP h24 (adr ⟨b,0,none⟩ 1)=some (.int .u64 v16)∧aP h24 (adr ⟨b,0,none⟩ 2)=some (.int .u64 v17)∧aP h24 (adr ⟨b,0,none⟩ 3)=some (.pointer v18)∧aP h24 (adr ⟨b,0,none⟩ 4)=some (.string v19)∧aP h24 (adr ⟨b,0,none⟩ 5)=some (.int .u64 v20))∧
       HC PG jM [.agg #[.int .u64 v15,.int .u64 v16,.int .u64 v17,.pointer v18,.string v19,.int .u64 v20],.pointer e23,.agg #[.string v21,.string v22],.int .i64 0] [.c .ptr,.c .bool,.c .bool] (fun(e25:(Option Addr)×Bool×Bool) h26=>
        K (e25.1,e25.2.1) h26) h24))) h4:=fun{h4 b} hu4 hb4=>by
  have w4:∀{h':ae},Upd No h4 h'→∀i,aP h' (adr ⟨b,0,none⟩ i)=v6.toArray[i]?:=fun k i=>by rw[bX,bq (k.get0 hb4),aM]
  have r4:=Upd.refl No h4;refine⟨_,w4 r4 0,_,w4 r4 1,_,w4 r4 2,_,w4 r4 3,_,w4 r4 4,_,w4 r4 5,p.1,w2 hu4 0,p.2,w2 hu4 1,?_⟩;refine Qt (t.upd0 (k02.tr hu4)) (fun y hy=>aQ (hW y hy) (k02.tr hu4).size) fun h5 b5 t5 hu5 hr5=>?_
  have hu25:=hu4.tr hu5;refine⟨⟨w2 hu25 0,w2 hu25 1⟩,⟨w4 hu5 0,w4 hu5 1,w4 hu5 2,w4 hu5 3,w4 hu5 4,w4 hu5 5⟩,?_⟩;refine XM 13 (aq _) p t5 (fun y hy=>aQ (hW y hy) ((k02.tr hu4).tr hu5).size) hr hn fun h6 b6 ch hu6 t6 hs hch=>?_
  refine hk h6 b6 ((k02.tr hu25).tr hu6) t6 fun hm=>?_
  have hb:b6=b5:=hs (by rw[hch,decide_eq_true hm];rfl);rw[hb];exact hr5
 have own:∀{h3 h4:ae} {b:Nat},h2.size≤b→Upd (· =b) h3 h4→Upd No h2 h3→Upd No h2 h4:=fun hb hu k=>k.trans hu fun y hy=>.inr (hy▸hb)
 refine⟨_,w1 r2 0,_,w1 r2 1,_,w1 r2 2,_,w2 r2 0,_,w1 r2 0,_,w1 r2 1,_,w1 r2 2,_,w2 r2 0,?_,?_⟩
 ·refine uj fun h3 hu3=>⟨w2 hu3 0,⟨w1 hu3 0,w1 hu3 1,w1 hu3 2⟩,?_⟩
  have k4:=Upd.hnew No h3 c6 df;have b4:=cq h3 c6 df;have hu4:=hu3.tr k4;refine bE ?_;simp only[cV h3];refine⟨w2 hu4 0,⟨w1 hu4 0,w1 hu4 1,w1 hu4 2⟩,?_⟩;refine cO (vs:=v6) b4 rfl fun h5 b5 hu5=>fin (own hu3.size hu5 hu4) b5
 ·have k4:=Upd.hnew No h2 c6 df
  have b4:=cq h2 c6 df;refine bE ?_;simp only[cV h2];refine⟨w2 k4 0,⟨w1 k4 0,w1 k4 1,w1 k4 2⟩,w2 k4 0,⟨w1 k4 0,w1 k4 1,w1 k4 2⟩,?_⟩;refine uj fun h5 hu5=>?_
  have hu25:=k4.tr hu5;refine⟨w2 hu25 0,⟨w1 hu25 0,w1 hu25 1,w1 hu25 2⟩,?_⟩;exact cO (vs:=v6) (hu5.get0 b4) rfl fun h6 b6 hu6=>fin (own (aq _) hu6 hu25) b6
end Go.Proofs
namespace Go.Proofs
open Go.Lift
abbrev pu(b:UInt8):List Value:= [.int .u8 (b.toNat:Int)]
theorem tC(b:UInt8):(pu b).length=1∧0<1:=⟨rfl,Nat.one_pos⟩
theorem Bq:∀xs:List UInt8,cE (xs.flatMap pu)=true
 | []=>rfl
 |x::xs=>by rw[aN];exact lK rfl (Bq xs)
theorem yo(s:ByteArray):eH s=s.data.toList.flatMap pu:=by
 unfold eH;generalize s.data.toList=l;induction l with
 |nil=>rfl
 |cons b l ih=>rw[eO,aN,ih];rfl
theorem vN{M:Nat→Prop}{h:ae}{so:SliceV}{out:List UInt8}{v:Int}{b:UInt8}(hv:v=(b.toNat:Int)){K:SliceV→ae→Prop}(ho:OwnS pu 1 cH M h so out)(hM:∀b,h.size≤b→M b)(hn:out.length+1≤140737488355328)
  (hk:∀s' h',OwnS pu 1 cH M h' s' (out++ [b])→Upd M h h'→K s' h'):
  ∃xs,SRow (hnew h [.int .u8 v] cH) (some (aE h)) (1*1) xs∧AppP (some [.int .u8 0]) 1 1 cH so.a so.len so.cap 1 xs (hnew h [.int .u8 v] cH) K:=by
 subst hv;have k:=Upd.hnew No h [.int .u8 (b.toNat:Int)] cH;have h1:OwnS pu 1 cH (fun _=>True) (hnew h [.int .u8 (b.toNat:Int)] cH) ⟨some (aE h),1,1⟩ [b]:=⟨rfl,tC,aq _,.inr ⟨h.size,[],rfl,trivial,cq ..,rfl⟩⟩
 refine⟨_,(h1.sl (W:=No) fun _ _ _ h=>h).srow,?_⟩
 refine AppP.own (ys:= [b]) (ho.upd k fun _ _ h=>h) rfl rfl rfl rfl (by omega) (by simp only[aI];omega) (hM _ (by rw[iM];omega)) fun s' h' ho' hu=>?_
 exact hk s' h' ho' ((Upd.hnew M h _ _).tr hu)
def mW(n k:Nat):List UInt8:=(gR k).map fun i=>gu (n>>>(8*i))
theorem yO(n k:Nat):mW n (k+1)=mW n k++ [gu (n>>>(8*k))]:=by unfold mW;rw[me,cY];rfl
theorem dI(n k:Nat):(mW n k).length=k:=by simp[mW]
theorem OP{M:Nat→Prop}{h:ae}{s:SliceV}{xs:List UInt8}(ho:OwnS pu 1 cH M h s xs)(hM:∀b,h.size≤b→M b){n k:Nat}(hn:n<18446744073709551616)(hk8:k≤8)(hl:xs.length+k≤140737488355328){K:SliceV→ae→Prop}
  (hk:∀s' h',OwnS pu 1 cH M h' s' (xs++mW n k)→Upd M h h'→K s' h'):HC PG m3 [.slice s.a s.len s.cap,.int .u64 n,.int .i64 k] [.c .slice] K h:=by
 refine Es s n k ?_;unfold yx;refine LoopP.ghost (fun(i:Nat) (t:SliceV×Int) h'=>t.2=(i:Int)∧i≤k∧OwnS pu 1 cH M h' t.1 (xs++mW n i)∧Upd M h h') (fun i=>k-i) 0 ⟨rfl,aW _,by simpa[mW]using ho,Upd.refl _ _⟩ ?_
 rintro I i ⟨so,ti⟩ h' ⟨e1,hi,ho',hu⟩ hI;simp only at e1 ho';subst e1;refine az (fun hlt=>?_) fun hge=>?_
 ·have hlt:i<k:=by have:(i:Int)<(k:Int):=hlt;omega
  have e8:IntKind.wrap .i64 (8*(i:Int))=((8*i:Nat):Int):=by rw[gD (by omega)];omega
  have em:min (((8*i:Nat):Int)).toNat (IntKind.bits .u64)=8*i:=by rw[aV];exact bN (by show 8*i≤64;omega)
  refine Join.plain ?_;simp only[Bd];rw[e8,em,mZ];refine⟨by omega,bE ?_⟩;refine vN (b:=gu (n>>>(8*i))) ?_ ho' (fun b hb=>hM b (bh hu.size hb)) (by rw[ac,dI];omega) fun s2 h2 ho2 hu2=>?_
  ·rw[IntKind.wrap_u8];simp
  ·rw[cS hlt (by omega)]
   refine hI (i+1) _ _ ⟨rfl,hlt,?_,hu.tr hu2⟩ (by omega);rw[yO,←au];exact ho2
 ·have hik:i=k:=by have:¬(i:Int)<(k:Int):=hge;omega
  subst hik;exact hk _ _ ho' hu
end Go.Proofs
namespace Go.Proofs
open Go Go.Lift
theorem Nd{α:Type}{f:α→List Value}{sz bytes:Nat}{t:TypeId}{W:Nat→Prop}{h:ae}{base:Option Addr}{sl sc xl:Nat}{xs ys:List α}{ysv z:List Value}{K:SliceV→ae→Prop}
  (hs:Sl f sz W h ⟨base,sl,sc⟩ xs)(hxl:xl=ys.length)(hys:ysv=ys.flatMap f)(hz:z.length=sz)(hb:0<bytes)(hout:sc<sl+xl)(hfit:(xs.length+ys.length)*bytes≤140737488355328)
  (hk:∀s' h',OwnS f sz t (fun b=>h.size≤b) h' s' (xs++ys)→Upd No h h'→K s' h'):AppP (some z) sz bytes t base sl sc xl ysv h K:=by
 have hlen:sl=xs.length:=hs.len;subst hxl hys;refine⟨fun hin=>by omega,fun _=>?_⟩
 refine⟨xs.flatMap f,z,hs.srow,rfl,hb,Go.growslice_fits hout (by rw[hlen];exact hfit),fun nc hnc=>?_⟩
 refine hk _ _ ⟨by simp[hlen],hs.ne,hnc,.inr ⟨h.size,eD (nc-(sl+ys.length)) z,rfl,aq _,?_,?_⟩⟩ (Upd.hnew No h _ _)
 ·rw[cq,bH]
 ·rw[mJ,hz]
theorem Wo{h:ae}{s:SliceV}{xs:List UInt8}(hs:Sl pu 1 No h s xs)(hc:s.cap=s.len){n k:Nat}(hk8:k≤8)(hk0:0<k)(hl:xs.length+k≤140737488355328){K:SliceV→ae→Prop}
  (hk:∀s' h',OwnS pu 1 cH (fun b=>h.size≤b) h' s' (xs++mW n k)→Upd No h h'→K s' h'):HC PG m3 [.slice s.a s.len s.cap,.int .u64 n,.int .i64 k] [.c .slice] K h:=by
 refine Es s n k ?_;unfold yx;refine LoopP.ghost (fun(i:Nat) (t:SliceV×Int) h'=>t.2=(i:Int)∧i≤k∧((i=0∧t.1=s∧h'=h)∨OwnS pu 1 cH (fun b=>h.size≤b) h' t.1 (xs++mW n i))∧Upd No h h') (fun i=>k-i) 0 ⟨rfl,aW _,.inl ⟨rfl,rfl,rfl⟩,Upd.refl _ _⟩ ?_
 rintro I i ⟨so,ti⟩ h' ⟨e1,hi,ho',hu⟩ hI;simp only at e1 ho';subst e1;refine az (fun hlt=>?_) fun hge=>?_
 ·have hlt:i<k:=by have:(i:Int)<(k:Int):=hlt;omega
  have e8:IntKind.wrap .i64 (8*(i:Int))=((8*i:Nat):Int):=by rw[gD (by omega)];omega
  have em:min (((8*i:Nat):Int)).toNat (IntKind.bits .u64)=8*i:=by rw[aV];exact bN (by show 8*i≤64;omega)
  refine Join.plain ?_;simp only[Bd];rw[e8,em,mZ];refine⟨by omega,bE ?_⟩;have ev:IntKind.wrap .u8 ((n>>>(8*i):Nat):Int)=((gu (n>>>(8*i))).toNat:Int):=by rw[IntKind.wrap_u8];simp
  rcases ho' with⟨rfl,rfl,rfl⟩|ho'
  ·rw[ev]
   have k1:=Upd.hnew No h' [.int .u8 ((gu (n>>>(8*0))).toNat:Int)] cH;have h1:OwnS pu 1 cH (fun _=>True) (hnew h' [.int .u8 ((gu (n>>>(8*0))).toNat:Int)] cH) ⟨some (aE h'),1,1⟩ [gu (n>>>(8*0))]:=⟨rfl,tC,aq _,.inr ⟨h'.size,[],rfl,trivial,cq ..,rfl⟩⟩
   refine⟨_,(h1.sl (W:=No) fun _ _ _ h=>h).srow,?_⟩
   refine Nd (ys:= [gu (n>>>(8*0))]) (hs.upd k1 fun _ h=>h.elim) rfl rfl rfl (by omega) (by omega) (by simp only[aI];omega) fun s2 h2 ho2 hu2=>?_
   rw[cS hlt (by omega)];refine hI 1 _ _ ⟨rfl,hlt,.inr ?_,k1.tr hu2⟩ (by omega);exact ho2.more fun b hb=>bh k1.size hb
  ·refine vN ev ho' (fun b hb=>bh hu.size hb) (by rw[ac,dI];omega) fun s2 h2 ho2 hu2=>?_
   rw[cS hlt (by omega)];refine hI (i+1) _ _ ⟨rfl,hlt,.inr ?_,hu.trans hu2 fun b hb=>.inr hb⟩ (by omega)
   rw[yO,←au];exact ho2
 ·have hik:i=k:=by have:¬(i:Int)<(k:Int):=hge;omega
  subst hik;rcases ho' with⟨e,_⟩|ho'
  ·omega
  ·exact hk _ _ ho' hu
def om(s:ByteArray):List UInt8:=mW s.size 2++s.data.toList
theorem E8{W:Nat→Prop}{h:ae}{s:SliceV}{xs:List UInt8}(hs:Sl pu 1 W h s xs)(hc:s.len≤s.cap)(b:ByteArray)(hb:b.size≤1000000)(hl:xs.length+2+b.size≤140737488355328){K:SliceV→ae→Prop}
  (hk:∀s' h',OwnS pu 1 cH (fun x=>h.size≤x) h' s' (xs++om b)→Upd No h h'→K s' h'):HC PG ns [.slice s.a s.len s.cap,.string b] [.c .slice] K h:=by
 refine Lp s b ?_;unfold Ct;have hlen:=hs.len;refine⟨by omega,by omega,?_⟩
 simp only[aV];have hs1:Sl pu 1 No h ⟨bj s.a 0 s.len 1,s.len-0,s.len-0⟩ xs:=by
  have:=Sl.sub (hs.less (W':=No) fun _ h=>h.elim) (l:=0) (hi:=s.len) (m:=s.len) (c:=s.len-0) (aW _) (by omega) (aq _)
  rw[List.drop_zero,bD (by omega)]at this;exact this
 have ew:IntKind.wrap .u64 (b.size:Int)=(b.size:Int):=Go.IntWalk.u64_in _ (by omega);rw[ew];refine Wo hs1 rfl (n:=b.size) (k:=2) (by omega) (by omega) (by omega) fun s2 h2 ho2 hu2=>?_
 refine AppP.own (ys:=b.data.toList) ho2 (by simp) (yo b) (by rw[yo];exact Bq _) rfl (by omega) ?_ hu2.size fun s3 h3 ho3 hu3=>?_
 ·simp only[ac,dI]
  have:b.data.toList.length=b.size:=by simp
  omega
 ·refine hk s3 h3 ?_ (hu2.trans hu3 fun x hx=>.inr hx)
  rw[om,←au];exact ho3
end Go.Proofs
namespace Go.Proofs
open Go Go.Lift
def Eb(p:Pr):List UInt8:=om p.1++om p.2
def le(l:List Pr):List UInt8:=l.flatMap Eb
theorem jI(b:ByteArray):(om b).length=2+b.size:=by simp[om,dI]
def Fit(l:List Pr):Prop:=∀p∈l,p.1.size≤10000∧p.2.size≤10000
theorem Sc{p:Pr}(h:p.1.size≤10000∧p.2.size≤10000):(Eb p).length≤20004:=by
 unfold Eb;rw[ac,jI,jI];omega
theorem mS:∀{l:List Pr},Fit l→(le l).length≤l.length*20004
 | [],_=>by simp[le]
 |p::l,h=>by
  have h1:=Sc (h p (av ..));have h2:=mS (l:=l) fun q hq=>h q (aC _ hq)
  unfold le at*;rw[aN,ac,ar];omega
theorem Ea{l:List Pr}{i:Nat}(hi:i<l.length):le (l.take (i+1))=le (l.take i)++Eb l[i]:=by
 unfold le;rw[bo hi,bH,aN,iw,aJ]
theorem FM{M W:Nat→Prop}{h:ae}{s sp:SliceV}{xs:List UInt8}{l:List Pr}(ho:OwnS pu 1 cH M h s xs)(hM:∀b,h.size≤b→M b)(hs:Sl eg 2 W h sp l)(hW:∀x,M x→x<h.size→W x)(hf:Fit l)(hn:l.length≤1000000)(hl:xs.length+l.length*20004≤140737488355328){K:SliceV→ae→Prop}
  (hk:∀s' h',OwnS pu 1 cH M h' s' (xs++le l)→Upd M h h'→K s' h'):HC PG qU [.slice s.a s.len s.cap,.slice sp.a sp.len sp.cap] [.c .slice] K h:=by
 refine Ik s sp ?_;unfold zF cB nv aO aw kZ ij HJ;have hlen:=hs.len;have hMW:∀b,M b→W b∨h.size≤b:=fun b hb=>by
  rcases Nat.lt_or_ge b h.size with hx|hx
  ·exact .inl (hW b hb hx)
  ·exact .inr hx
 refine LoopP.ghost (fun(i:Nat) (t:SliceV×Int) h'=>t.2=(i:Int)∧i≤l.length∧OwnS pu 1 cH M h' t.1 (xs++le (l.take i))∧Upd M h h') (fun i=>l.length-i) 0 ⟨rfl,aW _,by simpa[le]using ho,Upd.refl _ _⟩ ?_
 rintro I i ⟨so,ti⟩ h' ⟨e1,hi,ho',hu⟩ hI;simp only at e1 ho';subst e1;refine az (fun hlt=>?_) fun hge=>?_
 ·have hlt:i<l.length:=by have:(i:Int)<(sp.len:Int):=hlt;omega
  obtain⟨a,ha,_,hv⟩:=(hs.upd hu hMW).at (List.getElem?_eq_getElem hlt);have hfi:=hf l[i] (bw hlt);have htl:=mS (l:=l.take i) fun q hq=>hf q (kJ hq)
  rw[List.length_take,bN hi]at htl;have k1:=Upd.hnew No h' [.string (⟨#[]⟩:ByteArray),.string (⟨#[]⟩:ByteArray)] al;have b1:=cq h' [.string (⟨#[]⟩:ByteArray),.string (⟨#[]⟩:ByteArray)] al;refine⟨by simp only;omega,a,ha,l[i].1,hv 0 _ rfl,l[i].2,hv 1 _ rfl,bE ?_⟩;simp only[cV h'];generalize hnew h' [.string (⟨#[]⟩:ByteArray),.string (⟨#[]⟩:ByteArray)] al=h1 at k1 b1
  have b1':h1[h'.size]? =some (.cells #[.string Vy.1,.string Vy.2] al (0,0)):=b1;refine QH (p:=l[i]) b1' fun h2 b2 hu2=>?_
  have hu12:Upd No h' h2:=k1.trans hu2 fun x hx=>.inr (Nat.le_of_eq hx.symm)
  have ho2:=ho'.upd hu12 fun _ _ h=>h
  refine⟨l[i].1,by rw[bX,bq b2];rfl,l[i].2,by rw[bX,bq b2];rfl,?_⟩
  have hmul:i*20004+20004≤l.length*20004:=by rw[←Nat.succ_mul];exact cy _ hlt
  refine E8 (W:=No) (ho2.sl fun _ _ _ h=>h) ho2.cap l[i].1 (by omega) (by rw[ac];omega) fun s3 h3 ho3 hu3=>⟨by rw[bX,bq (hu3.get0 b2)];rfl,?_⟩
  refine E8 (W:=No) (ho3.sl fun _ _ _ h=>h) ho3.cap l[i].2 (by omega) (by rw[ac,ac,jI];omega) fun s4 h4 ho4 hu4=>?_
  have hu04:Upd M h h4:=hu.tr ((hu12.tr (hu3.tr hu4)).wide);rw[cS hlt (by omega)];refine hI (i+1) _ _ ⟨rfl,hlt,?_,hu04⟩ (by omega);rw[Ea hlt,Eb,←au,←au];exact ho4.more fun b hb=>hM b (bh (hu.tr ((hu12.tr hu3).wide)).size hb)
 ·have hil:i=l.length:=by have:¬(i:Int)<(sp.len:Int):=hge;omega
  rw[bD (by omega)]at ho';exact hk _ _ ho' hu
end Go.Proofs
namespace Go.Proofs
open Go Go.Lift
def jX(q:Nat→Bool):Nat→Nat
 |0=>0
 |n+1=>jX q n+(if q n then 2^n else 0)
theorem m5(q:Nat→Bool):∀n,jX q n<2^n
 |0=>by simp[jX]
 |n+1=>by
  have:=m5 q n;unfold jX;rw[nP];split<;>omega
theorem Dz(q:Nat→Bool)(c:Nat):∀n,(jX q n).testBit c=(decide (c<n)&&q c)
 |0=>by simp[jX]
 |n+1=>by
  have hlt:=m5 q n;have ih:=Dz q c n;unfold jX;by_cases hq:q n=true
  ·rw[if_pos hq,Nat.add_comm]
   rcases Nat.lt_trichotomy c n with h|h|h
   ·rw[Nat.testBit_two_pow_add_gt h,ih,decide_eq_true h,decide_eq_true (by omega)]
   ·subst h
    rw[Nat.testBit_two_pow_add_eq,jy hlt,decide_eq_true (by omega),hq];rfl
   ·have h1:2^n+jX q n<2^c:=aQ (by rw[nP];omega:2^n+jX q n<2^(n+1)) (gz (by omega) h)
    rw[jy h1,decide_eq_false (by omega)];rfl
  ·rw[if_neg hq,dU,ih]
   by_cases h:c<n
   ·rw[decide_eq_true h,decide_eq_true (by omega)]
   ·by_cases e:c=n
    ·subst e;have:q c=false:=by simpa using hq
     rw[this];simp
    ·rw[decide_eq_false h,decide_eq_false (by omega)]
theorem JS{d:Nat}{q:Nat→Bool}(hd:d<4294967296)(h:∀c,c<32→d.testBit c=q c):d=jX q 32:=by
 refine Nat.eq_of_testBit_eq fun c=>?_
 rw[Dz];by_cases hc:c<32
 ·rw[h c hc,decide_eq_true hc];rfl
 ·rw[decide_eq_false hc,jy (aQ hd (gz (n:=2) (by omega) (show 32≤c by omega)))];rfl
end Go.Proofs
namespace Go.Proofs
open Go Go.Lift
def jc(l:List Pr):Option Pr:=match l with| [p]=>some p|_=>none
def fx(l:List Pr):Option (List Pr):=if 2≤l.length then some l else none
def iI(x:Hs)(lev:Nat)(l:List Pr):List Pr:=fm (fun c=>jc (part x lev c l)) 32
def kS(x:Hs)(lev:Nat)(l:List Pr):List (List Pr):=fm (fun c=>fx (part x lev c l)) 32
def fG(x:Hs):Nat→List Pr→List UInt8
 |0,l=>1::(mW l.length 2++le l)
 |m+1,l=>0::(mW (jX (fun c=>(jc (part x (12-m) c l)).isSome) 32) 4++(mW (jX (fun c=>(fx (part x (12-m) c l)).isSome) 32) 4++(le (iI x (12-m) l)++(kS x (12-m) l).flatMap (fG x m))))
theorem FJ{W:Nat→Prop}{x:Hs}{h:ae}{m:Nat}{s:Slots}{c:Nat}{l:List Pr}(t:SlotIs W x h m s c l):s.p c=jc l∧(s.k c).isSome=(fx l).isSome:=by
 rcases t with⟨rfl,h1,h2⟩|⟨p,rfl,h1,h2⟩|⟨h0,h1,kb,h2,_⟩
 ·rw[h1,h2];exact⟨rfl,rfl⟩
 ·rw[h1,h2];exact⟨rfl,rfl⟩
 ·rw[h1,h2]
  refine⟨?_,by simp[fx,h0]⟩
  match l,h0 with
  |a::b::l,_=>rfl
def KidsAt(W:Nat→Prop)(x:Hs)(h:ae)(m:Nat):List (Option Addr)→List (List Pr)→Prop
 | [],[]=>True
 |k::ks,l::ls=>(∃kb,k=some ⟨kb,0,none⟩∧TrieAt W x h m kb l)∧KidsAt W x h m ks ls
 |_,_=>False
theorem KidsAt.app{W:Nat→Prop}{x:Hs}{h:ae}{m:Nat}:∀{ks ks':List (Option Addr)} {ls ls':List (List Pr)},KidsAt W x h m ks ls→KidsAt W x h m ks' ls'→KidsAt W x h m (ks++ks') (ls++ls')
 | [],_,[],_,_,q=>q
 |_::_,_,_::_,_,q,q'=>⟨q.1,KidsAt.app q.2 q'⟩
 | [],_,_::_,_,q,_=>q.elim
 |_::_,_,[],_,q,_=>q.elim
theorem iP{β:Type}(g:Nat→Option β)(n:Nat):fm g (n+1)=fm g n++(g n).toList:=by
 unfold fm;rw[me,List.filterMap_append];cases h:g n<;>simp[h]
theorem OV{W:Nat→Prop}{x:Hs}{h:ae}{m lev:Nat}{s:Slots}{l:List Pr}:∀n,(∀c,c<n→SlotIs W x h m s c (part x lev c l))→KidsAt W x h m (fm s.k n) (fm (fun c=>fx (part x lev c l)) n)
 |0,_=>trivial
 |n+1,hs=>by
  rw[iP,iP];refine KidsAt.app (OV n fun c hc=>hs c (by omega)) ?_
  rcases hs n (by omega)with⟨h0,_,h2⟩|⟨p,h0,_,h2⟩|⟨h0,_,kb,h2,h3⟩
  ·rw[h2,h0];exact trivial
  ·rw[h2,h0];exact trivial
  ·rw[h2]
   have:fx (part x lev n l)=some (part x lev n l):=by unfold fx;rw[if_pos h0]
   simp only[this];exact⟨⟨kb,rfl,h3⟩,trivial⟩
theorem Kt{W:Nat→Prop}{x:Hs}{h:ae}{m lev:Nat}{s:Slots}{l:List Pr}(hs:∀c,c<32→SlotIs W x h m s c (part x lev c l)):fm s.p 32=iI x lev l:=
 YT _ fun c hc=>(FJ (hs c (List.mem_range.1 hc))).1
end Go.Proofs
namespace Go.Proofs
open Go Go.Lift
theorem yL(x:Hs)(lev:Nat)(l:List Pr):∀n,(((gR n).map fun c=>(part x lev c l).length).sum)=(l.filter fun p=>decide (ck x lev p.1<n)).length
 |0=>by
  have:(l.filter fun p=>decide (ck x lev p.1<0))= []:=qi.2 fun p _=>by simp
  rw[this];rfl
 |n+1=>by
  rw[me,cY,rR,yL x lev l n];simp only[eO,gS,vo,List.sum_nil,dU];unfold part;clear yL;induction l with
  |nil=>rfl
  |cons p l ih=>
   simp only[bF,decide_eq_true_iff];split<;>split<;>split<;>first|omega|(simp only[ar];omega)
theorem vu(x:Hs)(lev:Nat)(l:List Pr):(iI x lev l).length+(kS x lev l).flatten.length≤l.length:=by
 have h:=yL x lev l 32;have hle:(l.filter fun p=>decide (ck x lev p.1<32)).length≤l.length:=dV ..
 have:∀n,(fm (fun c=>jc (part x lev c l)) n).length+(fm (fun c=>fx (part x lev c l)) n).flatten.length≤((gR n).map fun c=>(part x lev c l).length).sum:=by
  intro n;induction n with
  |zero=>simp[fm]
  |succ n ih=>
   rw[iP,iP,me,cY,rR];simp only[ac,gY,eO,gS,vo,List.sum_nil,dU];generalize part x lev n l=q;have:(jc q).toList.length+(fx q).toList.flatten.length≤q.length:=by
    match q with
    | []=>simp[jc,fx]
    | [a]=>simp[jc,fx]
    |a::b::q=>simp[jc,fx]
   omega
 have:=this 32;unfold iI kS;omega
end Go.Proofs
namespace Go.Proofs
open Go Go.Lift
theorem sO{x:Hs}{lev:Nat}{l:List Pr}{p:Pr}(h:p∈iI x lev l):p∈l:=by
 unfold iI fm at h;obtain⟨c,_,hc⟩:=lW.1 h;unfold jc at hc;split at hc
 ·rename_i q hq
  cases hc;have:p∈part x lev c l:=by rw[hq];exact aF.2 rfl
  exact(mU.1 this).1
 ·cases hc
theorem pk{x:Hs}{lev:Nat}{l L:List Pr}(h:L∈kS x lev l):2≤L.length∧∃c,L=part x lev c l:=by
 unfold kS fm at h;obtain⟨c,_,hc⟩:=lW.1 h;unfold fx at hc;split at hc
 ·cases hc;exact⟨by assumption,c,rfl⟩
 ·cases hc
theorem Fit.part{x:Hs}{lev c:Nat}{l:List Pr}(h:Fit l):Fit (part x lev c l):=fun p hp=>h p (mU.1 hp).1
theorem E9{B:Nat}{f:List Pr→List UInt8}:∀{ls:List (List Pr)},(∀L∈ls,2≤L.length∧(f L).length≤9+L.length*B)→(ls.flatMap f).length≤ls.flatten.length*(B+9)
 | [],_=>by simp
 |L::ls,h=>by
  have h1:=h L (av ..);have h2:=E9 (ls:=ls) fun M hM=>h M (aC _ hM)
  rw[aN,ac,iY,ac,jG];have:L.length*(B+9)=L.length*B+L.length*9:=Nat.mul_add ..;omega
theorem oU{x:Hs}:∀(m:Nat) {l:List Pr},Fit l→(fG x m l).length≤9+l.length*(20004+9*(m+1))
 |0,l,h=>by
  have:=mS h;unfold fG;rw[ar,ac,dI];have:l.length*20004≤l.length*(20004+9*(0+1)):=gV _ (by omega);omega
 |m+1,l,h=>by
  have h1:=mS (l:=iI x (12-m) l) fun p hp=>h p (sO hp)
  have h2:=E9 (f:=fG x m) (ls:=kS x (12-m) l) (B:=20004+9*(m+1)) fun L hL=>by
   obtain⟨h3,c,rfl⟩:=pk hL;exact⟨h3,oU m h.part⟩
  have h4:=vu x (12-m) l;unfold fG;rw[ar,ac,ac,ac,dI,dI];have h5:(iI x (12-m) l).length*20004≤(iI x (12-m) l).length*(20004+9*(m+1+1)):=gV _ (by omega);have h6:((iI x (12-m) l).length+(kS x (12-m) l).flatten.length)*(20004+9*(m+1+1))≤l.length*(20004+9*(m+1+1)):=cy _ h4;rw[jG]at h6
  have h7:20004+9*(m+1)+9=20004+9*(m+1+1):=by omega
  rw[h7]at h2;omega
end Go.Proofs
namespace Go.Proofs
open Go Go.Lift
theorem OJ{h:ae}{b d n:Nat}{sp sk:SliceV}{bu:Bool}{ow:Option Addr}(hb:h[b]? =some (.cells (fS d n sp sk bu ow) bQ (0,0))) (hl:sp.len+sk.len≤1000000000) {K:Int→ae→Prop} (hk:K ((sp.len+sk.len:Nat):Int) h):HC PG rM [.pointer (some ⟨b,0,none⟩)] [.c (.int .i64)] K h:=by
 refine E1 _ ?_;unfold xm bR;refine aj.2 ⟨_,rfl,sp,fp (i:=2) hb,_,rfl,sk,fp (i:=3) hb,?_⟩;rw[gD (by omega)];exact_mod_cast hk
def Bes(M:Nat→Prop)(h h1:ae)(b:Nat):Prop:=M b∧(b<h.size∨h1.size≤b)
theorem Bes.own{α:Type}{f:α→List Value}{sz:Nat}{t:TypeId}{M:Nat→Prop}{h h1:ae}{s:SliceV}{xs:List α}(ho:OwnS f sz t M h s xs)(hu:Upd No h h1):OwnS f sz t (Bes M h h1) h1 s xs:=
 (ho.within.upd hu fun _ _ h=>h).more fun _ hb=>⟨hb.1,.inl hb.2⟩
theorem Bes.sl{α:Type}{f:α→List Value}{sz:Nat}{t:TypeId}{M:Nat→Prop}{h h1:ae}{s:SliceV}{xs:List α}(ho:OwnS f sz t (fun x=>h.size≤x) h1 s xs):Sl f sz (Bes M h h1) h1 s xs:=
 ho.sl fun b hb hlt hx=>by rcases hx.2 with h|h<;>omega
theorem Bes.hM{M:Nat→Prop}{h h1:ae}(hM:∀b,h.size≤b→M b)(hu:Upd No h h1):∀b,h1.size≤b→Bes M h h1 b:=fun b hb=>⟨hM b (bh hu.size hb),.inr hb⟩
theorem TM{W:Nat→Prop}{x:Hs}:∀(m:Nat),m≤13→∀{b:Nat} {l:List Pr} {h0 h:ae} {M:Nat→Prop} {s:SliceV} {xs:List UInt8},TrieAt W x h0 m b l→Upd No h0 h→(∀y,M y→h0.size≤y)→OwnS pu 1 cH M h s xs→(∀y,h.size≤y→M y)→Fit l→l.length≤60000→
  xs.length+(9+l.length*(20004+9*(m+1)))≤140737488355328→∀{K:SliceV→ae→Prop},(∀s' h',OwnS pu 1 cH M h' s' (xs++fG x m l)→Upd M h h'→K s' h')→
  HC PG ul [.slice s.a s.len s.cap,.pointer (some ⟨b,0,none⟩),.int .i64 ((13-m:Nat):Int)] [.c .slice] K h:=by
 intro m;induction m with
 |zero=>
  intro _ b l h0 h M s xs t hu0 hM0 ho hM hf hn hx K hk;refine Er s (some ⟨b,0,none⟩) ((13-0:Nat):Int) ?_;unfold yw bM cB Qi cr Rs VC j7;have st:∀{h'},Upd M h h'→Upd No h0 h':=fun k=>hu0.trans k fun y hy=>.inr (hM0 y hy)
  have bk:∀{h'},Upd M h h'→BuckAt W h' b l:=fun k=>BuckAt.upd t (st k) fun _ h=>h.elim
  have hM':∀{h'},Upd M h h'→∀y,h'.size≤y→M y:=fun k y hy=>hM y (bh k.size hy)
  obtain⟨sp,sk,ow,hb,_⟩:=(bk (Upd.refl M h)).ex;refine iB hb (ay.2 (bE ?_));refine vN (b:=1) rfl ho hM (by omega) fun s1 h1 ho1 hu1=>?_
  obtain⟨sp1,sk1,ow1,hb1,hsp1,hsk1,_⟩:=(bk hu1).ex;have e1:=hsp1.len;have e2:=hsk1.len;rw[List.length_nil]at e2;refine OJ hb1 (by omega) ?_;have ew:IntKind.wrap .u64 ((sp1.len+sk1.len:Nat):Int)=((l.length:Nat):Int):=by rw[Go.IntWalk.u64_in _ (by omega)];omega
  rw[ew];have hl2:l.length*20004≤l.length*(20004+9*(0+1)):=gV _ (by omega);refine OP ho1 (hM' hu1) (n:=l.length) (k:=2) (by omega) (by omega) (by rw[ac,aI];omega) fun s2 h2 ho2 hu2=>?_
  have hu02:=hu1.tr hu2;obtain⟨sp2,sk2,ow2,hb2,hsp2,_⟩:=(bk hu02).ex;refine re hb2 hsp2 (by omega) fun s3 h3 ho3 hu3=>?_
  refine FM (M:=Bes M h2 h3) (W:=Bes M h2 h3) (Bes.own ho2 hu3) (Bes.hM (hM' hu02) hu3) (Bes.sl ho3) (fun _ h _=>h) hf (by omega) (by rw[ac,ac,aI,dI];omega) fun s4 h4 ho4 hu4=>?_
  refine hk s4 h4 ?_ (hu02.tr (hu3.wide.tr (hu4.mono fun y hy=>.inl hy.1)))
  have:=ho4.more (M':=M) fun y hy=>hy.1
  rw[fG,List.append_cons,←au];exact this
 |succ m ih=>
  intro hm b l h0 h M s xs t hu0 hM0 ho hM hf hn hx K hk;refine Er s (some ⟨b,0,none⟩) ((13-(m+1):Nat):Int) ?_;unfold yw bM cB Qi cr Rs VC j7;have st:∀{h'},Upd M h h'→Upd No h0 h':=fun k=>hu0.trans k fun y hy=>.inr (hM0 y hy)
  have hM':∀{h'},Upd M h h'→∀y,h'.size≤y→M y:=fun k y hy=>hM y (bh k.size hy)
  obtain⟨sl,nd,hs0⟩:=t;have hs:∀c,c<32→SlotIs W x h0 m sl c (part x (12-m) c l):=hs0;have hd:∀{h'},Upd M h h'→∃d n sp sk ow,h'[b]? =some (.cells (fS d n sp sk false ow) bQ (0,0))∧d=jX (fun c=>(jc (part x (12-m) c l)).isSome) 32∧n=jX (fun c=>(fx (part x (12-m) c l)).isSome) 32∧Sl eg 2 W h' sp (iI x (12-m) l)∧Sl rD 1 W h' sk (fm sl.k 32):=fun{h'} k=>by
   obtain⟨d,n,sp,sk,ow,hb,bits,h3,h4,_⟩:=(nd.upd (st k) fun _ h=>h.elim).ex
   refine⟨d,n,sp,sk,ow,hb,JS bits.d32 fun c hc=>?_,JS bits.n32 fun c hc=>?_,?_,h4⟩
   ·rw[bits.dp c hc,(FJ (hs c hc)).1]
   ·rw[bits.nk c hc,(FJ (hs c hc)).2]
   ·rw[←Kt hs];exact h3
  have hka:KidsAt W x h0 m (fm sl.k 32) (kS x (12-m) l):=OV 32 hs;have hlen:=oU (x:=x) (m+1) hf;have hlen2:=hlen;have hml:∀L∈kS x (12-m) l,Fit L∧L.length≤60000:=fun L hL=>by
   obtain⟨_,c,rfl⟩:=pk hL;exact⟨hf.part,bh lZ hn⟩
  have hsf:Fit (iI x (12-m) l):=fun p hp=>hf p (sO hp)
  have hsl:=vu x (12-m) l;unfold fG at hk hlen;have ebits:∀q:Nat→Bool,jX q 32<4294967296:=fun q=>m5 q 32
  have hd32:=ebits fun c=>(jc (part x (12-m) c l)).isSome
  have hn32:=ebits fun c=>(fx (part x (12-m) c l)).isSome
  generalize jX (fun c=>(jc (part x (12-m) c l)).isSome) 32=D at hk hd hlen hd32
  generalize jX (fun c=>(fx (part x (12-m) c l)).isSome) 32=N at hk hd hlen hn32
  have hS:(iI x (12-m) l).length≤60000:=by omega
  have hSb:(iI x (12-m) l).length*20004≤l.length*(20004+9*(m+1+1)):=Nat.mul_le_mul (by omega) (by omega);have hML:∀L∈kS x (12-m) l,2≤L.length∧(fG x m L).length≤9+L.length*(20004+9*(m+1)):=fun L hL=>by
   obtain⟨h3,c,rfl⟩:=pk hL;exact⟨h3,oU m hf.part⟩
  have hbud:9+(iI x (12-m) l).length*20004+(kS x (12-m) l).flatten.length*(20004+9*(m+1)+9)≤9+l.length*(20004+9*(m+1+1)):=by
   have h5:(iI x (12-m) l).length*20004≤(iI x (12-m) l).length*(20004+9*(m+1+1)):=gV _ (by omega);have h6:((iI x (12-m) l).length+(kS x (12-m) l).flatten.length)*(20004+9*(m+1+1))≤l.length*(20004+9*(m+1+1)):=cy _ hsl;rw[jG]at h6;have h7:20004+9*(m+1)+9=20004+9*(m+1+1):=by omega
   rw[h7];omega
  have hps:=mS hsf;generalize iI x (12-m) l=So at hk hd hsf hS hSb hbud hlen hps;generalize kS x (12-m) l=Ma at hk hka hml hML hbud hlen;obtain⟨d,n,sp,sk,ow,hb,_⟩:=hd (Upd.refl M h);refine iB hb (aj.2 (Join.intro (fun s' h'=>OwnS pu 1 cH M h' s' (xs++(0::(mW D 4++mW N 4)))∧Upd M h h') (fun R hR=>bE ?_) ?_))
  ·refine vN (b:=0) rfl ho hM (by omega) fun s1 h1 ho1 hu1=>?_
   obtain⟨d1,n1,sp1,sk1,ow1,hb1,rfl,rfl,_⟩:=hd hu1;refine K8 hb1 ?_;rw[Go.IntWalk.u64_in _ (by omega)];refine OP ho1 (hM' hu1) (n:=d1) (k:=4) (by omega) (by omega) (by rw[ac,aI];omega) fun s2 h2 ho2 hu2=>?_
   obtain⟨d2,n2,sp2,sk2,ow2,hb2,rfl,rfl,_⟩:=hd (hu1.tr hu2);refine F8 hb2 ?_;rw[Go.IntWalk.u64_in _ (by omega)];refine OP ho2 (hM' (hu1.tr hu2)) (n:=n2) (k:=4) (by omega) (by omega) (by rw[ac,ac,aI,dI];omega) fun s3 h3 ho3 hu3=>?_
   refine hR _ _ ⟨?_,(hu1.tr hu2).tr hu3⟩;rw[List.append_cons,←au];exact ho3
  ·rintro s' h1 ⟨ho1,hu1⟩
   obtain⟨d1,n1,sp1,sk1,ow1,hb1,_,_,hsp1,_⟩:=hd hu1;refine re hb1 hsp1 (by omega) fun s2 h2 ho2 hu2=>?_
   refine FM (M:=Bes M h1 h2) (W:=Bes M h1 h2) (Bes.own ho1 hu2) (Bes.hM (hM' hu1) hu2) (Bes.sl ho2) (fun _ h _=>h) hsf (by omega) (by rw[ac,ar,ac,dI,dI];omega) fun s3 h3 ho3 hu3=>?_
   have ho3:=ho3.more (M':=M) fun y hy=>hy.1
   have hu03:Upd M h h3:=hu1.tr (hu2.wide.tr (hu3.mono fun y hy=>.inl hy.1))
   have e13:(((13-(m+1):Nat):Int)==(13:Int))=false:=by rw[beq_eq_false_iff_ne];omega
   rw[e13];refine aj.2 ?_;obtain⟨d3,n3,sp3,sk3,ow3,hb3,_,_,_,hsk3⟩:=hd hu03;have hk32:=BJ (g:=sl.k);refine QV hb3 hsk3 (by omega) fun s4 h4 ho4 hu4=>?_
   have hsk4:Sl rD 1 (Bes M h3 h4) h4 s4 (fm sl.k 32):=Bes.sl ho4;have hlk:=hsk4.len;have ew:IntKind.wrap .i64 (((13-(m+1):Nat):Int)+1)=((13-m:Nat):Int):=by rw[gD (by omega)];omega
   rw[ew];have hMb:=Bes.hM (hM' hu03) hu4;have hob:=Bes.own ho3 hu4;have hu04:Upd M h h4:=hu03.tr hu4.wide;have hMM:∀y,Bes M h3 h4 y→M y:=fun y hy=>hy.1
   have st4:∀{h'},Upd (Bes M h3 h4) h4 h'→Upd M h h':=fun k=>hu04.tr (k.mono fun y hy=>.inl hy.1)
   generalize Bes M h3 h4=B at hsk4 hMb hob hMM st4;have hkl:∀{ks:List (Option Addr)} {ls:List (List Pr)},KidsAt W x h0 m ks ls→ks.length=ls.length∧∀i (hi:i<ls.length),∃kb,ks[i]? =some (some ⟨kb,0,none⟩)∧TrieAt W x h0 m kb ls[i]:=by
    intro ks;induction ks with
    |nil=>intro ls;cases ls with
     |nil=>intro _;exact⟨rfl,fun i hi=>absurd hi (Nat.not_lt_zero _)⟩
     |cons a ls=>intro h;exact h.elim
    |cons k ks ihk=>intro ls;cases ls with
     |nil=>intro h;exact h.elim
     |cons a ls=>
      rintro⟨⟨kb,rfl,tk⟩,h⟩;obtain⟨e,hr⟩:=ihk h;refine⟨by simp[e],fun i hi=>?_⟩
      cases i with
      |zero=>exact⟨kb,rfl,tk⟩
      |succ i=>simp only[List.getElem?_cons_succ,List.getElem_cons_succ];exact hr i (by simpa using hi)
   obtain⟨hkl,hkt⟩:=hkl hka;have hbase:(xs++(0::(mW D 4++mW N 4))++le So).length≤xs.length+(9+So.length*20004):=by
    rw[ac,ac,ar,ac,dI,dI];omega
   refine LoopP.ghost (fun(i:Nat) (t:SliceV×Int) h'=>t.2=(i:Int)∧i≤Ma.length∧OwnS pu 1 cH B h' t.1 (xs++(0::(mW D 4++mW N 4))++le So++(Ma.take i).flatMap (fG x m))∧Upd B h4 h') (fun i=>Ma.length-i) 0 ⟨rfl,aW _,by simpa using hob,Upd.refl _ _⟩ ?_
   rintro I i ⟨so,ti⟩ h' ⟨e1,hi,ho',hu'⟩ hI;simp only at e1 ho';subst e1;refine az (fun hlt=>?_) fun hge=>?_
   ·have hlt:i<Ma.length:=by have:(i:Int)<(s4.len:Int):=hlt;omega
    obtain⟨kb,hk1,tk⟩:=hkt i hlt;obtain⟨a,ha,_,hv⟩:=(hsk4.upd hu' fun y hy=>.inl hy).at0 hk1
    refine⟨⟨by simp only;omega,by simp only;omega⟩,a,ha,some ⟨kb,0,none⟩,hv,?_⟩
    have hmem:Ma[i]∈Ma:=bw hlt;have htl:=E9 (f:=fG x m) (ls:=Ma.take i) (B:=20004+9*(m+1)) fun L hL=>hML L (kJ hL)
    have hsp:(Ma.take i).flatten.length+Ma[i].length≤Ma.flatten.length:=by
     have e:Ma=Ma.take i++Ma[i]::Ma.drop (i+1):=by rw[List.getElem_cons_drop,List.take_append_drop]
     have:=congrArg (fun L=>(List.flatten L).length) e
     simp only[gY,iY,ac]at this;omega
    have hsp2:=cy (20004+9*(m+1)+9) hsp;rw[jG]at hsp2;have h2l:=(hML _ hmem).1;have hone:9+Ma[i].length*(20004+9*(m+1))≤Ma[i].length*(20004+9*(m+1)+9):=by rw[Nat.mul_add (Ma[i].length) (20004+9*(m+1)) 9];omega
    refine ih (by omega) tk (hu0.trans (st4 hu') fun y hy=>.inr (hM0 y hy)) (fun y hy=>hM0 y (hMM y hy)) ho' (fun y hy=>hMb y (bh hu'.size hy)) (hml _ hmem).1 (hml _ hmem).2 (by rw[ac];omega) fun s5 h5 ho5 hu5=>?_
    rw[cS hlt (by omega)];refine hI (i+1) _ _ ⟨rfl,hlt,?_,hu'.tr hu5⟩ (by omega);rw[bo hlt,bH,aN,iw,aJ,←au];exact ho5
   ·have hil:i=Ma.length:=by have:¬(i:Int)<(s4.len:Int):=hge;omega
    subst hil;rw[List.take_length]at ho';refine hk _ _ ?_ (st4 hu');have:=ho'.more hMM;simp only[au,List.cons_append]at this⊢;exact this
end Go.Proofs
