/- A part of the proof that the named laws of this program answer true, whatever the input. -/
import Derived.Test.YtncppacbfagpgaaGreatPart1
namespace Go.Proofs
open Go.Lift
open BitVec renaming ofInt→aw
open Bool renaming eq_iff_iff→iy
open ByteArray renaming data_extract→kZ
open Int renaming toNat_natCast→aY
open IntKind renaming bits→ak,wrap→ac
open List renaming pairwise_cons→az,any_cons→qA,mem_cons→aB,mem_cons_self→ax,mem_cons_of_mem→aF,pairwise_singleton→bV,filter_cons→bK,mem_filter→db,filter_eq_nil_iff→pS,mem_singleton→aC,any_eq_true→bT,length_filter_le→fG,length_cons→ao,range_succ→rl,range→gu,map_append→dT,sum_append→rk,map_cons→fO,map_nil→jN,length_append→ad,mem_filterMap→oM,length_take→aI,zip_eq_zipWith→nD,length_drop→aO,set_eq_take_append_cons_drop→dt,getElem_mem→bF,extract_eq_take_drop→fp
open List.Pairwise renaming nil→eO
open Nat renaming mod_lt→vR,lt_of_lt_of_le→aJ,zero_add→aQ,zero_le→bf,le_trans→bJ,le_refl→au,add_zero→iP,lt_or_ge→cg,le_of_eq→fh
def fU(p:Pr):List Pr→List Pr
 | []=> [p]
 |q::l=>if kl q.1 p.1 then q::fU p l else if q.1=p.1 then p::l else p::q::l
theorem fT(p q:Pr)(l:List Pr):fU p (q::l)=if kl q.1 p.1 then q::fU p l else if q.1=p.1 then p::l else p::q::l:=rfl
theorem Af(p:Pr):∀{l:List Pr},bU l→Gh l p=fU p l
 | [],_=>by simp[Gh,fU,oy,cp]
 |q::l,hr=>by
  have hr:=az.1 hr;unfold fU;have hpos:oy (q::l) p.1=if kl q.1 p.1 then oy l p.1+1 else 0:=by
   unfold oy;rw[List.takeWhile_cons];by_cases h:kl q.1 p.1
   ·rw[if_pos (by simpa using h),if_pos h];rfl
   ·rw[if_neg (by simpa using h),if_neg h];rfl
  have hth:cp (q::l) p.1=(decide (q.1=p.1)||cp l p.1):=by unfold cp;rw[qA]
  by_cases h:kl q.1 p.1
  ·have hne:q.1≠p.1:=fun e=>by rw[e]at h;exact bI _ h
   rw[if_pos h,←Af p hr.2];unfold Gh;rw[hth,hpos,if_pos h,decide_eq_false hne,Bool.false_or];by_cases ht:cp l p.1=true
   ·rw[if_pos ht,if_pos ht];rfl
   ·rw[if_neg ht,if_neg ht];rfl
  ·rw[if_neg h]
   unfold Gh;rw[hth,hpos,if_neg h];by_cases e:q.1=p.1
   ·rw[if_pos e,decide_eq_true e,Bool.true_or,if_pos rfl];rfl
   ·have hgt:=mt h e
    have ht:cp l p.1=false:=by
     unfold cp;rw[List.any_eq_false];intro r hr' e2;have e2:=of_decide_eq_true e2;have:=hr.1 r hr';rw[e2]at this;exact bI _ (dV hgt this)
    rw[if_neg e,decide_eq_false e,ht];rfl
theorem wG{p q:Pr}:∀{l:List Pr},q∈fU p l→q=p∨q∈l
 | [],h=>by simp[fU]at h;exact.inl h
 |r::l,h=>by
  unfold fU at h;split at h
  ·rcases aB.1 h with h|h
   ·exact.inr (h▸ax ..)
   ·exact(wG h).imp id fun h=>aF _ h
  ·split at h
   ·rcases aB.1 h with h|h
    ·exact.inl h
    ·exact.inr (aF _ h)
   ·rcases aB.1 h with h|h
    ·exact.inl h
    ·exact.inr h
theorem xw(p:Pr):∀{l:List Pr},bU l→bU (fU p l)
 | [],_=>bV ..
 |q::l,hr=>by
  have hr':=hr;have hr:=az.1 hr;unfold fU;split
  ·rename_i h
   refine az.2 ⟨fun r hm=>?_,xw p hr.2⟩
   rcases wG hm with rfl|hm
   ·exact h
   ·exact hr.1 r hm
  ·rename_i h
   split
   ·rename_i e
    exact az.2 ⟨fun r hm=>e▸hr.1 r hm,hr.2⟩
   ·rename_i e
    have hgt:=mt h e;refine az.2 ⟨fun r hm=>?_,hr'⟩
    rcases aB.1 hm with rfl|hm
    ·exact hgt
    ·exact dV hgt (hr.1 r hm)
theorem E6(p:Pr)(g:ByteArray→Bool):∀{l:List Pr},bU l→(fU p l).filter (fun q=>g q.1)=if g p.1 then fU p (l.filter fun q=>g q.1)else l.filter fun q=>g q.1
 | [],_=>by
  unfold fU;rw[bK,List.filter_nil]
 |q::l,hr=>by
  have hr':=hr;have hr:=az.1 hr;have ih:=E6 p g hr.2;rw[fT];by_cases h:kl q.1 p.1
  ·rw[if_pos h,bK,bK,ih]
   by_cases hq:g q.1=true
   ·rw[if_pos hq,if_pos hq]
    split
    ·rw[fT,if_pos h]
    ·rfl
   ·rw[if_neg hq,if_neg hq]
  ·rw[if_neg h]
   by_cases e:q.1=p.1
   ·rw[if_pos e,bK,bK,e]
    by_cases hp:g p.1=true
    ·rw[if_pos hp,if_pos hp,if_pos hp,fT,if_neg h,if_pos e]
    ·rw[if_neg hp,if_neg hp,if_neg hp]
   ·rw[if_neg e]
    have hgt:=mt h e;rw[bK];by_cases hp:g p.1=true
    ·rw[if_pos hp,if_pos hp]
     have:∀r∈(q::l).filter (fun q=>g q.1),kl p.1 r.1:=fun r hm=>by
      rcases aB.1 (db.1 hm).1 with rfl|hm
      ·exact hgt
      ·exact dV hgt (hr.1 r hm)
     cases hf:(q::l).filter (fun q=>g q.1)with
     |nil=>rfl
     |cons r rs=>
      have hpr:=this r (by rw[hf];exact ax ..);rw[fT,if_neg fun hk=>bI _ (dV hpr hk),if_neg fun e=>by rw[e]at hpr;exact bI _ hpr]
    ·rw[if_neg hp,if_neg hp]
theorem D8{p:Pr}:∀{l:List Pr},bU l→p∈l→fU p l=l
 |q::l,hr,hm=>by
  have hr:=az.1 hr;unfold fU;rcases aB.1 hm with rfl|hm
  ·rw[if_neg (bI _),if_pos rfl]
  ·rw[if_pos (hr.1 p hm),D8 hr.2 hm]
def ck(x:Hs)(lev:Nat)(k:ByteArray):Nat:=((ef x k).toNat>>>(5*lev))%32
theorem yc(x:Hs)(lev:Nat)(k:ByteArray):ck x lev k<32:=vR _ (by omega)
def part(x:Hs)(lev c:Nat)(l:List Pr):List Pr:=l.filter fun p=>decide (ck x lev p.1=c)
def TrieAt(W:Nat→Prop)(x:Hs)(h:af):Nat→Nat→List Pr→Prop
 |0,b,l=>BuckAt W h b l
 |m+1,b,l=>∃s,NodeAt W h b s∧∀c,c<32→
  ((part x (12-m) c l= []∧s.p c=none∧s.k c=none)∨(∃p,part x (12-m) c l= [p]∧s.p c=some p∧s.k c=none)∨
   (2≤(part x (12-m) c l).length∧s.p c=none∧∃kb,s.k c=some (some ⟨kb,0,none⟩)∧TrieAt W x h m kb (part x (12-m) c l)))
theorem TrieAt.upd0{W:Nat→Prop}{x:Hs}{h h':af}(k:Upd No h h'):∀{m b:Nat} {l:List Pr},TrieAt W x h m b l→TrieAt W x h' m b l
 |0,_,_,t=>BuckAt.upd t k fun _ h=>h.elim
 |m+1,_,_,⟨s,nd,hc⟩=>⟨s,nd.upd k fun _ h=>h.elim,fun c hc'=>(hc c hc').imp id fun o=>o.imp id fun⟨h1,h2,kb,h3,h4⟩=>⟨h1,h2,kb,h3,TrieAt.upd0 k h4⟩⟩
theorem NodeAt.less{W W':Nat→Prop}{h:af}{b:Nat}{s:Slots}(n:NodeAt W h b s)(hm:∀b,W' b→W b∨h.size≤b):NodeAt W' h b s:=by
 obtain⟨d,m,sp,sk,ow,h1,h2,h3,h4,h5,h6⟩:=n.ex;exact⟨⟨d,m,sp,sk,ow,h1,h2,h3.less hm,h4.less hm,h5,h6⟩,fun hx=>(hm _ hx).elim n.nw fun h=>by have:=bD h1;omega⟩
theorem BuckAt.less{W W':Nat→Prop}{h:af}{b:Nat}{l:List Pr}(n:BuckAt W h b l)(hm:∀b,W' b→W b∨h.size≤b):BuckAt W' h b l:=by
 obtain⟨sp,sk,ow,h1,h3,h4,h5,h6⟩:=n.ex;exact⟨⟨sp,sk,ow,h1,h3.less hm,h4.less hm,h5,h6⟩,fun hx=>(hm _ hx).elim n.nw fun h=>by have:=bD h1;omega⟩
theorem TrieAt.less{W W':Nat→Prop}{x:Hs}{h:af}(hm:∀b,W' b→W b∨h.size≤b):∀{m b:Nat} {l:List Pr},TrieAt W x h m b l→TrieAt W' x h m b l
 |0,_,_,t=>BuckAt.less t hm
 |m+1,_,_,⟨s,nd,hc⟩=>⟨s,nd.less hm,fun c hc'=>(hc c hc').imp id fun o=>o.imp id fun⟨h1,h2,kb,h3,h4⟩=>⟨h1,h2,kb,h3,TrieAt.less hm h4⟩⟩
theorem TrieAt.updM{W M:Nat→Prop}{x:Hs}{h h':af}(k:Upd M h h')(hm:∀b,M b→W b∨h.size≤b):∀{m b:Nat} {l:List Pr},TrieAt W x h m b l→TrieAt W x h' m b l
 |0,_,_,t=>BuckAt.upd t k hm
 |m+1,_,_,⟨s,nd,hc⟩=>⟨s,nd.upd k hm,fun c hc'=>(hc c hc').imp id fun o=>o.imp id fun⟨h1,h2,kb,h3,h4⟩=>⟨h1,h2,kb,h3,TrieAt.updM k hm h4⟩⟩
end Go.Proofs
namespace Go.Proofs
open Go.Lift
theorem Ty(a b:Nat):(aw (ak .u64) (a:Int)&&&aw (ak .u64) (b:Int)).toNat=(a%18446744073709551616)&&&(b%18446744073709551616):=by
 simp[ak,BitVec.toNat_and,BitVec.toNat_ofInt];rfl
theorem TY{hv:Int}(h0:0≤hv∧hv<18446744073709551616){lev:Nat}(hl:lev<13){h:af}{K:Int→af→Prop}(hk:K(((hv.toNat>>>(5*lev))%32:Nat):Int) h):HC PG mz [.int .u64 hv,.int .i64 lev] [.c (.int .i64)] K h:=by
 refine Nw hv lev ?_;unfold FS;refine Join.plain (ay (fun h=>by omega)fun _=>?_)
 rw[decide_eq_false (by omega)];refine al.2 ?_;have e5:ac .i64 (5*(lev:Int))=((5*lev:Nat):Int):=by rw[cR (by omega)];omega
 rw[e5];have em:min (((5*lev:Nat):Int)).toNat (ak .u64)=5*lev:=by rw[aY];exact Nat.min_eq_left (by show 5*lev≤64;omega)
 rw[em];obtain⟨n,rfl⟩:=Int.eq_ofNat_of_zero_le h0.1;rw[aY]at hk;simp only[Bd];rw[rZ];have hlt:n>>>(5*lev)<18446744073709551616:=Nat.lt_of_le_of_lt (Nat.shiftRight_le _ _) (by omega);have e:=Ty (n>>>(5*lev)) 31;rw[Nat.mod_eq_of_lt hlt,show((31:Nat):Int)=(31:Int)from rfl,show 31%18446744073709551616=2^5-1 from rfl,Nat.and_two_pow_sub_one_eq_mod]at e
 rw[e];have hm:n>>>(5*lev)%2^5<32:=vR _ (by omega);rw[Go.IntWalk.u64_in _ (by omega),cR (by omega)];exact⟨by omega,hk⟩
theorem Ra{x:Hs}{k:ByteArray}{lev:Nat}(hl:lev<13){h:af}{K:Int→af→Prop}(hk:K(ck x lev k:Int) h):HC PG mz [.int .u64 (ef x k),.int .i64 lev] [.c (.int .i64)] K h:=TY (KV x k) hl hk
abbrev P2(x:Hs)(k:ByteArray):Value:=.agg #[.int .u64 x.k0,.int .u64 x.k1,.int .u64 x.mask,.pointer none,.string k,.int .u64 (ef x k)]
theorem ER{x:Hs}{lev c:Nat}{l:List Pr}(h:∀p∈l,ck x lev p.1=c):part x lev c l=l:=List.filter_eq_self.2 fun p hp=>decide_eq_true (h p hp)
theorem vm{x:Hs}{lev c:Nat}{l:List Pr}(h:∀p∈l,ck x lev p.1≠c):part x lev c l= []:=pS.2 fun p hp=>by simpa using h p hp
theorem Kr{x:Hs}{lev c:Nat}{p:Pr}{l:List Pr}(hr:bU l):part x lev c (fU p l)=if ck x lev p.1=c then fU p (part x lev c l)else part x lev c l:=by
 have:=E6 p (fun k=>decide (ck x lev k=c)) hr
 unfold part;rw[this];by_cases h:ck x lev p.1=c
 ·rw[if_pos h,if_pos (decide_eq_true h)]
 ·rw[if_neg h,if_neg (by simpa using h)]
theorem NW{p q:Pr}(h:p.1≠q.1):(fU q [p]).length=2:=by
 rw[fT];by_cases hk:kl p.1 q.1
 ·rw[if_pos hk];rfl
 ·rw[if_neg hk,if_neg h];rfl
theorem Om{p q r:Pr}(h:r∈fU q[p]):r=p∨r=q:=(wG h).symm.imp (fun h=>aC.1 h) id
theorem fc{β:Type}{g:Nat→Option β}{i c:Nat}{x:Option β}(h:c≠i):upd g i x c=g c:=by unfold upd;rw[if_neg h]
theorem SF{W:Nat→Prop}{x:Hs}:∀(m:Nat) (p q:Pr),m≤13→p.1≠q.1→∀{h:af},(∀y,W y→y<h.size)→∀{K:Option Addr→af→Prop},(∀h' b',TrieAt W x h' m b' (fU q [p])→Upd No h h'→K (some ⟨b',0,none⟩) h')→
  HC PG l5 [P2 x q.1,.agg #[.string p.1,.string p.2],.agg #[.string q.1,.string q.2],.int .i64 ((13-m:Nat):Int)] [.c .ptr] K h:=by
 intro m;induction m with
 |zero=>
  intro p q _ hne h hW K hk;have gW:∀{h'},Upd No h h'→∀y,W y→y<h'.size:=fun k y hy=>aJ (hW y hy) k.size
  refine tF (x.k0,x.k1,x.mask,none,q.1,ef x q.1) p q ((13-0:Nat):Int) ?_;unfold pI aj;have k1:=Upd.hnew No h [.int .u64 x.k0,.int .u64 x.k1,.int .u64 x.mask,.pointer none,.string q.1,.int .u64 (ef x q.1)] cG;have b1:=bW h [.int .u64 x.k0,.int .u64 x.k1,.int .u64 x.mask,.pointer none,.string q.1,.int .u64 (ef x q.1)] cG;refine bC ?_
  simp only[cH h];generalize hnew h [.int .u64 x.k0,.int .u64 x.k1,.int .u64 x.mask,.pointer none,.string q.1,.int .u64 (ef x q.1)] cG=h1 at k1 b1;have k2:=Upd.hnew No h1 [.string p.1,.string p.2] aq;have b2:=bW h1 [.string p.1,.string p.2] aq;refine bC ?_;simp only[cH h1];generalize hnew h1 [.string p.1,.string p.2] aq=h2 at k2 b2;have k3:=Upd.hnew No h2 [.string q.1,.string q.2] aq
  have b3:=bW h2 [.string q.1,.string q.2] aq;refine bC ?_;simp only[cH h2];generalize hnew h2 [.string q.1,.string q.2] aq=h3 at k3 b3;have w1:∀{h':af},Upd No h3 h'→∀i,aN h' (adr ⟨h.size,0,none⟩ i)=(#[.int .u64 x.k0,.int .u64 x.k1,.int .u64 x.mask,.pointer none,.string q.1,.int .u64 (ef x q.1)]:Array Value)[i]?:=fun k i=>by
   rw[cd,bj (k.get0 (k3.get0 (k2.get0 b1))),aQ]
  have w2:∀{h':af},Upd No h3 h'→∀i,aN h' (adr ⟨h1.size,0,none⟩ i)=(#[.string p.1,.string p.2]:Array Value)[i]?:=fun k i=>by rw[cd,bj (k.get0 (k3.get0 b2)),aQ]
  have w3:∀{h':af},Upd No h3 h'→∀i,aN h' (adr ⟨h2.size,0,none⟩ i)=(#[.string q.1,.string q.2]:Array Value)[i]?:=fun k i=>by rw[cd,bj (k.get0 b3),aQ]
  have r:=Upd.refl No h3;refine ar.2 ⟨none,w1 r 3,p.1,w2 r 0,p.2,w2 r 1,none,w1 r 3,q.1,w3 r 0,q.2,w3 r 1,?_⟩;refine HZ (gW ((k1.tr k2).tr k3))fun h4 b4 bk4 hu4=>⟨⟨w3 hu4 0,w3 hu4 1⟩,w1 hu4 3,⟨w2 hu4 0,w2 hu4 1⟩,w1 hu4 3,?_⟩
  refine Ed bk4 (gW (((k1.tr k2).tr k3).tr hu4)) eO (by simp) p fun h5 b5 bk5 hu5=>?_
  have hu45:=hu4.tr hu5;refine⟨⟨w3 hu45 0,w3 hu45 1⟩,w1 hu45 3,?_⟩;have e1:Gh [] p= [p]:=Af p eO;rw[e1]at bk5;refine Ed bk5 (gW (((k1.tr k2).tr k3).tr hu45)) (bV ..) (by simp) q fun h6 b6 bk6 hu6=>?_
  rw[Af q (bV ..)]at bk6;exact hk h6 b6 bk6 ((((k1.tr k2).tr k3).tr hu45).tr hu6)
 |succ m ih=>
  intro p q hm hne h hW K hk;have gW:∀{h'},Upd No h h'→∀y,W y→y<h'.size:=fun k y hy=>aJ (hW y hy) k.size
  have hl:13-(m+1)<13:=by omega
  have hlev:13-(m+1)=12-m:=by omega
  refine tF (x.k0,x.k1,x.mask,none,q.1,ef x q.1) p q ((13-(m+1):Nat):Int) ?_;unfold pI aj;have k1:=Upd.hnew No h [.int .u64 x.k0,.int .u64 x.k1,.int .u64 x.mask,.pointer none,.string q.1,.int .u64 (ef x q.1)] cG;have b1:=bW h [.int .u64 x.k0,.int .u64 x.k1,.int .u64 x.mask,.pointer none,.string q.1,.int .u64 (ef x q.1)] cG;refine bC ?_
  simp only[cH h];generalize hnew h [.int .u64 x.k0,.int .u64 x.k1,.int .u64 x.mask,.pointer none,.string q.1,.int .u64 (ef x q.1)] cG=h1 at k1 b1;have k2:=Upd.hnew No h1 [.string p.1,.string p.2] aq;have b2:=bW h1 [.string p.1,.string p.2] aq;refine bC ?_;simp only[cH h1];generalize hnew h1 [.string p.1,.string p.2] aq=h2 at k2 b2;have k3:=Upd.hnew No h2 [.string q.1,.string q.2] aq
  have b3:=bW h2 [.string q.1,.string q.2] aq;refine bC ?_;simp only[cH h2];generalize hnew h2 [.string q.1,.string q.2] aq=h3 at k3 b3;have w1:∀{h':af},Upd No h3 h'→∀i,aN h' (adr ⟨h.size,0,none⟩ i)=(#[.int .u64 x.k0,.int .u64 x.k1,.int .u64 x.mask,.pointer none,.string q.1,.int .u64 (ef x q.1)]:Array Value)[i]?:=fun k i=>by
   rw[cd,bj (k.get0 (k3.get0 (k2.get0 b1))),aQ]
  have w2:∀{h':af},Upd No h3 h'→∀i,aN h' (adr ⟨h1.size,0,none⟩ i)=(#[.string p.1,.string p.2]:Array Value)[i]?:=fun k i=>by rw[cd,bj (k.get0 (k3.get0 b2)),aQ]
  have w3:∀{h':af},Upd No h3 h'→∀i,aN h' (adr ⟨h2.size,0,none⟩ i)=(#[.string q.1,.string q.2]:Array Value)[i]?:=fun k i=>by rw[cd,bj (k.get0 b3),aQ]
  have r:=Upd.refl No h3;have ne:(((13-(m+1):Nat):Int)==(13:Int))=false:=by rw[beq_eq_false_iff_ne];omega
  rw[ne];refine al.2 ⟨_,w1 r 0,_,w1 r 1,_,w1 r 2,_,w2 r 0,_,w1 r 5,?_⟩;refine Ah fun h4 hu4=>⟨w1 hu4 5,Ra hl ⟨w1 hu4 5,Ra hl ?_⟩⟩
  have hi:=yc x (13-(m+1)) p.1;have hj:=yc x (13-(m+1)) q.1;have hk03:=((k1.tr k2).tr k3);have hcl:=NW hne;refine CondP.intro (fun e=>?_)fun e=>?_
  ·have e:ck x (13-(m+1)) p.1=ck x (13-(m+1)) q.1:=by have:=eq_of_beq e;omega
   refine⟨_,w1 hu4 3,_,w1 hu4 0,_,w1 hu4 1,_,w1 hu4 2,_,w1 hu4 3,_,w1 hu4 4,_,w1 hu4 5,_,w2 hu4 0,_,w2 hu4 1,_,w3 hu4 0,_,w3 hu4 1,?_⟩;refine pi (gW (hk03.tr hu4))fun h5 b5 nd5 hu5=>?_
   have hu35:=hu4.tr hu5;refine⟨⟨w3 hu35 0,w3 hu35 1⟩,⟨w2 hu35 0,w2 hu35 1⟩,⟨w1 hu35 0,w1 hu35 1,w1 hu35 2,w1 hu35 3,w1 hu35 4,w1 hu35 5⟩,w1 hu35 3,?_⟩;have ew:ac .i64 (((13-(m+1):Nat):Int)+1)=((13-m:Nat):Int):=by rw[cR (by omega)];omega
   rw[ew];refine ih p q (by omega) hne (gW (hk03.tr hu35))fun h6 b6 t6 hu6=>?_
   have hu36:=hu35.tr hu6;refine⟨w1 hu36 3,?_⟩;refine uw (nd5.upd hu6 fun _ h=>h.elim) (gW (hk03.tr hu36)) hi (fun y h=>by cases h) ⟨b6,0,none⟩fun h7 b7 nd7 hu7=>?_
   refine hk h7 b7 ⟨_,nd7,fun c hc=>?_⟩ ((hk03.tr hu36).tr hu7)
   rw[hlev]at e;by_cases hcc:c=ck x (13-(m+1)) p.1
   ·refine.inr (.inr ?_)
    have ea:part x (12-m) c (fU q [p])=fU q [p]:=ER fun r hr=>by
     rcases Om hr with rfl|rfl
     ·rw[hcc,hlev]
     ·rw[hcc,hlev,e]
    rw[ea];exact⟨by omega,by simp[upd],b6,by rw[hcc];exact fH,TrieAt.upd0 hu7 t6⟩
   ·refine.inl ⟨vm fun r hr=>?_,by simp[upd],fc hcc⟩
    rw[hlev]at hcc;rcases Om hr with rfl|rfl
    ·exact fun e=>hcc e.symm
    ·rw[←e];exact fun e=>hcc e.symm
  ·have e:ck x (13-(m+1)) p.1≠ck x (13-(m+1)) q.1:=fun h=>by rw[h]at e;simp at e
   refine⟨_,w1 hu4 3,_,w2 hu4 0,_,w2 hu4 1,_,w1 hu4 3,_,w3 hu4 0,_,w3 hu4 1,?_⟩;refine pi (gW (hk03.tr hu4))fun h5 b5 nd5 hu5=>?_
   have hu35:=hu4.tr hu5;refine⟨⟨w3 hu35 0,w3 hu35 1⟩,w1 hu35 3,⟨w2 hu35 0,w2 hu35 1⟩,w1 hu35 3,?_⟩;refine p7 nd5 (gW (hk03.tr hu35)) hi (fun y h=>by cases h) p fun h6 b6 nd6 hu6=>?_
   have hu36:=hu35.tr hu6;refine⟨⟨w3 hu36 0,w3 hu36 1⟩,w1 hu36 3,?_⟩;refine p7 nd6 (gW (hk03.tr hu36)) hj (fun y h=>by simp[upd]) q fun h7 b7 nd7 hu7=>?_
   refine hk h7 b7 ⟨_,nd7,fun c hc=>?_⟩ ((hk03.tr hu36).tr hu7)
   have hpi:=Kr (x:=x) (lev:=12-m) (c:=c) (p:=q) (l:= [p]) (bV ..);rw[hlev]at e;by_cases hcp:c=ck x (12-m) p.1
   ·have hcq:ck x (12-m) q.1≠c:=fun h=>e (by omega)
    have e1:part x (12-m) c [p]= [p]:=ER fun r hr=>by rw[aC.1 hr,hcp]
    rw[if_neg hcq,e1]at hpi;exact.inr (.inl ⟨p,hpi,by simp[upd,hlev,hcp,e],by simp[upd]⟩)
   ·have e1:part x (12-m) c [p]= []:=vm fun r hr=>by rw[aC.1 hr];exact fun h=>hcp h.symm
    rw[e1]at hpi;by_cases hcq:c=ck x (12-m) q.1
    ·rw[if_pos hcq.symm]at hpi
     exact.inr (.inl ⟨q,hpi,by simp[upd,hlev,hcq],by simp[upd]⟩)
    ·rw[if_neg fun h=>hcq h.symm]at hpi
     exact.inl ⟨hpi,by simp[upd,hlev,hcq,hcp],by simp[upd]⟩
end Go.Proofs
namespace Go.Proofs
open Go.Lift
noncomputable instance memDec (p:Pr) (l:List Pr):Decidable (p∈l):=Classical.propDecidable _
theorem EH{l:List Pr}(hr:bU l){k v w:ByteArray}(h1:(k,v)∈l)(h2:(k,w)∈l):v=w:=by
 induction l with
 |nil=>cases h1
 |cons q l ih=>
  have hr:=az.1 hr;rcases aB.1 h1 with e1|h1<;>rcases aB.1 h2 with e2|h2
  ·exact(Prod.mk.inj (e1.trans e2.symm)).2
  ·have:=hr.1 _ h2;rw[←e1]at this;exact absurd this (bI _)
  ·have:=hr.1 _ h1;rw[←e2]at this;exact absurd this (bI _)
  ·exact ih hr.2 h1 h2
theorem mr{x:Hs}{lev c:Nat}{l:List Pr}{p:Pr}:p∈part x lev c l↔p∈l∧ck x lev p.1=c:=by unfold part;rw[db,decide_eq_true_iff]
theorem Ep{x:Hs}{lev:Nat}{l:List Pr}{k:ByteArray}:cp (part x lev (ck x lev k) l) k=cp l k:=by
 unfold cp;rw[iy,bT,bT];constructor
 ·rintro⟨p,hp,e⟩;exact⟨p,(mr.1 hp).1,e⟩
 ·rintro⟨p,hp,e⟩;exact⟨p,mr.2 ⟨hp,by rw[of_decide_eq_true e]⟩,e⟩
theorem kG{x:Hs}{lev c:Nat}{l:List Pr}(hr:bU l):bU (part x lev c l):=hr.sublist List.filter_sublist
theorem rV{x:Hs}{lev c:Nat}{l:List Pr}:(part x lev c l).length≤l.length:=fG ..
def SlotIs(W:Nat→Prop)(x:Hs)(h:af)(m:Nat)(s:Slots)(c:Nat)(l:List Pr):Prop:=
 (l= []∧s.p c=none∧s.k c=none)∨(∃p,l= [p]∧s.p c=some p∧s.k c=none)∨(2≤l.length∧s.p c=none∧∃kb,s.k c=some (some ⟨kb,0,none⟩)∧TrieAt W x h m kb l)
theorem SlotIs.upd0{W:Nat→Prop}{x:Hs}{h h':af}{m:Nat}{s:Slots}{c:Nat}{l:List Pr}(k:Upd No h h')(t:SlotIs W x h m s c l):SlotIs W x h' m s c l:=t.imp id fun o=>o.imp id fun⟨h1,h2,kb,h3,h4⟩=>⟨h1,h2,kb,h3,TrieAt.upd0 k h4⟩
theorem KP(p:Pr):∀{l:List Pr},l.length≤(fU p l).length
 | []=>bf _
 |q::l=>by
  rw[fT];split
  ·have:=KP p (l:=l);simp only[ao];omega
  ·split<;>simp
theorem OM{W:Nat→Prop}{x:Hs}{h h':af}{m b':Nat}{s s':Slots}{l:List Pr}{p:Pr}(hr:bU l)(hu:Upd No h h')(nd:NodeAt W h' b' s')(hs:∀c,c<32→SlotIs W x h m s c(part x(12-m) c l))
  (hp:∀c,c≠ck x(12-m) p.1→s'.p c=s.p c∧s'.k c=s.k c)(hi:SlotIs W x h' m s'(ck x(12-m) p.1)(fU p(part x(12-m)(ck x(12-m) p.1) l))):TrieAt W x h' (m+1) b' (fU p l):=by
 refine⟨s',nd,fun c hc=>?_⟩
 rw[Kr hr];by_cases e:ck x (12-m) p.1=c
 ·rw[if_pos e];subst e;exact hi
 ·rw[if_neg e]
  have t:=SlotIs.upd0 hu (hs c hc);obtain⟨e1,e2⟩:=hp c fun h=>e h.symm
  unfold SlotIs at t;rw[←e1,←e2]at t;exact t
theorem dD{a b:ByteArray}:(a.toList==b.toList)=decide (a=b):=by
 rw[iy,beq_iff_eq,decide_eq_true_iff,B6]
theorem Te{W:Nat→Prop}{x:Hs}:∀(m:Nat),m≤13→∀{b:Nat} {l:List Pr} (p:Pr) {h:af},TrieAt W x h m b l→(∀y,W y→y<h.size)→bU l→l.length≤1000000→∀{K:(Option Addr)×Bool×Bool→af→Prop},
  (∀h' b' ch,Upd No h h'→TrieAt W x h' m b' (fU p l)→(ch=false→b'=b)→ch= !decide (p∈l)→K (some ⟨b',0,none⟩, !there l p.1,ch) h')→
  HC PG jb [P2 x p.1,.pointer (some ⟨b,0,none⟩),.agg #[.string p.1,.string p.2],.int .i64 ((13-m:Nat):Int)] [.c .ptr,.c .bool,.c .bool] K h:=by
 intro m;induction m with
 |zero=>
  intro _ b l p h t hW hr hn K hk;have gW:∀{h'},Upd No h h'→∀y,W y→y<h'.size:=fun k y hy=>aJ (hW y hy) k.size
  refine uP (x.k0,x.k1,x.mask,none,p.1,ef x p.1) (some ⟨b,0,none⟩) p ((13-0:Nat):Int) ?_;unfold qn aj;have k1:=Upd.hnew No h [.int .u64 x.k0,.int .u64 x.k1,.int .u64 x.mask,.pointer none,.string p.1,.int .u64 (ef x p.1)] cG;have b1:=bW h [.int .u64 x.k0,.int .u64 x.k1,.int .u64 x.mask,.pointer none,.string p.1,.int .u64 (ef x p.1)] cG;refine bC ?_
  simp only[cH h];generalize hnew h [.int .u64 x.k0,.int .u64 x.k1,.int .u64 x.mask,.pointer none,.string p.1,.int .u64 (ef x p.1)] cG=h1 at k1 b1;have k2:=Upd.hnew No h1 [.string p.1,.string p.2] aq;have b2:=bW h1 [.string p.1,.string p.2] aq;refine bC ?_;simp only[cH h1];generalize hnew h1 [.string p.1,.string p.2] aq=h2 at k2 b2;have w1:∀{h':af},Upd No h2 h'→∀i,aN h' (adr ⟨h.size,0,none⟩ i)=(#[.int .u64 x.k0,.int .u64 x.k1,.int .u64 x.mask,.pointer none,.string p.1,.int .u64 (ef x p.1)]:Array Value)[i]?:=fun k i=>by
   rw[cd,bj (k.get0 (k2.get0 b1)),aQ]
  have w2:∀{h':af},Upd No h2 h'→∀i,aN h' (adr ⟨h1.size,0,none⟩ i)=(#[.string p.1,.string p.2]:Array Value)[i]?:=fun k i=>by rw[cd,bj (k.get0 b2),aQ]
  have r:=Upd.refl No h2;have k02:=k1.tr k2;have bk:BuckAt W h2 b l:=BuckAt.upd t k02 fun _ h=>h.elim
  obtain⟨sp,sk,ow,hb,_⟩:=bk.ex;refine kw hb (ar.2 ⟨_,w2 r 0,SV bk hr (by omega) p.1 fun h3 v hu3 hv=>?_⟩)
  have put:∀(hnot:p∉l) {h4:af},Upd No h2 h4→HC PG iu [.pointer (some ⟨b,0,none⟩),.pointer none,.agg #[.string p.1,.string p.2]] [.c .ptr] (fun(e15:Option Addr) h16=>K (e15, !there l p.1,true) h16) h4:=fun hnot h4 hu4=>
   Ed (bk.upd hu4 fun _ h=>h.elim) (gW (k02.tr hu4)) hr (by omega) p fun h5 b5 bk5 hu5=>by
    rw[Af p hr]at bk5;exact hk h5 b5 true ((k02.tr hu4).tr hu5) bk5 (fun h=>by cases h) (by rw[decide_eq_false hnot];rfl)
  refine Join.intro (fun t' h'=>t'=decide (p∈l)∧Upd No h2 h') (fun R hR=>?_) ?_
  ·cases ht:cp l p.1 with
   |false=>
    refine al.2 (hR _ _ ⟨?_,hu3⟩);refine(decide_eq_false fun hm=>?_).symm
    have:cp l p.1=true:=bT.2 ⟨p,hm,decide_eq_true rfl⟩;rw[ht]at this;cases this
   |true=>
    have hv:=hv ht;refine ar.2 ⟨_,w2 hu3 1,hR _ _ ⟨?_,hu3⟩⟩;rw[dD,decide_eq_decide];constructor
    ·intro e
     have e:v=p.2:=e;rw[e]at hv;exact hv
    ·intro hm
     exact EH hr hv (show(p.1,p.2)∈l from hm)
  ·rintro t' h4 ⟨rfl,hu4⟩
   by_cases hm:p∈l
   ·rw[decide_eq_true hm]
    refine ar.2 ?_;have ht:cp l p.1=true:=bT.2 ⟨p,hm,decide_eq_true rfl⟩;have:=hk h4 b false (k02.tr hu4) (by rw[D8 hr hm];exact bk.upd hu4 fun _ h=>h.elim) (fun _=>rfl) (by rw[decide_eq_true hm];rfl)
    rw[ht]at this;exact this
   ·rw[decide_eq_false hm]
    refine al.2 ⟨none,w1 hu4 3,_,w2 hu4 0,_,w2 hu4 1,put hm hu4⟩
 |succ m ih=>
  intro hm b l p h t hW hr hn K hk;have gW:∀{h'},Upd No h h'→∀y,W y→y<h'.size:=fun k y hy=>aJ (hW y hy) k.size
  have hl:13-(m+1)<13:=by omega
  have hlev:13-(m+1)=12-m:=by omega
  refine uP (x.k0,x.k1,x.mask,none,p.1,ef x p.1) (some ⟨b,0,none⟩) p ((13-(m+1):Nat):Int) ?_;unfold qn aj;have k1:=Upd.hnew No h [.int .u64 x.k0,.int .u64 x.k1,.int .u64 x.mask,.pointer none,.string p.1,.int .u64 (ef x p.1)] cG;have b1:=bW h [.int .u64 x.k0,.int .u64 x.k1,.int .u64 x.mask,.pointer none,.string p.1,.int .u64 (ef x p.1)] cG
  refine bC ?_;simp only[cH h];generalize hnew h [.int .u64 x.k0,.int .u64 x.k1,.int .u64 x.mask,.pointer none,.string p.1,.int .u64 (ef x p.1)] cG=h1 at k1 b1;have k2:=Upd.hnew No h1 [.string p.1,.string p.2] aq;have b2:=bW h1 [.string p.1,.string p.2] aq;refine bC ?_;simp only[cH h1];generalize hnew h1 [.string p.1,.string p.2] aq=h2 at k2 b2
  have w1:∀{h':af},Upd No h2 h'→∀i,aN h' (adr ⟨h.size,0,none⟩ i)=(#[.int .u64 x.k0,.int .u64 x.k1,.int .u64 x.mask,.pointer none,.string p.1,.int .u64 (ef x p.1)]:Array Value)[i]?:=fun k i=>by
   rw[cd,bj (k.get0 (k2.get0 b1)),aQ]
  have w2:∀{h':af},Upd No h2 h'→∀i,aN h' (adr ⟨h1.size,0,none⟩ i)=(#[.string p.1,.string p.2]:Array Value)[i]?:=fun k i=>by rw[cd,bj (k.get0 b2),aQ]
  have r:=Upd.refl No h2;have k02:=k1.tr k2;obtain⟨s,nd0,hs0⟩:=TrieAt.upd0 k02 t;have hs:∀c,c<32→SlotIs W x h2 m s c (part x (12-m) c l):=hs0;have tt:∀{h':af},Upd No h2 h'→TrieAt W x h' (m+1) b l:=fun k=>TrieAt.upd0 (k02.tr k) t
  obtain⟨d0,n0,sp0,sk0,ow0,hb0,_⟩:=nd0.ex;refine kw hb0 (al.2 ⟨_,w1 r 5,Ra hl ?_⟩);rw[hlev];have hi:=yc x (12-m) p.1;have hsi:=hs _ hi;have hrp:=kG (x:=x) (lev:=12-m) (c:=ck x (12-m) p.1) hr;have hnp:(part x (12-m) (ck x (12-m) p.1) l).length≤1000000:=bJ rV hn;have hmp:p∈part x (12-m) (ck x (12-m) p.1) l↔p∈l:=by rw[mr];exact⟨fun h=>h.1,fun h=>⟨h,rfl⟩⟩
  have htp:=Ep (x:=x) (lev:=12-m) (l:=l) (k:=p.1);have hturn:=fun{h':af} {b':Nat} {s':Slots}=>OM (W:=W) (x:=x) (h:=h2) (h':=h') (m:=m) (b':=b') (s:=s) (s':=s') (l:=l) (p:=p) hr
  generalize hc:ck x (12-m) p.1=c at hi hsi hrp hnp hmp htp hturn;generalize hlp:part x (12-m) c l=lc at hsi hrp hnp hmp htp hturn;refine ET nd0 hi fun h3 hu3=>?_
  have k4:=Upd.hnew No h3 [.string (⟨#[]⟩:ByteArray),.string (⟨#[]⟩:ByteArray)] aq;have b4:=bW h3 [.string (⟨#[]⟩:ByteArray),.string (⟨#[]⟩:ByteArray)] aq;refine bC ?_;simp only[cH h3];generalize hnew h3 [.string (⟨#[]⟩:ByteArray),.string (⟨#[]⟩:ByteArray)] aq=h4 at k4 b4;have b4':h4[h3.size]?=some (.cells #[.string NR.1,.string NR.2] aq (0,0)):=b4
  refine EO (p:=QP (s.p c)) b4' fun h5 b5 hu5=>?_
  have hu25:Upd No h2 h5:=(hu3.tr k4).trans hu5 fun y hy=>.inr (by have hy:y=h3.size:=hy;have:=hu3.size;omega)
  have w5:∀{h':af},Upd No h5 h'→∀i,aN h' (adr ⟨h3.size,0,none⟩ i)=(#[.string (QP (s.p c)).1,.string (QP (s.p c)).2]:Array Value)[i]?:=fun k i=>by rw[cd,bj (k.get0 b5),aQ]
  have r5:=Upd.refl No h5;have nd5:=nd0.upd hu25 fun _ h=>h.elim
  cases hsp:s.p c with
  |some y=>
   rw[hsp]at w5;obtain⟨hone,hk0⟩:lc= [y]∧s.k c=none:=by
    rcases hsi with⟨_,h2,_⟩|⟨q,h1,h2,h3⟩|⟨_,h2,_⟩
    ·rw[hsp]at h2;cases h2
    ·rw[hsp]at h2;cases h2;exact⟨h1,h3⟩
    ·rw[hsp]at h2;cases h2
   refine ar.2 ⟨y.1,w5 r5 0,y.2,w5 r5 1,p.1,w2 hu25 0,p.2,w2 hu25 1,?_⟩;rw[dD,dD];have hyl:y∈l:=(mr.1 (show y∈part x (12-m) c l by rw[hlp,hone];exact aC.2 rfl)).1
   by_cases e1:y.1=p.1
   ·have ht:cp l p.1=true:=bT.2 ⟨y,hyl,decide_eq_true e1⟩
    rw[ht]at hk;by_cases e2:y.2=p.2
    ·rw[decide_eq_true e1,decide_eq_true e2]
     have hyp:y=p:=Prod.ext e1 e2;have hml:p∈l:=hyp▸hyl;refine ar.2 ?_;exact hk h5 b false (k02.tr hu25) (by rw[D8 hr hml];exact tt hu25) (fun _=>rfl) (by rw[decide_eq_true hml];rfl)
    ·rw[decide_eq_true e1,decide_eq_false e2]
     refine al.2 ⟨y.1,w5 r5 0,p.1,w2 hu25 0,?_⟩;rw[dD,decide_eq_true e1];refine ar.2 ⟨none,w1 hu25 3,p.1,w2 hu25 0,p.2,w2 hu25 1,?_⟩;refine p7 nd5 (gW (k02.tr hu25)) hi (fun _ _=>hk0) p fun h6 b6 nd6 hu6=>?_
     have hnl:p∉l:=fun hm=>by
      have:=hmp.2 hm;rw[hone]at this;exact e2 (by rw[aC.1 this])
     refine hk h6 b6 true ((k02.tr hu25).tr hu6) (hturn (hu25.tr hu6) nd6 hs (fun c' hc'=>⟨fc hc',fc hc'⟩) ?_) (fun h=>by cases h) (by rw[decide_eq_false hnl];rfl)
     refine.inr (.inl ⟨p,?_,fH,fH⟩);rw[hone,fT,if_neg (by rw[e1];exact bI _),if_pos e1]
   ·rw[decide_eq_false e1]
    refine al.2 ⟨y.1,w5 r5 0,p.1,w2 hu25 0,?_⟩;rw[dD,decide_eq_false e1];refine al.2 ⟨none,w1 hu25 3,_,w1 hu25 0,_,w1 hu25 1,_,w1 hu25 2,_,w1 hu25 3,_,w1 hu25 4,_,w1 hu25 5,y.1,w5 r5 0,y.2,w5 r5 1,p.1,w2 hu25 0,p.2,w2 hu25 1,?_⟩;have ew:ac .i64 (((12-m:Nat):Int)+1)=((13-m:Nat):Int):=by rw[cR (by omega)];omega
    rw[ew];refine SF m y p (by omega) e1 (gW (k02.tr hu25))fun h6 b6 t6 hu6=>⟨w1 (hu25.tr hu6) 3,?_⟩
    refine uw (nd5.upd hu6 fun _ h=>h.elim) (gW ((k02.tr hu25).tr hu6)) hi (fun z hz=>by rw[hk0]at hz;cases hz) ⟨b6,0,none⟩fun h7 b7 nd7 hu7=>?_
    have ht:cp l p.1=false:=by
     rw[←htp,hone];unfold cp;rw[qA,decide_eq_false e1];rfl
    have hnl:p∉l:=fun hm=>by
     have:cp l p.1=true:=bT.2 ⟨p,hm,decide_eq_true rfl⟩;rw[ht]at this;cases this
    rw[ht]at hk;refine hk h7 b7 true (((k02.tr hu25).tr hu6).tr hu7) (hturn ((hu25.tr hu6).tr hu7) nd7 hs (fun c' hc'=>⟨fc hc',fc hc'⟩) ?_) (fun h=>by cases h) (by rw[decide_eq_false hnl];rfl)
    rw[hone];exact.inr (.inr ⟨by rw[NW e1];omega,fH,b6,fH,TrieAt.upd0 hu7 t6⟩)
  |none=>
   refine al.2 (zT nd5 hi ?_);cases hsk:s.k c with
   |none=>
    have hlc:lc= []:=by
     rcases hsi with⟨h1,_⟩|⟨q,_,h2,_⟩|⟨_,_,kb,h2,_⟩
     ·exact h1
     ·rw[hsp]at h2;cases h2
     ·rw[hsk]at h2;cases h2
    refine ar.2 ⟨none,w1 hu25 3,p.1,w2 hu25 0,p.2,w2 hu25 1,?_⟩;refine p7 nd5 (gW (k02.tr hu25)) hi (fun _ _=>hsk) p fun h6 b6 nd6 hu6=>?_
    have ht:cp l p.1=false:=by rw[←htp,hlc];rfl
    have hnl:p∉l:=fun hm=>by
     have:cp l p.1=true:=bT.2 ⟨p,hm,decide_eq_true rfl⟩;rw[ht]at this;cases this
    rw[ht]at hk;refine hk h6 b6 true ((k02.tr hu25).tr hu6) (hturn (hu25.tr hu6) nd6 hs (fun c' hc'=>⟨fc hc',fc hc'⟩) ?_) (fun h=>by cases h) (by rw[decide_eq_false hnl];rfl)
    rw[hlc];exact.inr (.inl ⟨p,rfl,fH,fH⟩)
   |some kp=>
    obtain⟨h2l,kb,rfl,tk⟩:2≤lc.length∧∃kb,kp=some ⟨kb,0,none⟩∧TrieAt W x h2 m kb lc:=by
     rcases hsi with⟨_,_,h2⟩|⟨q,_,h2,_⟩|⟨h1,_,kb,h2,h3⟩
     ·rw[hsk]at h2;cases h2
     ·rw[hsp]at h2;cases h2
     ·rw[hsk]at h2;cases h2;exact⟨h1,kb,rfl,h3⟩
    refine al.2 ⟨_,w1 hu25 0,_,w1 hu25 1,_,w1 hu25 2,_,w1 hu25 3,_,w1 hu25 4,_,w1 hu25 5,p.1,w2 hu25 0,p.2,w2 hu25 1,?_⟩;have ew:ac .i64 (((12-m:Nat):Int)+1)=((13-m:Nat):Int):=by rw[cR (by omega)];omega
    rw[ew];refine ih (by omega) p (TrieAt.upd0 hu25 tk) (gW (k02.tr hu25)) hrp hnp fun h6 b6 ch hu6 t6 hsame hch=>?_
    have hu26:=hu25.tr hu6;by_cases hml:p∈l
    ·have hch:ch=false:=by rw[hch,decide_eq_true (hmp.2 hml)];rfl
     have ht:cp l p.1=true:=bT.2 ⟨p,hml,decide_eq_true rfl⟩;rw[ht]at hk;rw[hch];refine ar.2 ?_;exact hk h6 b false (k02.tr hu26) (by rw[D8 hr hml];exact tt hu26) (fun _=>rfl) (by rw[decide_eq_true hml];rfl)
    ·have hch:ch=true:=by rw[hch,decide_eq_false fun h=>hml (hmp.1 h)];rfl
     rw[hch];refine al.2 ⟨none,w1 hu26 3,?_⟩;refine uw (nd5.upd hu6 fun _ h=>h.elim) (gW ((k02.tr hu25).tr hu6)) hi (fun _ _=>hsp) ⟨b6,0,none⟩fun h7 b7 nd7 hu7=>?_
     rw[htp];refine hk h7 b7 true ((k02.tr hu26).tr hu7) (hturn (hu26.tr hu7) nd7 hs (fun c' hc'=>⟨fc hc',fc hc'⟩) ?_) (fun h=>by cases h) (by rw[decide_eq_false hml];rfl)
     exact.inr (.inr ⟨bJ h2l (KP p),fH,b6,fH,TrieAt.upd0 hu7 t6⟩)
end Go.Proofs
namespace Go.Proofs
open Go.Lift
theorem JR{W:Nat→Prop}{x:Hs}{h:af}{m b:Nat}(nd:NodeAt W h b ⟨fun _=>none,fun _=>none⟩):TrieAt W x h (m+1) b []:=⟨_,nd,fun _ _=>.inl ⟨rfl,rfl,rfl⟩⟩
def RootAt(W:Nat→Prop)(x:Hs)(h:af)(r:Option Addr)(l:List Pr):Prop:=(r=none∧l= [])∨∃b,r=some ⟨b,0,none⟩∧TrieAt W x h 13 b l
theorem RootAt.upd0{W:Nat→Prop}{x:Hs}{h h':af}{r:Option Addr}{l:List Pr}(k:Upd No h h')(t:RootAt W x h r l):RootAt W x h' r l:=t.imp id fun⟨b,e,t⟩=>⟨b,e,TrieAt.upd0 k t⟩
theorem N1{W:Nat→Prop}{x:Hs}{h:af}{r:Option Addr}{l:List Pr}(t:RootAt W x h r l)(hW:∀y,W y→y<h.size){K:Option Addr→af→Prop}(hk:∀h' b,TrieAt W x h' 13 b l→Upd No h h'→(r=some ⟨b,0,none⟩∨r=none)→K(some ⟨b,0,none⟩) h'):HC PG mS [.pointer r] [.c .ptr] K h:=by
 refine Js r ?_;unfold A5;rcases t with⟨rfl,rfl⟩|⟨b,rfl,t⟩
 ·refine ar.2 (ye ?_)
  unfold un;exact pi hW fun h' b nd hu=>hk h' b (JR nd) hu (.inr rfl)
 ·exact al.2 (hk h b t (Upd.refl _ _) (.inl rfl))
theorem dd{h:af}{b:Nat}{t:TypeId}{c vs:List Value}(hb:h[b]?=some(.cells c.toArray t(0,0)))(hl:vs.length=c.length){k:af→Prop}
  (hk:∀h',h'[b]?=some(.cells vs.toArray t(0,0))→Upd(·=b) h h'→k h'):dq h(some ⟨b,0,none⟩) 0 vs∧At(aV h ⟨b,0,none⟩ 0 vs) k:=by
 have e:=ju vs h 0 0 c hb(by omega);refine⟨.inr ⟨_,rfl,fun j hj=>by rw[cd];exact ir hb(by rw[List.size_toArray];omega)⟩,bC ?_⟩
 rw[e];refine hk _ ?_(Upd.set h _ rfl);rw[jo hb];congr 3
 simp[hl]
set_option maxRecDepth 4000 in
theorem Lg{W:Nat→Prop}{x:Hs}{h:af}{r:Option Addr}{l:List Pr}(t:RootAt W x h r l)(hW:∀y,W y→y<h.size)(hr:bU l)(hn:l.length≤1000000)(p:Pr){K:Option Addr×Bool→af→Prop}
  (hk:∀h' b',Upd No h h'→TrieAt W x h' 13 b'(fU p l)→(p∈l→r=some ⟨b',0,none⟩∨r=none)→K(some ⟨b',0,none⟩, !there l p.1) h'):
  HC PG w6 [.agg #[.int .u64 x.k0,.int .u64 x.k1,.int .u64 x.mask],.pointer none,.pointer r,.agg #[.string p.1,.string p.2]] [.c .ptr,.c .bool] K h:=by
 refine Lx (x.k0,x.k1,x.mask) none r p ?_;unfold Dz aj;have k1:=Upd.hnew No h [.int .u64 x.k0,.int .u64 x.k1,.int .u64 x.mask] ct;have b1:=bW h [.int .u64 x.k0,.int .u64 x.k1,.int .u64 x.mask] ct;refine bC ?_;simp only[cH h];generalize hnew h [.int .u64 x.k0,.int .u64 x.k1,.int .u64 x.mask] ct=h1 at k1 b1;have k2:=Upd.hnew No h1 [.string p.1,.string p.2] aq
 have b2:=bW h1 [.string p.1,.string p.2] aq;refine bC ?_;simp only[cH h1];generalize hnew h1 [.string p.1,.string p.2] aq=h2 at k2 b2;have w1:∀{h':af},Upd No h2 h'→∀i,aN h' (adr ⟨h.size,0,none⟩ i)=(#[.int .u64 x.k0,.int .u64 x.k1,.int .u64 x.mask]:Array Value)[i]?:=fun k i=>by
  rw[cd,bj (k.get0 (k2.get0 b1)),aQ]
 have w2:∀{h':af},Upd No h2 h'→∀i,aN h' (adr ⟨h1.size,0,none⟩ i)=(#[.string p.1,.string p.2]:Array Value)[i]?:=fun k i=>by rw[cd,bj (k.get0 b2),aQ]
 have r2:=Upd.refl No h2;have k02:=k1.tr k2;let c6:List Value:= [.int .u64 0,.int .u64 0,.int .u64 0,.pointer none,.string (⟨#[]⟩:ByteArray),.int .u64 0]
 let v6:List Value:= [.int .u64 x.k0,.int .u64 x.k1,.int .u64 x.mask,.pointer none,.string p.1,.int .u64 (ef x p.1)]
 have fin:∀{h4:af} {b:Nat},Upd No h2 h4→h4[b]?=some (.cells v6.toArray cG (0,0))→
   ∃v15:Int,aN h4 (adr ⟨b,0,none⟩ 0)=some (.int .u64 v15)∧
    ∃v16:Int,aN h4 (adr ⟨b,0,none⟩ 1)=some (.int .u64 v16)∧
    ∃v17:Int,aN h4 (adr ⟨b,0,none⟩ 2)=some (.int .u64 v17)∧
    ∃v18:Option Addr,aN h4 (adr ⟨b,0,none⟩ 3)=some (.pointer v18)∧
    ∃v19:ByteArray,aN h4 (adr ⟨b,0,none⟩ 4)=some (.string v19)∧
    ∃v20:Int,aN h4 (adr ⟨b,0,none⟩ 5)=some (.int .u64 v20)∧
    ∃v21:ByteArray,aN h4 (adr ⟨h1.size,0,none⟩ 0)=some (.string v21)∧
    ∃v22:ByteArray,aN h4 (adr ⟨h1.size,0,none⟩ 1)=some (.string v22)∧
    HC PG mS [.pointer r] [.c .ptr] (fun(e23:Option Addr) h24=>
     ((aN h24 (adr ⟨h1.size,0,none⟩ 0)=some (.string v21)∧aN h24 (adr ⟨h1.size,0,none⟩ 1)=some (.string v22))∧
      ((aN h24 (adr ⟨b,0,none⟩ 0)=some (.int .u64 v15)∧aN h24 (adr ⟨b,0,none⟩ 1)=some (.int .u64 v16)∧aN h24 (adr ⟨b,0,none⟩ 2)=some (.int .u64 v17)∧aN h24 (adr ⟨b,0,none⟩ 3)=some (.pointer v18)∧aN h24 (adr ⟨b,0,none⟩ 4)=some (.string v19)∧aN h24 (adr ⟨b,0,none⟩ 5)=some (.int .u64 v20))∧
       HC PG jb [.agg #[.int .u64 v15,.int .u64 v16,.int .u64 v17,.pointer v18,.string v19,.int .u64 v20],.pointer e23,.agg #[.string v21,.string v22],.int .i64 0] [.c .ptr,.c .bool,.c .bool] (fun(e25:(Option Addr)×Bool×Bool) h26=>
        K (e25.1,e25.2.1) h26) h24))) h4:=fun{h4 b} hu4 hb4=>by
  have w4:∀{h':af},Upd No h4 h'→∀i,aN h' (adr ⟨b,0,none⟩ i)=v6.toArray[i]?:=fun k i=>by rw[cd,bj (k.get0 hb4),aQ]
  have r4:=Upd.refl No h4;refine⟨_,w4 r4 0,_,w4 r4 1,_,w4 r4 2,_,w4 r4 3,_,w4 r4 4,_,w4 r4 5,p.1,w2 hu4 0,p.2,w2 hu4 1,?_⟩;refine N1 (t.upd0 (k02.tr hu4)) (fun y hy=>aJ (hW y hy) (k02.tr hu4).size)fun h5 b5 t5 hu5 hr5=>?_
  have hu25:=hu4.tr hu5;refine⟨⟨w2 hu25 0,w2 hu25 1⟩,⟨w4 hu5 0,w4 hu5 1,w4 hu5 2,w4 hu5 3,w4 hu5 4,w4 hu5 5⟩,?_⟩;refine Te 13 (au _) p t5 (fun y hy=>aJ (hW y hy) ((k02.tr hu4).tr hu5).size) hr hn fun h6 b6 ch hu6 t6 hs hch=>?_
  refine hk h6 b6 ((k02.tr hu25).tr hu6) t6 fun hm=>?_
  have hb:b6=b5:=hs (by rw[hch,decide_eq_true hm];rfl);rw[hb];exact hr5
 have own:∀{h3 h4:af} {b:Nat},h2.size≤b→Upd (·=b) h3 h4→Upd No h2 h3→Upd No h2 h4:=fun hb hu k=>k.trans hu fun y hy=>.inr (hy▸hb)
 refine⟨_,w1 r2 0,_,w1 r2 1,_,w1 r2 2,_,w2 r2 0,_,w1 r2 0,_,w1 r2 1,_,w1 r2 2,_,w2 r2 0,?_,?_⟩
 ·refine Ah fun h3 hu3=>⟨w2 hu3 0,⟨w1 hu3 0,w1 hu3 1,w1 hu3 2⟩,?_⟩
  have k4:=Upd.hnew No h3 c6 cG;have b4:=bW h3 c6 cG;have hu4:=hu3.tr k4;refine bC ?_;simp only[cH h3];refine⟨w2 hu4 0,⟨w1 hu4 0,w1 hu4 1,w1 hu4 2⟩,?_⟩;refine dd (vs:=v6) b4 rfl fun h5 b5 hu5=>fin (own hu3.size hu5 hu4) b5
 ·have k4:=Upd.hnew No h2 c6 cG
  have b4:=bW h2 c6 cG;refine bC ?_;simp only[cH h2];refine⟨w2 k4 0,⟨w1 k4 0,w1 k4 1,w1 k4 2⟩,w2 k4 0,⟨w1 k4 0,w1 k4 1,w1 k4 2⟩,?_⟩;refine Ah fun h5 hu5=>?_
  have hu25:=k4.tr hu5;refine⟨w2 hu25 0,⟨w1 hu25 0,w1 hu25 1,w1 hu25 2⟩,?_⟩;exact dd (vs:=v6) (hu5.get0 b4) rfl fun h6 b6 hu6=>fin (own (au _) hu6 hu25) b6
end Go.Proofs
namespace Go.Proofs
open Go.Lift
end Go.Proofs
namespace Go.Proofs
open Go Go.Lift
end Go.Proofs
namespace Go.Proofs
open Go Go.Lift
def Fit(l:List Pr):Prop:=∀p∈l,p.1.size≤10000∧p.2.size≤10000
end Go.Proofs
namespace Go.Proofs
open Go Go.Lift
end Go.Proofs
namespace Go.Proofs
open Go Go.Lift
def Ik(l:List Pr):Option Pr:=match l with| [p]=>some p|_=>none
def BR(l:List Pr):Option (List Pr):=if 2≤l.length then some l else none
def uv(x:Hs)(lev:Nat)(l:List Pr):List Pr:=fm (fun c=>Ik (part x lev c l)) 32
def wI(x:Hs)(lev:Nat)(l:List Pr):List (List Pr):=fm (fun c=>BR (part x lev c l)) 32
theorem S8{W:Nat→Prop}{x:Hs}{h:af}{m:Nat}{s:Slots}{c:Nat}{l:List Pr}(t:SlotIs W x h m s c l):s.p c=Ik l∧(s.k c).isSome=(BR l).isSome:=by
 rcases t with⟨rfl,h1,h2⟩|⟨p,rfl,h1,h2⟩|⟨h0,h1,kb,h2,_⟩
 ·rw[h1,h2];exact⟨rfl,rfl⟩
 ·rw[h1,h2];exact⟨rfl,rfl⟩
 ·rw[h1,h2]
  refine⟨?_,by simp[BR,h0]⟩
  match l,h0 with
  |a::b::l,_=>rfl
def KidsAt(W:Nat→Prop)(x:Hs)(h:af)(m:Nat):List (Option Addr)→List (List Pr)→Prop
 | [],[]=>True
 |k::ks,l::ls=>(∃kb,k=some ⟨kb,0,none⟩∧TrieAt W x h m kb l)∧KidsAt W x h m ks ls
 |_,_=>False
theorem KidsAt.app{W:Nat→Prop}{x:Hs}{h:af}{m:Nat}:∀{ks ks':List (Option Addr)} {ls ls':List (List Pr)},KidsAt W x h m ks ls→KidsAt W x h m ks' ls'→KidsAt W x h m (ks++ks') (ls++ls')
 | [],_,[],_,_,q=>q
 |_::_,_,_::_,_,q,q'=>⟨q.1,KidsAt.app q.2 q'⟩
 | [],_,_::_,_,q,_=>q.elim
 |_::_,_,[],_,q,_=>q.elim
theorem rE{β:Type}(g:Nat→Option β)(n:Nat):fm g (n+1)=fm g n++(g n).toList:=by
 unfold fm;rw[rl,List.filterMap_append];cases h:g n<;>simp[h]
theorem QL{W:Nat→Prop}{x:Hs}{h:af}{m lev:Nat}{s:Slots}{l:List Pr}:∀n,(∀c,c<n→SlotIs W x h m s c (part x lev c l))→KidsAt W x h m (fm s.k n) (fm (fun c=>BR (part x lev c l)) n)
 |0,_=>trivial
 |n+1,hs=>by
  rw[rE,rE];refine KidsAt.app (QL n fun c hc=>hs c (by omega)) ?_
  rcases hs n (by omega)with⟨h0,_,h2⟩|⟨p,h0,_,h2⟩|⟨h0,_,kb,h2,h3⟩
  ·rw[h2,h0];exact trivial
  ·rw[h2,h0];exact trivial
  ·rw[h2]
   have:BR (part x lev n l)=some (part x lev n l):=by unfold BR;rw[if_pos h0]
   simp only[this];exact⟨⟨kb,rfl,h3⟩,trivial⟩
theorem N2{W:Nat→Prop}{x:Hs}{h:af}{m lev:Nat}{s:Slots}{l:List Pr}(hs:∀c,c<32→SlotIs W x h m s c(part x lev c l)):fm s.p 32=uv x lev l:=
 TQ _ fun c hc=>(S8 (hs c (List.mem_range.1 hc))).1
end Go.Proofs
namespace Go.Proofs
open Go Go.Lift
theorem xz(x:Hs)(lev:Nat)(l:List Pr):∀n,(((gu n).map fun c=>(part x lev c l).length).sum)=(l.filter fun p=>decide (ck x lev p.1<n)).length
 |0=>by
  have:(l.filter fun p=>decide (ck x lev p.1<0))= []:=pS.2 fun p _=>by simp
  rw[this];rfl
 |n+1=>by
  rw[rl,dT,rk,xz x lev l n];simp only[fO,jN,List.sum_cons,List.sum_nil,iP];unfold part;clear xz;induction l with
  |nil=>rfl
  |cons p l ih=>
   simp only[bK,decide_eq_true_iff];split<;>split<;>split<;>first|omega|(simp only[ao];omega)
theorem G5(x:Hs)(lev:Nat)(l:List Pr):(uv x lev l).length+(wI x lev l).flatten.length≤l.length:=by
 have h:=xz x lev l 32;have hle:(l.filter fun p=>decide (ck x lev p.1<32)).length≤l.length:=fG ..
 have:∀n,(fm (fun c=>Ik (part x lev c l)) n).length+(fm (fun c=>BR (part x lev c l)) n).flatten.length≤((gu n).map fun c=>(part x lev c l).length).sum:=by
  intro n;induction n with
  |zero=>simp[fm]
  |succ n ih=>
   rw[rE,rE,rl,dT,rk];simp only[ad,List.flatten_append,fO,jN,List.sum_cons,List.sum_nil,iP];generalize part x lev n l=q;have:(Ik q).toList.length+(BR q).toList.flatten.length≤q.length:=by
    match q with
    | []=>simp[Ik,BR]
    | [a]=>simp[Ik,BR]
    |a::b::q=>simp[Ik,BR]
   omega
 have:=this 32;unfold uv wI;omega
end Go.Proofs
namespace Go.Proofs
open Go Go.Lift
theorem Hq{x:Hs}{lev:Nat}{l:List Pr}{p:Pr}(h:p∈uv x lev l):p∈l:=by
 unfold uv fm at h;obtain⟨c,_,hc⟩:=oM.1 h;unfold Ik at hc;split at hc
 ·rename_i q hq
  cases hc;have:p∈part x lev c l:=by rw[hq];exact aC.2 rfl
  exact(mr.1 this).1
 ·cases hc
theorem Hr{x:Hs}{lev:Nat}{l L:List Pr}(h:L∈wI x lev l):2≤L.length∧∃c,L=part x lev c l:=by
 unfold wI fm at h;obtain⟨c,_,hc⟩:=oM.1 h;unfold BR at hc;split at hc
 ·cases hc;exact⟨by assumption,c,rfl⟩
 ·cases hc
theorem Fit.part{x:Hs}{lev c:Nat}{l:List Pr}(h:Fit l):Fit (part x lev c l):=fun p hp=>h p (mr.1 hp).1
end Go.Proofs
namespace Go.Proofs
open Go Go.Lift
end Go.Proofs
namespace Go.Proofs
open Go Go.Lift
theorem Ot{β γ:Type}{g:Nat→Option β}{g':Nat→Option γ}:∀n,(∀c,c<n→(g c).isSome=(g' c).isSome)→(fm g n).length=(fm g' n).length
 |0,_=>rfl
 |n+1,h=>by
  rw[rE,rE,ad,ad,Ot n fun c hc=>h c (by omega)]
  have:=h n (by omega);cases h1:g n<;>cases h2:g' n<;>rw[h1,h2]at this<;>first|rfl|cases this
theorem MU{β:Type}{g g':Nat→Option β}:∀n,(∀c,c<n→(g c).isSome=(g' c).isSome)→fm g n=fm g' n→∀c,c<n→g c=g' c
 |0,_,_,c,hc=>absurd hc (Nat.not_lt_zero _)
 |n+1,h,e,c,hc=>by
  rw[rE,rE]at e;obtain⟨e1,e2⟩:=List.append_inj e (Ot n fun c hc=>h c (by omega))
  rcases cg c n with hl|hl
  ·exact MU n (fun c hc=>h c (by omega)) e1 c hl
  ·have:c=n:=by omega
   subst this;cases h1:g c<;>cases h2:g' c<;>rw[h1,h2]at e2<;>simp at e2⊢
   exact e2
theorem xx:∀{l l':List Pr},bU l→bU l'→(∀p,p∈l↔p∈l')→l=l'
 | [],[],_,_,_=>rfl
 | [],q::l',_,_,h=>absurd ((h q).2 (ax ..)) (by simp)
 |p::l,[],_,_,h=>absurd ((h p).1 (ax ..)) (by simp)
 |p::l,q::l',hr,hr',h=>by
  have hr:=az.1 hr;have hr':=az.1 hr';have e:p=q:=by
   rcases aB.1 ((h p).1 (ax ..))with e|hp
   ·exact e
   ·rcases aB.1 ((h q).2 (ax ..))with e|hq
    ·exact e.symm
    ·exact absurd (dV (hr.1 q hq) (hr'.1 p hp)) (bI _)
  subst e;rw[xx hr.2 hr'.2 fun z=>?_]
  constructor
  ·intro hz
   rcases aB.1 ((h z).1 (aF _ hz))with e|hz'
   ·exact absurd (hr.1 z hz) (by rw[e];exact bI _)
   ·exact hz'
  ·intro hz
   rcases aB.1 ((h z).2 (aF _ hz))with e|hz'
   ·exact absurd (hr'.1 z hz) (by rw[e];exact bI _)
   ·exact hz'
theorem QC{x:Hs}{lev:Nat}{l l':List Pr}(hr:bU l)(hr':bU l')(h:∀c,c<32→part x lev c l=part x lev c l'):l=l':=by
 refine xx hr hr' fun p=>?_
 have e:=h (ck x lev p.1) (yc ..);have h1:=mr (x:=x) (lev:=lev) (c:=ck x lev p.1) (l:=l) (p:=p);have h2:=mr (x:=x) (lev:=lev) (c:=ck x lev p.1) (l:=l') (p:=p);rw[e]at h1;constructor
 ·intro hp;exact(h2.1 (h1.2 ⟨hp,rfl⟩)).1
 ·intro hp;exact(h1.1 (h2.2 ⟨hp,rfl⟩)).1
end Go.Proofs
namespace Go.Proofs
open Go Go.Lift
def yD(lab:ByteArray)(has:Bool)(val:ByteArray)(s:SliceV)(ow:Option Addr):Array Value:= #[.string lab,.bool has,.string val,sv s,.pointer ow]
theorem vw{w:Option ByteArray}{val:ByteArray}(h:val=w.getD ⟨#[]⟩):∀v,w=some v→val=v:=fun v e=>by rw[h,e];rfl
def RxF(W:Nat→Prop)(h:af):Fo→List (Option Addr)→Prop
 | .nil,ks=>ks= []
 | .cons lab w kids rest,ks=>∃b sl val s ow ks1 ks',ks=some ⟨b,0,none⟩::ks'∧sl.data.toList=lab∧h[b]?=some (.cells (yD sl w.isSome val s ow) bO (0,0))∧val=w.getD ⟨#[]⟩∧Sl oZ 1 W h s ks1∧(s.len≤s.cap∧¬W b)∧RxF W h kids ks1∧RxF W h rest ks'
def RxN(W:Nat→Prop)(h:af)(b:Nat)(sl:ByteArray)(w:Option ByteArray)(F:Fo):Prop:=∃val s ow ks,h[b]?=some (.cells (yD sl w.isSome val s ow) bO (0,0))∧val=w.getD ⟨#[]⟩∧Sl oZ 1 W h s ks∧(s.len≤s.cap∧¬W b)∧RxF W h F ks
def Kid(W:Nat→Prop)(h:af)(k:Option Addr)(n:Bn):Prop:=∃b sl,k=some ⟨b,0,none⟩∧sl.data.toList=n.1∧RxN W h b sl n.2.1 n.2.2
def RxL(W:Nat→Prop)(h:af)(ks:List(Option Addr))(L:List Bn):Prop:=ks.length=L.length∧∀p∈ks.zip L,Kid W h p.1 p.2
theorem lU{W:Nat→Prop}{h:af}:∀{F:Fo} {ks:List (Option Addr)},RxF W h F ks↔RxL W h ks F.toL
 | .nil,ks=>by
  unfold RxF RxL;simp[Fo.toL]
 | .cons lab w kids rest,ks=>by
  unfold RxF RxL;rw[Fo.toL_cons];constructor
  ·rintro⟨b,sl,val,s,ow,ks1,ks',rfl,e1,e2,e3,e4,e5,e6,e7⟩
   obtain⟨e8,e9⟩:=lU.1 e7;refine⟨by simp[e8],fun p hp=>?_⟩
   rw[List.zip_cons_cons]at hp;rcases aB.1 hp with rfl|hp
   ·exact⟨b,sl,rfl,e1,val,s,ow,ks1,e2,e3,e4,e5,e6⟩
   ·exact e9 p hp
  ·cases ks with
   |nil=>rintro⟨e,_⟩;simp at e
   |cons k ks'=>
    rintro⟨e,hp⟩;rw[List.zip_cons_cons]at hp;obtain⟨b,sl,e0,e1,val,s,ow,ks1,e2,e3,e4,e5,e6⟩:=hp _ (ax ..);refine⟨b,sl,val,s,ow,ks1,ks',by rw[←e0],e1,e2,e3,e4,e5,e6,lU.2 ⟨by simpa using e,fun p hp'=>hp p (aF _ hp')⟩⟩
theorem RxF.upd0{W:Nat→Prop}{h h':af}(k:Upd No h h'):∀{F:Fo} {ks:List (Option Addr)},RxF W h F ks→RxF W h' F ks
 | .nil,_,r=>r
 | .cons _ _ _ _,_,⟨b,sl,val,s,ow,ks1,ks',e0,e1,e2,e3,e4,e5,e6,e7⟩=>⟨b,sl,val,s,ow,ks1,ks',e0,e1,k.get0 e2,e3,e4.upd k fun _ h=>h.elim,e5,RxF.upd0 k e6,RxF.upd0 k e7⟩
theorem RxN.upd0{W:Nat→Prop}{h h':af}(k:Upd No h h'){b:Nat}{sl:ByteArray}{w:Option ByteArray}{F:Fo}:RxN W h b sl w F→RxN W h' b sl w F
 |⟨val,s,ow,ks,e2,e3,e4,e5,e6⟩=>⟨val,s,ow,ks,k.get0 e2,e3,e4.upd k fun _ h=>h.elim,e5,RxF.upd0 k e6⟩
theorem Kid.upd0{W:Nat→Prop}{h h':af}(k:Upd No h h'){a:Option Addr}{n:Bn}:Kid W h a n→Kid W h' a n
 |⟨b,sl,e1,e2,e3⟩=>⟨b,sl,e1,e2,e3.upd0 k⟩
theorem RxF.less{W W':Nat→Prop}{h:af}(hm:∀b,W' b→W b∨h.size≤b):∀{F:Fo} {ks:List (Option Addr)},RxF W h F ks→RxF W' h F ks
 | .nil,_,r=>r
 | .cons _ _ _ _,_,⟨b,sl,val,s,ow,ks1,ks',e0,e1,e2,e3,e4,e5,e6,e7⟩=>⟨b,sl,val,s,ow,ks1,ks',e0,e1,e2,e3,e4.less hm,⟨e5.1,fun hx=>(hm _ hx).elim e5.2 fun h=>by have:=bD e2;omega⟩,RxF.less hm e6,RxF.less hm e7⟩
theorem RxN.less{W W':Nat→Prop}{h:af}(hm:∀b,W' b→W b∨h.size≤b){b:Nat}{sl:ByteArray}{w:Option ByteArray}{F:Fo}:RxN W h b sl w F→RxN W' h b sl w F
 |⟨val,s,ow,ks,e2,e3,e4,e5,e6⟩=>⟨val,s,ow,ks,e2,e3,e4.less hm,⟨e5.1,fun hx=>(hm _ hx).elim e5.2 fun h=>by have:=bD e2;omega⟩,RxF.less hm e6⟩
theorem RxF.updM{W M:Nat→Prop}{h h':af}(k:Upd M h h')(hm:∀b,M b→W b∨h.size≤b):∀{F:Fo} {ks:List (Option Addr)},RxF W h F ks→RxF W h' F ks
 | .nil,_,r=>r
 | .cons _ _ _ _,_,⟨b,sl,val,s,ow,ks1,ks',e0,e1,e2,e3,e4,e5,e6,e7⟩=>⟨b,sl,val,s,ow,ks1,ks',e0,e1,k.get e2 (fun hx=>(hm _ hx).elim e5.2 fun h=>by have:=bD e2;omega),e3,e4.upd k hm,e5,RxF.updM k hm e6,RxF.updM k hm e7⟩
theorem RxN.updM{W M:Nat→Prop}{h h':af}(k:Upd M h h')(hm:∀b,M b→W b∨h.size≤b){b:Nat}{sl:ByteArray}{w:Option ByteArray}{F:Fo}:RxN W h b sl w F→RxN W h' b sl w F
 |⟨val,s,ow,ks,e2,e3,e4,e5,e6⟩=>⟨val,s,ow,ks,k.get e2 (fun hx=>(hm _ hx).elim e5.2 fun h=>by have:=bD e2;omega),e3,e4.upd k hm,e5,RxF.updM k hm e6⟩
theorem RxL.upd0{W:Nat→Prop}{h h':af}(k:Upd No h h'){ks:List(Option Addr)}{L:List Bn}(r:RxL W h ks L):RxL W h' ks L:=⟨r.1,fun p hp=>(r.2 p hp).upd0 k⟩
theorem RxL.app{W:Nat→Prop}{h:af}{ks ks':List(Option Addr)}{L L':List Bn}(r:RxL W h ks L)(r':RxL W h ks' L'):RxL W h (ks++ks') (L++L'):=by
 refine⟨by rw[ad,ad,r.1,r'.1],fun p hp=>?_⟩
 rw[List.zip_append r.1]at hp;rcases List.mem_append.1 hp with hp|hp
 ·exact r.2 p hp
 ·exact r'.2 p hp
theorem RxL.one{W:Nat→Prop}{h:af}{k:Option Addr}{n:Bn}(c:Kid W h k n):RxL W h [k] [n]:=⟨rfl,fun p hp=>by rw[List.zip_cons_cons,List.zip_nil_left]at hp;rw[aC.1 hp];exact c⟩
theorem RxL.take{W:Nat→Prop}{h:af}{ks:List(Option Addr)}{L:List Bn}(r:RxL W h ks L)(i:Nat):RxL W h (ks.take i) (L.take i):=by
 refine⟨by rw[aI,aI,r.1],fun p hp=>r.2 p ?_⟩
 have:(ks.take i).zip (L.take i)=(ks.zip L).take i:=by rw[nD,nD,List.take_zipWith]
 rw[this]at hp;exact List.mem_of_mem_take hp
theorem RxL.drop{W:Nat→Prop}{h:af}{ks:List(Option Addr)}{L:List Bn}(r:RxL W h ks L)(i:Nat):RxL W h (ks.drop i) (L.drop i):=by
 refine⟨by rw[aO,aO,r.1],fun p hp=>r.2 p ?_⟩
 have:(ks.drop i).zip (L.drop i)=(ks.zip L).drop i:=by rw[nD,nD,List.drop_zipWith]
 rw[this]at hp;exact List.mem_of_mem_drop hp
theorem RxL.ins{W:Nat→Prop}{h:af}{ks:List(Option Addr)}{L:List Bn}(r:RxL W h ks L)(i:Nat){k:Option Addr}{n:Bn}(c:Kid W h k n):RxL W h (ks.take i++k::ks.drop i) (L.take i++n::L.drop i):=by
 have:=(r.take i).app ((RxL.one c).app (r.drop i));exact this
theorem RxL.set{W:Nat→Prop}{h:af}{ks:List(Option Addr)}{L:List Bn}(r:RxL W h ks L){i:Nat}(hi:i<L.length){k:Option Addr}{n:Bn}(c:Kid W h k n):RxL W h (ks.set i k) (L.set i n):=by
 have:=(r.take i).app ((RxL.one c).app (r.drop (i+1)));rw[dt,dt,if_pos (by rw[r.1];exact hi),if_pos hi];exact this
theorem RxL.at{W:Nat→Prop}{h:af}{ks:List(Option Addr)}{L:List Bn}(r:RxL W h ks L){i:Nat}(hi:i<L.length):∃b sl,ks[i]?=some (some ⟨b,0,none⟩)∧sl.data.toList=L[i].1∧RxN W h b sl L[i].2.1 L[i].2.2:=by
 have hk:i<ks.length:=by rw[r.1];exact hi
 have hz:i<(ks.zip L).length:=by rw[List.length_zip];omega
 have:=r.2 _ (bF hz);rw[List.getElem_zip]at this;obtain⟨b,sl,e1,e2,e3⟩:=this;exact⟨b,sl,by rw[List.getElem?_eq_getElem hk];exact congrArg some e1,e2,e3⟩
theorem BK:∀{L:List Bn} {c:Nat},L.Pairwise (fun m n=>hd m.1<hd n.1)→(∀n∈L,c≤hd n.1)→L= []∨c+L.length≤256
 | [],_,_,_=>.inl rfl
 |n::L,c,hp,hc=>by
  have hp:=az.1 hp;have h0:=hc n (ax ..);have h1:=SW n.1;rcases BK (c:=hd n.1+1) hp.2 fun m hm=>hp.1 m hm with e|e
  ·rw[e];right;simp only[List.length_singleton];omega
  ·right;rw[ao];omega
theorem ou{F:Fo}(h:ie F):F.toL.length≤256:=by
 rcases BK (c:=0) (eE.1 h).1 fun _ _=>bf _ with e|e
 ·rw[e];simp
 ·omega
theorem gD{h:af}{b i:Nat}{c:Array Value}(hb:h[b]?=some(.cells c bO(0,0))):aN h(adr ⟨b,0,none⟩ i)=c[i]?:=by rw[cd,aQ];exact bj hb
theorem RC{h:af}{b i:Nat}{c:Array Value}(hb:h[b]?=some(.cells c bO(0,0)))(hi:i<c.size):Wr h(adr ⟨b,0,none⟩ i):=by rw[cd,aQ];exact ir hb hi
theorem F9{h:af}{b i:Nat}{c c':Array Value}{v:Value}{k:af→Prop}(hb:h[b]?=some(.cells c bO(0,0)))(e:c.setIfInBounds i v=c')(hk:∀h',h'[b]?=some(.cells c' bO(0,0))→Upd(·=b) h h'→k h'):At(hset h(adr ⟨b,0,none⟩ i) v) k:=by
 rw[cd,aQ];exact xa hb fun h' hb' hu=>hk h'(e▸hb') hu
theorem Pi(s:ByteArray)(i:Nat):s[i]?=s.data.toList[i]?:=by
 rw[Array.getElem?_toList];by_cases h:i<s.size
 ·rw[getElem?_pos s i h,getElem?_pos s.data i h];rfl
 ·rw[getElem?_neg s i h,getElem?_neg s.data i h]
theorem MR{s:ByteArray}(hs:s.data.toList≠[]):∃c:UInt8,s[0]?=some c∧c.toNat=hd s.data.toList:=by
 rw[Pi];match s.data.toList,hs with
 |c::l,_=>exact⟨c,rfl,rfl⟩
theorem Hc{W:Nat→Prop}{h:af}{b:Nat}{sl:ByteArray}{w:Option ByteArray}{F:Fo}(r:RxN W h b sl w F)(hc:ie F){c:Nat}(hc8:c<256){K:Int×Bool→af→Prop}
  (hk:∀i ok,i≤F.toL.length→(∀j(hj:j<F.toL.length),j<i→hd F.toL[j].1<c)→(∀j(hj:j<F.toL.length),i≤j→c≤hd F.toL[j].1)→(ok=true↔∃hi:i<F.toL.length,hd F.toL[i].1=c)→K((i:Int),ok) h):HC PG lX [.pointer (some ⟨b,0,none⟩),.int .u8 c] [.c (.int .i64),.c .bool] K h:=by
 refine AG _ c ?_;unfold tK aj;obtain⟨val,s,ow,ks,hb,_,hs,hcap,hF⟩:=r;refine⟨_,rfl,s,gD (i:=3) hb,?_⟩;have hL:=lU.1 hF;have hcan:=eE.1 hc;have hn:=ou hc;have hlen:=hs.len;rw[hL.1]at hlen;generalize hLe:F.toL=L at hL hcan hn hlen hk;refine gY s c _ ?_;unfold dY aj bP
 have cmp:∀{i:Nat} (hi:i<L.length) {K:Int→af→Prop},K ((hd L[i].1:Int)-(c:Int)) h→∃a,s.a=some a∧∃v,aN h (adr a (i*1))=some (.pointer v)∧HV PG (.func (.func nq) #[] #[]) [.pointer v,.int .u8 c] [.c (.int .i64)] K h:=by
  intro i hi K hk;obtain⟨kb,ksl,hki,hkl,hkn⟩:=hL.at hi;obtain⟨a,ha,_,hv⟩:=hs.at0 hki;refine⟨a,ha,_,hv,HV.mk' (xN (some ⟨kb,0,none⟩) c ?_)⟩;unfold rA aj;obtain⟨kval,kss,kow,kks,hkb,_⟩:=hkn;have hne:ksl.data.toList≠[]:=by rw[hkl];exact(hcan.2 _ (bF hi)).1
  obtain⟨u,hu,hue⟩:=MR hne;refine⟨_,rfl,ksl,gD (i:=0) hkb,u,Int.le_refl _,hu,?_⟩;simp only[Bd];have hlt:=SW L[i].1;rw[hue,hkl,cR (x:=(hd L[i].1:Int)) (by omega),cR (x:=(c:Int)) (by omega),cR (by omega)];exact hk
 have mono:∀i j (hi:i<L.length) (hj:j<L.length),i<j→hd L[i].1<hd L[j].1:=fun i j hi hj hij=>List.pairwise_iff_getElem.1 hcan.1 i j hi hj hij
 refine LoopP.ghost (fun(g:Nat×Nat) (t:Int×Int) h'=>t.1=(g.1:Int)∧t.2=(g.2:Int)∧g.1≤g.2∧g.2≤L.length∧h'=h∧(∀j (hj:j<L.length),j<g.1→hd L[j].1<c)∧(∀j (hj:j<L.length),g.2≤j→c≤hd L[j].1)) (fun g=>g.2-g.1) (0,L.length)
  ⟨rfl,by simp only;omega,by simp,by simp,rfl,fun j hj h=>by omega,fun j hj h=>by simp only at h;omega⟩ ?_
 rintro I ⟨i,j⟩ ⟨ti,tj⟩ h' ⟨e1,e2,hij,hjl,rfl,hlo,hhi⟩ hI;simp only at e1 e2 hij hjl hlo hhi;subst e1 e2;refine ay (fun hlt=>?_)fun hge=>?_
 ·have hlt:i<j:=by have:(i:Int)<(j:Int):=hlt;omega
  have em:ac .i64 (Int.fdiv (ac .u64 (ac .i64 ((i:Int)+(j:Int)))) (2^(min (1:Int).toNat (ak .u64))))=(((i+j)/2:Nat):Int):=by
   have e3:(2^(min (1:Int).toNat (ak .u64)):Int)=2:=rfl;rw[e3,cR (x:=(i:Int)+(j:Int)) (by omega),Go.IntWalk.u64_in _ (by omega),Int.fdiv_eq_ediv_of_nonneg _ (by omega),cR (by omega)];omega
  refine⟨by decide,?_⟩;simp only[Bd];rw[em];generalize hm:(i+j)/2=m;have hml:m<L.length:=by omega
  refine⟨by omega,?_⟩;refine cmp hml ?_;refine ay (fun hneg=>?_)fun hpos=>?_
  ·refine hI (m+1,j) _ _ ⟨by simp only;rw[cR (by omega)];omega,rfl,by simp only;omega,hjl,rfl,fun q hq hqm=>?_,hhi⟩ (by simp only;omega)
   simp only at hqm;rcases cg q m with h|h
   ·have:=mono q m hq hml h;omega
   ·have:q=m:=by omega
    subst this;omega
  ·refine hI (i,m) _ _ ⟨rfl,rfl,by simp only;omega,by simp only;omega,rfl,hlo,fun q hq hqm=>?_⟩ (by simp only;omega)
   simp only at hqm;rcases cg m q with h|h
   ·have:=mono m q hml hq h;omega
   ·have:q=m:=by omega
    subst this;omega
 ·have hij:i=j:=by have:¬(i:Int)<(j:Int):=hge;omega
  subst hij;refine ay (fun hlt=>?_)fun hnl=>?_
  ·have hil:i<L.length:=by have:(i:Int)<(s.len:Int):=hlt;omega
   refine⟨by simp only;omega,?_⟩;refine cmp hil ?_;refine hk i _ hjl hlo hhi ?_;rw[beq_iff_eq];exact⟨fun h=>⟨hil,by omega⟩,fun⟨_,h⟩=>by omega⟩
  ·have hil:i=L.length:=by have:¬(i:Int)<(s.len:Int):=hnl;omega
   exact hk i false hjl hlo hhi ⟨fun h=>(by cases h),fun h=>(by obtain⟨h,_⟩:=h;omega)⟩
end Go.Proofs
namespace Go.Proofs
open Go Go.Lift
theorem J9{b:Nat}{h:af}{K:Bool→af→Prop}(hk:K false h):HC PG oD [.pointer (some ⟨b,0,none⟩),.pointer none] [.c .bool] K h:=by
 refine zg _ none ?_;unfold sK aj;exact ar.2 (wK (al.2 hk))
abbrev SS:List Value:= [.string (⟨#[]⟩:ByteArray),.bool false,.string (⟨#[]⟩:ByteArray),.slice none 0 0,.pointer none]
theorem o9{W:Nat→Prop}{h:af}{b:Nat}{sl val:ByteArray}{has:Bool}{s:SliceV}{ow:Option Addr}{ks:List(Option Addr)}(hb:h[b]?=some(.cells(yD sl has val s ow) bO(0,0)))(hs:Sl oZ 1 W h s ks)(hn:ks.length≤256){K:Option Addr→af→Prop}
  (hk:∀h' s',h'[h.size]?=some(.cells(yD sl has val s' none) bO(0,0))→OwnS oZ 1 aS(fun x=>h.size<x∧x<h'.size) h' s' ks→Upd No h h'→K(some ⟨h.size,0,none⟩) h'):
  HC PG dX[.pointer(some ⟨b,0,none⟩),.pointer none][.c .ptr] K h:=by
 refine Cj _ none ?_;unfold uV aj;refine J9(al.2 ?_);refine⟨_,rfl,sl,gD(i:=0) hb,has,gD(i:=1) hb,val,gD(i:=2) hb,s,gD(i:=3) hb,ow,gD(i:=4) hb,bC ?_⟩;have k1:=Upd.hnew No h SS bO;have b1:=bW h SS bO;simp only[cH h];generalize hnew h[.string(⟨#[]⟩:ByteArray),.bool false,.string(⟨#[]⟩:ByteArray),.slice none 0 0,.pointer none] bO=h1 at k1 b1
 refine dd(c:=SS)(vs:= [.string sl,.bool has,.string val,.slice s.a s.len s.cap,.pointer ow]) b1 rfl fun h2 b2 hu2=>?_
 have k2:Upd No h h2:=k1.trans hu2 fun x hx=>.inr(fh hx.symm)
 have hz2:h.size<h2.size:=bD b2;have hb2:=k2.get0 hb;refine⟨_,rfl,s,gD(i:=3) hb2,?_⟩;refine HW(hs.upd k2 fun _ h=>h.elim)(by omega)fun s3 h3 ho3 hu3=>?_
 have b3:h3[h.size]?=some(.cells(yD sl has val s ow) bO(0,0)):=hu3.get0 b2;refine⟨RC(i:=3) b3(show 3<5 by decide),F9(i:=3)(c':=yD sl has val s3 ow) b3 rfl fun h4 b4 hu4=>?_⟩
 refine⟨RC(i:=4) b4(show 4<5 by decide),F9(i:=4)(c':=yD sl has val s3 none) b4 rfl fun h5 b5 hu5=>?_⟩
 refine wK(al.2 ?_);have hu35:=hu4.tr hu5;have z5:=hu35.size;have ho3':=(ho3.within.upd hu35 fun x hx e=>by have e:x=h.size:=e;have:=hx.1;omega).more(M':=fun x=>h.size<x∧x<h5.size)fun x hx=>⟨by have:=hx.1;omega,by have:=hx.2;omega⟩
 exact hk h5 s3 b5 ho3'((k2.tr hu3).trans hu35 fun x hx=>.inr(fh hx.symm))
theorem vj{h:af}{b:Nat}{sl nl:ByteArray}{has:Bool}{val:ByteArray}{s:SliceV}{ow:Option Addr}(hb:h[b]?=some(.cells(yD sl has val s ow) bO(0,0))){K:Option Addr→af→Prop}
  (hk:∀h',h'[b]?=some(.cells(yD nl has val s ow) bO(0,0))→Upd(·=b) h h'→K(some ⟨b,0,none⟩) h'):HC PG gU[.pointer(some ⟨b,0,none⟩),.string nl][.c .ptr] K h:=by
 refine zd _ nl ?_;unfold sI;exact⟨_,rfl,RC(i:=0) hb(show 0<5 by decide),F9(i:=0)(c':=yD nl has val s ow) hb rfl hk⟩
theorem CR{h:af}{b:Nat}{sl v:ByteArray}{has:Bool}{val:ByteArray}{s:SliceV}{ow:Option Addr}(hb:h[b]?=some(.cells(yD sl has val s ow) bO(0,0))){K:Option Addr→af→Prop}
  (hk:∀h',h'[b]?=some(.cells(yD sl true v s ow) bO(0,0))→Upd(·=b) h h'→K(some ⟨b,0,none⟩) h'):HC PG jW[.pointer(some ⟨b,0,none⟩),.string v][.c .ptr] K h:=by
 refine xM _ v ?_;unfold rz;exact⟨_,rfl,RC(i:=1) hb(show 1<5 by decide),F9(i:=1)(c':=yD sl true val s ow) hb rfl fun h1 b1 hu1=>⟨_,rfl,RC(i:=2) b1(show 2<5 by decide),F9(i:=2)(c':=yD sl true v s ow) b1 rfl fun h2 b2 hu2=>hk h2 b2(hu1.tr hu2)⟩⟩
theorem Mc{h:af}{k v:ByteArray}{K:Option Addr→af→Prop}(hk:∀h' b s,h'[b]?=some(.cells(yD k true v s none) bO(0,0))→s.len=0→s.len≤s.cap→h.size≤b→Upd No h h'→K(some ⟨b,0,none⟩) h'):HC PG uf[.pointer none,.string k,.string v][.c .ptr] K h:=by
 refine Gs none k v ?_;unfold yi;have k1:=Upd.hnew No h SS bO;have b1:=bW h SS bO;refine bC ?_;simp only[cH h];generalize hnew h[.string(⟨#[]⟩:ByteArray),.bool false,.string(⟨#[]⟩:ByteArray),.slice none 0 0,.pointer none] bO=h1 at k1 b1;refine o9(W:=No)(ks:= [])(sl:=⟨#[]⟩)(val:=⟨#[]⟩)(has:=false)(s:=⟨none,0,0⟩)(ow:=none) b1(Sl.nil mg)(bf _)fun h2 s b2 ho2 hu2=>?_
 refine vj(nl:=k) b2 fun h3 b3 hu3=>CR(v:=v) b3 fun h4 b4 hu4=>?_
 have hu24:=hu3.tr hu4;have z:=hu2.size;have z2:=k1.size;refine hk h4 h1.size s b4 ho2.len ho2.cap z2((k1.tr hu2).trans hu24 fun x hx=>.inr(by have hx:x=h1.size:=hx;omega))
theorem TO{W:Nat→Prop}{h:af}{b:Nat}{k v:ByteArray}{s:SliceV}{ow:Option Addr}(hb:h[b]?=some(.cells(yD k true v s ow) bO(0,0)))(h0:s.len=0)(hc:s.len≤s.cap)(nw:¬W b):RxN W h b k(some v) .nil:=
 ⟨v,s,ow,[],hb,rfl,⟨h0,mg,fun h=>absurd rfl h⟩,⟨hc,nw⟩,rfl⟩
theorem E9(s:ByteArray)(c:Nat):(s.extract 0 c).data.toList=s.data.toList.take c:=by
 rw[kZ,Array.toList_extract,fp];simp
theorem Fa(s:ByteArray)(c:Nat):(s.extract c s.size).data.toList=s.data.toList.drop c:=by
 rw[kZ,Array.toList_extract,fp,List.take_of_length_le];rw[aO];simp
theorem Mb{W:Nat→Prop}{h:af}{b:Nat}{sl:ByteArray}{w:Option ByteArray}{F:Fo}(r:RxN W h b sl w F)(hW:∀y,W y→y<h.size)(hn:F.toL.length≤256){c:Nat}(hc:c≤sl.size){K:Option Addr→af→Prop}
  (hk:∀h' b',RxN W h' b'(sl.extract 0 c) none(.cons(sl.data.toList.drop c) w F .nil)→Upd No h h'→K(some ⟨b',0,none⟩) h'):HC PG oC [.pointer (some ⟨b,0,none⟩),.pointer none,.int .i64 c] [.c .ptr] K h:=by
 refine za _ none c ?_;unfold sH aj;obtain⟨val,s,ow,ks,hb,hv,hs,hcap,hF⟩:=r;have lab:∀{h'},Upd No h h'→aN h' (adr ⟨b,0,none⟩ 0)=some (.string sl):=fun k=>gD (i:=0) (k.get0 hb)
 have r0:=Upd.refl No h;refine⟨_,rfl,sl,lab r0,⟨by omega,by omega⟩,bC ?_⟩
 have k1:=Upd.hnew No h SS bO;have b1:=bW h SS bO;simp only[cH h];generalize hnew h [.string (⟨#[]⟩:ByteArray),.bool false,.string (⟨#[]⟩:ByteArray),.slice none 0 0,.pointer none] bO=h1 at k1 b1;refine⟨lab k1,?_⟩;refine o9 (W:=No) (ks:= []) (sl:=⟨#[]⟩) (val:=⟨#[]⟩) (has:=false) (s:=⟨none,0,0⟩) (ow:=none) b1 (Sl.nil mg) (bf _)fun h2 s2 b2 _ hu2=>⟨lab (k1.tr hu2),?_⟩
 rw[aY];refine vj b2 fun h3 b3 hu3=>?_
 have z1:=k1.size;have hu03:Upd No h h3:=(k1.tr hu2).trans hu3 fun x hx=>.inr (by have hx:x=h1.size:=hx;omega)
 refine o9 (hu03.get0 hb) (hs.upd hu03 fun _ h=>h.elim) (by rw[(lU.1 hF).1];exact hn)fun h4 s4 b4 ho4 hu4=>?_
 refine⟨_,rfl,sl,gD (i:=0) b4,⟨by omega,by omega⟩,?_⟩
 refine vj (nl:=sl.extract c sl.size) b4 fun h5 b5 hu5=>?_
 have hu05:Upd No h h5:=(hu03.tr hu4).trans hu5 fun x hx=>.inr (by have hx:x=h3.size:=hx;have:=hu03.size;omega)
 have ho5:=ho4.upd hu5 fun x hx e=>by have e:x=h3.size:=e;have:=hx.1;omega
 have hb3:=bD b3;have b35:h5[h1.size]?=some (.cells (yD (sl.extract 0 c) false ⟨#[]⟩ s2 none) bO (0,0)):=hu5.get (hu4.get0 b3) (by show ¬h1.size=h3.size;omega);have k6:=Upd.hnew No h5 [.pointer (some ⟨h3.size,0,none⟩)] aS;have b6:=bW h5 [.pointer (some ⟨h3.size,0,none⟩)] aS;have hz5:=hu05.size;have hz3:=hu03.size;refine bC ?_;simp only[cH h5];generalize hnew h5 [.pointer (some ⟨h3.size,0,none⟩)] aS=h6 at k6 b6
 have b36:=k6.get0 b35;have hlt1:=bD b35;refine⟨_,rfl,RC (i:=3) b36 (show 3<5 by decide),F9 (i:=3) (c':=yD (sl.extract 0 c) false ⟨#[]⟩ ⟨some ⟨h5.size,0,none⟩,1,1⟩ none) b36 rfl fun h7 b7 hu7=>?_⟩
 have hu07:Upd No h h7:=(hu05.tr k6).trans hu7 fun x hx=>.inr (by have hx:x=h1.size:=hx;omega)
 have b67:h7[h5.size]?=some (.cells #[.pointer (some ⟨h3.size,0,none⟩)] aS (0,0)):=hu7.get b6 (by show ¬h5.size=h1.size;omega);have b57:=hu7.get (k6.get0 b5) (by show ¬h3.size=h1.size;omega);have ho7:=(ho5.upd k6 fun _ _ h=>h).upd hu7 fun x hx e=>by have e:x=h1.size:=e;have:=hx.1;omega
 refine hk h7 h1.size ⟨⟨#[]⟩,_,none,[some ⟨h3.size,0,none⟩],b7,rfl,⟨rfl,mg,fun _=>⟨_,rfl,(fun hx=>by have hx:W h5.size:=hx;have:=hW _ hx;omega),pd b67 fun i v hi=>?_⟩⟩,⟨au _,fun hx=>by have:=hW _ hx;omega⟩,?_⟩ hu07
 ·rw[aQ]
  rw[←List.getElem?_toArray]at hi;exact hi
 ·refine⟨h3.size,sl.extract c sl.size,val,s4,none,ks,[],rfl,Fa ..,b57,hv,ho7.sl (fun x hx _ hw=>by have:=hW _ hw;have:=hx.1;omega),⟨ho7.cap,fun hx=>by have:=hW _ hx;omega⟩,RxF.upd0 hu07 hF,rfl⟩
end Go.Proofs
