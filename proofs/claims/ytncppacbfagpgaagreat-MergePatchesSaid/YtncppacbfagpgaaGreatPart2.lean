/- A part of the proof that the named laws of this program answer true, whatever the input. -/
import Derived.Test.YtncppacbfagpgaaGreatPart1
open BitVec renaming ofInt→ar
open Bool renaming eq_iff_iff→jQ
open Int renaming toNat_natCast→aX
open List renaming pairwise_cons→aG,any_cons→rA,mem_cons→az,mem_cons_self→ao,mem_cons_of_mem→aC,pairwise_singleton→cq,filter_cons→bJ,mem_filter→de,filter_eq_nil_iff→qw,mem_singleton→aB,any_eq_true→cr,length_filter_le→eT,length_cons→ak,flatMap_cons→aI,map_cons→eP,length_singleton→aR,range→gf,range_succ→l7,map_append→dA,length_append→ac,append_assoc→al,flatMap_append→bO,take_of_length_le→bm,sum_append→su,map_nil→ji,mem_filterMap→pz
open List.Pairwise renaming nil→gP
open Nat renaming zero_add→aP,le_of_eq→eI,le_refl→aq,lt_irrefl→l9,mod_lt→w6,min_eq_left→bF,lt_of_lt_of_le→aE,zero_le→bw,le_trans→bc,mul_le_mul_right→dN,testBit_lt_two_pow→gL,pow_le_pow_right→kh,add_zero→gM,add_mul→ni,mul_le_mul_left→gS
open UInt8 renaming ofNat→hH
namespace Go.Proofs
open Go.Lift
set_option maxRecDepth 4000 in
theorem Ou{W:Nat→Prop}{h:ad}{b:Nat}{l:List Pr}(nd:BuckAt W h b l)(hn:l.length≤1000000000){K:Option Addr→ad→Prop}
  (hk:∀h' sp sk,h'[h.size]? =some (.cells (fg 0 0 sp sk true none) bD (0,0))→OwnS eu 2 af (fun x=>h.size<x∧x<h'.size) h' sp l→OwnS rH 1 bU (fun x=>h.size<x∧x<h'.size) h' sk []→Upd No h h'→K (some ⟨h.size,0,none⟩) h'):
  HC PG gZ [.pointer (some ⟨b,0,none⟩),.pointer none] [.c .ptr] K h:=by
 obtain⟨sp,sk,ow,hb,hsp,hsk,hcp,hck⟩:=nd.ex;refine xe _ none ?_;unfold sq bj cd nv bI dU iR mN Qn T4;refine Hm (aj.2 ?_);have c:∀{h:ad} {b:Nat} {c:Array Value} {i:Nat},h[b]? =some (.cells c bD (0,0))→aS h ⟨b,0+i,none⟩=c[i]?:=fun hb=>by rw[aP];exact bh hb
 refine⟨_,rfl,_,c (i:=0) hb,_,c (i:=1) hb,sp,c (i:=2) hb,sk,c (i:=3) hb,_,c (i:=4) hb,_,c (i:=5) hb,?_⟩;have k1:=Upd.hnew No h [.int .u32 0,.int .u32 0,.slice none 0 0,.slice none 0 0,.bool false,.pointer none] bD;have b1:=bZ h [.int .u32 0,.int .u32 0,.slice none 0 0,.slice none 0 0,.bool false,.pointer none] bD;refine bq ?_;simp only[cJ h];generalize hnew h [.int .u32 0,.int .u32 0,.slice none 0 0,.slice none 0 0,.bool false,.pointer none] bD=h1 at k1 b1
 have hs1:fk h1 ⟨h.size,0,none⟩ 0 [.int .u32 ((0:Nat):Int),.int .u32 ((0:Nat):Int),.slice sp.a sp.len sp.cap,.slice sk.a sk.len sk.cap,.bool true,.pointer ow]=_:=jq _ h1 0 0 _ b1 (by simp);refine⟨.inr ⟨_,rfl,fun j hj=>by rw[ci];exact iI b1 (by simp at hj⊢;omega)⟩,bq ?_⟩
 rw[hs1];have b2:=jg (o:=.cells (fg 0 0 sp sk true ow) bD (0,0)) b1;have k2:Upd No h _:=k1.trans (M':=(· =h.size)) (Upd.set h1 (.cells (fg 0 0 sp sk true ow) bD (0,0)) rfl) fun x hx=>.inr (eI hx.symm)
 have hz2:h.size<(h1.setIfInBounds h.size (.cells (fg 0 0 sp sk true ow) bD (0,0))).size:=aO b2;have hbb:h.size≠b:=fun e=>by have:=aO hb;omega
 have e2:(Obj.cells (List.take (0+0) [Value.int .u32 0,.int .u32 0,.slice none 0 0,.slice none 0 0,.bool false,.pointer none]++ [Value.int .u32 ((0:Nat):Int),.int .u32 ((0:Nat):Int),.slice sp.a sp.len sp.cap,.slice sk.a sk.len sk.cap,.bool true,.pointer ow]++List.drop (0+0+ [Value.int .u32 ((0:Nat):Int),.int .u32 ((0:Nat):Int),.slice sp.a sp.len sp.cap,.slice sk.a sk.len sk.cap,.bool true,.pointer ow].length) [Value.int .u32 0,.int .u32 0,.slice none 0 0,.slice none 0 0,.bool false,.pointer none]).toArray bD (0,0))=.cells (fg 0 0 sp sk true ow) bD (0,0):=rfl
 rw[e2];generalize h1.setIfInBounds h.size (.cells (fg 0 0 sp sk true ow) bD (0,0))=h2 at b2 k2 hz2;have hb2:=k2.get0 hb;refine⟨_,rfl,sp,c (i:=2) hb2,_,rfl,sk,c (i:=3) hb2,?_⟩;refine vD (hsp.upd k2 fun _ h=>h.elim) (by omega) fun s3 h3 ho3 hu3=>?_
 refine⟨c (i:=3) (hu3.get0 hb2),?_⟩;refine Ct ((hsk.upd k2 fun _ h=>h.elim).upd hu3 fun _ h=>h.elim) (by simp) fun s4 h4 ho4 hu4=>?_
 have b4:=hu4.get0 (hu3.get0 b2);have ho3':=ho3.within.upd hu4 fun _ _ h=>h
 have ho4':=ho4.within;have z3:=hu3.size;have z4:=hu4.size;have w:∀{h:ad} {c:Array Value} {x i:Nat},h[x]? =some (.cells c bD (0,0))→i<c.size→Wr h ⟨x,0+i,none⟩:=fun hb hi=>by rw[aP];exact iI hb hi
 have st:∀{h:ad} {c c':Array Value} {x i:Nat} {v:Value} {k:ad→Prop},h[x]? =some (.cells c bD (0,0))→c.setIfInBounds i v=c'→(∀h',h'[x]? =some (.cells c' bD (0,0))→Upd (· =x) h h'→k h')→At (hset h ⟨x,i,none⟩ v) k:=fun hb e hk=>yb hb fun h' hb' hu=>hk h' (e▸hb') hu
 refine⟨w (i:=2) b4 (show 2<6 by decide),st (i:=2) (c':=fg 0 0 s3 sk true ow) b4 rfl fun h5 b5 hu5=>?_⟩
 refine⟨w (i:=3) b5 (show 3<6 by decide),st (i:=3) (c':=fg 0 0 s3 s4 true ow) b5 rfl fun h6 b6 hu6=>?_⟩
 refine⟨w (i:=5) b6 (show 5<6 by decide),st (i:=5) (c':=fg 0 0 s3 s4 true none) b6 rfl fun h7 b7 hu7=>?_⟩
 refine xF (aj.2 ?_);have hu47:=hu5.tr (hu6.tr hu7);have z7:=hu47.size;refine hk _ s3 s4 b7 ((ho3'.upd hu47 fun x hx e=>?_).more fun x hx=>?_) ((ho4'.upd hu47 fun x hx e=>?_).more fun x hx=>?_) ?_
 ·have e:x=h.size:=e;omega
 ·omega
 ·have e:x=h.size:=e;omega
 ·omega
 ·exact((k2.tr hu3).tr hu4).trans hu47 fun x hx=>.inr (eI hx.symm)
theorem Et{W:Nat→Prop}{h:ad}{b:Nat}{l:List Pr}(bk:BuckAt W h b l)(hW:∀x,W x→x<h.size)(hr:bE l)(hn:l.length≤1000000000)(p:Pr){K:Option Addr→ad→Prop}
  (hk:∀h' b',BuckAt W h' b' (Gx l p)→Upd No h h'→K (some ⟨b',0,none⟩) h'):
  HC PG i5 [.pointer (some ⟨b,0,none⟩),.pointer none,.agg #[.string p.1,.string p.2]] [.c .ptr] K h:=by
 refine D9 _ none p ?_;unfold xi au cd dU vp qF mN;have k1:=Upd.hnew No h [.string p.1,.string p.2] af;have b1:=bZ h [.string p.1,.string p.2] af;refine bq ?_;simp only[cJ h];generalize hnew h [.string p.1,.string p.2] af=h1 at k1 b1;have z1:=aO b1;have bk1:=bk.upd k1 fun _ h=>h.elim
 obtain⟨sp,sk,ow,hb,hsp,hsk,hcp,hck⟩:=bk1.ex;refine gY hb (aj.2 ?_);refine Ou bk1 hn fun h2 s2 t2 b2 hA hB hu2=>?_
 have b12:=hu2.get0 b1;refine⟨_,rfl,s2,eJ (i:=2) b2,p.1,by rw[ci,bh b12];rfl,p.2,by rw[ci,bh b12];rfl,?_⟩
 refine MH (hA.sl fun _ _ _ h=>h) hA.cap hr hn p fun s3 h3 ho3 hu3=>?_
 have b3:=hu3.get0 b2;refine⟨_,rfl,Sq (i:=2) b3 (show 2<6 by decide),Gt (i:=2) (c':=fg 0 0 s3 t2 true none) b3 rfl fun h4 b4 hu4=>?_⟩
 have z2:=aO b2;have ho4:=ho3.upd hu4 fun x hx e=>by have e:x=h1.size:=e;omega
 have hB4:=(hB.upd hu3 fun _ _ h=>h).upd hu4 fun x hx e=>by have e:x=h1.size:=e;omega
 refine hk h4 h1.size ⟨⟨s3,t2,none,b4,ho4.sl fun x hx _ hw=>?_,hB4.sl fun x hx _ hw=>?_,ho3.cap,hB.cap⟩,fun hw=>?_⟩ (((k1.tr hu2).tr hu3).trans hu4 fun x hx=>.inr ?_)
 ·have:=hW x hw;have:=hu2.size;omega
 ·have:=hW x hw;omega
 ·have:=hW _ hw;omega
 ·have hx:x=h1.size:=hx
  omega
theorem HW{W:Nat→Prop}{h:ad}(hW:∀x,W x→x<h.size){K:Option Addr→ad→Prop}(hk:∀h' b',BuckAt W h' b' []→Upd No h h'→K (some ⟨b',0,none⟩) h'):HC PG rx [] [.c .ptr] K h:=by
 refine GO ?_;unfold ze;exact hk _ _ ⟨⟨⟨none,0,0⟩,⟨none,0,0⟩,none,bZ h _ _,Sl.nil ge,Sl.nil r7,aq _,aq _⟩,fun hx=>l9 _ (hW _ hx)⟩ (Upd.hnew No h _ _)
theorem pX{W:Nat→Prop}{h:ad}(hW:∀x,W x→x<h.size){K:Option Addr→ad→Prop}(hk:∀h' b',NodeAt W h' b' ⟨fun _=>none,fun _=>none⟩→Upd No h h'→K (some ⟨b',0,none⟩) h'):HC PG nG [] [.c .ptr] K h:=by
 refine Jr ?_;unfold BE Qn;have e1:fm (fun _=>(none:Option Pr)) 32= []:=by simp[fm]
 have e2:fm (fun _=>(none:Option (Option Addr))) 32= []:=by simp[fm]
 refine hk _ _ ⟨⟨0,0,⟨none,0,0⟩,⟨none,0,0⟩,none,bZ h _ _,⟨by decide,by decide,fun c _=>by simp,fun c _=>by simp⟩,?_,?_,aq _,aq _⟩,fun hx=>l9 _ (hW _ hx)⟩ (Upd.hnew No h _ _)
 ·show Sl eu 2 W _ _ (fm (fun _=>none) 32)
  rw[e1];exact Sl.nil ge
 ·show Sl rH 1 W _ _ (fm (fun _=>none) 32)
  rw[e2];exact Sl.nil r7
end Go.Proofs
namespace Go.Proofs
open Go.Lift
def gV(p:Pr):List Pr→List Pr
 | []=> [p]
 |q::l=>if kl q.1 p.1 then q::gV p l else if q.1=p.1 then p::l else p::q::l
theorem fU(p q:Pr)(l:List Pr):gV p (q::l)=if kl q.1 p.1 then q::gV p l else if q.1=p.1 then p::l else p::q::l:=rfl
theorem AP(p:Pr):∀{l:List Pr},bE l→Gx l p=gV p l
 | [],_=>by simp[Gx,gV,pg,cx]
 |q::l,hr=>by
  have hr:=aG.1 hr;unfold gV;have hpos:pg (q::l) p.1=if kl q.1 p.1 then pg l p.1+1 else 0:=by
   unfold pg;rw[List.takeWhile_cons];by_cases h:kl q.1 p.1
   ·rw[if_pos (by simpa using h),if_pos h];rfl
   ·rw[if_neg (by simpa using h),if_neg h];rfl
  have hth:cx (q::l) p.1=(decide (q.1=p.1)||cx l p.1):=by unfold cx;rw[rA]
  by_cases h:kl q.1 p.1
  ·have hne:q.1≠p.1:=fun e=>by rw[e]at h;exact bW _ h
   rw[if_pos h,←AP p hr.2];unfold Gx;rw[hth,hpos,if_pos h,decide_eq_false hne,Bool.false_or];by_cases ht:cx l p.1=true
   ·rw[if_pos ht,if_pos ht];rfl
   ·rw[if_neg ht,if_neg ht];rfl
  ·rw[if_neg h]
   unfold Gx;rw[hth,hpos,if_neg h];by_cases e:q.1=p.1
   ·rw[if_pos e,decide_eq_true e,Bool.true_or,if_pos rfl];rfl
   ·have hgt:=ph h e
    have ht:cx l p.1=false:=by
     unfold cx;rw[List.any_eq_false];intro r hr' e2;have e2:=of_decide_eq_true e2;have:=hr.1 r hr';rw[e2]at this;exact bW _ (fE hgt this)
    rw[if_neg e,decide_eq_false e,ht];rfl
theorem AH{p q:Pr}:∀{l:List Pr},q∈gV p l→q=p∨q∈l
 | [],h=>by simp[gV]at h;exact .inl h
 |r::l,h=>by
  unfold gV at h;split at h
  ·rcases az.1 h with h|h
   ·exact .inr (h▸ao ..)
   ·exact(AH h).imp id fun h=>aC _ h
  ·split at h
   ·rcases az.1 h with h|h
    ·exact .inl h
    ·exact .inr (aC _ h)
   ·rcases az.1 h with h|h
    ·exact .inl h
    ·exact .inr h
theorem yr(p:Pr):∀{l:List Pr},bE l→bE (gV p l)
 | [],_=>cq ..
 |q::l,hr=>by
  have hr':=hr;have hr:=aG.1 hr;unfold gV;split
  ·rename_i h
   refine aG.2 ⟨fun r hm=>?_,yr p hr.2⟩
   rcases AH hm with rfl|hm
   ·exact h
   ·exact hr.1 r hm
  ·rename_i h
   split
   ·rename_i e
    exact aG.2 ⟨fun r hm=>e▸hr.1 r hm,hr.2⟩
   ·rename_i e
    have hgt:=ph h e;refine aG.2 ⟨fun r hm=>?_,hr'⟩
    rcases az.1 hm with rfl|hm
    ·exact hgt
    ·exact fE hgt (hr.1 r hm)
theorem Fx(p:Pr)(g:ByteArray→Bool):∀{l:List Pr},bE l→(gV p l).filter (fun q=>g q.1)=if g p.1 then gV p (l.filter fun q=>g q.1)else l.filter fun q=>g q.1
 | [],_=>by
  unfold gV;rw[bJ,List.filter_nil]
 |q::l,hr=>by
  have hr':=hr;have hr:=aG.1 hr;have ih:=Fx p g hr.2;rw[fU];by_cases h:kl q.1 p.1
  ·rw[if_pos h,bJ,bJ,ih]
   by_cases hq:g q.1=true
   ·rw[if_pos hq,if_pos hq]
    split
    ·rw[fU,if_pos h]
    ·rfl
   ·rw[if_neg hq,if_neg hq]
  ·rw[if_neg h]
   by_cases e:q.1=p.1
   ·rw[if_pos e,bJ,bJ,e]
    by_cases hp:g p.1=true
    ·rw[if_pos hp,if_pos hp,if_pos hp,fU,if_neg h,if_pos e]
    ·rw[if_neg hp,if_neg hp,if_neg hp]
   ·rw[if_neg e]
    have hgt:=ph h e;rw[bJ];by_cases hp:g p.1=true
    ·rw[if_pos hp,if_pos hp]
     have:∀r∈(q::l).filter (fun q=>g q.1),kl p.1 r.1:=fun r hm=>by
      rcases az.1 (de.1 hm).1 with rfl|hm
      ·exact hgt
      ·exact fE hgt (hr.1 r hm)
     cases hf:(q::l).filter (fun q=>g q.1)with
     |nil=>rfl
     |cons r rs=>
      have hpr:=this r (by rw[hf];exact ao ..);rw[fU,if_neg fun hk=>bW _ (fE hpr hk),if_neg fun e=>by rw[e]at hpr;exact bW _ hpr]
    ·rw[if_neg hp,if_neg hp]
theorem Em{p:Pr}:∀{l:List Pr},bE l→p∈l→gV p l=l
 |q::l,hr,hm=>by
  have hr:=aG.1 hr;unfold gV;rcases az.1 hm with rfl|hm
  ·rw[if_neg (bW _),if_pos rfl]
  ·rw[if_pos (hr.1 p hm),Em hr.2 hm]
def ck(x:Hs)(lev:Nat)(k:ByteArray):Nat:=((gp x k).toNat>>>(5*lev))%32
theorem ya(x:Hs)(lev:Nat)(k:ByteArray):ck x lev k<32:=w6 _ (by omega)
def part(x:Hs)(lev c:Nat)(l:List Pr):List Pr:=l.filter fun p=>decide (ck x lev p.1=c)
def TrieAt(W:Nat→Prop)(x:Hs)(h:ad):Nat→Nat→List Pr→Prop
 |0,b,l=>BuckAt W h b l
 |m+1,b,l=>∃s,NodeAt W h b s∧∀c,c<32→
  ((part x (12-m) c l= []∧s.p c=none∧s.k c=none)∨(∃p,part x (12-m) c l= [p]∧s.p c=some p∧s.k c=none)∨
   (2≤(part x (12-m) c l).length∧s.p c=none∧∃kb,s.k c=some (some ⟨kb,0,none⟩)∧TrieAt W x h m kb (part x (12-m) c l)))
theorem TrieAt.upd0{W:Nat→Prop}{x:Hs}{h h':ad}(k:Upd No h h'):∀{m b:Nat} {l:List Pr},TrieAt W x h m b l→TrieAt W x h' m b l
 |0,_,_,t=>BuckAt.upd t k fun _ h=>h.elim
 |m+1,_,_,⟨s,nd,hc⟩=>⟨s,nd.upd k fun _ h=>h.elim,fun c hc'=>(hc c hc').imp id fun o=>o.imp id fun⟨h1,h2,kb,h3,h4⟩=>⟨h1,h2,kb,h3,TrieAt.upd0 k h4⟩⟩
theorem NodeAt.less{W W':Nat→Prop}{h:ad}{b:Nat}{s:Slots}(n:NodeAt W h b s)(hm:∀b,W' b→W b∨h.size≤b):NodeAt W' h b s:=by
 obtain⟨d,m,sp,sk,ow,h1,h2,h3,h4,h5,h6⟩:=n.ex;exact⟨⟨d,m,sp,sk,ow,h1,h2,h3.less hm,h4.less hm,h5,h6⟩,fun hx=>(hm _ hx).elim n.nw fun h=>by have:=aO h1;omega⟩
theorem BuckAt.less{W W':Nat→Prop}{h:ad}{b:Nat}{l:List Pr}(n:BuckAt W h b l)(hm:∀b,W' b→W b∨h.size≤b):BuckAt W' h b l:=by
 obtain⟨sp,sk,ow,h1,h3,h4,h5,h6⟩:=n.ex;exact⟨⟨sp,sk,ow,h1,h3.less hm,h4.less hm,h5,h6⟩,fun hx=>(hm _ hx).elim n.nw fun h=>by have:=aO h1;omega⟩
theorem TrieAt.less{W W':Nat→Prop}{x:Hs}{h:ad}(hm:∀b,W' b→W b∨h.size≤b):∀{m b:Nat} {l:List Pr},TrieAt W x h m b l→TrieAt W' x h m b l
 |0,_,_,t=>BuckAt.less t hm
 |m+1,_,_,⟨s,nd,hc⟩=>⟨s,nd.less hm,fun c hc'=>(hc c hc').imp id fun o=>o.imp id fun⟨h1,h2,kb,h3,h4⟩=>⟨h1,h2,kb,h3,TrieAt.less hm h4⟩⟩
theorem TrieAt.updM{W M:Nat→Prop}{x:Hs}{h h':ad}(k:Upd M h h')(hm:∀b,M b→W b∨h.size≤b):∀{m b:Nat} {l:List Pr},TrieAt W x h m b l→TrieAt W x h' m b l
 |0,_,_,t=>BuckAt.upd t k hm
 |m+1,_,_,⟨s,nd,hc⟩=>⟨s,nd.upd k hm,fun c hc'=>(hc c hc').imp id fun o=>o.imp id fun⟨h1,h2,kb,h3,h4⟩=>⟨h1,h2,kb,h3,TrieAt.updM k hm h4⟩⟩
end Go.Proofs
namespace Go.Proofs
open Go.Lift
theorem UL(a b:Nat):(ar (IntKind.bits .u64) (a:Int)&&&ar (IntKind.bits .u64) (b:Int)).toNat=(a%18446744073709551616)&&&(b%18446744073709551616):=by
 simp[IntKind.bits,BitVec.toNat_and,BitVec.toNat_ofInt];rfl
theorem Vx{hv:Int}(h0:0≤hv∧hv<18446744073709551616){lev:Nat}(hl:lev<13){h:ad}{K:Int→ad→Prop}(hk:K (((hv.toNat>>>(5*lev))%32:Nat):Int) h):HC PG lA [.int .u64 hv,.int .i64 lev] [.c (.int .i64)] K h:=by
 refine NN hv lev ?_;unfold Ge;refine Join.plain (aA (fun h=>by omega) fun _=>?_)
 rw[decide_eq_false (by omega)];refine aj.2 ?_;have e5:IntKind.wrap .i64 (5*(lev:Int))=((5*lev:Nat):Int):=by rw[d8 (by omega)];omega
 rw[e5];have em:min (((5*lev:Nat):Int)).toNat (IntKind.bits .u64)=5*lev:=by rw[aX];exact bF (by show 5*lev≤64;omega)
 rw[em];obtain⟨n,rfl⟩:=Int.eq_ofNat_of_zero_le h0.1;rw[aX]at hk;simp only[Bd];rw[m9];have hlt:n>>>(5*lev)<18446744073709551616:=Nat.lt_of_le_of_lt (Nat.shiftRight_le _ _) (by omega);have e:=UL (n>>>(5*lev)) 31;rw[Nat.mod_eq_of_lt hlt,show((31:Nat):Int)=(31:Int)from rfl,show 31%18446744073709551616=2^5-1 from rfl,Nat.and_two_pow_sub_one_eq_mod]at e
 rw[e];have hm:n>>>(5*lev)%2^5<32:=w6 _ (by omega);rw[Go.IntWalk.u64_in _ (by omega),d8 (by omega)];exact⟨by omega,hk⟩
theorem PV{x:Hs}{k:ByteArray}{lev:Nat}(hl:lev<13){h:ad}{K:Int→ad→Prop}(hk:K (ck x lev k:Int) h):HC PG lA [.int .u64 (gp x k),.int .i64 lev] [.c (.int .i64)] K h:=Vx (K4 x k) hl hk
abbrev Qq(x:Hs)(k:ByteArray):Value:=.agg #[.int .u64 x.k0,.int .u64 x.k1,.int .u64 x.mask,.pointer none,.string k,.int .u64 (gp x k)]
theorem E8{x:Hs}{lev c:Nat}{l:List Pr}(h:∀p∈l,ck x lev p.1=c):part x lev c l=l:=List.filter_eq_self.2 fun p hp=>decide_eq_true (h p hp)
theorem wt{x:Hs}{lev c:Nat}{l:List Pr}(h:∀p∈l,ck x lev p.1≠c):part x lev c l= []:=qw.2 fun p hp=>by simpa using h p hp
theorem Ks{x:Hs}{lev c:Nat}{p:Pr}{l:List Pr}(hr:bE l):part x lev c (gV p l)=if ck x lev p.1=c then gV p (part x lev c l)else part x lev c l:=by
 have:=Fx p (fun k=>decide (ck x lev k=c)) hr
 unfold part;rw[this];by_cases h:ck x lev p.1=c
 ·rw[if_pos h,if_pos (decide_eq_true h)]
 ·rw[if_neg h,if_neg (by simpa using h)]
theorem N4{p q:Pr}(h:p.1≠q.1):(gV q [p]).length=2:=by
 rw[fU];by_cases hk:kl p.1 q.1
 ·rw[if_pos hk];rfl
 ·rw[if_neg hk,if_neg h];rfl
theorem Oz{p q r:Pr}(h:r∈gV q [p]):r=p∨r=q:=(AH h).symm.imp (fun h=>aB.1 h) id
theorem fp{β:Type}{g:Nat→Option β}{i c:Nat}{x:Option β}(h:c≠i):upd g i x c=g c:=by unfold upd;rw[if_neg h]
theorem Tx{W:Nat→Prop}{x:Hs}:∀(m:Nat) (p q:Pr),m≤13→p.1≠q.1→∀{h:ad},(∀y,W y→y<h.size)→∀{K:Option Addr→ad→Prop},(∀h' b',TrieAt W x h' m b' (gV q [p])→Upd No h h'→K (some ⟨b',0,none⟩) h')→
  HC PG mB [Qq x q.1,.agg #[.string p.1,.string p.2],.agg #[.string q.1,.string q.2],.int .i64 ((13-m:Nat):Int)] [.c .ptr] K h:=by
 intro m;induction m with
 |zero=>
  intro p q _ hne h hW K hk;have gW:∀{h'},Upd No h h'→∀y,W y→y<h'.size:=fun k y hy=>aE (hW y hy) k.size
  refine uw (x.k0,x.k1,x.mask,none,q.1,gp x q.1) p q ((13-0:Nat):Int) ?_;unfold qn ae aH ax au zm bX vp qF sS gC zl zk IG;have k1:=Upd.hnew No h [.int .u64 x.k0,.int .u64 x.k1,.int .u64 x.mask,.pointer none,.string q.1,.int .u64 (gp x q.1)] cN;have b1:=bZ h [.int .u64 x.k0,.int .u64 x.k1,.int .u64 x.mask,.pointer none,.string q.1,.int .u64 (gp x q.1)] cN
  refine bq ?_;simp only[cJ h];generalize hnew h [.int .u64 x.k0,.int .u64 x.k1,.int .u64 x.mask,.pointer none,.string q.1,.int .u64 (gp x q.1)] cN=h1 at k1 b1;have k2:=Upd.hnew No h1 [.string p.1,.string p.2] af;have b2:=bZ h1 [.string p.1,.string p.2] af;refine bq ?_;simp only[cJ h1];generalize hnew h1 [.string p.1,.string p.2] af=h2 at k2 b2
  have k3:=Upd.hnew No h2 [.string q.1,.string q.2] af;have b3:=bZ h2 [.string q.1,.string q.2] af;refine bq ?_;simp only[cJ h2];generalize hnew h2 [.string q.1,.string q.2] af=h3 at k3 b3;have w1:∀{h':ad},Upd No h3 h'→∀i,aS h' (adr ⟨h.size,0,none⟩ i)=(#[.int .u64 x.k0,.int .u64 x.k1,.int .u64 x.mask,.pointer none,.string q.1,.int .u64 (gp x q.1)]:Array Value)[i]?:=fun k i=>by
   rw[ci,bh (k.get0 (k3.get0 (k2.get0 b1))),aP]
  have w2:∀{h':ad},Upd No h3 h'→∀i,aS h' (adr ⟨h1.size,0,none⟩ i)=(#[.string p.1,.string p.2]:Array Value)[i]?:=fun k i=>by rw[ci,bh (k.get0 (k3.get0 b2)),aP]
  have w3:∀{h':ad},Upd No h3 h'→∀i,aS h' (adr ⟨h2.size,0,none⟩ i)=(#[.string q.1,.string q.2]:Array Value)[i]?:=fun k i=>by rw[ci,bh (k.get0 b3),aP]
  have r:=Upd.refl No h3;refine av.2 ⟨none,w1 r 3,p.1,w2 r 0,p.2,w2 r 1,none,w1 r 3,q.1,w3 r 0,q.2,w3 r 1,?_⟩;refine HW (gW ((k1.tr k2).tr k3)) fun h4 b4 bk4 hu4=>⟨⟨w3 hu4 0,w3 hu4 1⟩,w1 hu4 3,⟨w2 hu4 0,w2 hu4 1⟩,w1 hu4 3,?_⟩
  refine Et bk4 (gW (((k1.tr k2).tr k3).tr hu4)) gP (by simp) p fun h5 b5 bk5 hu5=>?_
  have hu45:=hu4.tr hu5;refine⟨⟨w3 hu45 0,w3 hu45 1⟩,w1 hu45 3,?_⟩;have e1:Gx [] p= [p]:=AP p gP;rw[e1]at bk5;refine Et bk5 (gW (((k1.tr k2).tr k3).tr hu45)) (cq ..) (by simp) q fun h6 b6 bk6 hu6=>?_
  rw[AP q (cq ..)]at bk6;exact hk h6 b6 bk6 ((((k1.tr k2).tr k3).tr hu45).tr hu6)
 |succ m ih=>
  intro p q hm hne h hW K hk;have gW:∀{h'},Upd No h h'→∀y,W y→y<h'.size:=fun k y hy=>aE (hW y hy) k.size
  have hl:13-(m+1)<13:=by omega
  have hlev:13-(m+1)=12-m:=by omega
  refine uw (x.k0,x.k1,x.mask,none,q.1,gp x q.1) p q ((13-(m+1):Nat):Int) ?_;unfold qn ae aH ax au zm bX vp qF sS gC zl zk IG;have k1:=Upd.hnew No h [.int .u64 x.k0,.int .u64 x.k1,.int .u64 x.mask,.pointer none,.string q.1,.int .u64 (gp x q.1)] cN;have b1:=bZ h [.int .u64 x.k0,.int .u64 x.k1,.int .u64 x.mask,.pointer none,.string q.1,.int .u64 (gp x q.1)] cN
  refine bq ?_;simp only[cJ h];generalize hnew h [.int .u64 x.k0,.int .u64 x.k1,.int .u64 x.mask,.pointer none,.string q.1,.int .u64 (gp x q.1)] cN=h1 at k1 b1;have k2:=Upd.hnew No h1 [.string p.1,.string p.2] af;have b2:=bZ h1 [.string p.1,.string p.2] af;refine bq ?_;simp only[cJ h1];generalize hnew h1 [.string p.1,.string p.2] af=h2 at k2 b2
  have k3:=Upd.hnew No h2 [.string q.1,.string q.2] af;have b3:=bZ h2 [.string q.1,.string q.2] af;refine bq ?_;simp only[cJ h2];generalize hnew h2 [.string q.1,.string q.2] af=h3 at k3 b3;have w1:∀{h':ad},Upd No h3 h'→∀i,aS h' (adr ⟨h.size,0,none⟩ i)=(#[.int .u64 x.k0,.int .u64 x.k1,.int .u64 x.mask,.pointer none,.string q.1,.int .u64 (gp x q.1)]:Array Value)[i]?:=fun k i=>by
   rw[ci,bh (k.get0 (k3.get0 (k2.get0 b1))),aP]
  have w2:∀{h':ad},Upd No h3 h'→∀i,aS h' (adr ⟨h1.size,0,none⟩ i)=(#[.string p.1,.string p.2]:Array Value)[i]?:=fun k i=>by rw[ci,bh (k.get0 (k3.get0 b2)),aP]
  have w3:∀{h':ad},Upd No h3 h'→∀i,aS h' (adr ⟨h2.size,0,none⟩ i)=(#[.string q.1,.string q.2]:Array Value)[i]?:=fun k i=>by rw[ci,bh (k.get0 b3),aP]
  have r:=Upd.refl No h3;have ne:(((13-(m+1):Nat):Int)==(13:Int))=false:=by rw[beq_eq_false_iff_ne];omega
  rw[ne];refine aj.2 ⟨_,w1 r 0,_,w1 r 1,_,w1 r 2,_,w2 r 0,_,w1 r 5,?_⟩;refine yA fun h4 hu4=>⟨w1 hu4 5,PV hl ⟨w1 hu4 5,PV hl ?_⟩⟩
  have hi:=ya x (13-(m+1)) p.1;have hj:=ya x (13-(m+1)) q.1;have hk03:=((k1.tr k2).tr k3);have hcl:=N4 hne;refine CondP.intro (fun e=>?_) fun e=>?_
  ·have e:ck x (13-(m+1)) p.1=ck x (13-(m+1)) q.1:=by have:=eq_of_beq e;omega
   refine⟨_,w1 hu4 3,_,w1 hu4 0,_,w1 hu4 1,_,w1 hu4 2,_,w1 hu4 3,_,w1 hu4 4,_,w1 hu4 5,_,w2 hu4 0,_,w2 hu4 1,_,w3 hu4 0,_,w3 hu4 1,?_⟩;refine pX (gW (hk03.tr hu4)) fun h5 b5 nd5 hu5=>?_
   have hu35:=hu4.tr hu5;refine⟨⟨w3 hu35 0,w3 hu35 1⟩,⟨w2 hu35 0,w2 hu35 1⟩,⟨w1 hu35 0,w1 hu35 1,w1 hu35 2,w1 hu35 3,w1 hu35 4,w1 hu35 5⟩,w1 hu35 3,?_⟩;have ew:IntKind.wrap .i64 (((13-(m+1):Nat):Int)+1)=((13-m:Nat):Int):=by rw[d8 (by omega)];omega
   rw[ew];refine ih p q (by omega) hne (gW (hk03.tr hu35)) fun h6 b6 t6 hu6=>?_
   have hu36:=hu35.tr hu6;refine⟨w1 hu36 3,?_⟩;refine vm (nd5.upd hu6 fun _ h=>h.elim) (gW (hk03.tr hu36)) hi (fun y h=>by cases h) ⟨b6,0,none⟩ fun h7 b7 nd7 hu7=>?_
   refine hk h7 b7 ⟨_,nd7,fun c hc=>?_⟩ ((hk03.tr hu36).tr hu7)
   rw[hlev]at e;by_cases hcc:c=ck x (13-(m+1)) p.1
   ·refine .inr (.inr ?_)
    have ea:part x (12-m) c (gV q [p])=gV q [p]:=E8 fun r hr=>by
     rcases Oz hr with rfl|rfl
     ·rw[hcc,hlev]
     ·rw[hcc,hlev,e]
    rw[ea];exact⟨by omega,by simp[upd],b6,by rw[hcc];exact fV,TrieAt.upd0 hu7 t6⟩
   ·refine .inl ⟨wt fun r hr=>?_,by simp[upd],fp hcc⟩
    rw[hlev]at hcc;rcases Oz hr with rfl|rfl
    ·exact fun e=>hcc e.symm
    ·rw[←e];exact fun e=>hcc e.symm
  ·have e:ck x (13-(m+1)) p.1≠ck x (13-(m+1)) q.1:=fun h=>by rw[h]at e;simp at e
   refine⟨_,w1 hu4 3,_,w2 hu4 0,_,w2 hu4 1,_,w1 hu4 3,_,w3 hu4 0,_,w3 hu4 1,?_⟩;refine pX (gW (hk03.tr hu4)) fun h5 b5 nd5 hu5=>?_
   have hu35:=hu4.tr hu5;refine⟨⟨w3 hu35 0,w3 hu35 1⟩,w1 hu35 3,⟨w2 hu35 0,w2 hu35 1⟩,w1 hu35 3,?_⟩;refine qN nd5 (gW (hk03.tr hu35)) hi (fun y h=>by cases h) p fun h6 b6 nd6 hu6=>?_
   have hu36:=hu35.tr hu6;refine⟨⟨w3 hu36 0,w3 hu36 1⟩,w1 hu36 3,?_⟩;refine qN nd6 (gW (hk03.tr hu36)) hj (fun y h=>by simp[upd]) q fun h7 b7 nd7 hu7=>?_
   refine hk h7 b7 ⟨_,nd7,fun c hc=>?_⟩ ((hk03.tr hu36).tr hu7)
   have hpi:=Ks (x:=x) (lev:=12-m) (c:=c) (p:=q) (l:= [p]) (cq ..);rw[hlev]at e;by_cases hcp:c=ck x (12-m) p.1
   ·have hcq:ck x (12-m) q.1≠c:=fun h=>e (by omega)
    have e1:part x (12-m) c [p]= [p]:=E8 fun r hr=>by rw[aB.1 hr,hcp]
    rw[if_neg hcq,e1]at hpi;exact .inr (.inl ⟨p,hpi,by simp[upd,hlev,hcp,e],by simp[upd]⟩)
   ·have e1:part x (12-m) c [p]= []:=wt fun r hr=>by rw[aB.1 hr];exact fun h=>hcp h.symm
    rw[e1]at hpi;by_cases hcq:c=ck x (12-m) q.1
    ·rw[if_pos hcq.symm]at hpi
     exact .inr (.inl ⟨q,hpi,by simp[upd,hlev,hcq],by simp[upd]⟩)
    ·rw[if_neg fun h=>hcq h.symm]at hpi
     exact .inl ⟨hpi,by simp[upd,hlev,hcq,hcp],by simp[upd]⟩
end Go.Proofs
namespace Go.Proofs
open Go.Lift
noncomputable instance memDec (p:Pr) (l:List Pr):Decidable (p∈l):=Classical.propDecidable _
theorem E3{l:List Pr}(hr:bE l){k v w:ByteArray}(h1:(k,v)∈l)(h2:(k,w)∈l):v=w:=by
 induction l with
 |nil=>cases h1
 |cons q l ih=>
  have hr:=aG.1 hr;rcases az.1 h1 with e1|h1<;>rcases az.1 h2 with e2|h2
  ·exact(Prod.mk.inj (e1.trans e2.symm)).2
  ·have:=hr.1 _ h2;rw[←e1]at this;exact absurd this (bW _)
  ·have:=hr.1 _ h1;rw[←e2]at this;exact absurd this (bW _)
  ·exact ih hr.2 h1 h2
theorem mX{x:Hs}{lev c:Nat}{l:List Pr}{p:Pr}:p∈part x lev c l↔p∈l∧ck x lev p.1=c:=by unfold part;rw[de,decide_eq_true_iff]
theorem EH{x:Hs}{lev:Nat}{l:List Pr}{k:ByteArray}:cx (part x lev (ck x lev k) l) k=cx l k:=by
 unfold cx;rw[jQ,cr,cr];constructor
 ·rintro⟨p,hp,e⟩;exact⟨p,(mX.1 hp).1,e⟩
 ·rintro⟨p,hp,e⟩;exact⟨p,mX.2 ⟨hp,by rw[of_decide_eq_true e]⟩,e⟩
theorem iZ{x:Hs}{lev c:Nat}{l:List Pr}(hr:bE l):bE (part x lev c l):=hr.sublist List.filter_sublist
theorem mV{x:Hs}{lev c:Nat}{l:List Pr}:(part x lev c l).length≤l.length:=eT ..
def SlotIs(W:Nat→Prop)(x:Hs)(h:ad)(m:Nat)(s:Slots)(c:Nat)(l:List Pr):Prop:=
 (l= []∧s.p c=none∧s.k c=none)∨(∃p,l= [p]∧s.p c=some p∧s.k c=none)∨(2≤l.length∧s.p c=none∧∃kb,s.k c=some (some ⟨kb,0,none⟩)∧TrieAt W x h m kb l)
theorem SlotIs.upd0{W:Nat→Prop}{x:Hs}{h h':ad}{m:Nat}{s:Slots}{c:Nat}{l:List Pr}(k:Upd No h h')(t:SlotIs W x h m s c l):SlotIs W x h' m s c l:=t.imp id fun o=>o.imp id fun⟨h1,h2,kb,h3,h4⟩=>⟨h1,h2,kb,h3,TrieAt.upd0 k h4⟩
theorem KW(p:Pr):∀{l:List Pr},l.length≤(gV p l).length
 | []=>bw _
 |q::l=>by
  rw[fU];split
  ·have:=KW p (l:=l);simp only[ak];omega
  ·split<;>simp
theorem O6{W:Nat→Prop}{x:Hs}{h h':ad}{m b':Nat}{s s':Slots}{l:List Pr}{p:Pr}(hr:bE l)(hu:Upd No h h')(nd:NodeAt W h' b' s')(hs:∀c,c<32→SlotIs W x h m s c (part x (12-m) c l))
  (hp:∀c,c≠ck x (12-m) p.1→s'.p c=s.p c∧s'.k c=s.k c)(hi:SlotIs W x h' m s' (ck x (12-m) p.1) (gV p (part x (12-m) (ck x (12-m) p.1) l))):TrieAt W x h' (m+1) b' (gV p l):=by
 refine⟨s',nd,fun c hc=>?_⟩
 rw[Ks hr];by_cases e:ck x (12-m) p.1=c
 ·rw[if_pos e];subst e;exact hi
 ·rw[if_neg e]
  have t:=SlotIs.upd0 hu (hs c hc);obtain⟨e1,e2⟩:=hp c fun h=>e h.symm
  unfold SlotIs at t;rw[←e1,←e2]at t;exact t
theorem gE{a b:ByteArray}:(a.toList==b.toList)=decide (a=b):=by
 rw[jQ,beq_iff_eq,decide_eq_true_iff,Cu]
theorem Un{W:Nat→Prop}{x:Hs}:∀(m:Nat),m≤13→∀{b:Nat} {l:List Pr} (p:Pr) {h:ad},TrieAt W x h m b l→(∀y,W y→y<h.size)→bE l→l.length≤1000000→∀{K:(Option Addr)×Bool×Bool→ad→Prop},
  (∀h' b' ch,Upd No h h'→TrieAt W x h' m b' (gV p l)→(ch=false→b'=b)→ch= !decide (p∈l)→K (some ⟨b',0,none⟩, !cx l p.1,ch) h')→
  HC PG jt [Qq x p.1,.pointer (some ⟨b,0,none⟩),.agg #[.string p.1,.string p.2],.int .i64 ((13-m:Nat):Int)] [.c .ptr,.c .bool,.c .bool] K h:=by
 intro m;induction m with
 |zero=>
  intro _ b l p h t hW hr hn K hk;have gW:∀{h'},Upd No h h'→∀y,W y→y<h'.size:=fun k y hy=>aE (hW y hy) k.size
  refine vM (x.k0,x.k1,x.mask,none,p.1,gp x p.1) (some ⟨b,0,none⟩) p ((13-0:Nat):Int) ?_;unfold ri ae ax au nv nZ bX xu lx vp qF gm ll sS pZ ug zl zk IG;have k1:=Upd.hnew No h [.int .u64 x.k0,.int .u64 x.k1,.int .u64 x.mask,.pointer none,.string p.1,.int .u64 (gp x p.1)] cN;have b1:=bZ h [.int .u64 x.k0,.int .u64 x.k1,.int .u64 x.mask,.pointer none,.string p.1,.int .u64 (gp x p.1)] cN
  refine bq ?_;simp only[cJ h];generalize hnew h [.int .u64 x.k0,.int .u64 x.k1,.int .u64 x.mask,.pointer none,.string p.1,.int .u64 (gp x p.1)] cN=h1 at k1 b1;have k2:=Upd.hnew No h1 [.string p.1,.string p.2] af;have b2:=bZ h1 [.string p.1,.string p.2] af;refine bq ?_;simp only[cJ h1];generalize hnew h1 [.string p.1,.string p.2] af=h2 at k2 b2
  have w1:∀{h':ad},Upd No h2 h'→∀i,aS h' (adr ⟨h.size,0,none⟩ i)=(#[.int .u64 x.k0,.int .u64 x.k1,.int .u64 x.mask,.pointer none,.string p.1,.int .u64 (gp x p.1)]:Array Value)[i]?:=fun k i=>by
   rw[ci,bh (k.get0 (k2.get0 b1)),aP]
  have w2:∀{h':ad},Upd No h2 h'→∀i,aS h' (adr ⟨h1.size,0,none⟩ i)=(#[.string p.1,.string p.2]:Array Value)[i]?:=fun k i=>by rw[ci,bh (k.get0 b2),aP]
  have r:=Upd.refl No h2;have k02:=k1.tr k2;have bk:BuckAt W h2 b l:=BuckAt.upd t k02 fun _ h=>h.elim
  obtain⟨sp,sk,ow,hb,_⟩:=bk.ex;refine gY hb (av.2 ⟨_,w2 r 0,TR bk hr (by omega) p.1 fun h3 v hu3 hv=>?_⟩)
  have put:∀(hnot:p∉l) {h4:ad},Upd No h2 h4→HC PG i5 [.pointer (some ⟨b,0,none⟩),.pointer none,.agg #[.string p.1,.string p.2]] [.c .ptr] (fun(e15:Option Addr) h16=>K (e15, !cx l p.1,true) h16) h4:=fun hnot h4 hu4=>
   Et (bk.upd hu4 fun _ h=>h.elim) (gW (k02.tr hu4)) hr (by omega) p fun h5 b5 bk5 hu5=>by
    rw[AP p hr]at bk5;exact hk h5 b5 true ((k02.tr hu4).tr hu5) bk5 (fun h=>by cases h) (by rw[decide_eq_false hnot];rfl)
  refine Join.intro (fun t' h'=>t'=decide (p∈l)∧Upd No h2 h') (fun R hR=>?_) ?_
  ·cases ht:cx l p.1 with
   |false=>
    refine aj.2 (hR _ _ ⟨?_,hu3⟩);refine(decide_eq_false fun hm=>?_).symm
    have:cx l p.1=true:=cr.2 ⟨p,hm,decide_eq_true rfl⟩;rw[ht]at this;cases this
   |true=>
    have hv:=hv ht;refine av.2 ⟨_,w2 hu3 1,hR _ _ ⟨?_,hu3⟩⟩;rw[gE,decide_eq_decide];constructor
    ·intro e
     have e:v=p.2:=e;rw[e]at hv;exact hv
    ·intro hm
     exact E3 hr hv (show(p.1,p.2)∈l from hm)
  ·rintro t' h4 ⟨rfl,hu4⟩
   by_cases hm:p∈l
   ·rw[decide_eq_true hm]
    refine av.2 ?_;have ht:cx l p.1=true:=cr.2 ⟨p,hm,decide_eq_true rfl⟩;have:=hk h4 b false (k02.tr hu4) (by rw[Em hr hm];exact bk.upd hu4 fun _ h=>h.elim) (fun _=>rfl) (by rw[decide_eq_true hm];rfl)
    rw[ht]at this;exact this
   ·rw[decide_eq_false hm]
    refine aj.2 ⟨none,w1 hu4 3,_,w2 hu4 0,_,w2 hu4 1,put hm hu4⟩
 |succ m ih=>
  intro hm b l p h t hW hr hn K hk;have gW:∀{h'},Upd No h h'→∀y,W y→y<h'.size:=fun k y hy=>aE (hW y hy) k.size
  have hl:13-(m+1)<13:=by omega
  have hlev:13-(m+1)=12-m:=by omega
  refine vM (x.k0,x.k1,x.mask,none,p.1,gp x p.1) (some ⟨b,0,none⟩) p ((13-(m+1):Nat):Int) ?_;unfold ri ae ax au nv nZ bX xu lx vp qF gm ll sS pZ ug zl zk IG;have k1:=Upd.hnew No h [.int .u64 x.k0,.int .u64 x.k1,.int .u64 x.mask,.pointer none,.string p.1,.int .u64 (gp x p.1)] cN;have b1:=bZ h [.int .u64 x.k0,.int .u64 x.k1,.int .u64 x.mask,.pointer none,.string p.1,.int .u64 (gp x p.1)] cN
  refine bq ?_;simp only[cJ h];generalize hnew h [.int .u64 x.k0,.int .u64 x.k1,.int .u64 x.mask,.pointer none,.string p.1,.int .u64 (gp x p.1)] cN=h1 at k1 b1;have k2:=Upd.hnew No h1 [.string p.1,.string p.2] af;have b2:=bZ h1 [.string p.1,.string p.2] af;refine bq ?_;simp only[cJ h1];generalize hnew h1 [.string p.1,.string p.2] af=h2 at k2 b2
  have w1:∀{h':ad},Upd No h2 h'→∀i,aS h' (adr ⟨h.size,0,none⟩ i)=(#[.int .u64 x.k0,.int .u64 x.k1,.int .u64 x.mask,.pointer none,.string p.1,.int .u64 (gp x p.1)]:Array Value)[i]?:=fun k i=>by
   rw[ci,bh (k.get0 (k2.get0 b1)),aP]
  have w2:∀{h':ad},Upd No h2 h'→∀i,aS h' (adr ⟨h1.size,0,none⟩ i)=(#[.string p.1,.string p.2]:Array Value)[i]?:=fun k i=>by rw[ci,bh (k.get0 b2),aP]
  have r:=Upd.refl No h2;have k02:=k1.tr k2;obtain⟨s,nd0,hs0⟩:=TrieAt.upd0 k02 t;have hs:∀c,c<32→SlotIs W x h2 m s c (part x (12-m) c l):=hs0;have tt:∀{h':ad},Upd No h2 h'→TrieAt W x h' (m+1) b l:=fun k=>TrieAt.upd0 (k02.tr k) t
  obtain⟨d0,n0,sp0,sk0,ow0,hb0,_⟩:=nd0.ex;refine gY hb0 (aj.2 ⟨_,w1 r 5,PV hl ?_⟩);rw[hlev];have hi:=ya x (12-m) p.1;have hsi:=hs _ hi;have hrp:=iZ (x:=x) (lev:=12-m) (c:=ck x (12-m) p.1) hr;have hnp:(part x (12-m) (ck x (12-m) p.1) l).length≤1000000:=bc mV hn;have hmp:p∈part x (12-m) (ck x (12-m) p.1) l↔p∈l:=by rw[mX];exact⟨fun h=>h.1,fun h=>⟨h,rfl⟩⟩
  have htp:=EH (x:=x) (lev:=12-m) (l:=l) (k:=p.1);have hturn:=fun{h':ad} {b':Nat} {s':Slots}=>O6 (W:=W) (x:=x) (h:=h2) (h':=h') (m:=m) (b':=b') (s:=s) (s':=s') (l:=l) (p:=p) hr
  generalize hc:ck x (12-m) p.1=c at hi hsi hrp hnp hmp htp hturn;generalize hlp:part x (12-m) c l=lc at hsi hrp hnp hmp htp hturn;refine AF nd0 hi fun h3 hu3=>?_
  have k4:=Upd.hnew No h3 [.string (⟨#[]⟩:ByteArray),.string (⟨#[]⟩:ByteArray)] af;have b4:=bZ h3 [.string (⟨#[]⟩:ByteArray),.string (⟨#[]⟩:ByteArray)] af;refine bq ?_;simp only[cJ h3];generalize hnew h3 [.string (⟨#[]⟩:ByteArray),.string (⟨#[]⟩:ByteArray)] af=h4 at k4 b4;have b4':h4[h3.size]? =some (.cells #[.string LQ.1,.string LQ.2] af (0,0)):=b4
  refine Dk (p:=Ro (s.p c)) b4' fun h5 b5 hu5=>?_
  have hu25:Upd No h2 h5:=(hu3.tr k4).trans hu5 fun y hy=>.inr (by have hy:y=h3.size:=hy;have:=hu3.size;omega)
  have w5:∀{h':ad},Upd No h5 h'→∀i,aS h' (adr ⟨h3.size,0,none⟩ i)=(#[.string (Ro (s.p c)).1,.string (Ro (s.p c)).2]:Array Value)[i]?:=fun k i=>by rw[ci,bh (k.get0 b5),aP]
  have r5:=Upd.refl No h5;have nd5:=nd0.upd hu25 fun _ h=>h.elim
  cases hsp:s.p c with
  |some y=>
   rw[hsp]at w5;obtain⟨hone,hk0⟩:lc= [y]∧s.k c=none:=by
    rcases hsi with⟨_,h2,_⟩|⟨q,h1,h2,h3⟩|⟨_,h2,_⟩
    ·rw[hsp]at h2;cases h2
    ·rw[hsp]at h2;cases h2;exact⟨h1,h3⟩
    ·rw[hsp]at h2;cases h2
   refine av.2 ⟨y.1,w5 r5 0,y.2,w5 r5 1,p.1,w2 hu25 0,p.2,w2 hu25 1,?_⟩;rw[gE,gE];have hyl:y∈l:=(mX.1 (show y∈part x (12-m) c l by rw[hlp,hone];exact aB.2 rfl)).1
   by_cases e1:y.1=p.1
   ·have ht:cx l p.1=true:=cr.2 ⟨y,hyl,decide_eq_true e1⟩
    rw[ht]at hk;by_cases e2:y.2=p.2
    ·rw[decide_eq_true e1,decide_eq_true e2]
     have hyp:y=p:=Prod.ext e1 e2;have hml:p∈l:=hyp▸hyl;refine av.2 ?_;exact hk h5 b false (k02.tr hu25) (by rw[Em hr hml];exact tt hu25) (fun _=>rfl) (by rw[decide_eq_true hml];rfl)
    ·rw[decide_eq_true e1,decide_eq_false e2]
     refine aj.2 ⟨y.1,w5 r5 0,p.1,w2 hu25 0,?_⟩;rw[gE,decide_eq_true e1];refine av.2 ⟨none,w1 hu25 3,p.1,w2 hu25 0,p.2,w2 hu25 1,?_⟩;refine qN nd5 (gW (k02.tr hu25)) hi (fun _ _=>hk0) p fun h6 b6 nd6 hu6=>?_
     have hnl:p∉l:=fun hm=>by
      have:=hmp.2 hm;rw[hone]at this;exact e2 (by rw[aB.1 this])
     refine hk h6 b6 true ((k02.tr hu25).tr hu6) (hturn (hu25.tr hu6) nd6 hs (fun c' hc'=>⟨fp hc',fp hc'⟩) ?_) (fun h=>by cases h) (by rw[decide_eq_false hnl];rfl)
     refine .inr (.inl ⟨p,?_,fV,fV⟩);rw[hone,fU,if_neg (by rw[e1];exact bW _),if_pos e1]
   ·rw[decide_eq_false e1]
    refine aj.2 ⟨y.1,w5 r5 0,p.1,w2 hu25 0,?_⟩;rw[gE,decide_eq_false e1];refine aj.2 ⟨none,w1 hu25 3,_,w1 hu25 0,_,w1 hu25 1,_,w1 hu25 2,_,w1 hu25 3,_,w1 hu25 4,_,w1 hu25 5,y.1,w5 r5 0,y.2,w5 r5 1,p.1,w2 hu25 0,p.2,w2 hu25 1,?_⟩;have ew:IntKind.wrap .i64 (((12-m:Nat):Int)+1)=((13-m:Nat):Int):=by rw[d8 (by omega)];omega
    rw[ew];refine Tx m y p (by omega) e1 (gW (k02.tr hu25)) fun h6 b6 t6 hu6=>⟨w1 (hu25.tr hu6) 3,?_⟩
    refine vm (nd5.upd hu6 fun _ h=>h.elim) (gW ((k02.tr hu25).tr hu6)) hi (fun z hz=>by rw[hk0]at hz;cases hz) ⟨b6,0,none⟩ fun h7 b7 nd7 hu7=>?_
    have ht:cx l p.1=false:=by
     rw[←htp,hone];unfold cx;rw[rA,decide_eq_false e1];rfl
    have hnl:p∉l:=fun hm=>by
     have:cx l p.1=true:=cr.2 ⟨p,hm,decide_eq_true rfl⟩;rw[ht]at this;cases this
    rw[ht]at hk;refine hk h7 b7 true (((k02.tr hu25).tr hu6).tr hu7) (hturn ((hu25.tr hu6).tr hu7) nd7 hs (fun c' hc'=>⟨fp hc',fp hc'⟩) ?_) (fun h=>by cases h) (by rw[decide_eq_false hnl];rfl)
    rw[hone];exact .inr (.inr ⟨by rw[N4 e1];omega,fV,b6,fV,TrieAt.upd0 hu7 t6⟩)
  |none=>
   refine aj.2 (wA nd5 hi ?_);cases hsk:s.k c with
   |none=>
    have hlc:lc= []:=by
     rcases hsi with⟨h1,_⟩|⟨q,_,h2,_⟩|⟨_,_,kb,h2,_⟩
     ·exact h1
     ·rw[hsp]at h2;cases h2
     ·rw[hsk]at h2;cases h2
    refine av.2 ⟨none,w1 hu25 3,p.1,w2 hu25 0,p.2,w2 hu25 1,?_⟩;refine qN nd5 (gW (k02.tr hu25)) hi (fun _ _=>hsk) p fun h6 b6 nd6 hu6=>?_
    have ht:cx l p.1=false:=by rw[←htp,hlc];rfl
    have hnl:p∉l:=fun hm=>by
     have:cx l p.1=true:=cr.2 ⟨p,hm,decide_eq_true rfl⟩;rw[ht]at this;cases this
    rw[ht]at hk;refine hk h6 b6 true ((k02.tr hu25).tr hu6) (hturn (hu25.tr hu6) nd6 hs (fun c' hc'=>⟨fp hc',fp hc'⟩) ?_) (fun h=>by cases h) (by rw[decide_eq_false hnl];rfl)
    rw[hlc];exact .inr (.inl ⟨p,rfl,fV,fV⟩)
   |some kp=>
    obtain⟨h2l,kb,rfl,tk⟩:2≤lc.length∧∃kb,kp=some ⟨kb,0,none⟩∧TrieAt W x h2 m kb lc:=by
     rcases hsi with⟨_,_,h2⟩|⟨q,_,h2,_⟩|⟨h1,_,kb,h2,h3⟩
     ·rw[hsk]at h2;cases h2
     ·rw[hsp]at h2;cases h2
     ·rw[hsk]at h2;cases h2;exact⟨h1,kb,rfl,h3⟩
    refine aj.2 ⟨_,w1 hu25 0,_,w1 hu25 1,_,w1 hu25 2,_,w1 hu25 3,_,w1 hu25 4,_,w1 hu25 5,p.1,w2 hu25 0,p.2,w2 hu25 1,?_⟩;have ew:IntKind.wrap .i64 (((12-m:Nat):Int)+1)=((13-m:Nat):Int):=by rw[d8 (by omega)];omega
    rw[ew];refine ih (by omega) p (TrieAt.upd0 hu25 tk) (gW (k02.tr hu25)) hrp hnp fun h6 b6 ch hu6 t6 hsame hch=>?_
    have hu26:=hu25.tr hu6;by_cases hml:p∈l
    ·have hch:ch=false:=by rw[hch,decide_eq_true (hmp.2 hml)];rfl
     have ht:cx l p.1=true:=cr.2 ⟨p,hml,decide_eq_true rfl⟩;rw[ht]at hk;rw[hch];refine av.2 ?_;exact hk h6 b false (k02.tr hu26) (by rw[Em hr hml];exact tt hu26) (fun _=>rfl) (by rw[decide_eq_true hml];rfl)
    ·have hch:ch=true:=by rw[hch,decide_eq_false fun h=>hml (hmp.1 h)];rfl
     rw[hch];refine aj.2 ⟨none,w1 hu26 3,?_⟩;refine vm (nd5.upd hu6 fun _ h=>h.elim) (gW ((k02.tr hu25).tr hu6)) hi (fun _ _=>hsp) ⟨b6,0,none⟩ fun h7 b7 nd7 hu7=>?_
     rw[htp];refine hk h7 b7 true ((k02.tr hu26).tr hu7) (hturn (hu26.tr hu7) nd7 hs (fun c' hc'=>⟨fp hc',fp hc'⟩) ?_) (fun h=>by cases h) (by rw[decide_eq_false hml];rfl)
     exact .inr (.inr ⟨bc h2l (KW p),fV,b6,fV,TrieAt.upd0 hu7 t6⟩)
end Go.Proofs
namespace Go.Proofs
open Go.Lift
theorem JP{W:Nat→Prop}{x:Hs}{h:ad}{m b:Nat}(nd:NodeAt W h b ⟨fun _=>none,fun _=>none⟩):TrieAt W x h (m+1) b []:=⟨_,nd,fun _ _=>.inl ⟨rfl,rfl,rfl⟩⟩
def RootAt(W:Nat→Prop)(x:Hs)(h:ad)(r:Option Addr)(l:List Pr):Prop:=(r=none∧l= [])∨∃b,r=some ⟨b,0,none⟩∧TrieAt W x h 13 b l
theorem RootAt.upd0{W:Nat→Prop}{x:Hs}{h h':ad}{r:Option Addr}{l:List Pr}(k:Upd No h h')(t:RootAt W x h r l):RootAt W x h' r l:=t.imp id fun⟨b,e,t⟩=>⟨b,e,TrieAt.upd0 k t⟩
theorem Ik{W:Nat→Prop}{x:Hs}{h:ad}{r:Option Addr}{l:List Pr}(t:RootAt W x h r l)(hW:∀y,W y→y<h.size){K:Option Addr→ad→Prop}(hk:∀h' b,TrieAt W x h' 13 b l→Upd No h h'→(r=some ⟨b,0,none⟩∨r=none)→K (some ⟨b,0,none⟩) h'):HC PG lB [.pointer r] [.c .ptr] K h:=by
 refine Ju r ?_;unfold BH;rcases t with⟨rfl,rfl⟩|⟨b,rfl,t⟩
 ·refine av.2 (yZ ?_)
  unfold vh;exact pX hW fun h' b nd hu=>hk h' b (JP nd) hu (.inr rfl)
 ·exact aj.2 (hk h b t (Upd.refl _ _) (.inl rfl))
theorem be{h:ad}{b:Nat}{t:TypeId}{c vs:List Value}(hb:h[b]? =some (.cells c.toArray t (0,0))) (hl:vs.length=c.length) {k:ad→Prop}
  (hk:∀h',h'[b]? =some (.cells vs.toArray t (0,0))→Upd (· =b) h h'→k h'):qE h (some ⟨b,0,none⟩) 0 vs∧At (fk h ⟨b,0,none⟩ 0 vs) k:=by
 have e:=jq vs h 0 0 c hb (by omega);refine⟨.inr ⟨_,rfl,fun j hj=>by rw[ci];exact iI hb (by rw[List.size_toArray];omega)⟩,bq ?_⟩
 rw[e];refine hk _ ?_ (Upd.set h _ rfl);rw[jg hb];congr 3
 simp[hl]
set_option maxRecDepth 4000 in
theorem Lk{W:Nat→Prop}{x:Hs}{h:ad}{r:Option Addr}{l:List Pr}(t:RootAt W x h r l)(hW:∀y,W y→y<h.size)(hr:bE l)(hn:l.length≤1000000)(p:Pr){K:Option Addr×Bool→ad→Prop}
  (hk:∀h' b',Upd No h h'→TrieAt W x h' 13 b' (gV p l)→(p∈l→r=some ⟨b',0,none⟩∨r=none)→K (some ⟨b',0,none⟩, !cx l p.1) h'):
  HC PG xY [.agg #[.int .u64 x.k0,.int .u64 x.k1,.int .u64 x.mask],.pointer none,.pointer r,.agg #[.string p.1,.string p.2]] [.c .ptr,.c .bool] K h:=by
 refine LF (x.k0,x.k1,x.mask) none r p ?_;unfold DW ae ax au cp Dm zm vp qF gC ug TX T9 zl;have k1:=Upd.hnew No h [.int .u64 x.k0,.int .u64 x.k1,.int .u64 x.mask] cC;have b1:=bZ h [.int .u64 x.k0,.int .u64 x.k1,.int .u64 x.mask] cC;refine bq ?_;simp only[cJ h];generalize hnew h [.int .u64 x.k0,.int .u64 x.k1,.int .u64 x.mask] cC=h1 at k1 b1
 have k2:=Upd.hnew No h1 [.string p.1,.string p.2] af;have b2:=bZ h1 [.string p.1,.string p.2] af;refine bq ?_;simp only[cJ h1];generalize hnew h1 [.string p.1,.string p.2] af=h2 at k2 b2;have w1:∀{h':ad},Upd No h2 h'→∀i,aS h' (adr ⟨h.size,0,none⟩ i)=(#[.int .u64 x.k0,.int .u64 x.k1,.int .u64 x.mask]:Array Value)[i]?:=fun k i=>by
  rw[ci,bh (k.get0 (k2.get0 b1)),aP]
 have w2:∀{h':ad},Upd No h2 h'→∀i,aS h' (adr ⟨h1.size,0,none⟩ i)=(#[.string p.1,.string p.2]:Array Value)[i]?:=fun k i=>by rw[ci,bh (k.get0 b2),aP]
 have r2:=Upd.refl No h2;have k02:=k1.tr k2;let c6:List Value:= [.int .u64 0,.int .u64 0,.int .u64 0,.pointer none,.string (⟨#[]⟩:ByteArray),.int .u64 0]
 let v6:List Value:= [.int .u64 x.k0,.int .u64 x.k1,.int .u64 x.mask,.pointer none,.string p.1,.int .u64 (gp x p.1)]
 have fin:∀{h4:ad} {b:Nat},Upd No h2 h4→h4[b]? =some (.cells v6.toArray cN (0,0))→
   ∃v15:Int,aS h4 (adr ⟨b,0,none⟩ 0)=some (.int .u64 v15)∧
    ∃v16:Int,aS h4 (adr ⟨b,0,none⟩ 1)=some (.int .u64 v16)∧
    ∃v17:Int,aS h4 (adr ⟨b,0,none⟩ 2)=some (.int .u64 v17)∧
    ∃v18:Option Addr,aS h4 (adr ⟨b,0,none⟩ 3)=some (.pointer v18)∧
    ∃v19:ByteArray,aS h4 (adr ⟨b,0,none⟩ 4)=some (.string v19)∧
    ∃v20:Int,aS h4 (adr ⟨b,0,none⟩ 5)=some (.int .u64 v20)∧
    ∃v21:ByteArray,aS h4 (adr ⟨h1.size,0,none⟩ 0)=some (.string v21)∧
    ∃v22:ByteArray,aS h4 (adr ⟨h1.size,0,none⟩ 1)=some (.string v22)∧
    HC PG lB [.pointer r] [.c .ptr] (fun(e23:Option Addr) h24=>
     ((aS h24 (adr ⟨h1.size,0,none⟩ 0)=some (.string v21)∧aS h24 (adr ⟨h1.size,0,none⟩ 1)=some (.string v22))∧
      ((aS h24 (adr ⟨b,0,none⟩ 0)=some (.int .u64 v15)∧aS h24 (adr ⟨b,0,none⟩ 1)=some (.int .u64 v16)∧aS h24 (adr ⟨b,0,none⟩ 2)=some (.int .u64 v17)∧aS h24 (adr ⟨b,0,none⟩ 3)=some (.pointer v18)∧aS h24 (adr ⟨b,0,none⟩ 4)=some (.string v19)∧aS h24 (adr ⟨b,0,none⟩ 5)=some (.int .u64 v20))∧
       HC PG jt [.agg #[.int .u64 v15,.int .u64 v16,.int .u64 v17,.pointer v18,.string v19,.int .u64 v20],.pointer e23,.agg #[.string v21,.string v22],.int .i64 0] [.c .ptr,.c .bool,.c .bool] (fun(e25:(Option Addr)×Bool×Bool) h26=>
        K (e25.1,e25.2.1) h26) h24))) h4:=fun{h4 b} hu4 hb4=>by
  have w4:∀{h':ad},Upd No h4 h'→∀i,aS h' (adr ⟨b,0,none⟩ i)=v6.toArray[i]?:=fun k i=>by rw[ci,bh (k.get0 hb4),aP]
  have r4:=Upd.refl No h4;refine⟨_,w4 r4 0,_,w4 r4 1,_,w4 r4 2,_,w4 r4 3,_,w4 r4 4,_,w4 r4 5,p.1,w2 hu4 0,p.2,w2 hu4 1,?_⟩;refine Ik (t.upd0 (k02.tr hu4)) (fun y hy=>aE (hW y hy) (k02.tr hu4).size) fun h5 b5 t5 hu5 hr5=>?_
  have hu25:=hu4.tr hu5;refine⟨⟨w2 hu25 0,w2 hu25 1⟩,⟨w4 hu5 0,w4 hu5 1,w4 hu5 2,w4 hu5 3,w4 hu5 4,w4 hu5 5⟩,?_⟩;refine Un 13 (aq _) p t5 (fun y hy=>aE (hW y hy) ((k02.tr hu4).tr hu5).size) hr hn fun h6 b6 ch hu6 t6 hs hch=>?_
  refine hk h6 b6 ((k02.tr hu25).tr hu6) t6 fun hm=>?_
  have hb:b6=b5:=hs (by rw[hch,decide_eq_true hm];rfl);rw[hb];exact hr5
 have own:∀{h3 h4:ad} {b:Nat},h2.size≤b→Upd (· =b) h3 h4→Upd No h2 h3→Upd No h2 h4:=fun hb hu k=>k.trans hu fun y hy=>.inr (hy▸hb)
 refine⟨_,w1 r2 0,_,w1 r2 1,_,w1 r2 2,_,w2 r2 0,_,w1 r2 0,_,w1 r2 1,_,w1 r2 2,_,w2 r2 0,?_,?_⟩
 ·refine yA fun h3 hu3=>⟨w2 hu3 0,⟨w1 hu3 0,w1 hu3 1,w1 hu3 2⟩,?_⟩
  have k4:=Upd.hnew No h3 c6 cN;have b4:=bZ h3 c6 cN;have hu4:=hu3.tr k4;refine bq ?_;simp only[cJ h3];refine⟨w2 hu4 0,⟨w1 hu4 0,w1 hu4 1,w1 hu4 2⟩,?_⟩;refine be (vs:=v6) b4 rfl fun h5 b5 hu5=>fin (own hu3.size hu5 hu4) b5
 ·have k4:=Upd.hnew No h2 c6 cN
  have b4:=bZ h2 c6 cN;refine bq ?_;simp only[cJ h2];refine⟨w2 k4 0,⟨w1 k4 0,w1 k4 1,w1 k4 2⟩,w2 k4 0,⟨w1 k4 0,w1 k4 1,w1 k4 2⟩,?_⟩;refine yA fun h5 hu5=>?_
  have hu25:=k4.tr hu5;refine⟨w2 hu25 0,⟨w1 hu25 0,w1 hu25 1,w1 hu25 2⟩,?_⟩;exact be (vs:=v6) (hu5.get0 b4) rfl fun h6 b6 hu6=>fin (own (aq _) hu6 hu25) b6
end Go.Proofs
namespace Go.Proofs
open Go.Lift
abbrev vj(b:UInt8):List Value:= [.int .u8 (b.toNat:Int)]
theorem Cv(b:UInt8):(vj b).length=1∧0<1:=⟨rfl,Nat.one_pos⟩
theorem Ej:∀xs:List UInt8,cz (xs.flatMap vj)=true
 | []=>rfl
 |x::xs=>by rw[aI];exact lw rfl (Ej xs)
theorem ur(s:ByteArray):eC s=s.data.toList.flatMap vj:=by
 unfold eC;generalize s.data.toList=l;induction l with
 |nil=>rfl
 |cons b l ih=>rw[eP,aI,ih];rfl
theorem vG{M:Nat→Prop}{h:ad}{so:SliceV}{out:List UInt8}{v:Int}{b:UInt8}(hv:v=(b.toNat:Int)){K:SliceV→ad→Prop}(ho:OwnS vj 1 fq M h so out)(hM:∀b,h.size≤b→M b)(hn:out.length+1≤140737488355328)
  (hk:∀s' h',OwnS vj 1 fq M h' s' (out++ [b])→Upd M h h'→K s' h'):
  ∃xs,SRow (hnew h [.int .u8 v] fq) (some (ag h)) (1*1) xs∧AppP (some [.int .u8 0]) 1 1 fq so.a so.len so.cap 1 xs (hnew h [.int .u8 v] fq) K:=by
 subst hv;have k:=Upd.hnew No h [.int .u8 (b.toNat:Int)] fq;have h1:OwnS vj 1 fq (fun _=>True) (hnew h [.int .u8 (b.toNat:Int)] fq) ⟨some (ag h),1,1⟩ [b]:=⟨rfl,Cv,aq _,.inr ⟨h.size,[],rfl,trivial,bZ ..,rfl⟩⟩
 refine⟨_,(h1.sl (W:=No) fun _ _ _ h=>h).srow,?_⟩
 refine AppP.own (ys:= [b]) (ho.upd k fun _ _ h=>h) rfl rfl rfl rfl (by omega) (by simp only[aR];omega) (hM _ (by rw[iS];omega)) fun s' h' ho' hu=>?_
 exact hk s' h' ho' ((Upd.hnew M h _ _).tr hu)
def qT(n k:Nat):List UInt8:=(gf k).map fun i=>hH (n>>>(8*i))
theorem yz(n k:Nat):qT n (k+1)=qT n k++ [hH (n>>>(8*k))]:=by unfold qT;rw[l7,dA];rfl
theorem gj(n k:Nat):(qT n k).length=k:=by simp[qT]
theorem MS{M:Nat→Prop}{h:ad}{s:SliceV}{xs:List UInt8}(ho:OwnS vj 1 fq M h s xs)(hM:∀b,h.size≤b→M b){n k:Nat}(hn:n<18446744073709551616)(hk8:k≤8)(hl:xs.length+k≤140737488355328){K:SliceV→ad→Prop}
  (hk:∀s' h',OwnS vj 1 fq M h' s' (xs++qT n k)→Upd M h h'→K s' h'):HC PG na [.slice s.a s.len s.cap,.int .u64 n,.int .i64 k] [.c .slice] K h:=by
 refine DD s n k ?_;unfold yh;refine LoopP.ghost (fun(i:Nat) (t:SliceV×Int) h'=>t.2=(i:Int)∧i≤k∧OwnS vj 1 fq M h' t.1 (xs++qT n i)∧Upd M h h') (fun i=>k-i) 0 ⟨rfl,bw _,by simpa[qT]using ho,Upd.refl _ _⟩ ?_
 rintro I i ⟨so,ti⟩ h' ⟨e1,hi,ho',hu⟩ hI;simp only at e1 ho';subst e1;refine aA (fun hlt=>?_) fun hge=>?_
 ·have hlt:i<k:=by have:(i:Int)<(k:Int):=hlt;omega
  have e8:IntKind.wrap .i64 (8*(i:Int))=((8*i:Nat):Int):=by rw[d8 (by omega)];omega
  have em:min (((8*i:Nat):Int)).toNat (IntKind.bits .u64)=8*i:=by rw[aX];exact bF (by show 8*i≤64;omega)
  refine Join.plain ?_;simp only[Bd];rw[e8,em,m9];refine⟨by omega,bq ?_⟩;refine vG (b:=hH (n>>>(8*i))) ?_ ho' (fun b hb=>hM b (bc hu.size hb)) (by rw[ac,gj];omega) fun s2 h2 ho2 hu2=>?_
  ·rw[IntKind.wrap_u8];simp
  ·rw[gR hlt (by omega)]
   refine hI (i+1) _ _ ⟨rfl,hlt,?_,hu.tr hu2⟩ (by omega);rw[yz,←al];exact ho2
 ·have hik:i=k:=by have:¬(i:Int)<(k:Int):=hge;omega
  subst hik;exact hk _ _ ho' hu
end Go.Proofs
namespace Go.Proofs
open Go Go.Lift
theorem R8{α:Type}{f:α→List Value}{sz bytes:Nat}{t:TypeId}{W:Nat→Prop}{h:ad}{base:Option Addr}{sl sc xl:Nat}{xs ys:List α}{ysv z:List Value}{K:SliceV→ad→Prop}
  (hs:Sl f sz W h ⟨base,sl,sc⟩ xs)(hxl:xl=ys.length)(hys:ysv=ys.flatMap f)(hz:z.length=sz)(hb:0<bytes)(hout:sc<sl+xl)(hfit:(xs.length+ys.length)*bytes≤140737488355328)
  (hk:∀s' h',OwnS f sz t (fun b=>h.size≤b) h' s' (xs++ys)→Upd No h h'→K s' h'):AppP (some z) sz bytes t base sl sc xl ysv h K:=by
 have hlen:sl=xs.length:=hs.len;subst hxl hys;refine⟨fun hin=>by omega,fun _=>?_⟩
 refine⟨xs.flatMap f,z,hs.srow,rfl,hb,Go.growslice_fits hout (by rw[hlen];exact hfit),fun nc hnc=>?_⟩
 refine hk _ _ ⟨by simp[hlen],hs.ne,hnc,.inr ⟨h.size,dQ (nc-(sl+ys.length)) z,rfl,aq _,?_,?_⟩⟩ (Upd.hnew No h _ _)
 ·rw[bZ,bO]
 ·rw[mL,hz]
theorem Tg{h:ad}{s:SliceV}{xs:List UInt8}(hs:Sl vj 1 No h s xs)(hc:s.cap=s.len){n k:Nat}(hk8:k≤8)(hk0:0<k)(hl:xs.length+k≤140737488355328){K:SliceV→ad→Prop}
  (hk:∀s' h',OwnS vj 1 fq (fun b=>h.size≤b) h' s' (xs++qT n k)→Upd No h h'→K s' h'):HC PG na [.slice s.a s.len s.cap,.int .u64 n,.int .i64 k] [.c .slice] K h:=by
 refine DD s n k ?_;unfold yh;refine LoopP.ghost (fun(i:Nat) (t:SliceV×Int) h'=>t.2=(i:Int)∧i≤k∧((i=0∧t.1=s∧h'=h)∨OwnS vj 1 fq (fun b=>h.size≤b) h' t.1 (xs++qT n i))∧Upd No h h') (fun i=>k-i) 0 ⟨rfl,bw _,.inl ⟨rfl,rfl,rfl⟩,Upd.refl _ _⟩ ?_
 rintro I i ⟨so,ti⟩ h' ⟨e1,hi,ho',hu⟩ hI;simp only at e1 ho';subst e1;refine aA (fun hlt=>?_) fun hge=>?_
 ·have hlt:i<k:=by have:(i:Int)<(k:Int):=hlt;omega
  have e8:IntKind.wrap .i64 (8*(i:Int))=((8*i:Nat):Int):=by rw[d8 (by omega)];omega
  have em:min (((8*i:Nat):Int)).toNat (IntKind.bits .u64)=8*i:=by rw[aX];exact bF (by show 8*i≤64;omega)
  refine Join.plain ?_;simp only[Bd];rw[e8,em,m9];refine⟨by omega,bq ?_⟩;have ev:IntKind.wrap .u8 ((n>>>(8*i):Nat):Int)=((hH (n>>>(8*i))).toNat:Int):=by rw[IntKind.wrap_u8];simp
  rcases ho' with⟨rfl,rfl,rfl⟩|ho'
  ·rw[ev]
   have k1:=Upd.hnew No h' [.int .u8 ((hH (n>>>(8*0))).toNat:Int)] fq;have h1:OwnS vj 1 fq (fun _=>True) (hnew h' [.int .u8 ((hH (n>>>(8*0))).toNat:Int)] fq) ⟨some (ag h'),1,1⟩ [hH (n>>>(8*0))]:=⟨rfl,Cv,aq _,.inr ⟨h'.size,[],rfl,trivial,bZ ..,rfl⟩⟩
   refine⟨_,(h1.sl (W:=No) fun _ _ _ h=>h).srow,?_⟩
   refine R8 (ys:= [hH (n>>>(8*0))]) (hs.upd k1 fun _ h=>h.elim) rfl rfl rfl (by omega) (by omega) (by simp only[aR];omega) fun s2 h2 ho2 hu2=>?_
   rw[gR hlt (by omega)];refine hI 1 _ _ ⟨rfl,hlt,.inr ?_,k1.tr hu2⟩ (by omega);exact ho2.more fun b hb=>bc k1.size hb
  ·refine vG ev ho' (fun b hb=>bc hu.size hb) (by rw[ac,gj];omega) fun s2 h2 ho2 hu2=>?_
   rw[gR hlt (by omega)];refine hI (i+1) _ _ ⟨rfl,hlt,.inr ?_,hu.trans hu2 fun b hb=>.inr hb⟩ (by omega)
   rw[yz,←al];exact ho2
 ·have hik:i=k:=by have:¬(i:Int)<(k:Int):=hge;omega
  subst hik;rcases ho' with⟨e,_⟩|ho'
  ·omega
  ·exact hk _ _ ho' hu
def xa(s:ByteArray):List UInt8:=qT s.size 2++s.data.toList
theorem Eg{W:Nat→Prop}{h:ad}{s:SliceV}{xs:List UInt8}(hs:Sl vj 1 W h s xs)(hc:s.len≤s.cap)(b:ByteArray)(hb:b.size≤1000000)(hl:xs.length+2+b.size≤140737488355328){K:SliceV→ad→Prop}
  (hk:∀s' h',OwnS vj 1 fq (fun x=>h.size≤x) h' s' (xs++xa b)→Upd No h h'→K s' h'):HC PG nA [.slice s.a s.len s.cap,.string b] [.c .slice] K h:=by
 refine Jm s b ?_;unfold Bz;have hlen:=hs.len;refine⟨by omega,by omega,?_⟩
 simp only[aX];have hs1:Sl vj 1 No h ⟨aW s.a 0 s.len 1,s.len-0,s.len-0⟩ xs:=by
  have:=Sl.sub (hs.less (W':=No) fun _ h=>h.elim) (l:=0) (hi:=s.len) (m:=s.len) (c:=s.len-0) (bw _) (by omega) (aq _)
  rw[List.drop_zero,bm (by omega)]at this;exact this
 have ew:IntKind.wrap .u64 (b.size:Int)=(b.size:Int):=Go.IntWalk.u64_in _ (by omega);rw[ew];refine Tg hs1 rfl (n:=b.size) (k:=2) (by omega) (by omega) (by omega) fun s2 h2 ho2 hu2=>?_
 refine AppP.own (ys:=b.data.toList) ho2 (by simp) (ur b) (by rw[ur];exact Ej _) rfl (by omega) ?_ hu2.size fun s3 h3 ho3 hu3=>?_
 ·simp only[ac,gj]
  have:b.data.toList.length=b.size:=by simp
  omega
 ·refine hk s3 h3 ?_ (hu2.trans hu3 fun x hx=>.inr hx)
  rw[xa,←al];exact ho3
end Go.Proofs
namespace Go.Proofs
open Go Go.Lift
def E9(p:Pr):List UInt8:=xa p.1++xa p.2
def oc(l:List Pr):List UInt8:=l.flatMap E9
theorem kM(b:ByteArray):(xa b).length=2+b.size:=by simp[xa,gj]
def Fit(l:List Pr):Prop:=∀p∈l,p.1.size≤10000∧p.2.size≤10000
theorem Pv{p:Pr}(h:p.1.size≤10000∧p.2.size≤10000):(E9 p).length≤20004:=by
 unfold E9;rw[ac,kM,kM];omega
theorem tc:∀{l:List Pr},Fit l→(oc l).length≤l.length*20004
 | [],_=>by simp[oc]
 |p::l,h=>by
  have h1:=Pv (h p (ao ..));have h2:=tc (l:=l) fun q hq=>h q (aC _ hq)
  unfold oc at*;rw[aI,ac,ak];omega
theorem Kw{l:List Pr}{i:Nat}(hi:i<l.length):oc (l.take (i+1))=oc (l.take i)++E9 l[i]:=by
 unfold oc;rw[List.take_succ_eq_append_getElem hi,bO,aI,List.flatMap_nil,List.append_nil]
theorem EW{M W:Nat→Prop}{h:ad}{s sp:SliceV}{xs:List UInt8}{l:List Pr}(ho:OwnS vj 1 fq M h s xs)(hM:∀b,h.size≤b→M b)(hs:Sl eu 2 W h sp l)(hW:∀x,M x→x<h.size→W x)(hf:Fit l)(hn:l.length≤1000000)(hl:xs.length+l.length*20004≤140737488355328){K:SliceV→ad→Prop}
  (hk:∀s' h',OwnS vj 1 fq M h' s' (xs++oc l)→Upd M h h'→K s' h'):HC PG rt [.slice s.a s.len s.cap,.slice sp.a sp.len sp.cap] [.c .slice] K h:=by
 refine GI s sp ?_;unfold y6 cj aD au nv nZ jH qJ;have hlen:=hs.len;have hMW:∀b,M b→W b∨h.size≤b:=fun b hb=>by
  rcases Nat.lt_or_ge b h.size with hx|hx
  ·exact .inl (hW b hb hx)
  ·exact .inr hx
 refine LoopP.ghost (fun(i:Nat) (t:SliceV×Int) h'=>t.2=(i:Int)∧i≤l.length∧OwnS vj 1 fq M h' t.1 (xs++oc (l.take i))∧Upd M h h') (fun i=>l.length-i) 0 ⟨rfl,bw _,by simpa[oc]using ho,Upd.refl _ _⟩ ?_
 rintro I i ⟨so,ti⟩ h' ⟨e1,hi,ho',hu⟩ hI;simp only at e1 ho';subst e1;refine aA (fun hlt=>?_) fun hge=>?_
 ·have hlt:i<l.length:=by have:(i:Int)<(sp.len:Int):=hlt;omega
  obtain⟨a,ha,_,hv⟩:=(hs.upd hu hMW).at (List.getElem?_eq_getElem hlt);have hfi:=hf l[i] (List.getElem_mem hlt);have htl:=tc (l:=l.take i) fun q hq=>hf q (List.mem_of_mem_take hq)
  rw[List.length_take,bF hi]at htl;have k1:=Upd.hnew No h' [.string (⟨#[]⟩:ByteArray),.string (⟨#[]⟩:ByteArray)] af;have b1:=bZ h' [.string (⟨#[]⟩:ByteArray),.string (⟨#[]⟩:ByteArray)] af;refine⟨by simp only;omega,a,ha,l[i].1,hv 0 _ rfl,l[i].2,hv 1 _ rfl,bq ?_⟩;simp only[cJ h'];generalize hnew h' [.string (⟨#[]⟩:ByteArray),.string (⟨#[]⟩:ByteArray)] af=h1 at k1 b1
  have b1':h1[h'.size]? =some (.cells #[.string LQ.1,.string LQ.2] af (0,0)):=b1;refine Dk (p:=l[i]) b1' fun h2 b2 hu2=>?_
  have hu12:Upd No h' h2:=k1.trans hu2 fun x hx=>.inr (eI hx.symm)
  have ho2:=ho'.upd hu12 fun _ _ h=>h
  refine⟨l[i].1,by rw[ci,bh b2];rfl,l[i].2,by rw[ci,bh b2];rfl,?_⟩
  have hmul:i*20004+20004≤l.length*20004:=by rw[←Nat.succ_mul];exact dN _ hlt
  refine Eg (W:=No) (ho2.sl fun _ _ _ h=>h) ho2.cap l[i].1 (by omega) (by rw[ac];omega) fun s3 h3 ho3 hu3=>⟨by rw[ci,bh (hu3.get0 b2)];rfl,?_⟩
  refine Eg (W:=No) (ho3.sl fun _ _ _ h=>h) ho3.cap l[i].2 (by omega) (by rw[ac,ac,kM];omega) fun s4 h4 ho4 hu4=>?_
  have hu04:Upd M h h4:=hu.tr ((hu12.tr (hu3.tr hu4)).wide);rw[gR hlt (by omega)];refine hI (i+1) _ _ ⟨rfl,hlt,?_,hu04⟩ (by omega);rw[Kw hlt,E9,←al,←al];exact ho4.more fun b hb=>hM b (bc (hu.tr ((hu12.tr hu3).wide)).size hb)
 ·have hil:i=l.length:=by have:¬(i:Int)<(sp.len:Int):=hge;omega
  rw[bm (by omega)]at ho';exact hk _ _ ho' hu
end Go.Proofs
namespace Go.Proofs
open Go Go.Lift
def qh(q:Nat→Bool):Nat→Nat
 |0=>0
 |n+1=>qh q n+(if q n then 2^n else 0)
theorem tG(q:Nat→Bool):∀n,qh q n<2^n
 |0=>by simp[qh]
 |n+1=>by
  have:=tG q n;unfold qh;rw[Nat.pow_succ];split<;>omega
theorem Cy(q:Nat→Bool)(c:Nat):∀n,(qh q n).testBit c=(decide (c<n)&&q c)
 |0=>by simp[qh]
 |n+1=>by
  have hlt:=tG q n;have ih:=Cy q c n;unfold qh;by_cases hq:q n=true
  ·rw[if_pos hq,Nat.add_comm]
   rcases Nat.lt_trichotomy c n with h|h|h
   ·rw[Nat.testBit_two_pow_add_gt h,ih,decide_eq_true h,decide_eq_true (by omega)]
   ·subst h
    rw[Nat.testBit_two_pow_add_eq,gL hlt,decide_eq_true (by omega),hq];rfl
   ·have h1:2^n+qh q n<2^c:=aE (by rw[Nat.pow_succ];omega:2^n+qh q n<2^(n+1)) (kh (by omega) h)
    rw[gL h1,decide_eq_false (by omega)];rfl
  ·rw[if_neg hq,gM,ih]
   by_cases h:c<n
   ·rw[decide_eq_true h,decide_eq_true (by omega)]
   ·by_cases e:c=n
    ·subst e;have:q c=false:=by simpa using hq
     rw[this];simp
    ·rw[decide_eq_false h,decide_eq_false (by omega)]
theorem HX{d:Nat}{q:Nat→Bool}(hd:d<4294967296)(h:∀c,c<32→d.testBit c=q c):d=qh q 32:=by
 refine Nat.eq_of_testBit_eq fun c=>?_
 rw[Cy];by_cases hc:c<32
 ·rw[h c hc,decide_eq_true hc];rfl
 ·rw[decide_eq_false hc,gL (aE hd (kh (n:=2) (by omega) (show 32≤c by omega)))];rfl
end Go.Proofs
namespace Go.Proofs
open Go Go.Lift
def xp(l:List Pr):Option Pr:=match l with| [p]=>some p|_=>none
def sI(l:List Pr):Option (List Pr):=if 2≤l.length then some l else none
def kN(x:Hs)(lev:Nat)(l:List Pr):List Pr:=fm (fun c=>xp (part x lev c l)) 32
def pH(x:Hs)(lev:Nat)(l:List Pr):List (List Pr):=fm (fun c=>sI (part x lev c l)) 32
def lq(x:Hs):Nat→List Pr→List UInt8
 |0,l=>1::(qT l.length 2++oc l)
 |m+1,l=>0::(qT (qh (fun c=>(xp (part x (12-m) c l)).isSome) 32) 4++(qT (qh (fun c=>(sI (part x (12-m) c l)).isSome) 32) 4++(oc (kN x (12-m) l)++(pH x (12-m) l).flatMap (lq x m))))
theorem Mf{W:Nat→Prop}{x:Hs}{h:ad}{m:Nat}{s:Slots}{c:Nat}{l:List Pr}(t:SlotIs W x h m s c l):s.p c=xp l∧(s.k c).isSome=(sI l).isSome:=by
 rcases t with⟨rfl,h1,h2⟩|⟨p,rfl,h1,h2⟩|⟨h0,h1,kb,h2,_⟩
 ·rw[h1,h2];exact⟨rfl,rfl⟩
 ·rw[h1,h2];exact⟨rfl,rfl⟩
 ·rw[h1,h2]
  refine⟨?_,by simp[sI,h0]⟩
  match l,h0 with
  |a::b::l,_=>rfl
def KidsAt(W:Nat→Prop)(x:Hs)(h:ad)(m:Nat):List (Option Addr)→List (List Pr)→Prop
 | [],[]=>True
 |k::ks,l::ls=>(∃kb,k=some ⟨kb,0,none⟩∧TrieAt W x h m kb l)∧KidsAt W x h m ks ls
 |_,_=>False
theorem KidsAt.app{W:Nat→Prop}{x:Hs}{h:ad}{m:Nat}:∀{ks ks':List (Option Addr)} {ls ls':List (List Pr)},KidsAt W x h m ks ls→KidsAt W x h m ks' ls'→KidsAt W x h m (ks++ks') (ls++ls')
 | [],_,[],_,_,q=>q
 |_::_,_,_::_,_,q,q'=>⟨q.1,KidsAt.app q.2 q'⟩
 | [],_,_::_,_,q,_=>q.elim
 |_::_,_,[],_,q,_=>q.elim
theorem sK{β:Type}(g:Nat→Option β)(n:Nat):fm g (n+1)=fm g n++(g n).toList:=by
 unfold fm;rw[l7,List.filterMap_append];cases h:g n<;>simp[h]
theorem MY{W:Nat→Prop}{x:Hs}{h:ad}{m lev:Nat}{s:Slots}{l:List Pr}:∀n,(∀c,c<n→SlotIs W x h m s c (part x lev c l))→KidsAt W x h m (fm s.k n) (fm (fun c=>sI (part x lev c l)) n)
 |0,_=>trivial
 |n+1,hs=>by
  rw[sK,sK];refine KidsAt.app (MY n fun c hc=>hs c (by omega)) ?_
  rcases hs n (by omega)with⟨h0,_,h2⟩|⟨p,h0,_,h2⟩|⟨h0,_,kb,h2,h3⟩
  ·rw[h2,h0];exact trivial
  ·rw[h2,h0];exact trivial
  ·rw[h2]
   have:sI (part x lev n l)=some (part x lev n l):=by unfold sI;rw[if_pos h0]
   simp only[this];exact⟨⟨kb,rfl,h3⟩,trivial⟩
theorem Il{W:Nat→Prop}{x:Hs}{h:ad}{m lev:Nat}{s:Slots}{l:List Pr}(hs:∀c,c<32→SlotIs W x h m s c (part x lev c l)):fm s.p 32=kN x lev l:=
 Vo _ fun c hc=>(Mf (hs c (List.mem_range.1 hc))).1
end Go.Proofs
namespace Go.Proofs
open Go Go.Lift
theorem yw(x:Hs)(lev:Nat)(l:List Pr):∀n,(((gf n).map fun c=>(part x lev c l).length).sum)=(l.filter fun p=>decide (ck x lev p.1<n)).length
 |0=>by
  have:(l.filter fun p=>decide (ck x lev p.1<0))= []:=qw.2 fun p _=>by simp
  rw[this];rfl
 |n+1=>by
  rw[l7,dA,su,yw x lev l n];simp only[eP,ji,List.sum_cons,List.sum_nil,gM];unfold part;clear yw;induction l with
  |nil=>rfl
  |cons p l ih=>
   simp only[bJ,decide_eq_true_iff];split<;>split<;>split<;>first|omega|(simp only[ak];omega)
theorem yp(x:Hs)(lev:Nat)(l:List Pr):(kN x lev l).length+(pH x lev l).flatten.length≤l.length:=by
 have h:=yw x lev l 32;have hle:(l.filter fun p=>decide (ck x lev p.1<32)).length≤l.length:=eT ..
 have:∀n,(fm (fun c=>xp (part x lev c l)) n).length+(fm (fun c=>sI (part x lev c l)) n).flatten.length≤((gf n).map fun c=>(part x lev c l).length).sum:=by
  intro n;induction n with
  |zero=>simp[fm]
  |succ n ih=>
   rw[sK,sK,l7,dA,su];simp only[ac,List.flatten_append,eP,ji,List.sum_cons,List.sum_nil,gM];generalize part x lev n l=q;have:(xp q).toList.length+(sI q).toList.flatten.length≤q.length:=by
    match q with
    | []=>simp[xp,sI]
    | [a]=>simp[xp,sI]
    |a::b::q=>simp[xp,sI]
   omega
 have:=this 32;unfold kN pH;omega
end Go.Proofs
namespace Go.Proofs
open Go Go.Lift
theorem sQ{x:Hs}{lev:Nat}{l:List Pr}{p:Pr}(h:p∈kN x lev l):p∈l:=by
 unfold kN fm at h;obtain⟨c,_,hc⟩:=pz.1 h;unfold xp at hc;split at hc
 ·rename_i q hq
  cases hc;have:p∈part x lev c l:=by rw[hq];exact aB.2 rfl
  exact(mX.1 this).1
 ·cases hc
theorem qR{x:Hs}{lev:Nat}{l L:List Pr}(h:L∈pH x lev l):2≤L.length∧∃c,L=part x lev c l:=by
 unfold pH fm at h;obtain⟨c,_,hc⟩:=pz.1 h;unfold sI at hc;split at hc
 ·cases hc;exact⟨by assumption,c,rfl⟩
 ·cases hc
theorem Fit.part{x:Hs}{lev c:Nat}{l:List Pr}(h:Fit l):Fit (part x lev c l):=fun p hp=>h p (mX.1 hp).1
theorem Ih{B:Nat}{f:List Pr→List UInt8}:∀{ls:List (List Pr)},(∀L∈ls,2≤L.length∧(f L).length≤9+L.length*B)→(ls.flatMap f).length≤ls.flatten.length*(B+9)
 | [],_=>by simp
 |L::ls,h=>by
  have h1:=h L (ao ..);have h2:=Ih (ls:=ls) fun M hM=>h M (aC _ hM)
  rw[aI,ac,List.flatten_cons,ac,ni];have:L.length*(B+9)=L.length*B+L.length*9:=Nat.mul_add ..;omega
theorem wg{x:Hs}:∀(m:Nat) {l:List Pr},Fit l→(lq x m l).length≤9+l.length*(20004+9*(m+1))
 |0,l,h=>by
  have:=tc h;unfold lq;rw[ak,ac,gj];have:l.length*20004≤l.length*(20004+9*(0+1)):=gS _ (by omega);omega
 |m+1,l,h=>by
  have h1:=tc (l:=kN x (12-m) l) fun p hp=>h p (sQ hp)
  have h2:=Ih (f:=lq x m) (ls:=pH x (12-m) l) (B:=20004+9*(m+1)) fun L hL=>by
   obtain⟨h3,c,rfl⟩:=qR hL;exact⟨h3,wg m h.part⟩
  have h4:=yp x (12-m) l;unfold lq;rw[ak,ac,ac,ac,gj,gj];have h5:(kN x (12-m) l).length*20004≤(kN x (12-m) l).length*(20004+9*(m+1+1)):=gS _ (by omega);have h6:((kN x (12-m) l).length+(pH x (12-m) l).flatten.length)*(20004+9*(m+1+1))≤l.length*(20004+9*(m+1+1)):=dN _ h4;rw[ni]at h6
  have h7:20004+9*(m+1)+9=20004+9*(m+1+1):=by omega
  rw[h7]at h2;omega
end Go.Proofs
