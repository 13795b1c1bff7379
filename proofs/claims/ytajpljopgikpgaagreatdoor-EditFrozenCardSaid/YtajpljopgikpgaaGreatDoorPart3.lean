/- A part of the proof that the named laws of this program answer true, whatever the input. -/
import Derived.Test.YtajpljopgikpgaaGreatDoorPart2
import Derived.Test.YtajpljopgikpgaaGreatDoorPart1
open Array renaming toList_inj→gS
open Bool renaming true_and→tS
open ByteArray renaming mk→jE,data_extract→ph
open Int renaming toNat_natCast→aO
open List renaming range→cQ,range_succ→gz,map_append→cR,sum_append→jn,map_cons→fG,map_nil→mX,sum_cons→p8,sum_nil→vE,length_cons→aV,length_append→af,flatten_append→dW,mem_singleton→au,mem_cons_self→aE,mem_cons_of_mem→aX,flatMap_cons→aY,flatten_cons→eN,length_nil→cB,length_singleton→aK,append_assoc→aw,getElem?_cons_succ→dD,getElem_mem→aP,mem_of_mem_take→g7,cons_append→cY,append_inj→qJ,cons→fA,pairwise_cons→bB,mem_cons→aA,zip_cons_cons→iZ,length_take→aU,zip_eq_zipWith→ng,length_drop→aW,set_eq_take_append_cons_drop→dG,getElem?_eq_getElem→ag,extract_eq_take_drop→gC,getElem?_cons_zero→ce,length_eq_zero_iff→bU,mem_of_getElem?→az,getElem?_append_left→cq,getElem?_take→om,getElem?_append_right→dZ,getElem?_drop→oo,getElem?_set→eM
open Nat renaming add_zero→cX,add_mul→jD,mul_le_mul_left→jP,mul_le_mul_right→ci,le_trans→bv,not_lt_zero→ij,zero_le→bo,le_refl→ao,shiftRight_eq_div_pow→cE,mod_eq_of_lt→dw,lt_or_ge→bK,zero_add→aL,le_of_eq→iA,min_eq_left→bC
open Option renaming some→bF
namespace Go.Proofs
open Go Go.Lift
theorem rl(x:Hs)(lev:Nat)(l:List Pr):∀n,(((cQ n).map fun c=>(part x lev c l).length).sum)=(l.filter fun p=>decide (ck x lev p.1<n)).length
 |0=>by
  have:(l.filter fun p=>decide (ck x lev p.1<0))= []:=List.filter_eq_nil_iff.2 fun p _=>by simp
  rw[this];rfl
 |n+1=>by
  rw[gz,cR,jn,rl x lev l n];simp only[fG,mX,p8,vE,cX];unfold part;clear rl;induction l with
  |nil=>rfl
  |cons p l ih=>
   simp only[List.filter_cons,decide_eq_true_iff];split<;>split<;>split<;>first|omega|(simp only[aV];omega)
theorem Bt(x:Hs)(lev:Nat)(l:List Pr):(fS x lev l).length+(jJ x lev l).flatten.length≤l.length:=by
 have h:=rl x lev l 32;have d:(l.filter fun p=>decide (ck x lev p.1<32)).length≤l.length:=List.length_filter_le ..
 have:∀n,(fm (fun c=>gI (part x lev c l)) n).length+(fm (fun c=>eJ (part x lev c l)) n).flatten.length≤((cQ n).map fun c=>(part x lev c l).length).sum:=by
  intro n;induction n with
  |zero=>simp[fm]
  |succ n ih=>
   rw[gg,gg,gz,cR,jn];simp only[af,dW,fG,mX,p8,vE,cX];generalize part x lev n l=q;have:(gI q).toList.length+(eJ q).toList.flatten.length≤q.length:=by
    match q with
    | []=>simp[gI,eJ]
    | [a]=>simp[gI,eJ]
    |a::b::q=>simp[gI,eJ]
   omega
 have:=this 32;unfold fS jJ;omega
end Go.Proofs
namespace Go.Proofs
open Go Go.Lift
theorem rp{x:Hs}{lev:Nat}{l:List Pr}{p:Pr}(h:p∈fS x lev l):p∈l:=by
 unfold fS fm at h;obtain⟨c,_,hc⟩:=List.mem_filterMap.1 h;unfold gI at hc;split at hc
 ·rename_i q hq
  cases hc;have:p∈part x lev c l:=by rw[hq];exact au.2 rfl
  exact(nq.1 this).1
 ·cases hc
theorem pC{x:Hs}{lev:Nat}{l L:List Pr}(h:L∈jJ x lev l):2≤L.length∧∃c,L=part x lev c l:=by
 unfold jJ fm at h;obtain⟨c,_,hc⟩:=List.mem_filterMap.1 h;unfold eJ at hc;split at hc
 ·cases hc;exact⟨by assumption,c,rfl⟩
 ·cases hc
theorem Fit.part{x:Hs}{lev c:Nat}{l:List Pr}(h:Fit l):Fit (part x lev c l):=fun p a=>h p (nq.1 a).1
theorem Dr{B:Nat}{f:List Pr→List UInt8}:∀{ls:List (List Pr)},(∀L∈ls,2≤L.length∧(f L).length≤9+L.length*B)→(ls.flatMap f).length≤ls.flatten.length*(B+9)
 | [],_=>by simp
 |L::ls,h=>by
  have a:=h L (aE ..);have b:=Dr (ls:=ls) fun M hM=>h M (aX _ hM)
  rw[aY,af,eN,af,jD];have:L.length*(B+9)=L.length*B+L.length*9:=Nat.mul_add ..;omega
theorem nP{x:Hs}:∀(m:Nat) {l:List Pr},Fit l→(fg x m l).length≤9+l.length*(20004+9*(m+1))
 |0,l,h=>by
  have:=lY h;unfold fg;rw[aV,af,di];have:l.length*20004≤l.length*(20004+9*(0+1)):=jP _ (by omega);omega
 |m+1,l,h=>by
  have o:=lY (l:=fS x (12-m) l) fun p b=>h p (rp b)
  have j:=Dr (f:=fg x m) (ls:=jJ x (12-m) l) (B:=20004+9*(m+1)) fun L d=>by
   obtain⟨g,c,rfl⟩:=pC d;exact⟨g,nP m h.part⟩
  have a:=Bt x (12-m) l;unfold fg;rw[aV,af,af,af,di,di];have n:(fS x (12-m) l).length*20004≤(fS x (12-m) l).length*(20004+9*(m+1+1)):=jP _ (by omega);have k:((fS x (12-m) l).length+(jJ x (12-m) l).flatten.length)*(20004+9*(m+1+1))≤l.length*(20004+9*(m+1+1)):=ci _ a;rw[jD]at k
  have i:20004+9*(m+1)+9=20004+9*(m+1+1):=by omega
  rw[i]at j;omega
end Go.Proofs
namespace Go.Proofs
open Go Go.Lift
theorem L5{h:ad}{b d n:Nat}{sp sk:SliceV}{c:Bool}{ow:Option Addr}(a:h[b]? =some (.cells (fM d n sp sk c ow) bQ (0,0))) (g:sp.len+sk.len≤1000000000) {K:Int→ad→Prop} (f:K ((sp.len+sk.len:Nat):Int) h):HC PG kY [.pointer (some ⟨b,0,none⟩)] [.c (.int .i64)] K h:=by
 refine vQ _ ?_;unfold qF aM;refine aj.2 ⟨_,rfl,sp,eA (i:=2) a,_,rfl,sk,eA (i:=3) a,?_⟩;rw[oD (by omega)];exact_mod_cast f
def Bes(M:Nat→Prop)(h a:ad)(b:Nat):Prop:=M b∧(b<h.size∨a.size≤b)
theorem Bes.own{α:Type}{f:α→List Value}{sz:Nat}{t:TypeId}{M:Nat→Prop}{h a:ad}{s:SliceV}{xs:List α}(d:OwnS f sz t M h s xs)(c:Upd No h a):OwnS f sz t (Bes M h a) a s xs:=
 (d.within.upd c fun _ _ h=>h).more fun _ b=>⟨b.1,.inl b.2⟩
theorem Bes.sl{α:Type}{f:α→List Value}{sz:Nat}{t:TypeId}{M:Nat→Prop}{h a:ad}{s:SliceV}{xs:List α}(c:OwnS f sz t (fun x=>h.size≤x) a s xs):Sl f sz (Bes M h a) a s xs:=
 c.sl fun b g d hx=>by rcases hx.2 with h|h<;>omega
theorem Bes.hM{M:Nat→Prop}{h a:ad}(hM:∀b,h.size≤b→M b)(d:Upd No h a):∀b,a.size≤b→Bes M h a b:=fun b c=>⟨hM b (bv d.size c),.inr c⟩
theorem Qy{W:Nat→Prop}{x:Hs}:∀(m:Nat),m≤13→∀{b:Nat} {l:List Pr} {S h:ad} {M:Nat→Prop} {s:SliceV} {xs:List UInt8},TrieAt W x S m b l→Upd No S h→(∀y,M y→S.size≤y)→OwnS oz 1 cz M h s xs→(∀y,h.size≤y→M y)→Fit l→l.length≤60000→
  xs.length+(9+l.length*(20004+9*(m+1)))≤140737488355328→∀{K:SliceV→ad→Prop},(∀s' j,OwnS oz 1 cz M j s' (xs++fg x m l)→Upd M h j→K s' j)→
  HC PG sC [.slice s.a s.len s.cap,.pointer (some ⟨b,0,none⟩),.int .i64 ((13-m:Nat):Int)] [.c .slice] K h:=by
 intro m;induction m with
 |zero=>
  intro _ b l S h M s xs t hu0 hM0 ho hM hf hn hx K hk;refine CP s (some ⟨b,0,none⟩) ((13-0:Nat):Int) ?_;unfold xe bJ dH Jt OC SH;have st:∀{j},Upd M h j→Upd No S j:=fun k=>hu0.trans k fun y u=>.inr (hM0 y u)
  have bk:∀{j},Upd M h j→BuckAt W j b l:=fun k=>BuckAt.upd t (st k) fun _ h=>h.elim
  have z:∀{j},Upd M h j→∀y,j.size≤y→M y:=fun k y u=>hM y (bv k.size u)
  obtain⟨sp,sk,ow,hb,_⟩:=(bk (Upd.refl M h)).ex;refine gt hb (ay.2 (bV ?_));refine ul (b:=1) rfl ho hM (by omega) fun s1 h1 H o=>?_
  obtain⟨sp1,sk1,ow1,Q,O,hsk1,_⟩:=(bk o).ex;have e1:=O.len;have e2:=hsk1.len;rw[cB]at e2;refine L5 Q (by omega) ?_;have ew:IntKind.wrap .u64 ((sp1.len+sk1.len:Nat):Int)=((l.length:Nat):Int):=by rw[Go.IntWalk.u64_in _ (by omega)];omega
  rw[ew];have hl2:l.length*20004≤l.length*(20004+9*(0+1)):=jP _ (by omega);refine L9 H (z o) (n:=l.length) (k:=2) (by omega) (by omega) (by rw[af,aK];omega) fun s2 h2 ho2 w=>?_
  have J:=o.tr w;obtain⟨sp2,sk2,ow2,hb2,V,_⟩:=(bk J).ex;refine qf hb2 V (by omega) fun s3 F C E=>?_
  refine D7 (M:=Bes M h2 F) (W:=Bes M h2 F) (Bes.own ho2 E) (Bes.hM (z J) E) (Bes.sl C) (fun _ h _=>h) hf (by omega) (by rw[af,af,aK,di];omega) fun s4 G ho4 hu4=>?_
  refine hk s4 G ?_ (J.tr (E.wide.tr (hu4.mono fun y u=>.inl u.1)))
  have:=ho4.more (M':=M) fun y u=>u.1
  rw[fg,List.append_cons,←aw];exact this
 |succ m ih=>
  intro hm b l S h M s xs t hu0 hM0 ho hM hf hn hx K hk;refine CP s (some ⟨b,0,none⟩) ((13-(m+1):Nat):Int) ?_;unfold xe bJ dH Jt OC SH;have st:∀{j},Upd M h j→Upd No S j:=fun k=>hu0.trans k fun y u=>.inr (hM0 y u)
  have z:∀{j},Upd M h j→∀y,j.size≤y→M y:=fun k y u=>hM y (bv k.size u)
  obtain⟨sl,nd,hs0⟩:=t;have hs:∀c,c<32→SlotIs W x S m sl c (part x (12-m) c l):=hs0;have hd:∀{j},Upd M h j→∃d n sp sk ow,j[b]? =some (.cells (fM d n sp sk false ow) bQ (0,0))∧d=iV (fun c=>(gI (part x (12-m) c l)).isSome) 32∧n=iV (fun c=>(eJ (part x (12-m) c l)).isSome) 32∧Sl ge 2 W j sp (fS x (12-m) l)∧Sl qu 1 W j sk (fm sl.k 32):=fun{j} k=>by
   obtain⟨d,n,sp,sk,ow,hb,bits,F,G,_⟩:=(nd.upd (st k) fun _ h=>h.elim).ex
   refine⟨d,n,sp,sk,ow,hb,Hz bits.d32 fun c hc=>?_,Hz bits.n32 fun c hc=>?_,?_,G⟩
   ·rw[bits.dp c hc,(D5 (hs c hc)).1]
   ·rw[bits.nk c hc,(D5 (hs c hc)).2]
   ·rw[←Ds hs];exact F
  have hka:KidsAt W x S m (fm sl.k 32) (jJ x (12-m) l):=Mh 32 hs;have v:=nP (x:=x) (m+1) hf;have hlen2:=v;have hml:∀L∈jJ x (12-m) l,Fit L∧L.length≤60000:=fun L hL=>by
   obtain⟨_,c,rfl⟩:=pC hL;exact⟨hf.part,bv jW hn⟩
  have hsf:Fit (fS x (12-m) l):=fun p hp=>hf p (rp hp)
  have hsl:=Bt x (12-m) l;unfold fg at hk v;have Y:∀q:Nat→Bool,iV q 32<4294967296:=fun q=>mg q 32
  have hd32:=Y fun c=>(gI (part x (12-m) c l)).isSome
  have hn32:=Y fun c=>(eJ (part x (12-m) c l)).isSome
  generalize iV (fun c=>(gI (part x (12-m) c l)).isSome) 32=D at hk hd v hd32
  generalize iV (fun c=>(eJ (part x (12-m) c l)).isSome) 32=N at hk hd v hn32
  have hS:(fS x (12-m) l).length≤60000:=by omega
  have hSb:(fS x (12-m) l).length*20004≤l.length*(20004+9*(m+1+1)):=Nat.mul_le_mul (by omega) (by omega);have hML:∀L∈jJ x (12-m) l,2≤L.length∧(fg x m L).length≤9+L.length*(20004+9*(m+1)):=fun L hL=>by
   obtain⟨F,c,rfl⟩:=pC hL;exact⟨F,nP m hf.part⟩
  have hbud:9+(fS x (12-m) l).length*20004+(jJ x (12-m) l).flatten.length*(20004+9*(m+1)+9)≤9+l.length*(20004+9*(m+1+1)):=by
   have h5:(fS x (12-m) l).length*20004≤(fS x (12-m) l).length*(20004+9*(m+1+1)):=jP _ (by omega);have h6:((fS x (12-m) l).length+(jJ x (12-m) l).flatten.length)*(20004+9*(m+1+1))≤l.length*(20004+9*(m+1+1)):=ci _ hsl;rw[jD]at h6;have h7:20004+9*(m+1)+9=20004+9*(m+1+1):=by omega
   rw[h7];omega
  have hps:=lY hsf;generalize fS x (12-m) l=So at hk hd hsf hS hSb hbud v hps;generalize jJ x (12-m) l=Ma at hk hka hml hML hbud v;obtain⟨d,n,sp,sk,ow,hb,_⟩:=hd (Upd.refl M h);refine gt hb (aj.2 (Join.intro (fun s' j=>OwnS oz 1 cz M j s' (xs++(0::(l8 D 4++l8 N 4)))∧Upd M h j) (fun R hR=>bV ?_) ?_))
  ·refine ul (b:=0) rfl ho hM (by omega) fun s1 h1 H o=>?_
   obtain⟨d1,n1,sp1,sk1,ow1,Q,rfl,rfl,_⟩:=hd o;refine IE Q ?_;rw[Go.IntWalk.u64_in _ (by omega)];refine L9 H (z o) (n:=d1) (k:=4) (by omega) (by omega) (by rw[af,aK];omega) fun s2 h2 ho2 w=>?_
   obtain⟨d2,n2,sp2,sk2,ow2,hb2,rfl,rfl,_⟩:=hd (o.tr w);refine zX hb2 ?_;rw[Go.IntWalk.u64_in _ (by omega)];refine L9 ho2 (z (o.tr w)) (n:=n2) (k:=4) (by omega) (by omega) (by rw[af,af,aK,di];omega) fun s3 F C E=>?_
   refine hR _ _ ⟨?_,(o.tr w).tr E⟩;rw[List.append_cons,←aw];exact C
  ·rintro s' h1 ⟨H,o⟩
   obtain⟨d1,n1,sp1,sk1,ow1,Q,_,_,O,_⟩:=hd o;refine qf Q O (by omega) fun s2 h2 ho2 w=>?_
   refine D7 (M:=Bes M h1 h2) (W:=Bes M h1 h2) (Bes.own H w) (Bes.hM (z o) w) (Bes.sl ho2) (fun _ h _=>h) hsf (by omega) (by rw[af,aV,af,di,di];omega) fun s3 F C E=>?_
   have C:=C.more (M':=M) fun y u=>u.1
   have T:Upd M h F:=o.tr (w.wide.tr (E.mono fun y u=>.inl u.1))
   have e13:(((13-(m+1):Nat):Int)==(13:Int))=false:=by rw[beq_eq_false_iff_ne];omega
   rw[e13];refine aj.2 ?_;obtain⟨d3,n3,sp3,sk3,ow3,hb3,_,_,_,hsk3⟩:=hd T;have hk32:=wJ (g:=sl.k);refine Is hb3 hsk3 (by omega) fun s4 G ho4 hu4=>?_
   have Z:Sl qu 1 (Bes M F G) G s4 (fm sl.k 32):=Bes.sl ho4;have hlk:=Z.len;have ew:IntKind.wrap .i64 (((13-(m+1):Nat):Int)+1)=((13-m:Nat):Int):=by rw[oD (by omega)];omega
   rw[ew];have hMb:=Bes.hM (z T) hu4;have hob:=Bes.own C hu4;have hu04:Upd M h G:=T.tr hu4.wide;have hMM:∀y,Bes M F G y→M y:=fun y u=>u.1
   have st4:∀{j},Upd (Bes M F G) G j→Upd M h j:=fun k=>hu04.tr (k.mono fun y u=>.inl u.1)
   generalize Bes M F G=B at Z hMb hob hMM st4;have hkl:∀{ks:List (Option Addr)} {ls:List (List Pr)},KidsAt W x S m ks ls→ks.length=ls.length∧∀i (hi:i<ls.length),∃kb,ks[i]? =some (some ⟨kb,0,none⟩)∧TrieAt W x S m kb ls[i]:=by
    intro ks;induction ks with
    |nil=>intro ls;cases ls with
     |nil=>intro _;exact⟨rfl,fun i hi=>absurd hi (ij _)⟩
     |cons a ls=>intro h;exact h.elim
    |cons k ks ihk=>intro ls;cases ls with
     |nil=>intro h;exact h.elim
     |cons a ls=>
      rintro⟨⟨kb,rfl,tk⟩,h⟩;obtain⟨e,hr⟩:=ihk h;refine⟨by simp[e],fun i hi=>?_⟩
      cases i with
      |zero=>exact⟨kb,rfl,tk⟩
      |succ i=>simp only[dD,List.getElem_cons_succ];exact hr i (by simpa using hi)
   obtain⟨hkl,hkt⟩:=hkl hka;have hbase:(xs++(0::(l8 D 4++l8 N 4))++jX So).length≤xs.length+(9+So.length*20004):=by
    rw[af,af,aV,af,di,di];omega
   refine LoopP.ghost (fun(i:Nat) (t:SliceV×Int) j=>t.2=(i:Int)∧i≤Ma.length∧OwnS oz 1 cz B j t.1 (xs++(0::(l8 D 4++l8 N 4))++jX So++(Ma.take i).flatMap (fg x m))∧Upd B G j) (fun i=>Ma.length-i) 0 ⟨rfl,bo _,by simpa using hob,Upd.refl _ _⟩ ?_
   rintro I i ⟨so,ti⟩ j ⟨e1,hi,ho',P⟩ hI;simp only at e1 ho';subst e1;refine aQ (fun A=>?_) fun hge=>?_
   ·have A:i<Ma.length:=by have:(i:Int)<(s4.len:Int):=A;omega
    obtain⟨kb,hk1,tk⟩:=hkt i A;obtain⟨a,ha,_,hv⟩:=(Z.upd P fun y u=>.inl u).at0 hk1
    refine⟨⟨by simp only;omega,by simp only;omega⟩,a,ha,some ⟨kb,0,none⟩,hv,?_⟩
    have X:Ma[i]∈Ma:=aP A;have htl:=Dr (f:=fg x m) (ls:=Ma.take i) (B:=20004+9*(m+1)) fun L hL=>hML L (g7 hL)
    have hsp:(Ma.take i).flatten.length+Ma[i].length≤Ma.flatten.length:=by
     have e:Ma=Ma.take i++Ma[i]::Ma.drop (i+1):=by rw[List.getElem_cons_drop,List.take_append_drop]
     have:=congrArg (fun L=>(List.flatten L).length) e
     simp only[dW,eN,af]at this;omega
    have V:=ci (20004+9*(m+1)+9) hsp;rw[jD]at V;have h2l:=(hML _ X).1;have hone:9+Ma[i].length*(20004+9*(m+1))≤Ma[i].length*(20004+9*(m+1)+9):=by rw[Nat.mul_add (Ma[i].length) (20004+9*(m+1)) 9];omega
    refine ih (by omega) tk (hu0.trans (st4 P) fun y u=>.inr (hM0 y u)) (fun y u=>hM0 y (hMM y u)) ho' (fun y u=>hMb y (bv P.size u)) (hml _ X).1 (hml _ X).2 (by rw[af];omega) fun s5 h5 ho5 hu5=>?_
    rw[cI A (by omega)];refine hI (i+1) _ _ ⟨rfl,A,?_,P.tr hu5⟩ (by omega);rw[List.take_succ_eq_append_getElem A,List.flatMap_append,aY,List.flatMap_nil,List.append_nil,←aw];exact ho5
   ·have hil:i=Ma.length:=by have:¬(i:Int)<(s4.len:Int):=hge;omega
    subst hil;rw[List.take_length]at ho';refine hk _ _ ?_ (st4 P);have:=ho'.more hMM;simp only[aw,cY]at this⊢;exact this
end Go.Proofs
namespace Go.Proofs
open Go Go.Lift
theorem S1{W:Nat→Prop}{x:Hs}{h:ad}{b:Nat}{l:List Pr}(t:TrieAt W x h 13 b l)(f:Fit l)(c:l.length≤60000){K:SliceV→ad→Prop}(g:∀s' a,OwnS oz 1 cz (fun y=>h.size≤y) a s' (fg x 13 l)→Upd No h a→K s' a):HC PG yS [.pointer (some ⟨b,0,none⟩)] [.c .slice] K h:=by
 refine M4 _ ?_;unfold Fq;refine aj.2 ?_;have k:l.length*(20004+9*(13+1))≤60000*(20004+9*(13+1)):=ci _ c;exact Qy (x:=x) 13 (ao _) (s:=⟨none,0,0⟩) (xs:= []) (M:=fun y=>h.size≤y) t (Upd.refl _ _) (fun _ h=>h) (OwnS.nil qB) (fun _ h=>h) f c (by rw[cB];omega) fun s' a d i=>g s' a d (i.mono fun y j=>.inr j)
theorem Kh:∀{a b:Nat} (k:Nat),l8 a k=l8 b k→a%2^(8*k)=b%2^(8*k)
 |_,_,0,_=>by simp[Nat.mod_one]
 |a,b,k+1,h=>by
  rw[xA,xA]at h;obtain⟨d,g⟩:=qJ h (by rw[di,di]);have f:=Kh k d;have c:=congrArg UInt8.toNat (fA.inj g).1;rw[UInt8.toNat_ofNat',UInt8.toNat_ofNat',cE,cE]at c;have e:2^(8*(k+1))=2^(8*k)*2^8:=by rw[Nat.mul_add,Nat.pow_add]
  rw[e,Nat.mod_mul,Nat.mod_mul,f,c]
theorem ua{a b k:Nat}{r c:List UInt8}(d:a<2^(8*k))(g:b<2^(8*k))(h:l8 a k++r=l8 b k++c):a=b∧r=c:=by
 obtain⟨f,i⟩:=qJ h (by rw[di,di]);have:=Kh k f;rw[dw d,dw g]at this;exact⟨this,i⟩
theorem xq{a b:ByteArray}{r c:List UInt8}(j:a.size≤10000)(m:b.size≤10000)(h:nn a++r=nn b++c):a=b∧r=c:=by
 unfold nn at h;rw[aw,aw]at h;obtain⟨f,i⟩:=ua (k:=2) (by omega) (by omega) h;obtain⟨g,d⟩:=qJ i (by simpa using f);refine⟨?_,d⟩;cases a;cases b;exact congrArg jE (gS.1 g)
theorem yO:∀{l l':List Pr} {r r':List UInt8},Fit l→Fit l'→l.length=l'.length→jX l++r=jX l'++r'→l=l'∧r=r'
 | [],[],_,_,_,_,_,h=>⟨rfl,h⟩
 | [],_::_,_,_,_,_,e,_=>by simp at e
 |_::_,[],_,_,_,_,e,_=>by simp at e
 |p::l,q::l',r,r',hf,hf',e,h=>by
  unfold jX at h;rw[aY,aY,CC,CC]at h;simp only[aw]at h;have a:=hf p (aE ..);have b:=hf' q (aE ..);obtain⟨f,h⟩:=xq a.1 b.1 h;obtain⟨c,h⟩:=xq a.2 b.2 h;obtain⟨d,h⟩:=yO (l:=l) (l':=l') (fun z hz=>hf z (aX _ hz)) (fun z hz=>hf' z (aX _ hz)) (by simpa using e) h
  exact⟨by rw[d,Prod.ext f c],h⟩
theorem DF{β γ:Type}{g:Nat→Option β}{a:Nat→Option γ}:∀n,(∀c,c<n→(g c).isSome=(a c).isSome)→(fm g n).length=(fm a n).length
 |0,_=>rfl
 |n+1,h=>by
  rw[gg,gg,af,af,DF n fun c hc=>h c (by omega)]
  have:=h n (by omega);cases h1:g n<;>cases h2:a n<;>rw[h1,h2]at this<;>first|rfl|cases this
theorem MB{β:Type}{g a:Nat→Option β}:∀n,(∀c,c<n→(g c).isSome=(a c).isSome)→fm g n=fm a n→∀c,c<n→g c=a c
 |0,_,_,c,hc=>absurd hc (ij _)
 |n+1,h,e,c,hc=>by
  rw[gg,gg]at e;obtain⟨f,b⟩:=qJ e (DF n fun c hc=>h c (by omega))
  rcases bK c n with d|d
  ·exact MB n (fun c hc=>h c (by omega)) f c d
  ·have:c=n:=by omega
   subst this;cases h1:g c<;>cases h2:a c<;>rw[h1,h2]at b<;>simp at b⊢
   exact b
theorem GS:∀{l l':List Pr},cA l→cA l'→(∀p,p∈l↔p∈l')→l=l'
 | [],[],_,_,_=>rfl
 | [],q::l',_,_,h=>absurd ((h q).2 (aE ..)) (by simp)
 |p::l,[],_,_,h=>absurd ((h p).1 (aE ..)) (by simp)
 |p::l,q::l',c,a,h=>by
  have c:=bB.1 c;have a:=bB.1 a;have e:p=q:=by
   rcases aA.1 ((h p).1 (aE ..))with e|d
   ·exact e
   ·rcases aA.1 ((h q).2 (aE ..))with e|f
    ·exact e.symm
    ·exact absurd (jY (c.1 q f) (a.1 p d)) (cO _)
  subst e;rw[GS c.2 a.2 fun z=>?_]
  constructor
  ·intro hz
   rcases aA.1 ((h z).1 (aX _ hz))with e|b
   ·exact absurd (c.1 z hz) (by rw[e];exact cO _)
   ·exact b
  ·intro hz
   rcases aA.1 ((h z).2 (aX _ hz))with e|b
   ·exact absurd (a.1 z hz) (by rw[e];exact cO _)
   ·exact b
theorem QR{x:Hs}{lev:Nat}{l l':List Pr}(g:cA l)(a:cA l')(h:∀c,c<32→part x lev c l=part x lev c l'):l=l':=by
 refine GS g a fun p=>?_
 have e:=h (ck x lev p.1) (yg ..);have d:=nq (x:=x) (lev:=lev) (c:=ck x lev p.1) (l:=l) (p:=p);have f:=nq (x:=x) (lev:=lev) (c:=ck x lev p.1) (l:=l') (p:=p);rw[e]at d;constructor
 ·intro b;exact(f.1 (d.2 ⟨b,rfl⟩)).1
 ·intro b;exact(d.1 (f.2 ⟨b,rfl⟩)).1
theorem OK{q q':List Pr}(g:gI q=gI q')(f:eJ q=eJ q'):q=q':=by
 match q,q' with
 | [],[]=>rfl
 | [a],[b]=>simp[gI]at g;rw[g]
 | [],[b]=>simp[gI]at g
 | [a],[]=>simp[gI]at g
 | [],b::c::q'=>simp[eJ]at f
 | [a],b::c::q'=>simp[eJ]at f
 |b::c::q',[]=>simp[eJ]at f
 |b::c::q',[a]=>simp[eJ]at f
 |a::b::q,c::d::q'=>simpa[eJ]using f
theorem Ku{f:List Pr→List UInt8}:∀{ls ls':List (List Pr)} {r r':List UInt8},ls.length=ls'.length→(∀L∈ls,∀L'∈ls',∀r r',f L++r=f L'++r'→L=L'∧r=r')→ls.flatMap f++r=ls'.flatMap f++r'→ls=ls'∧r=r'
 | [],[],_,_,_,_,h=>⟨rfl,h⟩
 | [],_::_,_,_,e,_,_=>by simp at e
 |_::_,[],_,_,e,_,_=>by simp at e
 |L::ls,L'::ls',r,r',e,hf,h=>by
  rw[aY,aY,aw,aw]at h;obtain⟨a,h⟩:=hf L (aE ..) L' (aE ..) _ _ h;obtain⟨c,h⟩:=Ku (by simpa using e) (fun A b B d=>hf A (aX _ b) B (aX _ d)) h
  exact⟨by rw[a,c],h⟩
theorem D6{x:Hs}:∀(m:Nat) {l l':List Pr} {r a:List UInt8},Fit l→Fit l'→l.length≤60000→l'.length≤60000→cA l→cA l'→fg x m l++r=fg x m l'++a→l=l'∧r=a
 |0,l,l',r,a,hf,hf',hn,hn',_,_,h=>by
  unfold fg at h;rw[cY,cY,aw,aw]at h;obtain⟨e,h⟩:=ua (k:=2) (by omega) (by omega) (fA.inj h).2;exact yO hf hf' e h
 |m+1,l,l',r,a,hf,hf',hn,hn',hr,hr',h=>by
  unfold fg at h;simp only[cY,aw]at h;obtain⟨b1,h⟩:=ua (k:=4) (mg _ 32) (mg _ 32) (fA.inj h).2;obtain⟨b2,h⟩:=ua (k:=4) (mg _ 32) (mg _ 32) h;have bits:∀{q q':Nat→Bool},iV q 32=iV q' 32→∀c,c<32→q c=q' c:=fun{q q'} e c hc=>by
   have:=congrArg (fun n=>n.testBit c) e
   simp only[B1,decide_eq_true hc,tS]at this;exact this
  have b1:=bits b1;have b2:=bits b2;obtain⟨i,h⟩:=yO (fun p b=>hf p (rp b)) (fun p b=>hf' p (rp b)) (DF 32 b1) h
  obtain⟨f,h⟩:=Ku (DF 32 b2) (fun L g L' d r a e=>by
   obtain⟨_,c,rfl⟩:=pC g
   obtain⟨_,c',rfl⟩:=pC d
   exact D6 m hf.part hf'.part (bv jW hn) (bv jW hn') (px hr) (px hr') e) h
  have s1:=MB 32 b1 i;have s2:=MB 32 b2 f;exact⟨QR hr hr' fun c hc=>OK (s1 c hc) (s2 c hc),h⟩
end Go.Proofs
namespace Go.Proofs
open Go Go.Lift
def xr(lab:ByteArray)(has:Bool)(val:ByteArray)(s:SliceV)(ow:Option Addr):Array Value:= #[.string lab,.bool has,.string val,sv s,.pointer ow]
theorem vw{w:Option ByteArray}{val:ByteArray}(h:val=w.getD ⟨#[]⟩):∀v,w=some v→val=v:=fun v e=>by rw[h,e];rfl
def RxF(W:Nat→Prop)(h:ad):Fo→List (Option Addr)→Prop
 | .nil,ks=>ks= []
 | .cons lab w kids rest,ks=>∃b sl val s ow ks1 ks',ks=some ⟨b,0,none⟩::ks'∧sl.data.toList=lab∧h[b]? =some (.cells (xr sl w.isSome val s ow) bG (0,0))∧val=w.getD ⟨#[]⟩∧Sl mw 1 W h s ks1∧(s.len≤s.cap∧¬W b∧OwOk W h ow)∧RxF W h kids ks1∧RxF W h rest ks'
def RxN(W:Nat→Prop)(h:ad)(b:Nat)(sl:ByteArray)(w:Option ByteArray)(F:Fo):Prop:=∃val s ow ks,h[b]? =some (.cells (xr sl w.isSome val s ow) bG (0,0))∧val=w.getD ⟨#[]⟩∧Sl mw 1 W h s ks∧(s.len≤s.cap∧¬W b∧OwOk W h ow)∧RxF W h F ks
def Kid(W:Nat→Prop)(h:ad)(k:Option Addr)(n:Bn):Prop:=∃b sl,k=some ⟨b,0,none⟩∧sl.data.toList=n.1∧RxN W h b sl n.2.1 n.2.2
def RxL(W:Nat→Prop)(h:ad)(ks:List (Option Addr))(L:List Bn):Prop:=ks.length=L.length∧∀p∈ks.zip L,Kid W h p.1 p.2
theorem pT{W:Nat→Prop}{h:ad}:∀{F:Fo} {ks:List (Option Addr)},RxF W h F ks↔RxL W h ks F.toL
 | .nil,ks=>by
  unfold RxF RxL;simp[Fo.toL]
 | .cons lab w kids rest,ks=>by
  unfold RxF RxL;rw[Fo.toL_cons];constructor
  ·rintro⟨b,sl,val,s,ow,c,d,rfl,n,i,j,f,g,m,v⟩
   obtain⟨q,y⟩:=pT.1 v;refine⟨by simp[q],fun p a=>?_⟩
   rw[iZ]at a;rcases aA.1 a with rfl|a
   ·exact⟨b,sl,rfl,n,val,s,ow,c,i,j,f,g,m⟩
   ·exact y p a
  ·cases ks with
   |nil=>rintro⟨e,_⟩;simp at e
   |cons k d=>
    rintro⟨e,a⟩;rw[iZ]at a;obtain⟨b,sl,u,n,val,s,ow,c,i,j,f,g,m⟩:=a _ (aE ..);refine⟨b,sl,val,s,ow,c,d,by rw[←u],n,i,j,f,g,m,pT.2 ⟨by simpa using e,fun p o=>a p (aX _ o)⟩⟩
theorem RxF.upd0{W:Nat→Prop}{h a:ad}(k:Upd No h a):∀{F:Fo} {ks:List (Option Addr)},RxF W h F ks→RxF W a F ks
 | .nil,_,r=>r
 | .cons _ _ _ _,_,⟨b,sl,val,s,ow,ks1,ks',e0,e1,e2,e3,e4,e5,e6,e7⟩=>⟨b,sl,val,s,ow,ks1,ks',e0,e1,k.get0 e2,e3,e4.upd k fun _ h=>h.elim,⟨e5.1,e5.2.1,e5.2.2.upd k fun _ h=>h.elim⟩,RxF.upd0 k e6,RxF.upd0 k e7⟩
theorem RxN.upd0{W:Nat→Prop}{h a:ad}(k:Upd No h a){b:Nat}{sl:ByteArray}{w:Option ByteArray}{F:Fo}:RxN W h b sl w F→RxN W a b sl w F
 |⟨val,s,ow,ks,e2,e3,e4,e5,e6⟩=>⟨val,s,ow,ks,k.get0 e2,e3,e4.upd k fun _ h=>h.elim,⟨e5.1,e5.2.1,e5.2.2.upd k fun _ h=>h.elim⟩,RxF.upd0 k e6⟩
theorem Kid.upd0{W:Nat→Prop}{h c:ad}(k:Upd No h c){a:Option Addr}{n:Bn}:Kid W h a n→Kid W c a n
 |⟨b,sl,e1,e2,e3⟩=>⟨b,sl,e1,e2,e3.upd0 k⟩
theorem RxF.less{W W':Nat→Prop}{h:ad}(hm:∀b,W' b→W b∨h.size≤b):∀{F:Fo} {ks:List (Option Addr)},RxF W h F ks→RxF W' h F ks
 | .nil,_,r=>r
 | .cons _ _ _ _,_,⟨b,sl,val,s,ow,ks1,ks',e0,e1,e2,e3,e4,e5,e6,e7⟩=>⟨b,sl,val,s,ow,ks1,ks',e0,e1,e2,e3,e4.less hm,⟨e5.1,fun hx=>(hm _ hx).elim e5.2.1 fun h=>by have:=aH e2;omega,e5.2.2.less hm⟩,RxF.less hm e6,RxF.less hm e7⟩
theorem RxN.less{W W':Nat→Prop}{h:ad}(hm:∀b,W' b→W b∨h.size≤b){b:Nat}{sl:ByteArray}{w:Option ByteArray}{F:Fo}:RxN W h b sl w F→RxN W' h b sl w F
 |⟨val,s,ow,ks,e2,e3,e4,e5,e6⟩=>⟨val,s,ow,ks,e2,e3,e4.less hm,⟨e5.1,fun hx=>(hm _ hx).elim e5.2.1 fun h=>by have:=aH e2;omega,e5.2.2.less hm⟩,RxF.less hm e6⟩
theorem RxF.updM{W M:Nat→Prop}{h a:ad}(k:Upd M h a)(hm:∀b,M b→W b∨h.size≤b):∀{F:Fo} {ks:List (Option Addr)},RxF W h F ks→RxF W a F ks
 | .nil,_,r=>r
 | .cons _ _ _ _,_,⟨b,sl,val,s,ow,ks1,ks',e0,e1,e2,e3,e4,e5,e6,e7⟩=>⟨b,sl,val,s,ow,ks1,ks',e0,e1,k.get e2 (fun hx=>(hm _ hx).elim e5.2.1 fun h=>by have:=aH e2;omega),e3,e4.upd k hm,⟨e5.1,e5.2.1,e5.2.2.upd k hm⟩,RxF.updM k hm e6,RxF.updM k hm e7⟩
theorem RxN.updM{W M:Nat→Prop}{h a:ad}(k:Upd M h a)(hm:∀b,M b→W b∨h.size≤b){b:Nat}{sl:ByteArray}{w:Option ByteArray}{F:Fo}:RxN W h b sl w F→RxN W a b sl w F
 |⟨val,s,ow,ks,e2,e3,e4,e5,e6⟩=>⟨val,s,ow,ks,k.get e2 (fun hx=>(hm _ hx).elim e5.2.1 fun h=>by have:=aH e2;omega),e3,e4.upd k hm,⟨e5.1,e5.2.1,e5.2.2.upd k hm⟩,RxF.updM k hm e6⟩
theorem RxL.upd0{W:Nat→Prop}{h a:ad}(k:Upd No h a){ks:List (Option Addr)}{L:List Bn}(r:RxL W h ks L):RxL W a ks L:=⟨r.1,fun p b=>(r.2 p b).upd0 k⟩
theorem RxL.app{W:Nat→Prop}{h:ad}{ks b:List (Option Addr)}{L L':List Bn}(r:RxL W h ks L)(c:RxL W h b L'):RxL W h (ks++b) (L++L'):=by
 refine⟨by rw[af,af,r.1,c.1],fun p a=>?_⟩
 rw[List.zip_append r.1]at a;rcases List.mem_append.1 a with a|a
 ·exact r.2 p a
 ·exact c.2 p a
theorem RxL.one{W:Nat→Prop}{h:ad}{k:Option Addr}{n:Bn}(c:Kid W h k n):RxL W h [k] [n]:=⟨rfl,fun p a=>by rw[iZ,List.zip_nil_left]at a;rw[au.1 a];exact c⟩
theorem RxL.take{W:Nat→Prop}{h:ad}{ks:List (Option Addr)}{L:List Bn}(r:RxL W h ks L)(i:Nat):RxL W h (ks.take i) (L.take i):=by
 refine⟨by rw[aU,aU,r.1],fun p a=>r.2 p ?_⟩
 have:(ks.take i).zip (L.take i)=(ks.zip L).take i:=by rw[ng,ng,List.take_zipWith]
 rw[this]at a;exact g7 a
theorem RxL.drop{W:Nat→Prop}{h:ad}{ks:List (Option Addr)}{L:List Bn}(r:RxL W h ks L)(i:Nat):RxL W h (ks.drop i) (L.drop i):=by
 refine⟨by rw[aW,aW,r.1],fun p a=>r.2 p ?_⟩
 have:(ks.drop i).zip (L.drop i)=(ks.zip L).drop i:=by rw[ng,ng,List.drop_zipWith]
 rw[this]at a;exact List.mem_of_mem_drop a
theorem RxL.ins{W:Nat→Prop}{h:ad}{ks:List (Option Addr)}{L:List Bn}(r:RxL W h ks L)(i:Nat){k:Option Addr}{n:Bn}(c:Kid W h k n):RxL W h (ks.take i++k::ks.drop i) (L.take i++n::L.drop i):=by
 have:=(r.take i).app ((RxL.one c).app (r.drop i));exact this
theorem RxL.set{W:Nat→Prop}{h:ad}{ks:List (Option Addr)}{L:List Bn}(r:RxL W h ks L){i:Nat}(hi:i<L.length){k:Option Addr}{n:Bn}(c:Kid W h k n):RxL W h (ks.set i k) (L.set i n):=by
 have:=(r.take i).app ((RxL.one c).app (r.drop (i+1)));rw[dG,dG,if_pos (by rw[r.1];exact hi),if_pos hi];exact this
theorem RxL.at{W:Nat→Prop}{h:ad}{ks:List (Option Addr)}{L:List Bn}(r:RxL W h ks L){i:Nat}(hi:i<L.length):∃b sl,ks[i]? =some (some ⟨b,0,none⟩)∧sl.data.toList=L[i].1∧RxN W h b sl L[i].2.1 L[i].2.2:=by
 have c:i<ks.length:=by rw[r.1];exact hi
 have hz:i<(ks.zip L).length:=by rw[List.length_zip];omega
 have:=r.2 _ (aP hz);rw[List.getElem_zip]at this;obtain⟨b,sl,a,f,d⟩:=this;exact⟨b,sl,by rw[ag c];exact congrArg some a,f,d⟩
theorem Bz:∀{L:List Bn} {c:Nat},L.Pairwise (fun m n=>hd m.1<hd n.1)→(∀n∈L,c≤hd n.1)→L= []∨c+L.length≤256
 | [],_,_,_=>.inl rfl
 |n::L,c,a,hc=>by
  have a:=bB.1 a;have b:=hc n (aE ..);have d:=T7 n.1;rcases Bz (c:=hd n.1+1) a.2 fun m hm=>a.1 m hm with e|e
  ·rw[e];right;simp only[aK];omega
  ·right;rw[aV];omega
theorem jO{F:Fo}(h:fi F):F.toL.length≤256:=by
 rcases Bz (c:=0) (eI.1 h).1 fun _ _=>bo _ with e|e
 ·rw[e];simp
 ·omega
theorem dh{h:ad}{b i:Nat}{c:Array Value}(a:h[b]? =some (.cells c bG (0,0))):aR h (adr ⟨b,0,none⟩ i)=c[i]?:=by rw[bO,aL];exact bA a
theorem QA{h:ad}{b i:Nat}{c:Array Value}(a:h[b]? =some (.cells c bG (0,0))) (hi:i<c.size):Wr h (adr ⟨b,0,none⟩ i):=by rw[bO,aL];exact iv a hi
theorem Ef{h:ad}{b i:Nat}{c c':Array Value}{v:Value}{k:ad→Prop}(j:h[b]? =some (.cells c bG (0,0))) (e:c.setIfInBounds i v=c') (f:∀a,a[b]? =some (.cells c' bG (0,0))→Upd (· =b) h a→k a):At (hset h (adr ⟨b,0,none⟩ i) v) k:=by
 rw[bO,aL];exact vq j fun a d g=>f a (e▸d) g
theorem Ks(s:ByteArray)(i:Nat):s[i]? =s.data.toList[i]?:=by
 rw[Array.getElem?_toList];by_cases h:i<s.size
 ·rw[getElem?_pos s i h,getElem?_pos s.data i h];rfl
 ·rw[getElem?_neg s i h,getElem?_neg s.data i h]
theorem BK{s:ByteArray}(a:s.data.toList≠[]):∃c:UInt8,s[0]? =some c∧c.toNat=hd s.data.toList:=by
 rw[Ks];match s.data.toList,a with
 |c::l,_=>exact⟨c,rfl,rfl⟩
theorem Bw{W:Nat→Prop}{h:ad}{b:Nat}{sl:ByteArray}{w:Option ByteArray}{F:Fo}(r:RxN W h b sl w F)(hc:fi F){c:Nat}(hc8:c<256){K:Int×Bool→ad→Prop}
  (E:∀i ok,i≤F.toL.length→(∀j (y:j<F.toL.length),j<i→hd F.toL[j].1<c)→(∀j (y:j<F.toL.length),i≤j→c≤hd F.toL[j].1)→(ok=true↔∃hi:i<F.toL.length,hd F.toL[i].1=c)→K ((i:Int),ok) h):HC PG ju [.pointer (some ⟨b,0,none⟩),.int .u8 c] [.c (.int .i64),.c .bool] K h:=by
 refine AH _ c ?_;unfold sX aM;obtain⟨val,s,ow,ks,hb,_,X,Z,hF⟩:=r;refine⟨_,rfl,s,dh (i:=3) hb,?_⟩;have T:=pT.1 hF;have f:=eI.1 hc;have hn:=jO hc;have z:=X.len;rw[T.1]at z;generalize hLe:F.toL=L at T f hn z E;refine gP s c _ ?_;unfold dY bJ dH Da DW
 have D:∀{i:Nat} (hi:i<L.length) {K:Int→ad→Prop},K ((hd L[i].1:Int)-(c:Int)) h→∃a,s.a=some a∧∃v,aR h (adr a (i*1))=some (.pointer v)∧HV PG (.func (.func m7) #[] #[]) [.pointer v,.int .u8 c] [.c (.int .i64)] K h:=by
  intro i hi K E;obtain⟨kb,G,N,H,J⟩:=T.at hi;obtain⟨a,ha,_,hv⟩:=X.at0 N;refine⟨a,ha,_,hv,HV.mk' (xR (some ⟨kb,0,none⟩) c ?_)⟩;unfold qR bw;obtain⟨kval,kss,kow,kks,O,_⟩:=J;have M:G.data.toList≠[]:=by rw[H];exact(f.2 _ (aP hi)).1
  obtain⟨u,hu,R⟩:=BK M;refine⟨_,rfl,G,dh (i:=0) O,u,Int.le_refl _,hu,?_⟩;simp only[Bd];have d:=T7 L[i].1;rw[R,H,oD (x:=(hd L[i].1:Int)) (by omega),oD (x:=(c:Int)) (by omega),oD (by omega)];exact E
 have mono:∀i j (hi:i<L.length) (y:j<L.length),i<j→hd L[i].1<hd L[j].1:=fun i j hi y k=>List.pairwise_iff_getElem.1 f.1 i j hi y k
 refine LoopP.ghost (fun(g:Nat×Nat) (t:Int×Int) h'=>t.1=(g.1:Int)∧t.2=(g.2:Int)∧g.1≤g.2∧g.2≤L.length∧h'=h∧(∀j (y:j<L.length),j<g.1→hd L[j].1<c)∧(∀j (y:j<L.length),g.2≤j→c≤hd L[j].1)) (fun g=>g.2-g.1) (0,L.length)
  ⟨rfl,by simp only;omega,by simp,by simp,rfl,fun j y h=>by omega,fun j y h=>by simp only at h;omega⟩ ?_
 rintro I ⟨i,j⟩ ⟨ti,tj⟩ h' ⟨e1,V,k,p,rfl,o,n⟩ Y;simp only at e1 V k p o n;subst e1 V;refine aQ (fun d=>?_) fun Q=>?_
 ·have d:i<j:=by have:(i:Int)<(j:Int):=d;omega
  have em:IntKind.wrap .i64 (Int.fdiv (IntKind.wrap .u64 (IntKind.wrap .i64 ((i:Int)+(j:Int)))) (2^(min (1:Int).toNat (IntKind.bits .u64))))=(((i+j)/2:Nat):Int):=by
   have e3:(2^(min (1:Int).toNat (IntKind.bits .u64)):Int)=2:=rfl;rw[e3,oD (x:=(i:Int)+(j:Int)) (by omega),Go.IntWalk.u64_in _ (by omega),Int.fdiv_eq_ediv_of_nonneg _ (by omega),oD (by omega)];omega
  refine⟨by decide,?_⟩;simp only[Bd];rw[em];generalize hm:(i+j)/2=m;have A:m<L.length:=by omega
  refine⟨by omega,?_⟩;refine D A ?_;refine aQ (fun hneg=>?_) fun hpos=>?_
  ·refine Y (m+1,j) _ _ ⟨by simp only;rw[oD (by omega)];omega,rfl,by simp only;omega,p,rfl,fun q P B=>?_,n⟩ (by simp only;omega)
   simp only at B;rcases bK q m with h|h
   ·have:=mono q m P A h;omega
   ·have:q=m:=by omega
    subst this;omega
  ·refine Y (i,m) _ _ ⟨rfl,rfl,by simp only;omega,by simp only;omega,rfl,o,fun q P B=>?_⟩ (by simp only;omega)
   simp only at B;rcases bK m q with h|h
   ·have:=mono m q A P h;omega
   ·have:q=m:=by omega
    subst this;omega
 ·have k:i=j:=by have:¬(i:Int)<(j:Int):=Q;omega
  subst k;refine aQ (fun d=>?_) fun S=>?_
  ·have C:i<L.length:=by have:(i:Int)<(s.len:Int):=d;omega
   refine⟨by simp only;omega,?_⟩;refine D C ?_;refine E i _ p o n ?_;rw[beq_iff_eq];exact⟨fun h=>⟨C,by omega⟩,fun⟨_,h⟩=>by omega⟩
  ·have C:i=L.length:=by have:¬(i:Int)<(s.len:Int):=S;omega
   exact E i false p o n ⟨fun h=>(by cases h),fun h=>(by obtain⟨h,_⟩:=h;omega)⟩
end Go.Proofs
namespace Go.Proofs
open Go Go.Lift
abbrev T0:List Value:= [.string (⟨#[]⟩:ByteArray),.bool false,.string (⟨#[]⟩:ByteArray),.slice none 0 0,.pointer none]
theorem uR{h:ad}{b:Nat}{sl nl:ByteArray}{has:Bool}{val:ByteArray}{s:SliceV}{ow:Option Addr}(a:h[b]? =some (.cells (xr sl has val s ow) bG (0,0))) {K:Option Addr→ad→Prop}
  (c:∀h',h'[b]? =some (.cells (xr nl has val s ow) bG (0,0))→Upd (· =b) h h'→K (some ⟨b,0,none⟩) h'):HC PG gL [.pointer (some ⟨b,0,none⟩),.string nl] [.c .ptr] K h:=by
 refine zd _ nl ?_;unfold rR cp;exact⟨_,rfl,QA (i:=0) a (show 0<5 by decide),Ef (i:=0) (c':=xr nl has val s ow) a rfl c⟩
theorem si{h:ad}{b:Nat}{sl v:ByteArray}{has:Bool}{val:ByteArray}{s:SliceV}{ow:Option Addr}(d:h[b]? =some (.cells (xr sl has val s ow) bG (0,0))) {K:Option Addr→ad→Prop}
  (f:∀h',h'[b]? =some (.cells (xr sl true v s ow) bG (0,0))→Upd (· =b) h h'→K (some ⟨b,0,none⟩) h'):HC PG gq [.pointer (some ⟨b,0,none⟩),.string v] [.c .ptr] K h:=by
 refine xP _ v ?_;unfold qP cp;exact⟨_,rfl,QA (i:=1) d (show 1<5 by decide),Ef (i:=1) (c':=xr sl true val s ow) d rfl fun j b1 c=>⟨_,rfl,QA (i:=2) b1 (show 2<5 by decide),Ef (i:=2) (c':=xr sl true v s ow) b1 rfl fun g b2 a=>f g b2 (c.tr a)⟩⟩
theorem An(s:ByteArray)(c:Nat):(s.extract 0 c).data.toList=s.data.toList.take c:=by
 rw[ph,Array.toList_extract,gC];simp
theorem Ao(s:ByteArray)(c:Nat):(s.extract c s.size).data.toList=s.data.toList.drop c:=by
 rw[ph,Array.toList_extract,gC,List.take_of_length_le];rw[aW];simp
end Go.Proofs
namespace Go.Proofs
open Go Go.Lift
theorem Hu:∀{x y:List UInt8} {i:Nat},i≤x.length→i≤y.length→(∀j,j<i→x[j]? =y[j]?)→(i=x.length∨i=y.length∨x[i]?≠y[i]?)→cm x y=i
 | [],_,i,h1,_,_,_=>by simp at h1;simp[cm,h1]
 |_::_,[],i,_,h2,_,_=>by simp at h2;simp[cm,h2]
 |a::x,b::y,0,_,_,_,h=>by
  unfold cm;rw[if_neg];rintro rfl;rcases h with h|h|h<;>simp at h
 |a::x,b::y,i+1,h1,h2,h3,h4=>by
  have:=h3 0 (by omega);simp only[ce,bF.injEq]at this;unfold cm;rw[if_pos this,Hu (i:=i) (by simpa using h1) (by simpa using h2) (fun j c=>by simpa using h3 (j+1) (by omega)) (by simpa using h4)]
theorem Py{a b:ByteArray}(B:a.size≤1000000){h:ad}{K:Int→ad→Prop}(n:K (cm a.data.toList b.data.toList:Nat) h):HC PG tG [.string a,.string b] [.c (.int .i64)] K h:=by
 refine Gf a b ?_;unfold yk;simp only[Bd];have m:(if(b.size:Int)<(a.size:Int)then(b.size:Int)else(a.size:Int))=((min a.size b.size:Nat):Int):=by split<;>omega
 rw[m];have A:a.data.toList.length=a.size:=by simp
 have C:b.data.toList.length=b.size:=by simp
 refine LoopP.ghost (fun(i:Nat) (t:Int) u=>t=(i:Int)∧i≤min a.size b.size∧u=h∧∀j,j<i→a.data.toList[j]? =b.data.toList[j]?) (fun i=>min a.size b.size-i) 0 ⟨rfl,bo _,rfl,fun j s=>absurd s (ij _)⟩ ?_
 rintro I i t u ⟨rfl,hi,rfl,p⟩ y;refine aQ (fun d=>?_) fun z=>?_
 ·have d:i<min a.size b.size:=by omega
  have f:i<a.size:=by omega
  have g:i<b.size:=by omega
  refine⟨a[i],by omega,by rw[aO,getElem?_pos a i f],b[i],by omega,by rw[aO,getElem?_pos b i g],?_⟩
  have v:a.data.toList[i]? =some a[i]:=by rw[←Ks,getElem?_pos a i f]
  have q:b.data.toList[i]? =some b[i]:=by rw[←Ks,getElem?_pos b i g]
  refine CondP.intro (fun k=>?_) fun c=>?_
  ·rw[Hu (i:=i) (by omega) (by omega) p (.inr (.inr fun e=>?_))]at n
   ·exact n
   ·rw[v,q]at e
    rw[bF.inj e]at k;simp at k
  ·have c:a[i]=b[i]:=by
    have:((a[i].toNat:Int))=(b[i].toNat:Int):=by simpa using c
    exact UInt8.toNat_inj.1 (by omega)
   rw[cI d (by omega)];refine y (i+1) _ _ ⟨rfl,d,rfl,fun j s=>?_⟩ (by omega)
   rcases bK j i with w|w
   ·exact p j w
   ·have:j=i:=by omega
    subst this;rw[v,q,c]
 ·have o:i=min a.size b.size:=by omega
  rw[Hu (i:=i) (by omega) (by omega) p (by omega)]at n;rw[←o];exact n
theorem O5{F:Fo}{i:Nat}{k:List UInt8}{v:ByteArray}(h:fi F)(hi:i<F.toL.length)(ek:hd F.toL[i].1=hd k)(a:tO (rK F.toL[i]) (rK F.toL[i]) k v):tO (pi F) (pi F) k v:=by
 have:=JU h hi ek a;rw[List.set_getElem_self,Fo.of_to]at this;exact this
theorem QL{P Q a:List UInt8→ByteArray→Prop}{k:List UInt8}{v:ByteArray}(h:tO P a k v)(e:∀k v,P k v↔Q k v):tO Q a k v:=fun k' b=>by rw[h k' b,e]
end Go.Proofs
namespace Go.Proofs
open Go Go.Lift
def Dj(S T:Nat→Prop):Prop:=∀y,S y→¬T y
def PD(Ts:List (Nat→Prop)):Prop:=∀(i j:Nat) (S T:Nat→Prop),i≠j→Ts[i]? =some S→Ts[j]? =some T→Dj S T
def FoO(o:Option Addr)(W:Nat→Prop)(h:ad):Fo→List (Option Addr)→List (Nat→Prop)→Prop
 | .nil,ks,Ts=>ks= []∧Ts= []
 | .cons lab w kids rest,ks,Ts=>∃(b:Nat) (sl:ByteArray) (ks':List (Option Addr)) (S:Nat→Prop) (Ts':List (Nat→Prop)),ks=some ⟨b,0,none⟩::ks'∧Ts=S::Ts'∧sl.data.toList=lab∧
  ((RxN W h b sl w kids∧∀y,¬S y)∨(o.isSome=true∧∃(val:ByteArray) (s:SliceV) (ks1:List (Option Addr)) (A:Nat→Prop) (Us:List (Nat→Prop)),h[b]? =some (.cells (xr sl w.isSome val s o) bG (0,0))∧val=w.getD ⟨#[]⟩∧OwnS mw 1 bj A h s ks1∧
   (∀y,A y→S y∧y≠b∧y<h.size)∧S b∧(∀U∈Us,∀y,U y→S y∧¬A y∧y≠b)∧PD Us∧FoO o W h kids ks1 Us))∧FoO o W h rest ks' Ts'
def RxO(o:Option Addr)(W:Nat→Prop)(h:ad)(b:Nat)(sl:ByteArray)(w:Option ByteArray)(F:Fo)(S:Nat→Prop):Prop:=
 (RxN W h b sl w F∧∀y,¬S y)∨(o.isSome=true∧∃(val:ByteArray) (s:SliceV) (ks1:List (Option Addr)) (A:Nat→Prop) (Us:List (Nat→Prop)),h[b]? =some (.cells (xr sl w.isSome val s o) bG (0,0))∧val=w.getD ⟨#[]⟩∧OwnS mw 1 bj A h s ks1∧
  (∀y,A y→S y∧y≠b∧y<h.size)∧S b∧(∀U∈Us,∀y,U y→S y∧¬A y∧y≠b)∧PD Us∧FoO o W h F ks1 Us)
theorem Q9{o:Option Addr}{W:Nat→Prop}{h:ad}{lab:List UInt8}{w:Option ByteArray}{c a:Fo}{ks:List (Option Addr)}{Ts:List (Nat→Prop)}:
 FoO o W h (.cons lab w c a) ks Ts↔∃b sl ks' S Ts',ks=some ⟨b,0,none⟩::ks'∧Ts=S::Ts'∧sl.data.toList=lab∧RxO o W h b sl w c S∧FoO o W h a ks' Ts':=Iff.rfl
def KidO(o:Option Addr)(W:Nat→Prop)(h:ad)(k:Option Addr)(n:Bn)(S:Nat→Prop):Prop:=∃b sl,k=some ⟨b,0,none⟩∧sl.data.toList=n.1∧RxO o W h b sl n.2.1 n.2.2 S
def LsO(o:Option Addr)(W:Nat→Prop)(h:ad)(ks:List (Option Addr))(L:List Bn)(Ts:List (Nat→Prop)):Prop:=ks.length=L.length∧Ts.length=L.length∧∀(i:Nat) (k:Option Addr) (n:Bn) (S:Nat→Prop),ks[i]? =some k→L[i]? =some n→Ts[i]? =some S→KidO o W h k n S
theorem DE{o:Option Addr}{W:Nat→Prop}{h:ad}:∀{F:Fo} {ks:List (Option Addr)} {Ts:List (Nat→Prop)},FoO o W h F ks Ts↔LsO o W h ks F.toL Ts
 | .nil,ks,Ts=>by
  constructor
  ·rintro⟨rfl,rfl⟩;exact⟨rfl,rfl,fun i k n S h=>by simp at h⟩
  ·rintro⟨c,g,_⟩;exact⟨bU.1 c,bU.1 g⟩
 | .cons lab w kids rest,ks,Ts=>by
  rw[Q9,Fo.toL_cons];constructor
  ·rintro⟨b,sl,j,S,Ts',rfl,rfl,e,r,f⟩
   obtain⟨c,g,m⟩:=DE.1 f;refine⟨by simp[c],by simp[g],fun i k n p ek a d=>?_⟩
   cases i with
   |zero=>
    simp only[ce,bF.injEq]at ek a d;subst ek a d;exact⟨b,sl,rfl,e,r⟩
   |succ i=>
    simp only[dD]at ek a d;exact m i k n p ek a d
  ·rintro⟨c,g,m⟩
   cases ks with
   |nil=>simp at c
   |cons k j=>
    cases Ts with
    |nil=>simp at g
    |cons S Ts'=>
     obtain⟨b,sl,s,q,r⟩:=m 0 k _ S rfl rfl rfl;exact⟨b,sl,j,S,Ts',by rw[s],rfl,q,r,DE.2 ⟨by simpa using c,by simpa using g,fun i k n p ek a d=>m (i+1) k n p ek a d⟩⟩
theorem FoO.freeze{o:Option Addr}{W W':Nat→Prop}{h:ad}(m:∀y,W' y→W y)(d:OwOk W' h o):∀{F:Fo} {ks:List (Option Addr)} {Ts:List (Nat→Prop)},FoO o W h F ks Ts→(∀U∈Ts,∀y,U y→¬W' y)→RxF W' h F ks
 | .nil,_,_,f,_=>f.1
 | .cons lab w kids rest,ks,Ts,⟨b,sl,ks',S,Ts',e1,e2,e3,r,f⟩,hT=>by
  subst e1 e2;have q:=FoO.freeze m d f fun U g=>hT U (aX _ g)
  have i:=hT S (aE ..);rcases r with⟨r,_⟩|⟨_,val,s,a,A,Us,D,hv,p,k,n,g,_,v⟩
  ·obtain⟨val,s,ow,a,B,E,C,u,z⟩:=RxN.less (fun y c=>.inl (m y c)) r
   exact⟨b,sl,val,s,ow,a,ks',rfl,e3,B,E,C,u,z,q⟩
  ·exact⟨b,sl,val,s,o,a,ks',rfl,e3,D,hv,p.sl fun y c _=>i y (k y c).1,⟨p.cap,i b n,d⟩,FoO.freeze m d v fun U j y c=>i y (g U j y c).1,q⟩
theorem RxO.freeze{o:Option Addr}{W W':Nat→Prop}{h:ad}(m:∀y,W' y→W y)(j:OwOk W' h o){b:Nat}{sl:ByteArray}{w:Option ByteArray}{F:Fo}{S:Nat→Prop}(r:RxO o W h b sl w F S)(c:∀y,S y→¬W' y):RxN W' h b sl w F:=by
 rcases r with⟨r,_⟩|⟨_,val,s,f,A,Us,q,hv,k,g,i,n,_,p⟩
 ·exact RxN.less (fun y a=>.inl (m y a)) r
 ·exact⟨val,s,o,f,q,hv,k.sl fun y a _=>c y (g y a).1,⟨k.cap,c b i,j⟩,FoO.freeze m j p fun U d y a=>c y (n U d y a).1⟩
theorem RxO.read{o w':Option Addr}{W S:Nat→Prop}{h:ad}{b:Nat}{sl:ByteArray}{w:Option ByteArray}{F:Fo}(r:RxO o W h b sl w F S)(t:By h w' o):RxN No h b sl w F:=
 r.freeze (fun _ h=>h.elim) (fun a e=>⟨id,t.plain a (t.tok e)⟩) fun _ _ h=>h
theorem RxO.off{W S:Nat→Prop}{h:ad}{b:Nat}{sl:ByteArray}{w:Option ByteArray}{F:Fo}(r:RxO none W h b sl w F S):RxN W h b sl w F∧∀y,¬S y:=r.elim id fun h=>absurd h.1 (by simp)
theorem FoO.upd{o:Option Addr}{W M:Nat→Prop}{h u:ad}(k:Upd M h u):∀{F:Fo} {ks:List (Option Addr)} {Ts:List (Nat→Prop)},FoO o W h F ks Ts→(∀U∈Ts,∀y,U y→y<h.size)→(∀y,M y→(W y∧∀U∈Ts,¬U y)∨h.size≤y)→FoO o W u F ks Ts
 | .nil,_,_,f,_,_=>f
 | .cons lab w kids rest,ks,Ts,⟨b,sl,ks',S,Ts',e1,e2,e3,r,f⟩,hT,hm=>by
  subst e1 e2;have p:=FoO.upd k f (fun U d=>hT U (aX _ d)) fun y a=>(hm y a).imp (fun h=>⟨h.1,fun U d=>h.2 U (aX _ d)⟩) id
  have n:=hT S (aE ..);have i:∀y,M y→(W y∧¬S y)∨h.size≤y:=fun y a=>(hm y a).imp (fun h=>⟨h.1,h.2 S (aE ..)⟩) id
  have q:∀y,S y→¬M y:=fun y a hM=>by
   have:=n y a;rcases i y hM with h|h
   ·exact h.2 a
   ·omega
  have z:=k.size;rcases r with⟨r,e⟩|⟨e,val,s,m,A,Us,E,hv,C,c,j,d,v,B⟩
  ·exact⟨b,sl,ks',S,Ts',rfl,rfl,e3,.inl ⟨RxN.updM k (fun y a=>(i y a).imp (fun h=>h.1) id) r,e⟩,p⟩
  ·exact⟨b,sl,ks',S,Ts',rfl,rfl,e3,.inr ⟨e,val,s,m,A,Us,k.get E (q b j),hv,C.upd k fun y a=>q y (c y a).1,fun y a=>⟨(c y a).1,(c y a).2.1,by have:=(c y a).2.2;omega⟩,j,d,v,FoO.upd k B (fun U g y a=>n y (d U g y a).1) fun y a=>(i y a).imp (fun h=>⟨h.1,fun U g D=>h.2 (d U g y D).1⟩) id⟩,p⟩
theorem RxO.upd{o:Option Addr}{W M:Nat→Prop}{h i:ad}(k:Upd M h i){b:Nat}{sl:ByteArray}{w:Option ByteArray}{F:Fo}{S:Nat→Prop}(r:RxO o W h b sl w F S)(j:∀y,S y→y<h.size)(hm:∀y,M y→(W y∧¬S y)∨h.size≤y):RxO o W i b sl w F S:=by
 have:=FoO.upd (F:=.cons sl.data.toList w F .nil) k (ks:= [some ⟨b,0,none⟩]) (Ts:= [S]) ⟨b,sl,[],S,[],rfl,rfl,rfl,r,rfl,rfl⟩ (fun U f=>by rw[au.1 f];exact j) fun y p=>(hm y p).imp (fun h=>⟨h.1,fun U f=>by rw[au.1 f];exact h.2⟩) id
 obtain⟨s,a,n,q,Ts',d,c,g,m,_⟩:=this;simp only[fA.injEq,bF.injEq,Addr.mk.injEq,and_true]at d c;obtain⟨d,_⟩:=d;obtain⟨c,_⟩:=c;subst d c;have g:a=sl:=by cases a;cases sl;exact congrArg jE (gS.1 g)
 subst g;exact m
theorem FoO.upd0{o:Option Addr}{W:Nat→Prop}{h i:ad}(k:Upd No h i):∀{F:Fo} {ks:List (Option Addr)} {Ts:List (Nat→Prop)},FoO o W h F ks Ts→FoO o W i F ks Ts
 | .nil,_,_,f=>f
 | .cons lab w kids rest,ks,Ts,⟨b,sl,ks',S,Ts',e1,e2,e3,r,f⟩=>by
  have z:=k.size;refine⟨b,sl,ks',S,Ts',e1,e2,e3,?_,FoO.upd0 k f⟩;rcases r with⟨r,e⟩|⟨e,val,s,c,A,Us,q,hv,p,a,d,m,j,n⟩
  ·exact .inl ⟨RxN.upd0 k r,e⟩
  ·exact .inr ⟨e,val,s,c,A,Us,k.get0 q,hv,p.upd k fun _ _ h=>h,fun y g=>⟨(a y g).1,(a y g).2.1,by have:=(a y g).2.2;omega⟩,d,m,j,FoO.upd0 k n⟩
theorem RxO.upd0{o:Option Addr}{W S:Nat→Prop}{h g:ad}(k:Upd No h g){b:Nat}{sl:ByteArray}{w:Option ByteArray}{F:Fo}(r:RxO o W h b sl w F S):RxO o W g b sl w F S:=by
 have z:=k.size;rcases r with⟨r,e⟩|⟨e,val,s,c,A,Us,p,hv,n,a,d,j,i,m⟩
 ·exact .inl ⟨RxN.upd0 k r,e⟩
 ·exact .inr ⟨e,val,s,c,A,Us,k.get0 p,hv,n.upd k fun _ _ h=>h,fun y f=>⟨(a y f).1,(a y f).2.1,by have:=(a y f).2.2;omega⟩,d,j,i,FoO.upd0 k m⟩
theorem FoO.less{o:Option Addr}{W W':Nat→Prop}{h:ad}(hm:∀y,W' y→W y∨h.size≤y):∀{F:Fo} {ks:List (Option Addr)} {Ts:List (Nat→Prop)},FoO o W h F ks Ts→FoO o W' h F ks Ts
 | .nil,_,_,f=>f
 | .cons lab w kids rest,ks,Ts,⟨b,sl,ks',S,Ts',e1,e2,e3,r,f⟩=>by
  refine⟨b,sl,ks',S,Ts',e1,e2,e3,?_,FoO.less hm f⟩;rcases r with⟨r,e⟩|⟨e,val,s,a,A,Us,m,hv,k,c,d,i,g,j⟩
  ·exact .inl ⟨RxN.less hm r,e⟩
  ·exact .inr ⟨e,val,s,a,A,Us,m,hv,k,c,d,i,g,FoO.less hm j⟩
theorem RxO.less{o:Option Addr}{W W' S:Nat→Prop}{h:ad}(hm:∀y,W' y→W y∨h.size≤y){b:Nat}{sl:ByteArray}{w:Option ByteArray}{F:Fo}(r:RxO o W h b sl w F S):RxO o W' h b sl w F S:=by
 rcases r with⟨r,e⟩|⟨e,val,s,a,A,Us,k,hv,j,c,d,g,f,i⟩
 ·exact .inl ⟨RxN.less hm r,e⟩
 ·exact .inr ⟨e,val,s,a,A,Us,k,hv,j,c,d,g,f,FoO.less hm i⟩
theorem KidO.upd{o:Option Addr}{W M:Nat→Prop}{h c:ad}(k:Upd M h c){a:Option Addr}{n:Bn}{S:Nat→Prop}(r:KidO o W h a n S)(f:∀y,S y→y<h.size)(hm:∀y,M y→(W y∧¬S y)∨h.size≤y):KidO o W c a n S:=let⟨b,sl,d,g,r⟩:=r;⟨b,sl,d,g,r.upd k f hm⟩
theorem KidO.less{o:Option Addr}{W W' S:Nat→Prop}{h:ad}(hm:∀y,W' y→W y∨h.size≤y){a:Option Addr}{n:Bn}(r:KidO o W h a n S):KidO o W' h a n S:=let⟨b,sl,c,d,r⟩:=r;⟨b,sl,c,d,r.less hm⟩
theorem UR{o:Option Addr}{W:Nat→Prop}{h:ad}{F:Fo}{ks:List (Option Addr)}(f:RxF W h F ks):LsO o W h ks F.toL (List.replicate F.toL.length No):=by
 have d:=pT.1 f;refine⟨d.1,by simp,fun i k n S ek c a=>?_⟩
 obtain⟨hi,c⟩:=List.getElem?_eq_some_iff.1 c;obtain⟨b,sl,g,j,r⟩:=d.at hi;rw[ek]at g;cases g;have a:S=No:=by
  rw[List.getElem?_replicate,if_pos hi]at a;exact(bF.inj a).symm
 subst a c;exact⟨b,sl,rfl,j,.inl ⟨r,fun _ h=>h⟩⟩
theorem RxO.view{o:Option Addr}{W S:Nat→Prop}{h:ad}{b:Nat}{sl:ByteArray}{w:Option ByteArray}{F:Fo}(r:RxO o W h b sl w F S):
  ∃(val:ByteArray) (s:SliceV) (ow:Option Addr) (ks:List (Option Addr)) (Us:List (Nat→Prop)),h[b]? =some (.cells (xr sl w.isSome val s ow) bG (0,0))∧val=w.getD ⟨#[]⟩∧Sl mw 1 No h s ks∧LsO o W h ks F.toL Us∧(∀U∈Us,∀y,U y→S y)∧PD Us∧
   ((OwOk W h ow∧(¬W b)∧Sl mw 1 W h s ks∧∀y,¬S y)∨(o.isSome=true∧ow=o∧∃A:Nat→Prop,OwnS mw 1 bj A h s ks∧(∀y,A y→S y∧y≠b∧y<h.size)∧S b∧∀U∈Us,∀y,U y→¬A y∧y≠b)):=by
 rcases r with⟨⟨val,s,ow,ks,B,D,p,m,v⟩,e⟩|⟨e,val,s,f,A,Us,C,hv,n,g,k,d,q,u⟩
 ·refine⟨val,s,ow,ks,_,B,D,p.less fun _ h=>h.elim,UR v,fun U d y a=>?_,fun i j S T _ z E y a _=>?_,.inl ⟨m.2.2,m.2.1,p,e⟩⟩
  ·rw[List.eq_of_mem_replicate d]at a;exact a.elim
  ·rw[List.eq_of_mem_replicate (az z)]at a;exact a.elim
 ·exact⟨val,s,o,f,Us,C,hv,n.sl fun _ _ _ h=>h,DE.1 u,fun U c y a=>(d U c y a).1,q,.inr ⟨e,rfl,A,n,g,k,fun U c y a=>(d U c y a).2⟩⟩
def SR(o:Option Addr)(b:Nat)(A:Nat→Prop)(Us:List (Nat→Prop))(y:Nat):Prop:=o.isSome=true∧(y=b∨A y∨∃U∈Us,U y)
theorem wy{o:Option Addr}{W:Nat→Prop}{h:ad}{b:Nat}{sl val:ByteArray}{s:SliceV}{w:Option ByteArray}{F:Fo}{ks:List (Option Addr)}{A:Nat→Prop}{Us:List (Nat→Prop)}(v:h[b]? =some (.cells (xr sl w.isSome val s o) bG (0,0))) (hv:val=w.getD ⟨#[]⟩) (q:OwnS mw 1 bj A h s ks)
  (n:∀y,A y→y≠b∧y<h.size) (B:∀U∈Us,∀y,U y→¬A y∧y≠b) (j:PD Us) (g:LsO o W h ks F.toL Us) (D:o=none→(∀y,A y→¬W y)∧¬W b):RxO o W h b sl w F (SR o b A Us):=by
 cases o with
 |none=>
  obtain⟨G,H⟩:=D rfl;refine .inl ⟨⟨val,s,none,ks,v,hv,q.sl fun y c _=>G y c,⟨q.cap,H,lw⟩,pT.2 ⟨g.1,fun p j=>?_⟩⟩,fun y c=>by simp[SR]at c⟩
  obtain⟨i,hi,e⟩:=List.getElem_of_mem j;rw[List.length_zip]at hi;have k:i<ks.length:=by omega
  have d:i<F.toL.length:=by omega
  have u:i<Us.length:=by rw[g.2.1];exact d
  rw[List.getElem_zip]at e;subst e;obtain⟨C,m,E,z,r⟩:=g.2.2 i _ _ _ (ag k) (ag d) (ag u);exact⟨C,m,E,z,r.off.1⟩
 |some a=>exact .inr ⟨rfl,val,s,ks,A,Us,v,hv,q,fun y c=>⟨⟨rfl,.inr (.inl c)⟩,n y c⟩,⟨rfl,.inl rfl⟩,fun U f y c=>⟨⟨rfl,.inr (.inr ⟨U,f,c⟩)⟩,B U f y c⟩,j,DE.2 g⟩
end Go.Proofs
namespace Go.Proofs
open Go Go.Lift
theorem Eb{h:ad}{w o:Option Addr}{b:Nat}{sl val:ByteArray}{has:Bool}{s:SliceV}{ow:Option Addr}(t:By h w o)(d:h[b]? =some (.cells (xr sl has val s ow) bG (0,0))) (g:∀a,ow=some a→eL h a) {K:Bool→ad→Prop} (c:K (o.isSome&&(ow==w)) h):
  HC PG nX [.pointer (some ⟨b,0,none⟩),.pointer w] [.c .bool] K h:=by
 refine zg _ w ?_;unfold rS f9;refine ay.2 (Ag t ?_);cases o with
 |none=>exact aj.2 c
 |some a=>exact ay.2 ⟨_,rfl,ow,dh (i:=4) d,trivial,fun x y hx f=>⟨g x hx,t.plain y f⟩,c⟩
theorem lq{W S:Nat→Prop}{h:ad}{w o:Option Addr}{b:Nat}{sl val:ByteArray}{has:Bool}{s:SliceV}{ow:Option Addr}{ks:List (Option Addr)}{Us:List (Nat→Prop)}(t:By h w o)(Y:∀a,o=some a→W a.block)(g:h[b]? =some (.cells (xr sl has val s ow) bG (0,0))) (hn:ks.length≤256)
  (E:(OwOk W h ow∧Sl mw 1 No h s ks∧(∀U∈Us,∀y,U y→y<h.size))∨(o.isSome=true∧ow=o∧∃A:Nat→Prop,OwnS mw 1 bj A h s ks∧(∀y,A y→S y∧y≠b∧y<h.size)∧S b∧∀U∈Us,∀y,U y→¬A y∧y≠b)) {K:Option Addr→ad→Prop}
  (T:∀h' b' s' A,h'[b']? =some (.cells (xr sl has val s' o) bG (0,0))→OwnS mw 1 bj A h' s' ks→(∀y,A y→(S y∨h.size≤y)∧y≠b'∧y<h'.size)→(S b'∨h.size≤b')→(∀U∈Us,∀y,U y→¬A y∧y≠b')→Upd No h h'→K (some ⟨b',0,none⟩) h'):
  HC PG dI [.pointer (some ⟨b,0,none⟩),.pointer w] [.c .ptr] K h:=by
 refine Ca _ w ?_;unfold uB bw aM cp nv f9 jp fL Jm VE;rcases E with⟨v,E,B⟩|⟨e,P,A,Z,q,D,B⟩
 ·refine Eb t g (fun a e=>(v a e).2) ?_
  have J:(o.isSome&&(ow==w))=false:=by
   cases ho:o with
   |none=>rfl
   |some a=>
    have e:=t.tok ho;rw[Option.isSome_some,tS,beq_eq_false_iff_ne];intro j;rw[e]at j;exact(v a j).1 (Y a ho)
  rw[J];refine aj.2 ⟨_,rfl,sl,dh (i:=0) g,has,dh (i:=1) g,val,dh (i:=2) g,s,dh (i:=3) g,ow,dh (i:=4) g,bV ?_⟩;have k1:=Upd.hnew No h T0 bG;have b1:=db h T0 bG;simp only[gf h];generalize hnew h [.string (⟨#[]⟩:ByteArray),.bool false,.string (⟨#[]⟩:ByteArray),.slice none 0 0,.pointer none] bG=h1 at k1 b1;refine cS (c:=T0) (vs:= [.string sl,.bool has,.string val,.slice s.a s.len s.cap,.pointer ow]) b1 rfl fun H b2 F=>?_
  have M:Upd No h H:=k1.trans F fun x hx=>.inr (iA hx.symm)
  have X:h.size<H.size:=aH b2;have G:=M.get0 g;refine⟨_,rfl,s,dh (i:=3) G,?_⟩;refine Hw (E.upd M fun _ h=>h.elim) (by omega) fun s3 V C k=>?_
  have b3:V[h.size]? =some (.cells (xr sl has val s ow) bG (0,0)):=k.get0 b2;refine⟨QA (i:=3) b3 (show 3<5 by decide),Ef (i:=3) (c':=xr sl has val s3 ow) b3 rfl fun h4 Q I=>?_⟩
  refine⟨QA (i:=4) Q (show 4<5 by decide),Ef (i:=4) (c':=xr sl has val s3 none) Q rfl fun R N O=>?_⟩
  have d:=I.tr O;have z3:=k.size;have z5:=d.size;have p:Upd No h R:=(M.tr k).trans d fun x hx=>.inr (iA hx.symm)
  have fin:∀{n:ad},n[h.size]? =some (.cells (xr sl has val s3 o) bG (0,0))→Upd (· =h.size) R n→K (some ⟨h.size,0,none⟩) n:=fun{n} L f=>by
   have z6:=f.size;exact T n h.size s3 (fun x=>H.size≤x∧x<V.size) L (C.within.upd (d.tr f) fun x hx e=>by have e:x=h.size:=e;have:=hx.1;omega) (fun y m=>⟨.inr (by omega),by omega,by omega⟩) (.inr (ao _)) (fun U u y m=>⟨fun h=>by have:=B U u y m;omega,by have:=B U u y m;omega⟩) (p.trans f fun x hx=>.inr (iA hx.symm))
  refine Ag (t.upd0 p) ?_;cases ho:o with
  |none=>rw[ho]at fin;exact aj.2 (fin N (Upd.refl _ _))
  |some a=>
   rw[ho]at fin;rw[t.tok ho];exact ay.2 ⟨QA (i:=4) N (show 4<5 by decide),Ef (i:=4) (c':=xr sl has val s3 (some a)) N rfl fun n L f=>fin L f⟩
 ·refine Eb t g (fun a j=>t.plain a (t.tok (by rw[←P];exact j))) ?_
  have z:(o.isSome&&(ow==w))=true:=by
   obtain⟨a,j⟩:=Option.isSome_iff_exists.1 e;rw[e,P,j,t.tok j];simp
  rw[z];subst P;exact ay.2 (T h b s A g Z (fun y m=>⟨.inl (q y m).1,(q y m).2⟩) (.inl D) B (Upd.refl _ _))
theorem JF{h:ad}{w o:Option Addr}{k v:ByteArray}(t:By h w o){K:Option Addr→ad→Prop}(C:∀h' b s A,h'[b]? =some (.cells (xr k true v s o) bG (0,0))→OwnS mw 1 bj A h' s []→(∀y,A y→h.size≤y∧y≠b∧y<h'.size)→h.size≤b→Upd No h h'→K (some ⟨b,0,none⟩) h'):HC PG tI [.pointer w,.string k,.string v] [.c .ptr] K h:=by
 refine Gk w k v ?_;unfold yp wm jp Jm;have k1:=Upd.hnew No h T0 bG;have b1:=db h T0 bG;refine bV ?_;simp only[gf h];generalize hnew h [.string (⟨#[]⟩:ByteArray),.bool false,.string (⟨#[]⟩:ByteArray),.slice none 0 0,.pointer none] bG=h1 at k1 b1;have D:=k1.size;refine lq (W:=fun y=>∃a,o=some a∧a.block=y) (S:=No) (Us:= []) (ks:= []) (sl:=⟨#[]⟩) (val:=⟨#[]⟩) (has:=false) (s:=⟨none,0,0⟩) (ow:=none) (t.upd0 k1) (fun a e=>⟨a,e,rfl⟩) b1 (bo _) (.inl ⟨lw,Sl.nil oF,fun U B=>by cases B⟩) fun E b2 s A z n d i _ f=>?_
 refine uR (nl:=k) z fun G b3 j=>si (v:=v) b3 fun q p g=>?_
 have c:=j.tr g;have u:h1.size≤b2:=i.elim (fun h=>h.elim) id
 have F:=c.size;exact C q b2 s A p (n.upd c fun x hx e=>(d x hx).2.1 e) (fun y m=>⟨(d y m).1.elim (fun h=>h.elim) fun h=>by omega,(d y m).2.1,by have:=(d y m).2.2;omega⟩) (by omega) ((k1.tr f).trans c fun x hx=>.inr (by have hx:x=b2:=hx;omega))
theorem VV{o:Option Addr}{W:Nat→Prop}{h:ad}{b:Nat}{k v:ByteArray}{s:SliceV}{A:Nat→Prop}(d:h[b]? =some (.cells (xr k true v s o) bG (0,0))) (c:OwnS mw 1 bj A h s []) (a:∀y,A y→y≠b∧y<h.size) (nw:o=none→(∀y,A y→¬W y)∧¬W b):RxO o W h b k (some v) .nil (SR o b A []):=
 wy d rfl c a (fun _ h=>by cases h) (fun i j S T _ e=>by simp at e) ⟨rfl,rfl,fun i k n S e=>by simp at e⟩ nw
theorem LsO.ins{o:Option Addr}{W:Nat→Prop}{h:ad}{ks:List (Option Addr)}{L:List Bn}{Ts:List (Nat→Prop)}(r:LsO o W h ks L Ts){i:Nat}(hi:i≤L.length){k:Option Addr}{n:Bn}{S:Nat→Prop}(c:KidO o W h k n S):LsO o W h (ks.take i++k::ks.drop i) (L.take i++n::L.drop i) (Ts.take i++S::Ts.drop i):=by
 obtain⟨q,s,d⟩:=r;have g:∀{α:Type _} {xs:List α} {x:α} {j:Nat},i≤xs.length→(xs.take i++x::xs.drop i)[j]? =if j<i then xs[j]? else if j=i then some x else xs[j-1]?:=fun{α xs x j} p=>by
  split
  ·rename_i hj
   rw[cq (by rw[aU];omega),om,if_pos hj]
  ·rename_i hj
   rw[dZ (by rw[aU];omega),aU,bC p];split
   ·rename_i e;subst e;simp
   ·rename_i e
    have:j-i=(j-i-1)+1:=by omega
    rw[this,dD,oo];congr 1;omega
 refine⟨by simp[q],by simp[s],fun j k' f m ek a b=>?_⟩
 rw[g (by omega)]at ek a b;split at ek
 ·rename_i hj
  rw[if_pos hj]at a b;exact d j k' f m ek a b
 ·rename_i hj
  rw[if_neg hj]at a b;split at ek
  ·rename_i e
   rw[if_pos e]at a b;cases ek;cases a;cases b;exact c
  ·rename_i e
   rw[if_neg e]at a b;exact d (j-1) k' f m ek a b
theorem UO{Ts:List (Nat→Prop)}(d:PD Ts){i:Nat}(hi:i≤Ts.length){S:Nat→Prop}(f:∀U∈Ts,Dj S U):PD (Ts.take i++S::Ts.drop i):=by
 have g:∀{j:Nat},(Ts.take i++S::Ts.drop i)[j]? =if j<i then Ts[j]? else if j=i then some S else Ts[j-1]?:=fun{j}=>by
  split
  ·rename_i hj
   rw[cq (by rw[aU];omega),om,if_pos hj]
  ·rename_i hj
   rw[dZ (by rw[aU];omega),aU,bC hi];split
   ·rename_i e;subst e;simp
   ·rename_i e
    have:j-i=(j-i-1)+1:=by omega
    rw[this,dD,oo];congr 1;omega
 have m:∀{A B:Nat→Prop},Dj A B→Dj B A:=fun h y o n=>h y n o
 intro a b A B k c eb;rw[g]at c eb;split at c<;>split at eb
 ·exact d a b A B k c eb
 ·rename_i h1 h2
  split at eb
  ·cases eb;exact m (f A (az c))
  ·exact d a (b-1) A B (by omega) c eb
 ·rename_i h1 h2
  split at c
  ·cases c;exact f B (az eb)
  ·exact d (a-1) b A B (by omega) c eb
 ·rename_i h1 h2
  split at c<;>split at eb
  ·omega
  ·cases c;exact f B (az eb)
  ·cases eb;exact m (f A (az c))
  ·exact d (a-1) (b-1) A B (by omega) c eb
theorem QQ{Ts:List (Nat→Prop)}(m:PD Ts){i:Nat}{S:Nat→Prop}(f:∀j U,j≠i→Ts[j]? =some U→Dj S U):PD (Ts.set i S):=by
 have k:∀{A B:Nat→Prop},Dj A B→Dj B A:=fun h y n g=>h y g n
 intro a b A B d c eb;rw[eM]at c eb;split at c<;>split at eb
 ·omega
 ·rename_i h1 h2
  subst h1;split at c
  ·cases c;exact f b B (Ne.symm d) eb
  ·cases c
 ·rename_i h1 h2
  subst h2;split at eb
  ·cases eb;exact k (f a A d c)
  ·cases eb
 ·exact m a b A B d c eb
theorem LsO.set{o:Option Addr}{W:Nat→Prop}{h:ad}{ks:List (Option Addr)}{L:List Bn}{Ts:List (Nat→Prop)}(d:ks.length=L.length)(m:Ts.length=L.length){i:Nat}(f:∀(j:Nat) (k:Option Addr) (n:Bn) (S:Nat→Prop),j≠i→ks[j]? =some k→L[j]? =some n→Ts[j]? =some S→KidO o W h k n S) {k:Option Addr} {n:Bn} {S:Nat→Prop} (c:KidO o W h k n S):LsO o W h (ks.set i k) (L.set i n) (Ts.set i S):=by
 refine⟨by simp[d],by simp[m],fun j k' g p ek a b=>?_⟩
 rw[eM]at ek a b;by_cases e:i=j
 ·rw[if_pos e]at ek a b
  split at ek
  ·rename_i hj
   rw[if_pos (by omega)]at a b;cases ek;cases a;cases b;exact c
  ·cases ek
 ·rw[if_neg e]at ek a b
  exact f j k' g p (Ne.symm e) ek a b
end Go.Proofs
namespace Go.Proofs
open Go Go.Lift
theorem By.lt{h:ad}{w o:Option Addr}(t:By h w o){a:Addr}(e:w=some a):a.block<h.size:=by
 obtain⟨c,ty,b,_⟩:=t.plain a e;exact aH b
theorem LsO.move{o:Option Addr}{W W' M:Nat→Prop}{h d:ad}{ks:List (Option Addr)}{L:List Bn}{Us:List (Nat→Prop)}(r:LsO o W h ks L Us)(k:Upd M h d)(f:∀U∈Us,∀y,U y→y<h.size)(hm:∀y,M y→(W y∧∀U∈Us,¬U y)∨h.size≤y)(j:∀y,W' y→W y∨h.size≤y):LsO o W' d ks L Us:=by
 refine⟨r.1,r.2.1,fun i kk n S ek g c=>?_⟩
 have b:=az c;exact(((r.2.2 i kk n S ek g c).less (W':=fun y=>W y∨h.size≤y) fun y a=>a).upd k (f S b) fun y a=>(hm y a).imp (fun h=>⟨.inl h.1,h.2 S b⟩) id).less fun y a=>.inl (j y a)
theorem y5{o:Option Addr}{S A:Nat→Prop}{Us:List (Nat→Prop)}{b z:Nat}{a:ad}(j:S b∨z≤b)(d:b<a.size)(g:∀y,A y→(S y∨z≤y)∧y<a.size)(f:∀U∈Us,∀y,U y→(S y∨z≤y)∧y<a.size){y:Nat}(i:SR o b A Us y):(S y∨z≤y)∧y<a.size:=by
 rcases i.2 with rfl|h|⟨U,c,h⟩
 ·exact⟨j,d⟩
 ·exact g y h
 ·exact f U c y h
set_option maxHeartbeats 1000000 in
theorem JE{W S:Nat→Prop}{h:ad}{w' o:Option Addr}{b:Nat}{sl:ByteArray}{w:Option ByteArray}{F:Fo}(r:RxO o W h b sl w F S)(t:By h w' o)(hW:∀y,W y→y<h.size)(N:∀y,S y→W y)(Y:∀a,o=some a→W a.block)(hn:F.toL.length≤256){c:Nat}(hc:c≤sl.size){K:Option Addr→ad→Prop}
  (hk:∀h' b' S',RxO o (fun y=>W y∨S' y) h' b' (sl.extract 0 c) none (.cons (sl.data.toList.drop c) w F .nil) S'→(∀y,S' y→(S y∨h.size≤y)∧y<h'.size)→Upd S h h'→K (some ⟨b',0,none⟩) h'):HC PG nW [.pointer (some ⟨b,0,none⟩),.pointer w',.int .i64 c] [.c .ptr] K h:=by
 refine y9 _ w' c ?_;unfold rP bw cp wm jp Jm;have hno:o=none→∀y,¬S y:=fun e=>by subst e;exact r.off.2
 obtain⟨val,s,ow,ks,Us,hb,hv,hs,hL,C,hPD,hown⟩:=r.view;have v:∀y,S y→y<h.size:=fun y d=>hW y (N y d)
 have lab:∀{h'},Upd No h h'→aR h' (adr ⟨b,0,none⟩ 0)=some (.string sl):=fun k=>dh (i:=0) (k.get0 hb)
 have r0:=Upd.refl No h;refine⟨_,rfl,sl,lab r0,⟨by omega,by omega⟩,bV ?_⟩
 have k1:=Upd.hnew No h T0 bG;have b1:=db h T0 bG;simp only[gf h];generalize hnew h [.string (⟨#[]⟩:ByteArray),.bool false,.string (⟨#[]⟩:ByteArray),.slice none 0 0,.pointer none] bG=h1 at k1 b1;have z1:=k1.size;refine⟨lab k1,?_⟩;refine lq (W:=W) (S:=No) (Us:= []) (ks:= []) (sl:=⟨#[]⟩) (val:=⟨#[]⟩) (has:=false) (s:=⟨none,0,0⟩) (ow:=none) (t.upd0 k1) Y b1 (bo _) (.inl ⟨lw,Sl.nil oF,fun U q=>by cases q⟩) fun h2 u s2 A2 b2 _ _ hbu _ hu2=>⟨lab (k1.tr hu2),?_⟩
 have hbu:h1.size≤u:=hbu.elim (fun h=>h.elim) id
 have hbu2:=aH b2;rw[aO];refine uR b2 fun h3 b3 hu3=>?_
 have k02:=k1.tr hu2;have f:Upd No h h3:=k02.trans hu3 fun x hx=>.inr (by have hx:x=u:=hx;omega)
 have z02:=k02.size;have z3:=hu3.size;have z03:=f.size;have t3:=t.upd0 f;refine lq (W:=W) (S:=S) (Us:=Us) (ks:=ks) (s:=s) (ow:=ow) (val:=val) (sl:=sl) (has:=w.isSome) t3 Y (f.get0 hb) (by rw[hL.1];exact hn) ?_ fun h4 m s4 Q L hA4 g hb4 hU4 O=>?_
 ·rcases hown with⟨how,_,_,hS0⟩|⟨e,eo,A,hA,I,R,hUA⟩
  ·exact .inl ⟨how.upd f fun _ h=>h.elim,hs.upd f fun _ h=>h.elim,fun U q y d=>absurd (C U q y d) (hS0 y)⟩
  ·exact .inr ⟨e,eo,A,hA.upd f fun _ _ h=>h,fun y d=>⟨(I y d).1,(I y d).2.1,by have:=(I y d).2.2;omega⟩,R,hUA⟩
 refine⟨_,rfl,sl,dh (i:=0) L,⟨by omega,by omega⟩,?_⟩
 refine uR (nl:=sl.extract c sl.size) L fun p b5 G=>?_
 have z4:=O.size;have z5:=G.size;have hA5:=hA4.upd G fun x hx e=>(g x hx).2.1 e
 have nb:u≠m:=fun e=>by
  rcases hb4 with h|h
  ·have:=v _ h;omega
  ·omega
 have b35:p[u]? =some (.cells (xr (sl.extract 0 c) false ⟨#[]⟩ s2 o) bG (0,0)):=G.get (O.get0 b3) (by show ¬u=m;omega);have k6:=Upd.hnew No p [.pointer (some ⟨m,0,none⟩)] bj;have b6:=db p [.pointer (some ⟨m,0,none⟩)] bj;refine bV ?_;simp only[gf p];generalize hnew p [.pointer (some ⟨m,0,none⟩)] bj=h6 at k6 b6;have z6:=aH b6
 have V:=k6.get0 b35;refine⟨_,rfl,QA (i:=3) V (show 3<5 by decide),Ef (i:=3) (c':=xr (sl.extract 0 c) false ⟨#[]⟩ ⟨some ⟨p.size,0,none⟩,1,1⟩ o) V rfl fun M b7 E=>?_⟩
 have z7:=E.size;have zb4:=aH L;have u07:Upd (· =m) h M:=((((f.tr O).wide.tr G).tr k6.wide).trans E fun x hx=>.inr (by have hx:x=u:=hx;omega))
 have b57:=E.get (k6.get0 b5) (by show ¬m=u;omega);have b67:M[p.size]? =some (.cells #[.pointer (some ⟨m,0,none⟩)] bj (0,0)):=E.get b6 (by show ¬p.size=u;omega);have hA7:=(hA5.upd k6 fun _ _ h=>h).upd E fun x hx e=>by
  have e:x=u:=e;rcases(g x hx).1 with h|h
  ·have:=v x h;omega
  ·omega
 have D:∀y,Q y→(S y∨h.size≤y)∧y<M.size:=fun y d=>⟨(g y d).1.imp id fun h=>by omega,by have:=(g y d).2.2;omega⟩
 have z:S m∨h.size≤m:=hb4.imp id fun h=>by omega
 have hUb:∀U∈Us,∀y,U y→(S y∨h.size≤y)∧y<M.size:=fun U q y d=>⟨.inl (C U q y d),by have:=v y (C U q y d);omega⟩
 have hSk:∀y,SR o m Q Us y→(S y∨h.size≤y)∧y<M.size:=fun y d=>y5 z (by omega) D hUb d
 have hSk5:∀y,SR o m Q Us y→y<p.size:=fun y d=>by
  rcases d.2 with rfl|h|⟨U,J,h⟩
  ·omega
  ·have:=(g y h).2.2;omega
  ·have:=v y (C U J y h);omega
 have hSkb:∀y,SR o m Q Us y→y≠u:=fun y d e=>by
  subst e;rcases d.2 with h|h|⟨U,J,h⟩
  ·exact nb h
  ·rcases(g y h).1 with h|h
   ·have:=v y h;omega
   ·omega
  ·have:=v y (C U J y h);omega
 have H:∀{A:Nat→Prop} {Z:Nat} {T:List (Nat→Prop)} {X:Nat→Prop},(∀y,A y→S y∨h.size≤y)→(S Z∨h.size≤Z)→o=none→(∀y,A y→¬(W y∨SR o u X T y))∧¬(W Z∨SR o u X T Z):=fun{A Z T X} hA hb e=>by
  have no:∀y,(S y∨h.size≤y)→¬(W y∨SR o u X T y):=fun y d P=>by
   rcases P with P|⟨P,_⟩
   ·rcases d with h|h
    ·exact hno e y h
    ·have:=hW y P;omega
   ·rw[e]at P;cases P
  exact⟨fun y d=>no y (hA y d),no _ hb⟩
 refine hk M u (SR o u (· =p.size) [SR o m Q Us]) (wy (ks:= [some ⟨m,0,none⟩]) b7 rfl (⟨rfl,oF,ao _,.inr ⟨p.size,[],rfl,rfl,by simpa[mw]using b67,rfl⟩⟩:OwnS mw 1 bj (· =p.size) M ⟨some ⟨p.size,0,none⟩,1,1⟩ [some ⟨m,0,none⟩]) (fun y d=>?_) (fun U q y d=>?_) (fun i j A B hij e1 e2=>?_) ⟨rfl,rfl,fun i kk n U ek en eU=>?_⟩ (H (fun y d=>?_) (.inr (by omega)))) (fun y d=>?_) (u07.mono fun y d=>?_)
 ·have d:y=p.size:=d
  omega
 ·rw[au.1 q]at d
  have:=hSk5 y d;exact⟨fun h=>by have h:y=p.size:=h;omega,hSkb y d⟩
 ·cases i with
  |zero=>cases j with
   |zero=>exact absurd rfl hij
   |succ j=>simp at e2
  |succ i=>simp at e1
 ·cases i with
  |succ i=>simp at ek
  |zero=>
   simp only[ce,bF.injEq,Fo.toL]at ek en eU;subst ek en eU;refine⟨m,sl.extract c sl.size,rfl,Ao ..,wy b57 hv hA7 (fun y d=>⟨(g y d).2.1,(D y d).2⟩) hU4 hPD (hL.move u07 (fun U q y d=>v y (C U q y d)) (fun y d=>?_) fun y d=>?_) (H (fun y d=>(D y d).1) z)⟩
   ·have d:y=m:=d
    subst d;exact z.imp (fun h=>⟨N y h,fun U q hu=>(hU4 U q y hu).2 rfl⟩) id
   ·rcases d with h|h
    ·exact .inl h
    ·rcases h.2 with rfl|h|⟨U,q,h⟩
     ·exact .inr (by omega)
     ·have h:y=p.size:=h
      exact .inr (by omega)
     ·rw[au.1 q]at h
      exact(hSk y h).1.imp (N y) id
 ·have d:y=p.size:=d
  exact .inr (by omega)
 ·refine y5 (.inr (by omega)) (aH b7) (fun y d=>?_) (fun U q y d=>?_) d
  ·have d:y=p.size:=d
   exact⟨.inr (by omega),by omega⟩
  ·rw[au.1 q]at d
   exact hSk y d
 ·have d:y=m:=d
  rw[d];exact z
end Go.Proofs
