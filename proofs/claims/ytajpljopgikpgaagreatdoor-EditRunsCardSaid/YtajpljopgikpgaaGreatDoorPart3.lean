/- A part of the proof that the named laws of this program answer true, whatever the input. -/
import Derived.Test.YtajpljopgikpgaaGreatDoorPart2
import Derived.Test.YtajpljopgikpgaaGreatDoorPart1
open Array renaming toList_inj→hO
open Bool renaming true_and→sG
open ByteArray renaming mk→jZ,data_extract→oo
open Int renaming toNat_natCast→aH
open List renaming range→cK,range_succ→f9,map_append→dX,sum_append→iE,map_cons→fQ,map_nil→oe,sum_cons→o6,sum_nil→ur,length_cons→aN,length_append→ae,flatten_append→dM,mem_singleton→aq,mem_cons_self→az,mem_cons_of_mem→aR,flatMap_cons→aX,flatten_cons→eh,length_nil→cF,length_singleton→aK,append_assoc→ar,getElem?_cons_succ→du,getElem_mem→aP,mem_of_mem_take→gB,cons_append→cQ,append_inj→pM,cons→fi,pairwise_cons→bq,mem_cons→au,zip_cons_cons→im,length_take→aI,zip_eq_zipWith→mh,length_drop→aL,set_eq_take_append_cons_drop→dY,getElem?_eq_getElem→af,extract_eq_take_drop→ge,getElem?_cons_zero→bW,length_eq_zero_iff→bV,mem_of_getElem?→ay,getElem?_append_left→co,getElem?_take→nf,getElem?_append_right→cL,getElem?_drop→ng,getElem?_set→fe
open Nat renaming add_zero→cZ,add_mul→iQ,mul_le_mul_left→iZ,mul_le_mul_right→bZ,le_trans→ba,not_lt_zero→gP,zero_le→aU,le_refl→ao,shiftRight_eq_div_pow→cn,mod_eq_of_lt→de,lt_or_ge→bH,zero_add→aE,le_of_eq→g5,min_eq_left→bm
open Option renaming some→bv
namespace Go.Proofs
open Go Go.Lift
theorem qi(x:Hs)(lev:Nat)(l:List Pr):∀n,(((cK n).map fun c=>(part x lev c l).length).sum)=(l.filter fun p=>decide (ck x lev p.1<n)).length
 |0=>by
  have:(l.filter fun p=>decide (ck x lev p.1<0))= []:=List.filter_eq_nil_iff.2 fun p _=>by simp
  rw[this];rfl
 |n+1=>by
  rw[f9,dX,iE,qi x lev l n];simp only[fQ,oe,o6,ur,cZ];unfold part;clear qi;induction l with
  |nil=>rfl
  |cons p l ih=>
   simp only[List.filter_cons,decide_eq_true_iff];split<;>split<;>split<;>first|omega|(simp only[aN];omega)
theorem zT(x:Hs)(lev:Nat)(l:List Pr):(fC x lev l).length+(iV x lev l).flatten.length≤l.length:=by
 have h:=qi x lev l 32;have d:(l.filter fun p=>decide (ck x lev p.1<32)).length≤l.length:=List.length_filter_le ..
 have:∀n,(fm (fun c=>gk (part x lev c l)) n).length+(fm (fun c=>dZ (part x lev c l)) n).flatten.length≤((cK n).map fun c=>(part x lev c l).length).sum:=by
  intro n;induction n with
  |zero=>simp[fm]
  |succ n ih=>
   rw[fS,fS,f9,dX,iE];simp only[ae,dM,fQ,oe,o6,ur,cZ];generalize part x lev n l=q;have:(gk q).toList.length+(dZ q).toList.flatten.length≤q.length:=by
    match q with
    | []=>simp[gk,dZ]
    | [a]=>simp[gk,dZ]
    |a::b::q=>simp[gk,dZ]
   omega
 have:=this 32;unfold fC iV;omega
end Go.Proofs
namespace Go.Proofs
open Go Go.Lift
theorem qj{x:Hs}{lev:Nat}{l:List Pr}{p:Pr}(h:p∈fC x lev l):p∈l:=by
 unfold fC fm at h;obtain⟨c,_,hc⟩:=List.mem_filterMap.1 h;unfold gk at hc;split at hc
 ·rename_i q hq
  cases hc;have:p∈part x lev c l:=by rw[hq];exact aq.2 rfl
  exact(my.1 this).1
 ·cases hc
theorem oF{x:Hs}{lev:Nat}{l L:List Pr}(h:L∈iV x lev l):2≤L.length∧∃c,L=part x lev c l:=by
 unfold iV fm at h;obtain⟨c,_,hc⟩:=List.mem_filterMap.1 h;unfold dZ at hc;split at hc
 ·cases hc;exact⟨by assumption,c,rfl⟩
 ·cases hc
theorem Fit.part{x:Hs}{lev c:Nat}{l:List Pr}(h:Fit l):Fit (part x lev c l):=fun p a=>h p (my.1 a).1
theorem BW{B:Nat}{f:List Pr→List UInt8}:∀{ls:List (List Pr)},(∀L∈ls,2≤L.length∧(f L).length≤9+L.length*B)→(ls.flatMap f).length≤ls.flatten.length*(B+9)
 | [],_=>by simp
 |L::ls,h=>by
  have a:=h L (az ..);have b:=BW (ls:=ls) fun M hM=>h M (aR _ hM)
  rw[aX,ae,eh,ae,iQ];have:L.length*(B+9)=L.length*B+L.length*9:=Nat.mul_add ..;omega
theorem mS{x:Hs}:∀(m:Nat) {l:List Pr},Fit l→(eP x m l).length≤9+l.length*(20004+9*(m+1))
 |0,l,h=>by
  have:=kU h;unfold eP;rw[aN,ae,c7];have:l.length*20004≤l.length*(20004+9*(0+1)):=iZ _ (by omega);omega
 |m+1,l,h=>by
  have n:=kU (l:=fC x (12-m) l) fun p e=>h p (qj e)
  have j:=BW (f:=eP x m) (ls:=iV x (12-m) l) (B:=20004+9*(m+1)) fun L b=>by
   obtain⟨g,c,rfl⟩:=oF b;exact⟨g,mS m h.part⟩
  have a:=zT x (12-m) l;unfold eP;rw[aN,ae,ae,ae,c7,c7];have k:(fC x (12-m) l).length*20004≤(fC x (12-m) l).length*(20004+9*(m+1+1)):=iZ _ (by omega);have d:((fC x (12-m) l).length+(iV x (12-m) l).flatten.length)*(20004+9*(m+1+1))≤l.length*(20004+9*(m+1+1)):=bZ _ a;rw[iQ]at d
  have i:20004+9*(m+1)+9=20004+9*(m+1+1):=by omega
  rw[i]at j;omega
end Go.Proofs
namespace Go.Proofs
open Go Go.Lift
theorem JY{h:ad}{b d n:Nat}{sp sk:SliceV}{c:Bool}{ow:Option Addr}(a:h[b]? =some (.cells (fy d n sp sk c ow) bK (0,0))) (f:sp.len+sk.len≤1000000000) {K:Int→ad→Prop} (e:K ((sp.len+sk.len:Nat):Int) h):HC PG j6 [.pointer (some ⟨b,0,none⟩)] [.c (.int .i64)] K h:=by
 refine uD _ ?_;unfold pJ bD;refine aj.2 ⟨_,rfl,sp,dT (i:=2) a,_,rfl,sk,dT (i:=3) a,?_⟩;rw[oq (by omega)];exact_mod_cast e
def Bes(M:Nat→Prop)(h a:ad)(b:Nat):Prop:=M b∧(b<h.size∨a.size≤b)
theorem Bes.own{α:Type}{f:α→List Value}{c:Nat}{t:TypeId}{M:Nat→Prop}{h a:ad}{s:SliceV}{xs:List α}(e:OwnS f c t M h s xs)(d:Upd No h a):OwnS f c t (Bes M h a) a s xs:=
 (e.within.upd d fun _ _ h=>h).more fun _ b=>⟨b.1,.inl b.2⟩
theorem Bes.sl{α:Type}{f:α→List Value}{c:Nat}{t:TypeId}{M:Nat→Prop}{h a:ad}{s:SliceV}{xs:List α}(d:OwnS f c t (fun x=>h.size≤x) a s xs):Sl f c (Bes M h a) a s xs:=
 d.sl fun b g e hx=>by rcases hx.2 with h|h<;>omega
theorem Bes.hM{M:Nat→Prop}{h a:ad}(hM:∀b,h.size≤b→M b)(d:Upd No h a):∀b,a.size≤b→Bes M h a b:=fun b c=>⟨hM b (ba d.size c),.inr c⟩
theorem Ow{W:Nat→Prop}{x:Hs}:∀(m:Nat),m≤13→∀{b:Nat} {l:List Pr} {O h:ad} {M:Nat→Prop} {s:SliceV} {xs:List UInt8},TrieAt W x O m b l→Upd No O h→(∀y,M y→O.size≤y)→OwnS nq 1 cp M h s xs→(∀y,h.size≤y→M y)→Fit l→l.length≤60000→
  xs.length+(9+l.length*(20004+9*(m+1)))≤140737488355328→∀{K:SliceV→ad→Prop},(∀s' j,OwnS nq 1 cp M j s' (xs++eP x m l)→Upd M h j→K s' j)→
  HC PG rh [.slice s.a s.len s.cap,.pointer (some ⟨b,0,none⟩),.int .i64 ((13-m:Nat):Int)] [.c .slice] K h:=by
 intro m;induction m with
 |zero=>
  intro _ b l O h M s xs t hu0 Q ho hM hf hn hx K hk;refine Bl s (some ⟨b,0,none⟩) ((13-0:Nat):Int) ?_;unfold vG bQ dK Hn MD Qo;have st:∀{j},Upd M h j→Upd No O j:=fun k=>hu0.trans k fun y o=>.inr (Q y o)
  have bk:∀{j},Upd M h j→BuckAt W j b l:=fun k=>BuckAt.upd t (st k) fun _ h=>h.elim
  have C:∀{j},Upd M h j→∀y,j.size≤y→M y:=fun k y o=>hM y (ba k.size o)
  obtain⟨sp,sk,ow,hb,_⟩:=(bk (Upd.refl M h)).ex;refine g7 hb (aA.2 (bT ?_));refine sR (b:=1) rfl ho hM (by omega) fun s1 h1 ho1 u=>?_
  obtain⟨sp1,sk1,ow1,Y,V,hsk1,_⟩:=(bk u).ex;have e1:=V.len;have e2:=hsk1.len;rw[cF]at e2;refine JY Y (by omega) ?_;have ew:IntKind.wrap .u64 ((sp1.len+sk1.len:Nat):Int)=((l.length:Nat):Int):=by rw[Go.IntWalk.u64_in _ (by omega)];omega
  rw[ew];have hl2:l.length*20004≤l.length*(20004+9*(0+1)):=iZ _ (by omega);refine Kb ho1 (C u) (n:=l.length) (k:=2) (by omega) (by omega) (by rw[ae,aK];omega) fun s2 h2 S w=>?_
  have T:=u.tr w;obtain⟨sp2,sk2,ow2,hb2,J,_⟩:=(bk T).ex;refine pf hb2 J (by omega) fun s3 F E z=>?_
  refine Cx (M:=Bes M h2 F) (W:=Bes M h2 F) (Bes.own S z) (Bes.hM (C T) z) (Bes.sl E) (fun _ h _=>h) hf (by omega) (by rw[ae,ae,aK,c7];omega) fun s4 G ho4 P=>?_
  refine hk s4 G ?_ (T.tr (z.wide.tr (P.mono fun y o=>.inl o.1)))
  have:=ho4.more (M':=M) fun y o=>o.1
  rw[eP,List.append_cons,←ar];exact this
 |succ m ih=>
  intro hm b l O h M s xs t hu0 Q ho hM hf hn hx K hk;refine Bl s (some ⟨b,0,none⟩) ((13-(m+1):Nat):Int) ?_;unfold vG bQ dK Hn MD Qo;have st:∀{j},Upd M h j→Upd No O j:=fun k=>hu0.trans k fun y o=>.inr (Q y o)
  have C:∀{j},Upd M h j→∀y,j.size≤y→M y:=fun k y o=>hM y (ba k.size o)
  obtain⟨sl,nd,hs0⟩:=t;have hs:∀c,c<32→SlotIs W x O m sl c (part x (12-m) c l):=hs0;have hd:∀{j},Upd M h j→∃d n sp sk ow,j[b]? =some (.cells (fy d n sp sk false ow) bK (0,0))∧d=ij (fun c=>(gk (part x (12-m) c l)).isSome) 32∧n=ij (fun c=>(dZ (part x (12-m) c l)).isSome) 32∧Sl fP 2 W j sp (fC x (12-m) l)∧Sl px 1 W j sk (fm sl.k 32):=fun{j} k=>by
   obtain⟨d,n,sp,sk,ow,hb,bits,F,G,_⟩:=(nd.upd (st k) fun _ h=>h.elim).ex
   refine⟨d,n,sp,sk,ow,hb,FE bits.d32 fun c hc=>?_,FE bits.n32 fun c hc=>?_,?_,G⟩
   ·rw[bits.dp c hc,(Cv (hs c hc)).1]
   ·rw[bits.nk c hc,(Cv (hs c hc)).2]
   ·rw[←BX hs];exact F
  have hka:KidsAt W x O m (fm sl.k 32) (iV x (12-m) l):=Kh 32 hs;have v:=mS (x:=x) (m+1) hf;have hlen2:=v;have hml:∀L∈iV x (12-m) l,Fit L∧L.length≤60000:=fun L hL=>by
   obtain⟨_,c,rfl⟩:=oF hL;exact⟨hf.part,ba j3 hn⟩
  have hsf:Fit (fC x (12-m) l):=fun p hp=>hf p (qj hp)
  have hsl:=zT x (12-m) l;unfold eP at hk v;have Z:∀q:Nat→Bool,ij q 32<4294967296:=fun q=>li q 32
  have hd32:=Z fun c=>(gk (part x (12-m) c l)).isSome
  have hn32:=Z fun c=>(dZ (part x (12-m) c l)).isSome
  generalize ij (fun c=>(gk (part x (12-m) c l)).isSome) 32=D at hk hd v hd32
  generalize ij (fun c=>(dZ (part x (12-m) c l)).isSome) 32=N at hk hd v hn32
  have hS:(fC x (12-m) l).length≤60000:=by omega
  have hSb:(fC x (12-m) l).length*20004≤l.length*(20004+9*(m+1+1)):=Nat.mul_le_mul (by omega) (by omega);have hML:∀L∈iV x (12-m) l,2≤L.length∧(eP x m L).length≤9+L.length*(20004+9*(m+1)):=fun L hL=>by
   obtain⟨F,c,rfl⟩:=oF hL;exact⟨F,mS m hf.part⟩
  have hbud:9+(fC x (12-m) l).length*20004+(iV x (12-m) l).flatten.length*(20004+9*(m+1)+9)≤9+l.length*(20004+9*(m+1+1)):=by
   have h5:(fC x (12-m) l).length*20004≤(fC x (12-m) l).length*(20004+9*(m+1+1)):=iZ _ (by omega);have h6:((fC x (12-m) l).length+(iV x (12-m) l).flatten.length)*(20004+9*(m+1+1))≤l.length*(20004+9*(m+1+1)):=bZ _ hsl;rw[iQ]at h6;have h7:20004+9*(m+1)+9=20004+9*(m+1+1):=by omega
   rw[h7];omega
  have hps:=kU hsf;generalize fC x (12-m) l=So at hk hd hsf hS hSb hbud v hps;generalize iV x (12-m) l=Ma at hk hka hml hML hbud v;obtain⟨d,n,sp,sk,ow,hb,_⟩:=hd (Upd.refl M h);refine g7 hb (aj.2 (Join.intro (fun s' j=>OwnS nq 1 cp M j s' (xs++(0::(kW D 4++kW N 4)))∧Upd M h j) (fun R hR=>bT ?_) ?_))
  ·refine sR (b:=0) rfl ho hM (by omega) fun s1 h1 ho1 u=>?_
   obtain⟨d1,n1,sp1,sk1,ow1,Y,rfl,rfl,_⟩:=hd u;refine GE Y ?_;rw[Go.IntWalk.u64_in _ (by omega)];refine Kb ho1 (C u) (n:=d1) (k:=4) (by omega) (by omega) (by rw[ae,aK];omega) fun s2 h2 S w=>?_
   obtain⟨d2,n2,sp2,sk2,ow2,hb2,rfl,rfl,_⟩:=hd (u.tr w);refine yA hb2 ?_;rw[Go.IntWalk.u64_in _ (by omega)];refine Kb S (C (u.tr w)) (n:=n2) (k:=4) (by omega) (by omega) (by rw[ae,ae,aK,c7];omega) fun s3 F E z=>?_
   refine hR _ _ ⟨?_,(u.tr w).tr z⟩;rw[List.append_cons,←ar];exact E
  ·rintro s' h1 ⟨ho1,u⟩
   obtain⟨d1,n1,sp1,sk1,ow1,Y,_,_,V,_⟩:=hd u;refine pf Y V (by omega) fun s2 h2 S w=>?_
   refine Cx (M:=Bes M h1 h2) (W:=Bes M h1 h2) (Bes.own ho1 w) (Bes.hM (C u) w) (Bes.sl S) (fun _ h _=>h) hsf (by omega) (by rw[ae,aN,ae,c7,c7];omega) fun s3 F E z=>?_
   have E:=E.more (M':=M) fun y o=>o.1
   have hu03:Upd M h F:=u.tr (w.wide.tr (z.mono fun y o=>.inl o.1))
   have e13:(((13-(m+1):Nat):Int)==(13:Int))=false:=by rw[beq_eq_false_iff_ne];omega
   rw[e13];refine aj.2 ?_;obtain⟨d3,n3,sp3,sk3,ow3,hb3,_,_,_,hsk3⟩:=hd hu03;have hk32:=vi (g:=sl.k);refine Gu hb3 hsk3 (by omega) fun s4 G ho4 P=>?_
   have hsk4:Sl px 1 (Bes M F G) G s4 (fm sl.k 32):=Bes.sl ho4;have hlk:=hsk4.len;have ew:IntKind.wrap .i64 (((13-(m+1):Nat):Int)+1)=((13-m:Nat):Int):=by rw[oq (by omega)];omega
   rw[ew];have hMb:=Bes.hM (C hu03) P;have hob:=Bes.own E P;have hu04:Upd M h G:=hu03.tr P.wide;have hMM:∀y,Bes M F G y→M y:=fun y o=>o.1
   have st4:∀{j},Upd (Bes M F G) G j→Upd M h j:=fun k=>hu04.tr (k.mono fun y o=>.inl o.1)
   generalize Bes M F G=B at hsk4 hMb hob hMM st4;have hkl:∀{ks:List (Option Addr)} {ls:List (List Pr)},KidsAt W x O m ks ls→ks.length=ls.length∧∀i (hi:i<ls.length),∃kb,ks[i]? =some (some ⟨kb,0,none⟩)∧TrieAt W x O m kb ls[i]:=by
    intro ks;induction ks with
    |nil=>intro ls;cases ls with
     |nil=>intro _;exact⟨rfl,fun i hi=>absurd hi (gP _)⟩
     |cons a ls=>intro h;exact h.elim
    |cons k ks ihk=>intro ls;cases ls with
     |nil=>intro h;exact h.elim
     |cons a ls=>
      rintro⟨⟨kb,rfl,tk⟩,h⟩;obtain⟨e,hr⟩:=ihk h;refine⟨by simp[e],fun i hi=>?_⟩
      cases i with
      |zero=>exact⟨kb,rfl,tk⟩
      |succ i=>simp only[du,List.getElem_cons_succ];exact hr i (by simpa using hi)
   obtain⟨hkl,hkt⟩:=hkl hka;have hbase:(xs++(0::(kW D 4++kW N 4))++jg So).length≤xs.length+(9+So.length*20004):=by
    rw[ae,ae,aN,ae,c7,c7];omega
   refine LoopP.ghost (fun(i:Nat) (t:SliceV×Int) j=>t.2=(i:Int)∧i≤Ma.length∧OwnS nq 1 cp B j t.1 (xs++(0::(kW D 4++kW N 4))++jg So++(Ma.take i).flatMap (eP x m))∧Upd B G j) (fun i=>Ma.length-i) 0 ⟨rfl,aU _,by simpa using hob,Upd.refl _ _⟩ ?_
   rintro I i ⟨so,ti⟩ j ⟨e1,hi,ho',H⟩ hI;simp only at e1 ho';subst e1;refine aG (fun A=>?_) fun hge=>?_
   ·have A:i<Ma.length:=by have:(i:Int)<(s4.len:Int):=A;omega
    obtain⟨kb,hk1,tk⟩:=hkt i A;obtain⟨a,ha,_,hv⟩:=(hsk4.upd H fun y o=>.inl o).at0 hk1
    refine⟨⟨by simp only;omega,by simp only;omega⟩,a,ha,some ⟨kb,0,none⟩,hv,?_⟩
    have X:Ma[i]∈Ma:=aP A;have htl:=BW (f:=eP x m) (ls:=Ma.take i) (B:=20004+9*(m+1)) fun L hL=>hML L (gB hL)
    have hsp:(Ma.take i).flatten.length+Ma[i].length≤Ma.flatten.length:=by
     have e:Ma=Ma.take i++Ma[i]::Ma.drop (i+1):=by rw[List.getElem_cons_drop,List.take_append_drop]
     have:=congrArg (fun L=>(List.flatten L).length) e
     simp only[dM,eh,ae]at this;omega
    have J:=bZ (20004+9*(m+1)+9) hsp;rw[iQ]at J;have h2l:=(hML _ X).1;have hone:9+Ma[i].length*(20004+9*(m+1))≤Ma[i].length*(20004+9*(m+1)+9):=by rw[Nat.mul_add (Ma[i].length) (20004+9*(m+1)) 9];omega
    refine ih (by omega) tk (hu0.trans (st4 H) fun y o=>.inr (Q y o)) (fun y o=>Q y (hMM y o)) ho' (fun y o=>hMb y (ba H.size o)) (hml _ X).1 (hml _ X).2 (by rw[ae];omega) fun s5 h5 ho5 hu5=>?_
    rw[cz A (by omega)];refine hI (i+1) _ _ ⟨rfl,A,?_,H.tr hu5⟩ (by omega);rw[List.take_succ_eq_append_getElem A,List.flatMap_append,aX,List.flatMap_nil,List.append_nil,←ar];exact ho5
   ·have hil:i=Ma.length:=by have:¬(i:Int)<(s4.len:Int):=hge;omega
    subst hil;rw[List.take_length]at ho';refine hk _ _ ?_ (st4 H);have:=ho'.more hMM;simp only[ar,cQ]at this⊢;exact this
end Go.Proofs
namespace Go.Proofs
open Go Go.Lift
theorem Qy{W:Nat→Prop}{x:Hs}{h:ad}{b:Nat}{l:List Pr}(t:TrieAt W x h 13 b l)(d:Fit l)(c:l.length≤60000){K:SliceV→ad→Prop}(f:∀s' a,OwnS nq 1 cp (fun y=>h.size≤y) a s' (eP x 13 l)→Upd No h a→K s' a):HC PG xA [.pointer (some ⟨b,0,none⟩)] [.c .slice] K h:=by
 refine K6 _ ?_;unfold DH;refine aj.2 ?_;have j:l.length*(20004+9*(13+1))≤60000*(20004+9*(13+1)):=bZ _ c;exact Ow (x:=x) 13 (ao _) (s:=⟨none,0,0⟩) (xs:= []) (M:=fun y=>h.size≤y) t (Upd.refl _ _) (fun _ h=>h) (OwnS.nil pF) (fun _ h=>h) d c (by rw[cF];omega) fun s' a g e=>f s' a g (e.mono fun y i=>.inr i)
theorem H4:∀{a b:Nat} (k:Nat),kW a k=kW b k→a%2^(8*k)=b%2^(8*k)
 |_,_,0,_=>by simp[Nat.mod_one]
 |a,b,k+1,h=>by
  rw[vU,vU]at h;obtain⟨f,g⟩:=pM h (by rw[c7,c7]);have d:=H4 k f;have c:=congrArg UInt8.toNat (fi.inj g).1;rw[UInt8.toNat_ofNat',UInt8.toNat_ofNat',cn,cn]at c;have e:2^(8*(k+1))=2^(8*k)*2^8:=by rw[Nat.mul_add,Nat.pow_add]
  rw[e,Nat.mod_mul,Nat.mod_mul,d,c]
theorem sL{a b k:Nat}{r c:List UInt8}(d:a<2^(8*k))(e:b<2^(8*k))(h:kW a k++r=kW b k++c):a=b∧r=c:=by
 obtain⟨f,g⟩:=pM h (by rw[c7,c7]);have:=H4 k f;rw[de d,de e]at this;exact⟨this,g⟩
theorem vO{a b:ByteArray}{r c:List UInt8}(i:a.size≤10000)(j:b.size≤10000)(h:mq a++r=mq b++c):a=b∧r=c:=by
 unfold mq at h;rw[ar,ar]at h;obtain⟨e,g⟩:=sL (k:=2) (by omega) (by omega) h;obtain⟨f,d⟩:=pM g (by simpa using e);refine⟨?_,d⟩;cases a;cases b;exact congrArg jZ (hO.1 f)
theorem xw:∀{l l':List Pr} {r r':List UInt8},Fit l→Fit l'→l.length=l'.length→jg l++r=jg l'++r'→l=l'∧r=r'
 | [],[],_,_,_,_,_,h=>⟨rfl,h⟩
 | [],_::_,_,_,_,_,e,_=>by simp at e
 |_::_,[],_,_,_,_,e,_=>by simp at e
 |p::l,q::l',r,r',hf,hf',e,h=>by
  unfold jg at h;rw[aX,aX,Ba,Ba]at h;simp only[ar]at h;have a:=hf p (az ..);have b:=hf' q (az ..);obtain⟨c,h⟩:=vO a.1 b.1 h;obtain⟨d,h⟩:=vO a.2 b.2 h;obtain⟨f,h⟩:=xw (l:=l) (l':=l') (fun z hz=>hf z (aR _ hz)) (fun z hz=>hf' z (aR _ hz)) (by simpa using e) h
  exact⟨by rw[f,Prod.ext c d],h⟩
theorem Ca{β γ:Type}{g:Nat→Option β}{a:Nat→Option γ}:∀n,(∀c,c<n→(g c).isSome=(a c).isSome)→(fm g n).length=(fm a n).length
 |0,_=>rfl
 |n+1,h=>by
  rw[fS,fS,ae,ae,Ca n fun c hc=>h c (by omega)]
  have:=h n (by omega);cases h1:g n<;>cases h2:a n<;>rw[h1,h2]at this<;>first|rfl|cases this
theorem Kz{β:Type}{g a:Nat→Option β}:∀n,(∀c,c<n→(g c).isSome=(a c).isSome)→fm g n=fm a n→∀c,c<n→g c=a c
 |0,_,_,c,hc=>absurd hc (gP _)
 |n+1,h,e,c,hc=>by
  rw[fS,fS]at e;obtain⟨f,b⟩:=pM e (Ca n fun c hc=>h c (by omega))
  rcases bH c n with d|d
  ·exact Kz n (fun c hc=>h c (by omega)) f c d
  ·have:c=n:=by omega
   subst this;cases h1:g c<;>cases h2:a c<;>rw[h1,h2]at b<;>simp at b⊢
   exact b
theorem ES:∀{l l':List Pr},cu l→cu l'→(∀p,p∈l↔p∈l')→l=l'
 | [],[],_,_,_=>rfl
 | [],q::l',_,_,h=>absurd ((h q).2 (az ..)) (by simp)
 |p::l,[],_,_,h=>absurd ((h p).1 (az ..)) (by simp)
 |p::l,q::l',c,a,h=>by
  have c:=bq.1 c;have a:=bq.1 a;have e:p=q:=by
   rcases au.1 ((h p).1 (az ..))with e|d
   ·exact e
   ·rcases au.1 ((h q).2 (az ..))with e|f
    ·exact e.symm
    ·exact absurd (jh (c.1 q f) (a.1 p d)) (cJ _)
  subst e;rw[ES c.2 a.2 fun z=>?_]
  constructor
  ·intro hz
   rcases au.1 ((h z).1 (aR _ hz))with e|b
   ·exact absurd (c.1 z hz) (by rw[e];exact cJ _)
   ·exact b
  ·intro hz
   rcases au.1 ((h z).2 (aR _ hz))with e|b
   ·exact absurd (a.1 z hz) (by rw[e];exact cJ _)
   ·exact b
theorem OT{x:Hs}{lev:Nat}{l l':List Pr}(g:cu l)(a:cu l')(h:∀c,c<32→part x lev c l=part x lev c l'):l=l':=by
 refine ES g a fun p=>?_
 have e:=h (ck x lev p.1) (yU ..);have d:=my (x:=x) (lev:=lev) (c:=ck x lev p.1) (l:=l) (p:=p);have f:=my (x:=x) (lev:=lev) (c:=ck x lev p.1) (l:=l') (p:=p);rw[e]at d;constructor
 ·intro b;exact(f.1 (d.2 ⟨b,rfl⟩)).1
 ·intro b;exact(d.1 (f.2 ⟨b,rfl⟩)).1
theorem MM{q q':List Pr}(f:gk q=gk q')(e:dZ q=dZ q'):q=q':=by
 match q,q' with
 | [],[]=>rfl
 | [a],[b]=>simp[gk]at f;rw[f]
 | [],[b]=>simp[gk]at f
 | [a],[]=>simp[gk]at f
 | [],b::c::q'=>simp[dZ]at e
 | [a],b::c::q'=>simp[dZ]at e
 |b::c::q',[]=>simp[dZ]at e
 |b::c::q',[a]=>simp[dZ]at e
 |a::b::q,c::d::q'=>simpa[dZ]using e
theorem Ih{f:List Pr→List UInt8}:∀{ls ls':List (List Pr)} {r r':List UInt8},ls.length=ls'.length→(∀L∈ls,∀L'∈ls',∀r r',f L++r=f L'++r'→L=L'∧r=r')→ls.flatMap f++r=ls'.flatMap f++r'→ls=ls'∧r=r'
 | [],[],_,_,_,_,h=>⟨rfl,h⟩
 | [],_::_,_,_,e,_,_=>by simp at e
 |_::_,[],_,_,e,_,_=>by simp at e
 |L::ls,L'::ls',r,r',e,hf,h=>by
  rw[aX,aX,ar,ar]at h;obtain⟨a,h⟩:=hf L (az ..) L' (az ..) _ _ h;obtain⟨d,h⟩:=Ih (by simpa using e) (fun A b B c=>hf A (aR _ b) B (aR _ c)) h
  exact⟨by rw[a,d],h⟩
theorem Cw{x:Hs}:∀(m:Nat) {l l':List Pr} {r a:List UInt8},Fit l→Fit l'→l.length≤60000→l'.length≤60000→cu l→cu l'→eP x m l++r=eP x m l'++a→l=l'∧r=a
 |0,l,l',r,a,hf,hf',hn,hn',_,_,h=>by
  unfold eP at h;rw[cQ,cQ,ar,ar]at h;obtain⟨e,h⟩:=sL (k:=2) (by omega) (by omega) (fi.inj h).2;exact xw hf hf' e h
 |m+1,l,l',r,a,hf,hf',hn,hn',hr,hr',h=>by
  unfold eP at h;simp only[cQ,ar]at h;obtain⟨b1,h⟩:=sL (k:=4) (li _ 32) (li _ 32) (fi.inj h).2;obtain⟨b2,h⟩:=sL (k:=4) (li _ 32) (li _ 32) h;have bits:∀{q q':Nat→Bool},ij q 32=ij q' 32→∀c,c<32→q c=q' c:=fun{q q'} e c hc=>by
   have:=congrArg (fun n=>n.testBit c) e
   simp only[Ay,decide_eq_true hc,sG]at this;exact this
  have b1:=bits b1;have b2:=bits b2;obtain⟨i,h⟩:=xw (fun p d=>hf p (qj d)) (fun p d=>hf' p (qj d)) (Ca 32 b1) h
  obtain⟨g,h⟩:=Ih (Ca 32 b2) (fun L f L' b r a e=>by
   obtain⟨_,c,rfl⟩:=oF f
   obtain⟨_,c',rfl⟩:=oF b
   exact Cw m hf.part hf'.part (ba j3 hn) (ba j3 hn') (qq hr) (qq hr') e) h
  have s1:=Kz 32 b1 i;have s2:=Kz 32 b2 g;exact⟨OT hr hr' fun c hc=>MM (s1 c hc) (s2 c hc),h⟩
end Go.Proofs
namespace Go.Proofs
open Go Go.Lift
def vQ(lab:ByteArray)(has:Bool)(val:ByteArray)(s:SliceV)(ow:Option Addr):Array Value:= #[.string lab,.bool has,.string val,sv s,.pointer ow]
theorem vw{w:Option ByteArray}{val:ByteArray}(h:val=w.getD ⟨#[]⟩):∀v,w=some v→val=v:=fun v e=>by rw[h,e];rfl
def RxF(W:Nat→Prop)(h:ad):Fo→List (Option Addr)→Prop
 | .nil,ks=>ks= []
 | .cons lab w kids rest,ks=>∃b sl val s ow ks1 ks',ks=some ⟨b,0,none⟩::ks'∧sl.data.toList=lab∧h[b]? =some (.cells (vQ sl w.isSome val s ow) bw (0,0))∧val=w.getD ⟨#[]⟩∧Sl lB 1 W h s ks1∧(s.len≤s.cap∧¬W b∧OwOk W h ow)∧RxF W h kids ks1∧RxF W h rest ks'
def RxN(W:Nat→Prop)(h:ad)(b:Nat)(sl:ByteArray)(w:Option ByteArray)(F:Fo):Prop:=∃val s ow ks,h[b]? =some (.cells (vQ sl w.isSome val s ow) bw (0,0))∧val=w.getD ⟨#[]⟩∧Sl lB 1 W h s ks∧(s.len≤s.cap∧¬W b∧OwOk W h ow)∧RxF W h F ks
def Kid(W:Nat→Prop)(h:ad)(k:Option Addr)(n:Bn):Prop:=∃b sl,k=some ⟨b,0,none⟩∧sl.data.toList=n.1∧RxN W h b sl n.2.1 n.2.2
def RxL(W:Nat→Prop)(h:ad)(ks:List (Option Addr))(L:List Bn):Prop:=ks.length=L.length∧∀p∈ks.zip L,Kid W h p.1 p.2
theorem pY{W:Nat→Prop}{h:ad}:∀{F:Fo} {ks:List (Option Addr)},RxF W h F ks↔RxL W h ks F.toL
 | .nil,ks=>by
  unfold RxF RxL;simp[Fo.toL]
 | .cons lab w kids rest,ks=>by
  unfold RxF RxL;rw[Fo.toL_cons];constructor
  ·rintro⟨b,sl,val,s,ow,c,d,rfl,o,n,i,f,g,m,u⟩
   obtain⟨v,q⟩:=pY.1 u;refine⟨by simp[v],fun p a=>?_⟩
   rw[im]at a;rcases au.1 a with rfl|a
   ·exact⟨b,sl,rfl,o,val,s,ow,c,n,i,f,g,m⟩
   ·exact q p a
  ·cases ks with
   |nil=>rintro⟨e,_⟩;simp at e
   |cons k d=>
    rintro⟨e,a⟩;rw[im]at a;obtain⟨b,sl,t,o,val,s,ow,c,n,i,f,g,m⟩:=a _ (az ..);refine⟨b,sl,val,s,ow,c,d,by rw[←t],o,n,i,f,g,m,pY.2 ⟨by simpa using e,fun p j=>a p (aR _ j)⟩⟩
theorem RxF.upd0{W:Nat→Prop}{h a:ad}(k:Upd No h a):∀{F:Fo} {ks:List (Option Addr)},RxF W h F ks→RxF W a F ks
 | .nil,_,r=>r
 | .cons _ _ _ _,_,⟨b,sl,val,s,ow,ks1,ks',e0,e1,e2,e3,e4,e5,e6,e7⟩=>⟨b,sl,val,s,ow,ks1,ks',e0,e1,k.get0 e2,e3,e4.upd k fun _ h=>h.elim,⟨e5.1,e5.2.1,e5.2.2.upd k fun _ h=>h.elim⟩,RxF.upd0 k e6,RxF.upd0 k e7⟩
theorem RxN.upd0{W:Nat→Prop}{h a:ad}(k:Upd No h a){b:Nat}{sl:ByteArray}{w:Option ByteArray}{F:Fo}:RxN W h b sl w F→RxN W a b sl w F
 |⟨val,s,ow,ks,e2,e3,e4,e5,e6⟩=>⟨val,s,ow,ks,k.get0 e2,e3,e4.upd k fun _ h=>h.elim,⟨e5.1,e5.2.1,e5.2.2.upd k fun _ h=>h.elim⟩,RxF.upd0 k e6⟩
theorem Kid.upd0{W:Nat→Prop}{h c:ad}(k:Upd No h c){a:Option Addr}{n:Bn}:Kid W h a n→Kid W c a n
 |⟨b,sl,e1,e2,e3⟩=>⟨b,sl,e1,e2,e3.upd0 k⟩
theorem RxF.less{W W':Nat→Prop}{h:ad}(hm:∀b,W' b→W b∨h.size≤b):∀{F:Fo} {ks:List (Option Addr)},RxF W h F ks→RxF W' h F ks
 | .nil,_,r=>r
 | .cons _ _ _ _,_,⟨b,sl,val,s,ow,ks1,ks',e0,e1,e2,e3,e4,e5,e6,e7⟩=>⟨b,sl,val,s,ow,ks1,ks',e0,e1,e2,e3,e4.less hm,⟨e5.1,fun hx=>(hm _ hx).elim e5.2.1 fun h=>by have:=aD e2;omega,e5.2.2.less hm⟩,RxF.less hm e6,RxF.less hm e7⟩
theorem RxN.less{W W':Nat→Prop}{h:ad}(hm:∀b,W' b→W b∨h.size≤b){b:Nat}{sl:ByteArray}{w:Option ByteArray}{F:Fo}:RxN W h b sl w F→RxN W' h b sl w F
 |⟨val,s,ow,ks,e2,e3,e4,e5,e6⟩=>⟨val,s,ow,ks,e2,e3,e4.less hm,⟨e5.1,fun hx=>(hm _ hx).elim e5.2.1 fun h=>by have:=aD e2;omega,e5.2.2.less hm⟩,RxF.less hm e6⟩
theorem RxF.updM{W M:Nat→Prop}{h a:ad}(k:Upd M h a)(hm:∀b,M b→W b∨h.size≤b):∀{F:Fo} {ks:List (Option Addr)},RxF W h F ks→RxF W a F ks
 | .nil,_,r=>r
 | .cons _ _ _ _,_,⟨b,sl,val,s,ow,ks1,ks',e0,e1,e2,e3,e4,e5,e6,e7⟩=>⟨b,sl,val,s,ow,ks1,ks',e0,e1,k.get e2 (fun hx=>(hm _ hx).elim e5.2.1 fun h=>by have:=aD e2;omega),e3,e4.upd k hm,⟨e5.1,e5.2.1,e5.2.2.upd k hm⟩,RxF.updM k hm e6,RxF.updM k hm e7⟩
theorem RxN.updM{W M:Nat→Prop}{h a:ad}(k:Upd M h a)(hm:∀b,M b→W b∨h.size≤b){b:Nat}{sl:ByteArray}{w:Option ByteArray}{F:Fo}:RxN W h b sl w F→RxN W a b sl w F
 |⟨val,s,ow,ks,e2,e3,e4,e5,e6⟩=>⟨val,s,ow,ks,k.get e2 (fun hx=>(hm _ hx).elim e5.2.1 fun h=>by have:=aD e2;omega),e3,e4.upd k hm,⟨e5.1,e5.2.1,e5.2.2.upd k hm⟩,RxF.updM k hm e6⟩
theorem RxL.upd0{W:Nat→Prop}{h a:ad}(k:Upd No h a){ks:List (Option Addr)}{L:List Bn}(r:RxL W h ks L):RxL W a ks L:=⟨r.1,fun p b=>(r.2 p b).upd0 k⟩
theorem RxL.app{W:Nat→Prop}{h:ad}{ks b:List (Option Addr)}{L L':List Bn}(r:RxL W h ks L)(c:RxL W h b L'):RxL W h (ks++b) (L++L'):=by
 refine⟨by rw[ae,ae,r.1,c.1],fun p a=>?_⟩
 rw[List.zip_append r.1]at a;rcases List.mem_append.1 a with a|a
 ·exact r.2 p a
 ·exact c.2 p a
theorem RxL.one{W:Nat→Prop}{h:ad}{k:Option Addr}{n:Bn}(c:Kid W h k n):RxL W h [k] [n]:=⟨rfl,fun p a=>by rw[im,List.zip_nil_left]at a;rw[aq.1 a];exact c⟩
theorem RxL.take{W:Nat→Prop}{h:ad}{ks:List (Option Addr)}{L:List Bn}(r:RxL W h ks L)(i:Nat):RxL W h (ks.take i) (L.take i):=by
 refine⟨by rw[aI,aI,r.1],fun p a=>r.2 p ?_⟩
 have:(ks.take i).zip (L.take i)=(ks.zip L).take i:=by rw[mh,mh,List.take_zipWith]
 rw[this]at a;exact gB a
theorem RxL.drop{W:Nat→Prop}{h:ad}{ks:List (Option Addr)}{L:List Bn}(r:RxL W h ks L)(i:Nat):RxL W h (ks.drop i) (L.drop i):=by
 refine⟨by rw[aL,aL,r.1],fun p a=>r.2 p ?_⟩
 have:(ks.drop i).zip (L.drop i)=(ks.zip L).drop i:=by rw[mh,mh,List.drop_zipWith]
 rw[this]at a;exact List.mem_of_mem_drop a
theorem RxL.ins{W:Nat→Prop}{h:ad}{ks:List (Option Addr)}{L:List Bn}(r:RxL W h ks L)(i:Nat){k:Option Addr}{n:Bn}(c:Kid W h k n):RxL W h (ks.take i++k::ks.drop i) (L.take i++n::L.drop i):=by
 have:=(r.take i).app ((RxL.one c).app (r.drop i));exact this
theorem RxL.set{W:Nat→Prop}{h:ad}{ks:List (Option Addr)}{L:List Bn}(r:RxL W h ks L){i:Nat}(hi:i<L.length){k:Option Addr}{n:Bn}(c:Kid W h k n):RxL W h (ks.set i k) (L.set i n):=by
 have:=(r.take i).app ((RxL.one c).app (r.drop (i+1)));rw[dY,dY,if_pos (by rw[r.1];exact hi),if_pos hi];exact this
theorem RxL.at{W:Nat→Prop}{h:ad}{ks:List (Option Addr)}{L:List Bn}(r:RxL W h ks L){i:Nat}(hi:i<L.length):∃b sl,ks[i]? =some (some ⟨b,0,none⟩)∧sl.data.toList=L[i].1∧RxN W h b sl L[i].2.1 L[i].2.2:=by
 have c:i<ks.length:=by rw[r.1];exact hi
 have hz:i<(ks.zip L).length:=by rw[List.length_zip];omega
 have:=r.2 _ (aP hz);rw[List.getElem_zip]at this;obtain⟨b,sl,a,d,e⟩:=this;exact⟨b,sl,by rw[af c];exact congrArg some a,d,e⟩
theorem zY:∀{L:List Bn} {c:Nat},L.Pairwise (fun m n=>hd m.1<hd n.1)→(∀n∈L,c≤hd n.1)→L= []∨c+L.length≤256
 | [],_,_,_=>.inl rfl
 |n::L,c,a,hc=>by
  have a:=bq.1 a;have d:=hc n (az ..);have b:=RB n.1;rcases zY (c:=hd n.1+1) a.2 fun m hm=>a.1 m hm with e|e
  ·rw[e];right;simp only[aK];omega
  ·right;rw[aN];omega
theorem iY{F:Fo}(h:eW F):F.toL.length≤256:=by
 rcases zY (c:=0) (eg.1 h).1 fun _ _=>aU _ with e|e
 ·rw[e];simp
 ·omega
theorem dz{h:ad}{b i:Nat}{c:Array Value}(a:h[b]? =some (.cells c bw (0,0))):aM h (adr ⟨b,0,none⟩ i)=c[i]?:=by rw[bL,aE];exact bj a
theorem Oz{h:ad}{b i:Nat}{c:Array Value}(a:h[b]? =some (.cells c bw (0,0))) (hi:i<c.size):Wr h (adr ⟨b,0,none⟩ i):=by rw[bL,aE];exact ia a hi
theorem CE{h:ad}{b i:Nat}{c c':Array Value}{v:Value}{k:ad→Prop}(j:h[b]? =some (.cells c bw (0,0))) (e:c.setIfInBounds i v=c') (g:∀a,a[b]? =some (.cells c' bw (0,0))→Upd (· =b) h a→k a):At (hset h (adr ⟨b,0,none⟩ i) v) k:=by
 rw[bL,aE];exact ui j fun a d f=>g a (e▸d) f
theorem Ie(s:ByteArray)(i:Nat):s[i]? =s.data.toList[i]?:=by
 rw[Array.getElem?_toList];by_cases h:i<s.size
 ·rw[getElem?_pos s i h,getElem?_pos s.data i h];rfl
 ·rw[getElem?_neg s i h,getElem?_neg s.data i h]
theorem C4{s:ByteArray}(a:s.data.toList≠[]):∃c:UInt8,s[0]? =some c∧c.toNat=hd s.data.toList:=by
 rw[Ie];match s.data.toList,a with
 |c::l,_=>exact⟨c,rfl,rfl⟩
theorem EP{W:Nat→Prop}{h:ad}{b:Nat}{sl:ByteArray}{w:Option ByteArray}{F:Fo}(r:RxN W h b sl w F)(hc:eW F){c:Nat}(hc8:c<256){K:Int×Bool→ad→Prop}
  (C:∀i ok,i≤F.toL.length→(∀j (p:j<F.toL.length),j<i→hd F.toL[j].1<c)→(∀j (p:j<F.toL.length),i≤j→c≤hd F.toL[j].1)→(ok=true↔∃hi:i<F.toL.length,hd F.toL[i].1=c)→K ((i:Int),ok) h):HC PG kH [.pointer (some ⟨b,0,none⟩),.int .u8 c] [.c (.int .i64),.c .bool] K h:=by
 refine y9 _ c ?_;unfold rI bD;obtain⟨val,s,ow,ks,hb,_,hs,hcap,hF⟩:=r;refine⟨_,rfl,s,dz (i:=3) hb,?_⟩;have P:=pY.1 hF;have f:=eg.1 hc;have hn:=iY hc;have y:=hs.len;rw[P.1]at y;generalize hLe:F.toL=L at P f hn y C;refine gr s c _ ?_;unfold dP bQ dK BH FX
 have E:∀{i:Nat} (hi:i<L.length) {K:Int→ad→Prop},K ((hd L[i].1:Int)-(c:Int)) h→∃a,s.a=some a∧∃v,aM h (adr a (i*1))=some (.pointer v)∧HV PG (.func (.func mc) #[] #[]) [.pointer v,.int .u8 c] [.c (.int .i64)] K h:=by
  intro i hi K C;obtain⟨kb,G,H,D,R⟩:=P.at hi;obtain⟨a,ha,_,hv⟩:=hs.at0 H;refine⟨a,ha,_,hv,HV.mk' (wy (some ⟨kb,0,none⟩) c ?_)⟩;unfold pT bM;obtain⟨Y,kss,kow,kks,M,_⟩:=R;have N:G.data.toList≠[]:=by rw[D];exact(f.2 _ (aP hi)).1
  obtain⟨u,hu,O⟩:=C4 N;refine⟨_,rfl,G,dz (i:=0) M,u,Int.le_refl _,hu,?_⟩;simp only[Bd];have d:=RB L[i].1;rw[O,D,oq (x:=(hd L[i].1:Int)) (by omega),oq (x:=(c:Int)) (by omega),oq (by omega)];exact C
 have mono:∀i j (hi:i<L.length) (p:j<L.length),i<j→hd L[i].1<hd L[j].1:=fun i j hi p e=>List.pairwise_iff_getElem.1 f.1 i j hi p e
 refine LoopP.ghost (fun(g:Nat×Nat) (t:Int×Int) T=>t.1=(g.1:Int)∧t.2=(g.2:Int)∧g.1≤g.2∧g.2≤L.length∧T=h∧(∀j (p:j<L.length),j<g.1→hd L[j].1<c)∧(∀j (p:j<L.length),g.2≤j→c≤hd L[j].1)) (fun g=>g.2-g.1) (0,L.length)
  ⟨rfl,by simp only;omega,by simp,by simp,rfl,fun j p h=>by omega,fun j p h=>by simp only at h;omega⟩ ?_
 rintro I ⟨i,j⟩ ⟨ti,tj⟩ T ⟨Z,V,e,k,rfl,n,o⟩ X;simp only at Z V e k n o;subst Z V;refine aG (fun d=>?_) fun S=>?_
 ·have d:i<j:=by have:(i:Int)<(j:Int):=d;omega
  have em:IntKind.wrap .i64 (Int.fdiv (IntKind.wrap .u64 (IntKind.wrap .i64 ((i:Int)+(j:Int)))) (2^(min (1:Int).toNat (IntKind.bits .u64))))=(((i+j)/2:Nat):Int):=by
   have e3:(2^(min (1:Int).toNat (IntKind.bits .u64)):Int)=2:=rfl;rw[e3,oq (x:=(i:Int)+(j:Int)) (by omega),Go.IntWalk.u64_in _ (by omega),Int.fdiv_eq_ediv_of_nonneg _ (by omega),oq (by omega)];omega
  refine⟨by decide,?_⟩;simp only[Bd];rw[em];generalize hm:(i+j)/2=m;have A:m<L.length:=by omega
  refine⟨by omega,?_⟩;refine E A ?_;refine aG (fun hneg=>?_) fun hpos=>?_
  ·refine X (m+1,j) _ _ ⟨by simp only;rw[oq (by omega)];omega,rfl,by simp only;omega,k,rfl,fun q Q B=>?_,o⟩ (by simp only;omega)
   simp only at B;rcases bH q m with h|h
   ·have:=mono q m Q A h;omega
   ·have:q=m:=by omega
    subst this;omega
  ·refine X (i,m) _ _ ⟨rfl,rfl,by simp only;omega,by simp only;omega,rfl,n,fun q Q B=>?_⟩ (by simp only;omega)
   simp only at B;rcases bH m q with h|h
   ·have:=mono m q A Q h;omega
   ·have:q=m:=by omega
    subst this;omega
 ·have e:i=j:=by have:¬(i:Int)<(j:Int):=S;omega
  subst e;refine aG (fun d=>?_) fun J=>?_
  ·have z:i<L.length:=by have:(i:Int)<(s.len:Int):=d;omega
   refine⟨by simp only;omega,?_⟩;refine E z ?_;refine C i _ k n o ?_;rw[beq_iff_eq];exact⟨fun h=>⟨z,by omega⟩,fun⟨_,h⟩=>by omega⟩
  ·have z:i=L.length:=by have:¬(i:Int)<(s.len:Int):=J;omega
   exact C i false k n o ⟨fun h=>(by cases h),fun h=>(by obtain⟨h,_⟩:=h;omega)⟩
end Go.Proofs
namespace Go.Proofs
open Go Go.Lift
abbrev Rw:List Value:= [.string (⟨#[]⟩:ByteArray),.bool false,.string (⟨#[]⟩:ByteArray),.slice none 0 0,.pointer none]
theorem tK{h:ad}{b:Nat}{sl nl:ByteArray}{has:Bool}{val:ByteArray}{s:SliceV}{ow:Option Addr}(a:h[b]? =some (.cells (vQ sl has val s ow) bw (0,0))) {K:Option Addr→ad→Prop}
  (c:∀h',h'[b]? =some (.cells (vQ nl has val s ow) bw (0,0))→Upd (· =b) h h'→K (some ⟨b,0,none⟩) h'):HC PG gp [.pointer (some ⟨b,0,none⟩),.string nl] [.c .ptr] K h:=by
 refine xS _ nl ?_;unfold qJ cV;exact⟨_,rfl,Oz (i:=0) a (show 0<5 by decide),CE (i:=0) (c':=vQ nl has val s ow) a rfl c⟩
theorem qZ{h:ad}{b:Nat}{sl v:ByteArray}{has:Bool}{val:ByteArray}{s:SliceV}{ow:Option Addr}(d:h[b]? =some (.cells (vQ sl has val s ow) bw (0,0))) {K:Option Addr→ad→Prop}
  (e:∀h',h'[b]? =some (.cells (vQ sl true v s ow) bw (0,0))→Upd (· =b) h h'→K (some ⟨b,0,none⟩) h'):HC PG fZ [.pointer (some ⟨b,0,none⟩),.string v] [.c .ptr] K h:=by
 refine ww _ v ?_;unfold pR cV;exact⟨_,rfl,Oz (i:=1) d (show 1<5 by decide),CE (i:=1) (c':=vQ sl true val s ow) d rfl fun g b1 c=>⟨_,rfl,Oz (i:=2) b1 (show 2<5 by decide),CE (i:=2) (c':=vQ sl true v s ow) b1 rfl fun f b2 a=>e f b2 (c.tr a)⟩⟩
theorem yO(s:ByteArray)(c:Nat):(s.extract 0 c).data.toList=s.data.toList.take c:=by
 rw[oo,Array.toList_extract,ge];simp
theorem yP(s:ByteArray)(c:Nat):(s.extract c s.size).data.toList=s.data.toList.drop c:=by
 rw[oo,Array.toList_extract,ge,List.take_of_length_le];rw[aL];simp
end Go.Proofs
namespace Go.Proofs
open Go Go.Lift
theorem Fy:∀{x y:List UInt8} {i:Nat},i≤x.length→i≤y.length→(∀j,j<i→x[j]? =y[j]?)→(i=x.length∨i=y.length∨x[i]?≠y[i]?)→cm x y=i
 | [],_,i,h1,_,_,_=>by simp at h1;simp[cm,h1]
 |_::_,[],i,_,h2,_,_=>by simp at h2;simp[cm,h2]
 |a::x,b::y,0,_,_,_,h=>by
  unfold cm;rw[if_neg];rintro rfl;rcases h with h|h|h<;>simp at h
 |a::x,b::y,i+1,h1,h2,h3,h4=>by
  have:=h3 0 (by omega);simp only[bW,bv.injEq]at this;unfold cm;rw[if_pos this,Fy (i:=i) (by simpa using h1) (by simpa using h2) (fun j c=>by simpa using h3 (j+1) (by omega)) (by simpa using h4)]
theorem Nx{a b:ByteArray}(z:a.size≤1000000){h:ad}{K:Int→ad→Prop}(n:K (cm a.data.toList b.data.toList:Nat) h):HC PG r8 [.string a,.string b] [.c (.int .i64)] K h:=by
 refine Ek a b ?_;unfold wT;simp only[Bd];have m:(if(b.size:Int)<(a.size:Int)then(b.size:Int)else(a.size:Int))=((min a.size b.size:Nat):Int):=by split<;>omega
 rw[m];have B:a.data.toList.length=a.size:=by simp
 have A:b.data.toList.length=b.size:=by simp
 refine LoopP.ghost (fun(i:Nat) (t:Int) q=>t=(i:Int)∧i≤min a.size b.size∧q=h∧∀j,j<i→a.data.toList[j]? =b.data.toList[j]?) (fun i=>min a.size b.size-i) 0 ⟨rfl,aU _,rfl,fun j u=>absurd u (gP _)⟩ ?_
 rintro I i t q ⟨rfl,hi,rfl,o⟩ x;refine aG (fun c=>?_) fun y=>?_
 ·have c:i<min a.size b.size:=by omega
  have f:i<a.size:=by omega
  have k:i<b.size:=by omega
  refine⟨a[i],by omega,by rw[aH,getElem?_pos a i f],b[i],by omega,by rw[aH,getElem?_pos b i k],?_⟩
  have v:a.data.toList[i]? =some a[i]:=by rw[←Ie,getElem?_pos a i f]
  have s:b.data.toList[i]? =some b[i]:=by rw[←Ie,getElem?_pos b i k]
  refine CondP.intro (fun g=>?_) fun d=>?_
  ·rw[Fy (i:=i) (by omega) (by omega) o (.inr (.inr fun e=>?_))]at n
   ·exact n
   ·rw[v,s]at e
    rw[bv.inj e]at g;simp at g
  ·have d:a[i]=b[i]:=by
    have:((a[i].toNat:Int))=(b[i].toNat:Int):=by simpa using d
    exact UInt8.toNat_inj.1 (by omega)
   rw[cz c (by omega)];refine x (i+1) _ _ ⟨rfl,c,rfl,fun j u=>?_⟩ (by omega)
   rcases bH j i with w|w
   ·exact o j w
   ·have:j=i:=by omega
    subst this;rw[v,s,d]
 ·have p:i=min a.size b.size:=by omega
  rw[Fy (i:=i) (by omega) (by omega) o (by omega)]at n;rw[←p];exact n
theorem M5{F:Fo}{i:Nat}{k:List UInt8}{v:ByteArray}(h:eW F)(hi:i<F.toL.length)(ek:hd F.toL[i].1=hd k)(a:sC (qW F.toL[i]) (qW F.toL[i]) k v):sC (ox F) (ox F) k v:=by
 have:=HM h hi ek a;rw[List.set_getElem_self,Fo.of_to]at this;exact this
theorem OJ{P Q a:List UInt8→ByteArray→Prop}{k:List UInt8}{v:ByteArray}(h:sC P a k v)(e:∀k v,P k v↔Q k v):sC Q a k v:=fun k' b=>by rw[h k' b,e]
end Go.Proofs
namespace Go.Proofs
open Go Go.Lift
def Dj(S T:Nat→Prop):Prop:=∀y,S y→¬T y
def PD(Ts:List (Nat→Prop)):Prop:=∀(i j:Nat) (S T:Nat→Prop),i≠j→Ts[i]? =some S→Ts[j]? =some T→Dj S T
def FoO(o:Option Addr)(W:Nat→Prop)(h:ad):Fo→List (Option Addr)→List (Nat→Prop)→Prop
 | .nil,ks,Ts=>ks= []∧Ts= []
 | .cons lab w kids rest,ks,Ts=>∃(b:Nat) (sl:ByteArray) (ks':List (Option Addr)) (S:Nat→Prop) (Ts':List (Nat→Prop)),ks=some ⟨b,0,none⟩::ks'∧Ts=S::Ts'∧sl.data.toList=lab∧
  ((RxN W h b sl w kids∧∀y,¬S y)∨(o.isSome=true∧∃(val:ByteArray) (s:SliceV) (ks1:List (Option Addr)) (A:Nat→Prop) (Us:List (Nat→Prop)),h[b]? =some (.cells (vQ sl w.isSome val s o) bw (0,0))∧val=w.getD ⟨#[]⟩∧OwnS lB 1 aY A h s ks1∧
   (∀y,A y→S y∧y≠b∧y<h.size)∧S b∧(∀U∈Us,∀y,U y→S y∧¬A y∧y≠b)∧PD Us∧FoO o W h kids ks1 Us))∧FoO o W h rest ks' Ts'
def RxO(o:Option Addr)(W:Nat→Prop)(h:ad)(b:Nat)(sl:ByteArray)(w:Option ByteArray)(F:Fo)(S:Nat→Prop):Prop:=
 (RxN W h b sl w F∧∀y,¬S y)∨(o.isSome=true∧∃(val:ByteArray) (s:SliceV) (ks1:List (Option Addr)) (A:Nat→Prop) (Us:List (Nat→Prop)),h[b]? =some (.cells (vQ sl w.isSome val s o) bw (0,0))∧val=w.getD ⟨#[]⟩∧OwnS lB 1 aY A h s ks1∧
  (∀y,A y→S y∧y≠b∧y<h.size)∧S b∧(∀U∈Us,∀y,U y→S y∧¬A y∧y≠b)∧PD Us∧FoO o W h F ks1 Us)
theorem O6{o:Option Addr}{W:Nat→Prop}{h:ad}{lab:List UInt8}{w:Option ByteArray}{a c:Fo}{ks:List (Option Addr)}{Ts:List (Nat→Prop)}:
 FoO o W h (.cons lab w a c) ks Ts↔∃b sl ks' S Ts',ks=some ⟨b,0,none⟩::ks'∧Ts=S::Ts'∧sl.data.toList=lab∧RxO o W h b sl w a S∧FoO o W h c ks' Ts':=Iff.rfl
def KidO(o:Option Addr)(W:Nat→Prop)(h:ad)(k:Option Addr)(n:Bn)(S:Nat→Prop):Prop:=∃b sl,k=some ⟨b,0,none⟩∧sl.data.toList=n.1∧RxO o W h b sl n.2.1 n.2.2 S
def LsO(o:Option Addr)(W:Nat→Prop)(h:ad)(ks:List (Option Addr))(L:List Bn)(Ts:List (Nat→Prop)):Prop:=ks.length=L.length∧Ts.length=L.length∧∀(i:Nat) (k:Option Addr) (n:Bn) (S:Nat→Prop),ks[i]? =some k→L[i]? =some n→Ts[i]? =some S→KidO o W h k n S
theorem B9{o:Option Addr}{W:Nat→Prop}{h:ad}:∀{F:Fo} {ks:List (Option Addr)} {Ts:List (Nat→Prop)},FoO o W h F ks Ts↔LsO o W h ks F.toL Ts
 | .nil,ks,Ts=>by
  constructor
  ·rintro⟨rfl,rfl⟩;exact⟨rfl,rfl,fun i k n S h=>by simp at h⟩
  ·rintro⟨d,g,_⟩;exact⟨bV.1 d,bV.1 g⟩
 | .cons lab w kids rest,ks,Ts=>by
  rw[O6,Fo.toL_cons];constructor
  ·rintro⟨b,sl,j,S,Ts',rfl,rfl,e,r,f⟩
   obtain⟨d,g,m⟩:=B9.1 f;refine⟨by simp[d],by simp[g],fun i k n p ek a c=>?_⟩
   cases i with
   |zero=>
    simp only[bW,bv.injEq]at ek a c;subst ek a c;exact⟨b,sl,rfl,e,r⟩
   |succ i=>
    simp only[du]at ek a c;exact m i k n p ek a c
  ·rintro⟨d,g,m⟩
   cases ks with
   |nil=>simp at d
   |cons k j=>
    cases Ts with
    |nil=>simp at g
    |cons S Ts'=>
     obtain⟨b,sl,q,s,r⟩:=m 0 k _ S rfl rfl rfl;exact⟨b,sl,j,S,Ts',by rw[q],rfl,s,r,B9.2 ⟨by simpa using d,by simpa using g,fun i k n p ek a c=>m (i+1) k n p ek a c⟩⟩
theorem FoO.freeze{o:Option Addr}{W W':Nat→Prop}{h:ad}(i:∀y,W' y→W y)(m:OwOk W' h o):∀{F:Fo} {ks:List (Option Addr)} {Ts:List (Nat→Prop)},FoO o W h F ks Ts→(∀U∈Ts,∀y,U y→¬W' y)→RxF W' h F ks
 | .nil,_,_,f,_=>f.1
 | .cons lab w kids rest,ks,Ts,⟨b,sl,ks',S,Ts',e1,e2,e3,r,f⟩,hT=>by
  subst e1 e2;have p:=FoO.freeze i m f fun U j=>hT U (aR _ j)
  have d:=hT S (az ..);rcases r with⟨r,_⟩|⟨_,val,s,a,A,Us,z,hv,n,k,e,j,_,q⟩
  ·obtain⟨val,s,ow,a,u,B,v,t,x⟩:=RxN.less (fun y c=>.inl (i y c)) r
   exact⟨b,sl,val,s,ow,a,ks',rfl,e3,u,B,v,t,x,p⟩
  ·exact⟨b,sl,val,s,o,a,ks',rfl,e3,z,hv,n.sl fun y c _=>d y (k y c).1,⟨n.cap,d b e,m⟩,FoO.freeze i m q fun U g y c=>d y (j U g y c).1,p⟩
theorem RxO.freeze{o:Option Addr}{W W':Nat→Prop}{h:ad}(k:∀y,W' y→W y)(j:OwOk W' h o){b:Nat}{sl:ByteArray}{w:Option ByteArray}{F:Fo}{S:Nat→Prop}(r:RxO o W h b sl w F S)(c:∀y,S y→¬W' y):RxN W' h b sl w F:=by
 rcases r with⟨r,_⟩|⟨_,val,s,g,A,Us,p,hv,i,f,d,n,_,m⟩
 ·exact RxN.less (fun y a=>.inl (k y a)) r
 ·exact⟨val,s,o,g,p,hv,i.sl fun y a _=>c y (f y a).1,⟨i.cap,c b d,j⟩,FoO.freeze k j m fun U e y a=>c y (n U e y a).1⟩
theorem RxO.read{o w':Option Addr}{W S:Nat→Prop}{h:ad}{b:Nat}{sl:ByteArray}{w:Option ByteArray}{F:Fo}(r:RxO o W h b sl w F S)(t:By h w' o):RxN No h b sl w F:=
 r.freeze (fun _ h=>h.elim) (fun a e=>⟨id,t.plain a (t.tok e)⟩) fun _ _ h=>h
theorem RxO.off{W S:Nat→Prop}{h:ad}{b:Nat}{sl:ByteArray}{w:Option ByteArray}{F:Fo}(r:RxO none W h b sl w F S):RxN W h b sl w F∧∀y,¬S y:=r.elim id fun h=>absurd h.1 (by simp)
theorem FoO.upd{o:Option Addr}{W M:Nat→Prop}{h q:ad}(k:Upd M h q):∀{F:Fo} {ks:List (Option Addr)} {Ts:List (Nat→Prop)},FoO o W h F ks Ts→(∀U∈Ts,∀y,U y→y<h.size)→(∀y,M y→(W y∧∀U∈Ts,¬U y)∨h.size≤y)→FoO o W q F ks Ts
 | .nil,_,_,f,_,_=>f
 | .cons lab w kids rest,ks,Ts,⟨b,sl,ks',S,Ts',e1,e2,e3,r,f⟩,hT,hm=>by
  subst e1 e2;have t:=FoO.upd k f (fun U g=>hT U (aR _ g)) fun y a=>(hm y a).imp (fun h=>⟨h.1,fun U g=>h.2 U (aR _ g)⟩) id
  have n:=hT S (az ..);have i:∀y,M y→(W y∧¬S y)∨h.size≤y:=fun y a=>(hm y a).imp (fun h=>⟨h.1,h.2 S (az ..)⟩) id
  have p:∀y,S y→¬M y:=fun y a hM=>by
   have:=n y a;rcases i y hM with h|h
   ·exact h.2 a
   ·omega
  have z:=k.size;rcases r with⟨r,e⟩|⟨e,val,s,m,A,Us,C,hv,B,c,j,g,x,v⟩
  ·exact⟨b,sl,ks',S,Ts',rfl,rfl,e3,.inl ⟨RxN.updM k (fun y a=>(i y a).imp (fun h=>h.1) id) r,e⟩,t⟩
  ·exact⟨b,sl,ks',S,Ts',rfl,rfl,e3,.inr ⟨e,val,s,m,A,Us,k.get C (p b j),hv,B.upd k fun y a=>p y (c y a).1,fun y a=>⟨(c y a).1,(c y a).2.1,by have:=(c y a).2.2;omega⟩,j,g,x,FoO.upd k v (fun U d y a=>n y (g U d y a).1) fun y a=>(i y a).imp (fun h=>⟨h.1,fun U d u=>h.2 (g U d y u).1⟩) id⟩,t⟩
theorem RxO.upd{o:Option Addr}{W M:Nat→Prop}{h g:ad}(k:Upd M h g){b:Nat}{sl:ByteArray}{w:Option ByteArray}{F:Fo}{S:Nat→Prop}(r:RxO o W h b sl w F S)(i:∀y,S y→y<h.size)(hm:∀y,M y→(W y∧¬S y)∨h.size≤y):RxO o W g b sl w F S:=by
 have:=FoO.upd (F:=.cons sl.data.toList w F .nil) k (ks:= [some ⟨b,0,none⟩]) (Ts:= [S]) ⟨b,sl,[],S,[],rfl,rfl,rfl,r,rfl,rfl⟩ (fun U e=>by rw[aq.1 e];exact i) fun y n=>(hm y n).imp (fun h=>⟨h.1,fun U e=>by rw[aq.1 e];exact h.2⟩) id
 obtain⟨q,a,j,p,Ts',d,c,f,m,_⟩:=this;simp only[fi.injEq,bv.injEq,Addr.mk.injEq,and_true]at d c;obtain⟨d,_⟩:=d;obtain⟨c,_⟩:=c;subst d c;have f:a=sl:=by cases a;cases sl;exact congrArg jZ (hO.1 f)
 subst f;exact m
theorem FoO.upd0{o:Option Addr}{W:Nat→Prop}{h i:ad}(k:Upd No h i):∀{F:Fo} {ks:List (Option Addr)} {Ts:List (Nat→Prop)},FoO o W h F ks Ts→FoO o W i F ks Ts
 | .nil,_,_,f=>f
 | .cons lab w kids rest,ks,Ts,⟨b,sl,ks',S,Ts',e1,e2,e3,r,f⟩=>by
  have z:=k.size;refine⟨b,sl,ks',S,Ts',e1,e2,e3,?_,FoO.upd0 k f⟩;rcases r with⟨r,e⟩|⟨e,val,s,g,A,Us,q,hv,p,a,c,m,n,j⟩
  ·exact .inl ⟨RxN.upd0 k r,e⟩
  ·exact .inr ⟨e,val,s,g,A,Us,k.get0 q,hv,p.upd k fun _ _ h=>h,fun y d=>⟨(a y d).1,(a y d).2.1,by have:=(a y d).2.2;omega⟩,c,m,n,FoO.upd0 k j⟩
theorem RxO.upd0{o:Option Addr}{W S:Nat→Prop}{h g:ad}(k:Upd No h g){b:Nat}{sl:ByteArray}{w:Option ByteArray}{F:Fo}(r:RxO o W h b sl w F S):RxO o W g b sl w F S:=by
 have z:=k.size;rcases r with⟨r,e⟩|⟨e,val,s,f,A,Us,p,hv,n,a,c,j,m,i⟩
 ·exact .inl ⟨RxN.upd0 k r,e⟩
 ·exact .inr ⟨e,val,s,f,A,Us,k.get0 p,hv,n.upd k fun _ _ h=>h,fun y d=>⟨(a y d).1,(a y d).2.1,by have:=(a y d).2.2;omega⟩,c,j,m,FoO.upd0 k i⟩
theorem FoO.less{o:Option Addr}{W W':Nat→Prop}{h:ad}(hm:∀y,W' y→W y∨h.size≤y):∀{F:Fo} {ks:List (Option Addr)} {Ts:List (Nat→Prop)},FoO o W h F ks Ts→FoO o W' h F ks Ts
 | .nil,_,_,f=>f
 | .cons lab w kids rest,ks,Ts,⟨b,sl,ks',S,Ts',e1,e2,e3,r,f⟩=>by
  refine⟨b,sl,ks',S,Ts',e1,e2,e3,?_,FoO.less hm f⟩;rcases r with⟨r,e⟩|⟨e,val,s,d,A,Us,m,hv,k,c,a,i,j,g⟩
  ·exact .inl ⟨RxN.less hm r,e⟩
  ·exact .inr ⟨e,val,s,d,A,Us,m,hv,k,c,a,i,j,FoO.less hm g⟩
theorem RxO.less{o:Option Addr}{W W' S:Nat→Prop}{h:ad}(hm:∀y,W' y→W y∨h.size≤y){b:Nat}{sl:ByteArray}{w:Option ByteArray}{F:Fo}(r:RxO o W h b sl w F S):RxO o W' h b sl w F S:=by
 rcases r with⟨r,e⟩|⟨e,val,s,d,A,Us,k,hv,j,c,a,g,i,f⟩
 ·exact .inl ⟨RxN.less hm r,e⟩
 ·exact .inr ⟨e,val,s,d,A,Us,k,hv,j,c,a,g,i,FoO.less hm f⟩
theorem KidO.upd{o:Option Addr}{W M:Nat→Prop}{h c:ad}(k:Upd M h c){a:Option Addr}{n:Bn}{S:Nat→Prop}(r:KidO o W h a n S)(d:∀y,S y→y<h.size)(hm:∀y,M y→(W y∧¬S y)∨h.size≤y):KidO o W c a n S:=let⟨b,sl,f,e,r⟩:=r;⟨b,sl,f,e,r.upd k d hm⟩
theorem KidO.less{o:Option Addr}{W W' S:Nat→Prop}{h:ad}(hm:∀y,W' y→W y∨h.size≤y){a:Option Addr}{n:Bn}(r:KidO o W h a n S):KidO o W' h a n S:=let⟨b,sl,c,d,r⟩:=r;⟨b,sl,c,d,r.less hm⟩
theorem Sv{o:Option Addr}{W:Nat→Prop}{h:ad}{F:Fo}{ks:List (Option Addr)}(f:RxF W h F ks):LsO o W h ks F.toL (List.replicate F.toL.length No):=by
 have d:=pY.1 f;refine⟨d.1,by simp,fun i k n S ek c a=>?_⟩
 obtain⟨hi,c⟩:=List.getElem?_eq_some_iff.1 c;obtain⟨b,sl,e,g,r⟩:=d.at hi;rw[ek]at e;cases e;have a:S=No:=by
  rw[List.getElem?_replicate,if_pos hi]at a;exact(bv.inj a).symm
 subst a c;exact⟨b,sl,rfl,g,.inl ⟨r,fun _ h=>h⟩⟩
theorem RxO.view{o:Option Addr}{W S:Nat→Prop}{h:ad}{b:Nat}{sl:ByteArray}{w:Option ByteArray}{F:Fo}(r:RxO o W h b sl w F S):
  ∃(val:ByteArray) (s:SliceV) (ow:Option Addr) (ks:List (Option Addr)) (Us:List (Nat→Prop)),h[b]? =some (.cells (vQ sl w.isSome val s ow) bw (0,0))∧val=w.getD ⟨#[]⟩∧Sl lB 1 No h s ks∧LsO o W h ks F.toL Us∧(∀U∈Us,∀y,U y→S y)∧PD Us∧
   ((OwOk W h ow∧(¬W b)∧Sl lB 1 W h s ks∧∀y,¬S y)∨(o.isSome=true∧ow=o∧∃A:Nat→Prop,OwnS lB 1 aY A h s ks∧(∀y,A y→S y∧y≠b∧y<h.size)∧S b∧∀U∈Us,∀y,U y→¬A y∧y≠b)):=by
 rcases r with⟨⟨val,s,ow,ks,u,B,p,m,v⟩,e⟩|⟨e,val,s,k,A,Us,x,hv,n,g,f,d,t,q⟩
 ·refine⟨val,s,ow,ks,_,u,B,p.less fun _ h=>h.elim,Sv v,fun U d y a=>?_,fun i j S T _ z C y a _=>?_,.inl ⟨m.2.2,m.2.1,p,e⟩⟩
  ·rw[List.eq_of_mem_replicate d]at a;exact a.elim
  ·rw[List.eq_of_mem_replicate (ay z)]at a;exact a.elim
 ·exact⟨val,s,o,k,Us,x,hv,n.sl fun _ _ _ h=>h,B9.1 q,fun U c y a=>(d U c y a).1,t,.inr ⟨e,rfl,A,n,g,f,fun U c y a=>(d U c y a).2⟩⟩
def SR(o:Option Addr)(b:Nat)(A:Nat→Prop)(Us:List (Nat→Prop))(y:Nat):Prop:=o.isSome=true∧(y=b∨A y∨∃U∈Us,U y)
theorem uT{o:Option Addr}{W:Nat→Prop}{h:ad}{b:Nat}{sl val:ByteArray}{s:SliceV}{w:Option ByteArray}{F:Fo}{ks:List (Option Addr)}{A:Nat→Prop}{Us:List (Nat→Prop)}(u:h[b]? =some (.cells (vQ sl w.isSome val s o) bw (0,0))) (hv:val=w.getD ⟨#[]⟩) (n:OwnS lB 1 aY A h s ks)
  (t:∀y,A y→y≠b∧y<h.size) (x:∀U∈Us,∀y,U y→¬A y∧y≠b) (k:PD Us) (g:LsO o W h ks F.toL Us) (v:o=none→(∀y,A y→¬W y)∧¬W b):RxO o W h b sl w F (SR o b A Us):=by
 cases o with
 |none=>
  obtain⟨z,C⟩:=v rfl;refine .inl ⟨⟨val,s,none,ks,u,hv,n.sl fun y c _=>z y c,⟨n.cap,C,kz⟩,pY.2 ⟨g.1,fun p k=>?_⟩⟩,fun y c=>by simp[SR]at c⟩
  obtain⟨i,hi,e⟩:=List.getElem_of_mem k;rw[List.length_zip]at hi;have j:i<ks.length:=by omega
  have f:i<F.toL.length:=by omega
  have q:i<Us.length:=by rw[g.2.1];exact f
  rw[List.getElem_zip]at e;subst e;obtain⟨E,m,D,B,r⟩:=g.2.2 i _ _ _ (af j) (af f) (af q);exact⟨E,m,D,B,r.off.1⟩
 |some a=>exact .inr ⟨rfl,val,s,ks,A,Us,u,hv,n,fun y c=>⟨⟨rfl,.inr (.inl c)⟩,t y c⟩,⟨rfl,.inl rfl⟩,fun U d y c=>⟨⟨rfl,.inr (.inr ⟨U,d,c⟩)⟩,x U d y c⟩,k,B9.2 g⟩
end Go.Proofs
namespace Go.Proofs
open Go Go.Lift
theorem CC{h:ad}{w o:Option Addr}{b:Nat}{sl val:ByteArray}{has:Bool}{s:SliceV}{ow:Option Addr}(t:By h w o)(e:h[b]? =some (.cells (vQ sl has val s ow) bw (0,0))) (d:∀a,ow=some a→d9 h a) {K:Bool→ad→Prop} (c:K (o.isSome&&(ow==w)) h):
  HC PG m5 [.pointer (some ⟨b,0,none⟩),.pointer w] [.c .bool] K h:=by
 refine xU _ w ?_;unfold qL fE;refine aA.2 (yG t ?_);cases o with
 |none=>exact aj.2 c
 |some a=>exact aA.2 ⟨_,rfl,ow,dz (i:=4) e,trivial,fun x y hx f=>⟨d x hx,t.plain y f⟩,c⟩
theorem kq{W S:Nat→Prop}{h:ad}{w o:Option Addr}{b:Nat}{sl val:ByteArray}{has:Bool}{s:SliceV}{ow:Option Addr}{ks:List (Option Addr)}{Us:List (Nat→Prop)}(t:By h w o)(Y:∀a,o=some a→W a.block)(g:h[b]? =some (.cells (vQ sl has val s ow) bw (0,0))) (hn:ks.length≤256)
  (P:(OwOk W h ow∧Sl lB 1 No h s ks∧(∀U∈Us,∀y,U y→y<h.size))∨(o.isSome=true∧ow=o∧∃A:Nat→Prop,OwnS lB 1 aY A h s ks∧(∀y,A y→S y∧y≠b∧y<h.size)∧S b∧∀U∈Us,∀y,U y→¬A y∧y≠b)) {K:Option Addr→ad→Prop}
  (R:∀h' b' s' A,h'[b']? =some (.cells (vQ sl has val s' o) bw (0,0))→OwnS lB 1 aY A h' s' ks→(∀y,A y→(S y∨h.size≤y)∧y≠b'∧y<h'.size)→(S b'∨h.size≤b')→(∀U∈Us,∀y,U y→¬A y∧y≠b')→Upd No h h'→K (some ⟨b',0,none⟩) h'):
  HC PG dA [.pointer (some ⟨b,0,none⟩),.pointer w] [.c .ptr] K h:=by
 refine AH _ w ?_;unfold th fE bM bD cV nv uw ie Hi Tq;rcases P with⟨q,P,B⟩|⟨e,L,A,Z,p,J,B⟩
 ·refine CC t g (fun a e=>(q a e).2) ?_
  have F:(o.isSome&&(ow==w))=false:=by
   cases ho:o with
   |none=>rfl
   |some a=>
    have e:=t.tok ho;rw[Option.isSome_some,sG,beq_eq_false_iff_ne];intro j;rw[e]at j;exact(q a j).1 (Y a ho)
  rw[F];refine aj.2 ⟨_,rfl,sl,dz (i:=0) g,has,dz (i:=1) g,val,dz (i:=2) g,s,dz (i:=3) g,ow,dz (i:=4) g,bT ?_⟩;have k1:=Upd.hnew No h Rw bw;have b1:=cW h Rw bw;simp only[fR h];generalize hnew h [.string (⟨#[]⟩:ByteArray),.bool false,.string (⟨#[]⟩:ByteArray),.slice none 0 0,.pointer none] bw=h1 at k1 b1;refine dd (c:=Rw) (vs:= [.string sl,.bool has,.string val,.slice s.a s.len s.cap,.pointer ow]) b1 rfl fun E b2 N=>?_
  have G:Upd No h E:=k1.trans N fun x hx=>.inr (g5 hx.symm)
  have X:h.size<E.size:=aD b2;have D:=G.get0 g;refine⟨_,rfl,s,dz (i:=3) D,?_⟩;refine FA (P.upd G fun _ h=>h.elim) (by omega) fun s3 T I k=>?_
  have b3:T[h.size]? =some (.cells (vQ sl has val s ow) bw (0,0)):=k.get0 b2;refine⟨Oz (i:=3) b3 (show 3<5 by decide),CE (i:=3) (c':=vQ sl has val s3 ow) b3 rfl fun h4 V O=>?_⟩
  refine⟨Oz (i:=4) V (show 4<5 by decide),CE (i:=4) (c':=vQ sl has val s3 none) V rfl fun Q H C=>?_⟩
  have d:=O.tr C;have z3:=k.size;have z5:=d.size;have z:Upd No h Q:=(G.tr k).trans d fun x hx=>.inr (g5 hx.symm)
  have fin:∀{m:ad},m[h.size]? =some (.cells (vQ sl has val s3 o) bw (0,0))→Upd (· =h.size) Q m→K (some ⟨h.size,0,none⟩) m:=fun{m} M f=>by
   have z6:=f.size;exact R m h.size s3 (fun x=>E.size≤x∧x<T.size) M (I.within.upd (d.tr f) fun x hx e=>by have e:x=h.size:=e;have:=hx.1;omega) (fun y n=>⟨.inr (by omega),by omega,by omega⟩) (.inr (ao _)) (fun U v y n=>⟨fun h=>by have:=B U v y n;omega,by have:=B U v y n;omega⟩) (z.trans f fun x hx=>.inr (g5 hx.symm))
  refine yG (t.upd0 z) ?_;cases ho:o with
  |none=>rw[ho]at fin;exact aj.2 (fin H (Upd.refl _ _))
  |some a=>
   rw[ho]at fin;rw[t.tok ho];exact aA.2 ⟨Oz (i:=4) H (show 4<5 by decide),CE (i:=4) (c':=vQ sl has val s3 (some a)) H rfl fun m M f=>fin M f⟩
 ·refine CC t g (fun a j=>t.plain a (t.tok (by rw[←L];exact j))) ?_
  have u:(o.isSome&&(ow==w))=true:=by
   obtain⟨a,j⟩:=Option.isSome_iff_exists.1 e;rw[e,L,j,t.tok j];simp
  rw[u];subst L;exact aA.2 (R h b s A g Z (fun y n=>⟨.inl (p y n).1,(p y n).2⟩) (.inl J) B (Upd.refl _ _))
theorem Hy{h:ad}{w o:Option Addr}{k v:ByteArray}(t:By h w o){K:Option Addr→ad→Prop}(B:∀h' b s A,h'[b]? =some (.cells (vQ k true v s o) bw (0,0))→OwnS lB 1 aY A h' s []→(∀y,A y→h.size≤y∧y≠b∧y<h'.size)→h.size≤b→Upd No h h'→K (some ⟨b,0,none⟩) h'):HC PG si [.pointer w,.string k,.string v] [.c .ptr] K h:=by
 refine Ep w k v ?_;unfold wY BU uw Hi;have k1:=Upd.hnew No h Rw bw;have b1:=cW h Rw bw;refine bT ?_;simp only[fR h];generalize hnew h [.string (⟨#[]⟩:ByteArray),.bool false,.string (⟨#[]⟩:ByteArray),.slice none 0 0,.pointer none] bw=h1 at k1 b1;have F:=k1.size;refine kq (W:=fun y=>∃a,o=some a∧a.block=y) (S:=No) (Us:= []) (ks:= []) (sl:=⟨#[]⟩) (val:=⟨#[]⟩) (has:=false) (s:=⟨none,0,0⟩) (ow:=none) (t.upd0 k1) (fun a e=>⟨a,e,rfl⟩) b1 (aU _) (.inl ⟨kz,Sl.nil nB,fun U u=>by cases u⟩) fun G b2 s A p j d i _ f=>?_
 refine tK (nl:=k) p fun E b3 m=>qZ (v:=v) b3 fun q C g=>?_
 have c:=m.tr g;have z:h1.size≤b2:=i.elim (fun h=>h.elim) id
 have D:=c.size;exact B q b2 s A C (j.upd c fun x hx e=>(d x hx).2.1 e) (fun y n=>⟨(d y n).1.elim (fun h=>h.elim) fun h=>by omega,(d y n).2.1,by have:=(d y n).2.2;omega⟩) (by omega) ((k1.tr f).trans c fun x hx=>.inr (by have hx:x=b2:=hx;omega))
theorem TK{o:Option Addr}{W:Nat→Prop}{h:ad}{b:Nat}{k v:ByteArray}{s:SliceV}{A:Nat→Prop}(c:h[b]? =some (.cells (vQ k true v s o) bw (0,0))) (d:OwnS lB 1 aY A h s []) (a:∀y,A y→y≠b∧y<h.size) (nw:o=none→(∀y,A y→¬W y)∧¬W b):RxO o W h b k (some v) .nil (SR o b A []):=
 uT c rfl d a (fun _ h=>by cases h) (fun i j S T _ e=>by simp at e) ⟨rfl,rfl,fun i k n S e=>by simp at e⟩ nw
theorem LsO.ins{o:Option Addr}{W:Nat→Prop}{h:ad}{ks:List (Option Addr)}{L:List Bn}{Ts:List (Nat→Prop)}(r:LsO o W h ks L Ts){i:Nat}(hi:i≤L.length){k:Option Addr}{n:Bn}{S:Nat→Prop}(c:KidO o W h k n S):LsO o W h (ks.take i++k::ks.drop i) (L.take i++n::L.drop i) (Ts.take i++S::Ts.drop i):=by
 obtain⟨q,s,m⟩:=r;have g:∀{α:Type _} {xs:List α} {x:α} {j:Nat},i≤xs.length→(xs.take i++x::xs.drop i)[j]? =if j<i then xs[j]? else if j=i then some x else xs[j-1]?:=fun{α xs x j} p=>by
  split
  ·rename_i hj
   rw[co (by rw[aI];omega),nf,if_pos hj]
  ·rename_i hj
   rw[cL (by rw[aI];omega),aI,bm p];split
   ·rename_i e;subst e;simp
   ·rename_i e
    have:j-i=(j-i-1)+1:=by omega
    rw[this,du,ng];congr 1;omega
 refine⟨by simp[q],by simp[s],fun j k' d f ek a b=>?_⟩
 rw[g (by omega)]at ek a b;split at ek
 ·rename_i hj
  rw[if_pos hj]at a b;exact m j k' d f ek a b
 ·rename_i hj
  rw[if_neg hj]at a b;split at ek
  ·rename_i e
   rw[if_pos e]at a b;cases ek;cases a;cases b;exact c
  ·rename_i e
   rw[if_neg e]at a b;exact m (j-1) k' d f ek a b
theorem Sq{Ts:List (Nat→Prop)}(f:PD Ts){i:Nat}(hi:i≤Ts.length){S:Nat→Prop}(d:∀U∈Ts,Dj S U):PD (Ts.take i++S::Ts.drop i):=by
 have g:∀{j:Nat},(Ts.take i++S::Ts.drop i)[j]? =if j<i then Ts[j]? else if j=i then some S else Ts[j-1]?:=fun{j}=>by
  split
  ·rename_i hj
   rw[co (by rw[aI];omega),nf,if_pos hj]
  ·rename_i hj
   rw[cL (by rw[aI];omega),aI,bm hi];split
   ·rename_i e;subst e;simp
   ·rename_i e
    have:j-i=(j-i-1)+1:=by omega
    rw[this,du,ng];congr 1;omega
 have m:∀{A B:Nat→Prop},Dj A B→Dj B A:=fun h y o n=>h y n o
 intro a b A B k c eb;rw[g]at c eb;split at c<;>split at eb
 ·exact f a b A B k c eb
 ·rename_i h1 h2
  split at eb
  ·cases eb;exact m (d A (ay c))
  ·exact f a (b-1) A B (by omega) c eb
 ·rename_i h1 h2
  split at c
  ·cases c;exact d B (ay eb)
  ·exact f (a-1) b A B (by omega) c eb
 ·rename_i h1 h2
  split at c<;>split at eb
  ·omega
  ·cases c;exact d B (ay eb)
  ·cases eb;exact m (d A (ay c))
  ·exact f (a-1) (b-1) A B (by omega) c eb
theorem OQ{Ts:List (Nat→Prop)}(g:PD Ts){i:Nat}{S:Nat→Prop}(e:∀j U,j≠i→Ts[j]? =some U→Dj S U):PD (Ts.set i S):=by
 have k:∀{A B:Nat→Prop},Dj A B→Dj B A:=fun h y m f=>h y f m
 intro a b A B c d eb;rw[fe]at d eb;split at d<;>split at eb
 ·omega
 ·rename_i h1 h2
  subst h1;split at d
  ·cases d;exact e b B (Ne.symm c) eb
  ·cases d
 ·rename_i h1 h2
  subst h2;split at eb
  ·cases eb;exact k (e a A c d)
  ·cases eb
 ·exact g a b A B c d eb
theorem LsO.set{o:Option Addr}{W:Nat→Prop}{h:ad}{ks:List (Option Addr)}{L:List Bn}{Ts:List (Nat→Prop)}(m:ks.length=L.length)(p:Ts.length=L.length){i:Nat}(g:∀(j:Nat) (k:Option Addr) (n:Bn) (S:Nat→Prop),j≠i→ks[j]? =some k→L[j]? =some n→Ts[j]? =some S→KidO o W h k n S) {k:Option Addr} {n:Bn} {S:Nat→Prop} (c:KidO o W h k n S):LsO o W h (ks.set i k) (L.set i n) (Ts.set i S):=by
 refine⟨by simp[m],by simp[p],fun j k' d f ek a b=>?_⟩
 rw[fe]at ek a b;by_cases e:i=j
 ·rw[if_pos e]at ek a b
  split at ek
  ·rename_i hj
   rw[if_pos (by omega)]at a b;cases ek;cases a;cases b;exact c
  ·cases ek
 ·rw[if_neg e]at ek a b
  exact g j k' d f (Ne.symm e) ek a b
end Go.Proofs
namespace Go.Proofs
open Go Go.Lift
theorem By.lt{h:ad}{w o:Option Addr}(t:By h w o){a:Addr}(e:w=some a):a.block<h.size:=by
 obtain⟨c,ty,b,_⟩:=t.plain a e;exact aD b
theorem LsO.move{o:Option Addr}{W W' M:Nat→Prop}{h c:ad}{ks:List (Option Addr)}{L:List Bn}{Us:List (Nat→Prop)}(r:LsO o W h ks L Us)(k:Upd M h c)(f:∀U∈Us,∀y,U y→y<h.size)(hm:∀y,M y→(W y∧∀U∈Us,¬U y)∨h.size≤y)(g:∀y,W' y→W y∨h.size≤y):LsO o W' c ks L Us:=by
 refine⟨r.1,r.2.1,fun i kk n S ek e d=>?_⟩
 have b:=ay d;exact(((r.2.2 i kk n S ek e d).less (W':=fun y=>W y∨h.size≤y) fun y a=>a).upd k (f S b) fun y a=>(hm y a).imp (fun h=>⟨.inl h.1,h.2 S b⟩) id).less fun y a=>.inl (g y a)
theorem xM{o:Option Addr}{S A:Nat→Prop}{Us:List (Nat→Prop)}{b z:Nat}{a:ad}(i:S b∨z≤b)(d:b<a.size)(f:∀y,A y→(S y∨z≤y)∧y<a.size)(e:∀U∈Us,∀y,U y→(S y∨z≤y)∧y<a.size){y:Nat}(g:SR o b A Us y):(S y∨z≤y)∧y<a.size:=by
 rcases g.2 with rfl|h|⟨U,c,h⟩
 ·exact⟨i,d⟩
 ·exact f y h
 ·exact e U c y h
set_option maxHeartbeats 1000000 in
theorem Hx{W S:Nat→Prop}{h:ad}{w' o:Option Addr}{b:Nat}{sl:ByteArray}{w:Option ByteArray}{F:Fo}(r:RxO o W h b sl w F S)(t:By h w' o)(hW:∀y,W y→y<h.size)(M:∀y,S y→W y)(hWo:∀a,o=some a→W a.block)(hn:F.toL.length≤256){c:Nat}(hc:c≤sl.size){K:Option Addr→ad→Prop}
  (hk:∀h' b' S',RxO o (fun y=>W y∨S' y) h' b' (sl.extract 0 c) none (.cons (sl.data.toList.drop c) w F .nil) S'→(∀y,S' y→(S y∨h.size≤y)∧y<h'.size)→Upd S h h'→K (some ⟨b',0,none⟩) h'):HC PG mZ [.pointer (some ⟨b,0,none⟩),.pointer w',.int .i64 c] [.c .ptr] K h:=by
 refine xQ _ w' c ?_;unfold qH bM cV BU uw Hi;have hno:o=none→∀y,¬S y:=fun e=>by subst e;exact r.off.2
 obtain⟨val,s,ow,ks,Us,hb,hv,hs,hL,C,hPD,Z⟩:=r.view;have v:∀y,S y→y<h.size:=fun y d=>hW y (M y d)
 have lab:∀{h'},Upd No h h'→aM h' (adr ⟨b,0,none⟩ 0)=some (.string sl):=fun k=>dz (i:=0) (k.get0 hb)
 have r0:=Upd.refl No h;refine⟨_,rfl,sl,lab r0,⟨by omega,by omega⟩,bT ?_⟩
 have k1:=Upd.hnew No h Rw bw;have b1:=cW h Rw bw;simp only[fR h];generalize hnew h [.string (⟨#[]⟩:ByteArray),.bool false,.string (⟨#[]⟩:ByteArray),.slice none 0 0,.pointer none] bw=h1 at k1 b1;have z1:=k1.size;refine⟨lab k1,?_⟩;refine kq (W:=W) (S:=No) (Us:= []) (ks:= []) (sl:=⟨#[]⟩) (val:=⟨#[]⟩) (has:=false) (s:=⟨none,0,0⟩) (ow:=none) (t.upd0 k1) hWo b1 (aU _) (.inl ⟨kz,Sl.nil nB,fun U q=>by cases q⟩) fun h2 u s2 A2 b2 _ _ hbu _ hu2=>⟨lab (k1.tr hu2),?_⟩
 have hbu:h1.size≤u:=hbu.elim (fun h=>h.elim) id
 have hbu2:=aD b2;rw[aH];refine tK b2 fun h3 b3 Q=>?_
 have R:=k1.tr hu2;have f:Upd No h h3:=R.trans Q fun x hx=>.inr (by have hx:x=u:=hx;omega)
 have z02:=R.size;have z3:=Q.size;have z03:=f.size;have t3:=t.upd0 f;refine kq (W:=W) (S:=S) (Us:=Us) (ks:=ks) (s:=s) (ow:=ow) (val:=val) (sl:=sl) (has:=w.isSome) t3 hWo (f.get0 hb) (by rw[hL.1];exact hn) ?_ fun h4 m s4 A4 J hA4 g V hU4 I=>?_
 ·rcases Z with⟨how,_,_,hS0⟩|⟨e,eo,A,hA,N,hSbb,hUA⟩
  ·exact .inl ⟨how.upd f fun _ h=>h.elim,hs.upd f fun _ h=>h.elim,fun U q y d=>absurd (C U q y d) (hS0 y)⟩
  ·exact .inr ⟨e,eo,A,hA.upd f fun _ _ h=>h,fun y d=>⟨(N y d).1,(N y d).2.1,by have:=(N y d).2.2;omega⟩,hSbb,hUA⟩
 refine⟨_,rfl,sl,dz (i:=0) J,⟨by omega,by omega⟩,?_⟩
 refine tK (nl:=sl.extract c sl.size) J fun p b5 G=>?_
 have z4:=I.size;have z5:=G.size;have hA5:=hA4.upd G fun x hx e=>(g x hx).2.1 e
 have nb:u≠m:=fun e=>by
  rcases V with h|h
  ·have:=v _ h;omega
  ·omega
 have b35:p[u]? =some (.cells (vQ (sl.extract 0 c) false ⟨#[]⟩ s2 o) bw (0,0)):=G.get (I.get0 b3) (by show ¬u=m;omega);have k6:=Upd.hnew No p [.pointer (some ⟨m,0,none⟩)] aY;have b6:=cW p [.pointer (some ⟨m,0,none⟩)] aY;refine bT ?_;simp only[fR p];generalize hnew p [.pointer (some ⟨m,0,none⟩)] aY=h6 at k6 b6;have z6:=aD b6
 have Y:=k6.get0 b35;refine⟨_,rfl,Oz (i:=3) Y (show 3<5 by decide),CE (i:=3) (c':=vQ (sl.extract 0 c) false ⟨#[]⟩ ⟨some ⟨p.size,0,none⟩,1,1⟩ o) Y rfl fun L b7 E=>?_⟩
 have z7:=E.size;have zb4:=aD J;have u07:Upd (· =m) h L:=((((f.tr I).wide.tr G).tr k6.wide).trans E fun x hx=>.inr (by have hx:x=u:=hx;omega))
 have b57:=E.get (k6.get0 b5) (by show ¬m=u;omega);have b67:L[p.size]? =some (.cells #[.pointer (some ⟨m,0,none⟩)] aY (0,0)):=E.get b6 (by show ¬p.size=u;omega);have hA7:=(hA5.upd k6 fun _ _ h=>h).upd E fun x hx e=>by
  have e:x=u:=e;rcases(g x hx).1 with h|h
  ·have:=v x h;omega
  ·omega
 have D:∀y,A4 y→(S y∨h.size≤y)∧y<L.size:=fun y d=>⟨(g y d).1.imp id fun h=>by omega,by have:=(g y d).2.2;omega⟩
 have z:S m∨h.size≤m:=V.imp id fun h=>by omega
 have hUb:∀U∈Us,∀y,U y→(S y∨h.size≤y)∧y<L.size:=fun U q y d=>⟨.inl (C U q y d),by have:=v y (C U q y d);omega⟩
 have hSk:∀y,SR o m A4 Us y→(S y∨h.size≤y)∧y<L.size:=fun y d=>xM z (by omega) D hUb d
 have hSk5:∀y,SR o m A4 Us y→y<p.size:=fun y d=>by
  rcases d.2 with rfl|h|⟨U,O,h⟩
  ·omega
  ·have:=(g y h).2.2;omega
  ·have:=v y (C U O y h);omega
 have hSkb:∀y,SR o m A4 Us y→y≠u:=fun y d e=>by
  subst e;rcases d.2 with h|h|⟨U,O,h⟩
  ·exact nb h
  ·rcases(g y h).1 with h|h
   ·have:=v y h;omega
   ·omega
  ·have:=v y (C U O y h);omega
 have H:∀{A:Nat→Prop} {bb:Nat} {T:List (Nat→Prop)} {X:Nat→Prop},(∀y,A y→S y∨h.size≤y)→(S bb∨h.size≤bb)→o=none→(∀y,A y→¬(W y∨SR o u X T y))∧¬(W bb∨SR o u X T bb):=fun{A bb T X} hA hb e=>by
  have no:∀y,(S y∨h.size≤y)→¬(W y∨SR o u X T y):=fun y d P=>by
   rcases P with P|⟨P,_⟩
   ·rcases d with h|h
    ·exact hno e y h
    ·have:=hW y P;omega
   ·rw[e]at P;cases P
  exact⟨fun y d=>no y (hA y d),no _ hb⟩
 refine hk L u (SR o u (· =p.size) [SR o m A4 Us]) (uT (ks:= [some ⟨m,0,none⟩]) b7 rfl (⟨rfl,nB,ao _,.inr ⟨p.size,[],rfl,rfl,by simpa[lB]using b67,rfl⟩⟩:OwnS lB 1 aY (· =p.size) L ⟨some ⟨p.size,0,none⟩,1,1⟩ [some ⟨m,0,none⟩]) (fun y d=>?_) (fun U q y d=>?_) (fun i j A B hij e1 e2=>?_) ⟨rfl,rfl,fun i kk n U ek en eU=>?_⟩ (H (fun y d=>?_) (.inr (by omega)))) (fun y d=>?_) (u07.mono fun y d=>?_)
 ·have d:y=p.size:=d
  omega
 ·rw[aq.1 q]at d
  have:=hSk5 y d;exact⟨fun h=>by have h:y=p.size:=h;omega,hSkb y d⟩
 ·cases i with
  |zero=>cases j with
   |zero=>exact absurd rfl hij
   |succ j=>simp at e2
  |succ i=>simp at e1
 ·cases i with
  |succ i=>simp at ek
  |zero=>
   simp only[bW,bv.injEq,Fo.toL]at ek en eU;subst ek en eU;refine⟨m,sl.extract c sl.size,rfl,yP ..,uT b57 hv hA7 (fun y d=>⟨(g y d).2.1,(D y d).2⟩) hU4 hPD (hL.move u07 (fun U q y d=>v y (C U q y d)) (fun y d=>?_) fun y d=>?_) (H (fun y d=>(D y d).1) z)⟩
   ·have d:y=m:=d
    subst d;exact z.imp (fun h=>⟨M y h,fun U q hu=>(hU4 U q y hu).2 rfl⟩) id
   ·rcases d with h|h
    ·exact .inl h
    ·rcases h.2 with rfl|h|⟨U,q,h⟩
     ·exact .inr (by omega)
     ·have h:y=p.size:=h
      exact .inr (by omega)
     ·rw[aq.1 q]at h
      exact(hSk y h).1.imp (M y) id
 ·have d:y=p.size:=d
  exact .inr (by omega)
 ·refine xM (.inr (by omega)) (aD b7) (fun y d=>?_) (fun U q y d=>?_) d
  ·have d:y=p.size:=d
   exact⟨.inr (by omega),by omega⟩
  ·rw[aq.1 q]at d
   exact hSk y d
 ·have d:y=m:=d
  rw[d];exact z
end Go.Proofs
