/- A part of the proof that the named laws of this program answer true, whatever the input. -/
import Derived.Test.YtajpljopgikpgaaGreatDoorPart2
import Derived.Test.YtajpljopgikpgaaGreatDoorPart1
open Array renaming toList_inj→gR
open Bool renaming true_and→rA
open ByteArray renaming mk→jy,data_extract→nn
open Int renaming toNat_natCast→aE
open List renaming range→cC,range_succ→fO,map_append→dL,sum_append→ii,map_cons→fx,map_nil→sY,sum_cons→oh,sum_nil→sX,length_cons→aL,length_append→ae,flatten_append→du,mem_singleton→aq,mem_cons_self→au,mem_cons_of_mem→aM,flatMap_cons→aU,flatten_cons→eO,length_nil→cq,length_singleton→aO,append_assoc→ao,getElem?_cons_succ→cZ,getElem_mem→aP,mem_of_mem_take→gi,cons_append→cU,append_inj→oZ,cons→gb,pairwise_cons→ba,mem_cons→ar,zip_cons_cons→g4,length_take→aG,zip_eq_zipWith→lB,length_drop→aI,set_eq_take_append_cons_drop→dM,getElem?_eq_getElem→ag,extract_eq_take_drop→fS,getElem?_cons_zero→bT,length_eq_zero_iff→bO,mem_of_getElem?→aF,getElem?_append_left→dI,getElem?_take→mp,getElem?_append_right→ee,getElem?_drop→mq,getElem?_set→eN
open Nat renaming add_zero→cN,add_mul→ix,mul_le_mul_left→iI,mul_le_mul_right→bQ,le_trans→aX,not_lt_zero→gz,zero_le→aV,le_refl→al,shiftRight_eq_div_pow→bZ,mod_eq_of_lt→cF,lt_or_ge→bD,zero_add→aB,le_of_eq→gJ,min_eq_left→aZ
open Option renaming some→bm
namespace Go.Proofs
open Go Go.Lift
theorem pD(x:Hs)(lev:Nat)(l:List Pr):∀n,(((cC n).map fun c=>(part x lev c l).length).sum)=(l.filter fun p=>decide (ck x lev p.1<n)).length
 |0=>by
  have:(l.filter fun p=>decide (ck x lev p.1<0))= []:=List.filter_eq_nil_iff.2 fun p _=>by simp
  rw[this];rfl
 |n+1=>by
  rw[fO,dL,ii,pD x lev l n];simp only[fx,sY,oh,sX,cN];unfold part;clear pD;induction l with
  |nil=>rfl
  |cons p l ih=>
   simp only[List.filter_cons,decide_eq_true_iff];split<;>split<;>split<;>first|omega|(simp only[aL];omega)
theorem yQ(x:Hs)(lev:Nat)(l:List Pr):(fi x lev l).length+(iC x lev l).flatten.length≤l.length:=by
 have h:=pD x lev l 32;have d:(l.filter fun p=>decide (ck x lev p.1<32)).length≤l.length:=List.length_filter_le ..
 have:∀n,(fm (fun c=>fX (part x lev c l)) n).length+(fm (fun c=>dN (part x lev c l)) n).flatten.length≤((cC n).map fun c=>(part x lev c l).length).sum:=by
  intro n;induction n with
  |zero=>simp[fm]
  |succ n ih=>
   rw[fz,fz,fO,dL,ii];simp only[ae,du,fx,sY,oh,sX,cN];generalize part x lev n l=q;have:(fX q).toList.length+(dN q).toList.flatten.length≤q.length:=by
    match q with
    | []=>simp[fX,dN]
    | [a]=>simp[fX,dN]
    |a::b::q=>simp[fX,dN]
   omega
 have:=this 32;unfold fi iC;omega
end Go.Proofs
namespace Go.Proofs
open Go Go.Lift
theorem pE{x:Hs}{lev:Nat}{l:List Pr}{p:Pr}(h:p∈fi x lev l):p∈l:=by
 unfold fi fm at h;obtain⟨c,_,hc⟩:=List.mem_filterMap.1 h;unfold fX at hc;split at hc
 ·rename_i q hq
  cases hc;have:p∈part x lev c l:=by rw[hq];exact aq.2 rfl
  exact(lK.1 this).1
 ·cases hc
theorem nG{x:Hs}{lev:Nat}{l L:List Pr}(h:L∈iC x lev l):2≤L.length∧∃c,L=part x lev c l:=by
 unfold iC fm at h;obtain⟨c,_,hc⟩:=List.mem_filterMap.1 h;unfold dN at hc;split at hc
 ·cases hc;exact⟨by assumption,c,rfl⟩
 ·cases hc
theorem Fit.part{x:Hs}{lev c:Nat}{l:List Pr}(h:Fit l):Fit (part x lev c l):=fun p a=>h p (lK.1 a).1
theorem AP{B:Nat}{f:List Pr→List UInt8}:∀{ls:List (List Pr)},(∀L∈ls,2≤L.length∧(f L).length≤9+L.length*B)→(ls.flatMap f).length≤ls.flatten.length*(B+9)
 | [],_=>by simp
 |L::ls,h=>by
  have b:=h L (au ..);have a:=AP (ls:=ls) fun M hM=>h M (aM _ hM)
  rw[aU,ae,eO,ae,ix];have:L.length*(B+9)=L.length*B+L.length*9:=Nat.mul_add ..;omega
theorem l7{x:Hs}:∀(m:Nat) {l:List Pr},Fit l→(eB x m l).length≤9+l.length*(20004+9*(m+1))
 |0,l,h=>by
  have:=kg h;unfold eB;rw[aL,ae,cQ];have:l.length*20004≤l.length*(20004+9*(0+1)):=iI _ (by omega);omega
 |m+1,l,h=>by
  have k:=kg (l:=fi x (12-m) l) fun p i=>h p (pE i)
  have g:=AP (f:=eB x m) (ls:=iC x (12-m) l) (B:=20004+9*(m+1)) fun L b=>by
   obtain⟨e,c,rfl⟩:=nG b;exact⟨e,l7 m h.part⟩
  have d:=yQ x (12-m) l;unfold eB;rw[aL,ae,ae,ae,cQ,cQ];have n:(fi x (12-m) l).length*20004≤(fi x (12-m) l).length*(20004+9*(m+1+1)):=iI _ (by omega);have j:((fi x (12-m) l).length+(iC x (12-m) l).flatten.length)*(20004+9*(m+1+1))≤l.length*(20004+9*(m+1+1)):=bQ _ d;rw[ix]at j
  have a:20004+9*(m+1)+9=20004+9*(m+1+1):=by omega
  rw[a]at g;omega
end Go.Proofs
namespace Go.Proofs
open Go Go.Lift
theorem IE{h:ad}{b d n:Nat}{sp sk:SliceV}{c:Bool}{ow:Option Addr}(a:h[b]? =some (.cells (ff d n sp sk c ow) bE (0,0))) (f:sp.len+sk.len≤1000000000) {K:Int→ad→Prop} (e:K ((sp.len+sk.len:Nat):Int) h):HC PG jC [.pointer (some ⟨b,0,none⟩)] [.c (.int .i64)] K h:=by
 refine tw _ ?_;unfold oW bG;refine aj.2 ⟨_,rfl,sp,dD (i:=2) a,_,rfl,sk,dD (i:=3) a,?_⟩;rw[nq (by omega)];exact_mod_cast e
def Bes(M:Nat→Prop)(h a:ad)(b:Nat):Prop:=M b∧(b<h.size∨a.size≤b)
theorem Bes.own{α:Type}{f:α→List Value}{c:Nat}{t:TypeId}{M:Nat→Prop}{h a:ad}{s:SliceV}{xs:List α}(d:OwnS f c t M h s xs)(e:Upd No h a):OwnS f c t (Bes M h a) a s xs:=
 (d.within.upd e fun _ _ h=>h).more fun _ b=>⟨b.1,.inl b.2⟩
theorem Bes.sl{α:Type}{f:α→List Value}{c:Nat}{t:TypeId}{M:Nat→Prop}{h a:ad}{s:SliceV}{xs:List α}(d:OwnS f c t (fun x=>h.size≤x) a s xs):Sl f c (Bes M h a) a s xs:=
 d.sl fun b g e hx=>by rcases hx.2 with h|h<;>omega
theorem Bes.hM{M:Nat→Prop}{h a:ad}(hM:∀b,h.size≤b→M b)(d:Upd No h a):∀b,a.size≤b→Bes M h a b:=fun b c=>⟨hM b (aX d.size c),.inr c⟩
theorem M5{W:Nat→Prop}{x:Hs}:∀(m:Nat),m≤13→∀{b:Nat} {l:List Pr} {V h:ad} {M:Nat→Prop} {s:SliceV} {xs:List UInt8},TrieAt W x V m b l→Upd No V h→(∀y,M y→V.size≤y)→OwnS mE 1 bX M h s xs→(∀y,h.size≤y→M y)→Fit l→l.length≤60000→
  xs.length+(9+l.length*(20004+9*(m+1)))≤140737488355328→∀{K:SliceV→ad→Prop},(∀s' j,OwnS mE 1 bX M j s' (xs++eB x m l)→Upd M h j→K s' j)→
  HC PG qt [.slice s.a s.len s.cap,.pointer (some ⟨b,0,none⟩),.int .i64 ((13-m:Nat):Int)] [.c .slice] K h:=by
 intro m;induction m with
 |zero=>
  intro _ b l V h M s xs t hu0 Q ho hM hf hn hx K hk;refine Ak s (some ⟨b,0,none⟩) ((13-0:Nat):Int) ?_;unfold uC cT dz Gh La OX;have st:∀{j},Upd M h j→Upd No V j:=fun k=>hu0.trans k fun y u=>.inr (Q y u)
  have bk:∀{j},Upd M h j→BuckAt W j b l:=fun k=>BuckAt.upd t (st k) fun _ h=>h.elim
  have z:∀{j},Upd M h j→∀y,j.size≤y→M y:=fun k y u=>hM y (aX k.size u)
  obtain⟨sp,sk,ow,hb,_⟩:=(bk (Upd.refl M h)).ex;refine gL hb (ax.2 (bL ?_));refine rJ (b:=1) rfl ho hM (by omega) fun s1 h1 T o=>?_
  obtain⟨sp1,sk1,ow1,X,U,hsk1,_⟩:=(bk o).ex;have e1:=U.len;have e2:=hsk1.len;rw[cq]at e2;refine IE X (by omega) ?_;have ew:IntKind.wrap .u64 ((sp1.len+sk1.len:Nat):Int)=((l.length:Nat):Int):=by rw[Go.IntWalk.u64_in _ (by omega)];omega
  rw[ew];have hl2:l.length*20004≤l.length*(20004+9*(0+1)):=iI _ (by omega);refine IJ T (z o) (n:=l.length) (k:=2) (by omega) (by omega) (by rw[ae,aO];omega) fun s2 h2 ho2 w=>?_
  have Z:=o.tr w;obtain⟨sp2,sk2,ow2,hb2,O,_⟩:=(bk Z).ex;refine ou hb2 O (by omega) fun s3 F A C=>?_
  refine Bw (M:=Bes M h2 F) (W:=Bes M h2 F) (Bes.own ho2 C) (Bes.hM (z Z) C) (Bes.sl A) (fun _ h _=>h) hf (by omega) (by rw[ae,ae,aO,cQ];omega) fun s4 G ho4 S=>?_
  refine hk s4 G ?_ (Z.tr (C.wide.tr (S.mono fun y u=>.inl u.1)))
  have:=ho4.more (M':=M) fun y u=>u.1
  rw[eB,List.append_cons,←ao];exact this
 |succ m ih=>
  intro hm b l V h M s xs t hu0 Q ho hM hf hn hx K hk;refine Ak s (some ⟨b,0,none⟩) ((13-(m+1):Nat):Int) ?_;unfold uC cT dz Gh La OX;have st:∀{j},Upd M h j→Upd No V j:=fun k=>hu0.trans k fun y u=>.inr (Q y u)
  have z:∀{j},Upd M h j→∀y,j.size≤y→M y:=fun k y u=>hM y (aX k.size u)
  obtain⟨sl,nd,hs0⟩:=t;have hs:∀c,c<32→SlotIs W x V m sl c (part x (12-m) c l):=hs0;have hd:∀{j},Upd M h j→∃d n sp sk ow,j[b]? =some (.cells (ff d n sp sk false ow) bE (0,0))∧d=gY (fun c=>(fX (part x (12-m) c l)).isSome) 32∧n=gY (fun c=>(dN (part x (12-m) c l)).isSome) 32∧Sl gC 2 W j sp (fi x (12-m) l)∧Sl oJ 1 W j sk (fm sl.k 32):=fun{j} k=>by
   obtain⟨d,n,sp,sk,ow,hb,bits,F,G,_⟩:=(nd.upd (st k) fun _ h=>h.elim).ex
   refine⟨d,n,sp,sk,ow,hb,Er bits.d32 fun c hc=>?_,Er bits.n32 fun c hc=>?_,?_,G⟩
   ·rw[bits.dp c hc,(Bu (hs c hc)).1]
   ·rw[bits.nk c hc,(Bu (hs c hc)).2]
   ·rw[←AQ hs];exact F
  have hka:KidsAt W x V m (fm sl.k 32) (iC x (12-m) l):=IR 32 hs;have v:=l7 (x:=x) (m+1) hf;have hlen2:=v;have hml:∀L∈iC x (12-m) l,Fit L∧L.length≤60000:=fun L hL=>by
   obtain⟨_,c,rfl⟩:=nG hL;exact⟨hf.part,aX jA hn⟩
  have hsf:Fit (fi x (12-m) l):=fun p hp=>hf p (pE hp)
  have hsl:=yQ x (12-m) l;unfold eB at hk v;have H:∀q:Nat→Bool,gY q 32<4294967296:=fun q=>kC q 32
  have hd32:=H fun c=>(fX (part x (12-m) c l)).isSome
  have hn32:=H fun c=>(dN (part x (12-m) c l)).isSome
  generalize gY (fun c=>(fX (part x (12-m) c l)).isSome) 32=D at hk hd v hd32
  generalize gY (fun c=>(dN (part x (12-m) c l)).isSome) 32=N at hk hd v hn32
  have hS:(fi x (12-m) l).length≤60000:=by omega
  have hSb:(fi x (12-m) l).length*20004≤l.length*(20004+9*(m+1+1)):=Nat.mul_le_mul (by omega) (by omega);have hML:∀L∈iC x (12-m) l,2≤L.length∧(eB x m L).length≤9+L.length*(20004+9*(m+1)):=fun L hL=>by
   obtain⟨F,c,rfl⟩:=nG hL;exact⟨F,l7 m hf.part⟩
  have hbud:9+(fi x (12-m) l).length*20004+(iC x (12-m) l).flatten.length*(20004+9*(m+1)+9)≤9+l.length*(20004+9*(m+1+1)):=by
   have h5:(fi x (12-m) l).length*20004≤(fi x (12-m) l).length*(20004+9*(m+1+1)):=iI _ (by omega);have h6:((fi x (12-m) l).length+(iC x (12-m) l).flatten.length)*(20004+9*(m+1+1))≤l.length*(20004+9*(m+1+1)):=bQ _ hsl;rw[ix]at h6;have h7:20004+9*(m+1)+9=20004+9*(m+1+1):=by omega
   rw[h7];omega
  have hps:=kg hsf;generalize fi x (12-m) l=So at hk hd hsf hS hSb hbud v hps;generalize iC x (12-m) l=Ma at hk hka hml hML hbud v;obtain⟨d,n,sp,sk,ow,hb,_⟩:=hd (Upd.refl M h);refine gL hb (aj.2 (Join.intro (fun s' j=>OwnS mE 1 bX M j s' (xs++(0::(km D 4++km N 4)))∧Upd M h j) (fun R hR=>bL ?_) ?_))
  ·refine rJ (b:=0) rfl ho hM (by omega) fun s1 h1 T o=>?_
   obtain⟨d1,n1,sp1,sk1,ow1,X,rfl,rfl,_⟩:=hd o;refine Ft X ?_;rw[Go.IntWalk.u64_in _ (by omega)];refine IJ T (z o) (n:=d1) (k:=4) (by omega) (by omega) (by rw[ae,aO];omega) fun s2 h2 ho2 w=>?_
   obtain⟨d2,n2,sp2,sk2,ow2,hb2,rfl,rfl,_⟩:=hd (o.tr w);refine xz hb2 ?_;rw[Go.IntWalk.u64_in _ (by omega)];refine IJ ho2 (z (o.tr w)) (n:=n2) (k:=4) (by omega) (by omega) (by rw[ae,ae,aO,cQ];omega) fun s3 F A C=>?_
   refine hR _ _ ⟨?_,(o.tr w).tr C⟩;rw[List.append_cons,←ao];exact A
  ·rintro s' h1 ⟨T,o⟩
   obtain⟨d1,n1,sp1,sk1,ow1,X,_,_,U,_⟩:=hd o;refine ou X U (by omega) fun s2 h2 ho2 w=>?_
   refine Bw (M:=Bes M h1 h2) (W:=Bes M h1 h2) (Bes.own T w) (Bes.hM (z o) w) (Bes.sl ho2) (fun _ h _=>h) hsf (by omega) (by rw[ae,aL,ae,cQ,cQ];omega) fun s3 F A C=>?_
   have A:=A.more (M':=M) fun y u=>u.1
   have hu03:Upd M h F:=o.tr (w.wide.tr (C.mono fun y u=>.inl u.1))
   have e13:(((13-(m+1):Nat):Int)==(13:Int))=false:=by rw[beq_eq_false_iff_ne];omega
   rw[e13];refine aj.2 ?_;obtain⟨d3,n3,sp3,sk3,ow3,hb3,_,_,_,hsk3⟩:=hd hu03;have hk32:=uc (g:=sl.k);refine Fc hb3 hsk3 (by omega) fun s4 G ho4 S=>?_
   have Y:Sl oJ 1 (Bes M F G) G s4 (fm sl.k 32):=Bes.sl ho4;have hlk:=Y.len;have ew:IntKind.wrap .i64 (((13-(m+1):Nat):Int)+1)=((13-m:Nat):Int):=by rw[nq (by omega)];omega
   rw[ew];have hMb:=Bes.hM (z hu03) S;have hob:=Bes.own A S;have hu04:Upd M h G:=hu03.tr S.wide;have hMM:∀y,Bes M F G y→M y:=fun y u=>u.1
   have st4:∀{j},Upd (Bes M F G) G j→Upd M h j:=fun k=>hu04.tr (k.mono fun y u=>.inl u.1)
   generalize Bes M F G=B at Y hMb hob hMM st4;have hkl:∀{ks:List (Option Addr)} {ls:List (List Pr)},KidsAt W x V m ks ls→ks.length=ls.length∧∀i (hi:i<ls.length),∃kb,ks[i]? =some (some ⟨kb,0,none⟩)∧TrieAt W x V m kb ls[i]:=by
    intro ks;induction ks with
    |nil=>intro ls;cases ls with
     |nil=>intro _;exact⟨rfl,fun i hi=>absurd hi (gz _)⟩
     |cons a ls=>intro h;exact h.elim
    |cons k ks ihk=>intro ls;cases ls with
     |nil=>intro h;exact h.elim
     |cons a ls=>
      rintro⟨⟨kb,rfl,tk⟩,h⟩;obtain⟨e,hr⟩:=ihk h;refine⟨by simp[e],fun i hi=>?_⟩
      cases i with
      |zero=>exact⟨kb,rfl,tk⟩
      |succ i=>simp only[cZ,List.getElem_cons_succ];exact hr i (by simpa using hi)
   obtain⟨hkl,hkt⟩:=hkl hka;have hbase:(xs++(0::(km D 4++km N 4))++iM So).length≤xs.length+(9+So.length*20004):=by
    rw[ae,ae,aL,ae,cQ,cQ];omega
   refine LoopP.ghost (fun(i:Nat) (t:SliceV×Int) j=>t.2=(i:Int)∧i≤Ma.length∧OwnS mE 1 bX B j t.1 (xs++(0::(km D 4++km N 4))++iM So++(Ma.take i).flatMap (eB x m))∧Upd B G j) (fun i=>Ma.length-i) 0 ⟨rfl,aV _,by simpa using hob,Upd.refl _ _⟩ ?_
   rintro I i ⟨so,ti⟩ j ⟨e1,hi,ho',J⟩ hI;simp only at e1 ho';subst e1;refine aH (fun E=>?_) fun hge=>?_
   ·have E:i<Ma.length:=by have:(i:Int)<(s4.len:Int):=E;omega
    obtain⟨kb,hk1,tk⟩:=hkt i E;obtain⟨a,ha,_,hv⟩:=(Y.upd J fun y u=>.inl u).at0 hk1
    refine⟨⟨by simp only;omega,by simp only;omega⟩,a,ha,some ⟨kb,0,none⟩,hv,?_⟩
    have P:Ma[i]∈Ma:=aP E;have htl:=AP (f:=eB x m) (ls:=Ma.take i) (B:=20004+9*(m+1)) fun L hL=>hML L (gi hL)
    have hsp:(Ma.take i).flatten.length+Ma[i].length≤Ma.flatten.length:=by
     have e:Ma=Ma.take i++Ma[i]::Ma.drop (i+1):=by rw[List.getElem_cons_drop,List.take_append_drop]
     have:=congrArg (fun L=>(List.flatten L).length) e
     simp only[du,eO,ae]at this;omega
    have O:=bQ (20004+9*(m+1)+9) hsp;rw[ix]at O;have h2l:=(hML _ P).1;have hone:9+Ma[i].length*(20004+9*(m+1))≤Ma[i].length*(20004+9*(m+1)+9):=by rw[Nat.mul_add (Ma[i].length) (20004+9*(m+1)) 9];omega
    refine ih (by omega) tk (hu0.trans (st4 J) fun y u=>.inr (Q y u)) (fun y u=>Q y (hMM y u)) ho' (fun y u=>hMb y (aX J.size u)) (hml _ P).1 (hml _ P).2 (by rw[ae];omega) fun s5 h5 ho5 hu5=>?_
    rw[ci E (by omega)];refine hI (i+1) _ _ ⟨rfl,E,?_,J.tr hu5⟩ (by omega);rw[List.take_succ_eq_append_getElem E,List.flatMap_append,aU,List.flatMap_nil,List.append_nil,←ao];exact ho5
   ·have hil:i=Ma.length:=by have:¬(i:Int)<(s4.len:Int):=hge;omega
    subst hil;rw[List.take_length]at ho';refine hk _ _ ?_ (st4 J);have:=ho'.more hMM;simp only[ao,cU]at this⊢;exact this
end Go.Proofs
namespace Go.Proofs
open Go Go.Lift
theorem O6{W:Nat→Prop}{x:Hs}{h:ad}{b:Nat}{l:List Pr}(t:TrieAt W x h 13 b l)(g:Fit l)(c:l.length≤60000){K:SliceV→ad→Prop}(e:∀s' a,OwnS mE 1 bX (fun y=>h.size≤y) a s' (eB x 13 l)→Upd No h a→K s' a):HC PG wA [.pointer (some ⟨b,0,none⟩)] [.c .slice] K h:=by
 refine JD _ ?_;unfold CA;refine aj.2 ?_;have j:l.length*(20004+9*(13+1))≤60000*(20004+9*(13+1)):=bQ _ c;exact M5 (x:=x) 13 (al _) (s:=⟨none,0,0⟩) (xs:= []) (M:=fun y=>h.size≤y) t (Upd.refl _ _) (fun _ h=>h) (OwnS.nil pU) (fun _ h=>h) g c (by rw[cq];omega) fun s' a f i=>e s' a f (i.mono fun y d=>.inr d)
theorem GT:∀{a b:Nat} (k:Nat),km a k=km b k→a%2^(8*k)=b%2^(8*k)
 |_,_,0,_=>by simp[Nat.mod_one]
 |a,b,k+1,h=>by
  rw[uQ,uQ]at h;obtain⟨g,d⟩:=oZ h (by rw[cQ,cQ]);have f:=GT k g;have c:=congrArg UInt8.toNat (gb.inj d).1;rw[UInt8.toNat_ofNat',UInt8.toNat_ofNat',bZ,bZ]at c;have e:2^(8*(k+1))=2^(8*k)*2^8:=by rw[Nat.mul_add,Nat.pow_add]
  rw[e,Nat.mod_mul,Nat.mod_mul,f,c]
theorem rF{a b k:Nat}{r c:List UInt8}(e:a<2^(8*k))(f:b<2^(8*k))(h:km a k++r=km b k++c):a=b∧r=c:=by
 obtain⟨d,g⟩:=oZ h (by rw[cQ,cQ]);have:=GT k d;rw[cF e,cF f]at this;exact⟨this,g⟩
theorem uL{a b:ByteArray}{r c:List UInt8}(i:a.size≤10000)(j:b.size≤10000)(h:lH a++r=lH b++c):a=b∧r=c:=by
 unfold lH at h;rw[ao,ao]at h;obtain⟨d,g⟩:=rF (k:=2) (by omega) (by omega) h;obtain⟨f,e⟩:=oZ g (by simpa using d);refine⟨?_,e⟩;cases a;cases b;exact congrArg jy (gR.1 f)
theorem ww:∀{l l':List Pr} {r r':List UInt8},Fit l→Fit l'→l.length=l'.length→iM l++r=iM l'++r'→l=l'∧r=r'
 | [],[],_,_,_,_,_,h=>⟨rfl,h⟩
 | [],_::_,_,_,_,_,e,_=>by simp at e
 |_::_,[],_,_,_,_,e,_=>by simp at e
 |p::l,q::l',r,r',hf,hf',e,h=>by
  unfold iM at h;rw[aU,aU,zX,zX]at h;simp only[ao]at h;have a:=hf p (au ..);have b:=hf' q (au ..);obtain⟨f,h⟩:=uL a.1 b.1 h;obtain⟨c,h⟩:=uL a.2 b.2 h;obtain⟨d,h⟩:=ww (l:=l) (l':=l') (fun z hz=>hf z (aM _ hz)) (fun z hz=>hf' z (aM _ hz)) (by simpa using e) h
  exact⟨by rw[d,Prod.ext f c],h⟩
theorem A6{β γ:Type}{g:Nat→Option β}{a:Nat→Option γ}:∀n,(∀c,c<n→(g c).isSome=(a c).isSome)→(fm g n).length=(fm a n).length
 |0,_=>rfl
 |n+1,h=>by
  rw[fz,fz,ae,ae,A6 n fun c hc=>h c (by omega)]
  have:=h n (by omega);cases h1:g n<;>cases h2:a n<;>rw[h1,h2]at this<;>first|rfl|cases this
theorem Jd{β:Type}{g a:Nat→Option β}:∀n,(∀c,c<n→(g c).isSome=(a c).isSome)→fm g n=fm a n→∀c,c<n→g c=a c
 |0,_,_,c,hc=>absurd hc (gz _)
 |n+1,h,e,c,hc=>by
  rw[fz,fz]at e;obtain⟨f,b⟩:=oZ e (A6 n fun c hc=>h c (by omega))
  rcases bD c n with d|d
  ·exact Jd n (fun c hc=>h c (by omega)) f c d
  ·have:c=n:=by omega
   subst this;cases h1:g c<;>cases h2:a c<;>rw[h1,h2]at b<;>simp at b⊢
   exact b
theorem DJ:∀{l l':List Pr},cB l→cB l'→(∀p,p∈l↔p∈l')→l=l'
 | [],[],_,_,_=>rfl
 | [],q::l',_,_,h=>absurd ((h q).2 (au ..)) (by simp)
 |p::l,[],_,_,h=>absurd ((h p).1 (au ..)) (by simp)
 |p::l,q::l',c,a,h=>by
  have c:=ba.1 c;have a:=ba.1 a;have e:p=q:=by
   rcases ar.1 ((h p).1 (au ..))with e|f
   ·exact e
   ·rcases ar.1 ((h q).2 (au ..))with e|d
    ·exact e.symm
    ·exact absurd (iP (c.1 q d) (a.1 p f)) (cA _)
  subst e;rw[DJ c.2 a.2 fun z=>?_]
  constructor
  ·intro hz
   rcases ar.1 ((h z).1 (aM _ hz))with e|b
   ·exact absurd (c.1 z hz) (by rw[e];exact cA _)
   ·exact b
  ·intro hz
   rcases ar.1 ((h z).2 (aM _ hz))with e|b
   ·exact absurd (a.1 z hz) (by rw[e];exact cA _)
   ·exact b
theorem Np{x:Hs}{lev:Nat}{l l':List Pr}(g:cB l)(d:cB l')(h:∀c,c<32→part x lev c l=part x lev c l'):l=l':=by
 refine DJ g d fun p=>?_
 have e:=h (ck x lev p.1) (xT ..);have a:=lK (x:=x) (lev:=lev) (c:=ck x lev p.1) (l:=l) (p:=p);have f:=lK (x:=x) (lev:=lev) (c:=ck x lev p.1) (l:=l') (p:=p);rw[e]at a;constructor
 ·intro b;exact(f.1 (a.2 ⟨b,rfl⟩)).1
 ·intro b;exact(a.1 (f.2 ⟨b,rfl⟩)).1
theorem Lk{q q':List Pr}(f:fX q=fX q')(e:dN q=dN q'):q=q':=by
 match q,q' with
 | [],[]=>rfl
 | [a],[b]=>simp[fX]at f;rw[f]
 | [],[b]=>simp[fX]at f
 | [a],[]=>simp[fX]at f
 | [],b::c::q'=>simp[dN]at e
 | [a],b::c::q'=>simp[dN]at e
 |b::c::q',[]=>simp[dN]at e
 |b::c::q',[a]=>simp[dN]at e
 |a::b::q,c::d::q'=>simpa[dN]using e
theorem G3{f:List Pr→List UInt8}:∀{ls ls':List (List Pr)} {r r':List UInt8},ls.length=ls'.length→(∀L∈ls,∀L'∈ls',∀r r',f L++r=f L'++r'→L=L'∧r=r')→ls.flatMap f++r=ls'.flatMap f++r'→ls=ls'∧r=r'
 | [],[],_,_,_,_,h=>⟨rfl,h⟩
 | [],_::_,_,_,e,_,_=>by simp at e
 |_::_,[],_,_,e,_,_=>by simp at e
 |L::ls,L'::ls',r,r',e,hf,h=>by
  rw[aU,aU,ao,ao]at h;obtain⟨c,h⟩:=hf L (au ..) L' (au ..) _ _ h;obtain⟨a,h⟩:=G3 (by simpa using e) (fun A d B b=>hf A (aM _ d) B (aM _ b)) h
  exact⟨by rw[c,a],h⟩
theorem Bv{x:Hs}:∀(m:Nat) {l l':List Pr} {r a:List UInt8},Fit l→Fit l'→l.length≤60000→l'.length≤60000→cB l→cB l'→eB x m l++r=eB x m l'++a→l=l'∧r=a
 |0,l,l',r,a,hf,hf',hn,hn',_,_,h=>by
  unfold eB at h;rw[cU,cU,ao,ao]at h;obtain⟨e,h⟩:=rF (k:=2) (by omega) (by omega) (gb.inj h).2;exact ww hf hf' e h
 |m+1,l,l',r,a,hf,hf',hn,hn',hr,hr',h=>by
  unfold eB at h;simp only[cU,ao]at h;obtain⟨b1,h⟩:=rF (k:=4) (kC _ 32) (kC _ 32) (gb.inj h).2;obtain⟨b2,h⟩:=rF (k:=4) (kC _ 32) (kC _ 32) h;have bits:∀{q q':Nat→Bool},gY q 32=gY q' 32→∀c,c<32→q c=q' c:=fun{q q'} e c hc=>by
   have:=congrArg (fun n=>n.testBit c) e
   simp only[zo,decide_eq_true hc,rA]at this;exact this
  have b1:=bits b1;have b2:=bits b2;obtain⟨g,h⟩:=ww (fun p b=>hf p (pE b)) (fun p b=>hf' p (pE b)) (A6 32 b1) h
  obtain⟨f,h⟩:=G3 (A6 32 b2) (fun L i L' d r a e=>by
   obtain⟨_,c,rfl⟩:=nG i
   obtain⟨_,c',rfl⟩:=nG d
   exact Bv m hf.part hf'.part (aX jA hn) (aX jA hn') (pI hr) (pI hr') e) h
  have j:=Jd 32 b1 g;have o:=Jd 32 b2 f;exact⟨Np hr hr' fun c hc=>Lk (j c hc) (o c hc),h⟩
end Go.Proofs
namespace Go.Proofs
open Go Go.Lift
def uM(lab:ByteArray)(has:Bool)(val:ByteArray)(s:SliceV)(ow:Option Addr):Array Value:= #[.string lab,.bool has,.string val,sv s,.pointer ow]
theorem vw{w:Option ByteArray}{val:ByteArray}(h:val=w.getD ⟨#[]⟩):∀v,w=some v→val=v:=fun v e=>by rw[h,e];rfl
def RxF(W:Nat→Prop)(h:ad):Fo→List (Option Addr)→Prop
 | .nil,ks=>ks= []
 | .cons lab w kids rest,ks=>∃b sl val s ow ks1 ks',ks=some ⟨b,0,none⟩::ks'∧sl.data.toList=lab∧h[b]? =some (.cells (uM sl w.isSome val s ow) bh (0,0))∧val=w.getD ⟨#[]⟩∧Sl kK 1 W h s ks1∧(s.len≤s.cap∧¬W b∧OwOk W h ow)∧RxF W h kids ks1∧RxF W h rest ks'
def RxN(W:Nat→Prop)(h:ad)(b:Nat)(sl:ByteArray)(w:Option ByteArray)(F:Fo):Prop:=∃val s ow ks,h[b]? =some (.cells (uM sl w.isSome val s ow) bh (0,0))∧val=w.getD ⟨#[]⟩∧Sl kK 1 W h s ks∧(s.len≤s.cap∧¬W b∧OwOk W h ow)∧RxF W h F ks
def Kid(W:Nat→Prop)(h:ad)(k:Option Addr)(n:Bn):Prop:=∃b sl,k=some ⟨b,0,none⟩∧sl.data.toList=n.1∧RxN W h b sl n.2.1 n.2.2
def RxL(W:Nat→Prop)(h:ad)(ks:List (Option Addr))(L:List Bn):Prop:=ks.length=L.length∧∀p∈ks.zip L,Kid W h p.1 p.2
theorem pn{W:Nat→Prop}{h:ad}:∀{F:Fo} {ks:List (Option Addr)},RxF W h F ks↔RxL W h ks F.toL
 | .nil,ks=>by
  unfold RxF RxL;simp[Fo.toL]
 | .cons lab w kids rest,ks=>by
  unfold RxF RxL;rw[Fo.toL_cons];constructor
  ·rintro⟨b,sl,val,s,ow,c,d,rfl,i,f,g,m,n,o,u⟩
   obtain⟨q,t⟩:=pn.1 u;refine⟨by simp[q],fun p a=>?_⟩
   rw[g4]at a;rcases ar.1 a with rfl|a
   ·exact⟨b,sl,rfl,i,val,s,ow,c,f,g,m,n,o⟩
   ·exact t p a
  ·cases ks with
   |nil=>rintro⟨e,_⟩;simp at e
   |cons k d=>
    rintro⟨e,a⟩;rw[g4]at a;obtain⟨b,sl,v,i,val,s,ow,c,f,g,m,n,o⟩:=a _ (au ..);refine⟨b,sl,val,s,ow,c,d,by rw[←v],i,f,g,m,n,o,pn.2 ⟨by simpa using e,fun p j=>a p (aM _ j)⟩⟩
theorem RxF.upd0{W:Nat→Prop}{h a:ad}(k:Upd No h a):∀{F:Fo} {ks:List (Option Addr)},RxF W h F ks→RxF W a F ks
 | .nil,_,r=>r
 | .cons _ _ _ _,_,⟨b,sl,val,s,ow,ks1,ks',e0,e1,e2,e3,e4,e5,e6,e7⟩=>⟨b,sl,val,s,ow,ks1,ks',e0,e1,k.get0 e2,e3,e4.upd k fun _ h=>h.elim,⟨e5.1,e5.2.1,e5.2.2.upd k fun _ h=>h.elim⟩,RxF.upd0 k e6,RxF.upd0 k e7⟩
theorem RxN.upd0{W:Nat→Prop}{h a:ad}(k:Upd No h a){b:Nat}{sl:ByteArray}{w:Option ByteArray}{F:Fo}:RxN W h b sl w F→RxN W a b sl w F
 |⟨val,s,ow,ks,e2,e3,e4,e5,e6⟩=>⟨val,s,ow,ks,k.get0 e2,e3,e4.upd k fun _ h=>h.elim,⟨e5.1,e5.2.1,e5.2.2.upd k fun _ h=>h.elim⟩,RxF.upd0 k e6⟩
theorem Kid.upd0{W:Nat→Prop}{h c:ad}(k:Upd No h c){a:Option Addr}{n:Bn}:Kid W h a n→Kid W c a n
 |⟨b,sl,e1,e2,e3⟩=>⟨b,sl,e1,e2,e3.upd0 k⟩
theorem RxF.less{W W':Nat→Prop}{h:ad}(hm:∀b,W' b→W b∨h.size≤b):∀{F:Fo} {ks:List (Option Addr)},RxF W h F ks→RxF W' h F ks
 | .nil,_,r=>r
 | .cons _ _ _ _,_,⟨b,sl,val,s,ow,ks1,ks',e0,e1,e2,e3,e4,e5,e6,e7⟩=>⟨b,sl,val,s,ow,ks1,ks',e0,e1,e2,e3,e4.less hm,⟨e5.1,fun hx=>(hm _ hx).elim e5.2.1 fun h=>by have:=aD e2;omega,e5.2.2.less hm⟩,RxF.less hm e6,RxF.less hm e7⟩
theorem RxN.less{W W':Nat→Prop}{h:ad}(hm:∀b,W' b→W b∨h.size≤b){b:Nat}{sl:ByteArray}{w:Option ByteArray}{F:Fo}:RxN W h b sl w F→RxN W' h b sl w F
 |⟨val,s,ow,ks,e2,e3,e4,e5,e6⟩=>⟨val,s,ow,ks,e2,e3,e4.less hm,⟨e5.1,fun hx=>(hm _ hx).elim e5.2.1 fun h=>by have:=aD e2;omega,e5.2.2.less hm⟩,RxF.less hm e6⟩
theorem RxF.updM{W M:Nat→Prop}{h a:ad}(k:Upd M h a)(hm:∀b,M b→W b∨h.size≤b):∀{F:Fo} {ks:List (Option Addr)},RxF W h F ks→RxF W a F ks
 | .nil,_,r=>r
 | .cons _ _ _ _,_,⟨b,sl,val,s,ow,ks1,ks',e0,e1,e2,e3,e4,e5,e6,e7⟩=>⟨b,sl,val,s,ow,ks1,ks',e0,e1,k.get e2 (fun hx=>(hm _ hx).elim e5.2.1 fun h=>by have:=aD e2;omega),e3,e4.upd k hm,⟨e5.1,e5.2.1,e5.2.2.upd k hm⟩,RxF.updM k hm e6,RxF.updM k hm e7⟩
theorem RxN.updM{W M:Nat→Prop}{h a:ad}(k:Upd M h a)(hm:∀b,M b→W b∨h.size≤b){b:Nat}{sl:ByteArray}{w:Option ByteArray}{F:Fo}:RxN W h b sl w F→RxN W a b sl w F
 |⟨val,s,ow,ks,e2,e3,e4,e5,e6⟩=>⟨val,s,ow,ks,k.get e2 (fun hx=>(hm _ hx).elim e5.2.1 fun h=>by have:=aD e2;omega),e3,e4.upd k hm,⟨e5.1,e5.2.1,e5.2.2.upd k hm⟩,RxF.updM k hm e6⟩
theorem RxL.upd0{W:Nat→Prop}{h a:ad}(k:Upd No h a){ks:List (Option Addr)}{L:List Bn}(r:RxL W h ks L):RxL W a ks L:=⟨r.1,fun p b=>(r.2 p b).upd0 k⟩
theorem RxL.app{W:Nat→Prop}{h:ad}{ks b:List (Option Addr)}{L L':List Bn}(r:RxL W h ks L)(c:RxL W h b L'):RxL W h (ks++b) (L++L'):=by
 refine⟨by rw[ae,ae,r.1,c.1],fun p a=>?_⟩
 rw[List.zip_append r.1]at a;rcases List.mem_append.1 a with a|a
 ·exact r.2 p a
 ·exact c.2 p a
theorem RxL.one{W:Nat→Prop}{h:ad}{k:Option Addr}{n:Bn}(c:Kid W h k n):RxL W h [k] [n]:=⟨rfl,fun p a=>by rw[g4,List.zip_nil_left]at a;rw[aq.1 a];exact c⟩
theorem RxL.take{W:Nat→Prop}{h:ad}{ks:List (Option Addr)}{L:List Bn}(r:RxL W h ks L)(i:Nat):RxL W h (ks.take i) (L.take i):=by
 refine⟨by rw[aG,aG,r.1],fun p a=>r.2 p ?_⟩
 have:(ks.take i).zip (L.take i)=(ks.zip L).take i:=by rw[lB,lB,List.take_zipWith]
 rw[this]at a;exact gi a
theorem RxL.drop{W:Nat→Prop}{h:ad}{ks:List (Option Addr)}{L:List Bn}(r:RxL W h ks L)(i:Nat):RxL W h (ks.drop i) (L.drop i):=by
 refine⟨by rw[aI,aI,r.1],fun p a=>r.2 p ?_⟩
 have:(ks.drop i).zip (L.drop i)=(ks.zip L).drop i:=by rw[lB,lB,List.drop_zipWith]
 rw[this]at a;exact List.mem_of_mem_drop a
theorem RxL.ins{W:Nat→Prop}{h:ad}{ks:List (Option Addr)}{L:List Bn}(r:RxL W h ks L)(i:Nat){k:Option Addr}{n:Bn}(c:Kid W h k n):RxL W h (ks.take i++k::ks.drop i) (L.take i++n::L.drop i):=by
 have:=(r.take i).app ((RxL.one c).app (r.drop i));exact this
theorem RxL.set{W:Nat→Prop}{h:ad}{ks:List (Option Addr)}{L:List Bn}(r:RxL W h ks L){i:Nat}(hi:i<L.length){k:Option Addr}{n:Bn}(c:Kid W h k n):RxL W h (ks.set i k) (L.set i n):=by
 have:=(r.take i).app ((RxL.one c).app (r.drop (i+1)));rw[dM,dM,if_pos (by rw[r.1];exact hi),if_pos hi];exact this
theorem RxL.at{W:Nat→Prop}{h:ad}{ks:List (Option Addr)}{L:List Bn}(r:RxL W h ks L){i:Nat}(hi:i<L.length):∃b sl,ks[i]? =some (some ⟨b,0,none⟩)∧sl.data.toList=L[i].1∧RxN W h b sl L[i].2.1 L[i].2.2:=by
 have d:i<ks.length:=by rw[r.1];exact hi
 have hz:i<(ks.zip L).length:=by rw[List.length_zip];omega
 have:=r.2 _ (aP hz);rw[List.getElem_zip]at this;obtain⟨b,sl,e,a,c⟩:=this;exact⟨b,sl,by rw[ag d];exact congrArg some e,a,c⟩
theorem yU:∀{L:List Bn} {c:Nat},L.Pairwise (fun m n=>hd m.1<hd n.1)→(∀n∈L,c≤hd n.1)→L= []∨c+L.length≤256
 | [],_,_,_=>.inl rfl
 |n::L,c,a,hc=>by
  have a:=ba.1 a;have b:=hc n (au ..);have d:=P5 n.1;rcases yU (c:=hd n.1+1) a.2 fun m hm=>a.1 m hm with e|e
  ·rw[e];right;simp only[aO];omega
  ·right;rw[aL];omega
theorem iH{F:Fo}(h:eH F):F.toL.length≤256:=by
 rcases yU (c:=0) (dS.1 h).1 fun _ _=>aV _ with e|e
 ·rw[e];simp
 ·omega
theorem c5{h:ad}{b i:Nat}{c:Array Value}(a:h[b]? =some (.cells c bh (0,0))):aK h (adr ⟨b,0,none⟩ i)=c[i]?:=by rw[bF,aB];exact aY a
theorem M7{h:ad}{b i:Nat}{c:Array Value}(a:h[b]? =some (.cells c bh (0,0))) (hi:i<c.size):Wr h (adr ⟨b,0,none⟩ i):=by rw[bF,aB];exact gS a hi
theorem BD{h:ad}{b i:Nat}{c c':Array Value}{v:Value}{k:ad→Prop}(g:h[b]? =some (.cells c bh (0,0))) (e:c.setIfInBounds i v=c') (f:∀a,a[b]? =some (.cells c' bh (0,0))→Upd (· =b) h a→k a):At (hset h (adr ⟨b,0,none⟩ i) v) k:=by
 rw[bF,aB];exact sP g fun a d j=>f a (e▸d) j
theorem G1(s:ByteArray)(i:Nat):s[i]? =s.data.toList[i]?:=by
 rw[Array.getElem?_toList];by_cases h:i<s.size
 ·rw[getElem?_pos s i h,getElem?_pos s.data i h];rfl
 ·rw[getElem?_neg s i h,getElem?_neg s.data i h]
theorem B4{s:ByteArray}(a:s.data.toList≠[]):∃c:UInt8,s[0]? =some c∧c.toNat=hd s.data.toList:=by
 rw[G1];match s.data.toList,a with
 |c::l,_=>exact⟨c,rfl,rfl⟩
theorem DH{W:Nat→Prop}{h:ad}{b:Nat}{sl:ByteArray}{w:Option ByteArray}{F:Fo}(r:RxN W h b sl w F)(hc:eH F){c:Nat}(hc8:c<256){K:Int×Bool→ad→Prop}
  (E:∀i ok,i≤F.toL.length→(∀j (y:j<F.toL.length),j<i→hd F.toL[j].1<c)→(∀j (y:j<F.toL.length),i≤j→c≤hd F.toL[j].1)→(ok=true↔∃hi:i<F.toL.length,hd F.toL[i].1=c)→K ((i:Int),ok) h):HC PG jV [.pointer (some ⟨b,0,none⟩),.int .u8 c] [.c (.int .i64),.c .bool] K h:=by
 refine yd _ c ?_;unfold qK bG;obtain⟨val,s,ow,ks,hb,_,U,hcap,hF⟩:=r;refine⟨_,rfl,s,c5 (i:=3) hb,?_⟩;have Q:=pn.1 hF;have d:=dS.1 hc;have hn:=iH hc;have p:=U.len;rw[Q.1]at p;generalize hLe:F.toL=L at Q d hn p E;refine f8 s c _ ?_;unfold dy cT dz AB EH
 have D:∀{i:Nat} (hi:i<L.length) {K:Int→ad→Prop},K ((hd L[i].1:Int)-(c:Int)) h→∃a,s.a=some a∧∃v,aK h (adr a (i*1))=some (.pointer v)∧HV PG (.func (.func ly) #[] #[]) [.pointer v,.int .u8 c] [.c (.int .i64)] K h:=by
  intro i hi K E;obtain⟨kb,G,S,C,J⟩:=Q.at hi;obtain⟨a,ha,_,hv⟩:=U.at0 S;refine⟨a,ha,_,hv,HV.mk' (vl (some ⟨kb,0,none⟩) c ?_)⟩;unfold pg bI;obtain⟨kval,kss,kow,kks,N,_⟩:=J;have P:G.data.toList≠[]:=by rw[C];exact(d.2 _ (aP hi)).1
  obtain⟨u,hu,H⟩:=B4 P;refine⟨_,rfl,G,c5 (i:=0) N,u,Int.le_refl _,hu,?_⟩;simp only[Bd];have f:=P5 L[i].1;rw[H,C,nq (x:=(hd L[i].1:Int)) (by omega),nq (x:=(c:Int)) (by omega),nq (by omega)];exact E
 have mono:∀i j (hi:i<L.length) (y:j<L.length),i<j→hd L[i].1<hd L[j].1:=fun i j hi y e=>List.pairwise_iff_getElem.1 d.1 i j hi y e
 refine LoopP.ghost (fun(g:Nat×Nat) (t:Int×Int) Y=>t.1=(g.1:Int)∧t.2=(g.2:Int)∧g.1≤g.2∧g.2≤L.length∧Y=h∧(∀j (y:j<L.length),j<g.1→hd L[j].1<c)∧(∀j (y:j<L.length),g.2≤j→c≤hd L[j].1)) (fun g=>g.2-g.1) (0,L.length)
  ⟨rfl,by simp only;omega,by simp,by simp,rfl,fun j y h=>by omega,fun j y h=>by simp only at h;omega⟩ ?_
 rintro I ⟨i,j⟩ ⟨ti,tj⟩ Y ⟨T,Z,e,o,rfl,k,n⟩ V;simp only at T Z e o k n;subst T Z;refine aH (fun f=>?_) fun O=>?_
 ·have f:i<j:=by have:(i:Int)<(j:Int):=f;omega
  have em:IntKind.wrap .i64 (Int.fdiv (IntKind.wrap .u64 (IntKind.wrap .i64 ((i:Int)+(j:Int)))) (2^(min (1:Int).toNat (IntKind.bits .u64))))=(((i+j)/2:Nat):Int):=by
   have e3:(2^(min (1:Int).toNat (IntKind.bits .u64)):Int)=2:=rfl;rw[e3,nq (x:=(i:Int)+(j:Int)) (by omega),Go.IntWalk.u64_in _ (by omega),Int.fdiv_eq_ediv_of_nonneg _ (by omega),nq (by omega)];omega
  refine⟨by decide,?_⟩;simp only[Bd];rw[em];generalize hm:(i+j)/2=m;have A:m<L.length:=by omega
  refine⟨by omega,?_⟩;refine D A ?_;refine aH (fun X=>?_) fun hpos=>?_
  ·refine V (m+1,j) _ _ ⟨by simp only;rw[nq (by omega)];omega,rfl,by simp only;omega,o,rfl,fun q M B=>?_,n⟩ (by simp only;omega)
   simp only at B;rcases bD q m with h|h
   ·have:=mono q m M A h;omega
   ·have:q=m:=by omega
    subst this;omega
  ·refine V (i,m) _ _ ⟨rfl,rfl,by simp only;omega,by simp only;omega,rfl,k,fun q M B=>?_⟩ (by simp only;omega)
   simp only at B;rcases bD m q with h|h
   ·have:=mono m q A M h;omega
   ·have:q=m:=by omega
    subst this;omega
 ·have e:i=j:=by have:¬(i:Int)<(j:Int):=O;omega
  subst e;refine aH (fun f=>?_) fun R=>?_
  ·have z:i<L.length:=by have:(i:Int)<(s.len:Int):=f;omega
   refine⟨by simp only;omega,?_⟩;refine D z ?_;refine E i _ o k n ?_;rw[beq_iff_eq];exact⟨fun h=>⟨z,by omega⟩,fun⟨_,h⟩=>by omega⟩
  ·have z:i=L.length:=by have:¬(i:Int)<(s.len:Int):=R;omega
   exact E i false o k n ⟨fun h=>(by cases h),fun h=>(by obtain⟨h,_⟩:=h;omega)⟩
end Go.Proofs
namespace Go.Proofs
open Go Go.Lift
abbrev PZ:List Value:= [.string (⟨#[]⟩:ByteArray),.bool false,.string (⟨#[]⟩:ByteArray),.slice none 0 0,.pointer none]
theorem sq{h:ad}{b:Nat}{sl nl:ByteArray}{has:Bool}{val:ByteArray}{s:SliceV}{ow:Option Addr}(a:h[b]? =some (.cells (uM sl has val s ow) bh (0,0))) {K:Option Addr→ad→Prop}
  (c:∀h',h'[b]? =some (.cells (uM nl has val s ow) bh (0,0))→Upd (· =b) h h'→K (some ⟨b,0,none⟩) h'):HC PG f6 [.pointer (some ⟨b,0,none⟩),.string nl] [.c .ptr] K h:=by
 refine wS _ nl ?_;unfold p5 cL;exact⟨_,rfl,M7 (i:=0) a (show 0<5 by decide),BD (i:=0) (c':=uM nl has val s ow) a rfl c⟩
theorem qm{h:ad}{b:Nat}{sl v:ByteArray}{has:Bool}{val:ByteArray}{s:SliceV}{ow:Option Addr}(d:h[b]? =some (.cells (uM sl has val s ow) bh (0,0))) {K:Option Addr→ad→Prop}
  (e:∀h',h'[b]? =some (.cells (uM sl true v s ow) bh (0,0))→Upd (· =b) h h'→K (some ⟨b,0,none⟩) h'):HC PG fI [.pointer (some ⟨b,0,none⟩),.string v] [.c .ptr] K h:=by
 refine vi _ v ?_;unfold pe cL;exact⟨_,rfl,M7 (i:=1) d (show 1<5 by decide),BD (i:=1) (c':=uM sl true val s ow) d rfl fun g b1 a=>⟨_,rfl,M7 (i:=2) b1 (show 2<5 by decide),BD (i:=2) (c':=uM sl true v s ow) b1 rfl fun f b2 c=>e f b2 (a.tr c)⟩⟩
theorem xN(s:ByteArray)(c:Nat):(s.extract 0 c).data.toList=s.data.toList.take c:=by
 rw[nn,Array.toList_extract,fS];simp
theorem xO(s:ByteArray)(c:Nat):(s.extract c s.size).data.toList=s.data.toList.drop c:=by
 rw[nn,Array.toList_extract,fS,List.take_of_length_le];rw[aI];simp
end Go.Proofs
namespace Go.Proofs
open Go Go.Lift
theorem El:∀{x y:List UInt8} {i:Nat},i≤x.length→i≤y.length→(∀j,j<i→x[j]? =y[j]?)→(i=x.length∨i=y.length∨x[i]?≠y[i]?)→cm x y=i
 | [],_,i,h1,_,_,_=>by simp at h1;simp[cm,h1]
 |_::_,[],i,_,h2,_,_=>by simp at h2;simp[cm,h2]
 |a::x,b::y,0,_,_,_,h=>by
  unfold cm;rw[if_neg];rintro rfl;rcases h with h|h|h<;>simp at h
 |a::x,b::y,i+1,h1,h2,h3,h4=>by
  have:=h3 0 (by omega);simp only[bT,bm.injEq]at this;unfold cm;rw[if_pos this,El (i:=i) (by simpa using h1) (by simpa using h2) (fun j c=>by simpa using h3 (j+1) (by omega)) (by simpa using h4)]
theorem L5{a b:ByteArray}(B:a.size≤1000000){h:ad}{K:Int→ad→Prop}(n:K (cm a.data.toList b.data.toList:Nat) h):HC PG rg [.string a,.string b] [.c (.int .i64)] K h:=by
 refine Da a b ?_;unfold vI;simp only[Bd];have k:(if(b.size:Int)<(a.size:Int)then(b.size:Int)else(a.size:Int))=((min a.size b.size:Nat):Int):=by split<;>omega
 rw[k];have z:a.data.toList.length=a.size:=by simp
 have A:b.data.toList.length=b.size:=by simp
 refine LoopP.ghost (fun(i:Nat) (t:Int) s=>t=(i:Int)∧i≤min a.size b.size∧s=h∧∀j,j<i→a.data.toList[j]? =b.data.toList[j]?) (fun i=>min a.size b.size-i) 0 ⟨rfl,aV _,rfl,fun j w=>absurd w (gz _)⟩ ?_
 rintro I i t s ⟨rfl,hi,rfl,o⟩ x;refine aH (fun d=>?_) fun y=>?_
 ·have d:i<min a.size b.size:=by omega
  have f:i<a.size:=by omega
  have g:i<b.size:=by omega
  refine⟨a[i],by omega,by rw[aE,getElem?_pos a i f],b[i],by omega,by rw[aE,getElem?_pos b i g],?_⟩
  have q:a.data.toList[i]? =some a[i]:=by rw[←G1,getElem?_pos a i f]
  have u:b.data.toList[i]? =some b[i]:=by rw[←G1,getElem?_pos b i g]
  refine CondP.intro (fun m=>?_) fun c=>?_
  ·rw[El (i:=i) (by omega) (by omega) o (.inr (.inr fun e=>?_))]at n
   ·exact n
   ·rw[q,u]at e
    rw[bm.inj e]at m;simp at m
  ·have c:a[i]=b[i]:=by
    have:((a[i].toNat:Int))=(b[i].toNat:Int):=by simpa using c
    exact UInt8.toNat_inj.1 (by omega)
   rw[ci d (by omega)];refine x (i+1) _ _ ⟨rfl,d,rfl,fun j w=>?_⟩ (by omega)
   rcases bD j i with v|v
   ·exact o j v
   ·have:j=i:=by omega
    subst this;rw[q,u,c]
 ·have p:i=min a.size b.size:=by omega
  rw[El (i:=i) (by omega) (by omega) o (by omega)]at n;rw[←p];exact n
theorem LD{F:Fo}{i:Nat}{k:List UInt8}{v:ByteArray}(h:eH F)(hi:i<F.toL.length)(ek:hd F.toL[i].1=hd k)(a:rv (qk F.toL[i]) (qk F.toL[i]) k v):rv (nu F) (nu F) k v:=by
 have:=GD h hi ek a;rw[List.set_getElem_self,Fo.of_to]at this;exact this
theorem Ni{P Q a:List UInt8→ByteArray→Prop}{k:List UInt8}{v:ByteArray}(h:rv P a k v)(e:∀k v,P k v↔Q k v):rv Q a k v:=fun k' b=>by rw[h k' b,e]
end Go.Proofs
namespace Go.Proofs
open Go Go.Lift
def Dj(S T:Nat→Prop):Prop:=∀y,S y→¬T y
def PD(Ts:List (Nat→Prop)):Prop:=∀(i j:Nat) (S T:Nat→Prop),i≠j→Ts[i]? =some S→Ts[j]? =some T→Dj S T
def FoO(o:Option Addr)(W:Nat→Prop)(h:ad):Fo→List (Option Addr)→List (Nat→Prop)→Prop
 | .nil,ks,Ts=>ks= []∧Ts= []
 | .cons lab w kids rest,ks,Ts=>∃(b:Nat) (sl:ByteArray) (ks':List (Option Addr)) (S:Nat→Prop) (Ts':List (Nat→Prop)),ks=some ⟨b,0,none⟩::ks'∧Ts=S::Ts'∧sl.data.toList=lab∧
  ((RxN W h b sl w kids∧∀y,¬S y)∨(o.isSome=true∧∃(val:ByteArray) (s:SliceV) (ks1:List (Option Addr)) (A:Nat→Prop) (Us:List (Nat→Prop)),h[b]? =some (.cells (uM sl w.isSome val s o) bh (0,0))∧val=w.getD ⟨#[]⟩∧OwnS kK 1 aR A h s ks1∧
   (∀y,A y→S y∧y≠b∧y<h.size)∧S b∧(∀U∈Us,∀y,U y→S y∧¬A y∧y≠b)∧PD Us∧FoO o W h kids ks1 Us))∧FoO o W h rest ks' Ts'
def RxO(o:Option Addr)(W:Nat→Prop)(h:ad)(b:Nat)(sl:ByteArray)(w:Option ByteArray)(F:Fo)(S:Nat→Prop):Prop:=
 (RxN W h b sl w F∧∀y,¬S y)∨(o.isSome=true∧∃(val:ByteArray) (s:SliceV) (ks1:List (Option Addr)) (A:Nat→Prop) (Us:List (Nat→Prop)),h[b]? =some (.cells (uM sl w.isSome val s o) bh (0,0))∧val=w.getD ⟨#[]⟩∧OwnS kK 1 aR A h s ks1∧
  (∀y,A y→S y∧y≠b∧y<h.size)∧S b∧(∀U∈Us,∀y,U y→S y∧¬A y∧y≠b)∧PD Us∧FoO o W h F ks1 Us)
theorem NF{o:Option Addr}{W:Nat→Prop}{h:ad}{lab:List UInt8}{w:Option ByteArray}{c a:Fo}{ks:List (Option Addr)}{Ts:List (Nat→Prop)}:
 FoO o W h (.cons lab w c a) ks Ts↔∃b sl ks' S Ts',ks=some ⟨b,0,none⟩::ks'∧Ts=S::Ts'∧sl.data.toList=lab∧RxO o W h b sl w c S∧FoO o W h a ks' Ts':=Iff.rfl
def KidO(o:Option Addr)(W:Nat→Prop)(h:ad)(k:Option Addr)(n:Bn)(S:Nat→Prop):Prop:=∃b sl,k=some ⟨b,0,none⟩∧sl.data.toList=n.1∧RxO o W h b sl n.2.1 n.2.2 S
def LsO(o:Option Addr)(W:Nat→Prop)(h:ad)(ks:List (Option Addr))(L:List Bn)(Ts:List (Nat→Prop)):Prop:=ks.length=L.length∧Ts.length=L.length∧∀(i:Nat) (k:Option Addr) (n:Bn) (S:Nat→Prop),ks[i]? =some k→L[i]? =some n→Ts[i]? =some S→KidO o W h k n S
theorem A5{o:Option Addr}{W:Nat→Prop}{h:ad}:∀{F:Fo} {ks:List (Option Addr)} {Ts:List (Nat→Prop)},FoO o W h F ks Ts↔LsO o W h ks F.toL Ts
 | .nil,ks,Ts=>by
  constructor
  ·rintro⟨rfl,rfl⟩;exact⟨rfl,rfl,fun i k n S h=>by simp at h⟩
  ·rintro⟨a,d,_⟩;exact⟨bO.1 a,bO.1 d⟩
 | .cons lab w kids rest,ks,Ts=>by
  rw[NF,Fo.toL_cons];constructor
  ·rintro⟨b,sl,j,S,Ts',rfl,rfl,e,r,f⟩
   obtain⟨a,d,m⟩:=A5.1 f;refine⟨by simp[a],by simp[d],fun i k n p ek c g=>?_⟩
   cases i with
   |zero=>
    simp only[bT,bm.injEq]at ek c g;subst ek c g;exact⟨b,sl,rfl,e,r⟩
   |succ i=>
    simp only[cZ]at ek c g;exact m i k n p ek c g
  ·rintro⟨a,d,m⟩
   cases ks with
   |nil=>simp at a
   |cons k j=>
    cases Ts with
    |nil=>simp at d
    |cons S Ts'=>
     obtain⟨b,sl,s,q,r⟩:=m 0 k _ S rfl rfl rfl;exact⟨b,sl,j,S,Ts',by rw[s],rfl,q,r,A5.2 ⟨by simpa using a,by simpa using d,fun i k n p ek c g=>m (i+1) k n p ek c g⟩⟩
theorem FoO.freeze{o:Option Addr}{W W':Nat→Prop}{h:ad}(j:∀y,W' y→W y)(i:OwOk W' h o):∀{F:Fo} {ks:List (Option Addr)} {Ts:List (Nat→Prop)},FoO o W h F ks Ts→(∀U∈Ts,∀y,U y→¬W' y)→RxF W' h F ks
 | .nil,_,_,f,_=>f.1
 | .cons lab w kids rest,ks,Ts,⟨b,sl,ks',S,Ts',e1,e2,e3,r,f⟩,hT=>by
  subst e1 e2;have p:=FoO.freeze j i f fun U k=>hT U (aM _ k)
  have m:=hT S (au ..);rcases r with⟨r,_⟩|⟨_,val,s,a,A,Us,u,hv,n,e,d,k,_,t⟩
  ·obtain⟨val,s,ow,a,q,z,x,v,B⟩:=RxN.less (fun y c=>.inl (j y c)) r
   exact⟨b,sl,val,s,ow,a,ks',rfl,e3,q,z,x,v,B,p⟩
  ·exact⟨b,sl,val,s,o,a,ks',rfl,e3,u,hv,n.sl fun y c _=>m y (e y c).1,⟨n.cap,m b d,i⟩,FoO.freeze j i t fun U g y c=>m y (k U g y c).1,p⟩
theorem RxO.freeze{o:Option Addr}{W W':Nat→Prop}{h:ad}(j:∀y,W' y→W y)(i:OwOk W' h o){b:Nat}{sl:ByteArray}{w:Option ByteArray}{F:Fo}{S:Nat→Prop}(r:RxO o W h b sl w F S)(f:∀y,S y→¬W' y):RxN W' h b sl w F:=by
 rcases r with⟨r,_⟩|⟨_,val,s,e,A,Us,n,hv,k,d,c,p,_,m⟩
 ·exact RxN.less (fun y a=>.inl (j y a)) r
 ·exact⟨val,s,o,e,n,hv,k.sl fun y a _=>f y (d y a).1,⟨k.cap,f b c,i⟩,FoO.freeze j i m fun U g y a=>f y (p U g y a).1⟩
theorem RxO.read{o w':Option Addr}{W S:Nat→Prop}{h:ad}{b:Nat}{sl:ByteArray}{w:Option ByteArray}{F:Fo}(r:RxO o W h b sl w F S)(t:By h w' o):RxN No h b sl w F:=
 r.freeze (fun _ h=>h.elim) (fun a e=>⟨id,t.plain a (t.tok e)⟩) fun _ _ h=>h
theorem RxO.off{W S:Nat→Prop}{h:ad}{b:Nat}{sl:ByteArray}{w:Option ByteArray}{F:Fo}(r:RxO none W h b sl w F S):RxN W h b sl w F∧∀y,¬S y:=r.elim id fun h=>absurd h.1 (by simp)
theorem FoO.upd{o:Option Addr}{W M:Nat→Prop}{h n:ad}(k:Upd M h n):∀{F:Fo} {ks:List (Option Addr)} {Ts:List (Nat→Prop)},FoO o W h F ks Ts→(∀U∈Ts,∀y,U y→y<h.size)→(∀y,M y→(W y∧∀U∈Ts,¬U y)∨h.size≤y)→FoO o W n F ks Ts
 | .nil,_,_,f,_,_=>f
 | .cons lab w kids rest,ks,Ts,⟨b,sl,ks',S,Ts',e1,e2,e3,r,f⟩,hT,hm=>by
  subst e1 e2;have q:=FoO.upd k f (fun U g=>hT U (aM _ g)) fun y a=>(hm y a).imp (fun h=>⟨h.1,fun U g=>h.2 U (aM _ g)⟩) id
  have p:=hT S (au ..);have i:∀y,M y→(W y∧¬S y)∨h.size≤y:=fun y a=>(hm y a).imp (fun h=>⟨h.1,h.2 S (au ..)⟩) id
  have t:∀y,S y→¬M y:=fun y a hM=>by
   have:=p y a;rcases i y hM with h|h
   ·exact h.2 a
   ·omega
  have z:=k.size;rcases r with⟨r,e⟩|⟨e,val,s,m,A,Us,v,hv,C,c,j,g,B,u⟩
  ·exact⟨b,sl,ks',S,Ts',rfl,rfl,e3,.inl ⟨RxN.updM k (fun y a=>(i y a).imp (fun h=>h.1) id) r,e⟩,q⟩
  ·exact⟨b,sl,ks',S,Ts',rfl,rfl,e3,.inr ⟨e,val,s,m,A,Us,k.get v (t b j),hv,C.upd k fun y a=>t y (c y a).1,fun y a=>⟨(c y a).1,(c y a).2.1,by have:=(c y a).2.2;omega⟩,j,g,B,FoO.upd k u (fun U d y a=>p y (g U d y a).1) fun y a=>(i y a).imp (fun h=>⟨h.1,fun U d x=>h.2 (g U d y x).1⟩) id⟩,q⟩
theorem RxO.upd{o:Option Addr}{W M:Nat→Prop}{h g:ad}(k:Upd M h g){b:Nat}{sl:ByteArray}{w:Option ByteArray}{F:Fo}{S:Nat→Prop}(r:RxO o W h b sl w F S)(n:∀y,S y→y<h.size)(hm:∀y,M y→(W y∧¬S y)∨h.size≤y):RxO o W g b sl w F S:=by
 have:=FoO.upd (F:=.cons sl.data.toList w F .nil) k (ks:= [some ⟨b,0,none⟩]) (Ts:= [S]) ⟨b,sl,[],S,[],rfl,rfl,rfl,r,rfl,rfl⟩ (fun U f=>by rw[aq.1 f];exact n) fun y i=>(hm y i).imp (fun h=>⟨h.1,fun U f=>by rw[aq.1 f];exact h.2⟩) id
 obtain⟨q,a,j,p,Ts',d,c,e,m,_⟩:=this;simp only[gb.injEq,bm.injEq,Addr.mk.injEq,and_true]at d c;obtain⟨d,_⟩:=d;obtain⟨c,_⟩:=c;subst d c;have e:a=sl:=by cases a;cases sl;exact congrArg jy (gR.1 e)
 subst e;exact m
theorem FoO.upd0{o:Option Addr}{W:Nat→Prop}{h i:ad}(k:Upd No h i):∀{F:Fo} {ks:List (Option Addr)} {Ts:List (Nat→Prop)},FoO o W h F ks Ts→FoO o W i F ks Ts
 | .nil,_,_,f=>f
 | .cons lab w kids rest,ks,Ts,⟨b,sl,ks',S,Ts',e1,e2,e3,r,f⟩=>by
  have z:=k.size;refine⟨b,sl,ks',S,Ts',e1,e2,e3,?_,FoO.upd0 k f⟩;rcases r with⟨r,e⟩|⟨e,val,s,g,A,Us,m,hv,q,a,c,n,p,j⟩
  ·exact .inl ⟨RxN.upd0 k r,e⟩
  ·exact .inr ⟨e,val,s,g,A,Us,k.get0 m,hv,q.upd k fun _ _ h=>h,fun y d=>⟨(a y d).1,(a y d).2.1,by have:=(a y d).2.2;omega⟩,c,n,p,FoO.upd0 k j⟩
theorem RxO.upd0{o:Option Addr}{W S:Nat→Prop}{h g:ad}(k:Upd No h g){b:Nat}{sl:ByteArray}{w:Option ByteArray}{F:Fo}(r:RxO o W h b sl w F S):RxO o W g b sl w F S:=by
 have z:=k.size;rcases r with⟨r,e⟩|⟨e,val,s,f,A,Us,j,hv,p,a,c,m,n,i⟩
 ·exact .inl ⟨RxN.upd0 k r,e⟩
 ·exact .inr ⟨e,val,s,f,A,Us,k.get0 j,hv,p.upd k fun _ _ h=>h,fun y d=>⟨(a y d).1,(a y d).2.1,by have:=(a y d).2.2;omega⟩,c,m,n,FoO.upd0 k i⟩
theorem FoO.less{o:Option Addr}{W W':Nat→Prop}{h:ad}(hm:∀y,W' y→W y∨h.size≤y):∀{F:Fo} {ks:List (Option Addr)} {Ts:List (Nat→Prop)},FoO o W h F ks Ts→FoO o W' h F ks Ts
 | .nil,_,_,f=>f
 | .cons lab w kids rest,ks,Ts,⟨b,sl,ks',S,Ts',e1,e2,e3,r,f⟩=>by
  refine⟨b,sl,ks',S,Ts',e1,e2,e3,?_,FoO.less hm f⟩;rcases r with⟨r,e⟩|⟨e,val,s,d,A,Us,i,hv,k,c,a,j,m,g⟩
  ·exact .inl ⟨RxN.less hm r,e⟩
  ·exact .inr ⟨e,val,s,d,A,Us,i,hv,k,c,a,j,m,FoO.less hm g⟩
theorem RxO.less{o:Option Addr}{W W' S:Nat→Prop}{h:ad}(hm:∀y,W' y→W y∨h.size≤y){b:Nat}{sl:ByteArray}{w:Option ByteArray}{F:Fo}(r:RxO o W h b sl w F S):RxO o W' h b sl w F S:=by
 rcases r with⟨r,e⟩|⟨e,val,s,d,A,Us,g,hv,j,c,a,i,k,f⟩
 ·exact .inl ⟨RxN.less hm r,e⟩
 ·exact .inr ⟨e,val,s,d,A,Us,g,hv,j,c,a,i,k,FoO.less hm f⟩
theorem KidO.upd{o:Option Addr}{W M:Nat→Prop}{h c:ad}(k:Upd M h c){a:Option Addr}{n:Bn}{S:Nat→Prop}(r:KidO o W h a n S)(f:∀y,S y→y<h.size)(hm:∀y,M y→(W y∧¬S y)∨h.size≤y):KidO o W c a n S:=let⟨b,sl,e,d,r⟩:=r;⟨b,sl,e,d,r.upd k f hm⟩
theorem KidO.less{o:Option Addr}{W W' S:Nat→Prop}{h:ad}(hm:∀y,W' y→W y∨h.size≤y){a:Option Addr}{n:Bn}(r:KidO o W h a n S):KidO o W' h a n S:=let⟨b,sl,d,c,r⟩:=r;⟨b,sl,d,c,r.less hm⟩
theorem QI{o:Option Addr}{W:Nat→Prop}{h:ad}{F:Fo}{ks:List (Option Addr)}(f:RxF W h F ks):LsO o W h ks F.toL (List.replicate F.toL.length No):=by
 have e:=pn.1 f;refine⟨e.1,by simp,fun i k n S ek c a=>?_⟩
 obtain⟨hi,c⟩:=List.getElem?_eq_some_iff.1 c;obtain⟨b,sl,d,g,r⟩:=e.at hi;rw[ek]at d;cases d;have a:S=No:=by
  rw[List.getElem?_replicate,if_pos hi]at a;exact(bm.inj a).symm
 subst a c;exact⟨b,sl,rfl,g,.inl ⟨r,fun _ h=>h⟩⟩
theorem RxO.view{o:Option Addr}{W S:Nat→Prop}{h:ad}{b:Nat}{sl:ByteArray}{w:Option ByteArray}{F:Fo}(r:RxO o W h b sl w F S):
  ∃(val:ByteArray) (s:SliceV) (ow:Option Addr) (ks:List (Option Addr)) (Us:List (Nat→Prop)),h[b]? =some (.cells (uM sl w.isSome val s ow) bh (0,0))∧val=w.getD ⟨#[]⟩∧Sl kK 1 No h s ks∧LsO o W h ks F.toL Us∧(∀U∈Us,∀y,U y→S y)∧PD Us∧
   ((OwOk W h ow∧(¬W b)∧Sl kK 1 W h s ks∧∀y,¬S y)∨(o.isSome=true∧ow=o∧∃A:Nat→Prop,OwnS kK 1 aR A h s ks∧(∀y,A y→S y∧y≠b∧y<h.size)∧S b∧∀U∈Us,∀y,U y→¬A y∧y≠b)):=by
 rcases r with⟨⟨val,s,ow,ks,t,x,n,m,B⟩,e⟩|⟨e,val,s,k,A,Us,v,hv,p,g,f,d,z,u⟩
 ·refine⟨val,s,ow,ks,_,t,x,n.less fun _ h=>h.elim,QI B,fun U d y a=>?_,fun i j S T _ q C y a _=>?_,.inl ⟨m.2.2,m.2.1,n,e⟩⟩
  ·rw[List.eq_of_mem_replicate d]at a;exact a.elim
  ·rw[List.eq_of_mem_replicate (aF q)]at a;exact a.elim
 ·exact⟨val,s,o,k,Us,v,hv,p.sl fun _ _ _ h=>h,A5.1 u,fun U c y a=>(d U c y a).1,z,.inr ⟨e,rfl,A,p,g,f,fun U c y a=>(d U c y a).2⟩⟩
def SR(o:Option Addr)(b:Nat)(A:Nat→Prop)(Us:List (Nat→Prop))(y:Nat):Prop:=o.isSome=true∧(y=b∨A y∨∃U∈Us,U y)
theorem tP{o:Option Addr}{W:Nat→Prop}{h:ad}{b:Nat}{sl val:ByteArray}{s:SliceV}{w:Option ByteArray}{F:Fo}{ks:List (Option Addr)}{A:Nat→Prop}{Us:List (Nat→Prop)}(u:h[b]? =some (.cells (uM sl w.isSome val s o) bh (0,0))) (hv:val=w.getD ⟨#[]⟩) (n:OwnS kK 1 aR A h s ks)
  (j:∀y,A y→y≠b∧y<h.size) (D:∀U∈Us,∀y,U y→¬A y∧y≠b) (m:PD Us) (g:LsO o W h ks F.toL Us) (C:o=none→(∀y,A y→¬W y)∧¬W b):RxO o W h b sl w F (SR o b A Us):=by
 cases o with
 |none=>
  obtain⟨z,E⟩:=C rfl;refine .inl ⟨⟨val,s,none,ks,u,hv,n.sl fun y c _=>z y c,⟨n.cap,E,jL⟩,pn.2 ⟨g.1,fun p m=>?_⟩⟩,fun y c=>by simp[SR]at c⟩
  obtain⟨i,hi,e⟩:=List.getElem_of_mem m;rw[List.length_zip]at hi;have t:i<ks.length:=by omega
  have d:i<F.toL.length:=by omega
  have k:i<Us.length:=by rw[g.2.1];exact d
  rw[List.getElem_zip]at e;subst e;obtain⟨B,q,x,v,r⟩:=g.2.2 i _ _ _ (ag t) (ag d) (ag k);exact⟨B,q,x,v,r.off.1⟩
 |some a=>exact .inr ⟨rfl,val,s,ks,A,Us,u,hv,n,fun y c=>⟨⟨rfl,.inr (.inl c)⟩,j y c⟩,⟨rfl,.inl rfl⟩,fun U f y c=>⟨⟨rfl,.inr (.inr ⟨U,f,c⟩)⟩,D U f y c⟩,m,A5.2 g⟩
end Go.Proofs
namespace Go.Proofs
open Go Go.Lift
theorem BB{h:ad}{w o:Option Addr}{b:Nat}{sl val:ByteArray}{has:Bool}{s:SliceV}{ow:Option Addr}(t:By h w o)(e:h[b]? =some (.cells (uM sl has val s ow) bh (0,0))) (d:∀a,ow=some a→dQ h a) {K:Bool→ad→Prop} (c:K (o.isSome&&(ow==w)) h):
  HC PG mg [.pointer (some ⟨b,0,none⟩),.pointer w] [.c .bool] K h:=by
 refine wU _ w ?_;unfold p7 iB;refine ax.2 (xF t ?_);cases o with
 |none=>exact aj.2 c
 |some a=>exact ax.2 ⟨_,rfl,ow,c5 (i:=4) e,trivial,fun x y hx f=>⟨d x hx,t.plain y f⟩,c⟩
theorem jK{W S:Nat→Prop}{h:ad}{w o:Option Addr}{b:Nat}{sl val:ByteArray}{has:Bool}{s:SliceV}{ow:Option Addr}{ks:List (Option Addr)}{Us:List (Nat→Prop)}(t:By h w o)(Y:∀a,o=some a→W a.block)(g:h[b]? =some (.cells (uM sl has val s ow) bh (0,0))) (hn:ks.length≤256)
  (F:(OwOk W h ow∧Sl kK 1 No h s ks∧(∀U∈Us,∀y,U y→y<h.size))∨(o.isSome=true∧ow=o∧∃A:Nat→Prop,OwnS kK 1 aR A h s ks∧(∀y,A y→S y∧y≠b∧y<h.size)∧S b∧∀U∈Us,∀y,U y→¬A y∧y≠b)) {K:Option Addr→ad→Prop}
  (R:∀h' b' s' A,h'[b']? =some (.cells (uM sl has val s' o) bh (0,0))→OwnS kK 1 aR A h' s' ks→(∀y,A y→(S y∨h.size≤y)∧y≠b'∧y<h'.size)→(S b'∨h.size≤b')→(∀U∈Us,∀y,U y→¬A y∧y≠b')→Upd No h h'→K (some ⟨b',0,none⟩) h'):
  HC PG c8 [.pointer (some ⟨b,0,none⟩),.pointer w] [.c .ptr] K h:=by
 refine zB _ w ?_;unfold rT iB bG nv cL tc bI gT Gc Rx;rcases F with⟨q,F,C⟩|⟨e,N,A,hA,B,D,C⟩
 ·refine BB t g (fun a e=>(q a e).2) ?_
  have I:(o.isSome&&(ow==w))=false:=by
   cases ho:o with
   |none=>rfl
   |some a=>
    have e:=t.tok ho;rw[Option.isSome_some,rA,beq_eq_false_iff_ne];intro j;rw[e]at j;exact(q a j).1 (Y a ho)
  rw[I];refine aj.2 ⟨_,rfl,sl,c5 (i:=0) g,has,c5 (i:=1) g,val,c5 (i:=2) g,s,c5 (i:=3) g,ow,c5 (i:=4) g,bL ?_⟩;have k1:=Upd.hnew No h PZ bh;have b1:=cJ h PZ bh;simp only[fy h];generalize hnew h [.string (⟨#[]⟩:ByteArray),.bool false,.string (⟨#[]⟩:ByteArray),.slice none 0 0,.pointer none] bh=h1 at k1 b1;refine dT (c:=PZ) (vs:= [.string sl,.bool has,.string val,.slice s.a s.len s.cap,.pointer ow]) b1 rfl fun O b2 G=>?_
  have E:Upd No h O:=k1.trans G fun x hx=>.inr (gJ hx.symm)
  have Z:h.size<O.size:=aD b2;have P:=E.get0 g;refine⟨_,rfl,s,c5 (i:=3) P,?_⟩;refine En (F.upd E fun _ h=>h.elim) (by omega) fun u V Q k=>?_
  have b3:V[h.size]? =some (.cells (uM sl has val s ow) bh (0,0)):=k.get0 b2;refine⟨M7 (i:=3) b3 (show 3<5 by decide),BD (i:=3) (c':=uM sl has val u ow) b3 rfl fun h4 X H=>?_⟩
  refine⟨M7 (i:=4) X (show 4<5 by decide),BD (i:=4) (c':=uM sl has val u none) X rfl fun T J M=>?_⟩
  have f:=H.tr M;have z3:=k.size;have z5:=f.size;have p:Upd No h T:=(E.tr k).trans f fun x hx=>.inr (gJ hx.symm)
  have fin:∀{m:ad},m[h.size]? =some (.cells (uM sl has val u o) bh (0,0))→Upd (· =h.size) T m→K (some ⟨h.size,0,none⟩) m:=fun{m} L d=>by
   have z6:=d.size;exact R m h.size u (fun x=>O.size≤x∧x<V.size) L (Q.within.upd (f.tr d) fun x hx e=>by have e:x=h.size:=e;have:=hx.1;omega) (fun y n=>⟨.inr (by omega),by omega,by omega⟩) (.inr (al _)) (fun U v y n=>⟨fun h=>by have:=C U v y n;omega,by have:=C U v y n;omega⟩) (p.trans d fun x hx=>.inr (gJ hx.symm))
  refine xF (t.upd0 p) ?_;cases ho:o with
  |none=>rw[ho]at fin;exact aj.2 (fin J (Upd.refl _ _))
  |some a=>
   rw[ho]at fin;rw[t.tok ho];exact ax.2 ⟨M7 (i:=4) J (show 4<5 by decide),BD (i:=4) (c':=uM sl has val u (some a)) J rfl fun m L d=>fin L d⟩
 ·refine BB t g (fun a j=>t.plain a (t.tok (by rw[←N];exact j))) ?_
  have z:(o.isSome&&(ow==w))=true:=by
   obtain⟨a,j⟩:=Option.isSome_iff_exists.1 e;rw[e,N,j,t.tok j];simp
  rw[z];subst N;exact ax.2 (R h b s A g hA (fun y n=>⟨.inl (B y n).1,(B y n).2⟩) (.inl D) C (Upd.refl _ _))
theorem Gs{h:ad}{w o:Option Addr}{k v:ByteArray}(t:By h w o){K:Option Addr→ad→Prop}(p:∀h' b s A,h'[b]? =some (.cells (uM k true v s o) bh (0,0))→OwnS kK 1 aR A h' s []→(∀y,A y→h.size≤y∧y≠b∧y<h'.size)→h.size≤b→Upd No h h'→K (some ⟨b,0,none⟩) h'):HC PG ri [.pointer w,.string k,.string v] [.c .ptr] K h:=by
 refine Df w k v ?_;unfold vN AN tc Gc;have k1:=Upd.hnew No h PZ bh;have b1:=cJ h PZ bh;refine bL ?_;simp only[fy h];generalize hnew h [.string (⟨#[]⟩:ByteArray),.bool false,.string (⟨#[]⟩:ByteArray),.slice none 0 0,.pointer none] bh=h1 at k1 b1;have E:=k1.size;refine jK (W:=fun y=>∃a,o=some a∧a.block=y) (S:=No) (Us:= []) (ks:= []) (sl:=⟨#[]⟩) (val:=⟨#[]⟩) (has:=false) (s:=⟨none,0,0⟩) (ow:=none) (t.upd0 k1) (fun a e=>⟨a,e,rfl⟩) b1 (aV _) (.inl ⟨jL,Sl.nil mG,fun U z=>by cases z⟩) fun G b2 s A q i d g _ m=>?_
 refine sq (nl:=k) q fun F b3 f=>qm (v:=v) b3 fun u C n=>?_
 have c:=f.tr n;have B:h1.size≤b2:=g.elim (fun h=>h.elim) id
 have D:=c.size;exact p u b2 s A C (i.upd c fun x hx e=>(d x hx).2.1 e) (fun y j=>⟨(d y j).1.elim (fun h=>h.elim) fun h=>by omega,(d y j).2.1,by have:=(d y j).2.2;omega⟩) (by omega) ((k1.tr m).trans c fun x hx=>.inr (by have hx:x=b2:=hx;omega))
theorem RQ{o:Option Addr}{W:Nat→Prop}{h:ad}{b:Nat}{k v:ByteArray}{s:SliceV}{A:Nat→Prop}(d:h[b]? =some (.cells (uM k true v s o) bh (0,0))) (c:OwnS kK 1 aR A h s []) (a:∀y,A y→y≠b∧y<h.size) (nw:o=none→(∀y,A y→¬W y)∧¬W b):RxO o W h b k (some v) .nil (SR o b A []):=
 tP d rfl c a (fun _ h=>by cases h) (fun i j S T _ e=>by simp at e) ⟨rfl,rfl,fun i k n S e=>by simp at e⟩ nw
theorem LsO.ins{o:Option Addr}{W:Nat→Prop}{h:ad}{ks:List (Option Addr)}{L:List Bn}{Ts:List (Nat→Prop)}(r:LsO o W h ks L Ts){i:Nat}(hi:i≤L.length){k:Option Addr}{n:Bn}{S:Nat→Prop}(c:KidO o W h k n S):LsO o W h (ks.take i++k::ks.drop i) (L.take i++n::L.drop i) (Ts.take i++S::Ts.drop i):=by
 obtain⟨p,s,m⟩:=r;have g:∀{α:Type _} {xs:List α} {x:α} {j:Nat},i≤xs.length→(xs.take i++x::xs.drop i)[j]? =if j<i then xs[j]? else if j=i then some x else xs[j-1]?:=fun{α xs x j} q=>by
  split
  ·rename_i hj
   rw[dI (by rw[aG];omega),mp,if_pos hj]
  ·rename_i hj
   rw[ee (by rw[aG];omega),aG,aZ q];split
   ·rename_i e;subst e;simp
   ·rename_i e
    have:j-i=(j-i-1)+1:=by omega
    rw[this,cZ,mq];congr 1;omega
 refine⟨by simp[p],by simp[s],fun j k' d f ek a b=>?_⟩
 rw[g (by omega)]at ek a b;split at ek
 ·rename_i hj
  rw[if_pos hj]at a b;exact m j k' d f ek a b
 ·rename_i hj
  rw[if_neg hj]at a b;split at ek
  ·rename_i e
   rw[if_pos e]at a b;cases ek;cases a;cases b;exact c
  ·rename_i e
   rw[if_neg e]at a b;exact m (j-1) k' d f ek a b
theorem QE{Ts:List (Nat→Prop)}(d:PD Ts){i:Nat}(hi:i≤Ts.length){S:Nat→Prop}(f:∀U∈Ts,Dj S U):PD (Ts.take i++S::Ts.drop i):=by
 have g:∀{j:Nat},(Ts.take i++S::Ts.drop i)[j]? =if j<i then Ts[j]? else if j=i then some S else Ts[j-1]?:=fun{j}=>by
  split
  ·rename_i hj
   rw[dI (by rw[aG];omega),mp,if_pos hj]
  ·rename_i hj
   rw[ee (by rw[aG];omega),aG,aZ hi];split
   ·rename_i e;subst e;simp
   ·rename_i e
    have:j-i=(j-i-1)+1:=by omega
    rw[this,cZ,mq];congr 1;omega
 have m:∀{A B:Nat→Prop},Dj A B→Dj B A:=fun h y o n=>h y n o
 intro a b A B k c eb;rw[g]at c eb;split at c<;>split at eb
 ·exact d a b A B k c eb
 ·rename_i h1 h2
  split at eb
  ·cases eb;exact m (f A (aF c))
  ·exact d a (b-1) A B (by omega) c eb
 ·rename_i h1 h2
  split at c
  ·cases c;exact f B (aF eb)
  ·exact d (a-1) b A B (by omega) c eb
 ·rename_i h1 h2
  split at c<;>split at eb
  ·omega
  ·cases c;exact f B (aF eb)
  ·cases eb;exact m (f A (aF c))
  ·exact d (a-1) (b-1) A B (by omega) c eb
theorem Nn{Ts:List (Nat→Prop)}(m:PD Ts){i:Nat}{S:Nat→Prop}(e:∀j U,j≠i→Ts[j]? =some U→Dj S U):PD (Ts.set i S):=by
 have f:∀{A B:Nat→Prop},Dj A B→Dj B A:=fun h y k g=>h y g k
 intro a b A B d c eb;rw[eN]at c eb;split at c<;>split at eb
 ·omega
 ·rename_i h1 h2
  subst h1;split at c
  ·cases c;exact e b B (Ne.symm d) eb
  ·cases c
 ·rename_i h1 h2
  subst h2;split at eb
  ·cases eb;exact f (e a A d c)
  ·cases eb
 ·exact m a b A B d c eb
theorem LsO.set{o:Option Addr}{W:Nat→Prop}{h:ad}{ks:List (Option Addr)}{L:List Bn}{Ts:List (Nat→Prop)}(f:ks.length=L.length)(p:Ts.length=L.length){i:Nat}(m:∀(j:Nat) (k:Option Addr) (n:Bn) (S:Nat→Prop),j≠i→ks[j]? =some k→L[j]? =some n→Ts[j]? =some S→KidO o W h k n S) {k:Option Addr} {n:Bn} {S:Nat→Prop} (c:KidO o W h k n S):LsO o W h (ks.set i k) (L.set i n) (Ts.set i S):=by
 refine⟨by simp[f],by simp[p],fun j k' d g ek a b=>?_⟩
 rw[eN]at ek a b;by_cases e:i=j
 ·rw[if_pos e]at ek a b
  split at ek
  ·rename_i hj
   rw[if_pos (by omega)]at a b;cases ek;cases a;cases b;exact c
  ·cases ek
 ·rw[if_neg e]at ek a b
  exact m j k' d g (Ne.symm e) ek a b
end Go.Proofs
namespace Go.Proofs
open Go Go.Lift
theorem By.lt{h:ad}{w o:Option Addr}(t:By h w o){a:Addr}(e:w=some a):a.block<h.size:=by
 obtain⟨c,ty,b,_⟩:=t.plain a e;exact aD b
theorem LsO.move{o:Option Addr}{W W' M:Nat→Prop}{h b:ad}{ks:List (Option Addr)}{L:List Bn}{Us:List (Nat→Prop)}(r:LsO o W h ks L Us)(k:Upd M h b)(g:∀U∈Us,∀y,U y→y<h.size)(hm:∀y,M y→(W y∧∀U∈Us,¬U y)∨h.size≤y)(f:∀y,W' y→W y∨h.size≤y):LsO o W' b ks L Us:=by
 refine⟨r.1,r.2.1,fun i kk n S ek e c=>?_⟩
 have d:=aF c;exact(((r.2.2 i kk n S ek e c).less (W':=fun y=>W y∨h.size≤y) fun y a=>a).upd k (g S d) fun y a=>(hm y a).imp (fun h=>⟨.inl h.1,h.2 S d⟩) id).less fun y a=>.inl (f y a)
theorem wM{o:Option Addr}{S A:Nat→Prop}{Us:List (Nat→Prop)}{b z:Nat}{a:ad}(f:S b∨z≤b)(d:b<a.size)(i:∀y,A y→(S y∨z≤y)∧y<a.size)(g:∀U∈Us,∀y,U y→(S y∨z≤y)∧y<a.size){y:Nat}(e:SR o b A Us y):(S y∨z≤y)∧y<a.size:=by
 rcases e.2 with rfl|h|⟨U,c,h⟩
 ·exact⟨f,d⟩
 ·exact i y h
 ·exact g U c y h
set_option maxHeartbeats 1000000 in
theorem Gr{W S:Nat→Prop}{h:ad}{w' o:Option Addr}{b:Nat}{sl:ByteArray}{w:Option ByteArray}{F:Fo}(r:RxO o W h b sl w F S)(t:By h w' o)(hW:∀y,W y→y<h.size)(O:∀y,S y→W y)(hWo:∀a,o=some a→W a.block)(hn:F.toL.length≤256){c:Nat}(hc:c≤sl.size){K:Option Addr→ad→Prop}
  (hk:∀h' b' S',RxO o (fun y=>W y∨S' y) h' b' (sl.extract 0 c) none (.cons (sl.data.toList.drop c) w F .nil) S'→(∀y,S' y→(S y∨h.size≤y)∧y<h'.size)→Upd S h h'→K (some ⟨b',0,none⟩) h'):HC PG me [.pointer (some ⟨b,0,none⟩),.pointer w',.int .i64 c] [.c .ptr] K h:=by
 refine wQ _ w' c ?_;unfold pY AN cL tc bI Gc;have hno:o=none→∀y,¬S y:=fun e=>by subst e;exact r.off.2
 obtain⟨val,s,ow,ks,Us,hb,hv,hs,hL,C,hPD,hown⟩:=r.view;have u:∀y,S y→y<h.size:=fun y d=>hW y (O y d)
 have lab:∀{h'},Upd No h h'→aK h' (adr ⟨b,0,none⟩ 0)=some (.string sl):=fun k=>c5 (i:=0) (k.get0 hb)
 have r0:=Upd.refl No h;refine⟨_,rfl,sl,lab r0,⟨by omega,by omega⟩,bL ?_⟩
 have k1:=Upd.hnew No h PZ bh;have b1:=cJ h PZ bh;simp only[fy h];generalize hnew h [.string (⟨#[]⟩:ByteArray),.bool false,.string (⟨#[]⟩:ByteArray),.slice none 0 0,.pointer none] bh=h1 at k1 b1;have z1:=k1.size;refine⟨lab k1,?_⟩;refine jK (W:=W) (S:=No) (Us:= []) (ks:= []) (sl:=⟨#[]⟩) (val:=⟨#[]⟩) (has:=false) (s:=⟨none,0,0⟩) (ow:=none) (t.upd0 k1) hWo b1 (aV _) (.inl ⟨jL,Sl.nil mG,fun U q=>by cases q⟩) fun h2 v s2 A2 b2 _ _ hbu _ Y=>⟨lab (k1.tr Y),?_⟩
 have hbu:h1.size≤v:=hbu.elim (fun h=>h.elim) id
 have hbu2:=aD b2;rw[aE];refine sq b2 fun h3 b3 hu3=>?_
 have k02:=k1.tr Y;have g:Upd No h h3:=k02.trans hu3 fun x hx=>.inr (by have hx:x=v:=hx;omega)
 have z02:=k02.size;have z3:=hu3.size;have z03:=g.size;have t3:=t.upd0 g;refine jK (W:=W) (S:=S) (Us:=Us) (ks:=ks) (s:=s) (ow:=ow) (val:=val) (sl:=sl) (has:=w.isSome) t3 hWo (g.get0 hb) (by rw[hL.1];exact hn) ?_ fun h4 m s4 A4 I hA4 f Q hU4 M=>?_
 ·rcases hown with⟨how,_,_,hS0⟩|⟨e,eo,A,hA,J,V,hUA⟩
  ·exact .inl ⟨how.upd g fun _ h=>h.elim,hs.upd g fun _ h=>h.elim,fun U q y d=>absurd (C U q y d) (hS0 y)⟩
  ·exact .inr ⟨e,eo,A,hA.upd g fun _ _ h=>h,fun y d=>⟨(J y d).1,(J y d).2.1,by have:=(J y d).2.2;omega⟩,V,hUA⟩
 refine⟨_,rfl,sl,c5 (i:=0) I,⟨by omega,by omega⟩,?_⟩
 refine sq (nl:=sl.extract c sl.size) I fun p b5 G=>?_
 have z4:=M.size;have z5:=G.size;have hA5:=hA4.upd G fun x hx e=>(f x hx).2.1 e
 have nb:v≠m:=fun e=>by
  rcases Q with h|h
  ·have:=u _ h;omega
  ·omega
 have b35:p[v]? =some (.cells (uM (sl.extract 0 c) false ⟨#[]⟩ s2 o) bh (0,0)):=G.get (M.get0 b3) (by show ¬v=m;omega);have k6:=Upd.hnew No p [.pointer (some ⟨m,0,none⟩)] aR;have b6:=cJ p [.pointer (some ⟨m,0,none⟩)] aR;refine bL ?_;simp only[fy p];generalize hnew p [.pointer (some ⟨m,0,none⟩)] aR=h6 at k6 b6;have z6:=aD b6
 have b36:=k6.get0 b35;refine⟨_,rfl,M7 (i:=3) b36 (show 3<5 by decide),BD (i:=3) (c':=uM (sl.extract 0 c) false ⟨#[]⟩ ⟨some ⟨p.size,0,none⟩,1,1⟩ o) b36 rfl fun N b7 E=>?_⟩
 have z7:=E.size;have zb4:=aD I;have Z:Upd (· =m) h N:=((((g.tr M).wide.tr G).tr k6.wide).trans E fun x hx=>.inr (by have hx:x=v:=hx;omega))
 have b57:=E.get (k6.get0 b5) (by show ¬m=v;omega);have b67:N[p.size]? =some (.cells #[.pointer (some ⟨m,0,none⟩)] aR (0,0)):=E.get b6 (by show ¬p.size=v;omega);have hA7:=(hA5.upd k6 fun _ _ h=>h).upd E fun x hx e=>by
  have e:x=v:=e;rcases(f x hx).1 with h|h
  ·have:=u x h;omega
  ·omega
 have D:∀y,A4 y→(S y∨h.size≤y)∧y<N.size:=fun y d=>⟨(f y d).1.imp id fun h=>by omega,by have:=(f y d).2.2;omega⟩
 have z:S m∨h.size≤m:=Q.imp id fun h=>by omega
 have hUb:∀U∈Us,∀y,U y→(S y∨h.size≤y)∧y<N.size:=fun U q y d=>⟨.inl (C U q y d),by have:=u y (C U q y d);omega⟩
 have hSk:∀y,SR o m A4 Us y→(S y∨h.size≤y)∧y<N.size:=fun y d=>wM z (by omega) D hUb d
 have hSk5:∀y,SR o m A4 Us y→y<p.size:=fun y d=>by
  rcases d.2 with rfl|h|⟨U,L,h⟩
  ·omega
  ·have:=(f y h).2.2;omega
  ·have:=u y (C U L y h);omega
 have hSkb:∀y,SR o m A4 Us y→y≠v:=fun y d e=>by
  subst e;rcases d.2 with h|h|⟨U,L,h⟩
  ·exact nb h
  ·rcases(f y h).1 with h|h
   ·have:=u y h;omega
   ·omega
  ·have:=u y (C U L y h);omega
 have H:∀{A:Nat→Prop} {R:Nat} {T:List (Nat→Prop)} {X:Nat→Prop},(∀y,A y→S y∨h.size≤y)→(S R∨h.size≤R)→o=none→(∀y,A y→¬(W y∨SR o v X T y))∧¬(W R∨SR o v X T R):=fun{A R T X} hA hb e=>by
  have no:∀y,(S y∨h.size≤y)→¬(W y∨SR o v X T y):=fun y d P=>by
   rcases P with P|⟨P,_⟩
   ·rcases d with h|h
    ·exact hno e y h
    ·have:=hW y P;omega
   ·rw[e]at P;cases P
  exact⟨fun y d=>no y (hA y d),no _ hb⟩
 refine hk N v (SR o v (· =p.size) [SR o m A4 Us]) (tP (ks:= [some ⟨m,0,none⟩]) b7 rfl (⟨rfl,mG,al _,.inr ⟨p.size,[],rfl,rfl,by simpa[kK]using b67,rfl⟩⟩:OwnS kK 1 aR (· =p.size) N ⟨some ⟨p.size,0,none⟩,1,1⟩ [some ⟨m,0,none⟩]) (fun y d=>?_) (fun U q y d=>?_) (fun i j A B hij e1 e2=>?_) ⟨rfl,rfl,fun i kk n U ek en eU=>?_⟩ (H (fun y d=>?_) (.inr (by omega)))) (fun y d=>?_) (Z.mono fun y d=>?_)
 ·have d:y=p.size:=d
  omega
 ·rw[aq.1 q]at d
  have:=hSk5 y d;exact⟨fun h=>by have h:y=p.size:=h;omega,hSkb y d⟩
 ·cases i with
  |zero=>cases j with
   |zero=>exact absurd rfl hij
   |succ j=>simp at e2
  |succ i=>simp at e1
 ·cases i with
  |succ i=>simp at ek
  |zero=>
   simp only[bT,bm.injEq,Fo.toL]at ek en eU;subst ek en eU;refine⟨m,sl.extract c sl.size,rfl,xO ..,tP b57 hv hA7 (fun y d=>⟨(f y d).2.1,(D y d).2⟩) hU4 hPD (hL.move Z (fun U q y d=>u y (C U q y d)) (fun y d=>?_) fun y d=>?_) (H (fun y d=>(D y d).1) z)⟩
   ·have d:y=m:=d
    subst d;exact z.imp (fun h=>⟨O y h,fun U q hu=>(hU4 U q y hu).2 rfl⟩) id
   ·rcases d with h|h
    ·exact .inl h
    ·rcases h.2 with rfl|h|⟨U,q,h⟩
     ·exact .inr (by omega)
     ·have h:y=p.size:=h
      exact .inr (by omega)
     ·rw[aq.1 q]at h
      exact(hSk y h).1.imp (O y) id
 ·have d:y=p.size:=d
  exact .inr (by omega)
 ·refine wM (.inr (by omega)) (aD b7) (fun y d=>?_) (fun U q y d=>?_) d
  ·have d:y=p.size:=d
   exact⟨.inr (by omega),by omega⟩
  ·rw[aq.1 q]at d
   exact hSk y d
 ·have d:y=m:=d
  rw[d];exact z
end Go.Proofs
