/- A part of the proof that the named laws of this program answer true, whatever the input. -/
import Derived.Test.YtajpljopgikpgaaGreatDoorPart2
import Derived.Test.YtajpljopgikpgaaGreatDoorPart1
open Array renaming toList_inj→iW
open Bool renaming true_and→un
open ByteArray renaming mk→kS,data_extract→pq
open Int renaming toNat_natCast→aM
open List renaming range→dV,range_succ→ix,map_append→bZ,sum_append→gG,map_cons→cn,map_nil→kQ,sum_cons→jK,sum_nil→vH,length_cons→az,length_append→ad,flatten_append→d8,mem_filterMap→oe,mem_singleton→aq,mem_cons_self→av,mem_cons_of_mem→aL,flatMap_cons→aR,flatten_cons→eh,length_nil→bw,length_singleton→aE,append_assoc→au,getElem?_cons_succ→dG,getElem_mem→aU,mem_of_mem_take→hP,cons_append→dN,append_inj→qP,cons→eO,pairwise_cons→ba,mem_cons→aw,zip_cons_cons→f8,length_take→aD,zip_eq_zipWith→m7,length_drop→aO,set_eq_take_append_cons_drop→dI,getElem?_eq_getElem→af,extract_eq_take_drop→gJ,getElem?_cons_zero→cf,length_eq_zero_iff→aF,mem_of_getElem?→bK,getElem?_append_left→bQ,getElem?_take→oh,getElem?_append_right→aQ,getElem?_drop→ol,getElem?_set→fe
open Nat renaming add_zero→cW,add_mul→iR,mul_le_mul_left→jS,mul_le_mul_right→cg,le_trans→aX,not_lt_zero→is,zero_le→aS,le_refl→aj,shiftRight_eq_div_pow→cA,mod_eq_of_lt→dq,lt_or_ge→bG,zero_add→aI,le_of_eq→fH,min_eq_left→bo
open Option renaming some→bA
namespace Go.Proofs
open Go Go.Lift
theorem rz(x:Hs)(lev:Nat)(l:List Pr):∀n,(((dV n).map fun c=>(part x lev c l).length).sum)=(l.filter fun p=>decide (ck x lev p.1<n)).length
 |0=>by
  have:(l.filter fun p=>decide (ck x lev p.1<0))= []:=List.filter_eq_nil_iff.2 fun p _=>by simp
  rw[this];rfl
 |n+1=>by
  rw[ix,bZ,gG,rz x lev l n];simp only[cn,kQ,jK,vH,cW];unfold part;clear rz;induction l with
  |nil=>rfl
  |cons p l ih=>
   simp only[List.filter_cons,decide_eq_true_iff];split<;>split<;>split<;>first|omega|(simp only[az];omega)
theorem uv(x:Hs)(lev:Nat)(l:List Pr):(fQ x lev l).length+(iA x lev l).flatten.length≤l.length:=by
 have h:=rz x lev l 32;have d:(l.filter fun p=>decide (ck x lev p.1<32)).length≤l.length:=List.length_filter_le ..
 have:∀n,(fm (fun c=>gL (part x lev c l)) n).length+(fm (fun c=>eL (part x lev c l)) n).flatten.length≤((dV n).map fun c=>(part x lev c l).length).sum:=by
  intro n;induction n with
  |zero=>simp[fm]
  |succ n ih=>
   rw[gj,gj,ix,bZ,gG];simp only[ad,d8,cn,kQ,jK,vH,cW];generalize part x lev n l=q;have:(gL q).toList.length+(eL q).toList.flatten.length≤q.length:=by
    match q with
    | []=>simp[gL,eL]
    | [a]=>simp[gL,eL]
    |a::b::q=>simp[gL,eL]
   omega
 have:=this 32;unfold fQ iA;omega
end Go.Proofs
namespace Go.Proofs
open Go Go.Lift
theorem pI{x:Hs}{lev:Nat}{l:List Pr}{p:Pr}(h:p∈fQ x lev l):p∈l:=by
 unfold fQ fm at h;obtain⟨c,_,hc⟩:=oe.1 h;unfold gL at hc;split at hc
 ·rename_i q hq
  cases hc;have:p∈part x lev c l:=by rw[hq];exact aq.2 rfl
  exact(kU.1 this).1
 ·cases hc
theorem mE{x:Hs}{lev:Nat}{l L:List Pr}(h:L∈iA x lev l):2≤L.length∧∃c,L=part x lev c l:=by
 unfold iA fm at h;obtain⟨c,_,hc⟩:=oe.1 h;unfold eL at hc;split at hc
 ·cases hc;exact⟨by assumption,c,rfl⟩
 ·cases hc
theorem Fit.part{x:Hs}{lev c:Nat}{l:List Pr}(h:Fit l):Fit (part x lev c l):=fun p a=>h p (kU.1 a).1
theorem Da{B:Nat}{f:List Pr→List UInt8}:∀{ls:List (List Pr)},(∀L∈ls,2≤L.length∧(f L).length≤9+L.length*B)→(ls.flatMap f).length≤ls.flatten.length*(B+9)
 | [],_=>by simp
 |L::ls,h=>by
  have b:=h L (av ..);have a:=Da (ls:=ls) fun M hM=>h M (aL _ hM)
  rw[aR,ad,eh,ad,iR];have:L.length*(B+9)=L.length*B+L.length*9:=Nat.mul_add ..;omega
theorem nK{x:Hs}:∀(m:Nat) {l:List Pr},Fit l→(fC x m l).length≤9+l.length*(20004+9*(m+1))
 |0,l,h=>by
  have:=l7 h;unfold fC;rw[az,ad,df];have:l.length*20004≤l.length*(20004+9*(0+1)):=jS _ (by omega);omega
 |m+1,l,h=>by
  have k:=l7 (l:=fQ x (12-m) l) fun p d=>h p (pI d)
  have a:=Da (f:=fC x m) (ls:=iA x (12-m) l) (B:=20004+9*(m+1)) fun L b=>by
   obtain⟨g,c,rfl⟩:=mE b;exact⟨g,nK m h.part⟩
  have e:=uv x (12-m) l;unfold fC;rw[az,ad,ad,ad,df,df];have n:(fQ x (12-m) l).length*20004≤(fQ x (12-m) l).length*(20004+9*(m+1+1)):=jS _ (by omega);have j:((fQ x (12-m) l).length+(iA x (12-m) l).flatten.length)*(20004+9*(m+1+1))≤l.length*(20004+9*(m+1+1)):=cg _ e;rw[iR]at j
  have i:20004+9*(m+1)+9=20004+9*(m+1+1):=by omega
  rw[i]at a;omega
end Go.Proofs
namespace Go.Proofs
open Go Go.Lift
theorem Me{h:ae}{b d n:Nat}{sp sk:SliceV}{c:Bool}{ow:Option Addr}(a:h[b]? =some (.cells (fR d n sp sk c ow) bT (0,0))) (f:sp.len+sk.len≤1000000000) {K:Int→ae→Prop} (e:K ((sp.len+sk.len:Nat):Int) h):HC PG kY [.pointer (some ⟨b,0,none⟩)] [.c (.int .i64)] K h:=by
 refine vV _ ?_;unfold qN bD;refine al.2 ⟨_,rfl,sp,eC (i:=2) a,_,rfl,sk,eC (i:=3) a,?_⟩;rw[ji (by omega)];exact_mod_cast e
def Bes(M:Nat→Prop)(h a:ae)(b:Nat):Prop:=M b∧(b<h.size∨a.size≤b)
theorem Bes.own{α:Type}{f:α→List Value}{c:Nat}{t:TypeId}{M:Nat→Prop}{h a:ae}{s:SliceV}{xs:List α}(e:OwnS f c t M h s xs)(d:Upd No h a):OwnS f c t (Bes M h a) a s xs:=
 (e.within.upd d fun _ _ h=>h).more fun _ b=>⟨b.1,.inl b.2⟩
theorem Bes.sl{α:Type}{f:α→List Value}{c:Nat}{t:TypeId}{M:Nat→Prop}{h a:ae}{s:SliceV}{xs:List α}(e:OwnS f c t (fun x=>h.size≤x) a s xs):Sl f c (Bes M h a) a s xs:=
 e.sl fun b g d hx=>by rcases hx.2 with h|h<;>omega
theorem Bes.hM{M:Nat→Prop}{h a:ae}(hM:∀b,h.size≤b→M b)(d:Upd No h a):∀b,a.size≤b→Bes M h a b:=fun b c=>⟨hM b (aX d.size c),.inr c⟩
theorem QF{W:Nat→Prop}{x:Hs}:∀(m:Nat),m≤13→∀{b:Nat} {l:List Pr} {J h:ae} {M:Nat→Prop} {s:SliceV} {xs:List UInt8},TrieAt W x J m b l→Upd No J h→(∀y,M y→J.size≤y)→OwnS nX 1 cr M h s xs→(∀y,h.size≤y→M y)→Fit l→l.length≤60000→
  xs.length+(9+l.length*(20004+9*(m+1)))≤140737488355328→∀{K:SliceV→ae→Prop},(∀s' j,OwnS nX 1 cr M j s' (xs++fC x m l)→Upd M h j→K s' j)→
  HC PG sI [.slice s.a s.len s.cap,.pointer (some ⟨b,0,none⟩),.int .i64 ((13-m:Nat):Int)] [.c .slice] K h:=by
 intro m;induction m with
 |zero=>
  intro _ b l J h M s xs t hu0 hM0 ho hM hf hn hx K hk;refine CC s (some ⟨b,0,none⟩) ((13-0:Nat):Int) ?_;unfold wY bR cQ Qm OK SY;have st:∀{j},Upd M h j→Upd No J j:=fun k=>hu0.trans k fun y u=>.inr (hM0 y u)
  have bk:∀{j},Upd M h j→BuckAt W j b l:=fun k=>BuckAt.upd t (st k) fun _ h=>h.elim
  have z:∀{j},Upd M h j→∀y,j.size≤y→M y:=fun k y u=>hM y (aX k.size u)
  obtain⟨sp,sk,ow,hb,_⟩:=(bk (Upd.refl M h)).ex;refine iM hb (ax.2 (bU ?_));refine uC (b:=1) rfl ho hM (by omega) fun s1 h1 X o=>?_
  obtain⟨sp1,sk1,ow1,Y,T,hsk1,_⟩:=(bk o).ex;have e1:=T.len;have e2:=hsk1.len;rw[bw]at e2;refine Me Y (by omega) ?_;have ew:IntKind.wrap .u64 ((sp1.len+sk1.len:Nat):Int)=((l.length:Nat):Int):=by rw[Go.IntWalk.u64_in _ (by omega)];omega
  rw[ew];have hl2:l.length*20004≤l.length*(20004+9*(0+1)):=jS _ (by omega);refine Mk X (z o) (n:=l.length) (k:=2) (by omega) (by omega) (by rw[ad,aE];omega) fun s2 h2 Z w=>?_
  have U:=o.tr w;obtain⟨sp2,sk2,ow2,hb2,V,_⟩:=(bk U).ex;refine oH hb2 V (by omega) fun s3 F A E=>?_
  refine DU (M:=Bes M h2 F) (W:=Bes M h2 F) (Bes.own Z E) (Bes.hM (z U) E) (Bes.sl A) (fun _ h _=>h) hf (by omega) (by rw[ad,ad,aE,df];omega) fun s4 G ho4 P=>?_
  refine hk s4 G ?_ (U.tr (E.wide.tr (P.mono fun y u=>.inl u.1)))
  have:=ho4.more (M':=M) fun y u=>u.1
  rw[fC,List.append_cons,←au];exact this
 |succ m ih=>
  intro hm b l J h M s xs t hu0 hM0 ho hM hf hn hx K hk;refine CC s (some ⟨b,0,none⟩) ((13-(m+1):Nat):Int) ?_;unfold wY bR cQ Qm OK SY;have st:∀{j},Upd M h j→Upd No J j:=fun k=>hu0.trans k fun y u=>.inr (hM0 y u)
  have z:∀{j},Upd M h j→∀y,j.size≤y→M y:=fun k y u=>hM y (aX k.size u)
  obtain⟨sl,nd,hs0⟩:=t;have hs:∀c,c<32→SlotIs W x J m sl c (part x (12-m) c l):=hs0;have hd:∀{j},Upd M h j→∃d n sp sk ow,j[b]? =some (.cells (fR d n sp sk false ow) bT (0,0))∧d=i7 (fun c=>(gL (part x (12-m) c l)).isSome) 32∧n=i7 (fun c=>(eL (part x (12-m) c l)).isSome) 32∧Sl eg 2 W j sp (fQ x (12-m) l)∧Sl p6 1 W j sk (fm sl.k 32):=fun{j} k=>by
   obtain⟨d,n,sp,sk,ow,hb,bits,F,G,_⟩:=(nd.upd (st k) fun _ h=>h.elim).ex
   refine⟨d,n,sp,sk,ow,hb,Hb bits.d32 fun c hc=>?_,Hb bits.n32 fun c hc=>?_,?_,G⟩
   ·rw[bits.dp c hc,(DS (hs c hc)).1]
   ·rw[bits.nk c hc,(DS (hs c hc)).2]
   ·rw[←zN hs];exact F
  have hka:KidsAt W x J m (fm sl.k 32) (iA x (12-m) l):=H4 32 hs;have v:=nK (x:=x) (m+1) hf;have hlen2:=v;have hml:∀L∈iA x (12-m) l,Fit L∧L.length≤60000:=fun L hL=>by
   obtain⟨_,c,rfl⟩:=mE hL;exact⟨hf.part,aX jX hn⟩
  have hsf:Fit (fQ x (12-m) l):=fun p hp=>hf p (pI hp)
  have hsl:=uv x (12-m) l;unfold fC at hk v;have ebits:∀q:Nat→Bool,i7 q 32<4294967296:=fun q=>mo q 32
  have hd32:=ebits fun c=>(gL (part x (12-m) c l)).isSome
  have hn32:=ebits fun c=>(eL (part x (12-m) c l)).isSome
  generalize i7 (fun c=>(gL (part x (12-m) c l)).isSome) 32=D at hk hd v hd32
  generalize i7 (fun c=>(eL (part x (12-m) c l)).isSome) 32=N at hk hd v hn32
  have hS:(fQ x (12-m) l).length≤60000:=by omega
  have hSb:(fQ x (12-m) l).length*20004≤l.length*(20004+9*(m+1+1)):=Nat.mul_le_mul (by omega) (by omega);have hML:∀L∈iA x (12-m) l,2≤L.length∧(fC x m L).length≤9+L.length*(20004+9*(m+1)):=fun L hL=>by
   obtain⟨F,c,rfl⟩:=mE hL;exact⟨F,nK m hf.part⟩
  have hbud:9+(fQ x (12-m) l).length*20004+(iA x (12-m) l).flatten.length*(20004+9*(m+1)+9)≤9+l.length*(20004+9*(m+1+1)):=by
   have h5:(fQ x (12-m) l).length*20004≤(fQ x (12-m) l).length*(20004+9*(m+1+1)):=jS _ (by omega);have h6:((fQ x (12-m) l).length+(iA x (12-m) l).flatten.length)*(20004+9*(m+1+1))≤l.length*(20004+9*(m+1+1)):=cg _ hsl;rw[iR]at h6;have h7:20004+9*(m+1)+9=20004+9*(m+1+1):=by omega
   rw[h7];omega
  have hps:=l7 hsf;generalize fQ x (12-m) l=So at hk hd hsf hS hSb hbud v hps;generalize iA x (12-m) l=Ma at hk hka hml hML hbud v;obtain⟨d,n,sp,sk,ow,hb,_⟩:=hd (Upd.refl M h);refine iM hb (al.2 (Join.intro (fun s' j=>OwnS nX 1 cr M j s' (xs++(0::(ma D 4++ma N 4)))∧Upd M h j) (fun R hR=>bU ?_) ?_))
  ·refine uC (b:=0) rfl ho hM (by omega) fun s1 h1 X o=>?_
   obtain⟨d1,n1,sp1,sk1,ow1,Y,rfl,rfl,_⟩:=hd o;refine Ii Y ?_;rw[Go.IntWalk.u64_in _ (by omega)];refine Mk X (z o) (n:=d1) (k:=4) (by omega) (by omega) (by rw[ad,aE];omega) fun s2 h2 Z w=>?_
   obtain⟨d2,n2,sp2,sk2,ow2,hb2,rfl,rfl,_⟩:=hd (o.tr w);refine zX hb2 ?_;rw[Go.IntWalk.u64_in _ (by omega)];refine Mk Z (z (o.tr w)) (n:=n2) (k:=4) (by omega) (by omega) (by rw[ad,ad,aE,df];omega) fun s3 F A E=>?_
   refine hR _ _ ⟨?_,(o.tr w).tr E⟩;rw[List.append_cons,←au];exact A
  ·rintro s' h1 ⟨X,o⟩
   obtain⟨d1,n1,sp1,sk1,ow1,Y,_,_,T,_⟩:=hd o;refine oH Y T (by omega) fun s2 h2 Z w=>?_
   refine DU (M:=Bes M h1 h2) (W:=Bes M h1 h2) (Bes.own X w) (Bes.hM (z o) w) (Bes.sl Z) (fun _ h _=>h) hsf (by omega) (by rw[ad,az,ad,df,df];omega) fun s3 F A E=>?_
   have A:=A.more (M':=M) fun y u=>u.1
   have O:Upd M h F:=o.tr (w.wide.tr (E.mono fun y u=>.inl u.1))
   have e13:(((13-(m+1):Nat):Int)==(13:Int))=false:=by rw[beq_eq_false_iff_ne];omega
   rw[e13];refine al.2 ?_;obtain⟨d3,n3,sp3,sk3,ow3,hb3,_,_,_,hsk3⟩:=hd O;have hk32:=vO (g:=sl.k);refine Dk hb3 hsk3 (by omega) fun s4 G ho4 P=>?_
   have H:Sl p6 1 (Bes M F G) G s4 (fm sl.k 32):=Bes.sl ho4;have hlk:=H.len;have ew:IntKind.wrap .i64 (((13-(m+1):Nat):Int)+1)=((13-m:Nat):Int):=by rw[ji (by omega)];omega
   rw[ew];have hMb:=Bes.hM (z O) P;have hob:=Bes.own A P;have hu04:Upd M h G:=O.tr P.wide;have hMM:∀y,Bes M F G y→M y:=fun y u=>u.1
   have st4:∀{j},Upd (Bes M F G) G j→Upd M h j:=fun k=>hu04.tr (k.mono fun y u=>.inl u.1)
   generalize Bes M F G=B at H hMb hob hMM st4;have hkl:∀{ks:List (Option Addr)} {ls:List (List Pr)},KidsAt W x J m ks ls→ks.length=ls.length∧∀i (hi:i<ls.length),∃kb,ks[i]? =some (some ⟨kb,0,none⟩)∧TrieAt W x J m kb ls[i]:=by
    intro ks;induction ks with
    |nil=>intro ls;cases ls with
     |nil=>intro _;exact⟨rfl,fun i hi=>absurd hi (is _)⟩
     |cons a ls=>intro h;exact h.elim
    |cons k ks ihk=>intro ls;cases ls with
     |nil=>intro h;exact h.elim
     |cons a ls=>
      rintro⟨⟨kb,rfl,tk⟩,h⟩;obtain⟨e,hr⟩:=ihk h;refine⟨by simp[e],fun i hi=>?_⟩
      cases i with
      |zero=>exact⟨kb,rfl,tk⟩
      |succ i=>simp only[dG,List.getElem_cons_succ];exact hr i (by simpa using hi)
   obtain⟨hkl,hkt⟩:=hkl hka;have hbase:(xs++(0::(ma D 4++ma N 4))++jY So).length≤xs.length+(9+So.length*20004):=by
    rw[ad,ad,az,ad,df,df];omega
   refine LoopP.ghost (fun(i:Nat) (t:SliceV×Int) j=>t.2=(i:Int)∧i≤Ma.length∧OwnS nX 1 cr B j t.1 (xs++(0::(ma D 4++ma N 4))++jY So++(Ma.take i).flatMap (fC x m))∧Upd B G j) (fun i=>Ma.length-i) 0 ⟨rfl,aS _,by simpa using hob,Upd.refl _ _⟩ ?_
   rintro I i ⟨so,ti⟩ j ⟨e1,hi,ho',S⟩ hI;simp only at e1 ho';subst e1;refine aB (fun C=>?_) fun hge=>?_
   ·have C:i<Ma.length:=by have:(i:Int)<(s4.len:Int):=C;omega
    obtain⟨kb,hk1,tk⟩:=hkt i C;obtain⟨a,ha,_,hv⟩:=(H.upd S fun y u=>.inl u).at0 hk1
    refine⟨⟨by simp only;omega,by simp only;omega⟩,a,ha,some ⟨kb,0,none⟩,hv,?_⟩
    have Q:Ma[i]∈Ma:=aU C;have htl:=Da (f:=fC x m) (ls:=Ma.take i) (B:=20004+9*(m+1)) fun L hL=>hML L (hP hL)
    have hsp:(Ma.take i).flatten.length+Ma[i].length≤Ma.flatten.length:=by
     have e:Ma=Ma.take i++Ma[i]::Ma.drop (i+1):=by rw[List.getElem_cons_drop,List.take_append_drop]
     have:=congrArg (fun L=>(List.flatten L).length) e
     simp only[d8,eh,ad]at this;omega
    have V:=cg (20004+9*(m+1)+9) hsp;rw[iR]at V;have h2l:=(hML _ Q).1;have hone:9+Ma[i].length*(20004+9*(m+1))≤Ma[i].length*(20004+9*(m+1)+9):=by rw[Nat.mul_add (Ma[i].length) (20004+9*(m+1)) 9];omega
    refine ih (by omega) tk (hu0.trans (st4 S) fun y u=>.inr (hM0 y u)) (fun y u=>hM0 y (hMM y u)) ho' (fun y u=>hMb y (aX S.size u)) (hml _ Q).1 (hml _ Q).2 (by rw[ad];omega) fun s5 h5 ho5 hu5=>?_
    rw[cz C (by omega)];refine hI (i+1) _ _ ⟨rfl,C,?_,S.tr hu5⟩ (by omega);rw[List.take_succ_eq_append_getElem C,List.flatMap_append,aR,List.flatMap_nil,List.append_nil,←au];exact ho5
   ·have hil:i=Ma.length:=by have:¬(i:Int)<(s4.len:Int):=hge;omega
    subst hil;rw[List.take_length]at ho';refine hk _ _ ?_ (st4 S);have:=ho'.more hMM;simp only[au,dN]at this⊢;exact this
end Go.Proofs
namespace Go.Proofs
open Go Go.Lift
theorem Tf{W:Nat→Prop}{x:Hs}{h:ae}{b:Nat}{l:List Pr}(t:TrieAt W x h 13 b l)(e:Fit l)(c:l.length≤60000){K:SliceV→ae→Prop}(i:∀s' a,OwnS nX 1 cr (fun y=>h.size≤y) a s' (fC x 13 l)→Upd No h a→K s' a):HC PG yP [.pointer (some ⟨b,0,none⟩)] [.c .slice] K h:=by
 refine Nf _ ?_;unfold E8;refine al.2 ?_;have j:l.length*(20004+9*(13+1))≤60000*(20004+9*(13+1)):=cg _ c;exact QF (x:=x) 13 (aj _) (s:=⟨none,0,0⟩) (xs:= []) (M:=fun y=>h.size≤y) t (Upd.refl _ _) (fun _ h=>h) (OwnS.nil qJ) (fun _ h=>h) e c (by rw[bw];omega) fun s' a f d=>i s' a f (d.mono fun y g=>.inr g)
theorem Kf:∀{a b:Nat} (k:Nat),ma a k=ma b k→a%2^(8*k)=b%2^(8*k)
 |_,_,0,_=>by simp[Nat.mod_one]
 |a,b,k+1,h=>by
  rw[xp,xp]at h;obtain⟨g,d⟩:=qP h (by rw[df,df]);have f:=Kf k g;have c:=congrArg UInt8.toNat (eO.inj d).1;rw[UInt8.toNat_ofNat',UInt8.toNat_ofNat',cA,cA]at c;have e:2^(8*(k+1))=2^(8*k)*2^8:=by rw[Nat.mul_add,Nat.pow_add]
  rw[e,Nat.mod_mul,Nat.mod_mul,f,c]
theorem ux{a b k:Nat}{r c:List UInt8}(f:a<2^(8*k))(g:b<2^(8*k))(h:ma a k++r=ma b k++c):a=b∧r=c:=by
 obtain⟨e,d⟩:=qP h (by rw[df,df]);have:=Kf k e;rw[dq f,dq g]at this;exact⟨this,d⟩
theorem xe{a b:ByteArray}{r c:List UInt8}(i:a.size≤10000)(j:b.size≤10000)(h:nf a++r=nf b++c):a=b∧r=c:=by
 unfold nf at h;rw[au,au]at h;obtain⟨e,d⟩:=ux (k:=2) (by omega) (by omega) h;obtain⟨g,f⟩:=qP d (by simpa using e);refine⟨?_,f⟩;cases a;cases b;exact congrArg kS (iW.1 g)
theorem yH:∀{l l':List Pr} {r r':List UInt8},Fit l→Fit l'→l.length=l'.length→jY l++r=jY l'++r'→l=l'∧r=r'
 | [],[],_,_,_,_,_,h=>⟨rfl,h⟩
 | [],_::_,_,_,_,_,e,_=>by simp at e
 |_::_,[],_,_,_,_,e,_=>by simp at e
 |p::l,q::l',r,r',hf,hf',e,h=>by
  unfold jY at h;rw[aR,aR,Co,Co]at h;simp only[au]at h;have b:=hf p (av ..);have a:=hf' q (av ..);obtain⟨c,h⟩:=xe b.1 a.1 h;obtain⟨d,h⟩:=xe b.2 a.2 h;obtain⟨f,h⟩:=yH (l:=l) (l':=l') (fun z hz=>hf z (aL _ hz)) (fun z hz=>hf' z (aL _ hz)) (by simpa using e) h
  exact⟨by rw[f,Prod.ext c d],h⟩
theorem Dq{β γ:Type}{g:Nat→Option β}{a:Nat→Option γ}:∀n,(∀c,c<n→(g c).isSome=(a c).isSome)→(fm g n).length=(fm a n).length
 |0,_=>rfl
 |n+1,h=>by
  rw[gj,gj,ad,ad,Dq n fun c hc=>h c (by omega)]
  have:=h n (by omega);cases h1:g n<;>cases h2:a n<;>rw[h1,h2]at this<;>first|rfl|cases this
theorem MI{β:Type}{g a:Nat→Option β}:∀n,(∀c,c<n→(g c).isSome=(a c).isSome)→fm g n=fm a n→∀c,c<n→g c=a c
 |0,_,_,c,hc=>absurd hc (is _)
 |n+1,h,e,c,hc=>by
  rw[gj,gj]at e;obtain⟨f,b⟩:=qP e (Dq n fun c hc=>h c (by omega))
  rcases bG c n with d|d
  ·exact MI n (fun c hc=>h c (by omega)) f c d
  ·have:c=n:=by omega
   subst this;cases h1:g c<;>cases h2:a c<;>rw[h1,h2]at b<;>simp at b⊢
   exact b
theorem xi:∀{l l':List Pr},cx l→cx l'→(∀p,p∈l↔p∈l')→l=l'
 | [],[],_,_,_=>rfl
 | [],q::l',_,_,h=>absurd ((h q).2 (av ..)) (by simp)
 |p::l,[],_,_,h=>absurd ((h p).1 (av ..)) (by simp)
 |p::l,q::l',c,a,h=>by
  have c:=ba.1 c;have a:=ba.1 a;have e:p=q:=by
   rcases aw.1 ((h p).1 (av ..))with e|d
   ·exact e
   ·rcases aw.1 ((h q).2 (av ..))with e|f
    ·exact e.symm
    ·exact absurd (iB (c.1 q f) (a.1 p d)) (cD _)
  subst e;rw[xi c.2 a.2 fun z=>?_]
  constructor
  ·intro hz
   rcases aw.1 ((h z).1 (aL _ hz))with e|b
   ·exact absurd (c.1 z hz) (by rw[e];exact cD _)
   ·exact b
  ·intro hz
   rcases aw.1 ((h z).2 (aL _ hz))with e|b
   ·exact absurd (a.1 z hz) (by rw[e];exact cD _)
   ·exact b
theorem Q0{x:Hs}{lev:Nat}{l l':List Pr}(g:cx l)(a:cx l')(h:∀c,c<32→part x lev c l=part x lev c l'):l=l':=by
 refine xi g a fun p=>?_
 have e:=h (ck x lev p.1) (x8 ..);have b:=kU (x:=x) (lev:=lev) (c:=ck x lev p.1) (l:=l) (p:=p);have f:=kU (x:=x) (lev:=lev) (c:=ck x lev p.1) (l:=l') (p:=p);rw[e]at b;constructor
 ·intro d;exact(f.1 (b.2 ⟨d,rfl⟩)).1
 ·intro d;exact(b.1 (f.2 ⟨d,rfl⟩)).1
theorem O1{q q':List Pr}(f:gL q=gL q')(e:eL q=eL q'):q=q':=by
 match q,q' with
 | [],[]=>rfl
 | [a],[b]=>simp[gL]at f;rw[f]
 | [],[b]=>simp[gL]at f
 | [a],[]=>simp[gL]at f
 | [],b::c::q'=>simp[eL]at e
 | [a],b::c::q'=>simp[eL]at e
 |b::c::q',[]=>simp[eL]at e
 |b::c::q',[a]=>simp[eL]at e
 |a::b::q,c::d::q'=>simpa[eL]using e
theorem Kv{f:List Pr→List UInt8}:∀{ls ls':List (List Pr)} {r r':List UInt8},ls.length=ls'.length→(∀L∈ls,∀L'∈ls',∀r r',f L++r=f L'++r'→L=L'∧r=r')→ls.flatMap f++r=ls'.flatMap f++r'→ls=ls'∧r=r'
 | [],[],_,_,_,_,h=>⟨rfl,h⟩
 | [],_::_,_,_,e,_,_=>by simp at e
 |_::_,[],_,_,e,_,_=>by simp at e
 |L::ls,L'::ls',r,r',e,hf,h=>by
  rw[aR,aR,au,au]at h;obtain⟨a,h⟩:=hf L (av ..) L' (av ..) _ _ h;obtain⟨c,h⟩:=Kv (by simpa using e) (fun A d B b=>hf A (aL _ d) B (aL _ b)) h
  exact⟨by rw[a,c],h⟩
theorem DT{x:Hs}:∀(m:Nat) {l l':List Pr} {r a:List UInt8},Fit l→Fit l'→l.length≤60000→l'.length≤60000→cx l→cx l'→fC x m l++r=fC x m l'++a→l=l'∧r=a
 |0,l,l',r,a,hf,hf',hn,hn',_,_,h=>by
  unfold fC at h;rw[dN,dN,au,au]at h;obtain⟨e,h⟩:=ux (k:=2) (by omega) (by omega) (eO.inj h).2;exact yH hf hf' e h
 |m+1,l,l',r,a,hf,hf',hn,hn',hr,hr',h=>by
  unfold fC at h;simp only[dN,au]at h;obtain⟨b1,h⟩:=ux (k:=4) (mo _ 32) (mo _ 32) (eO.inj h).2;obtain⟨b2,h⟩:=ux (k:=4) (mo _ 32) (mo _ 32) h;have bits:∀{q q':Nat→Bool},i7 q 32=i7 q' 32→∀c,c<32→q c=q' c:=fun{q q'} e c hc=>by
   have:=congrArg (fun n=>n.testBit c) e
   simp only[BQ,decide_eq_true hc,un]at this;exact this
  have b1:=bits b1;have b2:=bits b2;obtain⟨f,h⟩:=yH (fun p b=>hf p (pI b)) (fun p b=>hf' p (pI b)) (Dq 32 b1) h
  obtain⟨i,h⟩:=Kv (Dq 32 b2) (fun L g L' d r a e=>by
   obtain⟨_,c,rfl⟩:=mE g
   obtain⟨_,c',rfl⟩:=mE d
   exact DT m hf.part hf'.part (aX jX hn) (aX jX hn') (rE hr) (rE hr') e) h
  have j:=MI 32 b1 f;have o:=MI 32 b2 i;exact⟨Q0 hr hr' fun c hc=>O1 (j c hc) (o c hc),h⟩
end Go.Proofs
namespace Go.Proofs
open Go Go.Lift
def xf(lab:ByteArray)(has:Bool)(val:ByteArray)(s:SliceV)(ow:Option Addr):Array Value:= #[.string lab,.bool has,.string val,sv s,.pointer ow]
theorem vw{w:Option ByteArray}{val:ByteArray}(h:val=w.getD ⟨#[]⟩):∀v,w=some v→val=v:=fun v e=>by rw[h,e];rfl
def RxF(W:Nat→Prop)(h:ae):Fo→List (Option Addr)→Prop
 | .nil,ks=>ks= []
 | .cons lab w kids rest,ks=>∃b sl val s ow ks1 ks',ks=some ⟨b,0,none⟩::ks'∧sl.data.toList=lab∧h[b]? =some (.cells (xf sl w.isSome val s ow) bC (0,0))∧val=w.getD ⟨#[]⟩∧Sl lY 1 W h s ks1∧(s.len≤s.cap∧¬W b∧OwOk W h ow)∧RxF W h kids ks1∧RxF W h rest ks'
def RxN(W:Nat→Prop)(h:ae)(b:Nat)(sl:ByteArray)(w:Option ByteArray)(F:Fo):Prop:=∃val s ow ks,h[b]? =some (.cells (xf sl w.isSome val s ow) bC (0,0))∧val=w.getD ⟨#[]⟩∧Sl lY 1 W h s ks∧(s.len≤s.cap∧¬W b∧OwOk W h ow)∧RxF W h F ks
def Kid(W:Nat→Prop)(h:ae)(k:Option Addr)(n:Bn):Prop:=∃b sl,k=some ⟨b,0,none⟩∧sl.data.toList=n.1∧RxN W h b sl n.2.1 n.2.2
def RxL(W:Nat→Prop)(h:ae)(ks:List (Option Addr))(L:List Bn):Prop:=ks.length=L.length∧∀p∈ks.zip L,Kid W h p.1 p.2
theorem rc{W:Nat→Prop}{h:ae}:∀{F:Fo} {ks:List (Option Addr)},RxF W h F ks↔RxL W h ks F.toL
 | .nil,ks=>by
  unfold RxF RxL;simp[Fo.toL]
 | .cons lab w kids rest,ks=>by
  unfold RxF RxL;rw[Fo.toL_cons];constructor
  ·rintro⟨b,sl,val,s,ow,c,d,rfl,f,i,n,j,g,m,q⟩
   obtain⟨t,v⟩:=rc.1 q;refine⟨by simp[t],fun p a=>?_⟩
   rw[f8]at a;rcases aw.1 a with rfl|a
   ·exact⟨b,sl,rfl,f,val,s,ow,c,i,n,j,g,m⟩
   ·exact v p a
  ·cases ks with
   |nil=>rintro⟨e,_⟩;simp at e
   |cons k d=>
    rintro⟨e,a⟩;rw[f8]at a;obtain⟨b,sl,u,f,val,s,ow,c,i,n,j,g,m⟩:=a _ (av ..);refine⟨b,sl,val,s,ow,c,d,by rw[←u],f,i,n,j,g,m,rc.2 ⟨by simpa using e,fun p o=>a p (aL _ o)⟩⟩
theorem RxF.upd0{W:Nat→Prop}{h a:ae}(k:Upd No h a):∀{F:Fo} {ks:List (Option Addr)},RxF W h F ks→RxF W a F ks
 | .nil,_,r=>r
 | .cons _ _ _ _,_,⟨b,sl,val,s,ow,ks1,ks',e0,e1,e2,e3,e4,e5,e6,e7⟩=>⟨b,sl,val,s,ow,ks1,ks',e0,e1,k.get0 e2,e3,e4.upd k fun _ h=>h.elim,⟨e5.1,e5.2.1,e5.2.2.upd k fun _ h=>h.elim⟩,RxF.upd0 k e6,RxF.upd0 k e7⟩
theorem RxN.upd0{W:Nat→Prop}{h a:ae}(k:Upd No h a){b:Nat}{sl:ByteArray}{w:Option ByteArray}{F:Fo}:RxN W h b sl w F→RxN W a b sl w F
 |⟨val,s,ow,ks,e2,e3,e4,e5,e6⟩=>⟨val,s,ow,ks,k.get0 e2,e3,e4.upd k fun _ h=>h.elim,⟨e5.1,e5.2.1,e5.2.2.upd k fun _ h=>h.elim⟩,RxF.upd0 k e6⟩
theorem Kid.upd0{W:Nat→Prop}{h c:ae}(k:Upd No h c){a:Option Addr}{n:Bn}:Kid W h a n→Kid W c a n
 |⟨b,sl,e1,e2,e3⟩=>⟨b,sl,e1,e2,e3.upd0 k⟩
theorem RxF.less{W W':Nat→Prop}{h:ae}(hm:∀b,W' b→W b∨h.size≤b):∀{F:Fo} {ks:List (Option Addr)},RxF W h F ks→RxF W' h F ks
 | .nil,_,r=>r
 | .cons _ _ _ _,_,⟨b,sl,val,s,ow,ks1,ks',e0,e1,e2,e3,e4,e5,e6,e7⟩=>⟨b,sl,val,s,ow,ks1,ks',e0,e1,e2,e3,e4.less hm,⟨e5.1,fun hx=>(hm _ hx).elim e5.2.1 fun h=>by have:=aN e2;omega,e5.2.2.less hm⟩,RxF.less hm e6,RxF.less hm e7⟩
theorem RxN.less{W W':Nat→Prop}{h:ae}(hm:∀b,W' b→W b∨h.size≤b){b:Nat}{sl:ByteArray}{w:Option ByteArray}{F:Fo}:RxN W h b sl w F→RxN W' h b sl w F
 |⟨val,s,ow,ks,e2,e3,e4,e5,e6⟩=>⟨val,s,ow,ks,e2,e3,e4.less hm,⟨e5.1,fun hx=>(hm _ hx).elim e5.2.1 fun h=>by have:=aN e2;omega,e5.2.2.less hm⟩,RxF.less hm e6⟩
theorem RxF.updM{W M:Nat→Prop}{h a:ae}(k:Upd M h a)(hm:∀b,M b→W b∨h.size≤b):∀{F:Fo} {ks:List (Option Addr)},RxF W h F ks→RxF W a F ks
 | .nil,_,r=>r
 | .cons _ _ _ _,_,⟨b,sl,val,s,ow,ks1,ks',e0,e1,e2,e3,e4,e5,e6,e7⟩=>⟨b,sl,val,s,ow,ks1,ks',e0,e1,k.get e2 (fun hx=>(hm _ hx).elim e5.2.1 fun h=>by have:=aN e2;omega),e3,e4.upd k hm,⟨e5.1,e5.2.1,e5.2.2.upd k hm⟩,RxF.updM k hm e6,RxF.updM k hm e7⟩
theorem RxN.updM{W M:Nat→Prop}{h a:ae}(k:Upd M h a)(hm:∀b,M b→W b∨h.size≤b){b:Nat}{sl:ByteArray}{w:Option ByteArray}{F:Fo}:RxN W h b sl w F→RxN W a b sl w F
 |⟨val,s,ow,ks,e2,e3,e4,e5,e6⟩=>⟨val,s,ow,ks,k.get e2 (fun hx=>(hm _ hx).elim e5.2.1 fun h=>by have:=aN e2;omega),e3,e4.upd k hm,⟨e5.1,e5.2.1,e5.2.2.upd k hm⟩,RxF.updM k hm e6⟩
theorem RxL.upd0{W:Nat→Prop}{h a:ae}(k:Upd No h a){ks:List (Option Addr)}{L:List Bn}(r:RxL W h ks L):RxL W a ks L:=⟨r.1,fun p b=>(r.2 p b).upd0 k⟩
theorem RxL.app{W:Nat→Prop}{h:ae}{ks b:List (Option Addr)}{L L':List Bn}(r:RxL W h ks L)(c:RxL W h b L'):RxL W h (ks++b) (L++L'):=by
 refine⟨by rw[ad,ad,r.1,c.1],fun p a=>?_⟩
 rw[List.zip_append r.1]at a;rcases List.mem_append.1 a with a|a
 ·exact r.2 p a
 ·exact c.2 p a
theorem RxL.one{W:Nat→Prop}{h:ae}{k:Option Addr}{n:Bn}(c:Kid W h k n):RxL W h [k] [n]:=⟨rfl,fun p a=>by rw[f8,List.zip_nil_left]at a;rw[aq.1 a];exact c⟩
theorem RxL.take{W:Nat→Prop}{h:ae}{ks:List (Option Addr)}{L:List Bn}(r:RxL W h ks L)(i:Nat):RxL W h (ks.take i) (L.take i):=by
 refine⟨by rw[aD,aD,r.1],fun p a=>r.2 p ?_⟩
 have:(ks.take i).zip (L.take i)=(ks.zip L).take i:=by rw[m7,m7,List.take_zipWith]
 rw[this]at a;exact hP a
theorem RxL.drop{W:Nat→Prop}{h:ae}{ks:List (Option Addr)}{L:List Bn}(r:RxL W h ks L)(i:Nat):RxL W h (ks.drop i) (L.drop i):=by
 refine⟨by rw[aO,aO,r.1],fun p a=>r.2 p ?_⟩
 have:(ks.drop i).zip (L.drop i)=(ks.zip L).drop i:=by rw[m7,m7,List.drop_zipWith]
 rw[this]at a;exact List.mem_of_mem_drop a
theorem RxL.ins{W:Nat→Prop}{h:ae}{ks:List (Option Addr)}{L:List Bn}(r:RxL W h ks L)(i:Nat){k:Option Addr}{n:Bn}(c:Kid W h k n):RxL W h (ks.take i++k::ks.drop i) (L.take i++n::L.drop i):=by
 have:=(r.take i).app ((RxL.one c).app (r.drop i));exact this
theorem RxL.set{W:Nat→Prop}{h:ae}{ks:List (Option Addr)}{L:List Bn}(r:RxL W h ks L){i:Nat}(hi:i<L.length){k:Option Addr}{n:Bn}(c:Kid W h k n):RxL W h (ks.set i k) (L.set i n):=by
 have:=(r.take i).app ((RxL.one c).app (r.drop (i+1)));rw[dI,dI,if_pos (by rw[r.1];exact hi),if_pos hi];exact this
theorem RxL.at{W:Nat→Prop}{h:ae}{ks:List (Option Addr)}{L:List Bn}(r:RxL W h ks L){i:Nat}(hi:i<L.length):∃b sl,ks[i]? =some (some ⟨b,0,none⟩)∧sl.data.toList=L[i].1∧RxN W h b sl L[i].2.1 L[i].2.2:=by
 have e:i<ks.length:=by rw[r.1];exact hi
 have hz:i<(ks.zip L).length:=by rw[List.length_zip];omega
 have:=r.2 _ (aU hz);rw[List.getElem_zip]at this;obtain⟨b,sl,a,d,c⟩:=this;exact⟨b,sl,by rw[af e];exact congrArg some a,d,c⟩
theorem Bq:∀{L:List Bn} {c:Nat},L.Pairwise (fun m n=>hd m.1<hd n.1)→(∀n∈L,c≤hd n.1)→L= []∨c+L.length≤256
 | [],_,_,_=>.inl rfl
 |n::L,c,a,hc=>by
  have a:=ba.1 a;have b:=hc n (av ..);have d:=Uq n.1;rcases Bq (c:=hd n.1+1) a.2 fun m hm=>a.1 m hm with e|e
  ·rw[e];right;simp only[aE];omega
  ·right;rw[az];omega
theorem jA{F:Fo}(h:fG F):F.toL.length≤256:=by
 rcases Bq (c:=0) (eN.1 h).1 fun _ _=>aS _ with e|e
 ·rw[e];simp
 ·omega
theorem dE{h:ae}{b i:Nat}{c:Array Value}(a:h[b]? =some (.cells c bC (0,0))):aJ h (adr ⟨b,0,none⟩ i)=c[i]?:=by rw[bV,aI];exact bl a
theorem QI{h:ae}{b i:Nat}{c:Array Value}(a:h[b]? =some (.cells c bC (0,0))) (hi:i<c.size):Wr h (adr ⟨b,0,none⟩ i):=by rw[bV,aI];exact iX a hi
theorem D3{h:ae}{b i:Nat}{c c':Array Value}{v:Value}{k:ae→Prop}(g:h[b]? =some (.cells c bC (0,0))) (e:c.setIfInBounds i v=c') (j:∀a,a[b]? =some (.cells c' bC (0,0))→Upd (· =b) h a→k a):At (hset h (adr ⟨b,0,none⟩ i) v) k:=by
 rw[bV,aI];exact vB g fun a d f=>j a (e▸d) f
theorem Ks(s:ByteArray)(i:Nat):s[i]? =s.data.toList[i]?:=by
 rw[Array.getElem?_toList];by_cases h:i<s.size
 ·rw[getElem?_pos s i h,getElem?_pos s.data i h];rfl
 ·rw[getElem?_neg s i h,getElem?_neg s.data i h]
theorem Eu{s:ByteArray}(a:s.data.toList≠[]):∃c:UInt8,s[0]? =some c∧c.toNat=hd s.data.toList:=by
 rw[Ks];match s.data.toList,a with
 |c::l,_=>exact⟨c,rfl,rfl⟩
theorem Gu{W:Nat→Prop}{h:ae}{b:Nat}{sl:ByteArray}{w:Option ByteArray}{F:Fo}(r:RxN W h b sl w F)(hc:fG F){c:Nat}(hc8:c<256){K:Int×Bool→ae→Prop}
  (G:∀i ok,i≤F.toL.length→(∀j (p:j<F.toL.length),j<i→hd F.toL[j].1<c)→(∀j (p:j<F.toL.length),i≤j→c≤hd F.toL[j].1)→(ok=true↔∃hi:i<F.toL.length,hd F.toL[i].1=c)→K ((i:Int),ok) h):HC PG lG [.pointer (some ⟨b,0,none⟩),.int .u8 c] [.c (.int .i64),.c .bool] K h:=by
 refine AE _ c ?_;unfold tq bD;obtain⟨val,s,ow,ks,hb,_,hs,hcap,hF⟩:=r;refine⟨_,rfl,s,dE (i:=3) hb,?_⟩;have H:=rc.1 hF;have e:=eN.1 hc;have hn:=jA hc;have y:=hs.len;rw[H.1]at y;generalize hLe:F.toL=L at H e hn y G;refine gV s c _ ?_;unfold ee bR cQ wd Hv
 have E:∀{i:Nat} (hi:i<L.length) {K:Int→ae→Prop},K ((hd L[i].1:Int)-(c:Int)) h→∃a,s.a=some a∧∃v,aJ h (adr a (i*1))=some (.pointer v)∧HV PG (.func (.func m3) #[] #[]) [.pointer v,.int .u8 c] [.c (.int .i64)] K h:=by
  intro i hi K G;obtain⟨kb,D,N,C,R⟩:=H.at hi;obtain⟨a,ha,_,hv⟩:=hs.at0 N;refine⟨a,ha,_,hv,HV.mk' (xJ (some ⟨kb,0,none⟩) c ?_)⟩;unfold qY aY;obtain⟨T,kss,kow,kks,Q,_⟩:=R;have M:D.data.toList≠[]:=by rw[C];exact(e.2 _ (aU hi)).1
  obtain⟨u,hu,S⟩:=Eu M;refine⟨_,rfl,D,dE (i:=0) Q,u,Int.le_refl _,hu,?_⟩;simp only[Bd];have f:=Uq L[i].1;rw[S,C,ji (x:=(hd L[i].1:Int)) (by omega),ji (x:=(c:Int)) (by omega),ji (by omega)];exact G
 have mono:∀i j (hi:i<L.length) (p:j<L.length),i<j→hd L[i].1<hd L[j].1:=fun i j hi p d=>List.pairwise_iff_getElem.1 e.1 i j hi p d
 refine LoopP.ghost (fun(g:Nat×Nat) (t:Int×Int) V=>t.1=(g.1:Int)∧t.2=(g.2:Int)∧g.1≤g.2∧g.2≤L.length∧V=h∧(∀j (p:j<L.length),j<g.1→hd L[j].1<c)∧(∀j (p:j<L.length),g.2≤j→c≤hd L[j].1)) (fun g=>g.2-g.1) (0,L.length)
  ⟨rfl,by simp only;omega,by simp,by simp,rfl,fun j p h=>by omega,fun j p h=>by simp only at h;omega⟩ ?_
 rintro I ⟨i,j⟩ ⟨ti,tj⟩ V ⟨e1,Z,d,k,rfl,n,o⟩ U;simp only at e1 Z d k n o;subst e1 Z;refine aB (fun f=>?_) fun P=>?_
 ·have f:i<j:=by have:(i:Int)<(j:Int):=f;omega
  have em:IntKind.wrap .i64 (Int.fdiv (IntKind.wrap .u64 (IntKind.wrap .i64 ((i:Int)+(j:Int)))) (2^(min (1:Int).toNat (IntKind.bits .u64))))=(((i+j)/2:Nat):Int):=by
   have e3:(2^(min (1:Int).toNat (IntKind.bits .u64)):Int)=2:=rfl;rw[e3,ji (x:=(i:Int)+(j:Int)) (by omega),Go.IntWalk.u64_in _ (by omega),Int.fdiv_eq_ediv_of_nonneg _ (by omega),ji (by omega)];omega
  refine⟨by decide,?_⟩;simp only[Bd];rw[em];generalize hm:(i+j)/2=m;have B:m<L.length:=by omega
  refine⟨by omega,?_⟩;refine E B ?_;refine aB (fun X=>?_) fun Y=>?_
  ·refine U (m+1,j) _ _ ⟨by simp only;rw[ji (by omega)];omega,rfl,by simp only;omega,k,rfl,fun q O A=>?_,o⟩ (by simp only;omega)
   simp only at A;rcases bG q m with h|h
   ·have:=mono q m O B h;omega
   ·have:q=m:=by omega
    subst this;omega
  ·refine U (i,m) _ _ ⟨rfl,rfl,by simp only;omega,by simp only;omega,rfl,n,fun q O A=>?_⟩ (by simp only;omega)
   simp only at A;rcases bG m q with h|h
   ·have:=mono m q B O h;omega
   ·have:q=m:=by omega
    subst this;omega
 ·have d:i=j:=by have:¬(i:Int)<(j:Int):=P;omega
  subst d;refine aB (fun f=>?_) fun J=>?_
  ·have z:i<L.length:=by have:(i:Int)<(s.len:Int):=f;omega
   refine⟨by simp only;omega,?_⟩;refine E z ?_;refine G i _ k n o ?_;rw[beq_iff_eq];exact⟨fun h=>⟨z,by omega⟩,fun⟨_,h⟩=>by omega⟩
  ·have z:i=L.length:=by have:¬(i:Int)<(s.len:Int):=J;omega
   exact G i false k n o ⟨fun h=>(by cases h),fun h=>(by obtain⟨h,_⟩:=h;omega)⟩
end Go.Proofs
namespace Go.Proofs
open Go Go.Lift
abbrev Uj:List Value:= [.string (⟨#[]⟩:ByteArray),.bool false,.string (⟨#[]⟩:ByteArray),.slice none 0 0,.pointer none]
theorem vd{h:ae}{b:Nat}{sl nl:ByteArray}{has:Bool}{val:ByteArray}{s:SliceV}{ow:Option Addr}(a:h[b]? =some (.cells (xf sl has val s ow) bC (0,0))) {K:Option Addr→ae→Prop}
  (c:∀h',h'[b]? =some (.cells (xf nl has val s ow) bC (0,0))→Upd (· =b) h h'→K (some ⟨b,0,none⟩) h'):HC PG gS [.pointer (some ⟨b,0,none⟩),.string nl] [.c .ptr] K h:=by
 refine zg _ nl ?_;unfold rZ cY;exact⟨_,rfl,QI (i:=0) a (show 0<5 by decide),D3 (i:=0) (c':=xf nl has val s ow) a rfl c⟩
theorem sC{h:ae}{b:Nat}{sl v:ByteArray}{has:Bool}{val:ByteArray}{s:SliceV}{ow:Option Addr}(d:h[b]? =some (.cells (xf sl has val s ow) bC (0,0))) {K:Option Addr→ae→Prop}
  (f:∀h',h'[b]? =some (.cells (xf sl true v s ow) bC (0,0))→Upd (· =b) h h'→K (some ⟨b,0,none⟩) h'):HC PG gz [.pointer (some ⟨b,0,none⟩),.string v] [.c .ptr] K h:=by
 refine xH _ v ?_;unfold qW cY;exact⟨_,rfl,QI (i:=1) d (show 1<5 by decide),D3 (i:=1) (c':=xf sl true val s ow) d rfl fun g b1 a=>⟨_,rfl,QI (i:=2) b1 (show 2<5 by decide),D3 (i:=2) (c':=xf sl true v s ow) b1 rfl fun e b2 c=>f e b2 (a.tr c)⟩⟩
theorem Al(s:ByteArray)(c:Nat):(s.extract 0 c).data.toList=s.data.toList.take c:=by
 rw[pq,Array.toList_extract,gJ];simp
theorem Am(s:ByteArray)(c:Nat):(s.extract c s.size).data.toList=s.data.toList.drop c:=by
 rw[pq,Array.toList_extract,gJ,List.take_of_length_le];rw[aO];simp
end Go.Proofs
namespace Go.Proofs
open Go Go.Lift
theorem G6:∀{x y:List UInt8} {i:Nat},i≤x.length→i≤y.length→(∀j,j<i→x[j]? =y[j]?)→(i=x.length∨i=y.length∨x[i]?≠y[i]?)→cm x y=i
 | [],_,i,h1,_,_,_=>by simp at h1;simp[cm,h1]
 |_::_,[],i,_,h2,_,_=>by simp at h2;simp[cm,h2]
 |a::x,b::y,0,_,_,_,h=>by
  unfold cm;rw[if_neg];rintro rfl;rcases h with h|h|h<;>simp at h
 |a::x,b::y,i+1,h1,h2,h3,h4=>by
  have:=h3 0 (by omega);simp only[cf,bA.injEq]at this;unfold cm;rw[if_pos this,G6 (i:=i) (by simpa using h1) (by simpa using h2) (fun j c=>by simpa using h3 (j+1) (by omega)) (by simpa using h4)]
theorem PE{a b:ByteArray}(A:a.size≤1000000){h:ae}{K:Int→ae→Prop}(n:K (cm a.data.toList b.data.toList:Nat) h):HC PG tX [.string a,.string b] [.c (.int .i64)] K h:=by
 refine FU a b ?_;unfold yc;simp only[Bd];have m:(if(b.size:Int)<(a.size:Int)then(b.size:Int)else(a.size:Int))=((min a.size b.size:Nat):Int):=by split<;>omega
 rw[m];have B:a.data.toList.length=a.size:=by simp
 have z:b.data.toList.length=b.size:=by simp
 refine LoopP.ghost (fun(i:Nat) (t:Int) s=>t=(i:Int)∧i≤min a.size b.size∧s=h∧∀j,j<i→a.data.toList[j]? =b.data.toList[j]?) (fun i=>min a.size b.size-i) 0 ⟨rfl,aS _,rfl,fun j q=>absurd q (is _)⟩ ?_
 rintro I i t s ⟨rfl,hi,rfl,o⟩ x;refine aB (fun d=>?_) fun y=>?_
 ·have d:i<min a.size b.size:=by omega
  have k:i<a.size:=by omega
  have g:i<b.size:=by omega
  refine⟨a[i],by omega,by rw[aM,getElem?_pos a i k],b[i],by omega,by rw[aM,getElem?_pos b i g],?_⟩
  have w:a.data.toList[i]? =some a[i]:=by rw[←Ks,getElem?_pos a i k]
  have v:b.data.toList[i]? =some b[i]:=by rw[←Ks,getElem?_pos b i g]
  refine CondP.intro (fun f=>?_) fun c=>?_
  ·rw[G6 (i:=i) (by omega) (by omega) o (.inr (.inr fun e=>?_))]at n
   ·exact n
   ·rw[w,v]at e
    rw[bA.inj e]at f;simp at f
  ·have c:a[i]=b[i]:=by
    have:((a[i].toNat:Int))=(b[i].toNat:Int):=by simpa using c
    exact UInt8.toNat_inj.1 (by omega)
   rw[cz d (by omega)];refine x (i+1) _ _ ⟨rfl,d,rfl,fun j q=>?_⟩ (by omega)
   rcases bG j i with u|u
   ·exact o j u
   ·have:j=i:=by omega
    subst this;rw[w,v,c]
 ·have p:i=min a.size b.size:=by omega
  rw[G6 (i:=i) (by omega) (by omega) o (by omega)]at n;rw[←p];exact n
theorem Pi{F:Fo}{i:Nat}{k:List UInt8}{v:ByteArray}(h:fG F)(hi:i<F.toL.length)(ek:hd F.toL[i].1=hd k)(a:ui (sy F.toL[i]) (sy F.toL[i]) k v):ui (pv F) (pv F) k v:=by
 have:=JN h hi ek a;rw[List.set_getElem_self,Fo.of_to]at this;exact this
theorem QT{P Q a:List UInt8→ByteArray→Prop}{k:List UInt8}{v:ByteArray}(h:ui P a k v)(e:∀k v,P k v↔Q k v):ui Q a k v:=fun k' b=>by rw[h k' b,e]
end Go.Proofs
namespace Go.Proofs
open Go Go.Lift
def Dj(S T:Nat→Prop):Prop:=∀y,S y→¬T y
def PD(Ts:List (Nat→Prop)):Prop:=∀(i j:Nat) (S T:Nat→Prop),i≠j→Ts[i]? =some S→Ts[j]? =some T→Dj S T
def FoO(o:Option Addr)(W:Nat→Prop)(h:ae):Fo→List (Option Addr)→List (Nat→Prop)→Prop
 | .nil,ks,Ts=>ks= []∧Ts= []
 | .cons lab w kids rest,ks,Ts=>∃(b:Nat) (sl:ByteArray) (ks':List (Option Addr)) (S:Nat→Prop) (Ts':List (Nat→Prop)),ks=some ⟨b,0,none⟩::ks'∧Ts=S::Ts'∧sl.data.toList=lab∧
  ((RxN W h b sl w kids∧∀y,¬S y)∨(o.isSome=true∧∃(val:ByteArray) (s:SliceV) (ks1:List (Option Addr)) (A:Nat→Prop) (Us:List (Nat→Prop)),h[b]? =some (.cells (xf sl w.isSome val s o) bC (0,0))∧val=w.getD ⟨#[]⟩∧OwnS lY 1 aW A h s ks1∧
   (∀y,A y→S y∧y≠b∧y<h.size)∧S b∧(∀U∈Us,∀y,U y→S y∧¬A y∧y≠b)∧PD Us∧FoO o W h kids ks1 Us))∧FoO o W h rest ks' Ts'
def RxO(o:Option Addr)(W:Nat→Prop)(h:ae)(b:Nat)(sl:ByteArray)(w:Option ByteArray)(F:Fo)(S:Nat→Prop):Prop:=
 (RxN W h b sl w F∧∀y,¬S y)∨(o.isSome=true∧∃(val:ByteArray) (s:SliceV) (ks1:List (Option Addr)) (A:Nat→Prop) (Us:List (Nat→Prop)),h[b]? =some (.cells (xf sl w.isSome val s o) bC (0,0))∧val=w.getD ⟨#[]⟩∧OwnS lY 1 aW A h s ks1∧
  (∀y,A y→S y∧y≠b∧y<h.size)∧S b∧(∀U∈Us,∀y,U y→S y∧¬A y∧y≠b)∧PD Us∧FoO o W h F ks1 Us)
theorem Rs{o:Option Addr}{W:Nat→Prop}{h:ae}{lab:List UInt8}{w:Option ByteArray}{a c:Fo}{ks:List (Option Addr)}{Ts:List (Nat→Prop)}:
 FoO o W h (.cons lab w a c) ks Ts↔∃b sl ks' S Ts',ks=some ⟨b,0,none⟩::ks'∧Ts=S::Ts'∧sl.data.toList=lab∧RxO o W h b sl w a S∧FoO o W h c ks' Ts':=Iff.rfl
def KidO(o:Option Addr)(W:Nat→Prop)(h:ae)(k:Option Addr)(n:Bn)(S:Nat→Prop):Prop:=∃b sl,k=some ⟨b,0,none⟩∧sl.data.toList=n.1∧RxO o W h b sl n.2.1 n.2.2 S
def LsO(o:Option Addr)(W:Nat→Prop)(h:ae)(ks:List (Option Addr))(L:List Bn)(Ts:List (Nat→Prop)):Prop:=ks.length=L.length∧Ts.length=L.length∧∀(i:Nat) (k:Option Addr) (n:Bn) (S:Nat→Prop),ks[i]? =some k→L[i]? =some n→Ts[i]? =some S→KidO o W h k n S
theorem Dp{o:Option Addr}{W:Nat→Prop}{h:ae}:∀{F:Fo} {ks:List (Option Addr)} {Ts:List (Nat→Prop)},FoO o W h F ks Ts↔LsO o W h ks F.toL Ts
 | .nil,ks,Ts=>by
  constructor
  ·rintro⟨rfl,rfl⟩;exact⟨rfl,rfl,fun i k n S h=>by simp at h⟩
  ·rintro⟨c,a,_⟩;exact⟨aF.1 c,aF.1 a⟩
 | .cons lab w kids rest,ks,Ts=>by
  rw[Rs,Fo.toL_cons];constructor
  ·rintro⟨b,sl,j,S,Ts',rfl,rfl,e,r,f⟩
   obtain⟨c,a,m⟩:=Dp.1 f;refine⟨by simp[c],by simp[a],fun i k n p ek g d=>?_⟩
   cases i with
   |zero=>
    simp only[cf,bA.injEq]at ek g d;subst ek g d;exact⟨b,sl,rfl,e,r⟩
   |succ i=>
    simp only[dG]at ek g d;exact m i k n p ek g d
  ·rintro⟨c,a,m⟩
   cases ks with
   |nil=>simp at c
   |cons k j=>
    cases Ts with
    |nil=>simp at a
    |cons S Ts'=>
     obtain⟨b,sl,s,q,r⟩:=m 0 k _ S rfl rfl rfl;exact⟨b,sl,j,S,Ts',by rw[s],rfl,q,r,Dp.2 ⟨by simpa using c,by simpa using a,fun i k n p ek g d=>m (i+1) k n p ek g d⟩⟩
theorem FoO.freeze{o:Option Addr}{W W':Nat→Prop}{h:ae}(j:∀y,W' y→W y)(g:OwOk W' h o):∀{F:Fo} {ks:List (Option Addr)} {Ts:List (Nat→Prop)},FoO o W h F ks Ts→(∀U∈Ts,∀y,U y→¬W' y)→RxF W' h F ks
 | .nil,_,_,f,_=>f.1
 | .cons lab w kids rest,ks,Ts,⟨b,sl,ks',S,Ts',e1,e2,e3,r,f⟩,hT=>by
  subst e1 e2;have n:=FoO.freeze j g f fun U d=>hT U (aL _ d)
  have m:=hT S (av ..);rcases r with⟨r,_⟩|⟨_,val,s,a,A,Us,x,hv,p,i,k,d,_,t⟩
  ·obtain⟨val,s,ow,a,u,q,B,v,z⟩:=RxN.less (fun y c=>.inl (j y c)) r
   exact⟨b,sl,val,s,ow,a,ks',rfl,e3,u,q,B,v,z,n⟩
  ·exact⟨b,sl,val,s,o,a,ks',rfl,e3,x,hv,p.sl fun y c _=>m y (i y c).1,⟨p.cap,m b k,g⟩,FoO.freeze j g t fun U e y c=>m y (d U e y c).1,n⟩
theorem RxO.freeze{o:Option Addr}{W W':Nat→Prop}{h:ae}(k:∀y,W' y→W y)(j:OwOk W' h o){b:Nat}{sl:ByteArray}{w:Option ByteArray}{F:Fo}{S:Nat→Prop}(r:RxO o W h b sl w F S)(g:∀y,S y→¬W' y):RxN W' h b sl w F:=by
 rcases r with⟨r,_⟩|⟨_,val,s,d,A,Us,p,hv,i,e,f,m,_,n⟩
 ·exact RxN.less (fun y a=>.inl (k y a)) r
 ·exact⟨val,s,o,d,p,hv,i.sl fun y a _=>g y (e y a).1,⟨i.cap,g b f,j⟩,FoO.freeze k j n fun U c y a=>g y (m U c y a).1⟩
theorem RxO.read{o w':Option Addr}{W S:Nat→Prop}{h:ae}{b:Nat}{sl:ByteArray}{w:Option ByteArray}{F:Fo}(r:RxO o W h b sl w F S)(t:By h w' o):RxN No h b sl w F:=
 r.freeze (fun _ h=>h.elim) (fun a e=>⟨id,t.plain a (t.tok e)⟩) fun _ _ h=>h
theorem RxO.off{W S:Nat→Prop}{h:ae}{b:Nat}{sl:ByteArray}{w:Option ByteArray}{F:Fo}(r:RxO none W h b sl w F S):RxN W h b sl w F∧∀y,¬S y:=r.elim id fun h=>absurd h.1 (by simp)
theorem FoO.upd{o:Option Addr}{W M:Nat→Prop}{h p:ae}(k:Upd M h p):∀{F:Fo} {ks:List (Option Addr)} {Ts:List (Nat→Prop)},FoO o W h F ks Ts→(∀U∈Ts,∀y,U y→y<h.size)→(∀y,M y→(W y∧∀U∈Ts,¬U y)∨h.size≤y)→FoO o W p F ks Ts
 | .nil,_,_,f,_,_=>f
 | .cons lab w kids rest,ks,Ts,⟨b,sl,ks',S,Ts',e1,e2,e3,r,f⟩,hT,hm=>by
  subst e1 e2;have n:=FoO.upd k f (fun U d=>hT U (aL _ d)) fun y a=>(hm y a).imp (fun h=>⟨h.1,fun U d=>h.2 U (aL _ d)⟩) id
  have t:=hT S (av ..);have i:∀y,M y→(W y∧¬S y)∨h.size≤y:=fun y a=>(hm y a).imp (fun h=>⟨h.1,h.2 S (av ..)⟩) id
  have q:∀y,S y→¬M y:=fun y a hM=>by
   have:=t y a;rcases i y hM with h|h
   ·exact h.2 a
   ·omega
  have z:=k.size;rcases r with⟨r,e⟩|⟨e,val,s,m,A,Us,B,hv,C,c,j,d,v,u⟩
  ·exact⟨b,sl,ks',S,Ts',rfl,rfl,e3,.inl ⟨RxN.updM k (fun y a=>(i y a).imp (fun h=>h.1) id) r,e⟩,n⟩
  ·exact⟨b,sl,ks',S,Ts',rfl,rfl,e3,.inr ⟨e,val,s,m,A,Us,k.get B (q b j),hv,C.upd k fun y a=>q y (c y a).1,fun y a=>⟨(c y a).1,(c y a).2.1,by have:=(c y a).2.2;omega⟩,j,d,v,FoO.upd k u (fun U g y a=>t y (d U g y a).1) fun y a=>(i y a).imp (fun h=>⟨h.1,fun U g x=>h.2 (d U g y x).1⟩) id⟩,n⟩
theorem RxO.upd{o:Option Addr}{W M:Nat→Prop}{h g:ae}(k:Upd M h g){b:Nat}{sl:ByteArray}{w:Option ByteArray}{F:Fo}{S:Nat→Prop}(r:RxO o W h b sl w F S)(n:∀y,S y→y<h.size)(hm:∀y,M y→(W y∧¬S y)∨h.size≤y):RxO o W g b sl w F S:=by
 have:=FoO.upd (F:=.cons sl.data.toList w F .nil) k (ks:= [some ⟨b,0,none⟩]) (Ts:= [S]) ⟨b,sl,[],S,[],rfl,rfl,rfl,r,rfl,rfl⟩ (fun U e=>by rw[aq.1 e];exact n) fun y m=>(hm y m).imp (fun h=>⟨h.1,fun U e=>by rw[aq.1 e];exact h.2⟩) id
 obtain⟨p,a,j,q,Ts',c,d,f,i,_⟩:=this;simp only[eO.injEq,bA.injEq,Addr.mk.injEq,and_true]at c d;obtain⟨c,_⟩:=c;obtain⟨d,_⟩:=d;subst c d;have f:a=sl:=by cases a;cases sl;exact congrArg kS (iW.1 f)
 subst f;exact i
theorem FoO.upd0{o:Option Addr}{W:Nat→Prop}{h i:ae}(k:Upd No h i):∀{F:Fo} {ks:List (Option Addr)} {Ts:List (Nat→Prop)},FoO o W h F ks Ts→FoO o W i F ks Ts
 | .nil,_,_,f=>f
 | .cons lab w kids rest,ks,Ts,⟨b,sl,ks',S,Ts',e1,e2,e3,r,f⟩=>by
  have z:=k.size;refine⟨b,sl,ks',S,Ts',e1,e2,e3,?_,FoO.upd0 k f⟩;rcases r with⟨r,e⟩|⟨e,val,s,d,A,Us,q,hv,p,a,g,j,n,m⟩
  ·exact .inl ⟨RxN.upd0 k r,e⟩
  ·exact .inr ⟨e,val,s,d,A,Us,k.get0 q,hv,p.upd k fun _ _ h=>h,fun y c=>⟨(a y c).1,(a y c).2.1,by have:=(a y c).2.2;omega⟩,g,j,n,FoO.upd0 k m⟩
theorem RxO.upd0{o:Option Addr}{W S:Nat→Prop}{h g:ae}(k:Upd No h g){b:Nat}{sl:ByteArray}{w:Option ByteArray}{F:Fo}(r:RxO o W h b sl w F S):RxO o W g b sl w F S:=by
 have z:=k.size;rcases r with⟨r,e⟩|⟨e,val,s,d,A,Us,p,hv,n,a,f,i,m,j⟩
 ·exact .inl ⟨RxN.upd0 k r,e⟩
 ·exact .inr ⟨e,val,s,d,A,Us,k.get0 p,hv,n.upd k fun _ _ h=>h,fun y c=>⟨(a y c).1,(a y c).2.1,by have:=(a y c).2.2;omega⟩,f,i,m,FoO.upd0 k j⟩
theorem FoO.less{o:Option Addr}{W W':Nat→Prop}{h:ae}(hm:∀y,W' y→W y∨h.size≤y):∀{F:Fo} {ks:List (Option Addr)} {Ts:List (Nat→Prop)},FoO o W h F ks Ts→FoO o W' h F ks Ts
 | .nil,_,_,f=>f
 | .cons lab w kids rest,ks,Ts,⟨b,sl,ks',S,Ts',e1,e2,e3,r,f⟩=>by
  refine⟨b,sl,ks',S,Ts',e1,e2,e3,?_,FoO.less hm f⟩;rcases r with⟨r,e⟩|⟨e,val,s,a,A,Us,m,hv,k,c,d,g,j,i⟩
  ·exact .inl ⟨RxN.less hm r,e⟩
  ·exact .inr ⟨e,val,s,a,A,Us,m,hv,k,c,d,g,j,FoO.less hm i⟩
theorem RxO.less{o:Option Addr}{W W' S:Nat→Prop}{h:ae}(hm:∀y,W' y→W y∨h.size≤y){b:Nat}{sl:ByteArray}{w:Option ByteArray}{F:Fo}(r:RxO o W h b sl w F S):RxO o W' h b sl w F S:=by
 rcases r with⟨r,e⟩|⟨e,val,s,a,A,Us,k,hv,j,c,d,f,i,g⟩
 ·exact .inl ⟨RxN.less hm r,e⟩
 ·exact .inr ⟨e,val,s,a,A,Us,k,hv,j,c,d,f,i,FoO.less hm g⟩
theorem KidO.upd{o:Option Addr}{W M:Nat→Prop}{h c:ae}(k:Upd M h c){a:Option Addr}{n:Bn}{S:Nat→Prop}(r:KidO o W h a n S)(f:∀y,S y→y<h.size)(hm:∀y,M y→(W y∧¬S y)∨h.size≤y):KidO o W c a n S:=let⟨b,sl,d,e,r⟩:=r;⟨b,sl,d,e,r.upd k f hm⟩
theorem KidO.less{o:Option Addr}{W W' S:Nat→Prop}{h:ae}(hm:∀y,W' y→W y∨h.size≤y){a:Option Addr}{n:Bn}(r:KidO o W h a n S):KidO o W' h a n S:=let⟨b,sl,c,d,r⟩:=r;⟨b,sl,c,d,r.less hm⟩
theorem U4{o:Option Addr}{W:Nat→Prop}{h:ae}{F:Fo}{ks:List (Option Addr)}(f:RxF W h F ks):LsO o W h ks F.toL (List.replicate F.toL.length No):=by
 have e:=rc.1 f;refine⟨e.1,by simp,fun i k n S ek c a=>?_⟩
 obtain⟨hi,c⟩:=List.getElem?_eq_some_iff.1 c;obtain⟨b,sl,d,g,r⟩:=e.at hi;rw[ek]at d;cases d;have a:S=No:=by
  rw[List.getElem?_replicate,if_pos hi]at a;exact(bA.inj a).symm
 subst a c;exact⟨b,sl,rfl,g,.inl ⟨r,fun _ h=>h⟩⟩
theorem RxO.view{o:Option Addr}{W S:Nat→Prop}{h:ae}{b:Nat}{sl:ByteArray}{w:Option ByteArray}{F:Fo}(r:RxO o W h b sl w F S):
  ∃(val:ByteArray) (s:SliceV) (ow:Option Addr) (ks:List (Option Addr)) (Us:List (Nat→Prop)),h[b]? =some (.cells (xf sl w.isSome val s ow) bC (0,0))∧val=w.getD ⟨#[]⟩∧Sl lY 1 No h s ks∧LsO o W h ks F.toL Us∧(∀U∈Us,∀y,U y→S y)∧PD Us∧
   ((OwOk W h ow∧(¬W b)∧Sl lY 1 W h s ks∧∀y,¬S y)∨(o.isSome=true∧ow=o∧∃A:Nat→Prop,OwnS lY 1 aW A h s ks∧(∀y,A y→S y∧y≠b∧y<h.size)∧S b∧∀U∈Us,∀y,U y→¬A y∧y≠b)):=by
 rcases r with⟨⟨val,s,ow,ks,v,t,p,m,z⟩,e⟩|⟨e,val,s,f,A,Us,B,hv,n,g,k,d,x,u⟩
 ·refine⟨val,s,ow,ks,_,v,t,p.less fun _ h=>h.elim,U4 z,fun U d y a=>?_,fun i j S T _ q C y a _=>?_,.inl ⟨m.2.2,m.2.1,p,e⟩⟩
  ·rw[List.eq_of_mem_replicate d]at a;exact a.elim
  ·rw[List.eq_of_mem_replicate (bK q)]at a;exact a.elim
 ·exact⟨val,s,o,f,Us,B,hv,n.sl fun _ _ _ h=>h,Dp.1 u,fun U c y a=>(d U c y a).1,x,.inr ⟨e,rfl,A,n,g,k,fun U c y a=>(d U c y a).2⟩⟩
def SR(o:Option Addr)(b:Nat)(A:Nat→Prop)(Us:List (Nat→Prop))(y:Nat):Prop:=o.isSome=true∧(y=b∨A y∨∃U∈Us,U y)
theorem wp{o:Option Addr}{W:Nat→Prop}{h:ae}{b:Nat}{sl val:ByteArray}{s:SliceV}{w:Option ByteArray}{F:Fo}{ks:List (Option Addr)}{A:Nat→Prop}{Us:List (Nat→Prop)}(u:h[b]? =some (.cells (xf sl w.isSome val s o) bC (0,0))) (hv:val=w.getD ⟨#[]⟩) (n:OwnS lY 1 aW A h s ks)
  (k:∀y,A y→y≠b∧y<h.size) (v:∀U∈Us,∀y,U y→¬A y∧y≠b) (m:PD Us) (g:LsO o W h ks F.toL Us) (C:o=none→(∀y,A y→¬W y)∧¬W b):RxO o W h b sl w F (SR o b A Us):=by
 cases o with
 |none=>
  obtain⟨B,z⟩:=C rfl;refine .inl ⟨⟨val,s,none,ks,u,hv,n.sl fun y c _=>B y c,⟨n.cap,z,lm⟩,rc.2 ⟨g.1,fun p m=>?_⟩⟩,fun y c=>by simp[SR]at c⟩
  obtain⟨i,hi,e⟩:=List.getElem_of_mem m;rw[List.length_zip]at hi;have q:i<ks.length:=by omega
  have d:i<F.toL.length:=by omega
  have j:i<Us.length:=by rw[g.2.1];exact d
  rw[List.getElem_zip]at e;subst e;obtain⟨E,t,x,D,r⟩:=g.2.2 i _ _ _ (af q) (af d) (af j);exact⟨E,t,x,D,r.off.1⟩
 |some a=>exact .inr ⟨rfl,val,s,ks,A,Us,u,hv,n,fun y c=>⟨⟨rfl,.inr (.inl c)⟩,k y c⟩,⟨rfl,.inl rfl⟩,fun U f y c=>⟨⟨rfl,.inr (.inr ⟨U,f,c⟩)⟩,v U f y c⟩,m,Dp.2 g⟩
end Go.Proofs
namespace Go.Proofs
open Go Go.Lift
theorem D0{h:ae}{w o:Option Addr}{b:Nat}{sl val:ByteArray}{has:Bool}{s:SliceV}{ow:Option Addr}(t:By h w o)(f:h[b]? =some (.cells (xf sl has val s ow) bC (0,0))) (e:∀a,ow=some a→eY h a) {K:Bool→ae→Prop} (c:K (o.isSome&&(ow==w)) h):
  HC PG nU [.pointer (some ⟨b,0,none⟩),.pointer w] [.c .bool] K h:=by
 refine zi _ w ?_;unfold r7 vN;refine ax.2 (Di t ?_);cases o with
 |none=>exact al.2 c
 |some a=>exact ax.2 ⟨_,rfl,ow,dE (i:=4) f,trivial,fun x y hx d=>⟨e x hx,t.plain y d⟩,c⟩
theorem ll{W S:Nat→Prop}{h:ae}{w o:Option Addr}{b:Nat}{sl val:ByteArray}{has:Bool}{s:SliceV}{ow:Option Addr}{ks:List (Option Addr)}{Us:List (Nat→Prop)}(t:By h w o)(hW:∀a,o=some a→W a.block)(g:h[b]? =some (.cells (xf sl has val s ow) bC (0,0))) (hn:ks.length≤256)
  (L:(OwOk W h ow∧Sl lY 1 No h s ks∧(∀U∈Us,∀y,U y→y<h.size))∨(o.isSome=true∧ow=o∧∃A:Nat→Prop,OwnS lY 1 aW A h s ks∧(∀y,A y→S y∧y≠b∧y<h.size)∧S b∧∀U∈Us,∀y,U y→¬A y∧y≠b)) {K:Option Addr→ae→Prop}
  (Y:∀h' b' s' A,h'[b']? =some (.cells (xf sl has val s' o) bC (0,0))→OwnS lY 1 aW A h' s' ks→(∀y,A y→(S y∨h.size≤y)∧y≠b'∧y<h'.size)→(S b'∨h.size≤b')→(∀U∈Us,∀y,U y→¬A y∧y≠b')→Upd No h h'→K (some ⟨b',0,none⟩) h'):
  HC PG dL [.pointer (some ⟨b,0,none⟩),.pointer w] [.c .ptr] K h:=by
 refine B0 _ w ?_;unfold uO aY nv vJ cY bD f9 Jc vN VQ;rcases L with⟨v,L,D⟩|⟨e,Q,A,Z,C,I,D⟩
 ·refine D0 t g (fun a e=>(v a e).2) ?_
  have N:(o.isSome&&(ow==w))=false:=by
   cases ho:o with
   |none=>rfl
   |some a=>
    have e:=t.tok ho;rw[Option.isSome_some,un,beq_eq_false_iff_ne];intro k;rw[e]at k;exact(v a k).1 (hW a ho)
  rw[N];refine al.2 ⟨_,rfl,sl,dE (i:=0) g,has,dE (i:=1) g,val,dE (i:=2) g,s,dE (i:=3) g,ow,dE (i:=4) g,bU ?_⟩;have k1:=Upd.hnew No h Uj bC;have b1:=cO h Uj bC;simp only[fE h];generalize hnew h [.string (⟨#[]⟩:ByteArray),.bool false,.string (⟨#[]⟩:ByteArray),.slice none 0 0,.pointer none] bC=h1 at k1 b1;refine cC (c:=Uj) (vs:= [.string sl,.bool has,.string val,.slice s.a s.len s.cap,.pointer ow]) b1 rfl fun M b2 R=>?_
  have E:Upd No h M:=k1.trans R fun x hx=>.inr (fH hx.symm)
  have hz2:h.size<M.size:=aN b2;have J:=E.get0 g;refine⟨_,rfl,s,dE (i:=3) J,?_⟩;refine G8 (L.upd E fun _ h=>h.elim) (by omega) fun B V O m=>?_
  have b3:V[h.size]? =some (.cells (xf sl has val s ow) bC (0,0)):=m.get0 b2;refine⟨QI (i:=3) b3 (show 3<5 by decide),D3 (i:=3) (c':=xf sl has val B ow) b3 rfl fun h4 X F=>?_⟩
  refine⟨QI (i:=4) X (show 4<5 by decide),D3 (i:=4) (c':=xf sl has val B none) X rfl fun T G P=>?_⟩
  have d:=F.tr P;have z3:=m.size;have z5:=d.size;have q:Upd No h T:=(E.tr m).trans d fun x hx=>.inr (fH hx.symm)
  have j:∀{p:ae},p[h.size]? =some (.cells (xf sl has val B o) bC (0,0))→Upd (· =h.size) T p→K (some ⟨h.size,0,none⟩) p:=fun{p} H f=>by
   have z6:=f.size;exact Y p h.size B (fun x=>M.size≤x∧x<V.size) H (O.within.upd (d.tr f) fun x hx e=>by have e:x=h.size:=e;have:=hx.1;omega) (fun y n=>⟨.inr (by omega),by omega,by omega⟩) (.inr (aj _)) (fun U u y n=>⟨fun h=>by have:=D U u y n;omega,by have:=D U u y n;omega⟩) (q.trans f fun x hx=>.inr (fH hx.symm))
  refine Di (t.upd0 q) ?_;cases ho:o with
  |none=>rw[ho]at j;exact al.2 (j G (Upd.refl _ _))
  |some a=>
   rw[ho]at j;rw[t.tok ho];exact ax.2 ⟨QI (i:=4) G (show 4<5 by decide),D3 (i:=4) (c':=xf sl has val B (some a)) G rfl fun p H f=>j H f⟩
 ·refine D0 t g (fun a k=>t.plain a (t.tok (by rw[←Q];exact k))) ?_
  have z:(o.isSome&&(ow==w))=true:=by
   obtain⟨a,k⟩:=Option.isSome_iff_exists.1 e;rw[e,Q,k,t.tok k];simp
  rw[z];subst Q;exact ax.2 (Y h b s A g Z (fun y n=>⟨.inl (C y n).1,(C y n).2⟩) (.inl I) D (Upd.refl _ _))
theorem JA{h:ae}{w o:Option Addr}{k v:ByteArray}(t:By h w o){K:Option Addr→ae→Prop}(u:∀h' b s A,h'[b]? =some (.cells (xf k true v s o) bC (0,0))→OwnS lY 1 aW A h' s []→(∀y,A y→h.size≤y∧y≠b∧y<h'.size)→h.size≤b→Upd No h h'→K (some ⟨b,0,none⟩) h'):HC PG tY [.pointer w,.string k,.string v] [.c .ptr] K h:=by
 refine F0 w k v ?_;unfold yh vJ tP Jc;have k1:=Upd.hnew No h Uj bC;have b1:=cO h Uj bC;refine bU ?_;simp only[fE h];generalize hnew h [.string (⟨#[]⟩:ByteArray),.bool false,.string (⟨#[]⟩:ByteArray),.slice none 0 0,.pointer none] bC=h1 at k1 b1;have F:=k1.size;refine ll (W:=fun y=>∃a,o=some a∧a.block=y) (S:=No) (Us:= []) (ks:= []) (sl:=⟨#[]⟩) (val:=⟨#[]⟩) (has:=false) (s:=⟨none,0,0⟩) (ow:=none) (t.upd0 k1) (fun a e=>⟨a,e,rfl⟩) b1 (aS _) (.inl ⟨lm,Sl.nil oC,fun U p=>by cases p⟩) fun E b2 s A q m d f _ g=>?_
 refine vd (nl:=k) q fun G b3 j=>sC (v:=v) b3 fun B z n=>?_
 have c:=j.tr n;have C:h1.size≤b2:=f.elim (fun h=>h.elim) id
 have D:=c.size;exact u B b2 s A z (m.upd c fun x hx e=>(d x hx).2.1 e) (fun y i=>⟨(d y i).1.elim (fun h=>h.elim) fun h=>by omega,(d y i).2.1,by have:=(d y i).2.2;omega⟩) (by omega) ((k1.tr g).trans c fun x hx=>.inr (by have hx:x=b2:=hx;omega))
theorem V8{o:Option Addr}{W:Nat→Prop}{h:ae}{b:Nat}{k v:ByteArray}{s:SliceV}{A:Nat→Prop}(c:h[b]? =some (.cells (xf k true v s o) bC (0,0))) (d:OwnS lY 1 aW A h s []) (a:∀y,A y→y≠b∧y<h.size) (nw:o=none→(∀y,A y→¬W y)∧¬W b):RxO o W h b k (some v) .nil (SR o b A []):=
 wp c rfl d a (fun _ h=>by cases h) (fun i j S T _ e=>by simp at e) ⟨rfl,rfl,fun i k n S e=>by simp at e⟩ nw
theorem LsO.ins{o:Option Addr}{W:Nat→Prop}{h:ae}{ks:List (Option Addr)}{L:List Bn}{Ts:List (Nat→Prop)}(r:LsO o W h ks L Ts){i:Nat}(hi:i≤L.length){k:Option Addr}{n:Bn}{S:Nat→Prop}(c:KidO o W h k n S):LsO o W h (ks.take i++k::ks.drop i) (L.take i++n::L.drop i) (Ts.take i++S::Ts.drop i):=by
 obtain⟨q,p,f⟩:=r;have g:∀{α:Type _} {xs:List α} {x:α} {j:Nat},i≤xs.length→(xs.take i++x::xs.drop i)[j]? =if j<i then xs[j]? else if j=i then some x else xs[j-1]?:=fun{α xs x j} s=>by
  split
  ·rename_i hj
   rw[bQ (by rw[aD];omega),oh,if_pos hj]
  ·rename_i hj
   rw[aQ (by rw[aD];omega),aD,bo s];split
   ·rename_i e;subst e;simp
   ·rename_i e
    have:j-i=(j-i-1)+1:=by omega
    rw[this,dG,ol];congr 1;omega
 refine⟨by simp[q],by simp[p],fun j k' d m ek b a=>?_⟩
 rw[g (by omega)]at ek b a;split at ek
 ·rename_i hj
  rw[if_pos hj]at b a;exact f j k' d m ek b a
 ·rename_i hj
  rw[if_neg hj]at b a;split at ek
  ·rename_i e
   rw[if_pos e]at b a;cases ek;cases b;cases a;exact c
  ·rename_i e
   rw[if_neg e]at b a;exact f (j-1) k' d m ek b a
theorem UX{Ts:List (Nat→Prop)}(f:PD Ts){i:Nat}(hi:i≤Ts.length){S:Nat→Prop}(k:∀U∈Ts,Dj S U):PD (Ts.take i++S::Ts.drop i):=by
 have g:∀{j:Nat},(Ts.take i++S::Ts.drop i)[j]? =if j<i then Ts[j]? else if j=i then some S else Ts[j-1]?:=fun{j}=>by
  split
  ·rename_i hj
   rw[bQ (by rw[aD];omega),oh,if_pos hj]
  ·rename_i hj
   rw[aQ (by rw[aD];omega),aD,bo hi];split
   ·rename_i e;subst e;simp
   ·rename_i e
    have:j-i=(j-i-1)+1:=by omega
    rw[this,dG,ol];congr 1;omega
 have dj:∀{A B:Nat→Prop},Dj A B→Dj B A:=fun h y o n=>h y n o
 intro a b A B m c d;rw[g]at c d;split at c<;>split at d
 ·exact f a b A B m c d
 ·rename_i h1 h2
  split at d
  ·cases d;exact dj (k A (bK c))
  ·exact f a (b-1) A B (by omega) c d
 ·rename_i h1 h2
  split at c
  ·cases c;exact k B (bK d)
  ·exact f (a-1) b A B (by omega) c d
 ·rename_i h1 h2
  split at c<;>split at d
  ·omega
  ·cases c;exact k B (bK d)
  ·cases d;exact dj (k A (bK c))
  ·exact f (a-1) (b-1) A B (by omega) c d
theorem QZ{Ts:List (Nat→Prop)}(k:PD Ts){i:Nat}{S:Nat→Prop}(f:∀j U,j≠i→Ts[j]? =some U→Dj S U):PD (Ts.set i S):=by
 have dj:∀{A B:Nat→Prop},Dj A B→Dj B A:=fun h y m g=>h y g m
 intro a b A B c e d;rw[fe]at e d;split at e<;>split at d
 ·omega
 ·rename_i h1 h2
  subst h1;split at e
  ·cases e;exact f b B (Ne.symm c) d
  ·cases e
 ·rename_i h1 h2
  subst h2;split at d
  ·cases d;exact dj (f a A c e)
  ·cases d
 ·exact k a b A B c e d
theorem LsO.set{o:Option Addr}{W:Nat→Prop}{h:ae}{ks:List (Option Addr)}{L:List Bn}{Ts:List (Nat→Prop)}(f:ks.length=L.length)(d:Ts.length=L.length){i:Nat}(m:∀(j:Nat) (k:Option Addr) (n:Bn) (S:Nat→Prop),j≠i→ks[j]? =some k→L[j]? =some n→Ts[j]? =some S→KidO o W h k n S) {k:Option Addr} {n:Bn} {S:Nat→Prop} (c:KidO o W h k n S):LsO o W h (ks.set i k) (L.set i n) (Ts.set i S):=by
 refine⟨by simp[f],by simp[d],fun j k' g p ek b a=>?_⟩
 rw[fe]at ek b a;by_cases e:i=j
 ·rw[if_pos e]at ek b a
  split at ek
  ·rename_i hj
   rw[if_pos (by omega)]at b a;cases ek;cases b;cases a;exact c
  ·cases ek
 ·rw[if_neg e]at ek b a
  exact m j k' g p (Ne.symm e) ek b a
end Go.Proofs
namespace Go.Proofs
open Go Go.Lift
theorem By.lt{h:ae}{w o:Option Addr}(t:By h w o){a:Addr}(e:w=some a):a.block<h.size:=by
 obtain⟨c,ty,b,_⟩:=t.plain a e;exact aN b
theorem LsO.move{o:Option Addr}{W W' M:Nat→Prop}{h c:ae}{ks:List (Option Addr)}{L:List Bn}{Us:List (Nat→Prop)}(r:LsO o W h ks L Us)(k:Upd M h c)(e:∀U∈Us,∀y,U y→y<h.size)(hm:∀y,M y→(W y∧∀U∈Us,¬U y)∨h.size≤y)(g:∀y,W' y→W y∨h.size≤y):LsO o W' c ks L Us:=by
 refine⟨r.1,r.2.1,fun i kk n S ek f b=>?_⟩
 have d:=bK b;exact(((r.2.2 i kk n S ek f b).less (W':=fun y=>W y∨h.size≤y) fun y a=>a).upd k (e S d) fun y a=>(hm y a).imp (fun h=>⟨.inl h.1,h.2 S d⟩) id).less fun y a=>.inl (g y a)
theorem y4{o:Option Addr}{S A:Nat→Prop}{Us:List (Nat→Prop)}{b z:Nat}{a:ae}(f:S b∨z≤b)(c:b<a.size)(g:∀y,A y→(S y∨z≤y)∧y<a.size)(e:∀U∈Us,∀y,U y→(S y∨z≤y)∧y<a.size){y:Nat}(i:SR o b A Us y):(S y∨z≤y)∧y<a.size:=by
 rcases i.2 with rfl|h|⟨U,d,h⟩
 ·exact⟨f,c⟩
 ·exact g y h
 ·exact e U d y h
set_option maxHeartbeats 1000000 in
theorem Jz{W S:Nat→Prop}{h:ae}{w' o:Option Addr}{b:Nat}{sl:ByteArray}{w:Option ByteArray}{F:Fo}(r:RxO o W h b sl w F S)(t:By h w' o)(hW:∀y,W y→y<h.size)(O:∀y,S y→W y)(hWo:∀a,o=some a→W a.block)(hn:F.toL.length≤256){c:Nat}(hc:c≤sl.size){K:Option Addr→ae→Prop}
  (hk:∀h' b' S',RxO o (fun y=>W y∨S' y) h' b' (sl.extract 0 c) none (.cons (sl.data.toList.drop c) w F .nil) S'→(∀y,S' y→(S y∨h.size≤y)∧y<h'.size)→Upd S h h'→K (some ⟨b',0,none⟩) h'):HC PG nT [.pointer (some ⟨b,0,none⟩),.pointer w',.int .i64 c] [.c .ptr] K h:=by
 refine zd _ w' c ?_;unfold rX aY vJ cY tP Jc;have hno:o=none→∀y,¬S y:=fun e=>by subst e;exact r.off.2
 obtain⟨val,s,ow,ks,Us,hb,hv,hs,hL,C,hPD,hown⟩:=r.view;have v:∀y,S y→y<h.size:=fun y d=>hW y (O y d)
 have lab:∀{h'},Upd No h h'→aJ h' (adr ⟨b,0,none⟩ 0)=some (.string sl):=fun k=>dE (i:=0) (k.get0 hb)
 have r0:=Upd.refl No h;refine⟨_,rfl,sl,lab r0,⟨by omega,by omega⟩,bU ?_⟩
 have k1:=Upd.hnew No h Uj bC;have b1:=cO h Uj bC;simp only[fE h];generalize hnew h [.string (⟨#[]⟩:ByteArray),.bool false,.string (⟨#[]⟩:ByteArray),.slice none 0 0,.pointer none] bC=h1 at k1 b1;have z1:=k1.size;refine⟨lab k1,?_⟩;refine ll (W:=W) (S:=No) (Us:= []) (ks:= []) (sl:=⟨#[]⟩) (val:=⟨#[]⟩) (has:=false) (s:=⟨none,0,0⟩) (ow:=none) (t.upd0 k1) hWo b1 (aS _) (.inl ⟨lm,Sl.nil oC,fun U q=>by cases q⟩) fun h2 u s2 A2 b2 _ _ Y _ hu2=>⟨lab (k1.tr hu2),?_⟩
 have Y:h1.size≤u:=Y.elim (fun h=>h.elim) id
 have hbu2:=aN b2;rw[aM];refine vd b2 fun h3 b3 hu3=>?_
 have Q:=k1.tr hu2;have f:Upd No h h3:=Q.trans hu3 fun x hx=>.inr (by have hx:x=u:=hx;omega)
 have z02:=Q.size;have z3:=hu3.size;have z03:=f.size;have t3:=t.upd0 f;refine ll (W:=W) (S:=S) (Us:=Us) (ks:=ks) (s:=s) (ow:=ow) (val:=val) (sl:=sl) (has:=w.isSome) t3 hWo (f.get0 hb) (by rw[hL.1];exact hn) ?_ fun h4 m s4 V L hA4 g hb4 hU4 J=>?_
 ·rcases hown with⟨how,_,_,hS0⟩|⟨e,eo,A,hA,M,hSbb,hUA⟩
  ·exact .inl ⟨how.upd f fun _ h=>h.elim,hs.upd f fun _ h=>h.elim,fun U q y d=>absurd (C U q y d) (hS0 y)⟩
  ·exact .inr ⟨e,eo,A,hA.upd f fun _ _ h=>h,fun y d=>⟨(M y d).1,(M y d).2.1,by have:=(M y d).2.2;omega⟩,hSbb,hUA⟩
 refine⟨_,rfl,sl,dE (i:=0) L,⟨by omega,by omega⟩,?_⟩
 refine vd (nl:=sl.extract c sl.size) L fun p b5 G=>?_
 have z4:=J.size;have z5:=G.size;have hA5:=hA4.upd G fun x hx e=>(g x hx).2.1 e
 have nb:u≠m:=fun e=>by
  rcases hb4 with h|h
  ·have:=v _ h;omega
  ·omega
 have b35:p[u]? =some (.cells (xf (sl.extract 0 c) false ⟨#[]⟩ s2 o) bC (0,0)):=G.get (J.get0 b3) (by show ¬u=m;omega);have R:=Upd.hnew No p [.pointer (some ⟨m,0,none⟩)] aW;have b6:=cO p [.pointer (some ⟨m,0,none⟩)] aW;refine bU ?_;simp only[fE p];generalize hnew p [.pointer (some ⟨m,0,none⟩)] aW=h6 at R b6;have z6:=aN b6
 have b36:=R.get0 b35;refine⟨_,rfl,QI (i:=3) b36 (show 3<5 by decide),D3 (i:=3) (c':=xf (sl.extract 0 c) false ⟨#[]⟩ ⟨some ⟨p.size,0,none⟩,1,1⟩ o) b36 rfl fun I b7 E=>?_⟩
 have z7:=E.size;have zb4:=aN L;have Z:Upd (· =m) h I:=((((f.tr J).wide.tr G).tr R.wide).trans E fun x hx=>.inr (by have hx:x=u:=hx;omega))
 have b57:=E.get (R.get0 b5) (by show ¬m=u;omega);have b67:I[p.size]? =some (.cells #[.pointer (some ⟨m,0,none⟩)] aW (0,0)):=E.get b6 (by show ¬p.size=u;omega);have hA7:=(hA5.upd R fun _ _ h=>h).upd E fun x hx e=>by
  have e:x=u:=e;rcases(g x hx).1 with h|h
  ·have:=v x h;omega
  ·omega
 have D:∀y,V y→(S y∨h.size≤y)∧y<I.size:=fun y d=>⟨(g y d).1.imp id fun h=>by omega,by have:=(g y d).2.2;omega⟩
 have z:S m∨h.size≤m:=hb4.imp id fun h=>by omega
 have hUb:∀U∈Us,∀y,U y→(S y∨h.size≤y)∧y<I.size:=fun U q y d=>⟨.inl (C U q y d),by have:=v y (C U q y d);omega⟩
 have hSk:∀y,SR o m V Us y→(S y∨h.size≤y)∧y<I.size:=fun y d=>y4 z (by omega) D hUb d
 have hSk5:∀y,SR o m V Us y→y<p.size:=fun y d=>by
  rcases d.2 with rfl|h|⟨U,N,h⟩
  ·omega
  ·have:=(g y h).2.2;omega
  ·have:=v y (C U N y h);omega
 have hSkb:∀y,SR o m V Us y→y≠u:=fun y d e=>by
  subst e;rcases d.2 with h|h|⟨U,N,h⟩
  ·exact nb h
  ·rcases(g y h).1 with h|h
   ·have:=v y h;omega
   ·omega
  ·have:=v y (C U N y h);omega
 have H:∀{A:Nat→Prop} {bb:Nat} {T:List (Nat→Prop)} {X:Nat→Prop},(∀y,A y→S y∨h.size≤y)→(S bb∨h.size≤bb)→o=none→(∀y,A y→¬(W y∨SR o u X T y))∧¬(W bb∨SR o u X T bb):=fun{A bb T X} hA hb e=>by
  have no:∀y,(S y∨h.size≤y)→¬(W y∨SR o u X T y):=fun y d P=>by
   rcases P with P|⟨P,_⟩
   ·rcases d with h|h
    ·exact hno e y h
    ·have:=hW y P;omega
   ·rw[e]at P;cases P
  exact⟨fun y d=>no y (hA y d),no _ hb⟩
 refine hk I u (SR o u (· =p.size) [SR o m V Us]) (wp (ks:= [some ⟨m,0,none⟩]) b7 rfl (⟨rfl,oC,aj _,.inr ⟨p.size,[],rfl,rfl,by simpa[lY]using b67,rfl⟩⟩:OwnS lY 1 aW (· =p.size) I ⟨some ⟨p.size,0,none⟩,1,1⟩ [some ⟨m,0,none⟩]) (fun y d=>?_) (fun U q y d=>?_) (fun i j A B hij e1 e2=>?_) ⟨rfl,rfl,fun i kk n U ek en eU=>?_⟩ (H (fun y d=>?_) (.inr (by omega)))) (fun y d=>?_) (Z.mono fun y d=>?_)
 ·have d:y=p.size:=d
  omega
 ·rw[aq.1 q]at d
  have:=hSk5 y d;exact⟨fun h=>by have h:y=p.size:=h;omega,hSkb y d⟩
 ·cases i with
  |zero=>cases j with
   |zero=>exact absurd rfl hij
   |succ j=>simp at e2
  |succ i=>simp at e1
 ·cases i with
  |succ i=>simp at ek
  |zero=>
   simp only[cf,bA.injEq,Fo.toL]at ek en eU;subst ek en eU;refine⟨m,sl.extract c sl.size,rfl,Am ..,wp b57 hv hA7 (fun y d=>⟨(g y d).2.1,(D y d).2⟩) hU4 hPD (hL.move Z (fun U q y d=>v y (C U q y d)) (fun y d=>?_) fun y d=>?_) (H (fun y d=>(D y d).1) z)⟩
   ·have d:y=m:=d
    subst d;exact z.imp (fun h=>⟨O y h,fun U q hu=>(hU4 U q y hu).2 rfl⟩) id
   ·rcases d with h|h
    ·exact .inl h
    ·rcases h.2 with rfl|h|⟨U,q,h⟩
     ·exact .inr (by omega)
     ·have h:y=p.size:=h
      exact .inr (by omega)
     ·rw[aq.1 q]at h
      exact(hSk y h).1.imp (O y) id
 ·have d:y=p.size:=d
  exact .inr (by omega)
 ·refine y4 (.inr (by omega)) (aN b7) (fun y d=>?_) (fun U q y d=>?_) d
  ·have d:y=p.size:=d
   exact⟨.inr (by omega),by omega⟩
  ·rw[aq.1 q]at d
   exact hSk y d
 ·have d:y=m:=d
  rw[d];exact z
end Go.Proofs
