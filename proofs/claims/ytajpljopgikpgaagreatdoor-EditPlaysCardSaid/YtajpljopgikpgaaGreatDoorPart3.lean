/- A part of the proof that the named laws of this program answer true, whatever the input. -/
import Derived.Test.YtajpljopgikpgaaGreatDoorPart2
import Derived.Test.YtajpljopgikpgaaGreatDoorPart1
open Array renaming toList_inj→iG
open Bool renaming true_and→wB
open ByteArray renaming mk→kO,data_extract→qK
open Int renaming toNat_natCast→aX
open List renaming range→dh,range_succ→ie,map_append→bU,sum_append→ia,map_cons→cG,map_nil→iM,sum_cons→kS,sum_nil→ye,length_cons→aH,length_append→ad,flatten_append→eO,mem_filterMap→pL,mem_singleton→au,mem_cons_self→aC,mem_cons_of_mem→aV,flatMap_cons→ba,flatten_cons→fa,length_nil→bL,length_singleton→aF,append_assoc→az,getElem?_cons_succ→d9,getElem_mem→aY,mem_of_mem_take→iS,cons_append→dB,append_inj→sY,cons→fH,pairwise_cons→bA,mem_cons→aB,zip_cons_cons→gA,length_take→aP,zip_eq_zipWith→oD,length_drop→aZ,set_eq_take_append_cons_drop→di,getElem?_eq_getElem→ag,extract_eq_take_drop→ij,getElem?_cons_zero→cB,length_eq_zero_iff→aO,mem_of_getElem?→aE,getElem?_append_left→bK,getElem?_take→pM,getElem?_append_right→bh,getElem?_drop→pN,getElem?_set→eE
open Nat renaming add_zero→dd,add_mul→jF,mul_le_mul_left→kZ,mul_le_mul_right→cD,le_trans→bv,not_lt_zero→ji,zero_le→bj,le_refl→ao,shiftRight_eq_div_pow→cN,mod_eq_of_lt→dS,lt_or_ge→bO,zero_add→aU,le_of_eq→f6,min_eq_left→bP
open Option renaming some→bQ
namespace Go.Proofs
open Go Go.Lift
theorem tR(x:Hs)(lev:Nat)(l:List Pr):∀n,(((dh n).map fun c=>(part x lev c l).length).sum)=(l.filter fun p=>decide (ck x lev p.1<n)).length
 |0=>by
  have:(l.filter fun p=>decide (ck x lev p.1<0))= []:=List.filter_eq_nil_iff.2 fun p _=>by simp
  rw[this];rfl
 |n+1=>by
  rw[ie,bU,ia,tR x lev l n];simp only[cG,iM,kS,ye,dd];unfold part;clear tR;induction l with
  |nil=>rfl
  |cons p l ih=>
   simp only[List.filter_cons,decide_eq_true_iff];split<;>split<;>split<;>first|omega|(simp only[aH];omega)
theorem wG(x:Hs)(lev:Nat)(l:List Pr):(gi x lev l).length+(jn x lev l).flatten.length≤l.length:=by
 have h:=tR x lev l 32;have d:(l.filter fun p=>decide (ck x lev p.1<32)).length≤l.length:=List.length_filter_le ..
 have:∀n,(fm (fun c=>il (part x lev c l)) n).length+(fm (fun c=>fu (part x lev c l)) n).flatten.length≤((dh n).map fun c=>(part x lev c l).length).sum:=by
  intro n;induction n with
  |zero=>simp[fm]
  |succ n ih=>
   rw[gP,gP,ie,bU,ia];simp only[ad,eO,cG,iM,kS,ye,dd];generalize part x lev n l=q;have:(il q).toList.length+(fu q).toList.flatten.length≤q.length:=by
    match q with
    | []=>simp[il,fu]
    | [a]=>simp[il,fu]
    |a::b::q=>simp[il,fu]
   omega
 have:=this 32;unfold gi jn;omega
end Go.Proofs
namespace Go.Proofs
open Go Go.Lift
theorem qZ{x:Hs}{lev:Nat}{l:List Pr}{p:Pr}(h:p∈gi x lev l):p∈l:=by
 unfold gi fm at h;obtain⟨c,_,hc⟩:=pL.1 h;unfold il at hc;split at hc
 ·rename_i q hq
  cases hc;have:p∈part x lev c l:=by rw[hq];exact au.2 rfl
  exact(mh.1 this).1
 ·cases hc
theorem nQ{x:Hs}{lev:Nat}{l L:List Pr}(h:L∈jn x lev l):2≤L.length∧∃c,L=part x lev c l:=by
 unfold jn fm at h;obtain⟨c,_,hc⟩:=pL.1 h;unfold fu at hc;split at hc
 ·cases hc;exact⟨by assumption,c,rfl⟩
 ·cases hc
theorem Fit.part{x:Hs}{lev c:Nat}{l:List Pr}(h:Fit l):Fit (part x lev c l):=fun p a=>h p (mh.1 a).1
theorem Gh{B:Nat}{f:List Pr→List UInt8}:∀{ls:List (List Pr)},(∀L∈ls,2≤L.length∧(f L).length≤9+L.length*B)→(ls.flatMap f).length≤ls.flatten.length*(B+9)
 | [],_=>by simp
 |L::ls,h=>by
  have b:=h L (aC ..);have a:=Gh (ls:=ls) fun M hM=>h M (aV _ hM)
  rw[ba,ad,fa,ad,jF];have:L.length*(B+9)=L.length*B+L.length*9:=Nat.mul_add ..;omega
theorem pk{x:Hs}:∀(m:Nat) {l:List Pr},Fit l→(fW x m l).length≤9+l.length*(20004+9*(m+1))
 |0,l,h=>by
  have:=nh h;unfold fW;rw[aH,ad,dM];have:l.length*20004≤l.length*(20004+9*(0+1)):=kZ _ (by omega);omega
 |m+1,l,h=>by
  have n:=nh (l:=gi x (12-m) l) fun p d=>h p (qZ d)
  have g:=Gh (f:=fW x m) (ls:=jn x (12-m) l) (B:=20004+9*(m+1)) fun L i=>by
   obtain⟨k,c,rfl⟩:=nQ i;exact⟨k,pk m h.part⟩
  have j:=wG x (12-m) l;unfold fW;rw[aH,ad,ad,ad,dM,dM];have o:(gi x (12-m) l).length*20004≤(gi x (12-m) l).length*(20004+9*(m+1+1)):=kZ _ (by omega);have b:((gi x (12-m) l).length+(jn x (12-m) l).flatten.length)*(20004+9*(m+1+1))≤l.length*(20004+9*(m+1+1)):=cD _ j;rw[jF]at b
  have a:20004+9*(m+1)+9=20004+9*(m+1+1):=by omega
  rw[a]at g;omega
end Go.Proofs
namespace Go.Proofs
open Go Go.Lift
theorem P7{h:af}{b d n:Nat}{sp sk:SliceV}{f:Bool}{ow:Option Addr}(a:h[b]? =some (.cells (gj d n sp sk f ow) cj (0,0))) (g:sp.len+sk.len≤1000000000) {K:Int→af→Prop} (c:K ((sp.len+sk.len:Nat):Int) h):HC PG mn [.pointer (some ⟨b,0,none⟩)] [.c (.int .i64)] K h:=by
 refine yq _ ?_;unfold sS aK;refine aj.2 ⟨_,rfl,sp,fh (i:=2) a,_,rfl,sk,fh (i:=3) a,?_⟩;rw[jj (by omega)];exact_mod_cast c
def Bes(M:Nat→Prop)(h a:af)(b:Nat):Prop:=M b∧(b<h.size∨a.size≤b)
theorem Bes.own{α:Type}{f:α→List Value}{sz:Nat}{t:TypeId}{M:Nat→Prop}{h a:af}{s:SliceV}{xs:List α}(c:OwnS f sz t M h s xs)(d:Upd No h a):OwnS f sz t (Bes M h a) a s xs:=
 (c.within.upd d fun _ _ h=>h).more fun _ b=>⟨b.1,.inl b.2⟩
theorem Bes.sl{α:Type}{f:α→List Value}{sz:Nat}{t:TypeId}{M:Nat→Prop}{h a:af}{s:SliceV}{xs:List α}(d:OwnS f sz t (fun x=>h.size≤x) a s xs):Sl f sz (Bes M h a) a s xs:=
 d.sl fun b g c hx=>by rcases hx.2 with h|h<;>omega
theorem Bes.hM{M:Nat→Prop}{h a:af}(hM:∀b,h.size≤b→M b)(d:Upd No h a):∀b,a.size≤b→Bes M h a b:=fun b c=>⟨hM b (bv d.size c),.inr c⟩
theorem Vl{W:Nat→Prop}{x:Hs}:∀(m:Nat),m≤13→∀{b:Nat} {l:List Pr} {Y h:af} {M:Nat→Prop} {s:SliceV} {xs:List UInt8},TrieAt W x Y m b l→Upd No Y h→(∀y,M y→Y.size≤y)→OwnS pW 1 cK M h s xs→(∀y,h.size≤y→M y)→Fit l→l.length≤60000→
  xs.length+(9+l.length*(20004+9*(m+1)))≤140737488355328→∀{K:SliceV→af→Prop},(∀s' j,OwnS pW 1 cK M j s' (xs++fW x m l)→Upd M h j→K s' j)→
  HC PG uY [.slice s.a s.len s.cap,.pointer (some ⟨b,0,none⟩),.int .i64 ((13-m:Nat):Int)] [.c .slice] K h:=by
 intro m;induction m with
 |zero=>
  intro _ b l Y h M s xs t hu0 S ho hM hf hn hx K hk;refine Fz s (some ⟨b,0,none⟩) ((13-0:Nat):Int) ?_;unfold zD bH cS GN SY XC;have st:∀{j},Upd M h j→Upd No Y j:=fun k=>hu0.trans k fun y u=>.inr (S y u)
  have bk:∀{j},Upd M h j→BuckAt W j b l:=fun k=>BuckAt.upd t (st k) fun _ h=>h.elim
  have C:∀{j},Upd M h j→∀y,j.size≤y→M y:=fun k y u=>hM y (bv k.size u)
  obtain⟨sp,sk,ow,hb,_⟩:=(bk (Upd.refl M h)).ex;refine g7 hb (aA.2 (ce ?_));refine wQ (b:=1) rfl ho hM (by omega) fun s1 h1 X o=>?_
  obtain⟨sp1,sk1,ow1,hb1,O,hsk1,_⟩:=(bk o).ex;have e1:=O.len;have e2:=hsk1.len;rw[bL]at e2;refine P7 hb1 (by omega) ?_;have ew:IntKind.wrap .u64 ((sp1.len+sk1.len:Nat):Int)=((l.length:Nat):Int):=by rw[Go.IntWalk.u64_in _ (by omega)];omega
  rw[ew];have hl2:l.length*20004≤l.length*(20004+9*(0+1)):=kZ _ (by omega);refine Qb X (C o) (n:=l.length) (k:=2) (by omega) (by omega) (by rw[ad,aF];omega) fun s2 h2 J w=>?_
  have V:=o.tr w;obtain⟨sp2,sk2,ow2,hb2,P,_⟩:=(bk V).ex;refine qd hb2 P (by omega) fun s3 F E A=>?_
  refine GZ (M:=Bes M h2 F) (W:=Bes M h2 F) (Bes.own J A) (Bes.hM (C V) A) (Bes.sl E) (fun _ h _=>h) hf (by omega) (by rw[ad,ad,aF,dM];omega) fun s4 G ho4 H=>?_
  refine hk s4 G ?_ (V.tr (A.wide.tr (H.mono fun y u=>.inl u.1)))
  have:=ho4.more (M':=M) fun y u=>u.1
  rw[fW,List.append_cons,←az];exact this
 |succ m ih=>
  intro hm b l Y h M s xs t hu0 S ho hM hf hn hx K hk;refine Fz s (some ⟨b,0,none⟩) ((13-(m+1):Nat):Int) ?_;unfold zD bH cS GN SY XC;have st:∀{j},Upd M h j→Upd No Y j:=fun k=>hu0.trans k fun y u=>.inr (S y u)
  have C:∀{j},Upd M h j→∀y,j.size≤y→M y:=fun k y u=>hM y (bv k.size u)
  obtain⟨sl,nd,hs0⟩:=t;have hs:∀c,c<32→SlotIs W x Y m sl c (part x (12-m) c l):=hs0;have hd:∀{j},Upd M h j→∃d n sp sk ow,j[b]? =some (.cells (gj d n sp sk false ow) cj (0,0))∧d=jU (fun c=>(il (part x (12-m) c l)).isSome) 32∧n=jU (fun c=>(fu (part x (12-m) c l)).isSome) 32∧Sl fe 2 W j sp (gi x (12-m) l)∧Sl rG 1 W j sk (fm sl.k 32):=fun{j} k=>by
   obtain⟨d,n,sp,sk,ow,hb,bits,F,G,_⟩:=(nd.upd (st k) fun _ h=>h.elim).ex
   refine⟨d,n,sp,sk,ow,hb,K8 bits.d32 fun c hc=>?_,K8 bits.n32 fun c hc=>?_,?_,G⟩
   ·rw[bits.dp c hc,(GX (hs c hc)).1]
   ·rw[bits.nk c hc,(GX (hs c hc)).2]
   ·rw[←Cu hs];exact F
  have hka:KidsAt W x Y m (fm sl.k 32) (jn x (12-m) l):=L5 32 hs;have v:=pk (x:=x) (m+1) hf;have hlen2:=v;have hml:∀L∈jn x (12-m) l,Fit L∧L.length≤60000:=fun L hL=>by
   obtain⟨_,c,rfl⟩:=nQ hL;exact⟨hf.part,bv kz hn⟩
  have hsf:Fit (gi x (12-m) l):=fun p hp=>hf p (qZ hp)
  have hsl:=wG x (12-m) l;unfold fW at hk v;have ebits:∀q:Nat→Bool,jU q 32<4294967296:=fun q=>nB q 32
  have hd32:=ebits fun c=>(il (part x (12-m) c l)).isSome
  have hn32:=ebits fun c=>(fu (part x (12-m) c l)).isSome
  generalize jU (fun c=>(il (part x (12-m) c l)).isSome) 32=D at hk hd v hd32
  generalize jU (fun c=>(fu (part x (12-m) c l)).isSome) 32=N at hk hd v hn32
  have hS:(gi x (12-m) l).length≤60000:=by omega
  have hSb:(gi x (12-m) l).length*20004≤l.length*(20004+9*(m+1+1)):=Nat.mul_le_mul (by omega) (by omega);have hML:∀L∈jn x (12-m) l,2≤L.length∧(fW x m L).length≤9+L.length*(20004+9*(m+1)):=fun L hL=>by
   obtain⟨F,c,rfl⟩:=nQ hL;exact⟨F,pk m hf.part⟩
  have hbud:9+(gi x (12-m) l).length*20004+(jn x (12-m) l).flatten.length*(20004+9*(m+1)+9)≤9+l.length*(20004+9*(m+1+1)):=by
   have h5:(gi x (12-m) l).length*20004≤(gi x (12-m) l).length*(20004+9*(m+1+1)):=kZ _ (by omega);have h6:((gi x (12-m) l).length+(jn x (12-m) l).flatten.length)*(20004+9*(m+1+1))≤l.length*(20004+9*(m+1+1)):=cD _ hsl;rw[jF]at h6;have h7:20004+9*(m+1)+9=20004+9*(m+1+1):=by omega
   rw[h7];omega
  have hps:=nh hsf;generalize gi x (12-m) l=So at hk hd hsf hS hSb hbud v hps;generalize jn x (12-m) l=Ma at hk hka hml hML hbud v;obtain⟨d,n,sp,sk,ow,hb,_⟩:=hd (Upd.refl M h);refine g7 hb (aj.2 (Join.intro (fun s' j=>OwnS pW 1 cK M j s' (xs++(0::(np D 4++np N 4)))∧Upd M h j) (fun R hR=>ce ?_) ?_))
  ·refine wQ (b:=0) rfl ho hM (by omega) fun s1 h1 X o=>?_
   obtain⟨d1,n1,sp1,sk1,ow1,hb1,rfl,rfl,_⟩:=hd o;refine Ml hb1 ?_;rw[Go.IntWalk.u64_in _ (by omega)];refine Qb X (C o) (n:=d1) (k:=4) (by omega) (by omega) (by rw[ad,aF];omega) fun s2 h2 J w=>?_
   obtain⟨d2,n2,sp2,sk2,ow2,hb2,rfl,rfl,_⟩:=hd (o.tr w);refine CG hb2 ?_;rw[Go.IntWalk.u64_in _ (by omega)];refine Qb J (C (o.tr w)) (n:=n2) (k:=4) (by omega) (by omega) (by rw[ad,ad,aF,dM];omega) fun s3 F E A=>?_
   refine hR _ _ ⟨?_,(o.tr w).tr A⟩;rw[List.append_cons,←az];exact E
  ·rintro s' h1 ⟨X,o⟩
   obtain⟨d1,n1,sp1,sk1,ow1,hb1,_,_,O,_⟩:=hd o;refine qd hb1 O (by omega) fun s2 h2 J w=>?_
   refine GZ (M:=Bes M h1 h2) (W:=Bes M h1 h2) (Bes.own X w) (Bes.hM (C o) w) (Bes.sl J) (fun _ h _=>h) hsf (by omega) (by rw[ad,aH,ad,dM,dM];omega) fun s3 F E A=>?_
   have E:=E.more (M':=M) fun y u=>u.1
   have Z:Upd M h F:=o.tr (w.wide.tr (A.mono fun y u=>.inl u.1))
   have e13:(((13-(m+1):Nat):Int)==(13:Int))=false:=by rw[beq_eq_false_iff_ne];omega
   rw[e13];refine aj.2 ?_;obtain⟨d3,n3,sp3,sk3,ow3,hb3,_,_,_,hsk3⟩:=hd Z;have hk32:=yi (g:=sl.k);refine Gs hb3 hsk3 (by omega) fun s4 G ho4 H=>?_
   have Q:Sl rG 1 (Bes M F G) G s4 (fm sl.k 32):=Bes.sl ho4;have hlk:=Q.len;have ew:IntKind.wrap .i64 (((13-(m+1):Nat):Int)+1)=((13-m:Nat):Int):=by rw[jj (by omega)];omega
   rw[ew];have hMb:=Bes.hM (C Z) H;have hob:=Bes.own E H;have hu04:Upd M h G:=Z.tr H.wide;have hMM:∀y,Bes M F G y→M y:=fun y u=>u.1
   have st4:∀{j},Upd (Bes M F G) G j→Upd M h j:=fun k=>hu04.tr (k.mono fun y u=>.inl u.1)
   generalize Bes M F G=B at Q hMb hob hMM st4;have hkl:∀{ks:List (Option Addr)} {ls:List (List Pr)},KidsAt W x Y m ks ls→ks.length=ls.length∧∀i (hi:i<ls.length),∃kb,ks[i]? =some (some ⟨kb,0,none⟩)∧TrieAt W x Y m kb ls[i]:=by
    intro ks;induction ks with
    |nil=>intro ls;cases ls with
     |nil=>intro _;exact⟨rfl,fun i hi=>absurd hi (ji _)⟩
     |cons a ls=>intro h;exact h.elim
    |cons k ks ihk=>intro ls;cases ls with
     |nil=>intro h;exact h.elim
     |cons a ls=>
      rintro⟨⟨kb,rfl,tk⟩,h⟩;obtain⟨e,hr⟩:=ihk h;refine⟨by simp[e],fun i hi=>?_⟩
      cases i with
      |zero=>exact⟨kb,rfl,tk⟩
      |succ i=>simp only[d9,List.getElem_cons_succ];exact hr i (by simpa using hi)
   obtain⟨hkl,hkt⟩:=hkl hka;have hbase:(xs++(0::(np D 4++np N 4))++lj So).length≤xs.length+(9+So.length*20004):=by
    rw[ad,ad,aH,ad,dM,dM];omega
   refine LoopP.ghost (fun(i:Nat) (t:SliceV×Int) j=>t.2=(i:Int)∧i≤Ma.length∧OwnS pW 1 cK B j t.1 (xs++(0::(np D 4++np N 4))++lj So++(Ma.take i).flatMap (fW x m))∧Upd B G j) (fun i=>Ma.length-i) 0 ⟨rfl,bj _,by simpa using hob,Upd.refl _ _⟩ ?_
   rintro I i ⟨so,ti⟩ j ⟨e1,hi,ho',T⟩ hI;simp only at e1 ho';subst e1;refine aM (fun z=>?_) fun hge=>?_
   ·have z:i<Ma.length:=by have:(i:Int)<(s4.len:Int):=z;omega
    obtain⟨kb,hk1,tk⟩:=hkt i z;obtain⟨a,ha,_,hv⟩:=(Q.upd T fun y u=>.inl u).at0 hk1
    refine⟨⟨by simp only;omega,by simp only;omega⟩,a,ha,some ⟨kb,0,none⟩,hv,?_⟩
    have hmem:Ma[i]∈Ma:=aY z;have htl:=Gh (f:=fW x m) (ls:=Ma.take i) (B:=20004+9*(m+1)) fun L hL=>hML L (iS hL)
    have hsp:(Ma.take i).flatten.length+Ma[i].length≤Ma.flatten.length:=by
     have e:Ma=Ma.take i++Ma[i]::Ma.drop (i+1):=by rw[List.getElem_cons_drop,List.take_append_drop]
     have:=congrArg (fun L=>(List.flatten L).length) e
     simp only[eO,fa,ad]at this;omega
    have P:=cD (20004+9*(m+1)+9) hsp;rw[jF]at P;have h2l:=(hML _ hmem).1;have hone:9+Ma[i].length*(20004+9*(m+1))≤Ma[i].length*(20004+9*(m+1)+9):=by rw[Nat.mul_add (Ma[i].length) (20004+9*(m+1)) 9];omega
    refine ih (by omega) tk (hu0.trans (st4 T) fun y u=>.inr (S y u)) (fun y u=>S y (hMM y u)) ho' (fun y u=>hMb y (bv T.size u)) (hml _ hmem).1 (hml _ hmem).2 (by rw[ad];omega) fun s5 h5 ho5 hu5=>?_
    rw[cO z (by omega)];refine hI (i+1) _ _ ⟨rfl,z,?_,T.tr hu5⟩ (by omega);rw[List.take_succ_eq_append_getElem z,List.flatMap_append,ba,List.flatMap_nil,List.append_nil,←az];exact ho5
   ·have hil:i=Ma.length:=by have:¬(i:Int)<(s4.len:Int):=hge;omega
    subst hil;rw[List.take_length]at ho';refine hk _ _ ?_ (st4 T);have:=ho'.more hMM;simp only[az,dB]at this⊢;exact this
end Go.Proofs
namespace Go.Proofs
open Go Go.Lift
theorem XP{W:Nat→Prop}{x:Hs}{h:af}{b:Nat}{l:List Pr}(t:TrieAt W x h 13 b l)(f:Fit l)(c:l.length≤60000){K:SliceV→af→Prop}(g:∀s' a,OwnS pW 1 cK (fun y=>h.size≤y) a s' (fW x 13 l)→Upd No h a→K s' a):HC PG Bz [.pointer (some ⟨b,0,none⟩)] [.c .slice] K h:=by
 refine Q3 _ ?_;unfold IA;refine aj.2 ?_;have k:l.length*(20004+9*(13+1))≤60000*(20004+9*(13+1)):=cD _ c;exact Vl (x:=x) 13 (ao _) (s:=⟨none,0,0⟩) (xs:= []) (M:=fun y=>h.size≤y) t (Upd.refl _ _) (fun _ h=>h) (OwnS.nil sO) (fun _ h=>h) f c (by rw[bL];omega) fun s' a j d=>g s' a j (d.mono fun y i=>.inr i)
theorem N3:∀{a b:Nat} (k:Nat),np a k=np b k→a%2^(8*k)=b%2^(8*k)
 |_,_,0,_=>by simp[Nat.mod_one]
 |a,b,k+1,h=>by
  rw[zY,zY]at h;obtain⟨d,f⟩:=sY h (by rw[dM,dM]);have g:=N3 k d;have c:=congrArg UInt8.toNat (fH.inj f).1;rw[UInt8.toNat_ofNat',UInt8.toNat_ofNat',cN,cN]at c;have e:2^(8*(k+1))=2^(8*k)*2^8:=by rw[Nat.mul_add,Nat.pow_add]
  rw[e,Nat.mod_mul,Nat.mod_mul,g,c]
theorem wI{a b k:Nat}{r c:List UInt8}(f:a<2^(8*k))(d:b<2^(8*k))(h:np a k++r=np b k++c):a=b∧r=c:=by
 obtain⟨i,g⟩:=sY h (by rw[dM,dM]);have:=N3 k i;rw[dS f,dS d]at this;exact⟨this,g⟩
theorem zO{a b:ByteArray}{r c:List UInt8}(m:a.size≤10000)(j:b.size≤10000)(h:oH a++r=oH b++c):a=b∧r=c:=by
 unfold oH at h;rw[az,az]at h;obtain⟨f,d⟩:=wI (k:=2) (by omega) (by omega) h;obtain⟨i,g⟩:=sY d (by simpa using f);refine⟨?_,g⟩;cases a;cases b;exact congrArg kO (iG.1 i)
theorem Bq:∀{l l':List Pr} {r r':List UInt8},Fit l→Fit l'→l.length=l'.length→lj l++r=lj l'++r'→l=l'∧r=r'
 | [],[],_,_,_,_,_,h=>⟨rfl,h⟩
 | [],_::_,_,_,_,_,e,_=>by simp at e
 |_::_,[],_,_,_,_,e,_=>by simp at e
 |p::l,q::l',r,r',hf,hf',e,h=>by
  unfold lj at h;rw[ba,ba,Ff,Ff]at h;simp only[az]at h;have b:=hf p (aC ..);have a:=hf' q (aC ..);obtain⟨c,h⟩:=zO b.1 a.1 h;obtain⟨f,h⟩:=zO b.2 a.2 h;obtain⟨d,h⟩:=Bq (l:=l) (l':=l') (fun z hz=>hf z (aV _ hz)) (fun z hz=>hf' z (aV _ hz)) (by simpa using e) h
  exact⟨by rw[d,Prod.ext c f],h⟩
theorem Gx{β γ:Type}{g:Nat→Option β}{a:Nat→Option γ}:∀n,(∀c,c<n→(g c).isSome=(a c).isSome)→(fm g n).length=(fm a n).length
 |0,_=>rfl
 |n+1,h=>by
  rw[gP,gP,ad,ad,Gx n fun c hc=>h c (by omega)]
  have:=h n (by omega);cases h1:g n<;>cases h2:a n<;>rw[h1,h2]at this<;>first|rfl|cases this
theorem Qx{β:Type}{g a:Nat→Option β}:∀n,(∀c,c<n→(g c).isSome=(a c).isSome)→fm g n=fm a n→∀c,c<n→g c=a c
 |0,_,_,c,hc=>absurd hc (ji _)
 |n+1,h,e,c,hc=>by
  rw[gP,gP]at e;obtain⟨f,b⟩:=sY e (Gx n fun c hc=>h c (by omega))
  rcases bO c n with d|d
  ·exact Qx n (fun c hc=>h c (by omega)) f c d
  ·have:c=n:=by omega
   subst this;cases h1:g c<;>cases h2:a c<;>rw[h1,h2]at b<;>simp at b⊢
   exact b
theorem zS:∀{l l':List Pr},cA l→cA l'→(∀p,p∈l↔p∈l')→l=l'
 | [],[],_,_,_=>rfl
 | [],q::l',_,_,h=>absurd ((h q).2 (aC ..)) (by simp)
 |p::l,[],_,_,h=>absurd ((h p).1 (aC ..)) (by simp)
 |p::l,q::l',c,a,h=>by
  have c:=bA.1 c;have a:=bA.1 a;have e:p=q:=by
   rcases aB.1 ((h p).1 (aC ..))with e|d
   ·exact e
   ·rcases aB.1 ((h q).2 (aC ..))with e|f
    ·exact e.symm
    ·exact absurd (jo (c.1 q f) (a.1 p d)) (cM _)
  subst e;rw[zS c.2 a.2 fun z=>?_]
  constructor
  ·intro hz
   rcases aB.1 ((h z).1 (aV _ hz))with e|b
   ·exact absurd (c.1 z hz) (by rw[e];exact cM _)
   ·exact b
  ·intro hz
   rcases aB.1 ((h z).2 (aV _ hz))with e|b
   ·exact absurd (a.1 z hz) (by rw[e];exact cM _)
   ·exact b
theorem VH{x:Hs}{lev:Nat}{l l':List Pr}(g:cA l)(a:cA l')(h:∀c,c<32→part x lev c l=part x lev c l'):l=l':=by
 refine zS g a fun p=>?_
 have e:=h (ck x lev p.1) (zq ..);have d:=mh (x:=x) (lev:=lev) (c:=ck x lev p.1) (l:=l) (p:=p);have f:=mh (x:=x) (lev:=lev) (c:=ck x lev p.1) (l:=l') (p:=p);rw[e]at d;constructor
 ·intro b;exact(f.1 (d.2 ⟨b,rfl⟩)).1
 ·intro b;exact(d.1 (f.2 ⟨b,rfl⟩)).1
theorem Tg{q q':List Pr}(g:il q=il q')(f:fu q=fu q'):q=q':=by
 match q,q' with
 | [],[]=>rfl
 | [a],[b]=>simp[il]at g;rw[g]
 | [],[b]=>simp[il]at g
 | [a],[]=>simp[il]at g
 | [],b::c::q'=>simp[fu]at f
 | [a],b::c::q'=>simp[fu]at f
 |b::c::q',[]=>simp[fu]at f
 |b::c::q',[a]=>simp[fu]at f
 |a::b::q,c::d::q'=>simpa[fu]using f
theorem Oj{f:List Pr→List UInt8}:∀{ls ls':List (List Pr)} {r r':List UInt8},ls.length=ls'.length→(∀L∈ls,∀L'∈ls',∀r r',f L++r=f L'++r'→L=L'∧r=r')→ls.flatMap f++r=ls'.flatMap f++r'→ls=ls'∧r=r'
 | [],[],_,_,_,_,h=>⟨rfl,h⟩
 | [],_::_,_,_,e,_,_=>by simp at e
 |_::_,[],_,_,e,_,_=>by simp at e
 |L::ls,L'::ls',r,r',e,hf,h=>by
  rw[ba,ba,az,az]at h;obtain⟨a,h⟩:=hf L (aC ..) L' (aC ..) _ _ h;obtain⟨c,h⟩:=Oj (by simpa using e) (fun A b B d=>hf A (aV _ b) B (aV _ d)) h
  exact⟨by rw[a,c],h⟩
theorem GY{x:Hs}:∀(m:Nat) {l l':List Pr} {r a:List UInt8},Fit l→Fit l'→l.length≤60000→l'.length≤60000→cA l→cA l'→fW x m l++r=fW x m l'++a→l=l'∧r=a
 |0,l,l',r,a,hf,hf',hn,hn',_,_,h=>by
  unfold fW at h;rw[dB,dB,az,az]at h;obtain⟨e,h⟩:=wI (k:=2) (by omega) (by omega) (fH.inj h).2;exact Bq hf hf' e h
 |m+1,l,l',r,a,hf,hf',hn,hn',hr,hr',h=>by
  unfold fW at h;simp only[dB,az]at h;obtain⟨b1,h⟩:=wI (k:=4) (nB _ 32) (nB _ 32) (fH.inj h).2;obtain⟨b2,h⟩:=wI (k:=4) (nB _ 32) (nB _ 32) h;have bits:∀{q q':Nat→Bool},jU q 32=jU q' 32→∀c,c<32→q c=q' c:=fun{q q'} e c hc=>by
   have:=congrArg (fun n=>n.testBit c) e
   simp only[EA,decide_eq_true hc,wB]at this;exact this
  have b1:=bits b1;have b2:=bits b2;obtain⟨f,h⟩:=Bq (fun p d=>hf p (qZ d)) (fun p d=>hf' p (qZ d)) (Gx 32 b1) h
  obtain⟨i,h⟩:=Oj (Gx 32 b2) (fun L g L' b r a e=>by
   obtain⟨_,c,rfl⟩:=nQ g
   obtain⟨_,c',rfl⟩:=nQ b
   exact GY m hf.part hf'.part (bv kz hn) (bv kz hn') (qV hr) (qV hr') e) h
  have s1:=Qx 32 b1 f;have s2:=Qx 32 b2 i;exact⟨VH hr hr' fun c hc=>Tg (s1 c hc) (s2 c hc),h⟩
end Go.Proofs
namespace Go.Proofs
open Go Go.Lift
def zP(lab:ByteArray)(has:Bool)(val:ByteArray)(s:SliceV)(ow:Option Addr):Array Value:= #[.string lab,.bool has,.string val,sv s,.pointer ow]
theorem vw{w:Option ByteArray}{val:ByteArray}(h:val=w.getD ⟨#[]⟩):∀v,w=some v→val=v:=fun v e=>by rw[h,e];rfl
def RxF(W:Nat→Prop)(h:af):Fo→List (Option Addr)→Prop
 | .nil,ks=>ks= []
 | .cons lab w kids rest,ks=>∃b sl val s ow ks1 ks',ks=some ⟨b,0,none⟩::ks'∧sl.data.toList=lab∧h[b]? =some (.cells (zP sl w.isSome val s ow) bS (0,0))∧val=w.getD ⟨#[]⟩∧Sl m9 1 W h s ks1∧(s.len≤s.cap∧¬W b∧OwOk W h ow)∧RxF W h kids ks1∧RxF W h rest ks'
def RxN(W:Nat→Prop)(h:af)(b:Nat)(sl:ByteArray)(w:Option ByteArray)(F:Fo):Prop:=∃val s ow ks,h[b]? =some (.cells (zP sl w.isSome val s ow) bS (0,0))∧val=w.getD ⟨#[]⟩∧Sl m9 1 W h s ks∧(s.len≤s.cap∧¬W b∧OwOk W h ow)∧RxF W h F ks
def Kid(W:Nat→Prop)(h:af)(k:Option Addr)(n:Bn):Prop:=∃b sl,k=some ⟨b,0,none⟩∧sl.data.toList=n.1∧RxN W h b sl n.2.1 n.2.2
def RxL(W:Nat→Prop)(h:af)(ks:List (Option Addr))(L:List Bn):Prop:=ks.length=L.length∧∀p∈ks.zip L,Kid W h p.1 p.2
theorem rB{W:Nat→Prop}{h:af}:∀{F:Fo} {ks:List (Option Addr)},RxF W h F ks↔RxL W h ks F.toL
 | .nil,ks=>by
  unfold RxF RxL;simp[Fo.toL]
 | .cons lab w kids rest,ks=>by
  unfold RxF RxL;rw[Fo.toL_cons];constructor
  ·rintro⟨b,sl,val,s,ow,c,d,rfl,g,n,j,i,o,m,q⟩
   obtain⟨y,u⟩:=rB.1 q;refine⟨by simp[y],fun p a=>?_⟩
   rw[gA]at a;rcases aB.1 a with rfl|a
   ·exact⟨b,sl,rfl,g,val,s,ow,c,n,j,i,o,m⟩
   ·exact u p a
  ·cases ks with
   |nil=>rintro⟨e,_⟩;simp at e
   |cons k d=>
    rintro⟨e,a⟩;rw[gA]at a;obtain⟨b,sl,v,g,val,s,ow,c,n,j,i,o,m⟩:=a _ (aC ..);refine⟨b,sl,val,s,ow,c,d,by rw[←v],g,n,j,i,o,m,rB.2 ⟨by simpa using e,fun p f=>a p (aV _ f)⟩⟩
theorem RxF.upd0{W:Nat→Prop}{h a:af}(k:Upd No h a):∀{F:Fo} {ks:List (Option Addr)},RxF W h F ks→RxF W a F ks
 | .nil,_,r=>r
 | .cons _ _ _ _,_,⟨b,sl,val,s,ow,ks1,ks',e0,e1,e2,e3,e4,e5,e6,e7⟩=>⟨b,sl,val,s,ow,ks1,ks',e0,e1,k.get0 e2,e3,e4.upd k fun _ h=>h.elim,⟨e5.1,e5.2.1,e5.2.2.upd k fun _ h=>h.elim⟩,RxF.upd0 k e6,RxF.upd0 k e7⟩
theorem RxN.upd0{W:Nat→Prop}{h a:af}(k:Upd No h a){b:Nat}{sl:ByteArray}{w:Option ByteArray}{F:Fo}:RxN W h b sl w F→RxN W a b sl w F
 |⟨val,s,ow,ks,e2,e3,e4,e5,e6⟩=>⟨val,s,ow,ks,k.get0 e2,e3,e4.upd k fun _ h=>h.elim,⟨e5.1,e5.2.1,e5.2.2.upd k fun _ h=>h.elim⟩,RxF.upd0 k e6⟩
theorem Kid.upd0{W:Nat→Prop}{h c:af}(k:Upd No h c){a:Option Addr}{n:Bn}:Kid W h a n→Kid W c a n
 |⟨b,sl,e1,e2,e3⟩=>⟨b,sl,e1,e2,e3.upd0 k⟩
theorem RxF.less{W W':Nat→Prop}{h:af}(hm:∀b,W' b→W b∨h.size≤b):∀{F:Fo} {ks:List (Option Addr)},RxF W h F ks→RxF W' h F ks
 | .nil,_,r=>r
 | .cons _ _ _ _,_,⟨b,sl,val,s,ow,ks1,ks',e0,e1,e2,e3,e4,e5,e6,e7⟩=>⟨b,sl,val,s,ow,ks1,ks',e0,e1,e2,e3,e4.less hm,⟨e5.1,fun hx=>(hm _ hx).elim e5.2.1 fun h=>by have:=aL e2;omega,e5.2.2.less hm⟩,RxF.less hm e6,RxF.less hm e7⟩
theorem RxN.less{W W':Nat→Prop}{h:af}(hm:∀b,W' b→W b∨h.size≤b){b:Nat}{sl:ByteArray}{w:Option ByteArray}{F:Fo}:RxN W h b sl w F→RxN W' h b sl w F
 |⟨val,s,ow,ks,e2,e3,e4,e5,e6⟩=>⟨val,s,ow,ks,e2,e3,e4.less hm,⟨e5.1,fun hx=>(hm _ hx).elim e5.2.1 fun h=>by have:=aL e2;omega,e5.2.2.less hm⟩,RxF.less hm e6⟩
theorem RxF.updM{W M:Nat→Prop}{h a:af}(k:Upd M h a)(hm:∀b,M b→W b∨h.size≤b):∀{F:Fo} {ks:List (Option Addr)},RxF W h F ks→RxF W a F ks
 | .nil,_,r=>r
 | .cons _ _ _ _,_,⟨b,sl,val,s,ow,ks1,ks',e0,e1,e2,e3,e4,e5,e6,e7⟩=>⟨b,sl,val,s,ow,ks1,ks',e0,e1,k.get e2 (fun hx=>(hm _ hx).elim e5.2.1 fun h=>by have:=aL e2;omega),e3,e4.upd k hm,⟨e5.1,e5.2.1,e5.2.2.upd k hm⟩,RxF.updM k hm e6,RxF.updM k hm e7⟩
theorem RxN.updM{W M:Nat→Prop}{h a:af}(k:Upd M h a)(hm:∀b,M b→W b∨h.size≤b){b:Nat}{sl:ByteArray}{w:Option ByteArray}{F:Fo}:RxN W h b sl w F→RxN W a b sl w F
 |⟨val,s,ow,ks,e2,e3,e4,e5,e6⟩=>⟨val,s,ow,ks,k.get e2 (fun hx=>(hm _ hx).elim e5.2.1 fun h=>by have:=aL e2;omega),e3,e4.upd k hm,⟨e5.1,e5.2.1,e5.2.2.upd k hm⟩,RxF.updM k hm e6⟩
theorem RxL.upd0{W:Nat→Prop}{h a:af}(k:Upd No h a){ks:List (Option Addr)}{L:List Bn}(r:RxL W h ks L):RxL W a ks L:=⟨r.1,fun p b=>(r.2 p b).upd0 k⟩
theorem RxL.app{W:Nat→Prop}{h:af}{ks b:List (Option Addr)}{L L':List Bn}(r:RxL W h ks L)(c:RxL W h b L'):RxL W h (ks++b) (L++L'):=by
 refine⟨by rw[ad,ad,r.1,c.1],fun p a=>?_⟩
 rw[List.zip_append r.1]at a;rcases List.mem_append.1 a with a|a
 ·exact r.2 p a
 ·exact c.2 p a
theorem RxL.one{W:Nat→Prop}{h:af}{k:Option Addr}{n:Bn}(c:Kid W h k n):RxL W h [k] [n]:=⟨rfl,fun p a=>by rw[gA,List.zip_nil_left]at a;rw[au.1 a];exact c⟩
theorem RxL.take{W:Nat→Prop}{h:af}{ks:List (Option Addr)}{L:List Bn}(r:RxL W h ks L)(i:Nat):RxL W h (ks.take i) (L.take i):=by
 refine⟨by rw[aP,aP,r.1],fun p a=>r.2 p ?_⟩
 have:(ks.take i).zip (L.take i)=(ks.zip L).take i:=by rw[oD,oD,List.take_zipWith]
 rw[this]at a;exact iS a
theorem RxL.drop{W:Nat→Prop}{h:af}{ks:List (Option Addr)}{L:List Bn}(r:RxL W h ks L)(i:Nat):RxL W h (ks.drop i) (L.drop i):=by
 refine⟨by rw[aZ,aZ,r.1],fun p a=>r.2 p ?_⟩
 have:(ks.drop i).zip (L.drop i)=(ks.zip L).drop i:=by rw[oD,oD,List.drop_zipWith]
 rw[this]at a;exact List.mem_of_mem_drop a
theorem RxL.ins{W:Nat→Prop}{h:af}{ks:List (Option Addr)}{L:List Bn}(r:RxL W h ks L)(i:Nat){k:Option Addr}{n:Bn}(c:Kid W h k n):RxL W h (ks.take i++k::ks.drop i) (L.take i++n::L.drop i):=by
 have:=(r.take i).app ((RxL.one c).app (r.drop i));exact this
theorem RxL.set{W:Nat→Prop}{h:af}{ks:List (Option Addr)}{L:List Bn}(r:RxL W h ks L){i:Nat}(hi:i<L.length){k:Option Addr}{n:Bn}(c:Kid W h k n):RxL W h (ks.set i k) (L.set i n):=by
 have:=(r.take i).app ((RxL.one c).app (r.drop (i+1)));rw[di,di,if_pos (by rw[r.1];exact hi),if_pos hi];exact this
theorem RxL.at{W:Nat→Prop}{h:af}{ks:List (Option Addr)}{L:List Bn}(r:RxL W h ks L){i:Nat}(hi:i<L.length):∃b sl,ks[i]? =some (some ⟨b,0,none⟩)∧sl.data.toList=L[i].1∧RxN W h b sl L[i].2.1 L[i].2.2:=by
 have c:i<ks.length:=by rw[r.1];exact hi
 have hz:i<(ks.zip L).length:=by rw[List.length_zip];omega
 have:=r.2 _ (aY hz);rw[List.getElem_zip]at this;obtain⟨b,sl,a,d,f⟩:=this;exact⟨b,sl,by rw[ag c];exact congrArg some a,d,f⟩
theorem D7:∀{L:List Bn} {c:Nat},L.Pairwise (fun m n=>hd m.1<hd n.1)→(∀n∈L,c≤hd n.1)→L= []∨c+L.length≤256
 | [],_,_,_=>.inl rfl
 |n::L,c,a,hc=>by
  have a:=bA.1 a;have b:=hc n (aC ..);have d:=YZ n.1;rcases D7 (c:=hd n.1+1) a.2 fun m hm=>a.1 m hm with e|e
  ·rw[e];right;simp only[aF];omega
  ·right;rw[aH];omega
theorem kJ{F:Fo}(h:fU F):F.toL.length≤256:=by
 rcases D7 (c:=0) (fi.1 h).1 fun _ _=>bj _ with e|e
 ·rw[e];simp
 ·omega
theorem dI{h:af}{b i:Nat}{c:Array Value}(a:h[b]? =some (.cells c bS (0,0))):aR h (adr ⟨b,0,none⟩ i)=c[i]?:=by rw[cd,aU];exact bI a
theorem Vo{h:af}{b i:Nat}{c:Array Value}(a:h[b]? =some (.cells c bS (0,0))) (hi:i<c.size):Wr h (adr ⟨b,0,none⟩ i):=by rw[cd,aU];exact jd a hi
theorem Hb{h:af}{b i:Nat}{c c':Array Value}{v:Value}{k:af→Prop}(f:h[b]? =some (.cells c bS (0,0))) (e:c.setIfInBounds i v=c') (j:∀a,a[b]? =some (.cells c' bS (0,0))→Upd (· =b) h a→k a):At (hset h (adr ⟨b,0,none⟩ i) v) k:=by
 rw[cd,aU];exact xW f fun a d g=>j a (e▸d) g
theorem Og(s:ByteArray)(i:Nat):s[i]? =s.data.toList[i]?:=by
 rw[Array.getElem?_toList];by_cases h:i<s.size
 ·rw[getElem?_pos s i h,getElem?_pos s.data i h];rfl
 ·rw[getElem?_neg s i h,getElem?_neg s.data i h]
theorem Ei{s:ByteArray}(a:s.data.toList≠[]):∃c:UInt8,s[0]? =some c∧c.toNat=hd s.data.toList:=by
 rw[Og];match s.data.toList,a with
 |c::l,_=>exact⟨c,rfl,rfl⟩
theorem D5{W:Nat→Prop}{h:af}{b:Nat}{sl:ByteArray}{w:Option ByteArray}{F:Fo}(r:RxN W h b sl w F)(hc:fU F){c:Nat}(hc8:c<256){K:Int×Bool→af→Prop}
  (H:∀i ok,i≤F.toL.length→(∀j (z:j<F.toL.length),j<i→hd F.toL[j].1<c)→(∀j (z:j<F.toL.length),i≤j→c≤hd F.toL[j].1)→(ok=true↔∃hi:i<F.toL.length,hd F.toL[i].1=c)→K ((i:Int),ok) h):HC PG kE [.pointer (some ⟨b,0,none⟩),.int .u8 c] [.c (.int .i64),.c .bool] K h:=by
 refine Di _ c ?_;unfold vC aK;obtain⟨val,s,ow,ks,hb,_,Z,hcap,hF⟩:=r;refine⟨_,rfl,s,dI (i:=3) hb,?_⟩;have N:=rB.1 hF;have f:=fi.1 hc;have hn:=kJ hc;have y:=Z.len;rw[N.1]at y;generalize hLe:F.toL=L at N f hn y H;refine iA s c _ ?_;unfold eT bH cS yH GM
 have D:∀{i:Nat} (hi:i<L.length) {K:Int→af→Prop},K ((hd L[i].1:Int)-(c:Int)) h→∃a,s.a=some a∧∃v,aR h (adr a (i*1))=some (.pointer v)∧HV PG (.func (.func oz) #[] #[]) [.pointer v,.int .u8 c] [.c (.int .i64)] K h:=by
  intro i hi K H;obtain⟨kb,G,T,E,O⟩:=N.at hi;obtain⟨a,ha,_,hv⟩:=Z.at0 T;refine⟨a,ha,_,hv,HV.mk' (Au (some ⟨kb,0,none⟩) c ?_)⟩;unfold tw bo;obtain⟨kval,kss,kow,kks,P,_⟩:=O;have R:G.data.toList≠[]:=by rw[E];exact(f.2 _ (aY hi)).1
  obtain⟨u,hu,J⟩:=Ei R;refine⟨_,rfl,G,dI (i:=0) P,u,Int.le_refl _,hu,?_⟩;simp only[Bd];have d:=YZ L[i].1;rw[J,E,jj (x:=(hd L[i].1:Int)) (by omega),jj (x:=(c:Int)) (by omega),jj (by omega)];exact H
 have mono:∀i j (hi:i<L.length) (z:j<L.length),i<j→hd L[i].1<hd L[j].1:=fun i j hi z k=>List.pairwise_iff_getElem.1 f.1 i j hi z k
 refine LoopP.ghost (fun(g:Nat×Nat) (t:Int×Int) h'=>t.1=(g.1:Int)∧t.2=(g.2:Int)∧g.1≤g.2∧g.2≤L.length∧h'=h∧(∀j (z:j<L.length),j<g.1→hd L[j].1<c)∧(∀j (z:j<L.length),g.2≤j→c≤hd L[j].1)) (fun g=>g.2-g.1) (0,L.length)
  ⟨rfl,by simp only;omega,by simp,by simp,rfl,fun j z h=>by omega,fun j z h=>by simp only at h;omega⟩ ?_
 rintro I ⟨i,j⟩ ⟨ti,tj⟩ h' ⟨e1,V,k,o,rfl,p,n⟩ X;simp only at e1 V k o p n;subst e1 V;refine aM (fun d=>?_) fun Q=>?_
 ·have d:i<j:=by have:(i:Int)<(j:Int):=d;omega
  have em:IntKind.wrap .i64 (Int.fdiv (IntKind.wrap .u64 (IntKind.wrap .i64 ((i:Int)+(j:Int)))) (2^(min (1:Int).toNat (IntKind.bits .u64))))=(((i+j)/2:Nat):Int):=by
   have e3:(2^(min (1:Int).toNat (IntKind.bits .u64)):Int)=2:=rfl;rw[e3,jj (x:=(i:Int)+(j:Int)) (by omega),Go.IntWalk.u64_in _ (by omega),Int.fdiv_eq_ediv_of_nonneg _ (by omega),jj (by omega)];omega
  refine⟨by decide,?_⟩;simp only[Bd];rw[em];generalize hm:(i+j)/2=m;have A:m<L.length:=by omega
  refine⟨by omega,?_⟩;refine D A ?_;refine aM (fun Y=>?_) fun hpos=>?_
  ·refine X (m+1,j) _ _ ⟨by simp only;rw[jj (by omega)];omega,rfl,by simp only;omega,o,rfl,fun q S B=>?_,n⟩ (by simp only;omega)
   simp only at B;rcases bO q m with h|h
   ·have:=mono q m S A h;omega
   ·have:q=m:=by omega
    subst this;omega
  ·refine X (i,m) _ _ ⟨rfl,rfl,by simp only;omega,by simp only;omega,rfl,p,fun q S B=>?_⟩ (by simp only;omega)
   simp only at B;rcases bO m q with h|h
   ·have:=mono m q A S h;omega
   ·have:q=m:=by omega
    subst this;omega
 ·have k:i=j:=by have:¬(i:Int)<(j:Int):=Q;omega
  subst k;refine aM (fun d=>?_) fun M=>?_
  ·have C:i<L.length:=by have:(i:Int)<(s.len:Int):=d;omega
   refine⟨by simp only;omega,?_⟩;refine D C ?_;refine H i _ o p n ?_;rw[beq_iff_eq];exact⟨fun h=>⟨C,by omega⟩,fun⟨_,h⟩=>by omega⟩
  ·have C:i=L.length:=by have:¬(i:Int)<(s.len:Int):=M;omega
   exact H i false o p n ⟨fun h=>(by cases h),fun h=>(by obtain⟨h,_⟩:=h;omega)⟩
end Go.Proofs
namespace Go.Proofs
open Go Go.Lift
abbrev YT:List Value:= [.string (⟨#[]⟩:ByteArray),.bool false,.string (⟨#[]⟩:ByteArray),.slice none 0 0,.pointer none]
theorem xy{h:af}{b:Nat}{sl nl:ByteArray}{has:Bool}{val:ByteArray}{s:SliceV}{ow:Option Addr}(a:h[b]? =some (.cells (zP sl has val s ow) bS (0,0))) {K:Option Addr→af→Prop}
  (c:∀h',h'[b]? =some (.cells (zP nl has val s ow) bS (0,0))→Upd (· =b) h h'→K (some ⟨b,0,none⟩) h'):HC PG ix [.pointer (some ⟨b,0,none⟩),.string nl] [.c .ptr] K h:=by
 refine BU _ nl ?_;unfold uB cz;exact⟨_,rfl,Vo (i:=0) a (show 0<5 by decide),Hb (i:=0) (c':=zP nl has val s ow) a rfl c⟩
theorem uR{h:af}{b:Nat}{sl v:ByteArray}{has:Bool}{val:ByteArray}{s:SliceV}{ow:Option Addr}(d:h[b]? =some (.cells (zP sl has val s ow) bS (0,0))) {K:Option Addr→af→Prop}
  (f:∀h',h'[b]? =some (.cells (zP sl true v s ow) bS (0,0))→Upd (· =b) h h'→K (some ⟨b,0,none⟩) h'):HC PG gZ [.pointer (some ⟨b,0,none⟩),.string v] [.c .ptr] K h:=by
 refine Ar _ v ?_;unfold tl cz;exact⟨_,rfl,Vo (i:=1) d (show 1<5 by decide),Hb (i:=1) (c':=zP sl true val s ow) d rfl fun j b1 c=>⟨_,rfl,Vo (i:=2) b1 (show 2<5 by decide),Hb (i:=2) (c':=zP sl true v s ow) b1 rfl fun g b2 a=>f g b2 (c.tr a)⟩⟩
theorem CX(s:ByteArray)(c:Nat):(s.extract 0 c).data.toList=s.data.toList.take c:=by
 rw[qK,Array.toList_extract,ij];simp
theorem CY(s:ByteArray)(c:Nat):(s.extract c s.size).data.toList=s.data.toList.drop c:=by
 rw[qK,Array.toList_extract,ij,List.take_of_length_le];rw[aZ];simp
end Go.Proofs
namespace Go.Proofs
open Go Go.Lift
theorem K3:∀{x y:List UInt8} {i:Nat},i≤x.length→i≤y.length→(∀j,j<i→x[j]? =y[j]?)→(i=x.length∨i=y.length∨x[i]?≠y[i]?)→cm x y=i
 | [],_,i,h1,_,_,_=>by simp at h1;simp[cm,h1]
 |_::_,[],i,_,h2,_,_=>by simp at h2;simp[cm,h2]
 |a::x,b::y,0,_,_,_,h=>by
  unfold cm;rw[if_neg];rintro rfl;rcases h with h|h|h<;>simp at h
 |a::x,b::y,i+1,h1,h2,h3,h4=>by
  have:=h3 0 (by omega);simp only[cB,bQ.injEq]at this;unfold cm;rw[if_pos this,K3 (i:=i) (by simpa using h1) (by simpa using h2) (fun j c=>by simpa using h3 (j+1) (by omega)) (by simpa using h4)]
theorem T8{a b:ByteArray}(C:a.size≤1000000){h:af}{K:Int→af→Prop}(n:K (cm a.data.toList b.data.toList:Nat) h):HC PG wa [.string a,.string b] [.c (.int .i64)] K h:=by
 refine Jt a b ?_;unfold AR;simp only[Bd];have g:(if(b.size:Int)<(a.size:Int)then(b.size:Int)else(a.size:Int))=((min a.size b.size:Nat):Int):=by split<;>omega
 rw[g];have B:a.data.toList.length=a.size:=by simp
 have A:b.data.toList.length=b.size:=by simp
 refine LoopP.ghost (fun(i:Nat) (t:Int) w=>t=(i:Int)∧i≤min a.size b.size∧w=h∧∀j,j<i→a.data.toList[j]? =b.data.toList[j]?) (fun i=>min a.size b.size-i) 0 ⟨rfl,bj _,rfl,fun j u=>absurd u (ji _)⟩ ?_
 rintro I i t w ⟨rfl,hi,rfl,o⟩ y;refine aM (fun c=>?_) fun z=>?_
 ·have c:i<min a.size b.size:=by omega
  have k:i<a.size:=by omega
  have f:i<b.size:=by omega
  refine⟨a[i],by omega,by rw[aX,getElem?_pos a i k],b[i],by omega,by rw[aX,getElem?_pos b i f],?_⟩
  have v:a.data.toList[i]? =some a[i]:=by rw[←Og,getElem?_pos a i k]
  have s:b.data.toList[i]? =some b[i]:=by rw[←Og,getElem?_pos b i f]
  refine CondP.intro (fun m=>?_) fun d=>?_
  ·rw[K3 (i:=i) (by omega) (by omega) o (.inr (.inr fun e=>?_))]at n
   ·exact n
   ·rw[v,s]at e
    rw[bQ.inj e]at m;simp at m
  ·have d:a[i]=b[i]:=by
    have:((a[i].toNat:Int))=(b[i].toNat:Int):=by simpa using d
    exact UInt8.toNat_inj.1 (by omega)
   rw[cO c (by omega)];refine y (i+1) _ _ ⟨rfl,c,rfl,fun j u=>?_⟩ (by omega)
   rcases bO j i with q|q
   ·exact o j q
   ·have:j=i:=by omega
    subst this;rw[v,s,d]
 ·have p:i=min a.size b.size:=by omega
  rw[K3 (i:=i) (by omega) (by omega) o (by omega)]at n;rw[←p];exact n
theorem Tz{F:Fo}{i:Nat}{k:List UInt8}{v:ByteArray}(h:fU F)(hi:i<F.toL.length)(ek:hd F.toL[i].1=hd k)(a:wq (um F.toL[i]) (um F.toL[i]) k v):wq (qt F) (qt F) k v:=by
 have:=NJ h hi ek a;rw[List.set_getElem_self,Fo.of_to]at this;exact this
theorem VB{P Q a:List UInt8→ByteArray→Prop}{k:List UInt8}{v:ByteArray}(h:wq P a k v)(e:∀k v,P k v↔Q k v):wq Q a k v:=fun k' b=>by rw[h k' b,e]
end Go.Proofs
namespace Go.Proofs
open Go Go.Lift
def Dj(S T:Nat→Prop):Prop:=∀y,S y→¬T y
def PD(Ts:List (Nat→Prop)):Prop:=∀(i j:Nat) (S T:Nat→Prop),i≠j→Ts[i]? =some S→Ts[j]? =some T→Dj S T
def FoO(o:Option Addr)(W:Nat→Prop)(h:af):Fo→List (Option Addr)→List (Nat→Prop)→Prop
 | .nil,ks,Ts=>ks= []∧Ts= []
 | .cons lab w kids rest,ks,Ts=>∃(b:Nat) (sl:ByteArray) (ks':List (Option Addr)) (S:Nat→Prop) (Ts':List (Nat→Prop)),ks=some ⟨b,0,none⟩::ks'∧Ts=S::Ts'∧sl.data.toList=lab∧
  ((RxN W h b sl w kids∧∀y,¬S y)∨(o.isSome=true∧∃(val:ByteArray) (s:SliceV) (ks1:List (Option Addr)) (A:Nat→Prop) (Us:List (Nat→Prop)),h[b]? =some (.cells (zP sl w.isSome val s o) bS (0,0))∧val=w.getD ⟨#[]⟩∧OwnS m9 1 bw A h s ks1∧
   (∀y,A y→S y∧y≠b∧y<h.size)∧S b∧(∀U∈Us,∀y,U y→S y∧¬A y∧y≠b)∧PD Us∧FoO o W h kids ks1 Us))∧FoO o W h rest ks' Ts'
def RxO(o:Option Addr)(W:Nat→Prop)(h:af)(b:Nat)(sl:ByteArray)(w:Option ByteArray)(F:Fo)(S:Nat→Prop):Prop:=
 (RxN W h b sl w F∧∀y,¬S y)∨(o.isSome=true∧∃(val:ByteArray) (s:SliceV) (ks1:List (Option Addr)) (A:Nat→Prop) (Us:List (Nat→Prop)),h[b]? =some (.cells (zP sl w.isSome val s o) bS (0,0))∧val=w.getD ⟨#[]⟩∧OwnS m9 1 bw A h s ks1∧
  (∀y,A y→S y∧y≠b∧y<h.size)∧S b∧(∀U∈Us,∀y,U y→S y∧¬A y∧y≠b)∧PD Us∧FoO o W h F ks1 Us)
theorem V3{o:Option Addr}{W:Nat→Prop}{h:af}{lab:List UInt8}{w:Option ByteArray}{a c:Fo}{ks:List (Option Addr)}{Ts:List (Nat→Prop)}:
 FoO o W h (.cons lab w a c) ks Ts↔∃b sl ks' S Ts',ks=some ⟨b,0,none⟩::ks'∧Ts=S::Ts'∧sl.data.toList=lab∧RxO o W h b sl w a S∧FoO o W h c ks' Ts':=Iff.rfl
def KidO(o:Option Addr)(W:Nat→Prop)(h:af)(k:Option Addr)(n:Bn)(S:Nat→Prop):Prop:=∃b sl,k=some ⟨b,0,none⟩∧sl.data.toList=n.1∧RxO o W h b sl n.2.1 n.2.2 S
def LsO(o:Option Addr)(W:Nat→Prop)(h:af)(ks:List (Option Addr))(L:List Bn)(Ts:List (Nat→Prop)):Prop:=ks.length=L.length∧Ts.length=L.length∧∀(i:Nat) (k:Option Addr) (n:Bn) (S:Nat→Prop),ks[i]? =some k→L[i]? =some n→Ts[i]? =some S→KidO o W h k n S
theorem Gw{o:Option Addr}{W:Nat→Prop}{h:af}:∀{F:Fo} {ks:List (Option Addr)} {Ts:List (Nat→Prop)},FoO o W h F ks Ts↔LsO o W h ks F.toL Ts
 | .nil,ks,Ts=>by
  constructor
  ·rintro⟨rfl,rfl⟩;exact⟨rfl,rfl,fun i k n S h=>by simp at h⟩
  ·rintro⟨g,d,_⟩;exact⟨aO.1 g,aO.1 d⟩
 | .cons lab w kids rest,ks,Ts=>by
  rw[V3,Fo.toL_cons];constructor
  ·rintro⟨b,sl,j,S,Ts',rfl,rfl,e,r,f⟩
   obtain⟨g,d,m⟩:=Gw.1 f;refine⟨by simp[g],by simp[d],fun i k n p ek c a=>?_⟩
   cases i with
   |zero=>
    simp only[cB,bQ.injEq]at ek c a;subst ek c a;exact⟨b,sl,rfl,e,r⟩
   |succ i=>
    simp only[d9]at ek c a;exact m i k n p ek c a
  ·rintro⟨g,d,m⟩
   cases ks with
   |nil=>simp at g
   |cons k j=>
    cases Ts with
    |nil=>simp at d
    |cons S Ts'=>
     obtain⟨b,sl,s,q,r⟩:=m 0 k _ S rfl rfl rfl;exact⟨b,sl,j,S,Ts',by rw[s],rfl,q,r,Gw.2 ⟨by simpa using g,by simpa using d,fun i k n p ek c a=>m (i+1) k n p ek c a⟩⟩
theorem FoO.freeze{o:Option Addr}{W W':Nat→Prop}{h:af}(n:∀y,W' y→W y)(j:OwOk W' h o):∀{F:Fo} {ks:List (Option Addr)} {Ts:List (Nat→Prop)},FoO o W h F ks Ts→(∀U∈Ts,∀y,U y→¬W' y)→RxF W' h F ks
 | .nil,_,_,f,_=>f.1
 | .cons lab w kids rest,ks,Ts,⟨b,sl,ks',S,Ts',e1,e2,e3,r,f⟩,hT=>by
  subst e1 e2;have q:=FoO.freeze n j f fun U g=>hT U (aV _ g)
  have i:=hT S (aC ..);rcases r with⟨r,_⟩|⟨_,val,s,a,A,Us,u,hv,p,m,d,g,_,E⟩
  ·obtain⟨val,s,ow,a,B,z,D,v,C⟩:=RxN.less (fun y c=>.inl (n y c)) r
   exact⟨b,sl,val,s,ow,a,ks',rfl,e3,B,z,D,v,C,q⟩
  ·exact⟨b,sl,val,s,o,a,ks',rfl,e3,u,hv,p.sl fun y c _=>i y (m y c).1,⟨p.cap,i b d,j⟩,FoO.freeze n j E fun U k y c=>i y (g U k y c).1,q⟩
theorem RxO.freeze{o:Option Addr}{W W':Nat→Prop}{h:af}(k:∀y,W' y→W y)(m:OwOk W' h o){b:Nat}{sl:ByteArray}{w:Option ByteArray}{F:Fo}{S:Nat→Prop}(r:RxO o W h b sl w F S)(d:∀y,S y→¬W' y):RxN W' h b sl w F:=by
 rcases r with⟨r,_⟩|⟨_,val,s,g,A,Us,n,hv,j,i,c,p,_,q⟩
 ·exact RxN.less (fun y a=>.inl (k y a)) r
 ·exact⟨val,s,o,g,n,hv,j.sl fun y a _=>d y (i y a).1,⟨j.cap,d b c,m⟩,FoO.freeze k m q fun U f y a=>d y (p U f y a).1⟩
theorem RxO.read{o w':Option Addr}{W S:Nat→Prop}{h:af}{b:Nat}{sl:ByteArray}{w:Option ByteArray}{F:Fo}(r:RxO o W h b sl w F S)(t:By h w' o):RxN No h b sl w F:=
 r.freeze (fun _ h=>h.elim) (fun a e=>⟨id,t.plain a (t.tok e)⟩) fun _ _ h=>h
theorem RxO.off{W S:Nat→Prop}{h:af}{b:Nat}{sl:ByteArray}{w:Option ByteArray}{F:Fo}(r:RxO none W h b sl w F S):RxN W h b sl w F∧∀y,¬S y:=r.elim id fun h=>absurd h.1 (by simp)
theorem FoO.upd{o:Option Addr}{W M:Nat→Prop}{h u:af}(k:Upd M h u):∀{F:Fo} {ks:List (Option Addr)} {Ts:List (Nat→Prop)},FoO o W h F ks Ts→(∀U∈Ts,∀y,U y→y<h.size)→(∀y,M y→(W y∧∀U∈Ts,¬U y)∨h.size≤y)→FoO o W u F ks Ts
 | .nil,_,_,f,_,_=>f
 | .cons lab w kids rest,ks,Ts,⟨b,sl,ks',S,Ts',e1,e2,e3,r,f⟩,hT,hm=>by
  subst e1 e2;have q:=FoO.upd k f (fun U d=>hT U (aV _ d)) fun y a=>(hm y a).imp (fun h=>⟨h.1,fun U d=>h.2 U (aV _ d)⟩) id
  have n:=hT S (aC ..);have i:∀y,M y→(W y∧¬S y)∨h.size≤y:=fun y a=>(hm y a).imp (fun h=>⟨h.1,h.2 S (aC ..)⟩) id
  have p:∀y,S y→¬M y:=fun y a hM=>by
   have:=n y a;rcases i y hM with h|h
   ·exact h.2 a
   ·omega
  have z:=k.size;rcases r with⟨r,e⟩|⟨e,val,s,m,A,Us,v,hv,C,c,j,d,D,E⟩
  ·exact⟨b,sl,ks',S,Ts',rfl,rfl,e3,.inl ⟨RxN.updM k (fun y a=>(i y a).imp (fun h=>h.1) id) r,e⟩,q⟩
  ·exact⟨b,sl,ks',S,Ts',rfl,rfl,e3,.inr ⟨e,val,s,m,A,Us,k.get v (p b j),hv,C.upd k fun y a=>p y (c y a).1,fun y a=>⟨(c y a).1,(c y a).2.1,by have:=(c y a).2.2;omega⟩,j,d,D,FoO.upd k E (fun U g y a=>n y (d U g y a).1) fun y a=>(i y a).imp (fun h=>⟨h.1,fun U g B=>h.2 (d U g y B).1⟩) id⟩,q⟩
theorem RxO.upd{o:Option Addr}{W M:Nat→Prop}{h i:af}(k:Upd M h i){b:Nat}{sl:ByteArray}{w:Option ByteArray}{F:Fo}{S:Nat→Prop}(r:RxO o W h b sl w F S)(j:∀y,S y→y<h.size)(hm:∀y,M y→(W y∧¬S y)∨h.size≤y):RxO o W i b sl w F S:=by
 have:=FoO.upd (F:=.cons sl.data.toList w F .nil) k (ks:= [some ⟨b,0,none⟩]) (Ts:= [S]) ⟨b,sl,[],S,[],rfl,rfl,rfl,r,rfl,rfl⟩ (fun U f=>by rw[au.1 f];exact j) fun y p=>(hm y p).imp (fun h=>⟨h.1,fun U f=>by rw[au.1 f];exact h.2⟩) id
 obtain⟨s,a,m,q,Ts',c,d,g,n,_⟩:=this;simp only[fH.injEq,bQ.injEq,Addr.mk.injEq,and_true]at c d;obtain⟨c,_⟩:=c;obtain⟨d,_⟩:=d;subst c d;have g:a=sl:=by cases a;cases sl;exact congrArg kO (iG.1 g)
 subst g;exact n
theorem FoO.upd0{o:Option Addr}{W:Nat→Prop}{h i:af}(k:Upd No h i):∀{F:Fo} {ks:List (Option Addr)} {Ts:List (Nat→Prop)},FoO o W h F ks Ts→FoO o W i F ks Ts
 | .nil,_,_,f=>f
 | .cons lab w kids rest,ks,Ts,⟨b,sl,ks',S,Ts',e1,e2,e3,r,f⟩=>by
  have z:=k.size;refine⟨b,sl,ks',S,Ts',e1,e2,e3,?_,FoO.upd0 k f⟩;rcases r with⟨r,e⟩|⟨e,val,s,d,A,Us,j,hv,n,a,c,m,p,q⟩
  ·exact .inl ⟨RxN.upd0 k r,e⟩
  ·exact .inr ⟨e,val,s,d,A,Us,k.get0 j,hv,n.upd k fun _ _ h=>h,fun y g=>⟨(a y g).1,(a y g).2.1,by have:=(a y g).2.2;omega⟩,c,m,p,FoO.upd0 k q⟩
theorem RxO.upd0{o:Option Addr}{W S:Nat→Prop}{h g:af}(k:Upd No h g){b:Nat}{sl:ByteArray}{w:Option ByteArray}{F:Fo}(r:RxO o W h b sl w F S):RxO o W g b sl w F S:=by
 have z:=k.size;rcases r with⟨r,e⟩|⟨e,val,s,d,A,Us,i,hv,m,a,c,j,n,p⟩
 ·exact .inl ⟨RxN.upd0 k r,e⟩
 ·exact .inr ⟨e,val,s,d,A,Us,k.get0 i,hv,m.upd k fun _ _ h=>h,fun y f=>⟨(a y f).1,(a y f).2.1,by have:=(a y f).2.2;omega⟩,c,j,n,FoO.upd0 k p⟩
theorem FoO.less{o:Option Addr}{W W':Nat→Prop}{h:af}(hm:∀y,W' y→W y∨h.size≤y):∀{F:Fo} {ks:List (Option Addr)} {Ts:List (Nat→Prop)},FoO o W h F ks Ts→FoO o W' h F ks Ts
 | .nil,_,_,f=>f
 | .cons lab w kids rest,ks,Ts,⟨b,sl,ks',S,Ts',e1,e2,e3,r,f⟩=>by
  refine⟨b,sl,ks',S,Ts',e1,e2,e3,?_,FoO.less hm f⟩;rcases r with⟨r,e⟩|⟨e,val,s,c,A,Us,g,hv,j,d,a,i,k,m⟩
  ·exact .inl ⟨RxN.less hm r,e⟩
  ·exact .inr ⟨e,val,s,c,A,Us,g,hv,j,d,a,i,k,FoO.less hm m⟩
theorem RxO.less{o:Option Addr}{W W' S:Nat→Prop}{h:af}(hm:∀y,W' y→W y∨h.size≤y){b:Nat}{sl:ByteArray}{w:Option ByteArray}{F:Fo}(r:RxO o W h b sl w F S):RxO o W' h b sl w F S:=by
 rcases r with⟨r,e⟩|⟨e,val,s,c,A,Us,f,hv,i,d,a,g,j,k⟩
 ·exact .inl ⟨RxN.less hm r,e⟩
 ·exact .inr ⟨e,val,s,c,A,Us,f,hv,i,d,a,g,j,FoO.less hm k⟩
theorem KidO.upd{o:Option Addr}{W M:Nat→Prop}{h c:af}(k:Upd M h c){a:Option Addr}{n:Bn}{S:Nat→Prop}(r:KidO o W h a n S)(f:∀y,S y→y<h.size)(hm:∀y,M y→(W y∧¬S y)∨h.size≤y):KidO o W c a n S:=let⟨b,sl,d,g,r⟩:=r;⟨b,sl,d,g,r.upd k f hm⟩
theorem KidO.less{o:Option Addr}{W W' S:Nat→Prop}{h:af}(hm:∀y,W' y→W y∨h.size≤y){a:Option Addr}{n:Bn}(r:KidO o W h a n S):KidO o W' h a n S:=let⟨b,sl,c,d,r⟩:=r;⟨b,sl,c,d,r.less hm⟩
theorem ZI{o:Option Addr}{W:Nat→Prop}{h:af}{F:Fo}{ks:List (Option Addr)}(f:RxF W h F ks):LsO o W h ks F.toL (List.replicate F.toL.length No):=by
 have g:=rB.1 f;refine⟨g.1,by simp,fun i k n S ek c a=>?_⟩
 obtain⟨hi,c⟩:=List.getElem?_eq_some_iff.1 c;obtain⟨b,sl,d,j,r⟩:=g.at hi;rw[ek]at d;cases d;have a:S=No:=by
  rw[List.getElem?_replicate,if_pos hi]at a;exact(bQ.inj a).symm
 subst a c;exact⟨b,sl,rfl,j,.inl ⟨r,fun _ h=>h⟩⟩
theorem RxO.view{o:Option Addr}{W S:Nat→Prop}{h:af}{b:Nat}{sl:ByteArray}{w:Option ByteArray}{F:Fo}(r:RxO o W h b sl w F S):
  ∃(val:ByteArray) (s:SliceV) (ow:Option Addr) (ks:List (Option Addr)) (Us:List (Nat→Prop)),h[b]? =some (.cells (zP sl w.isSome val s ow) bS (0,0))∧val=w.getD ⟨#[]⟩∧Sl m9 1 No h s ks∧LsO o W h ks F.toL Us∧(∀U∈Us,∀y,U y→S y)∧PD Us∧
   ((OwOk W h ow∧(¬W b)∧Sl m9 1 W h s ks∧∀y,¬S y)∨(o.isSome=true∧ow=o∧∃A:Nat→Prop,OwnS m9 1 bw A h s ks∧(∀y,A y→S y∧y≠b∧y<h.size)∧S b∧∀U∈Us,∀y,U y→¬A y∧y≠b)):=by
 rcases r with⟨⟨val,s,ow,ks,B,z,p,n,C⟩,e⟩|⟨e,val,s,g,A,Us,q,hv,m,k,f,d,v,D⟩
 ·refine⟨val,s,ow,ks,_,B,z,p.less fun _ h=>h.elim,ZI C,fun U d y a=>?_,fun i j S T _ u E y a _=>?_,.inl ⟨n.2.2,n.2.1,p,e⟩⟩
  ·rw[List.eq_of_mem_replicate d]at a;exact a.elim
  ·rw[List.eq_of_mem_replicate (aE u)]at a;exact a.elim
 ·exact⟨val,s,o,g,Us,q,hv,m.sl fun _ _ _ h=>h,Gw.1 D,fun U c y a=>(d U c y a).1,v,.inr ⟨e,rfl,A,m,k,f,fun U c y a=>(d U c y a).2⟩⟩
def SR(o:Option Addr)(b:Nat)(A:Nat→Prop)(Us:List (Nat→Prop))(y:Nat):Prop:=o.isSome=true∧(y=b∨A y∨∃U∈Us,U y)
theorem yR{o:Option Addr}{W:Nat→Prop}{h:af}{b:Nat}{sl val:ByteArray}{s:SliceV}{w:Option ByteArray}{F:Fo}{ks:List (Option Addr)}{A:Nat→Prop}{Us:List (Nat→Prop)}(v:h[b]? =some (.cells (zP sl w.isSome val s o) bS (0,0))) (hv:val=w.getD ⟨#[]⟩) (k:OwnS m9 1 bw A h s ks)
  (q:∀y,A y→y≠b∧y<h.size) (z:∀U∈Us,∀y,U y→¬A y∧y≠b) (m:PD Us) (g:LsO o W h ks F.toL Us) (C:o=none→(∀y,A y→¬W y)∧¬W b):RxO o W h b sl w F (SR o b A Us):=by
 cases o with
 |none=>
  obtain⟨G,D⟩:=C rfl;refine .inl ⟨⟨val,s,none,ks,v,hv,k.sl fun y c _=>G y c,⟨k.cap,D,mA⟩,rB.2 ⟨g.1,fun p m=>?_⟩⟩,fun y c=>by simp[SR]at c⟩
  obtain⟨i,hi,e⟩:=List.getElem_of_mem m;rw[List.length_zip]at hi;have u:i<ks.length:=by omega
  have f:i<F.toL.length:=by omega
  have j:i<Us.length:=by rw[g.2.1];exact f
  rw[List.getElem_zip]at e;subst e;obtain⟨H,n,B,E,r⟩:=g.2.2 i _ _ _ (ag u) (ag f) (ag j);exact⟨H,n,B,E,r.off.1⟩
 |some a=>exact .inr ⟨rfl,val,s,ks,A,Us,v,hv,k,fun y c=>⟨⟨rfl,.inr (.inl c)⟩,q y c⟩,⟨rfl,.inl rfl⟩,fun U d y c=>⟨⟨rfl,.inr (.inr ⟨U,d,c⟩)⟩,z U d y c⟩,m,Gw.2 g⟩
end Go.Proofs
namespace Go.Proofs
open Go Go.Lift
theorem G7{h:af}{w o:Option Addr}{b:Nat}{sl val:ByteArray}{has:Bool}{s:SliceV}{ow:Option Addr}(t:By h w o)(f:h[b]? =some (.cells (zP sl has val s ow) bS (0,0))) (d:∀a,ow=some a→fA h a) {K:Bool→af→Prop} (c:K (o.isSome&&(ow==w)) h):
  HC PG pz [.pointer (some ⟨b,0,none⟩),.pointer w] [.c .bool] K h:=by
 refine BV _ w ?_;unfold uC eH;refine aA.2 (CP t ?_);cases o with
 |none=>exact aj.2 c
 |some a=>exact aA.2 ⟨_,rfl,ow,dI (i:=4) f,trivial,fun x y hx g=>⟨d x hx,t.plain y g⟩,c⟩
theorem mz{W S:Nat→Prop}{h:af}{w o:Option Addr}{b:Nat}{sl val:ByteArray}{has:Bool}{s:SliceV}{ow:Option Addr}{ks:List (Option Addr)}{Us:List (Nat→Prop)}(t:By h w o)(Z:∀a,o=some a→W a.block)(g:h[b]? =some (.cells (zP sl has val s ow) bS (0,0))) (hn:ks.length≤256)
  (J:(OwOk W h ow∧Sl m9 1 No h s ks∧(∀U∈Us,∀y,U y→y<h.size))∨(o.isSome=true∧ow=o∧∃A:Nat→Prop,OwnS m9 1 bw A h s ks∧(∀y,A y→S y∧y≠b∧y<h.size)∧S b∧∀U∈Us,∀y,U y→¬A y∧y≠b)) {K:Option Addr→af→Prop}
  (V:∀h' b' s' A,h'[b']? =some (.cells (zP sl has val s' o) bS (0,0))→OwnS m9 1 bw A h' s' ks→(∀y,A y→(S y∨h.size≤y)∧y≠b'∧y<h'.size)→(S b'∨h.size≤b')→(∀U∈Us,∀y,U y→¬A y∧y≠b')→Upd No h h'→K (some ⟨b',0,none⟩) h'):
  HC PG ey [.pointer (some ⟨b,0,none⟩),.pointer w] [.c .ptr] K h:=by
 refine EK _ w ?_;unfold xe bo nv cz eH uP aK dZ M6 aaw;rcases J with⟨z,J,B⟩|⟨e,M,A,X,q,I,B⟩
 ·refine G7 t g (fun a e=>(z a e).2) ?_
  have H:(o.isSome&&(ow==w))=false:=by
   cases ho:o with
   |none=>rfl
   |some a=>
    have e:=t.tok ho;rw[Option.isSome_some,wB,beq_eq_false_iff_ne];intro k;rw[e]at k;exact(z a k).1 (Z a ho)
  rw[H];refine aj.2 ⟨_,rfl,sl,dI (i:=0) g,has,dI (i:=1) g,val,dI (i:=2) g,s,dI (i:=3) g,ow,dI (i:=4) g,ce ?_⟩;have k1:=Upd.hnew No h YT bS;have b1:=dq h YT bS;simp only[fX h];generalize hnew h [.string (⟨#[]⟩:ByteArray),.bool false,.string (⟨#[]⟩:ByteArray),.slice none 0 0,.pointer none] bS=h1 at k1 b1;refine cW (c:=YT) (vs:= [.string sl,.bool has,.string val,.slice s.a s.len s.cap,.pointer ow]) b1 rfl fun G b2 P=>?_
  have N:Upd No h G:=k1.trans P fun x hx=>.inr (f6 hx.symm)
  have Y:h.size<G.size:=aL b2;have O:=N.get0 g;refine⟨_,rfl,s,dI (i:=3) O,?_⟩;refine K5 (J.upd N fun _ h=>h.elim) (by omega) fun s3 R L j=>?_
  have b3:R[h.size]? =some (.cells (zP sl has val s ow) bS (0,0)):=j.get0 b2;refine⟨Vo (i:=3) b3 (show 3<5 by decide),Hb (i:=3) (c':=zP sl has val s3 ow) b3 rfl fun h4 Q E=>?_⟩
  refine⟨Vo (i:=4) Q (show 4<5 by decide),Hb (i:=4) (c':=zP sl has val s3 none) Q rfl fun T F C=>?_⟩
  have f:=E.tr C;have z3:=j.size;have z5:=f.size;have p:Upd No h T:=(N.tr j).trans f fun x hx=>.inr (f6 hx.symm)
  have fin:∀{n:af},n[h.size]? =some (.cells (zP sl has val s3 o) bS (0,0))→Upd (· =h.size) T n→K (some ⟨h.size,0,none⟩) n:=fun{n} D d=>by
   have z6:=d.size;exact V n h.size s3 (fun x=>G.size≤x∧x<R.size) D (L.within.upd (f.tr d) fun x hx e=>by have e:x=h.size:=e;have:=hx.1;omega) (fun y m=>⟨.inr (by omega),by omega,by omega⟩) (.inr (ao _)) (fun U v y m=>⟨fun h=>by have:=B U v y m;omega,by have:=B U v y m;omega⟩) (p.trans d fun x hx=>.inr (f6 hx.symm))
  refine CP (t.upd0 p) ?_;cases ho:o with
  |none=>rw[ho]at fin;exact aj.2 (fin F (Upd.refl _ _))
  |some a=>
   rw[ho]at fin;rw[t.tok ho];exact aA.2 ⟨Vo (i:=4) F (show 4<5 by decide),Hb (i:=4) (c':=zP sl has val s3 (some a)) F rfl fun n D d=>fin D d⟩
 ·refine G7 t g (fun a k=>t.plain a (t.tok (by rw[←M];exact k))) ?_
  have u:(o.isSome&&(ow==w))=true:=by
   obtain⟨a,k⟩:=Option.isSome_iff_exists.1 e;rw[e,M,k,t.tok k];simp
  rw[u];subst M;exact aA.2 (V h b s A g X (fun y m=>⟨.inl (q y m).1,(q y m).2⟩) (.inl I) B (Upd.refl _ _))
theorem Nv{h:af}{w o:Option Addr}{k v:ByteArray}(t:By h w o){K:Option Addr→af→Prop}(z:∀h' b s A,h'[b]? =some (.cells (zP k true v s o) bS (0,0))→OwnS m9 1 bw A h' s []→(∀y,A y→h.size≤y∧y≠b∧y<h'.size)→h.size≤b→Upd No h h'→K (some ⟨b,0,none⟩) h'):HC PG wc [.pointer w,.string k,.string v] [.c .ptr] K h:=by
 refine Jy w k v ?_;unfold AX Ao uP M6;have k1:=Upd.hnew No h YT bS;have b1:=dq h YT bS;refine ce ?_;simp only[fX h];generalize hnew h [.string (⟨#[]⟩:ByteArray),.bool false,.string (⟨#[]⟩:ByteArray),.slice none 0 0,.pointer none] bS=h1 at k1 b1;have F:=k1.size;refine mz (W:=fun y=>∃a,o=some a∧a.block=y) (S:=No) (Us:= []) (ks:= []) (sl:=⟨#[]⟩) (val:=⟨#[]⟩) (has:=false) (s:=⟨none,0,0⟩) (ow:=none) (t.upd0 k1) (fun a e=>⟨a,e,rfl⟩) b1 (bj _) (.inl ⟨mA,Sl.nil p7,fun U q=>by cases q⟩) fun D b2 s A u f d g _ m=>?_
 refine xy (nl:=k) u fun G b3 j=>uR (v:=v) b3 fun B p i=>?_
 have c:=j.tr i;have C:h1.size≤b2:=g.elim (fun h=>h.elim) id
 have E:=c.size;exact z B b2 s A p (f.upd c fun x hx e=>(d x hx).2.1 e) (fun y n=>⟨(d y n).1.elim (fun h=>h.elim) fun h=>by omega,(d y n).2.1,by have:=(d y n).2.2;omega⟩) (by omega) ((k1.tr m).trans c fun x hx=>.inr (by have hx:x=b2:=hx;omega))
theorem aaQ{o:Option Addr}{W:Nat→Prop}{h:af}{b:Nat}{k v:ByteArray}{s:SliceV}{A:Nat→Prop}(c:h[b]? =some (.cells (zP k true v s o) bS (0,0))) (d:OwnS m9 1 bw A h s []) (a:∀y,A y→y≠b∧y<h.size) (nw:o=none→(∀y,A y→¬W y)∧¬W b):RxO o W h b k (some v) .nil (SR o b A []):=
 yR c rfl d a (fun _ h=>by cases h) (fun i j S T _ e=>by simp at e) ⟨rfl,rfl,fun i k n S e=>by simp at e⟩ nw
theorem LsO.ins{o:Option Addr}{W:Nat→Prop}{h:af}{ks:List (Option Addr)}{L:List Bn}{Ts:List (Nat→Prop)}(r:LsO o W h ks L Ts){i:Nat}(hi:i≤L.length){k:Option Addr}{n:Bn}{S:Nat→Prop}(c:KidO o W h k n S):LsO o W h (ks.take i++k::ks.drop i) (L.take i++n::L.drop i) (Ts.take i++S::Ts.drop i):=by
 obtain⟨s,p,m⟩:=r;have g:∀{α:Type _} {xs:List α} {x:α} {j:Nat},i≤xs.length→(xs.take i++x::xs.drop i)[j]? =if j<i then xs[j]? else if j=i then some x else xs[j-1]?:=fun{α xs x j} q=>by
  split
  ·rename_i hj
   rw[bK (by rw[aP];omega),pM,if_pos hj]
  ·rename_i hj
   rw[bh (by rw[aP];omega),aP,bP q];split
   ·rename_i e;subst e;simp
   ·rename_i e
    have:j-i=(j-i-1)+1:=by omega
    rw[this,d9,pN];congr 1;omega
 refine⟨by simp[s],by simp[p],fun j k' f d ek b a=>?_⟩
 rw[g (by omega)]at ek b a;split at ek
 ·rename_i hj
  rw[if_pos hj]at b a;exact m j k' f d ek b a
 ·rename_i hj
  rw[if_neg hj]at b a;split at ek
  ·rename_i e
   rw[if_pos e]at b a;cases ek;cases b;cases a;exact c
  ·rename_i e
   rw[if_neg e]at b a;exact m (j-1) k' f d ek b a
theorem ZD{Ts:List (Nat→Prop)}(f:PD Ts){i:Nat}(hi:i≤Ts.length){S:Nat→Prop}(d:∀U∈Ts,Dj S U):PD (Ts.take i++S::Ts.drop i):=by
 have g:∀{j:Nat},(Ts.take i++S::Ts.drop i)[j]? =if j<i then Ts[j]? else if j=i then some S else Ts[j-1]?:=fun{j}=>by
  split
  ·rename_i hj
   rw[bK (by rw[aP];omega),pM,if_pos hj]
  ·rename_i hj
   rw[bh (by rw[aP];omega),aP,bP hi];split
   ·rename_i e;subst e;simp
   ·rename_i e
    have:j-i=(j-i-1)+1:=by omega
    rw[this,d9,pN];congr 1;omega
 have dj:∀{A B:Nat→Prop},Dj A B→Dj B A:=fun h y m n=>h y n m
 intro a b A B k c eb;rw[g]at c eb;split at c<;>split at eb
 ·exact f a b A B k c eb
 ·rename_i h1 h2
  split at eb
  ·cases eb;exact dj (d A (aE c))
  ·exact f a (b-1) A B (by omega) c eb
 ·rename_i h1 h2
  split at c
  ·cases c;exact d B (aE eb)
  ·exact f (a-1) b A B (by omega) c eb
 ·rename_i h1 h2
  split at c<;>split at eb
  ·omega
  ·cases c;exact d B (aE eb)
  ·cases eb;exact dj (d A (aE c))
  ·exact f (a-1) (b-1) A B (by omega) c eb
theorem VG{Ts:List (Nat→Prop)}(m:PD Ts){i:Nat}{S:Nat→Prop}(f:∀j U,j≠i→Ts[j]? =some U→Dj S U):PD (Ts.set i S):=by
 have dj:∀{A B:Nat→Prop},Dj A B→Dj B A:=fun h y g k=>h y k g
 intro a b A B c d eb;rw[eE]at d eb;split at d<;>split at eb
 ·omega
 ·rename_i h1 h2
  subst h1;split at d
  ·cases d;exact f b B (Ne.symm c) eb
  ·cases d
 ·rename_i h1 h2
  subst h2;split at eb
  ·cases eb;exact dj (f a A c d)
  ·cases eb
 ·exact m a b A B c d eb
theorem LsO.set{o:Option Addr}{W:Nat→Prop}{h:af}{ks:List (Option Addr)}{L:List Bn}{Ts:List (Nat→Prop)}(m:ks.length=L.length)(g:Ts.length=L.length){i:Nat}(p:∀(j:Nat) (k:Option Addr) (n:Bn) (S:Nat→Prop),j≠i→ks[j]? =some k→L[j]? =some n→Ts[j]? =some S→KidO o W h k n S) {k:Option Addr} {n:Bn} {S:Nat→Prop} (c:KidO o W h k n S):LsO o W h (ks.set i k) (L.set i n) (Ts.set i S):=by
 refine⟨by simp[m],by simp[g],fun j k' f d ek b a=>?_⟩
 rw[eE]at ek b a;by_cases e:i=j
 ·rw[if_pos e]at ek b a
  split at ek
  ·rename_i hj
   rw[if_pos (by omega)]at b a;cases ek;cases b;cases a;exact c
  ·cases ek
 ·rw[if_neg e]at ek b a
  exact p j k' f d (Ne.symm e) ek b a
end Go.Proofs
namespace Go.Proofs
open Go Go.Lift
theorem By.lt{h:af}{w o:Option Addr}(t:By h w o){a:Addr}(e:w=some a):a.block<h.size:=by
 obtain⟨c,ty,b,_⟩:=t.plain a e;exact aL b
theorem LsO.move{o:Option Addr}{W W' M:Nat→Prop}{h d:af}{ks:List (Option Addr)}{L:List Bn}{Us:List (Nat→Prop)}(r:LsO o W h ks L Us)(k:Upd M h d)(f:∀U∈Us,∀y,U y→y<h.size)(hm:∀y,M y→(W y∧∀U∈Us,¬U y)∨h.size≤y)(j:∀y,W' y→W y∨h.size≤y):LsO o W' d ks L Us:=by
 refine⟨r.1,r.2.1,fun i kk n S ek g c=>?_⟩
 have b:=aE c;exact(((r.2.2 i kk n S ek g c).less (W':=fun y=>W y∨h.size≤y) fun y a=>a).upd k (f S b) fun y a=>(hm y a).imp (fun h=>⟨.inl h.1,h.2 S b⟩) id).less fun y a=>.inl (j y a)
theorem BL{o:Option Addr}{S A:Nat→Prop}{Us:List (Nat→Prop)}{b z:Nat}{a:af}(f:S b∨z≤b)(d:b<a.size)(i:∀y,A y→(S y∨z≤y)∧y<a.size)(g:∀U∈Us,∀y,U y→(S y∨z≤y)∧y<a.size){y:Nat}(j:SR o b A Us y):(S y∨z≤y)∧y<a.size:=by
 rcases j.2 with rfl|h|⟨U,c,h⟩
 ·exact⟨f,d⟩
 ·exact i y h
 ·exact g U c y h
set_option maxHeartbeats 1000000 in
theorem Nu{W S:Nat→Prop}{h:af}{w' o:Option Addr}{b:Nat}{sl:ByteArray}{w:Option ByteArray}{F:Fo}(r:RxO o W h b sl w F S)(t:By h w' o)(hW:∀y,W y→y<h.size)(N:∀y,S y→W y)(hWo:∀a,o=some a→W a.block)(hn:F.toL.length≤256){c:Nat}(hc:c≤sl.size){K:Option Addr→af→Prop}
  (hk:∀h' b' S',RxO o (fun y=>W y∨S' y) h' b' (sl.extract 0 c) none (.cons (sl.data.toList.drop c) w F .nil) S'→(∀y,S' y→(S y∨h.size≤y)∧y<h'.size)→Upd S h h'→K (some ⟨b',0,none⟩) h'):HC PG py [.pointer (some ⟨b,0,none⟩),.pointer w',.int .i64 c] [.c .ptr] K h:=by
 refine BS _ w' c ?_;unfold uz bo cz Ao uP M6;have hno:o=none→∀y,¬S y:=fun e=>by subst e;exact r.off.2
 obtain⟨val,s,ow,ks,Us,hb,hv,hs,hL,C,hPD,hown⟩:=r.view;have v:∀y,S y→y<h.size:=fun y d=>hW y (N y d)
 have lab:∀{h'},Upd No h h'→aR h' (adr ⟨b,0,none⟩ 0)=some (.string sl):=fun k=>dI (i:=0) (k.get0 hb)
 have r0:=Upd.refl No h;refine⟨_,rfl,sl,lab r0,⟨by omega,by omega⟩,ce ?_⟩
 have k1:=Upd.hnew No h YT bS;have b1:=dq h YT bS;simp only[fX h];generalize hnew h [.string (⟨#[]⟩:ByteArray),.bool false,.string (⟨#[]⟩:ByteArray),.slice none 0 0,.pointer none] bS=h1 at k1 b1;have z1:=k1.size;refine⟨lab k1,?_⟩;refine mz (W:=W) (S:=No) (Us:= []) (ks:= []) (sl:=⟨#[]⟩) (val:=⟨#[]⟩) (has:=false) (s:=⟨none,0,0⟩) (ow:=none) (t.upd0 k1) hWo b1 (bj _) (.inl ⟨mA,Sl.nil p7,fun U q=>by cases q⟩) fun h2 u s2 A2 b2 _ _ hbu _ hu2=>⟨lab (k1.tr hu2),?_⟩
 have hbu:h1.size≤u:=hbu.elim (fun h=>h.elim) id
 have hbu2:=aL b2;rw[aX];refine xy b2 fun h3 b3 hu3=>?_
 have Z:=k1.tr hu2;have g:Upd No h h3:=Z.trans hu3 fun x hx=>.inr (by have hx:x=u:=hx;omega)
 have z02:=Z.size;have z3:=hu3.size;have z03:=g.size;have t3:=t.upd0 g;refine mz (W:=W) (S:=S) (Us:=Us) (ks:=ks) (s:=s) (ow:=ow) (val:=val) (sl:=sl) (has:=w.isSome) t3 hWo (g.get0 hb) (by rw[hL.1];exact hn) ?_ fun h4 m s4 A4 L hA4 f hb4 Q I=>?_
 ·rcases hown with⟨how,_,_,hS0⟩|⟨e,eo,A,hA,M,hSbb,hUA⟩
  ·exact .inl ⟨how.upd g fun _ h=>h.elim,hs.upd g fun _ h=>h.elim,fun U q y d=>absurd (C U q y d) (hS0 y)⟩
  ·exact .inr ⟨e,eo,A,hA.upd g fun _ _ h=>h,fun y d=>⟨(M y d).1,(M y d).2.1,by have:=(M y d).2.2;omega⟩,hSbb,hUA⟩
 refine⟨_,rfl,sl,dI (i:=0) L,⟨by omega,by omega⟩,?_⟩
 refine xy (nl:=sl.extract c sl.size) L fun p b5 G=>?_
 have z4:=I.size;have z5:=G.size;have hA5:=hA4.upd G fun x hx e=>(f x hx).2.1 e
 have nb:u≠m:=fun e=>by
  rcases hb4 with h|h
  ·have:=v _ h;omega
  ·omega
 have b35:p[u]? =some (.cells (zP (sl.extract 0 c) false ⟨#[]⟩ s2 o) bS (0,0)):=G.get (I.get0 b3) (by show ¬u=m;omega);have k6:=Upd.hnew No p [.pointer (some ⟨m,0,none⟩)] bw;have b6:=dq p [.pointer (some ⟨m,0,none⟩)] bw;refine ce ?_;simp only[fX p];generalize hnew p [.pointer (some ⟨m,0,none⟩)] bw=h6 at k6 b6;have z6:=aL b6
 have Y:=k6.get0 b35;refine⟨_,rfl,Vo (i:=3) Y (show 3<5 by decide),Hb (i:=3) (c':=zP (sl.extract 0 c) false ⟨#[]⟩ ⟨some ⟨p.size,0,none⟩,1,1⟩ o) Y rfl fun J b7 E=>?_⟩
 have z7:=E.size;have zb4:=aL L;have R:Upd (· =m) h J:=((((g.tr I).wide.tr G).tr k6.wide).trans E fun x hx=>.inr (by have hx:x=u:=hx;omega))
 have b57:=E.get (k6.get0 b5) (by show ¬m=u;omega);have b67:J[p.size]? =some (.cells #[.pointer (some ⟨m,0,none⟩)] bw (0,0)):=E.get b6 (by show ¬p.size=u;omega);have hA7:=(hA5.upd k6 fun _ _ h=>h).upd E fun x hx e=>by
  have e:x=u:=e;rcases(f x hx).1 with h|h
  ·have:=v x h;omega
  ·omega
 have D:∀y,A4 y→(S y∨h.size≤y)∧y<J.size:=fun y d=>⟨(f y d).1.imp id fun h=>by omega,by have:=(f y d).2.2;omega⟩
 have z:S m∨h.size≤m:=hb4.imp id fun h=>by omega
 have hUb:∀U∈Us,∀y,U y→(S y∨h.size≤y)∧y<J.size:=fun U q y d=>⟨.inl (C U q y d),by have:=v y (C U q y d);omega⟩
 have hSk:∀y,SR o m A4 Us y→(S y∨h.size≤y)∧y<J.size:=fun y d=>BL z (by omega) D hUb d
 have hSk5:∀y,SR o m A4 Us y→y<p.size:=fun y d=>by
  rcases d.2 with rfl|h|⟨U,O,h⟩
  ·omega
  ·have:=(f y h).2.2;omega
  ·have:=v y (C U O y h);omega
 have hSkb:∀y,SR o m A4 Us y→y≠u:=fun y d e=>by
  subst e;rcases d.2 with h|h|⟨U,O,h⟩
  ·exact nb h
  ·rcases(f y h).1 with h|h
   ·have:=v y h;omega
   ·omega
  ·have:=v y (C U O y h);omega
 have H:∀{A:Nat→Prop} {V:Nat} {T:List (Nat→Prop)} {X:Nat→Prop},(∀y,A y→S y∨h.size≤y)→(S V∨h.size≤V)→o=none→(∀y,A y→¬(W y∨SR o u X T y))∧¬(W V∨SR o u X T V):=fun{A V T X} hA hb e=>by
  have no:∀y,(S y∨h.size≤y)→¬(W y∨SR o u X T y):=fun y d P=>by
   rcases P with P|⟨P,_⟩
   ·rcases d with h|h
    ·exact hno e y h
    ·have:=hW y P;omega
   ·rw[e]at P;cases P
  exact⟨fun y d=>no y (hA y d),no _ hb⟩
 refine hk J u (SR o u (· =p.size) [SR o m A4 Us]) (yR (ks:= [some ⟨m,0,none⟩]) b7 rfl (⟨rfl,p7,ao _,.inr ⟨p.size,[],rfl,rfl,by simpa[m9]using b67,rfl⟩⟩:OwnS m9 1 bw (· =p.size) J ⟨some ⟨p.size,0,none⟩,1,1⟩ [some ⟨m,0,none⟩]) (fun y d=>?_) (fun U q y d=>?_) (fun i j A B hij e1 e2=>?_) ⟨rfl,rfl,fun i kk n U ek en eU=>?_⟩ (H (fun y d=>?_) (.inr (by omega)))) (fun y d=>?_) (R.mono fun y d=>?_)
 ·have d:y=p.size:=d
  omega
 ·rw[au.1 q]at d
  have:=hSk5 y d;exact⟨fun h=>by have h:y=p.size:=h;omega,hSkb y d⟩
 ·cases i with
  |zero=>cases j with
   |zero=>exact absurd rfl hij
   |succ j=>simp at e2
  |succ i=>simp at e1
 ·cases i with
  |succ i=>simp at ek
  |zero=>
   simp only[cB,bQ.injEq,Fo.toL]at ek en eU;subst ek en eU;refine⟨m,sl.extract c sl.size,rfl,CY ..,yR b57 hv hA7 (fun y d=>⟨(f y d).2.1,(D y d).2⟩) Q hPD (hL.move R (fun U q y d=>v y (C U q y d)) (fun y d=>?_) fun y d=>?_) (H (fun y d=>(D y d).1) z)⟩
   ·have d:y=m:=d
    subst d;exact z.imp (fun h=>⟨N y h,fun U q hu=>(Q U q y hu).2 rfl⟩) id
   ·rcases d with h|h
    ·exact .inl h
    ·rcases h.2 with rfl|h|⟨U,q,h⟩
     ·exact .inr (by omega)
     ·have h:y=p.size:=h
      exact .inr (by omega)
     ·rw[au.1 q]at h
      exact(hSk y h).1.imp (N y) id
 ·have d:y=p.size:=d
  exact .inr (by omega)
 ·refine BL (.inr (by omega)) (aL b7) (fun y d=>?_) (fun U q y d=>?_) d
  ·have d:y=p.size:=d
   exact⟨.inr (by omega),by omega⟩
  ·rw[au.1 q]at d
   exact hSk y d
 ·have d:y=m:=d
  rw[d];exact z
end Go.Proofs
