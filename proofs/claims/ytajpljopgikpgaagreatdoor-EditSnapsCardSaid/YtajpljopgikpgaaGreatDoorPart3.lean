/- A part of the proof that the named laws of this program answer true, whatever the input. -/
import Derived.Test.YtajpljopgikpgaaGreatDoorPart2
import Derived.Test.YtajpljopgikpgaaGreatDoorPart1
open Array renaming toList_inj→gc
open Bool renaming true_and→qu
open ByteArray renaming mk→iJ,data_extract→mp
open Int renaming toNat_natCast→aM
open List renaming range→bX,range_succ→eZ,map_append→dG,sum_append→gz,map_cons→eI,map_nil→mh,sum_cons→m5,sum_nil→rL,length_cons→aO,length_append→ae,flatten_append→cQ,mem_singleton→aj,mem_cons_self→ay,mem_cons_of_mem→aQ,flatMap_cons→aL,flatten_cons→dU,length_nil→cR,length_singleton→bq,append_assoc→ak,getElem?_cons_succ→cW,getElem_mem→aW,mem_of_mem_take→gK,cons_append→dt,append_inj→nN,cons→hP,pairwise_cons→bw,mem_cons→aq,length_take→aN,zip_eq_zipWith→kz,length_drop→aJ,set_eq_take_append_cons_drop→di,getElem?_eq_getElem→ag,extract_eq_take_drop→ff,getElem?_cons_zero→bU,length_eq_zero_iff→bC,mem_of_getElem?→aw,getElem?_append_left→df,getElem?_take→lA,getElem?_append_right→cX,getElem?_drop→lB,getElem?_set→dT
open Nat renaming add_zero→dL,add_mul→lI,mul_le_mul_left→kq,mul_le_mul_right→de,le_trans→bB,not_lt_zero→kV,zero_le→bp,le_refl→au,shiftRight_eq_div_pow→dN,mod_eq_of_lt→dK,lt_or_ge→bM,zero_add→aD,le_of_eq→fY,min_eq_left→aZ
open Option renaming some→bi
namespace Go.Proofs
open Go Go.Lift
theorem ou(x:Hs)(lev:Nat)(l:List Pr):∀n,(((bX n).map fun c=>(part x lev c l).length).sum)=(l.filter fun p=>decide (ck x lev p.1<n)).length
 |0=>by
  have:(l.filter fun p=>decide (ck x lev p.1<0))= []:=List.filter_eq_nil_iff.2 fun p _=>by simp
  rw[this];rfl
 |n+1=>by
  rw[eZ,dG,gz,ou x lev l n];simp only[eI,mh,m5,rL,dL];unfold part;clear ou;induction l with
  |nil=>rfl
  |cons p l ih=>
   simp only[List.filter_cons,decide_eq_true_iff];split<;>split<;>split<;>first|omega|(simp only[aO];omega)
theorem B4(x:Hs)(lev:Nat)(l:List Pr):(eJ x lev l).length+(jg x lev l).flatten.length≤l.length:=by
 have h:=ou x lev l 32;have d:(l.filter fun p=>decide (ck x lev p.1<32)).length≤l.length:=List.length_filter_le ..
 have:∀n,(fm (fun c=>mC (part x lev c l)) n).length+(fm (fun c=>fG (part x lev c l)) n).flatten.length≤((bX n).map fun c=>(part x lev c l).length).sum:=by
  intro n;induction n with
  |zero=>simp[fm]
  |succ n ih=>
   rw[gS,gS,eZ,dG,gz];simp only[ae,cQ,eI,mh,m5,rL,dL];generalize part x lev n l=q;have:(mC q).toList.length+(fG q).toList.flatten.length≤q.length:=by
    match q with
    | []=>simp[mC,fG]
    | [a]=>simp[mC,fG]
    |a::b::q=>simp[mC,fG]
   omega
 have:=this 32;unfold eJ jg;omega
end Go.Proofs
namespace Go.Proofs
open Go Go.Lift
theorem qB{x:Hs}{lev:Nat}{l:List Pr}{p:Pr}(h:p∈eJ x lev l):p∈l:=by
 unfold eJ fm at h;obtain⟨c,_,hc⟩:=List.mem_filterMap.1 h;unfold mC at hc;split at hc
 ·rename_i q hq
  cases hc;have:p∈part x lev c l:=by rw[hq];exact aj.2 rfl
  exact(kF.1 this).1
 ·cases hc
theorem ox{x:Hs}{lev:Nat}{l L:List Pr}(h:L∈jg x lev l):2≤L.length∧∃c,L=part x lev c l:=by
 unfold jg fm at h;obtain⟨c,_,hc⟩:=List.mem_filterMap.1 h;unfold fG at hc;split at hc
 ·cases hc;exact⟨by assumption,c,rfl⟩
 ·cases hc
theorem Fit.part{x:Hs}{lev c:Nat}{l:List Pr}(h:Fit l):Fit (part x lev c l):=fun p a=>h p (kF.1 a).1
theorem CV{B:Nat}{f:List Pr→List UInt8}:∀{ls:List (List Pr)},(∀L∈ls,2≤L.length∧(f L).length≤9+L.length*B)→(ls.flatMap f).length≤ls.flatten.length*(B+9)
 | [],_=>by simp
 |L::ls,h=>by
  have b:=h L (ay ..);have a:=CV (ls:=ls) fun M hM=>h M (aQ _ hM)
  rw[aL,ae,dU,ae,lI];have:L.length*(B+9)=L.length*B+L.length*9:=Nat.mul_add ..;omega
theorem ri{x:Hs}:∀(m:Nat) {l:List Pr},Fit l→(iw x m l).length≤9+l.length*(20004+9*(m+1))
 |0,l,h=>by
  have:=oG h;unfold iw;rw[aO,ae,eu];have:l.length*20004≤l.length*(20004+9*(0+1)):=kq _ (by omega);omega
 |m+1,l,h=>by
  have n:=oG (l:=eJ x (12-m) l) fun p a=>h p (qB a)
  have j:=CV (f:=iw x m) (ls:=jg x (12-m) l) (B:=20004+9*(m+1)) fun L g=>by
   obtain⟨i,c,rfl⟩:=ox g;exact⟨i,ri m h.part⟩
  have d:=B4 x (12-m) l;unfold iw;rw[aO,ae,ae,ae,eu,eu];have k:(eJ x (12-m) l).length*20004≤(eJ x (12-m) l).length*(20004+9*(m+1+1)):=kq _ (by omega);have b:((eJ x (12-m) l).length+(jg x (12-m) l).flatten.length)*(20004+9*(m+1+1))≤l.length*(20004+9*(m+1+1)):=de _ d;rw[lI]at b
  have e:20004+9*(m+1)+9=20004+9*(m+1+1):=by omega
  rw[e]at j;omega
end Go.Proofs
namespace Go.Proofs
open Go Go.Lift
theorem Ge{h:ad}{b d n:Nat}{sp sk:SliceV}{c:Bool}{ow:Option Addr}(a:h[b]? =some (.cells (eg d n sp sk c ow) bm (0,0))) (f:sp.len+sk.len≤1000000000) {K:Int→ad→Prop} (e:K ((sp.len+sk.len:Nat):Int) h):HC PG iQ [.pointer (some ⟨b,0,none⟩)] [.c (.int .i64)] K h:=by
 refine rZ _ ?_;unfold nJ bL;refine ah.2 ⟨_,rfl,sp,db (i:=2) a,_,rfl,sk,db (i:=3) a,?_⟩;rw[nA (by omega)];exact_mod_cast e
def Bes(M:Nat→Prop)(h a:ad)(b:Nat):Prop:=M b∧(b<h.size∨a.size≤b)
theorem Bes.own{α:Type}{f:α→List Value}{c:Nat}{t:TypeId}{M:Nat→Prop}{h a:ad}{s:SliceV}{xs:List α}(e:OwnS f c t M h s xs)(d:Upd No h a):OwnS f c t (Bes M h a) a s xs:=
 (e.within.upd d fun _ _ h=>h).more fun _ b=>⟨b.1,.inl b.2⟩
theorem Bes.sl{α:Type}{f:α→List Value}{c:Nat}{t:TypeId}{M:Nat→Prop}{h a:ad}{s:SliceV}{xs:List α}(d:OwnS f c t (fun x=>h.size≤x) a s xs):Sl f c (Bes M h a) a s xs:=
 d.sl fun b g e hx=>by rcases hx.2 with h|h<;>omega
theorem Bes.hM{M:Nat→Prop}{h a:ad}(hM:∀b,h.size≤b→M b)(d:Upd No h a):∀b,a.size≤b→Bes M h a b:=fun b c=>⟨hM b (bB d.size c),.inr c⟩
theorem JN{W:Nat→Prop}{x:Hs}:∀(m:Nat),m≤13→∀{b:Nat} {l:List Pr} {V h:ad} {M:Nat→Prop} {s:SliceV} {xs:List UInt8},TrieAt W x V m b l→Upd No V h→(∀y,M y→V.size≤y)→OwnS qx 1 dg M h s xs→(∀y,h.size≤y→M y)→Fit l→l.length≤60000→
  xs.length+(9+l.length*(20004+9*(m+1)))≤140737488355328→∀{K:SliceV→ad→Prop},(∀s' j,OwnS qx 1 dg M j s' (xs++iw x m l)→Upd M h j→K s' j)→
  HC PG py [.slice s.a s.len s.cap,.pointer (some ⟨b,0,none⟩),.int .i64 ((13-m:Nat):Int)] [.c .slice] K h:=by
 intro m;induction m with
 |zero=>
  intro _ b l V h M s xs t hu0 O ho hM hf hn hx K hk;refine yG s (some ⟨b,0,none⟩) ((13-0:Nat):Int) ?_;unfold tl dC fH Eb H0 Lw;have st:∀{j},Upd M h j→Upd No V j:=fun k=>hu0.trans k fun y o=>.inr (O y o)
  have bk:∀{j},Upd M h j→BuckAt W j b l:=fun k=>BuckAt.upd t (st k) fun _ h=>h.elim
  have A:∀{j},Upd M h j→∀y,j.size≤y→M y:=fun k y o=>hM y (bB k.size o)
  obtain⟨sp,sk,ow,hb,_⟩:=(bk (Upd.refl M h)).ex;refine f6 hb (az.2 (bK ?_));refine qH (b:=1) rfl ho hM (by omega) fun s1 h1 H u=>?_
  obtain⟨sp1,sk1,ow1,hb1,hsp1,hsk1,_⟩:=(bk u).ex;have e1:=hsp1.len;have e2:=hsk1.len;rw[cR]at e2;refine Ge hb1 (by omega) ?_;have ew:IntKind.wrap .u64 ((sp1.len+sk1.len:Nat):Int)=((l.length:Nat):Int):=by rw[Go.IntWalk.u64_in _ (by omega)];omega
  rw[ew];have hl2:l.length*20004≤l.length*(20004+9*(0+1)):=kq _ (by omega);refine Gi H (A u) (n:=l.length) (k:=2) (by omega) (by omega) (by rw[ae,bq];omega) fun s2 h2 X w=>?_
  have Q:=u.tr w;obtain⟨sp2,sk2,ow2,hb2,S,_⟩:=(bk Q).ex;refine na hb2 S (by omega) fun s3 F z E=>?_
  refine zW (M:=Bes M h2 F) (W:=Bes M h2 F) (Bes.own X E) (Bes.hM (A Q) E) (Bes.sl z) (fun _ h _=>h) hf (by omega) (by rw[ae,ae,bq,eu];omega) fun s4 G ho4 Z=>?_
  refine hk s4 G ?_ (Q.tr (E.wide.tr (Z.mono fun y o=>.inl o.1)))
  have:=ho4.more (M':=M) fun y o=>o.1
  rw[iw,List.append_cons,←ak];exact this
 |succ m ih=>
  intro hm b l V h M s xs t hu0 O ho hM hf hn hx K hk;refine yG s (some ⟨b,0,none⟩) ((13-(m+1):Nat):Int) ?_;unfold tl dC fH Eb H0 Lw;have st:∀{j},Upd M h j→Upd No V j:=fun k=>hu0.trans k fun y o=>.inr (O y o)
  have A:∀{j},Upd M h j→∀y,j.size≤y→M y:=fun k y o=>hM y (bB k.size o)
  obtain⟨sl,nd,hs0⟩:=t;have hs:∀c,c<32→SlotIs W x V m sl c (part x (12-m) c l):=hs0;have hd:∀{j},Upd M h j→∃d n sp sk ow,j[b]? =some (.cells (eg d n sp sk false ow) bm (0,0))∧d=l7 (fun c=>(mC (part x (12-m) c l)).isSome) 32∧n=l7 (fun c=>(fG (part x (12-m) c l)).isSome) 32∧Sl iY 2 W j sp (eJ x (12-m) l)∧Sl ny 1 W j sk (fm sl.k 32):=fun{j} k=>by
   obtain⟨d,n,sp,sk,ow,hb,bits,F,G,_⟩:=(nd.upd (st k) fun _ h=>h.elim).ex
   refine⟨d,n,sp,sk,ow,hb,CF bits.d32 fun c hc=>?_,CF bits.n32 fun c hc=>?_,?_,G⟩
   ·rw[bits.dp c hc,(zU (hs c hc)).1]
   ·rw[bits.nk c hc,(zU (hs c hc)).2]
   ·rw[←zd hs];exact F
  have hka:KidsAt W x V m (fm sl.k 32) (jg x (12-m) l):=Gn 32 hs;have v:=ri (x:=x) (m+1) hf;have hlen2:=v;have hml:∀L∈jg x (12-m) l,Fit L∧L.length≤60000:=fun L hL=>by
   obtain⟨_,c,rfl⟩:=ox hL;exact⟨hf.part,bB lO hn⟩
  have hsf:Fit (eJ x (12-m) l):=fun p hp=>hf p (qB hp)
  have hsl:=B4 x (12-m) l;unfold iw at hk v;have ebits:∀q:Nat→Bool,l7 q 32<4294967296:=fun q=>oT q 32
  have hd32:=ebits fun c=>(mC (part x (12-m) c l)).isSome
  have hn32:=ebits fun c=>(fG (part x (12-m) c l)).isSome
  generalize l7 (fun c=>(mC (part x (12-m) c l)).isSome) 32=D at hk hd v hd32
  generalize l7 (fun c=>(fG (part x (12-m) c l)).isSome) 32=N at hk hd v hn32
  have hS:(eJ x (12-m) l).length≤60000:=by omega
  have hSb:(eJ x (12-m) l).length*20004≤l.length*(20004+9*(m+1+1)):=Nat.mul_le_mul (by omega) (by omega);have hML:∀L∈jg x (12-m) l,2≤L.length∧(iw x m L).length≤9+L.length*(20004+9*(m+1)):=fun L hL=>by
   obtain⟨F,c,rfl⟩:=ox hL;exact⟨F,ri m hf.part⟩
  have hbud:9+(eJ x (12-m) l).length*20004+(jg x (12-m) l).flatten.length*(20004+9*(m+1)+9)≤9+l.length*(20004+9*(m+1+1)):=by
   have h5:(eJ x (12-m) l).length*20004≤(eJ x (12-m) l).length*(20004+9*(m+1+1)):=kq _ (by omega);have h6:((eJ x (12-m) l).length+(jg x (12-m) l).flatten.length)*(20004+9*(m+1+1))≤l.length*(20004+9*(m+1+1)):=de _ hsl;rw[lI]at h6;have h7:20004+9*(m+1)+9=20004+9*(m+1+1):=by omega
   rw[h7];omega
  have hps:=oG hsf;generalize eJ x (12-m) l=So at hk hd hsf hS hSb hbud v hps;generalize jg x (12-m) l=Ma at hk hka hml hML hbud v;obtain⟨d,n,sp,sk,ow,hb,_⟩:=hd (Upd.refl M h);refine f6 hb (ah.2 (Join.intro (fun s' j=>OwnS qx 1 dg M j s' (xs++(0::(mI D 4++mI N 4)))∧Upd M h j) (fun R hR=>bK ?_) ?_))
  ·refine qH (b:=0) rfl ho hM (by omega) fun s1 h1 H u=>?_
   obtain⟨d1,n1,sp1,sk1,ow1,hb1,rfl,rfl,_⟩:=hd u;refine Dx hb1 ?_;rw[Go.IntWalk.u64_in _ (by omega)];refine Gi H (A u) (n:=d1) (k:=4) (by omega) (by omega) (by rw[ae,bq];omega) fun s2 h2 X w=>?_
   obtain⟨d2,n2,sp2,sk2,ow2,hb2,rfl,rfl,_⟩:=hd (u.tr w);refine vV hb2 ?_;rw[Go.IntWalk.u64_in _ (by omega)];refine Gi X (A (u.tr w)) (n:=n2) (k:=4) (by omega) (by omega) (by rw[ae,ae,bq,eu];omega) fun s3 F z E=>?_
   refine hR _ _ ⟨?_,(u.tr w).tr E⟩;rw[List.append_cons,←ak];exact z
  ·rintro s' h1 ⟨H,u⟩
   obtain⟨d1,n1,sp1,sk1,ow1,hb1,_,_,hsp1,_⟩:=hd u;refine na hb1 hsp1 (by omega) fun s2 h2 X w=>?_
   refine zW (M:=Bes M h1 h2) (W:=Bes M h1 h2) (Bes.own H w) (Bes.hM (A u) w) (Bes.sl X) (fun _ h _=>h) hsf (by omega) (by rw[ae,aO,ae,eu,eu];omega) fun s3 F z E=>?_
   have z:=z.more (M':=M) fun y o=>o.1
   have J:Upd M h F:=u.tr (w.wide.tr (E.mono fun y o=>.inl o.1))
   have e13:(((13-(m+1):Nat):Int)==(13:Int))=false:=by rw[beq_eq_false_iff_ne];omega
   rw[e13];refine ah.2 ?_;obtain⟨d3,n3,sp3,sk3,ow3,hb3,_,_,_,hsk3⟩:=hd J;have hk32:=sO (g:=sl.k);refine Dk hb3 hsk3 (by omega) fun s4 G ho4 Z=>?_
   have Y:Sl ny 1 (Bes M F G) G s4 (fm sl.k 32):=Bes.sl ho4;have hlk:=Y.len;have ew:IntKind.wrap .i64 (((13-(m+1):Nat):Int)+1)=((13-m:Nat):Int):=by rw[nA (by omega)];omega
   rw[ew];have hMb:=Bes.hM (A J) Z;have hob:=Bes.own z Z;have hu04:Upd M h G:=J.tr Z.wide;have hMM:∀y,Bes M F G y→M y:=fun y o=>o.1
   have st4:∀{j},Upd (Bes M F G) G j→Upd M h j:=fun k=>hu04.tr (k.mono fun y o=>.inl o.1)
   generalize Bes M F G=B at Y hMb hob hMM st4;have hkl:∀{ks:List (Option Addr)} {ls:List (List Pr)},KidsAt W x V m ks ls→ks.length=ls.length∧∀i (hi:i<ls.length),∃kb,ks[i]? =some (some ⟨kb,0,none⟩)∧TrieAt W x V m kb ls[i]:=by
    intro ks;induction ks with
    |nil=>intro ls;cases ls with
     |nil=>intro _;exact⟨rfl,fun i hi=>absurd hi (kV _)⟩
     |cons a ls=>intro h;exact h.elim
    |cons k ks ihk=>intro ls;cases ls with
     |nil=>intro h;exact h.elim
     |cons a ls=>
      rintro⟨⟨kb,rfl,tk⟩,h⟩;obtain⟨e,hr⟩:=ihk h;refine⟨by simp[e],fun i hi=>?_⟩
      cases i with
      |zero=>exact⟨kb,rfl,tk⟩
      |succ i=>simp only[cW,List.getElem_cons_succ];exact hr i (by simpa using hi)
   obtain⟨hkl,hkt⟩:=hkl hka;have hbase:(xs++(0::(mI D 4++mI N 4))++ka So).length≤xs.length+(9+So.length*20004):=by
    rw[ae,ae,aO,ae,eu,eu];omega
   refine LoopP.ghost (fun(i:Nat) (t:SliceV×Int) j=>t.2=(i:Int)∧i≤Ma.length∧OwnS qx 1 dg B j t.1 (xs++(0::(mI D 4++mI N 4))++ka So++(Ma.take i).flatMap (iw x m))∧Upd B G j) (fun i=>Ma.length-i) 0 ⟨rfl,bp _,by simpa using hob,Upd.refl _ _⟩ ?_
   rintro I i ⟨so,ti⟩ j ⟨e1,hi,ho',P⟩ hI;simp only at e1 ho';subst e1;refine bj (fun C=>?_) fun hge=>?_
   ·have C:i<Ma.length:=by have:(i:Int)<(s4.len:Int):=C;omega
    obtain⟨kb,hk1,tk⟩:=hkt i C;obtain⟨a,ha,_,hv⟩:=(Y.upd P fun y o=>.inl o).at0 hk1
    refine⟨⟨by simp only;omega,by simp only;omega⟩,a,ha,some ⟨kb,0,none⟩,hv,?_⟩
    have T:Ma[i]∈Ma:=aW C;have htl:=CV (f:=iw x m) (ls:=Ma.take i) (B:=20004+9*(m+1)) fun L hL=>hML L (gK hL)
    have hsp:(Ma.take i).flatten.length+Ma[i].length≤Ma.flatten.length:=by
     have e:Ma=Ma.take i++Ma[i]::Ma.drop (i+1):=by rw[List.getElem_cons_drop,List.take_append_drop]
     have:=congrArg (fun L=>(List.flatten L).length) e
     simp only[cQ,dU,ae]at this;omega
    have S:=de (20004+9*(m+1)+9) hsp;rw[lI]at S;have h2l:=(hML _ T).1;have hone:9+Ma[i].length*(20004+9*(m+1))≤Ma[i].length*(20004+9*(m+1)+9):=by rw[Nat.mul_add (Ma[i].length) (20004+9*(m+1)) 9];omega
    refine ih (by omega) tk (hu0.trans (st4 P) fun y o=>.inr (O y o)) (fun y o=>O y (hMM y o)) ho' (fun y o=>hMb y (bB P.size o)) (hml _ T).1 (hml _ T).2 (by rw[ae];omega) fun s5 h5 ho5 hu5=>?_
    rw[ep C (by omega)];refine hI (i+1) _ _ ⟨rfl,C,?_,P.tr hu5⟩ (by omega);rw[List.take_succ_eq_append_getElem C,List.flatMap_append,aL,List.flatMap_nil,List.append_nil,←ak];exact ho5
   ·have hil:i=Ma.length:=by have:¬(i:Int)<(s4.len:Int):=hge;omega
    subst hil;rw[List.take_length]at ho';refine hk _ _ ?_ (st4 P);have:=ho'.more hMM;simp only[ak,dt]at this⊢;exact this
end Go.Proofs
namespace Go.Proofs
open Go Go.Lift
theorem LG{W:Nat→Prop}{x:Hs}{h:ad}{b:Nat}{l:List Pr}(t:TrieAt W x h 13 b l)(g:Fit l)(c:l.length≤60000){K:SliceV→ad→Prop}(e:∀s' a,OwnS qx 1 dg (fun y=>h.size≤y) a s' (iw x 13 l)→Upd No h a→K s' a):HC PG uZ [.pointer (some ⟨b,0,none⟩)] [.c .slice] K h:=by
 refine GX _ ?_;unfold A8;refine ah.2 ?_;have j:l.length*(20004+9*(13+1))≤60000*(20004+9*(13+1)):=de _ c;exact JN (x:=x) 13 (au _) (s:=⟨none,0,0⟩) (xs:= []) (M:=fun y=>h.size≤y) t (Upd.refl _ _) (fun _ h=>h) (OwnS.nil xI) (fun _ h=>h) g c (by rw[cR];omega) fun s' a i f=>e s' a i (f.mono fun y d=>.inr d)
theorem GL{W W':Nat→Prop}{h:ad}{s s':SliceV}{xs ys:List UInt8}(e:Sl qx 1 W h s xs)(a:Sl qx 1 W' h s' ys){K:Bool→ad→Prop}(d:K (decide (xs=ys)) h):HC PG qn [.slice s.a s.len s.cap,.slice s'.a s'.len s'.cap] [.c .bool] K h:=by
 refine BK s s' ?_;unfold uF;have b:=e.srow;have c:=a.srow;rw[Nat.mul_one]at b c;refine⟨⟨xs.toArray⟩,by rw[pH];exact b,⟨ys.toArray⟩,by rw[pH];exact c,?_⟩
 have:((⟨xs.toArray⟩:ByteArray).toList==(⟨ys.toArray⟩:ByteArray).toList)=decide (xs=ys):=by
  rw[ByteArray.toList_eq,ByteArray.toList_eq,Bool.eq_iff_iff,beq_iff_eq,decide_eq_true_iff]
 rw[this];exact d
theorem EM:∀{a b:Nat} (k:Nat),mI a k=mI b k→a%2^(8*k)=b%2^(8*k)
 |_,_,0,_=>by simp[Nat.mod_one]
 |a,b,k+1,h=>by
  rw[tF,tF]at h;obtain⟨g,f⟩:=nN h (by rw[eu,eu]);have d:=EM k g;have c:=congrArg UInt8.toNat (hP.inj f).1;rw[UInt8.toNat_ofNat',UInt8.toNat_ofNat',dN,dN]at c;have e:2^(8*(k+1))=2^(8*k)*2^8:=by rw[Nat.mul_add,Nat.pow_add]
  rw[e,Nat.mod_mul,Nat.mod_mul,d,c]
theorem qC{a b k:Nat}{r c:List UInt8}(f:a<2^(8*k))(d:b<2^(8*k))(h:mI a k++r=mI b k++c):a=b∧r=c:=by
 obtain⟨e,g⟩:=nN h (by rw[eu,eu]);have:=EM k e;rw[dK f,dK d]at this;exact⟨this,g⟩
theorem tA{a b:ByteArray}{r c:List UInt8}(j:a.size≤10000)(i:b.size≤10000)(h:rQ a++r=rQ b++c):a=b∧r=c:=by
 unfold rQ at h;rw[ak,ak]at h;obtain⟨e,g⟩:=qC (k:=2) (by omega) (by omega) h;obtain⟨f,d⟩:=nN g (by simpa using e);refine⟨?_,d⟩;cases a;cases b;exact congrArg iJ (gc.1 f)
theorem uS:∀{l l':List Pr} {r r':List UInt8},Fit l→Fit l'→l.length=l'.length→ka l++r=ka l'++r'→l=l'∧r=r'
 | [],[],_,_,_,_,_,h=>⟨rfl,h⟩
 | [],_::_,_,_,_,_,e,_=>by simp at e
 |_::_,[],_,_,_,_,e,_=>by simp at e
 |p::l,q::l',r,r',hf,hf',e,h=>by
  unfold ka at h;rw[aL,aL,Ak,Ak]at h;simp only[ak]at h;have a:=hf p (ay ..);have b:=hf' q (ay ..);obtain⟨c,h⟩:=tA a.1 b.1 h;obtain⟨f,h⟩:=tA a.2 b.2 h;obtain⟨d,h⟩:=uS (l:=l) (l':=l') (fun z hz=>hf z (aQ _ hz)) (fun z hz=>hf' z (aQ _ hz)) (by simpa using e) h
  exact⟨by rw[d,Prod.ext c f],h⟩
theorem zu{β γ:Type}{g:Nat→Option β}{a:Nat→Option γ}:∀n,(∀c,c<n→(g c).isSome=(a c).isSome)→(fm g n).length=(fm a n).length
 |0,_=>rfl
 |n+1,h=>by
  rw[gS,gS,ae,ae,zu n fun c hc=>h c (by omega)]
  have:=h n (by omega);cases h1:g n<;>cases h2:a n<;>rw[h1,h2]at this<;>first|rfl|cases this
theorem GA{β:Type}{g a:Nat→Option β}:∀n,(∀c,c<n→(g c).isSome=(a c).isSome)→fm g n=fm a n→∀c,c<n→g c=a c
 |0,_,_,c,hc=>absurd hc (kV _)
 |n+1,h,e,c,hc=>by
  rw[gS,gS]at e;obtain⟨f,b⟩:=nN e (zu n fun c hc=>h c (by omega))
  rcases bM c n with d|d
  ·exact GA n (fun c hc=>h c (by omega)) f c d
  ·have:c=n:=by omega
   subst this;cases h1:g c<;>cases h2:a c<;>rw[h1,h2]at b<;>simp at b⊢
   exact b
theorem Ca:∀{l l':List Pr},cp l→cp l'→(∀p,p∈l↔p∈l')→l=l'
 | [],[],_,_,_=>rfl
 | [],q::l',_,_,h=>absurd ((h q).2 (ay ..)) (by simp)
 |p::l,[],_,_,h=>absurd ((h p).1 (ay ..)) (by simp)
 |p::l,q::l',c,a,h=>by
  have c:=bw.1 c;have a:=bw.1 a;have e:p=q:=by
   rcases aq.1 ((h p).1 (ay ..))with e|d
   ·exact e
   ·rcases aq.1 ((h q).2 (ay ..))with e|f
    ·exact e.symm
    ·exact absurd (lR (c.1 q f) (a.1 p d)) (dq _)
  subst e;rw[Ca c.2 a.2 fun z=>?_]
  constructor
  ·intro hz
   rcases aq.1 ((h z).1 (aQ _ hz))with e|b
   ·exact absurd (c.1 z hz) (by rw[e];exact dq _)
   ·exact b
  ·intro hz
   rcases aq.1 ((h z).2 (aQ _ hz))with e|b
   ·exact absurd (a.1 z hz) (by rw[e];exact dq _)
   ·exact b
theorem J9{x:Hs}{lev:Nat}{l l':List Pr}(g:cp l)(d:cp l')(h:∀c,c<32→part x lev c l=part x lev c l'):l=l':=by
 refine Ca g d fun p=>?_
 have e:=h (ck x lev p.1) (ww ..);have b:=kF (x:=x) (lev:=lev) (c:=ck x lev p.1) (l:=l) (p:=p);have f:=kF (x:=x) (lev:=lev) (c:=ck x lev p.1) (l:=l') (p:=p);rw[e]at b;constructor
 ·intro a;exact(f.1 (b.2 ⟨a,rfl⟩)).1
 ·intro a;exact(b.1 (f.2 ⟨a,rfl⟩)).1
theorem H7{q e:List Pr}(g:mC q=mC e)(f:fG q=fG e):q=e:=by
 match q,e with
 | [],[]=>rfl
 | [a],[b]=>simp[mC]at g;rw[g]
 | [],[b]=>simp[mC]at g
 | [a],[]=>simp[mC]at g
 | [],b::c::e=>simp[fG]at f
 | [a],b::c::e=>simp[fG]at f
 |b::c::e,[]=>simp[fG]at f
 |b::c::e,[a]=>simp[fG]at f
 |a::b::q,c::d::e=>simpa[fG]using f
theorem EW{f:List Pr→List UInt8}:∀{ls ls':List (List Pr)} {r r':List UInt8},ls.length=ls'.length→(∀L∈ls,∀L'∈ls',∀r r',f L++r=f L'++r'→L=L'∧r=r')→ls.flatMap f++r=ls'.flatMap f++r'→ls=ls'∧r=r'
 | [],[],_,_,_,_,h=>⟨rfl,h⟩
 | [],_::_,_,_,e,_,_=>by simp at e
 |_::_,[],_,_,e,_,_=>by simp at e
 |L::ls,L'::ls',r,r',e,hf,h=>by
  rw[aL,aL,ak,ak]at h;obtain⟨a,h⟩:=hf L (ay ..) L' (ay ..) _ _ h;obtain⟨c,h⟩:=EW (by simpa using e) (fun A d B b=>hf A (aQ _ d) B (aQ _ b)) h
  exact⟨by rw[a,c],h⟩
theorem zV{x:Hs}:∀(m:Nat) {l l':List Pr} {r a:List UInt8},Fit l→Fit l'→l.length≤60000→l'.length≤60000→cp l→cp l'→iw x m l++r=iw x m l'++a→l=l'∧r=a
 |0,l,l',r,a,hf,hf',hn,hn',_,_,h=>by
  unfold iw at h;rw[dt,dt,ak,ak]at h;obtain⟨e,h⟩:=qC (k:=2) (by omega) (by omega) (hP.inj h).2;exact uS hf hf' e h
 |m+1,l,l',r,a,hf,hf',hn,hn',hr,hr',h=>by
  unfold iw at h;simp only[dt,ak]at h;obtain⟨b1,h⟩:=qC (k:=4) (oT _ 32) (oT _ 32) (hP.inj h).2;obtain⟨b2,h⟩:=qC (k:=4) (oT _ 32) (oT _ 32) h;have bits:∀{q f:Nat→Bool},l7 q 32=l7 f 32→∀c,c<32→q c=f c:=fun{q f} e c hc=>by
   have:=congrArg (fun n=>n.testBit c) e
   simp only[xK,decide_eq_true hc,qu]at this;exact this
  have b1:=bits b1;have b2:=bits b2;obtain⟨i,h⟩:=uS (fun p b=>hf p (qB b)) (fun p b=>hf' p (qB b)) (zu 32 b1) h
  obtain⟨j,h⟩:=EW (zu 32 b2) (fun L g L' d r a e=>by
   obtain⟨_,c,rfl⟩:=ox g
   obtain⟨_,c',rfl⟩:=ox d
   exact zV m hf.part hf'.part (bB lO hn) (bB lO hn') (oD hr) (oD hr') e) h
  have s1:=GA 32 b1 i;have s2:=GA 32 b2 j;exact⟨J9 hr hr' fun c hc=>H7 (s1 c hc) (s2 c hc),h⟩
end Go.Proofs
namespace Go.Proofs
open Go Go.Lift
def tB(lab:ByteArray)(has:Bool)(val:ByteArray)(s:SliceV)(ow:Option Addr):Array Value:= #[.string lab,.bool has,.string val,sv s,.pointer ow]
theorem vw{w:Option ByteArray}{val:ByteArray}(h:val=w.getD ⟨#[]⟩):∀v,w=some v→val=v:=fun v e=>by rw[h,e];rfl
def RxF(W:Nat→Prop)(h:ad):Fo→List (Option Addr)→Prop
 | .nil,ks=>ks= []
 | .cons lab w kids rest,ks=>∃b sl val s ow ks1 ks',ks=some ⟨b,0,none⟩::ks'∧sl.data.toList=lab∧h[b]? =some (.cells (tB sl w.isSome val s ow) aU (0,0))∧val=w.getD ⟨#[]⟩∧Sl kC 1 W h s ks1∧(s.len≤s.cap∧¬W b∧OwOk W h ow)∧RxF W h kids ks1∧RxF W h rest ks'
def RxN(W:Nat→Prop)(h:ad)(b:Nat)(sl:ByteArray)(w:Option ByteArray)(F:Fo):Prop:=∃val s ow ks,h[b]? =some (.cells (tB sl w.isSome val s ow) aU (0,0))∧val=w.getD ⟨#[]⟩∧Sl kC 1 W h s ks∧(s.len≤s.cap∧¬W b∧OwOk W h ow)∧RxF W h F ks
def Kid(W:Nat→Prop)(h:ad)(k:Option Addr)(n:Bn):Prop:=∃b sl,k=some ⟨b,0,none⟩∧sl.data.toList=n.1∧RxN W h b sl n.2.1 n.2.2
def RxL(W:Nat→Prop)(h:ad)(ks:List (Option Addr))(L:List Bn):Prop:=ks.length=L.length∧∀p∈ks.zip L,Kid W h p.1 p.2
theorem nX{W:Nat→Prop}{h:ad}:∀{F:Fo} {ks:List (Option Addr)},RxF W h F ks↔RxL W h ks F.toL
 | .nil,ks=>by
  unfold RxF RxL;simp[Fo.toL]
 | .cons lab w kids rest,ks=>by
  unfold RxF RxL;rw[Fo.toL_cons];constructor
  ·rintro⟨b,sl,val,s,ow,c,d,rfl,m,o,n,j,g,i,u⟩
   obtain⟨v,t⟩:=nX.1 u;refine⟨by simp[v],fun p a=>?_⟩
   rw[List.zip_cons_cons]at a;rcases aq.1 a with rfl|a
   ·exact⟨b,sl,rfl,m,val,s,ow,c,o,n,j,g,i⟩
   ·exact t p a
  ·cases ks with
   |nil=>rintro⟨e,_⟩;simp at e
   |cons k d=>
    rintro⟨e,a⟩;rw[List.zip_cons_cons]at a;obtain⟨b,sl,q,m,val,s,ow,c,o,n,j,g,i⟩:=a _ (ay ..);refine⟨b,sl,val,s,ow,c,d,by rw[←q],m,o,n,j,g,i,nX.2 ⟨by simpa using e,fun p f=>a p (aQ _ f)⟩⟩
theorem RxF.upd0{W:Nat→Prop}{h a:ad}(k:Upd No h a):∀{F:Fo} {ks:List (Option Addr)},RxF W h F ks→RxF W a F ks
 | .nil,_,r=>r
 | .cons _ _ _ _,_,⟨b,sl,val,s,ow,ks1,ks',e0,e1,e2,e3,e4,e5,e6,e7⟩=>⟨b,sl,val,s,ow,ks1,ks',e0,e1,k.get0 e2,e3,e4.upd k fun _ h=>h.elim,⟨e5.1,e5.2.1,e5.2.2.upd k fun _ h=>h.elim⟩,RxF.upd0 k e6,RxF.upd0 k e7⟩
theorem RxN.upd0{W:Nat→Prop}{h a:ad}(k:Upd No h a){b:Nat}{sl:ByteArray}{w:Option ByteArray}{F:Fo}:RxN W h b sl w F→RxN W a b sl w F
 |⟨val,s,ow,ks,e2,e3,e4,e5,e6⟩=>⟨val,s,ow,ks,k.get0 e2,e3,e4.upd k fun _ h=>h.elim,⟨e5.1,e5.2.1,e5.2.2.upd k fun _ h=>h.elim⟩,RxF.upd0 k e6⟩
theorem Kid.upd0{W:Nat→Prop}{h c:ad}(k:Upd No h c){a:Option Addr}{n:Bn}:Kid W h a n→Kid W c a n
 |⟨b,sl,e1,e2,e3⟩=>⟨b,sl,e1,e2,e3.upd0 k⟩
theorem RxF.less{W W':Nat→Prop}{h:ad}(hm:∀b,W' b→W b∨h.size≤b):∀{F:Fo} {ks:List (Option Addr)},RxF W h F ks→RxF W' h F ks
 | .nil,_,r=>r
 | .cons _ _ _ _,_,⟨b,sl,val,s,ow,ks1,ks',e0,e1,e2,e3,e4,e5,e6,e7⟩=>⟨b,sl,val,s,ow,ks1,ks',e0,e1,e2,e3,e4.less hm,⟨e5.1,fun hx=>(hm _ hx).elim e5.2.1 fun h=>by have:=aF e2;omega,e5.2.2.less hm⟩,RxF.less hm e6,RxF.less hm e7⟩
theorem RxN.less{W W':Nat→Prop}{h:ad}(hm:∀b,W' b→W b∨h.size≤b){b:Nat}{sl:ByteArray}{w:Option ByteArray}{F:Fo}:RxN W h b sl w F→RxN W' h b sl w F
 |⟨val,s,ow,ks,e2,e3,e4,e5,e6⟩=>⟨val,s,ow,ks,e2,e3,e4.less hm,⟨e5.1,fun hx=>(hm _ hx).elim e5.2.1 fun h=>by have:=aF e2;omega,e5.2.2.less hm⟩,RxF.less hm e6⟩
theorem RxF.updM{W M:Nat→Prop}{h a:ad}(k:Upd M h a)(hm:∀b,M b→W b∨h.size≤b):∀{F:Fo} {ks:List (Option Addr)},RxF W h F ks→RxF W a F ks
 | .nil,_,r=>r
 | .cons _ _ _ _,_,⟨b,sl,val,s,ow,ks1,ks',e0,e1,e2,e3,e4,e5,e6,e7⟩=>⟨b,sl,val,s,ow,ks1,ks',e0,e1,k.get e2 (fun hx=>(hm _ hx).elim e5.2.1 fun h=>by have:=aF e2;omega),e3,e4.upd k hm,⟨e5.1,e5.2.1,e5.2.2.upd k hm⟩,RxF.updM k hm e6,RxF.updM k hm e7⟩
theorem RxN.updM{W M:Nat→Prop}{h a:ad}(k:Upd M h a)(hm:∀b,M b→W b∨h.size≤b){b:Nat}{sl:ByteArray}{w:Option ByteArray}{F:Fo}:RxN W h b sl w F→RxN W a b sl w F
 |⟨val,s,ow,ks,e2,e3,e4,e5,e6⟩=>⟨val,s,ow,ks,k.get e2 (fun hx=>(hm _ hx).elim e5.2.1 fun h=>by have:=aF e2;omega),e3,e4.upd k hm,⟨e5.1,e5.2.1,e5.2.2.upd k hm⟩,RxF.updM k hm e6⟩
theorem RxL.upd0{W:Nat→Prop}{h a:ad}(k:Upd No h a){ks:List (Option Addr)}{L:List Bn}(r:RxL W h ks L):RxL W a ks L:=⟨r.1,fun p b=>(r.2 p b).upd0 k⟩
theorem RxL.app{W:Nat→Prop}{h:ad}{ks b:List (Option Addr)}{L L':List Bn}(r:RxL W h ks L)(c:RxL W h b L'):RxL W h (ks++b) (L++L'):=by
 refine⟨by rw[ae,ae,r.1,c.1],fun p a=>?_⟩
 rw[List.zip_append r.1]at a;rcases List.mem_append.1 a with a|a
 ·exact r.2 p a
 ·exact c.2 p a
theorem RxL.one{W:Nat→Prop}{h:ad}{k:Option Addr}{n:Bn}(c:Kid W h k n):RxL W h [k] [n]:=⟨rfl,fun p a=>by rw[List.zip_cons_cons,List.zip_nil_left]at a;rw[aj.1 a];exact c⟩
theorem RxL.take{W:Nat→Prop}{h:ad}{ks:List (Option Addr)}{L:List Bn}(r:RxL W h ks L)(i:Nat):RxL W h (ks.take i) (L.take i):=by
 refine⟨by rw[aN,aN,r.1],fun p a=>r.2 p ?_⟩
 have:(ks.take i).zip (L.take i)=(ks.zip L).take i:=by rw[kz,kz,List.take_zipWith]
 rw[this]at a;exact gK a
theorem RxL.drop{W:Nat→Prop}{h:ad}{ks:List (Option Addr)}{L:List Bn}(r:RxL W h ks L)(i:Nat):RxL W h (ks.drop i) (L.drop i):=by
 refine⟨by rw[aJ,aJ,r.1],fun p a=>r.2 p ?_⟩
 have:(ks.drop i).zip (L.drop i)=(ks.zip L).drop i:=by rw[kz,kz,List.drop_zipWith]
 rw[this]at a;exact List.mem_of_mem_drop a
theorem RxL.ins{W:Nat→Prop}{h:ad}{ks:List (Option Addr)}{L:List Bn}(r:RxL W h ks L)(i:Nat){k:Option Addr}{n:Bn}(c:Kid W h k n):RxL W h (ks.take i++k::ks.drop i) (L.take i++n::L.drop i):=by
 have:=(r.take i).app ((RxL.one c).app (r.drop i));exact this
theorem RxL.set{W:Nat→Prop}{h:ad}{ks:List (Option Addr)}{L:List Bn}(r:RxL W h ks L){i:Nat}(hi:i<L.length){k:Option Addr}{n:Bn}(c:Kid W h k n):RxL W h (ks.set i k) (L.set i n):=by
 have:=(r.take i).app ((RxL.one c).app (r.drop (i+1)));rw[di,di,if_pos (by rw[r.1];exact hi),if_pos hi];exact this
theorem RxL.at{W:Nat→Prop}{h:ad}{ks:List (Option Addr)}{L:List Bn}(r:RxL W h ks L){i:Nat}(hi:i<L.length):∃b sl,ks[i]? =some (some ⟨b,0,none⟩)∧sl.data.toList=L[i].1∧RxN W h b sl L[i].2.1 L[i].2.2:=by
 have e:i<ks.length:=by rw[r.1];exact hi
 have hz:i<(ks.zip L).length:=by rw[List.length_zip];omega
 have:=r.2 _ (aW hz);rw[List.getElem_zip]at this;obtain⟨b,sl,a,d,c⟩:=this;exact⟨b,sl,by rw[ag e];exact congrArg some a,d,c⟩
theorem B9:∀{L:List Bn} {c:Nat},L.Pairwise (fun m n=>hd m.1<hd n.1)→(∀n∈L,c≤hd n.1)→L= []∨c+L.length≤256
 | [],_,_,_=>.inl rfl
 |n::L,c,a,hc=>by
  have a:=bw.1 a;have b:=hc n (ay ..);have d:=Mq n.1;rcases B9 (c:=hd n.1+1) a.2 fun m hm=>a.1 m hm with e|e
  ·rw[e];right;simp only[bq];omega
  ·right;rw[aO];omega
theorem iE{F:Fo}(h:dW F):F.toL.length≤256:=by
 rcases B9 (c:=0) (dx.1 h).1 fun _ _=>bp _ with e|e
 ·rw[e];simp
 ·omega
theorem cF{h:ad}{b i:Nat}{c:Array Value}(a:h[b]? =some (.cells c aU (0,0))):aG h (adr ⟨b,0,none⟩ i)=c[i]?:=by rw[bG,aD];exact aS a
theorem JP{h:ad}{b i:Nat}{c:Array Value}(a:h[b]? =some (.cells c aU (0,0))) (hi:i<c.size):Wr h (adr ⟨b,0,none⟩ i):=by rw[bG,aD];exact gM a hi
theorem Ac{h:ad}{b i:Nat}{c c':Array Value}{v:Value}{k:ad→Prop}(f:h[b]? =some (.cells c aU (0,0))) (e:c.setIfInBounds i v=c') (g:∀a,a[b]? =some (.cells c' aU (0,0))→Upd (· =b) h a→k a):At (hset h (adr ⟨b,0,none⟩ i) v) k:=by
 rw[bG,aD];exact td f fun a d j=>g a (e▸d) j
theorem M8(s:ByteArray)(i:Nat):s[i]? =s.data.toList[i]?:=by
 rw[Array.getElem?_toList];by_cases h:i<s.size
 ·rw[getElem?_pos s i h,getElem?_pos s.data i h];rfl
 ·rw[getElem?_neg s i h,getElem?_neg s.data i h]
theorem Az{s:ByteArray}(a:s.data.toList≠[]):∃c:UInt8,s[0]? =some c∧c.toNat=hd s.data.toList:=by
 rw[M8];match s.data.toList,a with
 |c::l,_=>exact⟨c,rfl,rfl⟩
theorem B7{W:Nat→Prop}{h:ad}{b:Nat}{sl:ByteArray}{w:Option ByteArray}{F:Fo}(r:RxN W h b sl w F)(hc:dW F){c:Nat}(hc8:c<256){K:Int×Bool→ad→Prop}
  (C:∀i ok,i≤F.toL.length→(∀j (p:j<F.toL.length),j<i→hd F.toL[j].1<c)→(∀j (p:j<F.toL.length),i≤j→c≤hd F.toL[j].1)→(ok=true↔∃hi:i<F.toL.length,hd F.toL[i].1=c)→K ((i:Int),ok) h):HC PG jj [.pointer (some ⟨b,0,none⟩),.int .u8 c] [.c (.int .i64),.c .bool] K h:=by
 refine wI _ c ?_;unfold pP bL;obtain⟨val,s,ow,ks,hb,_,T,hcap,hF⟩:=r;refine⟨_,rfl,s,cF (i:=3) hb,?_⟩;have H:=nX.1 hF;have f:=dx.1 hc;have hn:=iE hc;have y:=T.len;rw[H.1]at y;generalize hLe:F.toL=L at H f hn y C;refine fp s c _ ?_;unfold cU dC fH yU CR
 have G:∀{i:Nat} (hi:i<L.length) {K:Int→ad→Prop},K ((hd L[i].1:Int)-(c:Int)) h→∃a,s.a=some a∧∃v,aG h (adr a (i*1))=some (.pointer v)∧HV PG (.func (.func kg) #[] #[]) [.pointer v,.int .u8 c] [.c (.int .i64)] K h:=by
  intro i hi K C;obtain⟨kb,E,R,D,P⟩:=H.at hi;obtain⟨a,ha,_,hv⟩:=T.at0 R;refine⟨a,ha,_,hv,HV.mk' (tS (some ⟨kb,0,none⟩) c ?_)⟩;unfold nU cG;obtain⟨V,kss,kow,kks,M,_⟩:=P;have N:E.data.toList≠[]:=by rw[D];exact(f.2 _ (aW hi)).1
  obtain⟨u,hu,Q⟩:=Az N;refine⟨_,rfl,E,cF (i:=0) M,u,Int.le_refl _,hu,?_⟩;simp only[Bd];have d:=Mq L[i].1;rw[Q,D,nA (x:=(hd L[i].1:Int)) (by omega),nA (x:=(c:Int)) (by omega),nA (by omega)];exact C
 have mono:∀i j (hi:i<L.length) (p:j<L.length),i<j→hd L[i].1<hd L[j].1:=fun i j hi p e=>List.pairwise_iff_getElem.1 f.1 i j hi p e
 refine LoopP.ghost (fun(g:Nat×Nat) (t:Int×Int) X=>t.1=(g.1:Int)∧t.2=(g.2:Int)∧g.1≤g.2∧g.2≤L.length∧X=h∧(∀j (p:j<L.length),j<g.1→hd L[j].1<c)∧(∀j (p:j<L.length),g.2≤j→c≤hd L[j].1)) (fun g=>g.2-g.1) (0,L.length)
  ⟨rfl,by simp only;omega,by simp,by simp,rfl,fun j p h=>by omega,fun j p h=>by simp only at h;omega⟩ ?_
 rintro I ⟨i,j⟩ ⟨ti,tj⟩ X ⟨e1,e2,e,o,rfl,k,n⟩ Y;simp only at e1 e2 e o k n;subst e1 e2;refine bj (fun d=>?_) fun O=>?_
 ·have d:i<j:=by have:(i:Int)<(j:Int):=d;omega
  have em:IntKind.wrap .i64 (Int.fdiv (IntKind.wrap .u64 (IntKind.wrap .i64 ((i:Int)+(j:Int)))) (2^(min (1:Int).toNat (IntKind.bits .u64))))=(((i+j)/2:Nat):Int):=by
   have e3:(2^(min (1:Int).toNat (IntKind.bits .u64)):Int)=2:=rfl;rw[e3,nA (x:=(i:Int)+(j:Int)) (by omega),Go.IntWalk.u64_in _ (by omega),Int.fdiv_eq_ediv_of_nonneg _ (by omega),nA (by omega)];omega
  refine⟨by decide,?_⟩;simp only[Bd];rw[em];generalize hm:(i+j)/2=m;have B:m<L.length:=by omega
  refine⟨by omega,?_⟩;refine G B ?_;refine bj (fun Z=>?_) fun hpos=>?_
  ·refine Y (m+1,j) _ _ ⟨by simp only;rw[nA (by omega)];omega,rfl,by simp only;omega,o,rfl,fun q J z=>?_,n⟩ (by simp only;omega)
   simp only at z;rcases bM q m with h|h
   ·have:=mono q m J B h;omega
   ·have:q=m:=by omega
    subst this;omega
  ·refine Y (i,m) _ _ ⟨rfl,rfl,by simp only;omega,by simp only;omega,rfl,k,fun q J z=>?_⟩ (by simp only;omega)
   simp only at z;rcases bM m q with h|h
   ·have:=mono m q B J h;omega
   ·have:q=m:=by omega
    subst this;omega
 ·have e:i=j:=by have:¬(i:Int)<(j:Int):=O;omega
  subst e;refine bj (fun d=>?_) fun S=>?_
  ·have A:i<L.length:=by have:(i:Int)<(s.len:Int):=d;omega
   refine⟨by simp only;omega,?_⟩;refine G A ?_;refine C i _ o k n ?_;rw[beq_iff_eq];exact⟨fun h=>⟨A,by omega⟩,fun⟨_,h⟩=>by omega⟩
  ·have A:i=L.length:=by have:¬(i:Int)<(s.len:Int):=S;omega
   exact C i false o k n ⟨fun h=>(by cases h),fun h=>(by obtain⟨h,_⟩:=h;omega)⟩
end Go.Proofs
namespace Go.Proofs
open Go Go.Lift
abbrev Ml:List Value:= [.string (⟨#[]⟩:ByteArray),.bool false,.string (⟨#[]⟩:ByteArray),.slice none 0 0,.pointer none]
theorem rk{h:ad}{b:Nat}{sl nl:ByteArray}{has:Bool}{val:ByteArray}{s:SliceV}{ow:Option Addr}(a:h[b]? =some (.cells (tB sl has val s ow) aU (0,0))) {K:Option Addr→ad→Prop}
  (c:∀h',h'[b]? =some (.cells (tB nl has val s ow) aU (0,0))→Upd (· =b) h h'→K (some ⟨b,0,none⟩) h'):HC PG fj [.pointer (some ⟨b,0,none⟩),.string nl] [.c .ptr] K h:=by
 refine vq _ nl ?_;unfold oZ c8;exact⟨_,rfl,JP (i:=0) a (show 0<5 by decide),Ac (i:=0) (c':=tB nl has val s ow) a rfl c⟩
theorem pm{h:ad}{b:Nat}{sl v:ByteArray}{has:Bool}{val:ByteArray}{s:SliceV}{ow:Option Addr}(d:h[b]? =some (.cells (tB sl has val s ow) aU (0,0))) {K:Option Addr→ad→Prop}
  (e:∀h',h'[b]? =some (.cells (tB sl true v s ow) aU (0,0))→Upd (· =b) h h'→K (some ⟨b,0,none⟩) h'):HC PG eR [.pointer (some ⟨b,0,none⟩),.string v] [.c .ptr] K h:=by
 refine tQ _ v ?_;unfold nR c8;exact⟨_,rfl,JP (i:=1) d (show 1<5 by decide),Ac (i:=1) (c':=tB sl true val s ow) d rfl fun g b1 c=>⟨_,rfl,JP (i:=2) b1 (show 2<5 by decide),Ac (i:=2) (c':=tB sl true v s ow) b1 rfl fun f b2 a=>e f b2 (c.tr a)⟩⟩
theorem AD(s:ByteArray)(c:Nat):(s.extract 0 c).data.toList=s.data.toList.take c:=by
 rw[mp,Array.toList_extract,ff];simp
theorem AE(s:ByteArray)(c:Nat):(s.extract c s.size).data.toList=s.data.toList.drop c:=by
 rw[mp,Array.toList_extract,ff,List.take_of_length_le];rw[aJ];simp
end Go.Proofs
namespace Go.Proofs
open Go Go.Lift
theorem KW:∀{x y:List UInt8} {i:Nat},i≤x.length→i≤y.length→(∀j,j<i→x[j]? =y[j]?)→(i=x.length∨i=y.length∨x[i]?≠y[i]?)→cm x y=i
 | [],_,i,h1,_,_,_=>by simp at h1;simp[cm,h1]
 |_::_,[],i,_,h2,_,_=>by simp at h2;simp[cm,h2]
 |a::x,b::y,0,_,_,_,h=>by
  unfold cm;rw[if_neg];rintro rfl;rcases h with h|h|h<;>simp at h
 |a::x,b::y,i+1,h1,h2,h3,h4=>by
  have:=h3 0 (by omega);simp only[bU,bi.injEq]at this;unfold cm;rw[if_pos this,KW (i:=i) (by simpa using h1) (by simpa using h2) (fun j c=>by simpa using h3 (j+1) (by omega)) (by simpa using h4)]
theorem IU{a b:ByteArray}(A:a.size≤1000000){h:ad}{K:Int→ad→Prop}(n:K (cm a.data.toList b.data.toList:Nat) h):HC PG qg [.string a,.string b] [.c (.int .i64)] K h:=by
 refine Bw a b ?_;unfold ur;simp only[Bd];have g:(if(b.size:Int)<(a.size:Int)then(b.size:Int)else(a.size:Int))=((min a.size b.size:Nat):Int):=by split<;>omega
 rw[g];have B:a.data.toList.length=a.size:=by simp
 have z:b.data.toList.length=b.size:=by simp
 refine LoopP.ghost (fun(i:Nat) (t:Int) w=>t=(i:Int)∧i≤min a.size b.size∧w=h∧∀j,j<i→a.data.toList[j]? =b.data.toList[j]?) (fun i=>min a.size b.size-i) 0 ⟨rfl,bp _,rfl,fun j q=>absurd q (kV _)⟩ ?_
 rintro I i t w ⟨rfl,hi,rfl,p⟩ y;refine bj (fun c=>?_) fun x=>?_
 ·have c:i<min a.size b.size:=by omega
  have m:i<a.size:=by omega
  have k:i<b.size:=by omega
  refine⟨a[i],by omega,by rw[aM,getElem?_pos a i m],b[i],by omega,by rw[aM,getElem?_pos b i k],?_⟩
  have u:a.data.toList[i]? =some a[i]:=by rw[←M8,getElem?_pos a i m]
  have v:b.data.toList[i]? =some b[i]:=by rw[←M8,getElem?_pos b i k]
  refine CondP.intro (fun f=>?_) fun d=>?_
  ·rw[KW (i:=i) (by omega) (by omega) p (.inr (.inr fun e=>?_))]at n
   ·exact n
   ·rw[u,v]at e
    rw[bi.inj e]at f;simp at f
  ·have d:a[i]=b[i]:=by
    have:((a[i].toNat:Int))=(b[i].toNat:Int):=by simpa using d
    exact UInt8.toNat_inj.1 (by omega)
   rw[ep c (by omega)];refine y (i+1) _ _ ⟨rfl,c,rfl,fun j q=>?_⟩ (by omega)
   rcases bM j i with s|s
   ·exact p j s
   ·have:j=i:=by omega
    subst this;rw[u,v,d]
 ·have o:i=min a.size b.size:=by omega
  rw[KW (i:=i) (by omega) (by omega) p (by omega)]at n;rw[←o];exact n
theorem Ir{F:Fo}{i:Nat}{k:List UInt8}{v:ByteArray}(h:dW F)(hi:i<F.toL.length)(ek:hd F.toL[i].1=hd k)(a:qp (qq F.toL[i]) (qq F.toL[i]) k v):qp (m0 F) (m0 F) k v:=by
 have:=Ev h hi ek a;rw[List.set_getElem_self,Fo.of_to]at this;exact this
theorem JV{P Q a:List UInt8→ByteArray→Prop}{k:List UInt8}{v:ByteArray}(h:qp P a k v)(e:∀k v,P k v↔Q k v):qp Q a k v:=fun k' b=>by rw[h k' b,e]
end Go.Proofs
namespace Go.Proofs
open Go Go.Lift
def Dj(S T:Nat→Prop):Prop:=∀y,S y→¬T y
def PD(Ts:List (Nat→Prop)):Prop:=∀(i j:Nat) (S T:Nat→Prop),i≠j→Ts[i]? =some S→Ts[j]? =some T→Dj S T
def FoO(o:Option Addr)(W:Nat→Prop)(h:ad):Fo→List (Option Addr)→List (Nat→Prop)→Prop
 | .nil,ks,Ts=>ks= []∧Ts= []
 | .cons lab w kids rest,ks,Ts=>∃(b:Nat) (sl:ByteArray) (ks':List (Option Addr)) (S:Nat→Prop) (Ts':List (Nat→Prop)),ks=some ⟨b,0,none⟩::ks'∧Ts=S::Ts'∧sl.data.toList=lab∧
  ((RxN W h b sl w kids∧∀y,¬S y)∨(o.isSome=true∧∃(val:ByteArray) (s:SliceV) (ks1:List (Option Addr)) (A:Nat→Prop) (Us:List (Nat→Prop)),h[b]? =some (.cells (tB sl w.isSome val s o) aU (0,0))∧val=w.getD ⟨#[]⟩∧OwnS kC 1 aH A h s ks1∧
   (∀y,A y→S y∧y≠b∧y<h.size)∧S b∧(∀U∈Us,∀y,U y→S y∧¬A y∧y≠b)∧PD Us∧FoO o W h kids ks1 Us))∧FoO o W h rest ks' Ts'
def RxO(o:Option Addr)(W:Nat→Prop)(h:ad)(b:Nat)(sl:ByteArray)(w:Option ByteArray)(F:Fo)(S:Nat→Prop):Prop:=
 (RxN W h b sl w F∧∀y,¬S y)∨(o.isSome=true∧∃(val:ByteArray) (s:SliceV) (ks1:List (Option Addr)) (A:Nat→Prop) (Us:List (Nat→Prop)),h[b]? =some (.cells (tB sl w.isSome val s o) aU (0,0))∧val=w.getD ⟨#[]⟩∧OwnS kC 1 aH A h s ks1∧
  (∀y,A y→S y∧y≠b∧y<h.size)∧S b∧(∀U∈Us,∀y,U y→S y∧¬A y∧y≠b)∧PD Us∧FoO o W h F ks1 Us)
theorem Kq{o:Option Addr}{W:Nat→Prop}{h:ad}{lab:List UInt8}{w:Option ByteArray}{a c:Fo}{ks:List (Option Addr)}{Ts:List (Nat→Prop)}:
 FoO o W h (.cons lab w a c) ks Ts↔∃b sl ks' S Ts',ks=some ⟨b,0,none⟩::ks'∧Ts=S::Ts'∧sl.data.toList=lab∧RxO o W h b sl w a S∧FoO o W h c ks' Ts':=Iff.rfl
def KidO(o:Option Addr)(W:Nat→Prop)(h:ad)(k:Option Addr)(n:Bn)(S:Nat→Prop):Prop:=∃b sl,k=some ⟨b,0,none⟩∧sl.data.toList=n.1∧RxO o W h b sl n.2.1 n.2.2 S
def LsO(o:Option Addr)(W:Nat→Prop)(h:ad)(ks:List (Option Addr))(L:List Bn)(Ts:List (Nat→Prop)):Prop:=ks.length=L.length∧Ts.length=L.length∧∀(i:Nat) (k:Option Addr) (n:Bn) (S:Nat→Prop),ks[i]? =some k→L[i]? =some n→Ts[i]? =some S→KidO o W h k n S
theorem zq{o:Option Addr}{W:Nat→Prop}{h:ad}:∀{F:Fo} {ks:List (Option Addr)} {Ts:List (Nat→Prop)},FoO o W h F ks Ts↔LsO o W h ks F.toL Ts
 | .nil,ks,Ts=>by
  constructor
  ·rintro⟨rfl,rfl⟩;exact⟨rfl,rfl,fun i k n S h=>by simp at h⟩
  ·rintro⟨a,g,_⟩;exact⟨bC.1 a,bC.1 g⟩
 | .cons lab w kids rest,ks,Ts=>by
  rw[Kq,Fo.toL_cons];constructor
  ·rintro⟨b,sl,j,S,Ts',rfl,rfl,e,r,f⟩
   obtain⟨a,g,m⟩:=zq.1 f;refine⟨by simp[a],by simp[g],fun i k n p ek d c=>?_⟩
   cases i with
   |zero=>
    simp only[bU,bi.injEq]at ek d c;subst ek d c;exact⟨b,sl,rfl,e,r⟩
   |succ i=>
    simp only[cW]at ek d c;exact m i k n p ek d c
  ·rintro⟨a,g,m⟩
   cases ks with
   |nil=>simp at a
   |cons k j=>
    cases Ts with
    |nil=>simp at g
    |cons S Ts'=>
     obtain⟨b,sl,q,s,r⟩:=m 0 k _ S rfl rfl rfl;exact⟨b,sl,j,S,Ts',by rw[q],rfl,s,r,zq.2 ⟨by simpa using a,by simpa using g,fun i k n p ek d c=>m (i+1) k n p ek d c⟩⟩
theorem FoO.freeze{o:Option Addr}{W W':Nat→Prop}{h:ad}(g:∀y,W' y→W y)(j:OwOk W' h o):∀{F:Fo} {ks:List (Option Addr)} {Ts:List (Nat→Prop)},FoO o W h F ks Ts→(∀U∈Ts,∀y,U y→¬W' y)→RxF W' h F ks
 | .nil,_,_,f,_=>f.1
 | .cons lab w kids rest,ks,Ts,⟨b,sl,ks',S,Ts',e1,e2,e3,r,f⟩,hT=>by
  subst e1 e2;have n:=FoO.freeze g j f fun U k=>hT U (aQ _ k)
  have m:=hT S (ay ..);rcases r with⟨r,_⟩|⟨_,val,s,a,A,Us,u,hv,p,e,i,k,_,x⟩
  ·obtain⟨val,s,ow,a,v,B,z,q,t⟩:=RxN.less (fun y c=>.inl (g y c)) r
   exact⟨b,sl,val,s,ow,a,ks',rfl,e3,v,B,z,q,t,n⟩
  ·exact⟨b,sl,val,s,o,a,ks',rfl,e3,u,hv,p.sl fun y c _=>m y (e y c).1,⟨p.cap,m b i,j⟩,FoO.freeze g j x fun U d y c=>m y (k U d y c).1,n⟩
theorem RxO.freeze{o:Option Addr}{W W':Nat→Prop}{h:ad}(i:∀y,W' y→W y)(k:OwOk W' h o){b:Nat}{sl:ByteArray}{w:Option ByteArray}{F:Fo}{S:Nat→Prop}(r:RxO o W h b sl w F S)(f:∀y,S y→¬W' y):RxN W' h b sl w F:=by
 rcases r with⟨r,_⟩|⟨_,val,s,g,A,Us,m,hv,j,d,e,p,_,n⟩
 ·exact RxN.less (fun y a=>.inl (i y a)) r
 ·exact⟨val,s,o,g,m,hv,j.sl fun y a _=>f y (d y a).1,⟨j.cap,f b e,k⟩,FoO.freeze i k n fun U c y a=>f y (p U c y a).1⟩
theorem RxO.read{o w':Option Addr}{W S:Nat→Prop}{h:ad}{b:Nat}{sl:ByteArray}{w:Option ByteArray}{F:Fo}(r:RxO o W h b sl w F S)(t:By h w' o):RxN No h b sl w F:=
 r.freeze (fun _ h=>h.elim) (fun a e=>⟨id,t.plain a (t.tok e)⟩) fun _ _ h=>h
theorem RxO.off{W S:Nat→Prop}{h:ad}{b:Nat}{sl:ByteArray}{w:Option ByteArray}{F:Fo}(r:RxO none W h b sl w F S):RxN W h b sl w F∧∀y,¬S y:=r.elim id fun h=>absurd h.1 (by simp)
theorem FoO.upd{o:Option Addr}{W M:Nat→Prop}{h q:ad}(k:Upd M h q):∀{F:Fo} {ks:List (Option Addr)} {Ts:List (Nat→Prop)},FoO o W h F ks Ts→(∀U∈Ts,∀y,U y→y<h.size)→(∀y,M y→(W y∧∀U∈Ts,¬U y)∨h.size≤y)→FoO o W q F ks Ts
 | .nil,_,_,f,_,_=>f
 | .cons lab w kids rest,ks,Ts,⟨b,sl,ks',S,Ts',e1,e2,e3,r,f⟩,hT,hm=>by
  subst e1 e2;have p:=FoO.upd k f (fun U i=>hT U (aQ _ i)) fun y a=>(hm y a).imp (fun h=>⟨h.1,fun U i=>h.2 U (aQ _ i)⟩) id
  have t:=hT S (ay ..);have g:∀y,M y→(W y∧¬S y)∨h.size≤y:=fun y a=>(hm y a).imp (fun h=>⟨h.1,h.2 S (ay ..)⟩) id
  have n:∀y,S y→¬M y:=fun y a hM=>by
   have:=t y a;rcases g y hM with h|h
   ·exact h.2 a
   ·omega
  have z:=k.size;rcases r with⟨r,e⟩|⟨e,val,s,m,A,Us,v,hv,C,c,j,i,u,B⟩
  ·exact⟨b,sl,ks',S,Ts',rfl,rfl,e3,.inl ⟨RxN.updM k (fun y a=>(g y a).imp (fun h=>h.1) id) r,e⟩,p⟩
  ·exact⟨b,sl,ks',S,Ts',rfl,rfl,e3,.inr ⟨e,val,s,m,A,Us,k.get v (n b j),hv,C.upd k fun y a=>n y (c y a).1,fun y a=>⟨(c y a).1,(c y a).2.1,by have:=(c y a).2.2;omega⟩,j,i,u,FoO.upd k B (fun U d y a=>t y (i U d y a).1) fun y a=>(g y a).imp (fun h=>⟨h.1,fun U d x=>h.2 (i U d y x).1⟩) id⟩,p⟩
theorem RxO.upd{o:Option Addr}{W M:Nat→Prop}{h g:ad}(k:Upd M h g){b:Nat}{sl:ByteArray}{w:Option ByteArray}{F:Fo}{S:Nat→Prop}(r:RxO o W h b sl w F S)(n:∀y,S y→y<h.size)(hm:∀y,M y→(W y∧¬S y)∨h.size≤y):RxO o W g b sl w F S:=by
 have:=FoO.upd (F:=.cons sl.data.toList w F .nil) k (ks:= [some ⟨b,0,none⟩]) (Ts:= [S]) ⟨b,sl,[],S,[],rfl,rfl,rfl,r,rfl,rfl⟩ (fun U e=>by rw[aj.1 e];exact n) fun y i=>(hm y i).imp (fun h=>⟨h.1,fun U e=>by rw[aj.1 e];exact h.2⟩) id
 obtain⟨p,a,j,q,Ts',c,d,f,m,_⟩:=this;simp only[hP.injEq,bi.injEq,Addr.mk.injEq,and_true]at c d;obtain⟨c,_⟩:=c;obtain⟨d,_⟩:=d;subst c d;have f:a=sl:=by cases a;cases sl;exact congrArg iJ (gc.1 f)
 subst f;exact m
theorem FoO.upd0{o:Option Addr}{W:Nat→Prop}{h i:ad}(k:Upd No h i):∀{F:Fo} {ks:List (Option Addr)} {Ts:List (Nat→Prop)},FoO o W h F ks Ts→FoO o W i F ks Ts
 | .nil,_,_,f=>f
 | .cons lab w kids rest,ks,Ts,⟨b,sl,ks',S,Ts',e1,e2,e3,r,f⟩=>by
  have z:=k.size;refine⟨b,sl,ks',S,Ts',e1,e2,e3,?_,FoO.upd0 k f⟩;rcases r with⟨r,e⟩|⟨e,val,s,g,A,Us,m,hv,p,a,d,q,j,n⟩
  ·exact .inl ⟨RxN.upd0 k r,e⟩
  ·exact .inr ⟨e,val,s,g,A,Us,k.get0 m,hv,p.upd k fun _ _ h=>h,fun y c=>⟨(a y c).1,(a y c).2.1,by have:=(a y c).2.2;omega⟩,d,q,j,FoO.upd0 k n⟩
theorem RxO.upd0{o:Option Addr}{W S:Nat→Prop}{h g:ad}(k:Upd No h g){b:Nat}{sl:ByteArray}{w:Option ByteArray}{F:Fo}(r:RxO o W h b sl w F S):RxO o W g b sl w F S:=by
 have z:=k.size;rcases r with⟨r,e⟩|⟨e,val,s,f,A,Us,j,hv,n,a,d,p,i,m⟩
 ·exact .inl ⟨RxN.upd0 k r,e⟩
 ·exact .inr ⟨e,val,s,f,A,Us,k.get0 j,hv,n.upd k fun _ _ h=>h,fun y c=>⟨(a y c).1,(a y c).2.1,by have:=(a y c).2.2;omega⟩,d,p,i,FoO.upd0 k m⟩
theorem FoO.less{o:Option Addr}{W W':Nat→Prop}{h:ad}(hm:∀y,W' y→W y∨h.size≤y):∀{F:Fo} {ks:List (Option Addr)} {Ts:List (Nat→Prop)},FoO o W h F ks Ts→FoO o W' h F ks Ts
 | .nil,_,_,f=>f
 | .cons lab w kids rest,ks,Ts,⟨b,sl,ks',S,Ts',e1,e2,e3,r,f⟩=>by
  refine⟨b,sl,ks',S,Ts',e1,e2,e3,?_,FoO.less hm f⟩;rcases r with⟨r,e⟩|⟨e,val,s,d,A,Us,i,hv,k,a,c,m,g,j⟩
  ·exact .inl ⟨RxN.less hm r,e⟩
  ·exact .inr ⟨e,val,s,d,A,Us,i,hv,k,a,c,m,g,FoO.less hm j⟩
theorem RxO.less{o:Option Addr}{W W' S:Nat→Prop}{h:ad}(hm:∀y,W' y→W y∨h.size≤y){b:Nat}{sl:ByteArray}{w:Option ByteArray}{F:Fo}(r:RxO o W h b sl w F S):RxO o W' h b sl w F S:=by
 rcases r with⟨r,e⟩|⟨e,val,s,d,A,Us,g,hv,j,a,c,k,f,i⟩
 ·exact .inl ⟨RxN.less hm r,e⟩
 ·exact .inr ⟨e,val,s,d,A,Us,g,hv,j,a,c,k,f,FoO.less hm i⟩
theorem KidO.upd{o:Option Addr}{W M:Nat→Prop}{h c:ad}(k:Upd M h c){a:Option Addr}{n:Bn}{S:Nat→Prop}(r:KidO o W h a n S)(f:∀y,S y→y<h.size)(hm:∀y,M y→(W y∧¬S y)∨h.size≤y):KidO o W c a n S:=let⟨b,sl,d,e,r⟩:=r;⟨b,sl,d,e,r.upd k f hm⟩
theorem KidO.less{o:Option Addr}{W W' S:Nat→Prop}{h:ad}(hm:∀y,W' y→W y∨h.size≤y){a:Option Addr}{n:Bn}(r:KidO o W h a n S):KidO o W' h a n S:=let⟨b,sl,c,d,r⟩:=r;⟨b,sl,c,d,r.less hm⟩
theorem M1{o:Option Addr}{W:Nat→Prop}{h:ad}{F:Fo}{ks:List (Option Addr)}(f:RxF W h F ks):LsO o W h ks F.toL (List.replicate F.toL.length No):=by
 have d:=nX.1 f;refine⟨d.1,by simp,fun i k n S ek c a=>?_⟩
 obtain⟨hi,c⟩:=List.getElem?_eq_some_iff.1 c;obtain⟨b,sl,e,g,r⟩:=d.at hi;rw[ek]at e;cases e;have a:S=No:=by
  rw[List.getElem?_replicate,if_pos hi]at a;exact(bi.inj a).symm
 subst a c;exact⟨b,sl,rfl,g,.inl ⟨r,fun _ h=>h⟩⟩
theorem RxO.view{o:Option Addr}{W S:Nat→Prop}{h:ad}{b:Nat}{sl:ByteArray}{w:Option ByteArray}{F:Fo}(r:RxO o W h b sl w F S):
  ∃(val:ByteArray) (s:SliceV) (ow:Option Addr) (ks:List (Option Addr)) (Us:List (Nat→Prop)),h[b]? =some (.cells (tB sl w.isSome val s ow) aU (0,0))∧val=w.getD ⟨#[]⟩∧Sl kC 1 No h s ks∧LsO o W h ks F.toL Us∧(∀U∈Us,∀y,U y→S y)∧PD Us∧
   ((OwOk W h ow∧(¬W b)∧Sl kC 1 W h s ks∧∀y,¬S y)∨(o.isSome=true∧ow=o∧∃A:Nat→Prop,OwnS kC 1 aH A h s ks∧(∀y,A y→S y∧y≠b∧y<h.size)∧S b∧∀U∈Us,∀y,U y→¬A y∧y≠b)):=by
 rcases r with⟨⟨val,s,ow,ks,v,B,n,m,t⟩,e⟩|⟨e,val,s,k,A,Us,u,hv,p,f,g,d,q,x⟩
 ·refine⟨val,s,ow,ks,_,v,B,n.less fun _ h=>h.elim,M1 t,fun U d y a=>?_,fun i j S T _ z C y a _=>?_,.inl ⟨m.2.2,m.2.1,n,e⟩⟩
  ·rw[List.eq_of_mem_replicate d]at a;exact a.elim
  ·rw[List.eq_of_mem_replicate (aw z)]at a;exact a.elim
 ·exact⟨val,s,o,k,Us,u,hv,p.sl fun _ _ _ h=>h,zq.1 x,fun U c y a=>(d U c y a).1,q,.inr ⟨e,rfl,A,p,f,g,fun U c y a=>(d U c y a).2⟩⟩
def SR(o:Option Addr)(b:Nat)(A:Nat→Prop)(Us:List (Nat→Prop))(y:Nat):Prop:=o.isSome=true∧(y=b∨A y∨∃U∈Us,U y)
theorem sE{o:Option Addr}{W:Nat→Prop}{h:ad}{b:Nat}{sl val:ByteArray}{s:SliceV}{w:Option ByteArray}{F:Fo}{ks:List (Option Addr)}{A:Nat→Prop}{Us:List (Nat→Prop)}(u:h[b]? =some (.cells (tB sl w.isSome val s o) aU (0,0))) (hv:val=w.getD ⟨#[]⟩) (q:OwnS kC 1 aH A h s ks)
  (m:∀y,A y→y≠b∧y<h.size) (E:∀U∈Us,∀y,U y→¬A y∧y≠b) (j:PD Us) (g:LsO o W h ks F.toL Us) (z:o=none→(∀y,A y→¬W y)∧¬W b):RxO o W h b sl w F (SR o b A Us):=by
 cases o with
 |none=>
  obtain⟨x,D⟩:=z rfl;refine .inl ⟨⟨val,s,none,ks,u,hv,q.sl fun y c _=>x y c,⟨q.cap,D,iZ⟩,nX.2 ⟨g.1,fun p j=>?_⟩⟩,fun y c=>by simp[SR]at c⟩
  obtain⟨i,hi,e⟩:=List.getElem_of_mem j;rw[List.length_zip]at hi;have n:i<ks.length:=by omega
  have f:i<F.toL.length:=by omega
  have t:i<Us.length:=by rw[g.2.1];exact f
  rw[List.getElem_zip]at e;subst e;obtain⟨v,k,C,B,r⟩:=g.2.2 i _ _ _ (ag n) (ag f) (ag t);exact⟨v,k,C,B,r.off.1⟩
 |some a=>exact .inr ⟨rfl,val,s,ks,A,Us,u,hv,q,fun y c=>⟨⟨rfl,.inr (.inl c)⟩,m y c⟩,⟨rfl,.inl rfl⟩,fun U d y c=>⟨⟨rfl,.inr (.inr ⟨U,d,c⟩)⟩,E U d y c⟩,j,zq.2 g⟩
end Go.Proofs
namespace Go.Proofs
open Go Go.Lift
theorem Aa{h:ad}{w o:Option Addr}{b:Nat}{sl val:ByteArray}{has:Bool}{s:SliceV}{ow:Option Addr}(t:By h w o)(f:h[b]? =some (.cells (tB sl has val s ow) aU (0,0))) (d:∀a,ow=some a→du h a) {K:Bool→ad→Prop} (c:K (o.isSome&&(ow==w)) h):
  HC PG lm [.pointer (some ⟨b,0,none⟩),.pointer w] [.c .bool] K h:=by
 refine vt _ w ?_;unfold o6 eK;refine az.2 (wa t ?_);cases o with
 |none=>exact ah.2 c
 |some a=>exact az.2 ⟨_,rfl,ow,cF (i:=4) f,trivial,fun x y hx e=>⟨d x hx,t.plain y e⟩,c⟩
theorem iX{W S:Nat→Prop}{h:ad}{w o:Option Addr}{b:Nat}{sl val:ByteArray}{has:Bool}{s:SliceV}{ow:Option Addr}{ks:List (Option Addr)}{Us:List (Nat→Prop)}(t:By h w o)(X:∀a,o=some a→W a.block)(g:h[b]? =some (.cells (tB sl has val s ow) aU (0,0))) (hn:ks.length≤256)
  (C:(OwOk W h ow∧Sl kC 1 No h s ks∧(∀U∈Us,∀y,U y→y<h.size))∨(o.isSome=true∧ow=o∧∃A:Nat→Prop,OwnS kC 1 aH A h s ks∧(∀y,A y→S y∧y≠b∧y<h.size)∧S b∧∀U∈Us,∀y,U y→¬A y∧y≠b)) {K:Option Addr→ad→Prop}
  (Q:∀h' b' s' A,h'[b']? =some (.cells (tB sl has val s' o) aU (0,0))→OwnS kC 1 aH A h' s' ks→(∀y,A y→(S y∨h.size≤y)∧y≠b'∧y<h'.size)→(S b'∨h.size≤b')→(∀U∈Us,∀y,U y→¬A y∧y≠b')→Upd No h h'→K (some ⟨b',0,none⟩) h'):
  HC PG cH [.pointer (some ⟨b,0,none⟩),.pointer w] [.c .ptr] K h:=by
 refine xU _ w ?_;unfold qR eK cG bL nv c8 rO ip D7 NK;rcases C with⟨u,C,B⟩|⟨e,P,A,Z,p,G,B⟩
 ·refine Aa t g (fun a e=>(u a e).2) ?_
  have N:(o.isSome&&(ow==w))=false:=by
   cases ho:o with
   |none=>rfl
   |some a=>
    have e:=t.tok ho;rw[Option.isSome_some,qu,beq_eq_false_iff_ne];intro k;rw[e]at k;exact(u a k).1 (X a ho)
  rw[N];refine ah.2 ⟨_,rfl,sl,cF (i:=0) g,has,cF (i:=1) g,val,cF (i:=2) g,s,cF (i:=3) g,ow,cF (i:=4) g,bK ?_⟩;have k1:=Upd.hnew No h Ml aU;have b1:=cu h Ml aU;simp only[fy h];generalize hnew h [.string (⟨#[]⟩:ByteArray),.bool false,.string (⟨#[]⟩:ByteArray),.slice none 0 0,.pointer none] aU=h1 at k1 b1;refine fc (c:=Ml) (vs:= [.string sl,.bool has,.string val,.slice s.a s.len s.cap,.pointer ow]) b1 rfl fun D b2 H=>?_
  have J:Upd No h D:=k1.trans H fun x hx=>.inr (fY hx.symm)
  have Y:h.size<D.size:=aF b2;have E:=J.get0 g;refine⟨_,rfl,s,cF (i:=3) E,?_⟩;refine CD (C.upd J fun _ h=>h.elim) (by omega) fun s3 R F j=>?_
  have b3:R[h.size]? =some (.cells (tB sl has val s ow) aU (0,0)):=j.get0 b2;refine⟨JP (i:=3) b3 (show 3<5 by decide),Ac (i:=3) (c':=tB sl has val s3 ow) b3 rfl fun h4 T L=>?_⟩
  refine⟨JP (i:=4) T (show 4<5 by decide),Ac (i:=4) (c':=tB sl has val s3 none) T rfl fun V M I=>?_⟩
  have f:=L.tr I;have z3:=j.size;have z5:=f.size;have z:Upd No h V:=(J.tr j).trans f fun x hx=>.inr (fY hx.symm)
  have fin:∀{m:ad},m[h.size]? =some (.cells (tB sl has val s3 o) aU (0,0))→Upd (· =h.size) V m→K (some ⟨h.size,0,none⟩) m:=fun{m} O d=>by
   have z6:=d.size;exact Q m h.size s3 (fun x=>D.size≤x∧x<R.size) O (F.within.upd (f.tr d) fun x hx e=>by have e:x=h.size:=e;have:=hx.1;omega) (fun y n=>⟨.inr (by omega),by omega,by omega⟩) (.inr (au _)) (fun U v y n=>⟨fun h=>by have:=B U v y n;omega,by have:=B U v y n;omega⟩) (z.trans d fun x hx=>.inr (fY hx.symm))
  refine wa (t.upd0 z) ?_;cases ho:o with
  |none=>rw[ho]at fin;exact ah.2 (fin M (Upd.refl _ _))
  |some a=>
   rw[ho]at fin;rw[t.tok ho];exact az.2 ⟨JP (i:=4) M (show 4<5 by decide),Ac (i:=4) (c':=tB sl has val s3 (some a)) M rfl fun m O d=>fin O d⟩
 ·refine Aa t g (fun a k=>t.plain a (t.tok (by rw[←P];exact k))) ?_
  have q:(o.isSome&&(ow==w))=true:=by
   obtain⟨a,k⟩:=Option.isSome_iff_exists.1 e;rw[e,P,k,t.tok k];simp
  rw[q];subst P;exact az.2 (Q h b s A g Z (fun y n=>⟨.inl (p y n).1,(p y n).2⟩) (.inl G) B (Upd.refl _ _))
theorem El{h:ad}{w o:Option Addr}{k v:ByteArray}(t:By h w o){K:Option Addr→ad→Prop}(u:∀h' b s A,h'[b]? =some (.cells (tB k true v s o) aU (0,0))→OwnS kC 1 aH A h' s []→(∀y,A y→h.size≤y∧y≠b∧y<h'.size)→h.size≤b→Upd No h h'→K (some ⟨b,0,none⟩) h'):HC PG qi [.pointer w,.string k,.string v] [.c .ptr] K h:=by
 refine BC w k v ?_;unfold ux y9 rO D7;have k1:=Upd.hnew No h Ml aU;have b1:=cu h Ml aU;refine bK ?_;simp only[fy h];generalize hnew h [.string (⟨#[]⟩:ByteArray),.bool false,.string (⟨#[]⟩:ByteArray),.slice none 0 0,.pointer none] aU=h1 at k1 b1;have E:=k1.size;refine iX (W:=fun y=>∃a,o=some a∧a.block=y) (S:=No) (Us:= []) (ks:= []) (sl:=⟨#[]⟩) (val:=⟨#[]⟩) (has:=false) (s:=⟨none,0,0⟩) (ow:=none) (t.upd0 k1) (fun a e=>⟨a,e,rfl⟩) b1 (bp _) (.inl ⟨iZ,Sl.nil mE,fun U C=>by cases C⟩) fun G b2 s A B n d m _ j=>?_
 refine rk (nl:=k) B fun F b3 i=>pm (v:=v) b3 fun q z g=>?_
 have c:=i.tr g;have p:h1.size≤b2:=m.elim (fun h=>h.elim) id
 have D:=c.size;exact u q b2 s A z (n.upd c fun x hx e=>(d x hx).2.1 e) (fun y f=>⟨(d y f).1.elim (fun h=>h.elim) fun h=>by omega,(d y f).2.1,by have:=(d y f).2.2;omega⟩) (by omega) ((k1.tr j).trans c fun x hx=>.inr (by have hx:x=b2:=hx;omega))
theorem NX{o:Option Addr}{W:Nat→Prop}{h:ad}{b:Nat}{k v:ByteArray}{s:SliceV}{A:Nat→Prop}(c:h[b]? =some (.cells (tB k true v s o) aU (0,0))) (d:OwnS kC 1 aH A h s []) (a:∀y,A y→y≠b∧y<h.size) (nw:o=none→(∀y,A y→¬W y)∧¬W b):RxO o W h b k (some v) .nil (SR o b A []):=
 sE c rfl d a (fun _ h=>by cases h) (fun i j S T _ e=>by simp at e) ⟨rfl,rfl,fun i k n S e=>by simp at e⟩ nw
theorem LsO.ins{o:Option Addr}{W:Nat→Prop}{h:ad}{ks:List (Option Addr)}{L:List Bn}{Ts:List (Nat→Prop)}(r:LsO o W h ks L Ts){i:Nat}(hi:i≤L.length){k:Option Addr}{n:Bn}{S:Nat→Prop}(c:KidO o W h k n S):LsO o W h (ks.take i++k::ks.drop i) (L.take i++n::L.drop i) (Ts.take i++S::Ts.drop i):=by
 obtain⟨p,q,f⟩:=r;have g:∀{α:Type _} {xs:List α} {x:α} {j:Nat},i≤xs.length→(xs.take i++x::xs.drop i)[j]? =if j<i then xs[j]? else if j=i then some x else xs[j-1]?:=fun{α xs x j} s=>by
  split
  ·rename_i hj
   rw[df (by rw[aN];omega),lA,if_pos hj]
  ·rename_i hj
   rw[cX (by rw[aN];omega),aN,aZ s];split
   ·rename_i e;subst e;simp
   ·rename_i e
    have:j-i=(j-i-1)+1:=by omega
    rw[this,cW,lB];congr 1;omega
 refine⟨by simp[p],by simp[q],fun j k' d m ek b a=>?_⟩
 rw[g (by omega)]at ek b a;split at ek
 ·rename_i hj
  rw[if_pos hj]at b a;exact f j k' d m ek b a
 ·rename_i hj
  rw[if_neg hj]at b a;split at ek
  ·rename_i e
   rw[if_pos e]at b a;cases ek;cases b;cases a;exact c
  ·rename_i e
   rw[if_neg e]at b a;exact f (j-1) k' d m ek b a
theorem MX{Ts:List (Nat→Prop)}(d:PD Ts){i:Nat}(hi:i≤Ts.length){S:Nat→Prop}(f:∀U∈Ts,Dj S U):PD (Ts.take i++S::Ts.drop i):=by
 have g:∀{j:Nat},(Ts.take i++S::Ts.drop i)[j]? =if j<i then Ts[j]? else if j=i then some S else Ts[j-1]?:=fun{j}=>by
  split
  ·rename_i hj
   rw[df (by rw[aN];omega),lA,if_pos hj]
  ·rename_i hj
   rw[cX (by rw[aN];omega),aN,aZ hi];split
   ·rename_i e;subst e;simp
   ·rename_i e
    have:j-i=(j-i-1)+1:=by omega
    rw[this,cW,lB];congr 1;omega
 have m:∀{A B:Nat→Prop},Dj A B→Dj B A:=fun h y n o=>h y o n
 intro a b A B k c eb;rw[g]at c eb;split at c<;>split at eb
 ·exact d a b A B k c eb
 ·rename_i h1 h2
  split at eb
  ·cases eb;exact m (f A (aw c))
  ·exact d a (b-1) A B (by omega) c eb
 ·rename_i h1 h2
  split at c
  ·cases c;exact f B (aw eb)
  ·exact d (a-1) b A B (by omega) c eb
 ·rename_i h1 h2
  split at c<;>split at eb
  ·omega
  ·cases c;exact f B (aw eb)
  ·cases eb;exact m (f A (aw c))
  ·exact d (a-1) (b-1) A B (by omega) c eb
theorem J0{Ts:List (Nat→Prop)}(f:PD Ts){i:Nat}{S:Nat→Prop}(e:∀j U,j≠i→Ts[j]? =some U→Dj S U):PD (Ts.set i S):=by
 have m:∀{A B:Nat→Prop},Dj A B→Dj B A:=fun h y g k=>h y k g
 intro a b A B d c eb;rw[dT]at c eb;split at c<;>split at eb
 ·omega
 ·rename_i h1 h2
  subst h1;split at c
  ·cases c;exact e b B (Ne.symm d) eb
  ·cases c
 ·rename_i h1 h2
  subst h2;split at eb
  ·cases eb;exact m (e a A d c)
  ·cases eb
 ·exact f a b A B d c eb
theorem LsO.set{o:Option Addr}{W:Nat→Prop}{h:ad}{ks:List (Option Addr)}{L:List Bn}{Ts:List (Nat→Prop)}(f:ks.length=L.length)(m:Ts.length=L.length){i:Nat}(g:∀(j:Nat) (k:Option Addr) (n:Bn) (S:Nat→Prop),j≠i→ks[j]? =some k→L[j]? =some n→Ts[j]? =some S→KidO o W h k n S) {k:Option Addr} {n:Bn} {S:Nat→Prop} (c:KidO o W h k n S):LsO o W h (ks.set i k) (L.set i n) (Ts.set i S):=by
 refine⟨by simp[f],by simp[m],fun j k' d p ek b a=>?_⟩
 rw[dT]at ek b a;by_cases e:i=j
 ·rw[if_pos e]at ek b a
  split at ek
  ·rename_i hj
   rw[if_pos (by omega)]at b a;cases ek;cases b;cases a;exact c
  ·cases ek
 ·rw[if_neg e]at ek b a
  exact g j k' d p (Ne.symm e) ek b a
end Go.Proofs
namespace Go.Proofs
open Go Go.Lift
theorem By.lt{h:ad}{w o:Option Addr}(t:By h w o){a:Addr}(e:w=some a):a.block<h.size:=by
 obtain⟨c,ty,b,_⟩:=t.plain a e;exact aF b
theorem LsO.move{o:Option Addr}{W W' M:Nat→Prop}{h c:ad}{ks:List (Option Addr)}{L:List Bn}{Us:List (Nat→Prop)}(r:LsO o W h ks L Us)(k:Upd M h c)(g:∀U∈Us,∀y,U y→y<h.size)(hm:∀y,M y→(W y∧∀U∈Us,¬U y)∨h.size≤y)(f:∀y,W' y→W y∨h.size≤y):LsO o W' c ks L Us:=by
 refine⟨r.1,r.2.1,fun i kk n S ek e b=>?_⟩
 have d:=aw b;exact(((r.2.2 i kk n S ek e b).less (W':=fun y=>W y∨h.size≤y) fun y a=>a).upd k (g S d) fun y a=>(hm y a).imp (fun h=>⟨.inl h.1,h.2 S d⟩) id).less fun y a=>.inl (f y a)
theorem vl{o:Option Addr}{S A:Nat→Prop}{Us:List (Nat→Prop)}{b z:Nat}{a:ad}(f:S b∨z≤b)(c:b<a.size)(g:∀y,A y→(S y∨z≤y)∧y<a.size)(i:∀U∈Us,∀y,U y→(S y∨z≤y)∧y<a.size){y:Nat}(e:SR o b A Us y):(S y∨z≤y)∧y<a.size:=by
 rcases e.2 with rfl|h|⟨U,d,h⟩
 ·exact⟨f,c⟩
 ·exact g y h
 ·exact i U d y h
set_option maxHeartbeats 1000000 in
theorem Ek{W S:Nat→Prop}{h:ad}{w' o:Option Addr}{b:Nat}{sl:ByteArray}{w:Option ByteArray}{F:Fo}(r:RxO o W h b sl w F S)(t:By h w' o)(hW:∀y,W y→y<h.size)(O:∀y,S y→W y)(hWo:∀a,o=some a→W a.block)(hn:F.toL.length≤256){c:Nat}(hc:c≤sl.size){K:Option Addr→ad→Prop}
  (hk:∀h' b' S',RxO o (fun y=>W y∨S' y) h' b' (sl.extract 0 c) none (.cons (sl.data.toList.drop c) w F .nil) S'→(∀y,S' y→(S y∨h.size≤y)∧y<h'.size)→Upd S h h'→K (some ⟨b',0,none⟩) h'):HC PG lj [.pointer (some ⟨b,0,none⟩),.pointer w',.int .i64 c] [.c .ptr] K h:=by
 refine vo _ w' c ?_;unfold oX cG y9 c8 rO D7;have hno:o=none→∀y,¬S y:=fun e=>by subst e;exact r.off.2
 obtain⟨val,s,ow,ks,Us,hb,hv,hs,hL,C,hPD,hown⟩:=r.view;have v:∀y,S y→y<h.size:=fun y d=>hW y (O y d)
 have lab:∀{h'},Upd No h h'→aG h' (adr ⟨b,0,none⟩ 0)=some (.string sl):=fun k=>cF (i:=0) (k.get0 hb)
 have r0:=Upd.refl No h;refine⟨_,rfl,sl,lab r0,⟨by omega,by omega⟩,bK ?_⟩
 have k1:=Upd.hnew No h Ml aU;have b1:=cu h Ml aU;simp only[fy h];generalize hnew h [.string (⟨#[]⟩:ByteArray),.bool false,.string (⟨#[]⟩:ByteArray),.slice none 0 0,.pointer none] aU=h1 at k1 b1;have z1:=k1.size;refine⟨lab k1,?_⟩;refine iX (W:=W) (S:=No) (Us:= []) (ks:= []) (sl:=⟨#[]⟩) (val:=⟨#[]⟩) (has:=false) (s:=⟨none,0,0⟩) (ow:=none) (t.upd0 k1) hWo b1 (bp _) (.inl ⟨iZ,Sl.nil mE,fun U q=>by cases q⟩) fun h2 u s2 A2 b2 _ _ hbu _ hu2=>⟨lab (k1.tr hu2),?_⟩
 have hbu:h1.size≤u:=hbu.elim (fun h=>h.elim) id
 have hbu2:=aF b2;rw[aM];refine rk b2 fun h3 b3 hu3=>?_
 have Y:=k1.tr hu2;have f:Upd No h h3:=Y.trans hu3 fun x hx=>.inr (by have hx:x=u:=hx;omega)
 have z02:=Y.size;have z3:=hu3.size;have z03:=f.size;have t3:=t.upd0 f;refine iX (W:=W) (S:=S) (Us:=Us) (ks:=ks) (s:=s) (ow:=ow) (val:=val) (sl:=sl) (has:=w.isSome) t3 hWo (f.get0 hb) (by rw[hL.1];exact hn) ?_ fun h4 m s4 A4 I hA4 g hb4 hU4 N=>?_
 ·rcases hown with⟨how,_,_,hS0⟩|⟨e,eo,A,hA,M,V,hUA⟩
  ·exact .inl ⟨how.upd f fun _ h=>h.elim,hs.upd f fun _ h=>h.elim,fun U q y d=>absurd (C U q y d) (hS0 y)⟩
  ·exact .inr ⟨e,eo,A,hA.upd f fun _ _ h=>h,fun y d=>⟨(M y d).1,(M y d).2.1,by have:=(M y d).2.2;omega⟩,V,hUA⟩
 refine⟨_,rfl,sl,cF (i:=0) I,⟨by omega,by omega⟩,?_⟩
 refine rk (nl:=sl.extract c sl.size) I fun p b5 G=>?_
 have z4:=N.size;have z5:=G.size;have hA5:=hA4.upd G fun x hx e=>(g x hx).2.1 e
 have nb:u≠m:=fun e=>by
  rcases hb4 with h|h
  ·have:=v _ h;omega
  ·omega
 have b35:p[u]? =some (.cells (tB (sl.extract 0 c) false ⟨#[]⟩ s2 o) aU (0,0)):=G.get (N.get0 b3) (by show ¬u=m;omega);have k6:=Upd.hnew No p [.pointer (some ⟨m,0,none⟩)] aH;have b6:=cu p [.pointer (some ⟨m,0,none⟩)] aH;refine bK ?_;simp only[fy p];generalize hnew p [.pointer (some ⟨m,0,none⟩)] aH=h6 at k6 b6;have z6:=aF b6
 have Q:=k6.get0 b35;refine⟨_,rfl,JP (i:=3) Q (show 3<5 by decide),Ac (i:=3) (c':=tB (sl.extract 0 c) false ⟨#[]⟩ ⟨some ⟨p.size,0,none⟩,1,1⟩ o) Q rfl fun L b7 E=>?_⟩
 have z7:=E.size;have zb4:=aF I;have u07:Upd (· =m) h L:=((((f.tr N).wide.tr G).tr k6.wide).trans E fun x hx=>.inr (by have hx:x=u:=hx;omega))
 have b57:=E.get (k6.get0 b5) (by show ¬m=u;omega);have b67:L[p.size]? =some (.cells #[.pointer (some ⟨m,0,none⟩)] aH (0,0)):=E.get b6 (by show ¬p.size=u;omega);have hA7:=(hA5.upd k6 fun _ _ h=>h).upd E fun x hx e=>by
  have e:x=u:=e;rcases(g x hx).1 with h|h
  ·have:=v x h;omega
  ·omega
 have D:∀y,A4 y→(S y∨h.size≤y)∧y<L.size:=fun y d=>⟨(g y d).1.imp id fun h=>by omega,by have:=(g y d).2.2;omega⟩
 have z:S m∨h.size≤m:=hb4.imp id fun h=>by omega
 have hUb:∀U∈Us,∀y,U y→(S y∨h.size≤y)∧y<L.size:=fun U q y d=>⟨.inl (C U q y d),by have:=v y (C U q y d);omega⟩
 have R:∀y,SR o m A4 Us y→(S y∨h.size≤y)∧y<L.size:=fun y d=>vl z (by omega) D hUb d
 have hSk5:∀y,SR o m A4 Us y→y<p.size:=fun y d=>by
  rcases d.2 with rfl|h|⟨U,J,h⟩
  ·omega
  ·have:=(g y h).2.2;omega
  ·have:=v y (C U J y h);omega
 have Z:∀y,SR o m A4 Us y→y≠u:=fun y d e=>by
  subst e;rcases d.2 with h|h|⟨U,J,h⟩
  ·exact nb h
  ·rcases(g y h).1 with h|h
   ·have:=v y h;omega
   ·omega
  ·have:=v y (C U J y h);omega
 have H:∀{A:Nat→Prop} {bb:Nat} {T:List (Nat→Prop)} {X:Nat→Prop},(∀y,A y→S y∨h.size≤y)→(S bb∨h.size≤bb)→o=none→(∀y,A y→¬(W y∨SR o u X T y))∧¬(W bb∨SR o u X T bb):=fun{A bb T X} hA hb e=>by
  have no:∀y,(S y∨h.size≤y)→¬(W y∨SR o u X T y):=fun y d P=>by
   rcases P with P|⟨P,_⟩
   ·rcases d with h|h
    ·exact hno e y h
    ·have:=hW y P;omega
   ·rw[e]at P;cases P
  exact⟨fun y d=>no y (hA y d),no _ hb⟩
 refine hk L u (SR o u (· =p.size) [SR o m A4 Us]) (sE (ks:= [some ⟨m,0,none⟩]) b7 rfl (⟨rfl,mE,au _,.inr ⟨p.size,[],rfl,rfl,by simpa[kC]using b67,rfl⟩⟩:OwnS kC 1 aH (· =p.size) L ⟨some ⟨p.size,0,none⟩,1,1⟩ [some ⟨m,0,none⟩]) (fun y d=>?_) (fun U q y d=>?_) (fun i j A B hij e1 e2=>?_) ⟨rfl,rfl,fun i kk n U ek en eU=>?_⟩ (H (fun y d=>?_) (.inr (by omega)))) (fun y d=>?_) (u07.mono fun y d=>?_)
 ·have d:y=p.size:=d
  omega
 ·rw[aj.1 q]at d
  have:=hSk5 y d;exact⟨fun h=>by have h:y=p.size:=h;omega,Z y d⟩
 ·cases i with
  |zero=>cases j with
   |zero=>exact absurd rfl hij
   |succ j=>simp at e2
  |succ i=>simp at e1
 ·cases i with
  |succ i=>simp at ek
  |zero=>
   simp only[bU,bi.injEq,Fo.toL]at ek en eU;subst ek en eU;refine⟨m,sl.extract c sl.size,rfl,AE ..,sE b57 hv hA7 (fun y d=>⟨(g y d).2.1,(D y d).2⟩) hU4 hPD (hL.move u07 (fun U q y d=>v y (C U q y d)) (fun y d=>?_) fun y d=>?_) (H (fun y d=>(D y d).1) z)⟩
   ·have d:y=m:=d
    subst d;exact z.imp (fun h=>⟨O y h,fun U q hu=>(hU4 U q y hu).2 rfl⟩) id
   ·rcases d with h|h
    ·exact .inl h
    ·rcases h.2 with rfl|h|⟨U,q,h⟩
     ·exact .inr (by omega)
     ·have h:y=p.size:=h
      exact .inr (by omega)
     ·rw[aj.1 q]at h
      exact(R y h).1.imp (O y) id
 ·have d:y=p.size:=d
  exact .inr (by omega)
 ·refine vl (.inr (by omega)) (aF b7) (fun y d=>?_) (fun U q y d=>?_) d
  ·have d:y=p.size:=d
   exact⟨.inr (by omega),by omega⟩
  ·rw[aj.1 q]at d
   exact R y d
 ·have d:y=m:=d
  rw[d];exact z
end Go.Proofs
