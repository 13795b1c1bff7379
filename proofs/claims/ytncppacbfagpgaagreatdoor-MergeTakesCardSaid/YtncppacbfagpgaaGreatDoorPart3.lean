/- A part of the proof that the named laws of this program answer true, whatever the input. -/
import Derived.Test.YtncppacbfagpgaaGreatDoorPart2
import Derived.Test.YtncppacbfagpgaaGreatDoorPart0
open Array renaming toList_inj→lh
open ByteArray renaming mk→nC,data_extract→tc
open Iff renaming rfl→zO
open Int renaming le_refl→xI,fdiv→ed,toNat_natCast→aU
open List renaming length_nil→aM,length_append→ac,length_singleton→aK,append_assoc→aq,length_cons→ar,getElem_mem→bh,mem_of_mem_take→jP,getElem_cons_drop→sW,take_append_drop→aO,take_succ_eq_append_getElem→bj,flatMap_append→bI,flatMap_cons→aN,flatMap_nil→jA,append_nil→aL,take_length→ce,cons_append→cM,append_inj→vh,cons→ft,mem_cons_self→au,mem_cons_of_mem→aE,pairwise_cons→aF,mem_cons→aC,zip_cons_cons→lA,mem_append→bC,length_take→aQ,zip_eq_zipWith→qc,length_drop→aV,set_eq_take_append_cons_drop→eA,pairwise_iff_getElem→cn,extract_eq_take_drop→jg,length→fP,mem_map→fC,pairwise_append→cx,pairwise_map→j7,lt_irrefl→wM
open List.Lex renaming nil→zN
open List.Pairwise renaming nil→eI
open Nat renaming le_trans→aX,mul_le_mul_left→gJ,mul_le_mul_right→cz,add_mul→kV,not_lt_zero→lQ,zero_le→aS,le_refl→aj,shiftRight_eq_div_pow→cK,mod_eq_of_lt→dS,lt_or_ge→bR,zero_add→aR,le_of_eq→eY,lt_irrefl→nV
open Option renaming some→bO,mem_toList→sK,map_eq_some_iff→ny
open Prod renaming ext→yX,mk→qG
namespace Go.Proofs
open Go Go.Lift
theorem Sq{h:ad}{b d n:Nat}{sp sk:SliceV}{c:Bool}{ow:Option Addr}(a:h[b]? =some (.cells (gc d n sp sk c ow) bP (0,0))) (f:sp.len+sk.len≤1000000000) {K:Int→ad→Prop} (e:K ((sp.len+sk.len:Nat):Int) h):HC PG nH [.pointer (some ⟨b,0,none⟩)] [.c (.int .i64)] K h:=by
 refine zX _ ?_;unfold vf bK;refine ag.2 ⟨_,rfl,sp,fE (i:=2) a,_,rfl,sk,fE (i:=3) a,?_⟩;rw[eJ (by omega)];exact_mod_cast e
def Bes(M:Nat→Prop)(h a:ad)(b:Nat):Prop:=M b∧(b<h.size∨a.size≤b)
theorem Bes.own{α:Type}{f:α→List Value}{c:Nat}{t:TypeId}{M:Nat→Prop}{h a:ad}{s:SliceV}{xs:List α}(e:OwnS f c t M h s xs)(d:Upd No h a):OwnS f c t (Bes M h a) a s xs:=
 (e.within.upd d fun _ _ h=>h).more fun _ b=>⟨b.1,.inl b.2⟩
theorem Bes.sl{α:Type}{f:α→List Value}{c:Nat}{t:TypeId}{M:Nat→Prop}{h a:ad}{s:SliceV}{xs:List α}(e:OwnS f c t (fun x=>h.size≤x) a s xs):Sl f c (Bes M h a) a s xs:=
 e.sl fun b g d hx=>by rcases hx.2 with h|h<;>omega
theorem Bes.hM{M:Nat→Prop}{h a:ad}(hM:∀b,h.size≤b→M b)(d:Upd No h a):∀b,a.size≤b→Bes M h a b:=fun b c=>⟨hM b (aX d.size c),.inr c⟩
theorem XI{W:Nat→Prop}{x:Hs}:∀(m:Nat),m≤13→∀{b:Nat} {l:List Pr} {Z h:ad} {M:Nat→Prop} {s:SliceV} {xs:List UInt8},TrieAt W x Z m b l→Upd No Z h→(∀y,M y→Z.size≤y)→OwnS rD 1 cQ M h s xs→(∀y,h.size≤y→M y)→Fit l→l.length≤60000→
  xs.length+(9+l.length*(20004+9*(m+1)))≤140737488355328→∀{K:SliceV→ad→Prop},(∀s' h',OwnS rD 1 cQ M h' s' (xs++gu x m l)→Upd M h h'→K s' h')→
  HC PG wX [.slice s.a s.len s.cap,.pointer (some ⟨b,0,none⟩),.int .i64 ((13-m:Nat):Int)] [.c .slice] K h:=by
 intro m;induction m with
 |zero=>
  intro _ b l Z h M s xs t hu0 J ho hM hf hn hx K hk;refine Hg s (some ⟨b,0,none⟩) ((13-0:Nat):Int) ?_;unfold Bh bE bT Ue Vp Zw;have st:∀{h'},Upd M h h'→Upd No Z h':=fun k=>hu0.trans k fun y j=>.inr (J y j)
  have bk:∀{h'},Upd M h h'→BuckAt W h' b l:=fun k=>BuckAt.upd t (st k) fun _ h=>h.elim
  have w:∀{h'},Upd M h h'→∀y,h'.size≤y→M y:=fun k y j=>hM y (aX k.size j)
  obtain⟨sp,sk,ow,hb,_⟩:=(bk (Upd.refl M h)).ex;refine gL hb (aw.2 (bG ?_));refine yC (b:=1) rfl ho hM (by omega) fun s1 h1 ho1 o=>?_
  obtain⟨sp1,sk1,ow1,H,P,hsk1,_⟩:=(bk o).ex;have e1:=P.len;have e2:=hsk1.len;rw[aM]at e2;refine Sq H (by omega) ?_;have ew:IntKind.wrap .u64 ((sp1.len+sk1.len:Nat):Int)=((l.length:Nat):Int):=by rw[Go.IntWalk.u64_in _ (by omega)];omega
  rw[ew];have hl2:l.length*20004≤l.length*(20004+9*(0+1)):=gJ _ (by omega);refine SB ho1 (w o) (n:=l.length) (k:=2) (by omega) (by omega) (by rw[ac,aK];omega) fun s2 h2 O v=>?_
  have T:=o.tr v;obtain⟨sp2,sk2,ow2,hb2,X,_⟩:=(bk T).ex;refine rO hb2 X (by omega) fun s3 E A C=>?_
  refine IK (M:=Bes M h2 E) (W:=Bes M h2 E) (Bes.own O C) (Bes.hM (w T) C) (Bes.sl A) (fun _ h _=>h) hf (by omega) (by rw[ac,ac,aK,dK];omega) fun s4 F ho4 Y=>?_
  refine hk s4 F ?_ (T.tr (C.wide.tr (Y.mono fun y j=>.inl j.1)))
  have:=ho4.more (M':=M) fun y j=>j.1
  rw[gu,List.append_cons,←aq];exact this
 |succ m ih=>
  intro hm b l Z h M s xs t hu0 J ho hM hf hn hx K hk;refine Hg s (some ⟨b,0,none⟩) ((13-(m+1):Nat):Int) ?_;unfold Bh bE bT Ue Vp Zw;have st:∀{h'},Upd M h h'→Upd No Z h':=fun k=>hu0.trans k fun y j=>.inr (J y j)
  have w:∀{h'},Upd M h h'→∀y,h'.size≤y→M y:=fun k y j=>hM y (aX k.size j)
  obtain⟨sl,nd,hs0⟩:=t;have hs:∀c,c<32→SlotIs W x Z m sl c (part x (12-m) c l):=hs0;have hd:∀{h'},Upd M h h'→∃d n sp sk ow,h'[b]? =some (.cells (gc d n sp sk false ow) bP (0,0))∧d=lu (fun c=>(km (part x (12-m) c l)).isSome) 32∧n=lu (fun c=>(fZ (part x (12-m) c l)).isSome) 32∧Sl ey 2 W h' sp (iw x (12-m) l)∧Sl uy 1 W h' sk (fm sl.k 32):=fun{h'} k=>by
   obtain⟨d,n,sp,sk,ow,hb,bits,E,F,_⟩:=(nd.upd (st k) fun _ h=>h.elim).ex
   refine⟨d,n,sp,sk,ow,hb,M5 bits.d32 fun c hc=>?_,M5 bits.n32 fun c hc=>?_,?_,F⟩
   ·rw[bits.dp c hc,(IH (hs c hc)).1]
   ·rw[bits.nk c hc,(IH (hs c hc)).2]
   ·rw[←H0 hs];exact E
  have hka:KidsAt W x Z m (fm sl.k 32) (mu x (12-m) l):=SH 32 hs;have u:=qM (x:=x) (m+1) hf;have hlen2:=u;have hml:∀L∈mu x (12-m) l,Fit L∧L.length≤60000:=fun L hL=>by
   obtain⟨_,c,rfl⟩:=rp hL;exact⟨hf.part,aX li hn⟩
  have hsf:Fit (iw x (12-m) l):=fun p hp=>hf p (tI hp)
  have hsl:=yg x (12-m) l;unfold gu at hk u;have G:∀q:Nat→Bool,lu q 32<4294967296:=fun q=>pn q 32
  have hd32:=G fun c=>(km (part x (12-m) c l)).isSome
  have hn32:=G fun c=>(fZ (part x (12-m) c l)).isSome
  generalize lu (fun c=>(km (part x (12-m) c l)).isSome) 32=D at hk hd u hd32
  generalize lu (fun c=>(fZ (part x (12-m) c l)).isSome) 32=N at hk hd u hn32
  have hS:(iw x (12-m) l).length≤60000:=by omega
  have hSb:(iw x (12-m) l).length*20004≤l.length*(20004+9*(m+1+1)):=Nat.mul_le_mul (by omega) (by omega);have hML:∀L∈mu x (12-m) l,2≤L.length∧(gu x m L).length≤9+L.length*(20004+9*(m+1)):=fun L hL=>by
   obtain⟨E,c,rfl⟩:=rp hL;exact⟨E,qM m hf.part⟩
  have hbud:9+(iw x (12-m) l).length*20004+(mu x (12-m) l).flatten.length*(20004+9*(m+1)+9)≤9+l.length*(20004+9*(m+1+1)):=by
   have h5:(iw x (12-m) l).length*20004≤(iw x (12-m) l).length*(20004+9*(m+1+1)):=gJ _ (by omega);have h6:((iw x (12-m) l).length+(mu x (12-m) l).flatten.length)*(20004+9*(m+1+1))≤l.length*(20004+9*(m+1+1)):=cz _ hsl;rw[kV]at h6;have h7:20004+9*(m+1)+9=20004+9*(m+1+1):=by omega
   rw[h7];omega
  have hps:=pa hsf;generalize iw x (12-m) l=So at hk hd hsf hS hSb hbud u hps;generalize mu x (12-m) l=Ma at hk hka hml hML hbud u;obtain⟨d,n,sp,sk,ow,hb,_⟩:=hd (Upd.refl M h);refine gL hb (ag.2 (Join.intro (fun s' h'=>OwnS rD 1 cQ M h' s' (xs++(0::(pe D 4++pe N 4)))∧Upd M h h') (fun R hR=>bG ?_) ?_))
  ·refine yC (b:=0) rfl ho hM (by omega) fun s1 h1 ho1 o=>?_
   obtain⟨d1,n1,sp1,sk1,ow1,H,rfl,rfl,_⟩:=hd o;refine Ob H ?_;rw[Go.IntWalk.u64_in _ (by omega)];refine SB ho1 (w o) (n:=d1) (k:=4) (by omega) (by omega) (by rw[ac,aK];omega) fun s2 h2 O v=>?_
   obtain⟨d2,n2,sp2,sk2,ow2,hb2,rfl,rfl,_⟩:=hd (o.tr v);refine Ea hb2 ?_;rw[Go.IntWalk.u64_in _ (by omega)];refine SB O (w (o.tr v)) (n:=n2) (k:=4) (by omega) (by omega) (by rw[ac,ac,aK,dK];omega) fun s3 E A C=>?_
   refine hR _ _ ⟨?_,(o.tr v).tr C⟩;rw[List.append_cons,←aq];exact A
  ·rintro s' h1 ⟨ho1,o⟩
   obtain⟨d1,n1,sp1,sk1,ow1,H,_,_,P,_⟩:=hd o;refine rO H P (by omega) fun s2 h2 O v=>?_
   refine IK (M:=Bes M h1 h2) (W:=Bes M h1 h2) (Bes.own ho1 v) (Bes.hM (w o) v) (Bes.sl O) (fun _ h _=>h) hsf (by omega) (by rw[ac,ar,ac,dK,dK];omega) fun s3 E A C=>?_
   have A:=A.more (M':=M) fun y j=>j.1
   have S:Upd M h E:=o.tr (v.wide.tr (C.mono fun y j=>.inl j.1))
   have e13:(((13-(m+1):Nat):Int)==(13:Int))=false:=by rw[beq_eq_false_iff_ne];omega
   rw[e13];refine ag.2 ?_;obtain⟨d3,n3,sp3,sk3,ow3,hb3,_,_,_,hsk3⟩:=hd S;have hk32:=AN (g:=sl.k);refine US hb3 hsk3 (by omega) fun s4 F ho4 Y=>?_
   have V:Sl uy 1 (Bes M E F) F s4 (fm sl.k 32):=Bes.sl ho4;have hlk:=V.len;have ew:IntKind.wrap .i64 (((13-(m+1):Nat):Int)+1)=((13-m:Nat):Int):=by rw[eJ (by omega)];omega
   rw[ew];have hMb:=Bes.hM (w S) Y;have hob:=Bes.own A Y;have hu04:Upd M h F:=S.tr Y.wide;have hMM:∀y,Bes M E F y→M y:=fun y j=>j.1
   have st4:∀{h'},Upd (Bes M E F) F h'→Upd M h h':=fun k=>hu04.tr (k.mono fun y j=>.inl j.1)
   generalize Bes M E F=B at V hMb hob hMM st4;have hkl:∀{ks:List (Option Addr)} {ls:List (List Pr)},KidsAt W x Z m ks ls→ks.length=ls.length∧∀i (hi:i<ls.length),∃kb,ks[i]? =some (some ⟨kb,0,none⟩)∧TrieAt W x Z m kb ls[i]:=by
    intro ks;induction ks with
    |nil=>intro ls;cases ls with
     |nil=>intro _;exact⟨rfl,fun i hi=>absurd hi (lQ _)⟩
     |cons a ls=>intro h;exact h.elim
    |cons k ks ihk=>intro ls;cases ls with
     |nil=>intro h;exact h.elim
     |cons a ls=>
      rintro⟨⟨kb,rfl,tk⟩,h⟩;obtain⟨e,hr⟩:=ihk h;refine⟨by simp[e],fun i hi=>?_⟩
      cases i with
      |zero=>exact⟨kb,rfl,tk⟩
      |succ i=>simp only[List.getElem?_cons_succ,List.getElem_cons_succ];exact hr i (by simpa using hi)
   obtain⟨hkl,hkt⟩:=hkl hka;have hbase:(xs++(0::(pe D 4++pe N 4))++mG So).length≤xs.length+(9+So.length*20004):=by
    rw[ac,ac,ar,ac,dK,dK];omega
   refine LoopP.ghost (fun(i:Nat) (t:SliceV×Int) h'=>t.2=(i:Int)∧i≤Ma.length∧OwnS rD 1 cQ B h' t.1 (xs++(0::(pe D 4++pe N 4))++mG So++(Ma.take i).flatMap (gu x m))∧Upd B F h') (fun i=>Ma.length-i) 0 ⟨rfl,aS _,by simpa using hob,Upd.refl _ _⟩ ?_
   rintro I i ⟨so,ti⟩ h' ⟨e1,hi,ho',U⟩ hI;simp only at e1 ho';subst e1;refine ax (fun z=>?_) fun hge=>?_
   ·have z:i<Ma.length:=by have:(i:Int)<(s4.len:Int):=z;omega
    obtain⟨kb,hk1,tk⟩:=hkt i z;obtain⟨a,ha,_,hv⟩:=(V.upd U fun y j=>.inl j).at0 hk1
    refine⟨⟨by simp only;omega,by simp only;omega⟩,a,ha,some ⟨kb,0,none⟩,hv,?_⟩
    have Q:Ma[i]∈Ma:=bh z;have htl:=HZ (f:=gu x m) (ls:=Ma.take i) (B:=20004+9*(m+1)) fun L hL=>hML L (jP hL)
    have hsp:(Ma.take i).flatten.length+Ma[i].length≤Ma.flatten.length:=by
     have e:Ma=Ma.take i++Ma[i]::Ma.drop (i+1):=by rw[sW,aO]
     have:=congrArg (fun L=>(List.flatten L).length) e
     simp only[List.flatten_append,List.flatten_cons,ac]at this;omega
    have X:=cz (20004+9*(m+1)+9) hsp;rw[kV]at X;have h2l:=(hML _ Q).1;have hone:9+Ma[i].length*(20004+9*(m+1))≤Ma[i].length*(20004+9*(m+1)+9):=by rw[Nat.mul_add (Ma[i].length) (20004+9*(m+1)) 9];omega
    refine ih (by omega) tk (hu0.trans (st4 U) fun y j=>.inr (J y j)) (fun y j=>J y (hMM y j)) ho' (fun y j=>hMb y (aX U.size j)) (hml _ Q).1 (hml _ Q).2 (by rw[ac];omega) fun s5 h5 ho5 hu5=>?_
    rw[cS z (by omega)];refine hI (i+1) _ _ ⟨rfl,z,?_,U.tr hu5⟩ (by omega);rw[bj z,bI,aN,jA,aL,←aq];exact ho5
   ·have hil:i=Ma.length:=by have:¬(i:Int)<(s4.len:Int):=hge;omega
    subst hil;rw[ce]at ho';refine hk _ _ ?_ (st4 U);have:=ho'.more hMM;simp only[aq,cM]at this⊢;exact this
end Go.Proofs
namespace Go.Proofs
open Go Go.Lift
theorem ZO{W:Nat→Prop}{x:Hs}{h:ad}{b:Nat}{l:List Pr}(t:TrieAt W x h 13 b l)(c:Fit l)(a:l.length≤60000){K:SliceV→ad→Prop}(e:∀s' h',OwnS rD 1 cQ (fun y=>h.size≤y) h' s' (gu x 13 l)→Upd No h h'→K s' h'):HC PG Dc [.pointer (some ⟨b,0,none⟩)] [.c .slice] K h:=by
 refine Tz _ ?_;unfold Kt;refine ag.2 ?_;have i:l.length*(20004+9*(13+1))≤60000*(20004+9*(13+1)):=cz _ a;exact XI (x:=x) 13 (aj _) (s:=⟨none,0,0⟩) (xs:= []) (M:=fun y=>h.size≤y) t (Upd.refl _ _) (fun _ h=>h) (OwnS.nil wn) (fun _ h=>h) c a (by rw[aM];omega) fun s' h' f d=>e s' h' f (d.mono fun y g=>.inr g)
theorem P5:∀{a b:Nat} (k:Nat),pe a k=pe b k→a%2^(8*k)=b%2^(8*k)
 |_,_,0,_=>by simp[Nat.mod_one]
 |a,b,k+1,h=>by
  rw[BC,BC]at h;obtain⟨f,h2⟩:=vh h (by rw[dK,dK]);have d:=P5 k f;have c:=congrArg UInt8.toNat (ft.inj h2).1;rw[UInt8.toNat_ofNat',UInt8.toNat_ofNat',cK,cK]at c;have e:2^(8*(k+1))=2^(8*k)*2^8:=by rw[Nat.mul_add,Nat.pow_add]
  rw[e,Nat.mod_mul,Nat.mod_mul,d,c]
theorem yn{a b k:Nat}{r c:List UInt8}(e:a<2^(8*k))(f:b<2^(8*k))(h:pe a k++r=pe b k++c):a=b∧r=c:=by
 obtain⟨d,h2⟩:=vh h (by rw[dK,dK]);have:=P5 k d;rw[dS e,dS f]at this;exact⟨this,h2⟩
theorem Bt{a b:ByteArray}{r c:List UInt8}(i:a.size≤10000)(g:b.size≤10000)(h:qh a++r=qh b++c):a=b∧r=c:=by
 unfold qh at h;rw[aq,aq]at h;obtain⟨d,h2⟩:=yn (k:=2) (by omega) (by omega) h;obtain⟨f,e⟩:=vh h2 (by simpa using d);refine⟨?_,e⟩;cases a;cases b;exact congrArg nC (lh.1 f)
theorem CT:∀{l l':List Pr} {r r':List UInt8},Fit l→Fit l'→l.length=l'.length→mG l++r=mG l'++r'→l=l'∧r=r'
 | [],[],_,_,_,_,_,h=>⟨rfl,h⟩
 | [],_::_,_,_,_,_,e,_=>by simp at e
 |_::_,[],_,_,_,_,e,_=>by simp at e
 |p::l,q::l',r,r',hf,hf',e,h=>by
  unfold mG at h;rw[aN,aN,GY,GY]at h;simp only[aq]at h;have b:=hf p (au ..);have h2:=hf' q (au ..);obtain⟨c,h⟩:=Bt b.1 h2.1 h;obtain⟨f,h⟩:=Bt b.2 h2.2 h;obtain⟨d,h⟩:=CT (l:=l) (l':=l') (fun z a=>hf z (aE _ a)) (fun z a=>hf' z (aE _ a)) (by simpa using e) h
  exact⟨by rw[d,yX c f],h⟩
theorem H9{β γ:Type}{g:Nat→Option β}{a:Nat→Option γ}:∀n,(∀c,c<n→(g c).isSome=(a c).isSome)→(fm g n).length=(fm a n).length
 |0,_=>rfl
 |n+1,h=>by
  rw[jG,jG,ac,ac,H9 n fun c hc=>h c (by omega)]
  have:=h n (by omega);cases h1:g n<;>cases h2:a n<;>rw[h1,h2]at this<;>first|rfl|cases this
theorem JC{β:Type}{g a:Nat→Option β}:∀n,(∀c,c<n→(g c).isSome=(a c).isSome)→fm g n=fm a n→∀c,c<n→g c=a c
 |0,_,_,c,hc=>absurd hc (lQ _)
 |n+1,h,e,c,hc=>by
  rw[jG,jG]at e;obtain⟨f,b⟩:=vh e (H9 n fun c hc=>h c (by omega))
  rcases bR c n with d|d
  ·exact JC n (fun c hc=>h c (by omega)) f c d
  ·have:c=n:=by omega
   subst this;cases h1:g c<;>cases h2:a c<;>rw[h1,h2]at b<;>simp at b⊢
   exact b
theorem yj:∀{l l':List Pr},bM l→bM l'→(∀p,p∈l↔p∈l')→l=l'
 | [],[],_,_,_=>rfl
 | [],q::l',_,_,h=>absurd ((h q).2 (au ..)) (by simp)
 |p::l,[],_,_,h=>absurd ((h p).1 (au ..)) (by simp)
 |p::l,q::l',d,a,h=>by
  have d:=aF.1 d;have a:=aF.1 a;have e:p=q:=by
   rcases aC.1 ((h p).1 (au ..))with e|g
   ·exact e
   ·rcases aC.1 ((h q).2 (au ..))with e|f
    ·exact e.symm
    ·exact absurd (gD (d.1 q f) (a.1 p g)) (bZ _)
  subst e;rw[yj d.2 a.2 fun z=>?_]
  constructor
  ·intro c
   rcases aC.1 ((h z).1 (aE _ c))with e|b
   ·exact absurd (d.1 z c) (by rw[e];exact bZ _)
   ·exact b
  ·intro c
   rcases aC.1 ((h z).2 (aE _ c))with e|b
   ·exact absurd (a.1 z c) (by rw[e];exact bZ _)
   ·exact b
theorem PP{x:Hs}{lev:Nat}{l l':List Pr}(f:bM l)(d:bM l')(h:∀c,c<32→part x lev c l=part x lev c l'):l=l':=by
 refine yj f d fun p=>?_
 have e:=h (ck x lev p.1) (zT ..);have b:=nF (x:=x) (lev:=lev) (c:=ck x lev p.1) (l:=l) (p:=p);have h2:=nF (x:=x) (lev:=lev) (c:=ck x lev p.1) (l:=l') (p:=p);rw[e]at b;constructor
 ·intro a;exact(h2.1 (b.2 ⟨a,rfl⟩)).1
 ·intro a;exact(b.1 (h2.2 ⟨a,rfl⟩)).1
theorem VB{q q':List Pr}(e:km q=km q')(h2:fZ q=fZ q'):q=q':=by
 match q,q' with
 | [],[]=>rfl
 | [a],[b]=>simp[km]at e;rw[e]
 | [],[b]=>simp[km]at e
 | [a],[]=>simp[km]at e
 | [],b::c::q'=>simp[fZ]at h2
 | [a],b::c::q'=>simp[fZ]at h2
 |b::c::q',[]=>simp[fZ]at h2
 |b::c::q',[a]=>simp[fZ]at h2
 |a::b::q,c::d::q'=>simpa[fZ]using h2
theorem Qq{f:List Pr→List UInt8}:∀{ls ls':List (List Pr)} {r r':List UInt8},ls.length=ls'.length→(∀L∈ls,∀L'∈ls',∀r r',f L++r=f L'++r'→L=L'∧r=r')→ls.flatMap f++r=ls'.flatMap f++r'→ls=ls'∧r=r'
 | [],[],_,_,_,_,h=>⟨rfl,h⟩
 | [],_::_,_,_,e,_,_=>by simp at e
 |_::_,[],_,_,e,_,_=>by simp at e
 |L::ls,L'::ls',r,r',e,hf,h=>by
  rw[aN,aN,aq,aq]at h;obtain⟨d,h⟩:=hf L (au ..) L' (au ..) _ _ h;obtain⟨b,h⟩:=Qq (by simpa using e) (fun A a B c=>hf A (aE _ a) B (aE _ c)) h
  exact⟨by rw[d,b],h⟩
theorem IJ{x:Hs}:∀(m:Nat) {l l':List Pr} {r a:List UInt8},Fit l→Fit l'→l.length≤60000→l'.length≤60000→bM l→bM l'→gu x m l++r=gu x m l'++a→l=l'∧r=a
 |0,l,l',r,a,hf,hf',hn,hn',_,_,h=>by
  unfold gu at h;rw[cM,cM,aq,aq]at h;obtain⟨e,h⟩:=yn (k:=2) (by omega) (by omega) (ft.inj h).2;exact CT hf hf' e h
 |m+1,l,l',r,a,hf,hf',hn,hn',hr,hr',h=>by
  unfold gu at h;simp only[cM,aq]at h;obtain⟨b1,h⟩:=yn (k:=4) (pn _ 32) (pn _ 32) (ft.inj h).2;obtain⟨b2,h⟩:=yn (k:=4) (pn _ 32) (pn _ 32) h;have bits:∀{q q':Nat→Bool},lu q 32=lu q' 32→∀c,c<32→q c=q' c:=fun{q q'} e c hc=>by
   have:=congrArg (fun n=>n.testBit c) e
   simp only[Gh,decide_eq_true hc,Bool.true_and]at this;exact this
  have b1:=bits b1;have b2:=bits b2;obtain⟨f,h⟩:=CT (fun p d=>hf p (tI d)) (fun p d=>hf' p (tI d)) (H9 32 b1) h
  obtain⟨o,h⟩:=Qq (H9 32 b2) (fun L g L' b r a e=>by
   obtain⟨_,c,rfl⟩:=rp g
   obtain⟨_,c',rfl⟩:=rp b
   exact IJ m hf.part hf'.part (aX li hn) (aX li hn') (jl hr) (jl hr') e) h
  have j:=JC 32 b1 f;have i:=JC 32 b2 o;exact⟨PP hr hr' fun c hc=>VB (j c hc) (i c hc),h⟩
end Go.Proofs
namespace Go.Proofs
open Go Go.Lift
def Ft(lab:ByteArray)(has:Bool)(val:ByteArray)(s:SliceV)(ow:Option Addr):Array Value:= #[.string lab,.bool has,.string val,sv s,.pointer ow]
theorem vw{w:Option ByteArray}{val:ByteArray}(h:val=w.getD ⟨#[]⟩):∀v,w=some v→val=v:=fun v e=>by rw[h,e];rfl
def RxF(W:Nat→Prop)(h:ad):Fo→List (Option Addr)→Prop
 | .nil,ks=>ks= []
 | .cons lab w kids rest,ks=>∃b sl val s ow ks1 ks',ks=some ⟨b,0,none⟩::ks'∧sl.data.toList=lab∧h[b]? =some (.cells (Ft sl w.isSome val s ow) cq (0,0))∧val=w.getD ⟨#[]⟩∧Sl rJ 1 W h s ks1∧(s.len≤s.cap∧¬W b)∧RxF W h kids ks1∧RxF W h rest ks'
def RxN(W:Nat→Prop)(h:ad)(b:Nat)(sl:ByteArray)(w:Option ByteArray)(F:Fo):Prop:=∃val s ow ks,h[b]? =some (.cells (Ft sl w.isSome val s ow) cq (0,0))∧val=w.getD ⟨#[]⟩∧Sl rJ 1 W h s ks∧(s.len≤s.cap∧¬W b)∧RxF W h F ks
def Kid(W:Nat→Prop)(h:ad)(k:Option Addr)(n:Bn):Prop:=∃b sl,k=some ⟨b,0,none⟩∧sl.data.toList=n.1∧RxN W h b sl n.2.1 n.2.2
def RxL(W:Nat→Prop)(h:ad)(ks:List (Option Addr))(L:List Bn):Prop:=ks.length=L.length∧∀p∈ks.zip L,Kid W h p.1 p.2
theorem lW{W:Nat→Prop}{h:ad}:∀{F:Fo} {ks:List (Option Addr)},RxF W h F ks↔RxL W h ks F.toL
 | .nil,ks=>by
  unfold RxF RxL;simp[Fo.toL]
 | .cons lab w kids rest,ks=>by
  unfold RxF RxL;rw[Fo.toL_cons];constructor
  ·rintro⟨b,sl,val,s,ow,c,d,rfl,f,n,i,m,j,o,u⟩
   obtain⟨v,t⟩:=lW.1 u;refine⟨by simp[v],fun p a=>?_⟩
   rw[lA]at a;rcases aC.1 a with rfl|a
   ·exact⟨b,sl,rfl,f,val,s,ow,c,n,i,m,j,o⟩
   ·exact t p a
  ·cases ks with
   |nil=>rintro⟨e,_⟩;simp at e
   |cons k d=>
    rintro⟨e,a⟩;rw[lA]at a;obtain⟨b,sl,q,f,val,s,ow,c,n,i,m,j,o⟩:=a _ (au ..);refine⟨b,sl,val,s,ow,c,d,by rw[←q],f,n,i,m,j,o,lW.2 ⟨by simpa using e,fun p g=>a p (aE _ g)⟩⟩
theorem RxF.upd0{W:Nat→Prop}{h h':ad}(k:Upd No h h'):∀{F:Fo} {ks:List (Option Addr)},RxF W h F ks→RxF W h' F ks
 | .nil,_,r=>r
 | .cons _ _ _ _,_,⟨b,sl,val,s,ow,ks1,ks',e0,e1,e2,e3,e4,e5,e6,e7⟩=>⟨b,sl,val,s,ow,ks1,ks',e0,e1,k.get0 e2,e3,e4.upd k fun _ h=>h.elim,e5,RxF.upd0 k e6,RxF.upd0 k e7⟩
theorem RxN.upd0{W:Nat→Prop}{h h':ad}(k:Upd No h h'){b:Nat}{sl:ByteArray}{w:Option ByteArray}{F:Fo}:RxN W h b sl w F→RxN W h' b sl w F
 |⟨val,s,ow,ks,e2,e3,e4,e5,e6⟩=>⟨val,s,ow,ks,k.get0 e2,e3,e4.upd k fun _ h=>h.elim,e5,RxF.upd0 k e6⟩
theorem Kid.upd0{W:Nat→Prop}{h h':ad}(k:Upd No h h'){a:Option Addr}{n:Bn}:Kid W h a n→Kid W h' a n
 |⟨b,sl,e1,e2,e3⟩=>⟨b,sl,e1,e2,e3.upd0 k⟩
theorem RxF.less{W W':Nat→Prop}{h:ad}(hm:∀b,W' b→W b∨h.size≤b):∀{F:Fo} {ks:List (Option Addr)},RxF W h F ks→RxF W' h F ks
 | .nil,_,r=>r
 | .cons _ _ _ _,_,⟨b,sl,val,s,ow,ks1,ks',e0,e1,e2,e3,e4,e5,e6,e7⟩=>⟨b,sl,val,s,ow,ks1,ks',e0,e1,e2,e3,e4.less hm,⟨e5.1,fun hx=>(hm _ hx).elim e5.2 fun h=>by have:=aY e2;omega⟩,RxF.less hm e6,RxF.less hm e7⟩
theorem RxN.less{W W':Nat→Prop}{h:ad}(hm:∀b,W' b→W b∨h.size≤b){b:Nat}{sl:ByteArray}{w:Option ByteArray}{F:Fo}:RxN W h b sl w F→RxN W' h b sl w F
 |⟨val,s,ow,ks,e2,e3,e4,e5,e6⟩=>⟨val,s,ow,ks,e2,e3,e4.less hm,⟨e5.1,fun hx=>(hm _ hx).elim e5.2 fun h=>by have:=aY e2;omega⟩,RxF.less hm e6⟩
theorem RxF.updM{W M:Nat→Prop}{h h':ad}(k:Upd M h h')(hm:∀b,M b→W b∨h.size≤b):∀{F:Fo} {ks:List (Option Addr)},RxF W h F ks→RxF W h' F ks
 | .nil,_,r=>r
 | .cons _ _ _ _,_,⟨b,sl,val,s,ow,ks1,ks',e0,e1,e2,e3,e4,e5,e6,e7⟩=>⟨b,sl,val,s,ow,ks1,ks',e0,e1,k.get e2 (fun hx=>(hm _ hx).elim e5.2 fun h=>by have:=aY e2;omega),e3,e4.upd k hm,e5,RxF.updM k hm e6,RxF.updM k hm e7⟩
theorem RxN.updM{W M:Nat→Prop}{h h':ad}(k:Upd M h h')(hm:∀b,M b→W b∨h.size≤b){b:Nat}{sl:ByteArray}{w:Option ByteArray}{F:Fo}:RxN W h b sl w F→RxN W h' b sl w F
 |⟨val,s,ow,ks,e2,e3,e4,e5,e6⟩=>⟨val,s,ow,ks,k.get e2 (fun hx=>(hm _ hx).elim e5.2 fun h=>by have:=aY e2;omega),e3,e4.upd k hm,e5,RxF.updM k hm e6⟩
theorem RxL.upd0{W:Nat→Prop}{h h':ad}(k:Upd No h h'){ks:List (Option Addr)}{L:List Bn}(r:RxL W h ks L):RxL W h' ks L:=⟨r.1,fun p a=>(r.2 p a).upd0 k⟩
theorem RxL.app{W:Nat→Prop}{h:ad}{ks b:List (Option Addr)}{L L':List Bn}(r:RxL W h ks L)(c:RxL W h b L'):RxL W h (ks++b) (L++L'):=by
 refine⟨by rw[ac,ac,r.1,c.1],fun p a=>?_⟩
 rw[List.zip_append r.1]at a;rcases bC.1 a with a|a
 ·exact r.2 p a
 ·exact c.2 p a
theorem RxL.one{W:Nat→Prop}{h:ad}{k:Option Addr}{n:Bn}(c:Kid W h k n):RxL W h [k] [n]:=⟨rfl,fun p a=>by rw[lA,List.zip_nil_left]at a;rw[List.mem_singleton.1 a];exact c⟩
theorem RxL.take{W:Nat→Prop}{h:ad}{ks:List (Option Addr)}{L:List Bn}(r:RxL W h ks L)(i:Nat):RxL W h (ks.take i) (L.take i):=by
 refine⟨by rw[aQ,aQ,r.1],fun p a=>r.2 p ?_⟩
 have:(ks.take i).zip (L.take i)=(ks.zip L).take i:=by rw[qc,qc,List.take_zipWith]
 rw[this]at a;exact jP a
theorem RxL.drop{W:Nat→Prop}{h:ad}{ks:List (Option Addr)}{L:List Bn}(r:RxL W h ks L)(i:Nat):RxL W h (ks.drop i) (L.drop i):=by
 refine⟨by rw[aV,aV,r.1],fun p a=>r.2 p ?_⟩
 have:(ks.drop i).zip (L.drop i)=(ks.zip L).drop i:=by rw[qc,qc,List.drop_zipWith]
 rw[this]at a;exact List.mem_of_mem_drop a
theorem RxL.ins{W:Nat→Prop}{h:ad}{ks:List (Option Addr)}{L:List Bn}(r:RxL W h ks L)(i:Nat){k:Option Addr}{n:Bn}(c:Kid W h k n):RxL W h (ks.take i++k::ks.drop i) (L.take i++n::L.drop i):=by
 have:=(r.take i).app ((RxL.one c).app (r.drop i));exact this
theorem RxL.set{W:Nat→Prop}{h:ad}{ks:List (Option Addr)}{L:List Bn}(r:RxL W h ks L){i:Nat}(hi:i<L.length){k:Option Addr}{n:Bn}(c:Kid W h k n):RxL W h (ks.set i k) (L.set i n):=by
 have:=(r.take i).app ((RxL.one c).app (r.drop (i+1)));rw[eA,eA,if_pos (by rw[r.1];exact hi),if_pos hi];exact this
theorem RxL.at{W:Nat→Prop}{h:ad}{ks:List (Option Addr)}{L:List Bn}(r:RxL W h ks L){i:Nat}(hi:i<L.length):∃b sl,ks[i]? =some (some ⟨b,0,none⟩)∧sl.data.toList=L[i].1∧RxN W h b sl L[i].2.1 L[i].2.2:=by
 have e:i<ks.length:=by rw[r.1];exact hi
 have c:i<(ks.zip L).length:=by rw[List.length_zip];omega
 have:=r.2 _ (bh c);rw[List.getElem_zip]at this;obtain⟨b,sl,a,f,d⟩:=this;exact⟨b,sl,by rw[List.getElem?_eq_getElem e];exact congrArg some a,f,d⟩
theorem FP:∀{L:List Bn} {c:Nat},L.Pairwise (fun m n=>hd m.1<hd n.1)→(∀n∈L,c≤hd n.1)→L= []∨c+L.length≤256
 | [],_,_,_=>.inl rfl
 |n::L,c,a,hc=>by
  have a:=aF.1 a;have d:=hc n (au ..);have b:=aa3 n.1;rcases FP (c:=hd n.1+1) a.2 fun m hm=>a.1 m hm with e|e
  ·rw[e];right;simp only[aK];omega
  ·right;rw[ar];omega
theorem lD{F:Fo}(h:gf F):F.toL.length≤256:=by
 rcases FP (c:=0) (eP.1 h).1 fun _ _=>aS _ with e|e
 ·rw[e];simp
 ·omega
theorem dU{h:ad}{b i:Nat}{c:Array Value}(a:h[b]? =some (.cells c cq (0,0))):aJ h (adr ⟨b,0,none⟩ i)=c[i]?:=by rw[cd,aR];exact bm a
theorem Zo{h:ad}{b i:Nat}{c:Array Value}(a:h[b]? =some (.cells c cq (0,0))) (hi:i<c.size):Wr h (adr ⟨b,0,none⟩ i):=by rw[cd,aR];exact ip a hi
theorem K7{h:ad}{b i:Nat}{c c':Array Value}{v:Value}{k:ad→Prop}(g:h[b]? =some (.cells c cq (0,0))) (e:c.setIfInBounds i v=c') (d:∀h',h'[b]? =some (.cells c' cq (0,0))→Upd (· =b) h h'→k h'):At (hset h (adr ⟨b,0,none⟩ i) v) k:=by
 rw[cd,aR];exact wr g fun h' a f=>d h' (e▸a) f
theorem Qn(s:ByteArray)(i:Nat):s[i]? =s.data.toList[i]?:=by
 rw[Array.getElem?_toList];by_cases h:i<s.size
 ·rw[getElem?_pos s i h,getElem?_pos s.data i h];rfl
 ·rw[getElem?_neg s i h,getElem?_neg s.data i h]
theorem F0{s:ByteArray}(a:s.data.toList≠[]):∃c:UInt8,s[0]? =some c∧c.toNat=hd s.data.toList:=by
 rw[Qn];match s.data.toList,a with
 |c::l,_=>exact⟨c,rfl,rfl⟩
theorem FM{W:Nat→Prop}{h:ad}{b:Nat}{sl:ByteArray}{w:Option ByteArray}{F:Fo}(r:RxN W h b sl w F)(hc:gf F){c:Nat}(hc8:c<256){K:Int×Bool→ad→Prop}
  (C:∀i ok,i≤F.toL.length→(∀j (p:j<F.toL.length),j<i→hd F.toL[j].1<c)→(∀j (p:j<F.toL.length),i≤j→c≤hd F.toL[j].1)→(ok=true↔∃hi:i<F.toL.length,hd F.toL[i].1=c)→K ((i:Int),ok) h):HC PG l0 [.pointer (some ⟨b,0,none⟩),.int .u8 c] [.c (.int .i64),.c .bool] K h:=by
 refine EO _ c ?_;unfold xr bK;obtain⟨val,s,ow,ks,hb,_,hs,U,hF⟩:=r;refine⟨_,rfl,s,dU (i:=3) hb,?_⟩;have H:=lW.1 hF;have d:=eP.1 hc;have hn:=lD hc;have y:=hs.len;rw[H.1]at y;generalize hLe:F.toL=L at H d hn y C;refine jx s c _ ?_;unfold fe bE bT jR Iq
 have G:∀{i:Nat} (hi:i<L.length) {K:Int→ad→Prop},K ((hd L[i].1:Int)-(c:Int)) h→∃a,s.a=some a∧∃v,aJ h (adr a (i*1))=some (.pointer v)∧HV PG (.func (.func p5) #[] #[]) [.pointer v,.int .u8 c] [.c (.int .i64)] K h:=by
  intro i hi K C;obtain⟨kb,E,M,D,R⟩:=H.at hi;obtain⟨a,ha,_,hv⟩:=hs.at0 M;refine⟨a,ha,_,hv,HV.mk' (BU (some ⟨kb,0,none⟩) c ?_)⟩;unfold vu az;obtain⟨kval,kss,kow,kks,Q,_⟩:=R;have N:E.data.toList≠[]:=by rw[D];exact(d.2 _ (bh hi)).1
  obtain⟨u,hu,S⟩:=F0 N;refine⟨_,rfl,E,dU (i:=0) Q,u,xI _,hu,?_⟩;simp only[Bd];have f:=aa3 L[i].1;rw[S,D,eJ (x:=(hd L[i].1:Int)) (by omega),eJ (x:=(c:Int)) (by omega),eJ (by omega)];exact C
 have mono:∀i j (hi:i<L.length) (p:j<L.length),i<j→hd L[i].1<hd L[j].1:=fun i j hi p e=>cn.1 d.1 i j hi p e
 refine LoopP.ghost (fun(g:Nat×Nat) (t:Int×Int) h'=>t.1=(g.1:Int)∧t.2=(g.2:Int)∧g.1≤g.2∧g.2≤L.length∧h'=h∧(∀j (p:j<L.length),j<g.1→hd L[j].1<c)∧(∀j (p:j<L.length),g.2≤j→c≤hd L[j].1)) (fun g=>g.2-g.1) (0,L.length)
  ⟨rfl,by simp only;omega,by simp,by simp,rfl,fun j p h=>by omega,fun j p h=>by simp only at h;omega⟩ ?_
 rintro I ⟨i,j⟩ ⟨ti,tj⟩ h' ⟨X,Y,e,n,rfl,k,o⟩ T;simp only at X Y e n k o;subst X Y;refine ax (fun f=>?_) fun J=>?_
 ·have f:i<j:=by have:(i:Int)<(j:Int):=f;omega
  have em:IntKind.wrap .i64 (ed (IntKind.wrap .u64 (IntKind.wrap .i64 ((i:Int)+(j:Int)))) (2^(min (1:Int).toNat (IntKind.bits .u64))))=(((i+j)/2:Nat):Int):=by
   have e3:(2^(min (1:Int).toNat (IntKind.bits .u64)):Int)=2:=rfl;rw[e3,eJ (x:=(i:Int)+(j:Int)) (by omega),Go.IntWalk.u64_in _ (by omega),Int.fdiv_eq_ediv_of_nonneg _ (by omega),eJ (by omega)];omega
  refine⟨by decide,?_⟩;simp only[Bd];rw[em];generalize hm:(i+j)/2=m;have z:m<L.length:=by omega
  refine⟨by omega,?_⟩;refine G z ?_;refine ax (fun V=>?_) fun Z=>?_
  ·refine T (m+1,j) _ _ ⟨by simp only;rw[eJ (by omega)];omega,rfl,by simp only;omega,n,rfl,fun q P B=>?_,o⟩ (by simp only;omega)
   simp only at B;rcases bR q m with h|h
   ·have:=mono q m P z h;omega
   ·have:q=m:=by omega
    subst this;omega
  ·refine T (i,m) _ _ ⟨rfl,rfl,by simp only;omega,by simp only;omega,rfl,k,fun q P B=>?_⟩ (by simp only;omega)
   simp only at B;rcases bR m q with h|h
   ·have:=mono m q z P h;omega
   ·have:q=m:=by omega
    subst this;omega
 ·have e:i=j:=by have:¬(i:Int)<(j:Int):=J;omega
  subst e;refine ax (fun f=>?_) fun O=>?_
  ·have A:i<L.length:=by have:(i:Int)<(s.len:Int):=f;omega
   refine⟨by simp only;omega,?_⟩;refine G A ?_;refine C i _ n k o ?_;rw[beq_iff_eq];exact⟨fun h=>⟨A,by omega⟩,fun⟨_,h⟩=>by omega⟩
  ·have A:i=L.length:=by have:¬(i:Int)<(s.len:Int):=O;omega
   exact C i false n k o ⟨fun h=>(by cases h),fun h=>(by obtain⟨h,_⟩:=h;omega)⟩
end Go.Proofs
namespace Go.Proofs
open Go Go.Lift
theorem Pq{b:Nat}{h:ad}{K:Bool→ad→Prop}(a:K false h):HC PG qV [.pointer (some ⟨b,0,none⟩),.pointer none] [.c .bool] K h:=by
 refine Dy _ none ?_;unfold wF lX;exact aw.2 (AI (ag.2 a))
abbrev aaV:List Value:= [.string (⟨#[]⟩:ByteArray),.bool false,.string (⟨#[]⟩:ByteArray),.slice none 0 0,.pointer none]
theorem rI{W:Nat→Prop}{h:ad}{b:Nat}{sl val:ByteArray}{has:Bool}{s:SliceV}{ow:Option Addr}{ks:List (Option Addr)}(d:h[b]? =some (.cells (Ft sl has val s ow) cq (0,0))) (A:Sl rJ 1 W h s ks) (C:ks.length≤256) {K:Option Addr→ad→Prop}
  (v:∀h' s',h'[h.size]? =some (.cells (Ft sl has val s' none) cq (0,0))→OwnS rJ 1 bW (fun x=>h.size<x∧x<h'.size) h' s' ks→Upd No h h'→K (some ⟨h.size,0,none⟩) h'):
  HC PG fa [.pointer (some ⟨b,0,none⟩),.pointer none] [.c .ptr] K h:=by
 refine Gs _ none ?_;unfold yP lX bK nv az dy bF O0 oU ach;refine Pq (ag.2 ?_);refine⟨_,rfl,sl,dU (i:=0) d,has,dU (i:=1) d,val,dU (i:=2) d,s,dU (i:=3) d,ow,dU (i:=4) d,bG ?_⟩;have k1:=Upd.hnew No h aaV cq;have b1:=co h aaV cq;simp only[cT h];generalize hnew h [.string (⟨#[]⟩:ByteArray),.bool false,.string (⟨#[]⟩:ByteArray),.slice none 0 0,.pointer none] cq=h1 at k1 b1
 refine cF (c:=aaV) (vs:= [.string sl,.bool has,.string val,.slice s.a s.len s.cap,.pointer ow]) b1 rfl fun h2 b2 n=>?_
 have p:Upd No h h2:=k1.trans n fun x hx=>.inr (eY hx.symm)
 have z:h.size<h2.size:=aY b2;have k:=p.get0 d;refine⟨_,rfl,s,dU (i:=3) k,?_⟩;refine M2 (A.upd p fun _ h=>h.elim) (by omega) fun o y q f=>?_
 have b3:y[h.size]? =some (.cells (Ft sl has val s ow) cq (0,0)):=f.get0 b2;refine⟨Zo (i:=3) b3 (show 3<5 by decide),K7 (i:=3) (c':=Ft sl has val o ow) b3 rfl fun B t m=>?_⟩
 refine⟨Zo (i:=4) t (show 4<5 by decide),K7 (i:=4) (c':=Ft sl has val o none) t rfl fun u w j=>?_⟩
 refine AI (ag.2 ?_);have a:=m.tr j;have D:=a.size;have g:=(q.within.upd a fun x hx e=>by have e:x=h.size:=e;have:=hx.1;omega).more (M':=fun x=>h.size<x∧x<u.size) fun x hx=>⟨by have:=hx.1;omega,by have:=hx.2;omega⟩
 exact v u o w g ((p.tr f).trans a fun x hx=>.inr (eY hx.symm))
theorem y5{h:ad}{b:Nat}{sl nl:ByteArray}{has:Bool}{val:ByteArray}{s:SliceV}{ow:Option Addr}(a:h[b]? =some (.cells (Ft sl has val s ow) cq (0,0))) {K:Option Addr→ad→Prop}
  (c:∀h',h'[b]? =some (.cells (Ft nl has val s ow) cq (0,0))→Upd (· =b) h h'→K (some ⟨b,0,none⟩) h'):HC PG jp [.pointer (some ⟨b,0,none⟩),.string nl] [.c .ptr] K h:=by
 refine Dx _ nl ?_;unfold wE dy;exact⟨_,rfl,Zo (i:=0) a (show 0<5 by decide),K7 (i:=0) (c':=Ft nl has val s ow) a rfl c⟩
theorem GR{h:ad}{b:Nat}{sl v:ByteArray}{has:Bool}{val:ByteArray}{s:SliceV}{ow:Option Addr}(d:h[b]? =some (.cells (Ft sl has val s ow) cq (0,0))) {K:Option Addr→ad→Prop}
  (e:∀h',h'[b]? =some (.cells (Ft sl true v s ow) cq (0,0))→Upd (· =b) h h'→K (some ⟨b,0,none⟩) h'):HC PG mz [.pointer (some ⟨b,0,none⟩),.string v] [.c .ptr] K h:=by
 refine BS _ v ?_;unfold vr dy;exact⟨_,rfl,Zo (i:=1) d (show 1<5 by decide),K7 (i:=1) (c':=Ft sl true val s ow) d rfl fun f b1 a=>⟨_,rfl,Zo (i:=2) b1 (show 2<5 by decide),K7 (i:=2) (c':=Ft sl true v s ow) b1 rfl fun h2 b2 c=>e h2 b2 (a.tr c)⟩⟩
theorem RP{h:ad}{k v:ByteArray}{K:Option Addr→ad→Prop}(g:∀h' b s,h'[b]? =some (.cells (Ft k true v s none) cq (0,0))→s.len=0→s.len≤s.cap→h.size≤b→Upd No h h'→K (some ⟨b,0,none⟩) h'):HC PG xQ [.pointer none,.string k,.string v] [.c .ptr] K h:=by
 refine LH none k v ?_;unfold Cr Am O0 oU;have k1:=Upd.hnew No h aaV cq;have b1:=co h aaV cq;refine bG ?_;simp only[cT h];generalize hnew h [.string (⟨#[]⟩:ByteArray),.bool false,.string (⟨#[]⟩:ByteArray),.slice none 0 0,.pointer none] cq=h1 at k1 b1;refine rI (W:=No) (ks:= []) (sl:=⟨#[]⟩) (val:=⟨#[]⟩) (has:=false) (s:=⟨none,0,0⟩) (ow:=none) b1 (Sl.nil qO) (aS _) fun h2 s b2 c d=>?_
 refine y5 (nl:=k) b2 fun n b3 f=>GR (v:=v) b3 fun i j e=>?_
 have a:=f.tr e;have z:=d.size;have m:=k1.size;refine g i h1.size s j c.len c.cap m ((k1.tr d).trans a fun x hx=>.inr (by have hx:x=h1.size:=hx;omega))
theorem acI{W:Nat→Prop}{h:ad}{b:Nat}{k v:ByteArray}{s:SliceV}{ow:Option Addr}(c:h[b]? =some (.cells (Ft k true v s ow) cq (0,0))) (a:s.len=0) (hc:s.len≤s.cap) (nw:¬W b):RxN W h b k (some v) .nil:=
 ⟨v,s,ow,[],c,rfl,⟨a,qO,fun h=>absurd rfl h⟩,⟨hc,nw⟩,rfl⟩
theorem Er(s:ByteArray)(c:Nat):(s.extract 0 c).data.toList=s.data.toList.take c:=by
 rw[tc,Array.toList_extract,jg];simp
theorem Es(s:ByteArray)(c:Nat):(s.extract c s.size).data.toList=s.data.toList.drop c:=by
 rw[tc,Array.toList_extract,jg,List.take_of_length_le];rw[aV];simp
theorem RO{W:Nat→Prop}{h:ad}{b:Nat}{sl:ByteArray}{w:Option ByteArray}{F:Fo}(r:RxN W h b sl w F)(A:∀y,W y→y<h.size)(T:F.toL.length≤256){c:Nat}(hc:c≤sl.size){K:Option Addr→ad→Prop}
  (P:∀h' b',RxN W h' b' (sl.extract 0 c) none (.cons (sl.data.toList.drop c) w F .nil)→Upd No h h'→K (some ⟨b',0,none⟩) h'):HC PG qU [.pointer (some ⟨b,0,none⟩),.pointer none,.int .i64 c] [.c .ptr] K h:=by
 refine Dv _ none c ?_;unfold wC az dy Am O0 oU;obtain⟨val,s,ow,ks,N,hv,X,L,O⟩:=r;have lab:∀{h'},Upd No h h'→aJ h' (adr ⟨b,0,none⟩ 0)=some (.string sl):=fun k=>dU (i:=0) (k.get0 N)
 have r0:=Upd.refl No h;refine⟨_,rfl,sl,lab r0,⟨by omega,by omega⟩,bG ?_⟩
 have k1:=Upd.hnew No h aaV cq;have b1:=co h aaV cq;simp only[cT h];generalize hnew h [.string (⟨#[]⟩:ByteArray),.bool false,.string (⟨#[]⟩:ByteArray),.slice none 0 0,.pointer none] cq=h1 at k1 b1;refine⟨lab k1,?_⟩;refine rI (W:=No) (ks:= []) (sl:=⟨#[]⟩) (val:=⟨#[]⟩) (has:=false) (s:=⟨none,0,0⟩) (ow:=none) b1 (Sl.nil qO) (aS _) fun h2 Q b2 _ t=>⟨lab (k1.tr t),?_⟩
 rw[aU];refine y5 b2 fun d b3 G=>?_
 have z1:=k1.size;have a:Upd No h d:=(k1.tr t).trans G fun x hx=>.inr (by have hx:x=h1.size:=hx;omega)
 refine rI (a.get0 N) (X.upd a fun _ h=>h.elim) (by rw[(lW.1 O).1];exact T) fun h4 S I H q=>?_
 refine⟨_,rfl,sl,dU (i:=0) I,⟨by omega,by omega⟩,?_⟩
 refine y5 (nl:=sl.extract c sl.size) I fun f R n=>?_
 have m:Upd No h f:=(a.tr q).trans n fun x hx=>.inr (by have hx:x=d.size:=hx;have:=a.size;omega)
 have E:=H.upd n fun x hx e=>by have e:x=d.size:=e;have:=hx.1;omega
 have V:=aY b3;have p:f[h1.size]? =some (.cells (Ft (sl.extract 0 c) false ⟨#[]⟩ Q none) cq (0,0)):=n.get (q.get0 b3) (by show ¬h1.size=d.size;omega);have u:=Upd.hnew No f [.pointer (some ⟨d.size,0,none⟩)] bW;have J:=co f [.pointer (some ⟨d.size,0,none⟩)] bW;have Z:=m.size;have hz3:=a.size;refine bG ?_;simp only[cT f]
 generalize hnew f [.pointer (some ⟨d.size,0,none⟩)] bW=h6 at u J;have z:=u.get0 p;have M:=aY p;refine⟨_,rfl,Zo (i:=3) z (show 3<5 by decide),K7 (i:=3) (c':=Ft (sl.extract 0 c) false ⟨#[]⟩ ⟨some ⟨f.size,0,none⟩,1,1⟩ none) z rfl fun D U g=>?_⟩
 have j:Upd No h D:=(m.tr u).trans g fun x hx=>.inr (by have hx:x=h1.size:=hx;omega)
 have B:D[f.size]? =some (.cells #[.pointer (some ⟨d.size,0,none⟩)] bW (0,0)):=g.get J (by show ¬f.size=h1.size;omega);have C:=g.get (u.get0 R) (by show ¬d.size=h1.size;omega);have o:=(E.upd u fun _ _ h=>h).upd g fun x hx e=>by have e:x=h1.size:=e;have:=hx.1;omega
 refine P D h1.size ⟨⟨#[]⟩,_,none,[some ⟨d.size,0,none⟩],U,rfl,⟨rfl,qO,fun _=>⟨_,rfl,(fun hx=>by have hx:W f.size:=hx;have:=A _ hx;omega),ox B fun i v hi=>?_⟩⟩,⟨aj _,fun hx=>by have:=A _ hx;omega⟩,?_⟩ j
 ·rw[aR]
  rw[←List.getElem?_toArray]at hi;exact hi
 ·refine⟨d.size,sl.extract c sl.size,val,S,none,ks,[],rfl,Es ..,C,hv,o.sl (fun x hx _ Y=>by have:=A _ Y;have:=hx.1;omega),⟨o.cap,fun hx=>by have:=A _ hx;omega⟩,RxF.upd0 j O,rfl⟩
end Go.Proofs
namespace Go.Proofs
open Go Go.Lift
theorem M0:∀{x y:List UInt8} {i:Nat},i≤x.length→i≤y.length→(∀j,j<i→x[j]? =y[j]?)→(i=x.length∨i=y.length∨x[i]?≠y[i]?)→cm x y=i
 | [],_,i,h1,_,_,_=>by simp at h1;simp[cm,h1]
 |_::_,[],i,_,h2,_,_=>by simp at h2;simp[cm,h2]
 |a::x,b::y,0,_,_,_,h=>by
  unfold cm;rw[if_neg];rintro rfl;rcases h with h|h|h<;>simp at h
 |a::x,b::y,i+1,h1,h2,h3,h4=>by
  have:=h3 0 (by omega);simp only[List.getElem?_cons_zero,bO.injEq]at this;unfold cm;rw[if_pos this,M0 (i:=i) (by simpa using h1) (by simpa using h2) (fun j c=>by simpa using h3 (j+1) (by omega)) (by simpa using h4)]
theorem Wz{a b:ByteArray}(A:a.size≤1000000){h:ad}{K:Int→ad→Prop}(n:K (cm a.data.toList b.data.toList:Nat) h):HC PG xO [.string a,.string b] [.c (.int .i64)] K h:=by
 refine LB a b ?_;unfold Cm;simp only[Bd];have g:(if(b.size:Int)<(a.size:Int)then(b.size:Int)else(a.size:Int))=((min a.size b.size:Nat):Int):=by split<;>omega
 rw[g];have y:a.data.toList.length=a.size:=by simp
 have z:b.data.toList.length=b.size:=by simp
 refine LoopP.ghost (fun(i:Nat) (t:Int) h'=>t=(i:Int)∧i≤min a.size b.size∧h'=h∧∀j,j<i→a.data.toList[j]? =b.data.toList[j]?) (fun i=>min a.size b.size-i) 0 ⟨rfl,aS _,rfl,fun j s=>absurd s (lQ _)⟩ ?_
 rintro I i t h' ⟨rfl,hi,rfl,p⟩ w;refine ax (fun c=>?_) fun x=>?_
 ·have c:i<min a.size b.size:=by omega
  have m:i<a.size:=by omega
  have k:i<b.size:=by omega
  refine⟨a[i],by omega,by rw[aU,getElem?_pos a i m],b[i],by omega,by rw[aU,getElem?_pos b i k],?_⟩
  have q:a.data.toList[i]? =some a[i]:=by rw[←Qn,getElem?_pos a i m]
  have v:b.data.toList[i]? =some b[i]:=by rw[←Qn,getElem?_pos b i k]
  refine CondP.intro (fun f=>?_) fun d=>?_
  ·rw[M0 (i:=i) (by omega) (by omega) p (.inr (.inr fun e=>?_))]at n
   ·exact n
   ·rw[q,v]at e
    rw[bO.inj e]at f;simp at f
  ·have d:a[i]=b[i]:=by
    have:((a[i].toNat:Int))=(b[i].toNat:Int):=by simpa using d
    exact UInt8.toNat_inj.1 (by omega)
   rw[cS c (by omega)];refine w (i+1) _ _ ⟨rfl,c,rfl,fun j s=>?_⟩ (by omega)
   rcases bR j i with u|u
   ·exact p j u
   ·have:j=i:=by omega
    subst this;rw[q,v,d]
 ·have o:i=min a.size b.size:=by omega
  rw[M0 (i:=i) (by omega) (by omega) p (by omega)]at n;rw[←o];exact n
theorem VS{F:Fo}{i:Nat}{k:List UInt8}{v:ByteArray}(h:gf F)(hi:i<F.toL.length)(ek:hd F.toL[i].1=hd k)(a:xZ (wO F.toL[i]) (wO F.toL[i]) k v):xZ (tg F) (tg F) k v:=by
 have:=PL h hi ek a;rw[List.set_getElem_self,Fo.of_to]at this;exact this
theorem XX{P Q a:List UInt8→ByteArray→Prop}{k:List UInt8}{v:ByteArray}(h:xZ P a k v)(e:∀k v,P k v↔Q k v):xZ Q a k v:=fun k' b=>by rw[h k' b,e]
set_option maxHeartbeats 1000000 in
theorem XJ{W:Nat→Prop}:∀(n:Nat) {b:Nat} {sl:ByteArray} {w:Option ByteArray} {F:Fo} {h:ad} (k v:ByteArray),k.size<n→k.size≤1000000→RxN W h b sl w F→(∀y,W y→y<h.size)→gf F→∀{K:(Option Addr)×Bool×Bool→ad→Prop},
  (∀h' b' w' F' B ch,Upd No h h'→RxN W h' b' sl w' F'→gf F'→xZ (uQ w F) (uQ w' F') k.data.toList v→(ch=false→b'=b∧w'=w∧F'=F)→(uQ w F k.data.toList v→ch=false)→K (some ⟨b',0,none⟩,B,ch) h')→
  HC PG pF [.pointer (some ⟨b,0,none⟩),.pointer none,.string k,.string v] [.c .ptr,.c .bool,.c .bool] K h:=by
 intro n;induction n with
 |zero=>intro b sl w F h k v hk;omega
 |succ n ih=>
  intro b sl w F h k v H hk6 r Y hc K hk;refine Gr (some ⟨b,0,none⟩) none k v ?_;unfold yO bE bT bK az iU dy Am bF Xk Iq oU abe Nq;have hr:=r;obtain⟨val,s,ow,ks,hb,hv,hs,hcap,hF⟩:=r;have T:=lW.1 hF;have hn:=lD hc;have hcan:=eP.1 hc;rw[ge];refine ax (fun hk0=>?_) fun hk0=>?_
  ·have hke:k.data.toList= []:=by rw[hk0]
   rw[hke]at hk;refine Join.intro (fun t h'=>t=decide (w=some v)∧h'=h) (fun R hR=>⟨_,rfl,w.isSome,dU (i:=1) hb,?_⟩) ?_
   ·cases I:w with
    |none=>exact ag.2 (hR _ _ ⟨by rw[I];rfl,rfl⟩)
    |some u=>
     refine aw.2 ⟨_,rfl,val,dU (i:=2) hb,hR _ _ ⟨?_,rfl⟩⟩;rw[ge,vw hv u I,I];exact decide_eq_decide.2 ⟨fun e=>by rw[e],fun e=>bO.inj e⟩
   ·rintro t h' ⟨rfl,rfl⟩
    refine ax (fun e=>?_) fun e=>?_
    ·refine hk h' b w F false false (Upd.refl _ _) hr hc ?_ (fun _=>⟨rfl,rfl,rfl⟩) fun _=>rfl
     rw[e];exact Ml hc v
    ·refine⟨_,rfl,w.isSome,dU (i:=1) hb,?_⟩
     refine rI hb hs (by rw[T.1];exact hn) fun h1 s1 b1 ho1 q=>?_
     refine⟨dU (i:=1) (q.get0 hb),?_⟩;refine GR b1 fun h2 b2 A=>?_
     have d:Upd No h' h2:=q.trans A fun x hx=>.inr (eY (Eq.symm hx))
     refine⟨dU (i:=1) (d.get0 hb),?_⟩;have ho2:=ho1.upd A fun x hx e=>by have e:x=h'.size:=e;have:=hx.1;omega
     refine hk h2 h'.size (some v) F _ true d ⟨v,s1,none,ks,b2,rfl,ho2.sl (fun x hx _ I=>by have:=Y _ I;have:=hx.1;omega),⟨ho2.cap,fun hx=>nV _ (Y _ hx)⟩,RxF.upd0 d hF⟩ hc (Ml hc v) (fun h=>by cases h) fun g=>?_
     rcases g with⟨_,h⟩|h
     ·exact absurd h e
     ·exact absurd rfl (qR hc h)
  ·have f:k.data.toList≠[]:=fun e=>hk0 (by cases k;exact congrArg nC (lh.1 e))
   obtain⟨c0,hc0,hc0e⟩:=F0 f;refine⟨c0,xI _,hc0,?_⟩;have hlk:k.data.toList.length=k.size:=by simp
   refine FM hr hc (c:=c0.toNat) (UInt8.toNat_lt _) fun i ok V hlo hhi hok=>?_
   rw[hc0e]at hlo hhi hok;cases ok with
   |false=>
    have hno:∀hi:i<F.toL.length,hd F.toL[i].1≠hd k.data.toList:=fun hi e=>by have:=hok.2 ⟨hi,e⟩;cases this
    have hhi':∀j (hj:j<F.toL.length),i≤j→hd k.data.toList<hd F.toL[j].1:=fun j hj hij=>by
     have h1:=hhi j hj hij;rcases bR i j with U|U
     ·have h2:=cn.1 hcan.1 i j (by omega) hj U
      have h3:=hhi i (by omega) (aj _);omega
     ·have:i=j:=by omega
      subst this;have:=hno hj;omega
    obtain⟨hc',hp'⟩:=VU (v:=v) hc f hlo hhi';refine aw.2 ?_;refine rI hb hs (by rw[T.1];exact hn) fun h1 s1 b1 ho1 q=>?_
    refine⟨_,rfl,s1,dU (i:=3) b1,?_⟩;refine RP fun h2 fb fs fb2 hf0 hfc hfb A=>⟨dU (i:=3) (A.get0 b1),bG ?_⟩
    have k3:=Upd.hnew No h2 [.pointer (some ⟨fb,0,none⟩)] bW;have b3:=co h2 [.pointer (some ⟨fb,0,none⟩)] bW;have z3:(hnew h2 [.pointer (some ⟨fb,0,none⟩)] bW).size=h2.size+1:=jV ..;simp only[cT h2];generalize hnew h2 [.pointer (some ⟨fb,0,none⟩)] bW=h3 at k3 b3 z3;have C:=A.tr k3;refine⟨dU (i:=3) (C.get0 b1),?_⟩;have z1:=aY b1
    have z2:=A.size;have zf:=aY fb2;have Z:=(ho1.upd C fun _ _ h=>h).more (M':=fun x=>(h.size<x∧x<h1.size)∨h3.size≤x) fun x hx=>.inl hx
    refine SM Z (k:=i) (by rw[T.1];exact V) (by rw[T.1];omega) b3 (by rintro(h|h)<;>omega) (fun x hx=>.inr hx) fun s4 h4 O E=>?_
    have b4:=E.get (C.get0 b1) (by rintro(h|h)<;>omega)
    have f4:=E.get (k3.get0 fb2) (by rintro(h|h)<;>omega)
    refine⟨_,rfl,Zo (i:=3) b4 (show 3<5 by decide),K7 (i:=3) (c':=Ft sl w.isSome val s4 none) b4 rfl fun h5 b5 hu5=>?_⟩
    have hu05:Upd No h h5:=((q.tr C).trans E fun x hx=>.inr (by have:=q.size;rcases hx with hx|hx<;>omega)).trans hu5 fun x hx=>.inr (eY (Eq.symm hx))
    have ho5:=O.upd hu5 fun x hx e=>by have e:x=h.size:=e;rcases hx with hx|hx<;>omega
    have f5:=hu5.get f4 (by show ¬fb=h.size;omega);refine hk h5 h.size w _ true true hu05 ⟨val,s4,none,_,b5,hv,ho5.sl (fun x hx _ I=>by have:=Y _ I;rcases hx with hx|hx<;>omega),⟨ho5.cap,fun hx=>nV _ (Y _ hx)⟩,lW.2 (by rw[Fo.to_of];exact(T.upd0 hu05).ins i ⟨fb,k,rfl,rfl,acI f5 hf0 hfc fun hx=>by have:=Y _ hx;omega⟩)⟩ hc' (FU f hp') (fun h=>by cases h) fun g=>?_
    rcases g with⟨h,_⟩|g
    ·exact absurd h f
    ·obtain⟨n',hn',e,_⟩:=tJ hc g
     obtain⟨j,hj,rfl⟩:=List.getElem_of_mem hn';rcases bR j i with U|U
     ·have:=hlo j hj U;omega
     ·have:=hhi' j hj U;omega
   |true=>
    obtain⟨hi,G⟩:=hok.1 rfl;refine ag.2 ⟨_,rfl,s,dU (i:=3) hb,?_⟩;obtain⟨kb,X,hki,z,H⟩:=T.at hi;have hmem:F.toL[i]∈F.toL:=bh hi;have o:=hcan.2 _ hmem;obtain⟨a,ha,_,hvv⟩:=hs.at0 hki;have hslen:=hs.len;rw[T.1]at hslen;have hlt1:(i:Int)<((s.len:Nat):Int):=by omega
    refine⟨⟨by simp only;omega,hlt1⟩,a,ha,some ⟨kb,0,none⟩,hvv,_,rfl,?_⟩;obtain⟨kval,kss,kow,kks,hkb,_⟩:=id H;refine⟨X,dU (i:=0) hkb,Wz hk6 ?_⟩;rw[z];have hc1:=YH f o.1 G.symm;have S:=Vb k.data.toList F.toL[i].1;have P:=U9 k.data.toList F.toL[i].1;have hcd:=Og k.data.toList F.toL[i].1;have hll:X.size=F.toL[i].1.length:=by rw[←z];simp
    have N:tg F k.data.toList v→wO F.toL[i] k.data.toList v:=fun g=>by
     obtain⟨n',hn',e,hN⟩:=tJ hc g;rw[←zE hc hn' hmem (by omega)];exact hN
    have hset:∀{w2:Option ByteArray} {F2:Fo} {nl:List UInt8},nl≠[]→hd nl=hd F.toL[i].1→gf F2→Br (uQ w2 F2)→gf (.ofL (F.toL.set i (nl,w2,F2))):=fun h1 h2 h3 h4=>Vc hc hi ⟨h1,(JX h3).2 h4,h3⟩ h2
    have J:∀{m:Bn},xZ (wO F.toL[i]) (wO m) k.data.toList v→xZ (tg F) (tg (.ofL (F.toL.set i m))) k.data.toList v:=fun hp=>PL hc hi G hp
    have Q:xZ (wO F.toL[i]) (wO F.toL[i]) k.data.toList v→xZ (tg F) (tg F) k.data.toList v:=VS hc hi G;have hrset:∀{h':ad} {k':Option Addr} {m:Bn},Upd No h h'→Kid W h' k' m→RxL W h' (ks.set i k') (F.toL.set i m):=fun hu hkd=>(T.upd0 hu).set hi hkd
    generalize F.toL[i]=m at z H o hc1 S P hcd hll N hset J Q G;generalize hcc:cm k.data.toList m.1=c at hc1 S P hcd;obtain⟨lab,wk,Fk⟩:=m;simp only at z H o S P hcd hll G hset;refine Join.intro (fun t h'=>∃ub p wu Fu,t=some ⟨ub,0,none⟩∧Upd No h h'∧RxN W h' ub p wu Fu∧gf Fu∧p.data.toList=k.data.toList.take c∧(∀k' v',wO (p.data.toList,wu,Fu) k' v'↔wO (lab,wk,Fk) k' v')∧(∀w' F',gf F'→xZ (uQ wu Fu) (uQ w' F') (k.data.toList.drop c) v→Br (uQ w' F'))) (fun R hR=>⟨_,rfl,X,dU (i:=0) hkb,?_⟩) ?_
    ·refine ax (fun hlt=>?_) fun hge=>?_
     ·have hlt:c<lab.length:=by omega
      refine RO H Y (lD o.2.2) (c:=c) (by omega) fun h1 ub rn q=>hR _ _ ⟨ub,_,none,_,rfl,q,rn,?_,?_,?_,?_⟩
      ·rw[z]
       refine⟨fun e=>?_,o.2.1,o.2.2,fun _ h=>by simp[Fo.toL]at h,trivial⟩
       have:=congrArg fP e;rw[aV,aM]at this;omega
      ·rw[Er,z,P]
      ·intro k' v'
       rw[Er,z];exact MK c k' v'
      ·intro w' F' hcF hp
       rw[z]at hp;refine YR (fun e=>?_) o.2.1 o.2.2 (fun hne=>?_) hp
       ·have:=congrArg fP e
        rw[aV,aM]at this;omega
       ·refine hcd ?_ hlt
        rcases bR c k.data.toList.length with U|U
        ·exact U
        ·exact absurd (List.drop_eq_nil_of_le U) hne
     ·have hce:c=lab.length:=by omega
      refine hR _ _ ⟨kb,X,wk,Fk,rfl,Upd.refl _ _,H,o.2.2,?_,?_,?_⟩
      ·rw[z,P,hce,ce]
      ·intro k' v';rw[z]
      ·intro w' F' hcF hp
       exact aaB ((JX o.2.2).1 o.2.1) hp
    ·rintro t h1 ⟨ub,p,wu,Fu,rfl,q,rn,hcu,hsl,M,hbr⟩
     refine⟨⟨by omega,by omega⟩,?_⟩
     rw[aU];have hkd:(k.extract c k.size).data.toList=k.data.toList.drop c:=Es ..;have hks:(k.extract c k.size).size=k.size-c:=by simp
     have D:k.data.toList=p.data.toList++k.data.toList.drop c:=by rw[hsl,aO]
     have L:p.data.toList≠[]:=by
      rw[hsl];intro e;have:=congrArg fP e;rw[aQ,aM]at this;omega
     have hslhd:hd p.data.toList=hd lab:=by
      rw[G];conv=>rhs;rw[D]
      rw[pZ L]
     refine ih (k.extract c k.size) v (by rw[hks];omega) (by rw[hks];omega) rn (fun y hy=>Nat.lt_of_lt_of_le (Y y hy) q.size) hcu fun h2 b2 w2 F2 B ch A rn2 hc2 hp2 hsm hch=>?_
     rw[hkd]at hp2 hch;have d:=q.tr A;have hpn:xZ (wO (lab,wk,Fk)) (wO (p.data.toList,w2,F2)) k.data.toList v:=by
      have:=XX (VT (lab:=p.data.toList) hp2) M;rw[←D]at this;exact this
     have hchg:uQ w F k.data.toList v→ch=false:=fun g=>by
      rcases g with⟨h,_⟩|g
      ·exact absurd h f
      ·obtain⟨r,e,hr'⟩:=(M _ _).2 (N g)
       simp only at e;rw[D]at e;have e2:=List.append_cancel_left e;rw[←D]at e;exact hch (by rw[e2];exact hr')
     cases ch with
     |false=>
      obtain⟨_,rfl,rfl⟩:=hsm rfl;refine aw.2 (hk h2 b w F false false d (hr.upd0 d) hc (FU f (Q ?_)) (fun _=>⟨rfl,rfl,rfl⟩) fun _=>rfl)
      intro k' v';exact(M k' v').symm.trans (hpn k' v')
     |true=>
      refine ag.2 ?_;refine rI (d.get0 hb) (hs.upd d fun _ h=>h.elim) (by rw[T.1];exact hn) fun h3 s3 b3 Z hu3=>?_
      refine⟨_,rfl,s3,dU (i:=3) b3,?_⟩;have V:i<ks.length:=by rw[T.1];exact hi
      obtain⟨a3,ha3,hab,hw3,O,E⟩:=OwnS.setAt Z V (some ⟨b2,0,none⟩);have hlen3:=Z.len;refine⟨⟨by simp only;omega,by simp only;omega⟩,a3,ha3,?_⟩
      have hw1:Wr h3 (adr a3 (i*1)):=by
       rcases hw3 with I|⟨b',hb',I⟩
       ·cases I
       ·cases hb';exact I 0 (by simp)
      refine⟨hw1,bG ?_⟩;have b4:=E.get b3 fun e=>by have e:h2.size=a3.block:=e;have:=hab.1;omega
      have hu24:Upd No h2 _:=hu3.trans E fun x hx=>.inr (by have hx:x=a3.block:=hx;have:=hab.1;omega)
      have hu04:=d.tr hu24;have eset:ks.set i (some ⟨b2,0,none⟩)=ks.take i++some ⟨b2,0,none⟩::ks.drop (i+1):=by rw[eA,if_pos V]
      rw[←eset]at O;exact hk _ h2.size w _ B true hu04 ⟨val,s3,none,_,b4,hv,O.sl (fun x hx _ I=>by have:=Y _ I;have:=d.size;have:=hx.1;omega),⟨O.cap,fun hx=>by have:=Y _ hx;have:=d.size;omega⟩,lW.2 (by rw[Fo.to_of];exact hrset hu04 ⟨b2,p,rfl,rfl,rn2.upd0 hu24⟩)⟩ (hset L hslhd hc2 (hbr _ _ hc2 hp2)) (FU f (J hpn)) (fun h=>by cases h) hchg
end Go.Proofs
namespace Go.Proofs
open Go Go.Lift
def BP:Fo→List (List UInt8×ByteArray)
 | .nil=> []
 | .cons lab w kids rest=>((w.map fun v=>(([]:List UInt8),v)).toList++BP kids).map (fun p=>(lab++p.1,p.2))++BP rest
def xM(w:Option ByteArray)(F:Fo):List (List UInt8×ByteArray):=(w.map fun v=>(([]:List UInt8),v)).toList++BP F
theorem wV:∀{F:Fo} {k:List UInt8} {v:ByteArray},(k,v)∈BP F↔tg F k v
 | .nil,_,_=>by simp[BP,tg]
 | .cons lab w kids rest,k,v=>by
  unfold BP tg;rw[bC,wV (F:=rest)];refine or_congr ?_ zO;rw[fC];constructor
  ·rintro⟨⟨r,u⟩,hm,b⟩
   simp only[qG.injEq]at b;obtain⟨rfl,rfl⟩:=b;refine⟨r,rfl,?_⟩;rcases bC.1 hm with h|h
   ·left
    rw[sK,ny]at h;obtain⟨a,c,b⟩:=h;simp only[qG.injEq]at b;exact⟨b.1.symm,by rw[c,b.2]⟩
   ·exact .inr (wV.1 h)
  ·rintro⟨r,rfl,h⟩
   refine⟨(r,v),bC.2 ?_,rfl⟩;rcases h with⟨rfl,h⟩|h
   ·left;rw[h];simp
   ·exact .inr (wV.2 h)
theorem lj{w:Option ByteArray}{F:Fo}{k:List UInt8}{v:ByteArray}:(k,v)∈xM w F↔uQ w F k v:=by
 unfold xM uQ;rw[bC,wV];refine or_congr ?_ zO;cases w with
 |none=>simp
 |some u=>simp[Prod.ext_iff,eq_comm]
abbrev Up(l:List (List UInt8×ByteArray)):Prop:=l.Pairwise fun p q=>p.1<q.1
theorem Oq{a x y:List UInt8}(h:x<y):a++x<a++y:=by
 induction a with
 |nil=>exact h
 |cons c a ih=>exact List.Lex.cons ih
theorem Qh{x y:List UInt8}(c:y≠[])(h:hd x<hd y):x<y:=by
 match x,y,c with
 | [],b::y,_=>exact zN
 |a::x,b::y,_=>exact List.Lex.rel (UInt8.lt_iff_toNat_lt.2 h)
theorem Sf:∀{F:Fo},gf F→Up (BP F)
 | .nil,_=>eI
 | .cons lab w kids rest,h=>by
  unfold BP;refine cx.2 ⟨?_,Sf h.2.2.2.2,?_⟩
  ·rw[j7]
   refine List.Pairwise.imp (R:=fun p q:List UInt8×ByteArray=>p.1<q.1) (fun i=>Oq i) ?_
   refine cx.2 ⟨?_,Sf h.2.2.1,?_⟩
   ·cases w<;>simp
   ·intro a g b f
    have d:b.1≠[]:=qR h.2.2.1 (wV (F:=kids).1 (show(b.1,b.2)∈_ from f))
    have j:a.1= []:=by
     rw[sK,ny]at g;obtain⟨v,_,e⟩:=g;rw[←e]
    rw[j];match b.1,d with
    |c::l,_=>exact zN
  ·intro a g b f
   obtain⟨p,_,rfl⟩:=fC.1 g;obtain⟨n,k,e,_⟩:=tJ h.2.2.2.2 (wV (F:=rest).1 (show(b.1,b.2)∈_ from f))
   have d:b.1≠[]:=qR h.2.2.2.2 (wV (F:=rest).1 (show(b.1,b.2)∈_ from f))
   have:=h.2.2.2.1 n k;exact Qh d (by rw[pZ h.1];omega)
theorem UC{w:Option ByteArray}{F:Fo}(h:gf F):Up (xM w F):=by
 refine cx.2 ⟨by cases w<;>simp,Sf h,?_⟩
 intro a g b i;have f:b.1≠[]:=qR h (wV (F:=F).1 (show(b.1,b.2)∈_ from i))
 have d:a.1= []:=by
  rw[sK,ny]at g;obtain⟨v,_,e⟩:=g;rw[←e]
 rw[d];match b.1,f with
 |c::l,_=>exact zN
theorem Xl:∀{l l':List (List UInt8×ByteArray)},Up l→Up l'→(∀p,p∈l↔p∈l')→l=l'
 | [],[],_,_,_=>rfl
 | [],q::l',_,_,h=>absurd ((h q).2 (au ..)) (by simp)
 |p::l,[],_,_,h=>absurd ((h p).1 (au ..)) (by simp)
 |p::l,q::l',d,a,h=>by
  have d:=aF.1 d;have a:=aF.1 a;have e:p=q:=by
   rcases aC.1 ((h p).1 (au ..))with e|g
   ·exact e
   ·rcases aC.1 ((h q).2 (au ..))with e|f
    ·exact e.symm
    ·exact absurd (List.lt_trans (d.1 q f) (a.1 p g)) (wM _)
  subst e;rw[Xl d.2 a.2 fun z=>?_]
  constructor
  ·intro c
   rcases aC.1 ((h z).1 (aE _ c))with e|b
   ·exact absurd (d.1 z c) (by rw[e];exact wM _)
   ·exact b
  ·intro c
   rcases aC.1 ((h z).2 (aE _ c))with e|b
   ·exact absurd (a.1 z c) (by rw[e];exact wM _)
   ·exact b
def Of:Fo→Nat
 | .nil=>0
 | .cons _ _ kids rest=>1+Of kids+Of rest
theorem Oe:∀{F:Fo},gf F→Of F+F.toL.length≤2*(BP F).length
 | .nil,_=>by simp[Of,Fo.toL]
 | .cons lab w kids rest,h=>by
  have b:=Oe h.2.2.1;have h2:=Oe h.2.2.2.2;have a:=h.2.1;rw[Fo.toL_cons];unfold Of BP;rw[ac,List.length_map,ac,ar];cases w with
  |none=>
   simp only[Option.map_none,Option.toList_none,aM];have:2≤kids.toL.length:=a.resolve_left (by simp);omega
  |some v=>simp only[Option.map_some,Option.toList_some,aK];omega
def OK:Fo→Prop
 | .nil=>True
 | .cons lab w kids rest=>lab.length≤10000∧(∀v,w=some v→v.size≤10000)∧kids.toL.length≤256∧OK kids∧OK rest
theorem SX:∀{F:Fo},gf F→(∀k v,tg F k v→k.length≤10000∧v.size≤10000)→OK F
 | .nil,_,_=>trivial
 | .cons lab w kids rest,h,hl=>by
  obtain⟨r,v,c⟩:=pf h _ (au ..);have b:=(hl _ v (gM.2 ⟨_,au ..,r,rfl,c⟩)).1;rw[ac]at b;simp only at b;refine⟨by omega,fun v hv=>(hl lab v (.inl ⟨[],(aL _).symm,.inl ⟨rfl,hv⟩⟩)).2,lD h.2.2.1,SX h.2.2.1 fun k v a=>?_,SX h.2.2.2.2 fun k v a=>hl k v (.inr a)⟩
  have:=hl (lab++k) v (.inl ⟨k,rfl,.inr a⟩);rw[ac]at this;exact⟨by omega,this.2⟩
def xK:Option ByteArray→List UInt8
 |some v=>1::qh v
 |none=> [0]
def vo(lab:List UInt8)(w:Option ByteArray)(n:Nat):List UInt8:=qh ⟨lab.toArray⟩++(xK w++pe n 2)
def qN:Fo→List UInt8
 | .nil=> []
 | .cons lab w kids rest=>vo lab w kids.toL.length++(qN kids++qN rest)
def kq(n:Bn):List UInt8:=vo n.1 n.2.1 n.2.2.toL.length++qN n.2.2
theorem Ar:∀F:Fo,qN F=F.toL.flatMap kq
 | .nil=>rfl
 | .cons lab w kids rest=>by
  rw[Fo.toL_cons,aN,←Ar rest];show vo lab w kids.toL.length++(qN kids++qN rest)=(vo lab w kids.toL.length++qN kids)++qN rest
  rw[aq]
theorem Mr{lab:List UInt8}{w:Option ByteArray}{n:Nat}(a:lab.length≤10000)(h2:∀v,w=some v→v.size≤10000):(vo lab w n).length≤20010:=by
 unfold vo;rw[ac,ac,kW,dK];have e:(nC lab.toArray).size=lab.length:=by simp[ByteArray.size]
 rw[e];cases w with
 |none=>simp only[xK,aK];omega
 |some v=>have:=h2 v rfl;simp only[xK,ar,kW];omega
theorem CO:∀{F:Fo},OK F→(qN F).length≤Of F*20010
 | .nil,_=>by simp[qN]
 | .cons lab w kids rest,h=>by
  have b:=Mr (n:=kids.toL.length) h.1 h.2.1;have h2:=CO h.2.2.2.1;have a:=CO h.2.2.2.2;unfold qN Of;rw[ac,ac,kV,kV];omega
theorem Ms{lab a:List UInt8}{w c:Option ByteArray}{n n':Nat}{r i:List UInt8}(m:lab.length≤10000)(e:a.length≤10000)(h2:∀v,w=some v→v.size≤10000)(f:∀v,c=some v→v.size≤10000)(p:n≤256)(o:n'≤256)(h:vo lab w n++r=vo a c n'++i):lab=a∧w=c∧n=n'∧r=i:=by
 unfold vo at h;simp only[aq]at h;have z:∀l:List UInt8,(nC l.toArray).size=l.length:=fun l=>by simp[ByteArray.size]
 obtain⟨d,h⟩:=Bt (by rw[z];exact m) (by rw[z];exact e) h;have d:lab=a:=by
  have:=congrArg (fun b:ByteArray=>b.data.toList) d
  simpa using this
 cases w with
 |none=>
  cases c with
  |none=>
   simp only[xK,cM,List.nil_append,ft.injEq,true_and]at h;obtain⟨g,h⟩:=yn (k:=2) (by omega) (by omega) h;exact⟨d,rfl,g,h⟩
  |some v=>simp[xK]at h
 |some v=>
  cases c with
  |none=>simp[xK]at h
  |some v'=>
   simp only[xK,cM,ft.injEq,true_and]at h;obtain⟨j,h⟩:=Bt (h2 v rfl) (f v' rfl) h;obtain⟨g,h⟩:=yn (k:=2) (by omega) (by omega) h;exact⟨d,by rw[j],g,h⟩
theorem CP:∀{F F':Fo} {r r':List UInt8},OK F→OK F'→F.toL.length=F'.toL.length→qN F++r=qN F'++r'→F=F'∧r=r'
 | .nil,.nil,_,_,_,_,_,h=>⟨rfl,h⟩
 | .nil,.cons ..,_,_,_,_,e,_=>by simp[Fo.toL]at e
 | .cons ..,.nil,_,_,_,_,e,_=>by simp[Fo.toL]at e
 | .cons lab w kids rest,.cons lab' w' kids' rest',r,r',h1,h2,e,h=>by
  unfold qN at h;simp only[aq]at h;obtain⟨a,f,b,h⟩:=Ms h1.1 h2.1 h1.2.1 h2.2.1 h1.2.2.1 h2.2.2.1 h;obtain⟨d,h⟩:=CP h1.2.2.2.1 h2.2.2.2.1 b h;obtain⟨c,h⟩:=CP h1.2.2.2.2 h2.2.2.2.2 (by rw[Fo.toL_cons,Fo.toL_cons]at e;simpa using e) h;exact⟨by rw[a,f,d,c],h⟩
end Go.Proofs
namespace Go.Proofs
open Go Go.Lift
theorem aaF{M:Nat→Prop}{h:ad}{so:SliceV}{out ys:List UInt8}{vs:List Value}(hv:vs=ys.flatMap rD){n:Nat}(c:n=ys.length){K:SliceV→ad→Prop}(g:OwnS rD 1 cQ M h so out)(hM:∀b,h.size≤b→M b)(i:out.length+ys.length≤140737488355328)
  (f:∀s' h',OwnS rD 1 cQ M h' s' (out++ys)→Upd M h h'→K s' h'):
  ∃xs,SRow (hnew h vs cQ) (some (ay h)) (n*1) xs∧AppP (some [.int .u8 0]) 1 1 cQ so.a so.len so.cap n xs (hnew h vs cQ) K:=by
 subst hv c;have k:=Upd.hnew No h (ys.flatMap rD) cQ;have e:OwnS rD 1 cQ (fun _=>True) (hnew h (ys.flatMap rD) cQ) ⟨some (ay h),ys.length,ys.length⟩ ys:=⟨rfl,wn,aj _,.inr ⟨h.size,[],rfl,trivial,by rw[aL];exact co ..,by simp⟩⟩
 refine⟨_,(e.sl (W:=No) fun _ _ _ h=>h).srow,?_⟩
 refine AppP.own (ys:=ys) (g.upd k fun _ _ h=>h) rfl rfl (D7 _) rfl (by omega) (by omega) (hM _ (by rw[jV];omega)) fun s' h' a d=>?_
 exact f s' h' a ((Upd.hnew M h _ _).tr d)
def adW(W:Nat→Prop)(n:Bn):Prop:=∀{b:Nat} {sl:ByteArray} {h0 h:ad} {M:Nat→Prop} {s:SliceV} {xs:List UInt8},RxN W h0 b sl n.2.1 n.2.2→sl.data.toList=n.1→Upd No h0 h→(∀y,M y→h0.size≤y)→OwnS rD 1 cQ M h s xs→(∀y,h.size≤y→M y)→
 xs.length+(kq n).length≤140737488355328→∀{K:SliceV→ad→Prop},(∀s' h',OwnS rD 1 cQ M h' s' (xs++kq n)→Upd M h h'→K s' h')→HC PG mA [.pointer (some ⟨b,0,none⟩),.slice s.a s.len s.cap] [.c .slice] K h
theorem XH{W:Nat→Prop}{lab:List UInt8}{w:Option ByteArray}{c:Fo}(hl:lab.length≤10000)(hw:∀v,w=some v→v.size≤10000)(T:c.toL.length≤256)(ih:∀m∈c.toL,adW W m):adW W (lab,w,c):=by
 intro b sl h0 h M s xs r E hu0 G ho hM hx K J;simp only at r E;have D:(⟨lab.toArray⟩:ByteArray)=sl:=by rw[←E]
 refine BT (some ⟨b,0,none⟩) s ?_;unfold vt bE bT bK az DQ bF abi Zv;obtain⟨val,z,ow,ks,Y,hv,hs,hcap,hF⟩:=r;have hL:=lW.1 hF;have st:∀{h'},Upd M h h'→Upd No h0 h':=fun k=>hu0.trans k fun y hy=>.inr (G y hy)
 have blk:∀{h'},Upd M h h'→h'[b]? =some (.cells (Ft sl w.isSome val z ow) cq (0,0)):=fun k=>(st k).get0 Y
 have u:∀{h'},Upd M h h'→∀y,h'.size≤y→M y:=fun k y hy=>hM y (aX k.size hy)
 have X:sl.size=lab.length:=by rw[←E];simp
 have o:=hs.len;rw[hL.1]at o;unfold kq at hx J;rw[Ar]at hx J;simp only at hx J;rw[ac]at hx;have H:(vo lab w c.toL.length).length=2+lab.length+((xK w).length+2):=by
  unfold vo;rw[ac,ac,kW,dK,D,X]
 refine⟨_,rfl,sl,dU (i:=0) (blk (Upd.refl M h)),?_⟩;refine HX (W:=No) (ho.sl fun _ _ _ h=>h) ho.cap sl (by omega) (by omega) fun s2 h2 B hu2=>?_
 have B:=B.more hM;have d:Upd M h h2:=hu2.wide;refine Join.intro (fun t h'=>OwnS rD 1 cQ M h' t (xs++qh sl++(xK w))∧Upd M h h') (fun R O=>⟨_,rfl,w.isSome,dU (i:=1) (blk d),?_⟩) ?_
 ·cases w with
  |none=>
   refine ag.2 (bG ?_);refine yC (b:=0) rfl B (u d) ?_ fun s3 N j f=>O _ _ ⟨j,d.tr f⟩
   rw[ac,kW];simp only[xK,aK]at H;omega
  |some v=>
   have hve:=vw hv v rfl;subst hve;have hvs:=hw val rfl;simp only[xK,ar,kW]at H;have k3:Upd M h (hnew h2 [.int .u8 1] cQ):=d.tr (Upd.hnew M h2 _ _);refine aw.2 ⟨_,rfl,val,dU (i:=2) (blk d),bG ⟨dU (i:=2) (blk k3),?_⟩⟩;refine yC (b:=1) rfl B (u d) (by rw[ac,kW];omega) fun s3 N j f=>⟨dU (i:=2) (blk (d.tr f)),?_⟩
   refine HX (W:=No) (j.sl fun _ _ _ h=>h) j.cap val (by omega) (by rw[ac,ac,kW,aK];omega) fun s4 h4 n A=>O _ _ ⟨?_,(d.tr f).tr A.wide⟩
   have n:=n.more (u (d.tr f));simp only[xK,aq,List.singleton_append]at n⊢;exact n
 ·rintro s3 N ⟨j,f⟩
  have e8:ed (z.len:Int) (2^(min (8:Int).toNat (IntKind.bits .i64)))=((c.toL.length>>>8:Nat):Int):=by
   have:(2^(min (8:Int).toNat (IntKind.bits .i64)):Int)=2^8:=rfl;rw[this,o,ph]
  refine Join.intro (fun t h'=>OwnS rD 1 cQ M h' t (xs++vo lab w c.toL.length)∧Upd M h h') (fun R O=>⟨_,rfl,z,dU (i:=3) (blk f),_,rfl,z,dU (i:=3) (blk f),by omega,?_⟩) ?_
  ·simp only[Bd]
   rw[e8];have k4:Upd M h (hnew N [.int .u8 (IntKind.wrap .u8 (z.len:Int)),.int .u8 (IntKind.wrap .u8 ((c.toL.length>>>8:Nat):Int))] cQ):=f.tr (Upd.hnew M N _ _);refine bG ⟨dU (i:=3) (blk k4),dU (i:=3) (blk k4),?_⟩;refine aaF (ys:=pe c.toL.length 2) ?_ rfl j (u f) ?_ fun s5 h5 F p=>⟨dU (i:=3) (blk (f.tr p)),dU (i:=3) (blk (f.tr p)),O _ _ ⟨?_,f.tr p⟩⟩
   ·rw[o,IntKind.wrap_u8,IntKind.wrap_u8]
    simp[pe,List.range_succ]
   ·rw[ac,ac,kW,dK];omega
   ·unfold vo
    rw[D,←aq,←aq];exact F
  ·rintro s4 h4 ⟨n,A⟩
   refine⟨_,rfl,z,dU (i:=3) (blk A),?_⟩;have P:∀{h'},Upd M h h'→Sl rJ 1 W h' z ks:=fun k=>hs.upd (st k) fun _ h=>h.elim
   refine LoopP.ghost (fun(i:Nat) (t:SliceV×Int) h'=>t.2=(i:Int)∧i≤c.toL.length∧OwnS rD 1 cQ M h' t.1 (xs++vo lab w c.toL.length++(c.toL.take i).flatMap kq)∧Upd M h h') (fun i=>c.toL.length-i) 0 ⟨rfl,aS _,by simpa using n,A⟩ ?_
   rintro I i ⟨so,ti⟩ h' ⟨e1,hi,C,q⟩ hI;simp only at e1 C;subst e1;have x:∀g:i<c.toL.length,((c.toL.take i).flatMap kq).length+(kq c.toL[i]).length≤(c.toL.flatMap kq).length:=fun g=>by
    have e:c.toL=c.toL.take i++c.toL[i]::c.toL.drop (i+1):=by rw[sW,aO]
    have:=congrArg (fun L=>(List.flatMap kq L).length) e
    simp only[bI,aN,ac]at this;omega
   refine ax (fun g=>?_) fun S=>?_
   ·have g:i<c.toL.length:=by have:(i:Int)<(z.len:Int):=g;omega
    obtain⟨kb,ksl,U,Z,hkn⟩:=hL.at g;obtain⟨a,ha,_,Q⟩:=(P q).at0 U;have hsp:=x g;refine⟨⟨by simp only;omega,by simp only;omega⟩,a,ha,some ⟨kb,0,none⟩,Q,?_⟩
    refine ih _ (bh g) hkn Z (st q) G C (u q) (by rw[ac,ac];omega) fun s5 h5 F p=>?_
    rw[cS g (by omega)];refine hI (i+1) _ _ ⟨rfl,g,?_,q.tr p⟩ (by omega);rw[bj g,bI,aN,jA,aL,←aq];exact F
   ·have V:i=c.toL.length:=by have:¬(i:Int)<(z.len:Int):=S;omega
    subst V;rw[ce]at C;refine J _ _ ?_ q;rw[←aq];exact C
theorem NB{W:Nat→Prop}:∀{F:Fo},OK F→∀n∈F.toL,adW W n
 | .nil,_,n,a=>by simp[Fo.toL]at a
 | .cons lab w kids rest,h,n,a=>by
  rcases aC.1 a with rfl|a
  ·exact XH h.1 h.2.1 h.2.2.1 (NB h.2.2.2.1)
  ·exact NB h.2.2.2.2 n a
structure RadAt(W:Nat→Prop)(h:ad)(b:Nat)(l:List Pr):Prop where
 ex:∃w F,RxN W h b ⟨#[]⟩ w F∧gf F∧∀k v,(k,v)∈xM w F↔∃p∈l,p.1.data.toList=k∧p.2=v
theorem RadAt.upd0{W:Nat→Prop}{h h':ad}{b:Nat}{l:List Pr}(k:Upd No h h')(r:RadAt W h b l):RadAt W h' b l:=by
 obtain⟨w,F,r1,r2,a⟩:=r.ex;exact⟨w,F,r1.upd0 k,r2,a⟩
theorem RadAt.less{W W':Nat→Prop}{h:ad}(hm:∀b,W' b→W b∨h.size≤b){b:Nat}{l:List Pr}(r:RadAt W h b l):RadAt W' h b l:=by
 obtain⟨w,F,r1,r2,a⟩:=r.ex;exact⟨w,F,r1.less hm,r2,a⟩
theorem RadAt.updM{W M:Nat→Prop}{h h':ad}(k:Upd M h h')(hm:∀b,M b→W b∨h.size≤b){b:Nat}{l:List Pr}(r:RadAt W h b l):RadAt W h' b l:=by
 obtain⟨w,F,r1,r2,a⟩:=r.ex;exact⟨w,F,r1.updM k hm,r2,a⟩
def Uj(l:List Pr):List (List UInt8×ByteArray):=l.map fun p=>(p.1.data.toList,p.2)
theorem abm{l:List Pr}(c:bM l):Up (Uj l):=by
 unfold Uj Up;rw[j7];refine List.Pairwise.imp (R:=fun p q:Pr=>kl p.1 q.1) (fun{a b} h=>?_) c
 rw[NZ,ByteArray.toList_eq,ByteArray.toList_eq]at h;exact h
theorem Ui:∀{l l':List Pr},Uj l=Uj l'→l=l'
 | [],[],_=>rfl
 | [],_::_,h=>by simp[Uj]at h
 |_::_,[],h=>by simp[Uj]at h
 |p::l,q::l',h=>by
  unfold Uj at h;simp only[List.map_cons,ft.injEq,qG.injEq]at h;obtain⟨⟨c,h2⟩,d⟩:=h;have e:p.1=q.1:=by
   generalize p.1=a at c;generalize q.1=b at c;cases a;cases b;exact congrArg nC (lh.1 c)
  rw[Ui d,yX e h2]
theorem NH{w:Option ByteArray}{F:Fo}{l:List Pr}(hc:gf F)(d:bM l)(c:∀k v,(k,v)∈xM w F↔∃p∈l,p.1.data.toList=k∧p.2=v):xM w F=Uj l:=by
 refine Xl (UC hc) (abm d) fun p=>?_
 have:=c p.1 p.2;rw[show(p.1,p.2)=p from rfl]at this
 rw[this];unfold Uj;rw[fC];constructor
 ·rintro⟨q,a,b,f⟩;exact⟨q,a,yX b f⟩
 ·rintro⟨q,a,e⟩;rw[←e];exact⟨q,a,rfl,rfl⟩
theorem XN{w b:Option ByteArray}{F F':Fo}(hc:gf F)(a:gf F')(h:xM w F=xM b F'):w=b∧F=F':=by
 have hm:∀k v,uQ w F k v↔uQ b F' k v:=fun k v=>by rw[←lj,←lj,h]
 refine⟨Option.ext fun v=>?_,Tf hc a fun k v=>?_⟩
 ·have:=hm [] v
  constructor
  ·intro e
   rcases this.1 (.inl ⟨rfl,e⟩)with⟨_,h⟩|h
   ·exact h
   ·exact absurd rfl (qR a h)
  ·intro e
   rcases this.2 (.inl ⟨rfl,e⟩)with⟨_,h⟩|h
   ·exact h
   ·exact absurd rfl (qR hc h)
 ·constructor
  ·intro hi
   rcases(hm k v).1 (.inr hi)with⟨e,_⟩|h
   ·exact absurd e (qR hc hi)
   ·exact h
  ·intro hi
   rcases(hm k v).2 (.inr hi)with⟨e,_⟩|h
   ·exact absurd e (qR a hi)
   ·exact h
end Go.Proofs
