/- A part of the proof that the named laws of this program answer true, whatever the input. -/
import Derived.Test.YtncppacbfagpgaaGreatDoorPart2
import Derived.Test.YtncppacbfagpgaaGreatDoorPart0
open Array renaming toList_inj→l7
open ByteArray renaming mk→oa,data_extract→oc
open Iff renaming rfl→vt
open Int renaming fdiv→ee,toNat_natCast→aP
open List renaming length_nil→aZ,length_append→ac,length_singleton→aC,append_assoc→aq,length_cons→ax,getElem_mem→bI,mem_of_mem_take→lD,getElem_cons_drop→j2,take_append_drop→aF,take_succ_eq_append_getElem→bv,flatMap_append→bm,flatMap_cons→aO,flatMap_nil→jG,append_nil→aW,take_length→bW,cons_append→dN,append_inj→pJ,cons→fp,mem_cons_self→ar,mem_cons_of_mem→aL,pairwise_cons→aX,mem_cons→aA,zip_cons_cons→fE,mem_append→bV,length_take→aK,zip_eq_zipWith→mg,length_drop→aS,set_eq_take_append_cons_drop→eB,pairwise_iff_getElem→cX,extract_eq_take_drop→gc,length→dT,mem_map→gz,pairwise_append→ci,lt_irrefl→qI
open List.Pairwise renaming nil→cE
open Nat renaming le_trans→bh,mul_le_mul_left→jt,mul_le_mul_right→cg,add_mul→ie,not_lt_zero→gZ,zero_le→aR,le_refl→ao,shiftRight_eq_div_pow→cA,mod_eq_of_lt→dw,lt_or_ge→bN,zero_add→aD,le_of_eq→eg,lt_irrefl→o8
open Option renaming some→bH,map_eq_some_iff→nW
open Prod renaming ext→uV,mk→nV
namespace Go.Proofs
open Go Go.Lift
theorem IG{h:ad}{b d n:Nat}{sp sk:SliceV}{bu:Bool}{ow:Option Addr}(hb:h[b]? =some (.cells (fA d n sp sk bu ow) bE (0,0))) (hl:sp.len+sk.len≤1000000000) {K:Int→ad→Prop} (hk:K ((sp.len+sk.len:Nat):Int) h):HC PG pD [.pointer (some ⟨b,0,none⟩)] [.c (.int .i64)] K h:=by
 refine AA _ ?_;unfold tV bG;refine al.2 ⟨_,rfl,sp,eI (i:=2) hb,_,rfl,sk,eI (i:=3) hb,?_⟩;rw[jm (by omega)];exact_mod_cast hk
def Bes(M:Nat→Prop)(h h1:ad)(b:Nat):Prop:=M b∧(b<h.size∨h1.size≤b)
theorem Bes.own{α:Type}{f:α→List Value}{sz:Nat}{t:TypeId}{M:Nat→Prop}{h h1:ad}{s:SliceV}{xs:List α}(ho:OwnS f sz t M h s xs)(hu:Upd No h h1):OwnS f sz t (Bes M h h1) h1 s xs:=
 (ho.within.upd hu fun _ _ h=>h).more fun _ hb=>⟨hb.1,.inl hb.2⟩
theorem Bes.sl{α:Type}{f:α→List Value}{sz:Nat}{t:TypeId}{M:Nat→Prop}{h h1:ad}{s:SliceV}{xs:List α}(ho:OwnS f sz t (fun x=>h.size≤x) h1 s xs):Sl f sz (Bes M h h1) h1 s xs:=
 ho.sl fun b hb hlt hx=>by rcases hx.2 with h|h<;>omega
theorem Bes.hM{M:Nat→Prop}{h h1:ad}(hM:∀b,h.size≤b→M b)(hu:Upd No h h1):∀b,h1.size≤b→Bes M h h1 b:=fun b hb=>⟨hM b (bh hu.size hb),.inr hb⟩
theorem MY{W:Nat→Prop}{x:Hs}:∀(m:Nat),m≤13→∀{b:Nat} {l:List Pr} {h0 h:ad} {M:Nat→Prop} {s:SliceV} {xs:List UInt8},TrieAt W x h0 m b l→Upd No h0 h→(∀y,M y→h0.size≤y)→OwnS nh 1 cD M h s xs→(∀y,h.size≤y→M y)→Fit l→l.length≤60000→
  xs.length+(9+l.length*(20004+9*(m+1)))≤140737488355328→∀{K:SliceV→ad→Prop},(∀s' h',OwnS nh 1 cD M h' s' (xs++eO x m l)→Upd M h h'→K s' h')→
  HC PG qR [.slice s.a s.len s.cap,.pointer (some ⟨b,0,none⟩),.int .i64 ((13-m:Nat):Int)] [.c .slice] K h:=by
 intro m;induction m with
 |zero=>
  intro _ b l h0 h M s xs t hu0 hM0 ho hM hf hn hx K hk;refine Aa s (some ⟨b,0,none⟩) ((13-0:Nat):Int) ?_;unfold uT cf dd cy MD Ld Rf iK;have st:∀{h'},Upd M h h'→Upd No h0 h':=fun k=>hu0.trans k fun y hy=>.inr (hM0 y hy)
  have bk:∀{h'},Upd M h h'→BuckAt W h' b l:=fun k=>BuckAt.upd t (st k) fun _ h=>h.elim
  have hM':∀{h'},Upd M h h'→∀y,h'.size≤y→M y:=fun k y hy=>hM y (bh k.size hy)
  obtain⟨sp,sk,ow,hb,_⟩:=(bk (Upd.refl M h)).ex;refine lq hb (aw.2 (bj ?_));refine r8 (b:=1) rfl ho hM (by omega) fun s1 h1 ho1 hu1=>?_
  obtain⟨sp1,sk1,ow1,hb1,hsp1,hsk1,_⟩:=(bk hu1).ex;have e1:=hsp1.len;have e2:=hsk1.len;rw[aZ]at e2;refine IG hb1 (by omega) ?_;have ew:IntKind.wrap .u64 ((sp1.len+sk1.len:Nat):Int)=((l.length:Nat):Int):=by rw[Go.IntWalk.u64_in _ (by omega)];omega
  rw[ew];have hl2:l.length*20004≤l.length*(20004+9*(0+1)):=jt _ (by omega);refine IK ho1 (hM' hu1) (n:=l.length) (k:=2) (by omega) (by omega) (by rw[ac,aC];omega) fun s2 h2 ho2 hu2=>?_
  have hu02:=hu1.tr hu2;obtain⟨sp2,sk2,ow2,hb2,hsp2,_⟩:=(bk hu02).ex;refine pd hb2 hsp2 (by omega) fun s3 h3 ho3 hu3=>?_
  refine Bl (M:=Bes M h2 h3) (W:=Bes M h2 h3) (Bes.own ho2 hu3) (Bes.hM (hM' hu02) hu3) (Bes.sl ho3) (fun _ h _=>h) hf (by omega) (by rw[ac,ac,aC,dh];omega) fun s4 h4 ho4 hu4=>?_
  refine hk s4 h4 ?_ (hu02.tr (hu3.wide.tr (hu4.mono fun y hy=>.inl hy.1)))
  have:=ho4.more (M':=M) fun y hy=>hy.1
  rw[eO,List.append_cons,←aq];exact this
 |succ m ih=>
  intro hm b l h0 h M s xs t hu0 hM0 ho hM hf hn hx K hk;refine Aa s (some ⟨b,0,none⟩) ((13-(m+1):Nat):Int) ?_;unfold uT cf dd cy MD Ld Rf iK;have st:∀{h'},Upd M h h'→Upd No h0 h':=fun k=>hu0.trans k fun y hy=>.inr (hM0 y hy)
  have hM':∀{h'},Upd M h h'→∀y,h'.size≤y→M y:=fun k y hy=>hM y (bh k.size hy)
  obtain⟨sl,nd,hs0⟩:=t;have hs:∀c,c<32→SlotIs W x h0 m sl c (part x (12-m) c l):=hs0;have hd:∀{h'},Upd M h h'→∃d n sp sk ow,h'[b]? =some (.cells (fA d n sp sk false ow) bE (0,0))∧d=iy (fun c=>(gd (part x (12-m) c l)).isSome) 32∧n=iy (fun c=>(el (part x (12-m) c l)).isSome) 32∧Sl eC 2 W h' sp (fZ x (12-m) l)∧Sl pz 1 W h' sk (fm sl.k 32):=fun{h'} k=>by
   obtain⟨d,n,sp,sk,ow,hb,bits,h3,h4,_⟩:=(nd.upd (st k) fun _ h=>h.elim).ex
   refine⟨d,n,sp,sk,ow,hb,En bits.d32 fun c hc=>?_,En bits.n32 fun c hc=>?_,?_,h4⟩
   ·rw[bits.dp c hc,(Bj (hs c hc)).1]
   ·rw[bits.nk c hc,(Bj (hs c hc)).2]
   ·rw[←AJ hs];exact h3
  have hka:KidsAt W x h0 m (fm sl.k 32) (g6 x (12-m) l):=E5 32 hs;have hlen:=kZ (x:=x) (m+1) hf;have hlen2:=hlen;have hml:∀L∈g6 x (12-m) l,Fit L∧L.length≤60000:=fun L hL=>by
   obtain⟨_,c,rfl⟩:=lK hL;exact⟨hf.part,bh mp hn⟩
  have hsf:Fit (fZ x (12-m) l):=fun p hp=>hf p (qd hp)
  have hsl:=rS x (12-m) l;unfold eO at hk hlen;have ebits:∀q:Nat→Bool,iy q 32<4294967296:=fun q=>ly q 32
  have hd32:=ebits fun c=>(gd (part x (12-m) c l)).isSome
  have hn32:=ebits fun c=>(el (part x (12-m) c l)).isSome
  generalize iy (fun c=>(gd (part x (12-m) c l)).isSome) 32=D at hk hd hlen hd32
  generalize iy (fun c=>(el (part x (12-m) c l)).isSome) 32=N at hk hd hlen hn32
  have hS:(fZ x (12-m) l).length≤60000:=by omega
  have hSb:(fZ x (12-m) l).length*20004≤l.length*(20004+9*(m+1+1)):=Nat.mul_le_mul (by omega) (by omega);have hML:∀L∈g6 x (12-m) l,2≤L.length∧(eO x m L).length≤9+L.length*(20004+9*(m+1)):=fun L hL=>by
   obtain⟨h3,c,rfl⟩:=lK hL;exact⟨h3,kZ m hf.part⟩
  have hbud:9+(fZ x (12-m) l).length*20004+(g6 x (12-m) l).flatten.length*(20004+9*(m+1)+9)≤9+l.length*(20004+9*(m+1+1)):=by
   have h5:(fZ x (12-m) l).length*20004≤(fZ x (12-m) l).length*(20004+9*(m+1+1)):=jt _ (by omega);have h6:((fZ x (12-m) l).length+(g6 x (12-m) l).flatten.length)*(20004+9*(m+1+1))≤l.length*(20004+9*(m+1+1)):=cg _ hsl;rw[ie]at h6;have h7:20004+9*(m+1)+9=20004+9*(m+1+1):=by omega
   rw[h7];omega
  have hps:=lj hsf;generalize fZ x (12-m) l=So at hk hd hsf hS hSb hbud hlen hps;generalize g6 x (12-m) l=Ma at hk hka hml hML hbud hlen;obtain⟨d,n,sp,sk,ow,hb,_⟩:=hd (Upd.refl M h);refine lq hb (al.2 (Join.intro (fun s' h'=>OwnS nh 1 cD M h' s' (xs++(0::(lm D 4++lm N 4)))∧Upd M h h') (fun R hR=>bj ?_) ?_))
  ·refine r8 (b:=0) rfl ho hM (by omega) fun s1 h1 ho1 hu1=>?_
   obtain⟨d1,n1,sp1,sk1,ow1,hb1,rfl,rfl,_⟩:=hd hu1;refine Fh hb1 ?_;rw[Go.IntWalk.u64_in _ (by omega)];refine IK ho1 (hM' hu1) (n:=d1) (k:=4) (by omega) (by omega) (by rw[ac,aC];omega) fun s2 h2 ho2 hu2=>?_
   obtain⟨d2,n2,sp2,sk2,ow2,hb2,rfl,rfl,_⟩:=hd (hu1.tr hu2);refine BH hb2 ?_;rw[Go.IntWalk.u64_in _ (by omega)];refine IK ho2 (hM' (hu1.tr hu2)) (n:=n2) (k:=4) (by omega) (by omega) (by rw[ac,ac,aC,dh];omega) fun s3 h3 ho3 hu3=>?_
   refine hR _ _ ⟨?_,(hu1.tr hu2).tr hu3⟩;rw[List.append_cons,←aq];exact ho3
  ·rintro s' h1 ⟨ho1,hu1⟩
   obtain⟨d1,n1,sp1,sk1,ow1,hb1,_,_,hsp1,_⟩:=hd hu1;refine pd hb1 hsp1 (by omega) fun s2 h2 ho2 hu2=>?_
   refine Bl (M:=Bes M h1 h2) (W:=Bes M h1 h2) (Bes.own ho1 hu2) (Bes.hM (hM' hu1) hu2) (Bes.sl ho2) (fun _ h _=>h) hsf (by omega) (by rw[ac,ax,ac,dh,dh];omega) fun s3 h3 ho3 hu3=>?_
   have ho3:=ho3.more (M':=M) fun y hy=>hy.1
   have hu03:Upd M h h3:=hu1.tr (hu2.wide.tr (hu3.mono fun y hy=>.inl hy.1))
   have e13:(((13-(m+1):Nat):Int)==(13:Int))=false:=by rw[beq_eq_false_iff_ne];omega
   rw[e13];refine al.2 ?_;obtain⟨d3,n3,sp3,sk3,ow3,hb3,_,_,_,hsk3⟩:=hd hu03;have hk32:=vO (g:=sl.k);refine AP hb3 hsk3 (by omega) fun s4 h4 ho4 hu4=>?_
   have hsk4:Sl pz 1 (Bes M h3 h4) h4 s4 (fm sl.k 32):=Bes.sl ho4;have hlk:=hsk4.len;have ew:IntKind.wrap .i64 (((13-(m+1):Nat):Int)+1)=((13-m:Nat):Int):=by rw[jm (by omega)];omega
   rw[ew];have hMb:=Bes.hM (hM' hu03) hu4;have hob:=Bes.own ho3 hu4;have hu04:Upd M h h4:=hu03.tr hu4.wide;have hMM:∀y,Bes M h3 h4 y→M y:=fun y hy=>hy.1
   have st4:∀{h'},Upd (Bes M h3 h4) h4 h'→Upd M h h':=fun k=>hu04.tr (k.mono fun y hy=>.inl hy.1)
   generalize Bes M h3 h4=B at hsk4 hMb hob hMM st4;have hkl:∀{ks:List (Option Addr)} {ls:List (List Pr)},KidsAt W x h0 m ks ls→ks.length=ls.length∧∀i (hi:i<ls.length),∃kb,ks[i]? =some (some ⟨kb,0,none⟩)∧TrieAt W x h0 m kb ls[i]:=by
    intro ks;induction ks with
    |nil=>intro ls;cases ls with
     |nil=>intro _;exact⟨rfl,fun i hi=>absurd hi (gZ _)⟩
     |cons a ls=>intro h;exact h.elim
    |cons k ks ihk=>intro ls;cases ls with
     |nil=>intro h;exact h.elim
     |cons a ls=>
      rintro⟨⟨kb,rfl,tk⟩,h⟩;obtain⟨e,hr⟩:=ihk h;refine⟨by simp[e],fun i hi=>?_⟩
      cases i with
      |zero=>exact⟨kb,rfl,tk⟩
      |succ i=>simp only[List.getElem?_cons_succ,List.getElem_cons_succ];exact hr i (by simpa using hi)
   obtain⟨hkl,hkt⟩:=hkl hka;have hbase:(xs++(0::(lm D 4++lm N 4))++jy So).length≤xs.length+(9+So.length*20004):=by
    rw[ac,ac,ax,ac,dh,dh];omega
   refine LoopP.ghost (fun(i:Nat) (t:SliceV×Int) h'=>t.2=(i:Int)∧i≤Ma.length∧OwnS nh 1 cD B h' t.1 (xs++(0::(lm D 4++lm N 4))++jy So++(Ma.take i).flatMap (eO x m))∧Upd B h4 h') (fun i=>Ma.length-i) 0 ⟨rfl,aR _,by simpa using hob,Upd.refl _ _⟩ ?_
   rintro I i ⟨so,ti⟩ h' ⟨e1,hi,ho',hu'⟩ hI;simp only at e1 ho';subst e1;refine aE (fun hlt=>?_) fun hge=>?_
   ·have hlt:i<Ma.length:=by have:(i:Int)<(s4.len:Int):=hlt;omega
    obtain⟨kb,hk1,tk⟩:=hkt i hlt;obtain⟨a,ha,_,hv⟩:=(hsk4.upd hu' fun y hy=>.inl hy).at0 hk1
    refine⟨⟨by simp only;omega,by simp only;omega⟩,a,ha,some ⟨kb,0,none⟩,hv,?_⟩
    have hmem:Ma[i]∈Ma:=bI hlt;have htl:=AI (f:=eO x m) (ls:=Ma.take i) (B:=20004+9*(m+1)) fun L hL=>hML L (lD hL)
    have hsp:(Ma.take i).flatten.length+Ma[i].length≤Ma.flatten.length:=by
     have e:Ma=Ma.take i++Ma[i]::Ma.drop (i+1):=by rw[j2,aF]
     have:=congrArg (fun L=>(List.flatten L).length) e
     simp only[List.flatten_append,List.flatten_cons,ac]at this;omega
    have hsp2:=cg (20004+9*(m+1)+9) hsp;rw[ie]at hsp2;have h2l:=(hML _ hmem).1;have hone:9+Ma[i].length*(20004+9*(m+1))≤Ma[i].length*(20004+9*(m+1)+9):=by rw[Nat.mul_add (Ma[i].length) (20004+9*(m+1)) 9];omega
    refine ih (by omega) tk (hu0.trans (st4 hu') fun y hy=>.inr (hM0 y hy)) (fun y hy=>hM0 y (hMM y hy)) ho' (fun y hy=>hMb y (bh hu'.size hy)) (hml _ hmem).1 (hml _ hmem).2 (by rw[ac];omega) fun s5 h5 ho5 hu5=>?_
    rw[cp hlt (by omega)];refine hI (i+1) _ _ ⟨rfl,hlt,?_,hu'.tr hu5⟩ (by omega);rw[bv hlt,bm,aO,jG,aW,←aq];exact ho5
   ·have hil:i=Ma.length:=by have:¬(i:Int)<(s4.len:Int):=hge;omega
    subst hil;rw[bW]at ho';refine hk _ _ ?_ (st4 hu');have:=ho'.more hMM;simp only[aq,dN]at this⊢;exact this
end Go.Proofs
namespace Go.Proofs
open Go Go.Lift
theorem Kj{W:Nat→Prop}{x:Hs}{h:ad}{b:Nat}{l:List Pr}(t:TrieAt W x h 13 b l)(hf:Fit l)(hn:l.length≤60000){K:SliceV→ad→Prop}(hk:∀s' h',OwnS nh 1 cD (fun y=>h.size≤y) h' s' (eO x 13 l)→Upd No h h'→K s' h'):HC PG wJ [.pointer (some ⟨b,0,none⟩)] [.c .slice] K h:=by
 refine JA _ ?_;unfold Cz;refine al.2 ?_;have hb:l.length*(20004+9*(13+1))≤60000*(20004+9*(13+1)):=cg _ hn;exact MY (x:=x) 13 (ao _) (s:=⟨none,0,0⟩) (xs:= []) (M:=fun y=>h.size≤y) t (Upd.refl _ _) (fun _ h=>h) (OwnS.nil qm) (fun _ h=>h) hf hn (by rw[aZ];omega) fun s' h' ho hu=>hk s' h' ho (hu.mono fun y hy=>.inr hy)
theorem GK:∀{a b:Nat} (k:Nat),lm a k=lm b k→a%2^(8*k)=b%2^(8*k)
 |_,_,0,_=>by simp[Nat.mod_one]
 |a,b,k+1,h=>by
  rw[vi,vi]at h;obtain⟨h1,h2⟩:=pJ h (by rw[dh,dh]);have ih:=GK k h1;have h3:=congrArg UInt8.toNat (fp.inj h2).1;rw[UInt8.toNat_ofNat',UInt8.toNat_ofNat',cA,cA]at h3;have e:2^(8*(k+1))=2^(8*k)*2^8:=by rw[Nat.mul_add,Nat.pow_add]
  rw[e,Nat.mod_mul,Nat.mod_mul,ih,h3]
theorem rX{a b k:Nat}{r r':List UInt8}(ha:a<2^(8*k))(hb:b<2^(8*k))(h:lm a k++r=lm b k++r'):a=b∧r=r':=by
 obtain⟨h1,h2⟩:=pJ h (by rw[dh,dh]);have:=GK k h1;rw[dw ha,dw hb]at this;exact⟨this,h2⟩
theorem uZ{a b:ByteArray}{r r':List UInt8}(ha:a.size≤10000)(hb:b.size≤10000)(h:mn a++r=mn b++r'):a=b∧r=r':=by
 unfold mn at h;rw[aq,aq]at h;obtain⟨h1,h2⟩:=rX (k:=2) (by omega) (by omega) h;obtain⟨h3,h4⟩:=pJ h2 (by simpa using h1);refine⟨?_,h4⟩;cases a;cases b;exact congrArg oa (l7.1 h3)
theorem wC:∀{l l':List Pr} {r r':List UInt8},Fit l→Fit l'→l.length=l'.length→jy l++r=jy l'++r'→l=l'∧r=r'
 | [],[],_,_,_,_,_,h=>⟨rfl,h⟩
 | [],_::_,_,_,_,_,e,_=>by simp at e
 |_::_,[],_,_,_,_,e,_=>by simp at e
 |p::l,q::l',r,r',hf,hf',e,h=>by
  unfold jy at h;rw[aO,aO,zO,zO]at h;simp only[aq]at h;have h1:=hf p (ar ..);have h2:=hf' q (ar ..);obtain⟨e1,h⟩:=uZ h1.1 h2.1 h;obtain⟨e2,h⟩:=uZ h1.2 h2.2 h;obtain⟨e3,h⟩:=wC (l:=l) (l':=l') (fun z hz=>hf z (aL _ hz)) (fun z hz=>hf' z (aL _ hz)) (by simpa using e) h
  exact⟨by rw[e3,uV e1 e2],h⟩
theorem AV{β γ:Type}{g:Nat→Option β}{g':Nat→Option γ}:∀n,(∀c,c<n→(g c).isSome=(g' c).isSome)→(fm g n).length=(fm g' n).length
 |0,_=>rfl
 |n+1,h=>by
  rw[gb,gb,ac,ac,AV n fun c hc=>h c (by omega)]
  have:=h n (by omega);cases h1:g n<;>cases h2:g' n<;>rw[h1,h2]at this<;>first|rfl|cases this
theorem Jd{β:Type}{g g':Nat→Option β}:∀n,(∀c,c<n→(g c).isSome=(g' c).isSome)→fm g n=fm g' n→∀c,c<n→g c=g' c
 |0,_,_,c,hc=>absurd hc (gZ _)
 |n+1,h,e,c,hc=>by
  rw[gb,gb]at e;obtain⟨e1,e2⟩:=pJ e (AV n fun c hc=>h c (by omega))
  rcases bN c n with hl|hl
  ·exact Jd n (fun c hc=>h c (by omega)) e1 c hl
  ·have:c=n:=by omega
   subst this;cases h1:g c<;>cases h2:g' c<;>rw[h1,h2]at e2<;>simp at e2⊢
   exact e2
theorem u6:∀{l l':List Pr},dD l→dD l'→(∀p,p∈l↔p∈l')→l=l'
 | [],[],_,_,_=>rfl
 | [],q::l',_,_,h=>absurd ((h q).2 (ar ..)) (by simp)
 |p::l,[],_,_,h=>absurd ((h p).1 (ar ..)) (by simp)
 |p::l,q::l',hr,hr',h=>by
  have hr:=aX.1 hr;have hr':=aX.1 hr';have e:p=q:=by
   rcases aA.1 ((h p).1 (ar ..))with e|hp
   ·exact e
   ·rcases aA.1 ((h q).2 (ar ..))with e|hq
    ·exact e.symm
    ·exact absurd (iZ (hr.1 q hq) (hr'.1 p hp)) (db _)
  subst e;rw[u6 hr.2 hr'.2 fun z=>?_]
  constructor
  ·intro hz
   rcases aA.1 ((h z).1 (aL _ hz))with e|hz'
   ·exact absurd (hr.1 z hz) (by rw[e];exact db _)
   ·exact hz'
  ·intro hz
   rcases aA.1 ((h z).2 (aL _ hz))with e|hz'
   ·exact absurd (hr'.1 z hz) (by rw[e];exact db _)
   ·exact hz'
theorem Nh{x:Hs}{lev:Nat}{l l':List Pr}(hr:dD l)(hr':dD l')(h:∀c,c<32→part x lev c l=part x lev c l'):l=l':=by
 refine u6 hr hr' fun p=>?_
 have e:=h (ck x lev p.1) (Ce ..);have h1:=ll (x:=x) (lev:=lev) (c:=ck x lev p.1) (l:=l) (p:=p);have h2:=ll (x:=x) (lev:=lev) (c:=ck x lev p.1) (l:=l') (p:=p);rw[e]at h1;constructor
 ·intro hp;exact(h2.1 (h1.2 ⟨hp,rfl⟩)).1
 ·intro hp;exact(h1.1 (h2.2 ⟨hp,rfl⟩)).1
theorem Lq{q q':List Pr}(h1:gd q=gd q')(h2:el q=el q'):q=q':=by
 match q,q' with
 | [],[]=>rfl
 | [a],[b]=>simp[gd]at h1;rw[h1]
 | [],[b]=>simp[gd]at h1
 | [a],[]=>simp[gd]at h1
 | [],b::c::q'=>simp[el]at h2
 | [a],b::c::q'=>simp[el]at h2
 |b::c::q',[]=>simp[el]at h2
 |b::c::q',[a]=>simp[el]at h2
 |a::b::q,c::d::q'=>simpa[el]using h2
theorem GY{f:List Pr→List UInt8}:∀{ls ls':List (List Pr)} {r r':List UInt8},ls.length=ls'.length→(∀L∈ls,∀L'∈ls',∀r r',f L++r=f L'++r'→L=L'∧r=r')→ls.flatMap f++r=ls'.flatMap f++r'→ls=ls'∧r=r'
 | [],[],_,_,_,_,h=>⟨rfl,h⟩
 | [],_::_,_,_,e,_,_=>by simp at e
 |_::_,[],_,_,e,_,_=>by simp at e
 |L::ls,L'::ls',r,r',e,hf,h=>by
  rw[aO,aO,aq,aq]at h;obtain⟨e1,h⟩:=hf L (ar ..) L' (ar ..) _ _ h;obtain⟨e2,h⟩:=GY (by simpa using e) (fun A hA B hB=>hf A (aL _ hA) B (aL _ hB)) h
  exact⟨by rw[e1,e2],h⟩
theorem Bk{x:Hs}:∀(m:Nat) {l l':List Pr} {r r':List UInt8},Fit l→Fit l'→l.length≤60000→l'.length≤60000→dD l→dD l'→eO x m l++r=eO x m l'++r'→l=l'∧r=r'
 |0,l,l',r,r',hf,hf',hn,hn',_,_,h=>by
  unfold eO at h;rw[dN,dN,aq,aq]at h;obtain⟨e,h⟩:=rX (k:=2) (by omega) (by omega) (fp.inj h).2;exact wC hf hf' e h
 |m+1,l,l',r,r',hf,hf',hn,hn',hr,hr',h=>by
  unfold eO at h;simp only[dN,aq]at h;obtain⟨b1,h⟩:=rX (k:=4) (ly _ 32) (ly _ 32) (fp.inj h).2;obtain⟨b2,h⟩:=rX (k:=4) (ly _ 32) (ly _ 32) h;have bits:∀{q q':Nat→Bool},iy q 32=iy q' 32→∀c,c<32→q c=q' c:=fun{q q'} e c hc=>by
   have:=congrArg (fun n=>n.testBit c) e
   simp only[zh,decide_eq_true hc,Bool.true_and]at this;exact this
  have b1:=bits b1;have b2:=bits b2;obtain⟨e1,h⟩:=wC (fun p hp=>hf p (qd hp)) (fun p hp=>hf' p (qd hp)) (AV 32 b1) h
  obtain⟨e2,h⟩:=GY (AV 32 b2) (fun L hL L' hL' r r' e=>by
   obtain⟨_,c,rfl⟩:=lK hL
   obtain⟨_,c',rfl⟩:=lK hL'
   exact Bk m hf.part hf'.part (bh mp hn) (bh mp hn') (sN hr) (sN hr') e) h
  have s1:=Jd 32 b1 e1;have s2:=Jd 32 b2 e2;exact⟨Nh hr hr' fun c hc=>Lq (s1 c hc) (s2 c hc),h⟩
end Go.Proofs
namespace Go.Proofs
open Go Go.Lift
def CT(lab:ByteArray)(has:Bool)(val:ByteArray)(s:SliceV)(ow:Option Addr):Array Value:= #[.string lab,.bool has,.string val,sv s,.pointer ow]
theorem vw{w:Option ByteArray}{val:ByteArray}(h:val=w.getD ⟨#[]⟩):∀v,w=some v→val=v:=fun v e=>by rw[h,e];rfl
def RxF(W:Nat→Prop)(h:ad):Fo→List (Option Addr)→Prop
 | .nil,ks=>ks= []
 | .cons lab w kids rest,ks=>∃b sl val s ow ks1 ks',ks=some ⟨b,0,none⟩::ks'∧sl.data.toList=lab∧h[b]? =some (.cells (CT sl w.isSome val s ow) bU (0,0))∧val=w.getD ⟨#[]⟩∧Sl ul 1 W h s ks1∧(s.len≤s.cap∧¬W b)∧RxF W h kids ks1∧RxF W h rest ks'
def RxN(W:Nat→Prop)(h:ad)(b:Nat)(sl:ByteArray)(w:Option ByteArray)(F:Fo):Prop:=∃val s ow ks,h[b]? =some (.cells (CT sl w.isSome val s ow) bU (0,0))∧val=w.getD ⟨#[]⟩∧Sl ul 1 W h s ks∧(s.len≤s.cap∧¬W b)∧RxF W h F ks
def Kid(W:Nat→Prop)(h:ad)(k:Option Addr)(n:Bn):Prop:=∃b sl,k=some ⟨b,0,none⟩∧sl.data.toList=n.1∧RxN W h b sl n.2.1 n.2.2
def RxL(W:Nat→Prop)(h:ad)(ks:List (Option Addr))(L:List Bn):Prop:=ks.length=L.length∧∀p∈ks.zip L,Kid W h p.1 p.2
theorem nr{W:Nat→Prop}{h:ad}:∀{F:Fo} {ks:List (Option Addr)},RxF W h F ks↔RxL W h ks F.toL
 | .nil,ks=>by
  unfold RxF RxL;simp[Fo.toL]
 | .cons lab w kids rest,ks=>by
  unfold RxF RxL;rw[Fo.toL_cons];constructor
  ·rintro⟨b,sl,val,s,ow,ks1,ks',rfl,e1,e2,e3,e4,e5,e6,e7⟩
   obtain⟨e8,e9⟩:=nr.1 e7;refine⟨by simp[e8],fun p hp=>?_⟩
   rw[fE]at hp;rcases aA.1 hp with rfl|hp
   ·exact⟨b,sl,rfl,e1,val,s,ow,ks1,e2,e3,e4,e5,e6⟩
   ·exact e9 p hp
  ·cases ks with
   |nil=>rintro⟨e,_⟩;simp at e
   |cons k ks'=>
    rintro⟨e,hp⟩;rw[fE]at hp;obtain⟨b,sl,e0,e1,val,s,ow,ks1,e2,e3,e4,e5,e6⟩:=hp _ (ar ..);refine⟨b,sl,val,s,ow,ks1,ks',by rw[←e0],e1,e2,e3,e4,e5,e6,nr.2 ⟨by simpa using e,fun p hp'=>hp p (aL _ hp')⟩⟩
theorem RxF.upd0{W:Nat→Prop}{h h':ad}(k:Upd No h h'):∀{F:Fo} {ks:List (Option Addr)},RxF W h F ks→RxF W h' F ks
 | .nil,_,r=>r
 | .cons _ _ _ _,_,⟨b,sl,val,s,ow,ks1,ks',e0,e1,e2,e3,e4,e5,e6,e7⟩=>⟨b,sl,val,s,ow,ks1,ks',e0,e1,k.get0 e2,e3,e4.upd k fun _ h=>h.elim,e5,RxF.upd0 k e6,RxF.upd0 k e7⟩
theorem RxN.upd0{W:Nat→Prop}{h h':ad}(k:Upd No h h'){b:Nat}{sl:ByteArray}{w:Option ByteArray}{F:Fo}:RxN W h b sl w F→RxN W h' b sl w F
 |⟨val,s,ow,ks,e2,e3,e4,e5,e6⟩=>⟨val,s,ow,ks,k.get0 e2,e3,e4.upd k fun _ h=>h.elim,e5,RxF.upd0 k e6⟩
theorem Kid.upd0{W:Nat→Prop}{h h':ad}(k:Upd No h h'){a:Option Addr}{n:Bn}:Kid W h a n→Kid W h' a n
 |⟨b,sl,e1,e2,e3⟩=>⟨b,sl,e1,e2,e3.upd0 k⟩
theorem RxF.less{W W':Nat→Prop}{h:ad}(hm:∀b,W' b→W b∨h.size≤b):∀{F:Fo} {ks:List (Option Addr)},RxF W h F ks→RxF W' h F ks
 | .nil,_,r=>r
 | .cons _ _ _ _,_,⟨b,sl,val,s,ow,ks1,ks',e0,e1,e2,e3,e4,e5,e6,e7⟩=>⟨b,sl,val,s,ow,ks1,ks',e0,e1,e2,e3,e4.less hm,⟨e5.1,fun hx=>(hm _ hx).elim e5.2 fun h=>by have:=aJ e2;omega⟩,RxF.less hm e6,RxF.less hm e7⟩
theorem RxN.less{W W':Nat→Prop}{h:ad}(hm:∀b,W' b→W b∨h.size≤b){b:Nat}{sl:ByteArray}{w:Option ByteArray}{F:Fo}:RxN W h b sl w F→RxN W' h b sl w F
 |⟨val,s,ow,ks,e2,e3,e4,e5,e6⟩=>⟨val,s,ow,ks,e2,e3,e4.less hm,⟨e5.1,fun hx=>(hm _ hx).elim e5.2 fun h=>by have:=aJ e2;omega⟩,RxF.less hm e6⟩
theorem RxF.updM{W M:Nat→Prop}{h h':ad}(k:Upd M h h')(hm:∀b,M b→W b∨h.size≤b):∀{F:Fo} {ks:List (Option Addr)},RxF W h F ks→RxF W h' F ks
 | .nil,_,r=>r
 | .cons _ _ _ _,_,⟨b,sl,val,s,ow,ks1,ks',e0,e1,e2,e3,e4,e5,e6,e7⟩=>⟨b,sl,val,s,ow,ks1,ks',e0,e1,k.get e2 (fun hx=>(hm _ hx).elim e5.2 fun h=>by have:=aJ e2;omega),e3,e4.upd k hm,e5,RxF.updM k hm e6,RxF.updM k hm e7⟩
theorem RxN.updM{W M:Nat→Prop}{h h':ad}(k:Upd M h h')(hm:∀b,M b→W b∨h.size≤b){b:Nat}{sl:ByteArray}{w:Option ByteArray}{F:Fo}:RxN W h b sl w F→RxN W h' b sl w F
 |⟨val,s,ow,ks,e2,e3,e4,e5,e6⟩=>⟨val,s,ow,ks,k.get e2 (fun hx=>(hm _ hx).elim e5.2 fun h=>by have:=aJ e2;omega),e3,e4.upd k hm,e5,RxF.updM k hm e6⟩
theorem RxL.upd0{W:Nat→Prop}{h h':ad}(k:Upd No h h'){ks:List (Option Addr)}{L:List Bn}(r:RxL W h ks L):RxL W h' ks L:=⟨r.1,fun p hp=>(r.2 p hp).upd0 k⟩
theorem RxL.app{W:Nat→Prop}{h:ad}{ks ks':List (Option Addr)}{L L':List Bn}(r:RxL W h ks L)(r':RxL W h ks' L'):RxL W h (ks++ks') (L++L'):=by
 refine⟨by rw[ac,ac,r.1,r'.1],fun p hp=>?_⟩
 rw[List.zip_append r.1]at hp;rcases bV.1 hp with hp|hp
 ·exact r.2 p hp
 ·exact r'.2 p hp
theorem RxL.one{W:Nat→Prop}{h:ad}{k:Option Addr}{n:Bn}(c:Kid W h k n):RxL W h [k] [n]:=⟨rfl,fun p hp=>by rw[fE,List.zip_nil_left]at hp;rw[List.mem_singleton.1 hp];exact c⟩
theorem RxL.take{W:Nat→Prop}{h:ad}{ks:List (Option Addr)}{L:List Bn}(r:RxL W h ks L)(i:Nat):RxL W h (ks.take i) (L.take i):=by
 refine⟨by rw[aK,aK,r.1],fun p hp=>r.2 p ?_⟩
 have:(ks.take i).zip (L.take i)=(ks.zip L).take i:=by rw[mg,mg,List.take_zipWith]
 rw[this]at hp;exact lD hp
theorem RxL.drop{W:Nat→Prop}{h:ad}{ks:List (Option Addr)}{L:List Bn}(r:RxL W h ks L)(i:Nat):RxL W h (ks.drop i) (L.drop i):=by
 refine⟨by rw[aS,aS,r.1],fun p hp=>r.2 p ?_⟩
 have:(ks.drop i).zip (L.drop i)=(ks.zip L).drop i:=by rw[mg,mg,List.drop_zipWith]
 rw[this]at hp;exact List.mem_of_mem_drop hp
theorem RxL.ins{W:Nat→Prop}{h:ad}{ks:List (Option Addr)}{L:List Bn}(r:RxL W h ks L)(i:Nat){k:Option Addr}{n:Bn}(c:Kid W h k n):RxL W h (ks.take i++k::ks.drop i) (L.take i++n::L.drop i):=by
 have:=(r.take i).app ((RxL.one c).app (r.drop i));exact this
theorem RxL.set{W:Nat→Prop}{h:ad}{ks:List (Option Addr)}{L:List Bn}(r:RxL W h ks L){i:Nat}(hi:i<L.length){k:Option Addr}{n:Bn}(c:Kid W h k n):RxL W h (ks.set i k) (L.set i n):=by
 have:=(r.take i).app ((RxL.one c).app (r.drop (i+1)));rw[eB,eB,if_pos (by rw[r.1];exact hi),if_pos hi];exact this
theorem RxL.at{W:Nat→Prop}{h:ad}{ks:List (Option Addr)}{L:List Bn}(r:RxL W h ks L){i:Nat}(hi:i<L.length):∃b sl,ks[i]? =some (some ⟨b,0,none⟩)∧sl.data.toList=L[i].1∧RxN W h b sl L[i].2.1 L[i].2.2:=by
 have hk:i<ks.length:=by rw[r.1];exact hi
 have hz:i<(ks.zip L).length:=by rw[List.length_zip];omega
 have:=r.2 _ (bI hz);rw[List.getElem_zip]at this;obtain⟨b,sl,e1,e2,e3⟩:=this;exact⟨b,sl,by rw[List.getElem?_eq_getElem hk];exact congrArg some e1,e2,e3⟩
theorem yP:∀{L:List Bn} {c:Nat},L.Pairwise (fun m n=>hd m.1<hd n.1)→(∀n∈L,c≤hd n.1)→L= []∨c+L.length≤256
 | [],_,_,_=>.inl rfl
 |n::L,c,hp,hc=>by
  have hp:=aX.1 hp;have h0:=hc n (ar ..);have h1:=PK n.1;rcases yP (c:=hd n.1+1) hp.2 fun m hm=>hp.1 m hm with e|e
  ·rw[e];right;simp only[aC];omega
  ·right;rw[ax];omega
theorem kM{F:Fo}(h:gi F):F.toL.length≤256:=by
 rcases yP (c:=0) (gf.1 h).1 fun _ _=>aR _ with e|e
 ·rw[e];simp
 ·omega
theorem eH{h:ad}{b i:Nat}{c:Array Value}(hb:h[b]? =some (.cells c bU (0,0))):aN h (adr ⟨b,0,none⟩ i)=c[i]?:=by rw[bP,aD];exact aV hb
theorem P6{h:ad}{b i:Nat}{c:Array Value}(hb:h[b]? =some (.cells c bU (0,0))) (hi:i<c.size):Wr h (adr ⟨b,0,none⟩ i):=by rw[bP,aD];exact gS hb hi
theorem Ie{h:ad}{b i:Nat}{c c':Array Value}{v:Value}{k:ad→Prop}(hb:h[b]? =some (.cells c bU (0,0))) (e:c.setIfInBounds i v=c') (hk:∀h',h'[b]? =some (.cells c' bU (0,0))→Upd (· =b) h h'→k h'):At (hset h (adr ⟨b,0,none⟩ i) v) k:=by
 rw[bP,aD];exact rH hb fun h' hb' hu=>hk h' (e▸hb') hu
theorem GV(s:ByteArray)(i:Nat):s[i]? =s.data.toList[i]?:=by
 rw[Array.getElem?_toList];by_cases h:i<s.size
 ·rw[getElem?_pos s i h,getElem?_pos s.data i h];rfl
 ·rw[getElem?_neg s i h,getElem?_neg s.data i h]
theorem Fb{s:ByteArray}(hs:s.data.toList≠[]):∃c:UInt8,s[0]? =some c∧c.toNat=hd s.data.toList:=by
 rw[GV];match s.data.toList,hs with
 |c::l,_=>exact⟨c,rfl,rfl⟩
theorem Ly{W:Nat→Prop}{h:ad}{b:Nat}{sl:ByteArray}{w:Option ByteArray}{F:Fo}(r:RxN W h b sl w F)(hc:gi F){c:Nat}(hc8:c<256){K:Int×Bool→ad→Prop}
  (hk:∀i ok,i≤F.toL.length→(∀j (hj:j<F.toL.length),j<i→hd F.toL[j].1<c)→(∀j (hj:j<F.toL.length),i≤j→c≤hd F.toL[j].1)→(ok=true↔∃hi:i<F.toL.length,hd F.toL[i].1=c)→K ((i:Int),ok) h):HC PG nC [.pointer (some ⟨b,0,none⟩),.int .u8 c] [.c (.int .i64),.c .bool] K h:=by
 refine ye _ c ?_;unfold rd bG jz;obtain⟨val,s,ow,ks,hb,_,hs,hcap,hF⟩:=r;refine⟨_,rfl,s,eH (i:=3) hb,?_⟩;have hL:=nr.1 hF;have hcan:=gf.1 hc;have hn:=kM hc;have hlen:=hs.len;rw[hL.1]at hlen;generalize hLe:F.toL=L at hL hcan hn hlen hk;refine gn s c _ ?_;unfold d7 cf dd cy HS
 have cmp:∀{i:Nat} (hi:i<L.length) {K:Int→ad→Prop},K ((hd L[i].1:Int)-(c:Int)) h→∃a,s.a=some a∧∃v,aN h (adr a (i*1))=some (.pointer v)∧HV PG (.func (.func md) #[] #[]) [.pointer v,.int .u8 c] [.c (.int .i64)] K h:=by
  intro i hi K hk;obtain⟨kb,ksl,hki,hkl,hkn⟩:=hL.at hi;obtain⟨a,ha,_,hv⟩:=hs.at0 hki;refine⟨a,ha,_,hv,HV.mk' (vy (some ⟨kb,0,none⟩) c ?_)⟩;unfold pS bC;obtain⟨kval,kss,kow,kks,hkb,_⟩:=hkn;have hne:ksl.data.toList≠[]:=by rw[hkl];exact(hcan.2 _ (bI hi)).1
  obtain⟨u,hu,hue⟩:=Fb hne;refine⟨_,rfl,ksl,eH (i:=0) hkb,u,Int.le_refl _,hu,?_⟩;simp only[Bd];have hlt:=PK L[i].1;rw[hue,hkl,jm (x:=(hd L[i].1:Int)) (by omega),jm (x:=(c:Int)) (by omega),jm (by omega)];exact hk
 have mono:∀i j (hi:i<L.length) (hj:j<L.length),i<j→hd L[i].1<hd L[j].1:=fun i j hi hj hij=>cX.1 hcan.1 i j hi hj hij
 refine LoopP.ghost (fun(g:Nat×Nat) (t:Int×Int) h'=>t.1=(g.1:Int)∧t.2=(g.2:Int)∧g.1≤g.2∧g.2≤L.length∧h'=h∧(∀j (hj:j<L.length),j<g.1→hd L[j].1<c)∧(∀j (hj:j<L.length),g.2≤j→c≤hd L[j].1)) (fun g=>g.2-g.1) (0,L.length)
  ⟨rfl,by simp only;omega,by simp,by simp,rfl,fun j hj h=>by omega,fun j hj h=>by simp only at h;omega⟩ ?_
 rintro I ⟨i,j⟩ ⟨ti,tj⟩ h' ⟨e1,e2,hij,hjl,rfl,hlo,hhi⟩ hI;simp only at e1 e2 hij hjl hlo hhi;subst e1 e2;refine aE (fun hlt=>?_) fun hge=>?_
 ·have hlt:i<j:=by have:(i:Int)<(j:Int):=hlt;omega
  have em:IntKind.wrap .i64 (ee (IntKind.wrap .u64 (IntKind.wrap .i64 ((i:Int)+(j:Int)))) (2^(min (1:Int).toNat (IntKind.bits .u64))))=(((i+j)/2:Nat):Int):=by
   have e3:(2^(min (1:Int).toNat (IntKind.bits .u64)):Int)=2:=rfl;rw[e3,jm (x:=(i:Int)+(j:Int)) (by omega),Go.IntWalk.u64_in _ (by omega),Int.fdiv_eq_ediv_of_nonneg _ (by omega),jm (by omega)];omega
  refine⟨by decide,?_⟩;simp only[Bd];rw[em];generalize hm:(i+j)/2=m;have hml:m<L.length:=by omega
  refine⟨by omega,?_⟩;refine cmp hml ?_;refine aE (fun hneg=>?_) fun hpos=>?_
  ·refine hI (m+1,j) _ _ ⟨by simp only;rw[jm (by omega)];omega,rfl,by simp only;omega,hjl,rfl,fun q hq hqm=>?_,hhi⟩ (by simp only;omega)
   simp only at hqm;rcases bN q m with h|h
   ·have:=mono q m hq hml h;omega
   ·have:q=m:=by omega
    subst this;omega
  ·refine hI (i,m) _ _ ⟨rfl,rfl,by simp only;omega,by simp only;omega,rfl,hlo,fun q hq hqm=>?_⟩ (by simp only;omega)
   simp only at hqm;rcases bN m q with h|h
   ·have:=mono m q hml hq h;omega
   ·have:q=m:=by omega
    subst this;omega
 ·have hij:i=j:=by have:¬(i:Int)<(j:Int):=hge;omega
  subst hij;refine aE (fun hlt=>?_) fun hnl=>?_
  ·have hil:i<L.length:=by have:(i:Int)<(s.len:Int):=hlt;omega
   refine⟨by simp only;omega,?_⟩;refine cmp hil ?_;refine hk i _ hjl hlo hhi ?_;rw[beq_iff_eq];exact⟨fun h=>⟨hil,by omega⟩,fun⟨_,h⟩=>by omega⟩
  ·have hil:i=L.length:=by have:¬(i:Int)<(s.len:Int):=hnl;omega
   exact hk i false hjl hlo hhi ⟨fun h=>(by cases h),fun h=>(by obtain⟨h,_⟩:=h;omega)⟩
end Go.Proofs
namespace Go.Proofs
open Go Go.Lift
theorem Gj{b:Nat}{h:ad}{K:Bool→ad→Prop}(hk:K false h):HC PG mX [.pointer (some ⟨b,0,none⟩),.pointer none] [.c .bool] K h:=by
 refine xb _ none ?_;unfold qA tK;exact aw.2 (ur (al.2 hk))
abbrev PE:List Value:= [.string (⟨#[]⟩:ByteArray),.bool false,.string (⟨#[]⟩:ByteArray),.slice none 0 0,.pointer none]
theorem rT{W:Nat→Prop}{h:ad}{b:Nat}{sl val:ByteArray}{has:Bool}{s:SliceV}{ow:Option Addr}{ks:List (Option Addr)}(hb:h[b]? =some (.cells (CT sl has val s ow) bU (0,0))) (hs:Sl ul 1 W h s ks) (hn:ks.length≤256) {K:Option Addr→ad→Prop}
  (hk:∀h' s',h'[h.size]? =some (.cells (CT sl has val s' none) bU (0,0))→OwnS ul 1 bQ (fun x=>h.size<x∧x<h'.size) h' s' ks→Upd No h h'→K (some ⟨h.size,0,none⟩) h'):
  HC PG fG [.pointer (some ⟨b,0,none⟩),.pointer none] [.c .ptr] K h:=by
 refine zq _ none ?_;unfold sB nv bC dL ge bG F1 pV tK QK;refine Gj (al.2 ?_);refine⟨_,rfl,sl,eH (i:=0) hb,has,eH (i:=1) hb,val,eH (i:=2) hb,s,eH (i:=3) hb,ow,eH (i:=4) hb,bj ?_⟩;have k1:=Upd.hnew No h PE bU;have b1:=bZ h PE bU;simp only[cM h];generalize hnew h [.string (⟨#[]⟩:ByteArray),.bool false,.string (⟨#[]⟩:ByteArray),.slice none 0 0,.pointer none] bU=h1 at k1 b1
 refine bo (c:=PE) (vs:= [.string sl,.bool has,.string val,.slice s.a s.len s.cap,.pointer ow]) b1 rfl fun h2 b2 hu2=>?_
 have k2:Upd No h h2:=k1.trans hu2 fun x hx=>.inr (eg hx.symm)
 have hz2:h.size<h2.size:=aJ b2;have hb2:=k2.get0 hb;refine⟨_,rfl,s,eH (i:=3) hb2,?_⟩;refine El (hs.upd k2 fun _ h=>h.elim) (by omega) fun s3 h3 ho3 hu3=>?_
 have b3:h3[h.size]? =some (.cells (CT sl has val s ow) bU (0,0)):=hu3.get0 b2;refine⟨P6 (i:=3) b3 (show 3<5 by decide),Ie (i:=3) (c':=CT sl has val s3 ow) b3 rfl fun h4 b4 hu4=>?_⟩
 refine⟨P6 (i:=4) b4 (show 4<5 by decide),Ie (i:=4) (c':=CT sl has val s3 none) b4 rfl fun h5 b5 hu5=>?_⟩
 refine ur (al.2 ?_);have hu35:=hu4.tr hu5;have z5:=hu35.size;have ho3':=(ho3.within.upd hu35 fun x hx e=>by have e:x=h.size:=e;have:=hx.1;omega).more (M':=fun x=>h.size<x∧x<h5.size) fun x hx=>⟨by have:=hx.1;omega,by have:=hx.2;omega⟩
 exact hk h5 s3 b5 ho3' ((k2.tr hu3).trans hu35 fun x hx=>.inr (eg hx.symm))
theorem wz{h:ad}{b:Nat}{sl nl:ByteArray}{has:Bool}{val:ByteArray}{s:SliceV}{ow:Option Addr}(hb:h[b]? =some (.cells (CT sl has val s ow) bU (0,0))) {K:Option Addr→ad→Prop}
  (hk:∀h',h'[b]? =some (.cells (CT nl has val s ow) bU (0,0))→Upd (· =b) h h'→K (some ⟨b,0,none⟩) h'):HC PG is [.pointer (some ⟨b,0,none⟩),.string nl] [.c .ptr] K h:=by
 refine w9 _ nl ?_;unfold qy dL;exact⟨_,rfl,P6 (i:=0) hb (show 0<5 by decide),Ie (i:=0) (c':=CT nl has val s ow) hb rfl hk⟩
theorem zJ{h:ad}{b:Nat}{sl v:ByteArray}{has:Bool}{val:ByteArray}{s:SliceV}{ow:Option Addr}(hb:h[b]? =some (.cells (CT sl has val s ow) bU (0,0))) {K:Option Addr→ad→Prop}
  (hk:∀h',h'[b]? =some (.cells (CT sl true v s ow) bU (0,0))→Upd (· =b) h h'→K (some ⟨b,0,none⟩) h'):HC PG jp [.pointer (some ⟨b,0,none⟩),.string v] [.c .ptr] K h:=by
 refine vv _ v ?_;unfold pQ dL;exact⟨_,rfl,P6 (i:=1) hb (show 1<5 by decide),Ie (i:=1) (c':=CT sl true val s ow) hb rfl fun h1 b1 hu1=>⟨_,rfl,P6 (i:=2) b1 (show 2<5 by decide),Ie (i:=2) (c':=CT sl true v s ow) b1 rfl fun h2 b2 hu2=>hk h2 b2 (hu1.tr hu2)⟩⟩
theorem Ia{h:ad}{k v:ByteArray}{K:Option Addr→ad→Prop}(hk:∀h' b s,h'[b]? =some (.cells (CT k true v s none) bU (0,0))→s.len=0→s.len≤s.cap→h.size≤b→Upd No h h'→K (some ⟨b,0,none⟩) h'):HC PG rD [.pointer none,.string k,.string v] [.c .ptr] K h:=by
 refine Dj none k v ?_;unfold wa F1 pV xu;have k1:=Upd.hnew No h PE bU;have b1:=bZ h PE bU;refine bj ?_;simp only[cM h];generalize hnew h [.string (⟨#[]⟩:ByteArray),.bool false,.string (⟨#[]⟩:ByteArray),.slice none 0 0,.pointer none] bU=h1 at k1 b1;refine rT (W:=No) (ks:= []) (sl:=⟨#[]⟩) (val:=⟨#[]⟩) (has:=false) (s:=⟨none,0,0⟩) (ow:=none) b1 (Sl.nil pv) (aR _) fun h2 s b2 ho2 hu2=>?_
 refine wz (nl:=k) b2 fun h3 b3 hu3=>zJ (v:=v) b3 fun h4 b4 hu4=>?_
 have hu24:=hu3.tr hu4;have z:=hu2.size;have z2:=k1.size;refine hk h4 h1.size s b4 ho2.len ho2.cap z2 ((k1.tr hu2).trans hu24 fun x hx=>.inr (by have hx:x=h1.size:=hx;omega))
theorem Q0{W:Nat→Prop}{h:ad}{b:Nat}{k v:ByteArray}{s:SliceV}{ow:Option Addr}(hb:h[b]? =some (.cells (CT k true v s ow) bU (0,0))) (h0:s.len=0) (hc:s.len≤s.cap) (nw:¬W b):RxN W h b k (some v) .nil:=
 ⟨v,s,ow,[],hb,rfl,⟨h0,pv,fun h=>absurd rfl h⟩,⟨hc,nw⟩,rfl⟩
theorem B7(s:ByteArray)(c:Nat):(s.extract 0 c).data.toList=s.data.toList.take c:=by
 rw[oc,Array.toList_extract,gc];simp
theorem B8(s:ByteArray)(c:Nat):(s.extract c s.size).data.toList=s.data.toList.drop c:=by
 rw[oc,Array.toList_extract,gc,List.take_of_length_le];rw[aS];simp
theorem H9{W:Nat→Prop}{h:ad}{b:Nat}{sl:ByteArray}{w:Option ByteArray}{F:Fo}(r:RxN W h b sl w F)(hW:∀y,W y→y<h.size)(hn:F.toL.length≤256){c:Nat}(hc:c≤sl.size){K:Option Addr→ad→Prop}
  (hk:∀h' b',RxN W h' b' (sl.extract 0 c) none (.cons (sl.data.toList.drop c) w F .nil)→Upd No h h'→K (some ⟨b',0,none⟩) h'):HC PG mW [.pointer (some ⟨b,0,none⟩),.pointer none,.int .i64 c] [.c .ptr] K h:=by
 refine w7 _ none c ?_;unfold qw bC dL F1 pV xu;obtain⟨val,s,ow,ks,hb,hv,hs,hcap,hF⟩:=r;have lab:∀{h'},Upd No h h'→aN h' (adr ⟨b,0,none⟩ 0)=some (.string sl):=fun k=>eH (i:=0) (k.get0 hb)
 have r0:=Upd.refl No h;refine⟨_,rfl,sl,lab r0,⟨by omega,by omega⟩,bj ?_⟩
 have k1:=Upd.hnew No h PE bU;have b1:=bZ h PE bU;simp only[cM h];generalize hnew h [.string (⟨#[]⟩:ByteArray),.bool false,.string (⟨#[]⟩:ByteArray),.slice none 0 0,.pointer none] bU=h1 at k1 b1;refine⟨lab k1,?_⟩;refine rT (W:=No) (ks:= []) (sl:=⟨#[]⟩) (val:=⟨#[]⟩) (has:=false) (s:=⟨none,0,0⟩) (ow:=none) b1 (Sl.nil pv) (aR _) fun h2 s2 b2 _ hu2=>⟨lab (k1.tr hu2),?_⟩
 rw[aP];refine wz b2 fun h3 b3 hu3=>?_
 have z1:=k1.size;have hu03:Upd No h h3:=(k1.tr hu2).trans hu3 fun x hx=>.inr (by have hx:x=h1.size:=hx;omega)
 refine rT (hu03.get0 hb) (hs.upd hu03 fun _ h=>h.elim) (by rw[(nr.1 hF).1];exact hn) fun h4 s4 b4 ho4 hu4=>?_
 refine⟨_,rfl,sl,eH (i:=0) b4,⟨by omega,by omega⟩,?_⟩
 refine wz (nl:=sl.extract c sl.size) b4 fun h5 b5 hu5=>?_
 have hu05:Upd No h h5:=(hu03.tr hu4).trans hu5 fun x hx=>.inr (by have hx:x=h3.size:=hx;have:=hu03.size;omega)
 have ho5:=ho4.upd hu5 fun x hx e=>by have e:x=h3.size:=e;have:=hx.1;omega
 have hb3:=aJ b3;have b35:h5[h1.size]? =some (.cells (CT (sl.extract 0 c) false ⟨#[]⟩ s2 none) bU (0,0)):=hu5.get (hu4.get0 b3) (by show ¬h1.size=h3.size;omega);have k6:=Upd.hnew No h5 [.pointer (some ⟨h3.size,0,none⟩)] bQ;have b6:=bZ h5 [.pointer (some ⟨h3.size,0,none⟩)] bQ;have hz5:=hu05.size;have hz3:=hu03.size;refine bj ?_;simp only[cM h5]
 generalize hnew h5 [.pointer (some ⟨h3.size,0,none⟩)] bQ=h6 at k6 b6;have b36:=k6.get0 b35;have hlt1:=aJ b35;refine⟨_,rfl,P6 (i:=3) b36 (show 3<5 by decide),Ie (i:=3) (c':=CT (sl.extract 0 c) false ⟨#[]⟩ ⟨some ⟨h5.size,0,none⟩,1,1⟩ none) b36 rfl fun h7 b7 hu7=>?_⟩
 have hu07:Upd No h h7:=(hu05.tr k6).trans hu7 fun x hx=>.inr (by have hx:x=h1.size:=hx;omega)
 have b67:h7[h5.size]? =some (.cells #[.pointer (some ⟨h3.size,0,none⟩)] bQ (0,0)):=hu7.get b6 (by show ¬h5.size=h1.size;omega);have b57:=hu7.get (k6.get0 b5) (by show ¬h3.size=h1.size;omega);have ho7:=(ho5.upd k6 fun _ _ h=>h).upd hu7 fun x hx e=>by have e:x=h1.size:=e;have:=hx.1;omega
 refine hk h7 h1.size ⟨⟨#[]⟩,_,none,[some ⟨h3.size,0,none⟩],b7,rfl,⟨rfl,pv,fun _=>⟨_,rfl,(fun hx=>by have hx:W h5.size:=hx;have:=hW _ hx;omega),oQ b67 fun i v hi=>?_⟩⟩,⟨ao _,fun hx=>by have:=hW _ hx;omega⟩,?_⟩ hu07
 ·rw[aD]
  rw[←List.getElem?_toArray]at hi;exact hi
 ·refine⟨h3.size,sl.extract c sl.size,val,s4,none,ks,[],rfl,B8 ..,b57,hv,ho7.sl (fun x hx _ hw=>by have:=hW _ hw;have:=hx.1;omega),⟨ho7.cap,fun hx=>by have:=hW _ hx;omega⟩,RxF.upd0 hu07 hF,rfl⟩
end Go.Proofs
namespace Go.Proofs
open Go Go.Lift
theorem Ek:∀{x y:List UInt8} {i:Nat},i≤x.length→i≤y.length→(∀j,j<i→x[j]? =y[j]?)→(i=x.length∨i=y.length∨x[i]?≠y[i]?)→cm x y=i
 | [],_,i,h1,_,_,_=>by simp at h1;simp[cm,h1]
 |_::_,[],i,_,h2,_,_=>by simp at h2;simp[cm,h2]
 |a::x,b::y,0,_,_,_,h=>by
  unfold cm;rw[if_neg];rintro rfl;rcases h with h|h|h<;>simp at h
 |a::x,b::y,i+1,h1,h2,h3,h4=>by
  have:=h3 0 (by omega);simp only[List.getElem?_cons_zero,bH.injEq]at this;unfold cm;rw[if_pos this,Ek (i:=i) (by simpa using h1) (by simpa using h2) (fun j hj=>by simpa using h3 (j+1) (by omega)) (by simpa using h4)]
theorem LX{a b:ByteArray}(ha:a.size≤1000000){h:ad}{K:Int→ad→Prop}(hk:K (cm a.data.toList b.data.toList:Nat) h):HC PG rC [.string a,.string b] [.c (.int .i64)] K h:=by
 refine Dg a b ?_;unfold vX;simp only[Bd];have hmin:(if(b.size:Int)<(a.size:Int)then(b.size:Int)else(a.size:Int))=((min a.size b.size:Nat):Int):=by split<;>omega
 rw[hmin];have la:a.data.toList.length=a.size:=by simp
 have lb:b.data.toList.length=b.size:=by simp
 refine LoopP.ghost (fun(i:Nat) (t:Int) h'=>t=(i:Int)∧i≤min a.size b.size∧h'=h∧∀j,j<i→a.data.toList[j]? =b.data.toList[j]?) (fun i=>min a.size b.size-i) 0 ⟨rfl,aR _,rfl,fun j hj=>absurd hj (gZ _)⟩ ?_
 rintro I i t h' ⟨rfl,hi,rfl,he⟩ hI;refine aE (fun hlt=>?_) fun hge=>?_
 ·have hlt:i<min a.size b.size:=by omega
  have hia:i<a.size:=by omega
  have hib:i<b.size:=by omega
  refine⟨a[i],by omega,by rw[aP,getElem?_pos a i hia],b[i],by omega,by rw[aP,getElem?_pos b i hib],?_⟩
  have e1:a.data.toList[i]? =some a[i]:=by rw[←GV,getElem?_pos a i hia]
  have e2:b.data.toList[i]? =some b[i]:=by rw[←GV,getElem?_pos b i hib]
  refine CondP.intro (fun hne=>?_) fun heq=>?_
  ·rw[Ek (i:=i) (by omega) (by omega) he (.inr (.inr fun e=>?_))]at hk
   ·exact hk
   ·rw[e1,e2]at e
    rw[bH.inj e]at hne;simp at hne
  ·have heq:a[i]=b[i]:=by
    have:((a[i].toNat:Int))=(b[i].toNat:Int):=by simpa using heq
    exact UInt8.toNat_inj.1 (by omega)
   rw[cp hlt (by omega)];refine hI (i+1) _ _ ⟨rfl,hlt,rfl,fun j hj=>?_⟩ (by omega)
   rcases bN j i with hl|hl
   ·exact he j hl
   ·have:j=i:=by omega
    subst this;rw[e1,e2,heq]
 ·have hii:i=min a.size b.size:=by omega
  rw[Ek (i:=i) (by omega) (by omega) he (by omega)]at hk;rw[←hii];exact hk
theorem LH{F:Fo}{i:Nat}{k:List UInt8}{v:ByteArray}(h:gi F)(hi:i<F.toL.length)(ek:hd F.toL[i].1=hd k)(hp:rJ (xp F.toL[i]) (xp F.toL[i]) k v):rJ (tE F) (tE F) k v:=by
 have:=Gv h hi ek hp;rw[List.set_getElem_self,Fo.of_to]at this;exact this
theorem Nc{P Q P':List UInt8→ByteArray→Prop}{k:List UInt8}{v:ByteArray}(h:rJ P P' k v)(e:∀k v,P k v↔Q k v):rJ Q P' k v:=fun k' v'=>by rw[h k' v',e]
set_option maxHeartbeats 1000000 in
theorem M0{W:Nat→Prop}:∀(n:Nat) {b:Nat} {sl:ByteArray} {w:Option ByteArray} {F:Fo} {h:ad} (k v:ByteArray),k.size<n→k.size≤1000000→RxN W h b sl w F→(∀y,W y→y<h.size)→gi F→∀{K:(Option Addr)×Bool×Bool→ad→Prop},
  (∀h' b' w' F' added ch,Upd No h h'→RxN W h' b' sl w' F'→gi F'→rJ (uN w F) (uN w' F') k.data.toList v→(ch=false→b'=b∧w'=w∧F'=F)→(uN w F k.data.toList v→ch=false)→K (some ⟨b',0,none⟩,added,ch) h')→
  HC PG lO [.pointer (some ⟨b,0,none⟩),.pointer none,.string k,.string v] [.c .ptr,.c .bool,.c .bool] K h:=by
 intro n;induction n with
 |zero=>intro b sl w F h k v hk;omega
 |succ n ih=>
  intro b sl w F h k v hkn hk6 r hW hc K hk;refine zo (some ⟨b,0,none⟩) none k v ?_;unfold sA cf dd jx cy bC dL ge bG jz MG qP pV xu HS PS MF;have hr:=r;obtain⟨val,s,ow,ks,hb,hv,hs,hcap,hF⟩:=r;have hL:=nr.1 hF;have hn:=kM hc;have hcan:=gf.1 hc;rw[mB];refine aE (fun hk0=>?_) fun hk0=>?_
  ·have hke:k.data.toList= []:=by rw[hk0]
   rw[hke]at hk;refine Join.intro (fun t h'=>t=decide (w=some v)∧h'=h) (fun R hR=>⟨_,rfl,w.isSome,eH (i:=1) hb,?_⟩) ?_
   ·cases hw:w with
    |none=>exact al.2 (hR _ _ ⟨by rw[hw];rfl,rfl⟩)
    |some u=>
     refine aw.2 ⟨_,rfl,val,eH (i:=2) hb,hR _ _ ⟨?_,rfl⟩⟩;rw[mB,vw hv u hw,hw];exact decide_eq_decide.2 ⟨fun e=>by rw[e],fun e=>bH.inj e⟩
   ·rintro t h' ⟨rfl,rfl⟩
    refine aE (fun e=>?_) fun e=>?_
    ·refine hk h' b w F false false (Upd.refl _ _) hr hc ?_ (fun _=>⟨rfl,rfl,rfl⟩) fun _=>rfl
     rw[e];exact DP hc v
    ·refine⟨_,rfl,w.isSome,eH (i:=1) hb,?_⟩
     refine rT hb hs (by rw[hL.1];exact hn) fun h1 s1 b1 ho1 hu1=>?_
     refine⟨eH (i:=1) (hu1.get0 hb),?_⟩;refine zJ b1 fun h2 b2 hu2=>?_
     have hu02:Upd No h' h2:=hu1.trans hu2 fun x hx=>.inr (eg (Eq.symm hx))
     refine⟨eH (i:=1) (hu02.get0 hb),?_⟩;have ho2:=ho1.upd hu2 fun x hx e=>by have e:x=h'.size:=e;have:=hx.1;omega
     refine hk h2 h'.size (some v) F _ true hu02 ⟨v,s1,none,ks,b2,rfl,ho2.sl (fun x hx _ hw=>by have:=hW _ hw;have:=hx.1;omega),⟨ho2.cap,fun hx=>o8 _ (hW _ hx)⟩,RxF.upd0 hu02 hF⟩ hc (DP hc v) (fun h=>by cases h) fun hin=>?_
     rcases hin with⟨_,h⟩|h
     ·exact absurd h e
     ·exact absurd rfl (pA hc h)
  ·have hkne:k.data.toList≠[]:=fun e=>hk0 (by cases k;exact congrArg oa (l7.1 e))
   obtain⟨c0,hc0,hc0e⟩:=Fb hkne;refine⟨c0,Int.le_refl _,hc0,?_⟩;have hlk:k.data.toList.length=k.size:=by simp
   refine Ly hr hc (c:=c0.toNat) (UInt8.toNat_lt _) fun i ok hil hlo hhi hok=>?_
   rw[hc0e]at hlo hhi hok;cases ok with
   |false=>
    have hno:∀hi:i<F.toL.length,hd F.toL[i].1≠hd k.data.toList:=fun hi e=>by have:=hok.2 ⟨hi,e⟩;cases this
    have hhi':∀j (hj:j<F.toL.length),i≤j→hd k.data.toList<hd F.toL[j].1:=fun j hj hij=>by
     have h1:=hhi j hj hij;rcases bN i j with hl|hl
     ·have h2:=cX.1 hcan.1 i j (by omega) hj hl
      have h3:=hhi i (by omega) (ao _);omega
     ·have:i=j:=by omega
      subst this;have:=hno hj;omega
    obtain⟨hc',hp'⟩:=LJ (v:=v) hc hkne hlo hhi';refine aw.2 ?_;refine rT hb hs (by rw[hL.1];exact hn) fun h1 s1 b1 ho1 hu1=>?_
    refine⟨_,rfl,s1,eH (i:=3) b1,?_⟩;refine Ia fun h2 fb fs fb2 hf0 hfc hfb hu2=>⟨eH (i:=3) (hu2.get0 b1),bj ?_⟩
    have k3:=Upd.hnew No h2 [.pointer (some ⟨fb,0,none⟩)] bQ;have b3:=bZ h2 [.pointer (some ⟨fb,0,none⟩)] bQ;have z3:(hnew h2 [.pointer (some ⟨fb,0,none⟩)] bQ).size=h2.size+1:=iS ..;simp only[cM h2];generalize hnew h2 [.pointer (some ⟨fb,0,none⟩)] bQ=h3 at k3 b3 z3;have hu13:=hu2.tr k3;refine⟨eH (i:=3) (hu13.get0 b1),?_⟩;have z1:=aJ b1
    have z2:=hu2.size;have zf:=aJ fb2;have ho3:=(ho1.upd hu13 fun _ _ h=>h).more (M':=fun x=>(h.size<x∧x<h1.size)∨h3.size≤x) fun x hx=>.inl hx
    refine IZ ho3 (k:=i) (by rw[hL.1];exact hil) (by rw[hL.1];omega) b3 (by rintro(h|h)<;>omega) (fun x hx=>.inr hx) fun s4 h4 ho4 hu4=>?_
    have b4:=hu4.get (hu13.get0 b1) (by rintro(h|h)<;>omega)
    have f4:=hu4.get (k3.get0 fb2) (by rintro(h|h)<;>omega)
    refine⟨_,rfl,P6 (i:=3) b4 (show 3<5 by decide),Ie (i:=3) (c':=CT sl w.isSome val s4 none) b4 rfl fun h5 b5 hu5=>?_⟩
    have hu05:Upd No h h5:=((hu1.tr hu13).trans hu4 fun x hx=>.inr (by have:=hu1.size;rcases hx with hx|hx<;>omega)).trans hu5 fun x hx=>.inr (eg (Eq.symm hx))
    have ho5:=ho4.upd hu5 fun x hx e=>by have e:x=h.size:=e;rcases hx with hx|hx<;>omega
    have f5:=hu5.get f4 (by show ¬fb=h.size;omega);refine hk h5 h.size w _ true true hu05 ⟨val,s4,none,_,b5,hv,ho5.sl (fun x hx _ hw=>by have:=hW _ hw;rcases hx with hx|hx<;>omega),⟨ho5.cap,fun hx=>o8 _ (hW _ hx)⟩,nr.2 (by rw[Fo.to_of];exact(hL.upd0 hu05).ins i ⟨fb,k,rfl,rfl,Q0 f5 hf0 hfc fun hx=>by have:=hW _ hx;omega⟩)⟩ hc' (yV hkne hp') (fun h=>by cases h) fun hin=>?_
    rcases hin with⟨h,_⟩|hin
    ·exact absurd h hkne
    ·obtain⟨n',hn',e,_⟩:=sR hc hin
     obtain⟨j,hj,rfl⟩:=List.getElem_of_mem hn';rcases bN j i with hl|hl
     ·have:=hlo j hj hl;omega
     ·have:=hhi' j hj hl;omega
   |true=>
    obtain⟨hi,hie⟩:=hok.1 rfl;refine al.2 ⟨_,rfl,s,eH (i:=3) hb,?_⟩;obtain⟨kb,ksl,hki,hkl,hkn⟩:=hL.at hi;have hmem:F.toL[i]∈F.toL:=bI hi;have hcm:=hcan.2 _ hmem;obtain⟨a,ha,_,hvv⟩:=hs.at0 hki;have hslen:=hs.len;rw[hL.1]at hslen;have hlt1:(i:Int)<((s.len:Nat):Int):=by omega
    refine⟨⟨by simp only;omega,hlt1⟩,a,ha,some ⟨kb,0,none⟩,hvv,_,rfl,?_⟩;obtain⟨kval,kss,kow,kks,hkb,_⟩:=id hkn;refine⟨ksl,eH (i:=0) hkb,LX hk6 ?_⟩;rw[hkl];have hc1:=NO hkne hcm.1 hie.symm;have hcle:=KZ k.data.toList F.toL[i].1;have hct:=KW k.data.toList F.toL[i].1;have hcd:=Fm k.data.toList F.toL[i].1;have hll:ksl.size=F.toL[i].1.length:=by rw[←hkl];simp
    have hin_m:tE F k.data.toList v→xp F.toL[i] k.data.toList v:=fun hin=>by
     obtain⟨n',hn',e,hN⟩:=sR hc hin;rw[←Fp hc hn' hmem (by omega)];exact hN
    have hset:∀{w2:Option ByteArray} {F2:Fo} {nl:List UInt8},nl≠[]→hd nl=hd F.toL[i].1→gi F2→Br (uN w2 F2)→gi (.ofL (F.toL.set i (nl,w2,F2))):=fun h1 h2 h3 h4=>Pk hc hi ⟨h1,(Cl h3).2 h4,h3⟩ h2
    have hputs:∀{m:Bn},rJ (xp F.toL[i]) (xp m) k.data.toList v→rJ (tE F) (tE (.ofL (F.toL.set i m))) k.data.toList v:=fun hp=>Gv hc hi hie hp
    have hsame:rJ (xp F.toL[i]) (xp F.toL[i]) k.data.toList v→rJ (tE F) (tE F) k.data.toList v:=LH hc hi hie;have hrset:∀{h':ad} {k':Option Addr} {m:Bn},Upd No h h'→Kid W h' k' m→RxL W h' (ks.set i k') (F.toL.set i m):=fun hu hkd=>(hL.upd0 hu).set hi hkd
    generalize F.toL[i]=m at hkl hkn hcm hc1 hcle hct hcd hll hin_m hset hputs hsame hie;generalize hcc:cm k.data.toList m.1=c at hc1 hcle hct hcd;obtain⟨lab,wk,Fk⟩:=m;simp only at hkl hkn hcm hcle hct hcd hll hie hset;refine Join.intro (fun t h'=>∃ub slu wu Fu,t=some ⟨ub,0,none⟩∧Upd No h h'∧RxN W h' ub slu wu Fu∧gi Fu∧slu.data.toList=k.data.toList.take c∧(∀k' v',xp (slu.data.toList,wu,Fu) k' v'↔xp (lab,wk,Fk) k' v')∧(∀w' F',gi F'→rJ (uN wu Fu) (uN w' F') (k.data.toList.drop c) v→Br (uN w' F'))) (fun R hR=>⟨_,rfl,ksl,eH (i:=0) hkb,?_⟩) ?_
    ·refine aE (fun hlt=>?_) fun hge=>?_
     ·have hlt:c<lab.length:=by omega
      refine H9 hkn hW (kM hcm.2.2) (c:=c) (by omega) fun h1 ub rn hu1=>hR _ _ ⟨ub,_,none,_,rfl,hu1,rn,?_,?_,?_,?_⟩
      ·rw[hkl]
       refine⟨fun e=>?_,hcm.2.1,hcm.2.2,fun _ h=>by simp[Fo.toL]at h,trivial⟩
       have:=congrArg dT e;rw[aS,aZ]at this;omega
      ·rw[B7,hkl,hct]
      ·intro k' v'
       rw[B7,hkl];exact LR c k' v'
      ·intro w' F' hcF hp
       rw[hkl]at hp;refine NT (fun e=>?_) hcm.2.1 hcm.2.2 (fun hne=>?_) hp
       ·have:=congrArg dT e
        rw[aS,aZ]at this;omega
       ·refine hcd ?_ hlt
        rcases bN c k.data.toList.length with hl|hl
        ·exact hl
        ·exact absurd (List.drop_eq_nil_of_le hl) hne
     ·have hce:c=lab.length:=by omega
      refine hR _ _ ⟨kb,ksl,wk,Fk,rfl,Upd.refl _ _,hkn,hcm.2.2,?_,?_,?_⟩
      ·rw[hkl,hct,hce,bW]
      ·intro k' v';rw[hkl]
      ·intro w' F' hcF hp
       exact Pm ((Cl hcm.2.2).1 hcm.2.1) hp
    ·rintro t h1 ⟨ub,slu,wu,Fu,rfl,hu1,rn,hcu,hsl,hinn,hbr⟩
     refine⟨⟨by omega,by omega⟩,?_⟩
     rw[aP];have hkd:(k.extract c k.size).data.toList=k.data.toList.drop c:=B8 ..;have hks:(k.extract c k.size).size=k.size-c:=by simp
     have hktd:k.data.toList=slu.data.toList++k.data.toList.drop c:=by rw[hsl,aF]
     have hslne:slu.data.toList≠[]:=by
      rw[hsl];intro e;have:=congrArg dT e;rw[aK,aZ]at this;omega
     have hslhd:hd slu.data.toList=hd lab:=by
      rw[hie];conv=>rhs;rw[hktd]
      rw[qi hslne]
     refine ih (k.extract c k.size) v (by rw[hks];omega) (by rw[hks];omega) rn (fun y hy=>Nat.lt_of_lt_of_le (hW y hy) hu1.size) hcu fun h2 b2 w2 F2 added ch hu2 rn2 hc2 hp2 hsm hch=>?_
     rw[hkd]at hp2 hch;have hu02:=hu1.tr hu2;have hpn:rJ (xp (lab,wk,Fk)) (xp (slu.data.toList,w2,F2)) k.data.toList v:=by
      have:=Nc (LI (lab:=slu.data.toList) hp2) hinn;rw[←hktd]at this;exact this
     have hchg:uN w F k.data.toList v→ch=false:=fun hin=>by
      rcases hin with⟨h,_⟩|hin
      ·exact absurd h hkne
      ·obtain⟨r,e,hr'⟩:=(hinn _ _).2 (hin_m hin)
       simp only at e;rw[hktd]at e;have e2:=List.append_cancel_left e;rw[←hktd]at e;exact hch (by rw[e2];exact hr')
     cases ch with
     |false=>
      obtain⟨_,rfl,rfl⟩:=hsm rfl;refine aw.2 (hk h2 b w F false false hu02 (hr.upd0 hu02) hc (yV hkne (hsame ?_)) (fun _=>⟨rfl,rfl,rfl⟩) fun _=>rfl)
      intro k' v';exact(hinn k' v').symm.trans (hpn k' v')
     |true=>
      refine al.2 ?_;refine rT (hu02.get0 hb) (hs.upd hu02 fun _ h=>h.elim) (by rw[hL.1];exact hn) fun h3 s3 b3 ho3 hu3=>?_
      refine⟨_,rfl,s3,eH (i:=3) b3,?_⟩;have hil:i<ks.length:=by rw[hL.1];exact hi
      obtain⟨a3,ha3,hab,hw3,ho4,hu4⟩:=OwnS.setAt ho3 hil (some ⟨b2,0,none⟩);have hlen3:=ho3.len;refine⟨⟨by simp only;omega,by simp only;omega⟩,a3,ha3,?_⟩
      have hw1:Wr h3 (adr a3 (i*1)):=by
       rcases hw3 with hw|⟨b',hb',hw⟩
       ·cases hw
       ·cases hb';exact hw 0 (by simp)
      refine⟨hw1,bj ?_⟩;have b4:=hu4.get b3 fun e=>by have e:h2.size=a3.block:=e;have:=hab.1;omega
      have hu24:Upd No h2 _:=hu3.trans hu4 fun x hx=>.inr (by have hx:x=a3.block:=hx;have:=hab.1;omega)
      have hu04:=hu02.tr hu24;have eset:ks.set i (some ⟨b2,0,none⟩)=ks.take i++some ⟨b2,0,none⟩::ks.drop (i+1):=by rw[eB,if_pos hil]
      rw[←eset]at ho4;exact hk _ h2.size w _ added true hu04 ⟨val,s3,none,_,b4,hv,ho4.sl (fun x hx _ hw=>by have:=hW _ hw;have:=hu02.size;have:=hx.1;omega),⟨ho4.cap,fun hx=>by have:=hW _ hx;have:=hu02.size;omega⟩,nr.2 (by rw[Fo.to_of];exact hrset hu04 ⟨b2,slu,rfl,rfl,rn2.upd0 hu24⟩)⟩ (hset hslne hslhd hc2 (hbr _ _ hc2 hp2)) (yV hkne (hputs hpn)) (fun h=>by cases h) hchg
end Go.Proofs
namespace Go.Proofs
open Go Go.Lift
def vu:Fo→List (List UInt8×ByteArray)
 | .nil=> []
 | .cons lab w kids rest=>((w.map fun v=>(([]:List UInt8),v)).toList++vu kids).map (fun p=>(lab++p.1,p.2))++vu rest
def ma(w:Option ByteArray)(F:Fo):List (List UInt8×ByteArray):=(w.map fun v=>(([]:List UInt8),v)).toList++vu F
theorem qO:∀{F:Fo} {k:List UInt8} {v:ByteArray},(k,v)∈vu F↔tE F k v
 | .nil,_,_=>by simp[vu,tE]
 | .cons lab w kids rest,k,v=>by
  unfold vu tE;rw[bV,qO (F:=rest)];refine or_congr ?_ vt;rw[gz];constructor
  ·rintro⟨⟨r,u⟩,hm,he⟩
   simp only[nV.injEq]at he;obtain⟨rfl,rfl⟩:=he;refine⟨r,rfl,?_⟩;rcases bV.1 hm with h|h
   ·left
    rw[Option.mem_toList,nW]at h;obtain⟨a,ha,he⟩:=h;simp only[nV.injEq]at he;exact⟨he.1.symm,by rw[ha,he.2]⟩
   ·exact .inr (qO.1 h)
  ·rintro⟨r,rfl,h⟩
   refine⟨(r,v),bV.2 ?_,rfl⟩;rcases h with⟨rfl,h⟩|h
   ·left;rw[h];simp
   ·exact .inr (qO.2 h)
theorem mq{w:Option ByteArray}{F:Fo}{k:List UInt8}{v:ByteArray}:(k,v)∈ma w F↔uN w F k v:=by
 unfold ma uN;rw[bV,qO];refine or_congr ?_ vt;cases w with
 |none=>simp
 |some u=>simp[Prod.ext_iff,eq_comm]
abbrev Up(l:List (List UInt8×ByteArray)):Prop:=l.Pairwise fun p q=>p.1<q.1
theorem Qx{a x y:List UInt8}(h:x<y):a++x<a++y:=by
 induction a with
 |nil=>exact h
 |cons c a ih=>exact List.Lex.cons ih
theorem Nx{x y:List UInt8}(hy:y≠[])(h:hd x<hd y):x<y:=by
 match x,y,hy with
 | [],b::y,_=>exact List.Lex.nil
 |a::x,b::y,_=>exact List.Lex.rel (UInt8.lt_iff_toNat_lt.2 h)
theorem Ix:∀{F:Fo},gi F→Up (vu F)
 | .nil,_=>cE
 | .cons lab w kids rest,h=>by
  unfold vu;refine ci.2 ⟨?_,Ix h.2.2.2.2,?_⟩
  ·rw[List.pairwise_map]
   refine List.Pairwise.imp (R:=fun p q:List UInt8×ByteArray=>p.1<q.1) (fun hab=>Qx hab) ?_
   refine ci.2 ⟨?_,Ix h.2.2.1,?_⟩
   ·cases w<;>simp
   ·intro a ha b hb
    have hne:b.1≠[]:=pA h.2.2.1 (qO (F:=kids).1 (show(b.1,b.2)∈_ from hb))
    have ha0:a.1= []:=by
     rw[Option.mem_toList,nW]at ha;obtain⟨v,_,e⟩:=ha;rw[←e]
    rw[ha0];match b.1,hne with
    |c::l,_=>exact List.Lex.nil
  ·intro a ha b hb
   obtain⟨p,_,rfl⟩:=gz.1 ha;obtain⟨n,hn,e,_⟩:=sR h.2.2.2.2 (qO (F:=rest).1 (show(b.1,b.2)∈_ from hb))
   have hne:b.1≠[]:=pA h.2.2.2.2 (qO (F:=rest).1 (show(b.1,b.2)∈_ from hb))
   have:=h.2.2.2.1 n hn;exact Nx hne (by rw[qi h.1];omega)
theorem OQ{w:Option ByteArray}{F:Fo}(h:gi F):Up (ma w F):=by
 refine ci.2 ⟨by cases w<;>simp,Ix h,?_⟩
 intro a ha b hb;have hne:b.1≠[]:=pA h (qO (F:=F).1 (show(b.1,b.2)∈_ from hb))
 have ha0:a.1= []:=by
  rw[Option.mem_toList,nW]at ha;obtain⟨v,_,e⟩:=ha;rw[←e]
 rw[ha0];match b.1,hne with
 |c::l,_=>exact List.Lex.nil
theorem MH:∀{l l':List (List UInt8×ByteArray)},Up l→Up l'→(∀p,p∈l↔p∈l')→l=l'
 | [],[],_,_,_=>rfl
 | [],q::l',_,_,h=>absurd ((h q).2 (ar ..)) (by simp)
 |p::l,[],_,_,h=>absurd ((h p).1 (ar ..)) (by simp)
 |p::l,q::l',hr,hr',h=>by
  have hr:=aX.1 hr;have hr':=aX.1 hr';have e:p=q:=by
   rcases aA.1 ((h p).1 (ar ..))with e|hp
   ·exact e
   ·rcases aA.1 ((h q).2 (ar ..))with e|hq
    ·exact e.symm
    ·exact absurd (List.lt_trans (hr.1 q hq) (hr'.1 p hp)) (qI _)
  subst e;rw[MH hr.2 hr'.2 fun z=>?_]
  constructor
  ·intro hz
   rcases aA.1 ((h z).1 (aL _ hz))with e|hz'
   ·exact absurd (hr.1 z hz) (by rw[e];exact qI _)
   ·exact hz'
  ·intro hz
   rcases aA.1 ((h z).2 (aL _ hz))with e|hz'
   ·exact absurd (hr'.1 z hz) (by rw[e];exact qI _)
   ·exact hz'
def xX:Fo→Nat
 | .nil=>0
 | .cons _ _ kids rest=>1+xX kids+xX rest
theorem AX:∀{F:Fo},gi F→xX F+F.toL.length≤2*(vu F).length
 | .nil,_=>by simp[xX,Fo.toL]
 | .cons lab w kids rest,h=>by
  have h1:=AX h.2.2.1;have h2:=AX h.2.2.2.2;have h3:=h.2.1;rw[Fo.toL_cons];unfold xX vu;rw[ac,List.length_map,ac,ax];cases w with
  |none=>
   simp only[Option.map_none,Option.toList_none,aZ];have:2≤kids.toL.length:=h3.resolve_left (by simp);omega
  |some v=>simp only[Option.map_some,Option.toList_some,aC];omega
def FT:Fo→Prop
 | .nil=>True
 | .cons lab w kids rest=>lab.length≤10000∧(∀v,w=some v→v.size≤10000)∧kids.toL.length≤256∧FT kids∧FT rest
theorem Je:∀{F:Fo},gi F→(∀k v,tE F k v→k.length≤10000∧v.size≤10000)→FT F
 | .nil,_,_=>trivial
 | .cons lab w kids rest,h,hl=>by
  obtain⟨r,v,hr⟩:=nA h _ (ar ..);have h1:=(hl _ v (iH.2 ⟨_,ar ..,r,rfl,hr⟩)).1;rw[ac]at h1;simp only at h1;refine⟨by omega,fun v hv=>(hl lab v (.inl ⟨[],(aW _).symm,.inl ⟨rfl,hv⟩⟩)).2,kM h.2.2.1,Je h.2.2.1 fun k v hk=>?_,Je h.2.2.2.2 fun k v hk=>hl k v (.inr hk)⟩
  have:=hl (lab++k) v (.inl ⟨k,rfl,.inr hk⟩);rw[ac]at this;exact⟨by omega,this.2⟩
def ru:Option ByteArray→List UInt8
 |some v=>1::mn v
 |none=> [0]
def pM(lab:List UInt8)(w:Option ByteArray)(n:Nat):List UInt8:=mn ⟨lab.toArray⟩++(ru w++lm n 2)
def mP:Fo→List UInt8
 | .nil=> []
 | .cons lab w kids rest=>pM lab w kids.toL.length++(mP kids++mP rest)
def gU(n:Bn):List UInt8:=pM n.1 n.2.1 n.2.2.toL.length++mP n.2.2
theorem uj:∀F:Fo,mP F=F.toL.flatMap gU
 | .nil=>rfl
 | .cons lab w kids rest=>by
  rw[Fo.toL_cons,aO,←uj rest];show pM lab w kids.toL.length++(mP kids++mP rest)=(pM lab w kids.toL.length++mP kids)++mP rest
  rw[aq]
theorem DW{lab:List UInt8}{w:Option ByteArray}{n:Nat}(h1:lab.length≤10000)(h2:∀v,w=some v→v.size≤10000):(pM lab w n).length≤20010:=by
 unfold pM;rw[ac,ac,ig,dh];have e:(oa lab.toArray).size=lab.length:=by simp[ByteArray.size]
 rw[e];cases w with
 |none=>simp only[ru,aC];omega
 |some v=>have:=h2 v rfl;simp only[ru,ax,ig];omega
theorem ww:∀{F:Fo},FT F→(mP F).length≤xX F*20010
 | .nil,_=>by simp[mP]
 | .cons lab w kids rest,h=>by
  have h1:=DW (n:=kids.toL.length) h.1 h.2.1;have h2:=ww h.2.2.2.1;have h3:=ww h.2.2.2.2;unfold mP xX;rw[ac,ac,ie,ie];omega
theorem DX{lab lab':List UInt8}{w w':Option ByteArray}{n n':Nat}{r r':List UInt8}(h1:lab.length≤10000)(h1':lab'.length≤10000)(h2:∀v,w=some v→v.size≤10000)(h2':∀v,w'=some v→v.size≤10000)(hn:n≤256)(hn':n'≤256)(h:pM lab w n++r=pM lab' w' n'++r'):lab=lab'∧w=w'∧n=n'∧r=r':=by
 unfold pM at h;simp only[aq]at h;have z:∀l:List UInt8,(oa l.toArray).size=l.length:=fun l=>by simp[ByteArray.size]
 obtain⟨e1,h⟩:=uZ (by rw[z];exact h1) (by rw[z];exact h1') h;have e1:lab=lab':=by
  have:=congrArg (fun b:ByteArray=>b.data.toList) e1
  simpa using this
 cases w with
 |none=>
  cases w' with
  |none=>
   simp only[ru,dN,List.nil_append,fp.injEq,true_and]at h;obtain⟨e2,h⟩:=rX (k:=2) (by omega) (by omega) h;exact⟨e1,rfl,e2,h⟩
  |some v=>simp[ru]at h
 |some v=>
  cases w' with
  |none=>simp[ru]at h
  |some v'=>
   simp only[ru,dN,fp.injEq,true_and]at h;obtain⟨e3,h⟩:=uZ (h2 v rfl) (h2' v' rfl) h;obtain⟨e2,h⟩:=rX (k:=2) (by omega) (by omega) h;exact⟨e1,by rw[e3],e2,h⟩
theorem wx:∀{F F':Fo} {r r':List UInt8},FT F→FT F'→F.toL.length=F'.toL.length→mP F++r=mP F'++r'→F=F'∧r=r'
 | .nil,.nil,_,_,_,_,_,h=>⟨rfl,h⟩
 | .nil,.cons ..,_,_,_,_,e,_=>by simp[Fo.toL]at e
 | .cons ..,.nil,_,_,_,_,e,_=>by simp[Fo.toL]at e
 | .cons lab w kids rest,.cons lab' w' kids' rest',r,r',h1,h2,e,h=>by
  unfold mP at h;simp only[aq]at h;obtain⟨e1,e2,e3,h⟩:=DX h1.1 h2.1 h1.2.1 h2.2.1 h1.2.2.1 h2.2.2.1 h;obtain⟨e4,h⟩:=wx h1.2.2.2.1 h2.2.2.2.1 e3 h;obtain⟨e5,h⟩:=wx h1.2.2.2.2 h2.2.2.2.2 (by rw[Fo.toL_cons,Fo.toL_cons]at e;simpa using e) h;exact⟨by rw[e1,e2,e4,e5],h⟩
end Go.Proofs
namespace Go.Proofs
open Go Go.Lift
theorem Pq{M:Nat→Prop}{h:ad}{so:SliceV}{out ys:List UInt8}{vs:List Value}(hv:vs=ys.flatMap nh){n:Nat}(hn':n=ys.length){K:SliceV→ad→Prop}(ho:OwnS nh 1 cD M h so out)(hM:∀b,h.size≤b→M b)(hn:out.length+ys.length≤140737488355328)
  (hk:∀s' h',OwnS nh 1 cD M h' s' (out++ys)→Upd M h h'→K s' h'):
  ∃xs,SRow (hnew h vs cD) (some (az h)) (n*1) xs∧AppP (some [.int .u8 0]) 1 1 cD so.a so.len so.cap n xs (hnew h vs cD) K:=by
 subst hv hn';have k:=Upd.hnew No h (ys.flatMap nh) cD;have h1:OwnS nh 1 cD (fun _=>True) (hnew h (ys.flatMap nh) cD) ⟨some (az h),ys.length,ys.length⟩ ys:=⟨rfl,qm,ao _,.inr ⟨h.size,[],rfl,trivial,by rw[aW];exact bZ ..,by simp⟩⟩
 refine⟨_,(h1.sl (W:=No) fun _ _ _ h=>h).srow,?_⟩
 refine AppP.own (ys:=ys) (ho.upd k fun _ _ h=>h) rfl rfl (vg _) rfl (by omega) (by omega) (hM _ (by rw[iS];omega)) fun s' h' ho' hu=>?_
 exact hk s' h' ho' ((Upd.hnew M h _ _).tr hu)
def RP(W:Nat→Prop)(n:Bn):Prop:=∀{b:Nat} {sl:ByteArray} {h0 h:ad} {M:Nat→Prop} {s:SliceV} {xs:List UInt8},RxN W h0 b sl n.2.1 n.2.2→sl.data.toList=n.1→Upd No h0 h→(∀y,M y→h0.size≤y)→OwnS nh 1 cD M h s xs→(∀y,h.size≤y→M y)→
 xs.length+(gU n).length≤140737488355328→∀{K:SliceV→ad→Prop},(∀s' h',OwnS nh 1 cD M h' s' (xs++gU n)→Upd M h h'→K s' h')→HC PG jq [.pointer (some ⟨b,0,none⟩),.slice s.a s.len s.cap] [.c .slice] K h
theorem MX{W:Nat→Prop}{lab:List UInt8}{w:Option ByteArray}{kids:Fo}(hl:lab.length≤10000)(hw:∀v,w=some v→v.size≤10000)(hk256:kids.toL.length≤256)(ih:∀m∈kids.toL,RP W m):RP W (lab,w,kids):=by
 intro b sl h0 h M s xs r hsl hu0 hM0 ho hM hx K hk;simp only at r hsl;have hsle:(⟨lab.toArray⟩:ByteArray)=sl:=by rw[←hsl]
 refine vx (some ⟨b,0,none⟩) s ?_;unfold pR cf dd bC ge bG wi Rr Ot;obtain⟨val,s1,ow,ks,hb0,hv,hs,hcap,hF⟩:=r;have hL:=nr.1 hF;have st:∀{h'},Upd M h h'→Upd No h0 h':=fun k=>hu0.trans k fun y hy=>.inr (hM0 y hy)
 have blk:∀{h'},Upd M h h'→h'[b]? =some (.cells (CT sl w.isSome val s1 ow) bU (0,0)):=fun k=>(st k).get0 hb0
 have hM':∀{h'},Upd M h h'→∀y,h'.size≤y→M y:=fun k y hy=>hM y (bh k.size hy)
 have hsz:sl.size=lab.length:=by rw[←hsl];simp
 have hsl1:=hs.len;rw[hL.1]at hsl1;unfold gU at hx hk;rw[uj]at hx hk;simp only at hx hk;rw[ac]at hx;have hnl:(pM lab w kids.toL.length).length=2+lab.length+((ru w).length+2):=by
  unfold pM;rw[ac,ac,ig,dh,hsle,hsz]
 refine⟨_,rfl,sl,eH (i:=0) (blk (Upd.refl M h)),?_⟩;refine AH (W:=No) (ho.sl fun _ _ _ h=>h) ho.cap sl (by omega) (by omega) fun s2 h2 ho2 hu2=>?_
 have ho2:=ho2.more hM;have hu02:Upd M h h2:=hu2.wide;refine Join.intro (fun t h'=>OwnS nh 1 cD M h' t (xs++mn sl++(ru w))∧Upd M h h') (fun R hR=>⟨_,rfl,w.isSome,eH (i:=1) (blk hu02),?_⟩) ?_
 ·cases w with
  |none=>
   refine al.2 (bj ?_);refine r8 (b:=0) rfl ho2 (hM' hu02) ?_ fun s3 h3 ho3 hu3=>hR _ _ ⟨ho3,hu02.tr hu3⟩
   rw[ac,ig];simp only[ru,aC]at hnl;omega
  |some v=>
   have hve:=vw hv v rfl;subst hve;have hvs:=hw val rfl;simp only[ru,ax,ig]at hnl;have k3:Upd M h (hnew h2 [.int .u8 1] cD):=hu02.tr (Upd.hnew M h2 _ _);refine aw.2 ⟨_,rfl,val,eH (i:=2) (blk hu02),bj ⟨eH (i:=2) (blk k3),?_⟩⟩;refine r8 (b:=1) rfl ho2 (hM' hu02) (by rw[ac,ig];omega) fun s3 h3 ho3 hu3=>⟨eH (i:=2) (blk (hu02.tr hu3)),?_⟩
   refine AH (W:=No) (ho3.sl fun _ _ _ h=>h) ho3.cap val (by omega) (by rw[ac,ac,ig,aC];omega) fun s4 h4 ho4 hu4=>hR _ _ ⟨?_,(hu02.tr hu3).tr hu4.wide⟩
   have ho4:=ho4.more (hM' (hu02.tr hu3));simp only[ru,aq,List.singleton_append]at ho4⊢;exact ho4
 ·rintro s3 h3 ⟨ho3,hu3⟩
  have e8:ee (s1.len:Int) (2^(min (8:Int).toNat (IntKind.bits .i64)))=((kids.toL.length>>>8:Nat):Int):=by
   have:(2^(min (8:Int).toNat (IntKind.bits .i64)):Int)=2^8:=rfl;rw[this,hsl1,lu]
  refine Join.intro (fun t h'=>OwnS nh 1 cD M h' t (xs++pM lab w kids.toL.length)∧Upd M h h') (fun R hR=>⟨_,rfl,s1,eH (i:=3) (blk hu3),_,rfl,s1,eH (i:=3) (blk hu3),by omega,?_⟩) ?_
  ·simp only[Bd]
   rw[e8];have k4:Upd M h (hnew h3 [.int .u8 (IntKind.wrap .u8 (s1.len:Int)),.int .u8 (IntKind.wrap .u8 ((kids.toL.length>>>8:Nat):Int))] cD):=hu3.tr (Upd.hnew M h3 _ _);refine bj ⟨eH (i:=3) (blk k4),eH (i:=3) (blk k4),?_⟩;refine Pq (ys:=lm kids.toL.length 2) ?_ rfl ho3 (hM' hu3) ?_ fun s5 h5 ho5 hu5=>⟨eH (i:=3) (blk (hu3.tr hu5)),eH (i:=3) (blk (hu3.tr hu5)),hR _ _ ⟨?_,hu3.tr hu5⟩⟩
   ·rw[hsl1,IntKind.wrap_u8,IntKind.wrap_u8]
    simp[lm,List.range_succ]
   ·rw[ac,ac,ig,dh];omega
   ·unfold pM
    rw[hsle,←aq,←aq];exact ho5
  ·rintro s4 h4 ⟨ho4,hu4⟩
   refine⟨_,rfl,s1,eH (i:=3) (blk hu4),?_⟩;have hs4:∀{h'},Upd M h h'→Sl ul 1 W h' s1 ks:=fun k=>hs.upd (st k) fun _ h=>h.elim
   refine LoopP.ghost (fun(i:Nat) (t:SliceV×Int) h'=>t.2=(i:Int)∧i≤kids.toL.length∧OwnS nh 1 cD M h' t.1 (xs++pM lab w kids.toL.length++(kids.toL.take i).flatMap gU)∧Upd M h h') (fun i=>kids.toL.length-i) 0 ⟨rfl,aR _,by simpa using ho4,hu4⟩ ?_
   rintro I i ⟨so,ti⟩ h' ⟨e1,hi,ho',hu'⟩ hI;simp only at e1 ho';subst e1;have hsplit:∀hlt:i<kids.toL.length,((kids.toL.take i).flatMap gU).length+(gU kids.toL[i]).length≤(kids.toL.flatMap gU).length:=fun hlt=>by
    have e:kids.toL=kids.toL.take i++kids.toL[i]::kids.toL.drop (i+1):=by rw[j2,aF]
    have:=congrArg (fun L=>(List.flatMap gU L).length) e
    simp only[bm,aO,ac]at this;omega
   refine aE (fun hlt=>?_) fun hge=>?_
   ·have hlt:i<kids.toL.length:=by have:(i:Int)<(s1.len:Int):=hlt;omega
    obtain⟨kb,ksl,hki,hkl,hkn⟩:=hL.at hlt;obtain⟨a,ha,_,hvv⟩:=(hs4 hu').at0 hki;have hsp:=hsplit hlt;refine⟨⟨by simp only;omega,by simp only;omega⟩,a,ha,some ⟨kb,0,none⟩,hvv,?_⟩
    refine ih _ (bI hlt) hkn hkl (st hu') hM0 ho' (hM' hu') (by rw[ac,ac];omega) fun s5 h5 ho5 hu5=>?_
    rw[cp hlt (by omega)];refine hI (i+1) _ _ ⟨rfl,hlt,?_,hu'.tr hu5⟩ (by omega);rw[bv hlt,bm,aO,jG,aW,←aq];exact ho5
   ·have hil:i=kids.toL.length:=by have:¬(i:Int)<(s1.len:Int):=hge;omega
    subst hil;rw[bW]at ho';refine hk _ _ ?_ hu';rw[←aq];exact ho'
theorem EN{W:Nat→Prop}:∀{F:Fo},FT F→∀n∈F.toL,RP W n
 | .nil,_,n,hn=>by simp[Fo.toL]at hn
 | .cons lab w kids rest,h,n,hn=>by
  rcases aA.1 hn with rfl|hn
  ·exact MX h.1 h.2.1 h.2.2.1 (EN h.2.2.2.1)
  ·exact EN h.2.2.2.2 n hn
structure RadAt(W:Nat→Prop)(h:ad)(b:Nat)(l:List Pr):Prop where
 ex:∃w F,RxN W h b ⟨#[]⟩ w F∧gi F∧∀k v,(k,v)∈ma w F↔∃p∈l,p.1.data.toList=k∧p.2=v
theorem RadAt.upd0{W:Nat→Prop}{h h':ad}{b:Nat}{l:List Pr}(k:Upd No h h')(r:RadAt W h b l):RadAt W h' b l:=by
 obtain⟨w,F,r1,r2,r3⟩:=r.ex;exact⟨w,F,r1.upd0 k,r2,r3⟩
theorem RadAt.less{W W':Nat→Prop}{h:ad}(hm:∀b,W' b→W b∨h.size≤b){b:Nat}{l:List Pr}(r:RadAt W h b l):RadAt W' h b l:=by
 obtain⟨w,F,r1,r2,r3⟩:=r.ex;exact⟨w,F,r1.less hm,r2,r3⟩
theorem RadAt.updM{W M:Nat→Prop}{h h':ad}(k:Upd M h h')(hm:∀b,M b→W b∨h.size≤b){b:Nat}{l:List Pr}(r:RadAt W h b l):RadAt W h' b l:=by
 obtain⟨w,F,r1,r2,r3⟩:=r.ex;exact⟨w,F,r1.updM k hm,r2,r3⟩
def Bb(l:List Pr):List (List UInt8×ByteArray):=l.map fun p=>(p.1.data.toList,p.2)
theorem P0{l:List Pr}(hr:dD l):Up (Bb l):=by
 unfold Bb Up;rw[List.pairwise_map];refine List.Pairwise.imp (R:=fun p q:Pr=>kl p.1 q.1) (fun{a b} h=>?_) hr
 rw[IP,ByteArray.toList_eq,ByteArray.toList_eq]at h;exact h
theorem EI:∀{l l':List Pr},Bb l=Bb l'→l=l'
 | [],[],_=>rfl
 | [],_::_,h=>by simp[Bb]at h
 |_::_,[],h=>by simp[Bb]at h
 |p::l,q::l',h=>by
  unfold Bb at h;simp only[List.map_cons,fp.injEq,nV.injEq]at h;obtain⟨⟨h1,h2⟩,h3⟩:=h;have e:p.1=q.1:=by
   generalize p.1=a at h1;generalize q.1=b at h1;cases a;cases b;exact congrArg oa (l7.1 h1)
  rw[EI h3,uV e h2]
theorem AK{w:Option ByteArray}{F:Fo}{l:List Pr}(hc:gi F)(hr:dD l)(he:∀k v,(k,v)∈ma w F↔∃p∈l,p.1.data.toList=k∧p.2=v):ma w F=Bb l:=by
 refine MH (OQ hc) (P0 hr) fun p=>?_
 have:=he p.1 p.2;rw[show(p.1,p.2)=p from rfl]at this
 rw[this];unfold Bb;rw[gz];constructor
 ·rintro⟨q,hq,e1,e2⟩;exact⟨q,hq,uV e1 e2⟩
 ·rintro⟨q,hq,e⟩;rw[←e];exact⟨q,hq,rfl,rfl⟩
theorem M2{w w':Option ByteArray}{F F':Fo}(hc:gi F)(hc':gi F')(h:ma w F=ma w' F'):w=w'∧F=F':=by
 have hm:∀k v,uN w F k v↔uN w' F' k v:=fun k v=>by rw[←mq,←mq,h]
 refine⟨Option.ext fun v=>?_,Jk hc hc' fun k v=>?_⟩
 ·have:=hm [] v
  constructor
  ·intro e
   rcases this.1 (.inl ⟨rfl,e⟩)with⟨_,h⟩|h
   ·exact h
   ·exact absurd rfl (pA hc' h)
  ·intro e
   rcases this.2 (.inl ⟨rfl,e⟩)with⟨_,h⟩|h
   ·exact h
   ·exact absurd rfl (pA hc h)
 ·constructor
  ·intro hi
   rcases(hm k v).1 (.inr hi)with⟨e,_⟩|h
   ·exact absurd e (pA hc hi)
   ·exact h
  ·intro hi
   rcases(hm k v).2 (.inr hi)with⟨e,_⟩|h
   ·exact absurd e (pA hc' hi)
   ·exact h
end Go.Proofs
