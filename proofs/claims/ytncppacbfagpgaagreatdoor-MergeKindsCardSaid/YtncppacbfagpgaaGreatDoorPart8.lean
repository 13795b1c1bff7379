/- A part of the proof that the named laws of this program answer true, whatever the input. -/
import Derived.Test.YtncppacbfagpgaaGreatDoorPart7
import Derived.Test.YtncppacbfagpgaaGreatDoorPart4
import Derived.Test.YtncppacbfagpgaaGreatDoorPart0
import Derived.Sort.AssemblyPlain
open Bool renaming and_eq_true→bC
open Int renaming toNat_natCast→aV
open List renaming pairwise_append→cl,mem_cons_self→av,append_nil→aJ,mem_append_left→cF,filter_append→eo,mem_append→bG,mem_append_right→c7,length_append→ac,length_nil→aL,length_cons→ar,getElem?_append_right→aX,length_singleton→aI,length_eq_zero_iff→aA,nil_append→cN,cons_append→cK,cons→fe,mem_cons→aB,pairwise_cons→aD,drop_left→gh,take_length→cd,append_assoc→au,foldl_cons→jh,take_succ_cons→dW,take_append_drop→aK,length→fg,length_drop→aY,mem_of_getLast?→iE,mem_singleton→aF,mem_cons_of_mem→aC,pairwise_singleton→cC,getElem?_eq_getElem→ag,getElem_mem→bw,any_eq_false→qj,find?_cons→oR,filter_cons→bF,any_eq_true→cL,filter_sublist→kX,mem_filter→de,length_filter_le→dV,getElem_of_mem→ce,singleton_append→qr,take_succ_eq_append_getElem→bo
open List.Pairwise renaming nil→ee
open Nat renaming lt_of_lt_of_le→aQ,le_refl→aq,sub_self→gj,one_pos→uS,zero_le→aW,le_trans→bh,lt_or_ge→bT,min_eq_left→bN
namespace Go.Proofs
open Go Go.Lift
theorem Ll{h:ae}{b:Nat}{c:Array Value}{t:TypeId}{v:Value}{k:ae→Prop}(hb:h[b]? =some (.cells c t (0,0))) (hs:0<c.size) (hk:∀h',h'[b]? =some (.cells (c.setIfInBounds 0 v) t (0,0))→Upd (· =b) h h'→k h'):Wr h ⟨b,0,none⟩∧At (hset h ⟨b,0,none⟩ v) k:=
 ⟨ii hb hs,tD hb hk⟩
theorem SN{L D T:List Pr}{p:Pr}(hr:bO L)(e:L=D++p::T):H1 D p=D++ [p]:=by
 subst e;have h1:=cl.1 hr;rw[BE p h1.1];have:=BD (p:=p) (A:=D) (B:= []) fun r hr'=>h1.2.2 r hr' p (av ..)
 rw[aJ]at this;exact this
theorem TP{z:Hs}{lev:Nat}{D A B:List Pr}{a0:Pr}(hs:Srt (XS z lev) (D++(A++B)))(hD:∀d∈D,∀t∈A++B,ck z lev d.1<ck z lev t.1)(ha0:a0∈A)(hA:∀a∈A,ck z lev a.1=ck z lev a0.1)(hB:∀b∈B,ck z lev b.1≠ck z lev a0.1):
  part z lev (ck z lev a0.1) (D++(A++B))=A∧part z lev (ck z lev a0.1) D= []∧(∀c,c≠ck z lev a0.1→part z lev c (D++A)=part z lev c D)∧part z lev (ck z lev a0.1) (D++A)=A∧∀d∈D++A,∀t∈B,ck z lev d.1<ck z lev t.1:=by
 have pD:part z lev (ck z lev a0.1) D= []:=wA fun d hd=>by have:=hD d hd a0 (cF _ ha0);omega
 have pA:part z lev (ck z lev a0.1) A=A:=F4 hA;have pB:part z lev (ck z lev a0.1) B= []:=wA hB;have app:∀{c} (X Y:List Pr),part z lev c (X++Y)=part z lev c X++part z lev c Y:=fun X Y=>eo ..
 refine⟨by rw[app,app,pD,pA,pB];simp,pD,fun c hc=>?_,by rw[app,pD,pA];rfl,fun d hd t ht=>?_⟩
 ·have:part z lev c A= []:=wA fun a ha=>by rw[hA a ha];exact fun e=>hc e.symm
  rw[app,this,aJ]
 ·rcases bG.1 hd with hd|hd
  ·exact hD d hd t (c7 _ ht)
  ·have h1:=of_decide_eq_false (hs.right.cross d hd t ht)
   have h2:=hB t ht;have h3:=hA d hd;omega
set_option maxHeartbeats 1000000 in
theorem VG{N:Nat}(st:StH N)(hN:N≤100000){z:Hs}{W:Nat→Prop}:∀(m:Nat),m≤13→∀{h:ae} {s:SliceV} {L:List Pr},Sl (An z) 3 No h s L→(∀y,W y→y<h.size)→bO L→L.length≤N→∀{K:Option Addr→ae→Prop},
  (∀h' b,TrieAt W z h' m b L→Upd No h h'→K (some ⟨b,0,none⟩) h')→HC PG pT [.slice s.a s.len s.cap,.int .i64 ((13-m:Nat):Int)] [.c .ptr] K h:=by
 intro m;induction m with
 |zero=>
  intro _ h s L hs hW hr hn K hk;have gW:∀{h'},Upd No h h'→∀y,W y→y<h'.size:=fun k y hy=>aQ (hW y hy) k.size
  refine Cs s ((13-0:Nat):Int) ?_;unfold w6 bM cB cM nv aO cr qn LT NT Bb EN;refine aS fun h1 b1 k1=>⟨_,LV b1,ay.2 ?_⟩
  refine JQ (gW k1) fun h4 b4 bk4 hu4=>?_
  have hlen:=hs.len;refine LoopP.ghost (fun(g:List Pr×List Pr) (t:Option Addr×Int) h'=>(∃b,t.1=some ⟨b,0,none⟩∧BuckAt W h' b g.1)∧t.2=(g.1.length:Int)∧L=g.1++g.2∧Upd No h h') (fun g=>g.2.length) ([],L) ⟨⟨b4,rfl,bk4⟩,rfl,rfl,k1.tr hu4⟩ ?_
  rintro I ⟨D,T⟩ ⟨tb,ti⟩ h5 ⟨⟨b,e1,bk⟩,e2,e3,hu5⟩ hI;simp only at e1 e2 e3 bk;subst e1 e2;have hl3:L.length=D.length+T.length:=by rw[e3,ac]
  refine az (fun hlt=>?_) fun hge=>?_
  ·rcases T with _|⟨p,T⟩
   ·simp only[aL]at hl3;omega
   ·simp only[ar]at hl3
    obtain⟨a,ha,_,hv⟩:=(hs.upd hu5 fun _ h=>h.elim).at (i:=D.length) (x:=p) (by rw[e3,aX (aq _),gj];rfl)
    refine⟨⟨by omega,by omega⟩,a,ha,p.1,hv 0 _ rfl,p.2,hv 1 _ rfl,fU z p.1,hv 2 _ rfl,?_⟩
    refine aS fun h6 b6 k6=>?_
    refine cO (c:= [.string ⟨#[]⟩,.string ⟨#[]⟩,.int .u64 0]) (vs:=An z p) b6 rfl fun h7 b7 hu7=>?_
    have hu07:=(hu5.tr k6).own hu7 hu5.size;have k57:Upd No h5 h7:=k6.own hu7 (aq _);refine⟨p.1,js b7 0 0,p.2,js b7 0 1,?_⟩;have hrD:bO D:=by rw[e3]at hr;exact(cl.1 hr).1
    refine Fm (bk.upd k57 fun _ h=>h.elim) (gW hu07) hrD (by omega) p fun h8 b8 bk8 hu8=>?_
    rw[SN hr e3]at bk8;have ew:IntKind.wrap .i64 ((D.length:Int)+1)=((D++ [p]).length:Int):=by rw[ac,aI,gD (by omega)];omega
    rw[ew];exact hI (D++ [p],T) _ _ ⟨⟨b8,rfl,bk8⟩,rfl,by rw[e3];simp,hu07.tr hu8⟩ (by simp)
  ·have hT:T= []:=aA.1 (by omega)
   subst hT;rw[aJ]at e3;subst e3;exact hk h5 b bk hu5
 |succ m ih=>
  intro hm h s L hs hW hr hn K hk;have gW:∀{h'},Upd No h h'→∀y,W y→y<h'.size:=fun k y hy=>aQ (hW y hy) k.size
  have hlev:13-(m+1)=12-m:=by omega
  have hl13:12-m<13:=by omega
  refine Cs s ((13-(m+1):Nat):Int) ?_;unfold w6 bM cB cM nv aO cr qn LT NT Bb EN;rw[hlev];refine aS fun h1 b1 k1=>⟨_,LV b1,?_⟩
  have ne:(((12-m:Nat):Int)==(13:Int))=false:=by rw[beq_eq_false_iff_ne];omega
  rw[ne];refine aj.2 (aS fun h2 b2 k2=>?_)
  have z1:=aZ b1;have z2:=aZ b2;have s1:=k1.size;refine Ll b2 uS fun h3 b3 hu3=>?_
  have c1:=hu3.oth (k2.get0 b1) (by omega);have two3:Two h.size h1.size (12-m) h3:=⟨c1,b3⟩;have k03:Upd No h h3:=(k1.tr k2).own hu3 s1;have s3:h2.size≤h3.size:=hu3.size;refine SH (hs.upd k03 fun _ h=>h.elim) (by omega) fun e h4 ho4 hu4=>?_
  have two4:=two3.upd hu4;refine st (XR z (12-m)) (Zx hl13 (by omega) (by omega)) ho4 two4 (by omega) fun h5 R ho5 hst hu5=>?_
  have k45:Upd No h3 h5:=hu4.trans hu5 fun b hb=>.inr hb
  have two5:=two3.upd k45;have hRl:=hst.eqf.len;have hRp:∀c,part z (12-m) c R=part z (12-m) c L:=fun c=>by
   by_cases hex:∃q∈R++L,ck z (12-m) q.1=c
   ·obtain⟨q,_,hq⟩:=hex
    have e1:∀X:List Pr,X.filter (JO (XS z (12-m)) q)=part z (12-m) c X:=fun X=>List.filter_congr fun p _=>by rw[WF,hq]
    rw[←e1,←e1];exact hst.eqf.flt q
   ·rw[wA fun p hp e=>hex ⟨p,cF _ hp,e⟩,wA fun p hp e=>hex ⟨p,c7 _ hp,e⟩]
  have k05:=k03.tr k45;refine pE (gW k05) fun h6 b6 nd6 hu6=>?_
  have k06:=k05.tr hu6;have hlen:=ho5.len;have hsl:Sl (An z) 3 No h6 e R:=(ho5.sl fun _ _ _ h=>h).upd hu6 fun _ h=>h.elim
  refine LoopP.ghost (fun(g:List Pr×List Pr) (t:SliceV×Option Addr) h'=>R=g.1++g.2∧(∀d∈g.1,∀y∈g.2,ck z (12-m) d.1<ck z (12-m) y.1)∧Sl (An z) 3 No h' t.1 g.2∧t.1.len≤t.1.cap∧(∃b sl,t.2=some ⟨b,0,none⟩∧NodeAt W h' b sl∧∀c,c<32→SlotIs W z h' m sl c (part z (12-m) c g.1))∧Upd No h6 h') (fun g=>g.2.length) ([],R)
   ⟨rfl,fun d hd=>(by cases hd),hsl,ho5.cap,⟨b6,_,rfl,nd6,fun c _=>.inl ⟨rfl,rfl,rfl⟩⟩,Upd.refl _ _⟩ ?_
  rintro I ⟨D,T⟩ ⟨sT,tb⟩ h7 ⟨e3,hDT,hsT,hcT,⟨b,sl,e1,nd,hsl⟩,hu7⟩ hI;simp only at e1 e3 hDT hsT hcT nd hsl;subst e1;have hlT:=hsT.len;have hRT:R.length=D.length+T.length:=by rw[e3,ac]
  have k07:=k06.tr hu7;have two7:=(two5.upd hu6).upd hu7;refine az (fun hgt=>?_) fun hle=>?_
  ·rcases T with _|⟨p,T⟩
   ·simp only[aL]at hlT;simp only at hgt;omega
   obtain⟨a,ha,_,hv⟩:=hsT.at (i:=0) (x:=p) rfl;refine⟨_,LV two7.2,⟨by omega,by simp only[ar]at hlT;simp only;omega⟩,a,ha,p.1,hv 0 _ rfl,p.2,hv 1 _ rfl,fU z p.1,hv 2 _ rfl,?_⟩
   have two8:∀{h8},Upd No h7 h8→Two h.size h1.size (12-m) h8:=fun k=>two7.upd k
   refine⟨GS (z:=z) hl13 two7.1 p fun h8 k8=>aS fun h9 b9 k9=>Ll b9 uS fun h10 b10 hu10=>?_,aS fun h8 b8 k8=>⟨?_,LV (two8 k8).2,GS (z:=z) hl13 (two8 k8).1 p fun h9 k9=>Ll (k9.get0 b8) uS fun h10 b10 hu10=>?_⟩⟩
   case refine_2=>
    obtain⟨a',ha',_,hv'⟩:=(hsT.upd k8 fun _ h=>h.elim).at (i:=0) (x:=p) rfl
    rw[ha]at ha';cases ha';exact⟨hv' 0 _ rfl,hv' 1 _ rfl,hv' 2 _ rfl⟩
   case' refine_1=>
    have k710:Upd No h7 h10:=(k8.tr k9).own hu10 k8.size;obtain⟨vb,evb⟩:∃vb,vb=h8.size:=⟨_,rfl⟩;rw[cV h8,←evb];rw[←evb]at b10
   case' refine_3=>
    have k710:Upd No h7 h10:=(k8.tr k9).own hu10 (aq _);obtain⟨vb,evb⟩:∃vb,vb=h7.size:=⟨_,rfl⟩;rw[cV h7,←evb];rw[←evb]at b10
   all_goals
    have hTl:(p::T).length≤N:=by omega
    refine Sp (hsT.upd k710 fun _ h=>h.elim) (by omega) (g:=fun q=>decide (ck z (12-m) q.1≠ck z (12-m) p.1)) (fun q _ h' K' hu' hK=>?_) fun h11 A B e hAB hA hBn hBc hu11=>?_
    ·refine HV.mk' (G8 (q.1,q.2,fU z q.1) ⟨h1.size,0,none⟩ ⟨vb,0,none⟩ ?_)
     unfold yz af aw cr Bb OE;refine aS fun h12 b12 k12=>?_
     have k':=hu'.tr k12;refine⟨_,LV (two8 (k710.tr k')).2,_,vc b12 0,_,vc b12 1,_,vc b12 2,_,LV (k'.get0 b10),?_⟩;refine GS (z:=z) hl13 (two8 (k710.tr k')).1 q fun h13 k13=>⟨LV ((k'.tr k13).get0 b10),?_⟩
     have eb:(((ck z (12-m) q.1:Nat):Int) !=((ck z (12-m) p.1:Nat):Int))=decide (ck z (12-m) q.1≠ck z (12-m) p.1):=by
      rw[Bool.eq_iff_iff,bne_iff_ne,decide_eq_true_iff];omega
     rw[eb];exact hK h13 (k12.tr k13)
    obtain⟨A',rfl⟩:∃A',A=p::A':=by
     rcases A with _|⟨a0,A'⟩
     ·have:=(hBc p T (by rw[cN]at hAB;exact hAB.symm)).2
      simp at this
     ·rw[cK]at hAB
      exact⟨A',by rw[(fe.inj hAB).1]⟩
    generalize hAe:p::A'=A at*;have hpA:p∈A:=by rw[←hAe];exact av ..
    have hA1:0<A.length:=List.length_pos_of_mem hpA;have hsrt:=hst.srt;rw[hAB]at hDT hsT hTl hlT;rw[e3,hAB]at hsrt;simp only[ac]at hTl hlT;have hcA:∀q∈A,ck z (12-m) q.1=ck z (12-m) p.1:=fun q hq=>by simpa using hA q hq
    have hcB:∀q∈B,ck z (12-m) q.1≠ck z (12-m) p.1:=fun q hq=>by
     rcases B with _|⟨b0,B'⟩
     ·cases hq
     have hb0:ck z (12-m) b0.1≠ck z (12-m) p.1:=by simpa using(hBc b0 B' rfl).2
     have h1:=of_decide_eq_false (hsrt.right.cross p hpA b0 (av ..));rcases aB.1 hq with rfl|hq
     ·exact hb0
     ·have h2:=of_decide_eq_false ((aD.1 hsrt.right.right).1 q hq)
      omega
    obtain⟨r1,r2,r3,r4,r5⟩:=TP hsrt hDT hpA hcA hcB;have hi:=BZ z (12-m) p.1;have hsi:=hsl _ hi;rw[r2]at hsi;obtain⟨hsp,hskn⟩:sl.p (ck z (12-m) p.1)=none∧sl.k (ck z (12-m) p.1)=none:=by
     rcases hsi with⟨_,h1,h2⟩|⟨q,h1,_⟩|⟨h1,_⟩
     ·exact⟨h1,h2⟩
     ·cases h1
     ·simp at h1
    have k611:=(hu7.tr k710).tr hu11;have k711:=k710.tr hu11;have b11:=hu11.get0 b10;have two11:=two8 k711;refine Join.intro (fun t h'=>t=(A.length:Int)∧h'=h11) (fun R1 hR1=>?_) ?_
    ·refine az (fun hneg=>hR1 _ _ ⟨?_,rfl⟩) fun hpos=>hR1 _ _ ⟨?_,rfl⟩
     ·rcases B with _|⟨b0,B'⟩
      ·have hlT:sT.len=A.length+0:=hlT
       show((sT.len:Nat):Int)=(A.length:Int)
       omega
      ·have:=(hBc b0 B' rfl).1;omega
     ·rcases B with _|⟨b0,B'⟩
      ·have:=hBn rfl;omega
      ·exact(hBc b0 B' rfl).1
    rintro t h' ⟨rfl,rfl⟩;refine Join.intro (fun t h9=>∃b' sl',t=some ⟨b',0,none⟩∧NodeAt W h9 b' sl'∧(∀c,c<32→SlotIs W z h9 m sl' c (part z (12-m) c (D++A)))∧Upd No h' h9) (fun R1 hR1=>?_) ?_
    ·refine CondP.intro (fun hone=>?_) fun hmore=>?_
     ·have hone:A.length=1:=by have:=eq_of_beq hone;omega
      have hAp:A= [p]:=by
       rw[←hAe]at hone⊢;simp only[ar]at hone;rw[aA.1 (show A'.length=0 by omega)]
      obtain⟨a',ha',_,hv'⟩:=(hsT.upd k711 fun _ h=>h.elim).at (i:=0) (x:=p) (by rw[←hAe];rfl)
      rw[ha]at ha';cases ha';refine⟨_,LV b11,⟨by omega,by omega⟩,a,ha,p.1,hv' 0 _ rfl,p.2,hv' 1 _ rfl,?_⟩
      refine sR (nd.upd k711 fun _ h=>h.elim) (gW (k06.tr k611)) hi (fun _ _=>hskn) p fun h12 b12 nd12 hu12=>hR1 _ _ ⟨b12,_,rfl,nd12,fun c hc=>?_,hu12⟩
      by_cases e:c=ck z (12-m) p.1
      ·rw[e,r4,hAp]
       exact .inr (.inl ⟨p,rfl,jS,jS⟩)
      ·rw[r3 c e]
       have t:=SlotIs.upd0 (k711.tr hu12) (hsl c hc);have e1:upd sl.p (ck z (12-m) p.1) (some p) c=sl.p c:=jH e;have e2:upd sl.k (ck z (12-m) p.1) none c=sl.k c:=jH e;unfold SlotIs at t;rw[←e1,←e2]at t;exact t
     ·have hmore:A.length≠1:=fun e=>by rw[e]at hmore;simp at hmore
      refine⟨_,LV b11,⟨by omega,(by show((A.length:Nat):Int)≤((sT.cap:Nat):Int);omega)⟩,_,LV two11.1,?_⟩;have ew:IntKind.wrap .i64 (((12-m:Nat):Int)+1)=((13-m:Nat):Int):=by rw[gD (by omega)];omega
      rw[ew];have hsA:=Sl.sub (hsT.upd k711 fun _ h=>h.elim) (l:=0) (hi:=A.length) (m:=sT.cap) (c:=sT.cap-0) (aW _) (by simp) (by omega)
      rw[List.drop_zero,Nat.sub_zero,List.take_left]at hsA;have hAL:A=part z (12-m) (ck z (12-m) p.1) L:=by
       rw[←hRp,e3,hAB];exact r1.symm
      refine ih (by omega) hsA (gW (k06.tr k611)) (by rw[hAL];exact je hr) (by omega) fun h12 kb t12 hu12=>?_
      refine⟨LV (two11.upd hu12).1,LV (hu12.get0 b11),?_⟩;refine yG (nd.upd (k711.tr hu12) fun _ h=>h.elim) (gW ((k06.tr k611).tr hu12)) hi (fun _ _=>hsp) ⟨kb,0,none⟩ fun h13 b13 nd13 hu13=>⟨LV ((two11.upd hu12).upd hu13).1,hR1 _ _ ⟨b13,_,rfl,nd13,fun c hc=>?_,hu12.tr hu13⟩⟩
      by_cases e:c=ck z (12-m) p.1
      ·rw[e,r4]
       exact .inr (.inr ⟨by omega,jS,kb,jS,TrieAt.upd0 hu13 t12⟩)
      ·rw[r3 c e]
       have t:=SlotIs.upd0 ((k711.tr hu12).tr hu13) (hsl c hc);have e1:upd sl.p (ck z (12-m) p.1) none c=sl.p c:=jH e;have e2:upd sl.k (ck z (12-m) p.1) (some (some ⟨kb,0,none⟩)) c=sl.k c:=jH e;unfold SlotIs at t;rw[←e1,←e2]at t;exact t
    ·rintro t h9 ⟨b',sl',rfl,nd9,hs9,hu9⟩
     refine⟨⟨by omega,(by show((A.length:Nat):Int)≤((sT.len:Nat):Int);omega)⟩,?_⟩;rw[aV];have hsB:=Sl.sub ((hsT.upd k711 fun _ h=>h.elim).upd hu9 fun _ h=>h.elim) (l:=A.length) (hi:=(A++B).length) (m:=sT.cap) (c:=sT.cap-A.length) (by simp) (aq _) (by rw[ac];omega)
     rw[gh,ac,Nat.add_sub_cancel_left,cd]at hsB;have elen:sT.len-A.length=B.length:=by omega
     rw[elen];refine hI (D++A,B) _ _ ⟨by rw[e3,hAB,au],r5,hsB,by simp only;omega,⟨b',sl',rfl,nd9,hs9⟩,k611.tr hu9⟩ ?_
     simp only[hAB,ac];omega
  ·have hT:T= []:=by
    refine aA.1 ?_;simp only at hle;omega
   subst hT;rw[aJ]at e3;subst e3;exact hk h7 b ⟨sl,nd,fun c hc=>by
    have:=hsl c hc
    rw[hRp c]at this
    exact this⟩ k07
end Go.Proofs
namespace Go.Proofs
open Go Go.Lift
theorem UZ{z:Hs}{M:Nat→Prop}{h:ae}{so:SliceV}{out:List Pr}{p:Pr}{K:SliceV→ae→Prop}(ho:OwnS (An z) 3 bW M h so out)(hM:∀b,h.size≤b→M b)(hn:out.length+1≤1000000000)
  (hk:∀s' h',OwnS (An z) 3 bW M h' s' (out++ [p])→Upd M h h'→K s' h'):
  ∃xs,SRow (hnew h (An z p) bW) (some (aE h)) (1*3) xs∧AppP (some [.string (⟨#[]⟩:ByteArray),.string (⟨#[]⟩:ByteArray),.int .u64 0]) 3 40 bW so.a so.len so.cap 1 xs (hnew h (An z p) bW) K:=by
 have k:=Upd.hnew No h (An z p) bW;have h1:OwnS (An z) 3 bW (fun _=>True) (hnew h (An z p) bW) ⟨some (aE h),1,1⟩ [p]:=⟨rfl,KY z,aq _,.inr ⟨h.size,[],rfl,trivial,cq ..,rfl⟩⟩
 refine⟨_,(h1.sl (W:=No) fun _ _ _ h=>h).srow,?_⟩
 refine AppP.own (ys:= [p]) (ho.upd k fun _ _ h=>h) rfl rfl rfl rfl (by omega) (by simp only[aI];omega) (hM _ (by rw[iM];omega)) fun s' h' ho' hu=>?_
 exact hk s' h' ho' ((Upd.hnew M h _ _).tr hu)
theorem VQ(l:List Pr):(y4 l).length≤l.length:=by
 have:∀(l acc:List Pr),(l.foldl (fun acc p=>gC p acc) acc).length≤acc.length+l.length:=by
  intro l;induction l with
  |nil=>intro acc;simp
  |cons p l ih=>
   intro acc;rw[jh];have h1:=ih (gC p acc);have h2:=yP p (l:=acc);simp only[ar];omega
 have:=this l [];unfold y4;simpa using this
theorem SK{N:Nat}(st:StP N)(sh:StH N)(hN:N≤100000){z:Hs}{W W0:Nat→Prop}{h:ae}{s:SliceV}{l:List Pr}(hs:Sl eg 2 W0 h s l)(hW:∀y,W y→y<h.size)(hn:l.length≤N){K:Option Addr→ae→Prop}
  (hk:∀h' b,TrieAt W z h' 13 b (y4 l)→Upd No h h'→K (some ⟨b,0,none⟩) h'):HC PG vg [.agg #[.int .u64 z.k0,.int .u64 z.k1,.int .u64 z.mask],.slice s.a s.len s.cap] [.c .ptr] K h:=by
 refine Iy (z.k0,z.k1,z.mask) s ?_;unfold zQ cB af nv zt vr aO aw kZ ij LT NT VD eW;refine aS fun h1 b1 k1=>?_
 refine FI st (by omega) (W':=No) (hs.upd k1 fun _ h=>h.elim) (fun _ h=>h.elim) (by omega) fun e h3 hse _ k3=>?_
 have c3:=k3.get0 b1;have k03:=k1.tr k3;have hln:=VQ l;have hrs:=CU l;generalize y4 l=L at*;have hlen:=hse.len;refine LoopP.ghost (fun(g:List Pr×List Pr) (t:SliceV×Int) h'=>t.2=(g.1.length:Int)∧L=g.1++g.2∧OwnS (An z) 3 bW (fun b=>h3.size≤b) h' t.1 g.1∧Upd No h3 h') (fun g=>g.2.length) ([],L) ⟨rfl,rfl,OwnS.nil (KY z),Upd.refl _ _⟩ ?_
 rintro I ⟨D,T⟩ ⟨sa,ti⟩ h6 ⟨e2,e3,ho,hu⟩ hI;simp only at e2 e3 ho;subst e2 e3;simp only[ac]at hlen hln;have hlD:=ho.len;refine az (fun hlt=>?_) fun hge=>?_
 ·rcases T with _|⟨p,T⟩
  ·simp only[aL]at hlen;simp only at hlt;omega
  simp only[ar]at hlen hln;refine Join.intro (fun t h'=>OwnS (An z) 3 bW (fun b=>h3.size≤b) h' t (D++ [p])∧Upd No h3 h') (fun R hR=>?_) ?_
  ·obtain⟨a,ha,_,hv⟩:=(hse.upd hu fun _ h=>h.elim).at (i:=D.length) (x:=p) (by rw[aX (aq _),gj];rfl)
   refine⟨⟨by omega,by simp only;omega⟩,a,ha,p.1,hv 0 _ rfl,p.2,hv 1 _ rfl,?_⟩
   refine KP (p:=p) fun h8 b8 k8=>?_
   have c8:=(hu.tr k8).get0 c3;refine⟨p.1,vc b8 0,p.2,vc b8 1,_,vc c8 0,_,vc c8 1,_,vc c8 2,p.1,vc b8 0,?_⟩;refine uj fun h9 k9=>?_
   have b9:=k9.get0 b8;refine⟨⟨vc b9 0,vc b9 1⟩,bE ?_⟩;have hu9:=(hu.tr k8).tr k9;have z9:=hu9.size;refine UZ (z:=z) (p:=p) (((ho.upd k8 fun _ _ h=>h).upd k9 fun _ _ h=>h)) (fun b hb=>by omega) (by omega) fun s' h' ho' hu'=>hR _ _ ⟨ho',hu9.trans hu' fun b hb=>.inr hb⟩
  ·rintro s' h' ⟨ho',hu'⟩
   have ew:IntKind.wrap .i64 ((D.length:Int)+1)=((D++ [p]).length:Int):=by rw[ac,aI,gD (by omega)];omega
   rw[ew];exact hI (D++ [p],T) _ _ ⟨rfl,by simp,ho',hu'⟩ (by simp)
 ·have hT:T= []:=aA.1 (by simp only at hge;omega)
  subst hT;rw[aJ]at hrs;rw[aJ]at hk;have k06:=k03.tr hu;exact VG sh hN 13 (aq _) (ho.sl fun _ _ _ h=>h) (fun y hy=>aQ (hW y hy) k06.size) hrs (by simp only[aL]at hln;omega) fun h' b t hu'=>hk h' b t (k06.tr hu')
theorem StP.less{N M:Nat}(h:StP N)(hm:M≤N):StP M:=fun w _ _ _ hc _ _ _ ho hi hn _ hk=>h w hc ho hi (bh hn hm) hk
theorem StH.less{N M:Nat}(h:StH N)(hm:M≤N):StH M:=fun w _ _ _ hc _ _ _ ho hi hn _ hk=>h w hc ho hi (bh hn hm) hk
end Go.Proofs
namespace Go.Proofs
open Go Go.Lift
theorem wE{a b:ByteArray}:kl a b↔Op.bytesLess a.data.toList b.data.toList=true:=by unfold kl;rw[ByteArray.toList_eq,ByteArray.toList_eq]
theorem yW{a b:UInt8}{x y:List UInt8}:Op.bytesLess (a::x) (b::y)=true↔a.toNat<b.toNat∨(a=b∧Op.bytesLess x y=true):=by
 simp only[Op.bytesLess,Bool.or_eq_true,decide_eq_true_iff,bC,beq_iff_eq,UInt8.lt_iff_toNat_lt]
theorem Pn(x:List UInt8):Op.bytesLess x []=false:=by cases x<;>rfl
theorem Li{x y:List UInt8}:∀pre:List UInt8,Op.bytesLess (pre++x) (pre++y)=true↔Op.bytesLess x y=true
 | []=>Iff.rfl
 |a::pre=>by rw[cK,cK,yW,Li pre];simp
theorem Y2{x y:List UInt8}(h:Op.bytesLess x y=true)(hx:x≠[])(hy:y≠[]):hd x≤hd y:=by
 match x,y,hx,hy with
 |a::x,b::y,_,_=>
  show a.toNat≤b.toNat
  rcases yW.1 h with h|⟨rfl,_⟩<;>omega
theorem L8:∀(t:Nat) {f p g:List UInt8},t≤cm f g→(f=p∨Op.bytesLess f p=true)→(p=g∨Op.bytesLess p g=true)→p.take t=f.take t∧t≤p.length
 |0,f,p,g,_,_,_=>by simp
 |t+1,[],p,g,h,_,_=>by simp[cm]at h
 |t+1,a::f,p,[],h,_,_=>by simp[cm]at h
 |t+1,a::f,p,b::g,h,h1,h2=>by
  unfold cm at h;split at h
  ·rename_i e
   subst e;rcases p with _|⟨c,p⟩
   ·rcases h1 with h1|h1
    ·cases h1
    ·rw[Pn]at h1;cases h1
   ·have hc:c=a:=by
     rcases h1 with h1|h1
     ·exact(fe.inj h1).1.symm
     ·rcases h2 with h2|h2
      ·exact(fe.inj h2).1
      ·have q1:=yW.1 h1
       have q2:=yW.1 h2;rcases q1 with q1|⟨q1,_⟩
       ·rcases q2 with q2|⟨q2,_⟩
        ·omega
        ·exact q2
       ·exact q1.symm
    subst hc;have:=L8 t (f:=f) (p:=p) (g:=g) (by omega) (h1.imp (fun h=>(fe.inj h).2) fun h=>by
     rcases yW.1 h with h|⟨_,h⟩
     ·omega
     ·exact h) (h2.imp (fun h=>(fe.inj h).2) fun h=>by
     rcases yW.1 h with h|⟨_,h⟩
     ·omega
     ·exact h)
    rw[dW,dW,this.1,ar];exact⟨rfl,by omega⟩
  ·omega
theorem Rb:∀f:List UInt8,cm f f=f.length
 | []=>rfl
 |a::f=>by unfold cm;rw[if_pos rfl,Rb f];rfl
abbrev ky(p:Pr):List UInt8:=p.1.data.toList
def WR(l:List Pr)(pre k:List UInt8)(v:ByteArray):Prop:=∃p∈l,ky p=pre++k∧p.2=v
structure Beg(l:List Pr)(pre:List UInt8):Prop where
 up:bO l
 at_:∀p∈l,(ky p).take pre.length=pre∧pre.length<(ky p).length
theorem Beg.sub{l l':List Pr}{pre:List UInt8}(b:Beg l pre)(h:l'.Sublist l):Beg l' pre:=⟨b.up.sublist h,fun p hp=>b.at_ p (h.subset hp)⟩
theorem Beg.split{l:List Pr}{pre:List UInt8}(b:Beg l pre){p:Pr}(hp:p∈l):ky p=pre++(ky p).drop pre.length∧(ky p).drop pre.length≠[]:=by
 obtain⟨h1,h2⟩:=b.at_ p hp;refine⟨?_,fun e=>?_⟩
 ·conv=>lhs;rw[←aK pre.length (ky p),h1]
 ·have:=congrArg fg e
  rw[aY,aL]at this;omega
def bt(n:Nat)(p:Pr):Nat:=hd ((ky p).drop n)
theorem Beg.mono{A B:List Pr}{pre:List UInt8}(b:Beg (A++B) pre){x y:Pr}(hx:x∈A)(hy:y∈B):bt pre.length x≤bt pre.length y:=by
 have h:=(cl.1 b.up).2.2 x hx y hy;rw[wE]at h;obtain⟨e1,n1⟩:=b.split (cF B hx);obtain⟨e2,n2⟩:=b.split (c7 A hy);change Op.bytesLess (ky x) (ky y)=true at h;rw[e1,e2,Li]at h;exact Y2 h n1 n2
theorem JR{l:List Pr}{pre:List UInt8}{f g:Pr}(b:Beg l pre)(hf:∃r,l=f::r)(hg:l.getLast? =some g)(hb:bt pre.length f=bt pre.length g):
  pre.length<cm (ky f) (ky g)∧cm (ky f) (ky g)≤(ky f).length∧(∀p∈l,(ky p).take (cm (ky f) (ky g))=(ky f).take (cm (ky f) (ky g)))∧(∀p∈l,p=f∨cm (ky f) (ky g)<(ky p).length)∧
   (cm (ky f) (ky g)<(ky f).length→cm (ky f) (ky g)<(ky g).length∧hd ((ky f).drop (cm (ky f) (ky g)))≠hd ((ky g).drop (cm (ky f) (ky g)))):=by
 obtain⟨r,rfl⟩:=hf;have hfm:f∈f::r:=av ..;have hgm:g∈f::r:=iE hg;obtain⟨e1,n1⟩:=b.split hfm;obtain⟨e2,n2⟩:=b.split hgm;have hcp:pre.length<cm (ky f) (ky g):=by
  have:∀(q x y:List UInt8),cm (q++x) (q++y)=q.length+cm x y:=by
   intro q x y;induction q with
   |nil=>simp
   |cons a q ih=>simp only[cK,cm,if_true,ih,ar];omega
  have h1:=this pre ((ky f).drop pre.length) ((ky g).drop pre.length);rw[←e1,←e2]at h1;have h2:=UO n1 n2 hb;omega
 have hle:=Rc (ky f) (ky g);have hfp:∀p∈f::r,ky f=ky p∨Op.bytesLess (ky f) (ky p)=true:=fun p hp=>by
  rcases aB.1 hp with rfl|hp
  ·exact .inl rfl
  ·exact .inr (wE.1 ((aD.1 b.up).1 p hp))
 have hpg:∀p∈f::r,ky p=ky g∨Op.bytesLess (ky p) (ky g)=true:=fun p hp=>by
  rcases List.eq_nil_or_concat (f::r)with h|⟨l',y,h⟩
  ·cases h
  ·rw[List.concat_eq_append]at h
   rw[h,List.getLast?_concat]at hg;cases hg;have hup:=b.up;rw[h]at hp hup;rcases bG.1 hp with hp|hp
   ·exact .inr (wE.1 ((cl.1 hup).2.2 p hp g (aF.2 rfl)))
   ·rw[aF.1 hp];exact .inl rfl
 have hsw:∀p∈f::r,(ky p).take (cm (ky f) (ky g))=(ky f).take (cm (ky f) (ky g))∧cm (ky f) (ky g)≤(ky p).length:=fun p hp=>L8 _ (aq _) (hfp p hp) (hpg p hp)
 have hne:∀p∈f::r,p=f∨cm (ky f) (ky g)<(ky p).length:=fun p hp=>by
  obtain⟨h1,h2⟩:=hsw p hp;rcases bT (cm (ky f) (ky g)) (ky p).length with h|h
  ·exact .inr h
  ·left
   have hl:(ky p).length=cm (ky f) (ky g):=by omega
   have e:ky p=(ky f).take (cm (ky f) (ky g)):=by rw[←h1,←hl,cd]
   rcases aB.1 hp with rfl|hp
   ·rfl
   ·have hk:=wE.1 ((aD.1 b.up).1 p hp)
    change Op.bytesLess (ky f) (ky p)=true at hk;exfalso;have e3:ky f=ky p++(ky f).drop (cm (ky f) (ky g)):=by rw[e,aK]
    have h4:Op.bytesLess (ky p++(ky f).drop (cm (ky f) (ky g))) (ky p++ [])=true:=by rw[aJ,←e3];exact hk
    rw[Li,Pn]at h4;cases h4
 refine⟨hcp,hle.1,fun p hp=>(hsw p hp).1,hne,fun hlt=>?_⟩
 have hgl:cm (ky f) (ky g)<(ky g).length:=by
  rcases hne g hgm with h|h
  ·exfalso
   rw[h,Rb]at hlt;omega
  ·exact h
 exact⟨hgl,Lf _ _ hlt hgl⟩
theorem Pl{l l':List Pr}{pre:List UInt8}{f g:Pr}(b:Beg l pre)(hf:∃r,l=f::r)(hg:l.getLast? =some g)(hb:bt pre.length f=bt pre.length g){F:Fo}(hc:gJ F)
  (hl':l'=if(ky f).length=cm (ky f) (ky g)then l.drop 1 else l)(hF:∀k v,vO F k v↔WR l' ((ky f).take (cm (ky f) (ky g))) k v){w:Option ByteArray}(hw:w=if(ky f).length=cm (ky f) (ky g)then some f.2 else none){lab:List UInt8}(hlab:lab=((ky f).take (cm (ky f) (ky g))).drop pre.length):
  S4 (lab,w,F)∧hd lab=bt pre.length f∧∀k v,AI (lab,w,F) k v↔WR l pre k v:=by
 obtain⟨h1,h2,h3,h4,h5⟩:=JR b hf hg hb;obtain⟨r,rfl⟩:=hf;have hfm:f∈f::r:=av ..;have hgm:g∈f::r:=iE hg;generalize cm (ky f) (ky g)=to at*;have epre:pre++lab=(ky f).take to:=by
  have:=(b.at_ f hfm).1;rw[hlab];conv=>rhs;rw[←aK pre.length ((ky f).take to),List.take_take,bN (by omega),this]
 have hlab0:lab≠[]:=fun e=>by
  have:=congrArg fg hlab;rw[e,aL,aY,List.length_take]at this;omega
 have hin:∀k v,AI (lab,w,F) k v↔WR (f::r) pre k v:=by
  intro k v;constructor
  ·rintro⟨q,e,⟨rfl,e2⟩|e2⟩
   ·simp only at e e2
    rw[aJ]at e;subst e;rw[hw]at e2;split at e2
    ·rename_i hto
     cases e2;refine⟨f,hfm,?_,rfl⟩;rw[epre,←hto,cd]
    ·cases e2
   ·simp only at e e2
    obtain⟨p,hp,e3,rfl⟩:=(hF q v).1 e2;refine⟨p,?_,?_,rfl⟩
    ·rw[hl']at hp
     split at hp
     ·exact aC _ hp
     ·exact hp
    ·rw[e3,e,←au,epre]
  ·rintro⟨p,hp,e,rfl⟩
   have hpt:=h3 p hp;have ep:ky p=pre++(lab++(ky p).drop to):=by
    rw[←au,epre,←hpt,aK]
   have ek:k=lab++(ky p).drop to:=List.append_cancel_left (e.symm.trans ep);refine⟨(ky p).drop to,ek,?_⟩;by_cases hto:(ky f).length=to
   ·rw[if_pos hto]at hw hl'
    rcases aB.1 hp with rfl|hp
    ·left
     refine⟨List.drop_eq_nil_of_le (by omega),?_⟩;simp only;rw[hw]
    ·right
     refine(hF _ _).2 ⟨p,by rw[hl'];exact hp,?_,rfl⟩
     rw[←hpt,aK]
   ·rw[if_neg hto]at hw hl'
    right;refine(hF _ _).2 ⟨p,by rw[hl'];exact hp,?_,rfl⟩
    rw[←hpt,aK]
 refine⟨⟨hlab0,?_,hc⟩,?_,hin⟩
 ·by_cases hto:(ky f).length=to
  ·left;simp only;rw[hw,if_pos hto];rfl
  ·have hlt:to<(ky f).length:=by omega
   obtain⟨hgl,hne⟩:=h5 hlt;refine(GP hc).2 (.inr ⟨(ky f).drop to,(ky g).drop to,f.2,g.2,.inr ?_,.inr ?_,fun e=>?_,fun e=>?_,hne⟩)
   ·exact(hF _ _).2 ⟨f,by rw[hl',if_neg hto];exact hfm,(aK ..).symm,rfl⟩
   ·exact(hF _ _).2 ⟨g,by rw[hl',if_neg hto];exact hgm,by rw[←h3 g hgm,aK],rfl⟩
   ·have:=congrArg fg e
    rw[aY,aL]at this;omega
   ·have:=congrArg fg e
    rw[aY,aL]at this;omega
 ·have e:=(b.split hfm).1
  unfold bt;have e2:(ky f).drop pre.length=lab++(ky f).drop to:=by
   have h6:ky f=pre++(lab++(ky f).drop to):=by rw[←au,epre,aK]
   conv=>lhs;rw[h6]
   rw[gh]
  rw[e2,qB hlab0]
structure Row(L:List Bn)(D T:List Pr)(pre:List UInt8):Prop where
 can:∀n∈L,S4 n
 up:L.Pairwise fun m n=>hd m.1<hd n.1
 lo:∀n∈L,∀p∈T,hd n.1<bt pre.length p
 got:∀k v,(∃n∈L,AI n k v)↔WR D pre k v
theorem Row.nil(T:List Pr)(pre:List UInt8):Row [] [] T pre:=⟨fun n h=>(by cases h),ee,fun n h=>(by cases h),fun k v=>⟨fun⟨n,h,_⟩=>(by cases h),fun⟨p,h,_⟩=>(by cases h)⟩⟩
theorem Row.more{L:List Bn}{D A B:List Pr}{pre:List UInt8}{n:Bn}{p:Pr}(r:Row L D (A++B) pre)(bg:Beg (A++B) pre)(hp:p∈A)(hA:∀a∈A,bt pre.length a=bt pre.length p)(hB:∀b B',B=b::B'→bt pre.length b≠bt pre.length p)(hc:S4 n)(hn:hd n.1=bt pre.length p)(hg:∀k v,AI n k v↔WR A pre k v):Row (L++ [n]) (D++A) B pre:=by
 refine⟨fun m hm=>?_,cl.2 ⟨r.up,cC ..,fun a ha b hb=>?_⟩,fun m hm q hq=>?_,fun k v=>?_⟩
 ·rcases bG.1 hm with hm|hm
  ·exact r.can m hm
  ·rw[aF.1 hm];exact hc
 ·rw[aF.1 hb,hn]
  exact r.lo a ha p (cF _ hp)
 ·rcases bG.1 hm with hm|hm
  ·exact r.lo m hm q (c7 _ hq)
  ·rw[aF.1 hm,hn]
   rcases B with _|⟨b0,B'⟩
   ·cases hq
   have h1:=hB b0 B' rfl;have h2:=bg.mono hp (av (a:=b0) (l:=B'));rcases aB.1 hq with rfl|hq
   ·omega
   ·have bg':Beg ([b0]++B') pre:=bg.sub (List.sublist_append_right A _)
    have:=bg'.mono (aF.2 rfl) hq;omega
 ·constructor
  ·rintro⟨m,hm,hi⟩
   rcases bG.1 hm with hm|hm
   ·obtain⟨q,hq,e⟩:=(r.got k v).1 ⟨m,hm,hi⟩
    exact⟨q,cF _ hq,e⟩
   ·rw[aF.1 hm]at hi
    obtain⟨q,hq,e⟩:=(hg k v).1 hi;exact⟨q,c7 _ hq,e⟩
  ·rintro⟨q,hq,e⟩
   rcases bG.1 hq with hq|hq
   ·obtain⟨m,hm,hi⟩:=(r.got k v).2 ⟨q,hq,e⟩
    exact⟨m,cF _ hm,hi⟩
   ·exact⟨n,c7 _ (aF.2 rfl),(hg k v).2 ⟨q,hq,e⟩⟩
theorem Row.done{L:List Bn}{D:List Pr}{pre:List UInt8}(r:Row L D [] pre):gJ (.ofL L)∧∀k v,vO (.ofL L) k v↔WR D pre k v:=by
 refine⟨gc.2 ?_,fun k v=>?_⟩
 ·rw[Fo.to_of];exact⟨r.up,r.can⟩
 ·rw[ju,Fo.to_of];exact r.got k v
end Go.Proofs
namespace Go.Proofs
open Go Go.Lift
theorem OW(s:ByteArray):s.data.toList.length=s.size:=by simp
theorem Kid.less{W W':Nat→Prop}{h:ae}(hm:∀b,W' b→W b∨h.size≤b){a:Option Addr}{n:Bn}:Kid W h a n→Kid W' h a n
 |⟨b,sl,e1,e2,e3⟩=>⟨b,sl,e1,e2,e3.less hm⟩
theorem Kid.updM{W M:Nat→Prop}{h h':ae}(k:Upd M h h')(hm:∀b,M b→W b∨h.size≤b){a:Option Addr}{n:Bn}:Kid W h a n→Kid W h' a n
 |⟨b,sl,e1,e2,e3⟩=>⟨b,sl,e1,e2,e3.updM k hm⟩
theorem RxL.less{W W':Nat→Prop}{h:ae}(hm:∀b,W' b→W b∨h.size≤b){ks:List (Option Addr)}{L:List Bn}(r:RxL W h ks L):RxL W' h ks L:=⟨r.1,fun p hp=>(r.2 p hp).less hm⟩
theorem RxL.updM{W M:Nat→Prop}{h h':ae}(k:Upd M h h')(hm:∀b,M b→W b∨h.size≤b){ks:List (Option Addr)}{L:List Bn}(r:RxL W h ks L):RxL W h' ks L:=⟨r.1,fun p hp=>(r.2 p hp).updM k hm⟩
theorem UU{p:Pr}{n:Nat}(h:n<(ky p).length):∃b:UInt8,p.1[n]? =some b∧b.toNat=bt n p:=by
 rw[MW];refine⟨(ky p)[n],ag h,?_⟩;unfold bt hd;rw[List.drop_eq_getElem_cons h];rfl
end Go.Proofs
namespace Go.Proofs
open Go Go.Lift
theorem xP{h:ae}{t:Tr}{k:ae→Prop}(hk:∀h',h'[h.size]? =some (.cells (ly t).toArray bI (0,0))→Upd No h h'→k h'):
  At (hnew h (ly HL) bI) (fun h1=>r9 h1 (some (aE h)) 0 (ly t)∧At (gG h1 (aE h) 0 (ly t)) k):=
 aS fun h1 b1 k1=>cO (c:=ly HL) (vs:=ly t) b1 rfl fun h2 b2 hu2=>hk h2 b2 (k1.own hu2 (aq _))
theorem vh{N:Nat}(st:StP N)(sh:StH N)(hN:N≤100000){W W0:Nat→Prop}{x:Hs}{h:ae}{s:SliceV}{l:List Pr}(hs:Sl eg 2 W0 h s l)(hW:∀y,W y→y<h.size)(hn:l.length≤N)(hB:∀p∈l,p.1.size≤256∧p.2.size≤4096){K:Tr×Int→ae→Prop}
  (hk:∀h' t,TreeIs W h' 0 x t (y4 l)→Upd No h h'→K (t,0) h'):HC PG pU [.int .i64 0,.agg #[.int .u64 x.k0,.int .u64 x.k1,.int .u64 x.mask],.slice s.a s.len s.cap] [.agg [.int .i64,.int .u64,.int .u64,.int .u64,.ptr,.ptr],.c (.int .i64)] K h:=by
 refine LB 0 (x.k0,x.k1,x.mask) s ?_;unfold CF cB aU af aH di nv zt vr xB pj aO aw kZ ij vE cr Am;refine aS fun h1 b1 k1=>aS fun h2 b2 k2=>?_
 have z1:=aZ b1;have z2:=aZ b2;have s1:h.size≤h1.size:=k1.size;have c1:=k2.get0 b1;have k02:=k1.tr k2;refine⟨_,vc c1 0,_,vc c1 1,_,vc c1 2,?_⟩;refine Qq (W:=No) (x:=x) (fun _ h=>h.elim) (.inl rfl) fun h3 t3 _ k3=>?_
 refine xP (t:=t3) fun h4 b4 k4=>?_
 refine aj.2 ?_;have k24:=k3.tr k4;have k04:=k02.tr k24;have hlen:=hs.len;refine LoopP.ghost (fun(i:Nat) (t:Int) h'=>t=(i:Int)∧i≤l.length∧Upd No h4 h') (fun i=>l.length-i) 0 ⟨rfl,aW _,Upd.refl _ _⟩ ?_
 rintro I i t h5 ⟨rfl,hi,k5⟩ hI;have k05:=k04.tr k5;refine az (fun hlt=>?_) fun hge=>?_
 ·have hlt:i<l.length:=by omega
  obtain⟨a,ha,_,hv⟩:=(hs.upd k05 fun _ h=>h.elim).at (ag hlt)
  have hb:=hB _ (bw hlt);refine⟨⟨by omega,by omega⟩,a,ha,l[i].1,hv 0 _ rfl,l[i].2,hv 1 _ rfl,?_⟩
  refine KP (p:=l[i]) fun h6 b6 k6=>⟨_,vc b6 0,_,vc b6 1,Jg hb.1 hb.2 (aj.2 ?_)⟩
  rw[lE hlt (by omega)];exact hI (i+1) _ _ ⟨rfl,hlt,k5.tr k6⟩ (by omega)
 ·have hW5:=Pro.lt (h2:=h2) hW k02
  have hW5':∀y,Pro W h h2 y→y<h5.size:=fun y hy=>aQ (hW5 y hy) (k24.tr k5).size
  have d2:=(k24.tr k5).get0 b2;have d1:=(k24.tr k5).get0 c1;refine aj.2 ⟨_,vc d1 0,_,vc d1 1,_,vc d1 2,_,vc d1 0,_,vc d1 1,_,vc d1 2,?_⟩;refine SK st sh hN (z:=x) (hs.upd k05 fun _ h=>h.elim) hW5' hn fun h6 b6 t6 k6=>?_
  have e1:=k6.get0 d1;refine⟨⟨vc e1 0,vc e1 1,vc e1 2⟩,?_⟩;refine D1 (x:=x) (.inr ⟨b6,rfl,t6⟩) (fun y hy=>aQ (hW5' y hy) k6.size) fun h7 t7 i7 k7=>?_
  refine cO (c:=ly HL) (vs:=ly t7) (k7.get0 (k6.get0 d2)) rfl fun h8 b8 hu8=>?_
  refine⟨_,vc b8 0,_,vc b8 1,_,vc b8 2,_,vc b8 3,_,vc b8 4,_,vc b8 5,?_⟩;exact hk h8 t7 ((i7.updM hu8 (fun y hy=>.inl (.inr (by have hy:y=h1.size:=hy;omega)))).less Pro.sub) (((k05.tr k6).tr k7).own hu8 s1)
end Go.Proofs
namespace Go.Proofs
open Go Go.Lift
theorem BK:Few 0 []:=⟨.nil,aq _,fun p hp=>by cases hp⟩
theorem YX(s:ByteArray):((0:Int)≤(if 30<(s.size:Int)then 30 else(s.size:Int))∧(if 30<(s.size:Int)then 30 else(s.size:Int))≤((s.size:Nat):Int))∧s.extract 0 ((if 30<(s.size:Int)then 30 else(s.size:Int)).toNat)=BV s:=by
 unfold BV;split
 ·refine⟨⟨by omega,by omega⟩,?_⟩
  rw[Nat.min_eq_right (by omega)];rfl
 ·refine⟨⟨by omega,by omega⟩,?_⟩
  rw[bN (by omega),aV]
theorem QM{h:ae}{r:Rt}{k:ae→Prop}(hk:∀h',h'[h.size]? =some (.cells (nU r).toArray cG (0,0))→Upd No h h'→k h'):
  At (hnew h (nU NR) cG) (fun h1=>r9 h1 (some (aE h)) 0 (nU r)∧At (gG h1 (aE h) 0 (nU r)) k):=
 aS fun h1 b1 k1=>cO (c:=nU NR) (vs:=nU r) b1 rfl fun h2 b2 hu2=>hk h2 b2 (k1.own hu2 (aq _))
end Go.Proofs
namespace Go.Proofs
open Go Go.Lift
abbrev Yj:List Value:= [.string (⟨#[]⟩:ByteArray),.string (⟨#[]⟩:ByteArray),.string (⟨#[]⟩:ByteArray),.bool false,.bool false]
theorem YL{h:ae}{t:TypeId}{c:Ch}{k:ae→Prop}(hk:∀h',h'[h.size]? =some (.cells (EV c).toArray t (0,0))→Upd No h h'→k h'):
  At (hnew h Yj t) fun h8=>r9 h8 (some (aE h)) 0 (EV c)∧At (gG h8 (aE h) 0 (EV c)) k:=
 aS fun h1 b1 k1=>cO (c:=Yj) (vs:=EV c) b1 rfl fun h2 b2 hu2=>hk h2 b2 (k1.own hu2 (aq _))
end Go.Proofs
namespace Go.Proofs
open Go Go.Lift
abbrev bA:ByteArray:=⟨#[97]⟩
abbrev bB:ByteArray:=⟨#[98]⟩
theorem Zf:kl bA bB:=by rw[wE];decide
theorem Y1:bB≠bA:=fun h=>by
 have:=Zf;rw[h]at this;exact cg _ this
end Go.Proofs
namespace Go.Proofs
open Go Go.Lift
abbrev b1:ByteArray:=⟨#[49]⟩
abbrev b2:ByteArray:=⟨#[50]⟩
abbrev b3:ByteArray:=⟨#[51]⟩
theorem Qs(p:Pr):y4 [p]= [p]:=rfl
theorem VP{v w:ByteArray}:y4 [(bA,v),(bB,w)]= [(bA,v),(bB,w)]:=by
 unfold y4;rw[jh,jh,List.foldl_nil];have e1:gC (bA,v) []= [(bA,v)]:=rfl;rw[e1,fX,if_pos Zf];rfl
theorem IX{v w:ByteArray}:bO [(bA,v),(bB,w)]:=aD.2 ⟨fun p hp=>by rw[aF.1 hp];exact Zf,cC ..⟩
theorem RG{v w:ByteArray}(hv:v.size≤1)(hw:w.size≤1):∀p∈[(bA,v),(bB,w)],p.1.size≤40∧p.2.size≤40:=fun p hp=>by
 rcases aB.1 hp with rfl|hp
 ·exact⟨(by decide:bA.size≤40),by simp only;omega⟩
 ·rw[aF.1 hp]
  exact⟨(by decide:bB.size≤40),by simp only;omega⟩
theorem IS{v:ByteArray}(hv:v.size≤1):∀p∈[(bA,v)],p.1.size≤40∧p.2.size≤40:=fun p hp=>by
 rw[aF.1 hp];exact⟨(by decide:bA.size≤40),by simp only;omega⟩
end Go.Proofs
namespace Go.Proofs
open Go Go.Lift
def look(l:List Pr)(k:ByteArray):Option ByteArray:=(l.find? fun p=>decide (p.1=k)).map (·.2)
theorem Jp{l:List Pr}{k:ByteArray}(h:dX l k=false):look l k=none:=by
 unfold look;rw[Option.map_eq_none_iff,List.find?_eq_none];intro p hp;unfold dX at h;rw[qj]at h;exact h p hp
theorem vC:∀{l:List Pr} {k v:ByteArray},bO l→(k,v)∈l→look l k=some v
 |p::l,k,v,hr,h=>by
  have hr:=aD.1 hr;unfold look;rw[oR];rcases aB.1 h with e|h
  ·subst e;simp
  ·have hne:p.1≠k:=fun e=>by
    have:=hr.1 _ h;simp only at this;rw[e]at this;exact cg _ this
   rw[decide_eq_false hne];exact vC hr.2 h
theorem QS{l:List Pr}(hr:bO l){k v:ByteArray}(h1:dX l k=true→(k,v)∈l)(h2:dX l k=false→v=⟨#[]⟩):((look l k).getD ⟨#[]⟩,(look l k).isSome)=(v,dX l k):=by
 cases ht:dX l k with
 |true=>rw[vC hr (h1 ht)];rfl
 |false=>rw[Jp ht,h2 ht];rfl
theorem Si{x:Hs}{lev:Nat}{l:List Pr}{k:ByteArray}:look (part x lev (ck x lev k) l) k=look l k:=by
 unfold look part;congr 1
 rw[List.find?_filter];congr 1
 funext p;by_cases e:p.1=k
 ·rw[e];simp
 ·simp[e]
theorem Na{W:Nat→Prop}{x:Hs}{h:ae}{b:Nat}{l:List Pr}(t:TrieAt W x h 13 b l)(hW:∀y,W y→y<h.size)(hr:bO l)(hn:l.length≤1000000)(k:ByteArray){K:ByteArray×Bool→ae→Prop}
  (hk:∀h',Upd No h h'→K ((look l k).getD ⟨#[]⟩,(look l k).isSome) h'):HC PG yl [.agg #[.int .u64 x.k0,.int .u64 x.k1,.int .u64 x.mask],.pointer (some ⟨b,0,none⟩),.string k] [.c .str,.c .bool] K h:=by
 refine NC (x.k0,x.k1,x.mask) (some ⟨b,0,none⟩) k ?_;unfold EM af nv zt vr aw kZ cr uV wq sA A0 nn eW nf rZ;refine aS fun h1 b1 k1=>⟨_,vc b1 0,_,vc b1 1,_,vc b1 2,?_⟩
 refine uj fun h2 k2=>?_
 have k12:=k1.tr k2;refine Qt (.inr ⟨b,rfl,TrieAt.upd0 k12 t⟩) (fun y hy=>aQ (hW y hy) k12.size) fun h3 b3 t3 k3 _=>?_
 have k13:=k12.tr k3;refine LoopP.ghost (fun(g:Nat×Nat×List Pr) (t:Option Addr×Int) h'=>t=(some ⟨g.2.1,0,none⟩,((13-g.1:Nat):Int))∧g.1≤13∧TrieAt W x h' g.1 g.2.1 g.2.2∧bO g.2.2∧g.2.2.length≤1000000∧look g.2.2 k=look l k∧Upd No h h') (fun g=>g.1) (13,b3,l)
  ⟨rfl,aq _,t3,hr,hn,rfl,k13⟩ ?_
 rintro I ⟨m,c,lm⟩ t h4 ⟨rfl,hm,tm,hrm,hnm,hlk,hu⟩ hI;simp only at hm tm hrm hnm hlk;rcases m with _|m
 ·obtain⟨sp,sk,ow,hb,_⟩:=BuckAt.ex tm
  refine iB hb (ay.2 (Ur tm hrm (by omega) k fun h5 v k5 e1 e2=>?_))
  have:=hk h5 (hu.tr k5);rw[←hlk,QS hrm e1 e2]at this;exact this
 ·obtain⟨s,nd,hs⟩:=tm
  have hs:∀c,c<32→SlotIs W x h4 m s c (part x (12-m) c lm):=hs;obtain⟨d,n,sp,sk,ow,hb,_⟩:=nd.ex;refine iB hb (aj.2 ?_);refine SJ (by omega) ?_;rw[show 13-(m+1)=12-m by omega]
  have hi:=BZ x (12-m) k;have hsi:=hs _ hi;have hlp:look (part x (12-m) (ck x (12-m) k) lm) k=look l k:=by rw[Si,hlk]
  have hrp:bO (part x (12-m) (ck x (12-m) k) lm):=je hrm;have hnp:(part x (12-m) (ck x (12-m) k) lm).length≤1000000:=bh lZ hnm;generalize part x (12-m) (ck x (12-m) k) lm=lp at hsi hlp hrp hnp;generalize ck x (12-m) k=i at hi hsi;refine Bu nd hi fun h5 k5=>?_
  refine qo fun h6 b6 k6=>?_
  have k46:=k5.tr k6;rcases hsi with⟨e0,e1,e2⟩|⟨p,e0,e1,e2⟩|⟨_,e1,kb,e2,tk⟩
  ·rw[e1]
   refine aj.2 (wD (nd.upd k46 fun _ h=>h.elim) hi ?_)
   rw[e2];refine ay.2 ?_;have:=hk h6 (hu.tr k46);rw[←hlp,e0]at this;exact this
  ·rw[e1]at b6⊢
   refine ay.2 ⟨p.1,vc b6 0,?_⟩;rw[gd];have:=hk h6 (hu.tr k46);rw[←hlp,e0]at this;by_cases e:p.1=k
   ·rw[decide_eq_true e]
    refine aj.2 ⟨p.2,vc b6 1,?_⟩;have e3:look [p] k=some p.2:=by unfold look;rw[oR,decide_eq_true e];rfl
    rw[e3]at this;exact this
   ·rw[decide_eq_false e]
    have e3:look [p] k=none:=by unfold look;rw[oR,decide_eq_false e];rfl
    rw[e3]at this;exact ay.2 this
  ·rw[e1]
   refine aj.2 (wD (nd.upd k46 fun _ h=>h.elim) hi ?_)
   rw[e2];refine aj.2 ?_;have ew:IntKind.wrap .i64 (((13-(m+1):Nat):Int)+1)=((13-m:Nat):Int):=by rw[gD (by omega)];omega
   rw[show 13-(m+1)=12-m by omega]at ew
   show I (some ⟨kb,0,none⟩,IntKind.wrap .i64 (((12-m:Nat):Int)+1)) h6
   rw[ew];exact hI (m,kb,lp) _ h6 ⟨rfl,by simp only;omega,TrieAt.upd0 k46 tk,hrp,hnp,hlp,hu.tr k46⟩ (by simp only;omega)
abbrev Sd:=ByteArray×Bool
abbrev XB(s:Sd):List Value:= [.string s.1,.bool s.2]
theorem Kv(a b:Sd):((a.1.toList==b.1.toList)&&((a.2==b.2)&&true))=decide (a=b):=by
 rw[gd];by_cases e:a=b
 ·subst e;simp
 ·rw[decide_eq_false e]
  obtain⟨a1,a2⟩:=a;obtain⟨b1,b2⟩:=b;simp only[Prod.mk.injEq]at e;rw[Bool.eq_false_iff];intro h;simp only[bC,decide_eq_true_iff,beq_iff_eq,and_true]at h;exact e h
theorem W7{h:ae}{t:TypeId}{s:Sd}{k:ae→Prop}(hk:∀h',h'[h.size]? =some (.cells (XB s).toArray t (0,0))→Upd No h h'→k h'):
  At (hnew h [.string (⟨#[]⟩:ByteArray),.bool false] t) fun h8=>r9 h8 (some (aE h)) 0 (XB s)∧At (gG h8 (aE h) 0 (XB s)) k:=
 aS fun h1 b1 k1=>cO (c:= [.string (⟨#[]⟩:ByteArray),.bool false]) (vs:=XB s) b1 rfl fun h2 b2 hu2=>hk h2 b2 (k1.own hu2 (aq _))
def xF(b o t:Sd)(p:Int):Sd×Bool:=if o=t∨t=b then(o,true)else if o=b then(t,true)else if p=1 then(o,false)else if p=2 then(t,false)else(b,false)
theorem xO{h:ae}{b:Nat}{t:TypeId}{c:List Value}{s:Sd}{g:Bool}{K:Sd×Bool→ae→Prop}(hb:h[b]? =some (.cells c.toArray t (0,0))) (hc:c.length=2) (hk:∀h',Upd (· =b) h h'→K (s,g) h'):
  r9 h (some ⟨b,0,none⟩) 0 [.string s.1,.bool s.2]∧At (gG h ⟨b,0,none⟩ 0 [.string s.1,.bool s.2]) (fun h'=>∃v1:ByteArray,aP h' (adr ⟨b,0,none⟩ 0)=some (.string v1)∧∃v2:Bool,aP h' (adr ⟨b,0,none⟩ 1)=some (.bool v2)∧K ((v1,v2),g) h'):=
 cO (c:=c) (vs:=XB s) hb (by rw[hc];rfl) fun h2 b2 hu2=>⟨s.1,vc b2 0,s.2,vc b2 1,hk h2 hu2⟩
theorem Uh{b o t:Sd}{p:Int}{h:ae}{K:Sd×Bool→ae→Prop}(hk:∀h',Upd No h h'→K (xF b o t p) h'):HC PG wQ [.agg #[.string b.1,.bool b.2],.agg #[.string o.1,.bool o.2],.agg #[.string t.1,.bool t.2],.int .i64 p] [.agg [.str,.bool],.c .bool] K h:=by
 refine Ly b o t p ?_;unfold CC di aw cT A6 vA CQ;refine aS fun h1 b1 k1=>aS fun h2 b2 k2=>aS fun h3 b3 k3=>aS fun h4 b4 k4=>?_
 have c1:=k4.get0 (k3.get0 (k2.get0 b1));have c2:=k4.get0 (k3.get0 b2);have c3:=k4.get0 b3;have s3:h.size≤h3.size:=((k1.tr k2).tr k3).size;have k04:Upd No h h4:=((k1.tr k2).tr k3).tr k4;have fin:∀{h'} (s:Sd) (g:Bool),xF b o t p=(s,g)→Upd (· =h3.size) h4 h'→K (s,g) h':=fun s g e hu=>by rw[←e];exact hk _ (k04.own hu s3)
 unfold xF at fin;refine Join.intro (fun t' h'=>h'=h4∧t'=decide (o=t∨t=b)) (fun R hR=>?_) ?_
 ·refine⟨o.1,vc c2 0,o.2,vc c2 1,t.1,vc c3 0,t.2,vc c3 1,?_⟩
  rw[Kv o t];by_cases e:o=t
  ·rw[decide_eq_true e]
   exact ay.2 (hR _ _ ⟨rfl,(decide_eq_true (.inl e)).symm⟩)
  ·rw[decide_eq_false e]
   refine aj.2 ⟨t.1,vc c3 0,t.2,vc c3 1,b.1,vc c1 0,b.2,vc c1 1,hR _ _ ⟨rfl,?_⟩⟩;rw[Kv t b,decide_eq_decide];exact⟨.inr,fun h=>h.elim (fun h=>absurd h e) id⟩
 rintro t' h' ⟨rfl,rfl⟩;refine az (fun e=>?_) fun e=>?_
 ·rw[if_pos e]at fin
  exact⟨o.1,vc c2 0,o.2,vc c2 1,xO (s:=o) b4 rfl fun h5 hu=>fin _ _ rfl hu⟩
 rw[if_neg e]at fin;refine⟨o.1,vc c2 0,o.2,vc c2 1,b.1,vc c1 0,b.2,vc c1 1,?_⟩;rw[Kv o b];refine az (fun e=>?_) fun e=>?_
 ·rw[if_pos e]at fin
  exact⟨t.1,vc c3 0,t.2,vc c3 1,xO (s:=t) b4 rfl fun h5 hu=>fin _ _ rfl hu⟩
 rw[if_neg e]at fin;refine CondP.intro (fun e=>?_) fun e=>?_
 ·rw[if_pos (by simpa using e)]at fin
  exact⟨o.1,vc c2 0,o.2,vc c2 1,xO (s:=o) b4 rfl fun h5 hu=>fin _ _ rfl hu⟩
 rw[if_neg (by simpa using e)]at fin;refine CondP.intro (fun e=>?_) fun e=>?_
 ·rw[if_pos (by simpa using e)]at fin
  exact⟨t.1,vc c3 0,t.2,vc c3 1,xO (s:=t) b4 rfl fun h5 hu=>fin _ _ rfl hu⟩
 ·rw[if_neg (by simpa using e)]at fin
  exact⟨b.1,vc c1 0,b.2,vc c1 1,xO (s:=b) b4 rfl fun h5 hu=>fin _ _ rfl hu⟩
theorem TW{b o t:Sd}{p:Int}{h:ae}{K:Sd×Bool→ae→Prop}(hk:∀h',Upd No h h'→K (xF b o t p) h'):HC PG Av [.agg #[.string b.1,.bool b.2],.agg #[.string o.1,.bool o.2],.agg #[.string t.1,.bool t.2],.int .i64 p] [.agg [.str,.bool],.c .bool] K h:=by
 refine PF b o t p ?_;unfold Hh di aw cT A6 vA CQ;refine aS fun h1 b1 k1=>aS fun h2 b2 k2=>aS fun h3 b3 k3=>aS fun h4 b4 k4=>?_
 have c1:=k4.get0 (k3.get0 (k2.get0 b1));have c2:=k4.get0 (k3.get0 b2);have c3:=k4.get0 b3;have s3:h.size≤h3.size:=((k1.tr k2).tr k3).size;have k04:Upd No h h4:=((k1.tr k2).tr k3).tr k4;have fin:∀{h'} (s:Sd) (g:Bool),xF b o t p=(s,g)→Upd (· =h3.size) h4 h'→K (s,g) h':=fun s g e hu=>by rw[←e];exact hk _ (k04.own hu s3)
 unfold xF at fin;refine⟨o.1,vc c2 0,o.2,vc c2 1,t.1,vc c3 0,t.2,vc c3 1,?_⟩;rw[Kv o t];refine az (fun e=>?_) fun e1=>?_
 ·rw[if_pos (.inl e)]at fin
  exact⟨o.1,vc c2 0,o.2,vc c2 1,xO (s:=o) b4 rfl fun h5 hu=>fin _ _ rfl hu⟩
 refine⟨o.1,vc c2 0,o.2,vc c2 1,b.1,vc c1 0,b.2,vc c1 1,?_⟩;rw[Kv o b];refine az (fun e=>?_) fun e2=>?_
 ·rw[if_neg (fun h=>h.elim e1 fun h=>e1 (by rw[e,h])),if_pos e]at fin
  exact⟨t.1,vc c3 0,t.2,vc c3 1,xO (s:=t) b4 rfl fun h5 hu=>fin _ _ rfl hu⟩
 refine⟨t.1,vc c3 0,t.2,vc c3 1,b.1,vc c1 0,b.2,vc c1 1,?_⟩;rw[Kv t b];refine az (fun e=>?_) fun e3=>?_
 ·rw[if_pos (.inr e)]at fin
  exact⟨o.1,vc c2 0,o.2,vc c2 1,xO (s:=o) b4 rfl fun h5 hu=>fin _ _ rfl hu⟩
 rw[if_neg (fun h=>h.elim e1 e3),if_neg e2]at fin
 refine CondP.intro (fun e=>?_) fun e=>?_
 ·rw[if_pos (by simpa using e)]at fin
  exact⟨o.1,vc c2 0,o.2,vc c2 1,xO (s:=o) b4 rfl fun h5 hu=>fin _ _ rfl hu⟩
 rw[if_neg (by simpa using e)]at fin;refine CondP.intro (fun e=>?_) fun e=>?_
 ·rw[if_pos (by simpa using e)]at fin
  exact⟨t.1,vc c3 0,t.2,vc c3 1,xO (s:=t) b4 rfl fun h5 hu=>fin _ _ rfl hu⟩
 ·rw[if_neg (by simpa using e)]at fin
  exact⟨b.1,vc c1 0,b.2,vc c1 1,xO (s:=b) b4 rfl fun h5 hu=>fin _ _ rfl hu⟩
abbrev YP:ByteArray:=⟨#[102,97,105,108]⟩
abbrev YN:ByteArray:=⟨#[111,117,114,115]⟩
abbrev Wf:ByteArray:=⟨#[116,104,101,105,114,115]⟩
abbrev YO:ByteArray:=⟨#[107,101,101,112]⟩
def Jn(p:Int):ByteArray:=if p=0 then YP else if p=1 then YN else if p=2 then Wf else if p=3 then YO else⟨#[]⟩
theorem MD{p:Int}{h:ae}{K:ByteArray→ae→Prop}(hk:K (Jn p) h):HC PG wR [.int .i64 p] [.c .str] K h:=by
 refine Lz p ?_;unfold CD;unfold Jn at hk;refine CondP.intro (fun e=>?_) fun e=>?_
 ·rw[if_pos (by simpa using e)]at hk;exact hk
 rw[if_neg (by simpa using e)]at hk;refine CondP.intro (fun e=>?_) fun e=>?_
 ·rw[if_pos (by simpa using e)]at hk;exact hk
 rw[if_neg (by simpa using e)]at hk;refine CondP.intro (fun e=>?_) fun e=>?_
 ·rw[if_pos (by simpa using e)]at hk;exact hk
 rw[if_neg (by simpa using e)]at hk;refine CondP.intro (fun e=>?_) fun e=>?_
 ·rw[if_pos (by simpa using e)]at hk;exact hk
 ·rw[if_neg (by simpa using e)]at hk;exact hk
end Go.Proofs
namespace Go.Proofs
open Go Go.Lift
def GB(k:ByteArray)(l:List Pr):List Pr:=l.filter fun q=>decide (q.1≠k)
theorem Sy(k:ByteArray)(q:Pr)(l:List Pr):GB k (q::l)=if q.1=k then GB k l else q::GB k l:=by
 unfold GB;rw[bF];by_cases h:q.1=k
 ·rw[if_pos h,if_neg (by simpa using h)]
 ·rw[if_neg h,if_pos (by simpa using h)]
theorem F9{k:ByteArray}{l:List Pr}(h:∀q∈l,q.1≠k):dX l k=false:=by
 rcases ht:dX l k with _|_
 ·rfl
 ·obtain⟨q,hq,e⟩:=cL.1 ht
  exact absurd (of_decide_eq_true e) (h q hq)
theorem IY{k:ByteArray}{l:List Pr}(hr:bO l):bO (GB k l):=hr.sublist kX
theorem Wh{k:ByteArray}{l:List Pr}{p:Pr}:p∈GB k l↔p∈l∧p.1≠k:=by unfold GB;rw[de,decide_eq_true_iff]
theorem X2{k:ByteArray}{l:List Pr}:(GB k l).length≤l.length:=dV ..
end Go.Proofs
namespace Go.Proofs
open Go Go.Lift
end Go.Proofs
namespace Go.Proofs
end Go.Proofs
namespace Go.Proofs
open Go Go.Lift
theorem sM(s:ByteArray):s.data.toList.length=s.size:=by simp
theorem R8{a b:ByteArray}{h:ae}{K:Bool→ae→Prop}(hk:K (decide (b.data.toList<+:a.data.toList)) h):HC PG u0 [.string a,.string b] [.c .bool] K h:=by
 refine Ij a b ?_;unfold zE ij;refine DF a b ?_;unfold vX ij;refine rz a b ?_;unfold lD;have la:=sM a;have lb:=sM b;refine az (fun hge=>?_) fun hlt=>?_
 ·refine⟨⟨by omega,by omega⟩,?_⟩
  rw[gd,aV];have e:decide (a.extract 0 b.size=b)=decide (b.data.toList<+:a.data.toList):=by
   rw[decide_eq_decide,←wV,BP,List.prefix_iff_eq_take,lb];exact eq_comm
  rw[e];exact hk
 ·have e:decide (b.data.toList<+:a.data.toList)=false:=decide_eq_false fun hp=>by
   have:=hp.length_le;omega
  rw[e]at hk;exact hk
theorem X4{a b:ByteArray}{h:ae}{K:ByteArray×Bool→ae→Prop}(h1:∀s:ByteArray,a.data.toList=b.data.toList++s.data.toList→K (s,true) h)(h2:(∀r,a.data.toList≠b.data.toList++r)→K (⟨#[]⟩,false) h):HC PG As [.string a,.string b] [.c .str,.c .bool] K h:=by
 refine PB a b ?_;unfold Hd ij;refine R8 ?_;have la:=sM a;have lb:=sM b;by_cases hp:b.data.toList<+:a.data.toList
 ·rw[decide_eq_true hp]
  have hle:=hp.length_le;refine aj.2 ⟨⟨by omega,by omega⟩,?_⟩
  rw[aV];refine h1 _ ?_;rw[BQ];obtain⟨r,e⟩:=hp;rw[←e,←lb,gh]
 ·rw[decide_eq_false hp]
  exact ay.2 (h2 fun r e=>hp ⟨r,e.symm⟩)
end Go.Proofs
namespace Go.Proofs
open Go Go.Lift
end Go.Proofs
namespace Go.Proofs
open Go Go.Lift
theorem TY{W:Nat→Prop}{h:ae}{s:SliceV}{l:List Pr}(hs:Sl eg 2 W h s l)(hr:bO l)(hf:Fit l)(hn:l.length≤1000000)(k:ByteArray){K:Int×Bool→ae→Prop}
  (hk:∀i:Nat,(dX l k=true→∃hi:i<l.length,l[i].1=k)→K ((i:Int),dX l k) h):HC PG Az [.slice s.a s.len s.cap,.string k] [.c (.int .i64),.c .bool] K h:=by
 refine PO s k ?_;unfold Ht cB aO ij;have hlen:=hs.len;refine LoopP.ghost (fun(i:Nat) (t:Int) h'=>t=(i:Int)∧i≤l.length∧h'=h∧∀j (hj:j<l.length),j<i→kl l[j].1 k) (fun i=>l.length-i) 0 ⟨rfl,aW _,rfl,fun j hj h=>by omega⟩ ?_
 rintro I i t h' ⟨rfl,hi,rfl,hlo⟩ hI;refine Join.intro (fun t h2=>h2=h'∧(t=true↔∃hi:i<l.length,kl l[i].1 k)) (fun R hR=>?_) ?_
 ·refine az (fun hlt=>?_) fun hge=>hR _ _ ⟨rfl,⟨fun h=>(by cases h),fun⟨hi,_⟩=>by omega⟩⟩
  have hlt:i<l.length:=by omega
  obtain⟨a,ha,_,hv⟩:=hs.at (ag hlt);have hf1:=(hf _ (bw hlt)).1;refine⟨⟨by omega,by omega⟩,a,ha,l[i].1,hv 0 _ rfl,Mm (by omega) (hR _ _ ⟨rfl,?_⟩)⟩
  rw[decide_eq_true_iff];exact⟨fun h=>⟨hlt,h⟩,fun⟨_,h⟩=>h⟩
 ·rintro t h2 ⟨rfl,ht⟩
  cases t with
  |true=>
   obtain⟨hlt,hk1⟩:=ht.1 rfl;refine ay.2 ?_;rw[lE hlt (by omega)];refine hI (i+1) _ _ ⟨rfl,hlt,rfl,fun j hj hji=>?_⟩ (by omega)
   rcases bT j i with h|h
   ·exact hlo j hj h
   ·have:j=i:=by omega
    subst this;exact hk1
  |false=>
   refine aj.2 (az (fun hlt=>?_) fun hge=>?_)
   ·have hlt:i<l.length:=by omega
    have hnk:¬kl l[i].1 k:=fun h=>by have:=ht.2 ⟨hlt,h⟩;cases this
    obtain⟨a,ha,_,hv⟩:=hs.at (ag hlt);refine⟨⟨by omega,by omega⟩,a,ha,l[i].1,hv 0 _ rfl,?_⟩
    rw[gd];have e:decide (l[i].1=k)=dX l k:=by
     by_cases e:l[i].1=k
     ·rw[decide_eq_true e]
      exact(cL.2 ⟨_,bw hlt,decide_eq_true e⟩).symm
     ·rw[decide_eq_false e]
      refine(F9 fun q hq e2=>?_).symm
      obtain⟨j,hj,rfl⟩:=ce hq;have hgt:=pG hnk e;rcases Nat.lt_trichotomy j i with h|h|h
      ·have:=hlo j hj h;rw[e2]at this;exact cg _ this
      ·subst h;exact e e2
      ·have:=List.pairwise_iff_getElem.1 hr i j hlt hj h
       rw[e2]at this;exact cg _ (gq hgt this)
    rw[e];exact hk i fun ht=>⟨hlt,of_decide_eq_true (e.trans ht)⟩
   ·have e:dX l k=false:=F9 fun q hq e2=>by
     obtain⟨j,hj,rfl⟩:=ce hq;have:=hlo j hj (by omega);rw[e2]at this;exact cg _ this
    have:=hk i fun h=>by rw[e]at h;cases h
    rw[e]at this;exact this
theorem V6{W:Nat→Prop}{h:ae}{s:SliceV}{l:List Pr}(hs:Sl eg 2 W h s l)(hr:bO l)(hf:Fit l)(hn:l.length≤1000000)(k:ByteArray){K:ByteArray×Bool→ae→Prop}
  (hk:∀v,(dX l k=true→(k,v)∈l)→(dX l k=false→v=⟨#[]⟩)→K (v,dX l k) h):HC PG Dq [.slice s.a s.len s.cap,.string k] [.c .str,.c .bool] K h:=by
 refine SY s k ?_;unfold Ka cB aO HJ nm;have hlen:=hs.len;refine TY hs hr hf hn k fun i hi=>?_
 cases ht:dX l k with
 |false=>rw[ht]at hk;exact ay.2 (hk _ (fun h=>(by cases h)) fun _=>rfl)
 |true=>
  rw[ht]at hk;obtain⟨hlt,hik⟩:=hi ht;obtain⟨a,ha,_,hv⟩:=hs.at (ag hlt);refine aj.2 ⟨⟨by simp only;omega,by simp only;omega⟩,a,ha,l[i].2,hv 1 _ rfl,hk _ (fun _=>by rw[←hik];exact bw hlt) fun h=>(by cases h)⟩
end Go.Proofs
namespace Go.Proofs
open Go Go.Lift
theorem MF(k:ByteArray):look [] k=none:=rfl
theorem fc(p:Pr)(l:List Pr)(k:ByteArray):look (p::l) k=if p.1=k then some p.2 else look l k:=by
 unfold look;rw[oR];by_cases e:p.1=k
 ·rw[decide_eq_true e,if_pos e];rfl
 ·rw[decide_eq_false e,if_neg e]
theorem xS{l:List Pr}{k:ByteArray}(h:∀p∈l,kl k p.1):look l k=none:=Jp (F9 fun p hp e=>by have:=h p hp;rw[e]at this;exact cg _ this)
theorem ri{k v:ByteArray}:∀{l:List Pr},look l k=some v→(k,v)∈l
 | [],h=>by cases h
 |p::l,h=>by
  rw[fc]at h;by_cases e:p.1=k
  ·rw[if_pos e]at h;cases h;rw[←e];exact av ..
  ·rw[if_neg e]at h;exact aC _ (ri h)
theorem Ul{l m:List Pr}(hl:bO l)(hm:bO m)(h:∀k,look l k=look m k):l=m:=
 vy hl hm fun p=>⟨fun hp=>ri (by rw[←h];exact vC hl hp),fun hp=>ri (by rw[h];exact vC hm hp)⟩
theorem Ge(p:Pr)(k:ByteArray):∀{l:List Pr},look (gC p l) k=if p.1=k then some p.2 else look l k
 | []=>fc p [] k
 |q::l=>by
  rw[fX];by_cases h1:kl q.1 p.1
  ·rw[if_pos h1,fc,Ge p k,fc]
   by_cases e:q.1=k
   ·rw[if_pos e,if_pos e,if_neg fun e2=>by rw[e,e2]at h1;exact cg _ h1]
   ·rw[if_neg e,if_neg e]
  ·rw[if_neg h1]
   by_cases h2:q.1=p.1
   ·rw[if_pos h2,fc,fc,h2]
    by_cases e:p.1=k
    ·rw[if_pos e,if_pos e]
    ·rw[if_neg e,if_neg e,if_neg e]
   ·rw[if_neg h2,fc]
theorem Gf(k' k:ByteArray):∀{l:List Pr},look (GB k' l) k=if k'=k then none else look l k
 | []=>by
  by_cases e:k'=k; · rw[if_pos e];rfl
  ·rw[if_neg e];rfl
 |q::l=>by
  rw[Sy];by_cases h:q.1=k'
  ·rw[if_pos h,Gf k' k,fc,h]
   by_cases e:k'=k
   ·rw[if_pos e,if_pos e]
   ·rw[if_neg e,if_neg e,if_neg e]
  ·rw[if_neg h,fc,Gf k' k,fc]
   by_cases e:q.1=k
   ·rw[if_pos e,if_pos e,if_neg fun e2=>h (by rw[e,e2])]
   ·rw[if_neg e,if_neg e]
def Xi(k:ByteArray)(a b:Option ByteArray):Option Ch:=if a=b then none else some (k,a.getD ⟨#[]⟩,b.getD ⟨#[]⟩,a.isSome,b.isSome)
theorem Nb(k:ByteArray)(a:Option ByteArray):Xi k a a=none:=if_pos rfl
theorem WH{k:ByteArray}{a b:Option ByteArray}{c:Ch}(h:Xi k a b=some c):c=(k,a.getD ⟨#[]⟩,b.getD ⟨#[]⟩,a.isSome,b.isSome)∧a≠b:=by
 unfold Xi at h;by_cases e:a=b
 ·rw[if_pos e]at h;cases h
 ·rw[if_neg e]at h;cases h;exact⟨rfl,e⟩
def fd(l:List Ch)(k:ByteArray):Option Ch:=l.find? fun c=>decide (c.1=k)
theorem wH(c:Ch)(l:List Ch)(k:ByteArray):fd (c::l) k=if c.1=k then some c else fd l k:=by
 unfold fd;rw[oR];by_cases e:c.1=k
 ·rw[decide_eq_true e,if_pos e]
 ·rw[decide_eq_false e,if_neg e]
theorem O8{k:ByteArray}{c:Ch}:∀{l:List Ch},fd l k=some c→c∈l∧c.1=k
 | [],h=>by cases h
 |a::l,h=>by
  rw[wH]at h;by_cases e:a.1=k
  ·rw[if_pos e]at h;cases h;exact⟨av ..,e⟩
  ·rw[if_neg e]at h;exact⟨aC _ (O8 h).1,(O8 h).2⟩
theorem UB{c:Ch}:∀{l:List Ch},GW l→c∈l→fd l c.1=some c
 |a::l,hr,h=>by
  have hr:=aD.1 hr;rw[wH];rcases aB.1 h with rfl|h
  ·exact if_pos rfl
  ·rw[if_neg fun e=>by have:=hr.1 c h;rw[e]at this;exact cg _ this]
   exact UB hr.2 h
theorem O9{A B:List Pr}(hA:bO A)(hB:bO B)(k:ByteArray):fd (iH A B) k=Xi k (look A k) (look B k):=by
 refine oq (P:=fun A B=>fd (iH A B) k=Xi k (look A k) (look B k)) ?_ (fun a A B hA _ h i=>?_) (fun b A B _ hB h i=>?_) (fun a b A B e hA hB i=>?_) hA hB
 ·rw[jm];exact(Nb ..).symm
 ·rw[tB h,wH,fc,i]
  by_cases e:a.1=k
  ·rw[if_pos (show(H8 a).1=k from e),if_pos e,←e,xS h];rfl
  ·rw[if_neg (show ¬(H8 a).1=k from e),if_neg e]
 ·rw[tA h,wH,fc,i]
  by_cases e:b.1=k
  ·rw[if_pos (show(Vv b).1=k from e),if_pos e,←e,xS h];rfl
  ·rw[if_neg (show ¬(Vv b).1=k from e),if_neg e]
 ·rw[ru e,fc,fc,←e]
  by_cases h:a.1=k
  ·rw[if_pos h,if_pos h]
   unfold xy Xi;by_cases h2:a.2=b.2
   ·rw[if_pos h2,if_pos (by rw[h2]),cN,i,←h,xS (aD.1 hA).1,e,xS (aD.1 hB).1,Nb]
   ·rw[if_neg h2,if_neg (fun e=>h2 (Option.some.inj e)),qr,wH,if_pos h,h];rfl
  ·rw[if_neg h,if_neg h,←i]
   unfold xy;by_cases h2:a.2=b.2
   ·rw[if_pos h2];rfl
   ·rw[if_neg h2,qr,wH,if_neg h]
def XF(c:Ch):Bool:=(!((!c.2.2.2.1&& !c.2.2.2.2)||(c.2.2.2.1&&(c.2.2.2.2&&decide (c.2.1=c.2.2.1)))))&&((c.2.2.2.1||decide (c.2.1=⟨#[]⟩))&&(c.2.2.2.2||decide (c.2.2.1=⟨#[]⟩)))
def one(c:Ch):Option Ch:=if XF c then some c else none
end Go.Proofs
namespace Go.Proofs
open Go Go.Lift
end Go.Proofs
namespace Go.Proofs
open Go Go.Lift
theorem Few.del{n:Nat}{L:List Pr}(f:Few n L)(k:ByteArray):Few n (GB k L):=⟨IY f.up,bh X2 f.len,fun p hp=>f.fit p (Wh.1 hp).1⟩
end Go.Proofs
namespace Go.Proofs
open Go Go.Lift
end Go.Proofs
namespace Go.Proofs
open Go Go.Lift
end Go.Proofs
namespace Go.Proofs
open Go Go.Lift
end Go.Proofs
namespace Go.Proofs
open Go Go.Lift
theorem UP{A B:List Pr}(hA:bO A)(hB:bO B){c:Ch}(h:c∈iH A B):c=(c.1,(look A c.1).getD ⟨#[]⟩,(look B c.1).getD ⟨#[]⟩,(look A c.1).isSome,(look B c.1).isSome)∧look A c.1≠look B c.1:=by
 have:=O9 hA hB c.1;rw[UB (Af hA hB) h]at this;exact WH this.symm
theorem mV{n:Nat}{A:List Pr}(f:Few n A)(k:ByteArray):((look A k).getD ⟨#[]⟩).size≤30:=by
 cases e:look A k with
 |none=>exact aW _
 |some v=>exact(f.fit _ (ri e)).2
theorem L7{n m:Nat}{A B:List Pr}(fA:Few n A)(fB:Few m B):∀c∈iH A B,c.1.size≤30∧c.2.1.size≤30∧c.2.2.1.size≤30:=fun c hc=>by
 obtain⟨e,ne⟩:=UP fA.up fB.up hc;refine⟨?_,?_,?_⟩
 ·cases ea:look A c.1 with
  |some v=>exact(fA.fit _ (ri ea)).1
  |none=>
   cases eb:look B c.1 with
   |some v=>exact(fB.fit _ (ri eb)).1
   |none=>rw[ea,eb]at ne;exact absurd rfl ne
 ·rw[e];exact mV fA _
 ·rw[e];exact mV fB _
end Go.Proofs
namespace Go.Proofs
open Go Go.Lift
theorem Tx{A B:List Pr}(hA:bO A)(hB:bO B)(k:ByteArray):(iH A B).any (fun c=>decide (c.1=k))=decide (look A k≠look B k):=by
 have h:=O9 hA hB k;unfold Xi at h;by_cases e:look A k=look B k
 ·rw[if_pos e]at h
  rw[show decide (look A k≠look B k)=false by simpa using e]
  unfold fd at h;rw[List.find?_eq_none]at h;rw[qj];exact fun c hc=>h c hc
 ·rw[if_neg e]at h
  rw[show decide (look A k≠look B k)=true by simpa using e]
  obtain⟨hc,ek⟩:=O8 h;exact cL.2 ⟨_,hc,by simp⟩
end Go.Proofs
namespace Go.Proofs
open Go Go.Lift
def zq(o:Option ByteArray):Sd:=(o.getD ⟨#[]⟩,o.isSome)
theorem VT{a b:Option ByteArray}:zq a=zq b↔a=b:=by
 constructor
 ·intro h
  unfold zq at h;cases a<;>cases b<;>simp_all
 ·rintro rfl;rfl
def rW(b o t:Option ByteArray)(p:Int):Option ByteArray×Bool:=if o=t∨t=b then(o,true)else if o=b then(t,true)else if p=1 then(o,false)else if p=2 then(t,false)else(b,false)
theorem Qn(b o t:Option ByteArray)(p:Int):xF (zq b) (zq o) (zq t) p=(zq (rW b o t p).1,(rW b o t p).2):=by
 unfold xF rW;simp only[VT];split
 ·rfl
 ·split
  ·rfl
  ·split
   ·rfl
   ·split<;>rfl
theorem IP(b o t:Option ByteArray)(p:Int):(rW b o t p).1=b∨(rW b o t p).1=o∨(rW b o t p).1=t:=by
 unfold rW;split
 ·exact .inr (.inl rfl)
 ·split
  ·exact .inr (.inr rfl)
  ·split
   ·exact .inr (.inl rfl)
   ·split
    ·exact .inr (.inr rfl)
    ·exact .inl rfl
theorem LX{b o t:Option ByteArray}{p:Int}:(rW b o t p).2=false↔o≠t∧t≠b∧o≠b:=by
 unfold rW;by_cases h1:o=t∨t=b
 ·rw[if_pos h1]
  exact⟨fun h=>(by cases h),fun h=>absurd h1 fun e=>e.elim h.1 h.2.1⟩
 ·rw[if_neg h1]
  by_cases h2:o=b
  ·rw[if_pos h2]
   exact⟨fun h=>(by cases h),fun h=>absurd h2 h.2.2⟩
  ·rw[if_neg h2]
   refine⟨fun _=>⟨fun e=>h1 (.inl e),fun e=>h1 (.inr e),h2⟩,fun _=>?_⟩
   split
   ·rfl
   ·split<;>rfl
def N9(L:List Pr)(k:ByteArray):Option ByteArray→List Pr
 |some v=>gC (k,v) L
 |none=>GB k L
theorem Sh(L:List Pr)(k:ByteArray)(o:Option ByteArray)(j:ByteArray):look (N9 L k o) j=if k=j then o else look L j:=by
 cases o with
 |some v=>exact Ge (k,v) j
 |none=>exact Gf k j
theorem Om{L:List Pr}(h:bO L)(k:ByteArray)(o:Option ByteArray):bO (N9 L k o):=by
 cases o with
 |some v=>exact sN _ h
 |none=>exact IY h
theorem UA{n:Nat}{L:List Pr}(f:Few n L){k:ByteArray}{o:Option ByteArray}(hk:k.size≤30)(ho:(o.getD ⟨#[]⟩).size≤30):Few (n+1) (N9 L k o):=by
 cases o with
 |some v=>exact f.ins (k,v) hk ho
 |none=>have g:=f.del k;exact⟨g.up,Nat.le_succ_of_le g.len,g.fit⟩
def tk(B O T:List Pr)(p:Int)(k:ByteArray):Option ByteArray×Bool:=rW (look B k) (look O k) (look T k) p
def pF(B O T:List Pr)(p:Int)(acc:List Pr)(l:List Ch):List Pr:=l.foldl (fun acc c=>N9 acc c.1 (tk B O T p c.1).1) acc
theorem MB{B O T:List Pr}{p:Int}{acc:List Pr}{l:List Ch}{i:Nat}(hi:i<l.length):pF B O T p acc (l.take (i+1))=N9 (pF B O T p acc (l.take i)) l[i].1 (tk B O T p l[i].1).1:=by
 unfold pF;rw[bo hi,List.foldl_append];rfl
theorem Ef{B O T:List Pr}{p:Int}{k:ByteArray}:∀{l:List Ch} {acc:List Pr},look (pF B O T p acc l) k=if(fd l k).isSome then(tk B O T p k).1 else look acc k
 | [],_=>rfl
 |c::l,acc=>by
  show look (pF B O T p (N9 acc c.1 (tk B O T p c.1).1) l) k=_
  rw[Ef,wH,Sh];by_cases e:c.1=k
  ·subst e
   rw[if_pos rfl,if_pos rfl,if_pos (show(some c).isSome=true from rfl)]
   split<;>rfl
  ·rw[if_neg e,if_neg e]
theorem Bk{B O T:List Pr}{p:Int}:∀{l:List Ch} {acc:List Pr},bO acc→bO (pF B O T p acc l)
 | [],_,h=>h
 |c::l,_,h=>Bk (l:=l) (Om h c.1 _)
theorem Gw{B O T:List Pr}{p:Int}{nb no nt:Nat}(fB:Few nb B)(fO:Few no O)(fT:Few nt T):∀{l:List Ch} {n:Nat} {acc:List Pr},(∀c∈l,c.1.size≤30)→Few n acc→Few (n+l.length) (pF B O T p acc l)
 | [],_,_,_,h=>h
 |c::l,n,_,hl,h=>by
  have h2:((tk B O T p c.1).1.getD ⟨#[]⟩).size≤30:=by
   unfold tk;rcases IP (look B c.1) (look O c.1) (look T c.1) p with e|e|e
   ·rw[e];exact mV fB _
   ·rw[e];exact mV fO _
   ·rw[e];exact mV fT _
  have:=Gw (p:=p) fB fO fT (l:=l) (fun d hd=>hl d (aC _ hd)) (UA h (hl c (av ..)) h2)
  rw[ar,show n+(l.length+1)=n+1+l.length by omega]
  exact this
def sY(B O T:List Pr)(p:Int):List Pr:=pF B O T p O (iH B T)
theorem OO{B O T:List Pr}{p:Int}(hB:bO B)(hT:bO T)(k:ByteArray):look (sY B O T p) k=(tk B O T p k).1:=by
 unfold sY;rw[Ef,O9 hB hT];unfold Xi;by_cases e:look B k=look T k
 ·rw[if_pos e]
  show look O k=_
  unfold tk rW;rw[if_pos (.inr e.symm)]
 ·rw[if_neg e];rfl
def Dv(B O T:List Pr)(p:Int)(l:List Ch):List ByteArray:=(l.map (·.1)).filter fun k=> !(tk B O T p k).2
theorem SC{B O T:List Pr}{p:Int}{l:List Ch}{i:Nat}(hi:i<l.length):Dv B O T p (l.take (i+1))=Dv B O T p (l.take i)++if(tk B O T p l[i].1).2 then[]else[l[i].1]:=by
 unfold Dv;rw[bo hi,List.map_append,eo];congr 1
 rw[List.map_singleton,bF,List.filter_nil];cases(tk B O T p l[i].1).2<;>rfl
theorem UM{B O T:List Pr}{p:Int}{l:List Ch}:(Dv B O T p l).length≤l.length:=bh (dV ..) (Nat.le_of_eq (List.length_map ..))
abbrev tx(B O T:List Pr)(p:Int):List ByteArray:=Dv B O T p (iH B T)
theorem Ug{B O T:List Pr}{p:Int}(hB:bO B)(hT:bO T){k:ByteArray}:k∈tx B O T p↔(tk B O T p k).2=false:=by
 unfold tx Dv;rw[de];refine⟨fun h=>by simpa using h.2,fun h=>⟨?_,by rw[h];rfl⟩⟩
 have ne:=(LX.1 h).2.1;have:=Tx hB hT k;rw[show decide (look B k≠look T k)=true by simpa using fun e=>ne e.symm]at this
 obtain⟨c,hc,e⟩:=cL.1 this;exact List.mem_map.2 ⟨c,hc,by simpa using e⟩
theorem VE{B O T:List Pr}{p:Int}(hB:bO B)(hT:bO T):(tx B O T p).Pairwise kl:=by
 unfold tx Dv;refine List.Pairwise.sublist kX ?_;exact List.pairwise_map.2 (Af hB hT)
theorem MI:∀{l m:List ByteArray},l.Pairwise kl→m.Pairwise kl→(∀k,k∈l↔k∈m)→l=m
 | [],[],_,_,_=>rfl
 | [],q::m,_,_,h=>absurd ((h q).2 (av ..)) (by simp)
 |p::l,[],_,_,h=>absurd ((h p).1 (av ..)) (by simp)
 |p::l,q::m,hr,hr',h=>by
  have hr:=aD.1 hr;have hr':=aD.1 hr';have e:p=q:=by
   rcases aB.1 ((h p).1 (av ..))with e|hp
   ·exact e
   ·rcases aB.1 ((h q).2 (av ..))with e|hq
    ·exact e.symm
    ·exact absurd (gq (hr.1 q hq) (hr'.1 p hp)) (cg _)
  subst e;rw[MI hr.2 hr'.2 fun z=>?_]
  constructor
  ·intro hz
   rcases aB.1 ((h z).1 (aC _ hz))with e|hz'
   ·exact absurd (hr.1 z hz) (by rw[e];exact cg _)
   ·exact hz'
  ·intro hz
   rcases aB.1 ((h z).2 (aC _ hz))with e|hz'
   ·exact absurd (hr'.1 z hz) (by rw[e];exact cg _)
   ·exact hz'
abbrev Cf:=ByteArray×Sd×Sd×Sd
def GJ(B O T:List Pr)(k:ByteArray):Cf:=(k,zq (look B k),zq (look O k),zq (look T k))
end Go.Proofs
namespace Go.Proofs
open Go Go.Lift Go.Sort
abbrev UN:Value:=.func (.func pn) #[] #[]
def Dg(dec:Int→Ch)(i j:Int):Bool:=Yf (dec i) (dec j)
structure SA(dec:Int→Ch)(M:Nat→Prop)(s:SliceV)(h:ae)(d:Array Int):Prop where
 own:OwnS EV 5 cp M h s (d.toList.map dec)
 small:d.size≤1000000000
 lt:∀b,M b→b<h.size
variable {dec:Int→Ch} {M:Nat→Prop} {s:SliceV} {h:ae} {d:Array Int}
theorem SA.len(hs:SA dec M s h d):s.len=d.size:=by have:=hs.own.len;simpa using this
theorem SA.upd0{h':ae}(hs:SA dec M s h d)(k:Upd No h h'):SA dec M s h' d:=⟨hs.own.upd k fun _ _ h=>h,hs.small,fun b hb=>aQ (hs.lt b hb) k.size⟩
theorem SA.at(hs:SA dec M s h d){i:Nat}(hi:i<d.size):∃a,s.a=some a∧∀j v,(EV (dec d[i]!))[j]? =some v→aP h (adr (adr a (((i:Int)).toNat*5)) j)=some v:=by
 have hx:(d.toList.map dec)[i]? =some (dec d[i]!):=by
  rw[List.getElem?_map,Array.getElem?_toList,Array.getElem?_eq_getElem hi,getElem!_pos d i hi];rfl
 obtain⟨a,ha,_,hv⟩:=(hs.own.sl (W:=No) fun _ _ _ h=>h).at hx
 exact⟨a,ha,by simpa using hv⟩
theorem SA.rd(hs:SA dec M s h d){t:Int}{i:Nat}(et:t=(i:Int))(hi:i<d.size){R:ByteArray→ByteArray→ByteArray→Bool→Bool→Prop}(hR:R (dec d[i]!).1 (dec d[i]!).2.1 (dec d[i]!).2.2.1 (dec d[i]!).2.2.2.1 (dec d[i]!).2.2.2.2):
  ((0:Int)≤t∧t<((s.len:Nat):Int))∧∃a:Addr,s.a=some a∧∃v1:ByteArray,aP h (adr (adr a (t.toNat*5)) 0)=some (.string v1)∧∃v2:ByteArray,aP h (adr (adr a (t.toNat*5)) 1)=some (.string v2)∧∃v3:ByteArray,aP h (adr (adr a (t.toNat*5)) 2)=some (.string v3)∧∃v4:Bool,aP h (adr (adr a (t.toNat*5)) 3)=some (.bool v4)∧∃v5:Bool,aP h (adr (adr a (t.toNat*5)) 4)=some (.bool v5)∧R v1 v2 v3 v4 v5:=by
 subst et;obtain⟨a,ha,hv⟩:=hs.at hi;exact⟨by rw[hs.len];omega,a,ha,_,hv 0 _ rfl,_,hv 1 _ rfl,_,hv 2 _ rfl,_,hv 3 _ rfl,_,hv 4 _ rfl,hR⟩
theorem SA.st(hs:SA dec M s h d){t:Int}{i:Nat}{x:Int}(et:t=(i:Int))(hi:i<d.size){R:ae→Prop}(hR:∀h',SA dec M s h' (d.setIfInBounds i x)→Upd M h h'→R h'):
  ((0:Int)≤t∧t<((s.len:Nat):Int))∧∃a:Addr,s.a=some a∧(r9 h (some (adr a (t.toNat*5))) 0 [.string (dec x).1,.string (dec x).2.1,.string (dec x).2.2.1,.bool (dec x).2.2.2.1,.bool (dec x).2.2.2.2]∧At (gG h (adr a (t.toNat*5)) 0 [.string (dec x).1,.string (dec x).2.1,.string (dec x).2.2.1,.bool (dec x).2.2.2.1,.bool (dec x).2.2.2.2]) R):=by
 subst et;obtain⟨a,ha,hM,hw,ho,hu⟩:=OwnS.setAt hs.own (k:=i) (by simpa using hi) (dec x);refine⟨by rw[hs.len];omega,a,ha,?_⟩;rw[aV];have hu':Upd M h _:=hu.mono fun b hb=>.inl (by have hb:b=a.block:=hb;rw[hb];exact hM)
 refine⟨hw,bE (hR _ ⟨?_,by simpa using hs.small,fun b hb=>aQ (hs.lt b hb) hu.size⟩ hu')⟩
 rw[show(d.setIfInBounds i x).toList.map dec=(d.toList.map dec).take i++dec x::(d.toList.map dec).drop (i+1) by
  rw[Array.toList_setIfInBounds,List.map_set,List.set_eq_take_append_cons_drop,if_pos (by simpa using hi)]]
 exact ho
@[simp] theorem Yx(d:Array Int)(i j:Nat):(swp d i j).size=d.size:=by simp[swp]
theorem SA.swap(hs:SA dec M s h d){ti tj:Int}{i j:Nat}(ei:ti=(i:Int))(ej:tj=(j:Int))(hi:i<d.size)(hj:j<d.size){R:ae→Prop}(hR:∀h',SA dec M s h' (swp d i j)→Upd M h h'→R h'):
  ((0:Int)≤tj∧tj<((s.len:Nat):Int))∧∃a:Addr,s.a=some a∧∃v1:ByteArray,aP h (adr (adr a (tj.toNat*5)) 0)=some (.string v1)∧∃v2:ByteArray,aP h (adr (adr a (tj.toNat*5)) 1)=some (.string v2)∧∃v3:ByteArray,aP h (adr (adr a (tj.toNat*5)) 2)=some (.string v3)∧∃v4:Bool,aP h (adr (adr a (tj.toNat*5)) 3)=some (.bool v4)∧∃v5:Bool,aP h (adr (adr a (tj.toNat*5)) 4)=some (.bool v5)∧
   (((0:Int)≤ti∧ti<((s.len:Nat):Int))∧∃a:Addr,s.a=some a∧∃w1:ByteArray,aP h (adr (adr a (ti.toNat*5)) 0)=some (.string w1)∧∃w2:ByteArray,aP h (adr (adr a (ti.toNat*5)) 1)=some (.string w2)∧∃w3:ByteArray,aP h (adr (adr a (ti.toNat*5)) 2)=some (.string w3)∧∃w4:Bool,aP h (adr (adr a (ti.toNat*5)) 3)=some (.bool w4)∧∃w5:Bool,aP h (adr (adr a (ti.toNat*5)) 4)=some (.bool w5)∧
    (((0:Int)≤ti∧ti<((s.len:Nat):Int))∧∃a:Addr,s.a=some a∧(r9 h (some (adr a (ti.toNat*5))) 0 [.string v1,.string v2,.string v3,.bool v4,.bool v5]∧At (gG h (adr a (ti.toNat*5)) 0 [.string v1,.string v2,.string v3,.bool v4,.bool v5]) (fun h1=>
     (((0:Int)≤tj∧tj<((s.len:Nat):Int))∧∃a:Addr,s.a=some a∧(r9 h1 (some (adr a (tj.toNat*5))) 0 [.string w1,.string w2,.string w3,.bool w4,.bool w5]∧At (gG h1 (adr a (tj.toNat*5)) 0 [.string w1,.string w2,.string w3,.bool w4,.bool w5]) R)))))):=by
 refine hs.rd ej hj (hs.rd ei hi (hs.st (x:=d[j]!) ei hi fun h1 hs1 k1=>hs1.st (x:=d[i]!) ej (by simpa using hj) fun h2 hs2 k2=>hR h2 hs2 (k1.tr k2)))
theorem SA.less(hs:SA dec M s h d){ti tj:Int}{i j:Nat}(ei:ti=(i:Int))(ej:tj=(j:Int))(hi:i<d.size)(hj:j<d.size){R:Int→ae→Prop}(hR:∀h' e,SA dec M s h' d→Upd No h h'→decide (e<0)=Dg dec d[i]! d[j]!→R e h'):
  ((0:Int)≤ti∧ti<((s.len:Nat):Int))∧∃a:Addr,s.a=some a∧∃v1:ByteArray,aP h (adr (adr a (ti.toNat*5)) 0)=some (.string v1)∧∃v2:ByteArray,aP h (adr (adr a (ti.toNat*5)) 1)=some (.string v2)∧∃v3:ByteArray,aP h (adr (adr a (ti.toNat*5)) 2)=some (.string v3)∧∃v4:Bool,aP h (adr (adr a (ti.toNat*5)) 3)=some (.bool v4)∧∃v5:Bool,aP h (adr (adr a (ti.toNat*5)) 4)=some (.bool v5)∧
   (((0:Int)≤tj∧tj<((s.len:Nat):Int))∧∃a:Addr,s.a=some a∧∃w1:ByteArray,aP h (adr (adr a (tj.toNat*5)) 0)=some (.string w1)∧∃w2:ByteArray,aP h (adr (adr a (tj.toNat*5)) 1)=some (.string w2)∧∃w3:ByteArray,aP h (adr (adr a (tj.toNat*5)) 2)=some (.string w3)∧∃w4:Bool,aP h (adr (adr a (tj.toNat*5)) 3)=some (.bool w4)∧∃w5:Bool,aP h (adr (adr a (tj.toNat*5)) 4)=some (.bool w5)∧
    HV PG UN [.agg #[.string v1,.string v2,.string v3,.bool v4,.bool v5],.agg #[.string w1,.string w2,.string w3,.bool w4,.bool w5]] [.c (.int .i64)] R h):=
 hs.rd ei hi (hs.rd ej hj ((Xf M).call (dec d[i]!) (dec d[j]!) trivial fun h' e k he=>hR h' e (hs.upd0 k) k he))
end Go.Proofs
