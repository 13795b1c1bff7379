/- A part of the proof that the named laws of this program answer true, whatever the input. -/
import Derived.Test.YtncppacbfagpgaaGreatDoorPart4
import Derived.Test.YtncppacbfagpgaaGreatDoorPart3
open Bool renaming eq_iff_iff→gq,false_eq_true→cS
open ByteArray renaming data_extract→jE,size_extract→eH
open Int renaming toNat_natCast→aM
open List renaming pairwise_append→cK,mem_cons_self→au,append_nil→aE,mem_append_left→dA,mem_append→bP,mem_append_right→dH,length_append→ac,length_nil→aI,length_cons→ap,getElem?_append_right→ax,length_singleton→aw,length_eq_zero_iff→aq,nil_append→cd,cons_append→cR,cons→eg,mem_cons→az,pairwise_cons→aS,drop_zero→dB,drop_left→jd,take_length→bQ,append_assoc→ao,take_succ_cons→dW,take_append_drop→aA,length→dX,length_drop→aV,mem_of_getLast?→fh,mem_singleton→aJ,length_take→aD,mem_cons_of_mem→aH,sublist_append_right→lr,getElem?_eq_getElem→ae,take_of_length_le→bj,length_pos_iff→gw,getElem_mem→bN,zip_cons_cons→eY,map_cons→di,map_append→cr,sum_cons→jQ,length_map→cg
open List.Pairwise renaming nil→gk
open Nat renaming lt_of_lt_of_le→bH,le_refl→ag,sub_self→cO,one_pos→oA,zero_le→aK,sub_zero→eT,le_trans→bh
open Option renaming some→bF
open Prod renaming mk→po
namespace Go.Proofs
open Go Go.Lift
theorem z8{h:ad}{b:Nat}{c:Array Value}{t:TypeId}{v:Value}{k:ad→Prop}(hb:h[b]? =some (.cells c t (0,0))) (hs:0<c.size) (hk:∀h',h'[b]? =some (.cells (c.setIfInBounds 0 v) t (0,0))→Upd (· =b) h h'→k h'):Wr h ⟨b,0,none⟩∧At (hset h ⟨b,0,none⟩ v) k:=
 ⟨gB hb hs,rU hb hk⟩
theorem KQ{L D T:List Pr}{p:Pr}(hr:d9 L)(e:L=D++p::T):El D p=D++ [p]:=by
 subst e;have h1:=cK.1 hr;rw[Jr p h1.1];have:=wM (p:=p) (A:=D) (B:= []) fun r hr'=>h1.2.2 r hr' p (au ..)
 rw[aE]at this;exact this
theorem LU{z:Hs}{lev:Nat}{D A B:List Pr}{a0:Pr}(hs:Srt (Pb z lev) (D++(A++B)))(hD:∀d∈D,∀t∈A++B,ck z lev d.1<ck z lev t.1)(ha0:a0∈A)(hA:∀a∈A,ck z lev a.1=ck z lev a0.1)(hB:∀b∈B,ck z lev b.1≠ck z lev a0.1):
  part z lev (ck z lev a0.1) (D++(A++B))=A∧part z lev (ck z lev a0.1) D= []∧(∀c,c≠ck z lev a0.1→part z lev c (D++A)=part z lev c D)∧part z lev (ck z lev a0.1) (D++A)=A∧∀d∈D++A,∀t∈B,ck z lev d.1<ck z lev t.1:=by
 have pD:part z lev (ck z lev a0.1) D= []:=wA fun d hd=>by have:=hD d hd a0 (dA _ ha0);omega
 have pA:part z lev (ck z lev a0.1) A=A:=Mb hA;have pB:part z lev (ck z lev a0.1) B= []:=wA hB;have app:∀{c} (X Y:List Pr),part z lev c (X++Y)=part z lev c X++part z lev c Y:=fun X Y=>List.filter_append ..
 refine⟨by rw[app,app,pD,pA,pB];simp,pD,fun c hc=>?_,by rw[app,pD,pA];rfl,fun d hd t ht=>?_⟩
 ·have:part z lev c A= []:=wA fun a ha=>by rw[hA a ha];exact fun e=>hc e.symm
  rw[app,this,aE]
 ·rcases bP.1 hd with hd|hd
  ·exact hD d hd t (dH _ ht)
  ·have h1:=of_decide_eq_false (hs.right.cross d hd t ht)
   have h2:=hB t ht;have h3:=hA d hd;omega
set_option maxHeartbeats 1000000 in
theorem Nq{N:Nat}(st:StH N)(hN:N≤100000){z:Hs}{W:Nat→Prop}:∀(m:Nat),m≤13→∀{h:ad} {s:SliceV} {L:List Pr},Sl (ny z) 3 No h s L→(∀y,W y→y<h.size)→d9 L→L.length≤N→∀{K:Option Addr→ad→Prop},
  (∀h' b,TrieAt W z h' m b L→Upd No h h'→K (some ⟨b,0,none⟩) h')→HC PG mY [.slice s.a s.len s.cap,.int .i64 ((13-m:Nat):Int)] [.c .ptr] K h:=by
 intro m;induction m with
 |zero=>
  intro _ h s L hs hW hr hn K hk;have gW:∀{h'},Upd No h h'→∀y,W y→y<h'.size:=fun k y hy=>bH (hW y hy) k.size
  refine xw s ((13-0:Nat):Int) ?_;unfold rZ bR cn nv bV aL eB um GR xM qE Lu;refine aQ fun h1 b1 k1=>⟨_,B6 b1,aB.2 ?_⟩
  refine KP (gW k1) fun h4 b4 bk4 hu4=>?_
  have hlen:=hs.len;refine LoopP.ghost (fun(g:List Pr×List Pr) (t:Option Addr×Int) h'=>(∃b,t.1=some ⟨b,0,none⟩∧BuckAt W h' b g.1)∧t.2=(g.1.length:Int)∧L=g.1++g.2∧Upd No h h') (fun g=>g.2.length) ([],L) ⟨⟨b4,rfl,bk4⟩,rfl,rfl,k1.tr hu4⟩ ?_
  rintro I ⟨D,T⟩ ⟨tb,ti⟩ h5 ⟨⟨b,e1,bk⟩,e2,e3,hu5⟩ hI;simp only at e1 e2 e3 bk;subst e1 e2;have hl3:L.length=D.length+T.length:=by rw[e3,ac]
  refine av (fun hlt=>?_) fun hge=>?_
  ·rcases T with _|⟨p,T⟩
   ·simp only[aI]at hl3;omega
   ·simp only[ap]at hl3
    obtain⟨a,ha,_,hv⟩:=(hs.upd hu5 fun _ h=>h.elim).at (i:=D.length) (x:=p) (by rw[e3,ax (ag _),cO];rfl)
    refine⟨⟨by omega,by omega⟩,a,ha,p.1,hv 0 _ rfl,p.2,hv 1 _ rfl,ga z p.1,hv 2 _ rfl,?_⟩
    refine aQ fun h6 b6 k6=>?_
    refine eL (c:= [.string ⟨#[]⟩,.string ⟨#[]⟩,.int .u64 0]) (vs:=ny z p) b6 rfl fun h7 b7 hu7=>?_
    have hu07:=(hu5.tr k6).own hu7 hu5.size;have k57:Upd No h5 h7:=k6.own hu7 (ag _);refine⟨p.1,xO b7 0 0,p.2,xO b7 0 1,?_⟩;have hrD:d9 D:=by rw[e3]at hr;exact(cK.1 hr).1
    refine Om (bk.upd k57 fun _ h=>h.elim) (gW hu07) hrD (by omega) p fun h8 b8 bk8 hu8=>?_
    rw[KQ hr e3]at bk8;have ew:IntKind.wrap .i64 ((D.length:Int)+1)=((D++ [p]).length:Int):=by rw[ac,aw,fL (by omega)];omega
    rw[ew];exact hI (D++ [p],T) _ _ ⟨⟨b8,rfl,bk8⟩,rfl,by rw[e3];simp,hu07.tr hu8⟩ (by simp)
  ·have hT:T= []:=aq.1 (by omega)
   subst hT;rw[aE]at e3;subst e3;exact hk h5 b bk hu5
 |succ m ih=>
  intro hm h s L hs hW hr hn K hk;have gW:∀{h'},Upd No h h'→∀y,W y→y<h'.size:=fun k y hy=>bH (hW y hy) k.size
  have hlev:13-(m+1)=12-m:=by omega
  have hl13:12-m<13:=by omega
  refine xw s ((13-(m+1):Nat):Int) ?_;unfold rZ bR cn nv bV aL eB um GR xM qE Lu;rw[hlev];refine aQ fun h1 b1 k1=>⟨_,B6 b1,?_⟩
  have ne:(((12-m:Nat):Int)==(13:Int))=false:=by rw[beq_eq_false_iff_ne];omega
  rw[ne];refine aj.2 (aQ fun h2 b2 k2=>?_)
  have z1:=bw b1;have z2:=bw b2;have s1:=k1.size;refine z8 b2 oA fun h3 b3 hu3=>?_
  have c1:=hu3.oth (k2.get0 b1) (by omega);have two3:Two h.size h1.size (12-m) h3:=⟨c1,b3⟩;have k03:Upd No h h3:=(k1.tr k2).own hu3 s1;have s3:h2.size≤h3.size:=hu3.size;refine KH (hs.upd k03 fun _ h=>h.elim) (by omega) fun e h4 ho4 hu4=>?_
  have two4:=two3.upd hu4;refine st (Pa z (12-m)) (QA hl13 (by omega) (by omega)) ho4 two4 (by omega) fun h5 R ho5 hst hu5=>?_
  have k45:Upd No h3 h5:=hu4.trans hu5 fun b hb=>.inr hb
  have two5:=two3.upd k45;have hRl:=hst.eqf.len;have hRp:∀c,part z (12-m) c R=part z (12-m) c L:=fun c=>by
   by_cases hex:∃q∈R++L,ck z (12-m) q.1=c
   ·obtain⟨q,_,hq⟩:=hex
    have e1:∀X:List Pr,X.filter (EB (Pb z (12-m)) q)=part z (12-m) c X:=fun X=>List.filter_congr fun p _=>by rw[Oh,hq]
    rw[←e1,←e1];exact hst.eqf.flt q
   ·rw[wA fun p hp e=>hex ⟨p,dA _ hp,e⟩,wA fun p hp e=>hex ⟨p,dH _ hp,e⟩]
  have k05:=k03.tr k45;refine wE (gW k05) fun h6 b6 nd6 hu6=>?_
  have k06:=k05.tr hu6;have hlen:=ho5.len;have hsl:Sl (ny z) 3 No h6 e R:=(ho5.sl fun _ _ _ h=>h).upd hu6 fun _ h=>h.elim
  refine LoopP.ghost (fun(g:List Pr×List Pr) (t:SliceV×Option Addr) h'=>R=g.1++g.2∧(∀d∈g.1,∀y∈g.2,ck z (12-m) d.1<ck z (12-m) y.1)∧Sl (ny z) 3 No h' t.1 g.2∧t.1.len≤t.1.cap∧(∃b sl,t.2=some ⟨b,0,none⟩∧NodeAt W h' b sl∧∀c,c<32→SlotIs W z h' m sl c (part z (12-m) c g.1))∧Upd No h6 h') (fun g=>g.2.length) ([],R)
   ⟨rfl,fun d hd=>(by cases hd),hsl,ho5.cap,⟨b6,_,rfl,nd6,fun c _=>.inl ⟨rfl,rfl,rfl⟩⟩,Upd.refl _ _⟩ ?_
  rintro I ⟨D,T⟩ ⟨sT,tb⟩ h7 ⟨e3,hDT,hsT,hcT,⟨b,sl,e1,nd,hsl⟩,hu7⟩ hI;simp only at e1 e3 hDT hsT hcT nd hsl;subst e1;have hlT:=hsT.len;have hRT:R.length=D.length+T.length:=by rw[e3,ac]
  have k07:=k06.tr hu7;have two7:=(two5.upd hu6).upd hu7;refine av (fun hgt=>?_) fun hle=>?_
  ·rcases T with _|⟨p,T⟩
   ·simp only[aI]at hlT;simp only at hgt;omega
   obtain⟨a,ha,_,hv⟩:=hsT.at (i:=0) (x:=p) rfl;refine⟨_,B6 two7.2,⟨by omega,by simp only[ap]at hlT;simp only;omega⟩,a,ha,p.1,hv 0 _ rfl,p.2,hv 1 _ rfl,ga z p.1,hv 2 _ rfl,?_⟩
   have two8:∀{h8},Upd No h7 h8→Two h.size h1.size (12-m) h8:=fun k=>two7.upd k
   refine⟨Bm (z:=z) hl13 two7.1 p fun h8 k8=>aQ fun h9 b9 k9=>z8 b9 oA fun h10 b10 hu10=>?_,aQ fun h8 b8 k8=>⟨?_,B6 (two8 k8).2,Bm (z:=z) hl13 (two8 k8).1 p fun h9 k9=>z8 (k9.get0 b8) oA fun h10 b10 hu10=>?_⟩⟩
   case refine_2=>
    obtain⟨a',ha',_,hv'⟩:=(hsT.upd k8 fun _ h=>h.elim).at (i:=0) (x:=p) rfl
    rw[ha]at ha';cases ha';exact⟨hv' 0 _ rfl,hv' 1 _ rfl,hv' 2 _ rfl⟩
   case' refine_1=>
    have k710:Upd No h7 h10:=(k8.tr k9).own hu10 k8.size;obtain⟨vb,evb⟩:∃vb,vb=h8.size:=⟨_,rfl⟩;rw[fk h8,←evb];rw[←evb]at b10
   case' refine_3=>
    have k710:Upd No h7 h10:=(k8.tr k9).own hu10 (ag _);obtain⟨vb,evb⟩:∃vb,vb=h7.size:=⟨_,rfl⟩;rw[fk h7,←evb];rw[←evb]at b10
   all_goals
    have hTl:(p::T).length≤N:=by omega
    refine Ku (hsT.upd k710 fun _ h=>h.elim) (by omega) (g:=fun q=>decide (ck z (12-m) q.1≠ck z (12-m) p.1)) (fun q _ h' K' hu' hK=>?_) fun h11 A B e hAB hA hBn hBc hu11=>?_
    ·refine HV.mk' (Bw (q.1,q.2,ga z q.1) ⟨h1.size,0,none⟩ ⟨vb,0,none⟩ ?_)
     unfold tP ar bV aF qE Hy;refine aQ fun h12 b12 k12=>?_
     have k':=hu'.tr k12;refine⟨_,B6 (two8 (k710.tr k')).2,_,vc b12 0,_,vc b12 1,_,vc b12 2,_,B6 (k'.get0 b10),?_⟩;refine Bm (z:=z) hl13 (two8 (k710.tr k')).1 q fun h13 k13=>⟨B6 ((k'.tr k13).get0 b10),?_⟩
     have eb:(((ck z (12-m) q.1:Nat):Int) !=((ck z (12-m) p.1:Nat):Int))=decide (ck z (12-m) q.1≠ck z (12-m) p.1):=by
      rw[gq,bne_iff_ne,decide_eq_true_iff];omega
     rw[eb];exact hK h13 (k12.tr k13)
    obtain⟨A',rfl⟩:∃A',A=p::A':=by
     rcases A with _|⟨a0,A'⟩
     ·have:=(hBc p T (by rw[cd]at hAB;exact hAB.symm)).2
      simp at this
     ·rw[cR]at hAB
      exact⟨A',by rw[(eg.inj hAB).1]⟩
    generalize hAe:p::A'=A at*;have hpA:p∈A:=by rw[←hAe];exact au ..
    have hA1:0<A.length:=List.length_pos_of_mem hpA;have hsrt:=hst.srt;rw[hAB]at hDT hsT hTl hlT;rw[e3,hAB]at hsrt;simp only[ac]at hTl hlT;have hcA:∀q∈A,ck z (12-m) q.1=ck z (12-m) p.1:=fun q hq=>by simpa using hA q hq
    have hcB:∀q∈B,ck z (12-m) q.1≠ck z (12-m) p.1:=fun q hq=>by
     rcases B with _|⟨b0,B'⟩
     ·cases hq
     have hb0:ck z (12-m) b0.1≠ck z (12-m) p.1:=by simpa using(hBc b0 B' rfl).2
     have h1:=of_decide_eq_false (hsrt.right.cross p hpA b0 (au ..));rcases az.1 hq with rfl|hq
     ·exact hb0
     ·have h2:=of_decide_eq_false ((aS.1 hsrt.right.right).1 q hq)
      omega
    obtain⟨r1,r2,r3,r4,r5⟩:=LU hsrt hDT hpA hcA hcB;have hi:=JD z (12-m) p.1;have hsi:=hsl _ hi;rw[r2]at hsi;obtain⟨hsp,hskn⟩:sl.p (ck z (12-m) p.1)=none∧sl.k (ck z (12-m) p.1)=none:=by
     rcases hsi with⟨_,h1,h2⟩|⟨q,h1,_⟩|⟨h1,_⟩
     ·exact⟨h1,h2⟩
     ·cases h1
     ·simp at h1
    have k611:=(hu7.tr k710).tr hu11;have k711:=k710.tr hu11;have b11:=hu11.get0 b10;have two11:=two8 k711;refine Join.intro (fun t h'=>t=(A.length:Int)∧h'=h11) (fun R1 hR1=>?_) ?_
    ·refine av (fun hneg=>hR1 _ _ ⟨?_,rfl⟩) fun hpos=>hR1 _ _ ⟨?_,rfl⟩
     ·rcases B with _|⟨b0,B'⟩
      ·have hlT:sT.len=A.length+0:=hlT
       show((sT.len:Nat):Int)=(A.length:Int)
       omega
      ·have:=(hBc b0 B' rfl).1;omega
     ·rcases B with _|⟨b0,B'⟩
      ·have:=hBn rfl;omega
      ·exact(hBc b0 B' rfl).1
    rintro t h' ⟨rfl,rfl⟩;refine Join.intro (fun t h9=>∃b' sl',t=some ⟨b',0,none⟩∧NodeAt W h9 b' sl'∧(∀c,c<32→SlotIs W z h9 m sl' c (part z (12-m) c (D++A)))∧Upd No h' h9) (fun R1 hR1=>?_) ?_
    ·refine CondP.intro (fun hone=>?_) fun hmore=>?_
     ·have hone:A.length=1:=by have:=eq_of_beq hone;omega
      have hAp:A= [p]:=by
       rw[←hAe]at hone⊢;simp only[ap]at hone;rw[aq.1 (show A'.length=0 by omega)]
      obtain⟨a',ha',_,hv'⟩:=(hsT.upd k711 fun _ h=>h.elim).at (i:=0) (x:=p) (by rw[←hAe];rfl)
      rw[ha]at ha';cases ha';refine⟨_,B6 b11,⟨by omega,by omega⟩,a,ha,p.1,hv' 0 _ rfl,p.2,hv' 1 _ rfl,?_⟩
      refine G7 (nd.upd k711 fun _ h=>h.elim) (gW (k06.tr k611)) hi (fun _ _=>hskn) p fun h12 b12 nd12 hu12=>hR1 _ _ ⟨b12,_,rfl,nd12,fun c hc=>?_,hu12⟩
      by_cases e:c=ck z (12-m) p.1
      ·rw[e,r4,hAp]
       exact .inr (.inl ⟨p,rfl,qW,qW⟩)
      ·rw[r3 c e]
       have t:=SlotIs.upd0 (k711.tr hu12) (hsl c hc);have e1:upd sl.p (ck z (12-m) p.1) (some p) c=sl.p c:=tV e;have e2:upd sl.k (ck z (12-m) p.1) none c=sl.k c:=tV e;unfold SlotIs at t;rw[←e1,←e2]at t;exact t
     ·have hmore:A.length≠1:=fun e=>by rw[e]at hmore;simp at hmore
      refine⟨_,B6 b11,⟨by omega,(by show((A.length:Nat):Int)≤((sT.cap:Nat):Int);omega)⟩,_,B6 two11.1,?_⟩;have ew:IntKind.wrap .i64 (((12-m:Nat):Int)+1)=((13-m:Nat):Int):=by rw[fL (by omega)];omega
      rw[ew];have hsA:=Sl.sub (hsT.upd k711 fun _ h=>h.elim) (l:=0) (hi:=A.length) (m:=sT.cap) (c:=sT.cap-0) (aK _) (by simp) (by omega)
      rw[dB,eT,List.take_left]at hsA;have hAL:A=part z (12-m) (ck z (12-m) p.1) L:=by
       rw[←hRp,e3,hAB];exact r1.symm
      refine ih (by omega) hsA (gW (k06.tr k611)) (by rw[hAL];exact rD hr) (by omega) fun h12 kb t12 hu12=>?_
      refine⟨B6 (two11.upd hu12).1,B6 (hu12.get0 b11),?_⟩;refine J0 (nd.upd (k711.tr hu12) fun _ h=>h.elim) (gW ((k06.tr k611).tr hu12)) hi (fun _ _=>hsp) ⟨kb,0,none⟩ fun h13 b13 nd13 hu13=>⟨B6 ((two11.upd hu12).upd hu13).1,hR1 _ _ ⟨b13,_,rfl,nd13,fun c hc=>?_,hu12.tr hu13⟩⟩
      by_cases e:c=ck z (12-m) p.1
      ·rw[e,r4]
       exact .inr (.inr ⟨by omega,qW,kb,qW,TrieAt.upd0 hu13 t12⟩)
      ·rw[r3 c e]
       have t:=SlotIs.upd0 ((k711.tr hu12).tr hu13) (hsl c hc);have e1:upd sl.p (ck z (12-m) p.1) none c=sl.p c:=tV e;have e2:upd sl.k (ck z (12-m) p.1) (some (some ⟨kb,0,none⟩)) c=sl.k c:=tV e;unfold SlotIs at t;rw[←e1,←e2]at t;exact t
    ·rintro t h9 ⟨b',sl',rfl,nd9,hs9,hu9⟩
     refine⟨⟨by omega,(by show((A.length:Nat):Int)≤((sT.len:Nat):Int);omega)⟩,?_⟩;rw[aM];have hsB:=Sl.sub ((hsT.upd k711 fun _ h=>h.elim).upd hu9 fun _ h=>h.elim) (l:=A.length) (hi:=(A++B).length) (m:=sT.cap) (c:=sT.cap-A.length) (by simp) (ag _) (by rw[ac];omega)
     rw[jd,ac,Nat.add_sub_cancel_left,bQ]at hsB;have elen:sT.len-A.length=B.length:=by omega
     rw[elen];refine hI (D++A,B) _ _ ⟨by rw[e3,hAB,ao],r5,hsB,by simp only;omega,⟨b',sl',rfl,nd9,hs9⟩,k611.tr hu9⟩ ?_
     simp only[hAB,ac];omega
  ·have hT:T= []:=by
    refine aq.1 ?_;simp only at hle;omega
   subst hT;rw[aE]at e3;subst e3;exact hk h7 b ⟨sl,nd,fun c hc=>by
    have:=hsl c hc
    rw[hRp c]at this
    exact this⟩ k07
end Go.Proofs
namespace Go.Proofs
open Go Go.Lift
theorem MN{z:Hs}{M:Nat→Prop}{h:ad}{so:SliceV}{out:List Pr}{p:Pr}{K:SliceV→ad→Prop}(ho:OwnS (ny z) 3 aG M h so out)(hM:∀b,h.size≤b→M b)(hn:out.length+1≤1000000000)
  (hk:∀s' h',OwnS (ny z) 3 aG M h' s' (out++ [p])→Upd M h h'→K s' h'):
  ∃xs,SRow (hnew h (ny z p) aG) (some (aC h)) (1*3) xs∧AppP (some [.string (⟨#[]⟩:ByteArray),.string (⟨#[]⟩:ByteArray),.int .u64 0]) 3 40 aG so.a so.len so.cap 1 xs (hnew h (ny z p) aG) K:=by
 have k:=Upd.hnew No h (ny z p) aG;have h1:OwnS (ny z) 3 aG (fun _=>True) (hnew h (ny z p) aG) ⟨some (aC h),1,1⟩ [p]:=⟨rfl,En z,ag _,.inr ⟨h.size,[],rfl,trivial,dj ..,rfl⟩⟩
 refine⟨_,(h1.sl (W:=No) fun _ _ _ h=>h).srow,?_⟩
 refine AppP.own (ys:= [p]) (ho.upd k fun _ _ h=>h) rfl rfl rfl rfl (by omega) (by simp only[aw];omega) (hM _ (by rw[f9];omega)) fun s' h' ho' hu=>?_
 exact hk s' h' ho' ((Upd.hnew M h _ _).tr hu)
theorem zN(l:List Pr):(lG l).length≤l.length:=by
 have:∀(l acc:List Pr),(l.foldl (fun acc p=>lI p acc) acc).length≤acc.length+l.length:=by
  intro l;induction l with
  |nil=>intro acc;simp
  |cons p l ih=>
   intro acc;rw[List.foldl_cons];have h1:=ih (lI p acc);have h2:=Dt p (l:=acc);simp only[ap];omega
 have:=this l [];unfold lG;simpa using this
theorem KJ{N:Nat}(st:StP N)(sh:StH N)(hN:N≤100000){z:Hs}{W W0:Nat→Prop}{h:ad}{s:SliceV}{l:List Pr}(hs:Sl dD 2 W0 h s l)(hW:∀y,W y→y<h.size)(hn:l.length≤N){K:Option Addr→ad→Prop}
  (hk:∀h' b,TrieAt W z h' 13 b (lG l)→Upd No h h'→K (some ⟨b,0,none⟩) h'):HC PG qQ [.agg #[.int .u64 z.k0,.int .u64 z.k1,.int .u64 z.mask],.slice s.a s.len s.cap] [.c .ptr] K h:=by
 refine CG (z.k0,z.k1,z.mask) s ?_;unfold vf cn ar nv uJ un jm aL aF im M8 um GR is;refine aQ fun h1 b1 k1=>?_
 refine Ar st (by omega) (W':=No) (hs.upd k1 fun _ h=>h.elim) (fun _ h=>h.elim) (by omega) fun e h3 hse _ k3=>?_
 have c3:=k3.get0 b1;have k03:=k1.tr k3;have hln:=zN l;have hrs:=qZ l;generalize lG l=L at*;have hlen:=hse.len;refine LoopP.ghost (fun(g:List Pr×List Pr) (t:SliceV×Int) h'=>t.2=(g.1.length:Int)∧L=g.1++g.2∧OwnS (ny z) 3 aG (fun b=>h3.size≤b) h' t.1 g.1∧Upd No h3 h') (fun g=>g.2.length) ([],L) ⟨rfl,rfl,OwnS.nil (En z),Upd.refl _ _⟩ ?_
 rintro I ⟨D,T⟩ ⟨sa,ti⟩ h6 ⟨e2,e3,ho,hu⟩ hI;simp only at e2 e3 ho;subst e2 e3;simp only[ac]at hlen hln;have hlD:=ho.len;refine av (fun hlt=>?_) fun hge=>?_
 ·rcases T with _|⟨p,T⟩
  ·simp only[aI]at hlen;simp only at hlt;omega
  simp only[ap]at hlen hln;refine Join.intro (fun t h'=>OwnS (ny z) 3 aG (fun b=>h3.size≤b) h' t (D++ [p])∧Upd No h3 h') (fun R hR=>?_) ?_
  ·obtain⟨a,ha,_,hv⟩:=(hse.upd hu fun _ h=>h.elim).at (i:=D.length) (x:=p) (by rw[ax (ag _),cO];rfl)
   refine⟨⟨by omega,by simp only;omega⟩,a,ha,p.1,hv 0 _ rfl,p.2,hv 1 _ rfl,?_⟩
   refine vy (p:=p) fun h8 b8 k8=>?_
   have c8:=(hu.tr k8).get0 c3;refine⟨p.1,vc b8 0,p.2,vc b8 1,_,vc c8 0,_,vc c8 1,_,vc c8 2,p.1,vc b8 0,?_⟩;refine zU fun h9 k9=>?_
   have b9:=k9.get0 b8;refine⟨⟨vc b9 0,vc b9 1⟩,bM ?_⟩;have hu9:=(hu.tr k8).tr k9;have z9:=hu9.size;refine MN (z:=z) (p:=p) (((ho.upd k8 fun _ _ h=>h).upd k9 fun _ _ h=>h)) (fun b hb=>by omega) (by omega) fun s' h' ho' hu'=>hR _ _ ⟨ho',hu9.trans hu' fun b hb=>.inr hb⟩
  ·rintro s' h' ⟨ho',hu'⟩
   have ew:IntKind.wrap .i64 ((D.length:Int)+1)=((D++ [p]).length:Int):=by rw[ac,aw,fL (by omega)];omega
   rw[ew];exact hI (D++ [p],T) _ _ ⟨rfl,by simp,ho',hu'⟩ (by simp)
 ·have hT:T= []:=aq.1 (by simp only at hge;omega)
  subst hT;rw[aE]at hrs;rw[aE]at hk;have k06:=k03.tr hu;exact Nq sh hN 13 (ag _) (ho.sl fun _ _ _ h=>h) (fun y hy=>bH (hW y hy) k06.size) hrs (by simp only[aI]at hln;omega) fun h' b t hu'=>hk h' b t (k06.tr hu')
theorem StP.less{N M:Nat}(h:StP N)(hm:M≤N):StP M:=fun w _ _ _ hc _ _ _ ho hi hn _ hk=>h w hc ho hi (bh hn hm) hk
theorem StH.less{N M:Nat}(h:StH N)(hm:M≤N):StH M:=fun w _ _ _ hc _ _ _ ho hi hn _ hk=>h w hc ho hi (bh hn hm) hk
end Go.Proofs
namespace Go.Proofs
open Go Go.Lift
theorem nR{a b:ByteArray}:kl a b↔Op.bytesLess a.data.toList b.data.toList=true:=by unfold kl;rw[ByteArray.toList_eq,ByteArray.toList_eq]
theorem uj{a b:UInt8}{x y:List UInt8}:Op.bytesLess (a::x) (b::y)=true↔a.toNat<b.toNat∨(a=b∧Op.bytesLess x y=true):=by
 simp only[Op.bytesLess,Bool.or_eq_true,decide_eq_true_iff,Bool.and_eq_true,beq_iff_eq,UInt8.lt_iff_toNat_lt]
theorem Bk(x:List UInt8):Op.bytesLess x []=false:=by cases x<;>rfl
theorem EG{x y:List UInt8}:∀pre:List UInt8,Op.bytesLess (pre++x) (pre++y)=true↔Op.bytesLess x y=true
 | []=>Iff.rfl
 |a::pre=>by rw[cR,cR,uj,EG pre];simp
theorem P9{x y:List UInt8}(h:Op.bytesLess x y=true)(hx:x≠[])(hy:y≠[]):hd x≤hd y:=by
 match x,y,hx,hy with
 |a::x,b::y,_,_=>
  show a.toNat≤b.toNat
  rcases uj.1 h with h|⟨rfl,_⟩<;>omega
theorem Fj:∀(t:Nat) {f p g:List UInt8},t≤cm f g→(f=p∨Op.bytesLess f p=true)→(p=g∨Op.bytesLess p g=true)→p.take t=f.take t∧t≤p.length
 |0,f,p,g,_,_,_=>by simp
 |t+1,[],p,g,h,_,_=>by simp[cm]at h
 |t+1,a::f,p,[],h,_,_=>by simp[cm]at h
 |t+1,a::f,p,b::g,h,h1,h2=>by
  unfold cm at h;split at h
  ·rename_i e
   subst e;rcases p with _|⟨c,p⟩
   ·rcases h1 with h1|h1
    ·cases h1
    ·rw[Bk]at h1;cases h1
   ·have hc:c=a:=by
     rcases h1 with h1|h1
     ·exact(eg.inj h1).1.symm
     ·rcases h2 with h2|h2
      ·exact(eg.inj h2).1
      ·have q1:=uj.1 h1
       have q2:=uj.1 h2;rcases q1 with q1|⟨q1,_⟩
       ·rcases q2 with q2|⟨q2,_⟩
        ·omega
        ·exact q2
       ·exact q1.symm
    subst hc;have:=Fj t (f:=f) (p:=p) (g:=g) (by omega) (h1.imp (fun h=>(eg.inj h).2) fun h=>by
     rcases uj.1 h with h|⟨_,h⟩
     ·omega
     ·exact h) (h2.imp (fun h=>(eg.inj h).2) fun h=>by
     rcases uj.1 h with h|⟨_,h⟩
     ·omega
     ·exact h)
    rw[dW,dW,this.1,ap];exact⟨rfl,by omega⟩
  ·omega
theorem JB:∀f:List UInt8,cm f f=f.length
 | []=>rfl
 |a::f=>by unfold cm;rw[if_pos rfl,JB f];rfl
abbrev ky(p:Pr):List UInt8:=p.1.data.toList
def Lk(l:List Pr)(pre k:List UInt8)(v:ByteArray):Prop:=∃p∈l,ky p=pre++k∧p.2=v
structure Beg(l:List Pr)(pre:List UInt8):Prop where
 up:d9 l
 at_:∀p∈l,(ky p).take pre.length=pre∧pre.length<(ky p).length
theorem Beg.sub{l l':List Pr}{pre:List UInt8}(b:Beg l pre)(h:l'.Sublist l):Beg l' pre:=⟨b.up.sublist h,fun p hp=>b.at_ p (h.subset hp)⟩
theorem Beg.split{l:List Pr}{pre:List UInt8}(b:Beg l pre){p:Pr}(hp:p∈l):ky p=pre++(ky p).drop pre.length∧(ky p).drop pre.length≠[]:=by
 obtain⟨h1,h2⟩:=b.at_ p hp;refine⟨?_,fun e=>?_⟩
 ·conv=>lhs;rw[←aA pre.length (ky p),h1]
 ·have:=congrArg dX e
  rw[aV,aI]at this;omega
def bt(n:Nat)(p:Pr):Nat:=hd ((ky p).drop n)
theorem Beg.mono{A B:List Pr}{pre:List UInt8}(b:Beg (A++B) pre){x y:Pr}(hx:x∈A)(hy:y∈B):bt pre.length x≤bt pre.length y:=by
 have h:=(cK.1 b.up).2.2 x hx y hy;rw[nR]at h;obtain⟨e1,n1⟩:=b.split (dA B hx);obtain⟨e2,n2⟩:=b.split (dH A hy);change Op.bytesLess (ky x) (ky y)=true at h;rw[e1,e2,EG]at h;exact P9 h n1 n2
theorem yo{l:List Pr}{pre:List UInt8}{f g:Pr}(b:Beg l pre)(hf:∃r,l=f::r)(hg:l.getLast? =some g)(hb:bt pre.length f=bt pre.length g):
  pre.length<cm (ky f) (ky g)∧cm (ky f) (ky g)≤(ky f).length∧(∀p∈l,(ky p).take (cm (ky f) (ky g))=(ky f).take (cm (ky f) (ky g)))∧(∀p∈l,p=f∨cm (ky f) (ky g)<(ky p).length)∧
   (cm (ky f) (ky g)<(ky f).length→cm (ky f) (ky g)<(ky g).length∧hd ((ky f).drop (cm (ky f) (ky g)))≠hd ((ky g).drop (cm (ky f) (ky g)))):=by
 obtain⟨r,rfl⟩:=hf;have hfm:f∈f::r:=au ..;have hgm:g∈f::r:=fh hg;obtain⟨e1,n1⟩:=b.split hfm;obtain⟨e2,n2⟩:=b.split hgm;have hcp:pre.length<cm (ky f) (ky g):=by
  have:∀(q x y:List UInt8),cm (q++x) (q++y)=q.length+cm x y:=by
   intro q x y;induction q with
   |nil=>simp
   |cons a q ih=>simp only[cR,cm,if_true,ih,ap];omega
  have h1:=this pre ((ky f).drop pre.length) ((ky g).drop pre.length);rw[←e1,←e2]at h1;have h2:=Pn n1 n2 hb;omega
 have hle:=MH (ky f) (ky g);have hfp:∀p∈f::r,ky f=ky p∨Op.bytesLess (ky f) (ky p)=true:=fun p hp=>by
  rcases az.1 hp with rfl|hp
  ·exact .inl rfl
  ·exact .inr (nR.1 ((aS.1 b.up).1 p hp))
 have hpg:∀p∈f::r,ky p=ky g∨Op.bytesLess (ky p) (ky g)=true:=fun p hp=>by
  rcases List.eq_nil_or_concat (f::r)with h|⟨l',y,h⟩
  ·cases h
  ·rw[List.concat_eq_append]at h
   rw[h,List.getLast?_concat]at hg;cases hg;have hup:=b.up;rw[h]at hp hup;rcases bP.1 hp with hp|hp
   ·exact .inr (nR.1 ((cK.1 hup).2.2 p hp g (aJ.2 rfl)))
   ·rw[aJ.1 hp];exact .inl rfl
 have hsw:∀p∈f::r,(ky p).take (cm (ky f) (ky g))=(ky f).take (cm (ky f) (ky g))∧cm (ky f) (ky g)≤(ky p).length:=fun p hp=>Fj _ (ag _) (hfp p hp) (hpg p hp)
 have hne:∀p∈f::r,p=f∨cm (ky f) (ky g)<(ky p).length:=fun p hp=>by
  obtain⟨h1,h2⟩:=hsw p hp;rcases Nat.lt_or_ge (cm (ky f) (ky g)) (ky p).length with h|h
  ·exact .inr h
  ·left
   have hl:(ky p).length=cm (ky f) (ky g):=by omega
   have e:ky p=(ky f).take (cm (ky f) (ky g)):=by rw[←h1,←hl,bQ]
   rcases az.1 hp with rfl|hp
   ·rfl
   ·have hk:=nR.1 ((aS.1 b.up).1 p hp)
    change Op.bytesLess (ky f) (ky p)=true at hk;exfalso;have e3:ky f=ky p++(ky f).drop (cm (ky f) (ky g)):=by rw[e,aA]
    have h4:Op.bytesLess (ky p++(ky f).drop (cm (ky f) (ky g))) (ky p++ [])=true:=by rw[aE,←e3];exact hk
    rw[EG,Bk]at h4;cases h4
 refine⟨hcp,hle.1,fun p hp=>(hsw p hp).1,hne,fun hlt=>?_⟩
 have hgl:cm (ky f) (ky g)<(ky g).length:=by
  rcases hne g hgm with h|h
  ·exfalso
   rw[h,JB]at hlt;omega
  ·exact h
 exact⟨hgl,JC _ _ hlt hgl⟩
theorem Bj{l l':List Pr}{pre:List UInt8}{f g:Pr}(b:Beg l pre)(hf:∃r,l=f::r)(hg:l.getLast? =some g)(hb:bt pre.length f=bt pre.length g){F:Fo}(hc:jA F)
  (hl':l'=if(ky f).length=cm (ky f) (ky g)then l.drop 1 else l)(hF:∀k v,y9 F k v↔Lk l' ((ky f).take (cm (ky f) (ky g))) k v){w:Option ByteArray}(hw:w=if(ky f).length=cm (ky f) (ky g)then some f.2 else none){lab:List UInt8}(hlab:lab=((ky f).take (cm (ky f) (ky g))).drop pre.length):
  II (lab,w,F)∧hd lab=bt pre.length f∧∀k v,Il (lab,w,F) k v↔Lk l pre k v:=by
 obtain⟨h1,h2,h3,h4,h5⟩:=yo b hf hg hb;obtain⟨r,rfl⟩:=hf;have hfm:f∈f::r:=au ..;have hgm:g∈f::r:=fh hg;generalize cm (ky f) (ky g)=to at*;have epre:pre++lab=(ky f).take to:=by
  have:=(b.at_ f hfm).1;rw[hlab];conv=>rhs;rw[←aA pre.length ((ky f).take to),List.take_take,Nat.min_eq_left (by omega),this]
 have hlab0:lab≠[]:=fun e=>by
  have:=congrArg dX hlab;rw[e,aI,aV,aD]at this;omega
 have hin:∀k v,Il (lab,w,F) k v↔Lk (f::r) pre k v:=by
  intro k v;constructor
  ·rintro⟨q,e,⟨rfl,e2⟩|e2⟩
   ·simp only at e e2
    rw[aE]at e;subst e;rw[hw]at e2;split at e2
    ·rename_i hto
     cases e2;refine⟨f,hfm,?_,rfl⟩;rw[epre,←hto,bQ]
    ·cases e2
   ·simp only at e e2
    obtain⟨p,hp,e3,rfl⟩:=(hF q v).1 e2;refine⟨p,?_,?_,rfl⟩
    ·rw[hl']at hp
     split at hp
     ·exact aH _ hp
     ·exact hp
    ·rw[e3,e,←ao,epre]
  ·rintro⟨p,hp,e,rfl⟩
   have hpt:=h3 p hp;have ep:ky p=pre++(lab++(ky p).drop to):=by
    rw[←ao,epre,←hpt,aA]
   have ek:k=lab++(ky p).drop to:=List.append_cancel_left (e.symm.trans ep);refine⟨(ky p).drop to,ek,?_⟩;by_cases hto:(ky f).length=to
   ·rw[if_pos hto]at hw hl'
    rcases az.1 hp with rfl|hp
    ·left
     refine⟨List.drop_eq_nil_of_le (by omega),?_⟩;simp only;rw[hw]
    ·right
     refine(hF _ _).2 ⟨p,by rw[hl'];exact hp,?_,rfl⟩
     rw[←hpt,aA]
   ·rw[if_neg hto]at hw hl'
    right;refine(hF _ _).2 ⟨p,by rw[hl'];exact hp,?_,rfl⟩
    rw[←hpt,aA]
 refine⟨⟨hlab0,?_,hc⟩,?_,hin⟩
 ·by_cases hto:(ky f).length=to
  ·left;simp only;rw[hw,if_pos hto];rfl
  ·have hlt:to<(ky f).length:=by omega
   obtain⟨hgl,hne⟩:=h5 hlt;refine(Ic hc).2 (.inr ⟨(ky f).drop to,(ky g).drop to,f.2,g.2,.inr ?_,.inr ?_,fun e=>?_,fun e=>?_,hne⟩)
   ·exact(hF _ _).2 ⟨f,by rw[hl',if_neg hto];exact hfm,(aA ..).symm,rfl⟩
   ·exact(hF _ _).2 ⟨g,by rw[hl',if_neg hto];exact hgm,by rw[←h3 g hgm,aA],rfl⟩
   ·have:=congrArg dX e
    rw[aV,aI]at this;omega
   ·have:=congrArg dX e
    rw[aV,aI]at this;omega
 ·have e:=(b.split hfm).1
  unfold bt;have e2:(ky f).drop pre.length=lab++(ky f).drop to:=by
   have h6:ky f=pre++(lab++(ky f).drop to):=by rw[←ao,epre,aA]
   conv=>lhs;rw[h6]
   rw[jd]
  rw[e2,vC hlab0]
structure Row(L:List Bn)(D T:List Pr)(pre:List UInt8):Prop where
 can:∀n∈L,II n
 up:L.Pairwise fun m n=>hd m.1<hd n.1
 lo:∀n∈L,∀p∈T,hd n.1<bt pre.length p
 got:∀k v,(∃n∈L,Il n k v)↔Lk D pre k v
theorem Row.nil(T:List Pr)(pre:List UInt8):Row [] [] T pre:=⟨fun n h=>(by cases h),gk,fun n h=>(by cases h),fun k v=>⟨fun⟨n,h,_⟩=>(by cases h),fun⟨p,h,_⟩=>(by cases h)⟩⟩
theorem Row.more{L:List Bn}{D A B:List Pr}{pre:List UInt8}{n:Bn}{p:Pr}(r:Row L D (A++B) pre)(bg:Beg (A++B) pre)(hp:p∈A)(hA:∀a∈A,bt pre.length a=bt pre.length p)(hB:∀b B',B=b::B'→bt pre.length b≠bt pre.length p)(hc:II n)(hn:hd n.1=bt pre.length p)(hg:∀k v,Il n k v↔Lk A pre k v):Row (L++ [n]) (D++A) B pre:=by
 refine⟨fun m hm=>?_,cK.2 ⟨r.up,List.pairwise_singleton ..,fun a ha b hb=>?_⟩,fun m hm q hq=>?_,fun k v=>?_⟩
 ·rcases bP.1 hm with hm|hm
  ·exact r.can m hm
  ·rw[aJ.1 hm];exact hc
 ·rw[aJ.1 hb,hn]
  exact r.lo a ha p (dA _ hp)
 ·rcases bP.1 hm with hm|hm
  ·exact r.lo m hm q (dH _ hq)
  ·rw[aJ.1 hm,hn]
   rcases B with _|⟨b0,B'⟩
   ·cases hq
   have h1:=hB b0 B' rfl;have h2:=bg.mono hp (au (a:=b0) (l:=B'));rcases az.1 hq with rfl|hq
   ·omega
   ·have bg':Beg ([b0]++B') pre:=bg.sub (lr A _)
    have:=bg'.mono (aJ.2 rfl) hq;omega
 ·constructor
  ·rintro⟨m,hm,hi⟩
   rcases bP.1 hm with hm|hm
   ·obtain⟨q,hq,e⟩:=(r.got k v).1 ⟨m,hm,hi⟩
    exact⟨q,dA _ hq,e⟩
   ·rw[aJ.1 hm]at hi
    obtain⟨q,hq,e⟩:=(hg k v).1 hi;exact⟨q,dH _ hq,e⟩
  ·rintro⟨q,hq,e⟩
   rcases bP.1 hq with hq|hq
   ·obtain⟨m,hm,hi⟩:=(r.got k v).2 ⟨q,hq,e⟩
    exact⟨m,dA _ hm,hi⟩
   ·exact⟨n,dH _ (aJ.2 rfl),(hg k v).2 ⟨q,hq,e⟩⟩
theorem Row.done{L:List Bn}{D:List Pr}{pre:List UInt8}(r:Row L D [] pre):jA (.ofL L)∧∀k v,y9 (.ofL L) k v↔Lk D pre k v:=by
 refine⟨lO.2 ?_,fun k v=>?_⟩
 ·rw[Fo.to_of];exact⟨r.up,r.can⟩
 ·rw[j1,Fo.to_of];exact r.got k v
end Go.Proofs
namespace Go.Proofs
open Go Go.Lift
theorem My(s:ByteArray)(a b:Nat):(s.extract a b).data.toList=(s.data.toList.take b).drop a:=by
 rw[jE,Array.toList_extract,List.extract_eq_take_drop,List.drop_take]
theorem AW(s:ByteArray):s.data.toList.length=s.size:=by simp
theorem Kid.less{W W':Nat→Prop}{h:ad}(hm:∀b,W' b→W b∨h.size≤b){a:Option Addr}{n:Bn}:Kid W h a n→Kid W' h a n
 |⟨b,sl,e1,e2,e3⟩=>⟨b,sl,e1,e2,e3.less hm⟩
theorem Kid.updM{W M:Nat→Prop}{h h':ad}(k:Upd M h h')(hm:∀b,M b→W b∨h.size≤b){a:Option Addr}{n:Bn}:Kid W h a n→Kid W h' a n
 |⟨b,sl,e1,e2,e3⟩=>⟨b,sl,e1,e2,e3.updM k hm⟩
theorem RxL.less{W W':Nat→Prop}{h:ad}(hm:∀b,W' b→W b∨h.size≤b){ks:List (Option Addr)}{L:List Bn}(r:RxL W h ks L):RxL W' h ks L:=⟨r.1,fun p hp=>(r.2 p hp).less hm⟩
theorem RxL.updM{W M:Nat→Prop}{h h':ad}(k:Upd M h h')(hm:∀b,M b→W b∨h.size≤b){ks:List (Option Addr)}{L:List Bn}(r:RxL W h ks L):RxL W h' ks L:=⟨r.1,fun p hp=>(r.2 p hp).updM k hm⟩
theorem EC{p:Pr}{n:Nat}(h:n<(ky p).length):∃b:UInt8,p.1[n]? =some b∧b.toNat=bt n p:=by
 rw[F3];refine⟨(ky p)[n],ae h,?_⟩;unfold bt hd;rw[List.drop_eq_getElem_cons h];rfl
theorem Gj{M:Nat→Prop}{h:ad}{so:SliceV}{out:List (Option Addr)}{p:Option Addr}{K:SliceV→ad→Prop}(ho:OwnS yQ 1 bS M h so out)(hM:∀b,h.size≤b→M b)(hn:out.length+1≤1000000000)
  (hk:∀s' h',OwnS yQ 1 bS M h' s' (out++ [p])→Upd M h h'→K s' h'):
  ∃xs,SRow (hnew h [.pointer p] bS) (some (aC h)) (1*1) xs∧AppP (some [.pointer none]) 1 8 bS so.a so.len so.cap 1 xs (hnew h [.pointer p] bS) K:=by
 have k:=Upd.hnew No h [.pointer p] bS;have h1:OwnS yQ 1 bS (fun _=>True) (hnew h [.pointer p] bS) ⟨some (aC h),1,1⟩ [p]:=⟨rfl,vr,ag _,.inr ⟨h.size,[],rfl,trivial,dj ..,rfl⟩⟩
 refine⟨_,(h1.sl (W:=No) fun _ _ _ h=>h).srow,?_⟩
 refine AppP.own (ys:= [p]) (ho.upd k fun _ _ h=>h) rfl rfl rfl rfl (by omega) (by simp only[aw];omega) (hM _ (by rw[f9];omega)) fun s' h' ho' hu=>?_
 exact hk s' h' ho' ((Upd.hnew M h _ _).tr hu)
theorem C3{W:Nat→Prop}{h:ad}{s:SliceV}{ks:List (Option Addr)}{L:List Bn}(hs:Sl yQ 1 No h s ks)(hL:RxL W h ks L)(hn:L.length≤100000)(hW:∀y,W y→y<h.size){label value:ByteArray}{has:Bool}{K:Option Addr→ad→Prop}
  (hk:∀h' b,RxN W h' b label (if has then some value else none) (.ofL L)→Upd No h h'→K (some ⟨b,0,none⟩) h'):HC PG pe [.string label,.bool has,.string value,.slice s.a s.len s.cap] [.c .ptr] K h:=by
 refine EN label has value s ?_;unfold xz bR cn d6 bU;refine aQ fun h1 b1 k1=>?_
 have z1:=bw b1;have hlen:=hs.len;have hLl:=hL.1;refine Join.intro (fun _ h'=>∃val,h'[h.size]? =some (.cells (Nf label has val ⟨none,0,0⟩ none) fp (0,0))∧val=(if has then value else⟨#[]⟩)∧Upd No h h') (fun R hR=>?_) ?_
 ·cases has with
  |true=>exact aB.2 ⟨_,rfl,rx (i:=2) (c':=Nf label true value ⟨none,0,0⟩ none) b1 (show 2<5 by decide) rfl fun h2 b2 hu2=>hR _ _ ⟨_,b2,rfl,k1.own hu2 (ag _)⟩⟩
  |false=>exact aj.2 (hR _ _ ⟨_,b1,rfl,k1⟩)
 rintro _ h2 ⟨val,b2,hval,k2⟩;refine LoopP.ghost (fun(g:List (Option Addr)×List (Option Addr)) (t:Int) h'=>t=(g.1.length:Int)∧ks=g.1++g.2∧(∃so,h'[h.size]? =some (.cells (Nf label has val so none) fp (0,0))∧OwnS yQ 1 bS (fun y=>h.size<y) h' so g.1)∧Upd No h h') (fun g=>g.2.length) ([],ks)
  ⟨rfl,rfl,⟨_,b2,OwnS.nil vr⟩,k2⟩ ?_
 rintro I ⟨K1,K2⟩ t h3 ⟨e1,e2,⟨so,b3,ho3⟩,k3⟩ hI;simp only at e1 e2 ho3;subst e1 e2;simp only[ac]at hlen hLl;have z3:=bw b3;refine av (fun hlt=>?_) fun hge=>?_
 ·rcases K2 with _|⟨kp,K2⟩
  ·simp only[aI]at hlen;omega
  simp only[ap]at hlen hLl;refine Join.intro (fun _ h'=>(∃so,h'[h.size]? =some (.cells (Nf label has val so none) fp (0,0))∧OwnS yQ 1 bS (fun y=>h.size<y) h' so (K1++ [kp]))∧Upd No h h') (fun R hR=>?_) ?_
  ·obtain⟨kb,ksl,hki,_⟩:=hL.at (i:=K1.length) (by omega)
   have hkp:kp=some ⟨kb,0,none⟩:=by
    rw[ax (ag _),cO]at hki;exact bF.inj hki
   obtain⟨a,ha,_,hv⟩:=(hs.upd k3 fun _ h=>h.elim).at0 (i:=K1.length) (x:=kp) (by rw[ax (ag _),cO];rfl)
   refine⟨⟨by omega,by omega⟩,a,ha,kp,hv,?_⟩
   subst hkp;refine aB.2 ⟨_,rfl,so,vc b3 3,bM ?_⟩;refine Gj ho3 (fun b hb=>by omega) (by omega) fun s4 h4 ho4 hu4=>⟨_,rfl,?_⟩
   have b4:=hu4.get b3 (by simp);refine rx (i:=3) (c':=Nf label has val s4 none) b4 (show 3<5 by decide) rfl fun h5 b5 hu5=>hR _ _ ⟨⟨s4,b5,ho4.upd hu5 fun x hx e=>by have e:x=h.size:=e;omega⟩,?_⟩
   exact(k3.trans hu4 fun x hx=>.inr (Nat.le_of_lt hx)).own hu5 (ag _)
  ·rintro _ h4 ⟨⟨s4,b4,ho4⟩,k4⟩
   have ew:IntKind.wrap .i64 ((K1.length:Int)+1)=((K1++ [kp]).length:Int):=by rw[ac,aw,fL (by omega)];omega
   rw[ew];exact hI (K1++ [kp],K2) _ _ ⟨rfl,by simp,⟨s4,b4,ho4⟩,k4⟩ (by simp)
 ·have hK:K2= []:=aq.1 (by omega)
  subst hK;rw[aE]at hL;refine hk h3 h.size ⟨val,so,none,K1,?_,?_,ho3.sl (fun x hx _ hw=>by have:=hW x hw;omega),⟨ho3.cap,fun hw=>by have:=hW _ hw;omega⟩,rB.2 (by rw[Fo.to_of];exact hL.upd0 k3)⟩ k3
  ·cases has<;>exact b3
  ·rw[hval];cases has<;>rfl
def JK(B from_:Nat):Prop:=∀{W:Nat→Prop} {h:ad} {s:SliceV} {l:List Pr} {pre:List UInt8},Sl dD 2 No h s l→s.len≤s.cap→Beg l pre→pre.length=from_→(∀p∈l,(ky p).length≤B)→l.length≤100000→(∀y,W y→y<h.size)→∀{K:SliceV→ad→Prop},
 (∀h' s' ks L,OwnS yQ 1 bS (fun y=>h.size≤y) h' s' ks→RxL W h' ks L→Row L l [] pre→Upd No h h'→K s' h')→HC PG pi [.slice s.a s.len s.cap,.int .i64 (from_:Int)] [.c .slice] K h
theorem Ib{W:Nat→Prop}{B from_:Nat}(hB:B≤1000000)(hkids:∀to,from_<to→JK B to){h:ad}{s:SliceV}{l r:List Pr}{f g:Pr}{pre:List UInt8}(hs:Sl dD 2 No h s l)(hcap:s.len≤s.cap)(bg:Beg l pre)(hpre:pre.length=from_)(hlB:∀p∈l,(ky p).length≤B)(hn:l.length≤100000)(hW:∀y,W y→y<h.size)
  (hf:l=f::r)(hg:l.getLast? =some g)(hb:bt from_ f=bt from_ g){K:Option Addr→ad→Prop}
  (hk:∀h' a n,Kid W h' a n→II n→hd n.1=bt from_ f→(∀k v,Il n k v↔Lk l pre k v)→Upd No h h'→K a h'):HC PG pJ [.slice s.a s.len s.cap,.int .i64 (from_:Int)] [.c .ptr] K h:=by
 refine BB s from_ ?_;unfold tT bR cn bV aL im M8 Lv;subst hpre;have hlen:=hs.len;have hl0:0<l.length:=by rw[hf];simp
 have hfm:f∈l:=by rw[hf];exact au ..
 have hgm:g∈l:=fh hg;obtain⟨a,ha,_,hvf⟩:=hs.at (i:=0) (x:=f) (by rw[hf];rfl);obtain⟨a',ha',_,hvg⟩:=hs.at (i:=l.length-1) (x:=g) (by rw[←hg,List.getLast?_eq_getElem?]);rw[ha]at ha';cases ha';have ew:IntKind.wrap .i64 ((s.len:Int)-1)=((l.length-1:Nat):Int):=by rw[fL (by omega)];omega
 refine⟨⟨by omega,by omega⟩,a,ha,f.1,hvf 0 _ rfl,?_⟩
 rw[ew];have hsf:=hlB f hfm;have hszf:f.1.size=(ky f).length:=(AW f.1).symm;refine⟨⟨by omega,by omega⟩,a,ha,g.1,hvg 0 _ rfl,KB (by omega) ?_⟩
 obtain⟨q1,q2,q3,q4,q5⟩:=yo bg ⟨r,hf⟩ hg hb;have hbc:= @Bj l (if(ky f).length=cm (ky f) (ky g)then l.drop 1 else l) pre f g bg ⟨r,hf⟩ hg hb
 obtain⟨to,hto⟩:∃to,cm (ky f) (ky g)=to:=⟨_,rfl⟩;rw[hto]at q1 q2 q3 q4 hbc;show _∧_
 change(_∧∃_,_∧_);have hto':cm f.1.data.toList g.1.data.toList=to:=hto;rw[hto'];refine⟨⟨by omega,by omega⟩,a,ha,f.1,hvf 0 _ rfl,⟨by omega,by omega⟩,⟨by omega,by rw[aM];omega⟩,⟨by omega,by omega⟩,a,ha,f.1,hvf 0 _ rfl,?_⟩
 have ehas:((f.1.size:Int)==(to:Int))=decide ((ky f).length=to):=by
  rw[gq,beq_iff_eq,decide_eq_true_iff];omega
 rw[ehas];have hlab:(f.1.extract (pre.length:Int).toNat (to:Int).toNat).data.toList=((ky f).take to).drop pre.length:=My ..;have hpl:((ky f).take to).length=to:=by rw[aD];omega
 refine Join.intro (fun(t:SliceV×ByteArray) h'=>h'=h∧Sl dD 2 No h t.1 (if(ky f).length=to then l.drop 1 else l)∧t.1.len≤t.1.cap∧((ky f).length=to→t.2=f.2)) (fun R hR=>?_) ?_
 ·refine av (fun e=>?_) fun e=>?_
  ·refine⟨⟨by omega,by omega⟩,a,ha,f.2,hvf 1 _ rfl,⟨by omega,by omega⟩,hR _ _ ⟨rfl,?_,by simp only;omega,fun _=>rfl⟩⟩
   rw[if_pos e];have:=Sl.sub hs (l:=1) (hi:=l.length) (m:=s.cap) (c:=s.cap-1) (by omega) (ag _) (by omega);rw[bj (by rw[aV];omega),←hlen]at this;exact this
  ·exact hR _ _ ⟨rfl,by rw[if_neg e];exact hs,hcap,fun h=>absurd h e⟩
 rintro⟨s2,v2⟩ h' ⟨rfl,hs2,hc2,hv2⟩;simp only at hs2 hc2 hv2;have hsub:(if(ky f).length=to then l.drop 1 else l).Sublist l:=by
  split
  ·exact List.drop_sublist ..
  ·exact List.Sublist.refl _
 have hbeg:Beg (if(ky f).length=to then l.drop 1 else l) ((ky f).take to):=by
  refine⟨bg.up.sublist hsub,fun p hp=>?_⟩
  rw[hpl];refine⟨q3 p (hsub.subset hp),?_⟩;rcases q4 p (hsub.subset hp)with e|h
  ·subst e
   by_cases e2:(ky p).length=to
   ·rw[if_pos e2,hf]at hp
    have:=(aS.1 (hf▸bg.up)).1 p hp;exact absurd this (dw _)
   ·omega
  ·exact h
 refine hkids to q1 hs2 hc2 hbeg hpl (fun p hp=>hlB p (hsub.subset hp)) (bh hsub.length_le hn) hW fun h3 s3 ks L ho3 hL3 hrow hu3=>?_
 obtain⟨hcF,hgF⟩:=hrow.done;obtain⟨hcn,hhd,hin⟩:=hbc (F:=.ofL L) hcF rfl hgF rfl rfl;have hLl:L.length≤100000:=by
  have:=kY hcF;rw[Fo.to_of]at this;omega
 refine C3 (W:=W) (ho3.sl fun _ _ _ h=>h) hL3 hLl (fun y hy=>bH (hW y hy) hu3.size) fun h4 b4 rn4 hu4=>?_
 have ew2:(if decide ((ky f).length=to)=true then some v2 else none)=if(ky f).length=to then some f.2 else none:=by
  by_cases e:(ky f).length=to
  ·rw[if_pos (decide_eq_true e),if_pos e,hv2 e]
  ·rw[if_neg (by simpa using e),if_neg e]
 rw[ew2]at rn4;exact hk h4 _ _ ⟨b4,_,rfl,hlab,rn4⟩ hcn hhd hin (hu3.tr hu4)
theorem Dq{B from_:Nat}(hB:B≤1000000)(hkids:from_≤B→∀to,from_<to→JK B to):JK B from_:=by
 intro W h s l pre hs hcap bg hpre hlB hn hW K hk;refine EW s from_ ?_;unfold xH cn bV aL;refine aQ fun h1 b1 k1=>?_
 subst hpre;refine LoopP.ghost (fun(g:List Pr×List Pr×List (Option Addr)×List Bn×(Nat→Prop)) (t:SliceV×SliceV) h'=>l=g.1++g.2.1∧Sl dD 2 (fun y=>h.size≤y) h' t.1 g.2.1∧t.1.len≤t.1.cap∧OwnS yQ 1 bS g.2.2.2.2 h' t.2 g.2.2.1∧(∀y,g.2.2.2.2 y→h1.size≤y∧y<h'.size)∧RxL (fun y=>W y∨g.2.2.2.2 y) h' g.2.2.1 g.2.2.2.1∧Row g.2.2.2.1 g.1 g.2.1 pre∧Upd No h1 h') (fun g=>g.2.1.length) ([],l,[],[],No)
  ⟨rfl,(hs.less (W':=fun y=>h.size≤y) fun y hy=>.inr hy).upd k1 fun _ h=>h.elim,hcap,OwnS.nil vr,fun y hy=>hy.elim,⟨rfl,fun p hp=>(by cases hp)⟩,Row.nil _ _,Upd.refl _ _⟩ ?_
 rintro I ⟨D,T,ks,L,Mo⟩ ⟨sT,so⟩ h4 ⟨e1,hsT,hcT,ho,hMo,hL,hrow,hu⟩ hI;simp only at e1 hsT hcT ho hMo hL hrow;subst e1;have hlT:=hsT.len;simp only[ac]at hn;have bgT:Beg T pre:=bg.sub (lr D T);have k04:=k1.tr hu;refine av (fun hgt=>?_) fun hle=>?_
 ·rcases T with _|⟨p,T⟩
  ·simp only[aI]at hlT;simp only at hgt;omega
  simp only[ap]at hlT hn;have hpl:=(bgT.at_ p (au ..)).2;obtain⟨b8,hb8,hb8e⟩:=EC hpl;obtain⟨a,ha,_,hv⟩:=hsT.at (i:=0) (x:=p) rfl;have c4:=hu.get0 b1;refine⟨⟨by omega,by simp only;omega⟩,a,ha,p.1,hv 0 _ rfl,_,B6 c4,b8,by omega,hb8,?_⟩
  refine aQ fun h9 b9 k9=>?_
  have c9:=k9.get0 c4;obtain⟨a',ha',_,hv9⟩:=(hsT.upd k9 fun _ h=>h.elim).at (i:=0) (x:=p) rfl
  rw[ha]at ha';cases ha';refine⟨B6 c9,hv9 0 _ rfl,z8 b9 oA fun h10 b10 hu10=>?_⟩
  have k410:Upd No h4 h10:=k9.own hu10 (ag _);have c10:=k410.get0 c4;refine Kt (hsT.upd k410 fun _ h=>h.elim) (by simp only[ap];omega) (g:=fun q=>decide (bt pre.length q≠bt pre.length p)) (fun q hq h' K' hu' hK=>?_) fun h11 A Bt e hAB hA hBn hBc hu11=>?_
  ·refine HV.mk' (BA q ⟨h.size,0,none⟩ ⟨h4.size,0,none⟩ ?_)
   unfold tS aF B7;refine aQ fun h12 b12 k12=>?_
   have k':=hu'.tr k12;obtain⟨bq,hbq,hbqe⟩:=EC (bgT.at_ q hq).2;refine⟨q.1,vc b12 0,_,B6 (k'.get0 c10),bq,by omega,hbq,_,B6 (k'.get0 b10),?_⟩
   have eb:((bq.toNat:Int) !=(b8.toNat:Int))=decide (bt pre.length q≠bt pre.length p):=by
    rw[gq,bne_iff_ne,decide_eq_true_iff];omega
   rw[eb];exact hK h12 k12
  obtain⟨A',rfl⟩:∃A',A=p::A':=by
   rcases A with _|⟨a0,A'⟩
   ·have:=(hBc p T (by rw[cd]at hAB;exact hAB.symm)).2
    simp at this
   ·rw[cR]at hAB
    exact⟨A',by rw[(eg.inj hAB).1]⟩
  have hcA:∀q∈p::A',bt pre.length q=bt pre.length p:=fun q hq=>by simpa using hA q hq
  have hTA:p::T=(p::A')++Bt:=hAB;have hTl:T.length=A'.length+Bt.length:=by
   have:=congrArg dX hTA;simp only[ap,ac]at this;omega
  have k411:=k410.tr hu11;have k111:=hu.tr k411;have c11:=hu11.get0 c10;refine Join.intro (fun t h'=>t=((A'.length+1:Nat):Int)∧h'=h11) (fun R1 hR1=>?_) ?_
  ·refine av (fun hneg=>hR1 _ _ ⟨?_,rfl⟩) fun hpos=>hR1 _ _ ⟨?_,rfl⟩
   ·rcases Bt with _|⟨b0,B'⟩
    ·have hTl:T.length=A'.length+0:=hTl
     show((sT.len:Nat):Int)=_
     omega
    ·have:=(hBc b0 B' rfl).1
     simp only[ap]at this;omega
   ·rcases Bt with _|⟨b0,B'⟩
    ·have:=hBn rfl;omega
    ·have:=(hBc b0 B' rfl).1
     simp only[ap]at this;exact this
  rintro t h' ⟨rfl,rfl⟩;refine Join.intro (fun t h9=>∃ka n Mp,OwnS yQ 1 bS Mp h9 t (ks++ [ka])∧(∀y,Mp y→h1.size≤y∧y<h9.size)∧RxL (fun y=>W y∨Mp y) h9 (ks++ [ka]) (L++ [n])∧II n∧hd n.1=bt pre.length p∧(∀k v,Il n k v↔Lk (p::A') pre k v)∧Upd No h1 h9∧Sl dD 2 (fun y=>h.size≤y) h9 sT (p::T)) (fun R1 hR1=>?_) ?_
  ·refine⟨⟨by omega,by show((A'.length+1:Nat):Int)≤((sT.cap:Nat):Int);omega⟩,_,B6 c11,?_⟩
   have hsA:=Sl.sub (hsT.upd k411 fun _ h=>h.elim) (l:=0) (hi:=A'.length+1) (m:=sT.cap) (c:=sT.cap-0) (aK _) (by simp only[ap];omega) (by omega)
   have etk:((p::T).drop 0).take (A'.length+1-0)=p::A':=by
    rw[dB,eT,hTA];exact List.take_left' (by simp)
   rw[etk]at hsA;obtain⟨g,hg⟩:∃g,(p::A').getLast? =some g:=⟨_,List.getLast?_eq_some_getLast (by simp)⟩;have hgm:g∈p::A':=fh hg;have hsub:(p::A').Sublist (D++p::T):=by
    rw[hTA];exact(List.sublist_append_left _ _).trans (lr D _)
   refine Ib hB (hkids (by have:=hlB p (by simp);omega)) (hsA.less fun _ h=>h.elim) (by show A'.length+1-0≤sT.cap-0;omega) (bg.sub hsub) rfl (fun q hq=>hlB q (hsub.subset hq)) (by simp only[ap];omega) (W:=fun y=>W y∨Mo y) (fun y hy=>hy.elim (fun hy=>bH (hW y hy) (k04.tr k411).size) fun hy=>bH (hMo y hy).2 k411.size) rfl hg (hcA g hgm).symm fun h12 ka n kd hcn hhd hin hu12=>bM ?_
   have hu':=k411.tr hu12;have z':=(hu.tr hu').size;have hLn:L.length≤256:=by
    rcases tZ (c:=0) hrow.up fun _ _=>aK _ with e|e
    ·rw[e];simp
    ·omega
   have hkl:=hL.1;have z12:=hu'.size;refine Gj (M:=fun y=>Mo y∨h12.size≤y) ((ho.upd hu' fun _ _ h=>h).more fun y hy=>.inl hy) (fun b hb=>.inr hb) (by omega) fun s13 h13 ho13 hu13=>hR1 _ _ ⟨ka,n,fun y=>(Mo y∨h12.size≤y)∧y<h13.size,ho13.within,fun y hy=>⟨?_,hy.2⟩,?_,hcn,hhd,hin,?_,?_⟩
   ·rcases hy.1 with h|h
    ·exact(hMo y h).1
    ·omega
   ·have hl:∀b,(W b∨((Mo b∨h12.size≤b)∧b<h13.size))→(W b∨Mo b)∨h12.size≤b:=fun b hb=>by
     rcases hb with h|⟨h|h,_⟩
     ·exact .inl (.inl h)
     ·exact .inl (.inr h)
     ·exact .inr h
    have hm:∀b,(Mo b∨h12.size≤b)→(W b∨((Mo b∨h12.size≤b)∧b<h13.size))∨h12.size≤b:=fun b hb=>by
     rcases hb with h|h
     ·exact .inl (.inr ⟨.inl h,by have:=(hMo b h).2;have:=hu13.size;omega⟩)
     ·exact .inr h
    exact(((hL.upd0 hu').app (RxL.one kd)).less hl).updM hu13 hm
   ·exact(hu.tr hu').trans hu13 fun y hy=>.inr (by
     rcases hy with h|h
     ·exact(hMo y h).1
     ·omega)
   ·refine(hsT.upd hu' fun _ h=>h.elim).upd hu13 fun b hb=>.inl ?_
    have:=k1.size;rcases hb with h|h
    ·have:=(hMo b h).1;omega
    ·omega
  ·rintro s9 h9 ⟨ka,n,Mp,ho9,hMp,hL9,hcn,hhd,hin,hu9,hsT9⟩
   refine⟨⟨by omega,by show((A'.length+1:Nat):Int)≤((sT.len:Nat):Int);omega⟩,?_⟩
   rw[aM];have hsB:=Sl.sub hsT9 (l:=A'.length+1) (hi:=(p::T).length) (m:=sT.cap) (c:=sT.cap-(A'.length+1)) (by simp only[ap];omega) (ag _) (by simp only[ap];omega);have edr:((p::T).drop (A'.length+1)).take ((p::T).length-(A'.length+1))=Bt:=by
    rw[hTA,List.drop_left' (by simp)];exact bj (by simp)
   rw[edr]at hsB;have elen:(p::T).length-(A'.length+1)=sT.len-(A'.length+1):=by simp only[ap];omega
   rw[elen]at hsB;have hr':Row (L++ [n]) (D++(p::A')) Bt pre:=by
    rw[hTA]at hrow bgT;exact hrow.more bgT (au ..) hcA (fun b B' e=>by simpa using(hBc b B' e).2) hcn hhd hin
   refine hI (D++(p::A'),Bt,ks++ [ka],L++ [n],Mp) _ _ ⟨by rw[hTA,ao],hsB,by simp only;omega,ho9,hMp,hL9,hr',hu9⟩ ?_
   simp only[ap];omega
 ·have hT:T= []:=aq.1 (by simp only at hle;omega)
  subst hT;rw[aE]at hk;exact hk h4 so ks L (ho.more fun y hy=>bh k1.size (hMo y hy).1) (hL.less fun y hy=>.inl (.inl hy)) hrow k04
end Go.Proofs
namespace Go.Proofs
open Go Go.Lift
theorem FQ{B:Nat}(hB:B≤1000000):∀(n from_:Nat),B<from_+n→JK B from_
 |0,_,h=>Dq hB fun h'=>by omega
 |n+1,from_,h=>Dq hB fun _ to hto=>FQ hB n to (by omega)
theorem I9{l:List Pr}{p:Pr}(h:p∈lG l):p∈l:=Kr (Jk.1 h)
theorem Kg{N:Nat}(st:StP N)(hN:N≤100000){W W0:Nat→Prop}{h:ad}{s:SliceV}{l:List Pr}(hs:Sl dD 2 W0 h s l)(hW:∀y,W y→y<h.size)(hn:l.length≤N)(hB:∀p∈l,p.1.size≤1000000){K:Option Addr→ad→Prop}
  (hk:∀h' b,RadAt W h' b (lG l)→Upd No h h'→K (some ⟨b,0,none⟩) h'):HC PG qP [.slice s.a s.len s.cap] [.c .ptr] K h:=by
 refine CF s ?_;unfold ve cn aL M8 Lv;refine Ar st (by omega) (W':=No) hs (fun _ h=>h.elim) (by omega) fun e h2 hse hce k2=>?_
 have hln:=zN l;have hrs:=qZ l;have hBs:∀p∈lG l,(ky p).length≤1000000:=fun p hp=>by have:=hB p (I9 hp);rw[show(ky p).length=p.1.size from AW p.1];exact this
 generalize lG l=L at*;have hlen:=hse.len;refine Join.intro (fun(t:ByteArray×Bool) h'=>h'=h2∧(t.2=true↔∃p r,L=p::r∧ky p= [])) (fun R hR=>?_) ?_
 ·refine av (fun hgt=>?_) fun hle=>hR _ _ ⟨rfl,⟨fun h=>(by cases h),fun⟨p,r,e,_⟩=>(by subst e;simp only[ap]at hlen;omega)⟩⟩
  rcases L with _|⟨p,r⟩
  ·simp only[aI]at hlen;omega
  obtain⟨a,ha,_,hv⟩:=hse.at (i:=0) (x:=p) rfl;refine⟨⟨by omega,by omega⟩,a,ha,p.1,hv 0 _ rfl,hR _ _ ⟨rfl,?_⟩⟩
  simp only;rw[w8,decide_eq_true_iff];constructor
  ·intro e;exact⟨p,r,rfl,by unfold ky;rw[e]⟩
  ·rintro⟨p',r',e,e2⟩
   cases e;exact vO.1 e2
 rintro⟨v6,has⟩ h' ⟨rfl,hhas⟩;simp only at hhas;refine Join.intro (fun(t:SliceV×ByteArray) h3=>h3=h'∧∃l',Sl dD 2 No h' t.1 l'∧t.1.len≤t.1.cap∧Beg l' []∧(∀p∈l',p∈L)∧l'.length≤L.length∧∀k v,((k= []∧(if has then some t.2 else none)=some v)∨Lk l' [] k v)↔∃p∈L,p.1.data.toList=k∧p.2=v) (fun R hR=>?_) ?_
 ·cases has with
  |true=>
   obtain⟨p,r,rfl,e0⟩:=hhas.1 rfl;obtain⟨a,ha,_,hv⟩:=hse.at (i:=0) (x:=p) rfl;simp only[ap]at hlen;refine aB.2 ⟨⟨by omega,by omega⟩,a,ha,p.2,hv 1 _ rfl,⟨by omega,by omega⟩,hR _ _ ⟨rfl,r,?_,by simp only;omega,⟨(aS.1 hrs).2,fun q hq=>⟨rfl,?_⟩⟩,fun q hq=>aH _ hq,by simp,fun k v=>?_⟩⟩
   ·have:=Sl.sub hse (l:=1) (hi:=(p::r).length) (m:=e.cap) (c:=e.cap-1) (by simp) (ag _) (by simp only[ap];omega)
    rw[List.drop_one,List.tail_cons,bj (by simp)]at this;have e2:(p::r).length-1=e.len-1:=by simp only[ap];omega
    rw[e2]at this;exact this
   ·have h1:=nR.1 ((aS.1 hrs).1 q hq)
    refine gw.2 fun e2=>?_
    change Op.bytesLess (ky p) (ky q)=true at h1;rw[e2,Bk]at h1;cases h1
   ·simp only[if_true]
    constructor
    ·rintro(⟨rfl,h⟩|⟨q,hq,h1,h2⟩)
     ·exact⟨p,au ..,e0,bF.inj h⟩
     ·exact⟨q,aH _ hq,h1,h2⟩
    ·rintro⟨q,hq,h1,h2⟩
     rcases az.1 hq with rfl|hq
     ·exact .inl ⟨by rw[←h1];exact e0,by rw[h2]⟩
     ·exact .inr ⟨q,hq,h1,h2⟩
  |false=>
   have hno:∀p r,L=p::r→ky p≠[]:=fun p r e e0=>by have:=hhas.2 ⟨p,r,e,e0⟩;cases this
   refine aj.2 (hR _ _ ⟨rfl,L,hse,hce,⟨hrs,fun q hq=>⟨rfl,?_⟩⟩,fun q hq=>hq,ag _,fun k v=>?_⟩)
   ·refine gw.2 fun e2=>?_
    rcases L with _|⟨p,r⟩
    ·cases hq
    rcases az.1 hq with rfl|hq
    ·exact hno _ _ rfl e2
    ·have h1:=nR.1 ((aS.1 hrs).1 q hq)
     change Op.bytesLess (ky p) (ky q)=true at h1;rw[e2,Bk]at h1;cases h1
   ·simp only[cS,if_false]
    constructor
    ·rintro(⟨_,h⟩|⟨q,hq,h1,h2⟩)
     ·cases h
     ·exact⟨q,hq,h1,h2⟩
    ·rintro⟨q,hq,h1,h2⟩
     exact .inr ⟨q,hq,h1,h2⟩
 rintro⟨s3,v3⟩ h3 ⟨rfl,l',hs3,hc3,hbg,hsub,hll,hiff⟩;simp only at hs3 hc3 hiff;refine FQ (B:=1000000) (ag _) 1000001 0 (by omega) (W:=W) hs3 hc3 hbg rfl (fun p hp=>hBs p (hsub p hp)) (by omega) (fun y hy=>bH (hW y hy) k2.size) fun h4 s4 ks Lb ho4 hL4 hrow hu4=>?_
 obtain⟨hcF,hgF⟩:=hrow.done;have hLl:Lb.length≤100000:=by
  have:=kY hcF;rw[Fo.to_of]at this;omega
 refine C3 (W:=W) (ho4.sl fun _ _ _ h=>h) hL4 hLl (fun y hy=>bH (hW y hy) (k2.tr hu4).size) fun h5 b5 rn5 hu5=>?_
 refine hk h5 b5 ⟨_,_,rn5,hcF,fun k v=>?_⟩ ((k2.tr hu4).tr hu5)
 rw[od];unfold Gn;rw[hgF,hiff]
theorem sS{h:ad}{t:Tr}{k:ad→Prop}(hk:∀h',h'[h.size]? =some (.cells (wg t).toArray cE (0,0))→Upd No h h'→k h'):
  At (hnew h (wg uo) cE) (fun h1=>uv h1 (some (aC h)) 0 (wg t)∧At (iM h1 (aC h) 0 (wg t)) k):=
 aQ fun h1 b1 k1=>eL (c:=wg uo) (vs:=wg t) b1 rfl fun h2 b2 hu2=>hk h2 b2 (k1.own hu2 (ag _))
theorem Cq{N:Nat}(st:StP N)(sh:StH N)(hN:N≤100000){W W0:Nat→Prop}{x:Hs}{h:ad}{s:SliceV}{l:List Pr}(hs:Sl dD 2 W0 h s l)(hW:∀y,W y→y<h.size)(hn:l.length≤N)(hB:∀p∈l,p.1.size≤256∧p.2.size≤4096){K:Tr×Int→ad→Prop}
  (hk:∀h' t,TreeIs W h' 0 x t (lG l)→Upd No h h'→K (t,0) h'):HC PG gG [.int .i64 0,.agg #[.int .u64 x.k0,.int .u64 x.k1,.int .u64 x.mask],.slice s.a s.len s.cap] [.agg [.int .i64,.int .u64,.int .u64,.int .u64,.ptr,.ptr],.c (.int .i64)] K h:=by
 refine pn 0 (x.k0,x.k1,x.mask) s ?_;unfold m6 cn bW ar bD hJ nv uJ un zH qV jm rI bV aL aF im wJ;refine aQ fun h1 b1 k1=>aQ fun h2 b2 k2=>?_
 have z1:=bw b1;have z2:=bw b2;have s1:h.size≤h1.size:=k1.size;have c1:=k2.get0 b1;have k02:=k1.tr k2;refine⟨_,vc c1 0,_,vc c1 1,_,vc c1 2,?_⟩;refine zL (W:=No) (x:=x) (fun _ h=>h.elim) (.inl rfl) fun h3 t3 _ k3=>?_
 refine sS (t:=t3) fun h4 b4 k4=>?_
 refine aj.2 ?_;have k24:=k3.tr k4;have k04:=k02.tr k24;have hlen:=hs.len;refine LoopP.ghost (fun(i:Nat) (t:Int) h'=>t=(i:Int)∧i≤l.length∧Upd No h4 h') (fun i=>l.length-i) 0 ⟨rfl,aK _,Upd.refl _ _⟩ ?_
 rintro I i t h5 ⟨rfl,hi,k5⟩ hI;have k05:=k04.tr k5;refine av (fun hlt=>?_) fun hge=>?_
 ·have hlt:i<l.length:=by omega
  obtain⟨a,ha,_,hv⟩:=(hs.upd k05 fun _ h=>h.elim).at (ae hlt)
  have hb:=hB _ (bN hlt);refine⟨⟨by omega,by omega⟩,a,ha,l[i].1,hv 0 _ rfl,l[i].2,hv 1 _ rfl,?_⟩
  refine vy (p:=l[i]) fun h6 b6 k6=>⟨_,vc b6 0,_,vc b6 1,Df hb.1 hb.2 (aj.2 ?_)⟩
  rw[iG hlt (by omega)];exact hI (i+1) _ _ ⟨rfl,hlt,k5.tr k6⟩ (by omega)
 ·have hW5:=Pro.lt (h2:=h2) hW k02
  have hW5':∀y,Pro W h h2 y→y<h5.size:=fun y hy=>bH (hW5 y hy) (k24.tr k5).size
  have d2:=(k24.tr k5).get0 b2;have d1:=(k24.tr k5).get0 c1;refine aj.2 ⟨_,vc d1 0,_,vc d1 1,_,vc d1 2,_,vc d1 0,_,vc d1 1,_,vc d1 2,?_⟩;refine KJ st sh hN (z:=x) (hs.upd k05 fun _ h=>h.elim) hW5' hn fun h6 b6 t6 k6=>?_
  have e1:=k6.get0 d1;refine⟨⟨vc e1 0,vc e1 1,vc e1 2⟩,?_⟩;refine yL (x:=x) (.inr ⟨b6,rfl,t6⟩) (fun y hy=>bH (hW5' y hy) k6.size) fun h7 t7 i7 k7=>?_
  refine eL (c:=wg uo) (vs:=wg t7) (k7.get0 (k6.get0 d2)) rfl fun h8 b8 hu8=>?_
  refine⟨_,vc b8 0,_,vc b8 1,_,vc b8 2,_,vc b8 3,_,vc b8 4,_,vc b8 5,?_⟩;exact hk h8 t7 ((i7.updM hu8 (fun y hy=>.inl (.inr (by have hy:y=h1.size:=hy;omega)))).less Pro.sub) (((k05.tr k6).tr k7).own hu8 s1)
theorem Cp{N:Nat}(st:StP N)(hN:N≤100000){W W0:Nat→Prop}{x:Hs}{h:ad}{s:SliceV}{l:List Pr}(hs:Sl dD 2 W0 h s l)(hW:∀y,W y→y<h.size)(hn:l.length≤N)(hB:∀p∈l,p.1.size≤256∧p.2.size≤4096){K:Tr×Int→ad→Prop}
  (hk:∀h' t,TreeIs W h' 1 x t (lG l)→Upd No h h'→K (t,0) h'):HC PG gG [.int .i64 1,.agg #[.int .u64 x.k0,.int .u64 x.k1,.int .u64 x.mask],.slice s.a s.len s.cap] [.agg [.int .i64,.int .u64,.int .u64,.int .u64,.ptr,.ptr],.c (.int .i64)] K h:=by
 refine pn 1 (x.k0,x.k1,x.mask) s ?_;unfold m6 cn bW ar bD hJ nv uJ un zH qV jm rI bV aL aF im wJ;refine aQ fun h1 b1 k1=>aQ fun h2 b2 k2=>?_
 have z1:=bw b1;have z2:=bw b2;have s1:h.size≤h1.size:=k1.size;have c1:=k2.get0 b1;have k02:=k1.tr k2;refine⟨_,vc c1 0,_,vc c1 1,_,vc c1 2,?_⟩;refine zL (W:=No) (x:=x) (fun _ h=>h.elim) (.inr rfl) fun h3 t3 _ k3=>?_
 refine sS (t:=t3) fun h4 b4 k4=>?_
 refine aj.2 ?_;have k24:=k3.tr k4;have k04:=k02.tr k24;have hlen:=hs.len;refine LoopP.ghost (fun(i:Nat) (t:Int) h'=>t=(i:Int)∧i≤l.length∧Upd No h4 h') (fun i=>l.length-i) 0 ⟨rfl,aK _,Upd.refl _ _⟩ ?_
 rintro I i t h5 ⟨rfl,hi,k5⟩ hI;have k05:=k04.tr k5;refine av (fun hlt=>?_) fun hge=>?_
 ·have hlt:i<l.length:=by omega
  obtain⟨a,ha,_,hv⟩:=(hs.upd k05 fun _ h=>h.elim).at (ae hlt)
  have hb:=hB _ (bN hlt);refine⟨⟨by omega,by omega⟩,a,ha,l[i].1,hv 0 _ rfl,l[i].2,hv 1 _ rfl,?_⟩
  refine vy (p:=l[i]) fun h6 b6 k6=>⟨_,vc b6 0,_,vc b6 1,Df hb.1 hb.2 (aj.2 ?_)⟩
  rw[iG hlt (by omega)];exact hI (i+1) _ _ ⟨rfl,hlt,k5.tr k6⟩ (by omega)
 ·have hW5:=Pro.lt (h2:=h2) hW k02
  have hW5':∀y,Pro W h h2 y→y<h5.size:=fun y hy=>bH (hW5 y hy) (k24.tr k5).size
  have d2:=(k24.tr k5).get0 b2;have d1:=(k24.tr k5).get0 c1;refine aB.2 (Kg st hN (hs.upd k05 fun _ h=>h.elim) hW5' hn (fun p hp=>by have:=(hB p hp).1;omega) fun h6 b6 t6 k6=>?_)
  refine yK (x:=x) (.inr ⟨b6,rfl,t6⟩) (fun y hy=>bH (hW5' y hy) k6.size) fun h7 t7 i7 k7=>?_
  refine eL (c:=wg uo) (vs:=wg t7) (k7.get0 (k6.get0 d2)) rfl fun h8 b8 hu8=>?_
  refine⟨_,vc b8 0,_,vc b8 1,_,vc b8 2,_,vc b8 3,_,vc b8 4,_,vc b8 5,?_⟩;exact hk h8 t7 ((i7.updM hu8 (fun y hy=>.inl (.inr (by have hy:y=h1.size:=hy;omega)))).less Pro.sub) (((k05.tr k6).tr k7).own hu8 s1)
theorem w6{W W0:Nat→Prop}{x:Hs}{h:ad}{s:SliceV}{l:List Pr}(hs:Sl dD 2 W0 h s l)(hW:∀y,W y→y<h.size)(hn:l.length≤100000)(hB:∀p∈l,p.1.size≤256∧p.2.size≤4096){kind:Int}(hkd:kind=0∨kind=1){K:Tr×Int→ad→Prop}
  (hk:∀h' t,TreeIs W h' kind x t (lG l)→Upd No h h'→K (t,0) h'):HC PG gG [.int .i64 kind,.agg #[.int .u64 x.k0,.int .u64 x.k1,.int .u64 x.mask],.slice s.a s.len s.cap] [.agg [.int .i64,.int .u64,.int .u64,.int .u64,.ptr,.ptr],.c (.int .i64)] K h:=by
 rcases hkd with rfl|rfl
 ·exact Cq (stP.less (by omega)) (stH.less (by omega)) (ag _) hs hW hn hB hk
 ·exact Cp (stP.less (by omega)) (ag _) hs hW hn hB hk
def KM(s:ByteArray):ByteArray:=s.extract 0 (if 40<(s.size:Int)then 40 else(s.size:Int)).toNat
theorem Gh(s:ByteArray):(KM s).size≤40:=by
 unfold KM;rw[eH];split<;>omega
end Go.Proofs
namespace Go.Proofs
open Go Go.Lift
theorem AA{W:Nat→Prop}{h:ad}{b:Nat}{sl:ByteArray}{w:Option ByteArray}{F:Fo}(r:RxN W h b sl w F){K:ByteArray→ad→Prop}(hk:K sl h):HC PG ju [.pointer (some ⟨b,0,none⟩)] [.c .str] K h:=by
 refine vX _ ?_;unfold pV aL;obtain⟨val,s,ow,ks,hb,_⟩:=r;exact aj.2 ⟨_,rfl,sl,ji (i:=0) hb,hk⟩
theorem Ay{W:Nat→Prop}{h:ad}{b:Nat}{sl:ByteArray}{w:Option ByteArray}{F:Fo}(r:RxN W h b sl w F){K:ByteArray×Bool→ad→Prop}(hk:∀v,(∀u,w=some u→v=u)→K (v,w.isSome) h):HC PG jt [.pointer (some ⟨b,0,none⟩)] [.c .str,.c .bool] K h:=by
 refine vW _ ?_;unfold pU aL hH;obtain⟨val,s,ow,ks,hb,hv,_⟩:=r;exact aj.2 ⟨_,rfl,val,ji (i:=2) hb,_,rfl,w.isSome,ji (i:=1) hb,hk val (vw hv)⟩
theorem C4{W:Nat→Prop}{h:ad}{b:Nat}{sl:ByteArray}{w:Option ByteArray}{F:Fo}(r:RxN W h b sl w F)(hn:F.toL.length≤256){K:SliceV→ad→Prop}(hk:∀s' h' ks,OwnS yQ 1 bS (fun y=>h.size≤y) h' s' ks→RxL W h' ks F.toL→Upd No h h'→K s' h'):HC PG j3 [.pointer (some ⟨b,0,none⟩)] [.c .slice] K h:=by
 refine xj _ ?_;unfold qs bU;obtain⟨val,s,ow,ks,hb,hv,hs,_,hF⟩:=r;have hL:=rB.1 hF;refine aj.2 ⟨_,rfl,s,ji (i:=3) hb,?_⟩;refine KG hs (by rw[hL.1];omega) fun s' h' ho hu=>hk s' h' ks ho (hL.upd0 hu) hu
theorem FO(x:List UInt8):Op.bytesLess x []=false:=by cases x<;>rfl
theorem FK:(⟨#[]⟩:ByteArray).toList= []:=by rw[ByteArray.toList_eq]
theorem NP{k:ByteArray}{h:ad}{K:Bool→ad→Prop}(hk:∀h',Upd No h h'→K false h'):HC PG nB [.agg #[.string ⟨#[]⟩,.string ⟨#[]⟩,.bool true],.string k] [.c .bool] K h:=by
 refine yw (⟨#[]⟩,⟨#[]⟩,true) k ?_;unfold rn aF im nr Ng;refine aQ fun h1 b1 k1=>?_
 refine Join.intro (fun t h'=>t=false∧h'=h1) (fun R hR=>⟨true,vc b1 2,aj.2 (hR _ _ ⟨rfl,rfl⟩)⟩) ?_
 rintro t h' ⟨rfl,rfl⟩;refine aj.2 ⟨_,vc b1 0,?_⟩;rw[FK,FO];exact aj.2 (hk h' k1)
theorem F1{k:ByteArray}{h:ad}{K:Bool→ad→Prop}(hk:∀h',Upd No h h'→K true h'):HC PG oG [.agg #[.string ⟨#[]⟩,.string ⟨#[]⟩,.bool true],.string k] [.c .bool] K h:=by
 refine zy (⟨#[]⟩,⟨#[]⟩,true) k ?_;unfold su aF nr Ng;refine aQ fun h1 b1 k1=>⟨_,vc b1 0,?_⟩
 rw[FK,FO];exact aB.2 ⟨true,vc b1 2,aB.2 (hk h1 k1)⟩
def It.Ok(W:Nat→Prop)(h:ad)(i:It):Prop:=RxN W h i.b i.sl i.w i.F∧jA i.F∧i.key.length≤10000∧∀p∈lv i.w i.F,i.key.length+p.1.length≤10000
theorem It.Ok.updM{W M:Nat→Prop}{h h':ad}(k:Upd M h h')(hm:∀b,M b→W b∨h.size≤b){i:It}(o:It.Ok W h i):It.Ok W h' i:=⟨o.1.updM k hm,o.2⟩
theorem Jo{W:Nat→Prop}{h:ad}(ah:ByteArray):∀{ks:List (Option Addr)} {L:List Bn},RxL W h ks L→∃its:List It,its.map It.raw=ks.map (fun k=>(k,ah,false))∧its.map (fun i=>(i.sl.data.toList,i.w,i.F))=L∧∀i∈its,i.ah=ah∧i.own=false∧RxN W h i.b i.sl i.w i.F
 | [],[],_=>⟨[],rfl,rfl,by simp⟩
 | [],_::_,r=>absurd r.1 (by simp)
 |_::_,[],r=>absurd r.1 (by simp)
 |k::ks,n::L,r=>by
  obtain⟨its,h1,h2,h3⟩:=Jo ah (ks:=ks) (L:=L) ⟨by simpa using r.1,fun p hp=>r.2 p (by rw[eY];exact aH _ hp)⟩
  obtain⟨b,sl,e1,e2,e3⟩:=r.2 (k,n) (by rw[eY];exact au ..);simp only at e1 e2 e3;refine⟨⟨b,ah,false,sl,n.2.1,n.2.2⟩::its,?_,?_,?_⟩
  ·rw[di,di,h1,e1];rfl
  ·rw[di,h2];simp only[e2]
  ·intro i hi
   rcases az.1 hi with rfl|hi
   ·exact⟨rfl,rfl,e3⟩
   ·exact h3 i hi
theorem Dd(lab:List UInt8)(w:Option ByteArray)(kids rest:Fo):ur (.cons lab w kids rest)=((w.map fun v=>(([]:List UInt8),v)).toList++ur kids).map (fun p=>(lab++p.1,p.2))++ur rest:=rfl
theorem KC(lab:List UInt8)(w:Option ByteArray)(kids rest:Fo):wY (.cons lab w kids rest)=1+wY kids+wY rest:=rfl
theorem FC{ah:ByteArray}{key:List UInt8}(hk:ah.data.toList=key):∀{F:Fo} {its:List It},its.map (fun i=>(i.sl.data.toList,i.w,i.F))=F.toL→(∀i∈its,i.ah=ah∧i.own=false)→its.flatMap It.prs=(ur F).map fun p=>(key++p.1,p.2)
 | .nil,its,h,_=>by
  have:its= []:=by simpa[Fo.toL]using h
  rw[this];rfl
 | .cons lab w kids rest,[],h,_=>by simp[Fo.toL]at h
 | .cons lab w kids rest,i::its,h,ha=>by
  rw[Fo.toL_cons,di,eg.injEq]at h;obtain⟨h1,h2⟩:=h;simp only[po.injEq]at h1;obtain⟨e1,e2,e3⟩:=h1;rw[List.flatMap_cons,FC hk h2 fun j hj=>ha j (aH _ hj)]
  obtain⟨a1,a2⟩:=ha i (au ..);rw[Dd,cr,List.map_map];congr 1
  unfold It.prs It.key lv;rw[a2,a1,hk,e1,e2,e3];simp only[cS,if_false,ao,cr,Function.comp_def]
theorem Gd:∀{F:Fo} {its:List It},its.map (fun i=>(i.sl.data.toList,i.w,i.F))=F.toL→(∀i∈its,i.own=false)→jl its=2*wY F
 | .nil,its,h,_=>by
  have:its= []:=by simpa[Fo.toL]using h
  rw[this];rfl
 | .cons lab w kids rest,[],h,_=>by simp[Fo.toL]at h
 | .cons lab w kids rest,i::its,h,ha=>by
  rw[Fo.toL_cons,di,eg.injEq]at h;obtain⟨h1,h2⟩:=h;simp only[po.injEq]at h1;have e:=Gd h2 fun j hj=>ha j (aH _ hj)
  unfold jl at e⊢;rw[di,jQ,e];rw[KC];unfold It.cost;rw[ha i (au ..),h1.2.2];simp only[cS,if_false];omega
theorem AP:∀l:List It,l.length≤jl l
 | []=>ag _
 |i::l=>by
  have:=AP l;unfold jl at this⊢;rw[di,jQ,ap];have:1≤i.cost:=by unfold It.cost;split<;>omega
  omega
abbrev Oe(s:SliceV):Array Value:= #[sv s,.string (⟨#[]⟩:ByteArray),.string (⟨#[]⟩:ByteArray),.bool true,.bool false]
structure Cur(W:Nat→Prop)(h:ad)(cb:Nat)(C:Nat→Prop)(items:List It):Prop where
 ex:∃s,h[cb]? =some (.cells (Oe s) uI (0,0))∧OwnS JO 3 dG C h s (items.map It.raw)
 ok:∀i∈items,It.Ok W h i
theorem Pc{W:Nat→Prop}{h h':ad}{i:It}(io:It.Ok W h i)(ho:i.own=false){its:List It}(e:its.map (fun i=>(i.sl.data.toList,i.w,i.F))=i.F.toL){ah:ByteArray}(ha:ah.data.toList=i.key)(hi:∀j∈its,j.ah=ah∧j.own=false∧RxN W h' j.b j.sl j.w j.F):∀j∈its,It.Ok W h' j:=by
 intro j hj;obtain⟨a1,a2,a3⟩:=hi j hj;have hm:(j.sl.data.toList,j.w,j.F)∈i.F.toL:=by rw[←e];exact List.mem_map.2 ⟨j,hj,rfl⟩
 have hcn:=(lO.1 io.2.1).2 _ hm;have hall:∀p∈lv j.w j.F,j.key.length+p.1.length≤10000:=fun p hp=>by
  have hin:y9 i.F (j.sl.data.toList++p.1) p.2:=j1.2 ⟨_,hm,p.1,rfl,od.1 (show(p.1,p.2)∈_ from hp)⟩
  have:=io.2.2.2 (j.sl.data.toList++p.1,p.2) (od.2 (.inr hin));unfold It.key at this⊢;rw[a1,ha];unfold It.key;simp only[ac]at this⊢;omega
 obtain⟨r,v,hr⟩:=ol io.2.1 _ hm;have:=hall (r,v) (od.2 hr);exact⟨a3,hcn.2.2,by simp only at this;omega,hall⟩
set_option maxHeartbeats 1000000 in
theorem NM{W C:Nat→Prop}{h:ad}{cb:Nat}{items:List It}{i:It}(cur:Cur W h cb C items)(io:It.Ok W h i)(ho:i.own=false)(hC:∀b,h.size≤b→C b)(hCW:∀b,C b→W b)(hcbW:W cb)(hcb:¬C cb)(hcost:jl items+i.cost≤100000000){K:Unit→ad→Prop}
  (hk:∀h' kids,Cur W h' cb C (items++kids)→rE kids=i.prs→jl kids<i.cost→Upd (fun b=>C b∨b=cb) h h'→K () h'):HC PG mh [.pointer (some ⟨cb,0,none⟩),.agg #[.pointer (some ⟨i.b,0,none⟩),.string i.ah,.bool i.own]] [] K h:=by
 refine vS (some ⟨cb,0,none⟩) i.raw ?_;unfold pQ bR cn bD aL aF d6 hH bU Ou Ca GQ PX;obtain⟨s,aO,hst⟩:=cur.ex;refine aQ fun h1 b1 k1=>?_
 have zc:=bw aO;have s1:=k1.size;refine⟨i.ah,vc b1 1,_,vc b1 0,?_⟩;have io1:=io.updM (k1.wide (M:=C)) fun b hb=>.inl (hCW b hb)
 refine AA io1.1 ⟨vc b1 1,?_,?_⟩
 ·have:=io.2.2.1
  unfold It.key at this;rw[ac]at this;have e1:i.ah.data.toList.length=i.ah.size:=by simp
  have e2:i.sl.data.toList.length=i.sl.size:=by simp
  omega
 have c1:=k1.get0 aO;refine⟨_,rfl,_,xO c1 1 0,_,xO c1 1 1,true,xO c1 1 2,?_⟩;refine NP fun h2 k2=>aj.2 ⟨_,vc (k2.get0 b1) 0,i.ah,vc (k2.get0 b1) 1,?_⟩
 have k02:=k1.tr k2;refine aQ fun h3 b3 k3=>⟨_,vc (k3.get0 (k2.get0 b1)) 0,?_⟩
 have k03:=k02.tr k3;have z3:=bw b3;have s2:=k02.size;have io3:=io.updM (k03.wide (M:=C)) fun b hb=>.inl (hCW b hb)
 have hn:=kY io.2.1;refine C4 io3.1 hn fun s4 h4 ks ho4 hL4 k4=>?_
 have k04:=k03.tr k4;have hs4:Sl yQ 1 (fun b=>h2.size≤b∧b<h3.size∨h4.size≤b) h4 s4 ks:=ho4.sl fun b hb hlt hx=>by rcases hx with hx|hx<;>omega
 have hlk:ks.length≤256:=by rw[hL4.1];exact hn
 have hlen4:=hs4.len;have s34:=k4.size;let own:It:=⟨i.b,i.ah,true,i.sl,i.w,i.F⟩
 have o3:OwnS JO 3 dG (fun b=>h2.size≤b∧b<h3.size∨h4.size≤b) h4 ⟨some (aC h2),1,1⟩ [own.raw]:=⟨rfl,DW,ag _,.inr ⟨h2.size,[],rfl,.inl ⟨ag _,z3⟩,k4.get0 b3,rfl⟩⟩
 have eah:(i.ah++i.sl).data.toList=i.key:=by unfold It.key;rw[ByteArray.data_append,Array.toList_append]
 obtain⟨its,e1,e2,e3⟩:=Jo (i.ah++i.sl) hL4;have hst4:=(hst.within.upd k04 fun _ _ h=>h)
 have c4:=k04.get0 aO;have hM:∀b,h4.size≤b→(h2.size≤b∧b<h3.size∨h4.size≤b):=fun b hb=>.inr hb
 refine LoopP.ghost (fun(n:Nat) (t:SliceV×Int) h'=>t.2=(n:Int)∧n≤ks.length∧OwnS JO 3 dG (fun b=>h2.size≤b∧b<h3.size∨h4.size≤b) h' t.1 (own.raw::(ks.take n).map fun k=>(k,i.ah++i.sl,false))∧Upd (fun b=>h2.size≤b∧b<h3.size∨h4.size≤b) h4 h') (fun n=>ks.length-n) 0 ⟨rfl,aK _,by simpa using o3,Upd.refl _ _⟩ ?_
 rintro I n ⟨so,ti⟩ h' ⟨et,hnk,hso,hu⟩ hI;simp only at et hso;subst et;have hsz:=hu.size;refine av (fun hlt=>?_) fun hge=>?_
 ·have hlt:n<ks.length:=by have:(n:Int)<(s4.len:Int):=hlt;omega
  obtain⟨a,ha,_,hv⟩:=(hs4.upd hu fun b hb=>.inl hb).at0 (ae hlt)
  refine Join.intro (fun t h2'=>OwnS JO 3 dG (fun b=>h2.size≤b∧b<h3.size∨h4.size≤b) h2' t (own.raw::(ks.take (n+1)).map fun k=>(k,i.ah++i.sl,false))∧Upd (fun b=>h2.size≤b∧b<h3.size∨h4.size≤b) h4 h2') (fun R hR=>⟨⟨by simp only;omega,by simp only;omega⟩,a,ha,ks[n],hv,aQ fun h5 b5 k5=>?_⟩) ?_
  ·have o5:OwnS JO 3 dG (fun _=>True) h5 ⟨some (aC h'),1,1⟩ [(ks[n],i.ah++i.sl,false)]:=⟨rfl,DW,ag _,.inr ⟨h'.size,[],rfl,trivial,b5,rfl⟩⟩
   refine⟨_,(o5.sl (W:=No) fun _ _ _ h=>h).srow,?_⟩
   have s5:=k5.size;refine AppP.own (ys:= [(ks[n],i.ah++i.sl,false)]) (hso.upd k5 fun _ _ h=>h) rfl rfl rfl rfl (by omega) (by rw[ap,cg,aD,aw];omega) (.inr (by omega)) fun s6 h6 ho6 hu6=>hR _ _ ⟨?_,(hu.tr k5.wide).tr hu6⟩
   rw[List.take_succ_eq_append_getElem hlt,cr];exact ho6
  ·rintro t h2' ⟨ho2,hu2⟩
   rw[cl hlt (by omega)];exact hI (n+1) _ _ ⟨rfl,hlt,ho2,hu2⟩ (by omega)
 ·have hnl:n=ks.length:=by have:¬(n:Int)<(s4.len:Int):=hge;omega
  subst hnl;rw[bQ,←e1]at hso;have hsub:∀b,(h2.size≤b∧b<h3.size∨h4.size≤b)→h.size≤b:=fun b hb=>by rcases hb with hb|hb<;>omega
  have hlits:its.length=ks.length:=by have:=congrArg dX e1;simpa using this
  refine Join.intro (fun _ h2'=>OwnS JO 3 dG (fun b=>h2.size≤b∧b<h3.size∨h4.size≤b) h2' so (own.raw::its.map It.raw).reverse∧Upd (fun b=>h2.size≤b∧b<h3.size∨h4.size≤b) h4 h2') (fun R hR=>?_) ?_
  ·have c5:=hu.get c4 (fun hb=>by have:=hsub _ hb;omega)
   refine⟨_,rfl,false,vc c5 4,aB.2 ?_⟩;exact Hg hso (by rw[ap,cg];omega) fun h6 ho6 hu6=>hR _ _ ⟨ho6,hu.tr hu6⟩
  ·rintro _ h6 ⟨ho6,hu6⟩
   have c6:=hu6.get c4 (fun hb=>by have:=hsub _ hb;omega)
   have hst6:=hst4.upd hu6 fun b hb hx=>by have:=hsub _ hx;omega
   refine⟨_,rfl,s,vc c6 0,?_⟩;have s6:=hu6.size;refine⟨_,(ho6.sl (W:=No) fun _ _ _ h=>h).srow,?_⟩
   have hrl:=ho6.len;have hil:=AP items;have hmap:(own.raw::its.map It.raw).reverse=(its.reverse++ [own]).map It.raw:=by rw[List.reverse_cons,cr,List.map_reverse];rfl
   refine AppP.own (M:=C) (ys:=(own.raw::its.map It.raw).reverse) (hst6.more fun b hb=>hb.1) hrl rfl (Jg _) rfl (by omega) (by rw[List.length_reverse,ap,cg,cg];omega) (hC _ (by omega)) fun s7 h7 ho7 hu7=>?_
   have c7:=hu7.get c6 hcb;refine⟨_,rfl,?_⟩;refine rx (i:=0) (c':=Oe s7) c7 (show 0<5 by decide) rfl fun h8 c8 hu8=>?_
   have ho8:=ho7.upd hu8 fun b hb e=>hcb (by have e:b=cb:=e;rw[←e];exact hb)
   rw[hmap,←cr]at ho8;have huC:Upd (fun b=>C b∨b=cb) h h8:=(((k04.wide (M:=C)).trans hu6 fun b hb=>.inr (hsub b hb)).tr hu7).mono (fun b hb=>.inl (.inl hb))|>.trans hu8 fun b hb=>.inl (.inr hb)
   have hupd:∀{j:It},It.Ok W h4 j→It.Ok W h8 j:=fun oj=>((oj.updM hu6 fun b hb=>.inl (hCW b (hC b (hsub b hb)))).updM hu7 fun b hb=>.inl (hCW b hb)).updM hu8 fun b hb=>.inl (by have hb:b=cb:=hb;rw[hb];exact hcbW)
   refine hk h8 (its.reverse++ [own]) ⟨⟨s7,c8,ho8⟩,fun j hj=>?_⟩ ?_ ?_ huC
   ·rcases bP.1 hj with hj|hj
    ·exact(cur.ok j hj).updM huC fun b hb=>.inl (hb.elim (hCW b) fun e=>e▸hcbW)
    ·rcases bP.1 hj with hj|hj
     ·exact hupd (Pc io ho e2 eah e3 j (List.mem_reverse.1 hj))
     ·rw[aJ.1 hj]
      exact It.Ok.updM (i:=own) huC (fun b hb=>.inl (hb.elim (hCW b) fun e=>e▸hcbW)) ⟨io.1,io.2⟩
   ·rw[C8]
    unfold rE;rw[List.reverse_reverse,FC eah e2 fun j hj=>⟨(e3 j hj).1,(e3 j hj).2.1⟩]
    show(i.w.map fun v=>(own.key,v)).toList++_=It.prs i
    have hke:own.key=i.key:=rfl;unfold It.prs lv;rw[ho,hke];simp only[cS,if_false,cr];congr 1
    cases i.w with
    |none=>rfl
    |some v=>simp
   ·rw[ue]
    have hc1:jl its.reverse=jl its:=by unfold jl;rw[List.map_reverse,List.sum_reverse]
    rw[hc1,Gd e2 fun j hj=>(e3 j hj).2.1]
    have:jl [own]=1:=rfl;rw[this];unfold It.cost;rw[ho];simp only[cS,if_false];omega
end Go.Proofs
