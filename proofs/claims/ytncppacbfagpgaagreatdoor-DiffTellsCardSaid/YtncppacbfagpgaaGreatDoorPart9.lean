/- A part of the proof that the named laws of this program answer true, whatever the input. -/
import Derived.Test.YtncppacbfagpgaaGreatDoorPart8
import Derived.Test.YtncppacbfagpgaaGreatDoorPart4
import Derived.Test.YtncppacbfagpgaaGreatDoorPart7
open Bool renaming eq_iff_iff→jf,and_eq_true→bH
open ByteArray renaming data_extract→nK
open Int renaming toNat_natCast→aR,tmod→qR
open List renaming pairwise_append→cr,mem_cons_self→av,append_nil→aL,mem_append_left→cI,mem_append→bI,mem_append_right→de,length_append→ac,length_nil→aJ,length_cons→al,getElem?_append_right→aN,length_singleton→aE,length_eq_zero_iff→aw,nil_append→cz,cons_append→cJ,cons→fi,mem_cons→aB,pairwise_cons→aA,drop_zero→cO,drop_left→g8,take_length→bT,append_assoc→ar,foldl_cons→kH,take_succ_cons→eA,take_append_drop→aK,length→fy,length_drop→aU,mem_of_getLast?→gh,mem_singleton→aF,take_take→iK,length_take→aI,mem_cons_of_mem→aC,sublist_append_right→qe,getElem?_eq_getElem→ae,take_of_length_le→bo,length_pos_iff→fL,getElem_mem→bw,take_succ_eq_append_getElem→aV
open List.Pairwise renaming nil→fT
open Nat renaming lt_of_lt_of_le→aD,le_refl→aj,sub_self→dP,one_pos→pC,zero_le→aS,sub_zero→fa,le_trans→bh,min_eq_left→bN,min_eq_right→il
open Option renaming some→bQ
namespace Go.Proofs
open Go Go.Lift
theorem Ix{h:ad}{b:Nat}{c:Array Value}{t:TypeId}{v:Value}{k:ad→Prop}(a:h[b]? =some (.cells c t (0,0))) (e:0<c.size) (d:∀h',h'[b]? =some (.cells (c.setIfInBounds 0 v) t (0,0))→Upd (· =b) h h'→k h'):Wr h ⟨b,0,none⟩∧At (hset h ⟨b,0,none⟩ v) k:=
 ⟨iw a e,wK a d⟩
theorem Xc{L D T:List Pr}{p:Pr}(c:bS L)(e:L=D++p::T):LB D p=D++ [p]:=by
 subst e;have b:=cr.1 c;rw[Ew p b.1];have:=Ev (p:=p) (A:=D) (B:= []) fun r a=>b.2.2 r a p (av ..)
 rw[aL]at this;exact this
theorem Yd{z:Hs}{lev:Nat}{D A B:List Pr}{f:Pr}(q:Srt (abU z lev) (D++(A++B)))(m:∀d∈D,∀t∈A++B,ck z lev d.1<ck z lev t.1)(k:f∈A)(j:∀a∈A,ck z lev a.1=ck z lev f.1)(n:∀b∈B,ck z lev b.1≠ck z lev f.1):
  part z lev (ck z lev f.1) (D++(A++B))=A∧part z lev (ck z lev f.1) D= []∧(∀c,c≠ck z lev f.1→part z lev c (D++A)=part z lev c D)∧part z lev (ck z lev f.1) (D++A)=A∧∀d∈D++A,∀t∈B,ck z lev d.1<ck z lev t.1:=by
 have g:part z lev (ck z lev f.1) D= []:=zo fun d hd=>by have:=m d hd f (cI _ k);omega
 have o:part z lev (ck z lev f.1) A=A:=Jv j;have s:part z lev (ck z lev f.1) B= []:=zo n;have app:∀{c} (X Y:List Pr),part z lev c (X++Y)=part z lev c X++part z lev c Y:=fun X Y=>List.filter_append ..
 refine⟨by rw[app,app,g,o,s];simp,g,fun c hc=>?_,by rw[app,g,o];rfl,fun d hd t i=>?_⟩
 ·have:part z lev c A= []:=zo fun a p=>by rw[j a p];exact fun e=>hc e.symm
  rw[app,this,aL]
 ·rcases bI.1 hd with hd|hd
  ·exact m d hd t (de _ i)
  ·have u:=of_decide_eq_false (q.right.cross d hd t i)
   have h2:=n t i;have v:=j d hd;omega
set_option maxHeartbeats 1000000 in
theorem ZZ{N:Nat}(st:StH N)(hN:N≤100000){z:Hs}{W:Nat→Prop}:∀(m:Nat),m≤13→∀{h:ad} {s:SliceV} {L:List Pr},Sl (tU z) 3 No h s L→(∀y,W y→y<h.size)→bS L→L.length≤N→∀{K:Option Addr→ad→Prop},
  (∀h' b,TrieAt W z h' m b L→Upd No h h'→K (some ⟨b,0,none⟩) h')→HC PG sH [.slice s.a s.len s.cap,.int .i64 ((13-m:Nat):Int)] [.c .ptr] K h:=by
 intro m;induction m with
 |zero=>
  intro _ h s L hs hW hr hn K hk;have gW:∀{h'},Upd No h h'→∀y,W y→y<h'.size:=fun k y hy=>aD (hW y hy) k.size
  refine Fi s ((13-0:Nat):Int) ?_;unfold zW bE bX nv ji ay df rV B5 Sh xX CV;refine aW fun h1 b1 k1=>⟨_,Lj b1,au.2 ?_⟩
  refine NB (gW k1) fun h4 b4 bk4 hu4=>?_
  have hlen:=hs.len;refine LoopP.ghost (fun(g:List Pr×List Pr) (t:Option Addr×Int) h'=>(∃b,t.1=some ⟨b,0,none⟩∧BuckAt W h' b g.1)∧t.2=(g.1.length:Int)∧L=g.1++g.2∧Upd No h h') (fun g=>g.2.length) ([],L) ⟨⟨b4,rfl,bk4⟩,rfl,rfl,k1.tr hu4⟩ ?_
  rintro I ⟨D,T⟩ ⟨tb,ti⟩ h5 ⟨⟨b,Y,bk⟩,e2,w,P⟩ hI;simp only at Y e2 w bk;subst Y e2;have hl3:L.length=D.length+T.length:=by rw[w,ac]
  refine ax (fun hlt=>?_) fun hge=>?_
  ·rcases T with _|⟨p,T⟩
   ·simp only[aJ]at hl3;omega
   ·simp only[al]at hl3
    obtain⟨a,ha,_,hv⟩:=(hs.upd P fun _ h=>h.elim).at (i:=D.length) (x:=p) (by rw[w,aN (aj _),dP];rfl)
    refine⟨⟨by omega,by omega⟩,a,ha,p.1,hv 0 _ rfl,p.2,hv 1 _ rfl,eP z p.1,hv 2 _ rfl,?_⟩
    refine aW fun h6 b6 k6=>?_
    refine dH (c:= [.string ⟨#[]⟩,.string ⟨#[]⟩,.int .u64 0]) (vs:=tU z p) b6 rfl fun h7 b7 U=>?_
    have hu07:=(P.tr k6).own U P.size;have k57:Upd No h5 h7:=k6.own U (aj _);refine⟨p.1,Av b7 0 0,p.2,Av b7 0 1,?_⟩;have hrD:bS D:=by rw[w]at hr;exact(cr.1 hr).1
    refine Iw (bk.upd k57 fun _ h=>h.elim) (gW hu07) hrD (by omega) p fun h8 b8 bk8 hu8=>?_
    rw[Xc hr w]at bk8;have ew:IntKind.wrap .i64 ((D.length:Int)+1)=((D++ [p]).length:Int):=by rw[ac,aE,dI (by omega)];omega
    rw[ew];exact hI (D++ [p],T) _ _ ⟨⟨b8,rfl,bk8⟩,rfl,by rw[w];simp,hu07.tr hu8⟩ (by simp)
  ·have hT:T= []:=aw.1 (by omega)
   subst hT;rw[aL]at w;subst w;exact hk h5 b bk P
 |succ m ih=>
  intro hm h s L hs hW hr hn K hk;have gW:∀{h'},Upd No h h'→∀y,W y→y<h'.size:=fun k y hy=>aD (hW y hy) k.size
  have hlev:13-(m+1)=12-m:=by omega
  have M:12-m<13:=by omega
  refine Fi s ((13-(m+1):Nat):Int) ?_;unfold zW bE bX nv ji ay df rV B5 Sh xX CV;rw[hlev];refine aW fun h1 b1 k1=>⟨_,Lj b1,?_⟩
  have ne:(((12-m:Nat):Int)==(13:Int))=false:=by rw[beq_eq_false_iff_ne];omega
  rw[ne];refine ag.2 (aW fun h2 b2 k2=>?_)
  have z1:=bC b1;have z2:=bC b2;have s1:=k1.size;refine Ix b2 pC fun h3 b3 hu3=>?_
  have c1:=hu3.oth (k2.get0 b1) (by omega);have two3:Two h.size h1.size (12-m) h3:=⟨c1,b3⟩;have k03:Upd No h h3:=(k1.tr k2).own hu3 s1;have s3:h2.size≤h3.size:=hu3.size;refine W6 (hs.upd k03 fun _ h=>h.elim) (by omega) fun e h4 ho4 hu4=>?_
  have two4:=two3.upd hu4;refine st (abT z (12-m)) (adG M (by omega) (by omega)) ho4 two4 (by omega) fun h5 R ho5 hst P=>?_
  have k45:Upd No h3 h5:=hu4.trans P fun b hb=>.inr hb
  have two5:=two3.upd k45;have hRl:=hst.eqf.len;have hRp:∀c,part z (12-m) c R=part z (12-m) c L:=fun c=>by
   by_cases hex:∃q∈R++L,ck z (12-m) q.1=c
   ·obtain⟨q,_,hq⟩:=hex
    have Y:∀X:List Pr,X.filter (Ny (abU z (12-m)) q)=part z (12-m) c X:=fun X=>List.filter_congr fun p _=>by rw[aaV,hq]
    rw[←Y,←Y];exact hst.eqf.flt q
   ·rw[zo fun p hp e=>hex ⟨p,cI _ hp,e⟩,zo fun p hp e=>hex ⟨p,de _ hp,e⟩]
  have k05:=k03.tr k45;refine se (gW k05) fun h6 b6 nd6 hu6=>?_
  have k06:=k05.tr hu6;have hlen:=ho5.len;have C:Sl (tU z) 3 No h6 e R:=(ho5.sl fun _ _ _ h=>h).upd hu6 fun _ h=>h.elim
  refine LoopP.ghost (fun(g:List Pr×List Pr) (t:SliceV×Option Addr) h'=>R=g.1++g.2∧(∀d∈g.1,∀y∈g.2,ck z (12-m) d.1<ck z (12-m) y.1)∧Sl (tU z) 3 No h' t.1 g.2∧t.1.len≤t.1.cap∧(∃b sl,t.2=some ⟨b,0,none⟩∧NodeAt W h' b sl∧∀c,c<32→SlotIs W z h' m sl c (part z (12-m) c g.1))∧Upd No h6 h') (fun g=>g.2.length) ([],R)
   ⟨rfl,fun d hd=>(by cases hd),C,ho5.cap,⟨b6,_,rfl,nd6,fun c _=>.inl ⟨rfl,rfl,rfl⟩⟩,Upd.refl _ _⟩ ?_
  rintro I ⟨D,T⟩ ⟨sT,tb⟩ h7 ⟨w,hDT,o,hcT,⟨b,sl,Y,nd,C⟩,U⟩ hI;simp only at Y w hDT o hcT nd C;subst Y;have V:=o.len;have hRT:R.length=D.length+T.length:=by rw[w,ac]
  have k07:=k06.tr U;have two7:=(two5.upd hu6).upd U;refine ax (fun hgt=>?_) fun hle=>?_
  ·rcases T with _|⟨p,T⟩
   ·simp only[aJ]at V;simp only at hgt;omega
   obtain⟨a,ha,_,hv⟩:=o.at (i:=0) (x:=p) rfl;refine⟨_,Lj two7.2,⟨by omega,by simp only[al]at V;simp only;omega⟩,a,ha,p.1,hv 0 _ rfl,p.2,hv 1 _ rfl,eP z p.1,hv 2 _ rfl,?_⟩
   have v:∀{h8},Upd No h7 h8→Two h.size h1.size (12-m) h8:=fun k=>two7.upd k
   refine⟨Ks (z:=z) M two7.1 p fun h8 k8=>aW fun h9 b9 k9=>Ix b9 pC fun h10 S hu10=>?_,aW fun h8 b8 k8=>⟨?_,Lj (v k8).2,Ks (z:=z) M (v k8).1 p fun h9 k9=>Ix (k9.get0 b8) pC fun h10 S hu10=>?_⟩⟩
   case refine_2=>
    obtain⟨a',ha',_,Q⟩:=(o.upd k8 fun _ h=>h.elim).at (i:=0) (x:=p) rfl
    rw[ha]at ha';cases ha';exact⟨Q 0 _ rfl,Q 1 _ rfl,Q 2 _ rfl⟩
   case' refine_1=>
    have n:Upd No h7 h10:=(k8.tr k9).own hu10 k8.size;obtain⟨vb,evb⟩:∃vb,vb=h8.size:=⟨_,rfl⟩;rw[cR h8,←evb];rw[←evb]at S
   case' refine_3=>
    have n:Upd No h7 h10:=(k8.tr k9).own hu10 (aj _);obtain⟨vb,evb⟩:∃vb,vb=h7.size:=⟨_,rfl⟩;rw[cR h7,←evb];rw[←evb]at S
   all_goals
    have hTl:(p::T).length≤N:=by omega
    refine WP (o.upd n fun _ h=>h.elim) (by omega) (g:=fun q=>decide (ck z (12-m) q.1≠ck z (12-m) p.1)) (fun q _ h' K' hu' hK=>?_) fun h11 A B e u hA hBn hBc Z=>?_
    ·refine HV.mk' (KD (q.1,q.2,eP z q.1) ⟨h1.size,0,none⟩ ⟨vb,0,none⟩ ?_)
     unfold Bv af ji az xX S2;refine aW fun h12 b12 k12=>?_
     have k':=hu'.tr k12;refine⟨_,Lj (v (n.tr k')).2,_,vc b12 0,_,vc b12 1,_,vc b12 2,_,Lj (k'.get0 S),?_⟩;refine Ks (z:=z) M (v (n.tr k')).1 q fun h13 k13=>⟨Lj ((k'.tr k13).get0 S),?_⟩
     have eb:(((ck z (12-m) q.1:Nat):Int) !=((ck z (12-m) p.1:Nat):Int))=decide (ck z (12-m) q.1≠ck z (12-m) p.1):=by
      rw[jf,bne_iff_ne,decide_eq_true_iff];omega
     rw[eb];exact hK h13 (k12.tr k13)
    obtain⟨A',rfl⟩:∃A',A=p::A':=by
     rcases A with _|⟨a0,A'⟩
     ·have:=(hBc p T (by rw[cz]at u;exact u.symm)).2
      simp at this
     ·rw[cJ]at u
      exact⟨A',by rw[(fi.inj u).1]⟩
    generalize hAe:p::A'=A at*;have hpA:p∈A:=by rw[←hAe];exact av ..
    have hA1:0<A.length:=List.length_pos_of_mem hpA;have O:=hst.srt;rw[u]at hDT o hTl V;rw[w,u]at O;simp only[ac]at hTl V;have hcA:∀q∈A,ck z (12-m) q.1=ck z (12-m) p.1:=fun q hq=>by simpa using hA q hq
    have hcB:∀q∈B,ck z (12-m) q.1≠ck z (12-m) p.1:=fun q hq=>by
     rcases B with _|⟨b0,B'⟩
     ·cases hq
     have hb0:ck z (12-m) b0.1≠ck z (12-m) p.1:=by simpa using(hBc b0 B' rfl).2
     have h1:=of_decide_eq_false (O.right.cross p hpA b0 (av ..));rcases aB.1 hq with rfl|hq
     ·exact hb0
     ·have h2:=of_decide_eq_false ((aA.1 O.right.right).1 q hq)
      omega
    obtain⟨r1,r2,r3,r4,r5⟩:=Yd O hDT hpA hcA hcB;have hi:=Af z (12-m) p.1;have hsi:=C _ hi;rw[r2]at hsi;obtain⟨hsp,hskn⟩:sl.p (ck z (12-m) p.1)=none∧sl.k (ck z (12-m) p.1)=none:=by
     rcases hsi with⟨_,h1,h2⟩|⟨q,h1,_⟩|⟨h1,_⟩
     ·exact⟨h1,h2⟩
     ·cases h1
     ·simp at h1
    have J:=(U.tr n).tr Z;have j:=n.tr Z;have b11:=Z.get0 S;have F:=v j;refine Join.intro (fun t h'=>t=(A.length:Int)∧h'=h11) (fun R1 hR1=>?_) ?_
    ·refine ax (fun hneg=>hR1 _ _ ⟨?_,rfl⟩) fun hpos=>hR1 _ _ ⟨?_,rfl⟩
     ·rcases B with _|⟨b0,B'⟩
      ·have V:sT.len=A.length+0:=V
       show((sT.len:Nat):Int)=(A.length:Int)
       omega
      ·have:=(hBc b0 B' rfl).1;omega
     ·rcases B with _|⟨b0,B'⟩
      ·have:=hBn rfl;omega
      ·exact(hBc b0 B' rfl).1
    rintro t h' ⟨rfl,rfl⟩;refine Join.intro (fun t h9=>∃b' sl',t=some ⟨b',0,none⟩∧NodeAt W h9 b' sl'∧(∀c,c<32→SlotIs W z h9 m sl' c (part z (12-m) c (D++A)))∧Upd No h' h9) (fun R1 hR1=>?_) ?_
    ·refine CondP.intro (fun H=>?_) fun E=>?_
     ·have H:A.length=1:=by have:=eq_of_beq H;omega
      have hAp:A= [p]:=by
       rw[←hAe]at H⊢;simp only[al]at H;rw[aw.1 (show A'.length=0 by omega)]
      obtain⟨a',ha',_,Q⟩:=(o.upd j fun _ h=>h.elim).at (i:=0) (x:=p) (by rw[←hAe];rfl)
      rw[ha]at ha';cases ha';refine⟨_,Lj b11,⟨by omega,by omega⟩,a,ha,p.1,Q 0 _ rfl,p.2,Q 1 _ rfl,?_⟩
      refine tP (nd.upd j fun _ h=>h.elim) (gW (k06.tr J)) hi (fun _ _=>hskn) p fun h12 b12 nd12 f=>hR1 _ _ ⟨b12,_,rfl,nd12,fun c hc=>?_,f⟩
      by_cases e:c=ck z (12-m) p.1
      ·rw[e,r4,hAp]
       exact .inr (.inl ⟨p,rfl,gS,gS⟩)
      ·rw[r3 c e]
       have t:=SlotIs.upd0 (j.tr f) (C c hc);have Y:upd sl.p (ck z (12-m) p.1) (some p) c=sl.p c:=gr e;have e2:upd sl.k (ck z (12-m) p.1) none c=sl.k c:=gr e;unfold SlotIs at t;rw[←Y,←e2]at t;exact t
     ·have E:A.length≠1:=fun e=>by rw[e]at E;simp at E
      refine⟨_,Lj b11,⟨by omega,(by show((A.length:Nat):Int)≤((sT.cap:Nat):Int);omega)⟩,_,Lj F.1,?_⟩;have ew:IntKind.wrap .i64 (((12-m:Nat):Int)+1)=((13-m:Nat):Int):=by rw[dI (by omega)];omega
      rw[ew];have hsA:=Sl.sub (o.upd j fun _ h=>h.elim) (l:=0) (hi:=A.length) (m:=sT.cap) (c:=sT.cap-0) (aS _) (by simp) (by omega)
      rw[cO,fa,List.take_left]at hsA;have hAL:A=part z (12-m) (ck z (12-m) p.1) L:=by
       rw[←hRp,w,u];exact r1.symm
      refine ih (by omega) hsA (gW (k06.tr J)) (by rw[hAL];exact ju hr) (by omega) fun h12 kb t12 f=>?_
      refine⟨Lj (F.upd f).1,Lj (f.get0 b11),?_⟩;refine yu (nd.upd (j.tr f) fun _ h=>h.elim) (gW ((k06.tr J).tr f)) hi (fun _ _=>hsp) ⟨kb,0,none⟩ fun h13 b13 nd13 G=>⟨Lj ((F.upd f).upd G).1,hR1 _ _ ⟨b13,_,rfl,nd13,fun c hc=>?_,f.tr G⟩⟩
      by_cases e:c=ck z (12-m) p.1
      ·rw[e,r4]
       exact .inr (.inr ⟨by omega,gS,kb,gS,TrieAt.upd0 G t12⟩)
      ·rw[r3 c e]
       have t:=SlotIs.upd0 ((j.tr f).tr G) (C c hc);have Y:upd sl.p (ck z (12-m) p.1) none c=sl.p c:=gr e;have e2:upd sl.k (ck z (12-m) p.1) (some (some ⟨kb,0,none⟩)) c=sl.k c:=gr e;unfold SlotIs at t;rw[←Y,←e2]at t;exact t
    ·rintro t h9 ⟨b',sl',rfl,nd9,hs9,hu9⟩
     refine⟨⟨by omega,(by show((A.length:Nat):Int)≤((sT.len:Nat):Int);omega)⟩,?_⟩;rw[aR];have hsB:=Sl.sub ((o.upd j fun _ h=>h.elim).upd hu9 fun _ h=>h.elim) (l:=A.length) (hi:=(A++B).length) (m:=sT.cap) (c:=sT.cap-A.length) (by simp) (aj _) (by rw[ac];omega)
     rw[g8,ac,Nat.add_sub_cancel_left,bT]at hsB;have elen:sT.len-A.length=B.length:=by omega
     rw[elen];refine hI (D++A,B) _ _ ⟨by rw[w,u,ar],r5,hsB,by simp only;omega,⟨b',sl',rfl,nd9,hs9⟩,J.tr hu9⟩ ?_
     simp only[u,ac];omega
  ·have hT:T= []:=by
    refine aw.1 ?_;simp only at hle;omega
   subst hT;rw[aL]at w;subst w;exact hk h7 b ⟨sl,nd,fun c hc=>by
    have:=C c hc
    rw[hRp c]at this
    exact this⟩ k07
end Go.Proofs
namespace Go.Proofs
open Go Go.Lift
theorem Zn{z:Hs}{M:Nat→Prop}{h:ad}{so:SliceV}{out:List Pr}{p:Pr}{K:SliceV→ad→Prop}(e:OwnS (tU z) 3 aX M h so out)(hM:∀b,h.size≤b→M b)(g:out.length+1≤1000000000)
  (f:∀s' h',OwnS (tU z) 3 aX M h' s' (out++ [p])→Upd M h h'→K s' h'):
  ∃xs,SRow (hnew h (tU z p) aX) (some (aG h)) (1*3) xs∧AppP (some [.string (⟨#[]⟩:ByteArray),.string (⟨#[]⟩:ByteArray),.int .u64 0]) 3 40 aX so.a so.len so.cap 1 xs (hnew h (tU z p) aX) K:=by
 have k:=Upd.hnew No h (tU z p) aX;have c:OwnS (tU z) 3 aX (fun _=>True) (hnew h (tU z p) aX) ⟨some (aG h),1,1⟩ [p]:=⟨rfl,Oz z,aj _,.inr ⟨h.size,[],rfl,trivial,cq ..,rfl⟩⟩
 refine⟨_,(c.sl (W:=No) fun _ _ _ h=>h).srow,?_⟩
 refine AppP.own (ys:= [p]) (e.upd k fun _ _ h=>h) rfl rfl rfl rfl (by omega) (by simp only[aE];omega) (hM _ (by rw[jw];omega)) fun s' h' a d=>?_
 exact f s' h' a ((Upd.hnew M h _ _).tr d)
theorem UW(l:List Pr):(xb l).length≤l.length:=by
 have:∀(l acc:List Pr),(l.foldl (fun acc p=>hJ p acc) acc).length≤acc.length+l.length:=by
  intro l;induction l with
  |nil=>intro acc;simp
  |cons p l ih=>
   intro acc;rw[kH];have a:=ih (hJ p acc);have h2:=yC p (l:=acc);simp only[al];omega
 have:=this l [];unfold xb;simpa using this
theorem W9{N:Nat}(st:StP N)(sh:StH N)(hN:N≤100000){z:Hs}{W W0:Nat→Prop}{h:ad}{s:SliceV}{l:List Pr}(hs:Sl eu 2 W0 h s l)(S:∀y,W y→y<h.size)(hn:l.length≤N){K:Option Addr→ad→Prop}
  (Q:∀h' b,TrieAt W z h' 13 b (xb l)→Upd No h h'→K (some ⟨b,0,none⟩) h'):HC PG yj [.agg #[.int .u64 z.k0,.int .u64 z.k1,.int .u64 z.mask],.slice s.a s.len s.cap] [.c .ptr] K h:=by
 refine L9 (z.k0,z.k1,z.mask) s ?_;unfold CU bX af nv BK xa ay az lN is Ln B5 Sh;refine aW fun h1 b1 k1=>?_
 refine Dd st (by omega) (W':=No) (hs.upd k1 fun _ h=>h.elim) (fun _ h=>h.elim) (by omega) fun e w m _ H=>?_
 have Z:=H.get0 b1;have A:=k1.tr H;have j:=UW l;have k:=BG l;generalize xb l=L at*;have d:=m.len;refine LoopP.ghost (fun(g:List Pr×List Pr) (t:SliceV×Int) h'=>t.2=(g.1.length:Int)∧L=g.1++g.2∧OwnS (tU z) 3 aX (fun b=>w.size≤b) h' t.1 g.1∧Upd No w h') (fun g=>g.2.length) ([],L) ⟨rfl,rfl,OwnS.nil (Oz z),Upd.refl _ _⟩ ?_
 rintro I ⟨D,T⟩ ⟨sa,ti⟩ h6 ⟨P,O,u,q⟩ U;simp only at P O u;subst P O;simp only[ac]at d j;have hlD:=u.len;refine ax (fun B=>?_) fun F=>?_
 ·rcases T with _|⟨p,T⟩
  ·simp only[aJ]at d;simp only at B;omega
  simp only[al]at d j;refine Join.intro (fun t h'=>OwnS (tU z) 3 aX (fun b=>w.size≤b) h' t (D++ [p])∧Upd No w h') (fun R X=>?_) ?_
  ·obtain⟨a,Y,_,hv⟩:=(m.upd q fun _ h=>h.elim).at (i:=D.length) (x:=p) (by rw[aN (aj _),dP];rfl)
   refine⟨⟨by omega,by simp only;omega⟩,a,Y,p.1,hv 0 _ rfl,p.2,hv 1 _ rfl,?_⟩
   refine JA (p:=p) fun h8 v C=>?_
   have G:=(q.tr C).get0 Z;refine⟨p.1,vc v 0,p.2,vc v 1,_,vc G 0,_,vc G 1,_,vc G 2,p.1,vc v 0,?_⟩;refine vN fun h9 E=>?_
   have J:=E.get0 v;refine⟨⟨vc J 0,vc J 1⟩,bM ?_⟩;have n:=(q.tr C).tr E;have z9:=n.size;refine Zn (z:=z) (p:=p) (((u.upd C fun _ _ h=>h).upd E fun _ _ h=>h)) (fun b M=>by omega) (by omega) fun s' h' f c=>X _ _ ⟨f,n.trans c fun b M=>.inr M⟩
  ·rintro s' h' ⟨f,c⟩
   have V:IntKind.wrap .i64 ((D.length:Int)+1)=((D++ [p]).length:Int):=by rw[ac,aE,dI (by omega)];omega
   rw[V];exact U (D++ [p],T) _ _ ⟨rfl,by simp,f,c⟩ (by simp)
 ·have hT:T= []:=aw.1 (by simp only at F;omega)
  subst hT;rw[aL]at k;rw[aL]at Q;have o:=A.tr q;exact ZZ sh hN 13 (aj _) (u.sl fun _ _ _ h=>h) (fun y hy=>aD (S y hy) o.size) k (by simp only[aJ]at j;omega) fun h' b t c=>Q h' b t (o.tr c)
theorem StP.less{N M:Nat}(h:StP N)(hm:M≤N):StP M:=fun w _ _ _ hc _ _ _ c hi b _ a=>h w hc c hi (bh b hm) a
theorem StH.less{N M:Nat}(h:StH N)(hm:M≤N):StH M:=fun w _ _ _ hc _ _ _ c hi b _ a=>h w hc c hi (bh b hm) a
end Go.Proofs
namespace Go.Proofs
open Go Go.Lift
theorem vL{a b:ByteArray}:kl a b↔Op.bytesLess a.data.toList b.data.toList=true:=by unfold kl;rw[ByteArray.toList_eq,ByteArray.toList_eq]
theorem BV{a b:UInt8}{x y:List UInt8}:Op.bytesLess (a::x) (b::y)=true↔a.toNat<b.toNat∨(a=b∧Op.bytesLess x y=true):=by
 simp only[Op.bytesLess,Bool.or_eq_true,decide_eq_true_iff,bH,beq_iff_eq,UInt8.lt_iff_toNat_lt]
theorem Kq(x:List UInt8):Op.bytesLess x []=false:=by cases x<;>rfl
theorem O3{x y:List UInt8}:∀pre:List UInt8,Op.bytesLess (pre++x) (pre++y)=true↔Op.bytesLess x y=true
 | []=>Iff.rfl
 |a::pre=>by rw[cJ,cJ,BV,O3 pre];simp
theorem ac0{x y:List UInt8}(h:Op.bytesLess x y=true)(hx:x≠[])(c:y≠[]):hd x≤hd y:=by
 match x,y,hx,c with
 |a::x,b::y,_,_=>
  show a.toNat≤b.toNat
  rcases BV.1 h with h|⟨rfl,_⟩<;>omega
theorem P7:∀(t:Nat) {f p g:List UInt8},t≤cm f g→(f=p∨Op.bytesLess f p=true)→(p=g∨Op.bytesLess p g=true)→p.take t=f.take t∧t≤p.length
 |0,f,p,g,_,_,_=>by simp
 |t+1,[],p,g,h,_,_=>by simp[cm]at h
 |t+1,a::f,p,[],h,_,_=>by simp[cm]at h
 |t+1,a::f,p,b::g,h,d,h2=>by
  unfold cm at h;split at h
  ·rename_i e
   subst e;rcases p with _|⟨c,p⟩
   ·rcases d with d|d
    ·cases d
    ·rw[Kq]at d;cases d
   ·have hc:c=a:=by
     rcases d with d|d
     ·exact(fi.inj d).1.symm
     ·rcases h2 with h2|h2
      ·exact(fi.inj h2).1
      ·have i:=BV.1 d
       have j:=BV.1 h2;rcases i with i|⟨i,_⟩
       ·rcases j with j|⟨j,_⟩
        ·omega
        ·exact j
       ·exact i.symm
    subst hc;have:=P7 t (f:=f) (p:=p) (g:=g) (by omega) (d.imp (fun h=>(fi.inj h).2) fun h=>by
     rcases BV.1 h with h|⟨_,h⟩
     ·omega
     ·exact h) (h2.imp (fun h=>(fi.inj h).2) fun h=>by
     rcases BV.1 h with h|⟨_,h⟩
     ·omega
     ·exact h)
    rw[eA,eA,this.1,al];exact⟨rfl,by omega⟩
  ·omega
theorem VE:∀f:List UInt8,cm f f=f.length
 | []=>rfl
 |a::f=>by unfold cm;rw[if_pos rfl,VE f];rfl
abbrev ky(p:Pr):List UInt8:=p.1.data.toList
def XD(l:List Pr)(pre k:List UInt8)(v:ByteArray):Prop:=∃p∈l,ky p=pre++k∧p.2=v
structure Beg(l:List Pr)(pre:List UInt8):Prop where
 up:bS l
 at_:∀p∈l,(ky p).take pre.length=pre∧pre.length<(ky p).length
theorem Beg.sub{l l':List Pr}{pre:List UInt8}(b:Beg l pre)(h:l'.Sublist l):Beg l' pre:=⟨b.up.sublist h,fun p a=>b.at_ p (h.subset a)⟩
theorem Beg.split{l:List Pr}{pre:List UInt8}(b:Beg l pre){p:Pr}(c:p∈l):ky p=pre++(ky p).drop pre.length∧(ky p).drop pre.length≠[]:=by
 obtain⟨a,h2⟩:=b.at_ p c;refine⟨?_,fun e=>?_⟩
 ·conv=>lhs;rw[←aK pre.length (ky p),a]
 ·have:=congrArg fy e
  rw[aU,aJ]at this;omega
def bt(n:Nat)(p:Pr):Nat:=hd ((ky p).drop n)
theorem Beg.mono{A B:List Pr}{pre:List UInt8}(b:Beg (A++B) pre){x y:Pr}(hx:x∈A)(a:y∈B):bt pre.length x≤bt pre.length y:=by
 have h:=(cr.1 b.up).2.2 x hx y a;rw[vL]at h;obtain⟨f,d⟩:=b.split (cI B hx);obtain⟨c,e⟩:=b.split (de A a);change Op.bytesLess (ky x) (ky y)=true at h;rw[f,c,O3]at h;exact ac0 h d e
theorem Gt{l:List Pr}{pre:List UInt8}{f g:Pr}(b:Beg l pre)(C:∃r,l=f::r)(o:l.getLast? =some g)(D:bt pre.length f=bt pre.length g):
  pre.length<cm (ky f) (ky g)∧cm (ky f) (ky g)≤(ky f).length∧(∀p∈l,(ky p).take (cm (ky f) (ky g))=(ky f).take (cm (ky f) (ky g)))∧(∀p∈l,p=f∨cm (ky f) (ky g)<(ky p).length)∧
   (cm (ky f) (ky g)<(ky f).length→cm (ky f) (ky g)<(ky g).length∧hd ((ky f).drop (cm (ky f) (ky g)))≠hd ((ky g).drop (cm (ky f) (ky g)))):=by
 obtain⟨r,rfl⟩:=C;have z:f∈f::r:=av ..;have d:g∈f::r:=gh o;obtain⟨G,J⟩:=b.split z;obtain⟨I,F⟩:=b.split d;have s:pre.length<cm (ky f) (ky g):=by
  have:∀(q x y:List UInt8),cm (q++x) (q++y)=q.length+cm x y:=by
   intro q x y;induction q with
   |nil=>simp
   |cons a q ih=>simp only[cJ,cm,if_true,ih,al];omega
  have v:=this pre ((ky f).drop pre.length) ((ky g).drop pre.length);rw[←G,←I]at v;have h2:=Y9 J F D;omega
 have t:=VF (ky f) (ky g);have w:∀p∈f::r,ky f=ky p∨Op.bytesLess (ky f) (ky p)=true:=fun p c=>by
  rcases aB.1 c with rfl|c
  ·exact .inl rfl
  ·exact .inr (vL.1 ((aA.1 b.up).1 p c))
 have u:∀p∈f::r,ky p=ky g∨Op.bytesLess (ky p) (ky g)=true:=fun p c=>by
  rcases List.eq_nil_or_concat (f::r)with h|⟨l',y,h⟩
  ·cases h
  ·rw[List.concat_eq_append]at h
   rw[h,List.getLast?_concat]at o;cases o;have n:=b.up;rw[h]at c n;rcases bI.1 c with c|c
   ·exact .inr (vL.1 ((cr.1 n).2.2 p c g (aF.2 rfl)))
   ·rw[aF.1 c];exact .inl rfl
 have j:∀p∈f::r,(ky p).take (cm (ky f) (ky g))=(ky f).take (cm (ky f) (ky g))∧cm (ky f) (ky g)≤(ky p).length:=fun p c=>P7 _ (aj _) (w p c) (u p c)
 have i:∀p∈f::r,p=f∨cm (ky f) (ky g)<(ky p).length:=fun p c=>by
  obtain⟨v,h2⟩:=j p c;rcases Nat.lt_or_ge (cm (ky f) (ky g)) (ky p).length with h|h
  ·exact .inr h
  ·left
   have E:(ky p).length=cm (ky f) (ky g):=by omega
   have e:ky p=(ky f).take (cm (ky f) (ky g)):=by rw[←v,←E,bT]
   rcases aB.1 c with rfl|c
   ·rfl
   ·have B:=vL.1 ((aA.1 b.up).1 p c)
    change Op.bytesLess (ky f) (ky p)=true at B;exfalso;have H:ky f=ky p++(ky f).drop (cm (ky f) (ky g)):=by rw[e,aK]
    have A:Op.bytesLess (ky p++(ky f).drop (cm (ky f) (ky g))) (ky p++ [])=true:=by rw[aL,←H];exact B
    rw[O3,Kq]at A;cases A
 refine⟨s,t.1,fun p c=>(j p c).1,i,fun k=>?_⟩
 have m:cm (ky f) (ky g)<(ky g).length:=by
  rcases i g d with h|h
  ·exfalso
   rw[h,VE]at k;omega
  ·exact h
 exact⟨m,OW _ _ k m⟩
theorem Ko{l l':List Pr}{pre:List UInt8}{f g:Pr}(b:Beg l pre)(C:∃r,l=f::r)(B:l.getLast? =some g)(E:bt pre.length f=bt pre.length g){F:Fo}(hc:ge F)
  (c:l'=if(ky f).length=cm (ky f) (ky g)then l.drop 1 else l)(u:∀k v,tF F k v↔XD l' ((ky f).take (cm (ky f) (ky g))) k v){w:Option ByteArray}(x:w=if(ky f).length=cm (ky f) (ky g)then some f.2 else none){lab:List UInt8}(o:lab=((ky f).take (cm (ky f) (ky g))).drop pre.length):
  Mi (lab,w,F)∧hd lab=bt pre.length f∧∀k v,wr (lab,w,F) k v↔XD l pre k v:=by
 obtain⟨L,h2,D,M,G⟩:=Gt b C B E;obtain⟨r,rfl⟩:=C;have n:f∈f::r:=av ..;have t:g∈f::r:=gh B;generalize cm (ky f) (ky g)=to at*;have d:pre++lab=(ky f).take to:=by
  have:=(b.at_ f n).1;rw[o];conv=>rhs;rw[←aK pre.length ((ky f).take to),iK,bN (by omega),this]
 have i:lab≠[]:=fun e=>by
  have:=congrArg fy o;rw[e,aJ,aU,aI]at this;omega
 have z:∀k v,wr (lab,w,F) k v↔XD (f::r) pre k v:=by
  intro k v;constructor
  ·rintro⟨q,e,⟨rfl,m⟩|m⟩
   ·simp only at e m
    rw[aL]at e;subst e;rw[x]at m;split at m
    ·rename_i a
     cases m;refine⟨f,n,?_,rfl⟩;rw[d,←a,bT]
    ·cases m
   ·simp only at e m
    obtain⟨p,j,H,rfl⟩:=(u q v).1 m;refine⟨p,?_,?_,rfl⟩
    ·rw[c]at j
     split at j
     ·exact aC _ j
     ·exact j
    ·rw[H,e,←ar,d]
  ·rintro⟨p,j,e,rfl⟩
   have s:=D p j;have I:ky p=pre++(lab++(ky p).drop to):=by
    rw[←ar,d,←s,aK]
   have ek:k=lab++(ky p).drop to:=List.append_cancel_left (e.symm.trans I);refine⟨(ky p).drop to,ek,?_⟩;by_cases a:(ky f).length=to
   ·rw[if_pos a]at x c
    rcases aB.1 j with rfl|j
    ·left
     refine⟨List.drop_eq_nil_of_le (by omega),?_⟩;simp only;rw[x]
    ·right
     refine(u _ _).2 ⟨p,by rw[c];exact j,?_,rfl⟩
     rw[←s,aK]
   ·rw[if_neg a]at x c
    right;refine(u _ _).2 ⟨p,by rw[c];exact j,?_,rfl⟩
    rw[←s,aK]
 refine⟨⟨i,?_,hc⟩,?_,z⟩
 ·by_cases a:(ky f).length=to
  ·left;simp only;rw[x,if_pos a];rfl
  ·have A:to<(ky f).length:=by omega
   obtain⟨K,y⟩:=G A;refine(Kp hc).2 (.inr ⟨(ky f).drop to,(ky g).drop to,f.2,g.2,.inr ?_,.inr ?_,fun e=>?_,fun e=>?_,y⟩)
   ·exact(u _ _).2 ⟨f,by rw[c,if_neg a];exact n,(aK ..).symm,rfl⟩
   ·exact(u _ _).2 ⟨g,by rw[c,if_neg a];exact t,by rw[←D g t,aK],rfl⟩
   ·have:=congrArg fy e
    rw[aU,aJ]at this;omega
   ·have:=congrArg fy e
    rw[aU,aJ]at this;omega
 ·have e:=(b.split n).1
  unfold bt;have m:(ky f).drop pre.length=lab++(ky f).drop to:=by
   have J:ky f=pre++(lab++(ky f).drop to):=by rw[←ar,d,aK]
   conv=>lhs;rw[J]
   rw[g8]
  rw[m,qi i]
structure Row(L:List Bn)(D T:List Pr)(pre:List UInt8):Prop where
 can:∀n∈L,Mi n
 up:L.Pairwise fun m n=>hd m.1<hd n.1
 lo:∀n∈L,∀p∈T,hd n.1<bt pre.length p
 got:∀k v,(∃n∈L,wr n k v)↔XD D pre k v
theorem Row.nil(T:List Pr)(pre:List UInt8):Row [] [] T pre:=⟨fun n h=>(by cases h),fT,fun n h=>(by cases h),fun k v=>⟨fun⟨n,h,_⟩=>(by cases h),fun⟨p,h,_⟩=>(by cases h)⟩⟩
theorem Row.more{L:List Bn}{D A B:List Pr}{pre:List UInt8}{n:Bn}{p:Pr}(r:Row L D (A++B) pre)(i:Beg (A++B) pre)(o:p∈A)(y:∀a∈A,bt pre.length a=bt pre.length p)(u:∀b d,B=b::d→bt pre.length b≠bt pre.length p)(hc:Mi n)(s:hd n.1=bt pre.length p)(j:∀k v,wr n k v↔XD A pre k v):Row (L++ [n]) (D++A) B pre:=by
 refine⟨fun m hm=>?_,cr.2 ⟨r.up,List.pairwise_singleton ..,fun a t b w=>?_⟩,fun m hm q c=>?_,fun k v=>?_⟩
 ·rcases bI.1 hm with hm|hm
  ·exact r.can m hm
  ·rw[aF.1 hm];exact hc
 ·rw[aF.1 w,s]
  exact r.lo a t p (cI _ o)
 ·rcases bI.1 hm with hm|hm
  ·exact r.lo m hm q (de _ c)
  ·rw[aF.1 hm,s]
   rcases B with _|⟨f,d⟩
   ·cases c
   have x:=u f d rfl;have h2:=i.mono o (av (a:=f) (l:=d));rcases aB.1 c with rfl|c
   ·omega
   ·have g:Beg ([f]++d) pre:=i.sub (qe A _)
    have:=g.mono (aF.2 rfl) c;omega
 ·constructor
  ·rintro⟨m,hm,hi⟩
   rcases bI.1 hm with hm|hm
   ·obtain⟨q,c,e⟩:=(r.got k v).1 ⟨m,hm,hi⟩
    exact⟨q,cI _ c,e⟩
   ·rw[aF.1 hm]at hi
    obtain⟨q,c,e⟩:=(j k v).1 hi;exact⟨q,de _ c,e⟩
  ·rintro⟨q,c,e⟩
   rcases bI.1 c with c|c
   ·obtain⟨m,hm,hi⟩:=(r.got k v).2 ⟨q,c,e⟩
    exact⟨m,cI _ hm,hi⟩
   ·exact⟨n,de _ (aF.2 rfl),(j k v).2 ⟨q,c,e⟩⟩
theorem Row.done{L:List Bn}{D:List Pr}{pre:List UInt8}(r:Row L D [] pre):ge (.ofL L)∧∀k v,tF (.ofL L) k v↔XD D pre k v:=by
 refine⟨eT.2 ?_,fun k v=>?_⟩
 ·rw[Fo.to_of];exact⟨r.up,r.can⟩
 ·rw[gM,Fo.to_of];exact r.got k v
end Go.Proofs
namespace Go.Proofs
open Go Go.Lift
theorem YZ(s:ByteArray)(a b:Nat):(s.extract a b).data.toList=(s.data.toList.take b).drop a:=by
 rw[nK,Array.toList_extract,List.extract_eq_take_drop,List.drop_take]
theorem JL(s:ByteArray):s.data.toList.length=s.size:=by simp
theorem Kid.less{W W':Nat→Prop}{h:ad}(hm:∀b,W' b→W b∨h.size≤b){a:Option Addr}{n:Bn}:Kid W h a n→Kid W' h a n
 |⟨b,sl,e1,e2,e3⟩=>⟨b,sl,e1,e2,e3.less hm⟩
theorem Kid.updM{W M:Nat→Prop}{h h':ad}(k:Upd M h h')(hm:∀b,M b→W b∨h.size≤b){a:Option Addr}{n:Bn}:Kid W h a n→Kid W h' a n
 |⟨b,sl,e1,e2,e3⟩=>⟨b,sl,e1,e2,e3.updM k hm⟩
theorem RxL.less{W W':Nat→Prop}{h:ad}(hm:∀b,W' b→W b∨h.size≤b){ks:List (Option Addr)}{L:List Bn}(r:RxL W h ks L):RxL W' h ks L:=⟨r.1,fun p a=>(r.2 p a).less hm⟩
theorem RxL.updM{W M:Nat→Prop}{h h':ad}(k:Upd M h h')(hm:∀b,M b→W b∨h.size≤b){ks:List (Option Addr)}{L:List Bn}(r:RxL W h ks L):RxL W h' ks L:=⟨r.1,fun p a=>(r.2 p a).updM k hm⟩
theorem O0{p:Pr}{n:Nat}(h:n<(ky p).length):∃b:UInt8,p.1[n]? =some b∧b.toNat=bt n p:=by
 rw[QZ];refine⟨(ky p)[n],ae h,?_⟩;unfold bt hd;rw[List.drop_eq_getElem_cons h];rfl
theorem Rm{M:Nat→Prop}{h:ad}{so:SliceV}{out:List (Option Addr)}{p:Option Addr}{K:SliceV→ad→Prop}(e:OwnS qd 1 bj M h so out)(hM:∀b,h.size≤b→M b)(g:out.length+1≤1000000000)
  (f:∀s' h',OwnS qd 1 bj M h' s' (out++ [p])→Upd M h h'→K s' h'):
  ∃xs,SRow (hnew h [.pointer p] bj) (some (aG h)) (1*1) xs∧AppP (some [.pointer none]) 1 8 bj so.a so.len so.cap 1 xs (hnew h [.pointer p] bj) K:=by
 have k:=Upd.hnew No h [.pointer p] bj;have c:OwnS qd 1 bj (fun _=>True) (hnew h [.pointer p] bj) ⟨some (aG h),1,1⟩ [p]:=⟨rfl,oe,aj _,.inr ⟨h.size,[],rfl,trivial,cq ..,rfl⟩⟩
 refine⟨_,(c.sl (W:=No) fun _ _ _ h=>h).srow,?_⟩
 refine AppP.own (ys:= [p]) (e.upd k fun _ _ h=>h) rfl rfl rfl rfl (by omega) (by simp only[aE];omega) (hM _ (by rw[jw];omega)) fun s' h' a d=>?_
 exact f s' h' a ((Upd.hnew M h _ _).tr d)
theorem MH{W:Nat→Prop}{h:ad}{s:SliceV}{ks:List (Option Addr)}{L:List Bn}(J:Sl qd 1 No h s ks)(w:RxL W h ks L)(hn:L.length≤100000)(G:∀y,W y→y<h.size){c d:ByteArray}{has:Bool}{K:Option Addr→ad→Prop}
  (hk:∀h' b,RxN W h' b c (if has then some d else none) (.ofL L)→Upd No h h'→K (some ⟨b,0,none⟩) h'):HC PG vP [.string c,.bool has,.string d,.slice s.a s.len s.cap] [.c .ptr] K h:=by
 refine Pb c has d s ?_;unfold Fp bE bX dG bV;refine aW fun h1 b1 k1=>?_
 have z1:=bC b1;have f:=J.len;have p:=w.1;refine Join.intro (fun _ h'=>∃val,h'[h.size]? =some (.cells (B7 c has val ⟨none,0,0⟩ none) cf (0,0))∧val=(if has then d else⟨#[]⟩)∧Upd No h h') (fun R B=>?_) ?_
 ·cases has with
  |true=>exact au.2 ⟨_,rfl,vI (i:=2) (c':=B7 c true d ⟨none,0,0⟩ none) b1 (show 2<5 by decide) rfl fun h2 b2 F=>B _ _ ⟨_,b2,rfl,k1.own F (aj _)⟩⟩
  |false=>exact ag.2 (B _ _ ⟨_,b1,rfl,k1⟩)
 rintro _ h2 ⟨val,b2,q,N⟩;refine LoopP.ghost (fun(g:List (Option Addr)×List (Option Addr)) (t:Int) h'=>t=(g.1.length:Int)∧ks=g.1++g.2∧(∃so,h'[h.size]? =some (.cells (B7 c has val so none) cf (0,0))∧OwnS qd 1 bj (fun y=>h.size<y) h' so g.1)∧Upd No h h') (fun g=>g.2.length) ([],ks)
  ⟨rfl,rfl,⟨_,b2,OwnS.nil oe⟩,N⟩ ?_
 rintro I ⟨K1,A⟩ t V ⟨H,M,⟨so,b3,j⟩,v⟩ O;simp only at H M j;subst H M;simp only[ac]at f p;have z3:=bC b3;refine ax (fun U=>?_) fun Z=>?_
 ·rcases A with _|⟨m,A⟩
  ·simp only[aJ]at f;omega
  simp only[al]at f p;refine Join.intro (fun _ h'=>(∃so,h'[h.size]? =some (.cells (B7 c has val so none) cf (0,0))∧OwnS qd 1 bj (fun y=>h.size<y) h' so (K1++ [m]))∧Upd No h h') (fun R B=>?_) ?_
  ·obtain⟨kb,S,o,_⟩:=w.at (i:=K1.length) (by omega)
   have C:m=some ⟨kb,0,none⟩:=by
    rw[aN (aj _),dP]at o;exact bQ.inj o
   obtain⟨a,X,_,hv⟩:=(J.upd v fun _ h=>h.elim).at0 (i:=K1.length) (x:=m) (by rw[aN (aj _),dP];rfl)
   refine⟨⟨by omega,by omega⟩,a,X,m,hv,?_⟩
   subst C;refine au.2 ⟨_,rfl,so,vc b3 3,bM ?_⟩;refine Rm j (fun b hb=>by omega) (by omega) fun z h4 k u=>⟨_,rfl,?_⟩
   have E:=u.get b3 (by simp);refine vI (i:=3) (c':=B7 c has val z none) E (show 3<5 by decide) rfl fun h5 T n=>B _ _ ⟨⟨z,T,k.upd n fun x hx e=>by have e:x=h.size:=e;omega⟩,?_⟩
   exact(v.trans u fun x hx=>.inr (Nat.le_of_lt hx)).own n (aj _)
  ·rintro _ h4 ⟨⟨z,E,k⟩,P⟩
   have Q:IntKind.wrap .i64 ((K1.length:Int)+1)=((K1++ [m]).length:Int):=by rw[ac,aE,dI (by omega)];omega
   rw[Q];exact O (K1++ [m],A) _ _ ⟨rfl,by simp,⟨z,E,k⟩,P⟩ (by simp)
 ·have Y:A= []:=aw.1 (by omega)
  subst Y;rw[aL]at w;refine hk V h.size ⟨val,so,none,K1,?_,?_,j.sl (fun x hx _ D=>by have:=G x D;omega),⟨j.cap,fun D=>by have:=G _ D;omega⟩,lJ.2 (by rw[Fo.to_of];exact w.upd0 v)⟩ v
  ·cases has<;>exact b3
  ·rw[q];cases has<;>rfl
def VM(B a:Nat):Prop:=∀{W:Nat→Prop} {h:ad} {s:SliceV} {l:List Pr} {pre:List UInt8},Sl eu 2 No h s l→s.len≤s.cap→Beg l pre→pre.length=a→(∀p∈l,(ky p).length≤B)→l.length≤100000→(∀y,W y→y<h.size)→∀{K:SliceV→ad→Prop},
 (∀h' s' ks L,OwnS qd 1 bj (fun y=>h.size≤y) h' s' ks→RxL W h' ks L→Row L l [] pre→Upd No h h'→K s' h')→HC PG vR [.slice s.a s.len s.cap,.int .i64 (a:Int)] [.c .slice] K h
theorem TS{W:Nat→Prop}{B b:Nat}(hB:B≤1000000)(q:∀to,b<to→VM B to){h:ad}{s:SliceV}{l r:List Pr}{f g:Pr}{pre:List UInt8}(P:Sl eu 2 No h s l)(z:s.len≤s.cap)(bg:Beg l pre)(C:pre.length=b)(D:∀p∈l,(ky p).length≤B)(hn:l.length≤100000)(hW:∀y,W y→y<h.size)
  (o:l=f::r)(Z:l.getLast? =some g)(hb:bt b f=bt b g){K:Option Addr→ad→Prop}
  (hk:∀h' a n,Kid W h' a n→Mi n→hd n.1=bt b f→(∀k v,wr n k v↔XD l pre k v)→Upd No h h'→K a h'):HC PG wF [.slice s.a s.len s.cap,.int .i64 (b:Int)] [.c .ptr] K h:=by
 refine KH s b ?_;unfold BA bE bX ay is Ln XO;subst C;have U:=P.len;have hl0:0<l.length:=by rw[o];simp
 have hfm:f∈l:=by rw[o];exact av ..
 have hgm:g∈l:=gh Z;obtain⟨a,u,_,j⟩:=P.at (i:=0) (x:=f) (by rw[o];rfl);obtain⟨a',S,_,hvg⟩:=P.at (i:=l.length-1) (x:=g) (by rw[←Z,List.getLast?_eq_getElem?]);rw[u]at S;cases S;have ew:IntKind.wrap .i64 ((s.len:Int)-1)=((l.length-1:Nat):Int):=by rw[dI (by omega)];omega
 refine⟨⟨by omega,by omega⟩,a,u,f.1,j 0 _ rfl,?_⟩
 rw[ew];have hsf:=D f hfm;have hszf:f.1.size=(ky f).length:=(JL f.1).symm;refine⟨⟨by omega,by omega⟩,a,u,g.1,hvg 0 _ rfl,Nw (by omega) ?_⟩
 obtain⟨q1,q2,q3,q4,q5⟩:=Gt bg ⟨r,o⟩ Z hb;have X:= @Ko l (if(ky f).length=cm (ky f) (ky g)then l.drop 1 else l) pre f g bg ⟨r,o⟩ Z hb
 obtain⟨to,M⟩:∃to,cm (ky f) (ky g)=to:=⟨_,rfl⟩;rw[M]at q1 q2 q3 q4 X;show _∧_
 change(_∧∃_,_∧_);have G:cm f.1.data.toList g.1.data.toList=to:=M;rw[G];refine⟨⟨by omega,by omega⟩,a,u,f.1,j 0 _ rfl,⟨by omega,by omega⟩,⟨by omega,by rw[aR];omega⟩,⟨by omega,by omega⟩,a,u,f.1,j 0 _ rfl,?_⟩
 have T:((f.1.size:Int)==(to:Int))=decide ((ky f).length=to):=by
  rw[jf,beq_iff_eq,decide_eq_true_iff];omega
 rw[T];have A:(f.1.extract (pre.length:Int).toNat (to:Int).toNat).data.toList=((ky f).take to).drop pre.length:=YZ ..;have H:((ky f).take to).length=to:=by rw[aI];omega
 refine Join.intro (fun(t:SliceV×ByteArray) h'=>h'=h∧Sl eu 2 No h t.1 (if(ky f).length=to then l.drop 1 else l)∧t.1.len≤t.1.cap∧((ky f).length=to→t.2=f.2)) (fun R hR=>?_) ?_
 ·refine ax (fun e=>?_) fun e=>?_
  ·refine⟨⟨by omega,by omega⟩,a,u,f.2,j 1 _ rfl,⟨by omega,by omega⟩,hR _ _ ⟨rfl,?_,by simp only;omega,fun _=>rfl⟩⟩
   rw[if_pos e];have:=Sl.sub P (l:=1) (hi:=l.length) (m:=s.cap) (c:=s.cap-1) (by omega) (aj _) (by omega);rw[bo (by rw[aU];omega),←U]at this;exact this
  ·exact hR _ _ ⟨rfl,by rw[if_neg e];exact P,z,fun h=>absurd h e⟩
 rintro⟨s2,v2⟩ h' ⟨rfl,I,N,V⟩;simp only at I N V;have d:(if(ky f).length=to then l.drop 1 else l).Sublist l:=by
  split
  ·exact List.drop_sublist ..
  ·exact List.Sublist.refl _
 have Q:Beg (if(ky f).length=to then l.drop 1 else l) ((ky f).take to):=by
  refine⟨bg.up.sublist d,fun p w=>?_⟩
  rw[H];refine⟨q3 p (d.subset w),?_⟩;rcases q4 p (d.subset w)with e|h
  ·subst e
   by_cases e2:(ky p).length=to
   ·rw[if_pos e2,o]at w
    have:=(aA.1 (o▸bg.up)).1 p w;exact absurd this (co _)
   ·omega
  ·exact h
 refine q to q1 I N Q H (fun p w=>D p (d.subset w)) (bh d.length_le hn) hW fun h3 s3 ks L ho3 hL3 J Y=>?_
 obtain⟨O,hgF⟩:=J.done;obtain⟨hcn,hhd,hin⟩:=X (F:=.ofL L) O rfl hgF rfl rfl;have hLl:L.length≤100000:=by
  have:=j6 O;rw[Fo.to_of]at this;omega
 refine MH (W:=W) (ho3.sl fun _ _ _ h=>h) hL3 hLl (fun y hy=>aD (hW y hy) Y.size) fun h4 b4 E hu4=>?_
 have ew2:(if decide ((ky f).length=to)=true then some v2 else none)=if(ky f).length=to then some f.2 else none:=by
  by_cases e:(ky f).length=to
  ·rw[if_pos (decide_eq_true e),if_pos e,V e]
  ·rw[if_neg (by simpa using e),if_neg e]
 rw[ew2]at E;exact hk h4 _ _ ⟨b4,_,rfl,A,E⟩ hcn hhd hin (Y.tr hu4)
theorem M9{B f:Nat}(hB:B≤1000000)(X:f≤B→∀to,f<to→VM B to):VM B f:=by
 intro W h s l pre hs hcap bg hpre hlB hn hW K hk;refine Pn s f ?_;unfold FE bX ay;refine aW fun h1 b1 k1=>?_
 subst hpre;refine LoopP.ghost (fun(g:List Pr×List Pr×List (Option Addr)×List Bn×(Nat→Prop)) (t:SliceV×SliceV) h'=>l=g.1++g.2.1∧Sl eu 2 (fun y=>h.size≤y) h' t.1 g.2.1∧t.1.len≤t.1.cap∧OwnS qd 1 bj g.2.2.2.2 h' t.2 g.2.2.1∧(∀y,g.2.2.2.2 y→h1.size≤y∧y<h'.size)∧RxL (fun y=>W y∨g.2.2.2.2 y) h' g.2.2.1 g.2.2.2.1∧Row g.2.2.2.1 g.1 g.2.1 pre∧Upd No h1 h') (fun g=>g.2.1.length) ([],l,[],[],No)
  ⟨rfl,(hs.less (W':=fun y=>h.size≤y) fun y d=>.inr d).upd k1 fun _ h=>h.elim,hcap,OwnS.nil oe,fun y d=>d.elim,⟨rfl,fun p hp=>(by cases hp)⟩,Row.nil _ _,Upd.refl _ _⟩ ?_
 rintro I ⟨D,T,ks,L,Mo⟩ ⟨J,so⟩ h4 ⟨e1,z,hcT,ho,C,hL,u,hu⟩ hI;simp only at e1 z hcT ho C hL u;subst e1;have hlT:=z.len;simp only[ac]at hn;have N:Beg T pre:=bg.sub (qe D T);have k04:=k1.tr hu;refine ax (fun hgt=>?_) fun hle=>?_
 ·rcases T with _|⟨p,T⟩
  ·simp only[aJ]at hlT;simp only at hgt;omega
  simp only[al]at hlT hn;have hpl:=(N.at_ p (av ..)).2;obtain⟨b8,hb8,hb8e⟩:=O0 hpl;obtain⟨a,ha,_,hv⟩:=z.at (i:=0) (x:=p) rfl;have c4:=hu.get0 b1;refine⟨⟨by omega,by simp only;omega⟩,a,ha,p.1,hv 0 _ rfl,_,Lj c4,b8,by omega,hb8,?_⟩
  refine aW fun V b9 k9=>?_
  have c9:=k9.get0 c4;obtain⟨a',ha',_,hv9⟩:=(z.upd k9 fun _ h=>h.elim).at (i:=0) (x:=p) rfl
  rw[ha]at ha';cases ha';refine⟨Lj c9,hv9 0 _ rfl,Ix b9 pC fun h10 b10 hu10=>?_⟩
  have H:Upd No h4 h10:=k9.own hu10 (aj _);have c10:=H.get0 c4;refine WN (z.upd H fun _ h=>h.elim) (by simp only[al];omega) (g:=fun q=>decide (bt pre.length q≠bt pre.length p)) (fun q hq h' K' w hK=>?_) fun h11 A Bt e G hA hBn O R=>?_
  ·refine HV.mk' (KG q ⟨h.size,0,none⟩ ⟨h4.size,0,none⟩ ?_)
   unfold Bz az w9;refine aW fun j b12 k12=>?_
   have k':=w.tr k12;obtain⟨bq,hbq,hbqe⟩:=O0 (N.at_ q hq).2;refine⟨q.1,vc b12 0,_,Lj (k'.get0 c10),bq,by omega,hbq,_,Lj (k'.get0 b10),?_⟩
   have eb:((bq.toNat:Int) !=(b8.toNat:Int))=decide (bt pre.length q≠bt pre.length p):=by
    rw[jf,bne_iff_ne,decide_eq_true_iff];omega
   rw[eb];exact hK j k12
  obtain⟨A',rfl⟩:∃A',A=p::A':=by
   rcases A with _|⟨a0,A'⟩
   ·have:=(O p T (by rw[cz]at G;exact G.symm)).2
    simp at this
   ·rw[cJ]at G
    exact⟨A',by rw[(fi.inj G).1]⟩
  have hcA:∀q∈p::A',bt pre.length q=bt pre.length p:=fun q hq=>by simpa using hA q hq
  have F:p::T=(p::A')++Bt:=G;have hTl:T.length=A'.length+Bt.length:=by
   have:=congrArg fy F;simp only[al,ac]at this;omega
  have o:=H.tr R;have k111:=hu.tr o;have c11:=R.get0 c10;refine Join.intro (fun t h'=>t=((A'.length+1:Nat):Int)∧h'=h11) (fun R1 P=>?_) ?_
  ·refine ax (fun hneg=>P _ _ ⟨?_,rfl⟩) fun hpos=>P _ _ ⟨?_,rfl⟩
   ·rcases Bt with _|⟨b0,B'⟩
    ·have hTl:T.length=A'.length+0:=hTl
     show((J.len:Nat):Int)=_
     omega
    ·have:=(O b0 B' rfl).1
     simp only[al]at this;omega
   ·rcases Bt with _|⟨b0,B'⟩
    ·have:=hBn rfl;omega
    ·have:=(O b0 B' rfl).1
     simp only[al]at this;exact this
  rintro t h' ⟨rfl,rfl⟩;refine Join.intro (fun t V=>∃ka n Mp,OwnS qd 1 bj Mp V t (ks++ [ka])∧(∀y,Mp y→h1.size≤y∧y<V.size)∧RxL (fun y=>W y∨Mp y) V (ks++ [ka]) (L++ [n])∧Mi n∧hd n.1=bt pre.length p∧(∀k v,wr n k v↔XD (p::A') pre k v)∧Upd No h1 V∧Sl eu 2 (fun y=>h.size≤y) V J (p::T)) (fun R1 P=>?_) ?_
  ·refine⟨⟨by omega,by show((A'.length+1:Nat):Int)≤((J.cap:Nat):Int);omega⟩,_,Lj c11,?_⟩
   have hsA:=Sl.sub (z.upd o fun _ h=>h.elim) (l:=0) (hi:=A'.length+1) (m:=J.cap) (c:=J.cap-0) (aS _) (by simp only[al];omega) (by omega)
   have etk:((p::T).drop 0).take (A'.length+1-0)=p::A':=by
    rw[cO,fa,F];exact List.take_left' (by simp)
   rw[etk]at hsA;obtain⟨g,hg⟩:∃g,(p::A').getLast? =some g:=⟨_,List.getLast?_eq_some_getLast (by simp)⟩;have hgm:g∈p::A':=gh hg;have Q:(p::A').Sublist (D++p::T):=by
    rw[F];exact(List.sublist_append_left _ _).trans (qe D _)
   refine TS hB (X (by have:=hlB p (by simp);omega)) (hsA.less fun _ h=>h.elim) (by show A'.length+1-0≤J.cap-0;omega) (bg.sub Q) rfl (fun q hq=>hlB q (Q.subset hq)) (by simp only[al];omega) (W:=fun y=>W y∨Mo y) (fun y d=>d.elim (fun d=>aD (hW y d) (k04.tr o).size) fun d=>aD (C y d).2 o.size) rfl hg (hcA g hgm).symm fun j ka n kd Z Y hin hu12=>bM ?_
   have w:=o.tr hu12;have z':=(hu.tr w).size;have hLn:L.length≤256:=by
    rcases BI (c:=0) u.up fun _ _=>aS _ with e|e
    ·rw[e];simp
    ·omega
   have hkl:=hL.1;have z12:=w.size;refine Rm (M:=fun y=>Mo y∨j.size≤y) ((ho.upd w fun _ _ h=>h).more fun y d=>.inl d) (fun b S=>.inr S) (by omega) fun s13 h13 ho13 E=>P _ _ ⟨ka,n,fun y=>(Mo y∨j.size≤y)∧y<h13.size,ho13.within,fun y d=>⟨?_,d.2⟩,?_,Z,Y,hin,?_,?_⟩
   ·rcases d.1 with h|h
    ·exact(C y h).1
    ·omega
   ·have hl:∀b,(W b∨((Mo b∨j.size≤b)∧b<h13.size))→(W b∨Mo b)∨j.size≤b:=fun b S=>by
     rcases S with h|⟨h|h,_⟩
     ·exact .inl (.inl h)
     ·exact .inl (.inr h)
     ·exact .inr h
    have hm:∀b,(Mo b∨j.size≤b)→(W b∨((Mo b∨j.size≤b)∧b<h13.size))∨j.size≤b:=fun b S=>by
     rcases S with h|h
     ·exact .inl (.inr ⟨.inl h,by have:=(C b h).2;have:=E.size;omega⟩)
     ·exact .inr h
    exact(((hL.upd0 w).app (RxL.one kd)).less hl).updM E hm
   ·exact(hu.tr w).trans E fun y d=>.inr (by
     rcases d with h|h
     ·exact(C y h).1
     ·omega)
   ·refine(z.upd w fun _ h=>h.elim).upd E fun b S=>.inl ?_
    have:=k1.size;rcases S with h|h
    ·have:=(C b h).1;omega
    ·omega
  ·rintro s9 V ⟨ka,n,Mp,ho9,hMp,hL9,Z,Y,hin,hu9,hsT9⟩
   refine⟨⟨by omega,by show((A'.length+1:Nat):Int)≤((J.len:Nat):Int);omega⟩,?_⟩
   rw[aR];have U:=Sl.sub hsT9 (l:=A'.length+1) (hi:=(p::T).length) (m:=J.cap) (c:=J.cap-(A'.length+1)) (by simp only[al];omega) (aj _) (by simp only[al];omega);have edr:((p::T).drop (A'.length+1)).take ((p::T).length-(A'.length+1))=Bt:=by
    rw[F,List.drop_left' (by simp)];exact bo (by simp)
   rw[edr]at U;have elen:(p::T).length-(A'.length+1)=J.len-(A'.length+1):=by simp only[al];omega
   rw[elen]at U;have hr':Row (L++ [n]) (D++(p::A')) Bt pre:=by
    rw[F]at u N;exact u.more N (av ..) hcA (fun b B' e=>by simpa using(O b B' e).2) Z Y hin
   refine hI (D++(p::A'),Bt,ks++ [ka],L++ [n],Mp) _ _ ⟨by rw[F,ar],U,by simp only;omega,ho9,hMp,hL9,hr',hu9⟩ ?_
   simp only[al];omega
 ·have hT:T= []:=aw.1 (by simp only at hle;omega)
  subst hT;rw[aL]at hk;exact hk h4 so ks L (ho.more fun y d=>bh k1.size (C y d).1) (hL.less fun y d=>.inl (.inl d)) u k04
end Go.Proofs
namespace Go.Proofs
open Go Go.Lift
theorem QJ{B:Nat}(a:B≤1000000):∀(n from_:Nat),B<from_+n→VM B from_
 |0,_,h=>M9 a fun h'=>by omega
 |n+1,from_,h=>M9 a fun _ to b=>QJ a n to (by omega)
theorem aab{l:List Pr}{p:Pr}(h:p∈xb l):p∈l:=F8 (Ov.1 h)
theorem Wi{N:Nat}(st:StP N)(hN:N≤100000){W W0:Nat→Prop}{h:ad}{s:SliceV}{l:List Pr}(hs:Sl eu 2 W0 h s l)(hW:∀y,W y→y<h.size)(hn:l.length≤N)(hB:∀p∈l,p.1.size≤1000000){K:Option Addr→ad→Prop}
  (hk:∀h' b,RadAt W h' b (xb l)→Upd No h h'→K (some ⟨b,0,none⟩) h'):HC PG yi [.slice s.a s.len s.cap] [.c .ptr] K h:=by
 refine L8 s ?_;unfold CT bX ay Ln XO;refine Dd st (by omega) (W':=No) hs (fun _ h=>h.elim) (by omega) fun e h2 j O I=>?_
 have hln:=UW l;have o:=BG l;have Z:∀p∈xb l,(ky p).length≤1000000:=fun p Y=>by have:=hB p (aab Y);rw[show(ky p).length=p.1.size from JL p.1];exact this
 generalize xb l=L at*;have n:=j.len;refine Join.intro (fun(t:ByteArray×Bool) h'=>h'=h2∧(t.2=true↔∃p r,L=p::r∧ky p= [])) (fun R C=>?_) ?_
 ·refine ax (fun hgt=>?_) fun hle=>C _ _ ⟨rfl,⟨fun h=>(by cases h),fun⟨p,r,e,_⟩=>(by subst e;simp only[al]at n;omega)⟩⟩
  rcases L with _|⟨p,r⟩
  ·simp only[aJ]at n;omega
  obtain⟨a,U,_,hv⟩:=j.at (i:=0) (x:=p) rfl;refine⟨⟨by omega,by omega⟩,a,U,p.1,hv 0 _ rfl,C _ _ ⟨rfl,?_⟩⟩
  simp only;rw[fg,decide_eq_true_iff];constructor
  ·intro e;exact⟨p,r,rfl,by unfold ky;rw[e]⟩
  ·rintro⟨p',r',e,w⟩
   cases e;exact rz.1 w
 rintro⟨v6,has⟩ h' ⟨rfl,g⟩;simp only at g;refine Join.intro (fun(t:SliceV×ByteArray) h3=>h3=h'∧∃l',Sl eu 2 No h' t.1 l'∧t.1.len≤t.1.cap∧Beg l' []∧(∀p∈l',p∈L)∧l'.length≤L.length∧∀k v,((k= []∧(if has then some t.2 else none)=some v)∨XD l' [] k v)↔∃p∈L,p.1.data.toList=k∧p.2=v) (fun R C=>?_) ?_
 ·cases has with
  |true=>
   obtain⟨p,r,rfl,H⟩:=g.1 rfl;obtain⟨a,U,_,hv⟩:=j.at (i:=0) (x:=p) rfl;simp only[al]at n;refine au.2 ⟨⟨by omega,by omega⟩,a,U,p.2,hv 1 _ rfl,⟨by omega,by omega⟩,C _ _ ⟨rfl,r,?_,by simp only;omega,⟨(aA.1 o).2,fun q d=>⟨rfl,?_⟩⟩,fun q d=>aC _ d,by simp,fun k v=>?_⟩⟩
   ·have:=Sl.sub j (l:=1) (hi:=(p::r).length) (m:=e.cap) (c:=e.cap-1) (by simp) (aj _) (by simp only[al];omega)
    rw[List.drop_one,List.tail_cons,bo (by simp)]at this;have w:(p::r).length-1=e.len-1:=by simp only[al];omega
    rw[w]at this;exact this
   ·have f:=vL.1 ((aA.1 o).1 q d)
    refine fL.2 fun w=>?_
    change Op.bytesLess (ky p) (ky q)=true at f;rw[w,Kq]at f;cases f
   ·simp only[if_true]
    constructor
    ·rintro(⟨rfl,h⟩|⟨q,d,f,h2⟩)
     ·exact⟨p,av ..,H,bQ.inj h⟩
     ·exact⟨q,aC _ d,f,h2⟩
    ·rintro⟨q,d,f,h2⟩
     rcases aB.1 d with rfl|d
     ·exact .inl ⟨by rw[←f];exact H,by rw[h2]⟩
     ·exact .inr ⟨q,d,f,h2⟩
  |false=>
   have P:∀p r,L=p::r→ky p≠[]:=fun p r e H=>by have:=g.2 ⟨p,r,e,H⟩;cases this
   refine ag.2 (C _ _ ⟨rfl,L,j,O,⟨o,fun q d=>⟨rfl,?_⟩⟩,fun q d=>d,aj _,fun k v=>?_⟩)
   ·refine fL.2 fun w=>?_
    rcases L with _|⟨p,r⟩
    ·cases d
    rcases aB.1 d with rfl|d
    ·exact P _ _ rfl w
    ·have f:=vL.1 ((aA.1 o).1 q d)
     change Op.bytesLess (ky p) (ky q)=true at f;rw[w,Kq]at f;cases f
   ·simp only[Bool.false_eq_true,if_false]
    constructor
    ·rintro(⟨_,h⟩|⟨q,d,f,h2⟩)
     ·cases h
     ·exact⟨q,d,f,h2⟩
    ·rintro⟨q,d,f,h2⟩
     exact .inr ⟨q,d,f,h2⟩
 rintro⟨s3,v3⟩ h3 ⟨rfl,l',z,F,Q,E,hll,u⟩;simp only at z F u;refine QJ (B:=1000000) (aj _) 1000001 0 (by omega) (W:=W) z F Q rfl (fun p Y=>Z p (E p Y)) (by omega) (fun y T=>aD (hW y T) I.size) fun h4 s4 ks Lb S X A G=>?_
 obtain⟨D,hgF⟩:=A.done;have V:Lb.length≤100000:=by
  have:=j6 D;rw[Fo.to_of]at this;omega
 refine MH (W:=W) (S.sl fun _ _ _ h=>h) X V (fun y T=>aD (hW y T) (I.tr G).size) fun h5 b5 M J=>?_
 refine hk h5 b5 ⟨_,_,M,D,fun k v=>?_⟩ ((I.tr G).tr J)
 rw[kI];unfold uY;rw[hgF,u]
theorem Dn{h:ad}{t:Tr}{k:ad→Prop}(d:∀h',h'[h.size]? =some (.cells (oF t).toArray bD (0,0))→Upd No h h'→k h'):
  At (hnew h (oF IM) bD) (fun b=>wn b (some (aG h)) 0 (oF t)∧At (jj b (aG h) 0 (oF t)) k):=
 aW fun b b1 k1=>dH (c:=oF IM) (vs:=oF t) b1 rfl fun h2 b2 a=>d h2 b2 (k1.own a (aj _))
theorem LL{N:Nat}(st:StP N)(Z:StH N)(hN:N≤100000){W W0:Nat→Prop}{x:Hs}{h:ad}{s:SliceV}{l:List Pr}(C:Sl eu 2 W0 h s l)(O:∀y,W y→y<h.size)(hn:l.length≤N)(R:∀p∈l,p.1.size≤256∧p.2.size≤4096){K:Tr×Int→ad→Prop}
  (hk:∀h' t,TreeIs W h' 0 x t (xb l)→Upd No h h'→K (t,0) h'):HC PG pS [.int .i64 0,.agg #[.int .u64 x.k0,.int .u64 x.k1,.int .u64 x.mask],.slice s.a s.len s.cap] [.agg [.int .i64,.int .u64,.int .u64,.int .u64,.ptr,.ptr],.c (.int .i64)] K h:=by
 refine Fj 0 (x.k0,x.k1,x.mask) s ?_;unfold zX bX aZ af aH eW nv BK xa Ay rT ay az lN is;refine aW fun F b1 k1=>aW fun h2 b2 D=>?_
 have z1:=bC b1;have z2:=bC b2;have s1:h.size≤F.size:=k1.size;have u:=D.get0 b1;have o:=k1.tr D;refine⟨_,vc u 0,_,vc u 1,_,vc u 2,?_⟩;refine N2 (W:=No) (x:=x) (fun _ h=>h.elim) (.inl rfl) fun h3 T _ L=>?_
 refine Dn (t:=T) fun h4 b4 Q=>?_
 refine ag.2 ?_;have d:=L.tr Q;have w:=o.tr d;have H:=C.len;refine LoopP.ghost (fun(i:Nat) (t:Int) h'=>t=(i:Int)∧i≤l.length∧Upd No h4 h') (fun i=>l.length-i) 0 ⟨rfl,aS _,Upd.refl _ _⟩ ?_
 rintro I i t S ⟨rfl,hi,q⟩ P;have g:=w.tr q;refine ax (fun b=>?_) fun Y=>?_
 ·have b:i<l.length:=by omega
  obtain⟨a,V,_,hv⟩:=(C.upd g fun _ h=>h.elim).at (ae b)
  have E:=R _ (bw b);refine⟨⟨by omega,by omega⟩,a,V,l[i].1,hv 0 _ rfl,l[i].2,hv 1 _ rfl,?_⟩
  refine JA (p:=l[i]) fun h6 v j=>⟨_,vc v 0,_,vc v 1,BL E.1 E.2 (ag.2 ?_)⟩
  rw[ga b (by omega)];exact P (i+1) _ _ ⟨rfl,b,q.tr j⟩ (by omega)
 ·have B:=Pro.lt (h2:=h2) O o
  have e:∀y,Pro W h h2 y→y<S.size:=fun y m=>aD (B y m) (d.tr q).size
  have X:=(d.tr q).get0 b2;have f:=(d.tr q).get0 u;refine ag.2 ⟨_,vc f 0,_,vc f 1,_,vc f 2,_,vc f 0,_,vc f 1,_,vc f 2,?_⟩;refine W9 st Z hN (z:=x) (C.upd g fun _ h=>h.elim) e hn fun h6 v U j=>?_
  have A:=j.get0 f;refine⟨⟨vc A 0,vc A 1,vc A 2⟩,?_⟩;refine GV (x:=x) (.inr ⟨v,rfl,U⟩) (fun y m=>aD (e y m) j.size) fun h7 J M G=>?_
  refine dH (c:=oF IM) (vs:=oF J) (G.get0 (j.get0 X)) rfl fun h8 k n=>?_
  refine⟨_,vc k 0,_,vc k 1,_,vc k 2,_,vc k 3,_,vc k 4,_,vc k 5,?_⟩;exact hk h8 J ((M.updM n (fun y m=>.inl (.inr (by have m:y=F.size:=m;omega)))).less Pro.sub) (((g.tr j).tr G).own n s1)
theorem LK{N:Nat}(st:StP N)(Z:N≤100000){W Y:Nat→Prop}{x:Hs}{h:ad}{s:SliceV}{l:List Pr}(z:Sl eu 2 Y h s l)(L:∀y,W y→y<h.size)(hn:l.length≤N)(C:∀p∈l,p.1.size≤256∧p.2.size≤4096){K:Tr×Int→ad→Prop}
  (hk:∀h' t,TreeIs W h' 1 x t (xb l)→Upd No h h'→K (t,0) h'):HC PG pS [.int .i64 1,.agg #[.int .u64 x.k0,.int .u64 x.k1,.int .u64 x.mask],.slice s.a s.len s.cap] [.agg [.int .i64,.int .u64,.int .u64,.int .u64,.ptr,.ptr],.c (.int .i64)] K h:=by
 refine Fj 1 (x.k0,x.k1,x.mask) s ?_;unfold zX bX aZ af aH eW nv BK xa Ay rT ay az lN is;refine aW fun D b1 k1=>aW fun h2 b2 A=>?_
 have z1:=bC b1;have z2:=bC b2;have s1:h.size≤D.size:=k1.size;have q:=A.get0 b1;have n:=k1.tr A;refine⟨_,vc q 0,_,vc q 1,_,vc q 2,?_⟩;refine N2 (W:=No) (x:=x) (fun _ h=>h.elim) (.inr rfl) fun h3 Q _ H=>?_
 refine Dn (t:=Q) fun h4 b4 O=>?_
 refine ag.2 ?_;have d:=H.tr O;have v:=n.tr d;have F:=z.len;refine LoopP.ghost (fun(i:Nat) (t:Int) h'=>t=(i:Int)∧i≤l.length∧Upd No h4 h') (fun i=>l.length-i) 0 ⟨rfl,aS _,Upd.refl _ _⟩ ?_
 rintro I i t P ⟨rfl,hi,o⟩ M;have f:=v.tr o;refine ax (fun b=>?_) fun U=>?_
 ·have b:i<l.length:=by omega
  obtain⟨a,S,_,hv⟩:=(z.upd f fun _ h=>h.elim).at (ae b)
  have B:=C _ (bw b);refine⟨⟨by omega,by omega⟩,a,S,l[i].1,hv 0 _ rfl,l[i].2,hv 1 _ rfl,?_⟩
  refine JA (p:=l[i]) fun V u m=>⟨_,vc u 0,_,vc u 1,BL B.1 B.2 (ag.2 ?_)⟩
  rw[ga b (by omega)];exact M (i+1) _ _ ⟨rfl,b,o.tr m⟩ (by omega)
 ·have w:=Pro.lt (h2:=h2) L n
  have e:∀y,Pro W h h2 y→y<P.size:=fun y j=>aD (w y j) (d.tr o).size
  have T:=(d.tr o).get0 b2;have d1:=(d.tr o).get0 q;refine au.2 (Wi st Z (z.upd f fun _ h=>h.elim) e hn (fun p hp=>by have:=(C p hp).1;omega) fun V u R m=>?_)
  refine GU (x:=x) (.inr ⟨u,rfl,R⟩) (fun y j=>aD (e y j) m.size) fun h7 G J E=>?_
  refine dH (c:=oF IM) (vs:=oF G) (E.get0 (m.get0 T)) rfl fun X g k=>?_
  refine⟨_,vc g 0,_,vc g 1,_,vc g 2,_,vc g 3,_,vc g 4,_,vc g 5,?_⟩;exact hk X G ((J.updM k (fun y j=>.inl (.inr (by have j:y=D.size:=j;omega)))).less Pro.sub) (((f.tr m).tr E).own k s1)
theorem ER{W i:Nat→Prop}{x:Hs}{h:ad}{s:SliceV}{l:List Pr}(d:Sl eu 2 i h s l)(f:∀y,W y→y<h.size)(g:l.length≤100000)(c:∀p∈l,p.1.size≤256∧p.2.size≤4096){a:Int}(b:a=0∨a=1){K:Tr×Int→ad→Prop}
  (e:∀h' t,TreeIs W h' a x t (xb l)→Upd No h h'→K (t,0) h'):HC PG pS [.int .i64 a,.agg #[.int .u64 x.k0,.int .u64 x.k1,.int .u64 x.mask],.slice s.a s.len s.cap] [.agg [.int .i64,.int .u64,.int .u64,.int .u64,.ptr,.ptr],.c (.int .i64)] K h:=by
 rcases b with rfl|rfl
 ·exact LL (stP.less (by omega)) (stH.less (by omega)) (aj _) d f g c e
 ·exact LK (stP.less (by omega)) (aj _) d f g c e
end Go.Proofs
namespace Go.Proofs
open Go Go.Lift
def lO(a l:List Pr):List Pr:=(l.take 25).foldl (fun acc p=>hJ (LG p) acc) a
theorem Nh{a l:List Pr}{i:Nat}(hi:i<l.length)(b:i<25):lO a (l.take (i+1))=hJ (LG l[i]) (lO a (l.take i)):=by
 unfold lO;rw[iK,iK,il (by omega),il (by omega),aV hi,List.foldl_append];rfl
theorem Ni{a l:List Pr}{i:Nat}(b:25≤i):lO a (l.take (i+1))=lO a (l.take i):=by
 unfold lO;rw[iK,iK,bN (by omega),bN (by omega)]
theorem tV{n:Nat}{a:List Pr}(f:Few n a)(l:List Pr):Few (n+25) (lO a l):=by
 unfold lO;have:∀(m:List Pr) (n:Nat) (acc:List Pr),Few n acc→Few (n+m.length) (m.foldl (fun acc p=>hJ (LG p) acc) acc):=by
  intro m;induction m with
  |nil=>intro n acc h;exact h
  |cons p m ih=>
   intro n acc h;have:=ih (n+1) _ (h.ins (LG p) (wI _) (wI _));rw[kH,al];rw[Nat.add_assoc,Nat.add_comm 1]at this;exact this
 have h:=this (l.take 25) n a f;exact⟨h.up,bh h.len (by rw[aI];omega),h.fit⟩
theorem BP:Few 0 []:=⟨.nil,aj _,fun p a=>by cases a⟩
theorem ab5(s:ByteArray):((0:Int)≤(if 30<(s.size:Int)then 30 else(s.size:Int))∧(if 30<(s.size:Int)then 30 else(s.size:Int))≤((s.size:Nat):Int))∧s.extract 0 ((if 30<(s.size:Int)then 30 else(s.size:Int)).toNat)=yK s:=by
 unfold yK;split
 ·refine⟨⟨by omega,by omega⟩,?_⟩
  rw[il (by omega)];rfl
 ·refine⟨⟨by omega,by omega⟩,?_⟩
  rw[bN (by omega),aR]
theorem acI{h:ad}{r:Rt}{k:ad→Prop}(d:∀h',h'[h.size]? =some (.cells (zm r).toArray dh (0,0))→Upd No h h'→k h'):
  At (hnew h (zm Ye) dh) (fun b=>wn b (some (aG h)) 0 (zm r)∧At (jj b (aG h) 0 (zm r)) k):=
 aW fun b b1 k1=>dH (c:=zm Ye) (vs:=zm r) b1 rfl fun h2 b2 a=>d h2 b2 (k1.own a (aj _))
theorem YA{x:Hs}{h:ad}{K:Int×Int×Int→ad→Prop}(f:∀h',Upd No h h'→K (x.k0,x.k1,x.mask) h'):HC PG Gl [.agg #[.int .u64 x.k0,.int .u64 x.k1,.int .u64 x.mask]] [.agg [.int .u64,.int .u64,.int .u64]] K h:=by
 refine Xo (x.k0,x.k1,x.mask) ?_;unfold NP af eW BK df ac4 ac5;refine aW fun g b1 k1=>aW fun h2 b2 d=>?_
 have a:=d.get0 b1;refine⟨_,Av a 0 0,_,Av a 0 1,_,vc a 2,?_⟩;refine dH (c:= [.int .u64 0,.int .u64 0,.int .u64 0]) (vs:= [.int .u64 x.k0,.int .u64 x.k1,.int .u64 x.mask]) b2 rfl fun e b3 b=>?_
 exact⟨_,vc b3 0,_,vc b3 1,_,vc b3 2,f e ((k1.tr d).own b k1.size)⟩
theorem TT{W:Nat→Prop}{x:Hs}{h:ad}{k:Int}(X:0≤k)(s:k≤255)(R:∀y,W y→y<h.size){K:Tr×Rt→ad→Prop}
  (O:∀h' t r,TreeIs W h' (IntKind.wrap .i64 (qR k 2)) x t []→RefIs W h' (IntKind.wrap .i64 (qR k 2)) x r []→Upd No h h'→K (t,r) h'):
  HC PG A7 [.int .u8 k,.agg #[.int .u64 x.k0,.int .u64 x.k1,.int .u64 x.mask]] [.agg [.int .i64,.int .u64,.int .u64,.int .u64,.ptr,.ptr],.agg [.int .i64,.int .u64,.int .u64,.int .u64,.slice]] K h:=by
 refine RG k (x.k0,x.k1,x.mask) ?_;unfold HI aZ af aH dy eW nv BK xa Ay Sa rT HR PJ Lo XN;have n:=acK X s;generalize IntKind.wrap .i64 (qR k 2)=kind at n O⊢;refine aW fun s b1 k1=>aW fun h2 b2 F=>aW fun E b3 C=>⟨by decide,?_⟩
 have z1:=bC b1;have z2:=bC b2;have z3:=bC b3;have s1:h.size≤s.size:=k1.size;have s2:s.size≤h2.size:=F.size;have w:=(k1.tr F).tr C;have D:=C.get0 (F.get0 b1);have c2:=C.get0 b2;have s3:=C.size;refine⟨_,vc D 0,_,vc D 1,_,vc D 2,?_⟩;refine N2 (W:=Pro W h E) (x:=x) (Pro.lt R w) n fun Z t V A=>?_
 refine Dn (t:=t) fun h10 B j=>⟨by decide,?_⟩
 have s8:=A.size;have abG:=j.size;have T:=bC B;have H:=j.get0 (A.get0 D);refine⟨_,vc H 0,_,vc H 1,_,vc H 2,?_⟩;refine YA (x:=x) fun P o=>?_
 have Q:=o.size;refine aaq (x:=x) (W:=Pro W h E) n fun Y r L p=>?_
 have S:=p.size;refine acI (r:=r) fun N q e=>?_
 have sL:=e.size;have zL:=bC q;have m:Upd No Z N:=((j.tr o).tr p).tr e;have kL:Upd No h N:=(w.tr A).tr m;have u:=e.get0 ((o.tr p).get0 B);have M:=m.get0 (A.get0 c2);have G:=m.get0 (A.get0 b3);have z:Pro W h E s.size:=.inr (by omega);have v:Pro W h E h2.size:=.inr (by omega);refine⟨_,vc u 0,_,vc u 1,_,vc u 2,_,vc u 3,_,vc u 4,_,vc u 5,_,vc q 0,_,vc q 1,_,vc q 2,_,vc q 3,r.2.2.2.2,vc q 4,?_⟩
 refine dH (c:=oF IM) (vs:=oF t) M rfl fun U J a=>?_
 have i:=a.oth q (by omega);refine⟨⟨vc i 0,vc i 1,vc i 2,vc i 3,vc i 4⟩,?_⟩;refine dH (c:=zm Ye) (vs:=zm r) (a.oth G (by omega)) rfl fun I g d=>?_
 have f:=d.oth J (by omega);refine⟨_,vc f 0,_,vc f 1,_,vc f 2,_,vc f 3,_,vc f 4,_,vc f 5,_,vc g 0,_,vc g 1,_,vc g 2,_,vc g 3,r.2.2.2.2,vc g 4,?_⟩;refine O I t r ((((V.upd0 m).updM a fun y b=>.inl (by have b:y=s.size:=b;rw[b];exact z)).updM d fun y b=>.inl (by have b:y=h2.size:=b;rw[b];exact v)).less Pro.sub) ((((L.upd0 e).updM a fun y b=>.inl (by have b:y=s.size:=b;rw[b];exact z)).updM d fun y b=>.inl (by have b:y=h2.size:=b;rw[b];exact v)).less Pro.sub) ((kL.own a s1).own d (by omega))
end Go.Proofs
namespace Go.Proofs
open Go Go.Lift
abbrev abq:List Value:= [.string (⟨#[]⟩:ByteArray),.string (⟨#[]⟩:ByteArray),.string (⟨#[]⟩:ByteArray),.bool false,.bool false]
theorem Vi{h:ad}{t:TypeId}{c:Ch}{k:ad→Prop}(d:∀h',h'[h.size]? =some (.cells (tI c).toArray t (0,0))→Upd No h h'→k h'):
  At (hnew h abq t) fun b=>wn b (some (aG h)) 0 (tI c)∧At (jj b (aG h) 0 (tI c)) k:=
 aW fun e b1 k1=>dH (c:=abq) (vs:=tI c) b1 rfl fun h2 b2 a=>d h2 b2 (k1.own a (aj _))
theorem Kt{t:TypeId}{M:Nat→Prop}{h:ad}{so:SliceV}{out:List Ch}{c:Ch}{K:SliceV→ad→Prop}(f:OwnS tI 5 t M h so out)(hM:∀b,h.size≤b→M b)(k:out.length+1≤100000000)
  (i:∀s' h',OwnS tI 5 t M h' s' (out++ [c])→Upd M h h'→K s' h'):
  At (hnew h (tI c) t) fun a=>∃xs,SRow a (some (aG h)) (1*5) xs∧AppP (some abq) 5 56 t so.a so.len so.cap 1 xs a K:=by
 refine aW fun a b1 k1=>?_
 have j:=bC b1;have g:OwnS tI 5 t (fun _=>True) a ⟨some (aG h),1,1⟩ [c]:=⟨rfl,Gp,aj _,.inr ⟨h.size,[],rfl,trivial,b1,rfl⟩⟩
 refine⟨_,(g.sl (W:=No) fun _ _ _ h=>h).srow,?_⟩
 refine AppP.own (ys:= [c]) (f.upd k1 fun _ _ h=>h) rfl rfl rfl rfl (by omega) (by simp only[aE];omega) (hM _ k1.size) fun s' h' d e=>?_
 exact i s' h' d (k1.wide.tr e)
theorem adH(a b:Ch):((a.1.toList==b.1.toList)&&((a.2.1.toList==b.2.1.toList)&&((a.2.2.1.toList==b.2.2.1.toList)&&((a.2.2.2.1==b.2.2.2.1)&&((a.2.2.2.2==b.2.2.2.2)&&true)))))=decide (a=b):=by
 rw[fg,fg,fg];by_cases e:a=b
 ·subst e;simp
 ·rw[decide_eq_false e]
  obtain⟨i,d,j,k,g⟩:=a;obtain⟨b1,b2,b3,f,c⟩:=b;simp only[Prod.mk.injEq]at e;rw[Bool.eq_false_iff];intro h;simp only[bH,decide_eq_true_iff,beq_iff_eq,and_true]at h;exact e ⟨h.1,h.2.1,h.2.2.1,h.2.2.2.1,h.2.2.2.2⟩
theorem UZ{W W':Nat→Prop}{h:ad}{s s':SliceV}{l l':List Ch}(n:Sl tI 5 W h s l)(g:Sl tI 5 W' h s' l')(x:l.length≤1000000){K:Bool→ad→Prop}(f:K (decide (l=l')) h):zU s s' K h:=by
 unfold zU bX ay bK;have w:=n.len;have q:=g.len;by_cases ne:l.length=l'.length
 rotate_left
 ·rw[show((s.len:Int) !=(s'.len:Int))=true by rw[bne_iff_ne];omega]
  rw[decide_eq_false fun e=>ne (by rw[e])]at f
  exact au.2 f
 rw[show((s.len:Int) !=(s'.len:Int))=false by rw[bne_eq_false_iff_eq];omega]
 refine ag.2 (LoopP.ghost (fun(i:Nat) (t:Int) h'=>t=(i:Int)∧i≤l.length∧h'=h∧l.take i=l'.take i) (fun i=>l.length-i) 0 ⟨rfl,aS _,rfl,rfl⟩ ?_)
 rintro I i t h' ⟨rfl,hi,rfl,j⟩ v;refine ax (fun c=>?_) fun u=>?_
 ·have c:i<l.length:=by omega
  have d:i<l'.length:=by omega
  obtain⟨a,o,_,hv⟩:=n.at (ae c);obtain⟨a',m,_,b⟩:=g.at (ae d);refine⟨⟨by omega,by omega⟩,a,o,_,hv 0 _ rfl,_,hv 1 _ rfl,_,hv 2 _ rfl,_,hv 3 _ rfl,_,hv 4 _ rfl,⟨by omega,by omega⟩,a',m,_,b 0 _ rfl,_,b 1 _ rfl,_,b 2 _ rfl,_,b 3 _ rfl,_,b 4 _ rfl,?_⟩
  rw[adH l[i] l'[i]];by_cases e:l[i]=l'[i]
  ·rw[decide_eq_true e]
   refine ag.2 ?_;rw[ga c (by omega)];refine v (i+1) _ _ ⟨rfl,c,rfl,?_⟩ (by omega);rw[aV c,aV d,j,e]
  ·rw[decide_eq_false e]
   rw[decide_eq_false fun p=>e (by subst p;rfl)]at f
   exact au.2 f
 ·have k:i=l.length:=by omega
  rw[k,bT,ne,bT]at j;rw[decide_eq_true j]at f;exact f
theorem V7{W W':Nat→Prop}{h:ad}{s s':SliceV}{l l':List Ch}(c:Sl tI 5 W h s l)(a:Sl tI 5 W' h s' l')(d:l.length≤1000000){K:Bool→ad→Prop}(b:K (decide (l=l')) h):HC PG Dw [.slice s.a s.len s.cap,.slice s'.a s'.len s'.cap] [.c .bool] K h:=
 Uf s s' (UZ c a d b)
theorem Q8{W W':Nat→Prop}{h:ad}{s s':SliceV}{l l':List Ch}(c:Sl tI 5 W h s l)(a:Sl tI 5 W' h s' l')(d:l.length≤1000000){K:Bool→ad→Prop}(b:K (decide (l=l')) h):HC PG A9 [.slice s.a s.len s.cap,.slice s'.a s'.len s'.cap] [.c .bool] K h:=by
 refine RJ s s' ?_;unfold HL HP;refine ou s s' ?_;have:=UZ (K:=K) c a d b;unfold zU bX ay bK at this;unfold jo bX ay bK;exact this
theorem Ga{W:Nat→Prop}{h:ad}{s:SliceV}{l:List Ch}(p:Sl tI 5 W h s l)(D:l.length≤1000000){K:SliceV→ad→Prop}(v:∀s' h',OwnS tI 5 bO (fun y=>h.size≤y) h' s' (l.map YO)→Upd No h h'→K s' h'):HC PG qB [.slice s.a s.len s.cap] [.c .slice] K h:=by
 refine L4 s ?_;unfold CP bX nv ay az bK jR B4 jt;have w:=p.len;refine LoopP.ghost (fun(i:Nat) (t:SliceV×Int) h'=>OwnS tI 5 bO (fun y=>h.size≤y) h' t.1 ((l.take i).map YO)∧t.2=(i:Int)∧i≤l.length∧Upd No h h') (fun i=>l.length-i) 0 ⟨OwnS.nil Gp,rfl,aS _,Upd.refl _ _⟩ ?_
 rintro I i ⟨ts,A⟩ h' ⟨g,e,hi,f⟩ q;simp only at g e;subst e;have x:=f.size;refine ax (fun b=>?_) fun d=>?_
 ·have b:i<l.length:=by have b:(i:Int)<(s.len:Int):=b;omega
  obtain⟨a,u,_,hv⟩:=(p.upd f fun _ h=>h.elim).at (ae b)
  refine Join.plain ⟨⟨by simp only;omega,by simp only;omega⟩,a,u,_,hv 0 _ rfl,_,hv 1 _ rfl,_,hv 2 _ rfl,_,hv 3 _ rfl,_,hv 4 _ rfl,?_⟩
  refine Vi (c:=l[i]) fun h2 b2 j=>?_
  have z:=j.size;refine⟨_,vc b2 0,_,vc b2 2,_,vc b2 1,_,vc b2 4,_,vc b2 3,?_⟩;refine Kt (c:=YO l[i]) (g.upd j fun _ _ h=>h) (fun y o=>by omega) (by rw[List.length_map,aI];omega) fun C B k n=>?_
  rw[ga b (by omega)];refine q (i+1) _ _ ⟨?_,rfl,b,(f.tr j).trans n fun y o=>.inr o⟩ (by omega)
  rw[aV b,List.map_append];exact k
 ·have m:i=l.length:=by have d:¬(i:Int)<(s.len:Int):=d;omega
  rw[m,bT]at g;exact v _ h' g f
theorem OY{W:Nat→Prop}{h:ad}{s:SliceV}{l:List Ch}(p:Sl tI 5 W h s l)(D:l.length≤1000000){K:SliceV→ad→Prop}(v:∀s' h',OwnS tI 5 kN (fun y=>h.size≤y) h' s' l→Upd No h h'→K s' h'):HC PG yf [.slice s.a s.len s.cap] [.c .slice] K h:=by
 refine L3 s ?_;unfold CO bX nv ay az bK jR B4 jt;have w:=p.len;refine LoopP.ghost (fun(i:Nat) (t:SliceV×Int) h'=>OwnS tI 5 kN (fun y=>h.size≤y) h' t.1 (l.take i)∧t.2=(i:Int)∧i≤l.length∧Upd No h h') (fun i=>l.length-i) 0 ⟨OwnS.nil Gp,rfl,aS _,Upd.refl _ _⟩ ?_
 rintro I i ⟨ts,A⟩ h' ⟨g,e,hi,f⟩ q;simp only at g e;subst e;have x:=f.size;refine ax (fun b=>?_) fun d=>?_
 ·have b:i<l.length:=by have b:(i:Int)<(s.len:Int):=b;omega
  obtain⟨a,u,_,hv⟩:=(p.upd f fun _ h=>h.elim).at (ae b)
  refine Join.plain ⟨⟨by simp only;omega,by simp only;omega⟩,a,u,_,hv 0 _ rfl,_,hv 1 _ rfl,_,hv 2 _ rfl,_,hv 3 _ rfl,_,hv 4 _ rfl,?_⟩
  refine Vi (c:=l[i]) fun h2 b2 j=>?_
  have z:=j.size;refine⟨_,vc b2 0,_,vc b2 1,_,vc b2 2,_,vc b2 3,_,vc b2 4,?_⟩;refine Kt (c:=l[i]) (g.upd j fun _ _ h=>h) (fun y o=>by omega) (by rw[aI];omega) fun C B k n=>?_
  rw[ga b (by omega)];refine q (i+1) _ _ ⟨?_,rfl,b,(f.tr j).trans n fun y o=>.inr o⟩ (by omega)
  rw[aV b];exact k
 ·have m:i=l.length:=by have d:¬(i:Int)<(s.len:Int):=d;omega
  rw[m,bT]at g;exact v _ h' g f
end Go.Proofs
namespace Go.Proofs
open Go Go.Lift
abbrev bA:ByteArray:=⟨#[97]⟩
abbrev bB:ByteArray:=⟨#[98]⟩
theorem bab:kl bA bB:=by rw[vL];decide
end Go.Proofs
