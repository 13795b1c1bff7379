/- A part of the proof that the named laws of this program answer true, whatever the input. -/
import Derived.Test.YtncppacbfagpgaaGreatPart7
import Derived.Test.YtncppacbfagpgaaGreatPart4
import Derived.Test.YtncppacbfagpgaaGreatPart6
import Derived.Test.YtncppacbfagpgaaGreatPart1
open Bool renaming and_eq_true→bd
open Iff renaming rfl→w9
open Int renaming toNat_natCast→aX
open List renaming pairwise_append→cg,mem_cons_self→ao,append_nil→aK,mem_append_left→cA,mem_append→bi,mem_append_right→cO,length_append→ac,length_nil→aJ,length_cons→ak,getElem?_append_right→aV,length_singleton→aR,length_eq_zero_iff→aw,filter_congr→qx,cons_append→cH,mem_cons→az,pairwise_cons→aG,drop_zero→cP,take_left→f8,drop_left→ga,foldl_cons→ia,length_drop→aU,pairwise_singleton→cq,mem_singleton→aB,getElem_mem→bN,find?_cons→pa,filter_eq_self→kJ,any_eq_true→cr,any_cons→rA,mem_range→gN,length_take→aQ,getElem_of_mem→bK,mem_of_getElem→ox
open List.Pairwise renaming nil→gP
open Nat renaming lt_of_lt_of_le→aE,le_refl→aq,sub_self→gb,one_pos→pM,zero_le→bw,le_trans→bc,zero_testBit→nV
namespace Go.Proofs
open Go Go.Lift
theorem Ji{h:ad}{b:Nat}{c:Array Value}{t:TypeId}{v:Value}{k:ad→Prop}(hb:h[b]? =some (.cells c t (0,0))) (hs:0<c.size) (hk:∀h',h'[b]? =some (.cells (c.setIfInBounds 0 v) t (0,0))→Upd (· =b) h h'→k h'):Wr h ⟨b,0,none⟩∧At (hset h ⟨b,0,none⟩ v) k:=
 ⟨iI hb hs,yb hb hk⟩
theorem PZ{L D T:List Pr}{p:Pr}(hr:bE L)(e:L=D++p::T):Gx D p=D++ [p]:=by
 subst e;have h1:=cg.1 hr;rw[AP p h1.1];have:=AO (p:=p) (A:=D) (B:= []) fun r hr'=>h1.2.2 r hr' p (ao ..)
 rw[aK]at this;exact this
theorem QX{z:Hs}{lev:Nat}{D A B:List Pr}{a0:Pr}(hs:Srt (Uw z lev) (D++(A++B)))(hD:∀d∈D,∀t∈A++B,ck z lev d.1<ck z lev t.1)(ha0:a0∈A)(hA:∀a∈A,ck z lev a.1=ck z lev a0.1)(hB:∀b∈B,ck z lev b.1≠ck z lev a0.1):
  part z lev (ck z lev a0.1) (D++(A++B))=A∧part z lev (ck z lev a0.1) D= []∧(∀c,c≠ck z lev a0.1→part z lev c (D++A)=part z lev c D)∧part z lev (ck z lev a0.1) (D++A)=A∧∀d∈D++A,∀t∈B,ck z lev d.1<ck z lev t.1:=by
 have pD:part z lev (ck z lev a0.1) D= []:=wt fun d hd=>by have:=hD d hd a0 (cA _ ha0);omega
 have pA:part z lev (ck z lev a0.1) A=A:=E8 hA;have pB:part z lev (ck z lev a0.1) B= []:=wt hB;have app:∀{c} (X Y:List Pr),part z lev c (X++Y)=part z lev c X++part z lev c Y:=fun X Y=>List.filter_append ..
 refine⟨by rw[app,app,pD,pA,pB];simp,pD,fun c hc=>?_,by rw[app,pD,pA];rfl,fun d hd t ht=>?_⟩
 ·have:part z lev c A= []:=wt fun a ha=>by rw[hA a ha];exact fun e=>hc e.symm
  rw[app,this,aK]
 ·rcases bi.1 hd with hd|hd
  ·exact hD d hd t (cO _ ht)
  ·have h1:=of_decide_eq_false (hs.right.cross d hd t ht)
   have h2:=hB t ht;have h3:=hA d hd;omega
set_option maxHeartbeats 1000000 in
theorem SC{N:Nat}(st:StH N)(hN:N≤100000){z:Hs}{W:Nat→Prop}:∀(m:Nat),m≤13→∀{h:ad} {s:SliceV} {L:List Pr},Sl (zH z) 3 No h s L→(∀y,W y→y<h.size)→bE L→L.length≤N→∀{K:Option Addr→ad→Prop},
  (∀h' b,TrieAt W z h' m b L→Upd No h h'→K (some ⟨b,0,none⟩) h')→HC PG qf [.slice s.a s.len s.cap,.int .i64 ((13-m:Nat):Int)] [.c .ptr] K h:=by
 intro m;induction m with
 |zero=>
  intro _ h s L hs hW hr hn K hk;have gW:∀{h'},Upd No h h'→∀y,W y→y<h'.size:=fun k y hy=>aE (hW y hy) k.size
  refine Bx s ((13-0:Nat):Int) ?_;unfold wX ay cj aH aD nv bX qF JM LU Ap zk;refine aM fun h1 b1 k1=>⟨_,JN b1,av.2 ?_⟩
  refine HW (gW k1) fun h4 b4 bk4 hu4=>?_
  have hlen:=hs.len;refine LoopP.ghost (fun(g:List Pr×List Pr) (t:Option Addr×Int) h'=>(∃b,t.1=some ⟨b,0,none⟩∧BuckAt W h' b g.1)∧t.2=(g.1.length:Int)∧L=g.1++g.2∧Upd No h h') (fun g=>g.2.length) ([],L) ⟨⟨b4,rfl,bk4⟩,rfl,rfl,k1.tr hu4⟩ ?_
  rintro I ⟨D,T⟩ ⟨tb,ti⟩ h5 ⟨⟨b,e1,bk⟩,e2,e3,hu5⟩ hI;simp only at e1 e2 e3 bk;subst e1 e2;have hl3:L.length=D.length+T.length:=by rw[e3,ac]
  refine aA (fun hlt=>?_) fun hge=>?_
  ·rcases T with _|⟨p,T⟩
   ·simp only[aJ]at hl3;omega
   ·simp only[ak]at hl3
    obtain⟨a,ha,_,hv⟩:=(hs.upd hu5 fun _ h=>h.elim).at (i:=D.length) (x:=p) (by rw[e3,aV (aq _),gb];rfl)
    refine⟨⟨by omega,by omega⟩,a,ha,p.1,hv 0 _ rfl,p.2,hv 1 _ rfl,gp z p.1,hv 2 _ rfl,?_⟩
    refine aM fun h6 b6 k6=>?_
    refine be (c:= [.string ⟨#[]⟩,.string ⟨#[]⟩,.int .u64 0]) (vs:=zH z p) b6 rfl fun h7 b7 hu7=>?_
    have hu07:=(hu5.tr k6).own hu7 hu5.size;have k57:Upd No h5 h7:=k6.own hu7 (aq _);refine⟨p.1,sy b7 0 0,p.2,sy b7 0 1,?_⟩;have hrD:bE D:=by rw[e3]at hr;exact(cg.1 hr).1
    refine Et (bk.upd k57 fun _ h=>h.elim) (gW hu07) hrD (by omega) p fun h8 b8 bk8 hu8=>?_
    rw[PZ hr e3]at bk8;have ew:IntKind.wrap .i64 ((D.length:Int)+1)=((D++ [p]).length:Int):=by rw[ac,aR,d8 (by omega)];omega
    rw[ew];exact hI (D++ [p],T) _ _ ⟨⟨b8,rfl,bk8⟩,rfl,by rw[e3];simp,hu07.tr hu8⟩ (by simp)
  ·have hT:T= []:=aw.1 (by omega)
   subst hT;rw[aK]at e3;subst e3;exact hk h5 b bk hu5
 |succ m ih=>
  intro hm h s L hs hW hr hn K hk;have gW:∀{h'},Upd No h h'→∀y,W y→y<h'.size:=fun k y hy=>aE (hW y hy) k.size
  have hlev:13-(m+1)=12-m:=by omega
  have hl13:12-m<13:=by omega
  refine Bx s ((13-(m+1):Nat):Int) ?_;unfold wX ay cj aH aD nv bX qF JM LU Ap zk;rw[hlev];refine aM fun h1 b1 k1=>⟨_,JN b1,?_⟩
  have ne:(((12-m:Nat):Int)==(13:Int))=false:=by rw[beq_eq_false_iff_ne];omega
  rw[ne];refine aj.2 (aM fun h2 b2 k2=>?_)
  have z1:=aO b1;have z2:=aO b2;have s1:=k1.size;refine Ji b2 pM fun h3 b3 hu3=>?_
  have c1:=hu3.oth (k2.get0 b1) (by omega);have two3:Two h.size h1.size (12-m) h3:=⟨c1,b3⟩;have k03:Upd No h h3:=(k1.tr k2).own hu3 s1;have s3:h2.size≤h3.size:=hu3.size;refine PU (hs.upd k03 fun _ h=>h.elim) (by omega) fun e h4 ho4 hu4=>?_
  have two4:=two3.upd hu4;refine st (Uv z (12-m)) (V7 hl13 (by omega) (by omega)) ho4 two4 (by omega) fun h5 R ho5 hst hu5=>?_
  have k45:Upd No h3 h5:=hu4.trans hu5 fun b hb=>.inr hb
  have two5:=two3.upd k45;have hRl:=hst.eqf.len;have hRp:∀c,part z (12-m) c R=part z (12-m) c L:=fun c=>by
   by_cases hex:∃q∈R++L,ck z (12-m) q.1=c
   ·obtain⟨q,_,hq⟩:=hex
    have e1:∀X:List Pr,X.filter (HT (Uw z (12-m)) q)=part z (12-m) c X:=fun X=>qx fun p _=>by rw[Tq,hq]
    rw[←e1,←e1];exact hst.eqf.flt q
   ·rw[wt fun p hp e=>hex ⟨p,cA _ hp,e⟩,wt fun p hp e=>hex ⟨p,cO _ hp,e⟩]
  have k05:=k03.tr k45;refine pX (gW k05) fun h6 b6 nd6 hu6=>?_
  have k06:=k05.tr hu6;have hlen:=ho5.len;have hsl:Sl (zH z) 3 No h6 e R:=(ho5.sl fun _ _ _ h=>h).upd hu6 fun _ h=>h.elim
  refine LoopP.ghost (fun(g:List Pr×List Pr) (t:SliceV×Option Addr) h'=>R=g.1++g.2∧(∀d∈g.1,∀y∈g.2,ck z (12-m) d.1<ck z (12-m) y.1)∧Sl (zH z) 3 No h' t.1 g.2∧t.1.len≤t.1.cap∧(∃b sl,t.2=some ⟨b,0,none⟩∧NodeAt W h' b sl∧∀c,c<32→SlotIs W z h' m sl c (part z (12-m) c g.1))∧Upd No h6 h') (fun g=>g.2.length) ([],R)
   ⟨rfl,fun d hd=>(by cases hd),hsl,ho5.cap,⟨b6,_,rfl,nd6,fun c _=>.inl ⟨rfl,rfl,rfl⟩⟩,Upd.refl _ _⟩ ?_
  rintro I ⟨D,T⟩ ⟨sT,tb⟩ h7 ⟨e3,hDT,hsT,hcT,⟨b,sl,e1,nd,hsl⟩,hu7⟩ hI;simp only at e1 e3 hDT hsT hcT nd hsl;subst e1;have hlT:=hsT.len;have hRT:R.length=D.length+T.length:=by rw[e3,ac]
  have k07:=k06.tr hu7;have two7:=(two5.upd hu6).upd hu7;refine aA (fun hgt=>?_) fun hle=>?_
  ·rcases T with _|⟨p,T⟩
   ·simp only[aJ]at hlT;simp only at hgt;omega
   obtain⟨a,ha,_,hv⟩:=hsT.at (i:=0) (x:=p) rfl;refine⟨_,JN two7.2,⟨by omega,by simp only[ak]at hlT;simp only;omega⟩,a,ha,p.1,hv 0 _ rfl,p.2,hv 1 _ rfl,gp z p.1,hv 2 _ rfl,?_⟩
   have two8:∀{h8},Upd No h7 h8→Two h.size h1.size (12-m) h8:=fun k=>two7.upd k
   refine⟨FP (z:=z) hl13 two7.1 p fun h8 k8=>aM fun h9 b9 k9=>Ji b9 pM fun h10 b10 hu10=>?_,aM fun h8 b8 k8=>⟨?_,JN (two8 k8).2,FP (z:=z) hl13 (two8 k8).1 p fun h9 k9=>Ji (k9.get0 b8) pM fun h10 b10 hu10=>?_⟩⟩
   case refine_2=>
    obtain⟨a',ha',_,hv'⟩:=(hsT.upd k8 fun _ h=>h.elim).at (i:=0) (x:=p) rfl
    rw[ha]at ha';cases ha';exact⟨hv' 0 _ rfl,hv' 1 _ rfl,hv' 2 _ rfl⟩
   case' refine_1=>
    have k710:Upd No h7 h10:=(k8.tr k9).own hu10 k8.size;obtain⟨vb,evb⟩:∃vb,vb=h8.size:=⟨_,rfl⟩;rw[cJ h8,←evb];rw[←evb]at b10
   case' refine_3=>
    have k710:Upd No h7 h10:=(k8.tr k9).own hu10 (aq _);obtain⟨vb,evb⟩:∃vb,vb=h7.size:=⟨_,rfl⟩;rw[cJ h7,←evb];rw[←evb]at b10
   all_goals
    have hTl:(p::T).length≤N:=by omega
    refine PD (hsT.upd k710 fun _ h=>h.elim) (by omega) (g:=fun q=>decide (ck z (12-m) q.1≠ck z (12-m) p.1)) (fun q _ h' K' hu' hK=>?_) fun h11 A B e hAB hA hBn hBc hu11=>?_
    ·refine HV.mk' (FV (q.1,q.2,gp z q.1) ⟨h1.size,0,none⟩ ⟨vb,0,none⟩ ?_)
     unfold yk ae au bX Ap ME;refine aM fun h12 b12 k12=>?_
     have k':=hu'.tr k12;refine⟨_,JN (two8 (k710.tr k')).2,_,vc b12 0,_,vc b12 1,_,vc b12 2,_,JN (k'.get0 b10),?_⟩;refine FP (z:=z) hl13 (two8 (k710.tr k')).1 q fun h13 k13=>⟨JN ((k'.tr k13).get0 b10),?_⟩
     have eb:(((ck z (12-m) q.1:Nat):Int) !=((ck z (12-m) p.1:Nat):Int))=decide (ck z (12-m) q.1≠ck z (12-m) p.1):=by
      rw[Bool.eq_iff_iff,bne_iff_ne,decide_eq_true_iff];omega
     rw[eb];exact hK h13 (k12.tr k13)
    obtain⟨A',rfl⟩:∃A',A=p::A':=by
     rcases A with _|⟨a0,A'⟩
     ·have:=(hBc p T (by rw[List.nil_append]at hAB;exact hAB.symm)).2
      simp at this
     ·rw[cH]at hAB
      exact⟨A',by rw[(List.cons.inj hAB).1]⟩
    generalize hAe:p::A'=A at*;have hpA:p∈A:=by rw[←hAe];exact ao ..
    have hA1:0<A.length:=List.length_pos_of_mem hpA;have hsrt:=hst.srt;rw[hAB]at hDT hsT hTl hlT;rw[e3,hAB]at hsrt;simp only[ac]at hTl hlT;have hcA:∀q∈A,ck z (12-m) q.1=ck z (12-m) p.1:=fun q hq=>by simpa using hA q hq
    have hcB:∀q∈B,ck z (12-m) q.1≠ck z (12-m) p.1:=fun q hq=>by
     rcases B with _|⟨b0,B'⟩
     ·cases hq
     have hb0:ck z (12-m) b0.1≠ck z (12-m) p.1:=by simpa using(hBc b0 B' rfl).2
     have h1:=of_decide_eq_false (hsrt.right.cross p hpA b0 (ao ..));rcases az.1 hq with rfl|hq
     ·exact hb0
     ·have h2:=of_decide_eq_false ((aG.1 hsrt.right.right).1 q hq)
      omega
    obtain⟨r1,r2,r3,r4,r5⟩:=QX hsrt hDT hpA hcA hcB;have hi:=ya z (12-m) p.1;have hsi:=hsl _ hi;rw[r2]at hsi;obtain⟨hsp,hskn⟩:sl.p (ck z (12-m) p.1)=none∧sl.k (ck z (12-m) p.1)=none:=by
     rcases hsi with⟨_,h1,h2⟩|⟨q,h1,_⟩|⟨h1,_⟩
     ·exact⟨h1,h2⟩
     ·cases h1
     ·simp at h1
    have k611:=(hu7.tr k710).tr hu11;have k711:=k710.tr hu11;have b11:=hu11.get0 b10;have two11:=two8 k711;refine Join.intro (fun t h'=>t=(A.length:Int)∧h'=h11) (fun R1 hR1=>?_) ?_
    ·refine aA (fun hneg=>hR1 _ _ ⟨?_,rfl⟩) fun hpos=>hR1 _ _ ⟨?_,rfl⟩
     ·rcases B with _|⟨b0,B'⟩
      ·have hlT:sT.len=A.length+0:=hlT
       show((sT.len:Nat):Int)=(A.length:Int)
       omega
      ·have:=(hBc b0 B' rfl).1;omega
     ·rcases B with _|⟨b0,B'⟩
      ·have:=hBn rfl;omega
      ·exact(hBc b0 B' rfl).1
    rintro t h' ⟨rfl,rfl⟩;refine Join.intro (fun t h9=>∃b' sl',t=some ⟨b',0,none⟩∧NodeAt W h9 b' sl'∧(∀c,c<32→SlotIs W z h9 m sl' c (part z (12-m) c (D++A)))∧Upd No h' h9) (fun R1 hR1=>?_) ?_
    ·refine CondP.intro (fun hone=>?_) fun hmore=>?_
     ·have hone:A.length=1:=by have:=eq_of_beq hone;omega
      have hAp:A= [p]:=by
       rw[←hAe]at hone⊢;simp only[ak]at hone;rw[aw.1 (show A'.length=0 by omega)]
      obtain⟨a',ha',_,hv'⟩:=(hsT.upd k711 fun _ h=>h.elim).at (i:=0) (x:=p) (by rw[←hAe];rfl)
      rw[ha]at ha';cases ha';refine⟨_,JN b11,⟨by omega,by omega⟩,a,ha,p.1,hv' 0 _ rfl,p.2,hv' 1 _ rfl,?_⟩
      refine qN (nd.upd k711 fun _ h=>h.elim) (gW (k06.tr k611)) hi (fun _ _=>hskn) p fun h12 b12 nd12 hu12=>hR1 _ _ ⟨b12,_,rfl,nd12,fun c hc=>?_,hu12⟩
      by_cases e:c=ck z (12-m) p.1
      ·rw[e,r4,hAp]
       exact .inr (.inl ⟨p,rfl,fV,fV⟩)
      ·rw[r3 c e]
       have t:=SlotIs.upd0 (k711.tr hu12) (hsl c hc);have e1:upd sl.p (ck z (12-m) p.1) (some p) c=sl.p c:=fp e;have e2:upd sl.k (ck z (12-m) p.1) none c=sl.k c:=fp e;unfold SlotIs at t;rw[←e1,←e2]at t;exact t
     ·have hmore:A.length≠1:=fun e=>by rw[e]at hmore;simp at hmore
      refine⟨_,JN b11,⟨by omega,(by show((A.length:Nat):Int)≤((sT.cap:Nat):Int);omega)⟩,_,JN two11.1,?_⟩;have ew:IntKind.wrap .i64 (((12-m:Nat):Int)+1)=((13-m:Nat):Int):=by rw[d8 (by omega)];omega
      rw[ew];have hsA:=Sl.sub (hsT.upd k711 fun _ h=>h.elim) (l:=0) (hi:=A.length) (m:=sT.cap) (c:=sT.cap-0) (bw _) (by simp) (by omega)
      rw[cP,Nat.sub_zero,f8]at hsA;have hAL:A=part z (12-m) (ck z (12-m) p.1) L:=by
       rw[←hRp,e3,hAB];exact r1.symm
      refine ih (by omega) hsA (gW (k06.tr k611)) (by rw[hAL];exact iZ hr) (by omega) fun h12 kb t12 hu12=>?_
      refine⟨JN (two11.upd hu12).1,JN (hu12.get0 b11),?_⟩;refine vm (nd.upd (k711.tr hu12) fun _ h=>h.elim) (gW ((k06.tr k611).tr hu12)) hi (fun _ _=>hsp) ⟨kb,0,none⟩ fun h13 b13 nd13 hu13=>⟨JN ((two11.upd hu12).upd hu13).1,hR1 _ _ ⟨b13,_,rfl,nd13,fun c hc=>?_,hu12.tr hu13⟩⟩
      by_cases e:c=ck z (12-m) p.1
      ·rw[e,r4]
       exact .inr (.inr ⟨by omega,fV,kb,fV,TrieAt.upd0 hu13 t12⟩)
      ·rw[r3 c e]
       have t:=SlotIs.upd0 ((k711.tr hu12).tr hu13) (hsl c hc);have e1:upd sl.p (ck z (12-m) p.1) none c=sl.p c:=fp e;have e2:upd sl.k (ck z (12-m) p.1) (some (some ⟨kb,0,none⟩)) c=sl.k c:=fp e;unfold SlotIs at t;rw[←e1,←e2]at t;exact t
    ·rintro t h9 ⟨b',sl',rfl,nd9,hs9,hu9⟩
     refine⟨⟨by omega,(by show((A.length:Nat):Int)≤((sT.len:Nat):Int);omega)⟩,?_⟩;rw[aX];have hsB:=Sl.sub ((hsT.upd k711 fun _ h=>h.elim).upd hu9 fun _ h=>h.elim) (l:=A.length) (hi:=(A++B).length) (m:=sT.cap) (c:=sT.cap-A.length) (by simp) (aq _) (by rw[ac];omega)
     rw[ga,ac,Nat.add_sub_cancel_left,List.take_length]at hsB;have elen:sT.len-A.length=B.length:=by omega
     rw[elen];refine hI (D++A,B) _ _ ⟨by rw[e3,hAB,List.append_assoc],r5,hsB,by simp only;omega,⟨b',sl',rfl,nd9,hs9⟩,k611.tr hu9⟩ ?_
     simp only[hAB,ac];omega
  ·have hT:T= []:=by
    refine aw.1 ?_;simp only at hle;omega
   subst hT;rw[aK]at e3;subst e3;exact hk h7 b ⟨sl,nd,fun c hc=>by
    have:=hsl c hc
    rw[hRp c]at this
    exact this⟩ k07
end Go.Proofs
namespace Go.Proofs
open Go Go.Lift
theorem RW{z:Hs}{M:Nat→Prop}{h:ad}{so:SliceV}{out:List Pr}{p:Pr}{K:SliceV→ad→Prop}(ho:OwnS (zH z) 3 bQ M h so out)(hM:∀b,h.size≤b→M b)(hn:out.length+1≤1000000000)
  (hk:∀s' h',OwnS (zH z) 3 bQ M h' s' (out++ [p])→Upd M h h'→K s' h'):
  ∃xs,SRow (hnew h (zH z p) bQ) (some (ag h)) (1*3) xs∧AppP (some [.string (⟨#[]⟩:ByteArray),.string (⟨#[]⟩:ByteArray),.int .u64 0]) 3 40 bQ so.a so.len so.cap 1 xs (hnew h (zH z p) bQ) K:=by
 have k:=Upd.hnew No h (zH z p) bQ;have h1:OwnS (zH z) 3 bQ (fun _=>True) (hnew h (zH z p) bQ) ⟨some (ag h),1,1⟩ [p]:=⟨rfl,IT z,aq _,.inr ⟨h.size,[],rfl,trivial,bZ ..,rfl⟩⟩
 refine⟨_,(h1.sl (W:=No) fun _ _ _ h=>h).srow,?_⟩
 refine AppP.own (ys:= [p]) (ho.upd k fun _ _ h=>h) rfl rfl rfl rfl (by omega) (by simp only[aR];omega) (hM _ (by rw[iS];omega)) fun s' h' ho' hu=>?_
 exact hk s' h' ho' ((Upd.hnew M h _ _).tr hu)
theorem SO(l:List Pr):(yF l).length≤l.length:=by
 have:∀(l acc:List Pr),(l.foldl (fun acc p=>gV p acc) acc).length≤acc.length+l.length:=by
  intro l;induction l with
  |nil=>intro acc;simp
  |cons p l ih=>
   intro acc;rw[ia];have h1:=ih (gV p acc);have h2:=Ck p (l:=acc);simp only[ak];omega
 have:=this l [];unfold yF;simpa using this
theorem PW{N:Nat}(st:StP N)(sh:StH N)(hN:N≤100000){z:Hs}{W W0:Nat→Prop}{h:ad}{s:SliceV}{l:List Pr}(hs:Sl eu 2 W0 h s l)(hW:∀y,W y→y<h.size)(hn:l.length≤N){K:Option Addr→ad→Prop}
  (hk:∀h' b,TrieAt W z h' 13 b (yF l)→Upd No h h'→K (some ⟨b,0,none⟩) h'):HC PG u7 [.agg #[.int .u64 z.k0,.int .u64 z.k1,.int .u64 z.mask],.slice s.a s.len s.cap] [.c .ptr] K h:=by
 refine GS (z.k0,z.k1,z.mask) s ?_;unfold zj cj ae aD au nv Dm zm nZ jH gC JM LU Sy;refine aM fun h1 b1 k1=>?_
 refine ET st (by omega) (W':=No) (hs.upd k1 fun _ h=>h.elim) (fun _ h=>h.elim) (by omega) fun e h3 hse _ k3=>?_
 have c3:=k3.get0 b1;have k03:=k1.tr k3;have hln:=SO l;have hrs:=BW l;generalize yF l=L at*;have hlen:=hse.len;refine LoopP.ghost (fun(g:List Pr×List Pr) (t:SliceV×Int) h'=>t.2=(g.1.length:Int)∧L=g.1++g.2∧OwnS (zH z) 3 bQ (fun b=>h3.size≤b) h' t.1 g.1∧Upd No h3 h') (fun g=>g.2.length) ([],L) ⟨rfl,rfl,OwnS.nil (IT z),Upd.refl _ _⟩ ?_
 rintro I ⟨D,T⟩ ⟨sa,ti⟩ h6 ⟨e2,e3,ho,hu⟩ hI;simp only at e2 e3 ho;subst e2 e3;simp only[ac]at hlen hln;have hlD:=ho.len;refine aA (fun hlt=>?_) fun hge=>?_
 ·rcases T with _|⟨p,T⟩
  ·simp only[aJ]at hlen;simp only at hlt;omega
  simp only[ak]at hlen hln;refine Join.intro (fun t h'=>OwnS (zH z) 3 bQ (fun b=>h3.size≤b) h' t (D++ [p])∧Upd No h3 h') (fun R hR=>?_) ?_
  ·obtain⟨a,ha,_,hv⟩:=(hse.upd hu fun _ h=>h.elim).at (i:=D.length) (x:=p) (by rw[aV (aq _),gb];rfl)
   refine⟨⟨by omega,by simp only;omega⟩,a,ha,p.1,hv 0 _ rfl,p.2,hv 1 _ rfl,?_⟩
   refine IL (p:=p) fun h8 b8 k8=>?_
   have c8:=(hu.tr k8).get0 c3;refine⟨p.1,vc b8 0,p.2,vc b8 1,_,vc c8 0,_,vc c8 1,_,vc c8 2,p.1,vc b8 0,?_⟩;refine yA fun h9 k9=>?_
   have b9:=k9.get0 b8;refine⟨⟨vc b9 0,vc b9 1⟩,bq ?_⟩;have hu9:=(hu.tr k8).tr k9;have z9:=hu9.size;refine RW (z:=z) (p:=p) (((ho.upd k8 fun _ _ h=>h).upd k9 fun _ _ h=>h)) (fun b hb=>by omega) (by omega) fun s' h' ho' hu'=>hR _ _ ⟨ho',hu9.trans hu' fun b hb=>.inr hb⟩
  ·rintro s' h' ⟨ho',hu'⟩
   have ew:IntKind.wrap .i64 ((D.length:Int)+1)=((D++ [p]).length:Int):=by rw[ac,aR,d8 (by omega)];omega
   rw[ew];exact hI (D++ [p],T) _ _ ⟨rfl,by simp,ho',hu'⟩ (by simp)
 ·have hT:T= []:=aw.1 (by simp only at hge;omega)
  subst hT;rw[aK]at hrs;rw[aK]at hk;have k06:=k03.tr hu;exact SC sh hN 13 (aq _) (ho.sl fun _ _ _ h=>h) (fun y hy=>aE (hW y hy) k06.size) hrs (by simp only[aJ]at hln;omega) fun h' b t hu'=>hk h' b t (k06.tr hu')
theorem StP.less{N M:Nat}(h:StP N)(hm:M≤N):StP M:=fun w _ _ _ hc _ _ _ ho hi hn _ hk=>h w hc ho hi (bc hn hm) hk
theorem StH.less{N M:Nat}(h:StH N)(hm:M≤N):StH M:=fun w _ _ _ hc _ _ _ ho hi hn _ hk=>h w hc ho hi (bc hn hm) hk
end Go.Proofs
namespace Go.Proofs
open Go Go.Lift
theorem OC{a b:ByteArray}:kl a b↔Op.bytesLess a.data.toList b.data.toList=true:=by unfold kl;rw[ByteArray.toList_eq,ByteArray.toList_eq]
theorem OW{a b:UInt8}{x y:List UInt8}:Op.bytesLess (a::x) (b::y)=true↔a.toNat<b.toNat∨(a=b∧Op.bytesLess x y=true):=by
 simp only[Op.bytesLess,Bool.or_eq_true,decide_eq_true_iff,bd,beq_iff_eq,UInt8.lt_iff_toNat_lt]
theorem RU{x y:List UInt8}:∀pre:List UInt8,Op.bytesLess (pre++x) (pre++y)=true↔Op.bytesLess x y=true
 | []=>w9
 |a::pre=>by rw[cH,cH,OW,RU pre];simp
theorem Vw{x y:List UInt8}(h:Op.bytesLess x y=true)(hx:x≠[])(hy:y≠[]):hd x≤hd y:=by
 match x,y,hx,hy with
 |a::x,b::y,_,_=>
  show a.toNat≤b.toNat
  rcases OW.1 h with h|⟨rfl,_⟩<;>omega
abbrev ky(p:Pr):List UInt8:=p.1.data.toList
def Wd(l:List Pr)(pre k:List UInt8)(v:ByteArray):Prop:=∃p∈l,ky p=pre++k∧p.2=v
structure Beg(l:List Pr)(pre:List UInt8):Prop where
 up:bE l
 at_:∀p∈l,(ky p).take pre.length=pre∧pre.length<(ky p).length
theorem Beg.sub{l l':List Pr}{pre:List UInt8}(b:Beg l pre)(h:l'.Sublist l):Beg l' pre:=⟨b.up.sublist h,fun p hp=>b.at_ p (h.subset hp)⟩
theorem Beg.split{l:List Pr}{pre:List UInt8}(b:Beg l pre){p:Pr}(hp:p∈l):ky p=pre++(ky p).drop pre.length∧(ky p).drop pre.length≠[]:=by
 obtain⟨h1,h2⟩:=b.at_ p hp;refine⟨?_,fun e=>?_⟩
 ·conv=>lhs;rw[←List.take_append_drop pre.length (ky p),h1]
 ·have:=congrArg List.length e
  rw[aU,aJ]at this;omega
def bt(n:Nat)(p:Pr):Nat:=hd ((ky p).drop n)
theorem Beg.mono{A B:List Pr}{pre:List UInt8}(b:Beg (A++B) pre){x y:Pr}(hx:x∈A)(hy:y∈B):bt pre.length x≤bt pre.length y:=by
 have h:=(cg.1 b.up).2.2 x hx y hy;rw[OC]at h;obtain⟨e1,n1⟩:=b.split (cA B hx);obtain⟨e2,n2⟩:=b.split (cO A hy);change Op.bytesLess (ky x) (ky y)=true at h;rw[e1,e2,RU]at h;exact Vw h n1 n2
structure Row(L:List Bn)(D T:List Pr)(pre:List UInt8):Prop where
 can:∀n∈L,Qc n
 up:L.Pairwise fun m n=>hd m.1<hd n.1
 lo:∀n∈L,∀p∈T,hd n.1<bt pre.length p
 got:∀k v,(∃n∈L,vf n k v)↔Wd D pre k v
theorem Row.nil(T:List Pr)(pre:List UInt8):Row [] [] T pre:=⟨fun n h=>(by cases h),gP,fun n h=>(by cases h),fun k v=>⟨fun⟨n,h,_⟩=>(by cases h),fun⟨p,h,_⟩=>(by cases h)⟩⟩
theorem Row.more{L:List Bn}{D A B:List Pr}{pre:List UInt8}{n:Bn}{p:Pr}(r:Row L D (A++B) pre)(bg:Beg (A++B) pre)(hp:p∈A)(hA:∀a∈A,bt pre.length a=bt pre.length p)(hB:∀b B',B=b::B'→bt pre.length b≠bt pre.length p)(hc:Qc n)(hn:hd n.1=bt pre.length p)(hg:∀k v,vf n k v↔Wd A pre k v):Row (L++ [n]) (D++A) B pre:=by
 refine⟨fun m hm=>?_,cg.2 ⟨r.up,cq ..,fun a ha b hb=>?_⟩,fun m hm q hq=>?_,fun k v=>?_⟩
 ·rcases bi.1 hm with hm|hm
  ·exact r.can m hm
  ·rw[aB.1 hm];exact hc
 ·rw[aB.1 hb,hn]
  exact r.lo a ha p (cA _ hp)
 ·rcases bi.1 hm with hm|hm
  ·exact r.lo m hm q (cO _ hq)
  ·rw[aB.1 hm,hn]
   rcases B with _|⟨b0,B'⟩
   ·cases hq
   have h1:=hB b0 B' rfl;have h2:=bg.mono hp (ao (a:=b0) (l:=B'));rcases az.1 hq with rfl|hq
   ·omega
   ·have bg':Beg ([b0]++B') pre:=bg.sub (List.sublist_append_right A _)
    have:=bg'.mono (aB.2 rfl) hq;omega
 ·constructor
  ·rintro⟨m,hm,hi⟩
   rcases bi.1 hm with hm|hm
   ·obtain⟨q,hq,e⟩:=(r.got k v).1 ⟨m,hm,hi⟩
    exact⟨q,cA _ hq,e⟩
   ·rw[aB.1 hm]at hi
    obtain⟨q,hq,e⟩:=(hg k v).1 hi;exact⟨q,cO _ hq,e⟩
  ·rintro⟨q,hq,e⟩
   rcases bi.1 hq with hq|hq
   ·obtain⟨m,hm,hi⟩:=(r.got k v).2 ⟨q,hq,e⟩
    exact⟨m,cA _ hm,hi⟩
   ·exact⟨n,cO _ (aB.2 rfl),(hg k v).2 ⟨q,hq,e⟩⟩
theorem Row.done{L:List Bn}{D:List Pr}{pre:List UInt8}(r:Row L D [] pre):fS (.ofL L)∧∀k v,qG (.ofL L) k v↔Wd D pre k v:=by
 refine⟨ef.2 ?_,fun k v=>?_⟩
 ·rw[Fo.to_of];exact⟨r.up,r.can⟩
 ·rw[fK,Fo.to_of];exact r.got k v
end Go.Proofs
namespace Go.Proofs
open Go Go.Lift
theorem Kid.less{W W':Nat→Prop}{h:ad}(hm:∀b,W' b→W b∨h.size≤b){a:Option Addr}{n:Bn}:Kid W h a n→Kid W' h a n
 |⟨b,sl,e1,e2,e3⟩=>⟨b,sl,e1,e2,e3.less hm⟩
theorem Kid.updM{W M:Nat→Prop}{h h':ad}(k:Upd M h h')(hm:∀b,M b→W b∨h.size≤b){a:Option Addr}{n:Bn}:Kid W h a n→Kid W h' a n
 |⟨b,sl,e1,e2,e3⟩=>⟨b,sl,e1,e2,e3.updM k hm⟩
theorem RxL.less{W W':Nat→Prop}{h:ad}(hm:∀b,W' b→W b∨h.size≤b){ks:List (Option Addr)}{L:List Bn}(r:RxL W h ks L):RxL W' h ks L:=⟨r.1,fun p hp=>(r.2 p hp).less hm⟩
theorem RxL.updM{W M:Nat→Prop}{h h':ad}(k:Upd M h h')(hm:∀b,M b→W b∨h.size≤b){ks:List (Option Addr)}{L:List Bn}(r:RxL W h ks L):RxL W h' ks L:=⟨r.1,fun p hp=>(r.2 p hp).updM k hm⟩
end Go.Proofs
namespace Go.Proofs
open Go Go.Lift
theorem uV{h:ad}{t:Tr}{k:ad→Prop}(hk:∀h',h'[h.size]? =some (.cells (fz t).toArray aL (0,0))→Upd No h h'→k h'):
  At (hnew h (fz sH) aL) (fun h1=>qE h1 (some (ag h)) 0 (fz t)∧At (fk h1 (ag h) 0 (fz t)) k):=
 aM fun h1 b1 k1=>be (c:=fz sH) (vs:=fz t) b1 rfl fun h2 b2 hu2=>hk h2 b2 (k1.own hu2 (aq _))
theorem u9{N:Nat}(st:StP N)(sh:StH N)(hN:N≤100000){W W0:Nat→Prop}{x:Hs}{h:ad}{s:SliceV}{l:List Pr}(hs:Sl eu 2 W0 h s l)(hW:∀y,W y→y<h.size)(hn:l.length≤N)(hB:∀p∈l,p.1.size≤256∧p.2.size≤4096){K:Tr×Int→ad→Prop}
  (hk:∀h' t,TreeIs W h' 0 x t (yF l)→Upd No h h'→K (t,0) h'):HC PG qg [.int .i64 0,.agg #[.int .u64 x.k0,.int .u64 x.k1,.int .u64 x.mask],.slice s.a s.len s.cap] [.agg [.int .i64,.int .u64,.int .u64,.int .u64,.ptr,.ptr],.c (.int .i64)] K h:=by
 refine Jw 0 (x.k0,x.k1,x.mask) s ?_;unfold BJ cj aN ae ax aD au cp nv Dm zm rB oa nZ jH bX tf AN;refine aM fun h1 b1 k1=>aM fun h2 b2 k2=>?_
 have z1:=aO b1;have z2:=aO b2;have s1:h.size≤h1.size:=k1.size;have c1:=k2.get0 b1;have k02:=k1.tr k2;refine⟨_,vc c1 0,_,vc c1 1,_,vc c1 2,?_⟩;refine N9 (W:=No) (x:=x) (fun _ h=>h.elim) (.inl rfl) fun h3 t3 _ k3=>?_
 refine uV (t:=t3) fun h4 b4 k4=>?_
 refine aj.2 ?_;have k24:=k3.tr k4;have k04:=k02.tr k24;have hlen:=hs.len;refine LoopP.ghost (fun(i:Nat) (t:Int) h'=>t=(i:Int)∧i≤l.length∧Upd No h4 h') (fun i=>l.length-i) 0 ⟨rfl,bw _,Upd.refl _ _⟩ ?_
 rintro I i t h5 ⟨rfl,hi,k5⟩ hI;have k05:=k04.tr k5;refine aA (fun hlt=>?_) fun hge=>?_
 ·have hlt:i<l.length:=by omega
  obtain⟨a,ha,_,hv⟩:=(hs.upd k05 fun _ h=>h.elim).at (List.getElem?_eq_getElem hlt)
  have hb:=hB _ (bN hlt);refine⟨⟨by omega,by omega⟩,a,ha,l[i].1,hv 0 _ rfl,l[i].2,hv 1 _ rfl,?_⟩
  refine IL (p:=l[i]) fun h6 b6 k6=>⟨_,vc b6 0,_,vc b6 1,Cg hb.1 hb.2 (aj.2 ?_)⟩
  rw[pd hlt (by omega)];exact hI (i+1) _ _ ⟨rfl,hlt,k5.tr k6⟩ (by omega)
 ·have hW5:=Pro.lt (h2:=h2) hW k02
  have hW5':∀y,Pro W h h2 y→y<h5.size:=fun y hy=>aE (hW5 y hy) (k24.tr k5).size
  have d2:=(k24.tr k5).get0 b2;have d1:=(k24.tr k5).get0 c1;refine aj.2 ⟨_,vc d1 0,_,vc d1 1,_,vc d1 2,_,vc d1 0,_,vc d1 1,_,vc d1 2,?_⟩;refine PW st sh hN (z:=x) (hs.upd k05 fun _ h=>h.elim) hW5' hn fun h6 b6 t6 k6=>?_
  have e1:=k6.get0 d1;refine⟨⟨vc e1 0,vc e1 1,vc e1 2⟩,?_⟩;refine Db (x:=x) (.inr ⟨b6,rfl,t6⟩) (fun y hy=>aE (hW5' y hy) k6.size) fun h7 t7 i7 k7=>?_
  refine be (c:=fz sH) (vs:=fz t7) (k7.get0 (k6.get0 d2)) rfl fun h8 b8 hu8=>?_
  refine⟨_,vc b8 0,_,vc b8 1,_,vc b8 2,_,vc b8 3,_,vc b8 4,_,vc b8 5,?_⟩;exact hk h8 t7 ((i7.updM hu8 (fun y hy=>.inl (.inr (by have hy:y=h1.size:=hy;omega)))).less Pro.sub) (((k05.tr k6).tr k7).own hu8 s1)
end Go.Proofs
namespace Go.Proofs
open Go Go.Lift
theorem sM:Few 0 []:=⟨.nil,aq _,fun p hp=>by cases hp⟩
theorem UE(s:ByteArray):((0:Int)≤(if 30<(s.size:Int)then 30 else(s.size:Int))∧(if 30<(s.size:Int)then 30 else(s.size:Int))≤((s.size:Nat):Int))∧s.extract 0 ((if 30<(s.size:Int)then 30 else(s.size:Int)).toNat)=vC s:=by
 unfold vC;split
 ·refine⟨⟨by omega,by omega⟩,?_⟩
  rw[Nat.min_eq_right (by omega)];rfl
 ·refine⟨⟨by omega,by omega⟩,?_⟩
  rw[Nat.min_eq_left (by omega),aX]
theorem Vh{h:ad}{r:Rt}{k:ad→Prop}(hk:∀h',h'[h.size]? =some (.cells (pG r).toArray fI (0,0))→Upd No h h'→k h'):
  At (hnew h (pG Iu) fI) (fun h1=>qE h1 (some (ag h)) 0 (pG r)∧At (fk h1 (ag h) 0 (pG r)) k):=
 aM fun h1 b1 k1=>be (c:=pG Iu) (vs:=pG r) b1 rfl fun h2 b2 hu2=>hk h2 b2 (k1.own hu2 (aq _))
end Go.Proofs
namespace Go.Proofs
open Go Go.Lift
abbrev UU:List Value:= [.string (⟨#[]⟩:ByteArray),.string (⟨#[]⟩:ByteArray),.string (⟨#[]⟩:ByteArray),.bool false,.bool false]
theorem Vi{h:ad}{t:TypeId}{c:Ch}{k:ad→Prop}(hk:∀h',h'[h.size]? =some (.cells (BP c).toArray t (0,0))→Upd No h h'→k h'):
  At (hnew h UU t) fun h8=>qE h8 (some (ag h)) 0 (BP c)∧At (fk h8 (ag h) 0 (BP c)) k:=
 aM fun h1 b1 k1=>be (c:=UU) (vs:=BP c) b1 rfl fun h2 b2 hu2=>hk h2 b2 (k1.own hu2 (aq _))
end Go.Proofs
namespace Go.Proofs
open Go Go.Lift
abbrev bA:ByteArray:=⟨#[97]⟩
abbrev bB:ByteArray:=⟨#[98]⟩
theorem VJ:kl bA bB:=by rw[OC];decide
theorem Vv:bB≠bA:=fun h=>by
 have:=VJ;rw[h]at this;exact bW _ this
end Go.Proofs
namespace Go.Proofs
open Go Go.Lift
abbrev b1:ByteArray:=⟨#[49]⟩
abbrev b2:ByteArray:=⟨#[50]⟩
abbrev b3:ByteArray:=⟨#[51]⟩
theorem Ob(p:Pr):yF [p]= [p]:=rfl
theorem SN{v w:ByteArray}:yF [(bA,v),(bB,w)]= [(bA,v),(bB,w)]:=by
 unfold yF;rw[ia,ia,List.foldl_nil];have e1:gV (bA,v) []= [(bA,v)]:=rfl;rw[e1,fU,if_pos VJ];rfl
theorem Hd{v w:ByteArray}:bE [(bA,v),(bB,w)]:=aG.2 ⟨fun p hp=>by rw[aB.1 hp];exact VJ,cq ..⟩
theorem Pc{v w:ByteArray}(hv:v.size≤1)(hw:w.size≤1):∀p∈[(bA,v),(bB,w)],p.1.size≤40∧p.2.size≤40:=fun p hp=>by
 rcases az.1 hp with rfl|hp
 ·exact⟨(by decide:bA.size≤40),by simp only;omega⟩
 ·rw[aB.1 hp]
  exact⟨(by decide:bB.size≤40),by simp only;omega⟩
theorem Ha{v:ByteArray}(hv:v.size≤1):∀p∈[(bA,v)],p.1.size≤40∧p.2.size≤40:=fun p hp=>by
 rw[aB.1 hp];exact⟨(by decide:bA.size≤40),by simp only;omega⟩
end Go.Proofs
namespace Go.Proofs
open Go Go.Lift
def look(l:List Pr)(k:ByteArray):Option ByteArray:=(l.find? fun p=>decide (p.1=k)).map (·.2)
theorem Hu{l:List Pr}{k:ByteArray}(h:cx l k=false):look l k=none:=by
 unfold look;rw[Option.map_eq_none_iff,List.find?_eq_none];intro p hp;unfold cx at h;rw[List.any_eq_false]at h;exact h p hp
theorem qS:∀{l:List Pr} {k v:ByteArray},bE l→(k,v)∈l→look l k=some v
 |p::l,k,v,hr,h=>by
  have hr:=aG.1 hr;unfold look;rw[pa];rcases az.1 h with e|h
  ·subst e;simp
  ·have hne:p.1≠k:=fun e=>by
    have:=hr.1 _ h;simp only at this;rw[e]at this;exact bW _ this
   rw[decide_eq_false hne];exact qS hr.2 h
theorem Tc{l:List Pr}(hr:bE l){k v:ByteArray}(h1:cx l k=true→(k,v)∈l)(h2:cx l k=false→v=⟨#[]⟩):((look l k).getD ⟨#[]⟩,(look l k).isSome)=(v,cx l k):=by
 cases ht:cx l k with
 |true=>rw[qS hr (h1 ht)];rfl
 |false=>rw[Hu ht,h2 ht];rfl
theorem PA{x:Hs}{lev:Nat}{l:List Pr}{k:ByteArray}:look (part x lev (ck x lev k) l) k=look l k:=by
 unfold look part;congr 1
 rw[List.find?_filter];congr 1
 funext p;by_cases e:p.1=k
 ·rw[e];simp
 ·simp[e]
theorem Ll{W:Nat→Prop}{x:Hs}{h:ad}{b:Nat}{l:List Pr}(t:TrieAt W x h 13 b l)(hW:∀y,W y→y<h.size)(hr:bE l)(hn:l.length≤1000000)(k:ByteArray){K:ByteArray×Bool→ad→Prop}
  (hk:∀h',Upd No h h'→K ((look l k).getD ⟨#[]⟩,(look l k).isSome) h'):HC PG xZ [.agg #[.int .u64 x.k0,.int .u64 x.k1,.int .u64 x.mask],.pointer (some ⟨b,0,none⟩),.string k] [.c .str,.c .bool] K h:=by
 refine LG (x.k0,x.k1,x.mask) (some ⟨b,0,none⟩) k ?_;unfold DX ae au nv Dm zm nZ bX xu lx vp gm ll sS gC pZ;refine aM fun h1 b1 k1=>⟨_,vc b1 0,_,vc b1 1,_,vc b1 2,?_⟩
 refine yA fun h2 k2=>?_
 have k12:=k1.tr k2;refine Ik (.inr ⟨b,rfl,TrieAt.upd0 k12 t⟩) (fun y hy=>aE (hW y hy) k12.size) fun h3 b3 t3 k3 _=>?_
 have k13:=k12.tr k3;refine LoopP.ghost (fun(g:Nat×Nat×List Pr) (t:Option Addr×Int) h'=>t=(some ⟨g.2.1,0,none⟩,((13-g.1:Nat):Int))∧g.1≤13∧TrieAt W x h' g.1 g.2.1 g.2.2∧bE g.2.2∧g.2.2.length≤1000000∧look g.2.2 k=look l k∧Upd No h h') (fun g=>g.1) (13,b3,l)
  ⟨rfl,aq _,t3,hr,hn,rfl,k13⟩ ?_
 rintro I ⟨m,c,lm⟩ t h4 ⟨rfl,hm,tm,hrm,hnm,hlk,hu⟩ hI;simp only at hm tm hrm hnm hlk;rcases m with _|m
 ·obtain⟨sp,sk,ow,hb,_⟩:=BuckAt.ex tm
  refine gY hb (av.2 (Rn tm hrm (by omega) k fun h5 v k5 e1 e2=>?_))
  have:=hk h5 (hu.tr k5);rw[←hlk,Tc hrm e1 e2]at this;exact this
 ·obtain⟨s,nd,hs⟩:=tm
  have hs:∀c,c<32→SlotIs W x h4 m s c (part x (12-m) c lm):=hs;obtain⟨d,n,sp,sk,ow,hb,_⟩:=nd.ex;refine gY hb (aj.2 ?_);refine PV (by omega) ?_;rw[show 13-(m+1)=12-m by omega]
  have hi:=ya x (12-m) k;have hsi:=hs _ hi;have hlp:look (part x (12-m) (ck x (12-m) k) lm) k=look l k:=by rw[PA,hlk]
  have hrp:bE (part x (12-m) (ck x (12-m) k) lm):=iZ hrm;have hnp:(part x (12-m) (ck x (12-m) k) lm).length≤1000000:=bc mV hnm;generalize part x (12-m) (ck x (12-m) k) lm=lp at hsi hlp hrp hnp;generalize ck x (12-m) k=i at hi hsi;refine AF nd hi fun h5 k5=>?_
  refine xD fun h6 b6 k6=>?_
  have k46:=k5.tr k6;rcases hsi with⟨e0,e1,e2⟩|⟨p,e0,e1,e2⟩|⟨_,e1,kb,e2,tk⟩
  ·rw[e1]
   refine aj.2 (wA (nd.upd k46 fun _ h=>h.elim) hi ?_)
   rw[e2];refine av.2 ?_;have:=hk h6 (hu.tr k46);rw[←hlp,e0]at this;exact this
  ·rw[e1]at b6⊢
   refine av.2 ⟨p.1,vc b6 0,?_⟩;rw[gE];have:=hk h6 (hu.tr k46);rw[←hlp,e0]at this;by_cases e:p.1=k
   ·rw[decide_eq_true e]
    refine aj.2 ⟨p.2,vc b6 1,?_⟩;have e3:look [p] k=some p.2:=by unfold look;rw[pa,decide_eq_true e];rfl
    rw[e3]at this;exact this
   ·rw[decide_eq_false e]
    have e3:look [p] k=none:=by unfold look;rw[pa,decide_eq_false e];rfl
    rw[e3]at this;exact av.2 this
  ·rw[e1]
   refine aj.2 (wA (nd.upd k46 fun _ h=>h.elim) hi ?_)
   rw[e2];refine aj.2 ?_;have ew:IntKind.wrap .i64 (((13-(m+1):Nat):Int)+1)=((13-m:Nat):Int):=by rw[d8 (by omega)];omega
   rw[show 13-(m+1)=12-m by omega]at ew
   show I (some ⟨kb,0,none⟩,IntKind.wrap .i64 (((12-m:Nat):Int)+1)) h6
   rw[ew];exact hI (m,kb,lp) _ h6 ⟨rfl,by simp only;omega,TrieAt.upd0 k46 tk,hrp,hnp,hlp,hu.tr k46⟩ (by simp only;omega)
abbrev Sd:=ByteArray×Bool
abbrev qD(s:Sd):List Value:= [.string s.1,.bool s.2]
theorem QT(a b:Sd):((a.1.toList==b.1.toList)&&((a.2==b.2)&&true))=decide (a=b):=by
 rw[gE];by_cases e:a=b
 ·subst e;simp
 ·rw[decide_eq_false e]
  obtain⟨a1,a2⟩:=a;obtain⟨b1,b2⟩:=b;simp only[Prod.mk.injEq]at e;rw[Bool.eq_false_iff];intro h;simp only[bd,decide_eq_true_iff,beq_iff_eq,and_true]at h;exact e h
theorem Vg{h:ad}{t:TypeId}{s:Sd}{k:ad→Prop}(hk:∀h',h'[h.size]? =some (.cells (qD s).toArray t (0,0))→Upd No h h'→k h'):
  At (hnew h [.string (⟨#[]⟩:ByteArray),.bool false] t) fun h8=>qE h8 (some (ag h)) 0 (qD s)∧At (fk h8 (ag h) 0 (qD s)) k:=
 aM fun h1 b1 k1=>be (c:= [.string (⟨#[]⟩:ByteArray),.bool false]) (vs:=qD s) b1 rfl fun h2 b2 hu2=>hk h2 b2 (k1.own hu2 (aq _))
def EK(b o t:Sd)(p:Int):Sd×Bool:=if o=t∨t=b then(o,true)else if o=b then(t,true)else if p=1 then(o,false)else if p=2 then(t,false)else(b,false)
theorem Kz{h:ad}{b:Nat}{t:TypeId}{c:List Value}{s:Sd}{g:Bool}{K:Sd×Bool→ad→Prop}(hb:h[b]? =some (.cells c.toArray t (0,0))) (hc:c.length=2) (hk:∀h',Upd (· =b) h h'→K (s,g) h'):
  qE h (some ⟨b,0,none⟩) 0 [.string s.1,.bool s.2]∧At (fk h ⟨b,0,none⟩ 0 [.string s.1,.bool s.2]) (fun h'=>∃v1:ByteArray,aS h' (adr ⟨b,0,none⟩ 0)=some (.string v1)∧∃v2:Bool,aS h' (adr ⟨b,0,none⟩ 1)=some (.bool v2)∧K ((v1,v2),g) h'):=
 be (c:=c) (vs:=qD s) hb (by rw[hc];rfl) fun h2 b2 hu2=>⟨s.1,vc b2 0,s.2,vc b2 1,hk h2 hu2⟩
theorem Re{b o t:Sd}{p:Int}{h:ad}{K:Sd×Bool→ad→Prop}(hk:∀h',Upd No h h'→K (EK b o t p) h'):HC PG wM [.agg #[.string b.1,.bool b.2],.agg #[.string o.1,.bool o.2],.agg #[.string t.1,.bool t.2],.int .i64 p] [.agg [.str,.bool],.c .bool] K h:=by
 refine Js b o t p ?_;unfold BF au cp uT pO ft UO;refine aM fun h1 b1 k1=>aM fun h2 b2 k2=>aM fun h3 b3 k3=>aM fun h4 b4 k4=>?_
 have c1:=k4.get0 (k3.get0 (k2.get0 b1));have c2:=k4.get0 (k3.get0 b2);have c3:=k4.get0 b3;have s3:h.size≤h3.size:=((k1.tr k2).tr k3).size;have k04:Upd No h h4:=((k1.tr k2).tr k3).tr k4;have fin:∀{h'} (s:Sd) (g:Bool),EK b o t p=(s,g)→Upd (· =h3.size) h4 h'→K (s,g) h':=fun s g e hu=>by rw[←e];exact hk _ (k04.own hu s3)
 unfold EK at fin;refine Join.intro (fun t' h'=>h'=h4∧t'=decide (o=t∨t=b)) (fun R hR=>?_) ?_
 ·refine⟨o.1,vc c2 0,o.2,vc c2 1,t.1,vc c3 0,t.2,vc c3 1,?_⟩
  rw[QT o t];by_cases e:o=t
  ·rw[decide_eq_true e]
   exact av.2 (hR _ _ ⟨rfl,(decide_eq_true (.inl e)).symm⟩)
  ·rw[decide_eq_false e]
   refine aj.2 ⟨t.1,vc c3 0,t.2,vc c3 1,b.1,vc c1 0,b.2,vc c1 1,hR _ _ ⟨rfl,?_⟩⟩;rw[QT t b,decide_eq_decide];exact⟨.inr,fun h=>h.elim (fun h=>absurd h e) id⟩
 rintro t' h' ⟨rfl,rfl⟩;refine aA (fun e=>?_) fun e=>?_
 ·rw[if_pos e]at fin
  exact⟨o.1,vc c2 0,o.2,vc c2 1,Kz (s:=o) b4 rfl fun h5 hu=>fin _ _ rfl hu⟩
 rw[if_neg e]at fin;refine⟨o.1,vc c2 0,o.2,vc c2 1,b.1,vc c1 0,b.2,vc c1 1,?_⟩;rw[QT o b];refine aA (fun e=>?_) fun e=>?_
 ·rw[if_pos e]at fin
  exact⟨t.1,vc c3 0,t.2,vc c3 1,Kz (s:=t) b4 rfl fun h5 hu=>fin _ _ rfl hu⟩
 rw[if_neg e]at fin;refine CondP.intro (fun e=>?_) fun e=>?_
 ·rw[if_pos (by simpa using e)]at fin
  exact⟨o.1,vc c2 0,o.2,vc c2 1,Kz (s:=o) b4 rfl fun h5 hu=>fin _ _ rfl hu⟩
 rw[if_neg (by simpa using e)]at fin;refine CondP.intro (fun e=>?_) fun e=>?_
 ·rw[if_pos (by simpa using e)]at fin
  exact⟨t.1,vc c3 0,t.2,vc c3 1,Kz (s:=t) b4 rfl fun h5 hu=>fin _ _ rfl hu⟩
 ·rw[if_neg (by simpa using e)]at fin
  exact⟨b.1,vc c1 0,b.2,vc c1 1,Kz (s:=b) b4 rfl fun h5 hu=>fin _ _ rfl hu⟩
abbrev Vl:ByteArray:=⟨#[102,97,105,108]⟩
abbrev Vj:ByteArray:=⟨#[111,117,114,115]⟩
abbrev S6:ByteArray:=⟨#[116,104,101,105,114,115]⟩
abbrev Vk:ByteArray:=⟨#[107,101,101,112]⟩
def Ox(p:Int):ByteArray:=if p=0 then Vl else if p=1 then Vj else if p=2 then S6 else if p=3 then Vk else⟨#[]⟩
theorem Rf{p:Int}{h:ad}{K:ByteArray→ad→Prop}(hk:K (Ox p) h):HC PG wN [.int .i64 p] [.c .str] K h:=by
 refine Jt p ?_;unfold BG;unfold Ox at hk;refine CondP.intro (fun e=>?_) fun e=>?_
 ·rw[if_pos (by simpa using e)]at hk;exact hk
 rw[if_neg (by simpa using e)]at hk;refine CondP.intro (fun e=>?_) fun e=>?_
 ·rw[if_pos (by simpa using e)]at hk;exact hk
 rw[if_neg (by simpa using e)]at hk;refine CondP.intro (fun e=>?_) fun e=>?_
 ·rw[if_pos (by simpa using e)]at hk;exact hk
 rw[if_neg (by simpa using e)]at hk;refine CondP.intro (fun e=>?_) fun e=>?_
 ·rw[if_pos (by simpa using e)]at hk;exact hk
 ·rw[if_neg (by simpa using e)]at hk;exact hk
end Go.Proofs
namespace Go.Proofs
open Go Go.Lift
def mG(k:ByteArray)(l:List Pr):List Pr:=l.filter fun q=>decide (q.1≠k)
theorem vz(k:ByteArray)(q:Pr)(l:List Pr):mG k (q::l)=if q.1=k then mG k l else q::mG k l:=by
 unfold mG;rw[List.filter_cons];by_cases h:q.1=k
 ·rw[if_pos h,if_neg (by simpa using h)]
 ·rw[if_neg h,if_pos (by simpa using h)]
theorem x9{k:ByteArray}{l:List Pr}(h:∀q∈l,q.1≠k):mG k l=l:=kJ.2 fun q hq=>decide_eq_true (h q hq)
theorem Au{k:ByteArray}{l:List Pr}(h:cx l k=false):∀q∈l,q.1≠k:=fun q hq e=>by
 have:cx l k=true:=cr.2 ⟨q,hq,decide_eq_true e⟩;rw[h]at this;cases this
theorem xC{k:ByteArray}{l:List Pr}(h:∀q∈l,q.1≠k):cx l k=false:=by
 rcases ht:cx l k with _|_
 ·rfl
 ·obtain⟨q,hq,e⟩:=cr.1 ht
  exact absurd (of_decide_eq_true e) (h q hq)
theorem Hf{k:ByteArray}{l:List Pr}(hr:bE l):bE (mG k l):=hr.sublist List.filter_sublist
theorem IP{k:ByteArray}{l:List Pr}{p:Pr}:p∈mG k l↔p∈l∧p.1≠k:=by unfold mG;rw[List.mem_filter,decide_eq_true_iff]
theorem RD{k:ByteArray}{l:List Pr}:(mG k l).length≤l.length:=List.length_filter_le ..
theorem OL{k:ByteArray}:∀{l:List Pr},bE l→l.length≤(mG k l).length+1
 | [],_=>bw _
 |q::l,hr=>by
  have hr:=aG.1 hr;rw[vz];by_cases h:q.1=k
  ·rw[if_pos h,x9 fun r hm e=>by have:=hr.1 r hm;rw[h,e]at this;exact bW _ this];exact aq _
  ·rw[if_neg h]
   have:=OL (k:=k) hr.2;simp only[ak];omega
theorem OM(k:ByteArray):∀{l:List Pr},bE l→PN l k=mG k l
 | [],_=>by simp[PN,mG,cx]
 |q::l,hr=>by
  have hr':=hr;have hr:=aG.1 hr;have hpos:pg (q::l) k=if kl q.1 k then pg l k+1 else 0:=by
   unfold pg;rw[List.takeWhile_cons];by_cases h:kl q.1 k
   ·rw[if_pos (by simpa using h),if_pos h];rfl
   ·rw[if_neg (by simpa using h),if_neg h];rfl
  have hth:cx (q::l) k=(decide (q.1=k)||cx l k):=by unfold cx;rw[rA]
  by_cases h:kl q.1 k
  ·have hne:q.1≠k:=fun e=>by rw[e]at h;exact bW _ h
   rw[vz,if_neg hne,←OM k hr.2];unfold PN;rw[hth,hpos,if_pos h,decide_eq_false hne,Bool.false_or];by_cases ht:cx l k=true
   ·rw[if_pos ht,if_pos ht];rfl
   ·rw[if_neg ht,if_neg ht]
  ·by_cases e:q.1=k
   ·have hno:∀r∈l,r.1≠k:=fun r hm e2=>by have:=hr.1 r hm;rw[e,e2]at this;exact bW _ this
    rw[vz,if_pos e,x9 hno];unfold PN;rw[hth,hpos,if_neg h,decide_eq_true e,Bool.true_or,if_pos rfl];rfl
   ·have hgt:=ph h e
    have hno:∀r∈q::l,r.1≠k:=fun r hm e2=>by
     rcases az.1 hm with rfl|hm
     ·exact e e2
     ·have:=hr.1 r hm
      rw[e2]at this;exact bW _ (fE hgt this)
    rw[x9 hno];unfold PN;rw[xC hno];rfl
theorem Ku{x:Hs}{lev c:Nat}{k:ByteArray}{l:List Pr}:part x lev c (mG k l)=mG k (part x lev c l):=by
 unfold part mG;rw[List.filter_filter,List.filter_filter];exact qx fun p _=>Bool.and_comm ..
theorem Pt{x:Hs}{lev c:Nat}{k:ByteArray}{l:List Pr}(h:c≠ck x lev k):part x lev c (mG k l)=part x lev c l:=by
 rw[Ku];exact x9 fun q hq e=>h (by rw[←e];exact(mX.1 hq).2.symm)
theorem L5{W:Nat→Prop}{x:Hs}{h h':ad}{m b':Nat}{s s':Slots}{l:List Pr}{k:ByteArray}(hu:Upd No h h')(nd:NodeAt W h' b' s')(hs:∀c,c<32→SlotIs W x h m s c (part x (12-m) c l))
  (hp:∀c,c≠ck x (12-m) k→s'.p c=s.p c∧s'.k c=s.k c)(hi:SlotIs W x h' m s' (ck x (12-m) k) (mG k (part x (12-m) (ck x (12-m) k) l))):TrieAt W x h' (m+1) b' (mG k l):=by
 refine⟨s',nd,fun c hc=>?_⟩
 by_cases e:ck x (12-m) k=c
 ·rw[Ku];subst e;exact hi
 ·rw[Pt fun h=>e h.symm]
  have t:=SlotIs.upd0 hu (hs c hc);obtain⟨e1,e2⟩:=hp c fun h=>e h.symm
  unfold SlotIs at t;rw[←e1,←e2]at t;exact t
theorem OI{β:Type}(g:Nat→Option β):∀n,(fm g n).length=((List.range n).map fun c=>(g c).toList.length).sum
 |0=>rfl
 |n+1=>by
  rw[sK,ac,OI g n,List.range_succ,List.map_append,List.sum_append];simp
theorem JW{x:Hs}{lev:Nat}{l:List Pr}(h:∀c,c<32→(part x lev c l).length≤1):(kN x lev l).length=l.length:=by
 unfold kN;rw[OI];have e:=yw x lev l 32;have e2:(l.filter fun p=>decide (ck x lev p.1<32))=l:=kJ.2 fun p _=>decide_eq_true (ya x lev p.1)
 rw[e2]at e;rw[←e];refine congrArg List.sum (List.map_congr_left fun c hc=>?_)
 have:=h c (gN.1 hc);match hp:part x lev c l with
 | []=>rfl
 | [p]=>rfl
 |a::b::r=>rw[hp]at this;simp at this
theorem L6{W:Nat→Prop}{x:Hs}{h:ad}{m b:Nat}{l:List Pr}(t:TrieAt W x h m b l)(hn:l.length≤1000000):
  ∃d n sp sk bu ow lp lk,h[b]? =some (.cells (fg d n sp sk bu ow) bD (0,0))∧Sl eu 2 W h sp lp∧Sl rH 1 W h sk lk∧lp.length≤1000000∧lk.length≤32∧(lp.length+lk.length=1∧n=0↔l.length=1)∧∀p,l= [p]→lp= [p]:=by
 cases m with
 |zero=>
  obtain⟨sp,sk,ow,hb,hsp,hsk,_⟩:=BuckAt.ex t;exact⟨0,0,sp,sk,true,ow,l,[],hb,hsp,hsk,hn,by simp,by simp,fun p e=>e⟩
 |succ m=>
  obtain⟨s,nd,hs⟩:=t;have hs:∀c,c<32→SlotIs W x h m s c (part x (12-m) c l):=hs;obtain⟨d,n,sp,sk,ow,hb,bits,hsp,hsk,_⟩:=nd.ex;have hso:=Il hs;have hl32:=yW (g:=s.p);refine⟨d,n,sp,sk,false,ow,_,_,hb,hsp,hsk,by omega,yW,?_,?_⟩
  ·by_cases hk:∀c,c<32→s.k c=none
   ·have e0:n=0:=Nat.eq_of_testBit_eq fun c=>by
     rw[nV];by_cases hc:c<32
     ·rw[bits.nk c hc,hk c hc];rfl
     ·exact Nat.testBit_lt_two_pow (aE bits.n32 (Nat.pow_le_pow_right (n:=2) (by omega) (by omega:32≤c)))
    have ek:fm s.k 32= []:=by
     unfold fm;rw[List.filterMap_eq_nil_iff];exact fun c hc=>hk c (gN.1 hc)
    have el:(fm s.p 32).length=l.length:=by
     rw[hso];refine JW fun c hc=>?_
     rcases hs c hc with⟨h0,_⟩|⟨p,h0,_⟩|⟨_,_,kb,h2,_⟩
     ·rw[h0];simp
     ·rw[h0];simp
     ·rw[hk c hc]at h2;cases h2
    rw[ek,el,e0];simp
   ·obtain⟨c,hc⟩:=Classical.not_forall.1 hk
    obtain⟨hc,hkc⟩:=Classical.not_imp.1 hc;have hne:n≠0:=fun e0=>by
     have:=bits.nk c hc;rw[e0,nV]at this;cases hkk:s.k c with
     |none=>exact hkc hkk
     |some y=>rw[hkk]at this;cases this
    rcases hs c hc with⟨_,_,h0⟩|⟨p,_,_,h0⟩|⟨h2,_⟩
    ·exact absurd h0 hkc
    ·exact absurd h0 hkc
    ·have:=mV (x:=x) (lev:=12-m) (c:=c) (l:=l)
     constructor
     ·rintro⟨_,e⟩;exact absurd e hne
     ·intro e;omega
  ·rintro p rfl
   rw[hso];have hc:=ya x (12-m) p.1;have el:(kN x (12-m) [p]).length=1:=JW fun c _=>bc mV (by simp)
   match hq:kN x (12-m) [p],el with
   | [q],_=>
    have:q∈kN x (12-m) [p]:=by rw[hq];exact aB.2 rfl
    rw[aB.1 (sQ this)]
theorem S7{h:ad}{b d n:Nat}{sp sk:SliceV}{bu:Bool}{ow:Option Addr}(hb:h[b]? =some (.cells (fg d n sp sk bu ow) bD (0,0))) (hl:sp.len+sk.len≤1000000000) {K:Int→ad→Prop} (hk:K ((sp.len+sk.len:Nat):Int) h):HC PG lU [.pointer (some ⟨b,0,none⟩)] [.c (.int .i64)] K h:=by
 refine xf _ ?_;unfold sr cd;refine aj.2 ⟨_,rfl,sp,eJ (i:=2) hb,_,rfl,sk,eJ (i:=3) hb,?_⟩;have e:IntKind.wrap .i64 ((sp.len:Int)+(sk.len:Int))=((sp.len+sk.len:Nat):Int):=by rw[d8 (by omega)];omega
 rw[e];exact hk
theorem Sc{W:Nat→Prop}{x:Hs}{h:ad}{m b:Nat}{l:List Pr}(t:TrieAt W x h m b l)(hn:l.length≤1000000){K:Pr×Bool→ad→Prop}
  (hk:∀h' p,Upd No h h'→(l.length=1→l= [p])→K (p,decide (l.length=1)) h'):HC PG u4 [.pointer (some ⟨b,0,none⟩)] [.agg [.str,.str],.c .bool] K h:=by
 refine GQ _ ?_;unfold zh cj aD au cp nZ jH bX kQ;refine aM fun h1 b1 k1=>?_
 have t1:=TrieAt.upd0 k1 t;obtain⟨d,n,sp,sk,bu,ow,lp,lk,hb,hsp,hsk,h1l,h2l,hiff,hone⟩:=L6 t1 hn;have l1:=hsp.len;have l2:=hsk.len;refine Join.intro (fun t h'=>t= !decide (l.length=1)∧h'=h1) (fun R hR=>?_) ?_
 ·refine S7 hb (by omega) ?_
  by_cases e:sp.len+sk.len=1
  ·have e2:((sp.len+sk.len:Nat):Int)=1:=by omega
   rw[e2];refine aj.2 (Fa hb (hR _ _ ⟨?_,rfl⟩));by_cases e0:n=0
   ·rw[decide_eq_true (hiff.1 ⟨by omega,e0⟩),e0];rfl
   ·rw[decide_eq_false fun h=>e0 (hiff.2 h).2]
    exact bne_iff_ne.2 (by omega)
  ·have e2:(((sp.len+sk.len:Nat):Int) !=(1:Int))=true:=bne_iff_ne.2 (by omega)
   rw[e2];refine av.2 (hR _ _ ⟨?_,rfl⟩);rw[decide_eq_false fun h=>e (by have:=(hiff.2 h).1;omega)];rfl
 ·rintro _ h' ⟨rfl,rfl⟩
  have b1':h'[h.size]? =some (.cells #[.string LQ.1,.string LQ.2] af (0,0)):=b1;by_cases e:l.length=1
  ·rw[decide_eq_true e]
   refine aj.2 ?_;refine sZ hb hsp (by omega) fun s2 h2 ho2 hu2=>?_
   match l,e,hone with
   | [p],e,hone=>
    have hlp:=hone p rfl;subst hlp;have hlen:=ho2.len;obtain⟨a,ha,_,hv⟩:=(ho2.sl (W:=No) fun _ _ _ h=>h).at (i:=0) (x:=p) rfl
    refine⟨⟨by omega,by simp at hlen;omega⟩,a,ha,p.1,hv 0 _ rfl,p.2,hv 1 _ rfl,?_⟩
    refine Dk (p:=p) (hu2.get0 b1') fun h3 b3 hu3=>⟨_,vc b3 0,_,vc b3 1,?_⟩
    have:=hk h3 p ((k1.tr hu2).own hu3 (aq _)) fun _=>rfl
    exact this
  ·have:=hk
   rw[decide_eq_false e];rw[decide_eq_false e]at hk;refine av.2 (Dk (p:=LQ) b1' fun h3 b3 hu3=>⟨_,vc b3 0,_,vc b3 1,?_⟩)
   exact hk h3 _ (k1.own hu3 (aq _)) fun h=>absurd h e
end Go.Proofs
namespace Go.Proofs
open Go Go.Lift
theorem Ky{h:ad}{s:SliceV}{l:List Pr}(hs:Sl eu 2 No h s l)(hc:s.len≤s.cap)(hr:bE l)(hn:l.length≤1000000000)(k:ByteArray)
  {K:SliceV→ad→Prop}(hk:∀s' h',OwnS eu 2 af (fun b=>h.size≤b) h' s' (mG k l)→Upd No h h'→K s' h'):HC PG xV [.slice s.a s.len s.cap,.string k] [.c .slice] K h:=by
 refine Lx s k ?_;unfold DN qJ ja;have hlen:=hs.len;refine IW hs hr hn k fun h2 hu2=>?_
 have hp:=Q8 l k;cases ht:cx l k with
 |false=>
  refine av.2 (vD (hs.upd hu2 fun _ h=>h.elim) (by omega) fun s3 h3 ho3 hu3=>?_)
  rw[x9 (Au ht)]at hk;exact hk _ _ (ho3.more fun b hb=>bc hu2.size hb) (hu2.tr hu3)
 |true=>
  obtain⟨hlt,_⟩:=IE hr ht;have ew:IntKind.wrap .i64 ((pg l k:Int)+1)=((pg l k+1:Nat):Int):=by rw[d8 (by omega)];omega
  refine aj.2 ?_;simp only;rw[ew];refine⟨by omega,by omega,?_⟩
  simp only[Bd,aX];refine bq ?_;have hs2:=hs.upd hu2 fun _ h=>h.elim
  have k4:=Upd.hnew No h2 [.slice (aW s.a 0 s.cap 2) (pg l k-0) (s.cap-0),.slice (aW s.a (pg l k+1) s.cap 2) (s.len-(pg l k+1)) (s.cap-(pg l k+1))] cB;have b4:=bZ h2 [.slice (aW s.a 0 s.cap 2) (pg l k-0) (s.cap-0),.slice (aW s.a (pg l k+1) s.cap 2) (s.len-(pg l k+1)) (s.cap-(pg l k+1))] cB;have hA:=Im hs2 (i:=0) (j:=pg l k) (m:=s.cap) (bw _) hp (by omega) (s.cap-0)
  have hC:=Im hs2 (i:=pg l k+1) (j:=l.length) (m:=s.cap) (by omega) (aq _) (by omega) (s.cap-(pg l k+1));rw[←hlen]at hC;rw[cP]at hA;rw[List.take_of_length_le (by rw[aU];omega)]at hC;have e0:mG k l= [l.take (pg l k-0),l.drop (pg l k+1)].flatten:=by rw[←OM k hr];unfold PN;rw[if_pos ht];simp
  refine HS (s:=⟨some (ag h2),2,2⟩) (vs:= [⟨aW s.a 0 s.cap 2,pg l k-0,s.cap-0⟩,⟨aW s.a (pg l k+1) s.cap 2,s.len-(pg l k+1),s.cap-(pg l k+1)⟩]) (ls:= [l.take (pg l k-0),l.drop (pg l k+1)])
   ⟨rfl,fun x=>⟨rfl,pM⟩,fun _=>⟨_,rfl,fun h=>h.elim,oV b4 fun i v hv=>by simpa[VR]using hv⟩⟩ ⟨hA.upd k4 fun _ h=>h.elim,hC.upd k4 fun _ h=>h.elim,trivial⟩ ?_ (by simp) fun s5 h5 ho5 hu5=>?_
  ·simp only[List.flatten_cons,List.flatten_nil,ac,aQ,aU,aJ];omega
  ·rw[←e0]at ho5
   have hu:=hu2.tr k4;exact hk _ _ (ho5.more fun b hb=>bc hu.size hb) (hu.tr hu5)
theorem RV{W:Nat→Prop}{h:ad}{b:Nat}{l:List Pr}(bk:BuckAt W h b l)(hW:∀x,W x→x<h.size)(hr:bE l)(hn:l.length≤1000000000)(k:ByteArray){K:Option Addr→ad→Prop}
  (hk:∀h' b',BuckAt W h' b' (mG k l)→Upd No h h'→K (some ⟨b',0,none⟩) h'):
  HC PG qX [.pointer (some ⟨b,0,none⟩),.pointer none,.string k] [.c .ptr] K h:=by
 refine CM _ none k ?_;unfold vU cd dU qJ mN;obtain⟨sp,sk,ow,hb,hsp,hsk,hcp,hck⟩:=bk.ex;refine gY hb (aj.2 ?_);refine Ou bk hn fun h2 s2 t2 b2 hA hB hu2=>?_
 refine⟨_,rfl,s2,eJ (i:=2) b2,?_⟩;refine Ky (hA.sl fun _ _ _ h=>h) hA.cap hr hn k fun s3 h3 ho3 hu3=>?_
 have b3:=hu3.get0 b2;refine⟨_,rfl,Sq (i:=2) b3 (show 2<6 by decide),Gt (i:=2) (c':=fg 0 0 s3 t2 true none) b3 rfl fun h4 b4 hu4=>?_⟩
 have z2:=aO b2;have ho4:=ho3.upd hu4 fun x hx e=>by have e:x=h.size:=e;omega
 have hB4:=(hB.upd hu3 fun _ _ h=>h).upd hu4 fun x hx e=>by have e:x=h.size:=e;omega
 refine hk h4 h.size ⟨⟨s3,t2,none,b4,ho4.sl fun x hx _ hw=>?_,hB4.sl fun x hx _ hw=>?_,ho3.cap,hB.cap⟩,fun hw=>?_⟩ ((hu2.tr hu3).trans hu4 fun x hx=>.inr ?_)
 ·have:=hW x hw;have:=hu2.size;omega
 ·have:=hW x hw;omega
 ·have:=hW _ hw;omega
 ·have hx:x=h.size:=hx
  omega
theorem Lm{W:Nat→Prop}{x:Hs}:∀(m:Nat),m≤13→∀{b:Nat} {l:List Pr} (k:ByteArray) {h:ad},TrieAt W x h m b l→(∀y,W y→y<h.size)→bE l→l.length≤1000000→∀{K:(Option Addr)×Bool→ad→Prop},
  (∀h' b',Upd No h h'→TrieAt W x h' m b' (mG k l)→(cx l k=false→b'=b)→K (some ⟨b',0,none⟩,cx l k) h')→
  HC PG mA [Qq x k,.pointer (some ⟨b,0,none⟩),.int .i64 ((13-m:Nat):Int)] [.c .ptr,.c .bool] K h:=by
 intro m;induction m with
 |zero=>
  intro _ b l k h t hW hr hn K hk;have gW:∀{h'},Upd No h h'→∀y,W y→y<h'.size:=fun k y hy=>aE (hW y hy) k.size
  refine uv (x.k0,x.k1,x.mask,none,k,gp x k) (some ⟨b,0,none⟩) ((13-0:Nat):Int) ?_;unfold qm ae ax au nv nZ bX xu lx vp qF gm DY ll sS pZ zl zk Ia IG;refine aM fun h1 b1 k1=>?_
  have bk:BuckAt W h1 b l:=BuckAt.upd t k1 fun _ h=>h.elim
  obtain⟨sp,sk,ow,hb,_⟩:=bk.ex;refine gY hb (av.2 ⟨_,vc b1 4,TR bk hr (by omega) k fun h3 v hu3 hv=>?_⟩)
  have b3:=hu3.get0 b1;cases ht:cx l k with
  |false=>
   rw[ht]at hk;exact av.2 (hk h3 b (k1.tr hu3) (by rw[x9 (Au ht)];exact bk.upd hu3 fun _ h=>h.elim) fun _=>rfl)
  |true=>
   rw[ht]at hk;refine aj.2 ⟨none,vc b3 3,_,vc b3 4,?_⟩;refine RV (bk.upd hu3 fun _ h=>h.elim) (gW (k1.tr hu3)) hr (by omega) k fun h5 b5 bk5 hu5=>?_
   exact hk h5 b5 ((k1.tr hu3).tr hu5) bk5 fun h=>by cases h
 |succ m ih=>
  intro hm b l k h t hW hr hn K hk;have gW:∀{h'},Upd No h h'→∀y,W y→y<h'.size:=fun k y hy=>aE (hW y hy) k.size
  have hl:13-(m+1)<13:=by omega
  have hlev:13-(m+1)=12-m:=by omega
  refine uv (x.k0,x.k1,x.mask,none,k,gp x k) (some ⟨b,0,none⟩) ((13-(m+1):Nat):Int) ?_;unfold qm ae ax au nv nZ bX xu lx vp qF gm DY ll sS pZ zl zk Ia IG;refine aM fun h1 b1 k1=>?_
  have t1:=TrieAt.upd0 k1 t;obtain⟨s,nd1,hs⟩:=t1;have hs:∀c,c<32→SlotIs W x h1 m s c (part x (12-m) c l):=hs;obtain⟨d,n,sp,sk,ow,hb,_⟩:=nd1.ex;refine gY hb (aj.2 ⟨_,vc b1 5,PV hl ?_⟩);rw[hlev];have hi:=ya x (12-m) k;have hsi:=hs _ hi;have htp:cx (part x (12-m) (ck x (12-m) k) l) k=cx l k:=EH;have hrp:bE (part x (12-m) (ck x (12-m) k) l):=iZ hr;have hnp:(part x (12-m) (ck x (12-m) k) l).length≤1000000:=bc mV hn
  have hturn:∀{h':ad} {b':Nat} {s':Slots},Upd No h1 h'→NodeAt W h' b' s'→(∀c,c≠ck x (12-m) k→s'.p c=s.p c∧s'.k c=s.k c)→SlotIs W x h' m s' (ck x (12-m) k) (mG k (part x (12-m) (ck x (12-m) k) l))→TrieAt W x h' (m+1) b' (mG k l):=fun hu nd hp hi=>L5 hu nd hs hp hi
  have tt:∀{h':ad},Upd No h1 h'→TrieAt W x h' (m+1) b l:=fun hu=>TrieAt.upd0 (k1.tr hu) t
  generalize hc:ck x (12-m) k=c at*;generalize hlc:part x (12-m) c l=lc at*;refine AF nd1 hi fun h3 hu3=>?_
  refine aM fun h4 b4 k4=>?_
  have b4':h4[h3.size]? =some (.cells #[.string LQ.1,.string LQ.2] af (0,0)):=b4;refine Dk (p:=Ro (s.p c)) b4' fun h5 b5 hu5=>?_
  have hu15:Upd No h1 h5:=(hu3.tr k4).own hu5 hu3.size;have c1:=hu15.get0 b1;have nd5:=nd1.upd hu15 fun _ h=>h.elim
  have same:∀{h':ad},Upd No h1 h'→cx l k=false→K (some ⟨b,0,none⟩,false) h':=fun hu ht=>by
   have:=hk _ b (k1.tr hu) (by rw[x9 (Au ht)];exact tt hu) fun _=>rfl
   rw[ht]at this;exact this
  cases hsp:s.p c with
  |some y=>
   rw[hsp]at b5;obtain⟨hone,hk0⟩:lc= [y]∧s.k c=none:=by
    rcases hsi with⟨_,h2,_⟩|⟨q,h1,h2,h3⟩|⟨_,h2,_⟩
    ·rw[hsp]at h2;cases h2
    ·rw[hsp]at h2;cases h2;exact⟨h1,h3⟩
    ·rw[hsp]at h2;cases h2
   refine av.2 ⟨y.1,vc b5 0,k,vc c1 4,?_⟩;rw[gE];by_cases e1:y.1=k
   ·have ht:cx l k=true:=by rw[←htp,hone];exact cr.2 ⟨y,aB.2 rfl,decide_eq_true e1⟩
    rw[decide_eq_true e1];rw[ht]at hk;refine aj.2 ⟨none,vc c1 3,RJ nd5 (gW (k1.tr hu15)) hi fun h6 b6 nd6 hu6=>?_⟩
    refine hk h6 b6 ((k1.tr hu15).tr hu6) (hturn (hu15.tr hu6) nd6 (fun c' hc'=>⟨fp hc',fp hc'⟩) ?_) fun h=>by cases h
    refine .inl ⟨?_,fV,fV⟩;rw[hone,vz,if_pos e1];rfl
   ·rw[decide_eq_false e1]
    have ht:cx l k=false:=by
     rw[←htp,hone];unfold cx;rw[rA,decide_eq_false e1];rfl
    exact av.2 (same hu15 ht)
  |none=>
   refine aj.2 (wA nd5 hi ?_);cases hsk:s.k c with
   |none=>
    have hlc0:lc= []:=by
     rcases hsi with⟨h1,_⟩|⟨q,_,h2,_⟩|⟨_,_,kb,h2,_⟩
     ·exact h1
     ·rw[hsp]at h2;cases h2
     ·rw[hsk]at h2;cases h2
    exact av.2 (same hu15 (by rw[←htp,hlc0];rfl))
   |some kp=>
    obtain⟨h2l,kb,rfl,tk⟩:2≤lc.length∧∃kb,kp=some ⟨kb,0,none⟩∧TrieAt W x h1 m kb lc:=by
     rcases hsi with⟨_,_,h2⟩|⟨q,_,h2,_⟩|⟨h1,_,kb,h2,h3⟩
     ·rw[hsk]at h2;cases h2
     ·rw[hsp]at h2;cases h2
     ·rw[hsk]at h2;cases h2;exact⟨h1,kb,rfl,h3⟩
    refine aj.2 ⟨_,vc c1 0,_,vc c1 1,_,vc c1 2,_,vc c1 3,_,vc c1 4,_,vc c1 5,?_⟩;have ew:IntKind.wrap .i64 (((12-m:Nat):Int)+1)=((13-m:Nat):Int):=by rw[d8 (by omega)];omega
    rw[ew];refine ih (by omega) k (TrieAt.upd0 hu15 tk) (gW (k1.tr hu15)) hrp hnp fun h6 b6 hu6 t6 hsame=>?_
    have hu16:=hu15.tr hu6;rw[htp];cases ht:cx l k with
    |false=>exact av.2 (same hu16 ht)
    |true=>
     rw[ht]at hk;have hdl:=OL (k:=k) hrp;have hdn:(mG k lc).length≤1000000:=bc RD hnp;refine aj.2 (Sc t6 hdn fun h7 p hu7 hp=>?_)
     refine aM fun h8 b8 k8=>?_
     have b8':h8[h7.size]? =some (.cells #[.string LQ.1,.string LQ.2] af (0,0)):=b8;refine Dk (p:=p) b8' fun h9 b9 hu9=>?_
     have hu19:Upd No h1 h9:=((hu16.tr hu7).tr k8).own hu9 (hu16.tr hu7).size;have c9:=hu19.get0 b1;have nd9:=nd1.upd hu19 fun _ h=>h.elim
     refine aA (fun e=>?_) fun e=>?_
     ·refine⟨none,vc c9 3,p.1,vc b9 0,p.2,vc b9 1,qN nd9 (gW (k1.tr hu19)) hi (fun y hy=>by rw[hsp]at hy;cases hy) p fun h10 b10 nd10 hu10=>?_⟩
      refine hk h10 b10 ((k1.tr hu19).tr hu10) (hturn (hu19.tr hu10) nd10 (fun c' hc'=>⟨fp hc',fp hc'⟩) ?_) fun h=>by cases h
      exact .inr (.inl ⟨p,hp e,fV,fV⟩)
     ·refine⟨none,vc c9 3,vm nd9 (gW (k1.tr hu19)) hi (fun _ _=>hsp) ⟨b6,0,none⟩ fun h10 b10 nd10 hu10=>?_⟩
      refine hk h10 b10 ((k1.tr hu19).tr hu10) (hturn (hu19.tr hu10) nd10 (fun c' hc'=>⟨fp hc',fp hc'⟩) ?_) fun h=>by cases h
      exact .inr (.inr ⟨by omega,fV,b6,fV,TrieAt.upd0 ((hu7.tr k8).own hu9 hu7.size|>.tr hu10) t6⟩)
theorem Jd{W:Nat→Prop}{x:Hs}{h:ad}{b:Nat}{l:List Pr}(t:TrieAt W x h 13 b l)(hW:∀y,W y→y<h.size)(hr:bE l)(hn:l.length≤1000000)(k:ByteArray){K:Option Addr×Bool→ad→Prop}
  (hk:∀h' b',Upd No h h'→TrieAt W x h' 13 b' (mG k l)→(cx l k=false→b'=b)→K (some ⟨b',0,none⟩,cx l k) h'):
  HC PG wP [.agg #[.int .u64 x.k0,.int .u64 x.k1,.int .u64 x.mask],.pointer none,.pointer (some ⟨b,0,none⟩),.string k] [.c .ptr,.c .bool] K h:=by
 refine Jv (x.k0,x.k1,x.mask) none (some ⟨b,0,none⟩) k ?_;unfold BI ae Dm zm gm gC zl;refine aM fun h1 b1 k1=>?_
 refine Ik (.inr ⟨b,rfl,TrieAt.upd0 k1 t⟩) (fun y hy=>aE (hW y hy) k1.size) fun h2 b2 t2 hu2 hb2=>?_
 have c2:=hu2.get0 b1;refine⟨_,vc c2 0,_,vc c2 1,_,vc c2 2,_,vc c2 0,_,vc c2 1,_,vc c2 2,?_⟩;refine yA fun h3 hu3=>?_
 have c3:=hu3.get0 c2;refine⟨⟨vc c3 0,vc c3 1,vc c3 2⟩,?_⟩;have hu03:=(k1.tr hu2).tr hu3;refine Lm 13 (aq _) k (TrieAt.upd0 hu3 t2) (fun y hy=>aE (hW y hy) hu03.size) hr hn fun h4 b4 hu4 t4 hs4=>?_
 refine hk h4 b4 (hu03.tr hu4) t4 fun ht=>?_
 rw[hs4 ht];rcases hb2 with e|e
 ·cases e;rfl
 ·cases e
end Go.Proofs
namespace Go.Proofs
def uR(P P':List UInt8→ByteArray→Prop)(k:List UInt8):Prop:=∀k' v',P' k' v'↔k'≠k∧P k' v'
theorem Ng{P:List UInt8→ByteArray→Prop}{k:List UInt8}(h:∀v,¬P k v):uR P P k:=fun k' v'=>⟨fun hp=>⟨fun e=>h v' (e▸hp),hp⟩,fun h=>h.2⟩
theorem Nf{w:Option ByteArray}{F:Fo}(h:fS F):uR (sf w F) (sf none F) []:=by
 intro k' v';unfold sf;constructor
 ·rintro(⟨_,f⟩|hi)
  ·cases f
  ·exact⟨pi h hi,.inr hi⟩
 ·rintro⟨e,⟨f,_⟩|hi⟩
  ·exact absurd f e
  ·exact .inr hi
theorem FC{w:Option ByteArray}{F F':Fo}{k:List UInt8}(hk:k≠[])(h:uR (qG F) (qG F') k):uR (sf w F) (sf w F') k:=by
 intro k' v';unfold sf;rw[h k' v'];constructor
 ·rintro(⟨e,f⟩|hi)
  ·exact⟨fun e'=>hk (e'.symm.trans e),.inl ⟨e,f⟩⟩
  ·exact⟨hi.1,.inr hi.2⟩
 ·rintro⟨e,hi|hi⟩
  ·exact .inl hi
  ·exact .inr ⟨e,hi⟩
theorem Nh{lab r:List UInt8}{w w':Option ByteArray}{F F':Fo}(h:uR (sf w F) (sf w' F') r):uR (vf (lab,w,F)) (vf (lab,w',F')) (lab++r):=by
 intro k' v';constructor
 ·rintro⟨s,e,hs⟩
  obtain⟨h1,h2⟩:=(h s v').1 hs;exact⟨fun e'=>h1 (List.append_cancel_left (e.symm.trans e')),s,e,h2⟩
 ·rintro⟨h1,s,e,hs⟩
  exact⟨s,e,(h s v').2 ⟨fun e'=>h1 (by rw[e,e']),hs⟩⟩
theorem PK{F:Fo}{i:Nat}{m:Bn}{k:List UInt8}(h:fS F)(hi:i<F.toL.length)(ek:hd F.toL[i].1=hd k)(hp:uR (vf F.toL[i]) (vf m) k):uR (qG F) (qG (.ofL (F.toL.set i m))) k:=by
 intro k' v';have hc:=ef.1 h;rw[fK,fK,Fo.to_of];constructor
 ·rintro⟨n,hn,hr⟩
  rcases(mW hi (wy h hi)).1 hn with rfl|⟨hn,hne⟩
  ·obtain⟨h1,h2⟩:=(hp k' v').1 hr
   exact⟨h1,_,bN hi,h2⟩
  ·refine⟨fun e=>hne ?_,n,hn,hr⟩
   obtain⟨r,e',_⟩:=hr;refine wR h hn (bN hi) ?_;rw[ek,←e,e',pj (hc.2 n hn).1]
 ·rintro⟨h1,n,hn,hr⟩
  by_cases e:n=F.toL[i]
  ·exact⟨m,(mW hi (wy h hi)).2 (.inl rfl),(hp k' v').2 ⟨h1,by rw[←e];exact hr⟩⟩
  ·exact⟨n,(mW hi (wy h hi)).2 (.inr ⟨hn,e⟩),hr⟩
theorem Ds{α:Type}{l:List α}{i:Nat}(hi:i<l.length){x:α}(nd:∀j (hj:j<l.length),j≠i→l[j]≠l[i]):x∈l.take i++l.drop (i+1)↔x∈l∧x≠l[i]:=by
 constructor
 ·intro h
  rcases bi.1 h with h|h
  ·obtain⟨j,hj,e⟩:=bK h
   rw[aQ]at hj;rw[List.getElem_take]at e;exact⟨List.mem_of_mem_take h,by rw[←e];exact nd j (by omega) (by omega)⟩
  ·obtain⟨j,hj,e⟩:=bK h
   rw[aU]at hj;rw[List.getElem_drop]at e;exact⟨List.mem_of_mem_drop h,by rw[←e];exact nd (i+1+j) (by omega) (by omega)⟩
 ·rintro⟨h,hne⟩
  obtain⟨j,hj,e⟩:=bK h;rcases Nat.lt_trichotomy j i with hl|hl|hl
  ·exact bi.2 (.inl (ox (i:=j) (h:=by rw[aQ];omega) (by rw[List.getElem_take];exact e)))
  ·subst hl;exact absurd e.symm hne
  ·refine bi.2 (.inr (ox (i:=j-(i+1)) (h:=by rw[aU];omega) ?_))
   rw[List.getElem_drop];have:i+1+(j-(i+1))=j:=by omega
   simp only[this];exact e
theorem Ts{F:Fo}{i:Nat}(h:fS F):fS (.ofL (F.toL.take i++F.toL.drop (i+1))):=by
 have hc:=ef.1 h;rw[ef,Fo.to_of];have hs:(F.toL.take i++F.toL.drop (i+1)).Sublist F.toL:=by rw[←List.eraseIdx_eq_take_drop_succ];exact List.eraseIdx_sublist ..
 exact⟨hc.1.sublist hs,fun n hn=>hc.2 n (hs.subset hn)⟩
theorem PL{F:Fo}{i:Nat}{k:List UInt8}(h:fS F)(hi:i<F.toL.length)(ek:hd F.toL[i].1=hd k)(hp:∀k' v',vf F.toL[i] k' v'→k'=k):uR (qG F) (qG (.ofL (F.toL.take i++F.toL.drop (i+1)))) k:=by
 intro k' v';have hc:=ef.1 h;rw[fK,fK,Fo.to_of];constructor
 ·rintro⟨n,hn,hr⟩
  obtain⟨hn,hne⟩:=(Ds hi (wy h hi)).1 hn;refine⟨fun e=>hne ?_,n,hn,hr⟩
  obtain⟨r,e',_⟩:=hr;refine wR h hn (bN hi) ?_;rw[ek,←e,e',pj (hc.2 n hn).1]
 ·rintro⟨h1,n,hn,hr⟩
  by_cases e:n=F.toL[i]
  ·exact absurd (hp k' v' (by rw[←e];exact hr)) h1
  ·exact⟨n,(Ds hi (wy h hi)).2 ⟨hn,e⟩,hr⟩
def TB(n:Bn)(o:Option Bn):Prop:=(o=none∧∀k v,¬vf n k v)∨∃m,o=some m∧Qc m∧hd m.1=hd n.1∧∀k v,vf m k v↔vf n k v
theorem Pw{lab:List UInt8}{w:Option ByteArray}{F:Fo}(hl:lab≠[])(hc:fS F)(h:w.isSome∨2≤F.toL.length):TB (lab,w,F) (some (lab,w,F)):=.inr ⟨_,rfl,⟨hl,h,hc⟩,rfl,fun _ _=>w9⟩
theorem Px{lab:List UInt8}{F:Fo}(h:F.toL= []):TB (lab,none,F) none:=by
 refine .inl ⟨rfl,fun k v hi=>?_⟩
 obtain⟨r,_,⟨_,h'⟩|h'⟩:=hi
 ·cases h'
 ·obtain⟨n,hn,_⟩:=fK.1 h'
  simp only at hn;rw[h]at hn;cases hn
theorem Rc{lab lk:List UInt8}{wk:Option ByteArray}{F Fk:Fo}(hl:lab≠[])(hc:fS F)(h:F.toL= [(lk,wk,Fk)]):TB (lab,none,F) (some (lab++lk,wk,Fk)):=by
 have eF:F=.cons lk wk Fk .nil:=by
  rw[←Fo.of_to F,h];rfl
 have hn:=(ef.1 hc).2 (lk,wk,Fk) (by rw[h];exact aB.2 rfl);refine .inr ⟨_,rfl,⟨fun e=>hl (List.append_eq_nil_iff.1 e).1,hn.2.1,hn.2.2⟩,pj hl,fun k v=>?_⟩
 have:=HG (lab:=lab++lk) (w:=wk) (F:=Fk) lab.length k v;rw[f8,ga]at this;rw[eF];exact this.symm
end Go.Proofs
