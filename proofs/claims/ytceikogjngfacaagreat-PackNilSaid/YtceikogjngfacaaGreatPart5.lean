/- A part of the proof that the named laws of this program answer true, whatever the input. -/
import Derived.Test.YtceikogjngfacaaGreatPart4
import Derived.Test.YtceikogjngfacaaGreatPart2
import Derived.Test.YtceikogjngfacaaGreatPart1
open Bool renaming eq_iff_iff→jZ
open Go.IntKind renaming wrap→ac
open Go.Op renaming bytesLess→be
open Iff renaming rfl→Af
open Int renaming toNat_natCast→bN
open List renaming pairwise_append→dd,mem_cons_self→aN,append_nil→aZ,mem_append_left→fl,mem_append→cg,mem_append_right→fI,length_append→ae,length_nil→aM,length_cons→ax,getElem?_append_right→aD,length_singleton→aQ,length_eq_zero_iff→aw,nil_append→cG,cons_append→fz,cons→rT,mem_cons→au,pairwise_cons→bB,drop_zero→dH,drop_left→lu,take_length→gZ,append_assoc→aF,take_succ_cons→kS,take_append_drop→aL,length→jp,length_drop→aP,mem_of_getLast?→ko,mem_singleton→aA,length_take→aO,mem_cons_of_mem→aR,sublist_append_right→oh,getElem?_eq_getElem→aj,take_of_length_le→bL,length_pos_iff→kU,getElem_mem→g6,flatMap_append→cX,flatMap_cons→cy,getElem?_cons_zero→cE
open List.Pairwise renaming nil→fG
open Nat renaming lt_of_lt_of_le→aG,le_refl→aq,sub_self→dJ,one_pos→nC,zero_le→bJ,sub_zero→eX,le_trans→dj,lt_or_ge→eD
open Option renaming some→bX
open UInt8 renaming lt_iff_toNat_lt→rp
namespace Go.Proofs
open Go Go.Lift
theorem E2{h:af}{b:Nat}{c:Array Value}{t:TypeId}{v:Value}{k:af→Prop}(d:h[b]? =some (.cells c t (0,0))) (e:0<c.size) (f:∀h',h'[b]? =some (.cells (c.setIfInBounds 0 v) t (0,0))→Upd (· =b) h h'→k h'):Wr h ⟨b,0,none⟩∧At (hset h ⟨b,0,none⟩ v) k:=
 ⟨gI d e,Bv d f⟩
theorem Po{L D T:List Pr}{p:Pr}(d:mL L)(e:L=D++p::T):Jt D p=D++ [p]:=by
 subst e;have c:=dd.1 d;rw[N7 p c.1];have:=La (p:=p) (A:=D) (B:= []) fun r b=>c.2.2 r b p (aN ..)
 rw[aZ]at this;exact this
theorem Qj{z:Hs}{f:Nat}{D A B:List Pr}{g:Pr}(p:Srt (Uj z f) (D++(A++B)))(o:∀d∈D,∀t∈A++B,ck z f d.1<ck z f t.1)(m:g∈A)(i:∀a∈A,ck z f a.1=ck z f g.1)(n:∀b∈B,ck z f b.1≠ck z f g.1):
  part z f (ck z f g.1) (D++(A++B))=A∧part z f (ck z f g.1) D= []∧(∀c,c≠ck z f g.1→part z f c (D++A)=part z f c D)∧part z f (ck z f g.1) (D++A)=A∧∀d∈D++A,∀t∈B,ck z f d.1<ck z f t.1:=by
 have j:part z f (ck z f g.1) D= []:=Ca fun d hd=>by have:=o d hd g (fl _ m);omega
 have pA:part z f (ck z f g.1) A=A:=QA i;have q:part z f (ck z f g.1) B= []:=Ca n;have app:∀{c} (X Y:List Pr),part z f c (X++Y)=part z f c X++part z f c Y:=fun X Y=>List.filter_append ..
 refine⟨by rw[app,app,j,pA,q];simp,j,fun c hc=>?_,by rw[app,j,pA];rfl,fun d hd t k=>?_⟩
 ·have:part z f c A= []:=Ca fun a s=>by rw[i a s];exact fun e=>hc e.symm
  rw[app,this,aZ]
 ·rcases cg.1 hd with hd|hd
  ·exact o d hd t (fI _ k)
  ·have v:=of_decide_eq_false (p.right.cross d hd t k)
   have h2:=n t k;have u:=i d hd;omega
set_option maxHeartbeats 1000000 in
theorem SC{N:Nat}(st:StH N)(hN:N≤100000){z:Hs}{W:Nat→Prop}:∀(m:Nat),m≤13→∀{h:af} {s:SliceV} {L:List Pr},Sl (rJ z) 3 No h s L→(∀y,W y→y<h.size)→mL L→L.length≤N→∀{K:Option Addr→af→Prop},
  (∀n b,TrieAt W z n m b L→Upd No h n→K (some ⟨b,0,none⟩) n)→HC PG qF [.slice s.a s.len s.cap,.int .i64 ((13-m:Nat):Int)] [.c .ptr] K h:=by
 intro m;induction m with
 |zero=>
  intro _ h s L hs hW hr hn K hk;have gW:∀{n},Upd No h n→∀y,W y→y<n.size:=fun k y hy=>aG (hW y hy) k.size
  refine CJ s ((13-0:Nat):Int) ?_;unfold xT aW cp nv bW pF cr Ag LS tQ vW PX;refine bO fun h1 b1 k1=>⟨_,GW b1,aX.2 ?_⟩
  refine Pn (gW k1) fun h4 b4 bk4 hu4=>?_
  have hlen:=hs.len;refine LoopP.ghost (fun(g:List Pr×List Pr) (t:Option Addr×Int) n=>(∃b,t.1=some ⟨b,0,none⟩∧BuckAt W n b g.1)∧t.2=(g.1.length:Int)∧L=g.1++g.2∧Upd No h n) (fun g=>g.2.length) ([],L) ⟨⟨b4,rfl,bk4⟩,rfl,rfl,k1.tr hu4⟩ ?_
  rintro I ⟨D,T⟩ ⟨tb,ti⟩ h5 ⟨⟨b,e1,bk⟩,e2,C,Y⟩ hI;simp only at e1 e2 C bk;subst e1 e2;have hl3:L.length=D.length+T.length:=by rw[C,ae]
  refine av (fun hlt=>?_) fun hge=>?_
  ·rcases T with _|⟨p,T⟩
   ·simp only[aM]at hl3;omega
   ·simp only[ax]at hl3
    obtain⟨a,ha,_,hv⟩:=(hs.upd Y fun _ h=>h.elim).at (i:=D.length) (x:=p) (by rw[C,aD (aq _),dJ];rfl)
    refine⟨⟨by omega,by omega⟩,a,ha,p.1,hv 0 _ rfl,p.2,hv 1 _ rfl,j5 z p.1,hv 2 _ rfl,?_⟩
    refine bO fun h6 b6 k6=>?_
    refine eE (c:= [.string ⟨#[]⟩,.string ⟨#[]⟩,.int .u64 0]) (vs:=rJ z p) b6 rfl fun h7 b7 U=>?_
    have hu07:=(Y.tr k6).own U Y.size;have k57:Upd No h5 h7:=k6.own U (aq _);refine⟨p.1,Fe b7 0 0,p.2,Fe b7 0 1,?_⟩;have hrD:mL D:=by rw[C]at hr;exact(dd.1 hr).1
    refine Tp (bk.upd k57 fun _ h=>h.elim) (gW hu07) hrD (by omega) p fun h8 b8 bk8 hu8=>?_
    rw[Po hr C]at bk8;have ew:ac .i64 ((D.length:Int)+1)=((D++ [p]).length:Int):=by rw[ae,aQ,dW (by omega)];omega
    rw[ew];exact hI (D++ [p],T) _ _ ⟨⟨b8,rfl,bk8⟩,rfl,by rw[C];simp,hu07.tr hu8⟩ (by simp)
  ·have hT:T= []:=aw.1 (by omega)
   subst hT;rw[aZ]at C;subst C;exact hk h5 b bk Y
 |succ m ih=>
  intro hm h s L hs hW hr hn K hk;have gW:∀{n},Upd No h n→∀y,W y→y<n.size:=fun k y hy=>aG (hW y hy) k.size
  have hlev:13-(m+1)=12-m:=by omega
  have O:12-m<13:=by omega
  refine CJ s ((13-(m+1):Nat):Int) ?_;unfold xT aW cp nv bW pF cr Ag LS tQ vW PX;rw[hlev];refine bO fun h1 b1 k1=>⟨_,GW b1,?_⟩
  have ne:(((12-m:Nat):Int)==(13:Int))=false:=by rw[beq_eq_false_iff_ne];omega
  rw[ne];refine aH.2 (bO fun h2 b2 k2=>?_)
  have z1:=bo b1;have z2:=bo b2;have s1:=k1.size;refine E2 b2 nC fun h3 b3 hu3=>?_
  have c1:=hu3.oth (k2.get0 b1) (by omega);have two3:Two h.size h1.size (12-m) h3:=⟨c1,b3⟩;have k03:Upd No h h3:=(k1.tr k2).own hu3 s1;have s3:h2.size≤h3.size:=hu3.size;refine Pj (hs.upd k03 fun _ h=>h.elim) (by omega) fun e h4 ho4 hu4=>?_
  have two4:=two3.upd hu4;refine st (Ui z (12-m)) (Ww O (by omega) (by omega)) ho4 two4 (by omega) fun h5 R ho5 hst Y=>?_
  have k45:Upd No h3 h5:=hu4.trans Y fun b hb=>.inr hb
  have two5:=two3.upd k45;have hRl:=hst.eqf.len;have hRp:∀c,part z (12-m) c R=part z (12-m) c L:=fun c=>by
   by_cases hex:∃q∈R++L,ck z (12-m) q.1=c
   ·obtain⟨q,_,hq⟩:=hex
    have e1:∀X:List Pr,X.filter (Iz (Uj z (12-m)) q)=part z (12-m) c X:=fun X=>List.filter_congr fun p _=>by rw[Tm,hq]
    rw[←e1,←e1];exact hst.eqf.flt q
   ·rw[Ca fun p hp e=>hex ⟨p,fl _ hp,e⟩,Ca fun p hp e=>hex ⟨p,fI _ hp,e⟩]
  have k05:=k03.tr k45;refine Cd (gW k05) fun h6 b6 nd6 hu6=>?_
  have k06:=k05.tr hu6;have hlen:=ho5.len;have G:Sl (rJ z) 3 No h6 e R:=(ho5.sl fun _ _ _ h=>h).upd hu6 fun _ h=>h.elim
  refine LoopP.ghost (fun(g:List Pr×List Pr) (t:SliceV×Option Addr) n=>R=g.1++g.2∧(∀d∈g.1,∀y∈g.2,ck z (12-m) d.1<ck z (12-m) y.1)∧Sl (rJ z) 3 No n t.1 g.2∧t.1.len≤t.1.cap∧(∃b sl,t.2=some ⟨b,0,none⟩∧NodeAt W n b sl∧∀c,c<32→SlotIs W z n m sl c (part z (12-m) c g.1))∧Upd No h6 n) (fun g=>g.2.length) ([],R)
   ⟨rfl,fun d hd=>(by cases hd),G,ho5.cap,⟨b6,_,rfl,nd6,fun c _=>.inl ⟨rfl,rfl,rfl⟩⟩,Upd.refl _ _⟩ ?_
  rintro I ⟨D,T⟩ ⟨sT,tb⟩ h7 ⟨C,hDT,u,hcT,⟨b,sl,e1,nd,G⟩,U⟩ hI;simp only at e1 C hDT u hcT nd G;subst e1;have S:=u.len;have hRT:R.length=D.length+T.length:=by rw[C,ae]
  have k07:=k06.tr U;have two7:=(two5.upd hu6).upd U;refine av (fun hgt=>?_) fun hle=>?_
  ·rcases T with _|⟨p,T⟩
   ·simp only[aM]at S;simp only at hgt;omega
   obtain⟨a,ha,_,hv⟩:=u.at (i:=0) (x:=p) rfl;refine⟨_,GW two7.2,⟨by omega,by simp only[ax]at S;simp only;omega⟩,a,ha,p.1,hv 0 _ rfl,p.2,hv 1 _ rfl,j5 z p.1,hv 2 _ rfl,?_⟩
   have w:∀{h8},Upd No h7 h8→Two h.size h1.size (12-m) h8:=fun k=>two7.upd k
   refine⟨Gf (z:=z) O two7.1 p fun h8 k8=>bO fun h9 b9 k9=>E2 b9 nC fun h10 V hu10=>?_,bO fun h8 b8 k8=>⟨?_,GW (w k8).2,Gf (z:=z) O (w k8).1 p fun h9 k9=>E2 (k9.get0 b8) nC fun h10 V hu10=>?_⟩⟩
   case refine_2=>
    obtain⟨a',ha',_,Z⟩:=(u.upd k8 fun _ h=>h.elim).at (i:=0) (x:=p) rfl
    rw[ha]at ha';cases ha';exact⟨Z 0 _ rfl,Z 1 _ rfl,Z 2 _ rfl⟩
   case' refine_1=>
    have o:Upd No h7 h10:=(k8.tr k9).own hu10 k8.size;obtain⟨vb,evb⟩:∃vb,vb=h8.size:=⟨_,rfl⟩;rw[eS h8,←evb];rw[←evb]at V
   case' refine_3=>
    have o:Upd No h7 h10:=(k8.tr k9).own hu10 (aq _);obtain⟨vb,evb⟩:∃vb,vb=h7.size:=⟨_,rfl⟩;rw[eS h7,←evb];rw[←evb]at V
   all_goals
    have hTl:(p::T).length≤N:=by omega
    refine O6 (u.upd o fun _ h=>h.elim) (by omega) (g:=fun q=>decide (ck z (12-m) q.1≠ck z (12-m) p.1)) (fun q _ n K' hu' hK=>?_) fun h11 A B e v hA hBn hBc hu11=>?_
    ·refine HV.mk' (GA (q.1,q.2,j5 z q.1) ⟨h1.size,0,none⟩ ⟨vb,0,none⟩ ?_)
     unfold zG ag pF cP vW Mz;refine bO fun h12 b12 k12=>?_
     have k':=hu'.tr k12;refine⟨_,GW (w (o.tr k')).2,_,vc b12 0,_,vc b12 1,_,vc b12 2,_,GW (k'.get0 V),?_⟩;refine Gf (z:=z) O (w (o.tr k')).1 q fun h13 k13=>⟨GW ((k'.tr k13).get0 V),?_⟩
     have eb:(((ck z (12-m) q.1:Nat):Int) !=((ck z (12-m) p.1:Nat):Int))=decide (ck z (12-m) q.1≠ck z (12-m) p.1):=by
      rw[jZ,bne_iff_ne,decide_eq_true_iff];omega
     rw[eb];exact hK h13 (k12.tr k13)
    obtain⟨A',rfl⟩:∃A',A=p::A':=by
     rcases A with _|⟨a0,A'⟩
     ·have:=(hBc p T (by rw[cG]at v;exact v.symm)).2
      simp at this
     ·rw[fz]at v
      exact⟨A',by rw[(rT.inj v).1]⟩
    generalize hAe:p::A'=A at*;have hpA:p∈A:=by rw[←hAe];exact aN ..
    have hA1:0<A.length:=List.length_pos_of_mem hpA;have P:=hst.srt;rw[v]at hDT u hTl S;rw[C,v]at P;simp only[ae]at hTl S;have hcA:∀q∈A,ck z (12-m) q.1=ck z (12-m) p.1:=fun q hq=>by simpa using hA q hq
    have hcB:∀q∈B,ck z (12-m) q.1≠ck z (12-m) p.1:=fun q hq=>by
     rcases B with _|⟨b0,B'⟩
     ·cases hq
     have hb0:ck z (12-m) b0.1≠ck z (12-m) p.1:=by simpa using(hBc b0 B' rfl).2
     have h1:=of_decide_eq_false (P.right.cross p hpA b0 (aN ..));rcases au.1 hq with rfl|hq
     ·exact hb0
     ·have h2:=of_decide_eq_false ((bB.1 P.right.right).1 q hq)
      omega
    obtain⟨r1,r2,r3,r4,r5⟩:=Qj P hDT hpA hcA hcB;have hi:=VF z (12-m) p.1;have hsi:=G _ hi;rw[r2]at hsi;obtain⟨hsp,hskn⟩:sl.p (ck z (12-m) p.1)=none∧sl.k (ck z (12-m) p.1)=none:=by
     rcases hsi with⟨_,h1,h2⟩|⟨q,h1,_⟩|⟨h1,_⟩
     ·exact⟨h1,h2⟩
     ·cases h1
     ·simp at h1
    have H:=(U.tr o).tr hu11;have j:=o.tr hu11;have b11:=hu11.get0 V;have E:=w j;refine Join.intro (fun t n=>t=(A.length:Int)∧n=h11) (fun R1 hR1=>?_) ?_
    ·refine av (fun hneg=>hR1 _ _ ⟨?_,rfl⟩) fun hpos=>hR1 _ _ ⟨?_,rfl⟩
     ·rcases B with _|⟨b0,B'⟩
      ·have S:sT.len=A.length+0:=S
       show((sT.len:Nat):Int)=(A.length:Int)
       omega
      ·have:=(hBc b0 B' rfl).1;omega
     ·rcases B with _|⟨b0,B'⟩
      ·have:=hBn rfl;omega
      ·exact(hBc b0 B' rfl).1
    rintro t n ⟨rfl,rfl⟩;refine Join.intro (fun t h9=>∃b' sl',t=some ⟨b',0,none⟩∧NodeAt W h9 b' sl'∧(∀c,c<32→SlotIs W z h9 m sl' c (part z (12-m) c (D++A)))∧Upd No n h9) (fun R1 hR1=>?_) ?_
    ·refine CondP.intro (fun Q=>?_) fun F=>?_
     ·have Q:A.length=1:=by have:=eq_of_beq Q;omega
      have hAp:A= [p]:=by
       rw[←hAe]at Q⊢;simp only[ax]at Q;rw[aw.1 (show A'.length=0 by omega)]
      obtain⟨a',ha',_,Z⟩:=(u.upd j fun _ h=>h.elim).at (i:=0) (x:=p) (by rw[←hAe];rfl)
      rw[ha]at ha';cases ha';refine⟨_,GW b11,⟨by omega,by omega⟩,a,ha,p.1,Z 0 _ rfl,p.2,Z 1 _ rfl,?_⟩
      refine L8 (nd.upd j fun _ h=>h.elim) (gW (k06.tr H)) hi (fun _ _=>hskn) p fun h12 b12 nd12 f=>hR1 _ _ ⟨b12,_,rfl,nd12,fun c hc=>?_,f⟩
      by_cases e:c=ck z (12-m) p.1
      ·rw[e,r4,hAp]
       exact .inr (.inl ⟨p,rfl,wU,wU⟩)
      ·rw[r3 c e]
       have t:=SlotIs.upd0 (j.tr f) (G c hc);have e1:upd sl.p (ck z (12-m) p.1) (some p) c=sl.p c:=zN e;have e2:upd sl.k (ck z (12-m) p.1) none c=sl.k c:=zN e;unfold SlotIs at t;rw[←e1,←e2]at t;exact t
     ·have F:A.length≠1:=fun e=>by rw[e]at F;simp at F
      refine⟨_,GW b11,⟨by omega,(by show((A.length:Nat):Int)≤((sT.cap:Nat):Int);omega)⟩,_,GW E.1,?_⟩;have ew:ac .i64 (((12-m:Nat):Int)+1)=((13-m:Nat):Int):=by rw[dW (by omega)];omega
      rw[ew];have hsA:=Sl.sub (u.upd j fun _ h=>h.elim) (l:=0) (hi:=A.length) (m:=sT.cap) (c:=sT.cap-0) (bJ _) (by simp) (by omega)
      rw[dH,eX,List.take_left]at hsA;have hAL:A=part z (12-m) (ck z (12-m) p.1) L:=by
       rw[←hRp,C,v];exact r1.symm
      refine ih (by omega) hsA (gW (k06.tr H)) (by rw[hAL];exact Mj hr) (by omega) fun h12 kb t12 f=>?_
      refine⟨GW (E.upd f).1,GW (f.get0 b11),?_⟩;refine OI (nd.upd (j.tr f) fun _ h=>h.elim) (gW ((k06.tr H).tr f)) hi (fun _ _=>hsp) ⟨kb,0,none⟩ fun h13 b13 nd13 J=>⟨GW ((E.upd f).upd J).1,hR1 _ _ ⟨b13,_,rfl,nd13,fun c hc=>?_,f.tr J⟩⟩
      by_cases e:c=ck z (12-m) p.1
      ·rw[e,r4]
       exact .inr (.inr ⟨by omega,wU,kb,wU,TrieAt.upd0 J t12⟩)
      ·rw[r3 c e]
       have t:=SlotIs.upd0 ((j.tr f).tr J) (G c hc);have e1:upd sl.p (ck z (12-m) p.1) none c=sl.p c:=zN e;have e2:upd sl.k (ck z (12-m) p.1) (some (some ⟨kb,0,none⟩)) c=sl.k c:=zN e;unfold SlotIs at t;rw[←e1,←e2]at t;exact t
    ·rintro t h9 ⟨b',sl',rfl,nd9,hs9,hu9⟩
     refine⟨⟨by omega,(by show((A.length:Nat):Int)≤((sT.len:Nat):Int);omega)⟩,?_⟩;rw[bN];have hsB:=Sl.sub ((u.upd j fun _ h=>h.elim).upd hu9 fun _ h=>h.elim) (l:=A.length) (hi:=(A++B).length) (m:=sT.cap) (c:=sT.cap-A.length) (by simp) (aq _) (by rw[ae];omega)
     rw[lu,ae,Nat.add_sub_cancel_left,gZ]at hsB;have elen:sT.len-A.length=B.length:=by omega
     rw[elen];refine hI (D++A,B) _ _ ⟨by rw[C,v,aF],r5,hsB,by simp only;omega,⟨b',sl',rfl,nd9,hs9⟩,H.tr hu9⟩ ?_
     simp only[v,ae];omega
  ·have hT:T= []:=by
    refine aw.1 ?_;simp only at hle;omega
   subst hT;rw[aZ]at C;subst C;exact hk h7 b ⟨sl,nd,fun c hc=>by
    have:=G c hc
    rw[hRp c]at this
    exact this⟩ k07
end Go.Proofs
namespace Go.Proofs
open Go Go.Lift
theorem RX{z:Hs}{M:Nat→Prop}{h:af}{so:SliceV}{out:List Pr}{p:Pr}{K:SliceV→af→Prop}(e:OwnS (rJ z) 3 aK M h so out)(hM:∀b,h.size≤b→M b)(j:out.length+1≤1000000000)
  (f:∀s' c,OwnS (rJ z) 3 aK M c s' (out++ [p])→Upd M h c→K s' c):
  ∃xs,SRow (hnew h (rJ z p) aK) (some (aI h)) (1*3) xs∧AppP (some [.string (⟨#[]⟩:ByteArray),.string (⟨#[]⟩:ByteArray),.int .u64 0]) 3 40 aK so.a so.len so.cap 1 xs (hnew h (rJ z p) aK) K:=by
 have k:=Upd.hnew No h (rJ z p) aK;have g:OwnS (rJ z) 3 aK (fun _=>True) (hnew h (rJ z p) aK) ⟨some (aI h),1,1⟩ [p]:=⟨rfl,Jw z,aq _,.inr ⟨h.size,[],rfl,trivial,c6 ..,rfl⟩⟩
 refine⟨_,(g.sl (W:=No) fun _ _ _ h=>h).srow,?_⟩
 refine AppP.own (ys:= [p]) (e.upd k fun _ _ h=>h) rfl rfl rfl rfl (by omega) (by simp only[aQ];omega) (hM _ (by rw[gS];omega)) fun s' c d i=>?_
 exact f s' c d ((Upd.hnew M h _ _).tr i)
theorem NS(l:List Pr):(wd l).length≤l.length:=by
 have:∀(l acc:List Pr),(l.foldl (fun acc p=>wh p acc) acc).length≤acc.length+l.length:=by
  intro l;induction l with
  |nil=>intro acc;simp
  |cons p l ih=>
   intro acc;rw[List.foldl_cons];have b:=ih (wh p acc);have h2:=Im p (l:=acc);simp only[ax];omega
 have:=this l [];unfold wd;simpa using this
theorem Pk{N:Nat}(st:StP N)(sh:StH N)(X:N≤100000){z:Hs}{W V:Nat→Prop}{h:af}{s:SliceV}{l:List Pr}(hs:Sl ga 2 V h s l)(hW:∀y,W y→y<h.size)(hn:l.length≤N){K:Option Addr→af→Prop}
  (O:∀c b,TrieAt W z c 13 b (wd l)→Upd No h c→K (some ⟨b,0,none⟩) c):HC PG wy [.agg #[.int .u64 z.k0,.int .u64 z.k1,.int .u64 z.mask],.slice s.a s.len s.cap] [.c .ptr] K h:=by
 refine HB (z.k0,z.k1,z.mask) s ?_;unfold AW cp nv ag GY H6 yx cP oG jR cr Ag LS;refine bO fun h1 b1 k1=>?_
 refine Fm st (by omega) (W':=No) (hs.upd k1 fun _ h=>h.elim) (fun _ h=>h.elim) (by omega) fun e u m _ Q=>?_
 have Z:=Q.get0 b1;have B:=k1.tr Q;have j:=NS l;have n:=C5 l;generalize wd l=L at*;have f:=m.len;refine LoopP.ghost (fun(g:List Pr×List Pr) (t:SliceV×Int) c=>t.2=(g.1.length:Int)∧L=g.1++g.2∧OwnS (rJ z) 3 aK (fun b=>u.size≤b) c t.1 g.1∧Upd No u c) (fun g=>g.2.length) ([],L) ⟨rfl,rfl,OwnS.nil (Jw z),Upd.refl _ _⟩ ?_
 rintro I ⟨D,T⟩ ⟨sa,ti⟩ h6 ⟨P,S,w,A⟩ hI;simp only at P S w;subst P S;simp only[ae]at f j;have hlD:=w.len;refine av (fun H=>?_) fun C=>?_
 ·rcases T with _|⟨p,T⟩
  ·simp only[aM]at f;simp only at H;omega
  simp only[ax]at f j;refine Join.intro (fun t c=>OwnS (rJ z) 3 aK (fun b=>u.size≤b) c t (D++ [p])∧Upd No u c) (fun R hR=>?_) ?_
  ·obtain⟨a,ha,_,hv⟩:=(m.upd A fun _ h=>h.elim).at (i:=D.length) (x:=p) (by rw[aD (aq _),dJ];rfl)
   refine⟨⟨by omega,by simp only;omega⟩,a,ha,p.1,hv 0 _ rfl,p.2,hv 1 _ rfl,?_⟩
   refine FH (p:=p) fun h8 v F=>?_
   have E:=(A.tr F).get0 Z;refine⟨p.1,vc v 0,p.2,vc v 1,_,vc E 0,_,vc E 1,_,vc E 2,p.1,vc v 0,?_⟩;refine Tb fun h9 G=>?_
   have J:=G.get0 v;refine⟨⟨vc J 0,vc J 1⟩,dx ?_⟩;have o:=(A.tr F).tr G;have z9:=o.size;refine RX (z:=z) (p:=p) (((w.upd F fun _ _ h=>h).upd G fun _ _ h=>h)) (fun b U=>by omega) (by omega) fun s' c k d=>hR _ _ ⟨k,o.trans d fun b U=>.inr U⟩
  ·rintro s' c ⟨k,d⟩
   have ew:ac .i64 ((D.length:Int)+1)=((D++ [p]).length:Int):=by rw[ae,aQ,dW (by omega)];omega
   rw[ew];exact hI (D++ [p],T) _ _ ⟨rfl,by simp,k,d⟩ (by simp)
 ·have Y:T= []:=aw.1 (by simp only at C;omega)
  subst Y;rw[aZ]at n;rw[aZ]at O;have q:=B.tr A;exact SC sh X 13 (aq _) (w.sl fun _ _ _ h=>h) (fun y hy=>aG (hW y hy) q.size) n (by simp only[aM]at j;omega) fun c b t d=>O c b t (q.tr d)
theorem StP.less{N M:Nat}(h:StP N)(hm:M≤N):StP M:=fun w _ _ _ hc _ _ _ b hi c _ d=>h w hc b hi (dj c hm) d
theorem StH.less{N M:Nat}(h:StH N)(hm:M≤N):StH M:=fun w _ _ _ hc _ _ _ b hi c _ d=>h w hc b hi (dj c hm) d
end Go.Proofs
namespace Go.Proofs
open Go Go.Lift
theorem zW{a b:ByteArray}:kl a b↔be a.data.toList b.data.toList=true:=by unfold kl;rw[ByteArray.toList_eq,ByteArray.toList_eq]
theorem Ac{a b:UInt8}{x y:List UInt8}:be (a::x) (b::y)=true↔a.toNat<b.toNat∨(a=b∧be x y=true):=by
 simp only[be,Bool.or_eq_true,decide_eq_true_iff,Bool.and_eq_true,beq_iff_eq,rp]
theorem JK(x:List UInt8):be x []=false:=by cases x<;>rfl
theorem M8{x y:List UInt8}:∀pre:List UInt8,be (pre++x) (pre++y)=true↔be x y=true
 | []=>Af
 |a::pre=>by rw[fz,fz,Ac,M8 pre];simp
theorem VG{x y:List UInt8}(h:be x y=true)(hx:x≠[])(c:y≠[]):hd x≤hd y:=by
 match x,y,hx,c with
 |a::x,b::y,_,_=>
  show a.toNat≤b.toNat
  rcases Ac.1 h with h|⟨rfl,_⟩<;>omega
theorem Kq:∀(t:Nat) {f p g:List UInt8},t≤cm f g→(f=p∨be f p=true)→(p=g∨be p g=true)→p.take t=f.take t∧t≤p.length
 |0,f,p,g,_,_,_=>by simp
 |t+1,[],p,g,h,_,_=>by simp[cm]at h
 |t+1,a::f,p,[],h,_,_=>by simp[cm]at h
 |t+1,a::f,p,b::g,h,d,h2=>by
  unfold cm at h;split at h
  ·rename_i e
   subst e;rcases p with _|⟨c,p⟩
   ·rcases d with d|d
    ·cases d
    ·rw[JK]at d;cases d
   ·have hc:c=a:=by
     rcases d with d|d
     ·exact(rT.inj d).1.symm
     ·rcases h2 with h2|h2
      ·exact(rT.inj h2).1
      ·have i:=Ac.1 d
       have j:=Ac.1 h2;rcases i with i|⟨i,_⟩
       ·rcases j with j|⟨j,_⟩
        ·omega
        ·exact j
       ·exact i.symm
    subst hc;have:=Kq t (f:=f) (p:=p) (g:=g) (by omega) (d.imp (fun h=>(rT.inj h).2) fun h=>by
     rcases Ac.1 h with h|⟨_,h⟩
     ·omega
     ·exact h) (h2.imp (fun h=>(rT.inj h).2) fun h=>by
     rcases Ac.1 h with h|⟨_,h⟩
     ·omega
     ·exact h)
    rw[kS,kS,this.1,ax];exact⟨rfl,by omega⟩
  ·omega
theorem Oe:∀f:List UInt8,cm f f=f.length
 | []=>rfl
 |a::f=>by unfold cm;rw[if_pos rfl,Oe f];rfl
abbrev ky(p:Pr):List UInt8:=p.1.data.toList
def Tu(l:List Pr)(b k:List UInt8)(v:ByteArray):Prop:=∃p∈l,ky p=b++k∧p.2=v
structure Beg(l:List Pr)(pre:List UInt8):Prop where
 up:mL l
 at_:∀p∈l,(ky p).take pre.length=pre∧pre.length<(ky p).length
theorem Beg.sub{l d:List Pr}{c:List UInt8}(b:Beg l c)(h:d.Sublist l):Beg d c:=⟨b.up.sublist h,fun p e=>b.at_ p (h.subset e)⟩
theorem Beg.split{l:List Pr}{c:List UInt8}(b:Beg l c){p:Pr}(d:p∈l):ky p=c++(ky p).drop c.length∧(ky p).drop c.length≠[]:=by
 obtain⟨f,h2⟩:=b.at_ p d;refine⟨?_,fun e=>?_⟩
 ·conv=>lhs;rw[←aL c.length (ky p),f]
 ·have:=congrArg jp e
  rw[aP,aM]at this;omega
def bt(n:Nat)(p:Pr):Nat:=hd ((ky p).drop n)
theorem Beg.mono{A B:List Pr}{c:List UInt8}(b:Beg (A++B) c){x y:Pr}(hx:x∈A)(d:y∈B):bt c.length x≤bt c.length y:=by
 have h:=(dd.1 b.up).2.2 x hx y d;rw[zW]at h;obtain⟨g,f⟩:=b.split (fl B hx);obtain⟨i,e⟩:=b.split (fI A d);change be (ky x) (ky y)=true at h;rw[g,i,M8]at h;exact VG h f e
theorem IC{l:List Pr}{d:List UInt8}{f g:Pr}(b:Beg l d)(H:∃r,l=f::r)(A:l.getLast? =some g)(K:bt d.length f=bt d.length g):
  d.length<cm (ky f) (ky g)∧cm (ky f) (ky g)≤(ky f).length∧(∀p∈l,(ky p).take (cm (ky f) (ky g))=(ky f).take (cm (ky f) (ky g)))∧(∀p∈l,p=f∨cm (ky f) (ky g)<(ky p).length)∧
   (cm (ky f) (ky g)<(ky f).length→cm (ky f) (ky g)<(ky g).length∧hd ((ky f).drop (cm (ky f) (ky g)))≠hd ((ky g).drop (cm (ky f) (ky g)))):=by
 obtain⟨r,rfl⟩:=H;have s:f∈f::r:=aN ..;have m:g∈f::r:=ko A;obtain⟨G,I⟩:=b.split s;obtain⟨D,F⟩:=b.split m;have t:d.length<cm (ky f) (ky g):=by
  have:∀(q x y:List UInt8),cm (q++x) (q++y)=q.length+cm x y:=by
   intro q x y;induction q with
   |nil=>simp
   |cons a q ih=>simp only[fz,cm,if_true,ih,ax];omega
  have z:=this d ((ky f).drop d.length) ((ky g).drop d.length);rw[←G,←D]at z;have h2:=UG I F K;omega
 have v:=TO (ky f) (ky g);have w:∀p∈f::r,ky f=ky p∨be (ky f) (ky p)=true:=fun p c=>by
  rcases au.1 c with rfl|c
  ·exact .inl rfl
  ·exact .inr (zW.1 ((bB.1 b.up).1 p c))
 have u:∀p∈f::r,ky p=ky g∨be (ky p) (ky g)=true:=fun p c=>by
  rcases List.eq_nil_or_concat (f::r)with h|⟨l',y,h⟩
  ·cases h
  ·rw[List.concat_eq_append]at h
   rw[h,List.getLast?_concat]at A;cases A;have i:=b.up;rw[h]at c i;rcases cg.1 c with c|c
   ·exact .inr (zW.1 ((dd.1 i).2.2 p c g (aA.2 rfl)))
   ·rw[aA.1 c];exact .inl rfl
 have k:∀p∈f::r,(ky p).take (cm (ky f) (ky g))=(ky f).take (cm (ky f) (ky g))∧cm (ky f) (ky g)≤(ky p).length:=fun p c=>Kq _ (aq _) (w p c) (u p c)
 have n:∀p∈f::r,p=f∨cm (ky f) (ky g)<(ky p).length:=fun p c=>by
  obtain⟨z,h2⟩:=k p c;rcases eD (cm (ky f) (ky g)) (ky p).length with h|h
  ·exact .inr h
  ·left
   have E:(ky p).length=cm (ky f) (ky g):=by omega
   have e:ky p=(ky f).take (cm (ky f) (ky g)):=by rw[←z,←E,gZ]
   rcases au.1 c with rfl|c
   ·rfl
   ·have B:=zW.1 ((bB.1 b.up).1 p c)
    change be (ky f) (ky p)=true at B;exfalso;have J:ky f=ky p++(ky f).drop (cm (ky f) (ky g)):=by rw[e,aL]
    have C:be (ky p++(ky f).drop (cm (ky f) (ky g))) (ky p++ [])=true:=by rw[aZ,←J];exact B
    rw[M8,JK]at C;cases C
 refine⟨t,v.1,fun p c=>(k p c).1,n,fun o=>?_⟩
 have j:cm (ky f) (ky g)<(ky g).length:=by
  rcases n g m with h|h
  ·exfalso
   rw[h,Oe]at o;omega
  ·exact h
 exact⟨j,Of _ _ o j⟩
theorem M6{l H:List Pr}{c:List UInt8}{f g:Pr}(b:Beg l c)(G:∃r,l=f::r)(I:l.getLast? =some g)(P:bt c.length f=bt c.length g){F:Fo}(hc:Ap F)
  (j:H=if(ky f).length=cm (ky f) (ky g)then l.drop 1 else l)(y:∀k v,Pw F k v↔Tu H ((ky f).take (cm (ky f) (ky g))) k v){w:Option ByteArray}(A:w=if(ky f).length=cm (ky f) (ky g)then some f.2 else none){d:List UInt8}(u:d=((ky f).take (cm (ky f) (ky g))).drop c.length):
  PA (d,w,F)∧hd d=bt c.length f∧∀k v,TP (d,w,F) k v↔Tu l c k v:=by
 obtain⟨R,h2,E,Q,K⟩:=IC b G I P;obtain⟨r,rfl⟩:=G;have t:f∈f::r:=aN ..;have z:g∈f::r:=ko I;generalize cm (ky f) (ky g)=to at*;have m:c++d=(ky f).take to:=by
  have:=(b.at_ f t).1;rw[u];conv=>rhs;rw[←aL c.length ((ky f).take to),List.take_take,Nat.min_eq_left (by omega),this]
 have n:d≠[]:=fun e=>by
  have:=congrArg jp u;rw[e,aM,aP,aO]at this;omega
 have B:∀k v,TP (d,w,F) k v↔Tu (f::r) c k v:=by
  intro k v;constructor
  ·rintro⟨q,e,⟨rfl,o⟩|o⟩
   ·simp only at e o
    rw[aZ]at e;subst e;rw[A]at o;split at o
    ·rename_i i
     cases o;refine⟨f,t,?_,rfl⟩;rw[m,←i,gZ]
    ·cases o
   ·simp only at e o
    obtain⟨p,s,O,rfl⟩:=(y q v).1 o;refine⟨p,?_,?_,rfl⟩
    ·rw[j]at s
     split at s
     ·exact aR _ s
     ·exact s
    ·rw[O,e,←aF,m]
  ·rintro⟨p,s,e,rfl⟩
   have x:=E p s;have J:ky p=c++(d++(ky p).drop to):=by
    rw[←aF,m,←x,aL]
   have ek:k=d++(ky p).drop to:=List.append_cancel_left (e.symm.trans J);refine⟨(ky p).drop to,ek,?_⟩;by_cases i:(ky f).length=to
   ·rw[if_pos i]at A j
    rcases au.1 s with rfl|s
    ·left
     refine⟨List.drop_eq_nil_of_le (by omega),?_⟩;simp only;rw[A]
    ·right
     refine(y _ _).2 ⟨p,by rw[j];exact s,?_,rfl⟩
     rw[←x,aL]
   ·rw[if_neg i]at A j
    right;refine(y _ _).2 ⟨p,by rw[j];exact s,?_,rfl⟩
    rw[←x,aL]
 refine⟨⟨n,?_,hc⟩,?_,B⟩
 ·by_cases i:(ky f).length=to
  ·left;simp only;rw[A,if_pos i];rfl
  ·have D:to<(ky f).length:=by omega
   obtain⟨L,C⟩:=K D;refine(UI hc).2 (.inr ⟨(ky f).drop to,(ky g).drop to,f.2,g.2,.inr ?_,.inr ?_,fun e=>?_,fun e=>?_,C⟩)
   ·exact(y _ _).2 ⟨f,by rw[j,if_neg i];exact t,(aL ..).symm,rfl⟩
   ·exact(y _ _).2 ⟨g,by rw[j,if_neg i];exact z,by rw[←E g z,aL],rfl⟩
   ·have:=congrArg jp e
    rw[aP,aM]at this;omega
   ·have:=congrArg jp e
    rw[aP,aM]at this;omega
 ·have e:=(b.split t).1
  unfold bt;have o:(ky f).drop c.length=d++(ky f).drop to:=by
   have N:ky f=c++(d++(ky f).drop to):=by rw[←aF,m,aL]
   conv=>lhs;rw[N]
   rw[lu]
  rw[o,Jz n]
structure Row(L:List Bn)(D T:List Pr)(pre:List UInt8):Prop where
 can:∀n∈L,PA n
 up:L.Pairwise fun m n=>hd m.1<hd n.1
 lo:∀n∈L,∀p∈T,hd n.1<bt pre.length p
 got:∀k v,(∃n∈L,TP n k v)↔Tu D pre k v
theorem Row.nil(T:List Pr)(b:List UInt8):Row [] [] T b:=⟨fun n h=>(by cases h),fG,fun n h=>(by cases h),fun k v=>⟨fun⟨n,h,_⟩=>(by cases h),fun⟨p,h,_⟩=>(by cases h)⟩⟩
theorem Row.more{L:List Bn}{D A B:List Pr}{c:List UInt8}{n:Bn}{p:Pr}(r:Row L D (A++B) c)(t:Beg (A++B) c)(j:p∈A)(y:∀a∈A,bt c.length a=bt c.length p)(w:∀b f,B=b::f→bt c.length b≠bt c.length p)(hc:PA n)(s:hd n.1=bt c.length p)(o:∀k v,TP n k v↔Tu A c k v):Row (L++ [n]) (D++A) B c:=by
 refine⟨fun m hm=>?_,dd.2 ⟨r.up,List.pairwise_singleton ..,fun a u b x=>?_⟩,fun m hm q d=>?_,fun k v=>?_⟩
 ·rcases cg.1 hm with hm|hm
  ·exact r.can m hm
  ·rw[aA.1 hm];exact hc
 ·rw[aA.1 x,s]
  exact r.lo a u p (fl _ j)
 ·rcases cg.1 hm with hm|hm
  ·exact r.lo m hm q (fI _ d)
  ·rw[aA.1 hm,s]
   rcases B with _|⟨g,f⟩
   ·cases d
   have z:=w g f rfl;have h2:=t.mono j (aN (a:=g) (l:=f));rcases au.1 d with rfl|d
   ·omega
   ·have i:Beg ([g]++f) c:=t.sub (oh A _)
    have:=i.mono (aA.2 rfl) d;omega
 ·constructor
  ·rintro⟨m,hm,hi⟩
   rcases cg.1 hm with hm|hm
   ·obtain⟨q,d,e⟩:=(r.got k v).1 ⟨m,hm,hi⟩
    exact⟨q,fl _ d,e⟩
   ·rw[aA.1 hm]at hi
    obtain⟨q,d,e⟩:=(o k v).1 hi;exact⟨q,fI _ d,e⟩
  ·rintro⟨q,d,e⟩
   rcases cg.1 d with d|d
   ·obtain⟨m,hm,hi⟩:=(r.got k v).2 ⟨q,d,e⟩
    exact⟨m,fl _ hm,hi⟩
   ·exact⟨n,fI _ (aA.2 rfl),(o k v).2 ⟨q,d,e⟩⟩
theorem Row.done{L:List Bn}{D:List Pr}{b:List UInt8}(r:Row L D [] b):Ap (.ofL L)∧∀k v,Pw (.ofL L) k v↔Tu D b k v:=by
 refine⟨xg.2 ?_,fun k v=>?_⟩
 ·rw[Fo.to_of];exact⟨r.up,r.can⟩
 ·rw[xD,Fo.to_of];exact r.got k v
end Go.Proofs
namespace Go.Proofs
open Go Go.Lift
theorem Rc(s:ByteArray)(a b:Nat):(s.extract a b).data.toList=(s.data.toList.take b).drop a:=by
 rw[ByteArray.data_extract,Array.toList_extract,List.extract_eq_take_drop,List.drop_take]
theorem QT(s:ByteArray):s.data.toList.length=s.size:=by simp
theorem Kid.less{W W':Nat→Prop}{h:af}(hm:∀b,W' b→W b∨h.size≤b){a:Option Addr}{n:Bn}:Kid W h a n→Kid W' h a n
 |⟨b,sl,e1,e2,e3⟩=>⟨b,sl,e1,e2,e3.less hm⟩
theorem Kid.updM{W M:Nat→Prop}{h c:af}(k:Upd M h c)(hm:∀b,M b→W b∨h.size≤b){a:Option Addr}{n:Bn}:Kid W h a n→Kid W c a n
 |⟨b,sl,e1,e2,e3⟩=>⟨b,sl,e1,e2,e3.updM k hm⟩
theorem RxL.less{W W':Nat→Prop}{h:af}(hm:∀b,W' b→W b∨h.size≤b){ks:List (Option Addr)}{L:List Bn}(r:RxL W h ks L):RxL W' h ks L:=⟨r.1,fun p c=>(r.2 p c).less hm⟩
theorem RxL.updM{W M:Nat→Prop}{h c:af}(k:Upd M h c)(hm:∀b,M b→W b∨h.size≤b){ks:List (Option Addr)}{L:List Bn}(r:RxL W h ks L):RxL W c ks L:=⟨r.1,fun p d=>(r.2 p d).updM k hm⟩
theorem RR{p:Pr}{n:Nat}(h:n<(ky p).length):∃b:UInt8,p.1[n]? =some b∧b.toNat=bt n p:=by
 rw[Q2];refine⟨(ky p)[n],aj h,?_⟩;unfold bt hd;rw[List.drop_eq_getElem_cons h];rfl
theorem Lv{M:Nat→Prop}{h:af}{so:SliceV}{out:List (Option Addr)}{p:Option Addr}{K:SliceV→af→Prop}(e:OwnS PO 1 c5 M h so out)(hM:∀b,h.size≤b→M b)(j:out.length+1≤1000000000)
  (f:∀s' c,OwnS PO 1 c5 M c s' (out++ [p])→Upd M h c→K s' c):
  ∃xs,SRow (hnew h [.pointer p] c5) (some (aI h)) (1*1) xs∧AppP (some [.pointer none]) 1 8 c5 so.a so.len so.cap 1 xs (hnew h [.pointer p] c5) K:=by
 have k:=Upd.hnew No h [.pointer p] c5;have g:OwnS PO 1 c5 (fun _=>True) (hnew h [.pointer p] c5) ⟨some (aI h),1,1⟩ [p]:=⟨rfl,IY,aq _,.inr ⟨h.size,[],rfl,trivial,c6 ..,rfl⟩⟩
 refine⟨_,(g.sl (W:=No) fun _ _ _ h=>h).srow,?_⟩
 refine AppP.own (ys:= [p]) (e.upd k fun _ _ h=>h) rfl rfl rfl rfl (by omega) (by simp only[aQ];omega) (hM _ (by rw[gS];omega)) fun s' c d i=>?_
 exact f s' c d ((Upd.hnew M h _ _).tr i)
theorem HS{W:Nat→Prop}{h:af}{s:SliceV}{ks:List (Option Addr)}{L:List Bn}(J:Sl PO 1 No h s ks)(A:RxL W h ks L)(hn:L.length≤100000)(P:∀y,W y→y<h.size){c d:ByteArray}{f:Bool}{K:Option Addr→af→Prop}
  (Z:∀j b,RxN W j b c (if f then some d else none) (.ofL L)→Upd No h j→K (some ⟨b,0,none⟩) j):HC PG tV [.string c,.bool f,.string d,.slice s.a s.len s.cap] [.c .ptr] K h:=by
 refine JS c f d s ?_;unfold CL aW cp cu cz;refine bO fun h1 b1 k1=>?_
 have z1:=bo b1;have k:=J.len;have w:=A.1;refine Join.intro (fun _ j=>∃val,j[h.size]? =some (.cells (TE c f val ⟨none,0,0⟩ none) j4 (0,0))∧val=(if f then d else⟨#[]⟩)∧Upd No h j) (fun R C=>?_) ?_
 ·cases f with
  |true=>exact aX.2 ⟨_,rfl,yv (i:=2) (c':=TE c true d ⟨none,0,0⟩ none) b1 (show 2<5 by decide) rfl fun h2 b2 F=>C _ _ ⟨_,b2,rfl,k1.own F (aq _)⟩⟩
  |false=>exact aH.2 (C _ _ ⟨_,b1,rfl,k1⟩)
 rintro _ h2 ⟨val,b2,p,k2⟩;refine LoopP.ghost (fun(g:List (Option Addr)×List (Option Addr)) (t:Int) j=>t=(g.1.length:Int)∧ks=g.1++g.2∧(∃so,j[h.size]? =some (.cells (TE c f val so none) j4 (0,0))∧OwnS PO 1 c5 (fun y=>h.size<y) j so g.1)∧Upd No h j) (fun g=>g.2.length) ([],ks)
  ⟨rfl,rfl,⟨_,b2,OwnS.nil IY⟩,k2⟩ ?_
 rintro I ⟨K1,D⟩ t V ⟨O,N,⟨so,b3,m⟩,B⟩ hI;simp only at O N m;subst O N;simp only[ae]at k w;have z3:=bo b3;refine av (fun hlt=>?_) fun T=>?_
 ·rcases D with _|⟨o,D⟩
  ·simp only[aM]at k;omega
  simp only[ax]at k w;refine Join.intro (fun _ j=>(∃so,j[h.size]? =some (.cells (TE c f val so none) j4 (0,0))∧OwnS PO 1 c5 (fun y=>h.size<y) j so (K1++ [o]))∧Upd No h j) (fun R C=>?_) ?_
  ·obtain⟨X,U,q,_⟩:=A.at (i:=K1.length) (by omega)
   have E:o=some ⟨X,0,none⟩:=by
    rw[aD (aq _),dJ]at q;exact bX.inj q
   obtain⟨a,ha,_,hv⟩:=(J.upd B fun _ h=>h.elim).at0 (i:=K1.length) (x:=o) (by rw[aD (aq _),dJ];rfl)
   refine⟨⟨by omega,by omega⟩,a,ha,o,hv,?_⟩
   subst E;refine aX.2 ⟨_,rfl,so,vc b3 3,dx ?_⟩;refine Lv m (fun b hb=>by omega) (by omega) fun z Y n u=>⟨_,rfl,?_⟩
   have G:=u.get b3 (by simp);refine yv (i:=3) (c':=TE c f val z none) G (show 3<5 by decide) rfl fun h5 S v=>C _ _ ⟨⟨z,S,n.upd v fun x hx e=>by have e:x=h.size:=e;omega⟩,?_⟩
   exact(B.trans u fun x hx=>.inr (Nat.le_of_lt hx)).own v (aq _)
  ·rintro _ Y ⟨⟨z,G,n⟩,Q⟩
   have ew:ac .i64 ((K1.length:Int)+1)=((K1++ [o]).length:Int):=by rw[ae,aQ,dW (by omega)];omega
   rw[ew];exact hI (K1++ [o],D) _ _ ⟨rfl,by simp,⟨z,G,n⟩,Q⟩ (by simp)
 ·have hK:D= []:=aw.1 (by omega)
  subst hK;rw[aZ]at A;refine Z V h.size ⟨val,so,none,K1,?_,?_,m.sl (fun x hx _ H=>by have:=P x H;omega),⟨m.cap,fun H=>by have:=P _ H;omega⟩,IZ.2 (by rw[Fo.to_of];exact A.upd0 B)⟩ B
  ·cases f<;>exact b3
  ·rw[p];cases f<;>rfl
def Ol(B b:Nat):Prop:=∀{W:Nat→Prop} {h:af} {s:SliceV} {l:List Pr} {pre:List UInt8},Sl ga 2 No h s l→s.len≤s.cap→Beg l pre→pre.length=b→(∀p∈l,(ky p).length≤B)→l.length≤100000→(∀y,W y→y<h.size)→∀{K:SliceV→af→Prop},
 (∀h' s' ks L,OwnS PO 1 c5 (fun y=>h.size≤y) h' s' ks→RxL W h' ks L→Row L l [] pre→Upd No h h'→K s' h')→HC PG tZ [.slice s.a s.len s.cap,.int .i64 (b:Int)] [.c .slice] K h
theorem M7{W:Nat→Prop}{B b:Nat}(hB:B≤1000000)(q:∀to,b<to→Ol B to){h:af}{s:SliceV}{l r:List Pr}{f g:Pr}{j:List UInt8}(N:Sl ga 2 No h s l)(E:s.len≤s.cap)(bg:Beg l j)(P:j.length=b)(D:∀p∈l,(ky p).length≤B)(hn:l.length≤100000)(hW:∀y,W y→y<h.size)
  (u:l=f::r)(hg:l.getLast? =some g)(hb:bt b f=bt b g){K:Option Addr→af→Prop}
  (hk:∀w a n,Kid W w a n→PA n→hd n.1=bt b f→(∀k v,TP n k v↔Tu l j k v)→Upd No h w→K a w):HC PG uQ [.slice s.a s.len s.cap,.int .i64 (b:Int)] [.c .ptr] K h:=by
 refine GE s b ?_;unfold zK aW cp yx jR cr P0;subst P;have U:=N.len;have hl0:0<l.length:=by rw[u];simp
 have hfm:f∈l:=by rw[u];exact aN ..
 have hgm:g∈l:=ko hg;obtain⟨a,A,_,o⟩:=N.at (i:=0) (x:=f) (by rw[u];rfl);obtain⟨a',H,_,hvg⟩:=N.at (i:=l.length-1) (x:=g) (by rw[←hg,List.getLast?_eq_getElem?]);rw[A]at H;cases H;have ew:ac .i64 ((s.len:Int)-1)=((l.length-1:Nat):Int):=by rw[dW (by omega)];omega
 refine⟨⟨by omega,by omega⟩,a,A,f.1,o 0 _ rfl,?_⟩
 rw[ew];have hsf:=D f hfm;have hszf:f.1.size=(ky f).length:=(QT f.1).symm;refine⟨⟨by omega,by omega⟩,a,A,g.1,hvg 0 _ rfl,Pg (by omega) ?_⟩
 obtain⟨q1,q2,q3,q4,q5⟩:=IC bg ⟨r,u⟩ hg hb;have Z:= @M6 l (if(ky f).length=cm (ky f) (ky g)then l.drop 1 else l) j f g bg ⟨r,u⟩ hg hb
 obtain⟨to,S⟩:∃to,cm (ky f) (ky g)=to:=⟨_,rfl⟩;rw[S]at q1 q2 q3 q4 Z;show _∧_
 change(_∧∃_,_∧_);have hto':cm f.1.data.toList g.1.data.toList=to:=S;rw[hto'];refine⟨⟨by omega,by omega⟩,a,A,f.1,o 0 _ rfl,⟨by omega,by omega⟩,⟨by omega,by rw[bN];omega⟩,⟨by omega,by omega⟩,a,A,f.1,o 0 _ rfl,?_⟩
 have ehas:((f.1.size:Int)==(to:Int))=decide ((ky f).length=to):=by
  rw[jZ,beq_iff_eq,decide_eq_true_iff];omega
 rw[ehas];have V:(f.1.extract (j.length:Int).toNat (to:Int).toNat).data.toList=((ky f).take to).drop j.length:=Rc ..;have X:((ky f).take to).length=to:=by rw[aO];omega
 refine Join.intro (fun(t:SliceV×ByteArray) w=>w=h∧Sl ga 2 No h t.1 (if(ky f).length=to then l.drop 1 else l)∧t.1.len≤t.1.cap∧((ky f).length=to→t.2=f.2)) (fun R hR=>?_) ?_
 ·refine av (fun e=>?_) fun e=>?_
  ·refine⟨⟨by omega,by omega⟩,a,A,f.2,o 1 _ rfl,⟨by omega,by omega⟩,hR _ _ ⟨rfl,?_,by simp only;omega,fun _=>rfl⟩⟩
   rw[if_pos e];have:=Sl.sub N (l:=1) (hi:=l.length) (m:=s.cap) (c:=s.cap-1) (by omega) (aq _) (by omega);rw[bL (by rw[aP];omega),←U]at this;exact this
  ·exact hR _ _ ⟨rfl,by rw[if_neg e];exact N,E,fun h=>absurd h e⟩
 rintro⟨s2,v2⟩ w ⟨rfl,Q,Y,I⟩;simp only at Q Y I;have d:(if(ky f).length=to then l.drop 1 else l).Sublist l:=by
  split
  ·exact List.drop_sublist ..
  ·exact List.Sublist.refl _
 have G:Beg (if(ky f).length=to then l.drop 1 else l) ((ky f).take to):=by
  refine⟨bg.up.sublist d,fun p z=>?_⟩
  rw[X];refine⟨q3 p (d.subset z),?_⟩;rcases q4 p (d.subset z)with e|h
  ·subst e
   by_cases e2:(ky p).length=to
   ·rw[if_pos e2,u]at z
    have:=(bB.1 (u▸bg.up)).1 p z;exact absurd this (fH _)
   ·omega
  ·exact h
 refine q to q1 Q Y G X (fun p z=>D p (d.subset z)) (dj d.length_le hn) hW fun h3 s3 ks L ho3 hL3 O T=>?_
 obtain⟨J,hgF⟩:=O.done;obtain⟨hcn,hhd,hin⟩:=Z (F:=.ofL L) J rfl hgF rfl rfl;have hLl:L.length≤100000:=by
  have:=Og J;rw[Fo.to_of]at this;omega
 refine HS (W:=W) (ho3.sl fun _ _ _ h=>h) hL3 hLl (fun y hy=>aG (hW y hy) T.size) fun h4 b4 C hu4=>?_
 have ew2:(if decide ((ky f).length=to)=true then some v2 else none)=if(ky f).length=to then some f.2 else none:=by
  by_cases e:(ky f).length=to
  ·rw[if_pos (decide_eq_true e),if_pos e,I e]
  ·rw[if_neg (by simpa using e),if_neg e]
 rw[ew2]at C;exact hk h4 _ _ ⟨b4,_,rfl,V,C⟩ hcn hhd hin (T.tr hu4)
theorem Ij{B j:Nat}(hB:B≤1000000)(V:j≤B→∀to,j<to→Ol B to):Ol B j:=by
 intro W h s l d hs hcap bg hpre hlB hn hW K hk;refine JZ s j ?_;unfold CS cp cr;refine bO fun h1 b1 k1=>?_
 subst hpre;refine LoopP.ghost (fun(g:List Pr×List Pr×List (Option Addr)×List Bn×(Nat→Prop)) (t:SliceV×SliceV) P=>l=g.1++g.2.1∧Sl ga 2 (fun y=>h.size≤y) P t.1 g.2.1∧t.1.len≤t.1.cap∧OwnS PO 1 c5 g.2.2.2.2 P t.2 g.2.2.1∧(∀y,g.2.2.2.2 y→h1.size≤y∧y<P.size)∧RxL (fun y=>W y∨g.2.2.2.2 y) P g.2.2.1 g.2.2.2.1∧Row g.2.2.2.1 g.1 g.2.1 d∧Upd No h1 P) (fun g=>g.2.1.length) ([],l,[],[],No)
  ⟨rfl,(hs.less (W':=fun y=>h.size≤y) fun y f=>.inr f).upd k1 fun _ h=>h.elim,hcap,OwnS.nil IY,fun y f=>f.elim,⟨rfl,fun p hp=>(by cases hp)⟩,Row.nil _ _,Upd.refl _ _⟩ ?_
 rintro I ⟨D,T,ks,L,Mo⟩ ⟨N,so⟩ h4 ⟨e1,E,hcT,ho,C,hL,z,hu⟩ hI;simp only at e1 E hcT ho C hL z;subst e1;have hlT:=E.len;simp only[ae]at hn;have Q:Beg T d:=bg.sub (oh D T);have k04:=k1.tr hu;refine av (fun hgt=>?_) fun hle=>?_
 ·rcases T with _|⟨p,T⟩
  ·simp only[aM]at hlT;simp only at hgt;omega
  simp only[ax]at hlT hn;have hpl:=(Q.at_ p (aN ..)).2;obtain⟨b8,hb8,hb8e⟩:=RR hpl;obtain⟨a,ha,_,hv⟩:=E.at (i:=0) (x:=p) rfl;have c4:=hu.get0 b1;refine⟨⟨by omega,by simp only;omega⟩,a,ha,p.1,hv 0 _ rfl,_,GW c4,b8,by omega,hb8,?_⟩
  refine bO fun Z b9 k9=>?_
  have c9:=k9.get0 c4;obtain⟨a',ha',_,hv9⟩:=(E.upd k9 fun _ h=>h.elim).at (i:=0) (x:=p) rfl
  rw[ha]at ha';cases ha';refine⟨GW c9,hv9 0 _ rfl,E2 b9 nC fun h10 b10 hu10=>?_⟩
  have J:Upd No h4 h10:=k9.own hu10 (aq _);have c10:=J.get0 c4;refine O5 (E.upd J fun _ h=>h.elim) (by simp only[ax];omega) (g:=fun q=>decide (bt d.length q≠bt d.length p)) (fun q hq P K' w hK=>?_) fun h11 A Bt e H hA hBn R U=>?_
  ·refine HV.mk' (GD q ⟨h.size,0,none⟩ ⟨h4.size,0,none⟩ ?_)
   unfold zJ cP Df;refine bO fun o b12 k12=>?_
   have k':=w.tr k12;obtain⟨bq,hbq,hbqe⟩:=RR (Q.at_ q hq).2;refine⟨q.1,vc b12 0,_,GW (k'.get0 c10),bq,by omega,hbq,_,GW (k'.get0 b10),?_⟩
   have eb:((bq.toNat:Int) !=(b8.toNat:Int))=decide (bt d.length q≠bt d.length p):=by
    rw[jZ,bne_iff_ne,decide_eq_true_iff];omega
   rw[eb];exact hK o k12
  obtain⟨A',rfl⟩:∃A',A=p::A':=by
   rcases A with _|⟨a0,A'⟩
   ·have:=(R p T (by rw[cG]at H;exact H.symm)).2
    simp at this
   ·rw[fz]at H
    exact⟨A',by rw[(rT.inj H).1]⟩
  have hcA:∀q∈p::A',bt d.length q=bt d.length p:=fun q hq=>by simpa using hA q hq
  have G:p::T=(p::A')++Bt:=H;have hTl:T.length=A'.length+Bt.length:=by
   have:=congrArg jp G;simp only[ax,ae]at this;omega
  have u:=J.tr U;have k111:=hu.tr u;have c11:=U.get0 c10;refine Join.intro (fun t P=>t=((A'.length+1:Nat):Int)∧P=h11) (fun R1 O=>?_) ?_
  ·refine av (fun hneg=>O _ _ ⟨?_,rfl⟩) fun hpos=>O _ _ ⟨?_,rfl⟩
   ·rcases Bt with _|⟨b0,B'⟩
    ·have hTl:T.length=A'.length+0:=hTl
     show((N.len:Nat):Int)=_
     omega
    ·have:=(R b0 B' rfl).1
     simp only[ax]at this;omega
   ·rcases Bt with _|⟨b0,B'⟩
    ·have:=hBn rfl;omega
    ·have:=(R b0 B' rfl).1
     simp only[ax]at this;exact this
  rintro t P ⟨rfl,rfl⟩;refine Join.intro (fun t Z=>∃ka n Mp,OwnS PO 1 c5 Mp Z t (ks++ [ka])∧(∀y,Mp y→h1.size≤y∧y<Z.size)∧RxL (fun y=>W y∨Mp y) Z (ks++ [ka]) (L++ [n])∧PA n∧hd n.1=bt d.length p∧(∀k v,TP n k v↔Tu (p::A') d k v)∧Upd No h1 Z∧Sl ga 2 (fun y=>h.size≤y) Z N (p::T)) (fun R1 O=>?_) ?_
  ·refine⟨⟨by omega,by show((A'.length+1:Nat):Int)≤((N.cap:Nat):Int);omega⟩,_,GW c11,?_⟩
   have hsA:=Sl.sub (E.upd u fun _ h=>h.elim) (l:=0) (hi:=A'.length+1) (m:=N.cap) (c:=N.cap-0) (bJ _) (by simp only[ax];omega) (by omega)
   have etk:((p::T).drop 0).take (A'.length+1-0)=p::A':=by
    rw[dH,eX,G];exact List.take_left' (by simp)
   rw[etk]at hsA;obtain⟨g,hg⟩:∃g,(p::A').getLast? =some g:=⟨_,List.getLast?_eq_some_getLast (by simp)⟩;have hgm:g∈p::A':=ko hg;have S:(p::A').Sublist (D++p::T):=by
    rw[G];exact(List.sublist_append_left _ _).trans (oh D _)
   refine M7 hB (V (by have:=hlB p (by simp);omega)) (hsA.less fun _ h=>h.elim) (by show A'.length+1-0≤N.cap-0;omega) (bg.sub S) rfl (fun q hq=>hlB q (S.subset hq)) (by simp only[ax];omega) (W:=fun y=>W y∨Mo y) (fun y f=>f.elim (fun f=>aG (hW y f) (k04.tr u).size) fun f=>aG (C y f).2 u.size) rfl hg (hcA g hgm).symm fun o ka n kd X hhd hin hu12=>dx ?_
   have w:=u.tr hu12;have z':=(hu.tr w).size;have hLn:L.length≤256:=by
    rcases Db (c:=0) z.up fun _ _=>bJ _ with e|e
    ·rw[e];simp
    ·omega
   have hkl:=hL.1;have z12:=w.size;refine Lv (M:=fun y=>Mo y∨o.size≤y) ((ho.upd w fun _ _ h=>h).more fun y f=>.inl f) (fun b Y=>.inr Y) (by omega) fun s13 h13 ho13 F=>O _ _ ⟨ka,n,fun y=>(Mo y∨o.size≤y)∧y<h13.size,ho13.within,fun y f=>⟨?_,f.2⟩,?_,X,hhd,hin,?_,?_⟩
   ·rcases f.1 with h|h
    ·exact(C y h).1
    ·omega
   ·have hl:∀b,(W b∨((Mo b∨o.size≤b)∧b<h13.size))→(W b∨Mo b)∨o.size≤b:=fun b Y=>by
     rcases Y with h|⟨h|h,_⟩
     ·exact .inl (.inl h)
     ·exact .inl (.inr h)
     ·exact .inr h
    have hm:∀b,(Mo b∨o.size≤b)→(W b∨((Mo b∨o.size≤b)∧b<h13.size))∨o.size≤b:=fun b Y=>by
     rcases Y with h|h
     ·exact .inl (.inr ⟨.inl h,by have:=(C b h).2;have:=F.size;omega⟩)
     ·exact .inr h
    exact(((hL.upd0 w).app (RxL.one kd)).less hl).updM F hm
   ·exact(hu.tr w).trans F fun y f=>.inr (by
     rcases f with h|h
     ·exact(C y h).1
     ·omega)
   ·refine(E.upd w fun _ h=>h.elim).upd F fun b Y=>.inl ?_
    have:=k1.size;rcases Y with h|h
    ·have:=(C b h).1;omega
    ·omega
  ·rintro s9 Z ⟨ka,n,Mp,ho9,hMp,hL9,X,hhd,hin,hu9,hsT9⟩
   refine⟨⟨by omega,by show((A'.length+1:Nat):Int)≤((N.len:Nat):Int);omega⟩,?_⟩
   rw[bN];have hsB:=Sl.sub hsT9 (l:=A'.length+1) (hi:=(p::T).length) (m:=N.cap) (c:=N.cap-(A'.length+1)) (by simp only[ax];omega) (aq _) (by simp only[ax];omega);have edr:((p::T).drop (A'.length+1)).take ((p::T).length-(A'.length+1))=Bt:=by
    rw[G,List.drop_left' (by simp)];exact bL (by simp)
   rw[edr]at hsB;have elen:(p::T).length-(A'.length+1)=N.len-(A'.length+1):=by simp only[ax];omega
   rw[elen]at hsB;have hr':Row (L++ [n]) (D++(p::A')) Bt d:=by
    rw[G]at z Q;exact z.more Q (aN ..) hcA (fun b B' e=>by simpa using(R b B' e).2) X hhd hin
   refine hI (D++(p::A'),Bt,ks++ [ka],L++ [n],Mp) _ _ ⟨by rw[G,aF],hsB,by simp only;omega,ho9,hMp,hL9,hr',hu9⟩ ?_
   simp only[ax];omega
 ·have hT:T= []:=aw.1 (by simp only at hle;omega)
  subst hT;rw[aZ]at hk;exact hk h4 so ks L (ho.more fun y f=>dj k1.size (C y f).1) (hL.less fun y f=>.inl (.inl f)) z k04
end Go.Proofs
namespace Go.Proofs
open Go Go.Lift
theorem K4{B:Nat}(b:B≤1000000):∀(n from_:Nat),B<from_+n→Ol B from_
 |0,_,h=>Ij b fun d=>by omega
 |n+1,from_,h=>Ij b fun _ to c=>K4 b n to (by omega)
theorem SK{l:List Pr}{p:Pr}(h:p∈wd l):p∈l:=O2 (N1.1 h)
theorem OV{N:Nat}(st:StP N)(hN:N≤100000){W W0:Nat→Prop}{h:af}{s:SliceV}{l:List Pr}(hs:Sl ga 2 W0 h s l)(hW:∀y,W y→y<h.size)(hn:l.length≤N)(hB:∀p∈l,p.1.size≤1000000){K:Option Addr→af→Prop}
  (hk:∀u b,RadAt W u b (wd l)→Upd No h u→K (some ⟨b,0,none⟩) u):HC PG ww [.slice s.a s.len s.cap] [.c .ptr] K h:=by
 refine HA s ?_;unfold AV cp yx cr P0;refine Fm st (by omega) (W':=No) hs (fun _ h=>h.elim) (by omega) fun e h2 j T k2=>?_
 have hln:=NS l;have o:=C5 l;have P:∀p∈wd l,(ky p).length≤1000000:=fun p U=>by have:=hB p (SK U);rw[show(ky p).length=p.1.size from QT p.1];exact this
 generalize wd l=L at*;have n:=j.len;refine Join.intro (fun(t:ByteArray×Bool) u=>u=h2∧(t.2=true↔∃p r,L=p::r∧ky p= [])) (fun R H=>?_) ?_
 ·refine av (fun hgt=>?_) fun hle=>H _ _ ⟨rfl,⟨fun h=>(by cases h),fun⟨p,r,e,_⟩=>(by subst e;simp only[ax]at n;omega)⟩⟩
  rcases L with _|⟨p,r⟩
  ·simp only[aM]at n;omega
  obtain⟨a,Z,_,hv⟩:=j.at (i:=0) (x:=p) rfl;refine⟨⟨by omega,by omega⟩,a,Z,p.1,hv 0 _ rfl,H _ _ ⟨rfl,?_⟩⟩
  simp only;rw[Ls,decide_eq_true_iff];constructor
  ·intro e;exact⟨p,r,rfl,by unfold ky;rw[e]⟩
  ·rintro⟨p',r',e,w⟩
   cases e;exact M5.1 w
 rintro⟨v6,J⟩ u ⟨rfl,g⟩;simp only at g;refine Join.intro (fun(t:SliceV×ByteArray) h3=>h3=u∧∃A,Sl ga 2 No u t.1 A∧t.1.len≤t.1.cap∧Beg A []∧(∀p∈A,p∈L)∧A.length≤L.length∧∀k v,((k= []∧(if J then some t.2 else none)=some v)∨Tu A [] k v)↔∃p∈L,p.1.data.toList=k∧p.2=v) (fun R H=>?_) ?_
 ·cases J with
  |true=>
   obtain⟨p,r,rfl,O⟩:=g.1 rfl;obtain⟨a,Z,_,hv⟩:=j.at (i:=0) (x:=p) rfl;simp only[ax]at n;refine aX.2 ⟨⟨by omega,by omega⟩,a,Z,p.2,hv 1 _ rfl,⟨by omega,by omega⟩,H _ _ ⟨rfl,r,?_,by simp only;omega,⟨(bB.1 o).2,fun q d=>⟨rfl,?_⟩⟩,fun q d=>aR _ d,by simp,fun k v=>?_⟩⟩
   ·have:=Sl.sub j (l:=1) (hi:=(p::r).length) (m:=e.cap) (c:=e.cap-1) (by simp) (aq _) (by simp only[ax];omega)
    rw[List.drop_one,List.tail_cons,bL (by simp)]at this;have w:(p::r).length-1=e.len-1:=by simp only[ax];omega
    rw[w]at this;exact this
   ·have f:=zW.1 ((bB.1 o).1 q d)
    refine kU.2 fun w=>?_
    change be (ky p) (ky q)=true at f;rw[w,JK]at f;cases f
   ·simp only[if_true]
    constructor
    ·rintro(⟨rfl,h⟩|⟨q,d,f,h2⟩)
     ·exact⟨p,aN ..,O,bX.inj h⟩
     ·exact⟨q,aR _ d,f,h2⟩
    ·rintro⟨q,d,f,h2⟩
     rcases au.1 d with rfl|d
     ·exact .inl ⟨by rw[←f];exact O,by rw[h2]⟩
     ·exact .inr ⟨q,d,f,h2⟩
  |false=>
   have Y:∀p r,L=p::r→ky p≠[]:=fun p r e O=>by have:=g.2 ⟨p,r,e,O⟩;cases this
   refine aH.2 (H _ _ ⟨rfl,L,j,T,⟨o,fun q d=>⟨rfl,?_⟩⟩,fun q d=>d,aq _,fun k v=>?_⟩)
   ·refine kU.2 fun w=>?_
    rcases L with _|⟨p,r⟩
    ·cases d
    rcases au.1 d with rfl|d
    ·exact Y _ _ rfl w
    ·have f:=zW.1 ((bB.1 o).1 q d)
     change be (ky p) (ky q)=true at f;rw[w,JK]at f;cases f
   ·simp only[Bool.false_eq_true,if_false]
    constructor
    ·rintro(⟨_,h⟩|⟨q,d,f,h2⟩)
     ·cases h
     ·exact⟨q,d,f,h2⟩
    ·rintro⟨q,d,f,h2⟩
     exact .inr ⟨q,d,f,h2⟩
 rintro⟨s3,v3⟩ h3 ⟨rfl,A,C,I,hbg,D,hll,z⟩;simp only at C I z;refine K4 (B:=1000000) (aq _) 1000001 0 (by omega) (W:=W) C I hbg rfl (fun p U=>P p (D p U)) (by omega) (fun y hy=>aG (hW y hy) k2.size) fun h4 s4 ks Lb S V G F=>?_
 obtain⟨E,hgF⟩:=G.done;have hLl:Lb.length≤100000:=by
  have:=Og E;rw[Fo.to_of]at this;omega
 refine HS (W:=W) (S.sl fun _ _ _ h=>h) V hLl (fun y hy=>aG (hW y hy) (k2.tr F).size) fun h5 b5 Q X=>?_
 refine hk h5 b5 ⟨_,_,Q,E,fun k v=>?_⟩ ((k2.tr F).tr X)
 rw[QJ];unfold UV;rw[hgF,z]
theorem FG{h:af}{t:Tr}{k:af→Prop}(e:∀h',h'[h.size]? =some (.cells (py t).toArray cn (0,0))→Upd No h h'→k h'):
  At (hnew h (py vX) cn) (fun b=>yr b (some (aI h)) 0 (py t)∧At (jK b (aI h) 0 (py t)) k):=
 bO fun b b1 k1=>eE (c:=py vX) (vs:=py t) b1 rfl fun h2 b2 d=>e h2 b2 (k1.own d (aq _))
theorem Hf{N:Nat}(st:StP N)(sh:StH N)(O:N≤100000){W L:Nat→Prop}{x:Hs}{h:af}{s:SliceV}{l:List Pr}(A:Sl ga 2 L h s l)(hW:∀y,W y→y<h.size)(hn:l.length≤N)(V:∀p∈l,p.1.size≤256∧p.2.size≤4096){K:Tr×Int→af→Prop}
  (hk:∀o t,TreeIs W o 0 x t (wd l)→Upd No h o→K (t,0) o):HC PG nS [.int .i64 0,.agg #[.int .u64 x.k0,.int .u64 x.k1,.int .u64 x.mask],.slice s.a s.len s.cap] [.agg [.int .i64,.int .u64,.int .u64,.int .u64,.ptr,.ptr],.c (.int .i64)] K h:=by
 refine uf 0 (x.k0,x.k1,x.mask) s ?_;unfold qR cp fA nv aC ag GY ar H6 cP oG jR kJ oq cr;refine bO fun J b1 k1=>bO fun h2 b2 G=>?_
 have z1:=bo b1;have z2:=bo b2;have s1:h.size≤J.size:=k1.size;have c1:=G.get0 b1;have n:=k1.tr G;refine⟨_,vc c1 0,_,vc c1 1,_,vc c1 2,?_⟩;refine ER (W:=No) (x:=x) (fun _ h=>h.elim) (.inl rfl) fun h3 Q _ k3=>?_
 refine FG (t:=Q) fun Z b4 P=>?_
 refine aH.2 ?_;have d:=k3.tr P;have w:=n.tr d;have E:=A.len;refine LoopP.ghost (fun(i:Nat) (t:Int) o=>t=(i:Int)∧i≤l.length∧Upd No Z o) (fun i=>l.length-i) 0 ⟨rfl,bJ _,Upd.refl _ _⟩ ?_
 rintro I i t S ⟨rfl,hi,q⟩ hI;have g:=w.tr q;refine av (fun b=>?_) fun R=>?_
 ·have b:i<l.length:=by omega
  obtain⟨a,ha,_,hv⟩:=(A.upd g fun _ h=>h.elim).at (aj b)
  have H:=V _ (g6 b);refine⟨⟨by omega,by omega⟩,a,ha,l[i].1,hv 0 _ rfl,l[i].2,hv 1 _ rfl,?_⟩
  refine FH (p:=l[i]) fun Y v j=>⟨_,vc v 0,_,vc v 1,H8 H.1 H.2 (aH.2 ?_)⟩
  rw[um b (by omega)];exact hI (i+1) _ _ ⟨rfl,b,q.tr j⟩ (by omega)
 ·have B:=Pro.lt (h2:=h2) hW n
  have e:∀y,Pro W h h2 y→y<S.size:=fun y m=>aG (B y m) (d.tr q).size
  have X:=(d.tr q).get0 b2;have f:=(d.tr q).get0 c1;refine aH.2 ⟨_,vc f 0,_,vc f 1,_,vc f 2,_,vc f 0,_,vc f 1,_,vc f 2,?_⟩;refine Pk st sh O (z:=x) (A.upd g fun _ h=>h.elim) e hn fun Y v U j=>?_
  have C:=j.get0 f;refine⟨⟨vc C 0,vc C 1,vc C 2⟩,?_⟩;refine DX (x:=x) (.inr ⟨v,rfl,U⟩) (fun y m=>aG (e y m) j.size) fun h7 D T F=>?_
  refine eE (c:=py vX) (vs:=py D) (F.get0 (j.get0 X)) rfl fun h8 k u=>?_
  refine⟨_,vc k 0,_,vc k 1,_,vc k 2,_,vc k 3,_,vc k 4,_,vc k 5,?_⟩;exact hk h8 D ((T.updM u (fun y m=>.inl (.inr (by have m:y=J.size:=m;omega)))).less Pro.sub) (((g.tr j).tr F).own u s1)
theorem He{N:Nat}(st:StP N)(J:N≤100000){W H:Nat→Prop}{x:Hs}{h:af}{s:SliceV}{l:List Pr}(w:Sl ga 2 H h s l)(hW:∀y,W y→y<h.size)(hn:l.length≤N)(A:∀p∈l,p.1.size≤256∧p.2.size≤4096){K:Tr×Int→af→Prop}
  (Y:∀n t,TreeIs W n 1 x t (wd l)→Upd No h n→K (t,0) n):HC PG nS [.int .i64 1,.agg #[.int .u64 x.k0,.int .u64 x.k1,.int .u64 x.mask],.slice s.a s.len s.cap] [.agg [.int .i64,.int .u64,.int .u64,.int .u64,.ptr,.ptr],.c (.int .i64)] K h:=by
 refine uf 1 (x.k0,x.k1,x.mask) s ?_;unfold qR cp fA nv aC ag GY ar H6 cP oG jR kJ oq cr;refine bO fun G b1 k1=>bO fun h2 b2 E=>?_
 have z1:=bo b1;have z2:=bo b2;have s1:h.size≤G.size:=k1.size;have c1:=E.get0 b1;have m:=k1.tr E;refine⟨_,vc c1 0,_,vc c1 1,_,vc c1 2,?_⟩;refine ER (W:=No) (x:=x) (fun _ h=>h.elim) (.inr rfl) fun h3 O _ Z=>?_
 refine FG (t:=O) fun V b4 L=>?_
 refine aH.2 ?_;have d:=Z.tr L;have v:=m.tr d;have C:=w.len;refine LoopP.ghost (fun(i:Nat) (t:Int) n=>t=(i:Int)∧i≤l.length∧Upd No V n) (fun i=>l.length-i) 0 ⟨rfl,bJ _,Upd.refl _ _⟩ ?_
 rintro I i t Q ⟨rfl,hi,o⟩ hI;have f:=v.tr o;refine av (fun b=>?_) fun P=>?_
 ·have b:i<l.length:=by omega
  obtain⟨a,ha,_,hv⟩:=(w.upd f fun _ h=>h.elim).at (aj b)
  have F:=A _ (g6 b);refine⟨⟨by omega,by omega⟩,a,ha,l[i].1,hv 0 _ rfl,l[i].2,hv 1 _ rfl,?_⟩
  refine FH (p:=l[i]) fun U u k=>⟨_,vc u 0,_,vc u 1,H8 F.1 F.2 (aH.2 ?_)⟩
  rw[um b (by omega)];exact hI (i+1) _ _ ⟨rfl,b,o.tr k⟩ (by omega)
 ·have z:=Pro.lt (h2:=h2) hW m
  have e:∀y,Pro W h h2 y→y<Q.size:=fun y j=>aG (z y j) (d.tr o).size
  have T:=(d.tr o).get0 b2;have d1:=(d.tr o).get0 c1;refine aX.2 (OV st J (w.upd f fun _ h=>h.elim) e hn (fun p hp=>by have:=(A p hp).1;omega) fun U u S k=>?_)
  refine DW (x:=x) (.inr ⟨u,rfl,S⟩) (fun y j=>aG (e y j) k.size) fun h7 B R D=>?_
  refine eE (c:=py vX) (vs:=py B) (D.get0 (k.get0 T)) rfl fun X g q=>?_
  refine⟨_,vc g 0,_,vc g 1,_,vc g 2,_,vc g 3,_,vc g 4,_,vc g 5,?_⟩;exact Y X B ((R.updM q (fun y j=>.inl (.inr (by have j:y=G.size:=j;omega)))).less Pro.sub) (((f.tr k).tr D).own q s1)
theorem JI{W i:Nat→Prop}{x:Hs}{h:af}{s:SliceV}{l:List Pr}(d:Sl ga 2 i h s l)(g:∀y,W y→y<h.size)(f:l.length≤100000)(c:∀p∈l,p.1.size≤256∧p.2.size≤4096){kind:Int}(b:kind=0∨kind=1){K:Tr×Int→af→Prop}
  (e:∀h' t,TreeIs W h' kind x t (wd l)→Upd No h h'→K (t,0) h'):HC PG nS [.int .i64 kind,.agg #[.int .u64 x.k0,.int .u64 x.k1,.int .u64 x.mask],.slice s.a s.len s.cap] [.agg [.int .i64,.int .u64,.int .u64,.int .u64,.ptr,.ptr],.c (.int .i64)] K h:=by
 rcases b with rfl|rfl
 ·exact Hf (stP.less (by omega)) (stH.less (by omega)) (aq _) d g f c e
 ·exact He (stP.less (by omega)) (aq _) d g f c e
end Go.Proofs
namespace Go.Proofs
open Go Go.Lift
def It.Ok(W:Nat→Prop)(h:af)(i:It):Prop:=RxN W h i.b i.sl i.w i.F∧Ap i.F∧i.key.length≤10000∧∀p∈Qv i.w i.F,i.key.length+p.1.length≤10000
theorem It.Ok.updM{W M:Nat→Prop}{h c:af}(k:Upd M h c)(hm:∀b,M b→W b∨h.size≤b){i:It}(o:It.Ok W h i):It.Ok W c i:=⟨o.1.updM k hm,o.2⟩
end Go.Proofs
namespace Go.Proofs
open Go Go.Lift
end Go.Proofs
namespace Go.Proofs
open Go Go.Lift
end Go.Proofs
namespace Go.Proofs
open Go Go.Lift
abbrev bA:ByteArray:=⟨#[97]⟩
end Go.Proofs
namespace Go.Proofs
open Go Go.Lift
end Go.Proofs
namespace Go.Proofs
open Go Go.Lift
end Go.Proofs
namespace Go.Proofs
end Go.Proofs
namespace Go.Proofs
open Go Go.Lift
end Go.Proofs
namespace Go.Proofs
open Go Go.Lift
end Go.Proofs
namespace Go.Proofs
end Go.Proofs
namespace Go.Proofs
open Go Go.Lift
def wl(x:Hs):Nat→List Pr→List Pr
 |0,l=>l
 |m+1,l=>Va x (12-m) l++(TJ x (12-m) l).flatMap (wl x m)
def cw(x:Hs):Nat→List Pr→Nat
 |0,_=>2
 |m+1,l=>2+((TJ x (12-m) l).map (cw x m)).sum
structure Fr where
 sp:SliceV
 sk:SliceV
 n:Nat
 ps:List Pr
 ks:List (Nat×List Pr)
def Fr.raw(f:Fr):SliceV×SliceV:=(f.sp,f.sk)
def Fr.rem(x:Hs)(f:Fr):List Pr:=f.ps++f.ks.flatMap fun k=>wl x (f.n-1) k.2
abbrev Wc(k:Nat×List Pr):Option Addr:=some ⟨k.1,0,none⟩
structure Fr.Ok(W G:Nat→Prop)(x:Hs)(h:af)(f:Fr):Prop where
 p:Sl ga 2 (fun y=>¬G y) h f.sp f.ps
 k:Sl vx 1 (fun y=>¬G y) h f.sk (f.ks.map Wc)
 pc:f.sp.len≤f.sp.cap
 kc:f.sk.len≤f.sk.cap
 t:∀k∈f.ks,TrieAt W x h (f.n-1) k.1 k.2∧k.2.length≤100000
 n0:f.ks≠[]→0<f.n
 n13:f.n≤13
theorem Fr.Ok.upd{W G M:Nat→Prop}{x:Hs}{h e:af}{f:Fr}(o:f.Ok W G x h)(k:Upd M h e)(g:∀b,M b→W b∨h.size≤b)(d:∀b,M b→¬G b∨h.size≤b):f.Ok W G x e:=
 ⟨o.p.upd k d,o.k.upd k d,o.pc,o.kc,fun q c=>⟨TrieAt.updM k g (o.t q c).1,(o.t q c).2⟩,o.n0,o.n13⟩
theorem Fr.Ok.sub{W G G':Nat→Prop}{x:Hs}{h:af}{f:Fr}(o:f.Ok W G x h)(e:∀b,G b→G' b):f.Ok W G' x h:=
 ⟨o.p.less fun b c=>.inl fun d=>c (e b d),o.k.less fun b c=>.inl fun d=>c (e b d),o.pc,o.kc,o.t,o.n0,o.n13⟩
theorem setCell{α:Type}{f:α→List Value}{c:Nat}{t:TypeId}{M:Nat→Prop}{h:af}{s:SliceV}{P Q:List α}{x y:α}{j:Nat}{v:Value}(n:OwnS f c t M h s (P++x::Q))(J:j<c)(F:f y=(f x).set j v){a:Addr}(A:s.a=some a){i:Nat}(hi:i=P.length){G:af→Prop}(D:∀m,OwnS f c t M m s (P++y::Q)→Upd M h m→G m):
  Wr h (adr (adr a (i*c)) j)∧At (hset h (adr (adr a (i*c)) j) v) G:=by
 subst hi;have u:=n.ne;have d:=n.len;have g:=n.cap;rcases n.blk with I|⟨b,e,k,B,hc,E⟩
 ·rw[ae,ax]at d;omega
 rw[A]at k;cases k;have K:(P.flatMap f).length=P.length*c:=qG u P;rw[cX,cy]at hc;have H:=(u x).1;have C:adr (adr ⟨b,0,none⟩ (P.length*c)) j=⟨b,P.length*c+j,none⟩:=by rw[dt,dt,Nat.zero_add]
 rw[C];have o:P.length*c+j<(P.flatMap f++(f x++Q.flatMap f)++e).toArray.size:=by
  simp only[List.size_toArray,ae];omega
 refine⟨gI hc o,Bv hc fun m p q=>D m ⟨by rw[d];simp,u,g,.inr ⟨b,e,A,B,?_,E⟩⟩ (q.mono fun z w=>.inl (by have w:z=b:=w;rw[w];exact B))⟩
 rw[p];congr 3
 rw[cX,cy,F];apply Array.toList_inj.1;rw[Array.toList_setIfInBounds];simp only[aF];rw[List.set_append_right _ _ (by omega),show P.length*c+j-(P.flatMap f).length=j by omega,List.set_append_left _ _ (by omega)]
end Go.Proofs
namespace Go.Proofs
open Go Go.Lift
end Go.Proofs
namespace Go.Proofs
open Go Go.Lift
def Below(W:Nat→Prop)(x:Hs)(h:af)(m:Nat)(r:Option Addr)(l:List Pr):Prop:=(r=none∧l= [])∨∃b,r=some ⟨b,0,none⟩∧TrieAt W x h m b l
theorem Below.upd0{W:Nat→Prop}{x:Hs}{h c:af}{m:Nat}{r:Option Addr}{l:List Pr}(k:Upd No h c)(t:Below W x h m r l):Below W x c m r l:=t.imp id fun⟨b,e,t⟩=>⟨b,e,TrieAt.upd0 k t⟩
theorem Below.less{W W':Nat→Prop}{x:Hs}{h:af}{m:Nat}{r:Option Addr}{l:List Pr}(hm:∀b,W' b→W b∨h.size≤b)(t:Below W x h m r l):Below W' x h m r l:=t.imp id fun⟨b,e,t⟩=>⟨b,e,TrieAt.less hm t⟩
theorem Below.updM{W M:Nat→Prop}{x:Hs}{h c:af}{m:Nat}{r:Option Addr}{l:List Pr}(k:Upd M h c)(hm:∀b,M b→W b∨h.size≤b)(t:Below W x h m r l):Below W x c m r l:=t.imp id fun⟨b,e,t⟩=>⟨b,e,TrieAt.updM k hm t⟩
end Go.Proofs
namespace Go.Proofs
open Go Go.Lift
end Go.Proofs
namespace Go.Proofs
open Go Go.Lift
end Go.Proofs
namespace Go.Proofs
open Go Go.Lift
end Go.Proofs
namespace Go.Proofs
open Go Go.Lift
end Go.Proofs
namespace Go.Proofs
open Go Go.Lift
end Go.Proofs
namespace Go.Proofs
open Go Go.Lift
def OQ(p:Pr):Int:=if 256<p.1.size then 2 else if 4096<p.2.size then 3 else 0
theorem OO{p:Pr}(h:OQ p=0):p.1.size≤256∧p.2.size≤4096:=by
 unfold OQ at h;split at h
 ·cases h
 ·split at h
  ·cases h
  ·omega
theorem SV{p:Pr}{h:af}{K:Int→af→Prop}(b:K (OQ p) h):HC PG tX [.string p.1,.string p.2] [.c (.int .i64)] K h:=by
 refine Cy p.1 p.2 ?_;unfold xS;unfold OQ at b;refine av (fun e=>?_) fun e=>av (fun c=>?_) fun c=>?_
 ·rw[if_pos (by omega)]at b;exact b
 ·rw[if_neg (by omega),if_pos (by omega)]at b;exact b
 ·rw[if_neg (by omega),if_neg (by omega)]at b;exact b
end Go.Proofs
namespace Go.Proofs
open Go Go.Lift
theorem Qb{t:Tr}{h:af}{K:Int→af→Prop}(b:∀h',Upd No h h'→K t.1 h'):HC PG lf [U7 t] [.c (.int .i64)] K h:=by
 refine DE t ?_;unfold xm aC oq;exact bO fun c b1 k1=>⟨_,vc b1 0,b c k1⟩
end Go.Proofs
namespace Go.Proofs
open Go Go.Lift
theorem Ih:∀{x y:List UInt8} {i:Nat} {a b:UInt8},(∀j,j<i→x[j]? =y[j]?)→x[i]? =some a→y[i]? =some b→a≠b→be x y=decide (a.toNat<b.toNat)
 | [],_,_,_,_,_,h,_,_=>by simp at h
 |_::_,[],_,_,_,_,_,h,_=>by simp at h
 |c::x,d::y,0,a,b,_,h1,h2,hne=>by
  simp only[cE,bX.injEq]at h1 h2;subst h1 h2;simp only[be];rw[beq_false_of_ne hne];simp[rp]
 |c::x,d::y,i+1,a,b,he,h1,h2,hne=>by
  have e:=he 0 (by omega);simp only[cE,bX.injEq]at e;subst e;simp only[List.getElem?_cons_succ]at h1 h2;simp only[be];rw[Ih (i:=i) (fun j f=>by simpa using he (j+1) (by omega)) h1 h2 hne]
  simp[UInt8.lt_irrefl]
theorem Ig:∀{x y:List UInt8} {i:Nat},(∀j,j<i→x[j]? =y[j]?)→i≤x.length→i≤y.length→(i=x.length∨i=y.length)→be x y=decide (x.length<y.length)
 | [],[],_,_,_,_,_=>by simp[be]
 | [],_::_,_,_,_,_,_=>by simp[be]
 |_::_,[],_,_,_,_,_=>by simp[be]
 |c::x,d::y,0,_,_,_,h=>by simp at h
 |c::x,d::y,i+1,he,h1,h2,h3=>by
  have e:=he 0 (by omega);simp only[cE,bX.injEq]at e;subst e;simp only[be];rw[Ig (i:=i) (fun j b=>by simpa using he (j+1) (by omega)) (by simpa using h1) (by simpa using h2) (by simpa using h3)]
  simp[UInt8.lt_irrefl]
theorem Qs{a b:ByteArray}(C:a.size≤1000000){h:af}{K:Bool→af→Prop}(w:K (decide (kl a b)) h):HC PG Bl [.string a,.string b] [.c .bool] K h:=by
 refine Ns a b ?_;unfold GL;have A:a.data.toList.length=a.size:=by simp
 have B:b.data.toList.length=b.size:=by simp
 have f:∀{p:Prop} [Decidable p],be a.data.toList b.data.toList=decide p→K (decide p) h:=fun{p} _ e=>by
  have:decide (kl a b)=decide p:=by
   rw[←e,←ByteArray.toList_eq,←ByteArray.toList_eq];exact jZ.2 (by rw[decide_eq_true_iff];exact Af)
  rw[←this];exact w
 refine LoopP.ghost (fun(i:Nat) (t:Int) n=>t=(i:Int)∧i≤a.size∧i≤b.size∧n=h∧∀j,j<i→a.data.toList[j]? =b.data.toList[j]?) (fun i=>a.size-i) 0 ⟨rfl,bJ _,bJ _,rfl,fun j u=>absurd u (Nat.not_lt_zero _)⟩ ?_
 rintro I i t n ⟨rfl,y,x,rfl,k⟩ z;refine Join.intro (fun t h2=>t=decide (i<a.size∧i<b.size)∧h2=n) (fun R v=>?_) ?_
 ·refine av (fun c=>v _ _ ⟨?_,rfl⟩) fun m=>v _ _ ⟨?_,rfl⟩
  ·rw[decide_eq_decide];omega
  ·rw[eq_comm,decide_eq_false_iff_not];omega
 ·rintro t h2 ⟨rfl,rfl⟩
  refine av (fun c=>?_) fun m=>?_
  ·have s:a.data.toList[i]? =some a[i]:=by rw[←Q2,getElem?_pos a i c.1]
   have o:b.data.toList[i]? =some b[i]:=by rw[←Q2,getElem?_pos b i c.2]
   refine⟨a[i],by omega,by rw[bN,getElem?_pos a i c.1],b[i],by omega,by rw[bN,getElem?_pos b i c.2],?_⟩
   refine CondP.intro (fun g=>?_) fun d=>?_
   ·refine⟨a[i],by omega,by rw[bN,getElem?_pos a i c.1],b[i],by omega,by rw[bN,getElem?_pos b i c.2],?_⟩
    refine f ?_;rw[Ih k s o fun e=>by rw[e]at g;simp at g]
    rw[decide_eq_decide];omega
   ·have d:a[i]=b[i]:=by
     have:((a[i].toNat:Int))=(b[i].toNat:Int):=by simpa using d
     exact UInt8.toNat_inj.1 (by omega)
    rw[rt c.1 (by omega)];refine z (i+1) _ _ ⟨rfl,by omega,by omega,rfl,fun j u=>?_⟩ (by omega)
    rcases eD j i with q|q
    ·exact k j q
    ·have:j=i:=by omega
     subst this;rw[s,o,d]
  ·refine f ?_
   rw[Ig k (by omega) (by omega) (by omega),decide_eq_decide];omega
end Go.Proofs
namespace Go.Proofs
open Go Go.Lift
abbrev Rt:=Int×Int×Int×Int×SliceV
abbrev UT(r:Rt):List Value:= [.int .i64 r.1,.int .u64 r.2.1,.int .u64 r.2.2.1,.int .u64 r.2.2.2.1,.slice r.2.2.2.2.a r.2.2.2.2.len r.2.2.2.2.cap]
def hx(kind v:Int):Int:=if kind=0 then v else 0
end Go.Proofs
namespace Go.Proofs
open Go Go.Lift
end Go.Proofs
namespace Go.Proofs
open Go Go.Lift
end Go.Proofs
namespace Go.Proofs
open Go.Lift
abbrev Ch:=ByteArray×ByteArray×ByteArray×Bool×Bool
end Go.Proofs
namespace Go.Proofs
open Go Go.Lift
end Go.Proofs
namespace Go.Proofs
open Go Go.Lift
theorem Mx{h:af}{b:Nat}{c:Array Value}{t:TypeId}(d:h[b]? =some (.cells c t (0,0))) (hc:0<c.size):iX h ⟨b,0,none⟩:=⟨c,t,d,hc⟩
theorem TrieAt.plain{W:Nat→Prop}{x:Hs}{h:af}:∀{m b:Nat} {l:List Pr},TrieAt W x h m b l→iX h ⟨b,0,none⟩
 |0,_,_,t=>by obtain⟨_,_,_,c,_⟩:=BuckAt.ex t;exact Mx c (by simp[iC])
 |m+1,_,_,⟨s,nd,_⟩=>by obtain⟨_,_,_,_,_,c,_⟩:=nd.ex;exact Mx c (by simp[iC])
end Go.Proofs
namespace Go.Proofs
open Go Go.Lift
end Go.Proofs
namespace Go.Proofs
open Go Go.Lift
theorem RxN.plain{W:Nat→Prop}{h:af}{b:Nat}{sl:ByteArray}{w:Option ByteArray}{F:Fo}(r:RxN W h b sl w F):iX h ⟨b,0,none⟩:=by
 obtain⟨val,s,d,ks,c,_⟩:=r;exact Mx c (by simp[TE])
end Go.Proofs
namespace Go.Proofs
open Go Go.Lift
end Go.Proofs
