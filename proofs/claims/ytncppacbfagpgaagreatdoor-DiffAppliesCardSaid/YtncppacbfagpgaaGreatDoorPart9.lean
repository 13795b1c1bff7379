/- A part of the proof that the named laws of this program answer true, whatever the input. -/
import Derived.Test.YtncppacbfagpgaaGreatDoorPart8
import Derived.Test.YtncppacbfagpgaaGreatDoorPart4
import Derived.Test.YtncppacbfagpgaaGreatDoorPart7
open Bool renaming eq_iff_iff→iI,and_eq_true→bK
open ByteArray renaming data_extract→mQ
open Int renaming toNat_natCast→aU,tmod→eB
open List renaming pairwise_append→cn,mem_cons_self→aw,append_nil→aL,mem_append_left→cI,mem_append→bF,mem_append_right→df,length_append→ac,length_nil→aG,length_cons→ao,getElem?_append_right→aN,length_singleton→aE,length_eq_zero_iff→ay,nil_append→cB,cons_append→cJ,cons→eT,mem_cons→aA,pairwise_cons→aJ,drop_zero→cL,drop_left→gR,take_length→bS,append_assoc→ar,foldl_cons→jQ,take_succ_cons→dL,take_append_drop→aI,length→fu,length_drop→aV,mem_of_getLast?→fY,mem_singleton→aD,take_take→ip,length_take→aH,mem_cons_of_mem→aB,pairwise_singleton→cx,sublist_append_right→pm,getElem?_eq_getElem→af,take_of_length_le→bm,length_pos_iff→fI,getElem_mem→aZ,take_succ_eq_append_getElem→aX
open List.Pairwise renaming nil→gF
open Nat renaming lt_of_lt_of_le→aC,le_refl→al,sub_self→dP,one_pos→oC,zero_le→aS,sub_zero→eZ,le_trans→bj,min_eq_left→bJ,min_eq_right→g9
open Option renaming some→bR
namespace Go.Proofs
open Go Go.Lift
theorem Hu{h:ae}{b:Nat}{c:Array Value}{t:TypeId}{v:Value}{k:ae→Prop}(a:h[b]? =some (.cells c t (0,0))) (d:0<c.size) (e:∀h',h'[b]? =some (.cells (c.setIfInBounds 0 v) t (0,0))→Upd (· =b) h h'→k h'):Wr h ⟨b,0,none⟩∧At (hset h ⟨b,0,none⟩ v) k:=
 ⟨iV a d,un a e⟩
theorem Vq{L D T:List Pr}{p:Pr}(c:cf L)(e:L=D++p::T):Ks D p=D++ [p]:=by
 subst e;have b:=cn.1 c;rw[Dr p b.1];have:=Dq (p:=p) (A:=D) (B:= []) fun r a=>b.2.2 r a p (aw ..)
 rw[aL]at this;exact this
theorem Wy{z:Hs}{lev:Nat}{D A B:List Pr}{f:Pr}(p:Srt (aab z lev) (D++(A++B)))(o:∀d∈D,∀t∈A++B,ck z lev d.1<ck z lev t.1)(k:f∈A)(i:∀a∈A,ck z lev a.1=ck z lev f.1)(m:∀b∈B,ck z lev b.1≠ck z lev f.1):
  part z lev (ck z lev f.1) (D++(A++B))=A∧part z lev (ck z lev f.1) D= []∧(∀c,c≠ck z lev f.1→part z lev c (D++A)=part z lev c D)∧part z lev (ck z lev f.1) (D++A)=A∧∀d∈D++A,∀t∈B,ck z lev d.1<ck z lev t.1:=by
 have j:part z lev (ck z lev f.1) D= []:=yi fun d hd=>by have:=o d hd f (cI _ k);omega
 have n:part z lev (ck z lev f.1) A=A:=Ig i;have s:part z lev (ck z lev f.1) B= []:=yi m;have app:∀{c} (X Y:List Pr),part z lev c (X++Y)=part z lev c X++part z lev c Y:=fun X Y=>List.filter_append ..
 refine⟨by rw[app,app,j,n,s];simp,j,fun c hc=>?_,by rw[app,j,n];rfl,fun d hd t g=>?_⟩
 ·have:part z lev c A= []:=yi fun a q=>by rw[i a q];exact fun e=>hc e.symm
  rw[app,this,aL]
 ·rcases bF.1 hd with hd|hd
  ·exact o d hd t (df _ g)
  ·have v:=of_decide_eq_false (p.right.cross d hd t g)
   have h2:=m t g;have u:=i d hd;omega
set_option maxHeartbeats 1000000 in
theorem Ya{N:Nat}(st:StH N)(hN:N≤100000){z:Hs}{W:Nat→Prop}:∀(m:Nat),m≤13→∀{h:ae} {s:SliceV} {L:List Pr},Sl (sG z) 3 No h s L→(∀y,W y→y<h.size)→cf L→L.length≤N→∀{K:Option Addr→ae→Prop},
  (∀h' b,TrieAt W z h' m b L→Upd No h h'→K (some ⟨b,0,none⟩) h')→HC PG rz [.slice s.a s.len s.cap,.int .i64 ((13-m:Nat):Int)] [.c .ptr] K h:=by
 intro m;induction m with
 |zero=>
  intro _ h s L hs hW hr hn K hk;have gW:∀{h'},Upd No h h'→∀y,W y→y<h'.size:=fun k y hy=>aC (hW y hy) k.size
  refine Eg s ((13-0:Nat):Int) ?_;unfold yO bI cl aK nv ld dK qO AW QB wV BQ;refine aW fun Z b1 k1=>⟨_,Kb b1,au.2 ?_⟩
  refine Ml (gW k1) fun h4 b4 bk4 hu4=>?_
  have hlen:=hs.len;refine LoopP.ghost (fun(g:List Pr×List Pr) (t:Option Addr×Int) h'=>(∃b,t.1=some ⟨b,0,none⟩∧BuckAt W h' b g.1)∧t.2=(g.1.length:Int)∧L=g.1++g.2∧Upd No h h') (fun g=>g.2.length) ([],L) ⟨⟨b4,rfl,bk4⟩,rfl,rfl,k1.tr hu4⟩ ?_
  rintro I ⟨D,T⟩ ⟨tb,ti⟩ h5 ⟨⟨b,Y,bk⟩,e2,w,V⟩ hI;simp only at Y e2 w bk;subst Y e2;have hl3:L.length=D.length+T.length:=by rw[w,ac]
  refine az (fun hlt=>?_) fun hge=>?_
  ·rcases T with _|⟨p,T⟩
   ·simp only[aG]at hl3;omega
   ·simp only[ao]at hl3
    obtain⟨a,ha,_,hv⟩:=(hs.upd V fun _ h=>h.elim).at (i:=D.length) (x:=p) (by rw[w,aN (al _),dP];rfl)
    refine⟨⟨by omega,by omega⟩,a,ha,p.1,hv 0 _ rfl,p.2,hv 1 _ rfl,eP z p.1,hv 2 _ rfl,?_⟩
    refine aW fun h6 b6 k6=>?_
    refine cU (c:= [.string ⟨#[]⟩,.string ⟨#[]⟩,.int .u64 0]) (vs:=sG z p) b6 rfl fun h7 b7 Q=>?_
    have hu07:=(V.tr k6).own Q V.size;have k57:Upd No h5 h7:=k6.own Q (al _);refine⟨p.1,BS b7 0 0,p.2,BS b7 0 1,?_⟩;have hrD:cf D:=by rw[w]at hr;exact(cn.1 hr).1
    refine Ht (bk.upd k57 fun _ h=>h.elim) (gW hu07) hrD (by omega) p fun h8 b8 bk8 hu8=>?_
    rw[Vq hr w]at bk8;have ew:IntKind.wrap .i64 ((D.length:Int)+1)=((D++ [p]).length:Int):=by rw[ac,aE,fx (by omega)];omega
    rw[ew];exact hI (D++ [p],T) _ _ ⟨⟨b8,rfl,bk8⟩,rfl,by rw[w];simp,hu07.tr hu8⟩ (by simp)
  ·have hT:T= []:=ay.1 (by omega)
   subst hT;rw[aL]at w;subst w;exact hk h5 b bk V
 |succ m ih=>
  intro hm h s L hs hW hr hn K hk;have gW:∀{h'},Upd No h h'→∀y,W y→y<h'.size:=fun k y hy=>aC (hW y hy) k.size
  have hlev:13-(m+1)=12-m:=by omega
  have O:12-m<13:=by omega
  refine Eg s ((13-(m+1):Nat):Int) ?_;unfold yO bI cl aK nv ld dK qO AW QB wV BQ;rw[hlev];refine aW fun Z b1 k1=>⟨_,Kb b1,?_⟩
  have ne:(((12-m:Nat):Int)==(13:Int))=false:=by rw[beq_eq_false_iff_ne];omega
  rw[ne];refine aj.2 (aW fun h2 b2 k2=>?_)
  have z1:=bD b1;have z2:=bD b2;have s1:=k1.size;refine Hu b2 oC fun h3 b3 hu3=>?_
  have c1:=hu3.oth (k2.get0 b1) (by omega);have two3:Two h.size Z.size (12-m) h3:=⟨c1,b3⟩;have k03:Upd No h h3:=(k1.tr k2).own hu3 s1;have s3:h2.size≤h3.size:=hu3.size;refine Vl (hs.upd k03 fun _ h=>h.elim) (by omega) fun e h4 ho4 hu4=>?_
  have two4:=two3.upd hu4;refine st (aaa z (12-m)) (ab1 O (by omega) (by omega)) ho4 two4 (by omega) fun h5 R ho5 hst V=>?_
  have k45:Upd No h3 h5:=hu4.trans V fun b hb=>.inr hb
  have two5:=two3.upd k45;have hRl:=hst.eqf.len;have hRp:∀c,part z (12-m) c R=part z (12-m) c L:=fun c=>by
   by_cases hex:∃q∈R++L,ck z (12-m) q.1=c
   ·obtain⟨q,_,hq⟩:=hex
    have Y:∀X:List Pr,X.filter (Mj (aab z (12-m)) q)=part z (12-m) c X:=fun X=>List.filter_congr fun p _=>by rw[Y6,hq]
    rw[←Y,←Y];exact hst.eqf.flt q
   ·rw[yi fun p hp e=>hex ⟨p,cI _ hp,e⟩,yi fun p hp e=>hex ⟨p,df _ hp,e⟩]
  have k05:=k03.tr k45;refine rc (gW k05) fun h6 b6 nd6 hu6=>?_
  have k06:=k05.tr hu6;have hlen:=ho5.len;have F:Sl (sG z) 3 No h6 e R:=(ho5.sl fun _ _ _ h=>h).upd hu6 fun _ h=>h.elim
  refine LoopP.ghost (fun(g:List Pr×List Pr) (t:SliceV×Option Addr) h'=>R=g.1++g.2∧(∀d∈g.1,∀y∈g.2,ck z (12-m) d.1<ck z (12-m) y.1)∧Sl (sG z) 3 No h' t.1 g.2∧t.1.len≤t.1.cap∧(∃b sl,t.2=some ⟨b,0,none⟩∧NodeAt W h' b sl∧∀c,c<32→SlotIs W z h' m sl c (part z (12-m) c g.1))∧Upd No h6 h') (fun g=>g.2.length) ([],R)
   ⟨rfl,fun d hd=>(by cases hd),F,ho5.cap,⟨b6,_,rfl,nd6,fun c _=>.inl ⟨rfl,rfl,rfl⟩⟩,Upd.refl _ _⟩ ?_
  rintro I ⟨D,T⟩ ⟨sT,tb⟩ h7 ⟨w,hDT,o,hcT,⟨b,sl,Y,nd,F⟩,Q⟩ hI;simp only at Y w hDT o hcT nd F;subst Y;have S:=o.len;have hRT:R.length=D.length+T.length:=by rw[w,ac]
  have k07:=k06.tr Q;have two7:=(two5.upd hu6).upd Q;refine az (fun hgt=>?_) fun hle=>?_
  ·rcases T with _|⟨p,T⟩
   ·simp only[aG]at S;simp only at hgt;omega
   obtain⟨a,ha,_,hv⟩:=o.at (i:=0) (x:=p) rfl;refine⟨_,Kb two7.2,⟨by omega,by simp only[ao]at S;simp only;omega⟩,a,ha,p.1,hv 0 _ rfl,p.2,hv 1 _ rfl,eP z p.1,hv 2 _ rfl,?_⟩
   have v:∀{h8},Upd No h7 h8→Two h.size Z.size (12-m) h8:=fun k=>two7.upd k
   refine⟨Jg (z:=z) O two7.1 p fun h8 k8=>aW fun h9 b9 k9=>Hu b9 oC fun h10 P hu10=>?_,aW fun h8 b8 k8=>⟨?_,Kb (v k8).2,Jg (z:=z) O (v k8).1 p fun h9 k9=>Hu (k9.get0 b8) oC fun h10 P hu10=>?_⟩⟩
   case refine_2=>
    obtain⟨a',ha',_,U⟩:=(o.upd k8 fun _ h=>h.elim).at (i:=0) (x:=p) rfl
    rw[ha]at ha';cases ha';exact⟨U 0 _ rfl,U 1 _ rfl,U 2 _ rfl⟩
   case' refine_1=>
    have n:Upd No h7 h10:=(k8.tr k9).own hu10 k8.size;obtain⟨vb,evb⟩:∃vb,vb=h8.size:=⟨_,rfl⟩;rw[cY h8,←evb];rw[←evb]at P
   case' refine_3=>
    have n:Upd No h7 h10:=(k8.tr k9).own hu10 (al _);obtain⟨vb,evb⟩:∃vb,vb=h7.size:=⟨_,rfl⟩;rw[cY h7,←evb];rw[←evb]at P
   all_goals
    have hTl:(p::T).length≤N:=by omega
    refine U4 (o.upd n fun _ h=>h.elim) (by omega) (g:=fun q=>decide (ck z (12-m) q.1≠ck z (12-m) p.1)) (fun q _ h' K' hu' hK=>?_) fun h11 A B e u hA hBn hBc hu11=>?_
    ·refine HV.mk' (Jp (q.1,q.2,eP z q.1) ⟨Z.size,0,none⟩ ⟨vb,0,none⟩ ?_)
     unfold Am ag ld ax wV Rh;refine aW fun h12 b12 k12=>?_
     have k':=hu'.tr k12;refine⟨_,Kb (v (n.tr k')).2,_,vc b12 0,_,vc b12 1,_,vc b12 2,_,Kb (k'.get0 P),?_⟩;refine Jg (z:=z) O (v (n.tr k')).1 q fun h13 k13=>⟨Kb ((k'.tr k13).get0 P),?_⟩
     have eb:(((ck z (12-m) q.1:Nat):Int) !=((ck z (12-m) p.1:Nat):Int))=decide (ck z (12-m) q.1≠ck z (12-m) p.1):=by
      rw[iI,bne_iff_ne,decide_eq_true_iff];omega
     rw[eb];exact hK h13 (k12.tr k13)
    obtain⟨A',rfl⟩:∃A',A=p::A':=by
     rcases A with _|⟨a0,A'⟩
     ·have:=(hBc p T (by rw[cB]at u;exact u.symm)).2
      simp at this
     ·rw[cJ]at u
      exact⟨A',by rw[(eT.inj u).1]⟩
    generalize hAe:p::A'=A at*;have hpA:p∈A:=by rw[←hAe];exact aw ..
    have hA1:0<A.length:=List.length_pos_of_mem hpA;have M:=hst.srt;rw[u]at hDT o hTl S;rw[w,u]at M;simp only[ac]at hTl S;have hcA:∀q∈A,ck z (12-m) q.1=ck z (12-m) p.1:=fun q hq=>by simpa using hA q hq
    have hcB:∀q∈B,ck z (12-m) q.1≠ck z (12-m) p.1:=fun q hq=>by
     rcases B with _|⟨b0,B'⟩
     ·cases hq
     have hb0:ck z (12-m) b0.1≠ck z (12-m) p.1:=by simpa using(hBc b0 B' rfl).2
     have Z:=of_decide_eq_false (M.right.cross p hpA b0 (aw ..));rcases aA.1 hq with rfl|hq
     ·exact hb0
     ·have h2:=of_decide_eq_false ((aJ.1 M.right.right).1 q hq)
      omega
    obtain⟨r1,r2,r3,r4,r5⟩:=Wy M hDT hpA hcA hcB;have hi:=yX z (12-m) p.1;have hsi:=F _ hi;rw[r2]at hsi;obtain⟨hsp,hskn⟩:sl.p (ck z (12-m) p.1)=none∧sl.k (ck z (12-m) p.1)=none:=by
     rcases hsi with⟨_,Z,h2⟩|⟨q,Z,_⟩|⟨Z,_⟩
     ·exact⟨Z,h2⟩
     ·cases Z
     ·simp at Z
    have H:=(Q.tr n).tr hu11;have j:=n.tr hu11;have b11:=hu11.get0 P;have E:=v j;refine Join.intro (fun t h'=>t=(A.length:Int)∧h'=h11) (fun R1 hR1=>?_) ?_
    ·refine az (fun hneg=>hR1 _ _ ⟨?_,rfl⟩) fun hpos=>hR1 _ _ ⟨?_,rfl⟩
     ·rcases B with _|⟨b0,B'⟩
      ·have S:sT.len=A.length+0:=S
       show((sT.len:Nat):Int)=(A.length:Int)
       omega
      ·have:=(hBc b0 B' rfl).1;omega
     ·rcases B with _|⟨b0,B'⟩
      ·have:=hBn rfl;omega
      ·exact(hBc b0 B' rfl).1
    rintro t h' ⟨rfl,rfl⟩;refine Join.intro (fun t h9=>∃b' sl',t=some ⟨b',0,none⟩∧NodeAt W h9 b' sl'∧(∀c,c<32→SlotIs W z h9 m sl' c (part z (12-m) c (D++A)))∧Upd No h' h9) (fun R1 hR1=>?_) ?_
    ·refine CondP.intro (fun J=>?_) fun C=>?_
     ·have J:A.length=1:=by have:=eq_of_beq J;omega
      have hAp:A= [p]:=by
       rw[←hAe]at J⊢;simp only[ao]at J;rw[ay.1 (show A'.length=0 by omega)]
      obtain⟨a',ha',_,U⟩:=(o.upd j fun _ h=>h.elim).at (i:=0) (x:=p) (by rw[←hAe];rfl)
      rw[ha]at ha';cases ha';refine⟨_,Kb b11,⟨by omega,by omega⟩,a,ha,p.1,U 0 _ rfl,p.2,U 1 _ rfl,?_⟩
      refine sA (nd.upd j fun _ h=>h.elim) (gW (k06.tr H)) hi (fun _ _=>hskn) p fun h12 b12 nd12 f=>hR1 _ _ ⟨b12,_,rfl,nd12,fun c hc=>?_,f⟩
      by_cases e:c=ck z (12-m) p.1
      ·rw[e,r4,hAp]
       exact .inr (.inl ⟨p,rfl,gH,gH⟩)
      ·rw[r3 c e]
       have t:=SlotIs.upd0 (j.tr f) (F c hc);have Y:upd sl.p (ck z (12-m) p.1) (some p) c=sl.p c:=ge e;have e2:upd sl.k (ck z (12-m) p.1) none c=sl.k c:=ge e;unfold SlotIs at t;rw[←Y,←e2]at t;exact t
     ·have C:A.length≠1:=fun e=>by rw[e]at C;simp at C
      refine⟨_,Kb b11,⟨by omega,(by show((A.length:Nat):Int)≤((sT.cap:Nat):Int);omega)⟩,_,Kb E.1,?_⟩;have ew:IntKind.wrap .i64 (((12-m:Nat):Int)+1)=((13-m:Nat):Int):=by rw[fx (by omega)];omega
      rw[ew];have hsA:=Sl.sub (o.upd j fun _ h=>h.elim) (l:=0) (hi:=A.length) (m:=sT.cap) (c:=sT.cap-0) (aS _) (by simp) (by omega)
      rw[cL,eZ,List.take_left]at hsA;have hAL:A=part z (12-m) (ck z (12-m) p.1) L:=by
       rw[←hRp,w,u];exact r1.symm
      refine ih (by omega) hsA (gW (k06.tr H)) (by rw[hAL];exact iX hr) (by omega) fun h12 kb t12 f=>?_
      refine⟨Kb (E.upd f).1,Kb (f.get0 b11),?_⟩;refine xt (nd.upd (j.tr f) fun _ h=>h.elim) (gW ((k06.tr H).tr f)) hi (fun _ _=>hsp) ⟨kb,0,none⟩ fun h13 b13 nd13 G=>⟨Kb ((E.upd f).upd G).1,hR1 _ _ ⟨b13,_,rfl,nd13,fun c hc=>?_,f.tr G⟩⟩
      by_cases e:c=ck z (12-m) p.1
      ·rw[e,r4]
       exact .inr (.inr ⟨by omega,gH,kb,gH,TrieAt.upd0 G t12⟩)
      ·rw[r3 c e]
       have t:=SlotIs.upd0 ((j.tr f).tr G) (F c hc);have Y:upd sl.p (ck z (12-m) p.1) none c=sl.p c:=ge e;have e2:upd sl.k (ck z (12-m) p.1) (some (some ⟨kb,0,none⟩)) c=sl.k c:=ge e;unfold SlotIs at t;rw[←Y,←e2]at t;exact t
    ·rintro t h9 ⟨b',sl',rfl,nd9,hs9,hu9⟩
     refine⟨⟨by omega,(by show((A.length:Nat):Int)≤((sT.len:Nat):Int);omega)⟩,?_⟩;rw[aU];have hsB:=Sl.sub ((o.upd j fun _ h=>h.elim).upd hu9 fun _ h=>h.elim) (l:=A.length) (hi:=(A++B).length) (m:=sT.cap) (c:=sT.cap-A.length) (by simp) (al _) (by rw[ac];omega)
     rw[gR,ac,Nat.add_sub_cancel_left,bS]at hsB;have elen:sT.len-A.length=B.length:=by omega
     rw[elen];refine hI (D++A,B) _ _ ⟨by rw[w,u,ar],r5,hsB,by simp only;omega,⟨b',sl',rfl,nd9,hs9⟩,H.tr hu9⟩ ?_
     simp only[u,ac];omega
  ·have hT:T= []:=by
    refine ay.1 ?_;simp only at hle;omega
   subst hT;rw[aL]at w;subst w;exact hk h7 b ⟨sl,nd,fun c hc=>by
    have:=F c hc
    rw[hRp c]at this
    exact this⟩ k07
end Go.Proofs
namespace Go.Proofs
open Go Go.Lift
theorem XA{z:Hs}{M:Nat→Prop}{h:ae}{so:SliceV}{out:List Pr}{p:Pr}{K:SliceV→ae→Prop}(c:OwnS (sG z) 3 aY M h so out)(hM:∀b,h.size≤b→M b)(g:out.length+1≤1000000000)
  (e:∀s' h',OwnS (sG z) 3 aY M h' s' (out++ [p])→Upd M h h'→K s' h'):
  ∃xs,SRow (hnew h (sG z p) aY) (some (aF h)) (1*3) xs∧AppP (some [.string (⟨#[]⟩:ByteArray),.string (⟨#[]⟩:ByteArray),.int .u64 0]) 3 40 aY so.a so.len so.cap 1 xs (hnew h (sG z p) aY) K:=by
 have k:=Upd.hnew No h (sG z p) aY;have d:OwnS (sG z) 3 aY (fun _=>True) (hnew h (sG z p) aY) ⟨some (aF h),1,1⟩ [p]:=⟨rfl,Nm z,al _,.inr ⟨h.size,[],rfl,trivial,cp ..,rfl⟩⟩
 refine⟨_,(d.sl (W:=No) fun _ _ _ h=>h).srow,?_⟩
 refine AppP.own (ys:= [p]) (c.upd k fun _ _ h=>h) rfl rfl rfl rfl (by omega) (by simp only[aE];omega) (hM _ (by rw[iY];omega)) fun s' h' a f=>?_
 exact e s' h' a ((Upd.hnew M h _ _).tr f)
theorem Ti(l:List Pr):(vP l).length≤l.length:=by
 have:∀(l acc:List Pr),(l.foldl (fun acc p=>iM p acc) acc).length≤acc.length+l.length:=by
  intro l;induction l with
  |nil=>intro acc;simp
  |cons p l ih=>
   intro acc;rw[jQ];have a:=ih (iM p acc);have h2:=AH p (l:=acc);simp only[ao];omega
 have:=this l [];unfold vP;simpa using this
theorem Vn{N:Nat}(st:StP N)(U:StH N)(hN:N≤100000){z:Hs}{W Z:Nat→Prop}{h:ae}{s:SliceV}{l:List Pr}(Y:Sl eC 2 Z h s l)(X:∀y,W y→y<h.size)(hn:l.length≤N){K:Option Addr→ae→Prop}
  (M:∀h' b,TrieAt W z h' 13 b (vP l)→Upd No h h'→K (some ⟨b,0,none⟩) h'):HC PG xe [.agg #[.int .u64 z.k0,.int .u64 z.k1,.int .u64 z.mask],.slice s.a s.len s.cap] [.c .ptr] K h:=by
 refine KY (z.k0,z.k1,z.mask) s ?_;unfold BP cl ag aK nv AC vO ax lM hP Kg AW QB;refine aW fun h1 b1 k1=>?_
 refine B4 st (by omega) (W':=No) (Y.upd k1 fun _ h=>h.elim) (fun _ h=>h.elim) (by omega) fun e v k _ O=>?_
 have V:=O.get0 b1;have C:=k1.tr O;have j:=Ti l;have n:=Aw l;generalize vP l=L at*;have d:=k.len;refine LoopP.ghost (fun(g:List Pr×List Pr) (t:SliceV×Int) h'=>t.2=(g.1.length:Int)∧L=g.1++g.2∧OwnS (sG z) 3 aY (fun b=>v.size≤b) h' t.1 g.1∧Upd No v h') (fun g=>g.2.length) ([],L) ⟨rfl,rfl,OwnS.nil (Nm z),Upd.refl _ _⟩ ?_
 rintro I ⟨D,T⟩ ⟨sa,ti⟩ h6 ⟨P,Q,u,q⟩ hI;simp only at P Q u;subst P Q;simp only[ac]at d j;have hlD:=u.len;refine az (fun F=>?_) fun G=>?_
 ·rcases T with _|⟨p,T⟩
  ·simp only[aG]at d;simp only at F;omega
  simp only[ao]at d j;refine Join.intro (fun t h'=>OwnS (sG z) 3 aY (fun b=>v.size≤b) h' t (D++ [p])∧Upd No v h') (fun R hR=>?_) ?_
  ·obtain⟨a,S,_,hv⟩:=(k.upd q fun _ h=>h.elim).at (i:=D.length) (x:=p) (by rw[aN (al _),dP];rfl)
   refine⟨⟨by omega,by simp only;omega⟩,a,S,p.1,hv 0 _ rfl,p.2,hv 1 _ rfl,?_⟩
   refine Il (p:=p) fun h8 w A=>?_
   have B:=(q.tr A).get0 V;refine⟨p.1,vc w 0,p.2,vc w 1,_,vc B 0,_,vc B 1,_,vc B 2,p.1,vc w 0,?_⟩;refine uP fun h9 E=>?_
   have J:=E.get0 w;refine⟨⟨vc J 0,vc J 1⟩,bP ?_⟩;have m:=(q.tr A).tr E;have z9:=m.size;refine XA (z:=z) (p:=p) (((u.upd A fun _ _ h=>h).upd E fun _ _ h=>h)) (fun b H=>by omega) (by omega) fun s' h' f c=>hR _ _ ⟨f,m.trans c fun b H=>.inr H⟩
  ·rintro s' h' ⟨f,c⟩
   have ew:IntKind.wrap .i64 ((D.length:Int)+1)=((D++ [p]).length:Int):=by rw[ac,aE,fx (by omega)];omega
   rw[ew];exact hI (D++ [p],T) _ _ ⟨rfl,by simp,f,c⟩ (by simp)
 ·have hT:T= []:=ay.1 (by simp only at G;omega)
  subst hT;rw[aL]at n;rw[aL]at M;have o:=C.tr q;exact Ya U hN 13 (al _) (u.sl fun _ _ _ h=>h) (fun y hy=>aC (X y hy) o.size) n (by simp only[aG]at j;omega) fun h' b t c=>M h' b t (o.tr c)
theorem StP.less{N M:Nat}(h:StP N)(hm:M≤N):StP M:=fun w _ _ _ hc _ _ _ a hi b _ c=>h w hc a hi (bj b hm) c
theorem StH.less{N M:Nat}(h:StH N)(hm:M≤N):StH M:=fun w _ _ _ hc _ _ _ a hi b _ c=>h w hc a hi (bj b hm) c
end Go.Proofs
namespace Go.Proofs
open Go Go.Lift
theorem uN{a b:ByteArray}:kl a b↔Op.bytesLess a.data.toList b.data.toList=true:=by unfold kl;rw[ByteArray.toList_eq,ByteArray.toList_eq]
theorem AP{a b:UInt8}{x y:List UInt8}:Op.bytesLess (a::x) (b::y)=true↔a.toNat<b.toNat∨(a=b∧Op.bytesLess x y=true):=by
 simp only[Op.bytesLess,Bool.or_eq_true,decide_eq_true_iff,bK,beq_iff_eq,UInt8.lt_iff_toNat_lt]
theorem Je(x:List UInt8):Op.bytesLess x []=false:=by cases x<;>rfl
theorem NL{x y:List UInt8}:∀pre:List UInt8,Op.bytesLess (pre++x) (pre++y)=true↔Op.bytesLess x y=true
 | []=>Iff.rfl
 |a::pre=>by rw[cJ,cJ,AP,NL pre];simp
theorem abj{x y:List UInt8}(h:Op.bytesLess x y=true)(hx:x≠[])(c:y≠[]):hd x≤hd y:=by
 match x,y,hx,c with
 |a::x,b::y,_,_=>
  show a.toNat≤b.toNat
  rcases AP.1 h with h|⟨rfl,_⟩<;>omega
theorem OH:∀(t:Nat) {f p g:List UInt8},t≤cm f g→(f=p∨Op.bytesLess f p=true)→(p=g∨Op.bytesLess p g=true)→p.take t=f.take t∧t≤p.length
 |0,f,p,g,_,_,_=>by simp
 |t+1,[],p,g,h,_,_=>by simp[cm]at h
 |t+1,a::f,p,[],h,_,_=>by simp[cm]at h
 |t+1,a::f,p,b::g,h,d,h2=>by
  unfold cm at h;split at h
  ·rename_i e
   subst e;rcases p with _|⟨c,p⟩
   ·rcases d with d|d
    ·cases d
    ·rw[Je]at d;cases d
   ·have hc:c=a:=by
     rcases d with d|d
     ·exact(eT.inj d).1.symm
     ·rcases h2 with h2|h2
      ·exact(eT.inj h2).1
      ·have i:=AP.1 d
       have j:=AP.1 h2;rcases i with i|⟨i,_⟩
       ·rcases j with j|⟨j,_⟩
        ·omega
        ·exact j
       ·exact i.symm
    subst hc;have:=OH t (f:=f) (p:=p) (g:=g) (by omega) (d.imp (fun h=>(eT.inj h).2) fun h=>by
     rcases AP.1 h with h|⟨_,h⟩
     ·omega
     ·exact h) (h2.imp (fun h=>(eT.inj h).2) fun h=>by
     rcases AP.1 h with h|⟨_,h⟩
     ·omega
     ·exact h)
    rw[dL,dL,this.1,ao];exact⟨rfl,by omega⟩
  ·omega
theorem TY:∀f:List UInt8,cm f f=f.length
 | []=>rfl
 |a::f=>by unfold cm;rw[if_pos rfl,TY f];rfl
abbrev ky(p:Pr):List UInt8:=p.1.data.toList
def VU(l:List Pr)(pre k:List UInt8)(v:ByteArray):Prop:=∃p∈l,ky p=pre++k∧p.2=v
structure Beg(l:List Pr)(pre:List UInt8):Prop where
 up:cf l
 at_:∀p∈l,(ky p).take pre.length=pre∧pre.length<(ky p).length
theorem Beg.sub{l l':List Pr}{pre:List UInt8}(b:Beg l pre)(h:l'.Sublist l):Beg l' pre:=⟨b.up.sublist h,fun p a=>b.at_ p (h.subset a)⟩
theorem Beg.split{l:List Pr}{pre:List UInt8}(b:Beg l pre){p:Pr}(a:p∈l):ky p=pre++(ky p).drop pre.length∧(ky p).drop pre.length≠[]:=by
 obtain⟨c,h2⟩:=b.at_ p a;refine⟨?_,fun e=>?_⟩
 ·conv=>lhs;rw[←aI pre.length (ky p),c]
 ·have:=congrArg fu e
  rw[aV,aG]at this;omega
def bt(n:Nat)(p:Pr):Nat:=hd ((ky p).drop n)
theorem Beg.mono{A B:List Pr}{pre:List UInt8}(b:Beg (A++B) pre){x y:Pr}(hx:x∈A)(a:y∈B):bt pre.length x≤bt pre.length y:=by
 have h:=(cn.1 b.up).2.2 x hx y a;rw[uN]at h;obtain⟨d,e⟩:=b.split (cI B hx);obtain⟨c,f⟩:=b.split (df A a);change Op.bytesLess (ky x) (ky y)=true at h;rw[d,c,NL]at h;exact abj h e f
theorem Fl{l:List Pr}{pre:List UInt8}{f g:Pr}(b:Beg l pre)(F:∃r,l=f::r)(v:l.getLast? =some g)(D:bt pre.length f=bt pre.length g):
  pre.length<cm (ky f) (ky g)∧cm (ky f) (ky g)≤(ky f).length∧(∀p∈l,(ky p).take (cm (ky f) (ky g))=(ky f).take (cm (ky f) (ky g)))∧(∀p∈l,p=f∨cm (ky f) (ky g)<(ky p).length)∧
   (cm (ky f) (ky g)<(ky f).length→cm (ky f) (ky g)<(ky g).length∧hd ((ky f).drop (cm (ky f) (ky g)))≠hd ((ky g).drop (cm (ky f) (ky g)))):=by
 obtain⟨r,rfl⟩:=F;have s:f∈f::r:=aw ..;have k:g∈f::r:=fY v;obtain⟨E,H⟩:=b.split s;obtain⟨G,J⟩:=b.split k;have z:pre.length<cm (ky f) (ky g):=by
  have:∀(q x y:List UInt8),cm (q++x) (q++y)=q.length+cm x y:=by
   intro q x y;induction q with
   |nil=>simp
   |cons a q ih=>simp only[cJ,cm,if_true,ih,ao];omega
  have t:=this pre ((ky f).drop pre.length) ((ky g).drop pre.length);rw[←E,←G]at t;have h2:=Xn H J D;omega
 have w:=TZ (ky f) (ky g);have o:∀p∈f::r,ky f=ky p∨Op.bytesLess (ky f) (ky p)=true:=fun p c=>by
  rcases aA.1 c with rfl|c
  ·exact .inl rfl
  ·exact .inr (uN.1 ((aJ.1 b.up).1 p c))
 have u:∀p∈f::r,ky p=ky g∨Op.bytesLess (ky p) (ky g)=true:=fun p c=>by
  rcases List.eq_nil_or_concat (f::r)with h|⟨l',y,h⟩
  ·cases h
  ·rw[List.concat_eq_append]at h
   rw[h,List.getLast?_concat]at v;cases v;have j:=b.up;rw[h]at c j;rcases bF.1 c with c|c
   ·exact .inr (uN.1 ((cn.1 j).2.2 p c g (aD.2 rfl)))
   ·rw[aD.1 c];exact .inl rfl
 have m:∀p∈f::r,(ky p).take (cm (ky f) (ky g))=(ky f).take (cm (ky f) (ky g))∧cm (ky f) (ky g)≤(ky p).length:=fun p c=>OH _ (al _) (o p c) (u p c)
 have n:∀p∈f::r,p=f∨cm (ky f) (ky g)<(ky p).length:=fun p c=>by
  obtain⟨t,h2⟩:=m p c;rcases Nat.lt_or_ge (cm (ky f) (ky g)) (ky p).length with h|h
  ·exact .inr h
  ·left
   have C:(ky p).length=cm (ky f) (ky g):=by omega
   have e:ky p=(ky f).take (cm (ky f) (ky g)):=by rw[←t,←C,bS]
   rcases aA.1 c with rfl|c
   ·rfl
   ·have B:=uN.1 ((aJ.1 b.up).1 p c)
    change Op.bytesLess (ky f) (ky p)=true at B;exfalso;have I:ky f=ky p++(ky f).drop (cm (ky f) (ky g)):=by rw[e,aI]
    have A:Op.bytesLess (ky p++(ky f).drop (cm (ky f) (ky g))) (ky p++ [])=true:=by rw[aL,←I];exact B
    rw[NL,Je]at A;cases A
 refine⟨z,w.1,fun p c=>(m p c).1,n,fun d=>?_⟩
 have i:cm (ky f) (ky g)<(ky g).length:=by
  rcases n g k with h|h
  ·exfalso
   rw[h,TY]at d;omega
  ·exact h
 exact⟨i,NG _ _ d i⟩
theorem Jc{l l':List Pr}{pre:List UInt8}{f g:Pr}(b:Beg l pre)(B:∃r,l=f::r)(C:l.getLast? =some g)(H:bt pre.length f=bt pre.length g){F:Fo}(hc:fV F)
  (c:l'=if(ky f).length=cm (ky f) (ky g)then l.drop 1 else l)(t:∀k v,rZ F k v↔VU l' ((ky f).take (cm (ky f) (ky g))) k v){w:Option ByteArray}(u:w=if(ky f).length=cm (ky f) (ky g)then some f.2 else none){lab:List UInt8}(o:lab=((ky f).take (cm (ky f) (ky g))).drop pre.length):
  K4 (lab,w,F)∧hd lab=bt pre.length f∧∀k v,vd (lab,w,F) k v↔VU l pre k v:=by
 obtain⟨L,h2,D,M,E⟩:=Fl b B C H;obtain⟨r,rfl⟩:=B;have n:f∈f::r:=aw ..;have x:g∈f::r:=fY C;generalize cm (ky f) (ky g)=to at*;have d:pre++lab=(ky f).take to:=by
  have:=(b.at_ f n).1;rw[o];conv=>rhs;rw[←aI pre.length ((ky f).take to),ip,bJ (by omega),this]
 have i:lab≠[]:=fun e=>by
  have:=congrArg fu o;rw[e,aG,aV,aH]at this;omega
 have y:∀k v,vd (lab,w,F) k v↔VU (f::r) pre k v:=by
  intro k v;constructor
  ·rintro⟨q,e,⟨rfl,j⟩|j⟩
   ·simp only at e j
    rw[aL]at e;subst e;rw[u]at j;split at j
    ·rename_i a
     cases j;refine⟨f,n,?_,rfl⟩;rw[d,←a,bS]
    ·cases j
   ·simp only at e j
    obtain⟨p,m,K,rfl⟩:=(t q v).1 j;refine⟨p,?_,?_,rfl⟩
    ·rw[c]at m
     split at m
     ·exact aB _ m
     ·exact m
    ·rw[K,e,←ar,d]
  ·rintro⟨p,m,e,rfl⟩
   have s:=D p m;have I:ky p=pre++(lab++(ky p).drop to):=by
    rw[←ar,d,←s,aI]
   have ek:k=lab++(ky p).drop to:=List.append_cancel_left (e.symm.trans I);refine⟨(ky p).drop to,ek,?_⟩;by_cases a:(ky f).length=to
   ·rw[if_pos a]at u c
    rcases aA.1 m with rfl|m
    ·left
     refine⟨List.drop_eq_nil_of_le (by omega),?_⟩;simp only;rw[u]
    ·right
     refine(t _ _).2 ⟨p,by rw[c];exact m,?_,rfl⟩
     rw[←s,aI]
   ·rw[if_neg a]at u c
    right;refine(t _ _).2 ⟨p,by rw[c];exact m,?_,rfl⟩
    rw[←s,aI]
 refine⟨⟨i,?_,hc⟩,?_,y⟩
 ·by_cases a:(ky f).length=to
  ·left;simp only;rw[u,if_pos a];rfl
  ·have z:to<(ky f).length:=by omega
   obtain⟨J,A⟩:=E z;refine(Jd hc).2 (.inr ⟨(ky f).drop to,(ky g).drop to,f.2,g.2,.inr ?_,.inr ?_,fun e=>?_,fun e=>?_,A⟩)
   ·exact(t _ _).2 ⟨f,by rw[c,if_neg a];exact n,(aI ..).symm,rfl⟩
   ·exact(t _ _).2 ⟨g,by rw[c,if_neg a];exact x,by rw[←D g x,aI],rfl⟩
   ·have:=congrArg fu e
    rw[aV,aG]at this;omega
   ·have:=congrArg fu e
    rw[aV,aG]at this;omega
 ·have e:=(b.split n).1
  unfold bt;have j:(ky f).drop pre.length=lab++(ky f).drop to:=by
   have G:ky f=pre++(lab++(ky f).drop to):=by rw[←ar,d,aI]
   conv=>lhs;rw[G]
   rw[gR]
  rw[j,pq i]
structure Row(L:List Bn)(D T:List Pr)(pre:List UInt8):Prop where
 can:∀n∈L,K4 n
 up:L.Pairwise fun m n=>hd m.1<hd n.1
 lo:∀n∈L,∀p∈T,hd n.1<bt pre.length p
 got:∀k v,(∃n∈L,vd n k v)↔VU D pre k v
theorem Row.nil(T:List Pr)(pre:List UInt8):Row [] [] T pre:=⟨fun n h=>(by cases h),gF,fun n h=>(by cases h),fun k v=>⟨fun⟨n,h,_⟩=>(by cases h),fun⟨p,h,_⟩=>(by cases h)⟩⟩
theorem Row.more{L:List Bn}{D A B:List Pr}{pre:List UInt8}{n:Bn}{p:Pr}(r:Row L D (A++B) pre)(o:Beg (A++B) pre)(s:p∈A)(y:∀a∈A,bt pre.length a=bt pre.length p)(w:∀b d,B=b::d→bt pre.length b≠bt pre.length p)(hc:K4 n)(j:hd n.1=bt pre.length p)(i:∀k v,vd n k v↔VU A pre k v):Row (L++ [n]) (D++A) B pre:=by
 refine⟨fun m hm=>?_,cn.2 ⟨r.up,cx ..,fun a t b u=>?_⟩,fun m hm q c=>?_,fun k v=>?_⟩
 ·rcases bF.1 hm with hm|hm
  ·exact r.can m hm
  ·rw[aD.1 hm];exact hc
 ·rw[aD.1 u,j]
  exact r.lo a t p (cI _ s)
 ·rcases bF.1 hm with hm|hm
  ·exact r.lo m hm q (df _ c)
  ·rw[aD.1 hm,j]
   rcases B with _|⟨f,d⟩
   ·cases c
   have x:=w f d rfl;have h2:=o.mono s (aw (a:=f) (l:=d));rcases aA.1 c with rfl|c
   ·omega
   ·have g:Beg ([f]++d) pre:=o.sub (pm A _)
    have:=g.mono (aD.2 rfl) c;omega
 ·constructor
  ·rintro⟨m,hm,hi⟩
   rcases bF.1 hm with hm|hm
   ·obtain⟨q,c,e⟩:=(r.got k v).1 ⟨m,hm,hi⟩
    exact⟨q,cI _ c,e⟩
   ·rw[aD.1 hm]at hi
    obtain⟨q,c,e⟩:=(i k v).1 hi;exact⟨q,df _ c,e⟩
  ·rintro⟨q,c,e⟩
   rcases bF.1 c with c|c
   ·obtain⟨m,hm,hi⟩:=(r.got k v).2 ⟨q,c,e⟩
    exact⟨m,cI _ hm,hi⟩
   ·exact⟨n,df _ (aD.2 rfl),(i k v).2 ⟨q,c,e⟩⟩
theorem Row.done{L:List Bn}{D:List Pr}{pre:List UInt8}(r:Row L D [] pre):fV (.ofL L)∧∀k v,rZ (.ofL L) k v↔VU D pre k v:=by
 refine⟨eW.2 ?_,fun k v=>?_⟩
 ·rw[Fo.to_of];exact⟨r.up,r.can⟩
 ·rw[gv,Fo.to_of];exact r.got k v
end Go.Proofs
namespace Go.Proofs
open Go Go.Lift
theorem Xc(s:ByteArray)(a b:Nat):(s.extract a b).data.toList=(s.data.toList.take b).drop a:=by
 rw[mQ,Array.toList_extract,List.extract_eq_take_drop,List.drop_take]
theorem Iz(s:ByteArray):s.data.toList.length=s.size:=by simp
theorem Kid.less{W W':Nat→Prop}{h:ae}(hm:∀b,W' b→W b∨h.size≤b){a:Option Addr}{n:Bn}:Kid W h a n→Kid W' h a n
 |⟨b,sl,e1,e2,e3⟩=>⟨b,sl,e1,e2,e3.less hm⟩
theorem Kid.updM{W M:Nat→Prop}{h h':ae}(k:Upd M h h')(hm:∀b,M b→W b∨h.size≤b){a:Option Addr}{n:Bn}:Kid W h a n→Kid W h' a n
 |⟨b,sl,e1,e2,e3⟩=>⟨b,sl,e1,e2,e3.updM k hm⟩
theorem RxL.less{W W':Nat→Prop}{h:ae}(hm:∀b,W' b→W b∨h.size≤b){ks:List (Option Addr)}{L:List Bn}(r:RxL W h ks L):RxL W' h ks L:=⟨r.1,fun p a=>(r.2 p a).less hm⟩
theorem RxL.updM{W M:Nat→Prop}{h h':ae}(k:Upd M h h')(hm:∀b,M b→W b∨h.size≤b){ks:List (Option Addr)}{L:List Bn}(r:RxL W h ks L):RxL W h' ks L:=⟨r.1,fun p a=>(r.2 p a).updM k hm⟩
theorem NI{p:Pr}{n:Nat}(h:n<(ky p).length):∃b:UInt8,p.1[n]? =some b∧b.toNat=bt n p:=by
 rw[PA];refine⟨(ky p)[n],af h,?_⟩;unfold bt hd;rw[List.drop_eq_getElem_cons h];rfl
theorem PV{M:Nat→Prop}{h:ae}{so:SliceV}{out:List (Option Addr)}{p:Option Addr}{K:SliceV→ae→Prop}(c:OwnS pj 1 bo M h so out)(hM:∀b,h.size≤b→M b)(g:out.length+1≤1000000000)
  (d:∀s' h',OwnS pj 1 bo M h' s' (out++ [p])→Upd M h h'→K s' h'):
  ∃xs,SRow (hnew h [.pointer p] bo) (some (aF h)) (1*1) xs∧AppP (some [.pointer none]) 1 8 bo so.a so.len so.cap 1 xs (hnew h [.pointer p] bo) K:=by
 have k:=Upd.hnew No h [.pointer p] bo;have e:OwnS pj 1 bo (fun _=>True) (hnew h [.pointer p] bo) ⟨some (aF h),1,1⟩ [p]:=⟨rfl,nh,al _,.inr ⟨h.size,[],rfl,trivial,cp ..,rfl⟩⟩
 refine⟨_,(e.sl (W:=No) fun _ _ _ h=>h).srow,?_⟩
 refine AppP.own (ys:= [p]) (c.upd k fun _ _ h=>h) rfl rfl rfl rfl (by omega) (by simp only[aE];omega) (hM _ (by rw[iY];omega)) fun s' h' a f=>?_
 exact d s' h' a ((Upd.hnew M h _ _).tr f)
theorem Lv{W:Nat→Prop}{h:ae}{s:SliceV}{ks:List (Option Addr)}{L:List Bn}(H:Sl pj 1 No h s ks)(v:RxL W h ks L)(hn:L.length≤100000)(G:∀y,W y→y<h.size){c d:ByteArray}{has:Bool}{K:Option Addr→ae→Prop}
  (X:∀h' b,RxN W h' b c (if has then some d else none) (.ofL L)→Upd No h h'→K (some ⟨b,0,none⟩) h'):HC PG uR [.string c,.bool has,.string d,.slice s.a s.len s.cap] [.c .ptr] K h:=by
 refine NT c has d s ?_;unfold Ek bI cl db bU;refine aW fun h1 b1 k1=>?_
 have z1:=bD b1;have f:=H.len;have n:=v.1;refine Join.intro (fun _ h'=>∃val,h'[h.size]? =some (.cells (AY c has val ⟨none,0,0⟩ none) bZ (0,0))∧val=(if has then d else⟨#[]⟩)∧Upd No h h') (fun R A=>?_) ?_
 ·cases has with
  |true=>exact au.2 ⟨_,rfl,qN (i:=2) (c':=AY c true d ⟨none,0,0⟩ none) b1 (show 2<5 by decide) rfl fun h2 b2 E=>A _ _ ⟨_,b2,rfl,k1.own E (al _)⟩⟩
  |false=>exact aj.2 (A _ _ ⟨_,b1,rfl,k1⟩)
 rintro _ h2 ⟨val,b2,p,U⟩;refine LoopP.ghost (fun(g:List (Option Addr)×List (Option Addr)) (t:Int) h'=>t=(g.1.length:Int)∧ks=g.1++g.2∧(∃so,h'[h.size]? =some (.cells (AY c has val so none) bZ (0,0))∧OwnS pj 1 bo (fun y=>h.size<y) h' so g.1)∧Upd No h h') (fun g=>g.2.length) ([],ks)
  ⟨rfl,rfl,⟨_,b2,OwnS.nil nh⟩,U⟩ ?_
 rintro I ⟨K1,B⟩ t h3 ⟨J,M,⟨so,b3,j⟩,z⟩ V;simp only at J M j;subst J M;simp only[ac]at f n;have z3:=bD b3;refine az (fun Y=>?_) fun Z=>?_
 ·rcases B with _|⟨m,B⟩
  ·simp only[aG]at f;omega
  simp only[ao]at f n;refine Join.intro (fun _ h'=>(∃so,h'[h.size]? =some (.cells (AY c has val so none) bZ (0,0))∧OwnS pj 1 bo (fun y=>h.size<y) h' so (K1++ [m]))∧Upd No h h') (fun R A=>?_) ?_
  ·obtain⟨kb,S,q,_⟩:=v.at (i:=K1.length) (by omega)
   have F:m=some ⟨kb,0,none⟩:=by
    rw[aN (al _),dP]at q;exact bR.inj q
   obtain⟨a,O,_,hv⟩:=(H.upd z fun _ h=>h.elim).at0 (i:=K1.length) (x:=m) (by rw[aN (al _),dP];rfl)
   refine⟨⟨by omega,by omega⟩,a,O,m,hv,?_⟩
   subst F;refine au.2 ⟨_,rfl,so,vc b3 3,bP ?_⟩;refine PV j (fun b hb=>by omega) (by omega) fun w T k o=>⟨_,rfl,?_⟩
   have C:=o.get b3 (by simp);refine qN (i:=3) (c':=AY c has val w none) C (show 3<5 by decide) rfl fun h5 Q u=>A _ _ ⟨⟨w,Q,k.upd u fun x hx e=>by have e:x=h.size:=e;omega⟩,?_⟩
   exact(z.trans o fun x hx=>.inr (Nat.le_of_lt hx)).own u (al _)
  ·rintro _ T ⟨⟨w,C,k⟩,N⟩
   have ew:IntKind.wrap .i64 ((K1.length:Int)+1)=((K1++ [m]).length:Int):=by rw[ac,aE,fx (by omega)];omega
   rw[ew];exact V (K1++ [m],B) _ _ ⟨rfl,by simp,⟨w,C,k⟩,N⟩ (by simp)
 ·have P:B= []:=ay.1 (by omega)
  subst P;rw[aL]at v;refine X h3 h.size ⟨val,so,none,K1,?_,?_,j.sl (fun x hx _ D=>by have:=G x D;omega),⟨j.cap,fun D=>by have:=G _ D;omega⟩,kM.2 (by rw[Fo.to_of];exact v.upd0 z)⟩ z
  ·cases has<;>exact b3
  ·rw[p];cases has<;>rfl
def Ua(B a:Nat):Prop:=∀{W:Nat→Prop} {h:ae} {s:SliceV} {l:List Pr} {pre:List UInt8},Sl eC 2 No h s l→s.len≤s.cap→Beg l pre→pre.length=a→(∀p∈l,(ky p).length≤B)→l.length≤100000→(∀y,W y→y<h.size)→∀{K:SliceV→ae→Prop},
 (∀h' s' ks L,OwnS pj 1 bo (fun y=>h.size≤y) h' s' ks→RxL W h' ks L→Row L l [] pre→Upd No h h'→K s' h')→HC PG uT [.slice s.a s.len s.cap,.int .i64 (a:Int)] [.c .slice] K h
theorem Sh{W:Nat→Prop}{B b:Nat}(hB:B≤1000000)(o:∀to,b<to→Ua B to){h:ae}{s:SliceV}{l r:List Pr}{f g:Pr}{pre:List UInt8}(D:Sl eC 2 No h s l)(S:s.len≤s.cap)(Z:Beg l pre)(M:pre.length=b)(I:∀p∈l,(ky p).length≤B)(hn:l.length≤100000)(hW:∀y,W y→y<h.size)
  (q:l=f::r)(hg:l.getLast? =some g)(hb:bt b f=bt b g){K:Option Addr→ae→Prop}
  (hk:∀h' a n,Kid W h' a n→K4 n→hd n.1=bt b f→(∀k v,vd n k v↔VU l pre k v)→Upd No h h'→K a h'):HC PG vp [.slice s.a s.len s.cap,.int .i64 (b:Int)] [.c .ptr] K h:=by
 refine Jt s b ?_;unfold Aq bI cl aK hP Kg V6;subst M;have T:=D.len;have hl0:0<l.length:=by rw[q];simp
 have hfm:f∈l:=by rw[q];exact aw ..
 have hgm:g∈l:=fY hg;obtain⟨a,u,_,j⟩:=D.at (i:=0) (x:=f) (by rw[q];rfl);obtain⟨a',G,_,hvg⟩:=D.at (i:=l.length-1) (x:=g) (by rw[←hg,List.getLast?_eq_getElem?]);rw[u]at G;cases G;have ew:IntKind.wrap .i64 ((s.len:Int)-1)=((l.length-1:Nat):Int):=by rw[fx (by omega)];omega
 refine⟨⟨by omega,by omega⟩,a,u,f.1,j 0 _ rfl,?_⟩
 rw[ew];have hsf:=I f hfm;have hszf:f.1.size=(ky f).length:=(Iz f.1).symm;refine⟨⟨by omega,by omega⟩,a,u,g.1,hvg 0 _ rfl,Mh (by omega) ?_⟩
 obtain⟨q1,q2,q3,q4,q5⟩:=Fl Z ⟨r,q⟩ hg hb;have z:= @Jc l (if(ky f).length=cm (ky f) (ky g)then l.drop 1 else l) pre f g Z ⟨r,q⟩ hg hb
 obtain⟨to,U⟩:∃to,cm (ky f) (ky g)=to:=⟨_,rfl⟩;rw[U]at q1 q2 q3 q4 z;show _∧_
 change(_∧∃_,_∧_);have E:cm f.1.data.toList g.1.data.toList=to:=U;rw[E];refine⟨⟨by omega,by omega⟩,a,u,f.1,j 0 _ rfl,⟨by omega,by omega⟩,⟨by omega,by rw[aU];omega⟩,⟨by omega,by omega⟩,a,u,f.1,j 0 _ rfl,?_⟩
 have C:((f.1.size:Int)==(to:Int))=decide ((ky f).length=to):=by
  rw[iI,beq_iff_eq,decide_eq_true_iff];omega
 rw[C];have V:(f.1.extract (pre.length:Int).toNat (to:Int).toNat).data.toList=((ky f).take to).drop pre.length:=Xc ..;have Y:((ky f).take to).length=to:=by rw[aH];omega
 refine Join.intro (fun(t:SliceV×ByteArray) h'=>h'=h∧Sl eC 2 No h t.1 (if(ky f).length=to then l.drop 1 else l)∧t.1.len≤t.1.cap∧((ky f).length=to→t.2=f.2)) (fun R hR=>?_) ?_
 ·refine az (fun e=>?_) fun e=>?_
  ·refine⟨⟨by omega,by omega⟩,a,u,f.2,j 1 _ rfl,⟨by omega,by omega⟩,hR _ _ ⟨rfl,?_,by simp only;omega,fun _=>rfl⟩⟩
   rw[if_pos e];have:=Sl.sub D (l:=1) (hi:=l.length) (m:=s.cap) (c:=s.cap-1) (by omega) (al _) (by omega);rw[bm (by rw[aV];omega),←T]at this;exact this
  ·exact hR _ _ ⟨rfl,by rw[if_neg e];exact D,S,fun h=>absurd h e⟩
 rintro⟨s2,v2⟩ h' ⟨rfl,H,Q,O⟩;simp only at H Q O;have d:(if(ky f).length=to then l.drop 1 else l).Sublist l:=by
  split
  ·exact List.drop_sublist ..
  ·exact List.Sublist.refl _
 have A:Beg (if(ky f).length=to then l.drop 1 else l) ((ky f).take to):=by
  refine⟨Z.up.sublist d,fun p w=>?_⟩
  rw[Y];refine⟨q3 p (d.subset w),?_⟩;rcases q4 p (d.subset w)with e|h
  ·subst e
   by_cases e2:(ky p).length=to
   ·rw[if_pos e2,q]at w
    have:=(aJ.1 (q▸Z.up)).1 p w;exact absurd this (cr _)
   ·omega
  ·exact h
 refine o to q1 H Q A Y (fun p w=>I p (d.subset w)) (bj d.length_le hn) hW fun h3 s3 ks L ho3 hL3 X N=>?_
 obtain⟨P,hgF⟩:=X.done;obtain⟨hcn,hhd,hin⟩:=z (F:=.ofL L) P rfl hgF rfl rfl;have hLl:L.length≤100000:=by
  have:=jC P;rw[Fo.to_of]at this;omega
 refine Lv (W:=W) (ho3.sl fun _ _ _ h=>h) hL3 hLl (fun y hy=>aC (hW y hy) N.size) fun h4 b4 J hu4=>?_
 have ew2:(if decide ((ky f).length=to)=true then some v2 else none)=if(ky f).length=to then some f.2 else none:=by
  by_cases e:(ky f).length=to
  ·rw[if_pos (decide_eq_true e),if_pos e,O e]
  ·rw[if_neg (by simpa using e),if_neg e]
 rw[ew2]at J;exact hk h4 _ _ ⟨b4,_,rfl,V,J⟩ hcn hhd hin (N.tr hu4)
theorem LU{B j:Nat}(hB:B≤1000000)(hkids:j≤B→∀to,j<to→Ua B to):Ua B j:=by
 intro W h s l pre hs hcap bg hpre hlB hn hW K hk;refine N4 s j ?_;unfold Ew cl aK;refine aW fun h1 b1 k1=>?_
 subst hpre;refine LoopP.ghost (fun(g:List Pr×List Pr×List (Option Addr)×List Bn×(Nat→Prop)) (t:SliceV×SliceV) h'=>l=g.1++g.2.1∧Sl eC 2 (fun y=>h.size≤y) h' t.1 g.2.1∧t.1.len≤t.1.cap∧OwnS pj 1 bo g.2.2.2.2 h' t.2 g.2.2.1∧(∀y,g.2.2.2.2 y→h1.size≤y∧y<h'.size)∧RxL (fun y=>W y∨g.2.2.2.2 y) h' g.2.2.1 g.2.2.2.1∧Row g.2.2.2.1 g.1 g.2.1 pre∧Upd No h1 h') (fun g=>g.2.1.length) ([],l,[],[],No)
  ⟨rfl,(hs.less (W':=fun y=>h.size≤y) fun y d=>.inr d).upd k1 fun _ h=>h.elim,hcap,OwnS.nil nh,fun y d=>d.elim,⟨rfl,fun p hp=>(by cases hp)⟩,Row.nil _ _,Upd.refl _ _⟩ ?_
 rintro I ⟨D,T,ks,L,Mo⟩ ⟨J,so⟩ h4 ⟨e1,z,hcT,ho,C,hL,w,hu⟩ hI;simp only at e1 z hcT ho C hL w;subst e1;have hlT:=z.len;simp only[ac]at hn;have O:Beg T pre:=bg.sub (pm D T);have k04:=k1.tr hu;refine az (fun hgt=>?_) fun hle=>?_
 ·rcases T with _|⟨p,T⟩
  ·simp only[aG]at hlT;simp only at hgt;omega
  simp only[ao]at hlT hn;have hpl:=(O.at_ p (aw ..)).2;obtain⟨b8,hb8,hb8e⟩:=NI hpl;obtain⟨a,ha,_,hv⟩:=z.at (i:=0) (x:=p) rfl;have c4:=hu.get0 b1;refine⟨⟨by omega,by simp only;omega⟩,a,ha,p.1,hv 0 _ rfl,_,Kb c4,b8,by omega,hb8,?_⟩
  refine aW fun V b9 k9=>?_
  have c9:=k9.get0 c4;obtain⟨a',ha',_,hv9⟩:=(z.upd k9 fun _ h=>h.elim).at (i:=0) (x:=p) rfl
  rw[ha]at ha';cases ha';refine⟨Kb c9,hv9 0 _ rfl,Hu b9 oC fun h10 b10 hu10=>?_⟩
  have G:Upd No h4 h10:=k9.own hu10 (al _);have c10:=G.get0 c4;refine U3 (z.upd G fun _ h=>h.elim) (by simp only[ao];omega) (g:=fun q=>decide (bt pre.length q≠bt pre.length p)) (fun q hq h' K' u hK=>?_) fun h11 A Bt e H hA hBn P Q=>?_
  ·refine HV.mk' (Js q ⟨h.size,0,none⟩ ⟨h4.size,0,none⟩ ?_)
   unfold Ap ax vN;refine aW fun f b12 k12=>?_
   have k':=u.tr k12;obtain⟨bq,hbq,hbqe⟩:=NI (O.at_ q hq).2;refine⟨q.1,vc b12 0,_,Kb (k'.get0 c10),bq,by omega,hbq,_,Kb (k'.get0 b10),?_⟩
   have eb:((bq.toNat:Int) !=(b8.toNat:Int))=decide (bt pre.length q≠bt pre.length p):=by
    rw[iI,bne_iff_ne,decide_eq_true_iff];omega
   rw[eb];exact hK f k12
  obtain⟨A',rfl⟩:∃A',A=p::A':=by
   rcases A with _|⟨a0,A'⟩
   ·have:=(P p T (by rw[cB]at H;exact H.symm)).2
    simp at this
   ·rw[cJ]at H
    exact⟨A',by rw[(eT.inj H).1]⟩
  have hcA:∀q∈p::A',bt pre.length q=bt pre.length p:=fun q hq=>by simpa using hA q hq
  have F:p::T=(p::A')++Bt:=H;have hTl:T.length=A'.length+Bt.length:=by
   have:=congrArg fu F;simp only[ao,ac]at this;omega
  have o:=G.tr Q;have k111:=hu.tr o;have c11:=Q.get0 c10;refine Join.intro (fun t h'=>t=((A'.length+1:Nat):Int)∧h'=h11) (fun R1 N=>?_) ?_
  ·refine az (fun hneg=>N _ _ ⟨?_,rfl⟩) fun hpos=>N _ _ ⟨?_,rfl⟩
   ·rcases Bt with _|⟨b0,B'⟩
    ·have hTl:T.length=A'.length+0:=hTl
     show((J.len:Nat):Int)=_
     omega
    ·have:=(P b0 B' rfl).1
     simp only[ao]at this;omega
   ·rcases Bt with _|⟨b0,B'⟩
    ·have:=hBn rfl;omega
    ·have:=(P b0 B' rfl).1
     simp only[ao]at this;exact this
  rintro t h' ⟨rfl,rfl⟩;refine Join.intro (fun t V=>∃ka n Mp,OwnS pj 1 bo Mp V t (ks++ [ka])∧(∀y,Mp y→h1.size≤y∧y<V.size)∧RxL (fun y=>W y∨Mp y) V (ks++ [ka]) (L++ [n])∧K4 n∧hd n.1=bt pre.length p∧(∀k v,vd n k v↔VU (p::A') pre k v)∧Upd No h1 V∧Sl eC 2 (fun y=>h.size≤y) V J (p::T)) (fun R1 N=>?_) ?_
  ·refine⟨⟨by omega,by show((A'.length+1:Nat):Int)≤((J.cap:Nat):Int);omega⟩,_,Kb c11,?_⟩
   have hsA:=Sl.sub (z.upd o fun _ h=>h.elim) (l:=0) (hi:=A'.length+1) (m:=J.cap) (c:=J.cap-0) (aS _) (by simp only[ao];omega) (by omega)
   have etk:((p::T).drop 0).take (A'.length+1-0)=p::A':=by
    rw[cL,eZ,F];exact List.take_left' (by simp)
   rw[etk]at hsA;obtain⟨g,hg⟩:∃g,(p::A').getLast? =some g:=⟨_,List.getLast?_eq_some_getLast (by simp)⟩;have hgm:g∈p::A':=fY hg;have R:(p::A').Sublist (D++p::T):=by
    rw[F];exact(List.sublist_append_left _ _).trans (pm D _)
   refine Sh hB (hkids (by have:=hlB p (by simp);omega)) (hsA.less fun _ h=>h.elim) (by show A'.length+1-0≤J.cap-0;omega) (bg.sub R) rfl (fun q hq=>hlB q (R.subset hq)) (by simp only[ao];omega) (W:=fun y=>W y∨Mo y) (fun y d=>d.elim (fun d=>aC (hW y d) (k04.tr o).size) fun d=>aC (C y d).2 o.size) rfl hg (hcA g hgm).symm fun f ka n kd Z X Y hu12=>bP ?_
   have u:=o.tr hu12;have z':=(hu.tr u).size;have hLn:L.length≤256:=by
    rcases Ay (c:=0) w.up fun _ _=>aS _ with e|e
    ·rw[e];simp
    ·omega
   have hkl:=hL.1;have z12:=u.size;refine PV (M:=fun y=>Mo y∨f.size≤y) ((ho.upd u fun _ _ h=>h).more fun y d=>.inl d) (fun b hb=>.inr hb) (by omega) fun s13 S ho13 E=>N _ _ ⟨ka,n,fun y=>(Mo y∨f.size≤y)∧y<S.size,ho13.within,fun y d=>⟨?_,d.2⟩,?_,Z,X,Y,?_,?_⟩
   ·rcases d.1 with h|h
    ·exact(C y h).1
    ·omega
   ·have hl:∀b,(W b∨((Mo b∨f.size≤b)∧b<S.size))→(W b∨Mo b)∨f.size≤b:=fun b hb=>by
     rcases hb with h|⟨h|h,_⟩
     ·exact .inl (.inl h)
     ·exact .inl (.inr h)
     ·exact .inr h
    have hm:∀b,(Mo b∨f.size≤b)→(W b∨((Mo b∨f.size≤b)∧b<S.size))∨f.size≤b:=fun b hb=>by
     rcases hb with h|h
     ·exact .inl (.inr ⟨.inl h,by have:=(C b h).2;have:=E.size;omega⟩)
     ·exact .inr h
    exact(((hL.upd0 u).app (RxL.one kd)).less hl).updM E hm
   ·exact(hu.tr u).trans E fun y d=>.inr (by
     rcases d with h|h
     ·exact(C y h).1
     ·omega)
   ·refine(z.upd u fun _ h=>h.elim).upd E fun b hb=>.inl ?_
    have:=k1.size;rcases hb with h|h
    ·have:=(C b h).1;omega
    ·omega
  ·rintro s9 V ⟨ka,n,Mp,ho9,hMp,hL9,Z,X,Y,hu9,hsT9⟩
   refine⟨⟨by omega,by show((A'.length+1:Nat):Int)≤((J.len:Nat):Int);omega⟩,?_⟩
   rw[aU];have U:=Sl.sub hsT9 (l:=A'.length+1) (hi:=(p::T).length) (m:=J.cap) (c:=J.cap-(A'.length+1)) (by simp only[ao];omega) (al _) (by simp only[ao];omega);have edr:((p::T).drop (A'.length+1)).take ((p::T).length-(A'.length+1))=Bt:=by
    rw[F,List.drop_left' (by simp)];exact bm (by simp)
   rw[edr]at U;have elen:(p::T).length-(A'.length+1)=J.len-(A'.length+1):=by simp only[ao];omega
   rw[elen]at U;have hr':Row (L++ [n]) (D++(p::A')) Bt pre:=by
    rw[F]at w O;exact w.more O (aw ..) hcA (fun b B' e=>by simpa using(P b B' e).2) Z X Y
   refine hI (D++(p::A'),Bt,ks++ [ka],L++ [n],Mp) _ _ ⟨by rw[F,ar],U,by simp only;omega,ho9,hMp,hL9,hr',hu9⟩ ?_
   simp only[ao];omega
 ·have hT:T= []:=ay.1 (by simp only at hle;omega)
  subst hT;rw[aL]at hk;exact hk h4 so ks L (ho.more fun y d=>bj k1.size (C y d).1) (hL.less fun y d=>.inl (.inl d)) w k04
end Go.Proofs
namespace Go.Proofs
open Go Go.Lift
theorem Pl{B:Nat}(a:B≤1000000):∀(n from_:Nat),B<from_+n→Ua B from_
 |0,_,h=>LU a fun h'=>by omega
 |n+1,from_,h=>LU a fun _ to b=>Pl a n to (by omega)
theorem Yk{l:List Pr}{p:Pr}(h:p∈vP l):p∈l:=E1 (Ni.1 h)
theorem UC{N:Nat}(st:StP N)(hN:N≤100000){W W0:Nat→Prop}{h:ae}{s:SliceV}{l:List Pr}(hs:Sl eC 2 W0 h s l)(hW:∀y,W y→y<h.size)(hn:l.length≤N)(hB:∀p∈l,p.1.size≤1000000){K:Option Addr→ae→Prop}
  (hk:∀h' b,RadAt W h' b (vP l)→Upd No h h'→K (some ⟨b,0,none⟩) h'):HC PG xd [.slice s.a s.len s.cap] [.c .ptr] K h:=by
 refine KW s ?_;unfold BO cl aK Kg V6;refine B4 st (by omega) (W':=No) hs (fun _ h=>h.elim) (by omega) fun e h2 g Z Q=>?_
 have hln:=Ti l;have o:=Aw l;have Y:∀p∈vP l,(ky p).length≤1000000:=fun p hp=>by have:=hB p (Yk hp);rw[show(ky p).length=p.1.size from Iz p.1];exact this
 generalize vP l=L at*;have j:=g.len;refine Join.intro (fun(t:ByteArray×Bool) h'=>h'=h2∧(t.2=true↔∃p r,L=p::r∧ky p= [])) (fun R D=>?_) ?_
 ·refine az (fun hgt=>?_) fun hle=>D _ _ ⟨rfl,⟨fun h=>(by cases h),fun⟨p,r,e,_⟩=>(by subst e;simp only[ao]at j;omega)⟩⟩
  rcases L with _|⟨p,r⟩
  ·simp only[aG]at j;omega
  obtain⟨a,I,_,hv⟩:=g.at (i:=0) (x:=p) rfl;refine⟨⟨by omega,by omega⟩,a,I,p.1,hv 0 _ rfl,D _ _ ⟨rfl,?_⟩⟩
  simp only;rw[ey,decide_eq_true_iff];constructor
  ·intro e;exact⟨p,r,rfl,by unfold ky;rw[e]⟩
  ·rintro⟨p',r',e,u⟩
   cases e;exact qt.1 u
 rintro⟨v6,has⟩ h' ⟨rfl,n⟩;simp only at n;refine Join.intro (fun(t:SliceV×ByteArray) h3=>h3=h'∧∃l',Sl eC 2 No h' t.1 l'∧t.1.len≤t.1.cap∧Beg l' []∧(∀p∈l',p∈L)∧l'.length≤L.length∧∀k v,((k= []∧(if has then some t.2 else none)=some v)∨VU l' [] k v)↔∃p∈L,p.1.data.toList=k∧p.2=v) (fun R D=>?_) ?_
 ·cases has with
  |true=>
   obtain⟨p,r,rfl,H⟩:=n.1 rfl;obtain⟨a,I,_,hv⟩:=g.at (i:=0) (x:=p) rfl;simp only[ao]at j;refine au.2 ⟨⟨by omega,by omega⟩,a,I,p.2,hv 1 _ rfl,⟨by omega,by omega⟩,D _ _ ⟨rfl,r,?_,by simp only;omega,⟨(aJ.1 o).2,fun q d=>⟨rfl,?_⟩⟩,fun q d=>aB _ d,by simp,fun k v=>?_⟩⟩
   ·have:=Sl.sub g (l:=1) (hi:=(p::r).length) (m:=e.cap) (c:=e.cap-1) (by simp) (al _) (by simp only[ao];omega)
    rw[List.drop_one,List.tail_cons,bm (by simp)]at this;have u:(p::r).length-1=e.len-1:=by simp only[ao];omega
    rw[u]at this;exact this
   ·have f:=uN.1 ((aJ.1 o).1 q d)
    refine fI.2 fun u=>?_
    change Op.bytesLess (ky p) (ky q)=true at f;rw[u,Je]at f;cases f
   ·simp only[if_true]
    constructor
    ·rintro(⟨rfl,h⟩|⟨q,d,f,h2⟩)
     ·exact⟨p,aw ..,H,bR.inj h⟩
     ·exact⟨q,aB _ d,f,h2⟩
    ·rintro⟨q,d,f,h2⟩
     rcases aA.1 d with rfl|d
     ·exact .inl ⟨by rw[←f];exact H,by rw[h2]⟩
     ·exact .inr ⟨q,d,f,h2⟩
  |false=>
   have U:∀p r,L=p::r→ky p≠[]:=fun p r e H=>by have:=n.2 ⟨p,r,e,H⟩;cases this
   refine aj.2 (D _ _ ⟨rfl,L,g,Z,⟨o,fun q d=>⟨rfl,?_⟩⟩,fun q d=>d,al _,fun k v=>?_⟩)
   ·refine fI.2 fun u=>?_
    rcases L with _|⟨p,r⟩
    ·cases d
    rcases aA.1 d with rfl|d
    ·exact U _ _ rfl u
    ·have f:=uN.1 ((aJ.1 o).1 q d)
     change Op.bytesLess (ky p) (ky q)=true at f;rw[u,Je]at f;cases f
   ·simp only[Bool.false_eq_true,if_false]
    constructor
    ·rintro(⟨_,h⟩|⟨q,d,f,h2⟩)
     ·cases h
     ·exact⟨q,d,f,h2⟩
    ·rintro⟨q,d,f,h2⟩
     exact .inr ⟨q,d,f,h2⟩
 rintro⟨s3,v3⟩ h3 ⟨rfl,l',F,G,O,A,hll,w⟩;simp only at F G w;refine Pl (B:=1000000) (al _) 1000001 0 (by omega) (W:=W) F G O rfl (fun p hp=>Y p (A p hp)) (by omega) (fun y V=>aC (hW y V) Q.size) fun h4 s4 ks Lb P T E z=>?_
 obtain⟨C,X⟩:=E.done;have M:Lb.length≤100000:=by
  have:=jC C;rw[Fo.to_of]at this;omega
 refine Lv (W:=W) (P.sl fun _ _ _ h=>h) T M (fun y V=>aC (hW y V) (Q.tr z).size) fun h5 b5 J S=>?_
 refine hk h5 b5 ⟨_,_,J,C,fun k v=>?_⟩ ((Q.tr z).tr S)
 rw[jR];unfold tW;rw[X,w]
theorem EX{h:ae}{t:Tr}{k:ae→Prop}(d:∀h',h'[h.size]? =some (.cells (pi t).toArray bN (0,0))→Upd No h h'→k h'):
  At (hnew h (pi Kc) bN) (fun a=>u6 a (some (aF h)) 0 (pi t)∧At (iP a (aF h) 0 (pi t)) k):=
 aW fun a b1 k1=>cU (c:=pi Kc) (vs:=pi t) b1 rfl fun h2 b2 b=>d h2 b2 (k1.own b (al _))
theorem KC{N:Nat}(st:StP N)(O:StH N)(hN:N≤100000){W X:Nat→Prop}{x:Hs}{h:ae}{s:SliceV}{l:List Pr}(A:Sl eC 2 X h s l)(Q:∀y,W y→y<h.size)(hn:l.length≤N)(S:∀p∈l,p.1.size≤256∧p.2.size≤4096){K:Tr×Int→ae→Prop}
  (hk:∀h' t,TreeIs W h' 0 x t (vP l)→Upd No h h'→K (t,0) h'):HC PG oW [.int .i64 0,.agg #[.int .u64 x.k0,.int .u64 x.k1,.int .u64 x.mask],.slice s.a s.len s.cap] [.agg [.int .i64,.int .u64,.int .u64,.int .u64,.ptr,.ptr],.c (.int .i64)] K h:=by
 refine Eh 0 (x.k0,x.k1,x.mask) s ?_;unfold yP cl bw ag aQ aK eJ nv AC vO AU r7 ax lM hP;refine aW fun D b1 k1=>aW fun h2 b2 E=>?_
 have z1:=bD b1;have z2:=bD b2;have T:h.size≤D.size:=k1.size;have v:=E.get0 b1;have o:=k1.tr E;refine⟨_,vc v 0,_,vc v 1,_,vc v 2,?_⟩;refine MP (W:=No) (x:=x) (fun _ h=>h.elim) (.inl rfl) fun h3 t3 _ k3=>?_
 refine EX (t:=t3) fun V b4 L=>?_
 refine aj.2 ?_;have d:=k3.tr L;have C:=o.tr d;have J:=A.len;refine LoopP.ghost (fun(i:Nat) (t:Int) h'=>t=(i:Int)∧i≤l.length∧Upd No V h') (fun i=>l.length-i) 0 ⟨rfl,aS _,Upd.refl _ _⟩ ?_
 rintro I i t P ⟨rfl,hi,n⟩ Y;have f:=C.tr n;refine az (fun b=>?_) fun hge=>?_
 ·have b:i<l.length:=by omega
  obtain⟨a,M,_,hv⟩:=(A.upd f fun _ h=>h.elim).at (af b)
  have F:=S _ (aZ b);refine⟨⟨by omega,by omega⟩,a,M,l[i].1,hv 0 _ rfl,l[i].2,hv 1 _ rfl,?_⟩
  refine Il (p:=l[i]) fun Z u j=>⟨_,vc u 0,_,vc u 1,AD F.1 F.2 (aj.2 ?_)⟩
  rw[fy b (by omega)];exact Y (i+1) _ _ ⟨rfl,b,n.tr j⟩ (by omega)
 ·have w:=Pro.lt (h2:=h2) Q o
  have e:∀y,Pro W h h2 y→y<P.size:=fun y k=>aC (w y k) (d.tr n).size
  have d2:=(d.tr n).get0 b2;have g:=(d.tr n).get0 v;refine aj.2 ⟨_,vc g 0,_,vc g 1,_,vc g 2,_,vc g 0,_,vc g 1,_,vc g 2,?_⟩;refine Vn st O hN (z:=x) (A.upd f fun _ h=>h.elim) e hn fun Z u t6 j=>?_
  have B:=j.get0 g;refine⟨⟨vc B 0,vc B 1,vc B 2⟩,?_⟩;refine FT (x:=x) (.inr ⟨u,rfl,t6⟩) (fun y k=>aC (e y k) j.size) fun h7 G U H=>?_
  refine cU (c:=pi Kc) (vs:=pi G) (H.get0 (j.get0 d2)) rfl fun R m q=>?_
  refine⟨_,vc m 0,_,vc m 1,_,vc m 2,_,vc m 3,_,vc m 4,_,vc m 5,?_⟩;exact hk R G ((U.updM q (fun y k=>.inl (.inr (by have k:y=D.size:=k;omega)))).less Pro.sub) (((f.tr j).tr H).own q T)
theorem KB{N:Nat}(st:StP N)(X:N≤100000){W S:Nat→Prop}{x:Hs}{h:ae}{s:SliceV}{l:List Pr}(w:Sl eC 2 S h s l)(M:∀y,W y→y<h.size)(hn:l.length≤N)(A:∀p∈l,p.1.size≤256∧p.2.size≤4096){K:Tr×Int→ae→Prop}
  (V:∀h' t,TreeIs W h' 1 x t (vP l)→Upd No h h'→K (t,0) h'):HC PG oW [.int .i64 1,.agg #[.int .u64 x.k0,.int .u64 x.k1,.int .u64 x.mask],.slice s.a s.len s.cap] [.agg [.int .i64,.int .u64,.int .u64,.int .u64,.ptr,.ptr],.c (.int .i64)] K h:=by
 refine Eh 1 (x.k0,x.k1,x.mask) s ?_;unfold yP cl bw ag aQ aK eJ nv AC vO AU r7 ax lM hP;refine aW fun B b1 k1=>aW fun h2 b2 C=>?_
 have z1:=bD b1;have z2:=bD b2;have P:h.size≤B.size:=k1.size;have u:=C.get0 b1;have m:=k1.tr C;refine⟨_,vc u 0,_,vc u 1,_,vc u 2,?_⟩;refine MP (W:=No) (x:=x) (fun _ h=>h.elim) (.inr rfl) fun h3 Y _ k3=>?_
 refine EX (t:=Y) fun R b4 H=>?_
 refine aj.2 ?_;have d:=k3.tr H;have z:=m.tr d;have G:=w.len;refine LoopP.ghost (fun(i:Nat) (t:Int) h'=>t=(i:Int)∧i≤l.length∧Upd No R h') (fun i=>l.length-i) 0 ⟨rfl,aS _,Upd.refl _ _⟩ ?_
 rintro I i t L ⟨rfl,hi,k⟩ T;have f:=z.tr k;refine az (fun b=>?_) fun Z=>?_
 ·have b:i<l.length:=by omega
  obtain⟨a,J,_,hv⟩:=(w.upd f fun _ h=>h.elim).at (af b)
  have D:=A _ (aZ b);refine⟨⟨by omega,by omega⟩,a,J,l[i].1,hv 0 _ rfl,l[i].2,hv 1 _ rfl,?_⟩
  refine Il (p:=l[i]) fun U q n=>⟨_,vc q 0,_,vc q 1,AD D.1 D.2 (aj.2 ?_)⟩
  rw[fy b (by omega)];exact T (i+1) _ _ ⟨rfl,b,k.tr n⟩ (by omega)
 ·have v:=Pro.lt (h2:=h2) M m
  have e:∀y,Pro W h h2 y→y<L.size:=fun y g=>aC (v y g) (d.tr k).size
  have d2:=(d.tr k).get0 b2;have d1:=(d.tr k).get0 u;refine au.2 (UC st X (w.upd f fun _ h=>h.elim) e hn (fun p hp=>by have:=(A p hp).1;omega) fun U q t6 n=>?_)
  refine FS (x:=x) (.inr ⟨q,rfl,t6⟩) (fun y g=>aC (e y g) n.size) fun h7 E Q F=>?_
  refine cU (c:=pi Kc) (vs:=pi E) (F.get0 (n.get0 d2)) rfl fun O j o=>?_
  refine⟨_,vc j 0,_,vc j 1,_,vc j 2,_,vc j 3,_,vc j 4,_,vc j 5,?_⟩;exact V O E ((Q.updM o (fun y g=>.inl (.inr (by have g:y=B.size:=g;omega)))).less Pro.sub) (((f.tr n).tr F).own o P)
theorem DL{W i:Nat→Prop}{x:Hs}{h:ae}{s:SliceV}{l:List Pr}(c:Sl eC 2 i h s l)(f:∀y,W y→y<h.size)(g:l.length≤100000)(d:∀p∈l,p.1.size≤256∧p.2.size≤4096){a:Int}(b:a=0∨a=1){K:Tr×Int→ae→Prop}
  (e:∀h' t,TreeIs W h' a x t (vP l)→Upd No h h'→K (t,0) h'):HC PG oW [.int .i64 a,.agg #[.int .u64 x.k0,.int .u64 x.k1,.int .u64 x.mask],.slice s.a s.len s.cap] [.agg [.int .i64,.int .u64,.int .u64,.int .u64,.ptr,.ptr],.c (.int .i64)] K h:=by
 rcases b with rfl|rfl
 ·exact KC (stP.less (by omega)) (stH.less (by omega)) (al _) c f g d e
 ·exact KB (stP.less (by omega)) (al _) c f g d e
end Go.Proofs
namespace Go.Proofs
open Go Go.Lift
def l3(a l:List Pr):List Pr:=(l.take 25).foldl (fun acc p=>iM (Ky p) acc) a
theorem L3{a l:List Pr}{i:Nat}(hi:i<l.length)(b:i<25):l3 a (l.take (i+1))=iM (Ky l[i]) (l3 a (l.take i)):=by
 unfold l3;rw[ip,ip,g9 (by omega),g9 (by omega),aX hi,List.foldl_append];rfl
theorem L4{a l:List Pr}{i:Nat}(b:25≤i):l3 a (l.take (i+1))=l3 a (l.take i):=by
 unfold l3;rw[ip,ip,bJ (by omega),bJ (by omega)]
theorem xA{n:Nat}{a:List Pr}(f:Few n a)(l:List Pr):Few (n+25) (l3 a l):=by
 unfold l3;have:∀(m:List Pr) (n:Nat) (acc:List Pr),Few n acc→Few (n+m.length) (m.foldl (fun acc p=>iM (Ky p) acc) acc):=by
  intro m;induction m with
  |nil=>intro n acc h;exact h
  |cons p m ih=>
   intro n acc h;have:=ih (n+1) _ (h.ins (Ky p) (ox _) (ox _));rw[jQ,ao];rw[Nat.add_assoc,Nat.add_comm 1]at this;exact this
 have h:=this (l.take 25) n a f;exact⟨h.up,bj h.len (by rw[aH];omega),h.fit⟩
theorem Nu:Few 0 []:=⟨.nil,al _,fun p a=>by cases a⟩
theorem Vh(s:ByteArray):((0:Int)≤(if 30<(s.size:Int)then 30 else(s.size:Int))∧(if 30<(s.size:Int)then 30 else(s.size:Int))≤((s.size:Nat):Int))∧s.extract 0 ((if 30<(s.size:Int)then 30 else(s.size:Int)).toNat)=uD s:=by
 unfold uD;split
 ·refine⟨⟨by omega,by omega⟩,?_⟩
  rw[g9 (by omega)];rfl
 ·refine⟨⟨by omega,by omega⟩,?_⟩
  rw[bJ (by omega),aU]
theorem WS{h:ae}{r:Rt}{k:ae→Prop}(d:∀h',h'[h.size]? =some (.cells (qQ r).toArray cQ (0,0))→Upd No h h'→k h'):
  At (hnew h (qQ MX) cQ) (fun a=>u6 a (some (aF h)) 0 (qQ r)∧At (iP a (aF h) 0 (qQ r)) k):=
 aW fun a b1 k1=>cU (c:=qQ MX) (vs:=qQ r) b1 rfl fun h2 b2 b=>d h2 b2 (k1.own b (al _))
theorem WQ{x:Hs}{h:ae}{K:Int×Int×Int→ae→Prop}(f:∀h',Upd No h h'→K (x.k0,x.k1,x.mask) h'):HC PG Fe [.agg #[.int .u64 x.k0,.int .u64 x.k1,.int .u64 x.mask]] [.agg [.int .u64,.int .u64,.int .u64]] K h:=by
 refine VD (x.k0,x.k1,x.mask) ?_;unfold Mz ag eJ AC dK abn abo;refine aW fun g b1 k1=>aW fun h2 b2 d=>?_
 have b:=d.get0 b1;refine⟨_,BS b 0 0,_,BS b 0 1,_,vc b 2,?_⟩;refine cU (c:= [.int .u64 0,.int .u64 0,.int .u64 0]) (vs:= [.int .u64 x.k0,.int .u64 x.k1,.int .u64 x.mask]) b2 rfl fun e b3 a=>?_
 exact⟨_,vc b3 0,_,vc b3 1,_,vc b3 2,f e ((k1.tr d).own a k1.size)⟩
theorem Si{W:Nat→Prop}{x:Hs}{h:ae}{k:Int}(h0:0≤k)(p:k≤255)(P:∀y,W y→y<h.size){K:Tr×Rt→ae→Prop}
  (O:∀h' t r,TreeIs W h' (IntKind.wrap .i64 (eB k 2)) x t []→RefIs W h' (IntKind.wrap .i64 (eB k 2)) x r []→Upd No h h'→K (t,r) h'):
  HC PG zT [.int .u8 k,.agg #[.int .u64 x.k0,.int .u64 x.k1,.int .u64 x.mask]] [.agg [.int .i64,.int .u64,.int .u64,.int .u64,.ptr,.ptr],.agg [.int .i64,.int .u64,.int .u64,.int .u64,.slice]] K h:=by
 refine Qe k (x.k0,x.k1,x.mask) ?_;unfold GG bw ag aQ cT eJ nv AC vO AU J9 r7 GO Oi Ka Ow;have n:=aa2 h0 p;generalize IntKind.wrap .i64 (eB k 2)=kind at n O⊢;refine aW fun p b1 k1=>aW fun h2 b2 H=>aW fun E b3 D=>⟨by decide,?_⟩
 have z1:=bD b1;have z2:=bD b2;have z3:=bD b3;have S:h.size≤p.size:=k1.size;have s2:p.size≤h2.size:=H.size;have A:=(k1.tr H).tr D;have C:=D.get0 (H.get0 b1);have Z:=D.get0 b2;have s3:=D.size;refine⟨_,vc C 0,_,vc C 1,_,vc C 2,?_⟩;refine MP (W:=Pro W h E) (x:=x) (Pro.lt P A) n fun R t Y z=>?_
 refine EX (t:=t) fun h10 v i=>⟨by decide,?_⟩
 have s8:=z.size;have ZW:=i.size;have V:=bD v;have F:=i.get0 (z.get0 C);refine⟨_,vc F 0,_,vc F 1,_,vc F 2,?_⟩;refine WQ (x:=x) fun T q=>?_
 have X:=q.size;refine YB (x:=x) (W:=Pro W h E) n fun h17 r J o=>?_
 have s17:=o.size;refine WS (r:=r) fun N s e=>?_
 have sL:=e.size;have zL:=bD s;have m:Upd No R N:=((i.tr q).tr o).tr e;have U:Upd No h N:=(A.tr z).tr m;have u:=e.get0 ((q.tr o).get0 v);have L:=m.get0 (z.get0 Z);have G:=m.get0 (z.get0 b3);have B:Pro W h E p.size:=.inr (by omega);have w:Pro W h E h2.size:=.inr (by omega);refine⟨_,vc u 0,_,vc u 1,_,vc u 2,_,vc u 3,_,vc u 4,_,vc u 5,_,vc s 0,_,vc s 1,_,vc s 2,_,vc s 3,r.2.2.2.2,vc s 4,?_⟩
 refine cU (c:=pi Kc) (vs:=pi t) L rfl fun Q M a=>?_
 have g:=a.oth s (by omega);refine⟨⟨vc g 0,vc g 1,vc g 2,vc g 3,vc g 4⟩,?_⟩;refine cU (c:=qQ MX) (vs:=qQ r) (a.oth G (by omega)) rfl fun I j d=>?_
 have f:=d.oth M (by omega);refine⟨_,vc f 0,_,vc f 1,_,vc f 2,_,vc f 3,_,vc f 4,_,vc f 5,_,vc j 0,_,vc j 1,_,vc j 2,_,vc j 3,r.2.2.2.2,vc j 4,?_⟩;refine O I t r ((((Y.upd0 m).updM a fun y b=>.inl (by have b:y=p.size:=b;rw[b];exact B)).updM d fun y b=>.inl (by have b:y=h2.size:=b;rw[b];exact w)).less Pro.sub) ((((J.upd0 e).updM a fun y b=>.inl (by have b:y=p.size:=b;rw[b];exact B)).updM d fun y b=>.inl (by have b:y=h2.size:=b;rw[b];exact w)).less Pro.sub) ((U.own a S).own d (by omega))
end Go.Proofs
namespace Go.Proofs
open Go Go.Lift
abbrev ZG:List Value:= [.string (⟨#[]⟩:ByteArray),.string (⟨#[]⟩:ByteArray),.string (⟨#[]⟩:ByteArray),.bool false,.bool false]
theorem Im{h:ae}{t:TypeId}{c:Ch}{k:ae→Prop}(d:∀h',h'[h.size]? =some (.cells (pk c).toArray t (0,0))→Upd No h h'→k h'):
  At (hnew h ZG t) fun b=>u6 b (some (aF h)) 0 (pk c)∧At (iP b (aF h) 0 (pk c)) k:=
 aW fun e b1 k1=>cU (c:=ZG) (vs:=pk c) b1 rfl fun h2 b2 a=>d h2 b2 (k1.own a (al _))
theorem PW{t:TypeId}{M:Nat→Prop}{h:ae}{so:SliceV}{out:List Ch}{c:Ch}{K:SliceV→ae→Prop}(f:OwnS pk 5 t M h so out)(hM:∀b,h.size≤b→M b)(k:out.length+1≤100000000)
  (g:∀s' h',OwnS pk 5 t M h' s' (out++ [c])→Upd M h h'→K s' h'):
  At (hnew h (pk c) t) fun a=>∃xs,SRow a (some (aF h)) (1*5) xs∧AppP (some ZG) 5 56 t so.a so.len so.cap 1 xs a K:=by
 refine aW fun a b1 k1=>?_
 have j:=bD b1;have e:OwnS pk 5 t (fun _=>True) a ⟨some (aF h),1,1⟩ [c]:=⟨rfl,Cs,al _,.inr ⟨h.size,[],rfl,trivial,b1,rfl⟩⟩
 refine⟨_,(e.sl (W:=No) fun _ _ _ h=>h).srow,?_⟩
 refine AppP.own (ys:= [c]) (f.upd k1 fun _ _ h=>h) rfl rfl rfl rfl (by omega) (by simp only[aE];omega) (hM _ k1.size) fun s' h' d i=>?_
 exact g s' h' d (k1.wide.tr i)
theorem ab2(a b:Ch):((a.1.toList==b.1.toList)&&((a.2.1.toList==b.2.1.toList)&&((a.2.2.1.toList==b.2.2.1.toList)&&((a.2.2.2.1==b.2.2.2.1)&&((a.2.2.2.2==b.2.2.2.2)&&true)))))=decide (a=b):=by
 rw[ey,ey,ey];by_cases e:a=b
 ·subst e;simp
 ·rw[decide_eq_false e]
  obtain⟨i,g,f,c,d⟩:=a;obtain⟨b1,b2,b3,k,j⟩:=b;simp only[Prod.mk.injEq]at e;rw[Bool.eq_false_iff];intro h;simp only[bK,decide_eq_true_iff,beq_iff_eq,and_true]at h;exact e ⟨h.1,h.2.1,h.2.2.1,h.2.2.2.1,h.2.2.2.2⟩
theorem Yo{W W':Nat→Prop}{h:ae}{s s':SliceV}{l l':List Ch}(n:Sl pk 5 W h s l)(g:Sl pk 5 W' h s' l')(w:l.length≤1000000){K:Bool→ae→Prop}(f:K (decide (l=l')) h):yL s s' K h:=by
 unfold yL cl aK cD;have x:=n.len;have q:=g.len;by_cases ne:l.length=l'.length
 rotate_left
 ·rw[show((s.len:Int) !=(s'.len:Int))=true by rw[bne_iff_ne];omega]
  rw[decide_eq_false fun e=>ne (by rw[e])]at f
  exact au.2 f
 rw[show((s.len:Int) !=(s'.len:Int))=false by rw[bne_eq_false_iff_eq];omega]
 refine aj.2 (LoopP.ghost (fun(i:Nat) (t:Int) h'=>t=(i:Int)∧i≤l.length∧h'=h∧l.take i=l'.take i) (fun i=>l.length-i) 0 ⟨rfl,aS _,rfl,rfl⟩ ?_)
 rintro I i t h' ⟨rfl,hi,rfl,k⟩ v;refine az (fun c=>?_) fun u=>?_
 ·have c:i<l.length:=by omega
  have d:i<l'.length:=by omega
  obtain⟨a,o,_,hv⟩:=n.at (af c);obtain⟨a',j,_,b⟩:=g.at (af d);refine⟨⟨by omega,by omega⟩,a,o,_,hv 0 _ rfl,_,hv 1 _ rfl,_,hv 2 _ rfl,_,hv 3 _ rfl,_,hv 4 _ rfl,⟨by omega,by omega⟩,a',j,_,b 0 _ rfl,_,b 1 _ rfl,_,b 2 _ rfl,_,b 3 _ rfl,_,b 4 _ rfl,?_⟩
  rw[ab2 l[i] l'[i]];by_cases e:l[i]=l'[i]
  ·rw[decide_eq_true e]
   refine aj.2 ?_;rw[fy c (by omega)];refine v (i+1) _ _ ⟨rfl,c,rfl,?_⟩ (by omega);rw[aX c,aX d,k,e]
  ·rw[decide_eq_false e]
   rw[decide_eq_false fun p=>e (by subst p;rfl)]at f
   exact au.2 f
 ·have m:i=l.length:=by omega
  rw[m,bS,ne,bS]at k;rw[decide_eq_true k]at f;exact f
theorem Gk{W W':Nat→Prop}{h:ae}{s s':SliceV}{l l':List Ch}(b:Sl pk 5 W h s l)(a:Sl pk 5 W' h s' l')(c:l.length≤1000000){K:Bool→ae→Prop}(d:K (decide (l=l')) h):HC PG wn [.slice s.a s.len s.cap,.slice s'.a s'.len s'.cap] [.c .bool] K h:=by
 refine Qh s s' ?_;unfold GJ MH;refine nr s s' ?_;have:=Yo (K:=K) b a c d;unfold yL cl aK cD at this;unfold iS cl aK cD;exact this
theorem yF{W:Nat→Prop}{h:ae}{s:SliceV}{l:List Ch}(o:Sl pk 5 W h s l)(D:l.length≤1000000){K:SliceV→ae→Prop}(v:∀s' h',OwnS pk 5 my (fun y=>h.size≤y) h' s' l→Upd No h h'→K s' h'):HC PG pM [.slice s.a s.len s.cap] [.c .slice] K h:=by
 refine KT s ?_;unfold BL cl aK nv J0 ax cD dh AV;have x:=o.len;refine LoopP.ghost (fun(i:Nat) (t:SliceV×Int) h'=>OwnS pk 5 my (fun y=>h.size≤y) h' t.1 (l.take i)∧t.2=(i:Int)∧i≤l.length∧Upd No h h') (fun i=>l.length-i) 0 ⟨OwnS.nil Cs,rfl,aS _,Upd.refl _ _⟩ ?_
 rintro I i ⟨ts,A⟩ h' ⟨g,e,hi,f⟩ u;simp only at g e;subst e;have w:=f.size;refine az (fun b=>?_) fun d=>?_
 ·have b:i<l.length:=by have b:(i:Int)<(s.len:Int):=b;omega
  obtain⟨a,q,_,hv⟩:=(o.upd f fun _ h=>h.elim).at (af b)
  refine Join.plain ⟨⟨by simp only;omega,by simp only;omega⟩,a,q,_,hv 0 _ rfl,_,hv 1 _ rfl,_,hv 2 _ rfl,_,hv 3 _ rfl,_,hv 4 _ rfl,?_⟩
  refine Im (c:=l[i]) fun h2 b2 j=>?_
  have B:=j.size;refine⟨_,vc b2 0,_,vc b2 1,_,vc b2 2,_,vc b2 3,_,vc b2 4,?_⟩;refine PW (c:=l[i]) (g.upd j fun _ _ h=>h) (fun y p=>by omega) (by rw[aH];omega) fun z C n k=>?_
  rw[fy b (by omega)];refine u (i+1) _ _ ⟨?_,rfl,b,(f.tr j).trans k fun y p=>.inr p⟩ (by omega)
  rw[aX b];exact n
 ·have m:i=l.length:=by have d:¬(i:Int)<(s.len:Int):=d;omega
  rw[m,bS]at g;exact v _ h' g f
theorem Y3{h:ae}{b:Nat}{t:TypeId}{c:Ch}{a d f:ByteArray}{G:ae→Prop}(k:h[b]? =some (.cells (pk c).toArray t (0,0))) (n:∀h',h'[b]? =some (.cells (pk (a,d,f,c.2.2.2.1,c.2.2.2.2)).toArray t (0,0))→Upd (· =b) h h'→G h'):
  Wr h (adr ⟨b,0,none⟩ 0)∧At (hset h (adr ⟨b,0,none⟩ 0) (.string a)) (fun j=>Wr j (adr ⟨b,0,none⟩ 1)∧At (hset j (adr ⟨b,0,none⟩ 1) (.string d)) (fun h2=>Wr h2 (adr ⟨b,0,none⟩ 2)∧At (hset h2 (adr ⟨b,0,none⟩ 2) (.string f)) G)):=by
 refine qN (c':= #[.string a,.string c.2.1,.string c.2.2.1,.bool c.2.2.2.1,.bool c.2.2.2.2]) k (by simp) rfl fun q b3 e=>?_
 refine qN (c':= #[.string a,.string d,.string c.2.2.1,.bool c.2.2.2.1,.bool c.2.2.2.2]) b3 (by simp) rfl fun s p i=>?_
 refine qN (c':= #[.string a,.string d,.string f,.bool c.2.2.2.1,.bool c.2.2.2.2]) p (by simp) rfl fun m o g=>n m o ((e.tr i).tr g)
theorem aaW{h:ae}{b:Nat}{t:TypeId}{c:Ch}{G:ByteArray→ByteArray→ByteArray→Bool→Bool→Prop}(a:h[b]? =some (.cells (pk c).toArray t (0,0))) (d:G c.1 c.2.1 c.2.2.1 c.2.2.2.1 c.2.2.2.2):
  ∃v1,aP h (adr ⟨b,0,none⟩ 0)=some (.string v1)∧∃v2,aP h (adr ⟨b,0,none⟩ 1)=some (.string v2)∧∃v3,aP h (adr ⟨b,0,none⟩ 2)=some (.string v3)∧∃v4,aP h (adr ⟨b,0,none⟩ 3)=some (.bool v4)∧∃v5,aP h (adr ⟨b,0,none⟩ 4)=some (.bool v5)∧G v1 v2 v3 v4 v5:=
 ⟨_,vc a 0,_,vc a 1,_,vc a 2,_,vc a 3,_,vc a 4,d⟩
end Go.Proofs
namespace Go.Proofs
open Go Go.Lift
abbrev bA:ByteArray:=⟨#[97]⟩
abbrev bB:ByteArray:=⟨#[98]⟩
theorem bab:kl bA bB:=by rw[uN];decide
end Go.Proofs
namespace Go.Proofs
open Go Go.Lift
abbrev b1:ByteArray:=⟨#[49]⟩
abbrev b2:ByteArray:=⟨#[50]⟩
abbrev b3:ByteArray:=⟨#[51]⟩
theorem Yl(p:Pr):vP [p]= [p]:=rfl
theorem Yj{v w:ByteArray}:vP [(bA,v),(bB,w)]= [(bA,v),(bB,w)]:=by
 unfold vP;rw[jQ,jQ,List.foldl_nil];have a:iM (bA,v) []= [(bA,v)]:=rfl;rw[a,iw,if_pos bab];rfl
theorem Uz{v w:ByteArray}:cf [(bA,v),(bB,w)]:=aJ.2 ⟨fun p a=>by rw[aD.1 a];exact bab,cx ..⟩
theorem Gm:me [(bA,b1)] [(bA,b2),(bB,b3)]= [(bA,b1,b2,true,true),(bB,⟨#[]⟩,b3,false,true)]:=by
 rw[vt (a:=(bA,b1)) (b:=(bA,b2)) rfl,kF];unfold A0;rw[if_neg (by decide)];rfl
theorem Mb{l:List Pr}(h:∀p∈l,p.1.size≤40∧p.2.size≤40):Fit l:=fun p a=>by have:=h p a;omega
theorem Lr{v w:ByteArray}(hv:v.size≤1)(b:w.size≤1):∀p∈[(bA,v),(bB,w)],p.1.size≤40∧p.2.size≤40:=fun p a=>by
 rcases aA.1 a with rfl|a
 ·exact⟨(by decide:bA.size≤40),by simp only;omega⟩
 ·rw[aD.1 a]
  exact⟨(by decide:bB.size≤40),by simp only;omega⟩
theorem Ls{v:ByteArray}(hv:v.size≤1):∀p∈[(bA,v)],p.1.size≤40∧p.2.size≤40:=fun p a=>by
 rw[aD.1 a];exact⟨(by decide:bA.size≤40),by simp only;omega⟩
theorem Sj{h:ae}{K:Bool→ae→Prop}(Q:∀h',Upd No h h'→K true h'):HC PG zU [] [.c .bool] K h:=by
 refine Qf ?_;unfold GH cl bw ag aQ aK nv AU r7 yc hP cD abv aaJ;refine aW fun N B k1=>?_
 have M:Sl eC 2 No N ⟨some (aF h),1,1⟩ [(bA,b1)]:=⟨rfl,gq,fun _=>⟨_,rfl,fun h=>h.elim,oI B fun i v hv=>by simpa using hv⟩⟩
 refine DL (W:=No) (x:=⟨0,0,0⟩) M (fun _ h=>h.elim) (by simp) (fun p D=>by have:=Ls (v:=b1) (by decide) p D;omega) (.inr rfl) fun U t G R=>?_
 rw[Yl]at G;refine EX (t:=t) fun H I E=>?_
 refine aW fun O L z=>?_
 have q:Sl eC 2 No O ⟨some (aF H),2,2⟩ [(bA,b2),(bB,b3)]:=⟨rfl,gq,fun _=>⟨_,rfl,fun h=>h.elim,oI L fun i v hv=>by simpa using hv⟩⟩
 refine DL (W:=No) (x:=⟨0,0,0⟩) q (fun _ h=>h.elim) (by simp) (fun p D=>by have:=Lr (v:=b2) (w:=b3) (by decide) (by decide) p D;omega) (.inr rfl) fun T u F y=>?_
 rw[Yj]at F;refine EX (t:=u) fun S c e=>?_
 have d:=(z.tr (y.tr e)).get0 I;refine⟨_,vc d 0,_,vc d 1,_,vc d 2,_,vc d 3,_,vc d 4,_,vc d 5,_,vc c 0,_,vc c 1,_,vc c 2,_,vc c 3,_,vc c 4,_,vc c 5,?_⟩;have g:=G.upd0 (((E.tr z).tr y).tr e);have m:=F.upd0 e;have J:tK t u=true:=UX g m;refine Vf g m (cx ..) (Mb (Ls (by decide))) (by decide) Uz (Mb (Lr (by decide) (by decide))) (by decide) (fun _=>by rw[Gm];decide) (fun h=>by rw[J]at h;cases h) fun _ A f C s=>?_
 rw[Gm]at C;have b:=C.len;have j:=C.sl (W:=No) fun _ _ _ h=>h
 obtain⟨a,o,_,hv⟩:=j.at (i:=0) (x:=(bA,b1,b2,true,true)) rfl;obtain⟨a',k,_,n⟩:=j.at (i:=1) (x:=(bB,(⟨#[]⟩:ByteArray),b3,false,true)) rfl;rw[o]at k;cases k;refine au.2 ?_;have P:((f.len:Int)==(2:Int))=true:=by rw[b];rfl
 rw[show((f,(0:Int)).1.len:Int)=(f.len:Int)from rfl,P]
 refine au.2 ⟨⟨by omega,by rw[b];decide⟩,a,o,bA,hv 0 _ rfl,b1,hv 1 _ rfl,b2,hv 2 _ rfl,true,hv 3 _ rfl,true,hv 4 _ rfl,?_⟩
 rw[beq_self_eq_true,beq_self_eq_true,beq_self_eq_true];refine au.2 ⟨⟨by omega,by rw[b];decide⟩,a,o,bB,n 0 _ rfl,?_⟩
 rw[beq_self_eq_true];refine au.2 ⟨⟨by omega,by rw[b];decide⟩,a,o,false,n 3 _ rfl,?_⟩
 exact Q A ((((((k1.tr R).tr E).tr z).tr y).tr e).tr s)
end Go.Proofs
