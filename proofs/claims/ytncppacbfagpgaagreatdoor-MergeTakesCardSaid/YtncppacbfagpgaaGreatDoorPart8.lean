/- A part of the proof that the named laws of this program answer true, whatever the input. -/
import Derived.Test.YtncppacbfagpgaaGreatDoorPart7
import Derived.Test.YtncppacbfagpgaaGreatDoorPart4
import Derived.Test.YtncppacbfagpgaaGreatDoorPart0
open Bool renaming and_eq_true→bq
open Iff renaming rfl→zO
open Int renaming toNat_natCast→aU
open List renaming pairwise_append→cx,mem_cons_self→au,append_nil→aL,mem_append_left→cI,mem_append→bC,mem_append_right→de,length_append→ac,length_nil→aM,length_cons→ar,getElem?_append_right→aZ,length_singleton→aK,length_eq_zero_iff→aA,filter_congr→sY,cons_append→cM,cons→ft,mem_cons→aC,pairwise_cons→aF,drop_zero→cW,take_left→g7,drop_left→gi,take_length→ce,append_assoc→aq,foldl_cons→jd,take_succ_cons→eo,take_append_drop→aO,length→fP,length_drop→aV,mem_of_getLast?→jQ,mem_singleton→aD,length_take→aQ,append_cancel_left→fg,pairwise_singleton→cD,getElem?_eq_getElem→af,getElem_mem→bh,find?_cons→qI,filter_eq_self→gK,any_eq_true→cE,any_cons→ur,mem_range→g9,getElem_of_mem→bQ,getElem_take→sR,getElem_drop→sS,mem_of_getElem→qe
open List.Pairwise renaming nil→eI
open Nat renaming lt_of_lt_of_le→aG,le_refl→aj,sub_self→gA,one_pos→rz,zero_le→aS,le_trans→aX,min_eq_left→bH,zero_testBit→ij
namespace Go.Proofs
open Go Go.Lift
theorem Oo{h:ad}{b:Nat}{c:Array Value}{t:TypeId}{v:Value}{k:ad→Prop}(a:h[b]? =some (.cells c t (0,0))) (d:0<c.size) (e:∀h',h'[b]? =some (.cells (c.setIfInBounds 0 v) t (0,0))→Upd (· =b) h h'→k h'):Wr h ⟨b,0,none⟩∧At (hset h ⟨b,0,none⟩ v) k:=
 ⟨ip a d,wr a e⟩
theorem WI{L D T:List Pr}{p:Pr}(c:bM L)(e:L=D++p::T):Lk D p=D++ [p]:=by
 subst e;have b:=cx.1 c;rw[Ei p b.1];have:=Eh (p:=p) (A:=D) (B:= []) fun r a=>b.2.2 r a p (au ..)
 rw[aL]at this;exact this
theorem XM{z:Hs}{lev:Nat}{D A B:List Pr}{f:Pr}(p:Srt (abK z lev) (D++(A++B)))(n:∀d∈D,∀t∈A++B,ck z lev d.1<ck z lev t.1)(k:f∈A)(i:∀a∈A,ck z lev a.1=ck z lev f.1)(o:∀b∈B,ck z lev b.1≠ck z lev f.1):
  part z lev (ck z lev f.1) (D++(A++B))=A∧part z lev (ck z lev f.1) D= []∧(∀c,c≠ck z lev f.1→part z lev c (D++A)=part z lev c D)∧part z lev (ck z lev f.1) (D++A)=A∧∀d∈D++A,∀t∈B,ck z lev d.1<ck z lev t.1:=by
 have g:part z lev (ck z lev f.1) D= []:=y9 fun d hd=>by have:=n d hd f (cI _ k);omega
 have m:part z lev (ck z lev f.1) A=A:=Je i;have q:part z lev (ck z lev f.1) B= []:=y9 o;have app:∀{c} (X Y:List Pr),part z lev c (X++Y)=part z lev c X++part z lev c Y:=fun X Y=>List.filter_append ..
 refine⟨by rw[app,app,g,m,q];simp,g,fun c hc=>?_,by rw[app,g,m];rfl,fun d hd t j=>?_⟩
 ·have:part z lev c A= []:=y9 fun a s=>by rw[i a s];exact fun e=>hc e.symm
  rw[app,this,aL]
 ·rcases bC.1 hd with hd|hd
  ·exact n d hd t (de _ j)
  ·have u:=of_decide_eq_false (p.right.cross d hd t j)
   have h2:=o t j;have v:=i d hd;omega
set_option maxHeartbeats 1000000 in
theorem ZA{N:Nat}(st:StH N)(hN:N≤100000){z:Hs}{W:Nat→Prop}:∀(m:Nat),m≤13→∀{h:ad} {s:SliceV} {L:List Pr},Sl (CX z) 3 No h s L→(∀y,W y→y<h.size)→bM L→L.length≤N→∀{K:Option Addr→ad→Prop},
  (∀h' b,TrieAt W z h' m b L→Upd No h h'→K (some ⟨b,0,none⟩) h')→HC PG sq [.slice s.a s.len s.cap,.int .i64 ((13-m:Nat):Int)] [.c .ptr] K h:=by
 intro m;induction m with
 |zero=>
  intro _ h s L hs hW hr hn K hk;have gW:∀{h'},Upd No h h'→∀y,W y→y<h'.size:=fun k y hy=>aG (hW y hy) k.size
  refine E2 s ((13-0:Nat):Int) ?_;unfold zK bE bT cg nv az jR rC O7 Rr DS CB;refine aP fun h1 b1 k1=>⟨_,O9 b1,aw.2 ?_⟩
  refine M3 (gW k1) fun h4 b4 bk4 hu4=>?_
  have hlen:=hs.len;refine LoopP.ghost (fun(g:List Pr×List Pr) (t:Option Addr×Int) h'=>(∃b,t.1=some ⟨b,0,none⟩∧BuckAt W h' b g.1)∧t.2=(g.1.length:Int)∧L=g.1++g.2∧Upd No h h') (fun g=>g.2.length) ([],L) ⟨⟨b4,rfl,bk4⟩,rfl,rfl,k1.tr hu4⟩ ?_
  rintro I ⟨D,T⟩ ⟨tb,ti⟩ h5 ⟨⟨b,Y,bk⟩,e2,w,S⟩ hI;simp only at Y e2 w bk;subst Y e2;have hl3:L.length=D.length+T.length:=by rw[w,ac]
  refine ax (fun hlt=>?_) fun hge=>?_
  ·rcases T with _|⟨p,T⟩
   ·simp only[aM]at hl3;omega
   ·simp only[ar]at hl3
    obtain⟨a,ha,_,hv⟩:=(hs.upd S fun _ h=>h.elim).at (i:=D.length) (x:=p) (by rw[w,aZ (aj _),gA];rfl)
    refine⟨⟨by omega,by omega⟩,a,ha,p.1,hv 0 _ rfl,p.2,hv 1 _ rfl,gq z p.1,hv 2 _ rfl,?_⟩
    refine aP fun h6 b6 k6=>?_
    refine cF (c:= [.string ⟨#[]⟩,.string ⟨#[]⟩,.int .u64 0]) (vs:=CX z p) b6 rfl fun h7 b7 P=>?_
    have hu07:=(S.tr k6).own P S.size;have k57:Upd No h5 h7:=k6.own P (aj _);refine⟨p.1,lJ b7 0 0,p.2,lJ b7 0 1,?_⟩;have hrD:bM D:=by rw[w]at hr;exact(cx.1 hr).1
    refine Ic (bk.upd k57 fun _ h=>h.elim) (gW hu07) hrD (by omega) p fun h8 b8 bk8 hu8=>?_
    rw[WI hr w]at bk8;have ew:IntKind.wrap .i64 ((D.length:Int)+1)=((D++ [p]).length:Int):=by rw[ac,aK,eJ (by omega)];omega
    rw[ew];exact hI (D++ [p],T) _ _ ⟨⟨b8,rfl,bk8⟩,rfl,by rw[w];simp,hu07.tr hu8⟩ (by simp)
  ·have hT:T= []:=aA.1 (by omega)
   subst hT;rw[aL]at w;subst w;exact hk h5 b bk S
 |succ m ih=>
  intro hm h s L hs hW hr hn K hk;have gW:∀{h'},Upd No h h'→∀y,W y→y<h'.size:=fun k y hy=>aG (hW y hy) k.size
  have hlev:13-(m+1)=12-m:=by omega
  have O:12-m<13:=by omega
  refine E2 s ((13-(m+1):Nat):Int) ?_;unfold zK bE bT cg nv az jR rC O7 Rr DS CB;rw[hlev];refine aP fun h1 b1 k1=>⟨_,O9 b1,?_⟩
  have ne:(((12-m:Nat):Int)==(13:Int))=false:=by rw[beq_eq_false_iff_ne];omega
  rw[ne];refine ag.2 (aP fun h2 b2 k2=>?_)
  have z1:=aY b1;have z2:=aY b2;have s1:=k1.size;refine Oo b2 rz fun h3 b3 hu3=>?_
  have c1:=hu3.oth (k2.get0 b1) (by omega);have two3:Two h.size h1.size (12-m) h3:=⟨c1,b3⟩;have k03:Upd No h h3:=(k1.tr k2).own hu3 s1;have s3:h2.size≤h3.size:=hu3.size;refine WD (hs.upd k03 fun _ h=>h.elim) (by omega) fun e h4 ho4 hu4=>?_
  have two4:=two3.upd hu4;refine st (abJ z (12-m)) (adR O (by omega) (by omega)) ho4 two4 (by omega) fun h5 R ho5 hst S=>?_
  have k45:Upd No h3 h5:=hu4.trans S fun b hb=>.inr hb
  have two5:=two3.upd k45;have hRl:=hst.eqf.len;have hRp:∀c,part z (12-m) c R=part z (12-m) c L:=fun c=>by
   by_cases hex:∃q∈R++L,ck z (12-m) q.1=c
   ·obtain⟨q,_,hq⟩:=hex
    have Y:∀X:List Pr,X.filter (M1 (abK z (12-m)) q)=part z (12-m) c X:=fun X=>sY fun p _=>by rw[aax,hq]
    rw[←Y,←Y];exact hst.eqf.flt q
   ·rw[y9 fun p hp e=>hex ⟨p,cI _ hp,e⟩,y9 fun p hp e=>hex ⟨p,de _ hp,e⟩]
  have k05:=k03.tr k45;refine rP (gW k05) fun h6 b6 nd6 hu6=>?_
  have k06:=k05.tr hu6;have hlen:=ho5.len;have C:Sl (CX z) 3 No h6 e R:=(ho5.sl fun _ _ _ h=>h).upd hu6 fun _ h=>h.elim
  refine LoopP.ghost (fun(g:List Pr×List Pr) (t:SliceV×Option Addr) h'=>R=g.1++g.2∧(∀d∈g.1,∀y∈g.2,ck z (12-m) d.1<ck z (12-m) y.1)∧Sl (CX z) 3 No h' t.1 g.2∧t.1.len≤t.1.cap∧(∃b sl,t.2=some ⟨b,0,none⟩∧NodeAt W h' b sl∧∀c,c<32→SlotIs W z h' m sl c (part z (12-m) c g.1))∧Upd No h6 h') (fun g=>g.2.length) ([],R)
   ⟨rfl,fun d hd=>(by cases hd),C,ho5.cap,⟨b6,_,rfl,nd6,fun c _=>.inl ⟨rfl,rfl,rfl⟩⟩,Upd.refl _ _⟩ ?_
  rintro I ⟨D,T⟩ ⟨sT,tb⟩ h7 ⟨w,hDT,o,hcT,⟨b,sl,Y,nd,C⟩,P⟩ hI;simp only at Y w hDT o hcT nd C;subst Y;have Q:=o.len;have hRT:R.length=D.length+T.length:=by rw[w,ac]
  have k07:=k06.tr P;have two7:=(two5.upd hu6).upd P;refine ax (fun hgt=>?_) fun hle=>?_
  ·rcases T with _|⟨p,T⟩
   ·simp only[aM]at Q;simp only at hgt;omega
   obtain⟨a,ha,_,hv⟩:=o.at (i:=0) (x:=p) rfl;refine⟨_,O9 two7.2,⟨by omega,by simp only[ar]at Q;simp only;omega⟩,a,ha,p.1,hv 0 _ rfl,p.2,hv 1 _ rfl,gq z p.1,hv 2 _ rfl,?_⟩
   have v:∀{h8},Upd No h7 h8→Two h.size h1.size (12-m) h8:=fun k=>two7.upd k
   refine⟨JZ (z:=z) O two7.1 p fun h8 k8=>aP fun h9 b9 k9=>Oo b9 rz fun h10 V hu10=>?_,aP fun h8 b8 k8=>⟨?_,O9 (v k8).2,JZ (z:=z) O (v k8).1 p fun h9 k9=>Oo (k9.get0 b8) rz fun h10 V hu10=>?_⟩⟩
   case refine_2=>
    obtain⟨a',ha',_,U⟩:=(o.upd k8 fun _ h=>h.elim).at (i:=0) (x:=p) rfl
    rw[ha]at ha';cases ha';exact⟨U 0 _ rfl,U 1 _ rfl,U 2 _ rfl⟩
   case' refine_1=>
    have n:Upd No h7 h10:=(k8.tr k9).own hu10 k8.size;obtain⟨vb,evb⟩:∃vb,vb=h8.size:=⟨_,rfl⟩;rw[cT h8,←evb];rw[←evb]at V
   case' refine_3=>
    have n:Upd No h7 h10:=(k8.tr k9).own hu10 (aj _);obtain⟨vb,evb⟩:∃vb,vb=h7.size:=⟨_,rfl⟩;rw[cT h7,←evb];rw[←evb]at V
   all_goals
    have hTl:(p::T).length≤N:=by omega
    refine We (o.upd n fun _ h=>h.elim) (by omega) (g:=fun q=>decide (ck z (12-m) q.1≠ck z (12-m) p.1)) (fun q _ h' K' hu' hK=>?_) fun h11 A B e u hA hBn hBc Z=>?_
    ·refine HV.mk' (Kj (q.1,q.2,gq z q.1) ⟨h1.size,0,none⟩ ⟨vb,0,none⟩ ?_)
     unfold Bl ae av jR DS Si;refine aP fun h12 b12 k12=>?_
     have k':=hu'.tr k12;refine⟨_,O9 (v (n.tr k')).2,_,vc b12 0,_,vc b12 1,_,vc b12 2,_,O9 (k'.get0 V),?_⟩;refine JZ (z:=z) O (v (n.tr k')).1 q fun h13 k13=>⟨O9 ((k'.tr k13).get0 V),?_⟩
     have eb:(((ck z (12-m) q.1:Nat):Int) !=((ck z (12-m) p.1:Nat):Int))=decide (ck z (12-m) q.1≠ck z (12-m) p.1):=by
      rw[Bool.eq_iff_iff,bne_iff_ne,decide_eq_true_iff];omega
     rw[eb];exact hK h13 (k12.tr k13)
    obtain⟨A',rfl⟩:∃A',A=p::A':=by
     rcases A with _|⟨a0,A'⟩
     ·have:=(hBc p T (by rw[List.nil_append]at u;exact u.symm)).2
      simp at this
     ·rw[cM]at u
      exact⟨A',by rw[(ft.inj u).1]⟩
    generalize hAe:p::A'=A at*;have hpA:p∈A:=by rw[←hAe];exact au ..
    have hA1:0<A.length:=List.length_pos_of_mem hpA;have M:=hst.srt;rw[u]at hDT o hTl Q;rw[w,u]at M;simp only[ac]at hTl Q;have hcA:∀q∈A,ck z (12-m) q.1=ck z (12-m) p.1:=fun q hq=>by simpa using hA q hq
    have hcB:∀q∈B,ck z (12-m) q.1≠ck z (12-m) p.1:=fun q hq=>by
     rcases B with _|⟨b0,B'⟩
     ·cases hq
     have hb0:ck z (12-m) b0.1≠ck z (12-m) p.1:=by simpa using(hBc b0 B' rfl).2
     have h1:=of_decide_eq_false (M.right.cross p hpA b0 (au ..));rcases aC.1 hq with rfl|hq
     ·exact hb0
     ·have h2:=of_decide_eq_false ((aF.1 M.right.right).1 q hq)
      omega
    obtain⟨r1,r2,r3,r4,r5⟩:=XM M hDT hpA hcA hcB;have hi:=zT z (12-m) p.1;have hsi:=C _ hi;rw[r2]at hsi;obtain⟨hsp,hskn⟩:sl.p (ck z (12-m) p.1)=none∧sl.k (ck z (12-m) p.1)=none:=by
     rcases hsi with⟨_,h1,h2⟩|⟨q,h1,_⟩|⟨h1,_⟩
     ·exact⟨h1,h2⟩
     ·cases h1
     ·simp at h1
    have J:=(P.tr n).tr Z;have j:=n.tr Z;have b11:=Z.get0 V;have F:=v j;refine Join.intro (fun t h'=>t=(A.length:Int)∧h'=h11) (fun R1 hR1=>?_) ?_
    ·refine ax (fun hneg=>hR1 _ _ ⟨?_,rfl⟩) fun hpos=>hR1 _ _ ⟨?_,rfl⟩
     ·rcases B with _|⟨b0,B'⟩
      ·have Q:sT.len=A.length+0:=Q
       show((sT.len:Nat):Int)=(A.length:Int)
       omega
      ·have:=(hBc b0 B' rfl).1;omega
     ·rcases B with _|⟨b0,B'⟩
      ·have:=hBn rfl;omega
      ·exact(hBc b0 B' rfl).1
    rintro t h' ⟨rfl,rfl⟩;refine Join.intro (fun t h9=>∃b' sl',t=some ⟨b',0,none⟩∧NodeAt W h9 b' sl'∧(∀c,c<32→SlotIs W z h9 m sl' c (part z (12-m) c (D++A)))∧Upd No h' h9) (fun R1 hR1=>?_) ?_
    ·refine CondP.intro (fun H=>?_) fun E=>?_
     ·have H:A.length=1:=by have:=eq_of_beq H;omega
      have hAp:A= [p]:=by
       rw[←hAe]at H⊢;simp only[ar]at H;rw[aA.1 (show A'.length=0 by omega)]
      obtain⟨a',ha',_,U⟩:=(o.upd j fun _ h=>h.elim).at (i:=0) (x:=p) (by rw[←hAe];rfl)
      rw[ha]at ha';cases ha';refine⟨_,O9 b11,⟨by omega,by omega⟩,a,ha,p.1,U 0 _ rfl,p.2,U 1 _ rfl,?_⟩
      refine tE (nd.upd j fun _ h=>h.elim) (gW (k06.tr J)) hi (fun _ _=>hskn) p fun h12 b12 nd12 f=>hR1 _ _ ⟨b12,_,rfl,nd12,fun c hc=>?_,f⟩
      by_cases e:c=ck z (12-m) p.1
      ·rw[e,r4,hAp]
       exact .inr (.inl ⟨p,rfl,gT,gT⟩)
      ·rw[r3 c e]
       have t:=SlotIs.upd0 (j.tr f) (C c hc);have Y:upd sl.p (ck z (12-m) p.1) (some p) c=sl.p c:=gt e;have e2:upd sl.k (ck z (12-m) p.1) none c=sl.k c:=gt e;unfold SlotIs at t;rw[←Y,←e2]at t;exact t
     ·have E:A.length≠1:=fun e=>by rw[e]at E;simp at E
      refine⟨_,O9 b11,⟨by omega,(by show((A.length:Nat):Int)≤((sT.cap:Nat):Int);omega)⟩,_,O9 F.1,?_⟩;have ew:IntKind.wrap .i64 (((12-m:Nat):Int)+1)=((13-m:Nat):Int):=by rw[eJ (by omega)];omega
      rw[ew];have hsA:=Sl.sub (o.upd j fun _ h=>h.elim) (l:=0) (hi:=A.length) (m:=sT.cap) (c:=sT.cap-0) (aS _) (by simp) (by omega)
      rw[cW,Nat.sub_zero,g7]at hsA;have hAL:A=part z (12-m) (ck z (12-m) p.1) L:=by
       rw[←hRp,w,u];exact r1.symm
      refine ih (by omega) hsA (gW (k06.tr J)) (by rw[hAL];exact jl hr) (by omega) fun h12 kb t12 f=>?_
      refine⟨O9 (F.upd f).1,O9 (f.get0 b11),?_⟩;refine yh (nd.upd (j.tr f) fun _ h=>h.elim) (gW ((k06.tr J).tr f)) hi (fun _ _=>hsp) ⟨kb,0,none⟩ fun h13 b13 nd13 G=>⟨O9 ((F.upd f).upd G).1,hR1 _ _ ⟨b13,_,rfl,nd13,fun c hc=>?_,f.tr G⟩⟩
      by_cases e:c=ck z (12-m) p.1
      ·rw[e,r4]
       exact .inr (.inr ⟨by omega,gT,kb,gT,TrieAt.upd0 G t12⟩)
      ·rw[r3 c e]
       have t:=SlotIs.upd0 ((j.tr f).tr G) (C c hc);have Y:upd sl.p (ck z (12-m) p.1) none c=sl.p c:=gt e;have e2:upd sl.k (ck z (12-m) p.1) (some (some ⟨kb,0,none⟩)) c=sl.k c:=gt e;unfold SlotIs at t;rw[←Y,←e2]at t;exact t
    ·rintro t h9 ⟨b',sl',rfl,nd9,hs9,hu9⟩
     refine⟨⟨by omega,(by show((A.length:Nat):Int)≤((sT.len:Nat):Int);omega)⟩,?_⟩;rw[aU];have hsB:=Sl.sub ((o.upd j fun _ h=>h.elim).upd hu9 fun _ h=>h.elim) (l:=A.length) (hi:=(A++B).length) (m:=sT.cap) (c:=sT.cap-A.length) (by simp) (aj _) (by rw[ac];omega)
     rw[gi,ac,Nat.add_sub_cancel_left,ce]at hsB;have elen:sT.len-A.length=B.length:=by omega
     rw[elen];refine hI (D++A,B) _ _ ⟨by rw[w,u,aq],r5,hsB,by simp only;omega,⟨b',sl',rfl,nd9,hs9⟩,J.tr hu9⟩ ?_
     simp only[u,ac];omega
  ·have hT:T= []:=by
    refine aA.1 ?_;simp only at hle;omega
   subst hT;rw[aL]at w;subst w;exact hk h7 b ⟨sl,nd,fun c hc=>by
    have:=C c hc
    rw[hRp c]at this
    exact this⟩ k07
end Go.Proofs
namespace Go.Proofs
open Go Go.Lift
theorem YV{z:Hs}{M:Nat→Prop}{h:ad}{so:SliceV}{out:List Pr}{p:Pr}{K:SliceV→ad→Prop}(f:OwnS (CX z) 3 ci M h so out)(hM:∀b,h.size≤b→M b)(g:out.length+1≤1000000000)
  (e:∀s' h',OwnS (CX z) 3 ci M h' s' (out++ [p])→Upd M h h'→K s' h'):
  ∃xs,SRow (hnew h (CX z p) ci) (some (ay h)) (1*3) xs∧AppP (some [.string (⟨#[]⟩:ByteArray),.string (⟨#[]⟩:ByteArray),.int .u64 0]) 3 40 ci so.a so.len so.cap 1 xs (hnew h (CX z p) ci) K:=by
 have k:=Upd.hnew No h (CX z p) ci;have d:OwnS (CX z) 3 ci (fun _=>True) (hnew h (CX z p) ci) ⟨some (ay h),1,1⟩ [p]:=⟨rfl,N2 z,aj _,.inr ⟨h.size,[],rfl,trivial,co ..,rfl⟩⟩
 refine⟨_,(d.sl (W:=No) fun _ _ _ h=>h).srow,?_⟩
 refine AppP.own (ys:= [p]) (f.upd k fun _ _ h=>h) rfl rfl rfl rfl (by omega) (by simp only[aK];omega) (hM _ (by rw[jV];omega)) fun s' h' a c=>?_
 exact e s' h' a ((Upd.hnew M h _ _).tr c)
theorem ZM(l:List Pr):(BO l).length≤l.length:=by
 have:∀(l acc:List Pr),(l.foldl (fun acc p=>iq p acc) acc).length≤acc.length+l.length:=by
  intro l;induction l with
  |nil=>intro acc;simp
  |cons p l ih=>
   intro acc;rw[jd];have a:=ih (iq p acc);have h2:=BD p (l:=acc);simp only[ar];omega
 have:=this l [];unfold BO;simpa using this
theorem WF{N:Nat}(st:StP N)(sh:StH N)(hN:N≤100000){z:Hs}{W Z:Nat→Prop}{h:ad}{s:SliceV}{l:List Pr}(hs:Sl ey 2 Z h s l)(V:∀y,W y→y<h.size)(hn:l.length≤N){K:Option Addr→ad→Prop}
  (H:∀h' b,TrieAt W z h' 13 b (BO l)→Upd No h h'→K (some ⟨b,0,none⟩) h'):HC PG xV [.agg #[.int .u64 z.k0,.int .u64 z.k1,.int .u64 z.mask],.slice s.a s.len s.cap] [.c .ptr] K h:=by
 refine LQ (z.k0,z.k1,z.mask) s ?_;unfold CA bT ae nv AA wN az av lO iU O7 Rr Zx;refine aP fun h1 b1 k1=>?_
 refine IG st (by omega) (W':=No) (hs.upd k1 fun _ h=>h.elim) (fun _ h=>h.elim) (by omega) fun e v m _ J=>?_
 have U:=J.get0 b1;have E:=k1.tr J;have f:=ZM l;have k:=FE l;generalize BO l=L at*;have d:=m.len;refine LoopP.ghost (fun(g:List Pr×List Pr) (t:SliceV×Int) h'=>t.2=(g.1.length:Int)∧L=g.1++g.2∧OwnS (CX z) 3 ci (fun b=>v.size≤b) h' t.1 g.1∧Upd No v h') (fun g=>g.2.length) ([],L) ⟨rfl,rfl,OwnS.nil (N2 z),Upd.refl _ _⟩ ?_
 rintro I ⟨D,T⟩ ⟨sa,ti⟩ h6 ⟨O,M,u,q⟩ S;simp only at O M u;subst O M;simp only[ac]at d f;have hlD:=u.len;refine ax (fun F=>?_) fun A=>?_
 ·rcases T with _|⟨p,T⟩
  ·simp only[aM]at d;simp only at F;omega
  simp only[ar]at d f;refine Join.intro (fun t h'=>OwnS (CX z) 3 ci (fun b=>v.size≤b) h' t (D++ [p])∧Upd No v h') (fun R Y=>?_) ?_
  ·obtain⟨a,ha,_,hv⟩:=(m.upd q fun _ h=>h.elim).at (i:=D.length) (x:=p) (by rw[aZ (aj _),gA];rfl)
   refine⟨⟨by omega,by simp only;omega⟩,a,ha,p.1,hv 0 _ rfl,p.2,hv 1 _ rfl,?_⟩
   refine NV (p:=p) fun h8 w C=>?_
   have B:=(q.tr C).get0 U;refine⟨p.1,vc w 0,p.2,vc w 1,_,vc B 0,_,vc B 1,_,vc B 2,p.1,vc w 0,?_⟩;refine vE fun h9 G=>?_
   have Q:=G.get0 w;refine⟨⟨vc Q 0,vc Q 1⟩,bG ?_⟩;have o:=(q.tr C).tr G;have z9:=o.size;refine YV (z:=z) (p:=p) (((u.upd C fun _ _ h=>h).upd G fun _ _ h=>h)) (fun b P=>by omega) (by omega) fun s' h' j c=>Y _ _ ⟨j,o.trans c fun b P=>.inr P⟩
  ·rintro s' h' ⟨j,c⟩
   have ew:IntKind.wrap .i64 ((D.length:Int)+1)=((D++ [p]).length:Int):=by rw[ac,aK,eJ (by omega)];omega
   rw[ew];exact S (D++ [p],T) _ _ ⟨rfl,by simp,j,c⟩ (by simp)
 ·have X:T= []:=aA.1 (by simp only at A;omega)
  subst X;rw[aL]at k;rw[aL]at H;have n:=E.tr q;exact ZA sh hN 13 (aj _) (u.sl fun _ _ _ h=>h) (fun y hy=>aG (V y hy) n.size) k (by simp only[aM]at f;omega) fun h' b t c=>H h' b t (n.tr c)
theorem StP.less{N M:Nat}(h:StP N)(hm:M≤N):StP M:=fun w _ _ _ hc _ _ _ c hi a _ b=>h w hc c hi (aX a hm) b
theorem StH.less{N M:Nat}(h:StH N)(hm:M≤N):StH M:=fun w _ _ _ hc _ _ _ c hi a _ b=>h w hc c hi (aX a hm) b
end Go.Proofs
namespace Go.Proofs
open Go Go.Lift
theorem zh{a b:ByteArray}:kl a b↔Op.bytesLess a.data.toList b.data.toList=true:=by unfold kl;rw[ByteArray.toList_eq,ByteArray.toList_eq]
theorem BJ{a b:UInt8}{x y:List UInt8}:Op.bytesLess (a::x) (b::y)=true↔a.toNat<b.toNat∨(a=b∧Op.bytesLess x y=true):=by
 simp only[Op.bytesLess,Bool.or_eq_true,decide_eq_true_iff,bq,beq_iff_eq,UInt8.lt_iff_toNat_lt]
theorem Ti(x:List UInt8):Op.bytesLess x []=false:=by cases x<;>rfl
theorem Ol{x y:List UInt8}:∀pre:List UInt8,Op.bytesLess (pre++x) (pre++y)=true↔Op.bytesLess x y=true
 | []=>zO
 |a::pre=>by rw[cM,cM,BJ,Ol pre];simp
theorem ac6{x y:List UInt8}(h:Op.bytesLess x y=true)(hx:x≠[])(c:y≠[]):hd x≤hd y:=by
 match x,y,hx,c with
 |a::x,b::y,_,_=>
  show a.toNat≤b.toNat
  rcases BJ.1 h with h|⟨rfl,_⟩<;>omega
theorem Pm:∀(t:Nat) {f p g:List UInt8},t≤cm f g→(f=p∨Op.bytesLess f p=true)→(p=g∨Op.bytesLess p g=true)→p.take t=f.take t∧t≤p.length
 |0,f,p,g,_,_,_=>by simp
 |t+1,[],p,g,h,_,_=>by simp[cm]at h
 |t+1,a::f,p,[],h,_,_=>by simp[cm]at h
 |t+1,a::f,p,b::g,h,d,h2=>by
  unfold cm at h;split at h
  ·rename_i e
   subst e;rcases p with _|⟨c,p⟩
   ·rcases d with d|d
    ·cases d
    ·rw[Ti]at d;cases d
   ·have hc:c=a:=by
     rcases d with d|d
     ·exact(ft.inj d).1.symm
     ·rcases h2 with h2|h2
      ·exact(ft.inj h2).1
      ·have j:=BJ.1 d
       have i:=BJ.1 h2;rcases j with j|⟨j,_⟩
       ·rcases i with i|⟨i,_⟩
        ·omega
        ·exact i
       ·exact j.symm
    subst hc;have:=Pm t (f:=f) (p:=p) (g:=g) (by omega) (d.imp (fun h=>(ft.inj h).2) fun h=>by
     rcases BJ.1 h with h|⟨_,h⟩
     ·omega
     ·exact h) (h2.imp (fun h=>(ft.inj h).2) fun h=>by
     rcases BJ.1 h with h|⟨_,h⟩
     ·omega
     ·exact h)
    rw[eo,eo,this.1,ar];exact⟨rfl,by omega⟩
  ·omega
theorem Va:∀f:List UInt8,cm f f=f.length
 | []=>rfl
 |a::f=>by unfold cm;rw[if_pos rfl,Va f];rfl
abbrev ky(p:Pr):List UInt8:=p.1.data.toList
def aaI(l:List Pr)(pre k:List UInt8)(v:ByteArray):Prop:=∃p∈l,ky p=pre++k∧p.2=v
structure Beg(l:List Pr)(pre:List UInt8):Prop where
 up:bM l
 at_:∀p∈l,(ky p).take pre.length=pre∧pre.length<(ky p).length
theorem Beg.sub{l l':List Pr}{pre:List UInt8}(b:Beg l pre)(h:l'.Sublist l):Beg l' pre:=⟨b.up.sublist h,fun p a=>b.at_ p (h.subset a)⟩
theorem Beg.split{l:List Pr}{pre:List UInt8}(b:Beg l pre){p:Pr}(a:p∈l):ky p=pre++(ky p).drop pre.length∧(ky p).drop pre.length≠[]:=by
 obtain⟨c,h2⟩:=b.at_ p a;refine⟨?_,fun e=>?_⟩
 ·conv=>lhs;rw[←aO pre.length (ky p),c]
 ·have:=congrArg fP e
  rw[aV,aM]at this;omega
def bt(n:Nat)(p:Pr):Nat:=hd ((ky p).drop n)
theorem Beg.mono{A B:List Pr}{pre:List UInt8}(b:Beg (A++B) pre){x y:Pr}(hx:x∈A)(a:y∈B):bt pre.length x≤bt pre.length y:=by
 have h:=(cx.1 b.up).2.2 x hx y a;rw[zh]at h;obtain⟨d,c⟩:=b.split (cI B hx);obtain⟨f,e⟩:=b.split (de A a);change Op.bytesLess (ky x) (ky y)=true at h;rw[d,f,Ol]at h;exact ac6 h c e
theorem M4{l:List Pr}{pre:List UInt8}{f g:Pr}(b:Beg l pre)(D:∃r,l=f::r)(t:l.getLast? =some g)(I:bt pre.length f=bt pre.length g):
  pre.length<cm (ky f) (ky g)∧cm (ky f) (ky g)≤(ky f).length∧(∀p∈l,(ky p).take (cm (ky f) (ky g))=(ky f).take (cm (ky f) (ky g)))∧(∀p∈l,p=f∨cm (ky f) (ky g)<(ky p).length)∧
   (cm (ky f) (ky g)<(ky f).length→cm (ky f) (ky g)<(ky g).length∧hd ((ky f).drop (cm (ky f) (ky g)))≠hd ((ky g).drop (cm (ky f) (ky g)))):=by
 obtain⟨r,rfl⟩:=D;have u:f∈f::r:=au ..;have j:g∈f::r:=jQ t;obtain⟨E,C⟩:=b.split u;obtain⟨H,J⟩:=b.split j;have v:pre.length<cm (ky f) (ky g):=by
  have:∀(q x y:List UInt8),cm (q++x) (q++y)=q.length+cm x y:=by
   intro q x y;induction q with
   |nil=>simp
   |cons a q ih=>simp only[cM,cm,if_true,ih,ar];omega
  have w:=this pre ((ky f).drop pre.length) ((ky g).drop pre.length);rw[←E,←H]at w;have h2:=YH C J I;omega
 have o:=Vb (ky f) (ky g);have z:∀p∈f::r,ky f=ky p∨Op.bytesLess (ky f) (ky p)=true:=fun p c=>by
  rcases aC.1 c with rfl|c
  ·exact .inl rfl
  ·exact .inr (zh.1 ((aF.1 b.up).1 p c))
 have s:∀p∈f::r,ky p=ky g∨Op.bytesLess (ky p) (ky g)=true:=fun p c=>by
  rcases List.eq_nil_or_concat (f::r)with h|⟨l',y,h⟩
  ·cases h
  ·rw[List.concat_eq_append]at h
   rw[h,List.getLast?_concat]at t;cases t;have d:=b.up;rw[h]at c d;rcases bC.1 c with c|c
   ·exact .inr (zh.1 ((cx.1 d).2.2 p c g (aD.2 rfl)))
   ·rw[aD.1 c];exact .inl rfl
 have k:∀p∈f::r,(ky p).take (cm (ky f) (ky g))=(ky f).take (cm (ky f) (ky g))∧cm (ky f) (ky g)≤(ky p).length:=fun p c=>Pm _ (aj _) (z p c) (s p c)
 have i:∀p∈f::r,p=f∨cm (ky f) (ky g)<(ky p).length:=fun p c=>by
  obtain⟨w,h2⟩:=k p c;rcases Nat.lt_or_ge (cm (ky f) (ky g)) (ky p).length with h|h
  ·exact .inr h
  ·left
   have G:(ky p).length=cm (ky f) (ky g):=by omega
   have e:ky p=(ky f).take (cm (ky f) (ky g)):=by rw[←w,←G,ce]
   rcases aC.1 c with rfl|c
   ·rfl
   ·have A:=zh.1 ((aF.1 b.up).1 p c)
    change Op.bytesLess (ky f) (ky p)=true at A;exfalso;have F:ky f=ky p++(ky f).drop (cm (ky f) (ky g)):=by rw[e,aO]
    have B:Op.bytesLess (ky p++(ky f).drop (cm (ky f) (ky g))) (ky p++ [])=true:=by rw[aL,←F];exact A
    rw[Ol,Ti]at B;cases B
 refine⟨v,o.1,fun p c=>(k p c).1,i,fun n=>?_⟩
 have m:cm (ky f) (ky g)<(ky g).length:=by
  rcases i g j with h|h
  ·exfalso
   rw[h,Va]at n;omega
  ·exact h
 exact⟨m,Og _ _ n m⟩
theorem Tg{l l':List Pr}{pre:List UInt8}{f g:Pr}(b:Beg l pre)(D:∃r,l=f::r)(B:l.getLast? =some g)(K:bt pre.length f=bt pre.length g){F:Fo}(hc:gf F)
  (c:l'=if(ky f).length=cm (ky f) (ky g)then l.drop 1 else l)(x:∀k v,tg F k v↔aaI l' ((ky f).take (cm (ky f) (ky g))) k v){w:Option ByteArray}(u:w=if(ky f).length=cm (ky f) (ky g)then some f.2 else none){lab:List UInt8}(o:lab=((ky f).take (cm (ky f) (ky g))).drop pre.length):
  Q9 (lab,w,F)∧hd lab=bt pre.length f∧∀k v,wO (lab,w,F) k v↔aaI l pre k v:=by
 obtain⟨M,h2,C,L,I⟩:=M4 b D B K;obtain⟨r,rfl⟩:=D;have n:f∈f::r:=au ..;have t:g∈f::r:=jQ B;generalize cm (ky f) (ky g)=to at*;have d:pre++lab=(ky f).take to:=by
  have:=(b.at_ f n).1;rw[o];conv=>rhs;rw[←aO pre.length ((ky f).take to),List.take_take,bH (by omega),this]
 have i:lab≠[]:=fun e=>by
  have:=congrArg fP o;rw[e,aM,aV,aQ]at this;omega
 have z:∀k v,wO (lab,w,F) k v↔aaI (f::r) pre k v:=by
  intro k v;constructor
  ·rintro⟨q,e,⟨rfl,m⟩|m⟩
   ·simp only at e m
    rw[aL]at e;subst e;rw[u]at m;split at m
    ·rename_i a
     cases m;refine⟨f,n,?_,rfl⟩;rw[d,←a,ce]
    ·cases m
   ·simp only at e m
    obtain⟨p,j,H,rfl⟩:=(x q v).1 m;refine⟨p,?_,?_,rfl⟩
    ·rw[c]at j
     split at j
     ·exact List.mem_cons_of_mem _ j
     ·exact j
    ·rw[H,e,←aq,d]
  ·rintro⟨p,j,e,rfl⟩
   have s:=C p j;have E:ky p=pre++(lab++(ky p).drop to):=by
    rw[←aq,d,←s,aO]
   have ek:k=lab++(ky p).drop to:=fg (e.symm.trans E);refine⟨(ky p).drop to,ek,?_⟩;by_cases a:(ky f).length=to
   ·rw[if_pos a]at u c
    rcases aC.1 j with rfl|j
    ·left
     refine⟨List.drop_eq_nil_of_le (by omega),?_⟩;simp only;rw[u]
    ·right
     refine(x _ _).2 ⟨p,by rw[c];exact j,?_,rfl⟩
     rw[←s,aO]
   ·rw[if_neg a]at u c
    right;refine(x _ _).2 ⟨p,by rw[c];exact j,?_,rfl⟩
    rw[←s,aO]
 refine⟨⟨i,?_,hc⟩,?_,z⟩
 ·by_cases a:(ky f).length=to
  ·left;simp only;rw[u,if_pos a];rfl
  ·have A:to<(ky f).length:=by omega
   obtain⟨J,y⟩:=I A;refine(JX hc).2 (.inr ⟨(ky f).drop to,(ky g).drop to,f.2,g.2,.inr ?_,.inr ?_,fun e=>?_,fun e=>?_,y⟩)
   ·exact(x _ _).2 ⟨f,by rw[c,if_neg a];exact n,(aO ..).symm,rfl⟩
   ·exact(x _ _).2 ⟨g,by rw[c,if_neg a];exact t,by rw[←C g t,aO],rfl⟩
   ·have:=congrArg fP e
    rw[aV,aM]at this;omega
   ·have:=congrArg fP e
    rw[aV,aM]at this;omega
 ·have e:=(b.split n).1
  unfold bt;have m:(ky f).drop pre.length=lab++(ky f).drop to:=by
   have G:ky f=pre++(lab++(ky f).drop to):=by rw[←aq,d,aO]
   conv=>lhs;rw[G]
   rw[gi]
  rw[m,pZ i]
structure Row(L:List Bn)(D T:List Pr)(pre:List UInt8):Prop where
 can:∀n∈L,Q9 n
 up:L.Pairwise fun m n=>hd m.1<hd n.1
 lo:∀n∈L,∀p∈T,hd n.1<bt pre.length p
 got:∀k v,(∃n∈L,wO n k v)↔aaI D pre k v
theorem Row.nil(T:List Pr)(pre:List UInt8):Row [] [] T pre:=⟨fun n h=>(by cases h),eI,fun n h=>(by cases h),fun k v=>⟨fun⟨n,h,_⟩=>(by cases h),fun⟨p,h,_⟩=>(by cases h)⟩⟩
theorem Row.more{L:List Bn}{D A B:List Pr}{pre:List UInt8}{n:Bn}{p:Pr}(r:Row L D (A++B) pre)(j:Beg (A++B) pre)(o:p∈A)(x:∀a∈A,bt pre.length a=bt pre.length p)(u:∀b d,B=b::d→bt pre.length b≠bt pre.length p)(hc:Q9 n)(i:hd n.1=bt pre.length p)(s:∀k v,wO n k v↔aaI A pre k v):Row (L++ [n]) (D++A) B pre:=by
 refine⟨fun m hm=>?_,cx.2 ⟨r.up,cD ..,fun a w b t=>?_⟩,fun m hm q c=>?_,fun k v=>?_⟩
 ·rcases bC.1 hm with hm|hm
  ·exact r.can m hm
  ·rw[aD.1 hm];exact hc
 ·rw[aD.1 t,i]
  exact r.lo a w p (cI _ o)
 ·rcases bC.1 hm with hm|hm
  ·exact r.lo m hm q (de _ c)
  ·rw[aD.1 hm,i]
   rcases B with _|⟨g,d⟩
   ·cases c
   have y:=u g d rfl;have h2:=j.mono o (au (a:=g) (l:=d));rcases aC.1 c with rfl|c
   ·omega
   ·have f:Beg ([g]++d) pre:=j.sub (List.sublist_append_right A _)
    have:=f.mono (aD.2 rfl) c;omega
 ·constructor
  ·rintro⟨m,hm,hi⟩
   rcases bC.1 hm with hm|hm
   ·obtain⟨q,c,e⟩:=(r.got k v).1 ⟨m,hm,hi⟩
    exact⟨q,cI _ c,e⟩
   ·rw[aD.1 hm]at hi
    obtain⟨q,c,e⟩:=(s k v).1 hi;exact⟨q,de _ c,e⟩
  ·rintro⟨q,c,e⟩
   rcases bC.1 c with c|c
   ·obtain⟨m,hm,hi⟩:=(r.got k v).2 ⟨q,c,e⟩
    exact⟨m,cI _ hm,hi⟩
   ·exact⟨n,de _ (aD.2 rfl),(s k v).2 ⟨q,c,e⟩⟩
theorem Row.done{L:List Bn}{D:List Pr}{pre:List UInt8}(r:Row L D [] pre):gf (.ofL L)∧∀k v,tg (.ofL L) k v↔aaI D pre k v:=by
 refine⟨eP.2 ?_,fun k v=>?_⟩
 ·rw[Fo.to_of];exact⟨r.up,r.can⟩
 ·rw[gM,Fo.to_of];exact r.got k v
end Go.Proofs
namespace Go.Proofs
open Go Go.Lift
theorem SI(s:ByteArray):s.data.toList.length=s.size:=by simp
theorem Kid.less{W W':Nat→Prop}{h:ad}(hm:∀b,W' b→W b∨h.size≤b){a:Option Addr}{n:Bn}:Kid W h a n→Kid W' h a n
 |⟨b,sl,e1,e2,e3⟩=>⟨b,sl,e1,e2,e3.less hm⟩
theorem Kid.updM{W M:Nat→Prop}{h h':ad}(k:Upd M h h')(hm:∀b,M b→W b∨h.size≤b){a:Option Addr}{n:Bn}:Kid W h a n→Kid W h' a n
 |⟨b,sl,e1,e2,e3⟩=>⟨b,sl,e1,e2,e3.updM k hm⟩
theorem RxL.less{W W':Nat→Prop}{h:ad}(hm:∀b,W' b→W b∨h.size≤b){ks:List (Option Addr)}{L:List Bn}(r:RxL W h ks L):RxL W' h ks L:=⟨r.1,fun p a=>(r.2 p a).less hm⟩
theorem RxL.updM{W M:Nat→Prop}{h h':ad}(k:Upd M h h')(hm:∀b,M b→W b∨h.size≤b){ks:List (Option Addr)}{L:List Bn}(r:RxL W h ks L):RxL W h' ks L:=⟨r.1,fun p a=>(r.2 p a).updM k hm⟩
theorem YP{p:Pr}{n:Nat}(h:n<(ky p).length):∃b:UInt8,p.1[n]? =some b∧b.toNat=bt n p:=by
 rw[Qn];refine⟨(ky p)[n],af h,?_⟩;unfold bt hd;rw[List.drop_eq_getElem_cons h];rfl
end Go.Proofs
namespace Go.Proofs
open Go Go.Lift
theorem AD{h:ad}{t:Tr}{k:ad→Prop}(d:∀h',h'[h.size]? =some (.cells (kg t).toArray bo (0,0))→Upd No h h'→k h'):
  At (hnew h (kg BM) bo) (fun a=>rE a (some (ay h)) 0 (kg t)∧At (fS a (ay h) 0 (kg t)) k):=
 aP fun a b1 k1=>cF (c:=kg BM) (vs:=kg t) b1 rfl fun h2 b2 b=>d h2 b2 (k1.own b (aj _))
theorem xX{N:Nat}(st:StP N)(sh:StH N)(hN:N≤100000){W W0:Nat→Prop}{x:Hs}{h:ad}{s:SliceV}{l:List Pr}(B:Sl ey 2 W0 h s l)(T:∀y,W y→y<h.size)(X:l.length≤N)(hB:∀p∈l,p.1.size≤256∧p.2.size≤4096){K:Tr×Int→ad→Prop}
  (Q:∀h' t,TreeIs W h' 0 x t (BO l)→Upd No h h'→K (t,0) h'):HC PG sr [.int .i64 0,.agg #[.int .u64 x.k0,.int .u64 x.k1,.int .u64 x.mask],.slice s.a s.len s.cap] [.agg [.int .i64,.int .u64,.int .u64,.int .u64,.ptr,.ptr],.c (.int .i64)] K h:=by
 refine OJ 0 (x.k0,x.k1,x.mask) s ?_;unfold Fi bT aI ae aB df nv AA wN zP o9 az av lO iU;refine aP fun H b1 k1=>aP fun h2 b2 F=>?_
 have z1:=aY b1;have z2:=aY b2;have R:h.size≤H.size:=k1.size;have v:=F.get0 b1;have o:=k1.tr F;refine⟨_,vc v 0,_,vc v 1,_,vc v 2,?_⟩;refine Un (W:=No) (x:=x) (fun _ h=>h.elim) (.inl rfl) fun h3 M _ V=>?_
 refine AD (t:=M) fun P b4 k4=>?_
 refine ag.2 ?_;have d:=V.tr k4;have C:=o.tr d;have E:=B.len;refine LoopP.ghost (fun(i:Nat) (t:Int) h'=>t=(i:Int)∧i≤l.length∧Upd No P h') (fun i=>l.length-i) 0 ⟨rfl,aS _,Upd.refl _ _⟩ ?_
 rintro I i t h5 ⟨rfl,hi,n⟩ L;have g:=C.tr n;refine ax (fun b=>?_) fun S=>?_
 ·have b:i<l.length:=by omega
  obtain⟨a,ha,_,hv⟩:=(B.upd g fun _ h=>h.elim).at (af b)
  have J:=hB _ (bh b);refine⟨⟨by omega,by omega⟩,a,ha,l[i].1,hv 0 _ rfl,l[i].2,hv 1 _ rfl,?_⟩
  refine NV (p:=l[i]) fun Z u j=>⟨_,vc u 0,_,vc u 1,FV J.1 J.2 (ag.2 ?_)⟩
  rw[mg b (by omega)];exact L (i+1) _ _ ⟨rfl,b,n.tr j⟩ (by omega)
 ·have w:=Pro.lt (h2:=h2) T o
  have e:∀y,Pro W h h2 y→y<h5.size:=fun y m=>aG (w y m) (d.tr n).size
  have Y:=(d.tr n).get0 b2;have f:=(d.tr n).get0 v;refine ag.2 ⟨_,vc f 0,_,vc f 1,_,vc f 2,_,vc f 0,_,vc f 1,_,vc f 2,?_⟩;refine WF st sh hN (z:=x) (B.upd g fun _ h=>h.elim) e X fun Z u U j=>?_
  have A:=j.get0 f;refine⟨⟨vc A 0,vc A 1,vc A 2⟩,?_⟩;refine GL (x:=x) (.inr ⟨u,rfl,U⟩) (fun y m=>aG (e y m) j.size) fun h7 D i7 G=>?_
  refine cF (c:=kg BM) (vs:=kg D) (G.get0 (j.get0 Y)) rfl fun O k q=>?_
  refine⟨_,vc k 0,_,vc k 1,_,vc k 2,_,vc k 3,_,vc k 4,_,vc k 5,?_⟩;exact Q O D ((i7.updM q (fun y m=>.inl (.inr (by have m:y=H.size:=m;omega)))).less Pro.sub) (((g.tr j).tr G).own q R)
end Go.Proofs
namespace Go.Proofs
open Go Go.Lift
theorem few_nil:Few 0 []:=⟨.nil,aj _,fun p a=>by cases a⟩
theorem abW(s:ByteArray):((0:Int)≤(if 30<(s.size:Int)then 30 else(s.size:Int))∧(if 30<(s.size:Int)then 30 else(s.size:Int))≤((s.size:Nat):Int))∧s.extract 0 ((if 30<(s.size:Int)then 30 else(s.size:Int)).toNat)=yz s:=by
 unfold yz;split
 ·refine⟨⟨by omega,by omega⟩,?_⟩
  rw[Nat.min_eq_right (by omega)];rfl
 ·refine⟨⟨by omega,by omega⟩,?_⟩
  rw[bH (by omega),aU]
theorem UJ{h:ad}{r:Rt}{k:ad→Prop}(d:∀h',h'[h.size]? =some (.cells (ou r).toArray cJ (0,0))→Upd No h h'→k h'):
  At (hnew h (ou IT) cJ) (fun a=>rE a (some (ay h)) 0 (ou r)∧At (fS a (ay h) 0 (ou r)) k):=
 aP fun a b1 k1=>cF (c:=ou IT) (vs:=ou r) b1 rfl fun h2 b2 b=>d h2 b2 (k1.own b (aj _))
end Go.Proofs
namespace Go.Proofs
open Go Go.Lift
abbrev ace:List Value:= [.string (⟨#[]⟩:ByteArray),.string (⟨#[]⟩:ByteArray),.string (⟨#[]⟩:ByteArray),.bool false,.bool false]
theorem acD{h:ad}{t:TypeId}{c:Ch}{k:ad→Prop}(d:∀h',h'[h.size]? =some (.cells (Fv c).toArray t (0,0))→Upd No h h'→k h'):
  At (hnew h ace t) fun b=>rE b (some (ay h)) 0 (Fv c)∧At (fS b (ay h) 0 (Fv c)) k:=
 aP fun e b1 k1=>cF (c:=ace) (vs:=Fv c) b1 rfl fun h2 b2 a=>d h2 b2 (k1.own a (aj _))
end Go.Proofs
namespace Go.Proofs
open Go Go.Lift
abbrev bA:ByteArray:=⟨#[97]⟩
abbrev bB:ByteArray:=⟨#[98]⟩
theorem adl:kl bA bB:=by rw[zh];decide
theorem ac5:bB≠bA:=fun h=>by
 have:=adl;rw[h]at this;exact bZ _ this
end Go.Proofs
namespace Go.Proofs
open Go Go.Lift
abbrev b1:ByteArray:=⟨#[49]⟩
abbrev b2:ByteArray:=⟨#[50]⟩
abbrev b3:ByteArray:=⟨#[51]⟩
theorem Uq(p:Pr):BO [p]= [p]:=rfl
theorem ZL{v w:ByteArray}:BO [(bA,v),(bB,w)]= [(bA,v),(bB,w)]:=by
 unfold BO;rw[jd,jd,List.foldl_nil];have a:iq (bA,v) []= [(bA,v)]:=rfl;rw[a,gR,if_pos adl];rfl
theorem Me{v w:ByteArray}:bM [(bA,v),(bB,w)]:=aF.2 ⟨fun p a=>by rw[aD.1 a];exact adl,cD ..⟩
theorem VC{v w:ByteArray}(hv:v.size≤1)(b:w.size≤1):∀p∈[(bA,v),(bB,w)],p.1.size≤40∧p.2.size≤40:=fun p a=>by
 rcases aC.1 a with rfl|a
 ·exact⟨(by decide:bA.size≤40),by simp only;omega⟩
 ·rw[aD.1 a]
  exact⟨(by decide:bB.size≤40),by simp only;omega⟩
theorem Mb{v:ByteArray}(hv:v.size≤1):∀p∈[(bA,v)],p.1.size≤40∧p.2.size≤40:=fun p a=>by
 rw[aD.1 a];exact⟨(by decide:bA.size≤40),by simp only;omega⟩
end Go.Proofs
namespace Go.Proofs
open Go Go.Lift
def look(l:List Pr)(k:ByteArray):Option ByteArray:=(l.find? fun p=>decide (p.1=k)).map (·.2)
theorem Mz{l:List Pr}{k:ByteArray}(h:cG l k=false):look l k=none:=by
 unfold look;rw[Option.map_eq_none_iff,List.find?_eq_none];intro p a;unfold cG at h;rw[List.any_eq_false]at h;exact h p a
theorem ym:∀{l:List Pr} {k v:ByteArray},bM l→(k,v)∈l→look l k=some v
 |p::l,k,v,a,h=>by
  have a:=aF.1 a;unfold look;rw[qI];rcases aC.1 h with e|h
  ·subst e;simp
  ·have b:p.1≠k:=fun e=>by
    have:=a.1 _ h;simp only at this;rw[e]at this;exact bZ _ this
   rw[decide_eq_false b];exact ym a.2 h
theorem UP{l:List Pr}(b:bM l){k v:ByteArray}(a:cG l k=true→(k,v)∈l)(h2:cG l k=false→v=⟨#[]⟩):((look l k).getD ⟨#[]⟩,(look l k).isSome)=(v,cG l k):=by
 cases ht:cG l k with
 |true=>rw[ym b (a ht)];rfl
 |false=>rw[Mz ht,h2 ht];rfl
theorem Wb{x:Hs}{lev:Nat}{l:List Pr}{k:ByteArray}:look (part x lev (ck x lev k) l) k=look l k:=by
 unfold look part;congr 1
 rw[List.find?_filter];congr 1
 funext p;by_cases e:p.1=k
 ·rw[e];simp
 ·simp[e]
theorem QC{W:Nat→Prop}{x:Hs}{h:ad}{b:Nat}{l:List Pr}(t:TrieAt W x h 13 b l)(Z:∀y,W y→y<h.size)(hr:bM l)(hn:l.length≤1000000)(k:ByteArray){K:ByteArray×Bool→ad→Prop}
  (J:∀h',Upd No h h'→K ((look l k).getD ⟨#[]⟩,(look l k).isSome) h'):HC PG A7 [.agg #[.int .u64 x.k0,.int .u64 x.k1,.int .u64 x.mask],.pointer (some ⟨b,0,none⟩),.string k] [.c .str,.c .bool] K h:=by
 refine Q5 (x.k0,x.k1,x.mask) (some ⟨b,0,none⟩) k ?_;unfold HD ae nv AA wN av lO vl wT Am nX;refine aP fun h1 b1 k1=>⟨_,vc b1 0,_,vc b1 1,_,vc b1 2,?_⟩
 refine vE fun h2 k2=>?_
 have q:=k1.tr k2;refine Nz (.inr ⟨b,rfl,TrieAt.upd0 q t⟩) (fun y hy=>aG (Z y hy) q.size) fun h3 b3 X k3 _=>?_
 have O:=q.tr k3;refine LoopP.ghost (fun(g:Nat×Nat×List Pr) (t:Option Addr×Int) h'=>t=(some ⟨g.2.1,0,none⟩,((13-g.1:Nat):Int))∧g.1≤13∧TrieAt W x h' g.1 g.2.1 g.2.2∧bM g.2.2∧g.2.2.length≤1000000∧look g.2.2 k=look l k∧Upd No h h') (fun g=>g.1) (13,b3,l)
  ⟨rfl,aj _,X,hr,hn,rfl,O⟩ ?_
 rintro I ⟨m,c,B⟩ t Y ⟨rfl,hm,F,j,D,w,E⟩ V;simp only at hm F j D w;rcases m with _|m
 ·obtain⟨sp,sk,ow,R,_⟩:=BuckAt.ex F
  refine gL R (aw.2 (Yj F j (by omega) k fun T v L u z=>?_))
  have:=J T (E.tr L);rw[←w,UP j u z]at this;exact this
 ·obtain⟨s,G,Q⟩:=F
  have Q:∀c,c<32→SlotIs W x Y m s c (part x (12-m) c B):=Q;obtain⟨d,n,sp,sk,ow,R,_⟩:=G.ex;refine gL R (ag.2 ?_);refine Td (by omega) ?_;rw[show 13-(m+1)=12-m by omega]
  have hi:=zT x (12-m) k;have o:=Q _ hi;have f:look (part x (12-m) (ck x (12-m) k) B) k=look l k:=by rw[Wb,w]
  have C:bM (part x (12-m) (ck x (12-m) k) B):=jl j;have A:(part x (12-m) (ck x (12-m) k) B).length≤1000000:=aX li D;generalize part x (12-m) (ck x (12-m) k) B=lp at o f C A;generalize ck x (12-m) k=i at hi o;refine AE G hi fun T L=>?_
  refine tl fun H M k6=>?_
  have a:=L.tr k6;rcases o with⟨P,u,z⟩|⟨p,P,u,z⟩|⟨_,u,S,z,tk⟩
  ·rw[u]
   refine ag.2 (wU (G.upd a fun _ h=>h.elim) hi ?_)
   rw[z];refine aw.2 ?_;have:=J H (E.tr a);rw[←f,P]at this;exact this
  ·rw[u]at M⊢
   refine aw.2 ⟨p.1,vc M 0,?_⟩;rw[ge];have:=J H (E.tr a);rw[←f,P]at this;by_cases e:p.1=k
   ·rw[decide_eq_true e]
    refine ag.2 ⟨p.2,vc M 1,?_⟩;have N:look [p] k=some p.2:=by unfold look;rw[qI,decide_eq_true e];rfl
    rw[N]at this;exact this
   ·rw[decide_eq_false e]
    have N:look [p] k=none:=by unfold look;rw[qI,decide_eq_false e];rfl
    rw[N]at this;exact aw.2 this
  ·rw[u]
   refine ag.2 (wU (G.upd a fun _ h=>h.elim) hi ?_)
   rw[z];refine ag.2 ?_;have U:IntKind.wrap .i64 (((13-(m+1):Nat):Int)+1)=((13-m:Nat):Int):=by rw[eJ (by omega)];omega
   rw[show 13-(m+1)=12-m by omega]at U
   show I (some ⟨S,0,none⟩,IntKind.wrap .i64 (((12-m:Nat):Int)+1)) H
   rw[U];exact V (m,S,lp) _ H ⟨rfl,by simp only;omega,TrieAt.upd0 a tk,C,A,f,E.tr a⟩ (by simp only;omega)
abbrev Sd:=ByteArray×Bool
abbrev abt(s:Sd):List Value:= [.string s.1,.bool s.2]
theorem NC(a b:Sd):((a.1.toList==b.1.toList)&&((a.2==b.2)&&true))=decide (a=b):=by
 rw[ge];by_cases e:a=b
 ·subst e;simp
 ·rw[decide_eq_false e]
  obtain⟨d,c⟩:=a;obtain⟨b1,b2⟩:=b;simp only[Prod.mk.injEq]at e;rw[Bool.eq_false_iff];intro h;simp only[bq,decide_eq_true_iff,beq_iff_eq,and_true]at h;exact e h
theorem aaZ{h:ad}{t:TypeId}{s:Sd}{k:ad→Prop}(d:∀h',h'[h.size]? =some (.cells (abt s).toArray t (0,0))→Upd No h h'→k h'):
  At (hnew h [.string (⟨#[]⟩:ByteArray),.bool false] t) fun b=>rE b (some (ay h)) 0 (abt s)∧At (fS b (ay h) 0 (abt s)) k:=
 aP fun e b1 k1=>cF (c:= [.string (⟨#[]⟩:ByteArray),.bool false]) (vs:=abt s) b1 rfl fun h2 b2 a=>d h2 b2 (k1.own a (aj _))
def Ao(b o t:Sd)(p:Int):Sd×Bool:=if o=t∨t=b then(o,true)else if o=b then(t,true)else if p=1 then(o,false)else if p=2 then(t,false)else(b,false)
theorem AB{h:ad}{b:Nat}{t:TypeId}{c:List Value}{s:Sd}{g:Bool}{K:Sd×Bool→ad→Prop}(e:h[b]? =some (.cells c.toArray t (0,0))) (hc:c.length=2) (d:∀h',Upd (· =b) h h'→K (s,g) h'):
  rE h (some ⟨b,0,none⟩) 0 [.string s.1,.bool s.2]∧At (fS h ⟨b,0,none⟩ 0 [.string s.1,.bool s.2]) (fun h'=>∃v1:ByteArray,aJ h' (adr ⟨b,0,none⟩ 0)=some (.string v1)∧∃v2:Bool,aJ h' (adr ⟨b,0,none⟩ 1)=some (.bool v2)∧K ((v1,v2),g) h'):=
 cF (c:=c) (vs:=abt s) e (by rw[hc];rfl) fun h2 b2 a=>⟨s.1,vc b2 0,s.2,vc b2 1,d h2 a⟩
theorem Ya{b o t:Sd}{p:Int}{h:ad}{K:Sd×Bool→ad→Prop}(z:∀h',Upd No h h'→K (Ao b o t p) h'):HC PG zy [.agg #[.string b.1,.bool b.2],.agg #[.string o.1,.bool o.2],.agg #[.string t.1,.bool t.2],.int .i64 p] [.agg [.str,.bool],.c .bool] K h:=by
 refine OF b o t p ?_;unfold Fe df av cU DK xN FA;refine aP fun B b1 k1=>aP fun h2 b2 u=>aP fun x b3 m=>aP fun q j k=>?_
 have i:=k.get0 (m.get0 (u.get0 b1));have d:=k.get0 (m.get0 b2);have f:=k.get0 b3;have A:h.size≤x.size:=((k1.tr u).tr m).size;have v:Upd No h q:=((k1.tr u).tr m).tr k;have a:∀{h'} (s:Sd) (g:Bool),Ao b o t p=(s,g)→Upd (· =x.size) q h'→K (s,g) h':=fun s g e c=>by rw[←e];exact z _ (v.own c A)
 unfold Ao at a;refine Join.intro (fun w h'=>h'=q∧w=decide (o=t∨t=b)) (fun R y=>?_) ?_
 ·refine⟨o.1,vc d 0,o.2,vc d 1,t.1,vc f 0,t.2,vc f 1,?_⟩
  rw[NC o t];by_cases e:o=t
  ·rw[decide_eq_true e]
   exact aw.2 (y _ _ ⟨rfl,(decide_eq_true (.inl e)).symm⟩)
  ·rw[decide_eq_false e]
   refine ag.2 ⟨t.1,vc f 0,t.2,vc f 1,b.1,vc i 0,b.2,vc i 1,y _ _ ⟨rfl,?_⟩⟩;rw[NC t b,decide_eq_decide];exact⟨.inr,fun h=>h.elim (fun h=>absurd h e) id⟩
 rintro w h' ⟨rfl,rfl⟩;refine ax (fun e=>?_) fun e=>?_
 ·rw[if_pos e]at a
  exact⟨o.1,vc d 0,o.2,vc d 1,AB (s:=o) j rfl fun n c=>a _ _ rfl c⟩
 rw[if_neg e]at a;refine⟨o.1,vc d 0,o.2,vc d 1,b.1,vc i 0,b.2,vc i 1,?_⟩;rw[NC o b];refine ax (fun e=>?_) fun e=>?_
 ·rw[if_pos e]at a
  exact⟨t.1,vc f 0,t.2,vc f 1,AB (s:=t) j rfl fun n c=>a _ _ rfl c⟩
 rw[if_neg e]at a;refine CondP.intro (fun e=>?_) fun e=>?_
 ·rw[if_pos (by simpa using e)]at a
  exact⟨o.1,vc d 0,o.2,vc d 1,AB (s:=o) j rfl fun n c=>a _ _ rfl c⟩
 rw[if_neg (by simpa using e)]at a;refine CondP.intro (fun e=>?_) fun e=>?_
 ·rw[if_pos (by simpa using e)]at a
  exact⟨t.1,vc f 0,t.2,vc f 1,AB (s:=t) j rfl fun n c=>a _ _ rfl c⟩
 ·rw[if_neg (by simpa using e)]at a
  exact⟨b.1,vc i 0,b.2,vc i 1,AB (s:=b) j rfl fun n c=>a _ _ rfl c⟩
theorem XT{b o t:Sd}{p:Int}{h:ad}{K:Sd×Bool→ad→Prop}(y:∀h',Upd No h h'→K (Ao b o t p) h'):HC PG Dd [.agg #[.string b.1,.bool b.2],.agg #[.string o.1,.bool o.2],.agg #[.string t.1,.bool t.2],.int .i64 p] [.agg [.str,.bool],.c .bool] K h:=by
 refine TA b o t p ?_;unfold Ku df av cU DK xN FA;refine aP fun C b1 k1=>aP fun h2 b2 u=>aP fun x b3 m=>aP fun w i n=>?_
 have j:=n.get0 (m.get0 (u.get0 b1));have d:=n.get0 (m.get0 b2);have f:=n.get0 b3;have A:h.size≤x.size:=((k1.tr u).tr m).size;have v:Upd No h w:=((k1.tr u).tr m).tr n;have a:∀{h'} (s:Sd) (g:Bool),Ao b o t p=(s,g)→Upd (· =x.size) w h'→K (s,g) h':=fun s g e c=>by rw[←e];exact y _ (v.own c A)
 unfold Ao at a;refine⟨o.1,vc d 0,o.2,vc d 1,t.1,vc f 0,t.2,vc f 1,?_⟩;rw[NC o t];refine ax (fun e=>?_) fun q=>?_
 ·rw[if_pos (.inl e)]at a
  exact⟨o.1,vc d 0,o.2,vc d 1,AB (s:=o) i rfl fun k c=>a _ _ rfl c⟩
 refine⟨o.1,vc d 0,o.2,vc d 1,b.1,vc j 0,b.2,vc j 1,?_⟩;rw[NC o b];refine ax (fun e=>?_) fun B=>?_
 ·rw[if_neg (fun h=>h.elim q fun h=>q (by rw[e,h])),if_pos e]at a
  exact⟨t.1,vc f 0,t.2,vc f 1,AB (s:=t) i rfl fun k c=>a _ _ rfl c⟩
 refine⟨t.1,vc f 0,t.2,vc f 1,b.1,vc j 0,b.2,vc j 1,?_⟩;rw[NC t b];refine ax (fun e=>?_) fun z=>?_
 ·rw[if_pos (.inr e)]at a
  exact⟨o.1,vc d 0,o.2,vc d 1,AB (s:=o) i rfl fun k c=>a _ _ rfl c⟩
 rw[if_neg (fun h=>h.elim q z),if_neg B]at a
 refine CondP.intro (fun e=>?_) fun e=>?_
 ·rw[if_pos (by simpa using e)]at a
  exact⟨o.1,vc d 0,o.2,vc d 1,AB (s:=o) i rfl fun k c=>a _ _ rfl c⟩
 rw[if_neg (by simpa using e)]at a;refine CondP.intro (fun e=>?_) fun e=>?_
 ·rw[if_pos (by simpa using e)]at a
  exact⟨t.1,vc f 0,t.2,vc f 1,AB (s:=t) i rfl fun k c=>a _ _ rfl c⟩
 ·rw[if_neg (by simpa using e)]at a
  exact⟨b.1,vc j 0,b.2,vc j 1,AB (s:=b) i rfl fun k c=>a _ _ rfl c⟩
abbrev acH:ByteArray:=⟨#[102,97,105,108]⟩
abbrev acF:ByteArray:=⟨#[111,117,114,115]⟩
abbrev Z9:ByteArray:=⟨#[116,104,101,105,114,115]⟩
abbrev acG:ByteArray:=⟨#[107,101,101,112]⟩
def Mw(p:Int):ByteArray:=if p=0 then acH else if p=1 then acF else if p=2 then Z9 else if p=3 then acG else⟨#[]⟩
theorem PZ{p:Int}{h:ad}{K:ByteArray→ad→Prop}(a:K (Mw p) h):HC PG zA [.int .i64 p] [.c .str] K h:=by
 refine OG p ?_;unfold Ff;unfold Mw at a;refine CondP.intro (fun e=>?_) fun e=>?_
 ·rw[if_pos (by simpa using e)]at a;exact a
 rw[if_neg (by simpa using e)]at a;refine CondP.intro (fun e=>?_) fun e=>?_
 ·rw[if_pos (by simpa using e)]at a;exact a
 rw[if_neg (by simpa using e)]at a;refine CondP.intro (fun e=>?_) fun e=>?_
 ·rw[if_pos (by simpa using e)]at a;exact a
 rw[if_neg (by simpa using e)]at a;refine CondP.intro (fun e=>?_) fun e=>?_
 ·rw[if_pos (by simpa using e)]at a;exact a
 ·rw[if_neg (by simpa using e)]at a;exact a
end Go.Proofs
namespace Go.Proofs
open Go Go.Lift
def oJ(k:ByteArray)(l:List Pr):List Pr:=l.filter fun q=>decide (q.1≠k)
theorem yx(k:ByteArray)(q:Pr)(l:List Pr):oJ k (q::l)=if q.1=k then oJ k l else q::oJ k l:=by
 unfold oJ;rw[List.filter_cons];by_cases h:q.1=k
 ·rw[if_pos h,if_neg (by simpa using h)]
 ·rw[if_neg h,if_pos (by simpa using h)]
theorem A9{k:ByteArray}{l:List Pr}(h:∀q∈l,q.1≠k):oJ k l=l:=gK.2 fun q a=>decide_eq_true (h q a)
theorem DX{k:ByteArray}{l:List Pr}(h:cG l k=false):∀q∈l,q.1≠k:=fun q a e=>by
 have:cG l k=true:=cE.2 ⟨q,a,decide_eq_true e⟩;rw[h]at this;cases this
theorem AC{k:ByteArray}{l:List Pr}(h:∀q∈l,q.1≠k):cG l k=false:=by
 rcases ht:cG l k with _|_
 ·rfl
 ·obtain⟨q,a,e⟩:=cE.1 ht
  exact absurd (of_decide_eq_true e) (h q a)
theorem Mf{k:ByteArray}{l:List Pr}(a:bM l):bM (oJ k l):=a.sublist List.filter_sublist
theorem NY{k:ByteArray}{l:List Pr}{p:Pr}:p∈oJ k l↔p∈l∧p.1≠k:=by unfold oJ;rw[List.mem_filter,decide_eq_true_iff]
theorem YB{k:ByteArray}{l:List Pr}:(oJ k l).length≤l.length:=List.length_filter_le ..
theorem U0{k:ByteArray}:∀{l:List Pr},bM l→l.length≤(oJ k l).length+1
 | [],_=>aS _
 |q::l,a=>by
  have a:=aF.1 a;rw[yx];by_cases h:q.1=k
  ·rw[if_pos h,A9 fun r hm e=>by have:=a.1 r hm;rw[h,e]at this;exact bZ _ this];exact aj _
  ·rw[if_neg h]
   have:=U0 (k:=k) a.2;simp only[ar];omega
theorem U3(k:ByteArray):∀{l:List Pr},bM l→Wt l k=oJ k l
 | [],_=>by simp[Wt,oJ,cG]
 |q::l,c=>by
  have m:=c;have c:=aF.1 c;have b:qP (q::l) k=if kl q.1 k then qP l k+1 else 0:=by
   unfold qP;rw[List.takeWhile_cons];by_cases h:kl q.1 k
   ·rw[if_pos (by simpa using h),if_pos h];rfl
   ·rw[if_neg (by simpa using h),if_neg h];rfl
  have d:cG (q::l) k=(decide (q.1=k)||cG l k):=by unfold cG;rw[ur]
  by_cases h:kl q.1 k
  ·have f:q.1≠k:=fun e=>by rw[e]at h;exact bZ _ h
   rw[yx,if_neg f,←U3 k c.2];unfold Wt;rw[d,b,if_pos h,decide_eq_false f,Bool.false_or];by_cases g:cG l k=true
   ·rw[if_pos g,if_pos g];rfl
   ·rw[if_neg g,if_neg g]
  ·by_cases e:q.1=k
   ·have a:∀r∈l,r.1≠k:=fun r hm i=>by have:=c.1 r hm;rw[e,i]at this;exact bZ _ this
    rw[yx,if_pos e,A9 a];unfold Wt;rw[d,b,if_neg h,decide_eq_true e,Bool.true_or,if_pos rfl];rfl
   ·have j:=qQ h e
    have a:∀r∈q::l,r.1≠k:=fun r hm i=>by
     rcases aC.1 hm with rfl|hm
     ·exact e i
     ·have:=c.1 r hm
      rw[i]at this;exact bZ _ (gD j this)
    rw[A9 a];unfold Wt;rw[AC a];rfl
theorem PQ{x:Hs}{lev c:Nat}{k:ByteArray}{l:List Pr}:part x lev c (oJ k l)=oJ k (part x lev c l):=by
 unfold part oJ;rw[List.filter_filter,List.filter_filter];exact sY fun p _=>Bool.and_comm ..
theorem VZ{x:Hs}{lev c:Nat}{k:ByteArray}{l:List Pr}(h:c≠ck x lev k):part x lev c (oJ k l)=part x lev c l:=by
 rw[PQ];exact A9 fun q a e=>h (by rw[←e];exact(nF.1 a).2.symm)
theorem RA{W:Nat→Prop}{x:Hs}{h h':ad}{m b':Nat}{s s':Slots}{l:List Pr}{k:ByteArray}(b:Upd No h h')(g:NodeAt W h' b' s')(d:∀c,c<32→SlotIs W x h m s c (part x (12-m) c l))
  (f:∀c,c≠ck x (12-m) k→s'.p c=s.p c∧s'.k c=s.k c)(hi:SlotIs W x h' m s' (ck x (12-m) k) (oJ k (part x (12-m) (ck x (12-m) k) l))):TrieAt W x h' (m+1) b' (oJ k l):=by
 refine⟨s',g,fun c hc=>?_⟩
 by_cases e:ck x (12-m) k=c
 ·rw[PQ];subst e;exact hi
 ·rw[VZ fun h=>e h.symm]
  have t:=SlotIs.upd0 b (d c hc);obtain⟨a,i⟩:=f c fun h=>e h.symm
  unfold SlotIs at t;rw[←a,←i]at t;exact t
theorem UX{β:Type}(g:Nat→Option β):∀n,(fm g n).length=((List.range n).map fun c=>(g c).toList.length).sum
 |0=>rfl
 |n+1=>by
  rw[jG,ac,UX g n,List.range_succ,List.map_append,List.sum_append];simp
theorem Pl{x:Hs}{lev:Nat}{l:List Pr}(h:∀c,c<32→(part x lev c l).length≤1):(iw x lev l).length=l.length:=by
 unfold iw;rw[UX];have e:=yk x lev l 32;have d:(l.filter fun p=>decide (ck x lev p.1<32))=l:=gK.2 fun p _=>decide_eq_true (zT x lev p.1)
 rw[d]at e;rw[←e];refine congrArg List.sum (List.map_congr_left fun c hc=>?_)
 have:=h c (g9.1 hc);match hp:part x lev c l with
 | []=>rfl
 | [p]=>rfl
 |a::b::r=>rw[hp]at this;simp at this
theorem RB{W:Nat→Prop}{x:Hs}{h:ad}{m b:Nat}{l:List Pr}(t:TrieAt W x h m b l)(C:l.length≤1000000):
  ∃d n sp sk bu ow lp lk,h[b]? =some (.cells (gc d n sp sk bu ow) bP (0,0))∧Sl ey 2 W h sp lp∧Sl uy 1 W h sk lk∧lp.length≤1000000∧lk.length≤32∧(lp.length+lk.length=1∧n=0↔l.length=1)∧∀p,l= [p]→lp= [p]:=by
 cases m with
 |zero=>
  obtain⟨sp,sk,ow,z,j,f,_⟩:=BuckAt.ex t;exact⟨0,0,sp,sk,true,ow,l,[],z,j,f,C,by simp,by simp,fun p e=>e⟩
 |succ m=>
  obtain⟨s,D,k⟩:=t;have k:∀c,c<32→SlotIs W x h m s c (part x (12-m) c l):=k;obtain⟨d,n,sp,sk,ow,z,bits,j,f,_⟩:=D.ex;have o:=H0 k;have B:=AN (g:=s.p);refine⟨d,n,sp,sk,false,ow,_,_,z,j,f,by omega,AN,?_,?_⟩
  ·by_cases u:∀c,c<32→s.k c=none
   ·have w:n=0:=Nat.eq_of_testBit_eq fun c=>by
     rw[ij];by_cases hc:c<32
     ·rw[bits.nk c hc,u c hc];rfl
     ·exact Nat.testBit_lt_two_pow (aG bits.n32 (Nat.pow_le_pow_right (n:=2) (by omega) (by omega:32≤c)))
    have ek:fm s.k 32= []:=by
     unfold fm;rw[List.filterMap_eq_nil_iff];exact fun c hc=>u c (g9.1 hc)
    have A:(fm s.p 32).length=l.length:=by
     rw[o];refine Pl fun c hc=>?_
     rcases k c hc with⟨a,_⟩|⟨p,a,_⟩|⟨_,_,E,h2,_⟩
     ·rw[a];simp
     ·rw[a];simp
     ·rw[u c hc]at h2;cases h2
    rw[ek,A,w];simp
   ·obtain⟨c,hc⟩:=Classical.not_forall.1 u
    obtain⟨hc,i⟩:=Classical.not_imp.1 hc;have v:n≠0:=fun w=>by
     have:=bits.nk c hc;rw[w,ij]at this;cases hkk:s.k c with
     |none=>exact i hkk
     |some y=>rw[hkk]at this;cases this
    rcases k c hc with⟨_,_,a⟩|⟨p,_,_,a⟩|⟨h2,_⟩
    ·exact absurd a i
    ·exact absurd a i
    ·have:=li (x:=x) (lev:=12-m) (c:=c) (l:=l)
     constructor
     ·rintro⟨_,e⟩;exact absurd e v
     ·intro e;omega
  ·rintro p rfl
   rw[o];have hc:=zT x (12-m) p.1;have A:(iw x (12-m) [p]).length=1:=Pl fun c _=>aX li (by simp)
   match hq:iw x (12-m) [p],A with
   | [q],_=>
    have:q∈iw x (12-m) [p]:=by rw[hq];exact aD.2 rfl
    rw[aD.1 (tI this)]
theorem aaa{h:ad}{b d n:Nat}{sp sk:SliceV}{c:Bool}{ow:Option Addr}(a:h[b]? =some (.cells (gc d n sp sk c ow) bP (0,0))) (g:sp.len+sk.len≤1000000000) {K:Int→ad→Prop} (f:K ((sp.len+sk.len:Nat):Int) h):HC PG nH [.pointer (some ⟨b,0,none⟩)] [.c (.int .i64)] K h:=by
 refine zX _ ?_;unfold vf bK;refine ag.2 ⟨_,rfl,sp,fE (i:=2) a,_,rfl,sk,fE (i:=3) a,?_⟩;have e:IntKind.wrap .i64 ((sp.len:Int)+(sk.len:Int))=((sp.len+sk.len:Nat):Int):=by rw[eJ (by omega)];omega
 rw[e];exact f
theorem Y2{W:Nat→Prop}{x:Hs}{h:ad}{m b:Nat}{l:List Pr}(t:TrieAt W x h m b l)(D:l.length≤1000000){K:Pr×Bool→ad→Prop}
  (u:∀h' p,Upd No h h'→(l.length=1→l= [p])→K (p,decide (l.length=1)) h'):HC PG xU [.pointer (some ⟨b,0,none⟩)] [.agg [.str,.str],.c .bool] K h:=by
 refine LP _ ?_;unfold Cz bT df az av lO iU;refine aP fun E b1 k1=>?_
 have t1:=TrieAt.upd0 k1 t;obtain⟨d,n,sp,sk,L,ow,I,lk,B,o,w,F,G,c,f⟩:=RB t1 D;have M:=o.len;have N:=w.len;refine Join.intro (fun t h'=>t= !decide (l.length=1)∧h'=E) (fun R C=>?_) ?_
 ·refine aaa B (by omega) ?_
  by_cases e:sp.len+sk.len=1
  ·have z:((sp.len+sk.len:Nat):Int)=1:=by omega
   rw[z];refine ag.2 (Ea B (C _ _ ⟨?_,rfl⟩));by_cases A:n=0
   ·rw[decide_eq_true (c.1 ⟨by omega,A⟩),A];rfl
   ·rw[decide_eq_false fun h=>A (c.2 h).2]
    exact bne_iff_ne.2 (by omega)
  ·have z:(((sp.len+sk.len:Nat):Int) !=(1:Int))=true:=bne_iff_ne.2 (by omega)
   rw[z];refine aw.2 (C _ _ ⟨?_,rfl⟩);rw[decide_eq_false fun h=>e (by have:=(c.2 h).1;omega)];rfl
 ·rintro _ h' ⟨rfl,rfl⟩
  have s:h'[h.size]? =some (.cells #[.string Rn.1,.string Rn.2] al (0,0)):=b1;by_cases e:l.length=1
  ·rw[decide_eq_true e]
   refine ag.2 ?_;refine rO B o (by omega) fun J h2 j k=>?_
   match l,e,f with
   | [p],e,f=>
    have v:=f p rfl;subst v;have q:=j.len;obtain⟨a,H,_,hv⟩:=(j.sl (W:=No) fun _ _ _ h=>h).at (i:=0) (x:=p) rfl
    refine⟨⟨by omega,by simp at q;omega⟩,a,H,p.1,hv 0 _ rfl,p.2,hv 1 _ rfl,?_⟩
    refine GU (p:=p) (k.get0 s) fun y b3 g=>⟨_,vc b3 0,_,vc b3 1,?_⟩
    have:=u y p ((k1.tr k).own g (aj _)) fun _=>rfl
    exact this
  ·have:=u
   rw[decide_eq_false e];rw[decide_eq_false e]at u;refine aw.2 (GU (p:=Rn) s fun y b3 g=>⟨_,vc b3 0,_,vc b3 1,?_⟩)
   exact u y _ (k1.own g (aj _)) fun h=>absurd h e
end Go.Proofs
namespace Go.Proofs
open Go Go.Lift
theorem PS{h:ad}{s:SliceV}{l:List Pr}(f:Sl ey 2 No h s l)(hc:s.len≤s.cap)(o:bM l)(B:l.length≤1000000000)(k:ByteArray)
  {K:SliceV→ad→Prop}(g:∀s' h',OwnS ey 2 al (fun b=>h.size≤b) h' s' (oJ k l)→Upd No h h'→K s' h'):HC PG A0 [.slice s.a s.len s.cap,.string k] [.c .slice] K h:=by
 refine QW s k ?_;unfold Hu DQ;have e:=f.len;refine N6 f o B k fun h2 a=>?_
 have C:=X0 l k;cases ht:cG l k with
 |false=>
  refine aw.2 (yA (f.upd a fun _ h=>h.elim) (by omega) fun J G w q=>?_)
  rw[A9 (DX ht)]at g;exact g _ _ (w.more fun b u=>aX a.size u) (a.tr q)
 |true=>
  obtain⟨F,_⟩:=NO o ht;have D:IntKind.wrap .i64 ((qP l k:Int)+1)=((qP l k+1:Nat):Int):=by rw[eJ (by omega)];omega
  refine ag.2 ?_;simp only;rw[D];refine⟨by omega,by omega,?_⟩
  simp only[Bd,aU];refine bG ?_;have c:=f.upd a fun _ h=>h.elim
  have p:=Upd.hnew No h2 [.slice (aW s.a 0 s.cap 2) (qP l k-0) (s.cap-0),.slice (aW s.a (qP l k+1) s.cap 2) (s.len-(qP l k+1)) (s.cap-(qP l k+1))] cr;have A:=co h2 [.slice (aW s.a 0 s.cap 2) (qP l k-0) (s.cap-0),.slice (aW s.a (qP l k+1) s.cap 2) (s.len-(qP l k+1)) (s.cap-(qP l k+1))] cr;have z:=NA c (i:=0) (j:=qP l k) (m:=s.cap) (aS _) C (by omega) (s.cap-0)
  have t:=NA c (i:=qP l k+1) (j:=l.length) (m:=s.cap) (by omega) (aj _) (by omega) (s.cap-(qP l k+1));rw[←e]at t;rw[cW]at z;rw[List.take_of_length_le (by rw[aV];omega)]at t;have E:oJ k l= [l.take (qP l k-0),l.drop (qP l k+1)].flatten:=by rw[←U3 k o];unfold Wt;rw[if_pos ht];simp
  refine MZ (s:=⟨some (ay h2),2,2⟩) (vs:= [⟨aW s.a 0 s.cap 2,qP l k-0,s.cap-0⟩,⟨aW s.a (qP l k+1) s.cap 2,s.len-(qP l k+1),s.cap-(qP l k+1)⟩]) (ls:= [l.take (qP l k-0),l.drop (qP l k+1)])
   ⟨rfl,fun x=>⟨rfl,rz⟩,fun _=>⟨_,rfl,fun h=>h.elim,ox A fun i v hv=>by simpa[ads]using hv⟩⟩ ⟨z.upd p fun _ h=>h.elim,t.upd p fun _ h=>h.elim,trivial⟩ ?_ (by simp) fun H I d n=>?_
  ·simp only[List.flatten_cons,List.flatten_nil,ac,aQ,aV,aM];omega
  ·rw[←E]at d
   have y:=a.tr p;exact g _ _ (d.more fun b u=>aX y.size u) (y.tr n)
theorem YT{W:Nat→Prop}{h:ad}{b:Nat}{l:List Pr}(s:BuckAt W h b l)(j:∀x,W x→x<h.size)(A:bM l)(p:l.length≤1000000000)(k:ByteArray){K:Option Addr→ad→Prop}
  (u:∀h' b',BuckAt W h' b' (oJ k l)→Upd No h h'→K (some ⟨b',0,none⟩) h'):
  HC PG tO [.pointer (some ⟨b,0,none⟩),.pointer none,.string k] [.c .ptr] K h:=by
 refine Gu _ none k ?_;unfold yR bK dy DQ oU;obtain⟨sp,sk,ow,E,C,B,D,z⟩:=s.ex;refine gL E (ag.2 ?_);refine UG s p fun h2 y t2 b2 o t d=>?_
 refine⟨_,rfl,y,fE (i:=2) b2,?_⟩;refine PS (o.sl fun _ _ _ h=>h) o.cap A p k fun q G g c=>?_
 have b3:=c.get0 b2;refine⟨_,rfl,Zp (i:=2) b3 (show 2<6 by decide),Ld (i:=2) (c':=gc 0 0 q t2 true none) b3 rfl fun v w a=>?_⟩
 have F:=aY b2;have n:=g.upd a fun x hx e=>by have e:x=h.size:=e;omega
 have m:=(t.upd c fun _ _ h=>h).upd a fun x hx e=>by have e:x=h.size:=e;omega
 refine u v h.size ⟨⟨q,t2,none,w,n.sl fun x hx _ f=>?_,m.sl fun x hx _ f=>?_,g.cap,t.cap⟩,fun f=>?_⟩ ((d.tr c).trans a fun x hx=>.inr ?_)
 ·have:=j x f;have:=d.size;omega
 ·have:=j x f;omega
 ·have:=j _ f;omega
 ·have hx:x=h.size:=hx
  omega
theorem QD{W:Nat→Prop}{x:Hs}:∀(m:Nat),m≤13→∀{b:Nat} {l:List Pr} (k:ByteArray) {h:ad},TrieAt W x h m b l→(∀y,W y→y<h.size)→bM l→l.length≤1000000→∀{K:(Option Addr)×Bool→ad→Prop},
  (∀h' b',Upd No h h'→TrieAt W x h' m b' (oJ k l)→(cG l k=false→b'=b)→K (some ⟨b',0,none⟩,cG l k) h')→
  HC PG oD [Xf x k,.pointer (some ⟨b,0,none⟩),.int .i64 ((13-m:Nat):Int)] [.c .ptr,.c .bool] K h:=by
 intro m;induction m with
 |zero=>
  intro _ b l k h t hW hr hn K z;have Q:∀{h'},Upd No h h'→∀y,W y→y<h'.size:=fun k y R=>aG (hW y R) k.size
  refine xg (x.k0,x.k1,x.mask,none,k,gq x k) (some ⟨b,0,none⟩) ((13-0:Nat):Int) ?_;unfold sF ae aB nv av lO vl wT rC W3 Am CC nX CB Nq NP;refine aP fun u b1 k1=>?_
  have bk:BuckAt W u b l:=BuckAt.upd t k1 fun _ h=>h.elim
  obtain⟨sp,sk,ow,hb,_⟩:=bk.ex;refine gL hb (aw.2 ⟨_,vc b1 4,aa2 bk hr (by omega) k fun L v i hv=>?_⟩)
  have b3:=i.get0 b1;cases w:cG l k with
  |false=>
   rw[w]at z;exact aw.2 (z L b (k1.tr i) (by rw[A9 (DX w)];exact bk.upd i fun _ h=>h.elim) fun _=>rfl)
  |true=>
   rw[w]at z;refine ag.2 ⟨none,vc b3 3,_,vc b3 4,?_⟩;refine YT (bk.upd i fun _ h=>h.elim) (Q (k1.tr i)) hr (by omega) k fun h5 b5 bk5 I=>?_
   exact z h5 b5 ((k1.tr i).tr I) bk5 fun h=>by cases h
 |succ m ih=>
  intro hm b l k h t hW hr hn K z;have Q:∀{h'},Upd No h h'→∀y,W y→y<h'.size:=fun k y R=>aG (hW y R) k.size
  have hl:13-(m+1)<13:=by omega
  have U:13-(m+1)=12-m:=by omega
  refine xg (x.k0,x.k1,x.mask,none,k,gq x k) (some ⟨b,0,none⟩) ((13-(m+1):Nat):Int) ?_;unfold sF ae aB nv av lO vl wT rC W3 Am CC nX CB Nq NP;refine aP fun u b1 k1=>?_
  have t1:=TrieAt.upd0 k1 t;obtain⟨s,F,hs⟩:=t1;have hs:∀c,c<32→SlotIs W x u m s c (part x (12-m) c l):=hs;obtain⟨d,n,sp,sk,ow,hb,_⟩:=F.ex;refine gL hb (ag.2 ⟨_,vc b1 5,Td hl ?_⟩);rw[U];have hi:=zT x (12-m) k;have J:=hs _ hi;have E:cG (part x (12-m) (ck x (12-m) k) l) k=cG l k:=Iw;have X:bM (part x (12-m) (ck x (12-m) k) l):=jl hr;have T:(part x (12-m) (ck x (12-m) k) l).length≤1000000:=aX li hn
  have o:∀{h':ad} {b':Nat} {s':Slots},Upd No u h'→NodeAt W h' b' s'→(∀c,c≠ck x (12-m) k→s'.p c=s.p c∧s'.k c=s.k c)→SlotIs W x h' m s' (ck x (12-m) k) (oJ k (part x (12-m) (ck x (12-m) k) l))→TrieAt W x h' (m+1) b' (oJ k l):=fun P nd hp hi=>RA P nd hs hp hi
  have tt:∀{h':ad},Upd No u h'→TrieAt W x h' (m+1) b l:=fun P=>TrieAt.upd0 (k1.tr P) t
  generalize hc:ck x (12-m) k=c at*;generalize hlc:part x (12-m) c l=lc at*;refine AE F hi fun L i=>?_
  refine aP fun h4 b4 k4=>?_
  have b4':h4[L.size]? =some (.cells #[.string Rn.1,.string Rn.2] al (0,0)):=b4;refine GU (p:=F4 (s.p c)) b4' fun h5 b5 I=>?_
  have a:Upd No u h5:=(i.tr k4).own I i.size;have H:=a.get0 b1;have V:=F.upd a fun _ h=>h.elim
  have same:∀{h':ad},Upd No u h'→cG l k=false→K (some ⟨b,0,none⟩,false) h':=fun P w=>by
   have:=z _ b (k1.tr P) (by rw[A9 (DX w)];exact tt P) fun _=>rfl
   rw[w]at this;exact this
  cases hsp:s.p c with
  |some y=>
   rw[hsp]at b5;obtain⟨B,hk0⟩:lc= [y]∧s.k c=none:=by
    rcases J with⟨_,h2,_⟩|⟨q,u,h2,L⟩|⟨_,h2,_⟩
    ·rw[hsp]at h2;cases h2
    ·rw[hsp]at h2;cases h2;exact⟨u,L⟩
    ·rw[hsp]at h2;cases h2
   refine aw.2 ⟨y.1,vc b5 0,k,vc H 4,?_⟩;rw[ge];by_cases Y:y.1=k
   ·have w:cG l k=true:=by rw[←E,B];exact cE.2 ⟨y,aD.2 rfl,decide_eq_true Y⟩
    rw[decide_eq_true Y];rw[w]at z;refine ag.2 ⟨none,vc H 3,YI V (Q (k1.tr a)) hi fun h6 b6 nd6 G=>?_⟩
    refine z h6 b6 ((k1.tr a).tr G) (o (a.tr G) nd6 (fun c' j=>⟨gt j,gt j⟩) ?_) fun h=>by cases h
    refine .inl ⟨?_,gT,gT⟩;rw[B,yx,if_pos Y];rfl
   ·rw[decide_eq_false Y]
    have w:cG l k=false:=by
     rw[←E,B];unfold cG;rw[ur,decide_eq_false Y];rfl
    exact aw.2 (same a w)
  |none=>
   refine ag.2 (wU V hi ?_);cases hsk:s.k c with
   |none=>
    have S:lc= []:=by
     rcases J with⟨u,_⟩|⟨q,_,h2,_⟩|⟨_,_,O,h2,_⟩
     ·exact u
     ·rw[hsp]at h2;cases h2
     ·rw[hsk]at h2;cases h2
    exact aw.2 (same a (by rw[←E,S];rfl))
   |some kp=>
    obtain⟨h2l,O,rfl,tk⟩:2≤lc.length∧∃O,kp=some ⟨O,0,none⟩∧TrieAt W x u m O lc:=by
     rcases J with⟨_,_,h2⟩|⟨q,_,h2,_⟩|⟨u,_,O,h2,L⟩
     ·rw[hsk]at h2;cases h2
     ·rw[hsp]at h2;cases h2
     ·rw[hsk]at h2;cases h2;exact⟨u,O,rfl,L⟩
    refine ag.2 ⟨_,vc H 0,_,vc H 1,_,vc H 2,_,vc H 3,_,vc H 4,_,vc H 5,?_⟩;have ew:IntKind.wrap .i64 (((12-m:Nat):Int)+1)=((13-m:Nat):Int):=by rw[eJ (by omega)];omega
    rw[ew];refine ih (by omega) k (TrieAt.upd0 a tk) (Q (k1.tr a)) X T fun h6 b6 G t6 hsame=>?_
    have A:=a.tr G;rw[E];cases w:cG l k with
    |false=>exact aw.2 (same A w)
    |true=>
     rw[w]at z;have hdl:=U0 (k:=k) X;have hdn:(oJ k lc).length≤1000000:=aX YB T;refine ag.2 (Y2 t6 hdn fun h7 p D hp=>?_)
     refine aP fun h8 b8 k8=>?_
     have b8':h8[h7.size]? =some (.cells #[.string Rn.1,.string Rn.2] al (0,0)):=b8;refine GU (p:=p) b8' fun h9 b9 Z=>?_
     have f:Upd No u h9:=((A.tr D).tr k8).own Z (A.tr D).size;have c9:=f.get0 b1;have nd9:=F.upd f fun _ h=>h.elim
     refine ax (fun e=>?_) fun e=>?_
     ·refine⟨none,vc c9 3,p.1,vc b9 0,p.2,vc b9 1,tE nd9 (Q (k1.tr f)) hi (fun y R=>by rw[hsp]at R;cases R) p fun N M C g=>?_⟩
      refine z N M ((k1.tr f).tr g) (o (f.tr g) C (fun c' j=>⟨gt j,gt j⟩) ?_) fun h=>by cases h
      exact .inr (.inl ⟨p,hp e,gT,gT⟩)
     ·refine⟨none,vc c9 3,yh nd9 (Q (k1.tr f)) hi (fun _ _=>hsp) ⟨b6,0,none⟩ fun N M C g=>?_⟩
      refine z N M ((k1.tr f).tr g) (o (f.tr g) C (fun c' j=>⟨gt j,gt j⟩) ?_) fun h=>by cases h
      exact .inr (.inr ⟨by omega,gT,b6,gT,TrieAt.upd0 ((D.tr k8).own Z D.size|>.tr g) t6⟩)
theorem Oh{W:Nat→Prop}{x:Hs}{h:ad}{b:Nat}{l:List Pr}(t:TrieAt W x h 13 b l)(o:∀y,W y→y<h.size)(w:bM l)(v:l.length≤1000000)(k:ByteArray){K:Option Addr×Bool→ad→Prop}
  (q:∀h' b',Upd No h h'→TrieAt W x h' 13 b' (oJ k l)→(cG l k=false→b'=b)→K (some ⟨b',0,none⟩,cG l k) h'):
  HC PG zC [.agg #[.int .u64 x.k0,.int .u64 x.k1,.int .u64 x.mask],.pointer none,.pointer (some ⟨b,0,none⟩),.string k] [.c .ptr,.c .bool] K h:=by
 refine OI (x.k0,x.k1,x.mask) none (some ⟨b,0,none⟩) k ?_;unfold Fh ae AA wN CC;refine aP fun B b1 k1=>?_
 refine Nz (.inr ⟨b,rfl,TrieAt.upd0 k1 t⟩) (fun y n=>aG (o y n) k1.size) fun h2 b2 t2 f j=>?_
 have d:=f.get0 b1;refine⟨_,vc d 0,_,vc d 1,_,vc d 2,_,vc d 0,_,vc d 1,_,vc d 2,?_⟩;refine vE fun A c=>?_
 have i:=c.get0 d;refine⟨⟨vc i 0,vc i 1,vc i 2⟩,?_⟩;have a:=(k1.tr f).tr c;refine QD 13 (aj _) k (TrieAt.upd0 c t2) (fun y n=>aG (o y n) a.size) w v fun s u m z g=>?_
 refine q s u (a.tr m) z fun p=>?_
 rw[g p];rcases j with e|e
 ·cases e;rfl
 ·cases e
end Go.Proofs
namespace Go.Proofs
def xH(P a:List UInt8→ByteArray→Prop)(k:List UInt8):Prop:=∀k' v',a k' v'↔k'≠k∧P k' v'
theorem S5{P:List UInt8→ByteArray→Prop}{k:List UInt8}(h:∀v,¬P k v):xH P P k:=fun k' b=>⟨fun a=>⟨fun e=>h b (e▸a),a⟩,fun h=>h.2⟩
theorem S4{w:Option ByteArray}{F:Fo}(h:gf F):xH (uQ w F) (uQ none F) []:=by
 intro k' a;unfold uQ;constructor
 ·rintro(⟨_,f⟩|hi)
  ·cases f
  ·exact⟨qR h hi,.inr hi⟩
 ·rintro⟨e,⟨f,_⟩|hi⟩
  ·exact absurd f e
  ·exact .inr hi
theorem JI{w:Option ByteArray}{F F':Fo}{k:List UInt8}(a:k≠[])(h:xH (tg F) (tg F') k):xH (uQ w F) (uQ w F') k:=by
 intro k' b;unfold uQ;rw[h k' b];constructor
 ·rintro(⟨e,f⟩|hi)
  ·exact⟨fun c=>a (c.symm.trans e),.inl ⟨e,f⟩⟩
  ·exact⟨hi.1,.inr hi.2⟩
 ·rintro⟨e,hi|hi⟩
  ·exact .inl hi
  ·exact .inr ⟨e,hi⟩
theorem S6{lab r:List UInt8}{w d:Option ByteArray}{F F':Fo}(h:xH (uQ w F) (uQ d F') r):xH (wO (lab,w,F)) (wO (lab,d,F')) (lab++r):=by
 intro k' f;constructor
 ·rintro⟨s,e,a⟩
  obtain⟨b,h2⟩:=(h s f).1 a;exact⟨fun c=>b (fg (e.symm.trans c)),s,e,h2⟩
 ·rintro⟨b,s,e,a⟩
  exact⟨s,e,(h s f).2 ⟨fun c=>b (by rw[e,c]),a⟩⟩
theorem Wp{F:Fo}{i:Nat}{m:Bn}{k:List UInt8}(h:gf F)(hi:i<F.toL.length)(ek:hd F.toL[i].1=hd k)(g:xH (wO F.toL[i]) (wO m) k):xH (tg F) (tg (.ofL (F.toL.set i m))) k:=by
 intro k' f;have hc:=eP.1 h;rw[gM,gM,Fo.to_of];constructor
 ·rintro⟨n,a,b⟩
  rcases(pb hi (zd h hi)).1 a with rfl|⟨a,c⟩
  ·obtain⟨d,h2⟩:=(g k' f).1 b
   exact⟨d,_,bh hi,h2⟩
  ·refine⟨fun e=>c ?_,n,a,b⟩
   obtain⟨r,j,_⟩:=b;refine zE h a (bh hi) ?_;rw[ek,←e,j,pZ (hc.2 n a).1]
 ·rintro⟨d,n,a,b⟩
  by_cases e:n=F.toL[i]
  ·exact⟨m,(pb hi (zd h hi)).2 (.inl rfl),(g k' f).2 ⟨d,by rw[←e];exact b⟩⟩
  ·exact⟨n,(pb hi (zd h hi)).2 (.inr ⟨a,e⟩),b⟩
theorem G5{α:Type}{l:List α}{i:Nat}(hi:i<l.length){x:α}(d:∀j (a:j<l.length),j≠i→l[j]≠l[i]):x∈l.take i++l.drop (i+1)↔x∈l∧x≠l[i]:=by
 constructor
 ·intro h
  rcases bC.1 h with h|h
  ·obtain⟨j,a,e⟩:=bQ h
   rw[aQ]at a;rw[sR]at e;exact⟨List.mem_of_mem_take h,by rw[←e];exact d j (by omega) (by omega)⟩
  ·obtain⟨j,a,e⟩:=bQ h
   rw[aV]at a;rw[sS]at e;exact⟨List.mem_of_mem_drop h,by rw[←e];exact d (i+1+j) (by omega) (by omega)⟩
 ·rintro⟨h,b⟩
  obtain⟨j,a,e⟩:=bQ h;rcases Nat.lt_trichotomy j i with c|c|c
  ·exact bC.2 (.inl (qe (i:=j) (h:=by rw[aQ];omega) (by rw[sR];exact e)))
  ·subst c;exact absurd e.symm b
  ·refine bC.2 (.inr (qe (i:=j-(i+1)) (h:=by rw[aV];omega) ?_))
   rw[sS];have:i+1+(j-(i+1))=j:=by omega
   simp only[this];exact e
theorem aay{F:Fo}{i:Nat}(h:gf F):gf (.ofL (F.toL.take i++F.toL.drop (i+1))):=by
 have hc:=eP.1 h;rw[eP,Fo.to_of];have a:(F.toL.take i++F.toL.drop (i+1)).Sublist F.toL:=by rw[←List.eraseIdx_eq_take_drop_succ];exact List.eraseIdx_sublist ..
 exact⟨hc.1.sublist a,fun n b=>hc.2 n (a.subset b)⟩
theorem Wq{F:Fo}{i:Nat}{k:List UInt8}(h:gf F)(hi:i<F.toL.length)(ek:hd F.toL[i].1=hd k)(g:∀k' d,wO F.toL[i] k' d→k'=k):xH (tg F) (tg (.ofL (F.toL.take i++F.toL.drop (i+1)))) k:=by
 intro k' d;have hc:=eP.1 h;rw[gM,gM,Fo.to_of];constructor
 ·rintro⟨n,a,b⟩
  obtain⟨a,c⟩:=(G5 hi (zd h hi)).1 a;refine⟨fun e=>c ?_,n,a,b⟩
  obtain⟨r,j,_⟩:=b;refine zE h a (bh hi) ?_;rw[ek,←e,j,pZ (hc.2 n a).1]
 ·rintro⟨f,n,a,b⟩
  by_cases e:n=F.toL[i]
  ·exact absurd (g k' d (by rw[←e];exact b)) f
  ·exact⟨n,(G5 hi (zd h hi)).2 ⟨a,e⟩,b⟩
def aaG(n:Bn)(o:Option Bn):Prop:=(o=none∧∀k v,¬wO n k v)∨∃m,o=some m∧Q9 m∧hd m.1=hd n.1∧∀k v,wO m k v↔wO n k v
theorem V7{lab:List UInt8}{w:Option ByteArray}{F:Fo}(a:lab≠[])(hc:gf F)(h:w.isSome∨2≤F.toL.length):aaG (lab,w,F) (some (lab,w,F)):=.inr ⟨_,rfl,⟨a,h,hc⟩,rfl,fun _ _=>zO⟩
theorem V8{lab:List UInt8}{F:Fo}(h:F.toL= []):aaG (lab,none,F) none:=by
 refine .inl ⟨rfl,fun k v hi=>?_⟩
 obtain⟨r,_,⟨_,h'⟩|h'⟩:=hi
 ·cases h'
 ·obtain⟨n,a,_⟩:=gM.1 h'
  simp only at a;rw[h]at a;cases a
theorem X7{lab lk:List UInt8}{a:Option ByteArray}{F Fk:Fo}(b:lab≠[])(hc:gf F)(h:F.toL= [(lk,a,Fk)]):aaG (lab,none,F) (some (lab++lk,a,Fk)):=by
 have d:F=.cons lk a Fk .nil:=by
  rw[←Fo.of_to F,h];rfl
 have c:=(eP.1 hc).2 (lk,a,Fk) (by rw[h];exact aD.2 rfl);refine .inr ⟨_,rfl,⟨fun e=>b (List.append_eq_nil_iff.1 e).1,c.2.1,c.2.2⟩,pZ b,fun k v=>?_⟩
 have:=MK (lab:=lab++lk) (w:=a) (F:=Fk) lab.length k v;rw[g7,gi]at this;rw[d];exact this.symm
end Go.Proofs
