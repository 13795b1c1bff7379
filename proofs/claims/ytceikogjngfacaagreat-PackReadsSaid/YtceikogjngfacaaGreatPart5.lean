/- A part of the proof that the named laws of this program answer true, whatever the input. -/
import Derived.Test.YtceikogjngfacaaGreatPart4
import Derived.Test.YtceikogjngfacaaGreatPart2
open Bool renaming eq_iff_iff→fy,false_eq_true→bS
open Go.IntKind renaming wrap→ac
open Go.Op renaming bytesLess→bH
open Int renaming toNat_natCast→bQ
open List renaming pairwise_append→bW,mem_cons_self→aD,append_nil→bi,mem_append_left→dw,mem_append→be,mem_append_right→eu,length_append→af,length_nil→aQ,length_cons→av,getElem?_append_right→aH,length_singleton→aI,length_eq_zero_iff→ax,nil_append→bZ,cons_append→dF,cons→kQ,mem_cons→ar,pairwise_cons→bF,drop_zero→dJ,drop_left→kP,take_length→cG,append_assoc→aw,take_succ_cons→iX,take_append_drop→aN,length→eO,length_drop→aW,mem_of_getLast?→ir,mem_singleton→aq,length_take→aL,mem_cons_of_mem→aA,sublist_append_right→nF,getElem?_eq_getElem→ag,take_of_length_le→bL,length_pos_iff→kE,getElem_mem→bR,zip_cons_cons→ll,map_cons→bJ,map_append→cj,sum_cons→qx,length_map→aX
open List.Pairwise renaming nil→dh
open Nat renaming lt_of_lt_of_le→aC,le_refl→ai,sub_self→di,one_pos→mO,zero_le→aY,sub_zero→ec,le_trans→co
open Option renaming some→bX
open Prod renaming mk→ou
namespace Go.Proofs
open Go Go.Lift
theorem F5{h:ae}{b:Nat}{c:Array Value}{t:TypeId}{v:Value}{k:ae→Prop}(d:h[b]? =some (.cells c t (0,0))) (e:0<c.size) (f:∀h',h'[b]? =some (.cells (c.setIfInBounds 0 v) t (0,0))→Upd (· =b) h h'→k h'):Wr h ⟨b,0,none⟩∧At (hset h ⟨b,0,none⟩ v) k:=
 ⟨fz d e,Bq d f⟩
theorem Tc{L D T:List Pr}{p:Pr}(d:fE L)(e:L=D++p::T):LB D p=D++ [p]:=by
 subst e;have c:=bW.1 d;rw[Q0 p c.1];have:=NM (p:=p) (A:=D) (B:= []) fun r b=>c.2.2 r b p (aD ..)
 rw[bi]at this;exact this
theorem T3{z:Hs}{lev:Nat}{D A B:List Pr}{f:Pr}(q:Srt (YC z lev) (D++(A++B)))(o:∀d∈D,∀t∈A++B,ck z lev d.1<ck z lev t.1)(i:f∈A)(m:∀a∈A,ck z lev a.1=ck z lev f.1)(n:∀b∈B,ck z lev b.1≠ck z lev f.1):
  part z lev (ck z lev f.1) (D++(A++B))=A∧part z lev (ck z lev f.1) D= []∧(∀c,c≠ck z lev f.1→part z lev c (D++A)=part z lev c D)∧part z lev (ck z lev f.1) (D++A)=A∧∀d∈D++A,∀t∈B,ck z lev d.1<ck z lev t.1:=by
 have g:part z lev (ck z lev f.1) D= []:=Ci fun d hd=>by have:=o d hd f (dw _ i);omega
 have pA:part z lev (ck z lev f.1) A=A:=Ut m;have p:part z lev (ck z lev f.1) B= []:=Ci n;have app:∀{c} (X Y:List Pr),part z lev c (X++Y)=part z lev c X++part z lev c Y:=fun X Y=>List.filter_append ..
 refine⟨by rw[app,app,g,pA,p];simp,g,fun c hc=>?_,by rw[app,g,pA];rfl,fun d hd t j=>?_⟩
 ·have:part z lev c A= []:=Ci fun a s=>by rw[m a s];exact fun e=>hc e.symm
  rw[app,this,bi]
 ·rcases be.1 hd with hd|hd
  ·exact o d hd t (eu _ j)
  ·have v:=of_decide_eq_false (q.right.cross d hd t j)
   have h2:=n t j;have u:=m d hd;omega
set_option maxHeartbeats 1000000 in
theorem Ww{N:Nat}(st:StH N)(hN:N≤100000){z:Hs}{W:Nat→Prop}:∀(m:Nat),m≤13→∀{h:ae} {s:SliceV} {L:List Pr},Sl (qk z) 3 No h s L→(∀y,W y→y<h.size)→fE L→L.length≤N→∀{K:Option Addr→ae→Prop},
  (∀n b,TrieAt W z n m b L→Upd No h n→K (some ⟨b,0,none⟩) n)→fh 186 [.slice s.a s.len s.cap,.int .i64 ((13-m:Nat):Int)] K h:=by
 intro m;induction m with
 |zero=>
  intro _ h s L hs hW hr hn K hk;have gW:∀{n},Upd No h n→∀y,W y→y<n.size:=fun k y hy=>aC (hW y hy) k.size
  refine C4 s ((13-0:Nat):Int) ?_;dsimp only[xD,cg,ji,nv,db,nU,fG,Fh,Oz,pN,vA,TH,CS,CU,ic,pq,pQ,yU,xx];refine bj fun h1 b1 k1=>⟨_,Ip b1,aV.2 ?_⟩
  refine Tb (gW k1) fun h4 b4 bk4 hu4=>?_
  have hlen:=hs.len;refine LoopP.ghost (fun(g:List Pr×List Pr) (t:Option Addr×Int) n=>(∃b,t.1=some ⟨b,0,none⟩∧BuckAt W n b g.1)∧t.2=(g.1.length:Int)∧L=g.1++g.2∧Upd No h n) (fun g=>g.2.length) ([],L) ⟨⟨b4,rfl,bk4⟩,rfl,rfl,k1.tr hu4⟩ ?_
  rintro I ⟨D,T⟩ ⟨tb,ti⟩ h5 ⟨⟨b,e1,bk⟩,e2,C,V⟩ hI;(try simp only at e1 e2 C bk)
  subst e1 e2;have hl3:L.length=D.length+T.length:=by rw[C,af]
  refine ak (fun hlt=>?_) fun hge=>?_
  ·rcases T with _|⟨p,T⟩
   ·simp only[aQ]at hl3;omega
   ·simp only[av]at hl3
    obtain⟨a,ha,_,hv⟩:=(hs.upd V fun _ h=>h.elim).at (i:=D.length) (x:=p) (by rw[C,aH (ai _),di];rfl)
    refine⟨⟨by omega,by omega⟩,a,ha,p.1,hv 0 _ rfl,p.2,hv 1 _ rfl,jZ z p.1,hv 2 _ rfl,?_⟩
    refine bj fun h6 b6 k6=>?_
    refine dt (c:= [.string ⟨#[]⟩,.string ⟨#[]⟩,.int .u64 0]) (vs:=qk z p) b6 rfl fun h7 b7 Y=>?_
    have hu07:=(V.tr k6).own Y V.size;have k57:Upd No h5 h7:=k6.own Y (ai _);refine⟨p.1,lA b7 0 0,p.2,lA b7 0 1,?_⟩;have hrD:fE D:=by rw[C]at hr;exact(bW.1 hr).1
    refine Xv (bk.upd k57 fun _ h=>h.elim) (gW hu07) hrD (by omega) p fun h8 b8 bk8 hu8=>?_
    rw[Tc hr C]at bk8;have ew:ac .i64 ((D.length:Int)+1)=((D++ [p]).length:Int):=by rw[af,aI,dL (by omega)];omega
    rw[ew];exact hI (D++ [p],T) _ _ ⟨⟨b8,rfl,bk8⟩,rfl,by rw[C];simp,hu07.tr hu8⟩ (by simp)
  ·have hT:T= []:=ax.1 (by omega)
   subst hT;rw[bi]at C;subst C;exact hk h5 b bk V
 |succ m ih=>
  intro hm h s L hs hW hr hn K hk;have gW:∀{n},Upd No h n→∀y,W y→y<n.size:=fun k y hy=>aC (hW y hy) k.size
  have hlev:13-(m+1)=12-m:=by omega
  have O:12-m<13:=by omega
  refine C4 s ((13-(m+1):Nat):Int) ?_;dsimp only[xD,cg,ji,nv,db,nU,fG,Fh,Oz,pN,vA,TH,CS,CU,ic,pq,pQ,yU,xx];rw[hlev];refine bj fun h1 b1 k1=>⟨_,Ip b1,?_⟩
  have ne:(((12-m:Nat):Int)==(13:Int))=false:=by rw[beq_eq_false_iff_ne];omega
  rw[ne];refine ay.2 (bj fun h2 b2 k2=>?_)
  have z1:=bc b1;have z2:=bc b2;have s1:=k1.size;refine F5 b2 mO fun h3 b3 hu3=>?_
  have c1:=hu3.oth (k2.get0 b1) (by omega);have two3:Two h.size h1.size (12-m) h3:=⟨c1,b3⟩;have k03:Upd No h h3:=(k1.tr k2).own hu3 s1;have s3:h2.size≤h3.size:=hu3.size;refine S7 (hs.upd k03 fun _ h=>h.elim) (by omega) fun e h4 ho4 hu4=>?_
  have two4:=two3.upd hu4;refine st (YB z (12-m)) (aa6 O (by omega) (by omega)) ho4 two4 (by omega) fun h5 R ho5 hst V=>?_
  have k45:Upd No h3 h5:=hu4.trans V fun b hb=>.inr hb
  have two5:=two3.upd k45;have hRl:=hst.eqf.len;have hRp:∀c,part z (12-m) c R=part z (12-m) c L:=fun c=>by
   by_cases hex:∃q∈R++L,ck z (12-m) q.1=c
   ·obtain⟨q,_,hq⟩:=hex
    have e1:∀X:List Pr,X.filter (Ku (YC z (12-m)) q)=part z (12-m) c X:=fun X=>List.filter_congr fun p _=>by rw[Xs,hq]
    rw[←e1,←e1];exact hst.eqf.flt q
   ·rw[Ci fun p hp e=>hex ⟨p,dw _ hp,e⟩,Ci fun p hp e=>hex ⟨p,eu _ hp,e⟩]
  have k05:=k03.tr k45;refine Cq (gW k05) fun h6 b6 nd6 hu6=>?_
  have k06:=k05.tr hu6;have hlen:=ho5.len;have E:Sl (qk z) 3 No h6 e R:=(ho5.sl fun _ _ _ h=>h).upd hu6 fun _ h=>h.elim
  refine LoopP.ghost (fun(g:List Pr×List Pr) (t:SliceV×Option Addr) n=>R=g.1++g.2∧(∀d∈g.1,∀y∈g.2,ck z (12-m) d.1<ck z (12-m) y.1)∧Sl (qk z) 3 No n t.1 g.2∧t.1.len≤t.1.cap∧(∃b sl,t.2=some ⟨b,0,none⟩∧NodeAt W n b sl∧∀c,c<32→SlotIs W z n m sl c (part z (12-m) c g.1))∧Upd No h6 n) (fun g=>g.2.length) ([],R)
   ⟨rfl,fun d hd=>(by cases hd),E,ho5.cap,⟨b6,_,rfl,nd6,fun c _=>.inl ⟨rfl,rfl,rfl⟩⟩,Upd.refl _ _⟩ ?_
  rintro I ⟨D,T⟩ ⟨sT,tb⟩ h7 ⟨C,hDT,v,hcT,⟨b,sl,e1,nd,E⟩,Y⟩ hI;(try simp only at e1 C hDT v hcT nd E)
  subst e1;have Z:=v.len;have hRT:R.length=D.length+T.length:=by rw[C,af]
  have k07:=k06.tr Y;have two7:=(two5.upd hu6).upd Y;refine ak (fun hgt=>?_) fun hle=>?_
  ·rcases T with _|⟨p,T⟩
   ·simp only[aQ]at Z;(try simp only at hgt);omega
   obtain⟨a,ha,_,hv⟩:=v.at (i:=0) (x:=p) rfl;refine⟨_,Ip two7.2,⟨by omega,by simp only[av]at Z;(try simp only);omega⟩,a,ha,p.1,hv 0 _ rfl,p.2,hv 1 _ rfl,jZ z p.1,hv 2 _ rfl,?_⟩
   have w:∀{h8},Upd No h7 h8→Two h.size h1.size (12-m) h8:=fun k=>two7.upd k
   refine⟨HF (z:=z) O two7.1 p fun h8 k8=>bj fun h9 b9 k9=>F5 b9 mO fun h10 U hu10=>?_,bj fun h8 b8 k8=>⟨?_,Ip (w k8).2,HF (z:=z) O (w k8).1 p fun h9 k9=>F5 (k9.get0 b8) mO fun h10 U hu10=>?_⟩⟩
   case refine_2=>
    obtain⟨a',ha',_,S⟩:=(v.upd k8 fun _ h=>h.elim).at (i:=0) (x:=p) rfl
    rw[ha]at ha';cases ha';exact⟨S 0 _ rfl,S 1 _ rfl,S 2 _ rfl⟩
   case' refine_1=>
    have o:Upd No h7 h10:=(k8.tr k9).own hu10 k8.size;obtain⟨vb,evb⟩:∃vb,vb=h8.size:=⟨_,rfl⟩;rw[dA h8,←evb];rw[←evb]at U
   case' refine_3=>
    have o:Upd No h7 h10:=(k8.tr k9).own hu10 (ai _);obtain⟨vb,evb⟩:∃vb,vb=h7.size:=⟨_,rfl⟩;rw[dA h7,←evb];rw[←evb]at U
   all_goals
    have hTl:(p::T).length≤N:=by omega
    refine SL (v.upd o fun _ h=>h.elim) (by omega) (g:=fun q=>decide (ck z (12-m) q.1≠ck z (12-m) p.1)) (fun q _ n K' hu' hK=>?_) fun h11 A B e u hA hBn hBc hu11=>?_
    ·refine HV.mk' (eM (zu (q.1,q.2,jZ z q.1) ⟨h1.size,0,none⟩ ⟨vb,0,none⟩) .nil Tryz.func233 Tryz.call233 ?_)
     dsimp only[zu,au,nU,vA,Py,j5,cE,xx];refine bj fun h12 b12 k12=>?_
     have k':=hu'.tr k12;refine⟨_,Ip (w (o.tr k')).2,_,vc b12 0,_,vc b12 1,_,vc b12 2,_,Ip (k'.get0 U),?_⟩;refine HF (z:=z) O (w (o.tr k')).1 q fun h13 k13=>⟨Ip ((k'.tr k13).get0 U),?_⟩
     have eb:(((ck z (12-m) q.1:Nat):Int) !=((ck z (12-m) p.1:Nat):Int))=decide (ck z (12-m) q.1≠ck z (12-m) p.1):=by
      rw[fy,bne_iff_ne,decide_eq_true_iff];omega
     rw[eb];exact hK h13 (k12.tr k13)
    obtain⟨A',rfl⟩:∃A',A=p::A':=by
     rcases A with _|⟨a0,A'⟩
     ·have:=(hBc p T (by rw[bZ]at u;exact u.symm)).2
      simp at this
     ·rw[dF]at u
      exact⟨A',by rw[(kQ.inj u).1]⟩
    generalize hAe:p::A'=A at*;have hpA:p∈A:=by rw[←hAe];exact aD ..
    have hA1:0<A.length:=List.length_pos_of_mem hpA;have J:=hst.srt;rw[u]at hDT v hTl Z;rw[C,u]at J;simp only[af]at hTl Z;have hcA:∀q∈A,ck z (12-m) q.1=ck z (12-m) p.1:=fun q hq=>by simpa using hA q hq
    have hcB:∀q∈B,ck z (12-m) q.1≠ck z (12-m) p.1:=fun q hq=>by
     rcases B with _|⟨b0,B'⟩
     ·cases hq
     have hb0:ck z (12-m) b0.1≠ck z (12-m) p.1:=by simpa using(hBc b0 B' rfl).2
     have h1:=of_decide_eq_false (J.right.cross p hpA b0 (aD ..));rcases ar.1 hq with rfl|hq
     ·exact hb0
     ·have h2:=of_decide_eq_false ((bF.1 J.right.right).1 q hq)
      omega
    obtain⟨r1,r2,r3,r4,r5⟩:=T3 J hDT hpA hcA hcB;have hi:=X4 z (12-m) p.1;have hsi:=E _ hi;rw[r2]at hsi;obtain⟨hsp,hskn⟩:sl.p (ck z (12-m) p.1)=none∧sl.k (ck z (12-m) p.1)=none:=by
     rcases hsi with⟨_,h1,h2⟩|⟨q,h1,_⟩|⟨h1,_⟩
     ·exact⟨h1,h2⟩
     ·cases h1
     ·simp at h1
    have P:=(Y.tr o).tr hu11;have j:=o.tr hu11;have b11:=hu11.get0 U;have F:=w j;refine Join.intro (fun t n=>t=(A.length:Int)∧n=h11) (fun R1 hR1=>?_) ?_
    ·refine ak (fun hneg=>hR1 _ _ ⟨?_,rfl⟩) fun hpos=>hR1 _ _ ⟨?_,rfl⟩
     ·rcases B with _|⟨b0,B'⟩
      ·have Z:sT.len=A.length+0:=Z
       show((sT.len:Nat):Int)=(A.length:Int)
       omega
      ·have:=(hBc b0 B' rfl).1;omega
     ·rcases B with _|⟨b0,B'⟩
      ·have:=hBn rfl;omega
      ·exact(hBc b0 B' rfl).1
    rintro t n ⟨rfl,rfl⟩;refine Join.intro (fun t h9=>∃b' sl',t=some ⟨b',0,none⟩∧NodeAt W h9 b' sl'∧(∀c,c<32→SlotIs W z h9 m sl' c (part z (12-m) c (D++A)))∧Upd No n h9) (fun R1 hR1=>?_) ?_
    ·refine CondP.intro (fun H=>?_) fun G=>?_
     ·have H:A.length=1:=by have:=eq_of_beq H;omega
      have hAp:A= [p]:=by
       rw[←hAe]at H⊢;simp only[av]at H;rw[ax.1 (show A'.length=0 by omega)]
      obtain⟨a',ha',_,S⟩:=(v.upd j fun _ h=>h.elim).at (i:=0) (x:=p) (by rw[←hAe];rfl)
      rw[ha]at ha';cases ha';refine⟨_,Ip b11,⟨by omega,by omega⟩,a,ha,p.1,S 0 _ rfl,p.2,S 1 _ rfl,?_⟩
      refine O0 (nd.upd j fun _ h=>h.elim) (gW (k06.tr P)) hi (fun _ _=>hskn) p fun h12 b12 nd12 f=>hR1 _ _ ⟨b12,_,rfl,nd12,fun c hc=>?_,f⟩
      by_cases e:c=ck z (12-m) p.1
      ·rw[e,r4,hAp]
       exact .inr (.inl ⟨p,rfl,vU,vU⟩)
      ·rw[r3 c e]
       have t:=SlotIs.upd0 (j.tr f) (E c hc);have e1:upd sl.p (ck z (12-m) p.1) (some p) c=sl.p c:=zH e;have e2:upd sl.k (ck z (12-m) p.1) none c=sl.k c:=zH e;unfold SlotIs at t;rw[←e1,←e2]at t;exact t
     ·have G:A.length≠1:=fun e=>by rw[e]at G;simp at G
      refine⟨_,Ip b11,⟨by omega,(by show((A.length:Nat):Int)≤((sT.cap:Nat):Int);omega)⟩,_,Ip F.1,?_⟩;have ew:ac .i64 (((12-m:Nat):Int)+1)=((13-m:Nat):Int):=by rw[dL (by omega)];omega
      rw[ew];have hsA:=Sl.sub (v.upd j fun _ h=>h.elim) (l:=0) (hi:=A.length) (m:=sT.cap) (c:=sT.cap-0) (aY _) (by simp) (by omega)
      rw[dJ,ec,List.take_left]at hsA;have hAL:A=part z (12-m) (ck z (12-m) p.1) L:=by
       rw[←hRp,C,u];exact r1.symm
      refine ih (by omega) hsA (gW (k06.tr P)) (by rw[hAL];exact Pd hr) (by omega) fun h12 kb t12 f=>?_
      refine⟨Ip (F.upd f).1,Ip (f.get0 b11),?_⟩;refine RX (nd.upd (j.tr f) fun _ h=>h.elim) (gW ((k06.tr P).tr f)) hi (fun _ _=>hsp) ⟨kb,0,none⟩ fun h13 b13 nd13 Q=>⟨Ip ((F.upd f).upd Q).1,hR1 _ _ ⟨b13,_,rfl,nd13,fun c hc=>?_,f.tr Q⟩⟩
      by_cases e:c=ck z (12-m) p.1
      ·rw[e,r4]
       exact .inr (.inr ⟨by omega,vU,kb,vU,TrieAt.upd0 Q t12⟩)
      ·rw[r3 c e]
       have t:=SlotIs.upd0 ((j.tr f).tr Q) (E c hc);have e1:upd sl.p (ck z (12-m) p.1) none c=sl.p c:=zH e;have e2:upd sl.k (ck z (12-m) p.1) (some (some ⟨kb,0,none⟩)) c=sl.k c:=zH e;unfold SlotIs at t;rw[←e1,←e2]at t;exact t
    ·rintro t h9 ⟨b',sl',rfl,nd9,hs9,hu9⟩
     refine⟨⟨by omega,(by show((A.length:Nat):Int)≤((sT.len:Nat):Int);omega)⟩,?_⟩;rw[bQ];have hsB:=Sl.sub ((v.upd j fun _ h=>h.elim).upd hu9 fun _ h=>h.elim) (l:=A.length) (hi:=(A++B).length) (m:=sT.cap) (c:=sT.cap-A.length) (by simp) (ai _) (by rw[af];omega)
     rw[kP,af,Nat.add_sub_cancel_left,cG]at hsB;have elen:sT.len-A.length=B.length:=by omega
     rw[elen];refine hI (D++A,B) _ _ ⟨by rw[C,u,aw],r5,hsB,by(try simp only);omega,⟨b',sl',rfl,nd9,hs9⟩,P.tr hu9⟩ ?_
     simp only[u,af];omega
  ·have hT:T= []:=by
    refine ax.1 ?_;(try simp only at hle);omega
   subst hT;rw[bi]at C;subst C;exact hk h7 b ⟨sl,nd,fun c hc=>by
    have:=E c hc
    rw[hRp c]at this
    exact this⟩ k07
end Go.Proofs
namespace Go.Proofs
open Go Go.Lift
theorem VD{z:Hs}{M:Nat→Prop}{h:ae}{so:SliceV}{out:List Pr}{p:Pr}{K:SliceV→ae→Prop}(e:OwnS (qk z) 3 291 M h so out)(hM:∀b,h.size≤b→M b)(j:out.length+1≤1000000000)
  (g:∀s' c,OwnS (qk z) 3 291 M c s' (out++ [p])→Upd M h c→K s' c):
  ∃xs,SRow (hnew h (qk z p) 291) (some (aJ h)) (1*3) xs∧AppP (some [.string (⟨#[]⟩:ByteArray),.string (⟨#[]⟩:ByteArray),.int .u64 0]) 3 40 291 so.a so.len so.cap 1 xs (hnew h (qk z p) 291) K:=by
 have k:=Upd.hnew No h (qk z p) 291;have i:OwnS (qk z) 3 291 (fun _=>True) (hnew h (qk z p) 291) ⟨some (aJ h),1,1⟩ [p]:=⟨rfl,LH z,ai _,.inr ⟨h.size,[],rfl,trivial,cO ..,rfl⟩⟩
 refine⟨_,(i.sl (W:=No) fun _ _ _ h=>h).srow,?_⟩
 refine AppP.own (ys:= [p]) (e.upd k fun _ _ h=>h) rfl rfl rfl rfl (by omega) (by simp only[aI];omega) (hM _ (by rw[eI];omega)) fun s' c d f=>?_
 exact g s' c d ((Upd.hnew M h _ _).tr f)
theorem QG(l:List Pr):(rp l).length≤l.length:=by
 have:∀(l acc:List Pr),(l.foldl (fun acc p=>vG p acc) acc).length≤acc.length+l.length:=by
  intro l;induction l with
  |nil=>intro acc;simp
  |cons p l ih=>
   intro acc;rw[List.foldl_cons];have b:=ih (vG p acc);have h2:=Kk p (l:=acc);simp only[av];omega
 have:=this l [];unfold rp;simpa using this
theorem S8{N:Nat}(st:StP N)(Z:StH N)(hN:N≤100000){z:Hs}{W W0:Nat→Prop}{h:ae}{s:SliceV}{l:List Pr}(hs:Sl fw 2 W0 h s l)(hW:∀y,W y→y<h.size)(hn:l.length≤N){K:Option Addr→ae→Prop}
  (P:∀c b,TrieAt W z c 13 b (rp l)→Upd No h c→K (some ⟨b,0,none⟩) c):fh 146 [.agg #[.int .u64 z.k0,.int .u64 z.k1,.int .u64 z.mask],.slice s.a s.len s.cap] K h:=by
 refine eM (AQ (z.k0,z.k1,z.mask) s) Jy Tryz.func146 Tryz.call146 ?_;dsimp only[AQ,nv,BR,EL,Dw,cE,ja,iR,Fh,Oz,j5,sM,ic,ji,CS,fG,pR,au];refine bj fun h1 b1 k1=>?_
 refine AY st (by omega) (W':=No) (hs.upd k1 fun _ h=>h.elim) (fun _ h=>h.elim) (by omega) fun e A n _ O=>?_
 have c3:=O.get0 b1;have G:=k1.tr O;have j:=QG l;have q:=vY l;generalize rp l=L at*;have d:=n.len;refine LoopP.ghost (fun(g:List Pr×List Pr) (t:SliceV×Int) c=>t.2=(g.1.length:Int)∧L=g.1++g.2∧OwnS (qk z) 3 291 (fun b=>A.size≤b) c t.1 g.1∧Upd No A c) (fun g=>g.2.length) ([],L) ⟨rfl,rfl,OwnS.nil (LH z),Upd.refl _ _⟩ ?_
 rintro I ⟨D,T⟩ ⟨sa,ti⟩ h6 ⟨U,Q,v,w⟩ hI;(try simp only at U Q v)
 subst U Q;simp only[af]at d j;have Y:=v.len;refine ak (fun C=>?_) fun F=>?_
 ·rcases T with _|⟨p,T⟩
  ·simp only[aQ]at d;(try simp only at C);omega
  simp only[av]at d j;refine Join.intro (fun t c=>OwnS (qk z) 3 291 (fun b=>A.size≤b) c t (D++ [p])∧Upd No A c) (fun R X=>?_) ?_
  ·obtain⟨a,ha,_,hv⟩:=(n.upd w fun _ h=>h.elim).at (i:=D.length) (x:=p) (by rw[aH (ai _),di];rfl)
   refine⟨⟨by omega,by(try simp only);omega⟩,a,ha,p.1,hv 0 _ rfl,p.2,hv 1 _ rfl,?_⟩
   refine DS (p:=p) fun h8 B H=>?_
   have J:=(w.tr H).get0 c3;refine⟨p.1,vc B 0,p.2,vc B 1,_,vc J 0,_,vc J 1,_,vc J 2,p.1,vc B 0,?_⟩;refine Xd fun h9 E=>?_
   have S:=E.get0 B;refine⟨⟨vc S 0,vc S 1⟩,cP ?_⟩;have u:=(w.tr H).tr E;have z9:=u.size;refine VD (z:=z) (p:=p) (((v.upd H fun _ _ h=>h).upd E fun _ _ h=>h)) (fun b V=>by omega) (by omega) fun s' c m f=>X _ _ ⟨m,u.trans f fun b V=>.inr V⟩
  ·rintro s' c ⟨m,f⟩
   have ew:ac .i64 ((D.length:Int)+1)=((D++ [p]).length:Int):=by rw[af,aI,dL (by omega)];omega
   rw[ew];exact hI (D++ [p],T) _ _ ⟨rfl,by simp,m,f⟩ (by simp)
 ·have hT:T= []:=ax.1 (by(try simp only at F);omega)
  subst hT;rw[bi]at q;rw[bi]at P;have o:=G.tr w;exact Ww Z hN 13 (ai _) (v.sl fun _ _ _ h=>h) (fun y hy=>aC (hW y hy) o.size) q (by simp only[aQ]at j;omega) fun c b t f=>P c b t (o.tr f)
theorem StP.less{N M:Nat}(h:StP N)(hm:M≤N):StP M:=fun w _ _ _ hc _ _ _ b hi d _ c=>h w hc b hi (co d hm) c
theorem StH.less{N M:Nat}(h:StH N)(hm:M≤N):StH M:=fun w _ _ _ hc _ _ _ b hi d _ c=>h w hc b hi (co d hm) c
end Go.Proofs
namespace Go.Proofs
open Go Go.Lift
theorem zV{a b:ByteArray}:kl a b↔bH a.data.toList b.data.toList=true:=by unfold kl;rw[ByteArray.toList_eq,ByteArray.toList_eq]
theorem Ad{a b:UInt8}{x y:List UInt8}:bH (a::x) (b::y)=true↔a.toNat<b.toNat∨(a=b∧bH x y=true):=by
 simp only[bH,Bool.or_eq_true,decide_eq_true_iff,Bool.and_eq_true,beq_iff_eq,UInt8.lt_iff_toNat_lt]
theorem LX(x:List UInt8):bH x []=false:=by cases x<;>rfl
theorem Qa{x y:List UInt8}:∀pre:List UInt8,bH (pre++x) (pre++y)=true↔bH x y=true
 | []=>Iff.rfl
 |a::pre=>by rw[dF,dF,Ad,Qa pre];simp
theorem aah{x y:List UInt8}(h:bH x y=true)(hx:x≠[])(c:y≠[]):hd x≤hd y:=by
 match x,y,hx,c with
 |a::x,b::y,_,_=>
  show a.toNat≤b.toNat
  rcases Ad.1 h with h|⟨rfl,_⟩<;>omega
theorem MQ:∀(t:Nat) {f p g:List UInt8},t≤cm f g→(f=p∨bH f p=true)→(p=g∨bH p g=true)→p.take t=f.take t∧t≤p.length
 |0,f,p,g,_,_,_=>by simp
 |t+1,[],p,g,h,_,_=>by simp[cm]at h
 |t+1,a::f,p,[],h,_,_=>by simp[cm]at h
 |t+1,a::f,p,b::g,h,d,h2=>by
  unfold cm at h;split at h
  ·rename_i e
   subst e;rcases p with _|⟨c,p⟩
   ·rcases d with d|d
    ·cases d
    ·rw[LX]at d;cases d
   ·have hc:c=a:=by
     rcases d with d|d
     ·exact(kQ.inj d).1.symm
     ·rcases h2 with h2|h2
      ·exact(kQ.inj h2).1
      ·have j:=Ad.1 d
       have i:=Ad.1 h2;rcases j with j|⟨j,_⟩
       ·rcases i with i|⟨i,_⟩
        ·omega
        ·exact i
       ·exact j.symm
    subst hc;have:=MQ t (f:=f) (p:=p) (g:=g) (by omega) (d.imp (fun h=>(kQ.inj h).2) fun h=>by
     rcases Ad.1 h with h|⟨_,h⟩
     ·omega
     ·exact h) (h2.imp (fun h=>(kQ.inj h).2) fun h=>by
     rcases Ad.1 h with h|⟨_,h⟩
     ·omega
     ·exact h)
    rw[iX,iX,this.1,av];exact⟨rfl,by omega⟩
  ·omega
theorem Q8:∀f:List UInt8,cm f f=f.length
 | []=>rfl
 |a::f=>by unfold cm;rw[if_pos rfl,Q8 f];rfl
abbrev ky(p:Pr):List UInt8:=p.1.data.toList
def XL(l:List Pr)(b k:List UInt8)(v:ByteArray):Prop:=∃p∈l,ky p=b++k∧p.2=v
structure Beg(l:List Pr)(pre:List UInt8):Prop where
 up:fE l
 at_:∀p∈l,(ky p).take pre.length=pre∧pre.length<(ky p).length
theorem Beg.sub{l d:List Pr}{c:List UInt8}(b:Beg l c)(h:d.Sublist l):Beg d c:=⟨b.up.sublist h,fun p e=>b.at_ p (h.subset e)⟩
theorem Beg.split{l:List Pr}{c:List UInt8}(b:Beg l c){p:Pr}(d:p∈l):ky p=c++(ky p).drop c.length∧(ky p).drop c.length≠[]:=by
 obtain⟨f,h2⟩:=b.at_ p d;refine⟨?_,fun e=>?_⟩
 ·conv=>lhs;rw[←aN c.length (ky p),f]
 ·have:=congrArg eO e
  rw[aW,aQ]at this;omega
def bt(n:Nat)(p:Pr):Nat:=hd ((ky p).drop n)
theorem Beg.mono{A B:List Pr}{c:List UInt8}(b:Beg (A++B) c){x y:Pr}(hx:x∈A)(d:y∈B):bt c.length x≤bt c.length y:=by
 have h:=(bW.1 b.up).2.2 x hx y d;rw[zV]at h;obtain⟨i,f⟩:=b.split (dw B hx);obtain⟨e,g⟩:=b.split (eu A d);change bH (ky x) (ky y)=true at h;rw[i,e,Qa]at h;exact aah h f g
theorem Kw{l:List Pr}{d:List UInt8}{f g:Pr}(b:Beg l d)(K:∃r,l=f::r)(v:l.getLast? =some g)(L:bt d.length f=bt d.length g):
  d.length<cm (ky f) (ky g)∧cm (ky f) (ky g)≤(ky f).length∧(∀p∈l,(ky p).take (cm (ky f) (ky g))=(ky f).take (cm (ky f) (ky g)))∧(∀p∈l,p=f∨cm (ky f) (ky g)<(ky p).length)∧
   (cm (ky f) (ky g)<(ky f).length→cm (ky f) (ky g)<(ky g).length∧hd ((ky f).drop (cm (ky f) (ky g)))≠hd ((ky g).drop (cm (ky f) (ky g)))):=by
 obtain⟨r,rfl⟩:=K;have z:f∈f::r:=aD ..;have s:g∈f::r:=ir v;obtain⟨G,H⟩:=b.split z;obtain⟨J,N⟩:=b.split s;have B:d.length<cm (ky f) (ky g):=by
  have:∀(q x y:List UInt8),cm (q++x) (q++y)=q.length+cm x y:=by
   intro q x y;induction q with
   |nil=>simp
   |cons a q ih=>simp only[dF,cm,if_true,ih,av];omega
  have C:=this d ((ky f).drop d.length) ((ky g).drop d.length);rw[←G,←J]at C;have h2:=YZ H N L;omega
 have w:=X3 (ky f) (ky g);have u:∀p∈f::r,ky f=ky p∨bH (ky f) (ky p)=true:=fun p c=>by
  rcases ar.1 c with rfl|c
  ·exact .inl rfl
  ·exact .inr (zV.1 ((bF.1 b.up).1 p c))
 have A:∀p∈f::r,ky p=ky g∨bH (ky p) (ky g)=true:=fun p c=>by
  rcases List.eq_nil_or_concat (f::r)with h|⟨l',y,h⟩
  ·cases h
  ·rw[List.concat_eq_append]at h
   rw[h,List.getLast?_concat]at v;cases v;have m:=b.up;rw[h]at c m;rcases be.1 c with c|c
   ·exact .inr (zV.1 ((bW.1 m).2.2 p c g (aq.2 rfl)))
   ·rw[aq.1 c];exact .inl rfl
 have o:∀p∈f::r,(ky p).take (cm (ky f) (ky g))=(ky f).take (cm (ky f) (ky g))∧cm (ky f) (ky g)≤(ky p).length:=fun p c=>MQ _ (ai _) (u p c) (A p c)
 have j:∀p∈f::r,p=f∨cm (ky f) (ky g)<(ky p).length:=fun p c=>by
  obtain⟨C,h2⟩:=o p c;rcases Nat.lt_or_ge (cm (ky f) (ky g)) (ky p).length with h|h
  ·exact .inr h
  ·left
   have F:(ky p).length=cm (ky f) (ky g):=by omega
   have e:ky p=(ky f).take (cm (ky f) (ky g)):=by rw[←C,←F,cG]
   rcases ar.1 c with rfl|c
   ·rfl
   ·have E:=zV.1 ((bF.1 b.up).1 p c)
    change bH (ky f) (ky p)=true at E;exfalso;have I:ky f=ky p++(ky f).drop (cm (ky f) (ky g)):=by rw[e,aN]
    have D:bH (ky p++(ky f).drop (cm (ky f) (ky g))) (ky p++ [])=true:=by rw[bi,←I];exact E
    rw[Qa,LX]at D;cases D
 refine⟨B,w.1,fun p c=>(o p c).1,j,fun i=>?_⟩
 have n:cm (ky f) (ky g)<(ky g).length:=by
  rcases j g s with h|h
  ·exfalso
   rw[h,Q8]at i;omega
  ·exact h
 exact⟨n,Q9 _ _ i n⟩
theorem P6{l G:List Pr}{c:List UInt8}{f g:Pr}(b:Beg l c)(J:∃r,l=f::r)(H:l.getLast? =some g)(P:bt c.length f=bt c.length g){F:Fo}(hc:wW F)
  (j:G=if(ky f).length=cm (ky f) (ky g)then l.drop 1 else l)(z:∀k v,Rh F k v↔XL G ((ky f).take (cm (ky f) (ky g))) k v){w:Option ByteArray}(A:w=if(ky f).length=cm (ky f) (ky g)then some f.2 else none){d:List UInt8}(x:d=((ky f).take (cm (ky f) (ky g))).drop c.length):
  To (d,w,F)∧hd d=bt c.length f∧∀k v,X8 (d,w,F) k v↔XL l c k v:=by
 obtain⟨S,h2,I,R,O⟩:=Kw b J H P;obtain⟨r,rfl⟩:=J;have u:f∈f::r:=aD ..;have B:g∈f::r:=ir H;generalize cm (ky f) (ky g)=to at*;have m:c++d=(ky f).take to:=by
  have:=(b.at_ f u).1;rw[x];conv=>rhs;rw[←aN c.length ((ky f).take to),List.take_take,Nat.min_eq_left (by omega),this]
 have n:d≠[]:=fun e=>by
  have:=congrArg eO x;rw[e,aQ,aW,aL]at this;omega
 have E:∀k v,X8 (d,w,F) k v↔XL (f::r) c k v:=by
  intro k v;constructor
  ·rintro⟨q,e,⟨rfl,o⟩|o⟩
   ·simp only at e o
    rw[bi]at e;subst e;rw[A]at o;split at o
    ·rename_i i
     cases o;refine⟨f,u,?_,rfl⟩;rw[m,←i,cG]
    ·cases o
   ·simp only at e o
    obtain⟨p,s,L,rfl⟩:=(z q v).1 o;refine⟨p,?_,?_,rfl⟩
    ·rw[j]at s
     split at s
     ·exact aA _ s
     ·exact s
    ·rw[L,e,←aw,m]
  ·rintro⟨p,s,e,rfl⟩
   have y:=I p s;have K:ky p=c++(d++(ky p).drop to):=by
    rw[←aw,m,←y,aN]
   have ek:k=d++(ky p).drop to:=List.append_cancel_left (e.symm.trans K);refine⟨(ky p).drop to,ek,?_⟩;by_cases i:(ky f).length=to
   ·rw[if_pos i]at A j
    rcases ar.1 s with rfl|s
    ·left
     refine⟨List.drop_eq_nil_of_le (by omega),?_⟩;simp only;rw[A]
    ·right
     refine(z _ _).2 ⟨p,by rw[j];exact s,?_,rfl⟩
     rw[←y,aN]
   ·rw[if_neg i]at A j
    right;refine(z _ _).2 ⟨p,by rw[j];exact s,?_,rfl⟩
    rw[←y,aN]
 refine⟨⟨n,?_,hc⟩,?_,E⟩
 ·by_cases i:(ky f).length=to
  ·left;simp only;rw[A,if_pos i];rfl
  ·have C:to<(ky f).length:=by omega
   obtain⟨N,D⟩:=O C;refine(Y1 hc).2 (.inr ⟨(ky f).drop to,(ky g).drop to,f.2,g.2,.inr ?_,.inr ?_,fun e=>?_,fun e=>?_,D⟩)
   ·exact(z _ _).2 ⟨f,by rw[j,if_neg i];exact u,(aN ..).symm,rfl⟩
   ·exact(z _ _).2 ⟨g,by rw[j,if_neg i];exact B,by rw[←I g B,aN],rfl⟩
   ·have:=congrArg eO e
    rw[aW,aQ]at this;omega
   ·have:=congrArg eO e
    rw[aW,aQ]at this;omega
 ·have e:=(b.split u).1
  unfold bt;have o:(ky f).drop c.length=d++(ky f).drop to:=by
   have Q:ky f=c++(d++(ky f).drop to):=by rw[←aw,m,aN]
   conv=>lhs;rw[Q]
   rw[kP]
  rw[o,Hb n]
structure Row(L:List Bn)(D T:List Pr)(pre:List UInt8):Prop where
 can:∀n∈L,To n
 up:L.Pairwise fun m n=>hd m.1<hd n.1
 lo:∀n∈L,∀p∈T,hd n.1<bt pre.length p
 got:∀k v,(∃n∈L,X8 n k v)↔XL D pre k v
theorem Row.nil(T:List Pr)(b:List UInt8):Row [] [] T b:=⟨fun n h=>(by cases h),dh,fun n h=>(by cases h),fun k v=>⟨fun⟨n,h,_⟩=>(by cases h),fun⟨p,h,_⟩=>(by cases h)⟩⟩
theorem Row.more{L:List Bn}{D A B:List Pr}{c:List UInt8}{n:Bn}{p:Pr}(r:Row L D (A++B) c)(o:Beg (A++B) c)(u:p∈A)(_:∀a∈A,bt c.length a=bt c.length p)(w:∀b f,B=b::f→bt c.length b≠bt c.length p)(hc:To n)(s:hd n.1=bt c.length p)(j:∀k v,X8 n k v↔XL A c k v):Row (L++ [n]) (D++A) B c:=by
 refine⟨fun m hm=>?_,bW.2 ⟨r.up,List.pairwise_singleton ..,fun a y b x=>?_⟩,fun m hm q d=>?_,fun k v=>?_⟩
 ·rcases be.1 hm with hm|hm
  ·exact r.can m hm
  ·rw[aq.1 hm];exact hc
 ·rw[aq.1 x,s]
  exact r.lo a y p (dw _ u)
 ·rcases be.1 hm with hm|hm
  ·exact r.lo m hm q (eu _ d)
  ·rw[aq.1 hm,s]
   rcases B with _|⟨g,f⟩
   ·cases d
   have z:=w g f rfl;have h2:=o.mono u (aD (a:=g) (l:=f));rcases ar.1 d with rfl|d
   ·omega
   ·have i:Beg ([g]++f) c:=o.sub (nF A _)
    have:=i.mono (aq.2 rfl) d;omega
 ·constructor
  ·rintro⟨m,hm,hi⟩
   rcases be.1 hm with hm|hm
   ·obtain⟨q,d,e⟩:=(r.got k v).1 ⟨m,hm,hi⟩
    exact⟨q,dw _ d,e⟩
   ·rw[aq.1 hm]at hi
    obtain⟨q,d,e⟩:=(j k v).1 hi;exact⟨q,eu _ d,e⟩
  ·rintro⟨q,d,e⟩
   rcases be.1 d with d|d
   ·obtain⟨m,hm,hi⟩:=(r.got k v).2 ⟨q,d,e⟩
    exact⟨m,dw _ hm,hi⟩
   ·exact⟨n,eu _ (aq.2 rfl),(j k v).2 ⟨q,d,e⟩⟩
theorem Row.done{L:List Bn}{D:List Pr}{b:List UInt8}(r:Row L D [] b):wW (.ofL L)∧∀k v,Rh (.ofL L) k v↔XL D b k v:=by
 refine⟨tJ.2 ?_,fun k v=>?_⟩
 ·rw[Fo.to_of];exact⟨r.up,r.can⟩
 ·rw[uu,Fo.to_of];exact r.got k v
end Go.Proofs
namespace Go.Proofs
open Go Go.Lift
theorem U9(s:ByteArray)(a b:Nat):(s.extract a b).data.toList=(s.data.toList.take b).drop a:=by
 rw[ByteArray.data_extract,Array.toList_extract,List.extract_eq_take_drop,List.drop_take]
theorem UM(s:ByteArray):s.data.toList.length=s.size:=by simp
theorem Kid.less{W W':Nat→Prop}{h:ae}(hm:∀b,W' b→W b∨h.size≤b){a:Option Addr}{n:Bn}:Kid W h a n→Kid W' h a n
 |⟨b,sl,e1,e2,e3⟩=>⟨b,sl,e1,e2,e3.less hm⟩
theorem Kid.updM{W M:Nat→Prop}{h c:ae}(k:Upd M h c)(hm:∀b,M b→W b∨h.size≤b){a:Option Addr}{n:Bn}:Kid W h a n→Kid W c a n
 |⟨b,sl,e1,e2,e3⟩=>⟨b,sl,e1,e2,e3.updM k hm⟩
theorem RxL.less{W W':Nat→Prop}{h:ae}(hm:∀b,W' b→W b∨h.size≤b){ks:List (Option Addr)}{L:List Bn}(r:RxL W h ks L):RxL W' h ks L:=⟨r.1,fun p c=>(r.2 p c).less hm⟩
theorem RxL.updM{W M:Nat→Prop}{h c:ae}(k:Upd M h c)(hm:∀b,M b→W b∨h.size≤b){ks:List (Option Addr)}{L:List Bn}(r:RxL W h ks L):RxL W c ks L:=⟨r.1,fun p d=>(r.2 p d).updM k hm⟩
theorem Vz{p:Pr}{n:Nat}(h:n<(ky p).length):∃b:UInt8,p.1[n]? =some b∧b.toNat=bt n p:=by
 rw[UX];refine⟨(ky p)[n],ag h,?_⟩;unfold bt hd;rw[List.drop_eq_getElem_cons h];rfl
theorem N8{M:Nat→Prop}{h:ae}{so:SliceV}{out:List (Option Addr)}{p:Option Addr}{K:SliceV→ae→Prop}(e:OwnS My 1 99 M h so out)(hM:∀b,h.size≤b→M b)(j:out.length+1≤1000000000)
  (g:∀s' c,OwnS My 1 99 M c s' (out++ [p])→Upd M h c→K s' c):
  ∃xs,SRow (hnew h [.pointer p] 99) (some (aJ h)) (1*1) xs∧AppP (some [.pointer none]) 1 8 99 so.a so.len so.cap 1 xs (hnew h [.pointer p] 99) K:=by
 have k:=Upd.hnew No h [.pointer p] 99;have i:OwnS My 1 99 (fun _=>True) (hnew h [.pointer p] 99) ⟨some (aJ h),1,1⟩ [p]:=⟨rfl,DB,ai _,.inr ⟨h.size,[],rfl,trivial,cO ..,rfl⟩⟩
 refine⟨_,(i.sl (W:=No) fun _ _ _ h=>h).srow,?_⟩
 refine AppP.own (ys:= [p]) (e.upd k fun _ _ h=>h) rfl rfl rfl rfl (by omega) (by simp only[aI];omega) (hM _ (by rw[eI];omega)) fun s' c d f=>?_
 exact g s' c d ((Upd.hnew M h _ _).tr f)
theorem JG{W:Nat→Prop}{h:ae}{s:SliceV}{ks:List (Option Addr)}{L:List Bn}(P:Sl My 1 No h s ks)(E:RxL W h ks L)(hn:L.length≤100000)(O:∀y,W y→y<h.size){c f:ByteArray}{d:Bool}{K:Option Addr→ae→Prop}
  (Y:∀j b,RxN W j b c (if d then some f else none) (.ofL L)→Upd No h j→K (some ⟨b,0,none⟩) j):fh 183 [.string c,.bool d,.string f,.slice s.a s.len s.cap] K h:=by
 refine eM (C6 c d f s) Mm Tryz.func183 Tryz.call183 ?_;dsimp only[C6,cg,dy,cf,ic,ji,iv,CT];refine bj fun h1 b1 k1=>?_
 have z1:=bc b1;have m:=P.len;have w:=E.1;refine Join.intro (fun _ j=>∃val,j[h.size]? =some (.cells (XU c d val ⟨none,0,0⟩ none) 294 (0,0))∧val=(if d then f else⟨#[]⟩)∧Upd No h j) (fun R B=>?_) ?_
 ·cases d with
  |true=>exact aV.2 ⟨_,rfl,nJ (i:=2) (c':=XU c true f ⟨none,0,0⟩ none) b1 (show 2<5 by decide) rfl fun h2 b2 F=>B _ _ ⟨_,b2,rfl,k1.own F (ai _)⟩⟩
  |false=>exact ay.2 (B _ _ ⟨_,b1,rfl,k1⟩)
 rintro _ h2 ⟨val,b2,u,X⟩;refine LoopP.ghost (fun(g:List (Option Addr)×List (Option Addr)) (t:Int) j=>t=(g.1.length:Int)∧ks=g.1++g.2∧(∃so,j[h.size]? =some (.cells (XU c d val so none) 294 (0,0))∧OwnS My 1 99 (fun y=>h.size<y) j so g.1)∧Upd No h j) (fun g=>g.2.length) ([],ks)
  ⟨rfl,rfl,⟨_,b2,OwnS.nil DB⟩,X⟩ ?_
 rintro I ⟨K1,C⟩ t h3 ⟨N,Q,⟨so,b3,n⟩,A⟩ hI;(try simp only at N Q n)
 subst N Q;simp only[af]at m w;have z3:=bc b3;refine ak (fun S=>?_) fun U=>?_
 ·rcases C with _|⟨p,C⟩
  ·simp only[aQ]at m;omega
  simp only[av]at m w;refine Join.intro (fun _ j=>(∃so,j[h.size]? =some (.cells (XU c d val so none) 294 (0,0))∧OwnS My 1 99 (fun y=>h.size<y) j so (K1++ [p]))∧Upd No h j) (fun R B=>?_) ?_
  ·obtain⟨kb,T,z,_⟩:=E.at (i:=K1.length) (by omega)
   have J:p=some ⟨kb,0,none⟩:=by
    rw[aH (ai _),di]at z;exact bX.inj z
   obtain⟨a,ha,_,hv⟩:=(P.upd A fun _ h=>h.elim).at0 (i:=K1.length) (x:=p) (by rw[aH (ai _),di];rfl)
   refine⟨⟨by omega,by omega⟩,a,ha,p,hv,?_⟩
   subst J;refine aV.2 ⟨_,rfl,so,vc b3 3,cP ?_⟩;refine N8 n (fun b hb=>by omega) (by omega) fun D V o q=>⟨_,rfl,?_⟩
   have G:=q.get b3 (by simp);refine nJ (i:=3) (c':=XU c d val D none) G (show 3<5 by decide) rfl fun h5 b5 v=>B _ _ ⟨⟨D,b5,o.upd v fun x hx e=>by have e:x=h.size:=e;omega⟩,?_⟩
   exact(A.trans q fun x hx=>.inr (Nat.le_of_lt hx)).own v (ai _)
  ·rintro _ V ⟨⟨D,G,o⟩,k4⟩
   have Z:ac .i64 ((K1.length:Int)+1)=((K1++ [p]).length:Int):=by rw[af,aI,dL (by omega)];omega
   rw[Z];exact hI (K1++ [p],C) _ _ ⟨rfl,by simp,⟨D,G,o⟩,k4⟩ (by simp)
 ·have hK:C= []:=ax.1 (by omega)
  subst hK;rw[bi]at E;refine Y h3 h.size ⟨val,so,none,K1,?_,?_,n.sl (fun x hx _ H=>by have:=O x H;omega),⟨n.cap,fun H=>by have:=O _ H;omega⟩,FT.2 (by rw[Fo.to_of];exact E.upd0 A)⟩ A
  ·cases d<;>exact b3
  ·rw[u];cases d<;>rfl
def Rg(B b:Nat):Prop:=∀{W:Nat→Prop} {h:ae} {s:SliceV} {l:List Pr} {pre:List UInt8},Sl fw 2 No h s l→s.len≤s.cap→Beg l pre→pre.length=b→(∀p∈l,(ky p).length≤B)→l.length≤100000→(∀y,W y→y<h.size)→∀{K:SliceV→ae→Prop},
 (∀h' s' ks L,OwnS My 1 99 (fun y=>h.size≤y) h' s' ks→RxL W h' ks L→Row L l [] pre→Upd No h h'→K s' h')→fU 184 [.slice s.a s.len s.cap,.int .i64 (b:Int)] K h
theorem P9{W:Nat→Prop}{B b:Nat}(hB:B≤1000000)(q:∀to,b<to→Rg B to){h:ae}{s:SliceV}{l r:List Pr}{f g:Pr}{j:List UInt8}(V:Sl fw 2 No h s l)(G:s.len≤s.cap)(bg:Beg l j)(J:j.length=b)(Y:∀p∈l,(ky p).length≤B)(hn:l.length≤100000)(hW:∀y,W y→y<h.size)
  (u:l=f::r)(hg:l.getLast? =some g)(hb:bt b f=bt b g){K:Option Addr→ae→Prop}
  (hk:∀w a n,Kid W w a n→To n→hd n.1=bt b f→(∀k v,X8 n k v↔XL l j k v)→Upd No h w→K a w):fh 222 [.slice s.a s.len s.cap,.int .i64 (b:Int)] K h:=by
 refine eM (zF s b) Im Tryz.func222 Tryz.call222 ?_;dsimp only[zF,Dw,iR,fG,Wi,FC,cg,ic,ji,yU,Oe];subst J;have I:=V.len;have hl0:0<l.length:=by rw[u];simp
 have hfm:f∈l:=by rw[u];exact aD ..
 have hgm:g∈l:=ir hg;obtain⟨a,z,_,o⟩:=V.at (i:=0) (x:=f) (by rw[u];rfl);obtain⟨a',T,_,hvg⟩:=V.at (i:=l.length-1) (x:=g) (by rw[←hg,List.getLast?_eq_getElem?]);rw[z]at T;cases T;have ew:ac .i64 ((s.len:Int)-1)=((l.length-1:Nat):Int):=by rw[dL (by omega)];omega
 refine⟨⟨by omega,by omega⟩,a,z,f.1,o 0 _ rfl,?_⟩
 rw[ew];have hsf:=Y f hfm;have hszf:f.1.size=(ky f).length:=(UM f.1).symm;refine⟨⟨by omega,by omega⟩,a,z,g.1,hvg 0 _ rfl,S2 (by omega) ?_⟩
 obtain⟨q1,q2,q3,q4,q5⟩:=Kw bg ⟨r,u⟩ hg hb;have U:= @P6 l (if(ky f).length=cm (ky f) (ky g)then l.drop 1 else l) j f g bg ⟨r,u⟩ hg hb
 obtain⟨to,Q⟩:∃to,cm (ky f) (ky g)=to:=⟨_,rfl⟩;rw[Q]at q1 q2 q3 q4 U;show _∧_
 change(_∧∃_,_∧_);have Z:cm f.1.data.toList g.1.data.toList=to:=Q;rw[Z];refine⟨⟨by omega,by omega⟩,a,z,f.1,o 0 _ rfl,⟨by omega,by omega⟩,⟨by omega,by rw[bQ];omega⟩,⟨by omega,by omega⟩,a,z,f.1,o 0 _ rfl,?_⟩
 have O:((f.1.size:Int)==(to:Int))=decide ((ky f).length=to):=by
  rw[fy,beq_iff_eq,decide_eq_true_iff];omega
 rw[O];have S:(f.1.extract (j.length:Int).toNat (to:Int).toNat).data.toList=((ky f).take to).drop j.length:=U9 ..;have E:((ky f).take to).length=to:=by rw[aL];omega
 refine Join.intro (fun(t:SliceV×ByteArray) w=>w=h∧Sl fw 2 No h t.1 (if(ky f).length=to then l.drop 1 else l)∧t.1.len≤t.1.cap∧((ky f).length=to→t.2=f.2)) (fun R hR=>?_) ?_
 ·refine ak (fun e=>?_) fun e=>?_
  ·refine⟨⟨by omega,by omega⟩,a,z,f.2,o 1 _ rfl,⟨by omega,by omega⟩,hR _ _ ⟨rfl,?_,by(try simp only);omega,fun _=>rfl⟩⟩
   rw[if_pos e];have:=Sl.sub V (l:=1) (hi:=l.length) (m:=s.cap) (c:=s.cap-1) (by omega) (ai _) (by omega);rw[bL (by rw[aW];omega),←I]at this;exact this
  ·exact hR _ _ ⟨rfl,by rw[if_neg e];exact V,G,fun h=>absurd h e⟩
 rintro⟨s2,v2⟩ w ⟨rfl,H,hc2,P⟩;(try simp only at H hc2 P)
 have d:(if(ky f).length=to then l.drop 1 else l).Sublist l:=by
  split
  ·exact List.drop_sublist ..
  ·exact List.Sublist.refl _
 have hbeg:Beg (if(ky f).length=to then l.drop 1 else l) ((ky f).take to):=by
  refine⟨bg.up.sublist d,fun p A=>?_⟩
  rw[E];refine⟨q3 p (d.subset A),?_⟩;rcases q4 p (d.subset A)with e|h
  ·subst e
   by_cases e2:(ky p).length=to
   ·rw[if_pos e2,u]at A
    have:=(bF.1 (u▸bg.up)).1 p A;exact absurd this (dS _)
   ·omega
  ·exact h
 refine q to q1 H hc2 hbeg E (fun p A=>Y p (d.subset A)) (co d.length_le hn) hW fun h3 s3 ks L ho3 hL3 C X=>?_
 obtain⟨D,hgF⟩:=C.done;obtain⟨hcn,hhd,hin⟩:=U (F:=.ofL L) D rfl hgF rfl rfl;have hLl:L.length≤100000:=by
  have:=LU D;rw[Fo.to_of]at this;omega
 refine JG (W:=W) (ho3.sl fun _ _ _ h=>h) hL3 hLl (fun y hy=>aC (hW y hy) X.size) fun h4 b4 N hu4=>?_
 have ew2:(if decide ((ky f).length=to)=true then some v2 else none)=if(ky f).length=to then some f.2 else none:=by
  by_cases e:(ky f).length=to
  ·rw[if_pos (decide_eq_true e),if_pos e,P e]
  ·rw[if_neg (by simpa using e),if_neg e]
 rw[ew2]at N;exact hk h4 _ _ ⟨b4,_,rfl,S,N⟩ hcn hhd hin (X.tr hu4)
theorem Kg{B j:Nat}(hB:B≤1000000)(Y:j≤B→∀to,j<to→Rg B to):Rg B j:=by
 intro W h s l d hs hcap bg hpre hlB hn hW K hk;refine eM (Df s j) Mv Tryz.func184 Tryz.call184 ?_;dsimp only[Df,fG,pq,pQ,Bs,xx,Oe,yU,ji];refine bj fun h1 b1 k1=>?_
 subst hpre;refine LoopP.ghost (fun(g:List Pr×List Pr×List (Option Addr)×List Bn×(Nat→Prop)) (t:SliceV×SliceV) O=>l=g.1++g.2.1∧Sl fw 2 (fun y=>h.size≤y) O t.1 g.2.1∧t.1.len≤t.1.cap∧OwnS My 1 99 g.2.2.2.2 O t.2 g.2.2.1∧(∀y,g.2.2.2.2 y→h1.size≤y∧y<O.size)∧RxL (fun y=>W y∨g.2.2.2.2 y) O g.2.2.1 g.2.2.2.1∧Row g.2.2.2.1 g.1 g.2.1 d∧Upd No h1 O) (fun g=>g.2.1.length) ([],l,[],[],No)
  ⟨rfl,(hs.less (W':=fun y=>h.size≤y) fun y f=>.inr f).upd k1 fun _ h=>h.elim,hcap,OwnS.nil DB,fun y f=>f.elim,⟨rfl,fun p hp=>(by cases hp)⟩,Row.nil _ _,Upd.refl _ _⟩ ?_
 rintro I ⟨D,T,ks,L,Mo⟩ ⟨N,so⟩ h4 ⟨e1,C,hcT,ho,E,hL,u,hu⟩ hI;(try simp only at e1 C hcT ho E hL u)
 subst e1;have hlT:=C.len;simp only[af]at hn;have P:Beg T d:=bg.sub (nF D T);have k04:=k1.tr hu;refine ak (fun hgt=>?_) fun hle=>?_
 ·rcases T with _|⟨p,T⟩
  ·simp only[aQ]at hlT;(try simp only at hgt);omega
  simp only[av]at hlT hn;have hpl:=(P.at_ p (aD ..)).2;obtain⟨b8,hb8,hb8e⟩:=Vz hpl;obtain⟨a,ha,_,hv⟩:=C.at (i:=0) (x:=p) rfl;have c4:=hu.get0 b1;refine⟨⟨by omega,by(try simp only);omega⟩,a,ha,p.1,hv 0 _ rfl,_,Ip c4,b8,by omega,hb8,?_⟩
  refine bj fun X b9 k9=>?_
  have c9:=k9.get0 c4;obtain⟨a',ha',_,hv9⟩:=(C.upd k9 fun _ h=>h.elim).at (i:=0) (x:=p) rfl
  rw[ha]at ha';cases ha';refine⟨Ip c9,hv9 0 _ rfl,F5 b9 mO fun h10 b10 hu10=>?_⟩
  have J:Upd No h4 h10:=k9.own hu10 (ai _);have c10:=J.get0 c4;refine SK (C.upd J fun _ h=>h.elim) (by simp only[av];omega) (g:=fun q=>decide (bt d.length q≠bt d.length p)) (fun q hq O K' z hK=>?_) fun h11 A Bt e H hA hBn Q S=>?_
  ·refine HV.mk' (eM (zE q ⟨h.size,0,none⟩ ⟨h4.size,0,none⟩) .nil Tryz.func221 Tryz.call221 ?_)
   dsimp only[zE,cE,xj,Bs,xx];refine bj fun o b12 k12=>?_
   have k':=z.tr k12;obtain⟨bq,hbq,hbqe⟩:=Vz (P.at_ q hq).2;refine⟨q.1,vc b12 0,_,Ip (k'.get0 c10),bq,by omega,hbq,_,Ip (k'.get0 b10),?_⟩
   have eb:((bq.toNat:Int) !=(b8.toNat:Int))=decide (bt d.length q≠bt d.length p):=by
    rw[fy,bne_iff_ne,decide_eq_true_iff];omega
   rw[eb];exact hK o k12
  obtain⟨A',rfl⟩:∃A',A=p::A':=by
   rcases A with _|⟨a0,A'⟩
   ·have:=(Q p T (by rw[bZ]at H;exact H.symm)).2
    simp at this
   ·rw[dF]at H
    exact⟨A',by rw[(kQ.inj H).1]⟩
  have hcA:∀q∈p::A',bt d.length q=bt d.length p:=fun q hq=>by simpa using hA q hq
  have G:p::T=(p::A')++Bt:=H;have hTl:T.length=A'.length+Bt.length:=by
   have:=congrArg eO G;simp only[av,af]at this;omega
  have w:=J.tr S;have k111:=hu.tr w;have c11:=S.get0 c10;refine Join.intro (fun t O=>t=((A'.length+1:Nat):Int)∧O=h11) (fun R1 R=>?_) ?_
  ·refine ak (fun hneg=>R _ _ ⟨?_,rfl⟩) fun hpos=>R _ _ ⟨?_,rfl⟩
   ·rcases Bt with _|⟨b0,B'⟩
    ·have hTl:T.length=A'.length+0:=hTl
     show((N.len:Nat):Int)=_
     omega
    ·have:=(Q b0 B' rfl).1
     simp only[av]at this;omega
   ·rcases Bt with _|⟨b0,B'⟩
    ·have:=hBn rfl;omega
    ·have:=(Q b0 B' rfl).1
     simp only[av]at this;exact this
  rintro t O ⟨rfl,rfl⟩;refine Join.intro (fun t X=>∃ka n Mp,OwnS My 1 99 Mp X t (ks++ [ka])∧(∀y,Mp y→h1.size≤y∧y<X.size)∧RxL (fun y=>W y∨Mp y) X (ks++ [ka]) (L++ [n])∧To n∧hd n.1=bt d.length p∧(∀k v,X8 n k v↔XL (p::A') d k v)∧Upd No h1 X∧Sl fw 2 (fun y=>h.size≤y) X N (p::T)) (fun R1 R=>?_) ?_
  ·refine⟨⟨by omega,by show((A'.length+1:Nat):Int)≤((N.cap:Nat):Int);omega⟩,_,Ip c11,?_⟩
   have hsA:=Sl.sub (C.upd w fun _ h=>h.elim) (l:=0) (hi:=A'.length+1) (m:=N.cap) (c:=N.cap-0) (aY _) (by simp only[av];omega) (by omega)
   have etk:((p::T).drop 0).take (A'.length+1-0)=p::A':=by
    rw[dJ,ec,G];exact List.take_left' (by simp)
   rw[etk]at hsA;obtain⟨g,hg⟩:∃g,(p::A').getLast? =some g:=⟨_,List.getLast?_eq_some_getLast (by simp)⟩;have hgm:g∈p::A':=ir hg;have U:(p::A').Sublist (D++p::T):=by
    rw[G];exact(List.sublist_append_left _ _).trans (nF D _)
   refine P9 hB (Y (by have:=hlB p (by simp);omega)) (hsA.less fun _ h=>h.elim) (by show A'.length+1-0≤N.cap-0;omega) (bg.sub U) rfl (fun q hq=>hlB q (U.subset hq)) (by simp only[av];omega) (W:=fun y=>W y∨Mo y) (fun y f=>f.elim (fun f=>aC (hW y f) (k04.tr w).size) fun f=>aC (E y f).2 w.size) rfl hg (hcA g hgm).symm fun o ka n kd hcn hhd hin hu12=>cP ?_
   have z:=w.tr hu12;have z':=(hu.tr z).size;have hLn:L.length≤256:=by
    rcases DF (c:=0) u.up fun _ _=>aY _ with e|e
    ·rw[e];simp
    ·omega
   have hkl:=hL.1;have z12:=z.size;refine N8 (M:=fun y=>Mo y∨o.size≤y) ((ho.upd z fun _ _ h=>h).more fun y f=>.inl f) (fun b hb=>.inr hb) (by omega) fun s13 Z ho13 F=>R _ _ ⟨ka,n,fun y=>(Mo y∨o.size≤y)∧y<Z.size,ho13.within,fun y f=>⟨?_,f.2⟩,?_,hcn,hhd,hin,?_,?_⟩
   ·rcases f.1 with h|h
    ·exact(E y h).1
    ·omega
   ·have hl:∀b,(W b∨((Mo b∨o.size≤b)∧b<Z.size))→(W b∨Mo b)∨o.size≤b:=fun b hb=>by
     rcases hb with h|⟨h|h,_⟩
     ·exact .inl (.inl h)
     ·exact .inl (.inr h)
     ·exact .inr h
    have hm:∀b,(Mo b∨o.size≤b)→(W b∨((Mo b∨o.size≤b)∧b<Z.size))∨o.size≤b:=fun b hb=>by
     rcases hb with h|h
     ·exact .inl (.inr ⟨.inl h,by have:=(E b h).2;have:=F.size;omega⟩)
     ·exact .inr h
    exact(((hL.upd0 z).app (RxL.one kd)).less hl).updM F hm
   ·exact(hu.tr z).trans F fun y f=>.inr (by
     rcases f with h|h
     ·exact(E y h).1
     ·omega)
   ·refine(C.upd z fun _ h=>h.elim).upd F fun b hb=>.inl ?_
    have:=k1.size;rcases hb with h|h
    ·have:=(E b h).1;omega
    ·omega
  ·rintro s9 X ⟨ka,n,Mp,ho9,hMp,hL9,hcn,hhd,hin,hu9,hsT9⟩
   refine⟨⟨by omega,by show((A'.length+1:Nat):Int)≤((N.len:Nat):Int);omega⟩,?_⟩
   rw[bQ];have V:=Sl.sub hsT9 (l:=A'.length+1) (hi:=(p::T).length) (m:=N.cap) (c:=N.cap-(A'.length+1)) (by simp only[av];omega) (ai _) (by simp only[av];omega);have edr:((p::T).drop (A'.length+1)).take ((p::T).length-(A'.length+1))=Bt:=by
    rw[G,List.drop_left' (by simp)];exact bL (by simp)
   rw[edr]at V;have elen:(p::T).length-(A'.length+1)=N.len-(A'.length+1):=by simp only[av];omega
   rw[elen]at V;have hr':Row (L++ [n]) (D++(p::A')) Bt d:=by
    rw[G]at u P;exact u.more P (aD ..) hcA (fun b B' e=>by simpa using(Q b B' e).2) hcn hhd hin
   refine hI (D++(p::A'),Bt,ks++ [ka],L++ [n],Mp) _ _ ⟨by rw[G,aw],V,by(try simp only);omega,ho9,hMp,hL9,hr',hu9⟩ ?_
   simp only[av];omega
 ·have hT:T= []:=ax.1 (by(try simp only at hle);omega)
  subst hT;rw[bi]at hk;exact hk h4 so ks L (ho.more fun y f=>co k1.size (E y f).1) (hL.less fun y f=>.inl (.inl f)) u k04
end Go.Proofs
namespace Go.Proofs
open Go Go.Lift
theorem ND{B:Nat}(b:B≤1000000):∀(n from_:Nat),B<from_+n→Rg B from_
 |0,_,h=>Kg b fun d=>by omega
 |n+1,from_,h=>Kg b fun _ to c=>ND b n to (by omega)
theorem WB{l:List Pr}{p:Pr}(h:p∈rp l):p∈l:=wn (FZ.1 h)
theorem So{N:Nat}(st:StP N)(hN:N≤100000){W W0:Nat→Prop}{h:ae}{s:SliceV}{l:List Pr}(hs:Sl fw 2 W0 h s l)(hW:∀y,W y→y<h.size)(hn:l.length≤N)(hB:∀p∈l,p.1.size≤1000000){K:Option Addr→ae→Prop}
  (hk:∀u b,RadAt W u b (rp l)→Upd No h u→K (some ⟨b,0,none⟩) u):fh 145 [.slice s.a s.len s.cap] K h:=by
 refine eM (AP s) Jx Tryz.func145 Tryz.call145 ?_;dsimp only[AP,Dw,fG,Wi,yU,ji,Oe];refine AY st (by omega) (W':=No) hs (fun _ h=>h.elim) (by omega) fun e h2 j T S=>?_
 have hln:=QG l;have o:=vY l;have Z:∀p∈rp l,(ky p).length≤1000000:=fun p hp=>by have:=hB p (WB hp);rw[show(ky p).length=p.1.size from UM p.1];exact this
 generalize rp l=L at*;have g:=j.len;refine Join.intro (fun(t:ByteArray×Bool) u=>u=h2∧(t.2=true↔∃p r,L=p::r∧ky p= [])) (fun R F=>?_) ?_
 ·refine ak (fun hgt=>?_) fun hle=>F _ _ ⟨rfl,⟨fun h=>(by cases h),fun⟨p,r,e,_⟩=>(by subst e;simp only[av]at g;omega)⟩⟩
  rcases L with _|⟨p,r⟩
  ·simp only[aQ]at g;omega
  obtain⟨a,Y,_,hv⟩:=j.at (i:=0) (x:=p) rfl;refine⟨⟨by omega,by omega⟩,a,Y,p.1,hv 0 _ rfl,F _ _ ⟨rfl,?_⟩⟩
  (try simp only)
  rw[N4,decide_eq_true_iff];constructor
  ·intro e;exact⟨p,r,rfl,by unfold ky;rw[e]⟩
  ·rintro⟨p',r',e,z⟩
   cases e;exact Hz.1 z
 rintro⟨v6,H⟩ u ⟨rfl,n⟩;(try simp only at n)
 refine Join.intro (fun(t:SliceV×ByteArray) h3=>h3=u∧∃A,Sl fw 2 No u t.1 A∧t.1.len≤t.1.cap∧Beg A []∧(∀p∈A,p∈L)∧A.length≤L.length∧∀k v,((k= []∧(if H then some t.2 else none)=some v)∨XL A [] k v)↔∃p∈L,p.1.data.toList=k∧p.2=v) (fun R F=>?_) ?_
 ·cases H with
  |true=>
   obtain⟨p,r,rfl,O⟩:=n.1 rfl;obtain⟨a,Y,_,hv⟩:=j.at (i:=0) (x:=p) rfl;simp only[av]at g;refine aV.2 ⟨⟨by omega,by omega⟩,a,Y,p.2,hv 1 _ rfl,⟨by omega,by omega⟩,F _ _ ⟨rfl,r,?_,by(try simp only);omega,⟨(bF.1 o).2,fun q d=>⟨rfl,?_⟩⟩,fun q d=>aA _ d,by simp,fun k v=>?_⟩⟩
   ·have:=Sl.sub j (l:=1) (hi:=(p::r).length) (m:=e.cap) (c:=e.cap-1) (by simp) (ai _) (by simp only[av];omega)
    rw[List.drop_one,List.tail_cons,bL (by simp)]at this;have z:(p::r).length-1=e.len-1:=by simp only[av];omega
    rw[z]at this;exact this
   ·have f:=zV.1 ((bF.1 o).1 q d)
    refine kE.2 fun z=>?_
    change bH (ky p) (ky q)=true at f;rw[z,LX]at f;cases f
   ·simp only[if_true]
    constructor
    ·rintro(⟨rfl,h⟩|⟨q,d,f,h2⟩)
     ·exact⟨p,aD ..,O,bX.inj h⟩
     ·exact⟨q,aA _ d,f,h2⟩
    ·rintro⟨q,d,f,h2⟩
     rcases ar.1 d with rfl|d
     ·exact .inl ⟨by rw[←f];exact O,by rw[h2]⟩
     ·exact .inr ⟨q,d,f,h2⟩
  |false=>
   have hno:∀p r,L=p::r→ky p≠[]:=fun p r e O=>by have:=n.2 ⟨p,r,e,O⟩;cases this
   refine ay.2 (F _ _ ⟨rfl,L,j,T,⟨o,fun q d=>⟨rfl,?_⟩⟩,fun q d=>d,ai _,fun k v=>?_⟩)
   ·refine kE.2 fun z=>?_
    rcases L with _|⟨p,r⟩
    ·cases d
    rcases ar.1 d with rfl|d
    ·exact hno _ _ rfl z
    ·have f:=zV.1 ((bF.1 o).1 q d)
     change bH (ky p) (ky q)=true at f;rw[z,LX]at f;cases f
   ·simp only[bS,if_false]
    constructor
    ·rintro(⟨_,h⟩|⟨q,d,f,h2⟩)
     ·cases h
     ·exact⟨q,d,f,h2⟩
    ·rintro⟨q,d,f,h2⟩
     exact .inr ⟨q,d,f,h2⟩
 rintro⟨s3,v3⟩ h3 ⟨rfl,A,C,I,P,J,hll,w⟩;(try simp only at C I w)
 refine ND (B:=1000000) (ai _) 1000001 0 (by omega) (W:=W) C I P rfl (fun p hp=>Z p (J p hp)) (by omega) (fun y hy=>aC (hW y hy) S.size) fun h4 s4 ks Lb ho4 U D G=>?_
 obtain⟨E,V⟩:=D.done;have hLl:Lb.length≤100000:=by
  have:=LU E;rw[Fo.to_of]at this;omega
 refine JG (W:=W) (ho4.sl fun _ _ _ h=>h) U hLl (fun y hy=>aC (hW y hy) (S.tr G).size) fun h5 b5 Q X=>?_
 refine hk h5 b5 ⟨_,_,Q,E,fun k v=>?_⟩ ((S.tr G).tr X)
 rw[Ct];unfold Zi;rw[V,w]
theorem GR{h:ae}{t:Tr}{k:ae→Prop}(e:∀h',h'[h.size]? =some (.cells (kA t).toArray 101 (0,0))→Upd No h h'→k h'):
  At (hnew h (kA qG) 101) (fun d=>xw d (some (aJ h)) 0 (kA t)∧At (iw d (aJ h) 0 (kA t)) k):=
 bj fun _ b1 k1=>dt (c:=kA qG) (vs:=kA t) b1 rfl fun h2 b2 b=>e h2 b2 (k1.own b (ai _))
theorem IQ{N:Nat}(st:StP N)(S:StH N)(Y:N≤100000){W W0:Nat→Prop}{x:Hs}{h:ae}{s:SliceV}{l:List Pr}(C:Sl fw 2 W0 h s l)(X:∀y,W y→y<h.size)(hn:l.length≤N)(hB:∀p∈l,p.1.size≤256∧p.2.size≤4096){K:Tr×Int→ae→Prop}
  (U:∀o t,TreeIs W o 0 x t (rp l)→Upd No h o→K (t,0) o):yl 119 [.int .i64 0,.agg #[.int .u64 x.k0,.int .u64 x.k1,.int .u64 x.mask],.slice s.a s.len s.cap] K h:=by
 refine sN 0 (x.k0,x.k1,x.mask) s ?_;dsimp only[pC,au,eP,nv,BR,EL,ja,iR,js,jP,uN,aR,aG,j5,cE,sM,ic,ji,CS,fG,pR];refine bj fun J b1 k1=>bj fun h2 b2 E=>?_
 have z1:=bc b1;have z2:=bc b2;have s1:h.size≤J.size:=k1.size;have c1:=E.get0 b1;have v:=k1.tr E;refine⟨_,vc c1 0,_,vc c1 1,_,vc c1 2,?_⟩;refine FS (W:=No) (x:=x) (fun _ h=>h.elim) (.inl rfl) fun h3 T _ O=>?_
 refine GR (t:=T) fun Q b4 V=>?_
 refine ay.2 ?_;have d:=O.tr V;have A:=v.tr d;have F:=C.len;refine LoopP.ghost (fun(i:Nat) (t:Int) o=>t=(i:Int)∧i≤l.length∧Upd No Q o) (fun i=>l.length-i) 0 ⟨rfl,aY _,Upd.refl _ _⟩ ?_
 rintro I i t h5 ⟨rfl,hi,q⟩ hI;have f:=A.tr q;refine ak (fun b=>?_) fun P=>?_
 ·have b:i<l.length:=by omega
  obtain⟨a,Z,_,hv⟩:=(C.upd f fun _ h=>h.elim).at (ag b)
  have L:=hB _ (bR b);refine⟨⟨by omega,by omega⟩,a,Z,l[i].1,hv 0 _ rfl,l[i].2,hv 1 _ rfl,?_⟩
  refine DS (p:=l[i]) fun h6 w j=>⟨_,vc w 0,_,vc w 1,JV L.1 L.2 (ay.2 ?_)⟩
  rw[tc b (by omega)];exact hI (i+1) _ _ ⟨rfl,b,q.tr j⟩ (by omega)
 ·have D:=Pro.lt (h2:=h2) X v
  have e:∀y,Pro W h h2 y→y<h5.size:=fun y m=>aC (D y m) (d.tr q).size
  have d2:=(d.tr q).get0 b2;have g:=(d.tr q).get0 c1;refine ay.2 ⟨_,vc g 0,_,vc g 1,_,vc g 2,_,vc g 0,_,vc g 1,_,vc g 2,?_⟩;refine S8 st S Y (z:=x) (C.upd f fun _ h=>h.elim) e hn fun h6 w t6 j=>?_
  have B:=j.get0 g;refine⟨⟨vc B 0,vc B 1,vc B 2⟩,?_⟩;refine Ey (x:=x) (.inr ⟨w,rfl,t6⟩) (fun y m=>aC (e y m) j.size) fun h7 H i7 G=>?_
  refine dt (c:=kA qG) (vs:=kA H) (G.get0 (j.get0 d2)) rfl fun R n u=>?_
  refine⟨_,vc n 0,_,vc n 1,_,vc n 2,_,vc n 3,_,vc n 4,_,vc n 5,?_⟩;exact U R H ((i7.updM u (fun y m=>.inl (.inr (by have m:y=J.size:=m;omega)))).less Pro.sub) (((f.tr j).tr G).own u s1)
theorem IP{N:Nat}(st:StP N)(U:N≤100000){W W0:Nat→Prop}{x:Hs}{h:ae}{s:SliceV}{l:List Pr}(z:Sl fw 2 W0 h s l)(T:∀y,W y→y<h.size)(Z:l.length≤N)(F:∀p∈l,p.1.size≤256∧p.2.size≤4096){K:Tr×Int→ae→Prop}
  (R:∀m t,TreeIs W m 1 x t (rp l)→Upd No h m→K (t,0) m):yl 119 [.int .i64 1,.agg #[.int .u64 x.k0,.int .u64 x.k1,.int .u64 x.mask],.slice s.a s.len s.cap] K h:=by
 refine sN 1 (x.k0,x.k1,x.mask) s ?_;dsimp only[pC,au,eP,nv,BR,EL,ja,iR,js,jP,uN,aR,aG,j5,cE,sM,ic,ji,CS,fG,pR];refine bj fun G b1 k1=>bj fun h2 b2 B=>?_
 have z1:=bc b1;have z2:=bc b2;have s1:h.size≤G.size:=k1.size;have c1:=B.get0 b1;have u:=k1.tr B;refine⟨_,vc c1 0,_,vc c1 1,_,vc c1 2,?_⟩;refine FS (W:=No) (x:=x) (fun _ h=>h.elim) (.inr rfl) fun h3 Q _ J=>?_
 refine GR (t:=Q) fun O b4 S=>?_
 refine ay.2 ?_;have d:=J.tr S;have w:=u.tr d;have C:=z.len;refine LoopP.ghost (fun(i:Nat) (t:Int) m=>t=(i:Int)∧i≤l.length∧Upd No O m) (fun i=>l.length-i) 0 ⟨rfl,aY _,Upd.refl _ _⟩ ?_
 rintro I i t h5 ⟨rfl,hi,n⟩ X;have f:=w.tr n;refine ak (fun b=>?_) fun L=>?_
 ·have b:i<l.length:=by omega
  obtain⟨a,V,_,hv⟩:=(z.upd f fun _ h=>h.elim).at (ag b)
  have H:=F _ (bR b);refine⟨⟨by omega,by omega⟩,a,V,l[i].1,hv 0 _ rfl,l[i].2,hv 1 _ rfl,?_⟩
  refine DS (p:=l[i]) fun h6 v o=>⟨_,vc v 0,_,vc v 1,JV H.1 H.2 (ay.2 ?_)⟩
  rw[tc b (by omega)];exact X (i+1) _ _ ⟨rfl,b,n.tr o⟩ (by omega)
 ·have A:=Pro.lt (h2:=h2) T u
  have e:∀y,Pro W h h2 y→y<h5.size:=fun y g=>aC (A y g) (d.tr n).size
  have Y:=(d.tr n).get0 b2;have d1:=(d.tr n).get0 c1;refine aV.2 (So st U (z.upd f fun _ h=>h.elim) e Z (fun p hp=>by have:=(F p hp).1;omega) fun h6 v t6 o=>?_)
  refine Ew (x:=x) (.inr ⟨v,rfl,t6⟩) (fun y g=>aC (e y g) o.size) fun h7 E i7 D=>?_
  refine dt (c:=kA qG) (vs:=kA E) (D.get0 (o.get0 Y)) rfl fun P j q=>?_
  refine⟨_,vc j 0,_,vc j 1,_,vc j 2,_,vc j 3,_,vc j 4,_,vc j 5,?_⟩;exact R P E ((i7.updM q (fun y g=>.inl (.inr (by have g:y=G.size:=g;omega)))).less Pro.sub) (((f.tr o).tr D).own q s1)
theorem LV{W i:Nat→Prop}{x:Hs}{h:ae}{s:SliceV}{l:List Pr}(f:Sl fw 2 i h s l)(g:∀y,W y→y<h.size)(e:l.length≤100000)(c:∀p∈l,p.1.size≤256∧p.2.size≤4096){kind:Int}(b:kind=0∨kind=1){K:Tr×Int→ae→Prop}
  (d:∀h' t,TreeIs W h' kind x t (rp l)→Upd No h h'→K (t,0) h'):yl 119 [.int .i64 kind,.agg #[.int .u64 x.k0,.int .u64 x.k1,.int .u64 x.mask],.slice s.a s.len s.cap] K h:=by
 rcases b with rfl|rfl
 ·exact IQ (stP.less (by omega)) (stH.less (by omega)) (ai _) f g e c d
 ·exact IP (stP.less (by omega)) (ai _) f g e c d
end Go.Proofs
namespace Go.Proofs
open Go Go.Lift
theorem Gw{W:Nat→Prop}{h:ae}{b:Nat}{sl:ByteArray}{w:Option ByteArray}{F:Fo}(r:RxN W h b sl w F){K:ByteArray→ae→Prop}(d:K sl h):ym 192 [gF b] K h:=by
 refine BB _ ?_;dsimp only[tW,fG,dq];obtain⟨val,s,e,ks,c,_⟩:=r;exact ay.2 ⟨_,rfl,sl,QI (i:=0) c,d⟩
theorem O4{W:Nat→Prop}{h:ae}{b:Nat}{sl:ByteArray}{w:Option ByteArray}{F:Fo}(r:RxN W h b sl w F){K:ByteArray×Bool→ae→Prop}(d:∀v,(∀u,w=some u→v=u)→K (v,w.isSome) h):YI 193 [gF b] K h:=by
 refine BA _ ?_;dsimp only[tV,jI,fG,dq];obtain⟨val,s,e,ks,c,hv,_⟩:=r;exact ay.2 ⟨_,rfl,val,QI (i:=2) c,_,rfl,w.isSome,QI (i:=1) c,d val (vw hv)⟩
theorem Sb{W:Nat→Prop}{h:ae}{b:Nat}{sl:ByteArray}{w:Option ByteArray}{F:Fo}(r:RxN W h b sl w F)(o:F.toL.length≤256){K:SliceV→ae→Prop}(g:∀s' c ks,OwnS My 1 99 (fun y=>h.size≤y) c s' ks→RxL W c ks F.toL→Upd No h c→K s' c):fU 237 [gF b] K h:=by
 refine CX _ ?_;dsimp only[uX,cf,dq];obtain⟨val,s,p,ks,m,hv,n,_,j⟩:=r;have e:=FT.1 j;refine ay.2 ⟨_,rfl,s,QI (i:=3) m,?_⟩;refine S6 n (by rw[e.1];omega) fun s' c f d=>g s' c ks f (e.upd0 d) d
theorem Ny(x:List UInt8):bH x []=false:=by cases x<;>rfl
theorem Np:(⟨#[]⟩:ByteArray).toList= []:=by rw[ByteArray.toList_eq]
theorem WV{k:ByteArray}{h:ae}{K:Bool→ae→Prop}(d:∀b,Upd No h b→K false b):f5 236 [.agg #[.string ⟨#[]⟩,.string ⟨#[]⟩,.bool true],.string k] K h:=by
 refine eM (wJ (⟨#[]⟩,⟨#[]⟩,true) k) Em Tryz.func236 Tryz.call236 ?_;unfold wJ jO cE iR IB;refine bj fun e b1 k1=>?_
 refine Join.intro (fun t b=>t=false∧b=e) (fun R c=>⟨true,vc b1 2,ay.2 (c _ _ ⟨rfl,rfl⟩)⟩) ?_
 rintro t b ⟨rfl,rfl⟩;refine ay.2 ⟨_,vc b1 0,?_⟩;rw[Np,Ny];exact ay.2 (d b k1)
theorem NQ{k:ByteArray}{h:ae}{K:Bool→ae→Prop}(b:∀h',Upd No h h'→K true h'):f5 194 [.agg #[.string ⟨#[]⟩,.string ⟨#[]⟩,.bool true],.string k] K h:=by
 refine eM (xU (⟨#[]⟩,⟨#[]⟩,true) k) .nil Tryz.func194 Tryz.call194 ?_;unfold xU jO cE IB;refine bj fun c b1 k1=>⟨_,vc b1 0,?_⟩
 rw[Np,Ny];exact aV.2 ⟨true,vc b1 2,aV.2 (b c k1)⟩
def It.Ok(W:Nat→Prop)(h:ae)(i:It):Prop:=RxN W h i.b i.sl i.w i.F∧wW i.F∧i.key.length≤10000∧∀p∈DP i.w i.F,i.key.length+p.1.length≤10000
theorem It.Ok.updM{W M:Nat→Prop}{h c:ae}(k:Upd M h c)(hm:∀b,M b→W b∨h.size≤b){i:It}(o:It.Ok W h i):It.Ok W c i:=⟨o.1.updM k hm,o.2⟩
theorem QX{W:Nat→Prop}{h:ae}(ah:ByteArray):∀{ks:List (Option Addr)} {L:List Bn},RxL W h ks L→∃its:List It,its.map It.raw=ks.map (fun k=>(k,ah,false))∧its.map (fun i=>(i.sl.data.toList,i.w,i.F))=L∧∀i∈its,i.ah=ah∧i.own=false∧RxN W h i.b i.sl i.w i.F
 | [],[],_=>⟨[],rfl,rfl,by simp⟩
 | [],_::_,r=>absurd r.1 (by simp)
 |_::_,[],r=>absurd r.1 (by simp)
 |k::ks,n::L,r=>by
  obtain⟨its,g,h2,f⟩:=QX ah (ks:=ks) (L:=L) ⟨by simpa using r.1,fun p j=>r.2 p (by rw[ll];exact aA _ j)⟩
  obtain⟨b,sl,e,c,d⟩:=r.2 (k,n) (by rw[ll];exact aD ..);simp only at e c d;refine⟨⟨b,ah,false,sl,n.2.1,n.2.2⟩::its,?_,?_,?_⟩
  ·rw[bJ,bJ,g,e];rfl
  ·rw[bJ,h2];simp only[c]
  ·intro i hi
   rcases ar.1 hi with rfl|hi
   ·exact⟨rfl,rfl,d⟩
   ·exact f i hi
theorem Sy(d:List UInt8)(w:Option ByteArray)(b c:Fo):Ba (.cons d w b c)=((w.map fun v=>(([]:List UInt8),v)).toList++Ba b).map (fun p=>(d++p.1,p.2))++Ba c:=rfl
theorem S3(d:List UInt8)(w:Option ByteArray)(b c:Fo):Ht (.cons d w b c)=1+Ht b+Ht c:=rfl
theorem Nd{ah:ByteArray}{key:List UInt8}(b:ah.data.toList=key):∀{F:Fo} {its:List It},its.map (fun i=>(i.sl.data.toList,i.w,i.F))=F.toL→(∀i∈its,i.ah=ah∧i.own=false)→its.flatMap It.prs=(Ba F).map fun p=>(key++p.1,p.2)
 | .nil,its,h,_=>by
  have:its= []:=by simpa[Fo.toL]using h
  rw[this];rfl
 | .cons lab w kids rest,[],h,_=>by simp[Fo.toL]at h
 | .cons lab w kids rest,i::its,h,ha=>by
  rw[Fo.toL_cons,bJ,kQ.injEq]at h;obtain⟨c,h2⟩:=h;simp only[ou.injEq]at c;obtain⟨n,f,g⟩:=c;rw[List.flatMap_cons,Nd b h2 fun j e=>ha j (aA _ e)]
  obtain⟨d,m⟩:=ha i (aD ..);rw[Sy,cj,List.map_map];congr 1
  unfold It.prs It.key DP;rw[m,d,b,n,f,g];simp only[bS,if_false,aw,cj,Function.comp_def]
theorem N0:∀{F:Fo} {its:List It},its.map (fun i=>(i.sl.data.toList,i.w,i.F))=F.toL→(∀i∈its,i.own=false)→kY its=2*Ht F
 | .nil,its,h,_=>by
  have:its= []:=by simpa[Fo.toL]using h
  rw[this];rfl
 | .cons lab w kids rest,[],h,_=>by simp[Fo.toL]at h
 | .cons lab w kids rest,i::its,h,ha=>by
  rw[Fo.toL_cons,bJ,kQ.injEq]at h;obtain⟨b,h2⟩:=h;simp only[ou.injEq]at b;have e:=N0 h2 fun j c=>ha j (aA _ c)
  unfold kY at e⊢;rw[bJ,qx,e];rw[S3];unfold It.cost;rw[ha i (aD ..),b.2.2];simp only[bS,if_false];omega
theorem G3:∀l:List It,l.length≤kY l
 | []=>ai _
 |i::l=>by
  have:=G3 l;unfold kY at this⊢;rw[bJ,qx,av];have:1≤i.cost:=by unfold It.cost;split<;>omega
  omega
abbrev Xp(s:SliceV):Array Value:= #[sv s,.string (⟨#[]⟩:ByteArray),.string (⟨#[]⟩:ByteArray),.bool true,.bool false]
structure Cur(W:Nat→Prop)(h:ae)(cb:Nat)(C:Nat→Prop)(items:List It):Prop where
 ex:∃s,h[cb]? =some (.cells (Xp s) 300 (0,0))∧OwnS Rr 3 302 C h s (items.map It.raw)
 ok:∀i∈items,It.Ok W h i
theorem YD{W:Nat→Prop}{h g:ae}{i:It}(c:It.Ok W h i)(_:i.own=false){its:List It}(e:its.map (fun i=>(i.sl.data.toList,i.w,i.F))=i.F.toL){ah:ByteArray}(u:ah.data.toList=i.key)(hi:∀j∈its,j.ah=ah∧j.own=false∧RxN W g j.b j.sl j.w j.F):∀j∈its,It.Ok W g j:=by
 intro j m;obtain⟨n,x,q⟩:=hi j m;have hm:(j.sl.data.toList,j.w,j.F)∈i.F.toL:=by rw[←e];exact List.mem_map.2 ⟨j,m,rfl⟩
 have d:=(tJ.1 c.2.1).2 _ hm;have b:∀p∈DP j.w j.F,j.key.length+p.1.length≤10000:=fun p s=>by
  have f:Rh i.F (j.sl.data.toList++p.1) p.2:=uu.2 ⟨_,hm,p.1,rfl,Ct.1 (show(p.1,p.2)∈_ from s)⟩
  have:=c.2.2.2 (j.sl.data.toList++p.1,p.2) (Ct.2 (.inr f));unfold It.key at this⊢;rw[n,u];unfold It.key;simp only[af]at this⊢;omega
 obtain⟨r,v,o⟩:=Cx c.2.1 _ hm;have:=b (r,v) (Ct.2 o);exact⟨q,d.2.2,by simp only at this;omega,b⟩
set_option maxHeartbeats 1000000 in
theorem WP{W C:Nat→Prop}{h:ae}{cb:Nat}{d:List It}{i:It}(Y:Cur W h cb C d)(E:It.Ok W h i)(ho:i.own=false)(hC:∀b,h.size≤b→C b)(w:∀b,C b→W b)(x:W cb)(V:¬C cb)(hcost:kY d+i.cost≤100000000){K:Unit→ae→Prop}
  (hk:∀A kids,Cur W A cb C (d++kids)→xf kids=i.prs→kY kids<i.cost→Upd (fun b=>C b∨b=cb) h A→K () A):eJ 191 [gF cb,.agg #[gF i.b,.string i.ah,.bool i.own]] K h:=by
 refine eM (tS (some ⟨cb,0,none⟩) i.raw) BK Tryz.func191 Tryz.call191 ?_;dsimp only[tS,cg,jI,aG,cE,MJ,Iw,Oy,ZG,ic,ji,dq,CS,fG,iP,cf,iv,dy];obtain⟨s,bh,hst⟩:=Y.ex;refine bj fun h1 b1 k1=>?_
 have zc:=bc bh;have s1:=k1.size;refine⟨i.ah,vc b1 1,_,vc b1 0,?_⟩;have io1:=E.updM (k1.wide (M:=C)) fun b c=>.inl (w b c)
 refine Gw io1.1 ⟨vc b1 1,?_,?_⟩
 ·have:=E.2.2.1
  unfold It.key at this;rw[af]at this;have e1:i.ah.data.toList.length=i.ah.size:=by simp
  have e2:i.sl.data.toList.length=i.sl.size:=by simp
  omega
 have c1:=k1.get0 bh;refine⟨_,rfl,_,lA c1 1 0,_,lA c1 1 1,true,lA c1 1 2,?_⟩;refine WV fun h2 k2=>ay.2 ⟨_,vc (k2.get0 b1) 0,i.ah,vc (k2.get0 b1) 1,?_⟩
 have L:=k1.tr k2;refine bj fun y b3 k3=>⟨_,vc (k3.get0 (k2.get0 b1)) 0,?_⟩
 have O:=L.tr k3;have z3:=bc b3;have s2:=L.size;have io3:=E.updM (O.wide (M:=C)) fun b c=>.inl (w b c)
 have hn:=LU E.2.1;refine Sb io3.1 hn fun s4 g ks ho4 T k4=>?_
 have B:=O.tr k4;have J:Sl My 1 (fun b=>h2.size≤b∧b<y.size∨g.size≤b) g s4 ks:=ho4.sl fun b c o hx=>by rcases hx with hx|hx<;>omega
 have hlk:ks.length≤256:=by rw[T.1];exact hn
 have hlen4:=J.len;have s34:=k4.size;let own:It:=⟨i.b,i.ah,true,i.sl,i.w,i.F⟩
 have o3:OwnS Rr 3 302 (fun b=>h2.size≤b∧b<y.size∨g.size≤b) g ⟨some (aJ h2),1,1⟩ [own.raw]:=⟨rfl,KV,ai _,.inr ⟨h2.size,[],rfl,.inl ⟨ai _,z3⟩,k4.get0 b3,rfl⟩⟩
 have S:(i.ah++i.sl).data.toList=i.key:=by unfold It.key;rw[ByteArray.data_append,Array.toList_append]
 obtain⟨its,e1,e2,Z⟩:=QX (i.ah++i.sl) T;have X:=(hst.within.upd B fun _ _ h=>h)
 have c4:=B.get0 bh;have hM:∀b,g.size≤b→(h2.size≤b∧b<y.size∨g.size≤b):=fun b c=>.inr c
 refine LoopP.ghost (fun(n:Nat) (t:SliceV×Int) A=>t.2=(n:Int)∧n≤ks.length∧OwnS Rr 3 302 (fun b=>h2.size≤b∧b<y.size∨g.size≤b) A t.1 (own.raw::(ks.take n).map fun k=>(k,i.ah++i.sl,false))∧Upd (fun b=>h2.size≤b∧b<y.size∨g.size≤b) g A) (fun n=>ks.length-n) 0 ⟨rfl,aY _,by simpa using o3,Upd.refl _ _⟩ ?_
 rintro I n ⟨so,ti⟩ A ⟨et,hnk,z,H⟩ hI;(try simp only at et z)
 subst et;have hsz:=H.size;refine ak (fun o=>?_) fun hge=>?_
 ·have o:n<ks.length:=by have:(n:Int)<(s4.len:Int):=o;omega
  obtain⟨a,ha,_,hv⟩:=(J.upd H fun b c=>.inl c).at0 (ag o)
  refine Join.intro (fun t q=>OwnS Rr 3 302 (fun b=>h2.size≤b∧b<y.size∨g.size≤b) q t (own.raw::(ks.take (n+1)).map fun k=>(k,i.ah++i.sl,false))∧Upd (fun b=>h2.size≤b∧b<y.size∨g.size≤b) g q) (fun R hR=>⟨⟨by(try simp only);omega,by(try simp only);omega⟩,a,ha,ks[n],hv,bj fun h5 b5 k5=>?_⟩) ?_
  ·have o5:OwnS Rr 3 302 (fun _=>True) h5 ⟨some (aJ A),1,1⟩ [(ks[n],i.ah++i.sl,false)]:=⟨rfl,KV,ai _,.inr ⟨A.size,[],rfl,trivial,b5,rfl⟩⟩
   refine⟨_,(o5.sl (W:=No) fun _ _ _ h=>h).srow,?_⟩
   have s5:=k5.size;refine AppP.own (ys:= [(ks[n],i.ah++i.sl,false)]) (z.upd k5 fun _ _ h=>h) rfl rfl rfl rfl (by omega) (by rw[av,aX,aL,aI];omega) (.inr (by omega)) fun s6 h6 u f=>hR _ _ ⟨?_,(H.tr k5.wide).tr f⟩
   rw[List.take_succ_eq_append_getElem o,cj];exact u
  ·rintro t q ⟨ho2,hu2⟩
   rw[cX o (by omega)];exact hI (n+1) _ _ ⟨rfl,o,ho2,hu2⟩ (by omega)
 ·have hnl:n=ks.length:=by have:¬(n:Int)<(s4.len:Int):=hge;omega
  subst hnl;rw[cG,←e1]at z;have m:∀b,(h2.size≤b∧b<y.size∨g.size≤b)→h.size≤b:=fun b c=>by rcases c with c|c<;>omega
  have hlits:its.length=ks.length:=by have:=congrArg eO e1;simpa using this
  refine Join.intro (fun _ q=>OwnS Rr 3 302 (fun b=>h2.size≤b∧b<y.size∨g.size≤b) q so (own.raw::its.map It.raw).reverse∧Upd (fun b=>h2.size≤b∧b<y.size∨g.size≤b) g q) (fun R hR=>?_) ?_
  ·have c5:=H.get c4 (fun c=>by have:=m _ c;omega)
   refine⟨_,rfl,false,vc c5 4,aV.2 ?_⟩;exact Pe z (by rw[av,aX];omega) fun h6 u f=>hR _ _ ⟨u,H.tr f⟩
  ·rintro _ h6 ⟨u,f⟩
   have c6:=f.get c4 (fun c=>by have:=m _ c;omega)
   have Q:=X.upd f fun b c hx=>by have:=m _ hx;omega
   refine⟨_,rfl,s,vc c6 0,?_⟩;have s6:=f.size;refine⟨_,(u.sl (W:=No) fun _ _ _ h=>h).srow,?_⟩
   have hrl:=u.len;have hil:=G3 d;have P:(own.raw::its.map It.raw).reverse=(its.reverse++ [own]).map It.raw:=by rw[List.reverse_cons,cj,List.map_reverse];rfl
   refine AppP.own (M:=C) (ys:=(own.raw::its.map It.raw).reverse) (Q.more fun b c=>c.1) hrl rfl (QP _) rfl (by omega) (by rw[List.length_reverse,av,aX,aX];omega) (hC _ (by omega)) fun s7 h7 ho7 F=>?_
   have c7:=F.get c6 V;refine⟨_,rfl,?_⟩;refine nJ (i:=0) (c':=Xp s7) c7 (show 0<5 by decide) rfl fun h8 c8 D=>?_
   have U:=ho7.upd D fun b c e=>V (by have e:b=cb:=e;rw[←e];exact c)
   rw[P,←cj]at U;have G:Upd (fun b=>C b∨b=cb) h h8:=(((B.wide (M:=C)).trans f fun b c=>.inr (m b c)).tr F).mono (fun b c=>.inl (.inl c))|>.trans D fun b c=>.inl (.inr c)
   have N:∀{j:It},It.Ok W g j→It.Ok W h8 j:=fun oj=>((oj.updM f fun b c=>.inl (w b (hC b (m b c)))).updM F fun b c=>.inl (w b c)).updM D fun b c=>.inl (by have c:b=cb:=c;rw[c];exact x)
   refine hk h8 (its.reverse++ [own]) ⟨⟨s7,c8,U⟩,fun j p=>?_⟩ ?_ ?_ G
   ·rcases be.1 p with p|p
    ·exact(Y.ok j p).updM G fun b c=>.inl (c.elim (w b) fun e=>e▸x)
    ·rcases be.1 p with p|p
     ·exact N (YD E ho e2 S Z j (List.mem_reverse.1 p))
     ·rw[aq.1 p]
      exact It.Ok.updM (i:=own) G (fun b c=>.inl (c.elim (w b) fun e=>e▸x)) ⟨E.1,E.2⟩
   ·rw[JL]
    unfold xf;rw[List.reverse_reverse,Nd S e2 fun j p=>⟨(Z j p).1,(Z j p).2.1⟩]
    show(i.w.map fun v=>(own.key,v)).toList++_=It.prs i
    have hke:own.key=i.key:=rfl;unfold It.prs DP;rw[ho,hke];simp only[bS,if_false,cj];congr 1
    cases i.w with
    |none=>rfl
    |some v=>simp
   ·rw[zZ]
    have hc1:kY its.reverse=kY its:=by unfold kY;rw[List.map_reverse,List.sum_reverse]
    rw[hc1,N0 e2 fun j p=>(Z j p).2.1]
    have:kY [own]=1:=rfl;rw[this];unfold It.cost;rw[ho];simp only[bS,if_false];omega
end Go.Proofs
