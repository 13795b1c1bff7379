/- A part of the proof that the named laws of this program answer true, whatever the input. -/
import Derived.Test.YtncppacbfagpgaaGreatDoorPart6
import Derived.Test.YtncppacbfagpgaaGreatDoorPart4
import Derived.Test.YtncppacbfagpgaaGreatDoorPart2
open ByteArray renaming size_extract→gC
open Int renaming toNat_natCast→aR
open List renaming length_singleton→aE,length_map→dw,length_nil→aJ,map_append→du,map_cons→eB,map_nil→kT,length_append→ac,mem_append_right→de,mem_singleton→aF,pairwise_append→cr,length_cons→al,drop_one→uE,tail_cons→th,take_of_length_le→bo,pairwise_singleton→cy,mem_append→bI,mem_append_left→cI,length_eq_zero_iff→aw,mem_cons_self→av,mem_cons_of_mem→aC,append_nil→aL,append_assoc→ar,mem_map→gA,mem_cons→aB,not_mem_nil→im,pairwise_cons→aA,filter_nil→nY,filter_cons→bW,mem_filter→eg,filter_append→gi,cons_append→cJ,getElem?_cons_zero→cN,getElem?_eq_getElem→ae,length_filter_le→fQ,length_take→aI,take_succ_eq_append_getElem→aV,getElem?_eq_none→lL,cons→fi
open Nat renaming le_refl→aj,lt_of_lt_of_le→aD,zero_le→aS,lt_or_ge→bZ,le_trans→bh
open Option renaming some→bQ
namespace Go.Proofs
open Go Go.Lift
theorem Zo{M:Nat→Prop}{h:ad}{so:SliceV}{out:List (SliceV×SliceV)}{p:SliceV×SliceV}{K:SliceV→ad→Prop}(e:OwnS XC 2 eX M h so out)(hM:∀b,h.size≤b→M b)(g:out.length+1≤1000000000)
  (f:∀s' h',OwnS XC 2 eX M h' s' (out++ [p])→Upd M h h'→K s' h'):
  ∃xs,SRow (hnew h (XC p) eX) (some (aG h)) (1*2) xs∧AppP (some [.slice none 0 0,.slice none 0 0]) 2 48 eX so.a so.len so.cap 1 xs (hnew h (XC p) eX) K:=by
 have k:=Upd.hnew No h (XC p) eX;have c:OwnS XC 2 eX (fun _=>True) (hnew h (XC p) eX) ⟨some (aG h),1,1⟩ [p]:=⟨rfl,YS,aj _,.inr ⟨h.size,[],rfl,trivial,cq ..,rfl⟩⟩
 refine⟨_,(c.sl (W:=No) fun _ _ _ h=>h).srow,?_⟩
 refine AppP.own (ys:= [p]) (e.upd k fun _ _ h=>h) rfl rfl rfl rfl (by omega) (by simp only[aE];omega) (hM _ (by rw[jw];omega)) fun s' h' a d=>?_
 exact f s' h' a ((Upd.hnew M h _ _).tr d)
set_option maxHeartbeats 2000000 in
theorem PQ{W G0 C0:Nat→Prop}{x:Hs}{h:ad}{J:Nat}{fs0:List Fr}(cur:CurW W G0 C0 x h J fs0)(hW0:∀b,h.size≤b→W b){K:(ByteArray×ByteArray)×Bool→ad→Prop}
  (hn:∀h',F1 x fs0= []→Upd (fun b=>C0 b∨b=J) h h'→K (((⟨#[]⟩:ByteArray),(⟨#[]⟩:ByteArray)),false) h')
  (hs:∀h' u p R G' C',F1 x fs0=p::R→F1 x u=R→CurW W G' C' x h' J u→(∀b,C' b→C0 b∨h.size≤b)→(∀b,G' b→G0 b∨h.size≤b)→Upd (fun b=>C0 b∨b=J) h h'→K (p,true) h'):
  HC PG rp [.pointer (some ⟨J,0,none⟩)] [.agg [.str,.str],.c .bool] K h:=by
 refine DJ (some ⟨J,0,none⟩) ?_;unfold wO bE bX eW nv ay az lN is dG bV ada aco;refine aW fun h1 b1 k1=>ag.2 ?_
 have z1:=bC b1;obtain⟨s00,d00,hc0,_⟩:=cur.ex;have zc:=bC hc0;have s1:=k1.size;have cur1:=cur.upd k1 (fun _ h=>h.elim) (fun _ _ h=>h) (fun _ _ h=>h) fun h=>h
 refine LoopP.ghost (fun(g:List Fr×(Nat→Prop)×(Nat→Prop)) (_:Unit) h'=>CurW W g.2.1 g.2.2 x h' J g.1∧F1 x g.1=F1 x fs0∧(∀b,g.2.2 b→(C0 b∨h.size≤b)∧b≠h.size)∧(∀b,g.2.1 b→(G0 b∨h.size≤b)∧b≠h.size)∧h'[h.size]? =some (.cells zPrL.toArray ao (0,0))∧Upd (fun b=>C0 b∨b=J) h h') (fun g=>Hm x g.1) (fs0,G0,C0)
  ⟨cur1,rfl,fun b t=>⟨.inl t,by have:=cur.lt b (.inl t);omega⟩,fun b t=>⟨.inl t,by have:=cur.lt b (.inr t);omega⟩,b1,k1.wide⟩ ?_
 rintro I ⟨fs,G,C⟩ ⟨⟩ h' ⟨v,N,D,Q,bz,hu⟩ hI;simp only at v N D Q;obtain⟨s,d,aO,P⟩:=v.ex;have hlen:=P.len;rw[dw]at hlen;have hzs:h.size<h'.size:=bC bz;have zcb:=bC aO;refine⟨_,rfl,s,vc aO 0,?_⟩;refine ax (fun hpos=>?_) fun hnp=>?_
 ·obtain⟨u,f,rfl⟩:∃u f,fs=u++ [f]:=by
   rcases BR fs with rfl|⟨l',y,e⟩
   ·simp only[aJ]at hlen;omega
   ·exact⟨l',y,e⟩
  rw[du,eB,kT]at P;rw[ac,aE]at hlen;have h14:=YF (n:=13) v.lv fun f hf=>(v.ok f hf).n13
  rw[ac,aE]at h14;have eidx:IntKind.wrap .i64 ((s.len:Int)-1)=((u.length:Nat):Int):=by rw[dI (by omega)];omega
  obtain⟨a,ha,hv⟩:=fK P (i:=u.length) (by rw[dw]);have X:=v.ok f (de _ (aF.2 rfl));have hpl:=X.p.len;have V:=X.k.len;rw[dw]at V;have hpc:=X.pc;have hkc:=X.kc;have hcap:=P.cap;refine⟨_,rfl,s,vc aO 0,_,rfl,s,vc aO 0,?_⟩;rw[eidx];refine⟨⟨by omega,by omega⟩,a,ha,_,rfl,f.sp,hv 0 _ rfl,?_⟩
  have keep:∀{h2:ad} {M:Nat→Prop},Upd M h' h2→(∀b,M b→C b∨b=J∨b=h.size∨h'.size≤b)→∀{g:Fr},g.Ok W G x h'→g.Ok W G x h2:=fun{h2 M} k hM {g} o=>o.upd k (fun b t=>by
   rcases hM b t with h|h|h|h
   ·exact .inl (v.cw.1 b h)
   ·exact .inl (by rw[h];exact v.cw.2)
   ·exact .inl (by rw[h];exact hW0 _ (aj _))
   ·exact .inr h) fun b t=>by
   rcases hM b t with h|h|h|h
   ·exact .inl fun L=>(v.dj b L).1 h
   ·exact .inl fun L=>(v.dj b L).2 h
   ·exact .inl fun L=>(Q b L).2 h
   ·exact .inr h
  have T:=cr.1 v.lv;have hrs:=BJ x u f;have hcs:=DG x u f;refine ax (fun hp=>?_) fun hp=>?_
  ·
   rcases O:f.ps with _|⟨p,ps⟩
   ·rw[O]at hpl;simp only[aJ]at hpl;omega
   have fop:=X.p;rw[O]at fop hpl;simp only[al]at hpl;obtain⟨ap,hap,_,hvp⟩:=fop.at (i:=0) (x:=p) rfl;refine⟨_,rfl,f.sp,hv 0 _ rfl,⟨by omega,by omega⟩,ap,hap,p.1,hvp 0 _ rfl,p.2,hvp 1 _ rfl,?_⟩
   refine JA (p:=p) fun h8 b8 k8=>?_
   have z8:=bC b8;have hst8:=P.upd k8 fun _ _ h=>h
   obtain⟨a',ha',hv8⟩:=fK hst8 (i:=u.length) (by rw[dw]);rw[ha]at ha';cases ha';refine⟨_,rfl,f.sp,hv8 0 _ rfl,⟨by omega,by omega⟩,_,rfl,?_⟩
   let U:Fr:=⟨⟨aY f.sp.a 1 f.sp.cap 2,f.sp.len-1,f.sp.cap-1⟩,f.sk,f.n,ps,f.ks⟩
   refine UY hst8 (y:=U.raw) (j:=0) (by omega) rfl ha (by simp) fun h9 ho9 S=>?_
   have c9:=S.get (k8.get0 aO) v.cc;refine⟨_,rfl,s,vc c9 0,_,rfl,?_⟩;refine vI (i:=1) (c':=acX s (s.len:Int)) c9 (show 1<2 by decide) rfl fun h10 c10 z=>?_
   have hCh:∀b,C b→b<h'.size:=fun b t=>v.lt b (.inl t)
   have b9:=S.get b8 fun hx=>by have:=hCh _ hx;omega
   have b10:=z.oth b9 (by omega);refine⟨_,vc b10 0,_,vc b10 1,?_⟩;have bz10:=z.oth (S.get (k8.get0 bz) fun hx=>(D _ hx).2 rfl) (by omega)
   refine dH (c:=zPrL) (vs:= [.string p.1,.string p.2]) bz10 rfl fun H b11 A=>?_
   refine⟨_,vc b11 0,_,vc b11 1,?_⟩;have c11:=A.oth c10 (by omega);have w:Upd (fun b=>C b∨b=J∨b=h.size∨h'.size≤b) h' H:=((k8.wide.trans S fun b t=>.inl (.inl t)).trans z fun b t=>.inl (.inr (.inl t))).trans A fun b t=>.inl (.inr (.inr (.inl t)))
   have ho11:OwnS XC 2 eX C H s ((u++ [U]).map Fr.raw):=by
    rw[du,eB,kT];exact(ho9.upd z fun b t e=>by have e:b=J:=e;rw[e]at t;exact v.cc t).upd A fun b t e=>(D b t).2 e
   have fo':U.Ok W G x H:=by
    have o:=keep w (fun b t=>t) X
    refine⟨?_,o.k,by show f.sp.len-1≤f.sp.cap-1;omega,o.kc,o.t,o.n0,o.n13⟩
    have op:=o.p;rw[O]at op;have:=Sl.sub op (l:=1) (hi:=(p::ps).length) (m:=f.sp.cap) (c:=f.sp.cap-1) (by simp) (aj _) (by simp only[al];omega);rw[uE,th,bo (by simp)]at this;have e:(p::ps).length-1=f.sp.len-1:=by simp only[al];omega
    rw[e]at this;exact this
   refine hs H (u++ [U]) p (U.rem x++F1 x u) G C ?_ (BJ x u U) ⟨⟨s,_,c11,ho11⟩,fun g L=>?_,fun b t=>aD (v.lt b t) w.size,v.dj,v.cc,v.cw,cr.2 ⟨T.1,cy ..,fun g L g' E=>by rw[aF.1 E];exact T.2.2 g L f (aF.2 rfl)⟩⟩ (fun b t=>(D b t).1) (fun b t=>(Q b t).1) ?_
   ·rw[←N,hrs]
    unfold Fr.rem;rw[O];rfl
   ·rcases bI.1 L with L|L
    ·exact keep w (fun b t=>t) (v.ok g (cI _ L))
    ·rw[aF.1 L];exact fo'
   ·refine hu.trans w fun b t=>?_
    rcases t with h|h|h|h
    ·exact(D b h).1.imp .inl id
    ·exact .inl (.inr h)
    ·exact .inr (by omega)
    ·exact .inr (by omega)
  ·have O:f.ps= []:=aw.1 (by omega)
   refine⟨_,rfl,f.sk,hv 1 _ rfl,?_⟩;refine ax (fun hk=>?_) fun hk=>?_
   ·
    rcases F:f.ks with _|⟨kd,ks⟩
    ·rw[F]at V;simp only[aJ]at V;omega
    have fok:=X.k;rw[F]at fok V;simp only[al]at V;rw[eB]at fok;obtain⟨ap,hap,_,hvp⟩:=fok.at0 (i:=0) (x:=QK kd) rfl;have hfn:0<f.n:=X.n0 (by rw[F];simp);have hf13:=X.n13;refine⟨_,rfl,f.sk,hv 1 _ rfl,⟨by omega,by omega⟩,ap,hap,_,hvp,_,rfl,f.sk,hv 1 _ rfl,⟨by omega,by omega⟩,_,rfl,?_⟩
    let U:Fr:=⟨f.sp,⟨aY f.sk.a 1 f.sk.cap 1,f.sk.len-1,f.sk.cap-1⟩,f.n,f.ps,ks⟩
    refine UY P (y:=U.raw) (j:=1) (by omega) rfl ha (by simp) fun h8 ho8 B=>?_
    have c8:=B.get aO v.cc;have Z:Upd (fun b=>C b∨b=J∨b=h.size∨h'.size≤b) h' h8:=B.mono fun b t=>.inl (.inl t)
    have s8:=B.size;refine⟨_,rfl,s,vc c8 0,?_⟩;have fo8:=keep Z (fun b t=>t) X
    obtain⟨tk,hkn⟩:=fo8.t kd (by rw[F];exact av ..);refine Mx tk (by omega) hkn fun h9 g hgn hgr hgc go k9=>?_
    have c9:=k9.get0 c8;have s9:=k9.size;refine⟨vc c9 0,bM ⟨vc ((Upd.hnew No h9 (XC g.raw) eX).get0 c9) 0,?_⟩⟩;have hC9:∀b,C b→b<h9.size:=fun b t=>by have:=v.lt b (.inl t);omega
    refine Zo (M:=fun b=>C b∨h9.size≤b) (p:=g.raw) ((ho8.upd k9 fun _ _ h=>h).more fun b t=>.inl t) (fun b t=>.inr t) (by rw[ac,dw,aE];omega) fun abG h10 ho10 z=>?_
    have s10':=z.size;have c10:=z.get c9 (by rintro(hx|hx);exact v.cc hx;omega)
    refine⟨_,rfl,?_⟩;refine vI (i:=0) (c':=acX abG d) c10 (show 0<2 by decide) rfl fun H c11 A=>?_
    have s11:=A.size;have w:Upd (fun b=>C b∨b=J∨b=h.size∨h'.size≤b) h' H:=((Z.tr k9.wide).trans z fun b t=>t.elim (fun h=>.inl (.inl h)) fun h=>.inr (by omega)).trans A fun b t=>.inl (.inr (.inl t))
    have bz11:=A.oth (z.get (k9.get0 (B.get bz fun hx=>(D _ hx).2 rfl)) (by rintro(hx|hx);exact(D _ hx).2 rfl;omega)) (by omega)
    have hGl:∀b,G b→b<h'.size:=fun b t=>v.lt b (.inr t)
    refine hI (u++ [U]++ [g],fun b=>G b∨(h8.size≤b∧b<h9.size),fun b=>(C b∨h9.size≤b)∧b<h10.size) () H ⟨⟨⟨abG,d,c11,?_⟩,fun g' E=>?_,fun b t=>?_,fun b t=>?_,fun t=>?_,⟨fun b t=>?_,v.cw.2⟩,?_⟩,?_,fun b t=>?_,fun b t=>?_,bz11,?_⟩ ?_
    ·rw[du,du,eB,kT,eB,kT]
     exact ho10.within.upd A fun b t e=>by
      have e:b=J:=e;rw[e]at t;rcases t.1 with h|h
      ·exact v.cc h
      ·omega
    ·have Y:∀{q:Fr},q.Ok W G x H→q.Ok W (fun b=>G b∨(h8.size≤b∧b<h9.size)) x H:=fun o=>o.sub fun b t=>.inl t
     rcases bI.1 E with E|E
     ·rcases bI.1 E with E|E
      ·exact Y (keep w (fun b t=>t) (v.ok g' (cI _ E)))
      ·rw[aF.1 E]
       have o:=keep w (fun b t=>t) X
       refine Y ⟨o.p,?_,o.pc,by show f.sk.len-1≤f.sk.cap-1;omega,fun q hq=>o.t q (by rw[F];exact aC _ hq),fun _=>hfn,hf13⟩
       have op:=o.k;rw[F,eB]at op;have:=Sl.sub op (l:=1) (hi:=(QK kd::ks.map QK).length) (m:=f.sk.cap) (c:=f.sk.cap-1) (by simp) (aj _) (by simp only[al,dw];omega);rw[uE,th,bo (by simp)]at this;have e:(QK kd::ks.map QK).length-1=f.sk.len-1:=by simp only[al,dw];omega
       rw[e]at this;exact this
     ·rw[aF.1 E]
      have o1:=go.upd z (fun b t=>t.elim (fun h=>.inl (v.cw.1 b h)) .inr) fun b t=>t.elim (fun h=>.inl fun L=>by have:=v.lt b (.inl h);omega) .inr
      have o2:=o1.upd A (fun b t=>.inl (by have t:b=J:=t;rw[t];exact v.cw.2)) fun b t=>.inl fun L=>by have t:b=J:=t;omega
      exact o2.sub fun b t=>.inr t
    ·rcases t with t|t|t
     ·omega
     ·have:=hGl b t;omega
     ·omega
    ·refine⟨fun hc=>?_,fun e=>?_⟩
     ·rcases t with t|t
      ·rcases hc.1 with h|h
       ·exact(v.dj b t).1 h
       ·have:=hGl b t;omega
      ·rcases hc.1 with h|h
       ·have:=v.lt b (.inl h);omega
       ·omega
     ·subst e
      rcases t with t|t
      ·exact(v.dj _ t).2 rfl
      ·omega
    ·rcases t.1 with h|h
     ·exact v.cc h
     ·omega
    ·rcases t.1 with h|h
     ·exact v.cw.1 b h
     ·exact hW0 b (by omega)
    ·refine cr.2 ⟨cr.2 ⟨T.1,cy ..,fun q hq q' hq'=>by rw[aF.1 hq'];exact T.2.2 q hq f (aF.2 rfl)⟩,cy ..,fun q hq q' hq'=>?_⟩
     rw[aF.1 hq',hgn];rcases bI.1 hq with hq|hq
     ·have:=T.2.2 q hq f (aF.2 rfl);omega
     ·rw[aF.1 hq];show f.n-1<f.n;omega
    ·rw[BJ,BJ,←N,hrs,hgr]
     unfold Fr.rem;rw[O,F,List.flatMap_cons];simp;rfl
    ·refine⟨?_,?_⟩
     ·rcases t.1 with h|h
      ·exact(D b h).1
      ·exact .inr (by omega)
     ·rcases t.1 with h|h
      ·exact(D b h).2
      ·omega
    ·refine⟨?_,?_⟩
     ·rcases t with h|h
      ·exact(Q b h).1
      ·exact .inr (by omega)
     ·rcases t with h|h
      ·exact(Q b h).2
      ·omega
    ·refine hu.trans w fun b t=>?_
     rcases t with h|h|h|h
     ·exact(D b h).1.imp .inl id
     ·exact .inl (.inr h)
     ·exact .inr (by omega)
     ·exact .inr (by omega)
    ·show Hm x (u++ [U]++ [g])<Hm x (u++ [f])
     rw[DG,DG,hcs];have e1:f.cost x=U.cost x+cw x (f.n-1) kd.2:=by
      unfold Fr.cost;rw[F,eB,List.sum_cons];have e0:(U.ks.map fun k=>cw x (U.n-1) k.2).sum=(ks.map fun k=>cw x (f.n-1) k.2).sum:=rfl
      omega
     omega
   ·
    have F:f.ks= []:=aw.1 (by omega);refine⟨_,rfl,s,vc aO 0,_,rfl,s,vc aO 0,?_⟩;rw[eidx];refine⟨⟨by omega,by omega⟩,?_⟩
    simp only[Bd];refine⟨_,rfl,?_⟩;refine vI (i:=0) (c':=acX ⟨aY s.a 0 s.cap 2,u.length,s.cap⟩ d) aO (show 0<2 by decide) rfl fun h8 c8 B=>?_
    have hpop:=OwnS.pop P;rw[dw]at hpop;have w:Upd (fun b=>C b∨b=J∨b=h.size∨h'.size≤b) h' h8:=B.mono fun b t=>.inl (.inr (.inl t))
    refine hI (u,G,C) () h8 ⟨⟨⟨_,d,c8,hpop.upd B fun b t e=>by have e:b=J:=e;rw[e]at t;exact v.cc t⟩,fun g L=>keep w (fun b t=>t) (v.ok g (cI _ L)),fun b t=>aD (v.lt b t) w.size,v.dj,v.cc,v.cw,T.1⟩,?_,D,Q,B.oth bz (by omega),hu.trans B fun b t=>.inl (.inr t)⟩ ?_
    ·rw[←N,hrs]
     unfold Fr.rem;rw[O,F];rfl
    ·show Hm x u<Hm x (u++ [f])
     rw[hcs];unfold Fr.cost;omega
 ·have h0:fs= []:=aw.1 (by omega)
  subst h0;refine⟨_,rfl,?_⟩;refine vI (i:=1) (c':=acX s 0) aO (show 1<2 by decide) rfl fun h8 c8 B=>?_
  refine dH (c:=zPrL) (vs:=zPrL) (B.oth bz (by omega)) rfl fun h9 b9 S=>?_
  refine⟨_,vc b9 0,_,vc b9 1,hn h9 N.symm ((hu.trans B fun b t=>.inl (.inr t)).trans S fun b t=>.inr (Nat.le_of_eq (Eq.symm t)))⟩
end Go.Proofs
namespace Go.Proofs
open Go Go.Lift
def Below(W:Nat→Prop)(x:Hs)(h:ad)(m:Nat)(r:Option Addr)(l:List Pr):Prop:=(r=none∧l= [])∨∃b,r=some ⟨b,0,none⟩∧TrieAt W x h m b l
theorem Below.upd0{W:Nat→Prop}{x:Hs}{h h':ad}{m:Nat}{r:Option Addr}{l:List Pr}(k:Upd No h h')(t:Below W x h m r l):Below W x h' m r l:=t.imp id fun⟨b,e,t⟩=>⟨b,e,TrieAt.upd0 k t⟩
theorem Below.less{W W':Nat→Prop}{x:Hs}{h:ad}{m:Nat}{r:Option Addr}{l:List Pr}(hm:∀b,W' b→W b∨h.size≤b)(t:Below W x h m r l):Below W' x h m r l:=t.imp id fun⟨b,e,t⟩=>⟨b,e,TrieAt.less hm t⟩
theorem Below.updM{W M:Nat→Prop}{x:Hs}{h h':ad}{m:Nat}{r:Option Addr}{l:List Pr}(k:Upd M h h')(hm:∀b,M b→W b∨h.size≤b)(t:Below W x h m r l):Below W x h' m r l:=t.imp id fun⟨b,e,t⟩=>⟨b,e,TrieAt.updM k hm t⟩
theorem abr(x:Hs):∀m,wl x m []= []
 |0=>rfl
 |m+1=>aw.1 (Nat.le_zero.1 (NS x (m+1) []))
theorem Sj{W:Nat→Prop}{x:Hs}{h:ad}{m:Nat}{r:Option Addr}{l:List Pr}(t:Below W x h m r l)(hm:m≤13)(j:l.length≤100000){K:SliceV×SliceV→ad→Prop}
  (a:∀h' f,Fr.rem x f=wl x m l→f.Ok W (fun y=>h.size≤y∧y<h'.size) x h'→Upd No h h'→K f.raw h'):HC PG yG [.pointer r] [.agg [.slice,.slice]] K h:=by
 rcases t with⟨rfl,rfl⟩|⟨b,rfl,t⟩
 ·refine NI none ?_
  unfold GI dy eW HP aco;refine aW fun n b1 k1=>?_
  refine xy none ?_;unfold sQ bV;refine au.2 (yQ none ?_);unfold uh bV;refine au.2 ?_;refine dH (c:= [.slice none 0 0,.slice none 0 0]) (vs:= [.slice none 0 0,.slice none 0 0]) b1 rfl fun d g e=>?_
  refine⟨⟨none,0,0⟩,vc g 0,⟨none,0,0⟩,vc g 1,?_⟩;refine a d ⟨⟨none,0,0⟩,⟨none,0,0⟩,0,[],[]⟩ ?_ ⟨Sl.nil gu,Sl.nil vh,aj _,aj _,fun k a=>(by cases a),fun h=>absurd rfl h,aS _⟩ (k1.own e (aj _))
  rw[abr];rfl
 ·exact Mx t hm j fun h' f _ h2 _ d i=>a h' f h2 d i
theorem Sk{W:Nat→Prop}{x:Hs}{h:ad}{m:Nat}{r:Option Addr}{l:List Pr}(t:Below W x h m r l)(hm:m≤13)(u:l.length≤100000)(k:∀y,h.size≤y→W y){K:Option Addr→ad→Prop}
  (s:∀h' cb f G C,h.size≤cb→(∀y,G y∨C y→h.size≤y)→CurW W G C x h' cb [f]→f.rem x=wl x m l→Upd No h h'→K (some ⟨cb,0,none⟩) h'):HC PG Ds [.pointer r] [.c .ptr] K h:=by
 refine T8 r ?_;unfold KI ada;refine Sj t hm u fun h2 f d n e=>?_
 refine aW fun j b3 b=>aW fun o i c=>?_
 have z:=bC b3;have v:=bC i;have A:=e.size;have w:=b.size;have q:OwnS XC 2 eX (fun y=>y=h2.size) j ⟨some (aG h2),1,1⟩ [f.raw]:=⟨rfl,YS,aj _,.inr ⟨h2.size,[],rfl,rfl,b3,rfl⟩⟩
 refine s o j.size f (fun y=>h.size≤y∧y<h2.size) (fun y=>y=h2.size) (by omega) (fun y a=>by rcases a with h|h<;>omega) ⟨⟨_,0,i,q.upd c fun _ _ h=>h⟩,fun g p=>?_,fun y a=>by rcases a with h|h<;>omega,fun y a=>⟨by omega,by omega⟩,by omega,⟨fun y a=>k y (by omega),k _ (by omega)⟩,cy ..⟩ d ((e.tr b).tr c)
 rw[aF.1 p];exact n.upd (b.tr c) (fun _ h=>h.elim) fun _ h=>h.elim
theorem Sm{W:Nat→Prop}{x:Hs}{h:ad}{m:Nat}{r:Option Addr}{l:List Pr}(t:Below W x h m r l)(hm:m≤13)(hn:l.length≤100000){K:Value→ad→Prop}
  (hk:∀fv h',Gives PG fv ab3 l.length (fun xs=>xs=wl x m l) (fun y=>y<h'.size) h'→Upd No h h'→K fv h'):HC PG Dt [.pointer r] [.c .raw] K h:=by
 refine T9 r ?_;unfold KJ;refine aW fun w b1 k1=>?_
 have z1:=bC b1;refine hk _ w ?_ k1;have t1:=Below.less (W':=fun y=>w.size≤y) (fun y a=>.inr a) (Below.upd0 k1 t)
 have hwl:=NS x m l;refine⟨fun y a=>a,vO,#[],_,rfl,fun y J A M U K' B hj hu hq ha hk'=>?_⟩
 refine Mb y (aG h) ?_;unfold zT nv az lN w9 rV;have d1:=hu.get b1 (hq _ z1);have s4:=hu.size;have t4:Below (fun y=>w.size≤y) x U m r l:=Below.updM hu (fun y a=>.inl (by
  rcases bZ y w.size with F|F
  ·exact absurd a (hq y F)
  ·exact F)) t1
 refine⟨_,bF d1,?_⟩;refine Sk t4 hm hn (fun y a=>bh s4 a) fun h5 cb f G C hcb E cur hfr k5=>?_
 have k:=B.lt _ _ _ hj;have hA3:∀y,A y→w.size≤y:=fun y a=>by
  rcases bZ y w.size with F|F
  ·exact absurd F (ha y a)
  ·exact F
 have s5:=k5.size;have N:F1 x [f]=wl x m l:=by rw[←hfr];simp[F1]
 refine LoopP.ghost (fun(g:List Pr×List Fr×(Nat→Prop)×(Nat→Prop)×(Nat→Prop)) (_:Unit) h'=>CurW (fun y=>w.size≤y) g.2.2.2.1 g.2.2.2.2 x h' cb g.2.1∧J g.1 g.2.2.1 h'∧Upd A U h'∧(∀y,g.2.2.1 y→(A y∨U.size≤y)∧¬g.2.2.2.1 y∧¬g.2.2.2.2 y∧y≠cb)∧(∀y,g.2.2.2.1 y∨g.2.2.2.2 y→U.size≤y)∧g.1++F1 x g.2.1=wl x m l∧h5.size≤h'.size) (fun g=>(F1 x g.2.1).length) ([],[f],A,G,C)
  ⟨cur,B.keep _ _ _ _ No hj k5 (fun _ _ h=>h),k5.wide,fun y a=>⟨.inl a,fun hx=>by have:=k y a;have:=E y (.inl hx);omega,fun hx=>by have:=k y a;have:=E y (.inr hx);omega,fun e=>by have:=k y a;omega⟩,E,by rw[N];rfl,aj _⟩ ?_
 rintro I ⟨pre,fs,A1,G1,C1⟩ ⟨⟩ h' ⟨cu,o,X,b,i,c,hsz⟩ hI;simp only at cu o b i c;have v:=B.lt _ _ _ o;have Z:∀y,A1 y→w.size≤y:=fun y a=>(b y a).1.elim (hA3 y) fun h=>by omega
 have hd:∀y,A1 y→¬(C1 y∨y=cb):=fun y a hx=>hx.elim (b y a).2.2.1 (b y a).2.2.2
 have hC4:∀y,C1 y∨y=cb→U.size≤y:=fun y a=>a.elim (fun h=>i y (.inr h)) fun e=>by omega
 refine PQ cu (fun y a=>by omega) (fun h6 hr0 j=>?_) fun h6 fs' p R G' C' H V u hC' hG' j=>?_
 ·have L:=B.keep _ _ _ _ _ o j hd
  refine tG fun S b7 P=>?_
  refine Join.intro (fun t q=>t=true∧q=S) (fun R hR=>au.2 (hR _ _ ⟨rfl,rfl⟩)) ?_
  rintro t q ⟨rfl,rfl⟩;refine au.2 (hk' pre A1 q ?_ (B.keep _ _ _ _ No L P (fun _ _ h=>h)) ?_ fun y a=>(b y a).1)
  ·rw[hr0,aL]at c
   exact c
  ·exact(X.trans j fun y a=>.inr (hC4 y a)).tr P.wide
 ·have L:=B.keep _ _ _ _ _ o j hd
  refine tG (p:=p) fun S b7 P=>?_
  have hj7:=B.keep _ _ _ _ No L P (fun _ _ h=>h)
  have cu7:=u.upd P (fun _ h=>h.elim) (fun _ _ h=>h) (fun _ _ h=>h) fun h=>h
  have Y:Upd A U S:=(X.trans j fun y a=>.inr (hC4 y a)).tr P.wide
  have s6:=j.size;have s7:=P.size;refine Join.intro (fun t q=>t=false∧∃T,J (pre++ [p]) T q∧Upd A1 S q∧∀y,T y→A1 y∨S.size≤y) (fun R' hR=>?_) ?_
  ·refine ag.2 ⟨_,vc b7 0,_,vc b7 1,?_⟩
   refine B.step pre A1 S p _ hj7 ?_ fun q T Q n O=>hR _ _ ⟨rfl,T,Q,n,O⟩
   have:=congrArg List.length c;rw[H]at this;simp only[ac,al]at this;omega
  ·rintro t q ⟨rfl,T,Q,n,O⟩
   have z:∀y,G' y→¬A1 y:=fun y a hx=>(hG' y a).elim (b y hx).2.1 fun h=>by have:=v y hx;omega
   have D:∀y,C' y→¬A1 y:=fun y a hx=>(hC' y a).elim (b y hx).2.2.1 fun h=>by have:=v y hx;omega
   have hcb6:cb<h6.size:=by obtain⟨s,d,hx,_⟩:=u.ex;exact bC hx
   refine ag.2 (hI (pre++ [p],fs',T,G',C') () q ⟨?_,Q,?_,fun y a=>?_,fun y a=>?_,?_,by have:=n.size;omega⟩ ?_)
   ·exact cu7.upd n (fun y a=>.inl (Z y a)) D z fun hx=>(b _ hx).2.2.2 rfl
   ·exact Y.trans n fun y a=>(b y a).1
   ·rcases O y a with h|h
    ·exact⟨(b y h).1,fun hx=>z y hx h,fun hx=>D y hx h,(b y h).2.2.2⟩
    ·exact⟨.inr (by omega),fun hx=>by have:=u.lt y (.inr hx);omega,fun hx=>by have:=u.lt y (.inl hx);omega,by omega⟩
   ·rcases a with a|a
    ·rcases hG' y a with h|h
     ·exact i y (.inl h)
     ·omega
    ·rcases hC' y a with h|h
     ·exact i y (.inr h)
     ·omega
   ·simp only
    rw[ar,V,←c,H];rfl
   ·simp only
    rw[H,V];simp
theorem Ll{W W':Nat→Prop}{x:Hs}{h:ad}{m:Nat}{r:Option Addr}{l:List Pr}(t:Below W x h m r l)(hm:m≤13)(s:bS l)(u:l.length≤100000)(c:∀y,W' y→y<h.size){K:SliceV→ad→Prop}
  (q:∀s' h',Sl eu 2 W' h' s' l→s'.len≤s'.cap→Upd No h h'→K s' h'):HC PG x9 [.pointer r] [.c .slice] K h:=by
 refine LN r ?_;unfold CA;refine Sm t hm u fun v h2 j f=>?_
 refine Rc j (by omega) fun z w xs e n d=>?_
 subst e;have g:=NS x m l;refine V0 (W':=W') (n.sl (W:=No) fun _ _ _ h=>h) (fun y k=>aD (c y k) (f.tr d).size) (by omega) fun p o a b i=>?_
 rw[abF s]at a;exact q p o a b ((f.tr d).tr i)
end Go.Proofs
namespace Go.Proofs
open Go.Lift
abbrev Ch:=ByteArray×ByteArray×ByteArray×Bool×Bool
abbrev tI(c:Ch):List Value:= [.string c.1,.string c.2.1,.string c.2.2.1,.bool c.2.2.2.1,.bool c.2.2.2.2]
def LJ(p:Pr):Ch:=(p.1,p.2,⟨#[]⟩,true,false)
def ZS(p:Pr):Ch:=(p.1,⟨#[]⟩,p.2,false,true)
def jX:List Pr→List Pr→List Ch
 | [],B=>B.map ZS
 |a::A,[]=>LJ a::jX A []
 |a::A,b::B=>if kl a.1 b.1 then LJ a::jX A (b::B)else if kl b.1 a.1 then ZS b::jX (a::A) B else if a.2=b.2 then jX A B else(a.1,a.2,b.2,true,true)::jX A B
termination_by A B=>A.length+B.length
theorem jT(B:List Pr):jX [] B=B.map ZS:=by unfold jX;rfl
theorem yM:∀A:List Pr,jX A []=A.map LJ
 | []=>by rw[jT];rfl
 |a::A=>by unfold jX;rw[yM A];rfl
theorem uU(a b:Pr)(A B:List Pr):jX (a::A) (b::B)=if kl a.1 b.1 then LJ a::jX A (b::B)else if kl b.1 a.1 then ZS b::jX (a::A) B else if a.2=b.2 then jX A B else(a.1,a.2,b.2,true,true)::jX A B:=by
 conv=>lhs;unfold jX
theorem JI{a b:ByteArray}(h:kl a b):¬kl b a:=fun k=>co _ (fR h k)
theorem sK{a:Pr}{A:List Pr}:∀{B:List Pr},(∀q∈B,kl a.1 q.1)→jX (a::A) B=LJ a::jX A B
 | [],_=>by rw[yM,yM];rfl
 |b::B,h=>by rw[uU,if_pos (h b (av ..))]
theorem sJ{b:Pr}{B:List Pr}:∀{A:List Pr},(∀q∈A,kl b.1 q.1)→jX A (b::B)=ZS b::jX A B
 | [],_=>by rw[jT,jT];rfl
 |a::A,h=>by
  have h:=h a (av ..);rw[uU,if_neg (JI h),if_pos h]
theorem Bh:∀A:List Pr,jX A A= []
 | []=>by rw[jT];rfl
 |a::A=>by rw[uU,if_neg (co _),if_neg (co _),if_pos rfl,Bh A]
def zO(a b:Pr):List Ch:=if a.2=b.2 then[]else[(a.1,a.2,b.2,true,true)]
theorem qF{a b:Pr}(e:a.1=b.1)(A B:List Pr):jX (a::A) (b::B)=zO a b++jX A B:=by
 rw[uU,e,if_neg (co _),if_neg (co _)];unfold zO;split
 ·rfl
 ·rw[←e];rfl
theorem BS:∀{A B:List Pr} {c:Ch},c∈jX A B→∃p,p∈A++B∧c.1=p.1
 | [],B,c,h=>by
  rw[jT]at h;obtain⟨p,d,e⟩:=gA.1 h;exact⟨p,d,by rw[←e];rfl⟩
 |a::A,[],c,h=>by
  rw[yM]at h;obtain⟨p,d,e⟩:=gA.1 h;exact⟨p,cI _ d,by rw[←e];rfl⟩
 |a::A,b::B,c,h=>by
  rw[uU]at h;by_cases f:kl a.1 b.1
  ·rw[if_pos f]at h
   rcases aB.1 h with h|h
   ·exact⟨a,av ..,by rw[h];rfl⟩
   ·obtain⟨p,d,e⟩:=BS h
    exact⟨p,aC _ d,e⟩
  ·rw[if_neg f]at h
   by_cases h2:kl b.1 a.1
   ·rw[if_pos h2]at h
    rcases aB.1 h with h|h
    ·exact⟨b,de _ (av ..),by rw[h];rfl⟩
    ·obtain⟨p,d,e⟩:=BS h
     refine⟨p,?_,e⟩;rcases bI.1 d with d|d
     ·exact cI _ d
     ·exact de _ (aC _ d)
   ·rw[if_neg h2]at h
    have g:c∈jX A B→∃p,p∈a::A++b::B∧c.1=p.1:=fun h=>by
     obtain⟨p,d,e⟩:=BS h;refine⟨p,?_,e⟩;rcases bI.1 d with d|d
     ·exact cI _ (aC _ d)
     ·exact de _ (aC _ d)
    split at h
    ·exact g h
    ·rcases aB.1 h with h|h
     ·exact⟨a,av ..,by rw[h]⟩
     ·exact g h
termination_by A B=>A.length+B.length
theorem pf{P:List Pr→List Pr→Prop}(nil:P [] [])(c:∀a A B,bS (a::A)→bS B→(∀q∈B,kl a.1 q.1)→P A B→P (a::A) B)
  (d:∀b A B,bS A→bS (b::B)→(∀q∈A,kl b.1 q.1)→P A B→P A (b::B))(same:∀a b A B,a.1=b.1→bS (a::A)→bS (b::B)→P A B→P (a::A) (b::B)):
  ∀{A B:List Pr},bS A→bS B→P A B
 | [],[],_,_=>nil
 | [],b::B,hA,hB=>d b [] B hA hB (fun _ h=>absurd h im) (pf nil c d same hA (aA.1 hB).2)
 |a::A,[],hA,hB=>c a A [] hA hB (fun _ h=>absurd h im) (pf nil c d same (aA.1 hA).2 hB)
 |a::A,b::B,hA,hB=>by
  have g:=aA.1 hA;have i:=aA.1 hB;by_cases j:kl a.1 b.1
  ·refine c a A (b::B) hA hB (fun q f=>?_) (pf nil c d same g.2 hB)
   rcases aB.1 f with f|f
   ·rw[f];exact j
   ·exact fR j (i.1 q f)
  ·by_cases h2:kl b.1 a.1
   ·refine d b (a::A) B hA hB (fun q f=>?_) (pf nil c d same hA i.2)
    rcases aB.1 f with f|f
    ·rw[f];exact h2
    ·exact fR h2 (g.1 q f)
   ·have e:a.1=b.1:=Decidable.byContradiction fun k=>h2 (qh j k)
    exact same a b A B e hA hB (pf nil c d same g.2 i.2)
termination_by A B=>A.length+B.length
abbrev oo(l:List Ch):Prop:=l.Pairwise fun p q=>kl p.1 q.1
theorem ri{A B:List Pr}(f:bS A)(g:bS B):oo (jX A B):=by
 refine pf (P:=fun A B=>oo (jX A B)) ?_ (fun a A B f _ h i=>?_) (fun b A B _ g h i=>?_) (fun a b A B e f g i=>?_) f g
 ·rw[jT];exact .nil
 ·rw[sK h]
  refine aA.2 ⟨fun c hc=>?_,i⟩
  obtain⟨p,d,e⟩:=BS hc;rw[e];rcases bI.1 d with d|d
  ·exact(aA.1 f).1 p d
  ·exact h p d
 ·rw[sJ h]
  refine aA.2 ⟨fun c hc=>?_,i⟩
  obtain⟨p,d,e⟩:=BS hc;rw[e];rcases bI.1 d with d|d
  ·exact h p d
  ·exact(aA.1 g).1 p d
 ·rw[qF e]
  unfold zO;split
  ·exact i
  ·refine aA.2 ⟨fun c hc=>?_,i⟩
   obtain⟨p,d,j⟩:=BS hc;rw[j];rcases bI.1 d with d|d
   ·exact(aA.1 f).1 p d
   ·rw[e];exact(aA.1 g).1 p d
theorem TN(g:ByteArray→Bool){A B:List Pr}(f:bS A)(k:bS B):jX (A.filter fun p=>g p.1) (B.filter fun p=>g p.1)=(jX A B).filter fun c=>g c.1:=by
 refine pf (P:=fun A B=>jX (A.filter fun p=>g p.1) (B.filter fun p=>g p.1)=(jX A B).filter fun c=>g c.1) ?_ (fun a A B f _ h i=>?_) (fun b A B _ k h i=>?_) (fun a b A B e f k i=>?_) f k
 ·rw[nY,jT];rfl
 ·rw[sK h,bW,bW,←i]
  show jX (if g a.1=true then _ else _) _=if g a.1=true then _ else _
  by_cases d:g a.1=true
  ·rw[if_pos d,if_pos d,sK fun q j=>h q (eg.1 j).1]
  ·rw[if_neg d,if_neg d]
 ·rw[sJ h,bW,bW,←i]
  show jX _ (if g b.1=true then _ else _)=if g b.1=true then _ else _
  by_cases d:g b.1=true
  ·rw[if_pos d,if_pos d,sJ fun q j=>h q (eg.1 j).1]
  ·rw[if_neg d,if_neg d]
 ·rw[qF e,gi,←i,bW,bW,←e]
  unfold zO;by_cases d:g a.1=true
  ·rw[if_pos d,if_pos d,qF e]
   unfold zO;split
   ·rfl
   ·rw[bW,if_pos d];rfl
  ·rw[if_neg d,if_neg d]
   split
   ·rfl
   ·rw[bW,if_neg d];rfl
theorem Iu{A2 B2:List Pr}:∀{A1 B1:List Pr},bS A1→bS B1→(∀p∈A1,∀q∈A2,kl p.1 q.1)→(∀p∈A1,∀q∈B2,kl p.1 q.1)→(∀p∈B1,∀q∈A2,kl p.1 q.1)→(∀p∈B1,∀q∈B2,kl p.1 q.1)→
  jX (A1++A2) (B1++B2)=jX A1 B1++jX A2 B2:=by
 intro A1 B1 j m;refine pf (P:=fun A1 B1=>(∀p∈A1,∀q∈A2,kl p.1 q.1)→(∀p∈A1,∀q∈B2,kl p.1 q.1)→(∀p∈B1,∀q∈A2,kl p.1 q.1)→(∀p∈B1,∀q∈B2,kl p.1 q.1)→jX (A1++A2) (B1++B2)=jX A1 B1++jX A2 B2) ?_ (fun a A B j _ h i=>?_) (fun b A B _ m h i=>?_) (fun a b A B e j m i=>?_) j m
 ·intro _ _ _ _;rw[jT];rfl
 ·intro f h2 d g
  rw[cJ,sK h,sK (fun q k=>(bI.1 k).elim (h q) (h2 a (av ..) q)),i (fun p c=>f p (aC _ c)) (fun p c=>h2 p (aC _ c)) d g];rfl
 ·intro f h2 d g
  rw[cJ,sJ h,sJ (fun q k=>(bI.1 k).elim (h q) (d b (av ..) q)),i f h2 (fun p c=>d p (aC _ c)) (fun p c=>g p (aC _ c))];rfl
 ·intro f h2 d g
  rw[cJ,cJ,qF e,qF e,i (fun p c=>f p (aC _ c)) (fun p c=>h2 p (aC _ c)) (fun p c=>d p (aC _ c)) (fun p c=>g p (aC _ c)),ar]
theorem vS{A B:List Pr}(c:bS A)(d:bS B):(jX A B).length≤A.length+B.length:=by
 refine pf (P:=fun A B=>(jX A B).length≤A.length+B.length) ?_ (fun a A B c _ h i=>?_) (fun b A B _ d h i=>?_) (fun a b A B e c d i=>?_) c d
 ·rw[jT];exact aj _
 ·rw[sK h];simp only[al];omega
 ·rw[sJ h];simp only[al];omega
 ·rw[qF e,ac,al,al]
  have:(zO a b).length≤1:=by unfold zO;split<;>simp
  omega
def YO(c:Ch):Ch:=(c.1,c.2.2.1,c.2.1,c.2.2.2.2,c.2.2.2.1)
theorem OX{A B:List Pr}(c:bS A)(d:bS B):(jX A B).map YO=jX B A:=by
 refine pf (P:=fun A B=>(jX A B).map YO=jX B A) ?_ (fun a A B c _ h i=>?_) (fun b A B _ d h i=>?_) (fun a b A B e c d i=>?_) c d
 ·rw[jT];rfl
 ·rw[sK h,sJ h,eB,i];rfl
 ·rw[sJ h,sK h,eB,i];rfl
 ·rw[qF e,qF e.symm,du,i]
  congr 1
  unfold zO;by_cases h:a.2=b.2
  ·rw[if_pos h,if_pos h.symm];rfl
  ·rw[if_neg h,if_neg fun e=>h e.symm,←e];rfl
theorem G9{α:Type}(g:α→Nat)(n:Nat):∀L:List α,((L.filter fun x=>decide (g x<n))++L.filter fun x=>decide (g x=n)).Perm (L.filter fun x=>decide (g x<n+1))
 | []=>.refl _
 |a::L=>by
  have i:=G9 g n L;rw[bW,bW,bW];by_cases b:g a<n
  ·rw[if_pos (decide_eq_true b),if_neg (by simp;omega),if_pos (by simp;omega)]
   exact i.cons a
  ·by_cases h2:g a=n
   ·rw[if_neg (by simp;omega),if_pos (by simpa using h2),if_pos (by simp;omega)]
    exact List.perm_middle.trans (i.cons a)
   ·rw[if_neg (by simp;omega),if_neg (by simpa using h2),if_neg (by simp;omega)]
    exact i
end Go.Proofs
namespace Go.Proofs
open Go Go.Lift
theorem Gp(x:Ch):(tI x).length=5∧0<5:=⟨rfl,by omega⟩
abbrev adk(x:Hs)(s:SliceV):Array Value:= #[.int .u64 x.k0,.int .u64 x.k1,.int .u64 x.mask,sv s]
structure SetAt(C:Nat→Prop)(h:ad)(sb:Nat)(x:Hs)(L:List Ch):Prop where
 ex:∃s,h[sb]? =some (.cells (adk x s) C7 (0,0))∧OwnS tI 5 bO C h s L
 lt:∀b,C b→b<h.size
 ne:¬C sb
theorem SetAt.upd{C M:Nat→Prop}{h h':ad}{a:Nat}{x:Hs}{L:List Ch}(st:SetAt C h a x L)(k:Upd M h h')(d:∀b,C b→¬M b)(e:¬M a):SetAt C h' a x L:=by
 obtain⟨s,c,h2⟩:=st.ex;exact⟨⟨s,k.get c e,h2.upd k d⟩,fun b f=>aD (st.lt b f) k.size,st.ne⟩
theorem SetAt.upd0{C:Nat→Prop}{h h':ad}{a:Nat}{x:Hs}{L:List Ch}(st:SetAt C h a x L)(k:Upd No h h'):SetAt C h' a x L:=st.upd k (fun _ _ h=>h) fun h=>h
abbrev Xh(C:Nat→Prop)(h:ad)(a:Nat)(x:Hs)(L:List Ch)(G:ad→Prop):Prop:=∀h' C',SetAt C' h' a x L→(∀b,C' b→C b∨h.size≤b)→Upd (fun b=>C b∨b=a) h h'→G h'
theorem Sz{C:Nat→Prop}{h:ad}{j:Nat}{x:Hs}{L:List Ch}{s:SliceV}{c:Ch}(st:SetAt C h j x L)(d:h[j]? =some (.cells (adk x s) C7 (0,0))) (o:OwnS tI 5 bO C h s L) (y:L.length+1≤100000000) {G:ad→Prop} (t:Xh C h j x (L++ [c]) G):
  At (hnew h [.string c.1,.string c.2.1,.string c.2.2.1,.bool c.2.2.2.1,.bool c.2.2.2.2] bO) (fun f=>aO f (adr ⟨j,0,none⟩ 3)=some (.slice s.a s.len s.cap)∧∃xs,SRow f (some (aG h)) (1*5) xs∧
   AppP (some [.string (⟨#[]⟩:ByteArray),.string (⟨#[]⟩:ByteArray),.string (⟨#[]⟩:ByteArray),.bool false,.bool false]) 5 56 bO s.a s.len s.cap 1 xs f (fun k h2=>∃a:Addr,some (⟨j,0,none⟩:Addr)=some a∧(Wr h2 (adr a 3)∧At (hset h2 (adr a 3) (.slice k.a k.len k.cap)) G))):=by
 refine aW fun f b1 k1=>⟨vc (k1.get0 d) 3,?_⟩
 have u:=bC b1;have w:=k1.size;have v:=bC d;have n:OwnS tI 5 bO (fun _=>True) f ⟨some (aG h),1,1⟩ [c]:=⟨rfl,Gp,aj _,.inr ⟨h.size,[],rfl,trivial,b1,rfl⟩⟩
 refine⟨_,(n.sl (W:=No) fun _ _ _ h=>h).srow,?_⟩
 refine AppP.own (M:=fun b=>C b∨f.size≤b) (ys:= [c]) ((o.upd k1 fun _ _ h=>h).more fun _ h=>.inl h) rfl rfl rfl rfl (by omega) (by simp only[aE];omega) (.inr (aj _)) fun k h2 m i=>?_
 have b2:=i.get (k1.get0 d) fun h=>h.elim st.ne fun h=>by omega
 have q:=i.size;refine⟨_,rfl,vI (c':=adk x k) b2 (by simp) rfl fun p b3 g=>?_⟩
 refine t p (fun b=>(C b∨f.size≤b)∧b<h2.size) ⟨⟨k,b3,(m.within).upd g fun b d e=>?_⟩,fun b d=>aD d.2 g.size,fun d=>?_⟩ (fun b d=>d.1.imp id fun h=>by omega) ?_
 ·have e:b=j:=e
  rw[e]at d;exact d.1.elim st.ne fun h=>by omega
 ·exact d.1.elim st.ne fun h=>by omega
 ·exact((k1.wide.trans i fun b d=>d.elim (fun h=>.inl (.inl h)) fun h=>.inr (by omega)).trans g fun b d=>.inl (.inr d))
theorem UV{W:Nat→Prop}{h:ad}{s:SliceV}{p:Pr}{l:List Pr}(a:Sl eu 2 W h s (p::l))(hc:s.len≤s.cap):Sl eu 2 W h ⟨aY s.a 1 s.cap 2,s.len-1,s.cap-1⟩ l:=by
 have b:=a.len;rw[al]at b;have:=Sl.sub a (l:=1) (hi:=s.len) (m:=s.cap) (c:=s.cap-1) (by omega) (by rw[al];omega) hc;rw[show((p::l).drop 1).take (s.len-1)=l by rw[List.drop_succ_cons,List.drop_zero];exact bo (by omega)]at this
 exact this
theorem Et{C:Nat→Prop}{h:ad}{j:Nat}{x:Hs}{L:List Ch}{s s':SliceV}{A B:List Pr}(st:SetAt C h j x L)(hs:Sl eu 2 (fun b=>C b∨b=j) h s A)(hs':Sl eu 2 (fun b=>C b∨b=j) h s' B)(hc:s.len≤s.cap)(hc':s'.len≤s'.cap)
  (hn:L.length+A.length+B.length≤100000000){K:Unit→ad→Prop}(hk:Xh C h j x (L++jX A B) (K ())):HC PG jF [.pointer (some ⟨j,0,none⟩),.slice s.a s.len s.cap,.slice s'.a s'.len s'.cap] [] K h:=by
 refine GG (some ⟨j,0,none⟩) s s' ?_;unfold y8 bX ay dG B4 jt bV;have hss:=hs.less (W':=fun b=>C b∨b=j∨h.size≤b) fun b G=>G.elim (fun h=>.inl (.inl h)) fun h=>h.elim (fun h=>.inl (.inr h)) .inr
 have hss':=hs'.less (W':=fun b=>C b∨b=j∨h.size≤b) fun b G=>G.elim (fun h=>.inl (.inl h)) fun h=>h.elim (fun h=>.inl (.inr h)) .inr
 refine LoopP.ghost (fun(g:List Pr×List Pr×List Ch×(Nat→Prop)) (t:SliceV×SliceV) h'=>SetAt g.2.2.2 h' j x g.2.2.1∧(∀b,g.2.2.2 b→C b∨h.size≤b)∧Upd (fun b=>C b∨b=j) h h'∧Sl eu 2 (fun b=>C b∨b=j∨h.size≤b) h' t.1 g.1∧Sl eu 2 (fun b=>C b∨b=j∨h.size≤b) h' t.2 g.2.1∧t.1.len≤t.1.cap∧t.2.len≤t.2.cap∧g.2.2.1++jX g.1 g.2.1=L++jX A B∧g.2.2.1.length+g.1.length+g.2.1.length≤L.length+A.length+B.length)
  (fun g=>g.1.length+g.2.1.length) (A,B,L,C) ⟨st,fun _ h=>.inl h,Upd.refl _ _,hss,hss',hc,hc',rfl,aj _⟩ ?_
 rintro I ⟨A1,B1,L1,S⟩ ⟨y,Q⟩ Z ⟨n,v,V,k,o,N,H,he,J⟩ hI;simp only at n v k o N H he J;have O:y.len=A1.length:=k.len;have l2:Q.len=B1.length:=o.len;obtain⟨sl,p,W⟩:=n.ex;have go:∀(c:List Ch) (A2 B2:List Pr) (u1 Y:SliceV) (h2:ad) (C2:Nat→Prop),SetAt C2 h2 j x (L1++c)→(∀b,C2 b→S b∨Z.size≤b)→Upd (fun b=>S b∨b=j) Z h2→jX A1 B1=c++jX A2 B2→Sl eu 2 (fun b=>C b∨b=j∨h.size≤b) Z u1 A2→Sl eu 2 (fun b=>C b∨b=j∨h.size≤b) Z Y B2→u1.len≤u1.cap→Y.len≤Y.cap→c.length+A2.length+B2.length≤A1.length+B1.length→A2.length+B2.length<A1.length+B1.length→I (u1,Y) h2:=by
  intro c A2 B2 u1 Y h2 C2 st2 hC2 U e q M w1 w2 hl d;have hm:∀b,S b∨b=j→(C b∨b=j∨h.size≤b)∨Z.size≤b:=fun b G=>.inl (G.elim (fun h=>(v b h).imp id .inr) fun h=>.inr (.inl h))
  refine hI (A2,B2,L1++c,C2) (u1,Y) h2 ⟨st2,fun b G=>?_,?_,q.upd U hm,M.upd U hm,w1,w2,?_,?_⟩ d
  ·rcases hC2 b G with h|h
   ·exact v b h
   ·exact .inr (bh V.size h)
  ·exact V.trans U fun b G=>G.elim (fun h=>(v b h).imp .inl id) fun h=>.inl (.inr h)
  ·show(L1++c)++jX A2 B2=_
   rw[ar,←e,he]
  ·show(L1++c).length+A2.length+B2.length≤_
   rw[ac];omega
 refine Join.intro (fun t h'=>h'=Z∧(t=true↔A1≠[]∨B1≠[])) (fun R u=>?_) ?_
 ·refine ax (fun hp=>u _ _ ⟨rfl,?_⟩) fun hp=>u _ _ ⟨rfl,?_⟩
  ·have hp:(y.len:Int)>0:=hp
   simp only[true_iff];left;intro e;rw[e]at O;simp only[aJ]at O;omega
  ·have hp:¬(y.len:Int)>0:=hp
   have e1:A1= []:=aw.1 (by omega);show decide ((Q.len:Int)>0)=true↔_
   rw[decide_eq_true_iff];constructor
   ·intro h;right;intro e;rw[e]at l2;simp only[aJ]at l2;omega
   ·intro h
    rcases h with h|h
    ·exact absurd e1 h
    ·have:=List.length_pos_iff.2 h;omega
 rintro t h2 ⟨rfl,ht⟩;refine CondP.intro (fun e=>?_) fun e=>?_
 rotate_left
 ·have hn:A1= []∧B1= []:=by
   rw[e]at ht;constructor
   ·exact Decidable.byContradiction fun h=>absurd (ht.2 (.inl h)) (by simp)
   ·exact Decidable.byContradiction fun h=>absurd (ht.2 (.inr h)) (by simp)
  obtain⟨rfl,rfl⟩:=hn;rw[jT,kT,aL]at he;subst he;exact hk h2 S n v V
 have hne:=ht.1 e;clear ht e;refine Join.intro (fun t h'=>h'=h2∧((t=true∧∃a A',A1=a::A'∧jX A1 B1=LJ a::jX A' B1)∨(t=false∧∃b E,B1=b::E∧(A1= []∨∃a A',A1=a::A'∧¬kl a.1 b.1)))) (fun R u=>?_) ?_
 ·rcases B1 with _|⟨b,E⟩
  ·rcases A1 with _|⟨a,A'⟩
   ·exact absurd hne (by simp)
   rw[show(((Q.len:Nat):Int)==0)=true by rw[l2];rfl]
   refine au.2 (u _ _ ⟨rfl,.inl ⟨rfl,a,A',rfl,?_⟩⟩);rw[yM,yM];rfl
  ·rw[al]at l2
   rw[show(((Q.len:Nat):Int)==0)=false by rw[beq_eq_false_iff_ne];omega]
   refine ag.2 ?_;rcases A1 with _|⟨a,A'⟩
   ·rw[aJ]at O
    rw[decide_eq_false (show ¬((y.len:Int)>0) by omega)]
    exact ag.2 (u _ _ ⟨rfl,.inr ⟨rfl,b,E,rfl,.inl rfl⟩⟩)
   ·rw[al]at O
    rw[decide_eq_true (show((y.len:Int)>0) by omega)]
    refine au.2 ?_;obtain⟨F,f,_,q⟩:=k.at (i:=0) (x:=a) rfl;obtain⟨X,m,_,M⟩:=o.at (i:=0) (x:=b) rfl;refine⟨⟨by first|omega|(simp only;omega),by first|omega|(simp only;omega)⟩,F,f,a.1,q 0 _ rfl,⟨by first|omega|(simp only;omega),by first|omega|(simp only;omega)⟩,X,m,b.1,M 0 _ rfl,u _ _ ⟨rfl,?_⟩⟩
    by_cases d:kl a.1 b.1
    ·exact .inl ⟨d,a,A',rfl,by rw[uU,if_pos d]⟩
    ·exact .inr ⟨by unfold kl at d;simpa using d,b,E,rfl,.inr ⟨a,A',rfl,d⟩⟩
 rintro t h3 ⟨rfl,⟨rfl,a,A',rfl,ec⟩|⟨rfl,b,E,rfl,hA⟩⟩
 ·refine au.2 (Join.plain ?_)
  rw[al]at O;obtain⟨F,f,_,q⟩:=k.at (i:=0) (x:=a) rfl;refine⟨_,rfl,sl,vc p 3,⟨by first|omega|(simp only;omega),by first|omega|(simp only;omega)⟩,F,f,a.1,q 0 _ rfl,⟨by first|omega|(simp only;omega),by first|omega|(simp only;omega)⟩,F,f,a.2,q 1 _ rfl,?_⟩
  refine Sz (c:=LJ a) n p W (by simp only[al]at J;omega) fun h4 C4 st4 hC4 hu4=>?_
  refine⟨⟨by first|omega|(simp only;omega),by first|omega|(simp only;omega)⟩,?_⟩
  simp only[Bd];exact go [LJ a] A' B1 _ _ h4 C4 st4 hC4 hu4 ec (UV k N) o (by show y.len-1≤y.cap-1;omega) H (by simp only[al,aJ];omega) (by rw[al];omega)
 refine ag.2 ?_;rw[al]at l2;obtain⟨X,m,_,M⟩:=o.at (i:=0) (x:=b) rfl;refine Join.intro (fun t h'=>h'=h3∧((t=true∧jX A1 (b::E)=ZS b::jX A1 E)∨(t=false∧∃a A',A1=a::A'∧jX A1 (b::E)=zO a b++jX A' E))) (fun R u=>?_) ?_
 ·rcases hA with rfl|⟨a,A',rfl,hna⟩
  ·rw[show(((y.len:Nat):Int)==0)=true by rw[O];rfl]
   refine au.2 (u _ _ ⟨rfl,.inl ⟨rfl,?_⟩⟩);rw[jT,jT];rfl
  ·rw[al]at O
   rw[show(((y.len:Nat):Int)==0)=false by rw[beq_eq_false_iff_ne];omega]
   obtain⟨F,f,_,q⟩:=k.at (i:=0) (x:=a) rfl;refine ag.2 ⟨⟨by first|omega|(simp only;omega),by first|omega|(simp only;omega)⟩,X,m,b.1,M 0 _ rfl,⟨by first|omega|(simp only;omega),by first|omega|(simp only;omega)⟩,F,f,a.1,q 0 _ rfl,u _ _ ⟨rfl,?_⟩⟩
   by_cases d:kl b.1 a.1
   ·exact .inl ⟨d,by rw[uU,if_neg hna,if_pos d]⟩
   ·refine .inr ⟨by unfold kl at d;simpa using d,a,A',rfl,?_⟩
    rw[uU,if_neg hna,if_neg d];unfold zO;split<;>rfl
 rintro t h4 ⟨rfl,⟨rfl,ec⟩|⟨rfl,a,A',rfl,ec⟩⟩
 ·refine au.2 (Join.plain ?_)
  refine⟨_,rfl,sl,vc p 3,⟨by first|omega|(simp only;omega),by first|omega|(simp only;omega)⟩,X,m,b.1,M 0 _ rfl,⟨by first|omega|(simp only;omega),by first|omega|(simp only;omega)⟩,X,m,b.2,M 1 _ rfl,?_⟩
  refine Sz (c:=ZS b) n p W (by simp only[al]at J;omega) fun T P D z w=>?_
  refine⟨⟨by first|omega|(simp only;omega),by first|omega|(simp only;omega)⟩,?_⟩
  simp only[Bd];exact go [ZS b] A1 E _ _ T P D z w ec k (UV o H) N (by show Q.len-1≤Q.cap-1;omega) (by simp only[al,aJ];omega) (by rw[al];omega)
 rw[al]at O;obtain⟨F,f,_,q⟩:=k.at (i:=0) (x:=a) rfl;have hcl:(zO a b).length≤1:=by unfold zO;split<;>simp
 refine ag.2 (Join.intro (fun _ T=>∃P,SetAt P T j x (L1++zO a b)∧(∀b,P b→S b∨h4.size≤b)∧Upd (fun b=>S b∨b=j) h4 T) (fun R u=>?_) ?_)
 ·refine⟨⟨by first|omega|(simp only;omega),by first|omega|(simp only;omega)⟩,F,f,a.2,q 1 _ rfl,⟨by first|omega|(simp only;omega),by first|omega|(simp only;omega)⟩,X,m,b.2,M 1 _ rfl,?_⟩
  have eb:(a.2.toList==b.2.toList)=decide (a.2=b.2):=fg;rw[eb];by_cases e:a.2=b.2
  ·rw[decide_eq_true e]
   refine ag.2 (u _ _ ⟨S,?_,fun _ h=>.inl h,Upd.refl _ _⟩)
   unfold zO;rw[if_pos e,aL];exact n
  ·rw[decide_eq_false e]
   refine au.2 ⟨_,rfl,sl,vc p 3,⟨by first|omega|(simp only;omega),by first|omega|(simp only;omega)⟩,F,f,a.1,q 0 _ rfl,⟨by first|omega|(simp only;omega),by first|omega|(simp only;omega)⟩,F,f,a.2,q 1 _ rfl,⟨by first|omega|(simp only;omega),by first|omega|(simp only;omega)⟩,X,m,b.2,M 1 _ rfl,?_⟩
   refine Sz (c:=(a.1,a.2,b.2,true,true)) n p W (by simp only[al]at J;omega) fun T P D z w=>u _ _ ⟨P,?_,z,w⟩
   unfold zO;rw[if_neg e];exact D
 ·rintro _ T ⟨P,D,z,w⟩
  refine⟨⟨by first|omega|(simp only;omega),by first|omega|(simp only;omega)⟩,?_⟩
  simp only[Bd];refine⟨⟨by first|omega|(simp only;omega),by first|omega|(simp only;omega)⟩,?_⟩
  exact go (zO a b) A' E _ _ T P D z w ec (UV k N) (UV o H) (by show y.len-1≤y.cap-1;omega) (by show Q.len-1≤Q.cap-1;omega) (by rw[al,al];omega) (by rw[al,al];omega)
end Go.Proofs
namespace Go.Proofs
open Go Go.Lift
theorem X3{t:Tr}{h:ad}{K:Int→ad→Prop}(a:∀h',Upd No h h'→K t.1 h'):HC PG tW [Ia t] [.c (.int .i64)] K h:=by
 refine Gy t ?_;unfold yX aZ rT;exact aW fun b b1 k1=>⟨_,vc b1 0,a b k1⟩
end Go.Proofs
namespace Go.Proofs
open Go Go.Lift
theorem M5:∀{x y:List UInt8} {i:Nat} {a b:UInt8},(∀j,j<i→x[j]? =y[j]?)→x[i]? =some a→y[i]? =some b→a≠b→Op.bytesLess x y=decide (a.toNat<b.toNat)
 | [],_,_,_,_,_,h,_,_=>by simp at h
 |_::_,[],_,_,_,_,_,h,_=>by simp at h
 |c::x,d::y,0,a,b,_,h1,h2,hne=>by
  simp only[cN,bQ.injEq]at h1 h2;subst h1 h2;simp only[Op.bytesLess];rw[beq_false_of_ne hne];simp[UInt8.lt_iff_toNat_lt]
 |c::x,d::y,i+1,a,b,he,h1,h2,hne=>by
  have e:=he 0 (by omega);simp only[cN,bQ.injEq]at e;subst e;simp only[List.getElem?_cons_succ]at h1 h2;simp only[Op.bytesLess];rw[M5 (i:=i) (fun j f=>by simpa using he (j+1) (by omega)) h1 h2 hne]
  simp[UInt8.lt_irrefl]
theorem M4:∀{x y:List UInt8} {i:Nat},(∀j,j<i→x[j]? =y[j]?)→i≤x.length→i≤y.length→(i=x.length∨i=y.length)→Op.bytesLess x y=decide (x.length<y.length)
 | [],[],_,_,_,_,_=>by simp[Op.bytesLess]
 | [],_::_,_,_,_,_,_=>by simp[Op.bytesLess]
 |_::_,[],_,_,_,_,_=>by simp[Op.bytesLess]
 |c::x,d::y,0,_,_,_,h=>by simp at h
 |c::x,d::y,i+1,he,h1,h2,h3=>by
  have e:=he 0 (by omega);simp only[cN,bQ.injEq]at e;subst e;simp only[Op.bytesLess];rw[M4 (i:=i) (fun j a=>by simpa using he (j+1) (by omega)) (by simpa using h1) (by simpa using h2) (by simpa using h3)]
  simp[UInt8.lt_irrefl]
theorem Qo{a b:ByteArray}(z:a.size≤1000000){h:ad}{K:Bool→ad→Prop}(x:K (decide (kl a b)) h):HC PG zF [.string a,.string b] [.c .bool] K h:=by
 refine Um a b ?_;unfold K4;have A:a.data.toList.length=a.size:=by simp
 have B:b.data.toList.length=b.size:=by simp
 have f:∀{p:Prop} [Decidable p],Op.bytesLess a.data.toList b.data.toList=decide p→K (decide p) h:=fun{p} _ e=>by
  have:decide (kl a b)=decide p:=by
   rw[←e,←ByteArray.toList_eq,←ByteArray.toList_eq];exact Bool.eq_iff_iff.2 (by rw[decide_eq_true_iff];exact Iff.rfl)
  rw[←this];exact x
 refine LoopP.ghost (fun(i:Nat) (t:Int) h'=>t=(i:Int)∧i≤a.size∧i≤b.size∧h'=h∧∀j,j<i→a.data.toList[j]? =b.data.toList[j]?) (fun i=>a.size-i) 0 ⟨rfl,aS _,aS _,rfl,fun j s=>absurd s (Nat.not_lt_zero _)⟩ ?_
 rintro I i t h' ⟨rfl,v,w,rfl,k⟩ y;refine Join.intro (fun t h2=>t=decide (i<a.size∧i<b.size)∧h2=h') (fun R n=>?_) ?_
 ·refine ax (fun c=>n _ _ ⟨?_,rfl⟩) fun m=>n _ _ ⟨?_,rfl⟩
  ·rw[decide_eq_decide];omega
  ·rw[eq_comm,decide_eq_false_iff_not];omega
 ·rintro t h2 ⟨rfl,rfl⟩
  refine ax (fun c=>?_) fun m=>?_
  ·have o:a.data.toList[i]? =some a[i]:=by rw[←QZ,getElem?_pos a i c.1]
   have q:b.data.toList[i]? =some b[i]:=by rw[←QZ,getElem?_pos b i c.2]
   refine⟨a[i],by omega,by rw[aR,getElem?_pos a i c.1],b[i],by omega,by rw[aR,getElem?_pos b i c.2],?_⟩
   refine CondP.intro (fun g=>?_) fun d=>?_
   ·refine⟨a[i],by omega,by rw[aR,getElem?_pos a i c.1],b[i],by omega,by rw[aR,getElem?_pos b i c.2],?_⟩
    refine f ?_;rw[M5 k o q fun e=>by rw[e]at g;simp at g]
    rw[decide_eq_decide];omega
   ·have d:a[i]=b[i]:=by
     have:((a[i].toNat:Int))=(b[i].toNat:Int):=by simpa using d
     exact UInt8.toNat_inj.1 (by omega)
    rw[db c.1 (by omega)];refine y (i+1) _ _ ⟨rfl,by omega,by omega,rfl,fun j s=>?_⟩ (by omega)
    rcases bZ j i with u|u
    ·exact k j u
    ·have:j=i:=by omega
     subst this;rw[o,q,d]
  ·refine f ?_
   rw[M4 k (by omega) (by omega) (by omega),decide_eq_decide];omega
theorem Qr{W:Nat→Prop}{h:ad}{s:SliceV}{l:List Pr}(x:Sl eu 2 W h s l)(H:l.length≤1000000)(k:ByteArray){K:SliceV→ad→Prop}
  (D:∀s' h',OwnS eu 2 cj (fun y=>h.size≤y) h' s' (l.filter fun p=>decide (p.1≠k))→Upd No h h'→K s' h'):HC PG zG [.slice s.a s.len s.cap,.string k] [.c .slice] K h:=by
 refine Uo s k ?_;unfold K6 bX nv ay az lN is;have z:=x.len;refine LoopP.ghost (fun(i:Nat) (t:SliceV×Int) h'=>t.2=(i:Int)∧i≤l.length∧OwnS eu 2 cj (fun y=>h.size≤y) h' t.1 ((l.take i).filter fun p=>decide (p.1≠k))∧Upd No h h') (fun i=>l.length-i) 0 ⟨rfl,aS _,by simpa using OwnS.nil gu,Upd.refl _ _⟩ ?_
 rintro I i ⟨so,E⟩ h' ⟨w,hi,j,f⟩ A;simp only at w j;subst w;refine ax (fun b=>?_) fun u=>?_
 ·have b:i<l.length:=by have:(i:Int)<(s.len:Int):=b;omega
  obtain⟨a,B,_,hv⟩:=(x.upd f fun _ h=>h.elim).at (ae b)
  have m:((l.take i).filter fun p=>decide (p.1≠k)).length≤l.length:=bh (fQ ..) (by rw[aI];omega)
  refine Join.intro (fun t h2=>OwnS eu 2 cj (fun y=>h.size≤y) h2 t ((l.take (i+1)).filter fun p=>decide (p.1≠k))∧Upd No h h2) (fun R d=>⟨⟨by simp only;omega,by simp only;omega⟩,a,B,l[i].1,hv 0 _ rfl,l[i].2,hv 1 _ rfl,?_⟩) ?_
  ·refine tG (p:=l[i]) fun h2 b2 g=>⟨_,vc b2 0,?_⟩
   have c:=j.upd g fun _ _ h=>h
   rw[aV b,gi,bW,nY]at d;rw[fg];by_cases e:l[i].1=k
   ·rw[decide_eq_true e]
    rw[decide_eq_false (not_not_intro e)]at d;rw[if_neg (by simp),aL]at d;exact ag.2 (d _ _ ⟨c,f.tr g⟩)
   ·rw[decide_eq_false e]
    rw[decide_eq_true e,if_pos rfl]at d;refine au.2 ⟨_,vc b2 0,_,vc b2 1,bM ?_⟩;refine yN (p:=l[i]) c (fun y q=>bh (f.tr g).size q) (bh (Nat.add_le_add_right m 1) (by omega)) fun G F n v=>d _ _ ⟨n,(f.tr g).trans v fun y q=>.inr q⟩
  ·rintro t h2 ⟨c,o⟩
   rw[db b (by omega)];exact A (i+1) _ _ ⟨rfl,b,c,o⟩ (by omega)
 ·have C:i=l.length:=by have:¬(i:Int)<(s.len:Int):=u;omega
  rw[bo (by omega)]at j;exact D _ _ j f
theorem U7{W:Nat→Prop}{h:ad}{s:SliceV}{l:List Pr}(hs:Sl eu 2 W h s l)(hr:bS l)(hn:l.length≤1000000)(p:Pr)(hp:p.1.size≤1000000){K:SliceV→ad→Prop}
  (Z:∀s' h',OwnS eu 2 cj (fun y=>h.size≤y) h' s' (hJ p l)→Upd No h h'→K s' h'):HC PG BQ [.slice s.a s.len s.cap,.agg #[.string p.1,.string p.2]] [.c .slice] K h:=by
 refine Xl s p ?_;unfold NM bX nv ay az lN is w9 D2;refine aW fun h1 b1 k1=>⟨p.1,vc b1 0,?_⟩
 refine Qr (hs.upd k1 fun _ h=>h.elim) hn p.1 fun s4 v P k4=>?_
 rw[←Nc hr]at Z;have hrf:bS (l.filter fun q=>decide (q.1≠p.1)):=hr.sublist List.filter_sublist
 have hnl:(l.filter fun q=>decide (q.1≠p.1)).length≤1000000:=bh (fQ ..) hn
 have M:∀q∈l.filter fun q=>decide (q.1≠p.1),q.1≠p.1:=fun q u=>of_decide_eq_true (eg.1 u).2
 generalize l.filter (fun q=>decide (q.1≠p.1))=L at Z P hrf hnl M
 have x:=k1.tr k4;have D:Sl eu 2 No v s4 L:=P.sl fun _ _ _ h=>h
 have hlen:=D.len;have z4:=x.size;refine LoopP.ghost (fun(g:Nat×Bool) (t:SliceV×Bool×Int) h'=>t.2.2=(g.1:Int)∧t.2.1=g.2∧g.1≤L.length∧(∃out,OwnS eu 2 cj (fun y=>v.size≤y) h' t.1 out∧out.length≤g.1+1∧(g.2=false→out=L.take g.1∧∀q∈L.take g.1,kl q.1 p.1)∧(g.2=true→out=hJ p (L.take g.1)∧∃q∈L.take g.1,kl p.1 q.1))∧Upd No v h') (fun g=>L.length-g.1) (0,false) ⟨rfl,rfl,aS _,⟨[],OwnS.nil gu,by simp,fun _=>⟨by simp,by simp⟩,fun h=>by cases h⟩,Upd.refl _ _⟩ ?_
 rintro I ⟨i,pl⟩ ⟨so,X,ti⟩ h' ⟨e1,e2,hi,⟨out,G,J,V,Y⟩,w⟩ hI;simp only at e1 e2 hi G J V Y;subst e1 e2;have b':=w.get0 (k4.get0 b1);refine ax (fun f=>?_) fun hge=>?_
 ·have f:i<L.length:=by have:(i:Int)<(s4.len:Int):=f;omega
  obtain⟨a,ha,_,hv⟩:=(D.upd w fun _ h=>h.elim).at (ae f)
  have d:=aV f;have E:L[i]∈L:=List.getElem_mem f;refine Join.intro (fun t h2=>(∃out,OwnS eu 2 cj (fun y=>v.size≤y) h2 t.1 out∧out.length≤i+1+1∧(t.2=false→out=L.take (i+1)∧∀q∈L.take (i+1),kl q.1 p.1)∧(t.2=true→out=hJ p (L.take (i+1))∧∃q∈L.take (i+1),kl p.1 q.1))∧Upd No v h2) (fun R hR=>⟨⟨by simp only;omega,by simp only;omega⟩,a,ha,L[i].1,hv 0 _ rfl,L[i].2,hv 1 _ rfl,?_⟩) ?_
  ·refine tG (p:=L[i]) fun h2 b2 U=>?_
   have o:=G.upd U fun _ _ h=>h
   have n:=w.tr U;have zb:=bC b2;have z2:=w.size;have hoM:=(G.within.upd U fun _ _ h=>h).more (M':=fun y=>(v.size≤y∧y<h'.size)∨h2.size≤y) fun y b=>.inl b
   have c2:=U.get0 b';refine Join.intro (fun t z=>(∃out,OwnS eu 2 cj (fun y=>v.size≤y) z t.1 out∧out.length≤i+1∧(t.2=false→out=L.take i∧∀q∈L.take (i+1),kl q.1 p.1)∧(t.2=true→out++ [L[i]]=hJ p (L.take (i+1))∧∃q∈L.take (i+1),kl p.1 q.1))∧z[h'.size]? =some (.cells #[.string L[i].1,.string L[i].2] cj (0,0))∧Upd No v z) (fun R2 C=>?_) ?_
   ·refine Join.intro (fun t z=>t=(!X&&decide (kl p.1 L[i].1))∧z=h2) (fun R3 S=>?_) ?_
    ·cases X with
     |false=>exact au.2 ⟨p.1,vc c2 0,L[i].1,vc b2 0,Qo hp (S _ _ ⟨by simp,rfl⟩)⟩
     |true=>exact ag.2 (S _ _ ⟨by simp,rfl⟩)
    ·rintro t z ⟨rfl,rfl⟩
     cases X with
     |true=>
      obtain⟨e,q,u,H⟩:=Y rfl;refine ag.2 (C _ _ ⟨⟨out,o,J,fun h=>(by cases h),fun _=>?_⟩,b2,n⟩)
      rw[d,e];exact⟨(QR ⟨q,u,H⟩).symm,q,cI _ u,H⟩
     |false=>
      obtain⟨e,c⟩:=V rfl;subst e;by_cases k:kl p.1 L[i].1
      ·rw[decide_eq_true k]
       refine au.2 ⟨p.1,vc c2 0,p.2,vc c2 1,bM ?_⟩;refine yN (p:=p) hoM (fun y b=>.inr b) (by rw[aI];omega) fun s5 h5 m j=>C _ _ ⟨⟨_,m.more (fun y b=>by rcases b with b|b<;>omega),by rw[ac,aI,aE];omega,fun h=>(by cases h),fun _=>?_⟩,j.get b2 (by rintro(hx|hx)<;>omega),n.trans j fun y b=>.inr (by rcases b with b|b<;>omega)⟩
       ·rw[d,Ev c]
        refine⟨?_,L[i],de _ (aF.2 rfl),k⟩;rw[ar,QP (l:= [L[i]]) fun q u=>by rw[aF.1 u];exact k]
        rfl
      ·rw[decide_eq_false k]
       have u:kl L[i].1 p.1:=qh k fun e=>M _ E e.symm
       refine ag.2 (C _ _ ⟨⟨_,o,by rw[aI];omega,fun _=>⟨rfl,fun q Q=>?_⟩,fun h=>(by cases h)⟩,b2,n⟩)
       rw[d]at Q;rcases bI.1 Q with h|h
       ·exact c q h
       ·rw[aF.1 h];exact u
   ·rintro⟨t1,t2⟩ z ⟨⟨out3,O,hol3,F,N⟩,b3,T⟩
    simp only at O F N;refine⟨_,vc b3 0,_,vc b3 1,bM ?_⟩;refine yN (p:=L[i]) O (fun y b=>bh T.size b) (by omega) fun s5 h5 m j=>hR _ _ ⟨⟨_,m,by rw[ac,aE];omega,fun h=>?_,fun h=>N h⟩,T.trans j fun y b=>.inr b⟩
    obtain⟨e,c⟩:=F h;exact⟨by rw[e,d],c⟩
  ·rintro⟨t1,t2⟩ h2 ⟨o,n⟩
   rw[db f (by omega)];exact hI (i+1,t2) _ _ ⟨rfl,rfl,f,o,n⟩ (by simp only;omega)
 ·have hil:i=L.length:=by have:¬(i:Int)<(s4.len:Int):=hge;omega
  subst hil;rw[List.take_length]at V Y;cases X with
  |true=>
   obtain⟨e,_⟩:=Y rfl;subst e;exact ag.2 (Z _ _ (G.more fun y b=>bh z4 b) (x.tr w))
  |false=>
   obtain⟨e,c⟩:=V rfl;subst e;refine au.2 ⟨p.1,vc b' 0,p.2,vc b' 1,bM ?_⟩;refine yN (p:=p) G (fun y b=>bh w.size b) (by omega) fun s5 h5 m j=>Z _ _ ?_ ((x.tr w).trans j fun y b=>.inr (bh z4 b))
   have:=Ev (p:=p) (A:=out) (B:= []) c;rw[aL]at this;rw[this];exact m.more fun y b=>bh z4 b
end Go.Proofs
namespace Go.Proofs
open Go Go.Lift
abbrev Rt:=Int×Int×Int×Int×SliceV
abbrev zm(r:Rt):List Value:= [.int .i64 r.1,.int .u64 r.2.1,.int .u64 r.2.2.1,.int .u64 r.2.2.2.1,.slice r.2.2.2.2.a r.2.2.2.2.len r.2.2.2.2.cap]
abbrev aai(r:Rt):Value:=.agg #[.int .i64 r.1,.int .u64 r.2.1,.int .u64 r.2.2.1,.int .u64 r.2.2.2.1,.slice r.2.2.2.2.a r.2.2.2.2.len r.2.2.2.2.cap]
abbrev Ye:Rt:=(0,0,0,0,⟨none,0,0⟩)
def hx(a v:Int):Int:=if a=0 then v else 0
def RefIs(W:Nat→Prop)(h:ad)(a:Int)(x:Hs)(r:Rt)(l:List Pr):Prop:=∃s,r=(a,hx a x.k0,hx a x.k1,hx a x.mask,s)∧Sl eu 2 W h s l∧s.len≤s.cap
theorem RefIs.upd0{W:Nat→Prop}{h h':ad}{a:Int}{x:Hs}{r:Rt}{l:List Pr}(k:Upd No h h')(i:RefIs W h a x r l):RefIs W h' a x r l:=
 let⟨s,e,b⟩:=i;⟨s,e,b.1.upd k fun _ h=>h.elim,b.2⟩
theorem RefIs.less{W W':Nat→Prop}{h:ad}(hm:∀b,W' b→W b∨h.size≤b){a:Int}{x:Hs}{r:Rt}{l:List Pr}(i:RefIs W h a x r l):RefIs W' h a x r l:=
 let⟨s,e,c⟩:=i;⟨s,e,c.1.less hm,c.2⟩
theorem RefIs.updM{W M:Nat→Prop}{h h':ad}(k:Upd M h h')(hm:∀b,M b→W b∨h.size≤b){a:Int}{x:Hs}{r:Rt}{l:List Pr}(i:RefIs W h a x r l):RefIs W h' a x r l:=
 let⟨s,e,c⟩:=i;⟨s,e,c.1.upd k hm,c.2⟩
theorem aaq{W:Nat→Prop}{x:Hs}{h:ad}{a:Int}(g:a=0∨a=1){K:Rt×Int→ad→Prop}(k:∀h' r,RefIs W h' a x r []→Upd No h h'→K (r,0) h'):HC PG Gj [.int .i64 a,.agg #[.int .u64 x.k0,.int .u64 x.k1,.int .u64 x.mask]] [.agg [.int .i64,.int .u64,.int .u64,.int .u64,.slice],.c (.int .i64)] K h:=by
 refine Xj a (x.k0,x.k1,x.mask) ?_;unfold NK aZ af dy eW BK Sa;refine aW fun n b1 k1=>aW fun h2 b2 j=>?_
 have i:=j.get0 b1;have m:=k1.size;have e:=k1.tr j;rcases g with rfl|rfl
 ·refine au.2 ⟨_,vc i 0,_,vc i 1,_,vc i 2,?_⟩
  refine dH (c:=zm Ye) (vs:=zm (0,x.k0,x.k1,x.mask,⟨none,0,0⟩)) b2 rfl fun f b d=>?_
  exact⟨_,vc b 0,_,vc b 1,_,vc b 2,_,vc b 3,⟨none,0,0⟩,vc b 4,k f (0,x.k0,x.k1,x.mask,⟨none,0,0⟩) ⟨_,rfl,Sl.nil gu,aj _⟩ (e.own d m)⟩
 ·refine ag.2 (au.2 ?_)
  refine dH (c:=zm Ye) (vs:=zm (1,0,0,0,⟨none,0,0⟩)) b2 rfl fun f b d=>?_
  exact⟨_,vc b 0,_,vc b 1,_,vc b 2,_,vc b 3,⟨none,0,0⟩,vc b 4,k f (1,0,0,0,⟨none,0,0⟩) ⟨_,rfl,Sl.nil gu,aj _⟩ (e.own d m)⟩
theorem Wn{k v:ByteArray}(b:k.size≤256)(h2:v.size≤4096){h:ad}{K:Int→ad→Prop}(a:K 0 h):HC PG A5 [.string k,.string v] [.c (.int .i64)] K h:=by
 refine RB k v ?_;unfold HB;refine ax (fun h=>absurd h (by omega)) fun _=>ax (fun h=>absurd h (by omega)) fun _=>a
theorem Yn{W:Nat→Prop}{x:Hs}{h:ad}{a:Int}{r:Rt}{l:List Pr}(i:RefIs W h a x r l)(D:∀y,W y→y<h.size)(C:bS l)(I:l.length≤1000000)(p:Pr)(u:p.1.size≤256)(v:p.2.size≤4096){K:Rt×Int→ad→Prop}
  (H:∀h' r',RefIs W h' a x r' (hJ p l)→Upd No h h'→K (r',0) h'):HC PG Dx [aai r,.agg #[.string p.1,.string p.2]] [.agg [.int .i64,.int .u64,.int .u64,.int .u64,.slice],.c (.int .i64)] K h:=by
 refine Ug r p ?_;unfold KS aZ af dy eW Sa HR az is dG w9 rV XN;refine aW fun A b1 k1=>aW fun h2 b2 t=>aW fun O b3 o=>?_
 have N:=bC b1;have Q:=bC b2;have J:=bC b3;have S:h.size≤A.size:=k1.size;have M:A.size≤h2.size:=t.size;have P:=o.size;have j:=(k1.tr t).tr o;have z:=o.get0 (t.get0 b1);have q:=o.get0 b2;obtain⟨s,rfl,F,_⟩:=i;refine⟨_,vc q 0,_,vc q 1,Wn u v (ag.2 ?_)⟩;refine⟨s,vc z 4,p.1,vc q 0,p.2,vc q 1,?_⟩;refine U7 (F.upd j fun _ h=>h.elim) C I p (by omega) fun f R w d=>?_
 refine vI (i:=4) (c':=(zm (a,hx a x.k0,hx a x.k1,hx a x.mask,f)).toArray) (d.get0 z) (show 4<5 by decide) rfl fun L n b=>?_
 refine⟨_,vc n 0,_,vc n 1,_,vc n 2,_,vc n 3,f,vc n 4,?_⟩;refine dH (c:=zm Ye) (vs:=zm (a,hx a x.k0,hx a x.k1,hx a x.mask,f)) (b.oth (d.get0 b3) (by omega)) rfl fun G g m=>?_
 refine⟨_,vc g 0,_,vc g 1,_,vc g 2,_,vc g 3,f,vc g 4,?_⟩;have k:=(w.upd b fun y B e=>by have e:y=h.size:=e;omega).upd m fun y B e=>by have e:y=h2.size:=e;omega
 refine H G (a,hx a x.k0,hx a x.k1,hx a x.mask,f) ⟨f,rfl,k.sl fun y B _ E=>by have:=D y E;omega,k.cap⟩ (((j.tr d).own b (aj _)).own m (by omega))
def Vn(r q:Rt):Bool:=(r.1==q.1)&&((r.2.1==q.2.1)&&((r.2.2.1==q.2.2.1)&&((r.2.2.2.1==q.2.2.2.1)&&true)))
theorem Yp{r q:Rt}{h:ad}{K:Bool→ad→Prop}(c:∀h',Upd No h h'→K (Vn r q) h'):HC PG Dy [aai r,aai q] [.c .bool] K h:=by
 refine Uh r q ?_;unfold KT aZ HR df;refine aW fun d b1 k1=>aW fun h2 b2 b=>?_
 have a:=b.get0 b1;refine⟨_,vc a 0,_,vc b2 0,?_⟩;have:=c h2 (k1.tr b);unfold Vn at this;rcases hb:(r.1==q.1)with _|_
 ·rw[hb]at this
  exact ag.2 this
 ·rw[hb]at this
  exact au.2 ⟨_,Av a 1 0,_,Av a 1 1,_,Av a 1 2,_,Av b2 1 0,_,Av b2 1 1,_,Av b2 1 2,this⟩
def yK(s:ByteArray):ByteArray:=s.extract 0 (min s.size 30)
theorem wI(s:ByteArray):(yK s).size≤30:=by unfold yK;rw[gC];omega
end Go.Proofs
namespace Go.Proofs
open Go Go.Lift
def LG(p:Pr):Pr:=(yK p.1,yK p.2)
structure Few(n:Nat)(L:List Pr):Prop where
 up:bS L
 len:L.length≤n
 fit:∀p∈L,p.1.size≤30∧p.2.size≤30
theorem Few.ins{n:Nat}{L:List Pr}(f:Few n L)(p:Pr)(b:p.1.size≤30)(h2:p.2.size≤30):Few (n+1) (hJ p L):=
 ⟨yw p f.up,bh (yC p) (by have:=f.len;omega),fun q a=>(AM a).elim (fun e=>by rw[e];exact⟨b,h2⟩) fun h=>f.fit q h⟩
theorem Few.fits{n:Nat}{L:List Pr}(f:Few n L):Fit L:=fun p a=>by have:=f.fit p a;omega
end Go.Proofs
namespace Go.Proofs
open Go Go.Lift
theorem Sl.det{α:Type}{f:α→List Value}{c:Nat}{W W':Nat→Prop}{h:ad}{s:SliceV}{xs ys:List α}(hi:∀x y,f x=f y→x=y)(a:Sl f c W h s xs)(b:Sl f c W' h s ys):xs=ys:=by
 apply List.ext_getElem
 ·rw[←a.len,←b.len]
 ·intro i g h2
  refine hi _ _ (List.ext_getElem? fun j=>?_)
  obtain⟨p,m,_,hv⟩:=a.at (ae g);obtain⟨q,d,_,k⟩:=b.at (ae h2);rw[m]at d;cases d;have t:=(a.ne xs[i]).1;have o:=(b.ne ys[i]).1;by_cases u:j<c
  ·have n:=hv j _ (ae (by omega))
   have e:=k j _ (ae (by omega));rw[n]at e;rw[ae (by omega),ae (by omega)];exact e
  ·rw[lL (by omega),lL (by omega)]
theorem Vd(x y:Pr)(h:eu x=eu y):x=y:=by
 simp only[eu,fi.injEq,Value.string.injEq,and_true]at h;exact Prod.ext h.1 h.2
theorem aay(x y:Option Addr)(h:uJ x=uJ y):x=y:=by
 simpa[uJ]using h
theorem U5(x y:Option Addr)(h:qd x=qd y):x=y:=by
 simpa[qd]using h
theorem MX{d g n n':Nat}{sp sk a b:SliceV}{p c:Bool}{ow e:Option Addr}(h:gc d n sp sk p ow=gc g n' a b c e):d=g∧n=n'∧sp=a∧sk=b:=by
 simp only[gc,Array.mk.injEq,fi.injEq,Value.int.injEq,true_and,sv,Value.slice.injEq,Value.bool.injEq,Value.pointer.injEq,and_true]at h;obtain⟨q,h2,⟨k,i,m⟩,⟨o,j,f⟩,_⟩:=h;refine⟨by omega,by omega,?_,?_⟩
 ·cases sp;cases a;simp only at k i m;subst k i m;rfl
 ·cases sk;cases b;simp only at o j f;subst o j f;rfl
theorem IL{W W':Nat→Prop}{x:Hs}{h:ad}:∀{m b:Nat} {l l':List Pr},TrieAt W x h m b l→TrieAt W' x h m b l'→bS l→bS l'→l=l'
 |0,b,l,l',t,t',_,_=>by
  obtain⟨sp,sk,ow,k,v,_⟩:=t.ex;obtain⟨j,o,u,a,g,_⟩:=t'.ex;rw[k]at a;simp only[bQ.injEq,Obj.cells.injEq,and_true]at a;obtain⟨_,_,rfl,_⟩:=MX a;exact Sl.det Vd v g
 |m+1,b,l,l',⟨s,nd,hc⟩,⟨s',nd',hc'⟩,hr,hr'=>by
  obtain⟨d,n,sp,sk,ow,k,bits,v,J,_⟩:=nd.ex;obtain⟨K,n',j,o,u,a,e,g,i,_⟩:=nd'.ex;rw[k]at a;simp only[bQ.injEq,Obj.cells.injEq,and_true]at a;obtain⟨rfl,rfl,rfl,rfl⟩:=MX a;have G:=JU 32 (fun c hc=>by rw[←bits.dp c hc,e.dp c hc]) (Sl.det Vd v g)
  have I:=JU 32 (fun c hc=>by rw[←bits.nk c hc,e.nk c hc]) (Sl.det aay J i)
  refine Qx (x:=x) (lev:=12-m) hr hr' fun c f=>?_
  have E:=hc c f;have C:=hc' c f;rw[←G c f,←I c f]at C;rcases E with⟨z,h2,A⟩|⟨p,z,h2,A⟩|⟨z,h2,L,A,H⟩<;>rcases C with⟨B,y,w⟩|⟨q,B,y,w⟩|⟨B,y,D,w,F⟩<;>simp_all
  exact IL H F (ju hr) (ju hr')
theorem U6{sl a v e:ByteArray}{b b':Bool}{s s':SliceV}{ow c:Option Addr}(h:B7 sl b v s ow=B7 a b' e s' c):sl=a∧b=b'∧v=e∧s=s':=by
 simp only[B7,Array.mk.injEq,fi.injEq,Value.string.injEq,sv,Value.slice.injEq,Value.bool.injEq,Value.pointer.injEq,and_true]at h;obtain⟨i,h2,j,⟨g,f,d⟩,_⟩:=h;refine⟨i,h2,j,?_⟩;cases s;cases s';simp only at g f d;subst g f d;rfl
theorem Vg{w a:Option ByteArray}{v:ByteArray}(h:w.isSome=a.isSome)(b:v=w.getD ⟨#[]⟩)(h2:v=a.getD ⟨#[]⟩):w=a:=by
 cases w<;>cases a<;>simp_all
theorem SD{W W':Nat→Prop}{h:ad}:∀{F F':Fo} {ks:List (Option Addr)},RxF W h F ks→RxF W' h F' ks→F=F'
 | .nil,.nil,_,_,_=>rfl
 | .nil,.cons ..,ks,c,h2=>by
  obtain⟨b,sl,val,s,ow,d,e,a,_⟩:=h2;have c:ks= []:=c;rw[c]at a;cases a
 | .cons ..,.nil,ks,c,h2=>by
  obtain⟨b,sl,val,s,ow,d,e,a,_⟩:=c;have h2:ks= []:=h2;rw[h2]at a;cases a
 | .cons lab w kids rest,.cons lab' w' kids' rest',ks,⟨b,sl,val,s,ow,d,e,a,e1,e2,e3,e4,e5,e6,e7⟩,⟨b',sl',val',s',ow',ks1',ks'',f0,f1,f2,f3,f4,f5,f6,f7⟩=>by
  rw[a]at f0;simp only[fi.injEq,bQ.injEq,Addr.mk.injEq,and_true]at f0;obtain⟨rfl,rfl⟩:=f0;rw[e2]at f2;simp only[bQ.injEq,Obj.cells.injEq,and_true]at f2;obtain⟨rfl,f,rfl,rfl⟩:=U6 f2;have:=Sl.det U5 e4 f4;subst this;rw[SD e6 f6,SD e7 f7,←e1,←f1,Vg f e3 f3]
end Go.Proofs
