/- A part of the proof that the named laws of this program answer true, whatever the input. -/
import Derived.Test.YtcpiahjlddmfiaaGreatPart5
import Derived.Test.YtcpiahjlddmfiaaGreatPart4
import Derived.Test.YtcpiahjlddmfiaaGreatPart3
open ByteArray renaming size_extract→pU
open List renaming length_singleton→bd,length_map→cL,length_nil→aS,map_append→cZ,map_cons→bK,map_nil→iC,length_append→ad,mem_append_right→cD,mem_singleton→av,pairwise_append→bT,length_cons→ao,take_of_length_le→bj,pairwise_singleton→cd,mem_append→aN,mem_append_left→bU,length_eq_zero_iff→aE,mem_cons_self→au,mem_cons_of_mem→az,flatMap_cons→aK,append_nil→aX,append_assoc→ax,mem_map→bG,mem_cons→aq,not_mem_nil→dZ,pairwise_cons→aB,filter_cons→bl,mem_filter→ci,cons_append→fy,getElem?_eq_getElem→aj,getElem?_eq_none→lG,cons→qu,flatMap_append→bL
open List.Lex renaming nil→wH
open Nat renaming le_refl→al,lt_of_lt_of_le→aC,zero_le→bS,lt_or_ge→cg,le_trans→bI
open Option renaming some→bD
namespace Go.Proofs
open Go Go.Lift
theorem QP{M:Nat→Prop}{h:ac}{so:SliceV}{out:List (SliceV×SliceV)}{p:SliceV×SliceV}{K:SliceV→ac→Prop}(c:OwnS Pd 2 dB M h so out)(f:∀b,h.size≤b→M b)(i:out.length+1≤1000000000)
  (e:∀s' h',OwnS Pd 2 dB M h' s' (out++ [p])→Upd M h h'→K s' h'):
  ∃xs,SRow (hnew h (Pd p) dB) (some (aO h)) (1*2) xs∧AppP (some [.slice none 0 0,.slice none 0 0]) 2 48 dB so.a so.len so.cap 1 xs (hnew h (Pd p) dB) K:=by
 have k:=Upd.hnew No h (Pd p) dB;have g:OwnS Pd 2 dB (fun _=>True) (hnew h (Pd p) dB) ⟨some (aO h),1,1⟩ [p]:=⟨rfl,Qe,al _,.inr ⟨h.size,[],rfl,trivial,bE ..,rfl⟩⟩
 refine⟨_,(g.sl (W:=No) fun _ _ _ h=>h).srow,?_⟩
 refine AppP.own (ys:= [p]) (c.upd k fun _ _ h=>h) rfl rfl rfl rfl (by omega) (by simp only[bd];omega) (f _ (by rw[gt];omega)) fun s' h' a d=>?_
 exact e s' h' a ((Upd.hnew M h _ _).tr d)
set_option maxHeartbeats 2000000 in
theorem Jp{W G0 C0:Nat→Prop}{x:Hs}{h:ac}{J:Nat}{X:List Fr}(cur:CurW W G0 C0 x h J X)(hW0:∀b,h.size≤b→W b){K:(ByteArray×ByteArray)×Bool→ac→Prop}
  (hn:∀h',B0 x X= []→Upd (fun b=>C0 b∨b=J) h h'→K (((⟨#[]⟩:ByteArray),(⟨#[]⟩:ByteArray)),false) h')
  (hs:∀h' u p R G' C',B0 x X=p::R→B0 x u=R→CurW W G' C' x h' J u→(∀b,C' b→C0 b∨h.size≤b)→(∀b,G' b→G0 b∨h.size≤b)→Upd (fun b=>C0 b∨b=J) h h'→K (p,true) h'):
  HC PG oA [.pointer (some ⟨J,0,none⟩)] [.agg [.str,.str],.c .bool] K h:=by
 refine zL (some ⟨J,0,none⟩) ?_;unfold sX aZ cp dY nv aF ay rp m8 dI bR RI Pe;refine bi fun h1 b1 k1=>ai.2 ?_
 have z1:=bo b1;obtain⟨s00,d00,hc0,_⟩:=cur.ex;have zc:=bo hc0;have s1:=k1.size;have cur1:=cur.upd k1 (fun _ h=>h.elim) (fun _ _ h=>h) (fun _ _ h=>h) fun h=>h
 refine LoopP.ghost (fun(g:List Fr×(Nat→Prop)×(Nat→Prop)) (_:Unit) h'=>CurW W g.2.1 g.2.2 x h' J g.1∧B0 x g.1=B0 x X∧(∀b,g.2.2 b→(C0 b∨h.size≤b)∧b≠h.size)∧(∀b,g.2.1 b→(G0 b∨h.size≤b)∧b≠h.size)∧h'[h.size]? =some (.cells zPrL.toArray ag (0,0))∧Upd (fun b=>C0 b∨b=J) h h') (fun g=>Dt x g.1) (X,G0,C0)
  ⟨cur1,rfl,fun b t=>⟨.inl t,by have:=cur.lt b (.inl t);omega⟩,fun b t=>⟨.inl t,by have:=cur.lt b (.inr t);omega⟩,b1,k1.wide⟩ ?_
 rintro I ⟨fs,G,C⟩ ⟨⟩ h' ⟨v,N,E,S,bz,hu⟩ hI;simp only at v N E S;obtain⟨s,d,aI,P⟩:=v.ex;have Y:=P.len;rw[cL]at Y;have hzs:h.size<h'.size:=bo bz;have zcb:=bo aI;refine⟨_,rfl,s,vc aI 0,?_⟩;refine aD (fun hpos=>?_) fun hnp=>?_
 ·obtain⟨u,f,rfl⟩:∃u f,fs=u++ [f]:=by
   rcases IG fs with rfl|⟨l',y,e⟩
   ·simp only[aS]at Y;omega
   ·exact⟨l',y,e⟩
  rw[cZ,bK,iC]at P;rw[ad,bd]at Y;have h14:=P1 (n:=13) v.lv fun f hf=>(v.ok f hf).n13
  rw[ad,bd]at h14;have eidx:IntKind.wrap .i64 ((s.len:Int)-1)=((u.length:Nat):Int):=by rw[d8 (by omega)];omega
  obtain⟨a,ha,hv⟩:=lI P (i:=u.length) (by rw[cL]);have fo:=v.ok f (cD _ (av.2 rfl));have hpl:=fo.p.len;have hkl:=fo.k.len;rw[cL]at hkl;have hpc:=fo.pc;have hkc:=fo.kc;have hcap:=P.cap;refine⟨_,rfl,s,vc aI 0,_,rfl,s,vc aI 0,?_⟩;rw[eidx];refine⟨⟨by omega,by omega⟩,a,ha,_,rfl,f.sp,hv 0 _ rfl,?_⟩
  have keep:∀{h2:ac} {M:Nat→Prop},Upd M h' h2→(∀b,M b→C b∨b=J∨b=h.size∨h'.size≤b)→∀{g:Fr},g.Ok W G x h'→g.Ok W G x h2:=fun{h2 M} k hM {g} o=>o.upd k (fun b t=>by
   rcases hM b t with h|h|h|h
   ·exact .inl (v.cw.1 b h)
   ·exact .inl (by rw[h];exact v.cw.2)
   ·exact .inl (by rw[h];exact hW0 _ (al _))
   ·exact .inr h) fun b t=>by
   rcases hM b t with h|h|h|h
   ·exact .inl fun L=>(v.dj b L).1 h
   ·exact .inl fun L=>(v.dj b L).2 h
   ·exact .inl fun L=>(S b L).2 h
   ·exact .inr h
  have U:=bT.1 v.lv;have hrs:=ye x u f;have hcs:=zH x u f;refine aD (fun hp=>?_) fun hp=>?_
  ·
   rcases O:f.ps with _|⟨p,ps⟩
   ·rw[O]at hpl;simp only[aS]at hpl;omega
   have fop:=fo.p;rw[O]at fop hpl;simp only[ao]at hpl;obtain⟨ap,hap,_,hvp⟩:=fop.at (i:=0) (x:=p) rfl;refine⟨_,rfl,f.sp,hv 0 _ rfl,⟨by omega,by omega⟩,ap,hap,p.1,hvp 0 _ rfl,p.2,hvp 1 _ rfl,?_⟩
   refine PX (p:=p) fun h8 b8 k8=>?_
   have z8:=bo b8;have hst8:=P.upd k8 fun _ _ h=>h
   obtain⟨a',ha',hv8⟩:=lI hst8 (i:=u.length) (by rw[cL]);rw[ha]at ha';cases ha';refine⟨_,rfl,f.sp,hv8 0 _ rfl,⟨by omega,by omega⟩,_,rfl,?_⟩
   let Q:Fr:=⟨⟨aJ f.sp.a 1 f.sp.cap 2,f.sp.len-1,f.sp.cap-1⟩,f.sk,f.n,ps,f.ks⟩
   refine Nc hst8 (y:=Q.raw) (j:=0) (by omega) rfl ha (by simp) fun h9 ho9 T=>?_
   have c9:=T.get (k8.get0 aI) v.cc;refine⟨_,rfl,s,vc c9 0,_,rfl,?_⟩;refine F5 (i:=1) (c':=UK s (s.len:Int)) c9 (show 1<2 by decide) rfl fun h10 c10 z=>?_
   have hCh:∀b,C b→b<h'.size:=fun b t=>v.lt b (.inl t)
   have b9:=T.get b8 fun hx=>by have:=hCh _ hx;omega
   have b10:=z.oth b9 (by omega);refine⟨_,vc b10 0,_,vc b10 1,?_⟩;have bz10:=z.oth (T.get (k8.get0 bz) fun hx=>(E _ hx).2 rfl) (by omega)
   refine cO (c:=zPrL) (vs:= [.string p.1,.string p.2]) bz10 rfl fun H b11 A=>?_
   refine⟨_,vc b11 0,_,vc b11 1,?_⟩;have c11:=A.oth c10 (by omega);have w:Upd (fun b=>C b∨b=J∨b=h.size∨h'.size≤b) h' H:=((k8.wide.trans T fun b t=>.inl (.inl t)).trans z fun b t=>.inl (.inr (.inl t))).trans A fun b t=>.inl (.inr (.inr (.inl t)))
   have ho11:OwnS Pd 2 dB C H s ((u++ [Q]).map Fr.raw):=by
    rw[cZ,bK,iC];exact(ho9.upd z fun b t e=>by have e:b=J:=e;rw[e]at t;exact v.cc t).upd A fun b t e=>(E b t).2 e
   have fo':Q.Ok W G x H:=by
    have o:=keep w (fun b t=>t) fo
    refine⟨?_,o.k,by show f.sp.len-1≤f.sp.cap-1;omega,o.kc,o.t,o.n0,o.n13⟩
    have op:=o.p;rw[O]at op;have:=Sl.sub op (l:=1) (hi:=(p::ps).length) (m:=f.sp.cap) (c:=f.sp.cap-1) (by simp) (al _) (by simp only[ao];omega);rw[List.drop_one,List.tail_cons,bj (by simp)]at this;have e:(p::ps).length-1=f.sp.len-1:=by simp only[ao];omega
    rw[e]at this;exact this
   refine hs H (u++ [Q]) p (Q.rem x++B0 x u) G C ?_ (ye x u Q) ⟨⟨s,_,c11,ho11⟩,fun g L=>?_,fun b t=>aC (v.lt b t) w.size,v.dj,v.cc,v.cw,bT.2 ⟨U.1,cd ..,fun g L g' D=>by rw[av.1 D];exact U.2.2 g L f (av.2 rfl)⟩⟩ (fun b t=>(E b t).1) (fun b t=>(S b t).1) ?_
   ·rw[←N,hrs]
    unfold Fr.rem;rw[O];rfl
   ·rcases aN.1 L with L|L
    ·exact keep w (fun b t=>t) (v.ok g (bU _ L))
    ·rw[av.1 L];exact fo'
   ·refine hu.trans w fun b t=>?_
    rcases t with h|h|h|h
    ·exact(E b h).1.imp .inl id
    ·exact .inl (.inr h)
    ·exact .inr (by omega)
    ·exact .inr (by omega)
  ·have O:f.ps= []:=aE.1 (by omega)
   refine⟨_,rfl,f.sk,hv 1 _ rfl,?_⟩;refine aD (fun hk=>?_) fun hk=>?_
   ·
    rcases F:f.ks with _|⟨kd,ks⟩
    ·rw[F]at hkl;simp only[aS]at hkl;omega
    have fok:=fo.k;rw[F]at fok hkl;simp only[ao]at hkl;rw[bK]at fok;obtain⟨ap,hap,_,hvp⟩:=fok.at0 (i:=0) (x:=Kh kd) rfl;have hfn:0<f.n:=fo.n0 (by rw[F];simp);have hf13:=fo.n13;refine⟨_,rfl,f.sk,hv 1 _ rfl,⟨by omega,by omega⟩,ap,hap,_,hvp,_,rfl,f.sk,hv 1 _ rfl,⟨by omega,by omega⟩,_,rfl,?_⟩
    let Q:Fr:=⟨f.sp,⟨aJ f.sk.a 1 f.sk.cap 1,f.sk.len-1,f.sk.cap-1⟩,f.n,f.ps,ks⟩
    refine Nc P (y:=Q.raw) (j:=1) (by omega) rfl ha (by simp) fun h8 ho8 B=>?_
    have c8:=B.get aI v.cc;have V:Upd (fun b=>C b∨b=J∨b=h.size∨h'.size≤b) h' h8:=B.mono fun b t=>.inl (.inl t)
    have s8:=B.size;refine⟨_,rfl,s,vc c8 0,?_⟩;have fo8:=keep V (fun b t=>t) fo
    obtain⟨tk,hkn⟩:=fo8.t kd (by rw[F];exact au ..);refine GH tk (by omega) hkn fun h9 g hgn hgr hgc go k9=>?_
    have c9:=k9.get0 c8;have s9:=k9.size;refine⟨vc c9 0,bw ⟨vc ((Upd.hnew No h9 (Pd g.raw) dB).get0 c9) 0,?_⟩⟩;have hC9:∀b,C b→b<h9.size:=fun b t=>by have:=v.lt b (.inl t);omega
    refine QP (M:=fun b=>C b∨h9.size≤b) (p:=g.raw) ((ho8.upd k9 fun _ _ h=>h).more fun b t=>.inl t) (fun b t=>.inr t) (by rw[ad,cL,bd];omega) fun Tc h10 ho10 z=>?_
    have s10':=z.size;have c10:=z.get c9 (by rintro(hx|hx);exact v.cc hx;omega)
    refine⟨_,rfl,?_⟩;refine F5 (i:=0) (c':=UK Tc d) c10 (show 0<2 by decide) rfl fun H c11 A=>?_
    have s11:=A.size;have w:Upd (fun b=>C b∨b=J∨b=h.size∨h'.size≤b) h' H:=((V.tr k9.wide).trans z fun b t=>t.elim (fun h=>.inl (.inl h)) fun h=>.inr (by omega)).trans A fun b t=>.inl (.inr (.inl t))
    have bz11:=A.oth (z.get (k9.get0 (B.get bz fun hx=>(E _ hx).2 rfl)) (by rintro(hx|hx);exact(E _ hx).2 rfl;omega)) (by omega)
    have hGl:∀b,G b→b<h'.size:=fun b t=>v.lt b (.inr t)
    refine hI (u++ [Q]++ [g],fun b=>G b∨(h8.size≤b∧b<h9.size),fun b=>(C b∨h9.size≤b)∧b<h10.size) () H ⟨⟨⟨Tc,d,c11,?_⟩,fun g' D=>?_,fun b t=>?_,fun b t=>?_,fun t=>?_,⟨fun b t=>?_,v.cw.2⟩,?_⟩,?_,fun b t=>?_,fun b t=>?_,bz11,?_⟩ ?_
    ·rw[cZ,cZ,bK,iC,bK,iC]
     exact ho10.within.upd A fun b t e=>by
      have e:b=J:=e;rw[e]at t;rcases t.1 with h|h
      ·exact v.cc h
      ·omega
    ·have Z:∀{q:Fr},q.Ok W G x H→q.Ok W (fun b=>G b∨(h8.size≤b∧b<h9.size)) x H:=fun o=>o.sub fun b t=>.inl t
     rcases aN.1 D with D|D
     ·rcases aN.1 D with D|D
      ·exact Z (keep w (fun b t=>t) (v.ok g' (bU _ D)))
      ·rw[av.1 D]
       have o:=keep w (fun b t=>t) fo
       refine Z ⟨o.p,?_,o.pc,by show f.sk.len-1≤f.sk.cap-1;omega,fun q hq=>o.t q (by rw[F];exact az _ hq),fun _=>hfn,hf13⟩
       have op:=o.k;rw[F,bK]at op;have:=Sl.sub op (l:=1) (hi:=(Kh kd::ks.map Kh).length) (m:=f.sk.cap) (c:=f.sk.cap-1) (by simp) (al _) (by simp only[ao,cL];omega);rw[List.drop_one,List.tail_cons,bj (by simp)]at this;have e:(Kh kd::ks.map Kh).length-1=f.sk.len-1:=by simp only[ao,cL];omega
       rw[e]at this;exact this
     ·rw[av.1 D]
      have o1:=go.upd z (fun b t=>t.elim (fun h=>.inl (v.cw.1 b h)) .inr) fun b t=>t.elim (fun h=>.inl fun L=>by have:=v.lt b (.inl h);omega) .inr
      have o2:=o1.upd A (fun b t=>.inl (by have t:b=J:=t;rw[t];exact v.cw.2)) fun b t=>.inl fun L=>by have t:b=J:=t;omega
      exact o2.sub fun b t=>.inr t
    ·rcases t with t|t|t
     ·omega
     ·have:=hGl b t;omega
     ·omega
    ·refine⟨fun hc=>?_,fun e=>?_⟩
     ·rcases t with t|t
      ·rcases hc.1 with h|h
       ·exact(v.dj b t).1 h
       ·have:=hGl b t;omega
      ·rcases hc.1 with h|h
       ·have:=v.lt b (.inl h);omega
       ·omega
     ·subst e
      rcases t with t|t
      ·exact(v.dj _ t).2 rfl
      ·omega
    ·rcases t.1 with h|h
     ·exact v.cc h
     ·omega
    ·rcases t.1 with h|h
     ·exact v.cw.1 b h
     ·exact hW0 b (by omega)
    ·refine bT.2 ⟨bT.2 ⟨U.1,cd ..,fun q hq q' hq'=>by rw[av.1 hq'];exact U.2.2 q hq f (av.2 rfl)⟩,cd ..,fun q hq q' hq'=>?_⟩
     rw[av.1 hq',hgn];rcases aN.1 hq with hq|hq
     ·have:=U.2.2 q hq f (av.2 rfl);omega
     ·rw[av.1 hq];show f.n-1<f.n;omega
    ·rw[ye,ye,←N,hrs,hgr]
     unfold Fr.rem;rw[O,F,aK];simp;rfl
    ·refine⟨?_,?_⟩
     ·rcases t.1 with h|h
      ·exact(E b h).1
      ·exact .inr (by omega)
     ·rcases t.1 with h|h
      ·exact(E b h).2
      ·omega
    ·refine⟨?_,?_⟩
     ·rcases t with h|h
      ·exact(S b h).1
      ·exact .inr (by omega)
     ·rcases t with h|h
      ·exact(S b h).2
      ·omega
    ·refine hu.trans w fun b t=>?_
     rcases t with h|h|h|h
     ·exact(E b h).1.imp .inl id
     ·exact .inl (.inr h)
     ·exact .inr (by omega)
     ·exact .inr (by omega)
    ·show Dt x (u++ [Q]++ [g])<Dt x (u++ [f])
     rw[zH,zH,hcs];have e1:f.cost x=Q.cost x+cw x (f.n-1) kd.2:=by
      unfold Fr.cost;rw[F,bK,List.sum_cons];have e0:(Q.ks.map fun k=>cw x (Q.n-1) k.2).sum=(ks.map fun k=>cw x (f.n-1) k.2).sum:=rfl
      omega
     omega
   ·
    have F:f.ks= []:=aE.1 (by omega);refine⟨_,rfl,s,vc aI 0,_,rfl,s,vc aI 0,?_⟩;rw[eidx];refine⟨⟨by omega,by omega⟩,?_⟩
    simp only[Bd];refine⟨_,rfl,?_⟩;refine F5 (i:=0) (c':=UK ⟨aJ s.a 0 s.cap 2,u.length,s.cap⟩ d) aI (show 0<2 by decide) rfl fun h8 c8 B=>?_
    have hpop:=OwnS.pop P;rw[cL]at hpop;have w:Upd (fun b=>C b∨b=J∨b=h.size∨h'.size≤b) h' h8:=B.mono fun b t=>.inl (.inr (.inl t))
    refine hI (u,G,C) () h8 ⟨⟨⟨_,d,c8,hpop.upd B fun b t e=>by have e:b=J:=e;rw[e]at t;exact v.cc t⟩,fun g L=>keep w (fun b t=>t) (v.ok g (bU _ L)),fun b t=>aC (v.lt b t) w.size,v.dj,v.cc,v.cw,U.1⟩,?_,E,S,B.oth bz (by omega),hu.trans B fun b t=>.inl (.inr t)⟩ ?_
    ·rw[←N,hrs]
     unfold Fr.rem;rw[O,F];rfl
    ·show Dt x u<Dt x (u++ [f])
     rw[hcs];unfold Fr.cost;omega
 ·have h0:fs= []:=aE.1 (by omega)
  subst h0;refine⟨_,rfl,?_⟩;refine F5 (i:=1) (c':=UK s 0) aI (show 1<2 by decide) rfl fun h8 c8 B=>?_
  refine cO (c:=zPrL) (vs:=zPrL) (B.oth bz (by omega)) rfl fun h9 b9 T=>?_
  refine⟨_,vc b9 0,_,vc b9 1,hn h9 N.symm ((hu.trans B fun b t=>.inl (.inr t)).trans T fun b t=>.inr (Nat.le_of_eq (Eq.symm t)))⟩
end Go.Proofs
namespace Go.Proofs
open Go Go.Lift
def Below(W:Nat→Prop)(x:Hs)(h:ac)(m:Nat)(r:Option Addr)(l:List Pr):Prop:=(r=none∧l= [])∨∃b,r=some ⟨b,0,none⟩∧TrieAt W x h m b l
theorem Below.upd0{W:Nat→Prop}{x:Hs}{h h':ac}{m:Nat}{r:Option Addr}{l:List Pr}(k:Upd No h h')(t:Below W x h m r l):Below W x h' m r l:=t.imp id fun⟨b,e,t⟩=>⟨b,e,TrieAt.upd0 k t⟩
theorem Below.less{W W':Nat→Prop}{x:Hs}{h:ac}{m:Nat}{r:Option Addr}{l:List Pr}(hm:∀b,W' b→W b∨h.size≤b)(t:Below W x h m r l):Below W' x h m r l:=t.imp id fun⟨b,e,t⟩=>⟨b,e,TrieAt.less hm t⟩
theorem Below.updM{W M:Nat→Prop}{x:Hs}{h h':ac}{m:Nat}{r:Option Addr}{l:List Pr}(k:Upd M h h')(hm:∀b,M b→W b∨h.size≤b)(t:Below W x h m r l):Below W x h' m r l:=t.imp id fun⟨b,e,t⟩=>⟨b,e,TrieAt.updM k hm t⟩
theorem SU(x:Hs):∀m,wl x m []= []
 |0=>rfl
 |m+1=>aE.1 (Nat.le_zero.1 (HO x (m+1) []))
theorem Lg{W:Nat→Prop}{x:Hs}{h:ac}{m:Nat}{r:Option Addr}{l:List Pr}(t:Below W x h m r l)(hm:m≤13)(n:l.length≤100000){K:SliceV×SliceV→ac→Prop}
  (a:∀h' f,Fr.rem x f=wl x m l→f.Ok W (fun y=>h.size≤y∧y<h'.size) x h'→Upd No h h'→K f.raw h'):HC PG uZ [.pointer r] [.agg [.slice,.slice]] K h:=by
 rcases t with⟨rfl,rfl⟩|⟨b,rfl,t⟩
 ·refine HG none ?_
  unfold CN dY uE Pe SV;refine bi fun o b1 k1=>?_
  refine tW none ?_;unfold pH bR;refine ar.2 (vl none ?_);unfold qm bR;refine ar.2 ?_;refine cO (c:= [.slice none 0 0,.slice none 0 0]) (vs:= [.slice none 0 0,.slice none 0 0]) b1 rfl fun d g e=>?_
  refine⟨⟨none,0,0⟩,vc g 0,⟨none,0,0⟩,vc g 1,?_⟩;refine a d ⟨⟨none,0,0⟩,⟨none,0,0⟩,0,[],[]⟩ ?_ ⟨Sl.nil gS,Sl.nil rz,al _,al _,fun k a=>(by cases a),fun h=>absurd rfl h,bS _⟩ (k1.own e (al _))
  rw[SU];rfl
 ·exact GH t hm n fun h' f _ i _ d j=>a h' f i d j
theorem Lh{W:Nat→Prop}{x:Hs}{h:ac}{m:Nat}{r:Option Addr}{l:List Pr}(t:Below W x h m r l)(hm:m≤13)(o:l.length≤100000)(n:∀y,h.size≤y→W y){K:Option Addr→ac→Prop}
  (v:∀h' cb f G C,h.size≤cb→(∀y,G y∨C y→h.size≤y)→CurW W G C x h' cb [f]→f.rem x=wl x m l→Upd No h h'→K (some ⟨cb,0,none⟩) h'):HC PG zz [.pointer r] [.c .ptr] K h:=by
 refine MF r ?_;unfold FO RI;refine Lg t hm o fun b f c s k=>?_
 refine bi fun j b3 e=>bi fun q i d=>?_
 have z:=bo b3;have B:=bo i;have A:=k.size;have w:=e.size;have u:OwnS Pd 2 dB (fun y=>y=b.size) j ⟨some (aO b),1,1⟩ [f.raw]:=⟨rfl,Qe,al _,.inr ⟨b.size,[],rfl,rfl,b3,rfl⟩⟩
 refine v q j.size f (fun y=>h.size≤y∧y<b.size) (fun y=>y=b.size) (by omega) (fun y a=>by rcases a with h|h<;>omega) ⟨⟨_,0,i,u.upd d fun _ _ h=>h⟩,fun g p=>?_,fun y a=>by rcases a with h|h<;>omega,fun y a=>⟨by omega,by omega⟩,by omega,⟨fun y a=>n y (by omega),n _ (by omega)⟩,cd ..⟩ c ((k.tr e).tr d)
 rw[av.1 p];exact s.upd (e.tr d) (fun _ h=>h.elim) fun _ h=>h.elim
theorem Li{W:Nat→Prop}{x:Hs}{h:ac}{m:Nat}{r:Option Addr}{l:List Pr}(t:Below W x h m r l)(hm:m≤13)(hn:l.length≤100000){K:Value→ac→Prop}
  (hk:∀fv h',Gives PG fv TF l.length (fun xs=>xs=wl x m l) (fun y=>y<h'.size) h'→Upd No h h'→K fv h'):HC PG zA [.pointer r] [.c .raw] K h:=by
 refine MG r ?_;unfold FP;refine bi fun z b1 k1=>?_
 have z1:=bo b1;refine hk _ z ?_ k1;have t1:=Below.less (W':=fun y=>z.size≤y) (fun y a=>.inr a) (Below.upd0 k1 t)
 have hwl:=HO x m l;refine⟨fun y a=>a,sf,#[],_,rfl,fun y J A M S K' w hj hu hq ha hk'=>?_⟩
 refine GA y (aO h) ?_;unfold wE nv ru ay rp vR;have d1:=hu.get b1 (hq _ z1);have s4:=hu.size;have t4:Below (fun y=>z.size≤y) x S m r l:=Below.updM hu (fun y a=>.inl (by
  rcases cg y z.size with P|P
  ·exact absurd a (hq y P)
  ·exact P)) t1
 refine⟨_,aL d1,?_⟩;refine Lh t4 hm hn (fun y a=>bI s4 a) fun h5 Z f G C hcb H cur hfr k5=>?_
 have k:=w.lt _ _ _ hj;have hA3:∀y,A y→z.size≤y:=fun y a=>by
  rcases cg y z.size with P|P
  ·exact absurd P (ha y a)
  ·exact P
 have s5:=k5.size;have O:B0 x [f]=wl x m l:=by rw[←hfr];simp[B0]
 refine LoopP.ghost (fun(g:List Pr×List Fr×(Nat→Prop)×(Nat→Prop)×(Nat→Prop)) (_:Unit) h'=>CurW (fun y=>z.size≤y) g.2.2.2.1 g.2.2.2.2 x h' Z g.2.1∧J g.1 g.2.2.1 h'∧Upd A S h'∧(∀y,g.2.2.1 y→(A y∨S.size≤y)∧¬g.2.2.2.1 y∧¬g.2.2.2.2 y∧y≠Z)∧(∀y,g.2.2.2.1 y∨g.2.2.2.2 y→S.size≤y)∧g.1++B0 x g.2.1=wl x m l∧h5.size≤h'.size) (fun g=>(B0 x g.2.1).length) ([],[f],A,G,C)
  ⟨cur,w.keep _ _ _ _ No hj k5 (fun _ _ h=>h),k5.wide,fun y a=>⟨.inl a,fun hx=>by have:=k y a;have:=H y (.inl hx);omega,fun hx=>by have:=k y a;have:=H y (.inr hx);omega,fun e=>by have:=k y a;omega⟩,H,by rw[O];rfl,al _⟩ ?_
 rintro I ⟨pre,fs,A1,G1,C1⟩ ⟨⟩ h' ⟨cu,o,hu',b,i,c,hsz⟩ hI;simp only at cu o b i c;have B:=w.lt _ _ _ o;have hA1W:∀y,A1 y→z.size≤y:=fun y a=>(b y a).1.elim (hA3 y) fun h=>by omega
 have hd:∀y,A1 y→¬(C1 y∨y=Z):=fun y a hx=>hx.elim (b y a).2.2.1 (b y a).2.2.2
 have hC4:∀y,C1 y∨y=Z→S.size≤y:=fun y a=>a.elim (fun h=>i y (.inr h)) fun e=>by omega
 refine Jp cu (fun y a=>by omega) (fun h6 hr0 j=>?_) fun h6 fs' p R G' C' E V q Y X j=>?_
 ·have N:=w.keep _ _ _ _ _ o j hd
  refine EZ fun T b7 L=>?_
  refine Join.intro (fun t u=>t=true∧u=T) (fun R hR=>ar.2 (hR _ _ ⟨rfl,rfl⟩)) ?_
  rintro t u ⟨rfl,rfl⟩;refine ar.2 (hk' pre A1 u ?_ (w.keep _ _ _ _ No N L (fun _ _ h=>h)) ?_ fun y a=>(b y a).1)
  ·rw[hr0,aX]at c
   exact c
  ·exact(hu'.trans j fun y a=>.inr (hC4 y a)).tr L.wide
 ·have N:=w.keep _ _ _ _ _ o j hd
  refine EZ (p:=p) fun T b7 L=>?_
  have hj7:=w.keep _ _ _ _ No N L (fun _ _ h=>h)
  have cu7:=q.upd L (fun _ h=>h.elim) (fun _ _ h=>h) (fun _ _ h=>h) fun h=>h
  have hu47:Upd A S T:=(hu'.trans j fun y a=>.inr (hC4 y a)).tr L.wide
  have s6:=j.size;have s7:=L.size;refine Join.intro (fun t u=>t=false∧∃U,J (pre++ [p]) U u∧Upd A1 T u∧∀y,U y→A1 y∨T.size≤y) (fun R' hR=>?_) ?_
  ·refine ai.2 ⟨_,vc b7 0,_,vc b7 1,?_⟩
   refine w.step pre A1 T p _ hj7 ?_ fun u U F n Q=>hR _ _ ⟨rfl,U,F,n,Q⟩
   have:=congrArg List.length c;rw[E]at this;simp only[ad,ao]at this;omega
  ·rintro t u ⟨rfl,U,F,n,Q⟩
   have D:∀y,G' y→¬A1 y:=fun y a hx=>(X y a).elim (b y hx).2.1 fun h=>by have:=B y hx;omega
   have v:∀y,C' y→¬A1 y:=fun y a hx=>(Y y a).elim (b y hx).2.2.1 fun h=>by have:=B y hx;omega
   have hcb6:Z<h6.size:=by obtain⟨s,d,hx,_⟩:=q.ex;exact bo hx
   refine ai.2 (hI (pre++ [p],fs',U,G',C') () u ⟨?_,F,?_,fun y a=>?_,fun y a=>?_,?_,by have:=n.size;omega⟩ ?_)
   ·exact cu7.upd n (fun y a=>.inl (hA1W y a)) v D fun hx=>(b _ hx).2.2.2 rfl
   ·exact hu47.trans n fun y a=>(b y a).1
   ·rcases Q y a with h|h
    ·exact⟨(b y h).1,fun hx=>D y hx h,fun hx=>v y hx h,(b y h).2.2.2⟩
    ·exact⟨.inr (by omega),fun hx=>by have:=q.lt y (.inr hx);omega,fun hx=>by have:=q.lt y (.inl hx);omega,by omega⟩
   ·rcases a with a|a
    ·rcases X y a with h|h
     ·exact i y (.inl h)
     ·omega
    ·rcases Y y a with h|h
     ·exact i y (.inr h)
     ·omega
   ·simp only
    rw[ax,V,←c,E];rfl
   ·simp only
    rw[E,V];simp
theorem F3{W W':Nat→Prop}{x:Hs}{h:ac}{m:Nat}{r:Option Addr}{l:List Pr}(t:Below W x h m r l)(hm:m≤13)(o:bV l)(g:l.length≤100000)(b:∀y,W' y→y<h.size){K:SliceV→ac→Prop}
  (u:∀s' h',Sl eJ 2 W' h' s' l→s'.len≤s'.cap→Upd No h h'→K s' h'):HC PG uH [.pointer r] [.c .slice] K h:=by
 refine Gq r ?_;unfold yU;refine Li t hm g fun w A i d=>?_
 refine Kw i (by omega) fun v z xs e j f=>?_
 subst e;have k:=HO x m l;refine N0 (W':=W') (j.sl (W:=No) fun _ _ _ h=>h) (fun y q=>aC (b y q) (d.tr f).size) (by omega) fun s n a c p=>?_
 rw[S8 o]at a;exact u s n a c ((d.tr f).tr p)
end Go.Proofs
namespace Go.Proofs
open Go.Lift
abbrev Ch:=ByteArray×ByteArray×ByteArray×Bool×Bool
abbrev Jm(c:Ch):List Value:= [.string c.1,.string c.2.1,.string c.2.2.1,.bool c.2.2.2.1,.bool c.2.2.2.2]
def Gn(p:Pr):Ch:=(p.1,p.2,⟨#[]⟩,true,false)
def Rc(p:Pr):Ch:=(p.1,⟨#[]⟩,p.2,false,true)
def im:List Pr→List Pr→List Ch
 | [],B=>B.map Rc
 |a::A,[]=>Gn a::im A []
 |a::A,b::B=>if kl a.1 b.1 then Gn a::im A (b::B)else if kl b.1 a.1 then Rc b::im (a::A) B else if a.2=b.2 then im A B else(a.1,a.2,b.2,true,true)::im A B
termination_by A B=>A.length+B.length
theorem iY(B:List Pr):im [] B=B.map Rc:=by unfold im;rfl
theorem vg:∀A:List Pr,im A []=A.map Gn
 | []=>by rw[iY];rfl
 |a::A=>by unfold im;rw[vg A];rfl
theorem qX(a b:Pr)(A B:List Pr):im (a::A) (b::B)=if kl a.1 b.1 then Gn a::im A (b::B)else if kl b.1 a.1 then Rc b::im (a::A) B else if a.2=b.2 then im A B else(a.1,a.2,b.2,true,true)::im A B:=by
 conv=>lhs;unfold im
theorem E4{a b:ByteArray}(h:kl a b):¬kl b a:=fun k=>cn _ (gU h k)
theorem sQ{a:Pr}{A:List Pr}:∀{B:List Pr},(∀q∈B,kl a.1 q.1)→im (a::A) B=Gn a::im A B
 | [],_=>by rw[vg,vg];rfl
 |b::B,h=>by rw[qX,if_pos (h b (au ..))]
theorem sP{b:Pr}{B:List Pr}:∀{A:List Pr},(∀q∈A,kl b.1 q.1)→im A (b::B)=Rc b::im A B
 | [],_=>by rw[iY,iY];rfl
 |a::A,h=>by
  have h:=h a (au ..);rw[qX,if_neg (E4 h),if_pos h]
theorem AR:∀A:List Pr,im A A= []
 | []=>by rw[iY];rfl
 |a::A=>by rw[qX,if_neg (cn _),if_neg (cn _),if_pos rfl,AR A]
def xN(a b:Pr):List Ch:=if a.2=b.2 then[]else[(a.1,a.2,b.2,true,true)]
theorem sO{a b:Pr}(e:a.1=b.1)(A B:List Pr):im (a::A) (b::B)=xN a b++im A B:=by
 rw[qX,e,if_neg (cn _),if_neg (cn _)];unfold xN;split
 ·rfl
 ·rw[←e];rfl
theorem ym:∀{A B:List Pr} {c:Ch},c∈im A B→∃p,p∈A++B∧c.1=p.1
 | [],B,c,h=>by
  rw[iY]at h;obtain⟨p,d,e⟩:=bG.1 h;exact⟨p,d,by rw[←e];rfl⟩
 |a::A,[],c,h=>by
  rw[vg]at h;obtain⟨p,d,e⟩:=bG.1 h;exact⟨p,bU _ d,by rw[←e];rfl⟩
 |a::A,b::B,c,h=>by
  rw[qX]at h;by_cases i:kl a.1 b.1
  ·rw[if_pos i]at h
   rcases aq.1 h with h|h
   ·exact⟨a,au ..,by rw[h];rfl⟩
   ·obtain⟨p,d,e⟩:=ym h
    exact⟨p,az _ d,e⟩
  ·rw[if_neg i]at h
   by_cases g:kl b.1 a.1
   ·rw[if_pos g]at h
    rcases aq.1 h with h|h
    ·exact⟨b,cD _ (au ..),by rw[h];rfl⟩
    ·obtain⟨p,d,e⟩:=ym h
     refine⟨p,?_,e⟩;rcases aN.1 d with d|d
     ·exact bU _ d
     ·exact cD _ (az _ d)
   ·rw[if_neg g]at h
    have f:c∈im A B→∃p,p∈a::A++b::B∧c.1=p.1:=fun h=>by
     obtain⟨p,d,e⟩:=ym h;refine⟨p,?_,e⟩;rcases aN.1 d with d|d
     ·exact bU _ (az _ d)
     ·exact cD _ (az _ d)
    split at h
    ·exact f h
    ·rcases aq.1 h with h|h
     ·exact⟨a,au ..,by rw[h]⟩
     ·exact f h
termination_by A B=>A.length+B.length
theorem nL{P:List Pr→List Pr→Prop}(nil:P [] [])(c:∀a A B,bV (a::A)→bV B→(∀q∈B,kl a.1 q.1)→P A B→P (a::A) B)
  (d:∀b A B,bV A→bV (b::B)→(∀q∈A,kl b.1 q.1)→P A B→P A (b::B))(same:∀a b A B,a.1=b.1→bV (a::A)→bV (b::B)→P A B→P (a::A) (b::B)):
  ∀{A B:List Pr},bV A→bV B→P A B
 | [],[],_,_=>nil
 | [],b::B,hA,hB=>d b [] B hA hB (fun _ h=>absurd h dZ) (nL nil c d same hA (aB.1 hB).2)
 |a::A,[],hA,hB=>c a A [] hA hB (fun _ h=>absurd h dZ) (nL nil c d same (aB.1 hA).2 hB)
 |a::A,b::B,hA,hB=>by
  have i:=aB.1 hA;have g:=aB.1 hB;by_cases m:kl a.1 b.1
  ·refine c a A (b::B) hA hB (fun q f=>?_) (nL nil c d same i.2 hB)
   rcases aq.1 f with f|f
   ·rw[f];exact m
   ·exact gU m (g.1 q f)
  ·by_cases j:kl b.1 a.1
   ·refine d b (a::A) B hA hB (fun q f=>?_) (nL nil c d same hA g.2)
    rcases aq.1 f with f|f
    ·rw[f];exact j
    ·exact gU j (i.1 q f)
   ·have e:a.1=b.1:=Decidable.byContradiction fun k=>j (rB m k)
    exact same a b A B e hA hB (nL nil c d same i.2 g.2)
termination_by A B=>A.length+B.length
abbrev FJ(l:List Ch):Prop:=l.Pairwise fun p q=>kl p.1 q.1
theorem ES{A B:List Pr}(g:bV A)(f:bV B):FJ (im A B):=by
 refine nL (P:=fun A B=>FJ (im A B)) ?_ (fun a A B g _ h i=>?_) (fun b A B _ f h i=>?_) (fun a b A B e g f i=>?_) g f
 ·rw[iY];exact .nil
 ·rw[sQ h]
  refine aB.2 ⟨fun c hc=>?_,i⟩
  obtain⟨p,d,e⟩:=ym hc;rw[e];rcases aN.1 d with d|d
  ·exact(aB.1 g).1 p d
  ·exact h p d
 ·rw[sP h]
  refine aB.2 ⟨fun c hc=>?_,i⟩
  obtain⟨p,d,e⟩:=ym hc;rw[e];rcases aN.1 d with d|d
  ·exact h p d
  ·exact(aB.1 f).1 p d
 ·rw[sO e]
  unfold xN;split
  ·exact i
  ·refine aB.2 ⟨fun c hc=>?_,i⟩
   obtain⟨p,d,j⟩:=ym hc;rw[j];rcases aN.1 d with d|d
   ·exact(aB.1 g).1 p d
   ·rw[e];exact(aB.1 f).1 p d
theorem Mx(g:ByteArray→Bool){A B:List Pr}(k:bV A)(j:bV B):im (A.filter fun p=>g p.1) (B.filter fun p=>g p.1)=(im A B).filter fun c=>g c.1:=by
 refine nL (P:=fun A B=>im (A.filter fun p=>g p.1) (B.filter fun p=>g p.1)=(im A B).filter fun c=>g c.1) ?_ (fun a A B k _ h i=>?_) (fun b A B _ j h i=>?_) (fun a b A B e k j i=>?_) k j
 ·rw[List.filter_nil,iY];rfl
 ·rw[sQ h,bl,bl,←i]
  show im (if g a.1=true then _ else _) _=if g a.1=true then _ else _
  by_cases d:g a.1=true
  ·rw[if_pos d,if_pos d,sQ fun q f=>h q (ci.1 f).1]
  ·rw[if_neg d,if_neg d]
 ·rw[sP h,bl,bl,←i]
  show im _ (if g b.1=true then _ else _)=if g b.1=true then _ else _
  by_cases d:g b.1=true
  ·rw[if_pos d,if_pos d,sP fun q f=>h q (ci.1 f).1]
  ·rw[if_neg d,if_neg d]
 ·rw[sO e,List.filter_append,←i,bl,bl,←e]
  unfold xN;by_cases d:g a.1=true
  ·rw[if_pos d,if_pos d,sO e]
   unfold xN;split
   ·rfl
   ·rw[bl,if_pos d];rfl
  ·rw[if_neg d,if_neg d]
   split
   ·rfl
   ·rw[bl,if_neg d];rfl
theorem Ej{A2 B2:List Pr}:∀{A1 B1:List Pr},bV A1→bV B1→(∀p∈A1,∀q∈A2,kl p.1 q.1)→(∀p∈A1,∀q∈B2,kl p.1 q.1)→(∀p∈B1,∀q∈A2,kl p.1 q.1)→(∀p∈B1,∀q∈B2,kl p.1 q.1)→
  im (A1++A2) (B1++B2)=im A1 B1++im A2 B2:=by
 intro A1 B1 k m;refine nL (P:=fun A1 B1=>(∀p∈A1,∀q∈A2,kl p.1 q.1)→(∀p∈A1,∀q∈B2,kl p.1 q.1)→(∀p∈B1,∀q∈A2,kl p.1 q.1)→(∀p∈B1,∀q∈B2,kl p.1 q.1)→im (A1++A2) (B1++B2)=im A1 B1++im A2 B2) ?_ (fun a A B k _ h i=>?_) (fun b A B _ m h i=>?_) (fun a b A B e k m i=>?_) k m
 ·intro _ _ _ _;rw[iY];rfl
 ·intro j d f g
  rw[fy,sQ h,sQ (fun q n=>(aN.1 n).elim (h q) (d a (au ..) q)),i (fun p c=>j p (az _ c)) (fun p c=>d p (az _ c)) f g];rfl
 ·intro j d f g
  rw[fy,sP h,sP (fun q n=>(aN.1 n).elim (h q) (f b (au ..) q)),i j d (fun p c=>f p (az _ c)) (fun p c=>g p (az _ c))];rfl
 ·intro j d f g
  rw[fy,fy,sO e,sO e,i (fun p c=>j p (az _ c)) (fun p c=>d p (az _ c)) (fun p c=>f p (az _ c)) (fun p c=>g p (az _ c)),ax]
theorem tT{A B:List Pr}(d:bV A)(c:bV B):(im A B).length≤A.length+B.length:=by
 refine nL (P:=fun A B=>(im A B).length≤A.length+B.length) ?_ (fun a A B d _ h i=>?_) (fun b A B _ c h i=>?_) (fun a b A B e d c i=>?_) d c
 ·rw[iY];exact al _
 ·rw[sQ h];simp only[ao];omega
 ·rw[sP h];simp only[ao];omega
 ·rw[sO e,ad,ao,ao]
  have:(xN a b).length≤1:=by unfold xN;split<;>simp
  omega
theorem Dj{α:Type}(g:α→Nat)(n:Nat):∀L:List α,((L.filter fun x=>decide (g x<n))++L.filter fun x=>decide (g x=n)).Perm (L.filter fun x=>decide (g x<n+1))
 | []=>.refl _
 |a::L=>by
  have i:=Dj g n L;rw[bl,bl,bl];by_cases c:g a<n
  ·rw[if_pos (decide_eq_true c),if_neg (by simp;omega),if_pos (by simp;omega)]
   exact i.cons a
  ·by_cases b:g a=n
   ·rw[if_neg (by simp;omega),if_pos (by simpa using b),if_pos (by simp;omega)]
    exact List.perm_middle.trans (i.cons a)
   ·rw[if_neg (by simp;omega),if_neg (by simpa using b),if_neg (by simp;omega)]
    exact i
end Go.Proofs
namespace Go.Proofs
open Go Go.Lift
theorem QE(x:Ch):(Jm x).length=5∧0<5:=⟨rfl,by omega⟩
abbrev Vf(x:Hs)(s:SliceV):Array Value:= #[.int .u64 x.k0,.int .u64 x.k1,.int .u64 x.mask,sv s]
structure SetAt(C:Nat→Prop)(h:ac)(sb:Nat)(x:Hs)(L:List Ch):Prop where
 ex:∃s,h[sb]? =some (.cells (Vf x s) zh (0,0))∧OwnS Jm 5 co C h s L
 lt:∀b,C b→b<h.size
 ne:¬C sb
theorem SetAt.upd{C M:Nat→Prop}{h h':ac}{sb:Nat}{x:Hs}{L:List Ch}(st:SetAt C h sb x L)(k:Upd M h h')(c:∀b,C b→¬M b)(d:¬M sb):SetAt C h' sb x L:=by
 obtain⟨s,f,a⟩:=st.ex;exact⟨⟨s,k.get f d,a.upd k c⟩,fun b e=>aC (st.lt b e) k.size,st.ne⟩
theorem SetAt.upd0{C:Nat→Prop}{h h':ac}{sb:Nat}{x:Hs}{L:List Ch}(st:SetAt C h sb x L)(k:Upd No h h'):SetAt C h' sb x L:=st.upd k (fun _ _ h=>h) fun h=>h
abbrev OV(C:Nat→Prop)(h:ac)(sb:Nat)(x:Hs)(L:List Ch)(G:ac→Prop):Prop:=∀h' C',SetAt C' h' sb x L→(∀b,C' b→C b∨h.size≤b)→Upd (fun b=>C b∨b=sb) h h'→G h'
theorem Lx{C:Nat→Prop}{h:ac}{sb:Nat}{x:Hs}{L:List Ch}{s:SliceV}{c:Ch}(st:SetAt C h sb x L)(d:h[sb]? =some (.cells (Vf x s) zh (0,0))) (o:OwnS Jm 5 co C h s L) (v:L.length+1≤100000000) {G:ac→Prop} (p:OV C h sb x (L++ [c]) G):
  At (hnew h [.string c.1,.string c.2.1,.string c.2.2.1,.bool c.2.2.2.1,.bool c.2.2.2.2] co) (fun i=>aI i (adr ⟨sb,0,none⟩ 3)=some (.slice s.a s.len s.cap)∧∃xs,SRow i (some (aO h)) (1*5) xs∧
   AppP (some [.string (⟨#[]⟩:ByteArray),.string (⟨#[]⟩:ByteArray),.string (⟨#[]⟩:ByteArray),.bool false,.bool false]) 5 56 co s.a s.len s.cap 1 xs i (fun j k=>∃a:Addr,some (⟨sb,0,none⟩:Addr)=some a∧(Wr k (adr a 3)∧At (hset k (adr a 3) (.slice j.a j.len j.cap)) G))):=by
 refine bi fun i b1 k1=>⟨vc (k1.get0 d) 3,?_⟩
 have u:=bo b1;have y:=k1.size;have w:=bo d;have n:OwnS Jm 5 co (fun _=>True) i ⟨some (aO h),1,1⟩ [c]:=⟨rfl,QE,al _,.inr ⟨h.size,[],rfl,trivial,b1,rfl⟩⟩
 refine⟨_,(n.sl (W:=No) fun _ _ _ h=>h).srow,?_⟩
 refine AppP.own (M:=fun b=>C b∨i.size≤b) (ys:= [c]) ((o.upd k1 fun _ _ h=>h).more fun _ h=>.inl h) rfl rfl rfl rfl (by omega) (by simp only[bd];omega) (.inr (al _)) fun j k m g=>?_
 have b2:=g.get (k1.get0 d) fun h=>h.elim st.ne fun h=>by omega
 have t:=g.size;refine⟨_,rfl,F5 (c':=Vf x j) b2 (by simp) rfl fun q b3 f=>?_⟩
 refine p q (fun b=>(C b∨i.size≤b)∧b<k.size) ⟨⟨j,b3,(m.within).upd f fun b d e=>?_⟩,fun b d=>aC d.2 f.size,fun d=>?_⟩ (fun b d=>d.1.imp id fun h=>by omega) ?_
 ·have e:b=sb:=e
  rw[e]at d;exact d.1.elim st.ne fun h=>by omega
 ·exact d.1.elim st.ne fun h=>by omega
 ·exact((k1.wide.trans g fun b d=>d.elim (fun h=>.inl (.inl h)) fun h=>.inr (by omega)).trans f fun b d=>.inl (.inr d))
theorem M9{W:Nat→Prop}{h:ac}{s:SliceV}{p:Pr}{l:List Pr}(a:Sl eJ 2 W h s (p::l))(hc:s.len≤s.cap):Sl eJ 2 W h ⟨aJ s.a 1 s.cap 2,s.len-1,s.cap-1⟩ l:=by
 have b:=a.len;rw[ao]at b;have:=Sl.sub a (l:=1) (hi:=s.len) (m:=s.cap) (c:=s.cap-1) (by omega) (by rw[ao];omega) hc;rw[show((p::l).drop 1).take (s.len-1)=l by rw[List.drop_succ_cons,List.drop_zero];exact bj (by omega)]at this
 exact this
theorem AE{C:Nat→Prop}{h:ac}{sb:Nat}{x:Hs}{L:List Ch}{s s':SliceV}{A B:List Pr}(st:SetAt C h sb x L)(hs:Sl eJ 2 (fun b=>C b∨b=sb) h s A)(hs':Sl eJ 2 (fun b=>C b∨b=sb) h s' B)(hc:s.len≤s.cap)(hc':s'.len≤s'.cap)
  (hn:L.length+A.length+B.length≤100000000){K:Unit→ac→Prop}(hk:OV C h sb x (L++im A B) (K ())):HC PG gE [.pointer (some ⟨sb,0,none⟩),.slice s.a s.len s.cap,.slice s'.a s'.len s'.cap] [] K h:=by
 refine CL (some ⟨sb,0,none⟩) s s' ?_;unfold vE cp aF dI NQ jr bR;have hss:=hs.less (W':=fun b=>C b∨b=sb∨h.size≤b) fun b J=>J.elim (fun h=>.inl (.inl h)) fun h=>h.elim (fun h=>.inl (.inr h)) .inr
 have hss':=hs'.less (W':=fun b=>C b∨b=sb∨h.size≤b) fun b J=>J.elim (fun h=>.inl (.inl h)) fun h=>h.elim (fun h=>.inl (.inr h)) .inr
 refine LoopP.ghost (fun(g:List Pr×List Pr×List Ch×(Nat→Prop)) (t:SliceV×SliceV) h'=>SetAt g.2.2.2 h' sb x g.2.2.1∧(∀b,g.2.2.2 b→C b∨h.size≤b)∧Upd (fun b=>C b∨b=sb) h h'∧Sl eJ 2 (fun b=>C b∨b=sb∨h.size≤b) h' t.1 g.1∧Sl eJ 2 (fun b=>C b∨b=sb∨h.size≤b) h' t.2 g.2.1∧t.1.len≤t.1.cap∧t.2.len≤t.2.cap∧g.2.2.1++im g.1 g.2.1=L++im A B∧g.2.2.1.length+g.1.length+g.2.1.length≤L.length+A.length+B.length)
  (fun g=>g.1.length+g.2.1.length) (A,B,L,C) ⟨st,fun _ h=>.inl h,Upd.refl _ _,hss,hss',hc,hc',rfl,al _⟩ ?_
 rintro I ⟨A1,B1,L1,V⟩ ⟨D,Q⟩ h1 ⟨m,u,U,j,k,G,H,he,F⟩ hI;simp only at m u j k G H he F;have O:D.len=A1.length:=j.len;have l2:Q.len=B1.length:=k.len;obtain⟨sl,o,Y⟩:=m.ex;have go:∀(c:List Ch) (A2 B2:List Pr) (Z u2:SliceV) (S:ac) (C2:Nat→Prop),SetAt C2 S sb x (L1++c)→(∀b,C2 b→V b∨h1.size≤b)→Upd (fun b=>V b∨b=sb) h1 S→im A1 B1=c++im A2 B2→Sl eJ 2 (fun b=>C b∨b=sb∨h.size≤b) h1 Z A2→Sl eJ 2 (fun b=>C b∨b=sb∨h.size≤b) h1 u2 B2→Z.len≤Z.cap→u2.len≤u2.cap→c.length+A2.length+B2.length≤A1.length+B1.length→A2.length+B2.length<A1.length+B1.length→I (Z,u2) S:=by
  intro c A2 B2 Z u2 S C2 st2 hC2 W e q N w1 w2 hl d;have hm:∀b,V b∨b=sb→(C b∨b=sb∨h.size≤b)∨h1.size≤b:=fun b J=>.inl (J.elim (fun h=>(u b h).imp id .inr) fun h=>.inr (.inl h))
  refine hI (A2,B2,L1++c,C2) (Z,u2) S ⟨st2,fun b J=>?_,?_,q.upd W hm,N.upd W hm,w1,w2,?_,?_⟩ d
  ·rcases hC2 b J with h|h
   ·exact u b h
   ·exact .inr (bI U.size h)
  ·exact U.trans W fun b J=>J.elim (fun h=>(u b h).imp .inl id) fun h=>.inl (.inr h)
  ·show(L1++c)++im A2 B2=_
   rw[ax,←e,he]
  ·show(L1++c).length+A2.length+B2.length≤_
   rw[ad];omega
 refine Join.intro (fun t h'=>h'=h1∧(t=true↔A1≠[]∨B1≠[])) (fun R p=>?_) ?_
 ·refine aD (fun hp=>p _ _ ⟨rfl,?_⟩) fun hp=>p _ _ ⟨rfl,?_⟩
  ·have hp:(D.len:Int)>0:=hp
   simp only[true_iff];left;intro e;rw[e]at O;simp only[aS]at O;omega
  ·have hp:¬(D.len:Int)>0:=hp
   have e1:A1= []:=aE.1 (by omega);show decide ((Q.len:Int)>0)=true↔_
   rw[decide_eq_true_iff];constructor
   ·intro h;right;intro e;rw[e]at l2;simp only[aS]at l2;omega
   ·intro h
    rcases h with h|h
    ·exact absurd e1 h
    ·have:=List.length_pos_iff.2 h;omega
 rintro t S ⟨rfl,ht⟩;refine CondP.intro (fun e=>?_) fun e=>?_
 rotate_left
 ·have hn:A1= []∧B1= []:=by
   rw[e]at ht;constructor
   ·exact Decidable.byContradiction fun h=>absurd (ht.2 (.inl h)) (by simp)
   ·exact Decidable.byContradiction fun h=>absurd (ht.2 (.inr h)) (by simp)
  obtain⟨rfl,rfl⟩:=hn;rw[iY,iC,aX]at he;subst he;exact hk S V m u U
 have hne:=ht.1 e;clear ht e;refine Join.intro (fun t h'=>h'=S∧((t=true∧∃a A',A1=a::A'∧im A1 B1=Gn a::im A' B1)∨(t=false∧∃b w,B1=b::w∧(A1= []∨∃a A',A1=a::A'∧¬kl a.1 b.1)))) (fun R p=>?_) ?_
 ·rcases B1 with _|⟨b,w⟩
  ·rcases A1 with _|⟨a,A'⟩
   ·exact absurd hne (by simp)
   rw[show(((Q.len:Nat):Int)==0)=true by rw[l2];rfl]
   refine ar.2 (p _ _ ⟨rfl,.inl ⟨rfl,a,A',rfl,?_⟩⟩);rw[vg,vg];rfl
  ·rw[ao]at l2
   rw[show(((Q.len:Nat):Int)==0)=false by rw[beq_eq_false_iff_ne];omega]
   refine ai.2 ?_;rcases A1 with _|⟨a,A'⟩
   ·rw[aS]at O
    rw[decide_eq_false (show ¬((D.len:Int)>0) by omega)]
    exact ai.2 (p _ _ ⟨rfl,.inr ⟨rfl,b,w,rfl,.inl rfl⟩⟩)
   ·rw[ao]at O
    rw[decide_eq_true (show((D.len:Int)>0) by omega)]
    refine ar.2 ?_;obtain⟨E,f,_,q⟩:=j.at (i:=0) (x:=a) rfl;obtain⟨X,n,_,N⟩:=k.at (i:=0) (x:=b) rfl;refine⟨⟨by first|omega|(simp only;omega),by first|omega|(simp only;omega)⟩,E,f,a.1,q 0 _ rfl,⟨by first|omega|(simp only;omega),by first|omega|(simp only;omega)⟩,X,n,b.1,N 0 _ rfl,p _ _ ⟨rfl,?_⟩⟩
    by_cases d:kl a.1 b.1
    ·exact .inl ⟨d,a,A',rfl,by rw[qX,if_pos d]⟩
    ·exact .inr ⟨by unfold kl at d;simpa using d,b,w,rfl,.inr ⟨a,A',rfl,d⟩⟩
 rintro t h3 ⟨rfl,⟨rfl,a,A',rfl,ec⟩|⟨rfl,b,w,rfl,hA⟩⟩
 ·refine ar.2 (Join.plain ?_)
  rw[ao]at O;obtain⟨E,f,_,q⟩:=j.at (i:=0) (x:=a) rfl;refine⟨_,rfl,sl,vc o 3,⟨by first|omega|(simp only;omega),by first|omega|(simp only;omega)⟩,E,f,a.1,q 0 _ rfl,⟨by first|omega|(simp only;omega),by first|omega|(simp only;omega)⟩,E,f,a.2,q 1 _ rfl,?_⟩
  refine Lx (c:=Gn a) m o Y (by simp only[ao]at F;omega) fun h4 C4 st4 hC4 hu4=>?_
  refine⟨⟨by first|omega|(simp only;omega),by first|omega|(simp only;omega)⟩,?_⟩
  simp only[Bd];exact go [Gn a] A' B1 _ _ h4 C4 st4 hC4 hu4 ec (M9 j G) k (by show D.len-1≤D.cap-1;omega) H (by simp only[ao,aS];omega) (by rw[ao];omega)
 refine ai.2 ?_;rw[ao]at l2;obtain⟨X,n,_,N⟩:=k.at (i:=0) (x:=b) rfl;refine Join.intro (fun t h'=>h'=h3∧((t=true∧im A1 (b::w)=Rc b::im A1 w)∨(t=false∧∃a A',A1=a::A'∧im A1 (b::w)=xN a b++im A' w))) (fun R p=>?_) ?_
 ·rcases hA with rfl|⟨a,A',rfl,hna⟩
  ·rw[show(((D.len:Nat):Int)==0)=true by rw[O];rfl]
   refine ar.2 (p _ _ ⟨rfl,.inl ⟨rfl,?_⟩⟩);rw[iY,iY];rfl
  ·rw[ao]at O
   rw[show(((D.len:Nat):Int)==0)=false by rw[beq_eq_false_iff_ne];omega]
   obtain⟨E,f,_,q⟩:=j.at (i:=0) (x:=a) rfl;refine ai.2 ⟨⟨by first|omega|(simp only;omega),by first|omega|(simp only;omega)⟩,X,n,b.1,N 0 _ rfl,⟨by first|omega|(simp only;omega),by first|omega|(simp only;omega)⟩,E,f,a.1,q 0 _ rfl,p _ _ ⟨rfl,?_⟩⟩
   by_cases d:kl b.1 a.1
   ·exact .inl ⟨d,by rw[qX,if_neg hna,if_pos d]⟩
   ·refine .inr ⟨by unfold kl at d;simpa using d,a,A',rfl,?_⟩
    rw[qX,if_neg hna,if_neg d];unfold xN;split<;>rfl
 rintro t h4 ⟨rfl,⟨rfl,ec⟩|⟨rfl,a,A',rfl,ec⟩⟩
 ·refine ar.2 (Join.plain ?_)
  refine⟨_,rfl,sl,vc o 3,⟨by first|omega|(simp only;omega),by first|omega|(simp only;omega)⟩,X,n,b.1,N 0 _ rfl,⟨by first|omega|(simp only;omega),by first|omega|(simp only;omega)⟩,X,n,b.2,N 1 _ rfl,?_⟩
  refine Lx (c:=Rc b) m o Y (by simp only[ao]at F;omega) fun T P v y z=>?_
  refine⟨⟨by first|omega|(simp only;omega),by first|omega|(simp only;omega)⟩,?_⟩
  simp only[Bd];exact go [Rc b] A1 w _ _ T P v y z ec j (M9 k H) G (by show Q.len-1≤Q.cap-1;omega) (by simp only[ao,aS];omega) (by rw[ao];omega)
 rw[ao]at O;obtain⟨E,f,_,q⟩:=j.at (i:=0) (x:=a) rfl;have hcl:(xN a b).length≤1:=by unfold xN;split<;>simp
 refine ai.2 (Join.intro (fun _ T=>∃P,SetAt P T sb x (L1++xN a b)∧(∀b,P b→V b∨h4.size≤b)∧Upd (fun b=>V b∨b=sb) h4 T) (fun R p=>?_) ?_)
 ·refine⟨⟨by first|omega|(simp only;omega),by first|omega|(simp only;omega)⟩,E,f,a.2,q 1 _ rfl,⟨by first|omega|(simp only;omega),by first|omega|(simp only;omega)⟩,X,n,b.2,N 1 _ rfl,?_⟩
  have eb:(a.2.toList==b.2.toList)=decide (a.2=b.2):=fw;rw[eb];by_cases e:a.2=b.2
  ·rw[decide_eq_true e]
   refine ai.2 (p _ _ ⟨V,?_,fun _ h=>.inl h,Upd.refl _ _⟩)
   unfold xN;rw[if_pos e,aX];exact m
  ·rw[decide_eq_false e]
   refine ar.2 ⟨_,rfl,sl,vc o 3,⟨by first|omega|(simp only;omega),by first|omega|(simp only;omega)⟩,E,f,a.1,q 0 _ rfl,⟨by first|omega|(simp only;omega),by first|omega|(simp only;omega)⟩,E,f,a.2,q 1 _ rfl,⟨by first|omega|(simp only;omega),by first|omega|(simp only;omega)⟩,X,n,b.2,N 1 _ rfl,?_⟩
   refine Lx (c:=(a.1,a.2,b.2,true,true)) m o Y (by simp only[ao]at F;omega) fun T P v y z=>p _ _ ⟨P,?_,y,z⟩
   unfold xN;rw[if_neg e];exact v
 ·rintro _ T ⟨P,v,y,z⟩
  refine⟨⟨by first|omega|(simp only;omega),by first|omega|(simp only;omega)⟩,?_⟩
  simp only[Bd];refine⟨⟨by first|omega|(simp only;omega),by first|omega|(simp only;omega)⟩,?_⟩
  exact go (xN a b) A' w _ _ T P v y z ec (M9 j G) (M9 k H) (by show D.len-1≤D.cap-1;omega) (by show Q.len-1≤Q.cap-1;omega) (by rw[ao,ao];omega) (by rw[ao,ao];omega)
end Go.Proofs
namespace Go.Proofs
open Go Go.Lift
theorem PB{t:Tr}{h:ac}{K:Int→ac→Prop}(a:∀h',Upd No h h'→K t.1 h'):HC PG qd [Aj t] [.c (.int .i64)] K h:=by
 refine CB t ?_;unfold vt aA qH;exact bi fun b b1 k1=>⟨_,vc b1 0,a b k1⟩
end Go.Proofs
namespace Go.Proofs
open Go Go.Lift
end Go.Proofs
namespace Go.Proofs
open Go Go.Lift
abbrev Rt:=Int×Int×Int×Int×SliceV
abbrev TR(r:Rt):List Value:= [.int .i64 r.1,.int .u64 r.2.1,.int .u64 r.2.2.1,.int .u64 r.2.2.2.1,.slice r.2.2.2.2.a r.2.2.2.2.len r.2.2.2.2.cap]
abbrev Vh:Rt:=(0,0,0,0,⟨none,0,0⟩)
def hx(kind v:Int):Int:=if kind=0 then v else 0
def RefIs(W:Nat→Prop)(h:ac)(kind:Int)(x:Hs)(r:Rt)(l:List Pr):Prop:=∃s,r=(kind,hx kind x.k0,hx kind x.k1,hx kind x.mask,s)∧Sl eJ 2 W h s l∧s.len≤s.cap
theorem RefIs.upd0{W:Nat→Prop}{h h':ac}{kind:Int}{x:Hs}{r:Rt}{l:List Pr}(k:Upd No h h')(i:RefIs W h kind x r l):RefIs W h' kind x r l:=
 let⟨s,e,a⟩:=i;⟨s,e,a.1.upd k fun _ h=>h.elim,a.2⟩
theorem RefIs.less{W W':Nat→Prop}{h:ac}(hm:∀b,W' b→W b∨h.size≤b){kind:Int}{x:Hs}{r:Rt}{l:List Pr}(i:RefIs W h kind x r l):RefIs W' h kind x r l:=
 let⟨s,e,a⟩:=i;⟨s,e,a.1.less hm,a.2⟩
theorem RefIs.updM{W M:Nat→Prop}{h h':ac}(k:Upd M h h')(hm:∀b,M b→W b∨h.size≤b){kind:Int}{x:Hs}{r:Rt}{l:List Pr}(i:RefIs W h kind x r l):RefIs W h' kind x r l:=
 let⟨s,e,a⟩:=i;⟨s,e,a.1.upd k hm,a.2⟩
theorem RG{W:Nat→Prop}{x:Hs}{h:ac}{kind:Int}(f:kind=0∨kind=1){K:Rt×Int→ac→Prop}(i:∀h' r,RefIs W h' kind x r []→Upd No h h'→K (r,0) h'):HC PG Cm [.int .i64 kind,.agg #[.int .u64 x.k0,.int .u64 x.k1,.int .u64 x.mask]] [.agg [.int .i64,.int .u64,.int .u64,.int .u64,.slice],.c (.int .i64)] K h:=by
 refine OY kind (x.k0,x.k1,x.mask) ?_;unfold HJ ae D9 aA dY uE Pg;refine bi fun m b1 k1=>bi fun k b2 g=>?_
 have c1:=g.get0 b1;have j:=k1.size;have d:=k1.tr g;rcases f with rfl|rfl
 ·refine ar.2 ⟨_,vc c1 0,_,vc c1 1,_,vc c1 2,?_⟩
  refine cO (c:=TR Vh) (vs:=TR (0,x.k0,x.k1,x.mask,⟨none,0,0⟩)) b2 rfl fun e a b=>?_
  exact⟨_,vc a 0,_,vc a 1,_,vc a 2,_,vc a 3,⟨none,0,0⟩,vc a 4,i e (0,x.k0,x.k1,x.mask,⟨none,0,0⟩) ⟨_,rfl,Sl.nil gS,al _⟩ (d.own b j)⟩
 ·refine ai.2 (ar.2 ?_)
  refine cO (c:=TR Vh) (vs:=TR (1,0,0,0,⟨none,0,0⟩)) b2 rfl fun e a b=>?_
  exact⟨_,vc a 0,_,vc a 1,_,vc a 2,_,vc a 3,⟨none,0,0⟩,vc a 4,i e (1,0,0,0,⟨none,0,0⟩) ⟨_,rfl,Sl.nil gS,al _⟩ (d.own b j)⟩
def Hx(s:ByteArray):ByteArray:=s.extract 0 (min s.size 30)
theorem Ft(s:ByteArray):(Hx s).size≤30:=by unfold Hx;rw[pU];omega
end Go.Proofs
namespace Go.Proofs
open Go Go.Lift
def Qx(p:Pr):Pr:=(Hx p.1,Hx p.2)
structure Few(n:Nat)(L:List Pr):Prop where
 up:bV L
 len:L.length≤n
 fit:∀p∈L,p.1.size≤30∧p.2.size≤30
theorem Few.ins{n:Nat}{L:List Pr}(f:Few n L)(p:Pr)(c:p.1.size≤30)(b:p.2.size≤30):Few (n+1) (jZ p L):=
 ⟨yc p f.up,bI (Hl p) (by have:=f.len;omega),fun q a=>(xn a).elim (fun e=>by rw[e];exact⟨c,b⟩) fun h=>f.fit q h⟩
theorem Few.fits{n:Nat}{L:List Pr}(f:Few n L):Fit L:=fun p a=>by have:=f.fit p a;omega
end Go.Proofs
namespace Go.Proofs
open Go Go.Lift
theorem Sl.det{α:Type}{f:α→List Value}{c:Nat}{W W':Nat→Prop}{h:ac}{s:SliceV}{xs ys:List α}(hi:∀x y,f x=f y→x=y)(a:Sl f c W h s xs)(b:Sl f c W' h s ys):xs=ys:=by
 apply List.ext_getElem
 ·rw[←a.len,←b.len]
 ·intro i t k
  refine hi _ _ (List.ext_getElem? fun j=>?_)
  obtain⟨p,o,_,n⟩:=a.at (aj t);obtain⟨q,d,_,g⟩:=b.at (aj k);rw[o]at d;cases d;have w:=(a.ne xs[i]).1;have v:=(b.ne ys[i]).1;by_cases u:j<c
  ·have m:=n j _ (aj (by omega))
   have e:=g j _ (aj (by omega));rw[m]at e;rw[aj (by omega),aj (by omega)];exact e
  ·rw[lG (by omega),lG (by omega)]
theorem Nl(x y:Pr)(h:eJ x=eJ y):x=y:=by
 simp only[eJ,qu.injEq,Value.string.injEq,and_true]at h;exact Prod.ext h.1 h.2
theorem RP(x y:Option Addr)(h:rA x=rA y):x=y:=by
 simpa[rA]using h
theorem Nf(x y:Option Addr)(h:rq x=rq y):x=y:=by
 simpa[rq]using h
theorem G8{d o n n':Nat}{sp sk b a:SliceV}{p c:Bool}{ow e:Option Addr}(h:eK d n sp sk p ow=eK o n' b a c e):d=o∧n=n'∧sp=b∧sk=a:=by
 simp only[eK,Array.mk.injEq,qu.injEq,Value.int.injEq,true_and,sv,Value.slice.injEq,Value.bool.injEq,Value.pointer.injEq,and_true]at h;obtain⟨s,q,⟨m,f,g⟩,⟨k,j,i⟩,_⟩:=h;refine⟨by omega,by omega,?_,?_⟩
 ·cases sp;cases b;simp only at m f g;subst m f g;rfl
 ·cases sk;cases a;simp only at k j i;subst k j i;rfl
theorem Ew{W W':Nat→Prop}{x:Hs}{h:ac}:∀{m b:Nat} {l l':List Pr},TrieAt W x h m b l→TrieAt W' x h m b l'→bV l→bV l'→l=l'
 |0,b,l,l',t,t',_,_=>by
  obtain⟨sp,sk,ow,k,v,_⟩:=t.ex;obtain⟨i,j,u,a,g,_⟩:=t'.ex;rw[k]at a;simp only[bD.injEq,Obj.cells.injEq,and_true]at a;obtain⟨_,_,rfl,_⟩:=G8 a;exact Sl.det Nl v g
 |m+1,b,l,l',⟨s,nd,hc⟩,⟨s',nd',hc'⟩,hr,hr'=>by
  obtain⟨d,n,sp,sk,ow,k,bits,v,K,_⟩:=nd.ex;obtain⟨L,n',i,j,u,a,e,g,o,_⟩:=nd'.ex;rw[k]at a;simp only[bD.injEq,Obj.cells.injEq,and_true]at a;obtain⟨rfl,rfl,rfl,rfl⟩:=G8 a;have I:=Ml 32 (fun c hc=>by rw[←bits.dp c hc,e.dp c hc]) (Sl.det Nl v g)
  have F:=Ml 32 (fun c hc=>by rw[←bits.nk c hc,e.nk c hc]) (Sl.det RP K o)
  refine PT (x:=x) (lev:=12-m) hr hr' fun c f=>?_
  have J:=hc c f;have A:=hc' c f;rw[←I c f,←F c f]at A;rcases J with⟨y,C,w⟩|⟨p,y,C,w⟩|⟨y,C,N,w,G⟩<;>rcases A with⟨z,D,B⟩|⟨q,z,D,B⟩|⟨z,D,E,B,H⟩<;>simp_all
  exact Ew G H (kz hr) (kz hr')
theorem Ng{sl a v d:ByteArray}{b b':Bool}{s s':SliceV}{ow c:Option Addr}(h:De sl b v s ow=De a b' d s' c):sl=a∧b=b'∧v=d∧s=s':=by
 simp only[De,Array.mk.injEq,qu.injEq,Value.string.injEq,sv,Value.slice.injEq,Value.bool.injEq,Value.pointer.injEq,and_true]at h;obtain⟨k,i,j,⟨g,f,e⟩,_⟩:=h;refine⟨k,i,j,?_⟩;cases s;cases s';simp only at g f e;subst g f e;rfl
theorem Nq{w a:Option ByteArray}{v:ByteArray}(h:w.isSome=a.isSome)(c:v=w.getD ⟨#[]⟩)(b:v=a.getD ⟨#[]⟩):w=a:=by
 cases w<;>cases a<;>simp_all
theorem LA{W W':Nat→Prop}{h:ac}:∀{F F':Fo} {ks:List (Option Addr)},RxF W h F ks→RxF W' h F' ks→F=F'
 | .nil,.nil,_,_,_=>rfl
 | .nil,.cons ..,ks,f,c=>by
  obtain⟨b,sl,val,s,ow,d,e,a,_⟩:=c;have f:ks= []:=f;rw[f]at a;cases a
 | .cons ..,.nil,ks,f,c=>by
  obtain⟨b,sl,val,s,ow,d,e,a,_⟩:=f;have c:ks= []:=c;rw[c]at a;cases a
 | .cons lab w kids rest,.cons lab' w' kids' rest',ks,⟨b,sl,val,s,ow,d,e,a,e1,e2,e3,e4,e5,e6,e7⟩,⟨b',sl',val',s',ow',ks1',ks'',f0,f1,f2,f3,f4,f5,f6,f7⟩=>by
  rw[a]at f0;simp only[qu.injEq,bD.injEq,Addr.mk.injEq,and_true]at f0;obtain⟨rfl,rfl⟩:=f0;rw[e2]at f2;simp only[bD.injEq,Obj.cells.injEq,and_true]at f2;obtain⟨rfl,g,rfl,rfl⟩:=Ng f2;have:=Sl.det Nf e4 f4;subst this;rw[LA e6 f6,LA e7 f7,←e1,←f1,Nq g e3 f3]
end Go.Proofs
namespace Go.Proofs
open Go Go.Lift
theorem LQ{h:ac}{b:Nat}{c:Array Value}{t:TypeId}(a:h[b]? =some (.cells c t (0,0))) (hc:0<c.size):fa h ⟨b,0,none⟩:=⟨c,t,a,hc⟩
theorem TrieAt.plain{W:Nat→Prop}{x:Hs}{h:ac}:∀{m b:Nat} {l:List Pr},TrieAt W x h m b l→fa h ⟨b,0,none⟩
 |0,_,_,t=>by obtain⟨_,_,_,a,_⟩:=BuckAt.ex t;exact LQ a (by simp[eK])
 |m+1,_,_,⟨s,nd,_⟩=>by obtain⟨_,_,_,_,_,a,_⟩:=nd.ex;exact LQ a (by simp[eK])
theorem Nb{W Wx:Nat→Prop}{x:Hs}{h:ac}{m b:Nat}{s:Slots}{c:Nat}{l:List Pr}(nd:NodeAt W h b s)(hc:c<32)(sl:SlotIs W x h m s c l)(hm:m≤13)(E:bV l)(A:l.length≤100000)(g:∀y,Wx y→y<h.size){K:SliceV→ac→Prop}
  (w:∀s' h',Sl eJ 2 Wx h' s' l→s'.len≤s'.cap→Upd No h h'→K s' h'):HC PG tQ [.pointer (some ⟨b,0,none⟩),.int .i64 c] [.c .slice] K h:=by
 refine KU _ c ?_;unfold DJ nv ay rp m8 vR kq;refine Ay nd hc fun H k1=>?_
 refine EZ fun v b2 D=>?_
 have a:=k1.tr D;have f:s.p c=none→Below W x h m ((s.k c).getD none) l:=fun d=>by
  rcases sl with⟨rfl,_,e⟩|⟨p,_,e,_⟩|⟨_,_,G,e,t⟩
  ·rw[e];exact .inl ⟨rfl,rfl⟩
  ·rw[d]at e;cases e
  ·rw[e];exact .inr ⟨G,rfl,t⟩
 rcases d:s.p c with _|p
 ·refine ai.2 (vV (nd.upd a fun _ h=>h.elim) hc ?_)
  exact F3 (W':=Wx) ((f d).upd0 a) hm E A (fun y o=>aC (g y o) a.size) fun B i k n j=>w B i k n (a.tr j)
 ·have F:l= [p]:=by
   rcases sl with⟨_,e,_⟩|⟨q,e,u,_⟩|⟨_,e,_⟩
   ·rw[d]at e;cases e
   ·rw[d]at u;cases u;exact e
   ·rw[d]at e;cases e
  subst F;rw[d]at b2;refine ar.2 ⟨p.1,vc b2 0,p.2,vc b2 1,bi fun i b3 j=>?_⟩
  have C:OwnS eJ 2 ag (fun y=>h.size≤y) i ⟨some (aO v),1,1⟩ [p]:=⟨rfl,gS,al _,.inr ⟨v.size,[],rfl,a.size,b3,rfl⟩⟩
  exact w _ i (C.sl fun y o _ z=>by have:=g y z;omega) (al _) (a.tr j)
theorem Pw{W:Nat→Prop}{x z:Hs}{sb:Nat}:∀(m:Nat),m≤13→∀{b b':Nat} {l l':List Pr} {C:Nat→Prop} {h:ac} {L:List Ch},TrieAt W x h m b l→TrieAt W x h m b' l'→SetAt C h sb z L→(∀y,C y∨y=sb→W y)→(∀y,h.size≤y→W y)→bV l→bV l'→l.length≤100000→l'.length≤100000→L.length+(m+1)*200000≤10000000→
  ∀{K:Unit→ac→Prop},(∀ys,ys.Perm (im l l')→OV C h sb z (L++ys) (K ()))→HC PG mH [.pointer (some ⟨sb,0,none⟩),.pointer (some ⟨b,0,none⟩),.pointer (some ⟨b',0,none⟩)] [] K h:=by
 intro m;induction m with
 |zero=>
  intro hm b b' l l' C h L t U st D S N u hn hn' hL K hk;refine vn _ _ _ ?_;unfold qn kq NT HR;refine⟨trivial,fun a a' e e'=>by cases e;cases e';exact⟨t.plain,U.plain⟩,CondP.intro (fun e=>?_) fun e=>?_⟩
  ·obtain rfl:b=b':=by simpa using e
   obtain rfl:=Ew t U N u;refine hk [] (by rw[AR]) h C (by rw[aX];exact st) (fun _ h=>.inl h) (Upd.refl _ _)
  ·obtain⟨sp,sk,ow,hb,hsp,_⟩:=BuckAt.ex t
   obtain⟨sp',sk',ow',hb',hsp',_⟩:=BuckAt.ex U;refine iI hb (ar.2 ?_);refine xk hb hsp (by omega) fun s1 B ho1 k1=>?_
   refine xk (k1.get0 hb') (hsp'.upd k1 fun _ h=>h.elim) (by omega) fun s2 A ho2 k2=>?_
   have s1z:=k1.size;obtain⟨_,F,_⟩:=st.ex;have zsb:=bo F;have ho1':=ho1.upd k2 fun _ _ h=>h
   refine AE (st.upd0 (k1.tr k2)) (ho1'.sl fun y f _ hw=>?_) (ho2.sl fun y f _ hw=>?_) ho1.cap ho2.cap (by omega) fun Y C3 T O J=>?_
   ·rcases hw with h|h
    ·have:=st.lt y h;omega
    ·omega
   ·rcases hw with h|h
    ·have:=st.lt y h;omega
    ·omega
   ·have s2z:=k2.size
    exact hk (im l l') (.refl _) Y C3 T (fun y f=>(O y f).imp id fun h=>by omega) ((k1.tr k2).wide.tr J)
 |succ m ih=>
  intro hm b b' l l' C h L t U st D S N u hn hn' hL K hk;refine vn _ _ _ ?_;unfold qn kq NT HR;refine⟨trivial,fun a a' e e'=>by cases e;cases e';exact⟨t.plain,U.plain⟩,CondP.intro (fun e=>?_) fun e=>?_⟩
  ·obtain rfl:b=b':=by simpa using e
   obtain rfl:=Ew t U N u;exact hk [] (by rw[AR]) h C (by rw[aX];exact st) (fun _ h=>.inl h) (Upd.refl _ _)
  have hcl:=tT N u;obtain⟨s,nd,hs⟩:=t;obtain⟨s',nd',P⟩:=U;have hs:∀c,c<32→SlotIs W x h m s c (part x (12-m) c l):=hs;have P:∀c,c<32→SlotIs W x h m s' c (part x (12-m) c l'):=P;obtain⟨d,n,sp,sk,ow,hb,_⟩:=nd.ex;refine iI hb (ai.2 ?_);refine LoopP.ghost (fun(g:Nat×List Ch×(Nat→Prop)) (t:Int) h'=>t=(g.1:Int)∧g.1≤32∧SetAt g.2.2 h' sb z (L++g.2.1)∧(∀y,g.2.2 y→C y∨h.size≤y)∧Upd (fun y=>C y∨y=sb) h h'∧g.2.1.Perm ((im l l').filter fun c=>decide (ck x (12-m) c.1<g.1))) (fun g=>32-g.1) (0,[],C)
   ⟨rfl,by omega,by rw[aX];exact st,fun _ h=>.inl h,Upd.refl _ _,by simp⟩ ?_
  rintro I ⟨i,ys,G⟩ t B ⟨rfl,hi,v,w,q,hp⟩ hI;simp only at hi v w hp;have hCW1:∀y,G y∨y=sb→W y:=fun y f=>f.elim (fun h=>(w y h).elim (fun h=>D y (.inl h)) (S y)) fun h=>D y (.inr h)
  have H:∀y,C y∨y=sb→W y∨h.size≤y:=fun y f=>.inl (D y f)
  refine aD (fun j=>?_) fun hge=>?_
  rotate_left
  ·have hi32:i=32:=by omega
   subst hi32;refine hk ys (hp.trans ?_) B G v w q;rw[List.filter_eq_self.2 fun c _=>decide_eq_true (yR x (12-m) c.1)]
  have j:i<32:=by omega
  have Q:(im l l').filter (fun c=>decide (ck x (12-m) c.1=i))=im (part x (12-m) i l) (part x (12-m) i l'):=(Mx (fun k=>decide (ck x (12-m) k=i)) N u).symm
  have hyl:ys.length≤200000:=by
   have:=hp.length_eq;have:=List.length_filter_le (fun c:Ch=>decide (ck x (12-m) c.1<i)) (im l l')
   omega
  have hpl:=qI (x:=x) (lev:=12-m) (c:=i) (l:=l);have hpl':=qI (x:=x) (lev:=12-m) (c:=i) (l:=l');have step:∀X:List Ch,X.Perm (im (part x (12-m) i l) (part x (12-m) i l'))→∀A C2,SetAt C2 A sb z ((L++ys)++X)→(∀y,C2 y→G y∨B.size≤y)→Upd (fun y=>G y∨y=sb) B A→I (IntKind.wrap .i64 ((i:Int)+1)) A:=by
   intro X hz A C2 st2 hC2 hu2;rw[vJ j (by omega)];refine hI (i+1,ys++X,C2) _ A ⟨rfl,j,by rw[←ax];exact st2,fun y f=>?_,?_,?_⟩ (by show 32-(i+1)<32-i;omega)
   ·rcases hC2 y f with h|h
    ·exact w y h
    ·exact .inr (bI q.size h)
   ·exact q.trans hu2 fun y f=>f.elim (fun h=>(w y h).imp .inl id) fun h=>.inl (.inr h)
   ·rw[←Q]at hz
    exact(hp.append hz).trans (Dj (fun c:Ch=>ck x (12-m) c.1) i (im l l'))
  have nd1:=nd.upd q H;have E:=nd'.upd q H;have up:∀{s:Slots} {l:List Pr},SlotIs W x h m s i l→SlotIs W x B m s i l:=fun o=>o.imp id fun o=>o.imp id fun⟨B,A,kb,Y,h4⟩=>⟨B,A,kb,Y,TrieAt.updM q H h4⟩
  have sl:=up (hs i j);have sl':=up (P i j);have hWn1:∀y,B.size≤y→W y:=fun y f=>S y (bI q.size f)
  refine Join.plain (vV nd1 j (vV E j ?_));refine Join.intro (fun t h'=>h'=B∧(t=true→(s.k i).isSome=true∧(s'.k i).isSome=true)) (fun R hR=>?_) ?_
  ·refine CondP.intro (fun e=>hR _ _ ⟨rfl,fun e'=>⟨e,e'⟩⟩) fun e=>hR _ _ ⟨rfl,fun e=>by cases e⟩
  rintro t A ⟨rfl,ht⟩;refine CondP.intro (fun e=>?_) fun e=>?_
  ·obtain⟨e1,e2⟩:=ht e
   rcases sl with⟨_,_,e3⟩|⟨p,_,_,e3⟩|⟨_,_,kb,e3,tk⟩
   ·rw[e3]at e1;cases e1
   ·rw[e3]at e1;cases e1
   rcases sl' with⟨_,_,e4⟩|⟨p,_,_,e4⟩|⟨_,_,kb',e4,tk'⟩
   ·rw[e4]at e2;cases e2
   ·rw[e4]at e2;cases e2
   rw[e3,e4];refine ih (by omega) tk tk' v hCW1 hWn1 (kz N) (kz u) (by omega) (by omega) (by rw[ad];omega) fun X hz Y C3 T O J=>?_
   exact step X hz Y C3 T O J
  ·obtain⟨_,F,_⟩:=v.ex
   have zsb:=bo F;have Z:∀y,G y∨y=sb→y<A.size:=fun y f=>f.elim (v.lt y) fun h=>by omega
   refine Nb (Wx:=fun y=>G y∨y=sb) nd1 j sl (by omega) (kz N) (by omega) Z fun s3 Y hs3 hc3 V=>?_
   refine Nb (Wx:=fun y=>G y∨y=sb) (E.upd V fun _ h=>h.elim) j (sl'.upd0 V) (by omega) (kz u) (by omega) (fun y f=>aC (Z y f) V.size) fun s4 h4 hs4 hc4 k4=>?_
   refine AE (v.upd0 (V.tr k4)) (hs3.upd k4 fun _ h=>h.elim) hs4 hc3 hc4 (by rw[ad];omega) fun h5 C5 st5 hC5 hu5=>?_
   have s34:=(V.tr k4).size;exact step _ (.refl _) h5 C5 st5 (fun y f=>(hC5 y f).imp id fun h=>by omega) ((V.tr k4).wide.tr hu5)
end Go.Proofs
namespace Go.Proofs
open Go Go.Lift
def SL(pre:List UInt8):ByteArray:=⟨pre.toArray⟩
theorem Ke(pre:List UInt8):(SL pre).data.toList=pre:=by unfold SL;simp
theorem LY(k:ByteArray):SL k.data.toList=k:=by cases k;rfl
def AK(pre:List UInt8)(p:List UInt8×ByteArray):Pr:=(SL (pre++p.1),p.2)
def pp(pre:List UInt8)(n:Bn):List Pr:=(zo n.2.1 n.2.2).map (AK (pre++n.1))
def uX(key:List UInt8)(w:Option ByteArray):List Pr:=(w.map fun v=>(SL key,v)).toList
theorem P4{x y:List UInt8}:kl (SL x) (SL y)↔x<y:=by rw[Iq,ByteArray.toList_eq,ByteArray.toList_eq,Ke,Ke]
theorem Oy(a b:List UInt8)(p:List UInt8×ByteArray):AK a (b++p.1,p.2)=AK (a++b) p:=by unfold AK;rw[ax]
theorem Nk(pre:List UInt8):∀F:Fo,(Au F).map (AK pre)=F.toL.flatMap (pp pre)
 | .nil=>rfl
 | .cons lab w kids rest=>by
  rw[Of,Fo.toL_cons,aK,cZ,Nk pre rest,List.map_map];congr 1
  unfold pp zo;exact List.map_congr_left fun p _=>Oy pre lab p
theorem G3(pre lab:List UInt8)(w:Option ByteArray)(F:Fo):pp pre (lab,w,F)=uX (pre++lab) w++F.toL.flatMap (pp (pre++lab)):=by
 unfold pp;rw[show zo w F=(w.map fun v=>(([]:List UInt8),v)).toList++Au F from rfl,cZ,Nk]
 congr 1
 cases w with
 |none=>rfl
 |some v=>show[AK (pre++lab) ([],v)]=_;unfold AK uX;rw[aX];rfl
theorem qG{pre:List UInt8}{n:Bn}(hc:g8 n.2.2):bV (pp pre n):=by
 unfold pp;rw[bV,List.pairwise_map];exact(Nj (w:=n.2.1) hc).imp fun{p q} h=>P4.2 (IT h)
structure NodeK(n:Bn)(pre:List UInt8):Prop where
 can:g8 n.2.2
 len:pre.length+n.1.length≤10000
 all:∀p∈zo n.2.1 n.2.2,pre.length+n.1.length+p.1.length≤10000
theorem NodeK.kid{n m:Bn}{pre:List UInt8}(k:NodeK n pre)(hm:m∈n.2.2.toL):NodeK m (pre++n.1):=by
 have b:=(dM.1 k.can).2 _ hm;have a:∀p∈zo m.2.1 m.2.2,(pre++n.1).length+m.1.length+p.1.length≤10000:=fun p e=>by
  have c:tG n.2.2 (m.1++p.1) p.2:=hE.2 ⟨_,hm,p.1,rfl,md.1 (show(p.1,p.2)∈_ from e)⟩
  have:=k.all (m.1++p.1,p.2) (md.2 (.inr c));simp only[ad]at this⊢;omega
 obtain⟨r,v,d⟩:=sG k.can _ hm;have:=a (r,v) (md.2 d);exact⟨b.2.2,by simp only at this;omega,a⟩
theorem Di{pre:List UInt8}{m n:Bn}(hm:m.1≠[])(c:n.1≠[])(h:hd m.1<hd n.1):∀p∈pp pre m,∀q∈pp pre n,kl p.1 q.1:=by
 intro p d q e;unfold pp at d e;obtain⟨a,_,rfl⟩:=bG.1 d;obtain⟨b,_,rfl⟩:=bG.1 e;refine P4.2 ?_;rw[ax,ax];refine IT (Km (by simp[c]) ?_);rw[qc hm,qc c];exact h
theorem Ic{key:List UInt8}{w:Option ByteArray}{n:Bn}(e:n.1≠[]):∀p∈uX key w,∀q∈pp key n,kl p.1 q.1:=by
 intro p a q d;unfold uX at a;rw[Option.mem_toList,Option.map_eq_some_iff]at a;obtain⟨v,_,rfl⟩:=a;unfold pp at d;obtain⟨b,_,rfl⟩:=bG.1 d;refine P4.2 ?_;rw[ax];conv=>lhs;rw[←aX key]
 refine IT ?_;match n.1,e with
 |c::l,_=>exact wH
theorem Oz{f:Bn→List Pr}(L:List Bn)(i:Nat):((L.take i).flatMap f).length≤(L.flatMap f).length:=by
 conv=>rhs;rw[←List.take_append_drop i L,bL,ad]
 omega
theorem T7{a b:ByteArray}:a.data.toList++b.data.toList=(a++b).data.toList:=by
 rw[ByteArray.data_append,Array.toList_append]
theorem RxL.updN{W M:Nat→Prop}{h h':ac}(k:Upd M h h')(hm:∀b,M b→W b∨h.size≤b){ks:List (Option Addr)}{L:List Bn}(r:RxL W h ks L):RxL W h' ks L:=
 ⟨r.1,fun p a=>let⟨b,sl,d,c,e⟩:=r.2 p a;⟨b,sl,d,c,e.updM k hm⟩⟩
def QX(n:Bn):Prop:=∀{W:Nat→Prop} {h:ac} {b:Nat} {sl:ByteArray} {ahead:ByteArray},RxN W h b sl n.2.1 n.2.2→sl.data.toList=n.1→NodeK n ahead.data.toList→(pp ahead.data.toList n).length≤1000000→∀{K:SliceV→ac→Prop},(∀s' h',OwnS eJ 2 ag (fun y=>h.size≤y) h' s' (pp ahead.data.toList n)→Upd No h h'→K s' h')→HC PG jA [.pointer (some ⟨b,0,none⟩),.string ahead] [.c .slice] K h
theorem JE{lab:List UInt8}{w:Option ByteArray}{F:Fo}(ih:∀n∈F.toL,QX n):QX (lab,w,F):=by
 intro W h b sl ahead r f nk hl K hk;simp only at r f;have r:=r.less (W':=fun y=>h.size≤y) fun _ h=>.inr h
 refine Dx (some ⟨b,0,none⟩) ahead ?_;unfold xZ aZ cp sx rp m8;refine ai.2 (l8 r ?_);have j:=nk.len;simp only at j;have N:∀k:ByteArray,k.size=k.data.toList.length:=fun k=>by rw[Array.length_toList];rfl
 have e1:=N ahead;have e2:=N sl;rw[f]at e2;refine⟨by omega,?_⟩;have d:(ahead++sl).data.toList=ahead.data.toList++lab:=by rw[←T7,f]
 have S:SL (ahead.data.toList++lab)=ahead++sl:=by rw[←d,LY]
 rw[G3]at hl hk;refine Join.intro (fun t h'=>OwnS eJ 2 ag (fun y=>h.size≤y) h' t (uX (ahead.data.toList++lab) w)∧Upd No h h') (fun R hR=>?_) ?_
 ·refine EM r fun v Y=>?_
  cases w with
  |none=>exact ai.2 (hR _ _ ⟨OwnS.nil gS,Upd.refl _ _⟩)
  |some u=>
   refine ar.2 ?_;have:=Y u rfl;subst this;refine bw ?_;refine KG (p:=(ahead++sl,v)) (M:=fun y=>h.size≤y) (out:= []) (so:=⟨none,0,0⟩) (OwnS.nil gS) (fun _ h=>h) (by simp) fun s1 P A k1=>hR _ _ ⟨?_,k1.mono fun y g=>.inr g⟩
   rw[show uX (ahead.data.toList++lab) (some v)= []++ [(ahead++sl,v)] by unfold uX;rw[S];rfl]
   exact A
 rintro t P ⟨A,k1⟩;refine BW (r.upd0 k1) (qA nk.can) fun Q B ks E L T=>?_
 have s:Sl rq 1 No B Q ks:=E.sl fun _ _ _ h=>h
 have D:=s.len;rw[L.1]at D;have H:=qA nk.can;simp only at H;have z1:=k1.size;have z2:=T.size;have s:Sl rq 1 (fun y=>h.size≤y∧(y<P.size∨B.size≤y)) B Q ks:=E.sl fun y g hl hw=>by omega
 refine LoopP.ghost (fun(i:Nat) (t:SliceV×Int) O=>OwnS eJ 2 ag (fun y=>h.size≤y∧(y<P.size∨B.size≤y)) O t.1 (uX (ahead.data.toList++lab) w++(F.toL.take i).flatMap (pp (ahead.data.toList++lab)))∧t.2=(i:Int)∧i≤F.toL.length∧Upd (fun y=>h.size≤y∧(y<P.size∨B.size≤y)) B O) (fun i=>F.toL.length-i) 0 ⟨?_,rfl,bS _,Upd.refl _ _⟩ ?_
 ·rw[List.take_zero,List.flatMap_nil,aX]
  exact(A.within.more fun y g=>⟨g.1,.inl g.2⟩).upd T fun _ _ h=>h
 rintro I i ⟨ta,ti⟩ O ⟨o,e3,hi,G⟩ hI;simp only at o e3;subst e3;have J:((F.toL.take (i+1)).flatMap (pp (ahead.data.toList++lab))).length≤(F.toL.flatMap (pp (ahead.data.toList++lab))).length:=Oz _ _;rw[ad]at hl;refine aD (fun c=>?_) fun hge=>?_
 ·have c:i<F.toL.length:=by have:(i:Int)<(Q.len:Int):=c;omega
  have U:=L.updN G fun y g=>.inl g.1
  obtain⟨kb,ksl,X,j,C⟩:=U.at c;obtain⟨a,ha,_,Y⟩:=(s.upd G fun _ h=>.inl h).at0 X
  refine Join.plain ⟨⟨by simp only;omega,by simp only;omega⟩,a,ha,some ⟨kb,0,none⟩,Y,?_⟩
  have z:(F.toL.take (i+1)).flatMap (pp (ahead.data.toList++lab))=(F.toL.take i).flatMap (pp (ahead.data.toList++lab))++pp (ahead.data.toList++lab) F.toL[i]:=by
   rw[List.take_succ_eq_append_getElem c,bL];simp
  rw[z,ad]at J;have e:=List.getElem_mem c;generalize F.toL[i]=m at j C z J e;refine ih m e C j (by rw[d];exact nk.kid e) (by rw[d];omega) fun s4 h4 q x=>?_
  rw[d]at q;refine⟨_,(q.sl (W:=No) fun _ _ _ h=>h).srow,?_⟩
  have z3:=G.size;have z4:=x.size;refine AppP.own (ys:=pp (ahead.data.toList++lab) m) (o.upd x fun _ _ h=>h) q.len rfl (vS _) rfl (by omega) (by rw[ad];omega) ⟨by omega,.inr (by omega)⟩ fun s5 h5 Z V=>?_
  rw[jm c (by omega)];refine hI (i+1) _ _ ⟨?_,rfl,c,(G.tr x.wide).tr V⟩ (by omega);rw[z,←ax];exact Z
 ·have hil:i=F.toL.length:=by have:¬(i:Int)<(Q.len:Int):=hge;omega
  subst hil;rw[List.take_length]at o;exact hk _ O (o.more fun y g=>g.1) ((k1.tr T).trans G fun y g=>.inr g.1)
theorem BQ:∀{F:Fo},g8 F→∀n∈F.toL,QX n
 | .nil,_,n,a=>by simp[Fo.toL]at a
 | .cons lab w kids rest,h,n,a=>by
  rcases aq.1 a with rfl|a
  ·exact JE (BQ h.2.2.1)
  ·exact BQ h.2.2.2.2 n a
theorem PI{n:Bn}{W:Nat→Prop}{h:ac}{b:Nat}{sl:ByteArray}{ahead:ByteArray}(r:RxN W h b sl n.2.1 n.2.2)(e:sl.data.toList=n.1)(nk:NodeK n ahead.data.toList)(c:(pp ahead.data.toList n).length≤1000000){K:SliceV→ac→Prop}(a:∀s' h',OwnS eJ 2 ag (fun y=>h.size≤y) h' s' (pp ahead.data.toList n)→Upd No h h'→K s' h'):HC PG jA [.pointer (some ⟨b,0,none⟩),.string ahead] [.c .slice] K h:=
 JE (BQ nk.can) r e nk c a
theorem Dk{W:Nat→Prop}{h:ac}{b:Nat}{sl key:ByteArray}{w:Option ByteArray}{F:Fo}(r:RxN W h b sl w F){K:SliceV→ac→Prop}(a:∀s' h',OwnS eJ 2 ag (fun y=>h.size≤y) h' s' (uX key.data.toList w)→Upd No h h'→K s' h'):HC PG wy [.pointer (some ⟨b,0,none⟩),.string key] [.c .slice] K h:=by
 refine MN _ key ?_;unfold FX m8;refine EM r fun v c=>?_
 cases w with
 |none=>exact ar.2 (a _ h (OwnS.nil gS) (Upd.refl _ _))
 |some u=>
  have:=c u rfl;subst this;refine ai.2 (bi fun d b1 k1=>?_)
  refine a _ d ⟨rfl,gS,al _,.inr ⟨h.size,[],rfl,al _,?_,rfl⟩⟩ k1;rw[b1];unfold uX;rw[LY];rfl
end Go.Proofs
