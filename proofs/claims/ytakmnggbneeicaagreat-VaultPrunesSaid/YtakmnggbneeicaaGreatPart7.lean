/- A part of the proof that the named laws of this program answer true, whatever the input. -/
import Derived.Test.YtakmnggbneeicaaGreatPart6
import Derived.Test.YtakmnggbneeicaaGreatPart5
import Derived.Test.YtakmnggbneeicaaGreatPart3
open ByteArray renaming size_extract→jV
open Go.Op renaming bytesLess→bI
open Int renaming toNat_natCast→bf
open List renaming length_singleton→bh,length_map→bS,length_nil→bA,map_append→cD,map_cons→bX,map_nil→fk,length_append→ae,mem_append_right→bW,mem_singleton→al,pairwise_append→ct,length_cons→au,take_of_length_le→aS,pairwise_singleton→cj,mem_append→aF,mem_append_left→bQ,length_eq_zero_iff→aG,mem_cons_self→ar,mem_cons_of_mem→ax,append_nil→be,append_assoc→aE,mem_map→aP,mem_cons→aq,not_mem_nil→dy,pairwise_cons→ay,filter_nil→gL,filter_cons→aR,mem_filter→bE,filter_append→ci,cons_append→dz,getElem?_cons_zero→cI,getElem?_eq_getElem→af,length_filter_le→bF,length_take→aQ,take_succ_eq_append_getElem→av,getElem?_eq_none→kF,cons→nU
open Nat renaming le_refl→ai,lt_of_lt_of_le→az,zero_le→aN,lt_or_ge→cr,le_trans→aW
open Option renaming some→bK
namespace Go.Proofs
open Go Go.Lift
theorem TI{M:Nat→Prop}{h:ad}{so:SliceV}{out:List (SliceV×SliceV)}{p:SliceV×SliceV}{K:SliceV→ad→Prop}(g:OwnS Rp 2 414 M h so out)(e:∀b,h.size≤b→M b)(i:out.length+1≤1000000000)
  (c:∀s' h',OwnS Rp 2 414 M h' s' (out++ [p])→Upd M h h'→K s' h'):
  ∃xs,SRow (hnew h (Rp p) 414) (some (aL h)) (1*2) xs∧AppP (some [.slice none 0 0,.slice none 0 0]) 2 48 414 so.a so.len so.cap 1 xs (hnew h (Rp p) 414) K:=by
 have k:=Upd.hnew No h (Rp p) 414;have d:OwnS Rp 2 414 (fun _=>True) (hnew h (Rp p) 414) ⟨some (aL h),1,1⟩ [p]:=⟨rfl,S4,ai _,.inr ⟨h.size,[],rfl,trivial,bU ..,rfl⟩⟩
 refine⟨_,(d.sl (W:=No) fun _ _ _ h=>h).srow,?_⟩
 refine AppP.own (ys:= [p]) (g.upd k fun _ _ h=>h) rfl rfl rfl rfl (by omega) (by simp only[bh];omega) (e _ (by rw[dC];omega)) fun s' h' a f=>?_
 exact c s' h' a ((Upd.hnew M h _ _).tr f)
set_option maxHeartbeats 2000000 in
theorem KD{W G0 C0:Nat→Prop}{x:Hs}{h:ad}{H:Nat}{X:List Fr}(cur:CurW W G0 C0 x h H X)(hW0:∀b,h.size≤b→W b){K:(ByteArray×ByteArray)×Bool→ad→Prop}
  (hn:∀h',BT x X= []→Upd (fun b=>C0 b∨b=H) h h'→K (((⟨#[]⟩:ByteArray),(⟨#[]⟩:ByteArray)),false) h')
  (hs:∀h' t p R G' C',BT x X=p::R→BT x t=R→CurW W G' C' x h' H t→(∀b,C' b→C0 b∨h.size≤b)→(∀b,G' b→G0 b∨h.size≤b)→Upd (fun b=>C0 b∨b=H) h h'→K (p,true) h'):
  FC 325 [gS H] K h:=by
 refine cW (r7 (some ⟨H,0,none⟩)) zQ Tryz.func325 Tryz.call325 ?_;dsimp only[r7,fQ,dt,nv,cV,kJ,cg,mY,UI,Rr,jA,cH,Hf,cZ,mF,bi,D4,cB,gU,mN,Kp,AX,sQ];refine ba fun h1 b1 k1=>ag.2 ?_
 have z1:=bw b1;obtain⟨s00,d00,hc0,_⟩:=cur.ex;have zc:=bw hc0;have s1:=k1.size;have cur1:=cur.upd k1 (fun _ h=>h.elim) (fun _ _ h=>h) (fun _ _ h=>h) fun h=>h
 refine LoopP.ghost (fun(g:List Fr×(Nat→Prop)×(Nat→Prop)) (_:Unit) h'=>CurW W g.2.1 g.2.2 x h' H g.1∧BT x g.1=BT x X∧(∀b,g.2.2 b→(C0 b∨h.size≤b)∧b≠h.size)∧(∀b,g.2.1 b→(G0 b∨h.size≤b)∧b≠h.size)∧h'[h.size]? =some (.cells zPrL.toArray 33 (0,0))∧Upd (fun b=>C0 b∨b=H) h h') (fun g=>CZ x g.1) (X,G0,C0)
  ⟨cur1,rfl,fun b hb=>⟨.inl hb,by have:=cur.lt b (.inl hb);omega⟩,fun b hb=>⟨.inl hb,by have:=cur.lt b (.inr hb);omega⟩,b1,k1.wide⟩ ?_
 rintro I ⟨fs,G,C⟩ ⟨⟩ h' ⟨u,J,B,P,bz,hu⟩ hI;(try simp only at u J B P)
 obtain⟨s,d,aK,O⟩:=u.ex;have Y:=O.len;rw[bS]at Y;have hzs:h.size<h'.size:=bw bz;have zcb:=bw aK;refine⟨_,rfl,s,vc aK 0,?_⟩;refine ao (fun hpos=>?_) fun hnp=>?_
 ·obtain⟨t,f,rfl⟩:∃t f,fs=t++ [f]:=by
   rcases JV fs with rfl|⟨l',y,e⟩
   ·simp only[bA]at Y;omega
   ·exact⟨l',y,e⟩
  rw[cD,bX,fk]at O;rw[ae,bh]at Y;have h14:=SE (n:=13) u.lv fun f hf=>(u.ok f hf).n13
  rw[ae,bh]at h14;have eidx:IntKind.wrap .i64 ((s.len:Int)-1)=((t.length:Nat):Int):=by rw[df (by omega)];omega
  obtain⟨a,ha,hv⟩:=kM O (i:=t.length) (by rw[bS]);have U:=u.ok f (bW _ (al.2 rfl));have hpl:=U.p.len;have Z:=U.k.len;rw[bS]at Z;have hpc:=U.pc;have hkc:=U.kc;have hcap:=O.cap;refine⟨_,rfl,s,vc aK 0,_,rfl,s,vc aK 0,?_⟩;rw[eidx];refine⟨⟨by omega,by omega⟩,a,ha,_,rfl,f.sp,hv 0 _ rfl,?_⟩
  have keep:∀{h2:ad} {M:Nat→Prop},Upd M h' h2→(∀b,M b→C b∨b=H∨b=h.size∨h'.size≤b)→∀{g:Fr},g.Ok W G x h'→g.Ok W G x h2:=fun{h2 M} k hM {g} o=>o.upd k (fun b hb=>by
   rcases hM b hb with h|h|h|h
   ·exact .inl (u.cw.1 b h)
   ·exact .inl (by rw[h];exact u.cw.2)
   ·exact .inl (by rw[h];exact hW0 _ (ai _))
   ·exact .inr h) fun b hb=>by
   rcases hM b hb with h|h|h|h
   ·exact .inl fun L=>(u.dj b L).1 h
   ·exact .inl fun L=>(u.dj b L).2 h
   ·exact .inl fun L=>(P b L).2 h
   ·exact .inr h
  have S:=ct.1 u.lv;have hrs:=xQ x t f;have hcs:=zw x t f;refine ao (fun hp=>?_) fun hp=>?_
  ·
   rcases N:f.ps with _|⟨p,ps⟩
   ·rw[N]at hpl;simp only[bA]at hpl;omega
   have fop:=U.p;rw[N]at fop hpl;simp only[au]at hpl;obtain⟨ap,hap,_,hvp⟩:=fop.at (i:=0) (x:=p) rfl;refine⟨_,rfl,f.sp,hv 0 _ rfl,⟨by omega,by omega⟩,ap,hap,p.1,hvp 0 _ rfl,p.2,hvp 1 _ rfl,?_⟩
   refine Sx (p:=p) fun h8 b8 k8=>?_
   have z8:=bw b8;have hst8:=O.upd k8 fun _ _ h=>h
   obtain⟨a',ha',hv8⟩:=kM hst8 (i:=t.length) (by rw[bS]);rw[ha]at ha';cases ha';refine⟨_,rfl,f.sp,hv8 0 _ rfl,⟨by omega,by omega⟩,_,rfl,?_⟩
   let Q:Fr:=⟨⟨aV f.sp.a 1 f.sp.cap 2,f.sp.len-1,f.sp.cap-1⟩,f.sk,f.n,ps,f.ks⟩
   refine O5 hst8 (y:=Q.raw) (j:=0) (by omega) rfl ha (by simp) fun h9 ho9 T=>?_
   have c9:=T.get (k8.get0 aK) u.cc;refine⟨_,rfl,s,vc c9 0,_,rfl,?_⟩;refine rA (i:=1) (c':=XT s (s.len:Int)) c9 (show 1<2 by decide) rfl fun h10 c10 w=>?_
   have hCh:∀b,C b→b<h'.size:=fun b hb=>u.lt b (.inl hb)
   have b9:=T.get b8 fun hx=>by have:=hCh _ hx;omega
   have b10:=w.oth b9 (by omega);refine⟨_,vc b10 0,_,vc b10 1,?_⟩;have bz10:=w.oth (T.get (k8.get0 bz) fun hx=>(B _ hx).2 rfl) (by omega)
   refine cn (c:=zPrL) (vs:= [.string p.1,.string p.2]) bz10 rfl fun F b11 z=>?_
   refine⟨_,vc b11 0,_,vc b11 1,?_⟩;have c11:=z.oth c10 (by omega);have v:Upd (fun b=>C b∨b=H∨b=h.size∨h'.size≤b) h' F:=((k8.wide.trans T fun b hb=>.inl (.inl hb)).trans w fun b hb=>.inl (.inr (.inl hb))).trans z fun b hb=>.inl (.inr (.inr (.inl hb)))
   have ho11:OwnS Rp 2 414 C F s ((t++ [Q]).map Fr.raw):=by
    rw[cD,bX,fk];exact(ho9.upd w fun b hb e=>by have e:b=H:=e;rw[e]at hb;exact u.cc hb).upd z fun b hb e=>(B b hb).2 e
   have fo':Q.Ok W G x F:=by
    have o:=keep v (fun b hb=>hb) U
    refine⟨?_,o.k,by show f.sp.len-1≤f.sp.cap-1;omega,o.kc,o.t,o.n0,o.n13⟩
    have op:=o.p;rw[N]at op;have:=Sl.sub op (l:=1) (hi:=(p::ps).length) (m:=f.sp.cap) (c:=f.sp.cap-1) (by simp) (ai _) (by simp only[au];omega);rw[List.drop_one,List.tail_cons,aS (by simp)]at this;have e:(p::ps).length-1=f.sp.len-1:=by simp only[au];omega
    rw[e]at this;exact this
   refine hs F (t++ [Q]) p (Q.rem x++BT x t) G C ?_ (xQ x t Q) ⟨⟨s,_,c11,ho11⟩,fun g L=>?_,fun b hb=>az (u.lt b hb) v.size,u.dj,u.cc,u.cw,ct.2 ⟨S.1,cj ..,fun g L g' D=>by rw[al.1 D];exact S.2.2 g L f (al.2 rfl)⟩⟩ (fun b hb=>(B b hb).1) (fun b hb=>(P b hb).1) ?_
   ·rw[←J,hrs]
    unfold Fr.rem;rw[N];rfl
   ·rcases aF.1 L with L|L
    ·exact keep v (fun b hb=>hb) (u.ok g (bQ _ L))
    ·rw[al.1 L];exact fo'
   ·refine hu.trans v fun b hb=>?_
    rcases hb with h|h|h|h
    ·exact(B b h).1.imp .inl id
    ·exact .inl (.inr h)
    ·exact .inr (by omega)
    ·exact .inr (by omega)
  ·have N:f.ps= []:=aG.1 (by omega)
   refine⟨_,rfl,f.sk,hv 1 _ rfl,?_⟩;refine ao (fun hk=>?_) fun hk=>?_
   ·
    rcases E:f.ks with _|⟨kd,ks⟩
    ·rw[E]at Z;simp only[bA]at Z;omega
    have fok:=U.k;rw[E]at fok Z;simp only[au]at Z;rw[bX]at fok;obtain⟨ap,hap,_,hvp⟩:=fok.at0 (i:=0) (x:=LO kd) rfl;have hfn:0<f.n:=U.n0 (by rw[E];simp);have hf13:=U.n13;refine⟨_,rfl,f.sk,hv 1 _ rfl,⟨by omega,by omega⟩,ap,hap,_,hvp,_,rfl,f.sk,hv 1 _ rfl,⟨by omega,by omega⟩,_,rfl,?_⟩
    let Q:Fr:=⟨f.sp,⟨aV f.sk.a 1 f.sk.cap 1,f.sk.len-1,f.sk.cap-1⟩,f.n,f.ps,ks⟩
    refine O5 O (y:=Q.raw) (j:=1) (by omega) rfl ha (by simp) fun h8 ho8 A=>?_
    have c8:=A.get aK u.cc;have V:Upd (fun b=>C b∨b=H∨b=h.size∨h'.size≤b) h' h8:=A.mono fun b hb=>.inl (.inl hb)
    have s8:=A.size;refine⟨_,rfl,s,vc c8 0,?_⟩;have fo8:=keep V (fun b hb=>hb) U
    obtain⟨tk,hkn⟩:=fo8.t kd (by rw[E];exact ar ..);refine Hr tk (by omega) hkn fun h9 g hgn hgr hgc go k9=>?_
    have c9:=k9.get0 c8;have s9:=k9.size;refine⟨vc c9 0,bL ⟨vc ((Upd.hnew No h9 (Rp g.raw) 414).get0 c9) 0,?_⟩⟩;have hC9:∀b,C b→b<h9.size:=fun b hb=>by have:=u.lt b (.inl hb);omega
    refine TI (M:=fun b=>C b∨h9.size≤b) (p:=g.raw) ((ho8.upd k9 fun _ _ h=>h).more fun b hb=>.inl hb) (fun b hb=>.inr hb) (by rw[ae,bS,bh];omega) fun WS h10 ho10 w=>?_
    have s10':=w.size;have c10:=w.get c9 (by rintro(hx|hx);exact u.cc hx;omega)
    refine⟨_,rfl,?_⟩;refine rA (i:=0) (c':=XT WS d) c10 (show 0<2 by decide) rfl fun F c11 z=>?_
    have s11:=z.size;have v:Upd (fun b=>C b∨b=H∨b=h.size∨h'.size≤b) h' F:=((V.tr k9.wide).trans w fun b hb=>hb.elim (fun h=>.inl (.inl h)) fun h=>.inr (by omega)).trans z fun b hb=>.inl (.inr (.inl hb))
    have bz11:=z.oth (w.get (k9.get0 (A.get bz fun hx=>(B _ hx).2 rfl)) (by rintro(hx|hx);exact(B _ hx).2 rfl;omega)) (by omega)
    have hGl:∀b,G b→b<h'.size:=fun b hb=>u.lt b (.inr hb)
    refine hI (t++ [Q]++ [g],fun b=>G b∨(h8.size≤b∧b<h9.size),fun b=>(C b∨h9.size≤b)∧b<h10.size) () F ⟨⟨⟨WS,d,c11,?_⟩,fun g' D=>?_,fun b hb=>?_,fun b hb=>?_,fun hb=>?_,⟨fun b hb=>?_,u.cw.2⟩,?_⟩,?_,fun b hb=>?_,fun b hb=>?_,bz11,?_⟩ ?_
    ·rw[cD,cD,bX,fk,bX,fk]
     exact ho10.within.upd z fun b hb e=>by
      have e:b=H:=e;rw[e]at hb;rcases hb.1 with h|h
      ·exact u.cc h
      ·omega
    ·have hsubG:∀{q:Fr},q.Ok W G x F→q.Ok W (fun b=>G b∨(h8.size≤b∧b<h9.size)) x F:=fun o=>o.sub fun b hb=>.inl hb
     rcases aF.1 D with D|D
     ·rcases aF.1 D with D|D
      ·exact hsubG (keep v (fun b hb=>hb) (u.ok g' (bQ _ D)))
      ·rw[al.1 D]
       have o:=keep v (fun b hb=>hb) U
       refine hsubG ⟨o.p,?_,o.pc,by show f.sk.len-1≤f.sk.cap-1;omega,fun q hq=>o.t q (by rw[E];exact ax _ hq),fun _=>hfn,hf13⟩
       have op:=o.k;rw[E,bX]at op;have:=Sl.sub op (l:=1) (hi:=(LO kd::ks.map LO).length) (m:=f.sk.cap) (c:=f.sk.cap-1) (by simp) (ai _) (by simp only[au,bS];omega);rw[List.drop_one,List.tail_cons,aS (by simp)]at this;have e:(LO kd::ks.map LO).length-1=f.sk.len-1:=by simp only[au,bS];omega
       rw[e]at this;exact this
     ·rw[al.1 D]
      have o1:=go.upd w (fun b hb=>hb.elim (fun h=>.inl (u.cw.1 b h)) .inr) fun b hb=>hb.elim (fun h=>.inl fun L=>by have:=u.lt b (.inl h);omega) .inr
      have o2:=o1.upd z (fun b hb=>.inl (by have hb:b=H:=hb;rw[hb];exact u.cw.2)) fun b hb=>.inl fun L=>by have hb:b=H:=hb;omega
      exact o2.sub fun b hb=>.inr hb
    ·rcases hb with hb|hb|hb
     ·omega
     ·have:=hGl b hb;omega
     ·omega
    ·refine⟨fun hc=>?_,fun e=>?_⟩
     ·rcases hb with hb|hb
      ·rcases hc.1 with h|h
       ·exact(u.dj b hb).1 h
       ·have:=hGl b hb;omega
      ·rcases hc.1 with h|h
       ·have:=u.lt b (.inl h);omega
       ·omega
     ·subst e
      rcases hb with hb|hb
      ·exact(u.dj _ hb).2 rfl
      ·omega
    ·rcases hb.1 with h|h
     ·exact u.cc h
     ·omega
    ·rcases hb.1 with h|h
     ·exact u.cw.1 b h
     ·exact hW0 b (by omega)
    ·refine ct.2 ⟨ct.2 ⟨S.1,cj ..,fun q hq q' hq'=>by rw[al.1 hq'];exact S.2.2 q hq f (al.2 rfl)⟩,cj ..,fun q hq q' hq'=>?_⟩
     rw[al.1 hq',hgn];rcases aF.1 hq with hq|hq
     ·have:=S.2.2 q hq f (al.2 rfl);omega
     ·rw[al.1 hq];show f.n-1<f.n;omega
    ·rw[xQ,xQ,←J,hrs,hgr]
     unfold Fr.rem;rw[N,E,List.flatMap_cons];simp;rfl
    ·refine⟨?_,?_⟩
     ·rcases hb.1 with h|h
      ·exact(B b h).1
      ·exact .inr (by omega)
     ·rcases hb.1 with h|h
      ·exact(B b h).2
      ·omega
    ·refine⟨?_,?_⟩
     ·rcases hb with h|h
      ·exact(P b h).1
      ·exact .inr (by omega)
     ·rcases hb with h|h
      ·exact(P b h).2
      ·omega
    ·refine hu.trans v fun b hb=>?_
     rcases hb with h|h|h|h
     ·exact(B b h).1.imp .inl id
     ·exact .inl (.inr h)
     ·exact .inr (by omega)
     ·exact .inr (by omega)
    ·show CZ x (t++ [Q]++ [g])<CZ x (t++ [f])
     rw[zw,zw,hcs];have e1:f.cost x=Q.cost x+cw x (f.n-1) kd.2:=by
      unfold Fr.cost;rw[E,bX,List.sum_cons];have e0:(Q.ks.map fun k=>cw x (Q.n-1) k.2).sum=(ks.map fun k=>cw x (f.n-1) k.2).sum:=rfl
      omega
     omega
   ·
    have E:f.ks= []:=aG.1 (by omega);refine⟨_,rfl,s,vc aK 0,_,rfl,s,vc aK 0,?_⟩;rw[eidx];refine⟨⟨by omega,by omega⟩,?_⟩
    simp only[Bd];refine⟨_,rfl,?_⟩;refine rA (i:=0) (c':=XT ⟨aV s.a 0 s.cap 2,t.length,s.cap⟩ d) aK (show 0<2 by decide) rfl fun h8 c8 A=>?_
    have hpop:=OwnS.pop O;rw[bS]at hpop;have v:Upd (fun b=>C b∨b=H∨b=h.size∨h'.size≤b) h' h8:=A.mono fun b hb=>.inl (.inr (.inl hb))
    refine hI (t,G,C) () h8 ⟨⟨⟨_,d,c8,hpop.upd A fun b hb e=>by have e:b=H:=e;rw[e]at hb;exact u.cc hb⟩,fun g L=>keep v (fun b hb=>hb) (u.ok g (bQ _ L)),fun b hb=>az (u.lt b hb) v.size,u.dj,u.cc,u.cw,S.1⟩,?_,B,P,A.oth bz (by omega),hu.trans A fun b hb=>.inl (.inr hb)⟩ ?_
    ·rw[←J,hrs]
     unfold Fr.rem;rw[N,E];rfl
    ·show CZ x t<CZ x (t++ [f])
     rw[hcs];unfold Fr.cost;omega
 ·have h0:fs= []:=aG.1 (by omega)
  subst h0;refine⟨_,rfl,?_⟩;refine rA (i:=1) (c':=XT s 0) aK (show 1<2 by decide) rfl fun h8 c8 A=>?_
  refine cn (c:=zPrL) (vs:=zPrL) (A.oth bz (by omega)) rfl fun h9 b9 T=>?_
  refine⟨_,vc b9 0,_,vc b9 1,hn h9 J.symm ((hu.trans A fun b hb=>.inl (.inr hb)).trans T fun b hb=>.inr (Nat.le_of_eq (Eq.symm hb)))⟩
end Go.Proofs
namespace Go.Proofs
open Go Go.Lift
def Below(W:Nat→Prop)(x:Hs)(h:ad)(m:Nat)(r:Option Addr)(l:List Pr):Prop:=(r=none∧l= [])∨∃b,r=some ⟨b,0,none⟩∧TrieAt W x h m b l
theorem Below.upd0{W:Nat→Prop}{x:Hs}{h h':ad}{m:Nat}{r:Option Addr}{l:List Pr}(k:Upd No h h')(t:Below W x h m r l):Below W x h' m r l:=t.imp id fun⟨b,e,t⟩=>⟨b,e,TrieAt.upd0 k t⟩
theorem Below.less{W W':Nat→Prop}{x:Hs}{h:ad}{m:Nat}{r:Option Addr}{l:List Pr}(hm:∀b,W' b→W b∨h.size≤b)(t:Below W x h m r l):Below W' x h m r l:=t.imp id fun⟨b,e,t⟩=>⟨b,e,TrieAt.less hm t⟩
theorem Below.updM{W M:Nat→Prop}{x:Hs}{h h':ad}{m:Nat}{r:Option Addr}{l:List Pr}(k:Upd M h h')(hm:∀b,M b→W b∨h.size≤b)(t:Below W x h m r l):Below W x h' m r l:=t.imp id fun⟨b,e,t⟩=>⟨b,e,TrieAt.updM k hm t⟩
theorem VU(x:Hs):∀m,wl x m []= []
 |0=>rfl
 |m+1=>aG.1 (Nat.le_zero.1 (IX x (m+1) []))
theorem MO{W:Nat→Prop}{x:Hs}{h:ad}{m:Nat}{r:Option Addr}{l:List Pr}(t:Below W x h m r l)(hm:m≤13)(i:l.length≤100000){K:SliceV×SliceV→ad→Prop}
  (a:∀h' f,Fr.rem x f=wl x m l→f.Ok W (fun y=>h.size≤y∧y<h'.size) x h'→Upd No h h'→K f.raw h'):SS 329 [.pointer r] K h:=by
 rcases t with⟨rfl,rfl⟩|⟨b,rfl,t⟩
 ·refine Ix none ?_
  unfold Cr dt RF dM Rr;refine ba fun o b1 k1=>?_
  refine tC none ?_;dsimp only[oz,xx,cg,cH];refine aw.2 (uU none ?_);dsimp only[pq,cg,cH];refine aw.2 ?_;refine cn (c:= [.slice none 0 0,.slice none 0 0]) (vs:= [.slice none 0 0,.slice none 0 0]) b1 rfl fun e g d=>?_
  refine⟨⟨none,0,0⟩,vc g 0,⟨none,0,0⟩,vc g 1,?_⟩;refine a e ⟨⟨none,0,0⟩,⟨none,0,0⟩,0,[],[]⟩ ?_ ⟨Sl.nil fc,Sl.nil qo,ai _,ai _,fun k a=>(by cases a),fun h=>absurd rfl h,aN _⟩ (k1.own d (ai _))
  rw[VU];rfl
 ·exact Hr t hm i fun h' f _ j _ e n=>a h' f j e n
theorem MP{W:Nat→Prop}{x:Hs}{h:ad}{m:Nat}{r:Option Addr}{l:List Pr}(t:Below W x h m r l)(hm:m≤13)(s:l.length≤100000)(i:∀y,h.size≤y→W y){K:Option Addr→ad→Prop}
  (u:∀h' cb f G C,h.size≤cb→(∀y,G y∨C y→h.size≤y)→CurW W G C x h' cb [f]→f.rem x=wl x m l→Upd No h h'→K (some ⟨cb,0,none⟩) h'):eT 324 [.pointer r] K h:=by
 refine cW (Gm r) .nil Tryz.func324 Tryz.call324 ?_;unfold Gm UI;refine MO t hm s fun a f d p k=>?_
 refine ba fun j b3 c=>ba fun o n e=>?_
 have w:=bw b3;have A:=bw n;have z:=k.size;have B:=c.size;have v:OwnS Rp 2 414 (fun y=>y=a.size) j ⟨some (aL a),1,1⟩ [f.raw]:=⟨rfl,S4,ai _,.inr ⟨a.size,[],rfl,rfl,b3,rfl⟩⟩
 refine u o j.size f (fun y=>h.size≤y∧y<a.size) (fun y=>y=a.size) (by omega) (fun y b=>by rcases b with h|h<;>omega) ⟨⟨_,0,n,v.upd e fun _ _ h=>h⟩,fun g q=>?_,fun y b=>by rcases b with h|h<;>omega,fun y b=>⟨by omega,by omega⟩,by omega,⟨fun y b=>i y (by omega),i _ (by omega)⟩,cj ..⟩ d ((k.tr c).tr e)
 rw[al.1 q];exact p.upd (c.tr e) (fun _ h=>h.elim) fun _ h=>h.elim
theorem MQ{W:Nat→Prop}{x:Hs}{h:ad}{m:Nat}{r:Option Addr}{l:List Pr}(t:Below W x h m r l)(hm:m≤13)(hn:l.length≤100000){K:Value→ad→Prop}
  (hk:∀fv h',Gives PG fv Wy l.length (fun xs=>xs=wl x m l) (fun y=>y<h'.size) h'→Upd No h h'→K fv h'):QG 313 [.pointer r] K h:=by
 refine cW (Gn r) .nil Tryz.func313 Tryz.call313 ?_;unfold Gn;refine ba fun w b1 k1=>?_
 have z1:=bw b1;refine hk _ w ?_ k1;have t1:=Below.less (W':=fun y=>w.size≤y) (fun y a=>.inr a) (Below.upd0 k1 t)
 have hwl:=IX x m l;refine⟨fun y a=>a,323,#[],_,rfl,fun y J A M Q K' ht hj hu hq ha hk'=>?_⟩
 refine Hi y (aL h) ?_;dsimp only[vQ,nv,oW,yg,mY,mF,bi];have d1:=hu.get b1 (hq _ z1);have s4:=hu.size;have t4:Below (fun y=>w.size≤y) x Q m r l:=Below.updM hu (fun y a=>.inl (by
  rcases cr y w.size with L|L
  ·exact absurd a (hq y L)
  ·exact L)) t1
 refine⟨_,bd d1,?_⟩;refine MP t4 hm hn (fun y a=>aW s4 a) fun h5 U f G C hcb P cur hfr k5=>?_
 have k:=ht.lt _ _ _ hj;have hA3:∀y,A y→w.size≤y:=fun y a=>by
  rcases cr y w.size with L|L
  ·exact absurd L (ha y a)
  ·exact L
 have s5:=k5.size;have F:BT x [f]=wl x m l:=by rw[←hfr];simp[BT]
 refine LoopP.ghost (fun(g:List Pr×List Fr×(Nat→Prop)×(Nat→Prop)×(Nat→Prop)) (_:Unit) h'=>CurW (fun y=>w.size≤y) g.2.2.2.1 g.2.2.2.2 x h' U g.2.1∧J g.1 g.2.2.1 h'∧Upd A Q h'∧(∀y,g.2.2.1 y→(A y∨Q.size≤y)∧¬g.2.2.2.1 y∧¬g.2.2.2.2 y∧y≠U)∧(∀y,g.2.2.2.1 y∨g.2.2.2.2 y→Q.size≤y)∧g.1++BT x g.2.1=wl x m l∧h5.size≤h'.size) (fun g=>(BT x g.2.1).length) ([],[f],A,G,C)
  ⟨cur,ht.keep _ _ _ _ No hj k5 (fun _ _ h=>h),k5.wide,fun y a=>⟨.inl a,fun hx=>by have:=k y a;have:=P y (.inl hx);omega,fun hx=>by have:=k y a;have:=P y (.inr hx);omega,fun e=>by have:=k y a;omega⟩,P,by rw[F];rfl,ai _⟩ ?_
 rintro I ⟨pre,fs,A1,G1,C1⟩ ⟨⟩ h' ⟨cu,o,Z,b,i,c,hsz⟩ hI;(try simp only at cu o b i c)
 have B:=ht.lt _ _ _ o;have hA1W:∀y,A1 y→w.size≤y:=fun y a=>(b y a).1.elim (hA3 y) fun h=>by omega
 have hd:∀y,A1 y→¬(C1 y∨y=U):=fun y a hx=>hx.elim (b y a).2.2.1 (b y a).2.2.2
 have hC4:∀y,C1 y∨y=U→Q.size≤y:=fun y a=>a.elim (fun h=>i y (.inr h)) fun e=>by omega
 refine KD cu (fun y a=>by omega) (fun h6 hr0 j=>?_) fun h6 fs' p R G' C' O X q V Y j=>?_
 ·have N:=ht.keep _ _ _ _ _ o j hd
  refine yx fun S b7 E=>?_
  refine Join.intro (fun t u=>t=true∧u=S) (fun R hR=>aw.2 (hR _ _ ⟨rfl,rfl⟩)) ?_
  rintro t u ⟨rfl,rfl⟩;refine aw.2 (hk' pre A1 u ?_ (ht.keep _ _ _ _ No N E (fun _ _ h=>h)) ?_ fun y a=>(b y a).1)
  ·rw[hr0,be]at c
   exact c
  ·exact(Z.trans j fun y a=>.inr (hC4 y a)).tr E.wide
 ·have N:=ht.keep _ _ _ _ _ o j hd
  refine yx (p:=p) fun S b7 E=>?_
  have hj7:=ht.keep _ _ _ _ No N E (fun _ _ h=>h)
  have cu7:=q.upd E (fun _ h=>h.elim) (fun _ _ h=>h) (fun _ _ h=>h) fun h=>h
  have hu47:Upd A Q S:=(Z.trans j fun y a=>.inr (hC4 y a)).tr E.wide
  have s6:=j.size;have s7:=E.size;refine Join.intro (fun t u=>t=false∧∃T,J (pre++ [p]) T u∧Upd A1 S u∧∀y,T y→A1 y∨S.size≤y) (fun R' hR=>?_) ?_
  ·refine ag.2 ⟨_,vc b7 0,_,vc b7 1,?_⟩
   refine ht.step pre A1 S p _ hj7 ?_ fun u T H n D=>hR _ _ ⟨rfl,T,H,n,D⟩
   have:=congrArg List.length c;rw[O]at this;simp only[ae,au]at this;omega
  ·rintro t u ⟨rfl,T,H,n,D⟩
   have z:∀y,G' y→¬A1 y:=fun y a hx=>(Y y a).elim (b y hx).2.1 fun h=>by have:=B y hx;omega
   have v:∀y,C' y→¬A1 y:=fun y a hx=>(V y a).elim (b y hx).2.2.1 fun h=>by have:=B y hx;omega
   have hcb6:U<h6.size:=by obtain⟨s,d,hx,_⟩:=q.ex;exact bw hx
   refine ag.2 (hI (pre++ [p],fs',T,G',C') () u ⟨?_,H,?_,fun y a=>?_,fun y a=>?_,?_,by have:=n.size;omega⟩ ?_)
   ·exact cu7.upd n (fun y a=>.inl (hA1W y a)) v z fun hx=>(b _ hx).2.2.2 rfl
   ·exact hu47.trans n fun y a=>(b y a).1
   ·rcases D y a with h|h
    ·exact⟨(b y h).1,fun hx=>z y hx h,fun hx=>v y hx h,(b y h).2.2.2⟩
    ·exact⟨.inr (by omega),fun hx=>by have:=q.lt y (.inr hx);omega,fun hx=>by have:=q.lt y (.inl hx);omega,by omega⟩
   ·rcases a with a|a
    ·rcases Y y a with h|h
     ·exact i y (.inl h)
     ·omega
    ·rcases V y a with h|h
     ·exact i y (.inr h)
     ·omega
   ·(try simp only)
    rw[aE,X,←c,O];rfl
   ·(try simp only)
    rw[O,X];simp
theorem GP{W W':Nat→Prop}{x:Hs}{h:ad}{m:Nat}{r:Option Addr}{l:List Pr}(t:Below W x h m r l)(hm:m≤13)(k:bM l)(n:l.length≤100000)(c:∀y,W' y→y<h.size){K:SliceV→ad→Prop}
  (s:∀s' h',Sl dQ 2 W' h' s' l→s'.len≤s'.cap→Upd No h h'→K s' h'):eP 292 [.pointer r] K h:=by
 refine cW (yE r) .nil Tryz.func292 Tryz.call292 ?_;unfold yE;refine MQ t hm n fun z w i f=>?_
 refine Md i (by omega) fun A v xs e j d=>?_
 subst e;have q:=IX x m l;refine P7 (W':=W') (j.sl (W:=No) fun _ _ _ h=>h) (fun y p=>az (c y p) (f.tr d).size) (by omega) fun o g a b u=>?_
 rw[V7 k]at a;exact s o g a b ((f.tr d).tr u)
end Go.Proofs
namespace Go.Proofs
open Go.Lift
abbrev Ch:=ByteArray×ByteArray×ByteArray×Bool×Bool
abbrev GN(c:Ch):List Value:= [.string c.1,.string c.2.1,.string c.2.2.1,.bool c.2.2.2.1,.bool c.2.2.2.2]
def Hb(p:Pr):Ch:=(p.1,p.2,⟨#[]⟩,true,false)
def Ub(p:Pr):Ch:=(p.1,⟨#[]⟩,p.2,false,true)
def gM:List Pr→List Pr→List Ch
 | [],B=>B.map Ub
 |a::A,[]=>Hb a::gM A []
 |a::A,b::B=>if kl a.1 b.1 then Hb a::gM A (b::B)else if kl b.1 a.1 then Ub b::gM (a::A) B else if a.2=b.2 then gM A B else(a.1,a.2,b.2,true,true)::gM A B
termination_by A B=>A.length+B.length
theorem iu(B:List Pr):gM [] B=B.map Ub:=by unfold gM;rfl
theorem uN:∀A:List Pr,gM A []=A.map Hb
 | []=>by rw[iu];rfl
 |a::A=>by unfold gM;rw[uN A];rfl
theorem p5(a b:Pr)(A B:List Pr):gM (a::A) (b::B)=if kl a.1 b.1 then Hb a::gM A (b::B)else if kl b.1 a.1 then Ub b::gM (a::A) B else if a.2=b.2 then gM A B else(a.1,a.2,b.2,true,true)::gM A B:=by
 conv=>lhs;unfold gM
theorem SI{a b:ByteArray}(h:kl a b):¬kl b a:=fun k=>bN _ (dw h k)
theorem rV{a:Pr}{A:List Pr}:∀{B:List Pr},(∀q∈B,kl a.1 q.1)→gM (a::A) B=Hb a::gM A B
 | [],_=>by rw[uN,uN];rfl
 |b::B,h=>by rw[p5,if_pos (h b (ar ..))]
theorem rU{b:Pr}{B:List Pr}:∀{A:List Pr},(∀q∈A,kl b.1 q.1)→gM A (b::B)=Ub b::gM A B
 | [],_=>by rw[iu,iu];rfl
 |a::A,h=>by
  have h:=h a (ar ..);rw[p5,if_neg (SI h),if_pos h]
theorem AL:∀A:List Pr,gM A A= []
 | []=>by rw[iu];rfl
 |a::A=>by rw[p5,if_neg (bN _),if_neg (bN _),if_pos rfl,AL A]
def xt(a b:Pr):List Ch:=if a.2=b.2 then[]else[(a.1,a.2,b.2,true,true)]
theorem rS{a b:Pr}(e:a.1=b.1)(A B:List Pr):gM (a::A) (b::B)=xt a b++gM A B:=by
 rw[p5,e,if_neg (bN _),if_neg (bN _)];unfold xt;split
 ·rfl
 ·rw[←e];rfl
theorem ya:∀{A B:List Pr} {c:Ch},c∈gM A B→∃p,p∈A++B∧c.1=p.1
 | [],B,c,h=>by
  rw[iu]at h;obtain⟨p,d,e⟩:=aP.1 h;exact⟨p,d,by rw[←e];rfl⟩
 |a::A,[],c,h=>by
  rw[uN]at h;obtain⟨p,d,e⟩:=aP.1 h;exact⟨p,bQ _ d,by rw[←e];rfl⟩
 |a::A,b::B,c,h=>by
  rw[p5]at h;by_cases i:kl a.1 b.1
  ·rw[if_pos i]at h
   rcases aq.1 h with h|h
   ·exact⟨a,ar ..,by rw[h];rfl⟩
   ·obtain⟨p,d,e⟩:=ya h
    exact⟨p,ax _ d,e⟩
  ·rw[if_neg i]at h
   by_cases g:kl b.1 a.1
   ·rw[if_pos g]at h
    rcases aq.1 h with h|h
    ·exact⟨b,bW _ (ar ..),by rw[h];rfl⟩
    ·obtain⟨p,d,e⟩:=ya h
     refine⟨p,?_,e⟩;rcases aF.1 d with d|d
     ·exact bQ _ d
     ·exact bW _ (ax _ d)
   ·rw[if_neg g]at h
    have f:c∈gM A B→∃p,p∈a::A++b::B∧c.1=p.1:=fun h=>by
     obtain⟨p,d,e⟩:=ya h;refine⟨p,?_,e⟩;rcases aF.1 d with d|d
     ·exact bQ _ (ax _ d)
     ·exact bW _ (ax _ d)
    split at h
    ·exact f h
    ·rcases aq.1 h with h|h
     ·exact⟨a,ar ..,by rw[h]⟩
     ·exact f h
termination_by A B=>A.length+B.length
theorem mK{P:List Pr→List Pr→Prop}(nil:P [] [])(c:∀a A B,bM (a::A)→bM B→(∀q∈B,kl a.1 q.1)→P A B→P (a::A) B)
  (d:∀b A B,bM A→bM (b::B)→(∀q∈A,kl b.1 q.1)→P A B→P A (b::B))(same:∀a b A B,a.1=b.1→bM (a::A)→bM (b::B)→P A B→P (a::A) (b::B)):
  ∀{A B:List Pr},bM A→bM B→P A B
 | [],[],_,_=>nil
 | [],b::B,hA,hB=>d b [] B hA hB (fun _ h=>absurd h dy) (mK nil c d same hA (ay.1 hB).2)
 |a::A,[],hA,hB=>c a A [] hA hB (fun _ h=>absurd h dy) (mK nil c d same (ay.1 hA).2 hB)
 |a::A,b::B,hA,hB=>by
  have i:=ay.1 hA;have g:=ay.1 hB;by_cases k:kl a.1 b.1
  ·refine c a A (b::B) hA hB (fun q f=>?_) (mK nil c d same i.2 hB)
   rcases aq.1 f with f|f
   ·rw[f];exact k
   ·exact dw k (g.1 q f)
  ·by_cases m:kl b.1 a.1
   ·refine d b (a::A) B hA hB (fun q f=>?_) (mK nil c d same hA g.2)
    rcases aq.1 f with f|f
    ·rw[f];exact m
    ·exact dw m (i.1 q f)
   ·have e:a.1=b.1:=Decidable.byContradiction fun j=>m (kz k j)
    exact same a b A B e hA hB (mK nil c d same i.2 g.2)
termination_by A B=>A.length+B.length
abbrev Ks(l:List Ch):Prop:=l.Pairwise fun p q=>kl p.1 q.1
theorem y9{A B:List Pr}(f:bM A)(g:bM B):Ks (gM A B):=by
 refine mK (P:=fun A B=>Ks (gM A B)) ?_ (fun a A B f _ h i=>?_) (fun b A B _ g h i=>?_) (fun a b A B e f g i=>?_) f g
 ·rw[iu];exact .nil
 ·rw[rV h]
  refine ay.2 ⟨fun c hc=>?_,i⟩
  obtain⟨p,d,e⟩:=ya hc;rw[e];rcases aF.1 d with d|d
  ·exact(ay.1 f).1 p d
  ·exact h p d
 ·rw[rU h]
  refine ay.2 ⟨fun c hc=>?_,i⟩
  obtain⟨p,d,e⟩:=ya hc;rw[e];rcases aF.1 d with d|d
  ·exact h p d
  ·exact(ay.1 g).1 p d
 ·rw[rS e]
  unfold xt;split
  ·exact i
  ·refine ay.2 ⟨fun c hc=>?_,i⟩
   obtain⟨p,d,j⟩:=ya hc;rw[j];rcases aF.1 d with d|d
   ·exact(ay.1 f).1 p d
   ·rw[e];exact(ay.1 g).1 p d
theorem Og(g:ByteArray→Bool){A B:List Pr}(j:bM A)(f:bM B):gM (A.filter fun p=>g p.1) (B.filter fun p=>g p.1)=(gM A B).filter fun c=>g c.1:=by
 refine mK (P:=fun A B=>gM (A.filter fun p=>g p.1) (B.filter fun p=>g p.1)=(gM A B).filter fun c=>g c.1) ?_ (fun a A B j _ h i=>?_) (fun b A B _ f h i=>?_) (fun a b A B e j f i=>?_) j f
 ·rw[gL,iu];rfl
 ·rw[rV h,aR,aR,←i]
  show gM (if g a.1=true then _ else _) _=if g a.1=true then _ else _
  by_cases d:g a.1=true
  ·rw[if_pos d,if_pos d,rV fun q k=>h q (bE.1 k).1]
  ·rw[if_neg d,if_neg d]
 ·rw[rU h,aR,aR,←i]
  show gM _ (if g b.1=true then _ else _)=if g b.1=true then _ else _
  by_cases d:g b.1=true
  ·rw[if_pos d,if_pos d,rU fun q k=>h q (bE.1 k).1]
  ·rw[if_neg d,if_neg d]
 ·rw[rS e,ci,←i,aR,aR,←e]
  unfold xt;by_cases d:g a.1=true
  ·rw[if_pos d,if_pos d,rS e]
   unfold xt;split
   ·rfl
   ·rw[aR,if_pos d];rfl
  ·rw[if_neg d,if_neg d]
   split
   ·rfl
   ·rw[aR,if_neg d];rfl
theorem Ew{A2 B2:List Pr}:∀{A1 B1:List Pr},bM A1→bM B1→(∀p∈A1,∀q∈A2,kl p.1 q.1)→(∀p∈A1,∀q∈B2,kl p.1 q.1)→(∀p∈B1,∀q∈A2,kl p.1 q.1)→(∀p∈B1,∀q∈B2,kl p.1 q.1)→
  gM (A1++A2) (B1++B2)=gM A1 B1++gM A2 B2:=by
 intro A1 B1 m n;refine mK (P:=fun A1 B1=>(∀p∈A1,∀q∈A2,kl p.1 q.1)→(∀p∈A1,∀q∈B2,kl p.1 q.1)→(∀p∈B1,∀q∈A2,kl p.1 q.1)→(∀p∈B1,∀q∈B2,kl p.1 q.1)→gM (A1++A2) (B1++B2)=gM A1 B1++gM A2 B2) ?_ (fun a A B m _ h i=>?_) (fun b A B _ n h i=>?_) (fun a b A B e m n i=>?_) m n
 ·intro _ _ _ _;rw[iu];rfl
 ·intro g d f j
  rw[dz,rV h,rV (fun q k=>(aF.1 k).elim (h q) (d a (ar ..) q)),i (fun p c=>g p (ax _ c)) (fun p c=>d p (ax _ c)) f j];rfl
 ·intro g d f j
  rw[dz,rU h,rU (fun q k=>(aF.1 k).elim (h q) (f b (ar ..) q)),i g d (fun p c=>f p (ax _ c)) (fun p c=>j p (ax _ c))];rfl
 ·intro g d f j
  rw[dz,dz,rS e,rS e,i (fun p c=>g p (ax _ c)) (fun p c=>d p (ax _ c)) (fun p c=>f p (ax _ c)) (fun p c=>j p (ax _ c)),aE]
theorem ri{A B:List Pr}(c:bM A)(d:bM B):(gM A B).length≤A.length+B.length:=by
 refine mK (P:=fun A B=>(gM A B).length≤A.length+B.length) ?_ (fun a A B c _ h i=>?_) (fun b A B _ d h i=>?_) (fun a b A B e c d i=>?_) c d
 ·rw[iu];exact ai _
 ·rw[rV h];simp only[au];omega
 ·rw[rU h];simp only[au];omega
 ·rw[rS e,ae,au,au]
  have:(xt a b).length≤1:=by unfold xt;split<;>simp
  omega
theorem CN{α:Type}(g:α→Nat)(n:Nat):∀L:List α,((L.filter fun x=>decide (g x<n))++L.filter fun x=>decide (g x=n)).Perm (L.filter fun x=>decide (g x<n+1))
 | []=>.refl _
 |a::L=>by
  have i:=CN g n L;rw[aR,aR,aR];by_cases c:g a<n
  ·rw[if_pos (decide_eq_true c),if_neg (by simp;omega),if_pos (by simp;omega)]
   exact i.cons a
  ·by_cases b:g a=n
   ·rw[if_neg (by simp;omega),if_pos (by simpa using b),if_pos (by simp;omega)]
    exact List.perm_middle.trans (i.cons a)
   ·rw[if_neg (by simp;omega),if_neg (by simpa using b),if_neg (by simp;omega)]
    exact i
end Go.Proofs
namespace Go.Proofs
open Go Go.Lift
theorem Tw(x:Ch):(GN x).length=5∧0<5:=⟨rfl,by omega⟩
abbrev Ym(x:Hs)(s:SliceV):Array Value:= #[.int .u64 x.k0,.int .u64 x.k1,.int .u64 x.mask,sv s]
structure SetAt(C:Nat→Prop)(h:ad)(sb:Nat)(x:Hs)(L:List Ch):Prop where
 ex:∃s,h[sb]? =some (.cells (Ym x s) 287 (0,0))∧OwnS GN 5 209 C h s L
 lt:∀b,C b→b<h.size
 ne:¬C sb
theorem SetAt.upd{C M:Nat→Prop}{h h':ad}{sb:Nat}{x:Hs}{L:List Ch}(st:SetAt C h sb x L)(k:Upd M h h')(a:∀b,C b→¬M b)(c:¬M sb):SetAt C h' sb x L:=by
 obtain⟨s,e,d⟩:=st.ex;exact⟨⟨s,k.get e c,d.upd k a⟩,fun b hb=>az (st.lt b hb) k.size,st.ne⟩
theorem SetAt.upd0{C:Nat→Prop}{h h':ad}{sb:Nat}{x:Hs}{L:List Ch}(st:SetAt C h sb x L)(k:Upd No h h'):SetAt C h' sb x L:=st.upd k (fun _ _ h=>h) fun h=>h
abbrev Q8(C:Nat→Prop)(h:ad)(sb:Nat)(x:Hs)(L:List Ch)(G:ad→Prop):Prop:=∀h' C',SetAt C' h' sb x L→(∀b,C' b→C b∨h.size≤b)→Upd (fun b=>C b∨b=sb) h h'→G h'
theorem Nb{C:Nat→Prop}{h:ad}{sb:Nat}{x:Hs}{L:List Ch}{s:SliceV}{c:Ch}(st:SetAt C h sb x L)(hb:h[sb]? =some (.cells (Ym x s) 287 (0,0))) (q:OwnS GN 5 209 C h s L) (u:L.length+1≤100000000) {G:ad→Prop} (n:Q8 C h sb x (L++ [c]) G):
  At (hnew h [.string c.1,.string c.2.1,.string c.2.2.1,.bool c.2.2.2.1,.bool c.2.2.2.2] 209) (fun d=>aK d (adr ⟨sb,0,none⟩ 3)=some (.slice s.a s.len s.cap)∧∃xs,SRow d (some (aL h)) (1*5) xs∧
   AppP (some [.string (⟨#[]⟩:ByteArray),.string (⟨#[]⟩:ByteArray),.string (⟨#[]⟩:ByteArray),.bool false,.bool false]) 5 56 209 s.a s.len s.cap 1 xs d (fun i j=>∃a:Addr,some (⟨sb,0,none⟩:Addr)=some a∧(Wr j (adr a 3)∧At (hset j (adr a 3) (.slice i.a i.len i.cap)) G))):=by
 refine ba fun d b1 k1=>⟨vc (k1.get0 hb) 3,?_⟩
 have t:=bw b1;have v:=k1.size;have w:=bw hb;have m:OwnS GN 5 209 (fun _=>True) d ⟨some (aL h),1,1⟩ [c]:=⟨rfl,Tw,ai _,.inr ⟨h.size,[],rfl,trivial,b1,rfl⟩⟩
 refine⟨_,(m.sl (W:=No) fun _ _ _ h=>h).srow,?_⟩
 refine AppP.own (M:=fun b=>C b∨d.size≤b) (ys:= [c]) ((q.upd k1 fun _ _ h=>h).more fun _ h=>.inl h) rfl rfl rfl rfl (by omega) (by simp only[bh];omega) (.inr (ai _)) fun i j k g=>?_
 have b2:=g.get (k1.get0 hb) fun h=>h.elim st.ne fun h=>by omega
 have p:=g.size;refine⟨_,rfl,rA (c':=Ym x i) b2 (by simp) rfl fun o b3 f=>?_⟩
 refine n o (fun b=>(C b∨d.size≤b)∧b<j.size) ⟨⟨i,b3,(k.within).upd f fun b hb e=>?_⟩,fun b hb=>az hb.2 f.size,fun hb=>?_⟩ (fun b hb=>hb.1.imp id fun h=>by omega) ?_
 ·have e:b=sb:=e
  rw[e]at hb;exact hb.1.elim st.ne fun h=>by omega
 ·exact hb.1.elim st.ne fun h=>by omega
 ·exact((k1.wide.trans g fun b hb=>hb.elim (fun h=>.inl (.inl h)) fun h=>.inr (by omega)).trans f fun b hb=>.inl (.inr hb))
theorem O2{W:Nat→Prop}{h:ad}{s:SliceV}{p:Pr}{l:List Pr}(a:Sl dQ 2 W h s (p::l))(hc:s.len≤s.cap):Sl dQ 2 W h ⟨aV s.a 1 s.cap 2,s.len-1,s.cap-1⟩ l:=by
 have b:=a.len;rw[au]at b;have:=Sl.sub a (l:=1) (hi:=s.len) (m:=s.cap) (c:=s.cap-1) (by omega) (by rw[au];omega) hc;rw[show((p::l).drop 1).take (s.len-1)=l by rw[List.drop_succ_cons,List.drop_zero];exact aS (by omega)]at this
 exact this
theorem Ax{C:Nat→Prop}{h:ad}{sb:Nat}{x:Hs}{L:List Ch}{s s':SliceV}{A B:List Pr}(st:SetAt C h sb x L)(hs:Sl dQ 2 (fun b=>C b∨b=sb) h s A)(hs':Sl dQ 2 (fun b=>C b∨b=sb) h s' B)(hc:s.len≤s.cap)(hc':s'.len≤s'.cap)
  (hn:L.length+A.length+B.length≤100000000){K:Unit→ad→Prop}(hk:Q8 C h sb x (L++gM A B) (K ())):dd 254 [gS sb,.slice s.a s.len s.cap,.slice s'.a s'.len s'.cap] K h:=by
 refine cW (vl (some ⟨sb,0,none⟩) s s') Cv Tryz.func254 Tryz.call254 ?_;dsimp only[vl,cg,PW,DH,cH,gU,cV,Gc,Ms,fQ,cZ,AX,Oq,pn];have hss:=hs.less (W':=fun b=>C b∨b=sb∨h.size≤b) fun b hb=>hb.elim (fun h=>.inl (.inl h)) fun h=>h.elim (fun h=>.inl (.inr h)) .inr
 have hss':=hs'.less (W':=fun b=>C b∨b=sb∨h.size≤b) fun b hb=>hb.elim (fun h=>.inl (.inl h)) fun h=>h.elim (fun h=>.inl (.inr h)) .inr
 refine LoopP.ghost (fun(g:List Pr×List Pr×List Ch×(Nat→Prop)) (t:SliceV×SliceV) h'=>SetAt g.2.2.2 h' sb x g.2.2.1∧(∀b,g.2.2.2 b→C b∨h.size≤b)∧Upd (fun b=>C b∨b=sb) h h'∧Sl dQ 2 (fun b=>C b∨b=sb∨h.size≤b) h' t.1 g.1∧Sl dQ 2 (fun b=>C b∨b=sb∨h.size≤b) h' t.2 g.2.1∧t.1.len≤t.1.cap∧t.2.len≤t.2.cap∧g.2.2.1++gM g.1 g.2.1=L++gM A B∧g.2.2.1.length+g.1.length+g.2.1.length≤L.length+A.length+B.length)
  (fun g=>g.1.length+g.2.1.length) (A,B,L,C) ⟨st,fun _ h=>.inl h,Upd.refl _ _,hss,hss',hc,hc',rfl,ai _⟩ ?_
 rintro I ⟨A1,B1,L1,W⟩ ⟨u,N⟩ Z ⟨k,D,V,j,m,H,G,he,F⟩ hI;(try simp only at k D j m H G he F)
 have P:u.len=A1.length:=j.len;have l2:N.len=B1.length:=m.len;obtain⟨sl,o,S⟩:=k.ex;have go:∀(c:List Ch) (A2 B2:List Pr) (Y u2:SliceV) (O:ad) (C2:Nat→Prop),SetAt C2 O sb x (L1++c)→(∀b,C2 b→W b∨Z.size≤b)→Upd (fun b=>W b∨b=sb) Z O→gM A1 B1=c++gM A2 B2→Sl dQ 2 (fun b=>C b∨b=sb∨h.size≤b) Z Y A2→Sl dQ 2 (fun b=>C b∨b=sb∨h.size≤b) Z u2 B2→Y.len≤Y.cap→u2.len≤u2.cap→c.length+A2.length+B2.length≤A1.length+B1.length→A2.length+B2.length<A1.length+B1.length→I (Y,u2) O:=by
  intro c A2 B2 Y u2 O C2 st2 hC2 T e p J w1 w2 hl d;have hm:∀b,W b∨b=sb→(C b∨b=sb∨h.size≤b)∨Z.size≤b:=fun b hb=>.inl (hb.elim (fun h=>(D b h).imp id .inr) fun h=>.inr (.inl h))
  refine hI (A2,B2,L1++c,C2) (Y,u2) O ⟨st2,fun b hb=>?_,?_,p.upd T hm,J.upd T hm,w1,w2,?_,?_⟩ d
  ·rcases hC2 b hb with h|h
   ·exact D b h
   ·exact .inr (aW V.size h)
  ·exact V.trans T fun b hb=>hb.elim (fun h=>(D b h).imp .inl id) fun h=>.inl (.inr h)
  ·show(L1++c)++gM A2 B2=_
   rw[aE,←e,he]
  ·show(L1++c).length+A2.length+B2.length≤_
   rw[ae];omega
 refine Join.intro (fun t h'=>h'=Z∧(t=true↔A1≠[]∨B1≠[])) (fun R q=>?_) ?_
 ·refine ao (fun hp=>q _ _ ⟨rfl,?_⟩) fun hp=>q _ _ ⟨rfl,?_⟩
  ·have hp:(u.len:Int)>0:=hp
   simp only[true_iff];left;intro e;rw[e]at P;simp only[bA]at P;omega
  ·have hp:¬(u.len:Int)>0:=hp
   have e1:A1= []:=aG.1 (by omega);show decide ((N.len:Int)>0)=true↔_
   rw[decide_eq_true_iff];constructor
   ·intro h;right;intro e;rw[e]at l2;simp only[bA]at l2;omega
   ·intro h
    rcases h with h|h
    ·exact absurd e1 h
    ·have:=List.length_pos_iff.2 h;omega
 rintro t O ⟨rfl,ht⟩;refine CondP.intro (fun e=>?_) fun e=>?_
 rotate_left
 ·have hn:A1= []∧B1= []:=by
   rw[e]at ht;constructor
   ·exact Decidable.byContradiction fun h=>absurd (ht.2 (.inl h)) (by simp)
   ·exact Decidable.byContradiction fun h=>absurd (ht.2 (.inr h)) (by simp)
  obtain⟨rfl,rfl⟩:=hn;rw[iu,fk,be]at he;subst he;exact hk O W k D V
 have hne:=ht.1 e;clear ht e;refine Join.intro (fun t h'=>h'=O∧((t=true∧∃a A',A1=a::A'∧gM A1 B1=Hb a::gM A' B1)∨(t=false∧∃b y,B1=b::y∧(A1= []∨∃a A',A1=a::A'∧¬kl a.1 b.1)))) (fun R q=>?_) ?_
 ·rcases B1 with _|⟨b,y⟩
  ·rcases A1 with _|⟨a,A'⟩
   ·exact absurd hne (by simp)
   rw[show(((N.len:Nat):Int)==0)=true by rw[l2];rfl]
   refine aw.2 (q _ _ ⟨rfl,.inl ⟨rfl,a,A',rfl,?_⟩⟩);rw[uN,uN];rfl
  ·rw[au]at l2
   rw[show(((N.len:Nat):Int)==0)=false by rw[beq_eq_false_iff_ne];omega]
   refine ag.2 ?_;rcases A1 with _|⟨a,A'⟩
   ·rw[bA]at P
    rw[decide_eq_false (show ¬((u.len:Int)>0) by omega)]
    exact ag.2 (q _ _ ⟨rfl,.inr ⟨rfl,b,y,rfl,.inl rfl⟩⟩)
   ·rw[au]at P
    rw[decide_eq_true (show((u.len:Int)>0) by omega)]
    refine aw.2 ?_;obtain⟨E,f,_,p⟩:=j.at (i:=0) (x:=a) rfl;obtain⟨X,n,_,J⟩:=m.at (i:=0) (x:=b) rfl;refine⟨⟨by first|omega|((try simp only);omega),by first|omega|((try simp only);omega)⟩,E,f,a.1,p 0 _ rfl,⟨by first|omega|((try simp only);omega),by first|omega|((try simp only);omega)⟩,X,n,b.1,J 0 _ rfl,q _ _ ⟨rfl,?_⟩⟩
    by_cases d:kl a.1 b.1
    ·exact .inl ⟨d,a,A',rfl,by rw[p5,if_pos d]⟩
    ·exact .inr ⟨by unfold kl at d;simpa using d,b,y,rfl,.inr ⟨a,A',rfl,d⟩⟩
 rintro t h3 ⟨rfl,⟨rfl,a,A',rfl,ec⟩|⟨rfl,b,y,rfl,hA⟩⟩
 ·refine aw.2 (Join.plain ?_)
  rw[au]at P;obtain⟨E,f,_,p⟩:=j.at (i:=0) (x:=a) rfl;refine⟨_,rfl,sl,vc o 3,⟨by first|omega|((try simp only);omega),by first|omega|((try simp only);omega)⟩,E,f,a.1,p 0 _ rfl,⟨by first|omega|((try simp only);omega),by first|omega|((try simp only);omega)⟩,E,f,a.2,p 1 _ rfl,?_⟩
  refine Nb (c:=Hb a) k o S (by simp only[au]at F;omega) fun h4 C4 st4 hC4 hu4=>?_
  refine⟨⟨by first|omega|((try simp only);omega),by first|omega|((try simp only);omega)⟩,?_⟩
  simp only[Bd];exact go [Hb a] A' B1 _ _ h4 C4 st4 hC4 hu4 ec (O2 j H) m (by show u.len-1≤u.cap-1;omega) G (by simp only[au,bA];omega) (by rw[au];omega)
 refine ag.2 ?_;rw[au]at l2;obtain⟨X,n,_,J⟩:=m.at (i:=0) (x:=b) rfl;refine Join.intro (fun t h'=>h'=h3∧((t=true∧gM A1 (b::y)=Ub b::gM A1 y)∨(t=false∧∃a A',A1=a::A'∧gM A1 (b::y)=xt a b++gM A' y))) (fun R q=>?_) ?_
 ·rcases hA with rfl|⟨a,A',rfl,hna⟩
  ·rw[show(((u.len:Nat):Int)==0)=true by rw[P];rfl]
   refine aw.2 (q _ _ ⟨rfl,.inl ⟨rfl,?_⟩⟩);rw[iu,iu];rfl
  ·rw[au]at P
   rw[show(((u.len:Nat):Int)==0)=false by rw[beq_eq_false_iff_ne];omega]
   obtain⟨E,f,_,p⟩:=j.at (i:=0) (x:=a) rfl;refine ag.2 ⟨⟨by first|omega|((try simp only);omega),by first|omega|((try simp only);omega)⟩,X,n,b.1,J 0 _ rfl,⟨by first|omega|((try simp only);omega),by first|omega|((try simp only);omega)⟩,E,f,a.1,p 0 _ rfl,q _ _ ⟨rfl,?_⟩⟩
   by_cases d:kl b.1 a.1
   ·exact .inl ⟨d,by rw[p5,if_neg hna,if_pos d]⟩
   ·refine .inr ⟨by unfold kl at d;simpa using d,a,A',rfl,?_⟩
    rw[p5,if_neg hna,if_neg d];unfold xt;split<;>rfl
 rintro t h4 ⟨rfl,⟨rfl,ec⟩|⟨rfl,a,A',rfl,ec⟩⟩
 ·refine aw.2 (Join.plain ?_)
  refine⟨_,rfl,sl,vc o 3,⟨by first|omega|((try simp only);omega),by first|omega|((try simp only);omega)⟩,X,n,b.1,J 0 _ rfl,⟨by first|omega|((try simp only);omega),by first|omega|((try simp only);omega)⟩,X,n,b.2,J 1 _ rfl,?_⟩
  refine Nb (c:=Ub b) k o S (by simp only[au]at F;omega) fun U Q w z v=>?_
  refine⟨⟨by first|omega|((try simp only);omega),by first|omega|((try simp only);omega)⟩,?_⟩
  simp only[Bd];exact go [Ub b] A1 y _ _ U Q w z v ec j (O2 m G) H (by show N.len-1≤N.cap-1;omega) (by simp only[au,bA];omega) (by rw[au];omega)
 rw[au]at P;obtain⟨E,f,_,p⟩:=j.at (i:=0) (x:=a) rfl;have hcl:(xt a b).length≤1:=by unfold xt;split<;>simp
 refine ag.2 (Join.intro (fun _ U=>∃Q,SetAt Q U sb x (L1++xt a b)∧(∀b,Q b→W b∨h4.size≤b)∧Upd (fun b=>W b∨b=sb) h4 U) (fun R q=>?_) ?_)
 ·refine⟨⟨by first|omega|((try simp only);omega),by first|omega|((try simp only);omega)⟩,E,f,a.2,p 1 _ rfl,⟨by first|omega|((try simp only);omega),by first|omega|((try simp only);omega)⟩,X,n,b.2,J 1 _ rfl,?_⟩
  have eb:(a.2.toList==b.2.toList)=decide (a.2=b.2):=dI;rw[eb];by_cases e:a.2=b.2
  ·rw[decide_eq_true e]
   refine ag.2 (q _ _ ⟨W,?_,fun _ h=>.inl h,Upd.refl _ _⟩)
   unfold xt;rw[if_pos e,be];exact k
  ·rw[decide_eq_false e]
   refine aw.2 ⟨_,rfl,sl,vc o 3,⟨by first|omega|((try simp only);omega),by first|omega|((try simp only);omega)⟩,E,f,a.1,p 0 _ rfl,⟨by first|omega|((try simp only);omega),by first|omega|((try simp only);omega)⟩,E,f,a.2,p 1 _ rfl,⟨by first|omega|((try simp only);omega),by first|omega|((try simp only);omega)⟩,X,n,b.2,J 1 _ rfl,?_⟩
   refine Nb (c:=(a.1,a.2,b.2,true,true)) k o S (by simp only[au]at F;omega) fun U Q w z v=>q _ _ ⟨Q,?_,z,v⟩
   unfold xt;rw[if_neg e];exact w
 ·rintro _ U ⟨Q,w,z,v⟩
  refine⟨⟨by first|omega|((try simp only);omega),by first|omega|((try simp only);omega)⟩,?_⟩
  simp only[Bd];refine⟨⟨by first|omega|((try simp only);omega),by first|omega|((try simp only);omega)⟩,?_⟩
  exact go (xt a b) A' y _ _ U Q w z v ec (O2 j H) (O2 m G) (by show u.len-1≤u.cap-1;omega) (by show N.len-1≤N.cap-1;omega) (by rw[au,au];omega) (by rw[au,au];omega)
end Go.Proofs
namespace Go.Proofs
open Go Go.Lift
theorem KZ{t:Tr}{h:ad}{K:Int→ad→Prop}(a:∀h',Upd No h h'→K t.1 h'):fH 87 [Ab t] K h:=by
 refine cW (uZ t) .nil Tryz.func87 Tryz.call87 ?_;dsimp only[uZ,aY,l7,tf];exact ba fun b b1 k1=>⟨_,vc b1 0,a b k1⟩
end Go.Proofs
namespace Go.Proofs
open Go Go.Lift
theorem HZ:∀{x y:List UInt8} {i:Nat} {a b:UInt8},(∀j,j<i→x[j]? =y[j]?)→x[i]? =some a→y[i]? =some b→a≠b→bI x y=decide (a.toNat<b.toNat)
 | [],_,_,_,_,_,h,_,_=>by simp at h
 |_::_,[],_,_,_,_,_,h,_=>by simp at h
 |c::x,d::y,0,a,b,_,h1,h2,hne=>by
  simp only[cI,bK.injEq]at h1 h2;subst h1 h2;simp only[bI];rw[beq_false_of_ne hne];simp[UInt8.lt_iff_toNat_lt]
 |c::x,d::y,i+1,a,b,he,h1,h2,hne=>by
  have e:=he 0 (by omega);simp only[cI,bK.injEq]at e;subst e;simp only[List.getElem?_cons_succ]at h1 h2;simp only[bI];rw[HZ (i:=i) (fun j f=>by simpa using he (j+1) (by omega)) h1 h2 hne]
  simp[UInt8.lt_irrefl]
theorem HX:∀{x y:List UInt8} {i:Nat},(∀j,j<i→x[j]? =y[j]?)→i≤x.length→i≤y.length→(i=x.length∨i=y.length)→bI x y=decide (x.length<y.length)
 | [],[],_,_,_,_,_=>by simp[bI]
 | [],_::_,_,_,_,_,_=>by simp[bI]
 |_::_,[],_,_,_,_,_=>by simp[bI]
 |c::x,d::y,0,_,_,_,h=>by simp at h
 |c::x,d::y,i+1,he,h1,h2,h3=>by
  have e:=he 0 (by omega);simp only[cI,bK.injEq]at e;subst e;simp only[bI];rw[HX (i:=i) (fun j a=>by simpa using he (j+1) (by omega)) (by simpa using h1) (by simpa using h2) (by simpa using h3)]
  simp[UInt8.lt_irrefl]
theorem E8{a b:ByteArray}(B:a.size≤1000000){h:ad}{K:Bool→ad→Prop}(z:K (decide (kl a b)) h):fI 125 [.string a,.string b] K h:=by
 refine cW (Gz a b) OD Tryz.func125 Tryz.call125 ?_;dsimp only[Gz,Ga];have A:a.data.toList.length=a.size:=by simp
 have C:b.data.toList.length=b.size:=by simp
 have f:∀{p:Prop} [Decidable p],bI a.data.toList b.data.toList=decide p→K (decide p) h:=fun{p} _ e=>by
  have:decide (kl a b)=decide p:=by
   rw[←e,←ByteArray.toList_eq,←ByteArray.toList_eq];exact Bool.eq_iff_iff.2 (by rw[decide_eq_true_iff];exact Iff.rfl)
  rw[←this];exact z
 refine LoopP.ghost (fun(i:Nat) (t:Int) h'=>t=(i:Int)∧i≤a.size∧i≤b.size∧h'=h∧∀j,j<i→a.data.toList[j]? =b.data.toList[j]?) (fun i=>a.size-i) 0 ⟨rfl,aN _,aN _,rfl,fun j n=>absurd n (Nat.not_lt_zero _)⟩ ?_
 rintro I i t h' ⟨rfl,x,w,rfl,m⟩ y;refine Join.intro (fun t s=>t=decide (i<a.size∧i<b.size)∧s=h') (fun R q=>?_) ?_
 ·refine ao (fun c=>q _ _ ⟨?_,rfl⟩) fun k=>q _ _ ⟨?_,rfl⟩
  ·rw[decide_eq_decide];omega
  ·rw[eq_comm,decide_eq_false_iff_not];omega
 ·rintro t s ⟨rfl,rfl⟩
  refine ao (fun c=>?_) fun k=>?_
  ·have v:a.data.toList[i]? =some a[i]:=by rw[←SX,getElem?_pos a i c.1]
   have u:b.data.toList[i]? =some b[i]:=by rw[←SX,getElem?_pos b i c.2]
   refine⟨a[i],by omega,by rw[bf,getElem?_pos a i c.1],b[i],by omega,by rw[bf,getElem?_pos b i c.2],?_⟩
   refine CondP.intro (fun g=>?_) fun d=>?_
   ·refine⟨a[i],by omega,by rw[bf,getElem?_pos a i c.1],b[i],by omega,by rw[bf,getElem?_pos b i c.2],?_⟩
    refine f ?_;rw[HZ m v u fun e=>by rw[e]at g;simp at g]
    rw[decide_eq_decide];omega
   ·have d:a[i]=b[i]:=by
     have:((a[i].toNat:Int))=(b[i].toNat:Int):=by simpa using d
     exact UInt8.toNat_inj.1 (by omega)
    rw[cp c.1 (by omega)];refine y (i+1) _ _ ⟨rfl,by omega,by omega,rfl,fun j n=>?_⟩ (by omega)
    rcases cr j i with o|o
    ·exact m j o
    ·have:j=i:=by omega
     subst this;rw[v,u,d]
  ·refine f ?_
   rw[HX m (by omega) (by omega) (by omega),decide_eq_decide];omega
theorem Lo{W:Nat→Prop}{h:ad}{s:SliceV}{l:List Pr}(z:Sl dQ 2 W h s l)(G:l.length≤1000000)(k:ByteArray){K:SliceV→ad→Prop}
  (E:∀s' h',OwnS dQ 2 169 (fun y=>h.size≤y) h' s' (l.filter fun p=>decide (p.1≠k))→Upd No h h'→K s' h'):eP 136 [.slice s.a s.len s.cap,.string k] K h:=by
 refine cW (GB s k) OF Tryz.func136 Tryz.call136 ?_;dsimp only[GB,nv,kJ,mY,mF,bi,rY,jA,fQ,Hf,cZ,fY];have x:=z.len;refine LoopP.ghost (fun(i:Nat) (t:SliceV×Int) h'=>t.2=(i:Int)∧i≤l.length∧OwnS dQ 2 169 (fun y=>h.size≤y) h' t.1 ((l.take i).filter fun p=>decide (p.1≠k))∧Upd No h h') (fun i=>l.length-i) 0 ⟨rfl,aN _,by simpa using OwnS.nil fc,Upd.refl _ _⟩ ?_
 rintro I i ⟨so,J⟩ h' ⟨A,hi,g,f⟩ D;(try simp only at A g)
 subst A;refine ao (fun b=>?_) fun n=>?_
 ·have b:i<l.length:=by have:(i:Int)<(s.len:Int):=b;omega
  obtain⟨a,C,_,hv⟩:=(z.upd f fun _ h=>h.elim).at (af b)
  have o:((l.take i).filter fun p=>decide (p.1≠k)).length≤l.length:=aW (bF ..) (by rw[aQ];omega)
  refine Join.intro (fun t j=>OwnS dQ 2 169 (fun y=>h.size≤y) j t ((l.take (i+1)).filter fun p=>decide (p.1≠k))∧Upd No h j) (fun R d=>⟨⟨by(try simp only);omega,by(try simp only);omega⟩,a,C,l[i].1,hv 0 _ rfl,l[i].2,hv 1 _ rfl,?_⟩) ?_
  ·refine yx (p:=l[i]) fun j b2 m=>⟨_,vc b2 0,?_⟩
   have c:=g.upd m fun _ _ h=>h
   rw[av b,ci,aR,gL]at d;rw[dI];by_cases e:l[i].1=k
   ·rw[decide_eq_true e]
    rw[decide_eq_false (not_not_intro e)]at d;rw[if_neg (by simp),be]at d;exact ag.2 (d _ _ ⟨c,f.tr m⟩)
   ·rw[decide_eq_false e]
    rw[decide_eq_true e,if_pos rfl]at d;refine aw.2 ⟨_,vc b2 0,_,vc b2 1,bL ?_⟩;refine rX (p:=l[i]) c (fun y v=>aW (f.tr m).size v) (aW (Nat.add_le_add_right o 1) (by omega)) fun H F q w=>d _ _ ⟨q,(f.tr m).trans w fun y v=>.inr v⟩
  ·rintro t j ⟨c,u⟩
   rw[cp b (by omega)];exact D (i+1) _ _ ⟨rfl,b,c,u⟩ (by omega)
 ·have B:i=l.length:=by have:¬(i:Int)<(s.len:Int):=n;omega
  rw[aS (by omega)]at g;exact E _ _ g f
theorem Pc{W:Nat→Prop}{h:ad}{s:SliceV}{l:List Pr}(hs:Sl dQ 2 W h s l)(hr:bM l)(hn:l.length≤1000000)(p:Pr)(hp:p.1.size≤1000000){K:SliceV→ad→Prop}
  (hk:∀s' h',OwnS dQ 2 169 (fun y=>h.size≤y) h' s' (fG p l)→Upd No h h'→K s' h'):eP 129 [.slice s.a s.len s.cap,.agg #[.string p.1,.string p.2]] K h:=by
 refine cW (IK s p) Rg Tryz.func129 Tryz.call129 ?_;dsimp only[IK,nv,yg,kJ,kR,mY,mF,bi,rY,jA,fQ,Hf,cZ,fY];refine ba fun h1 b1 k1=>⟨p.1,vc b1 0,?_⟩
 refine Lo (hs.upd k1 fun _ h=>h.elim) hn p.1 fun s4 u P k4=>?_
 rw[←H5 hr]at hk;have hrf:bM (l.filter fun q=>decide (q.1≠p.1)):=hr.sublist List.filter_sublist
 have hnl:(l.filter fun q=>decide (q.1≠p.1)).length≤1000000:=aW (bF ..) hn
 have J:∀q∈l.filter fun q=>decide (q.1≠p.1),q.1≠p.1:=fun q v=>of_decide_eq_true (bE.1 v).2
 generalize l.filter (fun q=>decide (q.1≠p.1))=L at hk P hrf hnl J
 have C:=k1.tr k4;have F:Sl dQ 2 No u s4 L:=P.sl fun _ _ _ h=>h
 have hlen:=F.len;have z4:=C.size;refine LoopP.ghost (fun(g:Nat×Bool) (t:SliceV×Bool×Int) h'=>t.2.2=(g.1:Int)∧t.2.1=g.2∧g.1≤L.length∧(∃out,OwnS dQ 2 169 (fun y=>u.size≤y) h' t.1 out∧out.length≤g.1+1∧(g.2=false→out=L.take g.1∧∀q∈L.take g.1,kl q.1 p.1)∧(g.2=true→out=fG p (L.take g.1)∧∃q∈L.take g.1,kl p.1 q.1))∧Upd No u h') (fun g=>L.length-g.1) (0,false) ⟨rfl,rfl,aN _,⟨[],OwnS.nil fc,by simp,fun _=>⟨by simp,by simp⟩,fun h=>by cases h⟩,Upd.refl _ _⟩ ?_
 rintro I ⟨i,pl⟩ ⟨so,Z,ti⟩ h' ⟨e1,e2,hi,⟨out,G,N,X,ht⟩,x⟩ hI;(try simp only at e1 e2 hi G N X ht)
 subst e1 e2;have b':=x.get0 (k4.get0 b1);refine ao (fun f=>?_) fun hge=>?_
 ·have f:i<L.length:=by have:(i:Int)<(s4.len:Int):=f;omega
  obtain⟨a,ha,_,hv⟩:=(F.upd x fun _ h=>h.elim).at (af f)
  have d:=av f;have E:L[i]∈L:=List.getElem_mem f;refine Join.intro (fun t D=>(∃out,OwnS dQ 2 169 (fun y=>u.size≤y) D t.1 out∧out.length≤i+1+1∧(t.2=false→out=L.take (i+1)∧∀q∈L.take (i+1),kl q.1 p.1)∧(t.2=true→out=fG p (L.take (i+1))∧∃q∈L.take (i+1),kl p.1 q.1))∧Upd No u D) (fun R hR=>⟨⟨by(try simp only);omega,by(try simp only);omega⟩,a,ha,L[i].1,hv 0 _ rfl,L[i].2,hv 1 _ rfl,?_⟩) ?_
  ·refine yx (p:=L[i]) fun D b2 Y=>?_
   have o:=G.upd Y fun _ _ h=>h
   have n:=x.tr Y;have zb:=bw b2;have z2:=x.size;have hoM:=(G.within.upd Y fun _ _ h=>h).more (M':=fun y=>(u.size≤y∧y<h'.size)∨D.size≤y) fun y b=>.inl b
   have c2:=Y.get0 b';refine Join.intro (fun t z=>(∃out,OwnS dQ 2 169 (fun y=>u.size≤y) z t.1 out∧out.length≤i+1∧(t.2=false→out=L.take i∧∀q∈L.take (i+1),kl q.1 p.1)∧(t.2=true→out++ [L[i]]=fG p (L.take (i+1))∧∃q∈L.take (i+1),kl p.1 q.1))∧z[h'.size]? =some (.cells #[.string L[i].1,.string L[i].2] 169 (0,0))∧Upd No u z) (fun R2 w=>?_) ?_
   ·refine Join.intro (fun t z=>t=(!Z&&decide (kl p.1 L[i].1))∧z=D) (fun R3 S=>?_) ?_
    ·cases Z with
     |false=>exact aw.2 ⟨p.1,vc c2 0,L[i].1,vc b2 0,E8 hp (S _ _ ⟨by simp,rfl⟩)⟩
     |true=>exact ag.2 (S _ _ ⟨by simp,rfl⟩)
    ·rintro t z ⟨rfl,rfl⟩
     cases Z with
     |true=>
      obtain⟨e,q,v,V⟩:=ht rfl;refine ag.2 (w _ _ ⟨⟨out,o,N,fun h=>(by cases h),fun _=>?_⟩,b2,n⟩)
      rw[d,e];exact⟨(LW ⟨q,v,V⟩).symm,q,bQ _ v,V⟩
     |false=>
      obtain⟨e,c⟩:=X rfl;subst e;by_cases k:kl p.1 L[i].1
      ·rw[decide_eq_true k]
       refine aw.2 ⟨p.1,vc c2 0,p.2,vc c2 1,bL ?_⟩;refine rX (p:=p) hoM (fun y b=>.inr b) (by rw[aQ];omega) fun s5 h5 m j=>w _ _ ⟨⟨_,m.more (fun y b=>by rcases b with b|b<;>omega),by rw[ae,aQ,bh];omega,fun h=>(by cases h),fun _=>?_⟩,j.get b2 (by rintro(hx|hx)<;>omega),n.trans j fun y b=>.inr (by rcases b with b|b<;>omega)⟩
       ·rw[d,Fz c]
        refine⟨?_,L[i],bW _ (al.2 rfl),k⟩;rw[aE,LU (l:= [L[i]]) fun q v=>by rw[al.1 v];exact k]
        rfl
      ·rw[decide_eq_false k]
       have v:kl L[i].1 p.1:=kz k fun e=>J _ E e.symm
       refine ag.2 (w _ _ ⟨⟨_,o,by rw[aQ];omega,fun _=>⟨rfl,fun q T=>?_⟩,fun h=>(by cases h)⟩,b2,n⟩)
       rw[d]at T;rcases aF.1 T with h|h
       ·exact c q h
       ·rw[al.1 h];exact v
   ·rintro⟨t1,t2⟩ z ⟨⟨out3,H,hol3,Q,O⟩,b3,U⟩
    (try simp only at H Q O)
    refine⟨_,vc b3 0,_,vc b3 1,bL ?_⟩;refine rX (p:=L[i]) H (fun y b=>aW U.size b) (by omega) fun s5 h5 m j=>hR _ _ ⟨⟨_,m,by rw[ae,bh];omega,fun h=>?_,fun h=>O h⟩,U.trans j fun y b=>.inr b⟩
    obtain⟨e,c⟩:=Q h;exact⟨by rw[e,d],c⟩
  ·rintro⟨t1,t2⟩ D ⟨o,n⟩
   rw[cp f (by omega)];exact hI (i+1,t2) _ _ ⟨rfl,rfl,f,o,n⟩ (by(try simp only);omega)
 ·have hil:i=L.length:=by have:¬(i:Int)<(s4.len:Int):=hge;omega
  subst hil;rw[List.take_length]at X ht;cases Z with
  |true=>
   obtain⟨e,_⟩:=ht rfl;subst e;exact ag.2 (hk _ _ (G.more fun y b=>aW z4 b) (C.tr x))
  |false=>
   obtain⟨e,c⟩:=X rfl;subst e;refine aw.2 ⟨p.1,vc b' 0,p.2,vc b' 1,bL ?_⟩;refine rX (p:=p) G (fun y b=>aW x.size b) (by omega) fun s5 h5 m j=>hk _ _ ?_ ((C.tr x).trans j fun y b=>.inr (aW z4 b))
   have:=Fz (p:=p) (A:=out) (B:= []) c;rw[be]at this;rw[this];exact m.more fun y b=>aW z4 b
end Go.Proofs
namespace Go.Proofs
open Go Go.Lift
abbrev Rt:=Int×Int×Int×Int×SliceV
abbrev sN(r:Rt):List Value:= [.int .i64 r.1,.int .u64 r.2.1,.int .u64 r.2.2.1,.int .u64 r.2.2.2.1,.slice r.2.2.2.2.a r.2.2.2.2.len r.2.2.2.2.cap]
abbrev Ro(r:Rt):Value:=.agg #[.int .i64 r.1,.int .u64 r.2.1,.int .u64 r.2.2.1,.int .u64 r.2.2.2.1,.slice r.2.2.2.2.a r.2.2.2.2.len r.2.2.2.2.cap]
abbrev O9:Rt:=(0,0,0,0,⟨none,0,0⟩)
def hx(kind v:Int):Int:=if kind=0 then v else 0
def RefIs(W:Nat→Prop)(h:ad)(kind:Int)(x:Hs)(r:Rt)(l:List Pr):Prop:=∃s,r=(kind,hx kind x.k0,hx kind x.k1,hx kind x.mask,s)∧Sl dQ 2 W h s l∧s.len≤s.cap
theorem RefIs.upd0{W:Nat→Prop}{h h':ad}{kind:Int}{x:Hs}{r:Rt}{l:List Pr}(k:Upd No h h')(i:RefIs W h kind x r l):RefIs W h' kind x r l:=
 let⟨s,e,a⟩:=i;⟨s,e,a.1.upd k fun _ h=>h.elim,a.2⟩
theorem RefIs.less{W W':Nat→Prop}{h:ad}(hm:∀b,W' b→W b∨h.size≤b){kind:Int}{x:Hs}{r:Rt}{l:List Pr}(i:RefIs W h kind x r l):RefIs W' h kind x r l:=
 let⟨s,e,a⟩:=i;⟨s,e,a.1.less hm,a.2⟩
theorem RefIs.updM{W M:Nat→Prop}{h h':ad}(k:Upd M h h')(hm:∀b,M b→W b∨h.size≤b){kind:Int}{x:Hs}{r:Rt}{l:List Pr}(i:RefIs W h kind x r l):RefIs W h' kind x r l:=
 let⟨s,e,a⟩:=i;⟨s,e,a.1.upd k hm,a.2⟩
theorem Pd{W:Nat→Prop}{x:Hs}{h:ad}{kind:Int}(e:kind=0∨kind=1){K:Rt×Int→ad→Prop}(i:∀h' r,RefIs W h' kind x r []→Upd No h h'→K (r,0) h'):DR 46 [.int .i64 kind,.agg #[.int .u64 x.k0,.int .u64 x.k1,.int .u64 x.mask]] K h:=by
 refine cW (IJ kind (x.k0,x.k1,x.mask)) .nil Tryz.func46 Tryz.call46 ?_;dsimp only[IJ,dt,Ei,qR,jg,dM,wL,aY,aj,mc];refine ba fun k b1 k1=>ba fun m b2 j=>?_
 have c1:=j.get0 b1;have g:=k1.size;have d:=k1.tr j;rcases e with rfl|rfl
 ·refine aw.2 ⟨_,vc c1 0,_,vc c1 1,_,vc c1 2,?_⟩
  refine cn (c:=sN O9) (vs:=sN (0,x.k0,x.k1,x.mask,⟨none,0,0⟩)) b2 rfl fun f a b=>?_
  exact⟨_,vc a 0,_,vc a 1,_,vc a 2,_,vc a 3,⟨none,0,0⟩,vc a 4,i f (0,x.k0,x.k1,x.mask,⟨none,0,0⟩) ⟨_,rfl,Sl.nil fc,ai _⟩ (d.own b g)⟩
 ·refine ag.2 (aw.2 ?_)
  refine cn (c:=sN O9) (vs:=sN (1,0,0,0,⟨none,0,0⟩)) b2 rfl fun f a b=>?_
  exact⟨_,vc a 0,_,vc a 1,_,vc a 2,_,vc a 3,⟨none,0,0⟩,vc a 4,i f (1,0,0,0,⟨none,0,0⟩) ⟨_,rfl,Sl.nil fc,ai _⟩ (d.own b g)⟩
theorem Qh{k v:ByteArray}(c:k.size≤256)(b:v.size≤4096){h:ad}{K:Int→ad→Prop}(a:K 0 h):fH 137 [.string k,.string v] K h:=by
 refine cW (Dn k v) .nil Tryz.func137 Tryz.call137 ?_;unfold Dn;refine ao (fun h=>absurd h (by omega)) fun _=>ao (fun h=>absurd h (by omega)) fun _=>a
theorem Sc{W:Nat→Prop}{x:Hs}{h:ad}{kind:Int}{r:Rt}{l:List Pr}(i:RefIs W h kind x r l)(D:∀y,W y→y<h.size)(E:bM l)(F:l.length≤1000000)(p:Pr)(v:p.1.size≤256)(u:p.2.size≤4096){K:Rt×Int→ad→Prop}
  (H:∀h' r',RefIs W h' kind x r' (fG p l)→Upd No h h'→K (r',0) h'):DR 86 [Ro r,.agg #[.string p.1,.string p.2]] K h:=by
 refine cW (Gx r p) .nil Tryz.func86 Tryz.call86 ?_;dsimp only[Gx,oW,dM,qR,mL,yg,kJ,mF,bi,gU,cV,D3,dt,Jb,jg,wL,aY,aj];refine ba fun A b1 k1=>ba fun z b2 t=>ba fun O b3 n=>?_
 have Q:=bw b1;have N:=bw b2;have J:=bw b3;have S:h.size≤A.size:=k1.size;have P:A.size≤z.size:=t.size;have R:=n.size;have k:=(k1.tr t).tr n;have w:=n.get0 (t.get0 b1);have o:=n.get0 b2;obtain⟨s,rfl,G,_⟩:=i;refine⟨_,vc o 0,_,vc o 1,Qh v u (ag.2 ?_)⟩;refine⟨s,vc w 4,p.1,vc o 0,p.2,vc o 1,?_⟩;refine Pc (G.upd k fun _ h=>h.elim) E F p (by omega) fun d L q b=>?_
 refine rA (i:=4) (c':=(sN (kind,hx kind x.k0,hx kind x.k1,hx kind x.mask,d)).toArray) (b.get0 w) (show 4<5 by decide) rfl fun T m a=>?_
 refine⟨_,vc m 0,_,vc m 1,_,vc m 2,_,vc m 3,d,vc m 4,?_⟩;refine cn (c:=sN O9) (vs:=sN (kind,hx kind x.k0,hx kind x.k1,hx kind x.mask,d)) (a.oth (b.get0 b3) (by omega)) rfl fun I j f=>?_
 refine⟨_,vc j 0,_,vc j 1,_,vc j 2,_,vc j 3,d,vc j 4,?_⟩;have g:=(q.upd a fun y B e=>by have e:y=h.size:=e;omega).upd f fun y B e=>by have e:y=z.size:=e;omega
 refine H I (kind,hx kind x.k0,hx kind x.k1,hx kind x.mask,d) ⟨d,rfl,g.sl fun y B _ C=>by have:=D y C;omega,g.cap⟩ (((k.tr b).own a (ai _)).own f (by omega))
def CU(r q:Rt):Bool:=(r.1==q.1)&&((r.2.1==q.2.1)&&((r.2.2.1==q.2.2.1)&&((r.2.2.2.1==q.2.2.2.1)&&true)))
theorem Am{r q:Rt}{h:ad}{K:Bool→ad→Prop}(c:∀h',Upd No h h'→K (CU r q) h'):fI 128 [Ro r,Ro q] K h:=by
 refine cW (Gy r q) .nil Tryz.func128 Tryz.call128 ?_;dsimp only[Gy,aY,mL,AY,ge];refine ba fun d b1 k1=>ba fun b b2 a=>?_
 have c1:=a.get0 b1;refine⟨_,vc c1 0,_,vc b2 0,?_⟩;have:=c b (k1.tr a);unfold CU at this;rcases hb:(r.1==q.1)with _|_
 ·rw[hb]at this
  exact ag.2 this
 ·rw[hb]at this
  exact aw.2 ⟨_,gw c1 1 0,_,gw c1 1 1,_,gw c1 1 2,_,gw b2 1 0,_,gw b2 1 1,_,gw b2 1 2,this⟩
def Il(s:ByteArray):ByteArray:=s.extract 0 (min s.size 30)
theorem FT(s:ByteArray):(Il s).size≤30:=by unfold Il;rw[jV];omega
end Go.Proofs
namespace Go.Proofs
open Go Go.Lift
def XS(p:Pr):Pr:=(Il p.1,Il p.2)
structure Few(n:Nat)(L:List Pr):Prop where
 up:bM L
 len:L.length≤n
 fit:∀p∈L,p.1.size≤30∧p.2.size≤30
theorem Few.ins{n:Nat}{L:List Pr}(f:Few n L)(p:Pr)(b:p.1.size≤30)(a:p.2.size≤30):Few (n+1) (fG p L):=
 ⟨nI p f.up,aW (B6 p) (by have:=f.len;omega),fun q c=>(rJ c).elim (fun e=>by rw[e];exact⟨b,a⟩) fun h=>f.fit q h⟩
theorem Few.fits{n:Nat}{L:List Pr}(f:Few n L):Fit L:=fun p a=>by have:=f.fit p a;omega
end Go.Proofs
namespace Go.Proofs
open Go Go.Lift
theorem Sl.det{α:Type}{f:α→List Value}{sz:Nat}{W W':Nat→Prop}{h:ad}{s:SliceV}{xs ys:List α}(hi:∀x y,f x=f y→x=y)(a:Sl f sz W h s xs)(b:Sl f sz W' h s ys):xs=ys:=by
 apply List.ext_getElem
 ·rw[←a.len,←b.len]
 ·intro i g n
  refine hi _ _ (List.ext_getElem? fun j=>?_)
  obtain⟨p,m,_,hv⟩:=a.at (af g);obtain⟨q,c,_,k⟩:=b.at (af n);rw[m]at c;cases c;have u:=(a.ne xs[i]).1;have o:=(b.ne ys[i]).1;by_cases t:j<sz
  ·have e:=hv j _ (af (by omega))
   have d:=k j _ (af (by omega));rw[e]at d;rw[af (by omega),af (by omega)];exact d
  ·rw[kF (by omega),kF (by omega)]
theorem Pj(x y:Pr)(h:dQ x=dQ y):x=y:=by
 simp only[dQ,nU.injEq,Value.string.injEq,and_true]at h;exact Prod.ext h.1 h.2
theorem UO(x y:Option Addr)(h:qp x=qp y):x=y:=by
 simpa[qp]using h
theorem O7(x y:Option Addr)(h:ql x=ql y):x=y:=by
 simpa[ql]using h
theorem HO{d i n n':Nat}{sp sk a b:SliceV}{p c:Bool}{ow e:Option Addr}(h:dY d n sp sk p ow=dY i n' a b c e):d=i∧n=n'∧sp=a∧sk=b:=by
 simp only[dY,Array.mk.injEq,nU.injEq,Value.int.injEq,true_and,sv,Value.slice.injEq,Value.bool.injEq,Value.pointer.injEq,and_true]at h;obtain⟨q,s,⟨j,m,o⟩,⟨k,f,g⟩,_⟩:=h;refine⟨by omega,by omega,?_,?_⟩
 ·cases sp;cases a;simp only at j m o;subst j m o;rfl
 ·cases sk;cases b;simp only at k f g;subst k f g;rfl
theorem EO{W W':Nat→Prop}{x:Hs}{h:ad}:∀{m b:Nat} {l l':List Pr},TrieAt W x h m b l→TrieAt W' x h m b l'→bM l→bM l'→l=l'
 |0,b,l,l',t,t',_,_=>by
  obtain⟨sp,sk,ow,hb,o,_⟩:=t.ex;obtain⟨i,j,u,a,g,_⟩:=t'.ex;rw[hb]at a;simp only[bK.injEq,Obj.cells.injEq,and_true]at a;obtain⟨_,_,rfl,_⟩:=HO a;exact Sl.det Pj o g
 |m+1,b,l,l',⟨s,nd,hc⟩,⟨s',nd',hc'⟩,hr,hr'=>by
  obtain⟨d,n,sp,sk,ow,hb,bits,o,J,_⟩:=nd.ex;obtain⟨L,n',i,j,u,a,e,g,k,_⟩:=nd'.ex;rw[hb]at a;simp only[bK.injEq,Obj.cells.injEq,and_true]at a;obtain⟨rfl,rfl,rfl,rfl⟩:=HO a;have I:=N2 32 (fun c hc=>by rw[←bits.dp c hc,e.dp c hc]) (Sl.det Pj o g)
  have H:=N2 32 (fun c hc=>by rw[←bits.nk c hc,e.nk c hc]) (Sl.det UO J k)
  refine Sn (x:=x) (lev:=12-m) hr hr' fun c f=>?_
  have D:=hc c f;have A:=hc' c f;rw[←I c f,←H c f]at A;rcases D with⟨C,B,z⟩|⟨p,C,B,z⟩|⟨C,B,K,z,F⟩<;>rcases A with⟨w,y,v⟩|⟨q,w,y,v⟩|⟨w,y,G,v,E⟩<;>simp_all
  exact EO F E (jM hr) (jM hr')
theorem O8{sl a v f:ByteArray}{b b':Bool}{s s':SliceV}{ow c:Option Addr}(h:CH sl b v s ow=CH a b' f s' c):sl=a∧b=b'∧v=f∧s=s':=by
 simp only[CH,Array.mk.injEq,nU.injEq,Value.string.injEq,sv,Value.slice.injEq,Value.bool.injEq,Value.pointer.injEq,and_true]at h;obtain⟨i,k,j,⟨g,d,e⟩,_⟩:=h;refine⟨i,k,j,?_⟩;cases s;cases s';simp only at g d e;subst g d e;rfl
theorem Pm{w a:Option ByteArray}{v:ByteArray}(h:w.isSome=a.isSome)(c:v=w.getD ⟨#[]⟩)(b:v=a.getD ⟨#[]⟩):w=a:=by
 cases w<;>cases a<;>simp_all
theorem Nf{W W':Nat→Prop}{h:ad}:∀{F F':Fo} {ks:List (Option Addr)},RxF W h F ks→RxF W' h F' ks→F=F'
 | .nil,.nil,_,_,_=>rfl
 | .nil,.cons ..,ks,d,f=>by
  obtain⟨b,sl,val,s,ow,e,c,a,_⟩:=f;have d:ks= []:=d;rw[d]at a;cases a
 | .cons ..,.nil,ks,d,f=>by
  obtain⟨b,sl,val,s,ow,e,c,a,_⟩:=d;have f:ks= []:=f;rw[f]at a;cases a
 | .cons lab w kids rest,.cons lab' w' kids' rest',ks,⟨b,sl,val,s,ow,e,c,a,e1,e2,e3,e4,e5,e6,e7⟩,⟨b',sl',val',s',ow',ks1',ks'',f0,f1,f2,f3,f4,f5,f6,f7⟩=>by
  rw[a]at f0;simp only[nU.injEq,bK.injEq,Addr.mk.injEq,and_true]at f0;obtain⟨rfl,rfl⟩:=f0;rw[e2]at f2;simp only[bK.injEq,Obj.cells.injEq,and_true]at f2;obtain⟨rfl,g,rfl,rfl⟩:=O8 f2;have:=Sl.det O7 e4 f4;subst this;rw[Nf e6 f6,Nf e7 f7,←e1,←f1,Pm g e3 f3]
end Go.Proofs
