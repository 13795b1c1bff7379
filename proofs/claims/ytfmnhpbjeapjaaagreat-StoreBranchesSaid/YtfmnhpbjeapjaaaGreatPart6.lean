/- A part of the proof that the named laws of this program answer true, whatever the input. -/
import Derived.Test.YtfmnhpbjeapjaaaGreatPart5
import Derived.Test.YtfmnhpbjeapjaaaGreatPart4
import Derived.Test.YtfmnhpbjeapjaaaGreatPart2
import Derived.Test.YtfmnhpbjeapjaaaGreatPart3
import Derived.Sort.AssemblyPlain
open Bool renaming and_eq_true→aS
open ByteArray renaming size_extract→mu
open Iff renaming rfl→rZ
open Int renaming toNat_natCast→aL
open List renaming length_singleton→bf,length_map→bd,length_nil→bH,map_append→ce,map_cons→be,map_nil→mq,length_append→ad,mem_append_right→dN,mem_singleton→aw,pairwise_append→bP,length_cons→az,take_of_length_le→bC,pairwise_singleton→bX,mem_append→bq,mem_append_left→cO,length_eq_zero_iff→aD,mem_cons_self→ay,mem_cons_of_mem→aI,append_nil→bG,length→fV,append_assoc→ax,getElem?_cons_zero→cn,getElem?_eq_getElem→ag,length_filter_le→dP,length_take→aK,take_succ_eq_append_getElem→bF,cons_append→gn,mem_cons→au,find?_cons→ox,nodup_nil→mo
open List.Pairwise renaming nil→dC
open Nat renaming le_refl→aq,lt_of_lt_of_le→aG,le_of_eq→dG,zero_le→cj,lt_or_ge→cd,le_trans→bQ
open Option renaming some→bE
open UInt8 renaming lt_iff_toNat_lt→jo
namespace Go.Proofs
open Go Go.Lift
theorem LL{M:Nat→Prop}{h:ac}{a:SliceV}{out:List (SliceV×SliceV)}{p:SliceV×SliceV}{K:SliceV→ac→Prop}(d:OwnS Kc 2 dq M h a out)(hM:∀b,h.size≤b→M b)(i:out.length+1≤1000000000)
  (g:∀s' h',OwnS Kc 2 dq M h' s' (out++ [p])→Upd M h h'→K s' h'):
  ∃xs,SRow (hnew h (Kc p) dq) (some (bc h)) (1*2) xs∧AppP (some [.slice none 0 0,.slice none 0 0]) 2 48 dq a.a a.len a.cap 1 xs (hnew h (Kc p) dq) K:=by
 have k:=Upd.hnew No h (Kc p) dq;have e:OwnS Kc 2 dq (fun _=>True) (hnew h (Kc p) dq) ⟨some (bc h),1,1⟩ [p]:=⟨rfl,Lm,aq _,.inr ⟨h.size,[],rfl,trivial,bN ..,rfl⟩⟩
 refine⟨_,(e.sl (W:=No) fun _ _ _ h=>h).srow,?_⟩
 refine AppP.own (ys:= [p]) (d.upd k fun _ _ h=>h) rfl rfl rfl rfl (by omega) (by simp only[bf];omega) (hM _ (by rw[gX];omega)) fun s' h' c f=>?_
 exact g s' h' c ((Upd.hnew M h _ _).tr f)
set_option maxHeartbeats 2000000 in
theorem EA{W G0 C0:Nat→Prop}{x:Hs}{h:ac}{J:Nat}{V:List Fr}(cur:CurW W G0 C0 x h J V)(hW0:∀b,h.size≤b→W b){K:(ByteArray×ByteArray)×Bool→ac→Prop}
  (hn:∀h',xR x V= []→Upd (fun b=>C0 b∨b=J) h h'→K (((⟨#[]⟩:ByteArray),(⟨#[]⟩:ByteArray)),false) h')
  (hs:∀h' u p R G' C',xR x V=p::R→xR x u=R→CurW W G' C' x h' J u→(∀b,C' b→C0 b∨h.size≤b)→(∀b,G' b→G0 b∨h.size≤b)→Upd (fun b=>C0 b∨b=J) h h'→K (p,true) h'):
  HC PG lr [.pointer (some ⟨J,0,none⟩)] [.agg [.str,.str],.c .bool] K h:=by
 refine vE (some ⟨J,0,none⟩) ?_;unfold pJ bB dw bD al eg dJ nv nW kB bW Pq Ox;refine bA fun h1 b1 k1=>ak.2 ?_
 have z1:=aW b1;obtain⟨s00,d00,hc0,_⟩:=cur.ex;have zc:=aW hc0;have s1:=k1.size;have cur1:=cur.upd k1 (fun _ h=>h.elim) (fun _ _ h=>h) (fun _ _ h=>h) fun h=>h
 refine LoopP.ghost (fun(g:List Fr×(Nat→Prop)×(Nat→Prop)) (_:Unit) h'=>CurW W g.2.1 g.2.2 x h' J g.1∧xR x g.1=xR x V∧(∀b,g.2.2 b→(C0 b∨h.size≤b)∧b≠h.size)∧(∀b,g.2.1 b→(G0 b∨h.size≤b)∧b≠h.size)∧h'[h.size]? =some (.cells zPrL.toArray af (0,0))∧Upd (fun b=>C0 b∨b=J) h h') (fun g=>y8 x g.1) (V,G0,C0)
  ⟨cur1,rfl,fun b t=>⟨.inl t,by have:=cur.lt b (.inl t);omega⟩,fun b t=>⟨.inl t,by have:=cur.lt b (.inr t);omega⟩,b1,k1.wide⟩ ?_
 rintro I ⟨fs,G,C⟩ ⟨⟩ h' ⟨v,N,E,S,bz,hu⟩ hI;simp only at v N E S;obtain⟨s,d,aF,P⟩:=v.ex;have hlen:=P.len;rw[bd]at hlen;have hzs:h.size<h'.size:=aW bz;have zcb:=aW aF;refine⟨_,rfl,s,vc aF 0,?_⟩;refine aE (fun hpos=>?_) fun hnp=>?_
 ·obtain⟨u,f,rfl⟩:∃u f,fs=u++ [f]:=by
   rcases D7 fs with rfl|⟨l',y,e⟩
   ·simp only[bH]at hlen;omega
   ·exact⟨l',y,e⟩
  rw[ce,be,mq]at P;rw[ad,bf]at hlen;have h14:=K9 (n:=13) v.lv fun f hf=>(v.ok f hf).n13
  rw[ad,bf]at h14;have eidx:IntKind.wrap .i64 ((s.len:Int)-1)=((u.length:Nat):Int):=by rw[gi (by omega)];omega
  obtain⟨a,ha,hv⟩:=jp P (i:=u.length) (by rw[bd]);have Y:=v.ok f (dN _ (aw.2 rfl));have hpl:=Y.p.len;have X:=Y.k.len;rw[bd]at X;have hpc:=Y.pc;have hkc:=Y.kc;have hcap:=P.cap;refine⟨_,rfl,s,vc aF 0,_,rfl,s,vc aF 0,?_⟩;rw[eidx];refine⟨⟨by omega,by omega⟩,a,ha,_,rfl,f.sp,hv 0 _ rfl,?_⟩
  have keep:∀{h2:ac} {M:Nat→Prop},Upd M h' h2→(∀b,M b→C b∨b=J∨b=h.size∨h'.size≤b)→∀{g:Fr},g.Ok W G x h'→g.Ok W G x h2:=fun{h2 M} k hM {g} o=>o.upd k (fun b t=>by
   rcases hM b t with h|h|h|h
   ·exact .inl (v.cw.1 b h)
   ·exact .inl (by rw[h];exact v.cw.2)
   ·exact .inl (by rw[h];exact hW0 _ (aq _))
   ·exact .inr h) fun b t=>by
   rcases hM b t with h|h|h|h
   ·exact .inl fun L=>(v.dj b L).1 h
   ·exact .inl fun L=>(v.dj b L).2 h
   ·exact .inl fun L=>(S b L).2 h
   ·exact .inr h
  have Q:=bP.1 v.lv;have hrs:=tT x u f;have hcs:=vA x u f;refine aE (fun hp=>?_) fun hp=>?_
  ·
   rcases O:f.ps with _|⟨p,ps⟩
   ·rw[O]at hpl;simp only[bH]at hpl;omega
   have fop:=Y.p;rw[O]at fop hpl;simp only[az]at hpl;obtain⟨ap,hap,_,hvp⟩:=fop.at (i:=0) (x:=p) rfl;refine⟨_,rfl,f.sp,hv 0 _ rfl,⟨by omega,by omega⟩,ap,hap,p.1,hvp 0 _ rfl,p.2,hvp 1 _ rfl,?_⟩
   refine K6 (p:=p) fun h8 b8 k8=>?_
   have z8:=aW b8;have hst8:=P.upd k8 fun _ _ h=>h
   obtain⟨a',ha',hv8⟩:=jp hst8 (i:=u.length) (by rw[bd]);rw[ha]at ha';cases ha';refine⟨_,rfl,f.sp,hv8 0 _ rfl,⟨by omega,by omega⟩,_,rfl,?_⟩
   let U:Fr:=⟨⟨aN f.sp.a 1 f.sp.cap 2,f.sp.len-1,f.sp.cap-1⟩,f.sk,f.n,ps,f.ks⟩
   refine Ii hst8 (y:=U.raw) (j:=0) (by omega) rfl ha (by simp) fun h9 ho9 T=>?_
   have c9:=T.get (k8.get0 aF) v.cc;refine⟨_,rfl,s,vc c9 0,_,rfl,?_⟩;refine Ak (i:=1) (c':=Pe s (s.len:Int)) c9 (show 1<2 by decide) rfl fun h10 c10 z=>?_
   have hCh:∀b,C b→b<h'.size:=fun b t=>v.lt b (.inl t)
   have b9:=T.get b8 fun hx=>by have:=hCh _ hx;omega
   have b10:=z.oth b9 (by omega);refine⟨_,vc b10 0,_,vc b10 1,?_⟩;have bz10:=z.oth (T.get (k8.get0 bz) fun hx=>(E _ hx).2 rfl) (by omega)
   refine dW (c:=zPrL) (vs:= [.string p.1,.string p.2]) bz10 rfl fun H b11 A=>?_
   refine⟨_,vc b11 0,_,vc b11 1,?_⟩;have c11:=A.oth c10 (by omega);have w:Upd (fun b=>C b∨b=J∨b=h.size∨h'.size≤b) h' H:=((k8.wide.trans T fun b t=>.inl (.inl t)).trans z fun b t=>.inl (.inr (.inl t))).trans A fun b t=>.inl (.inr (.inr (.inl t)))
   have ho11:OwnS Kc 2 dq C H s ((u++ [U]).map Fr.raw):=by
    rw[ce,be,mq];exact(ho9.upd z fun b t e=>by have e:b=J:=e;rw[e]at t;exact v.cc t).upd A fun b t e=>(E b t).2 e
   have fo':U.Ok W G x H:=by
    have o:=keep w (fun b t=>t) Y
    refine⟨?_,o.k,by show f.sp.len-1≤f.sp.cap-1;omega,o.kc,o.t,o.n0,o.n13⟩
    have op:=o.p;rw[O]at op;have:=Sl.sub op (l:=1) (hi:=(p::ps).length) (m:=f.sp.cap) (c:=f.sp.cap-1) (by simp) (aq _) (by simp only[az];omega);rw[List.drop_one,List.tail_cons,bC (by simp)]at this;have e:(p::ps).length-1=f.sp.len-1:=by simp only[az];omega
    rw[e]at this;exact this
   refine hs H (u++ [U]) p (U.rem x++xR x u) G C ?_ (tT x u U) ⟨⟨s,_,c11,ho11⟩,fun g L=>?_,fun b t=>aG (v.lt b t) w.size,v.dj,v.cc,v.cw,bP.2 ⟨Q.1,bX ..,fun g L g' D=>by rw[aw.1 D];exact Q.2.2 g L f (aw.2 rfl)⟩⟩ (fun b t=>(E b t).1) (fun b t=>(S b t).1) ?_
   ·rw[←N,hrs]
    unfold Fr.rem;rw[O];rfl
   ·rcases bq.1 L with L|L
    ·exact keep w (fun b t=>t) (v.ok g (cO _ L))
    ·rw[aw.1 L];exact fo'
   ·refine hu.trans w fun b t=>?_
    rcases t with h|h|h|h
    ·exact(E b h).1.imp .inl id
    ·exact .inl (.inr h)
    ·exact .inr (by omega)
    ·exact .inr (by omega)
  ·have O:f.ps= []:=aD.1 (by omega)
   refine⟨_,rfl,f.sk,hv 1 _ rfl,?_⟩;refine aE (fun hk=>?_) fun hk=>?_
   ·
    rcases F:f.ks with _|⟨kd,ks⟩
    ·rw[F]at X;simp only[bH]at X;omega
    have fok:=Y.k;rw[F]at fok X;simp only[az]at X;rw[be]at fok;obtain⟨ap,hap,_,hvp⟩:=fok.at0 (i:=0) (x:=Fs kd) rfl;have hfn:0<f.n:=Y.n0 (by rw[F];simp);have hf13:=Y.n13;refine⟨_,rfl,f.sk,hv 1 _ rfl,⟨by omega,by omega⟩,ap,hap,_,hvp,_,rfl,f.sk,hv 1 _ rfl,⟨by omega,by omega⟩,_,rfl,?_⟩
    let U:Fr:=⟨f.sp,⟨aN f.sk.a 1 f.sk.cap 1,f.sk.len-1,f.sk.cap-1⟩,f.n,f.ps,ks⟩
    refine Ii P (y:=U.raw) (j:=1) (by omega) rfl ha (by simp) fun h8 ho8 B=>?_
    have c8:=B.get aF v.cc;have hall8:Upd (fun b=>C b∨b=J∨b=h.size∨h'.size≤b) h' h8:=B.mono fun b t=>.inl (.inl t)
    have s8:=B.size;refine⟨_,rfl,s,vc c8 0,?_⟩;have fo8:=keep hall8 (fun b t=>t) Y
    obtain⟨tk,hkn⟩:=fo8.t kd (by rw[F];exact ay ..);refine Cx tk (by omega) hkn fun h9 g hgn hgr hgc go k9=>?_
    have c9:=k9.get0 c8;have s9:=k9.size;refine⟨vc c9 0,aX ⟨vc ((Upd.hnew No h9 (Kc g.raw) dq).get0 c9) 0,?_⟩⟩;have hC9:∀b,C b→b<h9.size:=fun b t=>by have:=v.lt b (.inl t);omega
    refine LL (M:=fun b=>C b∨h9.size≤b) (p:=g.raw) ((ho8.upd k9 fun _ _ h=>h).more fun b t=>.inl t) (fun b t=>.inr t) (by rw[ad,bd,bf];omega) fun s10 h10 ho10 z=>?_
    have s10':=z.size;have c10:=z.get c9 (by rintro(hx|hx);exact v.cc hx;omega)
    refine⟨_,rfl,?_⟩;refine Ak (i:=0) (c':=Pe s10 d) c10 (show 0<2 by decide) rfl fun H c11 A=>?_
    have s11:=A.size;have w:Upd (fun b=>C b∨b=J∨b=h.size∨h'.size≤b) h' H:=((hall8.tr k9.wide).trans z fun b t=>t.elim (fun h=>.inl (.inl h)) fun h=>.inr (by omega)).trans A fun b t=>.inl (.inr (.inl t))
    have bz11:=A.oth (z.get (k9.get0 (B.get bz fun hx=>(E _ hx).2 rfl)) (by rintro(hx|hx);exact(E _ hx).2 rfl;omega)) (by omega)
    have hGl:∀b,G b→b<h'.size:=fun b t=>v.lt b (.inr t)
    refine hI (u++ [U]++ [g],fun b=>G b∨(h8.size≤b∧b<h9.size),fun b=>(C b∨h9.size≤b)∧b<h10.size) () H ⟨⟨⟨s10,d,c11,?_⟩,fun g' D=>?_,fun b t=>?_,fun b t=>?_,fun t=>?_,⟨fun b t=>?_,v.cw.2⟩,?_⟩,?_,fun b t=>?_,fun b t=>?_,bz11,?_⟩ ?_
    ·rw[ce,ce,be,mq,be,mq]
     exact ho10.within.upd A fun b t e=>by
      have e:b=J:=e;rw[e]at t;rcases t.1 with h|h
      ·exact v.cc h
      ·omega
    ·have Z:∀{q:Fr},q.Ok W G x H→q.Ok W (fun b=>G b∨(h8.size≤b∧b<h9.size)) x H:=fun o=>o.sub fun b t=>.inl t
     rcases bq.1 D with D|D
     ·rcases bq.1 D with D|D
      ·exact Z (keep w (fun b t=>t) (v.ok g' (cO _ D)))
      ·rw[aw.1 D]
       have o:=keep w (fun b t=>t) Y
       refine Z ⟨o.p,?_,o.pc,by show f.sk.len-1≤f.sk.cap-1;omega,fun q hq=>o.t q (by rw[F];exact aI _ hq),fun _=>hfn,hf13⟩
       have op:=o.k;rw[F,be]at op;have:=Sl.sub op (l:=1) (hi:=(Fs kd::ks.map Fs).length) (m:=f.sk.cap) (c:=f.sk.cap-1) (by simp) (aq _) (by simp only[az,bd];omega);rw[List.drop_one,List.tail_cons,bC (by simp)]at this;have e:(Fs kd::ks.map Fs).length-1=f.sk.len-1:=by simp only[az,bd];omega
       rw[e]at this;exact this
     ·rw[aw.1 D]
      have o1:=go.upd z (fun b t=>t.elim (fun h=>.inl (v.cw.1 b h)) .inr) fun b t=>t.elim (fun h=>.inl fun L=>by have:=v.lt b (.inl h);omega) .inr
      have o2:=o1.upd A (fun b t=>.inl (by have t:b=J:=t;rw[t];exact v.cw.2)) fun b t=>.inl fun L=>by have t:b=J:=t;omega
      exact o2.sub fun b t=>.inr t
    ·rcases t with t|t|t
     ·omega
     ·have:=hGl b t;omega
     ·omega
    ·refine⟨fun hc=>?_,fun e=>?_⟩
     ·rcases t with t|t
      ·rcases hc.1 with h|h
       ·exact(v.dj b t).1 h
       ·have:=hGl b t;omega
      ·rcases hc.1 with h|h
       ·have:=v.lt b (.inl h);omega
       ·omega
     ·subst e
      rcases t with t|t
      ·exact(v.dj _ t).2 rfl
      ·omega
    ·rcases t.1 with h|h
     ·exact v.cc h
     ·omega
    ·rcases t.1 with h|h
     ·exact v.cw.1 b h
     ·exact hW0 b (by omega)
    ·refine bP.2 ⟨bP.2 ⟨Q.1,bX ..,fun q hq q' hq'=>by rw[aw.1 hq'];exact Q.2.2 q hq f (aw.2 rfl)⟩,bX ..,fun q hq q' hq'=>?_⟩
     rw[aw.1 hq',hgn];rcases bq.1 hq with hq|hq
     ·have:=Q.2.2 q hq f (aw.2 rfl);omega
     ·rw[aw.1 hq];show f.n-1<f.n;omega
    ·rw[tT,tT,←N,hrs,hgr]
     unfold Fr.rem;rw[O,F,List.flatMap_cons];simp;rfl
    ·refine⟨?_,?_⟩
     ·rcases t.1 with h|h
      ·exact(E b h).1
      ·exact .inr (by omega)
     ·rcases t.1 with h|h
      ·exact(E b h).2
      ·omega
    ·refine⟨?_,?_⟩
     ·rcases t with h|h
      ·exact(S b h).1
      ·exact .inr (by omega)
     ·rcases t with h|h
      ·exact(S b h).2
      ·omega
    ·refine hu.trans w fun b t=>?_
     rcases t with h|h|h|h
     ·exact(E b h).1.imp .inl id
     ·exact .inl (.inr h)
     ·exact .inr (by omega)
     ·exact .inr (by omega)
    ·show y8 x (u++ [U]++ [g])<y8 x (u++ [f])
     rw[vA,vA,hcs];have e1:f.cost x=U.cost x+cw x (f.n-1) kd.2:=by
      unfold Fr.cost;rw[F,be,List.sum_cons];have e0:(U.ks.map fun k=>cw x (U.n-1) k.2).sum=(ks.map fun k=>cw x (f.n-1) k.2).sum:=rfl
      omega
     omega
   ·
    have F:f.ks= []:=aD.1 (by omega);refine⟨_,rfl,s,vc aF 0,_,rfl,s,vc aF 0,?_⟩;rw[eidx];refine⟨⟨by omega,by omega⟩,?_⟩
    simp only[Bd];refine⟨_,rfl,?_⟩;refine Ak (i:=0) (c':=Pe ⟨aN s.a 0 s.cap 2,u.length,s.cap⟩ d) aF (show 0<2 by decide) rfl fun h8 c8 B=>?_
    have hpop:=OwnS.pop P;rw[bd]at hpop;have w:Upd (fun b=>C b∨b=J∨b=h.size∨h'.size≤b) h' h8:=B.mono fun b t=>.inl (.inr (.inl t))
    refine hI (u,G,C) () h8 ⟨⟨⟨_,d,c8,hpop.upd B fun b t e=>by have e:b=J:=e;rw[e]at t;exact v.cc t⟩,fun g L=>keep w (fun b t=>t) (v.ok g (cO _ L)),fun b t=>aG (v.lt b t) w.size,v.dj,v.cc,v.cw,Q.1⟩,?_,E,S,B.oth bz (by omega),hu.trans B fun b t=>.inl (.inr t)⟩ ?_
    ·rw[←N,hrs]
     unfold Fr.rem;rw[O,F];rfl
    ·show y8 x u<y8 x (u++ [f])
     rw[hcs];unfold Fr.cost;omega
 ·have h0:fs= []:=aD.1 (by omega)
  subst h0;refine⟨_,rfl,?_⟩;refine Ak (i:=1) (c':=Pe s 0) aF (show 1<2 by decide) rfl fun h8 c8 B=>?_
  refine dW (c:=zPrL) (vs:=zPrL) (B.oth bz (by omega)) rfl fun h9 b9 T=>?_
  refine⟨_,vc b9 0,_,vc b9 1,hn h9 N.symm ((hu.trans B fun b t=>.inl (.inr t)).trans T fun b t=>.inr (dG (Eq.symm t)))⟩
end Go.Proofs
namespace Go.Proofs
open Go Go.Lift
def Below(W:Nat→Prop)(x:Hs)(h:ac)(m:Nat)(r:Option Addr)(l:List Pr):Prop:=(r=none∧l= [])∨∃b,r=some ⟨b,0,none⟩∧TrieAt W x h m b l
theorem Below.upd0{W:Nat→Prop}{x:Hs}{h h':ac}{m:Nat}{r:Option Addr}{l:List Pr}(k:Upd No h h')(t:Below W x h m r l):Below W x h' m r l:=t.imp id fun⟨b,e,t⟩=>⟨b,e,TrieAt.upd0 k t⟩
theorem Below.less{W W':Nat→Prop}{x:Hs}{h:ac}{m:Nat}{r:Option Addr}{l:List Pr}(hm:∀b,W' b→W b∨h.size≤b)(t:Below W x h m r l):Below W' x h m r l:=t.imp id fun⟨b,e,t⟩=>⟨b,e,TrieAt.less hm t⟩
theorem Below.updM{W M:Nat→Prop}{x:Hs}{h h':ac}{m:Nat}{r:Option Addr}{l:List Pr}(k:Upd M h h')(hm:∀b,M b→W b∨h.size≤b)(t:Below W x h m r l):Below W x h' m r l:=t.imp id fun⟨b,e,t⟩=>⟨b,e,TrieAt.updM k hm t⟩
theorem Ny(x:Hs):∀m,wl x m []= []
 |0=>rfl
 |m+1=>aD.1 (Nat.le_zero.1 (Dq x (m+1) []))
theorem Gl{W:Nat→Prop}{x:Hs}{h:ac}{m:Nat}{r:Option Addr}{l:List Pr}(t:Below W x h m r l)(hm:m≤13)(j:l.length≤100000){K:SliceV×SliceV→ac→Prop}
  (a:∀h' f,Fr.rem x f=wl x m l→f.Ok W (fun y=>h.size≤y∧y<h'.size) x h'→Upd No h h'→K f.raw h'):HC PG rh [.pointer r] [.agg [.slice,.slice]] K h:=by
 rcases t with⟨rfl,rfl⟩|⟨b,rfl,t⟩
 ·refine Dl none ?_
  unfold yH aO eg On Ox;refine bA fun o b1 k1=>?_
  refine qq none ?_;unfold me bW;refine aB.2 (rl none ?_);unfold mV bW;refine aB.2 ?_;refine dW (c:= [.slice none 0 0,.slice none 0 0]) (vs:= [.slice none 0 0,.slice none 0 0]) b1 rfl fun d g e=>?_
  refine⟨⟨none,0,0⟩,vc g 0,⟨none,0,0⟩,vc g 1,?_⟩;refine a d ⟨⟨none,0,0⟩,⟨none,0,0⟩,0,[],[]⟩ ?_ ⟨Sl.nil ia,Sl.nil oc,aq _,aq _,fun k a=>(by cases a),fun h=>absurd rfl h,cj _⟩ (k1.own e (aq _))
  rw[Ny];rfl
 ·exact Cx t hm j fun h' f _ n _ d i=>a h' f n d i
theorem Gm{W:Nat→Prop}{x:Hs}{h:ac}{m:Nat}{r:Option Addr}{l:List Pr}(t:Below W x h m r l)(hm:m≤13)(s:l.length≤100000)(i:∀y,h.size≤y→W y){K:Option Addr→ac→Prop}
  (v:∀h' cb f G C,h.size≤cb→(∀y,G y∨C y→h.size≤y)→CurW W G C x h' cb [f]→f.rem x=wl x m l→Upd No h h'→K (some ⟨cb,0,none⟩) h'):HC PG vm [.pointer r] [.c .ptr] K h:=by
 refine HG r ?_;unfold BA Pq;refine Gl t hm s fun b f e q k=>?_
 refine bA fun j b3 d=>bA fun u n c=>?_
 have A:=aW b3;have w:=aW n;have B:=k.size;have z:=d.size;have o:OwnS Kc 2 dq (fun y=>y=b.size) j ⟨some (bc b),1,1⟩ [f.raw]:=⟨rfl,Lm,aq _,.inr ⟨b.size,[],rfl,rfl,b3,rfl⟩⟩
 refine v u j.size f (fun y=>h.size≤y∧y<b.size) (fun y=>y=b.size) (by omega) (fun y a=>by rcases a with h|h<;>omega) ⟨⟨_,0,n,o.upd c fun _ _ h=>h⟩,fun g p=>?_,fun y a=>by rcases a with h|h<;>omega,fun y a=>⟨by omega,by omega⟩,by omega,⟨fun y a=>i y (by omega),i _ (by omega)⟩,bX ..⟩ e ((k.tr d).tr c)
 rw[aw.1 p];exact q.upd (d.tr c) (fun _ h=>h.elim) fun _ h=>h.elim
theorem Gn{W:Nat→Prop}{x:Hs}{h:ac}{m:Nat}{r:Option Addr}{l:List Pr}(t:Below W x h m r l)(hm:m≤13)(hn:l.length≤100000){K:Value→ac→Prop}
  (hk:∀fv h',Gives PG fv MQ l.length (fun xs=>xs=wl x m l) (fun y=>y<h'.size) h'→Upd No h h'→K fv h'):HC PG vn [.pointer r] [.c .raw] K h:=by
 refine HH r ?_;unfold BB;refine bA fun F b1 k1=>?_
 have z1:=aW b1;refine hk _ F ?_ k1;have t1:=Below.less (W':=fun y=>F.size≤y) (fun y a=>.inr a) (Below.upd0 k1 t)
 have hwl:=Dq x m l;refine⟨fun y a=>a,oY,#[],_,rfl,fun y J A M V K' z hj hu hq ha hk'=>?_⟩
 refine Cp y (bc h) ?_;unfold rY al nv nW pf sF;have d1:=hu.get b1 (hq _ z1);have s4:=hu.size;have t4:Below (fun y=>F.size≤y) x V m r l:=Below.updM hu (fun y a=>.inl (by
  rcases cd y F.size with Q|Q
  ·exact absurd a (hq y Q)
  ·exact Q)) t1
 refine⟨_,aP d1,?_⟩;refine Gm t4 hm hn (fun y a=>bQ s4 a) fun h5 cb f G C hcb L cur hfr k5=>?_
 have k:=z.lt _ _ _ hj;have hA3:∀y,A y→F.size≤y:=fun y a=>by
  rcases cd y F.size with Q|Q
  ·exact absurd Q (ha y a)
  ·exact Q
 have s5:=k5.size;have H:xR x [f]=wl x m l:=by rw[←hfr];simp[xR]
 refine LoopP.ghost (fun(g:List Pr×List Fr×(Nat→Prop)×(Nat→Prop)×(Nat→Prop)) (_:Unit) h'=>CurW (fun y=>F.size≤y) g.2.2.2.1 g.2.2.2.2 x h' cb g.2.1∧J g.1 g.2.2.1 h'∧Upd A V h'∧(∀y,g.2.2.1 y→(A y∨V.size≤y)∧¬g.2.2.2.1 y∧¬g.2.2.2.2 y∧y≠cb)∧(∀y,g.2.2.2.1 y∨g.2.2.2.2 y→V.size≤y)∧g.1++xR x g.2.1=wl x m l∧h5.size≤h'.size) (fun g=>(xR x g.2.1).length) ([],[f],A,G,C)
  ⟨cur,z.keep _ _ _ _ No hj k5 (fun _ _ h=>h),k5.wide,fun y a=>⟨.inl a,fun hx=>by have:=k y a;have:=L y (.inl hx);omega,fun hx=>by have:=k y a;have:=L y (.inr hx);omega,fun e=>by have:=k y a;omega⟩,L,by rw[H];rfl,aq _⟩ ?_
 rintro I ⟨q,fs,D,G1,C1⟩ ⟨⟩ h' ⟨cu,u,hu',b,i,c,hsz⟩ hI;simp only at cu u b i c;have w:=z.lt _ _ _ u;have Z:∀y,D y→F.size≤y:=fun y a=>(b y a).1.elim (hA3 y) fun h=>by omega
 have hd:∀y,D y→¬(C1 y∨y=cb):=fun y a hx=>hx.elim (b y a).2.2.1 (b y a).2.2.2
 have hC4:∀y,C1 y∨y=cb→V.size≤y:=fun y a=>a.elim (fun h=>i y (.inr h)) fun e=>by omega
 refine EA cu (fun y a=>by omega) (fun h6 hr0 j=>?_) fun h6 fs' p R G' C' T hr2 o hC' Y j=>?_
 ·have P:=z.keep _ _ _ _ _ u j hd
  refine uz fun U b7 N=>?_
  refine Join.intro (fun t v=>t=true∧v=U) (fun R hR=>aB.2 (hR _ _ ⟨rfl,rfl⟩)) ?_
  rintro t v ⟨rfl,rfl⟩;refine aB.2 (hk' q D v ?_ (z.keep _ _ _ _ No P N (fun _ _ h=>h)) ?_ fun y a=>(b y a).1)
  ·rw[hr0,bG]at c
   exact c
  ·exact(hu'.trans j fun y a=>.inr (hC4 y a)).tr N.wide
 ·have P:=z.keep _ _ _ _ _ u j hd
  refine uz (p:=p) fun U b7 N=>?_
  have hj7:=z.keep _ _ _ _ No P N (fun _ _ h=>h)
  have cu7:=o.upd N (fun _ h=>h.elim) (fun _ _ h=>h) (fun _ _ h=>h) fun h=>h
  have hu47:Upd A V U:=(hu'.trans j fun y a=>.inr (hC4 y a)).tr N.wide
  have s6:=j.size;have s7:=N.size;refine Join.intro (fun t v=>t=false∧∃X,J (q++ [p]) X v∧Upd D U v∧∀y,X y→D y∨U.size≤y) (fun R' hR=>?_) ?_
  ·refine ak.2 ⟨_,vc b7 0,_,vc b7 1,?_⟩
   refine z.step q D U p _ hj7 ?_ fun v X O n S=>hR _ _ ⟨rfl,X,O,n,S⟩
   have:=congrArg fV c;rw[T]at this;simp only[ad,az]at this;omega
  ·rintro t v ⟨rfl,X,O,n,S⟩
   have E:∀y,G' y→¬D y:=fun y a hx=>(Y y a).elim (b y hx).2.1 fun h=>by have:=w y hx;omega
   have B:∀y,C' y→¬D y:=fun y a hx=>(hC' y a).elim (b y hx).2.2.1 fun h=>by have:=w y hx;omega
   have hcb6:cb<h6.size:=by obtain⟨s,d,hx,_⟩:=o.ex;exact aW hx
   refine ak.2 (hI (q++ [p],fs',X,G',C') () v ⟨?_,O,?_,fun y a=>?_,fun y a=>?_,?_,by have:=n.size;omega⟩ ?_)
   ·exact cu7.upd n (fun y a=>.inl (Z y a)) B E fun hx=>(b _ hx).2.2.2 rfl
   ·exact hu47.trans n fun y a=>(b y a).1
   ·rcases S y a with h|h
    ·exact⟨(b y h).1,fun hx=>E y hx h,fun hx=>B y hx h,(b y h).2.2.2⟩
    ·exact⟨.inr (by omega),fun hx=>by have:=o.lt y (.inr hx);omega,fun hx=>by have:=o.lt y (.inl hx);omega,by omega⟩
   ·rcases a with a|a
    ·rcases Y y a with h|h
     ·exact i y (.inl h)
     ·omega
    ·rcases hC' y a with h|h
     ·exact i y (.inr h)
     ·omega
   ·simp only
    rw[ax,hr2,←c,T];rfl
   ·simp only
    rw[T,hr2];simp
theorem BR{W W':Nat→Prop}{x:Hs}{h:ac}{m:Nat}{r:Option Addr}{l:List Pr}(t:Below W x h m r l)(hm:m≤13)(n:di l)(o:l.length≤100000)(b:∀y,W' y→y<h.size){K:SliceV→ac→Prop}
  (u:∀s' h',Sl eA 2 W' h' s' l→s'.len≤s'.cap→Upd No h h'→K s' h'):HC PG qN [.pointer r] [.c .slice] K h:=by
 refine Cd r ?_;unfold uE;refine Gn t hm o fun z A j f=>?_
 refine y9 j (by omega) fun v w xs e g d=>?_
 subst e;have i:=Dq x m l;refine IZ (W':=W') (g.sl (W:=No) fun _ _ _ h=>h) (fun y p=>aG (b y p) (f.tr d).size) (by omega) fun q s a c k=>?_
 rw[NJ n]at a;exact u q s a c ((f.tr d).tr k)
theorem Gx{W W':Nat→Prop}{x:Hs}{h:ac}{t:Tr}{l:List Pr}(i:TreeIs W h 0 x t l)(k:di l)(o:l.length≤60000)(c:∀y,W' y→y<h.size){K:SliceV→ac→Prop}
  (j:∀s' h',Sl eA 2 W' h' s' l→Upd No h h'→K s' h'):HC PG g6 [H9 t] [.c .slice] K h:=by
 rcases i with⟨_,b,rfl,t⟩|⟨e,_⟩
 ·refine qp _ ?_
  unfold md av ai ug E9;refine bA fun n b1 k1=>⟨_,vc b1 0,ak.2 ⟨_,vc b1 4,?_⟩⟩
  exact BR (W':=W') (.inr ⟨b,rfl,TrieAt.upd0 k1 t⟩) (aq _) k (by omega) (fun y m=>aG (c y m) k1.size) fun d g a _ f=>j d g a (k1.tr f)
 ·cases e
theorem IV{W W':Nat→Prop}{x:Hs}{h:ac}{kind:Int}{t:Tr}{l:List Pr}(i:TreeIs W h kind x t l)(b:di l)(j:Fit l)(d:l.length≤60000)(a:∀y,W' y→y<h.size){K:SliceV→ac→Prop}
  (c:∀s' h',Sl eA 2 W' h' s' l→Upd No h h'→K s' h'):HC PG g6 [H9 t] [.c .slice] K h:=by
 have e:=i;rcases i with⟨rfl,_⟩|⟨rfl,_,_,_⟩
 ·exact Gx e b d a c
 ·exact Gw e b j d fun s' h' f k=>c s' h' (f.sl fun y m _ g=>by have:=a y g;omega) k
end Go.Proofs
namespace Go.Proofs
open Go.Lift
abbrev Ch:=ByteArray×ByteArray×ByteArray×Bool×Bool
abbrev PW(c:Ch):List Value:= [.string c.1,.string c.2.1,.string c.2.2.1,.bool c.2.2.2.1,.bool c.2.2.2.2]
end Go.Proofs
namespace Go.Proofs
open Go Go.Lift
end Go.Proofs
namespace Go.Proofs
open Go Go.Lift
end Go.Proofs
namespace Go.Proofs
open Go Go.Lift
theorem CX:∀{x y:List UInt8} {i:Nat} {a b:UInt8},(∀j,j<i→x[j]? =y[j]?)→x[i]? =some a→y[i]? =some b→a≠b→Op.bytesLess x y=decide (a.toNat<b.toNat)
 | [],_,_,_,_,_,h,_,_=>by simp at h
 |_::_,[],_,_,_,_,_,h,_=>by simp at h
 |c::x,d::y,0,a,b,_,h1,h2,hne=>by
  simp only[cn,bE.injEq]at h1 h2;subst h1 h2;simp only[Op.bytesLess];rw[beq_false_of_ne hne];simp[jo]
 |c::x,d::y,i+1,a,b,he,h1,h2,hne=>by
  have e:=he 0 (by omega);simp only[cn,bE.injEq]at e;subst e;simp only[List.getElem?_cons_succ]at h1 h2;simp only[Op.bytesLess];rw[CX (i:=i) (fun j f=>by simpa using he (j+1) (by omega)) h1 h2 hne]
  simp[UInt8.lt_irrefl]
theorem CW:∀{x y:List UInt8} {i:Nat},(∀j,j<i→x[j]? =y[j]?)→i≤x.length→i≤y.length→(i=x.length∨i=y.length)→Op.bytesLess x y=decide (x.length<y.length)
 | [],[],_,_,_,_,_=>by simp[Op.bytesLess]
 | [],_::_,_,_,_,_,_=>by simp[Op.bytesLess]
 |_::_,[],_,_,_,_,_=>by simp[Op.bytesLess]
 |c::x,d::y,0,_,_,_,h=>by simp at h
 |c::x,d::y,i+1,he,h1,h2,h3=>by
  have e:=he 0 (by omega);simp only[cn,bE.injEq]at e;subst e;simp only[Op.bytesLess];rw[CW (i:=i) (fun j a=>by simpa using he (j+1) (by omega)) (by simpa using h1) (by simpa using h2) (by simpa using h3)]
  simp[UInt8.lt_irrefl]
theorem KQ{a b:ByteArray}(A:a.size≤1000000){h:ac}{K:Bool→ac→Prop}(z:K (decide (kl a b)) h):HC PG vt [.string a,.string b] [.c .bool] K h:=by
 refine HN a b ?_;unfold BH;have B:a.data.toList.length=a.size:=by simp
 have C:b.data.toList.length=b.size:=by simp
 have g:∀{p:Prop} [Decidable p],Op.bytesLess a.data.toList b.data.toList=decide p→K (decide p) h:=fun{p} _ e=>by
  have:decide (kl a b)=decide p:=by
   rw[←e,←ByteArray.toList_eq,←ByteArray.toList_eq];exact Bool.eq_iff_iff.2 (by rw[decide_eq_true_iff];exact rZ)
  rw[←this];exact z
 refine LoopP.ghost (fun(i:Nat) (t:Int) h'=>t=(i:Int)∧i≤a.size∧i≤b.size∧h'=h∧∀j,j<i→a.data.toList[j]? =b.data.toList[j]?) (fun i=>a.size-i) 0 ⟨rfl,cj _,cj _,rfl,fun j q=>absurd q (Nat.not_lt_zero _)⟩ ?_
 rintro I i t h' ⟨rfl,w,x,rfl,m⟩ y;refine Join.intro (fun t u=>t=decide (i<a.size∧i<b.size)∧u=h') (fun R v=>?_) ?_
 ·refine aE (fun c=>v _ _ ⟨?_,rfl⟩) fun k=>v _ _ ⟨?_,rfl⟩
  ·rw[decide_eq_decide];omega
  ·rw[eq_comm,decide_eq_false_iff_not];omega
 ·rintro t u ⟨rfl,rfl⟩
  refine aE (fun c=>?_) fun k=>?_
  ·have o:a.data.toList[i]? =some a[i]:=by rw[←Lk,getElem?_pos a i c.1]
   have n:b.data.toList[i]? =some b[i]:=by rw[←Lk,getElem?_pos b i c.2]
   refine⟨a[i],by omega,by rw[aL,getElem?_pos a i c.1],b[i],by omega,by rw[aL,getElem?_pos b i c.2],?_⟩
   refine CondP.intro (fun f=>?_) fun d=>?_
   ·refine⟨a[i],by omega,by rw[aL,getElem?_pos a i c.1],b[i],by omega,by rw[aL,getElem?_pos b i c.2],?_⟩
    refine g ?_;rw[CX m o n fun e=>by rw[e]at f;simp at f]
    rw[decide_eq_decide];omega
   ·have d:a[i]=b[i]:=by
     have:((a[i].toNat:Int))=(b[i].toNat:Int):=by simpa using d
     exact UInt8.toNat_inj.1 (by omega)
    rw[ec c.1 (by omega)];refine y (i+1) _ _ ⟨rfl,by omega,by omega,rfl,fun j q=>?_⟩ (by omega)
    rcases cd j i with s|s
    ·exact m j s
    ·have:j=i:=by omega
     subst this;rw[o,n,d]
  ·refine g ?_
   rw[CW m (by omega) (by omega) (by omega),decide_eq_decide];omega
theorem KS{W:Nat→Prop}{h:ac}{s:SliceV}{l:List Pr}(x:Sl eA 2 W h s l)(L:l.length≤1000000)(k:ByteArray){K:SliceV→ac→Prop}
  (F:∀s' h',OwnS eA 2 dE (fun y=>h.size≤y) h' s' (l.filter fun p=>decide (p.1≠k))→Upd No h h'→K s' h'):HC PG vu [.slice s.a s.len s.cap,.string k] [.c .slice] K h:=by
 refine HO s k ?_;unfold BI dw bD al nv nW kB;have B:=x.len;refine LoopP.ghost (fun(i:Nat) (t:SliceV×Int) h'=>t.2=(i:Int)∧i≤l.length∧OwnS eA 2 dE (fun y=>h.size≤y) h' t.1 ((l.take i).filter fun p=>decide (p.1≠k))∧Upd No h h') (fun i=>l.length-i) 0 ⟨rfl,cj _,by simpa using OwnS.nil ia,Upd.refl _ _⟩ ?_
 rintro I i ⟨N,G⟩ h' ⟨A,hi,g,f⟩ E;simp only at A g;subst A;refine aE (fun b=>?_) fun v=>?_
 ·have b:i<l.length:=by have:(i:Int)<(s.len:Int):=b;omega
  obtain⟨a,C,_,z⟩:=(x.upd f fun _ h=>h.elim).at (ag b)
  have n:((l.take i).filter fun p=>decide (p.1≠k)).length≤l.length:=bQ (dP ..) (by rw[aK];omega)
  refine Join.intro (fun t j=>OwnS eA 2 dE (fun y=>h.size≤y) j t ((l.take (i+1)).filter fun p=>decide (p.1≠k))∧Upd No h j) (fun R d=>⟨⟨by simp only;omega,by simp only;omega⟩,a,C,l[i].1,z 0 _ rfl,l[i].2,z 1 _ rfl,?_⟩) ?_
  ·refine uz (p:=l[i]) fun j b2 m=>⟨_,vc b2 0,?_⟩
   have c:=g.upd m fun _ _ h=>h
   rw[bF b,List.filter_append,List.filter_cons,List.filter_nil]at d;rw[gC];by_cases e:l[i].1=k
   ·rw[decide_eq_true e]
    rw[decide_eq_false (not_not_intro e)]at d;rw[if_neg (by simp),bG]at d;exact ak.2 (d _ _ ⟨c,f.tr m⟩)
   ·rw[decide_eq_false e]
    rw[decide_eq_true e,if_pos rfl]at d;refine aB.2 ⟨_,vc b2 0,_,vc b2 1,aX ?_⟩;refine tB (p:=l[i]) c (fun y u=>bQ (f.tr m).size u) (bQ (Nat.add_le_add_right n 1) (by omega)) fun H J o w=>d _ _ ⟨o,(f.tr m).trans w fun y u=>.inr u⟩
  ·rintro t j ⟨c,q⟩
   rw[ec b (by omega)];exact E (i+1) _ _ ⟨rfl,b,c,q⟩ (by omega)
 ·have D:i=l.length:=by have:¬(i:Int)<(s.len:Int):=v;omega
  rw[bC (by omega)]at g;exact F _ _ g f
theorem Mm{W:Nat→Prop}{h:ac}{s:SliceV}{l:List Pr}(hs:Sl eA 2 W h s l)(hr:di l)(hn:l.length≤1000000)(p:Pr)(hp:p.1.size≤1000000){K:SliceV→ac→Prop}
  (Z:∀s' h',OwnS eA 2 dE (fun y=>h.size≤y) h' s' (eX p l)→Upd No h h'→K s' h'):HC PG yh [.slice s.a s.len s.cap,.agg #[.string p.1,.string p.2]] [.c .slice] K h:=by
 refine JP s p ?_;unfold Dn dw bD al nv nW kB sF Nf;refine bA fun h1 b1 k1=>⟨p.1,vc b1 0,?_⟩
 refine KS (hs.upd k1 fun _ h=>h.elim) hn p.1 fun s4 v P k4=>?_
 rw[←C6 hr]at Z;have hrf:di (l.filter fun q=>decide (q.1≠p.1)):=hr.sublist List.filter_sublist
 have hnl:(l.filter fun q=>decide (q.1≠p.1)).length≤1000000:=bQ (dP ..) hn
 have H:∀q∈l.filter fun q=>decide (q.1≠p.1),q.1≠p.1:=fun q u=>of_decide_eq_true (List.mem_filter.1 u).2
 generalize l.filter (fun q=>decide (q.1≠p.1))=L at Z P hrf hnl H
 have w:=k1.tr k4;have F:Sl eA 2 No v s4 L:=P.sl fun _ _ _ h=>h
 have hlen:=F.len;have z4:=w.size;refine LoopP.ghost (fun(g:Nat×Bool) (t:SliceV×Bool×Int) h'=>t.2.2=(g.1:Int)∧t.2.1=g.2∧g.1≤L.length∧(∃out,OwnS eA 2 dE (fun y=>v.size≤y) h' t.1 out∧out.length≤g.1+1∧(g.2=false→out=L.take g.1∧∀q∈L.take g.1,kl q.1 p.1)∧(g.2=true→out=eX p (L.take g.1)∧∃q∈L.take g.1,kl p.1 q.1))∧Upd No v h') (fun g=>L.length-g.1) (0,false) ⟨rfl,rfl,cj _,⟨[],OwnS.nil ia,by simp,fun _=>⟨by simp,by simp⟩,fun h=>by cases h⟩,Upd.refl _ _⟩ ?_
 rintro I ⟨i,pl⟩ ⟨so,X,ti⟩ h' ⟨e1,e2,hi,⟨out,E,S,hf,Y⟩,C⟩ hI;simp only at e1 e2 hi E S hf Y;subst e1 e2;have b':=C.get0 (k4.get0 b1);refine aE (fun f=>?_) fun hge=>?_
 ·have f:i<L.length:=by have:(i:Int)<(s4.len:Int):=f;omega
  obtain⟨a,ha,_,hv⟩:=(F.upd C fun _ h=>h.elim).at (ag f)
  have d:=bF f;have U:L[i]∈L:=List.getElem_mem f;refine Join.intro (fun t D=>(∃out,OwnS eA 2 dE (fun y=>v.size≤y) D t.1 out∧out.length≤i+1+1∧(t.2=false→out=L.take (i+1)∧∀q∈L.take (i+1),kl q.1 p.1)∧(t.2=true→out=eX p (L.take (i+1))∧∃q∈L.take (i+1),kl p.1 q.1))∧Upd No v D) (fun R hR=>⟨⟨by simp only;omega,by simp only;omega⟩,a,ha,L[i].1,hv 0 _ rfl,L[i].2,hv 1 _ rfl,?_⟩) ?_
  ·refine uz (p:=L[i]) fun D b2 k2=>?_
   have o:=E.upd k2 fun _ _ h=>h
   have k:=C.tr k2;have zb:=aW b2;have z2:=C.size;have hoM:=(E.within.upd k2 fun _ _ h=>h).more (M':=fun y=>(v.size≤y∧y<h'.size)∨D.size≤y) fun y b=>.inl b
   have c2:=k2.get0 b';refine Join.intro (fun t x=>(∃out,OwnS eA 2 dE (fun y=>v.size≤y) x t.1 out∧out.length≤i+1∧(t.2=false→out=L.take i∧∀q∈L.take (i+1),kl q.1 p.1)∧(t.2=true→out++ [L[i]]=eX p (L.take (i+1))∧∃q∈L.take (i+1),kl p.1 q.1))∧x[h'.size]? =some (.cells #[.string L[i].1,.string L[i].2] dE (0,0))∧Upd No v x) (fun R2 z=>?_) ?_
   ·refine Join.intro (fun t x=>t=(!X&&decide (kl p.1 L[i].1))∧x=D) (fun R3 N=>?_) ?_
    ·cases X with
     |false=>exact aB.2 ⟨p.1,vc c2 0,L[i].1,vc b2 0,KQ hp (N _ _ ⟨by simp,rfl⟩)⟩
     |true=>exact ak.2 (N _ _ ⟨by simp,rfl⟩)
    ·rintro t x ⟨rfl,rfl⟩
     cases X with
     |true=>
      obtain⟨e,q,u,O⟩:=Y rfl;refine ak.2 (z _ _ ⟨⟨out,o,S,fun h=>(by cases h),fun _=>?_⟩,b2,k⟩)
      rw[d,e];exact⟨(Fy ⟨q,u,O⟩).symm,q,cO _ u,O⟩
     |false=>
      obtain⟨e,c⟩:=hf rfl;subst e;by_cases n:kl p.1 L[i].1
      ·rw[decide_eq_true n]
       refine aB.2 ⟨p.1,vc c2 0,p.2,vc c2 1,aX ?_⟩;refine tB (p:=p) hoM (fun y b=>.inr b) (by rw[aK];omega) fun s5 h5 m j=>z _ _ ⟨⟨_,m.more (fun y b=>by rcases b with b|b<;>omega),by rw[ad,aK,bf];omega,fun h=>(by cases h),fun _=>?_⟩,j.get b2 (by rintro(hx|hx)<;>omega),k.trans j fun y b=>.inr (by rcases b with b|b<;>omega)⟩
       ·rw[d,AU c]
        refine⟨?_,L[i],dN _ (aw.2 rfl),n⟩;rw[ax,Fw (l:= [L[i]]) fun q u=>by rw[aw.1 u];exact n]
        rfl
      ·rw[decide_eq_false n]
       have u:kl L[i].1 p.1:=qM n fun e=>H _ U e.symm
       refine ak.2 (z _ _ ⟨⟨_,o,by rw[aK];omega,fun _=>⟨rfl,fun q G=>?_⟩,fun h=>(by cases h)⟩,b2,k⟩)
       rw[d]at G;rcases bq.1 G with h|h
       ·exact c q h
       ·rw[aw.1 h];exact u
   ·rintro⟨t1,t2⟩ x ⟨⟨out3,J,hol3,T,Q⟩,b3,V⟩
    simp only at J T Q;refine⟨_,vc b3 0,_,vc b3 1,aX ?_⟩;refine tB (p:=L[i]) J (fun y b=>bQ V.size b) (by omega) fun s5 h5 m j=>hR _ _ ⟨⟨_,m,by rw[ad,bf];omega,fun h=>?_,fun h=>Q h⟩,V.trans j fun y b=>.inr b⟩
    obtain⟨e,c⟩:=T h;exact⟨by rw[e,d],c⟩
  ·rintro⟨t1,t2⟩ D ⟨o,k⟩
   rw[ec f (by omega)];exact hI (i+1,t2) _ _ ⟨rfl,rfl,f,o,k⟩ (by simp only;omega)
 ·have hil:i=L.length:=by have:¬(i:Int)<(s4.len:Int):=hge;omega
  subst hil;rw[List.take_length]at hf Y;cases X with
  |true=>
   obtain⟨e,_⟩:=Y rfl;subst e;exact ak.2 (Z _ _ (E.more fun y b=>bQ z4 b) (w.tr C))
  |false=>
   obtain⟨e,c⟩:=hf rfl;subst e;refine aB.2 ⟨p.1,vc b' 0,p.2,vc b' 1,aX ?_⟩;refine tB (p:=p) E (fun y b=>bQ C.size b) (by omega) fun s5 h5 m j=>Z _ _ ?_ ((w.tr C).trans j fun y b=>.inr (bQ z4 b))
   have:=AU (p:=p) (A:=out) (B:= []) c;rw[bG]at this;rw[this];exact m.more fun y b=>bQ z4 b
end Go.Proofs
namespace Go.Proofs
open Go Go.Lift
def hx(kind v:Int):Int:=if kind=0 then v else 0
def wM(s:ByteArray):ByteArray:=s.extract 0 (min s.size 30)
theorem Bf(s:ByteArray):(wM s).size≤30:=by unfold wM;rw[mu];omega
end Go.Proofs
namespace Go.Proofs
open Go Go.Lift
structure Few(n:Nat)(L:List Pr):Prop where
 up:di L
 len:L.length≤n
 fit:∀p∈L,p.1.size≤30∧p.2.size≤30
theorem Few.ins{n:Nat}{L:List Pr}(f:Few n L)(p:Pr)(b:p.1.size≤30)(a:p.2.size≤30):Few (n+1) (eX p L):=
 ⟨xP p f.up,bQ (C5 p) (by have:=f.len;omega),fun q c=>(wC c).elim (fun e=>by rw[e];exact⟨b,a⟩) fun h=>f.fit q h⟩
theorem Few.fits{n:Nat}{L:List Pr}(f:Few n L):Fit L:=fun p a=>by have:=f.fit p a;omega
end Go.Proofs
namespace Go.Proofs
open Go Go.Lift
end Go.Proofs
namespace Go.Proofs
open Go Go.Lift
theorem GW{h:ac}{b:Nat}{c:Array Value}{t:TypeId}(a:h[b]? =some (.cells c t (0,0))) (hc:0<c.size):fP h ⟨b,0,none⟩:=⟨c,t,a,hc⟩
theorem TrieAt.plain{W:Nat→Prop}{x:Hs}{h:ac}:∀{m b:Nat} {l:List Pr},TrieAt W x h m b l→fP h ⟨b,0,none⟩
 |0,_,_,t=>by obtain⟨_,_,_,a,_⟩:=BuckAt.ex t;exact GW a (by simp[eW])
 |m+1,_,_,⟨s,nd,_⟩=>by obtain⟨_,_,_,_,_,a,_⟩:=nd.ex;exact GW a (by simp[eW])
end Go.Proofs
namespace Go.Proofs
open Go Go.Lift
end Go.Proofs
namespace Go.Proofs
open Go Go.Lift
theorem RxN.plain{W:Nat→Prop}{h:ac}{b:Nat}{sl:ByteArray}{w:Option ByteArray}{F:Fo}(r:RxN W h b sl w F):fP h ⟨b,0,none⟩:=by
 obtain⟨val,s,ow,ks,a,_⟩:=r;exact GW a (by simp[CH])
end Go.Proofs
namespace Go.Proofs
open Go Go.Lift
end Go.Proofs
namespace Go.Proofs
open Go Go.Lift
def PJ(a b:Ch):Bool:=decide (kl a.1 b.1)
theorem Pg(M:Nat→Prop):Cmp PJ PW M (fun _=>True) (.func (.func tl) #[] #[]):=by
 refine⟨fun a b h K _ e=>HV.mk' (F8 a b ?_),fun _ h=>h⟩
 unfold zu al kB NU;refine bA fun f b1 k1=>bA fun d b2 c=>?_
 refine⟨a.1,vc (c.get0 b1) 0,b.1,vc b2 0,Bg (e d _ (k1.tr c) ?_)⟩;unfold Ca PJ;split
 ·rename_i h;rw[decide_eq_true h];rfl
 ·rename_i h
  rw[decide_eq_false h];split<;>rfl
end Go.Proofs
namespace Go.Proofs
open Go Go.Lift
end Go.Proofs
namespace Go.Proofs
open Go Go.Lift
end Go.Proofs
namespace Go.Proofs
open Go Go.Lift
theorem StP.less{N M:Nat}(h:StP N)(hm:M≤N):StP M:=fun w _ _ _ hc _ _ _ a hi b _ c=>h w hc a hi (bQ b hm) c
end Go.Proofs
namespace Go.Proofs
open Go Go.Lift
theorem ME{a b:ByteArray}:kl a b↔Op.bytesLess a.data.toList b.data.toList=true:=by unfold kl;rw[ByteArray.toList_eq,ByteArray.toList_eq]
theorem IL{a b:UInt8}{x y:List UInt8}:Op.bytesLess (a::x) (b::y)=true↔a.toNat<b.toNat∨(a=b∧Op.bytesLess x y=true):=by
 simp only[Op.bytesLess,Bool.or_eq_true,decide_eq_true_iff,aS,beq_iff_eq,jo]
theorem LK{x y:List UInt8}:∀pre:List UInt8,Op.bytesLess (pre++x) (pre++y)=true↔Op.bytesLess x y=true
 | []=>rZ
 |a::pre=>by rw[gn,gn,IL,LK pre];simp
theorem Pi{x y:List UInt8}(h:Op.bytesLess x y=true)(hx:x≠[])(c:y≠[]):hd x≤hd y:=by
 match x,y,hx,c with
 |a::x,b::y,_,_=>
  show a.toNat≤b.toNat
  rcases IL.1 h with h|⟨rfl,_⟩<;>omega
abbrev ky(p:Pr):List UInt8:=p.1.data.toList
def P2(l:List Pr)(a k:List UInt8)(v:ByteArray):Prop:=∃p∈l,ky p=a++k∧p.2=v
structure Beg(l:List Pr)(pre:List UInt8):Prop where
 up:di l
 at_:∀p∈l,(ky p).take pre.length=pre∧pre.length<(ky p).length
theorem Beg.sub{l c:List Pr}{a:List UInt8}(b:Beg l a)(h:c.Sublist l):Beg c a:=⟨b.up.sublist h,fun p d=>b.at_ p (h.subset d)⟩
theorem Beg.split{l:List Pr}{a:List UInt8}(b:Beg l a){p:Pr}(c:p∈l):ky p=a++(ky p).drop a.length∧(ky p).drop a.length≠[]:=by
 obtain⟨d,f⟩:=b.at_ p c;refine⟨?_,fun e=>?_⟩
 ·conv=>lhs;rw[←List.take_append_drop a.length (ky p),d]
 ·have:=congrArg fV e
  rw[List.length_drop,bH]at this;omega
def bt(n:Nat)(p:Pr):Nat:=hd ((ky p).drop n)
theorem Beg.mono{A B:List Pr}{a:List UInt8}(b:Beg (A++B) a){x y:Pr}(hx:x∈A)(c:y∈B):bt a.length x≤bt a.length y:=by
 have h:=(bP.1 b.up).2.2 x hx y c;rw[ME]at h;obtain⟨g,d⟩:=b.split (cO B hx);obtain⟨e,f⟩:=b.split (dN A c);change Op.bytesLess (ky x) (ky y)=true at h;rw[g,e,LK]at h;exact Pi h d f
structure Row(L:List Bn)(D T:List Pr)(pre:List UInt8):Prop where
 can:∀n∈L,M9 n
 up:L.Pairwise fun m n=>hd m.1<hd n.1
 lo:∀n∈L,∀p∈T,hd n.1<bt pre.length p
 got:∀k v,(∃n∈L,BQ n k v)↔P2 D pre k v
theorem Row.nil(T:List Pr)(a:List UInt8):Row [] [] T a:=⟨fun n h=>(by cases h),dC,fun n h=>(by cases h),fun k v=>⟨fun⟨n,h,_⟩=>(by cases h),fun⟨p,h,_⟩=>(by cases h)⟩⟩
theorem Row.more{L:List Bn}{D A B:List Pr}{c:List UInt8}{n:Bn}{p:Pr}(r:Row L D (A++B) c)(s:Beg (A++B) c)(j:p∈A)(y:∀a∈A,bt c.length a=bt c.length p)(x:∀b f,B=b::f→bt c.length b≠bt c.length p)(hc:M9 n)(t:hd n.1=bt c.length p)(o:∀k v,BQ n k v↔P2 A c k v):Row (L++ [n]) (D++A) B c:=by
 refine⟨fun m hm=>?_,bP.2 ⟨r.up,bX ..,fun a w b u=>?_⟩,fun m hm q d=>?_,fun k v=>?_⟩
 ·rcases bq.1 hm with hm|hm
  ·exact r.can m hm
  ·rw[aw.1 hm];exact hc
 ·rw[aw.1 u,t]
  exact r.lo a w p (cO _ j)
 ·rcases bq.1 hm with hm|hm
  ·exact r.lo m hm q (dN _ d)
  ·rw[aw.1 hm,t]
   rcases B with _|⟨g,f⟩
   ·cases d
   have z:=x g f rfl;have C:=s.mono j (ay (a:=g) (l:=f));rcases au.1 d with rfl|d
   ·omega
   ·have i:Beg ([g]++f) c:=s.sub (List.sublist_append_right A _)
    have:=i.mono (aw.2 rfl) d;omega
 ·constructor
  ·rintro⟨m,hm,hi⟩
   rcases bq.1 hm with hm|hm
   ·obtain⟨q,d,e⟩:=(r.got k v).1 ⟨m,hm,hi⟩
    exact⟨q,cO _ d,e⟩
   ·rw[aw.1 hm]at hi
    obtain⟨q,d,e⟩:=(o k v).1 hi;exact⟨q,dN _ d,e⟩
  ·rintro⟨q,d,e⟩
   rcases bq.1 d with d|d
   ·obtain⟨m,hm,hi⟩:=(r.got k v).2 ⟨q,d,e⟩
    exact⟨m,cO _ hm,hi⟩
   ·exact⟨n,dN _ (aw.2 rfl),(o k v).2 ⟨q,d,e⟩⟩
theorem Row.done{L:List Bn}{D:List Pr}{a:List UInt8}(r:Row L D [] a):jb (.ofL L)∧∀k v,xD (.ofL L) k v↔P2 D a k v:=by
 refine⟨fS.2 ?_,fun k v=>?_⟩
 ·rw[Fo.to_of];exact⟨r.up,r.can⟩
 ·rw[j4,Fo.to_of];exact r.got k v
end Go.Proofs
namespace Go.Proofs
open Go Go.Lift
theorem Kid.less{W W':Nat→Prop}{h:ac}(hm:∀b,W' b→W b∨h.size≤b){a:Option Addr}{n:Bn}:Kid W h a n→Kid W' h a n
 |⟨b,sl,e1,e2,e3⟩=>⟨b,sl,e1,e2,e3.less hm⟩
theorem Kid.updM{W M:Nat→Prop}{h h':ac}(k:Upd M h h')(hm:∀b,M b→W b∨h.size≤b){a:Option Addr}{n:Bn}:Kid W h a n→Kid W h' a n
 |⟨b,sl,e1,e2,e3⟩=>⟨b,sl,e1,e2,e3.updM k hm⟩
theorem RxL.less{W W':Nat→Prop}{h:ac}(hm:∀b,W' b→W b∨h.size≤b){ks:List (Option Addr)}{L:List Bn}(r:RxL W h ks L):RxL W' h ks L:=⟨r.1,fun p a=>(r.2 p a).less hm⟩
theorem RxL.updM{W M:Nat→Prop}{h h':ac}(k:Upd M h h')(hm:∀b,M b→W b∨h.size≤b){ks:List (Option Addr)}{L:List Bn}(r:RxL W h ks L):RxL W h' ks L:=⟨r.1,fun p a=>(r.2 p a).updM k hm⟩
end Go.Proofs
namespace Go.Proofs
open Go Go.Lift
end Go.Proofs
namespace Go.Proofs
open Go Go.Lift
end Go.Proofs
namespace Go.Proofs
open Go Go.Lift
end Go.Proofs
namespace Go.Proofs
open Go Go.Lift
end Go.Proofs
namespace Go.Proofs
open Go Go.Lift
abbrev b1:ByteArray:=⟨#[49]⟩
abbrev b2:ByteArray:=⟨#[50]⟩
abbrev b3:ByteArray:=⟨#[51]⟩
end Go.Proofs
namespace Go.Proofs
open Go Go.Lift
def look(l:List Pr)(k:ByteArray):Option ByteArray:=(l.find? fun p=>decide (p.1=k)).map (·.2)
theorem Jq{l:List Pr}{k:ByteArray}(h:dQ l k=false):look l k=none:=by
 unfold look;rw[Option.map_eq_none_iff,List.find?_eq_none];intro p a;unfold dQ at h;rw[List.any_eq_false]at h;exact h p a
theorem xZ:∀{l:List Pr} {k v:ByteArray},di l→(k,v)∈l→look l k=some v
 |p::l,k,v,a,h=>by
  have a:=List.pairwise_cons.1 a;unfold look;rw[ox];rcases au.1 h with e|h
  ·subst e;simp
  ·have b:p.1≠k:=fun e=>by
    have:=a.1 _ h;simp only at this;rw[e]at this;exact cP _ this
   rw[decide_eq_false b];exact xZ a.2 h
theorem MC{l:List Pr}(b:di l){k v:ByteArray}(c:dQ l k=true→(k,v)∈l)(a:dQ l k=false→v=⟨#[]⟩):((look l k).getD ⟨#[]⟩,(look l k).isSome)=(v,dQ l k):=by
 cases ht:dQ l k with
 |true=>rw[xZ b (c ht)];rfl
 |false=>rw[Jq ht,a ht];rfl
theorem Jp{x:Hs}{lev:Nat}{l:List Pr}{k:ByteArray}:look (part x lev (ck x lev k) l) k=look l k:=by
 unfold look part;congr 1
 rw[List.find?_filter];congr 1
 funext p;by_cases e:p.1=k
 ·rw[e];simp
 ·simp[e]
theorem FQ{W:Nat→Prop}{x:Hs}{h:ac}{b:Nat}{l:List Pr}(t:TrieAt W x h 13 b l)(X:∀y,W y→y<h.size)(Y:di l)(Z:l.length≤1000000)(k:ByteArray){K:ByteArray×Bool→ac→Prop}
  (O:∀h',Upd No h h'→K ((look l k).getD ⟨#[]⟩,(look l k).isSome) h'):HC PG tu [.agg #[.int .u64 x.k0,.int .u64 x.k1,.int .u64 x.mask],.pointer (some ⟨b,0,none⟩),.string k] [.c .str,.c .bool] K h:=by
 refine Ga (x.k0,x.k1,x.mask) (some ⟨b,0,none⟩) k ?_;unfold zx ae al nv Gh Cy nW sF oT su qb;refine bA fun h1 b1 k1=>⟨_,vc b1 0,_,vc b1 1,_,vc b1 2,?_⟩
 refine zX fun h2 k2=>?_
 have u:=k1.tr k2;refine Ih (.inr ⟨b,rfl,TrieAt.upd0 u t⟩) (fun y hy=>aG (X y hy) u.size) fun h3 b3 V k3 _=>?_
 have P:=u.tr k3;refine LoopP.ghost (fun(g:Nat×Nat×List Pr) (t:Option Addr×Int) h'=>t=(some ⟨g.2.1,0,none⟩,((13-g.1:Nat):Int))∧g.1≤13∧TrieAt W x h' g.1 g.2.1 g.2.2∧di g.2.2∧g.2.2.length≤1000000∧look g.2.2 k=look l k∧Upd No h h') (fun g=>g.1) (13,b3,l)
  ⟨rfl,aq _,V,Y,Z,rfl,P⟩ ?_
 rintro I ⟨m,c,B⟩ t h4 ⟨rfl,hm,tm,j,C,q,F⟩ hI;simp only at hm tm j C q;rcases m with _|m
 ·obtain⟨sp,sk,ow,L,_⟩:=BuckAt.ex tm
  refine nA L (aB.2 (Lf tm j (by omega) k fun T v Q o z=>?_))
  have:=O T (F.tr Q);rw[←q,MC j o z]at this;exact this
 ·obtain⟨s,nd,H⟩:=tm
  have H:∀c,c<32→SlotIs W x h4 m s c (part x (12-m) c B):=H;obtain⟨d,n,sp,sk,ow,L,_⟩:=nd.ex;refine nA L (ak.2 ?_);refine MW (by omega) ?_;rw[show 13-(m+1)=12-m by omega]
  have hi:=FM x (12-m) k;have w:=H _ hi;have f:look (part x (12-m) (ck x (12-m) k) B) k=look l k:=by rw[Jp,q]
  have A:di (part x (12-m) (ck x (12-m) k) B):=AE j;have D:(part x (12-m) (ck x (12-m) k) B).length≤1000000:=bQ AI C;generalize part x (12-m) (ck x (12-m) k) B=lp at w f A D;generalize ck x (12-m) k=i at hi w;refine Fj nd hi fun T Q=>?_
  refine uz fun E N U=>?_
  have a:=Q.tr U;rcases w with⟨G,o,z⟩|⟨p,G,o,z⟩|⟨_,o,S,z,tk⟩
  ·rw[o]
   refine ak.2 (DX (nd.upd a fun _ h=>h.elim) hi ?_)
   rw[z];refine aB.2 ?_;have:=O E (F.tr a);rw[←f,G]at this;exact this
  ·rw[o]at N⊢
   refine aB.2 ⟨p.1,vc N 0,?_⟩;rw[gC];have:=O E (F.tr a);rw[←f,G]at this;by_cases e:p.1=k
   ·rw[decide_eq_true e]
    refine ak.2 ⟨p.2,vc N 1,?_⟩;have J:look [p] k=some p.2:=by unfold look;rw[ox,decide_eq_true e];rfl
    rw[J]at this;exact this
   ·rw[decide_eq_false e]
    have J:look [p] k=none:=by unfold look;rw[ox,decide_eq_false e];rfl
    rw[J]at this;exact aB.2 this
  ·rw[o]
   refine ak.2 (DX (nd.upd a fun _ h=>h.elim) hi ?_)
   rw[z];refine ak.2 ?_;have R:IntKind.wrap .i64 (((13-(m+1):Nat):Int)+1)=((13-m:Nat):Int):=by rw[gi (by omega)];omega
   rw[show 13-(m+1)=12-m by omega]at R
   show I (some ⟨S,0,none⟩,IntKind.wrap .i64 (((12-m:Nat):Int)+1)) E
   rw[R];exact hI (m,S,lp) _ E ⟨rfl,by simp only;omega,TrieAt.upd0 a tk,A,D,f,F.tr a⟩ (by simp only;omega)
abbrev Sd:=ByteArray×Bool
end Go.Proofs
namespace Go.Proofs
open Go Go.Lift
section
variable {W:Nat→Prop} {h:ac} {vp:Nat} {s:VS}
end
end Go.Proofs
namespace Go.Proofs
open Go Go.Lift
structure NSt(h8:ac)(b:Nat)(t:Tr)(h:ac)(ps ms:List Nat):Prop where
 k:Upd No h8 h
 blk:h[b]? =some (.cells (sA t).toArray cL (0,0))
 gs:∀p∈ps,GraphAt (Bs (p+1) p) h (p+1) p [] 1∧h8.size≤p
 mp:∀m∈ms,h[m]? =some (.map #[] 0)∧h8.size≤m
section
variable {h8 h h':ac} {b:Nat} {t:Tr} {ps ms:List Nat}
theorem NSt.upd(n:NSt h8 b t h ps ms)(k:Upd No h h'):NSt h8 b t h' ps ms:=
 ⟨n.k.tr k,k.get0 n.blk,fun p a=>⟨(n.gs p a).1.upd0 k,(n.gs p a).2⟩,fun m hm=>⟨k.get0 (n.mp m hm).1,(n.mp m hm).2⟩⟩
theorem NSt.rds(n:NSt h8 b t h ps ms):aF h (adr ⟨b,0,none⟩ 0)=some (.int .i64 t.1)∧aF h (adr ⟨b,0,none⟩ 1)=some (.int .u64 t.2.1)∧aF h (adr ⟨b,0,none⟩ 2)=some (.int .u64 t.2.2.1)∧aF h (adr ⟨b,0,none⟩ 3)=some (.int .u64 t.2.2.2.1)∧aF h (adr ⟨b,0,none⟩ 4)=some (.pointer t.2.2.2.2.1)∧aF h (adr ⟨b,0,none⟩ 5)=some (.pointer t.2.2.2.2.2):=
 ⟨vc n.blk 0,vc n.blk 1,vc n.blk 2,vc n.blk 3,vc n.blk 4,vc n.blk 5⟩
theorem NSt.map(n:NSt h8 b t h ps ms){k:ac→Prop}(d:∀h',NSt h8 b t h' ps (h.size::ms)→h.size<h'.size→k h'):At (Array.push h (.map #[] 0)) k:=by
 have c:=Upd.push No h (.map #[] 0);have a:=n.upd c;refine aX (d _ ⟨a.k,a.blk,a.gs,fun m hm=>?_⟩ (by simp))
 rcases au.1 hm with rfl|hm
 ·exact⟨pj h _,n.k.size⟩
 ·exact a.mp m hm
theorem NSt.graph(n:NSt h8 b t h ps ms){K:Option Addr→ac→Prop}(e:∀h',NSt h8 b t h' (h.size::ps) ms→h.size+1<h'.size→K (some ⟨h.size+1,0,none⟩) h'):HC PG df [] [.c .ptr] K h:=by
 refine MK fun h' d g=>?_
 have a:=n.upd d;refine e h' ⟨a.k,a.blk,fun p c=>?_,a.mp⟩ (g.lt _ (.inl rfl))
 rcases au.1 c with rfl|c
 ·exact⟨g,n.k.size⟩
 ·exact a.gs p c
theorem NSt.put(n:NSt h8 b t h ps ms){cs:List Value}{ty:TypeId}{k:ac→Prop}(a:∀h',NSt h8 b t h' ps ms→h'[h.size]? =some (.cells cs.toArray ty (0,0))→h8.size≤h.size→k h'):At (hnew h cs ty) k:=
 bA fun h' b' k'=>a h' (n.upd k') b' n.k.size
theorem NSt.done{W:Nat→Prop}{kind:Int}{x:Hs}(n:NSt h8 b t h ps ms)(z:∀y,W y→y<h8.size)(i:TreeIs W h8 kind x t [])(w:kind=0∨kind=1){c p o f j:Nat}{K:Option Addr×Int→ac→Prop}
  (D:∀h' vp gp gm tm bm nm,VaultAt (fun y=>W y∨VS.M ⟨gp,gm,tm,bm,nm,kind,x,t,[],1,[],[],[]⟩ y) h' vp ⟨gp,gm,tm,bm,nm,kind,x,t,[],1,[],[],[]⟩→h8.size≤vp→(∀y,VS.M ⟨gp,gm,tm,bm,nm,kind,x,t,[],1,[],[],[]⟩ y→h8.size≤y)→Upd No h8 h'→K (some ⟨vp,0,none⟩,0) h')
  (A:h[c]? =some (.cells (sA t++ [Value.pointer (some ⟨p+1,0,none⟩),Value.map (some o),Value.map (some f),Value.map (some j)]).toArray bM (0,0)))
  (F:h8.size≤c) (k:∀m∈(p+1)::p::ms,c≠m) (C:p∈ps) (q:o∈ms) (u:f∈ms) (s:j∈ms) (ne: [p+1,p,o,f,j].Nodup):K (some ⟨c,0,none⟩,0) h:=by
 obtain⟨g,B⟩:=n.gs p C;have hM:∀y,VS.M ⟨p+1,p,o,f,j,kind,x,t,[],1,[],[],[]⟩ y→h8.size≤y∧y<h.size∧c≠y:=fun y a=>by
  rcases a with e|e|e|e|e<;>(simp only at e;subst e)
  ·exact⟨by omega,g.lt _ (.inl rfl),k _ (by simp)⟩
  ·exact⟨B,g.lt _ (.inr rfl),k _ (by simp)⟩
  ·exact⟨(n.mp _ q).2,aW (n.mp _ q).1,k _ (by simp[q])⟩
  ·exact⟨(n.mp _ u).2,aW (n.mp _ u).1,k _ (by simp[u])⟩
  ·exact⟨(n.mp _ s).2,aW (n.mp _ s).1,k _ (by simp[s])⟩
 obtain⟨m,hm,v⟩:=g.map;have em:∀{κ β:Type} {E:KeyE κ} {g:β→Value} {r:Nat},h[r]? =some (.map #[] 0)→MapAt E g h r []:=fun v=>⟨[],0,⟨v,mo,mo,fun _ h=>by cases h⟩,rfl⟩
 refine D h c (p+1) p o f j ⟨A,⟨g.blk,⟨m,hm,fun id=>(v id).elim (fun⟨_,_,_,e,_⟩=>by cases e) .inr⟩,.inr (.inl rfl),.inr (.inr (.inl rfl)),fun y a=>a.elim (fun e=>aG (z y e) n.k.size) fun e=>(hM y e).2.1,g.nd⟩,em (n.mp _ q).1,em (n.mp _ u).1,em (n.mp _ s).1,fun y a=>.inr a,fun a=>a.elim (fun e=>by have:=z _ e;omega) fun e=>(hM _ e).2.2 rfl,ne,?_,fun d hd=>(by cases hd),fun id=>rZ,Inv.nil,w⟩ F (fun y a=>(hM y a).1) n.k
 exact(i.less fun y a=>a.imp id fun e=>(hM y e).1).upd0 n.k
end
theorem L8{W:Nat→Prop}{h:ac}(q:∀y,W y→y<h.size){kind:Int}(m:kind=0∨kind=1){x:Hs}{K:Option Addr×Int→ac→Prop}
  (A:∀h' d gp gm tm bm nm t,VaultAt (fun y=>W y∨VS.M ⟨gp,gm,tm,bm,nm,kind,x,t,[],1,[],[],[]⟩ y) h' d ⟨gp,gm,tm,bm,nm,kind,x,t,[],1,[],[],[]⟩→h.size≤d→(∀y,VS.M ⟨gp,gm,tm,bm,nm,kind,x,t,[],1,[],[],[]⟩ y→h.size≤y)→Upd No h h'→K (some ⟨d,0,none⟩,0) h'):
  HC PG sY [.int .i64 kind,.agg #[.int .u64 x.k0,.int .u64 x.k1,.int .u64 x.mask]] [.c .ptr,.c (.int .i64)] K h:=by
 refine FV kind (x.k0,x.k1,x.mask) ?_;unfold zh av ae nv Gh Cy ai BP ug;refine bA fun I b1 k1=>⟨_,vc b1 0,_,vc b1 1,_,vc b1 2,?_⟩
 refine Me (W:=W) (x:=x) (fun y b=>aG (q y b) k1.size) m fun w t i u=>?_
 have k:=k1.tr u;refine bA fun H B p=>dW (c:=sA Dw) (vs:=sA t) B rfl fun g f j=>ak.2 ?_
 have a:Upd No h g:=(k.tr p).own j k.size;have G:TreeIs W g kind x t []:=((i.less (W':=fun y=>W y∨y=w.size) fun y b=>b.imp id fun e=>dG e.symm).updM (p.wide.tr (j.mono fun _ e=>.inl (.inr e))) fun y b=>.inl b).less fun y b=>.inl (.inl b)
 have o:∀y,W y→y<g.size:=fun y b=>aG (q y b) a.size
 have s:∀h' d gp gm tm bm nm,VaultAt (fun y=>W y∨VS.M ⟨gp,gm,tm,bm,nm,kind,x,t,[],1,[],[],[]⟩ y) h' d ⟨gp,gm,tm,bm,nm,kind,x,t,[],1,[],[],[]⟩→g.size≤d→(∀y,VS.M ⟨gp,gm,tm,bm,nm,kind,x,t,[],1,[],[],[]⟩ y→g.size≤y)→Upd No g h'→K (some ⟨d,0,none⟩,0) h':=
  fun h' d gp gm tm bm nm v D hM E=>A h' d gp gm tm bm nm t v (bQ a.size D) (fun y b=>bQ a.size (hM y b)) (a.tr E)
 have n:NSt g w.size t g [] []:=⟨Upd.refl _ _,f,fun _ h=>(by cases h),fun _ h=>(by cases h)⟩
 refine⟨_,vc f 0,_,vc f 1,_,vc f 2,_,vc f 3,_,vc f 4,_,vc f 5,?_⟩;clear A a q f j k i u p B b1 k1;repeat' first
  |refine⟨n.rds,?_⟩
  |refine n.graph fun _ n z=>?_
  |refine n.map fun _ n z=>?_
  |refine n.put fun _ n C F=>?_
  |exact n.done o G m s C F (by simp;omega) (by simp) (by simp) (by simp) (by simp) (by simp;omega)
  |refine And.intro ?_ ?_
end Go.Proofs
namespace Go.Proofs
open Go Go.Lift
theorem N9(s:ByteArray):s.extract 0 ((if 30<(s.size:Int)then 30 else(s.size:Int)).toNat)=wM s:=by
 unfold wM;rw[show((if 30<(s.size:Int)then(30:Int)else(s.size:Int)).toNat)=min s.size 30 from by split<;>omega]
theorem _root_.Go.Lift.Upd.fresh{M:Nat→Prop}{h b a:ac}(k:Upd No h b)(u:Upd M b a)(hM:∀y,M y→h.size≤y):Upd No h a:=k.trans u fun y c=>.inr (hM y c)
end Go.Proofs
namespace Go.Proofs
open Go Go.Lift
end Go.Proofs
namespace Go.Proofs
open Go Go.Lift
def sb(s:SliceV)(y:Nat):Prop:=s.cap≠0∧∃a,s.a=some a∧y=a.block
section
variable {α:Type} {f:α→List Value} {sz:Nat} {ty:TypeId} {M:Nat→Prop} {h:ac} {s so:SliceV} {xs out:List α}
theorem _root_.Go.Lift.OwnS.sub(o:OwnS f sz ty M h s xs):∀y,sb s y→M y∧y<h.size:=fun y ⟨hc,a,i,e⟩=>by
 rcases o.blk with j|⟨b,d,c,hm,g,_⟩
 ·exact absurd j hc
 ·rw[i]at c
  cases c;exact⟨e▸hm,e▸aW g⟩
theorem _root_.Go.Lift.OwnS.its(o:OwnS f sz ty M h s xs):OwnS f sz ty (sb s) h s xs:=by
 refine⟨o.len,o.ne,o.cap,?_⟩;by_cases hc:s.cap=0
 ·exact .inl hc
 ·rcases o.blk with g|⟨b,a,c,hm,d,e⟩
  ·exact absurd g hc
  ·exact .inr ⟨b,a,c,⟨hc,_,c,rfl⟩,d,e⟩
theorem _root_.Go.Lift.OwnS.one{x:α}{b:Nat}(a:∀x,(f x).length=sz∧0<sz)(c:h[b]? =some (.cells (f x).toArray ty (0,0))):OwnS f sz ty (sb ⟨some ⟨b,0,none⟩,1,1⟩) h ⟨some ⟨b,0,none⟩,1,1⟩ [x]:=
 ⟨rfl,a,aq _,.inr ⟨b,[],rfl,⟨by simp,_,rfl,rfl⟩,by simpa using c,by simp⟩⟩
end
structure Sp where
 T:Nat→Prop
 Q:ac→Prop
 loc:∀{M:Nat→Prop} {h h':ac},Q h→Upd M h h'→(∀y,T y→¬M y)→Q h'
section
variable {Ss:List Sp} {h h':ac} {M:Nat→Prop} {s s':Sp} {i:Nat}
end
theorem GraphAt.re{W W' M:Nat→Prop}{h h':ac}{gp gm:Nat}{L:fu}{nx:Int}(g:GraphAt W h gp gm L nx)(k:Upd M h h')(hm:∀b,M b→(W b∧b≠gp∧b≠gm)∨h.size≤b)(i:∀b,W' b→(W b∨h.size≤b)∧b<h'.size)(c:W' gp)(f:W' gm):GraphAt W' h' gp gm L nx:=by
 have q:=g.upd k hm;obtain⟨m,d,n⟩:=g.map;refine⟨q.blk,⟨m,d.upd k fun e=>(hm _ e).elim (fun e=>e.2.2 rfl) fun e=>absurd (g.lt _ g.wm) (Nat.not_lt.2 e),fun j=>?_⟩,c,f,fun b a=>(i b a).2,g.nd⟩
 rcases n j with⟨s,ps,c,f,o⟩|p
 ·exact .inl ⟨s,ps,c,f,((o.less (W':=fun b=>W b∨h.size≤b) fun b a=>a).upd k fun b a=>.inl ((hm b a).imp (·.1) id)).less fun b a=>.inl (i b a).1⟩
 ·exact .inr p
theorem TreeIs.re{W W' M:Nat→Prop}{h h':ac}{kind:Int}{x:Hs}{t:Tr}{l:List Pr}(i:TreeIs W h kind x t l)(k:Upd M h h')(hm:∀b,M b→W b∨h.size≤b)(c:∀b,W' b→W b∨h.size≤b):TreeIs W' h' kind x t l:=
 ((i.less (W':=fun b=>W b∨h.size≤b) fun b a=>a).updM k fun b a=>.inl (hm b a)).less fun b a=>.inl (c b a)
theorem VaultAt.re{W W' M:Nat→Prop}{h h':ac}{m:Nat}{s:VS}(v:VaultAt W h m s)(k:Upd M h h')(hm:∀b,M b→(W b∧¬s.M b)∨h.size≤b)(j:∀b,W' b→(W b∨h.size≤b)∧b<h'.size)(hM:∀y,s.M y→W' y):VaultAt W' h' m s:=by
 have g:=v.upd k hm;have c:∀b,M b→W b∨h.size≤b:=fun b f=>(hm b f).imp (·.1) id
 have a:∀b,W' b→W b∨h.size≤b:=fun b f=>(j b f).1
 exact⟨g.blk,v.g.re k (fun b f=>(hm b f).imp (fun e=>⟨e.1,fun i=>e.2 (.inl i),fun i=>e.2 (.inr (.inl i))⟩) id) j (hM _ (.inl rfl)) (hM _ (.inr (.inl rfl))),g.t,g.b,g.n,hM,fun n=>(a _ n).elim v.wv fun e=>absurd (aW v.blk) (by omega),v.ne,v.em.re k c a,fun d hd=>⟨(v.ts d hd).1.re k c a,(v.ts d hd).2⟩,v.sub,v.inv,v.kd⟩
section
variable {Ss:List Sp} {h h':ac} {vp:Nat} {s:VS} {p p':Sp} {i:Nat} {M:Nat→Prop}
end
end Go.Proofs
namespace Go.Proofs
open Go Go.Lift
end Go.Proofs
namespace Go.Proofs
open Go Go.Lift
end Go.Proofs
namespace Go.Proofs
end Go.Proofs
namespace Go.Proofs
open Go Go.Lift
theorem pe(s:ByteArray):s.data.toList.length=s.size:=by simp
theorem Jj{a b:ByteArray}{h:ac}{K:Bool→ac→Prop}(c:K (decide (b.data.toList<+:a.data.toList)) h):HC PG m8 [.string a,.string b] [.c .bool] K h:=by
 refine Cg a b ?_;unfold uH kB;refine yx a b ?_;unfold rr kB;refine nL a b ?_;unfold iL;have j:=pe a;have i:=pe b;refine aE (fun f=>?_) fun g=>?_
 ·refine⟨⟨by omega,by omega⟩,?_⟩
  rw[gC,aL];have e:decide (a.extract 0 b.size=b)=decide (b.data.toList<+:a.data.toList):=by
   rw[decide_eq_decide,←rU,A5,List.prefix_iff_eq_take,i];exact eq_comm
  rw[e];exact c
 ·have e:decide (b.data.toList<+:a.data.toList)=false:=decide_eq_false fun d=>by
   have:=d.length_le;omega
  rw[e]at c;exact c
theorem N8{a b:ByteArray}{h:ac}{K:ByteArray×Bool→ac→Prop}(d:∀s:ByteArray,a.data.toList=b.data.toList++s.data.toList→K (s,true) h)(i:(∀r,a.data.toList≠b.data.toList++r)→K (⟨#[]⟩,false) h):HC PG vo [.string a,.string b] [.c .str,.c .bool] K h:=by
 refine HI a b ?_;unfold BC kB;refine Jj ?_;have j:=pe a;have g:=pe b;by_cases c:b.data.toList<+:a.data.toList
 ·rw[decide_eq_true c]
  have f:=c.length_le;refine ak.2 ⟨⟨by omega,by omega⟩,?_⟩
  rw[aL];refine d _ ?_;rw[A6];obtain⟨r,e⟩:=c;rw[←e,←g,List.drop_left]
 ·rw[decide_eq_false c]
  exact aB.2 (i fun r e=>c ⟨r,e.symm⟩)
end Go.Proofs
namespace Go.Proofs
open Go Go.Lift
end Go.Proofs
namespace Go.Proofs
open Go Go.Lift
end Go.Proofs
namespace Go.Proofs
open Go Go.Lift
theorem Jr(p:Pr)(l:List Pr)(k:ByteArray):look (p::l) k=if p.1=k then some p.2 else look l k:=by
 unfold look;rw[ox];by_cases e:p.1=k
 ·rw[decide_eq_true e,if_pos e];rfl
 ·rw[decide_eq_false e,if_neg e]
theorem Fm{k v:ByteArray}:∀{l:List Pr},look l k=some v→(k,v)∈l
 | [],h=>by cases h
 |p::l,h=>by
  rw[Jr]at h;by_cases e:p.1=k
  ·rw[if_pos e]at h;cases h;rw[←e];exact ay ..
  ·rw[if_neg e]at h;exact aI _ (Fm h)
def NN(c:Ch):Bool:=(!((!c.2.2.2.1&& !c.2.2.2.2)||(c.2.2.2.1&&(c.2.2.2.2&&decide (c.2.1=c.2.2.1)))))&&((c.2.2.2.1||decide (c.2.1=⟨#[]⟩))&&(c.2.2.2.2||decide (c.2.2.1=⟨#[]⟩)))
def one(c:Ch):Option Ch:=if NN c then some c else none
end Go.Proofs
namespace Go.Proofs
open Go Go.Lift
end Go.Proofs
namespace Go.Proofs
open Go Go.Lift
end Go.Proofs
namespace Go.Proofs
open Go Go.Lift
end Go.Proofs
namespace Go.Proofs
open Go Go.Lift
end Go.Proofs
namespace Go.Proofs
open Go Go.Lift
end Go.Proofs
namespace Go.Proofs
open Go Go.Lift
end Go.Proofs
namespace Go.Proofs
open Go Go.Lift
end Go.Proofs
namespace Go.Proofs
open Go Go.Lift
end Go.Proofs
namespace Go.Proofs
open Go Go.Lift
def OI(b o t:Option ByteArray)(p:Int):Option ByteArray×Bool:=if o=t∨t=b then(o,true)else if o=b then(t,true)else if p=1 then(o,false)else if p=2 then(t,false)else(b,false)
def tk(B O T:List Pr)(p:Int)(k:ByteArray):Option ByteArray×Bool:=OI (look B k) (look O k) (look T k) p
end Go.Proofs
namespace Go.Proofs
open Go Go.Lift Go.Sort
abbrev LA:Value:=.func (.func tl) #[] #[]
def xY(dec:Int→Ch)(i j:Int):Bool:=PJ (dec i) (dec j)
structure SA(dec:Int→Ch)(M:Nat→Prop)(s:SliceV)(h:ac)(d:Array Int):Prop where
 own:OwnS PW 5 qJ M h s (d.toList.map dec)
 small:d.size≤1000000000
 lt:∀b,M b→b<h.size
variable {dec:Int→Ch} {M:Nat→Prop} {s:SliceV} {h:ac} {d:Array Int}
theorem SA.len(a:SA dec M s h d):s.len=d.size:=by have:=a.own.len;simpa using this
theorem SA.upd0{h':ac}(a:SA dec M s h d)(k:Upd No h h'):SA dec M s h' d:=⟨a.own.upd k fun _ _ h=>h,a.small,fun b c=>aG (a.lt b c) k.size⟩
theorem SA.at(c:SA dec M s h d){i:Nat}(hi:i<d.size):∃a,s.a=some a∧∀j v,(PW (dec d[i]!))[j]? =some v→aF h (adr (adr a (((i:Int)).toNat*5)) j)=some v:=by
 have hx:(d.toList.map dec)[i]? =some (dec d[i]!):=by
  rw[List.getElem?_map,Array.getElem?_toList,Array.getElem?_eq_getElem hi,getElem!_pos d i hi];rfl
 obtain⟨a,b,_,e⟩:=(c.own.sl (W:=No) fun _ _ _ h=>h).at hx
 exact⟨a,b,by simpa using e⟩
theorem SA.rd(c:SA dec M s h d){t:Int}{i:Nat}(e:t=(i:Int))(hi:i<d.size){R:ByteArray→ByteArray→ByteArray→Bool→Bool→Prop}(g:R (dec d[i]!).1 (dec d[i]!).2.1 (dec d[i]!).2.2.1 (dec d[i]!).2.2.2.1 (dec d[i]!).2.2.2.2):
  ((0:Int)≤t∧t<((s.len:Nat):Int))∧∃a:Addr,s.a=some a∧∃v1:ByteArray,aF h (adr (adr a (t.toNat*5)) 0)=some (.string v1)∧∃v2:ByteArray,aF h (adr (adr a (t.toNat*5)) 1)=some (.string v2)∧∃v3:ByteArray,aF h (adr (adr a (t.toNat*5)) 2)=some (.string v3)∧∃v4:Bool,aF h (adr (adr a (t.toNat*5)) 3)=some (.bool v4)∧∃v5:Bool,aF h (adr (adr a (t.toNat*5)) 4)=some (.bool v5)∧R v1 v2 v3 v4 v5:=by
 subst e;obtain⟨a,f,b⟩:=c.at hi;exact⟨by rw[c.len];omega,a,f,_,b 0 _ rfl,_,b 1 _ rfl,_,b 2 _ rfl,_,b 3 _ rfl,_,b 4 _ rfl,g⟩
theorem SA.st(e:SA dec M s h d){t:Int}{i:Nat}{x:Int}(n:t=(i:Int))(hi:i<d.size){R:ac→Prop}(p:∀h',SA dec M s h' (d.setIfInBounds i x)→Upd M h h'→R h'):
  ((0:Int)≤t∧t<((s.len:Nat):Int))∧∃a:Addr,s.a=some a∧(rk h (some (adr a (t.toNat*5))) 0 [.string (dec x).1,.string (dec x).2.1,.string (dec x).2.2.1,.bool (dec x).2.2.2.1,.bool (dec x).2.2.2.2]∧At (ie h (adr a (t.toNat*5)) 0 [.string (dec x).1,.string (dec x).2.1,.string (dec x).2.2.1,.bool (dec x).2.2.2.1,.bool (dec x).2.2.2.2]) R):=by
 subst n;obtain⟨a,o,hM,j,m,g⟩:=OwnS.setAt e.own (k:=i) (by simpa using hi) (dec x);refine⟨by rw[e.len];omega,a,o,?_⟩;rw[aL];have f:Upd M h _:=g.mono fun b c=>.inl (by have c:b=a.block:=c;rw[c];exact hM)
 refine⟨j,aX (p _ ⟨?_,by simpa using e.small,fun b c=>aG (e.lt b c) g.size⟩ f)⟩
 rw[show(d.setIfInBounds i x).toList.map dec=(d.toList.map dec).take i++dec x::(d.toList.map dec).drop (i+1) by
  rw[Array.toList_setIfInBounds,List.map_set,List.set_eq_take_append_cons_drop,if_pos (by simpa using hi)]]
 exact m
@[simp] theorem OK(d:Array Int)(i j:Nat):(swp d i j).size=d.size:=by simp[swp]
theorem SA.swap(e:SA dec M s h d){b c:Int}{i j:Nat}(m:b=(i:Int))(o:c=(j:Int))(hi:i<d.size)(n:j<d.size){R:ac→Prop}(t:∀h',SA dec M s h' (swp d i j)→Upd M h h'→R h'):
  ((0:Int)≤c∧c<((s.len:Nat):Int))∧∃a:Addr,s.a=some a∧∃v1:ByteArray,aF h (adr (adr a (c.toNat*5)) 0)=some (.string v1)∧∃v2:ByteArray,aF h (adr (adr a (c.toNat*5)) 1)=some (.string v2)∧∃v3:ByteArray,aF h (adr (adr a (c.toNat*5)) 2)=some (.string v3)∧∃v4:Bool,aF h (adr (adr a (c.toNat*5)) 3)=some (.bool v4)∧∃v5:Bool,aF h (adr (adr a (c.toNat*5)) 4)=some (.bool v5)∧
   (((0:Int)≤b∧b<((s.len:Nat):Int))∧∃a:Addr,s.a=some a∧∃w1:ByteArray,aF h (adr (adr a (b.toNat*5)) 0)=some (.string w1)∧∃w2:ByteArray,aF h (adr (adr a (b.toNat*5)) 1)=some (.string w2)∧∃w3:ByteArray,aF h (adr (adr a (b.toNat*5)) 2)=some (.string w3)∧∃w4:Bool,aF h (adr (adr a (b.toNat*5)) 3)=some (.bool w4)∧∃w5:Bool,aF h (adr (adr a (b.toNat*5)) 4)=some (.bool w5)∧
    (((0:Int)≤b∧b<((s.len:Nat):Int))∧∃a:Addr,s.a=some a∧(rk h (some (adr a (b.toNat*5))) 0 [.string v1,.string v2,.string v3,.bool v4,.bool v5]∧At (ie h (adr a (b.toNat*5)) 0 [.string v1,.string v2,.string v3,.bool v4,.bool v5]) (fun f=>
     (((0:Int)≤c∧c<((s.len:Nat):Int))∧∃a:Addr,s.a=some a∧(rk f (some (adr a (c.toNat*5))) 0 [.string w1,.string w2,.string w3,.bool w4,.bool w5]∧At (ie f (adr a (c.toNat*5)) 0 [.string w1,.string w2,.string w3,.bool w4,.bool w5]) R)))))):=by
 refine e.rd o n (e.rd m hi (e.st (x:=d[j]!) m hi fun f k k1=>k.st (x:=d[i]!) o (by simpa using n) fun p g q=>t p g (k1.tr q)))
theorem SA.less(f:SA dec M s h d){b c:Int}{i j:Nat}(g:b=(i:Int))(o:c=(j:Int))(hi:i<d.size)(n:j<d.size){R:Int→ac→Prop}(p:∀h' e,SA dec M s h' d→Upd No h h'→decide (e<0)=xY dec d[i]! d[j]!→R e h'):
  ((0:Int)≤b∧b<((s.len:Nat):Int))∧∃a:Addr,s.a=some a∧∃v1:ByteArray,aF h (adr (adr a (b.toNat*5)) 0)=some (.string v1)∧∃v2:ByteArray,aF h (adr (adr a (b.toNat*5)) 1)=some (.string v2)∧∃v3:ByteArray,aF h (adr (adr a (b.toNat*5)) 2)=some (.string v3)∧∃v4:Bool,aF h (adr (adr a (b.toNat*5)) 3)=some (.bool v4)∧∃v5:Bool,aF h (adr (adr a (b.toNat*5)) 4)=some (.bool v5)∧
   (((0:Int)≤c∧c<((s.len:Nat):Int))∧∃a:Addr,s.a=some a∧∃w1:ByteArray,aF h (adr (adr a (c.toNat*5)) 0)=some (.string w1)∧∃w2:ByteArray,aF h (adr (adr a (c.toNat*5)) 1)=some (.string w2)∧∃w3:ByteArray,aF h (adr (adr a (c.toNat*5)) 2)=some (.string w3)∧∃w4:Bool,aF h (adr (adr a (c.toNat*5)) 3)=some (.bool w4)∧∃w5:Bool,aF h (adr (adr a (c.toNat*5)) 4)=some (.bool w5)∧
    HV PG LA [.agg #[.string v1,.string v2,.string v3,.bool v4,.bool v5],.agg #[.string w1,.string w2,.string w3,.bool w4,.bool w5]] [.c (.int .i64)] R h):=
 f.rd g hi (f.rd o n ((Pg M).call (dec d[i]!) (dec d[j]!) trivial fun h' e k m=>p h' e (f.upd0 k) k m))
end Go.Proofs
namespace Go.Proofs
open Go Go.Lift Go.Sort
variable {dec:Int→Ch} {M:Nat→Prop} {s:SliceV} {h:ac} {d:Array Int}
@[simp] theorem L0(lt:Int→Int→Bool)(hi first a:Nat)(d:Array Int):(siftDown lt hi first a d).size=d.size:=by
 fun_induction siftDown lt hi first a d<;>simp_all
@[simp] theorem AV(lt:Int→Int→Bool)(hi first:Nat):∀(k:Nat) (d:Array Int),(heapBuild lt hi first k d).size=d.size
 |0,d=>rfl
 |k+1,d=>by rw[heapBuild,AV lt hi first k];simp
theorem Nk{a hi first:Nat}(G:SA dec M s h d)(Z:first+hi≤d.size){K:Unit→ac→Prop}(L:∀h',SA dec M s h' (siftDown (xY dec) hi first a d)→Upd M h h'→K () h')(P:a≤1000000000):
  HC PG f9 [.slice s.a s.len s.cap,.int .i64 a,.int .i64 hi,.int .i64 first,LA] [] K h:=by
 refine kF s a hi first LA ?_
 unfold ga bB dw bD rc eh mB BU zy;have Q:=G.small;refine LoopP.ghost (fun(g:Nat×Array Int) (t:Int) h'=>t=(g.1:Int)∧SA dec M s h' g.2∧g.2.size=d.size∧siftDown (xY dec) hi first g.1 g.2=siftDown (xY dec) hi first a d∧Upd M h h'∧g.1≤1000000000) (fun g=>hi-g.1) (a,d)
  ⟨rfl,G,rfl,rfl,Upd.refl _ _,P⟩ ?_
 rintro I ⟨i,b⟩ t N ⟨J,m,v,n,q,C⟩ T;simp only at J m v n C;subst J;have U:IntKind.wrap .i64 (IntKind.wrap .i64 (2*(i:Int))+1)=((2*i+1:Nat):Int):=by rw[gi (x:=2*(i:Int)) (by omega),gi (by omega)];omega
 have H:IntKind.wrap .i64 (((2*i+1:Nat):Int)+1)=((2*i+2:Nat):Int):=by rw[gi (by omega)];omega
 rw[U];refine aE (fun V=>?_) fun D=>?_
 ·refine L _ ?_ q
  rw[←n,siftDown,dif_pos (by omega)];exact m
 ·have D:2*i+1<hi:=by omega
  refine Join.intro (fun t h'=>SA dec M s h' b∧Upd No N h'∧∃c:Nat,t=(c:Int)∧c=if 2*i+2<hi∧(xY dec) b[first+(2*i+1)]! b[first+(2*i+1)+1]! =true then 2*i+2 else 2*i+1) (fun R O=>?_) ?_
  ·refine Join.intro (fun t h'=>SA dec M s h' b∧Upd No N h'∧(t=true↔2*i+2<hi∧(xY dec) b[first+(2*i+1)]! b[first+(2*i+1)+1]! =true)) (fun R2 w=>?_) ?_
   ·show CondP (decide (IntKind.wrap .i64 (((2*i+1:Nat):Int)+1)<(hi:Int))) _ _
    rw[H];refine aE (fun k=>?_) fun k=>w _ _ ⟨m,Upd.refl _ _,by simp;omega⟩
    show(((0:Int)≤IntKind.wrap .i64 ((first:Int)+((2*i+1:Nat):Int))∧_)∧_)
    refine m.less (i:=first+(2*i+1)) (j:=first+(2*i+1)+1) (by rw[gi (by omega)];omega) (by rw[gi (x:=(first:Int)+_) (by omega),gi (by omega)];omega) (by omega) (by omega) fun h4 X e o F=>w _ _ ⟨e,o,?_⟩
    rw[F];simp;omega
   ·rintro t h' ⟨e,o,p⟩
    refine CondP.intro (fun k=>?_) fun k=>?_
    ·show R (IntKind.wrap .i64 (((2*i+1:Nat):Int)+1)) _
     rw[H];exact O _ _ ⟨e,o,_,rfl,by rw[if_pos (p.1 k)]⟩
    ·exact O _ _ ⟨e,o,_,rfl,by rw[if_neg fun hh=>by rw[p.2 hh]at k;cases k]⟩
  ·rintro t h' ⟨e,o,c,rfl,hc⟩
   have S:c<hi∧i<c:=by rw[hc];split<;>omega
   refine e.less (i:=first+i) (j:=first+c) (by rw[gi (by omega)];omega) (by rw[gi (by omega)];omega) (by omega) (by omega) fun h5 e5 y W B=>?_
   have z:=q.tr (o.tr W).wide;rw[B];have f:siftDown (xY dec) hi first i b=if !(xY dec) b[first+i]! b[first+c]! then b else siftDown (xY dec) hi first c (swp b (first+i) (first+c)):=by
    rw[siftDown,dif_neg (by omega)];by_cases u:2*i+2<hi∧(xY dec) b[first+(2*i+1)]! b[first+(2*i+1)+1]! =true
    ·rw[if_pos (by simp only[aS,decide_eq_true_iff];exact u),dif_pos u.1]
     rw[if_pos u]at hc;rw[hc]
    ·rw[if_neg (by simp only[aS,decide_eq_true_iff];exact u)]
     rw[if_neg u]at hc;rw[hc]
   refine CondP.intro (fun k=>?_) fun k=>?_
   ·refine L _ ?_ z
    rw[←n,f,if_pos k];exact y
   ·refine y.swap (i:=first+i) (j:=first+c) (by rw[gi (by omega)];omega) (by rw[gi (by omega)];omega) (by omega) (by omega) fun Y E A=>?_
    refine T (c,swp b (first+i) (first+c)) _ _ ⟨rfl,E,by simp[v],?_,z.tr A,by simp only;omega⟩ (by simp only;omega)
    rw[←n,f,if_neg (by rw[k];simp)]
end Go.Proofs
namespace Go.Proofs
open Go Go.Lift Go.Sort
variable {dec:Int→Ch} {M:Nat→Prop} {s:SliceV} {h:ac} {d:Array Int}
end Go.Proofs
