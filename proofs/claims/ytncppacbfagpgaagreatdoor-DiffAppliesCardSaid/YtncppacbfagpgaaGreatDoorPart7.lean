/- A part of the proof that the named laws of this program answer true, whatever the input. -/
import Derived.Test.YtncppacbfagpgaaGreatDoorPart6
import Derived.Test.YtncppacbfagpgaaGreatDoorPart4
import Derived.Test.YtncppacbfagpgaaGreatDoorPart2
open ByteArray renaming size_extract→gk
open Int renaming toNat_natCast→aU
open List renaming length_singleton→aE,length_map→dH,length_nil→aG,map_append→d9,map_cons→fp,map_nil→j2,length_append→ac,mem_append_right→df,mem_singleton→aD,pairwise_append→cn,length_cons→ao,drop_one→tB,tail_cons→rO,take_of_length_le→bm,pairwise_singleton→cx,mem_append→bF,mem_append_left→cI,length_eq_zero_iff→ay,mem_cons_self→aw,mem_cons_of_mem→aB,append_nil→aL,append_assoc→ar,mem_map→gi,mem_cons→aA,not_mem_nil→hE,pairwise_cons→aJ,filter_nil→m9,filter_cons→bV,mem_filter→d8,filter_append→fZ,cons_append→cJ,getElem?_cons_zero→cP,getElem?_eq_getElem→af,length_filter_le→fL,length_take→aH,take_succ_eq_append_getElem→aX,getElem?_eq_none→sd,cons→eT
open Nat renaming le_refl→al,lt_of_lt_of_le→aC,zero_le→aS,lt_or_ge→bW,le_trans→bj
open Option renaming some→bR
namespace Go.Proofs
open Go Go.Lift
theorem XB{M:Nat→Prop}{h:ae}{so:SliceV}{out:List (SliceV×SliceV)}{p:SliceV×SliceV}{K:SliceV→ae→Prop}(c:OwnS VT 2 eX M h so out)(hM:∀b,h.size≤b→M b)(g:out.length+1≤1000000000)
  (d:∀s' h',OwnS VT 2 eX M h' s' (out++ [p])→Upd M h h'→K s' h'):
  ∃xs,SRow (hnew h (VT p) eX) (some (aF h)) (1*2) xs∧AppP (some [.slice none 0 0,.slice none 0 0]) 2 48 eX so.a so.len so.cap 1 xs (hnew h (VT p) eX) K:=by
 have k:=Upd.hnew No h (VT p) eX;have e:OwnS VT 2 eX (fun _=>True) (hnew h (VT p) eX) ⟨some (aF h),1,1⟩ [p]:=⟨rfl,W7,al _,.inr ⟨h.size,[],rfl,trivial,cp ..,rfl⟩⟩
 refine⟨_,(e.sl (W:=No) fun _ _ _ h=>h).srow,?_⟩
 refine AppP.own (ys:= [p]) (c.upd k fun _ _ h=>h) rfl rfl rfl rfl (by omega) (by simp only[aE];omega) (hM _ (by rw[iY];omega)) fun s' h' a f=>?_
 exact d s' h' a ((Upd.hnew M h _ _).tr f)
set_option maxHeartbeats 2000000 in
theorem Oq{W G0 C0:Nat→Prop}{x:Hs}{h:ae}{J:Nat}{fs0:List Fr}(cur:CurW W G0 C0 x h J fs0)(hW0:∀b,h.size≤b→W b){K:(ByteArray×ByteArray)×Bool→ae→Prop}
  (hn:∀h',ES x fs0= []→Upd (fun b=>C0 b∨b=J) h h'→K (((⟨#[]⟩:ByteArray),(⟨#[]⟩:ByteArray)),false) h')
  (hs:∀h' u p R G' C',ES x fs0=p::R→ES x u=R→CurW W G' C' x h' J u→(∀b,C' b→C0 b∨h.size≤b)→(∀b,G' b→G0 b∨h.size≤b)→Upd (fun b=>C0 b∨b=J) h h'→K (p,true) h'):
  HC PG qn [.pointer (some ⟨J,0,none⟩)] [.agg [.str,.str],.c .bool] K h:=by
 refine Cu (some ⟨J,0,none⟩) ?_;unfold vy bI cl aK eJ db nv ax lM hP bU abs aaE;refine aW fun h1 b1 k1=>aj.2 ?_
 have z1:=bD b1;obtain⟨s00,d00,hc0,_⟩:=cur.ex;have zc:=bD hc0;have s1:=k1.size;have cur1:=cur.upd k1 (fun _ h=>h.elim) (fun _ _ h=>h) (fun _ _ h=>h) fun h=>h
 refine LoopP.ghost (fun(g:List Fr×(Nat→Prop)×(Nat→Prop)) (_:Unit) h'=>CurW W g.2.1 g.2.2 x h' J g.1∧ES x g.1=ES x fs0∧(∀b,g.2.2 b→(C0 b∨h.size≤b)∧b≠h.size)∧(∀b,g.2.1 b→(G0 b∨h.size≤b)∧b≠h.size)∧h'[h.size]? =some (.cells zPrL.toArray aq (0,0))∧Upd (fun b=>C0 b∨b=J) h h') (fun g=>Gl x g.1) (fs0,G0,C0)
  ⟨cur1,rfl,fun b t=>⟨.inl t,by have:=cur.lt b (.inl t);omega⟩,fun b t=>⟨.inl t,by have:=cur.lt b (.inr t);omega⟩,b1,k1.wide⟩ ?_
 rintro I ⟨fs,G,C⟩ ⟨⟩ h' ⟨v,L,D,Q,bz,hu⟩ hI;simp only at v L D Q;obtain⟨s,d,aP,P⟩:=v.ex;have X:=P.len;rw[dH]at X;have hzs:h.size<h'.size:=bD bz;have zcb:=bD aP;refine⟨_,rfl,s,vc aP 0,?_⟩;refine az (fun hpos=>?_) fun hnp=>?_
 ·obtain⟨u,f,rfl⟩:∃u f,fs=u++ [f]:=by
   rcases AL fs with rfl|⟨l',y,e⟩
   ·simp only[aG]at X;omega
   ·exact⟨l',y,e⟩
  rw[d9,fp,j2]at P;rw[ac,aE]at X;have h14:=WV (n:=13) v.lv fun f hf=>(v.ok f hf).n13
  rw[ac,aE]at h14;have eidx:IntKind.wrap .i64 ((s.len:Int)-1)=((u.length:Nat):Int):=by rw[fx (by omega)];omega
  obtain⟨a,ha,hv⟩:=fG P (i:=u.length) (by rw[dH]);have V:=v.ok f (df _ (aD.2 rfl));have hpl:=V.p.len;have Z:=V.k.len;rw[dH]at Z;have hpc:=V.pc;have hkc:=V.kc;have hcap:=P.cap;refine⟨_,rfl,s,vc aP 0,_,rfl,s,vc aP 0,?_⟩;rw[eidx];refine⟨⟨by omega,by omega⟩,a,ha,_,rfl,f.sp,hv 0 _ rfl,?_⟩
  have keep:∀{h2:ae} {M:Nat→Prop},Upd M h' h2→(∀b,M b→C b∨b=J∨b=h.size∨h'.size≤b)→∀{g:Fr},g.Ok W G x h'→g.Ok W G x h2:=fun{h2 M} k hM {g} o=>o.upd k (fun b t=>by
   rcases hM b t with h|h|h|h
   ·exact .inl (v.cw.1 b h)
   ·exact .inl (by rw[h];exact v.cw.2)
   ·exact .inl (by rw[h];exact hW0 _ (al _))
   ·exact .inr h) fun b t=>by
   rcases hM b t with h|h|h|h
   ·exact .inl fun N=>(v.dj b N).1 h
   ·exact .inl fun N=>(v.dj b N).2 h
   ·exact .inl fun N=>(Q b N).2 h
   ·exact .inr h
  have U:=cn.1 v.lv;have hrs:=AB x u f;have hcs:=Cq x u f;refine az (fun hp=>?_) fun hp=>?_
  ·
   rcases O:f.ps with _|⟨p,ps⟩
   ·rw[O]at hpl;simp only[aG]at hpl;omega
   have fop:=V.p;rw[O]at fop hpl;simp only[ao]at hpl;obtain⟨ap,hap,_,hvp⟩:=fop.at (i:=0) (x:=p) rfl;refine⟨_,rfl,f.sp,hv 0 _ rfl,⟨by omega,by omega⟩,ap,hap,p.1,hvp 0 _ rfl,p.2,hvp 1 _ rfl,?_⟩
   refine Il (p:=p) fun h8 b8 k8=>?_
   have z8:=bD b8;have hst8:=P.upd k8 fun _ _ h=>h
   obtain⟨a',ha',hv8⟩:=fG hst8 (i:=u.length) (by rw[dH]);rw[ha]at ha';cases ha';refine⟨_,rfl,f.sp,hv8 0 _ rfl,⟨by omega,by omega⟩,_,rfl,?_⟩
   let T:Fr:=⟨⟨bh f.sp.a 1 f.sp.cap 2,f.sp.len-1,f.sp.cap-1⟩,f.sk,f.n,ps,f.ks⟩
   refine Tl hst8 (y:=T.raw) (j:=0) (by omega) rfl ha (by simp) fun h9 ho9 S=>?_
   have c9:=S.get (k8.get0 aP) v.cc;refine⟨_,rfl,s,vc c9 0,_,rfl,?_⟩;refine qN (i:=1) (c':=abg s (s.len:Int)) c9 (show 1<2 by decide) rfl fun h10 c10 z=>?_
   have hCh:∀b,C b→b<h'.size:=fun b t=>v.lt b (.inl t)
   have b9:=S.get b8 fun hx=>by have:=hCh _ hx;omega
   have b10:=z.oth b9 (by omega);refine⟨_,vc b10 0,_,vc b10 1,?_⟩;have bz10:=z.oth (S.get (k8.get0 bz) fun hx=>(D _ hx).2 rfl) (by omega)
   refine cU (c:=zPrL) (vs:= [.string p.1,.string p.2]) bz10 rfl fun H b11 A=>?_
   refine⟨_,vc b11 0,_,vc b11 1,?_⟩;have c11:=A.oth c10 (by omega);have w:Upd (fun b=>C b∨b=J∨b=h.size∨h'.size≤b) h' H:=((k8.wide.trans S fun b t=>.inl (.inl t)).trans z fun b t=>.inl (.inr (.inl t))).trans A fun b t=>.inl (.inr (.inr (.inl t)))
   have ho11:OwnS VT 2 eX C H s ((u++ [T]).map Fr.raw):=by
    rw[d9,fp,j2];exact(ho9.upd z fun b t e=>by have e:b=J:=e;rw[e]at t;exact v.cc t).upd A fun b t e=>(D b t).2 e
   have fo':T.Ok W G x H:=by
    have o:=keep w (fun b t=>t) V
    refine⟨?_,o.k,by show f.sp.len-1≤f.sp.cap-1;omega,o.kc,o.t,o.n0,o.n13⟩
    have op:=o.p;rw[O]at op;have:=Sl.sub op (l:=1) (hi:=(p::ps).length) (m:=f.sp.cap) (c:=f.sp.cap-1) (by simp) (al _) (by simp only[ao];omega);rw[tB,rO,bm (by simp)]at this;have e:(p::ps).length-1=f.sp.len-1:=by simp only[ao];omega
    rw[e]at this;exact this
   refine hs H (u++ [T]) p (T.rem x++ES x u) G C ?_ (AB x u T) ⟨⟨s,_,c11,ho11⟩,fun g N=>?_,fun b t=>aC (v.lt b t) w.size,v.dj,v.cc,v.cw,cn.2 ⟨U.1,cx ..,fun g N g' E=>by rw[aD.1 E];exact U.2.2 g N f (aD.2 rfl)⟩⟩ (fun b t=>(D b t).1) (fun b t=>(Q b t).1) ?_
   ·rw[←L,hrs]
    unfold Fr.rem;rw[O];rfl
   ·rcases bF.1 N with N|N
    ·exact keep w (fun b t=>t) (v.ok g (cI _ N))
    ·rw[aD.1 N];exact fo'
   ·refine hu.trans w fun b t=>?_
    rcases t with h|h|h|h
    ·exact(D b h).1.imp .inl id
    ·exact .inl (.inr h)
    ·exact .inr (by omega)
    ·exact .inr (by omega)
  ·have O:f.ps= []:=ay.1 (by omega)
   refine⟨_,rfl,f.sk,hv 1 _ rfl,?_⟩;refine az (fun hk=>?_) fun hk=>?_
   ·
    rcases F:f.ks with _|⟨kd,ks⟩
    ·rw[F]at Z;simp only[aG]at Z;omega
    have fok:=V.k;rw[F]at fok Z;simp only[ao]at Z;rw[fp]at fok;obtain⟨ap,hap,_,hvp⟩:=fok.at0 (i:=0) (x:=Pm kd) rfl;have hfn:0<f.n:=V.n0 (by rw[F];simp);have hf13:=V.n13;refine⟨_,rfl,f.sk,hv 1 _ rfl,⟨by omega,by omega⟩,ap,hap,_,hvp,_,rfl,f.sk,hv 1 _ rfl,⟨by omega,by omega⟩,_,rfl,?_⟩
    let T:Fr:=⟨f.sp,⟨bh f.sk.a 1 f.sk.cap 1,f.sk.len-1,f.sk.cap-1⟩,f.n,f.ps,ks⟩
    refine Tl P (y:=T.raw) (j:=1) (by omega) rfl ha (by simp) fun h8 ho8 B=>?_
    have c8:=B.get aP v.cc;have hall8:Upd (fun b=>C b∨b=J∨b=h.size∨h'.size≤b) h' h8:=B.mono fun b t=>.inl (.inl t)
    have s8:=B.size;refine⟨_,rfl,s,vc c8 0,?_⟩;have fo8:=keep hall8 (fun b t=>t) V
    obtain⟨tk,hkn⟩:=fo8.t kd (by rw[F];exact aw ..);refine Lj tk (by omega) hkn fun h9 g hgn hgr hgc go k9=>?_
    have c9:=k9.get0 c8;have s9:=k9.size;refine⟨vc c9 0,bP ⟨vc ((Upd.hnew No h9 (VT g.raw) eX).get0 c9) 0,?_⟩⟩;have hC9:∀b,C b→b<h9.size:=fun b t=>by have:=v.lt b (.inl t);omega
    refine XB (M:=fun b=>C b∨h9.size≤b) (p:=g.raw) ((ho8.upd k9 fun _ _ h=>h).more fun b t=>.inl t) (fun b t=>.inr t) (by rw[ac,dH,aE];omega) fun ZW h10 ho10 z=>?_
    have s10':=z.size;have c10:=z.get c9 (by rintro(hx|hx);exact v.cc hx;omega)
    refine⟨_,rfl,?_⟩;refine qN (i:=0) (c':=abg ZW d) c10 (show 0<2 by decide) rfl fun H c11 A=>?_
    have s11:=A.size;have w:Upd (fun b=>C b∨b=J∨b=h.size∨h'.size≤b) h' H:=((hall8.tr k9.wide).trans z fun b t=>t.elim (fun h=>.inl (.inl h)) fun h=>.inr (by omega)).trans A fun b t=>.inl (.inr (.inl t))
    have bz11:=A.oth (z.get (k9.get0 (B.get bz fun hx=>(D _ hx).2 rfl)) (by rintro(hx|hx);exact(D _ hx).2 rfl;omega)) (by omega)
    have hGl:∀b,G b→b<h'.size:=fun b t=>v.lt b (.inr t)
    refine hI (u++ [T]++ [g],fun b=>G b∨(h8.size≤b∧b<h9.size),fun b=>(C b∨h9.size≤b)∧b<h10.size) () H ⟨⟨⟨ZW,d,c11,?_⟩,fun g' E=>?_,fun b t=>?_,fun b t=>?_,fun t=>?_,⟨fun b t=>?_,v.cw.2⟩,?_⟩,?_,fun b t=>?_,fun b t=>?_,bz11,?_⟩ ?_
    ·rw[d9,d9,fp,j2,fp,j2]
     exact ho10.within.upd A fun b t e=>by
      have e:b=J:=e;rw[e]at t;rcases t.1 with h|h
      ·exact v.cc h
      ·omega
    ·have Y:∀{q:Fr},q.Ok W G x H→q.Ok W (fun b=>G b∨(h8.size≤b∧b<h9.size)) x H:=fun o=>o.sub fun b t=>.inl t
     rcases bF.1 E with E|E
     ·rcases bF.1 E with E|E
      ·exact Y (keep w (fun b t=>t) (v.ok g' (cI _ E)))
      ·rw[aD.1 E]
       have o:=keep w (fun b t=>t) V
       refine Y ⟨o.p,?_,o.pc,by show f.sk.len-1≤f.sk.cap-1;omega,fun q hq=>o.t q (by rw[F];exact aB _ hq),fun _=>hfn,hf13⟩
       have op:=o.k;rw[F,fp]at op;have:=Sl.sub op (l:=1) (hi:=(Pm kd::ks.map Pm).length) (m:=f.sk.cap) (c:=f.sk.cap-1) (by simp) (al _) (by simp only[ao,dH];omega);rw[tB,rO,bm (by simp)]at this;have e:(Pm kd::ks.map Pm).length-1=f.sk.len-1:=by simp only[ao,dH];omega
       rw[e]at this;exact this
     ·rw[aD.1 E]
      have o1:=go.upd z (fun b t=>t.elim (fun h=>.inl (v.cw.1 b h)) .inr) fun b t=>t.elim (fun h=>.inl fun N=>by have:=v.lt b (.inl h);omega) .inr
      have o2:=o1.upd A (fun b t=>.inl (by have t:b=J:=t;rw[t];exact v.cw.2)) fun b t=>.inl fun N=>by have t:b=J:=t;omega
      exact o2.sub fun b t=>.inr t
    ·rcases t with t|t|t
     ·omega
     ·have:=hGl b t;omega
     ·omega
    ·refine⟨fun hc=>?_,fun e=>?_⟩
     ·rcases t with t|t
      ·rcases hc.1 with h|h
       ·exact(v.dj b t).1 h
       ·have:=hGl b t;omega
      ·rcases hc.1 with h|h
       ·have:=v.lt b (.inl h);omega
       ·omega
     ·subst e
      rcases t with t|t
      ·exact(v.dj _ t).2 rfl
      ·omega
    ·rcases t.1 with h|h
     ·exact v.cc h
     ·omega
    ·rcases t.1 with h|h
     ·exact v.cw.1 b h
     ·exact hW0 b (by omega)
    ·refine cn.2 ⟨cn.2 ⟨U.1,cx ..,fun q hq q' hq'=>by rw[aD.1 hq'];exact U.2.2 q hq f (aD.2 rfl)⟩,cx ..,fun q hq q' hq'=>?_⟩
     rw[aD.1 hq',hgn];rcases bF.1 hq with hq|hq
     ·have:=U.2.2 q hq f (aD.2 rfl);omega
     ·rw[aD.1 hq];show f.n-1<f.n;omega
    ·rw[AB,AB,←L,hrs,hgr]
     unfold Fr.rem;rw[O,F,List.flatMap_cons];simp;rfl
    ·refine⟨?_,?_⟩
     ·rcases t.1 with h|h
      ·exact(D b h).1
      ·exact .inr (by omega)
     ·rcases t.1 with h|h
      ·exact(D b h).2
      ·omega
    ·refine⟨?_,?_⟩
     ·rcases t with h|h
      ·exact(Q b h).1
      ·exact .inr (by omega)
     ·rcases t with h|h
      ·exact(Q b h).2
      ·omega
    ·refine hu.trans w fun b t=>?_
     rcases t with h|h|h|h
     ·exact(D b h).1.imp .inl id
     ·exact .inl (.inr h)
     ·exact .inr (by omega)
     ·exact .inr (by omega)
    ·show Gl x (u++ [T]++ [g])<Gl x (u++ [f])
     rw[Cq,Cq,hcs];have e1:f.cost x=T.cost x+cw x (f.n-1) kd.2:=by
      unfold Fr.cost;rw[F,fp,List.sum_cons];have e0:(T.ks.map fun k=>cw x (T.n-1) k.2).sum=(ks.map fun k=>cw x (f.n-1) k.2).sum:=rfl
      omega
     omega
   ·
    have F:f.ks= []:=ay.1 (by omega);refine⟨_,rfl,s,vc aP 0,_,rfl,s,vc aP 0,?_⟩;rw[eidx];refine⟨⟨by omega,by omega⟩,?_⟩
    simp only[Bd];refine⟨_,rfl,?_⟩;refine qN (i:=0) (c':=abg ⟨bh s.a 0 s.cap 2,u.length,s.cap⟩ d) aP (show 0<2 by decide) rfl fun h8 c8 B=>?_
    have hpop:=OwnS.pop P;rw[dH]at hpop;have w:Upd (fun b=>C b∨b=J∨b=h.size∨h'.size≤b) h' h8:=B.mono fun b t=>.inl (.inr (.inl t))
    refine hI (u,G,C) () h8 ⟨⟨⟨_,d,c8,hpop.upd B fun b t e=>by have e:b=J:=e;rw[e]at t;exact v.cc t⟩,fun g N=>keep w (fun b t=>t) (v.ok g (cI _ N)),fun b t=>aC (v.lt b t) w.size,v.dj,v.cc,v.cw,U.1⟩,?_,D,Q,B.oth bz (by omega),hu.trans B fun b t=>.inl (.inr t)⟩ ?_
    ·rw[←L,hrs]
     unfold Fr.rem;rw[O,F];rfl
    ·show Gl x u<Gl x (u++ [f])
     rw[hcs];unfold Fr.cost;omega
 ·have h0:fs= []:=ay.1 (by omega)
  subst h0;refine⟨_,rfl,?_⟩;refine qN (i:=1) (c':=abg s 0) aP (show 1<2 by decide) rfl fun h8 c8 B=>?_
  refine cU (c:=zPrL) (vs:=zPrL) (B.oth bz (by omega)) rfl fun h9 b9 S=>?_
  refine⟨_,vc b9 0,_,vc b9 1,hn h9 L.symm ((hu.trans B fun b t=>.inl (.inr t)).trans S fun b t=>.inr (Nat.le_of_eq (Eq.symm t)))⟩
end Go.Proofs
namespace Go.Proofs
open Go Go.Lift
def Below(W:Nat→Prop)(x:Hs)(h:ae)(m:Nat)(r:Option Addr)(l:List Pr):Prop:=(r=none∧l= [])∨∃b,r=some ⟨b,0,none⟩∧TrieAt W x h m b l
theorem Below.upd0{W:Nat→Prop}{x:Hs}{h h':ae}{m:Nat}{r:Option Addr}{l:List Pr}(k:Upd No h h')(t:Below W x h m r l):Below W x h' m r l:=t.imp id fun⟨b,e,t⟩=>⟨b,e,TrieAt.upd0 k t⟩
theorem Below.less{W W':Nat→Prop}{x:Hs}{h:ae}{m:Nat}{r:Option Addr}{l:List Pr}(hm:∀b,W' b→W b∨h.size≤b)(t:Below W x h m r l):Below W' x h m r l:=t.imp id fun⟨b,e,t⟩=>⟨b,e,TrieAt.less hm t⟩
theorem Below.updM{W M:Nat→Prop}{x:Hs}{h h':ae}{m:Nat}{r:Option Addr}{l:List Pr}(k:Upd M h h')(hm:∀b,M b→W b∨h.size≤b)(t:Below W x h m r l):Below W x h' m r l:=t.imp id fun⟨b,e,t⟩=>⟨b,e,TrieAt.updM k hm t⟩
theorem ZH(x:Hs):∀m,wl x m []= []
 |0=>rfl
 |m+1=>ay.1 (Nat.le_zero.1 (MD x (m+1) []))
theorem QD{W:Nat→Prop}{x:Hs}{h:ae}{m:Nat}{r:Option Addr}{l:List Pr}(t:Below W x h m r l)(hm:m≤13)(j:l.length≤100000){K:SliceV×SliceV→ae→Prop}
  (a:∀h' f,Fr.rem x f=wl x m l→f.Ok W (fun y=>h.size≤y∧y<h'.size) x h'→Upd No h h'→K f.raw h'):HC PG xB [.pointer r] [.agg [.slice,.slice]] K h:=by
 rcases t with⟨rfl,rfl⟩|⟨b,rfl,t⟩
 ·refine Mr none ?_
  unfold FG cT eJ MH aaE;refine aW fun n b1 k1=>?_
  refine wt none ?_;unfold rE bU;refine au.2 (xL none ?_);unfold sP bU;refine au.2 ?_;refine cU (c:= [.slice none 0 0,.slice none 0 0]) (vs:= [.slice none 0 0,.slice none 0 0]) b1 rfl fun d g e=>?_
  refine⟨⟨none,0,0⟩,vc g 0,⟨none,0,0⟩,vc g 1,?_⟩;refine a d ⟨⟨none,0,0⟩,⟨none,0,0⟩,0,[],[]⟩ ?_ ⟨Sl.nil gq,Sl.nil ui,al _,al _,fun k a=>(by cases a),fun h=>absurd rfl h,aS _⟩ (k1.own e (al _))
  rw[ZH];rfl
 ·exact Lj t hm j fun h' f _ h2 _ d i=>a h' f h2 d i
theorem QE{W:Nat→Prop}{x:Hs}{h:ae}{m:Nat}{r:Option Addr}{l:List Pr}(t:Below W x h m r l)(hm:m≤13)(u:l.length≤100000)(i:∀y,h.size≤y→W y){K:Option Addr→ae→Prop}
  (q:∀h' cb f G C,h.size≤cb→(∀y,G y∨C y→h.size≤y)→CurW W G C x h' cb [f]→f.rem x=wl x m l→Upd No h h'→K (some ⟨cb,0,none⟩) h'):HC PG Cg [.pointer r] [.c .ptr] K h:=by
 refine Su r ?_;unfold Ju abs;refine QD t hm u fun h2 f d o j=>?_
 refine aW fun e b3 c=>aW fun s k b=>?_
 have w:=bD b3;have z:=bD k;have v:=j.size;have A:=c.size;have n:OwnS VT 2 eX (fun y=>y=h2.size) e ⟨some (aF h2),1,1⟩ [f.raw]:=⟨rfl,W7,al _,.inr ⟨h2.size,[],rfl,rfl,b3,rfl⟩⟩
 refine q s e.size f (fun y=>h.size≤y∧y<h2.size) (fun y=>y=h2.size) (by omega) (fun y a=>by rcases a with h|h<;>omega) ⟨⟨_,0,k,n.upd b fun _ _ h=>h⟩,fun g p=>?_,fun y a=>by rcases a with h|h<;>omega,fun y a=>⟨by omega,by omega⟩,by omega,⟨fun y a=>i y (by omega),i _ (by omega)⟩,cx ..⟩ d ((j.tr c).tr b)
 rw[aD.1 p];exact o.upd (c.tr b) (fun _ h=>h.elim) fun _ h=>h.elim
theorem QF{W:Nat→Prop}{x:Hs}{h:ae}{m:Nat}{r:Option Addr}{l:List Pr}(t:Below W x h m r l)(hm:m≤13)(hn:l.length≤100000){K:Value→ae→Prop}
  (hk:∀fv h',Gives PG fv aal l.length (fun xs=>xs=wl x m l) (fun y=>y<h'.size) h'→Upd No h h'→K fv h'):HC PG Ci [.pointer r] [.c .raw] K h:=by
 refine Sv r ?_;unfold Jv;refine aW fun z b1 k1=>?_
 have z1:=bD b1;refine hk _ z ?_ k1;have t1:=Below.less (W':=fun y=>z.size≤y) (fun y a=>.inr a) (Below.upd0 k1 t)
 have hwl:=MD x m l;refine⟨fun y a=>a,uQ,#[],_,rfl,fun y J A M T K' v hj hu hq ha hk'=>?_⟩
 refine KZ y (aF h) ?_;unfold yK nv ax lM vN qO;have d1:=hu.get b1 (hq _ z1);have s4:=hu.size;have t4:Below (fun y=>z.size≤y) x T m r l:=Below.updM hu (fun y a=>.inl (by
  rcases bW y z.size with F|F
  ·exact absurd a (hq y F)
  ·exact F)) t1
 refine⟨_,bH d1,?_⟩;refine QE t4 hm hn (fun y a=>bj s4 a) fun h5 X f G C hcb E cur hfr k5=>?_
 have k:=v.lt _ _ _ hj;have hA3:∀y,A y→z.size≤y:=fun y a=>by
  rcases bW y z.size with F|F
  ·exact absurd F (ha y a)
  ·exact F
 have s5:=k5.size;have O:ES x [f]=wl x m l:=by rw[←hfr];simp[ES]
 refine LoopP.ghost (fun(g:List Pr×List Fr×(Nat→Prop)×(Nat→Prop)×(Nat→Prop)) (_:Unit) h'=>CurW (fun y=>z.size≤y) g.2.2.2.1 g.2.2.2.2 x h' X g.2.1∧J g.1 g.2.2.1 h'∧Upd A T h'∧(∀y,g.2.2.1 y→(A y∨T.size≤y)∧¬g.2.2.2.1 y∧¬g.2.2.2.2 y∧y≠X)∧(∀y,g.2.2.2.1 y∨g.2.2.2.2 y→T.size≤y)∧g.1++ES x g.2.1=wl x m l∧h5.size≤h'.size) (fun g=>(ES x g.2.1).length) ([],[f],A,G,C)
  ⟨cur,v.keep _ _ _ _ No hj k5 (fun _ _ h=>h),k5.wide,fun y a=>⟨.inl a,fun hx=>by have:=k y a;have:=E y (.inl hx);omega,fun hx=>by have:=k y a;have:=E y (.inr hx);omega,fun e=>by have:=k y a;omega⟩,E,by rw[O];rfl,al _⟩ ?_
 rintro I ⟨pre,fs,A1,G1,C1⟩ ⟨⟩ h' ⟨cu,o,hu',b,i,c,hsz⟩ hI;simp only at cu o b i c;have w:=v.lt _ _ _ o;have hA1W:∀y,A1 y→z.size≤y:=fun y a=>(b y a).1.elim (hA3 y) fun h=>by omega
 have hd:∀y,A1 y→¬(C1 y∨y=X):=fun y a hx=>hx.elim (b y a).2.2.1 (b y a).2.2.2
 have Y:∀y,C1 y∨y=X→T.size≤y:=fun y a=>a.elim (fun h=>i y (.inr h)) fun e=>by omega
 refine Oq cu (fun y a=>by omega) (fun h6 hr0 j=>?_) fun h6 fs' p R G' C' Q Z u V hG' j=>?_
 ·have N:=v.keep _ _ _ _ _ o j hd
  refine uB fun U b7 P=>?_
  refine Join.intro (fun t q=>t=true∧q=U) (fun R hR=>au.2 (hR _ _ ⟨rfl,rfl⟩)) ?_
  rintro t q ⟨rfl,rfl⟩;refine au.2 (hk' pre A1 q ?_ (v.keep _ _ _ _ No N P (fun _ _ h=>h)) ?_ fun y a=>(b y a).1)
  ·rw[hr0,aL]at c
   exact c
  ·exact(hu'.trans j fun y a=>.inr (Y y a)).tr P.wide
 ·have N:=v.keep _ _ _ _ _ o j hd
  refine uB (p:=p) fun U b7 P=>?_
  have hj7:=v.keep _ _ _ _ No N P (fun _ _ h=>h)
  have cu7:=u.upd P (fun _ h=>h.elim) (fun _ _ h=>h) (fun _ _ h=>h) fun h=>h
  have hu47:Upd A T U:=(hu'.trans j fun y a=>.inr (Y y a)).tr P.wide
  have s6:=j.size;have s7:=P.size;refine Join.intro (fun t q=>t=false∧∃S,J (pre++ [p]) S q∧Upd A1 U q∧∀y,S y→A1 y∨U.size≤y) (fun R' hR=>?_) ?_
  ·refine aj.2 ⟨_,vc b7 0,_,vc b7 1,?_⟩
   refine v.step pre A1 U p _ hj7 ?_ fun q S H n L=>hR _ _ ⟨rfl,S,H,n,L⟩
   have:=congrArg List.length c;rw[Q]at this;simp only[ac,ao]at this;omega
  ·rintro t q ⟨rfl,S,H,n,L⟩
   have B:∀y,G' y→¬A1 y:=fun y a hx=>(hG' y a).elim (b y hx).2.1 fun h=>by have:=w y hx;omega
   have D:∀y,C' y→¬A1 y:=fun y a hx=>(V y a).elim (b y hx).2.2.1 fun h=>by have:=w y hx;omega
   have hcb6:X<h6.size:=by obtain⟨s,d,hx,_⟩:=u.ex;exact bD hx
   refine aj.2 (hI (pre++ [p],fs',S,G',C') () q ⟨?_,H,?_,fun y a=>?_,fun y a=>?_,?_,by have:=n.size;omega⟩ ?_)
   ·exact cu7.upd n (fun y a=>.inl (hA1W y a)) D B fun hx=>(b _ hx).2.2.2 rfl
   ·exact hu47.trans n fun y a=>(b y a).1
   ·rcases L y a with h|h
    ·exact⟨(b y h).1,fun hx=>B y hx h,fun hx=>D y hx h,(b y h).2.2.2⟩
    ·exact⟨.inr (by omega),fun hx=>by have:=u.lt y (.inr hx);omega,fun hx=>by have:=u.lt y (.inl hx);omega,by omega⟩
   ·rcases a with a|a
    ·rcases hG' y a with h|h
     ·exact i y (.inl h)
     ·omega
    ·rcases V y a with h|h
     ·exact i y (.inr h)
     ·omega
   ·simp only
    rw[ar,Z,←c,Q];rfl
   ·simp only
    rw[Q,Z];simp
theorem Ke{W W':Nat→Prop}{x:Hs}{h:ae}{m:Nat}{r:Option Addr}{l:List Pr}(t:Below W x h m r l)(hm:m≤13)(i:cf l)(s:l.length≤100000)(c:∀y,W' y→y<h.size){K:SliceV→ae→Prop}
  (o:∀s' h',Sl eC 2 W' h' s' l→s'.len≤s'.cap→Upd No h h'→K s' h'):HC PG w6 [.pointer r] [.c .slice] K h:=by
 refine KE r ?_;unfold Bz;refine QF t hm s fun v h2 k d=>?_
 refine PN k (by omega) fun z w xs e j f=>?_
 subst e;have u:=MD x m l;refine Uo (W':=W') (j.sl (W:=No) fun _ _ _ h=>h) (fun y n=>aC (c y n) (d.tr f).size) (by omega) fun p q a b g=>?_
 rw[ZV i]at a;exact o p q a b ((d.tr f).tr g)
end Go.Proofs
namespace Go.Proofs
open Go.Lift
abbrev Ch:=ByteArray×ByteArray×ByteArray×Bool×Bool
abbrev pk(c:Ch):List Value:= [.string c.1,.string c.2.1,.string c.2.2.1,.bool c.2.2.2.1,.bool c.2.2.2.2]
def PT(p:Pr):Ch:=(p.1,p.2,⟨#[]⟩,true,false)
def ZE(p:Pr):Ch:=(p.1,⟨#[]⟩,p.2,false,true)
def me:List Pr→List Pr→List Ch
 | [],B=>B.map ZE
 |a::A,[]=>PT a::me A []
 |a::A,b::B=>if kl a.1 b.1 then PT a::me A (b::B)else if kl b.1 a.1 then ZE b::me (a::A) B else if a.2=b.2 then me A B else(a.1,a.2,b.2,true,true)::me A B
termination_by A B=>A.length+B.length
theorem kF(B:List Pr):me [] B=B.map ZE:=by unfold me;rfl
theorem xG:∀A:List Pr,me A []=A.map PT
 | []=>by rw[kF];rfl
 |a::A=>by unfold me;rw[xG A];rfl
theorem tU(a b:Pr)(A B:List Pr):me (a::A) (b::B)=if kl a.1 b.1 then PT a::me A (b::B)else if kl b.1 a.1 then ZE b::me (a::A) B else if a.2=b.2 then me A B else(a.1,a.2,b.2,true,true)::me A B:=by
 conv=>lhs;unfold me
theorem Iw{a b:ByteArray}(h:kl a b):¬kl b a:=fun k=>cr _ (gJ h k)
theorem xI{a:Pr}{A:List Pr}:∀{B:List Pr},(∀q∈B,kl a.1 q.1)→me (a::A) B=PT a::me A B
 | [],_=>by rw[xG,xG];rfl
 |b::B,h=>by rw[tU,if_pos (h b (aw ..))]
theorem xH{b:Pr}{B:List Pr}:∀{A:List Pr},(∀q∈A,kl b.1 q.1)→me A (b::B)=ZE b::me A B
 | [],_=>by rw[kF,kF];rfl
 |a::A,h=>by
  have h:=h a (aw ..);rw[tU,if_neg (Iw h),if_pos h]
theorem DI:∀A:List Pr,me A A= []
 | []=>by rw[kF];rfl
 |a::A=>by rw[tU,if_neg (cr _),if_neg (cr _),if_pos rfl,DI A]
def A0(a b:Pr):List Ch:=if a.2=b.2 then[]else[(a.1,a.2,b.2,true,true)]
theorem vt{a b:Pr}(e:a.1=b.1)(A B:List Pr):me (a::A) (b::B)=A0 a b++me A B:=by
 rw[tU,e,if_neg (cr _),if_neg (cr _)];unfold A0;split
 ·rfl
 ·rw[←e];rfl
theorem AN:∀{A B:List Pr} {c:Ch},c∈me A B→∃p,p∈A++B∧c.1=p.1
 | [],B,c,h=>by
  rw[kF]at h;obtain⟨p,d,e⟩:=gi.1 h;exact⟨p,d,by rw[←e];rfl⟩
 |a::A,[],c,h=>by
  rw[xG]at h;obtain⟨p,d,e⟩:=gi.1 h;exact⟨p,cI _ d,by rw[←e];rfl⟩
 |a::A,b::B,c,h=>by
  rw[tU]at h;by_cases g:kl a.1 b.1
  ·rw[if_pos g]at h
   rcases aA.1 h with h|h
   ·exact⟨a,aw ..,by rw[h];rfl⟩
   ·obtain⟨p,d,e⟩:=AN h
    exact⟨p,aB _ d,e⟩
  ·rw[if_neg g]at h
   by_cases h2:kl b.1 a.1
   ·rw[if_pos h2]at h
    rcases aA.1 h with h|h
    ·exact⟨b,df _ (aw ..),by rw[h];rfl⟩
    ·obtain⟨p,d,e⟩:=AN h
     refine⟨p,?_,e⟩;rcases bF.1 d with d|d
     ·exact cI _ d
     ·exact df _ (aB _ d)
   ·rw[if_neg h2]at h
    have f:c∈me A B→∃p,p∈a::A++b::B∧c.1=p.1:=fun h=>by
     obtain⟨p,d,e⟩:=AN h;refine⟨p,?_,e⟩;rcases bF.1 d with d|d
     ·exact cI _ (aB _ d)
     ·exact df _ (aB _ d)
    split at h
    ·exact f h
    ·rcases aA.1 h with h|h
     ·exact⟨a,aw ..,by rw[h]⟩
     ·exact f h
termination_by A B=>A.length+B.length
theorem qV{P:List Pr→List Pr→Prop}(nil:P [] [])(d:∀a A B,cf (a::A)→cf B→(∀q∈B,kl a.1 q.1)→P A B→P (a::A) B)
  (c:∀b A B,cf A→cf (b::B)→(∀q∈A,kl b.1 q.1)→P A B→P A (b::B))(same:∀a b A B,a.1=b.1→cf (a::A)→cf (b::B)→P A B→P (a::A) (b::B)):
  ∀{A B:List Pr},cf A→cf B→P A B
 | [],[],_,_=>nil
 | [],b::B,hA,hB=>c b [] B hA hB (fun _ h=>absurd h hE) (qV nil d c same hA (aJ.1 hB).2)
 |a::A,[],hA,hB=>d a A [] hA hB (fun _ h=>absurd h hE) (qV nil d c same (aJ.1 hA).2 hB)
 |a::A,b::B,hA,hB=>by
  have g:=aJ.1 hA;have i:=aJ.1 hB;by_cases k:kl a.1 b.1
  ·refine d a A (b::B) hA hB (fun q f=>?_) (qV nil d c same g.2 hB)
   rcases aA.1 f with f|f
   ·rw[f];exact k
   ·exact gJ k (i.1 q f)
  ·by_cases h2:kl b.1 a.1
   ·refine c b (a::A) B hA hB (fun q f=>?_) (qV nil d c same hA i.2)
    rcases aA.1 f with f|f
    ·rw[f];exact h2
    ·exact gJ h2 (g.1 q f)
   ·have e:a.1=b.1:=Decidable.byContradiction fun j=>h2 (ql k j)
    exact same a b A B e hA hB (qV nil d c same g.2 i.2)
termination_by A B=>A.length+B.length
abbrev sO(l:List Ch):Prop:=l.Pairwise fun p q=>kl p.1 q.1
theorem Q1{A B:List Pr}(g:cf A)(f:cf B):sO (me A B):=by
 refine qV (P:=fun A B=>sO (me A B)) ?_ (fun a A B g _ h i=>?_) (fun b A B _ f h i=>?_) (fun a b A B e g f i=>?_) g f
 ·rw[kF];exact .nil
 ·rw[xI h]
  refine aJ.2 ⟨fun c hc=>?_,i⟩
  obtain⟨p,d,e⟩:=AN hc;rw[e];rcases bF.1 d with d|d
  ·exact(aJ.1 g).1 p d
  ·exact h p d
 ·rw[xH h]
  refine aJ.2 ⟨fun c hc=>?_,i⟩
  obtain⟨p,d,e⟩:=AN hc;rw[e];rcases bF.1 d with d|d
  ·exact h p d
  ·exact(aJ.1 f).1 p d
 ·rw[vt e]
  unfold A0;split
  ·exact i
  ·refine aJ.2 ⟨fun c hc=>?_,i⟩
   obtain⟨p,d,j⟩:=AN hc;rw[j];rcases bF.1 d with d|d
   ·exact(aJ.1 g).1 p d
   ·rw[e];exact(aJ.1 f).1 p d
theorem Sc(g:ByteArray→Bool){A B:List Pr}(f:cf A)(j:cf B):me (A.filter fun p=>g p.1) (B.filter fun p=>g p.1)=(me A B).filter fun c=>g c.1:=by
 refine qV (P:=fun A B=>me (A.filter fun p=>g p.1) (B.filter fun p=>g p.1)=(me A B).filter fun c=>g c.1) ?_ (fun a A B f _ h i=>?_) (fun b A B _ j h i=>?_) (fun a b A B e f j i=>?_) f j
 ·rw[m9,kF];rfl
 ·rw[xI h,bV,bV,←i]
  show me (if g a.1=true then _ else _) _=if g a.1=true then _ else _
  by_cases d:g a.1=true
  ·rw[if_pos d,if_pos d,xI fun q k=>h q (d8.1 k).1]
  ·rw[if_neg d,if_neg d]
 ·rw[xH h,bV,bV,←i]
  show me _ (if g b.1=true then _ else _)=if g b.1=true then _ else _
  by_cases d:g b.1=true
  ·rw[if_pos d,if_pos d,xH fun q k=>h q (d8.1 k).1]
  ·rw[if_neg d,if_neg d]
 ·rw[vt e,fZ,←i,bV,bV,←e]
  unfold A0;by_cases d:g a.1=true
  ·rw[if_pos d,if_pos d,vt e]
   unfold A0;split
   ·rfl
   ·rw[bV,if_pos d];rfl
  ·rw[if_neg d,if_neg d]
   split
   ·rfl
   ·rw[bV,if_neg d];rfl
theorem Hr{A2 B2:List Pr}:∀{A1 B1:List Pr},cf A1→cf B1→(∀p∈A1,∀q∈A2,kl p.1 q.1)→(∀p∈A1,∀q∈B2,kl p.1 q.1)→(∀p∈B1,∀q∈A2,kl p.1 q.1)→(∀p∈B1,∀q∈B2,kl p.1 q.1)→
  me (A1++A2) (B1++B2)=me A1 B1++me A2 B2:=by
 intro A1 B1 m j;refine qV (P:=fun A1 B1=>(∀p∈A1,∀q∈A2,kl p.1 q.1)→(∀p∈A1,∀q∈B2,kl p.1 q.1)→(∀p∈B1,∀q∈A2,kl p.1 q.1)→(∀p∈B1,∀q∈B2,kl p.1 q.1)→me (A1++A2) (B1++B2)=me A1 B1++me A2 B2) ?_ (fun a A B m _ h i=>?_) (fun b A B _ j h i=>?_) (fun a b A B e m j i=>?_) m j
 ·intro _ _ _ _;rw[kF];rfl
 ·intro f h2 d g
  rw[cJ,xI h,xI (fun q k=>(bF.1 k).elim (h q) (h2 a (aw ..) q)),i (fun p c=>f p (aB _ c)) (fun p c=>h2 p (aB _ c)) d g];rfl
 ·intro f h2 d g
  rw[cJ,xH h,xH (fun q k=>(bF.1 k).elim (h q) (d b (aw ..) q)),i f h2 (fun p c=>d p (aB _ c)) (fun p c=>g p (aB _ c))];rfl
 ·intro f h2 d g
  rw[cJ,cJ,vt e,vt e,i (fun p c=>f p (aB _ c)) (fun p c=>h2 p (aB _ c)) (fun p c=>d p (aB _ c)) (fun p c=>g p (aB _ c)),ar]
theorem DJ{A B:List Pr}(d:cf A)(c:cf B):(me A B).length≤A.length+B.length:=by
 refine qV (P:=fun A B=>(me A B).length≤A.length+B.length) ?_ (fun a A B d _ h i=>?_) (fun b A B _ c h i=>?_) (fun a b A B e d c i=>?_) d c
 ·rw[kF];exact al _
 ·rw[xI h];simp only[ao];omega
 ·rw[xH h];simp only[ao];omega
 ·rw[vt e,ac,ao,ao]
  have:(A0 a b).length≤1:=by unfold A0;split<;>simp
  omega
theorem F8{α:Type}(g:α→Nat)(n:Nat):∀L:List α,((L.filter fun x=>decide (g x<n))++L.filter fun x=>decide (g x=n)).Perm (L.filter fun x=>decide (g x<n+1))
 | []=>.refl _
 |a::L=>by
  have i:=F8 g n L;rw[bV,bV,bV];by_cases b:g a<n
  ·rw[if_pos (decide_eq_true b),if_neg (by simp;omega),if_pos (by simp;omega)]
   exact i.cons a
  ·by_cases h2:g a=n
   ·rw[if_neg (by simp;omega),if_pos (by simpa using h2),if_pos (by simp;omega)]
    exact List.perm_middle.trans (i.cons a)
   ·rw[if_neg (by simp;omega),if_neg (by simpa using h2),if_neg (by simp;omega)]
    exact i
end Go.Proofs
namespace Go.Proofs
open Go Go.Lift
theorem Cs(x:Ch):(pk x).length=5∧0<5:=⟨rfl,by omega⟩
abbrev abF(x:Hs)(s:SliceV):Array Value:= #[.int .u64 x.k0,.int .u64 x.k1,.int .u64 x.mask,sv s]
structure SetAt(C:Nat→Prop)(h:ae)(sb:Nat)(x:Hs)(L:List Ch):Prop where
 ex:∃s,h[sb]? =some (.cells (abF x s) BW (0,0))∧OwnS pk 5 bE C h s L
 lt:∀b,C b→b<h.size
 ne:¬C sb
theorem SetAt.upd{C M:Nat→Prop}{h h':ae}{a:Nat}{x:Hs}{L:List Ch}(st:SetAt C h a x L)(k:Upd M h h')(f:∀b,C b→¬M b)(c:¬M a):SetAt C h' a x L:=by
 obtain⟨s,e,h2⟩:=st.ex;exact⟨⟨s,k.get e c,h2.upd k f⟩,fun b d=>aC (st.lt b d) k.size,st.ne⟩
theorem SetAt.upd0{C:Nat→Prop}{h h':ae}{a:Nat}{x:Hs}{L:List Ch}(st:SetAt C h a x L)(k:Upd No h h'):SetAt C h' a x L:=st.upd k (fun _ _ h=>h) fun h=>h
abbrev Vw(C:Nat→Prop)(h:ae)(a:Nat)(x:Hs)(L:List Ch)(G:ae→Prop):Prop:=∀h' C',SetAt C' h' a x L→(∀b,C' b→C b∨h.size≤b)→Upd (fun b=>C b∨b=a) h h'→G h'
theorem QQ{C:Nat→Prop}{h:ae}{k:Nat}{x:Hs}{L:List Ch}{s:SliceV}{c:Ch}(st:SetAt C h k x L)(d:h[k]? =some (.cells (abF x s) BW (0,0))) (o:OwnS pk 5 bE C h s L) (y:L.length+1≤100000000) {G:ae→Prop} (q:Vw C h k x (L++ [c]) G):
  At (hnew h [.string c.1,.string c.2.1,.string c.2.2.1,.bool c.2.2.2.1,.bool c.2.2.2.2] bE) (fun i=>aP i (adr ⟨k,0,none⟩ 3)=some (.slice s.a s.len s.cap)∧∃xs,SRow i (some (aF h)) (1*5) xs∧
   AppP (some [.string (⟨#[]⟩:ByteArray),.string (⟨#[]⟩:ByteArray),.string (⟨#[]⟩:ByteArray),.bool false,.bool false]) 5 56 bE s.a s.len s.cap 1 xs i (fun j h2=>∃a:Addr,some (⟨k,0,none⟩:Addr)=some a∧(Wr h2 (adr a 3)∧At (hset h2 (adr a 3) (.slice j.a j.len j.cap)) G))):=by
 refine aW fun i b1 k1=>⟨vc (k1.get0 d) 3,?_⟩
 have u:=bD b1;have v:=k1.size;have w:=bD d;have n:OwnS pk 5 bE (fun _=>True) i ⟨some (aF h),1,1⟩ [c]:=⟨rfl,Cs,al _,.inr ⟨h.size,[],rfl,trivial,b1,rfl⟩⟩
 refine⟨_,(n.sl (W:=No) fun _ _ _ h=>h).srow,?_⟩
 refine AppP.own (M:=fun b=>C b∨i.size≤b) (ys:= [c]) ((o.upd k1 fun _ _ h=>h).more fun _ h=>.inl h) rfl rfl rfl rfl (by omega) (by simp only[aE];omega) (.inr (al _)) fun j h2 m f=>?_
 have b2:=f.get (k1.get0 d) fun h=>h.elim st.ne fun h=>by omega
 have t:=f.size;refine⟨_,rfl,qN (c':=abF x j) b2 (by simp) rfl fun p b3 g=>?_⟩
 refine q p (fun b=>(C b∨i.size≤b)∧b<h2.size) ⟨⟨j,b3,(m.within).upd g fun b d e=>?_⟩,fun b d=>aC d.2 g.size,fun d=>?_⟩ (fun b d=>d.1.imp id fun h=>by omega) ?_
 ·have e:b=k:=e
  rw[e]at d;exact d.1.elim st.ne fun h=>by omega
 ·exact d.1.elim st.ne fun h=>by omega
 ·exact((k1.wide.trans f fun b d=>d.elim (fun h=>.inl (.inl h)) fun h=>.inr (by omega)).trans g fun b d=>.inl (.inr d))
theorem Th{W:Nat→Prop}{h:ae}{s:SliceV}{p:Pr}{l:List Pr}(a:Sl eC 2 W h s (p::l))(hc:s.len≤s.cap):Sl eC 2 W h ⟨bh s.a 1 s.cap 2,s.len-1,s.cap-1⟩ l:=by
 have b:=a.len;rw[ao]at b;have:=Sl.sub a (l:=1) (hi:=s.len) (m:=s.cap) (c:=s.cap-1) (by omega) (by rw[ao];omega) hc;rw[show((p::l).drop 1).take (s.len-1)=l by rw[List.drop_succ_cons,List.drop_zero];exact bm (by omega)]at this
 exact this
theorem Dn{C:Nat→Prop}{h:ae}{j:Nat}{x:Hs}{L:List Ch}{s s':SliceV}{A B:List Pr}(st:SetAt C h j x L)(hs:Sl eC 2 (fun b=>C b∨b=j) h s A)(hs':Sl eC 2 (fun b=>C b∨b=j) h s' B)(hc:s.len≤s.cap)(hc':s'.len≤s'.cap)
  (hn:L.length+A.length+B.length≤100000000){K:Unit→ae→Prop}(hk:Vw C h j x (L++me A B) (K ())):HC PG jg [.pointer (some ⟨j,0,none⟩),.slice s.a s.len s.cap,.slice s'.a s'.len s'.cap] [] K h:=by
 refine FE (some ⟨j,0,none⟩) s s' ?_;unfold x7 cl aK db J0 AV bU;have hss:=hs.less (W':=fun b=>C b∨b=j∨h.size≤b) fun b G=>G.elim (fun h=>.inl (.inl h)) fun h=>h.elim (fun h=>.inl (.inr h)) .inr
 have hss':=hs'.less (W':=fun b=>C b∨b=j∨h.size≤b) fun b G=>G.elim (fun h=>.inl (.inl h)) fun h=>h.elim (fun h=>.inl (.inr h)) .inr
 refine LoopP.ghost (fun(g:List Pr×List Pr×List Ch×(Nat→Prop)) (t:SliceV×SliceV) h'=>SetAt g.2.2.2 h' j x g.2.2.1∧(∀b,g.2.2.2 b→C b∨h.size≤b)∧Upd (fun b=>C b∨b=j) h h'∧Sl eC 2 (fun b=>C b∨b=j∨h.size≤b) h' t.1 g.1∧Sl eC 2 (fun b=>C b∨b=j∨h.size≤b) h' t.2 g.2.1∧t.1.len≤t.1.cap∧t.2.len≤t.2.cap∧g.2.2.1++me g.1 g.2.1=L++me A B∧g.2.2.1.length+g.1.length+g.2.1.length≤L.length+A.length+B.length)
  (fun g=>g.1.length+g.2.1.length) (A,B,L,C) ⟨st,fun _ h=>.inl h,Upd.refl _ _,hss,hss',hc,hc',rfl,al _⟩ ?_
 rintro I ⟨A1,B1,L1,T⟩ ⟨D,O⟩ Y ⟨m,z,X,k,n,H,J,he,N⟩ hI;simp only at m z k n H J he N;have Q:D.len=A1.length:=k.len;have l2:O.len=B1.length:=n.len;obtain⟨sl,p,V⟩:=m.ex;have go:∀(c:List Ch) (A2 B2:List Pr) (Z u2:SliceV) (h2:ae) (C2:Nat→Prop),SetAt C2 h2 j x (L1++c)→(∀b,C2 b→T b∨Y.size≤b)→Upd (fun b=>T b∨b=j) Y h2→me A1 B1=c++me A2 B2→Sl eC 2 (fun b=>C b∨b=j∨h.size≤b) Y Z A2→Sl eC 2 (fun b=>C b∨b=j∨h.size≤b) Y u2 B2→Z.len≤Z.cap→u2.len≤u2.cap→c.length+A2.length+B2.length≤A1.length+B1.length→A2.length+B2.length<A1.length+B1.length→I (Z,u2) h2:=by
  intro c A2 B2 Z u2 h2 C2 st2 hC2 U e u M w1 w2 hl d;have hm:∀b,T b∨b=j→(C b∨b=j∨h.size≤b)∨Y.size≤b:=fun b G=>.inl (G.elim (fun h=>(z b h).imp id .inr) fun h=>.inr (.inl h))
  refine hI (A2,B2,L1++c,C2) (Z,u2) h2 ⟨st2,fun b G=>?_,?_,u.upd U hm,M.upd U hm,w1,w2,?_,?_⟩ d
  ·rcases hC2 b G with h|h
   ·exact z b h
   ·exact .inr (bj X.size h)
  ·exact X.trans U fun b G=>G.elim (fun h=>(z b h).imp .inl id) fun h=>.inl (.inr h)
  ·show(L1++c)++me A2 B2=_
   rw[ar,←e,he]
  ·show(L1++c).length+A2.length+B2.length≤_
   rw[ac];omega
 refine Join.intro (fun t h'=>h'=Y∧(t=true↔A1≠[]∨B1≠[])) (fun R q=>?_) ?_
 ·refine az (fun hp=>q _ _ ⟨rfl,?_⟩) fun hp=>q _ _ ⟨rfl,?_⟩
  ·have hp:(D.len:Int)>0:=hp
   simp only[true_iff];left;intro e;rw[e]at Q;simp only[aG]at Q;omega
  ·have hp:¬(D.len:Int)>0:=hp
   have e1:A1= []:=ay.1 (by omega);show decide ((O.len:Int)>0)=true↔_
   rw[decide_eq_true_iff];constructor
   ·intro h;right;intro e;rw[e]at l2;simp only[aG]at l2;omega
   ·intro h
    rcases h with h|h
    ·exact absurd e1 h
    ·have:=List.length_pos_iff.2 h;omega
 rintro t h2 ⟨rfl,ht⟩;refine CondP.intro (fun e=>?_) fun e=>?_
 rotate_left
 ·have hn:A1= []∧B1= []:=by
   rw[e]at ht;constructor
   ·exact Decidable.byContradiction fun h=>absurd (ht.2 (.inl h)) (by simp)
   ·exact Decidable.byContradiction fun h=>absurd (ht.2 (.inr h)) (by simp)
  obtain⟨rfl,rfl⟩:=hn;rw[kF,j2,aL]at he;subst he;exact hk h2 T m z X
 have hne:=ht.1 e;clear ht e;refine Join.intro (fun t h'=>h'=h2∧((t=true∧∃a A',A1=a::A'∧me A1 B1=PT a::me A' B1)∨(t=false∧∃b y,B1=b::y∧(A1= []∨∃a A',A1=a::A'∧¬kl a.1 b.1)))) (fun R q=>?_) ?_
 ·rcases B1 with _|⟨b,y⟩
  ·rcases A1 with _|⟨a,A'⟩
   ·exact absurd hne (by simp)
   rw[show(((O.len:Nat):Int)==0)=true by rw[l2];rfl]
   refine au.2 (q _ _ ⟨rfl,.inl ⟨rfl,a,A',rfl,?_⟩⟩);rw[xG,xG];rfl
  ·rw[ao]at l2
   rw[show(((O.len:Nat):Int)==0)=false by rw[beq_eq_false_iff_ne];omega]
   refine aj.2 ?_;rcases A1 with _|⟨a,A'⟩
   ·rw[aG]at Q
    rw[decide_eq_false (show ¬((D.len:Int)>0) by omega)]
    exact aj.2 (q _ _ ⟨rfl,.inr ⟨rfl,b,y,rfl,.inl rfl⟩⟩)
   ·rw[ao]at Q
    rw[decide_eq_true (show((D.len:Int)>0) by omega)]
    refine au.2 ?_;obtain⟨F,f,_,u⟩:=k.at (i:=0) (x:=a) rfl;obtain⟨W,o,_,M⟩:=n.at (i:=0) (x:=b) rfl;refine⟨⟨by first|omega|(simp only;omega),by first|omega|(simp only;omega)⟩,F,f,a.1,u 0 _ rfl,⟨by first|omega|(simp only;omega),by first|omega|(simp only;omega)⟩,W,o,b.1,M 0 _ rfl,q _ _ ⟨rfl,?_⟩⟩
    by_cases d:kl a.1 b.1
    ·exact .inl ⟨d,a,A',rfl,by rw[tU,if_pos d]⟩
    ·exact .inr ⟨by unfold kl at d;simpa using d,b,y,rfl,.inr ⟨a,A',rfl,d⟩⟩
 rintro t h3 ⟨rfl,⟨rfl,a,A',rfl,ec⟩|⟨rfl,b,y,rfl,hA⟩⟩
 ·refine au.2 (Join.plain ?_)
  rw[ao]at Q;obtain⟨F,f,_,u⟩:=k.at (i:=0) (x:=a) rfl;refine⟨_,rfl,sl,vc p 3,⟨by first|omega|(simp only;omega),by first|omega|(simp only;omega)⟩,F,f,a.1,u 0 _ rfl,⟨by first|omega|(simp only;omega),by first|omega|(simp only;omega)⟩,F,f,a.2,u 1 _ rfl,?_⟩
  refine QQ (c:=PT a) m p V (by simp only[ao]at N;omega) fun h4 C4 st4 hC4 hu4=>?_
  refine⟨⟨by first|omega|(simp only;omega),by first|omega|(simp only;omega)⟩,?_⟩
  simp only[Bd];exact go [PT a] A' B1 _ _ h4 C4 st4 hC4 hu4 ec (Th k H) n (by show D.len-1≤D.cap-1;omega) J (by simp only[ao,aG];omega) (by rw[ao];omega)
 refine aj.2 ?_;rw[ao]at l2;obtain⟨W,o,_,M⟩:=n.at (i:=0) (x:=b) rfl;refine Join.intro (fun t h'=>h'=h3∧((t=true∧me A1 (b::y)=ZE b::me A1 y)∨(t=false∧∃a A',A1=a::A'∧me A1 (b::y)=A0 a b++me A' y))) (fun R q=>?_) ?_
 ·rcases hA with rfl|⟨a,A',rfl,hna⟩
  ·rw[show(((D.len:Nat):Int)==0)=true by rw[Q];rfl]
   refine au.2 (q _ _ ⟨rfl,.inl ⟨rfl,?_⟩⟩);rw[kF,kF];rfl
  ·rw[ao]at Q
   rw[show(((D.len:Nat):Int)==0)=false by rw[beq_eq_false_iff_ne];omega]
   obtain⟨F,f,_,u⟩:=k.at (i:=0) (x:=a) rfl;refine aj.2 ⟨⟨by first|omega|(simp only;omega),by first|omega|(simp only;omega)⟩,W,o,b.1,M 0 _ rfl,⟨by first|omega|(simp only;omega),by first|omega|(simp only;omega)⟩,F,f,a.1,u 0 _ rfl,q _ _ ⟨rfl,?_⟩⟩
   by_cases d:kl b.1 a.1
   ·exact .inl ⟨d,by rw[tU,if_neg hna,if_pos d]⟩
   ·refine .inr ⟨by unfold kl at d;simpa using d,a,A',rfl,?_⟩
    rw[tU,if_neg hna,if_neg d];unfold A0;split<;>rfl
 rintro t h4 ⟨rfl,⟨rfl,ec⟩|⟨rfl,a,A',rfl,ec⟩⟩
 ·refine au.2 (Join.plain ?_)
  refine⟨_,rfl,sl,vc p 3,⟨by first|omega|(simp only;omega),by first|omega|(simp only;omega)⟩,W,o,b.1,M 0 _ rfl,⟨by first|omega|(simp only;omega),by first|omega|(simp only;omega)⟩,W,o,b.2,M 1 _ rfl,?_⟩
  refine QQ (c:=ZE b) m p V (by simp only[ao]at N;omega) fun S P w v E=>?_
  refine⟨⟨by first|omega|(simp only;omega),by first|omega|(simp only;omega)⟩,?_⟩
  simp only[Bd];exact go [ZE b] A1 y _ _ S P w v E ec k (Th n J) H (by show O.len-1≤O.cap-1;omega) (by simp only[ao,aG];omega) (by rw[ao];omega)
 rw[ao]at Q;obtain⟨F,f,_,u⟩:=k.at (i:=0) (x:=a) rfl;have hcl:(A0 a b).length≤1:=by unfold A0;split<;>simp
 refine aj.2 (Join.intro (fun _ S=>∃P,SetAt P S j x (L1++A0 a b)∧(∀b,P b→T b∨h4.size≤b)∧Upd (fun b=>T b∨b=j) h4 S) (fun R q=>?_) ?_)
 ·refine⟨⟨by first|omega|(simp only;omega),by first|omega|(simp only;omega)⟩,F,f,a.2,u 1 _ rfl,⟨by first|omega|(simp only;omega),by first|omega|(simp only;omega)⟩,W,o,b.2,M 1 _ rfl,?_⟩
  have eb:(a.2.toList==b.2.toList)=decide (a.2=b.2):=ey;rw[eb];by_cases e:a.2=b.2
  ·rw[decide_eq_true e]
   refine aj.2 (q _ _ ⟨T,?_,fun _ h=>.inl h,Upd.refl _ _⟩)
   unfold A0;rw[if_pos e,aL];exact m
  ·rw[decide_eq_false e]
   refine au.2 ⟨_,rfl,sl,vc p 3,⟨by first|omega|(simp only;omega),by first|omega|(simp only;omega)⟩,F,f,a.1,u 0 _ rfl,⟨by first|omega|(simp only;omega),by first|omega|(simp only;omega)⟩,F,f,a.2,u 1 _ rfl,⟨by first|omega|(simp only;omega),by first|omega|(simp only;omega)⟩,W,o,b.2,M 1 _ rfl,?_⟩
   refine QQ (c:=(a.1,a.2,b.2,true,true)) m p V (by simp only[ao]at N;omega) fun S P w v E=>q _ _ ⟨P,?_,v,E⟩
   unfold A0;rw[if_neg e];exact w
 ·rintro _ S ⟨P,w,v,E⟩
  refine⟨⟨by first|omega|(simp only;omega),by first|omega|(simp only;omega)⟩,?_⟩
  simp only[Bd];refine⟨⟨by first|omega|(simp only;omega),by first|omega|(simp only;omega)⟩,?_⟩
  exact go (A0 a b) A' y _ _ S P w v E ec (Th k H) (Th n J) (by show D.len-1≤D.cap-1;omega) (by show O.len-1≤O.cap-1;omega) (by rw[ao,ao];omega) (by rw[ao,ao];omega)
end Go.Proofs
namespace Go.Proofs
open Go Go.Lift
theorem Wl{t:Tr}{h:ae}{K:Int→ae→Prop}(a:∀h',Upd No h h'→K t.1 h'):HC PG sH [HJ t] [.c (.int .i64)] K h:=by
 refine Fv t ?_;unfold xS bw r7;exact aW fun b b1 k1=>⟨_,vc b1 0,a b k1⟩
end Go.Proofs
namespace Go.Proofs
open Go Go.Lift
theorem LQ:∀{x y:List UInt8} {i:Nat} {a b:UInt8},(∀j,j<i→x[j]? =y[j]?)→x[i]? =some a→y[i]? =some b→a≠b→Op.bytesLess x y=decide (a.toNat<b.toNat)
 | [],_,_,_,_,_,h,_,_=>by simp at h
 |_::_,[],_,_,_,_,_,h,_=>by simp at h
 |c::x,d::y,0,a,b,_,h1,h2,hne=>by
  simp only[cP,bR.injEq]at h1 h2;subst h1 h2;simp only[Op.bytesLess];rw[beq_false_of_ne hne];simp[UInt8.lt_iff_toNat_lt]
 |c::x,d::y,i+1,a,b,he,h1,h2,hne=>by
  have e:=he 0 (by omega);simp only[cP,bR.injEq]at e;subst e;simp only[List.getElem?_cons_succ]at h1 h2;simp only[Op.bytesLess];rw[LQ (i:=i) (fun j f=>by simpa using he (j+1) (by omega)) h1 h2 hne]
  simp[UInt8.lt_irrefl]
theorem LP:∀{x y:List UInt8} {i:Nat},(∀j,j<i→x[j]? =y[j]?)→i≤x.length→i≤y.length→(i=x.length∨i=y.length)→Op.bytesLess x y=decide (x.length<y.length)
 | [],[],_,_,_,_,_=>by simp[Op.bytesLess]
 | [],_::_,_,_,_,_,_=>by simp[Op.bytesLess]
 |_::_,[],_,_,_,_,_=>by simp[Op.bytesLess]
 |c::x,d::y,0,_,_,_,h=>by simp at h
 |c::x,d::y,i+1,he,h1,h2,h3=>by
  have e:=he 0 (by omega);simp only[cP,bR.injEq]at e;subst e;simp only[Op.bytesLess];rw[LP (i:=i) (fun j a=>by simpa using he (j+1) (by omega)) (by simpa using h1) (by simpa using h2) (by simpa using h3)]
  simp[UInt8.lt_irrefl]
theorem Ia{a b:ByteArray}(z:a.size≤1000000){h:ae}{K:Bool→ae→Prop}(w:K (decide (kl a b)) h):HC PG vi [.string a,.string b] [.c .bool] K h:=by
 refine SH a b ?_;unfold JI;have A:a.data.toList.length=a.size:=by simp
 have B:b.data.toList.length=b.size:=by simp
 have g:∀{p:Prop} [Decidable p],Op.bytesLess a.data.toList b.data.toList=decide p→K (decide p) h:=fun{p} _ e=>by
  have:decide (kl a b)=decide p:=by
   rw[←e,←ByteArray.toList_eq,←ByteArray.toList_eq];exact Bool.eq_iff_iff.2 (by rw[decide_eq_true_iff];exact Iff.rfl)
  rw[←this];exact w
 refine LoopP.ghost (fun(i:Nat) (t:Int) h'=>t=(i:Int)∧i≤a.size∧i≤b.size∧h'=h∧∀j,j<i→a.data.toList[j]? =b.data.toList[j]?) (fun i=>a.size-i) 0 ⟨rfl,aS _,aS _,rfl,fun j s=>absurd s (Nat.not_lt_zero _)⟩ ?_
 rintro I i t h' ⟨rfl,v,x,rfl,k⟩ y;refine Join.intro (fun t h2=>t=decide (i<a.size∧i<b.size)∧h2=h') (fun R n=>?_) ?_
 ·refine az (fun c=>n _ _ ⟨?_,rfl⟩) fun m=>n _ _ ⟨?_,rfl⟩
  ·rw[decide_eq_decide];omega
  ·rw[eq_comm,decide_eq_false_iff_not];omega
 ·rintro t h2 ⟨rfl,rfl⟩
  refine az (fun c=>?_) fun m=>?_
  ·have q:a.data.toList[i]? =some a[i]:=by rw[←PA,getElem?_pos a i c.1]
   have o:b.data.toList[i]? =some b[i]:=by rw[←PA,getElem?_pos b i c.2]
   refine⟨a[i],by omega,by rw[aU,getElem?_pos a i c.1],b[i],by omega,by rw[aU,getElem?_pos b i c.2],?_⟩
   refine CondP.intro (fun f=>?_) fun d=>?_
   ·refine⟨a[i],by omega,by rw[aU,getElem?_pos a i c.1],b[i],by omega,by rw[aU,getElem?_pos b i c.2],?_⟩
    refine g ?_;rw[LQ k q o fun e=>by rw[e]at f;simp at f]
    rw[decide_eq_decide];omega
   ·have d:a[i]=b[i]:=by
     have:((a[i].toNat:Int))=(b[i].toNat:Int):=by simpa using d
     exact UInt8.toNat_inj.1 (by omega)
    rw[dd c.1 (by omega)];refine y (i+1) _ _ ⟨rfl,by omega,by omega,rfl,fun j s=>?_⟩ (by omega)
    rcases bW j i with u|u
    ·exact k j u
    ·have:j=i:=by omega
     subst this;rw[q,o,d]
  ·refine g ?_
   rw[LP k (by omega) (by omega) (by omega),decide_eq_decide];omega
theorem Ib{W:Nat→Prop}{h:ae}{s:SliceV}{l:List Pr}(w:Sl eC 2 W h s l)(H:l.length≤1000000)(k:ByteArray){K:SliceV→ae→Prop}
  (C:∀s' h',OwnS eC 2 cq (fun y=>h.size≤y) h' s' (l.filter fun p=>decide (p.1≠k))→Upd No h h'→K s' h'):HC PG yz [.slice s.a s.len s.cap,.string k] [.c .slice] K h:=by
 refine SJ s k ?_;unfold JK cl aK nv ax lM hP;have z:=w.len;refine LoopP.ghost (fun(i:Nat) (t:SliceV×Int) h'=>t.2=(i:Int)∧i≤l.length∧OwnS eC 2 cq (fun y=>h.size≤y) h' t.1 ((l.take i).filter fun p=>decide (p.1≠k))∧Upd No h h') (fun i=>l.length-i) 0 ⟨rfl,aS _,by simpa using OwnS.nil gq,Upd.refl _ _⟩ ?_
 rintro I i ⟨so,F⟩ h' ⟨x,hi,j,f⟩ B;simp only at x j;subst x;refine az (fun b=>?_) fun q=>?_
 ·have b:i<l.length:=by have:(i:Int)<(s.len:Int):=b;omega
  obtain⟨a,A,_,hv⟩:=(w.upd f fun _ h=>h.elim).at (af b)
  have n:((l.take i).filter fun p=>decide (p.1≠k)).length≤l.length:=bj (fL ..) (by rw[aH];omega)
  refine Join.intro (fun t h2=>OwnS eC 2 cq (fun y=>h.size≤y) h2 t ((l.take (i+1)).filter fun p=>decide (p.1≠k))∧Upd No h h2) (fun R d=>⟨⟨by simp only;omega,by simp only;omega⟩,a,A,l[i].1,hv 0 _ rfl,l[i].2,hv 1 _ rfl,?_⟩) ?_
  ·refine uB (p:=l[i]) fun h2 b2 g=>⟨_,vc b2 0,?_⟩
   have c:=j.upd g fun _ _ h=>h
   rw[aX b,fZ,bV,m9]at d;rw[ey];by_cases e:l[i].1=k
   ·rw[decide_eq_true e]
    rw[decide_eq_false (not_not_intro e)]at d;rw[if_neg (by simp),aL]at d;exact aj.2 (d _ _ ⟨c,f.tr g⟩)
   ·rw[decide_eq_false e]
    rw[decide_eq_true e,if_pos rfl]at d;refine au.2 ⟨_,vc b2 0,_,vc b2 1,bP ?_⟩;refine xJ (p:=l[i]) c (fun y v=>bj (f.tr g).size v) (bj (Nat.add_le_add_right n 1) (by omega)) fun E G u o=>d _ _ ⟨u,(f.tr g).trans o fun y v=>.inr v⟩
  ·rintro t h2 ⟨c,m⟩
   rw[dd b (by omega)];exact B (i+1) _ _ ⟨rfl,b,c,m⟩ (by omega)
 ·have D:i=l.length:=by have:¬(i:Int)<(s.len:Int):=q;omega
  rw[bm (by omega)]at j;exact C _ _ j f
theorem YA{W:Nat→Prop}{h:ae}{s:SliceV}{l:List Pr}(hs:Sl eC 2 W h s l)(hr:cf l)(hn:l.length≤1000000)(p:Pr)(hp:p.1.size≤1000000){K:SliceV→ae→Prop}
  (Y:∀s' h',OwnS eC 2 cq (fun y=>h.size≤y) h' s' (iM p l)→Upd No h h'→K s' h'):HC PG Fb [.slice s.a s.len s.cap,.agg #[.string p.1,.string p.2]] [.c .slice] K h:=by
 refine VA s p ?_;unfold Mw cl aK nv ax lM hP vN CM;refine aW fun h1 b1 k1=>⟨p.1,vc b1 0,?_⟩
 refine Ib (hs.upd k1 fun _ h=>h.elim) hn p.1 fun s4 u G k4=>?_
 rw[←LX hr]at Y;have hrf:cf (l.filter fun q=>decide (q.1≠p.1)):=hr.sublist List.filter_sublist
 have hnl:(l.filter fun q=>decide (q.1≠p.1)).length≤1000000:=bj (fL ..) hn
 have T:∀q∈l.filter fun q=>decide (q.1≠p.1),q.1≠p.1:=fun q v=>of_decide_eq_true (d8.1 v).2
 generalize l.filter (fun q=>decide (q.1≠p.1))=L at Y G hrf hnl T
 have z:=k1.tr k4;have Q:Sl eC 2 No u s4 L:=G.sl fun _ _ _ h=>h
 have hlen:=Q.len;have z4:=z.size;refine LoopP.ghost (fun(g:Nat×Bool) (t:SliceV×Bool×Int) h'=>t.2.2=(g.1:Int)∧t.2.1=g.2∧g.1≤L.length∧(∃out,OwnS eC 2 cq (fun y=>u.size≤y) h' t.1 out∧out.length≤g.1+1∧(g.2=false→out=L.take g.1∧∀q∈L.take g.1,kl q.1 p.1)∧(g.2=true→out=iM p (L.take g.1)∧∃q∈L.take g.1,kl p.1 q.1))∧Upd No u h') (fun g=>L.length-g.1) (0,false) ⟨rfl,rfl,aS _,⟨[],OwnS.nil gq,by simp,fun _=>⟨by simp,by simp⟩,fun h=>by cases h⟩,Upd.refl _ _⟩ ?_
 rintro I ⟨i,pl⟩ ⟨so,V,ti⟩ h' ⟨e1,e2,hi,⟨out,O,D,Z,U⟩,w⟩ hI;simp only at e1 e2 hi O D Z U;subst e1 e2;have b':=w.get0 (k4.get0 b1);refine az (fun f=>?_) fun hge=>?_
 ·have f:i<L.length:=by have:(i:Int)<(s4.len:Int):=f;omega
  obtain⟨a,ha,_,hv⟩:=(Q.upd w fun _ h=>h.elim).at (af f)
  have d:=aX f;have E:L[i]∈L:=List.getElem_mem f;refine Join.intro (fun t h2=>(∃out,OwnS eC 2 cq (fun y=>u.size≤y) h2 t.1 out∧out.length≤i+1+1∧(t.2=false→out=L.take (i+1)∧∀q∈L.take (i+1),kl q.1 p.1)∧(t.2=true→out=iM p (L.take (i+1))∧∃q∈L.take (i+1),kl p.1 q.1))∧Upd No u h2) (fun R hR=>⟨⟨by simp only;omega,by simp only;omega⟩,a,ha,L[i].1,hv 0 _ rfl,L[i].2,hv 1 _ rfl,?_⟩) ?_
  ·refine uB (p:=L[i]) fun h2 b2 X=>?_
   have o:=O.upd X fun _ _ h=>h
   have k:=w.tr X;have zb:=bD b2;have z2:=w.size;have hoM:=(O.within.upd X fun _ _ h=>h).more (M':=fun y=>(u.size≤y∧y<h'.size)∨h2.size≤y) fun y b=>.inl b
   have c2:=X.get0 b';refine Join.intro (fun t C=>(∃out,OwnS eC 2 cq (fun y=>u.size≤y) C t.1 out∧out.length≤i+1∧(t.2=false→out=L.take i∧∀q∈L.take (i+1),kl q.1 p.1)∧(t.2=true→out++ [L[i]]=iM p (L.take (i+1))∧∃q∈L.take (i+1),kl p.1 q.1))∧C[h'.size]? =some (.cells #[.string L[i].1,.string L[i].2] cq (0,0))∧Upd No u C) (fun R2 x=>?_) ?_
   ·refine Join.intro (fun t C=>t=(!V&&decide (kl p.1 L[i].1))∧C=h2) (fun R3 F=>?_) ?_
    ·cases V with
     |false=>exact au.2 ⟨p.1,vc c2 0,L[i].1,vc b2 0,Ia hp (F _ _ ⟨by simp,rfl⟩)⟩
     |true=>exact aj.2 (F _ _ ⟨by simp,rfl⟩)
    ·rintro t C ⟨rfl,rfl⟩
     cases V with
     |true=>
      obtain⟨e,q,v,H⟩:=U rfl;refine aj.2 (x _ _ ⟨⟨out,o,D,fun h=>(by cases h),fun _=>?_⟩,b2,k⟩)
      rw[d,e];exact⟨(Pu ⟨q,v,H⟩).symm,q,cI _ v,H⟩
     |false=>
      obtain⟨e,c⟩:=Z rfl;subst e;by_cases m:kl p.1 L[i].1
      ·rw[decide_eq_true m]
       refine au.2 ⟨p.1,vc c2 0,p.2,vc c2 1,bP ?_⟩;refine xJ (p:=p) hoM (fun y b=>.inr b) (by rw[aH];omega) fun s5 h5 n j=>x _ _ ⟨⟨_,n.more (fun y b=>by rcases b with b|b<;>omega),by rw[ac,aH,aE];omega,fun h=>(by cases h),fun _=>?_⟩,j.get b2 (by rintro(hx|hx)<;>omega),k.trans j fun y b=>.inr (by rcases b with b|b<;>omega)⟩
       ·rw[d,Dq c]
        refine⟨?_,L[i],df _ (aD.2 rfl),m⟩;rw[ar,Ps (l:= [L[i]]) fun q v=>by rw[aD.1 v];exact m]
        rfl
      ·rw[decide_eq_false m]
       have v:kl L[i].1 p.1:=ql m fun e=>T _ E e.symm
       refine aj.2 (x _ _ ⟨⟨_,o,by rw[aH];omega,fun _=>⟨rfl,fun q J=>?_⟩,fun h=>(by cases h)⟩,b2,k⟩)
       rw[d]at J;rcases bF.1 J with h|h
       ·exact c q h
       ·rw[aD.1 h];exact v
   ·rintro⟨t1,t2⟩ C ⟨⟨out3,P,hol3,N,S⟩,b3,M⟩
    simp only at P N S;refine⟨_,vc b3 0,_,vc b3 1,bP ?_⟩;refine xJ (p:=L[i]) P (fun y b=>bj M.size b) (by omega) fun s5 h5 n j=>hR _ _ ⟨⟨_,n,by rw[ac,aE];omega,fun h=>?_,fun h=>S h⟩,M.trans j fun y b=>.inr b⟩
    obtain⟨e,c⟩:=N h;exact⟨by rw[e,d],c⟩
  ·rintro⟨t1,t2⟩ h2 ⟨o,k⟩
   rw[dd f (by omega)];exact hI (i+1,t2) _ _ ⟨rfl,rfl,f,o,k⟩ (by simp only;omega)
 ·have hil:i=L.length:=by have:¬(i:Int)<(s4.len:Int):=hge;omega
  subst hil;rw[List.take_length]at Z U;cases V with
  |true=>
   obtain⟨e,_⟩:=U rfl;subst e;exact aj.2 (Y _ _ (O.more fun y b=>bj z4 b) (z.tr w))
  |false=>
   obtain⟨e,c⟩:=Z rfl;subst e;refine au.2 ⟨p.1,vc b' 0,p.2,vc b' 1,bP ?_⟩;refine xJ (p:=p) O (fun y b=>bj w.size b) (by omega) fun s5 h5 n j=>Y _ _ ?_ ((z.tr w).trans j fun y b=>.inr (bj z4 b))
   have:=Dq (p:=p) (A:=out) (B:= []) c;rw[aL]at this;rw[this];exact n.more fun y b=>bj z4 b
end Go.Proofs
namespace Go.Proofs
open Go Go.Lift
abbrev Rt:=Int×Int×Int×Int×SliceV
abbrev qQ(r:Rt):List Value:= [.int .i64 r.1,.int .u64 r.2.1,.int .u64 r.2.2.1,.int .u64 r.2.2.2.1,.slice r.2.2.2.2.a r.2.2.2.2.len r.2.2.2.2.cap]
abbrev Zr(r:Rt):Value:=.agg #[.int .i64 r.1,.int .u64 r.2.1,.int .u64 r.2.2.1,.int .u64 r.2.2.2.1,.slice r.2.2.2.2.a r.2.2.2.2.len r.2.2.2.2.cap]
abbrev MX:Rt:=(0,0,0,0,⟨none,0,0⟩)
def hx(a v:Int):Int:=if a=0 then v else 0
def RefIs(W:Nat→Prop)(h:ae)(a:Int)(x:Hs)(r:Rt)(l:List Pr):Prop:=∃s,r=(a,hx a x.k0,hx a x.k1,hx a x.mask,s)∧Sl eC 2 W h s l∧s.len≤s.cap
theorem RefIs.upd0{W:Nat→Prop}{h h':ae}{a:Int}{x:Hs}{r:Rt}{l:List Pr}(k:Upd No h h')(i:RefIs W h a x r l):RefIs W h' a x r l:=
 let⟨s,e,b⟩:=i;⟨s,e,b.1.upd k fun _ h=>h.elim,b.2⟩
theorem RefIs.less{W W':Nat→Prop}{h:ae}(hm:∀b,W' b→W b∨h.size≤b){a:Int}{x:Hs}{r:Rt}{l:List Pr}(i:RefIs W h a x r l):RefIs W' h a x r l:=
 let⟨s,e,c⟩:=i;⟨s,e,c.1.less hm,c.2⟩
theorem RefIs.updM{W M:Nat→Prop}{h h':ae}(k:Upd M h h')(hm:∀b,M b→W b∨h.size≤b){a:Int}{x:Hs}{r:Rt}{l:List Pr}(i:RefIs W h a x r l):RefIs W h' a x r l:=
 let⟨s,e,c⟩:=i;⟨s,e,c.1.upd k hm,c.2⟩
theorem YB{W:Nat→Prop}{x:Hs}{h:ae}{a:Int}(i:a=0∨a=1){K:Rt×Int→ae→Prop}(k:∀h' r,RefIs W h' a x r []→Upd No h h'→K (r,0) h'):HC PG Fa [.int .i64 a,.agg #[.int .u64 x.k0,.int .u64 x.k1,.int .u64 x.mask]] [.agg [.int .i64,.int .u64,.int .u64,.int .u64,.slice],.c (.int .i64)] K h:=by
 refine Vy a (x.k0,x.k1,x.mask) ?_;unfold Mu bw ag cT eJ AC J9;refine aW fun n b1 k1=>aW fun h2 b2 m=>?_
 have f:=m.get0 b1;have j:=k1.size;have e:=k1.tr m;rcases i with rfl|rfl
 ·refine au.2 ⟨_,vc f 0,_,vc f 1,_,vc f 2,?_⟩
  refine cU (c:=qQ MX) (vs:=qQ (0,x.k0,x.k1,x.mask,⟨none,0,0⟩)) b2 rfl fun g b d=>?_
  exact⟨_,vc b 0,_,vc b 1,_,vc b 2,_,vc b 3,⟨none,0,0⟩,vc b 4,k g (0,x.k0,x.k1,x.mask,⟨none,0,0⟩) ⟨_,rfl,Sl.nil gq,al _⟩ (e.own d j)⟩
 ·refine aj.2 (au.2 ?_)
  refine cU (c:=qQ MX) (vs:=qQ (1,0,0,0,⟨none,0,0⟩)) b2 rfl fun g b d=>?_
  exact⟨_,vc b 0,_,vc b 1,_,vc b 2,_,vc b 3,⟨none,0,0⟩,vc b 4,k g (1,0,0,0,⟨none,0,0⟩) ⟨_,rfl,Sl.nil gq,al _⟩ (e.own d j)⟩
theorem UG{k v:ByteArray}(b:k.size≤256)(h2:v.size≤4096){h:ae}{K:Int→ae→Prop}(a:K 0 h):HC PG tQ [.string k,.string v] [.c (.int .i64)] K h:=by
 refine Gs k v ?_;unfold Ai;refine az (fun h=>absurd h (by omega)) fun _=>az (fun h=>absurd h (by omega)) fun _=>a
theorem O0{W:Nat→Prop}{x:Hs}{h:ae}{a:Int}{r:Rt}{l:List Pr}(i:RefIs W h a x r l)(C:∀y,W y→y<h.size)(E:cf l)(I:l.length≤1000000)(p:Pr)(v:p.1.size≤256)(w:p.2.size≤4096){K:Rt×Int→ae→Prop}
  (H:∀h' r',RefIs W h' a x r' (iM p l)→Upd No h h'→K (r',0) h'):HC PG yv [Zr r,.agg #[.string p.1,.string p.2]] [.agg [.int .i64,.int .u64,.int .u64,.int .u64,.slice],.c (.int .i64)] K h:=by
 refine SC r p ?_;unfold JB bw ag cT eJ db J9 GO ax hP vN qO Ow;refine aW fun z b1 k1=>aW fun h2 b2 u=>aW fun S b3 o=>?_
 have P:=bD b1;have M:=bD b2;have Q:=bD b3;have L:h.size≤z.size:=k1.size;have R:z.size≤h2.size:=u.size;have O:=o.size;have j:=(k1.tr u).tr o;have A:=o.get0 (u.get0 b1);have q:=o.get0 b2;obtain⟨s,rfl,D,_⟩:=i;refine⟨_,vc q 0,_,vc q 1,UG v w (aj.2 ?_)⟩;refine⟨s,vc A 4,p.1,vc q 0,p.2,vc q 1,?_⟩;refine YA (D.upd j fun _ h=>h.elim) E I p (by omega) fun f N t b=>?_
 refine qN (i:=4) (c':=(qQ (a,hx a x.k0,hx a x.k1,hx a x.mask,f)).toArray) (b.get0 A) (show 4<5 by decide) rfl fun J g d=>?_
 refine⟨_,vc g 0,_,vc g 1,_,vc g 2,_,vc g 3,f,vc g 4,?_⟩;refine cU (c:=qQ MX) (vs:=qQ (a,hx a x.k0,hx a x.k1,hx a x.mask,f)) (d.oth (b.get0 b3) (by omega)) rfl fun G k n=>?_
 refine⟨_,vc k 0,_,vc k 1,_,vc k 2,_,vc k 3,f,vc k 4,?_⟩;have m:=(t.upd d fun y B e=>by have e:y=h.size:=e;omega).upd n fun y B e=>by have e:y=h2.size:=e;omega
 refine H G (a,hx a x.k0,hx a x.k1,hx a x.mask,f) ⟨f,rfl,m.sl fun y B _ F=>by have:=C y F;omega,m.cap⟩ (((j.tr b).own d (al _)).own n (by omega))
def uD(s:ByteArray):ByteArray:=s.extract 0 (min s.size 30)
theorem ox(s:ByteArray):(uD s).size≤30:=by unfold uD;rw[gk];omega
end Go.Proofs
namespace Go.Proofs
open Go Go.Lift
def Ky(p:Pr):Pr:=(uD p.1,uD p.2)
structure Few(n:Nat)(L:List Pr):Prop where
 up:cf L
 len:L.length≤n
 fit:∀p∈L,p.1.size≤30∧p.2.size≤30
theorem Few.ins{n:Nat}{L:List Pr}(f:Few n L)(p:Pr)(b:p.1.size≤30)(h2:p.2.size≤30):Few (n+1) (iM p L):=
 ⟨Az p f.up,bj (AH p) (by have:=f.len;omega),fun q a=>(zA a).elim (fun e=>by rw[e];exact⟨b,h2⟩) fun h=>f.fit q h⟩
theorem Few.fits{n:Nat}{L:List Pr}(f:Few n L):Fit L:=fun p a=>by have:=f.fit p a;omega
end Go.Proofs
namespace Go.Proofs
open Go Go.Lift
theorem Sl.det{α:Type}{f:α→List Value}{c:Nat}{W W':Nat→Prop}{h:ae}{s:SliceV}{xs ys:List α}(hi:∀x y,f x=f y→x=y)(a:Sl f c W h s xs)(b:Sl f c W' h s ys):xs=ys:=by
 apply List.ext_getElem
 ·rw[←a.len,←b.len]
 ·intro i m h2
  refine hi _ _ (List.ext_getElem? fun j=>?_)
  obtain⟨p,n,_,hv⟩:=a.at (af m);obtain⟨q,e,_,k⟩:=b.at (af h2);rw[n]at e;cases e;have u:=(a.ne xs[i]).1;have t:=(b.ne ys[i]).1;by_cases o:j<c
  ·have g:=hv j _ (af (by omega))
   have d:=k j _ (af (by omega));rw[g]at d;rw[af (by omega),af (by omega)];exact d
  ·rw[sd (by omega),sd (by omega)]
theorem Tx(x y:Pr)(h:eC x=eC y):x=y:=by
 simp only[eC,eT.injEq,Value.string.injEq,and_true]at h;exact Prod.ext h.1 h.2
theorem YJ(x y:Option Addr)(h:tI x=tI y):x=y:=by
 simpa[tI]using h
theorem Tp(x y:Option Addr)(h:pj x=pj y):x=y:=by
 simpa[pj]using h
theorem LN{d j n n':Nat}{sp sk b a:SliceV}{p e:Bool}{ow c:Option Addr}(h:fT d n sp sk p ow=fT j n' b a e c):d=j∧n=n'∧sp=b∧sk=a:=by
 simp only[fT,Array.mk.injEq,eT.injEq,Value.int.injEq,true_and,sv,Value.slice.injEq,Value.bool.injEq,Value.pointer.injEq,and_true]at h;obtain⟨q,h2,⟨m,o,k⟩,⟨f,i,g⟩,_⟩:=h;refine⟨by omega,by omega,?_,?_⟩
 ·cases sp;cases b;simp only at m o k;subst m o k;rfl
 ·cases sk;cases a;simp only at f i g;subst f i g;rfl
theorem HI{W W':Nat→Prop}{x:Hs}{h:ae}:∀{m b:Nat} {l l':List Pr},TrieAt W x h m b l→TrieAt W' x h m b l'→cf l→cf l'→l=l'
 |0,b,l,l',t,t',_,_=>by
  obtain⟨sp,sk,ow,k,j,_⟩:=t.ex;obtain⟨v,o,u,a,g,_⟩:=t'.ex;rw[k]at a;simp only[bR.injEq,Obj.cells.injEq,and_true]at a;obtain⟨_,_,rfl,_⟩:=LN a;exact Sl.det Tx j g
 |m+1,b,l,l',⟨s,nd,hc⟩,⟨s',nd',hc'⟩,hr,hr'=>by
  obtain⟨d,n,sp,sk,ow,k,bits,j,I,_⟩:=nd.ex;obtain⟨K,n',v,o,u,a,e,g,i,_⟩:=nd'.ex;rw[k]at a;simp only[bR.injEq,Obj.cells.injEq,and_true]at a;obtain⟨rfl,rfl,rfl,rfl⟩:=LN a;have G:=IK 32 (fun c hc=>by rw[←bits.dp c hc,e.dp c hc]) (Sl.det Tx j g)
  have J:=IK 32 (fun c hc=>by rw[←bits.nk c hc,e.nk c hc]) (Sl.det YJ I i)
  refine Pa (x:=x) (lev:=12-m) hr hr' fun c f=>?_
  have H:=hc c f;have y:=hc' c f;rw[←G c f,←J c f]at y;rcases H with⟨A,h2,C⟩|⟨p,A,h2,C⟩|⟨A,h2,L,C,F⟩<;>rcases y with⟨B,z,w⟩|⟨q,B,z,w⟩|⟨B,z,E,w,D⟩<;>simp_all
  exact HI F D (iX hr) (iX hr')
theorem Tq{sl a v d:ByteArray}{b b':Bool}{s s':SliceV}{ow c:Option Addr}(h:AY sl b v s ow=AY a b' d s' c):sl=a∧b=b'∧v=d∧s=s':=by
 simp only[AY,Array.mk.injEq,eT.injEq,Value.string.injEq,sv,Value.slice.injEq,Value.bool.injEq,Value.pointer.injEq,and_true]at h;obtain⟨j,h2,i,⟨e,g,f⟩,_⟩:=h;refine⟨j,h2,i,?_⟩;cases s;cases s';simp only at e g f;subst e g f;rfl
theorem TA{w a:Option ByteArray}{v:ByteArray}(h:w.isSome=a.isSome)(b:v=w.getD ⟨#[]⟩)(h2:v=a.getD ⟨#[]⟩):w=a:=by
 cases w<;>cases a<;>simp_all
theorem QT{W W':Nat→Prop}{h:ae}:∀{F F':Fo} {ks:List (Option Addr)},RxF W h F ks→RxF W' h F' ks→F=F'
 | .nil,.nil,_,_,_=>rfl
 | .nil,.cons ..,ks,c,h2=>by
  obtain⟨b,sl,val,s,ow,d,e,a,_⟩:=h2;have c:ks= []:=c;rw[c]at a;cases a
 | .cons ..,.nil,ks,c,h2=>by
  obtain⟨b,sl,val,s,ow,d,e,a,_⟩:=c;have h2:ks= []:=h2;rw[h2]at a;cases a
 | .cons lab w kids rest,.cons lab' w' kids' rest',ks,⟨b,sl,val,s,ow,d,e,a,e1,e2,e3,e4,e5,e6,e7⟩,⟨b',sl',val',s',ow',ks1',ks'',f0,f1,f2,f3,f4,f5,f6,f7⟩=>by
  rw[a]at f0;simp only[eT.injEq,bR.injEq,Addr.mk.injEq,and_true]at f0;obtain⟨rfl,rfl⟩:=f0;rw[e2]at f2;simp only[bR.injEq,Obj.cells.injEq,and_true]at f2;obtain⟨rfl,f,rfl,rfl⟩:=Tq f2;have:=Sl.det Tp e4 f4;subst this;rw[QT e6 f6,QT e7 f7,←e1,←f1,TA f e3 f3]
end Go.Proofs
