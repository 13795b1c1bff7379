/- A part of the proof that the named laws of this program answer true, whatever the input. -/
import Derived.Test.YtncppacbfagpgaaGreatPart5
import Derived.Test.YtncppacbfagpgaaGreatPart4
import Derived.Test.YtncppacbfagpgaaGreatPart2
open ByteArray renaming size_extract→qr
open Int renaming toNat_natCast→aS
open List renaming length_singleton→aJ,length_map→dP,length_nil→aB,map_append→dN,map_cons→eI,map_nil→j4,length_append→ac,mem_append_right→co,mem_singleton→aC,pairwise_append→bH,length_cons→aj,take_of_length_le→aW,pairwise_singleton→bU,mem_append→bd,mem_append_left→cg,length_eq_zero_iff→av,mem_cons_self→ar,mem_cons_of_mem→aD,append_nil→aG,append_assoc→ao,mem_map→jb,mem_cons→az,not_mem_nil→ge,pairwise_cons→aA,filter_nil→rY,filter_cons→bK,mem_filter→dg,filter_append→il,cons_append→ci,getElem?_cons_zero→cH,getElem?_eq_getElem→ai,length_filter_le→fJ,length_take→aI,take_succ_eq_append_getElem→bh,getElem?_eq_none→mq,cons→eJ
open Nat renaming le_refl→aq,lt_of_lt_of_le→ay,zero_le→be,lt_or_ge→bX,le_trans→aZ
open Option renaming some→bG
namespace Go.Proofs
open Go Go.Lift
theorem Tq{M:Nat→Prop}{h:af}{so:SliceV}{out:List (SliceV×SliceV)}{p:SliceV×SliceV}{K:SliceV→af→Prop}(ho:OwnS RI 2 dI M h so out)(hM:∀b,h.size≤b→M b)(hn:out.length+1≤1000000000)
  (hk:∀s' h',OwnS RI 2 dI M h' s' (out++ [p])→Upd M h h'→K s' h'):
  ∃xs,SRow (hnew h (RI p) dI) (some (ag h)) (1*2) xs∧AppP (some [.slice none 0 0,.slice none 0 0]) 2 48 dI so.a so.len so.cap 1 xs (hnew h (RI p) dI) K:=by
 have k:=Upd.hnew No h (RI p) dI;have h1:OwnS RI 2 dI (fun _=>True) (hnew h (RI p) dI) ⟨some (ag h),1,1⟩ [p]:=⟨rfl,SY,aq _,.inr ⟨h.size,[],rfl,trivial,bR ..,rfl⟩⟩
 refine⟨_,(h1.sl (W:=No) fun _ _ _ h=>h).srow,?_⟩
 refine AppP.own (ys:= [p]) (ho.upd k fun _ _ h=>h) rfl rfl rfl rfl (by omega) (by simp only[aJ];omega) (hM _ (by rw[hH];omega)) fun s' h' ho' hu=>?_
 exact hk s' h' ho' ((Upd.hnew M h _ _).tr hu)
set_option maxHeartbeats 2000000 in
theorem Ld{W G0 C0:Nat→Prop}{x:Hs}{h:af}{cb:Nat}{fs0:List Fr}(cur:CurW W G0 C0 x h cb fs0)(hW0:∀b,h.size≤b→W b){K:(ByteArray×ByteArray)×Bool→af→Prop}
  (hn:∀h',CE x fs0= []→Upd (fun b=>C0 b∨b=cb) h h'→K (((⟨#[]⟩:ByteArray),(⟨#[]⟩:ByteArray)),false) h')
  (hs:∀h' fs' p R G' C',CE x fs0=p::R→CE x fs'=R→CurW W G' C' x h' cb fs'→(∀b,C' b→C0 b∨h.size≤b)→(∀b,G' b→G0 b∨h.size≤b)→Upd (fun b=>C0 b∨b=cb) h h'→K (p,true) h'):
  HC PG pe [.pointer (some ⟨cb,0,none⟩)] [.agg [.str,.str],.c .bool] K h:=by
 refine Aa (some ⟨cb,0,none⟩) ?_;unfold tq ae bS;refine bm fun h1 b1 k1=>ak.2 ?_
 have z1:=bF b1;obtain⟨s00,d00,hc0,_⟩:=cur.ex;have zc:=bF hc0;have s1:=k1.size;have cur1:=cur.upd k1 (fun _ h=>h.elim) (fun _ _ h=>h) (fun _ _ h=>h) fun h=>h
 refine LoopP.ghost (fun(g:List Fr×(Nat→Prop)×(Nat→Prop)) (_:Unit) h'=>CurW W g.2.1 g.2.2 x h' cb g.1∧CE x g.1=CE x fs0∧(∀b,g.2.2 b→(C0 b∨h.size≤b)∧b≠h.size)∧(∀b,g.2.1 b→(G0 b∨h.size≤b)∧b≠h.size)∧h'[h.size]? =some (.cells zPrL.toArray al (0,0))∧Upd (fun b=>C0 b∨b=cb) h h') (fun g=>Ec x g.1) (fs0,G0,C0)
  ⟨cur1,rfl,fun b hb=>⟨.inl hb,by have:=cur.lt b (.inl hb);omega⟩,fun b hb=>⟨.inl hb,by have:=cur.lt b (.inr hb);omega⟩,b1,k1.wide⟩ ?_
 rintro I ⟨fs,G,C⟩ ⟨⟩ h' ⟨cu,hrem,hCo,hGo,bz,hu⟩ hI;simp only at cu hrem hCo hGo;obtain⟨s,d,aL,hst⟩:=cu.ex;have hlen:=hst.len;rw[dP]at hlen;have hzs:h.size<h'.size:=bF bz;have zcb:=bF aL;refine⟨_,rfl,s,vc aL 0,?_⟩;refine ax (fun hpos=>?_) fun hnp=>?_
 ·obtain⟨fs',f,rfl⟩:∃fs' f,fs=fs'++ [f]:=by
   rcases yA fs with rfl|⟨l',y,e⟩
   ·simp only[aB]at hlen;omega
   ·exact⟨l',y,e⟩
  rw[dN,eI,j4]at hst;rw[ac,aJ]at hlen;have h14:=SQ (n:=13) cu.lv fun f hf=>(cu.ok f hf).n13
  rw[ac,aJ]at h14;have eidx:IntKind.wrap .i64 ((s.len:Int)-1)=((fs'.length:Nat):Int):=by rw[cS (by omega)];omega
  obtain⟨a,ha,hv⟩:=eH hst (i:=fs'.length) (by rw[dP]);have fo:=cu.ok f (co _ (aC.2 rfl));have hpl:=fo.p.len;have hkl:=fo.k.len;rw[dP]at hkl;have hpc:=fo.pc;have hkc:=fo.kc;have hcap:=hst.cap;refine⟨_,rfl,s,vc aL 0,_,rfl,s,vc aL 0,?_⟩;rw[eidx];refine⟨⟨by omega,by omega⟩,a,ha,_,rfl,f.sp,hv 0 _ rfl,?_⟩
  have keep:∀{h2:af} {M:Nat→Prop},Upd M h' h2→(∀b,M b→C b∨b=cb∨b=h.size∨h'.size≤b)→∀{g:Fr},g.Ok W G x h'→g.Ok W G x h2:=fun{h2 M} k hM {g} o=>o.upd k (fun b hb=>by
   rcases hM b hb with h|h|h|h
   ·exact .inl (cu.cw.1 b h)
   ·exact .inl (by rw[h];exact cu.cw.2)
   ·exact .inl (by rw[h];exact hW0 _ (aq _))
   ·exact .inr h) fun b hb=>by
   rcases hM b hb with h|h|h|h
   ·exact .inl fun hg=>(cu.dj b hg).1 h
   ·exact .inl fun hg=>(cu.dj b hg).2 h
   ·exact .inl fun hg=>(hGo b hg).2 h
   ·exact .inr h
  have lvs:=bH.1 cu.lv;have hrs:=yr x fs' f;have hcs:=zW x fs' f;refine ax (fun hp=>?_) fun hp=>?_
  ·
   rcases hps:f.ps with _|⟨p,ps⟩
   ·rw[hps]at hpl;simp only[aB]at hpl;omega
   have fop:=fo.p;rw[hps]at fop hpl;simp only[aj]at hpl;obtain⟨ap,hap,_,hvp⟩:=fop.at (i:=0) (x:=p) rfl;refine⟨_,rfl,f.sp,hv 0 _ rfl,⟨by omega,by omega⟩,ap,hap,p.1,hvp 0 _ rfl,p.2,hvp 1 _ rfl,?_⟩
   refine JX (p:=p) fun h8 b8 k8=>?_
   have z8:=bF b8;have hst8:=hst.upd k8 fun _ _ h=>h
   obtain⟨a',ha',hv8⟩:=eH hst8 (i:=fs'.length) (by rw[dP]);rw[ha]at ha';cases ha';refine⟨_,rfl,f.sp,hv8 0 _ rfl,⟨by omega,by omega⟩,_,rfl,?_⟩
   let f':Fr:=⟨⟨aM f.sp.a 1 f.sp.cap 2,f.sp.len-1,f.sp.cap-1⟩,f.sk,f.n,ps,f.ks⟩
   refine PJ hst8 (y:=f'.raw) (j:=0) (by omega) rfl ha (by simp) fun h9 ho9 hu9=>?_
   have c9:=hu9.get (k8.get0 aL) cu.cc;refine⟨_,rfl,s,vc c9 0,_,rfl,?_⟩;refine zr (i:=1) (c':=VQ s (s.len:Int)) c9 (show 1<2 by decide) rfl fun h10 c10 hu10=>?_
   have hCh:∀b,C b→b<h'.size:=fun b hb=>cu.lt b (.inl hb)
   have b9:=hu9.get b8 fun hx=>by have:=hCh _ hx;omega
   have b10:=hu10.oth b9 (by omega);refine⟨_,vc b10 0,_,vc b10 1,?_⟩;have bz10:=hu10.oth (hu9.get (k8.get0 bz) fun hx=>(hCo _ hx).2 rfl) (by omega)
   refine cR (c:=zPrL) (vs:= [.string p.1,.string p.2]) bz10 rfl fun h11 b11 hu11=>?_
   refine⟨_,vc b11 0,_,vc b11 1,?_⟩;have c11:=hu11.oth c10 (by omega);have hall:Upd (fun b=>C b∨b=cb∨b=h.size∨h'.size≤b) h' h11:=((k8.wide.trans hu9 fun b hb=>.inl (.inl hb)).trans hu10 fun b hb=>.inl (.inr (.inl hb))).trans hu11 fun b hb=>.inl (.inr (.inr (.inl hb)))
   have ho11:OwnS RI 2 dI C h11 s ((fs'++ [f']).map Fr.raw):=by
    rw[dN,eI,j4];exact(ho9.upd hu10 fun b hb e=>by have e:b=cb:=e;rw[e]at hb;exact cu.cc hb).upd hu11 fun b hb e=>(hCo b hb).2 e
   have fo':f'.Ok W G x h11:=by
    have o:=keep hall (fun b hb=>hb) fo
    refine⟨?_,o.k,by show f.sp.len-1≤f.sp.cap-1;omega,o.kc,o.t,o.n0,o.n13⟩
    have op:=o.p;rw[hps]at op;have:=Sl.sub op (l:=1) (hi:=(p::ps).length) (m:=f.sp.cap) (c:=f.sp.cap-1) (by simp) (aq _) (by simp only[aj];omega);rw[List.drop_one,List.tail_cons,aW (by simp)]at this;have e:(p::ps).length-1=f.sp.len-1:=by simp only[aj];omega
    rw[e]at this;exact this
   refine hs h11 (fs'++ [f']) p (f'.rem x++CE x fs') G C ?_ (yr x fs' f') ⟨⟨s,_,c11,ho11⟩,fun g hg=>?_,fun b hb=>ay (cu.lt b hb) hall.size,cu.dj,cu.cc,cu.cw,bH.2 ⟨lvs.1,bU ..,fun g hg g' hg'=>by rw[aC.1 hg'];exact lvs.2.2 g hg f (aC.2 rfl)⟩⟩ (fun b hb=>(hCo b hb).1) (fun b hb=>(hGo b hb).1) ?_
   ·rw[←hrem,hrs]
    unfold Fr.rem;rw[hps];rfl
   ·rcases bd.1 hg with hg|hg
    ·exact keep hall (fun b hb=>hb) (cu.ok g (cg _ hg))
    ·rw[aC.1 hg];exact fo'
   ·refine hu.trans hall fun b hb=>?_
    rcases hb with h|h|h|h
    ·exact(hCo b h).1.imp .inl id
    ·exact .inl (.inr h)
    ·exact .inr (by omega)
    ·exact .inr (by omega)
  ·have hps:f.ps= []:=av.1 (by omega)
   refine⟨_,rfl,f.sk,hv 1 _ rfl,?_⟩;refine ax (fun hk=>?_) fun hk=>?_
   ·
    rcases hks:f.ks with _|⟨kd,ks⟩
    ·rw[hks]at hkl;simp only[aB]at hkl;omega
    have fok:=fo.k;rw[hks]at fok hkl;simp only[aj]at hkl;rw[eI]at fok;obtain⟨ap,hap,_,hvp⟩:=fok.at0 (i:=0) (x:=L5 kd) rfl;have hfn:0<f.n:=fo.n0 (by rw[hks];simp);have hf13:=fo.n13;refine⟨_,rfl,f.sk,hv 1 _ rfl,⟨by omega,by omega⟩,ap,hap,_,hvp,_,rfl,f.sk,hv 1 _ rfl,⟨by omega,by omega⟩,_,rfl,?_⟩
    let f':Fr:=⟨f.sp,⟨aM f.sk.a 1 f.sk.cap 1,f.sk.len-1,f.sk.cap-1⟩,f.n,f.ps,ks⟩
    refine PJ hst (y:=f'.raw) (j:=1) (by omega) rfl ha (by simp) fun h8 ho8 hu8=>?_
    have c8:=hu8.get aL cu.cc;have hall8:Upd (fun b=>C b∨b=cb∨b=h.size∨h'.size≤b) h' h8:=hu8.mono fun b hb=>.inl (.inl hb)
    have s8:=hu8.size;refine⟨_,rfl,s,vc c8 0,?_⟩;have fo8:=keep hall8 (fun b hb=>hb) fo
    obtain⟨tk,hkn⟩:=fo8.t kd (by rw[hks];exact ar ..);refine Ib tk (by omega) hkn fun h9 g hgn hgr hgc go k9=>?_
    have c9:=k9.get0 c8;have s9:=k9.size;refine⟨vc c9 0,bi ⟨vc ((Upd.hnew No h9 (RI g.raw) dI).get0 c9) 0,?_⟩⟩;have hC9:∀b,C b→b<h9.size:=fun b hb=>by have:=cu.lt b (.inl hb);omega
    refine Tq (M:=fun b=>C b∨h9.size≤b) (p:=g.raw) ((ho8.upd k9 fun _ _ h=>h).more fun b hb=>.inl hb) (fun b hb=>.inr hb) (by rw[ac,dP,aJ];omega) fun VF h10 ho10 hu10=>?_
    have s10':=hu10.size;have c10:=hu10.get c9 (by rintro(hx|hx);exact cu.cc hx;omega)
    refine⟨_,rfl,?_⟩;refine zr (i:=0) (c':=VQ VF d) c10 (show 0<2 by decide) rfl fun h11 c11 hu11=>?_
    have s11:=hu11.size;have hall:Upd (fun b=>C b∨b=cb∨b=h.size∨h'.size≤b) h' h11:=((hall8.tr k9.wide).trans hu10 fun b hb=>hb.elim (fun h=>.inl (.inl h)) fun h=>.inr (by omega)).trans hu11 fun b hb=>.inl (.inr (.inl hb))
    have bz11:=hu11.oth (hu10.get (k9.get0 (hu8.get bz fun hx=>(hCo _ hx).2 rfl)) (by rintro(hx|hx);exact(hCo _ hx).2 rfl;omega)) (by omega)
    have hGl:∀b,G b→b<h'.size:=fun b hb=>cu.lt b (.inr hb)
    refine hI (fs'++ [f']++ [g],fun b=>G b∨(h8.size≤b∧b<h9.size),fun b=>(C b∨h9.size≤b)∧b<h10.size) () h11 ⟨⟨⟨VF,d,c11,?_⟩,fun g' hg'=>?_,fun b hb=>?_,fun b hb=>?_,fun hb=>?_,⟨fun b hb=>?_,cu.cw.2⟩,?_⟩,?_,fun b hb=>?_,fun b hb=>?_,bz11,?_⟩ ?_
    ·rw[dN,dN,eI,j4,eI,j4]
     exact ho10.within.upd hu11 fun b hb e=>by
      have e:b=cb:=e;rw[e]at hb;rcases hb.1 with h|h
      ·exact cu.cc h
      ·omega
    ·have hsubG:∀{q:Fr},q.Ok W G x h11→q.Ok W (fun b=>G b∨(h8.size≤b∧b<h9.size)) x h11:=fun o=>o.sub fun b hb=>.inl hb
     rcases bd.1 hg' with hg'|hg'
     ·rcases bd.1 hg' with hg'|hg'
      ·exact hsubG (keep hall (fun b hb=>hb) (cu.ok g' (cg _ hg')))
      ·rw[aC.1 hg']
       have o:=keep hall (fun b hb=>hb) fo
       refine hsubG ⟨o.p,?_,o.pc,by show f.sk.len-1≤f.sk.cap-1;omega,fun q hq=>o.t q (by rw[hks];exact aD _ hq),fun _=>hfn,hf13⟩
       have op:=o.k;rw[hks,eI]at op;have:=Sl.sub op (l:=1) (hi:=(L5 kd::ks.map L5).length) (m:=f.sk.cap) (c:=f.sk.cap-1) (by simp) (aq _) (by simp only[aj,dP];omega);rw[List.drop_one,List.tail_cons,aW (by simp)]at this;have e:(L5 kd::ks.map L5).length-1=f.sk.len-1:=by simp only[aj,dP];omega
       rw[e]at this;exact this
     ·rw[aC.1 hg']
      have o1:=go.upd hu10 (fun b hb=>hb.elim (fun h=>.inl (cu.cw.1 b h)) .inr) fun b hb=>hb.elim (fun h=>.inl fun hg=>by have:=cu.lt b (.inl h);omega) .inr
      have o2:=o1.upd hu11 (fun b hb=>.inl (by have hb:b=cb:=hb;rw[hb];exact cu.cw.2)) fun b hb=>.inl fun hg=>by have hb:b=cb:=hb;omega
      exact o2.sub fun b hb=>.inr hb
    ·rcases hb with hb|hb|hb
     ·omega
     ·have:=hGl b hb;omega
     ·omega
    ·refine⟨fun hc=>?_,fun e=>?_⟩
     ·rcases hb with hb|hb
      ·rcases hc.1 with h|h
       ·exact(cu.dj b hb).1 h
       ·have:=hGl b hb;omega
      ·rcases hc.1 with h|h
       ·have:=cu.lt b (.inl h);omega
       ·omega
     ·subst e
      rcases hb with hb|hb
      ·exact(cu.dj _ hb).2 rfl
      ·omega
    ·rcases hb.1 with h|h
     ·exact cu.cc h
     ·omega
    ·rcases hb.1 with h|h
     ·exact cu.cw.1 b h
     ·exact hW0 b (by omega)
    ·refine bH.2 ⟨bH.2 ⟨lvs.1,bU ..,fun q hq q' hq'=>by rw[aC.1 hq'];exact lvs.2.2 q hq f (aC.2 rfl)⟩,bU ..,fun q hq q' hq'=>?_⟩
     rw[aC.1 hq',hgn];rcases bd.1 hq with hq|hq
     ·have:=lvs.2.2 q hq f (aC.2 rfl);omega
     ·rw[aC.1 hq];show f.n-1<f.n;omega
    ·rw[yr,yr,←hrem,hrs,hgr]
     unfold Fr.rem;rw[hps,hks,List.flatMap_cons];simp;rfl
    ·refine⟨?_,?_⟩
     ·rcases hb.1 with h|h
      ·exact(hCo b h).1
      ·exact .inr (by omega)
     ·rcases hb.1 with h|h
      ·exact(hCo b h).2
      ·omega
    ·refine⟨?_,?_⟩
     ·rcases hb with h|h
      ·exact(hGo b h).1
      ·exact .inr (by omega)
     ·rcases hb with h|h
      ·exact(hGo b h).2
      ·omega
    ·refine hu.trans hall fun b hb=>?_
     rcases hb with h|h|h|h
     ·exact(hCo b h).1.imp .inl id
     ·exact .inl (.inr h)
     ·exact .inr (by omega)
     ·exact .inr (by omega)
    ·show Ec x (fs'++ [f']++ [g])<Ec x (fs'++ [f])
     rw[zW,zW,hcs];have e1:f.cost x=f'.cost x+cw x (f.n-1) kd.2:=by
      unfold Fr.cost;rw[hks,eI,List.sum_cons];have e0:(f'.ks.map fun k=>cw x (f'.n-1) k.2).sum=(ks.map fun k=>cw x (f.n-1) k.2).sum:=rfl
      omega
     omega
   ·
    have hks:f.ks= []:=av.1 (by omega);refine⟨_,rfl,s,vc aL 0,_,rfl,s,vc aL 0,?_⟩;rw[eidx];refine⟨⟨by omega,by omega⟩,?_⟩
    simp only[Bd];refine⟨_,rfl,?_⟩;refine zr (i:=0) (c':=VQ ⟨aM s.a 0 s.cap 2,fs'.length,s.cap⟩ d) aL (show 0<2 by decide) rfl fun h8 c8 hu8=>?_
    have hpop:=OwnS.pop hst;rw[dP]at hpop;have hall:Upd (fun b=>C b∨b=cb∨b=h.size∨h'.size≤b) h' h8:=hu8.mono fun b hb=>.inl (.inr (.inl hb))
    refine hI (fs',G,C) () h8 ⟨⟨⟨_,d,c8,hpop.upd hu8 fun b hb e=>by have e:b=cb:=e;rw[e]at hb;exact cu.cc hb⟩,fun g hg=>keep hall (fun b hb=>hb) (cu.ok g (cg _ hg)),fun b hb=>ay (cu.lt b hb) hall.size,cu.dj,cu.cc,cu.cw,lvs.1⟩,?_,hCo,hGo,hu8.oth bz (by omega),hu.trans hu8 fun b hb=>.inl (.inr hb)⟩ ?_
    ·rw[←hrem,hrs]
     unfold Fr.rem;rw[hps,hks];rfl
    ·show Ec x fs'<Ec x (fs'++ [f])
     rw[hcs];unfold Fr.cost;omega
 ·have h0:fs= []:=av.1 (by omega)
  subst h0;refine⟨_,rfl,?_⟩;refine zr (i:=1) (c':=VQ s 0) aL (show 1<2 by decide) rfl fun h8 c8 hu8=>?_
  refine cR (c:=zPrL) (vs:=zPrL) (hu8.oth bz (by omega)) rfl fun h9 b9 hu9=>?_
  refine⟨_,vc b9 0,_,vc b9 1,hn h9 hrem.symm ((hu.trans hu8 fun b hb=>.inl (.inr hb)).trans hu9 fun b hb=>.inr (Nat.le_of_eq (Eq.symm hb)))⟩
end Go.Proofs
namespace Go.Proofs
open Go Go.Lift
def Below(W:Nat→Prop)(x:Hs)(h:af)(m:Nat)(r:Option Addr)(l:List Pr):Prop:=(r=none∧l= [])∨∃b,r=some ⟨b,0,none⟩∧TrieAt W x h m b l
theorem Below.upd0{W:Nat→Prop}{x:Hs}{h h':af}{m:Nat}{r:Option Addr}{l:List Pr}(k:Upd No h h')(t:Below W x h m r l):Below W x h' m r l:=t.imp id fun⟨b,e,t⟩=>⟨b,e,TrieAt.upd0 k t⟩
theorem Below.less{W W':Nat→Prop}{x:Hs}{h:af}{m:Nat}{r:Option Addr}{l:List Pr}(hm:∀b,W' b→W b∨h.size≤b)(t:Below W x h m r l):Below W' x h m r l:=t.imp id fun⟨b,e,t⟩=>⟨b,e,TrieAt.less hm t⟩
theorem Below.updM{W M:Nat→Prop}{x:Hs}{h h':af}{m:Nat}{r:Option Addr}{l:List Pr}(k:Upd M h h')(hm:∀b,M b→W b∨h.size≤b)(t:Below W x h m r l):Below W x h' m r l:=t.imp id fun⟨b,e,t⟩=>⟨b,e,TrieAt.updM k hm t⟩
theorem U3(x:Hs):∀m,wl x m []= []
 |0=>rfl
 |m+1=>av.1 (Nat.le_zero.1 (Jw x (m+1) []))
theorem Np{W:Nat→Prop}{x:Hs}{h:af}{m:Nat}{r:Option Addr}{l:List Pr}(t:Below W x h m r l)(hm:m≤13)(hn:l.length≤100000){K:SliceV×SliceV→af→Prop}
  (hk:∀h' f,Fr.rem x f=wl x m l→f.Ok W (fun y=>h.size≤y∧y<h'.size) x h'→Upd No h h'→K f.raw h'):HC PG vj [.pointer r] [.agg [.slice,.slice]] K h:=by
 rcases t with⟨rfl,rfl⟩|⟨b,rfl,t⟩
 ·refine Jo none ?_
  unfold Dr ae;refine bm fun h1 b1 k1=>?_
  refine uh none ?_;unfold qb ae;refine au.2 (vu none ?_);unfold qP ae;refine au.2 ?_;refine cR (c:= [.slice none 0 0,.slice none 0 0]) (vs:= [.slice none 0 0,.slice none 0 0]) b1 rfl fun h4 b4 hu4=>?_
  refine⟨⟨none,0,0⟩,vc b4 0,⟨none,0,0⟩,vc b4 1,?_⟩;refine hk h4 ⟨⟨none,0,0⟩,⟨none,0,0⟩,0,[],[]⟩ ?_ ⟨Sl.nil gg,Sl.nil rQ,aq _,aq _,fun k hk=>(by cases hk),fun h=>absurd rfl h,be _⟩ (k1.own hu4 (aq _))
  rw[U3];rfl
 ·exact Ib t hm hn fun h' f _ h2 _ h4 h5=>hk h' f h2 h4 h5
theorem Nq{W:Nat→Prop}{x:Hs}{h:af}{m:Nat}{r:Option Addr}{l:List Pr}(t:Below W x h m r l)(hm:m≤13)(hn:l.length≤100000)(hW:∀y,h.size≤y→W y){K:Option Addr→af→Prop}
  (hk:∀h' cb f G C,h.size≤cb→(∀y,G y∨C y→h.size≤y)→CurW W G C x h' cb [f]→f.rem x=wl x m l→Upd No h h'→K (some ⟨cb,0,none⟩) h'):HC PG zO [.pointer r] [.c .ptr] K h:=by
 refine OY r ?_;unfold GN;refine Np t hm hn fun h2 f hfr fo k2=>?_
 refine bm fun h3 b3 k3=>bm fun h4 b4 k4=>?_
 have z3:=bF b3;have z4:=bF b4;have s2:=k2.size;have s3:=k3.size;have o3:OwnS RI 2 dI (fun y=>y=h2.size) h3 ⟨some (ag h2),1,1⟩ [f.raw]:=⟨rfl,SY,aq _,.inr ⟨h2.size,[],rfl,rfl,b3,rfl⟩⟩
 refine hk h4 h3.size f (fun y=>h.size≤y∧y<h2.size) (fun y=>y=h2.size) (by omega) (fun y hy=>by rcases hy with h|h<;>omega) ⟨⟨_,0,b4,o3.upd k4 fun _ _ h=>h⟩,fun g hg=>?_,fun y hy=>by rcases hy with h|h<;>omega,fun y hy=>⟨by omega,by omega⟩,by omega,⟨fun y hy=>hW y (by omega),hW _ (by omega)⟩,bU ..⟩ hfr ((k2.tr k3).tr k4)
 rw[aC.1 hg];exact fo.upd (k3.tr k4) (fun _ h=>h.elim) fun _ h=>h.elim
theorem Nr{W:Nat→Prop}{x:Hs}{h:af}{m:Nat}{r:Option Addr}{l:List Pr}(t:Below W x h m r l)(hm:m≤13)(hn:l.length≤100000){K:Value→af→Prop}
  (hk:∀fv h',Gives PG fv Vq l.length (fun xs=>xs=wl x m l) (fun y=>y<h'.size) h'→Upd No h h'→K fv h'):HC PG zP [.pointer r] [.c .raw] K h:=by
 refine OZ r ?_;unfold GO;refine bm fun h1 b1 k1=>?_
 have z1:=bF b1;refine hk _ h1 ?_ k1;have t1:=Below.less (W':=fun y=>h1.size≤y) (fun y hy=>.inr hy) (Below.upd0 k1 t)
 have hwl:=Jw x m l;refine⟨fun y hy=>hy,su,#[],_,rfl,fun y J A M h4 K' ht hj hu hq ha hk'=>?_⟩
 refine HQ y (ag h) ?_;unfold wM ae;have d1:=hu.get b1 (hq _ z1);have s4:=hu.size;have t4:Below (fun y=>h1.size≤y) x h4 m r l:=Below.updM hu (fun y hy=>.inl (by
  rcases bX y h1.size with hl|hl
  ·exact absurd hy (hq y hl)
  ·exact hl)) t1
 refine⟨_,bf d1,?_⟩;refine Nq t4 hm hn (fun y hy=>aZ s4 hy) fun h5 cb f G C hcb hGC cur hfr k5=>?_
 have hAlt:=ht.lt _ _ _ hj;have hA3:∀y,A y→h1.size≤y:=fun y hy=>by
  rcases bX y h1.size with hl|hl
  ·exact absurd hl (ha y hy)
  ·exact hl
 have s5:=k5.size;have hrem0:CE x [f]=wl x m l:=by rw[←hfr];simp[CE]
 refine LoopP.ghost (fun(g:List Pr×List Fr×(Nat→Prop)×(Nat→Prop)×(Nat→Prop)) (_:Unit) h'=>CurW (fun y=>h1.size≤y) g.2.2.2.1 g.2.2.2.2 x h' cb g.2.1∧J g.1 g.2.2.1 h'∧Upd A h4 h'∧(∀y,g.2.2.1 y→(A y∨h4.size≤y)∧¬g.2.2.2.1 y∧¬g.2.2.2.2 y∧y≠cb)∧(∀y,g.2.2.2.1 y∨g.2.2.2.2 y→h4.size≤y)∧g.1++CE x g.2.1=wl x m l∧h5.size≤h'.size) (fun g=>(CE x g.2.1).length) ([],[f],A,G,C)
  ⟨cur,ht.keep _ _ _ _ No hj k5 (fun _ _ h=>h),k5.wide,fun y hy=>⟨.inl hy,fun hx=>by have:=hAlt y hy;have:=hGC y (.inl hx);omega,fun hx=>by have:=hAlt y hy;have:=hGC y (.inr hx);omega,fun e=>by have:=hAlt y hy;omega⟩,hGC,by rw[hrem0];rfl,aq _⟩ ?_
 rintro I ⟨pre,fs,A1,G1,C1⟩ ⟨⟩ h' ⟨cu,hj',hu',hA1,hGC1,hrem,hsz⟩ hI;simp only at cu hj' hA1 hGC1 hrem;have hlt':=ht.lt _ _ _ hj';have hA1W:∀y,A1 y→h1.size≤y:=fun y hy=>(hA1 y hy).1.elim (hA3 y) fun h=>by omega
 have hd:∀y,A1 y→¬(C1 y∨y=cb):=fun y hy hx=>hx.elim (hA1 y hy).2.2.1 (hA1 y hy).2.2.2
 have hC4:∀y,C1 y∨y=cb→h4.size≤y:=fun y hy=>hy.elim (fun h=>hGC1 y (.inr h)) fun e=>by omega
 refine Ld cu (fun y hy=>by omega) (fun h6 hr0 hu6=>?_) fun h6 fs' p R G' C' hr1 hr2 cu6 hC' hG' hu6=>?_
 ·have hj6:=ht.keep _ _ _ _ _ hj' hu6 hd
  refine AO fun h7 b7 k7=>?_
  refine Join.intro (fun t h8=>t=true∧h8=h7) (fun R hR=>au.2 (hR _ _ ⟨rfl,rfl⟩)) ?_
  rintro t h8 ⟨rfl,rfl⟩;refine au.2 (hk' pre A1 h8 ?_ (ht.keep _ _ _ _ No hj6 k7 (fun _ _ h=>h)) ?_ fun y hy=>(hA1 y hy).1)
  ·rw[hr0,aG]at hrem
   exact hrem
  ·exact(hu'.trans hu6 fun y hy=>.inr (hC4 y hy)).tr k7.wide
 ·have hj6:=ht.keep _ _ _ _ _ hj' hu6 hd
  refine AO (p:=p) fun h7 b7 k7=>?_
  have hj7:=ht.keep _ _ _ _ No hj6 k7 (fun _ _ h=>h)
  have cu7:=cu6.upd k7 (fun _ h=>h.elim) (fun _ _ h=>h) (fun _ _ h=>h) fun h=>h
  have hu47:Upd A h4 h7:=(hu'.trans hu6 fun y hy=>.inr (hC4 y hy)).tr k7.wide
  have s6:=hu6.size;have s7:=k7.size;refine Join.intro (fun t h8=>t=false∧∃A3,J (pre++ [p]) A3 h8∧Upd A1 h7 h8∧∀y,A3 y→A1 y∨h7.size≤y) (fun R' hR=>?_) ?_
  ·refine ak.2 ⟨_,vc b7 0,_,vc b7 1,?_⟩
   refine ht.step pre A1 h7 p _ hj7 ?_ fun h8 A3 hj8 hu8 hA8=>hR _ _ ⟨rfl,A3,hj8,hu8,hA8⟩
   have:=congrArg List.length hrem;rw[hr1]at this;simp only[ac,aj]at this;omega
  ·rintro t h8 ⟨rfl,A3,hj8,hu8,hA8⟩
   have hG'1:∀y,G' y→¬A1 y:=fun y hy hx=>(hG' y hy).elim (hA1 y hx).2.1 fun h=>by have:=hlt' y hx;omega
   have hC'1:∀y,C' y→¬A1 y:=fun y hy hx=>(hC' y hy).elim (hA1 y hx).2.2.1 fun h=>by have:=hlt' y hx;omega
   have hcb6:cb<h6.size:=by obtain⟨s,d,hx,_⟩:=cu6.ex;exact bF hx
   refine ak.2 (hI (pre++ [p],fs',A3,G',C') () h8 ⟨?_,hj8,?_,fun y hy=>?_,fun y hy=>?_,?_,by have:=hu8.size;omega⟩ ?_)
   ·exact cu7.upd hu8 (fun y hy=>.inl (hA1W y hy)) hC'1 hG'1 fun hx=>(hA1 _ hx).2.2.2 rfl
   ·exact hu47.trans hu8 fun y hy=>(hA1 y hy).1
   ·rcases hA8 y hy with h|h
    ·exact⟨(hA1 y h).1,fun hx=>hG'1 y hx h,fun hx=>hC'1 y hx h,(hA1 y h).2.2.2⟩
    ·exact⟨.inr (by omega),fun hx=>by have:=cu6.lt y (.inr hx);omega,fun hx=>by have:=cu6.lt y (.inl hx);omega,by omega⟩
   ·rcases hy with hy|hy
    ·rcases hG' y hy with h|h
     ·exact hGC1 y (.inl h)
     ·omega
    ·rcases hC' y hy with h|h
     ·exact hGC1 y (.inr h)
     ·omega
   ·simp only
    rw[ao,hr2,←hrem,hr1];rfl
   ·simp only
    rw[hr1,hr2];simp
theorem Hf{W W':Nat→Prop}{x:Hs}{h:af}{m:Nat}{r:Option Addr}{l:List Pr}(t:Below W x h m r l)(hm:m≤13)(hr:bD l)(hn:l.length≤100000)(hW':∀y,W' y→y<h.size){K:SliceV→af→Prop}
  (hk:∀s' h',Sl eh 2 W' h' s' l→s'.len≤s'.cap→Upd No h h'→K s' h'):HC PG uI [.pointer r] [.c .slice] K h:=by
 refine Hz r ?_;unfold y8;refine Nr t hm hn fun fv h2 hg k2=>?_
 refine MA hg (by omega) fun s3 h3 xs e ho k3=>?_
 subst e;have hwl:=Jw x m l;refine Cu (W':=W') (ho.sl (W:=No) fun _ _ _ h=>h) (fun y hy=>ay (hW' y hy) (k2.tr k3).size) (by omega) fun s4 h4 hs4 hc4 k4=>?_
 rw[U8 hr]at hs4;exact hk s4 h4 hs4 hc4 ((k2.tr k3).tr k4)
end Go.Proofs
namespace Go.Proofs
open Go.Lift
abbrev Ch:=ByteArray×ByteArray×ByteArray×Bool×Bool
abbrev p5(c:Ch):List Value:= [.string c.1,.string c.2.1,.string c.2.2.1,.bool c.2.2.2.1,.bool c.2.2.2.2]
def Hx(p:Pr):Ch:=(p.1,p.2,⟨#[]⟩,true,false)
def TJ(p:Pr):Ch:=(p.1,⟨#[]⟩,p.2,false,true)
def fy:List Pr→List Pr→List Ch
 | [],B=>B.map TJ
 |a::A,[]=>Hx a::fy A []
 |a::A,b::B=>if kl a.1 b.1 then Hx a::fy A (b::B)else if kl b.1 a.1 then TJ b::fy (a::A) B else if a.2=b.2 then fy A B else(a.1,a.2,b.2,true,true)::fy A B
termination_by A B=>A.length+B.length
theorem iV(B:List Pr):fy [] B=B.map TJ:=by unfold fy;rfl
theorem vp:∀A:List Pr,fy A []=A.map Hx
 | []=>by rw[iV];rfl
 |a::A=>by unfold fy;rw[vp A];rfl
theorem rD(a b:Pr)(A B:List Pr):fy (a::A) (b::B)=if kl a.1 b.1 then Hx a::fy A (b::B)else if kl b.1 a.1 then TJ b::fy (a::A) B else if a.2=b.2 then fy A B else(a.1,a.2,b.2,true,true)::fy A B:=by
 conv=>lhs;unfold fy
theorem F4{a b:ByteArray}(h:kl a b):¬kl b a:=fun k=>bQ _ (fp h k)
theorem te{a:Pr}{A:List Pr}:∀{B:List Pr},(∀q∈B,kl a.1 q.1)→fy (a::A) B=Hx a::fy A B
 | [],_=>by rw[vp,vp];rfl
 |b::B,h=>by rw[rD,if_pos (h b (ar ..))]
theorem td{b:Pr}{B:List Pr}:∀{A:List Pr},(∀q∈A,kl b.1 q.1)→fy A (b::B)=TJ b::fy A B
 | [],_=>by rw[iV,iV];rfl
 |a::A,h=>by
  have h:=h a (ar ..);rw[rD,if_neg (F4 h),if_pos h]
theorem Bf:∀A:List Pr,fy A A= []
 | []=>by rw[iV];rfl
 |a::A=>by rw[rD,if_neg (bQ _),if_neg (bQ _),if_pos rfl,Bf A]
def xi(a b:Pr):List Ch:=if a.2=b.2 then[]else[(a.1,a.2,b.2,true,true)]
theorem rB{a b:Pr}(e:a.1=b.1)(A B:List Pr):fy (a::A) (b::B)=xi a b++fy A B:=by
 rw[rD,e,if_neg (bQ _),if_neg (bQ _)];unfold xi;split
 ·rfl
 ·rw[←e];rfl
theorem yB:∀{A B:List Pr} {c:Ch},c∈fy A B→∃p,p∈A++B∧c.1=p.1
 | [],B,c,h=>by
  rw[iV]at h;obtain⟨p,hp,e⟩:=jb.1 h;exact⟨p,hp,by rw[←e];rfl⟩
 |a::A,[],c,h=>by
  rw[vp]at h;obtain⟨p,hp,e⟩:=jb.1 h;exact⟨p,cg _ hp,by rw[←e];rfl⟩
 |a::A,b::B,c,h=>by
  rw[rD]at h;by_cases h1:kl a.1 b.1
  ·rw[if_pos h1]at h
   rcases az.1 h with h|h
   ·exact⟨a,ar ..,by rw[h];rfl⟩
   ·obtain⟨p,hp,e⟩:=yB h
    exact⟨p,aD _ hp,e⟩
  ·rw[if_neg h1]at h
   by_cases h2:kl b.1 a.1
   ·rw[if_pos h2]at h
    rcases az.1 h with h|h
    ·exact⟨b,co _ (ar ..),by rw[h];rfl⟩
    ·obtain⟨p,hp,e⟩:=yB h
     refine⟨p,?_,e⟩;rcases bd.1 hp with hp|hp
     ·exact cg _ hp
     ·exact co _ (aD _ hp)
   ·rw[if_neg h2]at h
    have hs:c∈fy A B→∃p,p∈a::A++b::B∧c.1=p.1:=fun h=>by
     obtain⟨p,hp,e⟩:=yB h;refine⟨p,?_,e⟩;rcases bd.1 hp with hp|hp
     ·exact cg _ (aD _ hp)
     ·exact co _ (aD _ hp)
    split at h
    ·exact hs h
    ·rcases az.1 h with h|h
     ·exact⟨a,ar ..,by rw[h]⟩
     ·exact hs h
termination_by A B=>A.length+B.length
theorem ox{P:List Pr→List Pr→Prop}(nil:P [] [])(lowA:∀a A B,bD (a::A)→bD B→(∀q∈B,kl a.1 q.1)→P A B→P (a::A) B)
  (lowB:∀b A B,bD A→bD (b::B)→(∀q∈A,kl b.1 q.1)→P A B→P A (b::B))(same:∀a b A B,a.1=b.1→bD (a::A)→bD (b::B)→P A B→P (a::A) (b::B)):
  ∀{A B:List Pr},bD A→bD B→P A B
 | [],[],_,_=>nil
 | [],b::B,hA,hB=>lowB b [] B hA hB (fun _ h=>absurd h ge) (ox nil lowA lowB same hA (aA.1 hB).2)
 |a::A,[],hA,hB=>lowA a A [] hA hB (fun _ h=>absurd h ge) (ox nil lowA lowB same (aA.1 hA).2 hB)
 |a::A,b::B,hA,hB=>by
  have hA':=aA.1 hA;have hB':=aA.1 hB;by_cases h1:kl a.1 b.1
  ·refine lowA a A (b::B) hA hB (fun q hq=>?_) (ox nil lowA lowB same hA'.2 hB)
   rcases az.1 hq with hq|hq
   ·rw[hq];exact h1
   ·exact fp h1 (hB'.1 q hq)
  ·by_cases h2:kl b.1 a.1
   ·refine lowB b (a::A) B hA hB (fun q hq=>?_) (ox nil lowA lowB same hA hB'.2)
    rcases az.1 hq with hq|hq
    ·rw[hq];exact h2
    ·exact fp h2 (hA'.1 q hq)
   ·have e:a.1=b.1:=Decidable.byContradiction fun hne=>h2 (o9 h1 hne)
    exact same a b A B e hA hB (ox nil lowA lowB same hA'.2 hB'.2)
termination_by A B=>A.length+B.length
abbrev lx(l:List Ch):Prop:=l.Pairwise fun p q=>kl p.1 q.1
theorem mQ{A B:List Pr}(hA:bD A)(hB:bD B):lx (fy A B):=by
 refine ox (P:=fun A B=>lx (fy A B)) ?_ (fun a A B hA _ h i=>?_) (fun b A B _ hB h i=>?_) (fun a b A B e hA hB i=>?_) hA hB
 ·rw[iV];exact .nil
 ·rw[te h]
  refine aA.2 ⟨fun c hc=>?_,i⟩
  obtain⟨p,hp,e⟩:=yB hc;rw[e];rcases bd.1 hp with hp|hp
  ·exact(aA.1 hA).1 p hp
  ·exact h p hp
 ·rw[td h]
  refine aA.2 ⟨fun c hc=>?_,i⟩
  obtain⟨p,hp,e⟩:=yB hc;rw[e];rcases bd.1 hp with hp|hp
  ·exact h p hp
  ·exact(aA.1 hB).1 p hp
 ·rw[rB e]
  unfold xi;split
  ·exact i
  ·refine aA.2 ⟨fun c hc=>?_,i⟩
   obtain⟨p,hp,e'⟩:=yB hc;rw[e'];rcases bd.1 hp with hp|hp
   ·exact(aA.1 hA).1 p hp
   ·rw[e];exact(aA.1 hB).1 p hp
theorem OH(g:ByteArray→Bool){A B:List Pr}(hA:bD A)(hB:bD B):fy (A.filter fun p=>g p.1) (B.filter fun p=>g p.1)=(fy A B).filter fun c=>g c.1:=by
 refine ox (P:=fun A B=>fy (A.filter fun p=>g p.1) (B.filter fun p=>g p.1)=(fy A B).filter fun c=>g c.1) ?_ (fun a A B hA _ h i=>?_) (fun b A B _ hB h i=>?_) (fun a b A B e hA hB i=>?_) hA hB
 ·rw[rY,iV];rfl
 ·rw[te h,bK,bK,←i]
  show fy (if g a.1=true then _ else _) _=if g a.1=true then _ else _
  by_cases hg:g a.1=true
  ·rw[if_pos hg,if_pos hg,te fun q hq=>h q (dg.1 hq).1]
  ·rw[if_neg hg,if_neg hg]
 ·rw[td h,bK,bK,←i]
  show fy _ (if g b.1=true then _ else _)=if g b.1=true then _ else _
  by_cases hg:g b.1=true
  ·rw[if_pos hg,if_pos hg,td fun q hq=>h q (dg.1 hq).1]
  ·rw[if_neg hg,if_neg hg]
 ·rw[rB e,il,←i,bK,bK,←e]
  unfold xi;by_cases hg:g a.1=true
  ·rw[if_pos hg,if_pos hg,rB e]
   unfold xi;split
   ·rfl
   ·rw[bK,if_pos hg];rfl
  ·rw[if_neg hg,if_neg hg]
   split
   ·rfl
   ·rw[bK,if_neg hg];rfl
theorem Fg{A2 B2:List Pr}:∀{A1 B1:List Pr},bD A1→bD B1→(∀p∈A1,∀q∈A2,kl p.1 q.1)→(∀p∈A1,∀q∈B2,kl p.1 q.1)→(∀p∈B1,∀q∈A2,kl p.1 q.1)→(∀p∈B1,∀q∈B2,kl p.1 q.1)→
  fy (A1++A2) (B1++B2)=fy A1 B1++fy A2 B2:=by
 intro A1 B1 hA hB;refine ox (P:=fun A1 B1=>(∀p∈A1,∀q∈A2,kl p.1 q.1)→(∀p∈A1,∀q∈B2,kl p.1 q.1)→(∀p∈B1,∀q∈A2,kl p.1 q.1)→(∀p∈B1,∀q∈B2,kl p.1 q.1)→fy (A1++A2) (B1++B2)=fy A1 B1++fy A2 B2) ?_ (fun a A B hA _ h i=>?_) (fun b A B _ hB h i=>?_) (fun a b A B e hA hB i=>?_) hA hB
 ·intro _ _ _ _;rw[iV];rfl
 ·intro h1 h2 h3 h4
  rw[ci,te h,te (fun q hq=>(bd.1 hq).elim (h q) (h2 a (ar ..) q)),i (fun p hp=>h1 p (aD _ hp)) (fun p hp=>h2 p (aD _ hp)) h3 h4];rfl
 ·intro h1 h2 h3 h4
  rw[ci,td h,td (fun q hq=>(bd.1 hq).elim (h q) (h3 b (ar ..) q)),i h1 h2 (fun p hp=>h3 p (aD _ hp)) (fun p hp=>h4 p (aD _ hp))];rfl
 ·intro h1 h2 h3 h4
  rw[ci,ci,rB e,rB e,i (fun p hp=>h1 p (aD _ hp)) (fun p hp=>h2 p (aD _ hp)) (fun p hp=>h3 p (aD _ hp)) (fun p hp=>h4 p (aD _ hp)),ao]
theorem wG{A B:List Pr}(hA:bD A)(hB:bD B):(fy A B).length≤A.length+B.length:=by
 refine ox (P:=fun A B=>(fy A B).length≤A.length+B.length) ?_ (fun a A B hA _ h i=>?_) (fun b A B _ hB h i=>?_) (fun a b A B e hA hB i=>?_) hA hB
 ·rw[iV];exact aq _
 ·rw[te h];simp only[aj];omega
 ·rw[td h];simp only[aj];omega
 ·rw[rB e,ac,aj,aj]
  have:(xi a b).length≤1:=by unfold xi;split<;>simp
  omega
theorem D3{α:Type}(g:α→Nat)(n:Nat):∀L:List α,((L.filter fun x=>decide (g x<n))++L.filter fun x=>decide (g x=n)).Perm (L.filter fun x=>decide (g x<n+1))
 | []=>.refl _
 |a::L=>by
  have i:=D3 g n L;rw[bK,bK,bK];by_cases h1:g a<n
  ·rw[if_pos (decide_eq_true h1),if_neg (by simp;omega),if_pos (by simp;omega)]
   exact i.cons a
  ·by_cases h2:g a=n
   ·rw[if_neg (by simp;omega),if_pos (by simpa using h2),if_pos (by simp;omega)]
    exact List.perm_middle.trans (i.cons a)
   ·rw[if_neg (by simp;omega),if_neg (by simpa using h2),if_neg (by simp;omega)]
    exact i
end Go.Proofs
namespace Go.Proofs
open Go Go.Lift
theorem zY(x:Ch):(p5 x).length=5∧0<5:=⟨rfl,by omega⟩
abbrev V9(x:Hs)(s:SliceV):Array Value:= #[.int .u64 x.k0,.int .u64 x.k1,.int .u64 x.mask,sv s]
structure SetAt(C:Nat→Prop)(h:af)(sb:Nat)(x:Hs)(L:List Ch):Prop where
 ex:∃s,h[sb]? =some (.cells (V9 x s) zv (0,0))∧OwnS p5 5 aO C h s L
 lt:∀b,C b→b<h.size
 ne:¬C sb
theorem SetAt.upd{C M:Nat→Prop}{h h':af}{sb:Nat}{x:Hs}{L:List Ch}(st:SetAt C h sb x L)(k:Upd M h h')(hC:∀b,C b→¬M b)(hs:¬M sb):SetAt C h' sb x L:=by
 obtain⟨s,h1,h2⟩:=st.ex;exact⟨⟨s,k.get h1 hs,h2.upd k hC⟩,fun b hb=>ay (st.lt b hb) k.size,st.ne⟩
theorem SetAt.upd0{C:Nat→Prop}{h h':af}{sb:Nat}{x:Hs}{L:List Ch}(st:SetAt C h sb x L)(k:Upd No h h'):SetAt C h' sb x L:=st.upd k (fun _ _ h=>h) fun h=>h
abbrev Ro(C:Nat→Prop)(h:af)(sb:Nat)(x:Hs)(L:List Ch)(G:af→Prop):Prop:=∀h' C',SetAt C' h' sb x L→(∀b,C' b→C b∨h.size≤b)→Upd (fun b=>C b∨b=sb) h h'→G h'
theorem NE{C:Nat→Prop}{h:af}{sb:Nat}{x:Hs}{L:List Ch}{s:SliceV}{c:Ch}(st:SetAt C h sb x L)(hb:h[sb]? =some (.cells (V9 x s) zv (0,0))) (ho:OwnS p5 5 aO C h s L) (hn:L.length+1≤100000000) {G:af→Prop} (hk:Ro C h sb x (L++ [c]) G):
  At (hnew h [.string c.1,.string c.2.1,.string c.2.2.1,.bool c.2.2.2.1,.bool c.2.2.2.2] aO) (fun h1=>aL h1 (adr ⟨sb,0,none⟩ 3)=some (.slice s.a s.len s.cap)∧∃xs,SRow h1 (some (ag h)) (1*5) xs∧
   AppP (some [.string (⟨#[]⟩:ByteArray),.string (⟨#[]⟩:ByteArray),.string (⟨#[]⟩:ByteArray),.bool false,.bool false]) 5 56 aO s.a s.len s.cap 1 xs h1 (fun s2 h2=>∃a:Addr,some (⟨sb,0,none⟩:Addr)=some a∧(Wr h2 (adr a 3)∧At (hset h2 (adr a 3) (.slice s2.a s2.len s2.cap)) G))):=by
 refine bm fun h1 b1 k1=>⟨vc (k1.get0 hb) 3,?_⟩
 have z1:=bF b1;have s1:=k1.size;have zb:=bF hb;have h1o:OwnS p5 5 aO (fun _=>True) h1 ⟨some (ag h),1,1⟩ [c]:=⟨rfl,zY,aq _,.inr ⟨h.size,[],rfl,trivial,b1,rfl⟩⟩
 refine⟨_,(h1o.sl (W:=No) fun _ _ _ h=>h).srow,?_⟩
 refine AppP.own (M:=fun b=>C b∨h1.size≤b) (ys:= [c]) ((ho.upd k1 fun _ _ h=>h).more fun _ h=>.inl h) rfl rfl rfl rfl (by omega) (by simp only[aJ];omega) (.inr (aq _)) fun s2 h2 ho2 hu2=>?_
 have b2:=hu2.get (k1.get0 hb) fun h=>h.elim st.ne fun h=>by omega
 have s2z:=hu2.size;refine⟨_,rfl,zr (c':=V9 x s2) b2 (by simp) rfl fun h3 b3 hu3=>?_⟩
 refine hk h3 (fun b=>(C b∨h1.size≤b)∧b<h2.size) ⟨⟨s2,b3,(ho2.within).upd hu3 fun b hb e=>?_⟩,fun b hb=>ay hb.2 hu3.size,fun hb=>?_⟩ (fun b hb=>hb.1.imp id fun h=>by omega) ?_
 ·have e:b=sb:=e
  rw[e]at hb;exact hb.1.elim st.ne fun h=>by omega
 ·exact hb.1.elim st.ne fun h=>by omega
 ·exact((k1.wide.trans hu2 fun b hb=>hb.elim (fun h=>.inl (.inl h)) fun h=>.inr (by omega)).trans hu3 fun b hb=>.inl (.inr hb))
theorem PF{W:Nat→Prop}{h:af}{s:SliceV}{p:Pr}{l:List Pr}(hs:Sl eh 2 W h s (p::l))(hc:s.len≤s.cap):Sl eh 2 W h ⟨aM s.a 1 s.cap 2,s.len-1,s.cap-1⟩ l:=by
 have hl:=hs.len;rw[aj]at hl;have:=Sl.sub hs (l:=1) (hi:=s.len) (m:=s.cap) (c:=s.cap-1) (by omega) (by rw[aj];omega) hc;rw[show((p::l).drop 1).take (s.len-1)=l by rw[List.drop_succ_cons,List.drop_zero];exact aW (by omega)]at this
 exact this
theorem AW{C:Nat→Prop}{h:af}{sb:Nat}{x:Hs}{L:List Ch}{s s':SliceV}{A B:List Pr}(st:SetAt C h sb x L)(hs:Sl eh 2 (fun b=>C b∨b=sb) h s A)(hs':Sl eh 2 (fun b=>C b∨b=sb) h s' B)(hc:s.len≤s.cap)(hc':s'.len≤s'.cap)
  (hn:L.length+A.length+B.length≤100000000){K:Unit→af→Prop}(hk:Ro C h sb x (L++fy A B) (K ())):HC PG ig [.pointer (some ⟨sb,0,none⟩),.slice s.a s.len s.cap,.slice s'.a s'.len s'.cap] [] K h:=by
 refine Dp (some ⟨sb,0,none⟩) s s' ?_;unfold vK ae bS;have hss:=hs.less (W':=fun b=>C b∨b=sb∨h.size≤b) fun b hb=>hb.elim (fun h=>.inl (.inl h)) fun h=>h.elim (fun h=>.inl (.inr h)) .inr
 have hss':=hs'.less (W':=fun b=>C b∨b=sb∨h.size≤b) fun b hb=>hb.elim (fun h=>.inl (.inl h)) fun h=>h.elim (fun h=>.inl (.inr h)) .inr
 refine LoopP.ghost (fun(g:List Pr×List Pr×List Ch×(Nat→Prop)) (t:SliceV×SliceV) h'=>SetAt g.2.2.2 h' sb x g.2.2.1∧(∀b,g.2.2.2 b→C b∨h.size≤b)∧Upd (fun b=>C b∨b=sb) h h'∧Sl eh 2 (fun b=>C b∨b=sb∨h.size≤b) h' t.1 g.1∧Sl eh 2 (fun b=>C b∨b=sb∨h.size≤b) h' t.2 g.2.1∧t.1.len≤t.1.cap∧t.2.len≤t.2.cap∧g.2.2.1++fy g.1 g.2.1=L++fy A B∧g.2.2.1.length+g.1.length+g.2.1.length≤L.length+A.length+B.length)
  (fun g=>g.1.length+g.2.1.length) (A,B,L,C) ⟨st,fun _ h=>.inl h,Upd.refl _ _,hss,hss',hc,hc',rfl,aq _⟩ ?_
 rintro I ⟨A1,B1,L1,C1⟩ ⟨t1,t2⟩ h1 ⟨st1,hC1,hu1,hs1,hs2,hc1,hc2,he,hln⟩ hI;simp only at st1 hC1 hs1 hs2 hc1 hc2 he hln;have l1:t1.len=A1.length:=hs1.len;have l2:t2.len=B1.length:=hs2.len;obtain⟨sl,hb1,ho1⟩:=st1.ex;have go:∀(c:List Ch) (A2 B2:List Pr) (u1 u2:SliceV) (h2:af) (C2:Nat→Prop),SetAt C2 h2 sb x (L1++c)→(∀b,C2 b→C1 b∨h1.size≤b)→Upd (fun b=>C1 b∨b=sb) h1 h2→fy A1 B1=c++fy A2 B2→Sl eh 2 (fun b=>C b∨b=sb∨h.size≤b) h1 u1 A2→Sl eh 2 (fun b=>C b∨b=sb∨h.size≤b) h1 u2 B2→u1.len≤u1.cap→u2.len≤u2.cap→c.length+A2.length+B2.length≤A1.length+B1.length→A2.length+B2.length<A1.length+B1.length→I (u1,u2) h2:=by
  intro c A2 B2 u1 u2 h2 C2 st2 hC2 hu2 e v1 v2 w1 w2 hl hlt;have hm:∀b,C1 b∨b=sb→(C b∨b=sb∨h.size≤b)∨h1.size≤b:=fun b hb=>.inl (hb.elim (fun h=>(hC1 b h).imp id .inr) fun h=>.inr (.inl h))
  refine hI (A2,B2,L1++c,C2) (u1,u2) h2 ⟨st2,fun b hb=>?_,?_,v1.upd hu2 hm,v2.upd hu2 hm,w1,w2,?_,?_⟩ hlt
  ·rcases hC2 b hb with h|h
   ·exact hC1 b h
   ·exact .inr (aZ hu1.size h)
  ·exact hu1.trans hu2 fun b hb=>hb.elim (fun h=>(hC1 b h).imp .inl id) fun h=>.inl (.inr h)
  ·show(L1++c)++fy A2 B2=_
   rw[ao,←e,he]
  ·show(L1++c).length+A2.length+B2.length≤_
   rw[ac];omega
 refine Join.intro (fun t h'=>h'=h1∧(t=true↔A1≠[]∨B1≠[])) (fun R hR=>?_) ?_
 ·refine ax (fun hp=>hR _ _ ⟨rfl,?_⟩) fun hp=>hR _ _ ⟨rfl,?_⟩
  ·have hp:(t1.len:Int)>0:=hp
   simp only[true_iff];left;intro e;rw[e]at l1;simp only[aB]at l1;omega
  ·have hp:¬(t1.len:Int)>0:=hp
   have e1:A1= []:=av.1 (by omega);show decide ((t2.len:Int)>0)=true↔_
   rw[decide_eq_true_iff];constructor
   ·intro h;right;intro e;rw[e]at l2;simp only[aB]at l2;omega
   ·intro h
    rcases h with h|h
    ·exact absurd e1 h
    ·have:=List.length_pos_iff.2 h;omega
 rintro t h2 ⟨rfl,ht⟩;refine CondP.intro (fun e=>?_) fun e=>?_
 rotate_left
 ·have hn:A1= []∧B1= []:=by
   rw[e]at ht;constructor
   ·exact Decidable.byContradiction fun h=>absurd (ht.2 (.inl h)) (by simp)
   ·exact Decidable.byContradiction fun h=>absurd (ht.2 (.inr h)) (by simp)
  obtain⟨rfl,rfl⟩:=hn;rw[iV,j4,aG]at he;subst he;exact hk h2 C1 st1 hC1 hu1
 have hne:=ht.1 e;clear ht e;refine Join.intro (fun t h'=>h'=h2∧((t=true∧∃a A',A1=a::A'∧fy A1 B1=Hx a::fy A' B1)∨(t=false∧∃b B',B1=b::B'∧(A1= []∨∃a A',A1=a::A'∧¬kl a.1 b.1)))) (fun R hR=>?_) ?_
 ·rcases B1 with _|⟨b,B'⟩
  ·rcases A1 with _|⟨a,A'⟩
   ·exact absurd hne (by simp)
   rw[show(((t2.len:Nat):Int)==0)=true by rw[l2];rfl]
   refine au.2 (hR _ _ ⟨rfl,.inl ⟨rfl,a,A',rfl,?_⟩⟩);rw[vp,vp];rfl
  ·rw[aj]at l2
   rw[show(((t2.len:Nat):Int)==0)=false by rw[beq_eq_false_iff_ne];omega]
   refine ak.2 ?_;rcases A1 with _|⟨a,A'⟩
   ·rw[aB]at l1
    rw[decide_eq_false (show ¬((t1.len:Int)>0) by omega)]
    exact ak.2 (hR _ _ ⟨rfl,.inr ⟨rfl,b,B',rfl,.inl rfl⟩⟩)
   ·rw[aj]at l1
    rw[decide_eq_true (show((t1.len:Int)>0) by omega)]
    refine au.2 ?_;obtain⟨a1,ha1,_,v1⟩:=hs1.at (i:=0) (x:=a) rfl;obtain⟨a2,ha2,_,v2⟩:=hs2.at (i:=0) (x:=b) rfl;refine⟨⟨by first|omega|(simp only;omega),by first|omega|(simp only;omega)⟩,a1,ha1,a.1,v1 0 _ rfl,⟨by first|omega|(simp only;omega),by first|omega|(simp only;omega)⟩,a2,ha2,b.1,v2 0 _ rfl,hR _ _ ⟨rfl,?_⟩⟩
    by_cases hlt:kl a.1 b.1
    ·exact .inl ⟨hlt,a,A',rfl,by rw[rD,if_pos hlt]⟩
    ·exact .inr ⟨by unfold kl at hlt;simpa using hlt,b,B',rfl,.inr ⟨a,A',rfl,hlt⟩⟩
 rintro t h3 ⟨rfl,⟨rfl,a,A',rfl,ec⟩|⟨rfl,b,B',rfl,hA⟩⟩
 ·refine au.2 (Join.plain ?_)
  rw[aj]at l1;obtain⟨a1,ha1,_,v1⟩:=hs1.at (i:=0) (x:=a) rfl;refine⟨_,rfl,sl,vc hb1 3,⟨by first|omega|(simp only;omega),by first|omega|(simp only;omega)⟩,a1,ha1,a.1,v1 0 _ rfl,⟨by first|omega|(simp only;omega),by first|omega|(simp only;omega)⟩,a1,ha1,a.2,v1 1 _ rfl,?_⟩
  refine NE (c:=Hx a) st1 hb1 ho1 (by simp only[aj]at hln;omega) fun h4 C4 st4 hC4 hu4=>?_
  refine⟨⟨by first|omega|(simp only;omega),by first|omega|(simp only;omega)⟩,?_⟩
  simp only[Bd];exact go [Hx a] A' B1 _ _ h4 C4 st4 hC4 hu4 ec (PF hs1 hc1) hs2 (by show t1.len-1≤t1.cap-1;omega) hc2 (by simp only[aj,aB];omega) (by rw[aj];omega)
 refine ak.2 ?_;rw[aj]at l2;obtain⟨a2,ha2,_,v2⟩:=hs2.at (i:=0) (x:=b) rfl;refine Join.intro (fun t h'=>h'=h3∧((t=true∧fy A1 (b::B')=TJ b::fy A1 B')∨(t=false∧∃a A',A1=a::A'∧fy A1 (b::B')=xi a b++fy A' B'))) (fun R hR=>?_) ?_
 ·rcases hA with rfl|⟨a,A',rfl,hna⟩
  ·rw[show(((t1.len:Nat):Int)==0)=true by rw[l1];rfl]
   refine au.2 (hR _ _ ⟨rfl,.inl ⟨rfl,?_⟩⟩);rw[iV,iV];rfl
  ·rw[aj]at l1
   rw[show(((t1.len:Nat):Int)==0)=false by rw[beq_eq_false_iff_ne];omega]
   obtain⟨a1,ha1,_,v1⟩:=hs1.at (i:=0) (x:=a) rfl;refine ak.2 ⟨⟨by first|omega|(simp only;omega),by first|omega|(simp only;omega)⟩,a2,ha2,b.1,v2 0 _ rfl,⟨by first|omega|(simp only;omega),by first|omega|(simp only;omega)⟩,a1,ha1,a.1,v1 0 _ rfl,hR _ _ ⟨rfl,?_⟩⟩
   by_cases hlt:kl b.1 a.1
   ·exact .inl ⟨hlt,by rw[rD,if_neg hna,if_pos hlt]⟩
   ·refine .inr ⟨by unfold kl at hlt;simpa using hlt,a,A',rfl,?_⟩
    rw[rD,if_neg hna,if_neg hlt];unfold xi;split<;>rfl
 rintro t h4 ⟨rfl,⟨rfl,ec⟩|⟨rfl,a,A',rfl,ec⟩⟩
 ·refine au.2 (Join.plain ?_)
  refine⟨_,rfl,sl,vc hb1 3,⟨by first|omega|(simp only;omega),by first|omega|(simp only;omega)⟩,a2,ha2,b.1,v2 0 _ rfl,⟨by first|omega|(simp only;omega),by first|omega|(simp only;omega)⟩,a2,ha2,b.2,v2 1 _ rfl,?_⟩
  refine NE (c:=TJ b) st1 hb1 ho1 (by simp only[aj]at hln;omega) fun h5 C5 st5 hC5 hu5=>?_
  refine⟨⟨by first|omega|(simp only;omega),by first|omega|(simp only;omega)⟩,?_⟩
  simp only[Bd];exact go [TJ b] A1 B' _ _ h5 C5 st5 hC5 hu5 ec hs1 (PF hs2 hc2) hc1 (by show t2.len-1≤t2.cap-1;omega) (by simp only[aj,aB];omega) (by rw[aj];omega)
 rw[aj]at l1;obtain⟨a1,ha1,_,v1⟩:=hs1.at (i:=0) (x:=a) rfl;have hcl:(xi a b).length≤1:=by unfold xi;split<;>simp
 refine ak.2 (Join.intro (fun _ h5=>∃C5,SetAt C5 h5 sb x (L1++xi a b)∧(∀b,C5 b→C1 b∨h4.size≤b)∧Upd (fun b=>C1 b∨b=sb) h4 h5) (fun R hR=>?_) ?_)
 ·refine⟨⟨by first|omega|(simp only;omega),by first|omega|(simp only;omega)⟩,a1,ha1,a.2,v1 1 _ rfl,⟨by first|omega|(simp only;omega),by first|omega|(simp only;omega)⟩,a2,ha2,b.2,v2 1 _ rfl,?_⟩
  have eb:(a.2.toList==b.2.toList)=decide (a.2=b.2):=dG;rw[eb];by_cases e:a.2=b.2
  ·rw[decide_eq_true e]
   refine ak.2 (hR _ _ ⟨C1,?_,fun _ h=>.inl h,Upd.refl _ _⟩)
   unfold xi;rw[if_pos e,aG];exact st1
  ·rw[decide_eq_false e]
   refine au.2 ⟨_,rfl,sl,vc hb1 3,⟨by first|omega|(simp only;omega),by first|omega|(simp only;omega)⟩,a1,ha1,a.1,v1 0 _ rfl,⟨by first|omega|(simp only;omega),by first|omega|(simp only;omega)⟩,a1,ha1,a.2,v1 1 _ rfl,⟨by first|omega|(simp only;omega),by first|omega|(simp only;omega)⟩,a2,ha2,b.2,v2 1 _ rfl,?_⟩
   refine NE (c:=(a.1,a.2,b.2,true,true)) st1 hb1 ho1 (by simp only[aj]at hln;omega) fun h5 C5 st5 hC5 hu5=>hR _ _ ⟨C5,?_,hC5,hu5⟩
   unfold xi;rw[if_neg e];exact st5
 ·rintro _ h5 ⟨C5,st5,hC5,hu5⟩
  refine⟨⟨by first|omega|(simp only;omega),by first|omega|(simp only;omega)⟩,?_⟩
  simp only[Bd];refine⟨⟨by first|omega|(simp only;omega),by first|omega|(simp only;omega)⟩,?_⟩
  exact go (xi a b) A' B' _ _ h5 C5 st5 hC5 hu5 ec (PF hs1 hc1) (PF hs2 hc2) (by show t1.len-1≤t1.cap-1;omega) (by show t2.len-1≤t2.cap-1;omega) (by rw[aj,aj];omega) (by rw[aj,aj];omega)
end Go.Proofs
namespace Go.Proofs
open Go Go.Lift
theorem Se{t:Tr}{h:af}{K:Int→af→Prop}(hk:∀h',Upd No h h'→K t.1 h'):HC PG qH [Fx t] [.c (.int .i64)] K h:=by
 refine Dg t ?_;unfold vC ae;exact bm fun h1 b1 k1=>⟨_,vc b1 0,hk h1 k1⟩
end Go.Proofs
namespace Go.Proofs
open Go Go.Lift
theorem IL:∀{x y:List UInt8} {i:Nat} {a b:UInt8},(∀j,j<i→x[j]? =y[j]?)→x[i]? =some a→y[i]? =some b→a≠b→Op.bytesLess x y=decide (a.toNat<b.toNat)
 | [],_,_,_,_,_,h,_,_=>by simp at h
 |_::_,[],_,_,_,_,_,h,_=>by simp at h
 |c::x,d::y,0,a,b,_,h1,h2,hne=>by
  simp only[cH,bG.injEq]at h1 h2;subst h1 h2;simp only[Op.bytesLess];rw[beq_false_of_ne hne];simp[UInt8.lt_iff_toNat_lt]
 |c::x,d::y,i+1,a,b,he,h1,h2,hne=>by
  have e:=he 0 (by omega);simp only[cH,bG.injEq]at e;subst e;simp only[List.getElem?_cons_succ]at h1 h2;simp only[Op.bytesLess];rw[IL (i:=i) (fun j hj=>by simpa using he (j+1) (by omega)) h1 h2 hne]
  simp[UInt8.lt_irrefl]
theorem IK:∀{x y:List UInt8} {i:Nat},(∀j,j<i→x[j]? =y[j]?)→i≤x.length→i≤y.length→(i=x.length∨i=y.length)→Op.bytesLess x y=decide (x.length<y.length)
 | [],[],_,_,_,_,_=>by simp[Op.bytesLess]
 | [],_::_,_,_,_,_,_=>by simp[Op.bytesLess]
 |_::_,[],_,_,_,_,_=>by simp[Op.bytesLess]
 |c::x,d::y,0,_,_,_,h=>by simp at h
 |c::x,d::y,i+1,he,h1,h2,h3=>by
  have e:=he 0 (by omega);simp only[cH,bG.injEq]at e;subst e;simp only[Op.bytesLess];rw[IK (i:=i) (fun j hj=>by simpa using he (j+1) (by omega)) (by simpa using h1) (by simpa using h2) (by simpa using h3)]
  simp[UInt8.lt_irrefl]
theorem LH{a b:ByteArray}(ha:a.size≤1000000){h:af}{K:Bool→af→Prop}(hk:K (decide (kl a b)) h):HC PG wA [.string a,.string b] [.c .bool] K h:=by
 refine O5 a b ?_;unfold GU;have la:a.data.toList.length=a.size:=by simp
 have lb:b.data.toList.length=b.size:=by simp
 have hkl:∀{p:Prop} [Decidable p],Op.bytesLess a.data.toList b.data.toList=decide p→K (decide p) h:=fun{p} _ e=>by
  have:decide (kl a b)=decide p:=by
   rw[←e,←ByteArray.toList_eq,←ByteArray.toList_eq];exact Bool.eq_iff_iff.2 (by rw[decide_eq_true_iff];exact Iff.rfl)
  rw[←this];exact hk
 refine LoopP.ghost (fun(i:Nat) (t:Int) h'=>t=(i:Int)∧i≤a.size∧i≤b.size∧h'=h∧∀j,j<i→a.data.toList[j]? =b.data.toList[j]?) (fun i=>a.size-i) 0 ⟨rfl,be _,be _,rfl,fun j hj=>absurd hj (Nat.not_lt_zero _)⟩ ?_
 rintro I i t h' ⟨rfl,hia,hib,rfl,he⟩ hI;refine Join.intro (fun t h2=>t=decide (i<a.size∧i<b.size)∧h2=h') (fun R hR=>?_) ?_
 ·refine ax (fun hlt=>hR _ _ ⟨?_,rfl⟩) fun hge=>hR _ _ ⟨?_,rfl⟩
  ·rw[decide_eq_decide];omega
  ·rw[eq_comm,decide_eq_false_iff_not];omega
 ·rintro t h2 ⟨rfl,rfl⟩
  refine ax (fun hlt=>?_) fun hge=>?_
  ·have e1:a.data.toList[i]? =some a[i]:=by rw[←QV,getElem?_pos a i hlt.1]
   have e2:b.data.toList[i]? =some b[i]:=by rw[←QV,getElem?_pos b i hlt.2]
   refine⟨a[i],by omega,by rw[aS,getElem?_pos a i hlt.1],b[i],by omega,by rw[aS,getElem?_pos b i hlt.2],?_⟩
   refine CondP.intro (fun hne=>?_) fun heq=>?_
   ·refine⟨a[i],by omega,by rw[aS,getElem?_pos a i hlt.1],b[i],by omega,by rw[aS,getElem?_pos b i hlt.2],?_⟩
    refine hkl ?_;rw[IL he e1 e2 fun e=>by rw[e]at hne;simp at hne]
    rw[decide_eq_decide];omega
   ·have heq:a[i]=b[i]:=by
     have:((a[i].toNat:Int))=(b[i].toNat:Int):=by simpa using heq
     exact UInt8.toNat_inj.1 (by omega)
    rw[iD hlt.1 (by omega)];refine hI (i+1) _ _ ⟨rfl,by omega,by omega,rfl,fun j hj=>?_⟩ (by omega)
    rcases bX j i with hl|hl
    ·exact he j hl
    ·have:j=i:=by omega
     subst this;rw[e1,e2,heq]
  ·refine hkl ?_
   rw[IK he (by omega) (by omega) (by omega),decide_eq_decide];omega
theorem LI{W:Nat→Prop}{h:af}{s:SliceV}{l:List Pr}(hs:Sl eh 2 W h s l)(hn:l.length≤1000000)(k:ByteArray){K:SliceV→af→Prop}
  (hk:∀s' h',OwnS eh 2 dR (fun y=>h.size≤y) h' s' (l.filter fun p=>decide (p.1≠k))→Upd No h h'→K s' h'):HC PG wB [.slice s.a s.len s.cap,.string k] [.c .slice] K h:=by
 refine O7 s k ?_;unfold GW ae bS;have hlen:=hs.len;refine LoopP.ghost (fun(i:Nat) (t:SliceV×Int) h'=>t.2=(i:Int)∧i≤l.length∧OwnS eh 2 dR (fun y=>h.size≤y) h' t.1 ((l.take i).filter fun p=>decide (p.1≠k))∧Upd No h h') (fun i=>l.length-i) 0 ⟨rfl,be _,by simpa using OwnS.nil gg,Upd.refl _ _⟩ ?_
 rintro I i ⟨so,ti⟩ h' ⟨e1,hi,ho,hu⟩ hI;simp only at e1 ho;subst e1;refine ax (fun hlt=>?_) fun hge=>?_
 ·have hlt:i<l.length:=by have:(i:Int)<(s.len:Int):=hlt;omega
  obtain⟨a,ha,_,hv⟩:=(hs.upd hu fun _ h=>h.elim).at (ai hlt)
  have htl:((l.take i).filter fun p=>decide (p.1≠k)).length≤l.length:=aZ (fJ ..) (by rw[aI];omega)
  refine Join.intro (fun t h2=>OwnS eh 2 dR (fun y=>h.size≤y) h2 t ((l.take (i+1)).filter fun p=>decide (p.1≠k))∧Upd No h h2) (fun R hR=>⟨⟨by simp only;omega,by simp only;omega⟩,a,ha,l[i].1,hv 0 _ rfl,l[i].2,hv 1 _ rfl,?_⟩) ?_
  ·refine AO (p:=l[i]) fun h2 b2 k2=>⟨_,vc b2 0,?_⟩
   have ho2:=ho.upd k2 fun _ _ h=>h
   rw[bh hlt,il,bK,rY]at hR;rw[dG];by_cases e:l[i].1=k
   ·rw[decide_eq_true e]
    rw[decide_eq_false (not_not_intro e)]at hR;rw[if_neg (by simp),aG]at hR;exact ak.2 (hR _ _ ⟨ho2,hu.tr k2⟩)
   ·rw[decide_eq_false e]
    rw[decide_eq_true e,if_pos rfl]at hR;refine au.2 ⟨_,vc b2 0,_,vc b2 1,bi ?_⟩;refine vq (p:=l[i]) ho2 (fun y hy=>aZ (hu.tr k2).size hy) (aZ (Nat.add_le_add_right htl 1) (by omega)) fun s3 h3 ho3 hu3=>hR _ _ ⟨ho3,(hu.tr k2).trans hu3 fun y hy=>.inr hy⟩
  ·rintro t h2 ⟨ho2,hu2⟩
   rw[iD hlt (by omega)];exact hI (i+1) _ _ ⟨rfl,hlt,ho2,hu2⟩ (by omega)
 ·have hil:i=l.length:=by have:¬(i:Int)<(s.len:Int):=hge;omega
  rw[aW (by omega)]at ho;exact hk _ _ ho hu
theorem T7{W:Nat→Prop}{h:af}{s:SliceV}{l:List Pr}(hs:Sl eh 2 W h s l)(hr:bD l)(hn:l.length≤1000000)(p:Pr)(hp:p.1.size≤1000000){K:SliceV→af→Prop}
  (hk:∀s' h',OwnS eh 2 dR (fun y=>h.size≤y) h' s' (gU p l)→Upd No h h'→K s' h'):HC PG CU [.slice s.a s.len s.cap,.agg #[.string p.1,.string p.2]] [.c .slice] K h:=by
 refine Rs s p ?_;unfold Jr ae bS;refine bm fun h1 b1 k1=>⟨p.1,vc b1 0,?_⟩
 refine LI (hs.upd k1 fun _ h=>h.elim) hn p.1 fun s4 h4 ho4 k4=>?_
 rw[←IS hr]at hk;have hrf:bD (l.filter fun q=>decide (q.1≠p.1)):=hr.sublist List.filter_sublist
 have hnl:(l.filter fun q=>decide (q.1≠p.1)).length≤1000000:=aZ (fJ ..) hn
 have hne:∀q∈l.filter fun q=>decide (q.1≠p.1),q.1≠p.1:=fun q hq=>of_decide_eq_true (dg.1 hq).2
 generalize l.filter (fun q=>decide (q.1≠p.1))=L at hk ho4 hrf hnl hne
 have k04:=k1.tr k4;have hs4:Sl eh 2 No h4 s4 L:=ho4.sl fun _ _ _ h=>h
 have hlen:=hs4.len;have z4:=k04.size;refine LoopP.ghost (fun(g:Nat×Bool) (t:SliceV×Bool×Int) h'=>t.2.2=(g.1:Int)∧t.2.1=g.2∧g.1≤L.length∧(∃out,OwnS eh 2 dR (fun y=>h4.size≤y) h' t.1 out∧out.length≤g.1+1∧(g.2=false→out=L.take g.1∧∀q∈L.take g.1,kl q.1 p.1)∧(g.2=true→out=gU p (L.take g.1)∧∃q∈L.take g.1,kl p.1 q.1))∧Upd No h4 h') (fun g=>L.length-g.1) (0,false) ⟨rfl,rfl,be _,⟨[],OwnS.nil gg,by simp,fun _=>⟨by simp,by simp⟩,fun h=>by cases h⟩,Upd.refl _ _⟩ ?_
 rintro I ⟨i,pl⟩ ⟨so,tp,ti⟩ h' ⟨e1,e2,hi,⟨out,ho,hol,hf,ht⟩,hu⟩ hI;simp only at e1 e2 hi ho hol hf ht;subst e1 e2;have b':=hu.get0 (k4.get0 b1);refine ax (fun hlt=>?_) fun hge=>?_
 ·have hlt:i<L.length:=by have:(i:Int)<(s4.len:Int):=hlt;omega
  obtain⟨a,ha,_,hv⟩:=(hs4.upd hu fun _ h=>h.elim).at (ai hlt)
  have etake:=bh hlt;have hmem:L[i]∈L:=List.getElem_mem hlt;refine Join.intro (fun t h2=>(∃out,OwnS eh 2 dR (fun y=>h4.size≤y) h2 t.1 out∧out.length≤i+1+1∧(t.2=false→out=L.take (i+1)∧∀q∈L.take (i+1),kl q.1 p.1)∧(t.2=true→out=gU p (L.take (i+1))∧∃q∈L.take (i+1),kl p.1 q.1))∧Upd No h4 h2) (fun R hR=>⟨⟨by simp only;omega,by simp only;omega⟩,a,ha,L[i].1,hv 0 _ rfl,L[i].2,hv 1 _ rfl,?_⟩) ?_
  ·refine AO (p:=L[i]) fun h2 b2 k2=>?_
   have ho2:=ho.upd k2 fun _ _ h=>h
   have hu2:=hu.tr k2;have zb:=bF b2;have z2:=hu.size;have hoM:=(ho.within.upd k2 fun _ _ h=>h).more (M':=fun y=>(h4.size≤y∧y<h'.size)∨h2.size≤y) fun y hy=>.inl hy
   have c2:=k2.get0 b';refine Join.intro (fun t h3=>(∃out,OwnS eh 2 dR (fun y=>h4.size≤y) h3 t.1 out∧out.length≤i+1∧(t.2=false→out=L.take i∧∀q∈L.take (i+1),kl q.1 p.1)∧(t.2=true→out++ [L[i]]=gU p (L.take (i+1))∧∃q∈L.take (i+1),kl p.1 q.1))∧h3[h'.size]? =some (.cells #[.string L[i].1,.string L[i].2] dR (0,0))∧Upd No h4 h3) (fun R2 hR2=>?_) ?_
   ·refine Join.intro (fun t h3=>t=(!tp&&decide (kl p.1 L[i].1))∧h3=h2) (fun R3 hR3=>?_) ?_
    ·cases tp with
     |false=>exact au.2 ⟨p.1,vc c2 0,L[i].1,vc b2 0,LH hp (hR3 _ _ ⟨by simp,rfl⟩)⟩
     |true=>exact ak.2 (hR3 _ _ ⟨by simp,rfl⟩)
    ·rintro t h3 ⟨rfl,rfl⟩
     cases tp with
     |true=>
      obtain⟨e,q,hq,hkq⟩:=ht rfl;refine ak.2 (hR2 _ _ ⟨⟨out,ho2,hol,fun h=>(by cases h),fun _=>?_⟩,b2,hu2⟩)
      rw[etake,e];exact⟨(Mf ⟨q,hq,hkq⟩).symm,q,cg _ hq,hkq⟩
     |false=>
      obtain⟨e,hall⟩:=hf rfl;subst e;by_cases hkl:kl p.1 L[i].1
      ·rw[decide_eq_true hkl]
       refine au.2 ⟨p.1,vc c2 0,p.2,vc c2 1,bi ?_⟩;refine vq (p:=p) hoM (fun y hy=>.inr hy) (by rw[aI];omega) fun s5 h5 ho5 hu5=>hR2 _ _ ⟨⟨_,ho5.more (fun y hy=>by rcases hy with hy|hy<;>omega),by rw[ac,aI,aJ];omega,fun h=>(by cases h),fun _=>?_⟩,hu5.get b2 (by rintro(hx|hx)<;>omega),hu2.trans hu5 fun y hy=>.inr (by rcases hy with hy|hy<;>omega)⟩
       ·rw[etake,AY hall]
        refine⟨?_,L[i],co _ (aC.2 rfl),hkl⟩;rw[ao,Md (l:= [L[i]]) fun q hq=>by rw[aC.1 hq];exact hkl]
        rfl
      ·rw[decide_eq_false hkl]
       have hq:kl L[i].1 p.1:=o9 hkl fun e=>hne _ hmem e.symm
       refine ak.2 (hR2 _ _ ⟨⟨_,ho2,by rw[aI];omega,fun _=>⟨rfl,fun q hq'=>?_⟩,fun h=>(by cases h)⟩,b2,hu2⟩)
       rw[etake]at hq';rcases bd.1 hq' with h|h
       ·exact hall q h
       ·rw[aC.1 h];exact hq
   ·rintro⟨t1,t2⟩ h3 ⟨⟨out3,ho3,hol3,hf3,ht3⟩,b3,hu3⟩
    simp only at ho3 hf3 ht3;refine⟨_,vc b3 0,_,vc b3 1,bi ?_⟩;refine vq (p:=L[i]) ho3 (fun y hy=>aZ hu3.size hy) (by omega) fun s5 h5 ho5 hu5=>hR _ _ ⟨⟨_,ho5,by rw[ac,aJ];omega,fun h=>?_,fun h=>ht3 h⟩,hu3.trans hu5 fun y hy=>.inr hy⟩
    obtain⟨e,hall⟩:=hf3 h;exact⟨by rw[e,etake],hall⟩
  ·rintro⟨t1,t2⟩ h2 ⟨ho2,hu2⟩
   rw[iD hlt (by omega)];exact hI (i+1,t2) _ _ ⟨rfl,rfl,hlt,ho2,hu2⟩ (by simp only;omega)
 ·have hil:i=L.length:=by have:¬(i:Int)<(s4.len:Int):=hge;omega
  subst hil;rw[List.take_length]at hf ht;cases tp with
  |true=>
   obtain⟨e,_⟩:=ht rfl;subst e;exact ak.2 (hk _ _ (ho.more fun y hy=>aZ z4 hy) (k04.tr hu))
  |false=>
   obtain⟨e,hall⟩:=hf rfl;subst e;refine au.2 ⟨p.1,vc b' 0,p.2,vc b' 1,bi ?_⟩;refine vq (p:=p) ho (fun y hy=>aZ hu.size hy) (by omega) fun s5 h5 ho5 hu5=>hk _ _ ?_ ((k04.tr hu).trans hu5 fun y hy=>.inr (aZ z4 hy))
   have:=AY (p:=p) (A:=out) (B:= []) hall;rw[aG]at this;rw[this];exact ho5.more fun y hy=>aZ z4 hy
end Go.Proofs
namespace Go.Proofs
open Go Go.Lift
abbrev Rt:=Int×Int×Int×Int×SliceV
abbrev xj(r:Rt):List Value:= [.int .i64 r.1,.int .u64 r.2.1,.int .u64 r.2.2.1,.int .u64 r.2.2.2.1,.slice r.2.2.2.2.a r.2.2.2.2.len r.2.2.2.2.cap]
abbrev Wb(r:Rt):Value:=.agg #[.int .i64 r.1,.int .u64 r.2.1,.int .u64 r.2.2.1,.int .u64 r.2.2.2.1,.slice r.2.2.2.2.a r.2.2.2.2.len r.2.2.2.2.cap]
abbrev Ss:Rt:=(0,0,0,0,⟨none,0,0⟩)
def hx(kind v:Int):Int:=if kind=0 then v else 0
def RefIs(W:Nat→Prop)(h:af)(kind:Int)(x:Hs)(r:Rt)(l:List Pr):Prop:=∃s,r=(kind,hx kind x.k0,hx kind x.k1,hx kind x.mask,s)∧Sl eh 2 W h s l
theorem RefIs.upd0{W:Nat→Prop}{h h':af}{kind:Int}{x:Hs}{r:Rt}{l:List Pr}(k:Upd No h h')(i:RefIs W h kind x r l):RefIs W h' kind x r l:=
 let⟨s,e,hs⟩:=i;⟨s,e,hs.upd k fun _ h=>h.elim⟩
theorem RefIs.less{W W':Nat→Prop}{h:af}(hm:∀b,W' b→W b∨h.size≤b){kind:Int}{x:Hs}{r:Rt}{l:List Pr}(i:RefIs W h kind x r l):RefIs W' h kind x r l:=
 let⟨s,e,hs⟩:=i;⟨s,e,hs.less hm⟩
theorem RefIs.updM{W M:Nat→Prop}{h h':af}(k:Upd M h h')(hm:∀b,M b→W b∨h.size≤b){kind:Int}{x:Hs}{r:Rt}{l:List Pr}(i:RefIs W h kind x r l):RefIs W h' kind x r l:=
 let⟨s,e,hs⟩:=i;⟨s,e,hs.upd k hm⟩
theorem T8{W:Nat→Prop}{x:Hs}{h:af}{kind:Int}(hkd:kind=0∨kind=1){K:Rt×Int→af→Prop}(hk:∀h' r,RefIs W h' kind x r []→Upd No h h'→K (r,0) h'):HC PG CT [.int .i64 kind,.agg #[.int .u64 x.k0,.int .u64 x.k1,.int .u64 x.mask]] [.agg [.int .i64,.int .u64,.int .u64,.int .u64,.slice],.c (.int .i64)] K h:=by
 refine Rr kind (x.k0,x.k1,x.mask) ?_;unfold Jq ae;refine bm fun h1 b1 k1=>bm fun h2 b2 k2=>?_
 have c1:=k2.get0 b1;have s1:=k1.size;have k02:=k1.tr k2;rcases hkd with rfl|rfl
 ·refine au.2 ⟨_,vc c1 0,_,vc c1 1,_,vc c1 2,?_⟩
  refine cR (c:=xj Ss) (vs:=xj (0,x.k0,x.k1,x.mask,⟨none,0,0⟩)) b2 rfl fun h4 b4 hu4=>?_
  exact⟨_,vc b4 0,_,vc b4 1,_,vc b4 2,_,vc b4 3,⟨none,0,0⟩,vc b4 4,hk h4 (0,x.k0,x.k1,x.mask,⟨none,0,0⟩) ⟨_,rfl,Sl.nil gg⟩ (k02.own hu4 s1)⟩
 ·refine ak.2 (au.2 ?_)
  refine cR (c:=xj Ss) (vs:=xj (1,0,0,0,⟨none,0,0⟩)) b2 rfl fun h4 b4 hu4=>?_
  exact⟨_,vc b4 0,_,vc b4 1,_,vc b4 2,_,vc b4 3,⟨none,0,0⟩,vc b4 4,hk h4 (1,0,0,0,⟨none,0,0⟩) ⟨_,rfl,Sl.nil gg⟩ (k02.own hu4 s1)⟩
theorem QE{k v:ByteArray}(h1:k.size≤256)(h2:v.size≤4096){h:af}{K:Int→af→Prop}(hk:K 0 h):HC PG xI [.string k,.string v] [.c (.int .i64)] K h:=by
 refine MN k v ?_;unfold En;refine ax (fun h=>absurd h (by omega)) fun _=>ax (fun h=>absurd h (by omega)) fun _=>hk
theorem SD{W:Nat→Prop}{x:Hs}{h:af}{kind:Int}{r:Rt}{l:List Pr}(i:RefIs W h kind x r l)(hW:∀y,W y→y<h.size)(hr:bD l)(hn:l.length≤1000000)(p:Pr)(hp1:p.1.size≤256)(hp2:p.2.size≤4096){K:Rt×Int→af→Prop}
  (hk:∀h' r',RefIs W h' kind x r' (gU p l)→Upd No h h'→K (r',0) h'):HC PG zR [Wb r,.agg #[.string p.1,.string p.2]] [.agg [.int .i64,.int .u64,.int .u64,.int .u64,.slice],.c (.int .i64)] K h:=by
 refine O4 r p ?_;unfold GT ae;refine bm fun h1 b1 k1=>bm fun h2 b2 k2=>bm fun h3 b3 k3=>?_
 have z1:=bF b1;have z2:=bF b2;have z3:=bF b3;have s1:h.size≤h1.size:=k1.size;have s2:h1.size≤h2.size:=k2.size;have s3:=k3.size;have k03:=(k1.tr k2).tr k3;have v1:=k3.get0 (k2.get0 b1);have v2:=k3.get0 b2;obtain⟨s,rfl,hs⟩:=i;refine⟨_,vc v2 0,_,vc v2 1,QE hp1 hp2 (ak.2 ?_)⟩;refine⟨s,vc v1 4,p.1,vc v2 0,p.2,vc v2 1,?_⟩;refine T7 (hs.upd k03 fun _ h=>h.elim) hr hn p (by omega) fun s4 h4 ho4 hu4=>?_
 refine zr (i:=4) (c':=(xj (kind,hx kind x.k0,hx kind x.k1,hx kind x.mask,s4)).toArray) (hu4.get0 v1) (show 4<5 by decide) rfl fun h5 v5 hu5=>?_
 refine⟨_,vc v5 0,_,vc v5 1,_,vc v5 2,_,vc v5 3,s4,vc v5 4,?_⟩;refine cR (c:=xj Ss) (vs:=xj (kind,hx kind x.k0,hx kind x.k1,hx kind x.mask,s4)) (hu5.oth (hu4.get0 b3) (by omega)) rfl fun h6 v6 hu6=>?_
 refine⟨_,vc v6 0,_,vc v6 1,_,vc v6 2,_,vc v6 3,s4,vc v6 4,?_⟩;have ho6:=(ho4.upd hu5 fun y hy e=>by have e:y=h.size:=e;omega).upd hu6 fun y hy e=>by have e:y=h2.size:=e;omega
 refine hk h6 (kind,hx kind x.k0,hx kind x.k1,hx kind x.mask,s4) ⟨s4,rfl,ho6.sl fun y hy _ hw=>by have:=hW y hw;omega⟩ (((k03.tr hu4).own hu5 (aq _)).own hu6 (by omega))
def oD(s:ByteArray):ByteArray:=s.extract 0 (min s.size 30)
theorem tc(s:ByteArray):(oD s).size≤30:=by unfold oD;rw[qr];omega
end Go.Proofs
namespace Go.Proofs
open Go Go.Lift
def Hu(p:Pr):Pr:=(oD p.1,oD p.2)
structure Few(n:Nat)(L:List Pr):Prop where
 up:bD L
 len:L.length≤n
 fit:∀p∈L,p.1.size≤30∧p.2.size≤30
theorem Few.ins{n:Nat}{L:List Pr}(f:Few n L)(p:Pr)(h1:p.1.size≤30)(h2:p.2.size≤30):Few (n+1) (gU p L):=
 ⟨yp p f.up,aZ (yx p) (by have:=f.len;omega),fun q hq=>(xu hq).elim (fun e=>by rw[e];exact⟨h1,h2⟩) fun h=>f.fit q h⟩
theorem Few.fits{n:Nat}{L:List Pr}(f:Few n L):Fit L:=fun p hp=>by have:=f.fit p hp;omega
end Go.Proofs
namespace Go.Proofs
open Go Go.Lift
theorem Sl.det{α:Type}{f:α→List Value}{sz:Nat}{W W':Nat→Prop}{h:af}{s:SliceV}{xs ys:List α}(hi:∀x y,f x=f y→x=y)(a:Sl f sz W h s xs)(b:Sl f sz W' h s ys):xs=ys:=by
 apply List.ext_getElem
 ·rw[←a.len,←b.len]
 ·intro i h1 h2
  refine hi _ _ (List.ext_getElem? fun j=>?_)
  obtain⟨p,hp,_,hv⟩:=a.at (ai h1);obtain⟨q,hq,_,hw⟩:=b.at (ai h2);rw[hp]at hq;cases hq;have l1:=(a.ne xs[i]).1;have l2:=(b.ne ys[i]).1;by_cases hj:j<sz
  ·have e1:=hv j _ (ai (by omega))
   have e2:=hw j _ (ai (by omega));rw[e1]at e2;rw[ai (by omega),ai (by omega)];exact e2
  ·rw[mq (by omega),mq (by omega)]
theorem PT(x y:Pr)(h:eh x=eh y):x=y:=by
 simp only[eh,eJ.injEq,Value.string.injEq,and_true]at h;exact Prod.ext h.1 h.2
theorem Ue(x y:Option Addr)(h:rp x=rp y):x=y:=by
 simpa[rp]using h
theorem PM(x y:Option Addr)(h:pC x=pC y):x=y:=by
 simpa[pC]using h
theorem IE{d d' n n':Nat}{sp sk sp' sk':SliceV}{bu bu':Bool}{ow ow':Option Addr}(h:fa d n sp sk bu ow=fa d' n' sp' sk' bu' ow'):d=d'∧n=n'∧sp=sp'∧sk=sk':=by
 simp only[fa,Array.mk.injEq,eJ.injEq,Value.int.injEq,true_and,sv,Value.slice.injEq,Value.bool.injEq,Value.pointer.injEq,and_true]at h;obtain⟨h1,h2,⟨h3,h4,h5⟩,⟨h6,h7,h8⟩,_⟩:=h;refine⟨by omega,by omega,?_,?_⟩
 ·cases sp;cases sp';simp only at h3 h4 h5;subst h3 h4 h5;rfl
 ·cases sk;cases sk';simp only at h6 h7 h8;subst h6 h7 h8;rfl
theorem Fw{W W':Nat→Prop}{x:Hs}{h:af}:∀{m b:Nat} {l l':List Pr},TrieAt W x h m b l→TrieAt W' x h m b l'→bD l→bD l'→l=l'
 |0,b,l,l',t,t',_,_=>by
  obtain⟨sp,sk,ow,hb,hs,_⟩:=t.ex;obtain⟨sp',sk',ow',hb',hs',_⟩:=t'.ex;rw[hb]at hb';simp only[bG.injEq,Obj.cells.injEq,and_true]at hb';obtain⟨_,_,rfl,_⟩:=IE hb';exact Sl.det PT hs hs'
 |m+1,b,l,l',⟨s,nd,hc⟩,⟨s',nd',hc'⟩,hr,hr'=>by
  obtain⟨d,n,sp,sk,ow,hb,bits,hs,hk,_⟩:=nd.ex;obtain⟨d',n',sp',sk',ow',hb',bits',hs',hk',_⟩:=nd'.ex;rw[hb]at hb';simp only[bG.injEq,Obj.cells.injEq,and_true]at hb';obtain⟨rfl,rfl,rfl,rfl⟩:=IE hb';have e1:=Ge 32 (fun c hc=>by rw[←bits.dp c hc,bits'.dp c hc]) (Sl.det PT hs hs')
  have e2:=Ge 32 (fun c hc=>by rw[←bits.nk c hc,bits'.nk c hc]) (Sl.det Ue hk hk')
  refine LP (x:=x) (lev:=12-m) hr hr' fun c hlt=>?_
  have t1:=hc c hlt;have t2:=hc' c hlt;rw[←e1 c hlt,←e2 c hlt]at t2;rcases t1 with⟨h1,h2,h3⟩|⟨p,h1,h2,h3⟩|⟨h1,h2,kb,h3,h4⟩<;>rcases t2 with⟨g1,g2,g3⟩|⟨q,g1,g2,g3⟩|⟨g1,g2,kb',g3,g4⟩<;>simp_all
  exact Fw h4 g4 (iS hr) (iS hr')
theorem PN{sl sl' v v':ByteArray}{b b':Bool}{s s':SliceV}{ow ow':Option Addr}(h:yY sl b v s ow=yY sl' b' v' s' ow'):sl=sl'∧b=b'∧v=v'∧s=s':=by
 simp only[yY,Array.mk.injEq,eJ.injEq,Value.string.injEq,sv,Value.slice.injEq,Value.bool.injEq,Value.pointer.injEq,and_true]at h;obtain⟨h1,h2,h3,⟨h6,h7,h8⟩,_⟩:=h;refine⟨h1,h2,h3,?_⟩;cases s;cases s';simp only at h6 h7 h8;subst h6 h7 h8;rfl
theorem PV{w w':Option ByteArray}{v:ByteArray}(h:w.isSome=w'.isSome)(h1:v=w.getD ⟨#[]⟩)(h2:v=w'.getD ⟨#[]⟩):w=w':=by
 cases w<;>cases w'<;>simp_all
theorem NG{W W':Nat→Prop}{h:af}:∀{F F':Fo} {ks:List (Option Addr)},RxF W h F ks→RxF W' h F' ks→F=F'
 | .nil,.nil,_,_,_=>rfl
 | .nil,.cons ..,ks,h1,h2=>by
  obtain⟨b,sl,val,s,ow,ks1,ks',e0,_⟩:=h2;have h1:ks= []:=h1;rw[h1]at e0;cases e0
 | .cons ..,.nil,ks,h1,h2=>by
  obtain⟨b,sl,val,s,ow,ks1,ks',e0,_⟩:=h1;have h2:ks= []:=h2;rw[h2]at e0;cases e0
 | .cons lab w kids rest,.cons lab' w' kids' rest',ks,⟨b,sl,val,s,ow,ks1,ks',e0,e1,e2,e3,e4,e5,e6,e7⟩,⟨b',sl',val',s',ow',ks1',ks'',f0,f1,f2,f3,f4,f5,f6,f7⟩=>by
  rw[e0]at f0;simp only[eJ.injEq,bG.injEq,Addr.mk.injEq,and_true]at f0;obtain⟨rfl,rfl⟩:=f0;rw[e2]at f2;simp only[bG.injEq,Obj.cells.injEq,and_true]at f2;obtain⟨rfl,g2,rfl,rfl⟩:=PN f2;have:=Sl.det PM e4 f4;subst this;rw[NG e6 f6,NG e7 f7,←e1,←f1,PV g2 e3 f3]
end Go.Proofs
