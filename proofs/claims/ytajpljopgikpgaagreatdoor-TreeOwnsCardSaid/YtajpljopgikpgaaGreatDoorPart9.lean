/- A part of the proof that the named laws of this program answer true, whatever the input. -/
import Derived.Test.YtajpljopgikpgaaGreatDoorPart8
import Derived.Test.YtajpljopgikpgaaGreatDoorPart7
import Derived.Test.YtajpljopgikpgaaGreatDoorPart6
open Array renaming size→bW
open BitVec renaming ofInt→ao,ofInt_natCast→fx,toNat_ofNat→om
open List renaming length_singleton→aE,length_map→bH,length_nil→bw,map_append→bZ,map_cons→cn,map_nil→kQ,length_append→ad,mem_singleton→aq,pairwise_append→ci,length_cons→az,drop_one→um,tail_cons→sm,take_of_length_le→bv,pairwise_singleton→cL,mem_append→bM,mem_append_left→di,length_eq_zero_iff→aF,sum_cons→jK,length→eE,append_assoc→au,getElem?_eq_getElem→af,pairwise_iff_getElem→cB,sum_append→gG,flatten_append→d8,getElem_mem→aU,mem_cons→aw
open List.Pairwise renaming nil→ey
open Nat renaming le_refl→aj,lt_of_lt_of_le→bI,zero_le→aS,lt_or_ge→bG,mod_eq_of_lt→dq,zero_testBit→ge,zero_add→aI,eq_of_testBit_eq→hJ
namespace Go.Proofs
open Go Go.Lift
theorem Sh{M:Nat→Prop}{h:ae}{c:SliceV}{out:List (SliceV×SliceV)}{p:SliceV×SliceV}{K:SliceV→ae→Prop}(g:OwnS Qb 2 dY M h c out)(hM:∀b,h.size≤b→M b)(j:out.length+1≤1000000000)
  (i:∀s' a,OwnS Qb 2 dY M a s' (out++ [p])→Upd M h a→K s' a):
  ∃xs,SRow (hnew h (Qb p) dY) (some (aC h)) (1*2) xs∧AppP (some [.slice none 0 0,.slice none 0 0]) 2 48 dY c.a c.len c.cap 1 xs (hnew h (Qb p) dY) K:=by
 have k:=Upd.hnew No h (Qb p) dY;have e:OwnS Qb 2 dY (fun _=>True) (hnew h (Qb p) dY) ⟨some (aC h),1,1⟩ [p]:=⟨rfl,Rr,aj _,.inr ⟨h.size,[],rfl,trivial,cO ..,rfl⟩⟩
 refine⟨_,(e.sl (W:=No) fun _ _ _ h=>h).srow,?_⟩
 refine AppP.own (ys:= [p]) (g.upd k fun _ _ h=>h) rfl rfl rfl rfl (by omega) (by simp only[aE];omega) (hM _ (by rw[jm];omega)) fun s' a d f=>?_
 exact i s' a d ((Upd.hnew M h _ _).tr f)
set_option maxHeartbeats 2000000 in
theorem Jf{W G0 C0:Nat→Prop}{x:Hs}{h:ae}{cb:Nat}{V:List Fr}(cur:CurW W G0 C0 x h cb V)(hW0:∀b,h.size≤b→W b){K:(ByteArray×ByteArray)×Bool→ae→Prop}
  (hn:∀B,Bs x V= []→Upd (fun b=>C0 b∨b=cb) h B→K (((⟨#[]⟩:ByteArray),(⟨#[]⟩:ByteArray)),false) B)
  (hs:∀B u p R G' C',Bs x V=p::R→Bs x u=R→CurW W G' C' x B cb u→(∀b,C' b→C0 b∨h.size≤b)→(∀b,G' b→G0 b∨h.size≤b)→Upd (fun b=>C0 b∨b=cb) h B→K (p,true) B):
  HC PG nO [.pointer (some ⟨cb,0,none⟩)] [.agg [.str,.str],.c .bool] K h:=by
 refine y5 (some ⟨cb,0,none⟩) ?_;unfold rR bR cQ aY eP nv jU im cY ay bD WE VL;refine aP fun h1 b1 k1=>al.2 ?_
 have z1:=aN b1;obtain⟨s00,d00,hc0,_⟩:=cur.ex;have zc:=aN hc0;have s1:=k1.size;have cur1:=cur.upd k1 (fun _ h=>h.elim) (fun _ _ h=>h) (fun _ _ h=>h) fun h=>h
 refine LoopP.ghost (fun(g:List Fr×(Nat→Prop)×(Nat→Prop)) (_:Unit) B=>CurW W g.2.1 g.2.2 x B cb g.1∧Bs x g.1=Bs x V∧(∀b,g.2.2 b→(C0 b∨h.size≤b)∧b≠h.size)∧(∀b,g.2.1 b→(G0 b∨h.size≤b)∧b≠h.size)∧B[h.size]? =some (.cells zPrL.toArray ar (0,0))∧Upd (fun b=>C0 b∨b=cb) h B) (fun g=>Cy x g.1) (V,G0,C0)
  ⟨cur1,rfl,fun b t=>⟨.inl t,by have:=cur.lt b (.inl t);omega⟩,fun b t=>⟨.inl t,by have:=cur.lt b (.inr t);omega⟩,b1,k1.wide⟩ ?_
 rintro I ⟨fs,G,C⟩ ⟨⟩ B ⟨cu,L,D,S,bz,hu⟩ hI;simp only at cu L D S;obtain⟨s,d,aJ,O⟩:=cu.ex;have X:=O.len;rw[bH]at X;have hzs:h.size<B.size:=aN bz;have zcb:=aN aJ;refine⟨_,rfl,s,vc aJ 0,?_⟩;refine aB (fun hpos=>?_) fun hnp=>?_
 ·obtain⟨u,f,rfl⟩:∃u f,fs=u++ [f]:=by
   rcases Ig fs with rfl|⟨l',y,e⟩
   ·simp only[bw]at X;omega
   ·exact⟨l',y,e⟩
  rw[bZ,cn,kQ]at O;rw[ad,aE]at X;have h14:=Rc (n:=13) cu.lv fun f hf=>(cu.ok f hf).n13
  rw[ad,aE]at h14;have eidx:IntKind.wrap .i64 ((s.len:Int)-1)=((u.length:Nat):Int):=by rw[ji (by omega)];omega
  obtain⟨a,ha,hv⟩:=lC O (i:=u.length) (by rw[bH]);have U:=cu.ok f (List.mem_append_right _ (aq.2 rfl));have hpl:=U.p.len;have Y:=U.k.len;rw[bH]at Y;have hpc:=U.pc;have hkc:=U.kc;have hcap:=O.cap;refine⟨_,rfl,s,vc aJ 0,_,rfl,s,vc aJ 0,?_⟩;rw[eidx];refine⟨⟨by omega,by omega⟩,a,ha,_,rfl,f.sp,hv 0 _ rfl,?_⟩
  have keep:∀{h2:ae} {M:Nat→Prop},Upd M B h2→(∀b,M b→C b∨b=cb∨b=h.size∨B.size≤b)→∀{g:Fr},g.Ok W G x B→g.Ok W G x h2:=fun{h2 M} k hM {g} o=>o.upd k (fun b t=>by
   rcases hM b t with h|h|h|h
   ·exact .inl (cu.cw.1 b h)
   ·exact .inl (by rw[h];exact cu.cw.2)
   ·exact .inl (by rw[h];exact hW0 _ (aj _))
   ·exact .inr h) fun b t=>by
   rcases hM b t with h|h|h|h
   ·exact .inl fun J=>(cu.dj b J).1 h
   ·exact .inl fun J=>(cu.dj b J).2 h
   ·exact .inl fun J=>(S b J).2 h
   ·exact .inr h
  have Q:=ci.1 cu.lv;have hrs:=xj x u f;have hcs:=yY x u f;refine aB (fun hp=>?_) fun hp=>?_
  ·
   rcases N:f.ps with _|⟨p,ps⟩
   ·rw[N]at hpl;simp only[bw]at hpl;omega
   have fop:=U.p;rw[N]at fop hpl;simp only[az]at hpl;obtain⟨ap,hap,_,hvp⟩:=fop.at (i:=0) (x:=p) rfl;refine⟨_,rfl,f.sp,hv 0 _ rfl,⟨by omega,by omega⟩,ap,hap,p.1,hvp 0 _ rfl,p.2,hvp 1 _ rfl,?_⟩
   refine Q6 (p:=p) fun h8 b8 k8=>?_
   have z8:=aN b8;have hst8:=O.upd k8 fun _ _ h=>h
   obtain⟨a',ha',hv8⟩:=lC hst8 (i:=u.length) (by rw[bH]);rw[ha]at ha';cases ha';refine⟨_,rfl,f.sp,hv8 0 _ rfl,⟨by omega,by omega⟩,_,rfl,?_⟩
   let P:Fr:=⟨⟨aV f.sp.a 1 f.sp.cap 2,f.sp.len-1,f.sp.cap-1⟩,f.sk,f.n,ps,f.ks⟩
   refine setCell hst8 (y:=P.raw) (j:=0) (by omega) rfl ha (by simp) fun h9 ho9 T=>?_
   have c9:=T.get (k8.get0 aJ) cu.cc;refine⟨_,rfl,s,vc c9 0,_,rfl,?_⟩;refine sA (i:=1) (c':=Wo s (s.len:Int)) c9 (show 1<2 by decide) rfl fun h10 c10 w=>?_
   have hCh:∀b,C b→b<B.size:=fun b t=>cu.lt b (.inl t)
   have b9:=T.get b8 fun hx=>by have:=hCh _ hx;omega
   have b10:=w.oth b9 (by omega);refine⟨_,vc b10 0,_,vc b10 1,?_⟩;have bz10:=w.oth (T.get (k8.get0 bz) fun hx=>(D _ hx).2 rfl) (by omega)
   refine cC (c:=zPrL) (vs:= [.string p.1,.string p.2]) bz10 rfl fun H b11 z=>?_
   refine⟨_,vc b11 0,_,vc b11 1,?_⟩;have c11:=z.oth c10 (by omega);have v:Upd (fun b=>C b∨b=cb∨b=h.size∨B.size≤b) B H:=((k8.wide.trans T fun b t=>.inl (.inl t)).trans w fun b t=>.inl (.inr (.inl t))).trans z fun b t=>.inl (.inr (.inr (.inl t)))
   have ho11:OwnS Qb 2 dY C H s ((u++ [P]).map Fr.raw):=by
    rw[bZ,cn,kQ];exact(ho9.upd w fun b t e=>by have e:b=cb:=e;rw[e]at t;exact cu.cc t).upd z fun b t e=>(D b t).2 e
   have fo':P.Ok W G x H:=by
    have o:=keep v (fun b t=>t) U
    refine⟨?_,o.k,by show f.sp.len-1≤f.sp.cap-1;omega,o.kc,o.t,o.n0,o.n13⟩
    have op:=o.p;rw[N]at op;have:=Sl.sub op (l:=1) (hi:=(p::ps).length) (m:=f.sp.cap) (c:=f.sp.cap-1) (by simp) (aj _) (by simp only[az];omega);rw[um,sm,bv (by simp)]at this;have e:(p::ps).length-1=f.sp.len-1:=by simp only[az];omega
    rw[e]at this;exact this
   refine hs H (u++ [P]) p (P.rem x++Bs x u) G C ?_ (xj x u P) ⟨⟨s,_,c11,ho11⟩,fun g J=>?_,fun b t=>bI (cu.lt b t) v.size,cu.dj,cu.cc,cu.cw,ci.2 ⟨Q.1,cL ..,fun g J g' E=>by rw[aq.1 E];exact Q.2.2 g J f (aq.2 rfl)⟩⟩ (fun b t=>(D b t).1) (fun b t=>(S b t).1) ?_
   ·rw[←L,hrs]
    unfold Fr.rem;rw[N];rfl
   ·rcases bM.1 J with J|J
    ·exact keep v (fun b t=>t) (cu.ok g (di _ J))
    ·rw[aq.1 J];exact fo'
   ·refine hu.trans v fun b t=>?_
    rcases t with h|h|h|h
    ·exact(D b h).1.imp .inl id
    ·exact .inl (.inr h)
    ·exact .inr (by omega)
    ·exact .inr (by omega)
  ·have N:f.ps= []:=aF.1 (by omega)
   refine⟨_,rfl,f.sk,hv 1 _ rfl,?_⟩;refine aB (fun hk=>?_) fun hk=>?_
   ·
    rcases F:f.ks with _|⟨kd,ks⟩
    ·rw[F]at Y;simp only[bw]at Y;omega
    have fok:=U.k;rw[F]at fok Y;simp only[az]at Y;rw[cn]at fok;obtain⟨ap,hap,_,hvp⟩:=fok.at0 (i:=0) (x:=Kg kd) rfl;have hfn:0<f.n:=U.n0 (by rw[F];simp);have hf13:=U.n13;refine⟨_,rfl,f.sk,hv 1 _ rfl,⟨by omega,by omega⟩,ap,hap,_,hvp,_,rfl,f.sk,hv 1 _ rfl,⟨by omega,by omega⟩,_,rfl,?_⟩
    let P:Fr:=⟨f.sp,⟨aV f.sk.a 1 f.sk.cap 1,f.sk.len-1,f.sk.cap-1⟩,f.n,f.ps,ks⟩
    refine setCell O (y:=P.raw) (j:=1) (by omega) rfl ha (by simp) fun h8 ho8 A=>?_
    have c8:=A.get aJ cu.cc;have Z:Upd (fun b=>C b∨b=cb∨b=h.size∨B.size≤b) B h8:=A.mono fun b t=>.inl (.inl t)
    have s8:=A.size;refine⟨_,rfl,s,vc c8 0,?_⟩;have fo8:=keep Z (fun b t=>t) U
    obtain⟨tk,hkn⟩:=fo8.t kd (by rw[F];exact List.mem_cons_self ..);refine Gk tk (by omega) hkn fun h9 g hgn hgr hgc go k9=>?_
    have c9:=k9.get0 c8;have s9:=k9.size;refine⟨vc c9 0,bU ⟨vc ((Upd.hnew No h9 (Qb g.raw) dY).get0 c9) 0,?_⟩⟩;have hC9:∀b,C b→b<h9.size:=fun b t=>by have:=cu.lt b (.inl t);omega
    refine Sh (M:=fun b=>C b∨h9.size≤b) (p:=g.raw) ((ho8.upd k9 fun _ _ h=>h).more fun b t=>.inl t) (fun b t=>.inr t) (by rw[ad,bH,aE];omega) fun s10 h10 ho10 w=>?_
    have s10':=w.size;have c10:=w.get c9 (by rintro(hx|hx);exact cu.cc hx;omega)
    refine⟨_,rfl,?_⟩;refine sA (i:=0) (c':=Wo s10 d) c10 (show 0<2 by decide) rfl fun H c11 z=>?_
    have s11:=z.size;have v:Upd (fun b=>C b∨b=cb∨b=h.size∨B.size≤b) B H:=((Z.tr k9.wide).trans w fun b t=>t.elim (fun h=>.inl (.inl h)) fun h=>.inr (by omega)).trans z fun b t=>.inl (.inr (.inl t))
    have bz11:=z.oth (w.get (k9.get0 (A.get bz fun hx=>(D _ hx).2 rfl)) (by rintro(hx|hx);exact(D _ hx).2 rfl;omega)) (by omega)
    have hGl:∀b,G b→b<B.size:=fun b t=>cu.lt b (.inr t)
    refine hI (u++ [P]++ [g],fun b=>G b∨(h8.size≤b∧b<h9.size),fun b=>(C b∨h9.size≤b)∧b<h10.size) () H ⟨⟨⟨s10,d,c11,?_⟩,fun g' E=>?_,fun b t=>?_,fun b t=>?_,fun t=>?_,⟨fun b t=>?_,cu.cw.2⟩,?_⟩,?_,fun b t=>?_,fun b t=>?_,bz11,?_⟩ ?_
    ·rw[bZ,bZ,cn,kQ,cn,kQ]
     exact ho10.within.upd z fun b t e=>by
      have e:b=cb:=e;rw[e]at t;rcases t.1 with h|h
      ·exact cu.cc h
      ·omega
    ·have hsubG:∀{q:Fr},q.Ok W G x H→q.Ok W (fun b=>G b∨(h8.size≤b∧b<h9.size)) x H:=fun o=>o.sub fun b t=>.inl t
     rcases bM.1 E with E|E
     ·rcases bM.1 E with E|E
      ·exact hsubG (keep v (fun b t=>t) (cu.ok g' (di _ E)))
      ·rw[aq.1 E]
       have o:=keep v (fun b t=>t) U
       refine hsubG ⟨o.p,?_,o.pc,by show f.sk.len-1≤f.sk.cap-1;omega,fun q hq=>o.t q (by rw[F];exact List.mem_cons_of_mem _ hq),fun _=>hfn,hf13⟩
       have op:=o.k;rw[F,cn]at op;have:=Sl.sub op (l:=1) (hi:=(Kg kd::ks.map Kg).length) (m:=f.sk.cap) (c:=f.sk.cap-1) (by simp) (aj _) (by simp only[az,bH];omega);rw[um,sm,bv (by simp)]at this;have e:(Kg kd::ks.map Kg).length-1=f.sk.len-1:=by simp only[az,bH];omega
       rw[e]at this;exact this
     ·rw[aq.1 E]
      have o1:=go.upd w (fun b t=>t.elim (fun h=>.inl (cu.cw.1 b h)) .inr) fun b t=>t.elim (fun h=>.inl fun J=>by have:=cu.lt b (.inl h);omega) .inr
      have o2:=o1.upd z (fun b t=>.inl (by have t:b=cb:=t;rw[t];exact cu.cw.2)) fun b t=>.inl fun J=>by have t:b=cb:=t;omega
      exact o2.sub fun b t=>.inr t
    ·rcases t with t|t|t
     ·omega
     ·have:=hGl b t;omega
     ·omega
    ·refine⟨fun hc=>?_,fun e=>?_⟩
     ·rcases t with t|t
      ·rcases hc.1 with h|h
       ·exact(cu.dj b t).1 h
       ·have:=hGl b t;omega
      ·rcases hc.1 with h|h
       ·have:=cu.lt b (.inl h);omega
       ·omega
     ·subst e
      rcases t with t|t
      ·exact(cu.dj _ t).2 rfl
      ·omega
    ·rcases t.1 with h|h
     ·exact cu.cc h
     ·omega
    ·rcases t.1 with h|h
     ·exact cu.cw.1 b h
     ·exact hW0 b (by omega)
    ·refine ci.2 ⟨ci.2 ⟨Q.1,cL ..,fun q hq q' hq'=>by rw[aq.1 hq'];exact Q.2.2 q hq f (aq.2 rfl)⟩,cL ..,fun q hq q' hq'=>?_⟩
     rw[aq.1 hq',hgn];rcases bM.1 hq with hq|hq
     ·have:=Q.2.2 q hq f (aq.2 rfl);omega
     ·rw[aq.1 hq];show f.n-1<f.n;omega
    ·rw[xj,xj,←L,hrs,hgr]
     unfold Fr.rem;rw[N,F,List.flatMap_cons];simp;rfl
    ·refine⟨?_,?_⟩
     ·rcases t.1 with h|h
      ·exact(D b h).1
      ·exact .inr (by omega)
     ·rcases t.1 with h|h
      ·exact(D b h).2
      ·omega
    ·refine⟨?_,?_⟩
     ·rcases t with h|h
      ·exact(S b h).1
      ·exact .inr (by omega)
     ·rcases t with h|h
      ·exact(S b h).2
      ·omega
    ·refine hu.trans v fun b t=>?_
     rcases t with h|h|h|h
     ·exact(D b h).1.imp .inl id
     ·exact .inl (.inr h)
     ·exact .inr (by omega)
     ·exact .inr (by omega)
    ·show Cy x (u++ [P]++ [g])<Cy x (u++ [f])
     rw[yY,yY,hcs];have e1:f.cost x=P.cost x+cw x (f.n-1) kd.2:=by
      unfold Fr.cost;rw[F,cn,jK];have e0:(P.ks.map fun k=>cw x (P.n-1) k.2).sum=(ks.map fun k=>cw x (f.n-1) k.2).sum:=rfl
      omega
     omega
   ·
    have F:f.ks= []:=aF.1 (by omega);refine⟨_,rfl,s,vc aJ 0,_,rfl,s,vc aJ 0,?_⟩;rw[eidx];refine⟨⟨by omega,by omega⟩,?_⟩
    simp only[Bd];refine⟨_,rfl,?_⟩;refine sA (i:=0) (c':=Wo ⟨aV s.a 0 s.cap 2,u.length,s.cap⟩ d) aJ (show 0<2 by decide) rfl fun h8 c8 A=>?_
    have hpop:=OwnS.pop O;rw[bH]at hpop;have v:Upd (fun b=>C b∨b=cb∨b=h.size∨B.size≤b) B h8:=A.mono fun b t=>.inl (.inr (.inl t))
    refine hI (u,G,C) () h8 ⟨⟨⟨_,d,c8,hpop.upd A fun b t e=>by have e:b=cb:=e;rw[e]at t;exact cu.cc t⟩,fun g J=>keep v (fun b t=>t) (cu.ok g (di _ J)),fun b t=>bI (cu.lt b t) v.size,cu.dj,cu.cc,cu.cw,Q.1⟩,?_,D,S,A.oth bz (by omega),hu.trans A fun b t=>.inl (.inr t)⟩ ?_
    ·rw[←L,hrs]
     unfold Fr.rem;rw[N,F];rfl
    ·show Cy x u<Cy x (u++ [f])
     rw[hcs];unfold Fr.cost;omega
 ·have h0:fs= []:=aF.1 (by omega)
  subst h0;refine⟨_,rfl,?_⟩;refine sA (i:=1) (c':=Wo s 0) aJ (show 1<2 by decide) rfl fun h8 c8 A=>?_
  refine cC (c:=zPrL) (vs:=zPrL) (A.oth bz (by omega)) rfl fun h9 b9 T=>?_
  refine⟨_,vc b9 0,_,vc b9 1,hn h9 L.symm ((hu.trans A fun b t=>.inl (.inr t)).trans T fun b t=>.inr (Nat.le_of_eq (Eq.symm t)))⟩
end Go.Proofs
namespace Go.Proofs
open Go Go.Lift
def Below(W:Nat→Prop)(x:Hs)(h:ae)(m:Nat)(r:Option Addr)(l:List Pr):Prop:=(r=none∧l= [])∨∃b,r=some ⟨b,0,none⟩∧TrieAt W x h m b l
theorem Below.upd0{W:Nat→Prop}{x:Hs}{h a:ae}{m:Nat}{r:Option Addr}{l:List Pr}(k:Upd No h a)(t:Below W x h m r l):Below W x a m r l:=t.imp id fun⟨b,e,t⟩=>⟨b,e,TrieAt.upd0 k t⟩
theorem Below.less{W W':Nat→Prop}{x:Hs}{h:ae}{m:Nat}{r:Option Addr}{l:List Pr}(hm:∀b,W' b→W b∨h.size≤b)(t:Below W x h m r l):Below W' x h m r l:=t.imp id fun⟨b,e,t⟩=>⟨b,e,TrieAt.less hm t⟩
theorem Below.updM{W M:Nat→Prop}{x:Hs}{h a:ae}{m:Nat}{r:Option Addr}{l:List Pr}(k:Upd M h a)(hm:∀b,M b→W b∨h.size≤b)(t:Below W x h m r l):Below W x a m r l:=t.imp id fun⟨b,e,t⟩=>⟨b,e,TrieAt.updM k hm t⟩
theorem Uz(x:Hs):∀m,wl x m []= []
 |0=>rfl
 |m+1=>aF.1 (Nat.le_zero.1 (Hn x (m+1) []))
theorem Lu{W:Nat→Prop}{x:Hs}{h:ae}{m:Nat}{r:Option Addr}{l:List Pr}(t:Below W x h m r l)(hm:m≤13)(n:l.length≤100000){K:SliceV×SliceV→ae→Prop}
  (d:∀a f,Fr.rem x f=wl x m l→f.Ok W (fun y=>h.size≤y∧y<a.size) x a→Upd No h a→K f.raw a):HC PG uy [.pointer r] [.agg [.slice,.slice]] K h:=by
 rcases t with⟨rfl,rfl⟩|⟨b,rfl,t⟩
 ·refine Hd none ?_
  unfold B8 cS eP Qm VL;refine aP fun p b1 k1=>?_
  refine sY none ?_;unfold o9 bD;refine ax.2 (uE none ?_);unfold pQ bD;refine ax.2 ?_;refine cC (c:= [.slice none 0 0,.slice none 0 0]) (vs:= [.slice none 0 0,.slice none 0 0]) b1 rfl fun g i e=>?_
  refine⟨⟨none,0,0⟩,vc i 0,⟨none,0,0⟩,vc i 1,?_⟩;refine d g ⟨⟨none,0,0⟩,⟨none,0,0⟩,0,[],[]⟩ ?_ ⟨Sl.nil g9,Sl.nil qD,aj _,aj _,fun k d=>(by cases d),fun h=>absurd rfl h,aS _⟩ (k1.own e (aj _))
  rw[Uz];rfl
 ·exact Gk t hm n fun a f _ j _ g o=>d a f j g o
theorem Lv{W:Nat→Prop}{x:Hs}{h:ae}{m:Nat}{r:Option Addr}{l:List Pr}(t:Below W x h m r l)(hm:m≤13)(u:l.length≤100000)(k:∀y,h.size≤y→W y){K:Option Addr→ae→Prop}
  (v:∀h' cb f G C,h.size≤cb→(∀y,G y∨C y→h.size≤y)→CurW W G C x h' cb [f]→f.rem x=wl x m l→Upd No h h'→K (some ⟨cb,0,none⟩) h'):HC PG yL [.pointer r] [.c .ptr] K h:=by
 refine M7 r ?_;unfold E1 WE;refine Lu t hm u fun b f c q j=>?_
 refine aP fun i b3 e=>aP fun s n d=>?_
 have z:=aN b3;have w:=aN n;have B:=j.size;have A:=e.size;have o:OwnS Qb 2 dY (fun y=>y=b.size) i ⟨some (aC b),1,1⟩ [f.raw]:=⟨rfl,Rr,aj _,.inr ⟨b.size,[],rfl,rfl,b3,rfl⟩⟩
 refine v s i.size f (fun y=>h.size≤y∧y<b.size) (fun y=>y=b.size) (by omega) (fun y a=>by rcases a with h|h<;>omega) ⟨⟨_,0,n,o.upd d fun _ _ h=>h⟩,fun g p=>?_,fun y a=>by rcases a with h|h<;>omega,fun y a=>⟨by omega,by omega⟩,by omega,⟨fun y a=>k y (by omega),k _ (by omega)⟩,cL ..⟩ c ((j.tr e).tr d)
 rw[aq.1 p];exact q.upd (e.tr d) (fun _ h=>h.elim) fun _ h=>h.elim
theorem Lw{W:Nat→Prop}{x:Hs}{h:ae}{m:Nat}{r:Option Addr}{l:List Pr}(t:Below W x h m r l)(hm:m≤13)(hn:l.length≤100000){K:Value→ae→Prop}
  (hk:∀fv o,Gives PG fv TT l.length (fun xs=>xs=wl x m l) (fun y=>y<o.size) o→Upd No h o→K fv o):HC PG yM [.pointer r] [.c .raw] K h:=by
 refine M8 r ?_;unfold E2;refine aP fun z b1 k1=>?_
 have z1:=aN b1;refine hk _ z ?_ k1;have t1:=Below.less (W':=fun y=>z.size≤y) (fun y a=>.inr a) (Below.upd0 k1 t)
 have hwl:=Hn x m l;refine⟨fun y a=>a,rh,#[],_,rfl,fun y J A M X K' E hj hu hq ha hk'=>?_⟩
 refine Gb y (aC h) ?_;unfold vF nv pt jU ay tV;have d1:=hu.get b1 (hq _ z1);have s4:=hu.size;have t4:Below (fun y=>z.size≤y) x X m r l:=Below.updM hu (fun y a=>.inl (by
  rcases bG y z.size with S|S
  ·exact absurd a (hq y S)
  ·exact S)) t1
 refine⟨_,bl d1,?_⟩;refine Lv t4 hm hn (fun y a=>Nat.le_trans s4 a) fun h5 cb f G C hcb O cur hfr k5=>?_
 have n:=E.lt _ _ _ hj;have hA3:∀y,A y→z.size≤y:=fun y a=>by
  rcases bG y z.size with S|S
  ·exact absurd S (ha y a)
  ·exact S
 have s5:=k5.size;have T:Bs x [f]=wl x m l:=by rw[←hfr];simp[Bs]
 refine LoopP.ghost (fun(g:List Pr×List Fr×(Nat→Prop)×(Nat→Prop)×(Nat→Prop)) (_:Unit) o=>CurW (fun y=>z.size≤y) g.2.2.2.1 g.2.2.2.2 x o cb g.2.1∧J g.1 g.2.2.1 o∧Upd A X o∧(∀y,g.2.2.1 y→(A y∨X.size≤y)∧¬g.2.2.2.1 y∧¬g.2.2.2.2 y∧y≠cb)∧(∀y,g.2.2.2.1 y∨g.2.2.2.2 y→X.size≤y)∧g.1++Bs x g.2.1=wl x m l∧h5.size≤o.size) (fun g=>(Bs x g.2.1).length) ([],[f],A,G,C)
  ⟨cur,E.keep _ _ _ _ No hj k5 (fun _ _ h=>h),k5.wide,fun y a=>⟨.inl a,fun hx=>by have:=n y a;have:=O y (.inl hx);omega,fun hx=>by have:=n y a;have:=O y (.inr hx);omega,fun e=>by have:=n y a;omega⟩,O,by rw[T];rfl,aj _⟩ ?_
 rintro I ⟨v,fs,H,G1,C1⟩ ⟨⟩ o ⟨cu,w,hu',b,i,c,hsz⟩ hI;simp only at cu w b i c;have D:=E.lt _ _ _ w;have hA1W:∀y,H y→z.size≤y:=fun y a=>(b y a).1.elim (hA3 y) fun h=>by omega
 have hd:∀y,H y→¬(C1 y∨y=cb):=fun y a hx=>hx.elim (b y a).2.2.1 (b y a).2.2.2
 have hC4:∀y,C1 y∨y=cb→X.size≤y:=fun y a=>a.elim (fun h=>i y (.inr h)) fun e=>by omega
 refine Jf cu (fun y a=>by omega) (fun h6 hr0 j=>?_) fun h6 fs' p R G' C' Q hr2 q hC' hG' j=>?_
 ·have L:=E.keep _ _ _ _ _ w j hd
  refine qT fun V b7 N=>?_
  refine Join.intro (fun t u=>t=true∧u=V) (fun R hR=>ax.2 (hR _ _ ⟨rfl,rfl⟩)) ?_
  rintro t u ⟨rfl,rfl⟩;refine ax.2 (hk' v H u ?_ (E.keep _ _ _ _ No L N (fun _ _ h=>h)) ?_ fun y a=>(b y a).1)
  ·rw[hr0,List.append_nil]at c
   exact c
  ·exact(hu'.trans j fun y a=>.inr (hC4 y a)).tr N.wide
 ·have L:=E.keep _ _ _ _ _ w j hd
  refine qT (p:=p) fun V b7 N=>?_
  have hj7:=E.keep _ _ _ _ No L N (fun _ _ h=>h)
  have cu7:=q.upd N (fun _ h=>h.elim) (fun _ _ h=>h) (fun _ _ h=>h) fun h=>h
  have Z:Upd A X V:=(hu'.trans j fun y a=>.inr (hC4 y a)).tr N.wide
  have s6:=j.size;have s7:=N.size;refine Join.intro (fun t u=>t=false∧∃Y,J (v++ [p]) Y u∧Upd H V u∧∀y,Y y→H y∨V.size≤y) (fun R' hR=>?_) ?_
  ·refine al.2 ⟨_,vc b7 0,_,vc b7 1,?_⟩
   refine E.step v H V p _ hj7 ?_ fun u Y P k U=>hR _ _ ⟨rfl,Y,P,k,U⟩
   have:=congrArg eE c;rw[Q]at this;simp only[ad,az]at this;omega
  ·rintro t u ⟨rfl,Y,P,k,U⟩
   have F:∀y,G' y→¬H y:=fun y a hx=>(hG' y a).elim (b y hx).2.1 fun h=>by have:=D y hx;omega
   have B:∀y,C' y→¬H y:=fun y a hx=>(hC' y a).elim (b y hx).2.2.1 fun h=>by have:=D y hx;omega
   have hcb6:cb<h6.size:=by obtain⟨s,d,hx,_⟩:=q.ex;exact aN hx
   refine al.2 (hI (v++ [p],fs',Y,G',C') () u ⟨?_,P,?_,fun y a=>?_,fun y a=>?_,?_,by have:=k.size;omega⟩ ?_)
   ·exact cu7.upd k (fun y a=>.inl (hA1W y a)) B F fun hx=>(b _ hx).2.2.2 rfl
   ·exact Z.trans k fun y a=>(b y a).1
   ·rcases U y a with h|h
    ·exact⟨(b y h).1,fun hx=>F y hx h,fun hx=>B y hx h,(b y h).2.2.2⟩
    ·exact⟨.inr (by omega),fun hx=>by have:=q.lt y (.inr hx);omega,fun hx=>by have:=q.lt y (.inl hx);omega,by omega⟩
   ·rcases a with a|a
    ·rcases hG' y a with h|h
     ·exact i y (.inl h)
     ·omega
    ·rcases hC' y a with h|h
     ·exact i y (.inr h)
     ·omega
   ·simp only
    rw[au,hr2,←c,Q];rfl
   ·simp only
    rw[Q,hr2];simp
theorem Fy{W W':Nat→Prop}{x:Hs}{h:ae}{m:Nat}{r:Option Addr}{l:List Pr}(t:Below W x h m r l)(hm:m≤13)(j:cx l)(p:l.length≤100000)(b:∀y,W' y→y<h.size){K:SliceV→ae→Prop}
  (u:∀s' h',Sl eg 2 W' h' s' l→s'.len≤s'.cap→Upd No h h'→K s' h'):HC PG tW [.pointer r] [.c .slice] K h:=by
 refine FT r ?_;unfold yb;refine Lw t hm p fun w z k d=>?_
 refine Cz k (by omega) fun A v xs e i f=>?_
 subst e;have s:=Hn x m l;refine OZ (W':=W') (i.sl (W:=No) fun _ _ _ h=>h) (fun y g=>bI (b y g) (d.tr f).size) (by omega) fun q n a c o=>?_
 rw[UN j]at a;exact u q n a c ((d.tr f).tr o)
theorem LA{W W':Nat→Prop}{x:Hs}{h:ae}{t:Tr}{l:List Pr}(i:TreeIs W h 0 x t l)(m:cx l)(o:l.length≤60000)(c:∀y,W' y→y<h.size){K:SliceV→ae→Prop}
  (k:∀s' h',Sl eg 2 W' h' s' l→Upd No h h'→K s' h'):HC PG gk [DG t] [.c .slice] K h:=by
 rcases i with⟨_,b,rfl,t⟩|⟨e,_⟩
 ·refine sW _ ?_
  unfold oZ bj aH uU JT;refine aP fun n b1 k1=>⟨_,vc b1 0,al.2 ⟨_,vc b1 4,?_⟩⟩
  exact Fy (W':=W') (.inr ⟨b,rfl,TrieAt.upd0 k1 t⟩) (aj _) m (by omega) (fun y j=>bI (c y j) k1.size) fun d f a _ g=>k d f a (k1.tr g)
 ·cases e
theorem OW{W W':Nat→Prop}{x:Hs}{h:ae}{c:Int}{t:Tr}{l:List Pr}(i:TreeIs W h c x t l)(g:cx l)(m:Fit l)(d:l.length≤60000)(a:∀y,W' y→y<h.size){K:SliceV→ae→Prop}
  (f:∀s' b,Sl eg 2 W' b s' l→Upd No h b→K s' b):HC PG gk [DG t] [.c .slice] K h:=by
 have e:=i;rcases i with⟨rfl,_⟩|⟨rfl,_,_,_⟩
 ·exact LA e g d a f
 ·exact DP e g m d fun s' b n k=>f s' b (n.sl fun y o _ j=>by have:=a y j;omega) k
end Go.Proofs
namespace Go.Proofs
open Go Go.Lift
abbrev tzL:List Nat:= [0,1,28,2,29,14,24,3,30,22,20,15,25,17,4,8,31,27,13,23,21,19,16,7,26,12,18,6,11,5,10,9]
def Tab(h:ae):Prop:=∀i,i<32→aJ h ⟨0,i,none⟩=some (.int .u8 ((tzL.getD i 0:Nat):Int))
theorem Tab.upd{M:Nat→Prop}{h a:ae}(t:Tab h)(k:Upd M h a)(hm:¬M 0):Tab a:=fun i hi=>k.cell (t i hi) hm
theorem UI:∀c:Fin 32,Int.fdiv (IntKind.wrap .u32 (IntKind.wrap .u32 ((2^c.val:Nat):Int)*125613361)) (2^(min (27:Int).toNat (IntKind.bits .u32)))=((2^c.val*125613361%4294967296/134217728:Nat):Int)∧2^c.val*125613361%4294967296/134217728<32∧tzL.getD (2^c.val*125613361%4294967296/134217728) 0=c.val:=by decide+kernel
theorem Sn{a b:Nat}(c:a<4294967296)(d:b<4294967296):(ao (IntKind.bits .u32) (a:Int)&&&ao (IntKind.bits .u32) (b:Int)).toNat=a&&&b:=by
 rw[show IntKind.bits .u32=32 from rfl,fx,fx,BitVec.toNat_and,om,om,dq (show a<2^32 from c),dq (show b<2^32 from d)]
theorem VW{h:ae}(tb:Tab h){x c:Nat}(hx:x<4294967296)(hc:c<32)(a:x.testBit c=true)(i:∀j,j<c→x.testBit j=false){K:Int→ae→Prop}(k:K (c:Int) h):HC PG iJ [.int .u32 (x:Int)] [.c (.int .i64)] K h:=by
 refine rp x ?_;unfold lN bR cQ;have m:0<x:=by
  rcases Nat.eq_zero_or_pos x with e|e
  ·rw[e,ge]at a;cases a
  ·exact e
 refine CondP.intro (fun e=>?_) fun _=>?_
 ·have e:(x:Int)=0:=by simpa using e
  omega
 have g:IntKind.wrap .u32 (0-(x:Int))=((4294967296-x:Nat):Int):=by rw[IntKind.wrap_u32];omega
 rw[g,Sn hx (by omega),TH a i hc hx];obtain⟨b,d,f⟩:=UI ⟨c,hc⟩;simp only at b d f;simp only[Bd];rw[b];refine⟨by decide,⟨by omega,by omega⟩,((tzL.getD (2^c*125613361%4294967296/134217728) 0:Nat):Int),?_,?_⟩
 ·rw[Nat.mul_one,bV,aI,Int.toNat_natCast];exact tb _ d
 ·rw[f,ji (by omega)];exact k
def dk(d k:Nat):Nat:=(d>>>k)<<<k
theorem BN(d k i:Nat):(dk d k).testBit i=(decide (k≤i)&&d.testBit i):=by
 unfold dk;rw[Nat.testBit_shiftLeft];by_cases h:k≤i
 ·rw[decide_eq_true (show i≥k from h),Nat.testBit_shiftRight];congr 2;omega
 ·rw[decide_eq_false (show ¬i≥k from h)];rfl
theorem Uu(d k:Nat):dk d k≤d:=by
 unfold dk;rw[Nat.shiftLeft_eq,Nat.shiftRight_eq_div_pow];exact Nat.div_mul_le_self ..
theorem TU(d:Nat):dk d 0=d:=hJ fun i=>by rw[BN];simp
theorem GB{d:Nat}(hd:d<4294967296){u:Nat}{h:ae}(y:h[u]? =some (.cells #[.int .u32 (d:Int)] uX (0,0)))
  {BODY:Int→(Option Ex→ae→Prop)→ae→Prop} {N:ae→Prop} {X:Nat→ae→Prop} {R:ae→Prop} (Inv:Nat→ae→Prop) (M:Nat→Prop)
  (L:∀k a,Inv k a→Tab a) (h0:Inv 0 h) (f:∀k a q,Inv k a→h.size≤a.size→Upd (fun b=>b=u∨h.size≤b) a q→Inv k q)
  (hM:∀b,M b→b≠u∧b<h.size)
  (step:∀k c a (KK:Option Ex→ae→Prop),Inv k a→k≤c→c<32→d.testBit c=true→(∀j,k≤j→j<c→d.testBit j=false)→(∀q,Inv (c+1) q→Upd M a q→KK none q)→BODY (c:Int) KK a)
  (Z:∀k a,Inv k a→(∀j,k≤j→j<32→d.testBit j=false)→a[h.size]? =some (.deferred (some []))→N a):
  RangeP PG (.func (.func iZ) #[] #[.pointer (some ⟨u,0,none⟩)]) [.c (.int .i64)] h
   (fun GA bz (x:Int) k G=>(G[(bW h+1)]? =some GA∧At (Array.setIfInBounds G (bW h+1) bz) (fun V=>BODY x k V))) N X R:=by
 refine⟨fun lo hlo s=>?_⟩
 refine⟨iZ,#[],#[.pointer (some ⟨u,0,none⟩)],rfl,?_⟩;have zb:=aN y;have k1:Upd No h ((h.push (.deferred (some []))).push (lo .ready none)):=(Upd.push No _ _).tr (Upd.push No _ _);have T:((h.push (.deferred (some []))).push (lo .ready none))[h.size+1]? =some (lo .ready none):=by
  have:=ww (h.push (.deferred (some []))) (lo .ready none);rwa [Array.size_push]at this
 have l1:((h.push (.deferred (some []))).push (lo .ready none))[h.size]? =some (.deferred (some [])):=(Upd.push No _ _).get0 (ww h _);have b1:=k1.get0 y;have i1:=f 0 _ _ h0 (aj _) k1.wide;have z1:=aN T;generalize (h.push (.deferred (some []))).push (lo .ready none)=a at k1 T l1 b1 i1 z1;refine xM (.func (.yield (h.size+1)) #[] #[]) ⟨u,0,none⟩ ?_;unfold oa
 refine LoopP.ghost (fun(k:Nat) (_:Unit) g=>Inv k g∧g[u]? =some (.cells #[.int .u32 ((dk d k:Nat):Int)] uX (0,0))∧g[h.size]? =some (.deferred (some []))∧g[h.size+1]? =some (lo .ready none)∧k≤32) (fun k=>33-k) 0 ⟨i1,by rw[TU];exact b1,l1,T,aS _⟩ ?_
 rintro I k ⟨⟩ g ⟨hi,w,J,m,hk32⟩ hI;have zz:=aN m;have B:=Nat.lt_of_le_of_lt (Uu d k) hd;refine⟨_,bl w,CondP.intro (fun e=>?_) fun e=>?_⟩
 ·have S:0<dk d k:=by
   have:((dk d k:Nat):Int)≠0:=by simpa using e
   omega
  obtain⟨c,hc,D,z⟩:=Rd (n:=32) B S;have C:=D;rw[BN,Bool.and_eq_true,decide_eq_true_iff]at C;refine⟨_,bl w,VW (L k _ hi) B hc D z ?_⟩;refine s (c:Int) g _ m ⟨m,?_⟩;have K:Upd (· =h.size+1) g (g.setIfInBounds (h.size+1) (lo .busy none)):=Upd.set _ _ rfl
  have lb:=jt (o:=lo .busy none) m;have sb:=K.size;refine bU ?_;generalize g.setIfInBounds (h.size+1) (lo .busy none)=q at K lb sb;refine step k c q _ (f k _ _ hi (by omega) (K.mono fun b y=>.inl (.inr (by omega)))) C.1 hc C.2 (fun j a q=>?_) fun P Q t=>?_
  ·have:=z j q
   rw[BN,decide_eq_true a]at this;simpa using this
  have E:=t.get lb fun e=>by have:=(hM _ e).2;omega
  have W:=t.get (K.get w (show ¬u=h.size+1 by omega)) fun e=>(hM _ e).1 rfl
  have U:=t.get (K.get J (show ¬h.size=h.size+1 by omega)) fun e=>by have:=(hM _ e).2;omega
  refine⟨E,?_⟩;have v:Upd (· =h.size+1) P (P.setIfInBounds (h.size+1) (lo .ready none)):=Upd.set _ _ rfl
  have l5:=jt (o:=lo .ready none) E;have p:=v.get W (show ¬u=h.size+1 by omega)
  have F:=v.get U (show ¬h.size=h.size+1 by omega)
  have s3:=t.size;have i5:=f (c+1) _ _ Q (by omega) (v.mono fun b y=>.inl (.inr (by omega)))
  simp only[Option.isNone_none,if_true];refine al.2 ?_;generalize P.setIfInBounds (h.size+1) (lo .ready none)=h5 at v l5 p F i5;refine⟨_,bl p,_,bl p,?_⟩;have ew:IntKind.wrap .u32 (((dk d k:Nat):Int)-1)=((dk d k-1:Nat):Int):=by rw[IntKind.wrap_u32];omega
  have ea:dk d k&&&(dk d k-1)=dk d (c+1):=by
   refine hJ fun i=>?_
   rw[PI D z,BN,BN];by_cases H:c<i
   ·rw[decide_eq_true H,decide_eq_true (show k≤i by omega),decide_eq_true (show c+1≤i by omega)];simp
   ·rw[decide_eq_false H,decide_eq_false (show ¬c+1≤i by omega)];simp
  simp only[Bd];rw[ew,Sn B (by omega),ea];have O:IntKind.wrap .u32 ((dk d (c+1):Nat):Int)=((dk d (c+1):Nat):Int):=by have:=Uu d (c+1);rw[IntKind.wrap_u32];omega
  rw[O];refine⟨iX p (by simp),vB p fun h6 Y A=>?_⟩
  have s5:=v.size;refine hI (c+1) () h6 ⟨f _ _ _ i5 (by omega) (A.mono fun b y=>.inl (.inl y)),Y,A.oth F (by omega),A.oth l5 (by omega),hc⟩ (by omega)
 ·have hz:dk d k=0:=by
   have:((dk d k:Nat):Int)=0:=by simpa using e
   omega
  have v:Upd (· =h.size+1) g (g.setIfInBounds (h.size+1) (lo .exhausted none)):=Upd.set _ _ rfl
  refine⟨.ready,none,by decide,m,?_⟩
  refine Z k _ (f k _ _ hi (by omega) (v.mono fun b y=>.inl (.inr (by omega)))) (fun j a _=>?_) (v.get J (show ¬h.size=h.size+1 by omega))
  have:=BN d k j;rw[hz,ge,decide_eq_true a]at this;simpa using this.symm
end Go.Proofs
namespace Go.Proofs
open Go Go.Lift
abbrev Ul(n:Nat):List Value:= [.int .i64 (n:Int)]
theorem UZ(n:Nat):(Ul n).length=1∧0<1:=⟨rfl,by omega⟩
theorem Bb{h:ae}{b:Nat}{c:Array Value}{t:TypeId}(a:h[b]? =some (.cells c t (0,0))):aJ h ⟨b,0,none⟩=c[0]?:=bl a
theorem DD{h:ae}{b:Nat}{c c':Array Value}{t:TypeId}{v:Value}{k:ae→Prop}(f:h[b]? =some (.cells c t (0,0))) (hi:0<c.size) (e:c.setIfInBounds 0 v=c') (i:∀a,a[b]? =some (.cells c' t (0,0))→Upd (· =b) h a→k a):Wr h ⟨b,0,none⟩∧At (hset h ⟨b,0,none⟩ v) k:=
 ⟨iX f hi,vB f fun a d g=>i a (e▸d) g⟩
theorem kE{h:ae}{b:Nat}{cs:List Value}{t:TypeId}(a:h[b]? =some (.cells cs.toArray t (0,0))):SRow h (some ⟨b,0,none⟩) cs.length cs:=
 ⟨rfl,.inr ⟨_,rfl,pX a fun i v hv=>by rw[aI,List.getElem?_toArray];exact hv⟩⟩
theorem El{W:Nat→Prop}{x:Hs}{k:ByteArray}{h:ae}{s:SliceV}{way:List Nat}(f:Sl Ul 1 W h s way)(o:way.length≤13)(m:∀i c,way[i]? =some c→ck x i k=c) {K:Bool→ae→Prop} (n:K true h):HC PG nh [.int .u64 (me x k),.slice s.a s.len s.cap] [.c .bool] K h:=by
 refine FY (me x k) s ?_;unfold yf bR cQ mZ;have d:=f.len;refine LoopP.ghost (fun(i:Nat) (t:Int) e=>t=(i:Int)∧i≤way.length∧e=h) (fun i=>way.length-i) 0 ⟨rfl,aS _,rfl⟩ ?_
 rintro I i t e ⟨rfl,hi,rfl⟩ j;refine aB (fun b=>?_) fun _=>n
 have b:i<way.length:=by omega
 obtain⟨a,g,_,hv⟩:=f.at0 (af b);refine⟨⟨by omega,by omega⟩,a,g,_,hv,R8 (x:=x) (k:=k) (lev:=i) (by omega) ?_⟩
 rw[m i _ (af b),bne_self_eq_false];refine al.2 ?_;rw[cz b (by omega)];exact j (i+1) _ _ ⟨rfl,b,rfl⟩ (by omega)
theorem Pq{W:Nat→Prop}{h:ae}{s:SliceV}{l:List Pr}(e:Sl eg 2 W h s l)(o:cx l)(q:l.length≤1000000){K:Bool→ae→Prop}(p:K true h):HC PG vz [.slice s.a s.len s.cap] [.c .bool] K h:=by
 refine IS s ?_;unfold AY bR cQ aY;have g:=e.len;refine LoopP.ghost (fun(i:Nat) (t:Int) f=>t=((i+1:Nat):Int)∧f=h) (fun i=>l.length-i) 0 ⟨rfl,rfl⟩ ?_
 rintro I i t f ⟨rfl,rfl⟩ k;refine aB (fun b=>?_) fun _=>p
 have b:i+1<l.length:=by omega
 have j:IntKind.wrap .i64 (((i+1:Nat):Int)-1)=(i:Int):=by rw[ji (by omega)];omega
 rw[j];obtain⟨a,m,_,hv⟩:=e.at (af (show i<l.length by omega))
 obtain⟨a',d,_,c⟩:=e.at (af b);refine⟨⟨by omega,by omega⟩,a,m,_,hv 0 _ rfl,⟨by omega,by omega⟩,a',d,_,c 0 _ rfl,?_⟩
 have:=cB.1 o i (i+1) (by omega) b (by omega);have n:Op.bytesLess l[i].1.toList l[i+1].1.toList=true:=this;rw[n];refine al.2 ?_;rw[cz b (by omega)];exact k (i+1) _ _ ⟨rfl,rfl⟩ (by omega)
theorem O0(x:Hs)(lev:Nat)(l:List Pr):(fQ x lev l).length+(iA x lev l).flatten.length=l.length:=by
 have h:=rz x lev l 32;have d:(l.filter fun p=>decide (ck x lev p.1<32))=l:=List.filter_eq_self.2 fun p _=>decide_eq_true (x8 ..)
 rw[d]at h;have:∀n,(fm (fun c=>gL (part x lev c l)) n).length+(fm (fun c=>eL (part x lev c l)) n).flatten.length=((List.range n).map fun c=>(part x lev c l).length).sum:=by
  intro n;induction n with
  |zero=>simp[fm]
  |succ n ih=>
   rw[gj,gj,List.range_succ,bZ,gG];simp only[ad,d8,cn,kQ,jK,List.sum_nil,Nat.add_zero];generalize part x lev n l=q;have:(gL q).toList.length+(eL q).toList.flatten.length=q.length:=by
    match q with
    | []=>simp[gL,eL]
    | [a]=>simp[gL,eL]
    |a::b::q=>simp[gL,eL]
   omega
 have:=this 32;unfold fQ iA;omega
theorem Ia{β:Type}{g:Nat→Option β}{k:Nat}:∀{c:Nat},k≤c→(∀j,k≤j→j<c→g j=none)→fm g c=fm g k
 |0,h,_=>by rw[show k=0 by omega]
 |c+1,h,hn=>by
  rcases bG k (c+1)with a|a
  ·rw[gj,hn c (by omega) (by omega),Ia (by omega) fun j b d=>hn j b (by omega)];simp
  ·rw[show k=c+1 by omega]
end Go.Proofs
namespace Go.Proofs
open Go Go.Lift
theorem O2{W:Nat→Prop}{x:Hs}{h:ae}{m:Nat}{s:Slots}{c:Nat}{l:List Pr}(t:SlotIs W x h m s c l)(b:(s.p c).isSome):∃p,l= [p]∧s.p c=some p:=by
 rcases t with⟨_,a,_⟩|⟨p,d,a,_⟩|⟨_,a,_⟩
 ·rw[a]at b;cases b
 ·exact⟨p,d,a⟩
 ·rw[a]at b;cases b
theorem O3{W:Nat→Prop}{x:Hs}{h:ae}{m:Nat}{s:Slots}{c:Nat}{l:List Pr}(t:SlotIs W x h m s c l)(b:(s.k c).isSome):2≤l.length∧∃d,s.k c=some (some ⟨d,0,none⟩)∧TrieAt W x h m d l:=by
 rcases t with⟨_,_,a⟩|⟨p,_,_,a⟩|⟨e,_,d,a,f⟩
 ·rw[a]at b;cases b
 ·rw[a]at b;cases b
 ·exact⟨e,d,a,f⟩
theorem Hp{W:Nat→Prop}{h:ae}{s:SliceV}{way:List Nat}{c:Nat}{xs:List Value}(f:Sl Ul 1 W h s way)(hc:s.cap=s.len)(g:way.length≤13)(hx:xs= [.int .i64 (c:Int)]){K:SliceV→ae→Prop}
  (e:∀s' a,Sl Ul 1 No a s' (way++ [c])→s'.len≤s'.cap→Upd No h a→K s' a):AppP (some [.int .i64 0]) 1 8 vK s.a s.len s.cap 1 xs h K:=by
 subst hx;refine KL (ys:= [c]) f rfl rfl rfl (by omega) (by omega) (by simp;omega) fun s' a b d=>e s' a (b.sl fun _ _ _ h=>h) b.cap d
def OnWay(x:Hs)(way:List Nat)(l:List Pr):Prop:=∀p∈l,∀i c,way[i]? =some c→ck x i p.1=c
theorem OnWay.part{x:Hs}{way:List Nat}{l:List Pr}{c:Nat}(o:OnWay x way l):OnWay x (way++ [c]) (part x way.length c l):=fun p a i d hd=>by
 have a:=kU.1 a;rcases bG i way.length with h|h
 ·rw[List.getElem?_append_left h]at hd;exact o p a.1 i d hd
 ·rw[List.getElem?_append_right h]at hd
  have:i-way.length=0:=by have:=(List.getElem?_eq_some_iff.1 hd).1;simp at this;omega
  rw[this]at hd;simp only[List.getElem?_cons_zero,Option.some.injEq]at hd;subst hd;rw[show i=way.length by omega];exact a.2
theorem R9{W:Nat→Prop}{x:Hs}:∀(m:Nat),m≤13→∀{h:ae} {b:Nat} {l:List Pr} {sw:SliceV} {way:List Nat},TrieAt W x h m b l→Tab h→Sl Ul 1 No h sw way→sw.len≤sw.cap→way.length=13-m→OnWay x way l→cx l→l.length≤60000→∀{K:Int×Bool→ae→Prop},(∀Q,Upd No h Q→K ((l.length:Int),true) Q)→
  HC PG ni [.agg #[.int .u64 x.k0,.int .u64 x.k1,.int .u64 x.mask],.pointer (some ⟨b,0,none⟩),.slice sw.a sw.len sw.cap] [.c (.int .i64),.c .bool] K h:=by
 intro m;induction m with
 |zero=>
  intro _ h b l sw way t tb hs hcp hw U hr hn K hk;refine ya (x.k0,x.k1,x.mask) (some ⟨b,0,none⟩) sw ?_;unfold ul cQ ag aY nv Bx xb jU im wd ay tV lq OL;refine aP fun h1 b1 k1=>aP fun h2 b2 k2=>aP fun h3 b3 V=>aP fun h4 b4 N=>aP fun h5 b5 J=>?_
  have G:Upd No h h5:=(((k1.tr k2).tr V).tr N).tr J;have c1:=J.get0 (N.get0 (V.get0 (k2.get0 b1)));have c2:=J.get0 (N.get0 (V.get0 b2));have c3:=J.get0 (N.get0 b3);have c4:=J.get0 b4;have s1:=k1.size;have s2:=k2.size;have s3:=V.size;have s4:=N.size;have z3:=aN b3;have z4:=aN b4;have z5:=aN b5;obtain⟨sp,sk,ow,hb,hsp,_⟩:=(BuckAt.upd t G fun _ h=>h.elim:BuckAt W h5 b l).ex
  refine⟨_,Bb c2,oH hb hsp (by omega) fun s8 D ho8 w=>?_⟩
  refine⟨_,Bb (w.get0 c2),iM (w.get0 hb) (ax.2 ?_)⟩;have d1:=w.get0 c1;have d3:=w.get0 c3;have d4:=w.get0 c4;have d5:=w.get0 b5;have s8':=w.size;have hs8:Sl eg 2 No D s8 l:=ho8.sl fun _ _ _ h=>h
  have hlen:=hs8.len;have hwl:=hs.len;have hs':Sl Ul 1 No D sw way:=(hs.upd G fun _ h=>h.elim).upd w fun _ h=>h.elim
  refine Join.plain ⟨sw,Bb d3,?_⟩;rw[show((sw.len:Int) !=(13:Int))=false by rw[bne_eq_false_iff_eq];omega]
  refine al.2 (Pq hs8 hr (by omega) (al.2 ?_));refine LoopP.ghost (fun(i:Nat) (t:Int) Q=>t=(i:Int)∧i≤l.length∧Upd No D Q) (fun i=>l.length-i) 0 ⟨rfl,aS _,Upd.refl _ _⟩ ?_
  rintro I i t Q ⟨rfl,hi,T⟩ hI;refine aB (fun L=>?_) fun hge=>?_
  ·have L:i<l.length:=by omega
   obtain⟨a,ha,_,hv⟩:=(hs8.upd T fun _ h=>h.elim).at (af L)
   refine⟨⟨by omega,by omega⟩,a,ha,_,hv 0 _ rfl,_,hv 1 _ rfl,qT (p:=l[i]) fun h9 b9 k9=>?_⟩
   have z:=T.tr k9;refine⟨_,vc (z.get0 d1) 0,_,vc (z.get0 d1) 1,_,vc (z.get0 d1) 2,_,vc b9 0,sw,Bb (z.get0 d3),vj fun h10 k10=>⟨Bb (k10.get0 (z.get0 d3)),?_⟩⟩
   refine El ((hs'.upd z fun _ h=>h.elim).upd k10 fun _ h=>h.elim) (by omega) (fun j c hj=>U _ (aU L) j c hj) (al.2 ?_)
   rw[cz L (by omega)];exact hI (i+1) _ _ ⟨rfl,L,z.tr k10⟩ (by omega)
  ·have hil:i=l.length:=by omega
   subst hil;refine DD (T.get0 d4) (by simp) rfl fun h9 b9 z=>DD (z.oth (T.get0 d5) (by omega)) (by simp) rfl fun h10 b10 u=>?_
   refine⟨_,Bb (u.oth b9 (by omega)),_,Bb b10,?_⟩;have e:((s8.len:Nat):Int)=(l.length:Int):=by omega
   rw[e];exact hk _ ((((G.tr w).tr T).own z (by omega)).own u (by omega))
 |succ m ih=>
  intro hm h b l sw way t tb hs hcp hw U hr hn K hk;refine ya (x.k0,x.k1,x.mask) (some ⟨b,0,none⟩) sw ?_;unfold ul cQ ag aY nv Bx xb jU im wd ay tV lq OL;obtain⟨sl,nd,hs0⟩:=t;have M:∀c,c<32→SlotIs W x h m sl c (part x (12-m) c l):=hs0;refine aP fun h1 b1 k1=>aP fun h2 b2 k2=>aP fun h3 b3 V=>aP fun h4 b4 N=>aP fun h5 b5 J=>?_
  have G:Upd No h h5:=(((k1.tr k2).tr V).tr N).tr J;have c1:=J.get0 (N.get0 (V.get0 (k2.get0 b1)));have c2:=J.get0 (N.get0 (V.get0 b2));have c3:=J.get0 (N.get0 b3);have c4:=J.get0 b4;have s1:=k1.size;have s2:=k2.size;have s3:=V.size;have s4:=N.size;have z1:=aN b1;have z2:=aN b2;have z3:=aN b3;have z4:=aN b4;have z5:=aN b5;obtain⟨d,n,sp,sk,ow,hb,bits,hsp,hsk,_⟩:=(nd.upd G fun _ h=>h.elim).ex
  have hfp:(fm sl.p 32).length≤32:=vO;refine⟨_,Bb c2,oH hb hsp (by omega) fun s8 D ho8 w=>?_⟩
  refine⟨_,Bb (w.get0 c2),iM (w.get0 hb) (al.2 ⟨sw,Bb (w.get0 c3),?_⟩)⟩;have k08:=G.tr w;have hl8:=ho8.len;rw[zN M]at hl8;have hwl:=hs.len;rw[decide_eq_false (by omega)];refine al.2 (aP fun h9 b9 k9=>?_)
  have z:=w.tr k9;have s8':=w.size;have z9:=aN b9;refine DD b9 (by simp) rfl fun h10 b10 u=>?_
  have d1:=u.oth (z.get0 c1) (by omega);have d2:=u.oth (z.get0 c2) (by omega);have d3:=u.oth (z.get0 c3) (by omega);have d4:=u.oth (z.get0 c4) (by omega);have d5:=u.oth (z.get0 b5) (by omega);refine⟨sw,Bb d3,sw,Bb d3,sw,Bb d3,⟨by omega,by omega⟩,⟨by omega,by omega⟩,?_⟩
  refine DD d3 (by simp) rfl fun H b11 A=>?_
  have g:Upd No h H:=((k08.tr k9).own u (by omega)).own A (by omega);have B:=A.oth d1 (by omega);have e2:=A.oth d2 (by omega);have e4:=A.oth d4 (by omega);have e5:=A.oth d5 (by omega);have e9:=A.oth b10 (by omega);have s11:=g.size;have s10a:=u.size;have s11a:=A.size;have E:Sl Ul 1 (fun y=>h.size≤y) H ⟨aV sw.a 0 ((sw.len:Int).toNat) 1,((sw.len:Int).toNat)-0,((sw.len:Int).toNat)-0⟩ way:=by
   have:=Sl.sub ((hs.less (W':=fun y=>h.size≤y) fun _ h=>.inr h).upd g fun _ h=>h.elim) (l:=0) (hi:=sw.len) (m:=sw.len) (c:=sw.len-0) (aS _) (by omega) (aj _)
   rw[List.drop_zero,bv (by omega)]at this;exact this
  have X:(⟨aV sw.a 0 ((sw.len:Int).toNat) 1,((sw.len:Int).toNat)-0,((sw.len:Int).toNat)-0⟩:SliceV).cap=(⟨aV sw.a 0 ((sw.len:Int).toNat) 1,((sw.len:Int).toNat)-0,((sw.len:Int).toNat)-0⟩:SliceV).len:=rfl;have f:H[h2.size]? =some (.cells #[sv ⟨aV sw.a 0 ((sw.len:Int).toNat) 1,((sw.len:Int).toNat)-0,((sw.len:Int).toNat)-0⟩] NR (0,0)):=b11;clear b11;generalize (⟨aV sw.a 0 ((sw.len:Int).toNat) 1,((sw.len:Int).toNat)-0,((sw.len:Int).toNat)-0⟩:SliceV)=s0 at E X f
  obtain⟨d',n',sp',sk',ow',hb',P,_⟩:=(nd.upd g fun _ h=>h.elim).ex
  have Z:=tb.upd g id;refine⟨_,Bb e2,Ii hb' (uG d' (aP fun h12 b12 k12=>?_))⟩
  have s12:=k12.size;have z12:=aN b12;refine GB (d:=d') P.d32 b12 (fun k Q=>Upd No H Q) No (fun k h1 hi=>Z.upd hi id) k12 (fun k ha hb hi hle T=>hi.trans T fun y q=>.inr (by omega)) (fun _ h=>h.elim) (fun k c ha KK hi hkc hc hdc _ hK=>?_) fun k ha hi _ hde=>?_
  ·
   have hdc':=hdc;rw[P.dp c hc]at hdc';obtain⟨p,hp1,hp2⟩:=O2 (M c hc) hdc';refine⟨_,Bb (hi.get0 e2),Eh (nd.upd (g.tr hi) fun _ h=>h.elim) hc fun hb kb=>?_⟩
   rw[hp2];have ib:=hi.tr kb;refine qT (p:=p) fun hc' bc kc=>?_
   have F:=ib.tr kc;have hon:∀i c',(way++ [c])[i]? =some c'→ck x i p.1=c':=by
    have:=U.part (c:=c);rw[hw,show 13-(m+1)=12-m by omega,hp1]at this
    exact this p (aq.2 rfl)
   refine Join.intro (fun t hd=>t=false∧Upd No hc' hd) (fun R hR=>?_) ?_
   ·refine⟨_,vc (F.get0 B) 0,_,vc (F.get0 B) 1,_,vc (F.get0 B) 2,_,vc bc 0,s0,Bb (F.get0 f),?_,?_⟩
    ·refine vj fun hd kd=>⟨Bb (kd.get0 (F.get0 f)),aP fun he be S=>⟨Bb (S.get0 (kd.get0 (F.get0 f))),_,kE be,?_⟩⟩
     refine Hp (((E.upd F fun _ h=>h.elim).upd kd fun _ h=>h.elim).upd S fun _ h=>h.elim) X (by omega) rfl fun s' hf hsf _ kf=>?_
     exact El hsf (by simp;omega) hon (hR _ _ ⟨rfl,(kd.tr S).tr kf⟩)
    ·refine aP fun hd bd kd=>⟨Bb (kd.get0 (F.get0 f)),vc (kd.get0 bc) 0,⟨vc (kd.get0 (F.get0 B)) 0,vc (kd.get0 (F.get0 B)) 1,vc (kd.get0 (F.get0 B)) 2⟩,?_⟩
     refine vj fun he S=>⟨Bb (S.get0 (kd.get0 (F.get0 f))),_,kE (S.get0 bd),?_⟩
     refine Hp (((E.upd F fun _ h=>h.elim).upd kd fun _ h=>h.elim).upd S fun _ h=>h.elim) X (by omega) rfl fun s' hf hsf _ kf=>?_
     exact El hsf (by simp;omega) hon (hR _ _ ⟨rfl,(kd.tr S).tr kf⟩)
   ·rintro t hd ⟨rfl,kd⟩
    exact al.2 (hK hd (F.tr kd) ((kb.tr kc).tr kd))
  ·
   obtain⟨d'',n'',sp'',sk'',ow'',hb'',s,_⟩:=(nd.upd (g.tr hi) fun _ h=>h.elim).ex
   refine⟨_,Bb (hi.get0 e2),zX hb'' (uG n'' (aP fun h13 b13 k13=>?_))⟩
   have i13:=hi.tr k13;have s13:=k13.size;have z13:=aN b13;have sa:=hi.size;have zde:=aN hde;have hl8':s8.len=(fQ x (12-m) l).length:=hl8;have hall:=O0 x (12-m) l;have hfl:∀k,(fm (fun c=>eL (part x (12-m) c l)) k).flatten.length≤60000∨32<k:=fun k=>by
    rcases bG 32 k with h|h
    ·exact .inr h
    ·refine .inl ?_
     have:((fm (fun c=>eL (part x (12-m) c l)) k).flatten).length≤(iA x (12-m) l).flatten.length:=by
      unfold iA;have hj:∀j,∃r,fm (fun c=>eL (part x (12-m) c l)) (k+j)=fm (fun c=>eL (part x (12-m) c l)) k++r:=fun j=>by
       induction j with
       |zero=>exact⟨[],by simp⟩
       |succ j ihj=>obtain⟨r,hr⟩:=ihj;exact⟨r++(eL (part x (12-m) (k+j) l)).toList,by rw[←Nat.add_assoc,gj,hr,au]⟩
      have this:=hj (32-k);rw[show k+(32-k)=32 by omega]at this
      obtain⟨r,hr⟩:=this;rw[hr,d8,ad];omega
     omega
   refine GB (d:=n'') s.n32 b13 (fun k Q=>k≤32∧Upd (· =D.size) ha Q∧Q[D.size]? =some (.cells #[.int .i64 (((fQ x (12-m) l).length+(fm (fun c=>eL (part x (12-m) c l)) k).flatten.length:Nat):Int)] vK (0,0))) (· =D.size)
    (fun k hx q=>(Z.upd hi id).upd q.2.1 fun e=>by have e:0=D.size:=e;omega) ⟨aS _,k13.wide,?_⟩ (fun k hx q hz hle T=>⟨hz.1,hz.2.1.trans T fun y q=>.inr (by omega),T.get hz.2.2 (by omega)⟩) (fun y q=>⟨by have q:y=D.size:=q;omega,by have q:y=D.size:=q;omega⟩) (fun k c hx KK q hkc hc hnc hno hK=>?_) fun k hx q hno hdx=>?_
   ·have:=i13.get0 e9
    rw[show((fQ x (12-m) l).length+(fm (fun c=>eL (part x (12-m) c l)) 0).flatten.length:Nat)=s8.len by rw[hl8'];simp[fm]]
    exact this
   ·obtain⟨Y,v,O⟩:=q
    have hnc':=hnc;rw[s.nk c hc]at hnc';obtain⟨h2l,kb,hkb,tk⟩:=O3 (M c hc) hnc';have C:∀{y:Nat} {o:Obj},H[y]? =some o→y≠D.size→hx[y]? =some o:=fun q hne=>v.get (hi.get0 q) hne
    have uW:Upd No h hx:=(g.tr hi).trans v fun y q=>.inr (by have q:y=D.size:=q;omega)
    refine⟨_,Bb (C e2 (by omega)),H1 (nd.upd uW fun _ h=>h.elim) hc ?_⟩
    rw[hkb];have hmc:eL (part x (12-m) c l)=some (part x (12-m) c l):=by unfold eL;rw[if_pos h2l]
    have hskip:fm (fun c=>eL (part x (12-m) c l)) c=fm (fun c=>eL (part x (12-m) c l)) k:=Ia hkc fun j h1 h2=>by
     have:=hno j h1 h2;rw[s.nk j (by omega),(DS (M j (by omega))).2]at this;simpa using this
    have hnext:(fm (fun c=>eL (part x (12-m) c l)) (c+1)).flatten.length=(fm (fun c=>eL (part x (12-m) c l)) k).flatten.length+(part x (12-m) c l).length:=by
     rw[gj,hskip,hmc];simp
    have hpl:(part x (12-m) c l).length≤l.length:=jX;refine Join.intro (fun t hd=>t=(((part x (12-m) c l).length:Int),true)∧Upd No hx hd) (fun R hR=>?_) ?_
    ·refine⟨_,vc (C B (by omega)) 0,_,vc (C B (by omega)) 1,_,vc (C B (by omega)) 2,s0,Bb (C f (by omega)),aP fun hd bd kd=>?_⟩
     refine⟨Bb (kd.get0 (C f (by omega))),⟨vc (kd.get0 (C B (by omega))) 0,vc (kd.get0 (C B (by omega))) 1,vc (kd.get0 (C B (by omega))) 2⟩,_,kE bd,?_⟩;have hsx:Sl Ul 1 (fun y=>h.size≤y) hd s0 way:=((E.upd hi fun _ h=>h.elim).upd v fun y q=>.inl (by have q:y=D.size:=q;omega)).upd kd fun _ h=>h.elim
     refine Hp hsx X (by omega) rfl fun s' he hse hce S=>?_
     have gE:=kd.tr S;refine⟨⟨vc (gE.get0 (C B (by omega))) 0,vc (gE.get0 (C B (by omega))) 1,vc (gE.get0 (C B (by omega))) 2⟩,?_⟩;refine ih (by omega) (TrieAt.upd0 (uW.tr gE) tk) (tb.upd (uW.tr gE) id) hse hce (by simp;omega) ?_ (rE hr) (by omega) fun hf kf=>hR _ _ ⟨rfl,gE.tr kf⟩
     have:=U.part (c:=c);rw[hw,show 13-(m+1)=12-m by omega]at this
     exact this
    ·rintro t hd ⟨rfl,kd⟩
     refine Join.plain (al.2 ?_);rw[decide_eq_false (by simp only;omega)];refine al.2 ⟨_,Bb (kd.get0 O),?_⟩;have hf1:=(hfl k).resolve_right (by omega);have hS:(fQ x (12-m) l).length≤60000:=by omega
     refine DD (c':= #[.int .i64 (((fQ x (12-m) l).length+(fm (fun c=>eL (part x (12-m) c l)) (c+1)).flatten.length:Nat):Int)]) (kd.get0 O) (by simp) ?_ fun hf bf uf=>?_
     ·rw[hnext]
      have:IntKind.wrap .i64 ((((fQ x (12-m) l).length+(fm (fun c=>eL (part x (12-m) c l)) k).flatten.length:Nat):Int)+((part x (12-m) c l).length:Int))=(((fQ x (12-m) l).length+((fm (fun c=>eL (part x (12-m) c l)) k).flatten.length+(part x (12-m) c l).length):Nat):Int):=by rw[ji (by omega)];omega
      simp only[this];rfl
     ·exact hK hf ⟨hc,(v.tr kd.wide).tr uf,bf⟩ (kd.wide.tr uf)
   ·obtain⟨Y,v,O⟩:=q
    have C:∀{y:Nat} {o:Obj},H[y]? =some o→y≠D.size→hx[y]? =some o:=fun q hne=>v.get (hi.get0 q) hne
    have hkm:fm (fun c=>eL (part x (12-m) c l)) 32=fm (fun c=>eL (part x (12-m) c l)) k:=Ia Y fun j h1 h2=>by
     have:=hno j h1 h2;rw[s.nk j (by omega),(DS (M j (by omega))).2]at this;simpa using this
    have ev:((fQ x (12-m) l).length+(fm (fun c=>eL (part x (12-m) c l)) k).flatten.length:Nat)=l.length:=by rw[←hkm];exact hall
    rw[ev]at O;have sx:=v.size;refine⟨_,Bb O,DD (C e4 (by omega)) (by simp) rfl fun hf bf uf=>DD (uf.oth (C e5 (by omega)) (by omega)) (by simp) rfl fun hg bg ug=>?_⟩
    have sf:=uf.size;have sg:=ug.size;have g2:=ug.oth (uf.oth hdx (by omega)) (by omega);have kh:Upd (· =h13.size) hg (hg.setIfInBounds h13.size (.deferred none)):=Upd.set _ _ rfl
    refine⟨g2,bU ?_⟩;generalize hg.setIfInBounds h13.size (.deferred none)=hh at kh;have g3:=kh.oth (ug.oth (uf.oth (v.get hde (by omega)) (by omega)) (by omega)) (by omega);have kj:Upd (· =h12.size) hh (hh.setIfInBounds h12.size (.deferred none)):=Upd.set _ _ rfl
    refine⟨g3,bU ?_⟩;generalize hh.setIfInBounds h12.size (.deferred none)=hj at kj;refine⟨_,Bb (kj.oth (kh.oth (ug.oth bf (by omega)) (by omega)) (by omega)),_,Bb (kj.oth (kh.oth bg (by omega)) (by omega)),?_⟩;refine hk hj ?_;refine(((((g.tr hi).trans v fun y q=>.inr ?_).own uf (by omega)).own ug (by omega)).own kh (by omega)).own kj (by omega)
    have q:y=D.size:=q;omega
end Go.Proofs
namespace Go.Proofs
open Go Go.Lift
theorem DZ{W:Nat→Prop}{h:ae}{b:Nat}{sl val:ByteArray}{has:Bool}{s:SliceV}{ow:Option Addr}{ks:List (Option Addr)}{F:Fo}(M:h[b]? =some (.cells (xf sl has val s ow) bC (0,0))) (J:Sl lY 1 W h s ks) (v:RxL W h ks F.toL) (hc:fG F) {K:Bool→ae→Prop} (hk:K true h):HC PG kH [.pointer (some ⟨b,0,none⟩)] [.c .bool] K h:=by
 refine ze (some ⟨b,0,none⟩) ?_;unfold rY bR cQ aY bD;refine⟨_,rfl,s,dE (i:=3) M,?_⟩;have o:=J.len;rw[v.1]at o;have N:=jA hc;have j:=eN.1 hc;refine LoopP.ghost (fun(i:Nat) (t:Int) z=>t=(i:Int)∧i≤F.toL.length∧z=h) (fun i=>F.toL.length-i) 0 ⟨rfl,aS _,rfl⟩ ?_
 rintro I i t z ⟨rfl,hi,rfl⟩ T;refine aB (fun e=>?_) fun _=>hk
 have e:i<F.toL.length:=by omega
 obtain⟨kb,g,G,m,kv,L,U,kk,k,_⟩:=v.at e;obtain⟨a,Y,_,hv⟩:=J.at0 G;have n:g.data.toList≠[]:=by rw[m];exact(j.2 _ (aU e)).1
 have V:(g.toList==(⟨#[]⟩:ByteArray).toList)=false:=by
  rw[beq_eq_false_iff_ne,ByteArray.toList_eq,ByteArray.toList_eq];exact n
 obtain⟨c,w,y⟩:=Eu n;refine⟨⟨by omega,by omega⟩,a,Y,_,hv,Join.intro (fun t Q=>t=false∧Q=z) (fun R S=>?_) ?_⟩
 ·refine⟨_,rfl,g,dE (i:=0) k,?_⟩
  rw[V];refine al.2 (aB (fun x=>?_) fun _=>S _ _ ⟨rfl,rfl⟩)
  have O:0<i:=by have:(i:Int)>0:=x;omega
  have X:IntKind.wrap .i64 ((i:Int)-1)=((i-1:Nat):Int):=by rw[ji (by omega)];omega
  rw[X];have f:i-1<F.toL.length:=by omega
  obtain⟨jb,u,H,p,jv,P,Z,jk,E,_⟩:=v.at f;obtain⟨a',A,_,D⟩:=J.at0 H;have q:u.data.toList≠[]:=by rw[p];exact(j.2 _ (aU f)).1
  obtain⟨d,B,C⟩:=Eu q;refine⟨_,rfl,s,dE (i:=3) M,⟨by omega,by omega⟩,a',A,_,D,_,rfl,u,dE (i:=0) E,d,by decide,B,_,rfl,g,dE (i:=0) k,c,by decide,w,S _ _ ⟨?_,rfl⟩⟩
  have:=cB.1 j.1 (i-1) i f e (by omega);rw[m]at y;rw[p]at C;exact decide_eq_false (by omega)
 ·rintro t Q ⟨rfl,rfl⟩
  refine al.2 ?_;rw[cz e (by omega)];exact T (i+1) _ _ ⟨rfl,e,rfl⟩ (by omega)
theorem Hc{W:Nat→Prop}{h:ae}{s:SliceV}{ks:List (Option Addr)}{L:List Bn}{f:FuncId}(k:Sl lY 1 W h s ks)(g:RxL W h ks L)(w:L.length≤256)(u:∀i (hi:i<L.length) {b:Nat} {sl:ByteArray},RxN W h b sl L[i].2.1 L[i].2.2→∀{K:Bool→ae→Prop},K false h→HC PG f [.pointer (some ⟨b,0,none⟩)] [.c .bool] K h){K:Bool→ae→Prop}(v:K false h):
  HC PG cI [.slice s.a s.len s.cap,.func (.func f) #[] #[]] [.c .bool] K h:=by
 refine jh s _ ?_;unfold fB;refine jH s _ ?_;unfold fU bR cQ;have d:=k.len;rw[g.1]at d;refine LoopP.ghost (fun(i:Nat) (t:Int) j=>t=(i:Int)∧i≤L.length∧j=h) (fun i=>L.length-i) 0 ⟨rfl,aS _,rfl⟩ ?_
 rintro I i t j ⟨rfl,hi,rfl⟩ n;refine aB (fun c=>?_) fun _=>v
 have c:i<L.length:=by omega
 obtain⟨x,o,e,m,q⟩:=g.at c;obtain⟨a,p,_,hv⟩:=k.at0 e;refine⟨⟨by omega,by omega⟩,a,p,_,hv,HV.mk' (u i c q (al.2 ?_))⟩
 rw[cz c (by omega)];exact n (i+1) _ _ ⟨rfl,c,rfl⟩ (by omega)
def Xf(n:Bn):Prop:=∀{W:Nat→Prop} {h:ae} {b:Nat} {sl:ByteArray},RxN W h b sl n.2.1 n.2.2→∀{K:Bool→ae→Prop},K true h→HC PG jR [.pointer (some ⟨b,0,none⟩)] [.c .bool] K h
theorem Vw{lab:List UInt8}{w:Option ByteArray}{F:Fo}(hc:fG F)(a:w.isSome∨2≤F.toL.length)(q:∀n∈F.toL,Xf n):Xf (lab,w,F):=by
 intro W h b sl r K u;simp only at r;obtain⟨val,s,ow,ks,d,hv,g,p,m⟩:=r;have f:=rc.1 m;have c:=g.len;rw[f.1]at c;refine xK (some ⟨b,0,none⟩) ?_;unfold qZ bD f9;refine Join.intro (fun t k=>t=false∧k=h) (fun R j=>?_) ?_
 ·refine DZ d g f hc (al.2 ⟨_,rfl,w.isSome,dE (i:=1) d,?_⟩)
  cases hwS:w.isSome with
  |true=>exact al.2 (j _ _ ⟨rfl,rfl⟩)
  |false=>
   refine ax.2 ⟨_,rfl,s,dE (i:=3) d,j _ _ ⟨decide_eq_false ?_,rfl⟩⟩;rw[hwS]at a;rcases a with a|a
   ·cases a
   ·omega
 ·rintro t k ⟨rfl,rfl⟩
  refine al.2 ⟨_,rfl,s,dE (i:=3) d,Hc g f (jA hc) (fun i hi b sl o v e=>?_) u⟩
  refine wg _ ?_;unfold px;exact q _ (aU hi) o e
theorem Is:∀{F:Fo},fG F→∀n∈F.toL,Xf n
 | .nil,_,n,a=>by simp[Fo.toL]at a
 | .cons lab w kids rest,h,n,a=>by
  rcases aw.1 a with rfl|a
  ·exact Vw h.2.2.1 h.2.1 (Is h.2.2.1)
  ·exact Is h.2.2.2.2 n a
theorem LQ{W:Nat→Prop}{h:ae}{b:Nat}{l:List Pr}(t:RadAt W h b l){K:Bool→ae→Prop}(k:K true h):HC PG ua [.pointer (some ⟨b,0,none⟩)] [.c .bool] K h:=by
 obtain⟨w,F,r,hc,_⟩:=t.ex;obtain⟨val,s,ow,ks,a,hv,e,j,f⟩:=r;have d:=rc.1 f;refine F4 (some ⟨b,0,none⟩) ?_;unfold yk aY bD;refine ax.2 ⟨_,rfl,_,dE (i:=0) a,?_⟩;rw[beq_self_eq_true];refine ax.2 (DZ a e d hc (ax.2 ⟨_,rfl,s,dE (i:=3) a,Hc e d (jA hc) (fun i hi b sl g m c=>?_) k⟩))
 refine C2 _ ?_;unfold vX;exact Is hc _ (aU hi) g c
theorem OX{W:Nat→Prop}{x:Hs}{h:ae}{d:Int}{t:Tr}{l:List Pr}(i:TreeIs W h d x t l)(tb:Tab h)(o:cx l)(k:l.length≤60000){K:Bool→ae→Prop}(f:∀h',Upd No h h'→K true h'):HC PG lF [DG t] [.c .bool] K h:=by
 refine AB t ?_;unfold tg bj ag aH xb uU zD dQ;refine aP fun j b1 k1=>⟨_,vc b1 0,?_⟩
 rcases i with⟨_,b,rfl,t⟩|⟨_,b,rfl,t⟩
 ·refine al.2 ⟨_,oz b1 1 0,_,oz b1 1 1,_,oz b1 1 2,_,vc b1 0,_,vc b1 1,_,vc b1 2,_,vc b1 3,_,vc b1 4,_,vc b1 5,?_⟩
  refine Bl (TrieAt.upd0 k1 t) fun q e=>⟨⟨oz (e.get0 b1) 1 0,oz (e.get0 b1) 1 1,oz (e.get0 b1) 1 2⟩,?_⟩
  refine FZ (x.k0,x.k1,x.mask) _ ?_;unfold yg ag Bx xb;refine aP fun s b3 g=>al.2 ⟨_,vc b3 0,_,vc b3 1,_,vc b3 2,?_⟩
  have a:=(k1.tr e).tr g;refine R9 13 (aj _) (sw:=⟨none,0,0⟩) (way:= []) (TrieAt.upd0 a t) (tb.upd a id) (Sl.nil UZ) (aj _) rfl (fun p _ i c hc=>by simp at hc) o k fun m n=>?_
  exact f m (a.tr n)
 ·refine ax.2 ⟨_,vc b1 5,LQ (t.upd0 k1) (f j k1)⟩
end Go.Proofs
namespace Go.Proofs
open Go Go.Lift
end Go.Proofs
namespace Go.Proofs
open Go Go.Lift
theorem JQ:∀F:Fo,(xF F).length=(F.toL.map fun n=>(l6 n.2.1 n.2.2).length).sum
 | .nil=>rfl
 | .cons lab w kids rest=>by
  rw[GD,Fo.toL_cons,cn,jK,←JQ rest,ad,bH];rfl
def VE(n:Bn):Prop:=∀{W:Nat→Prop} {h:ae} {b:Nat} {sl:ByteArray},RxN W h b sl n.2.1 n.2.2→(l6 n.2.1 n.2.2).length≤1000000000→∀{K:Int→ae→Prop},(∀h',Upd No h h'→K (((l6 n.2.1 n.2.2).length:Nat):Int) h')→HC PG sJ [.pointer (some ⟨b,0,none⟩)] [.c (.int .i64)] K h
theorem N9{lab:List UInt8}{w:Option ByteArray}{F:Fo}(N:F.toL.length≤256)(M:∀n∈F.toL,VE n):VE (lab,w,F):=by
 intro W h b sl r O K H;simp only at r O H;refine KZ (some ⟨b,0,none⟩) ?_;unfold CI bR cQ;have f:(l6 w F).length=(w.map fun v=>(([]:List UInt8),v)).toList.length+(F.toL.map fun n=>(l6 n.2.1 n.2.2).length).sum:=by
  rw[←JQ,←ad];rfl
 refine Join.intro (fun t C=>t=(((w.map fun v=>(([]:List UInt8),v)).toList.length:Nat):Int)∧C=h) (fun R G=>?_) ?_
 ·refine DY r fun v _=>?_
  cases w with
  |none=>exact al.2 (G _ _ ⟨rfl,rfl⟩)
  |some u=>exact ax.2 (G _ _ ⟨rfl,rfl⟩)
 ·rintro t C ⟨rfl,rfl⟩
  generalize (w.map fun v=>(([]:List UInt8),v)).toList.length=c0 at f
  refine Gt r N fun o m ks s g k1=>?_
  have j:Sl lY 1 No m o ks:=s.sl fun _ _ _ h=>h
  have d:=j.len;rw[g.1]at d;refine LoopP.ghost (fun(i:Nat) (t:Int×Int) z=>t.1=((c0+((F.toL.take i).map fun n=>(l6 n.2.1 n.2.2).length).sum:Nat):Int)∧t.2=(i:Int)∧i≤F.toL.length∧Upd No m z) (fun i=>F.toL.length-i) 0 ⟨by simp,rfl,aS _,Upd.refl _ _⟩ ?_
  rintro I i ⟨U,V⟩ z ⟨E,D,hi,k⟩ J;simp only at E D;subst E D;have B:∀i,((F.toL.take i).map fun n=>(l6 n.2.1 n.2.2).length).sum≤(F.toL.map fun n=>(l6 n.2.1 n.2.2).length).sum:=fun i=>by
   conv=>rhs;rw[←List.take_append_drop i F.toL,bZ,gG]
   omega
  refine aB (fun c=>?_) fun x=>?_
  ·have c:i<F.toL.length:=by have:(i:Int)<(o.len:Int):=c;omega
   obtain⟨P,Q,q,_,A⟩:=(g.upd0 k).at c;obtain⟨a,S,_,hv⟩:=(j.upd k fun _ h=>h.elim).at0 q
   refine⟨⟨by simp only;omega,by simp only;omega⟩,a,S,some ⟨P,0,none⟩,hv,?_⟩
   have L:((F.toL.take (i+1)).map fun n=>(l6 n.2.1 n.2.2).length).sum=((F.toL.take i).map fun n=>(l6 n.2.1 n.2.2).length).sum+(l6 F.toL[i].2.1 F.toL[i].2.2).length:=by
    rw[List.take_succ_eq_append_getElem c,bZ,gG];simp
   have m:=B (i+1);refine M _ (aU c) A (by omega) fun T y=>?_
   rw[cz c (by omega)];have e:IntKind.wrap .i64 (((c0+((F.toL.take i).map fun n=>(l6 n.2.1 n.2.2).length).sum:Nat):Int)+((l6 F.toL[i].2.1 F.toL[i].2.2).length:Int))=((c0+((F.toL.take (i+1)).map fun n=>(l6 n.2.1 n.2.2).length).sum:Nat):Int):=by
    rw[ji (by omega)];omega
   rw[e];exact J (i+1) _ _ ⟨rfl,rfl,c,k.tr y⟩ (by omega)
  ·have p:i=F.toL.length:=by have:¬(i:Int)<(o.len:Int):=x;omega
   subst p;rw[List.take_length,←f];exact H z (k1.tr k)
theorem Ek:∀{F:Fo},fG F→∀n∈F.toL,VE n
 | .nil,_,n,a=>by simp[Fo.toL]at a
 | .cons lab w kids rest,h,n,a=>by
  rcases aw.1 a with rfl|a
  ·exact N9 (jA h.2.2.1) (Ek h.2.2.1)
  ·exact Ek h.2.2.2.2 n a
theorem Jq{W:Nat→Prop}{x:Hs}{h:ae}{t:Tr}{l:List Pr}(i:TreeIs W h 1 x t l)(j:cx l)(p:l.length≤60000){K:Int→ae→Prop}(m:∀h',Upd No h h'→K (l.length:Int) h'):HC PG jn [DG t] [.c (.int .i64)] K h:=by
 refine vT t ?_;unfold qL bj aH uU;rcases i with⟨e,_⟩|⟨_,b,rfl,t⟩
 ·cases e
 refine aP fun o b1 k1=>⟨_,vc b1 0,ax.2 ⟨_,vc b1 5,?_⟩⟩
 obtain⟨w,F,n,c,d⟩:=(t.upd0 k1).ex;have g:=Db c j d;have a:=congrArg eE g;unfold DI at a;rw[bH]at a;refine N9 (lab:= []) (jA c) (Ek c) n (by simp only;omega) fun f k=>?_
 simp only;rw[a];exact m f (k1.tr k)
theorem Jr{t:Tr}{h:ae}{K:Int→ae→Prop}(a:∀h',Upd No h h'→K t.1 h'):HC PG mF [DG t] [.c (.int .i64)] K h:=by
 refine BU t ?_;unfold uJ bj uU;exact aP fun b b1 k1=>⟨_,vc b1 0,a b k1⟩
theorem MZ{h:ae}{K:Bool→ae→Prop}(hk:∀h',Upd No h h'→K true h'):HC PG wN [] [.c .bool] K h:=by
 refine La ?_;unfold CQ cQ bj ag aH aY nv Dt uU zD pt zg0;have Y:Hs:=⟨0,0,0⟩;refine NS (W:=fun y=>y<h.size) (x:=⟨0,0,0⟩) (fun _ h=>h) (.inr rfl) fun X t O N=>?_
 refine aP fun h3 b3 U=>?_
 refine cC (c:=lP DH) (vs:=lP t) b3 rfl fun S o F=>?_
 have k:Upd No X S:=U.own F (aj _);have M:=N.tr k;have s2:=N.size;have s4:=k.size;have z4:=aN o;refine⟨_,vc o 0,_,vc o 1,_,vc o 2,_,vc o 3,_,vc o 4,_,vc o 5,?_⟩;refine Jn (W:=fun y=>y<h.size) (O.upd0 k) (fun y hy=>by omega) ey (aS _) (⟨#[97]⟩,⟨#[49]⟩) (by decide) (by decide) fun L u w _ v=>?_
 refine aP fun P C E=>?_
 refine cC (c:=lP DH) (vs:=lP u) C rfl fun H d B=>?_
 have f:Upd No L H:=E.own B (aj _);have Q:=aN d;refine⟨_,vc d 0,_,vc d 1,_,vc d 2,_,vc d 3,_,vc d 4,_,vc d 5,?_⟩;have I:cx (gA ((⟨#[97]⟩:ByteArray),(⟨#[49]⟩:ByteArray)) []):=cL ..;refine DP (w.upd0 f) I (fun p R=>by have:=aq.1 R;subst this;exact⟨by decide,by decide⟩) (by decide) fun D h22 q s=>?_
 have m:=q.len;have A:=q.sl (W:=No) fun _ _ _ h=>h
 obtain⟨a,Z,_,hv⟩:=A.at (i:=0) (x:=((⟨#[97]⟩:ByteArray),(⟨#[49]⟩:ByteArray))) rfl;have V:((D.len:Int)==(1:Int))=true:=by rw[m];rfl
 refine ax.2 (ax.2 ?_);rw[V];refine ax.2 ⟨⟨by omega,by rw[m];decide⟩,a,Z,⟨#[97]⟩,hv 0 _ rfl,?_⟩
 rw[beq_self_eq_true];have j:=s.get0 (f.get0 (v.get0 o));refine ax.2 ⟨_,vc j 0,_,vc j 1,_,vc j 2,_,vc j 3,_,vc j 4,_,vc j 5,?_⟩;have n:=(v.tr f).tr s;refine Jq ((O.upd0 k).upd0 n) ey (by decide) fun T z=>ax.2 ?_
 have g:=z.get0 (s.get0 d);refine⟨_,vc g 0,_,vc g 1,_,vc g 2,_,vc g 3,_,vc g 4,_,vc g 5,Jr fun J G=>?_⟩
 have eu:u.1=1:=by
  rcases w with⟨e,_⟩|⟨_,b,rfl,_⟩
  ·cases e
  ·rfl
 rw[eu];exact hk J (((M.tr n).tr z).tr G)
end Go.Proofs
