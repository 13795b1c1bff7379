/- A part of the proof that the named laws of this program answer true, whatever the input. -/
import Derived.Test.YtajpljopgikpgaaGreatDoorPart8
import Derived.Test.YtajpljopgikpgaaGreatDoorPart7
import Derived.Test.YtajpljopgikpgaaGreatDoorPart6
open Array renaming size→co
open BitVec renaming ofInt→aw,ofInt_natCast→fQ,toNat_ofNat→pO
open Int renaming toNat_natCast→aX
open List renaming length_singleton→aF,length_map→bF,length_nil→bL,map_append→bU,map_cons→cG,map_nil→iM,length_append→ad,mem_append_right→fy,mem_singleton→au,pairwise_append→cE,length_cons→aH,drop_one→wA,tail_cons→uL,take_of_length_le→bJ,pairwise_singleton→db,mem_append→bM,mem_append_left→dQ,length_eq_zero_iff→aO,sum_cons→kS,append_nil→bB,length→eL,append_assoc→az,getElem?_eq_getElem→ag,pairwise_iff_getElem→cJ,sum_append→ia,flatten_append→eO,getElem?_cons_zero→cB,getElem_mem→aY,mem_cons→aB,take_succ_eq_append_getElem→bW,take_length→cp,length_filter_le→gh,length_take→aP
open Nat renaming le_refl→ao,lt_of_lt_of_le→bG,zero_le→bj,lt_or_ge→bO,le_trans→bv,mod_eq_of_lt→dS,zero_testBit→gG,zero_add→aU,eq_of_testBit_eq→iR
open Option renaming some→bQ
namespace Go.Proofs
open Go Go.Lift
theorem WY{M:Nat→Prop}{h:af}{c:SliceV}{out:List (SliceV×SliceV)}{p:SliceV×SliceV}{K:SliceV→af→Prop}(j:OwnS UM 2 eM M h c out)(hM:∀b,h.size≤b→M b)(m:out.length+1≤1000000000)
  (g:∀s' a,OwnS UM 2 eM M a s' (out++ [p])→Upd M h a→K s' a):
  ∃xs,SRow (hnew h (UM p) eM) (some (aI h)) (1*2) xs∧AppP (some [.slice none 0 0,.slice none 0 0]) 2 48 eM c.a c.len c.cap 1 xs (hnew h (UM p) eM) K:=by
 have k:=Upd.hnew No h (UM p) eM;have i:OwnS UM 2 eM (fun _=>True) (hnew h (UM p) eM) ⟨some (aI h),1,1⟩ [p]:=⟨rfl,V0,ao _,.inr ⟨h.size,[],rfl,trivial,dq ..,rfl⟩⟩
 refine⟨_,(i.sl (W:=No) fun _ _ _ h=>h).srow,?_⟩
 refine AppP.own (ys:= [p]) (j.upd k fun _ _ h=>h) rfl rfl rfl rfl (by omega) (by simp only[aF];omega) (hM _ (by rw[ki];omega)) fun s' a d f=>?_
 exact g s' a d ((Upd.hnew M h _ _).tr f)
set_option maxHeartbeats 2000000 in
theorem M9{W G0 C0:Nat→Prop}{x:Hs}{h:af}{cb:Nat}{fs0:List Fr}(cur:CurW W G0 C0 x h cb fs0)(hW0:∀b,h.size≤b→W b){K:(ByteArray×ByteArray)×Bool→af→Prop}
  (hn:∀D,D8 x fs0= []→Upd (fun b=>C0 b∨b=cb) h D→K (((⟨#[]⟩:ByteArray),(⟨#[]⟩:ByteArray)),false) D)
  (hs:∀D v p R G' C',D8 x fs0=p::R→D8 x v=R→CurW W G' C' x D cb v→(∀b,C' b→C0 b∨h.size≤b)→(∀b,G' b→G0 b∨h.size≤b)→Upd (fun b=>C0 b∨b=cb) h D→K (p,true) D):
  HC PG pr [.pointer (some ⟨cb,0,none⟩)] [.agg [.str,.str],.c .bool] K h:=by
 refine BM (some ⟨cb,0,none⟩) ?_;unfold ur bH cS bo aD eX nv cz jm aK lf X7 UO;refine aN fun h1 b1 k1=>aj.2 ?_
 have z1:=aL b1;obtain⟨s00,d00,hc0,_⟩:=cur.ex;have zc:=aL hc0;have s1:=k1.size;have cur1:=cur.upd k1 (fun _ h=>h.elim) (fun _ _ h=>h) (fun _ _ h=>h) fun h=>h
 refine LoopP.ghost (fun(g:List Fr×(Nat→Prop)×(Nat→Prop)) (_:Unit) D=>CurW W g.2.1 g.2.2 x D cb g.1∧D8 x g.1=D8 x fs0∧(∀b,g.2.2 b→(C0 b∨h.size≤b)∧b≠h.size)∧(∀b,g.2.1 b→(G0 b∨h.size≤b)∧b≠h.size)∧D[h.size]? =some (.cells zPrL.toArray ay (0,0))∧Upd (fun b=>C0 b∨b=cb) h D) (fun g=>Fv x g.1) (fs0,G0,C0)
  ⟨cur1,rfl,fun b u=>⟨.inl u,by have:=cur.lt b (.inl u);omega⟩,fun b u=>⟨.inl u,by have:=cur.lt b (.inr u);omega⟩,b1,k1.wide⟩ ?_
 rintro I ⟨fs,G,C⟩ ⟨⟩ D ⟨w,N,H,S,bz,hu⟩ hI;simp only at w N H S;obtain⟨s,d,aR,Q⟩:=w.ex;have Y:=Q.len;rw[bF]at Y;have hzs:h.size<D.size:=aL bz;have zcb:=aL aR;refine⟨_,rfl,s,vc aR 0,?_⟩;refine aM (fun hpos=>?_) fun hnp=>?_
 ·obtain⟨v,f,rfl⟩:∃v f,fs=v++ [f]:=by
   rcases Mg fs with rfl|⟨l',y,e⟩
   ·simp only[bL]at Y;omega
   ·exact⟨l',y,e⟩
  rw[bU,cG,iM]at Q;rw[ad,aF]at Y;have h14:=VQ (n:=13) w.lv fun f hf=>(w.ok f hf).n13
  rw[ad,aF]at h14;have eidx:IntKind.wrap .i64 ((s.len:Int)-1)=((v.length:Nat):Int):=by rw[jj (by omega)];omega
  obtain⟨a,ha,hv⟩:=mJ Q (i:=v.length) (by rw[bF]);have fo:=w.ok f (fy _ (au.2 rfl));have hpl:=fo.p.len;have Z:=fo.k.len;rw[bF]at Z;have hpc:=fo.pc;have hkc:=fo.kc;have hcap:=Q.cap;refine⟨_,rfl,s,vc aR 0,_,rfl,s,vc aR 0,?_⟩;rw[eidx];refine⟨⟨by omega,by omega⟩,a,ha,_,rfl,f.sp,hv 0 _ rfl,?_⟩
  have keep:∀{h2:af} {M:Nat→Prop},Upd M D h2→(∀b,M b→C b∨b=cb∨b=h.size∨D.size≤b)→∀{g:Fr},g.Ok W G x D→g.Ok W G x h2:=fun{h2 M} k hM {g} o=>o.upd k (fun b u=>by
   rcases hM b u with h|h|h|h
   ·exact .inl (w.cw.1 b h)
   ·exact .inl (by rw[h];exact w.cw.2)
   ·exact .inl (by rw[h];exact hW0 _ (ao _))
   ·exact .inr h) fun b u=>by
   rcases hM b u with h|h|h|h
   ·exact .inl fun O=>(w.dj b O).1 h
   ·exact .inl fun O=>(w.dj b O).2 h
   ·exact .inl fun O=>(S b O).2 h
   ·exact .inr h
  have V:=cE.1 w.lv;have hrs:=zT x v f;have hcs:=BI x v f;refine aM (fun hp=>?_) fun hp=>?_
  ·
   rcases P:f.ps with _|⟨p,ps⟩
   ·rw[P]at hpl;simp only[bL]at hpl;omega
   have fop:=fo.p;rw[P]at fop hpl;simp only[aH]at hpl;obtain⟨ap,hap,_,hvp⟩:=fop.at (i:=0) (x:=p) rfl;refine⟨_,rfl,f.sp,hv 0 _ rfl,⟨by omega,by omega⟩,ap,hap,p.1,hvp 0 _ rfl,p.2,hvp 1 _ rfl,?_⟩
   refine VM (p:=p) fun h8 b8 k8=>?_
   have z8:=aL b8;have hst8:=Q.upd k8 fun _ _ h=>h
   obtain⟨a',ha',hv8⟩:=mJ hst8 (i:=v.length) (by rw[bF]);rw[ha]at ha';cases ha';refine⟨_,rfl,f.sp,hv8 0 _ rfl,⟨by omega,by omega⟩,_,rfl,?_⟩
   let X:Fr:=⟨⟨bq f.sp.a 1 f.sp.cap 2,f.sp.len-1,f.sp.cap-1⟩,f.sk,f.n,ps,f.ks⟩
   refine setCell hst8 (y:=X.raw) (j:=0) (by omega) rfl ha (by simp) fun h9 ho9 T=>?_
   have c9:=T.get (k8.get0 aR) w.cc;refine⟨_,rfl,s,vc c9 0,_,rfl,?_⟩;refine kU (i:=1) (c':=aa8 s (s.len:Int)) c9 (show 1<2 by decide) rfl fun h10 c10 A=>?_
   have hCh:∀b,C b→b<D.size:=fun b u=>w.lt b (.inl u)
   have b9:=T.get b8 fun hx=>by have:=hCh _ hx;omega
   have b10:=A.oth b9 (by omega);refine⟨_,vc b10 0,_,vc b10 1,?_⟩;have bz10:=A.oth (T.get (k8.get0 bz) fun hx=>(H _ hx).2 rfl) (by omega)
   refine cW (c:=zPrL) (vs:= [.string p.1,.string p.2]) bz10 rfl fun L b11 B=>?_
   refine⟨_,vc b11 0,_,vc b11 1,?_⟩;have c11:=B.oth c10 (by omega);have z:Upd (fun b=>C b∨b=cb∨b=h.size∨D.size≤b) D L:=((k8.wide.trans T fun b u=>.inl (.inl u)).trans A fun b u=>.inl (.inr (.inl u))).trans B fun b u=>.inl (.inr (.inr (.inl u)))
   have ho11:OwnS UM 2 eM C L s ((v++ [X]).map Fr.raw):=by
    rw[bU,cG,iM];exact(ho9.upd A fun b u e=>by have e:b=cb:=e;rw[e]at u;exact w.cc u).upd B fun b u e=>(H b u).2 e
   have fo':X.Ok W G x L:=by
    have o:=keep z (fun b u=>u) fo
    refine⟨?_,o.k,by show f.sp.len-1≤f.sp.cap-1;omega,o.kc,o.t,o.n0,o.n13⟩
    have op:=o.p;rw[P]at op;have:=Sl.sub op (l:=1) (hi:=(p::ps).length) (m:=f.sp.cap) (c:=f.sp.cap-1) (by simp) (ao _) (by simp only[aH];omega);rw[wA,uL,bJ (by simp)]at this;have e:(p::ps).length-1=f.sp.len-1:=by simp only[aH];omega
    rw[e]at this;exact this
   refine hs L (v++ [X]) p (X.rem x++D8 x v) G C ?_ (zT x v X) ⟨⟨s,_,c11,ho11⟩,fun g O=>?_,fun b u=>bG (w.lt b u) z.size,w.dj,w.cc,w.cw,cE.2 ⟨V.1,db ..,fun g O g' F=>by rw[au.1 F];exact V.2.2 g O f (au.2 rfl)⟩⟩ (fun b u=>(H b u).1) (fun b u=>(S b u).1) ?_
   ·rw[←N,hrs]
    unfold Fr.rem;rw[P];rfl
   ·rcases bM.1 O with O|O
    ·exact keep z (fun b u=>u) (w.ok g (dQ _ O))
    ·rw[au.1 O];exact fo'
   ·refine hu.trans z fun b u=>?_
    rcases u with h|h|h|h
    ·exact(H b h).1.imp .inl id
    ·exact .inl (.inr h)
    ·exact .inr (by omega)
    ·exact .inr (by omega)
  ·have P:f.ps= []:=aO.1 (by omega)
   refine⟨_,rfl,f.sk,hv 1 _ rfl,?_⟩;refine aM (fun hk=>?_) fun hk=>?_
   ·
    rcases J:f.ks with _|⟨kd,ks⟩
    ·rw[J]at Z;simp only[bL]at Z;omega
    have fok:=fo.k;rw[J]at fok Z;simp only[aH]at Z;rw[cG]at fok;obtain⟨ap,hap,_,hvp⟩:=fok.at0 (i:=0) (x:=N4 kd) rfl;have hfn:0<f.n:=fo.n0 (by rw[J];simp);have hf13:=fo.n13;refine⟨_,rfl,f.sk,hv 1 _ rfl,⟨by omega,by omega⟩,ap,hap,_,hvp,_,rfl,f.sk,hv 1 _ rfl,⟨by omega,by omega⟩,_,rfl,?_⟩
    let X:Fr:=⟨f.sp,⟨bq f.sk.a 1 f.sk.cap 1,f.sk.len-1,f.sk.cap-1⟩,f.n,f.ps,ks⟩
    refine setCell Q (y:=X.raw) (j:=1) (by omega) rfl ha (by simp) fun h8 ho8 E=>?_
    have c8:=E.get aR w.cc;have hall8:Upd (fun b=>C b∨b=cb∨b=h.size∨D.size≤b) D h8:=E.mono fun b u=>.inl (.inl u)
    have s8:=E.size;refine⟨_,rfl,s,vc c8 0,?_⟩;have fo8:=keep hall8 (fun b u=>u) fo
    obtain⟨tk,hkn⟩:=fo8.t kd (by rw[J];exact List.mem_cons_self ..);refine JV tk (by omega) hkn fun h9 g hgn hgr hgc go k9=>?_
    have c9:=k9.get0 c8;have s9:=k9.size;refine⟨vc c9 0,ce ⟨vc ((Upd.hnew No h9 (UM g.raw) eM).get0 c9) 0,?_⟩⟩;have hC9:∀b,C b→b<h9.size:=fun b u=>by have:=w.lt b (.inl u);omega
    refine WY (M:=fun b=>C b∨h9.size≤b) (p:=g.raw) ((ho8.upd k9 fun _ _ h=>h).more fun b u=>.inl u) (fun b u=>.inr u) (by rw[ad,bF,aF];omega) fun s10 h10 ho10 A=>?_
    have s10':=A.size;have c10:=A.get c9 (by rintro(hx|hx);exact w.cc hx;omega)
    refine⟨_,rfl,?_⟩;refine kU (i:=0) (c':=aa8 s10 d) c10 (show 0<2 by decide) rfl fun L c11 B=>?_
    have s11:=B.size;have z:Upd (fun b=>C b∨b=cb∨b=h.size∨D.size≤b) D L:=((hall8.tr k9.wide).trans A fun b u=>u.elim (fun h=>.inl (.inl h)) fun h=>.inr (by omega)).trans B fun b u=>.inl (.inr (.inl u))
    have bz11:=B.oth (A.get (k9.get0 (E.get bz fun hx=>(H _ hx).2 rfl)) (by rintro(hx|hx);exact(H _ hx).2 rfl;omega)) (by omega)
    have hGl:∀b,G b→b<D.size:=fun b u=>w.lt b (.inr u)
    refine hI (v++ [X]++ [g],fun b=>G b∨(h8.size≤b∧b<h9.size),fun b=>(C b∨h9.size≤b)∧b<h10.size) () L ⟨⟨⟨s10,d,c11,?_⟩,fun g' F=>?_,fun b u=>?_,fun b u=>?_,fun u=>?_,⟨fun b u=>?_,w.cw.2⟩,?_⟩,?_,fun b u=>?_,fun b u=>?_,bz11,?_⟩ ?_
    ·rw[bU,bU,cG,iM,cG,iM]
     exact ho10.within.upd B fun b u e=>by
      have e:b=cb:=e;rw[e]at u;rcases u.1 with h|h
      ·exact w.cc h
      ·omega
    ·have hsubG:∀{q:Fr},q.Ok W G x L→q.Ok W (fun b=>G b∨(h8.size≤b∧b<h9.size)) x L:=fun o=>o.sub fun b u=>.inl u
     rcases bM.1 F with F|F
     ·rcases bM.1 F with F|F
      ·exact hsubG (keep z (fun b u=>u) (w.ok g' (dQ _ F)))
      ·rw[au.1 F]
       have o:=keep z (fun b u=>u) fo
       refine hsubG ⟨o.p,?_,o.pc,by show f.sk.len-1≤f.sk.cap-1;omega,fun q hq=>o.t q (by rw[J];exact List.mem_cons_of_mem _ hq),fun _=>hfn,hf13⟩
       have op:=o.k;rw[J,cG]at op;have:=Sl.sub op (l:=1) (hi:=(N4 kd::ks.map N4).length) (m:=f.sk.cap) (c:=f.sk.cap-1) (by simp) (ao _) (by simp only[aH,bF];omega);rw[wA,uL,bJ (by simp)]at this;have e:(N4 kd::ks.map N4).length-1=f.sk.len-1:=by simp only[aH,bF];omega
       rw[e]at this;exact this
     ·rw[au.1 F]
      have o1:=go.upd A (fun b u=>u.elim (fun h=>.inl (w.cw.1 b h)) .inr) fun b u=>u.elim (fun h=>.inl fun O=>by have:=w.lt b (.inl h);omega) .inr
      have o2:=o1.upd B (fun b u=>.inl (by have u:b=cb:=u;rw[u];exact w.cw.2)) fun b u=>.inl fun O=>by have u:b=cb:=u;omega
      exact o2.sub fun b u=>.inr u
    ·rcases u with u|u|u
     ·omega
     ·have:=hGl b u;omega
     ·omega
    ·refine⟨fun hc=>?_,fun e=>?_⟩
     ·rcases u with u|u
      ·rcases hc.1 with h|h
       ·exact(w.dj b u).1 h
       ·have:=hGl b u;omega
      ·rcases hc.1 with h|h
       ·have:=w.lt b (.inl h);omega
       ·omega
     ·subst e
      rcases u with u|u
      ·exact(w.dj _ u).2 rfl
      ·omega
    ·rcases u.1 with h|h
     ·exact w.cc h
     ·omega
    ·rcases u.1 with h|h
     ·exact w.cw.1 b h
     ·exact hW0 b (by omega)
    ·refine cE.2 ⟨cE.2 ⟨V.1,db ..,fun q hq q' hq'=>by rw[au.1 hq'];exact V.2.2 q hq f (au.2 rfl)⟩,db ..,fun q hq q' hq'=>?_⟩
     rw[au.1 hq',hgn];rcases bM.1 hq with hq|hq
     ·have:=V.2.2 q hq f (au.2 rfl);omega
     ·rw[au.1 hq];show f.n-1<f.n;omega
    ·rw[zT,zT,←N,hrs,hgr]
     unfold Fr.rem;rw[P,J,List.flatMap_cons];simp;rfl
    ·refine⟨?_,?_⟩
     ·rcases u.1 with h|h
      ·exact(H b h).1
      ·exact .inr (by omega)
     ·rcases u.1 with h|h
      ·exact(H b h).2
      ·omega
    ·refine⟨?_,?_⟩
     ·rcases u with h|h
      ·exact(S b h).1
      ·exact .inr (by omega)
     ·rcases u with h|h
      ·exact(S b h).2
      ·omega
    ·refine hu.trans z fun b u=>?_
     rcases u with h|h|h|h
     ·exact(H b h).1.imp .inl id
     ·exact .inl (.inr h)
     ·exact .inr (by omega)
     ·exact .inr (by omega)
    ·show Fv x (v++ [X]++ [g])<Fv x (v++ [f])
     rw[BI,BI,hcs];have e1:f.cost x=X.cost x+cw x (f.n-1) kd.2:=by
      unfold Fr.cost;rw[J,cG,kS];have e0:(X.ks.map fun k=>cw x (X.n-1) k.2).sum=(ks.map fun k=>cw x (f.n-1) k.2).sum:=rfl
      omega
     omega
   ·
    have J:f.ks= []:=aO.1 (by omega);refine⟨_,rfl,s,vc aR 0,_,rfl,s,vc aR 0,?_⟩;rw[eidx];refine⟨⟨by omega,by omega⟩,?_⟩
    simp only[Bd];refine⟨_,rfl,?_⟩;refine kU (i:=0) (c':=aa8 ⟨bq s.a 0 s.cap 2,v.length,s.cap⟩ d) aR (show 0<2 by decide) rfl fun h8 c8 E=>?_
    have hpop:=OwnS.pop Q;rw[bF]at hpop;have z:Upd (fun b=>C b∨b=cb∨b=h.size∨D.size≤b) D h8:=E.mono fun b u=>.inl (.inr (.inl u))
    refine hI (v,G,C) () h8 ⟨⟨⟨_,d,c8,hpop.upd E fun b u e=>by have e:b=cb:=e;rw[e]at u;exact w.cc u⟩,fun g O=>keep z (fun b u=>u) (w.ok g (dQ _ O)),fun b u=>bG (w.lt b u) z.size,w.dj,w.cc,w.cw,V.1⟩,?_,H,S,E.oth bz (by omega),hu.trans E fun b u=>.inl (.inr u)⟩ ?_
    ·rw[←N,hrs]
     unfold Fr.rem;rw[P,J];rfl
    ·show Fv x v<Fv x (v++ [f])
     rw[hcs];unfold Fr.cost;omega
 ·have h0:fs= []:=aO.1 (by omega)
  subst h0;refine⟨_,rfl,?_⟩;refine kU (i:=1) (c':=aa8 s 0) aR (show 1<2 by decide) rfl fun h8 c8 E=>?_
  refine cW (c:=zPrL) (vs:=zPrL) (E.oth bz (by omega)) rfl fun h9 b9 T=>?_
  refine⟨_,vc b9 0,_,vc b9 1,hn h9 N.symm ((hu.trans E fun b u=>.inl (.inr u)).trans T fun b u=>.inr (Nat.le_of_eq (Eq.symm u)))⟩
end Go.Proofs
namespace Go.Proofs
open Go Go.Lift
def Below(W:Nat→Prop)(x:Hs)(h:af)(m:Nat)(r:Option Addr)(l:List Pr):Prop:=(r=none∧l= [])∨∃b,r=some ⟨b,0,none⟩∧TrieAt W x h m b l
theorem Below.upd0{W:Nat→Prop}{x:Hs}{h a:af}{m:Nat}{r:Option Addr}{l:List Pr}(k:Upd No h a)(t:Below W x h m r l):Below W x a m r l:=t.imp id fun⟨b,e,t⟩=>⟨b,e,TrieAt.upd0 k t⟩
theorem Below.less{W W':Nat→Prop}{x:Hs}{h:af}{m:Nat}{r:Option Addr}{l:List Pr}(hm:∀b,W' b→W b∨h.size≤b)(t:Below W x h m r l):Below W' x h m r l:=t.imp id fun⟨b,e,t⟩=>⟨b,e,TrieAt.less hm t⟩
theorem Below.updM{W M:Nat→Prop}{x:Hs}{h a:af}{m:Nat}{r:Option Addr}{l:List Pr}(k:Upd M h a)(hm:∀b,M b→W b∨h.size≤b)(t:Below W x h m r l):Below W x a m r l:=t.imp id fun⟨b,e,t⟩=>⟨b,e,TrieAt.updM k hm t⟩
theorem Y8(x:Hs):∀m,wl x m []= []
 |0=>rfl
 |m+1=>aO.1 (Nat.le_zero.1 (Lp x (m+1) []))
theorem Ph{W:Nat→Prop}{x:Hs}{h:af}{m:Nat}{r:Option Addr}{l:List Pr}(t:Below W x h m r l)(hm:m≤13)(n:l.length≤100000){K:SliceV×SliceV→af→Prop}
  (d:∀a f,Fr.rem x f=wl x m l→f.Ok W (fun y=>h.size≤y∧y<a.size) x a→Upd No h a→K f.raw a):HC PG wK [.pointer r] [.agg [.slice,.slice]] K h:=by
 rcases t with⟨rfl,rfl⟩|⟨b,rfl,t⟩
 ·refine Lb none ?_
  unfold ET eX dR GN UO;refine aN fun q b1 k1=>?_
  refine vq none ?_;unfold qx aK;refine aA.2 (wS none ?_);unfold rk aK;refine aA.2 ?_;refine cW (c:= [.slice none 0 0,.slice none 0 0]) (vs:= [.slice none 0 0,.slice none 0 0]) b1 rfl fun i j g=>?_
  refine⟨⟨none,0,0⟩,vc j 0,⟨none,0,0⟩,vc j 1,?_⟩;refine d i ⟨⟨none,0,0⟩,⟨none,0,0⟩,0,[],[]⟩ ?_ ⟨Sl.nil jx,Sl.nil sG,ao _,ao _,fun k d=>(by cases d),fun h=>absurd rfl h,bj _⟩ (k1.own g (ao _))
  rw[Y8];rfl
 ·exact JV t hm n fun a f _ o _ i p=>d a f o i p
theorem Pi{W:Nat→Prop}{x:Hs}{h:af}{m:Nat}{r:Option Addr}{l:List Pr}(t:Below W x h m r l)(hm:m≤13)(q:l.length≤100000)(n:∀y,h.size≤y→W y){K:Option Addr→af→Prop}
  (u:∀h' cb f G C,h.size≤cb→(∀y,G y∨C y→h.size≤y)→CurW W G C x h' cb [f]→f.rem x=wl x m l→Upd No h h'→K (some ⟨cb,0,none⟩) h'):HC PG Bv [.pointer r] [.c .ptr] K h:=by
 refine QW r ?_;unfold Ir X7;refine Ph t hm q fun a f c s k=>?_
 refine aN fun o b3 d=>aN fun p j i=>?_
 have w:=aL b3;have z:=aL j;have s2:=k.size;have s3:=d.size;have o3:OwnS UM 2 eM (fun y=>y=a.size) o ⟨some (aI a),1,1⟩ [f.raw]:=⟨rfl,V0,ao _,.inr ⟨a.size,[],rfl,rfl,b3,rfl⟩⟩
 refine u p o.size f (fun y=>h.size≤y∧y<a.size) (fun y=>y=a.size) (by omega) (fun y b=>by rcases b with h|h<;>omega) ⟨⟨_,0,j,o3.upd i fun _ _ h=>h⟩,fun g v=>?_,fun y b=>by rcases b with h|h<;>omega,fun y b=>⟨by omega,by omega⟩,by omega,⟨fun y b=>n y (by omega),n _ (by omega)⟩,db ..⟩ c ((k.tr d).tr i)
 rw[au.1 v];exact s.upd (d.tr i) (fun _ h=>h.elim) fun _ h=>h.elim
theorem Pj{W:Nat→Prop}{x:Hs}{h:af}{m:Nat}{r:Option Addr}{l:List Pr}(t:Below W x h m r l)(hm:m≤13)(hn:l.length≤100000){K:Value→af→Prop}
  (hk:∀fv o,Gives PG fv Yw l.length (fun xs=>xs=wl x m l) (fun y=>y<o.size) o→Upd No h o→K fv o):HC PG Bw [.pointer r] [.c .raw] K h:=by
 refine QX r ?_;unfold Is;refine aN fun B b1 k1=>?_
 have z1:=aL b1;refine hk _ B ?_ k1;have t1:=Below.less (W':=fun y=>B.size≤y) (fun y a=>.inr a) (Below.upd0 k1 t)
 have hwl:=Lp x m l;refine⟨fun y a=>a,tG,#[],_,rfl,fun y J A M Z K' D hj hu hq ha hk'=>?_⟩
 refine JH y (aI h) ?_;unfold x8 aD nv oZ tc lf;have d1:=hu.get b1 (hq _ z1);have s4:=hu.size;have t4:Below (fun y=>B.size≤y) x Z m r l:=Below.updM hu (fun y a=>.inl (by
  rcases bO y B.size with N|N
  ·exact absurd a (hq y N)
  ·exact N)) t1
 refine⟨_,bI d1,?_⟩;refine Pi t4 hm hn (fun y a=>bv s4 a) fun h5 cb f G C hcb O cur hfr k5=>?_
 have n:=D.lt _ _ _ hj;have hA3:∀y,A y→B.size≤y:=fun y a=>by
  rcases bO y B.size with N|N
  ·exact absurd N (ha y a)
  ·exact N
 have s5:=k5.size;have L:D8 x [f]=wl x m l:=by rw[←hfr];simp[D8]
 refine LoopP.ghost (fun(g:List Pr×List Fr×(Nat→Prop)×(Nat→Prop)×(Nat→Prop)) (_:Unit) o=>CurW (fun y=>B.size≤y) g.2.2.2.1 g.2.2.2.2 x o cb g.2.1∧J g.1 g.2.2.1 o∧Upd A Z o∧(∀y,g.2.2.1 y→(A y∨Z.size≤y)∧¬g.2.2.2.1 y∧¬g.2.2.2.2 y∧y≠cb)∧(∀y,g.2.2.2.1 y∨g.2.2.2.2 y→Z.size≤y)∧g.1++D8 x g.2.1=wl x m l∧h5.size≤o.size) (fun g=>(D8 x g.2.1).length) ([],[f],A,G,C)
  ⟨cur,D.keep _ _ _ _ No hj k5 (fun _ _ h=>h),k5.wide,fun y a=>⟨.inl a,fun hx=>by have:=n y a;have:=O y (.inl hx);omega,fun hx=>by have:=n y a;have:=O y (.inr hx);omega,fun e=>by have:=n y a;omega⟩,O,by rw[L];rfl,ao _⟩ ?_
 rintro I ⟨u,fs,F,G1,C1⟩ ⟨⟩ o ⟨cu,v,hu',b,i,c,hsz⟩ hI;simp only at cu v b i c;have H:=D.lt _ _ _ v;have hA1W:∀y,F y→B.size≤y:=fun y a=>(b y a).1.elim (hA3 y) fun h=>by omega
 have hd:∀y,F y→¬(C1 y∨y=cb):=fun y a hx=>hx.elim (b y a).2.2.1 (b y a).2.2.2
 have hC4:∀y,C1 y∨y=cb→Z.size≤y:=fun y a=>a.elim (fun h=>i y (.inr h)) fun e=>by omega
 refine M9 cu (fun y a=>by omega) (fun h6 hr0 j=>?_) fun h6 fs' p R G' C' V hr2 w hC' hG' j=>?_
 ·have T:=D.keep _ _ _ _ _ v j hd
  refine tf fun X b7 S=>?_
  refine Join.intro (fun t q=>t=true∧q=X) (fun R hR=>aA.2 (hR _ _ ⟨rfl,rfl⟩)) ?_
  rintro t q ⟨rfl,rfl⟩;refine aA.2 (hk' u F q ?_ (D.keep _ _ _ _ No T S (fun _ _ h=>h)) ?_ fun y a=>(b y a).1)
  ·rw[hr0,bB]at c
   exact c
  ·exact(hu'.trans j fun y a=>.inr (hC4 y a)).tr S.wide
 ·have T:=D.keep _ _ _ _ _ v j hd
  refine tf (p:=p) fun X b7 S=>?_
  have hj7:=D.keep _ _ _ _ No T S (fun _ _ h=>h)
  have cu7:=w.upd S (fun _ h=>h.elim) (fun _ _ h=>h) (fun _ _ h=>h) fun h=>h
  have hu47:Upd A Z X:=(hu'.trans j fun y a=>.inr (hC4 y a)).tr S.wide
  have s6:=j.size;have s7:=S.size;refine Join.intro (fun t q=>t=false∧∃Y,J (u++ [p]) Y q∧Upd F X q∧∀y,Y y→F y∨X.size≤y) (fun R' hR=>?_) ?_
  ·refine aj.2 ⟨_,vc b7 0,_,vc b7 1,?_⟩
   refine D.step u F X p _ hj7 ?_ fun q Y P k Q=>hR _ _ ⟨rfl,Y,P,k,Q⟩
   have:=congrArg eL c;rw[V]at this;simp only[ad,aH]at this;omega
  ·rintro t q ⟨rfl,Y,P,k,Q⟩
   have z:∀y,G' y→¬F y:=fun y a hx=>(hG' y a).elim (b y hx).2.1 fun h=>by have:=H y hx;omega
   have E:∀y,C' y→¬F y:=fun y a hx=>(hC' y a).elim (b y hx).2.2.1 fun h=>by have:=H y hx;omega
   have hcb6:cb<h6.size:=by obtain⟨s,d,hx,_⟩:=w.ex;exact aL hx
   refine aj.2 (hI (u++ [p],fs',Y,G',C') () q ⟨?_,P,?_,fun y a=>?_,fun y a=>?_,?_,by have:=k.size;omega⟩ ?_)
   ·exact cu7.upd k (fun y a=>.inl (hA1W y a)) E z fun hx=>(b _ hx).2.2.2 rfl
   ·exact hu47.trans k fun y a=>(b y a).1
   ·rcases Q y a with h|h
    ·exact⟨(b y h).1,fun hx=>z y hx h,fun hx=>E y hx h,(b y h).2.2.2⟩
    ·exact⟨.inr (by omega),fun hx=>by have:=w.lt y (.inr hx);omega,fun hx=>by have:=w.lt y (.inl hx);omega,by omega⟩
   ·rcases a with a|a
    ·rcases hG' y a with h|h
     ·exact i y (.inl h)
     ·omega
    ·rcases hC' y a with h|h
     ·exact i y (.inr h)
     ·omega
   ·simp only
    rw[az,hr2,←c,V];rfl
   ·simp only
    rw[V,hr2];simp
theorem I0{W W':Nat→Prop}{x:Hs}{h:af}{m:Nat}{r:Option Addr}{l:List Pr}(t:Below W x h m r l)(hm:m≤13)(g:cA l)(j:l.length≤100000)(c:∀y,W' y→y<h.size){K:SliceV→af→Prop}
  (n:∀s' h',Sl fe 2 W' h' s' l→s'.len≤s'.cap→Upd No h h'→K s' h'):HC PG vZ [.pointer r] [.c .slice] K h:=by
 refine Js r ?_;unfold AQ;refine Pj t hm j fun v w s f=>?_
 refine Fw s (by omega) fun s3 z xs e u d=>?_
 subst e;have q:=Lp x m l;refine Te (W':=W') (u.sl (W:=No) fun _ _ _ h=>h) (fun y o=>bG (c y o) (f.tr d).size) (by omega) fun k i a b p=>?_
 rw[Zr g]at a;exact n k i a b ((f.tr d).tr p)
theorem Ps{W W':Nat→Prop}{x:Hs}{h:af}{t:Tr}{l:List Pr}(i:TreeIs W h 0 x t l)(d:cA l)(o:l.length≤60000)(c:∀y,W' y→y<h.size){K:SliceV→af→Prop}
  (g:∀s' h',Sl fe 2 W' h' s' l→Upd No h h'→K s' h'):HC PG kC [Jb t] [.c .slice] K h:=by
 rcases i with⟨_,b,rfl,t⟩|⟨e,_⟩
 ·refine vp _ ?_
  unfold qw bD aQ rF NO;refine aN fun n b1 k1=>⟨_,vc b1 0,aj.2 ⟨_,vc b1 4,?_⟩⟩
  exact I0 (W':=W') (.inr ⟨b,rfl,TrieAt.upd0 k1 t⟩) (ao _) d (by omega) (fun y j=>bG (c y j) k1.size) fun f m a _ k=>g f m a (k1.tr k)
 ·cases e
theorem Tb{W W':Nat→Prop}{x:Hs}{h:af}{a:Int}{t:Tr}{l:List Pr}(i:TreeIs W h a x t l)(d:cA l)(m:Fit l)(f:l.length≤60000)(c:∀y,W' y→y<h.size){K:SliceV→af→Prop}
  (j:∀s' b,Sl fe 2 W' b s' l→Upd No h b→K s' b):HC PG kC [Jb t] [.c .slice] K h:=by
 have g:=i;rcases i with⟨rfl,_⟩|⟨rfl,_,_,_⟩
 ·exact Ps g d f c j
 ·exact Pq g d m f fun s' b o k=>j s' b (o.sl fun y p _ n=>by have:=c y n;omega) k
end Go.Proofs
namespace Go.Proofs
open Go Go.Lift
abbrev tzL:List Nat:= [0,1,28,2,29,14,24,3,30,22,20,15,25,17,4,8,31,27,13,23,21,19,16,7,26,12,18,6,11,5,10,9]
def Tab(h:af):Prop:=∀i,i<32→aR h ⟨0,i,none⟩=some (.int .u8 ((tzL.getD i 0:Nat):Int))
theorem Tab.upd{M:Nat→Prop}{h a:af}(t:Tab h)(k:Upd M h a)(hm:¬M 0):Tab a:=fun i hi=>k.cell (t i hi) hm
theorem Zj:∀c:Fin 32,Int.fdiv (IntKind.wrap .u32 (IntKind.wrap .u32 ((2^c.val:Nat):Int)*125613361)) (2^(min (27:Int).toNat (IntKind.bits .u32)))=((2^c.val*125613361%4294967296/134217728:Nat):Int)∧2^c.val*125613361%4294967296/134217728<32∧tzL.getD (2^c.val*125613361%4294967296/134217728) 0=c.val:=by decide+kernel
theorem W3{a b:Nat}(d:a<4294967296)(c:b<4294967296):(aw (IntKind.bits .u32) (a:Int)&&&aw (IntKind.bits .u32) (b:Int)).toNat=a&&&b:=by
 rw[show IntKind.bits .u32=32 from rfl,fQ,fQ,BitVec.toNat_and,pO,pO,dS (show a<2^32 from d),dS (show b<2^32 from c)]
theorem aaE{h:af}(tb:Tab h){x c:Nat}(hx:x<4294967296)(hc:c<32)(a:x.testBit c=true)(i:∀j,j<c→x.testBit j=false){K:Int→af→Prop}(g:K (c:Int) h):HC PG jA [.int .u32 (x:Int)] [.c (.int .i64)] K h:=by
 refine tM x ?_;unfold mS bH cS;have k:0<x:=by
  rcases Nat.eq_zero_or_pos x with e|e
  ·rw[e,gG]at a;cases a
  ·exact e
 refine CondP.intro (fun e=>?_) fun _=>?_
 ·have e:(x:Int)=0:=by simpa using e
  omega
 have ew:IntKind.wrap .u32 (0-(x:Int))=((4294967296-x:Nat):Int):=by rw[IntKind.wrap_u32];omega
 rw[ew,W3 hx (by omega),Yg a i hc hx];obtain⟨b,f,d⟩:=Zj ⟨c,hc⟩;simp only at b f d;simp only[Bd];rw[b];refine⟨by decide,⟨by omega,by omega⟩,((tzL.getD (2^c*125613361%4294967296/134217728) 0:Nat):Int),?_,?_⟩
 ·rw[Nat.mul_one,cd,aU,aX];exact tb _ f
 ·rw[d,jj (by omega)];exact g
def dk(d k:Nat):Nat:=(d>>>k)<<<k
theorem Ew(d k i:Nat):(dk d k).testBit i=(decide (k≤i)&&d.testBit i):=by
 unfold dk;rw[Nat.testBit_shiftLeft];by_cases h:k≤i
 ·rw[decide_eq_true (show i≥k from h),Nat.testBit_shiftRight];congr 2;omega
 ·rw[decide_eq_false (show ¬i≥k from h)];rfl
theorem Y2(d k:Nat):dk d k≤d:=by
 unfold dk;rw[Nat.shiftLeft_eq,Nat.shiftRight_eq_div_pow];exact Nat.div_mul_le_self ..
theorem Yx(d:Nat):dk d 0=d:=iR fun i=>by rw[Ew];simp
theorem Km{d:Nat}(hd:d<4294967296){u:Nat}{h:af}(C:h[u]? =some (.cells #[.int .u32 (d:Int)] xq (0,0)))
  {BODY:Int→(Option Ex→af→Prop)→af→Prop} {N:af→Prop} {X:Nat→af→Prop} {R:af→Prop} (Inv:Nat→af→Prop) (M:Nat→Prop)
  (O:∀k a,Inv k a→Tab a) (h0:Inv 0 h) (f:∀k a q,Inv k a→h.size≤a.size→Upd (fun b=>b=u∨h.size≤b) a q→Inv k q)
  (hM:∀b,M b→b≠u∧b<h.size)
  (step:∀k c a (KK:Option Ex→af→Prop),Inv k a→k≤c→c<32→d.testBit c=true→(∀j,k≤j→j<c→d.testBit j=false)→(∀q,Inv (c+1) q→Upd M a q→KK none q)→BODY (c:Int) KK a)
  (fin:∀k a,Inv k a→(∀j,k≤j→j<32→d.testBit j=false)→a[h.size]? =some (.deferred (some []))→N a):
  RangeP PG (.func (.func jT) #[] #[.pointer (some ⟨u,0,none⟩)]) [.c (.int .i64)] h
   (fun Kl bz (x:Int) k G=>(G[(co h+1)]? =some Kl∧At (Array.setIfInBounds G (co h+1) bz) (fun P=>BODY x k P))) N X R:=by
 refine⟨fun lo hlo v=>?_⟩
 refine⟨jT,#[],#[.pointer (some ⟨u,0,none⟩)],rfl,?_⟩;have zb:=aL C;have k1:Upd No h ((h.push (.deferred (some []))).push (lo .ready none)):=(Upd.push No _ _).tr (Upd.push No _ _);have Z:((h.push (.deferred (some []))).push (lo .ready none))[h.size+1]? =some (lo .ready none):=by
  have:=yV (h.push (.deferred (some []))) (lo .ready none);rwa [Array.size_push]at this
 have l1:((h.push (.deferred (some []))).push (lo .ready none))[h.size]? =some (.deferred (some [])):=(Upd.push No _ _).get0 (yV h _);have b1:=k1.get0 C;have i1:=f 0 _ _ h0 (ao _) k1.wide;have z1:=aL Z;generalize (h.push (.deferred (some []))).push (lo .ready none)=a at k1 Z l1 b1 i1 z1;refine Ax (.func (.yield (h.size+1)) #[] #[]) ⟨u,0,none⟩ ?_;unfold pJ
 refine LoopP.ghost (fun(k:Nat) (_:Unit) p=>Inv k p∧p[u]? =some (.cells #[.int .u32 ((dk d k:Nat):Int)] xq (0,0))∧p[h.size]? =some (.deferred (some []))∧p[h.size+1]? =some (lo .ready none)∧k≤32) (fun k=>33-k) 0 ⟨i1,by rw[Yx];exact b1,l1,Z,bj _⟩ ?_
 rintro I k ⟨⟩ p ⟨hi,B,L,g,hk32⟩ hI;have zz:=aL g;have E:=Nat.lt_of_le_of_lt (Y2 d k) hd;refine⟨_,bI B,CondP.intro (fun e=>?_) fun e=>?_⟩
 ·have hne:0<dk d k:=by
   have:((dk d k:Nat):Int)≠0:=by simpa using e
   omega
  obtain⟨c,hc,D,A⟩:=VR (n:=32) E hne;have z:=D;rw[Ew,Bool.and_eq_true,decide_eq_true_iff]at z;refine⟨_,bI B,aaE (O k _ hi) E hc D A ?_⟩;refine v (c:Int) p _ g ⟨g,?_⟩;have J:Upd (· =h.size+1) p (p.setIfInBounds (h.size+1) (lo .busy none)):=Upd.set _ _ rfl
  have lb:=jw (o:=lo .busy none) g;have sb:=J.size;refine ce ?_;generalize p.setIfInBounds (h.size+1) (lo .busy none)=q at J lb sb;refine step k c q _ (f k _ _ hi (by omega) (J.mono fun b C=>.inl (.inr (by omega)))) z.1 hc z.2 (fun j a q=>?_) fun S V s=>?_
  ·have:=A j q
   rw[Ew,decide_eq_true a]at this;simpa using this
  have K:=s.get lb fun e=>by have:=(hM _ e).2;omega
  have W:=s.get (J.get B (show ¬u=h.size+1 by omega)) fun e=>(hM _ e).1 rfl
  have Q:=s.get (J.get L (show ¬h.size=h.size+1 by omega)) fun e=>by have:=(hM _ e).2;omega
  refine⟨K,?_⟩;have w:Upd (· =h.size+1) S (S.setIfInBounds (h.size+1) (lo .ready none)):=Upd.set _ _ rfl
  have l5:=jw (o:=lo .ready none) K;have m:=w.get W (show ¬u=h.size+1 by omega)
  have F:=w.get Q (show ¬h.size=h.size+1 by omega)
  have s3:=s.size;have i5:=f (c+1) _ _ V (by omega) (w.mono fun b C=>.inl (.inr (by omega)))
  simp only[Option.isNone_none,if_true];refine aj.2 ?_;generalize S.setIfInBounds (h.size+1) (lo .ready none)=h5 at w l5 m F i5;refine⟨_,bI m,_,bI m,?_⟩;have ew:IntKind.wrap .u32 (((dk d k:Nat):Int)-1)=((dk d k-1:Nat):Int):=by rw[IntKind.wrap_u32];omega
  have ea:dk d k&&&(dk d k-1)=dk d (c+1):=by
   refine iR fun i=>?_
   rw[Ub D A,Ew,Ew];by_cases H:c<i
   ·rw[decide_eq_true H,decide_eq_true (show k≤i by omega),decide_eq_true (show c+1≤i by omega)];simp
   ·rw[decide_eq_false H,decide_eq_false (show ¬c+1≤i by omega)];simp
  simp only[Bd];rw[ew,W3 E (by omega),ea];have Y:IntKind.wrap .u32 ((dk d (c+1):Nat):Int)=((dk d (c+1):Nat):Int):=by have:=Y2 d (c+1);rw[IntKind.wrap_u32];omega
  rw[Y];refine⟨jd m (by simp),xW m fun h6 T y=>?_⟩
  have s5:=w.size;refine hI (c+1) () h6 ⟨f _ _ _ i5 (by omega) (y.mono fun b C=>.inl (.inl C)),T,y.oth F (by omega),y.oth l5 (by omega),hc⟩ (by omega)
 ·have hz:dk d k=0:=by
   have:((dk d k:Nat):Int)=0:=by simpa using e
   omega
  have w:Upd (· =h.size+1) p (p.setIfInBounds (h.size+1) (lo .exhausted none)):=Upd.set _ _ rfl
  refine⟨.ready,none,by decide,g,?_⟩
  refine fin k _ (f k _ _ hi (by omega) (w.mono fun b C=>.inl (.inr (by omega)))) (fun j a _=>?_) (w.get L (show ¬h.size=h.size+1 by omega))
  have:=Ew d k j;rw[hz,gG,decide_eq_true a]at this;simpa using this.symm
end Go.Proofs
namespace Go.Proofs
open Go Go.Lift
abbrev YW(n:Nat):List Value:= [.int .i64 (n:Int)]
theorem ZF(n:Nat):(YW n).length=1∧0<1:=⟨rfl,by omega⟩
theorem DU{h:af}{b:Nat}{c:Array Value}{t:TypeId}(a:h[b]? =some (.cells c t (0,0))):aR h ⟨b,0,none⟩=c[0]?:=bI a
theorem GJ{h:af}{b:Nat}{c c':Array Value}{t:TypeId}{v:Value}{k:af→Prop}(f:h[b]? =some (.cells c t (0,0))) (hi:0<c.size) (e:c.setIfInBounds 0 v=c') (i:∀a,a[b]? =some (.cells c' t (0,0))→Upd (· =b) h a→k a):Wr h ⟨b,0,none⟩∧At (hset h ⟨b,0,none⟩ v) k:=
 ⟨jd f hi,xW f fun a d g=>i a (e▸d) g⟩
theorem lU{h:af}{b:Nat}{cs:List Value}{t:TypeId}(a:h[b]? =some (.cells cs.toArray t (0,0))):SRow h (some ⟨b,0,none⟩) cs.length cs:=
 ⟨rfl,.inr ⟨_,rfl,rC a fun i v hv=>by rw[aU,List.getElem?_toArray];exact hv⟩⟩
theorem Hx{W:Nat→Prop}{x:Hs}{k:ByteArray}{h:af}{s:SliceV}{way:List Nat}(f:Sl YW 1 W h s way)(p:way.length≤13)(o:∀i c,way[i]? =some c→ck x i k=c) {K:Bool→af→Prop} (m:K true h):HC PG oK [.int .u64 (nr x k),.slice s.a s.len s.cap] [.c .bool] K h:=by
 refine Jw (nr x k) s ?_;unfold AV bH cS m0;have d:=f.len;refine LoopP.ghost (fun(i:Nat) (t:Int) g=>t=(i:Int)∧i≤way.length∧g=h) (fun i=>way.length-i) 0 ⟨rfl,bj _,rfl⟩ ?_
 rintro I i t g ⟨rfl,hi,rfl⟩ n;refine aM (fun b=>?_) fun _=>m
 have b:i<way.length:=by omega
 obtain⟨a,j,_,hv⟩:=f.at0 (ag b);refine⟨⟨by omega,by omega⟩,a,j,_,hv,Ud (x:=x) (k:=k) (lev:=i) (by omega) ?_⟩
 rw[o i _ (ag b),bne_self_eq_false];refine aj.2 ?_;rw[cO b (by omega)];exact n (i+1) _ _ ⟨rfl,b,rfl⟩ (by omega)
theorem TI{W:Nat→Prop}{h:af}{s:SliceV}{l:List Pr}(d:Sl fe 2 W h s l)(k:cA l)(u:l.length≤1000000){K:Bool→af→Prop}(p:K true h):HC PG xR [.slice s.a s.len s.cap] [.c .bool] K h:=by
 refine MK s ?_;unfold DJ bH cS bo;have g:=d.len;refine LoopP.ghost (fun(i:Nat) (t:Int) j=>t=((i+1:Nat):Int)∧j=h) (fun i=>l.length-i) 0 ⟨rfl,rfl⟩ ?_
 rintro I i t j ⟨rfl,rfl⟩ q;refine aM (fun b=>?_) fun _=>p
 have b:i+1<l.length:=by omega
 have o:IntKind.wrap .i64 (((i+1:Nat):Int)-1)=(i:Int):=by rw[jj (by omega)];omega
 rw[o];obtain⟨a,m,_,hv⟩:=d.at (ag (show i<l.length by omega))
 obtain⟨a',c,_,f⟩:=d.at (ag b);refine⟨⟨by omega,by omega⟩,a,m,_,hv 0 _ rfl,⟨by omega,by omega⟩,a',c,_,f 0 _ rfl,?_⟩
 have:=cJ.1 k i (i+1) (by omega) b (by omega);have n:Op.bytesLess l[i].1.toList l[i+1].1.toList=true:=this;rw[n];refine aj.2 ?_;rw[cO b (by omega)];exact q (i+1) _ _ ⟨rfl,rfl⟩ (by omega)
theorem Tf(x:Hs)(lev:Nat)(l:List Pr):(gi x lev l).length+(jn x lev l).flatten.length=l.length:=by
 have h:=tR x lev l 32;have d:(l.filter fun p=>decide (ck x lev p.1<32))=l:=List.filter_eq_self.2 fun p _=>decide_eq_true (zq ..)
 rw[d]at h;have:∀n,(fm (fun c=>il (part x lev c l)) n).length+(fm (fun c=>fu (part x lev c l)) n).flatten.length=((List.range n).map fun c=>(part x lev c l).length).sum:=by
  intro n;induction n with
  |zero=>simp[fm]
  |succ n ih=>
   rw[gP,gP,List.range_succ,bU,ia];simp only[ad,eO,cG,iM,kS,List.sum_nil,Nat.add_zero];generalize part x lev n l=q;have:(il q).toList.length+(fu q).toList.flatten.length=q.length:=by
    match q with
    | []=>simp[il,fu]
    | [a]=>simp[il,fu]
    |a::b::q=>simp[il,fu]
   omega
 have:=this 32;unfold gi jn;omega
theorem Mb{β:Type}{g:Nat→Option β}{k:Nat}:∀{c:Nat},k≤c→(∀j,k≤j→j<c→g j=none)→fm g c=fm g k
 |0,h,_=>by rw[show k=0 by omega]
 |c+1,h,hn=>by
  rcases bO k (c+1)with a|a
  ·rw[gP,hn c (by omega) (by omega),Mb (by omega) fun j b d=>hn j b (by omega)];simp
  ·rw[show k=c+1 by omega]
end Go.Proofs
namespace Go.Proofs
open Go Go.Lift
theorem Th{W:Nat→Prop}{x:Hs}{h:af}{m:Nat}{s:Slots}{c:Nat}{l:List Pr}(t:SlotIs W x h m s c l)(b:(s.p c).isSome):∃p,l= [p]∧s.p c=some p:=by
 rcases t with⟨_,a,_⟩|⟨p,d,a,_⟩|⟨_,a,_⟩
 ·rw[a]at b;cases b
 ·exact⟨p,d,a⟩
 ·rw[a]at b;cases b
theorem Ti{W:Nat→Prop}{x:Hs}{h:af}{m:Nat}{s:Slots}{c:Nat}{l:List Pr}(t:SlotIs W x h m s c l)(b:(s.k c).isSome):2≤l.length∧∃d,s.k c=some (some ⟨d,0,none⟩)∧TrieAt W x h m d l:=by
 rcases t with⟨_,_,a⟩|⟨p,_,_,a⟩|⟨f,_,d,a,g⟩
 ·rw[a]at b;cases b
 ·rw[a]at b;cases b
 ·exact⟨f,d,a,g⟩
theorem Lr{W:Nat→Prop}{h:af}{s:SliceV}{way:List Nat}{c:Nat}{xs:List Value}(g:Sl YW 1 W h s way)(hc:s.cap=s.len)(i:way.length≤13)(hx:xs= [.int .i64 (c:Int)]){K:SliceV→af→Prop}
  (f:∀s' a,Sl YW 1 No a s' (way++ [c])→s'.len≤s'.cap→Upd No h a→K s' a):AppP (some [.int .i64 0]) 1 8 gJ s.a s.len s.cap 1 xs h K:=by
 subst hx;refine OE (ys:= [c]) g rfl rfl rfl (by omega) (by omega) (by simp;omega) fun s' a b d=>f s' a (b.sl fun _ _ _ h=>h) b.cap d
def OnWay(x:Hs)(way:List Nat)(l:List Pr):Prop:=∀p∈l,∀i c,way[i]? =some c→ck x i p.1=c
theorem OnWay.part{x:Hs}{way:List Nat}{l:List Pr}{c:Nat}(o:OnWay x way l):OnWay x (way++ [c]) (part x way.length c l):=fun p a i d hd=>by
 have a:=mh.1 a;rcases bO i way.length with h|h
 ·rw[List.getElem?_append_left h]at hd;exact o p a.1 i d hd
 ·rw[List.getElem?_append_right h]at hd
  have:i-way.length=0:=by have:=(List.getElem?_eq_some_iff.1 hd).1;simp at this;omega
  rw[this]at hd;simp only[cB,bQ.injEq]at hd;subst hd;rw[show i=way.length by omega];exact a.2
theorem WM{W:Nat→Prop}{x:Hs}:∀(m:Nat),m≤13→∀{h:af} {b:Nat} {l:List Pr} {sw:SliceV} {way:List Nat},TrieAt W x h m b l→Tab h→Sl YW 1 No h sw way→sw.len≤sw.cap→way.length=13-m→OnWay x way l→cA l→l.length≤60000→∀{K:Int×Bool→af→Prop},(∀S,Upd No h S→K ((l.length:Int),true) S)→
  HC PG oL [.agg #[.int .u64 x.k0,.int .u64 x.k1,.int .u64 x.mask],.pointer (some ⟨b,0,none⟩),.slice sw.a sw.len sw.cap] [.c (.int .i64),.c .bool] K h:=by
 intro m;induction m with
 |zero=>
  intro _ h b l sw way t tb hs hcp hw X hr hn K hk;refine AO (x.k0,x.k1,x.mask) (some ⟨b,0,none⟩) sw ?_;unfold wy cS aq bo aD nv CC yg yH tc jm lf jQ SZ;refine aN fun h1 b1 k1=>aN fun h2 b2 k2=>aN fun h3 b3 Y=>aN fun h4 b4 O=>aN fun h5 b5 N=>?_
  have J:Upd No h h5:=(((k1.tr k2).tr Y).tr O).tr N;have c1:=N.get0 (O.get0 (Y.get0 (k2.get0 b1)));have c2:=N.get0 (O.get0 (Y.get0 b2));have c3:=N.get0 (O.get0 b3);have c4:=N.get0 b4;have s1:=k1.size;have s2:=k2.size;have s3:=Y.size;have s4:=O.size;have z3:=aL b3;have z4:=aL b4;have z5:=aL b5;obtain⟨sp,sk,ow,hb,hsp,_⟩:=(BuckAt.upd t J fun _ h=>h.elim:BuckAt W h5 b l).ex
  refine⟨_,DU c2,qd hb hsp (by omega) fun s8 C ho8 A=>?_⟩
  refine⟨_,DU (A.get0 c2),g7 (A.get0 hb) (aA.2 ?_)⟩;have d1:=A.get0 c1;have d3:=A.get0 c3;have d4:=A.get0 c4;have d5:=A.get0 b5;have s8':=A.size;have hs8:Sl fe 2 No C s8 l:=ho8.sl fun _ _ _ h=>h
  have hlen:=hs8.len;have hwl:=hs.len;have hs':Sl YW 1 No C sw way:=(hs.upd J fun _ h=>h.elim).upd A fun _ h=>h.elim
  refine Join.plain ⟨sw,DU d3,?_⟩;rw[show((sw.len:Int) !=(13:Int))=false by rw[bne_eq_false_iff_eq];omega]
  refine aj.2 (TI hs8 hr (by omega) (aj.2 ?_));refine LoopP.ghost (fun(i:Nat) (t:Int) S=>t=(i:Int)∧i≤l.length∧Upd No C S) (fun i=>l.length-i) 0 ⟨rfl,bj _,Upd.refl _ _⟩ ?_
  rintro I i t S ⟨rfl,hi,T⟩ hI;refine aM (fun M=>?_) fun hge=>?_
  ·have M:i<l.length:=by omega
   obtain⟨a,ha,_,hv⟩:=(hs8.upd T fun _ h=>h.elim).at (ag M)
   refine⟨⟨by omega,by omega⟩,a,ha,_,hv 0 _ rfl,_,hv 1 _ rfl,tf (p:=l[i]) fun h9 b9 k9=>?_⟩
   have z:=T.tr k9;refine⟨_,vc (z.get0 d1) 0,_,vc (z.get0 d1) 1,_,vc (z.get0 d1) 2,_,vc b9 0,sw,DU (z.get0 d3),uV fun h10 k10=>⟨DU (k10.get0 (z.get0 d3)),?_⟩⟩
   refine Hx ((hs'.upd z fun _ h=>h.elim).upd k10 fun _ h=>h.elim) (by omega) (fun j c hj=>X _ (aY M) j c hj) (aj.2 ?_)
   rw[cO M (by omega)];exact hI (i+1) _ _ ⟨rfl,M,z.tr k10⟩ (by omega)
  ·have hil:i=l.length:=by omega
   subst hil;refine GJ (T.get0 d4) (by simp) rfl fun h9 b9 z=>GJ (z.oth (T.get0 d5) (by omega)) (by simp) rfl fun h10 b10 v=>?_
   refine⟨_,DU (v.oth b9 (by omega)),_,DU b10,?_⟩;have e:((s8.len:Nat):Int)=(l.length:Int):=by omega
   rw[e];exact hk _ ((((J.tr A).tr T).own z (by omega)).own v (by omega))
 |succ m ih=>
  intro hm h b l sw way t tb hs hcp hw X hr hn K hk;refine AO (x.k0,x.k1,x.mask) (some ⟨b,0,none⟩) sw ?_;unfold wy cS aq bo aD nv CC yg yH tc jm lf jQ SZ;obtain⟨sl,nd,hs0⟩:=t;have L:∀c,c<32→SlotIs W x h m sl c (part x (12-m) c l):=hs0;refine aN fun h1 b1 k1=>aN fun h2 b2 k2=>aN fun h3 b3 Y=>aN fun h4 b4 O=>aN fun h5 b5 N=>?_
  have J:Upd No h h5:=(((k1.tr k2).tr Y).tr O).tr N;have c1:=N.get0 (O.get0 (Y.get0 (k2.get0 b1)));have c2:=N.get0 (O.get0 (Y.get0 b2));have c3:=N.get0 (O.get0 b3);have c4:=N.get0 b4;have s1:=k1.size;have s2:=k2.size;have s3:=Y.size;have s4:=O.size;have z1:=aL b1;have z2:=aL b2;have z3:=aL b3;have z4:=aL b4;have z5:=aL b5;obtain⟨d,n,sp,sk,ow,hb,bits,hsp,hsk,_⟩:=(nd.upd J fun _ h=>h.elim).ex
  have hfp:(fm sl.p 32).length≤32:=yi;refine⟨_,DU c2,qd hb hsp (by omega) fun s8 C ho8 A=>?_⟩
  refine⟨_,DU (A.get0 c2),g7 (A.get0 hb) (aj.2 ⟨sw,DU (A.get0 c3),?_⟩)⟩;have k08:=J.tr A;have hl8:=ho8.len;rw[Cu L]at hl8;have hwl:=hs.len;rw[decide_eq_false (by omega)];refine aj.2 (aN fun h9 b9 k9=>?_)
  have z:=A.tr k9;have s8':=A.size;have z9:=aL b9;refine GJ b9 (by simp) rfl fun h10 b10 v=>?_
  have d1:=v.oth (z.get0 c1) (by omega);have d2:=v.oth (z.get0 c2) (by omega);have d3:=v.oth (z.get0 c3) (by omega);have d4:=v.oth (z.get0 c4) (by omega);have d5:=v.oth (z.get0 b5) (by omega);refine⟨sw,DU d3,sw,DU d3,sw,DU d3,⟨by omega,by omega⟩,⟨by omega,by omega⟩,?_⟩
  refine GJ d3 (by simp) rfl fun H b11 E=>?_
  have s:Upd No h H:=((k08.tr k9).own v (by omega)).own E (by omega);have D:=E.oth d1 (by omega);have e2:=E.oth d2 (by omega);have e4:=E.oth d4 (by omega);have e5:=E.oth d5 (by omega);have e9:=E.oth b10 (by omega);have s11:=s.size;have s10a:=v.size;have s11a:=E.size;have F:Sl YW 1 (fun y=>h.size≤y) H ⟨bq sw.a 0 ((sw.len:Int).toNat) 1,((sw.len:Int).toNat)-0,((sw.len:Int).toNat)-0⟩ way:=by
   have:=Sl.sub ((hs.less (W':=fun y=>h.size≤y) fun _ h=>.inr h).upd s fun _ h=>h.elim) (l:=0) (hi:=sw.len) (m:=sw.len) (c:=sw.len-0) (bj _) (by omega) (ao _)
   rw[List.drop_zero,bJ (by omega)]at this;exact this
  have Z:(⟨bq sw.a 0 ((sw.len:Int).toNat) 1,((sw.len:Int).toNat)-0,((sw.len:Int).toNat)-0⟩:SliceV).cap=(⟨bq sw.a 0 ((sw.len:Int).toNat) 1,((sw.len:Int).toNat)-0,((sw.len:Int).toNat)-0⟩:SliceV).len:=rfl;have g:H[h2.size]? =some (.cells #[sv ⟨bq sw.a 0 ((sw.len:Int).toNat) 1,((sw.len:Int).toNat)-0,((sw.len:Int).toNat)-0⟩] RL (0,0)):=b11;clear b11;generalize (⟨bq sw.a 0 ((sw.len:Int).toNat) 1,((sw.len:Int).toNat)-0,((sw.len:Int).toNat)-0⟩:SliceV)=s0 at F Z g
  obtain⟨d',n',sp',sk',ow',hb',P,_⟩:=(nd.upd s fun _ h=>h.elim).ex
  have tb11:=tb.upd s id;refine⟨_,DU e2,Ml hb' (wW d' (aN fun h12 b12 k12=>?_))⟩
  have s12:=k12.size;have z12:=aL b12;refine Km (d:=d') P.d32 b12 (fun k S=>Upd No H S) No (fun k h1 hi=>tb11.upd hi id) k12 (fun k ha hb hi hle T=>hi.trans T fun y q=>.inr (by omega)) (fun _ h=>h.elim) (fun k c ha KK hi hkc hc hdc _ hK=>?_) fun k ha hi _ hde=>?_
  ·
   have hdc':=hdc;rw[P.dp c hc]at hdc';obtain⟨p,hp1,hp2⟩:=Th (L c hc) hdc';refine⟨_,DU (hi.get0 e2),CI (nd.upd (s.tr hi) fun _ h=>h.elim) hc fun hb kb=>?_⟩
   rw[hp2];have ib:=hi.tr kb;refine tf (p:=p) fun hc' bc kc=>?_
   have G:=ib.tr kc;have hon:∀i c',(way++ [c])[i]? =some c'→ck x i p.1=c':=by
    have:=X.part (c:=c);rw[hw,show 13-(m+1)=12-m by omega,hp1]at this
    exact this p (au.2 rfl)
   refine Join.intro (fun t hd=>t=false∧Upd No hc' hd) (fun R hR=>?_) ?_
   ·refine⟨_,vc (G.get0 D) 0,_,vc (G.get0 D) 1,_,vc (G.get0 D) 2,_,vc bc 0,s0,DU (G.get0 g),?_,?_⟩
    ·refine uV fun hd f=>⟨DU (f.get0 (G.get0 g)),aN fun he be V=>⟨DU (V.get0 (f.get0 (G.get0 g))),_,lU be,?_⟩⟩
     refine Lr (((F.upd G fun _ h=>h.elim).upd f fun _ h=>h.elim).upd V fun _ h=>h.elim) Z (by omega) rfl fun s' hf hsf _ kf=>?_
     exact Hx hsf (by simp;omega) hon (hR _ _ ⟨rfl,(f.tr V).tr kf⟩)
    ·refine aN fun hd bd f=>⟨DU (f.get0 (G.get0 g)),vc (f.get0 bc) 0,⟨vc (f.get0 (G.get0 D)) 0,vc (f.get0 (G.get0 D)) 1,vc (f.get0 (G.get0 D)) 2⟩,?_⟩
     refine uV fun he V=>⟨DU (V.get0 (f.get0 (G.get0 g))),_,lU (V.get0 bd),?_⟩
     refine Lr (((F.upd G fun _ h=>h.elim).upd f fun _ h=>h.elim).upd V fun _ h=>h.elim) Z (by omega) rfl fun s' hf hsf _ kf=>?_
     exact Hx hsf (by simp;omega) hon (hR _ _ ⟨rfl,(f.tr V).tr kf⟩)
   ·rintro t hd ⟨rfl,f⟩
    exact aj.2 (hK hd (G.tr f) ((kb.tr kc).tr f))
  ·
   obtain⟨d'',n'',sp'',sk'',ow'',hb'',u,_⟩:=(nd.upd (s.tr hi) fun _ h=>h.elim).ex
   refine⟨_,DU (hi.get0 e2),CG hb'' (wW n'' (aN fun h13 b13 k13=>?_))⟩
   have i13:=hi.tr k13;have s13:=k13.size;have z13:=aL b13;have sa:=hi.size;have zde:=aL hde;have hl8':s8.len=(gi x (12-m) l).length:=hl8;have hall:=Tf x (12-m) l;have hfl:∀k,(fm (fun c=>fu (part x (12-m) c l)) k).flatten.length≤60000∨32<k:=fun k=>by
    rcases bO 32 k with h|h
    ·exact .inr h
    ·refine .inl ?_
     have:((fm (fun c=>fu (part x (12-m) c l)) k).flatten).length≤(jn x (12-m) l).flatten.length:=by
      unfold jn;have hj:∀j,∃r,fm (fun c=>fu (part x (12-m) c l)) (k+j)=fm (fun c=>fu (part x (12-m) c l)) k++r:=fun j=>by
       induction j with
       |zero=>exact⟨[],by simp⟩
       |succ j ihj=>obtain⟨r,hr⟩:=ihj;exact⟨r++(fu (part x (12-m) (k+j) l)).toList,by rw[←Nat.add_assoc,gP,hr,az]⟩
      have this:=hj (32-k);rw[show k+(32-k)=32 by omega]at this
      obtain⟨r,hr⟩:=this;rw[hr,eO,ad];omega
     omega
   refine Km (d:=n'') u.n32 b13 (fun k S=>k≤32∧Upd (· =C.size) ha S∧S[C.size]? =some (.cells #[.int .i64 (((gi x (12-m) l).length+(fm (fun c=>fu (part x (12-m) c l)) k).flatten.length:Nat):Int)] gJ (0,0))) (· =C.size)
    (fun k hx q=>(tb11.upd hi id).upd q.2.1 fun e=>by have e:0=C.size:=e;omega) ⟨bj _,k13.wide,?_⟩ (fun k hx q hz hle T=>⟨hz.1,hz.2.1.trans T fun y q=>.inr (by omega),T.get hz.2.2 (by omega)⟩) (fun y q=>⟨by have q:y=C.size:=q;omega,by have q:y=C.size:=q;omega⟩) (fun k c hx KK q hkc hc hnc hno hK=>?_) fun k hx q hno hdx=>?_
   ·have:=i13.get0 e9
    rw[show((gi x (12-m) l).length+(fm (fun c=>fu (part x (12-m) c l)) 0).flatten.length:Nat)=s8.len by rw[hl8'];simp[fm]]
    exact this
   ·obtain⟨hk32,w,Q⟩:=q
    have hnc':=hnc;rw[u.nk c hc]at hnc';obtain⟨h2l,kb,hkb,tk⟩:=Ti (L c hc) hnc';have B:∀{y:Nat} {o:Obj},H[y]? =some o→y≠C.size→hx[y]? =some o:=fun q hne=>w.get (hi.get0 q) hne
    have uW:Upd No h hx:=(s.tr hi).trans w fun y q=>.inr (by have q:y=C.size:=q;omega)
    refine⟨_,DU (B e2 (by omega)),CJ (nd.upd uW fun _ h=>h.elim) hc ?_⟩
    rw[hkb];have hmc:fu (part x (12-m) c l)=some (part x (12-m) c l):=by unfold fu;rw[if_pos h2l]
    have hskip:fm (fun c=>fu (part x (12-m) c l)) c=fm (fun c=>fu (part x (12-m) c l)) k:=Mb hkc fun j h1 h2=>by
     have:=hno j h1 h2;rw[u.nk j (by omega),(GX (L j (by omega))).2]at this;simpa using this
    have hnext:(fm (fun c=>fu (part x (12-m) c l)) (c+1)).flatten.length=(fm (fun c=>fu (part x (12-m) c l)) k).flatten.length+(part x (12-m) c l).length:=by
     rw[gP,hskip,hmc];simp
    have hpl:(part x (12-m) c l).length≤l.length:=kz;refine Join.intro (fun t hd=>t=(((part x (12-m) c l).length:Int),true)∧Upd No hx hd) (fun R hR=>?_) ?_
    ·refine⟨_,vc (B D (by omega)) 0,_,vc (B D (by omega)) 1,_,vc (B D (by omega)) 2,s0,DU (B g (by omega)),aN fun hd bd f=>?_⟩
     refine⟨DU (f.get0 (B g (by omega))),⟨vc (f.get0 (B D (by omega))) 0,vc (f.get0 (B D (by omega))) 1,vc (f.get0 (B D (by omega))) 2⟩,_,lU bd,?_⟩;have hsx:Sl YW 1 (fun y=>h.size≤y) hd s0 way:=((F.upd hi fun _ h=>h.elim).upd w fun y q=>.inl (by have q:y=C.size:=q;omega)).upd f fun _ h=>h.elim
     refine Lr hsx Z (by omega) rfl fun s' he hse hce V=>?_
     have gE:=f.tr V;refine⟨⟨vc (gE.get0 (B D (by omega))) 0,vc (gE.get0 (B D (by omega))) 1,vc (gE.get0 (B D (by omega))) 2⟩,?_⟩;refine ih (by omega) (TrieAt.upd0 (uW.tr gE) tk) (tb.upd (uW.tr gE) id) hse hce (by simp;omega) ?_ (qV hr) (by omega) fun hf kf=>hR _ _ ⟨rfl,gE.tr kf⟩
     have:=X.part (c:=c);rw[hw,show 13-(m+1)=12-m by omega]at this
     exact this
    ·rintro t hd ⟨rfl,f⟩
     refine Join.plain (aj.2 ?_);rw[decide_eq_false (by simp only;omega)];refine aj.2 ⟨_,DU (f.get0 Q),?_⟩;have hf1:=(hfl k).resolve_right (by omega);have hS:(gi x (12-m) l).length≤60000:=by omega
     refine GJ (c':= #[.int .i64 (((gi x (12-m) l).length+(fm (fun c=>fu (part x (12-m) c l)) (c+1)).flatten.length:Nat):Int)]) (f.get0 Q) (by simp) ?_ fun hf bf uf=>?_
     ·rw[hnext]
      have:IntKind.wrap .i64 ((((gi x (12-m) l).length+(fm (fun c=>fu (part x (12-m) c l)) k).flatten.length:Nat):Int)+((part x (12-m) c l).length:Int))=(((gi x (12-m) l).length+((fm (fun c=>fu (part x (12-m) c l)) k).flatten.length+(part x (12-m) c l).length):Nat):Int):=by rw[jj (by omega)];omega
      simp only[this];rfl
     ·exact hK hf ⟨hc,(w.tr f.wide).tr uf,bf⟩ (f.wide.tr uf)
   ·obtain⟨hk32,w,Q⟩:=q
    have B:∀{y:Nat} {o:Obj},H[y]? =some o→y≠C.size→hx[y]? =some o:=fun q hne=>w.get (hi.get0 q) hne
    have hkm:fm (fun c=>fu (part x (12-m) c l)) 32=fm (fun c=>fu (part x (12-m) c l)) k:=Mb hk32 fun j h1 h2=>by
     have:=hno j h1 h2;rw[u.nk j (by omega),(GX (L j (by omega))).2]at this;simpa using this
    have ev:((gi x (12-m) l).length+(fm (fun c=>fu (part x (12-m) c l)) k).flatten.length:Nat)=l.length:=by rw[←hkm];exact hall
    rw[ev]at Q;have sx:=w.size;refine⟨_,DU Q,GJ (B e4 (by omega)) (by simp) rfl fun hf bf uf=>GJ (uf.oth (B e5 (by omega)) (by omega)) (by simp) rfl fun hg bg ug=>?_⟩
    have sf:=uf.size;have sg:=ug.size;have g2:=ug.oth (uf.oth hdx (by omega)) (by omega);have kh:Upd (· =h13.size) hg (hg.setIfInBounds h13.size (.deferred none)):=Upd.set _ _ rfl
    refine⟨g2,ce ?_⟩;generalize hg.setIfInBounds h13.size (.deferred none)=hh at kh;have g3:=kh.oth (ug.oth (uf.oth (w.get hde (by omega)) (by omega)) (by omega)) (by omega);have kj:Upd (· =h12.size) hh (hh.setIfInBounds h12.size (.deferred none)):=Upd.set _ _ rfl
    refine⟨g3,ce ?_⟩;generalize hh.setIfInBounds h12.size (.deferred none)=hj at kj;refine⟨_,DU (kj.oth (kh.oth (ug.oth bf (by omega)) (by omega)) (by omega)),_,DU (kj.oth (kh.oth bg (by omega)) (by omega)),?_⟩;refine hk hj ?_;refine(((((s.tr hi).trans w fun y q=>.inr ?_).own uf (by omega)).own ug (by omega)).own kh (by omega)).own kj (by omega)
    have q:y=C.size:=q;omega
end Go.Proofs
namespace Go.Proofs
open Go Go.Lift
theorem G6{W:Nat→Prop}{h:af}{b:Nat}{sl val:ByteArray}{has:Bool}{s:SliceV}{ow:Option Addr}{ks:List (Option Addr)}{F:Fo}(Q:h[b]? =some (.cells (zP sl has val s ow) bS (0,0))) (B:Sl m9 1 W h s ks) (C:RxL W h ks F.toL) (hc:fU F) {K:Bool→af→Prop} (hk:K true h):HC PG lW [.pointer (some ⟨b,0,none⟩)] [.c .bool] K h:=by
 refine BT (some ⟨b,0,none⟩) ?_;unfold uA bH cS bo aK;refine⟨_,rfl,s,dI (i:=3) Q,?_⟩;have m:=B.len;rw[C.1]at m;have O:=kJ hc;have k:=fi.1 hc;refine LoopP.ghost (fun(i:Nat) (t:Int) G=>t=(i:Int)∧i≤F.toL.length∧G=h) (fun i=>F.toL.length-i) 0 ⟨rfl,bj _,rfl⟩ ?_
 rintro I i t G ⟨rfl,hi,rfl⟩ Y;refine aM (fun f=>?_) fun _=>hk
 have f:i<F.toL.length:=by omega
 obtain⟨kb,j,M,n,kv,P,X,kk,o,_⟩:=C.at f;obtain⟨a,ha,_,hv⟩:=B.at0 M;have u:j.data.toList≠[]:=by rw[n];exact(k.2 _ (aY f)).1
 have e0:(j.toList==(⟨#[]⟩:ByteArray).toList)=false:=by
  rw[beq_eq_false_iff_ne,ByteArray.toList_eq,ByteArray.toList_eq];exact u
 obtain⟨c,J,w⟩:=Ei u;refine⟨⟨by omega,by omega⟩,a,ha,_,hv,Join.intro (fun t N=>t=false∧N=G) (fun R T=>?_) ?_⟩
 ·refine⟨_,rfl,j,dI (i:=0) o,?_⟩
  rw[e0];refine aj.2 (aM (fun E=>?_) fun _=>T _ _ ⟨rfl,rfl⟩)
  have V:0<i:=by have:(i:Int)>0:=E;omega
  have e1:IntKind.wrap .i64 ((i:Int)-1)=((i-1:Nat):Int):=by rw[jj (by omega)];omega
  rw[e1];have g:i-1<F.toL.length:=by omega
  obtain⟨jb,v,L,p,jv,S,Z,jk,y,_⟩:=C.at g;obtain⟨a',z,_,D⟩:=B.at0 L;have q:v.data.toList≠[]:=by rw[p];exact(k.2 _ (aY g)).1
  obtain⟨d,A,H⟩:=Ei q;refine⟨_,rfl,s,dI (i:=3) Q,⟨by omega,by omega⟩,a',z,_,D,_,rfl,v,dI (i:=0) y,d,by decide,A,_,rfl,j,dI (i:=0) o,c,by decide,J,T _ _ ⟨?_,rfl⟩⟩
  have:=cJ.1 k.1 (i-1) i g f (by omega);rw[n]at w;rw[p]at H;exact decide_eq_false (by omega)
 ·rintro t N ⟨rfl,rfl⟩
  refine aj.2 ?_;rw[cO f (by omega)];exact Y (i+1) _ _ ⟨rfl,f,rfl⟩ (by omega)
theorem K9{W:Nat→Prop}{h:af}{s:SliceV}{ks:List (Option Addr)}{L:List Bn}{f:FuncId}(j:Sl m9 1 W h s ks)(k:RxL W h ks L)(y:L.length≤256)(q:∀i (hi:i<L.length) {b:Nat} {sl:ByteArray},RxN W h b sl L[i].2.1 L[i].2.2→∀{K:Bool→af→Prop},K false h→HC PG f [.pointer (some ⟨b,0,none⟩)] [.c .bool] K h){K:Bool→af→Prop}(u:K false h):
  HC PG cX [.slice s.a s.len s.cap,.func (.func f) #[] #[]] [.c .bool] K h:=by
 refine j6 s _ ?_;unfold fV;refine kQ s _ ?_;unfold gn bH cS;have d:=j.len;rw[k.1]at d;refine LoopP.ghost (fun(i:Nat) (t:Int) m=>t=(i:Int)∧i≤L.length∧m=h) (fun i=>L.length-i) 0 ⟨rfl,bj _,rfl⟩ ?_
 rintro I i t m ⟨rfl,hi,rfl⟩ w;refine aM (fun c=>?_) fun _=>u
 have c:i<L.length:=by omega
 obtain⟨z,v,g,o,n⟩:=k.at c;obtain⟨a,p,_,hv⟩:=j.at0 g;refine⟨⟨by omega,by omega⟩,a,p,_,hv,HV.mk' (q i c n (aj.2 ?_))⟩
 rw[cO c (by omega)];exact w (i+1) _ _ ⟨rfl,c,rfl⟩ (by omega)
def abU(n:Bn):Prop:=∀{W:Nat→Prop} {h:af} {b:Nat} {sl:ByteArray},RxN W h b sl n.2.1 n.2.2→∀{K:Bool→af→Prop},K true h→HC PG kY [.pointer (some ⟨b,0,none⟩)] [.c .bool] K h
theorem aaa{lab:List UInt8}{w:Option ByteArray}{F:Fo}(hc:fU F)(c:w.isSome∨2≤F.toL.length)(q:∀n∈F.toL,abU n):abU (lab,w,F):=by
 intro W h b sl r K u;simp only at r;obtain⟨val,s,ow,ks,d,hv,g,v,p⟩:=r;have j:=rB.1 p;have a:=g.len;rw[j.1]at a;refine Av (some ⟨b,0,none⟩) ?_;unfold tx aK dZ;refine Join.intro (fun t m=>t=false∧m=h) (fun R k=>?_) ?_
 ·refine G6 d g j hc (aj.2 ⟨_,rfl,w.isSome,dI (i:=1) d,?_⟩)
  cases hwS:w.isSome with
  |true=>exact aj.2 (k _ _ ⟨rfl,rfl⟩)
  |false=>
   refine aA.2 ⟨_,rfl,s,dI (i:=3) d,k _ _ ⟨decide_eq_false ?_,rfl⟩⟩;rw[hwS]at c;rcases c with c|c
   ·cases c
   ·omega
 ·rintro t m ⟨rfl,rfl⟩
  refine aj.2 ⟨_,rfl,s,dI (i:=3) d,K9 g j (kJ hc) (fun i hi b sl o y f=>?_) u⟩
  refine yK _ ?_;unfold qO;exact q _ (aY hi) o f
theorem Mw:∀{F:Fo},fU F→∀n∈F.toL,abU n
 | .nil,_,n,a=>by simp[Fo.toL]at a
 | .cons lab w kids rest,h,n,a=>by
  rcases aB.1 a with rfl|a
  ·exact aaa h.2.2.1 h.2.1 (Mw h.2.2.1)
  ·exact Mw h.2.2.2.2 n a
theorem PH{W:Nat→Prop}{h:af}{b:Nat}{l:List Pr}(t:RadAt W h b l){K:Bool→af→Prop}(k:K true h):HC PG wh [.pointer (some ⟨b,0,none⟩)] [.c .bool] K h:=by
 obtain⟨w,F,r,hc,_⟩:=t.ex;obtain⟨val,s,ow,ks,a,hv,d,m,j⟩:=r;have f:=rB.1 j;refine JB (some ⟨b,0,none⟩) ?_;unfold A0 bo aK;refine aA.2 ⟨_,rfl,_,dI (i:=0) a,?_⟩;rw[beq_self_eq_true];refine aA.2 (G6 a d f hc (aA.2 ⟨_,rfl,s,dI (i:=3) a,K9 d f (kJ hc) (fun i hi b sl g n c=>?_) k⟩))
 refine F5 _ ?_;unfold yw;exact Mw hc _ (aY hi) g c
theorem Tc{W:Nat→Prop}{x:Hs}{h:af}{d:Int}{t:Tr}{l:List Pr}(i:TreeIs W h d x t l)(tb:Tab h)(j:cA l)(k:l.length≤60000){K:Bool→af→Prop}(g:∀h',Upd No h h'→K true h'):HC PG qh [Jb t] [.c .bool] K h:=by
 refine De t ?_;unfold vy aq yg bD aQ rF yM ci;refine aN fun n b1 k1=>⟨_,vc b1 0,?_⟩
 rcases i with⟨_,b,rfl,t⟩|⟨_,b,rfl,t⟩
 ·refine aj.2 ⟨_,ga b1 1 0,_,ga b1 1 1,_,ga b1 1 2,_,vc b1 0,_,vc b1 1,_,vc b1 2,_,vc b1 3,_,vc b1 4,_,vc b1 5,?_⟩
  refine J0 (TrieAt.upd0 k1 t) fun s f=>⟨⟨ga (f.get0 b1) 1 0,ga (f.get0 b1) 1 1,ga (f.get0 b1) 1 2⟩,?_⟩
  refine Jx (x.k0,x.k1,x.mask) _ ?_;unfold AW aq CC yg;refine aN fun u b3 m=>aj.2 ⟨_,vc b3 0,_,vc b3 1,_,vc b3 2,?_⟩
  have a:=(k1.tr f).tr m;refine WM 13 (ao _) (sw:=⟨none,0,0⟩) (way:= []) (TrieAt.upd0 a t) (tb.upd a id) (Sl.nil ZF) (ao _) rfl (fun p _ i c hc=>by simp at hc) j k fun q o=>?_
  exact g q (a.tr o)
 ·refine aA.2 ⟨_,vc b1 5,PH (t.upd0 k1) (g n k1)⟩
end Go.Proofs
namespace Go.Proofs
open Go Go.Lift
end Go.Proofs
namespace Go.Proofs
open Go Go.Lift
theorem NM:∀F:Fo,(Ap F).length=(F.toL.map fun n=>(ng n.2.1 n.2.2).length).sum
 | .nil=>rfl
 | .cons lab w kids rest=>by
  rw[Kr,Fo.toL_cons,cG,kS,←NM rest,ad,bF];rfl
def aai(n:Bn):Prop:=∀{W:Nat→Prop} {h:af} {b:Nat} {sl:ByteArray},RxN W h b sl n.2.1 n.2.2→(ng n.2.1 n.2.2).length≤1000000000→∀{K:Int→af→Prop},(∀h',Upd No h h'→K (((ng n.2.1 n.2.2).length:Nat):Int) h')→HC PG uZ [.pointer (some ⟨b,0,none⟩)] [.c (.int .i64)] K h
theorem Sb{lab:List UInt8}{w:Option ByteArray}{F:Fo}(Q:F.toL.length≤256)(S:∀n∈F.toL,aai n):aai (lab,w,F):=by
 intro W h b sl r J K H;simp only at r J H;refine OJ (some ⟨b,0,none⟩) ?_;unfold FH bH cS;have d:(ng w F).length=(w.map fun v=>(([]:List UInt8),v)).toList.length+(F.toL.map fun n=>(ng n.2.1 n.2.2).length).sum:=by
  rw[←NM,←ad];rfl
 refine Join.intro (fun t D=>t=(((w.map fun v=>(([]:List UInt8),v)).toList.length:Nat):Int)∧D=h) (fun R E=>?_) ?_
 ·refine G5 r fun v _=>?_
  cases w with
  |none=>exact aj.2 (E _ _ ⟨rfl,rfl⟩)
  |some u=>exact aA.2 (E _ _ ⟨rfl,rfl⟩)
 ·rintro t D ⟨rfl,rfl⟩
  generalize (w.map fun v=>(([]:List UInt8),v)).toList.length=c0 at d
  refine Ke r Q fun s1 p ks q g k1=>?_
  have j:Sl m9 1 No p s1 ks:=q.sl fun _ _ _ h=>h
  have f:=j.len;rw[g.1]at f;refine LoopP.ghost (fun(i:Nat) (t:Int×Int) m=>t.1=((c0+((F.toL.take i).map fun n=>(ng n.2.1 n.2.2).length).sum:Nat):Int)∧t.2=(i:Int)∧i≤F.toL.length∧Upd No p m) (fun i=>F.toL.length-i) 0 ⟨by simp,rfl,bj _,Upd.refl _ _⟩ ?_
  rintro I i ⟨T,ti⟩ m ⟨G,C,hi,k⟩ M;simp only at G C;subst G C;have s:∀i,((F.toL.take i).map fun n=>(ng n.2.1 n.2.2).length).sum≤(F.toL.map fun n=>(ng n.2.1 n.2.2).length).sum:=fun i=>by
   conv=>rhs;rw[←List.take_append_drop i F.toL,bU,ia]
   omega
  refine aM (fun c=>?_) fun z=>?_
  ·have c:i<F.toL.length:=by have:(i:Int)<(s1.len:Int):=c;omega
   obtain⟨N,O,A,_,y⟩:=(g.upd0 k).at c;obtain⟨a,P,_,hv⟩:=(j.upd k fun _ h=>h.elim).at0 A
   refine⟨⟨by simp only;omega,by simp only;omega⟩,a,P,some ⟨N,0,none⟩,hv,?_⟩
   have L:((F.toL.take (i+1)).map fun n=>(ng n.2.1 n.2.2).length).sum=((F.toL.take i).map fun n=>(ng n.2.1 n.2.2).length).sum+(ng F.toL[i].2.1 F.toL[i].2.2).length:=by
    rw[bW c,bU,ia];simp
   have p:=s (i+1);refine S _ (aY c) y (by omega) fun V o=>?_
   rw[cO c (by omega)];have e:IntKind.wrap .i64 (((c0+((F.toL.take i).map fun n=>(ng n.2.1 n.2.2).length).sum:Nat):Int)+((ng F.toL[i].2.1 F.toL[i].2.2).length:Int))=((c0+((F.toL.take (i+1)).map fun n=>(ng n.2.1 n.2.2).length).sum:Nat):Int):=by
    rw[jj (by omega)];omega
   rw[e];exact M (i+1) _ _ ⟨rfl,rfl,c,k.tr o⟩ (by omega)
  ·have B:i=F.toL.length:=by have:¬(i:Int)<(s1.len:Int):=z;omega
   subst B;rw[cp,←d];exact H m (k1.tr k)
theorem Hw:∀{F:Fo},fU F→∀n∈F.toL,aai n
 | .nil,_,n,a=>by simp[Fo.toL]at a
 | .cons lab w kids rest,h,n,a=>by
  rcases aB.1 a with rfl|a
  ·exact Sb (kJ h.2.2.1) (Hw h.2.2.1)
  ·exact Hw h.2.2.2.2 n a
theorem Vg{W:Nat→Prop}{x:Hs}{h:af}{t:Tr}{l:List Pr}(i:TreeIs W h 1 x t l)(d:cA l)(o:l.length≤60000){K:Int→af→Prop}(f:∀h',Upd No h h'→K (l.length:Int) h'):HC PG km [Jb t] [.c (.int .i64)] K h:=by
 refine yo t ?_;unfold sQ bD aQ rF;rcases i with⟨e,_⟩|⟨_,b,rfl,t⟩
 ·cases e
 refine aN fun p b1 k1=>⟨_,vc b1 0,aA.2 ⟨_,vc b1 5,?_⟩⟩
 obtain⟨w,F,j,c,n⟩:=(t.upd0 k1).ex;have g:=Gi c d n;have a:=congrArg eL g;unfold GP at a;rw[bF]at a;refine Sb (lab:= []) (kJ c) (Hw c) j (by simp only;omega) fun k m=>?_
 simp only;rw[a];exact f k (k1.tr m)
theorem Vh{t:Tr}{h:af}{K:Int→af→Prop}(a:∀h',Upd No h h'→K t.1 h'):HC PG ra [Jb t] [.c (.int .i64)] K h:=by
 refine EE t ?_;unfold wZ bD rF;exact aN fun b b1 k1=>⟨_,vc b1 0,a b k1⟩
end Go.Proofs
namespace Go.Proofs
open Go Go.Lift
theorem KD:∀{x y:List UInt8} {i:Nat} {a b:UInt8},(∀j,j<i→x[j]? =y[j]?)→x[i]? =some a→y[i]? =some b→a≠b→Op.bytesLess x y=decide (a.toNat<b.toNat)
 | [],_,_,_,_,_,h,_,_=>by simp at h
 |_::_,[],_,_,_,_,_,h,_=>by simp at h
 |c::x,d::y,0,a,b,_,h1,h2,hne=>by
  simp only[cB,bQ.injEq]at h1 h2;subst h1 h2;simp only[Op.bytesLess];rw[beq_false_of_ne hne];simp[UInt8.lt_iff_toNat_lt]
 |c::x,d::y,i+1,a,b,he,h1,h2,hne=>by
  have e:=he 0 (by omega);simp only[cB,bQ.injEq]at e;subst e;simp only[List.getElem?_cons_succ]at h1 h2;simp only[Op.bytesLess];rw[KD (i:=i) (fun j f=>by simpa using he (j+1) (by omega)) h1 h2 hne]
  simp[UInt8.lt_irrefl]
theorem KC:∀{x y:List UInt8} {i:Nat},(∀j,j<i→x[j]? =y[j]?)→i≤x.length→i≤y.length→(i=x.length∨i=y.length)→Op.bytesLess x y=decide (x.length<y.length)
 | [],[],_,_,_,_,_=>by simp[Op.bytesLess]
 | [],_::_,_,_,_,_,_=>by simp[Op.bytesLess]
 |_::_,[],_,_,_,_,_=>by simp[Op.bytesLess]
 |c::x,d::y,0,_,_,_,h=>by simp at h
 |c::x,d::y,i+1,he,h1,h2,h3=>by
  have e:=he 0 (by omega);simp only[cB,bQ.injEq]at e;subst e;simp only[Op.bytesLess];rw[KC (i:=i) (fun j a=>by simpa using he (j+1) (by omega)) (by simpa using h1) (by simpa using h2) (by simpa using h3)]
  simp[UInt8.lt_irrefl]
theorem ND{a b:ByteArray}(E:a.size≤1000000){h:af}{K:Bool→af→Prop}(B:K (decide (kl a b)) h):HC PG xP [.string a,.string b] [.c .bool] K h:=by
 refine Ra a b ?_;unfold IK;have D:a.data.toList.length=a.size:=by simp
 have C:b.data.toList.length=b.size:=by simp
 have f:∀{p:Prop} [Decidable p],Op.bytesLess a.data.toList b.data.toList=decide p→K (decide p) h:=fun{p} _ e=>by
  have:decide (kl a b)=decide p:=by
   rw[←e,←ByteArray.toList_eq,←ByteArray.toList_eq];exact Bool.eq_iff_iff.2 (by rw[decide_eq_true_iff];exact Iff.rfl)
  rw[←this];exact B
 refine LoopP.ghost (fun(i:Nat) (t:Int) n=>t=(i:Int)∧i≤a.size∧i≤b.size∧n=h∧∀j,j<i→a.data.toList[j]? =b.data.toList[j]?) (fun i=>a.size-i) 0 ⟨rfl,bj _,bj _,rfl,fun j u=>absurd u (Nat.not_lt_zero _)⟩ ?_
 rintro I i t n ⟨rfl,A,z,rfl,k⟩ y;refine Join.intro (fun t o=>t=decide (i<a.size∧i<b.size)∧o=n) (fun R v=>?_) ?_
 ·refine aM (fun c=>v _ _ ⟨?_,rfl⟩) fun m=>v _ _ ⟨?_,rfl⟩
  ·rw[decide_eq_decide];omega
  ·rw[eq_comm,decide_eq_false_iff_not];omega
 ·rintro t o ⟨rfl,rfl⟩
  refine aM (fun c=>?_) fun m=>?_
  ·have w:a.data.toList[i]? =some a[i]:=by rw[←Og,getElem?_pos a i c.1]
   have s:b.data.toList[i]? =some b[i]:=by rw[←Og,getElem?_pos b i c.2]
   refine⟨a[i],by omega,by rw[aX,getElem?_pos a i c.1],b[i],by omega,by rw[aX,getElem?_pos b i c.2],?_⟩
   refine CondP.intro (fun g=>?_) fun d=>?_
   ·refine⟨a[i],by omega,by rw[aX,getElem?_pos a i c.1],b[i],by omega,by rw[aX,getElem?_pos b i c.2],?_⟩
    refine f ?_;rw[KD k w s fun e=>by rw[e]at g;simp at g]
    rw[decide_eq_decide];omega
   ·have d:a[i]=b[i]:=by
     have:((a[i].toNat:Int))=(b[i].toNat:Int):=by simpa using d
     exact UInt8.toNat_inj.1 (by omega)
    rw[cO c.1 (by omega)];refine y (i+1) _ _ ⟨rfl,by omega,by omega,rfl,fun j u=>?_⟩ (by omega)
    rcases bO j i with q|q
    ·exact k j q
    ·have:j=i:=by omega
     subst this;rw[w,s,d]
  ·refine f ?_
   rw[KC k (by omega) (by omega) (by omega),decide_eq_decide];omega
theorem NG{W:Nat→Prop}{h:af}{s:SliceV}{l:List Pr}(B:Sl fe 2 W h s l)(L:l.length≤1000000)(k:ByteArray){K:SliceV→af→Prop}
  (F:∀s' d,OwnS fe 2 cn (fun y=>h.size≤y) d s' (l.filter fun p=>decide (p.1≠k))→Upd No h d→K s' d):HC PG xQ [.slice s.a s.len s.cap,.string k] [.c .slice] K h:=by
 refine Rc s k ?_;unfold IM cS bo aD nv jm lf;have A:=B.len;refine LoopP.ghost (fun(i:Nat) (t:SliceV×Int) d=>t.2=(i:Int)∧i≤l.length∧OwnS fe 2 cn (fun y=>h.size≤y) d t.1 ((l.take i).filter fun p=>decide (p.1≠k))∧Upd No h d) (fun i=>l.length-i) 0 ⟨rfl,bj _,by simpa using OwnS.nil jx,Upd.refl _ _⟩ ?_
 rintro I i ⟨H,ti⟩ d ⟨C,hi,n,g⟩ D;simp only at C n;subst C;refine aM (fun b=>?_) fun w=>?_
 ·have b:i<l.length:=by have:(i:Int)<(s.len:Int):=b;omega
  obtain⟨a,E,_,hv⟩:=(B.upd g fun _ h=>h.elim).at (ag b)
  have q:((l.take i).filter fun p=>decide (p.1≠k)).length≤l.length:=bv (gh ..) (by rw[aP];omega)
  refine Join.intro (fun t j=>OwnS fe 2 cn (fun y=>h.size≤y) j t ((l.take (i+1)).filter fun p=>decide (p.1≠k))∧Upd No h j) (fun R f=>⟨⟨by simp only;omega,by simp only;omega⟩,a,E,l[i].1,hv 0 _ rfl,l[i].2,hv 1 _ rfl,?_⟩) ?_
  ·refine tf (p:=l[i]) fun j b2 m=>⟨_,vc b2 0,?_⟩
   have c:=n.upd m fun _ _ h=>h
   rw[bW b,List.filter_append,List.filter_cons,List.filter_nil]at f;rw[jq];by_cases e:l[i].1=k
   ·rw[decide_eq_true e]
    rw[decide_eq_false (not_not_intro e)]at f;rw[if_neg (by simp),bB]at f;exact aj.2 (f _ _ ⟨c,g.tr m⟩)
   ·rw[decide_eq_false e]
    rw[decide_eq_true e,if_pos rfl]at f;refine aA.2 ⟨_,vc b2 0,_,vc b2 1,ce ?_⟩;refine zu (p:=l[i]) c (fun y v=>bv (g.tr m).size v) (bv (Nat.add_le_add_right q 1) (by omega)) fun s3 J u o=>f _ _ ⟨u,(g.tr m).trans o fun y v=>.inr v⟩
  ·rintro t j ⟨c,z⟩
   rw[cO b (by omega)];exact D (i+1) _ _ ⟨rfl,b,c,z⟩ (by omega)
 ·have G:i=l.length:=by have:¬(i:Int)<(s.len:Int):=w;omega
  rw[bJ (by omega)]at n;exact F _ _ n g
theorem X1{W:Nat→Prop}{h:af}{s:SliceV}{l:List Pr}(hs:Sl fe 2 W h s l)(hr:cA l)(hn:l.length≤1000000)(p:Pr)(hp:p.1.size≤1000000){K:SliceV→af→Prop}
  (hk:∀s' u,OwnS fe 2 cn (fun y=>h.size≤y) u s' (iV p l)→Upd No h u→K s' u):HC PG Es [.slice s.a s.len s.cap,.agg #[.string p.1,.string p.2]] [.c .slice] K h:=by
 refine Uv s p ?_;unfold Lj cS bo aD nv Cl tc jm lf;refine aN fun h1 b1 k1=>⟨p.1,vc b1 0,?_⟩
 refine NG (hs.upd k1 fun _ h=>h.elim) hn p.1 fun s4 w J k4=>?_
 rw[←KL hr]at hk;have hrf:cA (l.filter fun q=>decide (q.1≠p.1)):=hr.sublist List.filter_sublist
 have hnl:(l.filter fun q=>decide (q.1≠p.1)).length≤1000000:=bv (gh ..) hn
 have V:∀q∈l.filter fun q=>decide (q.1≠p.1),q.1≠p.1:=fun q v=>of_decide_eq_true (List.mem_filter.1 v).2
 generalize l.filter (fun q=>decide (q.1≠p.1))=L at hk J hrf hnl V
 have D:=k1.tr k4;have T:Sl fe 2 No w s4 L:=J.sl fun _ _ _ h=>h
 have hlen:=T.len;have z4:=D.size;refine LoopP.ghost (fun(g:Nat×Bool) (t:SliceV×Bool×Int) u=>t.2.2=(g.1:Int)∧t.2.1=g.2∧g.1≤L.length∧(∃out,OwnS fe 2 cn (fun y=>w.size≤y) u t.1 out∧out.length≤g.1+1∧(g.2=false→out=L.take g.1∧∀q∈L.take g.1,kl q.1 p.1)∧(g.2=true→out=iV p (L.take g.1)∧∃q∈L.take g.1,kl p.1 q.1))∧Upd No w u) (fun g=>L.length-g.1) (0,false) ⟨rfl,rfl,bj _,⟨[],OwnS.nil jx,by simp,fun _=>⟨by simp,by simp⟩,fun h=>by cases h⟩,Upd.refl _ _⟩ ?_
 rintro I ⟨i,pl⟩ ⟨so,Z,ti⟩ u ⟨e1,e2,hi,⟨out,X,P,hf,ht⟩,z⟩ hI;simp only at e1 e2 hi X P hf ht;subst e1 e2;have b':=z.get0 (k4.get0 b1);refine aM (fun f=>?_) fun hge=>?_
 ·have f:i<L.length:=by have:(i:Int)<(s4.len:Int):=f;omega
  obtain⟨a,ha,_,hv⟩:=(T.upd z fun _ h=>h.elim).at (ag f)
  have d:=bW f;have S:L[i]∈L:=aY f;refine Join.intro (fun t F=>(∃out,OwnS fe 2 cn (fun y=>w.size≤y) F t.1 out∧out.length≤i+1+1∧(t.2=false→out=L.take (i+1)∧∀q∈L.take (i+1),kl q.1 p.1)∧(t.2=true→out=iV p (L.take (i+1))∧∃q∈L.take (i+1),kl p.1 q.1))∧Upd No w F) (fun R hR=>⟨⟨by simp only;omega,by simp only;omega⟩,a,ha,L[i].1,hv 0 _ rfl,L[i].2,hv 1 _ rfl,?_⟩) ?_
  ·refine tf (p:=L[i]) fun F b2 k2=>?_
   have o:=X.upd k2 fun _ _ h=>h
   have n:=z.tr k2;have zb:=aL b2;have z2:=z.size;have hoM:=(X.within.upd k2 fun _ _ h=>h).more (M':=fun y=>(w.size≤y∧y<u.size)∨F.size≤y) fun y b=>.inl b
   have c2:=k2.get0 b';refine Join.intro (fun t C=>(∃out,OwnS fe 2 cn (fun y=>w.size≤y) C t.1 out∧out.length≤i+1∧(t.2=false→out=L.take i∧∀q∈L.take (i+1),kl q.1 p.1)∧(t.2=true→out++ [L[i]]=iV p (L.take (i+1))∧∃q∈L.take (i+1),kl p.1 q.1))∧C[u.size]? =some (.cells #[.string L[i].1,.string L[i].2] cn (0,0))∧Upd No w C) (fun R2 E=>?_) ?_
   ·refine Join.intro (fun t C=>t=(!Z&&decide (kl p.1 L[i].1))∧C=F) (fun R3 G=>?_) ?_
    ·cases Z with
     |false=>exact aA.2 ⟨p.1,vc c2 0,L[i].1,vc b2 0,ND hp (G _ _ ⟨by simp,rfl⟩)⟩
     |true=>exact aj.2 (G _ _ ⟨by simp,rfl⟩)
    ·rintro t C ⟨rfl,rfl⟩
     cases Z with
     |true=>
      obtain⟨e,q,v,Q⟩:=ht rfl;refine aj.2 (E _ _ ⟨⟨out,o,P,fun h=>(by cases h),fun _=>?_⟩,b2,n⟩)
      rw[d,e];exact⟨(N9 ⟨q,v,Q⟩).symm,q,dQ _ v,Q⟩
     |false=>
      obtain⟨e,c⟩:=hf rfl;subst e;by_cases k:kl p.1 L[i].1
      ·rw[decide_eq_true k]
       refine aA.2 ⟨p.1,vc c2 0,p.2,vc c2 1,ce ?_⟩;refine zu (p:=p) hoM (fun y b=>.inr b) (by rw[aP];omega) fun s5 h5 m j=>E _ _ ⟨⟨_,m.more (fun y b=>by rcases b with b|b<;>omega),by rw[ad,aP,aF];omega,fun h=>(by cases h),fun _=>?_⟩,j.get b2 (by rintro(hx|hx)<;>omega),n.trans j fun y b=>.inr (by rcases b with b|b<;>omega)⟩
       ·rw[d,HG c]
        refine⟨?_,L[i],fy _ (au.2 rfl),k⟩;rw[az,N7 (l:= [L[i]]) fun q v=>by rw[au.1 v];exact k]
        rfl
      ·rw[decide_eq_false k]
       have v:kl L[i].1 p.1:=sH k fun e=>V _ S e.symm
       refine aj.2 (E _ _ ⟨⟨_,o,by rw[aP];omega,fun _=>⟨rfl,fun q Y=>?_⟩,fun h=>(by cases h)⟩,b2,n⟩)
       rw[d]at Y;rcases bM.1 Y with h|h
       ·exact c q h
       ·rw[au.1 h];exact v
   ·rintro⟨t1,t2⟩ C ⟨⟨out3,M,hol3,O,N⟩,b3,H⟩
    simp only at M O N;refine⟨_,vc b3 0,_,vc b3 1,ce ?_⟩;refine zu (p:=L[i]) M (fun y b=>bv H.size b) (by omega) fun s5 h5 m j=>hR _ _ ⟨⟨_,m,by rw[ad,aF];omega,fun h=>?_,fun h=>N h⟩,H.trans j fun y b=>.inr b⟩
    obtain⟨e,c⟩:=O h;exact⟨by rw[e,d],c⟩
  ·rintro⟨t1,t2⟩ F ⟨o,n⟩
   rw[cO f (by omega)];exact hI (i+1,t2) _ _ ⟨rfl,rfl,f,o,n⟩ (by simp only;omega)
 ·have hil:i=L.length:=by have:¬(i:Int)<(s4.len:Int):=hge;omega
  subst hil;rw[cp]at hf ht;cases Z with
  |true=>
   obtain⟨e,_⟩:=ht rfl;subst e;exact aj.2 (hk _ _ (X.more fun y b=>bv z4 b) (D.tr z))
  |false=>
   obtain⟨e,c⟩:=hf rfl;subst e;refine aA.2 ⟨p.1,vc b' 0,p.2,vc b' 1,ce ?_⟩;refine zu (p:=p) X (fun y b=>bv z.size b) (by omega) fun s5 h5 m j=>hk _ _ ?_ ((D.tr z).trans j fun y b=>.inr (bv z4 b))
   have:=HG (p:=p) (A:=out) (B:= []) c;rw[bB]at this;rw[this];exact m.more fun y b=>bv z4 b
end Go.Proofs
