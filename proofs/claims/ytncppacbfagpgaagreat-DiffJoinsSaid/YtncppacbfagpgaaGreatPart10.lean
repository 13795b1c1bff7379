/- A part of the proof that the named laws of this program answer true, whatever the input. -/
import Derived.Test.YtncppacbfagpgaaGreatPart9
import Derived.Test.YtncppacbfagpgaaGreatPart8
import Derived.Test.YtncppacbfagpgaaGreatPart6
import Derived.Test.YtncppacbfagpgaaGreatPart3
import Derived.Sort.AssemblyPlain
namespace Go.Proofs
open Go Go.Lift
open Bool renaming false_ne_true→oN,and_eq_true→bd
open Int renaming tdiv→mG
open IntKind renaming wrap→ac
open List renaming take_take→gr,take_succ_eq_append_getElem→bh,getElem?_eq_getElem→ai,take_length→bR,append_nil→aL,length_nil→aD,length_cons→ao,length_append→ad,mem_cons_self→ax,mem_cons_of_mem→aF,pairwise_cons→az,mem_cons→aB,eq_nil_iff_forall_not_mem→kh,drop_eq_getElem_cons→eh,any_eq_true→bT,length_take→aI,getElem_mem→bF
open List.Pairwise renaming nil→eO
open Nat renaming min_eq_right→ga,min_eq_left→bG,le_trans→bJ,le_refl→au,zero_le→bf,lt_of_lt_of_le→aJ
open Option renaming map_some→iw,map_map→sQ
abbrev T0(s:ByteArray):List Value:= [.string s]
def rt(L:List Pr)(g:List ByteArray):List Pr:=(g.take 15).foldl (fun acc s=>nr (rx s) acc) L
theorem KW{L:List Pr}{g:List ByteArray}{i:Nat}(hi:i<g.length)(h15:i<15):rt L (g.take (i+1))=nr (rx g[i]) (rt L (g.take i)):=by
 unfold rt;rw[gr,gr,ga (by omega),ga (by omega),bh hi,List.foldl_append];rfl
theorem KY{L:List Pr}{g:List ByteArray}{i:Nat}(h15:15≤i):rt L (g.take (i+1))=rt L (g.take i):=by
 unfold rt;rw[gr,gr,bG (by omega),bG (by omega)]
theorem Few.del{n:Nat}{L:List Pr}(f:Few n L)(k:ByteArray):Few n (nr k L):=⟨rises_del f.up,bJ Q2 f.len,fun p hp=>f.fit p (IL.1 hp).1⟩
theorem E7{n:Nat}{L:List Pr}(f:Few n L)(g:List ByteArray):Few n (rt L g):=by
 unfold rt;generalize g.take 15=m;induction m generalizing L with
 |nil=>exact f
 |cons s m ih=>rw[List.foldl_cons];exact ih (f.del _)
theorem Kh{W:Nat→Prop}{x:Hs}{h:af}{kind:Int}{r:Rt}{l:List Pr}(i:RefIs W h kind x r l)(hW:∀y,W y→y<h.size)(hr:bU l)(hf:Fit l)(hn:l.length≤1000000)(k:ByteArray)(hk1:k.size≤256){K:Rt×Int→af→Prop}
  (hk:∀h' r' e,RefIs W h' kind x r'(nr k l)→Upd No h h'→K(r',e) h'):HC PG ug [Uf r,.string k] [.agg [.int .i64,.int .u64,.int .u64,.int .u64,.slice],.c (.int .i64)] K h:=by
 refine Gu r k ?_;unfold yk aj;refine bH fun h1 b1 k1=>bH fun h2 b2 k2=>?_
 have z1:=bD b1;have z2:=bD b2;have s1:h.size≤h1.size:=k1.size;have k02:=k1.tr k2;have v1:=k2.get0 b1;obtain⟨s,rfl,hs⟩:=i;refine ay (fun h=>absurd h (by omega))fun _=>?_
 refine⟨s,vc v1 4,R8 (hs.upd k02 fun _ h=>h.elim) hr hf hn k fun v=>?_⟩
 refine CondP.intro (fun hb=>?_)fun hb=>?_
 ·have hno:cp l k=false:=by simpa using hb
  refine⟨_,vc v1 0,_,vc v1 1,_,vc v1 2,_,vc v1 3,s,vc v1 4,?_⟩;refine dd (c:=ww Qs) (vs:=ww (kind,hx kind x.k0,hx kind x.k1,hx kind x.mask,s)) b2 rfl fun h6 v6 hu6=>?_
  refine⟨_,vc v6 0,_,vc v6 1,_,vc v6 2,_,vc v6 3,s,vc v6 4,?_⟩;refine hk h6 (kind,hx kind x.k0,hx kind x.k1,hx kind x.mask,s) 4 ⟨s,rfl,?_⟩ (k02.own hu6 s1);rw[w9 (zC hno)];exact hs.upd (k02.own hu6 s1)fun _ h=>h.elim
 ·refine⟨s,vc v1 4,Kk (hs.upd k02 fun _ h=>h.elim) hn k fun s4 h4 ho4 hu4=>?_⟩
  refine ut (i:=4) (c':=(ww (kind,hx kind x.k0,hx kind x.k1,hx kind x.mask,s4)).toArray) (hu4.get0 v1) (show 4<5 by decide) rfl fun h5 v5 hu5=>?_
  refine⟨_,vc v5 0,_,vc v5 1,_,vc v5 2,_,vc v5 3,s4,vc v5 4,?_⟩;refine dd (c:=ww Qs) (vs:=ww (kind,hx kind x.k0,hx kind x.k1,hx kind x.mask,s4)) (hu5.oth (hu4.get0 b2) (by omega)) rfl fun h6 v6 hu6=>?_
  refine⟨_,vc v6 0,_,vc v6 1,_,vc v6 2,_,vc v6 3,s4,vc v6 4,?_⟩;have ho6:=(ho4.upd hu5 fun y hy e=>by have e:y=h.size:=e;omega).upd hu6 fun y hy e=>by have e:y=h1.size:=e;omega
  refine hk h6 (kind,hx kind x.k0,hx kind x.k1,hx kind x.mask,s4) 0 ⟨s4,rfl,ho6.sl fun y hy _ hw=>by have:=hW y hw;omega⟩ (((k02.tr hu4).own hu5 (au _)).own hu6 (by omega))
set_option maxHeartbeats 1000000 in
theorem E4{W:Nat→Prop}{x:Hs}{h:af}{s sg:SliceV}{l L0 R0:List Pr}{g:List ByteArray}{kind:Int}{t:Tr}{r:Rt}{n:Nat}(it:TreeIs W h kind x t L0)(jr:RefIs W h kind x r R0)(fw0:Few n L0)(fr0:Few n R0)(hn0:n≤1000)(hs:Sl ee 2 W h s l)(hg:Sl T0 1 W h sg g)(hW:∀y,W y→y<h.size)(hn:l.length≤9223372036854775807)(hgn:g.length≤9223372036854775807){K:Tr×Rt→af→Prop}
  (hk:∀h' t' r',TreeIs W h' kind x t'(rt(iK L0 l) g)→RefIs W h' kind x r'(rt(iK R0 l) g)→Upd No h h'→K(t',r') h'):
  HC PG qK [LZ t,Uf r,.slice s.a s.len s.cap,.slice sg.a sg.len sg.cap] [.agg [.int .i64,.int .u64,.int .u64,.int .u64,.ptr,.ptr],.agg [.int .i64,.int .u64,.int .u64,.int .u64,.slice]] K h:=by
 refine Lq t r s sg ?_;unfold Ds aj bP;refine bH fun h1 b1 k1=>bH fun h2 b2 k2=>bH fun h3 b3 k3=>bH fun hL b4 k4=>?_
 have z1:=bD b1;have z2:=bD b2;have z3:=bD b3;have z4:=bD b4;have s1:h.size≤h1.size:=k1.size;have s2:h1.size≤h2.size:=k2.size;have s3:h2.size≤h3.size:=k3.size;have s4:=k4.size;have kL:Upd No h hL:=((k1.tr k2).tr k3).tr k4;have t0:=k4.get0 (k3.get0 (k2.get0 b1));have x0:=k4.get0 (k3.get0 b2);have rL1:=k4.get0 b3;have rL2:=b4;have iL:=it.pro kL;have jL:RefIs (Pro W h hL) hL kind x r R0:=(jr.less (W':=Pro W h hL) Pro.hm).upd0 kL
 have hWL:=Pro.lt hW kL;have hPt:Pro W h hL h.size:=.inr (by omega);have hPx:Pro W h hL h1.size:=.inr (by omega);have hP1:Pro W h hL h2.size:=.inr (by omega);have hP2:Pro W h hL h3.size:=.inr (by omega);have hlen:=hs.len;refine LoopP.ghost (fun(i:Nat) (ti:Int) h'=>ti=(i:Int)∧i≤l.length∧(∃tv rv,TreeIs (Pro W h hL) h' kind x tv (iK L0 (l.take i))∧RefIs (Pro W h hL) h' kind x rv (iK R0 (l.take i))∧h'[h.size]?=some (.cells (pX tv).toArray bE (0,0))∧h'[h1.size]?=some (.cells (ww rv).toArray dH (0,0)))∧Upd (fun y=>y=h.size∨y=h1.size) hL h') (fun i=>l.length-i) 0 ⟨rfl,bf _,⟨t,r,iL,jL,t0,x0⟩,Upd.refl _ _⟩ ?_
 rintro I i ti h' ⟨rfl,hi,⟨tv,rv,it,jr,bt,bx⟩,hu⟩ hI;have hus:=hu.size;have hu0:Upd No h h':=kL.trans hu fun y hy=>.inr (by rcases hy with rfl|rfl<;>omega)
 refine ay (fun hlt=>?_)fun hge=>?_
 ·have hlt:i<l.length:=by omega
  obtain⟨a,ha,_,hv⟩:=(hs.upd hu0 fun _ h=>h.elim).at (ai hlt)
  refine Join.intro (fun _ h2'=>(∃tv rv,TreeIs (Pro W h hL) h2' kind x tv (iK L0 (l.take (i+1)))∧RefIs (Pro W h hL) h2' kind x rv (iK R0 (l.take (i+1)))∧h2'[h.size]?=some (.cells (pX tv).toArray bE (0,0))∧h2'[h1.size]?=some (.cells (ww rv).toArray dH (0,0)))∧Upd (fun y=>y=h.size∨y=h1.size) hL h2') (fun R hR=>⟨⟨by omega,by omega⟩,a,ha,l[i].1,hv 0 _ rfl,l[i].2,hv 1 _ rfl,?_⟩) ?_
  ·refine zS (p:=l[i])fun h28 b28 k28=>?_
   have z28:=bD b28;have nt:h'.size≠h.size:=by omega
   have nx:h'.size≠h1.size:=by omega
   refine ay (fun h25=>?_)fun h25=>?_
   ·have h25:i<25:=by omega
    rw[HH hlt h25,HH hlt h25]at hR;obtain⟨q1,e1⟩:=Pt l[i].1;obtain⟨q2,e2⟩:=Pt l[i].2;refine⟨_,vc b28 0,_,vc b28 0,q1,?_⟩;simp only[Bd];refine⟨_,vc b28 1,_,vc b28 1,q2,?_⟩;rw[e1,e2];refine ut (c':= #[.string (rx l[i].1),.string l[i].2]) b28 (by simp) rfl fun h29 b29 hu29=>?_
    refine ut (c':= #[.string (rx l[i].1),.string (rx l[i].2)]) b29 (by simp) rfl fun h35 b35 hu35=>?_
    have k35:Upd No h' h35:=(k28.own hu29 (au _)).own hu35 (au _);have t35:=k35.get0 bt;have x35:=k35.get0 bx;have s35:=k35.size;have fw:=qb fw0 (l.take i);have fl:=fw.len;have gw:=qb fr0 (l.take i);have gl:=gw.len;have p1:=mA l[i].1;have p2:=mA l[i].2;refine⟨_,vc t35 0,_,vc t35 1,_,vc t35 2,_,vc t35 3,_,vc t35 4,_,vc t35 5,_,vc b35 0,_,vc b35 1,?_⟩;refine Qg (it.upd0 k35) (fun y hy=>aJ (hWL y hy) (by omega)) fw.up (by omega) (Gj l[i]) (by unfold Gj;simp only;omega) (by unfold Gj;simp only;omega)fun h45 t' i45 _ k45=>?_
    refine dd (c:=pX tv) (vs:=pX t') (k45.get0 t35) rfl fun h46 t46 hu46=>?_
    have x46:=hu46.oth (k45.get0 x35) (by omega);have p46:=hu46.oth (k45.get0 b35) nt;have j46:=((jr.upd0 k35).upd0 k45).updM hu46 fun y hy=>.inl (by have hy:y=h.size:=hy;rw[hy];exact hPt)
    have s45:=k45.size;have s46:=hu46.size;refine⟨_,vc x46 0,_,vc x46 1,_,vc x46 2,_,vc x46 3,rv.2.2.2.2,vc x46 4,_,vc p46 0,_,vc p46 1,?_⟩;refine Qw j46 (fun y hy=>aJ (hWL y hy) (by omega)) gw.up (by omega) (Gj l[i]) (by unfold Gj;simp only;omega) (by unfold Gj;simp only;omega)fun h55 r' j55 k55=>?_
    refine dd (c:=ww rv) (vs:=ww r') (k55.get0 x46) rfl fun h56 x56 hu56=>hR _ _ ⟨⟨t',r',?_,j55.updM hu56 fun y hy=>.inl (by have hy:y=h1.size:=hy;rw[hy];exact hPx),hu56.oth (k55.get0 t46) (by omega),x56⟩,?_⟩
    ·exact((i45.updM hu46 fun y hy=>.inl (by have hy:y=h.size:=hy;rw[hy];exact hPt)).upd0 k55).updM hu56 fun y hy=>.inl (by have hy:y=h1.size:=hy;rw[hy];exact hPx)
    ·exact((((hu.tr k35.wide).tr k45.wide).trans hu46 fun y hy=>.inl (.inl hy)).tr k55.wide).trans hu56 fun y hy=>.inl (.inr hy)
   ·have h25:25≤i:=by omega
    rw[HI h25,HI h25]at hR;exact hR _ _ ⟨⟨tv,rv,it.upd0 k28,jr.upd0 k28,k28.get0 bt,k28.get0 bx⟩,hu.tr k28.wide⟩
  ·rintro _ h2' ⟨hex,hu2⟩
   rw[eu hlt hn];exact hI (i+1) _ _ ⟨rfl,hlt,hex,hu2⟩ (by omega)
 ·have hil:i=l.length:=by omega
  subst hil;rw[bR]at it jr;have y1:=hu.get rL1 (by rintro(e|e)<;>omega)
  have y2:=hu.get rL2 (by rintro(e|e)<;>omega)
  have hgl:=hg.len;have fw1:=qb fw0 l;have fr1:=qb fr0 l;generalize iK L0 l=L1 at it hk fw1;generalize iK R0 l=R1 at jr hk fr1;refine LoopP.ghost (fun(i:Nat) (ti:Int) h2'=>ti=(i:Int)∧i≤g.length∧(∃tv rv,TreeIs (Pro W h hL) h2' kind x tv (rt L1 (g.take i))∧RefIs (Pro W h hL) h2' kind x rv (rt R1 (g.take i))∧h2'[h.size]?=some (.cells (pX tv).toArray bE (0,0))∧h2'[h1.size]?=some (.cells (ww rv).toArray dH (0,0)))∧Upd (fun y=>y=h.size∨y=h1.size) hL h2') (fun i=>g.length-i) 0 ⟨rfl,bf _,⟨tv,rv,it,jr,bt,bx⟩,hu⟩ ?_
  clear hI it jr bt bx y1 y2 hu hus hu0 tv rv;rintro I2 i ti h' ⟨rfl,hi,⟨tv,rv,it,jr,bt,bx⟩,hu⟩ hI2;have hus:=hu.size;have hu0:Upd No h h':=kL.trans hu fun y hy=>.inr (by rcases hy with rfl|rfl<;>omega)
  refine ay (fun hlt=>?_)fun hge=>?_
  ·have hlt:i<g.length:=by omega
   obtain⟨a,ha,_,hv⟩:=(hg.upd hu0 fun _ h=>h.elim).at0 (ai hlt)
   refine Join.intro (fun _ h2'=>(∃tv rv,TreeIs (Pro W h hL) h2' kind x tv (rt L1 (g.take (i+1)))∧RefIs (Pro W h hL) h2' kind x rv (rt R1 (g.take (i+1)))∧h2'[h.size]?=some (.cells (pX tv).toArray bE (0,0))∧h2'[h1.size]?=some (.cells (ww rv).toArray dH (0,0)))∧Upd (fun y=>y=h.size∨y=h1.size) hL h2') (fun R hR=>⟨⟨by omega,by omega⟩,a,ha,g[i],hv,?_⟩) ?_
   ·refine ay (fun h15=>?_)fun h15=>?_
    ·have h15:i<15:=by omega
     rw[KW hlt h15,KW hlt h15]at hR;obtain⟨q1,e1⟩:=Pt g[i];refine⟨q1,?_⟩;simp only[Bd];rw[e1];refine⟨_,vc bt 0,_,vc bt 1,_,vc bt 2,_,vc bt 3,_,vc bt 4,_,vc bt 5,?_⟩;have fw:=E7 fw1 (g.take i);have fl:=fw.len;have gw:=E7 fr1 (g.take i);have gl:=gw.len;have p1:=mA g[i];refine JT it (fun y hy=>aJ (hWL y hy) (by omega)) fw.up fw.fits (by omega) (rx g[i]) (by omega)fun h45 t' i45 _ k45=>?_
     refine dd (c:=pX tv) (vs:=pX t') (k45.get0 bt) rfl fun h46 t46 hu46=>?_
     have x46:=hu46.oth (k45.get0 bx) (by omega);have j46:=(jr.upd0 k45).updM hu46 fun y hy=>.inl (by have hy:y=h.size:=hy;rw[hy];exact hPt)
     have s45:=k45.size;have s46:=hu46.size;refine⟨_,vc x46 0,_,vc x46 1,_,vc x46 2,_,vc x46 3,rv.2.2.2.2,vc x46 4,?_⟩;refine Kh j46 (fun y hy=>aJ (hWL y hy) (by omega)) gw.up gw.fits (by omega) (rx g[i]) (by omega)fun h55 r' _ j55 k55=>?_
     refine dd (c:=ww rv) (vs:=ww r') (k55.get0 x46) rfl fun h56 x56 hu56=>hR _ _ ⟨⟨t',r',?_,j55.updM hu56 fun y hy=>.inl (by have hy:y=h1.size:=hy;rw[hy];exact hPx),hu56.oth (k55.get0 t46) (by omega),x56⟩,?_⟩
     ·exact((i45.updM hu46 fun y hy=>.inl (by have hy:y=h.size:=hy;rw[hy];exact hPt)).upd0 k55).updM hu56 fun y hy=>.inl (by have hy:y=h1.size:=hy;rw[hy];exact hPx)
     ·exact(((hu.tr k45.wide).trans hu46 fun y hy=>.inl (.inl hy)).tr k55.wide).trans hu56 fun y hy=>.inl (.inr hy)
    ·have h15:15≤i:=by omega
     rw[KY h15,KY h15]at hR;exact hR _ _ ⟨⟨tv,rv,it,jr,bt,bx⟩,hu⟩
   ·rintro _ h2' ⟨hex,hu2⟩
    rw[eu hlt hgn];exact hI2 (i+1) _ _ ⟨rfl,hlt,hex,hu2⟩ (by omega)
  have hil:i=g.length:=by omega
  subst hil;rw[bR]at it jr;have y1:=hu.get rL1 (by rintro(e|e)<;>omega)
  have y2:=hu.get rL2 (by rintro(e|e)<;>omega)
  refine⟨_,vc bt 0,_,vc bt 1,_,vc bt 2,_,vc bt 3,_,vc bt 4,_,vc bt 5,_,vc bx 0,_,vc bx 1,_,vc bx 2,_,vc bx 3,rv.2.2.2.2,vc bx 4,?_⟩;refine dd (c:=pX Ig) (vs:=pX tv) y1 rfl fun h70 b70 hu70=>?_
  have x70:=hu70.oth bx (by omega);refine⟨⟨vc x70 0,vc x70 1,vc x70 2,vc x70 3,vc x70 4⟩,?_⟩;refine dd (c:=ww Qs) (vs:=ww rv) (hu70.oth y2 (by omega)) rfl fun h71 b71 hu71=>?_
  have t71:=hu71.oth b70 (by omega);refine⟨_,vc t71 0,_,vc t71 1,_,vc t71 2,_,vc t71 3,_,vc t71 4,_,vc t71 5,_,vc b71 0,_,vc b71 1,_,vc b71 2,_,vc b71 3,rv.2.2.2.2,vc b71 4,?_⟩;refine hk h71 tv rv (((it.updM hu70 fun y hy=>.inl (by have hy:y=h2.size:=hy;rw[hy];exact hP1)).updM hu71 fun y hy=>.inl (by have hy:y=h3.size:=hy;rw[hy];exact hP2)).less Pro.sub) (((jr.updM hu70 fun y hy=>.inl (by have hy:y=h2.size:=hy;rw[hy];exact hP1)).updM hu71 fun y hy=>.inl (by have hy:y=h3.size:=hy;rw[hy];exact hP2)).less Pro.sub) ((hu0.own hu70 (by omega)).own hu71 (by omega))
end Go.Proofs
namespace Go.Proofs
open Go Go.Lift
theorem M3{W:Nat→Prop}{h:af}{s:SliceV}{a:Ch}{L:List Ch}(hs:Sl jv 5 W h s(a::L)):∃A,s.a=some A∧∀hX,Upd No h hX→
  (aN hX (adr (adr A (0*5)) 0)=some (.string a.1)∧aN hX (adr (adr A (0*5)) 1)=some (.string a.2.1)∧aN hX (adr (adr A (0*5)) 2)=some (.string a.2.2.1)∧aN hX (adr (adr A (0*5)) 3)=some (.bool a.2.2.2.1)∧aN hX (adr (adr A (0*5)) 4)=some (.bool a.2.2.2.2)):=by
 obtain⟨A,ha,_,hv⟩:=hs.at (i:=0) (x:=a) rfl;exact⟨A,ha,fun hX k=>⟨k.cell0 (hv 0 _ rfl),k.cell0 (hv 1 _ rfl),k.cell0 (hv 2 _ rfl),k.cell0 (hv 3 _ rfl),k.cell0 (hv 4 _ rfl)⟩⟩
abbrev S0(h h':af)(s:SliceV)(O:List Ch):Prop:=OwnS jv 5 aM (fun y=>h.size≤y) h' s O
set_option maxRecDepth 100000 in
theorem KI{h h70:af}{t10:SliceV×SliceV×SliceV}{O:List Ch}{a b:Ch}{pa pb:Nat}{I9:SliceV×SliceV×SliceV→af→Prop}{K:SliceV×Int→af→Prop}
  (ba:h70[pa]?=some(.cells(jv a).toArray aM(0,0)))(bb:h70[pb]?=some(.cells(jv b).toArray aM(0,0)))(ho:S0 h h70 t10.2.2 O)(hO:O.length≤1000000)(hu:Upd No h h70)(h1:1≤t10.1.len)(h2:1≤t10.2.1.len)
  (hc:oT a b=false→K(⟨none,0,0⟩,8) h70)
  (hI:oT a b=true→∀s' h',S0 h h' s'(O++(one(zU a b)).toList)→Upd No h h'→I9(⟨aP t10.1.a 1 t10.1.cap 5,t10.1.len-1,t10.1.cap-1⟩,⟨aP t10.2.1.a 1 t10.2.1.cap 5,t10.2.1.len-1,t10.2.1.cap-1⟩,s') h'):
  Join(fun(t76:Bool) h77=>
  CondP t76(
  K(⟨none,0,0⟩,8) h77)(
  ∃v78:ByteArray,aN h77(adr ⟨pa,0,none⟩ 0)=some(.string v78)∧
  ∃v79:ByteArray,aN h77(adr ⟨pa,0,none⟩ 1)=some(.string v79)∧
  ∃v80:ByteArray,aN h77(adr ⟨pb,0,none⟩ 2)=some(.string v80)∧
  ∃v81:Bool,aN h77(adr ⟨pa,0,none⟩ 3)=some(.bool v81)∧
  ∃v82:Bool,aN h77(adr ⟨pb,0,none⟩ 4)=some(.bool v82)∧
  At(hnew h77[.string(⟨#[]⟩:ByteArray),.string(⟨#[]⟩:ByteArray),.string(⟨#[]⟩:ByteArray),.bool false,.bool false] aM)(fun h83=>
  (dq h83(some(ag h77)) 0[.string v78,.string v79,.string v80,.bool v81,.bool v82]∧
  At(aV h83(ag h77) 0[.string v78,.string v79,.string v80,.bool v81,.bool v82])(fun h84=>
  Join(fun(t102:SliceV) h103=>
  (((0:Int)≤(1:Int)∧(1:Int)≤((t10.1.len:Nat):Int))∧
  Bd(aP t10.1.a((1:Int).toNat) t10.1.cap 5:Option Addr)(fun a104=>Bd(t10.1.len-((1:Int).toNat):Nat)(fun n105=>Bd(t10.1.cap-((1:Int).toNat):Nat)(fun n106=>
  (((0:Int)≤(1:Int)∧(1:Int)≤((t10.2.1.len:Nat):Int))∧
  Bd(aP t10.2.1.a((1:Int).toNat) t10.2.1.cap 5:Option Addr)(fun a107=>Bd(t10.2.1.len-((1:Int).toNat):Nat)(fun n108=>Bd(t10.2.1.cap-((1:Int).toNat):Nat)(fun n109=>
  I9(⟨a104,n105,n106⟩,⟨a107,n108,n109⟩,t102) h103)))))))))(fun J85=>
  ∃v86:ByteArray,aN h84(adr(ag h77) 0)=some(.string v86)∧
  ∃v87:ByteArray,aN h84(adr(ag h77) 1)=some(.string v87)∧
  ∃v88:ByteArray,aN h84(adr(ag h77) 2)=some(.string v88)∧
  ∃v89:Bool,aN h84(adr(ag h77) 3)=some(.bool v89)∧
  ∃v90:Bool,aN h84(adr(ag h77) 4)=some(.bool v90)∧
  HC PG gA[.agg #[.string v86,.string v87,.string v88,.bool v89,.bool v90]][.c .bool](fun(e91:Bool) h92=>
  CondP e91(
  ∃v93:ByteArray,aN h92(adr(ag h77) 0)=some(.string v93)∧
  ∃v94:ByteArray,aN h92(adr(ag h77) 1)=some(.string v94)∧
  ∃v95:ByteArray,aN h92(adr(ag h77) 2)=some(.string v95)∧
  ∃v96:Bool,aN h92(adr(ag h77) 3)=some(.bool v96)∧
  ∃v97:Bool,aN h92(adr(ag h77) 4)=some(.bool v97)∧
  At(hnew h92[.string v93,.string v94,.string v95,.bool v96,.bool v97] aM)(fun h98=>
  ∃xs99,SRow h98(some(ag h92))(1*5) xs99∧
  AppP(some[.string(⟨#[]⟩:ByteArray),.string(⟨#[]⟩:ByteArray),.string(⟨#[]⟩:ByteArray),.bool false,.bool false]) 5 56 aM t10.2.2.a t10.2.2.len t10.2.2.cap 1 xs99 h98(fun s100 h101=>
  J85 s100 h101)))(
  J85 t10.2.2 h92)) h84))))))(fun J71=>
  ∃v72:Bool,aN h70(adr ⟨pa,0,none⟩ 4)=some(.bool v72)∧
  ∃v73:Bool,aN h70(adr ⟨pb,0,none⟩ 3)=some(.bool v73)∧
  CondP(!(v72==v73))(
  J71 true h70)(
  ∃v74:ByteArray,aN h70(adr ⟨pa,0,none⟩ 2)=some(.string v74)∧
  ∃v75:ByteArray,aN h70(adr ⟨pb,0,none⟩ 1)=some(.string v75)∧
  J71(!(v74.toList==v75.toList)) h70)):=by
 have hm:oT a b=(a.2.2.2.2==b.2.2.2.1&&decide(a.2.2.1=b.2.1)):=rfl;refine Join.intro(fun t h77=>t=(!meets a b)∧h77=h70)(fun R hR=>?_) ?_
 ·refine⟨_,vc ba 4,_,vc bb 3,?_⟩
  rw[hm]at hR;cases e:(a.2.2.2.2==b.2.2.2.1)with
  |false=>rw[e]at hR;exact ar.2(hR _ _ ⟨rfl,rfl⟩)
  |true=>rw[e]at hR;exact al.2 ⟨_,vc ba 2,_,vc bb 1,hR _ _ ⟨by rw[dD];rfl,rfl⟩⟩
 rintro t h77 ⟨rfl,rfl⟩;cases hme:oT a b with
 |false=>exact ar.2(hc hme)
 |true=>
  have hI:=hI hme;refine al.2 ⟨_,vc ba 0,_,vc ba 1,_,vc bb 2,_,vc ba 3,_,vc bb 4,?_⟩;refine x9(c:=zU a b)fun h84 b84 k84=>?_
  have u84:=hu.tr k84;have s77:=hu.size;refine Join.intro(fun s' h'=>S0 h h' s'(O++(one(zU a b)).toList)∧Upd No h h')(fun R hR=>?_) ?_
  ·refine⟨_,vc b84 0,_,vc b84 1,_,vc b84 2,_,vc b84 3,_,vc b84 4,?_⟩
   refine Fl(c:=zU a b)fun h92 k92=>?_
   have b92:=k92.get0 b84;have u92:=u84.tr k92;have ho92:=ho.upd(k84.tr k92)fun _ _ h=>h
   unfold one at hR;cases er:jg(zU a b)with
   |false=>
    rw[er]at hR;refine al.2(hR _ _ ⟨?_,u92⟩);rw[if_neg oN,Option.toList_none,aL];exact ho92
   |true=>
    rw[er]at hR;refine ar.2 ⟨_,vc b92 0,_,vc b92 1,_,vc b92 2,_,vc b92 3,_,vc b92 4,?_⟩;have s92:=u92.size;refine sB(c:=zU a b) ho92(fun y hy=>by omega)(by omega)fun s3 h3 ho3 hu3=>hR _ _ ⟨ho3,u92.trans hu3 fun y hy=>.inr hy⟩
  ·rintro s' h' ⟨ho',u'⟩
   exact⟨⟨by omega,by omega⟩,⟨by omega,by omega⟩,hI s' h' ho' u'⟩
def uB(l m:List Ch):Int×List Ch:=if is l≠0 then(is l,[])else if is m≠0 then(is m,[])else match jy l m with|none=>(8,[])|some r=>(0,r)
set_option maxRecDepth 100000 in
set_option maxHeartbeats 1000000 in
theorem Df{W W':Nat→Prop}{h:af}{s s':SliceV}{l m:List Ch}(hs:Sl jv 5 W h s l)(hs':Sl jv 5 W' h s' m)(hc:s.len≤s.cap)(hc':s'.len≤s'.cap)(hn:l.length≤100000)(hn':m.length≤100000)(hz:xb l)(hz':xb m){K:SliceV×Int→af→Prop}
  (hk:∀so h',S0 h h' so(uB l m).2→Upd No h h'→K(so,(uB l m).1) h'):HC PG tw [.slice s.a s.len s.cap,.slice s'.a s'.len s'.cap] [.c .slice,.c (.int .i64)] K h:=by
 refine Lw s s' ?_;unfold Dy aj bP;refine bH fun h1 b1 k1=>?_
 have lm:=hs.len;have mm:=hs'.len;refine LoopP.ghost (fun(i:Nat) (t:Int) h'=>t=(i:Int)∧i≤2∧(1≤i→is l=0)∧(2≤i→is m=0)∧Upd No h1 h') (fun i=>2-i) 0 ⟨rfl,bf _,fun h=>absurd h (by omega),fun h=>absurd h (by omega),Upd.refl _ _⟩ ?_
 rintro I i t h4 ⟨rfl,hi,r1,r2,hu⟩ hI;have b4:=hu.get0 b1;have u4:=k1.tr hu;refine ay (fun hlt=>?_)fun hge=>?_
 ·have hlt:i<2:=by omega
  have hw:ac .i64 ((i:Int)+1)=((i+1:Nat):Int):=by rw[cR (by omega)];omega
  rw[hw];refine⟨⟨by omega,by omega⟩,_,rfl,?_⟩
  match i,hlt with
  |0,_=>
   refine⟨s,vc b4 0,An (hs.upd u4 fun _ h=>h.elim) (by omega) hz fun h8 k8=>?_⟩
   by_cases e:is l=0
   ·rw[e];exact al.2 (hI 1 _ _ ⟨rfl,by omega,fun _=>e,fun h=>absurd h (by omega),hu.tr k8⟩ (by omega))
   ·rw[show(is l !=(0:Int))=true by simpa using e]
    unfold uB at hk;rw[if_pos e]at hk;exact ar.2 (hk ⟨none,0,0⟩ h8 (OwnS.nil py) (u4.tr k8))
  |1,_=>
   have e1:=r1 (by omega);refine⟨s',vc b4 1,An (hs'.upd u4 fun _ h=>h.elim) (by omega) hz' fun h8 k8=>?_⟩
   by_cases e:is m=0
   ·rw[e];exact al.2 (hI 2 _ _ ⟨rfl,by omega,fun _=>e1,fun _=>e,hu.tr k8⟩ (by omega))
   ·rw[show(is m !=(0:Int))=true by simpa using e]
    unfold uB at hk;rw[if_neg (fun h=>h e1),if_pos e]at hk
    exact ar.2 (hk ⟨none,0,0⟩ h8 (OwnS.nil py) (u4.tr k8))
 ·have e1:=r1 (by omega)
  have e2:=r2 (by omega);unfold uB at hk;rw[if_neg (fun h=>h e1),if_neg (fun h=>h e2)]at hk
  refine LoopP.ghost (fun(g:List Ch×List Ch×List Ch) (t:SliceV×SliceV×SliceV) h'=>Sl jv 5 W h t.1 g.1∧t.1.len≤t.1.cap∧Sl jv 5 W' h t.2.1 g.2.1∧t.2.1.len≤t.2.1.cap∧S0 h h' t.2.2 g.2.2∧jy l m=(jy g.1 g.2.1).map (g.2.2++·)∧g.2.2.length+g.1.length+g.2.1.length≤200000∧Upd No h h') (fun g=>g.1.length+g.2.1.length) (l,m,[])
   ⟨hs,hc,hs',hc',OwnS.nil py,by simp,by simp only[aD];omega,u4⟩ ?_
  clear hI hs hs' hc hc' hu b4 b1 r1 r2 hz hz' lm mm hn hn';rintro I2 ⟨L,M,O⟩ ⟨ts,tm,to⟩ h5 ⟨hs,hc,hs',hc',ho,ej,hlen,hu⟩ hI;simp only at hs hc hs' hc' ho ej hlen;have lm:=hs.len;have mm:=hs'.len;have s5:=hu.size;rcases L with _|⟨a,L⟩
  ·rcases M with _|⟨b,M⟩
   ·
    rw[kH,iw,aL]at ej;rw[ej]at hk;refine Join.plain (ay (fun hlt=>absurd hlt (by rw[lm];decide))fun _=>?_)
    simp only;rw[show decide ((tm.len:Int)>0)=false by rw[mm];rfl]
    exact al.2 (hk _ _ ho hu)
   ·obtain⟨A,hA,cA⟩:=M3 hs'
    obtain⟨c0,c1,c2,c3,c4⟩:=cA h5 hu;rw[kH,iw]at ej;rw[ao]at mm hlen;refine Join.plain (ay (fun hlt=>absurd hlt (by rw[lm];decide))fun _=>?_)
    simp only;rw[show decide ((tm.len:Int)>0)=true from decide_eq_true (by omega)]
    refine ar.2 (Join.plain ?_);rw[show((tm.len:Int)==0)=false by rw[beq_eq_false_iff_ne];omega]
    refine al.2 (ay (fun hlt=>absurd hlt (by rw[lm];decide))fun _=>al.2 (Join.plain ?_))
    rw[show((ts.len:Int)==0)=true by rw[lm];rfl]
    refine ar.2 (ar.2 ⟨⟨by omega,by omega⟩,A,hA,_,c0,_,c1,_,c2,_,c3,_,c4,⟨by omega,by omega⟩,?_⟩)
    refine sB (c:=b) ho (fun y hy=>by omega) (by omega)fun s3 h3 ho3 hu3=>?_
    refine hI ([],M,O++ [b]) (ts,_,s3) h3 ⟨hs,hc,Ii hs' hc',by simp only;omega,ho3,?_,by simp only[ad,ao,aD]at hlen⊢;omega,hu.trans hu3 fun y hy=>.inr hy⟩ (by simp)
    rw[kH,ej,iw,List.append_assoc];rfl
  ·obtain⟨A,hA,cA⟩:=M3 hs
   obtain⟨c0,c1,c2,c3,c4⟩:=cA h5 hu;rw[ao]at lm hlen;have takeA:jy (a::L) M=(jy L M).map (a::·)→(((0:Int)≤(0:Int)∧(0:Int)<((ts.len:Nat):Int))∧∃a22:Addr,ts.a=some a22∧
      ∃v23:ByteArray,aN h5 (adr (adr a22 ((0:Int).toNat*5)) 0)=some (.string v23)∧
      ∃v24:ByteArray,aN h5 (adr (adr a22 ((0:Int).toNat*5)) 1)=some (.string v24)∧
      ∃v25:ByteArray,aN h5 (adr (adr a22 ((0:Int).toNat*5)) 2)=some (.string v25)∧
      ∃v26:Bool,aN h5 (adr (adr a22 ((0:Int).toNat*5)) 3)=some (.bool v26)∧
      ∃v27:Bool,aN h5 (adr (adr a22 ((0:Int).toNat*5)) 4)=some (.bool v27)∧
      (((0:Int)≤(1:Int)∧(1:Int)≤((ts.len:Nat):Int))∧
       Bd (aP ts.a ((1:Int).toNat) ts.cap 5:Option Addr) (fun a28=>Bd (ts.len-((1:Int).toNat):Nat) (fun n29=>Bd (ts.cap-((1:Int).toNat):Nat) (fun n30=>
        At (hnew h5 [.string v23,.string v24,.string v25,.bool v26,.bool v27] aM) (fun h31=>
         ∃xs32,SRow h31 (some (ag h5)) (1*5) xs32∧
         AppP (some [.string (⟨#[]⟩:ByteArray),.string (⟨#[]⟩:ByteArray),.string (⟨#[]⟩:ByteArray),.bool false,.bool false]) 5 56 aM to.a to.len to.cap 1 xs32 h31 (fun s33 h34=>
          I2 (⟨a28,n29,n30⟩,tm,s33) h34))))))):=fun eg=>by
    refine⟨⟨by omega,by omega⟩,A,hA,_,c0,_,c1,_,c2,_,c3,_,c4,⟨by omega,by omega⟩,?_⟩
    refine sB (c:=a) ho (fun y hy=>by omega) (by omega)fun s3 h3 ho3 hu3=>?_
    refine hI (L,M,O++ [a]) (_,tm,s3) h3 ⟨Ii hs hc,by simp only;omega,hs',hc',ho3,?_,by simp only[ad,List.length_singleton];omega,hu.trans hu3 fun y hy=>.inr hy⟩ (by simp only[ao];omega)
    rw[ej,eg,sQ];congr 1
    funext x;simp
   refine Join.plain ?_;simp only;rw[show decide ((ts.len:Int)>0)=true from decide_eq_true (by omega)]
   refine ar.2 (ar.2 (Join.plain ?_));rcases M with _|⟨b,M⟩
   ·rw[show((tm.len:Int)==0)=true by rw[mm];rfl]
    exact ar.2 (ar.2 (takeA (by rw[qa,qa];rfl)))
   ·obtain⟨B,hB,cB⟩:=M3 hs'
    obtain⟨d0,d1,d2,d3,d4⟩:=cB h5 hu;rw[ao]at mm hlen;rw[show((tm.len:Int)==0)=false by rw[beq_eq_false_iff_ne];omega]
    refine al.2 (ar.2 ⟨⟨by omega,by omega⟩,A,hA,_,c0,⟨by omega,by omega⟩,B,hB,_,d0,?_⟩)
    refine CondP.intro (fun hb=>takeA ?_)fun hb=>?_
    ·rw[mu,if_pos (show kl a.1 b.1 from hb)]
    have hb:¬kl a.1 b.1:=fun h=>by unfold kl at h;rw[h]at hb;cases hb
    refine Join.plain ?_;rw[show((ts.len:Int)==0)=false by rw[beq_eq_false_iff_ne];omega]
    refine al.2 ⟨⟨by omega,by omega⟩,B,hB,_,d0,⟨by omega,by omega⟩,A,hA,_,c0,?_⟩
    refine CondP.intro (fun hb2=>?_)fun hb2=>?_
    ·refine⟨⟨by omega,by omega⟩,B,hB,_,d0,_,d1,_,d2,_,d3,_,d4,⟨by omega,by omega⟩,?_⟩
     refine sB (c:=b) ho (fun y hy=>by omega) (by omega)fun s3 h3 ho3 hu3=>?_
     refine hI (a::L,M,O++ [b]) (ts,_,s3) h3 ⟨hs,hc,Ii hs' hc',by simp only;omega,ho3,?_,by simp only[ad,ao,aD];omega,hu.trans hu3 fun y hy=>.inr hy⟩ (by simp only[ao];omega)
     rw[ej,mu,if_neg hb,if_pos (show kl b.1 a.1 from hb2),sQ]
     congr 1
     funext x;simp
    have hb2:¬kl b.1 a.1:=fun h=>by unfold kl at h;rw[h]at hb2;cases hb2
    rw[mu,if_neg hb,if_neg hb2]at ej;have hcf:oT a b=false→∀h6,Upd No h h6→K (⟨none,0,0⟩,8) h6:=fun hme h6 u6=>by
     rw[hme,if_neg oN]at ej;rw[ej]at hk;exact hk _ _ (OwnS.nil py) u6
    have hok:oT a b=true→∀s' h',S0 h h' s' (O++(one (zU a b)).toList)→Upd No h h'→I2 (⟨aP ts.a 1 ts.cap 5,ts.len-1,ts.cap-1⟩,⟨aP tm.a 1 tm.cap 5,tm.len-1,tm.cap-1⟩,s') h':=fun hme s' h' ho' u'=>by
     rw[hme,if_pos rfl]at ej;refine hI (L,M,_) _ h' ⟨Ii hs hc,by simp only;omega,Ii hs' hc',by simp only;omega,ho',?_,?_,u'⟩ (by simp only[ao];omega)
     ·rw[ej,sQ]
       congr 1
       funext x;simp
     ·have:(one (zU a b)).toList.length≤1:=by cases one (zU a b)<;>simp
       simp only[ad];omega
    refine⟨⟨by omega,by omega⟩,A,hA,_,c0,_,c1,_,c2,_,c3,_,c4,⟨by omega,by omega⟩,B,hB,_,d0,_,d1,_,d2,_,d3,_,d4,?_,?_⟩
    ·refine bH fun h6 b6 k6=>⟨cB _ (hu.tr k6),cA _ (hu.tr k6),bH fun h7 b7 k7=>?_⟩
     have z6:=bD b6;have z7:=bD b7;have u7:=(hu.tr k6).tr k7;have s6:=k6.size;refine⟨cB _ u7,cA _ u7,dd (c:=jv (⟨#[]⟩,⟨#[]⟩,⟨#[]⟩,false,false)) (vs:=jv a) (k7.get0 b6) rfl fun h8 b8 hu8=>?_⟩
     have u8:=u7.own hu8 s5;refine⟨cB _ u8,dd (c:=jv (⟨#[]⟩,⟨#[]⟩,⟨#[]⟩,false,false)) (vs:=jv b) (hu8.oth b7 (by omega)) rfl fun h9 b9 hu9=>?_⟩
     have u9:=u8.own hu9 (by omega);have hoo:S0 h h9 to O:=(((ho.within.upd (k6.tr k7)fun _ _ h=>h).upd hu8 fun y hy e=>by have e:y=h5.size:=e;omega).upd hu9 fun y hy e=>by have e:y=h6.size:=e;omega).more fun y hy=>hy.1
     exact KI (h:=h) (t10:=(ts,tm,to)) (O:=O) (hu9.oth b8 (by omega)) b9 hoo (by omega) u9 (by simp only;omega) (by simp only;omega) (fun hme=>hcf hme _ u9) hok
    ·refine bH fun h6 b6 k6=>⟨cB _ (hu.tr k6),cA _ (hu.tr k6),bH fun h7 b7 k7=>?_⟩
     have z6:=bD b6;have z7:=bD b7;have u7:=(hu.tr k6).tr k7;have s6:=k6.size;refine⟨cB _ u7,cA _ u7,dd (c:=jv (⟨#[]⟩,⟨#[]⟩,⟨#[]⟩,false,false)) (vs:=jv a) b7 rfl fun h8 b8 hu8=>?_⟩
     have u8:=u7.own hu8 (by omega);refine⟨cB _ u8,dd (c:=jv (⟨#[]⟩,⟨#[]⟩,⟨#[]⟩,false,false)) (vs:=jv b) (hu8.oth (k7.get0 b6) (by omega)) rfl fun h9 b9 hu9=>?_⟩
     have u9:=u8.own hu9 s5;have hoo:S0 h h9 to O:=(((ho.within.upd (k6.tr k7)fun _ _ h=>h).upd hu8 fun y hy e=>by have e:y=h6.size:=e;omega).upd hu9 fun y hy e=>by have e:y=h5.size:=e;omega).more fun y hy=>hy.1
     exact KI (h:=h) (t10:=(ts,tm,to)) (O:=O) (hu9.oth b8 (by omega)) b9 hoo (by omega) u9 (by simp only;omega) (by simp only;omega) (fun hme=>hcf hme _ u9) hok
end Go.Proofs
namespace Go.Proofs
open Go Go.Lift
abbrev JJ:Ch:=(⟨#[]⟩,⟨#[]⟩,⟨#[]⟩,false,false)
def Im(c:Ch):Option Ch:=if(!(c.2.2.2.1==c.2.2.2.2))|| !decide (c.2.1=c.2.2.1)then some c else none
def Hj(x y:Option Ch):Ch:=if x.isSome then(if y.isSome then zU (x.getD JJ) (y.getD JJ)else x.getD JJ)else y.getD JJ
def Jc(x y:Option Ch):Bool:=(x.isSome&&y.isSome)&& !meets (x.getD JJ) (y.getD JJ)
def HB(x y:Option Ch):Option (Option Ch):=if Jc x y then none else some (Im (Hj x y))
theorem G8{c:Ch}(h:jg c=true):Im c=some c:=by
 obtain⟨k,o,n,w,i⟩:=c;cases w<;>cases i
 ·cases h
 ·rfl
 ·rfl
 ·rw[zK]at h
  unfold Im;simp only at h⊢;rw[if_pos (by simpa using h)]
theorem RV{a b:Ch}(ha:jg a=true)(hb:jg b=true)(hm:oT a b=true):Im (zU a b)=one (zU a b):=by
 obtain⟨k,o,n,w,i⟩:=a;obtain⟨k',o',n',w',i'⟩:=b;have hm:(i==w'&&decide (n=o'))=true:=hm;rw[bd,beq_iff_eq,decide_eq_true_iff]at hm;obtain⟨rfl,rfl⟩:=hm;unfold zU Im one;simp only;cases w<;>cases i'
 ·cases i
  ·cases ha
  ·rw[zN,decide_eq_true_iff]at ha
   rw[zM,decide_eq_true_iff]at hb;rw[ha,hb];rfl
 ·cases i
  ·cases ha
  ·rw[zN]at ha⊢
   rw[ha];rfl
 ·cases i
  ·cases hb
  ·rw[zM]at hb⊢
   rw[hb];rfl
 ·rw[zK];simp
theorem QO{x y:Option Ch}(hx:∀c,x=some c→jg c=true)(hy:∀c,y=some c→jg c=true):HB x y=pY x y:=by
 cases x with
 |none=>cases y with
  |none=>rfl
  |some b=>exact congrArg some (G8 (hy b rfl))
 |some a=>cases y with
  |none=>exact congrArg some (G8 (hx a rfl))
  |some b=>
   rw[uA];show(if((true&&true)&& !meets a b)=true then none else some (Im (zU a b)))=_
   cases hm:oT a b with
   |false=>rfl
   |true=>exact congrArg some (RV (hx a rfl) (hy b rfl) hm)
def Ga(l m:List Ch):List Pr→Option (List Ch)
 | []=>some []
 |p::ks=>(pY (fd l p.1) (fd m p.1)).bind fun o=>(Ga l m ks).map (o.toList++·)
theorem yF{a:Ch}{l m:List Ch}:∀{ks:List Pr},(∀p∈ks,a.1≠p.1)→Ga (a::l) m ks=Ga l m ks
 | [],_=>rfl
 |p::ks,h=>by
  unfold Ga;rw[du,if_neg (h p (ax ..)),yF fun q hq=>h q (aF _ hq)]
theorem yE{b:Ch}{l m:List Ch}:∀{ks:List Pr},(∀p∈ks,b.1≠p.1)→Ga l (b::m) ks=Ga l m ks
 | [],_=>rfl
 |p::ks,h=>by
  unfold Ga;rw[du b,if_neg (h p (ax ..)),yE fun q hq=>h q (aF _ hq)]
theorem E2{p:Pr}{ks:List Pr}(hk:bU(p::ks)){l:List Ch}(hl:gL l)(hc:∀c∈l,∃q∈p::ks,q.1=c.1):(∃a l',l=a::l'∧a.1=p.1∧∀c∈l',∃q∈ks,q.1=c.1)∨(∀c∈l,∃q∈ks,q.1=c.1):=by
 have hp:=az.1 hk;have rest:∀c:Ch,c.1≠p.1→(∃q∈p::ks,q.1=c.1)→∃q∈ks,q.1=c.1:=fun c hne ⟨q,hq,e⟩=>by
  rcases aB.1 hq with rfl|hq
  ·exact absurd e.symm hne
  ·exact⟨q,hq,e⟩
 rcases l with _|⟨a,l⟩
 ·exact.inr fun c hc=>by cases hc
 ·have hl:=az.1 hl
  by_cases e:a.1=p.1
  ·refine.inl ⟨a,l,rfl,e,fun c hc'=>rest c (fun e2=>?_) (hc c (aF _ hc'))⟩
   have:=hl.1 c hc';rw[e,e2]at this;exact bI _ this
  ·refine.inr fun c hc'=>rest c (fun e2=>?_) (hc c hc')
   rcases aB.1 hc' with rfl|h
   ·exact e e2
   ·have h1:=hl.1 c h
    obtain⟨q,hq,e3⟩:=rest a e (hc a (ax ..));have h2:=hp.1 q hq;rw[e3]at h2;rw[e2]at h1;exact bI _ (dV h1 h2)
theorem rS:∀{ks:List Pr} {l m:List Ch},bU ks→gL l→gL m→(∀c∈l,∃p∈ks,p.1=c.1)→(∀c∈m,∃p∈ks,p.1=c.1)→Ga l m ks=jy l m
 | [],l,m,_,_,_,h1,h2=>by
  have e1:l= []:=kh.2 fun c hc=>by obtain⟨p,hp,_⟩:=h1 c hc;cases hp
  have e2:m= []:=kh.2 fun c hc=>by obtain⟨p,hp,_⟩:=h2 c hc;cases hp
  rw[e1,e2,kH];rfl
 |p::ks,l,m,hk,hl,hm,h1,h2=>by
  have hp:=az.1 hk;have nek:∀{c:Ch},c.1=p.1→∀q∈ks,c.1≠q.1:=fun e q hq e2=>by have:=hp.1 q hq;rw[←e,e2]at this;exact bI _ this
  have hi:∀{c:Ch},(∃q∈ks,q.1=c.1)→kl p.1 c.1:=fun⟨q,hq,e⟩=>by rw[←e];exact hp.1 q hq
  rcases E2 hk hl h1 with⟨a,l,rfl,ea,hl1⟩|hl1
  ·have hl':=az.1 hl
   rcases E2 hk hm h2 with⟨b,m,rfl,eb,hm1⟩|hm1
   ·have hm':=az.1 hm
    show(pY (fd (a::l) p.1) (fd (b::m) p.1)).bind _=_
    rw[du,if_pos ea,du,if_pos eb,yF (nek ea),yE (nek eb),rS hp.2 hl'.2 hm'.2 hl1 hm1,mu,ea,eb,if_neg (bI _),if_neg (bI _),uA];by_cases h:oT a b=true
    ·rw[if_pos h,if_pos h];rfl
    ·rw[if_neg h,if_neg h];rfl
   ·show(pY (fd (a::l) p.1) (fd m p.1)).bind _=_
    rw[du,if_pos ea,oz (l:=m) (fun c hc=>hi (hm1 c hc)),yF (nek ea),rS hp.2 hl'.2 hm hl1 hm1]
    show(jy l m).map (a::·)=_
    rcases m with _|⟨b,m⟩
    ·rw[qa,qa];rfl
    ·rw[mu,if_pos (by rw[ea];exact hi (hm1 b (ax ..)))]
  ·rcases E2 hk hm h2 with⟨b,m,rfl,eb,hm1⟩|hm1
   ·have hm':=az.1 hm
    show(pY (fd l p.1) (fd (b::m) p.1)).bind _=_
    rw[du,if_pos eb,oz (l:=l) (fun c hc=>hi (hl1 c hc)),yE (nek eb),rS hp.2 hl hm'.2 hl1 hm1]
    show(jy l m).map (b::·)=_
    rcases l with _|⟨a,l⟩
    ·rw[kH,kH];rfl
    ·have h:=hi (hl1 a (ax ..))
     rw[←eb]at h;rw[mu,if_neg (Ab h),if_pos h]
   ·show(pY (fd l p.1) (fd m p.1)).bind _=_
    rw[oz (l:=l) (fun c hc=>hi (hl1 c hc)),oz (l:=m) (fun c hc=>hi (hm1 c hc)),rS hp.2 hl hm hl1 hm1]
    show(jy l m).map _=_
    cases jy l m<;>simp
def uz(acc:List Pr)(l:List Ch):List Pr:=l.foldl (fun acc c=>fU (c.1,⟨#[]⟩) acc) acc
theorem Ac:∀(l:List Ch) {acc:List Pr},bU acc→bU (uz acc l)∧(∀p∈acc,∃q∈uz acc l,q.1=p.1)∧(∀c∈l,∃q∈uz acc l,q.1=c.1)∧(uz acc l).length≤acc.length+l.length∧∀q∈uz acc l,(∃p∈acc,p.1=q.1)∨∃c∈l,c.1=q.1
 | [],acc,h=>⟨h,fun p hp=>⟨p,hp,rfl⟩,fun c hc=>(by cases hc),au _,fun q hq=>.inl ⟨q,hq,rfl⟩⟩
 |c::l,acc,h=>by
  have hr:=xw (c.1,⟨#[]⟩) h;obtain⟨i1,i2,i3,i4,i5⟩:=Ac l hr;have key:∀k,(∃p∈acc,p.1=k)∨k=c.1→∃q∈fU (c.1,⟨#[]⟩) acc,q.1=k:=fun k hk=>by
   have hs:look (fU (c.1,⟨#[]⟩) acc) k≠none:=by
    rw[KD];by_cases e:c.1=k
    ·rw[if_pos e];exact fun e=>by cases e
    ·rw[if_neg e]
     rcases hk with⟨p,hp,rfl⟩|rfl
     ·rw[Hu h (show(p.1,p.2)∈acc from hp)];exact fun e=>by cases e
     ·exact absurd rfl e
   cases hv:look (fU (c.1,⟨#[]⟩) acc) k with
   |none=>exact absurd hv hs
   |some v=>exact⟨_,wJ hv,rfl⟩
  refine⟨i1,fun p hp=>?_,fun d hd=>?_,?_,fun q hq=>?_⟩
  ·obtain⟨q,hq,e⟩:=key p.1 (.inl ⟨p,hp,rfl⟩)
   rw[←e];exact i2 q hq
  ·rcases aB.1 hd with rfl|hd
   ·obtain⟨q,hq,e⟩:=key d.1 (.inr rfl)
    rw[←e];exact i2 q hq
   ·exact i3 d hd
  ·have:=xD (c.1,⟨#[]⟩) (l:=acc)
   show(uz (fU (c.1,⟨#[]⟩) acc) l).length≤_
   rw[ao];omega
  ·rcases i5 q hq with⟨p,hp,e⟩|⟨d,hd,e⟩
   ·rcases wG hp with rfl|hp
    ·exact.inr ⟨c,ax ..,e⟩
    ·exact.inl ⟨p,hp,e⟩
   ·exact.inr ⟨d,aF _ hd,e⟩
theorem KG(acc:List Pr)(l m:List Ch):uz acc (l++m)=uz (uz acc l) m:=List.foldl_append ..
theorem QW{l:List Ch}{i:Nat}{k:ByteArray}(hi:i<l.length)(h:∀c∈l.take i,c.1≠k)(e:l[i].1=k):fd l k=some l[i]:=by
 conv=>lhs;rw[←List.take_append_drop i l]
 unfold fd;rw[List.find?_append,List.find?_eq_none.2 (fun c hc=>by simpa using h c hc),eh hi,List.find?_cons,decide_eq_true e];rfl
theorem EN{W:Nat→Prop}{h:af}{s:SliceV}{l:List Ch}(hs:Sl jv 5 W h s l)(hn:l.length≤1000000)(k:ByteArray){K:Ch×Bool→af→Prop}(hk:∀h',Upd No h h'→K((fd l k).getD JJ,(fd l k).isSome) h'):
  HC PG vA [.slice s.a s.len s.cap,.string k] [.agg [.str,.str,.str,.bool,.bool],.c .bool] K h:=by
 refine Nm s k ?_;unfold FK aj bP;have hl:=hs.len;refine bH fun h1 b1 k1=>?_
 have z1:=bD b1;refine LoopP.ghost (fun(i:Nat) (t:Int) h'=>t=(i:Int)∧i≤l.length∧(∀c∈l.take i,c.1≠k)∧Upd No h1 h') (fun i=>l.length-i) 0 ⟨rfl,bf _,fun c hc=>(by cases hc),Upd.refl _ _⟩ ?_
 rintro I i t h' ⟨rfl,hi,hne,hu⟩ hI;have b':=hu.get0 b1;refine ay (fun hlt=>?_)fun hge=>?_
 ·have hlt:i<l.length:=by omega
  obtain⟨a,ha,_,hv⟩:=(hs.upd (k1.tr hu)fun _ h=>h.elim).at (ai hlt)
  refine⟨⟨by omega,by omega⟩,a,ha,_,hv 0 _ rfl,_,hv 1 _ rfl,_,hv 2 _ rfl,_,hv 3 _ rfl,_,hv 4 _ rfl,?_⟩
  refine x9 (c:=l[i])fun h2 b2 k2=>?_
  refine⟨_,vc b2 0,?_⟩;rw[dD];by_cases e:l[i].1=k
  ·rw[decide_eq_true e]
   rw[QW hlt hne e]at hk;refine ar.2 ⟨_,vc b2 0,_,vc b2 1,_,vc b2 2,_,vc b2 3,_,vc b2 4,?_⟩;refine dd (c:=jv JJ) (vs:=jv l[i]) (k2.get0 b') rfl fun h3 b3 hu3=>?_
   exact⟨_,vc b3 0,_,vc b3 1,_,vc b3 2,_,vc b3 3,_,vc b3 4,hk h3 (((k1.tr hu).tr k2).own hu3 (au _))⟩
  ·rw[decide_eq_false e]
   refine al.2 ?_;rw[eu hlt (by omega)];refine hI (i+1) _ _ ⟨rfl,hlt,fun c hc=>?_,hu.tr k2⟩ (by omega)
   rw[bh hlt]at hc;rcases List.mem_append.1 hc with hc|hc
   ·exact hne c hc
   ·rw[List.mem_singleton.1 hc];exact e
 ·have hil:i=l.length:=by omega
  rw[hil,bR]at hne;rw[SY hne]at hk;refine dd (c:=jv JJ) (vs:=jv JJ) b' rfl fun h3 b3 hu3=>?_
  exact⟨_,vc b3 0,_,vc b3 1,_,vc b3 2,_,vc b3 3,_,vc b3 4,hk h3 ((k1.tr hu).own hu3 (au _))⟩
end Go.Proofs
namespace Go.Proofs
open Go Go.Lift
theorem Oq{h':af}{c:Ch}{sa:SliceV}{acc:List Pr}{G:SliceV→af→Prop}(ha:Sl ee 2 No h' sa acc)(hr:bU acc)(hl:acc.length≤300000)(hc:c.1.size≤256)(hk:∀s' h2,Sl ee 2 No h2 s'(fU(c.1,⟨#[]⟩) acc)→Upd No h' h2→G s' h2):
  At (hnew h' [.string (⟨#[]⟩:ByteArray),.string (⟨#[]⟩:ByteArray),.string (⟨#[]⟩:ByteArray),.bool false,.bool false] dg) (fun h14=>
   (dq h14 (some (ag h')) 0 [.string c.1,.string c.2.1,.string c.2.2.1,.bool c.2.2.2.1,.bool c.2.2.2.2]∧
    At (aV h14 (ag h') 0 [.string c.1,.string c.2.1,.string c.2.2.1,.bool c.2.2.2.1,.bool c.2.2.2.2]) (fun h15=>
     ∃v16:ByteArray,aN h15 (adr (ag h') 0)=some (.string v16)∧
     HC PG rQ [.slice sa.a sa.len sa.cap,.agg #[.string v16,.string (⟨#[]⟩:ByteArray)]] [.c .slice] (fun(e17:SliceV) h18=>G e17 h18) h15))):=by
 refine x9 (c:=c)fun h2 b2 k2=>⟨_,vc b2 0,?_⟩
 refine Oa (p:=(c.1,⟨#[]⟩)) (ha.upd k2 fun _ h=>h.elim) hr (by omega) (by simp only;omega)fun s' h3 ho3 k3=>hk s' h3 (ho3.sl fun _ _ _ h=>h) (k2.tr k3)
abbrev SI(h h':af)(s:SliceV)(O:List Ch):Prop:=OwnS jv 5 dg (fun y=>h.size≤y) h' s O
set_option maxRecDepth 100000 in
set_option maxHeartbeats 1000000 in
theorem Mr{W W':Nat→Prop}{h:af}{s s':SliceV}{l m:List Ch}(hs:Sl jv 5 W h s l)(hs':Sl jv 5 W' h s' m)(hn:l.length≤100000)(hn':m.length≤100000)(hz:xb l)(hz':xb m){K:SliceV×Int→af→Prop}
  (hk:∀so h',SI h h' so(uB l m).2→Upd No h h'→K(so,(uB l m).1) h'):HC PG yT [.slice s.a s.len s.cap,.slice s'.a s'.len s'.cap] [.c .slice,.c (.int .i64)] K h:=by
 refine Np s s' ?_;unfold FL aj bP;have lm:=hs.len;have mm:=hs'.len;refine CV hs (by omega) hz fun h2 k2=>?_
 unfold uB at hk;by_cases e1:is l=0
 rotate_left
 ·rw[if_pos e1]at hk
  rw[show(is l !=(0:Int))=true by simpa using e1]
  exact ar.2 (hk ⟨none,0,0⟩ h2 (OwnS.nil py) k2)
 rw[if_neg (fun h=>h e1)]at hk
 rw[e1];refine al.2 (CV (hs'.upd k2 fun _ h=>h.elim) (by omega) hz' fun h4 k24=>?_)
 have k4:=k2.tr k24;by_cases e2:is m=0
 rotate_left
 ·rw[if_pos e2]at hk
  rw[show(is m !=(0:Int))=true by simpa using e2]
  exact ar.2 (hk ⟨none,0,0⟩ h4 (OwnS.nil py) k4)
 rw[if_neg (fun h=>h e2)]at hk
 rw[e2];refine al.2 ?_;have right:∀{l:List Ch},is l=0→gL l∧∀c∈l,jg c=true:=fun{l} e=>by
  unfold is at e;by_cases hr:gL l
  ·rw[if_pos hr]at e
   refine⟨hr,fun c hc=>?_⟩
   cases h:jg c with
   |true=>rfl
   |false=>rw[if_pos (bT.2 ⟨c,hc,by rw[h];rfl⟩)]at e;cases e
  ·rw[if_neg hr]at e;cases e
 obtain⟨hrl,hgl⟩:=right e1;obtain⟨hrm,hgm⟩:=right e2;refine LoopP.ghost (fun(i:Nat) (t:SliceV×Int) h'=>t.2=(i:Int)∧i≤l.length∧Sl ee 2 No h' t.1 (uz [] (l.take i))∧Upd No h h') (fun i=>l.length-i) 0 ⟨rfl,bf _,Sl.nil fS,k4⟩ ?_
 rintro I i ⟨sa,ti⟩ h7 ⟨e,hi,ha,hu⟩ hI;simp only at e ha;subst e;refine ay (fun hlt=>?_)fun hge=>?_
 ·have hlt:i<l.length:=by simp only at hlt;omega
  obtain⟨a,ha',_,hv⟩:=(hs.upd hu fun _ h=>h.elim).at (ai hlt)
  obtain⟨r1,_,_,r4,_⟩:=Ac (l.take i) eO;refine⟨⟨by simp only;omega,by simp only;omega⟩,a,ha',_,hv 0 _ rfl,_,hv 1 _ rfl,_,hv 2 _ rfl,_,hv 3 _ rfl,_,hv 4 _ rfl,?_⟩
  refine Oq ha r1 (by rw[aI,aD]at r4;omega) (hz _ (bF hlt)).1 fun s2 h8 ha8 k8=>?_
  rw[eu hlt (by omega)];refine hI (i+1) _ _ ⟨rfl,hlt,?_,hu.tr k8⟩ (by omega);rw[bh hlt,KG];exact ha8
 have hil:i=l.length:=by simp only at hge;omega
 rw[hil,bR]at ha;clear hI hge hi hil k24 k4 k2;obtain⟨r1,_,r3,r4,r5⟩:=Ac l (acc:= []) eO;refine LoopP.ghost (fun(i:Nat) (t:SliceV×Int) h'=>t.2=(i:Int)∧i≤m.length∧Sl ee 2 No h' t.1 (uz (uz [] l) (m.take i))∧Upd No h h') (fun i=>m.length-i) 0 ⟨rfl,bf _,ha,hu⟩ ?_
 clear ha hu;rintro I i ⟨sa,ti⟩ h7 ⟨e,hi,ha,hu⟩ hI;simp only at e ha;subst e;refine ay (fun hlt=>?_)fun hge=>?_
 ·have hlt:i<m.length:=by simp only at hlt;omega
  obtain⟨a,ha',_,hv⟩:=(hs'.upd hu fun _ h=>h.elim).at (ai hlt)
  obtain⟨q1,_,_,q4,_⟩:=Ac (m.take i) r1;refine⟨⟨by simp only;omega,by simp only;omega⟩,a,ha',_,hv 0 _ rfl,_,hv 1 _ rfl,_,hv 2 _ rfl,_,hv 3 _ rfl,_,hv 4 _ rfl,?_⟩
  refine Oq ha q1 (by rw[aI]at q4;rw[aD]at r4;omega) (hz' _ (bF hlt)).1 fun s2 h8 ha8 k8=>?_
  rw[eu hlt (by omega)];refine hI (i+1) _ _ ⟨rfl,hlt,?_,hu.tr k8⟩ (by omega);rw[bh hlt,KG];exact ha8
 have hil:i=m.length:=by simp only at hge;omega
 rw[hil,bR]at ha;clear hI hge hi hil;obtain⟨q1,q2,q3,q4,q5⟩:=Ac m r1;have hjg:=rS (ks:=uz (uz [] l) m) q1 hrl hrm (fun c hc=>by obtain⟨p,hp,e⟩:=r3 c hc;rw[←e];exact q2 p hp) q3
 have hsz:∀p∈uz (uz [] l) m,p.1.size≤256:=fun p hp=>by
  rcases q5 p hp with⟨q,hq,e⟩|⟨c,hc,e⟩
  ·rcases r5 q hq with⟨q',hq',_⟩|⟨c,hc,e'⟩
   ·cases hq'
   ·rw[←e,←e'];exact(hz c hc).1
  ·rw[←e];exact(hz' c hc).1
 have hlk:(uz (uz [] l) m).length≤200000:=by rw[aD]at r4;omega
 generalize uz (uz [] l) m=ks at ha hjg hsz hlk;clear q1 q2 q3 q4 q5 r1 r3 r4 r5;have kl:=ha.len;refine LoopP.ghost (fun(g:Nat×List Ch) (t:SliceV×Int) h'=>t.2=(g.1:Int)∧g.1≤ks.length∧SI h7 h' t.1 g.2∧g.2.length≤g.1∧jy l m=(Ga l m (ks.drop g.1)).map (g.2++·)∧Upd No h7 h') (fun g=>ks.length-g.1) (0,[])
  ⟨rfl,bf _,OwnS.nil py,au _,by rw[←hjg,List.drop_zero];simp,Upd.refl _ _⟩ ?_
 clear hjg;have hu0:=hu;clear hu;have TI:=hu0.size;rintro I ⟨i,O⟩ ⟨so,ti⟩ h35 ⟨e,hi,ho,hO,hj,hu7⟩ hI;have hu:=hu0.tr hu7;simp only at e hi ho hO hj;subst e;refine ay (fun hlt=>?_)fun hge=>?_
 rotate_left
 ·have hil:i=ks.length:=by simp only at hge;omega
  rw[hil,List.drop_length]at hj;have hj:jy l m=some O:=by rw[hj];show(some []).map _=_;simp
  rw[hj]at hk;exact hk so h35 (ho.more fun y hy=>by have hy:h7.size≤y:=hy;omega) hu
 have hlt:i<ks.length:=by simp only at hlt;omega
 rw[eh hlt]at hj;have hj:jy l m=((pY (fd l ks[i].1) (fd m ks[i].1)).bind fun o=>(Ga l m (ks.drop (i+1))).map (o.toList++·)).map (O++·):=hj
 have hjr:HB (fd l ks[i].1) (fd m ks[i].1)=pY (fd l ks[i].1) (fd m ks[i].1):=QO (fun c hc=>hgl c (wT hc).1)fun c hc=>hgm c (wT hc).1
 rw[←hjr]at hj;have hki:=hsz _ (bF hlt);obtain⟨a,ha',_,hv⟩:=(ha.upd hu7 fun _ h=>h.elim).at (ai hlt)
 generalize hkk:ks[i].1=k at hj hki hjr;have s35:=hu.size;refine Join.intro (fun s2 h95=>∃o,HB (fd l k) (fd m k)=some o∧SI h7 h95 s2 (O++o.toList)∧Upd No h7 h95) (fun R hR=>⟨⟨by simp only;omega,by simp only;omega⟩,a,ha',k,(by rw[←hkk];exact hv 0 _ rfl),_,hv 1 _ rfl,?_⟩) ?_
 rotate_left
 ·rintro s2 h95 ⟨o,ej,ho95,u7⟩
  rw[eu hlt (by omega)];refine hI (i+1,O++o.toList) _ _ ⟨rfl,hlt,ho95,?_,?_,u7⟩ (by simp only;omega)
  ·have:o.toList.length≤1:=by cases o<;>simp
   simp only[ad];omega
  ·rw[hj,ej,Option.bind_some,sQ]
   congr 1
   funext x;simp
 refine zS (p:=(k,ks[i].2))fun h41 b41 k41=>⟨_,vc b41 0,?_⟩
 have u41:=hu.tr k41;refine EN (hs.upd u41 fun _ h=>h.elim) (by omega) k fun h44 k44=>?_
 refine x9 (c:=(fd l k).getD JJ)fun h46 b46 k46=>⟨_,vc ((k44.tr k46).get0 b41) 0,?_⟩
 have u46:=u41.tr (k44.tr k46);refine EN (hs'.upd u46 fun _ h=>h.elim) (by omega) k fun h49 k49=>?_
 refine x9 (c:=(fd m k).getD JJ)fun h51 b51 k51=>?_
 have a51:=(k49.tr k51).get0 b46;have u51:=u46.tr (k49.tr k51);have k4451:=(k46.tr k49).tr k51;have z46:=bD b46;have z51:=bD b51;have s4446:=k46.size;have s49:=k49.size;have s41:=u41.size;have s44:=k44.size;have u7:=hu7.tr ((k41.tr k44).tr k4451);have hlo:h35.size≤h44.size:=bJ k41.size s44;have hjR:HB (fd l k) (fd m k)=if Jc (fd l k) (fd m k)then none else some (Im (Hj (fd l k) (fd m k))):=rfl
 generalize fd l k=x at hj hR b46 a51 hjR⊢;generalize fd m k=y at hj hR b51 hjR⊢;have bl:∀{hX:af},Upd (·=h44.size) h51 hX→SI h7 hX so O∧Upd No h7 hX:=fun{hX} kX=>by
  refine⟨?_,u7.own kX (by have:=hu7.size;omega)⟩;exact(((ho.within.upd ((k41.tr k44).tr k4451)fun _ _ h=>h).upd kX fun y hy e=>by have e:y=h44.size:=e;omega)).more fun y hy=>hy.1
 refine Join.intro (fun _ h68=>h68[h44.size]?=some (.cells (jv (if x.isSome&&y.isSome then zU (x.getD JJ) (y.getD JJ)else x.getD JJ)).toArray dg (0,0))∧Jc x y=false∧Upd (·=h44.size) h51 h68) (fun R2 hR2=>?_) ?_
 ·refine Join.plain ?_
  unfold Jc at hR2 hjR;cases hx:x.isSome with
  |false=>
   rw[hx]at hR2;exact al.2 (al.2 (hR2 _ _ ⟨a51,rfl,Upd.refl _ _⟩))
  |true=>
   rw[hx]at hR2 hjR;refine ar.2 ?_;cases hy:y.isSome with
   |false=>
    rw[hy]at hR2;exact al.2 (hR2 _ _ ⟨a51,rfl,Upd.refl _ _⟩)
   |true=>
    rw[hy]at hR2 hjR;refine ar.2 (Join.plain ⟨_,vc a51 4,_,vc b51 3,?_⟩);generalize x.getD JJ=A at hR2 a51 hjR⊢;generalize y.getD JJ=B at hR2 b51 hjR⊢;have hme:oT A B=(A.2.2.2.2==B.2.2.2.1&&decide (A.2.2.1=B.2.1)):=rfl;have clash:oT A B=false→K (⟨none,0,0⟩,8) h51:=fun hm=>by
     rw[hm]at hjR;have hjR:HB x y=none:=hjR;rw[hjR]at hj;have hj:jy l m=none:=hj;rw[hj]at hk;exact hk ⟨none,0,0⟩ h51 (OwnS.nil py) u51
    cases eb:(A.2.2.2.2==B.2.2.2.1)with
    |false=>rw[eb]at hme;exact ar.2 (ar.2 (clash hme))
    |true=>
     rw[eb]at hme;refine al.2 ⟨_,vc a51 2,_,vc b51 1,?_⟩;rw[dD];cases ed:decide (A.2.2.1=B.2.1)with
     |false=>rw[ed]at hme;exact ar.2 (clash hme)
     |true=>
      rw[ed]at hme;refine al.2 ⟨_,vc b51 4,_,vc b51 2,?_⟩;refine ut (c':=(jv (A.1,A.2.1,A.2.2.1,A.2.2.2.1,B.2.2.2.2)).toArray) a51 (by show 4<5;omega) rfl fun h65 b65 hu65=>⟨vc (hu65.oth b51 (by omega)) 2,?_⟩
      refine ut (c':=(jv (zU A B)).toArray) b65 (by show 2<5;omega) rfl fun h66 b66 hu66=>hR2 _ _ ⟨b66,?_,hu65.tr hu66⟩
      rw[hme];rfl
 rintro _ h68 ⟨b68,hcl,hu68⟩;rw[hcl]at hjR;have hjR:HB x y=some (Im (Hj x y)):=hjR;have d68:=hu68.oth b51 (by omega);refine Join.intro (fun _ h77=>h77[h44.size]?=some (.cells (jv (Hj x y)).toArray dg (0,0))∧Upd (·=h44.size) h51 h77) (fun R3 hR3=>?_) ?_
 ·unfold Hj at hR3
  cases hx:x.isSome with
  |false=>
   rw[hx]at hR3;refine ar.2 ⟨_,vc d68 0,_,vc d68 1,_,vc d68 2,_,vc d68 3,_,vc d68 4,?_⟩;refine dd (vs:=jv (y.getD JJ)) b68 rfl fun h75 b75 hu75=>hR3 _ _ ⟨b75,hu68.tr hu75⟩
  |true=>
   rw[hx]at hR3 b68;exact al.2 (hR3 _ _ ⟨b68,hu68⟩)
 rintro _ h77 ⟨b77,hu77⟩;obtain⟨ho77,u777⟩:=bl hu77;generalize Hj x y=c at b77 hjR;have s77:=u777.size;refine Join.intro (fun b h84=>b=(!(c.2.2.2.1==c.2.2.2.2)|| !decide (c.2.1=c.2.2.1))∧h84=h77) (fun R4 hR4=>?_) ?_
 ·refine⟨_,vc b77 3,_,vc b77 4,?_⟩
  cases eb:(c.2.2.2.1==c.2.2.2.2)with
  |false=>exact ar.2 (hR4 _ _ ⟨by rw[eb];rfl,rfl⟩)
  |true=>
   refine al.2 ⟨_,vc b77 1,_,vc b77 2,hR4 _ _ ⟨?_,rfl⟩⟩;rw[dD,eb];rfl
 rintro b h84 ⟨rfl,rfl⟩;have hsel:Im c=if(!(c.2.2.2.1==c.2.2.2.2)|| !decide (c.2.1=c.2.2.1))=true then some c else none:=rfl
 refine CondP.intro (fun hb=>?_)fun hb=>?_
 ·rw[if_pos hb]at hsel
  rw[hsel]at hjR;refine⟨_,vc b77 0,_,vc b77 1,_,vc b77 2,_,vc b77 3,_,vc b77 4,?_⟩;refine sB (c:=c) ho77 (fun y hy=>by omega) (by omega)fun s3 h3 ho3 hu3=>hR _ _ ⟨_,hjR,ho3,u777.trans hu3 fun y hy=>.inr hy⟩
 ·rw[if_neg (by rw[hb];exact oN)]at hsel
  rw[hsel]at hjR;refine hR _ _ ⟨none,hjR,?_,u777⟩;rw[Option.toList_none,aL];exact ho77
end Go.Proofs
namespace Go.Proofs
open Go Go.Lift
theorem Tu{A B:List Pr}(hA:bU A)(hB:bU B){c:Ch}(h:c∈iH A B):c=(c.1,(look A c.1).getD ⟨#[]⟩,(look B c.1).getD ⟨#[]⟩,(look A c.1).isSome,(look B c.1).isSome)∧look A c.1≠look B c.1:=by
 have:=yO hA hB c.1;rw[IV (ml hA hB) h]at this;exact OE this.symm
theorem OW{l:List Ch}(hr:gL l)(h:∀c∈l,jg c=true):is l=0:=by
 unfold is;rw[if_pos hr,if_neg];intro e;obtain⟨c,hc,e⟩:=bT.1 e;rw[h c hc]at e;cases e
theorem EK{A B:List Pr}(hA:bU A)(hB:bU B):is (iH A B)=0:=OW (ml hA hB)fun _ h=>OV hA hB h
theorem EV{n:Nat}{A:List Pr}(f:Few n A)(k:ByteArray):((look A k).getD ⟨#[]⟩).size≤30:=by
 cases e:look A k with
 |none=>exact bf _
 |some v=>exact(f.fit _ (wJ e)).2
theorem JY{n m:Nat}{A B:List Pr}(fA:Few n A)(fB:Few m B):∀c∈iH A B,c.1.size≤30∧c.2.1.size≤30∧c.2.2.1.size≤30:=fun c hc=>by
 obtain⟨e,ne⟩:=Tu fA.up fB.up hc;refine⟨?_,?_,?_⟩
 ·cases ea:look A c.1 with
  |some v=>exact(fA.fit _ (wJ ea)).1
  |none=>
   cases eb:look B c.1 with
   |some v=>exact(fB.fit _ (wJ eb)).1
   |none=>rw[ea,eb]at ne;exact absurd rfl ne
 ·rw[e];exact EV fA _
 ·rw[e];exact EV fB _
theorem Ez{n m:Nat}{A B:List Pr}(fA:Few n A)(fB:Few m B):xb (iH A B):=fun c hc=>by
 have:=JY fA fB c hc;omega
theorem vi(l:List Ch):xb (E8 l):=fun c hc=>by
 obtain⟨d,_,rfl⟩:=List.mem_map.1 hc;have h1:=mA d.1;have h2:=mA d.2.1;have h3:=mA d.2.2.1;unfold Sx;simp only;omega
theorem Pf{A B E:List Pr}(hA:bU A)(hB:bU B)(hE:bU E):uB (iH A B) (iH B E)=(0,iH A E):=by
 unfold uB;rw[EK hA hB,EK hB hE,QN hA hB hE];rfl
end Go.Proofs
namespace Go.Proofs
open Go Go.Lift Go.Sort
abbrev qi:Value:=.func (.func my) #[] #[]
def j1(dec:Int→Ch)(i j:Int):Bool:=Si (dec i) (dec j)
structure SA(dec:Int→Ch)(M:Nat→Prop)(s:SliceV)(h:af)(d:Array Int):Prop where
 own:OwnS jv 5 aM M h s (d.toList.map dec)
 small:d.size≤1000000000
 lt:∀b,M b→b<h.size
variable {dec:Int→Ch} {M:Nat→Prop} {s:SliceV} {h:af} {d:Array Int}
theorem SA.len(hs:SA dec M s h d):s.len=d.size:=by have:=hs.own.len;simpa using this
theorem SA.updC{c:Nat}{h':af}(hs:SA dec M s h d)(k:Upd(·=c) h h')(hc:¬M c):SA dec M s h' d:=⟨hs.own.upd k fun b hb e=>hc (by have e:b=c:=e;rw[←e];exact hb),hs.small,fun b hb=>aJ (hs.lt b hb) k.size⟩
theorem SA.upd0{h':af}(hs:SA dec M s h d)(k:Upd No h h'):SA dec M s h' d:=⟨hs.own.upd k fun _ _ h=>h,hs.small,fun b hb=>aJ (hs.lt b hb) k.size⟩
theorem SA.at(hs:SA dec M s h d){i:Nat}(hi:i<d.size):∃a,s.a=some a∧∀j v,(jv (dec d[i]!))[j]?=some v→aN h (adr (adr a (((i:Int)).toNat*5)) j)=some v:=by
 have hx:(d.toList.map dec)[i]?=some (dec d[i]!):=by
  rw[List.getElem?_map,Array.getElem?_toList,Array.getElem?_eq_getElem hi,getElem!_pos d i hi];rfl
 obtain⟨a,ha,_,hv⟩:=(hs.own.sl (W:=No)fun _ _ _ h=>h).at hx
 exact⟨a,ha,by simpa using hv⟩
theorem SA.rd(hs:SA dec M s h d){t:Int}{i:Nat}(et:t=(i:Int))(hi:i<d.size){R:ByteArray→ByteArray→ByteArray→Bool→Bool→Prop}(hR:R(dec d[i]!).1(dec d[i]!).2.1(dec d[i]!).2.2.1(dec d[i]!).2.2.2.1(dec d[i]!).2.2.2.2):
  ((0:Int)≤t∧t<((s.len:Nat):Int))∧∃a:Addr,s.a=some a∧∃v1:ByteArray,aN h(adr(adr a(t.toNat*5)) 0)=some(.string v1)∧∃v2:ByteArray,aN h(adr(adr a(t.toNat*5)) 1)=some(.string v2)∧∃v3:ByteArray,aN h(adr(adr a(t.toNat*5)) 2)=some(.string v3)∧∃v4:Bool,aN h(adr(adr a(t.toNat*5)) 3)=some(.bool v4)∧∃v5:Bool,aN h(adr(adr a(t.toNat*5)) 4)=some(.bool v5)∧R v1 v2 v3 v4 v5:=by
 subst et;obtain⟨a,ha,hv⟩:=hs.at hi;exact⟨by rw[hs.len];omega,a,ha,_,hv 0 _ rfl,_,hv 1 _ rfl,_,hv 2 _ rfl,_,hv 3 _ rfl,_,hv 4 _ rfl,hR⟩
theorem SA.st(hs:SA dec M s h d){t:Int}{i:Nat}{x:Int}(et:t=(i:Int))(hi:i<d.size){R:af→Prop}(hR:∀h',SA dec M s h'(d.setIfInBounds i x)→Upd M h h'→R h'):
  ((0:Int)≤t∧t<((s.len:Nat):Int))∧∃a:Addr,s.a=some a∧(dq h (some (adr a (t.toNat*5))) 0 [.string (dec x).1,.string (dec x).2.1,.string (dec x).2.2.1,.bool (dec x).2.2.2.1,.bool (dec x).2.2.2.2]∧At (aV h (adr a (t.toNat*5)) 0 [.string (dec x).1,.string (dec x).2.1,.string (dec x).2.2.1,.bool (dec x).2.2.2.1,.bool (dec x).2.2.2.2]) R):=by
 subst et;obtain⟨a,ha,hM,hw,ho,hu⟩:=OwnS.setAt hs.own (k:=i) (by simpa using hi) (dec x);refine⟨by rw[hs.len];omega,a,ha,?_⟩;rw[Int.toNat_natCast];have hu':Upd M h _:=hu.mono fun b hb=>.inl (by have hb:b=a.block:=hb;rw[hb];exact hM)
 refine⟨hw,bC (hR _ ⟨?_,by simpa using hs.small,fun b hb=>aJ (hs.lt b hb) hu.size⟩ hu')⟩
 rw[show(d.setIfInBounds i x).toList.map dec=(d.toList.map dec).take i++dec x::(d.toList.map dec).drop (i+1)by
  rw[Array.toList_setIfInBounds,List.map_set,List.set_eq_take_append_cons_drop,if_pos (by simpa using hi)]]
 exact ho
@[simp] theorem TF(d:Array Int)(i j:Nat):(swp d i j).size=d.size:=by simp[swp]
theorem SA.swap(hs:SA dec M s h d){ti tj:Int}{i j:Nat}(ei:ti=(i:Int))(ej:tj=(j:Int))(hi:i<d.size)(hj:j<d.size){R:af→Prop}(hR:∀h',SA dec M s h'(swp d i j)→Upd M h h'→R h'):
  ((0:Int)≤tj∧tj<((s.len:Nat):Int))∧∃a:Addr,s.a=some a∧∃v1:ByteArray,aN h (adr (adr a (tj.toNat*5)) 0)=some (.string v1)∧∃v2:ByteArray,aN h (adr (adr a (tj.toNat*5)) 1)=some (.string v2)∧∃v3:ByteArray,aN h (adr (adr a (tj.toNat*5)) 2)=some (.string v3)∧∃v4:Bool,aN h (adr (adr a (tj.toNat*5)) 3)=some (.bool v4)∧∃v5:Bool,aN h (adr (adr a (tj.toNat*5)) 4)=some (.bool v5)∧
   (((0:Int)≤ti∧ti<((s.len:Nat):Int))∧∃a:Addr,s.a=some a∧∃w1:ByteArray,aN h (adr (adr a (ti.toNat*5)) 0)=some (.string w1)∧∃w2:ByteArray,aN h (adr (adr a (ti.toNat*5)) 1)=some (.string w2)∧∃w3:ByteArray,aN h (adr (adr a (ti.toNat*5)) 2)=some (.string w3)∧∃w4:Bool,aN h (adr (adr a (ti.toNat*5)) 3)=some (.bool w4)∧∃w5:Bool,aN h (adr (adr a (ti.toNat*5)) 4)=some (.bool w5)∧
    (((0:Int)≤ti∧ti<((s.len:Nat):Int))∧∃a:Addr,s.a=some a∧(dq h (some (adr a (ti.toNat*5))) 0 [.string v1,.string v2,.string v3,.bool v4,.bool v5]∧At (aV h (adr a (ti.toNat*5)) 0 [.string v1,.string v2,.string v3,.bool v4,.bool v5]) (fun h1=>
     (((0:Int)≤tj∧tj<((s.len:Nat):Int))∧∃a:Addr,s.a=some a∧(dq h1 (some (adr a (tj.toNat*5))) 0 [.string w1,.string w2,.string w3,.bool w4,.bool w5]∧At (aV h1 (adr a (tj.toNat*5)) 0 [.string w1,.string w2,.string w3,.bool w4,.bool w5]) R)))))):=by
 refine hs.rd ej hj (hs.rd ei hi (hs.st (x:=d[j]!) ei hi fun h1 hs1 k1=>hs1.st (x:=d[i]!) ej (by simpa using hj)fun h2 hs2 k2=>hR h2 hs2 (k1.tr k2)))
theorem SA.less(hs:SA dec M s h d){ti tj:Int}{i j:Nat}(ei:ti=(i:Int))(ej:tj=(j:Int))(hi:i<d.size)(hj:j<d.size){R:Int→af→Prop}(hR:∀h' e,SA dec M s h' d→Upd No h h'→decide(e<0)=j1 dec d[i]! d[j]!→R e h'):
  ((0:Int)≤ti∧ti<((s.len:Nat):Int))∧∃a:Addr,s.a=some a∧∃v1:ByteArray,aN h(adr(adr a(ti.toNat*5)) 0)=some(.string v1)∧∃v2:ByteArray,aN h(adr(adr a(ti.toNat*5)) 1)=some(.string v2)∧∃v3:ByteArray,aN h(adr(adr a(ti.toNat*5)) 2)=some(.string v3)∧∃v4:Bool,aN h(adr(adr a(ti.toNat*5)) 3)=some(.bool v4)∧∃v5:Bool,aN h(adr(adr a(ti.toNat*5)) 4)=some(.bool v5)∧
   (((0:Int)≤tj∧tj<((s.len:Nat):Int))∧∃a:Addr,s.a=some a∧∃w1:ByteArray,aN h(adr(adr a(tj.toNat*5)) 0)=some(.string w1)∧∃w2:ByteArray,aN h(adr(adr a(tj.toNat*5)) 1)=some(.string w2)∧∃w3:ByteArray,aN h(adr(adr a(tj.toNat*5)) 2)=some(.string w3)∧∃w4:Bool,aN h(adr(adr a(tj.toNat*5)) 3)=some(.bool w4)∧∃w5:Bool,aN h(adr(adr a(tj.toNat*5)) 4)=some(.bool w5)∧
    HV PG qi[.agg #[.string v1,.string v2,.string v3,.bool v4,.bool v5],.agg #[.string w1,.string w2,.string w3,.bool w4,.bool w5]][.c(.int .i64)] R h):=
 hs.rd ei hi(hs.rd ej hj((SZ M).call(dec d[i]!)(dec d[j]!) trivial fun h' e k he=>hR h' e(hs.upd0 k) k he))
theorem MQ(hs:SA dec M s h d){a e:Nat}(ha:a≤e)(he:e≤d.size){K:Unit→af→Prop}(hk:∀h',SA dec M s h'(insertionSort(j1 dec) d a e)→Upd M h h'→K() h'):
  HC PG cZ [.slice s.a s.len s.cap,.int .i64 a,.int .i64 e,qi] [] K h:=by
 refine gF s a e qi ?_;unfold eG aj bP;have hsm:=hs.small;refine LoopP.ghost (fun(g:Nat×Array Int) (t:Int) h'=>t=(g.1:Int)∧SA dec M s h' g.2∧g.2.size=d.size∧insOuter (j1 dec) a e g.1 g.2=insertionSort (j1 dec) d a e∧Upd M h h'∧a<g.1) (fun g=>e-g.1) (a+1,d)
  ⟨by rw[cR (by omega)];rfl,hs,rfl,rfl,Upd.refl _ _,by simp⟩ ?_
 rintro I ⟨i,d1⟩ t h1 ⟨ht,hs1,hz1,hr1,hu1,hai⟩ hI;simp only at ht hs1 hz1 hr1 hai;subst ht;refine ay (fun hlt=>?_)fun hge=>?_
 ·have hlt:i<e:=by omega
  refine LoopP.ghost (fun(g:Nat×Array Int) (t:Int) h'=>t=(g.1:Int)∧SA dec M s h' g.2∧g.2.size=d.size∧insInner (j1 dec) a g.1 g.2=insInner (j1 dec) a i d1∧Upd M h h'∧g.1≤i) (fun g=>g.1) (i,d1)
   ⟨rfl,hs1,hz1,rfl,hu1,au _⟩ ?_
  rintro I2 ⟨j,d2⟩ t h2 ⟨ht,hs2,hz2,hr2,hu2,hji⟩ hI2;simp only at ht hs2 hz2 hr2 hji;subst ht;refine Join.intro (fun t h'=>SA dec M s h' d2∧Upd No h2 h'∧(t=true↔a<j∧(j1 dec) d2[j]! d2[j-1]!=true)) (fun R hR=>?_) ?_
  ·refine ay (fun hgt=>?_)fun hle=>hR _ _ ⟨hs2,Upd.refl _ _,by simp;omega⟩
   have hgt:a<j:=by omega
   exact hs2.less rfl (j:=j-1) (by rw[cR (by omega)];omega) (by omega) (by omega)fun h3 e3 hs3 k3 he3=>hR _ _ ⟨hs3,k3,by rw[he3];simp[hgt]⟩
  ·rintro t h' ⟨hs3,k3,htr⟩
   have hu3:=hu2.tr k3.wide;refine CondP.intro (fun h3=>?_)fun h3=>?_
   ·obtain⟨h4,h5⟩:=htr.1 h3
    refine hs3.swap (i:=j) (j:=j-1) rfl (by rw[cR (by omega)];omega) (by omega) (by omega)fun h6 hs6 hu6=>?_
    refine hI2 (j-1,swp d2 j (j-1)) _ _ ⟨by rw[cR (by omega)];simp only;omega,hs6,by simp[hz2],?_,hu3.tr hu6,by simp only;omega⟩ (by simp only;omega)
    rw[←hr2];obtain⟨j',rfl⟩:∃j',j=j'+1:=⟨j-1,by omega⟩
    simp only[Nat.add_sub_cancel]at h5⊢;rw[insInner,if_pos (by simp[h5,h4])]
   ·have hnot:¬(a<j∧(j1 dec) d2[j]! d2[j-1]!=true):=fun hh=>by rw[htr.2 hh]at h3;cases h3
    have hin:insInner (j1 dec) a j d2=d2:=by
     cases j with
     |zero=>rw[insInner]
     |succ j=>
      simp only[Nat.add_sub_cancel]at hnot;rw[insInner,if_neg (by simpa using hnot)]
    refine hI (i+1,d2) _ _ ⟨by rw[cR (by omega)];rfl,hs3,hz2,?_,hu3,by simp only;omega⟩ (by simp only;omega)
    rw[←hr1];conv=>rhs;rw[insOuter]
    rw[if_pos hlt,←hr2,hin]
 ·refine hk _ ?_ hu1
  rw[←hr1,insOuter,if_neg (by omega)];exact hs1
end Go.Proofs
namespace Go.Proofs
open Go Go.Lift Go.Sort
variable {dec:Int→Ch} {M:Nat→Prop} {s:SliceV} {h:af} {d:Array Int}
@[simp] theorem RA(lt:Int→Int→Bool)(hi first root:Nat)(d:Array Int):(siftDown lt hi first root d).size=d.size:=by
 fun_induction siftDown lt hi first root d<;>simp_all
@[simp] theorem E1(lt:Int→Int→Bool)(hi first:Nat):∀(k:Nat) (d:Array Int),(heapBuild lt hi first k d).size=d.size
 |0,d=>rfl
 |k+1,d=>by rw[heapBuild,E1 lt hi first k];simp
theorem CP{root hi first:Nat}(hs:SA dec M s h d)(hb:first+hi≤d.size){K:Unit→af→Prop}(hk:∀h',SA dec M s h'(siftDown(j1 dec) hi first root d)→Upd M h h'→K() h')(hr:root≤1000000000):
  HC PG dN [.slice s.a s.len s.cap,.int .i64 root,.int .i64 hi,.int .i64 first,qi] [] K h:=by
 refine ns s root hi first qi ?_
 unfold iC aj bP;have hsm:=hs.small;refine LoopP.ghost (fun(g:Nat×Array Int) (t:Int) h'=>t=(g.1:Int)∧SA dec M s h' g.2∧g.2.size=d.size∧siftDown (j1 dec) hi first g.1 g.2=siftDown (j1 dec) hi first root d∧Upd M h h'∧g.1≤1000000000) (fun g=>hi-g.1) (root,d)
  ⟨rfl,hs,rfl,rfl,Upd.refl _ _,hr⟩ ?_
 rintro I ⟨i,d1⟩ t h1 ⟨ht,hs1,hz1,hr1,hu1,hi1⟩ hI;simp only at ht hs1 hz1 hr1 hi1;subst ht;have w1:ac .i64 (ac .i64 (2*(i:Int))+1)=((2*i+1:Nat):Int):=by rw[cR (x:=2*(i:Int)) (by omega),cR (by omega)];omega
 have w2:ac .i64 (((2*i+1:Nat):Int)+1)=((2*i+2:Nat):Int):=by rw[cR (by omega)];omega
 rw[w1];refine ay (fun hge=>?_)fun hlt=>?_
 ·refine hk _ ?_ hu1
  rw[←hr1,siftDown,dif_pos (by omega)];exact hs1
 ·have hlt:2*i+1<hi:=by omega
  refine Join.intro (fun t h'=>SA dec M s h' d1∧Upd No h1 h'∧∃c:Nat,t=(c:Int)∧c=if 2*i+2<hi∧(j1 dec) d1[first+(2*i+1)]! d1[first+(2*i+1)+1]!=true then 2*i+2 else 2*i+1) (fun R hR=>?_) ?_
  ·refine Join.intro (fun t h'=>SA dec M s h' d1∧Upd No h1 h'∧(t=true↔2*i+2<hi∧(j1 dec) d1[first+(2*i+1)]! d1[first+(2*i+1)+1]!=true)) (fun R2 hR2=>?_) ?_
   ·show CondP (decide (ac .i64 (((2*i+1:Nat):Int)+1)<(hi:Int))) _ _
    rw[w2];refine ay (fun h3=>?_)fun h3=>hR2 _ _ ⟨hs1,Upd.refl _ _,by simp;omega⟩
    show(((0:Int)≤ac .i64 ((first:Int)+((2*i+1:Nat):Int))∧_)∧_)
    refine hs1.less (i:=first+(2*i+1)) (j:=first+(2*i+1)+1) (by rw[cR (by omega)];omega) (by rw[cR (x:=(first:Int)+_) (by omega),cR (by omega)];omega) (by omega) (by omega)fun h4 e4 hs4 k4 he4=>hR2 _ _ ⟨hs4,k4,?_⟩
    rw[he4];simp;omega
   ·rintro t h' ⟨hs4,k4,htr⟩
    refine CondP.intro (fun h3=>?_)fun h3=>?_
    ·show R (ac .i64 (((2*i+1:Nat):Int)+1)) _
     rw[w2];exact hR _ _ ⟨hs4,k4,_,rfl,by rw[if_pos (htr.1 h3)]⟩
    ·exact hR _ _ ⟨hs4,k4,_,rfl,by rw[if_neg fun hh=>by rw[htr.2 hh]at h3;cases h3]⟩
  ·rintro t h' ⟨hs4,k4,c,rfl,hc⟩
   have hcb:c<hi∧i<c:=by rw[hc];split<;>omega
   refine hs4.less (i:=first+i) (j:=first+c) (by rw[cR (by omega)];omega) (by rw[cR (by omega)];omega) (by omega) (by omega)fun h5 e5 hs5 k5 he5=>?_
   have hu5:=hu1.tr (k4.tr k5).wide;rw[he5];have hstep:siftDown (j1 dec) hi first i d1=if !(j1 dec) d1[first+i]! d1[first+c]! then d1 else siftDown (j1 dec) hi first c (swp d1 (first+i) (first+c)):=by
    rw[siftDown,dif_neg (by omega)];by_cases hq:2*i+2<hi∧(j1 dec) d1[first+(2*i+1)]! d1[first+(2*i+1)+1]!=true
    ·rw[if_pos (by simp only[bd,decide_eq_true_iff];exact hq),dif_pos hq.1]
     rw[if_pos hq]at hc;rw[hc]
    ·rw[if_neg (by simp only[bd,decide_eq_true_iff];exact hq)]
     rw[if_neg hq]at hc;rw[hc]
   refine CondP.intro (fun h3=>?_)fun h3=>?_
   ·refine hk _ ?_ hu5
    rw[←hr1,hstep,if_pos h3];exact hs5
   ·refine hs5.swap (i:=first+i) (j:=first+c) (by rw[cR (by omega)];omega) (by rw[cR (by omega)];omega) (by omega) (by omega)fun h6 hs6 hu6=>?_
    refine hI (c,swp d1 (first+i) (first+c)) _ _ ⟨rfl,hs6,by simp[hz1],?_,hu5.tr hu6,by simp only;omega⟩ (by simp only;omega)
    rw[←hr1,hstep,if_neg (by rw[h3];simp)]
theorem KS{a e:Nat}(hs:SA dec M s h d)(ha:a≤e)(he:e≤d.size){K:Unit→af→Prop}(hk:∀h',SA dec M s h'(heapSort(j1 dec) d a e)→Upd M h h'→K() h'):
  HC PG fu [.slice s.a s.len s.cap,.int .i64 a,.int .i64 e,qi] [] K h:=by
 refine nu s a e qi ?_;unfold iD aj bP;have hsm:=hs.small;have w1:ac .i64 ((e:Int)-(a:Int))=((e-a:Nat):Int):=by rw[cR (by omega)];omega
 rw[w1];refine⟨by decide,?_⟩;have hst:ac .i64 (mG (ac .i64 (((e-a:Nat):Int)-1)) 2)=(((e-a-1)/2+1:Nat):Int)-1:=by
  rw[cR (x:=((e-a:Nat):Int)-1) (by omega)];by_cases h0:e-a=0
  ·rw[h0];decide
  ·rw[Int.tdiv_eq_ediv_of_nonneg (by omega),cR (by omega)];omega
 show LoopP _ (ac .i64 (mG (ac .i64 (((e-a:Nat):Int)-1)) 2)) h
 rw[hst];refine LoopP.ghost (fun(g:Nat×Array Int) (t:Int) h'=>t=(g.1:Int)-1∧SA dec M s h' g.2∧g.2.size=d.size∧heapBuild (j1 dec) (e-a) a g.1 g.2=heapBuild (j1 dec) (e-a) a ((e-a-1)/2+1) d∧Upd M h h'∧g.1≤1000000000) (fun g=>g.1) ((e-a-1)/2+1,d)
  ⟨rfl,hs,rfl,rfl,Upd.refl _ _,by simp only;omega⟩ ?_
 rintro I ⟨k,d1⟩ t h1 ⟨ht,hs1,hz1,hr1,hu1,hk1⟩ hI;simp only at ht hs1 hz1 hr1 hk1;subst ht;refine ay (fun hge=>?_)fun hlt=>?_
 ·obtain⟨k,rfl⟩:∃k',k=k'+1:=⟨k-1,by omega⟩
  have e1:((k+1:Nat):Int)-1=(k:Int):=by omega
  rw[e1];refine CP hs1 (by omega) (fun h2 hs2 hu2=>hI (k,_) _ _ ⟨by rw[cR (by omega)],hs2,by simp[hz1],?_,hu1.tr hu2,by simp only;omega⟩ (by simp)) (by omega)
  rw[←hr1];rfl
 ·have:k=0:=by omega
  subst this;rw[cR (x:=((e-a:Nat):Int)-1) (by omega)];refine LoopP.ghost (fun(g:Nat×Array Int) (t:Int) h'=>t=(g.1:Int)-1∧SA dec M s h' g.2∧g.2.size=d.size∧heapPop (j1 dec) a g.1 g.2=heapSort (j1 dec) d a e∧Upd M h h'∧g.1≤e-a) (fun g=>g.1) (e-a,d1)
   ⟨rfl,hs1,hz1,by rw[heapSort,←hr1];rfl,hu1,au _⟩ ?_
  rintro I2 ⟨k,d2⟩ t h2 ⟨ht,hs2,hz2,hr2,hu2,hk2⟩ hI2;simp only at ht hs2 hz2 hr2 hk2;subst ht;refine ay (fun hge=>?_)fun hlt2=>?_
  ·obtain⟨k,rfl⟩:∃k',k=k'+1:=⟨k-1,by omega⟩
   have e1:((k+1:Nat):Int)-1=(k:Int):=by omega
   rw[e1];refine hs2.swap (i:=a) (j:=a+k) rfl (by rw[cR (by omega)];omega) (by omega) (by omega)fun h3 hs3 hu3=>?_
   refine CP (root:=0) hs3 (by simp;omega) (fun h4 hs4 hu4=>hI2 (k,_) _ _ ⟨by rw[cR (by omega)],hs4,by simp[hz2],?_,(hu2.tr hu3).tr hu4,by simp only;omega⟩ (by simp)) (by omega)
   rw[←hr2];rfl
  ·have:k=0:=by omega
   subst this;refine hk _ ?_ hu2;rw[←hr2];exact hs2
theorem Kd{a e:Nat}(hs:SA dec M s h d)(ha:a<e)(he:e≤d.size){K:Unit→af→Prop}(hk:∀h',SA dec M s h'(reverseRange d a e)→Upd M h h'→K() h'):
  HC PG eJ [.slice s.a s.len s.cap,.int .i64 a,.int .i64 e,qi] [] K h:=by
 refine lE s a e qi ?_;unfold gN aj bP;have hsm:=hs.small;refine LoopP.ghost (fun(g:Nat×Nat×Array Int) (t:Int×Int) h'=>t.1=(g.1:Int)∧t.2=(g.2.1:Int)∧SA dec M s h' g.2.2∧g.2.2.size=d.size∧reverseLoop g.1 g.2.1 g.2.2=reverseRange d a e∧Upd M h h'∧g.2.1<e) (fun g=>g.2.1-g.1) (a,e-1,d)
  ⟨rfl,by simp only;rw[cR (by omega)];omega,hs,rfl,rfl,Upd.refl _ _,by simp only;omega⟩ ?_
 rintro I ⟨i,j,d1⟩ ⟨t1,t2⟩ h1 ⟨ht1,ht2,hs1,hz1,hr1,hu1,hj⟩ hI;simp only at ht1 ht2 hs1 hz1 hr1 hj;subst ht1 ht2;refine ay (fun hlt=>?_)fun hge=>?_
 ·have hlt:i<j:=by have:(i:Int)<(j:Int):=hlt;omega
  refine hs1.swap (i:=i) (j:=j) rfl rfl (by omega) (by omega)fun h2 hs2 hu2=>?_
  refine hI (i+1,j-1,swp d1 i j) _ _ ⟨by simp only;rw[cR (by omega)];rfl,by simp only;rw[cR (by omega)];omega,hs2,by simp[hz1],?_,hu1.tr hu2,by simp only;omega⟩ (by simp only;omega)
  rw[←hr1];conv=>rhs;rw[reverseLoop]
  rw[if_pos hlt]
 ·refine hk _ ?_ hu1
  rw[←hr1,reverseLoop,if_neg (by have hge:¬(i:Int)<(j:Int):=hge;omega)];exact hs1
end Go.Proofs
