/- A part of the proof that the named laws of this program answer true, whatever the input. -/
import Derived.Test.YtncppacbfagpgaaGreatPart10
open Int renaming tmod→jE
open List renaming take_take→iK,getElem?_eq_getElem→ai,take_length→cS,length_append→ac
open Nat renaming min_eq_right→gt,min_eq_left→bF,zero_le→bw,le_refl→aq,lt_of_lt_of_le→aE
namespace Go.Proofs
open Go Go.Lift
def eK(L0 l:List Pr):List Pr:=(l.take 20).foldl (fun acc p=>gV (GA p) acc) L0
theorem HI{L0 l:List Pr}{i:Nat}(hi:i<l.length)(hh20:i<20):eK L0 (l.take (i+1))=gV (GA l[i]) (eK L0 (l.take i)):=by
 unfold eK;rw[iK,iK,gt (by omega),gt (by omega),List.take_succ_eq_append_getElem hi,List.foldl_append];rfl
theorem HJ{L0 l:List Pr}{i:Nat}(hh20:20≤i):eK L0 (l.take (i+1))=eK L0 (l.take i):=by
 unfold eK;rw[iK,iK,bF (by omega),bF (by omega)]
theorem ly{n:Nat}{L0:List Pr}(f:Few n L0)(l:List Pr):Few (n+20) (eK L0 l):=by
 unfold eK;have:∀(m:List Pr) (n:Nat) (acc:List Pr),Few n acc→Few (n+m.length) (m.foldl (fun acc p=>gV (GA p) acc) acc):=by
  intro m;induction m with
  |nil=>intro n acc h;exact h
  |cons p m ih=>
   intro n acc h;have:=ih (n+1) _ (h.ins (GA p) (tB _) (tB _));rw[List.foldl_cons,List.length_cons];rw[Nat.add_assoc,Nat.add_comm 1]at this;exact this
 have h:=this (l.take 20) n L0 f;exact⟨h.up,Nat.le_trans h.len (by rw[List.length_take];omega),h.fit⟩
theorem Q9{x:Hs}{h:ad}{K:Int×Int×Int→ad→Prop}(hk:∀h',Upd No h h'→K (x.k0,x.k1,x.mask) h'):HC PG Cs [.agg #[.int .u64 x.k0,.int .u64 x.k1,.int .u64 x.mask]] [.agg [.int .u64,.int .u64,.int .u64]] K h:=by
 refine Qa (x.k0,x.k1,x.mask) ?_;unfold H4 ae aH cp Dm Vy VB;refine aM fun h1 b1 k1=>aM fun h2 b2 k2=>?_
 have c1:=k2.get0 b1;refine⟨_,sy c1 0 0,_,sy c1 0 1,_,vc c1 2,?_⟩;refine be (c:= [.int .u64 0,.int .u64 0,.int .u64 0]) (vs:= [.int .u64 x.k0,.int .u64 x.k1,.int .u64 x.mask]) b2 rfl fun h3 b3 hu3=>?_
 exact⟨_,vc b3 0,_,vc b3 1,_,vc b3 2,hk h3 ((k1.tr k2).own hu3 k1.size)⟩
theorem Nq{W:Nat→Prop}{x:Hs}{h:ad}{k:Int}(h0:0≤k)(h1:k≤255)(hW:∀y,W y→y<h.size){K:Tr×Rt→ad→Prop}
  (hk:∀h' t r,TreeIs W h' (IntKind.wrap .i64 (jE k 2)) x t []→RefIs W h' (IntKind.wrap .i64 (jE k 2)) x r []→Upd No h h'→K (t,r) h'):
  HC PG xW [.int .u8 k,.agg #[.int .u64 x.k0,.int .u64 x.k1,.int .u64 x.mask]] [.agg [.int .i64,.int .u64,.int .u64,.int .u64,.ptr,.ptr],.agg [.int .i64,.int .u64,.int .u64,.int .u64,.slice]] K h:=by
 refine LA k (x.k0,x.k1,x.mask) ?_;unfold DR aN ae ax cp nv Dm zm rB oa tY MF KP tf df Am xB xJ EE;have hkd:=Vn h0 h1;generalize IntKind.wrap .i64 (jE k 2)=kind at hkd hk⊢;refine aM fun h1 b1 k1=>aM fun h2 b2 k2=>aM fun h3 b3 k3=>⟨by decide,?_⟩
 have z1:=aO b1;have z2:=aO b2;have z3:=aO b3;have s1:h.size≤h1.size:=k1.size;have s2:h1.size≤h2.size:=k2.size;have k03:=(k1.tr k2).tr k3;have c1:=k3.get0 (k2.get0 b1);have c2:=k3.get0 b2;have s3:=k3.size;refine⟨_,vc c1 0,_,vc c1 1,_,vc c1 2,?_⟩;refine N9 (W:=Pro W h h3) (x:=x) (Pro.lt hW k03) hkd fun h8 t i8 k8=>?_
 refine uV (t:=t) fun h10 b10 k810=>⟨by decide,?_⟩
 have s8:=k8.size;have UQ:=k810.size;have z10:=aO b10;have d1:=k810.get0 (k8.get0 c1);refine⟨_,vc d1 0,_,vc d1 1,_,vc d1 2,?_⟩;refine Q9 (x:=x) fun h15 k15=>?_
 have s15:=k15.size;refine SW (x:=x) (W:=Pro W h h3) hkd fun h17 r j17 k17=>?_
 have s17:=k17.size;refine Vh (r:=r) fun hL bL k17L=>?_
 have sL:=k17L.size;have zL:=aO bL;have k8L:Upd No h8 hL:=((k810.tr k15).tr k17).tr k17L;have kL:Upd No h hL:=(k03.tr k8).tr k8L;have tL:=k17L.get0 ((k15.tr k17).get0 b10);have rL1:=k8L.get0 (k8.get0 c2);have rL2:=k8L.get0 (k8.get0 b3);have hP1:Pro W h h3 h1.size:=.inr (by omega);have hP2:Pro W h h3 h2.size:=.inr (by omega);refine⟨_,vc tL 0,_,vc tL 1,_,vc tL 2,_,vc tL 3,_,vc tL 4,_,vc tL 5,_,vc bL 0,_,vc bL 1,_,vc bL 2,_,vc bL 3,r.2.2.2.2,vc bL 4,?_⟩
 refine be (c:=fz sH) (vs:=fz t) rL1 rfl fun h70 b70 hu70=>?_
 have x70:=hu70.oth bL (by omega);refine⟨⟨vc x70 0,vc x70 1,vc x70 2,vc x70 3,vc x70 4⟩,?_⟩;refine be (c:=pG Iu) (vs:=pG r) (hu70.oth rL2 (by omega)) rfl fun h71 b71 hu71=>?_
 have t71:=hu71.oth b70 (by omega);refine⟨_,vc t71 0,_,vc t71 1,_,vc t71 2,_,vc t71 3,_,vc t71 4,_,vc t71 5,_,vc b71 0,_,vc b71 1,_,vc b71 2,_,vc b71 3,r.2.2.2.2,vc b71 4,?_⟩;refine hk h71 t r ((((i8.upd0 k8L).updM hu70 fun y hy=>.inl (by have hy:y=h1.size:=hy;rw[hy];exact hP1)).updM hu71 fun y hy=>.inl (by have hy:y=h2.size:=hy;rw[hy];exact hP2)).less Pro.sub) ((((j17.upd0 k17L).updM hu70 fun y hy=>.inl (by have hy:y=h1.size:=hy;rw[hy];exact hP1)).updM hu71 fun y hy=>.inl (by have hy:y=h2.size:=hy;rw[hy];exact hP2)).less Pro.sub) ((kL.own hu70 s1).own hu71 (by omega))
set_option maxHeartbeats 1000000 in
theorem th{W:Nat→Prop}{x:Hs}{h:ad}{s sg:SliceV}{l L0 R0:List Pr}{g:List ByteArray}{kind:Int}{t:Tr}{r:Rt}{n:Nat}(it:TreeIs W h kind x t L0)(jr:RefIs W h kind x r R0)(fw0:Few n L0)(fr0:Few n R0)(hn0:n≤1000)(hs:Sl eu 2 W h s l)(hg:Sl Ue 1 W h sg g)(hW:∀y,W y→y<h.size)(hn:l.length≤9223372036854775807)(hgn:g.length≤9223372036854775807){K:Tr×Rt→ad→Prop}
  (hk:∀h' t' r',TreeIs W h' kind x t' (m0 (eK L0 l) g)→RefIs W h' kind x r' (m0 (eK R0 l) g)→Upd No h h'→K (t',r') h'):
  HC PG nf [zo t,VU r,.slice s.a s.len s.cap,.slice sg.a sg.len sg.cap] [.agg [.int .i64,.int .u64,.int .u64,.int .u64,.ptr,.ptr],.agg [.int .i64,.int .u64,.int .u64,.int .u64,.slice]] K h:=by
 refine Lz t r s sg ?_;unfold DQ ay cj aN ae ax aD au cp nv jR rB oa nZ jH tY tf df Am xB Ic xJ dU qF EE;refine aM fun h1 b1 k1=>aM fun h2 b2 k2=>aM fun h3 b3 k3=>aM fun hL b4 k4=>?_
 have z1:=aO b1;have z2:=aO b2;have z3:=aO b3;have z4:=aO b4;have s1:h.size≤h1.size:=k1.size;have s2:h1.size≤h2.size:=k2.size;have s3:h2.size≤h3.size:=k3.size;have s4:=k4.size;have kL:Upd No h hL:=((k1.tr k2).tr k3).tr k4;have t0:=k4.get0 (k3.get0 (k2.get0 b1));have x0:=k4.get0 (k3.get0 b2);have rL1:=k4.get0 b3;have rL2:=b4;have iL:=it.pro kL;have jL:RefIs (Pro W h hL) hL kind x r R0:=(jr.less (W':=Pro W h hL) Pro.hm).upd0 kL
 have hWL:=Pro.lt hW kL;have hPt:Pro W h hL h.size:=.inr (by omega);have hPx:Pro W h hL h1.size:=.inr (by omega);have hP1:Pro W h hL h2.size:=.inr (by omega);have hP2:Pro W h hL h3.size:=.inr (by omega);have hlen:=hs.len;refine LoopP.ghost (fun(i:Nat) (ti:Int) h'=>ti=(i:Int)∧i≤l.length∧(∃tv rv,TreeIs (Pro W h hL) h' kind x tv (eK L0 (l.take i))∧RefIs (Pro W h hL) h' kind x rv (eK R0 (l.take i))∧h'[h.size]? =some (.cells (fz tv).toArray aL (0,0))∧h'[h1.size]? =some (.cells (pG rv).toArray fI (0,0)))∧Upd (fun y=>y=h.size∨y=h1.size) hL h') (fun i=>l.length-i) 0 ⟨rfl,bw _,⟨t,r,iL,jL,t0,x0⟩,Upd.refl _ _⟩ ?_
 rintro I i ti h' ⟨rfl,hi,⟨tv,rv,it,jr,bt,bx⟩,hu⟩ hI;have hus:=hu.size;have hu0:Upd No h h':=kL.trans hu fun y hy=>.inr (by rcases hy with rfl|rfl<;>omega)
 refine aA (fun hlt=>?_) fun hge=>?_
 ·have hlt:i<l.length:=by omega
  obtain⟨a,ha,_,hv⟩:=(hs.upd hu0 fun _ h=>h.elim).at (ai hlt)
  refine Join.intro (fun _ h2'=>(∃tv rv,TreeIs (Pro W h hL) h2' kind x tv (eK L0 (l.take (i+1)))∧RefIs (Pro W h hL) h2' kind x rv (eK R0 (l.take (i+1)))∧h2'[h.size]? =some (.cells (fz tv).toArray aL (0,0))∧h2'[h1.size]? =some (.cells (pG rv).toArray fI (0,0)))∧Upd (fun y=>y=h.size∨y=h1.size) hL h2') (fun R hR=>⟨⟨by omega,by omega⟩,a,ha,l[i].1,hv 0 _ rfl,l[i].2,hv 1 _ rfl,?_⟩) ?_
  ·refine xD (p:=l[i]) fun h28 b28 k28=>?_
   have z28:=aO b28;have nt:h'.size≠h.size:=by omega
   have nx:h'.size≠h1.size:=by omega
   refine aA (fun hh20=>?_) fun hh20=>?_
   ·have hh20:i<20:=by omega
    rw[HI hlt hh20,HI hlt hh20]at hR;obtain⟨q1,e1⟩:=UE l[i].1;obtain⟨q2,e2⟩:=UE l[i].2;refine⟨_,vc b28 0,_,vc b28 0,q1,?_⟩;simp only[Bd];refine⟨_,vc b28 1,_,vc b28 1,q2,?_⟩;rw[e1,e2];refine BT (c':= #[.string (vC l[i].1),.string l[i].2]) b28 (by simp) rfl fun h29 b29 hu29=>?_
    refine BT (c':= #[.string (vC l[i].1),.string (vC l[i].2)]) b29 (by simp) rfl fun h35 b35 hu35=>?_
    have k35:Upd No h' h35:=(k28.own hu29 (aq _)).own hu35 (aq _);have t35:=k35.get0 bt;have x35:=k35.get0 bx;have s35:=k35.size;have fw:=ly fw0 (l.take i);have fl:=fw.len;have gw:=ly fr0 (l.take i);have gl:=gw.len;have p1:=tB l[i].1;have p2:=tB l[i].2;refine⟨_,vc t35 0,_,vc t35 1,_,vc t35 2,_,vc t35 3,_,vc t35 4,_,vc t35 5,_,vc b35 0,_,vc b35 1,?_⟩;refine EO (it.upd0 k35) (fun y hy=>aE (hWL y hy) (by omega)) fw.up (by omega) (GA l[i]) (by unfold GA;simp only;omega) (by unfold GA;simp only;omega) fun h45 t' i45 _ k45=>?_
    refine be (c:=fz tv) (vs:=fz t') (k45.get0 t35) rfl fun h46 t46 hu46=>?_
    have x46:=hu46.oth (k45.get0 x35) (by omega);have p46:=hu46.oth (k45.get0 b35) nt;have j46:=((jr.upd0 k35).upd0 k45).updM hu46 fun y hy=>.inl (by have hy:y=h.size:=hy;rw[hy];exact hPt)
    have s45:=k45.size;have s46:=hu46.size;refine⟨_,vc x46 0,_,vc x46 1,_,vc x46 2,_,vc x46 3,rv.2.2.2.2,vc x46 4,_,vc p46 0,_,vc p46 1,?_⟩;refine Q2 j46 (fun y hy=>aE (hWL y hy) (by omega)) gw.up (by omega) (GA l[i]) (by unfold GA;simp only;omega) (by unfold GA;simp only;omega) fun h55 r' j55 k55=>?_
    refine be (c:=pG rv) (vs:=pG r') (k55.get0 x46) rfl fun h56 x56 hu56=>hR _ _ ⟨⟨t',r',?_,j55.updM hu56 fun y hy=>.inl (by have hy:y=h1.size:=hy;rw[hy];exact hPx),hu56.oth (k55.get0 t46) (by omega),x56⟩,?_⟩
    ·exact((i45.updM hu46 fun y hy=>.inl (by have hy:y=h.size:=hy;rw[hy];exact hPt)).upd0 k55).updM hu56 fun y hy=>.inl (by have hy:y=h1.size:=hy;rw[hy];exact hPx)
    ·exact((((hu.tr k35.wide).tr k45.wide).trans hu46 fun y hy=>.inl (.inl hy)).tr k55.wide).trans hu56 fun y hy=>.inl (.inr hy)
   ·have hh20:20≤i:=by omega
    rw[HJ hh20,HJ hh20]at hR;exact hR _ _ ⟨⟨tv,rv,it.upd0 k28,jr.upd0 k28,k28.get0 bt,k28.get0 bx⟩,hu.tr k28.wide⟩
  ·rintro _ h2' ⟨hex,hu2⟩
   rw[pd hlt hn];exact hI (i+1) _ _ ⟨rfl,hlt,hex,hu2⟩ (by omega)
 ·have hil:i=l.length:=by omega
  subst hil;rw[cS]at it jr;have y1:=hu.get rL1 (by rintro(e|e)<;>omega)
  have y2:=hu.get rL2 (by rintro(e|e)<;>omega)
  have hgl:=hg.len;have fw1:=ly fw0 l;have fr1:=ly fr0 l;generalize eK L0 l=L1 at it hk fw1;generalize eK R0 l=R1 at jr hk fr1;refine LoopP.ghost (fun(i:Nat) (ti:Int) h2'=>ti=(i:Int)∧i≤g.length∧(∃tv rv,TreeIs (Pro W h hL) h2' kind x tv (m0 L1 (g.take i))∧RefIs (Pro W h hL) h2' kind x rv (m0 R1 (g.take i))∧h2'[h.size]? =some (.cells (fz tv).toArray aL (0,0))∧h2'[h1.size]? =some (.cells (pG rv).toArray fI (0,0)))∧Upd (fun y=>y=h.size∨y=h1.size) hL h2') (fun i=>g.length-i) 0 ⟨rfl,bw _,⟨tv,rv,it,jr,bt,bx⟩,hu⟩ ?_
  clear hI it jr bt bx y1 y2 hu hus hu0 tv rv;rintro I2 i ti h' ⟨rfl,hi,⟨tv,rv,it,jr,bt,bx⟩,hu⟩ hI2;have hus:=hu.size;have hu0:Upd No h h':=kL.trans hu fun y hy=>.inr (by rcases hy with rfl|rfl<;>omega)
  refine aA (fun hlt=>?_) fun hge=>?_
  ·have hlt:i<g.length:=by omega
   obtain⟨a,ha,_,hv⟩:=(hg.upd hu0 fun _ h=>h.elim).at0 (ai hlt)
   refine Join.intro (fun _ h2'=>(∃tv rv,TreeIs (Pro W h hL) h2' kind x tv (m0 L1 (g.take (i+1)))∧RefIs (Pro W h hL) h2' kind x rv (m0 R1 (g.take (i+1)))∧h2'[h.size]? =some (.cells (fz tv).toArray aL (0,0))∧h2'[h1.size]? =some (.cells (pG rv).toArray fI (0,0)))∧Upd (fun y=>y=h.size∨y=h1.size) hL h2') (fun R hR=>⟨⟨by omega,by omega⟩,a,ha,g[i],hv,?_⟩) ?_
   ·refine aA (fun h15=>?_) fun h15=>?_
    ·have h15:i<15:=by omega
     rw[K5 hlt h15,K5 hlt h15]at hR;obtain⟨q1,e1⟩:=UE g[i];refine⟨q1,?_⟩;simp only[Bd];rw[e1];refine⟨_,vc bt 0,_,vc bt 1,_,vc bt 2,_,vc bt 3,_,vc bt 4,_,vc bt 5,?_⟩;have fw:=xQ fw1 (g.take i);have fl:=fw.len;have gw:=xQ fr1 (g.take i);have gl:=gw.len;have p1:=tB g[i];refine Da it (fun y hy=>aE (hWL y hy) (by omega)) fw.up fw.fits (by omega) (vC g[i]) (by omega) fun h45 t' i45 _ k45=>?_
     refine be (c:=fz tv) (vs:=fz t') (k45.get0 bt) rfl fun h46 t46 hu46=>?_
     have x46:=hu46.oth (k45.get0 bx) (by omega);have j46:=(jr.upd0 k45).updM hu46 fun y hy=>.inl (by have hy:y=h.size:=hy;rw[hy];exact hPt)
     have s45:=k45.size;have s46:=hu46.size;refine⟨_,vc x46 0,_,vc x46 1,_,vc x46 2,_,vc x46 3,rv.2.2.2.2,vc x46 4,?_⟩;refine Kh j46 (fun y hy=>aE (hWL y hy) (by omega)) gw.up gw.fits (by omega) (vC g[i]) (by omega) fun h55 r' _ j55 k55=>?_
     refine be (c:=pG rv) (vs:=pG r') (k55.get0 x46) rfl fun h56 x56 hu56=>hR _ _ ⟨⟨t',r',?_,j55.updM hu56 fun y hy=>.inl (by have hy:y=h1.size:=hy;rw[hy];exact hPx),hu56.oth (k55.get0 t46) (by omega),x56⟩,?_⟩
     ·exact((i45.updM hu46 fun y hy=>.inl (by have hy:y=h.size:=hy;rw[hy];exact hPt)).upd0 k55).updM hu56 fun y hy=>.inl (by have hy:y=h1.size:=hy;rw[hy];exact hPx)
     ·exact(((hu.tr k45.wide).trans hu46 fun y hy=>.inl (.inl hy)).tr k55.wide).trans hu56 fun y hy=>.inl (.inr hy)
    ·have h15:15≤i:=by omega
     rw[K6 h15,K6 h15]at hR;exact hR _ _ ⟨⟨tv,rv,it,jr,bt,bx⟩,hu⟩
   ·rintro _ h2' ⟨hex,hu2⟩
    rw[pd hlt hgn];exact hI2 (i+1) _ _ ⟨rfl,hlt,hex,hu2⟩ (by omega)
  have hil:i=g.length:=by omega
  subst hil;rw[cS]at it jr;have y1:=hu.get rL1 (by rintro(e|e)<;>omega)
  have y2:=hu.get rL2 (by rintro(e|e)<;>omega)
  refine⟨_,vc bt 0,_,vc bt 1,_,vc bt 2,_,vc bt 3,_,vc bt 4,_,vc bt 5,_,vc bx 0,_,vc bx 1,_,vc bx 2,_,vc bx 3,rv.2.2.2.2,vc bx 4,?_⟩;refine be (c:=fz sH) (vs:=fz tv) y1 rfl fun h70 b70 hu70=>?_
  have x70:=hu70.oth bx (by omega);refine⟨⟨vc x70 0,vc x70 1,vc x70 2,vc x70 3,vc x70 4⟩,?_⟩;refine be (c:=pG Iu) (vs:=pG rv) (hu70.oth y2 (by omega)) rfl fun h71 b71 hu71=>?_
  have t71:=hu71.oth b70 (by omega);refine⟨_,vc t71 0,_,vc t71 1,_,vc t71 2,_,vc t71 3,_,vc t71 4,_,vc t71 5,_,vc b71 0,_,vc b71 1,_,vc b71 2,_,vc b71 3,rv.2.2.2.2,vc b71 4,?_⟩;refine hk h71 tv rv (((it.updM hu70 fun y hy=>.inl (by have hy:y=h2.size:=hy;rw[hy];exact hP1)).updM hu71 fun y hy=>.inl (by have hy:y=h3.size:=hy;rw[hy];exact hP2)).less Pro.sub) (((jr.updM hu70 fun y hy=>.inl (by have hy:y=h2.size:=hy;rw[hy];exact hP1)).updM hu71 fun y hy=>.inl (by have hy:y=h3.size:=hy;rw[hy];exact hP2)).less Pro.sub) ((hu0.own hu70 (by omega)).own hu71 (by omega))
end Go.Proofs
namespace Go.Proofs
open Go Go.Lift
theorem L8(b t:Option ByteArray)(p:Int):oB b b t p=(t,true):=by
 unfold oB;by_cases h:b=t∨t=b
 ·rw[if_pos h]
  rcases h with rfl|rfl<;>rfl
 ·rw[if_neg h,if_pos rfl]
theorem Ie(b o:Option ByteArray)(p:Int):oB b o b p=(o,true):=by
 unfold oB;rw[if_pos (.inr rfl)]
theorem KH{B O T:List Pr}{p:Int}{k:ByteArray}(hB:bE B)(hT:bE T)(h:look B k=look O k):look (pY B O T p) k=look T k:=by
 rw[wC hB hT];unfold tk;rw[←h,L8]
theorem PB{B O T:List Pr}{p:Int}{k:ByteArray}(hB:bE B)(hT:bE T)(h:look B k=look T k):look (pY B O T p) k=look O k:=by
 rw[wC hB hT];unfold tk;rw[←h,Ie]
theorem B0{h:ad}{b:Nat}{t:TypeId}{A c B vs:List Value}{a:Addr}(hb:h[b]? =some (.cells (A++c++B).toArray t (0,0))) (ha:a=⟨b,A.length,none⟩) (hl:vs.length=c.length) {k:ad→Prop}
  (hk:∀h',h'[b]? =some (.cells (A++vs++B).toArray t (0,0))→Upd (· =b) h h'→k h'):qE h (some a) 0 vs∧At (fk h a 0 vs) k:=by
 subst ha;have hlen:(A++c++B).length=A.length+vs.length+B.length:=by rw[ac,ac,hl]
 have e:=jq vs h 0 A.length (A++c++B) hb (by omega);refine⟨.inr ⟨_,rfl,fun j hj=>by rw[ci];exact iI hb (by rw[List.size_toArray];omega)⟩,bq ?_⟩
 rw[e];refine hk _ ?_ (Upd.set h _ rfl);rw[jg hb];congr 3
 rw[Nat.add_zero,hl,←ac,List.drop_left,List.append_assoc A c B,List.take_left]
def w3(t0 t1 t2:Tr)(r0 r1 r2:Rt):List Value:=fz t0++(fz t1++(fz t2++(pG r0++(pG r1++pG r2))))
abbrev T33:=Int×Int×Int×Int×(Option Addr)×(Option Addr)×Int×Int×Int×Int×(Option Addr)×(Option Addr)×Int×Int×Int×Int×(Option Addr)×(Option Addr)×Int×Int×Int×Int×SliceV×Int×Int×Int×Int×SliceV×Int×Int×Int×Int×SliceV
abbrev K33:List Kind:= [.agg ((.int .i64)::(.int .u64)::(.int .u64)::(.int .u64):: .ptr:: .ptr::(.int .i64)::(.int .u64)::(.int .u64)::(.int .u64):: .ptr:: .ptr::(.int .i64)::(.int .u64)::(.int .u64)::(.int .u64):: .ptr:: .ptr::(.int .i64)::(.int .u64)::(.int .u64)::(.int .u64):: .slice::(.int .i64)::(.int .u64)::(.int .u64)::(.int .u64):: .slice::(.int .i64)::(.int .u64)::(.int .u64)::(.int .u64):: .slice:: [])]
def VZ(t0 t1 t2:Tr)(r0 r1 r2:Rt):T33:=(t0.1,t0.2.1,t0.2.2.1,t0.2.2.2.1,t0.2.2.2.2.1,t0.2.2.2.2.2,t1.1,t1.2.1,t1.2.2.1,t1.2.2.2.1,t1.2.2.2.2.1,t1.2.2.2.2.2,t2.1,t2.2.1,t2.2.2.1,t2.2.2.2.1,t2.2.2.2.2.1,t2.2.2.2.2.2,r0.1,r0.2.1,r0.2.2.1,r0.2.2.2.1,r0.2.2.2.2,r1.1,r1.2.1,r1.2.2.1,r1.2.2.2.1,r1.2.2.2.2,r2.1,r2.2.1,r2.2.2.1,r2.2.2.2.1,r2.2.2.2.2)
abbrev Ah(h:ad)(b:Nat)(t0 t1 t2:Tr)(r0 r1 r2:Rt):Prop:=h[b]? =some (.cells (w3 t0 t1 t2 r0 r1 r2).toArray rC (0,0))
theorem U9{h:ad}{b:Nat}{t0 t1 t2 u:Tr}{r0 r1 r2:Rt}{a:Addr}(hb:Ah h b t0 t1 t2 r0 r1 r2)(ha:a=⟨b,0,none⟩){k:ad→Prop}(hk:∀h',Ah h' b u t1 t2 r0 r1 r2→Upd (· =b) h h'→k h'):qE h (some a) 0 (fz u)∧At (fk h a 0 (fz u)) k:=
 B0 (A:= []) (c:=fz t0) (B:=fz t1++(fz t2++(pG r0++(pG r1++pG r2)))) (vs:=fz u) hb ha rfl fun h1 hb1 hu=>hk h1 hb1 hu
theorem TK{h:ad}{b:Nat}{t0 t1 t2 u:Tr}{r0 r1 r2:Rt}{a:Addr}(hb:Ah h b t0 t1 t2 r0 r1 r2)(ha:a=⟨b,6,none⟩){k:ad→Prop}(hk:∀h',Ah h' b t0 u t2 r0 r1 r2→Upd (· =b) h h'→k h'):qE h (some a) 0 (fz u)∧At (fk h a 0 (fz u)) k:=
 B0 (A:=fz t0) (c:=fz t1) (B:=fz t2++(pG r0++(pG r1++pG r2))) (vs:=fz u) hb ha rfl fun h1 hb1 hu=>hk h1 hb1 hu
theorem TJ{h:ad}{b:Nat}{t0 t1 t2 u:Tr}{r0 r1 r2:Rt}{a:Addr}(hb:Ah h b t0 t1 t2 r0 r1 r2)(ha:a=⟨b,12,none⟩){k:ad→Prop}(hk:∀h',Ah h' b t0 t1 u r0 r1 r2→Upd (· =b) h h'→k h'):qE h (some a) 0 (fz u)∧At (fk h a 0 (fz u)) k:=
 B0 (A:=fz t0++fz t1) (c:=fz t2) (B:=pG r0++(pG r1++pG r2)) (vs:=fz u) hb ha rfl fun h1 hb1 hu=>hk h1 hb1 hu
theorem U8{h:ad}{b:Nat}{t0 t1 t2:Tr}{r0 r1 r2 u:Rt}{a:Addr}(hb:Ah h b t0 t1 t2 r0 r1 r2)(ha:a=⟨b,18,none⟩){k:ad→Prop}(hk:∀h',Ah h' b t0 t1 t2 u r1 r2→Upd (· =b) h h'→k h'):qE h (some a) 0 (pG u)∧At (fk h a 0 (pG u)) k:=
 B0 (A:=fz t0++fz t1++fz t2) (c:=pG r0) (B:=pG r1++pG r2) (vs:=pG u) hb ha rfl fun h1 hb1 hu=>hk h1 hb1 hu
theorem TI{h:ad}{b:Nat}{t0 t1 t2:Tr}{r0 r1 r2 u:Rt}{a:Addr}(hb:Ah h b t0 t1 t2 r0 r1 r2)(ha:a=⟨b,23,none⟩){k:ad→Prop}(hk:∀h',Ah h' b t0 t1 t2 r0 u r2→Upd (· =b) h h'→k h'):qE h (some a) 0 (pG u)∧At (fk h a 0 (pG u)) k:=
 B0 (A:=fz t0++fz t1++fz t2++pG r0) (c:=pG r1) (B:=pG r2) (vs:=pG u) hb ha rfl fun h1 hb1 hu=>hk h1 hb1 hu
theorem TH{h:ad}{b:Nat}{t0 t1 t2:Tr}{r0 r1 r2 u:Rt}{a:Addr}(hb:Ah h b t0 t1 t2 r0 r1 r2)(ha:a=⟨b,28,none⟩){k:ad→Prop}(hk:∀h',Ah h' b t0 t1 t2 r0 r1 u→Upd (· =b) h h'→k h'):qE h (some a) 0 (pG u)∧At (fk h a 0 (pG u)) k:=
 B0 (A:=fz t0++fz t1++fz t2++pG r0++pG r1) (c:=pG r2) (B:= []) (vs:=pG u) hb ha rfl fun h1 hb1 hu=>hk h1 hb1 hu
abbrev VA:List Value:=w3 sH sH sH Iu Iu Iu
set_option maxHeartbeats 2000000 in
theorem Py{W:Nat→Prop}{x:Hs}{h:ad}{k:Int}{s sm sn sg sk:SliceV}{l m n:List Pr}{g gk:List ByteArray}(hk0:0≤k)(hk1:k≤255)(hs:Sl eu 2 W h s l)(hm:Sl eu 2 W h sm m)(hn:Sl eu 2 W h sn n)(hg:Sl Ue 1 W h sg g)(hgk:Sl Ue 1 W h sk gk)(hW:∀y,W y→y<h.size)(hl:l.length≤9223372036854775807)(hml:m.length≤9223372036854775807)(hnl:n.length≤9223372036854775807)(hgl:g.length≤9223372036854775807)(hkl:gk.length≤9223372036854775807)(free:Bool){K:T33→ad→Prop}
  (hk:∀h' t0 t1 t2 r0 r1 r2,TreeIs W h' (IntKind.wrap .i64 (jE k 2)) x t0 (eK [] l)→TreeIs W h' (IntKind.wrap .i64 (jE k 2)) x t1 (m0 (eK (if free then[]else eK [] l) m) g)→TreeIs W h' (IntKind.wrap .i64 (jE k 2)) x t2 (m0 (eK (if free then[]else eK [] l) n) gk)→
   RefIs W h' (IntKind.wrap .i64 (jE k 2)) x r0 (eK [] l)→RefIs W h' (IntKind.wrap .i64 (jE k 2)) x r1 (m0 (eK (if free then[]else eK [] l) m) g)→RefIs W h' (IntKind.wrap .i64 (jE k 2)) x r2 (m0 (eK (if free then[]else eK [] l) n) gk)→Upd No h h'→K (VZ t0 t1 t2 r0 r1 r2) h'):
  HC PG zR [.int .u8 k,.agg #[.int .u64 x.k0,.int .u64 x.k1,.int .u64 x.mask],.slice s.a s.len s.cap,.slice sm.a sm.len sm.cap,.slice sn.a sn.len sn.cap,.slice sg.a sg.len sg.cap,.slice sk.a sk.len sk.cap,.bool free] K33 K h:=by
 refine NL k (x.k0,x.k1,x.mask) s sm sn sg sk free ?_;unfold Gc cj aN cX ae aH ax bj cd cp Dm zm jR rB oa df fC Am xB Ic Fl;refine aM fun h1 b1 k1=>aM fun h2 b2 k2=>aM fun h3 b3 k3=>?_
 have z1:=aO b1;have z2:=aO b2;have z3:=aO b3;have s1:h.size≤h1.size:=k1.size;have s2:h1.size≤h2.size:=k2.size;have s3:=k3.size;have k03:=(k1.tr k2).tr k3;have c1:=k3.get0 (k2.get0 b1);refine⟨_,vc c1 0,_,vc c1 1,_,vc c1 2,?_⟩;refine Nq (W:=Pro W h h3) (x:=x) hk0 hk1 (Pro.lt hW k03) fun h8 t r i8 j8 k8=>aM fun h9 b9 k9=>aM fun h10 b10 k10=>?_
 generalize IntKind.wrap .i64 (jE k 2)=kind at hk i8 j8;have s8:=k8.size;have z9:=aO b9;have z10:=aO b10;have s9:=k9.size;have UQ:=k10.size;refine be (c:=fz sH) (vs:=fz t) (k10.get0 b9) rfl fun h11 b11 hu11=>?_
 refine be (c:=pG Iu) (vs:=pG r) (hu11.oth b10 (by omega)) rfl fun h12 b12 hu12=>?_
 have s11:=hu11.size;have s12:=hu12.size;have d9':=hu12.oth b11 (by omega);have k812:Upd No h8 h12:=((k9.tr k10).own hu11 (aq _)).own hu12 (by omega);have k012:Upd No h h12:=(k03.tr k8).tr k812;have hW':∀{h':ad},h3.size≤h'.size→∀y,Pro W h h3 y→y<h'.size:=fun k y hy=>aE (Pro.lt hW k03 y hy) k
 have hP2:∀{h':ad} (y:Nat),y=h2.size→Pro W h h3 y∨h'.size≤y:=fun y hy=>.inl (.inr (by omega))
 refine⟨_,vc d9' 0,_,vc d9' 1,_,vc d9' 2,_,vc d9' 3,_,vc d9' 4,_,vc d9' 5,_,vc b12 0,_,vc b12 1,_,vc b12 2,_,vc b12 3,r.2.2.2.2,vc b12 4,?_⟩;have i12:=i8.upd0 k812;have j12:=j8.upd0 k812;refine th (W:=Pro W h h3) (g:= []) (sg:=⟨none,0,0⟩) i12 j12 sM sM (by omega) ((hs.less Pro.hm).upd k012 fun _ h=>h.elim) (Sl.nil fun _=>⟨rfl,by omega⟩) (hW' (by omega)) hl (bw _) fun h25 t0 r0 i25 j25 k25=>?_
 have s25:=k25.size;have fL0:Few 20 (m0 (eK [] l) []):=xQ (ly sM l) [];refine⟨by decide,?_⟩;have w25:Ah h25 h2.size sH sH sH Iu Iu Iu:=k25.get0 (k812.get0 (k8.get0 b3));have z25:Ah h25 h1.size sH sH sH Iu Iu Iu:=k25.get0 (k812.get0 (k8.get0 (k3.get0 b2)));refine U9 (u:=t0) w25 rfl fun h26 w26a hu26=>⟨by decide,?_⟩
 refine U8 (u:=r0) w26a rfl fun h27 w27 hu27=>?_
 have k27:Upd (· =h2.size) h25 h27:=hu26.tr hu27
 have s27:=k27.size;have k027:Upd No h h27:=(k012.tr k25).own k27 (by omega);have d9:=k27.oth (k25.get0 d9') (by omega);have d10:=k27.oth (k25.get0 b12) (by omega);have z27:=k27.oth z25 (by omega);have i26:=i25.updM k27 hP2;have j26:=j25.updM k27 hP2;have i25b:=(i12.upd0 k25).updM k27 hP2;have j25b:=(j12.upd0 k25).updM k27 hP2;have fin:∀{h57 h91:ad} {t:Tr} {L:List Pr},TreeIs (Pro W h h3) h57 kind x t L→Upd (· =h1.size) h57 h91→TreeIs W h91 kind x t L:=fun i hu=>(i.updM hu fun y hy=>.inl (.inr (by have hy:y=h1.size:=hy;omega))).less Pro.sub
 have finR:∀{h57 h91:ad} {t:Rt} {L:List Pr},RefIs (Pro W h h3) h57 kind x t L→Upd (· =h1.size) h57 h91→RefIs W h91 kind x t L:=fun i hu=>(i.updM hu fun y hy=>.inl (.inr (by have hy:y=h1.size:=hy;omega))).less Pro.sub
 cases free with
 |true=>
  refine av.2 ?_;refine⟨_,vc d9 0,_,vc d9 1,_,vc d9 2,_,vc d9 3,_,vc d9 4,_,vc d9 5,_,vc d10 0,_,vc d10 1,_,vc d10 2,_,vc d10 3,r.2.2.2.2,vc d10 4,?_⟩;refine th (W:=Pro W h h3) i25b j25b sM sM (by omega) (((hm.less Pro.hm).upd k027 fun _ h=>h.elim)) (((hg.less Pro.hm).upd k027 fun _ h=>h.elim)) (hW' (by omega)) hml hgl fun h40 t1 r1 i40 j40 k40=>?_
  have s40:=k40.size;refine⟨by decide,?_⟩;refine TK (u:=t1) (k40.get0 w27) rfl fun h41 w41a hu41=>⟨by decide,?_⟩
  refine TI (u:=r1) w41a rfl fun h42 w41 hu42=>?_
  have k42:Upd (· =h2.size) h40 h42:=hu41.tr hu42
  have k2742:Upd (· =h2.size) h27 h42:=k40.wide.tr k42
  have s42:=k42.size;have k042:Upd No h h42:=(k027.tr k40).own k42 (by omega);have e9:=k2742.oth d9 (by omega);have e10:=k2742.oth d10 (by omega);refine⟨_,vc e9 0,_,vc e9 1,_,vc e9 2,_,vc e9 3,_,vc e9 4,_,vc e9 5,_,vc e10 0,_,vc e10 1,_,vc e10 2,_,vc e10 3,r.2.2.2.2,vc e10 4,?_⟩;refine th (W:=Pro W h h3) (i25b.updM k2742 hP2) (j25b.updM k2742 hP2) sM sM (by omega) (((hn.less Pro.hm).upd k042 fun _ h=>h.elim)) (((hgk.less Pro.hm).upd k042 fun _ h=>h.elim)) (hW' (by omega)) hnl hkl fun h55 t2 r2 i55 j55 k55=>?_
  have s55:=k55.size;refine⟨by decide,?_⟩;refine TJ (u:=t2) (k55.get0 w41) rfl fun h56 w56 hu56=>⟨by decide,?_⟩
  refine TH (u:=r2) w56 rfl fun h57 w57 hu57=>?_
  have k57:Upd (· =h2.size) h55 h57:=hu56.tr hu57
  have k4057:Upd (· =h2.size) h40 h57:=(k42.tr k55.wide).tr k57
  have k2757:Upd (· =h2.size) h27 h57:=k40.wide.tr k4057
  refine⟨_,vc w57 0,_,vc w57 1,_,vc w57 2,_,vc w57 3,_,vc w57 4,_,vc w57 5,_,vc w57 6,_,vc w57 7,_,vc w57 8,_,vc w57 9,_,vc w57 10,_,vc w57 11,_,vc w57 12,_,vc w57 13,_,vc w57 14,_,vc w57 15,_,vc w57 16,_,vc w57 17,_,vc w57 18,_,vc w57 19,_,vc w57 20,_,vc w57 21,r0.2.2.2.2,vc w57 22,_,vc w57 23,_,vc w57 24,_,vc w57 25,_,vc w57 26,r1.2.2.2.2,vc w57 27,_,vc w57 28,_,vc w57 29,_,vc w57 30,_,vc w57 31,r2.2.2.2.2,vc w57 32,?_⟩
  refine be (c:=VA) (vs:=w3 t0 t1 t2 r0 r1 r2) (k2757.oth z27 (by omega)) rfl fun h91 b91 hu91=>?_
  refine⟨_,vc b91 0,_,vc b91 1,_,vc b91 2,_,vc b91 3,_,vc b91 4,_,vc b91 5,_,vc b91 6,_,vc b91 7,_,vc b91 8,_,vc b91 9,_,vc b91 10,_,vc b91 11,_,vc b91 12,_,vc b91 13,_,vc b91 14,_,vc b91 15,_,vc b91 16,_,vc b91 17,_,vc b91 18,_,vc b91 19,_,vc b91 20,_,vc b91 21,r0.2.2.2.2,vc b91 22,_,vc b91 23,_,vc b91 24,_,vc b91 25,_,vc b91 26,r1.2.2.2.2,vc b91 27,_,vc b91 28,_,vc b91 29,_,vc b91 30,_,vc b91 31,r2.2.2.2.2,vc b91 32,?_⟩
  exact hk h91 t0 t1 t2 r0 r1 r2 (fin (i26.updM k2757 hP2) hu91) (fin ((i40.updM k4057 hP2)) hu91) (fin ((i55.updM k57 hP2)) hu91) (finR (j26.updM k2757 hP2) hu91) (finR (j40.updM k4057 hP2) hu91) (finR (j55.updM k57 hP2) hu91) (((k042.tr k55).own k57 (by omega)).own hu91 (by omega))
 |false=>
  refine aj.2 ?_;refine⟨by decide,_,sy w27 0 0,_,sy w27 0 1,_,sy w27 0 2,_,sy w27 0 3,_,sy w27 0 4,_,sy w27 0 5,by decide,_,sy w27 18 0,_,sy w27 18 1,_,sy w27 18 2,_,sy w27 18 3,r0.2.2.2.2,sy w27 18 4,?_⟩
  refine th (W:=Pro W h h3) i26 j26 fL0 fL0 (by omega) (((hm.less Pro.hm).upd k027 fun _ h=>h.elim)) (((hg.less Pro.hm).upd k027 fun _ h=>h.elim)) (hW' (by omega)) hml hgl fun h40 t1 r1 i40 j40 k40=>?_
  have s40:=k40.size;refine⟨by decide,?_⟩;refine TK (u:=t1) (k40.get0 w27) rfl fun h41 w41a hu41=>⟨by decide,?_⟩
  refine TI (u:=r1) w41a rfl fun h42 w41 hu42=>?_
  have k42:Upd (· =h2.size) h40 h42:=hu41.tr hu42
  have k2742:Upd (· =h2.size) h27 h42:=k40.wide.tr k42
  have s42:=k42.size;have k042:Upd No h h42:=(k027.tr k40).own k42 (by omega);have e9:=k2742.oth d9 (by omega);have e10:=k2742.oth d10 (by omega);refine⟨by decide,_,sy w41 0 0,_,sy w41 0 1,_,sy w41 0 2,_,sy w41 0 3,_,sy w41 0 4,_,sy w41 0 5,by decide,_,sy w41 18 0,_,sy w41 18 1,_,sy w41 18 2,_,sy w41 18 3,r0.2.2.2.2,sy w41 18 4,?_⟩
  refine th (W:=Pro W h h3) (i26.updM k2742 hP2) (j26.updM k2742 hP2) fL0 fL0 (by omega) (((hn.less Pro.hm).upd k042 fun _ h=>h.elim)) (((hgk.less Pro.hm).upd k042 fun _ h=>h.elim)) (hW' (by omega)) hnl hkl fun h55 t2 r2 i55 j55 k55=>?_
  have s55:=k55.size;refine⟨by decide,?_⟩;refine TJ (u:=t2) (k55.get0 w41) rfl fun h56 w56 hu56=>⟨by decide,?_⟩
  refine TH (u:=r2) w56 rfl fun h57 w57 hu57=>?_
  have k57:Upd (· =h2.size) h55 h57:=hu56.tr hu57
  have k4057:Upd (· =h2.size) h40 h57:=(k42.tr k55.wide).tr k57
  have k2757:Upd (· =h2.size) h27 h57:=k40.wide.tr k4057
  refine⟨_,vc w57 0,_,vc w57 1,_,vc w57 2,_,vc w57 3,_,vc w57 4,_,vc w57 5,_,vc w57 6,_,vc w57 7,_,vc w57 8,_,vc w57 9,_,vc w57 10,_,vc w57 11,_,vc w57 12,_,vc w57 13,_,vc w57 14,_,vc w57 15,_,vc w57 16,_,vc w57 17,_,vc w57 18,_,vc w57 19,_,vc w57 20,_,vc w57 21,r0.2.2.2.2,vc w57 22,_,vc w57 23,_,vc w57 24,_,vc w57 25,_,vc w57 26,r1.2.2.2.2,vc w57 27,_,vc w57 28,_,vc w57 29,_,vc w57 30,_,vc w57 31,r2.2.2.2.2,vc w57 32,?_⟩
  refine be (c:=VA) (vs:=w3 t0 t1 t2 r0 r1 r2) (k2757.oth z27 (by omega)) rfl fun h91 b91 hu91=>?_
  refine⟨_,vc b91 0,_,vc b91 1,_,vc b91 2,_,vc b91 3,_,vc b91 4,_,vc b91 5,_,vc b91 6,_,vc b91 7,_,vc b91 8,_,vc b91 9,_,vc b91 10,_,vc b91 11,_,vc b91 12,_,vc b91 13,_,vc b91 14,_,vc b91 15,_,vc b91 16,_,vc b91 17,_,vc b91 18,_,vc b91 19,_,vc b91 20,_,vc b91 21,r0.2.2.2.2,vc b91 22,_,vc b91 23,_,vc b91 24,_,vc b91 25,_,vc b91 26,r1.2.2.2.2,vc b91 27,_,vc b91 28,_,vc b91 29,_,vc b91 30,_,vc b91 31,r2.2.2.2.2,vc b91 32,?_⟩
  exact hk h91 t0 t1 t2 r0 r1 r2 (fin (i26.updM k2757 hP2) hu91) (fin ((i40.updM k4057 hP2)) hu91) (fin ((i55.updM k57 hP2)) hu91) (finR (j26.updM k2757 hP2) hu91) (finR (j40.updM k4057 hP2) hu91) (finR (j55.updM k57 hP2) hu91) (((k042.tr k55).own k57 (by omega)).own hu91 (by omega))
end Go.Proofs
namespace Go.Proofs
open Go Go.Lift
theorem bG{h:ad}{b:Nat}{c:Array Value}{t:TypeId}(hb:h[b]? =some (.cells c t (0,0))) (i j k:Nat):aS h (adr (adr (adr ⟨b,0,none⟩ i) j) k)=c[i+j+k]?:=by rw[ci,ci,ci,Nat.zero_add];exact bh hb
theorem Ut{h:ad}{t0 t1 t2:Tr}{r0 r1 r2:Rt}{k:ad→Prop}(hk:∀h',Ah h' h.size t0 t1 t2 r0 r1 r2→Upd No h h'→k h'):
  At (hnew h VA rC) (fun h1=>qE h1 (some (ag h)) 0 (w3 t0 t1 t2 r0 r1 r2)∧At (fk h1 (ag h) 0 (w3 t0 t1 t2 r0 r1 r2)) k):=
 aM fun _ b1 k1=>be (c:=VA) (vs:=w3 t0 t1 t2 r0 r1 r2) b1 rfl fun h2 b2 hu2=>hk h2 b2 (k1.own hu2 (aq _))
end Go.Proofs
