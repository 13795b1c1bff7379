/- A part of the proof that the named laws of this program answer true, whatever the input. -/
import Derived.Test.YtncppacbfagpgaaGreatPart10
open Int renaming tmod→jz
open List renaming take_take→iE,getElem?_eq_getElem→ai,take_length→cP,length_append→ac,length_map→cH,getElem?_map→mE
open Nat renaming min_eq_right→gn,min_eq_left→bD,le_trans→aZ,zero_le→bC,le_refl→aq,lt_of_lt_of_le→aD
namespace Go.Proofs
open Go Go.Lift
def eO(L0 l:List Pr):List Pr:=(l.take 20).foldl (fun acc p=>gP (GD p) acc) L0
theorem HL{L0 l:List Pr}{i:Nat}(hi:i<l.length)(hh20:i<20):eO L0 (l.take (i+1))=gP (GD l[i]) (eO L0 (l.take i)):=by
 unfold eO;rw[iE,iE,gn (by omega),gn (by omega),List.take_succ_eq_append_getElem hi,List.foldl_append];rfl
theorem HM{L0 l:List Pr}{i:Nat}(hh20:20≤i):eO L0 (l.take (i+1))=eO L0 (l.take i):=by
 unfold eO;rw[iE,iE,bD (by omega),bD (by omega)]
theorem ll{n:Nat}{L0:List Pr}(f:Few n L0)(l:List Pr):Few (n+20) (eO L0 l):=by
 unfold eO;have:∀(m:List Pr) (n:Nat) (acc:List Pr),Few n acc→Few (n+m.length) (m.foldl (fun acc p=>gP (GD p) acc) acc):=by
  intro m;induction m with
  |nil=>intro n acc h;exact h
  |cons p m ih=>
   intro n acc h;have:=ih (n+1) _ (h.ins (GD p) (tG _) (tG _));rw[List.foldl_cons,List.length_cons];rw[Nat.add_assoc,Nat.add_comm 1]at this;exact this
 have h:=this (l.take 20) n L0 f;exact⟨h.up,aZ h.len (by rw[List.length_take];omega),h.fit⟩
theorem Ri{x:Hs}{h:ad}{K:Int×Int×Int→ad→Prop}(hk:∀h',Upd No h h'→K (x.k0,x.k1,x.mask) h'):HC PG Cp [.agg #[.int .u64 x.k0,.int .u64 x.k1,.int .u64 x.mask]] [.agg [.int .u64,.int .u64,.int .u64]] K h:=by
 refine Qk (x.k0,x.k1,x.mask) ?_;unfold Ib ae aG cU Dl VI VL;refine aW fun h1 b1 k1=>aW fun h2 b2 k2=>?_
 have c1:=k2.get0 b1;refine⟨_,sF c1 0 0,_,sF c1 0 1,_,vc c1 2,?_⟩;refine cl (c:= [.int .u64 0,.int .u64 0,.int .u64 0]) (vs:= [.int .u64 x.k0,.int .u64 x.k1,.int .u64 x.mask]) b2 rfl fun h3 b3 hu3=>?_
 exact⟨_,vc b3 0,_,vc b3 1,_,vc b3 2,hk h3 ((k1.tr k2).own hu3 k1.size)⟩
theorem Nz{W:Nat→Prop}{x:Hs}{h:ad}{k:Int}(h0:0≤k)(h1:k≤255)(hW:∀y,W y→y<h.size){K:Tr×Rt→ad→Prop}
  (hk:∀h' t r,TreeIs W h' (IntKind.wrap .i64 (jz k 2)) x t []→RefIs W h' (IntKind.wrap .i64 (jz k 2)) x r []→Upd No h h'→K (t,r) h'):
  HC PG xW [.int .u8 k,.agg #[.int .u64 x.k0,.int .u64 x.k1,.int .u64 x.mask]] [.agg [.int .i64,.int .u64,.int .u64,.int .u64,.ptr,.ptr],.agg [.int .i64,.int .u64,.int .u64,.int .u64,.slice]] K h:=by
 refine LK k (x.k0,x.k1,x.mask) ?_;unfold DQ aM ae au cU nv Dl zl qK mK uc MQ KY tw c7 N7 Ky xK QE;have hkd:=Vx h0 h1;generalize IntKind.wrap .i64 (jz k 2)=kind at hkd hk⊢;refine aW fun h1 b1 k1=>aW fun h2 b2 k2=>aW fun h3 b3 k3=>⟨by decide,?_⟩
 have z1:=bd b1;have z2:=bd b2;have z3:=bd b3;have s1:h.size≤h1.size:=k1.size;have s2:h1.size≤h2.size:=k2.size;have k03:=(k1.tr k2).tr k3;have c1:=k3.get0 (k2.get0 b1);have c2:=k3.get0 b2;have s3:=k3.size;refine⟨_,vc c1 0,_,vc c1 1,_,vc c1 2,?_⟩;refine Oj (W:=Pro W h h3) (x:=x) (Pro.lt hW k03) hkd fun h8 t i8 k8=>?_
 refine p9 (t:=t) fun h10 b10 k810=>⟨by decide,?_⟩
 have s8:=k8.size;have U3:=k810.size;have z10:=bd b10;have d1:=k810.get0 (k8.get0 c1);refine⟨_,vc d1 0,_,vc d1 1,_,vc d1 2,?_⟩;refine Ri (x:=x) fun h15 k15=>?_
 have s15:=k15.size;refine Ta (x:=x) (W:=Pro W h h3) hkd fun h17 r j17 k17=>?_
 have s17:=k17.size;refine Vr (r:=r) fun hL bL k17L=>?_
 have sL:=k17L.size;have zL:=bd bL;have k8L:Upd No h8 hL:=((k810.tr k15).tr k17).tr k17L;have kL:Upd No h hL:=(k03.tr k8).tr k8L;have tL:=k17L.get0 ((k15.tr k17).get0 b10);have rL1:=k8L.get0 (k8.get0 c2);have rL2:=k8L.get0 (k8.get0 b3);have hP1:Pro W h h3 h1.size:=.inr (by omega);have hP2:Pro W h h3 h2.size:=.inr (by omega);refine⟨_,vc tL 0,_,vc tL 1,_,vc tL 2,_,vc tL 3,_,vc tL 4,_,vc tL 5,_,vc bL 0,_,vc bL 1,_,vc bL 2,_,vc bL 3,r.2.2.2.2,vc bL 4,?_⟩
 refine cl (c:=fq sO) (vs:=fq t) rL1 rfl fun h70 b70 hu70=>?_
 have x70:=hu70.oth bL (by omega);refine⟨⟨vc x70 0,vc x70 1,vc x70 2,vc x70 3,vc x70 4⟩,?_⟩;refine cl (c:=pI IA) (vs:=pI r) (hu70.oth rL2 (by omega)) rfl fun h71 b71 hu71=>?_
 have t71:=hu71.oth b70 (by omega);refine⟨_,vc t71 0,_,vc t71 1,_,vc t71 2,_,vc t71 3,_,vc t71 4,_,vc t71 5,_,vc b71 0,_,vc b71 1,_,vc b71 2,_,vc b71 3,r.2.2.2.2,vc b71 4,?_⟩;refine hk h71 t r ((((i8.upd0 k8L).updM hu70 fun y hy=>.inl (by have hy:y=h1.size:=hy;rw[hy];exact hP1)).updM hu71 fun y hy=>.inl (by have hy:y=h2.size:=hy;rw[hy];exact hP2)).less Pro.sub) ((((j17.upd0 k17L).updM hu70 fun y hy=>.inl (by have hy:y=h1.size:=hy;rw[hy];exact hP1)).updM hu71 fun y hy=>.inl (by have hy:y=h2.size:=hy;rw[hy];exact hP2)).less Pro.sub) ((kL.own hu70 s1).own hu71 (by omega))
set_option maxHeartbeats 1000000 in
theorem tA{W:Nat→Prop}{x:Hs}{h:ad}{s sg:SliceV}{l L0 R0:List Pr}{g:List ByteArray}{kind:Int}{t:Tr}{r:Rt}{n:Nat}(it:TreeIs W h kind x t L0)(jr:RefIs W h kind x r R0)(fw0:Few n L0)(fr0:Few n R0)(hn0:n≤1000)(hs:Sl eh 2 W h s l)(hg:Sl Ur 1 W h sg g)(hW:∀y,W y→y<h.size)(hn:l.length≤9223372036854775807)(hgn:g.length≤9223372036854775807){K:Tr×Rt→ad→Prop}
  (hk:∀h' t' r',TreeIs W h' kind x t' (m0 (eO L0 l) g)→RefIs W h' kind x r' (m0 (eO R0 l) g)→Upd No h h'→K (t',r') h'):
  HC PG ng [zn t,V5 r,.slice s.a s.len s.cap,.slice sg.a sg.len sg.cap] [.agg [.int .i64,.int .u64,.int .u64,.int .u64,.ptr,.ptr],.agg [.int .i64,.int .u64,.int .u64,.int .u64,.slice]] K h:=by
 refine LJ t r s sg ?_;unfold DP aL bZ aM ae au ay cU nv kU qK mK uc jG tw c7 N7 Ky SK av oT xK dN qM QE;refine aW fun h1 b1 k1=>aW fun h2 b2 k2=>aW fun h3 b3 k3=>aW fun hL b4 k4=>?_
 have z1:=bd b1;have z2:=bd b2;have z3:=bd b3;have z4:=bd b4;have s1:h.size≤h1.size:=k1.size;have s2:h1.size≤h2.size:=k2.size;have s3:h2.size≤h3.size:=k3.size;have s4:=k4.size;have kL:Upd No h hL:=((k1.tr k2).tr k3).tr k4;have t0:=k4.get0 (k3.get0 (k2.get0 b1));have x0:=k4.get0 (k3.get0 b2);have rL1:=k4.get0 b3;have rL2:=b4;have iL:=it.pro kL;have jL:RefIs (Pro W h hL) hL kind x r R0:=(jr.less (W':=Pro W h hL) Pro.hm).upd0 kL
 have hWL:=Pro.lt hW kL;have hPt:Pro W h hL h.size:=.inr (by omega);have hPx:Pro W h hL h1.size:=.inr (by omega);have hP1:Pro W h hL h2.size:=.inr (by omega);have hP2:Pro W h hL h3.size:=.inr (by omega);have hlen:=hs.len;refine LoopP.ghost (fun(i:Nat) (ti:Int) h'=>ti=(i:Int)∧i≤l.length∧(∃tv rv,TreeIs (Pro W h hL) h' kind x tv (eO L0 (l.take i))∧RefIs (Pro W h hL) h' kind x rv (eO R0 (l.take i))∧h'[h.size]? =some (.cells (fq tv).toArray aH (0,0))∧h'[h1.size]? =some (.cells (pI rv).toArray fz (0,0)))∧Upd (fun y=>y=h.size∨y=h1.size) hL h') (fun i=>l.length-i) 0 ⟨rfl,bC _,⟨t,r,iL,jL,t0,x0⟩,Upd.refl _ _⟩ ?_
 rintro I i ti h' ⟨rfl,hi,⟨tv,rv,it,jr,bt,bx⟩,hu⟩ hI;have hus:=hu.size;have hu0:Upd No h h':=kL.trans hu fun y hy=>.inr (by rcases hy with rfl|rfl<;>omega)
 refine aB (fun hlt=>?_) fun hge=>?_
 ·have hlt:i<l.length:=by omega
  obtain⟨a,ha,_,hv⟩:=(hs.upd hu0 fun _ h=>h.elim).at (ai hlt)
  refine Join.intro (fun _ h2'=>(∃tv rv,TreeIs (Pro W h hL) h2' kind x tv (eO L0 (l.take (i+1)))∧RefIs (Pro W h hL) h2' kind x rv (eO R0 (l.take (i+1)))∧h2'[h.size]? =some (.cells (fq tv).toArray aH (0,0))∧h2'[h1.size]? =some (.cells (pI rv).toArray fz (0,0)))∧Upd (fun y=>y=h.size∨y=h1.size) hL h2') (fun R hR=>⟨⟨by omega,by omega⟩,a,ha,l[i].1,hv 0 _ rfl,l[i].2,hv 1 _ rfl,?_⟩) ?_
  ·refine AA (p:=l[i]) fun h28 b28 k28=>?_
   have z28:=bd b28;have nt:h'.size≠h.size:=by omega
   have nx:h'.size≠h1.size:=by omega
   refine aB (fun hh20=>?_) fun hh20=>?_
   ·have hh20:i<20:=by omega
    rw[HL hlt hh20,HL hlt hh20]at hR;obtain⟨q1,e1⟩:=UP l[i].1;obtain⟨q2,e2⟩:=UP l[i].2;refine⟨_,vc b28 0,_,vc b28 0,q1,?_⟩;simp only[Bd];refine⟨_,vc b28 1,_,vc b28 1,q2,?_⟩;rw[e1,e2];refine BQ (c':= #[.string (vC l[i].1),.string l[i].2]) b28 (by simp) rfl fun h29 b29 hu29=>?_
    refine BQ (c':= #[.string (vC l[i].1),.string (vC l[i].2)]) b29 (by simp) rfl fun h35 b35 hu35=>?_
    have k35:Upd No h' h35:=(k28.own hu29 (aq _)).own hu35 (aq _);have t35:=k35.get0 bt;have x35:=k35.get0 bx;have s35:=k35.size;have fw:=ll fw0 (l.take i);have fl:=fw.len;have gw:=ll fr0 (l.take i);have gl:=gw.len;have p1:=tG l[i].1;have p2:=tG l[i].2;refine⟨_,vc t35 0,_,vc t35 1,_,vc t35 2,_,vc t35 3,_,vc t35 4,_,vc t35 5,_,vc b35 0,_,vc b35 1,?_⟩;refine EO (it.upd0 k35) (fun y hy=>aD (hWL y hy) (by omega)) fw.up (by omega) (GD l[i]) (by unfold GD;simp only;omega) (by unfold GD;simp only;omega) fun h45 t' i45 _ k45=>?_
    refine cl (c:=fq tv) (vs:=fq t') (k45.get0 t35) rfl fun h46 t46 hu46=>?_
    have x46:=hu46.oth (k45.get0 x35) (by omega);have p46:=hu46.oth (k45.get0 b35) nt;have j46:=((jr.upd0 k35).upd0 k45).updM hu46 fun y hy=>.inl (by have hy:y=h.size:=hy;rw[hy];exact hPt)
    have s45:=k45.size;have s46:=hu46.size;refine⟨_,vc x46 0,_,vc x46 1,_,vc x46 2,_,vc x46 3,rv.2.2.2.2,vc x46 4,_,vc p46 0,_,vc p46 1,?_⟩;refine Rc j46 (fun y hy=>aD (hWL y hy) (by omega)) gw.up (by omega) (GD l[i]) (by unfold GD;simp only;omega) (by unfold GD;simp only;omega) fun h55 r' j55 k55=>?_
    refine cl (c:=pI rv) (vs:=pI r') (k55.get0 x46) rfl fun h56 x56 hu56=>hR _ _ ⟨⟨t',r',?_,j55.updM hu56 fun y hy=>.inl (by have hy:y=h1.size:=hy;rw[hy];exact hPx),hu56.oth (k55.get0 t46) (by omega),x56⟩,?_⟩
    ·exact((i45.updM hu46 fun y hy=>.inl (by have hy:y=h.size:=hy;rw[hy];exact hPt)).upd0 k55).updM hu56 fun y hy=>.inl (by have hy:y=h1.size:=hy;rw[hy];exact hPx)
    ·exact((((hu.tr k35.wide).tr k45.wide).trans hu46 fun y hy=>.inl (.inl hy)).tr k55.wide).trans hu56 fun y hy=>.inl (.inr hy)
   ·have hh20:20≤i:=by omega
    rw[HM hh20,HM hh20]at hR;exact hR _ _ ⟨⟨tv,rv,it.upd0 k28,jr.upd0 k28,k28.get0 bt,k28.get0 bx⟩,hu.tr k28.wide⟩
  ·rintro _ h2' ⟨hex,hu2⟩
   rw[pd hlt hn];exact hI (i+1) _ _ ⟨rfl,hlt,hex,hu2⟩ (by omega)
 ·have hil:i=l.length:=by omega
  subst hil;rw[cP]at it jr;have y1:=hu.get rL1 (by rintro(e|e)<;>omega)
  have y2:=hu.get rL2 (by rintro(e|e)<;>omega)
  have hgl:=hg.len;have fw1:=ll fw0 l;have fr1:=ll fr0 l;generalize eO L0 l=L1 at it hk fw1;generalize eO R0 l=R1 at jr hk fr1;refine LoopP.ghost (fun(i:Nat) (ti:Int) h2'=>ti=(i:Int)∧i≤g.length∧(∃tv rv,TreeIs (Pro W h hL) h2' kind x tv (m0 L1 (g.take i))∧RefIs (Pro W h hL) h2' kind x rv (m0 R1 (g.take i))∧h2'[h.size]? =some (.cells (fq tv).toArray aH (0,0))∧h2'[h1.size]? =some (.cells (pI rv).toArray fz (0,0)))∧Upd (fun y=>y=h.size∨y=h1.size) hL h2') (fun i=>g.length-i) 0 ⟨rfl,bC _,⟨tv,rv,it,jr,bt,bx⟩,hu⟩ ?_
  clear hI it jr bt bx y1 y2 hu hus hu0 tv rv;rintro I2 i ti h' ⟨rfl,hi,⟨tv,rv,it,jr,bt,bx⟩,hu⟩ hI2;have hus:=hu.size;have hu0:Upd No h h':=kL.trans hu fun y hy=>.inr (by rcases hy with rfl|rfl<;>omega)
  refine aB (fun hlt=>?_) fun hge=>?_
  ·have hlt:i<g.length:=by omega
   obtain⟨a,ha,_,hv⟩:=(hg.upd hu0 fun _ h=>h.elim).at0 (ai hlt)
   refine Join.intro (fun _ h2'=>(∃tv rv,TreeIs (Pro W h hL) h2' kind x tv (m0 L1 (g.take (i+1)))∧RefIs (Pro W h hL) h2' kind x rv (m0 R1 (g.take (i+1)))∧h2'[h.size]? =some (.cells (fq tv).toArray aH (0,0))∧h2'[h1.size]? =some (.cells (pI rv).toArray fz (0,0)))∧Upd (fun y=>y=h.size∨y=h1.size) hL h2') (fun R hR=>⟨⟨by omega,by omega⟩,a,ha,g[i],hv,?_⟩) ?_
   ·refine aB (fun h15=>?_) fun h15=>?_
    ·have h15:i<15:=by omega
     rw[Lg hlt h15,Lg hlt h15]at hR;obtain⟨q1,e1⟩:=UP g[i];refine⟨q1,?_⟩;simp only[Bd];rw[e1];refine⟨_,vc bt 0,_,vc bt 1,_,vc bt 2,_,vc bt 3,_,vc bt 4,_,vc bt 5,?_⟩;have fw:=xR fw1 (g.take i);have fl:=fw.len;have gw:=xR fr1 (g.take i);have gl:=gw.len;have p1:=tG g[i];refine Da it (fun y hy=>aD (hWL y hy) (by omega)) fw.up fw.fits (by omega) (vC g[i]) (by omega) fun h45 t' i45 _ k45=>?_
     refine cl (c:=fq tv) (vs:=fq t') (k45.get0 bt) rfl fun h46 t46 hu46=>?_
     have x46:=hu46.oth (k45.get0 bx) (by omega);have j46:=(jr.upd0 k45).updM hu46 fun y hy=>.inl (by have hy:y=h.size:=hy;rw[hy];exact hPt)
     have s45:=k45.size;have s46:=hu46.size;refine⟨_,vc x46 0,_,vc x46 1,_,vc x46 2,_,vc x46 3,rv.2.2.2.2,vc x46 4,?_⟩;refine Km j46 (fun y hy=>aD (hWL y hy) (by omega)) gw.up gw.fits (by omega) (vC g[i]) (by omega) fun h55 r' _ j55 k55=>?_
     refine cl (c:=pI rv) (vs:=pI r') (k55.get0 x46) rfl fun h56 x56 hu56=>hR _ _ ⟨⟨t',r',?_,j55.updM hu56 fun y hy=>.inl (by have hy:y=h1.size:=hy;rw[hy];exact hPx),hu56.oth (k55.get0 t46) (by omega),x56⟩,?_⟩
     ·exact((i45.updM hu46 fun y hy=>.inl (by have hy:y=h.size:=hy;rw[hy];exact hPt)).upd0 k55).updM hu56 fun y hy=>.inl (by have hy:y=h1.size:=hy;rw[hy];exact hPx)
     ·exact(((hu.tr k45.wide).trans hu46 fun y hy=>.inl (.inl hy)).tr k55.wide).trans hu56 fun y hy=>.inl (.inr hy)
    ·have h15:15≤i:=by omega
     rw[Lh h15,Lh h15]at hR;exact hR _ _ ⟨⟨tv,rv,it,jr,bt,bx⟩,hu⟩
   ·rintro _ h2' ⟨hex,hu2⟩
    rw[pd hlt hgn];exact hI2 (i+1) _ _ ⟨rfl,hlt,hex,hu2⟩ (by omega)
  have hil:i=g.length:=by omega
  subst hil;rw[cP]at it jr;have y1:=hu.get rL1 (by rintro(e|e)<;>omega)
  have y2:=hu.get rL2 (by rintro(e|e)<;>omega)
  refine⟨_,vc bt 0,_,vc bt 1,_,vc bt 2,_,vc bt 3,_,vc bt 4,_,vc bt 5,_,vc bx 0,_,vc bx 1,_,vc bx 2,_,vc bx 3,rv.2.2.2.2,vc bx 4,?_⟩;refine cl (c:=fq sO) (vs:=fq tv) y1 rfl fun h70 b70 hu70=>?_
  have x70:=hu70.oth bx (by omega);refine⟨⟨vc x70 0,vc x70 1,vc x70 2,vc x70 3,vc x70 4⟩,?_⟩;refine cl (c:=pI IA) (vs:=pI rv) (hu70.oth y2 (by omega)) rfl fun h71 b71 hu71=>?_
  have t71:=hu71.oth b70 (by omega);refine⟨_,vc t71 0,_,vc t71 1,_,vc t71 2,_,vc t71 3,_,vc t71 4,_,vc t71 5,_,vc b71 0,_,vc b71 1,_,vc b71 2,_,vc b71 3,rv.2.2.2.2,vc b71 4,?_⟩;refine hk h71 tv rv (((it.updM hu70 fun y hy=>.inl (by have hy:y=h2.size:=hy;rw[hy];exact hP1)).updM hu71 fun y hy=>.inl (by have hy:y=h3.size:=hy;rw[hy];exact hP2)).less Pro.sub) (((jr.updM hu70 fun y hy=>.inl (by have hy:y=h2.size:=hy;rw[hy];exact hP1)).updM hu71 fun y hy=>.inl (by have hy:y=h3.size:=hy;rw[hy];exact hP2)).less Pro.sub) ((hu0.own hu70 (by omega)).own hu71 (by omega))
end Go.Proofs
namespace Go.Proofs
open Go Go.Lift
theorem Mk(b t:Option ByteArray)(p:Int):mn b b t p=(t,true):=by
 unfold mn;by_cases h:b=t∨t=b
 ·rw[if_pos h]
  rcases h with rfl|rfl<;>rfl
 ·rw[if_neg h,if_pos rfl]
theorem Il(b o:Option ByteArray)(p:Int):mn b o b p=(o,true):=by
 unfold mn;rw[if_pos (.inr rfl)]
theorem Mj(b o:Option ByteArray)(p:Int):mn b o o p=(o,true):=by
 unfold mn;rw[if_pos (.inl rfl)]
theorem KM{B T:List Pr}{p:Int}(hB:bj B)(hT:bj T):l8 B B T p=T:=
 AI (ny hB) hT fun k=>by rw[qY hB hT];unfold tk;rw[Mk]
theorem H0{B T:List Pr}{p:Int}(hB:bj B)(hT:bj T):lx B B T p= []:=Cq hB hT fun _=>.inr (.inr rfl)
theorem KL{B O:List Pr}{p:Int}(hB:bj B)(hO:bj O):l8 B O B p=O:=
 AI (ny hO) hO fun k=>by rw[qY hB hB];unfold tk;rw[Il]
theorem HZ{B O:List Pr}{p:Int}(hB:bj B):lx B O B p= []:=Cq hB hB fun _=>.inr (.inl rfl)
theorem KK{B O:List Pr}{p:Int}(hB:bj B)(hO:bj O):l8 B O O p=O:=
 AI (ny hO) hO fun k=>by rw[qY hB hO];unfold tk;rw[Mj]
theorem HX{B O:List Pr}{p:Int}(hB:bj B)(hO:bj O):lx B O O p= []:=Cq hB hO fun _=>.inl rfl
theorem Un{B O T:List Pr}{p:Int}{k:ByteArray}(hB:bj B)(hT:bj T)(h:k∈lx B O T p):(tk B O T 1 k).1=look O k∧(tk B O T 3 k).1=look B k:=by
 have n:=EL.1 ((AE hB hT).1 h);have n1:¬(look O k=look T k∨look T k=look B k):=fun e=>e.elim n.1 n.2.1
 unfold tk mn;rw[if_neg n1,if_neg n.2.2,if_neg n1,if_neg n.2.2];exact⟨rfl,rfl⟩
theorem BW{h:ad}{b:Nat}{t:TypeId}{A c B vs:List Value}{a:Addr}(hb:h[b]? =some (.cells (A++c++B).toArray t (0,0))) (ha:a=⟨b,A.length,none⟩) (hl:vs.length=c.length) {k:ad→Prop}
  (hk:∀h',h'[b]? =some (.cells (A++vs++B).toArray t (0,0))→Upd (· =b) h h'→k h'):qL h (some a) 0 vs∧At (ff h a 0 vs) k:=by
 subst ha;have hlen:(A++c++B).length=A.length+vs.length+B.length:=by rw[ac,ac,hl]
 have e:=jk vs h 0 A.length (A++c++B) hb (by omega);refine⟨.inr ⟨_,rfl,fun j hj=>by rw[ce];exact iA hb (by rw[List.size_toArray];omega)⟩,bq ?_⟩
 rw[e];refine hk _ ?_ (Upd.set h _ rfl);rw[ja hb];congr 3
 rw[Nat.add_zero,hl,←ac,List.drop_left,List.append_assoc A c B,List.take_left]
def w3(t0 t1 t2:Tr)(r0 r1 r2:Rt):List Value:=fq t0++(fq t1++(fq t2++(pI r0++(pI r1++pI r2))))
abbrev T33:=Int×Int×Int×Int×(Option Addr)×(Option Addr)×Int×Int×Int×Int×(Option Addr)×(Option Addr)×Int×Int×Int×Int×(Option Addr)×(Option Addr)×Int×Int×Int×Int×SliceV×Int×Int×Int×Int×SliceV×Int×Int×Int×Int×SliceV
abbrev K33:List Kind:= [.agg ((.int .i64)::(.int .u64)::(.int .u64)::(.int .u64):: .ptr:: .ptr::(.int .i64)::(.int .u64)::(.int .u64)::(.int .u64):: .ptr:: .ptr::(.int .i64)::(.int .u64)::(.int .u64)::(.int .u64):: .ptr:: .ptr::(.int .i64)::(.int .u64)::(.int .u64)::(.int .u64):: .slice::(.int .i64)::(.int .u64)::(.int .u64)::(.int .u64):: .slice::(.int .i64)::(.int .u64)::(.int .u64)::(.int .u64):: .slice:: [])]
def Wb(t0 t1 t2:Tr)(r0 r1 r2:Rt):T33:=(t0.1,t0.2.1,t0.2.2.1,t0.2.2.2.1,t0.2.2.2.2.1,t0.2.2.2.2.2,t1.1,t1.2.1,t1.2.2.1,t1.2.2.2.1,t1.2.2.2.2.1,t1.2.2.2.2.2,t2.1,t2.2.1,t2.2.2.1,t2.2.2.2.1,t2.2.2.2.2.1,t2.2.2.2.2.2,r0.1,r0.2.1,r0.2.2.1,r0.2.2.2.1,r0.2.2.2.2,r1.1,r1.2.1,r1.2.2.1,r1.2.2.2.1,r1.2.2.2.2,r2.1,r2.2.1,r2.2.2.1,r2.2.2.2.1,r2.2.2.2.2)
abbrev Ae(h:ad)(b:Nat)(t0 t1 t2:Tr)(r0 r1 r2:Rt):Prop:=h[b]? =some (.cells (w3 t0 t1 t2 r0 r1 r2).toArray rH (0,0))
theorem Vj{h:ad}{b:Nat}{t0 t1 t2 u:Tr}{r0 r1 r2:Rt}{a:Addr}(hb:Ae h b t0 t1 t2 r0 r1 r2)(ha:a=⟨b,0,none⟩){k:ad→Prop}(hk:∀h',Ae h' b u t1 t2 r0 r1 r2→Upd (· =b) h h'→k h'):qL h (some a) 0 (fq u)∧At (ff h a 0 (fq u)) k:=
 BW (A:= []) (c:=fq t0) (B:=fq t1++(fq t2++(pI r0++(pI r1++pI r2)))) (vs:=fq u) hb ha rfl fun h1 hb1 hu=>hk h1 hb1 hu
theorem TX{h:ad}{b:Nat}{t0 t1 t2 u:Tr}{r0 r1 r2:Rt}{a:Addr}(hb:Ae h b t0 t1 t2 r0 r1 r2)(ha:a=⟨b,6,none⟩){k:ad→Prop}(hk:∀h',Ae h' b t0 u t2 r0 r1 r2→Upd (· =b) h h'→k h'):qL h (some a) 0 (fq u)∧At (ff h a 0 (fq u)) k:=
 BW (A:=fq t0) (c:=fq t1) (B:=fq t2++(pI r0++(pI r1++pI r2))) (vs:=fq u) hb ha rfl fun h1 hb1 hu=>hk h1 hb1 hu
theorem TW{h:ad}{b:Nat}{t0 t1 t2 u:Tr}{r0 r1 r2:Rt}{a:Addr}(hb:Ae h b t0 t1 t2 r0 r1 r2)(ha:a=⟨b,12,none⟩){k:ad→Prop}(hk:∀h',Ae h' b t0 t1 u r0 r1 r2→Upd (· =b) h h'→k h'):qL h (some a) 0 (fq u)∧At (ff h a 0 (fq u)) k:=
 BW (A:=fq t0++fq t1) (c:=fq t2) (B:=pI r0++(pI r1++pI r2)) (vs:=fq u) hb ha rfl fun h1 hb1 hu=>hk h1 hb1 hu
theorem Vi{h:ad}{b:Nat}{t0 t1 t2:Tr}{r0 r1 r2 u:Rt}{a:Addr}(hb:Ae h b t0 t1 t2 r0 r1 r2)(ha:a=⟨b,18,none⟩){k:ad→Prop}(hk:∀h',Ae h' b t0 t1 t2 u r1 r2→Upd (· =b) h h'→k h'):qL h (some a) 0 (pI u)∧At (ff h a 0 (pI u)) k:=
 BW (A:=fq t0++fq t1++fq t2) (c:=pI r0) (B:=pI r1++pI r2) (vs:=pI u) hb ha rfl fun h1 hb1 hu=>hk h1 hb1 hu
theorem TV{h:ad}{b:Nat}{t0 t1 t2:Tr}{r0 r1 r2 u:Rt}{a:Addr}(hb:Ae h b t0 t1 t2 r0 r1 r2)(ha:a=⟨b,23,none⟩){k:ad→Prop}(hk:∀h',Ae h' b t0 t1 t2 r0 u r2→Upd (· =b) h h'→k h'):qL h (some a) 0 (pI u)∧At (ff h a 0 (pI u)) k:=
 BW (A:=fq t0++fq t1++fq t2++pI r0) (c:=pI r1) (B:=pI r2) (vs:=pI u) hb ha rfl fun h1 hb1 hu=>hk h1 hb1 hu
theorem TU{h:ad}{b:Nat}{t0 t1 t2:Tr}{r0 r1 r2 u:Rt}{a:Addr}(hb:Ae h b t0 t1 t2 r0 r1 r2)(ha:a=⟨b,28,none⟩){k:ad→Prop}(hk:∀h',Ae h' b t0 t1 t2 r0 r1 u→Upd (· =b) h h'→k h'):qL h (some a) 0 (pI u)∧At (ff h a 0 (pI u)) k:=
 BW (A:=fq t0++fq t1++fq t2++pI r0++pI r1) (c:=pI r2) (B:= []) (vs:=pI u) hb ha rfl fun h1 hb1 hu=>hk h1 hb1 hu
abbrev VK:List Value:=w3 sO sO sO IA IA IA
set_option maxHeartbeats 2000000 in
theorem PL{W:Nat→Prop}{x:Hs}{h:ad}{k:Int}{s sm sn sg sk:SliceV}{l m n:List Pr}{g gk:List ByteArray}(hk0:0≤k)(hk1:k≤255)(hs:Sl eh 2 W h s l)(hm:Sl eh 2 W h sm m)(hn:Sl eh 2 W h sn n)(hg:Sl Ur 1 W h sg g)(hgk:Sl Ur 1 W h sk gk)(hW:∀y,W y→y<h.size)(hl:l.length≤9223372036854775807)(hml:m.length≤9223372036854775807)(hnl:n.length≤9223372036854775807)(hgl:g.length≤9223372036854775807)(hkl:gk.length≤9223372036854775807)(free:Bool){K:T33→ad→Prop}
  (hk:∀h' t0 t1 t2 r0 r1 r2,TreeIs W h' (IntKind.wrap .i64 (jz k 2)) x t0 (eO [] l)→TreeIs W h' (IntKind.wrap .i64 (jz k 2)) x t1 (m0 (eO (if free then[]else eO [] l) m) g)→TreeIs W h' (IntKind.wrap .i64 (jz k 2)) x t2 (m0 (eO (if free then[]else eO [] l) n) gk)→
   RefIs W h' (IntKind.wrap .i64 (jz k 2)) x r0 (eO [] l)→RefIs W h' (IntKind.wrap .i64 (jz k 2)) x r1 (m0 (eO (if free then[]else eO [] l) m) g)→RefIs W h' (IntKind.wrap .i64 (jz k 2)) x r2 (m0 (eO (if free then[]else eO [] l) n) gk)→Upd No h h'→K (Wb t0 t1 t2 r0 r1 r2) h'):
  HC PG zP [.int .u8 k,.agg #[.int .u64 x.k0,.int .u64 x.k1,.int .u64 x.mask],.slice s.a s.len s.cap,.slice sm.a sm.len sm.cap,.slice sn.a sn.len sn.cap,.slice sg.a sg.len sg.cap,.slice sk.a sk.len sk.cap,.bool free] K33 K h:=by
 refine NU k (x.k0,x.k1,x.mask) s sm sn sg sk free ?_;unfold Gd bZ aM cS ae aG au bi cU Dl zl kU qK mK bW c7 ft N7 Ky SK Fm;refine aW fun h1 b1 k1=>aW fun h2 b2 k2=>aW fun h3 b3 k3=>?_
 have z1:=bd b1;have z2:=bd b2;have z3:=bd b3;have s1:h.size≤h1.size:=k1.size;have s2:h1.size≤h2.size:=k2.size;have s3:=k3.size;have k03:=(k1.tr k2).tr k3;have c1:=k3.get0 (k2.get0 b1);refine⟨_,vc c1 0,_,vc c1 1,_,vc c1 2,?_⟩;refine Nz (W:=Pro W h h3) (x:=x) hk0 hk1 (Pro.lt hW k03) fun h8 t r i8 j8 k8=>aW fun h9 b9 k9=>aW fun h10 b10 k10=>?_
 generalize IntKind.wrap .i64 (jz k 2)=kind at hk i8 j8;have s8:=k8.size;have z9:=bd b9;have z10:=bd b10;have s9:=k9.size;have U3:=k10.size;refine cl (c:=fq sO) (vs:=fq t) (k10.get0 b9) rfl fun h11 b11 hu11=>?_
 refine cl (c:=pI IA) (vs:=pI r) (hu11.oth b10 (by omega)) rfl fun h12 b12 hu12=>?_
 have s11:=hu11.size;have s12:=hu12.size;have d9':=hu12.oth b11 (by omega);have k812:Upd No h8 h12:=((k9.tr k10).own hu11 (aq _)).own hu12 (by omega);have k012:Upd No h h12:=(k03.tr k8).tr k812;have hW':∀{h':ad},h3.size≤h'.size→∀y,Pro W h h3 y→y<h'.size:=fun k y hy=>aD (Pro.lt hW k03 y hy) k
 have hP2:∀{h':ad} (y:Nat),y=h2.size→Pro W h h3 y∨h'.size≤y:=fun y hy=>.inl (.inr (by omega))
 refine⟨_,vc d9' 0,_,vc d9' 1,_,vc d9' 2,_,vc d9' 3,_,vc d9' 4,_,vc d9' 5,_,vc b12 0,_,vc b12 1,_,vc b12 2,_,vc b12 3,r.2.2.2.2,vc b12 4,?_⟩;have i12:=i8.upd0 k812;have j12:=j8.upd0 k812;refine tA (W:=Pro W h h3) (g:= []) (sg:=⟨none,0,0⟩) i12 j12 few_nil few_nil (by omega) ((hs.less Pro.hm).upd k012 fun _ h=>h.elim) (Sl.nil fun _=>⟨rfl,by omega⟩) (hW' (by omega)) hl (bC _) fun h25 t0 r0 i25 j25 k25=>?_
 have s25:=k25.size;have fL0:Few 20 (m0 (eO [] l) []):=xR (ll few_nil l) [];refine⟨by decide,?_⟩;have w25:Ae h25 h2.size sO sO sO IA IA IA:=k25.get0 (k812.get0 (k8.get0 b3));have z25:Ae h25 h1.size sO sO sO IA IA IA:=k25.get0 (k812.get0 (k8.get0 (k3.get0 b2)));refine Vj (u:=t0) w25 rfl fun h26 w26a hu26=>⟨by decide,?_⟩
 refine Vi (u:=r0) w26a rfl fun h27 w27 hu27=>?_
 have k27:Upd (· =h2.size) h25 h27:=hu26.tr hu27
 have s27:=k27.size;have k027:Upd No h h27:=(k012.tr k25).own k27 (by omega);have d9:=k27.oth (k25.get0 d9') (by omega);have d10:=k27.oth (k25.get0 b12) (by omega);have z27:=k27.oth z25 (by omega);have i26:=i25.updM k27 hP2;have j26:=j25.updM k27 hP2;have i25b:=(i12.upd0 k25).updM k27 hP2;have j25b:=(j12.upd0 k25).updM k27 hP2;have fin:∀{h57 h91:ad} {t:Tr} {L:List Pr},TreeIs (Pro W h h3) h57 kind x t L→Upd (· =h1.size) h57 h91→TreeIs W h91 kind x t L:=fun i hu=>(i.updM hu fun y hy=>.inl (.inr (by have hy:y=h1.size:=hy;omega))).less Pro.sub
 have finR:∀{h57 h91:ad} {t:Rt} {L:List Pr},RefIs (Pro W h h3) h57 kind x t L→Upd (· =h1.size) h57 h91→RefIs W h91 kind x t L:=fun i hu=>(i.updM hu fun y hy=>.inl (.inr (by have hy:y=h1.size:=hy;omega))).less Pro.sub
 cases free with
 |true=>
  refine ax.2 ?_;refine⟨_,vc d9 0,_,vc d9 1,_,vc d9 2,_,vc d9 3,_,vc d9 4,_,vc d9 5,_,vc d10 0,_,vc d10 1,_,vc d10 2,_,vc d10 3,r.2.2.2.2,vc d10 4,?_⟩;refine tA (W:=Pro W h h3) i25b j25b few_nil few_nil (by omega) (((hm.less Pro.hm).upd k027 fun _ h=>h.elim)) (((hg.less Pro.hm).upd k027 fun _ h=>h.elim)) (hW' (by omega)) hml hgl fun h40 t1 r1 i40 j40 k40=>?_
  have s40:=k40.size;refine⟨by decide,?_⟩;refine TX (u:=t1) (k40.get0 w27) rfl fun h41 w41a hu41=>⟨by decide,?_⟩
  refine TV (u:=r1) w41a rfl fun h42 w41 hu42=>?_
  have k42:Upd (· =h2.size) h40 h42:=hu41.tr hu42
  have k2742:Upd (· =h2.size) h27 h42:=k40.wide.tr k42
  have s42:=k42.size;have k042:Upd No h h42:=(k027.tr k40).own k42 (by omega);have e9:=k2742.oth d9 (by omega);have e10:=k2742.oth d10 (by omega);refine⟨_,vc e9 0,_,vc e9 1,_,vc e9 2,_,vc e9 3,_,vc e9 4,_,vc e9 5,_,vc e10 0,_,vc e10 1,_,vc e10 2,_,vc e10 3,r.2.2.2.2,vc e10 4,?_⟩;refine tA (W:=Pro W h h3) (i25b.updM k2742 hP2) (j25b.updM k2742 hP2) few_nil few_nil (by omega) (((hn.less Pro.hm).upd k042 fun _ h=>h.elim)) (((hgk.less Pro.hm).upd k042 fun _ h=>h.elim)) (hW' (by omega)) hnl hkl fun h55 t2 r2 i55 j55 k55=>?_
  have s55:=k55.size;refine⟨by decide,?_⟩;refine TW (u:=t2) (k55.get0 w41) rfl fun h56 w56 hu56=>⟨by decide,?_⟩
  refine TU (u:=r2) w56 rfl fun h57 w57 hu57=>?_
  have k57:Upd (· =h2.size) h55 h57:=hu56.tr hu57
  have k4057:Upd (· =h2.size) h40 h57:=(k42.tr k55.wide).tr k57
  have k2757:Upd (· =h2.size) h27 h57:=k40.wide.tr k4057
  refine⟨_,vc w57 0,_,vc w57 1,_,vc w57 2,_,vc w57 3,_,vc w57 4,_,vc w57 5,_,vc w57 6,_,vc w57 7,_,vc w57 8,_,vc w57 9,_,vc w57 10,_,vc w57 11,_,vc w57 12,_,vc w57 13,_,vc w57 14,_,vc w57 15,_,vc w57 16,_,vc w57 17,_,vc w57 18,_,vc w57 19,_,vc w57 20,_,vc w57 21,r0.2.2.2.2,vc w57 22,_,vc w57 23,_,vc w57 24,_,vc w57 25,_,vc w57 26,r1.2.2.2.2,vc w57 27,_,vc w57 28,_,vc w57 29,_,vc w57 30,_,vc w57 31,r2.2.2.2.2,vc w57 32,?_⟩
  refine cl (c:=VK) (vs:=w3 t0 t1 t2 r0 r1 r2) (k2757.oth z27 (by omega)) rfl fun h91 b91 hu91=>?_
  refine⟨_,vc b91 0,_,vc b91 1,_,vc b91 2,_,vc b91 3,_,vc b91 4,_,vc b91 5,_,vc b91 6,_,vc b91 7,_,vc b91 8,_,vc b91 9,_,vc b91 10,_,vc b91 11,_,vc b91 12,_,vc b91 13,_,vc b91 14,_,vc b91 15,_,vc b91 16,_,vc b91 17,_,vc b91 18,_,vc b91 19,_,vc b91 20,_,vc b91 21,r0.2.2.2.2,vc b91 22,_,vc b91 23,_,vc b91 24,_,vc b91 25,_,vc b91 26,r1.2.2.2.2,vc b91 27,_,vc b91 28,_,vc b91 29,_,vc b91 30,_,vc b91 31,r2.2.2.2.2,vc b91 32,?_⟩
  exact hk h91 t0 t1 t2 r0 r1 r2 (fin (i26.updM k2757 hP2) hu91) (fin ((i40.updM k4057 hP2)) hu91) (fin ((i55.updM k57 hP2)) hu91) (finR (j26.updM k2757 hP2) hu91) (finR (j40.updM k4057 hP2) hu91) (finR (j55.updM k57 hP2) hu91) (((k042.tr k55).own k57 (by omega)).own hu91 (by omega))
 |false=>
  refine ag.2 ?_;refine⟨by decide,_,sF w27 0 0,_,sF w27 0 1,_,sF w27 0 2,_,sF w27 0 3,_,sF w27 0 4,_,sF w27 0 5,by decide,_,sF w27 18 0,_,sF w27 18 1,_,sF w27 18 2,_,sF w27 18 3,r0.2.2.2.2,sF w27 18 4,?_⟩
  refine tA (W:=Pro W h h3) i26 j26 fL0 fL0 (by omega) (((hm.less Pro.hm).upd k027 fun _ h=>h.elim)) (((hg.less Pro.hm).upd k027 fun _ h=>h.elim)) (hW' (by omega)) hml hgl fun h40 t1 r1 i40 j40 k40=>?_
  have s40:=k40.size;refine⟨by decide,?_⟩;refine TX (u:=t1) (k40.get0 w27) rfl fun h41 w41a hu41=>⟨by decide,?_⟩
  refine TV (u:=r1) w41a rfl fun h42 w41 hu42=>?_
  have k42:Upd (· =h2.size) h40 h42:=hu41.tr hu42
  have k2742:Upd (· =h2.size) h27 h42:=k40.wide.tr k42
  have s42:=k42.size;have k042:Upd No h h42:=(k027.tr k40).own k42 (by omega);have e9:=k2742.oth d9 (by omega);have e10:=k2742.oth d10 (by omega);refine⟨by decide,_,sF w41 0 0,_,sF w41 0 1,_,sF w41 0 2,_,sF w41 0 3,_,sF w41 0 4,_,sF w41 0 5,by decide,_,sF w41 18 0,_,sF w41 18 1,_,sF w41 18 2,_,sF w41 18 3,r0.2.2.2.2,sF w41 18 4,?_⟩
  refine tA (W:=Pro W h h3) (i26.updM k2742 hP2) (j26.updM k2742 hP2) fL0 fL0 (by omega) (((hn.less Pro.hm).upd k042 fun _ h=>h.elim)) (((hgk.less Pro.hm).upd k042 fun _ h=>h.elim)) (hW' (by omega)) hnl hkl fun h55 t2 r2 i55 j55 k55=>?_
  have s55:=k55.size;refine⟨by decide,?_⟩;refine TW (u:=t2) (k55.get0 w41) rfl fun h56 w56 hu56=>⟨by decide,?_⟩
  refine TU (u:=r2) w56 rfl fun h57 w57 hu57=>?_
  have k57:Upd (· =h2.size) h55 h57:=hu56.tr hu57
  have k4057:Upd (· =h2.size) h40 h57:=(k42.tr k55.wide).tr k57
  have k2757:Upd (· =h2.size) h27 h57:=k40.wide.tr k4057
  refine⟨_,vc w57 0,_,vc w57 1,_,vc w57 2,_,vc w57 3,_,vc w57 4,_,vc w57 5,_,vc w57 6,_,vc w57 7,_,vc w57 8,_,vc w57 9,_,vc w57 10,_,vc w57 11,_,vc w57 12,_,vc w57 13,_,vc w57 14,_,vc w57 15,_,vc w57 16,_,vc w57 17,_,vc w57 18,_,vc w57 19,_,vc w57 20,_,vc w57 21,r0.2.2.2.2,vc w57 22,_,vc w57 23,_,vc w57 24,_,vc w57 25,_,vc w57 26,r1.2.2.2.2,vc w57 27,_,vc w57 28,_,vc w57 29,_,vc w57 30,_,vc w57 31,r2.2.2.2.2,vc w57 32,?_⟩
  refine cl (c:=VK) (vs:=w3 t0 t1 t2 r0 r1 r2) (k2757.oth z27 (by omega)) rfl fun h91 b91 hu91=>?_
  refine⟨_,vc b91 0,_,vc b91 1,_,vc b91 2,_,vc b91 3,_,vc b91 4,_,vc b91 5,_,vc b91 6,_,vc b91 7,_,vc b91 8,_,vc b91 9,_,vc b91 10,_,vc b91 11,_,vc b91 12,_,vc b91 13,_,vc b91 14,_,vc b91 15,_,vc b91 16,_,vc b91 17,_,vc b91 18,_,vc b91 19,_,vc b91 20,_,vc b91 21,r0.2.2.2.2,vc b91 22,_,vc b91 23,_,vc b91 24,_,vc b91 25,_,vc b91 26,r1.2.2.2.2,vc b91 27,_,vc b91 28,_,vc b91 29,_,vc b91 30,_,vc b91 31,r2.2.2.2.2,vc b91 32,?_⟩
  exact hk h91 t0 t1 t2 r0 r1 r2 (fin (i26.updM k2757 hP2) hu91) (fin ((i40.updM k4057 hP2)) hu91) (fin ((i55.updM k57 hP2)) hu91) (finR (j26.updM k2757 hP2) hu91) (finR (j40.updM k4057 hP2) hu91) (finR (j55.updM k57 hP2) hu91) (((k042.tr k55).own k57 (by omega)).own hu91 (by omega))
end Go.Proofs
namespace Go.Proofs
open Go Go.Lift
theorem bF{h:ad}{b:Nat}{c:Array Value}{t:TypeId}(hb:h[b]? =some (.cells c t (0,0))) (i j k:Nat):aP h (adr (adr (adr ⟨b,0,none⟩ i) j) k)=c[i+j+k]?:=by rw[ce,ce,ce,Nat.zero_add];exact bf hb
theorem UE{h:ad}{t0 t1 t2:Tr}{r0 r1 r2:Rt}{k:ad→Prop}(hk:∀h',Ae h' h.size t0 t1 t2 r0 r1 r2→Upd No h h'→k h'):
  At (hnew h VK rH) (fun h1=>qL h1 (some (aj h)) 0 (w3 t0 t1 t2 r0 r1 r2)∧At (ff h1 (aj h) 0 (w3 t0 t1 t2 r0 r1 r2)) k):=
 aW fun _ b1 k1=>cl (c:=VK) (vs:=w3 t0 t1 t2 r0 r1 r2) b1 rfl fun h2 b2 hu2=>hk h2 b2 (k1.own hu2 (aq _))
theorem SF{a b c:Nat}(ha:a=0)(hb:b=0)(hc:c=0):IntKind.wrap .i64 (IntKind.wrap .i64 ((a:Int)+(b:Int))+(c:Int))=0:=by subst ha hb hc;decide
set_option maxRecDepth 100000 in
set_option maxHeartbeats 4000000 in
theorem Gx{h:ad}{k:Int}{x:Hs}{s sm sn sg sk:SliceV}{l m n:List Pr}{g gk:List ByteArray}{free:Bool}(hs:Sl eh 2 No h s l)(hl:l.length≤9223372036854775807)(hm:Sl eh 2 No h sm m)(hml:m.length≤9223372036854775807)(hn:Sl eh 2 No h sn n)(hnl:n.length≤9223372036854775807)(hg:Sl Ur 1 No h sg g)(hgl:g.length≤9223372036854775807)(hgk:Sl Ur 1 No h sk gk)(hkl:gk.length≤9223372036854775807)(hk0:0≤k)(hk1:k≤255):
  HC PG vz [.int .u8 k,.agg #[.int .u64 x.k0,.int .u64 x.k1,.int .u64 x.mask],.slice s.a s.len s.cap,.slice sm.a sm.len sm.cap,.slice sn.a sn.len sn.cap,.slice sg.a sg.len sg.cap,.slice sk.a sk.len sk.cap,.bool free] [.c .bool] (fun b h'=>b=true∧Upd No h h') h:=by
 refine CM k (x.k0,x.k1,x.mask) s sm sn sg sk free ?_;unfold vW aL bZ aM cS ae aG au bi ay be cU nv Dl zl kU qK mK uc D0 KZ;refine aW fun h1 b1 k1=>NA fun h3 k3=>ag.2 ?_
 have c1:=k3.get0 b1;have k03:=k1.tr k3;refine⟨_,vc c1 0,_,vc c1 1,_,vc c1 2,?_⟩;have up:∀{α:Type} {f:α→List Value} {z:Nat} {s:SliceV} {xs:List α},Sl f z No h s xs→Sl f z No h3 s xs:=fun hs=>hs.upd k03 fun _ h=>h.elim
 refine PL (x:=x) hk0 hk1 (up hs) (up hm) (up hn) (up hg) (up hgk) (fun _ h=>h.elim) hl hml hnl hgl hkl free fun h8 t0 t1 t2 r0 r1 r2 i0 i1 i2 _ _ _ k8=>?_
 have f0:Few 200 (eO [] l):=(ll few_nil l).mono (by omega);have fF:Few 20 (if free then[]else eO [] l):=by
  split
  ·exact few_nil.mono (by omega)
  ·exact ll few_nil l
 have f1:Few 200 (m0 (eO (if free then[]else eO [] l) m) g):=(xR (ll fF m) g).mono (by omega)
 have f2:Few 200 (m0 (eO (if free then[]else eO [] l) n) gk):=(xR (ll fF n) gk).mono (by omega)
 generalize IntKind.wrap .i64 (jz k 2)=kind at i0 i1 i2;generalize eO [] l=L0 at*;generalize m0 (eO (if free then[]else L0) m) g=L1 at*
 generalize m0 (eO (if free then[]else L0) n) gk=L2 at*
 clear fF;refine UE (t0:=t0) (t1:=t1) (t2:=t2) (r0:=r0) (r1:=r1) (r2:=r2) fun h10 w10 k10=>?_
 have k010:=(k03.tr k8).tr k10;have z10:=bd w10;have u0:=f0.up;have u1:=f1.up;have u2:=f2.up;have g0:=f0.fits;have g1:=f1.fits;have g2:=f2.fits;have n0:=f0.len;have n1:=f1.len;have n2:=f2.len;refine Join.intro (fun t h'=>∃bo ba bb:Nat,t=(⟨bo,0,none⟩,⟨ba,0,none⟩,⟨bb,0,none⟩)∧h'[bo]? =some (.cells (fq t0).toArray aH (0,0))∧h'[ba]? =some (.cells (fq t1).toArray aH (0,0))∧h'[bb]? =some (.cells (fq t2).toArray aH (0,0))∧Upd No h10 h') (fun R hR=>?_) ?_
 ·skip
  refine⟨by decide,?_⟩;refine⟨_,bF w10 0 0 0,_,bF w10 0 0 1,_,bF w10 0 0 2,_,bF w10 0 0 3,_,bF w10 0 0 4,_,bF w10 0 0 5,?_⟩;refine⟨by decide,?_⟩;refine⟨_,bF w10 0 6 0,_,bF w10 0 6 1,_,bF w10 0 6 2,_,bF w10 0 6 3,_,bF w10 0 6 4,_,bF w10 0 6 5,?_⟩;refine⟨by decide,?_⟩;refine⟨_,bF w10 0 12 0,_,bF w10 0 12 1,_,bF w10 0 12 2,_,bF w10 0 12 3,_,bF w10 0 12 4,_,bF w10 0 12 5,?_⟩;constructor
  ·refine aW fun h84 b84 k84=>?_
   have s84:=k84.size;have z84:=bd b84;have w10:=k84.get0 w10;refine⟨⟨bF w10 0 12 0,bF w10 0 12 1,bF w10 0 12 2,bF w10 0 12 3,bF w10 0 12 4,bF w10 0 12 5⟩,?_⟩;refine⟨⟨bF w10 0 6 0,bF w10 0 6 1,bF w10 0 6 2,bF w10 0 6 3,bF w10 0 6 4,bF w10 0 6 5⟩,?_⟩;refine⟨⟨bF w10 0 0 0,bF w10 0 0 1,bF w10 0 0 2,bF w10 0 0 3,bF w10 0 0 4,bF w10 0 0 5⟩,?_⟩;constructor
   ·refine aW fun h85 b85 k85=>?_
    have s85:=k85.size;have z85:=bd b85;have w10:=k85.get0 w10;refine⟨⟨bF w10 0 12 0,bF w10 0 12 1,bF w10 0 12 2,bF w10 0 12 3,bF w10 0 12 4,bF w10 0 12 5⟩,?_⟩;refine⟨⟨bF w10 0 6 0,bF w10 0 6 1,bF w10 0 6 2,bF w10 0 6 3,bF w10 0 6 4,bF w10 0 6 5⟩,?_⟩;refine⟨⟨bF w10 0 0 0,bF w10 0 0 1,bF w10 0 0 2,bF w10 0 0 3,bF w10 0 0 4,bF w10 0 0 5⟩,?_⟩;refine aW fun h86 b86 k86=>?_
    have s86:=k86.size;have z86:=bd b86;have w10:=k86.get0 w10;refine⟨⟨bF w10 0 12 0,bF w10 0 12 1,bF w10 0 12 2,bF w10 0 12 3,bF w10 0 12 4,bF w10 0 12 5⟩,?_⟩;refine⟨⟨bF w10 0 6 0,bF w10 0 6 1,bF w10 0 6 2,bF w10 0 6 3,bF w10 0 6 4,bF w10 0 6 5⟩,?_⟩;refine⟨⟨bF w10 0 0 0,bF w10 0 0 1,bF w10 0 0 2,bF w10 0 0 3,bF w10 0 0 4,bF w10 0 0 5⟩,?_⟩;refine cl (c:=fq sO) (vs:=fq t0) (k86.get0 (k85.get0 b84)) rfl fun h87 c87 hu87=>?_
    have s87:=hu87.size;have w10:=hu87.oth w10 (by omega);refine⟨⟨bF w10 0 12 0,bF w10 0 12 1,bF w10 0 12 2,bF w10 0 12 3,bF w10 0 12 4,bF w10 0 12 5⟩,?_⟩;refine⟨⟨bF w10 0 6 0,bF w10 0 6 1,bF w10 0 6 2,bF w10 0 6 3,bF w10 0 6 4,bF w10 0 6 5⟩,?_⟩;refine cl (c:=fq sO) (vs:=fq t1) (hu87.oth (k86.get0 b85) (by omega)) rfl fun h88 c88 hu88=>?_
    have s88:=hu88.size;have w10:=hu88.oth w10 (by omega);refine⟨⟨bF w10 0 12 0,bF w10 0 12 1,bF w10 0 12 2,bF w10 0 12 3,bF w10 0 12 4,bF w10 0 12 5⟩,?_⟩;refine cl (c:=fq sO) (vs:=fq t2) (hu88.oth (hu87.oth b86 (by omega)) (by omega)) rfl fun h89 c89 hu89=>?_
    have s89:=hu89.size;exact hR _ _ ⟨_,_,_,rfl,(hu89.oth (hu88.oth c87 (by omega)) (by omega)),(hu89.oth c88 (by omega)),c89,(((((k84.tr k85).tr k86).own hu87 (by omega)).own hu88 (by omega)).own hu89 (by omega))⟩
   ·refine aW fun h90 b90 k90=>?_
    have s90:=k90.size;have z90:=bd b90;have w10:=k90.get0 w10;refine⟨⟨bF w10 0 12 0,bF w10 0 12 1,bF w10 0 12 2,bF w10 0 12 3,bF w10 0 12 4,bF w10 0 12 5⟩,?_⟩;refine⟨⟨bF w10 0 6 0,bF w10 0 6 1,bF w10 0 6 2,bF w10 0 6 3,bF w10 0 6 4,bF w10 0 6 5⟩,?_⟩;refine⟨⟨bF w10 0 0 0,bF w10 0 0 1,bF w10 0 0 2,bF w10 0 0 3,bF w10 0 0 4,bF w10 0 0 5⟩,?_⟩;refine aW fun h91 b91 k91=>?_
    have s91:=k91.size;have z91:=bd b91;have w10:=k91.get0 w10;refine⟨⟨bF w10 0 12 0,bF w10 0 12 1,bF w10 0 12 2,bF w10 0 12 3,bF w10 0 12 4,bF w10 0 12 5⟩,?_⟩;refine⟨⟨bF w10 0 6 0,bF w10 0 6 1,bF w10 0 6 2,bF w10 0 6 3,bF w10 0 6 4,bF w10 0 6 5⟩,?_⟩;refine⟨⟨bF w10 0 0 0,bF w10 0 0 1,bF w10 0 0 2,bF w10 0 0 3,bF w10 0 0 4,bF w10 0 0 5⟩,?_⟩;refine cl (c:=fq sO) (vs:=fq t0) (k91.get0 (k90.get0 b84)) rfl fun h92 c92 hu92=>?_
    have s92:=hu92.size;have w10:=hu92.oth w10 (by omega);refine⟨⟨bF w10 0 12 0,bF w10 0 12 1,bF w10 0 12 2,bF w10 0 12 3,bF w10 0 12 4,bF w10 0 12 5⟩,?_⟩;refine⟨⟨bF w10 0 6 0,bF w10 0 6 1,bF w10 0 6 2,bF w10 0 6 3,bF w10 0 6 4,bF w10 0 6 5⟩,?_⟩;refine cl (c:=fq sO) (vs:=fq t1) (hu92.oth b91 (by omega)) rfl fun h93 c93 hu93=>?_
    have s93:=hu93.size;have w10:=hu93.oth w10 (by omega);refine⟨⟨bF w10 0 12 0,bF w10 0 12 1,bF w10 0 12 2,bF w10 0 12 3,bF w10 0 12 4,bF w10 0 12 5⟩,?_⟩;refine cl (c:=fq sO) (vs:=fq t2) (hu93.oth (hu92.oth (k91.get0 b90) (by omega)) (by omega)) rfl fun h94 c94 hu94=>?_
    have s94:=hu94.size;exact hR _ _ ⟨_,_,_,rfl,(hu94.oth (hu93.oth c92 (by omega)) (by omega)),(hu94.oth c93 (by omega)),c94,(((((k84.tr k90).tr k91).own hu92 (by omega)).own hu93 (by omega)).own hu94 (by omega))⟩
  ·constructor
   ·refine aW fun h95 b95 k95=>?_
    have s95:=k95.size;have z95:=bd b95;have w10:=k95.get0 w10;refine⟨⟨bF w10 0 12 0,bF w10 0 12 1,bF w10 0 12 2,bF w10 0 12 3,bF w10 0 12 4,bF w10 0 12 5⟩,?_⟩;refine⟨⟨bF w10 0 6 0,bF w10 0 6 1,bF w10 0 6 2,bF w10 0 6 3,bF w10 0 6 4,bF w10 0 6 5⟩,?_⟩;refine⟨⟨bF w10 0 0 0,bF w10 0 0 1,bF w10 0 0 2,bF w10 0 0 3,bF w10 0 0 4,bF w10 0 0 5⟩,?_⟩;constructor
    ·refine aW fun h96 b96 k96=>?_
     have s96:=k96.size;have z96:=bd b96;have w10:=k96.get0 w10;refine⟨⟨bF w10 0 12 0,bF w10 0 12 1,bF w10 0 12 2,bF w10 0 12 3,bF w10 0 12 4,bF w10 0 12 5⟩,?_⟩;refine⟨⟨bF w10 0 6 0,bF w10 0 6 1,bF w10 0 6 2,bF w10 0 6 3,bF w10 0 6 4,bF w10 0 6 5⟩,?_⟩;refine⟨⟨bF w10 0 0 0,bF w10 0 0 1,bF w10 0 0 2,bF w10 0 0 3,bF w10 0 0 4,bF w10 0 0 5⟩,?_⟩;refine aW fun h97 b97 k97=>?_
     have s97:=k97.size;have z97:=bd b97;have w10:=k97.get0 w10;refine⟨⟨bF w10 0 12 0,bF w10 0 12 1,bF w10 0 12 2,bF w10 0 12 3,bF w10 0 12 4,bF w10 0 12 5⟩,?_⟩;refine⟨⟨bF w10 0 6 0,bF w10 0 6 1,bF w10 0 6 2,bF w10 0 6 3,bF w10 0 6 4,bF w10 0 6 5⟩,?_⟩;refine⟨⟨bF w10 0 0 0,bF w10 0 0 1,bF w10 0 0 2,bF w10 0 0 3,bF w10 0 0 4,bF w10 0 0 5⟩,?_⟩;refine cl (c:=fq sO) (vs:=fq t0) (k97.get0 b96) rfl fun h98 c98 hu98=>?_
     have s98:=hu98.size;have w10:=hu98.oth w10 (by omega);refine⟨⟨bF w10 0 12 0,bF w10 0 12 1,bF w10 0 12 2,bF w10 0 12 3,bF w10 0 12 4,bF w10 0 12 5⟩,?_⟩;refine⟨⟨bF w10 0 6 0,bF w10 0 6 1,bF w10 0 6 2,bF w10 0 6 3,bF w10 0 6 4,bF w10 0 6 5⟩,?_⟩;refine cl (c:=fq sO) (vs:=fq t1) (hu98.oth (k97.get0 (k96.get0 b95)) (by omega)) rfl fun h99 c99 hu99=>?_
     have s99:=hu99.size;have w10:=hu99.oth w10 (by omega);refine⟨⟨bF w10 0 12 0,bF w10 0 12 1,bF w10 0 12 2,bF w10 0 12 3,bF w10 0 12 4,bF w10 0 12 5⟩,?_⟩;refine cl (c:=fq sO) (vs:=fq t2) (hu99.oth (hu98.oth b97 (by omega)) (by omega)) rfl fun h100 c100 hu100=>?_
     have s100:=hu100.size;exact hR _ _ ⟨_,_,_,rfl,(hu100.oth (hu99.oth c98 (by omega)) (by omega)),(hu100.oth c99 (by omega)),c100,(((((k95.tr k96).tr k97).own hu98 (by omega)).own hu99 (by omega)).own hu100 (by omega))⟩
    ·refine aW fun h101 b101 k101=>?_
     have s101:=k101.size;have z101:=bd b101;have w10:=k101.get0 w10;refine⟨⟨bF w10 0 12 0,bF w10 0 12 1,bF w10 0 12 2,bF w10 0 12 3,bF w10 0 12 4,bF w10 0 12 5⟩,?_⟩;refine⟨⟨bF w10 0 6 0,bF w10 0 6 1,bF w10 0 6 2,bF w10 0 6 3,bF w10 0 6 4,bF w10 0 6 5⟩,?_⟩;refine⟨⟨bF w10 0 0 0,bF w10 0 0 1,bF w10 0 0 2,bF w10 0 0 3,bF w10 0 0 4,bF w10 0 0 5⟩,?_⟩;refine aW fun h102 b102 k102=>?_
     have s102:=k102.size;have z102:=bd b102;have w10:=k102.get0 w10;refine⟨⟨bF w10 0 12 0,bF w10 0 12 1,bF w10 0 12 2,bF w10 0 12 3,bF w10 0 12 4,bF w10 0 12 5⟩,?_⟩;refine⟨⟨bF w10 0 6 0,bF w10 0 6 1,bF w10 0 6 2,bF w10 0 6 3,bF w10 0 6 4,bF w10 0 6 5⟩,?_⟩;refine⟨⟨bF w10 0 0 0,bF w10 0 0 1,bF w10 0 0 2,bF w10 0 0 3,bF w10 0 0 4,bF w10 0 0 5⟩,?_⟩;refine cl (c:=fq sO) (vs:=fq t0) b102 rfl fun h103 c103 hu103=>?_
     have s103:=hu103.size;have w10:=hu103.oth w10 (by omega);refine⟨⟨bF w10 0 12 0,bF w10 0 12 1,bF w10 0 12 2,bF w10 0 12 3,bF w10 0 12 4,bF w10 0 12 5⟩,?_⟩;refine⟨⟨bF w10 0 6 0,bF w10 0 6 1,bF w10 0 6 2,bF w10 0 6 3,bF w10 0 6 4,bF w10 0 6 5⟩,?_⟩;refine cl (c:=fq sO) (vs:=fq t1) (hu103.oth (k102.get0 (k101.get0 b95)) (by omega)) rfl fun h104 c104 hu104=>?_
     have s104:=hu104.size;have w10:=hu104.oth w10 (by omega);refine⟨⟨bF w10 0 12 0,bF w10 0 12 1,bF w10 0 12 2,bF w10 0 12 3,bF w10 0 12 4,bF w10 0 12 5⟩,?_⟩;refine cl (c:=fq sO) (vs:=fq t2) (hu104.oth (hu103.oth (k102.get0 b101) (by omega)) (by omega)) rfl fun h105 c105 hu105=>?_
     have s105:=hu105.size;exact hR _ _ ⟨_,_,_,rfl,(hu105.oth (hu104.oth c103 (by omega)) (by omega)),(hu105.oth c104 (by omega)),c105,(((((k95.tr k101).tr k102).own hu103 (by omega)).own hu104 (by omega)).own hu105 (by omega))⟩
   ·refine aW fun h106 b106 k106=>?_
    have s106:=k106.size;have z106:=bd b106;have w10:=k106.get0 w10;refine⟨⟨bF w10 0 12 0,bF w10 0 12 1,bF w10 0 12 2,bF w10 0 12 3,bF w10 0 12 4,bF w10 0 12 5⟩,?_⟩;refine⟨⟨bF w10 0 6 0,bF w10 0 6 1,bF w10 0 6 2,bF w10 0 6 3,bF w10 0 6 4,bF w10 0 6 5⟩,?_⟩;refine⟨⟨bF w10 0 0 0,bF w10 0 0 1,bF w10 0 0 2,bF w10 0 0 3,bF w10 0 0 4,bF w10 0 0 5⟩,?_⟩;constructor
    ·refine aW fun h107 b107 k107=>?_
     have s107:=k107.size;have z107:=bd b107;have w10:=k107.get0 w10;refine⟨⟨bF w10 0 12 0,bF w10 0 12 1,bF w10 0 12 2,bF w10 0 12 3,bF w10 0 12 4,bF w10 0 12 5⟩,?_⟩;refine⟨⟨bF w10 0 6 0,bF w10 0 6 1,bF w10 0 6 2,bF w10 0 6 3,bF w10 0 6 4,bF w10 0 6 5⟩,?_⟩;refine⟨⟨bF w10 0 0 0,bF w10 0 0 1,bF w10 0 0 2,bF w10 0 0 3,bF w10 0 0 4,bF w10 0 0 5⟩,?_⟩;refine aW fun h108 b108 k108=>?_
     have s108:=k108.size;have z108:=bd b108;have w10:=k108.get0 w10;refine⟨⟨bF w10 0 12 0,bF w10 0 12 1,bF w10 0 12 2,bF w10 0 12 3,bF w10 0 12 4,bF w10 0 12 5⟩,?_⟩;refine⟨⟨bF w10 0 6 0,bF w10 0 6 1,bF w10 0 6 2,bF w10 0 6 3,bF w10 0 6 4,bF w10 0 6 5⟩,?_⟩;refine⟨⟨bF w10 0 0 0,bF w10 0 0 1,bF w10 0 0 2,bF w10 0 0 3,bF w10 0 0 4,bF w10 0 0 5⟩,?_⟩;refine cl (c:=fq sO) (vs:=fq t0) (k108.get0 b107) rfl fun h109 c109 hu109=>?_
     have s109:=hu109.size;have w10:=hu109.oth w10 (by omega);refine⟨⟨bF w10 0 12 0,bF w10 0 12 1,bF w10 0 12 2,bF w10 0 12 3,bF w10 0 12 4,bF w10 0 12 5⟩,?_⟩;refine⟨⟨bF w10 0 6 0,bF w10 0 6 1,bF w10 0 6 2,bF w10 0 6 3,bF w10 0 6 4,bF w10 0 6 5⟩,?_⟩;refine cl (c:=fq sO) (vs:=fq t1) (hu109.oth b108 (by omega)) rfl fun h110 c110 hu110=>?_
     have s110:=hu110.size;have w10:=hu110.oth w10 (by omega);refine⟨⟨bF w10 0 12 0,bF w10 0 12 1,bF w10 0 12 2,bF w10 0 12 3,bF w10 0 12 4,bF w10 0 12 5⟩,?_⟩;refine cl (c:=fq sO) (vs:=fq t2) (hu110.oth (hu109.oth (k108.get0 (k107.get0 b106)) (by omega)) (by omega)) rfl fun h111 c111 hu111=>?_
     have s111:=hu111.size;exact hR _ _ ⟨_,_,_,rfl,(hu111.oth (hu110.oth c109 (by omega)) (by omega)),(hu111.oth c110 (by omega)),c111,(((((k106.tr k107).tr k108).own hu109 (by omega)).own hu110 (by omega)).own hu111 (by omega))⟩
    ·refine aW fun h112 b112 k112=>?_
     have s112:=k112.size;have z112:=bd b112;have w10:=k112.get0 w10;refine⟨⟨bF w10 0 12 0,bF w10 0 12 1,bF w10 0 12 2,bF w10 0 12 3,bF w10 0 12 4,bF w10 0 12 5⟩,?_⟩;refine⟨⟨bF w10 0 6 0,bF w10 0 6 1,bF w10 0 6 2,bF w10 0 6 3,bF w10 0 6 4,bF w10 0 6 5⟩,?_⟩;refine⟨⟨bF w10 0 0 0,bF w10 0 0 1,bF w10 0 0 2,bF w10 0 0 3,bF w10 0 0 4,bF w10 0 0 5⟩,?_⟩;refine aW fun h113 b113 k113=>?_
     have s113:=k113.size;have z113:=bd b113;have w10:=k113.get0 w10;refine⟨⟨bF w10 0 12 0,bF w10 0 12 1,bF w10 0 12 2,bF w10 0 12 3,bF w10 0 12 4,bF w10 0 12 5⟩,?_⟩;refine⟨⟨bF w10 0 6 0,bF w10 0 6 1,bF w10 0 6 2,bF w10 0 6 3,bF w10 0 6 4,bF w10 0 6 5⟩,?_⟩;refine⟨⟨bF w10 0 0 0,bF w10 0 0 1,bF w10 0 0 2,bF w10 0 0 3,bF w10 0 0 4,bF w10 0 0 5⟩,?_⟩;refine cl (c:=fq sO) (vs:=fq t0) b113 rfl fun h114 c114 hu114=>?_
     have s114:=hu114.size;have w10:=hu114.oth w10 (by omega);refine⟨⟨bF w10 0 12 0,bF w10 0 12 1,bF w10 0 12 2,bF w10 0 12 3,bF w10 0 12 4,bF w10 0 12 5⟩,?_⟩;refine⟨⟨bF w10 0 6 0,bF w10 0 6 1,bF w10 0 6 2,bF w10 0 6 3,bF w10 0 6 4,bF w10 0 6 5⟩,?_⟩;refine cl (c:=fq sO) (vs:=fq t1) (hu114.oth (k113.get0 b112) (by omega)) rfl fun h115 c115 hu115=>?_
     have s115:=hu115.size;have w10:=hu115.oth w10 (by omega);refine⟨⟨bF w10 0 12 0,bF w10 0 12 1,bF w10 0 12 2,bF w10 0 12 3,bF w10 0 12 4,bF w10 0 12 5⟩,?_⟩;refine cl (c:=fq sO) (vs:=fq t2) (hu115.oth (hu114.oth (k113.get0 (k112.get0 b106)) (by omega)) (by omega)) rfl fun h116 c116 hu116=>?_
     have s116:=hu116.size;exact hR _ _ ⟨_,_,_,rfl,(hu116.oth (hu115.oth c114 (by omega)) (by omega)),(hu116.oth c115 (by omega)),c116,(((((k106.tr k112).tr k113).own hu114 (by omega)).own hu115 (by omega)).own hu116 (by omega))⟩
 rintro _ h118 ⟨bo,ba,bb,rfl,co,ca,cb,k118⟩;have i0:=(i0.upd0 k10).upd0 k118;have i1:=(i1.upd0 k10).upd0 k118;have i2:=(i2.upd0 k10).upd0 k118;have hN:∀{h':ad} (y:Nat),No y→y<h'.size:=fun _ h=>h.elim
 refine⟨_,vc co 0,_,vc co 1,_,vc co 2,_,vc co 3,_,vc co 4,_,vc co 5,_,vc co 0,_,vc co 1,_,vc co 2,_,vc co 3,_,vc co 4,_,vc co 5,_,vc cb 0,_,vc cb 1,_,vc cb 2,_,vc cb 3,_,vc cb 4,_,vc cb 5,?_⟩;refine ph (p:=0) i0 i0 i2 hN f0 f0 f2 (by omega) (by omega) (by omega) (by omega) (by omega) (fun _ hne=>absurd (H0 u0 u2) hne) fun _ h138 p1 s1 j1 os1 k138=>?_
 rw[H0 u0 u2]at os1;rw[KM u0 u2]at j1;refine p9 (t:=p1) fun h140 cp1 k140=>?_
 have v140:=k138.tr k140;refine⟨_,vc (v140.get0 co) 0,_,vc (v140.get0 co) 1,_,vc (v140.get0 co) 2,_,vc (v140.get0 co) 3,_,vc (v140.get0 co) 4,_,vc (v140.get0 co) 5,_,vc (v140.get0 ca) 0,_,vc (v140.get0 ca) 1,_,vc (v140.get0 ca) 2,_,vc (v140.get0 ca) 3,_,vc (v140.get0 ca) 4,_,vc (v140.get0 ca) 5,_,vc (v140.get0 co) 0,_,vc (v140.get0 co) 1,_,vc (v140.get0 co) 2,_,vc (v140.get0 co) 3,_,vc (v140.get0 co) 4,_,vc (v140.get0 co) 5,?_⟩
 refine ph (p:=0) (i0.upd0 v140) (i1.upd0 v140) (i0.upd0 v140) hN f0 f1 f0 (by omega) (by omega) (by omega) (by omega) (by omega) (fun _ hne=>absurd (HZ u0) hne) fun _ h160 p2 s2 j2 os2 k160=>?_
 rw[HZ u0]at os2;rw[KL u0 u1]at j2;refine p9 (t:=p2) fun h162 cp2 k162=>?_
 have v162:=(v140.tr k160).tr k162;refine⟨_,vc (v162.get0 co) 0,_,vc (v162.get0 co) 1,_,vc (v162.get0 co) 2,_,vc (v162.get0 co) 3,_,vc (v162.get0 co) 4,_,vc (v162.get0 co) 5,_,vc (v162.get0 ca) 0,_,vc (v162.get0 ca) 1,_,vc (v162.get0 ca) 2,_,vc (v162.get0 ca) 3,_,vc (v162.get0 ca) 4,_,vc (v162.get0 ca) 5,_,vc (v162.get0 ca) 0,_,vc (v162.get0 ca) 1,_,vc (v162.get0 ca) 2,_,vc (v162.get0 ca) 3,_,vc (v162.get0 ca) 4,_,vc (v162.get0 ca) 5,?_⟩
 refine ph (p:=0) (i0.upd0 v162) (i1.upd0 v162) (i1.upd0 v162) hN f0 f1 f1 (by omega) (by omega) (by omega) (by omega) (by omega) (fun _ hne=>absurd (HX u0 u1) hne) fun _ h182 p3 s3 j3 os3 k182=>?_
 rw[HX u0 u1]at os3;rw[KK u0 u1]at j3;refine p9 (t:=p3) fun h184 cp3 k184=>?_
 have v184:=(v162.tr k182).tr k184;refine Join.intro (fun t h2=>t=false∧Upd No h184 h2) (fun R hR=>?_) ?_
 ·refine ag.2 (ag.2 (ag.2 ?_))
  simp only[Bd];rw[SF os1.len os2.len os3.len];have v1:=k140.tr (((k160.tr k162).tr k182).tr k184);have v2:=k162.tr (k182.tr k184);refine ag.2 ⟨_,vc ((((k160.tr k162).tr k182).tr k184).get0 cp1) 0,_,vc ((((k160.tr k162).tr k182).tr k184).get0 cp1) 1,_,vc ((((k160.tr k162).tr k182).tr k184).get0 cp1) 2,_,vc ((((k160.tr k162).tr k182).tr k184).get0 cp1) 3,_,vc ((((k160.tr k162).tr k182).tr k184).get0 cp1) 4,_,vc ((((k160.tr k162).tr k182).tr k184).get0 cp1) 5,_,vc (v184.get0 cb) 0,_,vc (v184.get0 cb) 1,_,vc (v184.get0 cb) 2,_,vc (v184.get0 cb) 3,_,vc (v184.get0 cb) 4,_,vc (v184.get0 cb) 5,?_⟩
  refine xy (j1.upd0 v1) (i2.upd0 v184) u2 g2 (by omega) u2 g2 (by omega) fun h200 k200=>?_
  rw[pL (j1.upd0 v1) (i2.upd0 v184),decide_eq_true rfl];refine ag.2 ⟨_,vc (k200.get0 ((k182.tr k184).get0 cp2)) 0,_,vc (k200.get0 ((k182.tr k184).get0 cp2)) 1,_,vc (k200.get0 ((k182.tr k184).get0 cp2)) 2,_,vc (k200.get0 ((k182.tr k184).get0 cp2)) 3,_,vc (k200.get0 ((k182.tr k184).get0 cp2)) 4,_,vc (k200.get0 ((k182.tr k184).get0 cp2)) 5,_,vc (k200.get0 (v184.get0 ca)) 0,_,vc (k200.get0 (v184.get0 ca)) 1,_,vc (k200.get0 (v184.get0 ca)) 2,_,vc (k200.get0 (v184.get0 ca)) 3,_,vc (k200.get0 (v184.get0 ca)) 4,_,vc (k200.get0 (v184.get0 ca)) 5,?_⟩
  refine xy ((j2.upd0 v2).upd0 k200) (i1.upd0 (v184.tr k200)) u1 g1 (by omega) u1 g1 (by omega) fun h214 k214=>?_
  rw[pL (j2.upd0 v2) (i1.upd0 v184),decide_eq_true rfl];have v3:=k200.tr k214;refine ag.2 ⟨_,vc (v3.get0 cp3) 0,_,vc (v3.get0 cp3) 1,_,vc (v3.get0 cp3) 2,_,vc (v3.get0 cp3) 3,_,vc (v3.get0 cp3) 4,_,vc (v3.get0 cp3) 5,_,vc (v3.get0 (v184.get0 ca)) 0,_,vc (v3.get0 (v184.get0 ca)) 1,_,vc (v3.get0 (v184.get0 ca)) 2,_,vc (v3.get0 (v184.get0 ca)) 3,_,vc (v3.get0 (v184.get0 ca)) 4,_,vc (v3.get0 (v184.get0 ca)) 5,?_⟩
  refine xy ((j3.upd0 k184).upd0 v3) (i1.upd0 (v184.tr v3)) u1 g1 (by omega) u1 g1 (by omega) fun h228 k228=>?_
  rw[pL (j3.upd0 k184) (i1.upd0 v184),decide_eq_true rfl];exact hR _ _ ⟨rfl,v3.tr k228⟩
 rintro _ h230 ⟨rfl,k230⟩;have v230:=v184.tr k230;refine ag.2 ?_;refine⟨_,vc (v230.get0 co) 0,_,vc (v230.get0 co) 1,_,vc (v230.get0 co) 2,_,vc (v230.get0 co) 3,_,vc (v230.get0 co) 4,_,vc (v230.get0 co) 5,_,vc (v230.get0 ca) 0,_,vc (v230.get0 ca) 1,_,vc (v230.get0 ca) 2,_,vc (v230.get0 ca) 3,_,vc (v230.get0 ca) 4,_,vc (v230.get0 ca) 5,_,vc (v230.get0 cb) 0,_,vc (v230.get0 cb) 1,_,vc (v230.get0 cb) 2,_,vc (v230.get0 cb) 3,_,vc (v230.get0 cb) 4,_,vc (v230.get0 cb) 5,?_⟩
 refine ph (p:=1) (i0.upd0 v230) (i1.upd0 v230) (i2.upd0 v230) hN f0 f1 f2 (by omega) (by omega) (by omega) (by omega) (by omega) (fun h=>absurd h (by decide)) fun _ h250 p4 s4 j4 os4 k250=>?_
 refine p9 (t:=p4) fun h252 cp4 k252=>?_
 have v252:=(v230.tr k250).tr k252;refine⟨_,vc (v252.get0 co) 0,_,vc (v252.get0 co) 1,_,vc (v252.get0 co) 2,_,vc (v252.get0 co) 3,_,vc (v252.get0 co) 4,_,vc (v252.get0 co) 5,_,vc (v252.get0 cb) 0,_,vc (v252.get0 cb) 1,_,vc (v252.get0 cb) 2,_,vc (v252.get0 cb) 3,_,vc (v252.get0 cb) 4,_,vc (v252.get0 cb) 5,_,vc (v252.get0 ca) 0,_,vc (v252.get0 ca) 1,_,vc (v252.get0 ca) 2,_,vc (v252.get0 ca) 3,_,vc (v252.get0 ca) 4,_,vc (v252.get0 ca) 5,?_⟩
 refine ph (p:=2) (i0.upd0 v252) (i2.upd0 v252) (i1.upd0 v252) hN f0 f2 f1 (by omega) (by omega) (by omega) (by omega) (by omega) (fun h=>absurd h (by decide)) fun _ h272 p5 s5 j5 os5 k272=>?_
 rw[show l8 L0 L2 L1 2=l8 L0 L1 L2 1 from Fe (p:=1) u0 u1 u2]at j5
 rw[show lx L0 L2 L1 2=lx L0 L1 L2 1 from H1 (p:=1) u0 u1 u2]at os5
 refine p9 (t:=p5) fun h274 cp5 k274=>?_
 have v274:=(v252.tr k272).tr k274;refine⟨_,vc (v274.get0 co) 0,_,vc (v274.get0 co) 1,_,vc (v274.get0 co) 2,_,vc (v274.get0 co) 3,_,vc (v274.get0 co) 4,_,vc (v274.get0 co) 5,_,vc (v274.get0 ca) 0,_,vc (v274.get0 ca) 1,_,vc (v274.get0 ca) 2,_,vc (v274.get0 ca) 3,_,vc (v274.get0 ca) 4,_,vc (v274.get0 ca) 5,_,vc (v274.get0 cb) 0,_,vc (v274.get0 cb) 1,_,vc (v274.get0 cb) 2,_,vc (v274.get0 cb) 3,_,vc (v274.get0 cb) 4,_,vc (v274.get0 cb) 5,?_⟩
 refine ph (p:=3) (i0.upd0 v274) (i1.upd0 v274) (i2.upd0 v274) hN f0 f1 f2 (by omega) (by omega) (by omega) (by omega) (by omega) (fun h=>absurd h (by decide)) fun _ h294 p6 s6 j6 os6 k294=>?_
 refine p9 (t:=p6) fun h296 cp6 k296=>?_
 have v296:=(v274.tr k294).tr k296;refine⟨_,vc (v296.get0 co) 0,_,vc (v296.get0 co) 1,_,vc (v296.get0 co) 2,_,vc (v296.get0 co) 3,_,vc (v296.get0 co) 4,_,vc (v296.get0 co) 5,_,vc (v296.get0 cb) 0,_,vc (v296.get0 cb) 1,_,vc (v296.get0 cb) 2,_,vc (v296.get0 cb) 3,_,vc (v296.get0 cb) 4,_,vc (v296.get0 cb) 5,_,vc (v296.get0 ca) 0,_,vc (v296.get0 ca) 1,_,vc (v296.get0 ca) 2,_,vc (v296.get0 ca) 3,_,vc (v296.get0 ca) 4,_,vc (v296.get0 ca) 5,?_⟩
 refine ph (p:=3) (i0.upd0 v296) (i2.upd0 v296) (i1.upd0 v296) hN f0 f2 f1 (by omega) (by omega) (by omega) (by omega) (by omega) (fun h=>absurd h (by decide)) fun _ h316 p7 s7 j7 os7 k316=>?_
 rw[show l8 L0 L2 L1 3=l8 L0 L1 L2 3 from Fe (p:=3) u0 u1 u2]at j7
 rw[show lx L0 L2 L1 3=lx L0 L1 L2 3 from H1 (p:=3) u0 u1 u2]at os7
 refine p9 (t:=p7) fun h318 cp7 k318=>?_
 have v318:=(v296.tr k316).tr k318;have w4:=(((k272.tr k274).tr k294).tr k296).tr (k316.tr k318);have w5:=(k294.tr k296).tr (k316.tr k318);have w6:=k316.tr k318;have lC:=uq u0 u2;have fM1:Few 600 (l8 L0 L1 L2 1):=(wE (p:=1) f0 f1 f2 (l:=iC L0 L2) (fun c hc=>(xA f0 f2 c hc).1) f1).mono (by omega)
 have fM3:Few 600 (l8 L0 L1 L2 3):=(wE (p:=3) f0 f1 f2 (l:=iC L0 L2) (fun c hc=>(xA f0 f2 c hc).1) f1).mono (by omega)
 have lK:(lx L0 L1 L2 1).length≤1000:=aZ Lq (by omega);have l1:=fM1.len;have l3:=fM3.len;have hj:s4.len=(lx L0 L1 L2 1).length:=by rw[os4.len,cH]
 have hk':s5.len=(lx L0 L1 L2 1).length:=by rw[os5.len,cH]
 have j4:=(j4.upd0 k252).upd0 w4;have j5:=(j5.upd0 k274).upd0 w5;have j6:=(j6.upd0 k296).upd0 w6;have j7:=j7.upd0 k318;have c4:=w4.get0 cp4;have c5:=w5.get0 cp5;have c6:=w6.get0 cp6;have S4:Sl Gj 7 No h318 s4 _:=((os4.upd k252 fun _ _ h=>h).upd w4 fun _ _ h=>h).sl fun _ _ _ h=>h
 have S5:Sl Gj 7 No h318 s5 _:=((os5.upd k274 fun _ _ h=>h).upd w5 fun _ _ h=>h).sl fun _ _ _ h=>h
 refine Join.intro (fun t h2=>t=false∧Upd No h318 h2) (fun R hR=>?_) ?_
 ·refine⟨_,vc c4 0,_,vc c4 1,_,vc c4 2,_,vc c4 3,_,vc c4 4,_,vc c4 5,_,vc c5 0,_,vc c5 1,_,vc c5 2,_,vc c5 3,_,vc c5 4,_,vc c5 5,?_⟩
  refine xy j4 j5 fM1.up fM1.fits (by omega) fM1.up fM1.fits (by omega) fun h333 k333=>?_
  rw[pL j4 j5,decide_eq_true rfl];refine ag.2 ⟨_,vc (k333.get0 c6) 0,_,vc (k333.get0 c6) 1,_,vc (k333.get0 c6) 2,_,vc (k333.get0 c6) 3,_,vc (k333.get0 c6) 4,_,vc (k333.get0 c6) 5,_,vc (k333.get0 cp7) 0,_,vc (k333.get0 cp7) 1,_,vc (k333.get0 cp7) 2,_,vc (k333.get0 cp7) 3,_,vc (k333.get0 cp7) 4,_,vc (k333.get0 cp7) 5,?_⟩;refine xy (j6.upd0 k333) (j7.upd0 k333) fM3.up fM3.fits (by omega) fM3.up fM3.fits (by omega) fun h347 k347=>?_
  rw[pL j6 j7,decide_eq_true rfl];refine ag.2 ?_;simp only;rw[hj,hk',bne_self_eq_false];exact hR _ _ ⟨rfl,k333.tr k347⟩
 rintro _ h349 ⟨rfl,k349⟩;refine ag.2 ?_;have v349:=(v318.tr k349);have fin:Upd No h h349:=(k010.tr k118).tr v349;refine LoopP.ghost (fun(i:Nat) (t:Int) h'=>t=(i:Int)∧i≤(lx L0 L1 L2 1).length∧Upd No h349 h') (fun i=>(lx L0 L1 L2 1).length-i) 0 ⟨rfl,bC _,Upd.refl _ _⟩ ?_
 rintro I i t h352 ⟨rfl,hi,hu⟩ hI;refine aB (fun hlt=>?_) fun _=>⟨rfl,fin.tr hu⟩
 have hlt:i<(lx L0 L1 L2 1).length:=by simp only at hlt;omega
 have u352:=k349.tr hu;obtain⟨a,ha,_,hv⟩:=(S4.upd u352 fun _ h=>h.elim).at (i:=i) (x:=L6 L0 L1 L2 (lx L0 L1 L2 1)[i]) (by rw[mE,ai hlt];rfl)
 obtain⟨a',ha',_,hw⟩:=(S5.upd u352 fun _ h=>h.elim).at (i:=i) (x:=L6 L0 L2 L1 (lx L0 L1 L2 1)[i]) (by rw[mE,ai hlt];rfl)
 have hmem:(lx L0 L1 L2 1)[i]∈lx L0 L1 L2 1:=List.getElem_mem hlt;obtain⟨e1,e3⟩:=Un u0 u2 hmem;rw[←qY u0 u2]at e1 e3;generalize (lx L0 L1 L2 1)[i]=key at hv hw e1 e3;have b1':(0:Int)≤(i:Int)∧(i:Int)<((s4.len:Nat):Int):=⟨by omega,by omega⟩
 have b2':(0:Int)≤(i:Int)∧(i:Int)<((s5.len:Nat):Int):=⟨by omega,by omega⟩
 have d4:=u352.get0 c4;have d6:=u352.get0 c6;refine Join.intro (fun t h2=>t=false∧Upd No h352 h2) (fun R hR=>?_) ?_
 ·have a1:∀{h':ad},Upd No h352 h'→∀p q v,(Gj (L6 L0 L1 L2 key))[p+q]? =some v→aP h' (adr (adr (adr a (i*7)) p) q)=some v:=fun k p q v e=>k.cell0 (by rw[wV];exact hv _ _ e)
  have a2:∀{h':ad},Upd No h352 h'→∀p q v,(Gj (L6 L0 L2 L1 key))[p+q]? =some v→aP h' (adr (adr (adr a' (i*7)) p) q)=some v:=fun k p q v e=>k.cell0 (by rw[wV];exact hw _ _ e)
  have rf:=Upd.refl No h352;refine⟨b1',a,ha,key,hv 0 _ rfl,b2',a',ha',key,hw 0 _ rfl,?_⟩;rw[gj,decide_eq_true rfl];refine ag.2 ⟨b1',a,ha,(rx (look L0 key)).1,a1 rf 1 0 _ rfl,(rx (look L0 key)).2,a1 rf 1 1 _ rfl,b2',a',ha',(rx (look L0 key)).1,a2 rf 1 0 _ rfl,(rx (look L0 key)).2,a2 rf 1 1 _ rfl,?_⟩;rw[J9 (rx (look L0 key)) (rx (look L0 key)),decide_eq_true rfl];refine ag.2 ⟨b1',a,ha,(rx (look L1 key)).1,a1 rf 3 0 _ rfl,(rx (look L1 key)).2,a1 rf 3 1 _ rfl,b2',a',ha',(rx (look L1 key)).1,a2 rf 5 0 _ rfl,(rx (look L1 key)).2,a2 rf 5 1 _ rfl,?_⟩
  rw[J9 (rx (look L1 key)) (rx (look L1 key)),decide_eq_true rfl];refine ag.2 ⟨b1',a,ha,(rx (look L2 key)).1,a1 rf 5 0 _ rfl,(rx (look L2 key)).2,a1 rf 5 1 _ rfl,b2',a',ha',(rx (look L2 key)).1,a2 rf 3 0 _ rfl,(rx (look L2 key)).2,a2 rf 3 1 _ rfl,?_⟩;rw[J9 (rx (look L2 key)) (rx (look L2 key)),decide_eq_true rfl];refine ag.2 ⟨_,vc d4 0,_,vc d4 1,_,vc d4 2,_,vc d4 3,_,vc d4 4,_,vc d4 5,b1',a,ha,key,hv 0 _ rfl,b1',a,ha,(rx (look L1 key)).1,a1 rf 3 0 _ rfl,(rx (look L1 key)).2,a1 rf 3 1 _ rfl,?_⟩
  refine El (j4.upd0 u352) (fun _ h=>h.elim) fM1.up (by omega) key fun h388 k388=>?_
  refine⟨⟨a1 k388 3 0 _ rfl,a1 k388 3 1 _ rfl⟩,⟨a2 k388 3 0 _ rfl,a2 k388 3 1 _ rfl⟩,⟨a1 k388 5 0 _ rfl,a1 k388 5 1 _ rfl⟩,⟨a2 k388 5 0 _ rfl,a2 k388 5 1 _ rfl⟩,⟨a1 k388 3 0 _ rfl,a1 k388 3 1 _ rfl⟩,⟨a2 k388 1 0 _ rfl,a2 k388 1 1 _ rfl⟩,⟨a1 k388 1 0 _ rfl,a1 k388 1 1 _ rfl⟩,k388.cell0 (hw 0 _ rfl),k388.cell0 (hv 0 _ rfl),?_⟩;rw[e1,J9 (rx (look L1 key)) (rx (look L1 key)),decide_eq_true rfl];have d6':=k388.get0 d6
  refine ag.2 ⟨_,vc d6' 0,_,vc d6' 1,_,vc d6' 2,_,vc d6' 3,_,vc d6' 4,_,vc d6' 5,b1',a,ha,key,k388.cell0 (hv 0 _ rfl),b1',a,ha,(rx (look L0 key)).1,a1 k388 1 0 _ rfl,(rx (look L0 key)).2,a1 k388 1 1 _ rfl,?_⟩;refine El ((j6.upd0 u352).upd0 k388) (fun _ h=>h.elim) fM3.up (by omega) key fun h401 k401=>?_
  have q:=k388.tr k401;refine⟨⟨a1 q 1 0 _ rfl,a1 q 1 1 _ rfl⟩,⟨a1 q 3 0 _ rfl,a1 q 3 1 _ rfl⟩,⟨a2 q 3 0 _ rfl,a2 q 3 1 _ rfl⟩,⟨a1 q 5 0 _ rfl,a1 q 5 1 _ rfl⟩,⟨a2 q 5 0 _ rfl,a2 q 5 1 _ rfl⟩,⟨a1 q 3 0 _ rfl,a1 q 3 1 _ rfl⟩,⟨a2 q 1 0 _ rfl,a2 q 1 1 _ rfl⟩,⟨a1 q 1 0 _ rfl,a1 q 1 1 _ rfl⟩,q.cell0 (hw 0 _ rfl),q.cell0 (hv 0 _ rfl),?_⟩;rw[e3,J9 (rx (look L0 key)) (rx (look L0 key)),decide_eq_true rfl]
  exact hR _ _ ⟨rfl,q⟩
 ·rintro t h403 ⟨rfl,k403⟩
  refine ag.2 ?_;rw[ic hlt (by omega)];exact hI (i+1) _ _ ⟨rfl,hlt,hu.tr k403⟩ (by omega)
end Go.Proofs
