/- A part of the proof that the named laws of this program answer true, whatever the input. -/
import Derived.Test.YtncppacbfagpgaaGreatDoorPart10
import Derived.Test.YtncppacbfagpgaaGreatDoorPart0
import Derived.Test.YtncppacbfagpgaaGreatDoorPart4
import Derived.Test.YtncppacbfagpgaaGreatDoorPart2
import Derived.Test.YtncppacbfagpgaaGreatDoorPart6
open Array renaming size→cp
open BitVec renaming ofInt_natCast→gm,toNat_ofNat→rj,ofInt→ao
open Bool renaming true_and→nW
open ByteArray renaming size_extract→gC
open Int renaming toNat_natCast→aU,natCast_mul→qJ,natCast_pow→vi,fdiv→ed,eq_ofNat_of_zero_le→rA,tdiv→gj,tdiv_eq_ediv_of_nonneg→du,tmod_eq_emod_of_nonneg→pq
open List renaming getElem?_eq_getElem→af,getElem_mem→bh,take_length→ce,map_append→cO,length_map→cC,map_nil→iK,append_nil→aL
open List.Pairwise renaming nil→eI
open Nat renaming le_refl→aj,zero_le→aS,mod_eq_of_lt→dS,mul_comm→kM,pow_succ→pV,pow_add→ry,mod_lt→tY,mul_le_mul_right→cz,add_assoc→mr,mul_assoc→uq,add_mul→kV,succ_mul→mc,min_eq_left→bH,le_of_lt→zM,zero_add→aR,pow_le_pow_right→gg,add_zero→eg,lt_of_le_of_lt→hH,shiftRight_eq_div_pow→cK,testBit_zero→mM,testBit_succ→jz,eq_zero_or_pos→dY,zero_testBit→ij,eq_of_testBit_eq→jO,testBit_and→kw
namespace Go.Proofs
open Go Go.Lift
set_option maxHeartbeats 1000000 in
theorem PJ{W:Nat→Prop}{x:Hs}{h:ad}{d p:Int}{rb ro rt:Rt}{B O T:List Pr}{nb no nt:Nat}(jb:RefIs W h d x rb B)(jo:RefIs W h d x ro O)(jt:RefIs W h d x rt T)(hW:∀y,W y→y<h.size)(fB:Few nb B)(fO:Few no O)(fT:Few nt T)(lb:nb≤1000)(lo:no≤1000)(lt:nt≤1000)
  (hp0:0≤p)(hp1:p≤3){K:Rt×SliceV×Int→ad→Prop}
  (hk0:p=0→tQ B O T p≠[]→∀h' s',Sl xW 7 No h' s' ((tQ B O T p).map (Hd B O T))→Upd No h h'→K (ro,s',8) h')
  (hk:(p=0→tQ B O T p= [])→∀h' r' s',RefIs W h' d x r' (vR B O T p)→Sl xW 7 No h' s' ((tQ B O T p).map (Hd B O T))→Upd No h h'→K (r',s',0) h'):
  HC PG AX [OX rb,OX ro,OX rt,.int .i64 p] [.agg [.int .i64,.int .u64,.int .u64,.int .u64,.slice],.c .slice,.c (.int .i64)] K h:=by
 refine QN rb ro rt p ?_;unfold Kv bT pW aI ae cg bK bV df nv Bq KW BQ az av lO iU dy rC Ns bF cU Ir DK xN DR DJ abj;refine aP fun h1 b1 k1=>aP fun h2 b2 k2=>aP fun h3 b3 k3=>aP fun h4 b4 k4=>?_
 have z1:=aY b1;have z2:=aY b2;have z3:=aY b3;have z4:=aY b4;have s1:h.size≤h1.size:=k1.size;have s2:h1.size≤h2.size:=k2.size;have s3:h2.size≤h3.size:=k3.size;have s4:=k4.size;have k04:=((k1.tr k2).tr k3).tr k4;have c0:=k4.get0 (k3.get0 (k2.get0 b1));have c1:=k4.get0 (k3.get0 b2);have c2:=k4.get0 b3;refine Join.intro (fun t h'=>t=false∧h'=h4) (fun R hR=>?_) ?_
 ·refine ax (fun e=>absurd e (by omega)) fun _=>hR _ _ ⟨decide_eq_false (by omega),rfl⟩
 rintro _ h7 ⟨rfl,e7⟩;rw[e7];refine ag.2 ?_;refine Join.intro (fun t h'=>t=false∧Upd No h4 h') (fun R hR=>?_) ?_
 ·refine⟨_,vc c0 0,_,vc c0 1,_,vc c0 2,_,vc c0 3,rb.2.2.2.2,vc c0 4,_,vc c1 0,_,vc c1 1,_,vc c1 2,_,vc c1 3,ro.2.2.2.2,vc c1 4,?_⟩
  refine D6 (r:=rb) (q:=ro) fun h5 k5=>?_
  rw[Jo jb jo];have d0:=k5.get0 c0;have d2:=k5.get0 c2;refine ag.2 ⟨_,vc d0 0,_,vc d0 1,_,vc d0 2,_,vc d0 3,rb.2.2.2.2,vc d0 4,_,vc d2 0,_,vc d2 1,_,vc d2 2,_,vc d2 3,rt.2.2.2.2,vc d2 4,?_⟩;refine D6 (r:=rb) (q:=rt) fun h6 k6=>?_
  rw[Jo jb jt];exact hR _ _ ⟨rfl,k5.tr k6⟩
 rintro t h45 ⟨rfl,k45⟩;have d0:=k45.get0 c0;have d1:=k45.get0 c1;have d2:=k45.get0 c2;have d3:=k45.get0 b4;have k045:=k04.tr k45;have s45:=k45.size;have nB:=fB.len;have nO:=fO.len;have nT:=fT.len;refine ag.2 ⟨_,vc d0 0,_,vc d0 1,_,vc d0 2,_,vc d0 3,rb.2.2.2.2,vc d0 4,_,vc d1 0,_,vc d1 1,_,vc d1 2,_,vc d1 3,ro.2.2.2.2,vc d1 4,_,vc d2 0,_,vc d2 1,_,vc d2 2,_,vc d2 3,rt.2.2.2.2,vc d2 4,?_⟩;refine aP fun h72 b72 k72=>?_
 have s72:=k72.size;have k072:=k045.tr k72;have hrow:∀i,i<3→∃r l,[B,O,T][i]? =some l∧RefIs W h d x r l∧(l.length≤1000∧Few l.length l)∧∀h',Upd No h72 h'→aJ h' (adr (adr (ay h45) (i*5)) 0)=some (.int .i64 r.1)∧aJ h' (adr (adr (ay h45) (i*5)) 1)=some (.int .u64 r.2.1)∧aJ h' (adr (adr (ay h45) (i*5)) 2)=some (.int .u64 r.2.2.1)∧aJ h' (adr (adr (ay h45) (i*5)) 3)=some (.int .u64 r.2.2.2.1)∧aJ h' (adr (adr (ay h45) (i*5)) 4)=some (.slice r.2.2.2.2.a r.2.2.2.2.len r.2.2.2.2.cap):=fun i hi=>by
  have hi:i=0∨i=1∨i=2:=by omega
  rcases hi with rfl|rfl|rfl
  ·exact⟨rb,B,rfl,jb,⟨by omega,fB.up,aj _,fB.fit⟩,fun h' k'=>have q:=k'.get0 b72;⟨lJ q (0*5) 0,lJ q (0*5) 1,lJ q (0*5) 2,lJ q (0*5) 3,lJ q (0*5) 4⟩⟩
  ·exact⟨ro,O,rfl,jo,⟨by omega,fO.up,aj _,fO.fit⟩,fun h' k'=>have q:=k'.get0 b72;⟨lJ q (1*5) 0,lJ q (1*5) 1,lJ q (1*5) 2,lJ q (1*5) 3,lJ q (1*5) 4⟩⟩
  ·exact⟨rt,T,rfl,jt,⟨by omega,fT.up,aj _,fT.fit⟩,fun h' k'=>have q:=k'.get0 b72;⟨lJ q (2*5) 0,lJ q (2*5) 1,lJ q (2*5) 2,lJ q (2*5) 3,lJ q (2*5) 4⟩⟩
 refine LoopP.ghost (fun(i:Nat) (t:SliceV×Int) h'=>t.2=(i:Int)∧i≤3∧(∃acc,acc=([B,O,T].take i).foldl HG []∧Sl ey 2 No h' t.1 acc∧bM acc∧acc.length≤i*1000∧∀q∈acc,q.1.size≤30)∧Upd No h72 h') (fun i=>3-i) 0 ⟨rfl,aS _,⟨[],rfl,Sl.nil fU,eI,aS _,fun _ h=>(by cases h)⟩,Upd.refl _ _⟩ ?_
 rintro I i ⟨sa,ti⟩ D ⟨e,hi,⟨acc,Y,hs,hra,hla,hka⟩,hu⟩ hI;simp only at e hs;subst e;refine ax (fun hlt=>?_) fun hge=>?_
 ·have hlt:i<3:=by simp only at hlt;omega
  obtain⟨r,l,el,⟨s,er,hl,_⟩,⟨ln,fl⟩,hc⟩:=hrow i hlt;obtain⟨e0,e1,e2,e3,e4⟩:=hc D hu;subst er;refine⟨⟨by simp only;omega,by simp only;omega⟩,_,rfl,_,e0,_,e1,_,e2,_,e3,s,e4,?_⟩
  refine UJ (r:=(d,hx d x.k0,hx d x.k1,hx d x.mask,s)) fun h83 b83 k83=>⟨s,vc b83 4,?_⟩
  have k083:=(k072.tr hu).tr k83;have hll:=hl.len;refine LoopP.ghost (fun(q:Nat) (t:SliceV×Int) h'=>t.2=(q:Int)∧q≤l.length∧(∃ac2,ac2=HG acc (l.take q)∧Sl ey 2 No h' t.1 ac2∧bM ac2∧ac2.length≤acc.length+q∧∀q∈ac2,q.1.size≤30)∧Upd No h83 h') (fun q=>l.length-q) 0 ⟨rfl,aS _,⟨acc,rfl,hs.upd k83 fun _ h=>h.elim,hra,aj _,hka⟩,Upd.refl _ _⟩ ?_
  rintro I2 q ⟨sb,tq⟩ h87 ⟨e,hq,⟨ac2,eac2,hsb,hra2,hla2,hka2⟩,hu2⟩ hI2;simp only at e hsb;subst e;refine ax (fun z=>?_) fun hgq=>?_
  ·have z:q<l.length:=by simp only at z;omega
   obtain⟨a,ha,_,hv⟩:=(hl.upd (k083.tr hu2) fun _ h=>h.elim).at (af z)
   refine⟨⟨by simp only;omega,by simp only;omega⟩,a,ha,l[q].1,hv 0 _ rfl,l[q].2,hv 1 _ rfl,?_⟩
   have f30:=fl.fit _ (bh z);refine tl (p:=l[q]) fun h92 b92 k92=>⟨_,vc b92 0,_,vc b92 1,?_⟩
   refine Uy (p:=l[q]) (hsb.upd k92 fun _ h=>h.elim) hra2 (by omega) (by omega) fun s' h96 ho96 k96=>?_
   have hl1:=BD l[q] (l:=ac2);simp only;rw[mg z (by omega)];refine hI2 (q+1) _ _ ⟨rfl,z,⟨_,rfl,?_,?_,?_,?_⟩,(hu2.tr k92).tr k96⟩ (by omega)
   ·rw[Bz z,←eac2];exact ho96.sl fun _ _ _ h=>h
   ·rw[Bz z,←eac2];exact vM _ hra2
   ·rw[Bz z,←eac2];omega
   ·rw[Bz z,←eac2]
    intro q' hq';rcases AF hq' with rfl|hq'
    ·exact f30.1
    ·exact hka2 q' hq'
  ·have hql:q=l.length:=by simp only at hgq;omega
   subst hql;rw[ce]at eac2;simp only;rw[mg hlt (by omega)];refine hI (i+1) _ _ ⟨rfl,hlt,⟨ac2,?_,hsb,hra2,by omega,hka2⟩,(hu.tr k83).tr hu2⟩ (by omega)
   rw[List.take_add_one,el,List.foldl_append,←Y];exact eac2
 ·have hi3:i=3:=by simp only at hge;omega
  subst hi3;have Y:acc=An B O T:=Y;have hU:bM acc:=hra;have u75:=k72.tr hu;have g0:=u75.get0 d0;have g1:=u75.get0 d1;have g2:=u75.get0 d2;have g3:=u75.get0 d3;have k075:=k045.tr u75;have s75:=u75.size;have jo':=jo;obtain⟨so,er,_,_⟩:=jo';subst er;refine⟨_,vc g1 0,_,vc g1 1,_,vc g1 2,_,vc g1 3,so,vc g1 4,?_⟩;refine UJ (r:=(d,hx d x.k0,hx d x.k1,hx d x.mask,so)) fun h103 b103 k103=>?_
  have s103:=k103.size;have z103:=aY b103;refine vz (i:=4) (c':=(ou (d,hx d x.k0,hx d x.k1,hx d x.mask,⟨none,0,0⟩)).toArray) b103 (show 4<5 by decide) rfl fun A b104 hu104=>?_
  have N:Upd No D A:=k103.own hu104 (aj _);have s104:=N.size;have z104:=aY b104;have hlen:=hs.len;have hM:CU B O T p acc=vR B O T p:=by rw[Y];exact Sp fB.up fO.up fT.up
  have hC:JM B O T p acc=tQ B O T p:=by rw[Y];exact Tc fB.up fT.up
  clear Y hI;have hsU:Sl ey 2 (fun y=>D.size≤y) A sa acc:=(hs.less fun b hb=>.inr hb).upd N fun _ h=>h.elim
  refine LoopP.ghost (fun(g:Nat×(Nat→Prop)×(Nat→Prop)) (t:SliceV×Int) h2=>t.2=(g.1:Int)∧g.1≤acc.length∧OwnS xW 7 gU g.2.1 h2 t.1 ((JM B O T p (acc.take g.1)).map (Hd B O T))∧(∃sv,OwnS ey 2 bU g.2.2 h2 sv (CU B O T p (acc.take g.1))∧h2[D.size]? =some (.cells (ou (d,hx d x.k0,hx d x.k1,hx d x.mask,sv)).toArray cJ (0,0)))∧(∀y,g.2.1 y→A.size≤y∧y<h2.size∧¬g.2.2 y)∧(∀y,g.2.2 y→A.size≤y∧y<h2.size)∧Upd (· =D.size) A h2) (fun g=>acc.length-g.1) (0,No,No)
   ⟨rfl,aS _,OwnS.nil JS,⟨⟨none,0,0⟩,OwnS.nil fU,b104⟩,fun _ h=>h.elim,fun _ h=>h.elim,Upd.refl _ _⟩ ?_
  rintro I3 ⟨q,S1,S2⟩ ⟨sc,tq⟩ h107 ⟨e,hq,hoc,⟨sv,hov,bv⟩,V,hS2,hu3⟩ hI3;simp only at e hq hoc hov V hS2;subst e;have s107:=hu3.size;have hn:∀{b:Nat},b<D.size→¬b=D.size:=fun h e=>by omega
  have q0:=hu3.get (N.get0 g0) (hn (by omega));have q1:=hu3.get (N.get0 g1) (hn (by omega));have q2:=hu3.get (N.get0 g2) (hn (by omega));have q3:=hu3.get (N.get0 g3) (hn (by omega));have k0107:Upd No h h107:=(k075.tr N).own hu3 (by omega);refine ax (fun z=>?_) fun hgq=>?_
  ·have z:q<acc.length:=by simp only at z;omega
   obtain⟨a,ha,_,hv⟩:=(hsU.upd hu3 fun y j=>.inl (by have j:y=D.size:=j;show D.size≤y;omega)).at (af z)
   have hcl:=YF (B:=B) (O:=O) (T:=T) (p:=p) (l:=acc.take q);have hol:=X5 (B:=B) (O:=O) (T:=T) (p:=p) (l:=acc.take q);rw[List.length_take]at hcl hol;refine Join.intro (fun t h2=>∃G S2',OwnS xW 7 gU G h2 t ((JM B O T p (acc.take (q+1))).map (Hd B O T))∧(∃sv,OwnS ey 2 bU S2' h2 sv (CU B O T p (acc.take (q+1)))∧h2[D.size]? =some (.cells (ou (d,hx d x.k0,hx d x.k1,hx d x.mask,sv)).toArray cJ (0,0)))∧(∀y,G y→A.size≤y∧y<h2.size∧¬S2' y)∧(∀y,S2' y→A.size≤y∧y<h2.size)∧Upd (· =D.size) A h2) (fun R hR=>⟨⟨by simp only;omega,by simp only;omega⟩,a,ha,acc[q].1,hv 0 _ rfl,acc[q].2,hv 1 _ rfl,?_⟩) ?_
   ·rw[Ww z,V5 z,cO]at hR
    have hk30:=hka _ (bh z);generalize acc[q]=c at hR hk30⊢;obtain⟨k,v⟩:=c;simp only at hR hk30;refine tl (p:=(k,v)) fun h113 J X=>?_
    have s113:=X.size;have z113:=aY J;have r0:=X.get0 q0;have r1:=X.get0 q1;have r2:=X.get0 q2;have n:=k0107.tr X;have hB:Fit B:=fB.fits;have hO:Fit O:=fO.fits;have hT:Fit T:=fT.fits;refine Join.intro (fun t h2=>∃b,t=⟨b,0,none⟩∧h2[b]? =some (.cells (xW (Hd B O T k)).toArray gU (0,0))∧Upd No h113 h2) (fun R2 hR2=>?_) ?_
    ·refine⟨k,vc J 0,_,vc r0 0,_,vc r0 1,_,vc r0 2,_,vc r0 3,rb.2.2.2.2,vc r0 4,k,vc J 0,_,vc r1 0,_,vc r1 1,_,vc r1 2,_,vc r1 3,so,vc r1 4,k,vc J 0,_,vc r2 0,_,vc r2 1,_,vc r2 2,_,vc r2 3,rt.2.2.2.2,vc r2 4,k,vc J 0,?_,?_⟩
     ·refine py (jb.upd0 n) fB.up hB (by omega) k fun h183 Q=>?_
      have b183:=Q.get0 J;have L:=Q.get0 r1;have f:=Q.get0 r2;refine⟨vc b183 0,⟨vc f 0,vc f 1,vc f 2,vc f 3,vc f 4⟩,vc b183 0,⟨vc L 0,vc L 1,vc L 2,vc L 3,vc L 4⟩,vc b183 0,?_,?_⟩
      ·refine py (jo.upd0 (n.tr Q)) fO.up hO (by omega) k fun h185 k185=>?_
       have b185:=k185.get0 b183;have f:=k185.get0 f;have u185:=Q.tr k185;refine⟨vc b185 0,⟨vc f 0,vc f 1,vc f 2,vc f 3,vc f 4⟩,vc b185 0,?_,?_⟩
       ·refine py (jt.upd0 (n.tr u185)) fT.up hT (by omega) k fun h187 k187=>?_
        have u187:=u185.tr k187;refine⟨vc (k187.get0 b185) 0,aP fun h188 b188 k188=>⟨vc (k188.get0 (k187.get0 b185)) 0,?_⟩⟩
        exact cF (c:=xW Zt) (vs:=xW (Hd B O T k)) b188 rfl fun h189 U E=>hR2 _ _ ⟨_,rfl,U,(u187.tr k188).own E u187.size⟩
       ·refine aP fun h190 b190 k190=>?_
        have b190':=k190.get0 b185;have f:=k190.get0 f;have u190:=u185.tr k190;refine⟨vc b190' 0,⟨vc f 0,vc f 1,vc f 2,vc f 3,vc f 4⟩,vc b190' 0,?_⟩;refine py (jt.upd0 (n.tr u190)) fT.up hT (by omega) k fun h192 k192=>?_
        refine⟨vc (k192.get0 b190') 0,?_⟩;exact cF (c:=xW Zt) (vs:=xW (Hd B O T k)) (k192.get0 b190) rfl fun h189 U E=>hR2 _ _ ⟨_,rfl,U,(u190.tr k192).own E u185.size⟩
      ·refine aP fun h194 b194 k194=>?_
       have b194':=k194.get0 b183;have L:=k194.get0 L;have f:=k194.get0 f;have u194:=Q.tr k194;refine⟨vc b194' 0,⟨vc f 0,vc f 1,vc f 2,vc f 3,vc f 4⟩,vc b194' 0,⟨vc L 0,vc L 1,vc L 2,vc L 3,vc L 4⟩,vc b194' 0,?_⟩;refine py (jo.upd0 (n.tr u194)) fO.up hO (by omega) k fun h196 k196=>?_
       have b196':=k196.get0 b194';have b196:=k196.get0 b194;have f:=k196.get0 f;have u196:=u194.tr k196;refine⟨vc b196' 0,⟨vc f 0,vc f 1,vc f 2,vc f 3,vc f 4⟩,vc b196' 0,?_⟩;refine py (jt.upd0 (n.tr u196)) fT.up hT (by omega) k fun h198 k198=>?_
       refine⟨vc (k198.get0 b196') 0,?_⟩;exact cF (c:=xW Zt) (vs:=xW (Hd B O T k)) (k198.get0 b196) rfl fun h189 U E=>hR2 _ _ ⟨_,rfl,U,(u196.tr k198).own E Q.size⟩
     ·refine aP fun h200 b200 k200=>?_
      have P:=k200.get0 J;have p0:=k200.get0 r0;have L:=k200.get0 r1;have f:=k200.get0 r2;refine⟨vc P 0,⟨vc f 0,vc f 1,vc f 2,vc f 3,vc f 4⟩,vc P 0,⟨vc L 0,vc L 1,vc L 2,vc L 3,vc L 4⟩,vc P 0,⟨vc p0 0,vc p0 1,vc p0 2,vc p0 3,vc p0 4⟩,vc P 0,?_⟩;refine py (jb.upd0 (n.tr k200)) fB.up hB (by omega) k fun h202 k202=>?_
      have b202':=k202.get0 P;have b202:=k202.get0 b200;have L:=k202.get0 L;have f:=k202.get0 f;have u202:=k200.tr k202;refine⟨vc b202' 0,⟨vc f 0,vc f 1,vc f 2,vc f 3,vc f 4⟩,vc b202' 0,⟨vc L 0,vc L 1,vc L 2,vc L 3,vc L 4⟩,vc b202' 0,?_⟩;refine py (jo.upd0 (n.tr u202)) fO.up hO (by omega) k fun h204 k204=>?_
      have b204':=k204.get0 b202';have b204:=k204.get0 b202;have f:=k204.get0 f;have u204:=u202.tr k204;refine⟨vc b204' 0,⟨vc f 0,vc f 1,vc f 2,vc f 3,vc f 4⟩,vc b204' 0,?_⟩;refine py (jt.upd0 (n.tr u204)) fT.up hT (by omega) k fun h206 k206=>?_
      refine⟨vc (k206.get0 b204') 0,?_⟩;exact cF (c:=xW Zt) (vs:=xW (Hd B O T k)) (k206.get0 b204) rfl fun h189 U E=>hR2 _ _ ⟨_,rfl,U,(u204.tr k206).own E (aj _)⟩
    rintro _ h142 ⟨bx,rfl,S,k142⟩;refine⟨_,lJ S 1 0,_,lJ S 1 1,_,lJ S 3 0,_,lJ S 3 1,_,lJ S 5 0,_,lJ S 5 1,?_⟩;refine XT (b:=As (look B k)) (o:=As (look O k)) (t:=As (look T k)) fun h150 k150=>?_
    rw[Uk];have htk:vn (look B k) (look O k) (look T k) p=tk B O T p k:=rfl;rw[htk];generalize tk B O T p k=tkc at hR;refine aaZ (s:=As tkc.1) fun h152 b152 k152=>?_
    have z152:=aY b152;have u152:=(k142.tr k150).tr k152;have u107:=X.tr u152;have s152:=u107.size;have s150:h113.size≤h150.size:=(k142.tr k150).size;have b113':=u152.get0 J;have F:=(k150.tr k152).get0 S;have bv152:=u107.get0 bv;refine Join.intro (fun t h2=>∃G,OwnS xW 7 gU G h2 t ((JM B O T p (acc.take q)).map (Hd B O T)++(if tkc.2=true then[]else[k]).map (Hd B O T))∧(∀y,G y→A.size≤y∧y<h2.size∧¬S2 y)∧(∀y,G y→S1 y∨h152.size≤y)∧Upd G h152 h2) (fun R3 hR3=>?_) ?_
    ·refine CondP.intro (fun e=>?_) fun e=>?_
     ·have e2:tkc.2=false:=by simpa using e
      rw[e2,if_neg Bool.false_ne_true]at hR3;refine⟨_,vc F 0,_,vc F 1,_,vc F 2,_,vc F 3,_,vc F 4,_,vc F 5,_,vc F 6,?_⟩;refine M6 (c:=Hd B O T k) (M:=fun y=>S1 y∨h152.size≤y) ((hoc.upd u107 fun _ _ h=>h).more fun _ h=>.inl h) (fun _ h=>.inr h) (by rw[cC];omega) fun s163 Z ho164 u=>?_
      have s164:=u.size;refine hR3 _ _ ⟨_,ho164.within,fun y j=>⟨?_,j.2,fun h2=>?_⟩,fun y j=>j.1,?_⟩
      ·rcases j.1 with h|h
       ·exact(V y h).1
       ·omega
      ·rcases j.1 with h|h
       ·exact(V y h).2.2 h2
       ·have:=(hS2 y h2).2;omega
      ·exact u.mono fun y j=>j.elim (fun h=>.inl ⟨.inl h,by have:=(V y h).2.1;omega⟩) .inr
     ·have e2:tkc.2=true:=by simpa using e
      rw[e2,if_pos rfl,iK,aL]at hR3;exact hR3 _ _ ⟨S1,hoc.upd u107 fun _ _ h=>h,fun y j=>⟨(V y j).1,by have:=(V y j).2.1;omega,(V y j).2.2⟩,fun y j=>.inl j,Upd.refl _ _⟩
    rintro sc' Z ⟨G,hoc',m,hS1n,u⟩;have s164:=u.size;have nS:∀{b:Nat},b<A.size∨(h107.size≤b∧b<h152.size)→¬G b:=fun{b} hb hb'=>by
     have h1:=(m b hb').1;rcases hS1n b hb' with h|h
     ·have:=(V b h).2.1;omega
     ·omega
    have b152':=u.get b152 (nS (by omega));have b113'':=u.get b113' (nS (by omega));have bv164:=u.get bv152 (nS (by omega));have hov164:=(hov.upd u107 fun _ _ h=>h).upd u fun y j h1=>(m y h1).2.2 j
    have hu104:Upd (· =D.size) A Z:=(hu3.tr u107.wide).trans u fun y j=>.inr (m y j).1
    refine⟨(As tkc.1).2,vc b152' 1,?_⟩;cases hc1:tkc.1 with
    |none=>
     rw[hc1]at hR;refine ag.2 (hR _ _ ⟨G,S2,hoc',⟨sv,?_,bv164⟩,m,fun y j=>⟨(hS2 y j).1,by have:=(hS2 y j).2;omega⟩,hu104⟩)
     show OwnS ey 2 bU S2 Z sv (_++ [])
     rw[aL];exact hov164
    |some w=>
     rw[hc1]at hR;rw[hc1]at b152';refine aw.2 ⟨sv,vc bv164 4,k,vc b113'' 0,w,vc b152' 0,bG ?_⟩;refine ws (p:=(k,w)) (M:=fun y=>S2 y∨Z.size≤y) (hov164.more fun _ h=>.inl h) (fun _ h=>.inr h) (by omega) fun s171 h172 ho172 hu172=>?_
     have s172:=hu172.size;have nS2:¬(S2 D.size∨Z.size≤D.size):=fun h=>by
      rcases h with h|h
      ·have:=(hS2 _ h).1;omega
      ·omega
     refine vz (i:=4) (c':=(ou (d,hx d x.k0,hx d x.k1,hx d x.mask,s171)).toArray) (hu172.get bv164 nS2) (show 4<5 by decide) rfl fun h173 b173 hu173=>?_
     have s173:=hu173.size;refine hR _ _ ⟨G,fun y=>(S2 y∨Z.size≤y)∧y<h172.size,(hoc'.upd hu172 fun y j h2=>?_).upd hu173 fun y j e=>?_,⟨s171,ho172.within.upd hu173 fun y j e=>?_,b173⟩,fun y j=>⟨(m y j).1,by have:=(m y j).2.1;omega,fun h2=>?_⟩,fun y j=>⟨?_,by omega⟩,?_⟩
     ·rcases h2 with h2|h2
      ·exact(m y j).2.2 h2
      ·have:=(m y j).2.1;omega
     ·have e:y=D.size:=e
      have:=(m y j).1;omega
     ·have e:y=D.size:=e
      exact nS2 (e▸j.1)
     ·rcases h2.1 with h2|h2
      ·exact(m y j).2.2 h2
      ·have:=(m y j).2.1;omega
     ·rcases j.1 with h|h
      ·exact(hS2 y h).1
      ·omega
     ·refine(hu104.trans hu172 fun y j=>.inr ?_).tr hu173
      rcases j with h|h
      ·exact(hS2 y h).1
      ·omega
   ·rintro sc' h2 ⟨G,S2',hoc',hex,m,hS2',hu'⟩
    simp only;rw[mg z (by omega)];exact hI3 (q+1,G,S2') _ _ ⟨rfl,z,hoc',hex,m,hS2',hu'⟩ (by show acc.length-(q+1)<acc.length-q;omega)
  ·have hql:q=acc.length:=by simp only at hgq;omega
   subst hql;rw[ce]at hoc hov;rw[hC]at hoc;rw[hM]at hov;have hscl:=hoc.len;rw[cC]at hscl;have hb:(tQ B O T p= [])↔sc.len=0:=by rw[hscl];exact List.length_eq_zero_iff.symm
   refine Join.intro (fun t h'=>t=(decide (p=0)&&decide (sc.len>0))∧h'=h107) (fun R hR=>?_) ?_
   ·refine CondP.intro (fun e=>hR _ _ ⟨?_,rfl⟩) fun e=>hR _ _ ⟨?_,rfl⟩
    ·have e:p=0:=by simpa using e
     rw[decide_eq_true e,nW,decide_eq_decide];simp only;omega
    ·have e:p≠0:=by simpa using e
     rw[decide_eq_false e,Bool.false_and]
   rintro t h' ⟨rfl,e'⟩;rw[e'];have hslc:Sl xW 7 No h107 sc ((tQ B O T p).map (Hd B O T)):=hoc.sl fun _ _ _ h=>h
   refine CondP.intro (fun e=>?_) fun e=>?_
   ·have e:p=0∧sc.len>0:=by simpa using e
    refine⟨_,vc q1 0,_,vc q1 1,_,vc q1 2,_,vc q1 3,so,vc q1 4,?_⟩;refine cF (c:=ou IT) (vs:=ou (d,hx d x.k0,hx d x.k1,hx d x.mask,so)) q3 rfl fun h198 C H=>?_
    refine⟨_,vc C 0,_,vc C 1,_,vc C 2,_,vc C 3,so,vc C 4,?_⟩;refine hk0 e.1 (fun hc=>by have:=hb.1 hc;omega) h198 sc ((hoc.upd H fun y j e=>?_).sl fun _ _ _ h=>h) (k0107.own H (by omega))
    have e:y=h3.size:=e;have:=(V y j).1;omega
   ·have e:p=0→sc.len=0:=fun hp=>by
     rw[decide_eq_true hp,nW]at e;have:=of_decide_eq_false e;omega
    refine⟨_,vc bv 0,_,vc bv 1,_,vc bv 2,_,vc bv 3,sv,vc bv 4,?_⟩;refine cF (c:=ou IT) (vs:=ou (d,hx d x.k0,hx d x.k1,hx d x.mask,sv)) q3 rfl fun h198 C H=>?_
    refine⟨_,vc C 0,_,vc C 1,_,vc C 2,_,vc C 3,sv,vc C 4,?_⟩;refine hk (fun hp=>hb.2 (e hp)) h198 (d,hx d x.k0,hx d x.k1,hx d x.mask,sv) sc ⟨sv,rfl,(hov.upd H fun y j e=>?_).sl fun y j _ hw=>?_,hov.cap⟩ ((hoc.upd H fun y j e=>?_).sl fun _ _ _ h=>h) (k0107.own H (by omega))
    ·have e:y=h3.size:=e
     have:=(hS2 y j).1;omega
    ·have h1:=(hS2 y j).1
     have h2:=hW y hw;omega
    ·have e:y=h3.size:=e
     have:=(V y j).1;omega
end Go.Proofs
namespace Go.Proofs
open Go Go.Lift
theorem Ua(n:Nat):IntKind.wrap .u64 (n:Int)=((n%18446744073709551616:Nat):Int):=by rw[IntKind.wrap_u64];omega
theorem DP{n:Nat}(h:n<18446744073709551616):IntKind.wrap .u64 (n:Int)=(n:Int):=by rw[Ua,dS h]
theorem Jf{a b:Nat}(d:a<18446744073709551616)(c:b<18446744073709551616):Jh a b=((a|||b:Nat):Int):=by
 unfold Jh;rw[show IntKind.bits .u64=64 from rfl,gm,gm,BitVec.toNat_or,rj,rj,dS (show a<2^64 from d),dS (show b<2^64 from c)]
 exact DP (Nat.or_lt_two_pow (n:=64) d c)
theorem Jg{n a b:Nat}(c:b<2^n)(d:a*2^n+b<18446744073709551616):Jh ((a*2^n:Nat):Int) (b:Int)=((a*2^n+b:Nat):Int):=by
 rw[Jf (by omega) (by omega),kM a,Nat.two_pow_add_eq_or_of_lt c]
def RU(x:Nat):Nat:=x*2%18446744073709551616+x/9223372036854775808
def IV:Nat→Nat→Nat
 |0,x=>x
 |n+1,x=>RU (IV n x)
theorem ZV{n:Nat}(q:n≤64){x a b:Nat}(i:b<2^(64-n))(p:a<2^n)(e:x=a*2^(64-n)+b):IV n x=b*2^n+a:=by
 induction n generalizing a b with
 |zero=>
  have:a=0:=by simpa using p
  subst this;rw[e];simp[IV]
 |succ n ih=>
  have f:(2:Nat)^(64-n)=2*2^(64-(n+1)):=by rw[show 64-n=(64-(n+1))+1 by omega,pV,kM]
  have m:(2:Nat)^(n+1)=2*2^n:=by rw[pV,kM]
  have g:(2:Nat)^(64-(n+1))*2^n=9223372036854775808:=by rw[←ry,show 64-(n+1)+n=63 by omega]
  have s:a%2<2:=tY _ (by omega);have h2:=Nat.div_add_mod a 2;have d:a/2<2^n:=by omega
  have o:a%2*2^(64-(n+1))+b<2^(64-n):=by
   rw[f];have:a%2*2^(64-(n+1))≤1*2^(64-(n+1)):=cz _ (by omega);omega
  have k:x=a/2*2^(64-n)+(a%2*2^(64-(n+1))+b):=by
   rw[e,f,←mr,←uq,←kV,kM (a/2) 2,h2]
  have:=ih (by omega) o d k;show RU (IV n x)=_
  rw[this,kV,uq,g,m];unfold RU;have c:b*2^n+2^n≤2^(64-(n+1))*2^n:=by
   rw[←mc];exact cz _ i
  rw[g]at c;have j:b*(2*2^n)=2*(b*2^n):=by rw[Nat.mul_left_comm]
  rw[j];generalize b*2^n=B at c;generalize 2^n=N at d c;have:a%2=0∨a%2=1:=by omega
  rcases this with h|h<;>rw[h]at h2⊢<;>omega
theorem ZU(n:Nat){x:Nat}(hx:x<18446744073709551616):IV n x<18446744073709551616:=by
 induction n with
 |zero=>exact hx
 |succ n ih=>show RU _<_;unfold RU;omega
theorem ac8{n:Nat}(h:n<64):QI (IntKind.wrap .u64 (n:Int)) 63=(n:Int):=by
 rw[DP (by omega)];unfold QI;have:∀n:Fin 64,(ao (IntKind.bits .u64) ((n.val:Nat):Int)&&&ao (IntKind.bits .u64) 63).toNat=n.val:=by decide
 rw[this ⟨n,h⟩];exact DP (by omega)
theorem ZT{n x:Nat}(c:n<64)(hx:x<18446744073709551616):IU (x:Int) (n:Int)=((IV n x:Nat):Int):=by
 unfold IU;rw[ac8 c];rw[show((64:Int)-(n:Int))=((64-n:Nat):Int) by omega,DP (by omega)]
 simp only[show IntKind.bits .u64=64 from rfl,aU,bH (zM c),bH (Nat.sub_le 64 n)]
 have a:(2:Nat)^(64-n)*2^n=18446744073709551616:=by rw[←ry,show 64-n+n=64 by omega]
 have hd:=Nat.div_add_mod x (2^(64-n));have hm:x%2^(64-n)<2^(64-n):=tY _ (Nat.two_pow_pos _);have d:x/2^(64-n)<2^n:=by
  rw[Nat.div_lt_iff_lt_mul (Nat.two_pow_pos _),kM,a];exact hx
 rw[kM]at hd;rw[ZV (zM c) hm d hd.symm];rw[show((x:Int)*2^n)=((x*2^n:Nat):Int) by rw[qJ,vi];rfl,Ua]
 rw[show ed (x:Int) (2^(64-n))=((x/2^(64-n):Nat):Int) by rw[show((2:Int)^(64-n))=((2^(64-n):Nat):Int) by rw[vi];rfl];exact Int.ofNat_fdiv x _▸rfl]
 have b:x%2^(64-n)*2^n+2^n≤2^(64-n)*2^n:=by
  rw[←mc];exact cz _ hm
 rw[a]at b;have e:x*2^n%18446744073709551616=x%2^(64-n)*2^n:=by
  rw[←a,Nat.mul_mod_mul_right]
 rw[e];exact Jg d (by omega)
end Go.Proofs
namespace Go.Proofs
open Go Go.Lift
def KV(s:ByteArray)(i:Nat):Nat:=if h:i<s.size then(s[i]'h).toNat else 0
def hv(s:ByteArray):Nat→Nat→Nat
 |_,0=>0
 |p,c+1=>hv s (p+1) c*256+KV s p
theorem YQ(s:ByteArray)(i:Nat):KV s i<256:=by
 unfold KV;split
 ·exact UInt8.toNat_lt _
 ·omega
theorem Ve(s:ByteArray)(i:Nat):QF s i=(KV s i:Int):=by
 unfold QF KV;by_cases h:i<s.size
 ·rw[dif_pos h,getElem?_pos s i h]
 ·rw[dif_neg h,getElem?_neg s i h];rfl
theorem JW{s:ByteArray}{i:Nat}(h:s.size≤i):KV s i=0:=dif_neg (by omega)
theorem ML(s:ByteArray):∀(c p:Nat),hv s p c<256^c
 |0,_=>by show(0:Nat)<1;omega
 |c+1,p=>by
  have:=ML s c (p+1);have:=YQ s p;rw[pV];show hv s (p+1) c*256+KV s p<_
  omega
theorem UV{s:ByteArray}:∀{c p:Nat},s.size≤p→hv s p c=0
 |0,_,_=>rfl
 |c+1,p,h=>by
  show hv s (p+1) c*256+KV s p=0
  rw[UV (by omega),JW h]
theorem N3{s:ByteArray}{d:Nat}:∀{c p:Nat},s.size≤p+c→hv s p (c+d)=hv s p c
 |0,p,h=>by rw[UV (by omega)];rfl
 |c+1,p,h=>by
  rw[show c+1+d=(c+d)+1 by omega]
  show hv s (p+1) (c+d)*256+_=hv s (p+1) c*256+_
  rw[N3 (by omega)]
theorem aaA{s:ByteArray}{a b i:Nat}(c:b≤s.size):KV (s.extract a b) i=if a+i<b then KV s (a+i)else 0:=by
 unfold KV;have e:(s.extract a b).size=b-a:=by rw[gC];omega
 by_cases h:a+i<b
 ·rw[if_pos h,dif_pos (by omega),dif_pos (by omega),ByteArray.getElem_extract]
 ·rw[if_neg h,dif_neg (by omega)]
theorem SR{s:ByteArray}{a:Nat}:∀{c p b:Nat},b≤s.size→(b=s.size∨a+p+c≤b)→hv (s.extract a b) p c=hv s (a+p) c
 |0,_,_,_,_=>rfl
 |c+1,p,b,hb,h=>by
  show hv _ (p+1) c*256+_=hv s (a+p+1) c*256+_
  rw[SR hb (h.imp id fun h=>by omega),aaA hb,mr]
  congr 1
  split
  ·rfl
  ·exact(JW (by omega)).symm
theorem aaJ{s:ByteArray}:∀{k c:Nat},k+c≤8→wj s k ((hv s k c*2^(8*k):Nat):Int)=((hv s 0 (k+c):Nat):Int)
 |0,c,_=>by
  show((hv s 0 c*2^(8*0):Nat):Int)=_
  rw[aR];simp
 |k+1,c,h=>by
  have i:=YQ s k;have hc:=ML s c (k+1);have f:(2:Nat)^(8*(k+1))=256*2^(8*k):=by rw[show 8*(k+1)=8+8*k by omega,ry]
  have b:256^c*2^(8*(k+1))≤18446744073709551616:=by
   rw[show(256:Nat)=2^8 from rfl,←Nat.pow_mul,←ry]
   exact gg (by omega) (show 8*c+8*(k+1)≤64 by omega)
  have m:hv s (k+1) c*2^(8*(k+1))+2^(8*(k+1))≤18446744073709551616:=by
   rw[←mc];exact Nat.le_trans (cz _ hc) b
  have j:KV s k*2^(8*k)<2^(8*(k+1)):=by rw[f];exact Nat.mul_lt_mul_of_pos_right i (Nat.two_pow_pos _)
  have a:hv s (k+1) c*2^(8*(k+1))+KV s k*2^(8*k)=hv s k (c+1)*2^(8*k):=by
   rw[f,←uq,←kV];rfl
  have d:(if k=0 then IntKind.wrap .u64 (QF s 0)else aaO (QF s k) ((8*k:Nat):Int))=((KV s k*2^(8*k):Nat):Int):=by
   split
   ·rename_i e
    subst e;rw[Ve,IntKind.wrap_u64];simp;omega
   ·unfold aaO
    rw[Ve,aU,show IntKind.bits .u64=64 from rfl,bH (by omega)]
    have g:IntKind.wrap .u64 ((KV s k:Nat):Int)=((KV s k:Nat):Int):=by rw[IntKind.wrap_u64];omega
    rw[g,show((KV s k:Int)*2^(8*k))=((KV s k*2^(8*k):Nat):Int) by rw[qJ,vi];rfl,IntKind.wrap_u64]
    omega
  show wj s k (Jh _ (if k=0 then _ else _))=_
  rw[d,Jg j (by omega),a,aaJ (by omega),show k+(c+1)=k+1+c by omega]
theorem O2{s:ByteArray}(h:s.size≤8):B6 s=((hv s 0 8:Nat):Int):=by
 have:=aaJ (s:=s) (k:=s.size) (c:=0) (by omega);rw[show hv s s.size 0=0 from rfl,Nat.zero_mul]at this
 unfold B6;rw[show((0:Nat):Int)=0 from rfl]at this
 rw[this,eg];have e:=N3 (s:=s) (d:=8-s.size) (c:=s.size) (p:=0) (by omega);rw[show s.size+(8-s.size)=8 by omega]at e
 rw[e]
def su:Nat→ByteArray→Nat→Q4→Nat×Q4
 |0,_,a,q=>(a,q)
 |n+1,s,a,q=>if a+8≤s.size then su n s (a+8) (vm (hv s a 8:Nat) q)else(a,q)
theorem Pf:∀{n:Nat} {s:ByteArray} {a:Nat} {q:Q4},a≤s.size→GM n (s.extract a s.size) q=(s.extract (su n s a q).1 s.size,(su n s a q).2)
 |0,_,_,_,_=>rfl
 |n+1,s,a,q,h=>by
  have e:(s.extract a s.size).size=s.size-a:=by rw[gC];omega
  show(if 8≤(s.extract a s.size).size then _ else _)=_
  rw[e];by_cases hc:a+8≤s.size
  ·rw[if_pos (show 8≤s.size-a by omega),ByteArray.extract_extract,ByteArray.extract_extract]
   rw[show su (n+1) s a q=su n s (a+8) (vm (hv s a 8:Nat) q)from if_pos hc]
   rw[show min (a+(s.size-a)) s.size=s.size by omega,show min (a+8) s.size=a+8 by omega,eg]
   rw[O2 (by rw[gC];omega),SR (by omega) (.inr (by omega)),eg];exact Pf hc
  ·rw[if_neg (show ¬8≤s.size-a by omega),show su (n+1) s a q=(a,q)from if_neg hc]
theorem MX:∀{n:Nat} {s:ByteArray} {a:Nat} {q:Q4},s.size≤a+n→a≤s.size→s.size<(su n s a q).1+8∧(su n s a q).1≤s.size
 |0,_,_,_,h,h'=>⟨by show _<_+8;simp only[su];omega,h'⟩
 |n+1,s,a,q,h,h'=>by
  by_cases hc:a+8≤s.size
  ·rw[show su (n+1) s a q=su n s (a+8) (vm (hv s a 8:Nat) q)from if_pos hc]
   exact MX (by omega) hc
  ·rw[show su (n+1) s a q=(a,q)from if_neg hc]
   exact⟨by simp only;omega,h'⟩
theorem ZJ{k0 k1:Int}{s:ByteArray}:RF k0 k1 s=(let g:=su s.size s 0 (dT k0 8317987319222330741,dT k1 7237128888997146477,dT k0 7816392313619706465,dT k1 8387220255154660723)
  aar (vm ((hv s g.1 8+s.size%256*72057594037927936:Nat):Int) g.2)):=by
 unfold RF acr;generalize (dT k0 8317987319222330741,dT k1 7237128888997146477,dT k0 7816392313619706465,dT k1 8387220255154660723)=q;have e:=Pf (n:=s.size) (s:=s) (a:=0) (q:=q) (aS _);rw[ByteArray.extract_zero_size]at e;rw[e];have⟨j,h2⟩:=MX (n:=s.size) (s:=s) (a:=0) (q:=q) (by omega) (aS _);generalize su s.size s 0 q=g at j h2;obtain⟨a,r⟩:=g;simp only at j h2⊢
 rw[O2 (by rw[gC];omega),SR (aj _) (.inl rfl),eg];congr 2
 have hc:hv s a 8<2^56:=by
  have e:=N3 (s:=s) (d:=1) (c:=7) (p:=a) (by omega);rw[show(7+1:Nat)=8 from rfl]at e
  rw[e];exact ML s 7 a
 have i:aaO (s.size:Int) 56=((s.size%256*2^56:Nat):Int):=by
  unfold aaO;rw[show min ((56:Int)).toNat (IntKind.bits .u64)=56 from rfl,Ua]
  rw[show(((s.size%18446744073709551616:Nat):Int)*2^56)=((s.size%18446744073709551616*72057594037927936:Nat):Int) by rw[qJ];rfl,Ua]
  omega
 have hm:s.size%256*2^56+hv s a 8<18446744073709551616:=by omega
 have f:∀{a b:Nat},a<18446744073709551616→b<18446744073709551616→Jh a b=Jh b a:=fun m k=>by rw[Jf m k,Jf k m,Nat.or_comm]
 rw[i,f (Nat.lt_trans hc (by decide)) (hH (Nat.le_add_right _ _) hm),Jg hc hm,Nat.add_comm]
end Go.Proofs
namespace Go.Proofs
open Go Go.Lift
abbrev Rg(x:Int):Prop:=0≤x∧x<18446744073709551616
theorem ZS(x n:Int):Rg (IU x n):=FB _
theorem xJ(x n:Int):Rg (dT x n):=FB _
theorem Y3(x n:Int):Rg (Y4 x n):=FB _
theorem Bs{x:Int}(hx:Rg x){n:Nat}(g:n<64){h:ad}{K:Int→ad→Prop}(c:K (IU x n) h):HC PG pj [.int .u64 x,.int .i64 (n:Int)] [.c (.int .u64)] K h:=by
 obtain⟨X,rfl⟩:=rA hx.1;have d:X<18446744073709551616:=by have:=hx.2;omega
 rw[ZT g d]at c;refine TK X n ?_;unfold KI;refine LoopP.ghost (fun(i:Nat) (t:Int×Int) h'=>t=(((IV i X:Nat):Int),(i:Int))∧i≤n∧h'=h) (fun i=>n-i) 0 ⟨rfl,aS _,rfl⟩ ?_
 rintro I i t h' ⟨rfl,hi,rfl⟩ f;refine ax (fun a=>?_) fun b=>?_
 ·have a:i<n:=by have:(i:Int)<(n:Int):=a;omega
  have j:=ZU i d;refine⟨by decide,?_⟩;have e:IntKind.wrap .u64 (IntKind.wrap .u64 (((IV i X:Nat):Int)*2)+IntKind.wrap .u64 (gj ((IV i X:Nat):Int) 9223372036854775808))=((IV (i+1) X:Nat):Int):=by
   show _=((RU (IV i X):Nat):Int)
   unfold RU;rw[du (by omega),IntKind.wrap_u64,IntKind.wrap_u64,IntKind.wrap_u64];omega
  simp only[Bd];rw[e,cS a (by omega)];exact f (i+1) _ _ ⟨rfl,a,rfl⟩ (by omega)
 ·obtain rfl:i=n:=by have:¬(i:Int)<(n:Int):=b;omega
  exact c
theorem yi{s:Q4}(e:Rg s.2.1)(i:Rg s.2.2.2){h:ad}{K:Q4→ad→Prop}(f:∀h',Upd No h h'→K (m8 s) h'):HC PG mV [.agg #[.int .u64 s.1,.int .u64 s.2.1,.int .u64 s.2.2.1,.int .u64 s.2.2.2]] [.agg [.int .u64,.int .u64,.int .u64,.int .u64]] K h:=by
 refine QU s ?_;unfold Hr bE bT ae df nX Vk Vn X1;refine aP fun g b1 k1=>aP fun h2 b2 c=>?_
 have a:=c.get0 b1;have j:=k1.size;refine⟨by decide,_,vc a 0,by decide,_,vc a 1,by decide,_,vc a 2,by decide,_,vc a 3,?_⟩
 refine Bs (n:=13) e (by omega) (Bs (n:=32) (Y3 _ _) (by omega) (Bs (n:=16) i (by omega) (Bs (n:=21) (xJ _ _) (by omega) (Bs (n:=17) (xJ _ _) (by omega) (Bs (n:=32) (Y3 _ _) (by omega) ?_)))));refine cF b2 (by rfl) fun b b3 d=>?_
 refine⟨_,vc b3 0,_,vc b3 1,_,vc b3 2,_,vc b3 3,?_⟩;exact f b ((k1.tr c).own d (by omega))
abbrev Rq(q:Q4):Prop:=Rg q.1∧Rg q.2.1∧Rg q.2.2.1∧Rg q.2.2.2
theorem Ax(s:Q4):Rq (m8 s):=⟨Y3 _ _,xJ _ _,ZS _ _,xJ _ _⟩
theorem Xu(m:Int)(s:Q4):Rq (vm m s):=⟨xJ _ _,(Ax _).2⟩
theorem abZ{s:ByteArray}{i:Nat}(h:i<s.size):∃b:UInt8,s[i]? =some b∧KV s i=b.toNat:=⟨s[i],getElem?_pos s i h,by unfold KV;rw[dif_pos h]⟩
theorem YA{n:Nat}{s:ByteArray}{a:Nat}{q:Q4}(h:s.size≤a+n)(hc:a+8≤s.size):∃m,su n s a q=su m s (a+8) (vm (hv s a 8:Nat) q)∧s.size≤a+8+m:=by
 cases n with
 |zero=>omega
 |succ n=>exact⟨n,if_pos hc,by omega⟩
theorem S7{n:Nat}{s:ByteArray}{a:Nat}{q:Q4}(hc:s.size<a+8):su n s a q=(a,q):=by
 cases n with
 |zero=>rfl
 |succ n=>exact if_neg (by omega)
theorem ZX{k0 k1:Int}{s:ByteArray}(hs:s.size≤1000000000){h:ad}{K:Int→ad→Prop}(k:∀h',Upd No h h'→K (RF k0 k1 s) h'):HC PG Ga [.int .u64 k0,.int .u64 k1,.string s] [.c (.int .u64)] K h:=by
 rw[ZJ]at k;refine WV k0 k1 s ?_;unfold Nh bE bT ae df nv dy Vk Vn abk VX X1;simp only[Bd,show((0:Int)).toNat*1=0 from rfl,show((1:Int)).toNat*1=1 from rfl,show((2:Int)).toNat*1=2 from rfl,show((3:Int)).toNat*1=3 from rfl]
 have eq0:∃D:Q4,D=(dT k0 8317987319222330741,dT k1 7237128888997146477,dT k0 7816392313619706465,dT k1 8387220255154660723):=⟨_,rfl⟩;obtain⟨D,V⟩:=eq0;rw[←V]at k;have hq0:Rq D:=by rw[V];exact⟨xJ _ _,xJ _ _,xJ _ _,xJ _ _⟩
 refine aP fun h1 b1 k1=>?_
 refine cF b1 (by rfl) fun h2 b2 u2=>?_
 have b2':h2[h.size]? =some (.cells (q4 D) y4 (0,0)):=by rw[V];exact b2
 clear b2 V;have hex:∃G:Nat×Q4,G=su s.size s 0 D:=⟨_,rfl⟩;obtain⟨G,eG⟩:=hex;rw[←eG]at k;simp only at k;refine LoopP.ghost (fun(g:Nat×Q4) (t:Int) h'=>t=(g.1:Int)∧h'[h.size]? =some (.cells (q4 g.2) y4 (0,0))∧Upd No h h'∧Rq g.2∧
  ((∃n,su n s g.1 g.2=G∧s.size≤g.1+n∧g.1≤s.size)∨(s.size<g.1∧g.2=vm ((hv s G.1 8+s.size%256*72057594037927936:Nat):Int) G.2))) (fun g=>s.size+1-g.1) (0,D) ⟨rfl,b2',k1.own u2 (aj _),hq0,.inl ⟨s.size,eG.symm,by omega,aS _⟩⟩ ?_
 rintro I ⟨a,q⟩ t h' ⟨rfl,S,hu,T,x⟩ hI;simp only at S T x;refine ax (fun Z=>?_) fun hgt=>?_
 ·have Z:a≤s.size:=by omega
  obtain⟨n,y,hn,_⟩:=x.resolve_right fun h=>by omega
  refine LoopP.ghost (fun(j:Nat) (t:Int×Int) w=>t=(((hv s (a+(8-j)) j:Nat):Int),(7:Int)-(j:Int))∧j≤8∧w=h') (fun j=>8-j) 0 ⟨rfl,by omega,rfl⟩ ?_
  rintro I2 j t w ⟨rfl,hj,rfl⟩ X;refine ax (fun hge=>?_) fun hlt=>?_
  ·have hj7:j≤7:=by have:(7:Int)-(j:Int)≥0:=hge;omega
   have ei:IntKind.wrap .i64 ((a:Int)+(7-(j:Int)))=((a+(7-j):Nat):Int):=by rw[eJ (by omega)];omega
   have B:=ML s (j+1) (a+(8-(j+1)));have hp:256^(j+1)≤256^8:=gg (by omega) (by omega);have C:hv s (a+(8-(j+1))) (j+1)=hv s (a+(8-j)) j*256+KV s (a+(7-j)):=by
    rw[show a+(8-(j+1))=a+(7-j) by omega]
    show hv s (a+(7-j)+1) j*256+_=_
    rw[show a+(7-j)+1=a+(8-j) by omega]
   rw[C]at B;refine Join.intro (fun t L=>t=((hv s (a+(8-(j+1))) (j+1):Nat):Int)∧L=w) (fun R M=>?_) ?_
   ·simp only
    rw[ei];refine ax (fun u=>?_) fun Q=>?_
    ·have u:a+(7-j)<s.size:=by omega
     obtain⟨b,hb1,J⟩:=abZ u;refine⟨b,by omega,by rw[aU];exact hb1,M _ _ ⟨?_,rfl⟩⟩
     rw[C,J,IntKind.wrap_u64,IntKind.wrap_u64,IntKind.wrap_u64];rw[J]at B;omega
    ·have hz:KV s (a+(7-j))=0:=JW (by omega)
     refine M _ _ ⟨?_,rfl⟩;rw[hz]at B;rw[C,hz,IntKind.wrap_u64];omega
   ·rintro t L ⟨rfl,rfl⟩
    simp only;have e7:IntKind.wrap .i64 ((7:Int)-(j:Int)-1)=(7:Int)-((j+1:Nat):Int):=by rw[eJ (by omega)];omega
    rw[e7];exact X (j+1) _ _ ⟨rfl,by omega,rfl⟩ (by omega)
  ·obtain rfl:j=8:=by have:¬(7:Int)-(j:Int)≥0:=hlt;omega
   simp only[Nat.sub_self,eg];have h8:=ML s 8 a;have e8:IntKind.wrap .i64 ((a:Int)+8)=((a+8:Nat):Int):=by rw[eJ (by omega)];omega
   rw[e8];refine Join.intro (fun(t:Int) L=>L=w∧∃m:Nat,t=(m:Int)∧((a+8≤s.size∧m=hv s a 8)∨(s.size<a+8∧m=hv s a 8+s.size%256*72057594037927936))) (fun R M=>?_) ?_
   ·refine ax (fun u=>?_) fun Q=>?_
    ·have u:s.size<a+8:=by omega
     have hc:hv s a 8<2^56:=by
      have e:=N3 (s:=s) (d:=1) (c:=7) (p:=a) (by omega);rw[show(7+1:Nat)=8 from rfl]at e
      rw[e];exact ML s 7 a
     refine⟨by decide,M _ _ ⟨rfl,_,?_,.inr ⟨u,rfl⟩⟩⟩;rw[pq (by omega),IntKind.wrap_u64,IntKind.wrap_u64,IntKind.wrap_u64];omega
    ·exact M _ _ ⟨rfl,_,rfl,.inl ⟨by omega,rfl⟩⟩
   ·rintro t L ⟨rfl,m,rfl,hm⟩
    refine⟨by decide,_,vc S 3,by decide,?_⟩
    refine vz (i:=3) (c':=q4 (q.1,q.2.1,q.2.2.1,dT q.2.2.2 (m:Int))) S (show 3<4 by decide) rfl fun h4 o u4=>?_
    refine⟨_,vc o 0,_,vc o 1,_,vc o 2,_,vc o 3,?_⟩;refine yi (s:=(q.1,q.2.1,q.2.2.1,dT q.2.2.2 (m:Int))) T.2.1 (xJ _ _) fun h5 F=>?_
    have f:=Ax (q.1,q.2.1,q.2.2.1,dT q.2.2.2 (m:Int));have et:vm (m:Int) q=(dT (m8 (m8 (q.1,q.2.1,q.2.2.1,dT q.2.2.2 (m:Int)))).1 m,(m8 (m8 (q.1,q.2.1,q.2.2.1,dT q.2.2.2 (m:Int)))).2):=rfl;refine yi f.2.1 f.2.2.2 fun h6 O=>?_
    obtain⟨r,W⟩:∃r,r=m8 (m8 (q.1,q.2.1,q.2.2.1,dT q.2.2.2 (m:Int))):=⟨_,rfl⟩;rw[←W]at et⊢;have b6:=O.get0 (F.get0 o);have z6:=aY b6;refine cF (vs:=(q4 r).toList) b6 rfl fun h7 b7 u7=>?_
    have E:h7[h.size]? =some (.cells (q4 r) y4 (0,0)):=b7;refine⟨by decide,_,vc E 0,by decide,?_⟩
    refine vz (i:=0) (c':=q4 (dT r.1 m,r.2)) E (show 0<4 by decide) rfl fun Y U u8=>?_
    have uu:Upd No h Y:=((((hu.own u4 (aj _)).tr F).tr O).own u7 (aj _)).own u8 (aj _);rw[←et]at U;refine hI (a+8,vm m q) _ _ ⟨rfl,U,uu,Xu _ _,?_⟩ (by simp only;omega);rcases hm with⟨hc,rfl⟩|⟨hc,rfl⟩
    ·obtain⟨n',hd,hn'⟩:=YA hn hc
     exact .inl ⟨n',hd.symm.trans y,hn',hc⟩
    ·refine .inr ⟨by simp only;omega,?_⟩
     have:=S7 (n:=n) (q:=q) hc;rw[y]at this;rw[this]
 ·obtain⟨_,eq⟩:=x.resolve_left fun⟨_,_,_,h⟩=>by omega
  rw[←eq]at k;clear eq x;refine⟨by decide,_,vc S 2,by decide,?_⟩
  refine vz (i:=2) (c':=q4 (q.1,q.2.1,dT q.2.2.1 255,q.2.2.2)) S (show 2<4 by decide) rfl fun h4 o u4=>?_
  refine⟨_,vc o 0,_,vc o 1,_,vc o 2,_,vc o 3,?_⟩;have ef:aar q=abS (m8 (m8 (m8 (m8 (q.1,q.2.1,dT q.2.2.1 255,q.2.2.2))))):=rfl;rw[ef]at k;refine yi (s:=(q.1,q.2.1,dT q.2.2.1 255,q.2.2.2)) T.2.1 T.2.2.2 fun h5 F=>?_
  have f:=Ax (q.1,q.2.1,dT q.2.2.1 255,q.2.2.2);obtain⟨r1,P⟩:∃r,r=m8 (q.1,q.2.1,dT q.2.2.1 255,q.2.2.2):=⟨_,rfl⟩;rw[←P]at k f⊢;clear P;refine yi f.2.1 f.2.2.2 fun h6 O=>?_
  have A:=Ax r1;obtain⟨r2,H⟩:∃r,r=m8 r1:=⟨_,rfl⟩;rw[←H]at k A⊢;clear H;refine yi A.2.1 A.2.2.2 fun h7 k7=>?_
  have z:=Ax r2;obtain⟨r3,N⟩:∃r,r=m8 r2:=⟨_,rfl⟩;rw[←N]at k z⊢;clear N;refine yi z.2.1 z.2.2.2 fun h8 k8=>?_
  obtain⟨r,W⟩:∃r,r=m8 r3:=⟨_,rfl⟩;rw[←W]at k⊢;clear W;have U:=k8.get0 (k7.get0 (O.get0 (F.get0 o)));refine cF (vs:=(q4 r).toList) U rfl fun h9 b9 u9=>?_
  have v:h9[h.size]? =some (.cells (q4 r) y4 (0,0)):=b9;refine⟨by decide,_,vc v 0,by decide,_,vc v 1,by decide,_,vc v 2,by decide,_,vc v 3,?_⟩
  exact k h9 ((((((hu.own u4 (aj _)).tr F).tr O).tr k7).tr k8).own u9 (aj _))
theorem XU{x:Hs}{s:ByteArray}(c:s.size≤1000000000){h:ad}{K:Int→ad→Prop}(b:∀h',Upd No h h'→K (gq x s) h'):HC PG Dg [.agg #[.int .u64 x.k0,.int .u64 x.k1,.int .u64 x.mask],.string s] [.c (.int .u64)] K h:=by
 refine TG (x.k0,x.k1,x.mask) s ?_;unfold KE ae AA abg;refine aP fun d b1 k1=>⟨_,vc b1 0,_,vc b1 1,_,vc b1 2,ZX c fun h2 a=>⟨vc (a.get0 b1) 2,?_⟩⟩
 exact b h2 (k1.tr a)
theorem abA{hv:Int}(f:0≤hv∧hv<18446744073709551616){lev:Nat}(m:lev<13){h:ad}{K:Int→ad→Prop}(c:K (((hv.toNat>>>(5*lev))%32:Nat):Int) h):HC PG Ep [.int .u64 hv,.int .i64 lev] [.c (.int .i64)] K h:=by
 obtain⟨n,rfl⟩:=rA f.1;rw[aU]at c;refine Za n lev ?_;unfold Q8;refine Join.plain (ax (fun h=>by omega) fun _=>?_)
 rw[decide_eq_false (by omega)];refine ag.2 ?_;refine LoopP.ghost (fun(i:Nat) (t:Int×Int) h'=>t=(((n>>>(5*i):Nat):Int),(i:Int))∧i≤lev∧h'=h) (fun i=>lev-i) 0 ⟨rfl,aS _,rfl⟩ ?_
 rintro I i t h' ⟨rfl,hi,rfl⟩ g;refine ax (fun a=>?_) fun d=>?_
 ·have a:i<lev:=by have:(i:Int)<(lev:Int):=a;omega
  have b:n>>>(5*i)≤n:=Nat.shiftRight_le _ _;have e:n>>>(5*(i+1))=n>>>(5*i)/32:=by rw[Nat.mul_add,Nat.shiftRight_add,cK _ (5*1)]
  have k:n<18446744073709551616:=by have:=f.2;omega
  have j:IntKind.wrap .u64 (gj ((n>>>(5*i):Nat):Int) 32)=((n>>>(5*(i+1)):Nat):Int):=by
   rw[e];generalize n>>>(5*i)=y at b;rw[du (by omega),IntKind.wrap_u64];omega
  refine⟨by decide,?_⟩;simp only;rw[j,cS a (by omega)];exact g (i+1) _ _ ⟨rfl,a,rfl⟩ (by omega)
 ·obtain rfl:i=lev:=by have:¬(i:Int)<(lev:Int):=d;omega
  refine⟨by decide,?_⟩;simp only;generalize n>>>(5*i)=y at c;rw[pq (by omega),eJ (by omega)];exact_mod_cast c
theorem acx{x:Hs}{k:ByteArray}{lev:Nat}(a:lev<13){h:ad}{K:Int→ad→Prop}(b:K (ck x lev k:Int) h):HC PG Ep [.int .u64 (gq x k),.int .i64 lev] [.c (.int .i64)] K h:=abA (G7 x k) a b
end Go.Proofs
namespace Go.Proofs
theorem Yc:∀{n x:Nat},x<2^n→0<x→∃c,c<n∧x.testBit c=true∧∀j,j<c→x.testBit j=false
 |0,x,h,h'=>by simp at h;omega
 |n+1,x,h,h'=>by
  by_cases e:x%2=1
  ·exact⟨0,by omega,by rw[mM];simpa using e,fun j a=>absurd a (Nat.not_lt_zero _)⟩
  ·obtain⟨c,d,h2,b⟩:=Yc (n:=n) (x:=x/2) (by rw[pV]at h;omega) (by omega)
   refine⟨c+1,by omega,by rw[jz];exact h2,fun j a=>?_⟩
   cases j with
   |zero=>rw[mM];simpa using e
   |succ j=>rw[jz];exact b j (by omega)
theorem Ja:∀{c x:Nat},x.testBit c=true→(∀j,j<c→x.testBit j=false)→∀i,(x-1).testBit i=if i<c then true else if i=c then false else x.testBit i
 |0,x,h,_,i=>by
  have h:x%2=1:=by rw[mM]at h;simpa using h
  cases i with
  |zero=>rw[mM,if_neg (by omega),if_pos rfl];simp;omega
  |succ i=>rw[jz,jz,if_neg (by omega),if_neg (by omega)];congr 1;omega
 |c+1,x,h,hl,i=>by
  have a:=hl 0 (by omega);rw[mM]at a;have f:¬x%2=1:=by simpa using a
  have a:x%2=0:=by omega
  rw[jz]at h;have b:0<x/2:=by
   rcases dY (x/2)with e|e
   ·rw[e,ij]at h;cases h
   ·exact e
  cases i with
  |zero=>rw[mM,if_pos (by omega)];simp;omega
  |succ i=>
   have:=Ja (x:=x/2) h (fun j d=>by have:=hl (j+1) (by omega);rwa [jz]at this) i
   rw[jz,jz,show(x-1)/2=x/2-1 by omega,this]
   simp only[Nat.add_lt_add_iff_right,Nat.add_right_cancel_iff]
theorem aaf{c x:Nat}(h:x.testBit c=true)(b:∀j,j<c→x.testBit j=false)(hc:c<32)(hx:x<4294967296):x&&&(4294967296-x)=2^c:=by
 have d:0<x:=by
  rcases dY x with e|e
  ·rw[e,ij]at h;cases h
  ·exact e
 refine jO fun i=>?_
 have e:4294967296-x=2^32-((x-1)+1):=by omega
 rw[kw,e,Nat.testBit_two_pow_sub_succ (by omega),Ja h b,Nat.testBit_two_pow];by_cases a:i<c
 ·rw[if_pos a,b i a];simp;omega
 ·rw[if_neg a]
  by_cases h2:i=c
  ·subst h2;simp[h,hc]
  ·rw[if_neg h2]
   cases x.testBit i<;>simp<;>omega
theorem WE{c x:Nat}(h:x.testBit c=true)(b:∀j,j<c→x.testBit j=false)(i:Nat):(x&&&(x-1)).testBit i=(x.testBit i&&decide (c<i)):=by
 rw[kw,Ja h b];by_cases a:i<c
 ·rw[if_pos a,b i a];rfl
 ·rw[if_neg a]
  by_cases h2:i=c
  ·subst h2;simp
  ·rw[if_neg h2]
   have:c<i:=by omega
   simp[this]
end Go.Proofs
namespace Go.Proofs
open Go Go.Lift
abbrev tzL:List Nat:= [0,1,28,2,29,14,24,3,30,22,20,15,25,17,4,8,31,27,13,23,21,19,16,7,26,12,18,6,11,5,10,9]
def Tab(h:ad):Prop:=∀i,i<32→aJ h ⟨0,i,none⟩=some (.int .u8 ((tzL.getD i 0:Nat):Int))
theorem Tab.upd{M:Nat→Prop}{h h':ad}(t:Tab h)(k:Upd M h h')(hm:¬M 0):Tab h':=fun i hi=>k.cell (t i hi) hm
theorem abl:∀c:Fin 32,ed (IntKind.wrap .u32 (IntKind.wrap .u32 ((2^c.val:Nat):Int)*125613361)) (2^(min (27:Int).toNat (IntKind.bits .u32)))=((2^c.val*125613361%4294967296/134217728:Nat):Int)∧2^c.val*125613361%4294967296/134217728<32∧tzL.getD (2^c.val*125613361%4294967296/134217728) 0=c.val:=by decide+kernel
theorem Y0{a b:Nat}(d:a<4294967296)(c:b<4294967296):(ao (IntKind.bits .u32) (a:Int)&&&ao (IntKind.bits .u32) (b:Int)).toNat=a&&&b:=by
 rw[show IntKind.bits .u32=32 from rfl,gm,gm,BitVec.toNat_and,rj,rj,dS (show a<2^32 from d),dS (show b<2^32 from c)]
theorem acn{h:ad}(tb:Tab h){x c:Nat}(hx:x<4294967296)(hc:c<32)(a:x.testBit c=true)(i:∀j,j<c→x.testBit j=false){K:Int→ad→Prop}(g:K (c:Int) h):HC PG kK [.int .u32 (x:Int)] [.c (.int .i64)] K h:=by
 refine vI x ?_;unfold oF bE bT;have m:0<x:=by
  rcases dY x with e|e
  ·rw[e,ij]at a;cases a
  ·exact e
 refine CondP.intro (fun e=>?_) fun _=>?_
 ·have e:(x:Int)=0:=by simpa using e
  omega
 have k:IntKind.wrap .u32 (0-(x:Int))=((4294967296-x:Nat):Int):=by rw[IntKind.wrap_u32];omega
 rw[k,Y0 hx (by omega),aaf a i hc hx];obtain⟨b,f,d⟩:=abl ⟨c,hc⟩;simp only at b f d;simp only[Bd];rw[b];refine⟨by decide,⟨by omega,by omega⟩,((tzL.getD (2^c*125613361%4294967296/134217728) 0:Nat):Int),?_,?_⟩
 ·rw[Nat.mul_one,cd,aR,aU];exact tb _ f
 ·rw[d,eJ (by omega)];exact g
def dk(d k:Nat):Nat:=(d>>>k)<<<k
theorem Gc(d k i:Nat):(dk d k).testBit i=(decide (k≤i)&&d.testBit i):=by
 unfold dk;rw[Nat.testBit_shiftLeft];by_cases h:k≤i
 ·rw[decide_eq_true (show i≥k from h),Nat.testBit_shiftRight];congr 2;omega
 ·rw[decide_eq_false (show ¬i≥k from h)];rfl
theorem aa6(d k:Nat):dk d k≤d:=by
 unfold dk;rw[Nat.shiftLeft_eq,cK];exact Nat.div_mul_le_self ..
theorem aau(d:Nat):dk d 0=d:=jO fun i=>by rw[Gc];simp
theorem Mj{d:Nat}(hd:d<4294967296){q:Nat}{h:ad}(A:h[q]? =some (.cells #[.int .u32 (d:Int)] y3 (0,0)))
  {BODY:Int→(Option Ex→ad→Prop)→ad→Prop} {N:ad→Prop} {X:Nat→ad→Prop} {R:ad→Prop} (Inv:Nat→ad→Prop) (M:Nat→Prop)
  (T:∀k a,Inv k a→Tab a) (h0:Inv 0 h) (f:∀k a h2,Inv k a→h.size≤a.size→Upd (fun b=>b=q∨h.size≤b) a h2→Inv k h2)
  (hM:∀b,M b→b≠q∧b<h.size)
  (step:∀k c a (KK:Option Ex→ad→Prop),Inv k a→k≤c→c<32→d.testBit c=true→(∀j,k≤j→j<c→d.testBit j=false)→(∀h2,Inv (c+1) h2→Upd M a h2→KK none h2)→BODY (c:Int) KK a)
  (W:∀k a,Inv k a→(∀j,k≤j→j<32→d.testBit j=false)→a[h.size]? =some (.deferred (some []))→N a):
  RangeP PG (.func (.func lr) #[] #[.pointer (some ⟨q,0,none⟩)]) [.c (.int .i64)] h
   (fun Mi bz (x:Int) k H=>(H[(cp h+1)]? =some Mi∧At (Array.setIfInBounds H (cp h+1) bz) (fun O=>BODY x k O))) N X R:=by
 refine⟨fun lo hlo p=>?_⟩
 refine⟨lr,#[],#[.pointer (some ⟨q,0,none⟩)],rfl,?_⟩;have zb:=aY A;have k1:Upd No h ((h.push (.deferred (some []))).push (lo .ready none)):=(Upd.push No _ _).tr (Upd.push No _ _);have V:((h.push (.deferred (some []))).push (lo .ready none))[h.size+1]? =some (lo .ready none):=by
  have:=Az (h.push (.deferred (some []))) (lo .ready none);rwa [Array.size_push]at this
 have l1:((h.push (.deferred (some []))).push (lo .ready none))[h.size]? =some (.deferred (some [])):=(Upd.push No _ _).get0 (Az h _);have b1:=k1.get0 A;have i1:=f 0 _ _ h0 (aj _) k1.wide;have z1:=aY V;generalize (h.push (.deferred (some []))).push (lo .ready none)=a at k1 V l1 b1 i1 z1;refine BX (.func (.yield (h.size+1)) #[] #[]) ⟨q,0,none⟩ ?_;unfold rh
 refine LoopP.ghost (fun(k:Nat) (_:Unit) h'=>Inv k h'∧h'[q]? =some (.cells #[.int .u32 ((dk d k:Nat):Int)] y3 (0,0))∧h'[h.size]? =some (.deferred (some []))∧h'[h.size+1]? =some (lo .ready none)∧k≤32) (fun k=>33-k) 0 ⟨i1,by rw[aau];exact b1,l1,V,aS _⟩ ?_
 rintro I k ⟨⟩ h' ⟨hi,u,G,m,Y⟩ hI;have zz:=aY m;have y:=hH (aa6 d k) hd;refine⟨_,bm u,CondP.intro (fun e=>?_) fun e=>?_⟩
 ·have L:0<dk d k:=by
   have:((dk d k:Nat):Int)≠0:=by simpa using e
   omega
  obtain⟨c,hc,B,w⟩:=Yc (n:=32) y L;have v:=B;rw[Gc,Bool.and_eq_true,decide_eq_true_iff]at v;refine⟨_,bm u,acn (T k _ hi) y hc B w ?_⟩;refine p (c:Int) h' _ m ⟨m,?_⟩;have C:Upd (· =h.size+1) h' (h'.setIfInBounds (h.size+1) (lo .busy none)):=Upd.set _ _ rfl
  have lb:=jE (o:=lo .busy none) m;have sb:=C.size;refine bG ?_;generalize h'.setIfInBounds (h.size+1) (lo .busy none)=h2 at C lb sb;refine step k c h2 _ (f k _ _ hi (by omega) (C.mono fun b A=>.inl (.inr (by omega)))) v.1 hc v.2 (fun j a h2=>?_) fun Q K s=>?_
  ·have:=w j h2
   rw[Gc,decide_eq_true a]at this;simpa using this
  have E:=s.get lb fun e=>by have:=(hM _ e).2;omega
  have U:=s.get (C.get u (show ¬q=h.size+1 by omega)) fun e=>(hM _ e).1 rfl
  have P:=s.get (C.get G (show ¬h.size=h.size+1 by omega)) fun e=>by have:=(hM _ e).2;omega
  refine⟨E,?_⟩;have t:Upd (· =h.size+1) Q (Q.setIfInBounds (h.size+1) (lo .ready none)):=Upd.set _ _ rfl
  have Z:=jE (o:=lo .ready none) E;have g:=t.get U (show ¬q=h.size+1 by omega)
  have D:=t.get P (show ¬h.size=h.size+1 by omega)
  have s3:=s.size;have i5:=f (c+1) _ _ K (by omega) (t.mono fun b A=>.inl (.inr (by omega)))
  simp only[Option.isNone_none,if_true];refine ag.2 ?_;generalize Q.setIfInBounds (h.size+1) (lo .ready none)=h5 at t Z g D i5;refine⟨_,bm g,_,bm g,?_⟩;have ew:IntKind.wrap .u32 (((dk d k:Nat):Int)-1)=((dk d k-1:Nat):Int):=by rw[IntKind.wrap_u32];omega
  have ea:dk d k&&&(dk d k-1)=dk d (c+1):=by
   refine jO fun i=>?_
   rw[WE B w,Gc,Gc];by_cases F:c<i
   ·rw[decide_eq_true F,decide_eq_true (show k≤i by omega),decide_eq_true (show c+1≤i by omega)];simp
   ·rw[decide_eq_false F,decide_eq_false (show ¬c+1≤i by omega)];simp
  simp only[Bd];rw[ew,Y0 y (by omega),ea];have J:IntKind.wrap .u32 ((dk d (c+1):Nat):Int)=((dk d (c+1):Nat):Int):=by have:=aa6 d (c+1);rw[IntKind.wrap_u32];omega
  rw[J];refine⟨ip g (by simp),wr g fun h6 S z=>?_⟩
  have s5:=t.size;refine hI (c+1) () h6 ⟨f _ _ _ i5 (by omega) (z.mono fun b A=>.inl (.inl A)),S,z.oth D (by omega),z.oth Z (by omega),hc⟩ (by omega)
 ·have hz:dk d k=0:=by
   have:((dk d k:Nat):Int)=0:=by simpa using e
   omega
  have t:Upd (· =h.size+1) h' (h'.setIfInBounds (h.size+1) (lo .exhausted none)):=Upd.set _ _ rfl
  refine⟨.ready,none,by decide,m,?_⟩
  refine W k _ (f k _ _ hi (by omega) (t.mono fun b A=>.inl (.inr (by omega)))) (fun j a _=>?_) (t.get G (show ¬h.size=h.size+1 by omega))
  have:=Gc d k j;rw[hz,ij,decide_eq_true a]at this;simpa using this.symm
end Go.Proofs
namespace Go.Proofs
open Go Go.Lift
abbrev aaY(n:Nat):List Value:= [.int .i64 (n:Int)]
theorem abG(n:Nat):(aaY n).length=1∧0<1:=⟨rfl,by omega⟩
theorem Fs{h:ad}{b:Nat}{c:Array Value}{t:TypeId}(a:h[b]? =some (.cells c t (0,0))):aJ h ⟨b,0,none⟩=c[0]?:=bm a
theorem Ip{h:ad}{b:Nat}{c c':Array Value}{t:TypeId}{v:Value}{k:ad→Prop}(d:h[b]? =some (.cells c t (0,0))) (hi:0<c.size) (e:c.setIfInBounds 0 v=c') (f:∀h',h'[b]? =some (.cells c' t (0,0))→Upd (· =b) h h'→k h'):Wr h ⟨b,0,none⟩∧At (hset h ⟨b,0,none⟩ v) k:=
 ⟨ip d hi,wr d fun h' a g=>f h' (e▸a) g⟩
theorem m0{h:ad}{b:Nat}{cs:List Value}{t:TypeId}(a:h[b]? =some (.cells cs.toArray t (0,0))):SRow h (some ⟨b,0,none⟩) cs.length cs:=
 ⟨rfl,.inr ⟨_,rfl,ox a fun i v hv=>by rw[aR,List.getElem?_toArray];exact hv⟩⟩
theorem Jp{W:Nat→Prop}{x:Hs}{k:ByteArray}{h:ad}{s:SliceV}{way:List Nat}(d:Sl aaY 1 W h s way)(n:way.length≤13)(j:∀i c,way[i]? =some c→ck x i k=c) {K:Bool→ad→Prop} (g:K true h):HC PG ql [.int .u64 (gq x k),.slice s.a s.len s.cap] [.c .bool] K h:=by
 refine LF (gq x k) s ?_;unfold Cp bE bT nX;have e:=d.len;refine LoopP.ghost (fun(i:Nat) (t:Int) h'=>t=(i:Int)∧i≤way.length∧h'=h) (fun i=>way.length-i) 0 ⟨rfl,aS _,rfl⟩ ?_
 rintro I i t h' ⟨rfl,hi,rfl⟩ f;refine ax (fun b=>?_) fun _=>g
 have b:i<way.length:=by omega
 obtain⟨a,m,_,hv⟩:=d.at0 (af b);refine⟨⟨by omega,by omega⟩,a,m,_,hv,Td (x:=x) (k:=k) (lev:=i) (by omega) ?_⟩
 rw[j i _ (af b),bne_self_eq_false];refine ag.2 ?_;rw[cS b (by omega)];exact f (i+1) _ _ ⟨rfl,b,rfl⟩ (by omega)
theorem V4{W:Nat→Prop}{h:ad}{s:SliceV}{l:List Pr}(e:Sl ey 2 W h s l)(m:bM l)(p:l.length≤1000000){K:Bool→ad→Prop}(k:K true h):HC PG zx [.slice s.a s.len s.cap] [.c .bool] K h:=by
 refine OC s ?_;unfold Fa bE bT az;have f:=e.len;refine LoopP.ghost (fun(i:Nat) (t:Int) h'=>t=((i+1:Nat):Int)∧h'=h) (fun i=>l.length-i) 0 ⟨rfl,rfl⟩ ?_
 rintro I i t h' ⟨rfl,rfl⟩ g;refine ax (fun b=>?_) fun _=>k
 have b:i+1<l.length:=by omega
 have j:IntKind.wrap .i64 (((i+1:Nat):Int)-1)=(i:Int):=by rw[eJ (by omega)];omega
 rw[j];obtain⟨a,o,_,hv⟩:=e.at (af (show i<l.length by omega))
 obtain⟨a',c,_,d⟩:=e.at (af b);refine⟨⟨by omega,by omega⟩,a,o,_,hv 0 _ rfl,⟨by omega,by omega⟩,a',c,_,d 0 _ rfl,?_⟩
 have:=List.pairwise_iff_getElem.1 m i (i+1) (by omega) b (by omega);have n:Op.bytesLess l[i].1.toList l[i+1].1.toList=true:=this;rw[n];refine ag.2 ?_;rw[cS b (by omega)];exact g (i+1) _ _ ⟨rfl,rfl⟩ (by omega)
theorem VA(x:Hs)(lev:Nat)(l:List Pr):(iw x lev l).length+(mu x lev l).flatten.length=l.length:=by
 have h:=yk x lev l 32;have d:(l.filter fun p=>decide (ck x lev p.1<32))=l:=List.filter_eq_self.2 fun p _=>decide_eq_true (zT ..)
 rw[d]at h;have:∀n,(fm (fun c=>km (part x lev c l)) n).length+(fm (fun c=>fZ (part x lev c l)) n).flatten.length=((List.range n).map fun c=>(part x lev c l).length).sum:=by
  intro n;induction n with
  |zero=>simp[fm]
  |succ n ih=>
   rw[jG,jG,List.range_succ,cO,List.sum_append];simp only[List.length_append,List.flatten_append,List.map_cons,iK,List.sum_cons,List.sum_nil,eg];generalize part x lev n l=q;have:(km q).toList.length+(fZ q).toList.flatten.length=q.length:=by
    match q with
    | []=>simp[km,fZ]
    | [a]=>simp[km,fZ]
    |a::b::q=>simp[km,fZ]
   omega
 have:=this 32;unfold iw mu;omega
theorem N5{β:Type}{g:Nat→Option β}{k:Nat}:∀{c:Nat},k≤c→(∀j,k≤j→j<c→g j=none)→fm g c=fm g k
 |0,h,_=>by rw[show k=0 by omega]
 |c+1,h,hn=>by
  rcases Nat.lt_or_ge k (c+1)with b|b
  ·rw[jG,hn c (by omega) (by omega),N5 (by omega) fun j a h2=>hn j a (by omega)];simp
  ·rw[show k=c+1 by omega]
end Go.Proofs
