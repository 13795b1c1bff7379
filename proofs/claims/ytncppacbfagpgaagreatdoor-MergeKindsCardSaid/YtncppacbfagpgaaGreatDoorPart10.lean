/- A part of the proof that the named laws of this program answer true, whatever the input. -/
import Derived.Test.YtncppacbfagpgaaGreatDoorPart9
import Derived.Test.YtncppacbfagpgaaGreatDoorPart4
import Derived.Test.YtncppacbfagpgaaGreatDoorPart2
import Derived.Test.YtncppacbfagpgaaGreatDoorPart6
import Derived.Test.YtncppacbfagpgaaGreatDoorPart3
open Array renaming size→ci
open BitVec renaming ofInt→ao,ofInt_natCast→fD,toNat_ofNat→pf
open Int renaming eq_ofNat_of_zero_le→pr,tdiv→lj,tdiv_eq_ediv_of_nonneg→fC,toNat_natCast→aV,tmod_eq_emod_of_nonneg→j2
open List renaming getElem?_toArray→fY,getElem?_eq_getElem→ag,range→gR,length_append→ac,length_singleton→aI,length_take→aR,take_succ_eq_append_getElem→bo,take_length→cd,getElem_mem→bw,replicate→gQ
open Nat renaming zero_le→aW,le_refl→aq,add_zero→dU,shiftRight_le→iW,shiftRight_eq_div_pow→cI,testBit_zero→li,not_lt_zero→kq,testBit_succ→iu,eq_zero_or_pos→dR,zero_testBit→jQ,eq_of_testBit_eq→kH,testBit_and→jg,mod_eq_of_lt→dN,zero_add→aM,lt_or_ge→bT
namespace Go.Proofs
open Go Go.Lift
abbrev Rg(x:Int):Prop:=0≤x∧x<18446744073709551616
theorem VW(x n:Int):Rg (FT x n):=CS _
theorem uT(x n:Int):Rg (dP x n):=CS _
theorem U8(x n:Int):Rg (U9 x n):=CS _
theorem yD{x:Int}(hx:Rg x){n:Nat}(hn:n<64){h:ae}{K:Int→ae→Prop}(hk:K (FT x n) h):HC PG m4 [.int .u64 x,.int .i64 (n:Int)] [.c (.int .u64)] K h:=by
 obtain⟨X,rfl⟩:=pr hx.1;have hX:X<18446744073709551616:=by have:=hx.2;omega
 rw[VX hn hX]at hk;refine PQ X n ?_;unfold Hv;refine LoopP.ghost (fun(i:Nat) (t:Int×Int) h'=>t=(((FU i X:Nat):Int),(i:Int))∧i≤n∧h'=h) (fun i=>n-i) 0 ⟨rfl,aW _,rfl⟩ ?_
 rintro I i t h' ⟨rfl,hi,rfl⟩ hI;refine az (fun hlt=>?_) fun hge=>?_
 ·have hlt:i<n:=by have:(i:Int)<(n:Int):=hlt;omega
  have hr:=VY i hX;refine⟨by decide,?_⟩;have e:IntKind.wrap .u64 (IntKind.wrap .u64 (((FU i X:Nat):Int)*2)+IntKind.wrap .u64 (lj ((FU i X:Nat):Int) 9223372036854775808))=((FU (i+1) X:Nat):Int):=by
   show _=((Ol (FU i X):Nat):Int)
   unfold Ol;rw[fC (by omega),IntKind.wrap_u64,IntKind.wrap_u64,IntKind.wrap_u64];omega
  simp only[Bd];rw[e,cS hlt (by omega)];exact hI (i+1) _ _ ⟨rfl,hlt,rfl⟩ (by omega)
 ·obtain rfl:i=n:=by have:¬(i:Int)<(n:Int):=hge;omega
  exact hk
theorem vx{s:Q4}(h1:Rg s.2.1)(h3:Rg s.2.2.2){h:ae}{K:Q4→ae→Prop}(hk:∀h',Upd No h h'→K (lJ s) h'):HC PG lA [.agg #[.int .u64 s.1,.int .u64 s.2.1,.int .u64 s.2.2.1,.int .u64 s.2.2.2]] [.agg [.int .u64,.int .u64,.int .u64,.int .u64]] K h:=by
 refine Ns s ?_;unfold EC bM cB af di eW nf Rm Rp T9;refine aS fun h1' b1 k1=>aS fun h2 b2 k2=>?_
 have c1:=k2.get0 b1;have s1:=k1.size;refine⟨by decide,_,vc c1 0,by decide,_,vc c1 1,by decide,_,vc c1 2,by decide,_,vc c1 3,?_⟩
 refine yD (n:=13) h1 (by omega) (yD (n:=32) (U8 _ _) (by omega) (yD (n:=16) h3 (by omega) (yD (n:=21) (uT _ _) (by omega) (yD (n:=17) (uT _ _) (by omega) (yD (n:=32) (U8 _ _) (by omega) ?_)))));refine cO b2 (by rfl) fun h3' b3 u3=>?_
 refine⟨_,vc b3 0,_,vc b3 1,_,vc b3 2,_,vc b3 3,?_⟩;exact hk h3' ((k1.tr k2).own u3 (by omega))
abbrev Rq(q:Q4):Prop:=Rg q.1∧Rg q.2.1∧Rg q.2.2.1∧Rg q.2.2.2
theorem xL(s:Q4):Rq (lJ s):=⟨U8 _ _,uT _ _,VW _ _,uT _ _⟩
theorem Ty(m:Int)(s:Q4):Rq (rV m s):=⟨uT _ _,(xL _).2⟩
theorem X7{s:ByteArray}{i:Nat}(h:i<s.size):∃b:UInt8,s[i]? =some b∧HG s i=b.toNat:=⟨s[i],getElem?_pos s i h,by unfold HG;rw[dif_pos h]⟩
theorem UH{n:Nat}{s:ByteArray}{a:Nat}{q:Q4}(h:s.size≤a+n)(hc:a+8≤s.size):∃m,pV n s a q=pV m s (a+8) (rV (hv s a 8:Nat) q)∧s.size≤a+8+m:=by
 cases n with
 |zero=>omega
 |succ n=>exact⟨n,if_pos hc,by omega⟩
theorem Pe{n:Nat}{s:ByteArray}{a:Nat}{q:Q4}(hc:s.size<a+8):pV n s a q=(a,q):=by
 cases n with
 |zero=>rfl
 |succ n=>exact if_neg (by omega)
theorem V3{k0 k1:Int}{s:ByteArray}(hs:s.size≤1000000000){h:ae}{K:Int→ae→Prop}(hk:∀h',Upd No h h'→K (N5 k0 k1 s) h'):HC PG Dr [.int .u64 k0,.int .u64 k1,.string s] [.c (.int .u64)] K h:=by
 rw[VN]at hk;refine SZ k0 k1 s ?_;unfold Kb bM cB af di nv dS Rm Rp Xs Sa T9 BC;simp only[Bd,show((0:Int)).toNat*1=0 from rfl,show((1:Int)).toNat*1=1 from rfl,show((2:Int)).toNat*1=2 from rfl,show((3:Int)).toNat*1=3 from rfl]
 have eq0:∃q0:Q4,q0=(dP k0 8317987319222330741,dP k1 7237128888997146477,dP k0 7816392313619706465,dP k1 8387220255154660723):=⟨_,rfl⟩;obtain⟨q0,e0⟩:=eq0;rw[←e0]at hk;have hq0:Rq q0:=by rw[e0];exact⟨uT _ _,uT _ _,uT _ _,uT _ _⟩
 refine aS fun h1 b1 k1=>?_
 refine cO b1 (by rfl) fun h2 b2 u2=>?_
 have b2':h2[h.size]? =some (.cells (q4 q0) ww (0,0)):=by rw[e0];exact b2
 clear b2 e0;have hex:∃G:Nat×Q4,G=pV s.size s 0 q0:=⟨_,rfl⟩;obtain⟨G,eG⟩:=hex;rw[←eG]at hk;simp only at hk;refine LoopP.ghost (fun(g:Nat×Q4) (t:Int) h'=>t=(g.1:Int)∧h'[h.size]? =some (.cells (q4 g.2) ww (0,0))∧Upd No h h'∧Rq g.2∧
  ((∃n,pV n s g.1 g.2=G∧s.size≤g.1+n∧g.1≤s.size)∨(s.size<g.1∧g.2=rV ((hv s G.1 8+s.size%256*72057594037927936:Nat):Int) G.2))) (fun g=>s.size+1-g.1) (0,q0) ⟨rfl,b2',k1.own u2 (aq _),hq0,.inl ⟨s.size,eG.symm,by omega,aW _⟩⟩ ?_
 rintro I ⟨a,q⟩ t h' ⟨rfl,hb,hu,hq,hst⟩ hI;simp only at hb hq hst;refine az (fun hle=>?_) fun hgt=>?_
 ·have hle:a≤s.size:=by omega
  obtain⟨n,hdoc,hn,_⟩:=hst.resolve_right fun h=>by omega
  refine LoopP.ghost (fun(j:Nat) (t:Int×Int) h''=>t=(((hv s (a+(8-j)) j:Nat):Int),(7:Int)-(j:Int))∧j≤8∧h''=h') (fun j=>8-j) 0 ⟨rfl,by omega,rfl⟩ ?_
  rintro I2 j t h'' ⟨rfl,hj,rfl⟩ hI2;refine az (fun hge=>?_) fun hlt=>?_
  ·have hj7:j≤7:=by have:(7:Int)-(j:Int)≥0:=hge;omega
   have ei:IntKind.wrap .i64 ((a:Int)+(7-(j:Int)))=((a+(7-j):Nat):Int):=by rw[gD (by omega)];omega
   have hl1:=JA s (j+1) (a+(8-(j+1)));have hp:256^(j+1)≤256^8:=Nat.pow_le_pow_right (by omega) (by omega);have ehv:hv s (a+(8-(j+1))) (j+1)=hv s (a+(8-j)) j*256+HG s (a+(7-j)):=by
    rw[show a+(8-(j+1))=a+(7-j) by omega]
    show hv s (a+(7-j)+1) j*256+_=_
    rw[show a+(7-j)+1=a+(8-j) by omega]
   rw[ehv]at hl1;refine Join.intro (fun t h3=>t=((hv s (a+(8-(j+1))) (j+1):Nat):Int)∧h3=h'') (fun R hR=>?_) ?_
   ·simp only
    rw[ei];refine az (fun hin=>?_) fun hout=>?_
    ·have hin:a+(7-j)<s.size:=by omega
     obtain⟨b,hb1,hb2⟩:=X7 hin;refine⟨b,by omega,by rw[aV];exact hb1,hR _ _ ⟨?_,rfl⟩⟩
     rw[ehv,hb2,IntKind.wrap_u64,IntKind.wrap_u64,IntKind.wrap_u64];rw[hb2]at hl1;omega
    ·have hz:HG s (a+(7-j))=0:=GO (by omega)
     refine hR _ _ ⟨?_,rfl⟩;rw[hz]at hl1;rw[ehv,hz,IntKind.wrap_u64];omega
   ·rintro t h3 ⟨rfl,rfl⟩
    simp only;have e7:IntKind.wrap .i64 ((7:Int)-(j:Int)-1)=(7:Int)-((j+1:Nat):Int):=by rw[gD (by omega)];omega
    rw[e7];exact hI2 (j+1) _ _ ⟨rfl,by omega,rfl⟩ (by omega)
  ·obtain rfl:j=8:=by have:¬(7:Int)-(j:Int)≥0:=hlt;omega
   simp only[Nat.sub_self,dU];have h8:=JA s 8 a;have e8:IntKind.wrap .i64 ((a:Int)+8)=((a+8:Nat):Int):=by rw[gD (by omega)];omega
   rw[e8];refine Join.intro (fun(t:Int) h3=>h3=h''∧∃m:Nat,t=(m:Int)∧((a+8≤s.size∧m=hv s a 8)∨(s.size<a+8∧m=hv s a 8+s.size%256*72057594037927936))) (fun R hR=>?_) ?_
   ·refine az (fun hin=>?_) fun hout=>?_
    ·have hin:s.size<a+8:=by omega
     have hc:hv s a 8<2^56:=by
      have e:=KZ (s:=s) (d:=1) (c:=7) (p:=a) (by omega);rw[show(7+1:Nat)=8 from rfl]at e
      rw[e];exact JA s 7 a
     refine⟨by decide,hR _ _ ⟨rfl,_,?_,.inr ⟨hin,rfl⟩⟩⟩;rw[j2 (by omega),IntKind.wrap_u64,IntKind.wrap_u64,IntKind.wrap_u64];omega
    ·exact hR _ _ ⟨rfl,_,rfl,.inl ⟨by omega,rfl⟩⟩
   ·rintro t h3 ⟨rfl,m,rfl,hm⟩
    refine⟨by decide,_,vc hb 3,by decide,?_⟩
    refine uU (i:=3) (c':=q4 (q.1,q.2.1,q.2.2.1,dP q.2.2.2 (m:Int))) hb (show 3<4 by decide) rfl fun h4 b4 u4=>?_
    refine⟨_,vc b4 0,_,vc b4 1,_,vc b4 2,_,vc b4 3,?_⟩;refine vx (s:=(q.1,q.2.1,q.2.2.1,dP q.2.2.2 (m:Int))) hq.2.1 (uT _ _) fun h5 k5=>?_
    have hr1:=xL (q.1,q.2.1,q.2.2.1,dP q.2.2.2 (m:Int));have et:rV (m:Int) q=(dP (lJ (lJ (q.1,q.2.1,q.2.2.1,dP q.2.2.2 (m:Int)))).1 m,(lJ (lJ (q.1,q.2.1,q.2.2.1,dP q.2.2.2 (m:Int)))).2):=rfl;refine vx hr1.2.1 hr1.2.2.2 fun h6 k6=>?_
    obtain⟨r,er⟩:∃r,r=lJ (lJ (q.1,q.2.1,q.2.2.1,dP q.2.2.2 (m:Int))):=⟨_,rfl⟩;rw[←er]at et⊢;have b6:=k6.get0 (k5.get0 b4);have z6:=aZ b6;refine cO (vs:=(q4 r).toList) b6 rfl fun h7 b7 u7=>?_
    have b7':h7[h.size]? =some (.cells (q4 r) ww (0,0)):=b7;refine⟨by decide,_,vc b7' 0,by decide,?_⟩
    refine uU (i:=0) (c':=q4 (dP r.1 m,r.2)) b7' (show 0<4 by decide) rfl fun h8' b8 u8=>?_
    have uu:Upd No h h8':=((((hu.own u4 (aq _)).tr k5).tr k6).own u7 (aq _)).own u8 (aq _);rw[←et]at b8;refine hI (a+8,rV m q) _ _ ⟨rfl,b8,uu,Ty _ _,?_⟩ (by simp only;omega);rcases hm with⟨hc,rfl⟩|⟨hc,rfl⟩
    ·obtain⟨n',hd,hn'⟩:=UH hn hc
     exact .inl ⟨n',hd.symm.trans hdoc,hn',hc⟩
    ·refine .inr ⟨by simp only;omega,?_⟩
     have:=Pe (n:=n) (q:=q) hc;rw[hdoc]at this;rw[this]
 ·obtain⟨_,eq⟩:=hst.resolve_left fun⟨_,_,_,h⟩=>by omega
  rw[←eq]at hk;clear eq hst;refine⟨by decide,_,vc hb 2,by decide,?_⟩
  refine uU (i:=2) (c':=q4 (q.1,q.2.1,dP q.2.2.1 255,q.2.2.2)) hb (show 2<4 by decide) rfl fun h4 b4 u4=>?_
  refine⟨_,vc b4 0,_,vc b4 1,_,vc b4 2,_,vc b4 3,?_⟩;have ef:Wz q=X0 (lJ (lJ (lJ (lJ (q.1,q.2.1,dP q.2.2.1 255,q.2.2.2))))):=rfl;rw[ef]at hk;refine vx (s:=(q.1,q.2.1,dP q.2.2.1 255,q.2.2.2)) hq.2.1 hq.2.2.2 fun h5 k5=>?_
  have hr1:=xL (q.1,q.2.1,dP q.2.2.1 255,q.2.2.2);obtain⟨r1,er1⟩:∃r,r=lJ (q.1,q.2.1,dP q.2.2.1 255,q.2.2.2):=⟨_,rfl⟩;rw[←er1]at hk hr1⊢;clear er1;refine vx hr1.2.1 hr1.2.2.2 fun h6 k6=>?_
  have hr2:=xL r1;obtain⟨r2,er2⟩:∃r,r=lJ r1:=⟨_,rfl⟩;rw[←er2]at hk hr2⊢;clear er2;refine vx hr2.2.1 hr2.2.2.2 fun h7 k7=>?_
  have hr3:=xL r2;obtain⟨r3,er3⟩:∃r,r=lJ r2:=⟨_,rfl⟩;rw[←er3]at hk hr3⊢;clear er3;refine vx hr3.2.1 hr3.2.2.2 fun h8 k8=>?_
  obtain⟨r,er⟩:∃r,r=lJ r3:=⟨_,rfl⟩;rw[←er]at hk⊢;clear er;have b8:=k8.get0 (k7.get0 (k6.get0 (k5.get0 b4)));refine cO (vs:=(q4 r).toList) b8 rfl fun h9 b9 u9=>?_
  have b9':h9[h.size]? =some (.cells (q4 r) ww (0,0)):=b9;refine⟨by decide,_,vc b9' 0,by decide,_,vc b9' 1,by decide,_,vc b9' 2,by decide,_,vc b9' 3,?_⟩
  exact hk h9 ((((((hu.own u4 (aq _)).tr k5).tr k6).tr k7).tr k8).own u9 (aq _))
theorem TX{x:Hs}{s:ByteArray}(hs:s.size≤1000000000){h:ae}{K:Int→ae→Prop}(hk:∀h',Upd No h h'→K (fU x s) h'):HC PG Ay [.agg #[.int .u64 x.k0,.int .u64 x.k1,.int .u64 x.mask],.string s] [.c (.int .u64)] K h:=by
 refine PM (x.k0,x.k1,x.mask) s ?_;unfold Hq af zt eW Xp;refine aS fun h1 b1 k1=>⟨_,vc b1 0,_,vc b1 1,_,vc b1 2,V3 hs fun h2 k2=>⟨vc (k2.get0 b1) 2,?_⟩⟩
 exact hk h2 (k1.tr k2)
theorem XK{hv:Int}(h0:0≤hv∧hv<18446744073709551616){lev:Nat}(hl:lev<13){h:ae}{K:Int→ae→Prop}(hk:K (((hv.toNat>>>(5*lev))%32:Nat):Int) h):HC PG BN [.int .u64 hv,.int .i64 lev] [.c (.int .i64)] K h:=by
 obtain⟨n,rfl⟩:=pr h0.1;rw[aV]at hk;refine Vg n lev ?_;unfold NF;refine Join.plain (az (fun h=>by omega) fun _=>?_)
 rw[decide_eq_false (by omega)];refine aj.2 ?_;refine LoopP.ghost (fun(i:Nat) (t:Int×Int) h'=>t=(((n>>>(5*i):Nat):Int),(i:Int))∧i≤lev∧h'=h) (fun i=>lev-i) 0 ⟨rfl,aW _,rfl⟩ ?_
 rintro I i t h' ⟨rfl,hi,rfl⟩ hI;refine az (fun hlt=>?_) fun hge=>?_
 ·have hlt:i<lev:=by have:(i:Int)<(lev:Int):=hlt;omega
  have hle:n>>>(5*i)≤n:=iW _ _;have e:n>>>(5*(i+1))=n>>>(5*i)/32:=by rw[Nat.mul_add,Nat.shiftRight_add,cI _ (5*1)]
  have e1:n<18446744073709551616:=by have:=h0.2;omega
  have e2:IntKind.wrap .u64 (lj ((n>>>(5*i):Nat):Int) 32)=((n>>>(5*(i+1)):Nat):Int):=by
   rw[e];generalize n>>>(5*i)=y at hle;rw[fC (by omega),IntKind.wrap_u64];omega
  refine⟨by decide,?_⟩;simp only;rw[e2,cS hlt (by omega)];exact hI (i+1) _ _ ⟨rfl,hlt,rfl⟩ (by omega)
 ·obtain rfl:i=lev:=by have:¬(i:Int)<(lev:Int):=hge;omega
  refine⟨by decide,?_⟩;simp only;generalize n>>>(5*i)=y at hk;rw[j2 (by omega),gD (by omega)];exact_mod_cast hk
theorem YD{x:Hs}{k:ByteArray}{lev:Nat}(hl:lev<13){h:ae}{K:Int→ae→Prop}(hk:K (ck x lev k:Int) h):HC PG BN [.int .u64 (fU x k),.int .i64 lev] [.c (.int .i64)] K h:=XK (Eh x k) hl hk
end Go.Proofs
namespace Go.Proofs
theorem Uj:∀{n x:Nat},x<2^n→0<x→∃c,c<n∧x.testBit c=true∧∀j,j<c→x.testBit j=false
 |0,x,h,h'=>by simp at h;omega
 |n+1,x,h,h'=>by
  by_cases e:x%2=1
  ·exact⟨0,by omega,by rw[li];simpa using e,fun j hj=>absurd hj (kq _)⟩
  ·obtain⟨c,h1,h2,h3⟩:=Uj (n:=n) (x:=x/2) (by rw[Nat.pow_succ]at h;omega) (by omega)
   refine⟨c+1,by omega,by rw[iu];exact h2,fun j hj=>?_⟩
   cases j with
   |zero=>rw[li];simpa using e
   |succ j=>rw[iu];exact h3 j (by omega)
theorem F1:∀{c x:Nat},x.testBit c=true→(∀j,j<c→x.testBit j=false)→∀i,(x-1).testBit i=if i<c then true else if i=c then false else x.testBit i
 |0,x,h,_,i=>by
  have h:x%2=1:=by rw[li]at h;simpa using h
  cases i with
  |zero=>rw[li,if_neg (by omega),if_pos rfl];simp;omega
  |succ i=>rw[iu,iu,if_neg (by omega),if_neg (by omega)];congr 1;omega
 |c+1,x,h,hl,i=>by
  have h0:=hl 0 (by omega);rw[li]at h0;have h1:¬x%2=1:=by simpa using h0
  have h0:x%2=0:=by omega
  rw[iu]at h;have hpos:0<x/2:=by
   rcases dR (x/2)with e|e
   ·rw[e,jQ]at h;cases h
   ·exact e
  cases i with
  |zero=>rw[li,if_pos (by omega)];simp;omega
  |succ i=>
   have:=F1 (x:=x/2) h (fun j hj=>by have:=hl (j+1) (by omega);rwa [iu]at this) i
   rw[iu,iu,show(x-1)/2=x/2-1 by omega,this]
   simp only[Nat.add_lt_add_iff_right,Nat.add_right_cancel_iff]
theorem Wj{c x:Nat}(h:x.testBit c=true)(hl:∀j,j<c→x.testBit j=false)(hc:c<32)(hx:x<4294967296):x&&&(4294967296-x)=2^c:=by
 have hp:0<x:=by
  rcases dR x with e|e
  ·rw[e,jQ]at h;cases h
  ·exact e
 refine kH fun i=>?_
 have e:4294967296-x=2^32-((x-1)+1):=by omega
 rw[jg,e,Nat.testBit_two_pow_sub_succ (by omega),F1 h hl,Nat.testBit_two_pow];by_cases h1:i<c
 ·rw[if_pos h1,hl i h1];simp;omega
 ·rw[if_neg h1]
  by_cases h2:i=c
  ·subst h2;simp[h,hc]
  ·rw[if_neg h2]
   cases x.testBit i<;>simp<;>omega
theorem SI{c x:Nat}(h:x.testBit c=true)(hl:∀j,j<c→x.testBit j=false)(i:Nat):(x&&&(x-1)).testBit i=(x.testBit i&&decide (c<i)):=by
 rw[jg,F1 h hl];by_cases h1:i<c
 ·rw[if_pos h1,hl i h1];rfl
 ·rw[if_neg h1]
  by_cases h2:i=c
  ·subst h2;simp
  ·rw[if_neg h2]
   have:c<i:=by omega
   simp[this]
end Go.Proofs
namespace Go.Proofs
open Go Go.Lift
abbrev tzL:List Nat:= [0,1,28,2,29,14,24,3,30,22,20,15,25,17,4,8,31,27,13,23,21,19,16,7,26,12,18,6,11,5,10,9]
def Tab(h:ae):Prop:=∀i,i<32→aP h ⟨0,i,none⟩=some (.int .u8 ((tzL.getD i 0:Nat):Int))
theorem Tab.upd{M:Nat→Prop}{h h':ae}(t:Tab h)(k:Upd M h h')(hm:¬M 0):Tab h':=fun i hi=>k.cell (t i hi) hm
theorem Xu:∀c:Fin 32,Int.fdiv (IntKind.wrap .u32 (IntKind.wrap .u32 ((2^c.val:Nat):Int)*125613361)) (2^(min (27:Int).toNat (IntKind.bits .u32)))=((2^c.val*125613361%4294967296/134217728:Nat):Int)∧2^c.val*125613361%4294967296/134217728<32∧tzL.getD (2^c.val*125613361%4294967296/134217728) 0=c.val:=by decide+kernel
theorem U6{a b:Nat}(ha:a<4294967296)(hb:b<4294967296):(ao (IntKind.bits .u32) (a:Int)&&&ao (IntKind.bits .u32) (b:Int)).toNat=a&&&b:=by
 rw[show IntKind.bits .u32=32 from rfl,fD,fD,BitVec.toNat_and,pf,pf,dN (show a<2^32 from ha),dN (show b<2^32 from hb)]
theorem Yt{h:ae}(tb:Tab h){x c:Nat}(hx:x<4294967296)(hc:c<32)(hb:x.testBit c=true)(hl:∀j,j<c→x.testBit j=false){K:Int→ae→Prop}(hk:K (c:Int) h):HC PG jx [.int .u32 (x:Int)] [.c (.int .i64)] K h:=by
 refine sI x ?_;unfold mE bM cB;have hp:0<x:=by
  rcases dR x with e|e
  ·rw[e,jQ]at hb;cases hb
  ·exact e
 refine CondP.intro (fun e=>?_) fun _=>?_
 ·have e:(x:Int)=0:=by simpa using e
  omega
 have ew:IntKind.wrap .u32 (0-(x:Int))=((4294967296-x:Nat):Int):=by rw[IntKind.wrap_u32];omega
 rw[ew,U6 hx (by omega),Wj hb hl hc hx];obtain⟨e1,e2,e3⟩:=Xu ⟨c,hc⟩;simp only at e1 e2 e3;simp only[Bd];rw[e1];refine⟨by decide,⟨by omega,by omega⟩,((tzL.getD (2^c*125613361%4294967296/134217728) 0:Nat):Int),?_,?_⟩
 ·rw[Nat.mul_one,bX,aM,aV];exact tb _ e2
 ·rw[e3,gD (by omega)];exact hk
def dk(d k:Nat):Nat:=(d>>>k)<<<k
theorem Dt(d k i:Nat):(dk d k).testBit i=(decide (k≤i)&&d.testBit i):=by
 unfold dk;rw[Nat.testBit_shiftLeft];by_cases h:k≤i
 ·rw[decide_eq_true (show i≥k from h),Nat.testBit_shiftRight];congr 2;omega
 ·rw[decide_eq_false (show ¬i≥k from h)];rfl
theorem Xe(d k:Nat):dk d k≤d:=by
 unfold dk;rw[Nat.shiftLeft_eq,cI];exact Nat.div_mul_le_self ..
theorem WC(d:Nat):dk d 0=d:=kH fun i=>by rw[Dt];simp
theorem Ja{d:Nat}(hd:d<4294967296){bb:Nat}{h:ae}(hb:h[bb]? =some (.cells #[.int .u32 (d:Int)] ws (0,0)))
  {BODY:Int→(Option Ex→ae→Prop)→ae→Prop} {N:ae→Prop} {X:Nat→ae→Prop} {R:ae→Prop} (Inv:Nat→ae→Prop) (M:Nat→Prop)
  (tab:∀k h1,Inv k h1→Tab h1) (h0:Inv 0 h) (stab:∀k h1 h2,Inv k h1→h.size≤h1.size→Upd (fun b=>b=bb∨h.size≤b) h1 h2→Inv k h2)
  (hM:∀b,M b→b≠bb∧b<h.size)
  (step:∀k c h1 (KK:Option Ex→ae→Prop),Inv k h1→k≤c→c<32→d.testBit c=true→(∀j,k≤j→j<c→d.testBit j=false)→(∀h2,Inv (c+1) h2→Upd M h1 h2→KK none h2)→BODY (c:Int) KK h1)
  (fin:∀k h1,Inv k h1→(∀j,k≤j→j<32→d.testBit j=false)→h1[h.size]? =some (.deferred (some []))→N h1):
  RangeP PG (.func (.func jW) #[] #[.pointer (some ⟨bb,0,none⟩)]) [.c (.int .i64)] h
   (fun I6 bz (x:Int) k h67=>(h67[(ci h+1)]? =some I6∧At (Array.setIfInBounds h67 (ci h+1) bz) (fun h69=>BODY x k h69))) N X R:=by
 refine⟨fun lo hlo hround=>?_⟩
 refine⟨jW,#[],#[.pointer (some ⟨bb,0,none⟩)],rfl,?_⟩;have zb:=aZ hb;have k1:Upd No h ((h.push (.deferred (some []))).push (lo .ready none)):=(Upd.push No _ _).tr (Upd.push No _ _);have l2:((h.push (.deferred (some []))).push (lo .ready none))[h.size+1]? =some (lo .ready none):=by
  have:=xN (h.push (.deferred (some []))) (lo .ready none);rwa [Array.size_push]at this
 have l1:((h.push (.deferred (some []))).push (lo .ready none))[h.size]? =some (.deferred (some [])):=(Upd.push No _ _).get0 (xN h _);have b1:=k1.get0 hb;have i1:=stab 0 _ _ h0 (aq _) k1.wide;have z1:=aZ l2;generalize (h.push (.deferred (some []))).push (lo .ready none)=h1 at k1 l2 l1 b1 i1 z1;refine zd (.func (.yield (h.size+1)) #[] #[]) ⟨bb,0,none⟩ ?_;unfold pd cr
 refine LoopP.ghost (fun(k:Nat) (_:Unit) h'=>Inv k h'∧h'[bb]? =some (.cells #[.int .u32 ((dk d k:Nat):Int)] ws (0,0))∧h'[h.size]? =some (.deferred (some []))∧h'[h.size+1]? =some (lo .ready none)∧k≤32) (fun k=>33-k) 0 ⟨i1,by rw[WC];exact b1,l1,l2,aW _⟩ ?_
 rintro I k ⟨⟩ h' ⟨hi,hb',hd',hl',hk32⟩ hI;have zz:=aZ hl';have hdl:=Nat.lt_of_le_of_lt (Xe d k) hd;refine⟨_,bq hb',CondP.intro (fun e=>?_) fun e=>?_⟩
 ·have hne:0<dk d k:=by
   have:((dk d k:Nat):Int)≠0:=by simpa using e
   omega
  obtain⟨c,hc,hcb,hcl⟩:=Uj (n:=32) hdl hne;have hb2:=hcb;rw[Dt,Bool.and_eq_true,decide_eq_true_iff]at hb2;refine⟨_,bq hb',Yt (tab k _ hi) hdl hc hcb hcl ?_⟩;refine hround (c:Int) h' _ hl' ⟨hl',?_⟩;have kb:Upd (· =h.size+1) h' (h'.setIfInBounds (h.size+1) (lo .busy none)):=Upd.set _ _ rfl
  have lb:=j4 (o:=lo .busy none) hl';have sb:=kb.size;refine bE ?_;generalize h'.setIfInBounds (h.size+1) (lo .busy none)=h2 at kb lb sb;refine step k c h2 _ (stab k _ _ hi (by omega) (kb.mono fun b hb=>.inl (.inr (by omega)))) hb2.1 hc hb2.2 (fun j h1 h2=>?_) fun h3 hi3 hu3=>?_
  ·have:=hcl j h2
   rw[Dt,decide_eq_true h1]at this;simpa using this
  have lb3:=hu3.get lb fun e=>by have:=(hM _ e).2;omega
  have hb3:=hu3.get (kb.get hb' (show ¬bb=h.size+1 by omega)) fun e=>(hM _ e).1 rfl
  have hd3:=hu3.get (kb.get hd' (show ¬h.size=h.size+1 by omega)) fun e=>by have:=(hM _ e).2;omega
  refine⟨lb3,?_⟩;have k5:Upd (· =h.size+1) h3 (h3.setIfInBounds (h.size+1) (lo .ready none)):=Upd.set _ _ rfl
  have l5:=j4 (o:=lo .ready none) lb3;have hb5:=k5.get hb3 (show ¬bb=h.size+1 by omega)
  have hd5:=k5.get hd3 (show ¬h.size=h.size+1 by omega)
  have s3:=hu3.size;have i5:=stab (c+1) _ _ hi3 (by omega) (k5.mono fun b hb=>.inl (.inr (by omega)))
  simp only[Option.isNone_none,if_true];refine aj.2 ?_;generalize h3.setIfInBounds (h.size+1) (lo .ready none)=h5 at k5 l5 hb5 hd5 i5;refine⟨_,bq hb5,_,bq hb5,?_⟩;have ew:IntKind.wrap .u32 (((dk d k:Nat):Int)-1)=((dk d k-1:Nat):Int):=by rw[IntKind.wrap_u32];omega
  have ea:dk d k&&&(dk d k-1)=dk d (c+1):=by
   refine kH fun i=>?_
   rw[SI hcb hcl,Dt,Dt];by_cases hci:c<i
   ·rw[decide_eq_true hci,decide_eq_true (show k≤i by omega),decide_eq_true (show c+1≤i by omega)];simp
   ·rw[decide_eq_false hci,decide_eq_false (show ¬c+1≤i by omega)];simp
  simp only[Bd];rw[ew,U6 hdl (by omega),ea];have e32:IntKind.wrap .u32 ((dk d (c+1):Nat):Int)=((dk d (c+1):Nat):Int):=by have:=Xe d (c+1);rw[IntKind.wrap_u32];omega
  rw[e32];refine⟨ii hb5 (by simp),tD hb5 fun h6 hb6 hu6=>?_⟩
  have s5:=k5.size;refine hI (c+1) () h6 ⟨stab _ _ _ i5 (by omega) (hu6.mono fun b hb=>.inl (.inl hb)),hb6,hu6.oth hd5 (by omega),hu6.oth l5 (by omega),hc⟩ (by omega)
 ·have hz:dk d k=0:=by
   have:((dk d k:Nat):Int)=0:=by simpa using e
   omega
  have k5:Upd (· =h.size+1) h' (h'.setIfInBounds (h.size+1) (lo .exhausted none)):=Upd.set _ _ rfl
  refine⟨.ready,none,by decide,hl',?_⟩
  refine fin k _ (stab k _ _ hi (by omega) (k5.mono fun b hb=>.inl (.inr (by omega)))) (fun j h1 _=>?_) (k5.get hd' (show ¬h.size=h.size+1 by omega))
  have:=Dt d k j;rw[hz,jQ,decide_eq_true h1]at this;simpa using this.symm
end Go.Proofs
namespace Go.Proofs
open Go Go.Lift
abbrev W6(n:Nat):List Value:= [.int .i64 (n:Int)]
theorem XP(n:Nat):(W6 n).length=1∧0<1:=⟨rfl,by omega⟩
theorem CL{h:ae}{b:Nat}{c:Array Value}{t:TypeId}(hb:h[b]? =some (.cells c t (0,0))):aP h ⟨b,0,none⟩=c[0]?:=bq hb
theorem Fy{h:ae}{b:Nat}{c c':Array Value}{t:TypeId}{v:Value}{k:ae→Prop}(hb:h[b]? =some (.cells c t (0,0))) (hi:0<c.size) (e:c.setIfInBounds 0 v=c') (hk:∀h',h'[b]? =some (.cells c' t (0,0))→Upd (· =b) h h'→k h'):Wr h ⟨b,0,none⟩∧At (hset h ⟨b,0,none⟩ v) k:=
 ⟨ii hb hi,tD hb fun h' hb' hu=>hk h' (e▸hb') hu⟩
theorem lI{h:ae}{b:Nat}{cs:List Value}{t:TypeId}(hb:h[b]? =some (.cells cs.toArray t (0,0))):SRow h (some ⟨b,0,none⟩) cs.length cs:=
 ⟨rfl,.inr ⟨_,rfl,ng hb fun i v hv=>by rw[aM,fY];exact hv⟩⟩
theorem Gh{W:Nat→Prop}{x:Hs}{k:ByteArray}{h:ae}{s:SliceV}{way:List Nat}(hs:Sl W6 1 W h s way)(hl:way.length≤13)(hw:∀i c,way[i]? =some c→ck x i k=c) {K:Bool→ae→Prop} (hk:K true h):HC PG ot [.int .u64 (fU x k),.slice s.a s.len s.cap] [.c .bool] K h:=by
 refine Il (fU x k) s ?_;unfold zG bM cB cr nf;have hlen:=hs.len;refine LoopP.ghost (fun(i:Nat) (t:Int) h'=>t=(i:Int)∧i≤way.length∧h'=h) (fun i=>way.length-i) 0 ⟨rfl,aW _,rfl⟩ ?_
 rintro I i t h' ⟨rfl,hi,rfl⟩ hI;refine az (fun hlt=>?_) fun _=>hk
 have hlt:i<way.length:=by omega
 obtain⟨a,ha,_,hv⟩:=hs.at0 (ag hlt);refine⟨⟨by omega,by omega⟩,a,ha,_,hv,SJ (x:=x) (k:=k) (lev:=i) (by omega) ?_⟩
 rw[hw i _ (ag hlt),bne_self_eq_false];refine aj.2 ?_;rw[cS hlt (by omega)];exact hI (i+1) _ _ ⟨rfl,hlt,rfl⟩ (by omega)
theorem Se{W:Nat→Prop}{h:ae}{s:SliceV}{l:List Pr}(hs:Sl eg 2 W h s l)(hr:bO l)(hn:l.length≤1000000){K:Bool→ae→Prop}(hk:K true h):HC PG wP [.slice s.a s.len s.cap] [.c .bool] K h:=by
 refine Lv s ?_;unfold Cz bM cB aO;have hlen:=hs.len;refine LoopP.ghost (fun(i:Nat) (t:Int) h'=>t=((i+1:Nat):Int)∧h'=h) (fun i=>l.length-i) 0 ⟨rfl,rfl⟩ ?_
 rintro I i t h' ⟨rfl,rfl⟩ hI;refine az (fun hlt=>?_) fun _=>hk
 have hlt:i+1<l.length:=by omega
 have e1:IntKind.wrap .i64 (((i+1:Nat):Int)-1)=(i:Int):=by rw[gD (by omega)];omega
 rw[e1];obtain⟨a,ha,_,hv⟩:=hs.at (ag (show i<l.length by omega))
 obtain⟨a',ha',_,hv'⟩:=hs.at (ag hlt);refine⟨⟨by omega,by omega⟩,a,ha,_,hv 0 _ rfl,⟨by omega,by omega⟩,a',ha',_,hv' 0 _ rfl,?_⟩
 have:=List.pairwise_iff_getElem.1 hr i (i+1) (by omega) hlt (by omega);have hb:Op.bytesLess l[i].1.toList l[i+1].1.toList=true:=this;rw[hb];refine aj.2 ?_;rw[cS hlt (by omega)];exact hI (i+1) _ _ ⟨rfl,rfl⟩ (by omega)
theorem RE(x:Hs)(lev:Nat)(l:List Pr):(iI x lev l).length+(kS x lev l).flatten.length=l.length:=by
 have h:=yL x lev l 32;have hle:(l.filter fun p=>decide (ck x lev p.1<32))=l:=List.filter_eq_self.2 fun p _=>decide_eq_true (BZ ..)
 rw[hle]at h;have:∀n,(fm (fun c=>jc (part x lev c l)) n).length+(fm (fun c=>fx (part x lev c l)) n).flatten.length=((gR n).map fun c=>(part x lev c l).length).sum:=by
  intro n;induction n with
  |zero=>simp[fm]
  |succ n ih=>
   rw[iP,iP,List.range_succ,List.map_append,List.sum_append];simp only[ac,List.flatten_append,List.map_cons,List.map_nil,List.sum_cons,List.sum_nil,dU];generalize part x lev n l=q;have:(jc q).toList.length+(fx q).toList.flatten.length=q.length:=by
    match q with
    | []=>simp[jc,fx]
    | [a]=>simp[jc,fx]
    |a::b::q=>simp[jc,fx]
   omega
 have:=this 32;unfold iI kS;omega
theorem K4{β:Type}{g:Nat→Option β}{k:Nat}:∀{c:Nat},k≤c→(∀j,k≤j→j<c→g j=none)→fm g c=fm g k
 |0,h,_=>by rw[show k=0 by omega]
 |c+1,h,hn=>by
  rcases bT k (c+1)with hk|hk
  ·rw[iP,hn c (by omega) (by omega),K4 (by omega) fun j h1 h2=>hn j h1 (by omega)];simp
  ·rw[show k=c+1 by omega]
end Go.Proofs
namespace Go.Proofs
open Go Go.Lift
def OY(q:List Pr):Int:=if q.length=1 then 1 else if 2≤q.length then 2 else 0
def dF(bu:Bool)(s:SliceV)(q:Nat→List Pr)(kk:Nat→Option Addr)(i:Nat):Value:=
 if i=0 then .bool bu else if i=1 then sv s else if i<34 then .int .i64 (OY (q (i-2)))else if i<98 then(if i%2=0 then .string (ES (jc (q ((i-34)/2)))).1 else .string (ES (jc (q ((i-34)/2)))).2)else .pointer (kk (i-98))
def dC(f:Nat→Value):List Value:=(gR 130).map f
theorem GD{f:Nat→Value}{i:Nat}(h:i<130):(dC f).toArray[i]? =some (f i):=by
 unfold dC;simp[h]
theorem Q8(f:Nat→Value):(dC f).toArray.size=130:=by simp[dC]
theorem X3{f:Nat→Value}{i:Nat}{v:Value}:(dC f).toArray.setIfInBounds i v=(dC fun j=>if j=i then v else f j).toArray:=by
 unfold dC;apply Array.ext_getElem?;intro j;rw[Array.getElem?_setIfInBounds];simp only[fY,List.getElem?_map,List.size_toArray,List.length_map,List.length_range];by_cases e:i=j
 ·subst e
  by_cases h:i<130
  ·simp[h]
  ·simp[h]
 ·rw[if_neg e]
  by_cases h:j<130
  ·rw[List.getElem?_range h];simp only[Option.map_some];rw[if_neg fun e':j=i=>e e'.symm]
  ·rw[List.getElem?_eq_none (by rw[List.length_range];omega)];rfl
theorem K9{f g:Nat→Value}(h:∀i,i<130→f i=g i):(dC f).toArray=(dC g).toArray:=by
 unfold dC;rw[List.map_congr_left fun i hi=>h i (List.mem_range.1 hi)]
def DTrie(W:Nat→Prop)(x:Hs)(h:ae):Nat→Nat→List Pr→Prop
 |0,b,l=>¬W b∧∃s,h[b]? =some (.cells (dC (dF true s (fun _=> []) fun _=>none)).toArray iZ (0,0))∧Sl eg 2 W h s l
 |m+1,b,l=>¬W b∧∃kk,h[b]? =some (.cells (dC (dF false ⟨none,0,0⟩ (fun c=>part x (12-m) c l) kk)).toArray iZ (0,0))∧∀c,c<32→2≤(part x (12-m) c l).length→∃kb,kk c=some ⟨kb,0,none⟩∧DTrie W x h m kb (part x (12-m) c l)
theorem DTrie.upd{W M:Nat→Prop}{x:Hs}{h h':ae}(k:Upd M h h')(hm:∀b,M b→W b∨h.size≤b):∀{m b:Nat} {l:List Pr},DTrie W x h m b l→DTrie W x h' m b l
 |0,b,_,⟨nw,s,h1,h2⟩=>⟨nw,s,k.get h1 fun hb=>(hm b hb).elim nw fun h=>by have:=aZ h1;omega,h2.upd k hm⟩
 |_+1,b,_,⟨nw,kk,h1,h2⟩=>⟨nw,kk,k.get h1 fun hb=>(hm b hb).elim nw fun h=>by have:=aZ h1;omega,fun c hc hp=>let⟨kb,h3,h4⟩:=h2 c hc hp;⟨kb,h3,DTrie.upd k hm h4⟩⟩
theorem DTrie.less{W W':Nat→Prop}{x:Hs}{h:ae}(hm:∀b,W' b→W b):∀{m b:Nat} {l:List Pr},DTrie W x h m b l→DTrie W' x h m b l
 |0,b,_,⟨nw,s,h1,h2⟩=>⟨fun hb=>nw (hm b hb),s,h1,h2.less fun b hb=>.inl (hm b hb)⟩
 |_+1,b,_,⟨nw,kk,h1,h2⟩=>⟨fun hb=>nw (hm b hb),kk,h1,fun c hc hp=>let⟨kb,h3,h4⟩:=h2 c hc hp;⟨kb,h3,DTrie.less hm h4⟩⟩
abbrev Yg(x:Hs)(p:Pr):List Value:= [.int .u64 (fU x p.1)]
theorem Us(x:Hs)(p:Pr):(Yg x p).length=1∧0<1:=⟨rfl,by omega⟩
def TwoS(x:Hs)(n0 n1:Nat)(h:ae)(so ss:SliceV)(L L':List Pr):Prop:=
 ∃A B:Nat→Prop,OwnS eg 2 bS A h so L∧OwnS (Yg x) 1 pv B h ss L'∧(∀b,A b→n0≤b∧b<n1∧¬B b)∧∀b,B b→n0≤b∧b<n1
theorem TwoS.upd0{x:Hs}{n0 n1:Nat}{h h':ae}{so ss:SliceV}{L L':List Pr}(t:TwoS x n0 n1 h so ss L L')(k:Upd No h h'):TwoS x n0 n1 h' so ss L L':=by
 obtain⟨A,B,h1,h2,h3,h4⟩:=t;exact⟨A,B,h1.upd k fun _ _ h=>h,h2.upd k fun _ _ h=>h,h3,h4⟩
theorem Ya{x:Hs}{n0 n1:Nat}{h:ae}{so ss:SliceV}{L L':List Pr}{p:Pr}(t:TwoS x n0 n1 h so ss L L')(hn:n0≤n1)(hn1:n1≤h.size)(hl:L.length≤1000000){xs:List Value}(hx:xs=eg p){K:SliceV→ae→Prop}
  (hk:∀s' h',TwoS x n0 h'.size h' s' ss (L++ [p]) L'→Upd (fun b=>(n0≤b∧b<n1)∨h.size≤b) h h'→K s' h'):AppP (some [.string (⟨#[]⟩:ByteArray),.string (⟨#[]⟩:ByteArray)]) 2 32 bS so.a so.len so.cap 1 xs h K:=by
 subst hx;obtain⟨A,B,h1,h2,h3,h4⟩:=t;refine AppP.own (ys:= [p]) (h1.more (M':=fun b=>A b∨h.size≤b) fun _ h=>.inl h) rfl rfl rfl rfl (by omega) (by simp only[aI];omega) (.inr (aq _)) fun s' h' ho hu=>?_
 have s:=hu.size;refine hk s' h' ⟨_,B,ho.within,h2.upd hu fun b hb hm=>hm.elim (fun hm=>(h3 b hm).2.2 hb) fun hm=>by have:=(h4 b hb).2;omega,fun b hb=>⟨?_,hb.2,fun hB=>?_⟩,fun b hb=>⟨(h4 b hb).1,by have:=(h4 b hb).2;omega⟩⟩ (hu.mono fun b hb=>hb.elim (fun hb=>.inl (.inl ⟨(h3 b hb).1,(h3 b hb).2.1⟩)) .inr)
 ·rcases hb.1 with hb|hb
  ·exact(h3 b hb).1
  ·omega
 ·rcases hb.1 with hb|hb
  ·exact(h3 b hb).2.2 hB
  ·have:=(h4 b hB).2;omega
theorem appB{x:Hs}{n0 n1:Nat}{h:ae}{so ss:SliceV}{L L':List Pr}{p:Pr}(t:TwoS x n0 n1 h so ss L L')(hn:n0≤n1)(hn1:n1≤h.size)(hl:L'.length≤1000000){xs:List Value}(hx:xs=Yg x p){K:SliceV→ae→Prop}
  (hk:∀s' h',TwoS x n0 h'.size h' so s' L (L'++ [p])→Upd (fun b=>(n0≤b∧b<n1)∨h.size≤b) h h'→K s' h'):AppP (some [.int .u64 0]) 1 8 pv ss.a ss.len ss.cap 1 xs h K:=by
 subst hx;obtain⟨A,B,h1,h2,h3,h4⟩:=t;refine AppP.own (ys:= [p]) (h2.more (M':=fun b=>B b∨h.size≤b) fun _ h=>.inl h) rfl rfl rfl rfl (by omega) (by simp only[aI];omega) (.inr (aq _)) fun s' h' ho hu=>?_
 have s:=hu.size;refine hk s' h' ⟨A,_,h1.upd hu fun b hb hm=>hm.elim (fun hm=>(h3 b hb).2.2 hm) fun hm=>by have:=(h3 b hb).2.1;omega,ho.within,fun b hb=>⟨(h3 b hb).1,by have:=(h3 b hb).2.1;omega,fun hB=>?_⟩,fun b hb=>⟨?_,hb.2⟩⟩ (hu.mono fun b hb=>hb.elim (fun hb=>.inl (.inl (h4 b hb))) .inr)
 ·rcases hB.1 with hB|hB
  ·exact(h3 b hb).2.2 hB
  ·have:=(h3 b hb).2.1;omega
 ·rcases hb.1 with hb|hb
  ·exact(h4 b hb).1
  ·omega
theorem Sb{x:Hs}{lev c:Nat}{l:List Pr}{p:Pr}:part x lev c (l++ [p])=if ck x lev p.1=c then part x lev c l++ [p]else part x lev c l:=by
 unfold part;rw[List.filter_append,List.filter_cons,List.filter_nil];by_cases h:ck x lev p.1=c
 ·rw[if_pos h,if_pos (decide_eq_true h)]
 ·rw[if_neg h,if_neg (by simpa using h),List.append_nil]
abbrev zR(x:Hs)(lev:Nat)(l:List Pr)(n:Nat)(c:Nat):List Pr:=if c<n then part x lev c l else[]
theorem Km{x:Hs}{lev n c:Nat}{l:List Pr}(h:c≠n):zR x lev l (n+1) c=zR x lev l n c:=by
 unfold zR;by_cases hc:c<n
 ·rw[if_pos hc,if_pos (by omega)]
 ·rw[if_neg hc,if_neg (by omega)]
theorem Ko{x:Hs}{lev n:Nat}{l:List Pr}:zR x lev l (n+1) n=part x lev n l:=if_pos (by omega)
theorem Kl{x:Hs}{lev n:Nat}{l:List Pr}:zR x lev l n n= []:=if_neg (by omega)
structure DOf(W:Nat→Prop)(x:Hs)(lev m:Nat)(h0 h:ae)(l:List Pr)(n:Nat)(kk:Nat→Option Addr):Prop where
 blk:h[h0.size]? =some (.cells (dC (dF false ⟨none,0,0⟩ (zR x lev l n) kk)).toArray iZ (0,0))
 upd:Upd No h0 h
 kid:∀c,c<n→2≤(part x lev c l).length→∃kb,kk c=some ⟨kb,0,none⟩∧DTrie (fun y=>W y∨y=h0.size) x h m kb (part x lev c l)
theorem YW{bu:Bool}{s:SliceV}{q q':Nat→List Pr}{kk kk':Nat→Option Addr}{i:Nat}(h:i<2):dF bu s q kk i=dF bu s q' kk' i:=by
 unfold dF;by_cases h0:i=0
 ·rw[if_pos h0,if_pos h0]
 ·rw[if_neg h0,if_neg h0,if_pos (by omega),if_pos (by omega)]
section
variable {bu:Bool} {s:SliceV} {q q':Nat→List Pr} {kk kk':Nat→Option Addr} {i:Nat}
theorem Q7(h:2≤i)(h':i<34):dF bu s q kk i=.int .i64 (OY (q (i-2))):=by
 unfold dF;rw[if_neg (by omega),if_neg (by omega),if_pos h']
theorem M6(h:34≤i)(h':i<98)(e:i%2=0):dF bu s q kk i=.string (ES (jc (q ((i-34)/2)))).1:=by
 unfold dF;rw[if_neg (by omega),if_neg (by omega),if_neg (by omega),if_pos h',if_pos e]
theorem M4(h:34≤i)(h':i<98)(e:¬i%2=0):dF bu s q kk i=.string (ES (jc (q ((i-34)/2)))).2:=by
 unfold dF;rw[if_neg (by omega),if_neg (by omega),if_neg (by omega),if_pos h',if_neg e]
theorem M5(h:98≤i):dF bu s q kk i=.pointer (kk (i-98)):=by
 unfold dF;rw[if_neg (by omega),if_neg (by omega),if_neg (by omega),if_neg (by omega)]
theorem Q6{c:Nat}(hc:c<32)(hq:∀j,j≠c→q' j=q j)(hk:∀j,j≠c→kk' j=kk j)(i:Nat):
  dF bu s q' kk' i=if i=2+c then .int .i64 (OY (q' c))else if i=34+c*2 then .string (ES (jc (q' c))).1 else if i=34+c*2+1 then .string (ES (jc (q' c))).2 else if i=98+c then .pointer (kk' c)else dF bu s q kk i:=by
 rcases(show i<2∨(2≤i∧i<34)∨(34≤i∧i<98)∨98≤i by omega)with h|h|h|h
 ·rw[if_neg (by omega),if_neg (by omega),if_neg (by omega),if_neg (by omega)];exact YW h
 ·by_cases e:i=2+c
  ·rw[if_pos e,Q7 h.1 h.2,show i-2=c by omega]
  ·rw[if_neg e,if_neg (by omega),if_neg (by omega),if_neg (by omega),Q7 h.1 h.2,Q7 h.1 h.2,hq _ (by omega)]
 ·rw[if_neg (show ¬i=2+c by omega)]
  by_cases e:(i-34)/2=c
  ·by_cases e2:i%2=0
   ·rw[if_pos (by omega),M6 h.1 h.2 e2,e]
   ·rw[if_neg (by omega),if_pos (by omega),M4 h.1 h.2 e2,e]
  ·rw[if_neg (by omega),if_neg (by omega),if_neg (by omega)]
   by_cases e2:i%2=0
   ·rw[M6 h.1 h.2 e2,M6 h.1 h.2 e2,hq _ e]
   ·rw[M4 h.1 h.2 e2,M4 h.1 h.2 e2,hq _ e]
 ·rw[if_neg (by omega),if_neg (by omega),if_neg (by omega)]
  by_cases e:i=98+c
  ·rw[if_pos e,M5 h,show i-98=c by omega]
  ·rw[if_neg e,M5 h,M5 h,hk _ (by omega)]
end
theorem UF{h:ae}{b i:Nat}{f:Nat→Value}{t:TypeId}{v:Value}{k:ae→Prop}(hb:h[b]? =some (.cells (dC f).toArray t (0,0))) (hi:i<130) (hk:∀h',h'[b]? =some (.cells (dC fun j=>if j=i then v else f j).toArray t (0,0))→Upd (· =b) h h'→k h'):
  Wr h ⟨b,i,none⟩∧At (hset h ⟨b,i,none⟩ v) k:=
 ⟨ii hb (by rw[Q8];exact hi),tD hb fun h' hb' hu=>hk h' (X3▸hb') hu⟩
theorem YU{h:ae}{b i:Nat}{f:Nat→Value}{t:TypeId}{v w:Value}{k:ae→Prop}(hb:h[b]? =some (.cells (dC f).toArray t (0,0))) (hi:i+1<130)
  (hk:∀h',h'[b]? =some (.cells (dC fun j=>if j=i+1 then w else if j=i then v else f j).toArray t (0,0))→Upd (· =b) h h'→k h'):r9 h (some ⟨b,i,none⟩) 0 [v,w]∧At (gG h ⟨b,i,none⟩ 0 [v,w]) k:=by
 refine⟨.inr ⟨_,rfl,fun j hj=>by rw[bX];exact ii hb (by rw[Q8];simp at hj;omega)⟩,bE ?_⟩
 simp only[gG,bX,dU,aM];exact(UF (k:=fun h1=>k (hset h1 ⟨b,i+1,none⟩ w)) hb (by omega) fun h1 hb1 hu1=>(UF (k:=k) hb1 hi fun h2 hb2 hu2=>hk h2 hb2 (hu1.tr hu2)).2).2
set_option maxRecDepth 4000 in
theorem XG{x:Hs}:∀(m:Nat),m≤13→∀{W:Nat→Prop} {h:ae} {s sh:SliceV} {l:List Pr},Sl eg 2 W h s l→(∀y,W y→y<h.size)→Sl (Yg x) 1 No h sh l→l.length≤60000→∀{K:Option Addr→ae→Prop},(∀h' b,DTrie W x h' m b l→Upd No h h'→K (some ⟨b,0,none⟩) h')→
  HC PG BM [.slice s.a s.len s.cap,.slice sh.a sh.len sh.cap,.int .i64 ((13-m:Nat):Int)] [.c .ptr] K h:=by
 intro m;induction m with
 |zero=>
  intro _ W h s sh l hs hW hsh hn K hk;refine Nq s sh ((13-0:Nat):Int) ?_;unfold Hp bM cB ml nv aO aw kZ ij cr dS Ru nf;refine ay.2 (aS fun h1 b1 k1=>?_)
  refine hk h1 h.size ⟨fun hy=>by have:=hW _ hy;omega,s,?_,hs.upd k1 fun _ h=>h.elim⟩ k1
  rw[b1];exact congrArg some (congrArg (fun c=>Obj.cells c iZ (0,0)) (by kernel_rfl))
 |succ m ih=>
  intro hm W h s sh l hs hW hsh hn K hk;have nwh:¬W h.size:=fun hy=>by have:=hW _ hy;omega
  refine Nq s sh ((13-(m+1):Nat):Int) ?_;unfold Hp bM cB ml nv aO aw kZ ij cr dS Ru nf;have e13:(((13-(m+1):Nat):Int)==(13:Int))=false:=by rw[beq_eq_false_iff_ne];omega
  rw[e13];refine aj.2 (aS fun h1 b1 k1=>?_)
  have b1':h1[h.size]? =some (.cells (dC (dF false ⟨none,0,0⟩ (zR x (12-m) l 0) fun _=>none)).toArray iZ (0,0)):=by
   have:zR x (12-m) l 0=fun _=> []:=by funext c;exact if_neg (by omega)
   rw[b1,this];exact congrArg some (congrArg (fun c=>Obj.cells c iZ (0,0)) (by kernel_rfl))
  clear b1;have elev:(13-(m+1):Nat)=12-m:=by omega
  rw[elev];refine LoopP.ghost (fun(g:Nat×(Nat→Option Addr)) (t:Int) h'=>t=(g.1:Int)∧g.1≤32∧DOf W x (12-m) m h h' l g.1 g.2) (fun g=>32-g.1) (0,fun _=>none) ⟨rfl,by omega,b1',k1,fun c hc=>absurd hc (kq _)⟩ ?_
  rintro I ⟨c,kk⟩ t hc ⟨rfl,hc32,hD⟩ hI;simp only at hc32 hD;have s1:=hD.upd.size;have zc:=aZ hD.blk;refine az (fun hlt=>?_) fun hge=>?_
  ·have hlt:c<32:=by have:(c:Int)<32:=hlt;omega
   refine Join.intro (fun(_:Unit) h'=>∃kk',DOf W x (12-m) m h h' l (c+1) kk') (fun R hR=>?_) ?_
   ·
    refine LoopP.ghost (fun(i:Nat) (t:SliceV×SliceV×Int) h'=>t.2.2=(i:Int)∧i≤l.length∧TwoS x hc.size h'.size h' t.1 t.2.1 (part x (12-m) c (l.take i)) (part x (12-m) c (l.take i))∧Upd No hc h') (fun i=>l.length-i) 0 ⟨rfl,aW _,⟨No,No,OwnS.nil fk,OwnS.nil (Us x),fun _ h=>h.elim,fun _ h=>h.elim⟩,Upd.refl _ _⟩ ?_
    rintro I2 i ⟨so,ss,ti⟩ hi ⟨e1,hil,hT,hu⟩ hI2;simp only at e1 hT;subst e1;have hlen:=hs.len;have hlen2:=hsh.len;have s2:=hu.size;have hsi:=(hs.upd hD.upd fun _ h=>h.elim).upd hu fun _ h=>h.elim
    have hshi:=(hsh.upd hD.upd fun _ h=>h.elim).upd hu fun _ h=>h.elim
    refine az (fun hlt2=>?_) fun hge2=>?_
    ·have hlt2:i<l.length:=by have:(i:Int)<(s.len:Int):=hlt2;omega
     have hpl:(part x (12-m) c (l.take i)).length≤60000:=by
      have:=lZ (x:=x) (lev:=12-m) (c:=c) (l:=l.take i);rw[aR]at this;omega
     have hps:part x (12-m) c (l.take (i+1))=if ck x (12-m) l[i].1=c then part x (12-m) c (l.take i)++ [l[i]]else part x (12-m) c (l.take i):=by rw[bo hlt2,Sb]
     refine Join.intro (fun(t:SliceV×SliceV) h'=>TwoS x hc.size h'.size h' t.1 t.2 (part x (12-m) c (l.take (i+1))) (part x (12-m) c (l.take (i+1)))∧Upd No hc h') (fun R2 hR2=>?_) ?_
     ·obtain⟨a,ha,_,hv⟩:=hsi.at (ag hlt2)
      refine⟨⟨by simp only;omega,by simp only;omega⟩,a,ha,_,hv 0 _ rfl,_,hv 1 _ rfl,qo (p:=l[i]) fun h3 b3 k3=>?_⟩
      obtain⟨a',ha',_,hv'⟩:=(hshi.upd k3 fun _ h=>h.elim).at0 (ag hlt2)
      refine⟨⟨by simp only;omega,by simp only;omega⟩,a',ha',_,hv',YD (lev:=12-m) (by omega) ?_⟩
      have hT3:=hT.upd0 k3;have s3:=k3.size;refine CondP.intro (fun e=>?_) fun e=>?_
      ·have e:ck x (12-m) l[i].1=c:=by
        have:((ck x (12-m) l[i].1:Nat):Int)=(c:Int):=by simpa using e
        omega
       rw[if_pos e]at hps;rw[hps]at hR2;have uu:∀{h':ae},Upd (fun b=>hc.size≤b) h3 h'→Upd No hc h':=fun k=>(hu.tr k3).trans k fun y hy=>.inr hy
       have hab:a'.block<h.size:=hsh.lt (fun e=>by rw[e]at hlt2;simp at hlt2) ha'
       have sD:=hD.upd.size;have wide:∀{n:Nat} {h1 h2:ae},hc.size≤h1.size→Upd (fun b=>(hc.size≤b∧b<n)∨h1.size≤b) h1 h2→Upd (fun b=>hc.size≤b) h1 h2:=fun hz k=>k.mono fun y hy=>.inl (hy.elim (fun h=>h.1) fun h=>by omega)
       refine⟨_,vc b3 0,_,vc b3 1,⟨by simp only;omega,by simp only;omega⟩,a',ha',_,hv',?_,?_⟩
       ·refine aS fun h4 b4 k4=>⟨k4.cell0 hv',?_,?_⟩
        ·have s4:=k4.size
         refine⟨_,lI b4,Ya (p:=l[i]) (hT3.upd0 k4) (by omega) (by omega) (by omega) rfl fun s5 h5 hT5 k5=>⟨k5.cell (k4.cell0 hv') (by rw[yX];omega),aS fun h6 b6 k6=>?_⟩⟩
         have s5':=k5.size;have s6:=k6.size;refine⟨_,lI b6,appB (p:=l[i]) (hT5.upd0 k6) (by omega) (by omega) (by omega) rfl fun s7 h7 hT7 k7=>?_⟩
         exact hR2 _ _ ⟨hT7,uu (((k4.wide.tr (wide (by omega) k5)).tr k6.wide).tr (wide (by omega) k7))⟩
        ·refine aS fun h6 b6 k6=>?_
         have s4:=k4.size;have s6:=k6.size;have z6:=aZ b6;refine⟨_,lI (k6.get0 b4),Ya (p:=l[i]) ((hT3.upd0 k4).upd0 k6) (by omega) (by omega) (by omega) rfl fun s5 h5 hT5 k5=>?_⟩
         have s5':=k5.size;refine⟨_,lI (k5.get b6 (by omega)),appB (p:=l[i]) hT5 (by omega) (by omega) (by omega) rfl fun s7 h7 hT7 k7=>?_⟩
         exact hR2 _ _ ⟨hT7,uu (((k4.wide.tr k6.wide).tr (wide (by omega) k5)).tr (wide (by omega) k7))⟩
       ·refine aS fun h4 b4 k4=>⟨⟨vc (k4.get0 b3) 0,vc (k4.get0 b3) 1⟩,aS fun h6 b6 k6=>?_⟩
        have s4:=k4.size;have s6:=k6.size;have z4:=aZ b4;refine⟨_,lI b6,Ya (p:=l[i]) ((hT3.upd0 k4).upd0 k6) (by omega) (by omega) (by omega) rfl fun s5 h5 hT5 k5=>?_⟩
        have s5':=k5.size;refine⟨_,lI (k5.get (k6.get0 b4) (by omega)),appB (p:=l[i]) hT5 (by omega) (by omega) (by omega) rfl fun s7 h7 hT7 k7=>?_⟩
        exact hR2 _ _ ⟨hT7,uu (((k4.wide.tr k6.wide).tr (wide (by omega) k5)).tr (wide (by omega) k7))⟩
      ·have e:¬ck x (12-m) l[i].1=c:=fun e'=>by
        have:¬((ck x (12-m) l[i].1:Nat):Int)=(c:Int):=by simpa using e
        omega
       rw[if_neg e]at hps;rw[hps]at hR2;obtain⟨A,B,q1,q2,q3,q4⟩:=hT3;exact hR2 _ _ ⟨⟨A,B,q1,q2,fun b hb=>⟨(q3 b hb).1,by have:=(q3 b hb).2.1;omega,(q3 b hb).2.2⟩,fun b hb=>⟨(q4 b hb).1,by have:=(q4 b hb).2;omega⟩⟩,hu.tr k3⟩
     ·rintro⟨so',ss'⟩ h' ⟨hT',hu'⟩
      simp only;rw[cS hlt2 (by omega)];exact hI2 (i+1) _ _ ⟨rfl,hlt2,hT',hu'⟩ (by omega)
    ·have hil':i=l.length:=by have:¬(i:Int)<(s.len:Int):=hge2;omega
     subst hil';rw[cd]at hT;have hDi:h.size<hi.size:=by omega
     have hbi:=hu.get0 hD.blk;have hki:∀c',c'<c→2≤(part x (12-m) c' l).length→∃kb,kk c'=some ⟨kb,0,none⟩∧DTrie (fun y=>W y∨y=h.size) x hi m kb (part x (12-m) c' l):=fun c' h1 h2=>let⟨kb,h3,h4⟩:=hD.kid c' h1 h2;⟨kb,h3,DTrie.upd hu (fun _ h=>h.elim) h4⟩
     obtain⟨A,B,hA,hB,hA',hB'⟩:=hT;have hsA:Sl eg 2 (fun y=>W y∨y=h.size) hi so (part x (12-m) c l):=hA.sl fun y hy _ hw=>by
      have:=(hA' y hy).1;rcases hw with hw|hw
      ·have:=hW y hw;omega
      ·omega
     have hsB:Sl (Yg x) 1 No hi ss (part x (12-m) c l):=hB.sl fun _ _ _ h=>h
     have hq:=hsA.len;have hpl:(part x (12-m) c l).length≤l.length:=lZ;have hU:=hD.upd.tr hu;refine Join.plain ?_;refine CondP.intro (fun e=>?_) fun e=>?_
     ·
      have e:so.len=1:=by
       have:((so.len:Nat):Int)=1:=by simpa using e
       omega
      have hone:(part x (12-m) c l).length=1:=by omega
      obtain⟨p,hp⟩:=List.length_eq_one_iff.1 hone;rw[hp]at hsA;obtain⟨a,ha,_,hv⟩:=hsA.at (i:=0) (x:=p) rfl;refine⟨⟨by decide,by simp only;omega⟩,a,ha,_,hv 0 _ rfl,_,hv 1 _ rfl,_,rfl,⟨by omega,by omega⟩,_,rfl,?_⟩
      have ew:((c:Int).toNat*1)=c:=by omega
      have ew2:((c:Int).toNat*2)=c*2:=by omega
      simp only[ew,ew2,cV h,bX,aM];refine UF hbi (by omega) fun h3 b3 u3=>⟨⟨by omega,by omega⟩,YU b3 (by omega) fun h4 b4 u4=>az (fun hl=>by omega) fun _=>?_⟩
      have u34:Upd (· =h.size) hi h4:=u3.tr u4
      refine hR _ _ ⟨kk,?_,hU.own u34 (aq _),fun c' h1 h2=>?_⟩
      ·rw[b4]
       refine congrArg some (congrArg (fun c=>Obj.cells c iZ (0,0)) (K9 fun j hj=>?_))
       rw[Q6 (q:=zR x (12-m) l c) (q':=zR x (12-m) l (c+1)) (kk:=kk) hlt (fun j hj=>Km hj) (fun _ _=>rfl),Ko,hp]
       have e1:OY [p]=1:=rfl;have e2:ES (jc [p])=p:=rfl;rw[e1,e2];by_cases q1:j=2+c
       ·rw[if_neg (by omega),if_neg (by omega),if_pos q1,if_pos q1]
       ·by_cases q2:j=34+c*2
        ·rw[if_neg (by omega),if_pos q2,if_neg q1,if_pos q2]
        ·by_cases q3:j=34+c*2+1
         ·rw[if_pos q3,if_neg q1,if_neg q2,if_pos q3]
         ·rw[if_neg q3,if_neg q2,if_neg q1,if_neg q1,if_neg q2,if_neg q3]
          by_cases q4:j=98+c
          ·rw[if_pos q4,M5 (by omega),show j-98=c by omega]
          ·rw[if_neg q4]
      ·rcases bT c' c with hh|hh
       ·obtain⟨kb,h3',h4'⟩:=hki c' hh h2
        exact⟨kb,h3',DTrie.upd u34 (fun y hy=>.inl (.inr hy)) h4'⟩
       ·rw[show c'=c by omega,hone]at h2;omega
     ·have e:¬so.len=1:=fun e'=>by
       have:¬((so.len:Nat):Int)=1:=by simpa using e
       omega
      refine az (fun hgt=>?_) fun hle=>?_
      ·
       have hgt:2≤(part x (12-m) c l).length:=by have:(so.len:Int)>1:=hgt;omega
       refine⟨_,rfl,_,rfl,?_⟩;have e14:IntKind.wrap .i64 (((12-m:Nat):Int)+1)=((13-m:Nat):Int):=by rw[gD (by omega)];omega
       rw[e14];refine ih (by omega) hsA (fun y hy=>hy.elim (fun hy=>by have:=hW y hy;omega) fun hy=>by omega) hsB (by omega) fun h2 kb tk k2=>⟨⟨by omega,by omega⟩,?_⟩
       have ew:((c:Int).toNat*1)=c:=by omega
       simp only[ew,cV h,bX,aM];refine UF (k2.get0 hbi) (by omega) fun h3 b3 u3=>⟨⟨by omega,by omega⟩,UF b3 (by omega) fun h4 b4 u4=>?_⟩
       have u34:Upd (· =h.size) h2 h4:=u3.tr u4
       refine hR _ _ ⟨fun j=>if j=c then some ⟨kb,0,none⟩else kk j,?_,(hU.tr k2).own u34 (aq _),fun c' h1 h2=>?_⟩
       ·rw[b4]
        refine congrArg some (congrArg (fun c=>Obj.cells c iZ (0,0)) (K9 fun j hj=>?_))
        rw[Q6 (q:=zR x (12-m) l c) (q':=zR x (12-m) l (c+1)) (kk:=kk) hlt (fun j hj=>Km hj) (fun _ hj=>if_neg hj),Ko]
        have e1:OY (part x (12-m) c l)=2:=by unfold OY;rw[if_neg (by omega),if_pos hgt]
        have e2:jc (part x (12-m) c l)=none:=by
         match part x (12-m) c l,hgt with
         |a::b::r,_=>rfl
        rw[e1,e2,if_pos rfl];by_cases q1:j=2+c
        ·rw[if_neg (by omega),if_pos q1,if_pos q1]
        ·by_cases q4:j=98+c
         ·rw[if_pos q4,if_neg q1,if_neg (by omega),if_neg (by omega),if_pos q4]
         ·rw[if_neg q4,if_neg q1,if_neg q1]
          by_cases q2:j=34+c*2
          ·rw[if_pos q2,M6 (by omega) (by omega) (by omega),show(j-34)/2=c by omega,Kl];rfl
          ·rw[if_neg q2]
           by_cases q3:j=34+c*2+1
           ·rw[if_pos q3,M4 (by omega) (by omega) (by omega),show(j-34)/2=c by omega,Kl];rfl
           ·rw[if_neg q3,if_neg q4]
       ·rcases bT c' c with hh|hh
        ·obtain⟨kb',h3',h4'⟩:=hki c' hh h2
         exact⟨kb',by rw[if_neg (by omega)];exact h3',DTrie.upd u34 (fun y hy=>.inl (.inr hy)) (DTrie.upd k2 (fun _ h=>h.elim) h4')⟩
        ·obtain rfl:c'=c:=by omega
         exact⟨kb,if_pos rfl,DTrie.upd u34 (fun y hy=>.inl (.inr hy)) tk⟩
      ·
       have hnil:part x (12-m) c l= []:=List.length_eq_zero_iff.1 (by have:¬(so.len:Int)>1:=hle;omega);refine hR _ _ ⟨kk,?_,hU,fun c' h1 h2=>?_⟩
       ·rw[hbi]
        refine congrArg some (congrArg (fun c=>Obj.cells c iZ (0,0)) (K9 fun j hj=>?_))
        have:zR x (12-m) l (c+1)=zR x (12-m) l c:=by
         funext j;by_cases hj:j=c
         ·rw[hj,Ko,Kl,hnil]
         ·exact Km hj
        rw[this]
       ·rcases bT c' c with hh|hh
        ·exact hki c' hh h2
        ·rw[show c'=c by omega,hnil]at h2;simp at h2
   ·rintro _ h' ⟨kk',hD'⟩
    rw[cS hlt (by omega)];exact hI (c+1,kk') _ _ ⟨rfl,hlt,hD'⟩ (by simp only;omega)
  ·obtain rfl:c=32:=by have:¬(c:Int)<32:=hge;omega
   refine hk hc h.size ⟨nwh,kk,?_,fun c hc hp=>let⟨kb,h3,h4⟩:=hD.kid c hc hp;⟨kb,h3,DTrie.less (fun _ h=>.inl h) h4⟩⟩ hD.upd
   rw[hD.blk];refine congrArg some (congrArg (fun c=>Obj.cells c iZ (0,0)) (K9 fun i hi=>?_))
   have:∀c,c<32→zR x (12-m) l 32 c=part x (12-m) c l:=fun c hc=>if_pos hc
   unfold dF;by_cases h0:i<34
   ·by_cases h1:i=0
    ·rw[if_pos h1,if_pos h1]
    ·by_cases h2:i=1
     ·rw[if_neg h1,if_neg h1,if_pos h2,if_pos h2]
     ·rw[if_neg h1,if_neg h1,if_neg h2,if_neg h2,if_pos h0,if_pos h0,this _ (by omega)]
   ·rw[if_neg (show ¬i=0 by omega),if_neg (show ¬i=0 by omega),if_neg (show ¬i=1 by omega),if_neg (show ¬i=1 by omega),if_neg h0,if_neg h0]
    by_cases h3:i<98
    ·rw[if_pos h3,if_pos h3,this _ (by omega)]
    ·rw[if_neg h3,if_neg h3]
end Go.Proofs
namespace Go.Proofs
open Go Go.Lift
theorem TV{x:Hs}{h:ae}{s:SliceV}{l:List Pr}(hs:Sl eg 2 No h s l)(hn:l.length≤60000)(hk1:∀p∈l,p.1.size≤1000000){K:Option Addr→ae→Prop}(hk:∀h' b,DTrie No x h' 13 b l→Upd No h h'→K (some ⟨b,0,none⟩) h'):
  HC PG Gy [.agg #[.int .u64 x.k0,.int .u64 x.k1,.int .u64 x.mask],.slice s.a s.len s.cap,.int .i64 0] [.c .ptr] K h:=by
 refine Vf (x.k0,x.k1,x.mask) s 0 ?_;unfold NE cB af nv zt vr aO aw kZ ij eW Ru;refine aS fun h1 b1 k1=>?_
 have hlen:=hs.len;refine LoopP.ghost (fun(i:Nat) (t:SliceV×Int) h'=>t.2=(i:Int)∧i≤l.length∧OwnS (Yg x) 1 pv (fun b=>h1.size≤b) h' t.1 (l.take i)∧Upd No h1 h') (fun i=>l.length-i) 0 ⟨rfl,aW _,OwnS.nil (Us x),Upd.refl _ _⟩ ?_
 rintro I i ⟨so,ti⟩ h' ⟨e1,hi,ho,hu⟩ hI;simp only at e1 ho;subst e1;have hs':=(hs.upd k1 fun _ h=>h.elim).upd hu fun _ h=>h.elim
 refine az (fun hlt=>?_) fun hge=>?_
 ·have hlt:i<l.length:=by have:(i:Int)<(s.len:Int):=hlt;omega
  refine Join.plain ?_;obtain⟨a,ha,_,hv⟩:=hs'.at (ag hlt);refine⟨⟨by simp only;omega,by simp only;omega⟩,a,ha,_,hv 0 _ rfl,_,hv 1 _ rfl,qo (p:=l[i]) fun h2 b2 k2=>?_⟩
  have c1:=k2.get0 (hu.get0 b1);refine⟨_,vc c1 0,_,vc c1 1,_,vc c1 2,_,vc b2 0,TX (by have:=hk1 _ (bw hlt);omega) fun h3 k3=>aS fun h4 b4 k4=>⟨_,lI b4,?_⟩⟩
  have s4:=((hu.tr k2).tr k3).tr k4;refine AppP.own (M:=fun b=>h1.size≤b) (ys:= [l[i]]) (((ho.upd k2 fun _ _ h=>h).upd k3 fun _ _ h=>h).upd k4 fun _ _ h=>h) rfl rfl rfl rfl (by omega) (by simp only[aI,aR];omega) s4.size fun s5 h5 ho5 hu5=>?_
  simp only;rw[cS hlt (by omega)];refine hI (i+1) _ _ ⟨rfl,hlt,?_,s4.trans hu5 fun y hy=>.inr hy⟩ (by omega)
  rw[bo hlt];exact ho5
 ·have hil:i=l.length:=by have:¬(i:Int)<(s.len:Int):=hge;omega
  subst hil;rw[cd]at ho;exact XG 13 (aq _) hs' (fun _ h=>h.elim) (ho.sl fun _ _ _ h=>h) hn fun h2 b td k2=>hk h2 b td ((k1.tr hu).tr k2)
theorem IK(n:Nat):IntKind.wrap .u8 (n:Int)=((UInt8.ofNat n).toNat:Int):=by rw[IntKind.wrap_u8];simp
theorem Fa{n:Nat}(hn:n≤1000000000){h:ae}{K:SliceV→ae→Prop}(hk:∀s' h',OwnS pu 1 cH (fun y=>h.size≤y) h' s' (mW n 2)→Upd No h h'→K s' h'):HC PG sP [.int .i64 (n:Int)] [.c .slice] K h:=by
 refine SW (n:Int) ?_;unfold J0 VB;have e1:lj (n:Int) 256=((n>>>(8*1):Nat):Int):=by rw[fC (by omega),cI];rfl
 have hle:n>>>(8*1)≤n:=iW ..;rw[e1,gD (by generalize n>>>(8*1)=y at hle;omega),IK,IK];refine⟨by decide,aS fun h1 b1 k1=>hk _ h1 ⟨rfl,tC,aq _,.inr ⟨h.size,[],rfl,aq _,b1,rfl⟩⟩ k1⟩
theorem Mn{n:Nat}(hn:n<4294967296){h:ae}{K:SliceV→ae→Prop}(hk:∀s' h',OwnS pu 1 cH (fun y=>h.size≤y) h' s' (mW n 4)→Upd No h h'→K s' h'):HC PG wN [.int .u32 (n:Int)] [.c .slice] K h:=by
 refine PL (n:Int) ?_;unfold Ho Ym;have q:∀k:Nat,((n>>>k:Nat):Int)<4294967296:=fun k=>by have:n>>>k≤n:=iW ..;generalize n>>>k=y at this;omega
 have e1:lj (n:Int) 256=((n>>>(8*1):Nat):Int):=by rw[fC (by omega),cI];rfl
 have e2:lj (n:Int) 65536=((n>>>(8*2):Nat):Int):=by rw[fC (by omega),cI];rfl
 have e3:lj (n:Int) 16777216=((n>>>(8*3):Nat):Int):=by rw[fC (by omega),cI];rfl
 have w:∀k:Nat,IntKind.wrap .u32 ((n>>>k:Nat):Int)=((n>>>k:Nat):Int):=fun k=>by have:=q k;generalize n>>>k=y at this;rw[IntKind.wrap_u32];omega
 rw[e1,e2,e3,w,w,w,IK,IK,IK,IK];refine⟨by decide,by decide,by decide,aS fun h1 b1 k1=>hk _ h1 ⟨rfl,tC,aq _,.inr ⟨h.size,[],rfl,aq _,b1,rfl⟩⟩ k1⟩
theorem yp{M W:Nat→Prop}{h:ae}{so e:SliceV}{out ys:List UInt8}{K:SliceV→ae→Prop}(ho:OwnS pu 1 cH M h so out)(he:Sl pu 1 W h e ys)(hM:∀b,h.size≤b→M b)(hn:out.length+ys.length≤140737488355328)
  (hk:∀s' h',OwnS pu 1 cH M h' s' (out++ys)→Upd M h h'→K s' h'):∃xs,SRow h e.a (e.len*1) xs∧AppP (some [.int .u8 0]) 1 1 cH so.a so.len so.cap e.len xs h K:=
 ⟨_,he.srow,AppP.own (ys:=ys) ho he.len rfl (Bq _) rfl (by omega) (by omega) (hM _ (aq _)) hk⟩
theorem Bo{b:ByteArray}(hb:b.size≤1000000){h:ae}{K:SliceV→ae→Prop}(hk:∀s' h',OwnS pu 1 cH (fun y=>h.size≤y) h' s' (om b)→Upd No h h'→K s' h'):HC PG qE [.string b] [.c .slice] K h:=by
 refine PJ b ?_;unfold Hl;refine Fa (by omega) fun s1 h1 ho1 k1=>?_
 intro c hc;have k2:=Upd.push No h1 (.cells (eH b++gQ (c-b.size) (Value.int .u8 0)).toArray cH (c,c+1));have b2:=xN h1 (.cells (eH b++gQ (c-b.size) (Value.int .u8 0)).toArray cH (c,c+1));generalize h1.push (.cells (eH b++gQ (c-b.size) (Value.int .u8 0)).toArray cH (c,c+1))=h2 at k2 b2;have hl:b.data.toList.length=b.size:=by simp
 have hsl:Sl pu 1 No h2 ⟨some (aE h1),b.size,c⟩ b.data.toList:=by
  refine⟨by simp,tC,fun _=>⟨_,rfl,id,ng b2 fun i v hv=>?_⟩⟩
  rw[aM,fY,yo,List.getElem?_append_left (List.getElem?_eq_some_iff.1 hv).1];exact hv
 have s1':=k1.size;have s2:=k2.size;refine yp (ho1.upd k2 fun _ _ h=>h) hsl (fun y hy=>by show h.size≤y;omega) (by rw[dI];omega) fun s3 h3 ho3 k3=>hk s3 h3 ho3 ((k1.tr k2).trans k3 fun y hy=>.inr hy)
theorem Dc{W:Nat→Prop}{h:ae}{s:SliceV}{l:List Pr}(hs:Sl eg 2 W h s l)(hf:Fit l)(hn:l.length≤60000){K:SliceV→ae→Prop}(hk:∀s' h',OwnS pu 1 cH (fun y=>h.size≤y) h' s' (le l)→Upd No h h'→K s' h'):
  HC PG rp [.slice s.a s.len s.cap] [.c .slice] K h:=by
 refine Nn s ?_;unfold EA cB nv aO aw kZ ij;have hlen:=hs.len;refine LoopP.ghost (fun(i:Nat) (t:SliceV×Int) h'=>t.2=(i:Int)∧i≤l.length∧OwnS pu 1 cH (fun b=>h.size≤b) h' t.1 (le (l.take i))∧Upd No h h') (fun i=>l.length-i) 0 ⟨rfl,aW _,OwnS.nil tC,Upd.refl _ _⟩ ?_
 rintro I i ⟨so,ti⟩ h' ⟨e1,hi,ho,hu⟩ hI;simp only at e1 ho;subst e1;refine az (fun hlt=>?_) fun hge=>?_
 ·have hlt:i<l.length:=by have:(i:Int)<(s.len:Int):=hlt;omega
  refine Join.plain ?_;obtain⟨a,ha,_,hv⟩:=(hs.upd hu fun _ h=>h.elim).at (ag hlt)
  have hfi:=hf l[i] (bw hlt);have htl:=mS (l:=l.take i) fun q hq=>hf q (List.mem_of_mem_take hq)
  rw[aR,Nat.min_eq_left hi]at htl;have h1:=jI l[i].1;have h2:=jI l[i].2;refine⟨⟨by simp only;omega,by simp only;omega⟩,a,ha,_,hv 0 _ rfl,_,hv 1 _ rfl,qo (p:=l[i]) fun h2 b2 k2=>?_⟩
  refine⟨_,vc b2 0,_,vc b2 1,Bo (by omega) fun s3 h3 ho3 k3=>⟨vc (k3.get0 b2) 1,?_⟩⟩
  have u3:=(hu.tr k2).tr k3;have s2:=aZ b2;have s2':=k2.size;have s3':=k3.size;have s0:=hu.size;refine yp (M:=fun y=>h.size≤y∧y≠h'.size) (((ho.within.upd k2 fun _ _ h=>h).upd k3 fun _ _ h=>h).more fun y hy=>⟨hy.1,by omega⟩) (ho3.sl (W:=No) fun _ _ _ h=>h) (fun y hy=>by omega) (by omega) fun s4 h4 ho4 k4=>⟨vc (k4.get (k3.get0 b2) (by omega)) 1,?_⟩
  have s4':=k4.size;refine Bo (by omega) fun s5 h5 ho5 k5=>?_
  have s5':=k5.size;refine yp (M:=fun y=>h.size≤y) ((ho4.upd k5 fun _ _ h=>h).more fun y hy=>hy.1) (ho5.sl (W:=No) fun _ _ _ h=>h) (fun y hy=>by show h.size≤y;omega) (by rw[ac];omega) fun s6 h6 ho6 k6=>?_
  simp only;rw[cS hlt (by omega)];refine hI (i+1) _ _ ⟨rfl,hlt,?_,(((u3.trans k4 fun y hy=>.inr hy.1)).tr k5).trans k6 fun y hy=>.inr hy⟩ (by omega)
  rw[Ea hlt,Eb,←List.append_assoc];exact ho6
 ·have hil:i=l.length:=by have:¬(i:Int)<(s.len:Int):=hge;omega
  subst hil;rw[cd]at ho;exact hk _ _ ho hu
theorem RV{W W':Nat→Prop}{h:ae}{s s':SliceV}{l:List UInt8}(hs:Sl pu 1 W h s l)(hs':Sl pu 1 W' h s' l)(hn:l.length≤1000000000000){K:Bool→ae→Prop}(hk:K true h):HC PG Ax [.slice s.a s.len s.cap,.slice s'.a s'.len s'.cap] [.c .bool] K h:=by
 refine PK s s' ?_;unfold Hm bM cB;have h1:=hs.len;have h2:=hs'.len;rw[h1,h2,bne_self_eq_false];refine aj.2 ?_;refine LoopP.ghost (fun(i:Nat) (t:Int) h'=>t=(i:Int)∧i≤l.length∧h'=h) (fun i=>l.length-i) 0 ⟨rfl,aW _,rfl⟩ ?_
 rintro I i t h' ⟨rfl,hi,rfl⟩ hI;refine az (fun hlt=>?_) fun _=>hk
 have hlt:i<l.length:=by omega
 obtain⟨a,ha,_,hv⟩:=hs.at0 (ag hlt);obtain⟨a',ha',_,hv'⟩:=hs'.at0 (ag hlt);refine⟨⟨by omega,by omega⟩,a,ha,_,hv,⟨by omega,by omega⟩,a',ha',_,hv',?_⟩
 rw[bne_self_eq_false];refine aj.2 ?_;rw[cS hlt (by omega)];exact hI (i+1) _ _ ⟨rfl,hlt,rfl⟩ (by omega)
end Go.Proofs
