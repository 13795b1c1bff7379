/- A part of the proof that the named laws of this program answer true, whatever the input. -/
import Derived.Test.YtncppacbfagpgaaGreatDoorPart6
import Derived.Test.YtncppacbfagpgaaGreatDoorPart4
import Derived.Test.YtncppacbfagpgaaGreatDoorPart2
import Derived.Test.YtncppacbfagpgaaGreatDoorPart3
import Derived.Test.YtncppacbfagpgaaGreatDoorPart5
open Int renaming eq_ofNat_of_zero_le→nm,tdiv→lF,tdiv_eq_ediv_of_nonneg→eS,toNat_natCast→aP
open List renaming getElem?_toArray→fk,length_singleton→aC,append_nil→aW,length_take→aK,take_succ_eq_append_getElem→bv,getElem?_eq_getElem→af,take_length→bW,getElem_mem→bI,replicate→fW,append_assoc→aq,cons_append→dN,cons→fp,take_succ_cons→dI,length_cons→ax,take_append_drop→aF,length→dT,length_drop→aS,length_nil→aZ,pairwise_append→ci,mem_append_left→du,mem_append_right→eE,mem_cons_self→ar,mem_of_getLast?→gI,mem_cons→aA,pairwise_cons→aX,mem_append→bV,mem_singleton→aB
open List.Pairwise renaming nil→cE
open Nat renaming zero_le→aR,le_refl→ao,add_zero→cU,shiftRight_le→gQ,shiftRight_eq_div_pow→cA,zero_add→aD,lt_or_ge→bN,min_eq_left→bA
namespace Go.Proofs
open Go Go.Lift
abbrev Rg(x:Int):Prop:=0≤x∧x<18446744073709551616
theorem OE(x n:Int):Rg (Bv x n):=yI _
theorem rr(x n:Int):Rg (dz x n):=yI _
theorem N1(x n:Int):Rg (N2 x n):=yI _
theorem uY{x:Int}(hx:Rg x){n:Nat}(hn:n<64){h:ad}{K:Int→ad→Prop}(hk:K (Bv x n) h):HC PG lx [.int .u64 x,.int .i64 (n:Int)] [.c (.int .u64)] K h:=by
 obtain⟨X,rfl⟩:=nm hx.1;have hX:X<18446744073709551616:=by have:=hx.2;omega
 rw[OF hn hX]at hk;refine JI X n ?_;unfold CJ;refine LoopP.ghost (fun(i:Nat) (t:Int×Int) h'=>t=(((Bw i X:Nat):Int),(i:Int))∧i≤n∧h'=h) (fun i=>n-i) 0 ⟨rfl,aR _,rfl⟩ ?_
 rintro I i t h' ⟨rfl,hi,rfl⟩ hI;refine aE (fun hlt=>?_) fun hge=>?_
 ·have hlt:i<n:=by have:(i:Int)<(n:Int):=hlt;omega
  have hr:=OG i hX;refine⟨by decide,?_⟩;have e:IntKind.wrap .u64 (IntKind.wrap .u64 (((Bw i X:Nat):Int)*2)+IntKind.wrap .u64 (lF ((Bw i X:Nat):Int) 9223372036854775808))=((Bw (i+1) X:Nat):Int):=by
   show _=((Ih (Bw i X):Nat):Int)
   unfold Ih;rw[eS (by omega),IntKind.wrap_u64,IntKind.wrap_u64,IntKind.wrap_u64];omega
  simp only[Bd];rw[e,cp hlt (by omega)];exact hI (i+1) _ _ ⟨rfl,hlt,rfl⟩ (by omega)
 ·obtain rfl:i=n:=by have:¬(i:Int)<(n:Int):=hge;omega
  exact hk
theorem rU{s:Q4}(h1:Rg s.2.1)(h3:Rg s.2.2.2){h:ad}{K:Q4→ad→Prop}(hk:∀h',Upd No h h'→K (jS s) h'):HC PG jN [.agg #[.int .u64 s.1,.int .u64 s.2.1,.int .u64 s.2.2.1,.int .u64 s.2.2.2]] [.agg [.int .u64,.int .u64,.int .u64,.int .u64]] K h:=by
 refine Ht s ?_;unfold Aj cf dd ae cJ ii nn K8 Lb Ng;refine aG fun h1' b1 k1=>aG fun h2 b2 k2=>?_
 have c1:=k2.get0 b1;have s1:=k1.size;refine⟨by decide,_,vc c1 0,by decide,_,vc c1 1,by decide,_,vc c1 2,by decide,_,vc c1 3,?_⟩
 refine uY (n:=13) h1 (by omega) (uY (n:=32) (N1 _ _) (by omega) (uY (n:=16) h3 (by omega) (uY (n:=21) (rr _ _) (by omega) (uY (n:=17) (rr _ _) (by omega) (uY (n:=32) (N1 _ _) (by omega) ?_)))));refine bo b2 (by rfl) fun h3' b3 u3=>?_
 refine⟨_,vc b3 0,_,vc b3 1,_,vc b3 2,_,vc b3 3,?_⟩;exact hk h3' ((k1.tr k2).own u3 (by omega))
abbrev Rq(q:Q4):Prop:=Rg q.1∧Rg q.2.1∧Rg q.2.2.1∧Rg q.2.2.2
theorem un(s:Q4):Rq (jS s):=⟨N1 _ _,rr _ _,OE _ _,rr _ _⟩
theorem MM(m:Int)(s:Q4):Rq (pL m s):=⟨rr _ _,(un _).2⟩
theorem Qt{s:ByteArray}{i:Nat}(h:i<s.size):∃b:UInt8,s[i]? =some b∧CU s i=b.toNat:=⟨s[i],getElem?_pos s i h,by unfold CU;rw[dif_pos h]⟩
theorem NL{n:Nat}{s:ByteArray}{a:Nat}{q:Q4}(h:s.size≤a+n)(hc:a+8≤s.size):∃m,nJ n s a q=nJ m s (a+8) (pL (hv s a 8:Nat) q)∧s.size≤a+8+m:=by
 cases n with
 |zero=>omega
 |succ n=>exact⟨n,if_pos hc,by omega⟩
theorem Jg{n:Nat}{s:ByteArray}{a:Nat}{q:Q4}(hc:s.size<a+8):nJ n s a q=(a,q):=by
 cases n with
 |zero=>rfl
 |succ n=>exact if_neg (by omega)
theorem OJ{k0 k1:Int}{s:ByteArray}(hs:s.size≤1000000000){h:ad}{K:Int→ad→Prop}(hk:∀h',Upd No h h'→K (H1 k0 k1 s) h'):HC PG y8 [.int .u64 k0,.int .u64 k1,.string s] [.c (.int .u64)] K h:=by
 rw[OB]at hk;refine Me k0 k1 s ?_;unfold Ev cf dd ae cJ nv dL K8 Lb PW LL Ng xM;simp only[Bd,show((0:Int)).toNat*1=0 from rfl,show((1:Int)).toNat*1=1 from rfl,show((2:Int)).toNat*1=2 from rfl,show((3:Int)).toNat*1=3 from rfl]
 have eq0:∃q0:Q4,q0=(dz k0 8317987319222330741,dz k1 7237128888997146477,dz k0 7816392313619706465,dz k1 8387220255154660723):=⟨_,rfl⟩;obtain⟨q0,e0⟩:=eq0;rw[←e0]at hk;have hq0:Rq q0:=by rw[e0];exact⟨rr _ _,rr _ _,rr _ _,rr _ _⟩
 refine aG fun h1 b1 k1=>?_
 refine bo b1 (by rfl) fun h2 b2 u2=>?_
 have b2':h2[h.size]? =some (.cells (q4 q0) sJ (0,0)):=by rw[e0];exact b2
 clear b2 e0;have hex:∃G:Nat×Q4,G=nJ s.size s 0 q0:=⟨_,rfl⟩;obtain⟨G,eG⟩:=hex;rw[←eG]at hk;simp only at hk;refine LoopP.ghost (fun(g:Nat×Q4) (t:Int) h'=>t=(g.1:Int)∧h'[h.size]? =some (.cells (q4 g.2) sJ (0,0))∧Upd No h h'∧Rq g.2∧
  ((∃n,nJ n s g.1 g.2=G∧s.size≤g.1+n∧g.1≤s.size)∨(s.size<g.1∧g.2=pL ((hv s G.1 8+s.size%256*72057594037927936:Nat):Int) G.2))) (fun g=>s.size+1-g.1) (0,q0) ⟨rfl,b2',k1.own u2 (ao _),hq0,.inl ⟨s.size,eG.symm,by omega,aR _⟩⟩ ?_
 rintro I ⟨a,q⟩ t h' ⟨rfl,hb,hu,hq,hst⟩ hI;simp only at hb hq hst;refine aE (fun hle=>?_) fun hgt=>?_
 ·have hle:a≤s.size:=by omega
  obtain⟨n,hdoc,hn,_⟩:=hst.resolve_right fun h=>by omega
  refine LoopP.ghost (fun(j:Nat) (t:Int×Int) h''=>t=(((hv s (a+(8-j)) j:Nat):Int),(7:Int)-(j:Int))∧j≤8∧h''=h') (fun j=>8-j) 0 ⟨rfl,by omega,rfl⟩ ?_
  rintro I2 j t h'' ⟨rfl,hj,rfl⟩ hI2;refine aE (fun hge=>?_) fun hlt=>?_
  ·have hj7:j≤7:=by have:(7:Int)-(j:Int)≥0:=hge;omega
   have ei:IntKind.wrap .i64 ((a:Int)+(7-(j:Int)))=((a+(7-j):Nat):Int):=by rw[jm (by omega)];omega
   have hl1:=D9 s (j+1) (a+(8-(j+1)));have hp:256^(j+1)≤256^8:=Nat.pow_le_pow_right (by omega) (by omega);have ehv:hv s (a+(8-(j+1))) (j+1)=hv s (a+(8-j)) j*256+CU s (a+(7-j)):=by
    rw[show a+(8-(j+1))=a+(7-j) by omega]
    show hv s (a+(7-j)+1) j*256+_=_
    rw[show a+(7-j)+1=a+(8-j) by omega]
   rw[ehv]at hl1;refine Join.intro (fun t h3=>t=((hv s (a+(8-(j+1))) (j+1):Nat):Int)∧h3=h'') (fun R hR=>?_) ?_
   ·simp only
    rw[ei];refine aE (fun hin=>?_) fun hout=>?_
    ·have hin:a+(7-j)<s.size:=by omega
     obtain⟨b,hb1,hb2⟩:=Qt hin;refine⟨b,by omega,by rw[aP];exact hb1,hR _ _ ⟨?_,rfl⟩⟩
     rw[ehv,hb2,IntKind.wrap_u64,IntKind.wrap_u64,IntKind.wrap_u64];rw[hb2]at hl1;omega
    ·have hz:CU s (a+(7-j))=0:=Ck (by omega)
     refine hR _ _ ⟨?_,rfl⟩;rw[hz]at hl1;rw[ehv,hz,IntKind.wrap_u64];omega
   ·rintro t h3 ⟨rfl,rfl⟩
    simp only;have e7:IntKind.wrap .i64 ((7:Int)-(j:Int)-1)=(7:Int)-((j+1:Nat):Int):=by rw[jm (by omega)];omega
    rw[e7];exact hI2 (j+1) _ _ ⟨rfl,by omega,rfl⟩ (by omega)
  ·obtain rfl:j=8:=by have:¬(7:Int)-(j:Int)≥0:=hlt;omega
   simp only[Nat.sub_self,cU];have h8:=D9 s 8 a;have e8:IntKind.wrap .i64 ((a:Int)+8)=((a+8:Nat):Int):=by rw[jm (by omega)];omega
   rw[e8];refine Join.intro (fun(t:Int) h3=>h3=h''∧∃m:Nat,t=(m:Int)∧((a+8≤s.size∧m=hv s a 8)∨(s.size<a+8∧m=hv s a 8+s.size%256*72057594037927936))) (fun R hR=>?_) ?_
   ·refine aE (fun hin=>?_) fun hout=>?_
    ·have hin:s.size<a+8:=by omega
     have hc:hv s a 8<2^56:=by
      have e:=E9 (s:=s) (d:=1) (c:=7) (p:=a) (by omega);rw[show(7+1:Nat)=8 from rfl]at e
      rw[e];exact D9 s 7 a
     refine⟨by decide,hR _ _ ⟨rfl,_,?_,.inr ⟨hin,rfl⟩⟩⟩;rw[Int.tmod_eq_emod_of_nonneg (by omega),IntKind.wrap_u64,IntKind.wrap_u64,IntKind.wrap_u64];omega
    ·exact hR _ _ ⟨rfl,_,rfl,.inl ⟨by omega,rfl⟩⟩
   ·rintro t h3 ⟨rfl,m,rfl,hm⟩
    refine⟨by decide,_,vc hb 3,by decide,?_⟩
    refine rQ (i:=3) (c':=q4 (q.1,q.2.1,q.2.2.1,dz q.2.2.2 (m:Int))) hb (show 3<4 by decide) rfl fun h4 b4 u4=>?_
    refine⟨_,vc b4 0,_,vc b4 1,_,vc b4 2,_,vc b4 3,?_⟩;refine rU (s:=(q.1,q.2.1,q.2.2.1,dz q.2.2.2 (m:Int))) hq.2.1 (rr _ _) fun h5 k5=>?_
    have hr1:=un (q.1,q.2.1,q.2.2.1,dz q.2.2.2 (m:Int));have et:pL (m:Int) q=(dz (jS (jS (q.1,q.2.1,q.2.2.1,dz q.2.2.2 (m:Int)))).1 m,(jS (jS (q.1,q.2.1,q.2.2.1,dz q.2.2.2 (m:Int)))).2):=rfl;refine rU hr1.2.1 hr1.2.2.2 fun h6 k6=>?_
    obtain⟨r,er⟩:∃r,r=jS (jS (q.1,q.2.1,q.2.2.1,dz q.2.2.2 (m:Int))):=⟨_,rfl⟩;rw[←er]at et⊢;have b6:=k6.get0 (k5.get0 b4);have z6:=aJ b6;refine bo (vs:=(q4 r).toList) b6 rfl fun h7 b7 u7=>?_
    have b7':h7[h.size]? =some (.cells (q4 r) sJ (0,0)):=b7;refine⟨by decide,_,vc b7' 0,by decide,?_⟩
    refine rQ (i:=0) (c':=q4 (dz r.1 m,r.2)) b7' (show 0<4 by decide) rfl fun h8' b8 u8=>?_
    have uu:Upd No h h8':=((((hu.own u4 (ao _)).tr k5).tr k6).own u7 (ao _)).own u8 (ao _);rw[←et]at b8;refine hI (a+8,pL m q) _ _ ⟨rfl,b8,uu,MM _ _,?_⟩ (by simp only;omega);rcases hm with⟨hc,rfl⟩|⟨hc,rfl⟩
    ·obtain⟨n',hd,hn'⟩:=NL hn hc
     exact .inl ⟨n',hd.symm.trans hdoc,hn',hc⟩
    ·refine .inr ⟨by simp only;omega,?_⟩
     have:=Jg (n:=n) (q:=q) hc;rw[hdoc]at this;rw[this]
 ·obtain⟨_,eq⟩:=hst.resolve_left fun⟨_,_,_,h⟩=>by omega
  rw[←eq]at hk;clear eq hst;refine⟨by decide,_,vc hb 2,by decide,?_⟩
  refine rQ (i:=2) (c':=q4 (q.1,q.2.1,dz q.2.2.1 255,q.2.2.2)) hb (show 2<4 by decide) rfl fun h4 b4 u4=>?_
  refine⟨_,vc b4 0,_,vc b4 1,_,vc b4 2,_,vc b4 3,?_⟩;have ef:Pb q=Qp (jS (jS (jS (jS (q.1,q.2.1,dz q.2.2.1 255,q.2.2.2))))):=rfl;rw[ef]at hk;refine rU (s:=(q.1,q.2.1,dz q.2.2.1 255,q.2.2.2)) hq.2.1 hq.2.2.2 fun h5 k5=>?_
  have hr1:=un (q.1,q.2.1,dz q.2.2.1 255,q.2.2.2);obtain⟨r1,er1⟩:∃r,r=jS (q.1,q.2.1,dz q.2.2.1 255,q.2.2.2):=⟨_,rfl⟩;rw[←er1]at hk hr1⊢;clear er1;refine rU hr1.2.1 hr1.2.2.2 fun h6 k6=>?_
  have hr2:=un r1;obtain⟨r2,er2⟩:∃r,r=jS r1:=⟨_,rfl⟩;rw[←er2]at hk hr2⊢;clear er2;refine rU hr2.2.1 hr2.2.2.2 fun h7 k7=>?_
  have hr3:=un r2;obtain⟨r3,er3⟩:∃r,r=jS r2:=⟨_,rfl⟩;rw[←er3]at hk hr3⊢;clear er3;refine rU hr3.2.1 hr3.2.2.2 fun h8 k8=>?_
  obtain⟨r,er⟩:∃r,r=jS r3:=⟨_,rfl⟩;rw[←er]at hk⊢;clear er;have b8:=k8.get0 (k7.get0 (k6.get0 (k5.get0 b4)));refine bo (vs:=(q4 r).toList) b8 rfl fun h9 b9 u9=>?_
  have b9':h9[h.size]? =some (.cells (q4 r) sJ (0,0)):=b9;refine⟨by decide,_,vc b9' 0,by decide,_,vc b9' 1,by decide,_,vc b9' 2,by decide,_,vc b9' 3,?_⟩
  exact hk h9 ((((((hu.own u4 (ao _)).tr k5).tr k6).tr k7).tr k8).own u9 (ao _))
theorem M9{x:Hs}{s:ByteArray}(hs:s.size≤1000000000){h:ad}{K:Int→ad→Prop}(hk:∀h',Upd No h h'→K (hO x s) h'):HC PG wM [.agg #[.int .u64 x.k0,.int .u64 x.k1,.int .u64 x.mask],.string s] [.c (.int .u64)] K h:=by
 refine JF (x.k0,x.k1,x.mask) s ?_;unfold CG ae yE ii PU;refine aG fun h1 b1 k1=>⟨_,vc b1 0,_,vc b1 1,_,vc b1 2,OJ hs fun h2 k2=>⟨vc (k2.get0 b1) 2,?_⟩⟩
 exact hk h2 (k1.tr k2)
theorem Qc{hv:Int}(h0:0≤hv∧hv<18446744073709551616){lev:Nat}(hl:lev<13){h:ad}{K:Int→ad→Prop}(hk:K (((hv.toNat>>>(5*lev))%32:Nat):Int) h):HC PG xS [.int .u64 hv,.int .i64 lev] [.c (.int .i64)] K h:=by
 obtain⟨n,rfl⟩:=nm h0.1;rw[aP]at hk;refine N7 n lev ?_;unfold Hz;refine Join.plain (aE (fun h=>by omega) fun _=>?_)
 rw[decide_eq_false (by omega)];refine al.2 ?_;refine LoopP.ghost (fun(i:Nat) (t:Int×Int) h'=>t=(((n>>>(5*i):Nat):Int),(i:Int))∧i≤lev∧h'=h) (fun i=>lev-i) 0 ⟨rfl,aR _,rfl⟩ ?_
 rintro I i t h' ⟨rfl,hi,rfl⟩ hI;refine aE (fun hlt=>?_) fun hge=>?_
 ·have hlt:i<lev:=by have:(i:Int)<(lev:Int):=hlt;omega
  have hle:n>>>(5*i)≤n:=gQ _ _;have e:n>>>(5*(i+1))=n>>>(5*i)/32:=by rw[Nat.mul_add,Nat.shiftRight_add,cA _ (5*1)]
  have e1:n<18446744073709551616:=by have:=h0.2;omega
  have e2:IntKind.wrap .u64 (lF ((n>>>(5*i):Nat):Int) 32)=((n>>>(5*(i+1)):Nat):Int):=by
   rw[e];generalize n>>>(5*i)=y at hle;rw[eS (by omega),IntKind.wrap_u64];omega
  refine⟨by decide,?_⟩;simp only;rw[e2,cp hlt (by omega)];exact hI (i+1) _ _ ⟨rfl,hlt,rfl⟩ (by omega)
 ·obtain rfl:i=lev:=by have:¬(i:Int)<(lev:Int):=hge;omega
  refine⟨by decide,?_⟩;simp only;generalize n>>>(5*i)=y at hk;rw[Int.tmod_eq_emod_of_nonneg (by omega),jm (by omega)];exact_mod_cast hk
theorem QU{x:Hs}{k:ByteArray}{lev:Nat}(hl:lev<13){h:ad}{K:Int→ad→Prop}(hk:K (ck x lev k:Int) h):HC PG xS [.int .u64 (hO x k),.int .i64 lev] [.c (.int .i64)] K h:=Qc (zR x k) hl hk
end Go.Proofs
namespace Go.Proofs
open Go Go.Lift
def IX(q:List Pr):Int:=if q.length=1 then 1 else if 2≤q.length then 2 else 0
def dF(bu:Bool)(s:SliceV)(q:Nat→List Pr)(kk:Nat→Option Addr)(i:Nat):Value:=
 if i=0 then .bool bu else if i=1 then sv s else if i<34 then .int .i64 (IX (q (i-2)))else if i<98 then(if i%2=0 then .string (Aq (gd (q ((i-34)/2)))).1 else .string (Aq (gd (q ((i-34)/2)))).2)else .pointer (kk (i-98))
def dC(f:Nat→Value):List Value:=(List.range 130).map f
theorem Cc{f:Nat→Value}{i:Nat}(h:i<130):(dC f).toArray[i]? =some (f i):=by
 unfold dC;simp[h]
theorem KU(f:Nat→Value):(dC f).toArray.size=130:=by simp[dC]
theorem Qq{f:Nat→Value}{i:Nat}{v:Value}:(dC f).toArray.setIfInBounds i v=(dC fun j=>if j=i then v else f j).toArray:=by
 unfold dC;apply Array.ext_getElem?;intro j;rw[Array.getElem?_setIfInBounds];simp only[fk,List.getElem?_map,List.size_toArray,List.length_map,List.length_range];by_cases e:i=j
 ·subst e
  by_cases h:i<130
  ·simp[h]
  ·simp[h]
 ·rw[if_neg e]
  by_cases h:j<130
  ·rw[List.getElem?_range h];simp only[Option.map_some];rw[if_neg fun e':j=i=>e e'.symm]
  ·rw[List.getElem?_eq_none (by rw[List.length_range];omega)];rfl
theorem Fi{f g:Nat→Value}(h:∀i,i<130→f i=g i):(dC f).toArray=(dC g).toArray:=by
 unfold dC;rw[List.map_congr_left fun i hi=>h i (List.mem_range.1 hi)]
def DTrie(W:Nat→Prop)(x:Hs)(h:ad):Nat→Nat→List Pr→Prop
 |0,b,l=>¬W b∧∃s,h[b]? =some (.cells (dC (dF true s (fun _=> []) fun _=>none)).toArray gT (0,0))∧Sl eC 2 W h s l
 |m+1,b,l=>¬W b∧∃kk,h[b]? =some (.cells (dC (dF false ⟨none,0,0⟩ (fun c=>part x (12-m) c l) kk)).toArray gT (0,0))∧∀c,c<32→2≤(part x (12-m) c l).length→∃kb,kk c=some ⟨kb,0,none⟩∧DTrie W x h m kb (part x (12-m) c l)
theorem DTrie.upd{W M:Nat→Prop}{x:Hs}{h h':ad}(k:Upd M h h')(hm:∀b,M b→W b∨h.size≤b):∀{m b:Nat} {l:List Pr},DTrie W x h m b l→DTrie W x h' m b l
 |0,b,_,⟨nw,s,h1,h2⟩=>⟨nw,s,k.get h1 fun hb=>(hm b hb).elim nw fun h=>by have:=aJ h1;omega,h2.upd k hm⟩
 |_+1,b,_,⟨nw,kk,h1,h2⟩=>⟨nw,kk,k.get h1 fun hb=>(hm b hb).elim nw fun h=>by have:=aJ h1;omega,fun c hc hp=>let⟨kb,h3,h4⟩:=h2 c hc hp;⟨kb,h3,DTrie.upd k hm h4⟩⟩
theorem DTrie.less{W W':Nat→Prop}{x:Hs}{h:ad}(hm:∀b,W' b→W b):∀{m b:Nat} {l:List Pr},DTrie W x h m b l→DTrie W' x h m b l
 |0,b,_,⟨nw,s,h1,h2⟩=>⟨fun hb=>nw (hm b hb),s,h1,h2.less fun b hb=>.inl (hm b hb)⟩
 |_+1,b,_,⟨nw,kk,h1,h2⟩=>⟨fun hb=>nw (hm b hb),kk,h1,fun c hc hp=>let⟨kb,h3,h4⟩:=h2 c hc hp;⟨kb,h3,DTrie.less hm h4⟩⟩
abbrev QE(x:Hs)(p:Pr):List Value:= [.int .u64 (hO x p.1)]
theorem Nw(x:Hs)(p:Pr):(QE x p).length=1∧0<1:=⟨rfl,by omega⟩
def TwoS(x:Hs)(n0 n1:Nat)(h:ad)(so ss:SliceV)(L L':List Pr):Prop:=
 ∃A B:Nat→Prop,OwnS eC 2 bS A h so L∧OwnS (QE x) 1 nq B h ss L'∧(∀b,A b→n0≤b∧b<n1∧¬B b)∧∀b,B b→n0≤b∧b<n1
theorem TwoS.upd0{x:Hs}{n0 n1:Nat}{h h':ad}{so ss:SliceV}{L L':List Pr}(t:TwoS x n0 n1 h so ss L L')(k:Upd No h h'):TwoS x n0 n1 h' so ss L L':=by
 obtain⟨A,B,h1,h2,h3,h4⟩:=t;exact⟨A,B,h1.upd k fun _ _ h=>h,h2.upd k fun _ _ h=>h,h3,h4⟩
theorem Qy{x:Hs}{n0 n1:Nat}{h:ad}{so ss:SliceV}{L L':List Pr}{p:Pr}(t:TwoS x n0 n1 h so ss L L')(hn:n0≤n1)(hn1:n1≤h.size)(hl:L.length≤1000000){xs:List Value}(hx:xs=eC p){K:SliceV→ad→Prop}
  (hk:∀s' h',TwoS x n0 h'.size h' s' ss (L++ [p]) L'→Upd (fun b=>(n0≤b∧b<n1)∨h.size≤b) h h'→K s' h'):AppP (some [.string (⟨#[]⟩:ByteArray),.string (⟨#[]⟩:ByteArray)]) 2 32 bS so.a so.len so.cap 1 xs h K:=by
 subst hx;obtain⟨A,B,h1,h2,h3,h4⟩:=t;refine AppP.own (ys:= [p]) (h1.more (M':=fun b=>A b∨h.size≤b) fun _ h=>.inl h) rfl rfl rfl rfl (by omega) (by simp only[aC];omega) (.inr (ao _)) fun s' h' ho hu=>?_
 have s:=hu.size;refine hk s' h' ⟨_,B,ho.within,h2.upd hu fun b hb hm=>hm.elim (fun hm=>(h3 b hm).2.2 hb) fun hm=>by have:=(h4 b hb).2;omega,fun b hb=>⟨?_,hb.2,fun hB=>?_⟩,fun b hb=>⟨(h4 b hb).1,by have:=(h4 b hb).2;omega⟩⟩ (hu.mono fun b hb=>hb.elim (fun hb=>.inl (.inl ⟨(h3 b hb).1,(h3 b hb).2.1⟩)) .inr)
 ·rcases hb.1 with hb|hb
  ·exact(h3 b hb).1
  ·omega
 ·rcases hb.1 with hb|hb
  ·exact(h3 b hb).2.2 hB
  ·have:=(h4 b hB).2;omega
theorem appB{x:Hs}{n0 n1:Nat}{h:ad}{so ss:SliceV}{L L':List Pr}{p:Pr}(t:TwoS x n0 n1 h so ss L L')(hn:n0≤n1)(hn1:n1≤h.size)(hl:L'.length≤1000000){xs:List Value}(hx:xs=QE x p){K:SliceV→ad→Prop}
  (hk:∀s' h',TwoS x n0 h'.size h' so s' L (L'++ [p])→Upd (fun b=>(n0≤b∧b<n1)∨h.size≤b) h h'→K s' h'):AppP (some [.int .u64 0]) 1 8 nq ss.a ss.len ss.cap 1 xs h K:=by
 subst hx;obtain⟨A,B,h1,h2,h3,h4⟩:=t;refine AppP.own (ys:= [p]) (h2.more (M':=fun b=>B b∨h.size≤b) fun _ h=>.inl h) rfl rfl rfl rfl (by omega) (by simp only[aC];omega) (.inr (ao _)) fun s' h' ho hu=>?_
 have s:=hu.size;refine hk s' h' ⟨A,_,h1.upd hu fun b hb hm=>hm.elim (fun hm=>(h3 b hb).2.2 hm) fun hm=>by have:=(h3 b hb).2.1;omega,ho.within,fun b hb=>⟨(h3 b hb).1,by have:=(h3 b hb).2.1;omega,fun hB=>?_⟩,fun b hb=>⟨?_,hb.2⟩⟩ (hu.mono fun b hb=>hb.elim (fun hb=>.inl (.inl (h4 b hb))) .inr)
 ·rcases hB.1 with hB|hB
  ·exact(h3 b hb).2.2 hB
  ·have:=(h3 b hb).2.1;omega
 ·rcases hb.1 with hb|hb
  ·exact(h4 b hb).1
  ·omega
theorem LM{x:Hs}{lev c:Nat}{l:List Pr}{p:Pr}:part x lev c (l++ [p])=if ck x lev p.1=c then part x lev c l++ [p]else part x lev c l:=by
 unfold part;rw[List.filter_append,List.filter_cons,List.filter_nil];by_cases h:ck x lev p.1=c
 ·rw[if_pos h,if_pos (decide_eq_true h)]
 ·rw[if_neg h,if_neg (by simpa using h),aW]
abbrev wm(x:Hs)(lev:Nat)(l:List Pr)(n:Nat)(c:Nat):List Pr:=if c<n then part x lev c l else[]
theorem EF{x:Hs}{lev n c:Nat}{l:List Pr}(h:c≠n):wm x lev l (n+1) c=wm x lev l n c:=by
 unfold wm;by_cases hc:c<n
 ·rw[if_pos hc,if_pos (by omega)]
 ·rw[if_neg hc,if_neg (by omega)]
theorem EG{x:Hs}{lev n:Nat}{l:List Pr}:wm x lev l (n+1) n=part x lev n l:=if_pos (by omega)
theorem EE{x:Hs}{lev n:Nat}{l:List Pr}:wm x lev l n n= []:=if_neg (by omega)
structure DOf(W:Nat→Prop)(x:Hs)(lev m:Nat)(h0 h:ad)(l:List Pr)(n:Nat)(kk:Nat→Option Addr):Prop where
 blk:h[h0.size]? =some (.cells (dC (dF false ⟨none,0,0⟩ (wm x lev l n) kk)).toArray gT (0,0))
 upd:Upd No h0 h
 kid:∀c,c<n→2≤(part x lev c l).length→∃kb,kk c=some ⟨kb,0,none⟩∧DTrie (fun y=>W y∨y=h0.size) x h m kb (part x lev c l)
theorem Q6{bu:Bool}{s:SliceV}{q q':Nat→List Pr}{kk kk':Nat→Option Addr}{i:Nat}(h:i<2):dF bu s q kk i=dF bu s q' kk' i:=by
 unfold dF;by_cases h0:i=0
 ·rw[if_pos h0,if_pos h0]
 ·rw[if_neg h0,if_neg h0,if_pos (by omega),if_pos (by omega)]
section
variable {bu:Bool} {s:SliceV} {q q':Nat→List Pr} {kk kk':Nat→Option Addr} {i:Nat}
theorem KT(h:2≤i)(h':i<34):dF bu s q kk i=.int .i64 (IX (q (i-2))):=by
 unfold dF;rw[if_neg (by omega),if_neg (by omega),if_pos h']
theorem G9(h:34≤i)(h':i<98)(e:i%2=0):dF bu s q kk i=.string (Aq (gd (q ((i-34)/2)))).1:=by
 unfold dF;rw[if_neg (by omega),if_neg (by omega),if_neg (by omega),if_pos h',if_pos e]
theorem G7(h:34≤i)(h':i<98)(e:¬i%2=0):dF bu s q kk i=.string (Aq (gd (q ((i-34)/2)))).2:=by
 unfold dF;rw[if_neg (by omega),if_neg (by omega),if_neg (by omega),if_pos h',if_neg e]
theorem G8(h:98≤i):dF bu s q kk i=.pointer (kk (i-98)):=by
 unfold dF;rw[if_neg (by omega),if_neg (by omega),if_neg (by omega),if_neg (by omega)]
theorem KS{c:Nat}(hc:c<32)(hq:∀j,j≠c→q' j=q j)(hk:∀j,j≠c→kk' j=kk j)(i:Nat):
  dF bu s q' kk' i=if i=2+c then .int .i64 (IX (q' c))else if i=34+c*2 then .string (Aq (gd (q' c))).1 else if i=34+c*2+1 then .string (Aq (gd (q' c))).2 else if i=98+c then .pointer (kk' c)else dF bu s q kk i:=by
 rcases(show i<2∨(2≤i∧i<34)∨(34≤i∧i<98)∨98≤i by omega)with h|h|h|h
 ·rw[if_neg (by omega),if_neg (by omega),if_neg (by omega),if_neg (by omega)];exact Q6 h
 ·by_cases e:i=2+c
  ·rw[if_pos e,KT h.1 h.2,show i-2=c by omega]
  ·rw[if_neg e,if_neg (by omega),if_neg (by omega),if_neg (by omega),KT h.1 h.2,KT h.1 h.2,hq _ (by omega)]
 ·rw[if_neg (show ¬i=2+c by omega)]
  by_cases e:(i-34)/2=c
  ·by_cases e2:i%2=0
   ·rw[if_pos (by omega),G9 h.1 h.2 e2,e]
   ·rw[if_neg (by omega),if_pos (by omega),G7 h.1 h.2 e2,e]
  ·rw[if_neg (by omega),if_neg (by omega),if_neg (by omega)]
   by_cases e2:i%2=0
   ·rw[G9 h.1 h.2 e2,G9 h.1 h.2 e2,hq _ e]
   ·rw[G7 h.1 h.2 e2,G7 h.1 h.2 e2,hq _ e]
 ·rw[if_neg (by omega),if_neg (by omega),if_neg (by omega)]
  by_cases e:i=98+c
  ·rw[if_pos e,G8 h,show i-98=c by omega]
  ·rw[if_neg e,G8 h,G8 h,hk _ (by omega)]
end
theorem NJ{h:ad}{b i:Nat}{f:Nat→Value}{t:TypeId}{v:Value}{k:ad→Prop}(hb:h[b]? =some (.cells (dC f).toArray t (0,0))) (hi:i<130) (hk:∀h',h'[b]? =some (.cells (dC fun j=>if j=i then v else f j).toArray t (0,0))→Upd (· =b) h h'→k h'):
  Wr h ⟨b,i,none⟩∧At (hset h ⟨b,i,none⟩ v) k:=
 ⟨gS hb (by rw[KU];exact hi),rH hb fun h' hb' hu=>hk h' (Qq▸hb') hu⟩
theorem Q3{h:ad}{b i:Nat}{f:Nat→Value}{t:TypeId}{v w:Value}{k:ad→Prop}(hb:h[b]? =some (.cells (dC f).toArray t (0,0))) (hi:i+1<130)
  (hk:∀h',h'[b]? =some (.cells (dC fun j=>if j=i+1 then w else if j=i then v else f j).toArray t (0,0))→Upd (· =b) h h'→k h'):uc h (some ⟨b,i,none⟩) 0 [v,w]∧At (jA h ⟨b,i,none⟩ 0 [v,w]) k:=by
 refine⟨.inr ⟨_,rfl,fun j hj=>by rw[bP];exact gS hb (by rw[KU];simp at hj;omega)⟩,bj ?_⟩
 simp only[jA,bP,cU,aD];exact(NJ (k:=fun h1=>k (hset h1 ⟨b,i+1,none⟩ w)) hb (by omega) fun h1 hb1 hu1=>(NJ (k:=k) hb1 hi fun h2 hb2 hu2=>hk h2 hb2 (hu1.tr hu2)).2).2
set_option maxRecDepth 4000 in
theorem P8{x:Hs}:∀(m:Nat),m≤13→∀{W:Nat→Prop} {h:ad} {s sh:SliceV} {l:List Pr},Sl eC 2 W h s l→(∀y,W y→y<h.size)→Sl (QE x) 1 No h sh l→l.length≤60000→∀{K:Option Addr→ad→Prop},(∀h' b,DTrie W x h' m b l→Upd No h h'→K (some ⟨b,0,none⟩) h')→
  HC PG xR [.slice s.a s.len s.cap,.slice sh.a sh.len sh.cap,.int .i64 ((13-m:Nat):Int)] [.c .ptr] K h:=by
 intro m;induction m with
 |zero=>
  intro _ W h s sh l hs hW hsh hn K hk;refine Hq s sh ((13-0:Nat):Int) ?_;unfold CF cf dd nv jx cy bC av kU dL Lf rt nn;refine aw.2 (aG fun h1 b1 k1=>?_)
  refine hk h1 h.size ⟨fun hy=>by have:=hW _ hy;omega,s,?_,hs.upd k1 fun _ h=>h.elim⟩ k1
  rw[b1];exact congrArg some (congrArg (fun c=>Obj.cells c gT (0,0)) (by kernel_rfl))
 |succ m ih=>
  intro hm W h s sh l hs hW hsh hn K hk;have nwh:¬W h.size:=fun hy=>by have:=hW _ hy;omega
  refine Hq s sh ((13-(m+1):Nat):Int) ?_;unfold CF cf dd nv jx cy bC av kU dL Lf rt nn;have e13:(((13-(m+1):Nat):Int)==(13:Int))=false:=by rw[beq_eq_false_iff_ne];omega
  rw[e13];refine al.2 (aG fun h1 b1 k1=>?_)
  have b1':h1[h.size]? =some (.cells (dC (dF false ⟨none,0,0⟩ (wm x (12-m) l 0) fun _=>none)).toArray gT (0,0)):=by
   have:wm x (12-m) l 0=fun _=> []:=by funext c;exact if_neg (by omega)
   rw[b1,this];exact congrArg some (congrArg (fun c=>Obj.cells c gT (0,0)) (by kernel_rfl))
  clear b1;have elev:(13-(m+1):Nat)=12-m:=by omega
  rw[elev];refine LoopP.ghost (fun(g:Nat×(Nat→Option Addr)) (t:Int) h'=>t=(g.1:Int)∧g.1≤32∧DOf W x (12-m) m h h' l g.1 g.2) (fun g=>32-g.1) (0,fun _=>none) ⟨rfl,by omega,b1',k1,fun c hc=>absurd hc (Nat.not_lt_zero _)⟩ ?_
  rintro I ⟨c,kk⟩ t hc ⟨rfl,hc32,hD⟩ hI;simp only at hc32 hD;have s1:=hD.upd.size;have zc:=aJ hD.blk;refine aE (fun hlt=>?_) fun hge=>?_
  ·have hlt:c<32:=by have:(c:Int)<32:=hlt;omega
   refine Join.intro (fun(_:Unit) h'=>∃kk',DOf W x (12-m) m h h' l (c+1) kk') (fun R hR=>?_) ?_
   ·
    refine LoopP.ghost (fun(i:Nat) (t:SliceV×SliceV×Int) h'=>t.2.2=(i:Int)∧i≤l.length∧TwoS x hc.size h'.size h' t.1 t.2.1 (part x (12-m) c (l.take i)) (part x (12-m) c (l.take i))∧Upd No hc h') (fun i=>l.length-i) 0 ⟨rfl,aR _,⟨No,No,OwnS.nil fO,OwnS.nil (Nw x),fun _ h=>h.elim,fun _ h=>h.elim⟩,Upd.refl _ _⟩ ?_
    rintro I2 i ⟨so,ss,ti⟩ hi ⟨e1,hil,hT,hu⟩ hI2;simp only at e1 hT;subst e1;have hlen:=hs.len;have hlen2:=hsh.len;have s2:=hu.size;have hsi:=(hs.upd hD.upd fun _ h=>h.elim).upd hu fun _ h=>h.elim
    have hshi:=(hsh.upd hD.upd fun _ h=>h.elim).upd hu fun _ h=>h.elim
    refine aE (fun hlt2=>?_) fun hge2=>?_
    ·have hlt2:i<l.length:=by have:(i:Int)<(s.len:Int):=hlt2;omega
     have hpl:(part x (12-m) c (l.take i)).length≤60000:=by
      have:=mp (x:=x) (lev:=12-m) (c:=c) (l:=l.take i);rw[aK]at this;omega
     have hps:part x (12-m) c (l.take (i+1))=if ck x (12-m) l[i].1=c then part x (12-m) c (l.take i)++ [l[i]]else part x (12-m) c (l.take i):=by rw[bv hlt2,LM]
     refine Join.intro (fun(t:SliceV×SliceV) h'=>TwoS x hc.size h'.size h' t.1 t.2 (part x (12-m) c (l.take (i+1))) (part x (12-m) c (l.take (i+1)))∧Upd No hc h') (fun R2 hR2=>?_) ?_
     ·obtain⟨a,ha,_,hv⟩:=hsi.at (af hlt2)
      refine⟨⟨by simp only;omega,by simp only;omega⟩,a,ha,_,hv 0 _ rfl,_,hv 1 _ rfl,pN (p:=l[i]) fun h3 b3 k3=>?_⟩
      obtain⟨a',ha',_,hv'⟩:=(hshi.upd k3 fun _ h=>h.elim).at0 (af hlt2)
      refine⟨⟨by simp only;omega,by simp only;omega⟩,a',ha',_,hv',QU (lev:=12-m) (by omega) ?_⟩
      have hT3:=hT.upd0 k3;have s3:=k3.size;refine CondP.intro (fun e=>?_) fun e=>?_
      ·have e:ck x (12-m) l[i].1=c:=by
        have:((ck x (12-m) l[i].1:Nat):Int)=(c:Int):=by simpa using e
        omega
       rw[if_pos e]at hps;rw[hps]at hR2;have uu:∀{h':ad},Upd (fun b=>hc.size≤b) h3 h'→Upd No hc h':=fun k=>(hu.tr k3).trans k fun y hy=>.inr hy
       have hab:a'.block<h.size:=hsh.lt (fun e=>by rw[e]at hlt2;simp at hlt2) ha'
       have sD:=hD.upd.size;have wide:∀{n:Nat} {h1 h2:ad},hc.size≤h1.size→Upd (fun b=>(hc.size≤b∧b<n)∨h1.size≤b) h1 h2→Upd (fun b=>hc.size≤b) h1 h2:=fun hz k=>k.mono fun y hy=>.inl (hy.elim (fun h=>h.1) fun h=>by omega)
       refine⟨_,vc b3 0,_,vc b3 1,⟨by simp only;omega,by simp only;omega⟩,a',ha',_,hv',?_,?_⟩
       ·refine aG fun h4 b4 k4=>⟨k4.cell0 hv',?_,?_⟩
        ·have s4:=k4.size
         refine⟨_,jR b4,Qy (p:=l[i]) (hT3.upd0 k4) (by omega) (by omega) (by omega) rfl fun s5 h5 hT5 k5=>⟨k5.cell (k4.cell0 hv') (by rw[vq];omega),aG fun h6 b6 k6=>?_⟩⟩
         have s5':=k5.size;have s6:=k6.size;refine⟨_,jR b6,appB (p:=l[i]) (hT5.upd0 k6) (by omega) (by omega) (by omega) rfl fun s7 h7 hT7 k7=>?_⟩
         exact hR2 _ _ ⟨hT7,uu (((k4.wide.tr (wide (by omega) k5)).tr k6.wide).tr (wide (by omega) k7))⟩
        ·refine aG fun h6 b6 k6=>?_
         have s4:=k4.size;have s6:=k6.size;have z6:=aJ b6;refine⟨_,jR (k6.get0 b4),Qy (p:=l[i]) ((hT3.upd0 k4).upd0 k6) (by omega) (by omega) (by omega) rfl fun s5 h5 hT5 k5=>?_⟩
         have s5':=k5.size;refine⟨_,jR (k5.get b6 (by omega)),appB (p:=l[i]) hT5 (by omega) (by omega) (by omega) rfl fun s7 h7 hT7 k7=>?_⟩
         exact hR2 _ _ ⟨hT7,uu (((k4.wide.tr k6.wide).tr (wide (by omega) k5)).tr (wide (by omega) k7))⟩
       ·refine aG fun h4 b4 k4=>⟨⟨vc (k4.get0 b3) 0,vc (k4.get0 b3) 1⟩,aG fun h6 b6 k6=>?_⟩
        have s4:=k4.size;have s6:=k6.size;have z4:=aJ b4;refine⟨_,jR b6,Qy (p:=l[i]) ((hT3.upd0 k4).upd0 k6) (by omega) (by omega) (by omega) rfl fun s5 h5 hT5 k5=>?_⟩
        have s5':=k5.size;refine⟨_,jR (k5.get (k6.get0 b4) (by omega)),appB (p:=l[i]) hT5 (by omega) (by omega) (by omega) rfl fun s7 h7 hT7 k7=>?_⟩
        exact hR2 _ _ ⟨hT7,uu (((k4.wide.tr k6.wide).tr (wide (by omega) k5)).tr (wide (by omega) k7))⟩
      ·have e:¬ck x (12-m) l[i].1=c:=fun e'=>by
        have:¬((ck x (12-m) l[i].1:Nat):Int)=(c:Int):=by simpa using e
        omega
       rw[if_neg e]at hps;rw[hps]at hR2;obtain⟨A,B,q1,q2,q3,q4⟩:=hT3;exact hR2 _ _ ⟨⟨A,B,q1,q2,fun b hb=>⟨(q3 b hb).1,by have:=(q3 b hb).2.1;omega,(q3 b hb).2.2⟩,fun b hb=>⟨(q4 b hb).1,by have:=(q4 b hb).2;omega⟩⟩,hu.tr k3⟩
     ·rintro⟨so',ss'⟩ h' ⟨hT',hu'⟩
      simp only;rw[cp hlt2 (by omega)];exact hI2 (i+1) _ _ ⟨rfl,hlt2,hT',hu'⟩ (by omega)
    ·have hil':i=l.length:=by have:¬(i:Int)<(s.len:Int):=hge2;omega
     subst hil';rw[bW]at hT;have hDi:h.size<hi.size:=by omega
     have hbi:=hu.get0 hD.blk;have hki:∀c',c'<c→2≤(part x (12-m) c' l).length→∃kb,kk c'=some ⟨kb,0,none⟩∧DTrie (fun y=>W y∨y=h.size) x hi m kb (part x (12-m) c' l):=fun c' h1 h2=>let⟨kb,h3,h4⟩:=hD.kid c' h1 h2;⟨kb,h3,DTrie.upd hu (fun _ h=>h.elim) h4⟩
     obtain⟨A,B,hA,hB,hA',hB'⟩:=hT;have hsA:Sl eC 2 (fun y=>W y∨y=h.size) hi so (part x (12-m) c l):=hA.sl fun y hy _ hw=>by
      have:=(hA' y hy).1;rcases hw with hw|hw
      ·have:=hW y hw;omega
      ·omega
     have hsB:Sl (QE x) 1 No hi ss (part x (12-m) c l):=hB.sl fun _ _ _ h=>h
     have hq:=hsA.len;have hpl:(part x (12-m) c l).length≤l.length:=mp;have hU:=hD.upd.tr hu;refine Join.plain ?_;refine CondP.intro (fun e=>?_) fun e=>?_
     ·
      have e:so.len=1:=by
       have:((so.len:Nat):Int)=1:=by simpa using e
       omega
      have hone:(part x (12-m) c l).length=1:=by omega
      obtain⟨p,hp⟩:=List.length_eq_one_iff.1 hone;rw[hp]at hsA;obtain⟨a,ha,_,hv⟩:=hsA.at (i:=0) (x:=p) rfl;refine⟨⟨by decide,by simp only;omega⟩,a,ha,_,hv 0 _ rfl,_,hv 1 _ rfl,_,rfl,⟨by omega,by omega⟩,_,rfl,?_⟩
      have ew:((c:Int).toNat*1)=c:=by omega
      have ew2:((c:Int).toNat*2)=c*2:=by omega
      simp only[ew,ew2,cM h,bP,aD];refine NJ hbi (by omega) fun h3 b3 u3=>⟨⟨by omega,by omega⟩,Q3 b3 (by omega) fun h4 b4 u4=>aE (fun hl=>by omega) fun _=>?_⟩
      have u34:Upd (· =h.size) hi h4:=u3.tr u4
      refine hR _ _ ⟨kk,?_,hU.own u34 (ao _),fun c' h1 h2=>?_⟩
      ·rw[b4]
       refine congrArg some (congrArg (fun c=>Obj.cells c gT (0,0)) (Fi fun j hj=>?_))
       rw[KS (q:=wm x (12-m) l c) (q':=wm x (12-m) l (c+1)) (kk:=kk) hlt (fun j hj=>EF hj) (fun _ _=>rfl),EG,hp]
       have e1:IX [p]=1:=rfl;have e2:Aq (gd [p])=p:=rfl;rw[e1,e2];by_cases q1:j=2+c
       ·rw[if_neg (by omega),if_neg (by omega),if_pos q1,if_pos q1]
       ·by_cases q2:j=34+c*2
        ·rw[if_neg (by omega),if_pos q2,if_neg q1,if_pos q2]
        ·by_cases q3:j=34+c*2+1
         ·rw[if_pos q3,if_neg q1,if_neg q2,if_pos q3]
         ·rw[if_neg q3,if_neg q2,if_neg q1,if_neg q1,if_neg q2,if_neg q3]
          by_cases q4:j=98+c
          ·rw[if_pos q4,G8 (by omega),show j-98=c by omega]
          ·rw[if_neg q4]
      ·rcases bN c' c with hh|hh
       ·obtain⟨kb,h3',h4'⟩:=hki c' hh h2
        exact⟨kb,h3',DTrie.upd u34 (fun y hy=>.inl (.inr hy)) h4'⟩
       ·rw[show c'=c by omega,hone]at h2;omega
     ·have e:¬so.len=1:=fun e'=>by
       have:¬((so.len:Nat):Int)=1:=by simpa using e
       omega
      refine aE (fun hgt=>?_) fun hle=>?_
      ·
       have hgt:2≤(part x (12-m) c l).length:=by have:(so.len:Int)>1:=hgt;omega
       refine⟨_,rfl,_,rfl,?_⟩;have e14:IntKind.wrap .i64 (((12-m:Nat):Int)+1)=((13-m:Nat):Int):=by rw[jm (by omega)];omega
       rw[e14];refine ih (by omega) hsA (fun y hy=>hy.elim (fun hy=>by have:=hW y hy;omega) fun hy=>by omega) hsB (by omega) fun h2 kb tk k2=>⟨⟨by omega,by omega⟩,?_⟩
       have ew:((c:Int).toNat*1)=c:=by omega
       simp only[ew,cM h,bP,aD];refine NJ (k2.get0 hbi) (by omega) fun h3 b3 u3=>⟨⟨by omega,by omega⟩,NJ b3 (by omega) fun h4 b4 u4=>?_⟩
       have u34:Upd (· =h.size) h2 h4:=u3.tr u4
       refine hR _ _ ⟨fun j=>if j=c then some ⟨kb,0,none⟩else kk j,?_,(hU.tr k2).own u34 (ao _),fun c' h1 h2=>?_⟩
       ·rw[b4]
        refine congrArg some (congrArg (fun c=>Obj.cells c gT (0,0)) (Fi fun j hj=>?_))
        rw[KS (q:=wm x (12-m) l c) (q':=wm x (12-m) l (c+1)) (kk:=kk) hlt (fun j hj=>EF hj) (fun _ hj=>if_neg hj),EG]
        have e1:IX (part x (12-m) c l)=2:=by unfold IX;rw[if_neg (by omega),if_pos hgt]
        have e2:gd (part x (12-m) c l)=none:=by
         match part x (12-m) c l,hgt with
         |a::b::r,_=>rfl
        rw[e1,e2,if_pos rfl];by_cases q1:j=2+c
        ·rw[if_neg (by omega),if_pos q1,if_pos q1]
        ·by_cases q4:j=98+c
         ·rw[if_pos q4,if_neg q1,if_neg (by omega),if_neg (by omega),if_pos q4]
         ·rw[if_neg q4,if_neg q1,if_neg q1]
          by_cases q2:j=34+c*2
          ·rw[if_pos q2,G9 (by omega) (by omega) (by omega),show(j-34)/2=c by omega,EE];rfl
          ·rw[if_neg q2]
           by_cases q3:j=34+c*2+1
           ·rw[if_pos q3,G7 (by omega) (by omega) (by omega),show(j-34)/2=c by omega,EE];rfl
           ·rw[if_neg q3,if_neg q4]
       ·rcases bN c' c with hh|hh
        ·obtain⟨kb',h3',h4'⟩:=hki c' hh h2
         exact⟨kb',by rw[if_neg (by omega)];exact h3',DTrie.upd u34 (fun y hy=>.inl (.inr hy)) (DTrie.upd k2 (fun _ h=>h.elim) h4')⟩
        ·obtain rfl:c'=c:=by omega
         exact⟨kb,if_pos rfl,DTrie.upd u34 (fun y hy=>.inl (.inr hy)) tk⟩
      ·
       have hnil:part x (12-m) c l= []:=List.length_eq_zero_iff.1 (by have:¬(so.len:Int)>1:=hle;omega);refine hR _ _ ⟨kk,?_,hU,fun c' h1 h2=>?_⟩
       ·rw[hbi]
        refine congrArg some (congrArg (fun c=>Obj.cells c gT (0,0)) (Fi fun j hj=>?_))
        have:wm x (12-m) l (c+1)=wm x (12-m) l c:=by
         funext j;by_cases hj:j=c
         ·rw[hj,EG,EE,hnil]
         ·exact EF hj
        rw[this]
       ·rcases bN c' c with hh|hh
        ·exact hki c' hh h2
        ·rw[show c'=c by omega,hnil]at h2;simp at h2
   ·rintro _ h' ⟨kk',hD'⟩
    rw[cp hlt (by omega)];exact hI (c+1,kk') _ _ ⟨rfl,hlt,hD'⟩ (by simp only;omega)
  ·obtain rfl:c=32:=by have:¬(c:Int)<32:=hge;omega
   refine hk hc h.size ⟨nwh,kk,?_,fun c hc hp=>let⟨kb,h3,h4⟩:=hD.kid c hc hp;⟨kb,h3,DTrie.less (fun _ h=>.inl h) h4⟩⟩ hD.upd
   rw[hD.blk];refine congrArg some (congrArg (fun c=>Obj.cells c gT (0,0)) (Fi fun i hi=>?_))
   have:∀c,c<32→wm x (12-m) l 32 c=part x (12-m) c l:=fun c hc=>if_pos hc
   unfold dF;by_cases h0:i<34
   ·by_cases h1:i=0
    ·rw[if_pos h1,if_pos h1]
    ·by_cases h2:i=1
     ·rw[if_neg h1,if_neg h1,if_pos h2,if_pos h2]
     ·rw[if_neg h1,if_neg h1,if_neg h2,if_neg h2,if_pos h0,if_pos h0,this _ (by omega)]
   ·rw[if_neg (show ¬i=0 by omega),if_neg (show ¬i=0 by omega),if_neg (show ¬i=1 by omega),if_neg (show ¬i=1 by omega),if_neg h0,if_neg h0]
    by_cases h3:i<98
    ·rw[if_pos h3,if_pos h3,this _ (by omega)]
    ·rw[if_neg h3,if_neg h3]
end Go.Proofs
namespace Go.Proofs
open Go Go.Lift
theorem M7{x:Hs}{h:ad}{s:SliceV}{l:List Pr}(hs:Sl eC 2 No h s l)(hn:l.length≤60000)(hk1:∀p∈l,p.1.size≤1000000){K:Option Addr→ad→Prop}(hk:∀h' b,DTrie No x h' 13 b l→Upd No h h'→K (some ⟨b,0,none⟩) h'):
  HC PG B6 [.agg #[.int .u64 x.k0,.int .u64 x.k1,.int .u64 x.mask],.slice s.a s.len s.cap,.int .i64 0] [.c .ptr] K h:=by
 refine N6 (x.k0,x.k1,x.mask) s 0 ?_;unfold Hy dd ae nv yE pW jx bC av kU Lf ii;refine aG fun h1 b1 k1=>?_
 have hlen:=hs.len;refine LoopP.ghost (fun(i:Nat) (t:SliceV×Int) h'=>t.2=(i:Int)∧i≤l.length∧OwnS (QE x) 1 nq (fun b=>h1.size≤b) h' t.1 (l.take i)∧Upd No h1 h') (fun i=>l.length-i) 0 ⟨rfl,aR _,OwnS.nil (Nw x),Upd.refl _ _⟩ ?_
 rintro I i ⟨so,ti⟩ h' ⟨e1,hi,ho,hu⟩ hI;simp only at e1 ho;subst e1;have hs':=(hs.upd k1 fun _ h=>h.elim).upd hu fun _ h=>h.elim
 refine aE (fun hlt=>?_) fun hge=>?_
 ·have hlt:i<l.length:=by have:(i:Int)<(s.len:Int):=hlt;omega
  refine Join.plain ?_;obtain⟨a,ha,_,hv⟩:=hs'.at (af hlt);refine⟨⟨by simp only;omega,by simp only;omega⟩,a,ha,_,hv 0 _ rfl,_,hv 1 _ rfl,pN (p:=l[i]) fun h2 b2 k2=>?_⟩
  have c1:=k2.get0 (hu.get0 b1);refine⟨_,vc c1 0,_,vc c1 1,_,vc c1 2,_,vc b2 0,M9 (by have:=hk1 _ (bI hlt);omega) fun h3 k3=>aG fun h4 b4 k4=>⟨_,jR b4,?_⟩⟩
  have s4:=((hu.tr k2).tr k3).tr k4;refine AppP.own (M:=fun b=>h1.size≤b) (ys:= [l[i]]) (((ho.upd k2 fun _ _ h=>h).upd k3 fun _ _ h=>h).upd k4 fun _ _ h=>h) rfl rfl rfl rfl (by omega) (by simp only[aC,aK];omega) s4.size fun s5 h5 ho5 hu5=>?_
  simp only;rw[cp hlt (by omega)];refine hI (i+1) _ _ ⟨rfl,hlt,?_,s4.trans hu5 fun y hy=>.inr hy⟩ (by omega)
  rw[bv hlt];exact ho5
 ·have hil:i=l.length:=by have:¬(i:Int)<(s.len:Int):=hge;omega
  subst hil;rw[bW]at ho;exact P8 13 (ao _) hs' (fun _ h=>h.elim) (ho.sl fun _ _ _ h=>h) hn fun h2 b td k2=>hk h2 b td ((k1.tr hu).tr k2)
theorem DB(n:Nat):IntKind.wrap .u8 (n:Int)=((UInt8.ofNat n).toNat:Int):=by rw[IntKind.wrap_u8];simp
theorem AL{n:Nat}(hn:n≤1000000000){h:ad}{K:SliceV→ad→Prop}(hk:∀s' h',OwnS nh 1 cD (fun y=>h.size≤y) h' s' (lm n 2)→Upd No h h'→K s' h'):HC PG qe [.int .i64 (n:Int)] [.c .slice] K h:=by
 refine Mc (n:Int) ?_;unfold Et Ot;have e1:lF (n:Int) 256=((n>>>(8*1):Nat):Int):=by rw[eS (by omega),cA];rfl
 have hle:n>>>(8*1)≤n:=gQ ..;rw[e1,jm (by generalize n>>>(8*1)=y at hle;omega),DB,DB];refine⟨by decide,aG fun h1 b1 k1=>hk _ h1 ⟨rfl,qm,ao _,.inr ⟨h.size,[],rfl,ao _,b1,rfl⟩⟩ k1⟩
theorem Gt{n:Nat}(hn:n<4294967296){h:ad}{K:SliceV→ad→Prop}(hk:∀s' h',OwnS nh 1 cD (fun y=>h.size≤y) h' s' (lm n 4)→Upd No h h'→K s' h'):HC PG tg [.int .u32 (n:Int)] [.c .slice] K h:=by
 refine JE (n:Int) ?_;unfold CE QJ;have q:∀k:Nat,((n>>>k:Nat):Int)<4294967296:=fun k=>by have:n>>>k≤n:=gQ ..;generalize n>>>k=y at this;omega
 have e1:lF (n:Int) 256=((n>>>(8*1):Nat):Int):=by rw[eS (by omega),cA];rfl
 have e2:lF (n:Int) 65536=((n>>>(8*2):Nat):Int):=by rw[eS (by omega),cA];rfl
 have e3:lF (n:Int) 16777216=((n>>>(8*3):Nat):Int):=by rw[eS (by omega),cA];rfl
 have w:∀k:Nat,IntKind.wrap .u32 ((n>>>k:Nat):Int)=((n>>>k:Nat):Int):=fun k=>by have:=q k;generalize n>>>k=y at this;rw[IntKind.wrap_u32];omega
 rw[e1,e2,e3,w,w,w,DB,DB,DB,DB];refine⟨by decide,by decide,by decide,aG fun h1 b1 k1=>hk _ h1 ⟨rfl,qm,ao _,.inr ⟨h.size,[],rfl,ao _,b1,rfl⟩⟩ k1⟩
theorem uM{M W:Nat→Prop}{h:ad}{so e:SliceV}{out ys:List UInt8}{K:SliceV→ad→Prop}(ho:OwnS nh 1 cD M h so out)(he:Sl nh 1 W h e ys)(hM:∀b,h.size≤b→M b)(hn:out.length+ys.length≤140737488355328)
  (hk:∀s' h',OwnS nh 1 cD M h' s' (out++ys)→Upd M h h'→K s' h'):∃xs,SRow h e.a (e.len*1) xs∧AppP (some [.int .u8 0]) 1 1 cD so.a so.len so.cap e.len xs h K:=
 ⟨_,he.srow,AppP.own (ys:=ys) ho he.len rfl (vg _) rfl (by omega) (by omega) (hM _ (ao _)) hk⟩
theorem xE{b:ByteArray}(hb:b.size≤1000000){h:ad}{K:SliceV→ad→Prop}(hk:∀s' h',OwnS nh 1 cD (fun y=>h.size≤y) h' s' (mn b)→Upd No h h'→K s' h'):HC PG oE [.string b] [.c .slice] K h:=by
 refine JC b ?_;unfold CB;refine AL (by omega) fun s1 h1 ho1 k1=>?_
 intro c hc;have k2:=Upd.push No h1 (.cells (dR b++fW (c-b.size) (Value.int .u8 0)).toArray cD (c,c+1));have b2:=uo h1 (.cells (dR b++fW (c-b.size) (Value.int .u8 0)).toArray cD (c,c+1));generalize h1.push (.cells (dR b++fW (c-b.size) (Value.int .u8 0)).toArray cD (c,c+1))=h2 at k2 b2;have hl:b.data.toList.length=b.size:=by simp
 have hsl:Sl nh 1 No h2 ⟨some (az h1),b.size,c⟩ b.data.toList:=by
  refine⟨by simp,qm,fun _=>⟨_,rfl,id,oQ b2 fun i v hv=>?_⟩⟩
  rw[aD,fk,uK,List.getElem?_append_left (List.getElem?_eq_some_iff.1 hv).1];exact hv
 have s1':=k1.size;have s2:=k2.size;refine uM (ho1.upd k2 fun _ _ h=>h) hsl (fun y hy=>by show h.size≤y;omega) (by rw[dh];omega) fun s3 h3 ho3 k3=>hk s3 h3 ho3 ((k1.tr k2).trans k3 fun y hy=>.inr hy)
theorem yS{W:Nat→Prop}{h:ad}{s:SliceV}{l:List Pr}(hs:Sl eC 2 W h s l)(hf:Fit l)(hn:l.length≤60000){K:SliceV→ad→Prop}(hk:∀s' h',OwnS nh 1 cD (fun y=>h.size≤y) h' s' (jy l)→Upd No h h'→K s' h'):
  HC PG pj [.slice s.a s.len s.cap] [.c .slice] K h:=by
 refine Ho s ?_;unfold Ah dd nv jx bC av kU;have hlen:=hs.len;refine LoopP.ghost (fun(i:Nat) (t:SliceV×Int) h'=>t.2=(i:Int)∧i≤l.length∧OwnS nh 1 cD (fun b=>h.size≤b) h' t.1 (jy (l.take i))∧Upd No h h') (fun i=>l.length-i) 0 ⟨rfl,aR _,OwnS.nil qm,Upd.refl _ _⟩ ?_
 rintro I i ⟨so,ti⟩ h' ⟨e1,hi,ho,hu⟩ hI;simp only at e1 ho;subst e1;refine aE (fun hlt=>?_) fun hge=>?_
 ·have hlt:i<l.length:=by have:(i:Int)<(s.len:Int):=hlt;omega
  refine Join.plain ?_;obtain⟨a,ha,_,hv⟩:=(hs.upd hu fun _ h=>h.elim).at (af hlt)
  have hfi:=hf l[i] (bI hlt);have htl:=lj (l:=l.take i) fun q hq=>hf q (List.mem_of_mem_take hq)
  rw[aK,bA hi]at htl;have h1:=ig l[i].1;have h2:=ig l[i].2;refine⟨⟨by simp only;omega,by simp only;omega⟩,a,ha,_,hv 0 _ rfl,_,hv 1 _ rfl,pN (p:=l[i]) fun h2 b2 k2=>?_⟩
  refine⟨_,vc b2 0,_,vc b2 1,xE (by omega) fun s3 h3 ho3 k3=>⟨vc (k3.get0 b2) 1,?_⟩⟩
  have u3:=(hu.tr k2).tr k3;have s2:=aJ b2;have s2':=k2.size;have s3':=k3.size;have s0:=hu.size;refine uM (M:=fun y=>h.size≤y∧y≠h'.size) (((ho.within.upd k2 fun _ _ h=>h).upd k3 fun _ _ h=>h).more fun y hy=>⟨hy.1,by omega⟩) (ho3.sl (W:=No) fun _ _ _ h=>h) (fun y hy=>by omega) (by omega) fun s4 h4 ho4 k4=>⟨vc (k4.get (k3.get0 b2) (by omega)) 1,?_⟩
  have s4':=k4.size;refine xE (by omega) fun s5 h5 ho5 k5=>?_
  have s5':=k5.size;refine uM (M:=fun y=>h.size≤y) ((ho4.upd k5 fun _ _ h=>h).more fun y hy=>hy.1) (ho5.sl (W:=No) fun _ _ _ h=>h) (fun y hy=>by show h.size≤y;omega) (by rw[List.length_append];omega) fun s6 h6 ho6 k6=>?_
  simp only;rw[cp hlt (by omega)];refine hI (i+1) _ _ ⟨rfl,hlt,?_,(((u3.trans k4 fun y hy=>.inr hy.1)).tr k5).trans k6 fun y hy=>.inr hy⟩ (by omega)
  rw[zN hlt,zO,←aq];exact ho6
 ·have hil:i=l.length:=by have:¬(i:Int)<(s.len:Int):=hge;omega
  subst hil;rw[bW]at ho;exact hk _ _ ho hu
theorem LG{W W':Nat→Prop}{h:ad}{s s':SliceV}{l:List UInt8}(hs:Sl nh 1 W h s l)(hs':Sl nh 1 W' h s' l)(hn:l.length≤1000000000000){K:Bool→ad→Prop}(hk:K true h):HC PG wL [.slice s.a s.len s.cap,.slice s'.a s'.len s'.cap] [.c .bool] K h:=by
 refine JD s s' ?_;unfold CC cf dd;have h1:=hs.len;have h2:=hs'.len;rw[h1,h2,bne_self_eq_false];refine al.2 ?_;refine LoopP.ghost (fun(i:Nat) (t:Int) h'=>t=(i:Int)∧i≤l.length∧h'=h) (fun i=>l.length-i) 0 ⟨rfl,aR _,rfl⟩ ?_
 rintro I i t h' ⟨rfl,hi,rfl⟩ hI;refine aE (fun hlt=>?_) fun _=>hk
 have hlt:i<l.length:=by omega
 obtain⟨a,ha,_,hv⟩:=hs.at0 (af hlt);obtain⟨a',ha',_,hv'⟩:=hs'.at0 (af hlt);refine⟨⟨by omega,by omega⟩,a,ha,_,hv,⟨by omega,by omega⟩,a',ha',_,hv',?_⟩
 rw[bne_self_eq_false];refine al.2 ?_;rw[cp hlt (by omega)];exact hI (i+1) _ _ ⟨rfl,hlt,rfl⟩ (by omega)
end Go.Proofs
namespace Go.Proofs
open Go Go.Lift
end Go.Proofs
namespace Go.Proofs
open Go Go.Lift
end Go.Proofs
namespace Go.Proofs
open Go Go.Lift
theorem StP.less{N M:Nat}(h:StP N)(hm:M≤N):StP M:=fun w _ _ _ hc _ _ _ ho hi hn _ hk=>h w hc ho hi (Nat.le_trans hn hm) hk
end Go.Proofs
namespace Go.Proofs
open Go Go.Lift
theorem vj{a b:ByteArray}:kl a b↔Op.bytesLess a.data.toList b.data.toList=true:=by unfold kl;rw[ByteArray.toList_eq,ByteArray.toList_eq]
theorem vp{a b:UInt8}{x y:List UInt8}:Op.bytesLess (a::x) (b::y)=true↔a.toNat<b.toNat∨(a=b∧Op.bytesLess x y=true):=by
 simp only[Op.bytesLess,Bool.or_eq_true,decide_eq_true_iff,Bool.and_eq_true,beq_iff_eq,UInt8.lt_iff_toNat_lt]
theorem Jn(x:List UInt8):Op.bytesLess x []=false:=by cases x<;>rfl
theorem Ft{x y:List UInt8}:∀pre:List UInt8,Op.bytesLess (pre++x) (pre++y)=true↔Op.bytesLess x y=true
 | []=>Iff.rfl
 |a::pre=>by rw[dN,dN,vp,Ft pre];simp
theorem Ra{x y:List UInt8}(h:Op.bytesLess x y=true)(hx:x≠[])(hy:y≠[]):hd x≤hd y:=by
 match x,y,hx,hy with
 |a::x,b::y,_,_=>
  show a.toNat≤b.toNat
  rcases vp.1 h with h|⟨rfl,_⟩<;>omega
theorem Gh:∀(t:Nat) {f p g:List UInt8},t≤cm f g→(f=p∨Op.bytesLess f p=true)→(p=g∨Op.bytesLess p g=true)→p.take t=f.take t∧t≤p.length
 |0,f,p,g,_,_,_=>by simp
 |t+1,[],p,g,h,_,_=>by simp[cm]at h
 |t+1,a::f,p,[],h,_,_=>by simp[cm]at h
 |t+1,a::f,p,b::g,h,h1,h2=>by
  unfold cm at h;split at h
  ·rename_i e
   subst e;rcases p with _|⟨c,p⟩
   ·rcases h1 with h1|h1
    ·cases h1
    ·rw[Jn]at h1;cases h1
   ·have hc:c=a:=by
     rcases h1 with h1|h1
     ·exact(fp.inj h1).1.symm
     ·rcases h2 with h2|h2
      ·exact(fp.inj h2).1
      ·have q1:=vp.1 h1
       have q2:=vp.1 h2;rcases q1 with q1|⟨q1,_⟩
       ·rcases q2 with q2|⟨q2,_⟩
        ·omega
        ·exact q2
       ·exact q1.symm
    subst hc;have:=Gh t (f:=f) (p:=p) (g:=g) (by omega) (h1.imp (fun h=>(fp.inj h).2) fun h=>by
     rcases vp.1 h with h|⟨_,h⟩
     ·omega
     ·exact h) (h2.imp (fun h=>(fp.inj h).2) fun h=>by
     rcases vp.1 h with h|⟨_,h⟩
     ·omega
     ·exact h)
    rw[dI,dI,this.1,ax];exact⟨rfl,by omega⟩
  ·omega
theorem KY:∀f:List UInt8,cm f f=f.length
 | []=>rfl
 |a::f=>by unfold cm;rw[if_pos rfl,KY f];rfl
abbrev ky(p:Pr):List UInt8:=p.1.data.toList
def Pt(l:List Pr)(pre k:List UInt8)(v:ByteArray):Prop:=∃p∈l,ky p=pre++k∧p.2=v
structure Beg(l:List Pr)(pre:List UInt8):Prop where
 up:dD l
 at_:∀p∈l,(ky p).take pre.length=pre∧pre.length<(ky p).length
theorem Beg.sub{l l':List Pr}{pre:List UInt8}(b:Beg l pre)(h:l'.Sublist l):Beg l' pre:=⟨b.up.sublist h,fun p hp=>b.at_ p (h.subset hp)⟩
theorem Beg.split{l:List Pr}{pre:List UInt8}(b:Beg l pre){p:Pr}(hp:p∈l):ky p=pre++(ky p).drop pre.length∧(ky p).drop pre.length≠[]:=by
 obtain⟨h1,h2⟩:=b.at_ p hp;refine⟨?_,fun e=>?_⟩
 ·conv=>lhs;rw[←aF pre.length (ky p),h1]
 ·have:=congrArg dT e
  rw[aS,aZ]at this;omega
def bt(n:Nat)(p:Pr):Nat:=hd ((ky p).drop n)
theorem Beg.mono{A B:List Pr}{pre:List UInt8}(b:Beg (A++B) pre){x y:Pr}(hx:x∈A)(hy:y∈B):bt pre.length x≤bt pre.length y:=by
 have h:=(ci.1 b.up).2.2 x hx y hy;rw[vj]at h;obtain⟨e1,n1⟩:=b.split (du B hx);obtain⟨e2,n2⟩:=b.split (eE A hy);change Op.bytesLess (ky x) (ky y)=true at h;rw[e1,e2,Ft]at h;exact Ra h n1 n2
theorem Em{l:List Pr}{pre:List UInt8}{f g:Pr}(b:Beg l pre)(hf:∃r,l=f::r)(hg:l.getLast? =some g)(hb:bt pre.length f=bt pre.length g):
  pre.length<cm (ky f) (ky g)∧cm (ky f) (ky g)≤(ky f).length∧(∀p∈l,(ky p).take (cm (ky f) (ky g))=(ky f).take (cm (ky f) (ky g)))∧(∀p∈l,p=f∨cm (ky f) (ky g)<(ky p).length)∧
   (cm (ky f) (ky g)<(ky f).length→cm (ky f) (ky g)<(ky g).length∧hd ((ky f).drop (cm (ky f) (ky g)))≠hd ((ky g).drop (cm (ky f) (ky g)))):=by
 obtain⟨r,rfl⟩:=hf;have hfm:f∈f::r:=ar ..;have hgm:g∈f::r:=gI hg;obtain⟨e1,n1⟩:=b.split hfm;obtain⟨e2,n2⟩:=b.split hgm;have hcp:pre.length<cm (ky f) (ky g):=by
  have:∀(q x y:List UInt8),cm (q++x) (q++y)=q.length+cm x y:=by
   intro q x y;induction q with
   |nil=>simp
   |cons a q ih=>simp only[dN,cm,if_true,ih,ax];omega
  have h1:=this pre ((ky f).drop pre.length) ((ky g).drop pre.length);rw[←e1,←e2]at h1;have h2:=NO n1 n2 hb;omega
 have hle:=KZ (ky f) (ky g);have hfp:∀p∈f::r,ky f=ky p∨Op.bytesLess (ky f) (ky p)=true:=fun p hp=>by
  rcases aA.1 hp with rfl|hp
  ·exact .inl rfl
  ·exact .inr (vj.1 ((aX.1 b.up).1 p hp))
 have hpg:∀p∈f::r,ky p=ky g∨Op.bytesLess (ky p) (ky g)=true:=fun p hp=>by
  rcases List.eq_nil_or_concat (f::r)with h|⟨l',y,h⟩
  ·cases h
  ·rw[List.concat_eq_append]at h
   rw[h,List.getLast?_concat]at hg;cases hg;have hup:=b.up;rw[h]at hp hup;rcases bV.1 hp with hp|hp
   ·exact .inr (vj.1 ((ci.1 hup).2.2 p hp g (aB.2 rfl)))
   ·rw[aB.1 hp];exact .inl rfl
 have hsw:∀p∈f::r,(ky p).take (cm (ky f) (ky g))=(ky f).take (cm (ky f) (ky g))∧cm (ky f) (ky g)≤(ky p).length:=fun p hp=>Gh _ (ao _) (hfp p hp) (hpg p hp)
 have hne:∀p∈f::r,p=f∨cm (ky f) (ky g)<(ky p).length:=fun p hp=>by
  obtain⟨h1,h2⟩:=hsw p hp;rcases bN (cm (ky f) (ky g)) (ky p).length with h|h
  ·exact .inr h
  ·left
   have hl:(ky p).length=cm (ky f) (ky g):=by omega
   have e:ky p=(ky f).take (cm (ky f) (ky g)):=by rw[←h1,←hl,bW]
   rcases aA.1 hp with rfl|hp
   ·rfl
   ·have hk:=vj.1 ((aX.1 b.up).1 p hp)
    change Op.bytesLess (ky f) (ky p)=true at hk;exfalso;have e3:ky f=ky p++(ky f).drop (cm (ky f) (ky g)):=by rw[e,aF]
    have h4:Op.bytesLess (ky p++(ky f).drop (cm (ky f) (ky g))) (ky p++ [])=true:=by rw[aW,←e3];exact hk
    rw[Ft,Jn]at h4;cases h4
 refine⟨hcp,hle.1,fun p hp=>(hsw p hp).1,hne,fun hlt=>?_⟩
 have hgl:cm (ky f) (ky g)<(ky g).length:=by
  rcases hne g hgm with h|h
  ·exfalso
   rw[h,KY]at hlt;omega
  ·exact h
 exact⟨hgl,Fm _ _ hlt hgl⟩
theorem Jl{l l':List Pr}{pre:List UInt8}{f g:Pr}(b:Beg l pre)(hf:∃r,l=f::r)(hg:l.getLast? =some g)(hb:bt pre.length f=bt pre.length g){F:Fo}(hc:gi F)
  (hl':l'=if(ky f).length=cm (ky f) (ky g)then l.drop 1 else l)(hF:∀k v,tE F k v↔Pt l' ((ky f).take (cm (ky f) (ky g))) k v){w:Option ByteArray}(hw:w=if(ky f).length=cm (ky f) (ky g)then some f.2 else none){lab:List UInt8}(hlab:lab=((ky f).take (cm (ky f) (ky g))).drop pre.length):
  Mg (lab,w,F)∧hd lab=bt pre.length f∧∀k v,xp (lab,w,F) k v↔Pt l pre k v:=by
 obtain⟨h1,h2,h3,h4,h5⟩:=Em b hf hg hb;obtain⟨r,rfl⟩:=hf;have hfm:f∈f::r:=ar ..;have hgm:g∈f::r:=gI hg;generalize cm (ky f) (ky g)=to at*;have epre:pre++lab=(ky f).take to:=by
  have:=(b.at_ f hfm).1;rw[hlab];conv=>rhs;rw[←aF pre.length ((ky f).take to),List.take_take,bA (by omega),this]
 have hlab0:lab≠[]:=fun e=>by
  have:=congrArg dT hlab;rw[e,aZ,aS,aK]at this;omega
 have hin:∀k v,xp (lab,w,F) k v↔Pt (f::r) pre k v:=by
  intro k v;constructor
  ·rintro⟨q,e,⟨rfl,e2⟩|e2⟩
   ·simp only at e e2
    rw[aW]at e;subst e;rw[hw]at e2;split at e2
    ·rename_i hto
     cases e2;refine⟨f,hfm,?_,rfl⟩;rw[epre,←hto,bW]
    ·cases e2
   ·simp only at e e2
    obtain⟨p,hp,e3,rfl⟩:=(hF q v).1 e2;refine⟨p,?_,?_,rfl⟩
    ·rw[hl']at hp
     split at hp
     ·exact List.mem_cons_of_mem _ hp
     ·exact hp
    ·rw[e3,e,←aq,epre]
  ·rintro⟨p,hp,e,rfl⟩
   have hpt:=h3 p hp;have ep:ky p=pre++(lab++(ky p).drop to):=by
    rw[←aq,epre,←hpt,aF]
   have ek:k=lab++(ky p).drop to:=List.append_cancel_left (e.symm.trans ep);refine⟨(ky p).drop to,ek,?_⟩;by_cases hto:(ky f).length=to
   ·rw[if_pos hto]at hw hl'
    rcases aA.1 hp with rfl|hp
    ·left
     refine⟨List.drop_eq_nil_of_le (by omega),?_⟩;simp only;rw[hw]
    ·right
     refine(hF _ _).2 ⟨p,by rw[hl'];exact hp,?_,rfl⟩
     rw[←hpt,aF]
   ·rw[if_neg hto]at hw hl'
    right;refine(hF _ _).2 ⟨p,by rw[hl'];exact hp,?_,rfl⟩
    rw[←hpt,aF]
 refine⟨⟨hlab0,?_,hc⟩,?_,hin⟩
 ·by_cases hto:(ky f).length=to
  ·left;simp only;rw[hw,if_pos hto];rfl
  ·have hlt:to<(ky f).length:=by omega
   obtain⟨hgl,hne⟩:=h5 hlt;refine(Cl hc).2 (.inr ⟨(ky f).drop to,(ky g).drop to,f.2,g.2,.inr ?_,.inr ?_,fun e=>?_,fun e=>?_,hne⟩)
   ·exact(hF _ _).2 ⟨f,by rw[hl',if_neg hto];exact hfm,(aF ..).symm,rfl⟩
   ·exact(hF _ _).2 ⟨g,by rw[hl',if_neg hto];exact hgm,by rw[←h3 g hgm,aF],rfl⟩
   ·have:=congrArg dT e
    rw[aS,aZ]at this;omega
   ·have:=congrArg dT e
    rw[aS,aZ]at this;omega
 ·have e:=(b.split hfm).1
  unfold bt;have e2:(ky f).drop pre.length=lab++(ky f).drop to:=by
   have h6:ky f=pre++(lab++(ky f).drop to):=by rw[←aq,epre,aF]
   conv=>lhs;rw[h6]
   rw[List.drop_left]
  rw[e2,qi hlab0]
structure Row(L:List Bn)(D T:List Pr)(pre:List UInt8):Prop where
 can:∀n∈L,Mg n
 up:L.Pairwise fun m n=>hd m.1<hd n.1
 lo:∀n∈L,∀p∈T,hd n.1<bt pre.length p
 got:∀k v,(∃n∈L,xp n k v)↔Pt D pre k v
theorem Row.nil(T:List Pr)(pre:List UInt8):Row [] [] T pre:=⟨fun n h=>(by cases h),cE,fun n h=>(by cases h),fun k v=>⟨fun⟨n,h,_⟩=>(by cases h),fun⟨p,h,_⟩=>(by cases h)⟩⟩
theorem Row.more{L:List Bn}{D A B:List Pr}{pre:List UInt8}{n:Bn}{p:Pr}(r:Row L D (A++B) pre)(bg:Beg (A++B) pre)(hp:p∈A)(hA:∀a∈A,bt pre.length a=bt pre.length p)(hB:∀b B',B=b::B'→bt pre.length b≠bt pre.length p)(hc:Mg n)(hn:hd n.1=bt pre.length p)(hg:∀k v,xp n k v↔Pt A pre k v):Row (L++ [n]) (D++A) B pre:=by
 refine⟨fun m hm=>?_,ci.2 ⟨r.up,List.pairwise_singleton ..,fun a ha b hb=>?_⟩,fun m hm q hq=>?_,fun k v=>?_⟩
 ·rcases bV.1 hm with hm|hm
  ·exact r.can m hm
  ·rw[aB.1 hm];exact hc
 ·rw[aB.1 hb,hn]
  exact r.lo a ha p (du _ hp)
 ·rcases bV.1 hm with hm|hm
  ·exact r.lo m hm q (eE _ hq)
  ·rw[aB.1 hm,hn]
   rcases B with _|⟨b0,B'⟩
   ·cases hq
   have h1:=hB b0 B' rfl;have h2:=bg.mono hp (ar (a:=b0) (l:=B'));rcases aA.1 hq with rfl|hq
   ·omega
   ·have bg':Beg ([b0]++B') pre:=bg.sub (List.sublist_append_right A _)
    have:=bg'.mono (aB.2 rfl) hq;omega
 ·constructor
  ·rintro⟨m,hm,hi⟩
   rcases bV.1 hm with hm|hm
   ·obtain⟨q,hq,e⟩:=(r.got k v).1 ⟨m,hm,hi⟩
    exact⟨q,du _ hq,e⟩
   ·rw[aB.1 hm]at hi
    obtain⟨q,hq,e⟩:=(hg k v).1 hi;exact⟨q,eE _ hq,e⟩
  ·rintro⟨q,hq,e⟩
   rcases bV.1 hq with hq|hq
   ·obtain⟨m,hm,hi⟩:=(r.got k v).2 ⟨q,hq,e⟩
    exact⟨m,du _ hm,hi⟩
   ·exact⟨n,eE _ (aB.2 rfl),(hg k v).2 ⟨q,hq,e⟩⟩
theorem Row.done{L:List Bn}{D:List Pr}{pre:List UInt8}(r:Row L D [] pre):gi (.ofL L)∧∀k v,tE (.ofL L) k v↔Pt D pre k v:=by
 refine⟨gf.2 ?_,fun k v=>?_⟩
 ·rw[Fo.to_of];exact⟨r.up,r.can⟩
 ·rw[iH,Fo.to_of];exact r.got k v
end Go.Proofs
namespace Go.Proofs
open Go Go.Lift
theorem IU(s:ByteArray):s.data.toList.length=s.size:=by simp
theorem Kid.less{W W':Nat→Prop}{h:ad}(hm:∀b,W' b→W b∨h.size≤b){a:Option Addr}{n:Bn}:Kid W h a n→Kid W' h a n
 |⟨b,sl,e1,e2,e3⟩=>⟨b,sl,e1,e2,e3.less hm⟩
theorem Kid.updM{W M:Nat→Prop}{h h':ad}(k:Upd M h h')(hm:∀b,M b→W b∨h.size≤b){a:Option Addr}{n:Bn}:Kid W h a n→Kid W h' a n
 |⟨b,sl,e1,e2,e3⟩=>⟨b,sl,e1,e2,e3.updM k hm⟩
theorem RxL.less{W W':Nat→Prop}{h:ad}(hm:∀b,W' b→W b∨h.size≤b){ks:List (Option Addr)}{L:List Bn}(r:RxL W h ks L):RxL W' h ks L:=⟨r.1,fun p hp=>(r.2 p hp).less hm⟩
theorem RxL.updM{W M:Nat→Prop}{h h':ad}(k:Upd M h h')(hm:∀b,M b→W b∨h.size≤b){ks:List (Option Addr)}{L:List Bn}(r:RxL W h ks L):RxL W h' ks L:=⟨r.1,fun p hp=>(r.2 p hp).updM k hm⟩
theorem NR{p:Pr}{n:Nat}(h:n<(ky p).length):∃b:UInt8,p.1[n]? =some b∧b.toNat=bt n p:=by
 rw[GV];refine⟨(ky p)[n],af h,?_⟩;unfold bt hd;rw[List.drop_eq_getElem_cons h];rfl
end Go.Proofs
namespace Go.Proofs
open Go Go.Lift
theorem Nl{h:ad}{t:Tr}{k:ad→Prop}(hk:∀h',h'[h.size]? =some (.cells (dZ t).toArray aI (0,0))→Upd No h h'→k h'):
  At (hnew h (dZ iP) aI) (fun h1=>uc h1 (some (az h)) 0 (dZ t)∧At (jA h1 (az h) 0 (dZ t)) k):=
 aG fun h1 b1 k1=>bo (c:=dZ iP) (vs:=dZ t) b1 rfl fun h2 b2 hu2=>hk h2 b2 (k1.own hu2 (ao _))
end Go.Proofs
