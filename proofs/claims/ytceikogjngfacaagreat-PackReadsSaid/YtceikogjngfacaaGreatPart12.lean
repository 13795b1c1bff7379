/- A part of the proof that the named laws of this program answer true, whatever the input. -/
import Derived.Test.YtceikogjngfacaaGreatPart11
import Derived.Test.YtceikogjngfacaaGreatPart9
import Derived.Test.YtceikogjngfacaaGreatPart8
import Derived.Test.YtceikogjngfacaaGreatPart10
import Derived.Test.YtceikogjngfacaaGreatPart6
import Derived.Test.YtceikogjngfacaaGreatPart5
import Derived.Test.YtceikogjngfacaaGreatPart7
import Derived.Test.YtceikogjngfacaaGreatPart1
open Go.IntKind renaming wrap→ac
open List renaming mem_of_getElem?→ao,length_append→af,length_singleton→aI,mem_cons→ar,not_mem_nil→dE,mem_cons_of_mem→aA,mem_cons_self→aD,map_map→dR,length_map→aX,nodup_cons→eE,map_cons→bJ,mem_map→bI,getElem_mem→bR,getElem?_eq_getElem→ag
open Nat renaming zero_le→aY,le_trans→co,le_refl→ai,lt_of_lt_of_le→aC
namespace Go.Proofs
open Go Go.Lift
structure PtX(W:Nat→Prop)(h:ae)(u:Pt)(p:RParts):Prop where
 k:u.1=p.kind
 x:u.2.1=p.x.k0∧u.2.2.1=p.x.k1∧u.2.2.2.1=p.x.mask
 n:u.2.2.2.2.1=p.next
 v:∃VS,Sl BN 7 W h u.2.2.2.2.2.1 VS∧LOk (XvOk W h p.kind p.x) VS p.vs
 b:Sl fJ 2 W h u.2.2.2.2.2.2.1 p.bs
 t:Sl fJ 2 W h u.2.2.2.2.2.2.2.1 p.ts
 l:u.2.2.2.2.2.2.2.2.1=p.last
 s:∃SS,Sl KQ 7 W h u.2.2.2.2.2.2.2.2.2 SS∧LOk (XsOk W h p.kind p.x) SS p.ss
set_option maxHeartbeats 1000000 in
theorem Sd{W0:Nat→Prop}{h:ae}{sl:SliceV}{l:List UInt8}(hs:Sl tK 1 W0 h sl l)(hcap:sl.len≤sl.cap)(hn:l.length≤90000){K:Pt×Int→ae→Prop}
  (he:(tA (l,0)).2.2≠0→∀s,Upd No h s→K (aaI,(tA (l,0)).2.2) s)
  (hk:(tA (l,0)).2.2=0→∀s v,PtX (fun y=>y<h.size) s v (tA (l,0)).1→Upd No h s→K (v,0) s):
  HC PG 7 [.slice sl.a sl.len sl.cap] WQ K h:=by
 have hlen:=hs.len;refine eM (H4 sl) Qm Tryz.func7 Tryz.call7 ?_;dsimp only[H4,du,cq,eP,nv,F9,dg,jO,vz,dy,Qy,Du,Zk,BR,V7,aan,Zj,aam,sq,Zy,Zc,MC,aR,au,vJ,db,iv,Mb,kR,CT];refine bj fun A b1 k1=>bj fun h2 b2 k2=>?_
 have z1:=bc b1;have z2:=bc b2;have k12:=k1.tr k2;obtain⟨q,hq,hqs⟩:∃q,q<A.size∧Sl tK 1 (·≠q) h2 sl l:=by
  by_cases e:l= []
  ·subst e
   refine⟨h.size,z1,?_⟩;have:sl=⟨sl.a,0,sl.cap⟩:=by cases sl;simp only[List.length_nil]at hlen;subst hlen;rfl
   rw[this];exact Sl.nil rx
  ·obtain⟨a,O,hw,hr⟩:=hs.row e
   refine⟨a.block,?_,?_⟩
   ·have:=hs.lt e O;omega
   ·exact⟨hs.len,hs.ne,fun _=>⟨a,O,fun hne=>hne rfl,hr.upd k12 id⟩⟩
 have zz:=k12.size;obtain⟨x,es⟩:∃x:dV,x=(l,0):=⟨_,rfl⟩;have i2:RnAt (·≠q) h2 A.size l x:=by
  rw[es];exact⟨⟨sl,0,b2,hqs,hcap,aY _,by rw[List.drop_zero]⟩,by show A.size≠q;omega,by omega⟩
 have r2:Rn q A.size l x [] h2:=⟨i2,Own.nil,fun⟨_,h,_⟩=>(by cases h),fun⟨_,h,_⟩=>(by cases h),by omega⟩
 rw[←es]at he hk;have ls:x.1.length=l.length:=by rw[es]
 clear es i2;obtain⟨b,eb⟩:∃b,A.size=b:=⟨_,rfl⟩;rw[dA A,eb];have r2:Rn q b l x [] h2:=eb▸r2;have w2:Upd No A h2:=k2;have lb:A.size≤b:=Nat.le_of_eq eb;clear eb;refine Join.intro (fun _ s=>Rn q b l (if(aP x).1=81 then(aP x).2 else cS 9 (aP x).2) [] s∧Upd No A s) (fun R U=>DE r2.i fun h3 i3 u3=>CondP.intro (fun c=>sX i3 fun h4 i4 u4=>U _ _ ⟨?_,w2.trans (u3.tr u4) fun y d=>.inr (by have d:y=b:=d;omega)⟩) fun c=>U _ _ ⟨?_,w2.trans u3 fun y d=>.inr (by have d:y=b:=d;omega)⟩) ?_
 ·have c:(aP x).1≠81:=fun e=>by rw[e]at c;exact absurd c (by decide)
  rw[if_neg c];exact(r2.rd i3 u3).rd i4 u4
 ·have c:(aP x).1=81:=by
   have c:((aP x).1:Int)=81:=by simpa using c
   omega
  rw[if_pos c];exact r2.rd i3 u3
 rintro _ h3 ⟨r3,w3⟩;obtain⟨gk,hkd⟩:=JS x;have ge:jW x=(if(aP (if(aP x).1=81 then(aP x).2 else cS 9 (aP x).2)).1=0 then
   ((0,⟨(f8 (aP (if(aP x).1=81 then(aP x).2 else cS 9 (aP x).2)).2).1,(f8 (f8 (aP (if(aP x).1=81 then(aP x).2 else cS 9 (aP x).2)).2).2).1,(f8 (f8 (f8 (aP (if(aP x).1=81 then(aP x).2 else cS 9 (aP x).2)).2).2).2).1⟩),(f8 (f8 (f8 (aP (if(aP x).1=81 then(aP x).2 else cS 9 (aP x).2)).2).2).2).2)
   else if(aP (if(aP x).1=81 then(aP x).2 else cS 9 (aP x).2)).1=1 then((1,⟨0,0,0⟩),(aP (if(aP x).1=81 then(aP x).2 else cS 9 (aP x).2)).2)else(((aP (if(aP x).1=81 then(aP x).2 else cS 9 (aP x).2)).1,⟨0,0,0⟩),cS 11 (aP (if(aP x).1=81 then(aP x).2 else cS 9 (aP x).2)).2)):=rfl
 rw[GF]at he hk;simp only[qK,qN,qV,qB,qT,qL,qZ]at he hk;generalize (if(aP x).1=81 then(aP x).2 else cS 9 (aP x).2)=s1 at*
 generalize jW x=cK at*;have bl:=M8 s1;refine DE r3.i fun h4 i4 u4=>?_
 rw[Go.IntWalk.i64_in _ (by omega)];have w4:Upd No A h4:=w3.trans u4 fun y d=>.inr (by have d:y=b:=d;omega)
 have z4:=w4.size;refine(r3.rd i4 u4).var fun h5 r5 k5 z5=>r5.fill 0 rfl (by rfl) fun h6 r6 u6=>?_
 have w6:Upd No A h6:=(w4.tr k5).trans u6 fun y d=>.inr (by have d:y=h4.size:=d;omega)
 have r6:Rn q b l (aP s1).2 [bU h4.size (qf (aP s1).1 ⟨0,0,0⟩ 0 fL fL fL 0 fL) 36] h6:=r6;obtain⟨pb,epb⟩:∃pb,pb=h4.size:=⟨_,rfl⟩;rw[←epb]at r6;rw[dA h4,←epb];have lpb:A.size≤pb:=by omega
 have Q:∀{s:ae} {M:Nat→Prop} {O:ae},Upd No A O→Upd M O s→(∀y,M y→y=b∨y=pb)→Upd No A s:=fun wa u hm=>wa.trans u fun y d=>.inr (by have:=hm y d;omega)
 refine Join.intro (fun _ s=>Rn q b l (if 1<(aP s1).1 then cS 11 (aP s1).2 else(aP s1).2) [bU pb (qf (aP s1).1 ⟨0,0,0⟩ 0 fL fL fL 0 fL) 36] s∧Upd No A s) (fun R U=>⟨_,r6.cl 0 rfl 0,ak (fun c=>sX r6.i fun h7 i7 u7=>U _ _ ⟨?_,Q w6 u7 fun y d=>.inl d⟩) fun c=>U _ _ ⟨?_,w6⟩⟩) ?_
 ·rw[if_pos (by omega)];exact r6.rd i7 u7
 ·rw[if_neg (by omega)];exact r6
 rintro _ h7 ⟨B,wv7⟩;refine Join.intro (fun _ s=>Rn q b l cK.2 [bU pb (qf cK.1.1 cK.1.2 0 fL fL fL 0 fL) 36] s∧Upd No A s) (fun R U=>⟨_,B.cl 0 rfl 0,CondP.intro (fun c=>?_) fun c=>U _ _ ⟨?_,wv7⟩⟩) ?_
 ·have c:(aP s1).1=0:=by
   have c:((aP s1).1:Int)=0:=by simpa using c
   omega
  rw[if_pos c]at ge;rw[if_neg (by omega)]at B;refine A5 B.i fun h8 i8 u8=>A5 i8 fun h9 i9 u9=>A5 i9 fun hA iA uA=>(((B.rd i8 u8).rd i9 u9).rd iA uA).fillAt 0 rfl (by simp) fun hB rB uB=>U _ _ ⟨?_,Q (Q wv7 ((u8.tr u9).tr uA) fun y d=>.inl d) uB fun y d=>.inr d⟩
  rw[ge];rw[c]at rB;exact rB
 ·have c:(aP s1).1≠0:=fun e=>by rw[e]at c;exact absurd c (by decide)
  rw[if_neg c]at ge;by_cases c1:(aP s1).1=1
  ·rw[if_pos c1]at ge
   rw[ge];rw[c1,if_neg (by omega)]at B;exact B
  ·rw[if_neg c1]at ge
   rw[ge];rw[if_pos (by omega)]at B;exact B
 rintro _ h8 ⟨r8,w8⟩;clear ge B wv7 r6 w6 r3 w3 r5 k5 r2;obtain⟨C,eN⟩:∃c,c=aS 4294967295 cK.2:=⟨_,rfl⟩;have gN:=gk.trans (dW 4294967295 cK.2);have e32:=fK 4294967295 cK.2;rw[←eN]at he hk gN e32;obtain⟨cV,eV⟩:∃c,c=jd nT C.2:=⟨_,rfl⟩;have gV:=gN.trans (m0 ur C.2);rw[←eV]at he hk gV;obtain⟨P,eB⟩:∃c,c=jd f7 cV.2:=⟨_,rfl⟩;have gB:=gV.trans (m0 lf cV.2);rw[←eB]at he hk gB
 obtain⟨Y,eT⟩:∃c,c=jd f7 P.2:=⟨_,rfl⟩;have gT:=gB.trans (m0 lf P.2);rw[←eT]at he hk gT;obtain⟨F,eL⟩:∃c,c=aS 2147483648 Y.2:=⟨_,rfl⟩;have gL:=gT.trans (dW 2147483648 Y.2);have e0:=fK 2147483648 Y.2;rw[←eL]at he hk gL e0;obtain⟨cZ,eZ⟩:∃c,c=jd oB F.2:=⟨_,rfl⟩;rw[←eZ]at he hk;have lN:C.2.1.length≤l.length:=ls▸gN.1;have lV:cV.2.1.length≤l.length:=ls▸gV.1;have lB:P.2.1.length≤l.length:=ls▸gB.1
 have lL:F.2.1.length≤l.length:=ls▸gL.1;refine oy r8.i 4294967295 fun h9 i9 u9=>?_
 rw[←eN]at i9⊢;rw[Go.IntWalk.u32_in _ (by omega)];refine(r8.rd i9 u9).wr (p:=pb) (i:=4) 0 rfl (by simp) fun hA rA uA=>yw rA.i fun hB iB uB=>?_
 have wB:Upd No A hB:=Q (Q (Q w8 u9 fun y d=>.inl d) uA fun y d=>.inr d) uB fun y d=>.inl d
 have rB:=(rA.rd iB uB).cons (a:=bV BN 7 70 fL []) (OwnS.nil X9) fun y d=>absurd d (ie y)
 have RB:RnV A.size q b l cK.1.1 cK.1.2 (dX C.2).2 [bV BN 7 70 fL [],bU pb (qf cK.1.1 cK.1.2 C.1 fL fL fL 0 fL) 36] [] [] [] [] hB:=⟨rB,LOk.nil,LOk.nil,wB.size⟩;have hnl:=zO C.2;unfold jd at eV;refine LoopP.ghost (fun(g:Nat×List tL×dV) (t:Int) s=>t=(g.1:Int)∧g.1<18446744073709551616∧∃vs VS,RnV A.size q b l cK.1.1 cK.1.2 g.2.2 [bV BN 7 70 vs VS,bU pb (qf cK.1.1 cK.1.2 C.1 vs fL fL 0 fL) 36] VS g.2.1 [] [] s∧RdN l.length g.2.1.length g.2.2∧Upd No A s∧(∀y,sb vs y→A.size≤y)∧jt nT g.1 g.2.1 g.2.2=jt nT (dX C.2).1 [] (dX C.2).2) (fun g=>g.1) ((dX C.2).1,[],(dX C.2).2)
  ⟨rfl,hnl,fL,[],RB,RdN.zero (co (jF C.2).1 lN),wB,fun y d=>absurd d (ie y),rfl⟩ ?_
 rintro I ⟨n,rv,L⟩ t hC ⟨et,hn2,vs,VS,R,rn,wC,hsb,hr⟩ hI;(try simp only at et hn2 R rn hr)
 subst et;refine Join.intro (fun t s=>s=hC∧t=decide (0<n∧L.2=0)) (fun R' U=>Lg R.r.i (U _ _ ⟨rfl,rfl⟩)) ?_
 rintro t s ⟨rfl,rfl⟩;refine ak (fun c=>?_) fun c=>?_
 ·have hl:=rn.len0 c.2
  have lb2:=R.r.lt;have z6:=wC.size;have lpb2:pb<s.size:=R.r.o.al ⟨_,ao (i:=1) rfl,rfl⟩;have e32b:=fK 4294967295 L;have e2:=fK 2 (aS 4294967295 L).2;refine Join.plain (oy R.r.i 4294967295 fun D i1 u1=>?_)
  rw[Go.IntWalk.u32_in _ (by omega)];refine(R.r.rd i1 u1).var fun h2' r2 k2 z2=>r2.fill 0 rfl (by rfl) fun h3' r3 u3=>oy r3.i 2 fun Z i4 u4=>?_
  have r4:=r3.rd i4 u4;have z1':=u1.size;have z3':=u3.size;have z4':=u4.size;have w4':Upd (fun y=>(y=b∨y=pb∨sb vs y)∨s.size≤y) s Z:=(((u1.mono fun y d=>.inl (.inl (.inl d))).tr k2.wide).tr (u3.mono fun y d=>.inl (.inr (by have d:y=D.size:=d;omega)))).tr (u4.mono fun y d=>.inl (.inl (.inl d)))
  have r5:=r4.cons (a:=bV u32 1 31 fL []) (OwnS.nil yq) fun y d=>absurd d (ie y)
  have gev:(nT L)=((((aS 4294967295 L).1:Int),(ph (aS 2 (aS 4294967295 L).2).1 [] (aS 2 (aS 4294967295 L).2).2).1,(fj (ph (aS 2 (aS 4294967295 L).2).1 [] (aS 2 (aS 4294967295 L).2).2).2).1),(fj (ph (aS 2 (aS 4294967295 L).2).1 [] (aS 2 (aS 4294967295 L).2).2).2).2):=rfl;have g1:=(dW 4294967295 L).1;have g2:=(dW 2 (aS 4294967295 L).2).1
  obtain⟨m,rfl⟩:∃m,n=m+1:=⟨n-1,by omega⟩
  have ew:ac .u64 (((m+1:Nat):Int)-1)=(m:Int):=by rw[Go.IntWalk.u64_in _ (by omega)];omega
  rw[yz c.2]at hr;have nx:=rn.next c.2 (ur L) MZ
  rw[gev]at hr nx;generalize (aS 2 (aS 4294967295 L).2).1=np at*;generalize (aS 2 (aS 4294967295 L).2).2=s6 at*;generalize (aS 4294967295 L).1=idn at*;refine LoopP.ghost (fun(g:Nat×List Int×dV) (t:Int) S=>t=(g.1:Int)∧g.2.1.length+g.1=np∧g.2.2.1.length≤90000∧ph g.1 g.2.1 g.2.2=ph np [] s6∧∃sl,Rn q b l g.2.2 (bV u32 1 31 sl g.2.1::bU D.size (BN ((idn:Int),sl,aaA)) 70:: [bV BN 7 70 vs VS,bU pb (qf cK.1.1 cK.1.2 C.1 vs fL fL 0 fL) 36]) S∧Upd (fun y=>(y=b∨y=pb∨sb vs y)∨s.size≤y) s S∧Z.size≤S.size∧(∀y,sb sl y→Z.size≤y)) (fun g=>g.1) (np,[],s6)
   ⟨rfl,by simp,by(try simp only);omega,rfl,fL,r5,w4',ai _,fun y d=>absurd d (ie y)⟩ ?_
  rintro I2 ⟨i,li,si⟩ t h5' ⟨et,hli,hs,hri,sl,r,w,z,V⟩ hI2;(try simp only at et hli hs hri r)
  subst et;refine ak (fun ci=>?_) fun ci=>?_
  ·obtain⟨i,rfl⟩:∃j,i=j+1:=⟨i-1,by omega⟩
   have e32c:=fK 4294967295 si;refine Join.plain ⟨sl,r.cl 1 rfl 1,oy r.i 4294967295 fun h8 i8 u8=>?_⟩
   have r8:=r.rd i8 u8;rw[Go.IntWalk.u32_in _ (by omega)];refine⟨r8.cl 1 rfl 1,bj fun h9 b9 k9=>?_⟩
   have r9:=r8.up0 k9;have z8:=u8.size;have z9:=k9.size;refine⟨r9.cl 1 rfl 1,r9.push (y:=(((aS 4294967295 si).1:Nat):Int)) 0 rfl b9 rfl rfl ⟨by decide,by decide⟩ (by omega) fun s' O ra ua hsa=>ra.wr (p:=D.size) (i:=1) 1 rfl (by simp) fun hb rb ub=>?_⟩
   have z11:=ua.size;have z12:=ub.size;have ewi:ac .u64 (((i+1:Nat):Int)-1)=(i:Int):=by rw[Go.IntWalk.u64_in _ (by omega)];omega
   have g3:=(dW 4294967295 si).1;refine hI2 (i,li++ [(((aS 4294967295 si).1:Nat):Int)],(aS 4294967295 si).2) _ _ ⟨ewi,by simp only[af,aI];omega,by(try simp only);omega,hri,s',rb,((w.tr (u8.mono fun y d=>.inl (.inl (.inl d)))).tr k9.wide).tr ((ua.mono fun y d=>.inl (.inr (by have:=V y d;omega))).tr (ub.mono fun y d=>.inl (.inr (by have d:y=D.size:=d;omega)))),by omega,fun y d=>(hsa y d).elim (V y) fun e=>by omega⟩ (by simp)
  ·have hi0:i=0:=by omega
   subst hi0;have hri:(li,si)=ph np [] s6:=hri;rw[←hri]at hr nx;(try simp only at hr nx)
   refine⟨_,r.cl 3 rfl 0,_,r.cl 3 rfl 1,_,r.cl 3 rfl 2,_,r.cl 3 rfl 3,JI r (by omega) fun h6' X r6 u6 to=>r6.fillAt 1 rfl (by simp) fun h7' B u7=>?_⟩
   have B:Rn q b l (fj si).2 (bV u32 1 31 sl li::bU D.size (BN ((idn:Int),sl,X)) 70:: [bV BN 7 70 vs VS,bU pb (qf cK.1.1 cK.1.2 C.1 vs fL fL 0 fL) 36]) h7':=B;have z5':=w.size;have z6':=u6.size;have z7':=u7.size;refine⟨vs,B.cl 3 rfl 5,_,B.cl 1 rfl 0,sl,B.cl 1 rfl 1,_,B.cl 1 rfl 2,_,B.cl 1 rfl 3,_,B.cl 1 rfl 4,_,B.cl 1 rfl 5,X.2.2.2.2,B.cl 1 rfl 6,bj fun h8' b8 k8=>?_⟩
   have r8:=B.up0 k8;have z8':=k8.size;have hVS:VS.length=rv.length:=R.v.1;refine r8.push (f:=BN) (so:=vs) (out:=VS) (bytes:=88) (y:=((idn:Int),sl,X)) 2 rfl b8 rfl (by rfl) ⟨by decide,by decide⟩ (by omega) fun s' h9' r9 u9 hs9=>r9.wr (p:=pb) (i:=5) 3 rfl (by simp) fun H rA' uA'=>?_
   have z9':=u9.size;have zA':=uA'.size;have o:OwnS u32 1 31 (sb sl) H sl li:=rA'.o.get (i:=0) rfl;have rE:Rn q b l (fj si).2 [bV BN 7 70 s' (VS++ [((idn:Int),sl,X)]),bU pb (qf cK.1.1 cK.1.2 C.1 s' fL fL 0 fL) 36] H:=rA'.tail.tail;have N:∀y,y=pb∨sb vs y→AL [bV BN 7 70 vs VS,bU pb (qf cK.1.1 cK.1.2 C.1 vs fL fL 0 fL) 36] y:=fun y d=>d.elim (fun e=>⟨_,ao (i:=1) rfl,e⟩) fun e=>⟨_,ao (i:=0) rfl,e⟩
   have w6':Upd (fun y=>(y=pb∨sb vs y)∨y=D.size) h6' H:=((((u7.mono fun y d=>.inl (.inr d)).tr k8.wide).tr (u9.mono fun y d=>.inl (.inl (.inr d)))).tr (uA'.mono fun y d=>.inl (.inl (.inl d))))
   have wE:Upd (fun y=>(y=b∨y=pb∨sb vs y)∨s.size≤y) s H:=(w.tr (u6.mono fun y d=>.inl (.inl (.inl d)))).tr (w6'.mono fun y d=>.inl (d.elim (fun e=>.inl (.inr e)) fun e=>.inr (by omega)))
   have hP:∀z0,z0≤h8'.size→∀y,AL [bV BN 7 70 s' (VS++ [((idn:Int),sl,X)]),bU pb (qf cK.1.1 cK.1.2 C.1 s' fL fL 0 fL) 36] y→AL [bV BN 7 70 vs VS,bU pb (qf cK.1.1 cK.1.2 C.1 vs fL fL 0 fL) 36] y∨z0≤y:=by
    rintro z0 hz y ⟨a,O,d⟩;simp only[ar,dE,or_false]at O;rcases O with rfl|rfl
    ·exact(hs9 y d).elim (fun e=>.inl (N y (.inr e))) fun e=>.inr (by omega)
    ·exact .inl (N y (.inl d))
   have RE:=R.go rE wE (fun y d=>d.elim (fun e=>.inl (e.imp id (N y))) .inr) (hP _ (by omega))
   have on:XvOk (fun y=>y<A.size∨y=b∨AL [bV BN 7 70 s' (VS++ [((idn:Int),sl,X)]),bU pb (qf cK.1.1 cK.1.2 C.1 s' fL fL 0 fL) 36] y) H cK.1.1 cK.1.2 ((idn:Int),sl,X) ((idn:Int),li,(fj si).1):=by
    refine⟨rfl,o.sl fun y d _ hW=>?_,to.re (W:=fun y=>y<h5'.size) w6' (fun y d=>.inl ?_) fun y d=>?_⟩
    ·have:=V y d
     rcases hW with e|e|e
     ·omega
     ·omega
     ·rcases hP Z.size (by omega) y e with e|e
      ·have:=R.r.o.al e;omega
      ·obtain⟨a,O,hy2⟩:= ‹AL _ y›
       simp only[ar,dE,or_false]at O;exact(rA'.o.pd 0 2 _ _ rfl rfl (by decide) y d (by
        rcases O with rfl|rfl
        ·exact hy2
        ·have hy2:y=pb:=hy2;omega)).elim
    ·show y<h5'.size
     rcases d with e|e
     ·have:=R.r.o.al (N y e);omega
     ·omega
    ·rcases d with e|e|e
     ·exact .inl (by show y<h5'.size;omega)
     ·exact .inl (by show y<h5'.size;omega)
     ·exact(hP h6'.size (by omega) y e).imp (fun e=>by have:=R.r.o.al e;show y<h5'.size;omega) id
   refine hI (m,rv++ [((idn:Int),li,(fj si).1)],(fj si).2) _ _ ⟨ew,by omega,s',_,⟨RE.r,RE.v.push on,RE.s,RE.lz⟩,by simpa using nx,wC.trans wE fun y d=>.inr ?_,fun y d=>(hs9 y d).elim (hsb y) fun e=>by omega,hr⟩ (by simp)
   rcases d with(e|e|e)|e
   ·omega
   ·omega
   ·exact hsb y e
   ·omega
 rw[yy c,←eV]at hr;subst hr;have eB:P=jd f7 L:=eB;have lV:L.1.length≤l.length:=lV;have wDone:∀{s:ae} {M:Nat→Prop} {O:ae},Upd No A O→Upd M O s→(∀y,M y→y=b∨y=pb)→Upd No A s:=Q;refine R.named (by omega) fun hD bx RD uD obx=>?_
 rw[←eB]at RD;have obx:∀y,sb bx y→A.size≤y:=fun y d=>by have:=obx y d;have:=wC.size;omega
 have wD:=Q wC uD fun y d=>.inl d
 refine RD.wr (p:=pb) (i:=6) 2 rfl (by simp) fun hE RE uE=>?_
 have wE:=Q wD uE fun y d=>.inr d
 have RE:RnV A.size q b l cK.1.1 cK.1.2 P.2 [bV fJ 2 131 bx P.1,bV BN 7 70 vs VS,bU pb (qf cK.1.1 cK.1.2 C.1 vs bx fL 0 fL) 36] VS rv [] [] hE:=RE;refine RE.named (by omega) fun hF E RF uF otx=>?_
 rw[←eT]at RF;have otx:∀y,sb E y→A.size≤y:=fun y d=>by have:=otx y d;have:=wE.size;omega
 have wF:=Q wE uF fun y d=>.inl d
 refine RF.wr (p:=pb) (i:=7) 3 rfl (by simp) fun hG RG uG=>?_
 have wG:=Q wF uG fun y d=>.inr d
 refine oy RG.r.i 2147483648 fun hH iH uH=>?_
 rw[←eL]at iH⊢;rw[Go.IntWalk.i64_in _ (by omega)];have wH:=Q wG uH fun y d=>.inl d
 refine(RG.rd iH uH).wr (p:=pb) (i:=8) 3 rfl (by simp) fun hK RK uK=>yw RK.r.i fun hJ iJ uJ=>?_
 have wK:=Q (Q wH uK fun y d=>.inr d) uJ fun y d=>.inl d
 have RJ:=RK.rd iJ uJ;have RJ:RnV A.size q b l cK.1.1 cK.1.2 (dX F.2).2 [bV fJ 2 131 E Y.1,bV fJ 2 131 bx P.1,bV BN 7 70 vs VS,bU pb (qf cK.1.1 cK.1.2 C.1 vs bx E F.1 fL) 36] VS rv [] [] hJ:=RJ;have RJ:=RJ.go (RJ.r.cons (a:=bV KQ 7 74 fL []) (OwnS.nil Ya) fun y d=>absurd d (ie y)) (Upd.refl No _) (fun _ h=>h.elim) fun y d=>(qw d).elim (fun e=>absurd e (ie y)) .inl
 have hnl:=zO F.2;unfold jd at eZ;refine LoopP.ghost (fun(g:Nat×List (Int×Bool×List Pr)×dV) (t:Int) s=>t=(g.1:Int)∧g.1<18446744073709551616∧∃ss SS,RnV A.size q b l cK.1.1 cK.1.2 g.2.2 [bV KQ 7 74 ss SS,bV fJ 2 131 E Y.1,bV fJ 2 131 bx P.1,bV BN 7 70 vs VS,bU pb (qf cK.1.1 cK.1.2 C.1 vs bx E F.1 ss) 36] VS rv SS g.2.1 s∧RdN l.length g.2.1.length g.2.2∧Upd No A s∧(∀y,sb ss y→A.size≤y)∧jt oB g.1 g.2.1 g.2.2=jt oB (dX F.2).1 [] (dX F.2).2) (fun g=>g.1) ((dX F.2).1,[],(dX F.2).2)
  ⟨rfl,hnl,fL,[],RJ,RdN.zero (co (jF F.2).1 lL),wK,fun y d=>absurd d (ie y),rfl⟩ ?_
 clear hI;rintro I ⟨n4,rz,J⟩ t hL ⟨et,hn4,ss,SS,RL,rnl,wL,V,hr4⟩ hI;(try simp only at et hn4 RL rnl hr4)
 subst et;refine Join.intro (fun t s=>s=hL∧t=decide (0<n4∧J.2=0)) (fun R' U=>Lg RL.r.i (U _ _ ⟨rfl,rfl⟩)) ?_
 rintro t s ⟨rfl,rfl⟩;refine ak (fun c4=>?_) fun c4=>?_
 ·have hl:=rnl.len0 c4.2
  have lb2:=RL.r.lt;have z6:=wL.size;have lpb2:pb<s.size:=RL.r.o.al ⟨_,ao (i:=4) rfl,rfl⟩;have e32b:=fK 2147483648 J;refine Join.plain (oy RL.r.i 2147483648 fun D i1 u1=>?_)
  rw[Go.IntWalk.i64_in _ (by omega)];refine(RL.r.rd i1 u1).var fun h2' r2 k2 z2=>r2.fill 0 rfl (by rfl) fun h3' r3 u3=>DE r3.i fun Z i4 u4=>?_
  have r4:=r3.rd i4 u4;have z1':=u1.size;have z3':=u3.size;have z4':=u4.size;have w4':Upd (fun y=>(y=b∨y=pb∨sb ss y)∨s.size≤y) s Z:=(((u1.mono fun y d=>.inl (.inl (.inl d))).tr k2.wide).tr (u3.mono fun y d=>.inl (.inr (by have d:y=D.size:=d;omega)))).tr (u4.mono fun y d=>.inl (.inl (.inl d)))
  have gev:(oB J)=((((aS 2147483648 J).1:Int),decide ((aP (aS 2147483648 J).2).1=1),(fj (ig (aS 2147483648 J).2).2).1),(fj (ig (aS 2147483648 J).2).2).2):=rfl;have eb1:(ig (aS 2147483648 J).2).2=if 1<(aP (aS 2147483648 J).2).1 then cS 9 (aP (aS 2147483648 J).2).2 else(aP (aS 2147483648 J).2).2:=rfl
  have g1:=(dW 2147483648 J).1;have g2:=(zQ (aS 2147483648 J).2).1;obtain⟨m,rfl⟩:∃m,n4=m+1:=⟨n4-1,by omega⟩
  have ew:ac .u64 (((m+1:Nat):Int)-1)=(m:Int):=by rw[Go.IntWalk.u64_in _ (by omega)];omega
  rw[yz c4.2]at hr4;have nx:=rnl.next c4.2 (Cc J) M1
  rw[gev]at hr4 nx;generalize (ig (aS 2147483648 J).2).2=s7 at*;generalize (aP (aS 2147483648 J).2).1=nb at*;generalize (aP (aS 2147483648 J).2).2=s6 at*;generalize (aS 2147483648 J).1=idn at*;refine Join.intro (fun _ S=>Rn q b l s7 (bU D.size (KQ ((idn:Int),false,aaA)) 74:: [bV KQ 7 74 ss SS,bV fJ 2 131 E Y.1,bV fJ 2 131 bx P.1,bV BN 7 70 vs VS,bU pb (qf cK.1.1 cK.1.2 C.1 vs bx E F.1 ss) 36]) S∧Upd (fun y=>(y=b∨y=pb∨sb ss y)∨s.size≤y) s S∧Z.size≤S.size) (fun R U=>ak (fun cb=>sX r4.i fun h5 i5 u5=>U _ _ ⟨?_,w4'.tr (u5.mono fun y d=>.inl (.inl (.inl d))),u5.size⟩) fun cb=>U _ _ ⟨?_,w4',ai _⟩) ?_
  ·rw[eb1,if_pos (by omega)];exact r4.rd i5 u5
  ·rw[eb1,if_neg (by omega)];exact r4
  rintro _ h5' ⟨r,w,z⟩;have en:((nb:Int)==(1:Int))=decide (nb=1):=by
   by_cases e:nb=1
   ·subst e;rfl
   ·rw[decide_eq_false e];exact beq_eq_false_iff_ne.2 (by omega)
  rw[en];refine r.wr (p:=D.size) (i:=1) 0 rfl (by simp) fun h5a T ua0=>?_
  have T:Rn q b l s7 (bU D.size (KQ ((idn:Int),decide (nb=1),aaA)) 74:: [bV KQ 7 74 ss SS,bV fJ 2 131 E Y.1,bV fJ 2 131 bx P.1,bV BN 7 70 vs VS,bU pb (qf cK.1.1 cK.1.2 C.1 vs bx E F.1 ss) 36]) h5a:=T;refine⟨_,T.cl 5 rfl 0,_,T.cl 5 rfl 1,_,T.cl 5 rfl 2,_,T.cl 5 rfl 3,JI T (by omega) fun h6' X r6 u6 to=>r6.fillAt 0 rfl (by simp) fun h7' B u7=>?_⟩
  have B:Rn q b l (fj s7).2 (bU D.size (KQ ((idn:Int),decide (nb=1),X)) 74:: [bV KQ 7 74 ss SS,bV fJ 2 131 E Y.1,bV fJ 2 131 bx P.1,bV BN 7 70 vs VS,bU pb (qf cK.1.1 cK.1.2 C.1 vs bx E F.1 ss) 36]) h7':=B;have z5':=w.size;have z5a:=ua0.size;have z6':=u6.size;have z7':=u7.size;refine⟨ss,B.cl 5 rfl 9,_,B.cl 0 rfl 0,_,B.cl 0 rfl 1,_,B.cl 0 rfl 2,_,B.cl 0 rfl 3,_,B.cl 0 rfl 4,_,B.cl 0 rfl 5,X.2.2.2.2,B.cl 0 rfl 6,bj fun h8' b8 k8=>?_⟩
  have r8:=B.up0 k8;have z8':=k8.size;have hSS:SS.length=rz.length:=RL.s.1;refine r8.push (f:=KQ) (so:=ss) (out:=SS) (bytes:=72) (y:=((idn:Int),decide (nb=1),X)) 1 rfl b8 rfl (by rfl) ⟨by decide,by decide⟩ (by omega) fun s' h9' r9 u9 hs9=>r9.wr (p:=pb) (i:=9) 5 rfl (by simp) fun H rA' uA'=>?_
  have z9':=u9.size;have zA':=uA'.size;have rE:Rn q b l (fj s7).2 [bV KQ 7 74 s' (SS++ [((idn:Int),decide (nb=1),X)]),bV fJ 2 131 E Y.1,bV fJ 2 131 bx P.1,bV BN 7 70 vs VS,bU pb (qf cK.1.1 cK.1.2 C.1 vs bx E F.1 s') 36] H:=rA'.tail;have N:∀y,y=pb∨sb ss y→AL [bV KQ 7 74 ss SS,bV fJ 2 131 E Y.1,bV fJ 2 131 bx P.1,bV BN 7 70 vs VS,bU pb (qf cK.1.1 cK.1.2 C.1 vs bx E F.1 ss) 36] y:=fun y d=>d.elim (fun e=>⟨_,ao (i:=4) rfl,e⟩) fun e=>⟨_,ao (i:=0) rfl,e⟩
  have w6':Upd (fun y=>(y=pb∨sb ss y)∨y=D.size) h6' H:=((((u7.mono fun y d=>.inl (.inr d)).tr k8.wide).tr (u9.mono fun y d=>.inl (.inl (.inr d)))).tr (uA'.mono fun y d=>.inl (.inl (.inl d))))
  have wE2:Upd (fun y=>(y=b∨y=pb∨sb ss y)∨s.size≤y) s H:=((w.tr (ua0.mono fun y d=>.inl (.inr (by have d:y=D.size:=d;omega)))).tr (u6.mono fun y d=>.inl (.inl (.inl d)))).tr (w6'.mono fun y d=>.inl (d.elim (fun e=>.inl (.inr e)) fun e=>.inr (by omega)))
  have hP:∀z0,z0≤h8'.size→∀y,AL [bV KQ 7 74 s' (SS++ [((idn:Int),decide (nb=1),X)]),bV fJ 2 131 E Y.1,bV fJ 2 131 bx P.1,bV BN 7 70 vs VS,bU pb (qf cK.1.1 cK.1.2 C.1 vs bx E F.1 s') 36] y→AL [bV KQ 7 74 ss SS,bV fJ 2 131 E Y.1,bV fJ 2 131 bx P.1,bV BN 7 70 vs VS,bU pb (qf cK.1.1 cK.1.2 C.1 vs bx E F.1 ss) 36] y∨z0≤y:=by
   rintro z0 hz y ⟨a,O,d⟩;simp only[ar,dE,or_false]at O;rcases O with rfl|rfl|rfl|rfl|rfl
   ·exact(hs9 y d).elim (fun e=>.inl (N y (.inr e))) fun e=>.inr (by omega)
   ·exact .inl ⟨_,ao (i:=1) rfl,d⟩
   ·exact .inl ⟨_,ao (i:=2) rfl,d⟩
   ·exact .inl ⟨_,ao (i:=3) rfl,d⟩
   ·exact .inl (N y (.inl d))
  have RE2:=RL.go rE wE2 (fun y d=>d.elim (fun e=>.inl (e.imp id (N y))) .inr) (hP _ (by omega))
  have on:XsOk (fun y=>y<A.size∨y=b∨AL [bV KQ 7 74 s' (SS++ [((idn:Int),decide (nb=1),X)]),bV fJ 2 131 E Y.1,bV fJ 2 131 bx P.1,bV BN 7 70 vs VS,bU pb (qf cK.1.1 cK.1.2 C.1 vs bx E F.1 s') 36] y) H cK.1.1 cK.1.2 ((idn:Int),decide (nb=1),X) ((idn:Int),decide (nb=1),(fj s7).1):=by
   refine⟨rfl,rfl,to.re (W:=fun y=>y<h5a.size) w6' (fun y d=>.inl ?_) fun y d=>?_⟩
   ·show y<h5a.size
    rcases d with e|e
    ·have:=RL.r.o.al (N y e);omega
    ·omega
   ·rcases d with e|e|e
    ·exact .inl (by show y<h5a.size;omega)
    ·exact .inl (by show y<h5a.size;omega)
    ·exact(hP h6'.size (by omega) y e).imp (fun e=>by have:=RL.r.o.al e;show y<h5a.size;omega) id
  refine hI (m,rz++ [((idn:Int),decide (nb=1),(fj s7).1)],(fj s7).2) _ _ ⟨ew,by omega,s',_,⟨RE2.r,RE2.v,RE2.s.push on,RE2.lz⟩,by simpa using nx,wL.trans wE2 fun y d=>.inr ?_,fun y d=>(hs9 y d).elim (V y) fun e=>by omega,hr4⟩ (by simp)
  rcases d with(e|e|e)|e
  ·omega
  ·omega
  ·exact V y e
  ·omega
 rw[yy c4,←eZ]at hr4;subst hr4;refine T8 RL.r.i fun hM iM uM=>?_
 have RM:=RL.rd iM uM;have wM:=Q wL uM fun y d=>.inl d
 have bM:=wM.get0 b1;refine CondP.intro (fun c=>?_) fun c=>?_
 ·have c:(xi J).2≠0:=by simpa using c
  refine dt bM (by rfl) fun hE G uE=>⟨_,vc G 0,_,vc G 1,_,vc G 2,_,vc G 3,_,vc G 4,fL,vc G 5,fL,vc G 6,fL,vc G 7,_,vc G 8,fL,vc G 9,he c hE ((k1.tr wM).trans uE fun y d=>.inr (by have d:y=h.size:=d;omega))⟩
 ·have c:(xi J).2=0:=by simpa using c
  have zM:=wM.size;refine⟨_,RM.r.cl 4 rfl 0,_,RM.r.cl 4 rfl 1,_,RM.r.cl 4 rfl 2,_,RM.r.cl 4 rfl 3,_,RM.r.cl 4 rfl 4,vs,RM.r.cl 4 rfl 5,bx,RM.r.cl 4 rfl 6,E,RM.r.cl 4 rfl 7,_,RM.r.cl 4 rfl 8,ss,RM.r.cl 4 rfl 9,dt bM (by rfl) fun hE G uE=>⟨_,vc G 0,_,vc G 1,_,vc G 2,_,vc G 3,_,vc G 4,vs,vc G 5,bx,vc G 6,E,vc G 7,_,vc G 8,ss,vc G 9,hk c hE ((cK.1.1:Int),cK.1.2.k0,cK.1.2.k1,cK.1.2.mask,(C.1:Int),vs,bx,E,(F.1:Int),ss) ?_ ((k1.tr wM).trans uE fun y d=>.inr (by have d:y=h.size:=d;omega))⟩⟩
  have hw:∀y,y=h.size→(y<A.size∨y=b∨AL [bV KQ 7 74 ss SS,bV fJ 2 131 E Y.1,bV fJ 2 131 bx P.1,bV BN 7 70 vs VS,bU pb (qf cK.1.1 cK.1.2 C.1 vs bx E F.1 ss) 36] y)∨hM.size≤y:=fun y d=>.inl (.inl (by omega))
  have hw2:∀y,y<h.size→(y<A.size∨y=b∨AL [bV KQ 7 74 ss SS,bV fJ 2 131 E Y.1,bV fJ 2 131 bx P.1,bV BN 7 70 vs VS,bU pb (qf cK.1.1 cK.1.2 C.1 vs bx E F.1 ss) 36] y)∨hM.size≤y:=fun y d=>.inl (.inl (by omega))
  have sub:∀{α:Type} {f:α→List Value} {sz:Nat} {ty:TypeId} {sx:SliceV} {xs:List α},OwnS f sz ty (sb sx) hM sx xs→(∀y,sb sx y→A.size≤y)→Sl f sz (fun y=>y<h.size) hE sx xs:=fun o ho=>
   ((o.sl (W:=fun y=>y<A.size) fun y d _ hlt=>by have:=ho y d;omega).upd uE fun y d=>.inl (by show y<A.size;have d:y=h.size:=d;omega)).less fun y d=>.inl (by show y<A.size;have d:y<h.size:=d;omega)
  refine⟨rfl,⟨rfl,rfl,rfl⟩,rfl,⟨VS,sub (RM.r.o.get (i:=3) rfl) hsb,RM.v.imp fun v r o=>o.re uE hw hw2⟩,sub (RM.r.o.get (i:=2) rfl) obx,sub (RM.r.o.get (i:=1) rfl) otx,rfl,⟨SS,sub (RM.r.o.get (i:=0) rfl) V,RM.s.imp fun v r o=>o.re uE hw hw2⟩⟩
end Go.Proofs
namespace Go.Proofs
open Go Go.Lift
def Stab(F:(Nat→Prop)→ae→Prop):Prop:=∀(W W' M:Nat→Prop) (h h':ae),F W h→Upd M h h'→(∀b,M b→W b∨h.size≤b)→(∀b,W' b→(W b∨h.size≤b)∧b<h'.size)→F W' h'
structure Fm(Ss:List Sp)(F:(Nat→Prop)→ae→Prop)(h:ae):Prop where
 o:Own Ss h
 st:Stab F
 f:F (AL Ss) h
section
variable {Ss:List Sp} {F G:(Nat→Prop)→ae→Prop} {h h':ae} {a a':Sp} {M:Nat→Prop} {j p:Nat} {c:List Value} {t:TypeId}
theorem Fm.up0(g:Fm Ss F h)(u:Upd No h h'):Fm Ss F h':=
 ⟨g.o.away u fun _ _ h=>h,g.st,g.st _ _ _ _ _ g.f u (fun _ h=>h.elim) fun _ b=>⟨.inl b,aC (g.o.al b) u.size⟩⟩
theorem Fm.new(g:Fm Ss F h)(u:Upd No h h')(Q:a.Q h')(c:∀y,a.T y→h.size≤y∧y<h'.size):Fm (a::Ss) F h':=by
 have o:=(g.up0 u).o.cons Q fun y b=>⟨(c y b).2,fun e=>by have:=g.o.al e;have:=(c y b).1;omega⟩
 exact⟨o,g.st,g.st _ _ _ _ _ g.f u (fun _ h=>h.elim) fun y b=>⟨(qw b).elim (fun e=>.inr (c y e).1) .inl,o.al b⟩⟩
theorem Fm.set(g:Fm Ss F h)(c:Ss[j]? =some a) (u:Upd M h h') (hm:∀y,M y→a.T y∨h.size≤y) (Q:a'.Q h') (d:∀y,a'.T y→(a.T y∨h.size≤y)∧y<h'.size):Fm (Ss.set j a') F h':=by
 have o:=g.o.set c u hm Q d;exact⟨o,g.st,g.st _ _ _ _ _ g.f u (fun y b=>(hm y b).imp (fun e=>⟨a,ao c,e⟩) id) fun y b=>⟨D9 c (fun y b=>(d y b).1) y b,o.al b⟩⟩
theorem Fm.tail(g:Fm (a::Ss) F h):Fm Ss F h:=
 ⟨g.o.tail,g.st,g.st _ _ _ _ _ g.f (Upd.refl No h) (fun _ h=>h.elim) fun _ ⟨z,b,c⟩=>⟨.inl ⟨z,aA _ b,c⟩,g.o.al ⟨z,aA _ b,c⟩⟩⟩
theorem Own.hd(o:Own (a::Ss) h):∀y,a.T y→y<h.size∧¬AL Ss y:=fun y b=>⟨o.lt a aD y b,fun⟨z,d,h2⟩=>let⟨k,c⟩:=List.getElem?_of_mem d;o.pd 0 (k+1) a z rfl (by simpa using c) (by omega) y b h2⟩
theorem Fm.swap(g:Fm (a::a'::Ss) F h):Fm (a'::a::Ss) F h:=by
 have o:=g.o;have d:=o.hd;have i:=o.tail.hd;have j:Own (a::Ss) h:=o.tail.tail.cons (o.q a aD) fun y c=>⟨(d y c).1,fun⟨z,b,e⟩=>(d y c).2 ⟨z,aA _ b,e⟩⟩
 have f:Own (a'::a::Ss) h:=j.cons (o.q a' (aA _ aD)) fun y c=>⟨(i y c).1,fun e=>(qw e).elim (fun e=>(d y e).2 ⟨a',aD,c⟩) (i y c).2⟩
 refine⟨f,g.st,g.st _ _ _ _ _ g.f (Upd.refl No h) (fun _ h=>h.elim) fun y c=>⟨.inl ?_,f.al c⟩⟩
 obtain⟨z,b,e⟩:=c;refine⟨z,?_,e⟩;simp only[ar]at b⊢;rcases b with b|b|b
 ·exact .inr (.inl b)
 ·exact .inl b
 ·exact .inr (.inr b)
theorem Fm.add{X:(Nat→Prop)→ae→Prop}(g:Fm Ss F h)(sx:Stab X)(x:X (AL Ss) h):Fm Ss (fun W h=>F W h∧X W h) h:=
 ⟨g.o,fun _ _ _ _ _ f u hm b=>⟨g.st _ _ _ _ _ f.1 u hm b,sx _ _ _ _ _ f.2 u hm b⟩,g.f,x⟩
theorem Fm.less(g:Fm Ss F h)(st:Stab G)(f:∀{W h},F W h→G W h):Fm Ss G h:=⟨g.o,st,f g.f⟩
theorem Fm.turn(g:Fm Ss F h)(u:Upd M h h')(hm:∀y,AL Ss y→¬M y)(st:Stab G)(f:G (AL Ss) h'):Fm Ss G h':=⟨g.o.away u hm,st,f⟩
theorem Fm.var(g:Fm Ss F h){f:ae→Prop}(d:∀h',Fm (bU h.size c t::Ss) F h'→f h'):At (hnew h c t) f:=
 bj fun e b1 k1=>d e (g.new k1 b1 fun y b=>by have b:y=h.size:=b;subst b;exact⟨ai _,bc b1⟩)
theorem Fm.blk(g:Fm Ss F h)(j:Nat)(b:Ss[j]? =some (bU p c t)):h[p]? =some (.cells c.toArray t (0,0)):=g.o.get b
theorem Fm.cl(g:Fm Ss F h)(j:Nat)(b:Ss[j]? =some (bU p c t)) (i:Nat):bh h (adr ⟨p,0,none⟩ i)=c[i]?:=by
 rw[vc (g.blk j b) i];simp
theorem Fm.wr(g:Fm Ss F h)(j:Nat)(d:Ss[j]? =some (bU p c t)) {i:Nat} (hi:i<c.length) {v:Value} {f:ae→Prop} (m:∀h',Fm (Ss.set j (bU p (c.set i v) t)) F h'→f h'):Wr h (adr ⟨p,0,none⟩ i)∧At (hset h (adr ⟨p,0,none⟩ i) v) f:=
 nJ (g.blk j d) (c':=(c.set i v).toArray) (by simpa using hi) (by simp) fun h' e u=>m h' (g.set d u (fun y b=>.inl b) e fun y b=>⟨.inl b,by have b:y=p:=b;subst b;exact bc e⟩)
theorem Fm.fill(g:Fm Ss F h)(j:Nat)(d:Ss[j]? =some (bU p c t)) {vs:List Value} (m:vs.length=c.length) {f:ae→Prop} (i:∀h',Fm (Ss.set j (bU p vs t)) F h'→f h'):xw h (some ⟨p,0,none⟩) 0 vs∧At (iw h ⟨p,0,none⟩ 0 vs) f:=
 dt (g.blk j d) m fun h' e u=>i h' (g.set d u (fun y b=>.inl b) e fun y b=>⟨.inl b,by have b:y=p:=b;subst b;exact bc e⟩)
theorem Fm.push{α:Type}{f:α→List Value}{sz bytes:Nat}{ty:TypeId}{so:SliceV}{out:List α}{z:List Value}{y:α}(g:Fm Ss F h)(j:Nat)(n:Ss[j]? =some (bV f sz ty so out)) (q:h[p]? =some (.cells (f y).toArray ty (0,0))) (c:cF (f y)=true) (s:z.length=sz) (e:0<bytes∧bytes≤64*64) (u:out.length+1≤1000000)
  {K:SliceV→ae→Prop} (o:∀s' h',Fm (Ss.set j (bV f sz ty s' (out++ [y]))) F h'→K s' h'):
  ∃xs,SRow h (some ⟨p,0,none⟩) (1*sz) xs∧AppP (some z) sz bytes ty so.a so.len so.cap 1 xs h K:=by
 have m:OwnS f sz ty (sb so) h so out:=g.o.get n;refine⟨_,((OwnS.one m.ne q).sl (W:=No) fun _ _ _ h=>h).srow,?_⟩
 refine AppP.own (M:=fun y=>sb so y∨h.size≤y) (ys:= [y]) (m.more fun y b=>.inl b) rfl rfl (by simpa using c) s e.1 ?_ (.inr (ai _)) fun s' h' d i=>?_
 ·simp only[aI]
  calc (out.length+1)*bytes≤1000000*(64*64):=Nat.mul_le_mul u e.2
   _≤140737488355328:=by omega
 ·have i:Upd (sb so) h h':=i.mono fun y b=>b
  exact o s' h' (g.set n i (fun y b=>.inl b) d.its fun y b=>d.sub y b)
end
end Go.Proofs
namespace Go.Proofs
open Go Go.Lift
structure Sg where
 n:Int
 eb:Nat
 tb:Nat
 ti:Int
 lv:Bool
 d:TD
abbrev Sg.a(e:Sg):Int×Option Addr:=(e.n,some ⟨e.eb,0,none⟩)
abbrev Sg.k(e:Sg):Int×Nat×Bool×TD:=(e.n,e.eb,e.lv,e.d)
structure StoQ(sp vp sm pb cb:Nat)(last:Int)(ids:List Int)(es:List Sg)(h:ae):Prop where
 b:h[sp]? =some (.cells (stL vp (some sm) last (some ⟨pb,0,none⟩)).toArray 121 (0,0))
 o:cb<pb∧pb<sm∧sm<sp
 m:MapAt KI pA h sm (es.map Sg.a)
 p:PoolAt h pb cb 16 ids
 cap:ids.length+(es.filter (·.lv)).length=16
 ed:∀e∈es,EdAt h e.eb pb e.tb e.d.1∧TokAt h e.tb pb e.ti e.lv∧sp<e.eb∧sp<e.tb
 nde:(es.map (·.eb)).Nodup
 ndt:(es.map (·.tb)).Nodup
 ndk:(es.map (·.n)).Nodup
 few:es.length≤16
def Yn(sp sm pb cb:Nat)(es:List Sg)(y:Nat):Prop:=(y=sp∨y=sm∨y=pb∨y=cb)∨∃e∈es,e.eb=y∨e.tb=y
section
variable {h h':ae} {sp vp sm pb cb:Nat} {last:Int} {ids:List Int} {es es':List Sg} {M:Nat→Prop}
theorem StoQ.upd(g:StoQ sp vp sm pb cb last ids es h)(u:Upd M h h')(hM:∀y,Yn sp sm pb cb es y→¬M y):StoQ sp vp sm pb cb last ids es h':=
 ⟨u.get g.b (hM _ (.inl (.inl rfl))),g.o,g.m.upd u (hM _ (.inl (.inr (.inl rfl)))),g.p.upd u (hM _ (.inl (.inr (.inr (.inl rfl))))) (hM _ (.inl (.inr (.inr (.inr rfl))))),g.cap,
  fun e b=>⟨(g.ed e b).1.upd u (hM _ (.inr ⟨e,b,.inl rfl⟩)),(g.ed e b).2.1.upd u (hM _ (.inr ⟨e,b,.inr rfl⟩)),(g.ed e b).2.2⟩,g.nde,g.ndt,g.ndk,g.few⟩
theorem StoQ.lt(g:StoQ sp vp sm pb cb last ids es h):∀y,Yn sp sm pb cb es y→y<h.size:=fun y b=>by
 have f:=g.o;have i:=bc g.b;rcases b with b|⟨e,c,b⟩
 ·omega
 ·have j:=bc (g.ed e c).1
  have d:=bc (g.ed e c).2.1;rcases b with rfl|rfl<;>assumption
theorem Yz{α:Type}(f:Int×Nat×Bool×TD→α)(e:es'.map Sg.k=es.map Sg.k):(es'.map fun e=>f e.k)=es.map fun e=>f e.k:=by
 have:=congrArg (List.map f) e;rw[dR,dR]at this;exact this
end
def nR(sp vp sm pb cb:Nat)(last:Int)(ids:List Int)(es:List Sg):Sp:=⟨Yn sp sm pb cb es,StoQ sp vp sm pb cb last ids es,fun q k b=>q.upd k b⟩
def O7(eb tb:Nat)(ti:Int)(q:Sg):Sg:=if q.eb=eb then{q with tb:=tb,ti:=ti}else q
theorem XW(eb tb:Nat)(ti:Int)(q:Sg):(O7 eb tb ti q).k=q.k:=by unfold O7;split<;>rfl
theorem WG(eb tb:Nat)(ti:Int)(es:List Sg):(es.map (O7 eb tb ti)).map Sg.k=es.map Sg.k:=by
 rw[dR];exact List.map_congr_left fun q _=>XW eb tb ti q
theorem T7(eb tb:Nat)(ti:Int)(es:List Sg):((es.map (O7 eb tb ti)).filter (·.lv)).length=(es.filter (·.lv)).length:=by
 rw[List.filter_map,aX];congr 1
 exact List.filter_congr fun q _=>congrArg (·.2.2.1) (XW eb tb ti q)
theorem T4{eb tb:Nat}{ti:Int}:∀{es:List Sg},(es.map (·.eb)).Nodup→(es.map (·.tb)).Nodup→(∀q∈es,q.tb≠tb)→((es.map (O7 eb tb ti)).map (·.tb)).Nodup
 | [],_,_,_=>List.nodup_nil
 |q::es,b,c,hn=>by
  have b:=eE.1 b;have c:=eE.1 c;have i:=T4 (eb:=eb) (tb:=tb) (ti:=ti) b.2 c.2 fun q m=>hn q (aA _ m)
  rw[bJ,bJ,eE];refine⟨fun hm=>?_,i⟩
  obtain⟨s,j,e⟩:=bI.1 hm;obtain⟨r,g,rfl⟩:=bI.1 j;have o:q.eb≠r.eb:=fun f=>b.1 (by show q.eb∈es.map (·.eb);rw[f];exact bI.2 ⟨r,g,rfl⟩)
  have d:q.tb≠r.tb:=fun f=>c.1 (by show q.tb∈es.map (·.tb);rw[f];exact bI.2 ⟨r,g,rfl⟩)
  have n:=hn q aD;have p:=hn r (aA _ g);unfold O7 at e;split at e<;>split at e
  ·omega
  ·exact n e.symm
  ·exact p e
  ·exact d e.symm
section
variable {h:ae} {sp vp sm pb cb j:Nat} {last:Int} {ids:List Int} {es:List Sg} {Ss:List Sp} {F:(Nat→Prop)→ae→Prop}
theorem W3(g:Fm Ss F h)(U:Ss[j]? =some (nR sp vp sm pb cb last ids es)) {e:Sg} (u:e∈es) {K:Tr→ae→Prop} (X:∀h' ids' es',es'.map Sg.k=es.map Sg.k→Fm (Ss.set j (nR sp vp sm pb cb last ids' es')) F h'→K e.d.1 h'):
  xn 73 [gF e.eb] K h:=by
 have q:StoQ sp vp sm pb cb last ids es h:=g.o.get U;obtain⟨V,N,d3,d4⟩:=q.ed e u;have o1:=q.o;have lt:=q.lt;refine Ol _ ?_;dsimp only[E2,nv,js,jP,L9,eP,Dv,uN,aR,au,aG];refine bj fun C b1 k1=>LP (V.upd k1 fun h=>h) (N.upd k1 fun h=>h) fun h2 E=>?_
 have s1:=k1.size;have z1:=bc b1;have s2:=E.size;cases hl:e.lv with
 |false=>
  refine bj fun h3 b3 P=>dt (c:=kA qG) (vs:=kA e.d.1) b3 rfl fun Q x S=>aV.2 ⟨_,vc x 0,_,vc x 1,_,vc x 2,_,vc x 3,_,vc x 4,_,vc x 5,?_⟩
  have n:Upd No h2 Q:=P.own S (ai _);refine dt (c:=kA qG) (vs:=kA e.d.1) (n.get0 (E.get0 b1)) rfl fun I B O=>⟨_,vc B 0,_,vc B 1,_,vc B 2,_,vc B 3,_,vc B 4,_,vc B 5,?_⟩
  have v:Upd No h I:=((k1.tr E).tr n).own O (ai _);exact X I ids es rfl (g.set U v (fun _ h=>h.elim) (q.upd v fun _ _ h=>h) fun y f=>⟨.inl f,aC (lt y f) v.size⟩)
 |true=>
  rw[hl]at N;refine bj fun h3 b3 P=>dt (c:=kA qG) (vs:=kA qG) b3 rfl fun Q x S=>ay.2 ?_
  have n:Upd No h2 Q:=P.own S (ai _);have p:=(k1.tr E).tr n;have q4:=q.upd p fun _ _ h=>h
  have ww:1≤(es.filter (·.lv)).length:=List.length_pos_of_mem (List.mem_filter.2 ⟨u,hl⟩)
  have cap:=q.cap;obtain⟨i,m,hi⟩:∃i m,ids++ [e.ti]=i::m:=by
   cases ids with
   |nil=>exact⟨_,[],rfl⟩
   |cons a l=>exact⟨a,l++ [e.ti],rfl⟩
  have hil:m.length=ids.length:=by have:=congrArg List.length hi;simpa using this.symm
  refine SX (V.upd p fun h=>h) (N.upd p fun h=>h) q4.p (by omega) hi fun I b O Z t5 H e5 q5=>?_
  have lte:=lt _ (.inr ⟨e,u,.inl rfl⟩);have ltt:=lt _ (.inr ⟨e,u,.inr rfl⟩);have XR:=p.size;have s24:=n.size;refine bj fun h6 b6 k6=>dt (c:=kA qG) (vs:=kA e.d.1) b6 rfl fun h7 A u7=>⟨_,vc A 0,_,vc A 1,_,vc A 2,_,vc A 3,_,vc A 4,_,vc A 5,?_⟩
  have G:Upd No I h7:=k6.own u7 (ai _);have d7:h7[h.size]? =some (.cells (kA qG).toArray 101 (0,0)):=G.get0 (O.get (n.get0 (E.get0 b1)) (by omega));refine dt (c:=kA qG) (vs:=kA e.d.1) d7 rfl fun L D u8=>⟨_,vc D 0,_,vc D 1,_,vc D 2,_,vc D 3,_,vc D 4,_,vc D 5,?_⟩
  have s:Upd (fun y=>y=h.size) I L:=G.wide.tr u8
  have o:Upd (fun y=>y=cb∨y=e.tb∨y=e.eb∨y=h.size) h L:=(p.wide.tr (O.mono fun y f=>.inl (by omega))).tr (s.mono fun y f=>.inl (by omega))
  have zsp:=bc q.b;have R:∀r∈es,r.eb≠cb∧r.tb≠cb:=fun r d=>by obtain⟨_,_,W,Y⟩:=q.ed r d;omega
  have hx:∀r∈es,r.eb≠e.tb∧r.tb≠e.eb:=fun r d=>by
   obtain⟨c1,T,_,_⟩:=q.ed r d;refine⟨fun w=>?_,fun w=>?_⟩
   ·have C:h[r.eb]? =some (.cells (aa4 pb r.tb r.d.1).toArray 221 (0,0)):=c1
    rw[w]at C;have h2:h[e.tb]? =some (.cells #[.pointer (some ⟨pb,0,none⟩),.int .i64 e.ti,.bool true] 249 (0,0)):=N;have:=C.symm.trans h2;simp at this
   ·have C:h[r.tb]? =some (.cells #[.pointer (some ⟨pb,0,none⟩),.int .i64 r.ti,.bool r.lv] 249 (0,0)):=T
    rw[w]at C;have h2:h[e.eb]? =some (.cells (aa4 pb e.tb e.d.1).toArray 221 (0,0)):=V;have:=C.symm.trans h2;simp at this
  have mk:=WG e.eb b i es;refine X L m (es.map (O7 e.eb b i)) mk (g.set U o (fun y f=>?_) ?_ fun y f=>?_)
  ·rcases f with rfl|rfl|rfl|rfl
   ·exact .inl (.inl (.inr (.inr (.inr rfl))))
   ·exact .inl (.inr ⟨e,u,.inr rfl⟩)
   ·exact .inl (.inr ⟨e,u,.inl rfl⟩)
   ·exact .inr (ai _)
  ·refine⟨o.get q.b (by omega),q.o,?_,Z.upd s (by have:=bc Z.2.1;omega) (by omega),by rw[T7];omega,fun r' z=>?_,?_,T4 q.nde q.ndt fun r d=>by have:=lt _ (.inr ⟨r,d,.inr rfl⟩);omega,?_,by rw[aX];exact q.few⟩
   ·have:=Yz (fun k=>((k.1,some ⟨k.2.1,0,none⟩):Int×Option Addr)) mk
    have J:(es.map (O7 e.eb b i)).map Sg.a=es.map Sg.a:=this;rw[J];exact q.m.upd o (by have:=q.m.lt;omega)
   ·obtain⟨r,d,rfl⟩:=bI.1 z
    obtain⟨c1,T,W,Y⟩:=q.ed r d;have l1:=lt _ (.inr ⟨r,d,.inl rfl⟩);have l2:=lt _ (.inr ⟨r,d,.inr rfl⟩);obtain⟨n1,n2⟩:=R r d;obtain⟨x1,x2⟩:=hx r d;by_cases w:r.eb=e.eb
    ·have er:=Uy q.nde d u w
     subst er;rw[show O7 r.eb b i r={r with tb:=b,ti:=i} by unfold O7;rw[if_pos rfl]]
     refine⟨e5.upd s (by omega),?_,W,by show sp<b;omega⟩
     show TokAt L b pb i r.lv
     rw[hl];exact H.upd s (by omega)
    ·rw[show O7 e.eb b i r=r by unfold O7;rw[if_neg w]]
     have tt:r.tb≠e.tb:=fun h=>w (by rw[Uy q.ndt d u h])
     exact⟨c1.upd o (by omega),T.upd o (by omega),W,Y⟩
   ·have J:(es.map (O7 e.eb b i)).map (·.eb)=es.map (·.eb):=Yz (fun k=>k.2.1) mk
    rw[J];exact q.nde
   ·have J:(es.map (O7 e.eb b i)).map (·.n)=es.map (·.n):=Yz (fun k=>k.1) mk
    rw[J];exact q.ndk
  ·have s8:=o.size
   rcases f with f|⟨r',z,f⟩
   ·have:=lt y (.inl f)
    exact⟨.inl (.inl f),by omega⟩
   ·obtain⟨r,d,rfl⟩:=bI.1 z
    have l1:=lt _ (.inr ⟨r,d,.inl rfl⟩);have l2:=lt _ (.inr ⟨r,d,.inr rfl⟩);have lt5:=bc H;have s58:=s.size;unfold O7 at f;split at f
    ·rcases f with rfl|rfl
     ·exact⟨.inl (.inr ⟨r,d,.inl rfl⟩),by show r.eb<_;omega⟩
     ·exact⟨.inr (by show h.size≤b;omega),by show b<_;omega⟩
    ·exact⟨.inl (.inr ⟨r,d,f⟩),by rcases f with rfl|rfl<;>omega⟩
end
end Go.Proofs
namespace Go.Proofs
open Go Go.Lift
structure Fv(z:ae)(vp:Nat)(s:VS)(X:(Nat→Prop)→ae→Prop)(W:Nat→Prop)(h:ae):Prop where
 k:Upd No z h
 lo:∀y,s.M y∨W y→z.size≤y
 v:VaultAt (fun y=>s.M y∨W y) h vp s
 ap:∀y,W y→¬s.M y
 sx:Stab X
 x:X (fun y=>s.M y∨W y) h
theorem Fv.stab{z:ae}{vp:Nat}{s:VS}{X:(Nat→Prop)→ae→Prop}:Stab (Fv z vp s X):=fun W W' M h j f u hm i=>by
 have g:∀b,(s.M b∨W' b)→((s.M b∨W b)∨h.size≤b)∧b<j.size:=fun b d=>d.elim (fun e=>⟨.inl (.inl e),aC (f.v.g.lt b (.inl e)) u.size⟩) fun e=>⟨(i b e).1.imp .inr id,(i b e).2⟩
 exact⟨f.k.fresh u fun y c=>(hm y c).elim (fun e=>f.lo y (.inr e)) fun e=>co f.k.size e,
  fun y c=>c.elim (fun e=>f.lo y (.inl e)) fun e=>(i y e).1.elim (fun e=>f.lo y (.inr e)) fun e=>co f.k.size e,
  f.v.re u (fun b d=>(hm b d).imp (fun e=>⟨.inr e,f.ap b e⟩) id) g fun y c=>.inl c,
  fun y c m=>(i y c).1.elim (fun e=>f.ap y e m) fun e=>absurd (f.v.g.lt y (.inl m)) (Nat.not_lt.2 e),
  f.sx,f.sx _ _ _ _ _ f.x u (fun b d=>(hm b d).imp .inr id) g⟩
theorem Fm.vault{z h d:ae}{vp:Nat}{s s':VS}{X:(Nat→Prop)→ae→Prop}{Ss:List Sp}(g:Fm Ss (Fv z vp s X) h)(u:Upd s.M h d)(v:VaultAt (fun y=>s.M y∨AL Ss y) d vp s')(e:s'.M=s.M):Fm Ss (Fv z vp s' X) d:=by
 have f:=g.f;refine g.turn u (fun y i=>f.ap y i) Fv.stab ⟨f.k.fresh u fun y i=>f.lo y (.inl i),by rw[e];exact f.lo,by rw[e];exact v,by rw[e];exact f.ap,f.sx,?_⟩
 rw[e];exact f.sx _ _ _ _ _ f.x u (fun b c=>.inl (.inl c)) fun b c=>⟨.inl c,aC (f.v.g.lt b c) u.size⟩
theorem Stab.and{X Y:(Nat→Prop)→ae→Prop}(hx:Stab X)(c:Stab Y):Stab fun W h=>X W h∧Y W h:=fun _ _ _ _ _ f u hm b=>⟨hx _ _ _ _ _ f.1 u hm b,c _ _ _ _ _ f.2 u hm b⟩
theorem Stab.sl{α:Type}{f:α→List Value}{c:Nat}{s:SliceV}{xs:List α}:Stab fun W h=>Sl f c W h s xs:=fun W _ _ h _ i u hm e=>((i.less (W':=fun b=>W b∨h.size≤b) fun _ d=>d).upd u fun b d=>.inl (hm b d)).less fun b d=>.inl (e b d).1
theorem PtIs.stab{u:Pt}{p:RParts}:Stab fun W h=>PtIs W h u p:=fun W W' M h n i k hm c=>by
 obtain⟨VS,m,f⟩:=i.v;obtain⟨SS,g,e⟩:=i.s;have d:=fun b j=>(c b j).1
 exact⟨i.k,i.x,i.n,⟨VS,Stab.sl _ _ _ _ _ m k hm c,f.imp fun v r o=>o.re k hm d⟩,Stab.sl _ _ _ _ _ i.b k hm c,Stab.sl _ _ _ _ _ i.t k hm c,i.l,⟨SS,Stab.sl _ _ _ _ _ g k hm c,e.imp fun v r o=>o.re k hm d⟩⟩
end Go.Proofs
namespace Go.Proofs
open Go Go.Lift
section
variable {W:Nat→Prop} {h:ae} {xp xg:Nat} {kind:Int} {x:Hs} {L:dI} {nx:Int} {D:List (Int×TD)} {re:Rt} {ts:SliceV} {Ds:List (Int×Rt)}
theorem CL{β:Type}{k:Int}{v:β}:∀{l:List (Int×β)},k∉l.map (·.1)→oE l k v=l++ [(k,v)]
 | [],_=>rfl
 |(k',u)::l,h=>by
  simp only[bJ,ar,not_or]at h;unfold oE;rw[if_neg h.1,CL h.2];rfl
theorem Sw(g:Rf W h xp xg kind x L nx D re ts Ds)(hD:∀p∈D,p.1∈ids L){id:Int}(hid:0≤id){r:Rt}{l:List Pr}(j:RefIs W h kind x r l){sl:SliceV}{ps:List Int}(hs:Nums W h sl ps)(hn:ps.length*4≤140737488355328)(hL:L.length≤100000)(hDl:D.length≤100000)
  {K:Int→ae→Prop}(hk:∀J ts' Ds',Upd (fun y=>y=xg∨y=xp) h J→(∀t:Tr,Rf W J xp xg kind x (fV L nx id ps).2.1 (fV L nx id ps).2.2 (if(fV L nx id ps).1=0 then oE D id (t,l)else D) re ts' Ds')→K (fV L nx id ps).1 J):
  iI 23 [gF xp,.int .u32 id,aaB r,.slice sl.a sl.len sl.cap] K h:=by
 refine eM (KH (some ⟨xp,0,none⟩) id r sl) Tq Tryz.func23 Tryz.call23 ?_;dsimp only[KH,aR,au,du,cq,nv,dg,db,V7,eS,ce,cf,Ye,Ru,Wb,Wo,ic,ji,dq,MB,iv,dy,FE];refine bj fun S b1 k1=>⟨_,vc b1 0,_,vc b1 1,_,vc b1 2,_,vc b1 3,r.2.2.2.2,vc b1 4,_,rfl,?_⟩
 have c1:=k1.get0 g.blk;refine⟨_,lA c1 0 0,_,lA c1 0 1,_,lA c1 0 2,_,lA c1 0 3,re.2.2.2.2,lA c1 0 4,?_⟩;refine GJ (r:=r) (q:=re) fun h14 X=>?_
 rw[GZ j g.e];have u:=k1.tr X;have w:=g.upd0 u;have s14:=u.size;have lt:∀y,W y→y<h.size:=g.r.lt;have wg:W xg:=g.r.wp;refine ay.2 ⟨_,rfl,_,vc w.blk 5,Wd w.r hid hL (hs.upd u fun _ h=>h.elim) hn fun v s R=>?_⟩
 have U:∀b,b=xg→(W b∧b≠xp):=fun b e=>by subst e;exact⟨wg,g.gx⟩
 have T:∀b,b=xg→W b∨h14.size≤b:=fun b e=>.inl (U b e).1
 have z:=s.get w.blk fun e=>(U _ e).2 rfl
 have e18:=w.e.updM s T;have P:=w.ts.upd s T;have o:∀i (S:i<Ds.length) (h2:i<D.length),Ds[i].1=D[i].1∧RefIs W v kind x Ds[i].2 D[i].2.2:=fun i S h2=>⟨(w.par i S h2).1,(w.par i S h2).2.updM s T⟩
 have s18:=s.size;have ku:Upd (fun y=>y=xg∨y=xp) h v:=u.wide.tr (s.mono fun y C=>.inl (.inl C))
 refine CondP.intro (fun e=>?_) fun e=>?_
 ·have e:(fV L nx id ps).1=0:=by simpa using e
  obtain⟨e2,e3⟩:=qe e;simp only[if_pos e]at hk;have hnew:∀i (h2:i<D.length),D[i].1≠id:=fun i h2 ee=>e3 (ee▸hD _ (bR h2))
  refine⟨_,rfl,ts,vc z 6,?_⟩;have hl:=g.ts.len;have hn2:=g.n;have z1:v[h.size]? =some (.cells (Ox r).toArray 68 (0,0)):=s.get (X.get0 b1) fun e=>by have:=lt _ wg;have e:h.size=xg:=e;omega
  have f18:∀J,Upd No v J→J[xp]? =some (.cells (Ox re++ [Value.pointer (some ⟨xg,0,none⟩),.slice ts.a ts.len ts.cap,.slice none 0 0,.slice none 0 0]).toArray 87 (0,0)):=fun J k=>k.get0 z
  refine LoopP.ghost (fun(q:Nat×SliceV) (t:SliceV×Int) J=>t=(q.2,(q.1:Int))∧q.1≤Ds.length∧OwnS RU 6 136 (sb q.2) J q.2 (Ds.take q.1)∧(∀y,sb q.2 y→v.size≤y)∧Upd No v J) (fun q=>Ds.length-q.1) (0,⟨none,0,0⟩) ⟨rfl,aY _,OwnS.nil QF,fun y C=>absurd C (ie y),Upd.refl _ _⟩ ?_
  rintro I ⟨i,so⟩ t h23 ⟨rfl,hi',ho,F,E⟩ hI;(try simp only at hi' ho F hI⊢)
  have s23:=E.size;refine ak (fun m=>?_) fun hge=>?_
  ·have m:i<Ds.length:=by omega
   obtain⟨a,ha,_,hv⟩:=(P.upd E fun _ h=>h.elim).at (ag m)
   have pe:=(o i m (by omega)).1;refine Join.plain ⟨⟨by omega,by omega⟩,a,ha,_,hv 0 _ rfl,_,hv 1 _ rfl,_,hv 2 _ rfl,_,hv 3 _ rfl,_,hv 4 _ rfl,Ds[i].2.2.2.2.2,hv 5 _ rfl,?_⟩
   refine bj fun h32 b32 k32=>dt (c:= [.int .u32 0,.int .i64 0,.int .u64 0,.int .u64 0,.int .u64 0,.slice none 0 0]) (vs:=RU Ds[i]) b32 rfl fun h33 A u33=>⟨_,vc A 0,?_⟩
   have Y:Upd No h23 h33:=k32.own u33 (ai _);have ne:(Ds[i].1 !=id)=true:=by rw[pe];simpa using hnew i (by omega)
   rw[ne];refine aV.2 ⟨_,vc A 0,_,vc A 1,_,vc A 2,_,vc A 3,_,vc A 4,Ds[i].2.2.2.2.2,vc A 5,bj fun h41 b41 V=>?_⟩
   refine VH (f:=RU) (t:=Ds[i]) (so:=so) (ho.upd (Y.tr V) fun _ _ h=>h) b41 rfl rfl ⟨by omega,by omega⟩ (by simp;omega) fun s43 h44 o44 u44 hs44=>?_
   rw[cX (n:=Ds.length) m (by omega)];have H:=Y.tr V;have s41:=H.size;refine hI (i+1,s43) _ _ ⟨rfl,m,by rw[List.take_succ_eq_append_getElem m];exact o44,fun y C=>?_,(E.tr H).fresh u44 fun y C=>F y C⟩ (by(try simp only);omega)
   rcases(hs44 y C).1 with h|h
   ·exact F y h
   ·omega
  ·have hil:i=Ds.length:=by omega
   subst hil;rw[List.take_length]at ho;have G:=E.get0 z1;refine⟨_,vc G 0,_,vc G 1,_,vc G 2,_,vc G 3,r.2.2.2.2,vc G 4,bj fun h52 b52 Q=>?_⟩
   refine VH (f:=RU) (t:=(id,r)) (so:=so) (ho.upd Q fun _ _ h=>h) b52 rfl rfl ⟨by omega,by omega⟩ (by omega) fun s54 O o55 u55 hs55=>?_
   have d:Upd No v O:=(E.tr Q).fresh u55 fun y C=>F y C
   refine⟨_,rfl,nJ (i:=6) (f18 O d) (by simp) rfl fun Z b57 B=>?_⟩
   have N:∀y,y=xp→W y∨O.size≤y:=fun y e=>.inl (e▸g.wx)
   have s52:=Q.size;have nW:∀y,sb s54 y→y<O.size→¬W y:=fun y C _ T=>by
    have:=lt y T;rcases(hs55 y C).1 with h|h
    ·have:=F y h;omega
    ·omega
   have r57:RefAt W Z xg (fV L nx id ps).2.1 (fV L nx id ps).2.2:=(R.upd0 d).upd B fun b e=>.inl ⟨e▸g.wx,fun e'=>g.gx (e'.symm.trans e)⟩
   refine hk Z s54 (Ds++ [(id,r)]) ((ku.tr d.wide).tr (B.mono fun y C=>.inl (.inr C))) fun t=>⟨r57,g.wx,g.gx,b57,(e18.upd0 d).updM B N,(o55.sl nW).upd B N,?_,fun i S h2=>?_⟩
   ·rw[CL (fun hm=>by obtain⟨p,hp,e⟩:=bI.1 hm;exact e3 (e▸hD p hp)),af,af,hn2];rfl
   ·simp only[CL (fun hm=>by obtain⟨p,hp,e⟩:=bI.1 hm;exact e3 (e▸hD p hp):id∉D.map (·.1))]at h2⊢
    by_cases m:i<Ds.length
    ·rw[List.getElem_append_left m,List.getElem_append_left (by omega)]
     exact⟨(o i m (by omega)).1,((o i m (by omega)).2.upd0 d).updM B N⟩
    ·have:i=Ds.length:=by simp at S;omega
     subst this;rw[List.getElem_append_right (ai _),List.getElem_append_right (by omega)];simp only[Nat.sub_self,hn2,List.getElem_cons_zero,true_and];exact(((j.upd0 u).updM s T).upd0 d).updM B N
 ·have e:(fV L nx id ps).1≠0:=by simpa using e
  have e2:=Cf e;simp only[if_neg e]at hk;rw[e2]at hk R;exact hk v ts Ds ku fun _=>⟨R,g.wx,g.gx,z,e18,P,g.n,o⟩
end
end Go.Proofs
namespace Go.Proofs
open Go Go.Lift
end Go.Proofs
namespace Go.Proofs
open Go Go.Lift
end Go.Proofs
namespace Go.Proofs
open Go Go.Lift
end Go.Proofs
namespace Go.Proofs
open Go Go.Lift
end Go.Proofs
namespace Go.Proofs
open Go Go.Lift
end Go.Proofs
namespace Go.Proofs
open Go Go.Lift
end Go.Proofs
namespace Go.Proofs
open Go Go.Lift
end Go.Proofs
namespace Go.Proofs
open Go Go.Lift
end Go.Proofs
namespace Go.Proofs
open Go Go.Lift
end Go.Proofs
namespace Go.Proofs
open Go Go.Lift
theorem Ps{x:Hs}{h:ae}{kind:Int}(m:kind=0∨kind=1){K:Option Addr×Int→ae→Prop}(w:∀h' re xg xp,RefIs No h' kind x re []→h'[xg]? =some (.cells #[.slice none 0 0,.int .u32 1] 83 (0,0))→h'[xp]? =some (.cells (Ox re++ [Value.pointer (some ⟨xg,0,none⟩),.slice none 0 0,.slice none 0 0,.slice none 0 0]).toArray 87 (0,0))→h.size≤xg→xg<xp→Upd No h h'→K (some ⟨xp,0,none⟩,0) h'):
  Hd 51 [.int .i64 kind,.agg #[.int .u64 x.k0,.int .u64 x.k1,.int .u64 x.mask]] K h:=by
 refine eM (KJ kind (x.k0,x.k1,x.mask)) .nil Tryz.func51 Tryz.call51 ?_;dsimp only[KJ,nv,BR,V7,EL,XM,FE,aR,au,cq,pR];refine bj fun A b1 k1=>⟨_,vc b1 0,_,vc b1 1,_,vc b1 2,?_⟩
 refine WL (W:=No) (x:=x) m fun z r s v=>?_
 refine bj fun B u y=>dt (c:=Ox aaC) (vs:=Ox r) u rfl fun q i o=>ay.2 ⟨_,vc i 0,_,vc i 1,_,vc i 2,_,vc i 3,r.2.2.2.2,vc i 4,?_⟩
 have e:Upd No z q:=y.own o (ai _);have g:=(k1.tr v).tr e;refine bj fun n d f=>bj fun j p b=>w j r q.size n.size (s.upd0 ((e.tr f).tr b)) (b.get0 d) p g.size (bc d) ((g.tr f).tr b)
end Go.Proofs
namespace Go.Proofs
open Go Go.Lift
theorem PtX.stab{u:Pt}{p:RParts}:Stab fun W h=>PtX W h u p:=fun W W' M h n i k hm c=>by
 obtain⟨VS,m,f⟩:=i.v;obtain⟨SS,g,e⟩:=i.s;have d:=fun b j=>(c b j).1
 exact⟨i.k,i.x,i.n,⟨VS,Stab.sl _ _ _ _ _ m k hm c,f.imp fun v r o=>o.re k hm d⟩,Stab.sl _ _ _ _ _ i.b k hm c,Stab.sl _ _ _ _ _ i.t k hm c,i.l,⟨SS,Stab.sl _ _ _ _ _ g k hm c,e.imp fun v r o=>o.re k hm d⟩⟩
theorem RtOk.refIs{W:Nat→Prop}{h:ae}{k:Int}{x:Hs}{t:Rt}{l:List Pr}(o:RtOk W h k x t l)(n:k=0∨(k=1∧x=⟨0,0,0⟩)):RefIs W h k x t l:=by
 obtain⟨a,b,c,d,s⟩:=t;obtain⟨i,⟨f,g,j⟩,p,m⟩:=o;simp only at i f g j;subst i f g j;refine⟨s,?_,p,m⟩;rcases n with rfl|⟨rfl,e⟩
 ·rfl
 ·rw[e];rfl
abbrev W2(a b:Nat):Nat→Prop:=fun y=>y=a∨y=b
theorem Sv{x:Hs}{h:ae}{kind:Int}(f:kind=0∨kind=1){K:Option Addr×Int→ae→Prop}
  (q:∀h' sp re c b,Rf (W2 c b) h' b c kind x [] 1 [] re ⟨none,0,0⟩ []→h'[sp]? =some (.cells #[.pointer (some ⟨b,0,none⟩),.slice none 0 0,.int .i64 0] 80 (0,0))→h.size≤c→h.size≤b→c<sp→b<sp→Upd No h h'→K (some ⟨sp,0,none⟩,0) h'):
  Hd 22 [.int .i64 kind,.agg #[.int .u64 x.k0,.int .u64 x.k1,.int .u64 x.mask]] K h:=by
 refine eM (KG kind (x.k0,x.k1,x.mask)) .nil Tryz.func22 Tryz.call22 ?_;dsimp only[KG,BR,EL,pR,au];refine bj fun m b1 k1=>⟨_,vc b1 0,_,vc b1 1,_,vc b1 2,?_⟩
 refine Ps (x:=x) f fun w re c b u n g C gp p=>ay.2 (bj fun z o d=>?_)
 have D:=k1.size;have A:=bc g;have B:=d.size;obtain⟨rs,e,j,s⟩:=u;refine q z w.size re c b ⟨⟨⟨⟨none,0,0⟩,_,[],d.get0 n,Sl.nil TI,trivial,ai _⟩,.inl rfl,fun y v=>?_⟩,.inr rfl,by omega,d.get0 g,⟨rs,e,⟨j.len,j.ne,fun h=>absurd rfl h⟩,s⟩,Sl.nil QF,rfl,fun i m _=>by cases m⟩ o (by omega) (by omega) (by omega) (by omega) ((k1.tr p).tr d)
 rcases v with rfl|rfl<;>omega
def Tm(L:dI)(b:Bool)(B:List (ByteArray×Int))(j:Nat)(c:j<B.length):Prop:=(0<j→kl (B[j-1]'(by omega)).1 B[j].1)∧jY B[j].1=true∧(B[j].2=0∨B[j].2∈ids L)∧¬(b=true∧B[j].2=0)
section
variable {W:Nat→Prop} {h:ae} {xp xg:Nat} {kind:Int} {x:Hs} {L:dI} {nx:Int} {D:List (Int×TD)} {re:Rt} {ts:SliceV} {Ds:List (Int×Rt)}
theorem EI(g:Rf W h xp xg kind x L nx D re ts Ds)(hL:L.length≤100000){sl:SliceV}{B:List (ByteArray×Int)}(Z:Sl fJ 2 No h sl B)(Y:∀n∈B,n.1.size≤1000000)(w:B.length≤1000000)(d:Bool){K:Bool→ae→Prop}(S:∀y b,b=iU L d B→Upd No h y→K b y):
  f5 24 [gF xp,.slice sl.a sl.len sl.cap,.bool d] K h:=by
 refine eM (E7 (some ⟨xp,0,none⟩) sl d) Ot Tryz.func24 Tryz.call24 ?_;dsimp only[E7,du,nv,ce,cE,iR,Fk,AS,uk,dq,FC,cg,ic,ji,Qe,eS,fG];have U:=Z.len;refine ak (fun c=>S h false (Eq.symm ?_) (Upd.refl _ _)) fun c=>?_
 ·cases e:iU L d B with
  |false=>rfl
  |true=>have:=(GS.1 e).1;omega
 have no:∀{j:Nat} (z:j<B.length),¬Tm L d B j z→iU L d B=false:=fun{j} z w=>by
  cases e:iU L d B with
  |false=>rfl
  |true=>exact absurd ((GS.1 e).2 j z) w
 refine LoopP.ghost (fun(i:Nat) (t:Int) y=>t=(i:Int)∧i≤B.length∧(∀j (z:j<B.length),j<i→Tm L d B j z)∧Upd No h y) (fun i=>B.length-i) 0 ⟨rfl,aY _,fun _ _ h=>absurd h (Nat.not_lt_zero _),Upd.refl _ _⟩ ?_
 rintro I i t h3 ⟨rfl,hi,hp,N⟩ hI;refine ak (fun c2=>?_) fun c2=>?_
 ·have s:i<B.length:=by omega
  have E:=Z.upd N fun _ h=>h.elim
  obtain⟨a,ha,_,hv⟩:=E.at (ag s);refine⟨⟨by omega,by omega⟩,a,ha,_,hv 0 _ rfl,_,hv 1 _ rfl,bj fun h7 b7 k7=>dt (c:=fJ (⟨#[]⟩,0)) (vs:=fJ B[i]) b7 rfl fun h8 v u8=>?_⟩
  have X:Upd No h3 h8:=k7.own u8 (ai _);have f:=N.tr X;have H:=g.upd0 f;have sz:=Y _ (bR s);have V:jY B[i].1=false→¬Tm L d B i s:=fun e p=>by rw[p.2.1]at e;cases e
  have n2:B[i].2≠0→B[i].2∉ids L→¬Tm L d B i s:=fun e e2 p=>p.2.2.1.elim e e2
  refine Join.intro (fun(t:Bool) y=>(t=false↔Tm L d B i s)∧Upd No h y) (fun R A=>?_) ?_
  ·have tr:∀{y},¬Tm L d B i s→Upd No h y→R true y:=fun w k=>A _ _ ⟨⟨fun e=>(by cases e),fun p=>absurd p w⟩,k⟩
   refine ak (fun c3=>?_) fun c3=>?_
   ·have ei:ac .i64 ((i:Int)-1)=((i-1:Nat):Int):=by rw[Go.IntWalk.i64_in _ (by omega)];omega
    have G:i-1<B.length:=by omega
    have J:=E.upd X fun _ h=>h.elim
    obtain⟨a',T,_,Q⟩:=J.at (ag G);rw[ei];refine⟨⟨by omega,by omega⟩,a',T,_,Q 0 _ rfl,_,vc v 0,M6 (Y _ (bR G)) (CondP.intro (fun e=>tr (fun p=>?_) f) fun e=>?_)⟩
    ·rw[decide_eq_true (p.1 (by omega))]at e;cases e
    ·have q:kl B[i-1].1 B[i].1:=by simpa using e
     refine⟨_,vc v 0,EJ sz (CondP.intro (fun e=>tr (V (by simpa using e)) f) fun e=>?_)⟩
     have C:jY B[i].1=true:=by simpa using e
     refine⟨_,vc v 1,CondP.intro (fun m=>⟨_,rfl,_,vc H.blk 5,_,vc v 1,BO H.r (by omega) _ fun n P o w=>⟨vc (o.get0 v) 1,ak (fun c=>tr (n2 (by simpa using m) fun hm=>by have:=w.2 hm;omega) (f.tr o)) fun c=>?_⟩⟩) fun m=>?_⟩
     ·have m:B[i].2≠0:=by simpa using m
      have hm:B[i].2∈ids L:=w.1 (by omega);exact CondP.intro (fun u=>⟨_,vc (o.get0 v) 1,A _ _ ⟨⟨fun _=>⟨fun _=>q,C,.inr hm,fun h=>m h.2⟩,fun _=>by simpa using m⟩,f.tr o⟩⟩) fun u=>A _ _ ⟨⟨fun _=>⟨fun _=>q,C,.inr hm,fun h=>m h.2⟩,fun _=>rfl⟩,f.tr o⟩
     ·have m:B[i].2=0:=by simpa using m
      exact CondP.intro (fun u=>⟨_,vc v 1,by rw[m];exact tr (fun p=>p.2.2.2 ⟨u,m⟩) f⟩) fun u=>A _ _ ⟨⟨fun _=>⟨fun _=>q,C,.inl m,fun h=>by rw[h.1]at u;cases u⟩,fun _=>rfl⟩,f⟩
   ·have q:0<i→kl (B[i-1]'(by omega)).1 B[i].1:=fun h0=>absurd h0 (by omega)
    refine⟨_,vc v 0,EJ sz (CondP.intro (fun e=>tr (V (by simpa using e)) f) fun e=>?_)⟩
    have C:jY B[i].1=true:=by simpa using e
    refine⟨_,vc v 1,CondP.intro (fun m=>⟨_,rfl,_,vc H.blk 5,_,vc v 1,BO H.r (by omega) _ fun n P o w=>⟨vc (o.get0 v) 1,ak (fun c=>tr (n2 (by simpa using m) fun hm=>by have:=w.2 hm;omega) (f.tr o)) fun c=>?_⟩⟩) fun m=>?_⟩
    ·have m:B[i].2≠0:=by simpa using m
     have hm:B[i].2∈ids L:=w.1 (by omega);exact CondP.intro (fun u=>⟨_,vc (o.get0 v) 1,A _ _ ⟨⟨fun _=>⟨q,C,.inr hm,fun h=>m h.2⟩,fun _=>by simpa using m⟩,f.tr o⟩⟩) fun u=>A _ _ ⟨⟨fun _=>⟨q,C,.inr hm,fun h=>m h.2⟩,fun _=>rfl⟩,f.tr o⟩
    ·have m:B[i].2=0:=by simpa using m
     exact CondP.intro (fun u=>⟨_,vc v 1,by rw[m];exact tr (fun p=>p.2.2.2 ⟨u,m⟩) f⟩) fun u=>A _ _ ⟨⟨fun _=>⟨q,C,.inl m,fun h=>by rw[h.1]at u;cases u⟩,fun _=>rfl⟩,f⟩
  rintro t O ⟨ht,F⟩;refine CondP.intro (fun e=>S O false (no s fun p=>by rw[ht.2 p]at e;cases e).symm F) fun e=>?_
  rw[cX s (by omega)];refine hI (i+1) _ _ ⟨rfl,s,fun j z hji=>?_,F⟩ (by omega)
  by_cases ej:j=i
  ·subst ej;exact ht.1 (by simpa using e)
  ·exact hp j z (by omega)
 ·exact S h3 true (Eq.symm (GS.2 ⟨by omega,fun j z=>hp j z (by omega)⟩)) N
end
end Go.Proofs
