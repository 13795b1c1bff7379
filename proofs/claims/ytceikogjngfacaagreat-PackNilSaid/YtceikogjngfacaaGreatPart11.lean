/- A part of the proof that the named laws of this program answer true, whatever the input. -/
import Derived.Test.YtceikogjngfacaaGreatPart10
open Go.IntKind renaming wrap→ac
open List renaming length_nil→aM,drop_zero→dH,mem_of_getElem?→ak,mem_cons→au,not_mem_nil→dN,length_take→aO
open Nat renaming zero_le→bJ,le_trans→dj,le_refl→aq
namespace Go.Proofs
open Go Go.Lift
structure PtX(W:Nat→Prop)(h:af)(u:Pt)(p:RParts):Prop where
 k:u.1=p.kind
 x:u.2.1=p.x.k0∧u.2.2.1=p.x.k1∧u.2.2.2.1=p.x.mask
 n:u.2.2.2.2.1=p.next
 v:∃VS,Sl CX 7 W h u.2.2.2.2.2.1 VS∧LOk (XvOk W h p.kind p.x) VS p.vs
 b:Sl l6 2 W h u.2.2.2.2.2.2.1 p.bs
 t:Sl l6 2 W h u.2.2.2.2.2.2.2.1 p.ts
 l:u.2.2.2.2.2.2.2.2.1=p.last
 s:∃SS,Sl Kg 7 W h u.2.2.2.2.2.2.2.2.2 SS∧LOk (XsOk W h p.kind p.x) SS p.ss
set_option maxHeartbeats 1000000 in
theorem ON{W0:Nat→Prop}{h:af}{sl:SliceV}{l:List UInt8}(hs:Sl yq 1 W0 h sl l)(hcap:sl.len≤sl.cap)(hn:l.length≤90000){K:Pt×Int→af→Prop}
  (he:(Ay (l,0)).2.2≠0→∀k,Upd No h k→K (VO,(Ay (l,0)).2.2) k)
  (hk:(Ay (l,0)).2.2=0→∀k v,PtX (fun y=>y<h.size) k v (Ay (l,0)).1→Upd No h k→K (v,0) k):
  HC PG Bj [.slice sl.a sl.len sl.cap] Qu K h:=by
 have hlen:=hs.len;refine Nn sl ?_;unfold GH gR bV fA nv DR aC ag cq bW A7 lH cu BO BL VU GY V7 vl5 VR vl7 tP TZ UP;refine bO fun x b1 k1=>bO fun h2 b2 k2=>?_
 have z1:=bo b1;have z2:=bo b2;have k12:=k1.tr k2;obtain⟨q,hq,hqs⟩:∃q,q<x.size∧Sl yq 1 (·≠q) h2 sl l:=by
  by_cases e:l= []
  ·subst e
   refine⟨h.size,z1,?_⟩;have:sl=⟨sl.a,0,sl.cap⟩:=by cases sl;simp only[aM]at hlen;subst hlen;rfl
   rw[this];exact Sl.nil uS
  ·obtain⟨a,N,hw,hr⟩:=hs.row e
   refine⟨a.block,?_,?_⟩
   ·have:=hs.lt e N;omega
   ·exact⟨hs.len,hs.ne,fun _=>⟨a,N,fun hne=>hne rfl,hr.upd k12 id⟩⟩
 have zz:=k12.size;obtain⟨s,es⟩:∃s:eK,s=(l,0):=⟨_,rfl⟩;have i2:RnAt (·≠q) h2 x.size l s:=by
  rw[es];exact⟨⟨sl,0,b2,hqs,hcap,bJ _,by rw[dH]⟩,by show x.size≠q;omega,by omega⟩
 have r2:Rn q x.size l s [] h2:=⟨i2,Own.nil,fun⟨_,h,_⟩=>(by cases h),fun⟨_,h,_⟩=>(by cases h),by omega⟩
 rw[←es]at he hk;have ls:s.1.length=l.length:=by rw[es]
 clear es i2;obtain⟨b,eb⟩:∃b,x.size=b:=⟨_,rfl⟩;rw[eS x,eb];have r2:Rn q b l s [] h2:=eb▸r2;have w2:Upd No x h2:=k2;have lb:x.size≤b:=Nat.le_of_eq eb;clear eb;refine Join.intro (fun _ k=>Rn q b l (if(aS s).1=81 then(aS s).2 else dA 9 (aS s).2) [] k∧Upd No x k) (fun R Y=>Da r2.i fun h3 i3 u3=>CondP.intro (fun c=>uk i3 fun h4 i4 u4=>Y _ _ ⟨?_,w2.trans (u3.tr u4) fun y d=>.inr (by have d:y=b:=d;omega)⟩) fun c=>Y _ _ ⟨?_,w2.trans u3 fun y d=>.inr (by have d:y=b:=d;omega)⟩) ?_
 ·have c:(aS s).1≠81:=fun e=>by rw[e]at c;exact absurd c (by decide)
  rw[if_neg c];exact(r2.rd i3 u3).rd i4 u4
 ·have c:(aS s).1=81:=by
   have c:((aS s).1:Int)=81:=by simpa using c
   omega
  rw[if_pos c];exact r2.rd i3 u3
 rintro _ h3 ⟨r3,w3⟩;obtain⟨gk,hkd⟩:=H5 s;have ge:vw s=(if(aS (if(aS s).1=81 then(aS s).2 else dA 9 (aS s).2)).1=0 then
   ((0,⟨(kK (aS (if(aS s).1=81 then(aS s).2 else dA 9 (aS s).2)).2).1,(kK (kK (aS (if(aS s).1=81 then(aS s).2 else dA 9 (aS s).2)).2).2).1,(kK (kK (kK (aS (if(aS s).1=81 then(aS s).2 else dA 9 (aS s).2)).2).2).2).1⟩),(kK (kK (kK (aS (if(aS s).1=81 then(aS s).2 else dA 9 (aS s).2)).2).2).2).2)
   else if(aS (if(aS s).1=81 then(aS s).2 else dA 9 (aS s).2)).1=1 then((1,⟨0,0,0⟩),(aS (if(aS s).1=81 then(aS s).2 else dA 9 (aS s).2)).2)else(((aS (if(aS s).1=81 then(aS s).2 else dA 9 (aS s).2)).1,⟨0,0,0⟩),dA 11 (aS (if(aS s).1=81 then(aS s).2 else dA 9 (aS s).2)).2)):=rfl
 rw[KB]at he hk;simp only[qK,qN,qV,qB,qT,qL,qZ]at he hk;generalize (if(aS s).1=81 then(aS s).2 else dA 9 (aS s).2)=s1 at*
 generalize vw s=cK at*;have bl:=KJ s1;refine Da r3.i fun h4 i4 u4=>?_
 rw[Go.IntWalk.i64_in _ (by omega)];have w4:Upd No x h4:=w3.trans u4 fun y d=>.inr (by have d:y=b:=d;omega)
 have z4:=w4.size;refine(r3.rd i4 u4).var fun h5 r5 k5 z5=>r5.fill 0 rfl (by rfl) fun h6 r6 u6=>?_
 have w6:Upd No x h6:=(w4.tr k5).trans u6 fun y d=>.inr (by have d:y=h4.size:=d;omega)
 have r6:Rn q b l (aS s1).2 [co h4.size (rG (aS s1).1 ⟨0,0,0⟩ 0 dU dU dU 0 dU) cF] h6:=r6;obtain⟨pb,epb⟩:∃pb,pb=h4.size:=⟨_,rfl⟩;rw[←epb]at r6;rw[eS h4,←epb];have lpb:x.size≤pb:=by omega
 have X:∀{k:af} {M:Nat→Prop} {N:af},Upd No x N→Upd M N k→(∀y,M y→y=b∨y=pb)→Upd No x k:=fun wa u hm=>wa.trans u fun y d=>.inr (by have:=hm y d;omega)
 refine Join.intro (fun _ k=>Rn q b l (if 1<(aS s1).1 then dA 11 (aS s1).2 else(aS s1).2) [co pb (rG (aS s1).1 ⟨0,0,0⟩ 0 dU dU dU 0 dU) cF] k∧Upd No x k) (fun R Y=>⟨_,r6.cl 0 rfl 0,av (fun c=>uk r6.i fun h7 i7 u7=>Y _ _ ⟨?_,X w6 u7 fun y d=>.inl d⟩) fun c=>Y _ _ ⟨?_,w6⟩⟩) ?_
 ·rw[if_pos (by omega)];exact r6.rd i7 u7
 ·rw[if_neg (by omega)];exact r6
 rintro _ h7 ⟨B,wv7⟩;refine Join.intro (fun _ k=>Rn q b l cK.2 [co pb (rG cK.1.1 cK.1.2 0 dU dU dU 0 dU) cF] k∧Upd No x k) (fun R Y=>⟨_,B.cl 0 rfl 0,CondP.intro (fun c=>?_) fun c=>Y _ _ ⟨?_,wv7⟩⟩) ?_
 ·have c:(aS s1).1=0:=by
   have c:((aS s1).1:Int)=0:=by simpa using c
   omega
  rw[if_pos c]at ge;rw[if_neg (by omega)]at B;refine A6 B.i fun h8 i8 u8=>A6 i8 fun h9 i9 u9=>A6 i9 fun hA iA uA=>(((B.rd i8 u8).rd i9 u9).rd iA uA).fillAt 0 rfl (by simp) fun hB rB uB=>Y _ _ ⟨?_,X (X wv7 ((u8.tr u9).tr uA) fun y d=>.inl d) uB fun y d=>.inr d⟩
  rw[ge];rw[c]at rB;exact rB
 ·have c:(aS s1).1≠0:=fun e=>by rw[e]at c;exact absurd c (by decide)
  rw[if_neg c]at ge;by_cases c1:(aS s1).1=1
  ·rw[if_pos c1]at ge
   rw[ge];rw[c1,if_neg (by omega)]at B;exact B
  ·rw[if_neg c1]at ge
   rw[ge];rw[if_pos (by omega)]at B;exact B
 rintro _ h8 ⟨r8,w8⟩;clear ge B wv7 r6 w6 r3 w3 r5 k5 r2;obtain⟨A,eN⟩:∃c,c=bd 4294967295 cK.2:=⟨_,rfl⟩;have gN:=gk.trans (eJ 4294967295 cK.2);have e32:=lc 4294967295 cK.2;rw[←eN]at he hk gN e32;obtain⟨cV,eV⟩:∃c,c=lw sr A.2:=⟨_,rfl⟩;have gV:=gN.trans (tR zQ A.2);rw[←eV]at he hk gV;obtain⟨O,eB⟩:∃c,c=lw im cV.2:=⟨_,rfl⟩;have gB:=gV.trans (tR qn cV.2);rw[←eB]at he hk gB
 obtain⟨V,eT⟩:∃c,c=lw im O.2:=⟨_,rfl⟩;have gT:=gB.trans (tR qn O.2);rw[←eT]at he hk gT;obtain⟨E,eL⟩:∃c,c=bd 2147483648 V.2:=⟨_,rfl⟩;have gL:=gT.trans (eJ 2147483648 V.2);have e0:=lc 2147483648 V.2;rw[←eL]at he hk gL e0;obtain⟨cZ,eZ⟩:∃c,c=lw sR E.2:=⟨_,rfl⟩;rw[←eZ]at he hk;have lN:A.2.1.length≤l.length:=ls▸gN.1;have lV:cV.2.1.length≤l.length:=ls▸gV.1;have lB:O.2.1.length≤l.length:=ls▸gB.1
 have lL:E.2.1.length≤l.length:=ls▸gL.1;refine pz r8.i 4294967295 fun h9 i9 u9=>?_
 rw[←eN]at i9⊢;rw[Go.IntWalk.u32_in _ (by omega)];refine(r8.rd i9 u9).wr (p:=pb) (i:=4) 0 rfl (by simp) fun hA rA uA=>yC rA.i fun hB iB uB=>?_
 have wB:Upd No x hB:=X (X (X w8 u9 fun y d=>.inl d) uA fun y d=>.inr d) uB fun y d=>.inl d
 have rB:=(rA.rd iB uB).cons (a:=bI CX 7 bU dU []) (OwnS.nil TR) fun y d=>absurd d (jc y)
 have RB:RnV x.size q b l cK.1.1 cK.1.2 (dX A.2).2 [bI CX 7 bU dU [],co pb (rG cK.1.1 cK.1.2 A.1 dU dU dU 0 dU) cF] [] [] [] [] hB:=⟨rB,LOk.nil,LOk.nil,wB.size⟩;have hnl:=zR A.2;unfold lw at eV;refine LoopP.ghost (fun(g:Nat×List Cw×eK) (t:Int) k=>t=(g.1:Int)∧g.1<18446744073709551616∧∃vs VS,RnV x.size q b l cK.1.1 cK.1.2 g.2.2 [bI CX 7 bU vs VS,co pb (rG cK.1.1 cK.1.2 A.1 vs dU dU 0 dU) cF] VS g.2.1 [] [] k∧RdN l.length g.2.1.length g.2.2∧Upd No x k∧(∀y,sb vs y→x.size≤y)∧m0 sr g.1 g.2.1 g.2.2=m0 sr (dX A.2).1 [] (dX A.2).2) (fun g=>g.1) ((dX A.2).1,[],(dX A.2).2)
  ⟨rfl,hnl,dU,[],RB,RdN.zero (dj (jH A.2).1 lN),wB,fun y d=>absurd d (jc y),rfl⟩ ?_
 rintro I ⟨n,rv,J⟩ t hC ⟨et,hn2,vs,VS,R,rn,wC,hsb,hr⟩ hI;simp only at et hn2 R rn hr;subst et;refine Join.intro (fun t k=>k=hC∧t=decide (0<n∧J.2=0)) (fun R' Y=>I0 R.r.i (Y _ _ ⟨rfl,rfl⟩)) ?_
 rintro t k ⟨rfl,rfl⟩;refine av (fun c=>?_) fun c=>?_
 ·have hl:=rn.len0 c.2
  have lb2:=R.r.lt;have z6:=wC.size;have lpb2:pb<k.size:=R.r.o.al ⟨_,ak (i:=1) rfl,rfl⟩;have e32b:=lc 4294967295 J;have e2:=lc 2 (bd 4294967295 J).2;refine Join.plain (pz R.r.i 4294967295 fun C i1 u1=>?_)
  rw[Go.IntWalk.u32_in _ (by omega)];refine(R.r.rd i1 u1).var fun h2' r2 k2 z2=>r2.fill 0 rfl (by rfl) fun h3' r3 u3=>pz r3.i 2 fun T i4 u4=>?_
  have r4:=r3.rd i4 u4;have z1':=u1.size;have z3':=u3.size;have z4':=u4.size;have w4':Upd (fun y=>(y=b∨y=pb∨sb vs y)∨k.size≤y) k T:=(((u1.mono fun y d=>.inl (.inl (.inl d))).tr k2.wide).tr (u3.mono fun y d=>.inl (.inr (by have d:y=C.size:=d;omega)))).tr (u4.mono fun y d=>.inl (.inl (.inl d)))
  have r5:=r4.cons (a:=bI u32 1 lC dU []) (OwnS.nil IS) fun y d=>absurd d (jc y)
  have gev:(sr J)=((((bd 4294967295 J).1:Int),(yG (bd 2 (bd 4294967295 J).2).1 [] (bd 2 (bd 4294967295 J).2).2).1,(jh (yG (bd 2 (bd 4294967295 J).2).1 [] (bd 2 (bd 4294967295 J).2).2).2).1),(jh (yG (bd 2 (bd 4294967295 J).2).1 [] (bd 2 (bd 4294967295 J).2).2).2).2):=rfl;have g1:=(eJ 4294967295 J).1;have g2:=(eJ 2 (bd 4294967295 J).2).1
  obtain⟨m,rfl⟩:∃m,n=m+1:=⟨n-1,by omega⟩
  have ew:ac .u64 (((m+1:Nat):Int)-1)=(m:Int):=by rw[Go.IntWalk.u64_in _ (by omega)];omega
  rw[yF c.2]at hr;have nx:=rn.next c.2 (zQ J) Kz
  rw[gev]at hr nx;generalize (bd 2 (bd 4294967295 J).2).1=np at*;generalize (bd 2 (bd 4294967295 J).2).2=s6 at*;generalize (bd 4294967295 J).1=idn at*;refine LoopP.ghost (fun(g:Nat×List Int×eK) (t:Int) P=>t=(g.1:Int)∧g.2.1.length+g.1=np∧g.2.2.1.length≤90000∧yG g.1 g.2.1 g.2.2=yG np [] s6∧∃sl,Rn q b l g.2.2 (bI u32 1 lC sl g.2.1::co C.size (CX ((idn:Int),sl,V5)) bU:: [bI CX 7 bU vs VS,co pb (rG cK.1.1 cK.1.2 A.1 vs dU dU 0 dU) cF]) P∧Upd (fun y=>(y=b∨y=pb∨sb vs y)∨k.size≤y) k P∧T.size≤P.size∧(∀y,sb sl y→T.size≤y)) (fun g=>g.1) (np,[],s6)
   ⟨rfl,by simp,by simp only;omega,rfl,dU,r5,w4',aq _,fun y d=>absurd d (jc y)⟩ ?_
  rintro I2 ⟨i,li,si⟩ t h5' ⟨et,hli,hs,hri,sl,r,w,z,Q⟩ hI2;simp only at et hli hs hri r;subst et;refine av (fun ci=>?_) fun ci=>?_
  ·obtain⟨i,rfl⟩:∃j,i=j+1:=⟨i-1,by omega⟩
   have e32c:=lc 4294967295 si;refine Join.plain ⟨sl,r.cl 1 rfl 1,pz r.i 4294967295 fun h8 i8 u8=>?_⟩
   have r8:=r.rd i8 u8;rw[Go.IntWalk.u32_in _ (by omega)];refine⟨r8.cl 1 rfl 1,bO fun h9 b9 k9=>?_⟩
   have r9:=r8.up0 k9;have z8:=u8.size;have z9:=k9.size;refine⟨r9.cl 1 rfl 1,r9.push (y:=(((bd 4294967295 si).1:Nat):Int)) 0 rfl b9 rfl rfl ⟨by decide,by decide⟩ (by omega) fun s' N ra ua hsa=>ra.wr (p:=C.size) (i:=1) 1 rfl (by simp) fun hb rb ub=>?_⟩
   have z11:=ua.size;have z12:=ub.size;have ewi:ac .u64 (((i+1:Nat):Int)-1)=(i:Int):=by rw[Go.IntWalk.u64_in _ (by omega)];omega
   have g3:=(eJ 4294967295 si).1;refine hI2 (i,li++ [(((bd 4294967295 si).1:Nat):Int)],(bd 4294967295 si).2) _ _ ⟨ewi,by simp only[List.length_append,List.length_singleton];omega,by simp only;omega,hri,s',rb,((w.tr (u8.mono fun y d=>.inl (.inl (.inl d)))).tr k9.wide).tr ((ua.mono fun y d=>.inl (.inr (by have:=Q y d;omega))).tr (ub.mono fun y d=>.inl (.inr (by have d:y=C.size:=d;omega)))),by omega,fun y d=>(hsa y d).elim (Q y) fun e=>by omega⟩ (by simp)
  ·have hi0:i=0:=by omega
   subst hi0;have hri:(li,si)=yG np [] s6:=hri;rw[←hri]at hr nx;simp only at hr nx;refine⟨_,r.cl 3 rfl 0,_,r.cl 3 rfl 1,_,r.cl 3 rfl 2,_,r.cl 3 rfl 3,HU r (by omega) fun h6' U r6 u6 to=>r6.fillAt 1 rfl (by simp) fun h7' B u7=>?_⟩
   have B:Rn q b l (jh si).2 (bI u32 1 lC sl li::co C.size (CX ((idn:Int),sl,U)) bU:: [bI CX 7 bU vs VS,co pb (rG cK.1.1 cK.1.2 A.1 vs dU dU 0 dU) cF]) h7':=B;have z5':=w.size;have z6':=u6.size;have z7':=u7.size;refine⟨vs,B.cl 3 rfl 5,_,B.cl 1 rfl 0,sl,B.cl 1 rfl 1,_,B.cl 1 rfl 2,_,B.cl 1 rfl 3,_,B.cl 1 rfl 4,_,B.cl 1 rfl 5,U.2.2.2.2,B.cl 1 rfl 6,bO fun h8' b8 k8=>?_⟩
   have r8:=B.up0 k8;have z8':=k8.size;have hVS:VS.length=rv.length:=R.v.1;refine r8.push (f:=CX) (so:=vs) (out:=VS) (bytes:=88) (y:=((idn:Int),sl,U)) 2 rfl b8 rfl (by rfl) ⟨by decide,by decide⟩ (by omega) fun s' h9' r9 u9 hs9=>r9.wr (p:=pb) (i:=5) 3 rfl (by simp) fun G rA' uA'=>?_
   have z9':=u9.size;have zA':=uA'.size;have o:OwnS u32 1 lC (sb sl) G sl li:=rA'.o.get (i:=0) rfl;have rE:Rn q b l (jh si).2 [bI CX 7 bU s' (VS++ [((idn:Int),sl,U)]),co pb (rG cK.1.1 cK.1.2 A.1 s' dU dU 0 dU) cF] G:=rA'.tail.tail;have L:∀y,y=pb∨sb vs y→AL [bI CX 7 bU vs VS,co pb (rG cK.1.1 cK.1.2 A.1 vs dU dU 0 dU) cF] y:=fun y d=>d.elim (fun e=>⟨_,ak (i:=1) rfl,e⟩) fun e=>⟨_,ak (i:=0) rfl,e⟩
   have w6':Upd (fun y=>(y=pb∨sb vs y)∨y=C.size) h6' G:=((((u7.mono fun y d=>.inl (.inr d)).tr k8.wide).tr (u9.mono fun y d=>.inl (.inl (.inr d)))).tr (uA'.mono fun y d=>.inl (.inl (.inl d))))
   have wE:Upd (fun y=>(y=b∨y=pb∨sb vs y)∨k.size≤y) k G:=(w.tr (u6.mono fun y d=>.inl (.inl (.inl d)))).tr (w6'.mono fun y d=>.inl (d.elim (fun e=>.inl (.inr e)) fun e=>.inr (by omega)))
   have hP:∀z0,z0≤h8'.size→∀y,AL [bI CX 7 bU s' (VS++ [((idn:Int),sl,U)]),co pb (rG cK.1.1 cK.1.2 A.1 s' dU dU 0 dU) cF] y→AL [bI CX 7 bU vs VS,co pb (rG cK.1.1 cK.1.2 A.1 vs dU dU 0 dU) cF] y∨z0≤y:=by
    rintro z0 hz y ⟨a,N,d⟩;simp only[au,dN,or_false]at N;rcases N with rfl|rfl
    ·exact(hs9 y d).elim (fun e=>.inl (L y (.inr e))) fun e=>.inr (by omega)
    ·exact .inl (L y (.inl d))
   have RE:=R.go rE wE (fun y d=>d.elim (fun e=>.inl (e.imp id (L y))) .inr) (hP _ (by omega))
   have on:XvOk (fun y=>y<x.size∨y=b∨AL [bI CX 7 bU s' (VS++ [((idn:Int),sl,U)]),co pb (rG cK.1.1 cK.1.2 A.1 s' dU dU 0 dU) cF] y) G cK.1.1 cK.1.2 ((idn:Int),sl,U) ((idn:Int),li,(jh si).1):=by
    refine⟨rfl,o.sl fun y d _ hW=>?_,to.re (W:=fun y=>y<h5'.size) w6' (fun y d=>.inl ?_) fun y d=>?_⟩
    ·have:=Q y d
     rcases hW with e|e|e
     ·omega
     ·omega
     ·rcases hP T.size (by omega) y e with e|e
      ·have:=R.r.o.al e;omega
      ·obtain⟨a,N,hy2⟩:= ‹AL _ y›
       simp only[au,dN,or_false]at N;exact(rA'.o.pd 0 2 _ _ rfl rfl (by decide) y d (by
        rcases N with rfl|rfl
        ·exact hy2
        ·have hy2:y=pb:=hy2;omega)).elim
    ·show y<h5'.size
     rcases d with e|e
     ·have:=R.r.o.al (L y e);omega
     ·omega
    ·rcases d with e|e|e
     ·exact .inl (by show y<h5'.size;omega)
     ·exact .inl (by show y<h5'.size;omega)
     ·exact(hP h6'.size (by omega) y e).imp (fun e=>by have:=R.r.o.al e;show y<h5'.size;omega) id
   refine hI (m,rv++ [((idn:Int),li,(jh si).1)],(jh si).2) _ _ ⟨ew,by omega,s',_,⟨RE.r,RE.v.push on,RE.s,RE.lz⟩,by simpa using nx,wC.trans wE fun y d=>.inr ?_,fun y d=>(hs9 y d).elim (hsb y) fun e=>by omega,hr⟩ (by simp)
   rcases d with(e|e|e)|e
   ·omega
   ·omega
   ·exact hsb y e
   ·omega
 rw[yE c,←eV]at hr;subst hr;have eB:O=lw im J:=eB;have lV:J.1.length≤l.length:=lV;have wDone:∀{k:af} {M:Nat→Prop} {N:af},Upd No x N→Upd M N k→(∀y,M y→y=b∨y=pb)→Upd No x k:=X;refine R.named (by omega) fun hD bx RD uD obx=>?_
 rw[←eB]at RD;have obx:∀y,sb bx y→x.size≤y:=fun y d=>by have:=obx y d;have:=wC.size;omega
 have wD:=X wC uD fun y d=>.inl d
 refine RD.wr (p:=pb) (i:=6) 2 rfl (by simp) fun hE RE uE=>?_
 have wE:=X wD uE fun y d=>.inr d
 have RE:RnV x.size q b l cK.1.1 cK.1.2 O.2 [bI l6 2 cH bx O.1,bI CX 7 bU vs VS,co pb (rG cK.1.1 cK.1.2 A.1 vs bx dU 0 dU) cF] VS rv [] [] hE:=RE;refine RE.named (by omega) fun hF D RF uF otx=>?_
 rw[←eT]at RF;have otx:∀y,sb D y→x.size≤y:=fun y d=>by have:=otx y d;have:=wE.size;omega
 have wF:=X wE uF fun y d=>.inl d
 refine RF.wr (p:=pb) (i:=7) 3 rfl (by simp) fun hG RG uG=>?_
 have wG:=X wF uG fun y d=>.inr d
 refine pz RG.r.i 2147483648 fun hH iH uH=>?_
 rw[←eL]at iH⊢;rw[Go.IntWalk.i64_in _ (by omega)];have wH:=X wG uH fun y d=>.inl d
 refine(RG.rd iH uH).wr (p:=pb) (i:=8) 3 rfl (by simp) fun hK RK uK=>yC RK.r.i fun hJ iJ uJ=>?_
 have wK:=X (X wH uK fun y d=>.inr d) uJ fun y d=>.inl d
 have RJ:=RK.rd iJ uJ;have RJ:RnV x.size q b l cK.1.1 cK.1.2 (dX E.2).2 [bI l6 2 cH D V.1,bI l6 2 cH bx O.1,bI CX 7 bU vs VS,co pb (rG cK.1.1 cK.1.2 A.1 vs bx D E.1 dU) cF] VS rv [] [] hJ:=RJ;have RJ:=RJ.go (RJ.r.cons (a:=bI Kg 7 dk dU []) (OwnS.nil TT) fun y d=>absurd d (jc y)) (Upd.refl No _) (fun _ h=>h.elim) fun y d=>(xN d).elim (fun e=>absurd e (jc y)) .inl
 have hnl:=zR E.2;unfold lw at eZ;refine LoopP.ghost (fun(g:Nat×List (Int×Bool×List Pr)×eK) (t:Int) k=>t=(g.1:Int)∧g.1<18446744073709551616∧∃ss SS,RnV x.size q b l cK.1.1 cK.1.2 g.2.2 [bI Kg 7 dk ss SS,bI l6 2 cH D V.1,bI l6 2 cH bx O.1,bI CX 7 bU vs VS,co pb (rG cK.1.1 cK.1.2 A.1 vs bx D E.1 ss) cF] VS rv SS g.2.1 k∧RdN l.length g.2.1.length g.2.2∧Upd No x k∧(∀y,sb ss y→x.size≤y)∧m0 sR g.1 g.2.1 g.2.2=m0 sR (dX E.2).1 [] (dX E.2).2) (fun g=>g.1) ((dX E.2).1,[],(dX E.2).2)
  ⟨rfl,hnl,dU,[],RJ,RdN.zero (dj (jH E.2).1 lL),wK,fun y d=>absurd d (jc y),rfl⟩ ?_
 clear hI;rintro I ⟨n4,rz,H⟩ t hL ⟨et,hn4,ss,SS,RL,rnl,wL,Q,hr4⟩ hI;simp only at et hn4 RL rnl hr4;subst et;refine Join.intro (fun t k=>k=hL∧t=decide (0<n4∧H.2=0)) (fun R' Y=>I0 RL.r.i (Y _ _ ⟨rfl,rfl⟩)) ?_
 rintro t k ⟨rfl,rfl⟩;refine av (fun c4=>?_) fun c4=>?_
 ·have hl:=rnl.len0 c4.2
  have lb2:=RL.r.lt;have z6:=wL.size;have lpb2:pb<k.size:=RL.r.o.al ⟨_,ak (i:=4) rfl,rfl⟩;have e32b:=lc 2147483648 H;refine Join.plain (pz RL.r.i 2147483648 fun C i1 u1=>?_)
  rw[Go.IntWalk.i64_in _ (by omega)];refine(RL.r.rd i1 u1).var fun h2' r2 k2 z2=>r2.fill 0 rfl (by rfl) fun h3' r3 u3=>Da r3.i fun T i4 u4=>?_
  have r4:=r3.rd i4 u4;have z1':=u1.size;have z3':=u3.size;have z4':=u4.size;have w4':Upd (fun y=>(y=b∨y=pb∨sb ss y)∨k.size≤y) k T:=(((u1.mono fun y d=>.inl (.inl (.inl d))).tr k2.wide).tr (u3.mono fun y d=>.inl (.inr (by have d:y=C.size:=d;omega)))).tr (u4.mono fun y d=>.inl (.inl (.inl d)))
  have gev:(sR H)=((((bd 2147483648 H).1:Int),decide ((aS (bd 2147483648 H).2).1=1),(jh (sS (bd 2147483648 H).2).2).1),(jh (sS (bd 2147483648 H).2).2).2):=rfl;have eb1:(sS (bd 2147483648 H).2).2=if 1<(aS (bd 2147483648 H).2).1 then dA 9 (aS (bd 2147483648 H).2).2 else(aS (bd 2147483648 H).2).2:=rfl
  have g1:=(eJ 2147483648 H).1;have g2:=(De (bd 2147483648 H).2).1;obtain⟨m,rfl⟩:∃m,n4=m+1:=⟨n4-1,by omega⟩
  have ew:ac .u64 (((m+1:Nat):Int)-1)=(m:Int):=by rw[Go.IntWalk.u64_in _ (by omega)];omega
  rw[yF c4.2]at hr4;have nx:=rnl.next c4.2 (Jb H) KA
  rw[gev]at hr4 nx;generalize (sS (bd 2147483648 H).2).2=s7 at*;generalize (aS (bd 2147483648 H).2).1=nb at*;generalize (aS (bd 2147483648 H).2).2=s6 at*;generalize (bd 2147483648 H).1=idn at*;refine Join.intro (fun _ P=>Rn q b l s7 (co C.size (Kg ((idn:Int),false,V5)) dk:: [bI Kg 7 dk ss SS,bI l6 2 cH D V.1,bI l6 2 cH bx O.1,bI CX 7 bU vs VS,co pb (rG cK.1.1 cK.1.2 A.1 vs bx D E.1 ss) cF]) P∧Upd (fun y=>(y=b∨y=pb∨sb ss y)∨k.size≤y) k P∧T.size≤P.size) (fun R Y=>av (fun cb=>uk r4.i fun h5 i5 u5=>Y _ _ ⟨?_,w4'.tr (u5.mono fun y d=>.inl (.inl (.inl d))),u5.size⟩) fun cb=>Y _ _ ⟨?_,w4',aq _⟩) ?_
  ·rw[eb1,if_pos (by omega)];exact r4.rd i5 u5
  ·rw[eb1,if_neg (by omega)];exact r4
  rintro _ h5' ⟨r,w,z⟩;have en:((nb:Int)==(1:Int))=decide (nb=1):=by
   by_cases e:nb=1
   ·subst e;rfl
   ·rw[decide_eq_false e];exact beq_eq_false_iff_ne.2 (by omega)
  rw[en];refine r.wr (p:=C.size) (i:=1) 0 rfl (by simp) fun Z S ua0=>?_
  have S:Rn q b l s7 (co C.size (Kg ((idn:Int),decide (nb=1),V5)) dk:: [bI Kg 7 dk ss SS,bI l6 2 cH D V.1,bI l6 2 cH bx O.1,bI CX 7 bU vs VS,co pb (rG cK.1.1 cK.1.2 A.1 vs bx D E.1 ss) cF]) Z:=S;refine⟨_,S.cl 5 rfl 0,_,S.cl 5 rfl 1,_,S.cl 5 rfl 2,_,S.cl 5 rfl 3,HU S (by omega) fun h6' U r6 u6 to=>r6.fillAt 0 rfl (by simp) fun h7' B u7=>?_⟩
  have B:Rn q b l (jh s7).2 (co C.size (Kg ((idn:Int),decide (nb=1),U)) dk:: [bI Kg 7 dk ss SS,bI l6 2 cH D V.1,bI l6 2 cH bx O.1,bI CX 7 bU vs VS,co pb (rG cK.1.1 cK.1.2 A.1 vs bx D E.1 ss) cF]) h7':=B;have z5':=w.size;have z5a:=ua0.size;have z6':=u6.size;have z7':=u7.size;refine⟨ss,B.cl 5 rfl 9,_,B.cl 0 rfl 0,_,B.cl 0 rfl 1,_,B.cl 0 rfl 2,_,B.cl 0 rfl 3,_,B.cl 0 rfl 4,_,B.cl 0 rfl 5,U.2.2.2.2,B.cl 0 rfl 6,bO fun h8' b8 k8=>?_⟩
  have r8:=B.up0 k8;have z8':=k8.size;have hSS:SS.length=rz.length:=RL.s.1;refine r8.push (f:=Kg) (so:=ss) (out:=SS) (bytes:=72) (y:=((idn:Int),decide (nb=1),U)) 1 rfl b8 rfl (by rfl) ⟨by decide,by decide⟩ (by omega) fun s' h9' r9 u9 hs9=>r9.wr (p:=pb) (i:=9) 5 rfl (by simp) fun G rA' uA'=>?_
  have z9':=u9.size;have zA':=uA'.size;have rE:Rn q b l (jh s7).2 [bI Kg 7 dk s' (SS++ [((idn:Int),decide (nb=1),U)]),bI l6 2 cH D V.1,bI l6 2 cH bx O.1,bI CX 7 bU vs VS,co pb (rG cK.1.1 cK.1.2 A.1 vs bx D E.1 s') cF] G:=rA'.tail;have L:∀y,y=pb∨sb ss y→AL [bI Kg 7 dk ss SS,bI l6 2 cH D V.1,bI l6 2 cH bx O.1,bI CX 7 bU vs VS,co pb (rG cK.1.1 cK.1.2 A.1 vs bx D E.1 ss) cF] y:=fun y d=>d.elim (fun e=>⟨_,ak (i:=4) rfl,e⟩) fun e=>⟨_,ak (i:=0) rfl,e⟩
  have w6':Upd (fun y=>(y=pb∨sb ss y)∨y=C.size) h6' G:=((((u7.mono fun y d=>.inl (.inr d)).tr k8.wide).tr (u9.mono fun y d=>.inl (.inl (.inr d)))).tr (uA'.mono fun y d=>.inl (.inl (.inl d))))
  have wE2:Upd (fun y=>(y=b∨y=pb∨sb ss y)∨k.size≤y) k G:=((w.tr (ua0.mono fun y d=>.inl (.inr (by have d:y=C.size:=d;omega)))).tr (u6.mono fun y d=>.inl (.inl (.inl d)))).tr (w6'.mono fun y d=>.inl (d.elim (fun e=>.inl (.inr e)) fun e=>.inr (by omega)))
  have hP:∀z0,z0≤h8'.size→∀y,AL [bI Kg 7 dk s' (SS++ [((idn:Int),decide (nb=1),U)]),bI l6 2 cH D V.1,bI l6 2 cH bx O.1,bI CX 7 bU vs VS,co pb (rG cK.1.1 cK.1.2 A.1 vs bx D E.1 s') cF] y→AL [bI Kg 7 dk ss SS,bI l6 2 cH D V.1,bI l6 2 cH bx O.1,bI CX 7 bU vs VS,co pb (rG cK.1.1 cK.1.2 A.1 vs bx D E.1 ss) cF] y∨z0≤y:=by
   rintro z0 hz y ⟨a,N,d⟩;simp only[au,dN,or_false]at N;rcases N with rfl|rfl|rfl|rfl|rfl
   ·exact(hs9 y d).elim (fun e=>.inl (L y (.inr e))) fun e=>.inr (by omega)
   ·exact .inl ⟨_,ak (i:=1) rfl,d⟩
   ·exact .inl ⟨_,ak (i:=2) rfl,d⟩
   ·exact .inl ⟨_,ak (i:=3) rfl,d⟩
   ·exact .inl (L y (.inl d))
  have RE2:=RL.go rE wE2 (fun y d=>d.elim (fun e=>.inl (e.imp id (L y))) .inr) (hP _ (by omega))
  have on:XsOk (fun y=>y<x.size∨y=b∨AL [bI Kg 7 dk s' (SS++ [((idn:Int),decide (nb=1),U)]),bI l6 2 cH D V.1,bI l6 2 cH bx O.1,bI CX 7 bU vs VS,co pb (rG cK.1.1 cK.1.2 A.1 vs bx D E.1 s') cF] y) G cK.1.1 cK.1.2 ((idn:Int),decide (nb=1),U) ((idn:Int),decide (nb=1),(jh s7).1):=by
   refine⟨rfl,rfl,to.re (W:=fun y=>y<Z.size) w6' (fun y d=>.inl ?_) fun y d=>?_⟩
   ·show y<Z.size
    rcases d with e|e
    ·have:=RL.r.o.al (L y e);omega
    ·omega
   ·rcases d with e|e|e
    ·exact .inl (by show y<Z.size;omega)
    ·exact .inl (by show y<Z.size;omega)
    ·exact(hP h6'.size (by omega) y e).imp (fun e=>by have:=RL.r.o.al e;show y<Z.size;omega) id
  refine hI (m,rz++ [((idn:Int),decide (nb=1),(jh s7).1)],(jh s7).2) _ _ ⟨ew,by omega,s',_,⟨RE2.r,RE2.v,RE2.s.push on,RE2.lz⟩,by simpa using nx,wL.trans wE2 fun y d=>.inr ?_,fun y d=>(hs9 y d).elim (Q y) fun e=>by omega,hr4⟩ (by simp)
  rcases d with(e|e|e)|e
  ·omega
  ·omega
  ·exact Q y e
  ·omega
 rw[yE c4,←eZ]at hr4;subst hr4;refine Ql RL.r.i fun hM iM uM=>?_
 have RM:=RL.rd iM uM;have wM:=X wL uM fun y d=>.inl d
 have bM:=wM.get0 b1;refine CondP.intro (fun c=>?_) fun c=>?_
 ·have c:(Ai H).2≠0:=by simpa using c
  refine eE bM (by rfl) fun hE F uE=>⟨_,vc F 0,_,vc F 1,_,vc F 2,_,vc F 3,_,vc F 4,dU,vc F 5,dU,vc F 6,dU,vc F 7,_,vc F 8,dU,vc F 9,he c hE ((k1.tr wM).trans uE fun y d=>.inr (by have d:y=h.size:=d;omega))⟩
 ·have c:(Ai H).2=0:=by simpa using c
  have zM:=wM.size;refine⟨_,RM.r.cl 4 rfl 0,_,RM.r.cl 4 rfl 1,_,RM.r.cl 4 rfl 2,_,RM.r.cl 4 rfl 3,_,RM.r.cl 4 rfl 4,vs,RM.r.cl 4 rfl 5,bx,RM.r.cl 4 rfl 6,D,RM.r.cl 4 rfl 7,_,RM.r.cl 4 rfl 8,ss,RM.r.cl 4 rfl 9,eE bM (by rfl) fun hE F uE=>⟨_,vc F 0,_,vc F 1,_,vc F 2,_,vc F 3,_,vc F 4,vs,vc F 5,bx,vc F 6,D,vc F 7,_,vc F 8,ss,vc F 9,hk c hE ((cK.1.1:Int),cK.1.2.k0,cK.1.2.k1,cK.1.2.mask,(A.1:Int),vs,bx,D,(E.1:Int),ss) ?_ ((k1.tr wM).trans uE fun y d=>.inr (by have d:y=h.size:=d;omega))⟩⟩
  have hw:∀y,y=h.size→(y<x.size∨y=b∨AL [bI Kg 7 dk ss SS,bI l6 2 cH D V.1,bI l6 2 cH bx O.1,bI CX 7 bU vs VS,co pb (rG cK.1.1 cK.1.2 A.1 vs bx D E.1 ss) cF] y)∨hM.size≤y:=fun y d=>.inl (.inl (by omega))
  have hw2:∀y,y<h.size→(y<x.size∨y=b∨AL [bI Kg 7 dk ss SS,bI l6 2 cH D V.1,bI l6 2 cH bx O.1,bI CX 7 bU vs VS,co pb (rG cK.1.1 cK.1.2 A.1 vs bx D E.1 ss) cF] y)∨hM.size≤y:=fun y d=>.inl (.inl (by omega))
  have sub:∀{α:Type} {f:α→List Value} {sz:Nat} {ty:TypeId} {sx:SliceV} {xs:List α},OwnS f sz ty (sb sx) hM sx xs→(∀y,sb sx y→x.size≤y)→Sl f sz (fun y=>y<h.size) hE sx xs:=fun o ho=>
   ((o.sl (W:=fun y=>y<x.size) fun y d _ hlt=>by have:=ho y d;omega).upd uE fun y d=>.inl (by show y<x.size;have d:y=h.size:=d;omega)).less fun y d=>.inl (by show y<x.size;have d:y<h.size:=d;omega)
  refine⟨rfl,⟨rfl,rfl,rfl⟩,rfl,⟨VS,sub (RM.r.o.get (i:=3) rfl) hsb,RM.v.imp fun v r o=>o.re uE hw hw2⟩,sub (RM.r.o.get (i:=2) rfl) obx,sub (RM.r.o.get (i:=1) rfl) otx,rfl,⟨SS,sub (RM.r.o.get (i:=0) rfl) Q,RM.s.imp fun v r o=>o.re uE hw hw2⟩⟩
end Go.Proofs
namespace Go.Proofs
open Go Go.Lift
structure WrE(z:Nat)(h1 h:af)(pb ob:Nat)(xs:List UInt8):Prop where
 o:∃s,h[ob]? =some (.cells #[.slice s.a s.len s.cap] xy (0,0))∧Sl yq 1 No h s xs∧s.len≤s.cap
 k:Upd (fun y=>z≤y∧y≠pb) h1 h
 lz:z≤ob∧ob≠pb
theorem WrE.num{z:Nat}{g h:af}{pb c:Nat}{xs:List UInt8}(w:WrE z g h pb c xs)(p:xs.length≤1000000){n:Nat}(d:n<128){v:Int}(o:v=(n:Int)){K:Unit→af→Prop}(k:∀b,WrE z g b pb c (xs++ [UInt8.ofNat n])→K () b):HC PG d9 [.pointer (some ⟨c,0,none⟩),.int .u64 v] [] K h:=by
 subst o;obtain⟨s,j,i,hc⟩:=w.o;refine O0 j i hc (by omega) n (by omega) fun b s' m e u=>k b ⟨⟨s',m,?_,e.cap⟩,w.k.tr (u.mono fun y f=>.inl (by have f:y=c:=f;rw[f];exact w.lz)),w.lz⟩
 rw[NZ d]at e;exact e.sl fun _ _ _ h=>h
theorem WrE.names{z:Nat}{f h:af}{pb e:Nat}{xs:List UInt8}(w:WrE z f h pb e xs)(i:xs.length≤1000000){K:Unit→af→Prop}(g:∀d,WrE z f d pb e (xs++ [0])→K () d):HC PG nQ [.pointer (some ⟨e,0,none⟩),.slice none 0 0] [] K h:=by
 refine DG _ dU ?_;unfold xo cp gR nv BL ft cP Fc Es cr U4;refine w.num i (n:=0) (by omega) rfl fun d w'=>LoopP.ghost (fun(_:Unit) t b=>t=0∧b=d) (fun _=>0) () ⟨rfl,rfl⟩ ?_
 rintro I _ t b ⟨rfl,rfl⟩ _;exact av (fun c=>absurd c (by decide)) fun _=>g b w'
theorem Oq{h:af}{ss:SliceV}(v:ss.len=0){K:SliceV→af→Prop}(D:∀h' s,Sl yq 1 No h' s [81,1,1,0,0,0,0,0]→Upd No h h'→K s h'):
  HC PG xJ [.agg #[.int .i64 1,.int .u64 0,.int .u64 0,.int .u64 0,.int .u32 1,.slice none 0 0,.slice none 0 0,.slice none 0 0,.int .i64 0,.slice ss.a ss.len ss.cap]] [.c .slice] K h:=by
 refine JX (1,0,0,0,1,dU,dU,dU,0,ss) ?_;unfold CQ aW cp gR bV nv TG aC cq bW A7 BL ft cz bZ xZ U5 IL Ov IR Ou IK LX;refine bO fun f b1 k1=>⟨_,vc b1 0,bO fun h2 b2 A=>bO fun g b3 m=>?_⟩
 have P:=bo b1;have O:=bo b2;have H:=bo b3;have k:=m.get0 (A.get0 b1);have d:∀{h':af} {xs},WrE f.size g h' h.size h2.size xs→h'[h.size]? =_:=fun w=>w.k.get k fun e=>e.2 rfl
 have E:WrE f.size g g h.size h2.size [81,1]:=by
  refine⟨⟨⟨some ⟨f.size,0,none⟩,2,2⟩,b3,?_,aq _⟩,Upd.refl _ _,by omega,by omega⟩
  have o:OwnS yq 1 lI (fun _=>True) g ⟨some ⟨f.size,0,none⟩,2,2⟩ [81,1]:=⟨rfl,uS,aq _,.inr ⟨f.size,[],rfl,trivial,m.get0 b2,rfl⟩⟩
  exact o.sl fun _ _ _ h=>h
 refine Join.plain ⟨_,vc k 0,aH.2 ⟨_,vc k 4,?_⟩⟩;refine E.num (by decide) (n:=1) (by omega) (show ac .u64 1=((1:Nat):Int) by decide) fun L q=>⟨dU,vc (d q) 5,q.num (by decide) (n:=0) (by omega) (by decide) fun B p=>⟨dU,vc (d p) 5,?_⟩⟩
 refine LoopP.ghost (fun(_:Unit) t b=>t=0∧b=B) (fun _=>0) () ⟨rfl,rfl⟩ ?_
 rintro I _ t b ⟨rfl,rfl⟩ _;refine av (fun c=>absurd c (by decide)) fun _=>⟨dU,vc (d p) 6,p.names (by decide) fun J z=>⟨dU,vc (d z) 7,z.names (by decide) fun Q u=>⟨_,vc (d u) 8,u.num (by decide) (n:=0) (by omega) (show ac .u64 0=((0:Nat):Int) by decide) fun N x=>⟨ss,vc (d x) 9,x.num (by decide) (n:=0) (by omega) (by rw[v];decide) fun C i=>⟨ss,vc (d i) 9,?_⟩⟩⟩⟩⟩
 refine LoopP.ghost (fun(_:Unit) t b=>t=0∧b=C) (fun _=>0) () ⟨rfl,rfl⟩ ?_
 rintro I _ t b ⟨rfl,rfl⟩ _;refine av (fun c=>absurd c (by rw[v];decide)) fun _=>?_
 obtain⟨s,G,j,_⟩:=i.o;exact⟨_,rfl,s,vc G 0,D b s j (((k1.tr A).tr m).trans i.k fun y F=>.inr (by have:=F.1;omega))⟩
theorem M9{h:af}{K:Bool→af→Prop}(t:∀h',Upd No h h'→K true h'):HC PG yY [] [.c .bool] K h:=by
 refine LK ?_;unfold Ep zg1 vl2;refine OH (kind:=1) (.inr rfl) (x:=⟨0,0,0⟩) (Upd.refl No h) fun D sp B A pb cb s u q y c g hx w=>aX.2 (aX.2 ?_)
 refine Ei _ ?_;unfold zo VP;refine aH.2 (Qy w u q y fun h2 ids es sl f em n=>?_)
 have p:s.e=(1,0,0,0,none,s.e.2.2.2.2.2):=by
  have i:=w.g.v.em;rw[g,hx]at i;rcases i with⟨e,_⟩|⟨_,b,e,_⟩
  ·exact absurd e (by decide)
  ·rw[e]
 rw[p,c];refine Oq f fun k C d v=>bO fun m z j=>?_
 have o:OwnS yq 1 lI (fun _=>True) m ⟨some ⟨k.size,0,none⟩,8,8⟩ [81,1,1,0,0,0,0,0]:=⟨rfl,uS,aq _,.inr ⟨k.size,[],rfl,trivial,z,rfl⟩⟩
 exact OY (d.upd j fun _ h=>h.elim) (o.sl (W:=No) fun _ _ _ h=>h) (by decide) (t m ((n.k.tr v).tr j))
theorem MF{W:Nat→Prop}{h:af}{sl:SliceV}{l:List UInt8}(F:Sl yq 1 W h sl l)(hc:sl.len≤sl.cap)(hn:l.length≤9223372036854775807):HC PG AB [.slice sl.a sl.len sl.cap] [.c .bool] (fun e b=>e=true∧Upd No h b) h:=by
 have Q:=F.len;refine Ht sl ?_;unfold AN gR bV nv DR TG;refine M9 fun s k1=>aH.2 ?_
 have u:=F.upd k1 fun _ h=>h.elim
 refine Join.intro (fun t b=>∃bs:List UInt8,bs.length≤300∧Sl yq 1 No b t bs∧t.len≤t.cap∧Upd No h b) (fun R hR=>bO fun h2 b2 q=>?_) ?_
 ·obtain⟨m,em,hm,Z⟩:∃m:Nat,(if 300<(sl.len:Int)then(300:Int)else(sl.len:Int))=(m:Int)∧m≤l.length∧m≤300:=by
   split
   ·exact⟨300,rfl,by omega,aq _⟩
   ·exact⟨sl.len,rfl,by omega,by omega⟩
  rw[em];have J:=(u.upd q fun _ h=>h.elim).sub (l:=0) (hi:=m) (m:=sl.cap) (c:=sl.cap-0) (bJ _) hm (by omega)
  rw[dH,Nat.sub_zero]at J;have z1:=bo b2;refine⟨⟨by omega,by omega⟩,IE (IE (IE ⟨_,J.srow,?_⟩))⟩
  have Y:OwnS yq 1 lI (fun y=>s.size≤y) h2 ⟨some (aI s),0,0⟩ []:=OwnS.nil uS
  refine AppP.own (ys:=l.take m) Y (by show m-0=_;rw[aO];omega) rfl (Jm _) rfl (by omega) (by rw[aO,aM];omega) (by show s.size≤h2.size;omega) fun s' p x u3=>hR _ _ ⟨l.take m,by rw[aO];omega,?_,x.cap,(k1.tr q).trans u3 fun y hy=>.inr (by have:=k1.size;omega)⟩
  rw[List.nil_append]at x;exact x.sl fun _ _ _ h=>h
 rintro t h2 ⟨bs,hb,j,z,q⟩;have f:∀{h:af} {sx:SliceV} {K:Pt×Int→af→Prop},sx.len=16777217→(∀b,Upd No h b→K (VO,10) b)→HC PG p4 [.slice sx.a sx.len sx.cap] Qu K h:=fun{h sx K} e hk=>by
  refine Eh sx ?_;unfold zn gR bV fA nv DR aC ag cq bW cu TZ ft ar cz TQ TY px;refine bO fun s b1 k1=>av (fun _=>?_) fun c=>absurd (show(sx.len:Int)>16777216 by omega) c
  refine eE b1 (by rfl) fun h2 b2 u2=>?_
  exact⟨_,vc b2 0,_,vc b2 1,_,vc b2 2,_,vc b2 3,_,vc b2 4,dU,vc b2 5,dU,vc b2 6,dU,vc b2 7,_,vc b2 8,dU,vc b2 9,hk h2 (k1.own u2 (aq _))⟩
 have T:(16777217:Int).toNat=16777217:=by omega
 obtain⟨i,o⟩:∃c:Int,c=(Ay (bs,0)).2.2:=⟨_,rfl⟩;refine HC.mono (ks:=Qu) (K:=fun(n:Pt×Int) b=>Upd No h2 b∧n.2=i∧(n.2≠0→n.1=VO)) (QB j (by omega) (fun e b k=>by dsimp only;exact⟨k,o.symm,fun _=>rfl⟩) fun e b v _ k=>by dsimp only;exact⟨k,(o.trans e).symm,fun e2=>absurd rfl e2⟩) ?_
 rintro⟨v,e⟩ p ⟨G,A,hv⟩;simp only at A hv;refine bO fun h4 b4 U=>eE b4 (by rfl) fun w d u5=>?_
 have d:w[p.size]? =some (.cells (ptF v).toArray bH (0,0)):=d;have L:Upd No p w:=U.own u5 (aq _);refine⟨⟨by omega,by omega,by omega,by omega⟩,bO fun h6 b6 B=>?_⟩
 clear b6;refine f (sx:=⟨_,(16777217:Int).toNat,(16777217:Int).toNat⟩) T fun h7 S=>?_
 refine bO fun h8 b8 k8=>eE b8 (by rfl) fun h9 b9 u9=>?_
 refine⟨⟨by omega,by omega,by omega,by omega⟩,bO fun hA bA E=>?_⟩
 clear bA;have P:Upd No h7 h9:=k8.own u9 (aq _);refine Hm ⟨_,(16777217:Int).toNat,(16777217:Int).toNat⟩ ?_;unfold AK gR bV nv DR TG aC ag vg0;refine f (sx:=⟨_,(16777217:Int).toNat,(16777217:Int).toNat⟩) T fun hB D=>bO fun hC bC O=>eE bC (by rfl) fun C bD I=>aX.2 ?_
 have kD:Upd No p C:=(((((L.tr B).tr S).tr P).tr E).tr D).tr (O.own I (aq _));refine HC.mono (ks:=Qu) (K:=fun(n:Pt×Int) b=>Upd No C b∧n.2=i) (ON (j.upd (G.tr kD) fun _ h=>h.elim) z (by omega) (fun e b k=>by dsimp only;exact⟨k,o.symm⟩) fun e b v _ k=>by dsimp only;exact⟨k,(o.trans e).symm⟩) ?_
 clear o;rintro⟨v',e'⟩ hE ⟨X,g⟩;simp only at g;refine bO fun hF V kF=>eE V (by rfl) fun H bG uG=>?_
 have N:Upd No w H:=(((((B.tr S).tr P).tr E).tr D).tr (O.own I (aq _))).tr (X.tr (kF.own uG (aq _)));have d:=N.get0 d;refine Ei _ ?_;unfold zo VP;have fin:Upd No h H:=(q.tr G).tr (L.tr N);refine aX.2 (aX.2 ?_);rw[A,g,show(i==i)=true from beq_self_eq_true _]
 refine aX.2 (CondP.intro (fun _=>aX.2 (aX.2 ⟨rfl,fin⟩)) fun c=>?_)
 have c:i≠0:=by simpa using c
 have hv:=hv (by rw[A];exact c);subst hv;exact⟨dU,vc d 5,dU,vc d 6,dU,vc d 9,IE (aX.2 ⟨_,vc d 4,aX.2 (aX.2 (aX.2 ⟨rfl,fin⟩))⟩)⟩
end Go.Proofs
