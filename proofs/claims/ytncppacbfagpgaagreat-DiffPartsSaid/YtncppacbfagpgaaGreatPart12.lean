/- A part of the proof that the named laws of this program answer true, whatever the input. -/
import Derived.Test.YtncppacbfagpgaaGreatPart11
import Derived.Test.YtncppacbfagpgaaGreatPart9
open ByteArray renaming mk→lM
open Int renaming tmod→oQ
open List renaming range→fV,getElem?_eq_getElem→ai,getElem?_eq_none→mq,pairwise_iff_getElem→bP,getElem_mem→bJ,length_take→aI,mem_of_mem_take→gf,take_length→bV,length_drop→aN
open Nat renaming le_refl→aq,zero_le→be,lt_or_ge→bX,lt_of_lt_of_le→ay
namespace Go.Proofs
open Go Go.Lift Go.Sort
variable {dec:Int→Ch} {M:Nat→Prop} {s:SliceV} {h:af} {d:Array Int}
theorem Sf:SWO (kI dec):=⟨fun x=>woG.irr _,fun x y z h1 h2=>by
 unfold kI Ui at*
 exact decide_eq_true (fp (of_decide_eq_true h1) (of_decide_eq_true h2)),fun x y z h1 h2=>woG.ntr _ _ _ h1 h2⟩
theorem Vf:∀(n:Nat) {a e:Nat} {lim:Int} {h:af} {d:Array Int} {K:Unit→af→Prop},e-a=n→SA dec M s h d→a≤e→e≤d.size→Go.Sort.Below (kI dec) a e d→
  (∀h' d',SA dec M s h' d'→PermIn a e d d'→SortedIn (kI dec) a e d'→Upd M h h'→K () h')→HC PG cZ [.slice s.a s.len s.cap,.int .i64 a,.int .i64 e,.int .i64 lim,qL] [] K h:=by
 intro n;induction n using Nat.strongRecOn with
 |_ n ih=>
 intro a e lim h d K hn hs ha he hB hk;refine jg s a e lim qL ?_;unfold fO ae bS;have hsm:=hs.small;refine LoopP.ghost (fun(g:Nat×Nat×Array Int) (t:Int×Int×Int×Bool×Bool) h'=>t.1=(g.1:Int)∧t.2.1=(g.2.1:Int)∧SA dec M s h' g.2.2∧g.2.2.size=d.size∧(a≤g.1∧g.1≤g.2.1∧g.2.1≤e)∧Go.Sort.Below (kI dec) g.1 g.2.1 g.2.2∧
   (∀R,PermIn g.1 g.2.1 g.2.2 R→SortedIn (kI dec) g.1 g.2.1 R→PermIn a e d R∧SortedIn (kI dec) a e R)∧Upd M h h') (fun g=>g.2.1-g.1) (a,e,d)
  ⟨rfl,rfl,hs,rfl,⟨aq _,ha,aq _⟩,hB,fun R h1 h2=>⟨h1,h2⟩,Upd.refl _ _⟩ ?_
 rintro I ⟨a1,e1,d1⟩ ⟨t1,t2,l1,wb,wp⟩ h1 ⟨ht1,ht2,hs1,hz1,⟨haa,hae,hee⟩,hB1,hfin,hu1⟩ hI;simp only at ht1 ht2 hs1 hz1 haa hae hee hB1 hfin;subst ht1 ht2;have he1:e1≤d1.size:=by omega
 have wl:IntKind.wrap .i64 ((e1:Int)-(a1:Int))=((e1-a1:Nat):Int):=by rw[cS (by omega)];omega
 simp only;rw[wl];refine ax (fun hle=>?_) fun hgt=>?_
 ·refine Oq hs1 hae he1 fun h2 hs2 hu2=>?_
  obtain⟨p1,p2⟩:=insertionSort_holds Sf d1 a1 e1 hae he1;obtain⟨q1,q2⟩:=hfin _ p1 p2;exact hk _ _ hs2 q1 q2 (hu1.tr hu2)
 have hgt:12<e1-a1:=by omega
 refine CondP.intro (fun _=>?_) fun _=>?_
 ·refine Mg hs1 hae he1 fun h2 hs2 hu2=>?_
  obtain⟨p1,p2⟩:=heapSort_holds Sf d1 a1 e1 hae he1;obtain⟨q1,q2⟩:=hfin _ p1 p2;exact hk _ _ hs2 q1 q2 (hu1.tr hu2)
 refine Join.intro (fun _ h'=>∃d2,SA dec M s h' d2∧PermIn a1 e1 d1 d2∧Upd M h h') (fun R hR=>?_) ?_
 ·refine CondP.intro (fun _=>?_) fun _=>hR _ _ ⟨d1,hs1,permIn_refl ..,hu1⟩
  exact Da hs1 hae he1 fun h2 d2 hs2 hp2 hu2=>hR _ _ ⟨d2,hs2,hp2,hu1.tr hu2⟩
 rintro lim2 h2 ⟨d2,hs2,hp2,hu2⟩;have hz2:d2.size=d.size:=by rw[hp2.1,hz1]
 refine Gt hs2 (by omega) (by omega) fun h3 p hn1 hpa hpe hs3 hu3=>?_
 refine Join.intro (fun t h'=>∃(q:Nat) (d3:Array Int),t.1=(q:Int)∧a1≤q∧q<e1∧SA dec M s h' d3∧PermIn a1 e1 d1 d3∧Upd M h h') (fun R hR=>?_) ?_
 ·refine CondP.intro (fun _=>?_) fun _=>hR _ _ ⟨p,d2,rfl,hpa,hpe,hs3,hp2,hu2.tr hu3.wide⟩
  refine Lx hs3 (by omega) (by omega) fun h4 hs4 hu4=>hR _ _ ⟨e1-1-(p-a1),_,?_,by omega,by omega,hs4,permIn_trans _ _ _ _ _ hp2 (reverseRange_holds d2 a1 e1 hae (by omega)),(hu2.tr hu3.wide).tr hu4⟩
  show IntKind.wrap .i64 (IntKind.wrap .i64 ((e1:Int)-1)-IntKind.wrap .i64 ((p:Int)-(a1:Int)))=_
  rw[cS (x:=(e1:Int)-1) (by omega),cS (x:=(p:Int)-(a1:Int)) (by omega),cS (by omega)];omega
 rintro⟨q1,hint⟩ h4 ⟨q,d3,hq,hqa,hqe,hs4,hp4,hu4⟩;simp only at hq;subst hq;have hz3:d3.size=d.size:=by rw[hp4.1,hz1]
 have hB3:Go.Sort.Below (kI dec) a1 e1 d3:=hB1.perm he1 hp4;refine Join.intro (fun _ h'=>∃d4,SA dec M s h' d4∧PermIn a1 e1 d1 d4∧Upd M h h') (fun R hR=>?_) ?_
 ·refine Join.intro (fun _ h'=>h'=h4) (fun R2 hR2=>CondP.intro (fun _=>CondP.intro (fun _=>hR2 _ _ rfl) fun _=>hR2 _ _ rfl) fun _=>hR2 _ _ rfl) ?_
  rintro _ h5 rfl;refine CondP.intro (fun _=>?_) fun _=>hR _ _ ⟨d3,hs4,hp4,hu4⟩
  refine Hm hs4 (by omega) (by omega) fun h6 hs6 hu6=>?_
  obtain⟨p1,p2⟩:=partialInsertionSort_holds Sf d3 a1 e1 (by omega) (by omega) hB3;refine CondP.intro (fun hb=>?_) fun _=>hR _ _ ⟨_,hs6,permIn_trans _ _ _ _ _ hp4 p1,hu4.tr hu6⟩
  obtain⟨r1,r2⟩:=hfin _ (permIn_trans _ _ _ _ _ hp4 p1) (p2 hb);exact hk _ _ hs6 r1 r2 (hu4.tr hu6)
 rintro _ h5 ⟨d4,hs5,hp5,hu5⟩;have hz4:d4.size=d.size:=by rw[hp5.1,hz1]
 have hB4:Go.Sort.Below (kI dec) a1 e1 d4:=hB1.perm he1 hp5;refine Join.intro (fun t h'=>SA dec M s h' d4∧Upd No h5 h'∧(t=true→0<a1∧(kI dec) d4[a1-1]! d4[q]! =false)) (fun R hR=>?_) ?_
 ·refine ax (fun h6=>?_) fun _=>hR _ _ ⟨hs5,Upd.refl _ _,fun e=>by cases e⟩
  refine hs5.less (i:=a1-1) (j:=q) (by rw[cS (by omega)];omega) rfl (by omega) (by omega) fun hL eL hsL kL heL=>hR _ _ ⟨hsL,kL,fun e=>⟨by omega,by rw[heL]at e;simpa using e⟩⟩
 rintro t h6 ⟨hs6,k6,ht⟩;have hu6:=hu5.tr k6.wide;refine CondP.intro (fun ht1=>?_) fun _=>?_
 ·obtain⟨h7,h8⟩:=ht ht1
  refine QL hs6 hqa hqe (by omega) fun h9 hs9 hu9=>?_
  cases hx:partitionEqual (kI dec) d4 a1 e1 q with
  |mk mid d5=>
   rw[hx]at hs9;obtain⟨m1,m2,m3,m4,m5⟩:=round_eq Sf (partitionEqual_holds _) h7 hqa hqe (by omega) hB4 h8 hx;refine hI (mid,e1,d5) _ _ ⟨rfl,rfl,hs9,by simp only;omega,⟨by simp only;omega,m2,hee⟩,m4,fun R r1 r2=>?_,hu6.tr hu9⟩ (by simp only;omega)
   obtain⟨x1,x2⟩:=m5 R r1 r2;exact hfin R (permIn_trans _ _ _ _ _ hp5 x1) x2
 ·refine Ua hs6 hqa hqe (by omega) fun h9 hs9 hu9=>?_
  cases hx:partition (kI dec) d4 a1 e1 q with
  |mk mid r=>
   obtain⟨ap,d5⟩:=r;rw[hx]at hs9;obtain⟨m1,m2,m3,m4,m5,m6,m7⟩:=round_part Sf (partition_holds _) hqa hqe (by omega) hB4 hx;simp only at hs9⊢;refine⟨by decide,?_⟩;have w1:IntKind.wrap .i64 ((mid:Int)-(a1:Int))=((mid-a1:Nat):Int):=by rw[cS (by omega)];omega
   have w2:IntKind.wrap .i64 ((e1:Int)-(mid:Int))=((e1-mid:Nat):Int):=by rw[cS (by omega)];omega
   have w3:IntKind.wrap .i64 ((mid:Int)+1)=((mid+1:Nat):Int):=by rw[cS (by omega)];omega
   rw[w1,w2,w3];refine ax (fun _=>?_) fun _=>?_
   ·refine ih (mid-a1) (by omega) rfl hs9 m1 (by omega) m4 fun h10 d6 hs10 hp10 hq10 hu10=>?_
    obtain⟨y1,y2⟩:=m6 d6 hp10 hq10;have hz6:=hp10.1;refine hI (mid+1,e1,d6) _ _ ⟨rfl,rfl,hs10,by simp only;omega,⟨by simp only;omega,by simp only;omega,hee⟩,y1,fun R r1 r2=>?_,(hu6.tr hu9).tr hu10⟩ (by simp only;omega)
    obtain⟨x1,x2⟩:=y2 R r1 r2;exact hfin R (permIn_trans _ _ _ _ _ hp5 x1) x2
   ·refine ih (e1-(mid+1)) (by omega) rfl hs9 (by omega) (by omega) m5 fun h10 d6 hs10 hp10 hq10 hu10=>?_
    obtain⟨y1,y2⟩:=m7 d6 hp10 hq10;have hz6:=hp10.1;refine hI (a1,mid,d6) _ _ ⟨rfl,rfl,hs10,by simp only;omega,⟨haa,m1,by simp only;omega⟩,y1,fun R r1 r2=>?_,(hu6.tr hu9).tr hu10⟩ (by simp only;omega)
    obtain⟨x1,x2⟩:=y2 R r1 r2;exact hfin R (permIn_trans _ _ _ _ _ hp5 x1) x2
theorem FT{d d':Array Int}(hp:PermIn 0 d.size d d'):d'.toList.Perm d.toList:=by
 have:=hp.2.2;have e1:d'.extract 0 d.size=d':=by rw[←hp.1];simp
 rw[e1]at this;simpa using this
theorem Sg{M:Nat→Prop}{h:af}{s:SliceV}{L X:List Ch}(ho:OwnS p5 5 aO M h s L)(hp:L.Perm X)(hX:lx X)(hn:L.length≤100000000)(hM:∀b,M b→b<h.size){K:Unit→af→Prop}(hk:∀h',OwnS p5 5 aO M h' s X→Upd M h h'→K () h'):
  HC PG cq [.slice s.a s.len s.cap,.func (.func m0) #[] #[]] [] K h:=by
 refine gh s _ ?_;unfold d8;have hlen:=ho.len;rw[Go.IntWalk.u64_in _ (by omega)];refine Oa (by omega) fun L0 _ _=>?_
 let dec:Int→Ch:=fun i=>L[i.toNat]?.getD (⟨#[]⟩,⟨#[]⟩,⟨#[]⟩,false,false)
 let d:Array Int:=((fV L.length).map fun i:Nat=>(i:Int)).toArray
 have hd:d.toList.map dec=L:=by
  apply List.ext_getElem?;intro i;rw[List.getElem?_map];show(((fV L.length).map fun i:Nat=>(i:Int))[i]?).map dec=_
  rw[List.getElem?_map];by_cases hi:i<L.length
  ·rw[List.getElem?_range hi,ai hi]
   show some (L[((i:Int)).toNat]?.getD _)=_
   rw[Int.toNat_natCast,ai hi];rfl
  ·rw[mq (by rw[List.length_range];omega),mq (by omega)];rfl
 have hz:d.size=L.length:=by simp[d]
 have hs:SA dec M s h d:=⟨by rw[hd];exact ho,by omega,hM⟩
 have e1:((s.len:Nat):Int)=((d.size:Nat):Int):=by rw[hz,hlen]
 rw[e1];refine Vf (a:=0) (e:=d.size) _ rfl hs (be _) (aq _) (.inl rfl) fun h' d' hs' hp' hq hu=>?_
 have hpm:=FT hp';have hL:(d'.toList.map dec).Perm L:=by
  have:=hpm.map dec;rw[hd]at this;exact this
 have hS:Srt Ui (d'.toList.map dec):=by
  unfold Srt;rw[List.pairwise_map,bP];intro i j hi hj hij;have hz2:=hp'.1;have:=hq i j (be _) hij (by rw[←hz2];simpa using hj);rw[getElem!_pos d' j (by simpa using hj),getElem!_pos d' i (by simpa using hi)]at this;have this:Ui (dec d'[j]) (dec d'[i])=false:=this;simpa only[Array.getElem_toList]using this
 have:=Lk (hL.trans hp) hS hX;subst this;exact hk h' hs'.own hu
end Go.Proofs
namespace Go.Proofs
open Go Go.Lift
theorem OC{W W':Nat→Prop}{x x':Hs}{h:af}{kind kind':Int}{t u:Tr}{l l':List Pr}(i:TreeIs W h kind x t l)(i':TreeIs W' h kind' x' u l')(hr:bD l)(hf:Fit l)(hn:l.length≤60000)(hr':bD l')(hf':Fit l')(hn':l'.length≤60000){K:SliceV×Int→af→Prop}
  (h0:oy t u=false→∀h',Upd No h h'→K (⟨none,0,0⟩,11) h')(hk:oy t u=true→∀h' s',OwnS p5 5 aO (fun y=>h.size≤y) h' s' (fy l l')→Upd No h h'→K (s',0) h'):HC PG sF [Fx t,Fx u] [.c .slice,.c (.int .i64)] K h:=
 Gn i i' hr hf hn hr' hf' hn' (fun _ {_ _ _ _ _} ho hM hp hk=>Sg ho hp (mQ hr hr') (by have:=hp.length_eq;have:=wG hr hr';omega) hM hk) h0 hk
end Go.Proofs
namespace Go.Proofs
open Go Go.Lift
theorem Few.mono{n m:Nat}{L:List Pr}(f:Few n L)(h:n≤m):Few m L:=⟨f.up,Nat.le_trans f.len h,f.fit⟩
theorem SM{h:af}{t:Tr}{r:Rt}{G:af→af→Prop}(hk:∀h1 h',Upd No h h'→h'[h.size]? =some (.cells (le t).toArray aV (0,0))→h'[h1.size]? =some (.cells (xj r).toArray dQ (0,0))→h.size<h1.size→G h1 h'):
  At (hnew h (le EC) aV) fun h1=>At (hnew h1 (xj Ss) dQ) fun h2=>dq h2 (some (ag h)) 0 (le t)∧At (aX h2 (ag h) 0 (le t)) fun h3=>dq h3 (some (ag h1)) 0 (xj r)∧At (aX h3 (ag h1) 0 (xj r)) fun h4=>G h1 h4:=by
 refine bm fun h1 b1 k1=>bm fun h2 b2 k2=>?_
 have z1:=bF b1;refine cR (c:=le EC) (vs:=le t) (k2.get0 b1) rfl fun h3 b3 hu3=>?_
 refine cR (c:=xj Ss) (vs:=xj r) (hu3.oth b2 (by omega)) rfl fun h4 b4 hu4=>?_
 exact hk h1 h4 (((k1.tr k2).own hu3 (aq _)).own hu4 k1.size) (hu4.oth b3 (by omega)) b4 z1
end Go.Proofs
namespace Go.Proofs
open Go Go.Lift
theorem LB{W:Nat→Prop}{h:af}{b:Nat}{l:List Pr}(t:RadAt W h b l)(hW:∀y,W y→y<h.size)(hr:bD l)(k:ByteArray){K:ByteArray×Bool→af→Prop}
  (hk:∀h',Upd No h h'→K ((look l k).getD ⟨#[]⟩,(look l k).isSome) h'):HC PG xH [.pointer (some ⟨b,0,none⟩),.string k] [.c .str,.c .bool] K h:=by
 refine MM (some ⟨b,0,none⟩) k ?_;unfold Em ae bS;refine Cz (.inr ⟨b,rfl,t⟩) hW fun h2 b2 t2 hu2 _=>?_
 obtain⟨w,F,r1,r2,r3⟩:=t2.ex;have hin:∀v,rL w F k.data.toList v↔look l k=some v:=fun v=>by
  rw[←jt,r3];constructor
  ·rintro⟨p,hp,e1,rfl⟩
   rw[←qM.1 e1];exact vf hr hp
  ·intro hp;exact⟨_,sM hp,rfl,rfl⟩
 refine LoopP.ghost (fun(g:ByteArray×Nat×ByteArray×Option ByteArray×Fo) (t:ByteArray×Option Addr) h'=>t=(g.1,some ⟨g.2.1,0,none⟩)∧RxN W h' g.2.1 g.2.2.1 g.2.2.2.1 g.2.2.2.2∧fz g.2.2.2.2∧(∀v,rL g.2.2.2.1 g.2.2.2.2 g.1.data.toList v↔look l k=some v)∧Upd No h h') (fun g=>g.1.size) (k,b2,⟨#[]⟩,w,F) ⟨rfl,r1,r2,hin,hu2⟩ ?_
 clear hin r1 r2 r3 t2;rintro I ⟨kk,c,sl,w,F⟩ t h5 ⟨rfl,r,hc,hin,hu⟩ hI;simp only at r hc hin;simp only[dG];by_cases hk0:kk=⟨#[]⟩
 ·subst hk0
  refine ak.2 (Lr r ?_);have e:look l k=w:=Option.ext fun v=>by
   rw[←hin v];constructor
   ·rintro(⟨_,h⟩|h)
    ·exact h
    ·exact absurd rfl (pd hc h)
   ·intro h;exact .inl ⟨rfl,h⟩
  rw[e]at hk;exact hk _ hu
 ·rw[decide_eq_false hk0]
  refine au.2 ?_;have hkne:kk.data.toList≠[]:=fun e=>hk0 (by cases kk;exact congrArg lM (Array.toList_inj.1 e))
  obtain⟨c0,hc0,hc0e⟩:=Kd hkne;refine⟨c0,Int.le_refl _,hc0,?_⟩;have hr0:=r;obtain⟨val,s,ow,ks,hb,_,hs,hcap,hF⟩:=r;have hL:=ki.1 hF;have hcan:=dU.1 hc;have none_of:(∀v,¬qu F kk.data.toList v)→K ((⟨#[]⟩:ByteArray),false) h5:=fun hno=>by
   have e:look l k=none:=by
    cases e:look l k with
    |none=>rfl
    |some v=>
     rcases(hin v).2 e with⟨h,_⟩|h
     ·exact absurd h hkne
     ·exact absurd h (hno v)
   rw[e]at hk;exact hk _ hu
  refine CB hr0 hc (c:=c0.toNat) (UInt8.toNat_lt _) fun i ok hil hlo hhi hok=>?_
  rw[hc0e]at hlo hhi hok;cases ok with
  |false=>
   refine au.2 (none_of fun v hin=>?_)
   obtain⟨n',hn',e,_⟩:=qG hc hin;obtain⟨j,hj,rfl⟩:=List.getElem_of_mem hn';rcases bX j i with hl|hl
   ·have:=hlo j hj hl;omega
   ·have h1:=hhi j hj hl
    have h2:=hhi i (by omega) (aq _);rcases bX i j with hl2|hl2
    ·have h3:=bP.1 hcan.1 i j (by omega) hj hl2
     omega
    ·have:i=j:=by omega
     subst this;have:=hok.2 ⟨hj,e⟩;cases this
  |true=>
   obtain⟨hi,hie⟩:=hok.1 rfl;refine ak.2 ⟨_,rfl,s,dX (i:=3) hb,?_⟩;obtain⟨kb,ksl,hki,hkl,hkn⟩:=hL.at hi;have hmem:F.toL[i]∈F.toL:=bJ hi;have hcm:=hcan.2 _ hmem;obtain⟨a,ha,_,hvv⟩:=hs.at0 hki;have hslen:=hs.len;rw[hL.1]at hslen;have hin_m:∀v,qu F kk.data.toList v↔tg F.toL[i] kk.data.toList v:=fun v=>by
    constructor
    ·intro hin
     obtain⟨n',hn',e,hN⟩:=qG hc hin;rw[←wH hc hn' hmem (by omega)];exact hN
    ·intro hin;exact fD.2 ⟨_,hmem,hin⟩
   refine⟨⟨by simp only;omega,by simp only;omega⟩,a,ha,some ⟨kb,0,none⟩,hvv,_,rfl,?_⟩
   obtain⟨kval,kss,kow,kks,hkb,_⟩:=id hkn;generalize F.toL[i]=m at hkl hkn hcm hin_m hie;obtain⟨lab,wk,Fk⟩:=m;simp only at hkl hkn hcm hie hkb;refine⟨ksl,dX (i:=0) hkb,S9 (fun rest hrest=>?_) fun hno=>?_⟩
   ·rw[hkl]at hrest
    have hlne:lab.length≠0:=fun e=>hcm.1 (List.length_eq_zero_iff.1 e)
    have hrl:rest.size<kk.size:=by
     rw[←kG rest,←kG kk,hrest,List.length_append];omega
    refine ak.2 (hI (rest,kb,ksl,wk,Fk) _ _ ⟨rfl,hkn,hcm.2.2,fun v=>?_,hu⟩ hrl)
    rw[←hin v];constructor
    ·intro h;exact .inr ((hin_m v).2 ⟨_,hrest,h⟩)
    ·rintro(⟨h,_⟩|h)
     ·exact absurd h hkne
     ·obtain⟨r',e,hr'⟩:=(hin_m v).1 h
      simp only at e;rw[hrest]at e;rw[List.append_cancel_left e];exact hr'
   ·rw[hkl]at hno
    refine au.2 (none_of fun v h=>?_)
    obtain⟨r',e,_⟩:=(hin_m v).1 h;exact hno r' e
theorem JA{W:Nat→Prop}{x:Hs}{h:af}{kind:Int}{t:Tr}{l:List Pr}(i:TreeIs W h kind x t l)(hW:∀y,W y→y<h.size)(hr:bD l)(hn:l.length≤1000000)(k:ByteArray){K:Sd→af→Prop}(hk:∀h',Upd No h h'→K ((look l k).getD ⟨#[]⟩,(look l k).isSome) h'):HC PG lQ [Fx t,.string k] [.c .str,.c .bool] K h:=by
 refine EJ t k ?_;unfold w7 ae;rcases i with⟨_,b,rfl,t⟩|⟨_,b,rfl,t⟩
 ·refine bm fun h1 b1 k1=>⟨_,vc b1 0,ak.2 ⟨_,Hd b1 1 0,_,Hd b1 1 1,_,Hd b1 1 2,_,vc b1 4,?_⟩⟩
  exact MD (TrieAt.upd0 k1 t) (fun y hy=>ay (hW y hy) k1.size) hr hn k fun h2 k2=>hk h2 (k1.tr k2)
 ·refine bm fun h1 b1 k1=>⟨_,vc b1 0,au.2 ⟨_,vc b1 5,?_⟩⟩
  exact LB (t.upd0 k1) (fun y hy=>ay (hW y hy) k1.size) hr k fun h2 k2=>hk h2 (k1.tr k2)
theorem Ur{W:Nat→Prop}{x:Hs}{h:af}{kind:Int}{t:Tr}{L:List Pr}{c:Ch}(i:TreeIs W h kind x t L)(hW:∀y,W y→y<h.size)(hr:bD L)(hn:L.length≤1000000){K:Bool→af→Prop}(hk:∀h',Upd No h h'→K (y4 L c) h'):HC PG pi [.agg #[.string c.1,.string c.2.1,.string c.2.2.1,.bool c.2.2.2.1,.bool c.2.2.2.2],Fx t] [.c .bool] K h:=by
 refine Aj c t ?_;unfold tG ae;refine bm fun h1 b1 k1=>bm fun h2 b2 k2=>⟨_,vc b2 0,_,vc b2 1,_,vc b2 2,_,vc b2 3,_,vc b2 4,_,vc b2 5,_,vc (k2.get0 b1) 0,?_⟩
 have k02:=k1.tr k2;refine JA (i.upd0 k02) (fun y hy=>ay (hW y hy) k02.size) hr hn c.1 fun h11 k11=>?_
 have c11:=k11.get0 (k2.get0 b1);have hk:=hk h11 (k02.tr k11);unfold y4 at hk;refine⟨_,vc c11 3,CondP.intro (fun e=>⟨_,vc c11 1,?_⟩) fun e=>?_⟩
 ·rw[dG]
  simp only at e;rw[e,Bool.true_and]at hk;exact hk
 ·simp only at e
  rw[e,Bool.false_and]at hk;exact hk
set_option maxHeartbeats 1000000 in
theorem A9{W W':Nat→Prop}{x:Hs}{h:af}{kind:Int}{t:Tr}{L:List Pr}{s:SliceV}{l:List Ch}(i:TreeIs W h kind x t L)(hW:∀y,W y→y<h.size)(hr:bD L)(hf:Fit L)(hn:L.length≤500000)(hs:Sl p5 5 W' h s l)(hln:l.length≤500000)(hz:xW l){K:Tr×Int→af→Prop}
  (hk0:qN L l≠0→∀h',Upd No h h'→K (t,qN L l) h')(hk:qN L l=0→∀h' t',TreeIs W h' kind x t' (gV L l)→Upd No h h'→K (t',0) h'):HC PG jS [Fx t,.slice s.a s.len s.cap] [.agg [.int .i64,.int .u64,.int .u64,.int .u64,.ptr,.ptr],.c (.int .i64)] K h:=by
 refine KH t s ?_;unfold BT ae bS;refine bm fun h1 b1 k1=>bm fun h2 b2 k2=>?_
 have z1:=bF b1;have z2:=bF b2;have s1:h.size≤h1.size:=k1.size;have k02:=k1.tr k2;refine wF (hs.upd k02 fun _ h=>h.elim) (by omega) hz fun h4 k4=>?_
 have k04:=k02.tr k4;have stop:∀{h':af} {e:Int},Upd No h2 h'→qN L l=e→e≠0→(∃v5:Int,aL h' (adr (ag h) 0)=some (.int .i64 v5)∧∃v6:Int,aL h' (adr (ag h) 1)=some (.int .u64 v6)∧∃v7:Int,aL h' (adr (ag h) 2)=some (.int .u64 v7)∧∃v8:Int,aL h' (adr (ag h) 3)=some (.int .u64 v8)∧∃v9:Option Addr,aL h' (adr (ag h) 4)=some (.pointer v9)∧∃v10:Option Addr,aL h' (adr (ag h) 5)=some (.pointer v10)∧
   (dq h' (some (ag h1)) 0 [.int .i64 v5,.int .u64 v6,.int .u64 v7,.int .u64 v8,.pointer v9,.pointer v10]∧At (aX h' (ag h1) 0 [.int .i64 v5,.int .u64 v6,.int .u64 v7,.int .u64 v8,.pointer v9,.pointer v10]) (fun h11=>∃v12:Int,aL h11 (adr (ag h1) 0)=some (.int .i64 v12)∧∃v13:Int,aL h11 (adr (ag h1) 1)=some (.int .u64 v13)∧∃v14:Int,aL h11 (adr (ag h1) 2)=some (.int .u64 v14)∧∃v15:Int,aL h11 (adr (ag h1) 3)=some (.int .u64 v15)∧∃v16:Option Addr,aL h11 (adr (ag h1) 4)=some (.pointer v16)∧∃v17:Option Addr,aL h11 (adr (ag h1) 5)=some (.pointer v17)∧K ((v12,v13,v14,v15,v16,v17),e) h11))):=fun{h' e} ku ee hne=>by
  have c1:=ku.get0 (k2.get0 b1);refine⟨_,vc c1 0,_,vc c1 1,_,vc c1 2,_,vc c1 3,_,vc c1 4,_,vc c1 5,?_⟩;refine cR (c:=le EC) (vs:=le t) (ku.get0 b2) rfl fun h11 b11 hu11=>?_
  refine⟨_,vc b11 0,_,vc b11 1,_,vc b11 2,_,vc b11 3,_,vc b11 4,_,vc b11 5,?_⟩;subst ee;exact hk0 hne h11 ((k02.tr ku).own hu11 s1)
 by_cases e1:i5 l=0
 rotate_left
 ·rw[show(i5 l !=(0:Int))=true by simpa using e1]
  exact au.2 (stop k4 (by unfold qN;rw[if_pos e1]) e1)
 rw[e1];refine ak.2 ?_;refine Bb (p:=fun c=> !y4 L c) (hs.upd k04 fun _ h=>h.elim) (by omega) (fun c hc h' ku K' hk'=>HV.mk' (GH c (ag h) ?_)) fun h19 k19=>?_
 ·unfold yc ae
  refine bm fun h1' b1' k1'=>?_
  have kk:=(k4.tr ku).tr k1';have c1:=kk.get0 (k2.get0 b1);refine⟨_,vc b1' 0,_,vc b1' 1,_,vc b1' 2,_,vc b1' 3,_,vc b1' 4,_,vc c1 0,_,vc c1 1,_,vc c1 2,_,vc c1 3,_,vc c1 4,_,vc c1 5,?_⟩;exact Ur (i.upd0 (k02.tr kk)) (fun y hy=>ay (hW y hy) (k02.tr kk).size) hr (by omega) fun h'' k''=>hk' h'' (k1'.tr k'')
 have k419:=k4.tr k19;cases ea:l.any (fun c=> !y4 L c)with
 |true=>exact au.2 (stop k419 (by unfold qN;rw[if_neg (fun h=>h e1),if_pos ea]) (by omega))
 |false=>
 refine ak.2 ?_;have e0:qN L l=0:=by unfold qN;rw[if_neg (fun h=>h e1),ea];rfl
 have kL:=k02.tr k419;have iL:=i.pro kL;have hWL:=Pro.lt hW kL;have hlen:=hs.len;have sL:=k419.size;have hP0:Pro W h h19 h.size:=.inr (by omega);have hP1:Pro W h h19 h1.size:=.inr (by omega);have sz:∀c∈l,c.1.size≤10000∧c.2.2.1.size≤10000:=fun c hc=>by have:=hz c hc;omega
 refine LoopP.ghost (fun(i:Nat) (ti:Int) h'=>ti=(i:Int)∧i≤l.length∧(∃tv,TreeIs (Pro W h h19) h' kind x tv (gV L (l.take i))∧h'[h.size]? =some (.cells (le tv).toArray aV (0,0)))∧Upd (· =h.size) h19 h') (fun i=>l.length-i) 0 ⟨rfl,be _,⟨t,iL,k419.get0 (k2.get0 b1)⟩,Upd.refl _ _⟩ ?_
 rintro I j tj h35 ⟨rfl,hj,⟨tv,iv,bv⟩,hu⟩ hI;have hus:=hu.size;have hu0:Upd No h h35:=kL.own hu (aq _);refine ax (fun hlt=>?_) fun hge=>?_
 ·have hlt:j<l.length:=by omega
  obtain⟨a,ha,_,hv⟩:=(hs.upd hu0 fun _ h=>h.elim).at (ai hlt)
  have hzj:=hz _ (bJ hlt);have lj:=CL (l.take j) L;rw[aI]at lj;have fj:Fit (gV L (l.take j)):=CQ hf fun c hc=>sz c (gf hc)
  have rj:bD (gV L (l.take j)):=tS hr;refine Join.intro (fun _ h2'=>(∃tv,TreeIs (Pro W h h19) h2' kind x tv (gV L (l.take (j+1)))∧h2'[h.size]? =some (.cells (le tv).toArray aV (0,0)))∧Upd (· =h.size) h19 h2') (fun R hR=>⟨⟨by omega,by omega⟩,a,ha,_,hv 0 _ rfl,_,hv 1 _ rfl,_,hv 2 _ rfl,_,hv 3 _ rfl,_,hv 4 _ rfl,?_⟩) ?_
  ·rw[OQ hlt]at hR
   unfold tP at hR;refine PX (c:=l[j]) fun h44 b44 k44=>⟨_,vc b44 4,?_⟩
   have b2:=k44.get0 bv;have s44:=k44.size;refine CondP.intro (fun e=>?_) fun e=>?_
   ·rw[if_pos e]at hR
    refine⟨_,vc b2 0,_,vc b2 1,_,vc b2 2,_,vc b2 3,_,vc b2 4,_,vc b2 5,_,vc b44 0,_,vc b44 2,?_⟩;refine Li (iv.upd0 k44) (fun y hy=>ay (hWL y hy) (by omega)) rj (by omega) (l[j].1,l[j].2.2.1) hzj.1 hzj.2.2 fun h55 t' i55 _ k55=>?_
    refine cR (c:=le tv) (vs:=le t') (k55.get0 b2) rfl fun h56 b56 hu56=>hR _ _ ⟨⟨t',i55.updM hu56 fun y hy=>.inl (by have hy:y=h.size:=hy;rw[hy];exact hP0),b56⟩,((hu.tr k44.wide).tr k55.wide).tr hu56⟩
   ·rw[if_neg (by rw[e];exact Bool.false_ne_true)]at hR
    refine⟨_,vc b2 0,_,vc b2 1,_,vc b2 2,_,vc b2 3,_,vc b2 4,_,vc b2 5,_,vc b44 0,?_⟩;refine DP (iv.upd0 k44) (fun y hy=>ay (hWL y hy) (by omega)) rj fj (by omega) l[j].1 hzj.1 fun h55 t' i55 _ k55=>?_
    refine cR (c:=le tv) (vs:=le t') (k55.get0 b2) rfl fun h56 b56 hu56=>hR _ _ ⟨⟨t',i55.updM hu56 fun y hy=>.inl (by have hy:y=h.size:=hy;rw[hy];exact hP0),b56⟩,((hu.tr k44.wide).tr k55.wide).tr hu56⟩
  ·rintro _ h2' ⟨hex,hu2⟩
   rw[hE hlt (by omega)];exact hI (j+1) _ _ ⟨rfl,hlt,hex,hu2⟩ (by omega)
 ·have hjl:j=l.length:=by omega
  rw[hjl,bV]at iv;refine⟨_,vc bv 0,_,vc bv 1,_,vc bv 2,_,vc bv 3,_,vc bv 4,_,vc bv 5,?_⟩;refine cR (c:=le EC) (vs:=le tv) (hu.get (k419.get0 b2) (by show ¬h1.size=h.size;omega)) rfl fun h75 b75 hu75=>?_
  refine⟨_,vc b75 0,_,vc b75 1,_,vc b75 2,_,vc b75 3,_,vc b75 4,_,vc b75 5,?_⟩;exact hk e0 h75 tv ((iv.updM hu75 fun y hy=>.inl (by have hy:y=h1.size:=hy;rw[hy];exact hP1)).less Pro.sub) (hu0.own hu75 s1)
end Go.Proofs
namespace Go.Proofs
open Go Go.Lift
theorem VB(a b:Nat):oQ (a:Int) (b:Int)=((a%b:Nat):Int):=by
 rw[Int.tmod_eq_emod_of_nonneg (by omega)];rfl
theorem MG{x:Hs}{h:af}{kind:Int}{ta:Tr}{A:List Pr}{s:SliceV}{l:List Ch}{R:Addr×Int→af→Prop}{Q:af→Prop}(i:TreeIs No h kind x ta A)(hr:bD A)(hf:Fit A)(hn:A.length≤500000)(hs:Sl p5 5 No h s l)(hl:l.length≤500000)(hz:xW l)(e0:qN A l=0)
  (hQ:∀h',Upd No h h'→Q h')(hR:∀h' p tp,h'[p]? =some (.cells (le tp).toArray aV (0,0))→TreeIs No h' kind x tp (gV A l)→Upd No h h'→R (⟨p,0,none⟩,0) h'):
  (HC PG jS [Fx ta,.slice s.a s.len s.cap] [.agg [.int .i64,.int .u64,.int .u64,.int .u64,.ptr,.ptr],.c (.int .i64)] (fun(e:Tr×Int) h1=>At (hnew h1 (le EC) aV) fun h2=>dq h2 (some (ag h1)) 0 (le e.1)∧At (aX h2 (ag h1) 0 (le e.1)) fun h3=>R (ag h1,e.2) h3) h)∧
  At (hnew h (le EC) aV) fun h1=>Q h1∧HC PG jS [Fx ta,.slice s.a s.len s.cap] [.agg [.int .i64,.int .u64,.int .u64,.int .u64,.ptr,.ptr],.c (.int .i64)] (fun(e:Tr×Int) h2=>dq h2 (some (ag h)) 0 (le e.1)∧At (aX h2 (ag h) 0 (le e.1)) fun h3=>R (ag h,e.2) h3) h1:=by
 refine⟨?_,bm fun h1 b1 k1=>⟨hQ _ k1,?_⟩⟩
 ·refine A9 i (fun _ h=>h.elim) hr hf hn hs hl hz (fun e=>absurd e0 e) fun _ h1 tp i1 k1=>?_
  refine bm fun h2 b2 k2=>cR (c:=le EC) (vs:=le tp) b2 rfl fun h3 b3 hu3=>?_
  have k13:Upd No h1 h3:=k2.own hu3 (aq _);exact hR h3 _ tp b3 (i1.upd0 k13) (k1.tr k13)
 ·have z1:=bF b1
  have hP:Pro No h h1 h.size:=.inr (by omega);refine A9 (W:=Pro No h h1) (i.pro k1) (Pro.lt (fun _ h=>h.elim) k1) hr hf hn (hs.upd k1 fun _ h=>h.elim) hl hz (fun e=>absurd e0 e) fun _ h2 tp i2 k2=>?_
  refine cR (c:=le EC) (vs:=le tp) (k2.get0 b1) rfl fun h3 b3 hu3=>?_
  exact hR h3 _ tp b3 ((i2.updM hu3 fun y hy=>.inl (by have hy:y=h.size:=hy;rw[hy];exact hP)).less Pro.sub) ((k1.tr k2).own hu3 (aq _))
theorem RY{a b:Option ByteArray}:(if a.getD ⟨#[]⟩=b.getD ⟨#[]⟩then(decide (a≠b)== !(a.isSome==b.isSome))else(decide (a≠b)==true))=true:=by
 by_cases h:a.getD ⟨#[]⟩=b.getD ⟨#[]⟩
 ·rw[if_pos h]
  cases a<;>cases b<;>simp_all
 ·rw[if_neg h]
  have:a≠b:=fun e=>h (by rw[e])
  simpa using this
set_option maxHeartbeats 1000000 in
set_option maxRecDepth 100000 in
theorem Kk{h:af}{k cut:Int}{x:Hs}{sl sm sg:SliceV}{l m:List Pr}{g:List ByteArray}{key:ByteArray}(hl:Sl eh 2 No h sl l)(hll:l.length≤9223372036854775807)(hm:Sl eh 2 No h sm m)(hml:m.length≤9223372036854775807)(hg:Sl VW 1 No h sg g)(hgl:g.length≤9223372036854775807)
  (hk0:0≤k)(hk1:k≤255)(hc0:0≤cut)(hc1:cut≤255):
  HC PG wW [.int .u8 k,.agg #[.int .u64 x.k0,.int .u64 x.k1,.int .u64 x.mask],.slice sl.a sl.len sl.cap,.slice sm.a sm.len sm.cap,.slice sg.a sg.len sg.cap,.int .u8 cut,.string key] [.c .bool] (fun b h'=>b=true∧Upd No h h') h:=by
 refine EO k (x.k0,x.k1,x.mask) sl sm sg cut key ?_;unfold xd ae bS;refine bm fun h1 b1 k1=>OP fun h3 k3=>ak.2 ?_
 have c3:=k3.get0 b1;refine⟨_,vc c3 0,_,vc c3 1,_,vc c3 2,?_⟩;refine OO (W:=No) (x:=x) hk0 hk1 (fun _ h=>h.elim) fun h8 t r i8 j8 k8=>?_
 generalize IntKind.wrap .i64 (oQ k 2)=kind at i8 j8;refine SM (t:=t) (r:=r) fun h9 h12 k12 t12 x12 z9=>?_
 refine⟨_,vc t12 0,_,vc t12 1,_,vc t12 2,_,vc t12 3,_,vc t12 4,_,vc t12 5,_,vc x12 0,_,vc x12 1,_,vc x12 2,_,vc x12 3,r.2.2.2.2,vc x12 4,?_⟩;have k012:Upd No h h12:=((k1.tr k3).tr k8).tr k12;refine Mk (W:=No) (g:= []) (sg:=⟨none,0,0⟩) (i8.upd0 k12) (j8.upd0 k12) few_nil few_nil (by omega) (hl.upd k012 fun _ h=>h.elim) (Sl.nil fun _=>⟨rfl,by omega⟩) (fun _ h=>h.elim) hll (be _) fun h25 ta ra i25 _ k25=>?_
 have i25:TreeIs No h25 kind x ta (j7 [] l):=i25;have fA:Few 25 (j7 [] l):=sE few_nil l;generalize j7 [] l=A at i25 fA;refine SM (t:=ta) (r:=ra) fun h26 h29 k29 a29 _ _=>?_
 have x29:=(k25.tr k29).get0 x12;refine⟨_,vc a29 0,_,vc a29 1,_,vc a29 2,_,vc a29 3,_,vc a29 4,_,vc a29 5,_,vc x29 0,_,vc x29 1,_,vc x29 2,_,vc x29 3,r.2.2.2.2,vc x29 4,?_⟩;have k1229:=k25.tr k29;have k029:=k012.tr k1229;refine Mk (W:=No) (i25.upd0 k29) (j8.upd0 (k12.tr k1229)) fA (few_nil.mono (by omega)) (by omega) (hm.upd k029 fun _ h=>h.elim) (hg.upd k029 fun _ h=>h.elim) (fun _ h=>h.elim) hml hgl fun h42 tb rb i42 _ k42=>?_
 have fB:Few 50 (r8 (j7 A m) g):=Gg (sE fA m) g;generalize r8 (j7 A m) g=B at i42 fB;refine SM (t:=tb) (r:=rb) fun h43 h46 k46 b46 _ _=>?_
 have k2946:=k42.tr k46;have k046:=k029.tr k2946;have a46:=k2946.get0 a29;have iA:=i25.upd0 (k29.tr k2946);have iB:=i42.upd0 k46;have nA:=fA.len;have nB:=fB.len;refine⟨_,vc a46 0,_,vc a46 1,_,vc a46 2,_,vc a46 3,_,vc a46 4,_,vc a46 5,_,vc b46 0,_,vc b46 1,_,vc b46 2,_,vc b46 3,_,vc b46 4,_,vc b46 5,?_⟩;refine OC iA iB fA.up fA.fits (by omega) fB.up fB.fits (by omega) (fun e=>by rw[CJ iA iB]at e;cases e) fun _ h60 sp hp k60=>?_
 have lc:=wG fA.up fB.up;have hC:Sl p5 5 No h60 sp (fy A B):=hp.sl fun _ _ _ h=>h
 have hlen:=hp.len;have hcap:=hp.cap;have szC:=NB fA fB;have rC:=zE fA.up fB.up;have ew:IntKind.wrap .i64 ((sp.len:Int)+1)=(((fy A B).length+1:Nat):Int):=by rw[hlen,cS (by omega)];omega
 have ec:IntKind.wrap .i64 cut=((cut.toNat:Nat):Int):=by rw[cS (by omega)];omega
 simp only;rw[ew,ec,VB];refine⟨by omega,?_⟩;have hq:cut.toNat%((fy A B).length+1)≤(fy A B).length:=Nat.le_of_lt_succ (Nat.mod_lt _ (Nat.succ_pos _));generalize cut.toNat%((fy A B).length+1)=q at hq;simp only[Bd];have eT:((fy A B).drop 0).take (q-0)=(fy A B).take q:=rfl;have eD:((fy A B).drop q).take ((fy A B).length-q)=(fy A B).drop q:=List.take_of_length_le (by rw[aN];omega)
 have slT:∀{h'},Upd No h60 h'→Sl p5 5 No h' ⟨aM sp.a 0 sp.cap 5,(q:Int).toNat-0,sp.cap-0⟩ ((fy A B).take q):=fun ku=>by
  rw[←eT,show(q:Int).toNat=q from rfl]
  exact(hC.upd ku fun _ h=>h.elim).sub (be _) hq (by omega)
 have slD:∀{h'},Upd No h60 h'→Sl p5 5 No h' ⟨aM sp.a (q:Int).toNat sp.cap 5,sp.len-(q:Int).toNat,sp.cap-(q:Int).toNat⟩ ((fy A B).drop q):=fun ku=>by
  rw[←eD,show(q:Int).toNat=q from rfl,hlen]
  exact(hC.upd ku fun _ h=>h.elim).sub hq (aq _) (by omega)
 have lT:((fy A B).take q).length≤100:=by rw[aI];omega
 have lD:((fy A B).drop q).length≤100:=by rw[aN];omega
 have szT:xW ((fy A B).take q):=fun c hc=>szC c (gf hc)
 have szD:xW ((fy A B).drop q):=fun c hc=>szC c (List.mem_of_mem_drop hc)
 have e1:qN A ((fy A B).take q)=0:=Jn (yq rC (List.take_sublist ..)) fun c hc=>Mt fA.up fB.up (gf hc)
 have e2:qN (gV A ((fy A B).take q)) ((fy A B).drop q)=0:=Jn (yq rC (List.drop_sublist ..)) fun c hc=>QY fA.up fB.up hc
 have eB:gV (gV A ((fy A B).take q)) ((fy A B).drop q)=B:=OR fA.up fB.up q;have rP:bD (gV A ((fy A B).take q)):=tS fA.up;have fP:Fit (gV A ((fy A B).take q)):=CQ fA.fits fun c hc=>by have:=szT c hc;omega
 have nP:=CL ((fy A B).take q) A;have a60:=k60.get0 a46;have b60:=k60.get0 b46;have iA60:=iA.upd0 k60;have k060:=k046.tr k60;refine Join.intro (fun(t:Addr×Int) h'=>∃p tp,t=(⟨p,0,none⟩,0)∧h'[p]? =some (.cells (le tp).toArray aV (0,0))∧TreeIs No h' kind x tp (gV A ((fy A B).take q))∧Upd No h60 h') (fun R hR=>?_) ?_
 ·refine⟨_,vc a60 0,_,vc a60 1,_,vc a60 2,_,vc a60 3,_,vc a60 4,_,vc a60 5,⟨by omega,by omega⟩,?_⟩
  exact MG (s:=⟨aM sp.a 0 sp.cap 5,(q:Int).toNat-0,sp.cap-0⟩) iA60 fA.up fA.fits (by omega) (slT (Upd.refl _ _)) (by omega) szT e1 (fun h' ku=>by have c:=ku.get0 a60;exact⟨vc c 0,vc c 1,vc c 2,vc c 3,vc c 4,vc c 5⟩) fun h' p tp bp ip ku=>hR _ _ ⟨p,tp,rfl,bp,ip,ku⟩
 rintro _ h95 ⟨p,tp,rfl,p95,ip,k95⟩;refine Join.intro (fun(t:Addr×Int) h'=>∃p tp,t=(⟨p,0,none⟩,0)∧h'[p]? =some (.cells (le tp).toArray aV (0,0))∧TreeIs No h' kind x tp B∧Upd No h95 h') (fun R hR=>?_) ?_
 ·refine⟨_,vc p95 0,_,vc p95 1,_,vc p95 2,_,vc p95 3,_,vc p95 4,_,vc p95 5,⟨by omega,by omega⟩,?_⟩
  exact MG (s:=⟨aM sp.a (q:Int).toNat sp.cap 5,sp.len-(q:Int).toNat,sp.cap-(q:Int).toNat⟩) ip rP fP (by omega) (slD k95) (by omega) szD e2 (fun h' ku=>by have c:=ku.get0 p95;exact⟨vc c 0,vc c 1,vc c 2,vc c 3,vc c 4,vc c 5⟩) fun h' p tp bp ip ku=>hR _ _ ⟨p,tp,rfl,bp,by rw[eB]at ip;exact ip,ku⟩
 rintro _ h132 ⟨u,tu,rfl,u132,iu,k132⟩;have k60132:=k95.tr k132;refine⟨⟨by omega,by omega⟩,⟨by omega,by omega⟩,?_⟩
 refine Mz (s:=⟨aM sp.a 0 sp.cap 5,(q:Int).toNat-0,sp.cap-0⟩) (s':=⟨aM sp.a (q:Int).toNat sp.cap 5,sp.len-(q:Int).toNat,sp.cap-(q:Int).toNat⟩) (slT k60132) (slD k60132) (by simp only;omega) (by simp only;omega) (by omega) (by omega) szT szD fun sj h134 hj k134=>?_
 rw[Oh fA.up fB.up]at hj⊢;have hj134:Sl p5 5 No h134 sj (fy A B):=hj.sl fun _ _ _ h=>h
 have u134:=k134.get0 u132;have b134:=(k60132.tr k134).get0 b60;have iB134:=iB.upd0 (k60.tr (k60132.tr k134));refine Join.intro (fun t h'=>t=false∧Upd No h134 h') (fun R hR=>?_) ?_
 ·refine ak.2 (ak.2 (ak.2 (ak.2 ⟨_,vc u134 0,_,vc u134 1,_,vc u134 2,_,vc u134 3,_,vc u134 4,_,vc u134 5,_,vc b134 0,_,vc b134 1,_,vc b134 2,_,vc b134 3,_,vc b134 4,_,vc b134 5,?_⟩)))
  refine Sc (iu.upd0 k134) iB134 fB.up fB.fits (by omega) fB.up fB.fits (by omega) fun h149 k149=>?_
  rw[CJ (iu.upd0 k134) iB134,decide_eq_true (rfl:B=B)];refine ak.2 (My (hj134.upd k149 fun _ h=>h.elim) (hC.upd ((k60132.tr k134).tr k149) fun _ h=>h.elim) (by omega) ?_)
  rw[decide_eq_true rfl];exact hR _ _ ⟨rfl,k149⟩
 rintro _ h153 ⟨rfl,k153⟩;refine ak.2 ?_;obtain⟨q1,e1⟩:=Uv key;refine⟨q1,?_⟩;rw[e1];have k60153:=(k60132.tr k134).tr k153;have a153:=k60153.get0 a60;have b153:=k60153.get0 b60;refine⟨_,vc a153 0,_,vc a153 1,_,vc a153 2,_,vc a153 3,_,vc a153 4,_,vc a153 5,?_⟩;refine JA (iA60.upd0 k60153) (fun _ h=>h.elim) fA.up (by omega) (oD key) fun h162 k162=>?_
 have b162:=k162.get0 b153;refine⟨_,vc b162 0,_,vc b162 1,_,vc b162 2,_,vc b162 3,_,vc b162 4,_,vc b162 5,?_⟩;refine JA (iB.upd0 ((k60.tr k60153).tr k162)) (fun _ h=>h.elim) fB.up (by omega) (oD key) fun h170 k170=>?_
 have k60170:=(k60153.tr k162).tr k170;have hC170:=hC.upd k60170 fun _ h=>h.elim
 refine LoopP.ghost (fun(i:Nat) (t:Bool×Int) h'=>t=(((fy A B).take i).any (fun c=>decide (c.1=oD key)),(i:Int))∧i≤(fy A B).length∧Upd No h170 h') (fun i=>(fy A B).length-i) 0 ⟨rfl,be _,Upd.refl _ _⟩ ?_
 rintro I i t h173 ⟨rfl,hi,hu⟩ hI;refine ax (fun hlt=>?_) fun hge=>?_
 ·have hlt:i<(fy A B).length:=by simp only at hlt;omega
  obtain⟨a,ha,_,hv⟩:=(hC170.upd hu fun _ h=>h.elim).at (ai hlt)
  refine Join.intro (fun t h'=>t=((fy A B).take (i+1)).any (fun c=>decide (c.1=oD key))∧Upd No h173 h') (fun R hR=>?_) ?_
  ·refine⟨⟨by simp only;omega,by simp only;omega⟩,a,ha,_,hv 0 _ rfl,_,hv 1 _ rfl,_,hv 2 _ rfl,_,hv 3 _ rfl,_,hv 4 _ rfl,?_⟩
   refine PX (c:=(fy A B)[i]) fun h182 b182 k182=>?_
   rw[List.take_succ_eq_append_getElem hlt,List.any_append]at hR;refine CondP.intro (fun e=>hR _ _ ⟨?_,k182⟩) fun e=>⟨_,vc b182 0,hR _ _ ⟨?_,k182⟩⟩
   ·simp only at e;rw[e];rfl
   ·simp only at e;rw[e,dG,List.any_cons,List.any_nil,Bool.or_false,Bool.false_or]
  ·rintro _ h185 ⟨rfl,k185⟩
   simp only;rw[hE hlt (by omega)];exact hI (i+1) _ _ ⟨rfl,hlt,hu.tr k185⟩ (by omega)
 ·have hil:i=(fy A B).length:=by simp only at hge;omega
  subst hil;rw[bV,RZ fA.up fB.up];have fin:=RY (a:=look A (oD key)) (b:=look B (oD key));have kall:Upd No h h173:=(k060.tr k60170).tr hu;simp only[dG];by_cases e:(look A (oD key)).getD ⟨#[]⟩=(look B (oD key)).getD ⟨#[]⟩
  ·rw[if_pos e]at fin
   rw[decide_eq_true e];exact ak.2 ⟨fin,kall⟩
  ·rw[if_neg e]at fin
   rw[decide_eq_false e];exact au.2 ⟨fin,kall⟩
end Go.Proofs
