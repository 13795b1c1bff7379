/- A part of the proof that the named laws of this program answer true, whatever the input. -/
import Derived.Test.YtajpljopgikpgaaGreatDoorPart3
import Derived.Test.YtajpljopgikpgaaGreatDoorPart2
open Array renaming toList_inj→gR
open ByteArray renaming mk→jy
open Iff renaming rfl→sZ
open Int renaming toNat_natCast→aE
open List renaming mem_append→cd,mem_of_mem_take→gi,mem_cons→ar,getElem_of_mem→cj,getElem?_eq_getElem→ag,getElem_mem→aP,length→fP,length_drop→aI,length_nil→cq,mem_singleton→aq,append_eq_nil_iff→fE,take_length→bN,take_append_drop→aN,length_take→aG,append_cancel_left→dX,mem_of_getElem?→aF,getElem?_set→eN,mem_map→ju,pairwise_append→cS,mem_cons_self→au,pairwise_cons→ba,lt_irrefl→qj,mem_cons_of_mem→aM,length_append→ae,length_map→gB,length_cons→aL,length_singleton→aO,append_nil→bJ,flatMap_cons→aU,append_assoc→ao,cons_append→cU,cons→gb,range_succ→fO,flatMap_append→bj,filter_eq_self→eJ,any_eq_true→bV,mem_range→gh,getElem_take→ng,getElem_drop→nh,mem_of_getElem→lD,drop_left→gj
open List.Pairwise renaming nil→fF
open Nat renaming le_refl→al,lt_or_ge→bD,lt_of_lt_of_le→cg,add_mul→ix,le_trans→aX,zero_le→aV,zero_add→aB,zero_testBit→fo
open Option renaming map_eq_some_iff→js
open Prod renaming mk→qY
namespace Go.Proofs
open Go Go.Lift
theorem KidO.move{o:Option Addr}{W W' M:Nat→Prop}{h c:ad}(k:Upd M h c){a:Option Addr}{n:Bn}{S:Nat→Prop}(r:KidO o W h a n S)(e:∀y,S y→y<h.size)(hm:∀y,M y→(W y∧¬S y)∨h.size≤y)(d:∀y,W' y→W y∨h.size≤y):KidO o W' c a n S:=
 ((r.less (W':=fun y=>W y∨h.size≤y) fun y b=>b).upd k e fun y b=>(hm y b).imp (fun h=>⟨.inl h.1,h.2⟩) id).less fun y b=>.inl (d y b)
theorem y3{o ow:Option Addr}{W S M:Nat→Prop}{h f:ad}{b:Nat}{s:SliceV}{ks:List (Option Addr)}{Us Us':List (Nat→Prop)}
  (k:(OwOk W h ow∧(¬W b)∧Sl kK 1 W h s ks∧∀y,¬S y)∨(o.isSome=true∧ow=o∧∃A:Nat→Prop,OwnS kK 1 aR A h s ks∧(∀y,A y→S y∧y≠b∧y<h.size)∧S b∧∀U∈Us,∀y,U y→¬A y∧y≠b))
  (B:b<h.size)(m:Upd M h f)(hM:∀y,M y→S y∧∃U∈Us,U y)(p:∀U∈Us',∀y,U y→((∃V∈Us,V y)∨h.size≤y)∧y<f.size):
  (OwOk W f ow∧Sl kK 1 No f s ks∧(∀U∈Us',∀y,U y→y<f.size))∨(o.isSome=true∧ow=o∧∃A:Nat→Prop,OwnS kK 1 aR A f s ks∧(∀y,A y→S y∧y≠b∧y<f.size)∧S b∧∀U∈Us',∀y,U y→¬A y∧y≠b):=by
 have z:=m.size;rcases k with⟨n,_,t,i⟩|⟨e,v,A,x,d,j,g⟩
 ·exact .inl ⟨n.upd m fun y a=>absurd (hM y a).1 (i y),(t.upd m fun y a=>absurd (hM y a).1 (i y)).less fun _ h=>h.elim,fun U c y a=>(p U c y a).2⟩
 ·refine .inr ⟨e,v,A,x.upd m fun y a hm=>?_,fun y a=>⟨(d y a).1,(d y a).2.1,by have:=(d y a).2.2;omega⟩,j,fun U c y a=>?_⟩
  ·obtain⟨_,U,c,w⟩:=hM y hm
   exact(g U c y w).1 a
  ·rcases(p U c y a).1 with⟨V,q,hv⟩|h
   ·exact g V q y hv
   ·exact⟨fun u=>by have:=(d y u).2.2;omega,by omega⟩
set_option maxHeartbeats 4000000 in
theorem Lq{w' o:Option Addr}:∀(n:Nat) {W S:Nat→Prop} {b:Nat} {sl:ByteArray} {w:Option ByteArray} {F:Fo} {h:ad} (k v:ByteArray),k.size<n→k.size≤1000000→RxO o W h b sl w F S→By h w' o→(∀y,W y→y<h.size)→(∀y,S y→W y)→(∀a,o=some a→W a.block)→(∀a,w'=some a→¬S a.block)→eH F→∀{K:(Option Addr)×Bool×Bool→ad→Prop},
  (∀Q q w2 F2 S2 D ch,Upd S h Q→RxO o (fun y=>W y∨S2 y) Q q sl w2 F2 S2→(∀y,S2 y→(S y∨h.size≤y)∧y<Q.size)→eH F2→rv (oK w F) (oK w2 F2) k.data.toList v→(ch=false→q=b∧w2=w∧F2=F∧Upd No h Q∧oK w F k.data.toList v)→(oK w F k.data.toList v→ch=false)→K (some ⟨q,0,none⟩,D,ch) Q)→
  HC PG kS [.pointer (some ⟨b,0,none⟩),.pointer w',.string k,.string v] [.c .ptr,.c .bool,.c .bool] K h:=by
 intro n;induction n with
 |zero=>intro W S b sl w F h k v hk;omega
 |succ n ih=>
  intro W S b sl w F h k v hkn hk6 r t hW E hWo hwS hc K hk;refine zA (some ⟨b,0,none⟩) w' k v ?_;unfold rS cT dz bG jO AN cL tc bI MO gT EH EG Qh;have hr:=r;have hno:o=none→∀y,¬S y:=fun e=>by subst e;exact r.off.2
  obtain⟨val,s,ow,ks,Us,hb,hv,hs,hL,hUS,hPD,hown⟩:=r.view;have hn:=iH hc;have hcan:=dS.1 hc;have hSb:∀y,S y→y<h.size:=fun y d=>hW y (E y d)
  have N:∀U∈Us,∀y,U y→y<h.size:=fun U G y d=>hSb y (hUS U G y d)
  have zb:=aD hb;have own2:=fun{B:ad} {M:Nat→Prop} (ku:Upd M h B) (hM:∀y,M y→S y∧∃U∈Us,U y) (Us':List (Nat→Prop)) (G:∀U∈Us',∀y,U y→((∃V∈Us,V y)∨h.size≤y)∧y<B.size)=>y3 (Us':=Us') hown zb ku hM G
  have hUh:∀{B:ad},h.size≤B.size→∀U∈Us,∀y,U y→((∃V∈Us,V y)∨h.size≤y)∧y<B.size:=fun z U G y d=>⟨.inl ⟨U,G,d⟩,by have:=N U G y d;omega⟩
  have hno':∀{A X:Nat→Prop} {bb bx:Nat} {T:List (Nat→Prop)},(∀y,A y→S y∨h.size≤y)→(S bb∨h.size≤bb)→o=none→(∀y,A y→¬(W y∨SR o bx X T y))∧¬(W bb∨SR o bx X T bb):=fun{A X bb bx T} hA hb e=>by
   have no:∀y,(S y∨h.size≤y)→¬(W y∨SR o bx X T y):=fun y d hw=>by
    rcases hw with hw|⟨hw,_⟩
    ·rcases d with h|h
     ·exact hno e y h
     ·have:=hW y hw;omega
    ·rw[e]at hw;cases hw
   exact⟨fun y d=>no y (hA y d),no _ hb⟩
  rw[iU];refine aH (fun hk0=>?_) fun hk0=>?_
  ·have hke:k.data.toList= []:=by rw[hk0]
   rw[hke]at hk;refine Join.intro (fun t Q=>t=decide (w=some v)∧Q=h) (fun R hR=>⟨_,rfl,w.isSome,c5 (i:=1) hb,?_⟩) ?_
   ·cases hw:w with
    |none=>exact aj.2 (hR _ _ ⟨by rw[hw];rfl,rfl⟩)
    |some u=>
     refine ax.2 ⟨_,rfl,val,c5 (i:=2) hb,hR _ _ ⟨?_,rfl⟩⟩;rw[iU,vw hv u hw,hw];exact decide_eq_decide.2 ⟨fun e=>by rw[e],fun e=>Option.some.inj e⟩
   ·rintro t' Q ⟨rfl,rfl⟩
    refine aH (fun e=>?_) fun e=>?_
    ·refine hk Q b w F S false false (Upd.refl _ _) (hr.less fun y d=>.inl (d.elim id (E y))) (fun y d=>⟨.inl d,hSb y d⟩) hc ?_ (fun _=>⟨rfl,rfl,rfl,Upd.refl _ _,.inl ⟨rfl,e⟩⟩) fun _=>rfl
     rw[e];exact DS hc v
    ·have fin:∀{h1 B:ad} {q:Nat} {s1:SliceV} {A1:Nat→Prop},OwnS kK 1 aR A1 h1 s1 ks→(∀y,A1 y→(S y∨Q.size≤y)∧y≠q∧y<h1.size)→(S q∨Q.size≤q)→(∀U∈Us,∀y,U y→¬A1 y∧y≠q)→Upd No Q h1→B[q]? =some (.cells (uM sl true v s1 o) bh (0,0))→Upd (· =q) h1 B→∀D,K (some ⟨q,0,none⟩,D,true) B:=fun{h1 B q s1 A1} hA1 f g P p b2 C D=>by
      have z1:=p.size;have z2:=C.size;have zb':=aD b2;have u02:Upd (· =q) Q B:=p.wide.tr C
      have hSR:∀y,SR o q A1 Us y→(S y∨Q.size≤y)∧y<B.size:=fun y d=>wM g zb' (fun y d=>⟨(f y d).1,by have:=(f y d).2.2;omega⟩) (fun U G y d=>⟨.inl (hUS U G y d),by have:=N U G y d;omega⟩) d
      refine hk B q (some v) F (SR o q A1 Us) D true (u02.mono fun y d=>by have d:y=q:=d;rw[d];exact g) (tP b2 rfl (hA1.upd C fun y d=>(f y d).2.1) (fun y d=>⟨(f y d).2.1,by have:=(f y d).2.2;omega⟩) P hPD (hL.move u02 N (fun y d=>?_) fun y d=>d.elim .inl fun h=>(hSR y h).1.imp (E y) id) (hno' (fun y d=>(f y d).1) g)) hSR hc (DS hc v) (fun h=>by cases h) fun J=>?_
      ·have d:y=q:=d
       subst d;exact g.imp (fun h=>⟨E y h,fun U G hu=>(P U G y hu).2 rfl⟩) id
      ·rcases J with⟨_,h⟩|h
       ·exact absurd h e
       ·exact absurd rfl (mO hc h)
     have ow0:=own2 (Upd.refl No Q) (fun _ h=>h.elim) Us (hUh (al _))
     refine⟨_,rfl,?_,w.isSome,c5 (i:=1) hb,?_⟩
     ·refine jK (S:=S) (Us:=Us) t hWo hb (by rw[hL.1];exact hn) ow0 fun h1 q s1 A1 b1 hA1 f g P p=>⟨?_,w.isSome,c5 (i:=1) (p.get0 hb),?_⟩
      ·refine qm b1 fun B b2 C=>?_
       have hb2:∃val2,aK B (adr ⟨b,0,none⟩ 1)=some (.bool val2):=by
        by_cases e2:b=q
        ·rw[e2];exact⟨_,c5 (i:=1) b2⟩
        ·exact⟨_,c5 (i:=1) ((p.wide.tr C).get hb e2)⟩
       obtain⟨v2,hv2⟩:=hb2;exact⟨v2,hv2,fin hA1 f g P p b2 C _⟩
      ·exact qm b1 fun B b2 C=>fin hA1 f g P p b2 C _
     ·exact jK (S:=S) (Us:=Us) t hWo hb (by rw[hL.1];exact hn) ow0 fun h1 q s1 A1 b1 hA1 f g P p=>qm b1 fun B b2 C=>fin hA1 f g P p b2 C _
  ·have L:k.data.toList≠[]:=fun e=>hk0 (by cases k;exact congrArg jy (gR.1 e))
   obtain⟨c0,hc0,hc0e⟩:=B4 L;refine⟨c0,Int.le_refl _,hc0,?_⟩;have hlk:k.data.toList.length=k.size:=by simp
   refine DH (hr.read t) hc (c:=c0.toNat) (UInt8.toNat_lt _) fun i ok hil hlo hhi hok=>?_
   rw[hc0e]at hlo hhi hok;cases ok with
   |false=>
    have hno2:∀hi:i<F.toL.length,hd F.toL[i].1≠hd k.data.toList:=fun hi e=>by have:=hok.2 ⟨hi,e⟩;cases this
    have hhi':∀j (hj:j<F.toL.length),i≤j→hd k.data.toList<hd F.toL[j].1:=fun j hj hij=>by
     have h1:=hhi j hj hij;rcases bD i j with hl|hl
     ·have B:=List.pairwise_iff_getElem.1 hcan.1 i j (by omega) hj hl
      have h3:=hhi i (by omega) (al _);omega
     ·have:i=j:=by omega
      subst this;have:=hno2 hj;omega
    obtain⟨hc',hp'⟩:=LG (v:=v) hc L hlo hhi';refine ax.2 ?_;refine jK (S:=S) (Us:=Us) t hWo hb (by rw[hL.1];exact hn) (own2 (Upd.refl No h) (fun _ h=>h.elim) Us (hUh (al _))) fun h1 q s1 A1 b1 hA1 f g P p=>?_
    refine⟨_,rfl,s1,c5 (i:=3) b1,?_⟩;refine Gs (t.upd0 p) fun B fb fs Af fb2 hAf hAfs hfb C=>⟨c5 (i:=3) (C.get0 b1),bL ?_⟩
    have k3:=Upd.hnew No B [.pointer (some ⟨fb,0,none⟩)] aR;have b3:=cJ B [.pointer (some ⟨fb,0,none⟩)] aR;have z3:(hnew B [.pointer (some ⟨fb,0,none⟩)] aR).size=B.size+1:=jM ..;simp only[fy B];generalize hnew B [.pointer (some ⟨fb,0,none⟩)] aR=h3 at k3 b3 z3;have hu13:=C.tr k3;refine⟨c5 (i:=3) (hu13.get0 b1),?_⟩;have z01:=p.size
    have z1:=aD b1;have z2:=C.size;have zf:=aD fb2;have ho3:=(hA1.upd hu13 fun _ _ h=>h).more (M':=fun x=>A1 x∨h3.size≤x) fun x hx=>.inl hx
    refine IW ho3 (k:=i) (by rw[hL.1];exact hil) (by rw[hL.1];omega) b3 (fun h=>h.elim (fun h=>by have:=(f _ h).2.2;omega) fun h=>by omega) (fun x hx=>.inr hx) fun s4 h4 ho4 hu4=>?_
    have b4:=hu4.get (hu13.get0 b1) (fun h=>h.elim (fun h=>(f _ h).2.1 rfl) fun h=>by omega)
    have f4:=hu4.get (k3.get0 fb2) (fun h=>h.elim (fun h=>by have:=(f _ h).2.2;omega) fun h=>by omega)
    refine⟨_,rfl,M7 (i:=3) b4 (show 3<5 by decide),BD (i:=3) (c':=uM sl w.isSome val s4 o) b4 rfl fun h5 b5 hu5=>?_⟩
    have z4:=hu4.size;have z5:=hu5.size;have u05:Upd (fun y=>y=q∨A1 y) h h5:=((p.tr hu13).wide.trans hu4 fun x hx=>hx.imp .inr fun h=>by omega).trans hu5 fun x hx=>.inl (.inl hx)
    have ho5:=ho4.within.upd hu5 fun x hx e=>by
     have e:x=q:=e;subst e;rcases hx.1 with h|h
     ·exact(f _ h).2.1 rfl
     ·omega
    have nfb:¬fb=q:=by omega
    have f5:=hu5.get f4 nfb;have hAf5:=((hAf.upd k3 fun _ _ h=>h).upd hu4 (fun y d h=>by
     have:=hAfs y d
     rcases h with h|h
     ·have:=(f y h).2.2;omega
     ·omega)).upd hu5 fun y d e=>by
      have e:y=q:=e;have:=hAfs y d;omega
    have hSf:∀y,SR o fb Af [] y→h1.size≤y∧y<B.size:=fun y d=>by
     rcases d.2 with rfl|h|⟨U,G,_⟩
     ·exact⟨hfb,zf⟩
     ·have:=hAfs y h;omega
     ·cases G
    have hmem:∀U∈Us.take i++SR o fb Af []::Us.drop i,U∈Us∨U=SR o fb Af []:=fun U G=>by
     rcases cd.1 G with h|h
     ·exact .inl (gi h)
     ·rcases ar.1 h with h|h
      ·exact .inr h
      ·exact .inl (List.mem_of_mem_drop h)
    have hA5:∀y,((A1 y∨h3.size≤y)∧y<h4.size)→(S y∨h.size≤y)∧y≠q∧y<h5.size:=fun y d=>by
     rcases d.1 with h|h
     ·exact⟨(f y h).1,(f y h).2.1,by omega⟩
     ·exact⟨.inr (by omega),by omega,by omega⟩
    have hS2:∀y,SR o q (fun y=>(A1 y∨h3.size≤y)∧y<h4.size) (Us.take i++SR o fb Af []::Us.drop i) y→(S y∨h.size≤y)∧y<h5.size:=fun y d=>wM g (aD b5) (fun y d=>⟨(hA5 y d).1,(hA5 y d).2.2⟩) (fun U G y d=>by
     rcases hmem U G with h|rfl
     ·exact⟨.inl (hUS U h y d),by have:=N U h y d;omega⟩
     ·have:=hSf y d;exact⟨.inr (by omega),by omega⟩) d
    refine hk h5 q w _ (SR o q (fun y=>(A1 y∨h3.size≤y)∧y<h4.size) (Us.take i++SR o fb Af []::Us.drop i)) true true (u05.mono fun y d=>?_) (tP b5 hv ho5 (fun y d=>(hA5 y d).2) (fun U G y d=>?_) (QE hPD (by rw[hL.2.1];exact hil) fun U G y d hu=>?_) (by
     rw[Fo.to_of]
     refine(hL.move u05 N (fun y d=>?_) fun y d=>d.elim .inl fun h=>(hS2 y h).1.imp (E y) id).ins hil ⟨fb,k,rfl,rfl,RQ f5 hAf5 (fun y d=>?_) (hno' (fun y d=>.inr ?_) (.inr (by omega)))⟩
     ·rcases d with rfl|h
      ·exact g.imp (fun h=>⟨E _ h,fun U G hu=>(P U G _ hu).2 rfl⟩) id
      ·exact(f y h).1.imp (fun hs=>⟨E y hs,fun U G hu=>(P U G y hu).1 h⟩) id
     ·have:=hAfs y d;exact⟨this.2.1,by omega⟩
     ·have:=hAfs y d;omega) (hno' (fun y d=>(hA5 y d).1) g)) hS2 hc' (yZ L hp') (fun h=>by cases h) fun J=>?_
    ·rcases d with rfl|h
     ·exact g
     ·exact(f y h).1
    ·rcases hmem U G with h|rfl
     ·have:=P U h y d
      have B:=N U h y d;exact⟨fun h=>h.1.elim this.1 fun h=>by omega,this.2⟩
     ·have:=hSf y d
      exact⟨fun h=>h.1.elim (fun h=>by have:=(f y h).2.2;omega) fun h=>by omega,by omega⟩
    ·have:=hSf y d;have:=N U G y hu;omega
    ·rcases J with⟨h,_⟩|J
     ·exact absurd h L
     ·obtain⟨n',hn',e,_⟩:=oO hc J
      obtain⟨j,hj,rfl⟩:=cj hn';rcases bD j i with hl|hl
      ·have:=hlo j hj hl;omega
      ·have:=hhi' j hj hl;omega
   |true=>
    obtain⟨hi,hie⟩:=hok.1 rfl;refine aj.2 ⟨_,rfl,s,c5 (i:=3) hb,?_⟩;have hki0:i<ks.length:=by rw[hL.1];exact hi
    have hUi0:i<Us.length:=by rw[hL.2.1];exact hi
    obtain⟨kb,ksl,hke,O,hkn⟩:=hL.2.2 i _ _ _ (ag hki0) (ag hi) (ag hUi0);have hki:ks[i]? =some (some ⟨kb,0,none⟩):=by rw[ag hki0,hke]
    have hUie:Us[i]? =some Us[i]:=ag hUi0;have hUim:Us[i]∈Us:=aP hUi0;have hmem:F.toL[i]∈F.toL:=aP hi;have Y:=hcan.2 _ hmem;obtain⟨a,ha,_,hvv⟩:=hs.at0 hki;have hslen:=hs.len;rw[hL.1]at hslen;have hlt1:(i:Int)<((s.len:Nat):Int):=by omega
    refine⟨⟨by simp only;omega,hlt1⟩,a,ha,some ⟨kb,0,none⟩,hvv,_,rfl,?_⟩;obtain⟨kval,kss,kow,kks,kUs,hkb,_⟩:=hkn.view;refine⟨ksl,c5 (i:=0) hkb,L5 hk6 ?_⟩;rw[O];have hc1:=Oa L Y.1 hie.symm;have hcle:=KZ k.data.toList F.toL[i].1;have hct:=KW k.data.toList F.toL[i].1;have hcd:=Fy k.data.toList F.toL[i].1;have hll:ksl.size=F.toL[i].1.length:=by rw[←O];simp
    have hin_m:nu F k.data.toList v→qk F.toL[i] k.data.toList v:=fun J=>by
     obtain⟨n',hn',e,hN⟩:=oO hc J;rw[←uY hc hn' hmem (by omega)];exact hN
    have hin_f:qk F.toL[i] k.data.toList v→nu F k.data.toList v:=fun J=>fc.2 ⟨_,hmem,J⟩
    have hset:∀{w2:Option ByteArray} {F2:Fo} {nl:List UInt8},nl≠[]→hd nl=hd F.toL[i].1→eH F2→Br (oK w2 F2)→eH (.ofL (F.toL.set i (nl,w2,F2))):=fun h1 B h3 h4=>K2 hc hi ⟨h1,(Cn h3).2 h4,h3⟩ B
    have hputs:∀{m:Bn},rv (qk F.toL[i]) (qk m) k.data.toList v→rv (nu F) (nu (.ofL (F.toL.set i m))) k.data.toList v:=fun hp=>GD hc hi hie hp
    have hsame:rv (qk F.toL[i]) (qk F.toL[i]) k.data.toList v→rv (nu F) (nu F) k.data.toList v:=LD hc hi hie;have H:∀y,Us[i] y→S y:=hUS _ hUim;have hUib:∀y,Us[i] y→y<h.size:=N _ hUim;have hUid:∀j U,j≠i→Us[j]? =some U→Dj Us[i] U:=fun j U hj eU=>hPD i j _ _ (Ne.symm hj) hUie eU
    have nUb:¬Us[i] b:=fun hu=>by
     rcases hown with⟨_,_,_,hS0⟩|⟨_,_,A,_,_,_,hUA⟩
     ·exact hS0 _ (H _ hu)
     ·exact(hUA _ hUim b hu).2 rfl
    generalize F.toL[i]=m at O hkn Y hc1 hcle hct hcd hll hin_m hin_f hset hputs hsame hie;generalize Us[i]=Ui at hkn hUie hUim H hUib hUid nUb;generalize hcc:cm k.data.toList m.1=c at hc1 hcle hct hcd;obtain⟨lab,wk,Fk⟩:=m;simp only at O hkn Y hcle hct hcd hll hie hset;refine Join.intro (fun t Q=>∃ub Z wu Fu SU,t=some ⟨ub,0,none⟩∧Upd Ui h Q∧RxO o (fun y=>W y∨SU y) Q ub Z wu Fu SU∧(∀y,SU y→(Ui y∨h.size≤y)∧y<Q.size)∧eH Fu∧Z.data.toList=k.data.toList.take c∧(∀k' v',qk (Z.data.toList,wu,Fu) k' v'↔qk (lab,wk,Fk) k' v')∧(∀w' F',eH F'→rv (oK wu Fu) (oK w' F') (k.data.toList.drop c) v→Br (oK w' F'))∧(Upd No h Q∨¬oK wu Fu (k.data.toList.drop c) v)) (fun R hR=>⟨_,rfl,ksl,c5 (i:=0) hkb,?_⟩) ?_
    ·refine aH (fun hlt=>?_) fun hge=>?_
     ·have hlt:c<lab.length:=by omega
      have hdne:lab.drop c≠[]:=fun e=>by
       have:=congrArg fP e;rw[aI,cq]at this;omega
      have hhd:k.data.toList.drop c≠[]→hd (k.data.toList.drop c)≠hd (lab.drop c):=fun hne=>by
       refine hcd ?_ hlt;rcases bD c k.data.toList.length with hl|hl
       ·exact hl
       ·exact absurd (List.drop_eq_nil_of_le hl) hne
      have hcs:eH (.cons (ksl.data.toList.drop c) wk Fk .nil):=by
       rw[O];exact⟨hdne,Y.2.1,Y.2.2,fun _ h=>by simp[Fo.toL]at h,trivial⟩
      refine Gr hkn t hW (fun y d=>E y (H y d)) hWo (iH Y.2.2) (c:=c) (by omega) fun h1 ub SU rn hSU p=>hR _ _ ⟨ub,_,none,_,SU,rfl,p,rn,hSU,hcs,?_,?_,?_,.inr ?_⟩
      ·rw[xN,O,hct]
      ·intro k' v'
       rw[xN,O];exact D8 c k' v'
      ·intro w' F' hcF hp
       rw[O]at hp;exact Oh hdne Y.2.1 Y.2.2 hhd hp
      ·rintro(⟨_,h⟩|J)
       ·cases h
       ·obtain⟨n',hn',e,r',er,_⟩:=oO hcs J
        rw[O]at hn';simp only[Fo.toL,aq]at hn';subst hn';refine hhd (fun e2=>hdne ?_) e.symm
        rw[e2]at er;exact(fE.1 er.symm).1
     ·have hce:c=lab.length:=by omega
      refine hR _ _ ⟨kb,ksl,wk,Fk,Ui,rfl,Upd.refl _ _,hkn.less fun y d=>.inl (d.elim id fun h=>E y (H y h)),fun y d=>⟨.inl d,hUib y d⟩,Y.2.2,?_,?_,?_,.inl (Upd.refl _ _)⟩
      ·rw[O,hct,hce,bN]
      ·intro k' v';rw[O]
      ·intro w' F' hcF hp
       exact PN ((Cn Y.2.2).1 Y.2.1) hp
    ·rintro t' h1 ⟨ub,Z,wu,Fu,SU,rfl,p,rn,hSU,hcu,hsl,hinn,hbr,hsp⟩
     refine⟨⟨by omega,by omega⟩,?_⟩
     rw[aE];have hkd:(k.extract c k.size).data.toList=k.data.toList.drop c:=xO ..;have hks:(k.extract c k.size).size=k.size-c:=by simp
     have hktd:k.data.toList=Z.data.toList++k.data.toList.drop c:=by rw[hsl,aN]
     have hslne:Z.data.toList≠[]:=by
      rw[hsl];intro e;have:=congrArg fP e;rw[aG,cq]at this;omega
     have hslhd:hd Z.data.toList=hd lab:=by
      rw[hie];conv=>rhs;rw[hktd]
      rw[mP hslne]
     have z01:=p.size;have tU:∀{M:Nat→Prop} {Q:ad},Upd M h Q→(∀y,M y→Ui y)→By Q w' o:=fun ku hM=>t.upd ku fun b e d=>absurd (H _ (hM _ d)) (hwS _ e)
     refine ih (W:=fun y=>W y∨SU y) (S:=SU) (k.extract c k.size) v (by rw[hks];omega) (by rw[hks];omega) rn (tU p fun _ h=>h) (fun y d=>d.elim (fun h=>cg (hW y h) z01) fun h=>(hSU y h).2) (fun y d=>.inr d) (fun a e=>.inl (hWo a e)) (fun a e d=>?_) hcu fun B b2 w2 F2 SV D ch C rn2 hSV hc2 hp2 hsm hch=>?_
     ·rcases(hSU _ d).1 with h|h
      ·exact hwS a e (H _ h)
      ·have:=t.lt e;omega
     rw[hkd]at hp2 hch hsm;have z12:=C.size;have hpn:rv (qk (lab,wk,Fk)) (qk (Z.data.toList,w2,F2)) k.data.toList v:=by
      have:=Ni (LF (lab:=Z.data.toList) hp2) hinn;rw[←hktd]at this;exact this
     have hchg:oK w F k.data.toList v→ch=false:=fun J=>by
      rcases J with⟨h,_⟩|J
      ·exact absurd h L
      ·obtain⟨r,e,hr'⟩:=(hinn _ _).2 (hin_m J)
       simp only at e;rw[hktd]at e;have e2:=dX e;rw[←hktd]at e;exact hch (by rw[e2];exact hr')
     cases ch with
     |false=>
      obtain⟨_,e2,e3,hu20,hin2⟩:=hsm rfl;subst e2 e3;rcases hsp with u01|hn2
      ·have hu02:=u01.tr hu20
       have hsz:=hu02.size;refine ax.2 (hk B b w F S false false hu02.wide ((hr.upd0 hu02).less fun y d=>.inl (d.elim id (E y))) (fun y d=>⟨.inl d,by have:=hSb y d;omega⟩) hc (yZ L (hsame ?_)) (fun _=>⟨rfl,rfl,rfl,hu02,.inr (hin_f ((hinn _ _).1 ⟨_,hktd,hin2⟩))⟩) fun _=>rfl)
       intro k' v';exact(hinn k' v').symm.trans (hpn k' v')
      ·exact absurd hin2 hn2
     |true=>
      refine aj.2 ?_;have ku:Upd Ui h B:=p.trans C fun y d=>(hSU y d).1
      have hSV':∀y,SV y→(Ui y∨h.size≤y)∧y<B.size:=fun y d=>⟨(hSV y d).1.elim (fun h=>(hSU y h).1) fun h=>.inr (by omega),(hSV y d).2⟩
      have hmem2:∀U∈Us.set i SV,U∈Us∨U=SV:=fun U G=>List.mem_or_eq_of_mem_set G
      have hSVm:SV∈Us.set i SV:=aF (i:=i) (by rw[eN,if_pos rfl,if_pos hUi0]);refine jK (W:=W) (S:=S) (Us:=Us.set i SV) (tU ku fun _ h=>h) hWo (ku.get hb nUb) (by rw[hL.1];exact hn) (own2 ku (fun y d=>⟨H y d,_,hUim,d⟩) _ fun U G y d=>?_) fun h3 q s3 A3 b3 ho3 I g hU3 hu3=>?_
      ·rcases hmem2 U G with h|rfl
       ·exact⟨.inl ⟨U,h,d⟩,by have:=N U h y d;omega⟩
       ·exact⟨(hSV' y d).1.imp (fun h=>⟨_,hUim,h⟩) id,(hSV' y d).2⟩
      refine⟨_,rfl,s3,c5 (i:=3) b3,?_⟩;obtain⟨a3,ha3,hab,hw3,ho4,hu4⟩:=OwnS.setAt ho3 hki0 (some ⟨b2,0,none⟩);have hlen3:=ho3.len;refine⟨⟨by simp only;omega,by simp only;omega⟩,a3,ha3,?_⟩
      have hw1:Wr h3 (adr a3 (i*1)):=by
       rcases hw3 with hw|⟨q,g,hw⟩
       ·cases hw
       ·cases g;exact hw 0 (by simp)
      refine⟨hw1,bL ?_⟩;have b4:=hu4.get b3 fun e=>by have e:q=a3.block:=e;exact(I _ hab).2.1 e.symm
      have hu24:Upd A3 B _:=hu3.wide.trans hu4 fun x hx=>.inl (by have hx:x=a3.block:=hx;rw[hx];exact hab)
      have u04:Upd (fun y=>Ui y∨A3 y) h _:=(ku.mono fun y d=>.inl (.inl d)).trans hu24 fun x hx=>.inl (.inr hx)
      have eset:ks.set i (some ⟨b2,0,none⟩)=ks.take i++some ⟨b2,0,none⟩::ks.drop (i+1):=by rw[List.set_eq_take_append_cons_drop,if_pos hki0]
      rw[←eset]at ho4;have z3:=hu3.size;have z4:=hu4.size;change K (some ⟨q,0,none⟩,D,true) (gD h3 (adr a3 (i*1)) 0 (kK (some ⟨b2,0,none⟩)));generalize gD h3 (adr a3 (i*1)) 0 (kK (some ⟨b2,0,none⟩))=h4 at*;have hS2:∀y,SR o q A3 (Us.set i SV) y→(S y∨h.size≤y)∧y<h4.size:=fun y d=>wM (g.imp id fun h=>by omega) (aD b4) (fun y d=>⟨(I y d).1.imp id fun h=>by omega,by have:=(I y d).2.2;omega⟩) (fun U G y hz=>by
       rcases hmem2 U G with h|rfl
       ·exact⟨.inl (hUS U h y hz),by have:=N U h y hz;omega⟩
       ·exact⟨(hSV' y hz).1.imp (H y) id,by have:=(hSV' y hz).2;omega⟩) d
      refine hk h4 q w _ (SR o q A3 (Us.set i SV)) D true (u04.mono fun y d=>?_) (tP b4 hv ho4 (fun y d=>⟨(I y d).2.1,by have:=(I y d).2.2;omega⟩) hU3 (Nn hPD fun j U hj eU y d hu=>?_) (by
       rw[Fo.to_of]
       refine LsO.set hL.1 hL.2.1 (fun j k' n' U hj ek en eU=>KidO.move u04 (hL.2.2 j k' n' U ek en eU) (N U (aF eU)) (fun y d=>?_) fun y d=>d.elim .inl fun h=>(hS2 y h).1.imp (E y) id) (KidO.move hu24 ⟨b2,Z,rfl,rfl,rn2⟩ (fun y d=>(hSV y d).2) (fun y d=>?_) fun y d=>?_)
       ·rcases d with h|h
        ·exact .inl ⟨E y (H y h),hUid j U hj eU y h⟩
        ·refine(I y h).1.imp (fun hs=>⟨E y hs,fun hu=>(hU3 U (aF (i:=j) (by rw[eN,if_neg (Ne.symm hj)];exact eU)) y hu).1 h⟩) fun h=>by omega
       ·exact(I y d).1.imp (fun hs=>⟨.inl (.inl (E y hs)),fun hu=>(hU3 SV hSVm y hu).1 d⟩) id
       ·rcases d with h|⟨_,rfl|h|⟨U,G,h⟩⟩
        ·exact .inl (.inl (.inl h))
        ·exact g.imp (fun h=>.inl (.inl (E _ h))) id
        ·exact(I y h).1.imp (fun h=>.inl (.inl (E _ h))) id
        ·rcases hmem2 U G with B|rfl
         ·exact .inl (.inl (.inl (E _ (hUS U B y h))))
         ·exact .inl (.inr h)) (hno' (fun y d=>(I y d).1.imp id fun h=>by omega) (g.imp id fun h=>by omega))) hS2 (hset hslne hslhd hc2 (hbr _ _ hc2 hp2)) (yZ L (hputs hpn)) (fun h=>by cases h) hchg
      ·rcases d with h|h
       ·exact .inl (H y h)
       ·exact(I y h).1.imp id fun h=>by omega
      ·rcases(hSV' y d).1 with h|h
       ·exact hUid j U hj eU y h hu
       ·have:=N U (aF eU) y hu;omega
end Go.Proofs
namespace Go.Proofs
open Go Go.Lift
def wq:Fo→List (List UInt8×ByteArray)
 | .nil=> []
 | .cons lab w kids rest=>((w.map fun v=>(([]:List UInt8),v)).toList++wq kids).map (fun p=>(lab++p.1,p.2))++wq rest
def mL(w:Option ByteArray)(F:Fo):List (List UInt8×ByteArray):=(w.map fun v=>(([]:List UInt8),v)).toList++wq F
theorem qo:∀{F:Fo} {k:List UInt8} {v:ByteArray},(k,v)∈wq F↔nu F k v
 | .nil,_,_=>by simp[wq,nu]
 | .cons lab w kids rest,k,v=>by
  unfold wq nu;rw[cd,qo (F:=rest)];refine or_congr ?_ sZ;rw[ju];constructor
  ·rintro⟨⟨r,u⟩,hm,b⟩
   simp only[qY.injEq]at b;obtain⟨rfl,rfl⟩:=b;refine⟨r,rfl,?_⟩;rcases cd.1 hm with h|h
   ·left
    rw[Option.mem_toList,js]at h;obtain⟨a,c,b⟩:=h;simp only[qY.injEq]at b;exact⟨b.1.symm,by rw[c,b.2]⟩
   ·exact .inr (qo.1 h)
  ·rintro⟨r,rfl,h⟩
   refine⟨(r,v),cd.2 ?_,rfl⟩;rcases h with⟨rfl,h⟩|h
   ·left;rw[h];simp
   ·exact .inr (qo.2 h)
theorem lJ{w:Option ByteArray}{F:Fo}{k:List UInt8}{v:ByteArray}:(k,v)∈mL w F↔oK w F k v:=by
 unfold mL oK;rw[cd,qo];refine or_congr ?_ sZ;cases w with
 |none=>simp
 |some u=>simp[Prod.ext_iff,eq_comm]
abbrev Up(l:List (List UInt8×ByteArray)):Prop:=l.Pairwise fun p q=>p.1<q.1
theorem Ra{a x y:List UInt8}(h:x<y):a++x<a++y:=by
 induction a with
 |nil=>exact h
 |cons c a ih=>exact List.Lex.cons ih
theorem NC{x y:List UInt8}(c:y≠[])(h:hd x<hd y):x<y:=by
 match x,y,c with
 | [],b::y,_=>exact List.Lex.nil
 |a::x,b::y,_=>exact List.Lex.rel (UInt8.lt_iff_toNat_lt.2 h)
theorem Ix:∀{F:Fo},eH F→Up (wq F)
 | .nil,_=>fF
 | .cons lab w kids rest,h=>by
  unfold wq;refine cS.2 ⟨?_,Ix h.2.2.2.2,?_⟩
  ·rw[List.pairwise_map]
   refine List.Pairwise.imp (R:=fun p q:List UInt8×ByteArray=>p.1<q.1) (fun i=>Ra i) ?_
   refine cS.2 ⟨?_,Ix h.2.2.1,?_⟩
   ·cases w<;>simp
   ·intro a f b g
    have d:b.1≠[]:=mO h.2.2.1 (qo (F:=kids).1 (show(b.1,b.2)∈_ from g))
    have j:a.1= []:=by
     rw[Option.mem_toList,js]at f;obtain⟨v,_,e⟩:=f;rw[←e]
    rw[j];match b.1,d with
    |c::l,_=>exact List.Lex.nil
  ·intro a f b g
   obtain⟨p,_,rfl⟩:=ju.1 f;obtain⟨n,k,e,_⟩:=oO h.2.2.2.2 (qo (F:=rest).1 (show(b.1,b.2)∈_ from g))
   have d:b.1≠[]:=mO h.2.2.2.2 (qo (F:=rest).1 (show(b.1,b.2)∈_ from g))
   have:=h.2.2.2.1 n k;exact NC d (by rw[mP h.1];omega)
theorem Po{w:Option ByteArray}{F:Fo}(h:eH F):Up (mL w F):=by
 refine cS.2 ⟨by cases w<;>simp,Ix h,?_⟩
 intro a g b i;have d:b.1≠[]:=mO h (qo (F:=F).1 (show(b.1,b.2)∈_ from i))
 have f:a.1= []:=by
  rw[Option.mem_toList,js]at g;obtain⟨v,_,e⟩:=g;rw[←e]
 rw[f];match b.1,d with
 |c::l,_=>exact List.Lex.nil
theorem MP:∀{l l':List (List UInt8×ByteArray)},Up l→Up l'→(∀p,p∈l↔p∈l')→l=l'
 | [],[],_,_,_=>rfl
 | [],q::l',_,_,h=>absurd ((h q).2 (au ..)) (by simp)
 |p::l,[],_,_,h=>absurd ((h p).1 (au ..)) (by simp)
 |p::l,q::l',c,a,h=>by
  have c:=ba.1 c;have a:=ba.1 a;have e:p=q:=by
   rcases ar.1 ((h p).1 (au ..))with e|f
   ·exact e
   ·rcases ar.1 ((h q).2 (au ..))with e|d
    ·exact e.symm
    ·exact absurd (List.lt_trans (c.1 q d) (a.1 p f)) (qj _)
  subst e;rw[MP c.2 a.2 fun z=>?_]
  constructor
  ·intro hz
   rcases ar.1 ((h z).1 (aM _ hz))with e|b
   ·exact absurd (c.1 z hz) (by rw[e];exact qj _)
   ·exact b
  ·intro hz
   rcases ar.1 ((h z).2 (aM _ hz))with e|b
   ·exact absurd (a.1 z hz) (by rw[e];exact qj _)
   ·exact b
def He:Fo→Nat
 | .nil=>0
 | .cons _ _ kids rest=>1+He kids+He rest
theorem Fx:∀{F:Fo},eH F→He F+F.toL.length≤2*(wq F).length
 | .nil,_=>by simp[He,Fo.toL]
 | .cons lab w kids rest,h=>by
  have c:=Fx h.2.2.1;have b:=Fx h.2.2.2.2;have a:=h.2.1;rw[Fo.toL_cons];unfold He wq;rw[ae,gB,ae,aL];cases w with
  |none=>
   simp only[Option.map_none,Option.toList_none,cq];have:2≤kids.toL.length:=a.resolve_left (by simp);omega
  |some v=>simp only[Option.map_some,Option.toList_some,aO];omega
def FZ:Fo→Prop
 | .nil=>True
 | .cons lab w kids rest=>lab.length≤10000∧(∀v,w=some v→v.size≤10000)∧kids.toL.length≤256∧FZ kids∧FZ rest
theorem Je:∀{F:Fo},eH F→(∀k v,nu F k v→k.length≤10000∧v.size≤10000)→FZ F
 | .nil,_,_=>trivial
 | .cons lab w kids rest,h,hl=>by
  obtain⟨r,v,c⟩:=lL h _ (au ..);have b:=(hl _ v (fc.2 ⟨_,au ..,r,rfl,c⟩)).1;rw[ae]at b;simp only at b;refine⟨by omega,fun v hv=>(hl lab v (.inl ⟨[],(bJ _).symm,.inl ⟨rfl,hv⟩⟩)).2,iH h.2.2.1,Je h.2.2.1 fun k v a=>?_,Je h.2.2.2.2 fun k v a=>hl k v (.inr a)⟩
  have:=hl (lab++k) v (.inl ⟨k,rfl,.inr a⟩);rw[ae]at this;exact⟨by omega,this.2⟩
def rd:Option ByteArray→List UInt8
 |some v=>1::lH v
 |none=> [0]
def o9(lab:List UInt8)(w:Option ByteArray)(n:Nat):List UInt8:=lH ⟨lab.toArray⟩++(rd w++km n 2)
def l8:Fo→List UInt8
 | .nil=> []
 | .cons lab w kids rest=>o9 lab w kids.toL.length++(l8 kids++l8 rest)
def gu(n:Bn):List UInt8:=o9 n.1 n.2.1 n.2.2.toL.length++l8 n.2.2
theorem tN:∀F:Fo,l8 F=F.toL.flatMap gu
 | .nil=>rfl
 | .cons lab w kids rest=>by
  rw[Fo.toL_cons,aU,←tN rest];show o9 lab w kids.toL.length++(l8 kids++l8 rest)=(o9 lab w kids.toL.length++l8 kids)++l8 rest
  rw[ao]
theorem DW{lab:List UInt8}{w:Option ByteArray}{n:Nat}(b:lab.length≤10000)(a:∀v,w=some v→v.size≤10000):(o9 lab w n).length≤20010:=by
 unfold o9;rw[ae,ae,gN,cQ];have e:(jy lab.toArray).size=lab.length:=by simp[ByteArray.size]
 rw[e];cases w with
 |none=>simp only[rd,aO];omega
 |some v=>have:=a v rfl;simp only[rd,aL,gN];omega
theorem wi:∀{F:Fo},FZ F→(l8 F).length≤He F*20010
 | .nil,_=>by simp[l8]
 | .cons lab w kids rest,h=>by
  have c:=DW (n:=kids.toL.length) h.1 h.2.1;have b:=wi h.2.2.2.1;have a:=wi h.2.2.2.2;unfold l8 He;rw[ae,ae,ix,ix];omega
theorem DX{lab a:List UInt8}{w w':Option ByteArray}{n e:Nat}{r i:List UInt8}(m:lab.length≤10000)(f:a.length≤10000)(o:∀v,w=some v→v.size≤10000)(g:∀v,w'=some v→v.size≤10000)(q:n≤256)(p:e≤256)(h:o9 lab w n++r=o9 a w' e++i):lab=a∧w=w'∧n=e∧r=i:=by
 unfold o9 at h;simp only[ao]at h;have z:∀l:List UInt8,(jy l.toArray).size=l.length:=fun l=>by simp[ByteArray.size]
 obtain⟨c,h⟩:=uL (by rw[z];exact m) (by rw[z];exact f) h;have c:lab=a:=by
  have:=congrArg (fun b:ByteArray=>b.data.toList) c
  simpa using this
 cases w with
 |none=>
  cases w' with
  |none=>
   simp only[rd,cU,List.nil_append,gb.injEq,true_and]at h;obtain⟨d,h⟩:=rF (k:=2) (by omega) (by omega) h;exact⟨c,rfl,d,h⟩
  |some v=>simp[rd]at h
 |some v=>
  cases w' with
  |none=>simp[rd]at h
  |some v'=>
   simp only[rd,cU,gb.injEq,true_and]at h;obtain⟨j,h⟩:=uL (o v rfl) (g v' rfl) h;obtain⟨d,h⟩:=rF (k:=2) (by omega) (by omega) h;exact⟨c,by rw[j],d,h⟩
theorem wm:∀{F F':Fo} {r r':List UInt8},FZ F→FZ F'→F.toL.length=F'.toL.length→l8 F++r=l8 F'++r'→F=F'∧r=r'
 | .nil,.nil,_,_,_,_,_,h=>⟨rfl,h⟩
 | .nil,.cons ..,_,_,_,_,e,_=>by simp[Fo.toL]at e
 | .cons ..,.nil,_,_,_,_,e,_=>by simp[Fo.toL]at e
 | .cons lab w kids rest,.cons lab' w' kids' rest',r,r',h1,h2,e,h=>by
  unfold l8 at h;simp only[ao]at h;obtain⟨c,a,b,h⟩:=DX h1.1 h2.1 h1.2.1 h2.2.1 h1.2.2.1 h2.2.2.1 h;obtain⟨d,h⟩:=wm h1.2.2.2.1 h2.2.2.2.1 b h;obtain⟨f,h⟩:=wm h1.2.2.2.2 h2.2.2.2.2 (by rw[Fo.toL_cons,Fo.toL_cons]at e;simpa using e) h;exact⟨by rw[c,a,d,f],h⟩
end Go.Proofs
namespace Go.Proofs
open Go Go.Lift
theorem PQ{M:Nat→Prop}{h:ad}{c:SliceV}{out ys:List UInt8}{vs:List Value}(hv:vs=ys.flatMap mE){n:Nat}(d:n=ys.length){K:SliceV→ad→Prop}(i:OwnS mE 1 bX M h c out)(hM:∀b,h.size≤b→M b)(m:out.length+ys.length≤140737488355328)
  (g:∀s' a,OwnS mE 1 bX M a s' (out++ys)→Upd M h a→K s' a):
  ∃xs,SRow (hnew h vs bX) (some (aA h)) (n*1) xs∧AppP (some [.int .u8 0]) 1 1 bX c.a c.len c.cap n xs (hnew h vs bX) K:=by
 subst hv d;have k:=Upd.hnew No h (ys.flatMap mE) bX;have f:OwnS mE 1 bX (fun _=>True) (hnew h (ys.flatMap mE) bX) ⟨some (aA h),ys.length,ys.length⟩ ys:=⟨rfl,pU,al _,.inr ⟨h.size,[],rfl,trivial,by rw[bJ];exact cJ ..,by simp⟩⟩
 refine⟨_,(f.sl (W:=No) fun _ _ _ h=>h).srow,?_⟩
 refine AppP.own (ys:=ys) (i.upd k fun _ _ h=>h) rfl rfl (xw _) rfl (by omega) (by omega) (hM _ (by rw[jM];omega)) fun s' a e j=>?_
 exact g s' a e ((Upd.hnew M h _ _).tr j)
def SS(W:Nat→Prop)(n:Bn):Prop:=∀{b:Nat} {sl:ByteArray} {h0 h:ad} {M:Nat→Prop} {s:SliceV} {xs:List UInt8},RxN W h0 b sl n.2.1 n.2.2→sl.data.toList=n.1→Upd No h0 h→(∀y,M y→h0.size≤y)→OwnS mE 1 bX M h s xs→(∀y,h.size≤y→M y)→
 xs.length+(gu n).length≤140737488355328→∀{K:SliceV→ad→Prop},(∀s' h',OwnS mE 1 bX M h' s' (xs++gu n)→Upd M h h'→K s' h')→HC PG iE [.pointer (some ⟨b,0,none⟩),.slice s.a s.len s.cap] [.c .slice] K h
theorem M4{W:Nat→Prop}{lab:List UInt8}{w:Option ByteArray}{c:Fo}(hl:lab.length≤10000)(hw:∀v,w=some v→v.size≤10000)(Y:c.toL.length≤256)(ih:∀m∈c.toL,SS W m):SS W (lab,w,c):=by
 intro b sl h0 h M s xs r F X H ho hM hx K N;simp only at r F;have E:(⟨lab.toArray⟩:ByteArray)=sl:=by rw[←F]
 refine vj (some ⟨b,0,none⟩) s ?_;unfold pf cT dz bG Rh yO bI gT Qi;obtain⟨val,D,ow,ks,Z,hv,hs,hcap,hF⟩:=r;have hL:=pn.1 hF;have st:∀{g},Upd M h g→Upd No h0 g:=fun k=>X.trans k fun y hy=>.inr (H y hy)
 have blk:∀{g},Upd M h g→g[b]? =some (.cells (uM sl w.isSome val D ow) bh (0,0)):=fun k=>(st k).get0 Z
 have q:∀{g},Upd M h g→∀y,g.size≤y→M y:=fun k y hy=>hM y (aX k.size hy)
 have hsz:sl.size=lab.length:=by rw[←F];simp
 have p:=hs.len;rw[hL.1]at p;unfold gu at hx N;rw[tN]at hx N;simp only at hx N;rw[ae]at hx;have J:(o9 lab w c.toL.length).length=2+lab.length+((rd w).length+2):=by
  unfold o9;rw[ae,ae,gN,cQ,E,hsz]
 refine⟨_,rfl,sl,c5 (i:=0) (blk (Upd.refl M h)),?_⟩;refine AO (W:=No) (ho.sl fun _ _ _ h=>h) ho.cap sl (by omega) (by omega) fun s2 h2 C T=>?_
 have C:=C.more hM;have d:Upd M h h2:=T.wide;refine Join.intro (fun t g=>OwnS mE 1 bX M g t (xs++lH sl++(rd w))∧Upd M h g) (fun R O=>⟨_,rfl,w.isSome,c5 (i:=1) (blk d),?_⟩) ?_
 ·cases w with
  |none=>
   refine aj.2 (bL ?_);refine rJ (b:=0) rfl C (q d) ?_ fun s3 P n f=>O _ _ ⟨n,d.tr f⟩
   rw[ae,gN];simp only[rd,aO]at J;omega
  |some v=>
   have V:=vw hv v rfl;subst V;have hvs:=hw val rfl;simp only[rd,aL,gN]at J;have k3:Upd M h (hnew h2 [.int .u8 1] bX):=d.tr (Upd.hnew M h2 _ _);refine ax.2 ⟨_,rfl,val,c5 (i:=2) (blk d),bL ⟨c5 (i:=2) (blk k3),?_⟩⟩;refine rJ (b:=1) rfl C (q d) (by rw[ae,gN];omega) fun s3 P n f=>⟨c5 (i:=2) (blk (d.tr f)),?_⟩
   refine AO (W:=No) (n.sl fun _ _ _ h=>h) n.cap val (by omega) (by rw[ae,ae,gN,aO];omega) fun s4 h4 o A=>O _ _ ⟨?_,(d.tr f).tr A.wide⟩
   have o:=o.more (q (d.tr f));simp only[rd,ao,List.singleton_append]at o⊢;exact o
 ·rintro s3 P ⟨n,f⟩
  have e8:Int.fdiv (D.len:Int) (2^(min (8:Int).toNat (IntKind.bits .i64)))=((c.toL.length>>>8:Nat):Int):=by
   have:(2^(min (8:Int).toNat (IntKind.bits .i64)):Int)=2^8:=rfl;rw[this,p,kq]
  refine Join.intro (fun t g=>OwnS mE 1 bX M g t (xs++o9 lab w c.toL.length)∧Upd M h g) (fun R O=>⟨_,rfl,D,c5 (i:=3) (blk f),_,rfl,D,c5 (i:=3) (blk f),by omega,?_⟩) ?_
  ·simp only[Bd]
   rw[e8];have k4:Upd M h (hnew P [.int .u8 (IntKind.wrap .u8 (D.len:Int)),.int .u8 (IntKind.wrap .u8 ((c.toL.length>>>8:Nat):Int))] bX):=f.tr (Upd.hnew M P _ _);refine bL ⟨c5 (i:=3) (blk k4),c5 (i:=3) (blk k4),?_⟩;refine PQ (ys:=km c.toL.length 2) ?_ rfl n (q f) ?_ fun s5 h5 G u=>⟨c5 (i:=3) (blk (f.tr u)),c5 (i:=3) (blk (f.tr u)),O _ _ ⟨?_,f.tr u⟩⟩
   ·rw[p,IntKind.wrap_u8,IntKind.wrap_u8]
    simp[km,fO]
   ·rw[ae,ae,gN,cQ];omega
   ·unfold o9
    rw[E,←ao,←ao];exact G
  ·rintro s4 h4 ⟨o,A⟩
   refine⟨_,rfl,D,c5 (i:=3) (blk A),?_⟩;have hs4:∀{g},Upd M h g→Sl kK 1 W g D ks:=fun k=>hs.upd (st k) fun _ h=>h.elim
   refine LoopP.ghost (fun(i:Nat) (t:SliceV×Int) g=>t.2=(i:Int)∧i≤c.toL.length∧OwnS mE 1 bX M g t.1 (xs++o9 lab w c.toL.length++(c.toL.take i).flatMap gu)∧Upd M h g) (fun i=>c.toL.length-i) 0 ⟨rfl,aV _,by simpa using o,A⟩ ?_
   rintro I i ⟨so,ti⟩ g ⟨e1,hi,B,x⟩ hI;simp only at e1 B;subst e1;have z:∀j:i<c.toL.length,((c.toL.take i).flatMap gu).length+(gu c.toL[i]).length≤(c.toL.flatMap gu).length:=fun j=>by
    have e:c.toL=c.toL.take i++c.toL[i]::c.toL.drop (i+1):=by rw[List.getElem_cons_drop,aN]
    have:=congrArg (fun L=>(List.flatMap gu L).length) e
    simp only[bj,aU,ae]at this;omega
   refine aH (fun j=>?_) fun hge=>?_
   ·have j:i<c.toL.length:=by have:(i:Int)<(D.len:Int):=j;omega
    obtain⟨kb,ksl,hki,S,U⟩:=hL.at j;obtain⟨a,ha,_,hvv⟩:=(hs4 x).at0 hki;have hsp:=z j;refine⟨⟨by simp only;omega,by simp only;omega⟩,a,ha,some ⟨kb,0,none⟩,hvv,?_⟩
    refine ih _ (aP j) U S (st x) H B (q x) (by rw[ae,ae];omega) fun s5 h5 G u=>?_
    rw[ci j (by omega)];refine hI (i+1) _ _ ⟨rfl,j,?_,x.tr u⟩ (by omega);rw[List.take_succ_eq_append_getElem j,bj,aU,List.flatMap_nil,bJ,←ao];exact G
   ·have Q:i=c.toL.length:=by have:¬(i:Int)<(D.len:Int):=hge;omega
    subst Q;rw[bN]at B;refine N _ _ ?_ x;rw[←ao];exact B
theorem EP{W:Nat→Prop}:∀{F:Fo},FZ F→∀n∈F.toL,SS W n
 | .nil,_,n,a=>by simp[Fo.toL]at a
 | .cons lab w kids rest,h,n,a=>by
  rcases ar.1 a with rfl|a
  ·exact M4 h.1 h.2.1 h.2.2.1 (EP h.2.2.2.1)
  ·exact EP h.2.2.2.2 n a
structure RadAt(W:Nat→Prop)(h:ad)(b:Nat)(l:List Pr):Prop where
 ex:∃w F,RxN W h b ⟨#[]⟩ w F∧eH F∧∀k v,(k,v)∈mL w F↔∃p∈l,p.1.data.toList=k∧p.2=v
theorem RadAt.upd0{W:Nat→Prop}{h a:ad}{b:Nat}{l:List Pr}(k:Upd No h a)(r:RadAt W h b l):RadAt W a b l:=by
 obtain⟨w,F,c,d,e⟩:=r.ex;exact⟨w,F,c.upd0 k,d,e⟩
theorem RadAt.less{W W':Nat→Prop}{h:ad}(hm:∀b,W' b→W b∨h.size≤b){b:Nat}{l:List Pr}(r:RadAt W h b l):RadAt W' h b l:=by
 obtain⟨w,F,d,a,c⟩:=r.ex;exact⟨w,F,d.less hm,a,c⟩
theorem RadAt.updM{W M:Nat→Prop}{h a:ad}(k:Upd M h a)(hm:∀b,M b→W b∨h.size≤b){b:Nat}{l:List Pr}(r:RadAt W h b l):RadAt W a b l:=by
 obtain⟨w,F,e,c,d⟩:=r.ex;exact⟨w,F,e.updM k hm,c,d⟩
def Kk(l:List Pr):List (List UInt8×ByteArray):=l.map fun p=>(p.1.data.toList,p.2)
theorem Qp{l:List Pr}(c:cB l):Up (Kk l):=by
 unfold Kk Up;rw[List.pairwise_map];refine List.Pairwise.imp (R:=fun p q:Pr=>kl p.1 q.1) (fun{a b} h=>?_) c
 rw[IK,ByteArray.toList_eq,ByteArray.toList_eq]at h;exact h
theorem Kj:∀{l l':List Pr},Kk l=Kk l'→l=l'
 | [],[],_=>rfl
 | [],_::_,h=>by simp[Kk]at h
 |_::_,[],h=>by simp[Kk]at h
 |p::l,q::l',h=>by
  unfold Kk at h;simp only[List.map_cons,gb.injEq,qY.injEq]at h;obtain⟨⟨c,f⟩,d⟩:=h;have e:p.1=q.1:=by
   generalize p.1=a at c;generalize q.1=b at c;cases a;cases b;exact congrArg jy (gR.1 c)
  rw[Kj d,Prod.ext e f]
theorem EU{w:Option ByteArray}{F:Fo}{l:List Pr}(hc:eH F)(f:cB l)(d:∀k v,(k,v)∈mL w F↔∃p∈l,p.1.data.toList=k∧p.2=v):mL w F=Kk l:=by
 refine MP (Po hc) (Qp f) fun p=>?_
 have:=d p.1 p.2;rw[show(p.1,p.2)=p from rfl]at this
 rw[this];unfold Kk;rw[ju];constructor
 ·rintro⟨q,a,c,b⟩;exact⟨q,a,Prod.ext c b⟩
 ·rintro⟨q,a,e⟩;rw[←e];exact⟨q,a,rfl,rfl⟩
theorem M9{w w':Option ByteArray}{F F':Fo}(hc:eH F)(a:eH F')(h:mL w F=mL w' F'):w=w'∧F=F':=by
 have hm:∀k v,oK w F k v↔oK w' F' k v:=fun k v=>by rw[←lJ,←lJ,h]
 refine⟨Option.ext fun v=>?_,Jo hc a fun k v=>?_⟩
 ·have:=hm [] v
  constructor
  ·intro e
   rcases this.1 (.inl ⟨rfl,e⟩)with⟨_,h⟩|h
   ·exact h
   ·exact absurd rfl (mO a h)
  ·intro e
   rcases this.2 (.inl ⟨rfl,e⟩)with⟨_,h⟩|h
   ·exact h
   ·exact absurd rfl (mO hc h)
 ·constructor
  ·intro hi
   rcases(hm k v).1 (.inr hi)with⟨e,_⟩|h
   ·exact absurd e (mO hc hi)
   ·exact h
  ·intro hi
   rcases(hm k v).2 (.inr hi)with⟨e,_⟩|h
   ·exact absurd e (mO a hi)
   ·exact h
end Go.Proofs
namespace Go.Proofs
open Go Go.Lift
theorem qp{p q:Pr}:∀{l:List Pr},cB l→(q∈gG p l↔q=p∨(q∈l∧q.1≠p.1))
 | [],_=>by simp[gG]
 |r::l,d=>by
  have d:=ba.1 d;rw[fY];by_cases c:kl r.1 p.1
  ·have f:r.1≠p.1:=fun e=>by rw[e]at c;exact cA _ c
   rw[if_pos c,ar,ar,qp d.2];constructor
   ·rintro(rfl|h|⟨h,a⟩)
    ·exact .inr ⟨.inl rfl,f⟩
    ·exact .inl h
    ·exact .inr ⟨.inr h,a⟩
   ·rintro(h|⟨h|h,a⟩)
    ·exact .inr (.inl h)
    ·exact .inl h
    ·exact .inr (.inr ⟨h,a⟩)
  ·rw[if_neg c]
   by_cases b:r.1=p.1
   ·rw[if_pos b,ar,ar]
    constructor
    ·rintro(h|h)
     ·exact .inl h
     ·refine .inr ⟨.inr h,fun e=>?_⟩
      have:=d.1 q h;rw[e,b]at this;exact cA _ this
    ·rintro(h|⟨rfl|h,a⟩)
     ·exact .inl h
     ·exact absurd b a
     ·exact .inr h
   ·rw[if_neg b,ar,ar]
    have g:=tW c b;constructor
    ·rintro(h|rfl|h)
     ·exact .inl h
     ·exact .inr ⟨.inl rfl,b⟩
     ·refine .inr ⟨.inr h,fun e=>?_⟩
      have:=iP g (d.1 q h);rw[e]at this;exact cA _ this
    ·rintro(h|⟨rfl|h,a⟩)
     ·exact .inl h
     ·exact .inr (.inl rfl)
     ·exact .inr (.inr h)
def RadRoot(W:Nat→Prop)(h:ad)(r:Option Addr)(l:List Pr):Prop:=(r=none∧l= [])∨∃b,r=some ⟨b,0,none⟩∧RadAt W h b l
theorem RadRoot.upd0{W:Nat→Prop}{h a:ad}{r:Option Addr}{l:List Pr}(k:Upd No h a)(t:RadRoot W h r l):RadRoot W a r l:=t.imp id fun⟨b,e,t⟩=>⟨b,e,t.upd0 k⟩
theorem pT{a b:ByteArray}:a.data.toList=b.data.toList↔a=b:=by
 constructor
 ·intro h;cases a;cases b;exact congrArg jy (gR.1 h)
 ·rintro rfl;rfl
theorem Ie{W:Nat→Prop}{h:ad}(c:∀y,W y→y<h.size){K:Option Addr→ad→Prop}(a:∀h' b,RadAt W h' b []→Upd No h h'→K (some ⟨b,0,none⟩) h'):HC PG oc [] [.c .ptr] K h:=by
 refine Dh ?_;unfold vP Gc;refine bL (a _ h.size ⟨none,.nil,⟨⟨#[]⟩,⟨none,0,0⟩,none,[],cJ h PZ bh,rfl,Sl.nil mG,⟨al _,fun hx=>Nat.lt_irrefl _ (c _ hx),jL⟩,rfl⟩,trivial,fun k v=>?_⟩ (Upd.hnew No h _ _))
 simp[mL,wq]
def Jx(l:List Pr)(xs:List UInt8):Prop:=∃w F,eH F∧mL w F=Kk l∧xs=gu ([],w,F)
theorem ud{w:Option ByteArray}{F:Fo}{l:List Pr}(hc:eH F)(c:mL w F=Kk l)(a:Fit l):FZ F∧∀v,w=some v→v.size≤10000:=by
 have hm:∀k v,oK w F k v→k.length≤10000∧v.size≤10000:=fun k v hi=>by
  have:=lJ.2 hi;rw[c]at this;obtain⟨q,b,e⟩:=ju.1 this;cases e;have:=a q b;exact⟨by simpa using this.1,this.2⟩
 exact⟨Je hc fun k v hi=>hm k v (.inr hi),fun v hv=>(hm [] v (.inl ⟨rfl,hv⟩)).2⟩
theorem Pf{l l':List Pr}{xs a:List UInt8}(h:Jx l xs)(m:Jx l' a)(k:Fit l)(f:Fit l'):xs=a↔l=l':=by
 obtain⟨w,F,c,e,rfl⟩:=h;obtain⟨w',F',c',e',rfl⟩:=m;have i:=ud c e k;have g:=ud c' e' f;constructor
 ·intro hx
  have hx:gu ([],w,F)++ []=gu ([],w',F')++ []:=by rw[hx]
  unfold gu at hx;simp only[ao]at hx;obtain⟨_,b,j,hx⟩:=DX (aV _) (aV _) i.2 g.2 (iH c) (iH c') hx;obtain⟨d,_⟩:=wm i.1 g.1 j hx;exact Kj (by rw[←e,←e',b,d])
 ·rintro rfl
  obtain⟨b,d⟩:=M9 c c' (e.trans e'.symm);rw[b,d]
theorem xt{l:List Pr}{xs:List UInt8}(h:Jx l xs)(d:Fit l):xs.length≤20010+2*l.length*20010:=by
 obtain⟨w,F,c,e,rfl⟩:=h;have b:=ud c e d;have f:=DW (lab:= []) (n:=F.toL.length) (aV _) b.2;have i:=wi b.1;have g:=Fx c;have a:=congrArg fP e;unfold mL Kk at a;rw[ae,gB]at a;have j:He F*20010≤2*l.length*20010:=Nat.mul_le_mul_right _ (by omega);unfold gu;rw[ae];simp only;omega
theorem Gx{W:Nat→Prop}{h:ad}{b:Nat}{l:List Pr}(t:RadAt W h b l)(o:cB l)(d:Fit l)(q:l.length≤60000){K:SliceV→ad→Prop}
  (k:∀s' a xs,Jx l xs→OwnS mE 1 bX (fun y=>h.size≤y) a s' xs→Upd No h a→K s' a):HC PG rj [.pointer (some ⟨b,0,none⟩)] [.c .slice] K h:=by
 refine Dg _ ?_;unfold vO;refine aj.2 ?_;obtain⟨w,F,g,c,n⟩:=t.ex;have e:=EU c o n;have f:=ud c e d;have hv:Jx l (gu ([],w,F)):=⟨w,F,c,e,rfl⟩;have p:=xt hv d;exact M4 (lab:= []) (aV _) f.2 (iH c) (EP f.1) (s:=⟨none,0,0⟩) (xs:= []) (M:=fun y=>h.size≤y) g rfl (Upd.refl _ _) (fun _ h=>h) (OwnS.nil pU) (fun _ h=>h) (by rw[cq];omega) fun s' a j m=>k s' a _ hv j (m.mono fun y i=>.inr i)
end Go.Proofs
namespace Go.Proofs
open Go Go.Lift
theorem aQ{h:ad}{cs:List Value}{t:TypeId}{k:ad→Prop}(a:∀h',h'[h.size]? =some (.cells cs.toArray t (0,0))→Upd No h h'→k h'):At (hnew h cs t) k:=
 bL (a _ (cJ h cs t) (Upd.hnew No h cs t))
theorem vc{h:ad}{b:Nat}{c:Array Value}{t:TypeId}(a:h[b]? =some (.cells c t (0,0))) (i:Nat):aK h (adr ⟨b,0,none⟩ i)=c[i]?:=by rw[bF,aB];exact aY a
theorem kJ{h:ad}{b:Nat}{c:Array Value}{t:TypeId}(a:h[b]? =some (.cells c t (0,0))) (i j:Nat):aK h (adr (adr ⟨b,0,none⟩ i) j)=c[i+j]?:=by rw[bF,bF,aB];exact aY a
theorem pj{h:ad}{b i:Nat}{c c':Array Value}{t:TypeId}{v:Value}{k:ad→Prop}(f:h[b]? =some (.cells c t (0,0))) (hi:i<c.size) (e:c.setIfInBounds i v=c') (g:∀a,a[b]? =some (.cells c' t (0,0))→Upd (· =b) h a→k a):Wr h (adr ⟨b,0,none⟩ i)∧At (hset h (adr ⟨b,0,none⟩ i) v) k:=by
 rw[bF,aB];exact⟨gS f hi,sP f fun a d j=>g a (e▸d) j⟩
theorem _root_.Go.Lift.Upd.own{h c a:ad}{b:Nat}(k:Upd No h c)(d:Upd (· =b) c a)(e:h.size≤b):Upd No h a:=k.trans d fun x hx=>.inr (by have hx:x=b:=hx;omega)
theorem _root_.Go.Lift.Upd.oth{h d:ad}{b c:Nat}{o:Obj}(e:Upd (· =b) h d)(hc:h[c]? =some o) (a:c≠b):d[c]? =some o:=e.get hc a
abbrev Tr:=Int×Int×Int×Int×(Option Addr)×(Option Addr)
abbrev nW(t:Tr):List Value:= [.int .i64 t.1,.int .u64 t.2.1,.int .u64 t.2.2.1,.int .u64 t.2.2.2.1,.pointer t.2.2.2.2.1,.pointer t.2.2.2.2.2]
abbrev Mx(t:Tr):Value:=.agg #[.int .i64 t.1,.int .u64 t.2.1,.int .u64 t.2.2.1,.int .u64 t.2.2.2.1,.pointer t.2.2.2.2.1,.pointer t.2.2.2.2.2]
def Pro(W:Nat→Prop)(h a:ad)(y:Nat):Prop:=W y∨(h.size≤y∧y<a.size)
theorem Pro.lt{W:Nat→Prop}{h a:ad}(c:∀y,W y→y<h.size)(k:Upd No h a):∀y,Pro W h a y→y<a.size:=fun y b=>b.elim (fun h=>cg (c y h) k.size) fun h=>h.2
theorem Pro.hm{W:Nat→Prop}{h a:ad}:∀y,Pro W h a y→W y∨h.size≤y:=fun _ b=>b.imp id fun h=>h.1
theorem Pro.sub{W:Nat→Prop}{h b a:ad}:∀y,W y→Pro W h b y∨a.size≤y:=fun _ c=>.inl (.inl c)
theorem RootAt.less{W W':Nat→Prop}{x:Hs}{h:ad}(hm:∀b,W' b→W b∨h.size≤b){r:Option Addr}{l:List Pr}(t:RootAt W x h r l):RootAt W' x h r l:=t.imp id fun⟨b,e,t⟩=>⟨b,e,TrieAt.less hm t⟩
theorem RadRoot.less{W W':Nat→Prop}{h:ad}(hm:∀b,W' b→W b∨h.size≤b){r:Option Addr}{l:List Pr}(t:RadRoot W h r l):RadRoot W' h r l:=t.imp id fun⟨b,e,t⟩=>⟨b,e,t.less hm⟩
def TreeIs(W:Nat→Prop)(h:ad)(a:Int)(x:Hs)(t:Tr)(l:List Pr):Prop:=(a=0∧∃b,t=(0,x.k0,x.k1,x.mask,some ⟨b,0,none⟩,none)∧TrieAt W x h 13 b l)∨(a=1∧∃b,t=(1,0,0,0,none,some ⟨b,0,none⟩)∧RadAt W h b l)
theorem TreeIs.upd0{W:Nat→Prop}{h d:ad}{a:Int}{x:Hs}{t:Tr}{l:List Pr}(k:Upd No h d)(i:TreeIs W h a x t l):TreeIs W d a x t l:=
 i.imp (fun⟨e,b,c,t⟩=>⟨e,b,c,TrieAt.upd0 k t⟩) fun⟨e,b,c,t⟩=>⟨e,b,c,t.upd0 k⟩
theorem TreeIs.less{W W':Nat→Prop}{h:ad}(hm:∀b,W' b→W b∨h.size≤b){a:Int}{x:Hs}{t:Tr}{l:List Pr}(i:TreeIs W h a x t l):TreeIs W' h a x t l:=
 i.imp (fun⟨e,b,c,t⟩=>⟨e,b,c,TrieAt.less hm t⟩) fun⟨e,b,c,t⟩=>⟨e,b,c,t.less hm⟩
theorem TreeIs.updM{W M:Nat→Prop}{h d:ad}(k:Upd M h d)(hm:∀b,M b→W b∨h.size≤b){a:Int}{x:Hs}{t:Tr}{l:List Pr}(i:TreeIs W h a x t l):TreeIs W d a x t l:=
 i.imp (fun⟨e,b,c,t⟩=>⟨e,b,c,TrieAt.updM k hm t⟩) fun⟨e,b,c,t⟩=>⟨e,b,c,t.updM k hm⟩
theorem TreeIs.pro{W:Nat→Prop}{h b:ad}(k:Upd No h b){a:Int}{x:Hs}{t:Tr}{l:List Pr}(i:TreeIs W h a x t l):TreeIs (Pro W h b) b a x t l:=(i.less Pro.hm).upd0 k
theorem C8{W:Nat→Prop}{x:Hs}{h:ad}(d:∀y,W y→y<h.size){K:Option Addr→ad→Prop}(c:∀a b,TrieAt W x a 13 b []→Upd No h a→K (some ⟨b,0,none⟩) a):HC PG lP [] [.c .ptr] K h:=by
 refine Dp ?_;unfold vV;exact sy d fun a b f e=>c a b (MS f) e
abbrev DC:Tr:=(0,0,0,0,none,none)
theorem Gk{W:Nat→Prop}{x:Hs}{h:ad}{r:Option Addr}{l:List Pr}(t:RootAt W x h r l)(s:∀y,W y→y<h.size){K:Tr→ad→Prop}(q:∀e t,TreeIs W e 0 x t l→Upd No h e→K t e):HC PG pP [.agg #[.int .u64 x.k0,.int .u64 x.k1,.int .u64 x.mask],.pointer r] [.agg [.int .i64,.int .u64,.int .u64,.int .u64,.ptr,.ptr]] K h:=by
 refine Cu (x.k0,x.k1,x.mask) r ?_;unfold uB bo af aJ fT y2 yI Dy;refine aQ fun j b1 k1=>aQ fun o b2 k=>?_
 have w:=aD b1;have z:=aD b2;have d:=k1.tr k;refine Join.intro (fun t e=>Upd No o e∧∃b,t=some ⟨b,0,none⟩∧TrieAt (Pro W h o) x e 13 b l) (fun R n=>?_) ?_
 ·rcases t with⟨rfl,rfl⟩|⟨b,rfl,t⟩
  ·exact ax.2 (C8 (Pro.lt s d) fun v b t a=>n _ _ ⟨a,b,rfl,t⟩)
  ·exact aj.2 (n _ _ ⟨Upd.refl _ _,b,rfl,TrieAt.upd0 d (TrieAt.less Pro.hm t)⟩)
 ·rintro p v ⟨a,b,rfl,p⟩
  have c1:=a.get0 (k.get0 b1);refine⟨_,vc c1 0,_,vc c1 1,_,vc c1 2,?_⟩;refine dT (c:=nW DC) (vs:=nW (0,x.k0,x.k1,x.mask,some ⟨b,0,none⟩,none)) (a.get0 b2) rfl fun u f g=>?_
  refine⟨_,vc f 0,_,vc f 1,_,vc f 2,_,vc f 3,_,vc f 4,_,vc f 5,?_⟩;have i:h.size≤j.size:=k1.size;exact q u _ (.inl ⟨rfl,b,rfl,TrieAt.less Pro.sub (TrieAt.updM g (fun y m=>.inl (.inr (by have m:y=j.size:=m;omega))) p)⟩) ((d.tr a).own g i)
theorem Gj{W:Nat→Prop}{x:Hs}{h:ad}{r:Option Addr}{l:List Pr}(t:RadRoot W h r l)(p:∀y,W y→y<h.size){K:Tr→ad→Prop}(n:∀e t,TreeIs W e 1 x t l→Upd No h e→K t e):HC PG pO [.pointer r] [.agg [.int .i64,.int .u64,.int .u64,.int .u64,.ptr,.ptr]] K h:=by
 refine Ct r ?_;unfold uA bo af aJ fT yI Dy;refine aQ fun k b2 d=>?_
 have s:=aD b2;refine Join.intro (fun t e=>Upd No k e∧∃b,t=some ⟨b,0,none⟩∧RadAt (Pro W h k) e b l) (fun R j=>?_) ?_
 ·rcases t with⟨rfl,rfl⟩|⟨b,rfl,t⟩
  ·exact ax.2 (Ie (Pro.lt p d) fun q b t a=>j _ _ ⟨a,b,rfl,t⟩)
  ·exact aj.2 (j _ _ ⟨Upd.refl _ _,b,rfl,(t.less Pro.hm).upd0 d⟩)
 ·rintro m q ⟨a,b,rfl,m⟩
  refine dT (c:=nW DC) (vs:=nW (1,0,0,0,none,some ⟨b,0,none⟩)) (a.get0 b2) rfl fun o f g=>?_
  refine⟨_,vc f 0,_,vc f 1,_,vc f 2,_,vc f 3,_,vc f 4,_,vc f 5,?_⟩;exact n o _ (.inr ⟨rfl,b,rfl,(m.updM g (fun y i=>.inl (.inr (by have i:y=h.size:=i;omega)))).less Pro.sub⟩) ((d.tr a).own g (al _))
theorem Ko{W:Nat→Prop}{x:Hs}{h:ad}(q:∀y,W y→y<h.size){a:Int}(n:a=0∨a=1){K:Tr×Int→ad→Prop}(p:∀h' t,TreeIs W h' a x t []→Upd No h h'→K (t,0) h'):HC PG sE [.int .i64 a,.agg #[.int .u64 x.k0,.int .u64 x.k1,.int .u64 x.mask]] [.agg [.int .i64,.int .u64,.int .u64,.int .u64,.ptr,.ptr],.c (.int .i64)] K h:=by
 refine JB a (x.k0,x.k1,x.mask) ?_;unfold Cy bo af aJ fT y2 uI yI tH;refine aQ fun k b1 k1=>aQ fun s b2 o=>?_
 have v:=aD b1;have w:=aD b2;have f:=k1.tr o;have i:h.size≤k.size:=k1.size;have c1:=o.get0 b1;rcases n with rfl|rfl
 ·refine ax.2 ⟨_,vc c1 0,_,vc c1 1,_,vc c1 2,?_⟩
  refine Gk (W:=Pro W h s) (x:=x) (l:= []) (.inl ⟨rfl,rfl⟩) (Pro.lt q f) fun u t j d=>?_
  refine dT (c:=nW DC) (vs:=nW t) (d.get0 b2) rfl fun m b e=>?_
  refine⟨_,vc b 0,_,vc b 1,_,vc b 2,_,vc b 3,_,vc b 4,_,vc b 5,?_⟩;exact p m t ((j.updM e (fun y g=>.inl (.inr (by have g:y=k.size:=g;omega)))).less Pro.sub) ((f.tr d).own e i)
 ·refine aj.2 (ax.2 ?_)
  refine Gj (W:=Pro W h s) (x:=x) (l:= []) (.inl ⟨rfl,rfl⟩) (Pro.lt q f) fun u t j d=>?_
  refine dT (c:=nW DC) (vs:=nW t) (d.get0 b2) rfl fun m b e=>?_
  refine⟨_,vc b 0,_,vc b 1,_,vc b 2,_,vc b 3,_,vc b 4,_,vc b 5,?_⟩;exact p m t ((j.updM e (fun y g=>.inl (.inr (by have g:y=k.size:=g;omega)))).less Pro.sub) ((f.tr d).own e i)
end Go.Proofs
namespace Go.Proofs
open Go Go.Lift
def np(k:ByteArray)(l:List Pr):List Pr:=l.filter fun q=>decide (q.1≠k)
theorem uV(k:ByteArray)(q:Pr)(l:List Pr):np k (q::l)=if q.1=k then np k l else q::np k l:=by
 unfold np;rw[List.filter_cons];by_cases h:q.1=k
 ·rw[if_pos h,if_neg (by simpa using h)]
 ·rw[if_neg h,if_pos (by simpa using h)]
theorem uv{k:ByteArray}{l:List Pr}(h:∀q∈l,q.1≠k):np k l=l:=eJ.2 fun q a=>decide_eq_true (h q a)
theorem xk{k:ByteArray}{l:List Pr}(h:bW l k=false):∀q∈l,q.1≠k:=fun q a e=>by
 have:bW l k=true:=bV.2 ⟨q,a,decide_eq_true e⟩;rw[h]at this;cases this
theorem xA{k:ByteArray}{l:List Pr}(h:∀q∈l,q.1≠k):bW l k=false:=by
 rcases ht:bW l k with _|_
 ·rfl
 ·obtain⟨q,a,e⟩:=bV.1 ht
  exact absurd (of_decide_eq_true e) (h q a)
theorem DK{k:ByteArray}{l:List Pr}(a:cB l):cB (np k l):=a.sublist List.filter_sublist
theorem AX{k:ByteArray}{l:List Pr}{p:Pr}:p∈np k l↔p∈l∧p.1≠k:=by unfold np;rw[List.mem_filter,decide_eq_true_iff]
theorem N7{k:ByteArray}{l:List Pr}:(np k l).length≤l.length:=List.length_filter_le ..
theorem KO{k:ByteArray}:∀{l:List Pr},cB l→l.length≤(np k l).length+1
 | [],_=>aV _
 |q::l,a=>by
  have a:=ba.1 a;rw[uV];by_cases h:q.1=k
  ·rw[if_pos h,uv fun r hm e=>by have:=a.1 r hm;rw[h,e]at this;exact cA _ this];exact al _
  ·rw[if_neg h]
   have:=KO (k:=k) a.2;simp only[aL];omega
theorem KP(k:ByteArray):∀{l:List Pr},cB l→L4 l k=np k l
 | [],_=>by simp[L4,np,bW]
 |q::l,c=>by
  have m:=c;have c:=ba.1 c;have b:l9 (q::l) k=if kl q.1 k then l9 l k+1 else 0:=by
   unfold l9;rw[List.takeWhile_cons];by_cases h:kl q.1 k
   ·rw[if_pos (by simpa using h),if_pos h];rfl
   ·rw[if_neg (by simpa using h),if_neg h];rfl
  have f:bW (q::l) k=(decide (q.1=k)||bW l k):=by unfold bW;rw[List.any_cons]
  by_cases h:kl q.1 k
  ·have d:q.1≠k:=fun e=>by rw[e]at h;exact cA _ h
   rw[uV,if_neg d,←KP k c.2];unfold L4;rw[f,b,if_pos h,decide_eq_false d,Bool.false_or];by_cases i:bW l k=true
   ·rw[if_pos i,if_pos i];rfl
   ·rw[if_neg i,if_neg i]
  ·by_cases e:q.1=k
   ·have a:∀r∈l,r.1≠k:=fun r hm g=>by have:=c.1 r hm;rw[e,g]at this;exact cA _ this
    rw[uV,if_pos e,uv a];unfold L4;rw[f,b,if_neg h,decide_eq_true e,Bool.true_or,if_pos rfl];rfl
   ·have j:=tW h e
    have a:∀r∈q::l,r.1≠k:=fun r hm g=>by
     rcases ar.1 hm with rfl|hm
     ·exact e g
     ·have:=c.1 r hm
      rw[g]at this;exact cA _ (iP j this)
    rw[uv a];unfold L4;rw[xA a];rfl
theorem GJ{x:Hs}{lev c:Nat}{k:ByteArray}{l:List Pr}:part x lev c (np k l)=np k (part x lev c l):=by
 unfold part np;rw[List.filter_filter,List.filter_filter];exact List.filter_congr fun p _=>Bool.and_comm ..
theorem LM{x:Hs}{lev c:Nat}{k:ByteArray}{l:List Pr}(h:c≠ck x lev k):part x lev c (np k l)=part x lev c l:=by
 rw[GJ];exact uv fun q a e=>h (by rw[←e];exact(lK.1 a).2.symm)
theorem KL{β:Type}(g:Nat→Option β):∀n,(fm g n).length=((List.range n).map fun c=>(g c).toList.length).sum
 |0=>rfl
 |n+1=>by
  rw[fz,ae,KL g n,fO,List.map_append,List.sum_append];simp
theorem Gn{x:Hs}{lev:Nat}{l:List Pr}(h:∀c,c<32→(part x lev c l).length≤1):(fi x lev l).length=l.length:=by
 unfold fi;rw[KL];have e:=pD x lev l 32;have d:(l.filter fun p=>decide (ck x lev p.1<32))=l:=eJ.2 fun p _=>decide_eq_true (xT x lev p.1)
 rw[d]at e;rw[←e];refine congrArg List.sum (List.map_congr_left fun c hc=>?_)
 have:=h c (gh.1 hc);match hp:part x lev c l with
 | []=>rfl
 | [p]=>rfl
 |a::b::r=>rw[hp]at this;simp at this
theorem H2{W:Nat→Prop}{x:Hs}{h:ad}{m b:Nat}{l:List Pr}(t:TrieAt W x h m b l)(D:l.length≤1000000):
  ∃d n sp sk bu ow lp lk,h[b]? =some (.cells (ff d n sp sk bu ow) bE (0,0))∧Sl gC 2 W h sp lp∧Sl oJ 1 W h sk lk∧lp.length≤1000000∧lk.length≤32∧(lp.length+lk.length=1∧n=0↔l.length=1)∧∀p,l= [p]→lp= [p]:=by
 cases m with
 |zero=>
  obtain⟨sp,sk,ow,v,j,a,_⟩:=BuckAt.ex t;exact⟨0,0,sp,sk,true,ow,l,[],v,j,a,D,by simp,by simp,fun p e=>e⟩
 |succ m=>
  obtain⟨s,E,k⟩:=t;have k:∀c,c<32→SlotIs W x h m s c (part x (12-m) c l):=k;obtain⟨d,n,sp,sk,ow,v,bits,j,a,_⟩:=E.ex;have o:=AQ k;have C:=uc (g:=s.p);refine⟨d,n,sp,sk,false,ow,_,_,v,j,a,by omega,uc,?_,?_⟩
  ·by_cases u:∀c,c<32→s.k c=none
   ·have B:n=0:=Nat.eq_of_testBit_eq fun c=>by
     rw[fo];by_cases hc:c<32
     ·rw[bits.nk c hc,u c hc];rfl
     ·exact Nat.testBit_lt_two_pow (cg bits.n32 (Nat.pow_le_pow_right (n:=2) (by omega) (by omega:32≤c)))
    have ek:fm s.k 32= []:=by
     unfold fm;rw[List.filterMap_eq_nil_iff];exact fun c hc=>u c (gh.1 hc)
    have A:(fm s.p 32).length=l.length:=by
     rw[o];refine Gn fun c hc=>?_
     rcases k c hc with⟨i,_⟩|⟨p,i,_⟩|⟨_,_,F,z,_⟩
     ·rw[i];simp
     ·rw[i];simp
     ·rw[u c hc]at z;cases z
    rw[ek,A,B];simp
   ·obtain⟨c,hc⟩:=Classical.not_forall.1 u
    obtain⟨hc,f⟩:=Classical.not_imp.1 hc;have w:n≠0:=fun B=>by
     have:=bits.nk c hc;rw[B,fo]at this;cases hkk:s.k c with
     |none=>exact f hkk
     |some y=>rw[hkk]at this;cases this
    rcases k c hc with⟨_,_,i⟩|⟨p,_,_,i⟩|⟨z,_⟩
    ·exact absurd i f
    ·exact absurd i f
    ·have:=jA (x:=x) (lev:=12-m) (c:=c) (l:=l)
     constructor
     ·rintro⟨_,e⟩;exact absurd e w
     ·intro e;omega
  ·rintro p rfl
   rw[o];have hc:=xT x (12-m) p.1;have A:(fi x (12-m) [p]).length=1:=Gn fun c _=>aX jA (by simp)
   match hq:fi x (12-m) [p],A with
   | [q],_=>
    have:q∈fi x (12-m) [p]:=by rw[hq];exact aq.2 rfl
    rw[aq.1 (pE this)]
theorem Ps{h:ad}{b d n:Nat}{sp sk:SliceV}{c:Bool}{ow:Option Addr}(a:h[b]? =some (.cells (ff d n sp sk c ow) bE (0,0))) (g:sp.len+sk.len≤1000000000) {K:Int→ad→Prop} (f:K ((sp.len+sk.len:Nat):Int) h):HC PG jC [.pointer (some ⟨b,0,none⟩)] [.c (.int .i64)] K h:=by
 refine tw _ ?_;unfold oW bG;refine aj.2 ⟨_,rfl,sp,dD (i:=2) a,_,rfl,sk,dD (i:=3) a,?_⟩;have e:IntKind.wrap .i64 ((sp.len:Int)+(sk.len:Int))=((sp.len+sk.len:Nat):Int):=by rw[nq (by omega)];omega
 rw[e];exact f
theorem Ou{W:Nat→Prop}{x:Hs}{h:ad}{m b:Nat}{l:List Pr}(t:TrieAt W x h m b l)(E:l.length≤1000000){K:Pr×Bool→ad→Prop}
  (v:∀j p,Upd No h j→(l.length=1→l= [p])→K (p,decide (l.length=1)) j):HC PG rq [.pointer (some ⟨b,0,none⟩)] [.agg [.str,.str],.c .bool] K h:=by
 refine Dn _ ?_;unfold vU dz az fT mC jO bI;refine aQ fun F b1 k1=>?_
 have G:=TrieAt.upd0 k1 t;obtain⟨d,n,sp,sk,P,ow,L,lk,w,s,A,I,H,f,c⟩:=H2 G E;have O:=s.len;have N:=A.len;refine Join.intro (fun t j=>t= !decide (l.length=1)∧j=F) (fun R D=>?_) ?_
 ·refine Ps w (by omega) ?_
  by_cases e:sp.len+sk.len=1
  ·have z:((sp.len+sk.len:Nat):Int)=1:=by omega
   rw[z];refine aj.2 (xz w (D _ _ ⟨?_,rfl⟩));by_cases B:n=0
   ·rw[decide_eq_true (f.1 ⟨by omega,B⟩),B];rfl
   ·rw[decide_eq_false fun h=>B (f.2 h).2]
    exact bne_iff_ne.2 (by omega)
  ·have z:(((sp.len+sk.len:Nat):Int) !=(1:Int))=true:=bne_iff_ne.2 (by omega)
   rw[z];refine ax.2 (D _ _ ⟨?_,rfl⟩);rw[decide_eq_false fun h=>e (by have:=(f.2 h).1;omega)];rfl
 ·rintro _ j ⟨rfl,rfl⟩
  have u:j[h.size]? =some (.cells #[.string HT.1,.string HT.2] ay (0,0)):=b1;by_cases e:l.length=1
  ·rw[decide_eq_true e]
   refine aj.2 ?_;refine ou w s (by omega) fun M Q q k=>?_
   match l,e,c with
   | [p],e,c=>
    have y:=c p rfl;subst y;have o:=q.len;obtain⟨a,J,_,hv⟩:=(q.sl (W:=No) fun _ _ _ h=>h).at (i:=0) (x:=p) rfl
    refine⟨⟨by omega,by simp at o;omega⟩,a,J,p.1,hv 0 _ rfl,p.2,hv 1 _ rfl,?_⟩
    refine zV (p:=p) (k.get0 u) fun C b3 g=>⟨_,vc b3 0,_,vc b3 1,?_⟩
    have:=v C p ((k1.tr k).own g (al _)) fun _=>rfl
    exact this
  ·have:=v
   rw[decide_eq_false e];rw[decide_eq_false e]at v;refine ax.2 (zV (p:=HT) u fun C b3 g=>⟨_,vc b3 0,_,vc b3 1,?_⟩)
   exact v C _ (k1.own g (al _)) fun h=>absurd h e
end Go.Proofs
namespace Go.Proofs
open Go Go.Lift
theorem GM{h:ad}{s:SliceV}{l:List Pr}(f:Sl gC 2 No h s l)(hc:s.len≤s.cap)(n:cB l)(B:l.length≤1000000000)(k:ByteArray)
  {K:SliceV→ad→Prop}(p:∀s' h',OwnS gC 2 ay (fun b=>h.size≤b) h' s' (np k l)→Upd No h h'→K s' h'):HC PG um [.slice s.a s.len s.cap,.string k] [.c .slice] K h:=by
 refine Hw s k ?_;unfold Aw yO;have d:=f.len;refine Fl f n B k fun w a=>?_
 have C:=Nl l k;cases ht:bW l k with
 |false=>
  refine ax.2 (zl (f.upd a fun _ h=>h.elim) (by omega) fun H J y u=>?_)
  rw[uv (xk ht)]at p;exact p _ _ (y.more fun b g=>aX a.size g) (a.tr u)
 |true=>
  obtain⟨E,_⟩:=E1 n ht;have ew:IntKind.wrap .i64 ((l9 l k:Int)+1)=((l9 l k+1:Nat):Int):=by rw[nq (by omega)];omega
  refine aj.2 ?_;simp only;rw[ew];refine⟨by omega,by omega,?_⟩
  simp only[Bd,aE];refine bL ?_;have e:=f.upd a fun _ h=>h.elim
  have t:=Upd.hnew No w [.slice (aW s.a 0 s.cap 2) (l9 l k-0) (s.cap-0),.slice (aW s.a (l9 l k+1) s.cap 2) (s.len-(l9 l k+1)) (s.cap-(l9 l k+1))] gd;have F:=cJ w [.slice (aW s.a 0 s.cap 2) (l9 l k-0) (s.cap-0),.slice (aW s.a (l9 l k+1) s.cap 2) (s.len-(l9 l k+1)) (s.cap-(l9 l k+1))] gd;have A:=EO e (i:=0) (j:=l9 l k) (m:=s.cap) (aV _) C (by omega) (s.cap-0)
  have o:=EO e (i:=l9 l k+1) (j:=l.length) (m:=s.cap) (by omega) (al _) (by omega) (s.cap-(l9 l k+1));rw[←d]at o;rw[List.drop_zero]at A;rw[List.take_of_length_le (by rw[aI];omega)]at o;have D:np k l= [l.take (l9 l k-0),l.drop (l9 l k+1)].flatten:=by rw[←KP k n];unfold L4;rw[if_pos ht];simp
  refine Ek (s:=⟨some (aA w),2,2⟩) (vs:= [⟨aW s.a 0 s.cap 2,l9 l k-0,s.cap-0⟩,⟨aW s.a (l9 l k+1) s.cap 2,s.len-(l9 l k+1),s.cap-(l9 l k+1)⟩]) (ls:= [l.take (l9 l k-0),l.drop (l9 l k+1)])
   ⟨rfl,fun x=>⟨rfl,Nat.one_pos⟩,fun _=>⟨_,rfl,fun h=>h.elim,mH F fun i v hv=>by simpa[Su]using hv⟩⟩ ⟨A.upd t fun _ h=>h.elim,o.upd t fun _ h=>h.elim,trivial⟩ ?_ (by simp) fun G I c q=>?_
  ·simp only[List.flatten_cons,List.flatten_nil,ae,aG,aI,cq];omega
  ·rw[←D]at c
   have z:=a.tr t;exact p _ _ (c.more fun b g=>aX z.size g) (z.tr q)
end Go.Proofs
namespace Go.Proofs
def qX(P a:List UInt8→ByteArray→Prop)(k:List UInt8):Prop:=∀k' v',a k' v'↔k'≠k∧P k' v'
theorem Jh{P:List UInt8→ByteArray→Prop}{k:List UInt8}(h:∀v,¬P k v):qX P P k:=fun k' b=>⟨fun a=>⟨fun e=>h b (e▸a),a⟩,fun h=>h.2⟩
theorem Jg{w:Option ByteArray}{F:Fo}(h:eH F):qX (oK w F) (oK none F) []:=by
 intro k' a;unfold oK;constructor
 ·rintro(⟨_,f⟩|hi)
  ·cases f
  ·exact⟨mO h hi,.inr hi⟩
 ·rintro⟨e,⟨f,_⟩|hi⟩
  ·exact absurd f e
  ·exact .inr hi
theorem Cd{w:Option ByteArray}{F F':Fo}{k:List UInt8}(b:k≠[])(h:qX (nu F) (nu F') k):qX (oK w F) (oK w F') k:=by
 intro k' a;unfold oK;rw[h k' a];constructor
 ·rintro(⟨e,f⟩|hi)
  ·exact⟨fun e'=>b (e'.symm.trans e),.inl ⟨e,f⟩⟩
  ·exact⟨hi.1,.inr hi.2⟩
 ·rintro⟨e,hi|hi⟩
  ·exact .inl hi
  ·exact .inr ⟨e,hi⟩
theorem Ji{lab r:List UInt8}{w w':Option ByteArray}{F F':Fo}(h:qX (oK w F) (oK w' F') r):qX (qk (lab,w,F)) (qk (lab,w',F')) (lab++r):=by
 intro k' c;constructor
 ·rintro⟨s,e,a⟩
  obtain⟨b,d⟩:=(h s c).1 a;exact⟨fun e'=>b (dX (e.symm.trans e')),s,e,d⟩
 ·rintro⟨b,s,e,a⟩
  exact⟨s,e,(h s c).2 ⟨fun e'=>b (by rw[e,e']),a⟩⟩
theorem L2{F:Fo}{i:Nat}{m:Bn}{k:List UInt8}(h:eH F)(hi:i<F.toL.length)(ek:hd F.toL[i].1=hd k)(f:qX (qk F.toL[i]) (qk m) k):qX (nu F) (nu (.ofL (F.toL.set i m))) k:=by
 intro k' g;have hc:=dS.1 h;rw[fc,fc,Fo.to_of];constructor
 ·rintro⟨n,a,b⟩
  rcases(ki hi (su h hi)).1 a with rfl|⟨a,d⟩
  ·obtain⟨c,j⟩:=(f k' g).1 b
   exact⟨c,_,aP hi,j⟩
  ·refine⟨fun e=>d ?_,n,a,b⟩
   obtain⟨r,e',_⟩:=b;refine uY h a (aP hi) ?_;rw[ek,←e,e',mP (hc.2 n a).1]
 ·rintro⟨c,n,a,b⟩
  by_cases e:n=F.toL[i]
  ·exact⟨m,(ki hi (su h hi)).2 (.inl rfl),(f k' g).2 ⟨c,by rw[←e];exact b⟩⟩
  ·exact⟨n,(ki hi (su h hi)).2 (.inr ⟨a,e⟩),b⟩
theorem zZ{α:Type}{l:List α}{i:Nat}(hi:i<l.length){x:α}(d:∀j (a:j<l.length),j≠i→l[j]≠l[i]):x∈l.take i++l.drop (i+1)↔x∈l∧x≠l[i]:=by
 constructor
 ·intro h
  rcases cd.1 h with h|h
  ·obtain⟨j,a,e⟩:=cj h
   rw[aG]at a;rw[ng]at e;exact⟨gi h,by rw[←e];exact d j (by omega) (by omega)⟩
  ·obtain⟨j,a,e⟩:=cj h
   rw[aI]at a;rw[nh]at e;exact⟨List.mem_of_mem_drop h,by rw[←e];exact d (i+1+j) (by omega) (by omega)⟩
 ·rintro⟨h,b⟩
  obtain⟨j,a,e⟩:=cj h;rcases Nat.lt_trichotomy j i with c|c|c
  ·exact cd.2 (.inl (lD (i:=j) (h:=by rw[aG];omega) (by rw[ng];exact e)))
  ·subst c;exact absurd e.symm b
  ·refine cd.2 (.inr (lD (i:=j-(i+1)) (h:=by rw[aI];omega) ?_))
   rw[nh];have:i+1+(j-(i+1))=j:=by omega
   simp only[this];exact e
theorem PL{F:Fo}{i:Nat}(h:eH F):eH (.ofL (F.toL.take i++F.toL.drop (i+1))):=by
 have hc:=dS.1 h;rw[dS,Fo.to_of];have a:(F.toL.take i++F.toL.drop (i+1)).Sublist F.toL:=by rw[←List.eraseIdx_eq_take_drop_succ];exact List.eraseIdx_sublist ..
 exact⟨hc.1.sublist a,fun n b=>hc.2 n (a.subset b)⟩
theorem L3{F:Fo}{i:Nat}{k:List UInt8}(h:eH F)(hi:i<F.toL.length)(ek:hd F.toL[i].1=hd k)(g:∀k' d,qk F.toL[i] k' d→k'=k):qX (nu F) (nu (.ofL (F.toL.take i++F.toL.drop (i+1)))) k:=by
 intro k' d;have hc:=dS.1 h;rw[fc,fc,Fo.to_of];constructor
 ·rintro⟨n,a,b⟩
  obtain⟨a,c⟩:=(zZ hi (su h hi)).1 a;refine⟨fun e=>c ?_,n,a,b⟩
  obtain⟨r,e',_⟩:=b;refine uY h a (aP hi) ?_;rw[ek,←e,e',mP (hc.2 n a).1]
 ·rintro⟨f,n,a,b⟩
  by_cases e:n=F.toL[i]
  ·exact absurd (g k' d (by rw[←e];exact b)) f
  ·exact⟨n,(zZ hi (su h hi)).2 ⟨a,e⟩,b⟩
def PR(n:Bn)(o:Option Bn):Prop:=(o=none∧∀k v,¬qk n k v)∨∃m,o=some m∧HK m∧hd m.1=hd n.1∧∀k v,qk m k v↔qk n k v
theorem LQ{lab:List UInt8}{w:Option ByteArray}{F:Fo}(a:lab≠[])(hc:eH F)(h:w.isSome∨2≤F.toL.length):PR (lab,w,F) (some (lab,w,F)):=.inr ⟨_,rfl,⟨a,h,hc⟩,rfl,fun _ _=>sZ⟩
theorem LR{lab:List UInt8}{F:Fo}(h:F.toL= []):PR (lab,none,F) none:=by
 refine .inl ⟨rfl,fun k v hi=>?_⟩
 obtain⟨r,_,⟨_,b⟩|b⟩:=hi
 ·cases b
 ·obtain⟨n,a,_⟩:=fc.1 b
  simp only at a;rw[h]at a;cases a
theorem Nv{lab lk:List UInt8}{a:Option ByteArray}{F Fk:Fo}(c:lab≠[])(hc:eH F)(h:F.toL= [(lk,a,Fk)]):PR (lab,none,F) (some (lab++lk,a,Fk)):=by
 have d:F=.cons lk a Fk .nil:=by
  rw[←Fo.of_to F,h];rfl
 have b:=(dS.1 hc).2 (lk,a,Fk) (by rw[h];exact aq.2 rfl);refine .inr ⟨_,rfl,⟨fun e=>c (fE.1 e).1,b.2.1,b.2.2⟩,mP c,fun k v=>?_⟩
 have:=D8 (lab:=lab++lk) (w:=a) (F:=Fk) lab.length k v;rw[List.take_left,gj]at this;rw[d];exact this.symm
end Go.Proofs
namespace Go.Proofs
open Go Go.Lift
theorem kN(s:ByteArray):s.data.toList.length=s.size:=by simp
theorem Ol(a b:ByteArray):(a++b).data.toList=a.data.toList++b.data.toList:=by rw[ByteArray.data_append,Array.toList_append]
theorem LI{a b:ByteArray}{h:ad}{K:Bool→ad→Prop}(c:K (decide (b.data.toList<+:a.data.toList)) h):HC PG rh [.string a,.string b] [.c .bool] K h:=by
 refine Db a b ?_;unfold vJ jO;refine zx a b ?_;unfold rQ jO;refine oF a b ?_;unfold jg;have j:=kN a;have f:=kN b;refine aH (fun d=>?_) fun i=>?_
 ·refine⟨⟨by omega,by omega⟩,?_⟩
  rw[iU,aE];have e:decide (a.extract 0 b.size=b)=decide (b.data.toList<+:a.data.toList):=by
   rw[decide_eq_decide,←pT,xN,List.prefix_iff_eq_take,f];exact eq_comm
  rw[e];exact c
 ·have e:decide (b.data.toList<+:a.data.toList)=false:=decide_eq_false fun g=>by
   have:=g.length_le;omega
  rw[e]at c;exact c
theorem Q2{a b:ByteArray}{h:ad}{K:ByteArray×Bool→ad→Prop}(d:∀s:ByteArray,a.data.toList=b.data.toList++s.data.toList→K (s,true) h)(i:(∀r,a.data.toList≠b.data.toList++r)→K (⟨#[]⟩,false) h):HC PG wz [.string a,.string b] [.c .str,.c .bool] K h:=by
 refine JA a b ?_;unfold Cx jO;refine LI ?_;have j:=kN a;have g:=kN b;by_cases c:b.data.toList<+:a.data.toList
 ·rw[decide_eq_true c]
  have f:=c.length_le;refine aj.2 ⟨⟨by omega,by omega⟩,?_⟩
  rw[aE];refine d _ ?_;rw[xO];obtain⟨r,e⟩:=c;rw[←e,←g,gj]
 ·rw[decide_eq_false c]
  exact ax.2 (i fun r e=>c ⟨r,e.symm⟩)
end Go.Proofs
