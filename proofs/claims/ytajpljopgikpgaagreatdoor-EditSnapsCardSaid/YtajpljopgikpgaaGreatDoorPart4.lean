/- A part of the proof that the named laws of this program answer true, whatever the input. -/
import Derived.Test.YtajpljopgikpgaaGreatDoorPart3
import Derived.Test.YtajpljopgikpgaaGreatDoorPart2
open Array renaming toList_inj→gc
open ByteArray renaming mk→iJ
open Iff renaming rfl→tO
open Int renaming toNat_natCast→aM
open List renaming mem_append→bN,mem_of_mem_take→gK,mem_cons→aq,getElem_of_mem→cD,getElem?_eq_getElem→ag,getElem_mem→aW,length→f8,length_drop→aJ,length_nil→cR,mem_singleton→aj,append_eq_nil_iff→eO,take_length→cV,take_append_drop→bF,length_take→aN,append_cancel_left→eD,mem_of_getElem?→aw,getElem?_set→dT,mem_map→rM,pairwise_append→cL,mem_cons_self→ay,pairwise_cons→bw,lt_irrefl→pj,mem_cons_of_mem→aQ,length_append→ae,length_map→fS,length_cons→aO,length_singleton→bq,append_nil→bV,flatMap_cons→aL,append_assoc→ak,cons_append→dt,cons→hP,range_succ→eZ,flatMap_append→bv,filter_eq_self→gV,any_eq_true→bO,mem_range→gj,mem_of_getElem→kB,drop_left→gk
open List.Pairwise renaming nil→fO
open Nat renaming le_refl→au,lt_or_ge→bM,lt_of_lt_of_le→bI,add_mul→lI,le_trans→bB,zero_le→bp,zero_add→aD,zero_testBit→eA
open Option renaming map_eq_some_iff→iI
open Prod renaming mk→p8
namespace Go.Proofs
open Go Go.Lift
theorem KidO.move{o:Option Addr}{W W' M:Nat→Prop}{h c:ad}(k:Upd M h c){a:Option Addr}{n:Bn}{S:Nat→Prop}(r:KidO o W h a n S)(d:∀y,S y→y<h.size)(hm:∀y,M y→(W y∧¬S y)∨h.size≤y)(e:∀y,W' y→W y∨h.size≤y):KidO o W' c a n S:=
 ((r.less (W':=fun y=>W y∨h.size≤y) fun y b=>b).upd k d fun y b=>(hm y b).imp (fun h=>⟨.inl h.1,h.2⟩) id).less fun y b=>.inl (e y b)
theorem xu{o ow:Option Addr}{W S M:Nat→Prop}{h f:ad}{b:Nat}{s:SliceV}{ks:List (Option Addr)}{Us Us':List (Nat→Prop)}
  (g:(OwOk W h ow∧(¬W b)∧Sl kC 1 W h s ks∧∀y,¬S y)∨(o.isSome=true∧ow=o∧∃A:Nat→Prop,OwnS kC 1 aH A h s ks∧(∀y,A y→S y∧y≠b∧y<h.size)∧S b∧∀U∈Us,∀y,U y→¬A y∧y≠b))
  (B:b<h.size)(m:Upd M h f)(hM:∀y,M y→S y∧∃U∈Us,U y)(p:∀U∈Us',∀y,U y→((∃V∈Us,V y)∨h.size≤y)∧y<f.size):
  (OwOk W f ow∧Sl kC 1 No f s ks∧(∀U∈Us',∀y,U y→y<f.size))∨(o.isSome=true∧ow=o∧∃A:Nat→Prop,OwnS kC 1 aH A f s ks∧(∀y,A y→S y∧y≠b∧y<f.size)∧S b∧∀U∈Us',∀y,U y→¬A y∧y≠b):=by
 have z:=m.size;rcases g with⟨n,_,q,k⟩|⟨e,w,A,x,d,i,j⟩
 ·exact .inl ⟨n.upd m fun y a=>absurd (hM y a).1 (k y),(q.upd m fun y a=>absurd (hM y a).1 (k y)).less fun _ h=>h.elim,fun U c y a=>(p U c y a).2⟩
 ·refine .inr ⟨e,w,A,x.upd m fun y a hm=>?_,fun y a=>⟨(d y a).1,(d y a).2.1,by have:=(d y a).2.2;omega⟩,i,fun U c y a=>?_⟩
  ·obtain⟨_,U,c,u⟩:=hM y hm
   exact(j U c y u).1 a
  ·rcases(p U c y a).1 with⟨V,t,hv⟩|h
   ·exact j V t y hv
   ·exact⟨fun v=>by have:=(d y v).2.2;omega,by omega⟩
set_option maxHeartbeats 4000000 in
theorem Ie{w' o:Option Addr}:∀(n:Nat) {W S:Nat→Prop} {b:Nat} {sl:ByteArray} {w:Option ByteArray} {F:Fo} {h:ad} (k v:ByteArray),k.size<n→k.size≤1000000→RxO o W h b sl w F S→By h w' o→(∀y,W y→y<h.size)→(∀y,S y→W y)→(∀a,o=some a→W a.block)→(∀a,w'=some a→¬S a.block)→dW F→∀{K:(Option Addr)×Bool×Bool→ad→Prop},
  (∀O q w2 F2 S2 D ch,Upd S h O→RxO o (fun y=>W y∨S2 y) O q sl w2 F2 S2→(∀y,S2 y→(S y∨h.size≤y)∧y<O.size)→dW F2→qp (nF w F) (nF w2 F2) k.data.toList v→(ch=false→q=b∧w2=w∧F2=F∧Upd No h O∧nF w F k.data.toList v)→(nF w F k.data.toList v→ch=false)→K (some ⟨q,0,none⟩,D,ch) O)→
  HC PG jS [.pointer (some ⟨b,0,none⟩),.pointer w',.string k,.string v] [.c .ptr,.c .bool,.c .bool] K h:=by
 intro n;induction n with
 |zero=>intro W S b sl w F h k v hk;omega
 |succ n ih=>
  intro W S b sl w F h k v hkn hk6 r t hW E hWo hwS hc K hk;refine xT (some ⟨b,0,none⟩) w' k v ?_;unfold qQ dC fH cG bL qz y9 c8 rO Jy ip CR CQ MD;have hr:=r;have hno:o=none→∀y,¬S y:=fun e=>by subst e;exact r.off.2
  obtain⟨val,s,ow,ks,Us,hb,hv,hs,hL,hUS,hPD,hown⟩:=r.view;have hn:=iE hc;have hcan:=dx.1 hc;have hSb:∀y,S y→y<h.size:=fun y d=>hW y (E y d)
  have N:∀U∈Us,∀y,U y→y<h.size:=fun U G y d=>hSb y (hUS U G y d)
  have zb:=aF hb;have own2:=fun{B:ad} {M:Nat→Prop} (ku:Upd M h B) (hM:∀y,M y→S y∧∃U∈Us,U y) (Us':List (Nat→Prop)) (G:∀U∈Us',∀y,U y→((∃V∈Us,V y)∨h.size≤y)∧y<B.size)=>xu (Us':=Us') hown zb ku hM G
  have hUh:∀{B:ad},h.size≤B.size→∀U∈Us,∀y,U y→((∃V∈Us,V y)∨h.size≤y)∧y<B.size:=fun z U G y d=>⟨.inl ⟨U,G,d⟩,by have:=N U G y d;omega⟩
  have hno':∀{A X:Nat→Prop} {bb bx:Nat} {T:List (Nat→Prop)},(∀y,A y→S y∨h.size≤y)→(S bb∨h.size≤bb)→o=none→(∀y,A y→¬(W y∨SR o bx X T y))∧¬(W bb∨SR o bx X T bb):=fun{A X bb bx T} hA hb e=>by
   have no:∀y,(S y∨h.size≤y)→¬(W y∨SR o bx X T y):=fun y d hw=>by
    rcases hw with hw|⟨hw,_⟩
    ·rcases d with h|h
     ·exact hno e y h
     ·have:=hW y hw;omega
    ·rw[e]at hw;cases hw
   exact⟨fun y d=>no y (hA y d),no _ hb⟩
  rw[kM];refine bj (fun hk0=>?_) fun hk0=>?_
  ·have hke:k.data.toList= []:=by rw[hk0]
   rw[hke]at hk;refine Join.intro (fun t O=>t=decide (w=some v)∧O=h) (fun R hR=>⟨_,rfl,w.isSome,cF (i:=1) hb,?_⟩) ?_
   ·cases hw:w with
    |none=>exact ah.2 (hR _ _ ⟨by rw[hw];rfl,rfl⟩)
    |some u=>
     refine az.2 ⟨_,rfl,val,cF (i:=2) hb,hR _ _ ⟨?_,rfl⟩⟩;rw[kM,vw hv u hw,hw];exact decide_eq_decide.2 ⟨fun e=>by rw[e],fun e=>Option.some.inj e⟩
   ·rintro t' O ⟨rfl,rfl⟩
    refine bj (fun e=>?_) fun e=>?_
    ·refine hk O b w F S false false (Upd.refl _ _) (hr.less fun y d=>.inl (d.elim id (E y))) (fun y d=>⟨.inl d,hSb y d⟩) hc ?_ (fun _=>⟨rfl,rfl,rfl,Upd.refl _ _,.inl ⟨rfl,e⟩⟩) fun _=>rfl
     rw[e];exact Cg hc v
    ·have fin:∀{h1 B:ad} {q:Nat} {s1:SliceV} {A1:Nat→Prop},OwnS kC 1 aH A1 h1 s1 ks→(∀y,A1 y→(S y∨O.size≤y)∧y≠q∧y<h1.size)→(S q∨O.size≤q)→(∀U∈Us,∀y,U y→¬A1 y∧y≠q)→Upd No O h1→B[q]? =some (.cells (tB sl true v s1 o) aU (0,0))→Upd (· =q) h1 B→∀D,K (some ⟨q,0,none⟩,D,true) B:=fun{h1 B q s1 A1} hA1 f g P p b2 C D=>by
      have z1:=p.size;have z2:=C.size;have zb':=aF b2;have u02:Upd (· =q) O B:=p.wide.tr C
      have hSR:∀y,SR o q A1 Us y→(S y∨O.size≤y)∧y<B.size:=fun y d=>vl g zb' (fun y d=>⟨(f y d).1,by have:=(f y d).2.2;omega⟩) (fun U G y d=>⟨.inl (hUS U G y d),by have:=N U G y d;omega⟩) d
      refine hk B q (some v) F (SR o q A1 Us) D true (u02.mono fun y d=>by have d:y=q:=d;rw[d];exact g) (sE b2 rfl (hA1.upd C fun y d=>(f y d).2.1) (fun y d=>⟨(f y d).2.1,by have:=(f y d).2.2;omega⟩) P hPD (hL.move u02 N (fun y d=>?_) fun y d=>d.elim .inl fun h=>(hSR y h).1.imp (E y) id) (hno' (fun y d=>(f y d).1) g)) hSR hc (Cg hc v) (fun h=>by cases h) fun J=>?_
      ·have d:y=q:=d
       subst d;exact g.imp (fun h=>⟨E y h,fun U G hu=>(P U G y hu).2 rfl⟩) id
      ·rcases J with⟨_,h⟩|h
       ·exact absurd h e
       ·exact absurd rfl (lS hc h)
     have ow0:=own2 (Upd.refl No O) (fun _ h=>h.elim) Us (hUh (au _))
     refine⟨_,rfl,?_,w.isSome,cF (i:=1) hb,?_⟩
     ·refine iX (S:=S) (Us:=Us) t hWo hb (by rw[hL.1];exact hn) ow0 fun h1 q s1 A1 b1 hA1 f g P p=>⟨?_,w.isSome,cF (i:=1) (p.get0 hb),?_⟩
      ·refine pm b1 fun B b2 C=>?_
       have hb2:∃val2,aG B (adr ⟨b,0,none⟩ 1)=some (.bool val2):=by
        by_cases e2:b=q
        ·rw[e2];exact⟨_,cF (i:=1) b2⟩
        ·exact⟨_,cF (i:=1) ((p.wide.tr C).get hb e2)⟩
       obtain⟨v2,hv2⟩:=hb2;exact⟨v2,hv2,fin hA1 f g P p b2 C _⟩
      ·exact pm b1 fun B b2 C=>fin hA1 f g P p b2 C _
     ·exact iX (S:=S) (Us:=Us) t hWo hb (by rw[hL.1];exact hn) ow0 fun h1 q s1 A1 b1 hA1 f g P p=>pm b1 fun B b2 C=>fin hA1 f g P p b2 C _
  ·have L:k.data.toList≠[]:=fun e=>hk0 (by cases k;exact congrArg iJ (gc.1 e))
   obtain⟨c0,hc0,hc0e⟩:=Az L;refine⟨c0,Int.le_refl _,hc0,?_⟩;have hlk:k.data.toList.length=k.size:=by simp
   refine B7 (hr.read t) hc (c:=c0.toNat) (UInt8.toNat_lt _) fun i ok hil hlo hhi hok=>?_
   rw[hc0e]at hlo hhi hok;cases ok with
   |false=>
    have hno2:∀hi:i<F.toL.length,hd F.toL[i].1≠hd k.data.toList:=fun hi e=>by have:=hok.2 ⟨hi,e⟩;cases this
    have hhi':∀j (hj:j<F.toL.length),i≤j→hd k.data.toList<hd F.toL[j].1:=fun j hj hij=>by
     have h1:=hhi j hj hij;rcases bM i j with hl|hl
     ·have B:=List.pairwise_iff_getElem.1 hcan.1 i j (by omega) hj hl
      have h3:=hhi i (by omega) (au _);omega
     ·have:i=j:=by omega
      subst this;have:=hno2 hj;omega
    obtain⟨hc',hp'⟩:=It (v:=v) hc L hlo hhi';refine az.2 ?_;refine iX (S:=S) (Us:=Us) t hWo hb (by rw[hL.1];exact hn) (own2 (Upd.refl No h) (fun _ h=>h.elim) Us (hUh (au _))) fun h1 q s1 A1 b1 hA1 f g P p=>?_
    refine⟨_,rfl,s1,cF (i:=3) b1,?_⟩;refine El (t.upd0 p) fun B fb fs Af fb2 hAf hAfs hfb C=>⟨cF (i:=3) (C.get0 b1),bK ?_⟩
    have k3:=Upd.hnew No B [.pointer (some ⟨fb,0,none⟩)] aH;have b3:=cu B [.pointer (some ⟨fb,0,none⟩)] aH;have z3:(hnew B [.pointer (some ⟨fb,0,none⟩)] aH).size=B.size+1:=jP ..;simp only[fy B];generalize hnew B [.pointer (some ⟨fb,0,none⟩)] aH=h3 at k3 b3 z3;have hu13:=C.tr k3;refine⟨cF (i:=3) (hu13.get0 b1),?_⟩;have z01:=p.size
    have z1:=aF b1;have z2:=C.size;have zf:=aF fb2;have ho3:=(hA1.upd hu13 fun _ _ h=>h).more (M':=fun x=>A1 x∨h3.size≤x) fun x hx=>.inl hx
    refine Gr ho3 (k:=i) (by rw[hL.1];exact hil) (by rw[hL.1];omega) b3 (fun h=>h.elim (fun h=>by have:=(f _ h).2.2;omega) fun h=>by omega) (fun x hx=>.inr hx) fun s4 h4 ho4 hu4=>?_
    have b4:=hu4.get (hu13.get0 b1) (fun h=>h.elim (fun h=>(f _ h).2.1 rfl) fun h=>by omega)
    have f4:=hu4.get (k3.get0 fb2) (fun h=>h.elim (fun h=>by have:=(f _ h).2.2;omega) fun h=>by omega)
    refine⟨_,rfl,JP (i:=3) b4 (show 3<5 by decide),Ac (i:=3) (c':=tB sl w.isSome val s4 o) b4 rfl fun h5 b5 hu5=>?_⟩
    have z4:=hu4.size;have z5:=hu5.size;have u05:Upd (fun y=>y=q∨A1 y) h h5:=((p.tr hu13).wide.trans hu4 fun x hx=>hx.imp .inr fun h=>by omega).trans hu5 fun x hx=>.inl (.inl hx)
    have ho5:=ho4.within.upd hu5 fun x hx e=>by
     have e:x=q:=e;subst e;rcases hx.1 with h|h
     ·exact(f _ h).2.1 rfl
     ·omega
    have nfb:¬fb=q:=by omega
    have f5:=hu5.get f4 nfb;have hAf5:=((hAf.upd k3 fun _ _ h=>h).upd hu4 (fun y d h=>by
     have:=hAfs y d
     rcases h with h|h
     ·have:=(f y h).2.2;omega
     ·omega)).upd hu5 fun y d e=>by
      have e:y=q:=e;have:=hAfs y d;omega
    have hSf:∀y,SR o fb Af [] y→h1.size≤y∧y<B.size:=fun y d=>by
     rcases d.2 with rfl|h|⟨U,G,_⟩
     ·exact⟨hfb,zf⟩
     ·have:=hAfs y h;omega
     ·cases G
    have hmem:∀U∈Us.take i++SR o fb Af []::Us.drop i,U∈Us∨U=SR o fb Af []:=fun U G=>by
     rcases bN.1 G with h|h
     ·exact .inl (gK h)
     ·rcases aq.1 h with h|h
      ·exact .inr h
      ·exact .inl (List.mem_of_mem_drop h)
    have hA5:∀y,((A1 y∨h3.size≤y)∧y<h4.size)→(S y∨h.size≤y)∧y≠q∧y<h5.size:=fun y d=>by
     rcases d.1 with h|h
     ·exact⟨(f y h).1,(f y h).2.1,by omega⟩
     ·exact⟨.inr (by omega),by omega,by omega⟩
    have hS2:∀y,SR o q (fun y=>(A1 y∨h3.size≤y)∧y<h4.size) (Us.take i++SR o fb Af []::Us.drop i) y→(S y∨h.size≤y)∧y<h5.size:=fun y d=>vl g (aF b5) (fun y d=>⟨(hA5 y d).1,(hA5 y d).2.2⟩) (fun U G y d=>by
     rcases hmem U G with h|rfl
     ·exact⟨.inl (hUS U h y d),by have:=N U h y d;omega⟩
     ·have:=hSf y d;exact⟨.inr (by omega),by omega⟩) d
    refine hk h5 q w _ (SR o q (fun y=>(A1 y∨h3.size≤y)∧y<h4.size) (Us.take i++SR o fb Af []::Us.drop i)) true true (u05.mono fun y d=>?_) (sE b5 hv ho5 (fun y d=>(hA5 y d).2) (fun U G y d=>?_) (MX hPD (by rw[hL.2.1];exact hil) fun U G y d hu=>?_) (by
     rw[Fo.to_of]
     refine(hL.move u05 N (fun y d=>?_) fun y d=>d.elim .inl fun h=>(hS2 y h).1.imp (E y) id).ins hil ⟨fb,k,rfl,rfl,NX f5 hAf5 (fun y d=>?_) (hno' (fun y d=>.inr ?_) (.inr (by omega)))⟩
     ·rcases d with rfl|h
      ·exact g.imp (fun h=>⟨E _ h,fun U G hu=>(P U G _ hu).2 rfl⟩) id
      ·exact(f y h).1.imp (fun hs=>⟨E y hs,fun U G hu=>(P U G y hu).1 h⟩) id
     ·have:=hAfs y d;exact⟨this.2.1,by omega⟩
     ·have:=hAfs y d;omega) (hno' (fun y d=>(hA5 y d).1) g)) hS2 hc' (xt L hp') (fun h=>by cases h) fun J=>?_
    ·rcases d with rfl|h
     ·exact g
     ·exact(f y h).1
    ·rcases hmem U G with h|rfl
     ·have:=P U h y d
      have B:=N U h y d;exact⟨fun h=>h.1.elim this.1 fun h=>by omega,this.2⟩
     ·have:=hSf y d
      exact⟨fun h=>h.1.elim (fun h=>by have:=(f y h).2.2;omega) fun h=>by omega,by omega⟩
    ·have:=hSf y d;have:=N U G y hu;omega
    ·rcases J with⟨h,_⟩|J
     ·exact absurd h L
     ·obtain⟨n',hn',e,_⟩:=nC hc J
      obtain⟨j,hj,rfl⟩:=cD hn';rcases bM j i with hl|hl
      ·have:=hlo j hj hl;omega
      ·have:=hhi' j hj hl;omega
   |true=>
    obtain⟨hi,hie⟩:=hok.1 rfl;refine ah.2 ⟨_,rfl,s,cF (i:=3) hb,?_⟩;have hki0:i<ks.length:=by rw[hL.1];exact hi
    have hUi0:i<Us.length:=by rw[hL.2.1];exact hi
    obtain⟨kb,ksl,hke,Q,hkn⟩:=hL.2.2 i _ _ _ (ag hki0) (ag hi) (ag hUi0);have hki:ks[i]? =some (some ⟨kb,0,none⟩):=by rw[ag hki0,hke]
    have hUie:Us[i]? =some Us[i]:=ag hUi0;have hUim:Us[i]∈Us:=aW hUi0;have hmem:F.toL[i]∈F.toL:=aW hi;have Y:=hcan.2 _ hmem;obtain⟨a,ha,_,hvv⟩:=hs.at0 hki;have hslen:=hs.len;rw[hL.1]at hslen;have hlt1:(i:Int)<((s.len:Nat):Int):=by omega
    refine⟨⟨by simp only;omega,hlt1⟩,a,ha,some ⟨kb,0,none⟩,hvv,_,rfl,?_⟩;obtain⟨kval,kss,kow,kks,kUs,hkb,_⟩:=hkn.view;refine⟨ksl,cF (i:=0) hkb,IU hk6 ?_⟩;rw[Q];have hc1:=Nn L Y.1 hie.symm;have hcle:=Mw k.data.toList F.toL[i].1;have hct:=HM k.data.toList F.toL[i].1;have hcd:=HN k.data.toList F.toL[i].1;have hll:ksl.size=F.toL[i].1.length:=by rw[←Q];simp
    have hin_m:m0 F k.data.toList v→qq F.toL[i] k.data.toList v:=fun J=>by
     obtain⟨n',hn',e,hN⟩:=nC hc J;rw[←tK hc hn' hmem (by omega)];exact hN
    have hin_f:qq F.toL[i] k.data.toList v→m0 F k.data.toList v:=fun J=>ee.2 ⟨_,hmem,J⟩
    have hset:∀{w2:Option ByteArray} {F2:Fo} {nl:List UInt8},nl≠[]→hd nl=hd F.toL[i].1→dW F2→Br (nF w2 F2)→dW (.ofL (F.toL.set i (nl,w2,F2))):=fun h1 B h3 h4=>HO hc hi ⟨h1,(DE h3).2 h4,h3⟩ B
    have hputs:∀{m:Bn},qp (qq F.toL[i]) (qq m) k.data.toList v→qp (m0 F) (m0 (.ofL (F.toL.set i m))) k.data.toList v:=fun hp=>Ev hc hi hie hp
    have hsame:qp (qq F.toL[i]) (qq F.toL[i]) k.data.toList v→qp (m0 F) (m0 F) k.data.toList v:=Ir hc hi hie;have I:∀y,Us[i] y→S y:=hUS _ hUim;have hUib:∀y,Us[i] y→y<h.size:=N _ hUim;have hUid:∀j U,j≠i→Us[j]? =some U→Dj Us[i] U:=fun j U hj eU=>hPD i j _ _ (Ne.symm hj) hUie eU
    have nUb:¬Us[i] b:=fun hu=>by
     rcases hown with⟨_,_,_,hS0⟩|⟨_,_,A,_,_,_,hUA⟩
     ·exact hS0 _ (I _ hu)
     ·exact(hUA _ hUim b hu).2 rfl
    generalize F.toL[i]=m at Q hkn Y hc1 hcle hct hcd hll hin_m hin_f hset hputs hsame hie;generalize Us[i]=Ui at hkn hUie hUim I hUib hUid nUb;generalize hcc:cm k.data.toList m.1=c at hc1 hcle hct hcd;obtain⟨lab,wk,Fk⟩:=m;simp only at Q hkn Y hcle hct hcd hll hie hset;refine Join.intro (fun t O=>∃ub Z wu Fu SU,t=some ⟨ub,0,none⟩∧Upd Ui h O∧RxO o (fun y=>W y∨SU y) O ub Z wu Fu SU∧(∀y,SU y→(Ui y∨h.size≤y)∧y<O.size)∧dW Fu∧Z.data.toList=k.data.toList.take c∧(∀k' v',qq (Z.data.toList,wu,Fu) k' v'↔qq (lab,wk,Fk) k' v')∧(∀w' F',dW F'→qp (nF wu Fu) (nF w' F') (k.data.toList.drop c) v→Br (nF w' F'))∧(Upd No h O∨¬nF wu Fu (k.data.toList.drop c) v)) (fun R hR=>⟨_,rfl,ksl,cF (i:=0) hkb,?_⟩) ?_
    ·refine bj (fun hlt=>?_) fun hge=>?_
     ·have hlt:c<lab.length:=by omega
      have hdne:lab.drop c≠[]:=fun e=>by
       have:=congrArg f8 e;rw[aJ,cR]at this;omega
      have hhd:k.data.toList.drop c≠[]→hd (k.data.toList.drop c)≠hd (lab.drop c):=fun hne=>by
       refine hcd ?_ hlt;rcases bM c k.data.toList.length with hl|hl
       ·exact hl
       ·exact absurd (List.drop_eq_nil_of_le hl) hne
      have hcs:dW (.cons (ksl.data.toList.drop c) wk Fk .nil):=by
       rw[Q];exact⟨hdne,Y.2.1,Y.2.2,fun _ h=>by simp[Fo.toL]at h,trivial⟩
      refine Ek hkn t hW (fun y d=>E y (I y d)) hWo (iE Y.2.2) (c:=c) (by omega) fun h1 ub SU rn hSU p=>hR _ _ ⟨ub,_,none,_,SU,rfl,p,rn,hSU,hcs,?_,?_,?_,.inr ?_⟩
      ·rw[AD,Q,hct]
      ·intro k' v'
       rw[AD,Q];exact Cs c k' v'
      ·intro w' F' hcF hp
       rw[Q]at hp;exact K4 hdne Y.2.1 Y.2.2 hhd hp
      ·rintro(⟨_,h⟩|J)
       ·cases h
       ·obtain⟨n',hn',e,r',er,_⟩:=nC hcs J
        rw[Q]at hn';simp only[Fo.toL,aj]at hn';subst hn';refine hhd (fun e2=>hdne ?_) e.symm
        rw[e2]at er;exact(eO.1 er.symm).1
     ·have hce:c=lab.length:=by omega
      refine hR _ _ ⟨kb,ksl,wk,Fk,Ui,rfl,Upd.refl _ _,hkn.less fun y d=>.inl (d.elim id fun h=>E y (I y h)),fun y d=>⟨.inl d,hUib y d⟩,Y.2.2,?_,?_,?_,.inl (Upd.refl _ _)⟩
      ·rw[Q,hct,hce,cV]
      ·intro k' v';rw[Q]
      ·intro w' F' hcF hp
       exact L8 ((DE Y.2.2).1 Y.2.1) hp
    ·rintro t' h1 ⟨ub,Z,wu,Fu,SU,rfl,p,rn,hSU,hcu,hsl,hinn,hbr,hsp⟩
     refine⟨⟨by omega,by omega⟩,?_⟩
     rw[aM];have hkd:(k.extract c k.size).data.toList=k.data.toList.drop c:=AE ..;have hks:(k.extract c k.size).size=k.size-c:=by simp
     have hktd:k.data.toList=Z.data.toList++k.data.toList.drop c:=by rw[hsl,bF]
     have hslne:Z.data.toList≠[]:=by
      rw[hsl];intro e;have:=congrArg f8 e;rw[aN,cR]at this;omega
     have hslhd:hd Z.data.toList=hd lab:=by
      rw[hie];conv=>rhs;rw[hktd]
      rw[mJ hslne]
     have z01:=p.size;have tU:∀{M:Nat→Prop} {O:ad},Upd M h O→(∀y,M y→Ui y)→By O w' o:=fun ku hM=>t.upd ku fun b e d=>absurd (I _ (hM _ d)) (hwS _ e)
     refine ih (W:=fun y=>W y∨SU y) (S:=SU) (k.extract c k.size) v (by rw[hks];omega) (by rw[hks];omega) rn (tU p fun _ h=>h) (fun y d=>d.elim (fun h=>bI (hW y h) z01) fun h=>(hSU y h).2) (fun y d=>.inr d) (fun a e=>.inl (hWo a e)) (fun a e d=>?_) hcu fun B b2 w2 F2 SV D ch C rn2 hSV hc2 hp2 hsm hch=>?_
     ·rcases(hSU _ d).1 with h|h
      ·exact hwS a e (I _ h)
      ·have:=t.lt e;omega
     rw[hkd]at hp2 hch hsm;have z12:=C.size;have hpn:qp (qq (lab,wk,Fk)) (qq (Z.data.toList,w2,F2)) k.data.toList v:=by
      have:=JV (Is (lab:=Z.data.toList) hp2) hinn;rw[←hktd]at this;exact this
     have hchg:nF w F k.data.toList v→ch=false:=fun J=>by
      rcases J with⟨h,_⟩|J
      ·exact absurd h L
      ·obtain⟨r,e,hr'⟩:=(hinn _ _).2 (hin_m J)
       simp only at e;rw[hktd]at e;have e2:=eD e;rw[←hktd]at e;exact hch (by rw[e2];exact hr')
     cases ch with
     |false=>
      obtain⟨_,e2,e3,hu20,hin2⟩:=hsm rfl;subst e2 e3;rcases hsp with u01|hn2
      ·have hu02:=u01.tr hu20
       have hsz:=hu02.size;refine az.2 (hk B b w F S false false hu02.wide ((hr.upd0 hu02).less fun y d=>.inl (d.elim id (E y))) (fun y d=>⟨.inl d,by have:=hSb y d;omega⟩) hc (xt L (hsame ?_)) (fun _=>⟨rfl,rfl,rfl,hu02,.inr (hin_f ((hinn _ _).1 ⟨_,hktd,hin2⟩))⟩) fun _=>rfl)
       intro k' v';exact(hinn k' v').symm.trans (hpn k' v')
      ·exact absurd hin2 hn2
     |true=>
      refine ah.2 ?_;have ku:Upd Ui h B:=p.trans C fun y d=>(hSU y d).1
      have hSV':∀y,SV y→(Ui y∨h.size≤y)∧y<B.size:=fun y d=>⟨(hSV y d).1.elim (fun h=>(hSU y h).1) fun h=>.inr (by omega),(hSV y d).2⟩
      have hmem2:∀U∈Us.set i SV,U∈Us∨U=SV:=fun U G=>List.mem_or_eq_of_mem_set G
      have hSVm:SV∈Us.set i SV:=aw (i:=i) (by rw[dT,if_pos rfl,if_pos hUi0]);refine iX (W:=W) (S:=S) (Us:=Us.set i SV) (tU ku fun _ h=>h) hWo (ku.get hb nUb) (by rw[hL.1];exact hn) (own2 ku (fun y d=>⟨I y d,_,hUim,d⟩) _ fun U G y d=>?_) fun h3 q s3 A3 b3 ho3 H g hU3 hu3=>?_
      ·rcases hmem2 U G with h|rfl
       ·exact⟨.inl ⟨U,h,d⟩,by have:=N U h y d;omega⟩
       ·exact⟨(hSV' y d).1.imp (fun h=>⟨_,hUim,h⟩) id,(hSV' y d).2⟩
      refine⟨_,rfl,s3,cF (i:=3) b3,?_⟩;obtain⟨a3,ha3,hab,hw3,ho4,hu4⟩:=OwnS.setAt ho3 hki0 (some ⟨b2,0,none⟩);have hlen3:=ho3.len;refine⟨⟨by simp only;omega,by simp only;omega⟩,a3,ha3,?_⟩
      have hw1:Wr h3 (adr a3 (i*1)):=by
       rcases hw3 with hw|⟨q,g,hw⟩
       ·cases hw
       ·cases g;exact hw 0 (by simp)
      refine⟨hw1,bK ?_⟩;have b4:=hu4.get b3 fun e=>by have e:q=a3.block:=e;exact(H _ hab).2.1 e.symm
      have hu24:Upd A3 B _:=hu3.wide.trans hu4 fun x hx=>.inl (by have hx:x=a3.block:=hx;rw[hx];exact hab)
      have u04:Upd (fun y=>Ui y∨A3 y) h _:=(ku.mono fun y d=>.inl (.inl d)).trans hu24 fun x hx=>.inl (.inr hx)
      have eset:ks.set i (some ⟨b2,0,none⟩)=ks.take i++some ⟨b2,0,none⟩::ks.drop (i+1):=by rw[List.set_eq_take_append_cons_drop,if_pos hki0]
      rw[←eset]at ho4;have z3:=hu3.size;have z4:=hu4.size;change K (some ⟨q,0,none⟩,D,true) (gd h3 (adr a3 (i*1)) 0 (kC (some ⟨b2,0,none⟩)));generalize gd h3 (adr a3 (i*1)) 0 (kC (some ⟨b2,0,none⟩))=h4 at*;have hS2:∀y,SR o q A3 (Us.set i SV) y→(S y∨h.size≤y)∧y<h4.size:=fun y d=>vl (g.imp id fun h=>by omega) (aF b4) (fun y d=>⟨(H y d).1.imp id fun h=>by omega,by have:=(H y d).2.2;omega⟩) (fun U G y hz=>by
       rcases hmem2 U G with h|rfl
       ·exact⟨.inl (hUS U h y hz),by have:=N U h y hz;omega⟩
       ·exact⟨(hSV' y hz).1.imp (I y) id,by have:=(hSV' y hz).2;omega⟩) d
      refine hk h4 q w _ (SR o q A3 (Us.set i SV)) D true (u04.mono fun y d=>?_) (sE b4 hv ho4 (fun y d=>⟨(H y d).2.1,by have:=(H y d).2.2;omega⟩) hU3 (J0 hPD fun j U hj eU y d hu=>?_) (by
       rw[Fo.to_of]
       refine LsO.set hL.1 hL.2.1 (fun j k' n' U hj ek en eU=>KidO.move u04 (hL.2.2 j k' n' U ek en eU) (N U (aw eU)) (fun y d=>?_) fun y d=>d.elim .inl fun h=>(hS2 y h).1.imp (E y) id) (KidO.move hu24 ⟨b2,Z,rfl,rfl,rn2⟩ (fun y d=>(hSV y d).2) (fun y d=>?_) fun y d=>?_)
       ·rcases d with h|h
        ·exact .inl ⟨E y (I y h),hUid j U hj eU y h⟩
        ·refine(H y h).1.imp (fun hs=>⟨E y hs,fun hu=>(hU3 U (aw (i:=j) (by rw[dT,if_neg (Ne.symm hj)];exact eU)) y hu).1 h⟩) fun h=>by omega
       ·exact(H y d).1.imp (fun hs=>⟨.inl (.inl (E y hs)),fun hu=>(hU3 SV hSVm y hu).1 d⟩) id
       ·rcases d with h|⟨_,rfl|h|⟨U,G,h⟩⟩
        ·exact .inl (.inl (.inl h))
        ·exact g.imp (fun h=>.inl (.inl (E _ h))) id
        ·exact(H y h).1.imp (fun h=>.inl (.inl (E _ h))) id
        ·rcases hmem2 U G with B|rfl
         ·exact .inl (.inl (.inl (E _ (hUS U B y h))))
         ·exact .inl (.inr h)) (hno' (fun y d=>(H y d).1.imp id fun h=>by omega) (g.imp id fun h=>by omega))) hS2 (hset hslne hslhd hc2 (hbr _ _ hc2 hp2)) (xt L (hputs hpn)) (fun h=>by cases h) hchg
      ·rcases d with h|h
       ·exact .inl (I y h)
       ·exact(H y h).1.imp id fun h=>by omega
      ·rcases(hSV' y d).1 with h|h
       ·exact hUid j U hj eU y h hu
       ·have:=N U (aw eU) y hu;omega
end Go.Proofs
namespace Go.Proofs
open Go Go.Lift
def uQ:Fo→List (List UInt8×ByteArray)
 | .nil=> []
 | .cons lab w kids rest=>((w.map fun v=>(([]:List UInt8),v)).toList++uQ kids).map (fun p=>(lab++p.1,p.2))++uQ rest
def mq(w:Option ByteArray)(F:Fo):List (List UInt8×ByteArray):=(w.map fun v=>(([]:List UInt8),v)).toList++uQ F
theorem pq:∀{F:Fo} {k:List UInt8} {v:ByteArray},(k,v)∈uQ F↔m0 F k v
 | .nil,_,_=>by simp[uQ,m0]
 | .cons lab w kids rest,k,v=>by
  unfold uQ m0;rw[bN,pq (F:=rest)];refine or_congr ?_ tO;rw[rM];constructor
  ·rintro⟨⟨r,u⟩,hm,b⟩
   simp only[p8.injEq]at b;obtain⟨rfl,rfl⟩:=b;refine⟨r,rfl,?_⟩;rcases bN.1 hm with h|h
   ·left
    rw[Option.mem_toList,iI]at h;obtain⟨a,c,b⟩:=h;simp only[p8.injEq]at b;exact⟨b.1.symm,by rw[c,b.2]⟩
   ·exact .inr (pq.1 h)
  ·rintro⟨r,rfl,h⟩
   refine⟨(r,v),bN.2 ?_,rfl⟩;rcases h with⟨rfl,h⟩|h
   ·left;rw[h];simp
   ·exact .inr (pq.2 h)
theorem lQ{w:Option ByteArray}{F:Fo}{k:List UInt8}{v:ByteArray}:(k,v)∈mq w F↔nF w F k v:=by
 unfold mq nF;rw[bN,pq];refine or_congr ?_ tO;cases w with
 |none=>simp
 |some u=>simp[Prod.ext_iff,eq_comm]
abbrev Up(l:List (List UInt8×ByteArray)):Prop:=l.Pairwise fun p q=>p.1<q.1
theorem Nt{a x y:List UInt8}(h:x<y):a++x<a++y:=by
 induction a with
 |nil=>exact h
 |cons c a ih=>exact List.Lex.cons ih
theorem Km{x y:List UInt8}(c:y≠[])(h:hd x<hd y):x<y:=by
 match x,y,c with
 | [],b::y,_=>exact List.Lex.nil
 |a::x,b::y,_=>exact List.Lex.rel (UInt8.lt_iff_toNat_lt.2 h)
theorem F7:∀{F:Fo},dW F→Up (uQ F)
 | .nil,_=>fO
 | .cons lab w kids rest,h=>by
  unfold uQ;refine cL.2 ⟨?_,F7 h.2.2.2.2,?_⟩
  ·rw[List.pairwise_map]
   refine List.Pairwise.imp (R:=fun p q:List UInt8×ByteArray=>p.1<q.1) (fun j=>Nt j) ?_
   refine cL.2 ⟨?_,F7 h.2.2.1,?_⟩
   ·cases w<;>simp
   ·intro a g b f
    have d:b.1≠[]:=lS h.2.2.1 (pq (F:=kids).1 (show(b.1,b.2)∈_ from f))
    have i:a.1= []:=by
     rw[Option.mem_toList,iI]at g;obtain⟨v,_,e⟩:=g;rw[←e]
    rw[i];match b.1,d with
    |c::l,_=>exact List.Lex.nil
  ·intro a g b f
   obtain⟨p,_,rfl⟩:=rM.1 g;obtain⟨n,k,e,_⟩:=nC h.2.2.2.2 (pq (F:=rest).1 (show(b.1,b.2)∈_ from f))
   have d:b.1≠[]:=lS h.2.2.2.2 (pq (F:=rest).1 (show(b.1,b.2)∈_ from f))
   have:=h.2.2.2.1 n k;exact Km d (by rw[mJ h.1];omega)
theorem LM{w:Option ByteArray}{F:Fo}(h:dW F):Up (mq w F):=by
 refine cL.2 ⟨by cases w<;>simp,F7 h,?_⟩
 intro a g b i;have d:b.1≠[]:=lS h (pq (F:=F).1 (show(b.1,b.2)∈_ from i))
 have f:a.1= []:=by
  rw[Option.mem_toList,iI]at g;obtain⟨v,_,e⟩:=g;rw[←e]
 rw[f];match b.1,d with
 |c::l,_=>exact List.Lex.nil
theorem Jz:∀{l l':List (List UInt8×ByteArray)},Up l→Up l'→(∀p,p∈l↔p∈l')→l=l'
 | [],[],_,_,_=>rfl
 | [],q::l',_,_,h=>absurd ((h q).2 (ay ..)) (by simp)
 |p::l,[],_,_,h=>absurd ((h p).1 (ay ..)) (by simp)
 |p::l,q::l',c,a,h=>by
  have c:=bw.1 c;have a:=bw.1 a;have e:p=q:=by
   rcases aq.1 ((h p).1 (ay ..))with e|d
   ·exact e
   ·rcases aq.1 ((h q).2 (ay ..))with e|f
    ·exact e.symm
    ·exact absurd (List.lt_trans (c.1 q f) (a.1 p d)) (pj _)
  subst e;rw[Jz c.2 a.2 fun z=>?_]
  constructor
  ·intro hz
   rcases aq.1 ((h z).1 (aQ _ hz))with e|b
   ·exact absurd (c.1 z hz) (by rw[e];exact pj _)
   ·exact b
  ·intro hz
   rcases aq.1 ((h z).2 (aQ _ hz))with e|b
   ·exact absurd (a.1 z hz) (by rw[e];exact pj _)
   ·exact b
def E4:Fo→Nat
 | .nil=>0
 | .cons _ _ kids rest=>1+E4 kids+E4 rest
theorem Dz:∀{F:Fo},dW F→E4 F+F.toL.length≤2*(uQ F).length
 | .nil,_=>by simp[E4,Fo.toL]
 | .cons lab w kids rest,h=>by
  have c:=Dz h.2.2.1;have b:=Dz h.2.2.2.2;have a:=h.2.1;rw[Fo.toL_cons];unfold E4 uQ;rw[ae,fS,ae,aO];cases w with
  |none=>
   simp only[Option.map_none,Option.toList_none,cR];have:2≤kids.toL.length:=a.resolve_left (by simp);omega
  |some v=>simp only[Option.map_some,Option.toList_some,bq];omega
def Fj:Fo→Prop
 | .nil=>True
 | .cons lab w kids rest=>lab.length≤10000∧(∀v,w=some v→v.size≤10000)∧kids.toL.length≤256∧Fj kids∧Fj rest
theorem GB:∀{F:Fo},dW F→(∀k v,m0 F k v→k.length≤10000∧v.size≤10000)→Fj F
 | .nil,_,_=>trivial
 | .cons lab w kids rest,h,hl=>by
  obtain⟨r,v,c⟩:=kG h _ (ay ..);have b:=(hl _ v (ee.2 ⟨_,ay ..,r,rfl,c⟩)).1;rw[ae]at b;simp only at b;refine⟨by omega,fun v hv=>(hl lab v (.inl ⟨[],(bV _).symm,.inl ⟨rfl,hv⟩⟩)).2,iE h.2.2.1,GB h.2.2.1 fun k v a=>?_,GB h.2.2.2.2 fun k v a=>hl k v (.inr a)⟩
  have:=hl (lab++k) v (.inl ⟨k,rfl,.inr a⟩);rw[ae]at this;exact⟨by omega,this.2⟩
def yR:Option ByteArray→List UInt8
 |some v=>1::rQ v
 |none=> [0]
def pp(lab:List UInt8)(w:Option ByteArray)(n:Nat):List UInt8:=rQ ⟨lab.toArray⟩++(yR w++mI n 2)
def lL:Fo→List UInt8
 | .nil=> []
 | .cons lab w kids rest=>pp lab w kids.toL.length++(lL kids++lL rest)
def lf(n:Bn):List UInt8:=pp n.1 n.2.1 n.2.2.toL.length++lL n.2.2
theorem yn:∀F:Fo,lL F=F.toL.flatMap lf
 | .nil=>rfl
 | .cons lab w kids rest=>by
  rw[Fo.toL_cons,aL,←yn rest];show pp lab w kids.toL.length++(lL kids++lL rest)=(pp lab w kids.toL.length++lL kids)++lL rest
  rw[ak]
theorem Ck{lab:List UInt8}{w:Option ByteArray}{n:Nat}(b:lab.length≤10000)(a:∀v,w=some v→v.size≤10000):(pp lab w n).length≤20010:=by
 unfold pp;rw[ae,ae,g4,eu];have e:(iJ lab.toArray).size=lab.length:=by simp[ByteArray.size]
 rw[e];cases w with
 |none=>simp only[yR,bq];omega
 |some v=>have:=a v rfl;simp only[yR,aO,g4];omega
theorem uM:∀{F:Fo},Fj F→(lL F).length≤E4 F*20010
 | .nil,_=>by simp[lL]
 | .cons lab w kids rest,h=>by
  have b:=Ck (n:=kids.toL.length) h.1 h.2.1;have a:=uM h.2.2.2.1;have c:=uM h.2.2.2.2;unfold lL E4;rw[ae,ae,lI,lI];omega
theorem Cl{lab a:List UInt8}{w w':Option ByteArray}{n d:Nat}{r i:List UInt8}(j:lab.length≤10000)(e:a.length≤10000)(p:∀v,w=some v→v.size≤10000)(f:∀v,w'=some v→v.size≤10000)(q:n≤256)(m:d≤256)(h:pp lab w n++r=pp a w' d++i):lab=a∧w=w'∧n=d∧r=i:=by
 unfold pp at h;simp only[ak]at h;have z:∀l:List UInt8,(iJ l.toArray).size=l.length:=fun l=>by simp[ByteArray.size]
 obtain⟨c,h⟩:=tA (by rw[z];exact j) (by rw[z];exact e) h;have c:lab=a:=by
  have:=congrArg (fun b:ByteArray=>b.data.toList) c
  simpa using this
 cases w with
 |none=>
  cases w' with
  |none=>
   simp only[yR,dt,List.nil_append,hP.injEq,true_and]at h;obtain⟨g,h⟩:=qC (k:=2) (by omega) (by omega) h;exact⟨c,rfl,g,h⟩
  |some v=>simp[yR]at h
 |some v=>
  cases w' with
  |none=>simp[yR]at h
  |some v'=>
   simp only[yR,dt,hP.injEq,true_and]at h;obtain⟨o,h⟩:=tA (p v rfl) (f v' rfl) h;obtain⟨g,h⟩:=qC (k:=2) (by omega) (by omega) h;exact⟨c,by rw[o],g,h⟩
theorem uN:∀{F F':Fo} {r r':List UInt8},Fj F→Fj F'→F.toL.length=F'.toL.length→lL F++r=lL F'++r'→F=F'∧r=r'
 | .nil,.nil,_,_,_,_,_,h=>⟨rfl,h⟩
 | .nil,.cons ..,_,_,_,_,e,_=>by simp[Fo.toL]at e
 | .cons ..,.nil,_,_,_,_,e,_=>by simp[Fo.toL]at e
 | .cons lab w kids rest,.cons lab' w' kids' rest',r,r',h1,h2,e,h=>by
  unfold lL at h;simp only[ak]at h;obtain⟨c,f,d,h⟩:=Cl h1.1 h2.1 h1.2.1 h2.2.1 h1.2.2.1 h2.2.2.1 h;obtain⟨b,h⟩:=uN h1.2.2.2.1 h2.2.2.2.1 d h;obtain⟨a,h⟩:=uN h1.2.2.2.2 h2.2.2.2.2 (by rw[Fo.toL_cons,Fo.toL_cons]at e;simpa using e) h;exact⟨by rw[c,f,b,a],h⟩
end Go.Proofs
namespace Go.Proofs
open Go Go.Lift
theorem Mb{M:Nat→Prop}{h:ad}{c:SliceV}{out ys:List UInt8}{vs:List Value}(hv:vs=ys.flatMap qx){n:Nat}(d:n=ys.length){K:SliceV→ad→Prop}(j:OwnS qx 1 dg M h c out)(hM:∀b,h.size≤b→M b)(m:out.length+ys.length≤140737488355328)
  (f:∀s' a,OwnS qx 1 dg M a s' (out++ys)→Upd M h a→K s' a):
  ∃xs,SRow (hnew h vs dg) (some (aC h)) (n*1) xs∧AppP (some [.int .u8 0]) 1 1 dg c.a c.len c.cap n xs (hnew h vs dg) K:=by
 subst hv d;have k:=Upd.hnew No h (ys.flatMap qx) dg;have g:OwnS qx 1 dg (fun _=>True) (hnew h (ys.flatMap qx) dg) ⟨some (aC h),ys.length,ys.length⟩ ys:=⟨rfl,xI,au _,.inr ⟨h.size,[],rfl,trivial,by rw[bV];exact cu ..,by simp⟩⟩
 refine⟨_,(g.sl (W:=No) fun _ _ _ h=>h).srow,?_⟩
 refine AppP.own (ys:=ys) (j.upd k fun _ _ h=>h) rfl rfl (zi _) rfl (by omega) (by omega) (hM _ (by rw[jP];omega)) fun s' a e i=>?_
 exact f s' a e ((Upd.hnew M h _ _).tr i)
def OQ(W:Nat→Prop)(n:Bn):Prop:=∀{b:Nat} {sl:ByteArray} {h0 h:ad} {M:Nat→Prop} {s:SliceV} {xs:List UInt8},RxN W h0 b sl n.2.1 n.2.2→sl.data.toList=n.1→Upd No h0 h→(∀y,M y→h0.size≤y)→OwnS qx 1 dg M h s xs→(∀y,h.size≤y→M y)→
 xs.length+(lf n).length≤140737488355328→∀{K:SliceV→ad→Prop},(∀s' h',OwnS qx 1 dg M h' s' (xs++lf n)→Upd M h h'→K s' h')→HC PG gT [.pointer (some ⟨b,0,none⟩),.slice s.a s.len s.cap] [.c .slice] K h
theorem JM{W:Nat→Prop}{lab:List UInt8}{w:Option ByteArray}{c:Fo}(hl:lab.length≤10000)(hw:∀v,w=some v→v.size≤10000)(hk256:c.toL.length≤256)(ih:∀m∈c.toL,OQ W m):OQ W (lab,w,c):=by
 intro b sl h0 h M s xs r F hu0 G ho hM hx K J;simp only at r F;have D:(⟨lab.toArray⟩:ByteArray)=sl:=by rw[←F]
 refine tR (some ⟨b,0,none⟩) s ?_;unfold nT dC fH cG bL ip sA ME NJ;obtain⟨val,s1,ow,ks,T,hv,hs,hcap,hF⟩:=r;have hL:=nX.1 hF;have Z:∀{j},Upd M h j→Upd No h0 j:=fun k=>hu0.trans k fun y P=>.inr (G y P)
 have blk:∀{j},Upd M h j→j[b]? =some (.cells (tB sl w.isSome val s1 ow) aU (0,0)):=fun k=>(Z k).get0 T
 have u:∀{j},Upd M h j→∀y,j.size≤y→M y:=fun k y P=>hM y (bB k.size P)
 have Q:sl.size=lab.length:=by rw[←F];simp
 have x:=hs.len;rw[hL.1]at x;unfold lf at hx J;rw[yn]at hx J;simp only at hx J;rw[ae]at hx;have H:(pp lab w c.toL.length).length=2+lab.length+((yR w).length+2):=by
  unfold pp;rw[ae,ae,g4,eu,D,Q]
 refine⟨_,rfl,sl,cF (i:=0) (blk (Upd.refl M h)),?_⟩;refine za (W:=No) (ho.sl fun _ _ _ h=>h) ho.cap sl (by omega) (by omega) fun s2 S B Y=>?_
 have B:=B.more hM;have d:Upd M h S:=Y.wide;refine Join.intro (fun t j=>OwnS qx 1 dg M j t (xs++rQ sl++(yR w))∧Upd M h j) (fun R O=>⟨_,rfl,w.isSome,cF (i:=1) (blk d),?_⟩) ?_
 ·cases w with
  |none=>
   refine ah.2 (bK ?_);refine qH (b:=0) rfl B (u d) ?_ fun s3 N o f=>O _ _ ⟨o,d.tr f⟩
   rw[ae,g4];simp only[yR,bq]at H;omega
  |some v=>
   have hve:=vw hv v rfl;subst hve;have hvs:=hw val rfl;simp only[yR,aO,g4]at H;have k3:Upd M h (hnew S [.int .u8 1] dg):=d.tr (Upd.hnew M S _ _);refine az.2 ⟨_,rfl,val,cF (i:=2) (blk d),bK ⟨cF (i:=2) (blk k3),?_⟩⟩;refine qH (b:=1) rfl B (u d) (by rw[ae,g4];omega) fun s3 N o f=>⟨cF (i:=2) (blk (d.tr f)),?_⟩
   refine za (W:=No) (o.sl fun _ _ _ h=>h) o.cap val (by omega) (by rw[ae,ae,g4,bq];omega) fun s4 h4 n A=>O _ _ ⟨?_,(d.tr f).tr A.wide⟩
   have n:=n.more (u (d.tr f));simp only[yR,ak,List.singleton_append]at n⊢;exact n
 ·rintro s3 N ⟨o,f⟩
  have e8:Int.fdiv (s1.len:Int) (2^(min (8:Int).toNat (IntKind.bits .i64)))=((c.toL.length>>>8:Nat):Int):=by
   have:(2^(min (8:Int).toNat (IntKind.bits .i64)):Int)=2^8:=rfl;rw[this,x,jC]
  refine Join.intro (fun t j=>OwnS qx 1 dg M j t (xs++pp lab w c.toL.length)∧Upd M h j) (fun R O=>⟨_,rfl,s1,cF (i:=3) (blk f),_,rfl,s1,cF (i:=3) (blk f),by omega,?_⟩) ?_
  ·simp only[Bd]
   rw[e8];have k4:Upd M h (hnew N [.int .u8 (IntKind.wrap .u8 (s1.len:Int)),.int .u8 (IntKind.wrap .u8 ((c.toL.length>>>8:Nat):Int))] dg):=f.tr (Upd.hnew M N _ _);refine bK ⟨cF (i:=3) (blk k4),cF (i:=3) (blk k4),?_⟩;refine Mb (ys:=mI c.toL.length 2) ?_ rfl o (u f) ?_ fun s5 h5 E q=>⟨cF (i:=3) (blk (f.tr q)),cF (i:=3) (blk (f.tr q)),O _ _ ⟨?_,f.tr q⟩⟩
   ·rw[x,IntKind.wrap_u8,IntKind.wrap_u8]
    simp[mI,eZ]
   ·rw[ae,ae,g4,eu];omega
   ·unfold pp
    rw[D,←ak,←ak];exact E
  ·rintro s4 h4 ⟨n,A⟩
   refine⟨_,rfl,s1,cF (i:=3) (blk A),?_⟩;have hs4:∀{j},Upd M h j→Sl kC 1 W j s1 ks:=fun k=>hs.upd (Z k) fun _ h=>h.elim
   refine LoopP.ghost (fun(i:Nat) (t:SliceV×Int) j=>t.2=(i:Int)∧i≤c.toL.length∧OwnS qx 1 dg M j t.1 (xs++pp lab w c.toL.length++(c.toL.take i).flatMap lf)∧Upd M h j) (fun i=>c.toL.length-i) 0 ⟨rfl,bp _,by simpa using n,A⟩ ?_
   rintro I i ⟨so,ti⟩ j ⟨e1,hi,z,p⟩ hI;simp only at e1 z;subst e1;have C:∀g:i<c.toL.length,((c.toL.take i).flatMap lf).length+(lf c.toL[i]).length≤(c.toL.flatMap lf).length:=fun g=>by
    have e:c.toL=c.toL.take i++c.toL[i]::c.toL.drop (i+1):=by rw[List.getElem_cons_drop,bF]
    have:=congrArg (fun L=>(List.flatMap lf L).length) e
    simp only[bv,aL,ae]at this;omega
   refine bj (fun g=>?_) fun V=>?_
   ·have g:i<c.toL.length:=by have:(i:Int)<(s1.len:Int):=g;omega
    obtain⟨kb,ksl,hki,hkl,hkn⟩:=hL.at g;obtain⟨a,ha,_,hvv⟩:=(hs4 p).at0 hki;have hsp:=C g;refine⟨⟨by simp only;omega,by simp only;omega⟩,a,ha,some ⟨kb,0,none⟩,hvv,?_⟩
    refine ih _ (aW g) hkn hkl (Z p) G z (u p) (by rw[ae,ae];omega) fun s5 h5 E q=>?_
    rw[ep g (by omega)];refine hI (i+1) _ _ ⟨rfl,g,?_,p.tr q⟩ (by omega);rw[List.take_succ_eq_append_getElem g,bv,aL,List.flatMap_nil,bV,←ak];exact E
   ·have X:i=c.toL.length:=by have:¬(i:Int)<(s1.len:Int):=V;omega
    subst X;rw[cV]at z;refine J _ _ ?_ p;rw[←ak];exact z
theorem CX{W:Nat→Prop}:∀{F:Fo},Fj F→∀n∈F.toL,OQ W n
 | .nil,_,n,a=>by simp[Fo.toL]at a
 | .cons lab w kids rest,h,n,a=>by
  rcases aq.1 a with rfl|a
  ·exact JM h.1 h.2.1 h.2.2.1 (CX h.2.2.2.1)
  ·exact CX h.2.2.2.2 n a
structure RadAt(W:Nat→Prop)(h:ad)(b:Nat)(l:List Pr):Prop where
 ex:∃w F,RxN W h b ⟨#[]⟩ w F∧dW F∧∀k v,(k,v)∈mq w F↔∃p∈l,p.1.data.toList=k∧p.2=v
theorem RadAt.upd0{W:Nat→Prop}{h a:ad}{b:Nat}{l:List Pr}(k:Upd No h a)(r:RadAt W h b l):RadAt W a b l:=by
 obtain⟨w,F,e,d,c⟩:=r.ex;exact⟨w,F,e.upd0 k,d,c⟩
theorem RadAt.less{W W':Nat→Prop}{h:ad}(hm:∀b,W' b→W b∨h.size≤b){b:Nat}{l:List Pr}(r:RadAt W h b l):RadAt W' h b l:=by
 obtain⟨w,F,d,c,a⟩:=r.ex;exact⟨w,F,d.less hm,c,a⟩
theorem RadAt.updM{W M:Nat→Prop}{h a:ad}(k:Upd M h a)(hm:∀b,M b→W b∨h.size≤b){b:Nat}{l:List Pr}(r:RadAt W h b l):RadAt W a b l:=by
 obtain⟨w,F,e,d,c⟩:=r.ex;exact⟨w,F,e.updM k hm,d,c⟩
def H2(l:List Pr):List (List UInt8×ByteArray):=l.map fun p=>(p.1.data.toList,p.2)
theorem MJ{l:List Pr}(c:cp l):Up (H2 l):=by
 unfold H2 Up;rw[List.pairwise_map];refine List.Pairwise.imp (R:=fun p q:Pr=>kl p.1 q.1) (fun{a b} h=>?_) c
 rw[Gj,ByteArray.toList_eq,ByteArray.toList_eq]at h;exact h
theorem Hg:∀{l l':List Pr},H2 l=H2 l'→l=l'
 | [],[],_=>rfl
 | [],_::_,h=>by simp[H2]at h
 |_::_,[],h=>by simp[H2]at h
 |p::l,q::l',h=>by
  unfold H2 at h;simp only[List.map_cons,hP.injEq,p8.injEq]at h;obtain⟨⟨c,d⟩,f⟩:=h;have e:p.1=q.1:=by
   generalize p.1=a at c;generalize q.1=b at c;cases a;cases b;exact congrArg iJ (gc.1 c)
  rw[Hg f,Prod.ext e d]
theorem Hm{w:Option ByteArray}{F:Fo}{l:List Pr}(hc:dW F)(b:cp l)(c:∀k v,(k,v)∈mq w F↔∃p∈l,p.1.data.toList=k∧p.2=v):mq w F=H2 l:=by
 refine Jz (LM hc) (MJ b) fun p=>?_
 have:=c p.1 p.2;rw[show(p.1,p.2)=p from rfl]at this
 rw[this];unfold H2;rw[rM];constructor
 ·rintro⟨q,a,d,f⟩;exact⟨q,a,Prod.ext d f⟩
 ·rintro⟨q,a,e⟩;rw[←e];exact⟨q,a,rfl,rfl⟩
theorem JR{w w':Option ByteArray}{F F':Fo}(hc:dW F)(a:dW F')(h:mq w F=mq w' F'):w=w'∧F=F':=by
 have hm:∀k v,nF w F k v↔nF w' F' k v:=fun k v=>by rw[←lQ,←lQ,h]
 refine⟨Option.ext fun v=>?_,GK hc a fun k v=>?_⟩
 ·have:=hm [] v
  constructor
  ·intro e
   rcases this.1 (.inl ⟨rfl,e⟩)with⟨_,h⟩|h
   ·exact h
   ·exact absurd rfl (lS a h)
  ·intro e
   rcases this.2 (.inl ⟨rfl,e⟩)with⟨_,h⟩|h
   ·exact h
   ·exact absurd rfl (lS hc h)
 ·constructor
  ·intro hi
   rcases(hm k v).1 (.inr hi)with⟨e,_⟩|h
   ·exact absurd e (lS hc hi)
   ·exact h
  ·intro hi
   rcases(hm k v).2 (.inr hi)with⟨e,_⟩|h
   ·exact absurd e (lS a hi)
   ·exact h
end Go.Proofs
namespace Go.Proofs
open Go Go.Lift
theorem pr{p q:Pr}:∀{l:List Pr},cp l→(q∈jc p l↔q=p∨(q∈l∧q.1≠p.1))
 | [],_=>by simp[jc]
 |r::l,c=>by
  have c:=bw.1 c;rw[jO];by_cases d:kl r.1 p.1
  ·have f:r.1≠p.1:=fun e=>by rw[e]at d;exact dq _ d
   rw[if_pos d,aq,aq,pr c.2];constructor
   ·rintro(rfl|h|⟨h,b⟩)
    ·exact .inr ⟨.inl rfl,f⟩
    ·exact .inl h
    ·exact .inr ⟨.inr h,b⟩
   ·rintro(h|⟨h|h,b⟩)
    ·exact .inr (.inl h)
    ·exact .inl h
    ·exact .inr (.inr ⟨h,b⟩)
  ·rw[if_neg d]
   by_cases a:r.1=p.1
   ·rw[if_pos a,aq,aq]
    constructor
    ·rintro(h|h)
     ·exact .inl h
     ·refine .inr ⟨.inr h,fun e=>?_⟩
      have:=c.1 q h;rw[e,a]at this;exact dq _ this
    ·rintro(h|⟨rfl|h,b⟩)
     ·exact .inl h
     ·exact absurd a b
     ·exact .inr h
   ·rw[if_neg a,aq,aq]
    have g:=Ar d a;constructor
    ·rintro(h|rfl|h)
     ·exact .inl h
     ·exact .inr ⟨.inl rfl,a⟩
     ·refine .inr ⟨.inr h,fun e=>?_⟩
      have:=lR g (c.1 q h);rw[e]at this;exact dq _ this
    ·rintro(h|⟨rfl|h,b⟩)
     ·exact .inl h
     ·exact .inr (.inl rfl)
     ·exact .inr (.inr h)
def RadRoot(W:Nat→Prop)(h:ad)(r:Option Addr)(l:List Pr):Prop:=(r=none∧l= [])∨∃b,r=some ⟨b,0,none⟩∧RadAt W h b l
theorem RadRoot.upd0{W:Nat→Prop}{h a:ad}{r:Option Addr}{l:List Pr}(k:Upd No h a)(t:RadRoot W h r l):RadRoot W a r l:=t.imp id fun⟨b,e,t⟩=>⟨b,e,t.upd0 k⟩
theorem rF{a b:ByteArray}:a.data.toList=b.data.toList↔a=b:=by
 constructor
 ·intro h;cases a;cases b;exact congrArg iJ (gc.1 h)
 ·rintro rfl;rfl
theorem FP{W:Nat→Prop}{h:ad}(a:∀y,W y→y<h.size){K:Option Addr→ad→Prop}(c:∀h' b,RadAt W h' b []→Upd No h h'→K (some ⟨b,0,none⟩) h'):HC PG mY [] [.c .ptr] K h:=by
 refine BE ?_;unfold uz D7;refine bK (c _ h.size ⟨none,.nil,⟨⟨#[]⟩,⟨none,0,0⟩,none,[],cu h Ml aU,rfl,Sl.nil mE,⟨au _,fun hx=>Nat.lt_irrefl _ (a _ hx),iZ⟩,rfl⟩,trivial,fun k v=>?_⟩ (Upd.hnew No h _ _))
 simp[mq,uQ]
def Jb(l:List Pr)(xs:List UInt8):Prop:=∃w F,dW F∧mq w F=H2 l∧xs=lf ([],w,F)
theorem wi{w:Option ByteArray}{F:Fo}{l:List Pr}(hc:dW F)(a:mq w F=H2 l)(b:Fit l):Fj F∧∀v,w=some v→v.size≤10000:=by
 have hm:∀k v,nF w F k v→k.length≤10000∧v.size≤10000:=fun k v hi=>by
  have:=lQ.2 hi;rw[a]at this;obtain⟨q,c,e⟩:=rM.1 this;cases e;have:=b q c;exact⟨by simpa using this.1,this.2⟩
 exact⟨GB hc fun k v hi=>hm k v (.inr hi),fun v hv=>(hm [] v (.inl ⟨rfl,hv⟩)).2⟩
theorem LJ{l l':List Pr}{xs a:List UInt8}(h:Jb l xs)(m:Jb l' a)(j:Fit l)(b:Fit l'):xs=a↔l=l':=by
 obtain⟨w,F,c,e,rfl⟩:=h;obtain⟨w',F',c',e',rfl⟩:=m;have g:=wi c e j;have i:=wi c' e' b;constructor
 ·intro hx
  have hx:lf ([],w,F)++ []=lf ([],w',F')++ []:=by rw[hx]
  unfold lf at hx;simp only[ak]at hx;obtain⟨_,f,k,hx⟩:=Cl (bp _) (bp _) g.2 i.2 (iE c) (iE c') hx;obtain⟨d,_⟩:=uN g.1 i.1 k hx;exact Hg (by rw[←e,←e',f,d])
 ·rintro rfl
  obtain⟨f,d⟩:=JR c c' (e.trans e'.symm);rw[f,d]
theorem Er{l:List Pr}{xs:List UInt8}(h:Jb l xs)(d:Fit l):xs.length≤20010+2*l.length*20010:=by
 obtain⟨w,F,c,e,rfl⟩:=h;have b:=wi c e d;have g:=Ck (lab:= []) (n:=F.toL.length) (bp _) b.2;have j:=uM b.1;have i:=Dz c;have a:=congrArg f8 e;unfold mq H2 at a;rw[ae,fS]at a;have f:E4 F*20010≤2*l.length*20010:=Nat.mul_le_mul_right _ (by omega);unfold lf;rw[ae];simp only;omega
theorem Es{W:Nat→Prop}{h:ad}{b:Nat}{l:List Pr}(t:RadAt W h b l)(g:cp l)(f:Fit l)(p:l.length≤60000){K:SliceV→ad→Prop}
  (m:∀s' a xs,Jb l xs→OwnS qx 1 dg (fun y=>h.size≤y) a s' xs→Upd No h a→K s' a):HC PG qj [.pointer (some ⟨b,0,none⟩)] [.c .slice] K h:=by
 refine BD _ ?_;unfold uy;refine ah.2 ?_;obtain⟨w,F,o,c,i⟩:=t.ex;have d:=Hm c g i;have e:=wi c d f;have hv:Jb l (lf ([],w,F)):=⟨w,F,c,d,rfl⟩;have q:=Er hv f;exact JM (lab:= []) (bp _) e.2 (iE c) (CX e.1) (s:=⟨none,0,0⟩) (xs:= []) (M:=fun y=>h.size≤y) o rfl (Upd.refl _ _) (fun _ h=>h) (OwnS.nil xI) (fun _ h=>h) (by rw[cR];omega) fun s' a n k=>m s' a _ hv n (k.mono fun y j=>.inr j)
end Go.Proofs
namespace Go.Proofs
open Go Go.Lift
theorem aX{h:ad}{cs:List Value}{t:TypeId}{k:ad→Prop}(a:∀h',h'[h.size]? =some (.cells cs.toArray t (0,0))→Upd No h h'→k h'):At (hnew h cs t) k:=
 bK (a _ (cu h cs t) (Upd.hnew No h cs t))
theorem vc{h:ad}{b:Nat}{c:Array Value}{t:TypeId}(a:h[b]? =some (.cells c t (0,0))) (i:Nat):aG h (adr ⟨b,0,none⟩ i)=c[i]?:=by rw[bG,aD];exact aS a
theorem nO{h:ad}{b:Nat}{c:Array Value}{t:TypeId}(a:h[b]? =some (.cells c t (0,0))) (i j:Nat):aG h (adr (adr ⟨b,0,none⟩ i) j)=c[i+j]?:=by rw[bG,bG,aD];exact aS a
theorem vH{h:ad}{b i:Nat}{c c':Array Value}{t:TypeId}{v:Value}{k:ad→Prop}(f:h[b]? =some (.cells c t (0,0))) (hi:i<c.size) (e:c.setIfInBounds i v=c') (g:∀a,a[b]? =some (.cells c' t (0,0))→Upd (· =b) h a→k a):Wr h (adr ⟨b,0,none⟩ i)∧At (hset h (adr ⟨b,0,none⟩ i) v) k:=by
 rw[bG,aD];exact⟨gM f hi,td f fun a d j=>g a (e▸d) j⟩
theorem _root_.Go.Lift.Upd.own{h c a:ad}{b:Nat}(k:Upd No h c)(d:Upd (· =b) c a)(e:h.size≤b):Upd No h a:=k.trans d fun x hx=>.inr (by have hx:x=b:=hx;omega)
theorem _root_.Go.Lift.Upd.oth{h d:ad}{b c:Nat}{o:Obj}(e:Upd (· =b) h d)(hc:h[c]? =some o) (a:c≠b):d[c]? =some o:=e.get hc a
abbrev Tr:=Int×Int×Int×Int×(Option Addr)×(Option Addr)
abbrev gm(t:Tr):List Value:= [.int .i64 t.1,.int .u64 t.2.1,.int .u64 t.2.2.1,.int .u64 t.2.2.2.1,.pointer t.2.2.2.2.1,.pointer t.2.2.2.2.2]
abbrev FB(t:Tr):Value:=.agg #[.int .i64 t.1,.int .u64 t.2.1,.int .u64 t.2.2.1,.int .u64 t.2.2.2.1,.pointer t.2.2.2.2.1,.pointer t.2.2.2.2.2]
def Pro(W:Nat→Prop)(h a:ad)(y:Nat):Prop:=W y∨(h.size≤y∧y<a.size)
theorem Pro.lt{W:Nat→Prop}{h a:ad}(c:∀y,W y→y<h.size)(k:Upd No h a):∀y,Pro W h a y→y<a.size:=fun y b=>b.elim (fun h=>bI (c y h) k.size) fun h=>h.2
theorem Pro.hm{W:Nat→Prop}{h b:ad}:∀y,Pro W h b y→W y∨h.size≤y:=fun _ a=>a.imp id fun h=>h.1
theorem Pro.sub{W:Nat→Prop}{h a b:ad}:∀y,W y→Pro W h a y∨b.size≤y:=fun _ c=>.inl (.inl c)
theorem RootAt.less{W W':Nat→Prop}{x:Hs}{h:ad}(hm:∀b,W' b→W b∨h.size≤b){r:Option Addr}{l:List Pr}(t:RootAt W x h r l):RootAt W' x h r l:=t.imp id fun⟨b,e,t⟩=>⟨b,e,TrieAt.less hm t⟩
theorem RadRoot.less{W W':Nat→Prop}{h:ad}(hm:∀b,W' b→W b∨h.size≤b){r:Option Addr}{l:List Pr}(t:RadRoot W h r l):RadRoot W' h r l:=t.imp id fun⟨b,e,t⟩=>⟨b,e,t.less hm⟩
def TreeIs(W:Nat→Prop)(h:ad)(a:Int)(x:Hs)(t:Tr)(l:List Pr):Prop:=(a=0∧∃b,t=(0,x.k0,x.k1,x.mask,some ⟨b,0,none⟩,none)∧TrieAt W x h 13 b l)∨(a=1∧∃b,t=(1,0,0,0,none,some ⟨b,0,none⟩)∧RadAt W h b l)
theorem TreeIs.upd0{W:Nat→Prop}{h d:ad}{a:Int}{x:Hs}{t:Tr}{l:List Pr}(k:Upd No h d)(i:TreeIs W h a x t l):TreeIs W d a x t l:=
 i.imp (fun⟨e,b,c,t⟩=>⟨e,b,c,TrieAt.upd0 k t⟩) fun⟨e,b,c,t⟩=>⟨e,b,c,t.upd0 k⟩
theorem TreeIs.less{W W':Nat→Prop}{h:ad}(hm:∀b,W' b→W b∨h.size≤b){a:Int}{x:Hs}{t:Tr}{l:List Pr}(i:TreeIs W h a x t l):TreeIs W' h a x t l:=
 i.imp (fun⟨e,b,c,t⟩=>⟨e,b,c,TrieAt.less hm t⟩) fun⟨e,b,c,t⟩=>⟨e,b,c,t.less hm⟩
theorem TreeIs.updM{W M:Nat→Prop}{h d:ad}(k:Upd M h d)(hm:∀b,M b→W b∨h.size≤b){a:Int}{x:Hs}{t:Tr}{l:List Pr}(i:TreeIs W h a x t l):TreeIs W d a x t l:=
 i.imp (fun⟨e,b,c,t⟩=>⟨e,b,c,TrieAt.updM k hm t⟩) fun⟨e,b,c,t⟩=>⟨e,b,c,t.updM k hm⟩
theorem TreeIs.pro{W:Nat→Prop}{h b:ad}(k:Upd No h b){a:Int}{x:Hs}{t:Tr}{l:List Pr}(i:TreeIs W h a x t l):TreeIs (Pro W h b) b a x t l:=(i.less Pro.hm).upd0 k
theorem Bu{W:Nat→Prop}{x:Hs}{h:ad}(f:∀y,W y→y<h.size){K:Option Addr→ad→Prop}(c:∀a b,TrieAt W x a 13 b []→Upd No h a→K (some ⟨b,0,none⟩) a):HC PG kK [] [.c .ptr] K h:=by
 refine BJ ?_;unfold uE;exact rq f fun a b e d=>c a b (JC e) d
abbrev zJ:Tr:=(0,0,0,0,none,none)
theorem Eg{W:Nat→Prop}{x:Hs}{h:ad}{r:Option Addr}{l:List Pr}(t:RootAt W x h r l)(v:∀y,W y→y<h.size){K:Tr→ad→Prop}(s:∀f t,TreeIs W f 0 x t l→Upd No h f→K t f):HC PG oM [.agg #[.int .u64 x.k0,.int .u64 x.k1,.int .u64 x.mask],.pointer r] [.agg [.int .i64,.int .u64,.int .u64,.int .u64,.ptr,.ptr]] K h:=by
 refine A0 (x.k0,x.k1,x.mask) r ?_;unfold th bo af aA gC Ai rd vI;refine aX fun m b1 k1=>aX fun p b2 n=>?_
 have w:=aF b1;have z:=aF b2;have d:=k1.tr n;refine Join.intro (fun t f=>Upd No p f∧∃b,t=some ⟨b,0,none⟩∧TrieAt (Pro W h p) x f 13 b l) (fun R o=>?_) ?_
 ·rcases t with⟨rfl,rfl⟩|⟨b,rfl,t⟩
  ·exact az.2 (Bu (Pro.lt v d) fun u b t a=>o _ _ ⟨a,b,rfl,t⟩)
  ·exact ah.2 (o _ _ ⟨Upd.refl _ _,b,rfl,TrieAt.upd0 d (TrieAt.less Pro.hm t)⟩)
 ·rintro k u ⟨a,b,rfl,k⟩
  have c1:=a.get0 (n.get0 b1);refine⟨_,vc c1 0,_,vc c1 1,_,vc c1 2,?_⟩;refine fc (c:=gm zJ) (vs:=gm (0,x.k0,x.k1,x.mask,some ⟨b,0,none⟩,none)) (a.get0 b2) rfl fun q e g=>?_
  refine⟨_,vc e 0,_,vc e 1,_,vc e 2,_,vc e 3,_,vc e 4,_,vc e 5,?_⟩;have i:h.size≤m.size:=k1.size;exact s q _ (.inl ⟨rfl,b,rfl,TrieAt.less Pro.sub (TrieAt.updM g (fun y j=>.inl (.inr (by have j:y=m.size:=j;omega))) k)⟩) ((d.tr a).own g i)
theorem Ef{W:Nat→Prop}{x:Hs}{h:ad}{r:Option Addr}{l:List Pr}(t:RadRoot W h r l)(q:∀y,W y→y<h.size){K:Tr→ad→Prop}(o:∀f t,TreeIs W f 1 x t l→Upd No h f→K t f):HC PG oL [.pointer r] [.agg [.int .i64,.int .u64,.int .u64,.int .u64,.ptr,.ptr]] K h:=by
 refine AZ r ?_;unfold tg bo af aA gC rd vI;refine aX fun m b2 d=>?_
 have s:=aF b2;refine Join.intro (fun t f=>Upd No m f∧∃b,t=some ⟨b,0,none⟩∧RadAt (Pro W h m) f b l) (fun R k=>?_) ?_
 ·rcases t with⟨rfl,rfl⟩|⟨b,rfl,t⟩
  ·exact az.2 (FP (Pro.lt q d) fun p b t a=>k _ _ ⟨a,b,rfl,t⟩)
  ·exact ah.2 (k _ _ ⟨Upd.refl _ _,b,rfl,(t.less Pro.hm).upd0 d⟩)
 ·rintro i p ⟨a,b,rfl,i⟩
  refine fc (c:=gm zJ) (vs:=gm (1,0,0,0,none,some ⟨b,0,none⟩)) (a.get0 b2) rfl fun n e g=>?_
  refine⟨_,vc e 0,_,vc e 1,_,vc e 2,_,vc e 3,_,vc e 4,_,vc e 5,?_⟩;exact o n _ (.inr ⟨rfl,b,rfl,(i.updM g (fun y j=>.inl (.inr (by have j:y=h.size:=j;omega)))).less Pro.sub⟩) ((d.tr a).own g (au _))
theorem Hj{W:Nat→Prop}{x:Hs}{h:ad}(q:∀y,W y→y<h.size){a:Int}(n:a=0∨a=1){K:Tr×Int→ad→Prop}(o:∀h' t,TreeIs W h' a x t []→Upd No h h'→K (t,0) h'):HC PG rz [.int .i64 a,.agg #[.int .u64 x.k0,.int .u64 x.k1,.int .u64 x.mask]] [.agg [.int .i64,.int .u64,.int .u64,.int .u64,.ptr,.ptr],.c (.int .i64)] K h:=by
 refine GV a (x.k0,x.k1,x.mask) ?_;unfold A6 bo af aA gC Ai vE rd qv;refine aX fun m b1 k1=>aX fun s b2 p=>?_
 have v:=aF b1;have w:=aF b2;have f:=k1.tr p;have i:h.size≤m.size:=k1.size;have c1:=p.get0 b1;rcases n with rfl|rfl
 ·refine az.2 ⟨_,vc c1 0,_,vc c1 1,_,vc c1 2,?_⟩
  refine Eg (W:=Pro W h s) (x:=x) (l:= []) (.inl ⟨rfl,rfl⟩) (Pro.lt q f) fun u t k e=>?_
  refine fc (c:=gm zJ) (vs:=gm t) (e.get0 b2) rfl fun j b d=>?_
  refine⟨_,vc b 0,_,vc b 1,_,vc b 2,_,vc b 3,_,vc b 4,_,vc b 5,?_⟩;exact o j t ((k.updM d (fun y g=>.inl (.inr (by have g:y=m.size:=g;omega)))).less Pro.sub) ((f.tr e).own d i)
 ·refine ah.2 (az.2 ?_)
  refine Ef (W:=Pro W h s) (x:=x) (l:= []) (.inl ⟨rfl,rfl⟩) (Pro.lt q f) fun u t k e=>?_
  refine fc (c:=gm zJ) (vs:=gm t) (e.get0 b2) rfl fun j b d=>?_
  refine⟨_,vc b 0,_,vc b 1,_,vc b 2,_,vc b 3,_,vc b 4,_,vc b 5,?_⟩;exact o j t ((k.updM d (fun y g=>.inl (.inr (by have g:y=m.size:=g;omega)))).less Pro.sub) ((f.tr e).own d i)
end Go.Proofs
namespace Go.Proofs
open Go Go.Lift
def mr(k:ByteArray)(l:List Pr):List Pr:=l.filter fun q=>decide (q.1≠k)
theorem tI(k:ByteArray)(q:Pr)(l:List Pr):mr k (q::l)=if q.1=k then mr k l else q::mr k l:=by
 unfold mr;rw[List.filter_cons];by_cases h:q.1=k
 ·rw[if_pos h,if_neg (by simpa using h)]
 ·rw[if_neg h,if_pos (by simpa using h)]
theorem vg{k:ByteArray}{l:List Pr}(h:∀q∈l,q.1≠k):mr k l=l:=gV.2 fun q a=>decide_eq_true (h q a)
theorem zL{k:ByteArray}{l:List Pr}(h:bQ l k=false):∀q∈l,q.1≠k:=fun q a e=>by
 have:bQ l k=true:=bO.2 ⟨q,a,decide_eq_true e⟩;rw[h]at this;cases this
theorem EJ{k:ByteArray}{l:List Pr}(h:∀q∈l,q.1≠k):bQ l k=false:=by
 rcases ht:bQ l k with _|_
 ·rfl
 ·obtain⟨q,a,e⟩:=bO.1 ht
  exact absurd (of_decide_eq_true e) (h q a)
theorem Cb{k:ByteArray}{l:List Pr}(a:cp l):cp (mr k l):=a.sublist List.filter_sublist
theorem zl{k:ByteArray}{l:List Pr}{p:Pr}:p∈mr k l↔p∈l∧p.1≠k:=by unfold mr;rw[List.mem_filter,decide_eq_true_iff]
theorem KT{k:ByteArray}{l:List Pr}:(mr k l).length≤l.length:=List.length_filter_le ..
theorem HJ{k:ByteArray}:∀{l:List Pr},cp l→l.length≤(mr k l).length+1
 | [],_=>bp _
 |q::l,a=>by
  have a:=bw.1 a;rw[tI];by_cases h:q.1=k
  ·rw[if_pos h,vg fun r hm e=>by have:=a.1 r hm;rw[h,e]at this;exact dq _ this];exact au _
  ·rw[if_neg h]
   have:=HJ (k:=k) a.2;simp only[aO];omega
theorem HK(k:ByteArray):∀{l:List Pr},cp l→IT l k=mr k l
 | [],_=>by simp[IT,mr,bQ]
 |q::l,c=>by
  have m:=c;have c:=bw.1 c;have b:lh (q::l) k=if kl q.1 k then lh l k+1 else 0:=by
   unfold lh;rw[List.takeWhile_cons];by_cases h:kl q.1 k
   ·rw[if_pos (by simpa using h),if_pos h];rfl
   ·rw[if_neg (by simpa using h),if_neg h];rfl
  have f:bQ (q::l) k=(decide (q.1=k)||bQ l k):=by unfold bQ;rw[List.any_cons]
  by_cases h:kl q.1 k
  ·have d:q.1≠k:=fun e=>by rw[e]at h;exact dq _ h
   rw[tI,if_neg d,←HK k c.2];unfold IT;rw[f,b,if_pos h,decide_eq_false d,Bool.false_or];by_cases g:bQ l k=true
   ·rw[if_pos g,if_pos g];rfl
   ·rw[if_neg g,if_neg g]
  ·by_cases e:q.1=k
   ·have a:∀r∈l,r.1≠k:=fun r hm i=>by have:=c.1 r hm;rw[e,i]at this;exact dq _ this
    rw[tI,if_pos e,vg a];unfold IT;rw[f,b,if_neg h,decide_eq_true e,Bool.true_or,if_pos rfl];rfl
   ·have j:=Ar h e
    have a:∀r∈q::l,r.1≠k:=fun r hm i=>by
     rcases aq.1 hm with rfl|hm
     ·exact e i
     ·have:=c.1 r hm
      rw[i]at this;exact dq _ (lR j this)
    rw[vg a];unfold IT;rw[EJ a];rfl
theorem EB{x:Hs}{lev c:Nat}{k:ByteArray}{l:List Pr}:part x lev c (mr k l)=mr k (part x lev c l):=by
 unfold part mr;rw[List.filter_filter,List.filter_filter];exact List.filter_congr fun p _=>Bool.and_comm ..
theorem Ix{x:Hs}{lev c:Nat}{k:ByteArray}{l:List Pr}(h:c≠ck x lev k):part x lev c (mr k l)=part x lev c l:=by
 rw[EB];exact vg fun q a e=>h (by rw[←e];exact(kF.1 a).2.symm)
theorem HG{β:Type}(g:Nat→Option β):∀n,(fm g n).length=((List.range n).map fun c=>(g c).toList.length).sum
 |0=>rfl
 |n+1=>by
  rw[gS,ae,HG g n,eZ,List.map_append,List.sum_append];simp
theorem Eh{x:Hs}{lev:Nat}{l:List Pr}(h:∀c,c<32→(part x lev c l).length≤1):(eJ x lev l).length=l.length:=by
 unfold eJ;rw[HG];have e:=ou x lev l 32;have d:(l.filter fun p=>decide (ck x lev p.1<32))=l:=gV.2 fun p _=>decide_eq_true (ww x lev p.1)
 rw[d]at e;rw[←e];refine congrArg List.sum (List.map_congr_left fun c hc=>?_)
 have:=h c (gj.1 hc);match hp:part x lev c l with
 | []=>rfl
 | [p]=>rfl
 |a::b::r=>rw[hp]at this;simp at this
theorem FA{W:Nat→Prop}{x:Hs}{h:ad}{m b:Nat}{l:List Pr}(t:TrieAt W x h m b l)(D:l.length≤1000000):
  ∃d n sp sk bu ow lp lk,h[b]? =some (.cells (eg d n sp sk bu ow) bm (0,0))∧Sl iY 2 W h sp lp∧Sl ny 1 W h sk lk∧lp.length≤1000000∧lk.length≤32∧(lp.length+lk.length=1∧n=0↔l.length=1)∧∀p,l= [p]→lp= [p]:=by
 cases m with
 |zero=>
  obtain⟨sp,sk,ow,v,f,a,_⟩:=BuckAt.ex t;exact⟨0,0,sp,sk,true,ow,l,[],v,f,a,D,by simp,by simp,fun p e=>e⟩
 |succ m=>
  obtain⟨s,E,k⟩:=t;have k:∀c,c<32→SlotIs W x h m s c (part x (12-m) c l):=k;obtain⟨d,n,sp,sk,ow,v,bits,f,a,_⟩:=E.ex;have o:=zd k;have C:=sO (g:=s.p);refine⟨d,n,sp,sk,false,ow,_,_,v,f,a,by omega,sO,?_,?_⟩
  ·by_cases u:∀c,c<32→s.k c=none
   ·have z:n=0:=Nat.eq_of_testBit_eq fun c=>by
     rw[eA];by_cases hc:c<32
     ·rw[bits.nk c hc,u c hc];rfl
     ·exact Nat.testBit_lt_two_pow (bI bits.n32 (Nat.pow_le_pow_right (n:=2) (by omega) (by omega:32≤c)))
    have ek:fm s.k 32= []:=by
     unfold fm;rw[List.filterMap_eq_nil_iff];exact fun c hc=>u c (gj.1 hc)
    have A:(fm s.p 32).length=l.length:=by
     rw[o];refine Eh fun c hc=>?_
     rcases k c hc with⟨i,_⟩|⟨p,i,_⟩|⟨_,_,F,B,_⟩
     ·rw[i];simp
     ·rw[i];simp
     ·rw[u c hc]at B;cases B
    rw[ek,A,z];simp
   ·obtain⟨c,hc⟩:=Classical.not_forall.1 u
    obtain⟨hc,j⟩:=Classical.not_imp.1 hc;have w:n≠0:=fun z=>by
     have:=bits.nk c hc;rw[z,eA]at this;cases hkk:s.k c with
     |none=>exact j hkk
     |some y=>rw[hkk]at this;cases this
    rcases k c hc with⟨_,_,i⟩|⟨p,_,_,i⟩|⟨B,_⟩
    ·exact absurd i j
    ·exact absurd i j
    ·have:=lO (x:=x) (lev:=12-m) (c:=c) (l:=l)
     constructor
     ·rintro⟨_,e⟩;exact absurd e w
     ·intro e;omega
  ·rintro p rfl
   rw[o];have hc:=ww x (12-m) p.1;have A:(eJ x (12-m) [p]).length=1:=Eh fun c _=>bB lO (by simp)
   match hq:eJ x (12-m) [p],A with
   | [q],_=>
    have:q∈eJ x (12-m) [p]:=by rw[hq];exact aj.2 rfl
    rw[aj.1 (qB this)]
theorem LQ{h:ad}{b d n:Nat}{sp sk:SliceV}{c:Bool}{ow:Option Addr}(a:h[b]? =some (.cells (eg d n sp sk c ow) bm (0,0))) (g:sp.len+sk.len≤1000000000) {K:Int→ad→Prop} (f:K ((sp.len+sk.len:Nat):Int) h):HC PG iQ [.pointer (some ⟨b,0,none⟩)] [.c (.int .i64)] K h:=by
 refine rZ _ ?_;unfold nJ bL;refine ah.2 ⟨_,rfl,sp,db (i:=2) a,_,rfl,sk,db (i:=3) a,?_⟩;have e:IntKind.wrap .i64 ((sp.len:Int)+(sk.len:Int))=((sp.len+sk.len:Nat):Int):=by rw[nA (by omega)];omega
 rw[e];exact f
theorem Lh{W:Nat→Prop}{x:Hs}{h:ad}{m b:Nat}{l:List Pr}(t:TrieAt W x h m b l)(E:l.length≤1000000){K:Pr×Bool→ad→Prop}
  (v:∀j p,Upd No h j→(l.length=1→l= [p])→K (p,decide (l.length=1)) j):HC PG qm [.pointer (some ⟨b,0,none⟩)] [.agg [.str,.str],.c .bool] K h:=by
 refine BI _ ?_;unfold uD fH cG aE gC su qz;refine aX fun I b1 k1=>?_
 have H:=TrieAt.upd0 k1 t;obtain⟨d,n,sp,sk,P,ow,M,lk,w,k,z,J,F,f,c⟩:=FA H E;have N:=k.len;have O:=z.len;refine Join.intro (fun t j=>t= !decide (l.length=1)∧j=I) (fun R D=>?_) ?_
 ·refine LQ w (by omega) ?_
  by_cases e:sp.len+sk.len=1
  ·have C:((sp.len+sk.len:Nat):Int)=1:=by omega
   rw[C];refine ah.2 (vV w (D _ _ ⟨?_,rfl⟩));by_cases B:n=0
   ·rw[decide_eq_true (f.1 ⟨by omega,B⟩),B];rfl
   ·rw[decide_eq_false fun h=>B (f.2 h).2]
    exact bne_iff_ne.2 (by omega)
  ·have C:(((sp.len+sk.len:Nat):Int) !=(1:Int))=true:=bne_iff_ne.2 (by omega)
   rw[C];refine az.2 (D _ _ ⟨?_,rfl⟩);rw[decide_eq_false fun h=>e (by have:=(f.2 h).1;omega)];rfl
 ·rintro _ j ⟨rfl,rfl⟩
  have o:j[h.size]? =some (.cells #[.string Fv.1,.string Fv.2] ar (0,0)):=b1;by_cases e:l.length=1
  ·rw[decide_eq_true e]
   refine ah.2 ?_;refine na w k (by omega) fun s2 L s q=>?_
   match l,e,c with
   | [p],e,c=>
    have A:=c p rfl;subst A;have u:=s.len;obtain⟨a,G,_,hv⟩:=(s.sl (W:=No) fun _ _ _ h=>h).at (i:=0) (x:=p) rfl
    refine⟨⟨by omega,by simp at u;omega⟩,a,G,p.1,hv 0 _ rfl,p.2,hv 1 _ rfl,?_⟩
    refine yv (p:=p) (q.get0 o) fun y b3 g=>⟨_,vc b3 0,_,vc b3 1,?_⟩
    have:=v y p ((k1.tr q).own g (au _)) fun _=>rfl
    exact this
  ·have:=v
   rw[decide_eq_false e];rw[decide_eq_false e]at v;refine az.2 (yv (p:=Fv) o fun y b3 g=>⟨_,vc b3 0,_,vc b3 1,?_⟩)
   exact v y _ (k1.own g (au _)) fun h=>absurd h e
end Go.Proofs
namespace Go.Proofs
open Go Go.Lift
theorem EF{h:ad}{s:SliceV}{l:List Pr}(f:Sl iY 2 No h s l)(hc:s.len≤s.cap)(p:cp l)(B:l.length≤1000000000)(k:ByteArray)
  {K:SliceV→ad→Prop}(n:∀s' h',OwnS iY 2 ar (fun b=>h.size≤b) h' s' (mr k l)→Upd No h h'→K s' h'):HC PG sX [.slice s.a s.len s.cap,.string k] [.c .slice] K h:=by
 refine Fg s k ?_;unfold yO sA;have e:=f.len;refine Dr f p B k fun o a=>?_
 have F:=JX l k;cases ht:bQ l k with
 |false=>
  refine az.2 (xG (f.upd a fun _ h=>h.elim) (by omega) fun s3 G q w=>?_)
  rw[vg (zL ht)]at n;exact n _ _ (q.more fun b g=>bB a.size g) (a.tr w)
 |true=>
  obtain⟨C,_⟩:=C8 p ht;have ew:IntKind.wrap .i64 ((lh l k:Int)+1)=((lh l k+1:Nat):Int):=by rw[nA (by omega)];omega
  refine ah.2 ?_;simp only;rw[ew];refine⟨by omega,by omega,?_⟩
  simp only[Bd,aM];refine bK ?_;have c:=f.upd a fun _ h=>h.elim
  have y:=Upd.hnew No o [.slice (aK s.a 0 s.cap 2) (lh l k-0) (s.cap-0),.slice (aK s.a (lh l k+1) s.cap 2) (s.len-(lh l k+1)) (s.cap-(lh l k+1))] cM;have D:=cu o [.slice (aK s.a 0 s.cap 2) (lh l k-0) (s.cap-0),.slice (aK s.a (lh l k+1) s.cap 2) (s.len-(lh l k+1)) (s.cap-(lh l k+1))] cM;have A:=CW c (i:=0) (j:=lh l k) (m:=s.cap) (bp _) F (by omega) (s.cap-0)
  have t:=CW c (i:=lh l k+1) (j:=l.length) (m:=s.cap) (by omega) (au _) (by omega) (s.cap-(lh l k+1));rw[←e]at t;rw[List.drop_zero]at A;rw[List.take_of_length_le (by rw[aJ];omega)]at t;have E:mr k l= [l.take (lh l k-0),l.drop (lh l k+1)].flatten:=by rw[←HK k p];unfold IT;rw[if_pos ht];simp
  refine CB (s:=⟨some (aC o),2,2⟩) (vs:= [⟨aK s.a 0 s.cap 2,lh l k-0,s.cap-0⟩,⟨aK s.a (lh l k+1) s.cap 2,s.len-(lh l k+1),s.cap-(lh l k+1)⟩]) (ls:= [l.take (lh l k-0),l.drop (lh l k+1)])
   ⟨rfl,fun x=>⟨rfl,Nat.one_pos⟩,fun _=>⟨_,rfl,fun h=>h.elim,nY D fun i v hv=>by simpa[Om]using hv⟩⟩ ⟨A.upd y fun _ h=>h.elim,t.upd y fun _ h=>h.elim,trivial⟩ ?_ (by simp) fun I H d u=>?_
  ·simp only[List.flatten_cons,List.flatten_nil,ae,aN,aJ,cR];omega
  ·rw[←E]at d
   have z:=a.tr y;exact n _ _ (d.more fun b g=>bB z.size g) (z.tr u)
end Go.Proofs
namespace Go.Proofs
def p7(P a:List UInt8→ByteArray→Prop)(k:List UInt8):Prop:=∀k' v',a k' v'↔k'≠k∧P k' v'
theorem GE{P:List UInt8→ByteArray→Prop}{k:List UInt8}(h:∀v,¬P k v):p7 P P k:=fun k' b=>⟨fun a=>⟨fun e=>h b (e▸a),a⟩,fun h=>h.2⟩
theorem GD{w:Option ByteArray}{F:Fo}(h:dW F):p7 (nF w F) (nF none F) []:=by
 intro k' a;unfold nF;constructor
 ·rintro(⟨_,f⟩|hi)
  ·cases f
  ·exact⟨lS h hi,.inr hi⟩
 ·rintro⟨e,⟨f,_⟩|hi⟩
  ·exact absurd f e
  ·exact .inr hi
theorem AJ{w:Option ByteArray}{F F':Fo}{k:List UInt8}(b:k≠[])(h:p7 (m0 F) (m0 F') k):p7 (nF w F) (nF w F') k:=by
 intro k' a;unfold nF;rw[h k' a];constructor
 ·rintro(⟨e,f⟩|hi)
  ·exact⟨fun e'=>b (e'.symm.trans e),.inl ⟨e,f⟩⟩
  ·exact⟨hi.1,.inr hi.2⟩
 ·rintro⟨e,hi|hi⟩
  ·exact .inl hi
  ·exact .inr ⟨e,hi⟩
theorem GF{lab r:List UInt8}{w w':Option ByteArray}{F F':Fo}(h:p7 (nF w F) (nF w' F') r):p7 (qq (lab,w,F)) (qq (lab,w',F')) (lab++r):=by
 intro k' c;constructor
 ·rintro⟨s,e,b⟩
  obtain⟨a,d⟩:=(h s c).1 b;exact⟨fun e'=>a (eD (e.symm.trans e')),s,e,d⟩
 ·rintro⟨a,s,e,b⟩
  exact⟨s,e,(h s c).2 ⟨fun e'=>a (by rw[e,e']),b⟩⟩
theorem IR{F:Fo}{i:Nat}{m:Bn}{k:List UInt8}(h:dW F)(hi:i<F.toL.length)(ek:hd F.toL[i].1=hd k)(f:p7 (qq F.toL[i]) (qq m) k):p7 (m0 F) (m0 (.ofL (F.toL.set i m))) k:=by
 intro k' g;have hc:=dx.1 h;rw[ee,ee,Fo.to_of];constructor
 ·rintro⟨n,a,b⟩
  rcases(jz hi (rp h hi)).1 a with rfl|⟨a,d⟩
  ·obtain⟨c,j⟩:=(f k' g).1 b
   exact⟨c,_,aW hi,j⟩
  ·refine⟨fun e=>d ?_,n,a,b⟩
   obtain⟨r,e',_⟩:=b;refine tK h a (aW hi) ?_;rw[ek,←e,e',mJ (hc.2 n a).1]
 ·rintro⟨c,n,a,b⟩
  by_cases e:n=F.toL[i]
  ·exact⟨m,(jz hi (rp h hi)).2 (.inl rfl),(f k' g).2 ⟨c,by rw[←e];exact b⟩⟩
  ·exact⟨n,(jz hi (rp h hi)).2 (.inr ⟨a,e⟩),b⟩
theorem yy{α:Type}{l:List α}{i:Nat}(hi:i<l.length){x:α}(d:∀j (a:j<l.length),j≠i→l[j]≠l[i]):x∈l.take i++l.drop (i+1)↔x∈l∧x≠l[i]:=by
 constructor
 ·intro h
  rcases bN.1 h with h|h
  ·obtain⟨j,a,e⟩:=cD h
   rw[aN]at a;rw[List.getElem_take]at e;exact⟨gK h,by rw[←e];exact d j (by omega) (by omega)⟩
  ·obtain⟨j,a,e⟩:=cD h
   rw[aJ]at a;rw[List.getElem_drop]at e;exact⟨List.mem_of_mem_drop h,by rw[←e];exact d (i+1+j) (by omega) (by omega)⟩
 ·rintro⟨h,b⟩
  obtain⟨j,a,e⟩:=cD h;rcases Nat.lt_trichotomy j i with c|c|c
  ·exact bN.2 (.inl (kB (i:=j) (h:=by rw[aN];omega) (by rw[List.getElem_take];exact e)))
  ·subst c;exact absurd e.symm b
  ·refine bN.2 (.inr (kB (i:=j-(i+1)) (h:=by rw[aJ];omega) ?_))
   rw[List.getElem_drop];have:i+1+(j-(i+1))=j:=by omega
   simp only[this];exact e
theorem L5{F:Fo}{i:Nat}(h:dW F):dW (.ofL (F.toL.take i++F.toL.drop (i+1))):=by
 have hc:=dx.1 h;rw[dx,Fo.to_of];have a:(F.toL.take i++F.toL.drop (i+1)).Sublist F.toL:=by rw[←List.eraseIdx_eq_take_drop_succ];exact List.eraseIdx_sublist ..
 exact⟨hc.1.sublist a,fun n b=>hc.2 n (a.subset b)⟩
theorem IS{F:Fo}{i:Nat}{k:List UInt8}(h:dW F)(hi:i<F.toL.length)(ek:hd F.toL[i].1=hd k)(f:∀k' d,qq F.toL[i] k' d→k'=k):p7 (m0 F) (m0 (.ofL (F.toL.take i++F.toL.drop (i+1)))) k:=by
 intro k' d;have hc:=dx.1 h;rw[ee,ee,Fo.to_of];constructor
 ·rintro⟨n,a,b⟩
  obtain⟨a,c⟩:=(yy hi (rp h hi)).1 a;refine⟨fun e=>c ?_,n,a,b⟩
  obtain⟨r,e',_⟩:=b;refine tK h a (aW hi) ?_;rw[ek,←e,e',mJ (hc.2 n a).1]
 ·rintro⟨g,n,a,b⟩
  by_cases e:n=F.toL[i]
  ·exact absurd (f k' d (by rw[←e];exact b)) g
  ·exact⟨n,(yy hi (rp h hi)).2 ⟨a,e⟩,b⟩
def Md(n:Bn)(o:Option Bn):Prop:=(o=none∧∀k v,¬qq n k v)∨∃m,o=some m∧Jg m∧hd m.1=hd n.1∧∀k v,qq m k v↔qq n k v
theorem IB{lab:List UInt8}{w:Option ByteArray}{F:Fo}(a:lab≠[])(hc:dW F)(h:w.isSome∨2≤F.toL.length):Md (lab,w,F) (some (lab,w,F)):=.inr ⟨_,rfl,⟨a,h,hc⟩,rfl,fun _ _=>tO⟩
theorem IC{lab:List UInt8}{F:Fo}(h:F.toL= []):Md (lab,none,F) none:=by
 refine .inl ⟨rfl,fun k v hi=>?_⟩
 obtain⟨r,_,⟨_,b⟩|b⟩:=hi
 ·cases b
 ·obtain⟨n,a,_⟩:=ee.1 b
  simp only at a;rw[h]at a;cases a
theorem Ki{lab lk:List UInt8}{a:Option ByteArray}{F Fk:Fo}(c:lab≠[])(hc:dW F)(h:F.toL= [(lk,a,Fk)]):Md (lab,none,F) (some (lab++lk,a,Fk)):=by
 have d:F=.cons lk a Fk .nil:=by
  rw[←Fo.of_to F,h];rfl
 have b:=(dx.1 hc).2 (lk,a,Fk) (by rw[h];exact aj.2 rfl);refine .inr ⟨_,rfl,⟨fun e=>c (eO.1 e).1,b.2.1,b.2.2⟩,mJ c,fun k v=>?_⟩
 have:=Cs (lab:=lab++lk) (w:=a) (F:=Fk) lab.length k v;rw[List.take_left,gk]at this;rw[d];exact this.symm
end Go.Proofs
namespace Go.Proofs
open Go Go.Lift
theorem jK(s:ByteArray):s.data.toList.length=s.size:=by simp
theorem La(a b:ByteArray):(a++b).data.toList=a.data.toList++b.data.toList:=by rw[ByteArray.data_append,Array.toList_append]
theorem Iv{a b:ByteArray}{h:ad}{K:Bool→ad→Prop}(c:K (decide (b.data.toList<+:a.data.toList)) h):HC PG qh [.string a,.string b] [.c .bool] K h:=by
 refine Bx a b ?_;unfold ut qz;refine xR a b ?_;unfold qO qz;refine nr a b ?_;unfold iv;have j:=jK a;have g:=jK b;refine bj (fun f=>?_) fun i=>?_
 ·refine⟨⟨by omega,by omega⟩,?_⟩
  rw[kM,aM];have e:decide (a.extract 0 b.size=b)=decide (b.data.toList<+:a.data.toList):=by
   rw[decide_eq_decide,←rF,AD,List.prefix_iff_eq_take,g];exact eq_comm
  rw[e];exact c
 ·have e:decide (b.data.toList<+:a.data.toList)=false:=decide_eq_false fun d=>by
   have:=d.length_le;omega
  rw[e]at c;exact c
theorem Nl{a b:ByteArray}{h:ad}{K:ByteArray×Bool→ad→Prop}(d:∀s:ByteArray,a.data.toList=b.data.toList++s.data.toList→K (s,true) h)(i:(∀r,a.data.toList≠b.data.toList++r)→K (⟨#[]⟩,false) h):HC PG uY [.string a,.string b] [.c .str,.c .bool] K h:=by
 refine GU a b ?_;unfold A5 qz;refine Iv ?_;have j:=jK a;have f:=jK b;by_cases c:b.data.toList<+:a.data.toList
 ·rw[decide_eq_true c]
  have g:=c.length_le;refine ah.2 ⟨⟨by omega,by omega⟩,?_⟩
  rw[aM];refine d _ ?_;rw[AE];obtain⟨r,e⟩:=c;rw[←e,←f,gk]
 ·rw[decide_eq_false c]
  exact az.2 (i fun r e=>c ⟨r,e.symm⟩)
end Go.Proofs
