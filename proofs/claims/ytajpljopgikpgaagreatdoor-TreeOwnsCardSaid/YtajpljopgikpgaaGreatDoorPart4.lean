/- A part of the proof that the named laws of this program answer true, whatever the input. -/
import Derived.Test.YtajpljopgikpgaaGreatDoorPart3
import Derived.Test.YtajpljopgikpgaaGreatDoorPart2
open Array renaming toList_inj→iW
open ByteArray renaming mk→kS,data_append→pA
open Iff renaming rfl→tN
open Int renaming toNat_natCast→aM
open List renaming mem_append→bM,mem_of_mem_take→hP,mem_cons→aw,getElem_of_mem→bP,getElem?_eq_getElem→af,getElem_mem→aU,length→eE,length_drop→aO,length_nil→bw,mem_singleton→aq,append_eq_nil_iff→gv,take_length→cd,take_append_drop→aG,length_take→aD,append_cancel_left→fi,mem_of_getElem?→bK,getElem?_set→fe,mem_map→g8,pairwise_append→ci,mem_cons_self→av,pairwise_cons→ba,lt_irrefl→sr,mem_cons_of_mem→aL,length_append→ad,length_map→bH,length_cons→az,length_singleton→aE,append_nil→bh,flatMap_cons→aR,append_assoc→au,cons_append→dN,cons→eO,range_succ→ix,flatMap_append→bq,filter_eq_self→fJ,any_eq_true→co,mem_range→fW,getElem_take→pm,getElem_drop→pn,mem_of_getElem→m8,drop_left→gt
open List.Pairwise renaming nil→ey
open Nat renaming le_refl→aj,lt_or_ge→bG,lt_of_lt_of_le→bI,add_mul→iR,le_trans→aX,zero_le→aS,zero_add→aI,zero_testBit→ge
open Option renaming map_eq_some_iff→kN
open Prod renaming mk→qe,ext→w9
namespace Go.Proofs
open Go Go.Lift
theorem KidO.move{o:Option Addr}{W W' M:Nat→Prop}{h c:ae}(k:Upd M h c){a:Option Addr}{n:Bn}{S:Nat→Prop}(r:KidO o W h a n S)(e:∀y,S y→y<h.size)(hm:∀y,M y→(W y∧¬S y)∨h.size≤y)(d:∀y,W' y→W y∨h.size≤y):KidO o W' c a n S:=
 ((r.less (W':=fun y=>W y∨h.size≤y) fun y b=>b).upd k e fun y b=>(hm y b).imp (fun h=>⟨.inl h.1,h.2⟩) id).less fun y b=>.inl (d y b)
theorem Bz{o ow:Option Addr}{W S M:Nat→Prop}{h f:ae}{b:Nat}{s:SliceV}{ks:List (Option Addr)}{Us Us':List (Nat→Prop)}
  (j:(OwOk W h ow∧(¬W b)∧Sl lY 1 W h s ks∧∀y,¬S y)∨(o.isSome=true∧ow=o∧∃A:Nat→Prop,OwnS lY 1 aW A h s ks∧(∀y,A y→S y∧y≠b∧y<h.size)∧S b∧∀U∈Us,∀y,U y→¬A y∧y≠b))
  (B:b<h.size)(m:Upd M h f)(hM:∀y,M y→S y∧∃U∈Us,U y)(p:∀U∈Us',∀y,U y→((∃V∈Us,V y)∨h.size≤y)∧y<f.size):
  (OwOk W f ow∧Sl lY 1 No f s ks∧(∀U∈Us',∀y,U y→y<f.size))∨(o.isSome=true∧ow=o∧∃A:Nat→Prop,OwnS lY 1 aW A f s ks∧(∀y,A y→S y∧y≠b∧y<f.size)∧S b∧∀U∈Us',∀y,U y→¬A y∧y≠b):=by
 have z:=m.size;rcases j with⟨n,_,x,k⟩|⟨e,v,A,u,d,g,i⟩
 ·exact .inl ⟨n.upd m fun y a=>absurd (hM y a).1 (k y),(x.upd m fun y a=>absurd (hM y a).1 (k y)).less fun _ h=>h.elim,fun U c y a=>(p U c y a).2⟩
 ·refine .inr ⟨e,v,A,u.upd m fun y a hm=>?_,fun y a=>⟨(d y a).1,(d y a).2.1,by have:=(d y a).2.2;omega⟩,g,fun U c y a=>?_⟩
  ·obtain⟨_,U,c,t⟩:=hM y hm
   exact(i U c y t).1 a
  ·rcases(p U c y a).1 with⟨V,w,hv⟩|h
   ·exact i V w y hv
   ·exact⟨fun q=>by have:=(d y q).2.2;omega,by omega⟩
set_option maxHeartbeats 4000000 in
theorem O7{w' o:Option Addr}:∀(n:Nat) {W S:Nat→Prop} {b:Nat} {sl:ByteArray} {w:Option ByteArray} {F:Fo} {h:ae} (k v:ByteArray),k.size<n→k.size≤1000000→RxO o W h b sl w F S→By h w' o→(∀y,W y→y<h.size)→(∀y,S y→W y)→(∀a,o=some a→W a.block)→(∀a,w'=some a→¬S a.block)→fG F→∀{K:(Option Addr)×Bool×Bool→ae→Prop},
  (∀O q w2 F2 S2 E ch,Upd S h O→RxO o (fun y=>W y∨S2 y) O q sl w2 F2 S2→(∀y,S2 y→(S y∨h.size≤y)∧y<O.size)→fG F2→ui (qy w F) (qy w2 F2) k.data.toList v→(ch=false→q=b∧w2=w∧F2=F∧Upd No h O∧qy w F k.data.toList v)→(qy w F k.data.toList v→ch=false)→K (some ⟨q,0,none⟩,E,ch) O)→
  HC PG mI [.pointer (some ⟨b,0,none⟩),.pointer w',.string k,.string v] [.c .ptr,.c .bool,.c .bool] K h:=by
 intro n;induction n with
 |zero=>intro W S b sl w F h k v hk;omega
 |succ n ih=>
  intro W S b sl w F h k v hkn hk6 r t hW D hWo hwS hc K hk;refine BZ (some ⟨b,0,none⟩) w' k v ?_;unfold uN bR cQ aY im vJ cY Qn bD f9 Hv tP Hu UD;have hr:=r;have hno:o=none→∀y,¬S y:=fun e=>by subst e;exact r.off.2
  obtain⟨val,s,ow,ks,Us,hb,hv,hs,hL,hUS,hPD,hown⟩:=r.view;have hn:=jA hc;have hcan:=eN.1 hc;have hSb:∀y,S y→y<h.size:=fun y d=>hW y (D y d)
  have N:∀U∈Us,∀y,U y→y<h.size:=fun U G y d=>hSb y (hUS U G y d)
  have zb:=aN hb;have own2:=fun{B:ae} {M:Nat→Prop} (ku:Upd M h B) (hM:∀y,M y→S y∧∃U∈Us,U y) (Us':List (Nat→Prop)) (G:∀U∈Us',∀y,U y→((∃V∈Us,V y)∨h.size≤y)∧y<B.size)=>Bz (Us':=Us') hown zb ku hM G
  have hUh:∀{B:ae},h.size≤B.size→∀U∈Us,∀y,U y→((∃V∈Us,V y)∨h.size≤y)∧y<B.size:=fun z U G y d=>⟨.inl ⟨U,G,d⟩,by have:=N U G y d;omega⟩
  have hno':∀{A X:Nat→Prop} {bb bx:Nat} {T:List (Nat→Prop)},(∀y,A y→S y∨h.size≤y)→(S bb∨h.size≤bb)→o=none→(∀y,A y→¬(W y∨SR o bx X T y))∧¬(W bb∨SR o bx X T bb):=fun{A X bb bx T} hA hb e=>by
   have no:∀y,(S y∨h.size≤y)→¬(W y∨SR o bx X T y):=fun y d hw=>by
    rcases hw with hw|⟨hw,_⟩
    ·rcases d with h|h
     ·exact hno e y h
     ·have:=hW y hw;omega
    ·rw[e]at hw;cases hw
   exact⟨fun y d=>no y (hA y d),no _ hb⟩
  rw[jB];refine aB (fun hk0=>?_) fun hk0=>?_
  ·have hke:k.data.toList= []:=by rw[hk0]
   rw[hke]at hk;refine Join.intro (fun t O=>t=decide (w=some v)∧O=h) (fun R hR=>⟨_,rfl,w.isSome,dE (i:=1) hb,?_⟩) ?_
   ·cases hw:w with
    |none=>exact al.2 (hR _ _ ⟨by rw[hw];rfl,rfl⟩)
    |some u=>
     refine ax.2 ⟨_,rfl,val,dE (i:=2) hb,hR _ _ ⟨?_,rfl⟩⟩;rw[jB,vw hv u hw,hw];exact decide_eq_decide.2 ⟨fun e=>by rw[e],fun e=>Option.some.inj e⟩
   ·rintro t' O ⟨rfl,rfl⟩
    refine aB (fun e=>?_) fun e=>?_
    ·refine hk O b w F S false false (Upd.refl _ _) (hr.less fun y d=>.inl (d.elim id (D y))) (fun y d=>⟨.inl d,hSb y d⟩) hc ?_ (fun _=>⟨rfl,rfl,rfl,Upd.refl _ _,.inl ⟨rfl,e⟩⟩) fun _=>rfl
     rw[e];exact GC hc v
    ·have fin:∀{h1 B:ae} {q:Nat} {s1:SliceV} {A1:Nat→Prop},OwnS lY 1 aW A1 h1 s1 ks→(∀y,A1 y→(S y∨O.size≤y)∧y≠q∧y<h1.size)→(S q∨O.size≤q)→(∀U∈Us,∀y,U y→¬A1 y∧y≠q)→Upd No O h1→B[q]? =some (.cells (xf sl true v s1 o) bC (0,0))→Upd (· =q) h1 B→∀E,K (some ⟨q,0,none⟩,E,true) B:=fun{h1 B q s1 A1} hA1 f g P p b2 C E=>by
      have z1:=p.size;have z2:=C.size;have zb':=aN b2;have u02:Upd (· =q) O B:=p.wide.tr C
      have hSR:∀y,SR o q A1 Us y→(S y∨O.size≤y)∧y<B.size:=fun y d=>y4 g zb' (fun y d=>⟨(f y d).1,by have:=(f y d).2.2;omega⟩) (fun U G y d=>⟨.inl (hUS U G y d),by have:=N U G y d;omega⟩) d
      refine hk B q (some v) F (SR o q A1 Us) E true (u02.mono fun y d=>by have d:y=q:=d;rw[d];exact g) (wp b2 rfl (hA1.upd C fun y d=>(f y d).2.1) (fun y d=>⟨(f y d).2.1,by have:=(f y d).2.2;omega⟩) P hPD (hL.move u02 N (fun y d=>?_) fun y d=>d.elim .inl fun h=>(hSR y h).1.imp (D y) id) (hno' (fun y d=>(f y d).1) g)) hSR hc (GC hc v) (fun h=>by cases h) fun J=>?_
      ·have d:y=q:=d
       subst d;exact g.imp (fun h=>⟨D y h,fun U G hu=>(P U G y hu).2 rfl⟩) id
      ·rcases J with⟨_,h⟩|h
       ·exact absurd h e
       ·exact absurd rfl (oI hc h)
     have ow0:=own2 (Upd.refl No O) (fun _ h=>h.elim) Us (hUh (aj _))
     refine⟨_,rfl,?_,w.isSome,dE (i:=1) hb,?_⟩
     ·refine ll (S:=S) (Us:=Us) t hWo hb (by rw[hL.1];exact hn) ow0 fun h1 q s1 A1 b1 hA1 f g P p=>⟨?_,w.isSome,dE (i:=1) (p.get0 hb),?_⟩
      ·refine sC b1 fun B b2 C=>?_
       have hb2:∃val2,aJ B (adr ⟨b,0,none⟩ 1)=some (.bool val2):=by
        by_cases e2:b=q
        ·rw[e2];exact⟨_,dE (i:=1) b2⟩
        ·exact⟨_,dE (i:=1) ((p.wide.tr C).get hb e2)⟩
       obtain⟨v2,hv2⟩:=hb2;exact⟨v2,hv2,fin hA1 f g P p b2 C _⟩
      ·exact sC b1 fun B b2 C=>fin hA1 f g P p b2 C _
     ·exact ll (S:=S) (Us:=Us) t hWo hb (by rw[hL.1];exact hn) ow0 fun h1 q s1 A1 b1 hA1 f g P p=>sC b1 fun B b2 C=>fin hA1 f g P p b2 C _
  ·have L:k.data.toList≠[]:=fun e=>hk0 (by cases k;exact congrArg kS (iW.1 e))
   obtain⟨c0,hc0,hc0e⟩:=Eu L;refine⟨c0,Int.le_refl _,hc0,?_⟩;have hlk:k.data.toList.length=k.size:=by simp
   refine Gu (hr.read t) hc (c:=c0.toNat) (UInt8.toNat_lt _) fun i ok hil hlo hhi hok=>?_
   rw[hc0e]at hlo hhi hok;cases ok with
   |false=>
    have hno2:∀hi:i<F.toL.length,hd F.toL[i].1≠hd k.data.toList:=fun hi e=>by have:=hok.2 ⟨hi,e⟩;cases this
    have hhi':∀j (hj:j<F.toL.length),i≤j→hd k.data.toList<hd F.toL[j].1:=fun j hj hij=>by
     have h1:=hhi j hj hij;rcases bG i j with hl|hl
     ·have B:=List.pairwise_iff_getElem.1 hcan.1 i j (by omega) hj hl
      have h3:=hhi i (by omega) (aj _);omega
     ·have:i=j:=by omega
      subst this;have:=hno2 hj;omega
    obtain⟨hc',hp'⟩:=Pk (v:=v) hc L hlo hhi';refine ax.2 ?_;refine ll (S:=S) (Us:=Us) t hWo hb (by rw[hL.1];exact hn) (own2 (Upd.refl No h) (fun _ h=>h.elim) Us (hUh (aj _))) fun h1 q s1 A1 b1 hA1 f g P p=>?_
    refine⟨_,rfl,s1,dE (i:=3) b1,?_⟩;refine JA (t.upd0 p) fun B fb fs Af fb2 hAf hAfs hfb C=>⟨dE (i:=3) (C.get0 b1),bU ?_⟩
    have k3:=Upd.hnew No B [.pointer (some ⟨fb,0,none⟩)] aW;have b3:=cO B [.pointer (some ⟨fb,0,none⟩)] aW;have z3:(hnew B [.pointer (some ⟨fb,0,none⟩)] aW).size=B.size+1:=jm ..;simp only[fE B];generalize hnew B [.pointer (some ⟨fb,0,none⟩)] aW=h3 at k3 b3 z3;have hu13:=C.tr k3;refine⟨dE (i:=3) (hu13.get0 b1),?_⟩;have z01:=p.size
    have z1:=aN b1;have z2:=C.size;have zf:=aN fb2;have ho3:=(hA1.upd hu13 fun _ _ h=>h).more (M':=fun x=>A1 x∨h3.size≤x) fun x hx=>.inl hx
    refine My ho3 (k:=i) (by rw[hL.1];exact hil) (by rw[hL.1];omega) b3 (fun h=>h.elim (fun h=>by have:=(f _ h).2.2;omega) fun h=>by omega) (fun x hx=>.inr hx) fun s4 h4 ho4 hu4=>?_
    have b4:=hu4.get (hu13.get0 b1) (fun h=>h.elim (fun h=>(f _ h).2.1 rfl) fun h=>by omega)
    have f4:=hu4.get (k3.get0 fb2) (fun h=>h.elim (fun h=>by have:=(f _ h).2.2;omega) fun h=>by omega)
    refine⟨_,rfl,QI (i:=3) b4 (show 3<5 by decide),D3 (i:=3) (c':=xf sl w.isSome val s4 o) b4 rfl fun h5 b5 hu5=>?_⟩
    have z4:=hu4.size;have z5:=hu5.size;have u05:Upd (fun y=>y=q∨A1 y) h h5:=((p.tr hu13).wide.trans hu4 fun x hx=>hx.imp .inr fun h=>by omega).trans hu5 fun x hx=>.inl (.inl hx)
    have ho5:=ho4.within.upd hu5 fun x hx e=>by
     have e:x=q:=e;subst e;rcases hx.1 with h|h
     ·exact(f _ h).2.1 rfl
     ·omega
    have nfb:¬fb=q:=by omega
    have f5:=hu5.get f4 nfb;have hAf5:=((hAf.upd k3 fun _ _ h=>h).upd hu4 (fun y d h=>by
     have:=hAfs y d
     rcases h with h|h
     ·have:=(f y h).2.2;omega
     ·omega)).upd hu5 fun y d e=>by
      have e:y=q:=e;have:=hAfs y d;omega
    have hSf:∀y,SR o fb Af [] y→h1.size≤y∧y<B.size:=fun y d=>by
     rcases d.2 with rfl|h|⟨U,G,_⟩
     ·exact⟨hfb,zf⟩
     ·have:=hAfs y h;omega
     ·cases G
    have hmem:∀U∈Us.take i++SR o fb Af []::Us.drop i,U∈Us∨U=SR o fb Af []:=fun U G=>by
     rcases bM.1 G with h|h
     ·exact .inl (hP h)
     ·rcases aw.1 h with h|h
      ·exact .inr h
      ·exact .inl (List.mem_of_mem_drop h)
    have hA5:∀y,((A1 y∨h3.size≤y)∧y<h4.size)→(S y∨h.size≤y)∧y≠q∧y<h5.size:=fun y d=>by
     rcases d.1 with h|h
     ·exact⟨(f y h).1,(f y h).2.1,by omega⟩
     ·exact⟨.inr (by omega),by omega,by omega⟩
    have hS2:∀y,SR o q (fun y=>(A1 y∨h3.size≤y)∧y<h4.size) (Us.take i++SR o fb Af []::Us.drop i) y→(S y∨h.size≤y)∧y<h5.size:=fun y d=>y4 g (aN b5) (fun y d=>⟨(hA5 y d).1,(hA5 y d).2.2⟩) (fun U G y d=>by
     rcases hmem U G with h|rfl
     ·exact⟨.inl (hUS U h y d),by have:=N U h y d;omega⟩
     ·have:=hSf y d;exact⟨.inr (by omega),by omega⟩) d
    refine hk h5 q w _ (SR o q (fun y=>(A1 y∨h3.size≤y)∧y<h4.size) (Us.take i++SR o fb Af []::Us.drop i)) true true (u05.mono fun y d=>?_) (wp b5 hv ho5 (fun y d=>(hA5 y d).2) (fun U G y d=>?_) (UX hPD (by rw[hL.2.1];exact hil) fun U G y d hu=>?_) (by
     rw[Fo.to_of]
     refine(hL.move u05 N (fun y d=>?_) fun y d=>d.elim .inl fun h=>(hS2 y h).1.imp (D y) id).ins hil ⟨fb,k,rfl,rfl,V8 f5 hAf5 (fun y d=>?_) (hno' (fun y d=>.inr ?_) (.inr (by omega)))⟩
     ·rcases d with rfl|h
      ·exact g.imp (fun h=>⟨D _ h,fun U G hu=>(P U G _ hu).2 rfl⟩) id
      ·exact(f y h).1.imp (fun hs=>⟨D y hs,fun U G hu=>(P U G y hu).1 h⟩) id
     ·have:=hAfs y d;exact⟨this.2.1,by omega⟩
     ·have:=hAfs y d;omega) (hno' (fun y d=>(hA5 y d).1) g)) hS2 hc' (Bw L hp') (fun h=>by cases h) fun J=>?_
    ·rcases d with rfl|h
     ·exact g
     ·exact(f y h).1
    ·rcases hmem U G with h|rfl
     ·have:=P U h y d
      have B:=N U h y d;exact⟨fun h=>h.1.elim this.1 fun h=>by omega,this.2⟩
     ·have:=hSf y d
      exact⟨fun h=>h.1.elim (fun h=>by have:=(f y h).2.2;omega) fun h=>by omega,by omega⟩
    ·have:=hSf y d;have:=N U G y hu;omega
    ·rcases J with⟨h,_⟩|J
     ·exact absurd h L
     ·obtain⟨n',hn',e,_⟩:=qF hc J
      obtain⟨j,hj,rfl⟩:=bP hn';rcases bG j i with hl|hl
      ·have:=hlo j hj hl;omega
      ·have:=hhi' j hj hl;omega
   |true=>
    obtain⟨hi,hie⟩:=hok.1 rfl;refine al.2 ⟨_,rfl,s,dE (i:=3) hb,?_⟩;have hki0:i<ks.length:=by rw[hL.1];exact hi
    have hUi0:i<Us.length:=by rw[hL.2.1];exact hi
    obtain⟨kb,ksl,hke,Q,hkn⟩:=hL.2.2 i _ _ _ (af hki0) (af hi) (af hUi0);have hki:ks[i]? =some (some ⟨kb,0,none⟩):=by rw[af hki0,hke]
    have hUie:Us[i]? =some Us[i]:=af hUi0;have hUim:Us[i]∈Us:=aU hUi0;have hmem:F.toL[i]∈F.toL:=aU hi;have Y:=hcan.2 _ hmem;obtain⟨a,ha,_,hvv⟩:=hs.at0 hki;have hslen:=hs.len;rw[hL.1]at hslen;have hlt1:(i:Int)<((s.len:Nat):Int):=by omega
    refine⟨⟨by simp only;omega,hlt1⟩,a,ha,some ⟨kb,0,none⟩,hvv,_,rfl,?_⟩;obtain⟨kval,kss,kow,kks,kUs,hkb,_⟩:=hkn.view;refine⟨ksl,dE (i:=0) hkb,PE hk6 ?_⟩;rw[Q];have hc1:=R0 L Y.1 hie.symm;have hcle:=Oy k.data.toList F.toL[i].1;have hct:=Ow k.data.toList F.toL[i].1;have hcd:=Im k.data.toList F.toL[i].1;have hll:ksl.size=F.toL[i].1.length:=by rw[←Q];simp
    have hin_m:pv F k.data.toList v→sy F.toL[i] k.data.toList v:=fun J=>by
     obtain⟨n',hn',e,hN⟩:=qF hc J;rw[←xz hc hn' hmem (by omega)];exact hN
    have hin_f:sy F.toL[i] k.data.toList v→pv F k.data.toList v:=fun J=>fK.2 ⟨_,hmem,J⟩
    have hset:∀{w2:Option ByteArray} {F2:Fo} {nl:List UInt8},nl≠[]→hd nl=hd F.toL[i].1→fG F2→Br (qy w2 F2)→fG (.ofL (F.toL.set i (nl,w2,F2))):=fun h1 B h3 h4=>Oz hc hi ⟨h1,(EN h3).2 h4,h3⟩ B
    have hputs:∀{m:Bn},ui (sy F.toL[i]) (sy m) k.data.toList v→ui (pv F) (pv (.ofL (F.toL.set i m))) k.data.toList v:=fun hp=>JN hc hi hie hp
    have hsame:ui (sy F.toL[i]) (sy F.toL[i]) k.data.toList v→ui (pv F) (pv F) k.data.toList v:=Pi hc hi hie;have I:∀y,Us[i] y→S y:=hUS _ hUim;have hUib:∀y,Us[i] y→y<h.size:=N _ hUim;have hUid:∀j U,j≠i→Us[j]? =some U→Dj Us[i] U:=fun j U hj eU=>hPD i j _ _ (Ne.symm hj) hUie eU
    have nUb:¬Us[i] b:=fun hu=>by
     rcases hown with⟨_,_,_,hS0⟩|⟨_,_,A,_,_,_,hUA⟩
     ·exact hS0 _ (I _ hu)
     ·exact(hUA _ hUim b hu).2 rfl
    generalize F.toL[i]=m at Q hkn Y hc1 hcle hct hcd hll hin_m hin_f hset hputs hsame hie;generalize Us[i]=Ui at hkn hUie hUim I hUib hUid nUb;generalize hcc:cm k.data.toList m.1=c at hc1 hcle hct hcd;obtain⟨lab,wk,Fk⟩:=m;simp only at Q hkn Y hcle hct hcd hll hie hset;refine Join.intro (fun t O=>∃ub Z wu Fu SU,t=some ⟨ub,0,none⟩∧Upd Ui h O∧RxO o (fun y=>W y∨SU y) O ub Z wu Fu SU∧(∀y,SU y→(Ui y∨h.size≤y)∧y<O.size)∧fG Fu∧Z.data.toList=k.data.toList.take c∧(∀k' v',sy (Z.data.toList,wu,Fu) k' v'↔sy (lab,wk,Fk) k' v')∧(∀w' F',fG F'→ui (qy wu Fu) (qy w' F') (k.data.toList.drop c) v→Br (qy w' F'))∧(Upd No h O∨¬qy wu Fu (k.data.toList.drop c) v)) (fun R hR=>⟨_,rfl,ksl,dE (i:=0) hkb,?_⟩) ?_
    ·refine aB (fun hlt=>?_) fun hge=>?_
     ·have hlt:c<lab.length:=by omega
      have hdne:lab.drop c≠[]:=fun e=>by
       have:=congrArg eE e;rw[aO,bw]at this;omega
      have hhd:k.data.toList.drop c≠[]→hd (k.data.toList.drop c)≠hd (lab.drop c):=fun hne=>by
       refine hcd ?_ hlt;rcases bG c k.data.toList.length with hl|hl
       ·exact hl
       ·exact absurd (List.drop_eq_nil_of_le hl) hne
      have hcs:fG (.cons (ksl.data.toList.drop c) wk Fk .nil):=by
       rw[Q];exact⟨hdne,Y.2.1,Y.2.2,fun _ h=>by simp[Fo.toL]at h,trivial⟩
      refine Jz hkn t hW (fun y d=>D y (I y d)) hWo (jA Y.2.2) (c:=c) (by omega) fun h1 ub SU rn hSU p=>hR _ _ ⟨ub,_,none,_,SU,rfl,p,rn,hSU,hcs,?_,?_,?_,.inr ?_⟩
      ·rw[Al,Q,hct]
      ·intro k' v'
       rw[Al,Q];exact GR c k' v'
      ·intro w' F' hcF hp
       rw[Q]at hp;exact Se hdne Y.2.1 Y.2.2 hhd hp
      ·rintro(⟨_,h⟩|J)
       ·cases h
       ·obtain⟨n',hn',e,r',er,_⟩:=qF hcs J
        rw[Q]at hn';simp only[Fo.toL,aq]at hn';subst hn';refine hhd (fun e2=>hdne ?_) e.symm
        rw[e2]at er;exact(gv.1 er.symm).1
     ·have hce:c=lab.length:=by omega
      refine hR _ _ ⟨kb,ksl,wk,Fk,Ui,rfl,Upd.refl _ _,hkn.less fun y d=>.inl (d.elim id fun h=>D y (I y h)),fun y d=>⟨.inl d,hUib y d⟩,Y.2.2,?_,?_,?_,.inl (Upd.refl _ _)⟩
      ·rw[Q,hct,hce,cd]
      ·intro k' v';rw[Q]
      ·intro w' F' hcF hp
       exact T0 ((EN Y.2.2).1 Y.2.1) hp
    ·rintro t' h1 ⟨ub,Z,wu,Fu,SU,rfl,p,rn,hSU,hcu,hsl,hinn,hbr,hsp⟩
     refine⟨⟨by omega,by omega⟩,?_⟩
     rw[aM];have hkd:(k.extract c k.size).data.toList=k.data.toList.drop c:=Am ..;have hks:(k.extract c k.size).size=k.size-c:=by simp
     have hktd:k.data.toList=Z.data.toList++k.data.toList.drop c:=by rw[hsl,aG]
     have hslne:Z.data.toList≠[]:=by
      rw[hsl];intro e;have:=congrArg eE e;rw[aD,bw]at this;omega
     have hslhd:hd Z.data.toList=hd lab:=by
      rw[hie];conv=>rhs;rw[hktd]
      rw[oJ hslne]
     have z01:=p.size;have tU:∀{M:Nat→Prop} {O:ae},Upd M h O→(∀y,M y→Ui y)→By O w' o:=fun ku hM=>t.upd ku fun b e d=>absurd (I _ (hM _ d)) (hwS _ e)
     refine ih (W:=fun y=>W y∨SU y) (S:=SU) (k.extract c k.size) v (by rw[hks];omega) (by rw[hks];omega) rn (tU p fun _ h=>h) (fun y d=>d.elim (fun h=>bI (hW y h) z01) fun h=>(hSU y h).2) (fun y d=>.inr d) (fun a e=>.inl (hWo a e)) (fun a e d=>?_) hcu fun B b2 w2 F2 SV E ch C rn2 hSV hc2 hp2 hsm hch=>?_
     ·rcases(hSU _ d).1 with h|h
      ·exact hwS a e (I _ h)
      ·have:=t.lt e;omega
     rw[hkd]at hp2 hch hsm;have z12:=C.size;have hpn:ui (sy (lab,wk,Fk)) (sy (Z.data.toList,w2,F2)) k.data.toList v:=by
      have:=QT (Pj (lab:=Z.data.toList) hp2) hinn;rw[←hktd]at this;exact this
     have hchg:qy w F k.data.toList v→ch=false:=fun J=>by
      rcases J with⟨h,_⟩|J
      ·exact absurd h L
      ·obtain⟨r,e,hr'⟩:=(hinn _ _).2 (hin_m J)
       simp only at e;rw[hktd]at e;have e2:=fi e;rw[←hktd]at e;exact hch (by rw[e2];exact hr')
     cases ch with
     |false=>
      obtain⟨_,e2,e3,hu20,hin2⟩:=hsm rfl;subst e2 e3;rcases hsp with u01|hn2
      ·have hu02:=u01.tr hu20
       have hsz:=hu02.size;refine ax.2 (hk B b w F S false false hu02.wide ((hr.upd0 hu02).less fun y d=>.inl (d.elim id (D y))) (fun y d=>⟨.inl d,by have:=hSb y d;omega⟩) hc (Bw L (hsame ?_)) (fun _=>⟨rfl,rfl,rfl,hu02,.inr (hin_f ((hinn _ _).1 ⟨_,hktd,hin2⟩))⟩) fun _=>rfl)
       intro k' v';exact(hinn k' v').symm.trans (hpn k' v')
      ·exact absurd hin2 hn2
     |true=>
      refine al.2 ?_;have ku:Upd Ui h B:=p.trans C fun y d=>(hSU y d).1
      have hSV':∀y,SV y→(Ui y∨h.size≤y)∧y<B.size:=fun y d=>⟨(hSV y d).1.elim (fun h=>(hSU y h).1) fun h=>.inr (by omega),(hSV y d).2⟩
      have hmem2:∀U∈Us.set i SV,U∈Us∨U=SV:=fun U G=>List.mem_or_eq_of_mem_set G
      have hSVm:SV∈Us.set i SV:=bK (i:=i) (by rw[fe,if_pos rfl,if_pos hUi0]);refine ll (W:=W) (S:=S) (Us:=Us.set i SV) (tU ku fun _ h=>h) hWo (ku.get hb nUb) (by rw[hL.1];exact hn) (own2 ku (fun y d=>⟨I y d,_,hUim,d⟩) _ fun U G y d=>?_) fun h3 q s3 A3 b3 ho3 H g hU3 hu3=>?_
      ·rcases hmem2 U G with h|rfl
       ·exact⟨.inl ⟨U,h,d⟩,by have:=N U h y d;omega⟩
       ·exact⟨(hSV' y d).1.imp (fun h=>⟨_,hUim,h⟩) id,(hSV' y d).2⟩
      refine⟨_,rfl,s3,dE (i:=3) b3,?_⟩;obtain⟨a3,ha3,hab,hw3,ho4,hu4⟩:=OwnS.setAt ho3 hki0 (some ⟨b2,0,none⟩);have hlen3:=ho3.len;refine⟨⟨by simp only;omega,by simp only;omega⟩,a3,ha3,?_⟩
      have hw1:Wr h3 (adr a3 (i*1)):=by
       rcases hw3 with hw|⟨q,g,hw⟩
       ·cases hw
       ·cases g;exact hw 0 (by simp)
      refine⟨hw1,bU ?_⟩;have b4:=hu4.get b3 fun e=>by have e:q=a3.block:=e;exact(H _ hab).2.1 e.symm
      have hu24:Upd A3 B _:=hu3.wide.trans hu4 fun x hx=>.inl (by have hx:x=a3.block:=hx;rw[hx];exact hab)
      have u04:Upd (fun y=>Ui y∨A3 y) h _:=(ku.mono fun y d=>.inl (.inl d)).trans hu24 fun x hx=>.inl (.inr hx)
      have eset:ks.set i (some ⟨b2,0,none⟩)=ks.take i++some ⟨b2,0,none⟩::ks.drop (i+1):=by rw[List.set_eq_take_append_cons_drop,if_pos hki0]
      rw[←eset]at ho4;have z3:=hu3.size;have z4:=hu4.size;change K (some ⟨q,0,none⟩,E,true) (iC h3 (adr a3 (i*1)) 0 (lY (some ⟨b2,0,none⟩)));generalize iC h3 (adr a3 (i*1)) 0 (lY (some ⟨b2,0,none⟩))=h4 at*;have hS2:∀y,SR o q A3 (Us.set i SV) y→(S y∨h.size≤y)∧y<h4.size:=fun y d=>y4 (g.imp id fun h=>by omega) (aN b4) (fun y d=>⟨(H y d).1.imp id fun h=>by omega,by have:=(H y d).2.2;omega⟩) (fun U G y hz=>by
       rcases hmem2 U G with h|rfl
       ·exact⟨.inl (hUS U h y hz),by have:=N U h y hz;omega⟩
       ·exact⟨(hSV' y hz).1.imp (I y) id,by have:=(hSV' y hz).2;omega⟩) d
      refine hk h4 q w _ (SR o q A3 (Us.set i SV)) E true (u04.mono fun y d=>?_) (wp b4 hv ho4 (fun y d=>⟨(H y d).2.1,by have:=(H y d).2.2;omega⟩) hU3 (QZ hPD fun j U hj eU y d hu=>?_) (by
       rw[Fo.to_of]
       refine LsO.set hL.1 hL.2.1 (fun j k' n' U hj ek en eU=>KidO.move u04 (hL.2.2 j k' n' U ek en eU) (N U (bK eU)) (fun y d=>?_) fun y d=>d.elim .inl fun h=>(hS2 y h).1.imp (D y) id) (KidO.move hu24 ⟨b2,Z,rfl,rfl,rn2⟩ (fun y d=>(hSV y d).2) (fun y d=>?_) fun y d=>?_)
       ·rcases d with h|h
        ·exact .inl ⟨D y (I y h),hUid j U hj eU y h⟩
        ·refine(H y h).1.imp (fun hs=>⟨D y hs,fun hu=>(hU3 U (bK (i:=j) (by rw[fe,if_neg (Ne.symm hj)];exact eU)) y hu).1 h⟩) fun h=>by omega
       ·exact(H y d).1.imp (fun hs=>⟨.inl (.inl (D y hs)),fun hu=>(hU3 SV hSVm y hu).1 d⟩) id
       ·rcases d with h|⟨_,rfl|h|⟨U,G,h⟩⟩
        ·exact .inl (.inl (.inl h))
        ·exact g.imp (fun h=>.inl (.inl (D _ h))) id
        ·exact(H y h).1.imp (fun h=>.inl (.inl (D _ h))) id
        ·rcases hmem2 U G with B|rfl
         ·exact .inl (.inl (.inl (D _ (hUS U B y h))))
         ·exact .inl (.inr h)) (hno' (fun y d=>(H y d).1.imp id fun h=>by omega) (g.imp id fun h=>by omega))) hS2 (hset hslne hslhd hc2 (hbr _ _ hc2 hp2)) (Bw L (hputs hpn)) (fun h=>by cases h) hchg
      ·rcases d with h|h
       ·exact .inl (I y h)
       ·exact(H y h).1.imp id fun h=>by omega
      ·rcases(hSV' y d).1 with h|h
       ·exact hUid j U hj eU y h hu
       ·have:=N U (bK eU) y hu;omega
end Go.Proofs
namespace Go.Proofs
open Go Go.Lift
def xF:Fo→List (List UInt8×ByteArray)
 | .nil=> []
 | .cons lab w kids rest=>((w.map fun v=>(([]:List UInt8),v)).toList++xF kids).map (fun p=>(lab++p.1,p.2))++xF rest
def l6(w:Option ByteArray)(F:Fo):List (List UInt8×ByteArray):=(w.map fun v=>(([]:List UInt8),v)).toList++xF F
theorem sF:∀{F:Fo} {k:List UInt8} {v:ByteArray},(k,v)∈xF F↔pv F k v
 | .nil,_,_=>by simp[xF,pv]
 | .cons lab w kids rest,k,v=>by
  unfold xF pv;rw[bM,sF (F:=rest)];refine or_congr ?_ tN;rw[g8];constructor
  ·rintro⟨⟨r,u⟩,hm,b⟩
   simp only[qe.injEq]at b;obtain⟨rfl,rfl⟩:=b;refine⟨r,rfl,?_⟩;rcases bM.1 hm with h|h
   ·left
    rw[Option.mem_toList,kN]at h;obtain⟨a,c,b⟩:=h;simp only[qe.injEq]at b;exact⟨b.1.symm,by rw[c,b.2]⟩
   ·exact .inr (sF.1 h)
  ·rintro⟨r,rfl,h⟩
   refine⟨(r,v),bM.2 ?_,rfl⟩;rcases h with⟨rfl,h⟩|h
   ·left;rw[h];simp
   ·exact .inr (sF.2 h)
theorem jZ{w:Option ByteArray}{F:Fo}{k:List UInt8}{v:ByteArray}:(k,v)∈l6 w F↔qy w F k v:=by
 unfold l6 qy;rw[bM,sF];refine or_congr ?_ tN;cases w with
 |none=>simp
 |some u=>simp[Prod.ext_iff,eq_comm]
abbrev Up(l:List (List UInt8×ByteArray)):Prop:=l.Pairwise fun p q=>p.1<q.1
theorem VA{a x y:List UInt8}(h:x<y):a++x<a++y:=by
 induction a with
 |nil=>exact h
 |cons c a ih=>exact List.Lex.cons ih
theorem Rl{x y:List UInt8}(c:y≠[])(h:hd x<hd y):x<y:=by
 match x,y,c with
 | [],b::y,_=>exact List.Lex.nil
 |a::x,b::y,_=>exact List.Lex.rel (UInt8.lt_iff_toNat_lt.2 h)
theorem L7:∀{F:Fo},fG F→Up (xF F)
 | .nil,_=>ey
 | .cons lab w kids rest,h=>by
  unfold xF;refine ci.2 ⟨?_,L7 h.2.2.2.2,?_⟩
  ·rw[List.pairwise_map]
   refine List.Pairwise.imp (R:=fun p q:List UInt8×ByteArray=>p.1<q.1) (fun j=>VA j) ?_
   refine ci.2 ⟨?_,L7 h.2.2.1,?_⟩
   ·cases w<;>simp
   ·intro a f b g
    have d:b.1≠[]:=oI h.2.2.1 (sF (F:=kids).1 (show(b.1,b.2)∈_ from g))
    have i:a.1= []:=by
     rw[Option.mem_toList,kN]at f;obtain⟨v,_,e⟩:=f;rw[←e]
    rw[i];match b.1,d with
    |c::l,_=>exact List.Lex.nil
  ·intro a f b g
   obtain⟨p,_,rfl⟩:=g8.1 f;obtain⟨n,k,e,_⟩:=qF h.2.2.2.2 (sF (F:=rest).1 (show(b.1,b.2)∈_ from g))
   have d:b.1≠[]:=oI h.2.2.2.2 (sF (F:=rest).1 (show(b.1,b.2)∈_ from g))
   have:=h.2.2.2.1 n k;exact Rl d (by rw[oJ h.1];omega)
theorem Ty{w:Option ByteArray}{F:Fo}(h:fG F):Up (l6 w F):=by
 refine ci.2 ⟨by cases w<;>simp,L7 h,?_⟩
 intro a g b i;have d:b.1≠[]:=oI h (sF (F:=F).1 (show(b.1,b.2)∈_ from i))
 have f:a.1= []:=by
  rw[Option.mem_toList,kN]at g;obtain⟨v,_,e⟩:=g;rw[←e]
 rw[f];match b.1,d with
 |c::l,_=>exact List.Lex.nil
theorem Qp:∀{l l':List (List UInt8×ByteArray)},Up l→Up l'→(∀p,p∈l↔p∈l')→l=l'
 | [],[],_,_,_=>rfl
 | [],q::l',_,_,h=>absurd ((h q).2 (av ..)) (by simp)
 |p::l,[],_,_,h=>absurd ((h p).1 (av ..)) (by simp)
 |p::l,q::l',c,a,h=>by
  have c:=ba.1 c;have a:=ba.1 a;have e:p=q:=by
   rcases aw.1 ((h p).1 (av ..))with e|d
   ·exact e
   ·rcases aw.1 ((h q).2 (av ..))with e|f
    ·exact e.symm
    ·exact absurd (List.lt_trans (c.1 q f) (a.1 p d)) (sr _)
  subst e;rw[Qp c.2 a.2 fun z=>?_]
  constructor
  ·intro hz
   rcases aw.1 ((h z).1 (aL _ hz))with e|b
   ·exact absurd (c.1 z hz) (by rw[e];exact sr _)
   ·exact b
  ·intro hz
   rcases aw.1 ((h z).2 (aL _ hz))with e|b
   ·exact absurd (a.1 z hz) (by rw[e];exact sr _)
   ·exact b
def Ap:Fo→Nat
 | .nil=>0
 | .cons _ _ kids rest=>1+Ap kids+Ap rest
theorem Ds:∀{F:Fo},fG F→Ap F+F.toL.length≤2*(xF F).length
 | .nil,_=>by simp[Ap,Fo.toL]
 | .cons lab w kids rest,h=>by
  have c:=Ds h.2.2.1;have b:=Ds h.2.2.2.2;have a:=h.2.1;rw[Fo.toL_cons];unfold Ap xF;rw[ad,bH,ad,az];cases w with
  |none=>
   simp only[Option.map_none,Option.toList_none,bw];have:2≤kids.toL.length:=a.resolve_left (by simp);omega
  |some v=>simp only[Option.map_some,Option.toList_some,aE];omega
def IX:Fo→Prop
 | .nil=>True
 | .cons lab w kids rest=>lab.length≤10000∧(∀v,w=some v→v.size≤10000)∧kids.toL.length≤256∧IX kids∧IX rest
theorem MJ:∀{F:Fo},fG F→(∀k v,pv F k v→k.length≤10000∧v.size≤10000)→IX F
 | .nil,_,_=>trivial
 | .cons lab w kids rest,h,hl=>by
  obtain⟨r,v,c⟩:=mc h _ (av ..);have b:=(hl _ v (fK.2 ⟨_,av ..,r,rfl,c⟩)).1;rw[ad]at b;simp only at b;refine⟨by omega,fun v hv=>(hl lab v (.inl ⟨[],(bh _).symm,.inl ⟨rfl,hv⟩⟩)).2,jA h.2.2.1,MJ h.2.2.1 fun k v a=>?_,MJ h.2.2.2.2 fun k v a=>hl k v (.inr a)⟩
  have:=hl (lab++k) v (.inl ⟨k,rfl,.inr a⟩);rw[ad]at this;exact⟨by omega,this.2⟩
def tQ:Option ByteArray→List UInt8
 |some v=>1::nf v
 |none=> [0]
def qS(lab:List UInt8)(w:Option ByteArray)(n:Nat):List UInt8:=nf ⟨lab.toArray⟩++(tQ w++ma n 2)
def nL:Fo→List UInt8
 | .nil=> []
 | .cons lab w kids rest=>qS lab w kids.toL.length++(nL kids++nL rest)
def iq(n:Bn):List UInt8:=qS n.1 n.2.1 n.2.2.toL.length++nL n.2.2
theorem wm:∀F:Fo,nL F=F.toL.flatMap iq
 | .nil=>rfl
 | .cons lab w kids rest=>by
  rw[Fo.toL_cons,aR,←wm rest];show qS lab w kids.toL.length++(nL kids++nL rest)=(qS lab w kids.toL.length++nL kids)++nL rest
  rw[au]
theorem GG{lab:List UInt8}{w:Option ByteArray}{n:Nat}(b:lab.length≤10000)(a:∀v,w=some v→v.size≤10000):(qS lab w n).length≤20010:=by
 unfold qS;rw[ad,ad,iS,df];have e:(kS lab.toArray).size=lab.length:=by simp[ByteArray.size]
 rw[e];cases w with
 |none=>simp only[tQ,aE];omega
 |some v=>have:=a v rfl;simp only[tQ,az,iS];omega
theorem yC:∀{F:Fo},IX F→(nL F).length≤Ap F*20010
 | .nil,_=>by simp[nL]
 | .cons lab w kids rest,h=>by
  have c:=GG (n:=kids.toL.length) h.1 h.2.1;have a:=yC h.2.2.2.1;have b:=yC h.2.2.2.2;unfold nL Ap;rw[ad,ad,iR,iR];omega
theorem GH{lab a:List UInt8}{w w':Option ByteArray}{n e:Nat}{r i:List UInt8}(m:lab.length≤10000)(f:a.length≤10000)(j:∀v,w=some v→v.size≤10000)(d:∀v,w'=some v→v.size≤10000)(q:n≤256)(o:e≤256)(h:qS lab w n++r=qS a w' e++i):lab=a∧w=w'∧n=e∧r=i:=by
 unfold qS at h;simp only[au]at h;have z:∀l:List UInt8,(kS l.toArray).size=l.length:=fun l=>by simp[ByteArray.size]
 obtain⟨c,h⟩:=xe (by rw[z];exact m) (by rw[z];exact f) h;have c:lab=a:=by
  have:=congrArg (fun b:ByteArray=>b.data.toList) c
  simpa using this
 cases w with
 |none=>
  cases w' with
  |none=>
   simp only[tQ,dN,List.nil_append,eO.injEq,true_and]at h;obtain⟨g,h⟩:=ux (k:=2) (by omega) (by omega) h;exact⟨c,rfl,g,h⟩
  |some v=>simp[tQ]at h
 |some v=>
  cases w' with
  |none=>simp[tQ]at h
  |some v'=>
   simp only[tQ,dN,eO.injEq,true_and]at h;obtain⟨p,h⟩:=xe (j v rfl) (d v' rfl) h;obtain⟨g,h⟩:=ux (k:=2) (by omega) (by omega) h;exact⟨c,by rw[p],g,h⟩
theorem yD:∀{F F':Fo} {r r':List UInt8},IX F→IX F'→F.toL.length=F'.toL.length→nL F++r=nL F'++r'→F=F'∧r=r'
 | .nil,.nil,_,_,_,_,_,h=>⟨rfl,h⟩
 | .nil,.cons ..,_,_,_,_,e,_=>by simp[Fo.toL]at e
 | .cons ..,.nil,_,_,_,_,e,_=>by simp[Fo.toL]at e
 | .cons lab w kids rest,.cons lab' w' kids' rest',r,r',h1,h2,e,h=>by
  unfold nL at h;simp only[au]at h;obtain⟨a,c,f,h⟩:=GH h1.1 h2.1 h1.2.1 h2.2.1 h1.2.2.1 h2.2.2.1 h;obtain⟨d,h⟩:=yD h1.2.2.2.1 h2.2.2.2.1 f h;obtain⟨b,h⟩:=yD h1.2.2.2.2 h2.2.2.2.2 (by rw[Fo.toL_cons,Fo.toL_cons]at e;simpa using e) h;exact⟨by rw[a,c,d,b],h⟩
end Go.Proofs
namespace Go.Proofs
open Go Go.Lift
theorem T4{M:Nat→Prop}{h:ae}{c:SliceV}{out ys:List UInt8}{vs:List Value}(hv:vs=ys.flatMap nX){n:Nat}(e:n=ys.length){K:SliceV→ae→Prop}(i:OwnS nX 1 cr M h c out)(hM:∀b,h.size≤b→M b)(m:out.length+ys.length≤140737488355328)
  (j:∀s' a,OwnS nX 1 cr M a s' (out++ys)→Upd M h a→K s' a):
  ∃xs,SRow (hnew h vs cr) (some (aC h)) (n*1) xs∧AppP (some [.int .u8 0]) 1 1 cr c.a c.len c.cap n xs (hnew h vs cr) K:=by
 subst hv e;have k:=Upd.hnew No h (ys.flatMap nX) cr;have f:OwnS nX 1 cr (fun _=>True) (hnew h (ys.flatMap nX) cr) ⟨some (aC h),ys.length,ys.length⟩ ys:=⟨rfl,qJ,aj _,.inr ⟨h.size,[],rfl,trivial,by rw[bh];exact cO ..,by simp⟩⟩
 refine⟨_,(f.sl (W:=No) fun _ _ _ h=>h).srow,?_⟩
 refine AppP.own (ys:=ys) (i.upd k fun _ _ h=>h) rfl rfl (zU _) rfl (by omega) (by omega) (hM _ (by rw[jm];omega)) fun s' a d g=>?_
 exact j s' a d ((Upd.hnew M h _ _).tr g)
def Xd(W:Nat→Prop)(n:Bn):Prop:=∀{b:Nat} {sl:ByteArray} {h0 h:ae} {M:Nat→Prop} {s:SliceV} {xs:List UInt8},RxN W h0 b sl n.2.1 n.2.2→sl.data.toList=n.1→Upd No h0 h→(∀y,M y→h0.size≤y)→OwnS nX 1 cr M h s xs→(∀y,h.size≤y→M y)→
 xs.length+(iq n).length≤140737488355328→∀{K:SliceV→ae→Prop},(∀s' h',OwnS nX 1 cr M h' s' (xs++iq n)→Upd M h h'→K s' h')→HC PG jQ [.pointer (some ⟨b,0,none⟩),.slice s.a s.len s.cap] [.c .slice] K h
theorem QE{W:Nat→Prop}{lab:List UInt8}{w:Option ByteArray}{c:Fo}(hl:lab.length≤10000)(hw:∀v,w=some v→v.size≤10000)(hk256:c.toL.length≤256)(ih:∀m∈c.toL,Xd W m):Xd W (lab,w,c):=by
 intro b sl h0 h M s xs r G hu0 H ho hM hx K P;simp only at r G;have E:(⟨lab.toArray⟩:ByteArray)=sl:=by rw[←G]
 refine xI (some ⟨b,0,none⟩) s ?_;unfold qX bR cQ aY Bh bD f9 UE SX;obtain⟨val,z,ow,ks,X,hv,hs,hcap,hF⟩:=r;have hL:=rc.1 hF;have Q:∀{g},Upd M h g→Upd No h0 g:=fun k=>hu0.trans k fun y T=>.inr (H y T)
 have blk:∀{g},Upd M h g→g[b]? =some (.cells (xf sl w.isSome val z ow) bC (0,0)):=fun k=>(Q k).get0 X
 have u:∀{g},Upd M h g→∀y,g.size≤y→M y:=fun k y T=>hM y (aX k.size T)
 have hsz:sl.size=lab.length:=by rw[←G];simp
 have q:=hs.len;rw[hL.1]at q;unfold iq at hx P;rw[wm]at hx P;simp only at hx P;rw[ad]at hx;have J:(qS lab w c.toL.length).length=2+lab.length+((tQ w).length+2):=by
  unfold qS;rw[ad,ad,iS,df,E,hsz]
 refine⟨_,rfl,sl,dE (i:=0) (blk (Upd.refl M h)),?_⟩;refine C9 (W:=No) (ho.sl fun _ _ _ h=>h) ho.cap sl (by omega) (by omega) fun s2 h2 A hu2=>?_
 have A:=A.more hM;have d:Upd M h h2:=hu2.wide;refine Join.intro (fun t g=>OwnS nX 1 cr M g t (xs++nf sl++(tQ w))∧Upd M h g) (fun R O=>⟨_,rfl,w.isSome,dE (i:=1) (blk d),?_⟩) ?_
 ·cases w with
  |none=>
   refine al.2 (bU ?_);refine uC (b:=0) rfl A (u d) ?_ fun s3 N o f=>O _ _ ⟨o,d.tr f⟩
   rw[ad,iS];simp only[tQ,aE]at J;omega
  |some v=>
   have S:=vw hv v rfl;subst S;have hvs:=hw val rfl;simp only[tQ,az,iS]at J;have k3:Upd M h (hnew h2 [.int .u8 1] cr):=d.tr (Upd.hnew M h2 _ _);refine ax.2 ⟨_,rfl,val,dE (i:=2) (blk d),bU ⟨dE (i:=2) (blk k3),?_⟩⟩;refine uC (b:=1) rfl A (u d) (by rw[ad,iS];omega) fun s3 N o f=>⟨dE (i:=2) (blk (d.tr f)),?_⟩
   refine C9 (W:=No) (o.sl fun _ _ _ h=>h) o.cap val (by omega) (by rw[ad,ad,iS,aE];omega) fun s4 h4 n B=>O _ _ ⟨?_,(d.tr f).tr B.wide⟩
   have n:=n.more (u (d.tr f));simp only[tQ,au,List.singleton_append]at n⊢;exact n
 ·rintro s3 N ⟨o,f⟩
  have e8:Int.fdiv (z.len:Int) (2^(min (8:Int).toNat (IntKind.bits .i64)))=((c.toL.length>>>8:Nat):Int):=by
   have:(2^(min (8:Int).toNat (IntKind.bits .i64)):Int)=2^8:=rfl;rw[this,q,mg]
  refine Join.intro (fun t g=>OwnS nX 1 cr M g t (xs++qS lab w c.toL.length)∧Upd M h g) (fun R O=>⟨_,rfl,z,dE (i:=3) (blk f),_,rfl,z,dE (i:=3) (blk f),by omega,?_⟩) ?_
  ·simp only[Bd]
   rw[e8];have k4:Upd M h (hnew N [.int .u8 (IntKind.wrap .u8 (z.len:Int)),.int .u8 (IntKind.wrap .u8 ((c.toL.length>>>8:Nat):Int))] cr):=f.tr (Upd.hnew M N _ _);refine bU ⟨dE (i:=3) (blk k4),dE (i:=3) (blk k4),?_⟩;refine T4 (ys:=ma c.toL.length 2) ?_ rfl o (u f) ?_ fun s5 h5 F x=>⟨dE (i:=3) (blk (f.tr x)),dE (i:=3) (blk (f.tr x)),O _ _ ⟨?_,f.tr x⟩⟩
   ·rw[q,IntKind.wrap_u8,IntKind.wrap_u8]
    simp[ma,ix]
   ·rw[ad,ad,iS,df];omega
   ·unfold qS
    rw[E,←au,←au];exact F
  ·rintro s4 h4 ⟨n,B⟩
   refine⟨_,rfl,z,dE (i:=3) (blk B),?_⟩;have hs4:∀{g},Upd M h g→Sl lY 1 W g z ks:=fun k=>hs.upd (Q k) fun _ h=>h.elim
   refine LoopP.ghost (fun(i:Nat) (t:SliceV×Int) g=>t.2=(i:Int)∧i≤c.toL.length∧OwnS nX 1 cr M g t.1 (xs++qS lab w c.toL.length++(c.toL.take i).flatMap iq)∧Upd M h g) (fun i=>c.toL.length-i) 0 ⟨rfl,aS _,by simpa using n,B⟩ ?_
   rintro I i ⟨so,ti⟩ g ⟨e1,hi,C,p⟩ hI;simp only at e1 C;subst e1;have D:∀j:i<c.toL.length,((c.toL.take i).flatMap iq).length+(iq c.toL[i]).length≤(c.toL.flatMap iq).length:=fun j=>by
    have e:c.toL=c.toL.take i++c.toL[i]::c.toL.drop (i+1):=by rw[List.getElem_cons_drop,aG]
    have:=congrArg (fun L=>(List.flatMap iq L).length) e
    simp only[bq,aR,ad]at this;omega
   refine aB (fun j=>?_) fun hge=>?_
   ·have j:i<c.toL.length:=by have:(i:Int)<(z.len:Int):=j;omega
    obtain⟨kb,ksl,Z,Y,hkn⟩:=hL.at j;obtain⟨a,ha,_,V⟩:=(hs4 p).at0 Z;have hsp:=D j;refine⟨⟨by simp only;omega,by simp only;omega⟩,a,ha,some ⟨kb,0,none⟩,V,?_⟩
    refine ih _ (aU j) hkn Y (Q p) H C (u p) (by rw[ad,ad];omega) fun s5 h5 F x=>?_
    rw[cz j (by omega)];refine hI (i+1) _ _ ⟨rfl,j,?_,p.tr x⟩ (by omega);rw[List.take_succ_eq_append_getElem j,bq,aR,List.flatMap_nil,bh,←au];exact F
   ·have U:i=c.toL.length:=by have:¬(i:Int)<(z.len:Int):=hge;omega
    subst U;rw[cd]at C;refine P _ _ ?_ p;rw[←au];exact C
theorem HH{W:Nat→Prop}:∀{F:Fo},IX F→∀n∈F.toL,Xd W n
 | .nil,_,n,a=>by simp[Fo.toL]at a
 | .cons lab w kids rest,h,n,a=>by
  rcases aw.1 a with rfl|a
  ·exact QE h.1 h.2.1 h.2.2.1 (HH h.2.2.2.1)
  ·exact HH h.2.2.2.2 n a
structure RadAt(W:Nat→Prop)(h:ae)(b:Nat)(l:List Pr):Prop where
 ex:∃w F,RxN W h b ⟨#[]⟩ w F∧fG F∧∀k v,(k,v)∈l6 w F↔∃p∈l,p.1.data.toList=k∧p.2=v
theorem RadAt.upd0{W:Nat→Prop}{h a:ae}{b:Nat}{l:List Pr}(k:Upd No h a)(r:RadAt W h b l):RadAt W a b l:=by
 obtain⟨w,F,e,d,c⟩:=r.ex;exact⟨w,F,e.upd0 k,d,c⟩
theorem RadAt.less{W W':Nat→Prop}{h:ae}(hm:∀b,W' b→W b∨h.size≤b){b:Nat}{l:List Pr}(r:RadAt W h b l):RadAt W' h b l:=by
 obtain⟨w,F,d,c,a⟩:=r.ex;exact⟨w,F,d.less hm,c,a⟩
theorem RadAt.updM{W M:Nat→Prop}{h a:ae}(k:Upd M h a)(hm:∀b,M b→W b∨h.size≤b){b:Nat}{l:List Pr}(r:RadAt W h b l):RadAt W a b l:=by
 obtain⟨w,F,e,d,c⟩:=r.ex;exact⟨w,F,e.updM k hm,d,c⟩
def DI(l:List Pr):List (List UInt8×ByteArray):=l.map fun p=>(p.1.data.toList,p.2)
theorem UJ{l:List Pr}(c:cx l):Up (DI l):=by
 unfold DI Up;rw[List.pairwise_map];refine List.Pairwise.imp (R:=fun p q:Pr=>kl p.1 q.1) (fun{a b} h=>?_) c
 rw[Mn,ByteArray.toList_eq,ByteArray.toList_eq]at h;exact h
theorem HA:∀{l l':List Pr},DI l=DI l'→l=l'
 | [],[],_=>rfl
 | [],_::_,h=>by simp[DI]at h
 |_::_,[],h=>by simp[DI]at h
 |p::l,q::l',h=>by
  unfold DI at h;simp only[List.map_cons,eO.injEq,qe.injEq]at h;obtain⟨⟨c,d⟩,f⟩:=h;have e:p.1=q.1:=by
   generalize p.1=a at c;generalize q.1=b at c;cases a;cases b;exact congrArg kS (iW.1 c)
  rw[HA f,w9 e d]
theorem Db{w:Option ByteArray}{F:Fo}{l:List Pr}(hc:fG F)(f:cx l)(c:∀k v,(k,v)∈l6 w F↔∃p∈l,p.1.data.toList=k∧p.2=v):l6 w F=DI l:=by
 refine Qp (Ty hc) (UJ f) fun p=>?_
 have:=c p.1 p.2;rw[show(p.1,p.2)=p from rfl]at this
 rw[this];unfold DI;rw[g8];constructor
 ·rintro⟨q,a,b,d⟩;exact⟨q,a,w9 b d⟩
 ·rintro⟨q,a,e⟩;rw[←e];exact⟨q,a,rfl,rfl⟩
theorem QK{w w':Option ByteArray}{F F':Fo}(hc:fG F)(a:fG F')(h:l6 w F=l6 w' F'):w=w'∧F=F':=by
 have hm:∀k v,qy w F k v↔qy w' F' k v:=fun k v=>by rw[←jZ,←jZ,h]
 refine⟨Option.ext fun v=>?_,MV hc a fun k v=>?_⟩
 ·have:=hm [] v
  constructor
  ·intro e
   rcases this.1 (.inl ⟨rfl,e⟩)with⟨_,h⟩|h
   ·exact h
   ·exact absurd rfl (oI a h)
  ·intro e
   rcases this.2 (.inl ⟨rfl,e⟩)with⟨_,h⟩|h
   ·exact h
   ·exact absurd rfl (oI hc h)
 ·constructor
  ·intro hi
   rcases(hm k v).1 (.inr hi)with⟨e,_⟩|h
   ·exact absurd e (oI hc hi)
   ·exact h
  ·intro hi
   rcases(hm k v).2 (.inr hi)with⟨e,_⟩|h
   ·exact absurd e (oI a hi)
   ·exact h
end Go.Proofs
namespace Go.Proofs
open Go Go.Lift
theorem ql{p q:Pr}:∀{l:List Pr},cx l→(q∈gA p l↔q=p∨(q∈l∧q.1≠p.1))
 | [],_=>by simp[gA]
 |r::l,d=>by
  have d:=ba.1 d;rw[gP];by_cases c:kl r.1 p.1
  ·have f:r.1≠p.1:=fun e=>by rw[e]at c;exact cD _ c
   rw[if_pos c,aw,aw,ql d.2];constructor
   ·rintro(rfl|h|⟨h,b⟩)
    ·exact .inr ⟨.inl rfl,f⟩
    ·exact .inl h
    ·exact .inr ⟨.inr h,b⟩
   ·rintro(h|⟨h|h,b⟩)
    ·exact .inr (.inl h)
    ·exact .inl h
    ·exact .inr (.inr ⟨h,b⟩)
  ·rw[if_neg c]
   by_cases a:r.1=p.1
   ·rw[if_pos a,aw,aw]
    constructor
    ·rintro(h|h)
     ·exact .inl h
     ·refine .inr ⟨.inr h,fun e=>?_⟩
      have:=d.1 q h;rw[e,a]at this;exact cD _ this
    ·rintro(h|⟨rfl|h,b⟩)
     ·exact .inl h
     ·exact absurd a b
     ·exact .inr h
   ·rw[if_neg a,aw,aw]
    have g:=qE c a;constructor
    ·rintro(h|rfl|h)
     ·exact .inl h
     ·exact .inr ⟨.inl rfl,a⟩
     ·refine .inr ⟨.inr h,fun e=>?_⟩
      have:=iB g (d.1 q h);rw[e]at this;exact cD _ this
    ·rintro(h|⟨rfl|h,b⟩)
     ·exact .inl h
     ·exact .inr (.inl rfl)
     ·exact .inr (.inr h)
def RadRoot(W:Nat→Prop)(h:ae)(r:Option Addr)(l:List Pr):Prop:=(r=none∧l= [])∨∃b,r=some ⟨b,0,none⟩∧RadAt W h b l
theorem RadRoot.upd0{W:Nat→Prop}{h a:ae}{r:Option Addr}{l:List Pr}(k:Upd No h a)(t:RadRoot W h r l):RadRoot W a r l:=t.imp id fun⟨b,e,t⟩=>⟨b,e,t.upd0 k⟩
theorem pO{a b:ByteArray}:a.data.toList=b.data.toList↔a=b:=by
 constructor
 ·intro h;cases a;cases b;exact congrArg kS (iW.1 h)
 ·rintro rfl;rfl
theorem LP{W:Nat→Prop}{h:ae}(a:∀y,W y→y<h.size){K:Option Addr→ae→Prop}(c:∀h' b,RadAt W h' b []→Upd No h h'→K (some ⟨b,0,none⟩) h'):HC PG qb [] [.c .ptr] K h:=by
 refine F3 ?_;unfold yj Jc;refine bU (c _ h.size ⟨none,.nil,⟨⟨#[]⟩,⟨none,0,0⟩,none,[],cO h Uj bC,rfl,Sl.nil oC,⟨aj _,fun hx=>Nat.lt_irrefl _ (a _ hx),lm⟩,rfl⟩,trivial,fun k v=>?_⟩ (Upd.hnew No h _ _))
 simp[l6,xF]
def M4(l:List Pr)(xs:List UInt8):Prop:=∃w F,fG F∧l6 w F=DI l∧xs=iq ([],w,F)
theorem wF{w:Option ByteArray}{F:Fo}{l:List Pr}(hc:fG F)(c:l6 w F=DI l)(b:Fit l):IX F∧∀v,w=some v→v.size≤10000:=by
 have hm:∀k v,qy w F k v→k.length≤10000∧v.size≤10000:=fun k v hi=>by
  have:=jZ.2 hi;rw[c]at this;obtain⟨q,a,e⟩:=g8.1 this;cases e;have:=b q a;exact⟨by simpa using this.1,this.2⟩
 exact⟨MJ hc fun k v hi=>hm k v (.inr hi),fun v hv=>(hm [] v (.inl ⟨rfl,hv⟩)).2⟩
theorem Tm{l l':List Pr}{xs a:List UInt8}(h:M4 l xs)(k:M4 l' a)(m:Fit l)(g:Fit l'):xs=a↔l=l':=by
 obtain⟨w,F,c,e,rfl⟩:=h;obtain⟨w',F',c',b,rfl⟩:=k;have i:=wF c e m;have j:=wF c' b g;constructor
 ·intro hx
  have hx:iq ([],w,F)++ []=iq ([],w',F')++ []:=by rw[hx]
  unfold iq at hx;simp only[au]at hx;obtain⟨_,d,n,hx⟩:=GH (aS _) (aS _) i.2 j.2 (jA c) (jA c') hx;obtain⟨f,_⟩:=yD i.1 j.1 n hx;exact HA (by rw[←e,←b,d,f])
 ·rintro rfl
  obtain⟨d,f⟩:=QK c c' (e.trans b.symm);rw[d,f]
theorem zS{l:List Pr}{xs:List UInt8}(h:M4 l xs)(d:Fit l):xs.length≤20010+2*l.length*20010:=by
 obtain⟨w,F,c,e,rfl⟩:=h;have a:=wF c e d;have g:=GG (lab:= []) (n:=F.toL.length) (aS _) a.2;have f:=yC a.1;have j:=Ds c;have b:=congrArg eE e;unfold l6 DI at b;rw[ad,bH]at b;have i:Ap F*20010≤2*l.length*20010:=Nat.mul_le_mul_right _ (by omega);unfold iq;rw[ad];simp only;omega
theorem JG{W:Nat→Prop}{h:ae}{b:Nat}{l:List Pr}(t:RadAt W h b l)(j:cx l)(f:Fit l)(p:l.length≤60000){K:SliceV→ae→Prop}
  (n:∀s' a xs,M4 l xs→OwnS nX 1 cr (fun y=>h.size≤y) a s' xs→Upd No h a→K s' a):HC PG tZ [.pointer (some ⟨b,0,none⟩)] [.c .slice] K h:=by
 refine F1 _ ?_;unfold yi;refine al.2 ?_;obtain⟨w,F,o,c,g⟩:=t.ex;have e:=Db c j g;have d:=wF c e f;have hv:M4 l (iq ([],w,F)):=⟨w,F,c,e,rfl⟩;have q:=zS hv f;exact QE (lab:= []) (aS _) d.2 (jA c) (HH d.1) (s:=⟨none,0,0⟩) (xs:= []) (M:=fun y=>h.size≤y) o rfl (Upd.refl _ _) (fun _ h=>h) (OwnS.nil qJ) (fun _ h=>h) (by rw[bw];omega) fun s' a k i=>n s' a _ hv k (i.mono fun y m=>.inr m)
end Go.Proofs
namespace Go.Proofs
open Go Go.Lift
theorem aP{h:ae}{cs:List Value}{t:TypeId}{k:ae→Prop}(a:∀h',h'[h.size]? =some (.cells cs.toArray t (0,0))→Upd No h h'→k h'):At (hnew h cs t) k:=
 bU (a _ (cO h cs t) (Upd.hnew No h cs t))
theorem vc{h:ae}{b:Nat}{c:Array Value}{t:TypeId}(a:h[b]? =some (.cells c t (0,0))) (i:Nat):aJ h (adr ⟨b,0,none⟩ i)=c[i]?:=by rw[bV,aI];exact bl a
theorem oz{h:ae}{b:Nat}{c:Array Value}{t:TypeId}(a:h[b]? =some (.cells c t (0,0))) (i j:Nat):aJ h (adr (adr ⟨b,0,none⟩ i) j)=c[i+j]?:=by rw[bV,bV,aI];exact bl a
theorem sA{h:ae}{b i:Nat}{c c':Array Value}{t:TypeId}{v:Value}{k:ae→Prop}(f:h[b]? =some (.cells c t (0,0))) (hi:i<c.size) (e:c.setIfInBounds i v=c') (j:∀a,a[b]? =some (.cells c' t (0,0))→Upd (· =b) h a→k a):Wr h (adr ⟨b,0,none⟩ i)∧At (hset h (adr ⟨b,0,none⟩ i) v) k:=by
 rw[bV,aI];exact⟨iX f hi,vB f fun a d g=>j a (e▸d) g⟩
theorem _root_.Go.Lift.Upd.own{h c a:ae}{b:Nat}(k:Upd No h c)(d:Upd (· =b) c a)(e:h.size≤b):Upd No h a:=k.trans d fun x hx=>.inr (by have hx:x=b:=hx;omega)
theorem _root_.Go.Lift.Upd.oth{h d:ae}{b c:Nat}{o:Obj}(e:Upd (· =b) h d)(hc:h[c]? =some o) (a:c≠b):d[c]? =some o:=e.get hc a
abbrev Tr:=Int×Int×Int×Int×(Option Addr)×(Option Addr)
abbrev lP(t:Tr):List Value:= [.int .i64 t.1,.int .u64 t.2.1,.int .u64 t.2.2.1,.int .u64 t.2.2.2.1,.pointer t.2.2.2.2.1,.pointer t.2.2.2.2.2]
abbrev DG(t:Tr):Value:=.agg #[.int .i64 t.1,.int .u64 t.2.1,.int .u64 t.2.2.1,.int .u64 t.2.2.2.1,.pointer t.2.2.2.2.1,.pointer t.2.2.2.2.2]
def Pro(W:Nat→Prop)(h a:ae)(y:Nat):Prop:=W y∨(h.size≤y∧y<a.size)
theorem Pro.lt{W:Nat→Prop}{h a:ae}(b:∀y,W y→y<h.size)(k:Upd No h a):∀y,Pro W h a y→y<a.size:=fun y c=>c.elim (fun h=>bI (b y h) k.size) fun h=>h.2
theorem Pro.hm{W:Nat→Prop}{h a:ae}:∀y,Pro W h a y→W y∨h.size≤y:=fun _ b=>b.imp id fun h=>h.1
theorem Pro.sub{W:Nat→Prop}{h a b:ae}:∀y,W y→Pro W h a y∨b.size≤y:=fun _ c=>.inl (.inl c)
theorem RootAt.less{W W':Nat→Prop}{x:Hs}{h:ae}(hm:∀b,W' b→W b∨h.size≤b){r:Option Addr}{l:List Pr}(t:RootAt W x h r l):RootAt W' x h r l:=t.imp id fun⟨b,e,t⟩=>⟨b,e,TrieAt.less hm t⟩
theorem RadRoot.less{W W':Nat→Prop}{h:ae}(hm:∀b,W' b→W b∨h.size≤b){r:Option Addr}{l:List Pr}(t:RadRoot W h r l):RadRoot W' h r l:=t.imp id fun⟨b,e,t⟩=>⟨b,e,t.less hm⟩
def TreeIs(W:Nat→Prop)(h:ae)(a:Int)(x:Hs)(t:Tr)(l:List Pr):Prop:=(a=0∧∃b,t=(0,x.k0,x.k1,x.mask,some ⟨b,0,none⟩,none)∧TrieAt W x h 13 b l)∨(a=1∧∃b,t=(1,0,0,0,none,some ⟨b,0,none⟩)∧RadAt W h b l)
theorem TreeIs.upd0{W:Nat→Prop}{h d:ae}{a:Int}{x:Hs}{t:Tr}{l:List Pr}(k:Upd No h d)(i:TreeIs W h a x t l):TreeIs W d a x t l:=
 i.imp (fun⟨e,b,c,t⟩=>⟨e,b,c,TrieAt.upd0 k t⟩) fun⟨e,b,c,t⟩=>⟨e,b,c,t.upd0 k⟩
theorem TreeIs.less{W W':Nat→Prop}{h:ae}(hm:∀b,W' b→W b∨h.size≤b){a:Int}{x:Hs}{t:Tr}{l:List Pr}(i:TreeIs W h a x t l):TreeIs W' h a x t l:=
 i.imp (fun⟨e,b,c,t⟩=>⟨e,b,c,TrieAt.less hm t⟩) fun⟨e,b,c,t⟩=>⟨e,b,c,t.less hm⟩
theorem TreeIs.updM{W M:Nat→Prop}{h d:ae}(k:Upd M h d)(hm:∀b,M b→W b∨h.size≤b){a:Int}{x:Hs}{t:Tr}{l:List Pr}(i:TreeIs W h a x t l):TreeIs W d a x t l:=
 i.imp (fun⟨e,b,c,t⟩=>⟨e,b,c,TrieAt.updM k hm t⟩) fun⟨e,b,c,t⟩=>⟨e,b,c,t.updM k hm⟩
theorem TreeIs.pro{W:Nat→Prop}{h b:ae}(k:Upd No h b){a:Int}{x:Hs}{t:Tr}{l:List Pr}(i:TreeIs W h a x t l):TreeIs (Pro W h b) b a x t l:=(i.less Pro.hm).upd0 k
theorem FQ{W:Nat→Prop}{x:Hs}{h:ae}(e:∀y,W y→y<h.size){K:Option Addr→ae→Prop}(f:∀a b,TrieAt W x a 13 b []→Upd No h a→K (some ⟨b,0,none⟩) a):HC PG nn [] [.c .ptr] K h:=by
 refine Ga ?_;unfold yq;exact vh e fun a b d c=>f a b (Qt d) c
abbrev DH:Tr:=(0,0,0,0,none,none)
theorem Jp{W:Nat→Prop}{x:Hs}{h:ae}{r:Option Addr}{l:List Pr}(t:RootAt W x h r l)(v:∀y,W y→y<h.size){K:Tr→ae→Prop}(w:∀e t,TreeIs W e 0 x t l→Upd No h e→K t e):HC PG rL [.agg #[.int .u64 x.k0,.int .u64 x.k1,.int .u64 x.mask],.pointer r] [.agg [.int .i64,.int .u64,.int .u64,.int .u64,.ptr,.ptr]] K h:=by
 refine EW (x.k0,x.k1,x.mask) r ?_;unfold wX bj ag aH eP Bx Dt Hw;refine aP fun k b1 k1=>aP fun p b2 m=>?_
 have A:=aN b1;have z:=aN b2;have d:=k1.tr m;refine Join.intro (fun t e=>Upd No p e∧∃b,t=some ⟨b,0,none⟩∧TrieAt (Pro W h p) x e 13 b l) (fun R q=>?_) ?_
 ·rcases t with⟨rfl,rfl⟩|⟨b,rfl,t⟩
  ·exact ax.2 (FQ (Pro.lt v d) fun s b t a=>q _ _ ⟨a,b,rfl,t⟩)
  ·exact al.2 (q _ _ ⟨Upd.refl _ _,b,rfl,TrieAt.upd0 d (TrieAt.less Pro.hm t)⟩)
 ·rintro o s ⟨a,b,rfl,o⟩
  have i:=a.get0 (m.get0 b1);refine⟨_,vc i 0,_,vc i 1,_,vc i 2,?_⟩;refine cC (c:=lP DH) (vs:=lP (0,x.k0,x.k1,x.mask,some ⟨b,0,none⟩,none)) (a.get0 b2) rfl fun u f g=>?_
  refine⟨_,vc f 0,_,vc f 1,_,vc f 2,_,vc f 3,_,vc f 4,_,vc f 5,?_⟩;have j:h.size≤k.size:=k1.size;exact w u _ (.inl ⟨rfl,b,rfl,TrieAt.less Pro.sub (TrieAt.updM g (fun y n=>.inl (.inr (by have n:y=k.size:=n;omega))) o)⟩) ((d.tr a).own g j)
theorem Jo{W:Nat→Prop}{x:Hs}{h:ae}{r:Option Addr}{l:List Pr}(t:RadRoot W h r l)(p:∀y,W y→y<h.size){K:Tr→ae→Prop}(q:∀e t,TreeIs W e 1 x t l→Upd No h e→K t e):HC PG rK [.pointer r] [.agg [.int .i64,.int .u64,.int .u64,.int .u64,.ptr,.ptr]] K h:=by
 refine EV r ?_;unfold wW bj ag aH eP Dt Hw;refine aP fun j b2 d=>?_
 have s:=aN b2;refine Join.intro (fun t e=>Upd No j e∧∃b,t=some ⟨b,0,none⟩∧RadAt (Pro W h j) e b l) (fun R k=>?_) ?_
 ·rcases t with⟨rfl,rfl⟩|⟨b,rfl,t⟩
  ·exact ax.2 (LP (Pro.lt p d) fun o b t a=>k _ _ ⟨a,b,rfl,t⟩)
  ·exact al.2 (k _ _ ⟨Upd.refl _ _,b,rfl,(t.less Pro.hm).upd0 d⟩)
 ·rintro i o ⟨a,b,rfl,i⟩
  refine cC (c:=lP DH) (vs:=lP (1,0,0,0,none,some ⟨b,0,none⟩)) (a.get0 b2) rfl fun n f g=>?_
  refine⟨_,vc f 0,_,vc f 1,_,vc f 2,_,vc f 3,_,vc f 4,_,vc f 5,?_⟩;exact q n _ (.inr ⟨rfl,b,rfl,(i.updM g (fun y m=>.inl (.inr (by have m:y=h.size:=m;omega)))).less Pro.sub⟩) ((d.tr a).own g (aj _))
theorem NS{W:Nat→Prop}{x:Hs}{h:ae}(q:∀y,W y→y<h.size){a:Int}(m:a=0∨a=1){K:Tr×Int→ae→Prop}(u:∀h' t,TreeIs W h' a x t []→Upd No h h'→K (t,0) h'):HC PG vm [.int .i64 a,.agg #[.int .u64 x.k0,.int .u64 x.k1,.int .u64 x.mask]] [.agg [.int .i64,.int .u64,.int .u64,.int .u64,.ptr,.ptr],.c (.int .i64)] K h:=by
 refine Na a (x.k0,x.k1,x.mask) ?_;unfold E4 bj ag aH eP Bx xb Dt uU;refine aP fun j b1 k1=>aP fun s b2 p=>?_
 have z:=aN b1;have w:=aN b2;have f:=k1.tr p;have i:h.size≤j.size:=k1.size;have k:=p.get0 b1;rcases m with rfl|rfl
 ·refine ax.2 ⟨_,vc k 0,_,vc k 1,_,vc k 2,?_⟩
  refine Jp (W:=Pro W h s) (x:=x) (l:= []) (.inl ⟨rfl,rfl⟩) (Pro.lt q f) fun v t n e=>?_
  refine cC (c:=lP DH) (vs:=lP t) (e.get0 b2) rfl fun o b d=>?_
  refine⟨_,vc b 0,_,vc b 1,_,vc b 2,_,vc b 3,_,vc b 4,_,vc b 5,?_⟩;exact u o t ((n.updM d (fun y g=>.inl (.inr (by have g:y=j.size:=g;omega)))).less Pro.sub) ((f.tr e).own d i)
 ·refine al.2 (ax.2 ?_)
  refine Jo (W:=Pro W h s) (x:=x) (l:= []) (.inl ⟨rfl,rfl⟩) (Pro.lt q f) fun v t n e=>?_
  refine cC (c:=lP DH) (vs:=lP t) (e.get0 b2) rfl fun o b d=>?_
  refine⟨_,vc b 0,_,vc b 1,_,vc b 2,_,vc b 3,_,vc b 4,_,vc b 5,?_⟩;exact u o t ((n.updM d (fun y g=>.inl (.inr (by have g:y=j.size:=g;omega)))).less Pro.sub) ((f.tr e).own d i)
end Go.Proofs
namespace Go.Proofs
open Go Go.Lift
def pu(k:ByteArray)(l:List Pr):List Pr:=l.filter fun q=>decide (q.1≠k)
theorem xu(k:ByteArray)(q:Pr)(l:List Pr):pu k (q::l)=if q.1=k then pu k l else q::pu k l:=by
 unfold pu;rw[List.filter_cons];by_cases h:q.1=k
 ·rw[if_pos h,if_neg (by simpa using h)]
 ·rw[if_neg h,if_pos (by simpa using h)]
theorem wR{k:ByteArray}{l:List Pr}(h:∀q∈l,q.1≠k):pu k l=l:=fJ.2 fun q a=>decide_eq_true (h q a)
theorem zI{k:ByteArray}{l:List Pr}(h:cp l k=false):∀q∈l,q.1≠k:=fun q a e=>by
 have:cp l k=true:=co.2 ⟨q,a,decide_eq_true e⟩;rw[h]at this;cases this
theorem zY{k:ByteArray}{l:List Pr}(h:∀q∈l,q.1≠k):cp l k=false:=by
 rcases ht:cp l k with _|_
 ·rfl
 ·obtain⟨q,a,e⟩:=co.1 ht
  exact absurd (of_decide_eq_true e) (h q a)
theorem Pa{k:ByteArray}{l:List Pr}(a:cx l):cx (pu k l):=a.sublist List.filter_sublist
theorem H3{k:ByteArray}{l:List Pr}{p:Pr}:p∈pu k l↔p∈l∧p.1≠k:=by unfold pu;rw[List.mem_filter,decide_eq_true_iff]
theorem RX{k:ByteArray}{l:List Pr}:(pu k l).length≤l.length:=List.length_filter_le ..
theorem Om{k:ByteArray}:∀{l:List Pr},cx l→l.length≤(pu k l).length+1
 | [],_=>aS _
 |q::l,a=>by
  have a:=ba.1 a;rw[xu];by_cases h:q.1=k
  ·rw[if_pos h,wR fun r hm e=>by have:=a.1 r hm;rw[h,e]at this;exact cD _ this];exact aj _
  ·rw[if_neg h]
   have:=Om (k:=k) a.2;simp only[az];omega
theorem On(k:ByteArray):∀{l:List Pr},cx l→PC l k=pu k l
 | [],_=>by simp[PC,pu,cp]
 |q::l,c=>by
  have m:=c;have c:=ba.1 c;have b:nM (q::l) k=if kl q.1 k then nM l k+1 else 0:=by
   unfold nM;rw[List.takeWhile_cons];by_cases h:kl q.1 k
   ·rw[if_pos (by simpa using h),if_pos h];rfl
   ·rw[if_neg (by simpa using h),if_neg h];rfl
  have d:cp (q::l) k=(decide (q.1=k)||cp l k):=by unfold cp;rw[List.any_cons]
  by_cases h:kl q.1 k
  ·have f:q.1≠k:=fun e=>by rw[e]at h;exact cD _ h
   rw[xu,if_neg f,←On k c.2];unfold PC;rw[d,b,if_pos h,decide_eq_false f,Bool.false_or];by_cases i:cp l k=true
   ·rw[if_pos i,if_pos i];rfl
   ·rw[if_neg i,if_neg i]
  ·by_cases e:q.1=k
   ·have a:∀r∈l,r.1≠k:=fun r hm g=>by have:=c.1 r hm;rw[e,g]at this;exact cD _ this
    rw[xu,if_pos e,wR a];unfold PC;rw[d,b,if_neg h,decide_eq_true e,Bool.true_or,if_pos rfl];rfl
   ·have j:=qE h e
    have a:∀r∈q::l,r.1≠k:=fun r hm g=>by
     rcases aw.1 hm with rfl|hm
     ·exact e g
     ·have:=c.1 r hm
      rw[g]at this;exact cD _ (iB j this)
    rw[wR a];unfold PC;rw[zY a];rfl
theorem JV{x:Hs}{lev c:Nat}{k:ByteArray}{l:List Pr}:part x lev c (pu k l)=pu k (part x lev c l):=by
 unfold part pu;rw[List.filter_filter,List.filter_filter];exact List.filter_congr fun p _=>Bool.and_comm ..
theorem Po{x:Hs}{lev c:Nat}{k:ByteArray}{l:List Pr}(h:c≠ck x lev k):part x lev c (pu k l)=part x lev c l:=by
 rw[JV];exact wR fun q a e=>h (by rw[←e];exact(kU.1 a).2.symm)
theorem Oj{β:Type}(g:Nat→Option β):∀n,(fm g n).length=((List.range n).map fun c=>(g c).toList.length).sum
 |0=>rfl
 |n+1=>by
  rw[gj,ad,Oj g n,ix,List.map_append,List.sum_append];simp
theorem Jw{x:Hs}{lev:Nat}{l:List Pr}(h:∀c,c<32→(part x lev c l).length≤1):(fQ x lev l).length=l.length:=by
 unfold fQ;rw[Oj];have e:=rz x lev l 32;have d:(l.filter fun p=>decide (ck x lev p.1<32))=l:=fJ.2 fun p _=>decide_eq_true (x8 x lev p.1)
 rw[d]at e;rw[←e];refine congrArg List.sum (List.map_congr_left fun c hc=>?_)
 have:=h c (fW.1 hc);match hp:part x lev c l with
 | []=>rfl
 | [p]=>rfl
 |a::b::r=>rw[hp]at this;simp at this
theorem Lz{W:Nat→Prop}{x:Hs}{h:ae}{m b:Nat}{l:List Pr}(t:TrieAt W x h m b l)(D:l.length≤1000000):
  ∃d n sp sk bu ow lp lk,h[b]? =some (.cells (fR d n sp sk bu ow) bT (0,0))∧Sl eg 2 W h sp lp∧Sl p6 1 W h sk lk∧lp.length≤1000000∧lk.length≤32∧(lp.length+lk.length=1∧n=0↔l.length=1)∧∀p,l= [p]→lp= [p]:=by
 cases m with
 |zero=>
  obtain⟨sp,sk,ow,A,j,i,_⟩:=BuckAt.ex t;exact⟨0,0,sp,sk,true,ow,l,[],A,j,i,D,by simp,by simp,fun p e=>e⟩
 |succ m=>
  obtain⟨s,E,o⟩:=t;have o:∀c,c<32→SlotIs W x h m s c (part x (12-m) c l):=o;obtain⟨d,n,sp,sk,ow,A,bits,j,i,_⟩:=E.ex;have k:=zN o;have C:=vO (g:=s.p);refine⟨d,n,sp,sk,false,ow,_,_,A,j,i,by omega,vO,?_,?_⟩
  ·by_cases u:∀c,c<32→s.k c=none
   ·have z:n=0:=Nat.eq_of_testBit_eq fun c=>by
     rw[ge];by_cases hc:c<32
     ·rw[bits.nk c hc,u c hc];rfl
     ·exact Nat.testBit_lt_two_pow (bI bits.n32 (Nat.pow_le_pow_right (n:=2) (by omega) (by omega:32≤c)))
    have ek:fm s.k 32= []:=by
     unfold fm;rw[List.filterMap_eq_nil_iff];exact fun c hc=>u c (fW.1 hc)
    have B:(fm s.p 32).length=l.length:=by
     rw[k];refine Jw fun c hc=>?_
     rcases o c hc with⟨f,_⟩|⟨p,f,_⟩|⟨_,_,F,v,_⟩
     ·rw[f];simp
     ·rw[f];simp
     ·rw[u c hc]at v;cases v
    rw[ek,B,z];simp
   ·obtain⟨c,hc⟩:=Classical.not_forall.1 u
    obtain⟨hc,a⟩:=Classical.not_imp.1 hc;have w:n≠0:=fun z=>by
     have:=bits.nk c hc;rw[z,ge]at this;cases hkk:s.k c with
     |none=>exact a hkk
     |some y=>rw[hkk]at this;cases this
    rcases o c hc with⟨_,_,f⟩|⟨p,_,_,f⟩|⟨v,_⟩
    ·exact absurd f a
    ·exact absurd f a
    ·have:=jX (x:=x) (lev:=12-m) (c:=c) (l:=l)
     constructor
     ·rintro⟨_,e⟩;exact absurd e w
     ·intro e;omega
  ·rintro p rfl
   rw[k];have hc:=x8 x (12-m) p.1;have B:(fQ x (12-m) [p]).length=1:=Jw fun c _=>aX jX (by simp)
   match hq:fQ x (12-m) [p],B with
   | [q],_=>
    have:q∈fQ x (12-m) [p]:=by rw[hq];exact aq.2 rfl
    rw[aq.1 (pI this)]
theorem TD{h:ae}{b d n:Nat}{sp sk:SliceV}{c:Bool}{ow:Option Addr}(a:h[b]? =some (.cells (fR d n sp sk c ow) bT (0,0))) (g:sp.len+sk.len≤1000000000) {K:Int→ae→Prop} (f:K ((sp.len+sk.len:Nat):Int) h):HC PG kY [.pointer (some ⟨b,0,none⟩)] [.c (.int .i64)] K h:=by
 refine vV _ ?_;unfold qN bD;refine al.2 ⟨_,rfl,sp,eC (i:=2) a,_,rfl,sk,eC (i:=3) a,?_⟩;have e:IntKind.wrap .i64 ((sp.len:Int)+(sk.len:Int))=((sp.len+sk.len:Nat):Int):=by rw[ji (by omega)];omega
 rw[e];exact f
theorem Sq{W:Nat→Prop}{x:Hs}{h:ae}{m b:Nat}{l:List Pr}(t:TrieAt W x h m b l)(H:l.length≤1000000){K:Pr×Bool→ae→Prop}
  (v:∀j p,Upd No h j→(l.length=1→l= [p])→K (p,decide (l.length=1)) j):HC PG ue [.pointer (some ⟨b,0,none⟩)] [.agg [.str,.str],.c .bool] K h:=by
 refine F9 _ ?_;unfold yp cQ aY eP jU im ay;refine aP fun E b1 k1=>?_
 have G:=TrieAt.upd0 k1 t;obtain⟨d,n,sp,sk,L,ow,P,lk,y,o,z,J,F,c,f⟩:=Lz G H;have N:=o.len;have M:=z.len;refine Join.intro (fun t j=>t= !decide (l.length=1)∧j=E) (fun R D=>?_) ?_
 ·refine TD y (by omega) ?_
  by_cases e:sp.len+sk.len=1
  ·have C:((sp.len+sk.len:Nat):Int)=1:=by omega
   rw[C];refine al.2 (zX y (D _ _ ⟨?_,rfl⟩));by_cases B:n=0
   ·rw[decide_eq_true (c.1 ⟨by omega,B⟩),B];rfl
   ·rw[decide_eq_false fun h=>B (c.2 h).2]
    exact bne_iff_ne.2 (by omega)
  ·have C:(((sp.len+sk.len:Nat):Int) !=(1:Int))=true:=bne_iff_ne.2 (by omega)
   rw[C];refine ax.2 (D _ _ ⟨?_,rfl⟩);rw[decide_eq_false fun h=>e (by have:=(c.2 h).1;omega)];rfl
 ·rintro _ j ⟨rfl,rfl⟩
  have s:j[h.size]? =some (.cells #[.string Hl.1,.string Hl.2] ar (0,0)):=b1;by_cases e:l.length=1
  ·rw[decide_eq_true e]
   refine al.2 ?_;refine oH y o (by omega) fun Q O k u=>?_
   match l,e,f with
   | [p],e,f=>
    have w:=f p rfl;subst w;have q:=k.len;obtain⟨a,I,_,hv⟩:=(k.sl (W:=No) fun _ _ _ h=>h).at (i:=0) (x:=p) rfl
    refine⟨⟨by omega,by simp at q;omega⟩,a,I,p.1,hv 0 _ rfl,p.2,hv 1 _ rfl,?_⟩
    refine Cm (p:=p) (u.get0 s) fun A b3 g=>⟨_,vc b3 0,_,vc b3 1,?_⟩
    have:=v A p ((k1.tr u).own g (aj _)) fun _=>rfl
    exact this
  ·have:=v
   rw[decide_eq_false e];rw[decide_eq_false e]at v;refine ax.2 (Cm (p:=Hl) s fun A b3 g=>⟨_,vc b3 0,_,vc b3 1,?_⟩)
   exact v A _ (k1.own g (aj _)) fun h=>absurd h e
end Go.Proofs
namespace Go.Proofs
open Go Go.Lift
theorem JY{h:ae}{s:SliceV}{l:List Pr}(f:Sl eg 2 No h s l)(hc:s.len≤s.cap)(n:cx l)(E:l.length≤1000000000)(k:ByteArray)
  {K:SliceV→ae→Prop}(y:∀s' h',OwnS eg 2 ar (fun b=>h.size≤b) h' s' (pu k l)→Upd No h h'→K s' h'):HC PG wM [.slice s.a s.len s.cap,.string k] [.c .slice] K h:=by
 refine K9 s k ?_;unfold CP Bh;have d:=f.len;refine Ib f n E k fun q a=>?_
 have C:=QW l k;cases ht:cp l k with
 |false=>
  refine ax.2 (xx (f.upd a fun _ h=>h.elim) (by omega) fun L I u p=>?_)
  rw[wR (zI ht)]at y;exact y _ _ (u.more fun b g=>aX a.size g) (a.tr p)
 |true=>
  obtain⟨G,_⟩:=HR n ht;have B:IntKind.wrap .i64 ((nM l k:Int)+1)=((nM l k+1:Nat):Int):=by rw[ji (by omega)];omega
  refine al.2 ?_;simp only;rw[B];refine⟨by omega,by omega,?_⟩
  simp only[Bd,aM];refine bU ?_;have e:=f.upd a fun _ h=>h.elim
  have o:=Upd.hnew No q [.slice (aV s.a 0 s.cap 2) (nM l k-0) (s.cap-0),.slice (aV s.a (nM l k+1) s.cap 2) (s.len-(nM l k+1)) (s.cap-(nM l k+1))] cq;have F:=cO q [.slice (aV s.a 0 s.cap 2) (nM l k-0) (s.cap-0),.slice (aV s.a (nM l k+1) s.cap 2) (s.len-(nM l k+1)) (s.cap-(nM l k+1))] cq;have z:=HG e (i:=0) (j:=nM l k) (m:=s.cap) (aS _) C (by omega) (s.cap-0)
  have t:=HG e (i:=nM l k+1) (j:=l.length) (m:=s.cap) (by omega) (aj _) (by omega) (s.cap-(nM l k+1));rw[←d]at t;rw[List.drop_zero]at z;rw[List.take_of_length_le (by rw[aO];omega)]at t;have D:pu k l= [l.take (nM l k-0),l.drop (nM l k+1)].flatten:=by rw[←On k n];unfold PC;rw[if_pos ht];simp
  refine G5 (s:=⟨some (aC q),2,2⟩) (vs:= [⟨aV s.a 0 s.cap 2,nM l k-0,s.cap-0⟩,⟨aV s.a (nM l k+1) s.cap 2,s.len-(nM l k+1),s.cap-(nM l k+1)⟩]) (ls:= [l.take (nM l k-0),l.drop (nM l k+1)])
   ⟨rfl,fun x=>⟨rfl,Nat.one_pos⟩,fun _=>⟨_,rfl,fun h=>h.elim,pX F fun i v hv=>by simpa[WP]using hv⟩⟩ ⟨z.upd o fun _ h=>h.elim,t.upd o fun _ h=>h.elim,trivial⟩ ?_ (by simp) fun J H c w=>?_
  ·simp only[List.flatten_cons,List.flatten_nil,ad,aD,aO,bw];omega
  ·rw[←D]at c
   have A:=a.tr o;exact y _ _ (c.more fun b g=>aX A.size g) (A.tr w)
end Go.Proofs
namespace Go.Proofs
def tJ(P a:List UInt8→ByteArray→Prop)(k:List UInt8):Prop:=∀k' v',a k' v'↔k'≠k∧P k' v'
theorem MM{P:List UInt8→ByteArray→Prop}{k:List UInt8}(h:∀v,¬P k v):tJ P P k:=fun k' b=>⟨fun a=>⟨fun e=>h b (e▸a),a⟩,fun h=>h.2⟩
theorem ML{w:Option ByteArray}{F:Fo}(h:fG F):tJ (qy w F) (qy none F) []:=by
 intro k' a;unfold qy;constructor
 ·rintro(⟨_,f⟩|hi)
  ·cases f
  ·exact⟨oI h hi,.inr hi⟩
 ·rintro⟨e,⟨f,_⟩|hi⟩
  ·exact absurd f e
  ·exact .inr hi
theorem EE{w:Option ByteArray}{F F':Fo}{k:List UInt8}(b:k≠[])(h:tJ (pv F) (pv F') k):tJ (qy w F) (qy w F') k:=by
 intro k' c;unfold qy;rw[h k' c];constructor
 ·rintro(⟨e,f⟩|hi)
  ·exact⟨fun a=>b (a.symm.trans e),.inl ⟨e,f⟩⟩
  ·exact⟨hi.1,.inr hi.2⟩
 ·rintro⟨e,hi|hi⟩
  ·exact .inl hi
  ·exact .inr ⟨e,hi⟩
theorem MN{lab r:List UInt8}{w w':Option ByteArray}{F F':Fo}(h:tJ (qy w F) (qy w' F') r):tJ (sy (lab,w,F)) (sy (lab,w',F')) (lab++r):=by
 intro k' d;constructor
 ·rintro⟨s,e,c⟩
  obtain⟨a,f⟩:=(h s d).1 c;exact⟨fun b=>a (fi (e.symm.trans b)),s,e,f⟩
 ·rintro⟨a,s,e,c⟩
  exact⟨s,e,(h s d).2 ⟨fun b=>a (by rw[e,b]),c⟩⟩
theorem PA{F:Fo}{i:Nat}{m:Bn}{k:List UInt8}(h:fG F)(hi:i<F.toL.length)(ek:hd F.toL[i].1=hd k)(f:tJ (sy F.toL[i]) (sy m) k):tJ (pv F) (pv (.ofL (F.toL.set i m))) k:=by
 intro k' g;have hc:=eN.1 h;rw[fK,fK,Fo.to_of];constructor
 ·rintro⟨n,a,b⟩
  rcases(l8 hi (vg h hi)).1 a with rfl|⟨a,d⟩
  ·obtain⟨c,j⟩:=(f k' g).1 b
   exact⟨c,_,aU hi,j⟩
  ·refine⟨fun e=>d ?_,n,a,b⟩
   obtain⟨r,o,_⟩:=b;refine xz h a (aU hi) ?_;rw[ek,←e,o,oJ (hc.2 n a).1]
 ·rintro⟨c,n,a,b⟩
  by_cases e:n=F.toL[i]
  ·exact⟨m,(l8 hi (vg h hi)).2 (.inl rfl),(f k' g).2 ⟨c,by rw[←e];exact b⟩⟩
  ·exact⟨n,(l8 hi (vg h hi)).2 (.inr ⟨a,e⟩),b⟩
theorem Cq{α:Type}{l:List α}{i:Nat}(hi:i<l.length){x:α}(d:∀j (a:j<l.length),j≠i→l[j]≠l[i]):x∈l.take i++l.drop (i+1)↔x∈l∧x≠l[i]:=by
 constructor
 ·intro h
  rcases bM.1 h with h|h
  ·obtain⟨j,a,e⟩:=bP h
   rw[aD]at a;rw[pm]at e;exact⟨hP h,by rw[←e];exact d j (by omega) (by omega)⟩
  ·obtain⟨j,a,e⟩:=bP h
   rw[aO]at a;rw[pn]at e;exact⟨List.mem_of_mem_drop h,by rw[←e];exact d (i+1+j) (by omega) (by omega)⟩
 ·rintro⟨h,b⟩
  obtain⟨j,a,e⟩:=bP h;rcases Nat.lt_trichotomy j i with c|c|c
  ·exact bM.2 (.inl (m8 (i:=j) (h:=by rw[aD];omega) (by rw[pm];exact e)))
  ·subst c;exact absurd e.symm b
  ·refine bM.2 (.inr (m8 (i:=j-(i+1)) (h:=by rw[aO];omega) ?_))
   rw[pn];have:i+1+(j-(i+1))=j:=by omega
   simp only[this];exact e
theorem TY{F:Fo}{i:Nat}(h:fG F):fG (.ofL (F.toL.take i++F.toL.drop (i+1))):=by
 have hc:=eN.1 h;rw[eN,Fo.to_of];have a:(F.toL.take i++F.toL.drop (i+1)).Sublist F.toL:=by rw[←List.eraseIdx_eq_take_drop_succ];exact List.eraseIdx_sublist ..
 exact⟨hc.1.sublist a,fun n b=>hc.2 n (a.subset b)⟩
theorem PB{F:Fo}{i:Nat}{k:List UInt8}(h:fG F)(hi:i<F.toL.length)(ek:hd F.toL[i].1=hd k)(g:∀k' d,sy F.toL[i] k' d→k'=k):tJ (pv F) (pv (.ofL (F.toL.take i++F.toL.drop (i+1)))) k:=by
 intro k' d;have hc:=eN.1 h;rw[fK,fK,Fo.to_of];constructor
 ·rintro⟨n,a,b⟩
  obtain⟨a,c⟩:=(Cq hi (vg h hi)).1 a;refine⟨fun e=>c ?_,n,a,b⟩
  obtain⟨r,j,_⟩:=b;refine xz h a (aU hi) ?_;rw[ek,←e,j,oJ (hc.2 n a).1]
 ·rintro⟨f,n,a,b⟩
  by_cases e:n=F.toL[i]
  ·exact absurd (g k' d (by rw[←e];exact b)) f
  ·exact⟨n,(Cq hi (vg h hi)).2 ⟨a,e⟩,b⟩
def T7(n:Bn)(o:Option Bn):Prop:=(o=none∧∀k v,¬sy n k v)∨∃m,o=some m∧Lg m∧hd m.1=hd n.1∧∀k v,sy m k v↔sy n k v
theorem Pt{lab:List UInt8}{w:Option ByteArray}{F:Fo}(a:lab≠[])(hc:fG F)(h:w.isSome∨2≤F.toL.length):T7 (lab,w,F) (some (lab,w,F)):=.inr ⟨_,rfl,⟨a,h,hc⟩,rfl,fun _ _=>tN⟩
theorem Pu{lab:List UInt8}{F:Fo}(h:F.toL= []):T7 (lab,none,F) none:=by
 refine .inl ⟨rfl,fun k v hi=>?_⟩
 obtain⟨r,_,⟨_,b⟩|b⟩:=hi
 ·cases b
 ·obtain⟨n,a,_⟩:=fK.1 b
  simp only at a;rw[h]at a;cases a
theorem Q8{lab lk:List UInt8}{a:Option ByteArray}{F Fk:Fo}(c:lab≠[])(hc:fG F)(h:F.toL= [(lk,a,Fk)]):T7 (lab,none,F) (some (lab++lk,a,Fk)):=by
 have d:F=.cons lk a Fk .nil:=by
  rw[←Fo.of_to F,h];rfl
 have b:=(eN.1 hc).2 (lk,a,Fk) (by rw[h];exact aq.2 rfl);refine .inr ⟨_,rfl,⟨fun e=>c (gv.1 e).1,b.2.1,b.2.2⟩,oJ c,fun k v=>?_⟩
 have:=GR (lab:=lab++lk) (w:=a) (F:=Fk) lab.length k v;rw[List.take_left,gt]at this;rw[d];exact this.symm
end Go.Proofs
namespace Go.Proofs
open Go Go.Lift
theorem mC(s:ByteArray):s.data.toList.length=s.size:=by simp
theorem Si(a b:ByteArray):(a++b).data.toList=a.data.toList++b.data.toList:=by rw[pA,Array.toList_append]
theorem Pl{a b:ByteArray}{h:ae}{K:Bool→ae→Prop}(c:K (decide (b.data.toList<+:a.data.toList)) h):HC PG p8 [.string a,.string b] [.c .bool] K h:=by
 refine FV a b ?_;unfold yd im;refine BV a b ?_;unfold uK im;refine qu a b ?_;unfold kC;have j:=mC a;have d:=mC b;refine aB (fun i=>?_) fun g=>?_
 ·refine⟨⟨by omega,by omega⟩,?_⟩
  rw[jB,aM];have e:decide (a.extract 0 b.size=b)=decide (b.data.toList<+:a.data.toList):=by
   rw[decide_eq_decide,←pO,Al,List.prefix_iff_eq_take,d];exact eq_comm
  rw[e];exact c
 ·have e:decide (b.data.toList<+:a.data.toList)=false:=decide_eq_false fun f=>by
   have:=f.length_le;omega
  rw[e]at c;exact c
theorem Vr{a b:ByteArray}{h:ae}{K:ByteArray×Bool→ae→Prop}(g:∀s:ByteArray,a.data.toList=b.data.toList++s.data.toList→K (s,true) h)(d:(∀r,a.data.toList≠b.data.toList++r)→K (⟨#[]⟩,false) h):HC PG yN [.string a,.string b] [.c .str,.c .bool] K h:=by
 refine M9 a b ?_;unfold E3 im;refine Pl ?_;have j:=mC a;have f:=mC b;by_cases c:b.data.toList<+:a.data.toList
 ·rw[decide_eq_true c]
  have i:=c.length_le;refine al.2 ⟨⟨by omega,by omega⟩,?_⟩
  rw[aM];refine g _ ?_;rw[Am];obtain⟨r,e⟩:=c;rw[←e,←f,gt]
 ·rw[decide_eq_false c]
  exact ax.2 (d fun r e=>c ⟨r,e.symm⟩)
end Go.Proofs
