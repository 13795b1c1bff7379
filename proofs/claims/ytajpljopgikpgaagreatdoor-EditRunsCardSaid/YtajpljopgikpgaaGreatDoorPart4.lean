/- A part of the proof that the named laws of this program answer true, whatever the input. -/
import Derived.Test.YtajpljopgikpgaaGreatDoorPart3
import Derived.Test.YtajpljopgikpgaaGreatDoorPart2
open Array renaming toList_inj→hO
open ByteArray renaming mk→jZ
open Iff renaming rfl→ut
open Int renaming toNat_natCast→aH
open List renaming mem_append→bJ,mem_of_mem_take→gB,mem_cons→au,getElem_of_mem→cB,getElem?_eq_getElem→af,getElem_mem→aP,length→ga,length_drop→aL,length_nil→cF,mem_singleton→aq,append_eq_nil_iff→fW,take_length→bU,take_append_drop→aV,length_take→aI,append_cancel_left→ez,mem_of_getElem?→ay,getElem?_set→fe,mem_map→jW,pairwise_append→db,mem_cons_self→az,pairwise_cons→bq,lt_irrefl→qV,mem_cons_of_mem→aR,length_append→ae,length_map→gS,length_cons→aN,length_singleton→aK,append_nil→bP,flatMap_cons→aX,append_assoc→ar,cons_append→cQ,cons→fi,range_succ→f9,flatMap_append→bA,filter_eq_self→eY,any_eq_true→ci,mem_range→gA,getElem_take→oh,getElem_drop→ol,mem_of_getElem→ml,drop_left→gC
open List.Pairwise renaming nil→fX
open Nat renaming le_refl→ao,lt_or_ge→bH,lt_of_lt_of_le→bR,add_mul→iQ,le_trans→ba,zero_le→aU,zero_add→aE,zero_testBit→fI
open Option renaming map_eq_some_iff→jT
open Prod renaming mk→rW
namespace Go.Proofs
open Go Go.Lift
theorem KidO.move{o:Option Addr}{W W' M:Nat→Prop}{h c:ad}(k:Upd M h c){a:Option Addr}{n:Bn}{S:Nat→Prop}(r:KidO o W h a n S)(d:∀y,S y→y<h.size)(hm:∀y,M y→(W y∧¬S y)∨h.size≤y)(e:∀y,W' y→W y∨h.size≤y):KidO o W' c a n S:=
 ((r.less (W':=fun y=>W y∨h.size≤y) fun y b=>b).upd k d fun y b=>(hm y b).imp (fun h=>⟨.inl h.1,h.2⟩) id).less fun y b=>.inl (e y b)
theorem Ag{o ow:Option Addr}{W S M:Nat→Prop}{h f:ad}{b:Nat}{s:SliceV}{ks:List (Option Addr)}{Us Us':List (Nat→Prop)}
  (g:(OwOk W h ow∧(¬W b)∧Sl lB 1 W h s ks∧∀y,¬S y)∨(o.isSome=true∧ow=o∧∃A:Nat→Prop,OwnS lB 1 aY A h s ks∧(∀y,A y→S y∧y≠b∧y<h.size)∧S b∧∀U∈Us,∀y,U y→¬A y∧y≠b))
  (B:b<h.size)(m:Upd M h f)(hM:∀y,M y→S y∧∃U∈Us,U y)(p:∀U∈Us',∀y,U y→((∃V∈Us,V y)∨h.size≤y)∧y<f.size):
  (OwOk W f ow∧Sl lB 1 No f s ks∧(∀U∈Us',∀y,U y→y<f.size))∨(o.isSome=true∧ow=o∧∃A:Nat→Prop,OwnS lB 1 aY A f s ks∧(∀y,A y→S y∧y≠b∧y<f.size)∧S b∧∀U∈Us',∀y,U y→¬A y∧y≠b):=by
 have z:=m.size;rcases g with⟨n,_,u,i⟩|⟨e,x,A,w,d,k,j⟩
 ·exact .inl ⟨n.upd m fun y a=>absurd (hM y a).1 (i y),(u.upd m fun y a=>absurd (hM y a).1 (i y)).less fun _ h=>h.elim,fun U c y a=>(p U c y a).2⟩
 ·refine .inr ⟨e,x,A,w.upd m fun y a hm=>?_,fun y a=>⟨(d y a).1,(d y a).2.1,by have:=(d y a).2.2;omega⟩,k,fun U c y a=>?_⟩
  ·obtain⟨_,U,c,t⟩:=hM y hm
   exact(j U c y t).1 a
  ·rcases(p U c y a).1 with⟨V,q,hv⟩|h
   ·exact j V q y hv
   ·exact⟨fun v=>by have:=(d y v).2.2;omega,by omega⟩
set_option maxHeartbeats 4000000 in
theorem MS{w' o:Option Addr}:∀(n:Nat) {W S:Nat→Prop} {b:Nat} {sl:ByteArray} {w:Option ByteArray} {F:Fo} {h:ad} (k v:ByteArray),k.size<n→k.size≤1000000→RxO o W h b sl w F S→By h w' o→(∀y,W y→y<h.size)→(∀y,S y→W y)→(∀a,o=some a→W a.block)→(∀a,w'=some a→¬S a.block)→eW F→∀{K:(Option Addr)×Bool×Bool→ad→Prop},
  (∀P q w2 F2 S2 C ch,Upd S h P→RxO o (fun y=>W y∨S2 y) P q sl w2 F2 S2→(∀y,S2 y→(S y∨h.size≤y)∧y<P.size)→eW F2→sC (py w F) (py w2 F2) k.data.toList v→(ch=false→q=b∧w2=w∧F2=F∧Upd No h P∧py w F k.data.toList v)→(py w F k.data.toList v→ch=false)→K (some ⟨q,0,none⟩,C,ch) P)→
  HC PG lK [.pointer (some ⟨b,0,none⟩),.pointer w',.string k,.string v] [.c .ptr,.c .bool,.c .bool] K h:=by
 intro n;induction n with
 |zero=>intro W S b sl w F h k v hk;omega
 |succ n ih=>
  intro W S b sl w F h k v hkn hk6 r t hW D hWo hwS hc K hk;refine AG (some ⟨b,0,none⟩) w' k v ?_;unfold tg bQ dK bM bD cV jw BU uw Oa ie FX FV RN;have hr:=r;have hno:o=none→∀y,¬S y:=fun e=>by subst e;exact r.off.2
  obtain⟨val,s,ow,ks,Us,hb,hv,hs,hL,hUS,hPD,hown⟩:=r.view;have hn:=iY hc;have hcan:=eg.1 hc;have hSb:∀y,S y→y<h.size:=fun y d=>hW y (D y d)
  have N:∀U∈Us,∀y,U y→y<h.size:=fun U G y d=>hSb y (hUS U G y d)
  have zb:=aD hb;have own2:=fun{B:ad} {M:Nat→Prop} (ku:Upd M h B) (hM:∀y,M y→S y∧∃U∈Us,U y) (Us':List (Nat→Prop)) (G:∀U∈Us',∀y,U y→((∃V∈Us,V y)∨h.size≤y)∧y<B.size)=>Ag (Us':=Us') hown zb ku hM G
  have hUh:∀{B:ad},h.size≤B.size→∀U∈Us,∀y,U y→((∃V∈Us,V y)∨h.size≤y)∧y<B.size:=fun z U G y d=>⟨.inl ⟨U,G,d⟩,by have:=N U G y d;omega⟩
  have hno':∀{A X:Nat→Prop} {bb bx:Nat} {T:List (Nat→Prop)},(∀y,A y→S y∨h.size≤y)→(S bb∨h.size≤bb)→o=none→(∀y,A y→¬(W y∨SR o bx X T y))∧¬(W bb∨SR o bx X T bb):=fun{A X bb bx T} hA hb e=>by
   have no:∀y,(S y∨h.size≤y)→¬(W y∨SR o bx X T y):=fun y d hw=>by
    rcases hw with hw|⟨hw,_⟩
    ·rcases d with h|h
     ·exact hno e y h
     ·have:=hW y hw;omega
    ·rw[e]at hw;cases hw
   exact⟨fun y d=>no y (hA y d),no _ hb⟩
  rw[jp];refine aG (fun hk0=>?_) fun hk0=>?_
  ·have hke:k.data.toList= []:=by rw[hk0]
   rw[hke]at hk;refine Join.intro (fun t P=>t=decide (w=some v)∧P=h) (fun R hR=>⟨_,rfl,w.isSome,dz (i:=1) hb,?_⟩) ?_
   ·cases hw:w with
    |none=>exact aj.2 (hR _ _ ⟨by rw[hw];rfl,rfl⟩)
    |some u=>
     refine aA.2 ⟨_,rfl,val,dz (i:=2) hb,hR _ _ ⟨?_,rfl⟩⟩;rw[jp,vw hv u hw,hw];exact decide_eq_decide.2 ⟨fun e=>by rw[e],fun e=>Option.some.inj e⟩
   ·rintro t' P ⟨rfl,rfl⟩
    refine aG (fun e=>?_) fun e=>?_
    ·refine hk P b w F S false false (Upd.refl _ _) (hr.less fun y d=>.inl (d.elim id (D y))) (fun y d=>⟨.inl d,hSb y d⟩) hc ?_ (fun _=>⟨rfl,rfl,rfl,Upd.refl _ _,.inl ⟨rfl,e⟩⟩) fun _=>rfl
     rw[e];exact E0 hc v
    ·have fin:∀{h1 B:ad} {q:Nat} {s1:SliceV} {A1:Nat→Prop},OwnS lB 1 aY A1 h1 s1 ks→(∀y,A1 y→(S y∨P.size≤y)∧y≠q∧y<h1.size)→(S q∨P.size≤q)→(∀U∈Us,∀y,U y→¬A1 y∧y≠q)→Upd No P h1→B[q]? =some (.cells (vQ sl true v s1 o) bw (0,0))→Upd (· =q) h1 B→∀C,K (some ⟨q,0,none⟩,C,true) B:=fun{h1 B q s1 A1} hA1 f g Y p b2 E C=>by
      have z1:=p.size;have z2:=E.size;have zb':=aD b2;have u02:Upd (· =q) P B:=p.wide.tr E
      have hSR:∀y,SR o q A1 Us y→(S y∨P.size≤y)∧y<B.size:=fun y d=>xM g zb' (fun y d=>⟨(f y d).1,by have:=(f y d).2.2;omega⟩) (fun U G y d=>⟨.inl (hUS U G y d),by have:=N U G y d;omega⟩) d
      refine hk B q (some v) F (SR o q A1 Us) C true (u02.mono fun y d=>by have d:y=q:=d;rw[d];exact g) (uT b2 rfl (hA1.upd E fun y d=>(f y d).2.1) (fun y d=>⟨(f y d).2.1,by have:=(f y d).2.2;omega⟩) Y hPD (hL.move u02 N (fun y d=>?_) fun y d=>d.elim .inl fun h=>(hSR y h).1.imp (D y) id) (hno' (fun y d=>(f y d).1) g)) hSR hc (E0 hc v) (fun h=>by cases h) fun J=>?_
      ·have d:y=q:=d
       subst d;exact g.imp (fun h=>⟨D y h,fun U G hu=>(Y U G y hu).2 rfl⟩) id
      ·rcases J with⟨_,h⟩|h
       ·exact absurd h e
       ·exact absurd rfl (nH hc h)
     have ow0:=own2 (Upd.refl No P) (fun _ h=>h.elim) Us (hUh (ao _))
     refine⟨_,rfl,?_,w.isSome,dz (i:=1) hb,?_⟩
     ·refine kq (S:=S) (Us:=Us) t hWo hb (by rw[hL.1];exact hn) ow0 fun h1 q s1 A1 b1 hA1 f g Y p=>⟨?_,w.isSome,dz (i:=1) (p.get0 hb),?_⟩
      ·refine qZ b1 fun B b2 E=>?_
       have hb2:∃val2,aM B (adr ⟨b,0,none⟩ 1)=some (.bool val2):=by
        by_cases e2:b=q
        ·rw[e2];exact⟨_,dz (i:=1) b2⟩
        ·exact⟨_,dz (i:=1) ((p.wide.tr E).get hb e2)⟩
       obtain⟨v2,hv2⟩:=hb2;exact⟨v2,hv2,fin hA1 f g Y p b2 E _⟩
      ·exact qZ b1 fun B b2 E=>fin hA1 f g Y p b2 E _
     ·exact kq (S:=S) (Us:=Us) t hWo hb (by rw[hL.1];exact hn) ow0 fun h1 q s1 A1 b1 hA1 f g Y p=>qZ b1 fun B b2 E=>fin hA1 f g Y p b2 E _
  ·have L:k.data.toList≠[]:=fun e=>hk0 (by cases k;exact congrArg jZ (hO.1 e))
   obtain⟨c0,hc0,hc0e⟩:=C4 L;refine⟨c0,Int.le_refl _,hc0,?_⟩;have hlk:k.data.toList.length=k.size:=by simp
   refine EP (hr.read t) hc (c:=c0.toNat) (UInt8.toNat_lt _) fun i ok hil hlo hhi hok=>?_
   rw[hc0e]at hlo hhi hok;cases ok with
   |false=>
    have hno2:∀hi:i<F.toL.length,hd F.toL[i].1≠hd k.data.toList:=fun hi e=>by have:=hok.2 ⟨hi,e⟩;cases this
    have hhi':∀j (hj:j<F.toL.length),i≤j→hd k.data.toList<hd F.toL[j].1:=fun j hj hij=>by
     have h1:=hhi j hj hij;rcases bH i j with hl|hl
     ·have B:=List.pairwise_iff_getElem.1 hcan.1 i j (by omega) hj hl
      have h3:=hhi i (by omega) (ao _);omega
     ·have:i=j:=by omega
      subst this;have:=hno2 hj;omega
    obtain⟨hc',hp'⟩:=M7 (v:=v) hc L hlo hhi';refine aA.2 ?_;refine kq (S:=S) (Us:=Us) t hWo hb (by rw[hL.1];exact hn) (own2 (Upd.refl No h) (fun _ h=>h.elim) Us (hUh (ao _))) fun h1 q s1 A1 b1 hA1 f g Y p=>?_
    refine⟨_,rfl,s1,dz (i:=3) b1,?_⟩;refine Hy (t.upd0 p) fun B fb fs Af fb2 hAf hAfs hfb E=>⟨dz (i:=3) (E.get0 b1),bT ?_⟩
    have k3:=Upd.hnew No B [.pointer (some ⟨fb,0,none⟩)] aY;have b3:=cW B [.pointer (some ⟨fb,0,none⟩)] aY;have z3:(hnew B [.pointer (some ⟨fb,0,none⟩)] aY).size=B.size+1:=kA ..;simp only[fR B];generalize hnew B [.pointer (some ⟨fb,0,none⟩)] aY=h3 at k3 b3 z3;have hu13:=E.tr k3;refine⟨dz (i:=3) (hu13.get0 b1),?_⟩;have z01:=p.size
    have z1:=aD b1;have z2:=E.size;have zf:=aD fb2;have ho3:=(hA1.upd hu13 fun _ _ h=>h).more (M':=fun x=>A1 x∨h3.size≤x) fun x hx=>.inl hx
    refine Km ho3 (k:=i) (by rw[hL.1];exact hil) (by rw[hL.1];omega) b3 (fun h=>h.elim (fun h=>by have:=(f _ h).2.2;omega) fun h=>by omega) (fun x hx=>.inr hx) fun s4 h4 ho4 hu4=>?_
    have b4:=hu4.get (hu13.get0 b1) (fun h=>h.elim (fun h=>(f _ h).2.1 rfl) fun h=>by omega)
    have f4:=hu4.get (k3.get0 fb2) (fun h=>h.elim (fun h=>by have:=(f _ h).2.2;omega) fun h=>by omega)
    refine⟨_,rfl,Oz (i:=3) b4 (show 3<5 by decide),CE (i:=3) (c':=vQ sl w.isSome val s4 o) b4 rfl fun h5 b5 hu5=>?_⟩
    have z4:=hu4.size;have z5:=hu5.size;have u05:Upd (fun y=>y=q∨A1 y) h h5:=((p.tr hu13).wide.trans hu4 fun x hx=>hx.imp .inr fun h=>by omega).trans hu5 fun x hx=>.inl (.inl hx)
    have ho5:=ho4.within.upd hu5 fun x hx e=>by
     have e:x=q:=e;subst e;rcases hx.1 with h|h
     ·exact(f _ h).2.1 rfl
     ·omega
    have nfb:¬fb=q:=by omega
    have f5:=hu5.get f4 nfb;have hAf5:=((hAf.upd k3 fun _ _ h=>h).upd hu4 (fun y d h=>by
     have:=hAfs y d
     rcases h with h|h
     ·have:=(f y h).2.2;omega
     ·omega)).upd hu5 fun y d e=>by
      have e:y=q:=e;have:=hAfs y d;omega
    have hSf:∀y,SR o fb Af [] y→h1.size≤y∧y<B.size:=fun y d=>by
     rcases d.2 with rfl|h|⟨U,G,_⟩
     ·exact⟨hfb,zf⟩
     ·have:=hAfs y h;omega
     ·cases G
    have hmem:∀U∈Us.take i++SR o fb Af []::Us.drop i,U∈Us∨U=SR o fb Af []:=fun U G=>by
     rcases bJ.1 G with h|h
     ·exact .inl (gB h)
     ·rcases au.1 h with h|h
      ·exact .inr h
      ·exact .inl (List.mem_of_mem_drop h)
    have hA5:∀y,((A1 y∨h3.size≤y)∧y<h4.size)→(S y∨h.size≤y)∧y≠q∧y<h5.size:=fun y d=>by
     rcases d.1 with h|h
     ·exact⟨(f y h).1,(f y h).2.1,by omega⟩
     ·exact⟨.inr (by omega),by omega,by omega⟩
    have hS2:∀y,SR o q (fun y=>(A1 y∨h3.size≤y)∧y<h4.size) (Us.take i++SR o fb Af []::Us.drop i) y→(S y∨h.size≤y)∧y<h5.size:=fun y d=>xM g (aD b5) (fun y d=>⟨(hA5 y d).1,(hA5 y d).2.2⟩) (fun U G y d=>by
     rcases hmem U G with h|rfl
     ·exact⟨.inl (hUS U h y d),by have:=N U h y d;omega⟩
     ·have:=hSf y d;exact⟨.inr (by omega),by omega⟩) d
    refine hk h5 q w _ (SR o q (fun y=>(A1 y∨h3.size≤y)∧y<h4.size) (Us.take i++SR o fb Af []::Us.drop i)) true true (u05.mono fun y d=>?_) (uT b5 hv ho5 (fun y d=>(hA5 y d).2) (fun U G y d=>?_) (Sq hPD (by rw[hL.2.1];exact hil) fun U G y d hu=>?_) (by
     rw[Fo.to_of]
     refine(hL.move u05 N (fun y d=>?_) fun y d=>d.elim .inl fun h=>(hS2 y h).1.imp (D y) id).ins hil ⟨fb,k,rfl,rfl,TK f5 hAf5 (fun y d=>?_) (hno' (fun y d=>.inr ?_) (.inr (by omega)))⟩
     ·rcases d with rfl|h
      ·exact g.imp (fun h=>⟨D _ h,fun U G hu=>(Y U G _ hu).2 rfl⟩) id
      ·exact(f y h).1.imp (fun hs=>⟨D y hs,fun U G hu=>(Y U G y hu).1 h⟩) id
     ·have:=hAfs y d;exact⟨this.2.1,by omega⟩
     ·have:=hAfs y d;omega) (hno' (fun y d=>(hA5 y d).1) g)) hS2 hc' (Ad L hp') (fun h=>by cases h) fun J=>?_
    ·rcases d with rfl|h
     ·exact g
     ·exact(f y h).1
    ·rcases hmem U G with h|rfl
     ·have:=Y U h y d
      have B:=N U h y d;exact⟨fun h=>h.1.elim this.1 fun h=>by omega,this.2⟩
     ·have:=hSf y d
      exact⟨fun h=>h.1.elim (fun h=>by have:=(f y h).2.2;omega) fun h=>by omega,by omega⟩
    ·have:=hSf y d;have:=N U G y hu;omega
    ·rcases J with⟨h,_⟩|J
     ·exact absurd h L
     ·obtain⟨n',hn',e,_⟩:=pD hc J
      obtain⟨j,hj,rfl⟩:=cB hn';rcases bH j i with hl|hl
      ·have:=hlo j hj hl;omega
      ·have:=hhi' j hj hl;omega
   |true=>
    obtain⟨hi,hie⟩:=hok.1 rfl;refine aj.2 ⟨_,rfl,s,dz (i:=3) hb,?_⟩;have hki0:i<ks.length:=by rw[hL.1];exact hi
    have hUi0:i<Us.length:=by rw[hL.2.1];exact hi
    obtain⟨kb,ksl,hke,Q,hkn⟩:=hL.2.2 i _ _ _ (af hki0) (af hi) (af hUi0);have hki:ks[i]? =some (some ⟨kb,0,none⟩):=by rw[af hki0,hke]
    have hUie:Us[i]? =some Us[i]:=af hUi0;have hUim:Us[i]∈Us:=aP hUi0;have hmem:F.toL[i]∈F.toL:=aP hi;have O:=hcan.2 _ hmem;obtain⟨a,ha,_,hvv⟩:=hs.at0 hki;have hslen:=hs.len;rw[hL.1]at hslen;have hlt1:(i:Int)<((s.len:Nat):Int):=by omega
    refine⟨⟨by simp only;omega,hlt1⟩,a,ha,some ⟨kb,0,none⟩,hvv,_,rfl,?_⟩;obtain⟨kval,kss,kow,kks,kUs,hkb,_⟩:=hkn.view;refine⟨ksl,dz (i:=0) hkb,Nx hk6 ?_⟩;rw[Q];have hc1:=PC L O.1 hie.symm;have hcle:=Mp k.data.toList F.toL[i].1;have hct:=Mm k.data.toList F.toL[i].1;have hcd:=GI k.data.toList F.toL[i].1;have hll:ksl.size=F.toL[i].1.length:=by rw[←Q];simp
    have hin_m:ox F k.data.toList v→qW F.toL[i] k.data.toList v:=fun J=>by
     obtain⟨n',hn',e,hN⟩:=pD hc J;rw[←wc hc hn' hmem (by omega)];exact hN
    have hin_f:qW F.toL[i] k.data.toList v→ox F k.data.toList v:=fun J=>fw.2 ⟨_,hmem,J⟩
    have hset:∀{w2:Option ByteArray} {F2:Fo} {nl:List UInt8},nl≠[]→hd nl=hd F.toL[i].1→eW F2→Br (py w2 F2)→eW (.ofL (F.toL.set i (nl,w2,F2))):=fun h1 B h3 h4=>Mq hc hi ⟨h1,(Ds h3).2 h4,h3⟩ B
    have hputs:∀{m:Bn},sC (qW F.toL[i]) (qW m) k.data.toList v→sC (ox F) (ox (.ofL (F.toL.set i m))) k.data.toList v:=fun hp=>HM hc hi hie hp
    have hsame:sC (qW F.toL[i]) (qW F.toL[i]) k.data.toList v→sC (ox F) (ox F) k.data.toList v:=M5 hc hi hie;have H:∀y,Us[i] y→S y:=hUS _ hUim;have hUib:∀y,Us[i] y→y<h.size:=N _ hUim;have hUid:∀j U,j≠i→Us[j]? =some U→Dj Us[i] U:=fun j U hj eU=>hPD i j _ _ (Ne.symm hj) hUie eU
    have nUb:¬Us[i] b:=fun hu=>by
     rcases hown with⟨_,_,_,hS0⟩|⟨_,_,A,_,_,_,hUA⟩
     ·exact hS0 _ (H _ hu)
     ·exact(hUA _ hUim b hu).2 rfl
    generalize F.toL[i]=m at Q hkn O hc1 hcle hct hcd hll hin_m hin_f hset hputs hsame hie;generalize Us[i]=Ui at hkn hUie hUim H hUib hUid nUb;generalize hcc:cm k.data.toList m.1=c at hc1 hcle hct hcd;obtain⟨lab,wk,Fk⟩:=m;simp only at Q hkn O hcle hct hcd hll hie hset;refine Join.intro (fun t P=>∃ub Z wu Fu SU,t=some ⟨ub,0,none⟩∧Upd Ui h P∧RxO o (fun y=>W y∨SU y) P ub Z wu Fu SU∧(∀y,SU y→(Ui y∨h.size≤y)∧y<P.size)∧eW Fu∧Z.data.toList=k.data.toList.take c∧(∀k' v',qW (Z.data.toList,wu,Fu) k' v'↔qW (lab,wk,Fk) k' v')∧(∀w' F',eW F'→sC (py wu Fu) (py w' F') (k.data.toList.drop c) v→Br (py w' F'))∧(Upd No h P∨¬py wu Fu (k.data.toList.drop c) v)) (fun R hR=>⟨_,rfl,ksl,dz (i:=0) hkb,?_⟩) ?_
    ·refine aG (fun hlt=>?_) fun hge=>?_
     ·have hlt:c<lab.length:=by omega
      have hdne:lab.drop c≠[]:=fun e=>by
       have:=congrArg ga e;rw[aL,cF]at this;omega
      have hhd:k.data.toList.drop c≠[]→hd (k.data.toList.drop c)≠hd (lab.drop c):=fun hne=>by
       refine hcd ?_ hlt;rcases bH c k.data.toList.length with hl|hl
       ·exact hl
       ·exact absurd (List.drop_eq_nil_of_le hl) hne
      have hcs:eW (.cons (ksl.data.toList.drop c) wk Fk .nil):=by
       rw[Q];exact⟨hdne,O.2.1,O.2.2,fun _ h=>by simp[Fo.toL]at h,trivial⟩
      refine Hx hkn t hW (fun y d=>D y (H y d)) hWo (iY O.2.2) (c:=c) (by omega) fun h1 ub SU rn hSU p=>hR _ _ ⟨ub,_,none,_,SU,rfl,p,rn,hSU,hcs,?_,?_,?_,.inr ?_⟩
      ·rw[yO,Q,hct]
      ·intro k' v'
       rw[yO,Q];exact Fh c k' v'
      ·intro w' F' hcF hp
       rw[Q]at hp;exact PM hdne O.2.1 O.2.2 hhd hp
      ·rintro(⟨_,h⟩|J)
       ·cases h
       ·obtain⟨n',hn',e,r',er,_⟩:=pD hcs J
        rw[Q]at hn';simp only[Fo.toL,aq]at hn';subst hn';refine hhd (fun e2=>hdne ?_) e.symm
        rw[e2]at er;exact(fW.1 er.symm).1
     ·have hce:c=lab.length:=by omega
      refine hR _ _ ⟨kb,ksl,wk,Fk,Ui,rfl,Upd.refl _ _,hkn.less fun y d=>.inl (d.elim id fun h=>D y (H y h)),fun y d=>⟨.inl d,hUib y d⟩,O.2.2,?_,?_,?_,.inl (Upd.refl _ _)⟩
      ·rw[Q,hct,hce,bU]
      ·intro k' v';rw[Q]
      ·intro w' F' hcF hp
       exact Rf ((Ds O.2.2).1 O.2.1) hp
    ·rintro t' h1 ⟨ub,Z,wu,Fu,SU,rfl,p,rn,hSU,hcu,hsl,hinn,hbr,hsp⟩
     refine⟨⟨by omega,by omega⟩,?_⟩
     rw[aH];have hkd:(k.extract c k.size).data.toList=k.data.toList.drop c:=yP ..;have hks:(k.extract c k.size).size=k.size-c:=by simp
     have hktd:k.data.toList=Z.data.toList++k.data.toList.drop c:=by rw[hsl,aV]
     have hslne:Z.data.toList≠[]:=by
      rw[hsl];intro e;have:=congrArg ga e;rw[aI,cF]at this;omega
     have hslhd:hd Z.data.toList=hd lab:=by
      rw[hie];conv=>rhs;rw[hktd]
      rw[nI hslne]
     have z01:=p.size;have tU:∀{M:Nat→Prop} {P:ad},Upd M h P→(∀y,M y→Ui y)→By P w' o:=fun ku hM=>t.upd ku fun b e d=>absurd (H _ (hM _ d)) (hwS _ e)
     refine ih (W:=fun y=>W y∨SU y) (S:=SU) (k.extract c k.size) v (by rw[hks];omega) (by rw[hks];omega) rn (tU p fun _ h=>h) (fun y d=>d.elim (fun h=>bR (hW y h) z01) fun h=>(hSU y h).2) (fun y d=>.inr d) (fun a e=>.inl (hWo a e)) (fun a e d=>?_) hcu fun B b2 w2 F2 SV C ch E rn2 hSV hc2 hp2 hsm hch=>?_
     ·rcases(hSU _ d).1 with h|h
      ·exact hwS a e (H _ h)
      ·have:=t.lt e;omega
     rw[hkd]at hp2 hch hsm;have z12:=E.size;have hpn:sC (qW (lab,wk,Fk)) (qW (Z.data.toList,w2,F2)) k.data.toList v:=by
      have:=OJ (M6 (lab:=Z.data.toList) hp2) hinn;rw[←hktd]at this;exact this
     have hchg:py w F k.data.toList v→ch=false:=fun J=>by
      rcases J with⟨h,_⟩|J
      ·exact absurd h L
      ·obtain⟨r,e,hr'⟩:=(hinn _ _).2 (hin_m J)
       simp only at e;rw[hktd]at e;have e2:=ez e;rw[←hktd]at e;exact hch (by rw[e2];exact hr')
     cases ch with
     |false=>
      obtain⟨_,e2,e3,hu20,hin2⟩:=hsm rfl;subst e2 e3;rcases hsp with u01|hn2
      ·have hu02:=u01.tr hu20
       have hsz:=hu02.size;refine aA.2 (hk B b w F S false false hu02.wide ((hr.upd0 hu02).less fun y d=>.inl (d.elim id (D y))) (fun y d=>⟨.inl d,by have:=hSb y d;omega⟩) hc (Ad L (hsame ?_)) (fun _=>⟨rfl,rfl,rfl,hu02,.inr (hin_f ((hinn _ _).1 ⟨_,hktd,hin2⟩))⟩) fun _=>rfl)
       intro k' v';exact(hinn k' v').symm.trans (hpn k' v')
      ·exact absurd hin2 hn2
     |true=>
      refine aj.2 ?_;have ku:Upd Ui h B:=p.trans E fun y d=>(hSU y d).1
      have hSV':∀y,SV y→(Ui y∨h.size≤y)∧y<B.size:=fun y d=>⟨(hSV y d).1.elim (fun h=>(hSU y h).1) fun h=>.inr (by omega),(hSV y d).2⟩
      have hmem2:∀U∈Us.set i SV,U∈Us∨U=SV:=fun U G=>List.mem_or_eq_of_mem_set G
      have hSVm:SV∈Us.set i SV:=ay (i:=i) (by rw[fe,if_pos rfl,if_pos hUi0]);refine kq (W:=W) (S:=S) (Us:=Us.set i SV) (tU ku fun _ h=>h) hWo (ku.get hb nUb) (by rw[hL.1];exact hn) (own2 ku (fun y d=>⟨H y d,_,hUim,d⟩) _ fun U G y d=>?_) fun h3 q s3 A3 b3 ho3 I g hU3 hu3=>?_
      ·rcases hmem2 U G with h|rfl
       ·exact⟨.inl ⟨U,h,d⟩,by have:=N U h y d;omega⟩
       ·exact⟨(hSV' y d).1.imp (fun h=>⟨_,hUim,h⟩) id,(hSV' y d).2⟩
      refine⟨_,rfl,s3,dz (i:=3) b3,?_⟩;obtain⟨a3,ha3,hab,hw3,ho4,hu4⟩:=OwnS.setAt ho3 hki0 (some ⟨b2,0,none⟩);have hlen3:=ho3.len;refine⟨⟨by simp only;omega,by simp only;omega⟩,a3,ha3,?_⟩
      have hw1:Wr h3 (adr a3 (i*1)):=by
       rcases hw3 with hw|⟨q,g,hw⟩
       ·cases hw
       ·cases g;exact hw 0 (by simp)
      refine⟨hw1,bT ?_⟩;have b4:=hu4.get b3 fun e=>by have e:q=a3.block:=e;exact(I _ hab).2.1 e.symm
      have hu24:Upd A3 B _:=hu3.wide.trans hu4 fun x hx=>.inl (by have hx:x=a3.block:=hx;rw[hx];exact hab)
      have u04:Upd (fun y=>Ui y∨A3 y) h _:=(ku.mono fun y d=>.inl (.inl d)).trans hu24 fun x hx=>.inl (.inr hx)
      have eset:ks.set i (some ⟨b2,0,none⟩)=ks.take i++some ⟨b2,0,none⟩::ks.drop (i+1):=by rw[List.set_eq_take_append_cons_drop,if_pos hki0]
      rw[←eset]at ho4;have z3:=hu3.size;have z4:=hu4.size;change K (some ⟨q,0,none⟩,C,true) (gT h3 (adr a3 (i*1)) 0 (lB (some ⟨b2,0,none⟩)));generalize gT h3 (adr a3 (i*1)) 0 (lB (some ⟨b2,0,none⟩))=h4 at*;have hS2:∀y,SR o q A3 (Us.set i SV) y→(S y∨h.size≤y)∧y<h4.size:=fun y d=>xM (g.imp id fun h=>by omega) (aD b4) (fun y d=>⟨(I y d).1.imp id fun h=>by omega,by have:=(I y d).2.2;omega⟩) (fun U G y hz=>by
       rcases hmem2 U G with h|rfl
       ·exact⟨.inl (hUS U h y hz),by have:=N U h y hz;omega⟩
       ·exact⟨(hSV' y hz).1.imp (H y) id,by have:=(hSV' y hz).2;omega⟩) d
      refine hk h4 q w _ (SR o q A3 (Us.set i SV)) C true (u04.mono fun y d=>?_) (uT b4 hv ho4 (fun y d=>⟨(I y d).2.1,by have:=(I y d).2.2;omega⟩) hU3 (OQ hPD fun j U hj eU y d hu=>?_) (by
       rw[Fo.to_of]
       refine LsO.set hL.1 hL.2.1 (fun j k' n' U hj ek en eU=>KidO.move u04 (hL.2.2 j k' n' U ek en eU) (N U (ay eU)) (fun y d=>?_) fun y d=>d.elim .inl fun h=>(hS2 y h).1.imp (D y) id) (KidO.move hu24 ⟨b2,Z,rfl,rfl,rn2⟩ (fun y d=>(hSV y d).2) (fun y d=>?_) fun y d=>?_)
       ·rcases d with h|h
        ·exact .inl ⟨D y (H y h),hUid j U hj eU y h⟩
        ·refine(I y h).1.imp (fun hs=>⟨D y hs,fun hu=>(hU3 U (ay (i:=j) (by rw[fe,if_neg (Ne.symm hj)];exact eU)) y hu).1 h⟩) fun h=>by omega
       ·exact(I y d).1.imp (fun hs=>⟨.inl (.inl (D y hs)),fun hu=>(hU3 SV hSVm y hu).1 d⟩) id
       ·rcases d with h|⟨_,rfl|h|⟨U,G,h⟩⟩
        ·exact .inl (.inl (.inl h))
        ·exact g.imp (fun h=>.inl (.inl (D _ h))) id
        ·exact(I y h).1.imp (fun h=>.inl (.inl (D _ h))) id
        ·rcases hmem2 U G with B|rfl
         ·exact .inl (.inl (.inl (D _ (hUS U B y h))))
         ·exact .inl (.inr h)) (hno' (fun y d=>(I y d).1.imp id fun h=>by omega) (g.imp id fun h=>by omega))) hS2 (hset hslne hslhd hc2 (hbr _ _ hc2 hp2)) (Ad L (hputs hpn)) (fun h=>by cases h) hchg
      ·rcases d with h|h
       ·exact .inl (H y h)
       ·exact(I y h).1.imp id fun h=>by omega
      ·rcases(hSV' y d).1 with h|h
       ·exact hUid j U hj eU y h hu
       ·have:=N U (ay eU) y hu;omega
end Go.Proofs
namespace Go.Proofs
open Go Go.Lift
def xt:Fo→List (List UInt8×ByteArray)
 | .nil=> []
 | .cons lab w kids rest=>((w.map fun v=>(([]:List UInt8),v)).toList++xt kids).map (fun p=>(lab++p.1,p.2))++xt rest
def nF(w:Option ByteArray)(F:Fo):List (List UInt8×ByteArray):=(w.map fun v=>(([]:List UInt8),v)).toList++xt F
theorem ra:∀{F:Fo} {k:List UInt8} {v:ByteArray},(k,v)∈xt F↔ox F k v
 | .nil,_,_=>by simp[xt,ox]
 | .cons lab w kids rest,k,v=>by
  unfold xt ox;rw[bJ,ra (F:=rest)];refine or_congr ?_ ut;rw[jW];constructor
  ·rintro⟨⟨r,u⟩,hm,b⟩
   simp only[rW.injEq]at b;obtain⟨rfl,rfl⟩:=b;refine⟨r,rfl,?_⟩;rcases bJ.1 hm with h|h
   ·left
    rw[Option.mem_toList,jT]at h;obtain⟨a,c,b⟩:=h;simp only[rW.injEq]at b;exact⟨b.1.symm,by rw[c,b.2]⟩
   ·exact .inr (ra.1 h)
  ·rintro⟨r,rfl,h⟩
   refine⟨(r,v),bJ.2 ?_,rfl⟩;rcases h with⟨rfl,h⟩|h
   ·left;rw[h];simp
   ·exact .inr (ra.2 h)
theorem mw{w:Option ByteArray}{F:Fo}{k:List UInt8}{v:ByteArray}:(k,v)∈nF w F↔py w F k v:=by
 unfold nF py;rw[bJ,ra];refine or_congr ?_ ut;cases w with
 |none=>simp
 |some u=>simp[Prod.ext_iff,eq_comm]
abbrev Up(l:List (List UInt8×ByteArray)):Prop:=l.Pairwise fun p q=>p.1<q.1
theorem S9{a x y:List UInt8}(h:x<y):a++x<a++y:=by
 induction a with
 |nil=>exact h
 |cons c a ih=>exact List.Lex.cons ih
theorem O5{x y:List UInt8}(c:y≠[])(h:hd x<hd y):x<y:=by
 match x,y,c with
 | [],b::y,_=>exact List.Lex.nil
 |a::x,b::y,_=>exact List.Lex.rel (UInt8.lt_iff_toNat_lt.2 h)
theorem JQ:∀{F:Fo},eW F→Up (xt F)
 | .nil,_=>fX
 | .cons lab w kids rest,h=>by
  unfold xt;refine db.2 ⟨?_,JQ h.2.2.2.2,?_⟩
  ·rw[List.pairwise_map]
   refine List.Pairwise.imp (R:=fun p q:List UInt8×ByteArray=>p.1<q.1) (fun i=>S9 i) ?_
   refine db.2 ⟨?_,JQ h.2.2.1,?_⟩
   ·cases w<;>simp
   ·intro a f b g
    have d:b.1≠[]:=nH h.2.2.1 (ra (F:=kids).1 (show(b.1,b.2)∈_ from g))
    have j:a.1= []:=by
     rw[Option.mem_toList,jT]at f;obtain⟨v,_,e⟩:=f;rw[←e]
    rw[j];match b.1,d with
    |c::l,_=>exact List.Lex.nil
  ·intro a f b g
   obtain⟨p,_,rfl⟩:=jW.1 f;obtain⟨n,k,e,_⟩:=pD h.2.2.2.2 (ra (F:=rest).1 (show(b.1,b.2)∈_ from g))
   have d:b.1≠[]:=nH h.2.2.2.2 (ra (F:=rest).1 (show(b.1,b.2)∈_ from g))
   have:=h.2.2.2.1 n k;exact O5 d (by rw[nI h.1];omega)
theorem QO{w:Option ByteArray}{F:Fo}(h:eW F):Up (nF w F):=by
 refine db.2 ⟨by cases w<;>simp,JQ h,?_⟩
 intro a g b i;have d:b.1≠[]:=nH h (ra (F:=F).1 (show(b.1,b.2)∈_ from i))
 have f:a.1= []:=by
  rw[Option.mem_toList,jT]at g;obtain⟨v,_,e⟩:=g;rw[←e]
 rw[f];match b.1,d with
 |c::l,_=>exact List.Lex.nil
theorem Ob:∀{l l':List (List UInt8×ByteArray)},Up l→Up l'→(∀p,p∈l↔p∈l')→l=l'
 | [],[],_,_,_=>rfl
 | [],q::l',_,_,h=>absurd ((h q).2 (az ..)) (by simp)
 |p::l,[],_,_,h=>absurd ((h p).1 (az ..)) (by simp)
 |p::l,q::l',c,a,h=>by
  have c:=bq.1 c;have a:=bq.1 a;have e:p=q:=by
   rcases au.1 ((h p).1 (az ..))with e|d
   ·exact e
   ·rcases au.1 ((h q).2 (az ..))with e|f
    ·exact e.symm
    ·exact absurd (List.lt_trans (c.1 q f) (a.1 p d)) (qV _)
  subst e;rw[Ob c.2 a.2 fun z=>?_]
  constructor
  ·intro hz
   rcases au.1 ((h z).1 (aR _ hz))with e|b
   ·exact absurd (c.1 z hz) (by rw[e];exact qV _)
   ·exact b
  ·intro hz
   rcases au.1 ((h z).2 (aR _ hz))with e|b
   ·exact absurd (a.1 z hz) (by rw[e];exact qV _)
   ·exact b
def Iw:Fo→Nat
 | .nil=>0
 | .cons _ _ kids rest=>1+Iw kids+Iw rest
theorem GH:∀{F:Fo},eW F→Iw F+F.toL.length≤2*(xt F).length
 | .nil,_=>by simp[Iw,Fo.toL]
 | .cons lab w kids rest,h=>by
  have b:=GH h.2.2.1;have c:=GH h.2.2.2.2;have a:=h.2.1;rw[Fo.toL_cons];unfold Iw xt;rw[ae,gS,ae,aN];cases w with
  |none=>
   simp only[Option.map_none,Option.toList_none,cF];have:2≤kids.toL.length:=a.resolve_left (by simp);omega
  |some v=>simp only[Option.map_some,Option.toList_some,aK];omega
def G6:Fo→Prop
 | .nil=>True
 | .cons lab w kids rest=>lab.length≤10000∧(∀v,w=some v→v.size≤10000)∧kids.toL.length≤256∧G6 kids∧G6 rest
theorem KA:∀{F:Fo},eW F→(∀k v,ox F k v→k.length≤10000∧v.size≤10000)→G6 F
 | .nil,_,_=>trivial
 | .cons lab w kids rest,h,hl=>by
  obtain⟨r,v,c⟩:=mz h _ (az ..);have b:=(hl _ v (fw.2 ⟨_,az ..,r,rfl,c⟩)).1;rw[ae]at b;simp only at b;refine⟨by omega,fun v hv=>(hl lab v (.inl ⟨[],(bP _).symm,.inl ⟨rfl,hv⟩⟩)).2,iY h.2.2.1,KA h.2.2.1 fun k v a=>?_,KA h.2.2.2.2 fun k v a=>hl k v (.inr a)⟩
  have:=hl (lab++k) v (.inl ⟨k,rfl,.inr a⟩);rw[ae]at this;exact⟨by omega,this.2⟩
def r6:Option ByteArray→List UInt8
 |some v=>1::mq v
 |none=> [0]
def pO(lab:List UInt8)(w:Option ByteArray)(n:Nat):List UInt8:=mq ⟨lab.toArray⟩++(r6 w++kW n 2)
def mU:Fo→List UInt8
 | .nil=> []
 | .cons lab w kids rest=>pO lab w kids.toL.length++(mU kids++mU rest)
def gL(n:Bn):List UInt8:=pO n.1 n.2.1 n.2.2.toL.length++mU n.2.2
theorem uR:∀F:Fo,mU F=F.toL.flatMap gL
 | .nil=>rfl
 | .cons lab w kids rest=>by
  rw[Fo.toL_cons,aX,←uR rest];show pO lab w kids.toL.length++(mU kids++mU rest)=(pO lab w kids.toL.length++mU kids)++mU rest
  rw[ar]
theorem E3{lab:List UInt8}{w:Option ByteArray}{n:Nat}(b:lab.length≤10000)(a:∀v,w=some v→v.size≤10000):(pO lab w n).length≤20010:=by
 unfold pO;rw[ae,ae,hE,c7];have e:(jZ lab.toArray).size=lab.length:=by simp[ByteArray.size]
 rw[e];cases w with
 |none=>simp only[r6,aK];omega
 |some v=>have:=a v rfl;simp only[r6,aN,hE];omega
theorem xo:∀{F:Fo},G6 F→(mU F).length≤Iw F*20010
 | .nil,_=>by simp[mU]
 | .cons lab w kids rest,h=>by
  have a:=E3 (n:=kids.toL.length) h.1 h.2.1;have b:=xo h.2.2.2.1;have c:=xo h.2.2.2.2;unfold mU Iw;rw[ae,ae,iQ,iQ];omega
theorem E4{lab a:List UInt8}{w w':Option ByteArray}{n d:Nat}{r i:List UInt8}(m:lab.length≤10000)(g:a.length≤10000)(o:∀v,w=some v→v.size≤10000)(e:∀v,w'=some v→v.size≤10000)(q:n≤256)(j:d≤256)(h:pO lab w n++r=pO a w' d++i):lab=a∧w=w'∧n=d∧r=i:=by
 unfold pO at h;simp only[ar]at h;have z:∀l:List UInt8,(jZ l.toArray).size=l.length:=fun l=>by simp[ByteArray.size]
 obtain⟨c,h⟩:=vO (by rw[z];exact m) (by rw[z];exact g) h;have c:lab=a:=by
  have:=congrArg (fun b:ByteArray=>b.data.toList) c
  simpa using this
 cases w with
 |none=>
  cases w' with
  |none=>
   simp only[r6,cQ,List.nil_append,fi.injEq,true_and]at h;obtain⟨f,h⟩:=sL (k:=2) (by omega) (by omega) h;exact⟨c,rfl,f,h⟩
  |some v=>simp[r6]at h
 |some v=>
  cases w' with
  |none=>simp[r6]at h
  |some v'=>
   simp only[r6,cQ,fi.injEq,true_and]at h;obtain⟨p,h⟩:=vO (o v rfl) (e v' rfl) h;obtain⟨f,h⟩:=sL (k:=2) (by omega) (by omega) h;exact⟨c,by rw[p],f,h⟩
theorem xp:∀{F F':Fo} {r r':List UInt8},G6 F→G6 F'→F.toL.length=F'.toL.length→mU F++r=mU F'++r'→F=F'∧r=r'
 | .nil,.nil,_,_,_,_,_,h=>⟨rfl,h⟩
 | .nil,.cons ..,_,_,_,_,e,_=>by simp[Fo.toL]at e
 | .cons ..,.nil,_,_,_,_,e,_=>by simp[Fo.toL]at e
 | .cons lab w kids rest,.cons lab' w' kids' rest',r,r',h1,h2,e,h=>by
  unfold mU at h;simp only[ar]at h;obtain⟨c,d,f,h⟩:=E4 h1.1 h2.1 h1.2.1 h2.2.1 h1.2.2.1 h2.2.2.1 h;obtain⟨a,h⟩:=xp h1.2.2.2.1 h2.2.2.2.1 f h;obtain⟨b,h⟩:=xp h1.2.2.2.2 h2.2.2.2.2 (by rw[Fo.toL_cons,Fo.toL_cons]at e;simpa using e) h;exact⟨by rw[c,d,a,b],h⟩
end Go.Proofs
namespace Go.Proofs
open Go Go.Lift
theorem Rj{M:Nat→Prop}{h:ad}{c:SliceV}{out ys:List UInt8}{vs:List Value}(hv:vs=ys.flatMap nq){n:Nat}(d:n=ys.length){K:SliceV→ad→Prop}(g:OwnS nq 1 cp M h c out)(hM:∀b,h.size≤b→M b)(m:out.length+ys.length≤140737488355328)
  (i:∀s' a,OwnS nq 1 cp M a s' (out++ys)→Upd M h a→K s' a):
  ∃xs,SRow (hnew h vs cp) (some (aC h)) (n*1) xs∧AppP (some [.int .u8 0]) 1 1 cp c.a c.len c.cap n xs (hnew h vs cp) K:=by
 subst hv d;have k:=Upd.hnew No h (ys.flatMap nq) cp;have j:OwnS nq 1 cp (fun _=>True) (hnew h (ys.flatMap nq) cp) ⟨some (aC h),ys.length,ys.length⟩ ys:=⟨rfl,pF,ao _,.inr ⟨h.size,[],rfl,trivial,by rw[bP];exact cW ..,by simp⟩⟩
 refine⟨_,(j.sl (W:=No) fun _ _ _ h=>h).srow,?_⟩
 refine AppP.own (ys:=ys) (g.upd k fun _ _ h=>h) rfl rfl (yx _) rfl (by omega) (by omega) (hM _ (by rw[kA];omega)) fun s' a e f=>?_
 exact i s' a e ((Upd.hnew M h _ _).tr f)
def UI(W:Nat→Prop)(n:Bn):Prop:=∀{b:Nat} {sl:ByteArray} {h0 h:ad} {M:Nat→Prop} {s:SliceV} {xs:List UInt8},RxN W h0 b sl n.2.1 n.2.2→sl.data.toList=n.1→Upd No h0 h→(∀y,M y→h0.size≤y)→OwnS nq 1 cp M h s xs→(∀y,h.size≤y→M y)→
 xs.length+(gL n).length≤140737488355328→∀{K:SliceV→ad→Prop},(∀s' h',OwnS nq 1 cp M h' s' (xs++gL n)→Upd M h h'→K s' h')→HC PG iW [.pointer (some ⟨b,0,none⟩),.slice s.a s.len s.cap] [.c .slice] K h
theorem Ov{W:Nat→Prop}{lab:List UInt8}{w:Option ByteArray}{c:Fo}(hl:lab.length≤10000)(hw:∀v,w=some v→v.size≤10000)(hk256:c.toL.length≤256)(ih:∀m∈c.toL,UI W m):UI W (lab,w,c):=by
 intro b sl h0 h M s xs r E hu0 H ho hM hx K N;simp only at r E;have D:(⟨lab.toArray⟩:ByteArray)=sl:=by rw[←E]
 refine wx (some ⟨b,0,none⟩) s ?_;unfold pS bQ dK bM bD zR ie RO Qm;obtain⟨val,s1,ow,ks,S,hv,hs,hcap,hF⟩:=r;have hL:=pY.1 hF;have P:∀{g},Upd M h g→Upd No h0 g:=fun k=>hu0.trans k fun y hy=>.inr (H y hy)
 have blk:∀{g},Upd M h g→g[b]? =some (.cells (vQ sl w.isSome val s1 ow) bw (0,0)):=fun k=>(P k).get0 S
 have u:∀{g},Upd M h g→∀y,g.size≤y→M y:=fun k y hy=>hM y (ba k.size hy)
 have Y:sl.size=lab.length:=by rw[←E];simp
 have x:=hs.len;rw[hL.1]at x;unfold gL at hx N;rw[uR]at hx N;simp only at hx N;rw[ae]at hx;have G:(pO lab w c.toL.length).length=2+lab.length+((r6 w).length+2):=by
  unfold pO;rw[ae,ae,hE,c7,D,Y]
 refine⟨_,rfl,sl,dz (i:=0) (blk (Upd.refl M h)),?_⟩;refine BV (W:=No) (ho.sl fun _ _ _ h=>h) ho.cap sl (by omega) (by omega) fun s2 V z hu2=>?_
 have z:=z.more hM;have d:Upd M h V:=hu2.wide;refine Join.intro (fun t g=>OwnS nq 1 cp M g t (xs++mq sl++(r6 w))∧Upd M h g) (fun R J=>⟨_,rfl,w.isSome,dz (i:=1) (blk d),?_⟩) ?_
 ·cases w with
  |none=>
   refine aj.2 (bT ?_);refine sR (b:=0) rfl z (u d) ?_ fun s3 O o f=>J _ _ ⟨o,d.tr f⟩
   rw[ae,hE];simp only[r6,aK]at G;omega
  |some v=>
   have X:=vw hv v rfl;subst X;have hvs:=hw val rfl;simp only[r6,aN,hE]at G;have k3:Upd M h (hnew V [.int .u8 1] cp):=d.tr (Upd.hnew M V _ _);refine aA.2 ⟨_,rfl,val,dz (i:=2) (blk d),bT ⟨dz (i:=2) (blk k3),?_⟩⟩;refine sR (b:=1) rfl z (u d) (by rw[ae,hE];omega) fun s3 O o f=>⟨dz (i:=2) (blk (d.tr f)),?_⟩
   refine BV (W:=No) (o.sl fun _ _ _ h=>h) o.cap val (by omega) (by rw[ae,ae,hE,aK];omega) fun s4 h4 n C=>J _ _ ⟨?_,(d.tr f).tr C.wide⟩
   have n:=n.more (u (d.tr f));simp only[r6,ar,List.singleton_append]at n⊢;exact n
 ·rintro s3 O ⟨o,f⟩
  have e8:Int.fdiv (s1.len:Int) (2^(min (8:Int).toNat (IntKind.bits .i64)))=((c.toL.length>>>8:Nat):Int):=by
   have:(2^(min (8:Int).toNat (IntKind.bits .i64)):Int)=2^8:=rfl;rw[this,x,ld]
  refine Join.intro (fun t g=>OwnS nq 1 cp M g t (xs++pO lab w c.toL.length)∧Upd M h g) (fun R J=>⟨_,rfl,s1,dz (i:=3) (blk f),_,rfl,s1,dz (i:=3) (blk f),by omega,?_⟩) ?_
  ·simp only[Bd]
   rw[e8];have k4:Upd M h (hnew O [.int .u8 (IntKind.wrap .u8 (s1.len:Int)),.int .u8 (IntKind.wrap .u8 ((c.toL.length>>>8:Nat):Int))] cp):=f.tr (Upd.hnew M O _ _);refine bT ⟨dz (i:=3) (blk k4),dz (i:=3) (blk k4),?_⟩;refine Rj (ys:=kW c.toL.length 2) ?_ rfl o (u f) ?_ fun s5 h5 F p=>⟨dz (i:=3) (blk (f.tr p)),dz (i:=3) (blk (f.tr p)),J _ _ ⟨?_,f.tr p⟩⟩
   ·rw[x,IntKind.wrap_u8,IntKind.wrap_u8]
    simp[kW,f9]
   ·rw[ae,ae,hE,c7];omega
   ·unfold pO
    rw[D,←ar,←ar];exact F
  ·rintro s4 h4 ⟨n,C⟩
   refine⟨_,rfl,s1,dz (i:=3) (blk C),?_⟩;have Z:∀{g},Upd M h g→Sl lB 1 W g s1 ks:=fun k=>hs.upd (P k) fun _ h=>h.elim
   refine LoopP.ghost (fun(i:Nat) (t:SliceV×Int) g=>t.2=(i:Int)∧i≤c.toL.length∧OwnS nq 1 cp M g t.1 (xs++pO lab w c.toL.length++(c.toL.take i).flatMap gL)∧Upd M h g) (fun i=>c.toL.length-i) 0 ⟨rfl,aU _,by simpa using n,C⟩ ?_
   rintro I i ⟨so,ti⟩ g ⟨e1,hi,A,q⟩ hI;simp only at e1 A;subst e1;have B:∀j:i<c.toL.length,((c.toL.take i).flatMap gL).length+(gL c.toL[i]).length≤(c.toL.flatMap gL).length:=fun j=>by
    have e:c.toL=c.toL.take i++c.toL[i]::c.toL.drop (i+1):=by rw[List.getElem_cons_drop,aV]
    have:=congrArg (fun L=>(List.flatMap gL L).length) e
    simp only[bA,aX,ae]at this;omega
   refine aG (fun j=>?_) fun hge=>?_
   ·have j:i<c.toL.length:=by have:(i:Int)<(s1.len:Int):=j;omega
    obtain⟨kb,ksl,Q,hkl,hkn⟩:=hL.at j;obtain⟨a,ha,_,hvv⟩:=(Z q).at0 Q;have hsp:=B j;refine⟨⟨by simp only;omega,by simp only;omega⟩,a,ha,some ⟨kb,0,none⟩,hvv,?_⟩
    refine ih _ (aP j) hkn hkl (P q) H A (u q) (by rw[ae,ae];omega) fun s5 h5 F p=>?_
    rw[cz j (by omega)];refine hI (i+1) _ _ ⟨rfl,j,?_,q.tr p⟩ (by omega);rw[List.take_succ_eq_append_getElem j,bA,aX,List.flatMap_nil,bP,←ar];exact F
   ·have T:i=c.toL.length:=by have:¬(i:Int)<(s1.len:Int):=hge;omega
    subst T;rw[bU]at A;refine N _ _ ?_ q;rw[←ar];exact A
theorem F6{W:Nat→Prop}:∀{F:Fo},G6 F→∀n∈F.toL,UI W n
 | .nil,_,n,a=>by simp[Fo.toL]at a
 | .cons lab w kids rest,h,n,a=>by
  rcases au.1 a with rfl|a
  ·exact Ov h.1 h.2.1 h.2.2.1 (F6 h.2.2.2.1)
  ·exact F6 h.2.2.2.2 n a
structure RadAt(W:Nat→Prop)(h:ad)(b:Nat)(l:List Pr):Prop where
 ex:∃w F,RxN W h b ⟨#[]⟩ w F∧eW F∧∀k v,(k,v)∈nF w F↔∃p∈l,p.1.data.toList=k∧p.2=v
theorem RadAt.upd0{W:Nat→Prop}{h a:ad}{b:Nat}{l:List Pr}(k:Upd No h a)(r:RadAt W h b l):RadAt W a b l:=by
 obtain⟨w,F,e,d,c⟩:=r.ex;exact⟨w,F,e.upd0 k,d,c⟩
theorem RadAt.less{W W':Nat→Prop}{h:ad}(hm:∀b,W' b→W b∨h.size≤b){b:Nat}{l:List Pr}(r:RadAt W h b l):RadAt W' h b l:=by
 obtain⟨w,F,d,c,a⟩:=r.ex;exact⟨w,F,d.less hm,c,a⟩
theorem RadAt.updM{W M:Nat→Prop}{h a:ad}(k:Upd M h a)(hm:∀b,M b→W b∨h.size≤b){b:Nat}{l:List Pr}(r:RadAt W h b l):RadAt W a b l:=by
 obtain⟨w,F,e,d,c⟩:=r.ex;exact⟨w,F,e.updM k hm,d,c⟩
def LM(l:List Pr):List (List UInt8×ByteArray):=l.map fun p=>(p.1.data.toList,p.2)
theorem RY{l:List Pr}(c:cu l):Up (LM l):=by
 unfold LM Up;rw[List.pairwise_map];refine List.Pairwise.imp (R:=fun p q:Pr=>kl p.1 q.1) (fun{a b} h=>?_) c
 rw[Kc,ByteArray.toList_eq,ByteArray.toList_eq]at h;exact h
theorem LL:∀{l l':List Pr},LM l=LM l'→l=l'
 | [],[],_=>rfl
 | [],_::_,h=>by simp[LM]at h
 |_::_,[],h=>by simp[LM]at h
 |p::l,q::l',h=>by
  unfold LM at h;simp only[List.map_cons,fi.injEq,rW.injEq]at h;obtain⟨⟨c,d⟩,f⟩:=h;have e:p.1=q.1:=by
   generalize p.1=a at c;generalize q.1=b at c;cases a;cases b;exact congrArg jZ (hO.1 c)
  rw[LL f,Prod.ext e d]
theorem Ga{w:Option ByteArray}{F:Fo}{l:List Pr}(hc:eW F)(b:cu l)(c:∀k v,(k,v)∈nF w F↔∃p∈l,p.1.data.toList=k∧p.2=v):nF w F=LM l:=by
 refine Ob (QO hc) (RY b) fun p=>?_
 have:=c p.1 p.2;rw[show(p.1,p.2)=p from rfl]at this
 rw[this];unfold LM;rw[jW];constructor
 ·rintro⟨q,a,f,d⟩;exact⟨q,a,Prod.ext f d⟩
 ·rintro⟨q,a,e⟩;rw[←e];exact⟨q,a,rfl,rfl⟩
theorem OB{w w':Option ByteArray}{F F':Fo}(hc:eW F)(a:eW F')(h:nF w F=nF w' F'):w=w'∧F=F':=by
 have hm:∀k v,py w F k v↔py w' F' k v:=fun k v=>by rw[←mw,←mw,h]
 refine⟨Option.ext fun v=>?_,KL hc a fun k v=>?_⟩
 ·have:=hm [] v
  constructor
  ·intro e
   rcases this.1 (.inl ⟨rfl,e⟩)with⟨_,h⟩|h
   ·exact h
   ·exact absurd rfl (nH a h)
  ·intro e
   rcases this.2 (.inl ⟨rfl,e⟩)with⟨_,h⟩|h
   ·exact h
   ·exact absurd rfl (nH hc h)
 ·constructor
  ·intro hi
   rcases(hm k v).1 (.inr hi)with⟨e,_⟩|h
   ·exact absurd e (nH hc hi)
   ·exact h
  ·intro hi
   rcases(hm k v).2 (.inr hi)with⟨e,_⟩|h
   ·exact absurd e (nH a hi)
   ·exact h
end Go.Proofs
namespace Go.Proofs
open Go Go.Lift
theorem rc{p q:Pr}:∀{l:List Pr},cu l→(q∈gY p l↔q=p∨(q∈l∧q.1≠p.1))
 | [],_=>by simp[gY]
 |r::l,c=>by
  have c:=bq.1 c;rw[gm];by_cases d:kl r.1 p.1
  ·have f:r.1≠p.1:=fun e=>by rw[e]at d;exact cJ _ d
   rw[if_pos d,au,au,rc c.2];constructor
   ·rintro(rfl|h|⟨h,a⟩)
    ·exact .inr ⟨.inl rfl,f⟩
    ·exact .inl h
    ·exact .inr ⟨.inr h,a⟩
   ·rintro(h|⟨h|h,a⟩)
    ·exact .inr (.inl h)
    ·exact .inl h
    ·exact .inr (.inr ⟨h,a⟩)
  ·rw[if_neg d]
   by_cases b:r.1=p.1
   ·rw[if_pos b,au,au]
    constructor
    ·rintro(h|h)
     ·exact .inl h
     ·refine .inr ⟨.inr h,fun e=>?_⟩
      have:=c.1 q h;rw[e,b]at this;exact cJ _ this
    ·rintro(h|⟨rfl|h,a⟩)
     ·exact .inl h
     ·exact absurd b a
     ·exact .inr h
   ·rw[if_neg b,au,au]
    have g:=u0 d b;constructor
    ·rintro(h|rfl|h)
     ·exact .inl h
     ·exact .inr ⟨.inl rfl,b⟩
     ·refine .inr ⟨.inr h,fun e=>?_⟩
      have:=jh g (c.1 q h);rw[e]at this;exact cJ _ this
    ·rintro(h|⟨rfl|h,a⟩)
     ·exact .inl h
     ·exact .inr (.inl rfl)
     ·exact .inr (.inr h)
def RadRoot(W:Nat→Prop)(h:ad)(r:Option Addr)(l:List Pr):Prop:=(r=none∧l= [])∨∃b,r=some ⟨b,0,none⟩∧RadAt W h b l
theorem RadRoot.upd0{W:Nat→Prop}{h a:ad}{r:Option Addr}{l:List Pr}(k:Upd No h a)(t:RadRoot W h r l):RadRoot W a r l:=t.imp id fun⟨b,e,t⟩=>⟨b,e,t.upd0 k⟩
theorem qD{a b:ByteArray}:a.data.toList=b.data.toList↔a=b:=by
 constructor
 ·intro h;cases a;cases b;exact congrArg jZ (hO.1 h)
 ·rintro rfl;rfl
theorem JA{W:Nat→Prop}{h:ad}(a:∀y,W y→y<h.size){K:Option Addr→ad→Prop}(c:∀h' b,RadAt W h' b []→Upd No h h'→K (some ⟨b,0,none⟩) h'):HC PG oZ [] [.c .ptr] K h:=by
 refine Es ?_;unfold w6 Hi;refine bT (c _ h.size ⟨none,.nil,⟨⟨#[]⟩,⟨none,0,0⟩,none,[],cW h Rw bw,rfl,Sl.nil nB,⟨ao _,fun hx=>Nat.lt_irrefl _ (a _ hx),kz⟩,rfl⟩,trivial,fun k v=>?_⟩ (Upd.hnew No h _ _))
 simp[nF,xt]
def KY(l:List Pr)(xs:List UInt8):Prop:=∃w F,eW F∧nF w F=LM l∧xs=gL ([],w,F)
theorem vl{w:Option ByteArray}{F:Fo}{l:List Pr}(hc:eW F)(b:nF w F=LM l)(a:Fit l):G6 F∧∀v,w=some v→v.size≤10000:=by
 have hm:∀k v,py w F k v→k.length≤10000∧v.size≤10000:=fun k v hi=>by
  have:=mw.2 hi;rw[b]at this;obtain⟨q,c,e⟩:=jW.1 this;cases e;have:=a q c;exact⟨by simpa using this.1,this.2⟩
 exact⟨KA hc fun k v hi=>hm k v (.inr hi),fun v hv=>(hm [] v (.inl ⟨rfl,hv⟩)).2⟩
theorem QF{l l':List Pr}{xs a:List UInt8}(h:KY l xs)(k:KY l' a)(j:Fit l)(d:Fit l'):xs=a↔l=l':=by
 obtain⟨w,F,c,e,rfl⟩:=h;obtain⟨w',F',c',e',rfl⟩:=k;have i:=vl c e j;have g:=vl c' e' d;constructor
 ·intro hx
  have hx:gL ([],w,F)++ []=gL ([],w',F')++ []:=by rw[hx]
  unfold gL at hx;simp only[ar]at hx;obtain⟨_,f,m,hx⟩:=E4 (aU _) (aU _) i.2 g.2 (iY c) (iY c') hx;obtain⟨b,_⟩:=xp i.1 g.1 m hx;exact LL (by rw[←e,←e',f,b])
 ·rintro rfl
  obtain⟨f,b⟩:=OB c c' (e.trans e'.symm);rw[f,b]
theorem yv{l:List Pr}{xs:List UInt8}(h:KY l xs)(d:Fit l):xs.length≤20010+2*l.length*20010:=by
 obtain⟨w,F,c,e,rfl⟩:=h;have a:=vl c e d;have i:=E3 (lab:= []) (n:=F.toL.length) (aU _) a.2;have j:=xo a.1;have f:=GH c;have b:=congrArg ga e;unfold nF LM at b;rw[ae,gS]at b;have g:Iw F*20010≤2*l.length*20010:=Nat.mul_le_mul_right _ (by omega);unfold gL;rw[ae];simp only;omega
theorem HG{W:Nat→Prop}{h:ad}{b:Nat}{l:List Pr}(t:RadAt W h b l)(j:cu l)(d:Fit l)(p:l.length≤60000){K:SliceV→ad→Prop}
  (m:∀s' a xs,KY l xs→OwnS nq 1 cp (fun y=>h.size≤y) a s' xs→Upd No h a→K s' a):HC PG sq [.pointer (some ⟨b,0,none⟩)] [.c .slice] K h:=by
 refine Er _ ?_;unfold wZ;refine aj.2 ?_;obtain⟨w,F,k,c,g⟩:=t.ex;have f:=Ga c j g;have e:=vl c f d;have hv:KY l (gL ([],w,F)):=⟨w,F,c,f,rfl⟩;have q:=yv hv d;exact Ov (lab:= []) (aU _) e.2 (iY c) (F6 e.1) (s:=⟨none,0,0⟩) (xs:= []) (M:=fun y=>h.size≤y) k rfl (Upd.refl _ _) (fun _ h=>h) (OwnS.nil pF) (fun _ h=>h) (by rw[cF];omega) fun s' a n i=>m s' a _ hv n (i.mono fun y o=>.inr o)
end Go.Proofs
namespace Go.Proofs
open Go Go.Lift
theorem aO{h:ad}{cs:List Value}{t:TypeId}{k:ad→Prop}(a:∀h',h'[h.size]? =some (.cells cs.toArray t (0,0))→Upd No h h'→k h'):At (hnew h cs t) k:=
 bT (a _ (cW h cs t) (Upd.hnew No h cs t))
theorem vc{h:ad}{b:Nat}{c:Array Value}{t:TypeId}(a:h[b]? =some (.cells c t (0,0))) (i:Nat):aM h (adr ⟨b,0,none⟩ i)=c[i]?:=by rw[bL,aE];exact bj a
theorem fu{h:ad}{b:Nat}{c:Array Value}{t:TypeId}(a:h[b]? =some (.cells c t (0,0))) (i j:Nat):aM h (adr (adr ⟨b,0,none⟩ i) j)=c[i+j]?:=by rw[bL,bL,aE];exact bj a
theorem pB{h:ad}{b i:Nat}{c c':Array Value}{t:TypeId}{v:Value}{k:ad→Prop}(f:h[b]? =some (.cells c t (0,0))) (hi:i<c.size) (e:c.setIfInBounds i v=c') (j:∀a,a[b]? =some (.cells c' t (0,0))→Upd (· =b) h a→k a):Wr h (adr ⟨b,0,none⟩ i)∧At (hset h (adr ⟨b,0,none⟩ i) v) k:=by
 rw[bL,aE];exact⟨ia f hi,ui f fun a d g=>j a (e▸d) g⟩
theorem _root_.Go.Lift.Upd.own{h a c:ad}{b:Nat}(k:Upd No h a)(d:Upd (· =b) a c)(e:h.size≤b):Upd No h c:=k.trans d fun x hx=>.inr (by have hx:x=b:=hx;omega)
theorem _root_.Go.Lift.Upd.oth{h d:ad}{b c:Nat}{o:Obj}(e:Upd (· =b) h d)(hc:h[c]? =some o) (a:c≠b):d[c]? =some o:=e.get hc a
abbrev Tr:=Int×Int×Int×Int×(Option Addr)×(Option Addr)
abbrev je(t:Tr):List Value:= [.int .i64 t.1,.int .u64 t.2.1,.int .u64 t.2.2.1,.int .u64 t.2.2.2.1,.pointer t.2.2.2.2.1,.pointer t.2.2.2.2.2]
abbrev LK(t:Tr):Value:=.agg #[.int .i64 t.1,.int .u64 t.2.1,.int .u64 t.2.2.1,.int .u64 t.2.2.2.1,.pointer t.2.2.2.2.1,.pointer t.2.2.2.2.2]
def Pro(W:Nat→Prop)(h a:ad)(y:Nat):Prop:=W y∨(h.size≤y∧y<a.size)
theorem Pro.lt{W:Nat→Prop}{h a:ad}(b:∀y,W y→y<h.size)(k:Upd No h a):∀y,Pro W h a y→y<a.size:=fun y c=>c.elim (fun h=>bR (b y h) k.size) fun h=>h.2
theorem Pro.hm{W:Nat→Prop}{h a:ad}:∀y,Pro W h a y→W y∨h.size≤y:=fun _ b=>b.imp id fun h=>h.1
theorem Pro.sub{W:Nat→Prop}{h b a:ad}:∀y,W y→Pro W h b y∨a.size≤y:=fun _ c=>.inl (.inl c)
theorem RootAt.less{W W':Nat→Prop}{x:Hs}{h:ad}(hm:∀b,W' b→W b∨h.size≤b){r:Option Addr}{l:List Pr}(t:RootAt W x h r l):RootAt W' x h r l:=t.imp id fun⟨b,e,t⟩=>⟨b,e,TrieAt.less hm t⟩
theorem RadRoot.less{W W':Nat→Prop}{h:ad}(hm:∀b,W' b→W b∨h.size≤b){r:Option Addr}{l:List Pr}(t:RadRoot W h r l):RadRoot W' h r l:=t.imp id fun⟨b,e,t⟩=>⟨b,e,t.less hm⟩
def TreeIs(W:Nat→Prop)(h:ad)(a:Int)(x:Hs)(t:Tr)(l:List Pr):Prop:=(a=0∧∃b,t=(0,x.k0,x.k1,x.mask,some ⟨b,0,none⟩,none)∧TrieAt W x h 13 b l)∨(a=1∧∃b,t=(1,0,0,0,none,some ⟨b,0,none⟩)∧RadAt W h b l)
theorem TreeIs.upd0{W:Nat→Prop}{h d:ad}{a:Int}{x:Hs}{t:Tr}{l:List Pr}(k:Upd No h d)(i:TreeIs W h a x t l):TreeIs W d a x t l:=
 i.imp (fun⟨e,b,c,t⟩=>⟨e,b,c,TrieAt.upd0 k t⟩) fun⟨e,b,c,t⟩=>⟨e,b,c,t.upd0 k⟩
theorem TreeIs.less{W W':Nat→Prop}{h:ad}(hm:∀b,W' b→W b∨h.size≤b){a:Int}{x:Hs}{t:Tr}{l:List Pr}(i:TreeIs W h a x t l):TreeIs W' h a x t l:=
 i.imp (fun⟨e,b,c,t⟩=>⟨e,b,c,TrieAt.less hm t⟩) fun⟨e,b,c,t⟩=>⟨e,b,c,t.less hm⟩
theorem TreeIs.updM{W M:Nat→Prop}{h d:ad}(k:Upd M h d)(hm:∀b,M b→W b∨h.size≤b){a:Int}{x:Hs}{t:Tr}{l:List Pr}(i:TreeIs W h a x t l):TreeIs W d a x t l:=
 i.imp (fun⟨e,b,c,t⟩=>⟨e,b,c,TrieAt.updM k hm t⟩) fun⟨e,b,c,t⟩=>⟨e,b,c,t.updM k hm⟩
theorem TreeIs.pro{W:Nat→Prop}{h b:ad}(k:Upd No h b){a:Int}{x:Hs}{t:Tr}{l:List Pr}(i:TreeIs W h a x t l):TreeIs (Pro W h b) b a x t l:=(i.less Pro.hm).upd0 k
theorem Ei{W:Nat→Prop}{x:Hs}{h:ad}(f:∀y,W y→y<h.size){K:Option Addr→ad→Prop}(e:∀a b,TrieAt W x a 13 b []→Upd No h a→K (some ⟨b,0,none⟩) a):HC PG mD [] [.c .ptr] K h:=by
 refine Ez ?_;unfold xe;exact tN f fun a b c d=>e a b (Og c) d
abbrev wM:Tr:=(0,0,0,0,none,none)
theorem Hq{W:Nat→Prop}{x:Hs}{h:ad}{r:Option Addr}{l:List Pr}(t:RootAt W x h r l)(v:∀y,W y→y<h.size){K:Tr→ad→Prop}(s:∀e t,TreeIs W e 0 x t l→Upd No h e→K t e):HC PG qx [.agg #[.int .u64 x.k0,.int .u64 x.k1,.int .u64 x.mask],.pointer r] [.agg [.int .i64,.int .u64,.int .u64,.int .u64,.ptr,.ptr]] K h:=by
 refine Dz (x.k0,x.k1,x.mask) r ?_;unfold vF bo ag eO Ae uO BC aJ;refine aO fun o b1 k1=>aO fun p b2 k=>?_
 have w:=aD b1;have z:=aD b2;have d:=k1.tr k;refine Join.intro (fun t e=>Upd No p e∧∃b,t=some ⟨b,0,none⟩∧TrieAt (Pro W h p) x e 13 b l) (fun R m=>?_) ?_
 ·rcases t with⟨rfl,rfl⟩|⟨b,rfl,t⟩
  ·exact aA.2 (Ei (Pro.lt v d) fun u b t a=>m _ _ ⟨a,b,rfl,t⟩)
  ·exact aj.2 (m _ _ ⟨Upd.refl _ _,b,rfl,TrieAt.upd0 d (TrieAt.less Pro.hm t)⟩)
 ·rintro j u ⟨a,b,rfl,j⟩
  have c1:=a.get0 (k.get0 b1);refine⟨_,vc c1 0,_,vc c1 1,_,vc c1 2,?_⟩;refine dd (c:=je wM) (vs:=je (0,x.k0,x.k1,x.mask,some ⟨b,0,none⟩,none)) (a.get0 b2) rfl fun q f g=>?_
  refine⟨_,vc f 0,_,vc f 1,_,vc f 2,_,vc f 3,_,vc f 4,_,vc f 5,?_⟩;have i:h.size≤o.size:=k1.size;exact s q _ (.inl ⟨rfl,b,rfl,TrieAt.less Pro.sub (TrieAt.updM g (fun y n=>.inl (.inr (by have n:y=o.size:=n;omega))) j)⟩) ((d.tr a).own g i)
theorem Hp{W:Nat→Prop}{x:Hs}{h:ad}{r:Option Addr}{l:List Pr}(t:RadRoot W h r l)(q:∀y,W y→y<h.size){K:Tr→ad→Prop}(o:∀e t,TreeIs W e 1 x t l→Upd No h e→K t e):HC PG qw [.pointer r] [.agg [.int .i64,.int .u64,.int .u64,.int .u64,.ptr,.ptr]] K h:=by
 refine Dy r ?_;unfold vE bo ag eO uO BC aJ;refine aO fun m b2 d=>?_
 have s:=aD b2;refine Join.intro (fun t e=>Upd No m e∧∃b,t=some ⟨b,0,none⟩∧RadAt (Pro W h m) e b l) (fun R j=>?_) ?_
 ·rcases t with⟨rfl,rfl⟩|⟨b,rfl,t⟩
  ·exact aA.2 (JA (Pro.lt q d) fun p b t a=>j _ _ ⟨a,b,rfl,t⟩)
  ·exact aj.2 (j _ _ ⟨Upd.refl _ _,b,rfl,(t.less Pro.hm).upd0 d⟩)
 ·rintro i p ⟨a,b,rfl,i⟩
  refine dd (c:=je wM) (vs:=je (1,0,0,0,none,some ⟨b,0,none⟩)) (a.get0 b2) rfl fun n f g=>?_
  refine⟨_,vc f 0,_,vc f 1,_,vc f 2,_,vc f 3,_,vc f 4,_,vc f 5,?_⟩;exact o n _ (.inr ⟨rfl,b,rfl,(i.updM g (fun y k=>.inl (.inr (by have k:y=h.size:=k;omega)))).less Pro.sub⟩) ((d.tr a).own g (ao _))
theorem LP{W:Nat→Prop}{x:Hs}{h:ad}(q:∀y,W y→y<h.size){a:Int}(j:a=0∨a=1){K:Tr×Int→ad→Prop}(o:∀h' t,TreeIs W h' a x t []→Upd No h h'→K (t,0) h'):HC PG tS [.int .i64 a,.agg #[.int .u64 x.k0,.int .u64 x.k1,.int .u64 x.mask]] [.agg [.int .i64,.int .u64,.int .u64,.int .u64,.ptr,.ptr],.c (.int .i64)] K h:=by
 refine K4 a (x.k0,x.k1,x.mask) ?_;unfold DF bo ag eO Ae vM sK uO aJ;refine aO fun m b1 k1=>aO fun s b2 p=>?_
 have v:=aD b1;have w:=aD b2;have f:=k1.tr p;have g:h.size≤m.size:=k1.size;have c1:=p.get0 b1;rcases j with rfl|rfl
 ·refine aA.2 ⟨_,vc c1 0,_,vc c1 1,_,vc c1 2,?_⟩
  refine Hq (W:=Pro W h s) (x:=x) (l:= []) (.inl ⟨rfl,rfl⟩) (Pro.lt q f) fun u t n e=>?_
  refine dd (c:=je wM) (vs:=je t) (e.get0 b2) rfl fun k b d=>?_
  refine⟨_,vc b 0,_,vc b 1,_,vc b 2,_,vc b 3,_,vc b 4,_,vc b 5,?_⟩;exact o k t ((n.updM d (fun y i=>.inl (.inr (by have i:y=m.size:=i;omega)))).less Pro.sub) ((f.tr e).own d g)
 ·refine aj.2 (aA.2 ?_)
  refine Hp (W:=Pro W h s) (x:=x) (l:= []) (.inl ⟨rfl,rfl⟩) (Pro.lt q f) fun u t n e=>?_
  refine dd (c:=je wM) (vs:=je t) (e.get0 b2) rfl fun k b d=>?_
  refine⟨_,vc b 0,_,vc b 1,_,vc b 2,_,vc b 3,_,vc b 4,_,vc b 5,?_⟩;exact o k t ((n.updM d (fun y i=>.inl (.inr (by have i:y=m.size:=i;omega)))).less Pro.sub) ((f.tr e).own d g)
end Go.Proofs
namespace Go.Proofs
open Go Go.Lift
def ot(k:ByteArray)(l:List Pr):List Pr:=l.filter fun q=>decide (q.1≠k)
theorem vZ(k:ByteArray)(q:Pr)(l:List Pr):ot k (q::l)=if q.1=k then ot k l else q::ot k l:=by
 unfold ot;rw[List.filter_cons];by_cases h:q.1=k
 ·rw[if_pos h,if_neg (by simpa using h)]
 ·rw[if_neg h,if_pos (by simpa using h)]
theorem vA{k:ByteArray}{l:List Pr}(h:∀q∈l,q.1≠k):ot k l=l:=eY.2 fun q a=>decide_eq_true (h q a)
theorem yn{k:ByteArray}{l:List Pr}(h:cj l k=false):∀q∈l,q.1≠k:=fun q a e=>by
 have:cj l k=true:=ci.2 ⟨q,a,decide_eq_true e⟩;rw[h]at this;cases this
theorem yB{k:ByteArray}{l:List Pr}(h:∀q∈l,q.1≠k):cj l k=false:=by
 rcases ht:cj l k with _|_
 ·rfl
 ·obtain⟨q,a,e⟩:=ci.1 ht
  exact absurd (of_decide_eq_true e) (h q a)
theorem ET{k:ByteArray}{l:List Pr}(a:cu l):cu (ot k l):=a.sublist List.filter_sublist
theorem B5{k:ByteArray}{l:List Pr}{p:Pr}:p∈ot k l↔p∈l∧p.1≠k:=by unfold ot;rw[List.mem_filter,decide_eq_true_iff]
theorem Pz{k:ByteArray}{l:List Pr}:(ot k l).length≤l.length:=List.length_filter_le ..
theorem Md{k:ByteArray}:∀{l:List Pr},cu l→l.length≤(ot k l).length+1
 | [],_=>aU _
 |q::l,a=>by
  have a:=bq.1 a;rw[vZ];by_cases h:q.1=k
  ·rw[if_pos h,vA fun r hm e=>by have:=a.1 r hm;rw[h,e]at this;exact cJ _ this];exact ao _
  ·rw[if_neg h]
   have:=Md (k:=k) a.2;simp only[aN];omega
theorem Mf(k:ByteArray):∀{l:List Pr},cu l→Nw l k=ot k l
 | [],_=>by simp[Nw,ot,cj]
 |q::l,c=>by
  have m:=c;have c:=bq.1 c;have b:mW (q::l) k=if kl q.1 k then mW l k+1 else 0:=by
   unfold mW;rw[List.takeWhile_cons];by_cases h:kl q.1 k
   ·rw[if_pos (by simpa using h),if_pos h];rfl
   ·rw[if_neg (by simpa using h),if_neg h];rfl
  have f:cj (q::l) k=(decide (q.1=k)||cj l k):=by unfold cj;rw[List.any_cons]
  by_cases h:kl q.1 k
  ·have d:q.1≠k:=fun e=>by rw[e]at h;exact cJ _ h
   rw[vZ,if_neg d,←Mf k c.2];unfold Nw;rw[f,b,if_pos h,decide_eq_false d,Bool.false_or];by_cases i:cj l k=true
   ·rw[if_pos i,if_pos i];rfl
   ·rw[if_neg i,if_neg i]
  ·by_cases e:q.1=k
   ·have a:∀r∈l,r.1≠k:=fun r hm g=>by have:=c.1 r hm;rw[e,g]at this;exact cJ _ this
    rw[vZ,if_pos e,vA a];unfold Nw;rw[f,b,if_neg h,decide_eq_true e,Bool.true_or,if_pos rfl];rfl
   ·have j:=u0 h e
    have a:∀r∈q::l,r.1≠k:=fun r hm g=>by
     rcases au.1 hm with rfl|hm
     ·exact e g
     ·have:=c.1 r hm
      rw[g]at this;exact cJ _ (jh j this)
    rw[vA a];unfold Nw;rw[yB a];rfl
theorem HS{x:Hs}{lev c:Nat}{k:ByteArray}{l:List Pr}:part x lev c (ot k l)=ot k (part x lev c l):=by
 unfold part ot;rw[List.filter_filter,List.filter_filter];exact List.filter_congr fun p _=>Bool.and_comm ..
theorem Nd{x:Hs}{lev c:Nat}{k:ByteArray}{l:List Pr}(h:c≠ck x lev k):part x lev c (ot k l)=part x lev c l:=by
 rw[HS];exact vA fun q a e=>h (by rw[←e];exact(my.1 a).2.symm)
theorem Mb{β:Type}(g:Nat→Option β):∀n,(fm g n).length=((List.range n).map fun c=>(g c).toList.length).sum
 |0=>rfl
 |n+1=>by
  rw[fS,ae,Mb g n,f9,List.map_append,List.sum_append];simp
theorem Ht{x:Hs}{lev:Nat}{l:List Pr}(h:∀c,c<32→(part x lev c l).length≤1):(fC x lev l).length=l.length:=by
 unfold fC;rw[Mb];have e:=qi x lev l 32;have d:(l.filter fun p=>decide (ck x lev p.1<32))=l:=eY.2 fun p _=>decide_eq_true (yU x lev p.1)
 rw[d]at e;rw[←e];refine congrArg List.sum (List.map_congr_left fun c hc=>?_)
 have:=h c (gA.1 hc);match hp:part x lev c l with
 | []=>rfl
 | [p]=>rfl
 |a::b::r=>rw[hp]at this;simp at this
theorem Jo{W:Nat→Prop}{x:Hs}{h:ad}{m b:Nat}{l:List Pr}(t:TrieAt W x h m b l)(D:l.length≤1000000):
  ∃d n sp sk bu ow lp lk,h[b]? =some (.cells (fy d n sp sk bu ow) bK (0,0))∧Sl fP 2 W h sp lp∧Sl px 1 W h sk lk∧lp.length≤1000000∧lk.length≤32∧(lp.length+lk.length=1∧n=0↔l.length=1)∧∀p,l= [p]→lp= [p]:=by
 cases m with
 |zero=>
  obtain⟨sp,sk,ow,A,j,i,_⟩:=BuckAt.ex t;exact⟨0,0,sp,sk,true,ow,l,[],A,j,i,D,by simp,by simp,fun p e=>e⟩
 |succ m=>
  obtain⟨s,E,o⟩:=t;have o:∀c,c<32→SlotIs W x h m s c (part x (12-m) c l):=o;obtain⟨d,n,sp,sk,ow,A,bits,j,i,_⟩:=E.ex;have k:=BX o;have C:=vi (g:=s.p);refine⟨d,n,sp,sk,false,ow,_,_,A,j,i,by omega,vi,?_,?_⟩
  ·by_cases u:∀c,c<32→s.k c=none
   ·have w:n=0:=Nat.eq_of_testBit_eq fun c=>by
     rw[fI];by_cases hc:c<32
     ·rw[bits.nk c hc,u c hc];rfl
     ·exact Nat.testBit_lt_two_pow (bR bits.n32 (Nat.pow_le_pow_right (n:=2) (by omega) (by omega:32≤c)))
    have ek:fm s.k 32= []:=by
     unfold fm;rw[List.filterMap_eq_nil_iff];exact fun c hc=>u c (gA.1 hc)
    have z:(fm s.p 32).length=l.length:=by
     rw[k];refine Ht fun c hc=>?_
     rcases o c hc with⟨f,_⟩|⟨p,f,_⟩|⟨_,_,F,B,_⟩
     ·rw[f];simp
     ·rw[f];simp
     ·rw[u c hc]at B;cases B
    rw[ek,z,w];simp
   ·obtain⟨c,hc⟩:=Classical.not_forall.1 u
    obtain⟨hc,a⟩:=Classical.not_imp.1 hc;have v:n≠0:=fun w=>by
     have:=bits.nk c hc;rw[w,fI]at this;cases hkk:s.k c with
     |none=>exact a hkk
     |some y=>rw[hkk]at this;cases this
    rcases o c hc with⟨_,_,f⟩|⟨p,_,_,f⟩|⟨B,_⟩
    ·exact absurd f a
    ·exact absurd f a
    ·have:=j3 (x:=x) (lev:=12-m) (c:=c) (l:=l)
     constructor
     ·rintro⟨_,e⟩;exact absurd e v
     ·intro e;omega
  ·rintro p rfl
   rw[k];have hc:=yU x (12-m) p.1;have z:(fC x (12-m) [p]).length=1:=Ht fun c _=>ba j3 (by simp)
   match hq:fC x (12-m) [p],z with
   | [q],_=>
    have:q∈fC x (12-m) [p]:=by rw[hq];exact aq.2 rfl
    rw[aq.1 (qj this)]
theorem QS{h:ad}{b d n:Nat}{sp sk:SliceV}{c:Bool}{ow:Option Addr}(a:h[b]? =some (.cells (fy d n sp sk c ow) bK (0,0))) (g:sp.len+sk.len≤1000000000) {K:Int→ad→Prop} (f:K ((sp.len+sk.len:Nat):Int) h):HC PG j6 [.pointer (some ⟨b,0,none⟩)] [.c (.int .i64)] K h:=by
 refine uD _ ?_;unfold pJ bD;refine aj.2 ⟨_,rfl,sp,dT (i:=2) a,_,rfl,sk,dT (i:=3) a,?_⟩;have e:IntKind.wrap .i64 ((sp.len:Int)+(sk.len:Int))=((sp.len+sk.len:Nat):Int):=by rw[oq (by omega)];omega
 rw[e];exact f
theorem PW{W:Nat→Prop}{x:Hs}{h:ad}{m b:Nat}{l:List Pr}(t:TrieAt W x h m b l)(E:l.length≤1000000){K:Pr×Bool→ad→Prop}
  (v:∀j p,Upd No h j→(l.length=1→l= [p])→K (p,decide (l.length=1)) j):HC PG sA [.pointer (some ⟨b,0,none⟩)] [.agg [.str,.str],.c .bool] K h:=by
 refine Ey _ ?_;unfold xd dK bM aB eO mo jw;refine aO fun I b1 k1=>?_
 have J:=TrieAt.upd0 k1 t;obtain⟨d,n,sp,sk,O,ow,N,lk,B,u,C,H,G,f,c⟩:=Jo J E;have P:=u.len;have M:=C.len;refine Join.intro (fun t j=>t= !decide (l.length=1)∧j=I) (fun R D=>?_) ?_
 ·refine QS B (by omega) ?_
  by_cases e:sp.len+sk.len=1
  ·have z:((sp.len+sk.len:Nat):Int)=1:=by omega
   rw[z];refine aj.2 (yA B (D _ _ ⟨?_,rfl⟩));by_cases w:n=0
   ·rw[decide_eq_true (f.1 ⟨by omega,w⟩),w];rfl
   ·rw[decide_eq_false fun h=>w (f.2 h).2]
    exact bne_iff_ne.2 (by omega)
  ·have z:(((sp.len+sk.len:Nat):Int) !=(1:Int))=true:=bne_iff_ne.2 (by omega)
   rw[z];refine aA.2 (D _ _ ⟨?_,rfl⟩);rw[decide_eq_false fun h=>e (by have:=(f.2 h).1;omega)];rfl
 ·rintro _ j ⟨rfl,rfl⟩
  have k:j[h.size]? =some (.cells #[.string Jj.1,.string Jj.2] aw (0,0)):=b1;by_cases e:l.length=1
  ·rw[decide_eq_true e]
   refine aj.2 ?_;refine pf B u (by omega) fun s2 L o q=>?_
   match l,e,c with
   | [p],e,c=>
    have y:=c p rfl;subst y;have s:=o.len;obtain⟨a,F,_,hv⟩:=(o.sl (W:=No) fun _ _ _ h=>h).at (i:=0) (x:=p) rfl
    refine⟨⟨by omega,by simp at s;omega⟩,a,F,p.1,hv 0 _ rfl,p.2,hv 1 _ rfl,?_⟩
    refine A8 (p:=p) (q.get0 k) fun A b3 g=>⟨_,vc b3 0,_,vc b3 1,?_⟩
    have:=v A p ((k1.tr q).own g (ao _)) fun _=>rfl
    exact this
  ·have:=v
   rw[decide_eq_false e];rw[decide_eq_false e]at v;refine aA.2 (A8 (p:=Jj) k fun A b3 g=>⟨_,vc b3 0,_,vc b3 1,?_⟩)
   exact v A _ (k1.own g (ao _)) fun h=>absurd h e
end Go.Proofs
namespace Go.Proofs
open Go Go.Lift
theorem HW{h:ad}{s:SliceV}{l:List Pr}(f:Sl fP 2 No h s l)(hc:s.len≤s.cap)(t:cu l)(D:l.length≤1000000000)(k:ByteArray)
  {K:SliceV→ad→Prop}(q:∀s' h',OwnS fP 2 aw (fun b=>h.size≤b) h' s' (ot k l)→Upd No h h'→K s' h'):HC PG vt [.slice s.a s.len s.cap,.string k] [.c .slice] K h:=by
 refine IR s k ?_;unfold Bz zR;have e:=f.len;refine GA f t D k fun o a=>?_
 have E:=OM l k;cases ht:cj l k with
 |false=>
  refine aA.2 (Av (f.upd a fun _ h=>h.elim) (by omega) fun s3 H u p=>?_)
  rw[vA (yn ht)]at q;exact q _ _ (u.more fun b w=>ba a.size w) (a.tr p)
 |true=>
  obtain⟨C,_⟩:=Gh t ht;have ew:IntKind.wrap .i64 ((mW l k:Int)+1)=((mW l k+1:Nat):Int):=by rw[oq (by omega)];omega
  refine aj.2 ?_;simp only;rw[ew];refine⟨by omega,by omega,?_⟩
  simp only[Bd,aH];refine bT ?_;have c:=f.upd a fun _ h=>h.elim
  have n:=Upd.hnew No o [.slice (bh s.a 0 s.cap 2) (mW l k-0) (s.cap-0),.slice (bh s.a (mW l k+1) s.cap 2) (s.len-(mW l k+1)) (s.cap-(mW l k+1))] cR;have F:=cW o [.slice (bh s.a 0 s.cap 2) (mW l k-0) (s.cap-0),.slice (bh s.a (mW l k+1) s.cap 2) (s.len-(mW l k+1)) (s.cap-(mW l k+1))] cR;have A:=F5 c (i:=0) (j:=mW l k) (m:=s.cap) (aU _) E (by omega) (s.cap-0)
  have y:=F5 c (i:=mW l k+1) (j:=l.length) (m:=s.cap) (by omega) (ao _) (by omega) (s.cap-(mW l k+1));rw[←e]at y;rw[List.drop_zero]at A;rw[List.take_of_length_le (by rw[aL];omega)]at y;have B:ot k l= [l.take (mW l k-0),l.drop (mW l k+1)].flatten:=by rw[←Mf k t];unfold Nw;rw[if_pos ht];simp
  refine Fx (s:=⟨some (aC o),2,2⟩) (vs:= [⟨bh s.a 0 s.cap 2,mW l k-0,s.cap-0⟩,⟨bh s.a (mW l k+1) s.cap 2,s.len-(mW l k+1),s.cap-(mW l k+1)⟩]) (ls:= [l.take (mW l k-0),l.drop (mW l k+1)])
   ⟨rfl,fun x=>⟨rfl,Nat.one_pos⟩,fun _=>⟨_,rfl,fun h=>h.elim,oV F fun i v hv=>by simpa[Uf]using hv⟩⟩ ⟨A.upd n fun _ h=>h.elim,y.upd n fun _ h=>h.elim,trivial⟩ ?_ (by simp) fun I G d g=>?_
  ·simp only[List.flatten_cons,List.flatten_nil,ae,aI,aL,cF];omega
  ·rw[←B]at d
   have z:=a.tr n;exact q _ _ (d.more fun b w=>ba z.size w) (z.tr g)
end Go.Proofs
namespace Go.Proofs
def rV(P a:List UInt8→ByteArray→Prop)(k:List UInt8):Prop:=∀k' v',a k' v'↔k'≠k∧P k' v'
theorem KD{P:List UInt8→ByteArray→Prop}{k:List UInt8}(h:∀v,¬P k v):rV P P k:=fun k' b=>⟨fun a=>⟨fun e=>h b (e▸a),a⟩,fun h=>h.2⟩
theorem KC{w:Option ByteArray}{F:Fo}(h:eW F):rV (py w F) (py none F) []:=by
 intro k' a;unfold py;constructor
 ·rintro(⟨_,f⟩|hi)
  ·cases f
  ·exact⟨nH h hi,.inr hi⟩
 ·rintro⟨e,⟨f,_⟩|hi⟩
  ·exact absurd f e
  ·exact .inr hi
theorem Df{w:Option ByteArray}{F F':Fo}{k:List UInt8}(b:k≠[])(h:rV (ox F) (ox F') k):rV (py w F) (py w F') k:=by
 intro k' a;unfold py;rw[h k' a];constructor
 ·rintro(⟨e,f⟩|hi)
  ·exact⟨fun e'=>b (e'.symm.trans e),.inl ⟨e,f⟩⟩
  ·exact⟨hi.1,.inr hi.2⟩
 ·rintro⟨e,hi|hi⟩
  ·exact .inl hi
  ·exact .inr ⟨e,hi⟩
theorem KE{lab r:List UInt8}{w w':Option ByteArray}{F F':Fo}(h:rV (py w F) (py w' F') r):rV (qW (lab,w,F)) (qW (lab,w',F')) (lab++r):=by
 intro k' c;constructor
 ·rintro⟨s,e,b⟩
  obtain⟨a,d⟩:=(h s c).1 b;exact⟨fun e'=>a (ez (e.symm.trans e')),s,e,d⟩
 ·rintro⟨a,s,e,b⟩
  exact⟨s,e,(h s c).2 ⟨fun e'=>a (by rw[e,e']),b⟩⟩
theorem Nu{F:Fo}{i:Nat}{m:Bn}{k:List UInt8}(h:eW F)(hi:i<F.toL.length)(ek:hd F.toL[i].1=hd k)(f:rV (qW F.toL[i]) (qW m) k):rV (ox F) (ox (.ofL (F.toL.set i m))) k:=by
 intro k' g;have hc:=eg.1 h;rw[fw,fw,Fo.to_of];constructor
 ·rintro⟨n,a,b⟩
  rcases(kV hi (tM h hi)).1 a with rfl|⟨a,c⟩
  ·obtain⟨d,j⟩:=(f k' g).1 b
   exact⟨d,_,aP hi,j⟩
  ·refine⟨fun e=>c ?_,n,a,b⟩
   obtain⟨r,e',_⟩:=b;refine wc h a (aP hi) ?_;rw[ek,←e,e',nI (hc.2 n a).1]
 ·rintro⟨d,n,a,b⟩
  by_cases e:n=F.toL[i]
  ·exact⟨m,(kV hi (tM h hi)).2 (.inl rfl),(f k' g).2 ⟨d,by rw[←e];exact b⟩⟩
  ·exact⟨n,(kV hi (tM h hi)).2 (.inr ⟨a,e⟩),b⟩
theorem Bc{α:Type}{l:List α}{i:Nat}(hi:i<l.length){x:α}(d:∀j (a:j<l.length),j≠i→l[j]≠l[i]):x∈l.take i++l.drop (i+1)↔x∈l∧x≠l[i]:=by
 constructor
 ·intro h
  rcases bJ.1 h with h|h
  ·obtain⟨j,a,e⟩:=cB h
   rw[aI]at a;rw[oh]at e;exact⟨gB h,by rw[←e];exact d j (by omega) (by omega)⟩
  ·obtain⟨j,a,e⟩:=cB h
   rw[aL]at a;rw[ol]at e;exact⟨List.mem_of_mem_drop h,by rw[←e];exact d (i+1+j) (by omega) (by omega)⟩
 ·rintro⟨h,b⟩
  obtain⟨j,a,e⟩:=cB h;rcases Nat.lt_trichotomy j i with c|c|c
  ·exact bJ.2 (.inl (ml (i:=j) (h:=by rw[aI];omega) (by rw[oh];exact e)))
  ·subst c;exact absurd e.symm b
  ·refine bJ.2 (.inr (ml (i:=j-(i+1)) (h:=by rw[aL];omega) ?_))
   rw[ol];have:i+1+(j-(i+1))=j:=by omega
   simp only[this];exact e
theorem Rd{F:Fo}{i:Nat}(h:eW F):eW (.ofL (F.toL.take i++F.toL.drop (i+1))):=by
 have hc:=eg.1 h;rw[eg,Fo.to_of];have a:(F.toL.take i++F.toL.drop (i+1)).Sublist F.toL:=by rw[←List.eraseIdx_eq_take_drop_succ];exact List.eraseIdx_sublist ..
 exact⟨hc.1.sublist a,fun n b=>hc.2 n (a.subset b)⟩
theorem Nv{F:Fo}{i:Nat}{k:List UInt8}(h:eW F)(hi:i<F.toL.length)(ek:hd F.toL[i].1=hd k)(f:∀k' d,qW F.toL[i] k' d→k'=k):rV (ox F) (ox (.ofL (F.toL.take i++F.toL.drop (i+1)))) k:=by
 intro k' d;have hc:=eg.1 h;rw[fw,fw,Fo.to_of];constructor
 ·rintro⟨n,a,b⟩
  obtain⟨a,c⟩:=(Bc hi (tM h hi)).1 a;refine⟨fun e=>c ?_,n,a,b⟩
  obtain⟨r,e',_⟩:=b;refine wc h a (aP hi) ?_;rw[ek,←e,e',nI (hc.2 n a).1]
 ·rintro⟨g,n,a,b⟩
  by_cases e:n=F.toL[i]
  ·exact absurd (f k' d (by rw[←e];exact b)) g
  ·exact⟨n,(Bc hi (tM h hi)).2 ⟨a,e⟩,b⟩
def Rk(n:Bn)(o:Option Bn):Prop:=(o=none∧∀k v,¬qW n k v)∨∃m,o=some m∧Ja m∧hd m.1=hd n.1∧∀k v,qW m k v↔qW n k v
theorem Ni{lab:List UInt8}{w:Option ByteArray}{F:Fo}(a:lab≠[])(hc:eW F)(h:w.isSome∨2≤F.toL.length):Rk (lab,w,F) (some (lab,w,F)):=.inr ⟨_,rfl,⟨a,h,hc⟩,rfl,fun _ _=>ut⟩
theorem Nj{lab:List UInt8}{F:Fo}(h:F.toL= []):Rk (lab,none,F) none:=by
 refine .inl ⟨rfl,fun k v hi=>?_⟩
 obtain⟨r,_,⟨_,a⟩|a⟩:=hi
 ·cases a
 ·obtain⟨n,b,_⟩:=fw.1 a
  simp only at b;rw[h]at b;cases b
theorem OZ{lab lk:List UInt8}{a:Option ByteArray}{F Fk:Fo}(c:lab≠[])(hc:eW F)(h:F.toL= [(lk,a,Fk)]):Rk (lab,none,F) (some (lab++lk,a,Fk)):=by
 have d:F=.cons lk a Fk .nil:=by
  rw[←Fo.of_to F,h];rfl
 have b:=(eg.1 hc).2 (lk,a,Fk) (by rw[h];exact aq.2 rfl);refine .inr ⟨_,rfl,⟨fun e=>c (fW.1 e).1,b.2.1,b.2.2⟩,nI c,fun k v=>?_⟩
 have:=Fh (lab:=lab++lk) (w:=a) (F:=Fk) lab.length k v;rw[List.take_left,gC]at this;rw[d];exact this.symm
end Go.Proofs
namespace Go.Proofs
open Go Go.Lift
theorem lD(s:ByteArray):s.data.toList.length=s.size:=by simp
theorem PR(a b:ByteArray):(a++b).data.toList=a.data.toList++b.data.toList:=by rw[ByteArray.data_append,Array.toList_append]
theorem M9{a b:ByteArray}{h:ad}{K:Bool→ad→Prop}(c:K (decide (b.data.toList<+:a.data.toList)) h):HC PG r9 [.string a,.string b] [.c .bool] K h:=by
 refine El a b ?_;unfold wU jw;refine AE a b ?_;unfold te jw;refine pp a b ?_;unfold jK;have j:=lD a;have d:=lD b;refine aG (fun g=>?_) fun i=>?_
 ·refine⟨⟨by omega,by omega⟩,?_⟩
  rw[jp,aH];have e:decide (a.extract 0 b.size=b)=decide (b.data.toList<+:a.data.toList):=by
   rw[decide_eq_decide,←qD,yO,List.prefix_iff_eq_take,d];exact eq_comm
  rw[e];exact c
 ·have e:decide (b.data.toList<+:a.data.toList)=false:=decide_eq_false fun f=>by
   have:=f.length_le;omega
  rw[e]at c;exact c
theorem SQ{a b:ByteArray}{h:ad}{K:ByteArray×Bool→ad→Prop}(g:∀s:ByteArray,a.data.toList=b.data.toList++s.data.toList→K (s,true) h)(i:(∀r,a.data.toList≠b.data.toList++r)→K (⟨#[]⟩,false) h):HC PG xz [.string a,.string b] [.c .str,.c .bool] K h:=by
 refine K3 a b ?_;unfold DE jw;refine M9 ?_;have j:=lD a;have f:=lD b;by_cases c:b.data.toList<+:a.data.toList
 ·rw[decide_eq_true c]
  have d:=c.length_le;refine aj.2 ⟨⟨by omega,by omega⟩,?_⟩
  rw[aH];refine g _ ?_;rw[yP];obtain⟨r,e⟩:=c;rw[←e,←f,gC]
 ·rw[decide_eq_false c]
  exact aA.2 (i fun r e=>c ⟨r,e.symm⟩)
end Go.Proofs
