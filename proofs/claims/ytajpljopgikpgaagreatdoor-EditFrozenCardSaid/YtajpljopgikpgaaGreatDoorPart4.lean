/- A part of the proof that the named laws of this program answer true, whatever the input. -/
import Derived.Test.YtajpljopgikpgaaGreatDoorPart3
import Derived.Test.YtajpljopgikpgaaGreatDoorPart2
open Array renaming toList_inj→gS
open ByteArray renaming mk→jE
open Iff renaming rfl→vF
open Int renaming toNat_natCast→aO
open List renaming mem_append→bW,mem_of_mem_take→g7,mem_cons→aA,getElem_of_mem→cD,getElem?_eq_getElem→ag,getElem_mem→aP,length→f8,length_drop→aW,length_nil→cB,mem_singleton→au,append_eq_nil_iff→gm,take_length→cd,take_append_drop→ba,length_take→aU,append_cancel_left→d9,mem_of_getElem?→az,getElem?_set→eM,mem_map→kR,pairwise_append→du,mem_cons_self→aE,pairwise_cons→bB,lt_irrefl→r7,mem_cons_of_mem→aX,length_append→af,length_map→c7,length_cons→aV,length_singleton→aK,append_nil→bT,flatMap_cons→aY,append_assoc→aw,cons_append→cY,cons→fA,range_succ→gz,flatMap_append→bH,filter_eq_self→fp,any_eq_true→cy,mem_range→g6,getElem_take→pe,getElem_drop→pf,mem_of_getElem→nh,drop_left→gk
open List.Pairwise renaming nil→gn
open Nat renaming le_refl→ao,lt_or_ge→bK,lt_of_lt_of_le→bP,add_mul→jD,le_trans→bv,zero_le→bo,zero_add→aL,zero_testBit→fW
open Option renaming map_eq_some_iff→kO
open Prod renaming mk→rh
namespace Go.Proofs
open Go Go.Lift
theorem KidO.move{o:Option Addr}{W W' M:Nat→Prop}{h c:ad}(k:Upd M h c){a:Option Addr}{n:Bn}{S:Nat→Prop}(r:KidO o W h a n S)(f:∀y,S y→y<h.size)(hm:∀y,M y→(W y∧¬S y)∨h.size≤y)(d:∀y,W' y→W y∨h.size≤y):KidO o W' c a n S:=
 ((r.less (W':=fun y=>W y∨h.size≤y) fun y b=>b).upd k f fun y b=>(hm y b).imp (fun h=>⟨.inl h.1,h.2⟩) id).less fun y b=>.inl (d y b)
theorem BF{o ow:Option Addr}{W S M:Nat→Prop}{h f:ad}{b:Nat}{s:SliceV}{ks:List (Option Addr)}{Us Us':List (Nat→Prop)}
  (g:(OwOk W h ow∧(¬W b)∧Sl mw 1 W h s ks∧∀y,¬S y)∨(o.isSome=true∧ow=o∧∃A:Nat→Prop,OwnS mw 1 bj A h s ks∧(∀y,A y→S y∧y≠b∧y<h.size)∧S b∧∀U∈Us,∀y,U y→¬A y∧y≠b))
  (D:b<h.size)(m:Upd M h f)(hM:∀y,M y→S y∧∃U∈Us,U y)(p:∀U∈Us',∀y,U y→((∃V∈Us,V y)∨h.size≤y)∧y<f.size):
  (OwOk W f ow∧Sl mw 1 No f s ks∧(∀U∈Us',∀y,U y→y<f.size))∨(o.isSome=true∧ow=o∧∃A:Nat→Prop,OwnS mw 1 bj A f s ks∧(∀y,A y→S y∧y≠b∧y<f.size)∧S b∧∀U∈Us',∀y,U y→¬A y∧y≠b):=by
 have z:=m.size;rcases g with⟨n,_,C,i⟩|⟨e,v,A,u,d,j,k⟩
 ·exact .inl ⟨n.upd m fun y a=>absurd (hM y a).1 (i y),(C.upd m fun y a=>absurd (hM y a).1 (i y)).less fun _ h=>h.elim,fun U c y a=>(p U c y a).2⟩
 ·refine .inr ⟨e,v,A,u.upd m fun y a hm=>?_,fun y a=>⟨(d y a).1,(d y a).2.1,by have:=(d y a).2.2;omega⟩,j,fun U c y a=>?_⟩
  ·obtain⟨_,U,c,B⟩:=hM y hm
   exact(k U c y B).1 a
  ·rcases(p U c y a).1 with⟨V,w,hv⟩|h
   ·exact k V w y hv
   ·exact⟨fun q=>by have:=(d y q).2.2;omega,by omega⟩
set_option maxHeartbeats 4000000 in
theorem OU{w' o:Option Addr}:∀(n:Nat) {W S:Nat→Prop} {b:Nat} {sl:ByteArray} {w:Option ByteArray} {F:Fo} {h:ad} (k v:ByteArray),k.size<n→k.size≤1000000→RxO o W h b sl w F S→By h w' o→(∀y,W y→y<h.size)→(∀y,S y→W y)→(∀a,o=some a→W a.block)→(∀a,w'=some a→¬S a.block)→fi F→∀{K:(Option Addr)×Bool×Bool→ad→Prop},
  (∀Y q w2 F2 S2 D ch,Upd S h Y→RxO o (fun y=>W y∨S2 y) Y q sl w2 F2 S2→(∀y,S2 y→(S y∨h.size≤y)∧y<Y.size)→fi F2→tO (p7 w F) (p7 w2 F2) k.data.toList v→(ch=false→q=b∧w2=w∧F2=F∧Upd No h Y∧p7 w F k.data.toList v)→(p7 w F k.data.toList v→ch=false)→K (some ⟨q,0,none⟩,D,ch) Y)→
  HC PG mH [.pointer (some ⟨b,0,none⟩),.pointer w',.string k,.string v] [.c .ptr,.c .bool,.c .bool] K h:=by
 intro n;induction n with
 |zero=>intro W S b sl w F h k v hk;omega
 |succ n ih=>
  intro W S b sl w F h k v hkn hk6 r t hW C hWo hwS hc K hk;refine B9 (some ⟨b,0,none⟩) w' k v ?_;unfold uA bJ dH bw aM cp wm jS jp Qg fL DW HS Um;have hr:=r;have hno:o=none→∀y,¬S y:=fun e=>by subst e;exact r.off.2
  obtain⟨val,s,ow,ks,Us,hb,hv,hs,hL,hUS,hPD,hown⟩:=r.view;have hn:=jO hc;have hcan:=eI.1 hc;have hSb:∀y,S y→y<h.size:=fun y d=>hW y (C y d)
  have N:∀U∈Us,∀y,U y→y<h.size:=fun U G y d=>hSb y (hUS U G y d)
  have zb:=aH hb;have own2:=fun{B:ad} {M:Nat→Prop} (ku:Upd M h B) (hM:∀y,M y→S y∧∃U∈Us,U y) (Us':List (Nat→Prop)) (G:∀U∈Us',∀y,U y→((∃V∈Us,V y)∨h.size≤y)∧y<B.size)=>BF (Us':=Us') hown zb ku hM G
  have hUh:∀{B:ad},h.size≤B.size→∀U∈Us,∀y,U y→((∃V∈Us,V y)∨h.size≤y)∧y<B.size:=fun z U G y d=>⟨.inl ⟨U,G,d⟩,by have:=N U G y d;omega⟩
  have hno':∀{A X:Nat→Prop} {bb bx:Nat} {T:List (Nat→Prop)},(∀y,A y→S y∨h.size≤y)→(S bb∨h.size≤bb)→o=none→(∀y,A y→¬(W y∨SR o bx X T y))∧¬(W bb∨SR o bx X T bb):=fun{A X bb bx T} hA hb e=>by
   have no:∀y,(S y∨h.size≤y)→¬(W y∨SR o bx X T y):=fun y d hw=>by
    rcases hw with hw|⟨hw,_⟩
    ·rcases d with h|h
     ·exact hno e y h
     ·have:=hW y hw;omega
    ·rw[e]at hw;cases hw
   exact⟨fun y d=>no y (hA y d),no _ hb⟩
  rw[iW];refine aQ (fun hk0=>?_) fun hk0=>?_
  ·have hke:k.data.toList= []:=by rw[hk0]
   rw[hke]at hk;refine Join.intro (fun t Y=>t=decide (w=some v)∧Y=h) (fun R hR=>⟨_,rfl,w.isSome,dh (i:=1) hb,?_⟩) ?_
   ·cases hw:w with
    |none=>exact aj.2 (hR _ _ ⟨by rw[hw];rfl,rfl⟩)
    |some u=>
     refine ay.2 ⟨_,rfl,val,dh (i:=2) hb,hR _ _ ⟨?_,rfl⟩⟩;rw[iW,vw hv u hw,hw];exact decide_eq_decide.2 ⟨fun e=>by rw[e],fun e=>Option.some.inj e⟩
   ·rintro t' Y ⟨rfl,rfl⟩
    refine aQ (fun e=>?_) fun e=>?_
    ·refine hk Y b w F S false false (Upd.refl _ _) (hr.less fun y d=>.inl (d.elim id (C y))) (fun y d=>⟨.inl d,hSb y d⟩) hc ?_ (fun _=>⟨rfl,rfl,rfl,Upd.refl _ _,.inl ⟨rfl,e⟩⟩) fun _=>rfl
     rw[e];exact G1 hc v
    ·have fin:∀{h1 B:ad} {q:Nat} {s1:SliceV} {A1:Nat→Prop},OwnS mw 1 bj A1 h1 s1 ks→(∀y,A1 y→(S y∨Y.size≤y)∧y≠q∧y<h1.size)→(S q∨Y.size≤q)→(∀U∈Us,∀y,U y→¬A1 y∧y≠q)→Upd No Y h1→B[q]? =some (.cells (xr sl true v s1 o) bG (0,0))→Upd (· =q) h1 B→∀D,K (some ⟨q,0,none⟩,D,true) B:=fun{h1 B q s1 A1} hA1 f g Q p b2 E D=>by
      have z1:=p.size;have z2:=E.size;have zb':=aH b2;have u02:Upd (· =q) Y B:=p.wide.tr E
      have hSR:∀y,SR o q A1 Us y→(S y∨Y.size≤y)∧y<B.size:=fun y d=>y5 g zb' (fun y d=>⟨(f y d).1,by have:=(f y d).2.2;omega⟩) (fun U G y d=>⟨.inl (hUS U G y d),by have:=N U G y d;omega⟩) d
      refine hk B q (some v) F (SR o q A1 Us) D true (u02.mono fun y d=>by have d:y=q:=d;rw[d];exact g) (wy b2 rfl (hA1.upd E fun y d=>(f y d).2.1) (fun y d=>⟨(f y d).2.1,by have:=(f y d).2.2;omega⟩) Q hPD (hL.move u02 N (fun y d=>?_) fun y d=>d.elim .inl fun h=>(hSR y h).1.imp (C y) id) (hno' (fun y d=>(f y d).1) g)) hSR hc (G1 hc v) (fun h=>by cases h) fun J=>?_
      ·have d:y=q:=d
       subst d;exact g.imp (fun h=>⟨C y h,fun U G hu=>(Q U G y hu).2 rfl⟩) id
      ·rcases J with⟨_,h⟩|h
       ·exact absurd h e
       ·exact absurd rfl (nU hc h)
     have ow0:=own2 (Upd.refl No Y) (fun _ h=>h.elim) Us (hUh (ao _))
     refine⟨_,rfl,?_,w.isSome,dh (i:=1) hb,?_⟩
     ·refine lq (S:=S) (Us:=Us) t hWo hb (by rw[hL.1];exact hn) ow0 fun h1 q s1 A1 b1 hA1 f g Q p=>⟨?_,w.isSome,dh (i:=1) (p.get0 hb),?_⟩
      ·refine si b1 fun B b2 E=>?_
       have hb2:∃val2,aR B (adr ⟨b,0,none⟩ 1)=some (.bool val2):=by
        by_cases e2:b=q
        ·rw[e2];exact⟨_,dh (i:=1) b2⟩
        ·exact⟨_,dh (i:=1) ((p.wide.tr E).get hb e2)⟩
       obtain⟨v2,hv2⟩:=hb2;exact⟨v2,hv2,fin hA1 f g Q p b2 E _⟩
      ·exact si b1 fun B b2 E=>fin hA1 f g Q p b2 E _
     ·exact lq (S:=S) (Us:=Us) t hWo hb (by rw[hL.1];exact hn) ow0 fun h1 q s1 A1 b1 hA1 f g Q p=>si b1 fun B b2 E=>fin hA1 f g Q p b2 E _
  ·have L:k.data.toList≠[]:=fun e=>hk0 (by cases k;exact congrArg jE (gS.1 e))
   obtain⟨c0,hc0,hc0e⟩:=BK L;refine⟨c0,Int.le_refl _,hc0,?_⟩;have hlk:k.data.toList.length=k.size:=by simp
   refine Bw (hr.read t) hc (c:=c0.toNat) (UInt8.toNat_lt _) fun i ok hil hlo hhi hok=>?_
   rw[hc0e]at hlo hhi hok;cases ok with
   |false=>
    have hno2:∀hi:i<F.toL.length,hd F.toL[i].1≠hd k.data.toList:=fun hi e=>by have:=hok.2 ⟨hi,e⟩;cases this
    have hhi':∀j (hj:j<F.toL.length),i≤j→hd k.data.toList<hd F.toL[j].1:=fun j hj hij=>by
     have h1:=hhi j hj hij;rcases bK i j with hl|hl
     ·have B:=List.pairwise_iff_getElem.1 hcan.1 i j (by omega) hj hl
      have h3:=hhi i (by omega) (ao _);omega
     ·have:i=j:=by omega
      subst this;have:=hno2 hj;omega
    obtain⟨hc',hp'⟩:=O7 (v:=v) hc L hlo hhi';refine ay.2 ?_;refine lq (S:=S) (Us:=Us) t hWo hb (by rw[hL.1];exact hn) (own2 (Upd.refl No h) (fun _ h=>h.elim) Us (hUh (ao _))) fun h1 q s1 A1 b1 hA1 f g Q p=>?_
    refine⟨_,rfl,s1,dh (i:=3) b1,?_⟩;refine JF (t.upd0 p) fun B fb fs Af fb2 hAf hAfs hfb E=>⟨dh (i:=3) (E.get0 b1),bV ?_⟩
    have k3:=Upd.hnew No B [.pointer (some ⟨fb,0,none⟩)] bj;have b3:=db B [.pointer (some ⟨fb,0,none⟩)] bj;have z3:(hnew B [.pointer (some ⟨fb,0,none⟩)] bj).size=B.size+1:=ly ..;simp only[gf B];generalize hnew B [.pointer (some ⟨fb,0,none⟩)] bj=h3 at k3 b3 z3;have hu13:=E.tr k3;refine⟨dh (i:=3) (hu13.get0 b1),?_⟩;have z01:=p.size
    have z1:=aH b1;have z2:=E.size;have zf:=aH fb2;have ho3:=(hA1.upd hu13 fun _ _ h=>h).more (M':=fun x=>A1 x∨h3.size≤x) fun x hx=>.inl hx
    refine Mn ho3 (k:=i) (by rw[hL.1];exact hil) (by rw[hL.1];omega) b3 (fun h=>h.elim (fun h=>by have:=(f _ h).2.2;omega) fun h=>by omega) (fun x hx=>.inr hx) fun s4 h4 ho4 hu4=>?_
    have b4:=hu4.get (hu13.get0 b1) (fun h=>h.elim (fun h=>(f _ h).2.1 rfl) fun h=>by omega)
    have f4:=hu4.get (k3.get0 fb2) (fun h=>h.elim (fun h=>by have:=(f _ h).2.2;omega) fun h=>by omega)
    refine⟨_,rfl,QA (i:=3) b4 (show 3<5 by decide),Ef (i:=3) (c':=xr sl w.isSome val s4 o) b4 rfl fun h5 b5 hu5=>?_⟩
    have z4:=hu4.size;have z5:=hu5.size;have u05:Upd (fun y=>y=q∨A1 y) h h5:=((p.tr hu13).wide.trans hu4 fun x hx=>hx.imp .inr fun h=>by omega).trans hu5 fun x hx=>.inl (.inl hx)
    have ho5:=ho4.within.upd hu5 fun x hx e=>by
     have e:x=q:=e;subst e;rcases hx.1 with h|h
     ·exact(f _ h).2.1 rfl
     ·omega
    have nfb:¬fb=q:=by omega
    have f5:=hu5.get f4 nfb;have hAf5:=((hAf.upd k3 fun _ _ h=>h).upd hu4 (fun y d h=>by
     have:=hAfs y d
     rcases h with h|h
     ·have:=(f y h).2.2;omega
     ·omega)).upd hu5 fun y d e=>by
      have e:y=q:=e;have:=hAfs y d;omega
    have hSf:∀y,SR o fb Af [] y→h1.size≤y∧y<B.size:=fun y d=>by
     rcases d.2 with rfl|h|⟨U,G,_⟩
     ·exact⟨hfb,zf⟩
     ·have:=hAfs y h;omega
     ·cases G
    have hmem:∀U∈Us.take i++SR o fb Af []::Us.drop i,U∈Us∨U=SR o fb Af []:=fun U G=>by
     rcases bW.1 G with h|h
     ·exact .inl (g7 h)
     ·rcases aA.1 h with h|h
      ·exact .inr h
      ·exact .inl (List.mem_of_mem_drop h)
    have hA5:∀y,((A1 y∨h3.size≤y)∧y<h4.size)→(S y∨h.size≤y)∧y≠q∧y<h5.size:=fun y d=>by
     rcases d.1 with h|h
     ·exact⟨(f y h).1,(f y h).2.1,by omega⟩
     ·exact⟨.inr (by omega),by omega,by omega⟩
    have hS2:∀y,SR o q (fun y=>(A1 y∨h3.size≤y)∧y<h4.size) (Us.take i++SR o fb Af []::Us.drop i) y→(S y∨h.size≤y)∧y<h5.size:=fun y d=>y5 g (aH b5) (fun y d=>⟨(hA5 y d).1,(hA5 y d).2.2⟩) (fun U G y d=>by
     rcases hmem U G with h|rfl
     ·exact⟨.inl (hUS U h y d),by have:=N U h y d;omega⟩
     ·have:=hSf y d;exact⟨.inr (by omega),by omega⟩) d
    refine hk h5 q w _ (SR o q (fun y=>(A1 y∨h3.size≤y)∧y<h4.size) (Us.take i++SR o fb Af []::Us.drop i)) true true (u05.mono fun y d=>?_) (wy b5 hv ho5 (fun y d=>(hA5 y d).2) (fun U G y d=>?_) (UO hPD (by rw[hL.2.1];exact hil) fun U G y d hu=>?_) (by
     rw[Fo.to_of]
     refine(hL.move u05 N (fun y d=>?_) fun y d=>d.elim .inl fun h=>(hS2 y h).1.imp (C y) id).ins hil ⟨fb,k,rfl,rfl,VV f5 hAf5 (fun y d=>?_) (hno' (fun y d=>.inr ?_) (.inr (by omega)))⟩
     ·rcases d with rfl|h
      ·exact g.imp (fun h=>⟨C _ h,fun U G hu=>(Q U G _ hu).2 rfl⟩) id
      ·exact(f y h).1.imp (fun hs=>⟨C y hs,fun U G hu=>(Q U G y hu).1 h⟩) id
     ·have:=hAfs y d;exact⟨this.2.1,by omega⟩
     ·have:=hAfs y d;omega) (hno' (fun y d=>(hA5 y d).1) g)) hS2 hc' (BE L hp') (fun h=>by cases h) fun J=>?_
    ·rcases d with rfl|h
     ·exact g
     ·exact(f y h).1
    ·rcases hmem U G with h|rfl
     ·have:=Q U h y d
      have B:=N U h y d;exact⟨fun h=>h.1.elim this.1 fun h=>by omega,this.2⟩
     ·have:=hSf y d
      exact⟨fun h=>h.1.elim (fun h=>by have:=(f y h).2.2;omega) fun h=>by omega,by omega⟩
    ·have:=hSf y d;have:=N U G y hu;omega
    ·rcases J with⟨h,_⟩|J
     ·exact absurd h L
     ·obtain⟨n',hn',e,_⟩:=oK hc J
      obtain⟨j,hj,rfl⟩:=cD hn';rcases bK j i with hl|hl
      ·have:=hlo j hj hl;omega
      ·have:=hhi' j hj hl;omega
   |true=>
    obtain⟨hi,hie⟩:=hok.1 rfl;refine aj.2 ⟨_,rfl,s,dh (i:=3) hb,?_⟩;have hki0:i<ks.length:=by rw[hL.1];exact hi
    have hUi0:i<Us.length:=by rw[hL.2.1];exact hi
    obtain⟨kb,ksl,hke,P,hkn⟩:=hL.2.2 i _ _ _ (ag hki0) (ag hi) (ag hUi0);have hki:ks[i]? =some (some ⟨kb,0,none⟩):=by rw[ag hki0,hke]
    have hUie:Us[i]? =some Us[i]:=ag hUi0;have hUim:Us[i]∈Us:=aP hUi0;have hmem:F.toL[i]∈F.toL:=aP hi;have O:=hcan.2 _ hmem;obtain⟨a,ha,_,hvv⟩:=hs.at0 hki;have hslen:=hs.len;rw[hL.1]at hslen;have hlt1:(i:Int)<((s.len:Nat):Int):=by omega
    refine⟨⟨by simp only;omega,hlt1⟩,a,ha,some ⟨kb,0,none⟩,hvv,_,rfl,?_⟩;obtain⟨kval,kss,kow,kks,kUs,hkb,_⟩:=hkn.view;refine⟨ksl,dh (i:=0) hkb,Py hk6 ?_⟩;rw[P];have hc1:=RI L O.1 hie.symm;have hcle:=Ok k.data.toList F.toL[i].1;have hct:=Oi k.data.toList F.toL[i].1;have hcd:=IJ k.data.toList F.toL[i].1;have hll:ksl.size=F.toL[i].1.length:=by rw[←P];simp
    have hin_m:pi F k.data.toList v→rK F.toL[i] k.data.toList v:=fun J=>by
     obtain⟨n',hn',e,hN⟩:=oK hc J;rw[←vp hc hn' hmem (by omega)];exact hN
    have hin_f:rK F.toL[i] k.data.toList v→pi F k.data.toList v:=fun J=>fq.2 ⟨_,hmem,J⟩
    have hset:∀{w2:Option ByteArray} {F2:Fo} {nl:List UInt8},nl≠[]→hd nl=hd F.toL[i].1→fi F2→Br (p7 w2 F2)→fi (.ofL (F.toL.set i (nl,w2,F2))):=fun h1 B h3 h4=>Ol hc hi ⟨h1,(E5 h3).2 h4,h3⟩ B
    have hputs:∀{m:Bn},tO (rK F.toL[i]) (rK m) k.data.toList v→tO (pi F) (pi (.ofL (F.toL.set i m))) k.data.toList v:=fun hp=>JU hc hi hie hp
    have hsame:tO (rK F.toL[i]) (rK F.toL[i]) k.data.toList v→tO (pi F) (pi F) k.data.toList v:=O5 hc hi hie;have I:∀y,Us[i] y→S y:=hUS _ hUim;have hUib:∀y,Us[i] y→y<h.size:=N _ hUim;have hUid:∀j U,j≠i→Us[j]? =some U→Dj Us[i] U:=fun j U hj eU=>hPD i j _ _ (Ne.symm hj) hUie eU
    have nUb:¬Us[i] b:=fun hu=>by
     rcases hown with⟨_,_,_,hS0⟩|⟨_,_,A,_,_,_,hUA⟩
     ·exact hS0 _ (I _ hu)
     ·exact(hUA _ hUim b hu).2 rfl
    generalize F.toL[i]=m at P hkn O hc1 hcle hct hcd hll hin_m hin_f hset hputs hsame hie;generalize Us[i]=Ui at hkn hUie hUim I hUib hUid nUb;generalize hcc:cm k.data.toList m.1=c at hc1 hcle hct hcd;obtain⟨lab,wk,Fk⟩:=m;simp only at P hkn O hcle hct hcd hll hie hset;refine Join.intro (fun t Y=>∃ub Z wu Fu SU,t=some ⟨ub,0,none⟩∧Upd Ui h Y∧RxO o (fun y=>W y∨SU y) Y ub Z wu Fu SU∧(∀y,SU y→(Ui y∨h.size≤y)∧y<Y.size)∧fi Fu∧Z.data.toList=k.data.toList.take c∧(∀k' v',rK (Z.data.toList,wu,Fu) k' v'↔rK (lab,wk,Fk) k' v')∧(∀w' F',fi F'→tO (p7 wu Fu) (p7 w' F') (k.data.toList.drop c) v→Br (p7 w' F'))∧(Upd No h Y∨¬p7 wu Fu (k.data.toList.drop c) v)) (fun R hR=>⟨_,rfl,ksl,dh (i:=0) hkb,?_⟩) ?_
    ·refine aQ (fun hlt=>?_) fun hge=>?_
     ·have hlt:c<lab.length:=by omega
      have hdne:lab.drop c≠[]:=fun e=>by
       have:=congrArg f8 e;rw[aW,cB]at this;omega
      have hhd:k.data.toList.drop c≠[]→hd (k.data.toList.drop c)≠hd (lab.drop c):=fun hne=>by
       refine hcd ?_ hlt;rcases bK c k.data.toList.length with hl|hl
       ·exact hl
       ·exact absurd (List.drop_eq_nil_of_le hl) hne
      have hcs:fi (.cons (ksl.data.toList.drop c) wk Fk .nil):=by
       rw[P];exact⟨hdne,O.2.1,O.2.2,fun _ h=>by simp[Fo.toL]at h,trivial⟩
      refine JE hkn t hW (fun y d=>C y (I y d)) hWo (jO O.2.2) (c:=c) (by omega) fun h1 ub SU rn hSU p=>hR _ _ ⟨ub,_,none,_,SU,rfl,p,rn,hSU,hcs,?_,?_,?_,.inr ?_⟩
      ·rw[An,P,hct]
      ·intro k' v'
       rw[An,P];exact Hf c k' v'
      ·intro w' F' hcF hp
       rw[P]at hp;exact RP hdne O.2.1 O.2.2 hhd hp
      ·rintro(⟨_,h⟩|J)
       ·cases h
       ·obtain⟨n',hn',e,r',er,_⟩:=oK hcs J
        rw[P]at hn';simp only[Fo.toL,au]at hn';subst hn';refine hhd (fun e2=>hdne ?_) e.symm
        rw[e2]at er;exact(gm.1 er.symm).1
     ·have hce:c=lab.length:=by omega
      refine hR _ _ ⟨kb,ksl,wk,Fk,Ui,rfl,Upd.refl _ _,hkn.less fun y d=>.inl (d.elim id fun h=>C y (I y h)),fun y d=>⟨.inl d,hUib y d⟩,O.2.2,?_,?_,?_,.inl (Upd.refl _ _)⟩
      ·rw[P,hct,hce,cd]
      ·intro k' v';rw[P]
      ·intro w' F' hcF hp
       exact TN ((E5 O.2.2).1 O.2.1) hp
    ·rintro t' h1 ⟨ub,Z,wu,Fu,SU,rfl,p,rn,hSU,hcu,hsl,hinn,hbr,hsp⟩
     refine⟨⟨by omega,by omega⟩,?_⟩
     rw[aO];have hkd:(k.extract c k.size).data.toList=k.data.toList.drop c:=Ao ..;have hks:(k.extract c k.size).size=k.size-c:=by simp
     have hktd:k.data.toList=Z.data.toList++k.data.toList.drop c:=by rw[hsl,ba]
     have hslne:Z.data.toList≠[]:=by
      rw[hsl];intro e;have:=congrArg f8 e;rw[aU,cB]at this;omega
     have hslhd:hd Z.data.toList=hd lab:=by
      rw[hie];conv=>rhs;rw[hktd]
      rw[oL hslne]
     have z01:=p.size;have tU:∀{M:Nat→Prop} {Y:ad},Upd M h Y→(∀y,M y→Ui y)→By Y w' o:=fun ku hM=>t.upd ku fun b e d=>absurd (I _ (hM _ d)) (hwS _ e)
     refine ih (W:=fun y=>W y∨SU y) (S:=SU) (k.extract c k.size) v (by rw[hks];omega) (by rw[hks];omega) rn (tU p fun _ h=>h) (fun y d=>d.elim (fun h=>bP (hW y h) z01) fun h=>(hSU y h).2) (fun y d=>.inr d) (fun a e=>.inl (hWo a e)) (fun a e d=>?_) hcu fun B b2 w2 F2 SV D ch E rn2 hSV hc2 hp2 hsm hch=>?_
     ·rcases(hSU _ d).1 with h|h
      ·exact hwS a e (I _ h)
      ·have:=t.lt e;omega
     rw[hkd]at hp2 hch hsm;have z12:=E.size;have hpn:tO (rK (lab,wk,Fk)) (rK (Z.data.toList,w2,F2)) k.data.toList v:=by
      have:=QL (O6 (lab:=Z.data.toList) hp2) hinn;rw[←hktd]at this;exact this
     have hchg:p7 w F k.data.toList v→ch=false:=fun J=>by
      rcases J with⟨h,_⟩|J
      ·exact absurd h L
      ·obtain⟨r,e,hr'⟩:=(hinn _ _).2 (hin_m J)
       simp only at e;rw[hktd]at e;have e2:=d9 e;rw[←hktd]at e;exact hch (by rw[e2];exact hr')
     cases ch with
     |false=>
      obtain⟨_,e2,e3,hu20,hin2⟩:=hsm rfl;subst e2 e3;rcases hsp with u01|hn2
      ·have hu02:=u01.tr hu20
       have hsz:=hu02.size;refine ay.2 (hk B b w F S false false hu02.wide ((hr.upd0 hu02).less fun y d=>.inl (d.elim id (C y))) (fun y d=>⟨.inl d,by have:=hSb y d;omega⟩) hc (BE L (hsame ?_)) (fun _=>⟨rfl,rfl,rfl,hu02,.inr (hin_f ((hinn _ _).1 ⟨_,hktd,hin2⟩))⟩) fun _=>rfl)
       intro k' v';exact(hinn k' v').symm.trans (hpn k' v')
      ·exact absurd hin2 hn2
     |true=>
      refine aj.2 ?_;have ku:Upd Ui h B:=p.trans E fun y d=>(hSU y d).1
      have hSV':∀y,SV y→(Ui y∨h.size≤y)∧y<B.size:=fun y d=>⟨(hSV y d).1.elim (fun h=>(hSU y h).1) fun h=>.inr (by omega),(hSV y d).2⟩
      have hmem2:∀U∈Us.set i SV,U∈Us∨U=SV:=fun U G=>List.mem_or_eq_of_mem_set G
      have hSVm:SV∈Us.set i SV:=az (i:=i) (by rw[eM,if_pos rfl,if_pos hUi0]);refine lq (W:=W) (S:=S) (Us:=Us.set i SV) (tU ku fun _ h=>h) hWo (ku.get hb nUb) (by rw[hL.1];exact hn) (own2 ku (fun y d=>⟨I y d,_,hUim,d⟩) _ fun U G y d=>?_) fun h3 q s3 A3 b3 ho3 H g hU3 hu3=>?_
      ·rcases hmem2 U G with h|rfl
       ·exact⟨.inl ⟨U,h,d⟩,by have:=N U h y d;omega⟩
       ·exact⟨(hSV' y d).1.imp (fun h=>⟨_,hUim,h⟩) id,(hSV' y d).2⟩
      refine⟨_,rfl,s3,dh (i:=3) b3,?_⟩;obtain⟨a3,ha3,hab,hw3,ho4,hu4⟩:=OwnS.setAt ho3 hki0 (some ⟨b2,0,none⟩);have hlen3:=ho3.len;refine⟨⟨by simp only;omega,by simp only;omega⟩,a3,ha3,?_⟩
      have hw1:Wr h3 (adr a3 (i*1)):=by
       rcases hw3 with hw|⟨q,g,hw⟩
       ·cases hw
       ·cases g;exact hw 0 (by simp)
      refine⟨hw1,bV ?_⟩;have b4:=hu4.get b3 fun e=>by have e:q=a3.block:=e;exact(H _ hab).2.1 e.symm
      have hu24:Upd A3 B _:=hu3.wide.trans hu4 fun x hx=>.inl (by have hx:x=a3.block:=hx;rw[hx];exact hab)
      have u04:Upd (fun y=>Ui y∨A3 y) h _:=(ku.mono fun y d=>.inl (.inl d)).trans hu24 fun x hx=>.inl (.inr hx)
      have eset:ks.set i (some ⟨b2,0,none⟩)=ks.take i++some ⟨b2,0,none⟩::ks.drop (i+1):=by rw[List.set_eq_take_append_cons_drop,if_pos hki0]
      rw[←eset]at ho4;have z3:=hu3.size;have z4:=hu4.size;change K (some ⟨q,0,none⟩,D,true) (gT h3 (adr a3 (i*1)) 0 (mw (some ⟨b2,0,none⟩)));generalize gT h3 (adr a3 (i*1)) 0 (mw (some ⟨b2,0,none⟩))=h4 at*;have hS2:∀y,SR o q A3 (Us.set i SV) y→(S y∨h.size≤y)∧y<h4.size:=fun y d=>y5 (g.imp id fun h=>by omega) (aH b4) (fun y d=>⟨(H y d).1.imp id fun h=>by omega,by have:=(H y d).2.2;omega⟩) (fun U G y hz=>by
       rcases hmem2 U G with h|rfl
       ·exact⟨.inl (hUS U h y hz),by have:=N U h y hz;omega⟩
       ·exact⟨(hSV' y hz).1.imp (I y) id,by have:=(hSV' y hz).2;omega⟩) d
      refine hk h4 q w _ (SR o q A3 (Us.set i SV)) D true (u04.mono fun y d=>?_) (wy b4 hv ho4 (fun y d=>⟨(H y d).2.1,by have:=(H y d).2.2;omega⟩) hU3 (QQ hPD fun j U hj eU y d hu=>?_) (by
       rw[Fo.to_of]
       refine LsO.set hL.1 hL.2.1 (fun j k' n' U hj ek en eU=>KidO.move u04 (hL.2.2 j k' n' U ek en eU) (N U (az eU)) (fun y d=>?_) fun y d=>d.elim .inl fun h=>(hS2 y h).1.imp (C y) id) (KidO.move hu24 ⟨b2,Z,rfl,rfl,rn2⟩ (fun y d=>(hSV y d).2) (fun y d=>?_) fun y d=>?_)
       ·rcases d with h|h
        ·exact .inl ⟨C y (I y h),hUid j U hj eU y h⟩
        ·refine(H y h).1.imp (fun hs=>⟨C y hs,fun hu=>(hU3 U (az (i:=j) (by rw[eM,if_neg (Ne.symm hj)];exact eU)) y hu).1 h⟩) fun h=>by omega
       ·exact(H y d).1.imp (fun hs=>⟨.inl (.inl (C y hs)),fun hu=>(hU3 SV hSVm y hu).1 d⟩) id
       ·rcases d with h|⟨_,rfl|h|⟨U,G,h⟩⟩
        ·exact .inl (.inl (.inl h))
        ·exact g.imp (fun h=>.inl (.inl (C _ h))) id
        ·exact(H y h).1.imp (fun h=>.inl (.inl (C _ h))) id
        ·rcases hmem2 U G with B|rfl
         ·exact .inl (.inl (.inl (C _ (hUS U B y h))))
         ·exact .inl (.inr h)) (hno' (fun y d=>(H y d).1.imp id fun h=>by omega) (g.imp id fun h=>by omega))) hS2 (hset hslne hslhd hc2 (hbr _ _ hc2 hp2)) (BE L (hputs hpn)) (fun h=>by cases h) hchg
      ·rcases d with h|h
       ·exact .inl (I y h)
       ·exact(H y h).1.imp id fun h=>by omega
      ·rcases(hSV' y d).1 with h|h
       ·exact hUid j U hj eU y h hu
       ·have:=N U (az eU) y hu;omega
end Go.Proofs
namespace Go.Proofs
open Go Go.Lift
def yM:Fo→List (List UInt8×ByteArray)
 | .nil=> []
 | .cons lab w kids rest=>((w.map fun v=>(([]:List UInt8),v)).toList++yM kids).map (fun p=>(lab++p.1,p.2))++yM rest
def oI(w:Option ByteArray)(F:Fo):List (List UInt8×ByteArray):=(w.map fun v=>(([]:List UInt8),v)).toList++yM F
theorem sr:∀{F:Fo} {k:List UInt8} {v:ByteArray},(k,v)∈yM F↔pi F k v
 | .nil,_,_=>by simp[yM,pi]
 | .cons lab w kids rest,k,v=>by
  unfold yM pi;rw[bW,sr (F:=rest)];refine or_congr ?_ vF;rw[kR];constructor
  ·rintro⟨⟨r,u⟩,hm,b⟩
   simp only[rh.injEq]at b;obtain⟨rfl,rfl⟩:=b;refine⟨r,rfl,?_⟩;rcases bW.1 hm with h|h
   ·left
    rw[Option.mem_toList,kO]at h;obtain⟨a,c,b⟩:=h;simp only[rh.injEq]at b;exact⟨b.1.symm,by rw[c,b.2]⟩
   ·exact .inr (sr.1 h)
  ·rintro⟨r,rfl,h⟩
   refine⟨(r,v),bW.2 ?_,rfl⟩;rcases h with⟨rfl,h⟩|h
   ·left;rw[h];simp
   ·exact .inr (sr.2 h)
theorem l0{w:Option ByteArray}{F:Fo}{k:List UInt8}{v:ByteArray}:(k,v)∈oI w F↔p7 w F k v:=by
 unfold oI p7;rw[bW,sr];refine or_congr ?_ vF;cases w with
 |none=>simp
 |some u=>simp[Prod.ext_iff,eq_comm]
abbrev Up(l:List (List UInt8×ByteArray)):Prop:=l.Pairwise fun p q=>p.1<q.1
theorem Vl{a x y:List UInt8}(h:x<y):a++x<a++y:=by
 induction a with
 |nil=>exact h
 |cons c a ih=>exact List.Lex.cons ih
theorem Q7{x y:List UInt8}(c:y≠[])(h:hd x<hd y):x<y:=by
 match x,y,c with
 | [],b::y,_=>exact List.Lex.nil
 |a::x,b::y,_=>exact List.Lex.rel (UInt8.lt_iff_toNat_lt.2 h)
theorem LZ:∀{F:Fo},fi F→Up (yM F)
 | .nil,_=>gn
 | .cons lab w kids rest,h=>by
  unfold yM;refine du.2 ⟨?_,LZ h.2.2.2.2,?_⟩
  ·rw[List.pairwise_map]
   refine List.Pairwise.imp (R:=fun p q:List UInt8×ByteArray=>p.1<q.1) (fun j=>Vl j) ?_
   refine du.2 ⟨?_,LZ h.2.2.1,?_⟩
   ·cases w<;>simp
   ·intro a f b g
    have d:b.1≠[]:=nU h.2.2.1 (sr (F:=kids).1 (show(b.1,b.2)∈_ from g))
    have i:a.1= []:=by
     rw[Option.mem_toList,kO]at f;obtain⟨v,_,e⟩:=f;rw[←e]
    rw[i];match b.1,d with
    |c::l,_=>exact List.Lex.nil
  ·intro a f b g
   obtain⟨p,_,rfl⟩:=kR.1 f;obtain⟨n,k,e,_⟩:=oK h.2.2.2.2 (sr (F:=rest).1 (show(b.1,b.2)∈_ from g))
   have d:b.1≠[]:=nU h.2.2.2.2 (sr (F:=rest).1 (show(b.1,b.2)∈_ from g))
   have:=h.2.2.2.1 n k;exact Q7 d (by rw[oL h.1];omega)
theorem Tm{w:Option ByteArray}{F:Fo}(h:fi F):Up (oI w F):=by
 refine du.2 ⟨by cases w<;>simp,LZ h,?_⟩
 intro a g b i;have d:b.1≠[]:=nU h (sr (F:=F).1 (show(b.1,b.2)∈_ from i))
 have f:a.1= []:=by
  rw[Option.mem_toList,kO]at g;obtain⟨v,_,e⟩:=g;rw[←e]
 rw[f];match b.1,d with
 |c::l,_=>exact List.Lex.nil
theorem Qh:∀{l l':List (List UInt8×ByteArray)},Up l→Up l'→(∀p,p∈l↔p∈l')→l=l'
 | [],[],_,_,_=>rfl
 | [],q::l',_,_,h=>absurd ((h q).2 (aE ..)) (by simp)
 |p::l,[],_,_,h=>absurd ((h p).1 (aE ..)) (by simp)
 |p::l,q::l',c,a,h=>by
  have c:=bB.1 c;have a:=bB.1 a;have e:p=q:=by
   rcases aA.1 ((h p).1 (aE ..))with e|d
   ·exact e
   ·rcases aA.1 ((h q).2 (aE ..))with e|f
    ·exact e.symm
    ·exact absurd (List.lt_trans (c.1 q f) (a.1 p d)) (r7 _)
  subst e;rw[Qh c.2 a.2 fun z=>?_]
  constructor
  ·intro hz
   rcases aA.1 ((h z).1 (aX _ hz))with e|b
   ·exact absurd (c.1 z hz) (by rw[e];exact r7 _)
   ·exact b
  ·intro hz
   rcases aA.1 ((h z).2 (aX _ hz))with e|b
   ·exact absurd (a.1 z hz) (by rw[e];exact r7 _)
   ·exact b
def KF:Fo→Nat
 | .nil=>0
 | .cons _ _ kids rest=>1+KF kids+KF rest
theorem II:∀{F:Fo},fi F→KF F+F.toL.length≤2*(yM F).length
 | .nil,_=>by simp[KF,Fo.toL]
 | .cons lab w kids rest,h=>by
  have b:=II h.2.2.1;have c:=II h.2.2.2.2;have a:=h.2.1;rw[Fo.toL_cons];unfold KF yM;rw[af,c7,af,aV];cases w with
  |none=>
   simp only[Option.map_none,Option.toList_none,cB];have:2≤kids.toL.length:=a.resolve_left (by simp);omega
  |some v=>simp only[Option.map_some,Option.toList_some,aK];omega
def Je:Fo→Prop
 | .nil=>True
 | .cons lab w kids rest=>lab.length≤10000∧(∀v,w=some v→v.size≤10000)∧kids.toL.length≤256∧Je kids∧Je rest
theorem MC:∀{F:Fo},fi F→(∀k v,pi F k v→k.length≤10000∧v.size≤10000)→Je F
 | .nil,_,_=>trivial
 | .cons lab w kids rest,h,hl=>by
  obtain⟨r,v,c⟩:=nr h _ (aE ..);have b:=(hl _ v (fq.2 ⟨_,aE ..,r,rfl,c⟩)).1;rw[af]at b;simp only at b;refine⟨by omega,fun v hv=>(hl lab v (.inl ⟨[],(bT _).symm,.inl ⟨rfl,hv⟩⟩)).2,jO h.2.2.1,MC h.2.2.1 fun k v a=>?_,MC h.2.2.2.2 fun k v a=>hl k v (.inr a)⟩
  have:=hl (lab++k) v (.inl ⟨k,rfl,.inr a⟩);rw[af]at this;exact⟨by omega,this.2⟩
def tF:Option ByteArray→List UInt8
 |some v=>1::nn v
 |none=> [0]
def qM(lab:List UInt8)(w:Option ByteArray)(n:Nat):List UInt8:=nn ⟨lab.toArray⟩++(tF w++l8 n 2)
def nQ:Fo→List UInt8
 | .nil=> []
 | .cons lab w kids rest=>qM lab w kids.toL.length++(nQ kids++nQ rest)
def ie(n:Bn):List UInt8:=qM n.1 n.2.1 n.2.2.toL.length++nQ n.2.2
theorem ww:∀F:Fo,nQ F=F.toL.flatMap ie
 | .nil=>rfl
 | .cons lab w kids rest=>by
  rw[Fo.toL_cons,aY,←ww rest];show qM lab w kids.toL.length++(nQ kids++nQ rest)=(qM lab w kids.toL.length++nQ kids)++nQ rest
  rw[aw]
theorem G4{lab:List UInt8}{w:Option ByteArray}{n:Nat}(b:lab.length≤10000)(a:∀v,w=some v→v.size≤10000):(qM lab w n).length≤20010:=by
 unfold qM;rw[af,af,iE,di];have e:(jE lab.toArray).size=lab.length:=by simp[ByteArray.size]
 rw[e];cases w with
 |none=>simp only[tF,aK];omega
 |some v=>have:=a v rfl;simp only[tF,aV,iE];omega
theorem yI:∀{F:Fo},Je F→(nQ F).length≤KF F*20010
 | .nil,_=>by simp[nQ]
 | .cons lab w kids rest,h=>by
  have a:=G4 (n:=kids.toL.length) h.1 h.2.1;have b:=yI h.2.2.2.1;have c:=yI h.2.2.2.2;unfold nQ KF;rw[af,af,jD,jD];omega
theorem G5{lab a:List UInt8}{w w':Option ByteArray}{n i:Nat}{r j:List UInt8}(p:lab.length≤10000)(g:a.length≤10000)(q:∀v,w=some v→v.size≤10000)(f:∀v,w'=some v→v.size≤10000)(s:n≤256)(o:i≤256)(h:qM lab w n++r=qM a w' i++j):lab=a∧w=w'∧n=i∧r=j:=by
 unfold qM at h;simp only[aw]at h;have z:∀l:List UInt8,(jE l.toArray).size=l.length:=fun l=>by simp[ByteArray.size]
 obtain⟨c,h⟩:=xq (by rw[z];exact p) (by rw[z];exact g) h;have c:lab=a:=by
  have:=congrArg (fun b:ByteArray=>b.data.toList) c
  simpa using this
 cases w with
 |none=>
  cases w' with
  |none=>
   simp only[tF,cY,List.nil_append,fA.injEq,true_and]at h;obtain⟨d,h⟩:=ua (k:=2) (by omega) (by omega) h;exact⟨c,rfl,d,h⟩
  |some v=>simp[tF]at h
 |some v=>
  cases w' with
  |none=>simp[tF]at h
  |some v'=>
   simp only[tF,cY,fA.injEq,true_and]at h;obtain⟨m,h⟩:=xq (q v rfl) (f v' rfl) h;obtain⟨d,h⟩:=ua (k:=2) (by omega) (by omega) h;exact⟨c,by rw[m],d,h⟩
theorem yJ:∀{F F':Fo} {r r':List UInt8},Je F→Je F'→F.toL.length=F'.toL.length→nQ F++r=nQ F'++r'→F=F'∧r=r'
 | .nil,.nil,_,_,_,_,_,h=>⟨rfl,h⟩
 | .nil,.cons ..,_,_,_,_,e,_=>by simp[Fo.toL]at e
 | .cons ..,.nil,_,_,_,_,e,_=>by simp[Fo.toL]at e
 | .cons lab w kids rest,.cons lab' w' kids' rest',r,r',h1,h2,e,h=>by
  unfold nQ at h;simp only[aw]at h;obtain⟨f,c,d,h⟩:=G5 h1.1 h2.1 h1.2.1 h2.2.1 h1.2.2.1 h2.2.2.1 h;obtain⟨a,h⟩:=yJ h1.2.2.2.1 h2.2.2.2.1 d h;obtain⟨b,h⟩:=yJ h1.2.2.2.2 h2.2.2.2.2 (by rw[Fo.toL_cons,Fo.toL_cons]at e;simpa using e) h;exact⟨by rw[f,c,a,b],h⟩
end Go.Proofs
namespace Go.Proofs
open Go Go.Lift
theorem TP{M:Nat→Prop}{h:ad}{c:SliceV}{out ys:List UInt8}{vs:List Value}(hv:vs=ys.flatMap oz){n:Nat}(f:n=ys.length){K:SliceV→ad→Prop}(g:OwnS oz 1 cz M h c out)(hM:∀b,h.size≤b→M b)(o:out.length+ys.length≤140737488355328)
  (i:∀s' a,OwnS oz 1 cz M a s' (out++ys)→Upd M h a→K s' a):
  ∃xs,SRow (hnew h vs cz) (some (aD h)) (n*1) xs∧AppP (some [.int .u8 0]) 1 1 cz c.a c.len c.cap n xs (hnew h vs cz) K:=by
 subst hv f;have k:=Upd.hnew No h (ys.flatMap oz) cz;have j:OwnS oz 1 cz (fun _=>True) (hnew h (ys.flatMap oz) cz) ⟨some (aD h),ys.length,ys.length⟩ ys:=⟨rfl,qB,ao _,.inr ⟨h.size,[],rfl,trivial,by rw[bT];exact db ..,by simp⟩⟩
 refine⟨_,(j.sl (W:=No) fun _ _ _ h=>h).srow,?_⟩
 refine AppP.own (ys:=ys) (g.upd k fun _ _ h=>h) rfl rfl (zU _) rfl (by omega) (by omega) (hM _ (by rw[ly];omega)) fun s' a d m=>?_
 exact i s' a d ((Upd.hnew M h _ _).tr m)
def W3(W:Nat→Prop)(n:Bn):Prop:=∀{b:Nat} {sl:ByteArray} {h0 h:ad} {M:Nat→Prop} {s:SliceV} {xs:List UInt8},RxN W h0 b sl n.2.1 n.2.2→sl.data.toList=n.1→Upd No h0 h→(∀y,M y→h0.size≤y)→OwnS oz 1 cz M h s xs→(∀y,h.size≤y→M y)→
 xs.length+(ie n).length≤140737488355328→∀{K:SliceV→ad→Prop},(∀s' h',OwnS oz 1 cz M h' s' (xs++ie n)→Upd M h h'→K s' h')→HC PG jM [.pointer (some ⟨b,0,none⟩),.slice s.a s.len s.cap] [.c .slice] K h
theorem Qx{W:Nat→Prop}{lab:List UInt8}{w:Option ByteArray}{c:Fo}(hl:lab.length≤10000)(hw:∀v,w=some v→v.size≤10000)(Z:c.toL.length≤256)(ih:∀m∈c.toL,W3 W m):W3 W (lab,w,c):=by
 intro b sl h0 h M s xs r G X H ho hM hx K O;simp only at r G;have E:(⟨lab.toArray⟩:ByteArray)=sl:=by rw[←G]
 refine xQ (some ⟨b,0,none⟩) s ?_;unfold qQ bJ dH bw aM zE fL Uo SG;obtain⟨val,s1,ow,ks,T,hv,hs,hcap,hF⟩:=r;have hL:=pT.1 hF;have Q:∀{g},Upd M h g→Upd No h0 g:=fun k=>X.trans k fun y hy=>.inr (H y hy)
 have blk:∀{g},Upd M h g→g[b]? =some (.cells (xr sl w.isSome val s1 ow) bG (0,0)):=fun k=>(Q k).get0 T
 have p:∀{g},Upd M h g→∀y,g.size≤y→M y:=fun k y hy=>hM y (bv k.size hy)
 have S:sl.size=lab.length:=by rw[←G];simp
 have z:=hs.len;rw[hL.1]at z;unfold ie at hx O;rw[ww]at hx O;simp only at hx O;rw[af]at hx;have J:(qM lab w c.toL.length).length=2+lab.length+((tF w).length+2):=by
  unfold qM;rw[af,af,iE,di,E,S]
 refine⟨_,rfl,sl,dh (i:=0) (blk (Upd.refl M h)),?_⟩;refine Dq (W:=No) (ho.sl fun _ _ _ h=>h) ho.cap sl (by omega) (by omega) fun s2 h2 A Y=>?_
 have A:=A.more hM;have d:Upd M h h2:=Y.wide;refine Join.intro (fun t g=>OwnS oz 1 cz M g t (xs++nn sl++(tF w))∧Upd M h g) (fun R N=>⟨_,rfl,w.isSome,dh (i:=1) (blk d),?_⟩) ?_
 ·cases w with
  |none=>
   refine aj.2 (bV ?_);refine ul (b:=0) rfl A (p d) ?_ fun s3 P n f=>N _ _ ⟨n,d.tr f⟩
   rw[af,iE];simp only[tF,aK]at J;omega
  |some v=>
   have hve:=vw hv v rfl;subst hve;have hvs:=hw val rfl;simp only[tF,aV,iE]at J;have k3:Upd M h (hnew h2 [.int .u8 1] cz):=d.tr (Upd.hnew M h2 _ _);refine ay.2 ⟨_,rfl,val,dh (i:=2) (blk d),bV ⟨dh (i:=2) (blk k3),?_⟩⟩;refine ul (b:=1) rfl A (p d) (by rw[af,iE];omega) fun s3 P n f=>⟨dh (i:=2) (blk (d.tr f)),?_⟩
   refine Dq (W:=No) (n.sl fun _ _ _ h=>h) n.cap val (by omega) (by rw[af,af,iE,aK];omega) fun s4 h4 o C=>N _ _ ⟨?_,(d.tr f).tr C.wide⟩
   have o:=o.more (p (d.tr f));simp only[tF,aw,List.singleton_append]at o⊢;exact o
 ·rintro s3 P ⟨n,f⟩
  have e8:Int.fdiv (s1.len:Int) (2^(min (8:Int).toNat (IntKind.bits .i64)))=((c.toL.length>>>8:Nat):Int):=by
   have:(2^(min (8:Int).toNat (IntKind.bits .i64)):Int)=2^8:=rfl;rw[this,z,mc]
  refine Join.intro (fun t g=>OwnS oz 1 cz M g t (xs++qM lab w c.toL.length)∧Upd M h g) (fun R N=>⟨_,rfl,s1,dh (i:=3) (blk f),_,rfl,s1,dh (i:=3) (blk f),by omega,?_⟩) ?_
  ·simp only[Bd]
   rw[e8];have k4:Upd M h (hnew P [.int .u8 (IntKind.wrap .u8 (s1.len:Int)),.int .u8 (IntKind.wrap .u8 ((c.toL.length>>>8:Nat):Int))] cz):=f.tr (Upd.hnew M P _ _);refine bV ⟨dh (i:=3) (blk k4),dh (i:=3) (blk k4),?_⟩;refine TP (ys:=l8 c.toL.length 2) ?_ rfl n (p f) ?_ fun s5 h5 F u=>⟨dh (i:=3) (blk (f.tr u)),dh (i:=3) (blk (f.tr u)),N _ _ ⟨?_,f.tr u⟩⟩
   ·rw[z,IntKind.wrap_u8,IntKind.wrap_u8]
    simp[l8,gz]
   ·rw[af,af,iE,di];omega
   ·unfold qM
    rw[E,←aw,←aw];exact F
  ·rintro s4 h4 ⟨o,C⟩
   refine⟨_,rfl,s1,dh (i:=3) (blk C),?_⟩;have hs4:∀{g},Upd M h g→Sl mw 1 W g s1 ks:=fun k=>hs.upd (Q k) fun _ h=>h.elim
   refine LoopP.ghost (fun(i:Nat) (t:SliceV×Int) g=>t.2=(i:Int)∧i≤c.toL.length∧OwnS oz 1 cz M g t.1 (xs++qM lab w c.toL.length++(c.toL.take i).flatMap ie)∧Upd M h g) (fun i=>c.toL.length-i) 0 ⟨rfl,bo _,by simpa using o,C⟩ ?_
   rintro I i ⟨so,ti⟩ g ⟨e1,hi,B,q⟩ hI;simp only at e1 B;subst e1;have D:∀j:i<c.toL.length,((c.toL.take i).flatMap ie).length+(ie c.toL[i]).length≤(c.toL.flatMap ie).length:=fun j=>by
    have e:c.toL=c.toL.take i++c.toL[i]::c.toL.drop (i+1):=by rw[List.getElem_cons_drop,ba]
    have:=congrArg (fun L=>(List.flatMap ie L).length) e
    simp only[bH,aY,af]at this;omega
   refine aQ (fun j=>?_) fun hge=>?_
   ·have j:i<c.toL.length:=by have:(i:Int)<(s1.len:Int):=j;omega
    obtain⟨kb,ksl,hki,hkl,hkn⟩:=hL.at j;obtain⟨a,ha,_,V⟩:=(hs4 q).at0 hki;have hsp:=D j;refine⟨⟨by simp only;omega,by simp only;omega⟩,a,ha,some ⟨kb,0,none⟩,V,?_⟩
    refine ih _ (aP j) hkn hkl (Q q) H B (p q) (by rw[af,af];omega) fun s5 h5 F u=>?_
    rw[cI j (by omega)];refine hI (i+1) _ _ ⟨rfl,j,?_,q.tr u⟩ (by omega);rw[List.take_succ_eq_append_getElem j,bH,aY,List.flatMap_nil,bT,←aw];exact F
   ·have hil:i=c.toL.length:=by have:¬(i:Int)<(s1.len:Int):=hge;omega
    subst hil;rw[cd]at B;refine O _ _ ?_ q;rw[←aw];exact B
theorem H1{W:Nat→Prop}:∀{F:Fo},Je F→∀n∈F.toL,W3 W n
 | .nil,_,n,a=>by simp[Fo.toL]at a
 | .cons lab w kids rest,h,n,a=>by
  rcases aA.1 a with rfl|a
  ·exact Qx h.1 h.2.1 h.2.2.1 (H1 h.2.2.2.1)
  ·exact H1 h.2.2.2.2 n a
structure RadAt(W:Nat→Prop)(h:ad)(b:Nat)(l:List Pr):Prop where
 ex:∃w F,RxN W h b ⟨#[]⟩ w F∧fi F∧∀k v,(k,v)∈oI w F↔∃p∈l,p.1.data.toList=k∧p.2=v
theorem RadAt.upd0{W:Nat→Prop}{h a:ad}{b:Nat}{l:List Pr}(k:Upd No h a)(r:RadAt W h b l):RadAt W a b l:=by
 obtain⟨w,F,d,f,c⟩:=r.ex;exact⟨w,F,d.upd0 k,f,c⟩
theorem RadAt.less{W W':Nat→Prop}{h:ad}(hm:∀b,W' b→W b∨h.size≤b){b:Nat}{l:List Pr}(r:RadAt W h b l):RadAt W' h b l:=by
 obtain⟨w,F,a,c,d⟩:=r.ex;exact⟨w,F,a.less hm,c,d⟩
theorem RadAt.updM{W M:Nat→Prop}{h a:ad}(k:Upd M h a)(hm:∀b,M b→W b∨h.size≤b){b:Nat}{l:List Pr}(r:RadAt W h b l):RadAt W a b l:=by
 obtain⟨w,F,c,d,f⟩:=r.ex;exact⟨w,F,c.updM k hm,d,f⟩
def NH(l:List Pr):List (List UInt8×ByteArray):=l.map fun p=>(p.1.data.toList,p.2)
theorem Uy{l:List Pr}(c:cA l):Up (NH l):=by
 unfold NH Up;rw[List.pairwise_map];refine List.Pairwise.imp (R:=fun p q:Pr=>kl p.1 q.1) (fun{a b} h=>?_) c
 rw[Mb,ByteArray.toList_eq,ByteArray.toList_eq]at h;exact h
theorem NG:∀{l l':List Pr},NH l=NH l'→l=l'
 | [],[],_=>rfl
 | [],_::_,h=>by simp[NH]at h
 |_::_,[],h=>by simp[NH]at h
 |p::l,q::l',h=>by
  unfold NH at h;simp only[List.map_cons,fA.injEq,rh.injEq]at h;obtain⟨⟨c,d⟩,f⟩:=h;have e:p.1=q.1:=by
   generalize p.1=a at c;generalize q.1=b at c;cases a;cases b;exact congrArg jE (gS.1 c)
  rw[NG f,Prod.ext e d]
theorem H6{w:Option ByteArray}{F:Fo}{l:List Pr}(hc:fi F)(f:cA l)(d:∀k v,(k,v)∈oI w F↔∃p∈l,p.1.data.toList=k∧p.2=v):oI w F=NH l:=by
 refine Qh (Tm hc) (Uy f) fun p=>?_
 have:=d p.1 p.2;rw[show(p.1,p.2)=p from rfl]at this
 rw[this];unfold NH;rw[kR];constructor
 ·rintro⟨q,a,c,b⟩;exact⟨q,a,Prod.ext c b⟩
 ·rintro⟨q,a,e⟩;rw[←e];exact⟨q,a,rfl,rfl⟩
theorem QC{w w':Option ByteArray}{F F':Fo}(hc:fi F)(a:fi F')(h:oI w F=oI w' F'):w=w'∧F=F':=by
 have hm:∀k v,p7 w F k v↔p7 w' F' k v:=fun k v=>by rw[←l0,←l0,h]
 refine⟨Option.ext fun v=>?_,MN hc a fun k v=>?_⟩
 ·have:=hm [] v
  constructor
  ·intro e
   rcases this.1 (.inl ⟨rfl,e⟩)with⟨_,h⟩|h
   ·exact h
   ·exact absurd rfl (nU a h)
  ·intro e
   rcases this.2 (.inl ⟨rfl,e⟩)with⟨_,h⟩|h
   ·exact h
   ·exact absurd rfl (nU hc h)
 ·constructor
  ·intro hi
   rcases(hm k v).1 (.inr hi)with⟨e,_⟩|h
   ·exact absurd e (nU hc hi)
   ·exact h
  ·intro hi
   rcases(hm k v).2 (.inr hi)with⟨e,_⟩|h
   ·exact absurd e (nU a hi)
   ·exact h
end Go.Proofs
namespace Go.Proofs
open Go Go.Lift
theorem su{p q:Pr}:∀{l:List Pr},cA l→(q∈ix p l↔q=p∨(q∈l∧q.1≠p.1))
 | [],_=>by simp[ix]
 |r::l,d=>by
  have d:=bB.1 d;rw[gJ];by_cases c:kl r.1 p.1
  ·have f:r.1≠p.1:=fun e=>by rw[e]at c;exact cO _ c
   rw[if_pos c,aA,aA,su d.2];constructor
   ·rintro(rfl|h|⟨h,b⟩)
    ·exact .inr ⟨.inl rfl,f⟩
    ·exact .inl h
    ·exact .inr ⟨.inr h,b⟩
   ·rintro(h|⟨h|h,b⟩)
    ·exact .inr (.inl h)
    ·exact .inl h
    ·exact .inr (.inr ⟨h,b⟩)
  ·rw[if_neg c]
   by_cases a:r.1=p.1
   ·rw[if_pos a,aA,aA]
    constructor
    ·rintro(h|h)
     ·exact .inl h
     ·refine .inr ⟨.inr h,fun e=>?_⟩
      have:=d.1 q h;rw[e,a]at this;exact cO _ this
    ·rintro(h|⟨rfl|h,b⟩)
     ·exact .inl h
     ·exact absurd a b
     ·exact .inr h
   ·rw[if_neg a,aA,aA]
    have g:=wF c a;constructor
    ·rintro(h|rfl|h)
     ·exact .inl h
     ·exact .inr ⟨.inl rfl,a⟩
     ·refine .inr ⟨.inr h,fun e=>?_⟩
      have:=jY g (d.1 q h);rw[e]at this;exact cO _ this
    ·rintro(h|⟨rfl|h,b⟩)
     ·exact .inl h
     ·exact .inr (.inl rfl)
     ·exact .inr (.inr h)
def RadRoot(W:Nat→Prop)(h:ad)(r:Option Addr)(l:List Pr):Prop:=(r=none∧l= [])∨∃b,r=some ⟨b,0,none⟩∧RadAt W h b l
theorem RadRoot.upd0{W:Nat→Prop}{h a:ad}{r:Option Addr}{l:List Pr}(k:Upd No h a)(t:RadRoot W h r l):RadRoot W a r l:=t.imp id fun⟨b,e,t⟩=>⟨b,e,t.upd0 k⟩
theorem pJ{a b:ByteArray}:a.data.toList=b.data.toList↔a=b:=by
 constructor
 ·intro h;cases a;cases b;exact congrArg jE (gS.1 h)
 ·rintro rfl;rfl
theorem Ec{W:Nat→Prop}{h:ad}(c:∀y,W y→y<h.size){K:Option Addr→ad→Prop}(a:∀h' b,RadAt W h' b []→Upd No h h'→K (some ⟨b,0,none⟩) h'):HC PG pY [] [.c .ptr] K h:=by
 refine Gm ?_;unfold yr Jm;refine bV (a _ h.size ⟨none,.nil,⟨⟨#[]⟩,⟨none,0,0⟩,none,[],db h T0 bG,rfl,Sl.nil oF,⟨ao _,fun hx=>Nat.lt_irrefl _ (c _ hx),lw⟩,rfl⟩,trivial,fun k v=>?_⟩ (Upd.hnew No h _ _))
 simp[oI,yM]
theorem OT{W:Nat→Prop}{h:ad}{r:Option Addr}{l:List Pr}(t:RadRoot W h r l)(f:∀y,W y→y<h.size){K:Option Addr→ad→Prop}(c:∀a b,RadAt W a b l→Upd No h a→(r=some ⟨b,0,none⟩∨r=none)→K (some ⟨b,0,none⟩) a):HC PG mG [.pointer r] [.c .ptr] K h:=by
 refine AF r ?_;unfold vx;rcases t with⟨rfl,rfl⟩|⟨b,rfl,t⟩
 ·exact ay.2 (Ec f fun a b t d=>c a b t d (.inr rfl))
 ·exact aj.2 (c h b t (Upd.refl _ _) (.inl rfl))
def MX(l:List Pr)(xs:List UInt8):Prop:=∃w F,fi F∧oI w F=NH l∧xs=ie ([],w,F)
theorem wL{w:Option ByteArray}{F:Fo}{l:List Pr}(hc:fi F)(a:oI w F=NH l)(b:Fit l):Je F∧∀v,w=some v→v.size≤10000:=by
 have hm:∀k v,p7 w F k v→k.length≤10000∧v.size≤10000:=fun k v hi=>by
  have:=l0.2 hi;rw[a]at this;obtain⟨q,c,e⟩:=kR.1 this;cases e;have:=b q c;exact⟨by simpa using this.1,this.2⟩
 exact⟨MC hc fun k v hi=>hm k v (.inr hi),fun v hv=>(hm [] v (.inl ⟨rfl,hv⟩)).2⟩
theorem Te{l l':List Pr}{xs a:List UInt8}(h:MX l xs)(m:MX l' a)(j:Fit l)(f:Fit l'):xs=a↔l=l':=by
 obtain⟨w,F,c,e,rfl⟩:=h;obtain⟨w',F',c',e',rfl⟩:=m;have g:=wL c e j;have i:=wL c' e' f;constructor
 ·intro hx
  have hx:ie ([],w,F)++ []=ie ([],w',F')++ []:=by rw[hx]
  unfold ie at hx;simp only[aw]at hx;obtain⟨_,d,k,hx⟩:=G5 (bo _) (bo _) g.2 i.2 (jO c) (jO c') hx;obtain⟨b,_⟩:=yJ g.1 i.1 k hx;exact NG (by rw[←e,←e',d,b])
 ·rintro rfl
  obtain⟨d,b⟩:=QC c c' (e.trans e'.symm);rw[d,b]
theorem zQ{l:List Pr}{xs:List UInt8}(h:MX l xs)(d:Fit l):xs.length≤20010+2*l.length*20010:=by
 obtain⟨w,F,c,e,rfl⟩:=h;have b:=wL c e d;have g:=G4 (lab:= []) (n:=F.toL.length) (bo _) b.2;have j:=yI b.1;have i:=II c;have a:=congrArg f8 e;unfold oI NH at a;rw[af,c7]at a;have f:KF F*20010≤2*l.length*20010:=Nat.mul_le_mul_right _ (by omega);unfold ie;rw[af];simp only;omega
theorem JM{W:Nat→Prop}{h:ad}{b:Nat}{l:List Pr}(t:RadAt W h b l)(n:cA l)(g:Fit l)(q:l.length≤60000){K:SliceV→ad→Prop}
  (m:∀s' a xs,MX l xs→OwnS oz 1 cz (fun y=>h.size≤y) a s' xs→Upd No h a→K s' a):HC PG tJ [.pointer (some ⟨b,0,none⟩)] [.c .slice] K h:=by
 refine Gl _ ?_;unfold yq;refine aj.2 ?_;obtain⟨w,F,j,c,k⟩:=t.ex;have f:=H6 c n k;have d:=wL c f g;have hv:MX l (ie ([],w,F)):=⟨w,F,c,f,rfl⟩;have u:=zQ hv g;exact Qx (lab:= []) (bo _) d.2 (jO c) (H1 d.1) (s:=⟨none,0,0⟩) (xs:= []) (M:=fun y=>h.size≤y) j rfl (Upd.refl _ _) (fun _ h=>h) (OwnS.nil qB) (fun _ h=>h) (by rw[cB];omega) fun s' a i p=>m s' a _ hv i (p.mono fun y o=>.inr o)
end Go.Proofs
namespace Go.Proofs
open Go Go.Lift
theorem aJ{h:ad}{cs:List Value}{t:TypeId}{k:ad→Prop}(a:∀h',h'[h.size]? =some (.cells cs.toArray t (0,0))→Upd No h h'→k h'):At (hnew h cs t) k:=
 bV (a _ (db h cs t) (Upd.hnew No h cs t))
theorem vc{h:ad}{b:Nat}{c:Array Value}{t:TypeId}(a:h[b]? =some (.cells c t (0,0))) (i:Nat):aR h (adr ⟨b,0,none⟩ i)=c[i]?:=by rw[bO,aL];exact bA a
theorem fI{h:ad}{b:Nat}{c:Array Value}{t:TypeId}(a:h[b]? =some (.cells c t (0,0))) (i j:Nat):aR h (adr (adr ⟨b,0,none⟩ i) j)=c[i+j]?:=by rw[bO,bO,aL];exact bA a
theorem lN{h:ad}{b i:Nat}{c c':Array Value}{t:TypeId}{v:Value}{k:ad→Prop}(f:h[b]? =some (.cells c t (0,0))) (hi:i<c.size) (e:c.setIfInBounds i v=c') (g:∀a,a[b]? =some (.cells c' t (0,0))→Upd (· =b) h a→k a):Wr h (adr ⟨b,0,none⟩ i)∧At (hset h (adr ⟨b,0,none⟩ i) v) k:=by
 rw[bO,aL];exact⟨iv f hi,vq f fun a d j=>g a (e▸d) j⟩
theorem _root_.Go.Lift.Upd.own{h a c:ad}{b:Nat}(k:Upd No h a)(d:Upd (· =b) a c)(f:h.size≤b):Upd No h c:=k.trans d fun x hx=>.inr (by have hx:x=b:=hx;omega)
theorem _root_.Go.Lift.Upd.oth{h d:ad}{b c:Nat}{o:Obj}(f:Upd (· =b) h d)(hc:h[c]? =some o) (a:c≠b):d[c]? =some o:=f.get hc a
abbrev Tr:=Int×Int×Int×Int×(Option Addr)×(Option Addr)
abbrev jT(t:Tr):List Value:= [.int .i64 t.1,.int .u64 t.2.1,.int .u64 t.2.2.1,.int .u64 t.2.2.2.1,.pointer t.2.2.2.2.1,.pointer t.2.2.2.2.2]
abbrev GK(t:Tr):Value:=.agg #[.int .i64 t.1,.int .u64 t.2.1,.int .u64 t.2.2.1,.int .u64 t.2.2.2.1,.pointer t.2.2.2.2.1,.pointer t.2.2.2.2.2]
def Pro(W:Nat→Prop)(h a:ad)(y:Nat):Prop:=W y∨(h.size≤y∧y<a.size)
theorem Pro.lt{W:Nat→Prop}{h a:ad}(b:∀y,W y→y<h.size)(k:Upd No h a):∀y,Pro W h a y→y<a.size:=fun y c=>c.elim (fun h=>bP (b y h) k.size) fun h=>h.2
theorem Pro.hm{W:Nat→Prop}{h b:ad}:∀y,Pro W h b y→W y∨h.size≤y:=fun _ a=>a.imp id fun h=>h.1
theorem Pro.sub{W:Nat→Prop}{h b c:ad}:∀y,W y→Pro W h b y∨c.size≤y:=fun _ a=>.inl (.inl a)
theorem RootAt.less{W W':Nat→Prop}{x:Hs}{h:ad}(hm:∀b,W' b→W b∨h.size≤b){r:Option Addr}{l:List Pr}(t:RootAt W x h r l):RootAt W' x h r l:=t.imp id fun⟨b,e,t⟩=>⟨b,e,TrieAt.less hm t⟩
theorem RadRoot.less{W W':Nat→Prop}{h:ad}(hm:∀b,W' b→W b∨h.size≤b){r:Option Addr}{l:List Pr}(t:RadRoot W h r l):RadRoot W' h r l:=t.imp id fun⟨b,e,t⟩=>⟨b,e,t.less hm⟩
def TreeIs(W:Nat→Prop)(h:ad)(a:Int)(x:Hs)(t:Tr)(l:List Pr):Prop:=(a=0∧∃b,t=(0,x.k0,x.k1,x.mask,some ⟨b,0,none⟩,none)∧TrieAt W x h 13 b l)∨(a=1∧∃b,t=(1,0,0,0,none,some ⟨b,0,none⟩)∧RadAt W h b l)
theorem TreeIs.upd0{W:Nat→Prop}{h d:ad}{a:Int}{x:Hs}{t:Tr}{l:List Pr}(k:Upd No h d)(i:TreeIs W h a x t l):TreeIs W d a x t l:=
 i.imp (fun⟨e,b,c,t⟩=>⟨e,b,c,TrieAt.upd0 k t⟩) fun⟨e,b,c,t⟩=>⟨e,b,c,t.upd0 k⟩
theorem TreeIs.less{W W':Nat→Prop}{h:ad}(hm:∀b,W' b→W b∨h.size≤b){a:Int}{x:Hs}{t:Tr}{l:List Pr}(i:TreeIs W h a x t l):TreeIs W' h a x t l:=
 i.imp (fun⟨e,b,c,t⟩=>⟨e,b,c,TrieAt.less hm t⟩) fun⟨e,b,c,t⟩=>⟨e,b,c,t.less hm⟩
theorem TreeIs.updM{W M:Nat→Prop}{h d:ad}(k:Upd M h d)(hm:∀b,M b→W b∨h.size≤b){a:Int}{x:Hs}{t:Tr}{l:List Pr}(i:TreeIs W h a x t l):TreeIs W d a x t l:=
 i.imp (fun⟨e,b,c,t⟩=>⟨e,b,c,TrieAt.updM k hm t⟩) fun⟨e,b,c,t⟩=>⟨e,b,c,t.updM k hm⟩
theorem TreeIs.pro{W:Nat→Prop}{h b:ad}(k:Upd No h b){a:Int}{x:Hs}{t:Tr}{l:List Pr}(i:TreeIs W h a x t l):TreeIs (Pro W h b) b a x t l:=(i.less Pro.hm).upd0 k
theorem Gd{W:Nat→Prop}{x:Hs}{h:ad}(g:∀y,W y→y<h.size){K:Option Addr→ad→Prop}(c:∀a b,TrieAt W x a 13 b []→Upd No h a→K (some ⟨b,0,none⟩) a):HC PG nA [] [.c .ptr] K h:=by
 refine yj ?_;unfold tR;exact qW g fun a b d f=>c a b (Ju d) f
abbrev vI:Tr:=(0,0,0,0,none,none)
theorem Jx{W:Nat→Prop}{x:Hs}{h:ad}{r:Option Addr}{l:List Pr}(t:RootAt W x h r l)(w:∀y,W y→y<h.size){K:Tr→ad→Prop}(u:∀g t,TreeIs W g 0 x t l→Upd No h g→K t g):HC PG rE [.agg #[.int .u64 x.k0,.int .u64 x.k1,.int .u64 x.mask],.pointer r] [.agg [.int .i64,.int .u64,.int .u64,.int .u64,.ptr,.ptr]] K h:=by
 refine Fc (x.k0,x.k1,x.mask) r ?_;unfold xd bh ah aI eK zT rk zF;refine aJ fun o b1 k1=>aJ fun q b2 n=>?_
 have A:=aH b1;have z:=aH b2;have d:=k1.tr n;refine Join.intro (fun t g=>Upd No q g∧∃b,t=some ⟨b,0,none⟩∧TrieAt (Pro W h q) x g 13 b l) (fun R m=>?_) ?_
 ·rcases t with⟨rfl,rfl⟩|⟨b,rfl,t⟩
  ·exact ay.2 (Gd (Pro.lt w d) fun v b t a=>m _ _ ⟨a,b,rfl,t⟩)
  ·exact aj.2 (m _ _ ⟨Upd.refl _ _,b,rfl,TrieAt.upd0 d (TrieAt.less Pro.hm t)⟩)
 ·rintro k v ⟨a,b,rfl,k⟩
  have c1:=a.get0 (n.get0 b1);refine⟨_,vc c1 0,_,vc c1 1,_,vc c1 2,?_⟩;refine cS (c:=jT vI) (vs:=jT (0,x.k0,x.k1,x.mask,some ⟨b,0,none⟩,none)) (a.get0 b2) rfl fun s f i=>?_
  refine⟨_,vc f 0,_,vc f 1,_,vc f 2,_,vc f 3,_,vc f 4,_,vc f 5,?_⟩;have j:h.size≤o.size:=k1.size;exact u s _ (.inl ⟨rfl,b,rfl,TrieAt.less Pro.sub (TrieAt.updM i (fun y p=>.inl (.inr (by have p:y=o.size:=p;omega))) k)⟩) ((d.tr a).own i j)
theorem Jw{W:Nat→Prop}{x:Hs}{h:ad}{r:Option Addr}{l:List Pr}(t:RadRoot W h r l)(s:∀y,W y→y<h.size){K:Tr→ad→Prop}(p:∀g t,TreeIs W g 1 x t l→Upd No h g→K t g):HC PG rD [.pointer r] [.agg [.int .i64,.int .u64,.int .u64,.int .u64,.ptr,.ptr]] K h:=by
 refine Fb r ?_;unfold xb bh ah aI eK rk zF;refine aJ fun n b2 d=>?_
 have u:=aH b2;refine Join.intro (fun t g=>Upd No n g∧∃b,t=some ⟨b,0,none⟩∧RadAt (Pro W h n) g b l) (fun R k=>?_) ?_
 ·rcases t with⟨rfl,rfl⟩|⟨b,rfl,t⟩
  ·exact ay.2 (Ec (Pro.lt s d) fun q b t a=>k _ _ ⟨a,b,rfl,t⟩)
  ·exact aj.2 (k _ _ ⟨Upd.refl _ _,b,rfl,(t.less Pro.hm).upd0 d⟩)
 ·rintro j q ⟨a,b,rfl,j⟩
  refine cS (c:=jT vI) (vs:=jT (1,0,0,0,none,some ⟨b,0,none⟩)) (a.get0 b2) rfl fun o f i=>?_
  refine⟨_,vc f 0,_,vc f 1,_,vc f 2,_,vc f 3,_,vc f 4,_,vc f 5,?_⟩;exact p o _ (.inr ⟨rfl,b,rfl,(j.updM i (fun y m=>.inl (.inr (by have m:y=h.size:=m;omega)))).less Pro.sub⟩) ((d.tr a).own i (ao _))
theorem NL{W:Nat→Prop}{x:Hs}{h:ad}(s:∀y,W y→y<h.size){a:Int}(m:a=0∨a=1){K:Tr×Int→ad→Prop}(q:∀h' t,TreeIs W h' a x t []→Upd No h h'→K (t,0) h'):HC PG uY [.int .i64 a,.agg #[.int .u64 x.k0,.int .u64 x.k1,.int .u64 x.mask]] [.agg [.int .i64,.int .u64,.int .u64,.int .u64,.ptr,.ptr],.c (.int .i64)] K h:=by
 refine M2 a (x.k0,x.k1,x.mask) ?_;unfold Fm bh ah aI eK zT vH rk pj;refine aJ fun o b1 k1=>aJ fun u b2 p=>?_
 have z:=aH b1;have w:=aH b2;have g:=k1.tr p;have i:h.size≤o.size:=k1.size;have c1:=p.get0 b1;rcases m with rfl|rfl
 ·refine ay.2 ⟨_,vc c1 0,_,vc c1 1,_,vc c1 2,?_⟩
  refine Jx (W:=Pro W h u) (x:=x) (l:= []) (.inl ⟨rfl,rfl⟩) (Pro.lt s g) fun v t n f=>?_
  refine cS (c:=jT vI) (vs:=jT t) (f.get0 b2) rfl fun k b d=>?_
  refine⟨_,vc b 0,_,vc b 1,_,vc b 2,_,vc b 3,_,vc b 4,_,vc b 5,?_⟩;exact q k t ((n.updM d (fun y j=>.inl (.inr (by have j:y=o.size:=j;omega)))).less Pro.sub) ((g.tr f).own d i)
 ·refine aj.2 (ay.2 ?_)
  refine Jw (W:=Pro W h u) (x:=x) (l:= []) (.inl ⟨rfl,rfl⟩) (Pro.lt s g) fun v t n f=>?_
  refine cS (c:=jT vI) (vs:=jT t) (f.get0 b2) rfl fun k b d=>?_
  refine⟨_,vc b 0,_,vc b 1,_,vc b 2,_,vc b 3,_,vc b 4,_,vc b 5,?_⟩;exact q k t ((n.updM d (fun y j=>.inl (.inr (by have j:y=o.size:=j;omega)))).less Pro.sub) ((g.tr f).own d i)
end Go.Proofs
namespace Go.Proofs
open Go Go.Lift
def pk(k:ByteArray)(l:List Pr):List Pr:=l.filter fun q=>decide (q.1≠k)
theorem xG(k:ByteArray)(q:Pr)(l:List Pr):pk k (q::l)=if q.1=k then pk k l else q::pk k l:=by
 unfold pk;rw[List.filter_cons];by_cases h:q.1=k
 ·rw[if_pos h,if_neg (by simpa using h)]
 ·rw[if_neg h,if_pos (by simpa using h)]
theorem wZ{k:ByteArray}{l:List Pr}(h:∀q∈l,q.1≠k):pk k l=l:=fp.2 fun q a=>decide_eq_true (h q a)
theorem zJ{k:ByteArray}{l:List Pr}(h:cn l k=false):∀q∈l,q.1≠k:=fun q a e=>by
 have:cn l k=true:=cy.2 ⟨q,a,decide_eq_true e⟩;rw[h]at this;cases this
theorem zY{k:ByteArray}{l:List Pr}(h:∀q∈l,q.1≠k):cn l k=false:=by
 rcases ht:cn l k with _|_
 ·rfl
 ·obtain⟨q,a,e⟩:=cy.1 ht
  exact absurd (of_decide_eq_true e) (h q a)
theorem GT{k:ByteArray}{l:List Pr}(a:cA l):cA (pk k l):=a.sublist List.filter_sublist
theorem Dz{k:ByteArray}{l:List Pr}{p:Pr}:p∈pk k l↔p∈l∧p.1≠k:=by unfold pk;rw[List.mem_filter,decide_eq_true_iff]
theorem RE{k:ByteArray}{l:List Pr}:(pk k l).length≤l.length:=List.length_filter_le ..
theorem Ob{k:ByteArray}:∀{l:List Pr},cA l→l.length≤(pk k l).length+1
 | [],_=>bo _
 |q::l,a=>by
  have a:=bB.1 a;rw[xG];by_cases h:q.1=k
  ·rw[if_pos h,wZ fun r hm e=>by have:=a.1 r hm;rw[h,e]at this;exact cO _ this];exact ao _
  ·rw[if_neg h]
   have:=Ob (k:=k) a.2;simp only[aV];omega
theorem Oc(k:ByteArray):∀{l:List Pr},cA l→Px l k=pk k l
 | [],_=>by simp[Px,pk,cn]
 |q::l,c=>by
  have m:=c;have c:=bB.1 c;have b:nT (q::l) k=if kl q.1 k then nT l k+1 else 0:=by
   unfold nT;rw[List.takeWhile_cons];by_cases h:kl q.1 k
   ·rw[if_pos (by simpa using h),if_pos h];rfl
   ·rw[if_neg (by simpa using h),if_neg h];rfl
  have f:cn (q::l) k=(decide (q.1=k)||cn l k):=by unfold cn;rw[List.any_cons]
  by_cases h:kl q.1 k
  ·have d:q.1≠k:=fun e=>by rw[e]at h;exact cO _ h
   rw[xG,if_neg d,←Oc k c.2];unfold Px;rw[f,b,if_pos h,decide_eq_false d,Bool.false_or];by_cases i:cn l k=true
   ·rw[if_pos i,if_pos i];rfl
   ·rw[if_neg i,if_neg i]
  ·by_cases e:q.1=k
   ·have a:∀r∈l,r.1≠k:=fun r hm g=>by have:=c.1 r hm;rw[e,g]at this;exact cO _ this
    rw[xG,if_pos e,wZ a];unfold Px;rw[f,b,if_neg h,decide_eq_true e,Bool.true_or,if_pos rfl];rfl
   ·have j:=wF h e
    have a:∀r∈q::l,r.1≠k:=fun r hm g=>by
     rcases aA.1 hm with rfl|hm
     ·exact e g
     ·have:=c.1 r hm
      rw[g]at this;exact cO _ (jY j this)
    rw[wZ a];unfold Px;rw[zY a];rfl
theorem JY{x:Hs}{lev c:Nat}{k:ByteArray}{l:List Pr}:part x lev c (pk k l)=pk k (part x lev c l):=by
 unfold part pk;rw[List.filter_filter,List.filter_filter];exact List.filter_congr fun p _=>Bool.and_comm ..
theorem Pc{x:Hs}{lev c:Nat}{k:ByteArray}{l:List Pr}(h:c≠ck x lev k):part x lev c (pk k l)=part x lev c l:=by
 rw[JY];exact wZ fun q a e=>h (by rw[←e];exact(nq.1 a).2.symm)
theorem N8{β:Type}(g:Nat→Option β):∀n,(fm g n).length=((List.range n).map fun c=>(g c).toList.length).sum
 |0=>rfl
 |n+1=>by
  rw[gg,af,N8 g n,gz,List.map_append,List.sum_append];simp
theorem Jz{x:Hs}{lev:Nat}{l:List Pr}(h:∀c,c<32→(part x lev c l).length≤1):(fS x lev l).length=l.length:=by
 unfold fS;rw[N8];have e:=rl x lev l 32;have d:(l.filter fun p=>decide (ck x lev p.1<32))=l:=fp.2 fun p _=>decide_eq_true (yg x lev p.1)
 rw[d]at e;rw[←e];refine congrArg List.sum (List.map_congr_left fun c hc=>?_)
 have:=h c (g6.1 hc);match hp:part x lev c l with
 | []=>rfl
 | [p]=>rfl
 |a::b::r=>rw[hp]at this;simp at this
theorem Ls{W:Nat→Prop}{x:Hs}{h:ad}{m b:Nat}{l:List Pr}(t:TrieAt W x h m b l)(C:l.length≤1000000):
  ∃d n sp sk bu ow lp lk,h[b]? =some (.cells (fM d n sp sk bu ow) bQ (0,0))∧Sl ge 2 W h sp lp∧Sl qu 1 W h sk lk∧lp.length≤1000000∧lk.length≤32∧(lp.length+lk.length=1∧n=0↔l.length=1)∧∀p,l= [p]→lp= [p]:=by
 cases m with
 |zero=>
  obtain⟨sp,sk,ow,z,j,i,_⟩:=BuckAt.ex t;exact⟨0,0,sp,sk,true,ow,l,[],z,j,i,C,by simp,by simp,fun p e=>e⟩
 |succ m=>
  obtain⟨s,D,k⟩:=t;have k:∀c,c<32→SlotIs W x h m s c (part x (12-m) c l):=k;obtain⟨d,n,sp,sk,ow,z,bits,j,i,_⟩:=D.ex;have o:=Ds k;have B:=wJ (g:=s.p);refine⟨d,n,sp,sk,false,ow,_,_,z,j,i,by omega,wJ,?_,?_⟩
  ·by_cases u:∀c,c<32→s.k c=none
   ·have w:n=0:=Nat.eq_of_testBit_eq fun c=>by
     rw[fW];by_cases hc:c<32
     ·rw[bits.nk c hc,u c hc];rfl
     ·exact Nat.testBit_lt_two_pow (bP bits.n32 (Nat.pow_le_pow_right (n:=2) (by omega) (by omega:32≤c)))
    have ek:fm s.k 32= []:=by
     unfold fm;rw[List.filterMap_eq_nil_iff];exact fun c hc=>u c (g6.1 hc)
    have el:(fm s.p 32).length=l.length:=by
     rw[o];refine Jz fun c hc=>?_
     rcases k c hc with⟨a,_⟩|⟨p,a,_⟩|⟨_,_,E,A,_⟩
     ·rw[a];simp
     ·rw[a];simp
     ·rw[u c hc]at A;cases A
    rw[ek,el,w];simp
   ·obtain⟨c,hc⟩:=Classical.not_forall.1 u
    obtain⟨hc,f⟩:=Classical.not_imp.1 hc;have v:n≠0:=fun w=>by
     have:=bits.nk c hc;rw[w,fW]at this;cases hkk:s.k c with
     |none=>exact f hkk
     |some y=>rw[hkk]at this;cases this
    rcases k c hc with⟨_,_,a⟩|⟨p,_,_,a⟩|⟨A,_⟩
    ·exact absurd a f
    ·exact absurd a f
    ·have:=jW (x:=x) (lev:=12-m) (c:=c) (l:=l)
     constructor
     ·rintro⟨_,e⟩;exact absurd e v
     ·intro e;omega
  ·rintro p rfl
   rw[o];have hc:=yg x (12-m) p.1;have el:(fS x (12-m) [p]).length=1:=Jz fun c _=>bv jW (by simp)
   match hq:fS x (12-m) [p],el with
   | [q],_=>
    have:q∈fS x (12-m) [p]:=by rw[hq];exact au.2 rfl
    rw[au.1 (rp this)]
theorem Tq{h:ad}{b d n:Nat}{sp sk:SliceV}{c:Bool}{ow:Option Addr}(a:h[b]? =some (.cells (fM d n sp sk c ow) bQ (0,0))) (g:sp.len+sk.len≤1000000000) {K:Int→ad→Prop} (f:K ((sp.len+sk.len:Nat):Int) h):HC PG kY [.pointer (some ⟨b,0,none⟩)] [.c (.int .i64)] K h:=by
 refine vQ _ ?_;unfold qF aM;refine aj.2 ⟨_,rfl,sp,eA (i:=2) a,_,rfl,sk,eA (i:=3) a,?_⟩;have e:IntKind.wrap .i64 ((sp.len:Int)+(sk.len:Int))=((sp.len+sk.len:Nat):Int):=by rw[oD (by omega)];omega
 rw[e];exact f
theorem RZ{W:Nat→Prop}{x:Hs}{h:ad}{m b:Nat}{l:List Pr}(t:TrieAt W x h m b l)(E:l.length≤1000000){K:Pr×Bool→ad→Prop}
  (v:∀j p,Upd No h j→(l.length=1→l= [p])→K (p,decide (l.length=1)) j):HC PG tM [.pointer (some ⟨b,0,none⟩)] [.agg [.str,.str],.c .bool] K h:=by
 refine Gs _ ?_;unfold yy dH bw aG eK my jS;refine aJ fun J b1 k1=>?_
 have I:=TrieAt.upd0 k1 t;obtain⟨d,n,sp,sk,L,ow,O,lk,A,o,z,G,H,f,c⟩:=Ls I E;have M:=o.len;have P:=z.len;refine Join.intro (fun t j=>t= !decide (l.length=1)∧j=J) (fun R D=>?_) ?_
 ·refine Tq A (by omega) ?_
  by_cases e:sp.len+sk.len=1
  ·have y:((sp.len+sk.len:Nat):Int)=1:=by omega
   rw[y];refine aj.2 (zX A (D _ _ ⟨?_,rfl⟩));by_cases C:n=0
   ·rw[decide_eq_true (f.1 ⟨by omega,C⟩),C];rfl
   ·rw[decide_eq_false fun h=>C (f.2 h).2]
    exact bne_iff_ne.2 (by omega)
  ·have y:(((sp.len+sk.len:Nat):Int) !=(1:Int))=true:=bne_iff_ne.2 (by omega)
   rw[y];refine ay.2 (D _ _ ⟨?_,rfl⟩);rw[decide_eq_false fun h=>e (by have:=(f.2 h).1;omega)];rfl
 ·rintro _ j ⟨rfl,rfl⟩
  have s:j[h.size]? =some (.cells #[.string FT.1,.string FT.2] aB (0,0)):=b1;by_cases e:l.length=1
  ·rw[decide_eq_true e]
   refine aj.2 ?_;refine qf A o (by omega) fun s2 N u k=>?_
   match l,e,c with
   | [p],e,c=>
    have w:=c p rfl;subst w;have q:=u.len;obtain⟨a,F,_,hv⟩:=(u.sl (W:=No) fun _ _ _ h=>h).at (i:=0) (x:=p) rfl
    refine⟨⟨by omega,by simp at q;omega⟩,a,F,p.1,hv 0 _ rfl,p.2,hv 1 _ rfl,?_⟩
    refine Cz (p:=p) (k.get0 s) fun B b3 g=>⟨_,vc b3 0,_,vc b3 1,?_⟩
    have:=v B p ((k1.tr k).own g (ao _)) fun _=>rfl
    exact this
  ·have:=v
   rw[decide_eq_false e];rw[decide_eq_false e]at v;refine ay.2 (Cz (p:=FT) s fun B b3 g=>⟨_,vc b3 0,_,vc b3 1,?_⟩)
   exact v B _ (k1.own g (ao _)) fun h=>absurd h e
end Go.Proofs
namespace Go.Proofs
open Go Go.Lift
theorem J9{h:ad}{s:SliceV}{l:List Pr}(g:Sl ge 2 No h s l)(hc:s.len≤s.cap)(p:cA l)(E:l.length≤1000000000)(k:ByteArray)
  {K:SliceV→ad→Prop}(z:∀s' h',OwnS ge 2 aB (fun b=>h.size≤b) h' s' (pk k l)→Upd No h h'→K s' h'):HC PG wT [.slice s.a s.len s.cap,.string k] [.c .slice] K h:=by
 refine K5 s k ?_;unfold C2 zE;have f:=g.len;refine Iy g p E k fun q a=>?_
 have D:=QO l k;cases ht:cn l k with
 |false=>
  refine ay.2 (BX (g.upd a fun _ h=>h.elim) (by omega) fun s3 L n y=>?_)
  rw[wZ (zJ ht)]at z;exact z _ _ (n.more fun b o=>bv a.size o) (a.tr y)
 |true=>
  obtain⟨G,_⟩:=Ih p ht;have ew:IntKind.wrap .i64 ((nT l k:Int)+1)=((nT l k+1:Nat):Int):=by rw[oD (by omega)];omega
  refine aj.2 ?_;simp only;rw[ew];refine⟨by omega,by omega,?_⟩
  simp only[Bd,aO];refine bV ?_;have d:=g.upd a fun _ h=>h.elim
  have w:=Upd.hnew No q [.slice (bq s.a 0 s.cap 2) (nT l k-0) (s.cap-0),.slice (bq s.a (nT l k+1) s.cap 2) (s.len-(nT l k+1)) (s.cap-(nT l k+1))] gV;have F:=db q [.slice (bq s.a 0 s.cap 2) (nT l k-0) (s.cap-0),.slice (bq s.a (nT l k+1) s.cap 2) (s.len-(nT l k+1)) (s.cap-(nT l k+1))] gV;have C:=H0 d (i:=0) (j:=nT l k) (m:=s.cap) (bo _) D (by omega) (s.cap-0)
  have u:=H0 d (i:=nT l k+1) (j:=l.length) (m:=s.cap) (by omega) (ao _) (by omega) (s.cap-(nT l k+1));rw[←f]at u;rw[List.drop_zero]at C;rw[List.take_of_length_le (by rw[aW];omega)]at u;have H:pk k l= [l.take (nT l k-0),l.drop (nT l k+1)].flatten:=by rw[←Oc k p];unfold Px;rw[if_pos ht];simp
  refine Ht (s:=⟨some (aD q),2,2⟩) (vs:= [⟨bq s.a 0 s.cap 2,nT l k-0,s.cap-0⟩,⟨bq s.a (nT l k+1) s.cap 2,s.len-(nT l k+1),s.cap-(nT l k+1)⟩]) (ls:= [l.take (nT l k-0),l.drop (nT l k+1)])
   ⟨rfl,fun x=>⟨rfl,Nat.one_pos⟩,fun _=>⟨_,rfl,fun h=>h.elim,pU F fun i v hv=>by simpa[WD]using hv⟩⟩ ⟨C.upd w fun _ h=>h.elim,u.upd w fun _ h=>h.elim,trivial⟩ ?_ (by simp) fun I J c A=>?_
  ·simp only[List.flatten_cons,List.flatten_nil,af,aU,aW,cB];omega
  ·rw[←H]at c
   have B:=a.tr w;exact z _ _ (c.more fun b o=>bv B.size o) (B.tr A)
end Go.Proofs
namespace Go.Proofs
def tB(P a:List UInt8→ByteArray→Prop)(k:List UInt8):Prop:=∀k' v',a k' v'↔k'≠k∧P k' v'
theorem MF{P:List UInt8→ByteArray→Prop}{k:List UInt8}(h:∀v,¬P k v):tB P P k:=fun k' b=>⟨fun a=>⟨fun e=>h b (e▸a),a⟩,fun h=>h.2⟩
theorem ME{w:Option ByteArray}{F:Fo}(h:fi F):tB (p7 w F) (p7 none F) []:=by
 intro k' a;unfold p7;constructor
 ·rintro(⟨_,f⟩|hi)
  ·cases f
  ·exact⟨nU h hi,.inr hi⟩
 ·rintro⟨e,⟨f,_⟩|hi⟩
  ·exact absurd f e
  ·exact .inr hi
theorem EU{w:Option ByteArray}{F F':Fo}{k:List UInt8}(a:k≠[])(h:tB (pi F) (pi F') k):tB (p7 w F) (p7 w F') k:=by
 intro k' b;unfold p7;rw[h k' b];constructor
 ·rintro(⟨e,f⟩|hi)
  ·exact⟨fun e'=>a (e'.symm.trans e),.inl ⟨e,f⟩⟩
  ·exact⟨hi.1,.inr hi.2⟩
 ·rintro⟨e,hi|hi⟩
  ·exact .inl hi
  ·exact .inr ⟨e,hi⟩
theorem MG{lab r:List UInt8}{w w':Option ByteArray}{F F':Fo}(h:tB (p7 w F) (p7 w' F') r):tB (rK (lab,w,F)) (rK (lab,w',F')) (lab++r):=by
 intro k' c;constructor
 ·rintro⟨s,e,b⟩
  obtain⟨a,d⟩:=(h s c).1 b;exact⟨fun e'=>a (d9 (e.symm.trans e')),s,e,d⟩
 ·rintro⟨a,s,e,b⟩
  exact⟨s,e,(h s c).2 ⟨fun e'=>a (by rw[e,e']),b⟩⟩
theorem Pu{F:Fo}{i:Nat}{m:Bn}{k:List UInt8}(h:fi F)(hi:i<F.toL.length)(ek:hd F.toL[i].1=hd k)(f:tB (rK F.toL[i]) (rK m) k):tB (pi F) (pi (.ofL (F.toL.set i m))) k:=by
 intro k' g;have hc:=eI.1 h;rw[fq,fq,Fo.to_of];constructor
 ·rintro⟨n,a,b⟩
  rcases(lZ hi (uT h hi)).1 a with rfl|⟨a,c⟩
  ·obtain⟨d,j⟩:=(f k' g).1 b
   exact⟨d,_,aP hi,j⟩
  ·refine⟨fun e=>c ?_,n,a,b⟩
   obtain⟨r,e',_⟩:=b;refine vp h a (aP hi) ?_;rw[ek,←e,e',oL (hc.2 n a).1]
 ·rintro⟨d,n,a,b⟩
  by_cases e:n=F.toL[i]
  ·exact⟨m,(lZ hi (uT h hi)).2 (.inl rfl),(f k' g).2 ⟨d,by rw[←e];exact b⟩⟩
  ·exact⟨n,(lZ hi (uT h hi)).2 (.inr ⟨a,e⟩),b⟩
theorem CE{α:Type}{l:List α}{i:Nat}(hi:i<l.length){x:α}(d:∀j (a:j<l.length),j≠i→l[j]≠l[i]):x∈l.take i++l.drop (i+1)↔x∈l∧x≠l[i]:=by
 constructor
 ·intro h
  rcases bW.1 h with h|h
  ·obtain⟨j,a,e⟩:=cD h
   rw[aU]at a;rw[pe]at e;exact⟨g7 h,by rw[←e];exact d j (by omega) (by omega)⟩
  ·obtain⟨j,a,e⟩:=cD h
   rw[aW]at a;rw[pf]at e;exact⟨List.mem_of_mem_drop h,by rw[←e];exact d (i+1+j) (by omega) (by omega)⟩
 ·rintro⟨h,c⟩
  obtain⟨j,a,e⟩:=cD h;rcases Nat.lt_trichotomy j i with b|b|b
  ·exact bW.2 (.inl (nh (i:=j) (h:=by rw[aU];omega) (by rw[pe];exact e)))
  ·subst b;exact absurd e.symm c
  ·refine bW.2 (.inr (nh (i:=j-(i+1)) (h:=by rw[aW];omega) ?_))
   rw[pf];have:i+1+(j-(i+1))=j:=by omega
   simp only[this];exact e
theorem TK{F:Fo}{i:Nat}(h:fi F):fi (.ofL (F.toL.take i++F.toL.drop (i+1))):=by
 have hc:=eI.1 h;rw[eI,Fo.to_of];have a:(F.toL.take i++F.toL.drop (i+1)).Sublist F.toL:=by rw[←List.eraseIdx_eq_take_drop_succ];exact List.eraseIdx_sublist ..
 exact⟨hc.1.sublist a,fun n b=>hc.2 n (a.subset b)⟩
theorem Pv{F:Fo}{i:Nat}{k:List UInt8}(h:fi F)(hi:i<F.toL.length)(ek:hd F.toL[i].1=hd k)(f:∀k' c,rK F.toL[i] k' c→k'=k):tB (pi F) (pi (.ofL (F.toL.take i++F.toL.drop (i+1)))) k:=by
 intro k' c;have hc:=eI.1 h;rw[fq,fq,Fo.to_of];constructor
 ·rintro⟨n,a,b⟩
  obtain⟨a,d⟩:=(CE hi (uT h hi)).1 a;refine⟨fun e=>d ?_,n,a,b⟩
  obtain⟨r,e',_⟩:=b;refine vp h a (aP hi) ?_;rw[ek,←e,e',oL (hc.2 n a).1]
 ·rintro⟨g,n,a,b⟩
  by_cases e:n=F.toL[i]
  ·exact absurd (f k' c (by rw[←e];exact b)) g
  ·exact⟨n,(CE hi (uT h hi)).2 ⟨a,e⟩,b⟩
def TR(n:Bn)(o:Option Bn):Prop:=(o=none∧∀k v,¬rK n k v)∨∃m,o=some m∧Lc m∧hd m.1=hd n.1∧∀k v,rK m k v↔rK n k v
theorem Pg{lab:List UInt8}{w:Option ByteArray}{F:Fo}(a:lab≠[])(hc:fi F)(h:w.isSome∨2≤F.toL.length):TR (lab,w,F) (some (lab,w,F)):=.inr ⟨_,rfl,⟨a,h,hc⟩,rfl,fun _ _=>vF⟩
theorem Ph{lab:List UInt8}{F:Fo}(h:F.toL= []):TR (lab,none,F) none:=by
 refine .inl ⟨rfl,fun k v hi=>?_⟩
 obtain⟨r,_,⟨_,b⟩|b⟩:=hi
 ·cases b
 ·obtain⟨n,a,_⟩:=fq.1 b
  simp only at a;rw[h]at a;cases a
theorem QZ{lab lk:List UInt8}{a:Option ByteArray}{F Fk:Fo}(c:lab≠[])(hc:fi F)(h:F.toL= [(lk,a,Fk)]):TR (lab,none,F) (some (lab++lk,a,Fk)):=by
 have d:F=.cons lk a Fk .nil:=by
  rw[←Fo.of_to F,h];rfl
 have b:=(eI.1 hc).2 (lk,a,Fk) (by rw[h];exact au.2 rfl);refine .inr ⟨_,rfl,⟨fun e=>c (gm.1 e).1,b.2.1,b.2.2⟩,oL c,fun k v=>?_⟩
 have:=Hf (lab:=lab++lk) (w:=a) (F:=Fk) lab.length k v;rw[List.take_left,gk]at this;rw[d];exact this.symm
end Go.Proofs
namespace Go.Proofs
open Go Go.Lift
theorem jU(s:ByteArray):s.data.toList.length=s.size:=by simp
theorem RU(a b:ByteArray):(a++b).data.toList=a.data.toList++b.data.toList:=by rw[ByteArray.data_append,Array.toList_append]
theorem O9{a b:ByteArray}{h:ad}{K:Bool→ad→Prop}(c:K (decide (b.data.toList<+:a.data.toList)) h):HC PG tH [.string a,.string b] [.c .bool] K h:=by
 refine Gg a b ?_;unfold yl jS;refine B7 a b ?_;unfold uy jS;refine qo a b ?_;unfold kC;have j:=jU a;have f:=jU b;refine aQ (fun g=>?_) fun i=>?_
 ·refine⟨⟨by omega,by omega⟩,?_⟩
  rw[iW,aO];have e:decide (a.extract 0 b.size=b)=decide (b.data.toList<+:a.data.toList):=by
   rw[decide_eq_decide,←pJ,An,List.prefix_iff_eq_take,f];exact eq_comm
  rw[e];exact c
 ·have e:decide (b.data.toList<+:a.data.toList)=false:=decide_eq_false fun d=>by
   have:=d.length_le;omega
  rw[e]at c;exact c
theorem RG{a b:ByteArray}{h:ad}{K:ByteArray×Bool→ad→Prop}(g:∀s:ByteArray,a.data.toList=b.data.toList++s.data.toList→K (s,true) h)(i:(∀r,a.data.toList≠b.data.toList++r)→K (⟨#[]⟩,false) h):HC PG uX [.string a,.string b] [.c .str,.c .bool] K h:=by
 refine M0 a b ?_;unfold Fj jS;refine O9 ?_;have j:=jU a;have d:=jU b;by_cases c:b.data.toList<+:a.data.toList
 ·rw[decide_eq_true c]
  have f:=c.length_le;refine aj.2 ⟨⟨by omega,by omega⟩,?_⟩
  rw[aO];refine g _ ?_;rw[Ao];obtain⟨r,e⟩:=c;rw[←e,←d,gk]
 ·rw[decide_eq_false c]
  exact ay.2 (i fun r e=>c ⟨r,e.symm⟩)
end Go.Proofs
