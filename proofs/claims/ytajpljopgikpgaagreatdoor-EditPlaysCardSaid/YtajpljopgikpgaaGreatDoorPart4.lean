/- A part of the proof that the named laws of this program answer true, whatever the input. -/
import Derived.Test.YtajpljopgikpgaaGreatDoorPart3
import Derived.Test.YtajpljopgikpgaaGreatDoorPart2
open Array renaming toList_inj→iG
open ByteArray renaming mk→kO,data_append→qR
open Iff renaming rfl→vT
open Int renaming toNat_natCast→aX
open List renaming mem_append→bM,mem_of_mem_take→iS,mem_cons→aB,getElem_of_mem→bV,getElem?_eq_getElem→ag,getElem_mem→aY,length→eL,length_drop→aZ,length_nil→bL,mem_singleton→au,append_eq_nil_iff→gX,take_length→cp,take_append_drop→aS,length_take→aP,append_cancel_left→eW,mem_of_getElem?→aE,getElem?_set→eE,mem_map→iK,pairwise_append→cE,mem_cons_self→aC,pairwise_cons→bA,lt_irrefl→uN,mem_cons_of_mem→aV,length_append→ad,length_map→bF,length_cons→aH,length_singleton→aF,append_nil→bB,flatMap_cons→ba,append_assoc→az,cons_append→dB,cons→fH,range_succ→ie,flatMap_append→bN,filter_eq_self→gd,any_eq_true→cL,mem_range→gq,getElem_take→qG,getElem_drop→qH,mem_of_getElem→oE,drop_left→gr
open List.Pairwise renaming nil→fc
open Nat renaming le_refl→ao,lt_or_ge→bO,lt_of_lt_of_le→bG,add_mul→jF,le_trans→bv,zero_le→bj,zero_add→aU,zero_testBit→gG
open Option renaming map_eq_some_iff→l9
open Prod renaming mk→rP,ext→zK
namespace Go.Proofs
open Go Go.Lift
theorem KidO.move{o:Option Addr}{W W' M:Nat→Prop}{h c:af}(k:Upd M h c){a:Option Addr}{n:Bn}{S:Nat→Prop}(r:KidO o W h a n S)(f:∀y,S y→y<h.size)(hm:∀y,M y→(W y∧¬S y)∨h.size≤y)(d:∀y,W' y→W y∨h.size≤y):KidO o W' c a n S:=
 ((r.less (W':=fun y=>W y∨h.size≤y) fun y b=>b).upd k f fun y b=>(hm y b).imp (fun h=>⟨.inl h.1,h.2⟩) id).less fun y b=>.inl (d y b)
theorem Ee{o ow:Option Addr}{W S M:Nat→Prop}{h f:af}{b:Nat}{s:SliceV}{ks:List (Option Addr)}{Us Us':List (Nat→Prop)}
  (i:(OwOk W h ow∧(¬W b)∧Sl m9 1 W h s ks∧∀y,¬S y)∨(o.isSome=true∧ow=o∧∃A:Nat→Prop,OwnS m9 1 bw A h s ks∧(∀y,A y→S y∧y≠b∧y<h.size)∧S b∧∀U∈Us,∀y,U y→¬A y∧y≠b))
  (D:b<h.size)(m:Upd M h f)(hM:∀y,M y→S y∧∃U∈Us,U y)(p:∀U∈Us',∀y,U y→((∃V∈Us,V y)∨h.size≤y)∧y<f.size):
  (OwOk W f ow∧Sl m9 1 No f s ks∧(∀U∈Us',∀y,U y→y<f.size))∨(o.isSome=true∧ow=o∧∃A:Nat→Prop,OwnS m9 1 bw A f s ks∧(∀y,A y→S y∧y≠b∧y<f.size)∧S b∧∀U∈Us',∀y,U y→¬A y∧y≠b):=by
 have z:=m.size;rcases i with⟨n,_,B,j⟩|⟨e,C,A,w,d,g,k⟩
 ·exact .inl ⟨n.upd m fun y a=>absurd (hM y a).1 (j y),(B.upd m fun y a=>absurd (hM y a).1 (j y)).less fun _ h=>h.elim,fun U c y a=>(p U c y a).2⟩
 ·refine .inr ⟨e,C,A,w.upd m fun y a hm=>?_,fun y a=>⟨(d y a).1,(d y a).2.1,by have:=(d y a).2.2;omega⟩,g,fun U c y a=>?_⟩
  ·obtain⟨_,U,c,u⟩:=hM y hm
   exact(k U c y u).1 a
  ·rcases(p U c y a).1 with⟨V,v,hv⟩|h
   ·exact k V v y hv
   ·exact⟨fun q=>by have:=(d y q).2.2;omega,by omega⟩
set_option maxHeartbeats 4000000 in
theorem Tn{w' o:Option Addr}:∀(n:Nat) {W S:Nat→Prop} {b:Nat} {sl:ByteArray} {w:Option ByteArray} {F:Fo} {h:af} (k v:ByteArray),k.size<n→k.size≤1000000→RxO o W h b sl w F S→By h w' o→(∀y,W y→y<h.size)→(∀y,S y→W y)→(∀a,o=some a→W a.block)→(∀a,w'=some a→¬S a.block)→fU F→∀{K:(Option Addr)×Bool×Bool→af→Prop},
  (∀O q w2 F2 S2 C ch,Upd S h O→RxO o (fun y=>W y∨S2 y) O q sl w2 F2 S2→(∀y,S2 y→(S y∨h.size≤y)∧y<O.size)→fU F2→wq (rO w F) (rO w2 F2) k.data.toList v→(ch=false→q=b∧w2=w∧F2=F∧Upd No h O∧rO w F k.data.toList v)→(rO w F k.data.toList v→ch=false)→K (some ⟨q,0,none⟩,C,ch) O)→
  HC PG nV [.pointer (some ⟨b,0,none⟩),.pointer w',.string k,.string v] [.c .ptr,.c .bool,.c .bool] K h:=by
 intro n;induction n with
 |zero=>intro W S b sl w F h k v hk;omega
 |succ n ih=>
  intro W S b sl w F h k v hkn hk6 r t hW D hWo hwS hc K hk;refine EJ (some ⟨b,0,none⟩) w' k v ?_;unfold xd bH cS bo cz Ao jm uP aK dZ UZ GM Lv Zd;have hr:=r;have hno:o=none→∀y,¬S y:=fun e=>by subst e;exact r.off.2
  obtain⟨val,s,ow,ks,Us,hb,hv,hs,hL,hUS,hPD,hown⟩:=r.view;have hn:=kJ hc;have hcan:=fi.1 hc;have hSb:∀y,S y→y<h.size:=fun y d=>hW y (D y d)
  have N:∀U∈Us,∀y,U y→y<h.size:=fun U G y d=>hSb y (hUS U G y d)
  have zb:=aL hb;have own2:=fun{B:af} {M:Nat→Prop} (ku:Upd M h B) (hM:∀y,M y→S y∧∃U∈Us,U y) (Us':List (Nat→Prop)) (G:∀U∈Us',∀y,U y→((∃V∈Us,V y)∨h.size≤y)∧y<B.size)=>Ee (Us':=Us') hown zb ku hM G
  have hUh:∀{B:af},h.size≤B.size→∀U∈Us,∀y,U y→((∃V∈Us,V y)∨h.size≤y)∧y<B.size:=fun z U G y d=>⟨.inl ⟨U,G,d⟩,by have:=N U G y d;omega⟩
  have hno':∀{A X:Nat→Prop} {bb bx:Nat} {T:List (Nat→Prop)},(∀y,A y→S y∨h.size≤y)→(S bb∨h.size≤bb)→o=none→(∀y,A y→¬(W y∨SR o bx X T y))∧¬(W bb∨SR o bx X T bb):=fun{A X bb bx T} hA hb e=>by
   have no:∀y,(S y∨h.size≤y)→¬(W y∨SR o bx X T y):=fun y d hw=>by
    rcases hw with hw|⟨hw,_⟩
    ·rcases d with h|h
     ·exact hno e y h
     ·have:=hW y hw;omega
    ·rw[e]at hw;cases hw
   exact⟨fun y d=>no y (hA y d),no _ hb⟩
  rw[jq];refine aM (fun hk0=>?_) fun hk0=>?_
  ·have hke:k.data.toList= []:=by rw[hk0]
   rw[hke]at hk;refine Join.intro (fun t O=>t=decide (w=some v)∧O=h) (fun R hR=>⟨_,rfl,w.isSome,dI (i:=1) hb,?_⟩) ?_
   ·cases hw:w with
    |none=>exact aj.2 (hR _ _ ⟨by rw[hw];rfl,rfl⟩)
    |some u=>
     refine aA.2 ⟨_,rfl,val,dI (i:=2) hb,hR _ _ ⟨?_,rfl⟩⟩;rw[jq,vw hv u hw,hw];exact decide_eq_decide.2 ⟨fun e=>by rw[e],fun e=>Option.some.inj e⟩
   ·rintro t' O ⟨rfl,rfl⟩
    refine aM (fun e=>?_) fun e=>?_
    ·refine hk O b w F S false false (Upd.refl _ _) (hr.less fun y d=>.inl (d.elim id (D y))) (fun y d=>⟨.inl d,hSb y d⟩) hc ?_ (fun _=>⟨rfl,rfl,rfl,Upd.refl _ _,.inl ⟨rfl,e⟩⟩) fun _=>rfl
     rw[e];exact Kq hc v
    ·have fin:∀{h1 B:af} {q:Nat} {s1:SliceV} {A1:Nat→Prop},OwnS m9 1 bw A1 h1 s1 ks→(∀y,A1 y→(S y∨O.size≤y)∧y≠q∧y<h1.size)→(S q∨O.size≤q)→(∀U∈Us,∀y,U y→¬A1 y∧y≠q)→Upd No O h1→B[q]? =some (.cells (zP sl true v s1 o) bS (0,0))→Upd (· =q) h1 B→∀C,K (some ⟨q,0,none⟩,C,true) B:=fun{h1 B q s1 A1} hA1 f g P p b2 E C=>by
      have z1:=p.size;have z2:=E.size;have zb':=aL b2;have u02:Upd (· =q) O B:=p.wide.tr E
      have hSR:∀y,SR o q A1 Us y→(S y∨O.size≤y)∧y<B.size:=fun y d=>BL g zb' (fun y d=>⟨(f y d).1,by have:=(f y d).2.2;omega⟩) (fun U G y d=>⟨.inl (hUS U G y d),by have:=N U G y d;omega⟩) d
      refine hk B q (some v) F (SR o q A1 Us) C true (u02.mono fun y d=>by have d:y=q:=d;rw[d];exact g) (yR b2 rfl (hA1.upd E fun y d=>(f y d).2.1) (fun y d=>⟨(f y d).2.1,by have:=(f y d).2.2;omega⟩) P hPD (hL.move u02 N (fun y d=>?_) fun y d=>d.elim .inl fun h=>(hSR y h).1.imp (D y) id) (hno' (fun y d=>(f y d).1) g)) hSR hc (Kq hc v) (fun h=>by cases h) fun J=>?_
      ·have d:y=q:=d
       subst d;exact g.imp (fun h=>⟨D y h,fun U G hu=>(P U G y hu).2 rfl⟩) id
      ·rcases J with⟨_,h⟩|h
       ·exact absurd h e
       ·exact absurd rfl (pq hc h)
     have ow0:=own2 (Upd.refl No O) (fun _ h=>h.elim) Us (hUh (ao _))
     refine⟨_,rfl,?_,w.isSome,dI (i:=1) hb,?_⟩
     ·refine mz (S:=S) (Us:=Us) t hWo hb (by rw[hL.1];exact hn) ow0 fun h1 q s1 A1 b1 hA1 f g P p=>⟨?_,w.isSome,dI (i:=1) (p.get0 hb),?_⟩
      ·refine uR b1 fun B b2 E=>?_
       have hb2:∃val2,aR B (adr ⟨b,0,none⟩ 1)=some (.bool val2):=by
        by_cases e2:b=q
        ·rw[e2];exact⟨_,dI (i:=1) b2⟩
        ·exact⟨_,dI (i:=1) ((p.wide.tr E).get hb e2)⟩
       obtain⟨v2,hv2⟩:=hb2;exact⟨v2,hv2,fin hA1 f g P p b2 E _⟩
      ·exact uR b1 fun B b2 E=>fin hA1 f g P p b2 E _
     ·exact mz (S:=S) (Us:=Us) t hWo hb (by rw[hL.1];exact hn) ow0 fun h1 q s1 A1 b1 hA1 f g P p=>uR b1 fun B b2 E=>fin hA1 f g P p b2 E _
  ·have L:k.data.toList≠[]:=fun e=>hk0 (by cases k;exact congrArg kO (iG.1 e))
   obtain⟨c0,hc0,hc0e⟩:=Ei L;refine⟨c0,Int.le_refl _,hc0,?_⟩;have hlk:k.data.toList.length=k.size:=by simp
   refine D5 (hr.read t) hc (c:=c0.toNat) (UInt8.toNat_lt _) fun i ok hil hlo hhi hok=>?_
   rw[hc0e]at hlo hhi hok;cases ok with
   |false=>
    have hno2:∀hi:i<F.toL.length,hd F.toL[i].1≠hd k.data.toList:=fun hi e=>by have:=hok.2 ⟨hi,e⟩;cases this
    have hhi':∀j (hj:j<F.toL.length),i≤j→hd k.data.toList<hd F.toL[j].1:=fun j hj hij=>by
     have h1:=hhi j hj hij;rcases bO i j with hl|hl
     ·have B:=List.pairwise_iff_getElem.1 hcan.1 i j (by omega) hj hl
      have h3:=hhi i (by omega) (ao _);omega
     ·have:i=j:=by omega
      subst this;have:=hno2 hj;omega
    obtain⟨hc',hp'⟩:=TB (v:=v) hc L hlo hhi';refine aA.2 ?_;refine mz (S:=S) (Us:=Us) t hWo hb (by rw[hL.1];exact hn) (own2 (Upd.refl No h) (fun _ h=>h.elim) Us (hUh (ao _))) fun h1 q s1 A1 b1 hA1 f g P p=>?_
    refine⟨_,rfl,s1,dI (i:=3) b1,?_⟩;refine Nv (t.upd0 p) fun B fb fs Af fb2 hAf hAfs hfb E=>⟨dI (i:=3) (E.get0 b1),ce ?_⟩
    have k3:=Upd.hnew No B [.pointer (some ⟨fb,0,none⟩)] bw;have b3:=dq B [.pointer (some ⟨fb,0,none⟩)] bw;have z3:(hnew B [.pointer (some ⟨fb,0,none⟩)] bw).size=B.size+1:=ki ..;simp only[fX B];generalize hnew B [.pointer (some ⟨fb,0,none⟩)] bw=h3 at k3 b3 z3;have hu13:=E.tr k3;refine⟨dI (i:=3) (hu13.get0 b1),?_⟩;have z01:=p.size
    have z1:=aL b1;have z2:=E.size;have zf:=aL fb2;have ho3:=(hA1.upd hu13 fun _ _ h=>h).more (M':=fun x=>A1 x∨h3.size≤x) fun x hx=>.inl hx
    refine Qn ho3 (k:=i) (by rw[hL.1];exact hil) (by rw[hL.1];omega) b3 (fun h=>h.elim (fun h=>by have:=(f _ h).2.2;omega) fun h=>by omega) (fun x hx=>.inr hx) fun s4 h4 ho4 hu4=>?_
    have b4:=hu4.get (hu13.get0 b1) (fun h=>h.elim (fun h=>(f _ h).2.1 rfl) fun h=>by omega)
    have f4:=hu4.get (k3.get0 fb2) (fun h=>h.elim (fun h=>by have:=(f _ h).2.2;omega) fun h=>by omega)
    refine⟨_,rfl,Vo (i:=3) b4 (show 3<5 by decide),Hb (i:=3) (c':=zP sl w.isSome val s4 o) b4 rfl fun h5 b5 hu5=>?_⟩
    have z4:=hu4.size;have z5:=hu5.size;have u05:Upd (fun y=>y=q∨A1 y) h h5:=((p.tr hu13).wide.trans hu4 fun x hx=>hx.imp .inr fun h=>by omega).trans hu5 fun x hx=>.inl (.inl hx)
    have ho5:=ho4.within.upd hu5 fun x hx e=>by
     have e:x=q:=e;subst e;rcases hx.1 with h|h
     ·exact(f _ h).2.1 rfl
     ·omega
    have nfb:¬fb=q:=by omega
    have f5:=hu5.get f4 nfb;have hAf5:=((hAf.upd k3 fun _ _ h=>h).upd hu4 (fun y d h=>by
     have:=hAfs y d
     rcases h with h|h
     ·have:=(f y h).2.2;omega
     ·omega)).upd hu5 fun y d e=>by
      have e:y=q:=e;have:=hAfs y d;omega
    have hSf:∀y,SR o fb Af [] y→h1.size≤y∧y<B.size:=fun y d=>by
     rcases d.2 with rfl|h|⟨U,G,_⟩
     ·exact⟨hfb,zf⟩
     ·have:=hAfs y h;omega
     ·cases G
    have hmem:∀U∈Us.take i++SR o fb Af []::Us.drop i,U∈Us∨U=SR o fb Af []:=fun U G=>by
     rcases bM.1 G with h|h
     ·exact .inl (iS h)
     ·rcases aB.1 h with h|h
      ·exact .inr h
      ·exact .inl (List.mem_of_mem_drop h)
    have hA5:∀y,((A1 y∨h3.size≤y)∧y<h4.size)→(S y∨h.size≤y)∧y≠q∧y<h5.size:=fun y d=>by
     rcases d.1 with h|h
     ·exact⟨(f y h).1,(f y h).2.1,by omega⟩
     ·exact⟨.inr (by omega),by omega,by omega⟩
    have hS2:∀y,SR o q (fun y=>(A1 y∨h3.size≤y)∧y<h4.size) (Us.take i++SR o fb Af []::Us.drop i) y→(S y∨h.size≤y)∧y<h5.size:=fun y d=>BL g (aL b5) (fun y d=>⟨(hA5 y d).1,(hA5 y d).2.2⟩) (fun U G y d=>by
     rcases hmem U G with h|rfl
     ·exact⟨.inl (hUS U h y d),by have:=N U h y d;omega⟩
     ·have:=hSf y d;exact⟨.inr (by omega),by omega⟩) d
    refine hk h5 q w _ (SR o q (fun y=>(A1 y∨h3.size≤y)∧y<h4.size) (Us.take i++SR o fb Af []::Us.drop i)) true true (u05.mono fun y d=>?_) (yR b5 hv ho5 (fun y d=>(hA5 y d).2) (fun U G y d=>?_) (ZD hPD (by rw[hL.2.1];exact hil) fun U G y d hu=>?_) (by
     rw[Fo.to_of]
     refine(hL.move u05 N (fun y d=>?_) fun y d=>d.elim .inl fun h=>(hS2 y h).1.imp (D y) id).ins hil ⟨fb,k,rfl,rfl,aaQ f5 hAf5 (fun y d=>?_) (hno' (fun y d=>.inr ?_) (.inr (by omega)))⟩
     ·rcases d with rfl|h
      ·exact g.imp (fun h=>⟨D _ h,fun U G hu=>(P U G _ hu).2 rfl⟩) id
      ·exact(f y h).1.imp (fun hs=>⟨D y hs,fun U G hu=>(P U G y hu).1 h⟩) id
     ·have:=hAfs y d;exact⟨this.2.1,by omega⟩
     ·have:=hAfs y d;omega) (hno' (fun y d=>(hA5 y d).1) g)) hS2 hc' (Ec L hp') (fun h=>by cases h) fun J=>?_
    ·rcases d with rfl|h
     ·exact g
     ·exact(f y h).1
    ·rcases hmem U G with h|rfl
     ·have:=P U h y d
      have B:=N U h y d;exact⟨fun h=>h.1.elim this.1 fun h=>by omega,this.2⟩
     ·have:=hSf y d
      exact⟨fun h=>h.1.elim (fun h=>by have:=(f y h).2.2;omega) fun h=>by omega,by omega⟩
    ·have:=hSf y d;have:=N U G y hu;omega
    ·rcases J with⟨h,_⟩|J
     ·exact absurd h L
     ·obtain⟨n',hn',e,_⟩:=qe hc J
      obtain⟨j,hj,rfl⟩:=bV hn';rcases bO j i with hl|hl
      ·have:=hlo j hj hl;omega
      ·have:=hhi' j hj hl;omega
   |true=>
    obtain⟨hi,hie⟩:=hok.1 rfl;refine aj.2 ⟨_,rfl,s,dI (i:=3) hb,?_⟩;have hki0:i<ks.length:=by rw[hL.1];exact hi
    have hUi0:i<Us.length:=by rw[hL.2.1];exact hi
    obtain⟨kb,ksl,hke,Q,hkn⟩:=hL.2.2 i _ _ _ (ag hki0) (ag hi) (ag hUi0);have hki:ks[i]? =some (some ⟨kb,0,none⟩):=by rw[ag hki0,hke]
    have hUie:Us[i]? =some Us[i]:=ag hUi0;have hUim:Us[i]∈Us:=aY hUi0;have hmem:F.toL[i]∈F.toL:=aY hi;have Y:=hcan.2 _ hmem;obtain⟨a,ha,_,hvv⟩:=hs.at0 hki;have hslen:=hs.len;rw[hL.1]at hslen;have hlt1:(i:Int)<((s.len:Nat):Int):=by omega
    refine⟨⟨by simp only;omega,hlt1⟩,a,ha,some ⟨kb,0,none⟩,hvv,_,rfl,?_⟩;obtain⟨kval,kss,kow,kks,kUs,hkb,_⟩:=hkn.view;refine⟨ksl,dI (i:=0) hkb,T8 hk6 ?_⟩;rw[Q];have hc1:=WL L Y.1 hie.symm;have hcle:=SD k.data.toList F.toL[i].1;have hct:=SB k.data.toList F.toL[i].1;have hcd:=Mq k.data.toList F.toL[i].1;have hll:ksl.size=F.toL[i].1.length:=by rw[←Q];simp
    have hin_m:qt F k.data.toList v→um F.toL[i] k.data.toList v:=fun J=>by
     obtain⟨n',hn',e,hN⟩:=qe hc J;rw[←xV hc hn' hmem (by omega)];exact hN
    have hin_f:um F.toL[i] k.data.toList v→qt F k.data.toList v:=fun J=>fY.2 ⟨_,hmem,J⟩
    have hset:∀{w2:Option ByteArray} {F2:Fo} {nl:List UInt8},nl≠[]→hd nl=hd F.toL[i].1→fU F2→Br (rO w2 F2)→fU (.ofL (F.toL.set i (nl,w2,F2))):=fun h1 B h3 h4=>SE hc hi ⟨h1,(H7 h3).2 h4,h3⟩ B
    have hputs:∀{m:Bn},wq (um F.toL[i]) (um m) k.data.toList v→wq (qt F) (qt (.ofL (F.toL.set i m))) k.data.toList v:=fun hp=>NJ hc hi hie hp
    have hsame:wq (um F.toL[i]) (um F.toL[i]) k.data.toList v→wq (qt F) (qt F) k.data.toList v:=Tz hc hi hie;have H:∀y,Us[i] y→S y:=hUS _ hUim;have hUib:∀y,Us[i] y→y<h.size:=N _ hUim;have hUid:∀j U,j≠i→Us[j]? =some U→Dj Us[i] U:=fun j U hj eU=>hPD i j _ _ (Ne.symm hj) hUie eU
    have nUb:¬Us[i] b:=fun hu=>by
     rcases hown with⟨_,_,_,hS0⟩|⟨_,_,A,_,_,_,hUA⟩
     ·exact hS0 _ (H _ hu)
     ·exact(hUA _ hUim b hu).2 rfl
    generalize F.toL[i]=m at Q hkn Y hc1 hcle hct hcd hll hin_m hin_f hset hputs hsame hie;generalize Us[i]=Ui at hkn hUie hUim H hUib hUid nUb;generalize hcc:cm k.data.toList m.1=c at hc1 hcle hct hcd;obtain⟨lab,wk,Fk⟩:=m;simp only at Q hkn Y hcle hct hcd hll hie hset;refine Join.intro (fun t O=>∃ub Z wu Fu SU,t=some ⟨ub,0,none⟩∧Upd Ui h O∧RxO o (fun y=>W y∨SU y) O ub Z wu Fu SU∧(∀y,SU y→(Ui y∨h.size≤y)∧y<O.size)∧fU Fu∧Z.data.toList=k.data.toList.take c∧(∀k' v',um (Z.data.toList,wu,Fu) k' v'↔um (lab,wk,Fk) k' v')∧(∀w' F',fU F'→wq (rO wu Fu) (rO w' F') (k.data.toList.drop c) v→Br (rO w' F'))∧(Upd No h O∨¬rO wu Fu (k.data.toList.drop c) v)) (fun R hR=>⟨_,rfl,ksl,dI (i:=0) hkb,?_⟩) ?_
    ·refine aM (fun hlt=>?_) fun hge=>?_
     ·have hlt:c<lab.length:=by omega
      have hdne:lab.drop c≠[]:=fun e=>by
       have:=congrArg eL e;rw[aZ,bL]at this;omega
      have hhd:k.data.toList.drop c≠[]→hd (k.data.toList.drop c)≠hd (lab.drop c):=fun hne=>by
       refine hcd ?_ hlt;rcases bO c k.data.toList.length with hl|hl
       ·exact hl
       ·exact absurd (List.drop_eq_nil_of_le hl) hne
      have hcs:fU (.cons (ksl.data.toList.drop c) wk Fk .nil):=by
       rw[Q];exact⟨hdne,Y.2.1,Y.2.2,fun _ h=>by simp[Fo.toL]at h,trivial⟩
      refine Nu hkn t hW (fun y d=>D y (H y d)) hWo (kJ Y.2.2) (c:=c) (by omega) fun h1 ub SU rn hSU p=>hR _ _ ⟨ub,_,none,_,SU,rfl,p,rn,hSU,hcs,?_,?_,?_,.inr ?_⟩
      ·rw[CX,Q,hct]
      ·intro k' v'
       rw[CX,Q];exact KM c k' v'
      ·intro w' F' hcF hp
       rw[Q]at hp;exact WS hdne Y.2.1 Y.2.2 hhd hp
      ·rintro(⟨_,h⟩|J)
       ·cases h
       ·obtain⟨n',hn',e,r',er,_⟩:=qe hcs J
        rw[Q]at hn';simp only[Fo.toL,au]at hn';subst hn';refine hhd (fun e2=>hdne ?_) e.symm
        rw[e2]at er;exact(gX.1 er.symm).1
     ·have hce:c=lab.length:=by omega
      refine hR _ _ ⟨kb,ksl,wk,Fk,Ui,rfl,Upd.refl _ _,hkn.less fun y d=>.inl (d.elim id fun h=>D y (H y h)),fun y d=>⟨.inl d,hUib y d⟩,Y.2.2,?_,?_,?_,.inl (Upd.refl _ _)⟩
      ·rw[Q,hct,hce,cp]
      ·intro k' v';rw[Q]
      ·intro w' F' hcF hp
       exact YE ((H7 Y.2.2).1 Y.2.1) hp
    ·rintro t' h1 ⟨ub,Z,wu,Fu,SU,rfl,p,rn,hSU,hcu,hsl,hinn,hbr,hsp⟩
     refine⟨⟨by omega,by omega⟩,?_⟩
     rw[aX];have hkd:(k.extract c k.size).data.toList=k.data.toList.drop c:=CY ..;have hks:(k.extract c k.size).size=k.size-c:=by simp
     have hktd:k.data.toList=Z.data.toList++k.data.toList.drop c:=by rw[hsl,aS]
     have hslne:Z.data.toList≠[]:=by
      rw[hsl];intro e;have:=congrArg eL e;rw[aP,bL]at this;omega
     have hslhd:hd Z.data.toList=hd lab:=by
      rw[hie];conv=>rhs;rw[hktd]
      rw[qf hslne]
     have z01:=p.size;have tU:∀{M:Nat→Prop} {O:af},Upd M h O→(∀y,M y→Ui y)→By O w' o:=fun ku hM=>t.upd ku fun b e d=>absurd (H _ (hM _ d)) (hwS _ e)
     refine ih (W:=fun y=>W y∨SU y) (S:=SU) (k.extract c k.size) v (by rw[hks];omega) (by rw[hks];omega) rn (tU p fun _ h=>h) (fun y d=>d.elim (fun h=>bG (hW y h) z01) fun h=>(hSU y h).2) (fun y d=>.inr d) (fun a e=>.inl (hWo a e)) (fun a e d=>?_) hcu fun B b2 w2 F2 SV C ch E rn2 hSV hc2 hp2 hsm hch=>?_
     ·rcases(hSU _ d).1 with h|h
      ·exact hwS a e (H _ h)
      ·have:=t.lt e;omega
     rw[hkd]at hp2 hch hsm;have z12:=E.size;have hpn:wq (um (lab,wk,Fk)) (um (Z.data.toList,w2,F2)) k.data.toList v:=by
      have:=VB (TA (lab:=Z.data.toList) hp2) hinn;rw[←hktd]at this;exact this
     have hchg:rO w F k.data.toList v→ch=false:=fun J=>by
      rcases J with⟨h,_⟩|J
      ·exact absurd h L
      ·obtain⟨r,e,hr'⟩:=(hinn _ _).2 (hin_m J)
       simp only at e;rw[hktd]at e;have e2:=eW e;rw[←hktd]at e;exact hch (by rw[e2];exact hr')
     cases ch with
     |false=>
      obtain⟨_,e2,e3,hu20,hin2⟩:=hsm rfl;subst e2 e3;rcases hsp with u01|hn2
      ·have hu02:=u01.tr hu20
       have hsz:=hu02.size;refine aA.2 (hk B b w F S false false hu02.wide ((hr.upd0 hu02).less fun y d=>.inl (d.elim id (D y))) (fun y d=>⟨.inl d,by have:=hSb y d;omega⟩) hc (Ec L (hsame ?_)) (fun _=>⟨rfl,rfl,rfl,hu02,.inr (hin_f ((hinn _ _).1 ⟨_,hktd,hin2⟩))⟩) fun _=>rfl)
       intro k' v';exact(hinn k' v').symm.trans (hpn k' v')
      ·exact absurd hin2 hn2
     |true=>
      refine aj.2 ?_;have ku:Upd Ui h B:=p.trans E fun y d=>(hSU y d).1
      have hSV':∀y,SV y→(Ui y∨h.size≤y)∧y<B.size:=fun y d=>⟨(hSV y d).1.elim (fun h=>(hSU y h).1) fun h=>.inr (by omega),(hSV y d).2⟩
      have hmem2:∀U∈Us.set i SV,U∈Us∨U=SV:=fun U G=>List.mem_or_eq_of_mem_set G
      have hSVm:SV∈Us.set i SV:=aE (i:=i) (by rw[eE,if_pos rfl,if_pos hUi0]);refine mz (W:=W) (S:=S) (Us:=Us.set i SV) (tU ku fun _ h=>h) hWo (ku.get hb nUb) (by rw[hL.1];exact hn) (own2 ku (fun y d=>⟨H y d,_,hUim,d⟩) _ fun U G y d=>?_) fun h3 q s3 A3 b3 ho3 I g hU3 hu3=>?_
      ·rcases hmem2 U G with h|rfl
       ·exact⟨.inl ⟨U,h,d⟩,by have:=N U h y d;omega⟩
       ·exact⟨(hSV' y d).1.imp (fun h=>⟨_,hUim,h⟩) id,(hSV' y d).2⟩
      refine⟨_,rfl,s3,dI (i:=3) b3,?_⟩;obtain⟨a3,ha3,hab,hw3,ho4,hu4⟩:=OwnS.setAt ho3 hki0 (some ⟨b2,0,none⟩);have hlen3:=ho3.len;refine⟨⟨by simp only;omega,by simp only;omega⟩,a3,ha3,?_⟩
      have hw1:Wr h3 (adr a3 (i*1)):=by
       rcases hw3 with hw|⟨q,g,hw⟩
       ·cases hw
       ·cases g;exact hw 0 (by simp)
      refine⟨hw1,ce ?_⟩;have b4:=hu4.get b3 fun e=>by have e:q=a3.block:=e;exact(I _ hab).2.1 e.symm
      have hu24:Upd A3 B _:=hu3.wide.trans hu4 fun x hx=>.inl (by have hx:x=a3.block:=hx;rw[hx];exact hab)
      have u04:Upd (fun y=>Ui y∨A3 y) h _:=(ku.mono fun y d=>.inl (.inl d)).trans hu24 fun x hx=>.inl (.inr hx)
      have eset:ks.set i (some ⟨b2,0,none⟩)=ks.take i++some ⟨b2,0,none⟩::ks.drop (i+1):=by rw[List.set_eq_take_append_cons_drop,if_pos hki0]
      rw[←eset]at ho4;have z3:=hu3.size;have z4:=hu4.size;change K (some ⟨q,0,none⟩,C,true) (g8 h3 (adr a3 (i*1)) 0 (m9 (some ⟨b2,0,none⟩)));generalize g8 h3 (adr a3 (i*1)) 0 (m9 (some ⟨b2,0,none⟩))=h4 at*;have hS2:∀y,SR o q A3 (Us.set i SV) y→(S y∨h.size≤y)∧y<h4.size:=fun y d=>BL (g.imp id fun h=>by omega) (aL b4) (fun y d=>⟨(I y d).1.imp id fun h=>by omega,by have:=(I y d).2.2;omega⟩) (fun U G y hz=>by
       rcases hmem2 U G with h|rfl
       ·exact⟨.inl (hUS U h y hz),by have:=N U h y hz;omega⟩
       ·exact⟨(hSV' y hz).1.imp (H y) id,by have:=(hSV' y hz).2;omega⟩) d
      refine hk h4 q w _ (SR o q A3 (Us.set i SV)) C true (u04.mono fun y d=>?_) (yR b4 hv ho4 (fun y d=>⟨(I y d).2.1,by have:=(I y d).2.2;omega⟩) hU3 (VG hPD fun j U hj eU y d hu=>?_) (by
       rw[Fo.to_of]
       refine LsO.set hL.1 hL.2.1 (fun j k' n' U hj ek en eU=>KidO.move u04 (hL.2.2 j k' n' U ek en eU) (N U (aE eU)) (fun y d=>?_) fun y d=>d.elim .inl fun h=>(hS2 y h).1.imp (D y) id) (KidO.move hu24 ⟨b2,Z,rfl,rfl,rn2⟩ (fun y d=>(hSV y d).2) (fun y d=>?_) fun y d=>?_)
       ·rcases d with h|h
        ·exact .inl ⟨D y (H y h),hUid j U hj eU y h⟩
        ·refine(I y h).1.imp (fun hs=>⟨D y hs,fun hu=>(hU3 U (aE (i:=j) (by rw[eE,if_neg (Ne.symm hj)];exact eU)) y hu).1 h⟩) fun h=>by omega
       ·exact(I y d).1.imp (fun hs=>⟨.inl (.inl (D y hs)),fun hu=>(hU3 SV hSVm y hu).1 d⟩) id
       ·rcases d with h|⟨_,rfl|h|⟨U,G,h⟩⟩
        ·exact .inl (.inl (.inl h))
        ·exact g.imp (fun h=>.inl (.inl (D _ h))) id
        ·exact(I y h).1.imp (fun h=>.inl (.inl (D _ h))) id
        ·rcases hmem2 U G with B|rfl
         ·exact .inl (.inl (.inl (D _ (hUS U B y h))))
         ·exact .inl (.inr h)) (hno' (fun y d=>(I y d).1.imp id fun h=>by omega) (g.imp id fun h=>by omega))) hS2 (hset hslne hslhd hc2 (hbr _ _ hc2 hp2)) (Ec L (hputs hpn)) (fun h=>by cases h) hchg
      ·rcases d with h|h
       ·exact .inl (H y h)
       ·exact(I y h).1.imp id fun h=>by omega
      ·rcases(hSV' y d).1 with h|h
       ·exact hUid j U hj eU y h hu
       ·have:=N U (aE eU) y hu;omega
end Go.Proofs
namespace Go.Proofs
open Go Go.Lift
def Ap:Fo→List (List UInt8×ByteArray)
 | .nil=> []
 | .cons lab w kids rest=>((w.map fun v=>(([]:List UInt8),v)).toList++Ap kids).map (fun p=>(lab++p.1,p.2))++Ap rest
def ng(w:Option ByteArray)(F:Fo):List (List UInt8×ByteArray):=(w.map fun v=>(([]:List UInt8),v)).toList++Ap F
theorem uT:∀{F:Fo} {k:List UInt8} {v:ByteArray},(k,v)∈Ap F↔qt F k v
 | .nil,_,_=>by simp[Ap,qt]
 | .cons lab w kids rest,k,v=>by
  unfold Ap qt;rw[bM,uT (F:=rest)];refine or_congr ?_ vT;rw[iK];constructor
  ·rintro⟨⟨r,u⟩,hm,b⟩
   simp only[rP.injEq]at b;obtain⟨rfl,rfl⟩:=b;refine⟨r,rfl,?_⟩;rcases bM.1 hm with h|h
   ·left
    rw[Option.mem_toList,l9]at h;obtain⟨a,c,b⟩:=h;simp only[rP.injEq]at b;exact⟨b.1.symm,by rw[c,b.2]⟩
   ·exact .inr (uT.1 h)
  ·rintro⟨r,rfl,h⟩
   refine⟨(r,v),bM.2 ?_,rfl⟩;rcases h with⟨rfl,h⟩|h
   ·left;rw[h];simp
   ·exact .inr (uT.2 h)
theorem kB{w:Option ByteArray}{F:Fo}{k:List UInt8}{v:ByteArray}:(k,v)∈ng w F↔rO w F k v:=by
 unfold ng rO;rw[bM,uT];refine or_congr ?_ vT;cases w with
 |none=>simp
 |some u=>simp[Prod.ext_iff,eq_comm]
abbrev Up(l:List (List UInt8×ByteArray)):Prop:=l.Pairwise fun p q=>p.1<q.1
theorem aad{a x y:List UInt8}(h:x<y):a++x<a++y:=by
 induction a with
 |nil=>exact h
 |cons c a ih=>exact List.Lex.cons ih
theorem VX{x y:List UInt8}(c:y≠[])(h:hd x<hd y):x<y:=by
 match x,y,c with
 | [],b::y,_=>exact List.Lex.nil
 |a::x,b::y,_=>exact List.Lex.rel (UInt8.lt_iff_toNat_lt.2 h)
theorem P1:∀{F:Fo},fU F→Up (Ap F)
 | .nil,_=>fc
 | .cons lab w kids rest,h=>by
  unfold Ap;refine cE.2 ⟨?_,P1 h.2.2.2.2,?_⟩
  ·rw[List.pairwise_map]
   refine List.Pairwise.imp (R:=fun p q:List UInt8×ByteArray=>p.1<q.1) (fun j=>aad j) ?_
   refine cE.2 ⟨?_,P1 h.2.2.1,?_⟩
   ·cases w<;>simp
   ·intro a g b f
    have d:b.1≠[]:=pq h.2.2.1 (uT (F:=kids).1 (show(b.1,b.2)∈_ from f))
    have i:a.1= []:=by
     rw[Option.mem_toList,l9]at g;obtain⟨v,_,e⟩:=g;rw[←e]
    rw[i];match b.1,d with
    |c::l,_=>exact List.Lex.nil
  ·intro a g b f
   obtain⟨p,_,rfl⟩:=iK.1 g;obtain⟨n,k,e,_⟩:=qe h.2.2.2.2 (uT (F:=rest).1 (show(b.1,b.2)∈_ from f))
   have d:b.1≠[]:=pq h.2.2.2.2 (uT (F:=rest).1 (show(b.1,b.2)∈_ from f))
   have:=h.2.2.2.1 n k;exact VX d (by rw[qf h.1];omega)
theorem X6{w:Option ByteArray}{F:Fo}(h:fU F):Up (ng w F):=by
 refine cE.2 ⟨by cases w<;>simp,P1 h,?_⟩
 intro a g b i;have d:b.1≠[]:=pq h (uT (F:=F).1 (show(b.1,b.2)∈_ from i))
 have f:a.1= []:=by
  rw[Option.mem_toList,l9]at g;obtain⟨v,_,e⟩:=g;rw[←e]
 rw[f];match b.1,d with
 |c::l,_=>exact List.Lex.nil
theorem U0:∀{l l':List (List UInt8×ByteArray)},Up l→Up l'→(∀p,p∈l↔p∈l')→l=l'
 | [],[],_,_,_=>rfl
 | [],q::l',_,_,h=>absurd ((h q).2 (aC ..)) (by simp)
 |p::l,[],_,_,h=>absurd ((h p).1 (aC ..)) (by simp)
 |p::l,q::l',c,a,h=>by
  have c:=bA.1 c;have a:=bA.1 a;have e:p=q:=by
   rcases aB.1 ((h p).1 (aC ..))with e|d
   ·exact e
   ·rcases aB.1 ((h q).2 (aC ..))with e|f
    ·exact e.symm
    ·exact absurd (List.lt_trans (c.1 q f) (a.1 p d)) (uN _)
  subst e;rw[U0 c.2 a.2 fun z=>?_]
  constructor
  ·intro hz
   rcases aB.1 ((h z).1 (aV _ hz))with e|b
   ·exact absurd (c.1 z hz) (by rw[e];exact uN _)
   ·exact b
  ·intro hz
   rcases aB.1 ((h z).2 (aV _ hz))with e|b
   ·exact absurd (a.1 z hz) (by rw[e];exact uN _)
   ·exact b
def C3:Fo→Nat
 | .nil=>0
 | .cons _ _ kids rest=>1+C3 kids+C3 rest
theorem Gz:∀{F:Fo},fU F→C3 F+F.toL.length≤2*(Ap F).length
 | .nil,_=>by simp[C3,Fo.toL]
 | .cons lab w kids rest,h=>by
  have c:=Gz h.2.2.1;have b:=Gz h.2.2.2.2;have a:=h.2.1;rw[Fo.toL_cons];unfold C3 Ap;rw[ad,bF,ad,aH];cases w with
  |none=>
   simp only[Option.map_none,Option.toList_none,bL];have:2≤kids.toL.length:=a.resolve_left (by simp);omega
  |some v=>simp only[Option.map_some,Option.toList_some,aF];omega
def MO:Fo→Prop
 | .nil=>True
 | .cons lab w kids rest=>lab.length≤10000∧(∀v,w=some v→v.size≤10000)∧kids.toL.length≤256∧MO kids∧MO rest
theorem Qy:∀{F:Fo},fU F→(∀k v,qt F k v→k.length≤10000∧v.size≤10000)→MO F
 | .nil,_,_=>trivial
 | .cons lab w kids rest,h,hl=>by
  obtain⟨r,v,c⟩:=nq h _ (aC ..);have b:=(hl _ v (fY.2 ⟨_,aC ..,r,rfl,c⟩)).1;rw[ad]at b;simp only at b;refine⟨by omega,fun v hv=>(hl lab v (.inl ⟨[],(bB _).symm,.inl ⟨rfl,hv⟩⟩)).2,kJ h.2.2.1,Qy h.2.2.1 fun k v a=>?_,Qy h.2.2.2.2 fun k v a=>hl k v (.inr a)⟩
  have:=hl (lab++k) v (.inl ⟨k,rfl,.inr a⟩);rw[ad]at this;exact⟨by omega,this.2⟩
def vV:Option ByteArray→List UInt8
 |some v=>1::oH v
 |none=> [0]
def te(lab:List UInt8)(w:Option ByteArray)(n:Nat):List UInt8:=oH ⟨lab.toArray⟩++(vV w++np n 2)
def pm:Fo→List UInt8
 | .nil=> []
 | .cons lab w kids rest=>te lab w kids.toL.length++(pm kids++pm rest)
def jf(n:Bn):List UInt8:=te n.1 n.2.1 n.2.2.toL.length++pm n.2.2
theorem yP:∀F:Fo,pm F=F.toL.flatMap jf
 | .nil=>rfl
 | .cons lab w kids rest=>by
  rw[Fo.toL_cons,ba,←yP rest];show te lab w kids.toL.length++(pm kids++pm rest)=(te lab w kids.toL.length++pm kids)++pm rest
  rw[az]
theorem Ku{lab:List UInt8}{w:Option ByteArray}{n:Nat}(b:lab.length≤10000)(a:∀v,w=some v→v.size≤10000):(te lab w n).length≤20010:=by
 unfold te;rw[ad,ad,jG,dM];have e:(kO lab.toArray).size=lab.length:=by simp[ByteArray.size]
 rw[e];cases w with
 |none=>simp only[vV,aF];omega
 |some v=>have:=a v rfl;simp only[vV,aH,jG];omega
theorem Bk:∀{F:Fo},MO F→(pm F).length≤C3 F*20010
 | .nil,_=>by simp[pm]
 | .cons lab w kids rest,h=>by
  have c:=Ku (n:=kids.toL.length) h.1 h.2.1;have a:=Bk h.2.2.2.1;have b:=Bk h.2.2.2.2;unfold pm C3;rw[ad,ad,jF,jF];omega
theorem Kv{lab a:List UInt8}{w w':Option ByteArray}{n f:Nat}{r j:List UInt8}(p:lab.length≤10000)(g:a.length≤10000)(o:∀v,w=some v→v.size≤10000)(d:∀v,w'=some v→v.size≤10000)(s:n≤256)(q:f≤256)(h:te lab w n++r=te a w' f++j):lab=a∧w=w'∧n=f∧r=j:=by
 unfold te at h;simp only[az]at h;have z:∀l:List UInt8,(kO l.toArray).size=l.length:=fun l=>by simp[ByteArray.size]
 obtain⟨c,h⟩:=zO (by rw[z];exact p) (by rw[z];exact g) h;have c:lab=a:=by
  have:=congrArg (fun b:ByteArray=>b.data.toList) c
  simpa using this
 cases w with
 |none=>
  cases w' with
  |none=>
   simp only[vV,dB,List.nil_append,fH.injEq,true_and]at h;obtain⟨i,h⟩:=wI (k:=2) (by omega) (by omega) h;exact⟨c,rfl,i,h⟩
  |some v=>simp[vV]at h
 |some v=>
  cases w' with
  |none=>simp[vV]at h
  |some v'=>
   simp only[vV,dB,fH.injEq,true_and]at h;obtain⟨m,h⟩:=zO (o v rfl) (d v' rfl) h;obtain⟨i,h⟩:=wI (k:=2) (by omega) (by omega) h;exact⟨c,by rw[m],i,h⟩
theorem Bl:∀{F F':Fo} {r r':List UInt8},MO F→MO F'→F.toL.length=F'.toL.length→pm F++r=pm F'++r'→F=F'∧r=r'
 | .nil,.nil,_,_,_,_,_,h=>⟨rfl,h⟩
 | .nil,.cons ..,_,_,_,_,e,_=>by simp[Fo.toL]at e
 | .cons ..,.nil,_,_,_,_,e,_=>by simp[Fo.toL]at e
 | .cons lab w kids rest,.cons lab' w' kids' rest',r,r',h1,h2,e,h=>by
  unfold pm at h;simp only[az]at h;obtain⟨a,d,c,h⟩:=Kv h1.1 h2.1 h1.2.1 h2.2.1 h1.2.2.1 h2.2.2.1 h;obtain⟨b,h⟩:=Bl h1.2.2.2.1 h2.2.2.2.1 c h;obtain⟨f,h⟩:=Bl h1.2.2.2.2 h2.2.2.2.2 (by rw[Fo.toL_cons,Fo.toL_cons]at e;simpa using e) h;exact⟨by rw[a,d,b,f],h⟩
end Go.Proofs
namespace Go.Proofs
open Go Go.Lift
theorem YH{M:Nat→Prop}{h:af}{c:SliceV}{out ys:List UInt8}{vs:List Value}(hv:vs=ys.flatMap pW){n:Nat}(f:n=ys.length){K:SliceV→af→Prop}(m:OwnS pW 1 cK M h c out)(hM:∀b,h.size≤b→M b)(o:out.length+ys.length≤140737488355328)
  (i:∀s' a,OwnS pW 1 cK M a s' (out++ys)→Upd M h a→K s' a):
  ∃xs,SRow (hnew h vs cK) (some (aI h)) (n*1) xs∧AppP (some [.int .u8 0]) 1 1 cK c.a c.len c.cap n xs (hnew h vs cK) K:=by
 subst hv f;have k:=Upd.hnew No h (ys.flatMap pW) cK;have j:OwnS pW 1 cK (fun _=>True) (hnew h (ys.flatMap pW) cK) ⟨some (aI h),ys.length,ys.length⟩ ys:=⟨rfl,sO,ao _,.inr ⟨h.size,[],rfl,trivial,by rw[bB];exact dq ..,by simp⟩⟩
 refine⟨_,(j.sl (W:=No) fun _ _ _ h=>h).srow,?_⟩
 refine AppP.own (ys:=ys) (m.upd k fun _ _ h=>h) rfl rfl (CD _) rfl (by omega) (by omega) (hM _ (by rw[ki];omega)) fun s' a d g=>?_
 exact i s' a d ((Upd.hnew M h _ _).tr g)
def abS(W:Nat→Prop)(n:Bn):Prop:=∀{b:Nat} {sl:ByteArray} {h0 h:af} {M:Nat→Prop} {s:SliceV} {xs:List UInt8},RxN W h0 b sl n.2.1 n.2.2→sl.data.toList=n.1→Upd No h0 h→(∀y,M y→h0.size≤y)→OwnS pW 1 cK M h s xs→(∀y,h.size≤y→M y)→
 xs.length+(jf n).length≤140737488355328→∀{K:SliceV→af→Prop},(∀s' h',OwnS pW 1 cK M h' s' (xs++jf n)→Upd M h h'→K s' h')→HC PG kX [.pointer (some ⟨b,0,none⟩),.slice s.a s.len s.cap] [.c .slice] K h
theorem Vk{W:Nat→Prop}{lab:List UInt8}{w:Option ByteArray}{c:Fo}(hl:lab.length≤10000)(hw:∀v,w=some v→v.size≤10000)(Q:c.toL.length≤256)(ih:∀m∈c.toL,abS W m):abS W (lab,w,c):=by
 intro b sl h0 h M s xs r F hu0 J ho hM hx K P;simp only at r F;have E:(⟨lab.toArray⟩:ByteArray)=sl:=by rw[←F]
 refine As (some ⟨b,0,none⟩) s ?_;unfold tq bH cS bo Cl aK dZ Ze XB;obtain⟨val,s1,ow,ks,X,hv,hs,hcap,hF⟩:=r;have hL:=rB.1 hF;have V:∀{j},Upd M h j→Upd No h0 j:=fun k=>hu0.trans k fun y Z=>.inr (J y Z)
 have blk:∀{j},Upd M h j→j[b]? =some (.cells (zP sl w.isSome val s1 ow) bS (0,0)):=fun k=>(V k).get0 X
 have u:∀{j},Upd M h j→∀y,j.size≤y→M y:=fun k y Z=>hM y (bv k.size Z)
 have hsz:sl.size=lab.length:=by rw[←F];simp
 have z:=hs.len;rw[hL.1]at z;unfold jf at hx P;rw[yP]at hx P;simp only at hx P;rw[ad]at hx;have H:(te lab w c.toL.length).length=2+lab.length+((vV w).length+2):=by
  unfold te;rw[ad,ad,jG,dM,E,hsz]
 refine⟨_,rfl,sl,dI (i:=0) (blk (Upd.refl M h)),?_⟩;refine Gg (W:=No) (ho.sl fun _ _ _ h=>h) ho.cap sl (by omega) (by omega) fun s2 T D hu2=>?_
 have D:=D.more hM;have d:Upd M h T:=hu2.wide;refine Join.intro (fun t j=>OwnS pW 1 cK M j t (xs++oH sl++(vV w))∧Upd M h j) (fun R O=>⟨_,rfl,w.isSome,dI (i:=1) (blk d),?_⟩) ?_
 ·cases w with
  |none=>
   refine aj.2 (ce ?_);refine wQ (b:=0) rfl D (u d) ?_ fun s3 N o f=>O _ _ ⟨o,d.tr f⟩
   rw[ad,jG];simp only[vV,aF]at H;omega
  |some v=>
   have hve:=vw hv v rfl;subst hve;have hvs:=hw val rfl;simp only[vV,aH,jG]at H;have k3:Upd M h (hnew T [.int .u8 1] cK):=d.tr (Upd.hnew M T _ _);refine aA.2 ⟨_,rfl,val,dI (i:=2) (blk d),ce ⟨dI (i:=2) (blk k3),?_⟩⟩;refine wQ (b:=1) rfl D (u d) (by rw[ad,jG];omega) fun s3 N o f=>⟨dI (i:=2) (blk (d.tr f)),?_⟩
   refine Gg (W:=No) (o.sl fun _ _ _ h=>h) o.cap val (by omega) (by rw[ad,ad,jG,aF];omega) fun s4 h4 n A=>O _ _ ⟨?_,(d.tr f).tr A.wide⟩
   have n:=n.more (u (d.tr f));simp only[vV,az,List.singleton_append]at n⊢;exact n
 ·rintro s3 N ⟨o,f⟩
  have e8:Int.fdiv (s1.len:Int) (2^(min (8:Int).toNat (IntKind.bits .i64)))=((c.toL.length>>>8:Nat):Int):=by
   have:(2^(min (8:Int).toNat (IntKind.bits .i64)):Int)=2^8:=rfl;rw[this,z,nx]
  refine Join.intro (fun t j=>OwnS pW 1 cK M j t (xs++te lab w c.toL.length)∧Upd M h j) (fun R O=>⟨_,rfl,s1,dI (i:=3) (blk f),_,rfl,s1,dI (i:=3) (blk f),by omega,?_⟩) ?_
  ·simp only[Bd]
   rw[e8];have k4:Upd M h (hnew N [.int .u8 (IntKind.wrap .u8 (s1.len:Int)),.int .u8 (IntKind.wrap .u8 ((c.toL.length>>>8:Nat):Int))] cK):=f.tr (Upd.hnew M N _ _);refine ce ⟨dI (i:=3) (blk k4),dI (i:=3) (blk k4),?_⟩;refine YH (ys:=np c.toL.length 2) ?_ rfl o (u f) ?_ fun s5 h5 G p=>⟨dI (i:=3) (blk (f.tr p)),dI (i:=3) (blk (f.tr p)),O _ _ ⟨?_,f.tr p⟩⟩
   ·rw[z,IntKind.wrap_u8,IntKind.wrap_u8]
    simp[np,ie]
   ·rw[ad,ad,jG,dM];omega
   ·unfold te
    rw[E,←az,←az];exact G
  ·rintro s4 h4 ⟨n,A⟩
   refine⟨_,rfl,s1,dI (i:=3) (blk A),?_⟩;have hs4:∀{j},Upd M h j→Sl m9 1 W j s1 ks:=fun k=>hs.upd (V k) fun _ h=>h.elim
   refine LoopP.ghost (fun(i:Nat) (t:SliceV×Int) j=>t.2=(i:Int)∧i≤c.toL.length∧OwnS pW 1 cK M j t.1 (xs++te lab w c.toL.length++(c.toL.take i).flatMap jf)∧Upd M h j) (fun i=>c.toL.length-i) 0 ⟨rfl,bj _,by simpa using n,A⟩ ?_
   rintro I i ⟨so,ti⟩ j ⟨e1,hi,B,q⟩ hI;simp only at e1 B;subst e1;have C:∀g:i<c.toL.length,((c.toL.take i).flatMap jf).length+(jf c.toL[i]).length≤(c.toL.flatMap jf).length:=fun g=>by
    have e:c.toL=c.toL.take i++c.toL[i]::c.toL.drop (i+1):=by rw[List.getElem_cons_drop,aS]
    have:=congrArg (fun L=>(List.flatMap jf L).length) e
    simp only[bN,ba,ad]at this;omega
   refine aM (fun g=>?_) fun hge=>?_
   ·have g:i<c.toL.length:=by have:(i:Int)<(s1.len:Int):=g;omega
    obtain⟨kb,ksl,hki,S,hkn⟩:=hL.at g;obtain⟨a,ha,_,Y⟩:=(hs4 q).at0 hki;have hsp:=C g;refine⟨⟨by simp only;omega,by simp only;omega⟩,a,ha,some ⟨kb,0,none⟩,Y,?_⟩
    refine ih _ (aY g) hkn S (V q) J B (u q) (by rw[ad,ad];omega) fun s5 h5 G p=>?_
    rw[cO g (by omega)];refine hI (i+1) _ _ ⟨rfl,g,?_,q.tr p⟩ (by omega);rw[List.take_succ_eq_append_getElem g,bN,ba,List.flatMap_nil,bB,←az];exact G
   ·have hil:i=c.toL.length:=by have:¬(i:Int)<(s1.len:Int):=hge;omega
    subst hil;rw[cp]at B;refine P _ _ ?_ q;rw[←az];exact B
theorem LI{W:Nat→Prop}:∀{F:Fo},MO F→∀n∈F.toL,abS W n
 | .nil,_,n,a=>by simp[Fo.toL]at a
 | .cons lab w kids rest,h,n,a=>by
  rcases aB.1 a with rfl|a
  ·exact Vk h.1 h.2.1 h.2.2.1 (LI h.2.2.2.1)
  ·exact LI h.2.2.2.2 n a
structure RadAt(W:Nat→Prop)(h:af)(b:Nat)(l:List Pr):Prop where
 ex:∃w F,RxN W h b ⟨#[]⟩ w F∧fU F∧∀k v,(k,v)∈ng w F↔∃p∈l,p.1.data.toList=k∧p.2=v
theorem RadAt.upd0{W:Nat→Prop}{h a:af}{b:Nat}{l:List Pr}(k:Upd No h a)(r:RadAt W h b l):RadAt W a b l:=by
 obtain⟨w,F,c,f,d⟩:=r.ex;exact⟨w,F,c.upd0 k,f,d⟩
theorem RadAt.less{W W':Nat→Prop}{h:af}(hm:∀b,W' b→W b∨h.size≤b){b:Nat}{l:List Pr}(r:RadAt W h b l):RadAt W' h b l:=by
 obtain⟨w,F,a,d,c⟩:=r.ex;exact⟨w,F,a.less hm,d,c⟩
theorem RadAt.updM{W M:Nat→Prop}{h a:af}(k:Upd M h a)(hm:∀b,M b→W b∨h.size≤b){b:Nat}{l:List Pr}(r:RadAt W h b l):RadAt W a b l:=by
 obtain⟨w,F,c,f,d⟩:=r.ex;exact⟨w,F,c.updM k hm,f,d⟩
def GP(l:List Pr):List (List UInt8×ByteArray):=l.map fun p=>(p.1.data.toList,p.2)
theorem Zm{l:List Pr}(c:cA l):Up (GP l):=by
 unfold GP Up;rw[List.pairwise_map];refine List.Pairwise.imp (R:=fun p q:Pr=>kl p.1 q.1) (fun{a b} h=>?_) c
 rw[Qe,ByteArray.toList_eq,ByteArray.toList_eq]at h;exact h
theorem LA:∀{l l':List Pr},GP l=GP l'→l=l'
 | [],[],_=>rfl
 | [],_::_,h=>by simp[GP]at h
 |_::_,[],h=>by simp[GP]at h
 |p::l,q::l',h=>by
  unfold GP at h;simp only[List.map_cons,fH.injEq,rP.injEq]at h;obtain⟨⟨c,d⟩,f⟩:=h;have e:p.1=q.1:=by
   generalize p.1=a at c;generalize q.1=b at c;cases a;cases b;exact congrArg kO (iG.1 c)
  rw[LA f,zK e d]
theorem Gi{w:Option ByteArray}{F:Fo}{l:List Pr}(hc:fU F)(b:cA l)(d:∀k v,(k,v)∈ng w F↔∃p∈l,p.1.data.toList=k∧p.2=v):ng w F=GP l:=by
 refine U0 (X6 hc) (Zm b) fun p=>?_
 have:=d p.1 p.2;rw[show(p.1,p.2)=p from rfl]at this
 rw[this];unfold GP;rw[iK];constructor
 ·rintro⟨q,a,c,f⟩;exact⟨q,a,zK c f⟩
 ·rintro⟨q,a,e⟩;rw[←e];exact⟨q,a,rfl,rfl⟩
theorem Vq{w w':Option ByteArray}{F F':Fo}(hc:fU F)(a:fU F')(h:ng w F=ng w' F'):w=w'∧F=F':=by
 have hm:∀k v,rO w F k v↔rO w' F' k v:=fun k v=>by rw[←kB,←kB,h]
 refine⟨Option.ext fun v=>?_,QK hc a fun k v=>?_⟩
 ·have:=hm [] v
  constructor
  ·intro e
   rcases this.1 (.inl ⟨rfl,e⟩)with⟨_,h⟩|h
   ·exact h
   ·exact absurd rfl (pq a h)
  ·intro e
   rcases this.2 (.inl ⟨rfl,e⟩)with⟨_,h⟩|h
   ·exact h
   ·exact absurd rfl (pq hc h)
 ·constructor
  ·intro hi
   rcases(hm k v).1 (.inr hi)with⟨e,_⟩|h
   ·exact absurd e (pq hc hi)
   ·exact h
  ·intro hi
   rcases(hm k v).2 (.inr hi)with⟨e,_⟩|h
   ·exact absurd e (pq a hi)
   ·exact h
end Go.Proofs
namespace Go.Proofs
open Go Go.Lift
theorem rV{p q:Pr}:∀{l:List Pr},cA l→(q∈iV p l↔q=p∨(q∈l∧q.1≠p.1))
 | [],_=>by simp[iV]
 |r::l,c=>by
  have c:=bA.1 c;rw[iv];by_cases d:kl r.1 p.1
  ·have f:r.1≠p.1:=fun e=>by rw[e]at d;exact cM _ d
   rw[if_pos d,aB,aB,rV c.2];constructor
   ·rintro(rfl|h|⟨h,b⟩)
    ·exact .inr ⟨.inl rfl,f⟩
    ·exact .inl h
    ·exact .inr ⟨.inr h,b⟩
   ·rintro(h|⟨h|h,b⟩)
    ·exact .inr (.inl h)
    ·exact .inl h
    ·exact .inr (.inr ⟨h,b⟩)
  ·rw[if_neg d]
   by_cases a:r.1=p.1
   ·rw[if_pos a,aB,aB]
    constructor
    ·rintro(h|h)
     ·exact .inl h
     ·refine .inr ⟨.inr h,fun e=>?_⟩
      have:=c.1 q h;rw[e,a]at this;exact cM _ this
    ·rintro(h|⟨rfl|h,b⟩)
     ·exact .inl h
     ·exact absurd a b
     ·exact .inr h
   ·rw[if_neg a,aB,aB]
    have g:=sH d a;constructor
    ·rintro(h|rfl|h)
     ·exact .inl h
     ·exact .inr ⟨.inl rfl,a⟩
     ·refine .inr ⟨.inr h,fun e=>?_⟩
      have:=jo g (c.1 q h);rw[e]at this;exact cM _ this
    ·rintro(h|⟨rfl|h,b⟩)
     ·exact .inl h
     ·exact .inr (.inl rfl)
     ·exact .inr (.inr h)
def RadRoot(W:Nat→Prop)(h:af)(r:Option Addr)(l:List Pr):Prop:=(r=none∧l= [])∨∃b,r=some ⟨b,0,none⟩∧RadAt W h b l
theorem RadRoot.upd0{W:Nat→Prop}{h a:af}{r:Option Addr}{l:List Pr}(k:Upd No h a)(t:RadRoot W h r l):RadRoot W a r l:=t.imp id fun⟨b,e,t⟩=>⟨b,e,t.upd0 k⟩
theorem pE{a b:ByteArray}:a.data.toList=b.data.toList↔a=b:=by
 constructor
 ·intro h;cases a;cases b;exact congrArg kO (iG.1 h)
 ·rintro rfl;rfl
theorem G9{W:Nat→Prop}{h:af}(c:∀y,W y→y<h.size){K:Option Addr→af→Prop}(a:∀h' b,RadAt W h' b []→Upd No h h'→K (some ⟨b,0,none⟩) h'):HC PG rK [] [.c .ptr] K h:=by
 refine JA ?_;unfold AZ M6;refine ce (a _ h.size ⟨none,.nil,⟨⟨#[]⟩,⟨none,0,0⟩,none,[],dq h YT bS,rfl,Sl.nil p7,⟨ao _,fun hx=>Nat.lt_irrefl _ (c _ hx),mA⟩,rfl⟩,trivial,fun k v=>?_⟩ (Upd.hnew No h _ _))
 simp[ng,Ap]
theorem Tm{W:Nat→Prop}{h:af}{r:Option Addr}{l:List Pr}(t:RadRoot W h r l)(d:∀y,W y→y<h.size){K:Option Addr→af→Prop}(c:∀a b,RadAt W a b l→Upd No h a→(r=some ⟨b,0,none⟩∨r=none)→K (some ⟨b,0,none⟩) a):HC PG nU [.pointer r] [.c .ptr] K h:=by
 refine Dg r ?_;unfold x9;rcases t with⟨rfl,rfl⟩|⟨b,rfl,t⟩
 ·exact aA.2 (G9 d fun a b t f=>c a b t f (.inr rfl))
 ·exact aj.2 (c h b t (Upd.refl _ _) (.inl rfl))
def QT(l:List Pr)(xs:List UInt8):Prop:=∃w F,fU F∧ng w F=GP l∧xs=jf ([],w,F)
theorem y5{w:Option ByteArray}{F:Fo}{l:List Pr}(hc:fU F)(a:ng w F=GP l)(b:Fit l):MO F∧∀v,w=some v→v.size≤10000:=by
 have hm:∀k v,rO w F k v→k.length≤10000∧v.size≤10000:=fun k v hi=>by
  have:=kB.2 hi;rw[a]at this;obtain⟨q,c,e⟩:=iK.1 this;cases e;have:=b q c;exact⟨by simpa using this.1,this.2⟩
 exact⟨Qy hc fun k v hi=>hm k v (.inr hi),fun v hv=>(hm [] v (.inl ⟨rfl,hv⟩)).2⟩
theorem XX{l l':List Pr}{xs a:List UInt8}(h:QT l xs)(m:QT l' a)(j:Fit l)(f:Fit l'):xs=a↔l=l':=by
 obtain⟨w,F,c,e,rfl⟩:=h;obtain⟨w',F',c',e',rfl⟩:=m;have g:=y5 c e j;have i:=y5 c' e' f;constructor
 ·intro hx
  have hx:jf ([],w,F)++ []=jf ([],w',F')++ []:=by rw[hx]
  unfold jf at hx;simp only[az]at hx;obtain⟨_,d,k,hx⟩:=Kv (bj _) (bj _) g.2 i.2 (kJ c) (kJ c') hx;obtain⟨b,_⟩:=Bl g.1 i.1 k hx;exact LA (by rw[←e,←e',d,b])
 ·rintro rfl
  obtain⟨d,b⟩:=Vq c c' (e.trans e'.symm);rw[d,b]
theorem Cz{l:List Pr}{xs:List UInt8}(h:QT l xs)(d:Fit l):xs.length≤20010+2*l.length*20010:=by
 obtain⟨w,F,c,e,rfl⟩:=h;have a:=y5 c e d;have g:=Ku (lab:= []) (n:=F.toL.length) (bj _) a.2;have f:=Bk a.1;have j:=Gz c;have b:=congrArg eL e;unfold ng GP at b;rw[ad,bF]at b;have i:C3 F*20010≤2*l.length*20010:=Nat.mul_le_mul_right _ (by omega);unfold jf;rw[ad];simp only;omega
theorem NB{W:Nat→Prop}{h:af}{b:Nat}{l:List Pr}(t:RadAt W h b l)(i:cA l)(d:Fit l)(q:l.length≤60000){K:SliceV→af→Prop}
  (k:∀s' a xs,QT l xs→OwnS pW 1 cK (fun y=>h.size≤y) a s' xs→Upd No h a→K s' a):HC PG wg [.pointer (some ⟨b,0,none⟩)] [.c .slice] K h:=by
 refine Jz _ ?_;unfold AY;refine aj.2 ?_;obtain⟨w,F,m,c,o⟩:=t.ex;have g:=Gi c i o;have f:=y5 c g d;have hv:QT l (jf ([],w,F)):=⟨w,F,c,g,rfl⟩;have u:=Cz hv d;exact Vk (lab:= []) (bj _) f.2 (kJ c) (LI f.1) (s:=⟨none,0,0⟩) (xs:= []) (M:=fun y=>h.size≤y) m rfl (Upd.refl _ _) (fun _ h=>h) (OwnS.nil sO) (fun _ h=>h) (by rw[bL];omega) fun s' a p j=>k s' a _ hv p (j.mono fun y n=>.inr n)
end Go.Proofs
namespace Go.Proofs
open Go Go.Lift
theorem aN{h:af}{cs:List Value}{t:TypeId}{k:af→Prop}(a:∀h',h'[h.size]? =some (.cells cs.toArray t (0,0))→Upd No h h'→k h'):At (hnew h cs t) k:=
 ce (a _ (dq h cs t) (Upd.hnew No h cs t))
theorem vc{h:af}{b:Nat}{c:Array Value}{t:TypeId}(a:h[b]? =some (.cells c t (0,0))) (i:Nat):aR h (adr ⟨b,0,none⟩ i)=c[i]?:=by rw[cd,aU];exact bI a
theorem ga{h:af}{b:Nat}{c:Array Value}{t:TypeId}(a:h[b]? =some (.cells c t (0,0))) (i j:Nat):aR h (adr (adr ⟨b,0,none⟩ i) j)=c[i+j]?:=by rw[cd,cd,aU];exact bI a
theorem kU{h:af}{b i:Nat}{c c':Array Value}{t:TypeId}{v:Value}{k:af→Prop}(f:h[b]? =some (.cells c t (0,0))) (hi:i<c.size) (e:c.setIfInBounds i v=c') (j:∀a,a[b]? =some (.cells c' t (0,0))→Upd (· =b) h a→k a):Wr h (adr ⟨b,0,none⟩ i)∧At (hset h (adr ⟨b,0,none⟩ i) v) k:=by
 rw[cd,aU];exact⟨jd f hi,xW f fun a d g=>j a (e▸d) g⟩
theorem _root_.Go.Lift.Upd.own{h c a:af}{b:Nat}(k:Upd No h c)(d:Upd (· =b) c a)(f:h.size≤b):Upd No h a:=k.trans d fun x hx=>.inr (by have hx:x=b:=hx;omega)
theorem _root_.Go.Lift.Upd.oth{h d:af}{b c:Nat}{o:Obj}(f:Upd (· =b) h d)(hc:h[c]? =some o) (a:c≠b):d[c]? =some o:=f.get hc a
abbrev Tr:=Int×Int×Int×Int×(Option Addr)×(Option Addr)
abbrev lD(t:Tr):List Value:= [.int .i64 t.1,.int .u64 t.2.1,.int .u64 t.2.2.1,.int .u64 t.2.2.2.1,.pointer t.2.2.2.2.1,.pointer t.2.2.2.2.2]
abbrev Jb(t:Tr):Value:=.agg #[.int .i64 t.1,.int .u64 t.2.1,.int .u64 t.2.2.1,.int .u64 t.2.2.2.1,.pointer t.2.2.2.2.1,.pointer t.2.2.2.2.2]
def Pro(W:Nat→Prop)(h a:af)(y:Nat):Prop:=W y∨(h.size≤y∧y<a.size)
theorem Pro.lt{W:Nat→Prop}{h a:af}(b:∀y,W y→y<h.size)(k:Upd No h a):∀y,Pro W h a y→y<a.size:=fun y c=>c.elim (fun h=>bG (b y h) k.size) fun h=>h.2
theorem Pro.hm{W:Nat→Prop}{h a:af}:∀y,Pro W h a y→W y∨h.size≤y:=fun _ b=>b.imp id fun h=>h.1
theorem Pro.sub{W:Nat→Prop}{h a b:af}:∀y,W y→Pro W h a y∨b.size≤y:=fun _ c=>.inl (.inl c)
theorem RootAt.less{W W':Nat→Prop}{x:Hs}{h:af}(hm:∀b,W' b→W b∨h.size≤b){r:Option Addr}{l:List Pr}(t:RootAt W x h r l):RootAt W' x h r l:=t.imp id fun⟨b,e,t⟩=>⟨b,e,TrieAt.less hm t⟩
theorem RadRoot.less{W W':Nat→Prop}{h:af}(hm:∀b,W' b→W b∨h.size≤b){r:Option Addr}{l:List Pr}(t:RadRoot W h r l):RadRoot W' h r l:=t.imp id fun⟨b,e,t⟩=>⟨b,e,t.less hm⟩
def TreeIs(W:Nat→Prop)(h:af)(a:Int)(x:Hs)(t:Tr)(l:List Pr):Prop:=(a=0∧∃b,t=(0,x.k0,x.k1,x.mask,some ⟨b,0,none⟩,none)∧TrieAt W x h 13 b l)∨(a=1∧∃b,t=(1,0,0,0,none,some ⟨b,0,none⟩)∧RadAt W h b l)
theorem TreeIs.upd0{W:Nat→Prop}{h d:af}{a:Int}{x:Hs}{t:Tr}{l:List Pr}(k:Upd No h d)(i:TreeIs W h a x t l):TreeIs W d a x t l:=
 i.imp (fun⟨e,b,c,t⟩=>⟨e,b,c,TrieAt.upd0 k t⟩) fun⟨e,b,c,t⟩=>⟨e,b,c,t.upd0 k⟩
theorem TreeIs.less{W W':Nat→Prop}{h:af}(hm:∀b,W' b→W b∨h.size≤b){a:Int}{x:Hs}{t:Tr}{l:List Pr}(i:TreeIs W h a x t l):TreeIs W' h a x t l:=
 i.imp (fun⟨e,b,c,t⟩=>⟨e,b,c,TrieAt.less hm t⟩) fun⟨e,b,c,t⟩=>⟨e,b,c,t.less hm⟩
theorem TreeIs.updM{W M:Nat→Prop}{h d:af}(k:Upd M h d)(hm:∀b,M b→W b∨h.size≤b){a:Int}{x:Hs}{t:Tr}{l:List Pr}(i:TreeIs W h a x t l):TreeIs W d a x t l:=
 i.imp (fun⟨e,b,c,t⟩=>⟨e,b,c,TrieAt.updM k hm t⟩) fun⟨e,b,c,t⟩=>⟨e,b,c,t.updM k hm⟩
theorem TreeIs.pro{W:Nat→Prop}{h b:af}(k:Upd No h b){a:Int}{x:Hs}{t:Tr}{l:List Pr}(i:TreeIs W h a x t l):TreeIs (Pro W h b) b a x t l:=(i.less Pro.hm).upd0 k
theorem Jp{W:Nat→Prop}{x:Hs}{h:af}(g:∀y,W y→y<h.size){K:Option Addr→af→Prop}(f:∀a b,TrieAt W x a 13 b []→Upd No h a→K (some ⟨b,0,none⟩) a):HC PG oN [] [.c .ptr] K h:=by
 refine AP ?_;unfold wz;exact tD g fun a b c d=>f a b (Nf c) d
abbrev yF:Tr:=(0,0,0,0,none,none)
theorem Nj{W:Nat→Prop}{x:Hs}{h:af}{r:Option Addr}{l:List Pr}(t:RootAt W x h r l)(v:∀y,W y→y<h.size){K:Tr→af→Prop}(s:∀g t,TreeIs W g 0 x t l→Upd No h g→K t g):HC PG ue [.agg #[.int .u64 x.k0,.int .u64 x.k1,.int .u64 x.mask],.pointer r] [.agg [.int .i64,.int .u64,.int .u64,.int .u64,.ptr,.ptr]] K h:=by
 refine Ih (x.k0,x.k1,x.mask) r ?_;unfold zC aq eX CC bD aQ uO Cm;refine aN fun o b1 k1=>aN fun m b2 n=>?_
 have z:=aL b1;have A:=aL b2;have d:=k1.tr n;refine Join.intro (fun t g=>Upd No m g∧∃b,t=some ⟨b,0,none⟩∧TrieAt (Pro W h m) x g 13 b l) (fun R k=>?_) ?_
 ·rcases t with⟨rfl,rfl⟩|⟨b,rfl,t⟩
  ·exact aA.2 (Jp (Pro.lt v d) fun w b t a=>k _ _ ⟨a,b,rfl,t⟩)
  ·exact aj.2 (k _ _ ⟨Upd.refl _ _,b,rfl,TrieAt.upd0 d (TrieAt.less Pro.hm t)⟩)
 ·rintro q w ⟨a,b,rfl,q⟩
  have c1:=a.get0 (n.get0 b1);refine⟨_,vc c1 0,_,vc c1 1,_,vc c1 2,?_⟩;refine cW (c:=lD yF) (vs:=lD (0,x.k0,x.k1,x.mask,some ⟨b,0,none⟩,none)) (a.get0 b2) rfl fun u f i=>?_
  refine⟨_,vc f 0,_,vc f 1,_,vc f 2,_,vc f 3,_,vc f 4,_,vc f 5,?_⟩;have j:h.size≤o.size:=k1.size;exact s u _ (.inl ⟨rfl,b,rfl,TrieAt.less Pro.sub (TrieAt.updM i (fun y p=>.inl (.inr (by have p:y=o.size:=p;omega))) q)⟩) ((d.tr a).own i j)
theorem Ni{W:Nat→Prop}{x:Hs}{h:af}{r:Option Addr}{l:List Pr}(t:RadRoot W h r l)(q:∀y,W y→y<h.size){K:Tr→af→Prop}(o:∀g t,TreeIs W g 1 x t l→Upd No h g→K t g):HC PG ud [.pointer r] [.agg [.int .i64,.int .u64,.int .u64,.int .u64,.ptr,.ptr]] K h:=by
 refine Ig r ?_;unfold zB aq eX bD aQ uO Cm;refine aN fun k b2 d=>?_
 have u:=aL b2;refine Join.intro (fun t g=>Upd No k g∧∃b,t=some ⟨b,0,none⟩∧RadAt (Pro W h k) g b l) (fun R j=>?_) ?_
 ·rcases t with⟨rfl,rfl⟩|⟨b,rfl,t⟩
  ·exact aA.2 (G9 (Pro.lt q d) fun s b t a=>j _ _ ⟨a,b,rfl,t⟩)
  ·exact aj.2 (j _ _ ⟨Upd.refl _ _,b,rfl,(t.less Pro.hm).upd0 d⟩)
 ·rintro n s ⟨a,b,rfl,n⟩
  refine cW (c:=lD yF) (vs:=lD (1,0,0,0,none,some ⟨b,0,none⟩)) (a.get0 b2) rfl fun p f i=>?_
  refine⟨_,vc f 0,_,vc f 1,_,vc f 2,_,vc f 3,_,vc f 4,_,vc f 5,?_⟩;exact o p _ (.inr ⟨rfl,b,rfl,(n.updM i (fun y m=>.inl (.inr (by have m:y=h.size:=m;omega)))).less Pro.sub⟩) ((d.tr a).own i (ao _))
theorem RM{W:Nat→Prop}{x:Hs}{h:af}(u:∀y,W y→y<h.size){a:Int}(o:a=0∨a=1){K:Tr×Int→af→Prop}(p:∀h' t,TreeIs W h' a x t []→Upd No h h'→K (t,0) h'):HC PG xF [.int .i64 a,.agg #[.int .u64 x.k0,.int .u64 x.k1,.int .u64 x.mask]] [.agg [.int .i64,.int .u64,.int .u64,.int .u64,.ptr,.ptr],.c (.int .i64)] K h:=by
 refine QZ a (x.k0,x.k1,x.mask) ?_;unfold Iw aq eX CC yg bD aQ uO rF;refine aN fun n b1 k1=>aN fun q b2 s=>?_
 have w:=aL b1;have z:=aL b2;have g:=k1.tr s;have i:h.size≤n.size:=k1.size;have c1:=s.get0 b1;rcases o with rfl|rfl
 ·refine aA.2 ⟨_,vc c1 0,_,vc c1 1,_,vc c1 2,?_⟩
  refine Nj (W:=Pro W h q) (x:=x) (l:= []) (.inl ⟨rfl,rfl⟩) (Pro.lt u g) fun v t m f=>?_
  refine cW (c:=lD yF) (vs:=lD t) (f.get0 b2) rfl fun k b d=>?_
  refine⟨_,vc b 0,_,vc b 1,_,vc b 2,_,vc b 3,_,vc b 4,_,vc b 5,?_⟩;exact p k t ((m.updM d (fun y j=>.inl (.inr (by have j:y=n.size:=j;omega)))).less Pro.sub) ((g.tr f).own d i)
 ·refine aj.2 (aA.2 ?_)
  refine Ni (W:=Pro W h q) (x:=x) (l:= []) (.inl ⟨rfl,rfl⟩) (Pro.lt u g) fun v t m f=>?_
  refine cW (c:=lD yF) (vs:=lD t) (f.get0 b2) rfl fun k b d=>?_
  refine⟨_,vc b 0,_,vc b 1,_,vc b 2,_,vc b 3,_,vc b 4,_,vc b 5,?_⟩;exact p k t ((m.updM d (fun y j=>.inl (.inr (by have j:y=n.size:=j;omega)))).less Pro.sub) ((g.tr f).own d i)
end Go.Proofs
namespace Go.Proofs
open Go Go.Lift
def qM(k:ByteArray)(l:List Pr):List Pr:=l.filter fun q=>decide (q.1≠k)
theorem Ae(k:ByteArray)(q:Pr)(l:List Pr):qM k (q::l)=if q.1=k then qM k l else q::qM k l:=by
 unfold qM;rw[List.filter_cons];by_cases h:q.1=k
 ·rw[if_pos h,if_neg (by simpa using h)]
 ·rw[if_neg h,if_pos (by simpa using h)]
theorem zo{k:ByteArray}{l:List Pr}(h:∀q∈l,q.1≠k):qM k l=l:=gd.2 fun q a=>decide_eq_true (h q a)
theorem Cq{k:ByteArray}{l:List Pr}(h:cI l k=false):∀q∈l,q.1≠k:=fun q a e=>by
 have:cI l k=true:=cL.2 ⟨q,a,decide_eq_true e⟩;rw[h]at this;cases this
theorem CH{k:ByteArray}{l:List Pr}(h:∀q∈l,q.1≠k):cI l k=false:=by
 rcases ht:cI l k with _|_
 ·rfl
 ·obtain⟨q,a,e⟩:=cL.1 ht
  exact absurd (of_decide_eq_true e) (h q a)
theorem Kg{k:ByteArray}{l:List Pr}(a:cA l):cA (qM k l):=a.sublist List.filter_sublist
theorem Gq{k:ByteArray}{l:List Pr}{p:Pr}:p∈qM k l↔p∈l∧p.1≠k:=by unfold qM;rw[List.mem_filter,decide_eq_true_iff]
theorem WF{k:ByteArray}{l:List Pr}:(qM k l).length≤l.length:=List.length_filter_le ..
theorem Su{k:ByteArray}:∀{l:List Pr},cA l→l.length≤(qM k l).length+1
 | [],_=>bj _
 |q::l,a=>by
  have a:=bA.1 a;rw[Ae];by_cases h:q.1=k
  ·rw[if_pos h,zo fun r hm e=>by have:=a.1 r hm;rw[h,e]at this;exact cM _ this];exact ao _
  ·rw[if_neg h]
   have:=Su (k:=k) a.2;simp only[aH];omega
theorem Sv(k:ByteArray):∀{l:List Pr},cA l→T7 l k=qM k l
 | [],_=>by simp[T7,qM,cI]
 |q::l,c=>by
  have m:=c;have c:=bA.1 c;have b:pp (q::l) k=if kl q.1 k then pp l k+1 else 0:=by
   unfold pp;rw[List.takeWhile_cons];by_cases h:kl q.1 k
   ·rw[if_pos (by simpa using h),if_pos h];rfl
   ·rw[if_neg (by simpa using h),if_neg h];rfl
  have f:cI (q::l) k=(decide (q.1=k)||cI l k):=by unfold cI;rw[List.any_cons]
  by_cases h:kl q.1 k
  ·have d:q.1≠k:=fun e=>by rw[e]at h;exact cM _ h
   rw[Ae,if_neg d,←Sv k c.2];unfold T7;rw[f,b,if_pos h,decide_eq_false d,Bool.false_or];by_cases i:cI l k=true
   ·rw[if_pos i,if_pos i];rfl
   ·rw[if_neg i,if_neg i]
  ·by_cases e:q.1=k
   ·have a:∀r∈l,r.1≠k:=fun r hm g=>by have:=c.1 r hm;rw[e,g]at this;exact cM _ this
    rw[Ae,if_pos e,zo a];unfold T7;rw[f,b,if_neg h,decide_eq_true e,Bool.true_or,if_pos rfl];rfl
   ·have j:=sH h e
    have a:∀r∈q::l,r.1≠k:=fun r hm g=>by
     rcases aB.1 hm with rfl|hm
     ·exact e g
     ·have:=c.1 r hm
      rw[g]at this;exact cM _ (jo j this)
    rw[zo a];unfold T7;rw[CH a];rfl
theorem NP{x:Hs}{lev c:Nat}{k:ByteArray}{l:List Pr}:part x lev c (qM k l)=qM k (part x lev c l):=by
 unfold part qM;rw[List.filter_filter,List.filter_filter];exact List.filter_congr fun p _=>Bool.and_comm ..
theorem TG{x:Hs}{lev c:Nat}{k:ByteArray}{l:List Pr}(h:c≠ck x lev k):part x lev c (qM k l)=part x lev c l:=by
 rw[NP];exact zo fun q a e=>h (by rw[←e];exact(mh.1 a).2.symm)
theorem Sm{β:Type}(g:Nat→Option β):∀n,(fm g n).length=((List.range n).map fun c=>(g c).toList.length).sum
 |0=>rfl
 |n+1=>by
  rw[gP,ad,Sm g n,ie,List.map_append,List.sum_append];simp
theorem Np{x:Hs}{lev:Nat}{l:List Pr}(h:∀c,c<32→(part x lev c l).length≤1):(gi x lev l).length=l.length:=by
 unfold gi;rw[Sm];have e:=tR x lev l 32;have d:(l.filter fun p=>decide (ck x lev p.1<32))=l:=gd.2 fun p _=>decide_eq_true (zq x lev p.1)
 rw[d]at e;rw[←e];refine congrArg List.sum (List.map_congr_left fun c hc=>?_)
 have:=h c (gq.1 hc);match hp:part x lev c l with
 | []=>rfl
 | [p]=>rfl
 |a::b::r=>rw[hp]at this;simp at this
theorem Pn{W:Nat→Prop}{x:Hs}{h:af}{m b:Nat}{l:List Pr}(t:TrieAt W x h m b l)(D:l.length≤1000000):
  ∃d n sp sk bu ow lp lk,h[b]? =some (.cells (gj d n sp sk bu ow) cj (0,0))∧Sl fe 2 W h sp lp∧Sl rG 1 W h sk lk∧lp.length≤1000000∧lk.length≤32∧(lp.length+lk.length=1∧n=0↔l.length=1)∧∀p,l= [p]→lp= [p]:=by
 cases m with
 |zero=>
  obtain⟨sp,sk,ow,v,f,i,_⟩:=BuckAt.ex t;exact⟨0,0,sp,sk,true,ow,l,[],v,f,i,D,by simp,by simp,fun p e=>e⟩
 |succ m=>
  obtain⟨s,C,o⟩:=t;have o:∀c,c<32→SlotIs W x h m s c (part x (12-m) c l):=o;obtain⟨d,n,sp,sk,ow,v,bits,f,i,_⟩:=C.ex;have k:=Cu o;have B:=yi (g:=s.p);refine⟨d,n,sp,sk,false,ow,_,_,v,f,i,by omega,yi,?_,?_⟩
  ·by_cases u:∀c,c<32→s.k c=none
   ·have w:n=0:=Nat.eq_of_testBit_eq fun c=>by
     rw[gG];by_cases hc:c<32
     ·rw[bits.nk c hc,u c hc];rfl
     ·exact Nat.testBit_lt_two_pow (bG bits.n32 (Nat.pow_le_pow_right (n:=2) (by omega) (by omega:32≤c)))
    have ek:fm s.k 32= []:=by
     unfold fm;rw[List.filterMap_eq_nil_iff];exact fun c hc=>u c (gq.1 hc)
    have el:(fm s.p 32).length=l.length:=by
     rw[k];refine Np fun c hc=>?_
     rcases o c hc with⟨j,_⟩|⟨p,j,_⟩|⟨_,_,E,z,_⟩
     ·rw[j];simp
     ·rw[j];simp
     ·rw[u c hc]at z;cases z
    rw[ek,el,w];simp
   ·obtain⟨c,hc⟩:=Classical.not_forall.1 u
    obtain⟨hc,a⟩:=Classical.not_imp.1 hc;have A:n≠0:=fun w=>by
     have:=bits.nk c hc;rw[w,gG]at this;cases hkk:s.k c with
     |none=>exact a hkk
     |some y=>rw[hkk]at this;cases this
    rcases o c hc with⟨_,_,j⟩|⟨p,_,_,j⟩|⟨z,_⟩
    ·exact absurd j a
    ·exact absurd j a
    ·have:=kz (x:=x) (lev:=12-m) (c:=c) (l:=l)
     constructor
     ·rintro⟨_,e⟩;exact absurd e A
     ·intro e;omega
  ·rintro p rfl
   rw[k];have hc:=zq x (12-m) p.1;have el:(gi x (12-m) [p]).length=1:=Np fun c _=>bv kz (by simp)
   match hq:gi x (12-m) [p],el with
   | [q],_=>
    have:q∈gi x (12-m) [p]:=by rw[hq];exact au.2 rfl
    rw[au.1 (qZ this)]
theorem Yd{h:af}{b d n:Nat}{sp sk:SliceV}{f:Bool}{ow:Option Addr}(a:h[b]? =some (.cells (gj d n sp sk f ow) cj (0,0))) (g:sp.len+sk.len≤1000000000) {K:Int→af→Prop} (c:K ((sp.len+sk.len:Nat):Int) h):HC PG mn [.pointer (some ⟨b,0,none⟩)] [.c (.int .i64)] K h:=by
 refine yq _ ?_;unfold sS aK;refine aj.2 ⟨_,rfl,sp,fh (i:=2) a,_,rfl,sk,fh (i:=3) a,?_⟩;have e:IntKind.wrap .i64 ((sp.len:Int)+(sk.len:Int))=((sp.len+sk.len:Nat):Int):=by rw[jj (by omega)];omega
 rw[e];exact c
theorem W5{W:Nat→Prop}{x:Hs}{h:af}{m b:Nat}{l:List Pr}(t:TrieAt W x h m b l)(J:l.length≤1000000){K:Pr×Bool→af→Prop}
  (v:∀j p,Upd No h j→(l.length=1→l= [p])→K (p,decide (l.length=1)) j):HC PG wm [.pointer (some ⟨b,0,none⟩)] [.agg [.str,.str],.c .bool] K h:=by
 refine JG _ ?_;unfold A9 cS bo aD eX jm lf;refine aN fun E b1 k1=>?_
 have H:=TrieAt.upd0 k1 t;obtain⟨d,n,sp,sk,O,ow,L,lk,C,o,B,G,F,c,f⟩:=Pn H J;have N:=o.len;have P:=B.len;refine Join.intro (fun t j=>t= !decide (l.length=1)∧j=E) (fun R D=>?_) ?_
 ·refine Yd C (by omega) ?_
  by_cases e:sp.len+sk.len=1
  ·have w:((sp.len+sk.len:Nat):Int)=1:=by omega
   rw[w];refine aj.2 (CG C (D _ _ ⟨?_,rfl⟩));by_cases A:n=0
   ·rw[decide_eq_true (c.1 ⟨by omega,A⟩),A];rfl
   ·rw[decide_eq_false fun h=>A (c.2 h).2]
    exact bne_iff_ne.2 (by omega)
  ·have w:(((sp.len+sk.len:Nat):Int) !=(1:Int))=true:=bne_iff_ne.2 (by omega)
   rw[w];refine aA.2 (D _ _ ⟨?_,rfl⟩);rw[decide_eq_false fun h=>e (by have:=(c.2 h).1;omega)];rfl
 ·rintro _ j ⟨rfl,rfl⟩
  have s:j[h.size]? =some (.cells #[.string Ln.1,.string Ln.2] ay (0,0)):=b1;by_cases e:l.length=1
  ·rw[decide_eq_true e]
   refine aj.2 ?_;refine qd C o (by omega) fun s2 M q u=>?_
   match l,e,f with
   | [p],e,f=>
    have y:=f p rfl;subst y;have k:=q.len;obtain⟨a,I,_,hv⟩:=(q.sl (W:=No) fun _ _ _ h=>h).at (i:=0) (x:=p) rfl
    refine⟨⟨by omega,by simp at k;omega⟩,a,I,p.1,hv 0 _ rfl,p.2,hv 1 _ rfl,?_⟩
    refine Fb (p:=p) (u.get0 s) fun z b3 g=>⟨_,vc b3 0,_,vc b3 1,?_⟩
    have:=v z p ((k1.tr u).own g (ao _)) fun _=>rfl
    exact this
  ·have:=v
   rw[decide_eq_false e];rw[decide_eq_false e]at v;refine aA.2 (Fb (p:=Ln) s fun z b3 g=>⟨_,vc b3 0,_,vc b3 1,?_⟩)
   exact v z _ (k1.own g (ao _)) fun h=>absurd h e
end Go.Proofs
namespace Go.Proofs
open Go Go.Lift
theorem NS{h:af}{s:SliceV}{l:List Pr}(g:Sl fe 2 No h s l)(hc:s.len≤s.cap)(w:cA l)(G:l.length≤1000000000)(k:ByteArray)
  {K:SliceV→af→Prop}(z:∀s' h',OwnS fe 2 ay (fun b=>h.size≤b) h' s' (qM k l)→Upd No h h'→K s' h'):HC PG zi [.slice s.a s.len s.cap,.string k] [.c .slice] K h:=by
 refine OV s k ?_;unfold FP Cl;have c:=g.len;refine Mc g w G k fun o a=>?_
 have H:=VE l k;cases ht:cI l k with
 |false=>
  refine aA.2 (Ah (g.upd a fun _ h=>h.elim) (by omega) fun s3 J q p=>?_)
  rw[zo (Cq ht)]at z;exact z _ _ (q.more fun b y=>bv a.size y) (a.tr p)
 |true=>
  obtain⟨E,_⟩:=LW w ht;have ew:IntKind.wrap .i64 ((pp l k:Int)+1)=((pp l k+1:Nat):Int):=by rw[jj (by omega)];omega
  refine aj.2 ?_;simp only;rw[ew];refine⟨by omega,by omega,?_⟩
  simp only[Bd,aX];refine ce ?_;have f:=g.upd a fun _ h=>h.elim
  have u:=Upd.hnew No o [.slice (bq s.a 0 s.cap 2) (pp l k-0) (s.cap-0),.slice (bq s.a (pp l k+1) s.cap 2) (s.len-(pp l k+1)) (s.cap-(pp l k+1))] dL;have D:=dq o [.slice (bq s.a 0 s.cap 2) (pp l k-0) (s.cap-0),.slice (bq s.a (pp l k+1) s.cap 2) (s.len-(pp l k+1)) (s.cap-(pp l k+1))] dL;have C:=LH f (i:=0) (j:=pp l k) (m:=s.cap) (bj _) H (by omega) (s.cap-0)
  have A:=LH f (i:=pp l k+1) (j:=l.length) (m:=s.cap) (by omega) (ao _) (by omega) (s.cap-(pp l k+1));rw[←c]at A;rw[List.drop_zero]at C;rw[List.take_of_length_le (by rw[aZ];omega)]at A;have F:qM k l= [l.take (pp l k-0),l.drop (pp l k+1)].flatten:=by rw[←Sv k w];unfold T7;rw[if_pos ht];simp
  refine K2 (s:=⟨some (aI o),2,2⟩) (vs:= [⟨bq s.a 0 s.cap 2,pp l k-0,s.cap-0⟩,⟨bq s.a (pp l k+1) s.cap 2,s.len-(pp l k+1),s.cap-(pp l k+1)⟩]) (ls:= [l.take (pp l k-0),l.drop (pp l k+1)])
   ⟨rfl,fun x=>⟨rfl,Nat.one_pos⟩,fun _=>⟨_,rfl,fun h=>h.elim,rC D fun i v hv=>by simpa[abv]using hv⟩⟩ ⟨C.upd u fun _ h=>h.elim,A.upd u fun _ h=>h.elim,trivial⟩ ?_ (by simp) fun L I d n=>?_
  ·simp only[List.flatten_cons,List.flatten_nil,ad,aP,aZ,bL];omega
  ·rw[←F]at d
   have B:=a.tr u;exact z _ _ (d.more fun b y=>bv B.size y) (B.tr n)
end Go.Proofs
namespace Go.Proofs
def vQ(P a:List UInt8→ByteArray→Prop)(k:List UInt8):Prop:=∀k' v',a k' v'↔k'≠k∧P k' v'
theorem QC{P:List UInt8→ByteArray→Prop}{k:List UInt8}(h:∀v,¬P k v):vQ P P k:=fun k' b=>⟨fun a=>⟨fun e=>h b (e▸a),a⟩,fun h=>h.2⟩
theorem QB{w:Option ByteArray}{F:Fo}(h:fU F):vQ (rO w F) (rO none F) []:=by
 intro k' a;unfold rO;constructor
 ·rintro(⟨_,f⟩|hi)
  ·cases f
  ·exact⟨pq h hi,.inr hi⟩
 ·rintro⟨e,⟨f,_⟩|hi⟩
  ·exact absurd f e
  ·exact .inr hi
theorem HT{w:Option ByteArray}{F F':Fo}{k:List UInt8}(a:k≠[])(h:vQ (qt F) (qt F') k):vQ (rO w F) (rO w F') k:=by
 intro k' b;unfold rO;rw[h k' b];constructor
 ·rintro(⟨e,f⟩|hi)
  ·exact⟨fun e'=>a (e'.symm.trans e),.inl ⟨e,f⟩⟩
  ·exact⟨hi.1,.inr hi.2⟩
 ·rintro⟨e,hi|hi⟩
  ·exact .inl hi
  ·exact .inr ⟨e,hi⟩
theorem QD{lab r:List UInt8}{w w':Option ByteArray}{F F':Fo}(h:vQ (rO w F) (rO w' F') r):vQ (um (lab,w,F)) (um (lab,w',F')) (lab++r):=by
 intro k' c;constructor
 ·rintro⟨s,e,a⟩
  obtain⟨b,d⟩:=(h s c).1 a;exact⟨fun e'=>b (eW (e.symm.trans e')),s,e,d⟩
 ·rintro⟨b,s,e,a⟩
  exact⟨s,e,(h s c).2 ⟨fun e'=>b (by rw[e,e']),a⟩⟩
theorem T0{F:Fo}{i:Nat}{m:Bn}{k:List UInt8}(h:fU F)(hi:i<F.toL.length)(ek:hd F.toL[i].1=hd k)(f:vQ (um F.toL[i]) (um m) k):vQ (qt F) (qt (.ofL (F.toL.set i m))) k:=by
 intro k' g;have hc:=fi.1 h;rw[fY,fY,Fo.to_of];constructor
 ·rintro⟨n,a,b⟩
  rcases(ni hi (xB h hi)).1 a with rfl|⟨a,c⟩
  ·obtain⟨d,j⟩:=(f k' g).1 b
   exact⟨d,_,aY hi,j⟩
  ·refine⟨fun e=>c ?_,n,a,b⟩
   obtain⟨r,e',_⟩:=b;refine xV h a (aY hi) ?_;rw[ek,←e,e',qf (hc.2 n a).1]
 ·rintro⟨d,n,a,b⟩
  by_cases e:n=F.toL[i]
  ·exact⟨m,(ni hi (xB h hi)).2 (.inl rfl),(f k' g).2 ⟨d,by rw[←e];exact b⟩⟩
  ·exact⟨n,(ni hi (xB h hi)).2 (.inr ⟨a,e⟩),b⟩
theorem Fh{α:Type}{l:List α}{i:Nat}(hi:i<l.length){x:α}(d:∀j (a:j<l.length),j≠i→l[j]≠l[i]):x∈l.take i++l.drop (i+1)↔x∈l∧x≠l[i]:=by
 constructor
 ·intro h
  rcases bM.1 h with h|h
  ·obtain⟨j,a,e⟩:=bV h
   rw[aP]at a;rw[qG]at e;exact⟨iS h,by rw[←e];exact d j (by omega) (by omega)⟩
  ·obtain⟨j,a,e⟩:=bV h
   rw[aZ]at a;rw[qH]at e;exact⟨List.mem_of_mem_drop h,by rw[←e];exact d (i+1+j) (by omega) (by omega)⟩
 ·rintro⟨h,b⟩
  obtain⟨j,a,e⟩:=bV h;rcases Nat.lt_trichotomy j i with c|c|c
  ·exact bM.2 (.inl (oE (i:=j) (h:=by rw[aP];omega) (by rw[qG];exact e)))
  ·subst c;exact absurd e.symm b
  ·refine bM.2 (.inr (oE (i:=j-(i+1)) (h:=by rw[aZ];omega) ?_))
   rw[qH];have:i+1+(j-(i+1))=j:=by omega
   simp only[this];exact e
theorem YB{F:Fo}{i:Nat}(h:fU F):fU (.ofL (F.toL.take i++F.toL.drop (i+1))):=by
 have hc:=fi.1 h;rw[fi,Fo.to_of];have a:(F.toL.take i++F.toL.drop (i+1)).Sublist F.toL:=by rw[←List.eraseIdx_eq_take_drop_succ];exact List.eraseIdx_sublist ..
 exact⟨hc.1.sublist a,fun n b=>hc.2 n (a.subset b)⟩
theorem T3{F:Fo}{i:Nat}{k:List UInt8}(h:fU F)(hi:i<F.toL.length)(ek:hd F.toL[i].1=hd k)(f:∀k' d,um F.toL[i] k' d→k'=k):vQ (qt F) (qt (.ofL (F.toL.take i++F.toL.drop (i+1)))) k:=by
 intro k' d;have hc:=fi.1 h;rw[fY,fY,Fo.to_of];constructor
 ·rintro⟨n,a,b⟩
  obtain⟨a,c⟩:=(Fh hi (xB h hi)).1 a;refine⟨fun e=>c ?_,n,a,b⟩
  obtain⟨r,e',_⟩:=b;refine xV h a (aY hi) ?_;rw[ek,←e,e',qf (hc.2 n a).1]
 ·rintro⟨g,n,a,b⟩
  by_cases e:n=F.toL[i]
  ·exact absurd (f k' d (by rw[←e];exact b)) g
  ·exact⟨n,(Fh hi (xB h hi)).2 ⟨a,e⟩,b⟩
def YJ(n:Bn)(o:Option Bn):Prop:=(o=none∧∀k v,¬um n k v)∨∃m,o=some m∧O2 m∧hd m.1=hd n.1∧∀k v,um m k v↔um n k v
theorem TK{lab:List UInt8}{w:Option ByteArray}{F:Fo}(a:lab≠[])(hc:fU F)(h:w.isSome∨2≤F.toL.length):YJ (lab,w,F) (some (lab,w,F)):=.inr ⟨_,rfl,⟨a,h,hc⟩,rfl,fun _ _=>vT⟩
theorem TL{lab:List UInt8}{F:Fo}(h:F.toL= []):YJ (lab,none,F) none:=by
 refine .inl ⟨rfl,fun k v hi=>?_⟩
 obtain⟨r,_,⟨_,a⟩|a⟩:=hi
 ·cases a
 ·obtain⟨n,b,_⟩:=fY.1 a
  simp only at b;rw[h]at b;cases b
theorem VO{lab lk:List UInt8}{a:Option ByteArray}{F Fk:Fo}(c:lab≠[])(hc:fU F)(h:F.toL= [(lk,a,Fk)]):YJ (lab,none,F) (some (lab++lk,a,Fk)):=by
 have d:F=.cons lk a Fk .nil:=by
  rw[←Fo.of_to F,h];rfl
 have b:=(fi.1 hc).2 (lk,a,Fk) (by rw[h];exact au.2 rfl);refine .inr ⟨_,rfl,⟨fun e=>c (gX.1 e).1,b.2.1,b.2.2⟩,qf c,fun k v=>?_⟩
 have:=KM (lab:=lab++lk) (w:=a) (F:=Fk) lab.length k v;rw[List.take_left,gr]at this;rw[d];exact this.symm
end Go.Proofs
namespace Go.Proofs
open Go Go.Lift
theorem lh(s:ByteArray):s.data.toList.length=s.size:=by simp
theorem WZ(a b:ByteArray):(a++b).data.toList=a.data.toList++b.data.toList:=by rw[qR,Array.toList_append]
theorem TC{a b:ByteArray}{h:af}{K:Bool→af→Prop}(c:K (decide (b.data.toList<+:a.data.toList)) h):HC PG rH [.string a,.string b] [.c .bool] K h:=by
 refine Ju a b ?_;unfold AS jm;refine EG a b ?_;unfold w9 jm;refine sq a b ?_;unfold lQ;have j:=lh a;have i:=lh b;refine aM (fun f=>?_) fun d=>?_
 ·refine⟨⟨by omega,by omega⟩,?_⟩
  rw[jq,aX];have e:decide (a.extract 0 b.size=b)=decide (b.data.toList<+:a.data.toList):=by
   rw[decide_eq_decide,←pE,CX,List.prefix_iff_eq_take,i];exact eq_comm
  rw[e];exact c
 ·have e:decide (b.data.toList<+:a.data.toList)=false:=decide_eq_false fun g=>by
   have:=g.length_le;omega
  rw[e]at c;exact c
theorem WI{a b:ByteArray}{h:af}{K:ByteArray×Bool→af→Prop}(f:∀s:ByteArray,a.data.toList=b.data.toList++s.data.toList→K (s,true) h)(d:(∀r,a.data.toList≠b.data.toList++r)→K (⟨#[]⟩,false) h):HC PG xE [.string a,.string b] [.c .str,.c .bool] K h:=by
 refine QY a b ?_;unfold Iu jm;refine TC ?_;have j:=lh a;have g:=lh b;by_cases c:b.data.toList<+:a.data.toList
 ·rw[decide_eq_true c]
  have i:=c.length_le;refine aj.2 ⟨⟨by omega,by omega⟩,?_⟩
  rw[aX];refine f _ ?_;rw[CY];obtain⟨r,e⟩:=c;rw[←e,←g,gr]
 ·rw[decide_eq_false c]
  exact aA.2 (d fun r e=>c ⟨r,e.symm⟩)
end Go.Proofs
