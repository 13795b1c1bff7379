/- A part of the proof that the named laws of this program answer true, whatever the input. -/
import Derived.Test.YtajpljopgikpgaaGreatPart3
import Derived.Test.YtajpljopgikpgaaGreatPart2
open Array renaming toList_inj→fL
open ByteArray renaming mk→gU
open Iff renaming rfl→rO
open Int renaming toNat_natCast→aN
open List renaming mem_append→bA,mem_of_mem_take→gk,mem_cons→ar,getElem_of_mem→cu,getElem?_eq_getElem→aj,getElem_mem→bm,length→gl,length_drop→aH,length_nil→cL,mem_singleton→ai,append_eq_nil_iff→eh,take_length→cP,take_append_drop→bB,length_take→aK,append_cancel_left→dZ,mem_of_getElem?→au,getElem?_set→dG,mem_map→qr,pairwise_append→cE,mem_cons_self→ax,pairwise_cons→bh,lt_irrefl→nQ,mem_cons_of_mem→aI,length_append→af,length_map→j4,length_cons→aL,length_singleton→bd,append_nil→bO,flatMap_cons→aJ,append_assoc→ao,cons_append→dd,cons→gx,range_succ→ft,flatMap_append→be,filter_eq_self→jI,any_eq_true→bH,mem_range→fR,mem_of_getElem→jH,drop_left→fS
open List.Pairwise renaming nil→fq
open Nat renaming le_refl→aw,lt_or_ge→bP,lt_of_lt_of_le→bv,add_mul→kD,le_trans→bp,zero_le→bD,zero_add→aC,zero_testBit→jv
open Option renaming map_eq_some_iff→gT
open Prod renaming mk→qo
namespace Go.Proofs
open Go Go.Lift
theorem KidO.move{o:Option Addr}{W W' M:Nat→Prop}{h c:ae}(k:Upd M h c){a:Option Addr}{n:Bn}{S:Nat→Prop}(r:KidO o W h a n S)(e:∀y,S y→y<h.size)(hm:∀y,M y→(W y∧¬S y)∨h.size≤y)(d:∀y,W' y→W y∨h.size≤y):KidO o W' c a n S:=
 ((r.less (W':=fun y=>W y∨h.size≤y) fun y b=>b).upd k e fun y b=>(hm y b).imp (fun h=>⟨.inl h.1,h.2⟩) id).less fun y b=>.inl (d y b)
theorem vo{o ow:Option Addr}{W S M:Nat→Prop}{h f:ae}{b:Nat}{s:SliceV}{ks:List (Option Addr)}{Us Us':List (Nat→Prop)}
  (g:(OwOk W h ow∧(¬W b)∧Sl jW 1 W h s ks∧∀y,¬S y)∨(o.isSome=true∧ow=o∧∃A:Nat→Prop,OwnS jW 1 aE A h s ks∧(∀y,A y→S y∧y≠b∧y<h.size)∧S b∧∀U∈Us,∀y,U y→¬A y∧y≠b))
  (B:b<h.size)(m:Upd M h f)(hM:∀y,M y→S y∧∃U∈Us,U y)(p:∀U∈Us',∀y,U y→((∃V∈Us,V y)∨h.size≤y)∧y<f.size):
  (OwOk W f ow∧Sl jW 1 No f s ks∧(∀U∈Us',∀y,U y→y<f.size))∨(o.isSome=true∧ow=o∧∃A:Nat→Prop,OwnS jW 1 aE A f s ks∧(∀y,A y→S y∧y≠b∧y<f.size)∧S b∧∀U∈Us',∀y,U y→¬A y∧y≠b):=by
 have z:=m.size;rcases g with⟨n,_,t,i⟩|⟨e,v,A,q,d,k,j⟩
 ·exact .inl ⟨n.upd m fun y a=>absurd (hM y a).1 (i y),(t.upd m fun y a=>absurd (hM y a).1 (i y)).less fun _ h=>h.elim,fun U c y a=>(p U c y a).2⟩
 ·refine .inr ⟨e,v,A,q.upd m fun y a hm=>?_,fun y a=>⟨(d y a).1,(d y a).2.1,by have:=(d y a).2.2;omega⟩,k,fun U c y a=>?_⟩
  ·obtain⟨_,U,c,x⟩:=hM y hm
   exact(j U c y x).1 a
  ·rcases(p U c y a).1 with⟨V,w,hv⟩|h
   ·exact j V w y hv
   ·exact⟨fun u=>by have:=(d y u).2.2;omega,by omega⟩
set_option maxHeartbeats 4000000 in
theorem FT{w' o:Option Addr}:∀(n:Nat) {W S:Nat→Prop} {b:Nat} {sl:ByteArray} {w:Option ByteArray} {F:Fo} {h:ae} (k v:ByteArray),k.size<n→k.size≤1000000→RxO o W h b sl w F S→By h w' o→(∀y,W y→y<h.size)→(∀y,S y→W y)→(∀a,o=some a→W a.block)→(∀a,w'=some a→¬S a.block)→dS F→∀{K:(Option Addr)×Bool×Bool→ae→Prop},
  (∀N b' w2 F2 S2 D ch,Upd S h N→RxO o (fun y=>W y∨S2 y) N b' sl w2 F2 S2→(∀y,S2 y→(S y∨h.size≤y)∧y<N.size)→dS F2→pi (mD w F) (mD w2 F2) k.data.toList v→(ch=false→b'=b∧w2=w∧F2=F∧Upd No h N∧mD w F k.data.toList v)→(mD w F k.data.toList v→ch=false)→K (some ⟨b',0,none⟩,D,ch) N)→
  HC PG jg [.pointer (some ⟨b,0,none⟩),.pointer w',.string k,.string v] [.c .ptr,.c .bool,.c .bool] K h:=by
 intro n;induction n with
 |zero=>intro W S b sl w F h k v hk;omega
 |succ n ih=>
  intro W S b sl w F h k v hkn hk6 r t hW C hWo hwS hc K hk;refine vP (some ⟨b,0,none⟩) w' k v ?_;unfold pK cG f6 bQ bL oZ xi cZ qu GW ii AC JQ AB;have hr:=r;have hno:o=none→∀y,¬S y:=fun e=>by subst e;exact r.off.2
  obtain⟨val,s,ow,ks,Us,hb,hv,hs,hL,hUS,hPD,hown⟩:=r.view;have hn:=j2 hc;have hcan:=dt.1 hc;have hSb:∀y,S y→y<h.size:=fun y d=>hW y (C y d)
  have L:∀U∈Us,∀y,U y→y<h.size:=fun U E y d=>hSb y (hUS U E y d)
  have zb:=aG hb;have own2:=fun{q:ae} {M:Nat→Prop} (ku:Upd M h q) (hM:∀y,M y→S y∧∃U∈Us,U y) (Us':List (Nat→Prop)) (E:∀U∈Us',∀y,U y→((∃V∈Us,V y)∨h.size≤y)∧y<q.size)=>vo (Us':=Us') hown zb ku hM E
  have hUh:∀{q:ae},h.size≤q.size→∀U∈Us,∀y,U y→((∃V∈Us,V y)∨h.size≤y)∧y<q.size:=fun z U E y d=>⟨.inl ⟨U,E,d⟩,by have:=L U E y d;omega⟩
  have hno':∀{A X:Nat→Prop} {bb bx:Nat} {T:List (Nat→Prop)},(∀y,A y→S y∨h.size≤y)→(S bb∨h.size≤bb)→o=none→(∀y,A y→¬(W y∨SR o bx X T y))∧¬(W bb∨SR o bx X T bb):=fun{A X bb bx T} hA hb e=>by
   have no:∀y,(S y∨h.size≤y)→¬(W y∨SR o bx X T y):=fun y d hw=>by
    rcases hw with hw|⟨hw,_⟩
    ·rcases d with h|h
     ·exact hno e y h
     ·have:=hW y hw;omega
    ·rw[e]at hw;cases hw
   exact⟨fun y d=>no y (hA y d),no _ hb⟩
  rw[jP];refine bf (fun hk0=>?_) fun hk0=>?_
  ·have hke:k.data.toList= []:=by rw[hk0]
   rw[hke]at hk;refine Join.intro (fun t N=>t=decide (w=some v)∧N=h) (fun R hR=>⟨_,rfl,w.isSome,c5 (i:=1) hb,?_⟩) ?_
   ·cases hw:w with
    |none=>exact ak.2 (hR _ _ ⟨by rw[hw];rfl,rfl⟩)
    |some u=>
     refine aA.2 ⟨_,rfl,val,c5 (i:=2) hb,hR _ _ ⟨?_,rfl⟩⟩;rw[jP,vw hv u hw,hw];exact decide_eq_decide.2 ⟨fun e=>by rw[e],fun e=>Option.some.inj e⟩
   ·rintro t' N ⟨rfl,rfl⟩
    refine bf (fun e=>?_) fun e=>?_
    ·refine hk N b w F S false false (Upd.refl _ _) (hr.less fun y d=>.inl (d.elim id (C y))) (fun y d=>⟨.inl d,hSb y d⟩) hc ?_ (fun _=>⟨rfl,rfl,rfl,Upd.refl _ _,.inl ⟨rfl,e⟩⟩) fun _=>rfl
     rw[e];exact zT hc v
    ·have fin:∀{h1 q:ae} {b':Nat} {s1:SliceV} {A1:Nat→Prop},OwnS jW 1 aE A1 h1 s1 ks→(∀y,A1 y→(S y∨N.size≤y)∧y≠b'∧y<h1.size)→(S b'∨N.size≤b')→(∀U∈Us,∀y,U y→¬A1 y∧y≠b')→Upd No N h1→q[b']? =some (.cells (rP sl true v s1 o) aR (0,0))→Upd (· =b') h1 q→∀D,K (some ⟨b',0,none⟩,D,true) q:=fun{h1 q b' s1 A1} hA1 f g O p b2 B D=>by
      have z1:=p.size;have z2:=B.size;have zb':=aG b2;have u02:Upd (· =b') N q:=p.wide.tr B
      have hSR:∀y,SR o b' A1 Us y→(S y∨N.size≤y)∧y<q.size:=fun y d=>th g zb' (fun y d=>⟨(f y d).1,by have:=(f y d).2.2;omega⟩) (fun U E y d=>⟨.inl (hUS U E y d),by have:=L U E y d;omega⟩) d
      refine hk q b' (some v) F (SR o b' A1 Us) D true (u02.mono fun y d=>by have d:y=b':=d;rw[d];exact g) (qP b2 rfl (hA1.upd B fun y d=>(f y d).2.1) (fun y d=>⟨(f y d).2.1,by have:=(f y d).2.2;omega⟩) O hPD (hL.move u02 L (fun y d=>?_) fun y d=>d.elim .inl fun h=>(hSR y h).1.imp (C y) id) (hno' (fun y d=>(f y d).1) g)) hSR hc (zT hc v) (fun h=>by cases h) fun I=>?_
      ·have d:y=b':=d
       subst d;exact g.imp (fun h=>⟨C y h,fun U E hu=>(O U E y hu).2 rfl⟩) id
      ·rcases I with⟨_,h⟩|h
       ·exact absurd h e
       ·exact absurd rfl (kM hc h)
     have ow0:=own2 (Upd.refl No N) (fun _ h=>h.elim) Us (hUh (aw _))
     refine⟨_,rfl,?_,w.isSome,c5 (i:=1) hb,?_⟩
     ·refine hO (S:=S) (Us:=Us) t hWo hb (by rw[hL.1];exact hn) ow0 fun h1 b' s1 A1 b1 hA1 f g O p=>⟨?_,w.isSome,c5 (i:=1) (p.get0 hb),?_⟩
      ·refine nV b1 fun q b2 B=>?_
       have hb2:∃val2,aQ q (adr ⟨b,0,none⟩ 1)=some (.bool val2):=by
        by_cases e2:b=b'
        ·rw[e2];exact⟨_,c5 (i:=1) b2⟩
        ·exact⟨_,c5 (i:=1) ((p.wide.tr B).get hb e2)⟩
       obtain⟨v2,hv2⟩:=hb2;exact⟨v2,hv2,fin hA1 f g O p b2 B _⟩
      ·exact nV b1 fun q b2 B=>fin hA1 f g O p b2 B _
     ·exact hO (S:=S) (Us:=Us) t hWo hb (by rw[hL.1];exact hn) ow0 fun h1 b' s1 A1 b1 hA1 f g O p=>nV b1 fun q b2 B=>fin hA1 f g O p b2 B _
  ·have J:k.data.toList≠[]:=fun e=>hk0 (by cases k;exact congrArg gU (fL.1 e))
   obtain⟨c0,hc0,hc0e⟩:=D8 J;refine⟨c0,Int.le_refl _,hc0,?_⟩;have hlk:k.data.toList.length=k.size:=by simp
   refine zM (hr.read t) hc (c:=c0.toNat) (UInt8.toNat_lt _) fun i ok hil hlo hhi hok=>?_
   rw[hc0e]at hlo hhi hok;cases ok with
   |false=>
    have hno2:∀hi:i<F.toL.length,hd F.toL[i].1≠hd k.data.toList:=fun hi e=>by have:=hok.2 ⟨hi,e⟩;cases this
    have hhi':∀j (hj:j<F.toL.length),i≤j→hd k.data.toList<hd F.toL[j].1:=fun j hj hij=>by
     have h1:=hhi j hj hij;rcases bP i j with hl|hl
     ·have q:=List.pairwise_iff_getElem.1 hcan.1 i j (by omega) hj hl
      have h3:=hhi i (by omega) (aw _);omega
     ·have:i=j:=by omega
      subst this;have:=hno2 hj;omega
    obtain⟨hc',hp'⟩:=F6 (v:=v) hc J hlo hhi';refine aA.2 ?_;refine hO (S:=S) (Us:=Us) t hWo hb (by rw[hL.1];exact hn) (own2 (Upd.refl No h) (fun _ h=>h.elim) Us (hUh (aw _))) fun h1 b' s1 A1 b1 hA1 f g O p=>?_
    refine⟨_,rfl,s1,c5 (i:=3) b1,?_⟩;refine B8 (t.upd0 p) fun q fb fs Af fb2 hAf hAfs hfb B=>⟨c5 (i:=3) (B.get0 b1),bG ?_⟩
    have k3:=Upd.hnew No q [.pointer (some ⟨fb,0,none⟩)] aE;have b3:=ci q [.pointer (some ⟨fb,0,none⟩)] aE;have z3:(hnew q [.pointer (some ⟨fb,0,none⟩)] aE).size=q.size+1:=jd ..;simp only[eZ q];generalize hnew q [.pointer (some ⟨fb,0,none⟩)] aE=h3 at k3 b3 z3;have hu13:=B.tr k3;refine⟨c5 (i:=3) (hu13.get0 b1),?_⟩;have z01:=p.size
    have z1:=aG b1;have z2:=B.size;have zf:=aG fb2;have ho3:=(hA1.upd hu13 fun _ _ h=>h).more (M':=fun x=>A1 x∨h3.size≤x) fun x hx=>.inl hx
    refine D3 ho3 (k:=i) (by rw[hL.1];exact hil) (by rw[hL.1];omega) b3 (fun h=>h.elim (fun h=>by have:=(f _ h).2.2;omega) fun h=>by omega) (fun x hx=>.inr hx) fun s4 h4 ho4 hu4=>?_
    have b4:=hu4.get (hu13.get0 b1) (fun h=>h.elim (fun h=>(f _ h).2.1 rfl) fun h=>by omega)
    have f4:=hu4.get (k3.get0 fb2) (fun h=>h.elim (fun h=>by have:=(f _ h).2.2;omega) fun h=>by omega)
    refine⟨_,rfl,Hc (i:=3) b4 (show 3<5 by decide),x9 (i:=3) (c':=rP sl w.isSome val s4 o) b4 rfl fun h5 b5 hu5=>?_⟩
    have z4:=hu4.size;have z5:=hu5.size;have u05:Upd (fun y=>y=b'∨A1 y) h h5:=((p.tr hu13).wide.trans hu4 fun x hx=>hx.imp .inr fun h=>by omega).trans hu5 fun x hx=>.inl (.inl hx)
    have ho5:=ho4.within.upd hu5 fun x hx e=>by
     have e:x=b':=e;subst e;rcases hx.1 with h|h
     ·exact(f _ h).2.1 rfl
     ·omega
    have nfb:¬fb=b':=by omega
    have f5:=hu5.get f4 nfb;have hAf5:=((hAf.upd k3 fun _ _ h=>h).upd hu4 (fun y d h=>by
     have:=hAfs y d
     rcases h with h|h
     ·have:=(f y h).2.2;omega
     ·omega)).upd hu5 fun y d e=>by
      have e:y=b':=e;have:=hAfs y d;omega
    have hSf:∀y,SR o fb Af [] y→h1.size≤y∧y<q.size:=fun y d=>by
     rcases d.2 with rfl|h|⟨U,E,_⟩
     ·exact⟨hfb,zf⟩
     ·have:=hAfs y h;omega
     ·cases E
    have hmem:∀U∈Us.take i++SR o fb Af []::Us.drop i,U∈Us∨U=SR o fb Af []:=fun U E=>by
     rcases bA.1 E with h|h
     ·exact .inl (gk h)
     ·rcases ar.1 h with h|h
      ·exact .inr h
      ·exact .inl (List.mem_of_mem_drop h)
    have hA5:∀y,((A1 y∨h3.size≤y)∧y<h4.size)→(S y∨h.size≤y)∧y≠b'∧y<h5.size:=fun y d=>by
     rcases d.1 with h|h
     ·exact⟨(f y h).1,(f y h).2.1,by omega⟩
     ·exact⟨.inr (by omega),by omega,by omega⟩
    have hS2:∀y,SR o b' (fun y=>(A1 y∨h3.size≤y)∧y<h4.size) (Us.take i++SR o fb Af []::Us.drop i) y→(S y∨h.size≤y)∧y<h5.size:=fun y d=>th g (aG b5) (fun y d=>⟨(hA5 y d).1,(hA5 y d).2.2⟩) (fun U E y d=>by
     rcases hmem U E with h|rfl
     ·exact⟨.inl (hUS U h y d),by have:=L U h y d;omega⟩
     ·have:=hSf y d;exact⟨.inr (by omega),by omega⟩) d
    refine hk h5 b' w _ (SR o b' (fun y=>(A1 y∨h3.size≤y)∧y<h4.size) (Us.take i++SR o fb Af []::Us.drop i)) true true (u05.mono fun y d=>?_) (qP b5 hv ho5 (fun y d=>(hA5 y d).2) (fun U E y d=>?_) (Kf hPD (by rw[hL.2.1];exact hil) fun U E y d hu=>?_) (by
     rw[Fo.to_of]
     refine(hL.move u05 L (fun y d=>?_) fun y d=>d.elim .inl fun h=>(hS2 y h).1.imp (C y) id).ins hil ⟨fb,k,rfl,rfl,Lg f5 hAf5 (fun y d=>?_) (hno' (fun y d=>.inr ?_) (.inr (by omega)))⟩
     ·rcases d with rfl|h
      ·exact g.imp (fun h=>⟨C _ h,fun U E hu=>(O U E _ hu).2 rfl⟩) id
      ·exact(f y h).1.imp (fun hs=>⟨C y hs,fun U E hu=>(O U E y hu).1 h⟩) id
     ·have:=hAfs y d;exact⟨this.2.1,by omega⟩
     ·have:=hAfs y d;omega) (hno' (fun y d=>(hA5 y d).1) g)) hS2 hc' (vn J hp') (fun h=>by cases h) fun I=>?_
    ·rcases d with rfl|h
     ·exact g
     ·exact(f y h).1
    ·rcases hmem U E with h|rfl
     ·have:=O U h y d
      have q:=L U h y d;exact⟨fun h=>h.1.elim this.1 fun h=>by omega,this.2⟩
     ·have:=hSf y d
      exact⟨fun h=>h.1.elim (fun h=>by have:=(f y h).2.2;omega) fun h=>by omega,by omega⟩
    ·have:=hSf y d;have:=L U E y hu;omega
    ·rcases I with⟨h,_⟩|I
     ·exact absurd h J
     ·obtain⟨n',hn',e,_⟩:=mB hc I
      obtain⟨j,hj,rfl⟩:=cu hn';rcases bP j i with hl|hl
      ·have:=hlo j hj hl;omega
      ·have:=hhi' j hj hl;omega
   |true=>
    obtain⟨hi,hie⟩:=hok.1 rfl;refine ak.2 ⟨_,rfl,s,c5 (i:=3) hb,?_⟩;have hki0:i<ks.length:=by rw[hL.1];exact hi
    have hUi0:i<Us.length:=by rw[hL.2.1];exact hi
    obtain⟨kb,ksl,hke,P,hkn⟩:=hL.2.2 i _ _ _ (aj hki0) (aj hi) (aj hUi0);have hki:ks[i]? =some (some ⟨kb,0,none⟩):=by rw[aj hki0,hke]
    have hUie:Us[i]? =some Us[i]:=aj hUi0;have Z:Us[i]∈Us:=bm hUi0;have hmem:F.toL[i]∈F.toL:=bm hi;have Q:=hcan.2 _ hmem;obtain⟨a,ha,_,hvv⟩:=hs.at0 hki;have hslen:=hs.len;rw[hL.1]at hslen;have hlt1:(i:Int)<((s.len:Nat):Int):=by omega
    refine⟨⟨by simp only;omega,hlt1⟩,a,ha,some ⟨kb,0,none⟩,hvv,_,rfl,?_⟩;obtain⟨kval,kss,kow,kks,kUs,hkb,_⟩:=hkn.view;refine⟨ksl,c5 (i:=0) hkb,Gr hk6 ?_⟩;rw[P];have hc1:=KE J Q.1 hie.symm;have hcle:=JI k.data.toList F.toL[i].1;have hct:=Fw k.data.toList F.toL[i].1;have hcd:=Fx k.data.toList F.toL[i].1;have hll:ksl.size=F.toL[i].1.length:=by rw[←P];simp
    have hin_m:l6 F k.data.toList v→pj F.toL[i] k.data.toList v:=fun I=>by
     obtain⟨n',hn',e,hN⟩:=mB hc I;rw[←rL hc hn' hmem (by omega)];exact hN
    have hin_f:pj F.toL[i] k.data.toList v→l6 F k.data.toList v:=fun I=>dL.2 ⟨_,hmem,I⟩
    have hset:∀{w2:Option ByteArray} {F2:Fo} {nl:List UInt8},nl≠[]→hd nl=hd F.toL[i].1→dS F2→Br (mD w2 F2)→dS (.ofL (F.toL.set i (nl,w2,F2))):=fun h1 q h3 h4=>Fy hc hi ⟨h1,(Bs h3).2 h4,h3⟩ q
    have hputs:∀{m:Bn},pi (pj F.toL[i]) (pj m) k.data.toList v→pi (l6 F) (l6 (.ofL (F.toL.set i m))) k.data.toList v:=fun hp=>Ci hc hi hie hp
    have hsame:pi (pj F.toL[i]) (pj F.toL[i]) k.data.toList v→pi (l6 F) (l6 F) k.data.toList v:=F4 hc hi hie;have G:∀y,Us[i] y→S y:=hUS _ Z;have hUib:∀y,Us[i] y→y<h.size:=L _ Z;have hUid:∀j U,j≠i→Us[j]? =some U→Dj Us[i] U:=fun j U hj eU=>hPD i j _ _ (Ne.symm hj) hUie eU
    have nUb:¬Us[i] b:=fun hu=>by
     rcases hown with⟨_,_,_,hS0⟩|⟨_,_,A,_,_,_,hUA⟩
     ·exact hS0 _ (G _ hu)
     ·exact(hUA _ Z b hu).2 rfl
    generalize F.toL[i]=m at P hkn Q hc1 hcle hct hcd hll hin_m hin_f hset hputs hsame hie;generalize Us[i]=Ui at hkn hUie Z G hUib hUid nUb;generalize hcc:cm k.data.toList m.1=c at hc1 hcle hct hcd;obtain⟨lab,wk,Fk⟩:=m;simp only at P hkn Q hcle hct hcd hll hie hset;refine Join.intro (fun t N=>∃ub Y wu Fu SU,t=some ⟨ub,0,none⟩∧Upd Ui h N∧RxO o (fun y=>W y∨SU y) N ub Y wu Fu SU∧(∀y,SU y→(Ui y∨h.size≤y)∧y<N.size)∧dS Fu∧Y.data.toList=k.data.toList.take c∧(∀k' v',pj (Y.data.toList,wu,Fu) k' v'↔pj (lab,wk,Fk) k' v')∧(∀w' F',dS F'→pi (mD wu Fu) (mD w' F') (k.data.toList.drop c) v→Br (mD w' F'))∧(Upd No h N∨¬mD wu Fu (k.data.toList.drop c) v)) (fun R hR=>⟨_,rfl,ksl,c5 (i:=0) hkb,?_⟩) ?_
    ·refine bf (fun hlt=>?_) fun hge=>?_
     ·have hlt:c<lab.length:=by omega
      have hdne:lab.drop c≠[]:=fun e=>by
       have:=congrArg gl e;rw[aH,cL]at this;omega
      have hhd:k.data.toList.drop c≠[]→hd (k.data.toList.drop c)≠hd (lab.drop c):=fun hne=>by
       refine hcd ?_ hlt;rcases bP c k.data.toList.length with hl|hl
       ·exact hl
       ·exact absurd (List.drop_eq_nil_of_le hl) hne
      have hcs:dS (.cons (ksl.data.toList.drop c) wk Fk .nil):=by
       rw[P];exact⟨hdne,Q.2.1,Q.2.2,fun _ h=>by simp[Fo.toL]at h,trivial⟩
      refine B7 hkn t hW (fun y d=>C y (G y d)) hWo (j2 Q.2.2) (c:=c) (by omega) fun h1 ub SU rn hSU p=>hR _ _ ⟨ub,_,none,_,SU,rfl,p,rn,hSU,hcs,?_,?_,?_,.inr ?_⟩
      ·rw[yy,P,hct]
      ·intro k' v'
       rw[yy,P];exact Ag c k' v'
      ·intro w' F' hcF hp
       rw[P]at hp;exact Ih hdne Q.2.1 Q.2.2 hhd hp
      ·rintro(⟨_,h⟩|I)
       ·cases h
       ·obtain⟨n',hn',e,r',er,_⟩:=mB hcs I
        rw[P]at hn';simp only[Fo.toL,ai]at hn';subst hn';refine hhd (fun e2=>hdne ?_) e.symm
        rw[e2]at er;exact(eh.1 er.symm).1
     ·have hce:c=lab.length:=by omega
      refine hR _ _ ⟨kb,ksl,wk,Fk,Ui,rfl,Upd.refl _ _,hkn.less fun y d=>.inl (d.elim id fun h=>C y (G y h)),fun y d=>⟨.inl d,hUib y d⟩,Q.2.2,?_,?_,?_,.inl (Upd.refl _ _)⟩
      ·rw[P,hct,hce,cP]
      ·intro k' v';rw[P]
      ·intro w' F' hcF hp
       exact Jq ((Bs Q.2.2).1 Q.2.1) hp
    ·rintro t' h1 ⟨ub,Y,wu,Fu,SU,rfl,p,rn,hSU,hcu,hsl,hinn,hbr,hsp⟩
     refine⟨⟨by omega,by omega⟩,?_⟩
     rw[aN];have hkd:(k.extract c k.size).data.toList=k.data.toList.drop c:=yz ..;have hks:(k.extract c k.size).size=k.size-c:=by simp
     have hktd:k.data.toList=Y.data.toList++k.data.toList.drop c:=by rw[hsl,bB]
     have hslne:Y.data.toList≠[]:=by
      rw[hsl];intro e;have:=congrArg gl e;rw[aK,cL]at this;omega
     have hslhd:hd Y.data.toList=hd lab:=by
      rw[hie];conv=>rhs;rw[hktd]
      rw[lL hslne]
     have z01:=p.size;have tU:∀{M:Nat→Prop} {N:ae},Upd M h N→(∀y,M y→Ui y)→By N w' o:=fun ku hM=>t.upd ku fun b e d=>absurd (G _ (hM _ d)) (hwS _ e)
     refine ih (W:=fun y=>W y∨SU y) (S:=SU) (k.extract c k.size) v (by rw[hks];omega) (by rw[hks];omega) rn (tU p fun _ h=>h) (fun y d=>d.elim (fun h=>bv (hW y h) z01) fun h=>(hSU y h).2) (fun y d=>.inr d) (fun a e=>.inl (hWo a e)) (fun a e d=>?_) hcu fun q b2 w2 F2 SV D ch B rn2 hSV hc2 hp2 hsm hch=>?_
     ·rcases(hSU _ d).1 with h|h
      ·exact hwS a e (G _ h)
      ·have:=t.lt e;omega
     rw[hkd]at hp2 hch hsm;have z12:=B.size;have hpn:pi (pj (lab,wk,Fk)) (pj (Y.data.toList,w2,F2)) k.data.toList v:=by
      have:=Hi (F5 (lab:=Y.data.toList) hp2) hinn;rw[←hktd]at this;exact this
     have hchg:mD w F k.data.toList v→ch=false:=fun I=>by
      rcases I with⟨h,_⟩|I
      ·exact absurd h J
      ·obtain⟨r,e,hr'⟩:=(hinn _ _).2 (hin_m I)
       simp only at e;rw[hktd]at e;have e2:=dZ e;rw[←hktd]at e;exact hch (by rw[e2];exact hr')
     cases ch with
     |false=>
      obtain⟨_,e2,e3,hu20,hin2⟩:=hsm rfl;subst e2 e3;rcases hsp with u01|hn2
      ·have hu02:=u01.tr hu20
       have hsz:=hu02.size;refine aA.2 (hk q b w F S false false hu02.wide ((hr.upd0 hu02).less fun y d=>.inl (d.elim id (C y))) (fun y d=>⟨.inl d,by have:=hSb y d;omega⟩) hc (vn J (hsame ?_)) (fun _=>⟨rfl,rfl,rfl,hu02,.inr (hin_f ((hinn _ _).1 ⟨_,hktd,hin2⟩))⟩) fun _=>rfl)
       intro k' v';exact(hinn k' v').symm.trans (hpn k' v')
      ·exact absurd hin2 hn2
     |true=>
      refine ak.2 ?_;have ku:Upd Ui h q:=p.trans B fun y d=>(hSU y d).1
      have hSV':∀y,SV y→(Ui y∨h.size≤y)∧y<q.size:=fun y d=>⟨(hSV y d).1.elim (fun h=>(hSU y h).1) fun h=>.inr (by omega),(hSV y d).2⟩
      have hmem2:∀U∈Us.set i SV,U∈Us∨U=SV:=fun U E=>List.mem_or_eq_of_mem_set E
      have hSVm:SV∈Us.set i SV:=au (i:=i) (by rw[dG,if_pos rfl,if_pos hUi0]);refine hO (W:=W) (S:=S) (Us:=Us.set i SV) (tU ku fun _ h=>h) hWo (ku.get hb nUb) (by rw[hL.1];exact hn) (own2 ku (fun y d=>⟨G y d,_,Z,d⟩) _ fun U E y d=>?_) fun h3 b' s3 A3 b3 ho3 H g hU3 hu3=>?_
      ·rcases hmem2 U E with h|rfl
       ·exact⟨.inl ⟨U,h,d⟩,by have:=L U h y d;omega⟩
       ·exact⟨(hSV' y d).1.imp (fun h=>⟨_,Z,h⟩) id,(hSV' y d).2⟩
      refine⟨_,rfl,s3,c5 (i:=3) b3,?_⟩;obtain⟨a3,ha3,hab,hw3,ho4,hu4⟩:=OwnS.setAt ho3 hki0 (some ⟨b2,0,none⟩);have hlen3:=ho3.len;refine⟨⟨by simp only;omega,by simp only;omega⟩,a3,ha3,?_⟩
      have hw1:Wr h3 (adr a3 (i*1)):=by
       rcases hw3 with hw|⟨b',g,hw⟩
       ·cases hw
       ·cases g;exact hw 0 (by simp)
      refine⟨hw1,bG ?_⟩;have b4:=hu4.get b3 fun e=>by have e:b'=a3.block:=e;exact(H _ hab).2.1 e.symm
      have hu24:Upd A3 q _:=hu3.wide.trans hu4 fun x hx=>.inl (by have hx:x=a3.block:=hx;rw[hx];exact hab)
      have u04:Upd (fun y=>Ui y∨A3 y) h _:=(ku.mono fun y d=>.inl (.inl d)).trans hu24 fun x hx=>.inl (.inr hx)
      have eset:ks.set i (some ⟨b2,0,none⟩)=ks.take i++some ⟨b2,0,none⟩::ks.drop (i+1):=by rw[List.set_eq_take_append_cons_drop,if_pos hki0]
      rw[←eset]at ho4;have z3:=hu3.size;have z4:=hu4.size;change K (some ⟨b',0,none⟩,D,true) (fi h3 (adr a3 (i*1)) 0 (jW (some ⟨b2,0,none⟩)));generalize fi h3 (adr a3 (i*1)) 0 (jW (some ⟨b2,0,none⟩))=h4 at*;have hS2:∀y,SR o b' A3 (Us.set i SV) y→(S y∨h.size≤y)∧y<h4.size:=fun y d=>th (g.imp id fun h=>by omega) (aG b4) (fun y d=>⟨(H y d).1.imp id fun h=>by omega,by have:=(H y d).2.2;omega⟩) (fun U E y hz=>by
       rcases hmem2 U E with h|rfl
       ·exact⟨.inl (hUS U h y hz),by have:=L U h y hz;omega⟩
       ·exact⟨(hSV' y hz).1.imp (G y) id,by have:=(hSV' y hz).2;omega⟩) d
      refine hk h4 b' w _ (SR o b' A3 (Us.set i SV)) D true (u04.mono fun y d=>?_) (qP b4 hv ho4 (fun y d=>⟨(H y d).2.1,by have:=(H y d).2.2;omega⟩) hU3 (Hn hPD fun j U hj eU y d hu=>?_) (by
       rw[Fo.to_of]
       refine LsO.set hL.1 hL.2.1 (fun j k' n' U hj ek en eU=>KidO.move u04 (hL.2.2 j k' n' U ek en eU) (L U (au eU)) (fun y d=>?_) fun y d=>d.elim .inl fun h=>(hS2 y h).1.imp (C y) id) (KidO.move hu24 ⟨b2,Y,rfl,rfl,rn2⟩ (fun y d=>(hSV y d).2) (fun y d=>?_) fun y d=>?_)
       ·rcases d with h|h
        ·exact .inl ⟨C y (G y h),hUid j U hj eU y h⟩
        ·refine(H y h).1.imp (fun hs=>⟨C y hs,fun hu=>(hU3 U (au (i:=j) (by rw[dG,if_neg (Ne.symm hj)];exact eU)) y hu).1 h⟩) fun h=>by omega
       ·exact(H y d).1.imp (fun hs=>⟨.inl (.inl (C y hs)),fun hu=>(hU3 SV hSVm y hu).1 d⟩) id
       ·rcases d with h|⟨_,rfl|h|⟨U,E,h⟩⟩
        ·exact .inl (.inl (.inl h))
        ·exact g.imp (fun h=>.inl (.inl (C _ h))) id
        ·exact(H y h).1.imp (fun h=>.inl (.inl (C _ h))) id
        ·rcases hmem2 U E with q|rfl
         ·exact .inl (.inl (.inl (C _ (hUS U q y h))))
         ·exact .inl (.inr h)) (hno' (fun y d=>(H y d).1.imp id fun h=>by omega) (g.imp id fun h=>by omega))) hS2 (hset hslne hslhd hc2 (hbr _ _ hc2 hp2)) (vn J (hputs hpn)) (fun h=>by cases h) hchg
      ·rcases d with h|h
       ·exact .inl (G y h)
       ·exact(H y h).1.imp id fun h=>by omega
      ·rcases(hSV' y d).1 with h|h
       ·exact hUid j U hj eU y h hu
       ·have:=L U (au eU) y hu;omega
end Go.Proofs
namespace Go.Proofs
open Go Go.Lift
def sP:Fo→List (List UInt8×ByteArray)
 | .nil=> []
 | .cons lab w kids rest=>((w.map fun v=>(([]:List UInt8),v)).toList++sP kids).map (fun p=>(lab++p.1,p.2))++sP rest
def ll(w:Option ByteArray)(F:Fo):List (List UInt8×ByteArray):=(w.map fun v=>(([]:List UInt8),v)).toList++sP F
theorem nZ:∀{F:Fo} {k:List UInt8} {v:ByteArray},(k,v)∈sP F↔l6 F k v
 | .nil,_,_=>by simp[sP,l6]
 | .cons lab w kids rest,k,v=>by
  unfold sP l6;rw[bA,nZ (F:=rest)];refine or_congr ?_ rO;rw[qr];constructor
  ·rintro⟨⟨r,u⟩,hm,b⟩
   simp only[qo.injEq]at b;obtain⟨rfl,rfl⟩:=b;refine⟨r,rfl,?_⟩;rcases bA.1 hm with h|h
   ·left
    rw[Option.mem_toList,gT]at h;obtain⟨a,c,b⟩:=h;simp only[qo.injEq]at b;exact⟨b.1.symm,by rw[c,b.2]⟩
   ·exact .inr (nZ.1 h)
  ·rintro⟨r,rfl,h⟩
   refine⟨(r,v),bA.2 ?_,rfl⟩;rcases h with⟨rfl,h⟩|h
   ·left;rw[h];simp
   ·exact .inr (nZ.2 h)
theorem kJ{w:Option ByteArray}{F:Fo}{k:List UInt8}{v:ByteArray}:(k,v)∈ll w F↔mD w F k v:=by
 unfold ll mD;rw[bA,nZ];refine or_congr ?_ rO;cases w with
 |none=>simp
 |some u=>simp[Prod.ext_iff,eq_comm]
abbrev Up(l:List (List UInt8×ByteArray)):Prop:=l.Pairwise fun p q=>p.1<q.1
theorem KJ{a x y:List UInt8}(h:x<y):a++x<a++y:=by
 induction a with
 |nil=>exact h
 |cons c a ih=>exact List.Lex.cons ih
theorem HB{x y:List UInt8}(c:y≠[])(h:hd x<hd y):x<y:=by
 match x,y,c with
 | [],b::y,_=>exact List.Lex.nil
 |a::x,b::y,_=>exact List.Lex.rel (UInt8.lt_iff_toNat_lt.2 h)
theorem DH:∀{F:Fo},dS F→Up (sP F)
 | .nil,_=>fq
 | .cons lab w kids rest,h=>by
  unfold sP;refine cE.2 ⟨?_,DH h.2.2.2.2,?_⟩
  ·rw[List.pairwise_map]
   refine List.Pairwise.imp (R:=fun p q:List UInt8×ByteArray=>p.1<q.1) (fun i=>KJ i) ?_
   refine cE.2 ⟨?_,DH h.2.2.1,?_⟩
   ·cases w<;>simp
   ·intro a f b g
    have d:b.1≠[]:=kM h.2.2.1 (nZ (F:=kids).1 (show(b.1,b.2)∈_ from g))
    have j:a.1= []:=by
     rw[Option.mem_toList,gT]at f;obtain⟨v,_,e⟩:=f;rw[←e]
    rw[j];match b.1,d with
    |c::l,_=>exact List.Lex.nil
  ·intro a f b g
   obtain⟨p,_,rfl⟩:=qr.1 f;obtain⟨n,k,e,_⟩:=mB h.2.2.2.2 (nZ (F:=rest).1 (show(b.1,b.2)∈_ from g))
   have d:b.1≠[]:=kM h.2.2.2.2 (nZ (F:=rest).1 (show(b.1,b.2)∈_ from g))
   have:=h.2.2.2.1 n k;exact HB d (by rw[lL h.1];omega)
theorem I6{w:Option ByteArray}{F:Fo}(h:dS F):Up (ll w F):=by
 refine cE.2 ⟨by cases w<;>simp,DH h,?_⟩
 intro a g b i;have d:b.1≠[]:=kM h (nZ (F:=F).1 (show(b.1,b.2)∈_ from i))
 have f:a.1= []:=by
  rw[Option.mem_toList,gT]at g;obtain⟨v,_,e⟩:=g;rw[←e]
 rw[f];match b.1,d with
 |c::l,_=>exact List.Lex.nil
theorem GX:∀{l l':List (List UInt8×ByteArray)},Up l→Up l'→(∀p,p∈l↔p∈l')→l=l'
 | [],[],_,_,_=>rfl
 | [],q::l',_,_,h=>absurd ((h q).2 (ax ..)) (by simp)
 |p::l,[],_,_,h=>absurd ((h p).1 (ax ..)) (by simp)
 |p::l,q::l',c,a,h=>by
  have c:=bh.1 c;have a:=bh.1 a;have e:p=q:=by
   rcases ar.1 ((h p).1 (ax ..))with e|d
   ·exact e
   ·rcases ar.1 ((h q).2 (ax ..))with e|f
    ·exact e.symm
    ·exact absurd (List.lt_trans (c.1 q f) (a.1 p d)) (nQ _)
  subst e;rw[GX c.2 a.2 fun z=>?_]
  constructor
  ·intro hz
   rcases ar.1 ((h z).1 (aI _ hz))with e|b
   ·exact absurd (c.1 z hz) (by rw[e];exact nQ _)
   ·exact b
  ·intro hz
   rcases ar.1 ((h z).2 (aI _ hz))with e|b
   ·exact absurd (a.1 z hz) (by rw[e];exact nQ _)
   ·exact b
def CS:Fo→Nat
 | .nil=>0
 | .cons _ _ kids rest=>1+CS kids+CS rest
theorem Bm:∀{F:Fo},dS F→CS F+F.toL.length≤2*(sP F).length
 | .nil,_=>by simp[CS,Fo.toL]
 | .cons lab w kids rest,h=>by
  have b:=Bm h.2.2.1;have c:=Bm h.2.2.2.2;have a:=h.2.1;rw[Fo.toL_cons];unfold CS sP;rw[af,j4,af,aL];cases w with
  |none=>
   simp only[Option.map_none,Option.toList_none,cL];have:2≤kids.toL.length:=a.resolve_left (by simp);omega
  |some v=>simp only[Option.map_some,Option.toList_some,bd];omega
def C5:Fo→Prop
 | .nil=>True
 | .cons lab w kids rest=>lab.length≤10000∧(∀v,w=some v→v.size≤10000)∧kids.toL.length≤256∧C5 kids∧C5 rest
theorem Ef:∀{F:Fo},dS F→(∀k v,l6 F k v→k.length≤10000∧v.size≤10000)→C5 F
 | .nil,_,_=>trivial
 | .cons lab w kids rest,h,hl=>by
  obtain⟨r,v,c⟩:=jL h _ (ax ..);have b:=(hl _ v (dL.2 ⟨_,ax ..,r,rfl,c⟩)).1;rw[af]at b;simp only at b;refine⟨by omega,fun v hv=>(hl lab v (.inl ⟨[],(bO _).symm,.inl ⟨rfl,hv⟩⟩)).2,j2 h.2.2.1,Ef h.2.2.1 fun k v a=>?_,Ef h.2.2.2.2 fun k v a=>hl k v (.inr a)⟩
  have:=hl (lab++k) v (.inl ⟨k,rfl,.inr a⟩);rw[af]at this;exact⟨by omega,this.2⟩
def wX:Option ByteArray→List UInt8
 |some v=>1::qw v
 |none=> [0]
def nY(lab:List UInt8)(w:Option ByteArray)(n:Nat):List UInt8:=qw ⟨lab.toArray⟩++(wX w++lK n 2)
def kF:Fo→List UInt8
 | .nil=> []
 | .cons lab w kids rest=>nY lab w kids.toL.length++(kF kids++kF rest)
def j8(n:Bn):List UInt8:=nY n.1 n.2.1 n.2.2.toL.length++kF n.2.2
theorem wp:∀F:Fo,kF F=F.toL.flatMap j8
 | .nil=>rfl
 | .cons lab w kids rest=>by
  rw[Fo.toL_cons,aJ,←wp rest];show nY lab w kids.toL.length++(kF kids++kF rest)=(nY lab w kids.toL.length++kF kids)++kF rest
  rw[ao]
theorem zW{lab:List UInt8}{w:Option ByteArray}{n:Nat}(b:lab.length≤10000)(a:∀v,w=some v→v.size≤10000):(nY lab w n).length≤20010:=by
 unfold nY;rw[af,af,gt,dU];have e:(gU lab.toArray).size=lab.length:=by simp[ByteArray.size]
 rw[e];cases w with
 |none=>simp only[wX,bd];omega
 |some v=>have:=a v rfl;simp only[wX,aL,gt];omega
theorem sL:∀{F:Fo},C5 F→(kF F).length≤CS F*20010
 | .nil,_=>by simp[kF]
 | .cons lab w kids rest,h=>by
  have a:=zW (n:=kids.toL.length) h.1 h.2.1;have c:=sL h.2.2.2.1;have b:=sL h.2.2.2.2;unfold kF CS;rw[af,af,kD,kD];omega
theorem zX{lab a:List UInt8}{w w':Option ByteArray}{n f:Nat}{r i:List UInt8}(j:lab.length≤10000)(d:a.length≤10000)(o:∀v,w=some v→v.size≤10000)(g:∀v,w'=some v→v.size≤10000)(q:n≤256)(m:f≤256)(h:nY lab w n++r=nY a w' f++i):lab=a∧w=w'∧n=f∧r=i:=by
 unfold nY at h;simp only[ao]at h;have z:∀l:List UInt8,(gU l.toArray).size=l.length:=fun l=>by simp[ByteArray.size]
 obtain⟨c,h⟩:=rC (by rw[z];exact j) (by rw[z];exact d) h;have c:lab=a:=by
  have:=congrArg (fun b:ByteArray=>b.data.toList) c
  simpa using this
 cases w with
 |none=>
  cases w' with
  |none=>
   simp only[wX,dd,List.nil_append,gx.injEq,true_and]at h;obtain⟨e,h⟩:=pz (k:=2) (by omega) (by omega) h;exact⟨c,rfl,e,h⟩
  |some v=>simp[wX]at h
 |some v=>
  cases w' with
  |none=>simp[wX]at h
  |some v'=>
   simp only[wX,dd,gx.injEq,true_and]at h;obtain⟨p,h⟩:=rC (o v rfl) (g v' rfl) h;obtain⟨e,h⟩:=pz (k:=2) (by omega) (by omega) h;exact⟨c,by rw[p],e,h⟩
theorem sM:∀{F F':Fo} {r r':List UInt8},C5 F→C5 F'→F.toL.length=F'.toL.length→kF F++r=kF F'++r'→F=F'∧r=r'
 | .nil,.nil,_,_,_,_,_,h=>⟨rfl,h⟩
 | .nil,.cons ..,_,_,_,_,e,_=>by simp[Fo.toL]at e
 | .cons ..,.nil,_,_,_,_,e,_=>by simp[Fo.toL]at e
 | .cons lab w kids rest,.cons lab' w' kids' rest',r,r',h1,h2,e,h=>by
  unfold kF at h;simp only[ao]at h;obtain⟨c,b,f,h⟩:=zX h1.1 h2.1 h1.2.1 h2.2.1 h1.2.2.1 h2.2.2.1 h;obtain⟨a,h⟩:=sM h1.2.2.2.1 h2.2.2.2.1 f h;obtain⟨d,h⟩:=sM h1.2.2.2.2 h2.2.2.2.2 (by rw[Fo.toL_cons,Fo.toL_cons]at e;simpa using e) h;exact⟨by rw[c,b,a,d],h⟩
end Go.Proofs
namespace Go.Proofs
open Go Go.Lift
theorem Js{M:Nat→Prop}{h:ae}{c:SliceV}{out ys:List UInt8}{vs:List Value}(hv:vs=ys.flatMap po){n:Nat}(d:n=ys.length){K:SliceV→ae→Prop}(g:OwnS po 1 dx M h c out)(hM:∀b,h.size≤b→M b)(m:out.length+ys.length≤140737488355328)
  (j:∀s' a,OwnS po 1 dx M a s' (out++ys)→Upd M h a→K s' a):
  ∃xs,SRow (hnew h vs dx) (some (aU h)) (n*1) xs∧AppP (some [.int .u8 0]) 1 1 dx c.a c.len c.cap n xs (hnew h vs dx) K:=by
 subst hv d;have k:=Upd.hnew No h (ys.flatMap po) dx;have f:OwnS po 1 dx (fun _=>True) (hnew h (ys.flatMap po) dx) ⟨some (aU h),ys.length,ys.length⟩ ys:=⟨rfl,vE,aw _,.inr ⟨h.size,[],rfl,trivial,by rw[bO];exact ci ..,by simp⟩⟩
 refine⟨_,(f.sl (W:=No) fun _ _ _ h=>h).srow,?_⟩
 refine AppP.own (ys:=ys) (g.upd k fun _ _ h=>h) rfl rfl (xo _) rfl (by omega) (by omega) (hM _ (by rw[jd];omega)) fun s' a e i=>?_
 exact j s' a e ((Upd.hnew M h _ _).tr i)
def L3(W:Nat→Prop)(n:Bn):Prop:=∀{b:Nat} {sl:ByteArray} {h0 h:ae} {M:Nat→Prop} {s:SliceV} {xs:List UInt8},RxN W h0 b sl n.2.1 n.2.2→sl.data.toList=n.1→Upd No h0 h→(∀y,M y→h0.size≤y)→OwnS po 1 dx M h s xs→(∀y,h.size≤y→M y)→
 xs.length+(j8 n).length≤140737488355328→∀{K:SliceV→ae→Prop},(∀s' h',OwnS po 1 dx M h' s' (xs++j8 n)→Upd M h h'→K s' h')→HC PG gn [.pointer (some ⟨b,0,none⟩),.slice s.a s.len s.cap] [.c .slice] K h
theorem G8{W:Nat→Prop}{lab:List UInt8}{w:Option ByteArray}{c:Fo}(hl:lab.length≤10000)(hw:∀v,w=some v→v.size≤10000)(hk256:c.toL.length≤256)(ih:∀m∈c.toL,L3 W m):L3 W (lab,w,c):=by
 intro b sl h0 h M s xs r F T H ho hM hx K O;simp only at r F;have E:(⟨lab.toArray⟩:ByteArray)=sl:=by rw[←F]
 refine rS (some ⟨b,0,none⟩) s ?_;unfold mQ cG f6 bQ bL ii qL JP KZ;obtain⟨val,z,ow,ks,V,hv,hs,hcap,hF⟩:=r;have hL:=p6.1 hF;have st:∀{j},Upd M h j→Upd No h0 j:=fun k=>T.trans k fun y Z=>.inr (H y Z)
 have blk:∀{j},Upd M h j→j[b]? =some (.cells (rP sl w.isSome val z ow) aR (0,0)):=fun k=>(st k).get0 V
 have q:∀{j},Upd M h j→∀y,j.size≤y→M y:=fun k y Z=>hM y (bp k.size Z)
 have S:sl.size=lab.length:=by rw[←F];simp
 have x:=hs.len;rw[hL.1]at x;unfold j8 at hx O;rw[wp]at hx O;simp only at hx O;rw[af]at hx;have J:(nY lab w c.toL.length).length=2+lab.length+((wX w).length+2):=by
  unfold nY;rw[af,af,gt,dU,E,S]
 refine⟨_,rfl,sl,c5 (i:=0) (blk (Upd.refl M h)),?_⟩;refine xk (W:=No) (ho.sl fun _ _ _ h=>h) ho.cap sl (by omega) (by omega) fun s2 h2 C hu2=>?_
 have C:=C.more hM;have d:Upd M h h2:=hu2.wide;refine Join.intro (fun t j=>OwnS po 1 dx M j t (xs++qw sl++(wX w))∧Upd M h j) (fun R P=>⟨_,rfl,w.isSome,c5 (i:=1) (blk d),?_⟩) ?_
 ·cases w with
  |none=>
   refine ak.2 (bG ?_);refine pE (b:=0) rfl C (q d) ?_ fun s3 N o f=>P _ _ ⟨o,d.tr f⟩
   rw[af,gt];simp only[wX,bd]at J;omega
  |some v=>
   have X:=vw hv v rfl;subst X;have hvs:=hw val rfl;simp only[wX,aL,gt]at J;have k3:Upd M h (hnew h2 [.int .u8 1] dx):=d.tr (Upd.hnew M h2 _ _);refine aA.2 ⟨_,rfl,val,c5 (i:=2) (blk d),bG ⟨c5 (i:=2) (blk k3),?_⟩⟩;refine pE (b:=1) rfl C (q d) (by rw[af,gt];omega) fun s3 N o f=>⟨c5 (i:=2) (blk (d.tr f)),?_⟩
   refine xk (W:=No) (o.sl fun _ _ _ h=>h) o.cap val (by omega) (by rw[af,af,gt,bd];omega) fun s4 h4 n D=>P _ _ ⟨?_,(d.tr f).tr D.wide⟩
   have n:=n.more (q (d.tr f));simp only[wX,ao,List.singleton_append]at n⊢;exact n
 ·rintro s3 N ⟨o,f⟩
  have e8:Int.fdiv (z.len:Int) (2^(min (8:Int).toNat (IntKind.bits .i64)))=((c.toL.length>>>8:Nat):Int):=by
   have:(2^(min (8:Int).toNat (IntKind.bits .i64)):Int)=2^8:=rfl;rw[this,x,iL]
  refine Join.intro (fun t j=>OwnS po 1 dx M j t (xs++nY lab w c.toL.length)∧Upd M h j) (fun R P=>⟨_,rfl,z,c5 (i:=3) (blk f),_,rfl,z,c5 (i:=3) (blk f),by omega,?_⟩) ?_
  ·simp only[Bd]
   rw[e8];have k4:Upd M h (hnew N [.int .u8 (IntKind.wrap .u8 (z.len:Int)),.int .u8 (IntKind.wrap .u8 ((c.toL.length>>>8:Nat):Int))] dx):=f.tr (Upd.hnew M N _ _);refine bG ⟨c5 (i:=3) (blk k4),c5 (i:=3) (blk k4),?_⟩;refine Js (ys:=lK c.toL.length 2) ?_ rfl o (q f) ?_ fun s5 h5 G u=>⟨c5 (i:=3) (blk (f.tr u)),c5 (i:=3) (blk (f.tr u)),P _ _ ⟨?_,f.tr u⟩⟩
   ·rw[x,IntKind.wrap_u8,IntKind.wrap_u8]
    simp[lK,ft]
   ·rw[af,af,gt,dU];omega
   ·unfold nY
    rw[E,←ao,←ao];exact G
  ·rintro s4 h4 ⟨n,D⟩
   refine⟨_,rfl,z,c5 (i:=3) (blk D),?_⟩;have hs4:∀{j},Upd M h j→Sl jW 1 W j z ks:=fun k=>hs.upd (st k) fun _ h=>h.elim
   refine LoopP.ghost (fun(i:Nat) (t:SliceV×Int) j=>t.2=(i:Int)∧i≤c.toL.length∧OwnS po 1 dx M j t.1 (xs++nY lab w c.toL.length++(c.toL.take i).flatMap j8)∧Upd M h j) (fun i=>c.toL.length-i) 0 ⟨rfl,bD _,by simpa using n,D⟩ ?_
   rintro I i ⟨so,ti⟩ j ⟨e1,hi,A,p⟩ hI;simp only at e1 A;subst e1;have B:∀g:i<c.toL.length,((c.toL.take i).flatMap j8).length+(j8 c.toL[i]).length≤(c.toL.flatMap j8).length:=fun g=>by
    have e:c.toL=c.toL.take i++c.toL[i]::c.toL.drop (i+1):=by rw[List.getElem_cons_drop,bB]
    have:=congrArg (fun L=>(List.flatMap j8 L).length) e
    simp only[be,aJ,af]at this;omega
   refine bf (fun g=>?_) fun Q=>?_
   ·have g:i<c.toL.length:=by have:(i:Int)<(z.len:Int):=g;omega
    obtain⟨kb,ksl,hki,hkl,Y⟩:=hL.at g;obtain⟨a,ha,_,U⟩:=(hs4 p).at0 hki;have hsp:=B g;refine⟨⟨by simp only;omega,by simp only;omega⟩,a,ha,some ⟨kb,0,none⟩,U,?_⟩
    refine ih _ (bm g) Y hkl (st p) H A (q p) (by rw[af,af];omega) fun s5 h5 G u=>?_
    rw[fY g (by omega)];refine hI (i+1) _ _ ⟨rfl,g,?_,p.tr u⟩ (by omega);rw[List.take_succ_eq_append_getElem g,be,aJ,List.flatMap_nil,bO,←ao];exact G
   ·have hil:i=c.toL.length:=by have:¬(i:Int)<(z.len:Int):=Q;omega
    subst hil;rw[cP]at A;refine O _ _ ?_ p;rw[←ao];exact A
theorem AK{W:Nat→Prop}:∀{F:Fo},C5 F→∀n∈F.toL,L3 W n
 | .nil,_,n,a=>by simp[Fo.toL]at a
 | .cons lab w kids rest,h,n,a=>by
  rcases ar.1 a with rfl|a
  ·exact G8 h.1 h.2.1 h.2.2.1 (AK h.2.2.2.1)
  ·exact AK h.2.2.2.2 n a
structure RadAt(W:Nat→Prop)(h:ae)(b:Nat)(l:List Pr):Prop where
 ex:∃w F,RxN W h b ⟨#[]⟩ w F∧dS F∧∀k v,(k,v)∈ll w F↔∃p∈l,p.1.data.toList=k∧p.2=v
theorem RadAt.upd0{W:Nat→Prop}{h a:ae}{b:Nat}{l:List Pr}(k:Upd No h a)(r:RadAt W h b l):RadAt W a b l:=by
 obtain⟨w,F,c,d,e⟩:=r.ex;exact⟨w,F,c.upd0 k,d,e⟩
theorem RadAt.less{W W':Nat→Prop}{h:ae}(hm:∀b,W' b→W b∨h.size≤b){b:Nat}{l:List Pr}(r:RadAt W h b l):RadAt W' h b l:=by
 obtain⟨w,F,a,c,d⟩:=r.ex;exact⟨w,F,a.less hm,c,d⟩
theorem RadAt.updM{W M:Nat→Prop}{h a:ae}(k:Upd M h a)(hm:∀b,M b→W b∨h.size≤b){b:Nat}{l:List Pr}(r:RadAt W h b l):RadAt W a b l:=by
 obtain⟨w,F,c,d,e⟩:=r.ex;exact⟨w,F,c.updM k hm,d,e⟩
def FL(l:List Pr):List (List UInt8×ByteArray):=l.map fun p=>(p.1.data.toList,p.2)
theorem JV{l:List Pr}(c:cq l):Up (FL l):=by
 unfold FL Up;rw[List.pairwise_map];refine List.Pairwise.imp (R:=fun p q:Pr=>kl p.1 q.1) (fun{a b} h=>?_) c
 rw[DU,ByteArray.toList_eq,ByteArray.toList_eq]at h;exact h
theorem EY:∀{l l':List Pr},FL l=FL l'→l=l'
 | [],[],_=>rfl
 | [],_::_,h=>by simp[FL]at h
 |_::_,[],h=>by simp[FL]at h
 |p::l,q::l',h=>by
  unfold FL at h;simp only[List.map_cons,gx.injEq,qo.injEq]at h;obtain⟨⟨c,f⟩,d⟩:=h;have e:p.1=q.1:=by
   generalize p.1=a at c;generalize q.1=b at c;cases a;cases b;exact congrArg gU (fL.1 c)
  rw[EY d,Prod.ext e f]
theorem E3{w:Option ByteArray}{F:Fo}{l:List Pr}(hc:dS F)(f:cq l)(b:∀k v,(k,v)∈ll w F↔∃p∈l,p.1.data.toList=k∧p.2=v):ll w F=FL l:=by
 refine GX (I6 hc) (JV f) fun p=>?_
 have:=b p.1 p.2;rw[show(p.1,p.2)=p from rfl]at this
 rw[this];unfold FL;rw[qr];constructor
 ·rintro⟨q,a,d,c⟩;exact⟨q,a,Prod.ext d c⟩
 ·rintro⟨q,a,e⟩;rw[←e];exact⟨q,a,rfl,rfl⟩
theorem He{w w':Option ByteArray}{F F':Fo}(hc:dS F)(a:dS F')(h:ll w F=ll w' F'):w=w'∧F=F':=by
 have hm:∀k v,mD w F k v↔mD w' F' k v:=fun k v=>by rw[←kJ,←kJ,h]
 refine⟨Option.ext fun v=>?_,Eo hc a fun k v=>?_⟩
 ·have:=hm [] v
  constructor
  ·intro e
   rcases this.1 (.inl ⟨rfl,e⟩)with⟨_,h⟩|h
   ·exact h
   ·exact absurd rfl (kM a h)
  ·intro e
   rcases this.2 (.inl ⟨rfl,e⟩)with⟨_,h⟩|h
   ·exact h
   ·exact absurd rfl (kM hc h)
 ·constructor
  ·intro hi
   rcases(hm k v).1 (.inr hi)with⟨e,_⟩|h
   ·exact absurd e (kM hc hi)
   ·exact h
  ·intro hi
   rcases(hm k v).2 (.inr hi)with⟨e,_⟩|h
   ·exact absurd e (kM a hi)
   ·exact h
end Go.Proofs
namespace Go.Proofs
open Go Go.Lift
theorem oa{p q:Pr}:∀{l:List Pr},cq l→(q∈ic p l↔q=p∨(q∈l∧q.1≠p.1))
 | [],_=>by simp[ic]
 |r::l,d=>by
  have d:=bh.1 d;rw[jc];by_cases c:kl r.1 p.1
  ·have f:r.1≠p.1:=fun e=>by rw[e]at c;exact db _ c
   rw[if_pos c,ar,ar,oa d.2];constructor
   ·rintro(rfl|h|⟨h,a⟩)
    ·exact .inr ⟨.inl rfl,f⟩
    ·exact .inl h
    ·exact .inr ⟨.inr h,a⟩
   ·rintro(h|⟨h|h,a⟩)
    ·exact .inr (.inl h)
    ·exact .inl h
    ·exact .inr (.inr ⟨h,a⟩)
  ·rw[if_neg c]
   by_cases b:r.1=p.1
   ·rw[if_pos b,ar,ar]
    constructor
    ·rintro(h|h)
     ·exact .inl h
     ·refine .inr ⟨.inr h,fun e=>?_⟩
      have:=d.1 q h;rw[e,b]at this;exact db _ this
    ·rintro(h|⟨rfl|h,a⟩)
     ·exact .inl h
     ·exact absurd b a
     ·exact .inr h
   ·rw[if_neg b,ar,ar]
    have g:=yk c b;constructor
    ·rintro(h|rfl|h)
     ·exact .inl h
     ·exact .inr ⟨.inl rfl,b⟩
     ·refine .inr ⟨.inr h,fun e=>?_⟩
      have:=kL g (d.1 q h);rw[e]at this;exact db _ this
    ·rintro(h|⟨rfl|h,a⟩)
     ·exact .inl h
     ·exact .inr (.inl rfl)
     ·exact .inr (.inr h)
def RadRoot(W:Nat→Prop)(h:ae)(r:Option Addr)(l:List Pr):Prop:=(r=none∧l= [])∨∃b,r=some ⟨b,0,none⟩∧RadAt W h b l
theorem RadRoot.upd0{W:Nat→Prop}{h a:ae}{r:Option Addr}{l:List Pr}(k:Upd No h a)(t:RadRoot W h r l):RadRoot W a r l:=t.imp id fun⟨b,e,t⟩=>⟨b,e,t.upd0 k⟩
theorem qj{a b:ByteArray}:a.data.toList=b.data.toList↔a=b:=by
 constructor
 ·intro h;cases a;cases b;exact congrArg gU (fL.1 h)
 ·rintro rfl;rfl
theorem Ds{W:Nat→Prop}{h:ae}(a:∀y,W y→y<h.size){K:Option Addr→ae→Prop}(c:∀h' b,RadAt W h' b []→Upd No h h'→K (some ⟨b,0,none⟩) h'):HC PG l4 [] [.c .ptr] K h:=by
 refine zu ?_;unfold sw BN;refine bG (c _ h.size ⟨none,.nil,⟨⟨#[]⟩,⟨none,0,0⟩,none,[],ci h JC aR,rfl,Sl.nil lG,⟨aw _,fun hx=>Nat.lt_irrefl _ (a _ hx),ia⟩,rfl⟩,trivial,fun k v=>?_⟩ (Upd.hnew No h _ _))
 simp[ll,sP]
def GB(l:List Pr)(xs:List UInt8):Prop:=∃w F,dS F∧ll w F=FL l∧xs=j8 ([],w,F)
theorem ui{w:Option ByteArray}{F:Fo}{l:List Pr}(hc:dS F)(b:ll w F=FL l)(a:Fit l):C5 F∧∀v,w=some v→v.size≤10000:=by
 have hm:∀k v,mD w F k v→k.length≤10000∧v.size≤10000:=fun k v hi=>by
  have:=kJ.2 hi;rw[b]at this;obtain⟨q,c,e⟩:=qr.1 this;cases e;have:=a q c;exact⟨by simpa using this.1,this.2⟩
 exact⟨Ef hc fun k v hi=>hm k v (.inr hi),fun v hv=>(hm [] v (.inl ⟨rfl,hv⟩)).2⟩
theorem IZ{l l':List Pr}{xs a:List UInt8}(h:GB l xs)(k:GB l' a)(j:Fit l)(d:Fit l'):xs=a↔l=l':=by
 obtain⟨w,F,c,e,rfl⟩:=h;obtain⟨w',F',c',e',rfl⟩:=k;have g:=ui c e j;have i:=ui c' e' d;constructor
 ·intro hx
  have hx:j8 ([],w,F)++ []=j8 ([],w',F')++ []:=by rw[hx]
  unfold j8 at hx;simp only[ao]at hx;obtain⟨_,f,m,hx⟩:=zX (bD _) (bD _) g.2 i.2 (j2 c) (j2 c') hx;obtain⟨b,_⟩:=sM g.1 i.1 m hx;exact EY (by rw[←e,←e',f,b])
 ·rintro rfl
  obtain⟨f,b⟩:=He c c' (e.trans e'.symm);rw[f,b]
theorem Cd{l:List Pr}{xs:List UInt8}(h:GB l xs)(d:Fit l):xs.length≤20010+2*l.length*20010:=by
 obtain⟨w,F,c,e,rfl⟩:=h;have b:=ui c e d;have f:=zW (lab:= []) (n:=F.toL.length) (bD _) b.2;have j:=sL b.1;have g:=Bm c;have a:=congrArg gl e;unfold ll FL at a;rw[af,j4]at a;have i:CS F*20010≤2*l.length*20010:=Nat.mul_le_mul_right _ (by omega);unfold j8;rw[af];simp only;omega
theorem Ce{W:Nat→Prop}{h:ae}{b:Nat}{l:List Pr}(t:RadAt W h b l)(n:cq l)(e:Fit l)(q:l.length≤60000){K:SliceV→ae→Prop}
  (o:∀s' a xs,GB l xs→OwnS po 1 dx (fun y=>h.size≤y) a s' xs→Upd No h a→K s' a):HC PG pa [.pointer (some ⟨b,0,none⟩)] [.c .slice] K h:=by
 refine zs _ ?_;unfold su;refine ak.2 ?_;obtain⟨w,F,k,c,j⟩:=t.ex;have f:=E3 c n j;have d:=ui c f e;have hv:GB l (j8 ([],w,F)):=⟨w,F,c,f,rfl⟩;have p:=Cd hv e;exact G8 (lab:= []) (bD _) d.2 (j2 c) (AK d.1) (s:=⟨none,0,0⟩) (xs:= []) (M:=fun y=>h.size≤y) k rfl (Upd.refl _ _) (fun _ h=>h) (OwnS.nil vE) (fun _ h=>h) (by rw[cL];omega) fun s' a i m=>o s' a _ hv i (m.mono fun y g=>.inr g)
end Go.Proofs
namespace Go.Proofs
open Go Go.Lift
theorem bi{h:ae}{cs:List Value}{t:TypeId}{k:ae→Prop}(a:∀h',h'[h.size]? =some (.cells cs.toArray t (0,0))→Upd No h h'→k h'):At (hnew h cs t) k:=
 bG (a _ (ci h cs t) (Upd.hnew No h cs t))
theorem vc{h:ae}{b:Nat}{c:Array Value}{t:TypeId}(a:h[b]? =some (.cells c t (0,0))) (i:Nat):aQ h (adr ⟨b,0,none⟩ i)=c[i]?:=by rw[bC,aC];exact aV a
theorem qv{h:ae}{b:Nat}{c:Array Value}{t:TypeId}(a:h[b]? =some (.cells c t (0,0))) (i j:Nat):aQ h (adr (adr ⟨b,0,none⟩ i) j)=c[i+j]?:=by rw[bC,bC,aC];exact aV a
theorem vd{h:ae}{b i:Nat}{c c':Array Value}{t:TypeId}{v:Value}{k:ae→Prop}(f:h[b]? =some (.cells c t (0,0))) (hi:i<c.size) (e:c.setIfInBounds i v=c') (j:∀a,a[b]? =some (.cells c' t (0,0))→Upd (· =b) h a→k a):Wr h (adr ⟨b,0,none⟩ i)∧At (hset h (adr ⟨b,0,none⟩ i) v) k:=by
 rw[bC,aC];exact⟨gL f hi,vI f fun a d g=>j a (e▸d) g⟩
theorem _root_.Go.Lift.Upd.own{h a c:ae}{b:Nat}(k:Upd No h a)(d:Upd (· =b) a c)(e:h.size≤b):Upd No h c:=k.trans d fun x hx=>.inr (by have hx:x=b:=hx;omega)
theorem _root_.Go.Lift.Upd.oth{h d:ae}{b c:Nat}{o:Obj}(e:Upd (· =b) h d)(hc:h[c]? =some o) (a:c≠b):d[c]? =some o:=e.get hc a
abbrev Tr:=Int×Int×Int×Int×(Option Addr)×(Option Addr)
abbrev fA(t:Tr):List Value:= [.int .i64 t.1,.int .u64 t.2.1,.int .u64 t.2.2.1,.int .u64 t.2.2.2.1,.pointer t.2.2.2.2.1,.pointer t.2.2.2.2.2]
abbrev EX(t:Tr):Value:=.agg #[.int .i64 t.1,.int .u64 t.2.1,.int .u64 t.2.2.1,.int .u64 t.2.2.2.1,.pointer t.2.2.2.2.1,.pointer t.2.2.2.2.2]
def Pro(W:Nat→Prop)(h a:ae)(y:Nat):Prop:=W y∨(h.size≤y∧y<a.size)
theorem Pro.lt{W:Nat→Prop}{h a:ae}(c:∀y,W y→y<h.size)(k:Upd No h a):∀y,Pro W h a y→y<a.size:=fun y b=>b.elim (fun h=>bv (c y h) k.size) fun h=>h.2
theorem Pro.hm{W:Nat→Prop}{h b:ae}:∀y,Pro W h b y→W y∨h.size≤y:=fun _ a=>a.imp id fun h=>h.1
theorem Pro.sub{W:Nat→Prop}{h c b:ae}:∀y,W y→Pro W h c y∨b.size≤y:=fun _ a=>.inl (.inl a)
theorem RootAt.less{W W':Nat→Prop}{x:Hs}{h:ae}(hm:∀b,W' b→W b∨h.size≤b){r:Option Addr}{l:List Pr}(t:RootAt W x h r l):RootAt W' x h r l:=t.imp id fun⟨b,e,t⟩=>⟨b,e,TrieAt.less hm t⟩
theorem RadRoot.less{W W':Nat→Prop}{h:ae}(hm:∀b,W' b→W b∨h.size≤b){r:Option Addr}{l:List Pr}(t:RadRoot W h r l):RadRoot W' h r l:=t.imp id fun⟨b,e,t⟩=>⟨b,e,t.less hm⟩
def TreeIs(W:Nat→Prop)(h:ae)(a:Int)(x:Hs)(t:Tr)(l:List Pr):Prop:=(a=0∧∃b,t=(0,x.k0,x.k1,x.mask,some ⟨b,0,none⟩,none)∧TrieAt W x h 13 b l)∨(a=1∧∃b,t=(1,0,0,0,none,some ⟨b,0,none⟩)∧RadAt W h b l)
theorem TreeIs.upd0{W:Nat→Prop}{h d:ae}{a:Int}{x:Hs}{t:Tr}{l:List Pr}(k:Upd No h d)(i:TreeIs W h a x t l):TreeIs W d a x t l:=
 i.imp (fun⟨e,b,c,t⟩=>⟨e,b,c,TrieAt.upd0 k t⟩) fun⟨e,b,c,t⟩=>⟨e,b,c,t.upd0 k⟩
theorem TreeIs.less{W W':Nat→Prop}{h:ae}(hm:∀b,W' b→W b∨h.size≤b){a:Int}{x:Hs}{t:Tr}{l:List Pr}(i:TreeIs W h a x t l):TreeIs W' h a x t l:=
 i.imp (fun⟨e,b,c,t⟩=>⟨e,b,c,TrieAt.less hm t⟩) fun⟨e,b,c,t⟩=>⟨e,b,c,t.less hm⟩
theorem TreeIs.updM{W M:Nat→Prop}{h d:ae}(k:Upd M h d)(hm:∀b,M b→W b∨h.size≤b){a:Int}{x:Hs}{t:Tr}{l:List Pr}(i:TreeIs W h a x t l):TreeIs W d a x t l:=
 i.imp (fun⟨e,b,c,t⟩=>⟨e,b,c,TrieAt.updM k hm t⟩) fun⟨e,b,c,t⟩=>⟨e,b,c,t.updM k hm⟩
theorem TreeIs.pro{W:Nat→Prop}{h b:ae}(k:Upd No h b){a:Int}{x:Hs}{t:Tr}{l:List Pr}(i:TreeIs W h a x t l):TreeIs (Pro W h b) b a x t l:=(i.less Pro.hm).upd0 k
theorem zk{W:Nat→Prop}{x:Hs}{h:ae}(d:∀y,W y→y<h.size){K:Option Addr→ae→Prop}(f:∀a b,TrieAt W x a 13 b []→Upd No h a→K (some ⟨b,0,none⟩) a):HC PG jN [] [.c .ptr] K h:=by
 refine zy ?_;unfold sC;exact qc d fun a b c e=>f a b (G0 c) e
abbrev xj:Tr:=(0,0,0,0,none,none)
theorem B0{W:Nat→Prop}{x:Hs}{h:ae}{r:Option Addr}{l:List Pr}(t:RootAt W x h r l)(s:∀y,W y→y<h.size){K:Tr→ae→Prop}(v:∀f t,TreeIs W f 0 x t l→Upd No h f→K t f):HC PG nq [.agg #[.int .u64 x.k0,.int .u64 x.k1,.int .u64 x.mask],.pointer r] [.agg [.int .i64,.int .u64,.int .u64,.int .u64,.ptr,.ptr]] K h:=by
 refine yS (x.k0,x.k1,x.mask) r ?_;unfold ru aZ ag ay fH BL rB wd;refine bi fun k b1 k1=>bi fun p b2 o=>?_
 have z:=aG b1;have w:=aG b2;have d:=k1.tr o;refine Join.intro (fun t f=>Upd No p f∧∃b,t=some ⟨b,0,none⟩∧TrieAt (Pro W h p) x f 13 b l) (fun R m=>?_) ?_
 ·rcases t with⟨rfl,rfl⟩|⟨b,rfl,t⟩
  ·exact aA.2 (zk (Pro.lt s d) fun u b t a=>m _ _ ⟨a,b,rfl,t⟩)
  ·exact ak.2 (m _ _ ⟨Upd.refl _ _,b,rfl,TrieAt.upd0 d (TrieAt.less Pro.hm t)⟩)
 ·rintro n u ⟨a,b,rfl,n⟩
  have c1:=a.get0 (o.get0 b1);refine⟨_,vc c1 0,_,vc c1 1,_,vc c1 2,?_⟩;refine dy (c:=fA xj) (vs:=fA (0,x.k0,x.k1,x.mask,some ⟨b,0,none⟩,none)) (a.get0 b2) rfl fun q e g=>?_
  refine⟨_,vc e 0,_,vc e 1,_,vc e 2,_,vc e 3,_,vc e 4,_,vc e 5,?_⟩;have i:h.size≤k.size:=k1.size;exact v q _ (.inl ⟨rfl,b,rfl,TrieAt.less Pro.sub (TrieAt.updM g (fun y j=>.inl (.inr (by have j:y=k.size:=j;omega))) n)⟩) ((d.tr a).own g i)
theorem BZ{W:Nat→Prop}{x:Hs}{h:ae}{r:Option Addr}{l:List Pr}(t:RadRoot W h r l)(o:∀y,W y→y<h.size){K:Tr→ae→Prop}(q:∀f t,TreeIs W f 1 x t l→Upd No h f→K t f):HC PG np [.pointer r] [.agg [.int .i64,.int .u64,.int .u64,.int .u64,.ptr,.ptr]] K h:=by
 refine yR r ?_;unfold rt aZ ag ay fH rB wd;refine bi fun m b2 d=>?_
 have s:=aG b2;refine Join.intro (fun t f=>Upd No m f∧∃b,t=some ⟨b,0,none⟩∧RadAt (Pro W h m) f b l) (fun R j=>?_) ?_
 ·rcases t with⟨rfl,rfl⟩|⟨b,rfl,t⟩
  ·exact aA.2 (Ds (Pro.lt o d) fun p b t a=>j _ _ ⟨a,b,rfl,t⟩)
  ·exact ak.2 (j _ _ ⟨Upd.refl _ _,b,rfl,(t.less Pro.hm).upd0 d⟩)
 ·rintro k p ⟨a,b,rfl,k⟩
  refine dy (c:=fA xj) (vs:=fA (1,0,0,0,none,some ⟨b,0,none⟩)) (a.get0 b2) rfl fun n e g=>?_
  refine⟨_,vc e 0,_,vc e 1,_,vc e 2,_,vc e 3,_,vc e 4,_,vc e 5,?_⟩;exact q n _ (.inr ⟨rfl,b,rfl,(k.updM g (fun y i=>.inl (.inr (by have i:y=h.size:=i;omega)))).less Pro.sub⟩) ((d.tr a).own g (aw _))
theorem E0{W:Nat→Prop}{x:Hs}{h:ae}(o:∀y,W y→y<h.size){a:Int}(n:a=0∨a=1){K:Tr×Int→ae→Prop}(s:∀h' t,TreeIs W h' a x t []→Upd No h h'→K (t,0) h'):HC PG qf [.int .i64 a,.agg #[.int .u64 x.k0,.int .u64 x.k1,.int .u64 x.mask]] [.agg [.int .i64,.int .u64,.int .u64,.int .u64,.ptr,.ptr],.c (.int .i64)] K h:=by
 refine EA a (x.k0,x.k1,x.mask) ?_;unfold yU aZ ag ay fH BL AD rB pU;refine bi fun j b1 k1=>bi fun q b2 p=>?_
 have w:=aG b1;have v:=aG b2;have f:=k1.tr p;have g:h.size≤j.size:=k1.size;have c1:=p.get0 b1;rcases n with rfl|rfl
 ·refine aA.2 ⟨_,vc c1 0,_,vc c1 1,_,vc c1 2,?_⟩
  refine B0 (W:=Pro W h q) (x:=x) (l:= []) (.inl ⟨rfl,rfl⟩) (Pro.lt o f) fun u t m e=>?_
  refine dy (c:=fA xj) (vs:=fA t) (e.get0 b2) rfl fun k b d=>?_
  refine⟨_,vc b 0,_,vc b 1,_,vc b 2,_,vc b 3,_,vc b 4,_,vc b 5,?_⟩;exact s k t ((m.updM d (fun y i=>.inl (.inr (by have i:y=j.size:=i;omega)))).less Pro.sub) ((f.tr e).own d g)
 ·refine ak.2 (aA.2 ?_)
  refine BZ (W:=Pro W h q) (x:=x) (l:= []) (.inl ⟨rfl,rfl⟩) (Pro.lt o f) fun u t m e=>?_
  refine dy (c:=fA xj) (vs:=fA t) (e.get0 b2) rfl fun k b d=>?_
  refine⟨_,vc b 0,_,vc b 1,_,vc b 2,_,vc b 3,_,vc b 4,_,vc b 5,?_⟩;exact s k t ((m.updM d (fun y i=>.inl (.inr (by have i:y=j.size:=i;omega)))).less Pro.sub) ((f.tr e).own d g)
end Go.Proofs
namespace Go.Proofs
open Go Go.Lift
def lr(k:ByteArray)(l:List Pr):List Pr:=l.filter fun q=>decide (q.1≠k)
theorem rJ(k:ByteArray)(q:Pr)(l:List Pr):lr k (q::l)=if q.1=k then lr k l else q::lr k l:=by
 unfold lr;rw[List.filter_cons];by_cases h:q.1=k
 ·rw[if_pos h,if_neg (by simpa using h)]
 ·rw[if_neg h,if_pos (by simpa using h)]
theorem td{k:ByteArray}{l:List Pr}(h:∀q∈l,q.1≠k):lr k l=l:=jI.2 fun q a=>decide_eq_true (h q a)
theorem xM{k:ByteArray}{l:List Pr}(h:bK l k=false):∀q∈l,q.1≠k:=fun q a e=>by
 have:bK l k=true:=bH.2 ⟨q,a,decide_eq_true e⟩;rw[h]at this;cases this
theorem Cv{k:ByteArray}{l:List Pr}(h:∀q∈l,q.1≠k):bK l k=false:=by
 rcases ht:bK l k with _|_
 ·rfl
 ·obtain⟨q,a,e⟩:=bH.1 ht
  exact absurd (of_decide_eq_true e) (h q a)
theorem zQ{k:ByteArray}{l:List Pr}(a:cq l):cq (lr k l):=a.sublist List.filter_sublist
theorem xr{k:ByteArray}{l:List Pr}{p:Pr}:p∈lr k l↔p∈l∧p.1≠k:=by unfold lr;rw[List.mem_filter,decide_eq_true_iff]
theorem H9{k:ByteArray}{l:List Pr}:(lr k l).length≤l.length:=List.length_filter_le ..
theorem Fp{k:ByteArray}:∀{l:List Pr},cq l→l.length≤(lr k l).length+1
 | [],_=>bD _
 |q::l,a=>by
  have a:=bh.1 a;rw[rJ];by_cases h:q.1=k
  ·rw[if_pos h,td fun r hm e=>by have:=a.1 r hm;rw[h,e]at this;exact db _ this];exact aw _
  ·rw[if_neg h]
   have:=Fp (k:=k) a.2;simp only[aL];omega
theorem Fq(k:ByteArray):∀{l:List Pr},cq l→Gq l k=lr k l
 | [],_=>by simp[Gq,lr,bK]
 |q::l,c=>by
  have m:=c;have c:=bh.1 c;have b:kc (q::l) k=if kl q.1 k then kc l k+1 else 0:=by
   unfold kc;rw[List.takeWhile_cons];by_cases h:kl q.1 k
   ·rw[if_pos (by simpa using h),if_pos h];rfl
   ·rw[if_neg (by simpa using h),if_neg h];rfl
  have f:bK (q::l) k=(decide (q.1=k)||bK l k):=by unfold bK;rw[List.any_cons]
  by_cases h:kl q.1 k
  ·have d:q.1≠k:=fun e=>by rw[e]at h;exact db _ h
   rw[rJ,if_neg d,←Fq k c.2];unfold Gq;rw[f,b,if_pos h,decide_eq_false d,Bool.false_or];by_cases i:bK l k=true
   ·rw[if_pos i,if_pos i];rfl
   ·rw[if_neg i,if_neg i]
  ·by_cases e:q.1=k
   ·have a:∀r∈l,r.1≠k:=fun r hm g=>by have:=c.1 r hm;rw[e,g]at this;exact db _ this
    rw[rJ,if_pos e,td a];unfold Gq;rw[f,b,if_neg h,decide_eq_true e,Bool.true_or,if_pos rfl];rfl
   ·have j:=yk h e
    have a:∀r∈q::l,r.1≠k:=fun r hm g=>by
     rcases ar.1 hm with rfl|hm
     ·exact e g
     ·have:=c.1 r hm
      rw[g]at this;exact db _ (kL j this)
    rw[td a];unfold Gq;rw[Cv a];rfl
theorem Cn{x:Hs}{lev c:Nat}{k:ByteArray}{l:List Pr}:part x lev c (lr k l)=lr k (part x lev c l):=by
 unfold part lr;rw[List.filter_filter,List.filter_filter];exact List.filter_congr fun p _=>Bool.and_comm ..
theorem F9{x:Hs}{lev c:Nat}{k:ByteArray}{l:List Pr}(h:c≠ck x lev k):part x lev c (lr k l)=part x lev c l:=by
 rw[Cn];exact td fun q a e=>h (by rw[←e];exact(kK.1 a).2.symm)
theorem Fl{β:Type}(g:Nat→Option β):∀n,(fm g n).length=((List.range n).map fun c=>(g c).toList.length).sum
 |0=>rfl
 |n+1=>by
  rw[kN,af,Fl g n,ft,List.map_append,List.sum_append];simp
theorem B1{x:Hs}{lev:Nat}{l:List Pr}(h:∀c,c<32→(part x lev c l).length≤1):(gc x lev l).length=l.length:=by
 unfold gc;rw[Fl];have e:=pu x lev l 32;have d:(l.filter fun p=>decide (ck x lev p.1<32))=l:=jI.2 fun p _=>decide_eq_true (wJ x lev p.1)
 rw[d]at e;rw[←e];refine congrArg List.sum (List.map_congr_left fun c hc=>?_)
 have:=h c (fR.1 hc);match hp:part x lev c l with
 | []=>rfl
 | [p]=>rfl
 |a::b::r=>rw[hp]at this;simp at this
theorem Dh{W:Nat→Prop}{x:Hs}{h:ae}{m b:Nat}{l:List Pr}(t:TrieAt W x h m b l)(E:l.length≤1000000):
  ∃d n sp sk bu ow lp lk,h[b]? =some (.cells (dR d n sp sk bu ow) ba (0,0))∧Sl gz 2 W h sp lp∧Sl my 1 W h sk lk∧lp.length≤1000000∧lk.length≤32∧(lp.length+lk.length=1∧n=0↔l.length=1)∧∀p,l= [p]→lp= [p]:=by
 cases m with
 |zero=>
  obtain⟨sp,sk,ow,A,f,i,_⟩:=BuckAt.ex t;exact⟨0,0,sp,sk,true,ow,l,[],A,f,i,E,by simp,by simp,fun p e=>e⟩
 |succ m=>
  obtain⟨s,D,o⟩:=t;have o:∀c,c<32→SlotIs W x h m s c (part x (12-m) c l):=o;obtain⟨d,n,sp,sk,ow,A,bits,f,i,_⟩:=D.ex;have k:=AH o;have C:=sf (g:=s.p);refine⟨d,n,sp,sk,false,ow,_,_,A,f,i,by omega,sf,?_,?_⟩
  ·by_cases u:∀c,c<32→s.k c=none
   ·have B:n=0:=Nat.eq_of_testBit_eq fun c=>by
     rw[jv];by_cases hc:c<32
     ·rw[bits.nk c hc,u c hc];rfl
     ·exact Nat.testBit_lt_two_pow (bv bits.n32 (Nat.pow_le_pow_right (n:=2) (by omega) (by omega:32≤c)))
    have ek:fm s.k 32= []:=by
     unfold fm;rw[List.filterMap_eq_nil_iff];exact fun c hc=>u c (fR.1 hc)
    have z:(fm s.p 32).length=l.length:=by
     rw[k];refine B1 fun c hc=>?_
     rcases o c hc with⟨j,_⟩|⟨p,j,_⟩|⟨_,_,F,v,_⟩
     ·rw[j];simp
     ·rw[j];simp
     ·rw[u c hc]at v;cases v
    rw[ek,z,B];simp
   ·obtain⟨c,hc⟩:=Classical.not_forall.1 u
    obtain⟨hc,a⟩:=Classical.not_imp.1 hc;have w:n≠0:=fun B=>by
     have:=bits.nk c hc;rw[B,jv]at this;cases hkk:s.k c with
     |none=>exact a hkk
     |some y=>rw[hkk]at this;cases this
    rcases o c hc with⟨_,_,j⟩|⟨p,_,_,j⟩|⟨v,_⟩
    ·exact absurd j a
    ·exact absurd j a
    ·have:=mc (x:=x) (lev:=12-m) (c:=c) (l:=l)
     constructor
     ·rintro⟨_,e⟩;exact absurd e w
     ·intro e;omega
  ·rintro p rfl
   rw[k];have hc:=wJ x (12-m) p.1;have z:(gc x (12-m) [p]).length=1:=B1 fun c _=>bp mc (by simp)
   match hq:gc x (12-m) [p],z with
   | [q],_=>
    have:q∈gc x (12-m) [p]:=by rw[hq];exact ai.2 rfl
    rw[ai.1 (py this)]
theorem Jb{h:ae}{b d n:Nat}{sp sk:SliceV}{c:Bool}{ow:Option Addr}(a:h[b]? =some (.cells (dR d n sp sk c ow) ba (0,0))) (g:sp.len+sk.len≤1000000000) {K:Int→ae→Prop} (f:K ((sp.len+sk.len:Nat):Int) h):HC PG g3 [.pointer (some ⟨b,0,none⟩)] [.c (.int .i64)] K h:=by
 refine qC _ ?_;unfold mH bL;refine ak.2 ⟨_,rfl,sp,cV (i:=2) a,_,rfl,sk,cV (i:=3) a,?_⟩;have e:IntKind.wrap .i64 ((sp.len:Int)+(sk.len:Int))=((sp.len+sk.len:Nat):Int):=by rw[nT (by omega)];omega
 rw[e];exact f
theorem It{W:Nat→Prop}{x:Hs}{h:ae}{m b:Nat}{l:List Pr}(t:TrieAt W x h m b l)(F:l.length≤1000000){K:Pr×Bool→ae→Prop}
  (v:∀j p,Upd No h j→(l.length=1→l= [p])→K (p,decide (l.length=1)) j):HC PG pe [.pointer (some ⟨b,0,none⟩)] [.agg [.str,.str],.c .bool] K h:=by
 refine zx _ ?_;unfold sB f6 bQ aD fH qt oZ;refine bi fun G b1 k1=>?_
 have H:=TrieAt.upd0 k1 t;obtain⟨d,n,sp,sk,P,ow,M,lk,z,k,C,E,J,c,f⟩:=Dh H F;have Q:=k.len;have O:=C.len;refine Join.intro (fun t j=>t= !decide (l.length=1)∧j=G) (fun R D=>?_) ?_
 ·refine Jb z (by omega) ?_
  by_cases e:sp.len+sk.len=1
  ·have B:((sp.len+sk.len:Nat):Int)=1:=by omega
   rw[B];refine ak.2 (yf z (D _ _ ⟨?_,rfl⟩));by_cases A:n=0
   ·rw[decide_eq_true (c.1 ⟨by omega,A⟩),A];rfl
   ·rw[decide_eq_false fun h=>A (c.2 h).2]
    exact bne_iff_ne.2 (by omega)
  ·have B:(((sp.len+sk.len:Nat):Int) !=(1:Int))=true:=bne_iff_ne.2 (by omega)
   rw[B];refine aA.2 (D _ _ ⟨?_,rfl⟩);rw[decide_eq_false fun h=>e (by have:=(c.2 h).1;omega)];rfl
 ·rintro _ j ⟨rfl,rfl⟩
  have o:j[h.size]? =some (.cells #[.string BJ.1,.string BJ.2] al (0,0)):=b1;by_cases e:l.length=1
  ·rw[decide_eq_true e]
   refine ak.2 ?_;refine px z k (by omega) fun L N u q=>?_
   match l,e,f with
   | [p],e,f=>
    have w:=f p rfl;subst w;have s:=u.len;obtain⟨a,I,_,hv⟩:=(u.sl (W:=No) fun _ _ _ h=>h).at (i:=0) (x:=p) rfl
    refine⟨⟨by omega,by simp at s;omega⟩,a,I,p.1,hv 0 _ rfl,p.2,hv 1 _ rfl,?_⟩
    refine wB (p:=p) (q.get0 o) fun y b3 g=>⟨_,vc b3 0,_,vc b3 1,?_⟩
    have:=v y p ((k1.tr q).own g (aw _)) fun _=>rfl
    exact this
  ·have:=v
   rw[decide_eq_false e];rw[decide_eq_false e]at v;refine aA.2 (wB (p:=BJ) o fun y b3 g=>⟨_,vc b3 0,_,vc b3 1,?_⟩)
   exact v y _ (k1.own g (aw _)) fun h=>absurd h e
end Go.Proofs
namespace Go.Proofs
open Go Go.Lift
theorem Cr{h:ae}{s:SliceV}{l:List Pr}(f:Sl gz 2 No h s l)(hc:s.len≤s.cap)(p:cq l)(C:l.length≤1000000000)(k:ByteArray)
  {K:SliceV→ae→Prop}(o:∀s' h',OwnS gz 2 al (fun b=>h.size≤b) h' s' (lr k l)→Upd No h h'→K s' h'):HC PG ri [.slice s.a s.len s.cap,.string k] [.c .slice] K h:=by
 refine C2 s k ?_;unfold wU qL;have d:=f.len;refine Bf f p C k fun w a=>?_
 have F:=Hk l k;cases ht:bK l k with
 |false=>
  refine aA.2 (vC (f.upd a fun _ h=>h.elim) (by omega) fun G I t y=>?_)
  rw[td (xM ht)]at o;exact o _ _ (t.more fun b n=>bp a.size n) (a.tr y)
 |true=>
  obtain⟨D,_⟩:=AW p ht;have ew:IntKind.wrap .i64 ((kc l k:Int)+1)=((kc l k+1:Nat):Int):=by rw[nT (by omega)];omega
  refine ak.2 ?_;simp only;rw[ew];refine⟨by omega,by omega,?_⟩
  simp only[Bd,aN];refine bG ?_;have c:=f.upd a fun _ h=>h.elim
  have u:=Upd.hnew No w [.slice (aM s.a 0 s.cap 2) (kc l k-0) (s.cap-0),.slice (aM s.a (kc l k+1) s.cap 2) (s.len-(kc l k+1)) (s.cap-(kc l k+1))] cH;have E:=ci w [.slice (aM s.a 0 s.cap 2) (kc l k-0) (s.cap-0),.slice (aM s.a (kc l k+1) s.cap 2) (s.len-(kc l k+1)) (s.cap-(kc l k+1))] cH;have A:=AJ c (i:=0) (j:=kc l k) (m:=s.cap) (bD _) F (by omega) (s.cap-0)
  have q:=AJ c (i:=kc l k+1) (j:=l.length) (m:=s.cap) (by omega) (aw _) (by omega) (s.cap-(kc l k+1));rw[←d]at q;rw[List.drop_zero]at A;rw[List.take_of_length_le (by rw[aH];omega)]at q;have B:lr k l= [l.take (kc l k-0),l.drop (kc l k+1)].flatten:=by rw[←Fq k p];unfold Gq;rw[if_pos ht];simp
  refine Ap (s:=⟨some (aU w),2,2⟩) (vs:= [⟨aM s.a 0 s.cap 2,kc l k-0,s.cap-0⟩,⟨aM s.a (kc l k+1) s.cap 2,s.len-(kc l k+1),s.cap-(kc l k+1)⟩]) (ls:= [l.take (kc l k-0),l.drop (kc l k+1)])
   ⟨rfl,fun x=>⟨rfl,Nat.one_pos⟩,fun _=>⟨_,rfl,fun h=>h.elim,nX E fun i v hv=>by simpa[LH]using hv⟩⟩ ⟨A.upd u fun _ h=>h.elim,q.upd u fun _ h=>h.elim,trivial⟩ ?_ (by simp) fun H J e g=>?_
  ·simp only[List.flatten_cons,List.flatten_nil,af,aK,aH,cL];omega
  ·rw[←B]at e
   have z:=a.tr u;exact o _ _ (e.more fun b n=>bp z.size n) (z.tr g)
end Go.Proofs
namespace Go.Proofs
def oX(P a:List UInt8→ByteArray→Prop)(k:List UInt8):Prop:=∀k' v',a k' v'↔k'≠k∧P k' v'
theorem Ei{P:List UInt8→ByteArray→Prop}{k:List UInt8}(h:∀v,¬P k v):oX P P k:=fun k' b=>⟨fun a=>⟨fun e=>h b (e▸a),a⟩,fun h=>h.2⟩
theorem Eh{w:Option ByteArray}{F:Fo}(h:dS F):oX (mD w F) (mD none F) []:=by
 intro k' a;unfold mD;constructor
 ·rintro(⟨_,f⟩|hi)
  ·cases f
  ·exact⟨kM h hi,.inr hi⟩
 ·rintro⟨e,⟨f,_⟩|hi⟩
  ·exact absurd f e
  ·exact .inr hi
theorem yE{w:Option ByteArray}{F F':Fo}{k:List UInt8}(b:k≠[])(h:oX (l6 F) (l6 F') k):oX (mD w F) (mD w F') k:=by
 intro k' a;unfold mD;rw[h k' a];constructor
 ·rintro(⟨e,f⟩|hi)
  ·exact⟨fun e'=>b (e'.symm.trans e),.inl ⟨e,f⟩⟩
  ·exact⟨hi.1,.inr hi.2⟩
 ·rintro⟨e,hi|hi⟩
  ·exact .inl hi
  ·exact .inr ⟨e,hi⟩
theorem Ej{lab r:List UInt8}{w w':Option ByteArray}{F F':Fo}(h:oX (mD w F) (mD w' F') r):oX (pj (lab,w,F)) (pj (lab,w',F')) (lab++r):=by
 intro k' c;constructor
 ·rintro⟨s,e,b⟩
  obtain⟨a,d⟩:=(h s c).1 b;exact⟨fun e'=>a (dZ (e.symm.trans e')),s,e,d⟩
 ·rintro⟨a,s,e,b⟩
  exact⟨s,e,(h s c).2 ⟨fun e'=>a (by rw[e,e']),b⟩⟩
theorem Gn{F:Fo}{i:Nat}{m:Bn}{k:List UInt8}(h:dS F)(hi:i<F.toL.length)(ek:hd F.toL[i].1=hd k)(g:oX (pj F.toL[i]) (pj m) k):oX (l6 F) (l6 (.ofL (F.toL.set i m))) k:=by
 intro k' f;have hc:=dt.1 h;rw[dL,dL,Fo.to_of];constructor
 ·rintro⟨n,a,b⟩
  rcases(iJ hi (p9 h hi)).1 a with rfl|⟨a,d⟩
  ·obtain⟨c,j⟩:=(g k' f).1 b
   exact⟨c,_,bm hi,j⟩
  ·refine⟨fun e=>d ?_,n,a,b⟩
   obtain⟨r,e',_⟩:=b;refine rL h a (bm hi) ?_;rw[ek,←e,e',lL (hc.2 n a).1]
 ·rintro⟨c,n,a,b⟩
  by_cases e:n=F.toL[i]
  ·exact⟨m,(iJ hi (p9 h hi)).2 (.inl rfl),(g k' f).2 ⟨c,by rw[←e];exact b⟩⟩
  ·exact⟨n,(iJ hi (p9 h hi)).2 (.inr ⟨a,e⟩),b⟩
theorem wD{α:Type}{l:List α}{i:Nat}(hi:i<l.length){x:α}(d:∀j (a:j<l.length),j≠i→l[j]≠l[i]):x∈l.take i++l.drop (i+1)↔x∈l∧x≠l[i]:=by
 constructor
 ·intro h
  rcases bA.1 h with h|h
  ·obtain⟨j,a,e⟩:=cu h
   rw[aK]at a;rw[List.getElem_take]at e;exact⟨gk h,by rw[←e];exact d j (by omega) (by omega)⟩
  ·obtain⟨j,a,e⟩:=cu h
   rw[aH]at a;rw[List.getElem_drop]at e;exact⟨List.mem_of_mem_drop h,by rw[←e];exact d (i+1+j) (by omega) (by omega)⟩
 ·rintro⟨h,c⟩
  obtain⟨j,a,e⟩:=cu h;rcases Nat.lt_trichotomy j i with b|b|b
  ·exact bA.2 (.inl (jH (i:=j) (h:=by rw[aK];omega) (by rw[List.getElem_take];exact e)))
  ·subst b;exact absurd e.symm c
  ·refine bA.2 (.inr (jH (i:=j-(i+1)) (h:=by rw[aH];omega) ?_))
   rw[List.getElem_drop];have:i+1+(j-(i+1))=j:=by omega
   simp only[this];exact e
theorem Jn{F:Fo}{i:Nat}(h:dS F):dS (.ofL (F.toL.take i++F.toL.drop (i+1))):=by
 have hc:=dt.1 h;rw[dt,Fo.to_of];have a:(F.toL.take i++F.toL.drop (i+1)).Sublist F.toL:=by rw[←List.eraseIdx_eq_take_drop_succ];exact List.eraseIdx_sublist ..
 exact⟨hc.1.sublist a,fun n b=>hc.2 n (a.subset b)⟩
theorem Gp{F:Fo}{i:Nat}{k:List UInt8}(h:dS F)(hi:i<F.toL.length)(ek:hd F.toL[i].1=hd k)(g:∀k' d,pj F.toL[i] k' d→k'=k):oX (l6 F) (l6 (.ofL (F.toL.take i++F.toL.drop (i+1)))) k:=by
 intro k' d;have hc:=dt.1 h;rw[dL,dL,Fo.to_of];constructor
 ·rintro⟨n,a,b⟩
  obtain⟨a,c⟩:=(wD hi (p9 h hi)).1 a;refine⟨fun e=>c ?_,n,a,b⟩
  obtain⟨r,e',_⟩:=b;refine rL h a (bm hi) ?_;rw[ek,←e,e',lL (hc.2 n a).1]
 ·rintro⟨f,n,a,b⟩
  by_cases e:n=F.toL[i]
  ·exact absurd (g k' d (by rw[←e];exact b)) f
  ·exact⟨n,(wD hi (p9 h hi)).2 ⟨a,e⟩,b⟩
def Ju(n:Bn)(o:Option Bn):Prop:=(o=none∧∀k v,¬pj n k v)∨∃m,o=some m∧GG m∧hd m.1=hd n.1∧∀k v,pj m k v↔pj n k v
theorem Gc{lab:List UInt8}{w:Option ByteArray}{F:Fo}(a:lab≠[])(hc:dS F)(h:w.isSome∨2≤F.toL.length):Ju (lab,w,F) (some (lab,w,F)):=.inr ⟨_,rfl,⟨a,h,hc⟩,rfl,fun _ _=>rO⟩
theorem Gd{lab:List UInt8}{F:Fo}(h:F.toL= []):Ju (lab,none,F) none:=by
 refine .inl ⟨rfl,fun k v hi=>?_⟩
 obtain⟨r,_,⟨_,a⟩|a⟩:=hi
 ·cases a
 ·obtain⟨n,b,_⟩:=dL.1 a
  simp only at b;rw[h]at b;cases b
theorem Hy{lab lk:List UInt8}{a:Option ByteArray}{F Fk:Fo}(b:lab≠[])(hc:dS F)(h:F.toL= [(lk,a,Fk)]):Ju (lab,none,F) (some (lab++lk,a,Fk)):=by
 have d:F=.cons lk a Fk .nil:=by
  rw[←Fo.of_to F,h];rfl
 have c:=(dt.1 hc).2 (lk,a,Fk) (by rw[h];exact ai.2 rfl);refine .inr ⟨_,rfl,⟨fun e=>b (eh.1 e).1,c.2.1,c.2.2⟩,lL b,fun k v=>?_⟩
 have:=Ag (lab:=lab++lk) (w:=a) (F:=Fk) lab.length k v;rw[List.take_left,fS]at this;rw[d];exact this.symm
end Go.Proofs
namespace Go.Proofs
open Go Go.Lift
theorem iX(s:ByteArray):s.data.toList.length=s.size:=by simp
theorem Il(a b:ByteArray):(a++b).data.toList=a.data.toList++b.data.toList:=by rw[ByteArray.data_append,Array.toList_append]
theorem F8{a b:ByteArray}{h:ae}{K:Bool→ae→Prop}(c:K (decide (b.data.toList<+:a.data.toList)) h):HC PG o6 [.string a,.string b] [.c .bool] K h:=by
 refine zn a b ?_;unfold sq oZ;refine vN a b ?_;unfold pI oZ;refine mq a b ?_;unfold gK;have la:=iX a;have lb:=iX b;refine bf (fun d=>?_) fun f=>?_
 ·refine⟨⟨by omega,by omega⟩,?_⟩
  rw[jP,aN];have e:decide (a.extract 0 b.size=b)=decide (b.data.toList<+:a.data.toList):=by
   rw[decide_eq_decide,←qj,yy,List.prefix_iff_eq_take,lb];exact eq_comm
  rw[e];exact c
 ·have e:decide (b.data.toList<+:a.data.toList)=false:=decide_eq_false fun g=>by
   have:=g.length_le;omega
  rw[e]at c;exact c
theorem KC{a b:ByteArray}{h:ae}{K:ByteArray×Bool→ae→Prop}(d:∀s:ByteArray,a.data.toList=b.data.toList++s.data.toList→K (s,true) h)(g:(∀r,a.data.toList≠b.data.toList++r)→K (⟨#[]⟩,false) h):HC PG sW [.string a,.string b] [.c .str,.c .bool] K h:=by
 refine Ez a b ?_;unfold yT oZ;refine F8 ?_;have la:=iX a;have lb:=iX b;by_cases c:b.data.toList<+:a.data.toList
 ·rw[decide_eq_true c]
  have f:=c.length_le;refine ak.2 ⟨⟨by omega,by omega⟩,?_⟩
  rw[aN];refine d _ ?_;rw[yz];obtain⟨r,e⟩:=c;rw[←e,←lb,fS]
 ·rw[decide_eq_false c]
  exact aA.2 (g fun r e=>c ⟨r,e.symm⟩)
end Go.Proofs
