/- A part of the proof that the named laws of this program answer true, whatever the input. -/
import Derived.Test.YtncppacbfagpgaaGreatPart2
import Derived.Test.YtncppacbfagpgaaGreatLift3
namespace Go.Proofs
open Go Go.Lift
open Array renaming toList_inj→qq
open Bool renaming and_eq_true→bd
open ByteArray renaming toList_eq→dS
open Iff renaming rfl→vT
open Int renaming toNat_natCast→aY,tmod→fq
open IntKind renaming wrap→ac,bits→ak
open List renaming pairwise_iff_getElem→bS,length→fD,length_drop→aO,length_nil→aD,mem_append→be,mem_map→iQ,pairwise_append→bQ,pairwise_map→pQ,mem_cons_self→ax,pairwise_cons→az,mem_cons→aB,lt_irrefl→sW,mem_cons_of_mem→aF,length_singleton→aU,cons_append→dy,length_cons→ao,length_append→ad,flatMap_cons→aX,append_nil→aL,append_assoc→aA,filter_append→g5,mem_filter→db,nil_append→ce,mem_singleton→aC,getElem?_append_right→aH,getElem?_append_left→bo,getElem?_eq_some_iff→bi
open List.Lex renaming nil→vS
open List.Pairwise renaming nil→eO
open Nat renaming zero_le→bf,lt_or_ge→cg,le_of_eq→fh,lt_irrefl→lB,le_refl→au,lt_of_lt_of_le→aJ,zero_add→aQ
open Option renaming some→bm,mem_toList→pL,map_eq_some_iff→fg
open Prod renaming mk→rN
theorem Q7:∀{x y:List UInt8} {i:Nat},i≤x.length→i≤y.length→(∀j,j<i→x[j]?=y[j]?)→(i=x.length∨i=y.length∨x[i]?≠y[i]?)→cm x y=i
 | [],_,i,h1,_,_,_=>by simp at h1;simp[cm,h1]
 |_::_,[],i,_,h2,_,_=>by simp at h2;simp[cm,h2]
 |a::x,b::y,0,_,_,_,h=>by
  unfold cm;rw[if_neg];rintro rfl;rcases h with h|h|h<;>simp at h
 |a::x,b::y,i+1,h1,h2,h3,h4=>by
  have:=h3 0 (by omega);simp only[List.getElem?_cons_zero,bm.injEq]at this;unfold cm;rw[if_pos this,Q7 (i:=i) (by simpa using h1) (by simpa using h2) (fun j hj=>by simpa using h3 (j+1) (by omega)) (by simpa using h4)]
theorem HT{a b:ByteArray}(ha:a.size≤1000000){h:af}{K:Int→af→Prop}(hk:K(cm a.data.toList b.data.toList:Nat) h):HC PG qw [.string a,.string b] [.c (.int .i64)] K h:=by
 refine Gq a b ?_;unfold yg;simp only[Bd];have hmin:(if(b.size:Int)<(a.size:Int)then(b.size:Int)else(a.size:Int))=((min a.size b.size:Nat):Int):=by split<;>omega
 rw[hmin];have la:a.data.toList.length=a.size:=by simp
 have lb:b.data.toList.length=b.size:=by simp
 refine LoopP.ghost (fun(i:Nat) (t:Int) h'=>t=(i:Int)∧i≤min a.size b.size∧h'=h∧∀j,j<i→a.data.toList[j]?=b.data.toList[j]?) (fun i=>min a.size b.size-i) 0 ⟨rfl,bf _,rfl,fun j hj=>absurd hj (Nat.not_lt_zero _)⟩ ?_
 rintro I i t h' ⟨rfl,hi,rfl,he⟩ hI;refine ay (fun hlt=>?_)fun hge=>?_
 ·have hlt:i<min a.size b.size:=by omega
  have hia:i<a.size:=by omega
  have hib:i<b.size:=by omega
  refine⟨a[i],by omega,by rw[aY,getElem?_pos a i hia],b[i],by omega,by rw[aY,getElem?_pos b i hib],?_⟩
  have e1:a.data.toList[i]?=some a[i]:=by rw[←Pi,getElem?_pos a i hia]
  have e2:b.data.toList[i]?=some b[i]:=by rw[←Pi,getElem?_pos b i hib]
  refine CondP.intro (fun hne=>?_)fun heq=>?_
  ·rw[Q7 (i:=i) (by omega) (by omega) he (.inr (.inr fun e=>?_))]at hk
   ·exact hk
   ·rw[e1,e2]at e
    rw[bm.inj e]at hne;simp at hne
  ·have heq:a[i]=b[i]:=by
    have:((a[i].toNat:Int))=(b[i].toNat:Int):=by simpa using heq
    exact UInt8.toNat_inj.1 (by omega)
   rw[oP hlt (by omega)];refine hI (i+1) _ _ ⟨rfl,hlt,rfl,fun j hj=>?_⟩ (by omega)
   rcases cg j i with hl|hl
   ·exact he j hl
   ·have:j=i:=by omega
    subst this;rw[e1,e2,heq]
 ·have hii:i=min a.size b.size:=by omega
  rw[Q7 (i:=i) (by omega) (by omega) he (by omega)]at hk;rw[←hii];exact hk
theorem O2{F:Fo}{i:Nat}{k:List UInt8}{v:ByteArray}(h:ie F)(hi:i<F.toL.length)(ek:hd F.toL[i].1=hd k)(hp:ul(vg F.toL[i])(vg F.toL[i]) k v):ul (tC F) (tC F) k v:=by
 have:=Km h hi ek hp;rw[List.set_getElem_self,Fo.of_to]at this;exact this
theorem Qz{P Q P':List UInt8→ByteArray→Prop}{k:List UInt8}{v:ByteArray}(h:ul P P' k v)(e:∀k v,P k v↔Q k v):ul Q P' k v:=fun k' v'=>by rw[h k' v',e]
set_option maxHeartbeats 1000000 in
theorem Qo{W:Nat→Prop}:∀(n:Nat) {b:Nat} {sl:ByteArray} {w:Option ByteArray} {F:Fo} {h:af} (k v:ByteArray),k.size<n→k.size≤1000000→RxN W h b sl w F→(∀y,W y→y<h.size)→ie F→∀{K:(Option Addr)×Bool×Bool→af→Prop},
  (∀h' b' w' F' added ch,Upd No h h'→RxN W h' b' sl w' F'→ie F'→ul (vf w F) (vf w' F') k.data.toList v→(ch=false→b'=b∧w'=w∧F'=F)→(vf w F k.data.toList v→ch=false)→K (some ⟨b',0,none⟩,added,ch) h')→
  HC PG mP [.pointer (some ⟨b,0,none⟩),.pointer none,.string k,.string v] [.c .ptr,.c .bool,.c .bool] K h:=by
 intro n;induction n with
 |zero=>intro b sl w F h k v hk;omega
 |succ n ih=>
  intro b sl w F h k v hkn hk6 r hW hc K hk;refine Ci (some ⟨b,0,none⟩) none k v ?_;unfold uU aj bP;have hr:=r;obtain⟨val,s,ow,ks,hb,hv,hs,hcap,hF⟩:=r;have hL:=lU.1 hF;have hn:=ou hc;have hcan:=eE.1 hc;rw[dD];refine ay (fun hk0=>?_)fun hk0=>?_
  ·have hke:k.data.toList= []:=by rw[hk0]
   rw[hke]at hk;refine Join.intro (fun t h'=>t=decide (w=some v)∧h'=h) (fun R hR=>⟨_,rfl,w.isSome,gD (i:=1) hb,?_⟩) ?_
   ·cases hw:w with
    |none=>exact al.2 (hR _ _ ⟨by rw[hw];rfl,rfl⟩)
    |some u=>
     refine ar.2 ⟨_,rfl,val,gD (i:=2) hb,hR _ _ ⟨?_,rfl⟩⟩;rw[dD,vw hv u hw,hw];exact decide_eq_decide.2 ⟨fun e=>by rw[e],fun e=>bm.inj e⟩
   ·rintro t h' ⟨rfl,rfl⟩
    refine ay (fun e=>?_)fun e=>?_
    ·refine hk h' b w F false false (Upd.refl _ _) hr hc ?_ (fun _=>⟨rfl,rfl,rfl⟩)fun _=>rfl
     rw[e];exact Hh hc v
    ·refine⟨_,rfl,w.isSome,gD (i:=1) hb,?_⟩
     refine o9 hb hs (by rw[hL.1];exact hn)fun h1 s1 b1 ho1 hu1=>?_
     refine⟨gD (i:=1) (hu1.get0 hb),?_⟩;refine CR b1 fun h2 b2 hu2=>?_
     have hu02:Upd No h' h2:=hu1.trans hu2 fun x hx=>.inr (fh (Eq.symm hx))
     refine⟨gD (i:=1) (hu02.get0 hb),?_⟩;have ho2:=ho1.upd hu2 fun x hx e=>by have e:x=h'.size:=e;have:=hx.1;omega
     refine hk h2 h'.size (some v) F _ true hu02 ⟨v,s1,none,ks,b2,rfl,ho2.sl (fun x hx _ hw=>by have:=hW _ hw;have:=hx.1;omega),⟨ho2.cap,fun hx=>lB _ (hW _ hx)⟩,RxF.upd0 hu02 hF⟩ hc (Hh hc v) (fun h=>by cases h)fun hin=>?_
     rcases hin with⟨_,h⟩|h
     ·exact absurd h e
     ·exact absurd rfl (wN hc h)
  ·have hkne:k.data.toList≠[]:=fun e=>hk0 (by cases k;exact congrArg ByteArray.mk (qq.1 e))
   obtain⟨c0,hc0,hc0e⟩:=MR hkne;refine⟨c0,Int.le_refl _,hc0,?_⟩;have hlk:k.data.toList.length=k.size:=by simp
   refine Hc hr hc (c:=c0.toNat) (UInt8.toNat_lt _)fun i ok hil hlo hhi hok=>?_
   rw[hc0e]at hlo hhi hok;cases ok with
   |false=>
    have hno:∀hi:i<F.toL.length,hd F.toL[i].1≠hd k.data.toList:=fun hi e=>by have:=hok.2 ⟨hi,e⟩;cases this
    have hhi':∀j (hj:j<F.toL.length),i≤j→hd k.data.toList<hd F.toL[j].1:=fun j hj hij=>by
     have h1:=hhi j hj hij;rcases cg i j with hl|hl
     ·have h2:=bS.1 hcan.1 i j (by omega) hj hl
      have h3:=hhi i (by omega) (au _);omega
     ·have:i=j:=by omega
      subst this;have:=hno hj;omega
    obtain⟨hc',hp'⟩:=O4 (v:=v) hc hkne hlo hhi';refine ar.2 ?_;refine o9 hb hs (by rw[hL.1];exact hn)fun h1 s1 b1 ho1 hu1=>?_
    refine⟨_,rfl,s1,gD (i:=3) b1,?_⟩;refine Mc fun h2 fb fs fb2 hf0 hfc hfb hu2=>⟨gD (i:=3) (hu2.get0 b1),bC ?_⟩
    have k3:=Upd.hnew No h2 [.pointer (some ⟨fb,0,none⟩)] aS;have b3:=bW h2 [.pointer (some ⟨fb,0,none⟩)] aS;have z3:(hnew h2 [.pointer (some ⟨fb,0,none⟩)] aS).size=h2.size+1:=ja ..;simp only[cH h2];generalize hnew h2 [.pointer (some ⟨fb,0,none⟩)] aS=h3 at k3 b3 z3;have hu13:=hu2.tr k3;refine⟨gD (i:=3) (hu13.get0 b1),?_⟩;have z1:=bD b1
    have z2:=hu2.size;have zf:=bD fb2;have ho3:=(ho1.upd hu13 fun _ _ h=>h).more (M':=fun x=>(h.size<x∧x<h1.size)∨h3.size≤x)fun x hx=>.inl hx
    refine MM ho3 (k:=i) (by rw[hL.1];exact hil) (by rw[hL.1];omega) b3 (by rintro(h|h)<;>omega) (fun x hx=>.inr hx)fun s4 h4 ho4 hu4=>?_
    have b4:=hu4.get (hu13.get0 b1) (by rintro(h|h)<;>omega)
    have f4:=hu4.get (k3.get0 fb2) (by rintro(h|h)<;>omega)
    refine⟨_,rfl,RC (i:=3) b4 (show 3<5 by decide),F9 (i:=3) (c':=yD sl w.isSome val s4 none) b4 rfl fun h5 b5 hu5=>?_⟩
    have hu05:Upd No h h5:=((hu1.tr hu13).trans hu4 fun x hx=>.inr (by have:=hu1.size;rcases hx with hx|hx<;>omega)).trans hu5 fun x hx=>.inr (fh (Eq.symm hx))
    have ho5:=ho4.upd hu5 fun x hx e=>by have e:x=h.size:=e;rcases hx with hx|hx<;>omega
    have f5:=hu5.get f4 (by show ¬fb=h.size;omega);refine hk h5 h.size w _ true true hu05 ⟨val,s4,none,_,b5,hv,ho5.sl (fun x hx _ hw=>by have:=hW _ hw;rcases hx with hx|hx<;>omega),⟨ho5.cap,fun hx=>lB _ (hW _ hx)⟩,lU.2 (by rw[Fo.to_of];exact(hL.upd0 hu05).ins i ⟨fb,k,rfl,rfl,TO f5 hf0 hfc fun hx=>by have:=hW _ hx;omega⟩)⟩ hc' (BP hkne hp') (fun h=>by cases h)fun hin=>?_
    rcases hin with⟨h,_⟩|hin
    ·exact absurd h hkne
    ·obtain⟨n',hn',e,_⟩:=yM hc hin
     obtain⟨j,hj,rfl⟩:=List.getElem_of_mem hn';rcases cg j i with hl|hl
     ·have:=hlo j hj hl;omega
     ·have:=hhi' j hj hl;omega
   |true=>
    obtain⟨hi,hie⟩:=hok.1 rfl;refine al.2 ⟨_,rfl,s,gD (i:=3) hb,?_⟩;obtain⟨kb,ksl,hki,hkl,hkn⟩:=hL.at hi;have hmem:F.toL[i]∈F.toL:=List.getElem_mem hi;have hcm:=hcan.2 _ hmem;obtain⟨a,ha,_,hvv⟩:=hs.at0 hki;have hslen:=hs.len;rw[hL.1]at hslen;have hlt1:(i:Int)<((s.len:Nat):Int):=by omega
    refine⟨⟨by simp only;omega,hlt1⟩,a,ha,some ⟨kb,0,none⟩,hvv,_,rfl,?_⟩;obtain⟨kval,kss,kow,kks,hkb,_⟩:=id hkn;refine⟨ksl,gD (i:=0) hkb,HT hk6 ?_⟩;rw[hkl];have hc1:=Q6 hkne hcm.1 hie.symm;have hcle:=Q8 k.data.toList F.toL[i].1;have hct:=OA k.data.toList F.toL[i].1;have hcd:=Jb k.data.toList F.toL[i].1;have hll:ksl.size=F.toL[i].1.length:=by rw[←hkl];simp
    have hin_m:tC F k.data.toList v→vg F.toL[i] k.data.toList v:=fun hin=>by
     obtain⟨n',hn',e,hN⟩:=yM hc hin;rw[←Au hc hn' hmem (by omega)];exact hN
    have hset:∀{w2:Option ByteArray} {F2:Fo} {nl:List UInt8},nl≠[]→hd nl=hd F.toL[i].1→ie F2→Br (vf w2 F2)→ie (.ofL (F.toL.set i (nl,w2,F2))):=fun h1 h2 h3 h4=>OC hc hi ⟨h1,(M6 h3).2 h4,h3⟩ h2
    have hputs:∀{m:Bn},ul (vg F.toL[i]) (vg m) k.data.toList v→ul (tC F) (tC (.ofL (F.toL.set i m))) k.data.toList v:=fun hp=>Km hc hi hie hp
    have hsame:ul (vg F.toL[i]) (vg F.toL[i]) k.data.toList v→ul (tC F) (tC F) k.data.toList v:=O2 hc hi hie;have hrset:∀{h':af} {k':Option Addr} {m:Bn},Upd No h h'→Kid W h' k' m→RxL W h' (ks.set i k') (F.toL.set i m):=fun hu hkd=>(hL.upd0 hu).set hi hkd
    generalize F.toL[i]=m at hkl hkn hcm hc1 hcle hct hcd hll hin_m hset hputs hsame hie;generalize hcc:cm k.data.toList m.1=c at hc1 hcle hct hcd;obtain⟨lab,wk,Fk⟩:=m;simp only at hkl hkn hcm hcle hct hcd hll hie hset;refine Join.intro (fun t h'=>∃ub slu wu Fu,t=some ⟨ub,0,none⟩∧Upd No h h'∧RxN W h' ub slu wu Fu∧ie Fu∧slu.data.toList=k.data.toList.take c∧(∀k' v',vg (slu.data.toList,wu,Fu) k' v'↔vg (lab,wk,Fk) k' v')∧(∀w' F',ie F'→ul (vf wu Fu) (vf w' F') (k.data.toList.drop c) v→Br (vf w' F'))) (fun R hR=>⟨_,rfl,ksl,gD (i:=0) hkb,?_⟩) ?_
    ·refine ay (fun hlt=>?_)fun hge=>?_
     ·have hlt:c<lab.length:=by omega
      refine Mb hkn hW (ou hcm.2.2) (c:=c) (by omega)fun h1 ub rn hu1=>hR _ _ ⟨ub,_,none,_,rfl,hu1,rn,?_,?_,?_,?_⟩
      ·rw[hkl]
       refine⟨fun e=>?_,hcm.2.1,hcm.2.2,fun _ h=>by simp[Fo.toL]at h,trivial⟩
       have:=congrArg fD e;rw[aO,aD]at this;omega
      ·rw[E9,hkl,hct]
      ·intro k' v'
       rw[E9,hkl];exact HF c k' v'
      ·intro w' F' hcF hp
       rw[hkl]at hp;refine Rf (fun e=>?_) hcm.2.1 hcm.2.2 (fun hne=>?_) hp
       ·have:=congrArg fD e
        rw[aO,aD]at this;omega
       ·refine hcd ?_ hlt
        rcases cg c k.data.toList.length with hl|hl
        ·exact hl
        ·exact absurd (List.drop_eq_nil_of_le hl) hne
     ·have hce:c=lab.length:=by omega
      refine hR _ _ ⟨kb,ksl,wk,Fk,rfl,Upd.refl _ _,hkn,hcm.2.2,?_,?_,?_⟩
      ·rw[hkl,hct,hce,List.take_length]
      ·intro k' v';rw[hkl]
      ·intro w' F' hcF hp
       exact SE ((M6 hcm.2.2).1 hcm.2.1) hp
    ·rintro t h1 ⟨ub,slu,wu,Fu,rfl,hu1,rn,hcu,hsl,hinn,hbr⟩
     refine⟨⟨by omega,by omega⟩,?_⟩
     rw[aY];have hkd:(k.extract c k.size).data.toList=k.data.toList.drop c:=Fa ..;have hks:(k.extract c k.size).size=k.size-c:=by simp
     have hktd:k.data.toList=slu.data.toList++k.data.toList.drop c:=by rw[hsl,List.take_append_drop]
     have hslne:slu.data.toList≠[]:=by
      rw[hsl];intro e;have:=congrArg fD e;rw[List.length_take,aD]at this;omega
     have hslhd:hd slu.data.toList=hd lab:=by
      rw[hie];conv=>rhs;rw[hktd]
      rw[pk hslne]
     refine ih (k.extract c k.size) v (by rw[hks];omega) (by rw[hks];omega) rn (fun y hy=>aJ (hW y hy) hu1.size) hcu fun h2 b2 w2 F2 added ch hu2 rn2 hc2 hp2 hsm hch=>?_
     rw[hkd]at hp2 hch;have hu02:=hu1.tr hu2;have hpn:ul (vg (lab,wk,Fk)) (vg (slu.data.toList,w2,F2)) k.data.toList v:=by
      have:=Qz (O3 (lab:=slu.data.toList) hp2) hinn;rw[←hktd]at this;exact this
     have hchg:vf w F k.data.toList v→ch=false:=fun hin=>by
      rcases hin with⟨h,_⟩|hin
      ·exact absurd h hkne
      ·obtain⟨r,e,hr'⟩:=(hinn _ _).2 (hin_m hin)
       simp only at e;rw[hktd]at e;have e2:=List.append_cancel_left e;rw[←hktd]at e;exact hch (by rw[e2];exact hr')
     cases ch with
     |false=>
      obtain⟨_,rfl,rfl⟩:=hsm rfl;refine ar.2 (hk h2 b w F false false hu02 (hr.upd0 hu02) hc (BP hkne (hsame ?_)) (fun _=>⟨rfl,rfl,rfl⟩)fun _=>rfl)
      intro k' v';exact(hinn k' v').symm.trans (hpn k' v')
     |true=>
      refine al.2 ?_;refine o9 (hu02.get0 hb) (hs.upd hu02 fun _ h=>h.elim) (by rw[hL.1];exact hn)fun h3 s3 b3 ho3 hu3=>?_
      refine⟨_,rfl,s3,gD (i:=3) b3,?_⟩;have hil:i<ks.length:=by rw[hL.1];exact hi
      obtain⟨a3,ha3,hab,hw3,ho4,hu4⟩:=OwnS.setAt ho3 hil (some ⟨b2,0,none⟩);have hlen3:=ho3.len;refine⟨⟨by simp only;omega,by simp only;omega⟩,a3,ha3,?_⟩
      have hw1:Wr h3 (adr a3 (i*1)):=by
       rcases hw3 with hw|⟨b',hb',hw⟩
       ·cases hw
       ·cases hb';exact hw 0 (by simp)
      refine⟨hw1,bC ?_⟩;have b4:=hu4.get b3 fun e=>by have e:h2.size=a3.block:=e;have:=hab.1;omega
      have hu24:Upd No h2 _:=hu3.trans hu4 fun x hx=>.inr (by have hx:x=a3.block:=hx;have:=hab.1;omega)
      have hu04:=hu02.tr hu24;have eset:ks.set i (some ⟨b2,0,none⟩)=ks.take i++some ⟨b2,0,none⟩::ks.drop (i+1):=by rw[List.set_eq_take_append_cons_drop,if_pos hil]
      rw[←eset]at ho4;exact hk _ h2.size w _ added true hu04 ⟨val,s3,none,_,b4,hv,ho4.sl (fun x hx _ hw=>by have:=hW _ hw;have:=hu02.size;have:=hx.1;omega),⟨ho4.cap,fun hx=>by have:=hW _ hx;have:=hu02.size;omega⟩,lU.2 (by rw[Fo.to_of];exact hrset hu04 ⟨b2,slu,rfl,rfl,rn2.upd0 hu24⟩)⟩ (hset hslne hslhd hc2 (hbr _ _ hc2 hp2)) (BP hkne (hputs hpn)) (fun h=>by cases h) hchg
end Go.Proofs
namespace Go.Proofs
open Go Go.Lift
def zP:Fo→List (List UInt8×ByteArray)
 | .nil=> []
 | .cons lab w kids rest=>((w.map fun v=>(([]:List UInt8),v)).toList++zP kids).map (fun p=>(lab++p.1,p.2))++zP rest
def yH(w:Option ByteArray)(F:Fo):List (List UInt8×ByteArray):=(w.map fun v=>(([]:List UInt8),v)).toList++zP F
theorem tf:∀{F:Fo} {k:List UInt8} {v:ByteArray},(k,v)∈zP F↔tC F k v
 | .nil,_,_=>by simp[zP,tC]
 | .cons lab w kids rest,k,v=>by
  unfold zP tC;rw[be,tf (F:=rest)];refine or_congr ?_ vT;rw[iQ];constructor
  ·rintro⟨⟨r,u⟩,hm,he⟩
   simp only[rN.injEq]at he;obtain⟨rfl,rfl⟩:=he;refine⟨r,rfl,?_⟩;rcases be.1 hm with h|h
   ·left
    rw[pL,fg]at h;obtain⟨a,ha,he⟩:=h;simp only[rN.injEq]at he;exact⟨he.1.symm,by rw[ha,he.2]⟩
   ·exact.inr (tf.1 h)
  ·rintro⟨r,rfl,h⟩
   refine⟨(r,v),be.2 ?_,rfl⟩;rcases h with⟨rfl,h⟩|h
   ·left;rw[h];simp
   ·exact.inr (tf.2 h)
theorem mq{w:Option ByteArray}{F:Fo}{k:List UInt8}{v:ByteArray}:(k,v)∈yH w F↔vf w F k v:=by
 unfold yH vf;rw[be,tf];refine or_congr ?_ vT;cases w with
 |none=>simp
 |some u=>simp[Prod.ext_iff,eq_comm]
abbrev Up(l:List(List UInt8×ByteArray)):Prop:=l.Pairwise fun p q=>p.1<q.1
theorem Ji{a x y:List UInt8}(h:x<y):a++x<a++y:=by
 induction a with
 |nil=>exact h
 |cons c a ih=>exact List.Lex.cons ih
theorem KT{x y:List UInt8}(hy:y≠[])(h:hd x<hd y):x<y:=by
 match x,y,hy with
 | [],b::y,_=>exact vS
 |a::x,b::y,_=>exact List.Lex.rel (UInt8.lt_iff_toNat_lt.2 h)
theorem Mt:∀{F:Fo},ie F→Up (zP F)
 | .nil,_=>eO
 | .cons lab w kids rest,h=>by
  unfold zP;refine bQ.2 ⟨?_,Mt h.2.2.2.2,?_⟩
  ·rw[pQ]
   refine List.Pairwise.imp (R:=fun p q:List UInt8×ByteArray=>p.1<q.1) (fun hab=>Ji hab) ?_
   refine bQ.2 ⟨?_,Mt h.2.2.1,?_⟩
   ·cases w<;>simp
   ·intro a ha b hb
    have hne:b.1≠[]:=wN h.2.2.1 (tf (F:=kids).1 (show(b.1,b.2)∈_ from hb))
    have ha0:a.1= []:=by
     rw[pL,fg]at ha;obtain⟨v,_,e⟩:=ha;rw[←e]
    rw[ha0];match b.1,hne with
    |c::l,_=>exact vS
  ·intro a ha b hb
   obtain⟨p,_,rfl⟩:=iQ.1 ha;obtain⟨n,hn,e,_⟩:=yM h.2.2.2.2 (tf (F:=rest).1 (show(b.1,b.2)∈_ from hb))
   have hne:b.1≠[]:=wN h.2.2.2.2 (tf (F:=rest).1 (show(b.1,b.2)∈_ from hb))
   have:=h.2.2.2.1 n hn;exact KT hne (by rw[pk h.1];omega)
theorem Od{w:Option ByteArray}{F:Fo}(h:ie F):Up (yH w F):=by
 refine bQ.2 ⟨by cases w<;>simp,Mt h,?_⟩
 intro a ha b hb;have hne:b.1≠[]:=wN h (tf (F:=F).1 (show(b.1,b.2)∈_ from hb))
 have ha0:a.1= []:=by
  rw[pL,fg]at ha;obtain⟨v,_,e⟩:=ha;rw[←e]
 rw[ha0];match b.1,hne with
 |c::l,_=>exact vS
theorem P7:∀{l l':List (List UInt8×ByteArray)},Up l→Up l'→(∀p,p∈l↔p∈l')→l=l'
 | [],[],_,_,_=>rfl
 | [],q::l',_,_,h=>absurd ((h q).2 (ax ..)) (by simp)
 |p::l,[],_,_,h=>absurd ((h p).1 (ax ..)) (by simp)
 |p::l,q::l',hr,hr',h=>by
  have hr:=az.1 hr;have hr':=az.1 hr';have e:p=q:=by
   rcases aB.1 ((h p).1 (ax ..))with e|hp
   ·exact e
   ·rcases aB.1 ((h q).2 (ax ..))with e|hq
    ·exact e.symm
    ·exact absurd (List.lt_trans (hr.1 q hq) (hr'.1 p hp)) (sW _)
  subst e;rw[P7 hr.2 hr'.2 fun z=>?_]
  constructor
  ·intro hz
   rcases aB.1 ((h z).1 (aF _ hz))with e|hz'
   ·exact absurd (hr.1 z hz) (by rw[e];exact sW _)
   ·exact hz'
  ·intro hz
   rcases aB.1 ((h z).2 (aF _ hz))with e|hz'
   ·exact absurd (hr'.1 z hz) (by rw[e];exact sW _)
   ·exact hz'
def Tq:Fo→Nat
 | .nil=>0
 | .cons _ _ kids rest=>1+Tq kids+Tq rest
end Go.Proofs
namespace Go.Proofs
open Go Go.Lift
structure RadAt(W:Nat→Prop)(h:af)(b:Nat)(l:List Pr):Prop where
 ex:∃w F,RxN W h b ⟨#[]⟩ w F∧ie F∧∀k v,(k,v)∈yH w F↔∃p∈l,p.1.data.toList=k∧p.2=v
theorem RadAt.upd0{W:Nat→Prop}{h h':af}{b:Nat}{l:List Pr}(k:Upd No h h')(r:RadAt W h b l):RadAt W h' b l:=by
 obtain⟨w,F,r1,r2,r3⟩:=r.ex;exact⟨w,F,r1.upd0 k,r2,r3⟩
theorem RadAt.less{W W':Nat→Prop}{h:af}(hm:∀b,W' b→W b∨h.size≤b){b:Nat}{l:List Pr}(r:RadAt W h b l):RadAt W' h b l:=by
 obtain⟨w,F,r1,r2,r3⟩:=r.ex;exact⟨w,F,r1.less hm,r2,r3⟩
theorem RadAt.updM{W M:Nat→Prop}{h h':af}(k:Upd M h h')(hm:∀b,M b→W b∨h.size≤b){b:Nat}{l:List Pr}(r:RadAt W h b l):RadAt W h' b l:=by
 obtain⟨w,F,r1,r2,r3⟩:=r.ex;exact⟨w,F,r1.updM k hm,r2,r3⟩
def TD(l:List Pr):List (List UInt8×ByteArray):=l.map fun p=>(p.1.data.toList,p.2)
theorem S4{l:List Pr}(hr:bU l):Up (TD l):=by
 unfold TD Up;rw[pQ];refine List.Pairwise.imp (R:=fun p q:Pr=>kl p.1 q.1) (fun{a b} h=>?_) hr
 rw[IM,dS,dS]at h;exact h
theorem RY{w:Option ByteArray}{F:Fo}{l:List Pr}(hc:ie F)(hr:bU l)(he:∀k v,(k,v)∈yH w F↔∃p∈l,p.1.data.toList=k∧p.2=v):yH w F=TD l:=by
 refine P7 (Od hc) (S4 hr)fun p=>?_
 have:=he p.1 p.2;rw[show(p.1,p.2)=p from rfl]at this
 rw[this];unfold TD;rw[iQ];constructor
 ·rintro⟨q,hq,e1,e2⟩;exact⟨q,hq,Prod.ext e1 e2⟩
 ·rintro⟨q,hq,e⟩;rw[←e];exact⟨q,hq,rfl,rfl⟩
end Go.Proofs
namespace Go.Proofs
open Go Go.Lift
theorem qF{p q:Pr}:∀{l:List Pr},bU l→(q∈fU p l↔q=p∨(q∈l∧q.1≠p.1))
 | [],_=>by simp[fU]
 |r::l,hr=>by
  have hr:=az.1 hr;rw[fT];by_cases h1:kl r.1 p.1
  ·have hne:r.1≠p.1:=fun e=>by rw[e]at h1;exact bI _ h1
   rw[if_pos h1,aB,aB,qF hr.2];constructor
   ·rintro(rfl|h|⟨h,h'⟩)
    ·exact.inr ⟨.inl rfl,hne⟩
    ·exact.inl h
    ·exact.inr ⟨.inr h,h'⟩
   ·rintro(h|⟨h|h,h'⟩)
    ·exact.inr (.inl h)
    ·exact.inl h
    ·exact.inr (.inr ⟨h,h'⟩)
  ·rw[if_neg h1]
   by_cases h2:r.1=p.1
   ·rw[if_pos h2,aB,aB]
    constructor
    ·rintro(h|h)
     ·exact.inl h
     ·refine.inr ⟨.inr h,fun e=>?_⟩
      have:=hr.1 q h;rw[e,h2]at this;exact bI _ this
    ·rintro(h|⟨rfl|h,h'⟩)
     ·exact.inl h
     ·exact absurd h2 h'
     ·exact.inr h
   ·rw[if_neg h2,aB,aB]
    have h3:=mt h1 h2;constructor
    ·rintro(h|rfl|h)
     ·exact.inl h
     ·exact.inr ⟨.inl rfl,h2⟩
     ·refine.inr ⟨.inr h,fun e=>?_⟩
      have:=dV h3 (hr.1 q h);rw[e]at this;exact bI _ this
    ·rintro(h|⟨rfl|h,h'⟩)
     ·exact.inl h
     ·exact.inr (.inl rfl)
     ·exact.inr (.inr h)
def RadRoot(W:Nat→Prop)(h:af)(r:Option Addr)(l:List Pr):Prop:=(r=none∧l= [])∨∃b,r=some ⟨b,0,none⟩∧RadAt W h b l
theorem RadRoot.upd0{W:Nat→Prop}{h h':af}{r:Option Addr}{l:List Pr}(k:Upd No h h')(t:RadRoot W h r l):RadRoot W h' r l:=t.imp id fun⟨b,e,t⟩=>⟨b,e,t.upd0 k⟩
theorem sA{a b:ByteArray}:a.data.toList=b.data.toList↔a=b:=by
 constructor
 ·intro h;cases a;cases b;exact congrArg ByteArray.mk (qq.1 h)
 ·rintro rfl;rfl
theorem EE{W:Nat→Prop}{h:af}(hW:∀y,W y→y<h.size){K:Option Addr→af→Prop}(hk:∀h' b,RadAt W h' b[]→Upd No h h'→K(some ⟨b,0,none⟩) h'):HC PG qx [] [.c .ptr] K h:=by
 refine Gt ?_;unfold yj;refine bC (hk _ h.size ⟨none,.nil,⟨⟨#[]⟩,⟨none,0,0⟩,none,[],bW h SS bO,rfl,Sl.nil mg,⟨au _,fun hx=>lB _ (hW _ hx)⟩,rfl⟩,trivial,fun k v=>?_⟩ (Upd.hnew No h _ _))
 simp[yH,zP]
theorem Ha{W:Nat→Prop}{h:af}{r:Option Addr}{l:List Pr}(t:RadRoot W h r l)(hW:∀y,W y→y<h.size){K:Option Addr→af→Prop}(hk:∀h' b,RadAt W h' b l→Upd No h h'→(r=some ⟨b,0,none⟩∨r=none)→K(some ⟨b,0,none⟩) h'):HC PG rG [.pointer r] [.c .ptr] K h:=by
 refine Jl r ?_;unfold AV;rcases t with⟨rfl,rfl⟩|⟨b,rfl,t⟩
 ·exact ar.2 (EE hW fun h' b t hu=>hk h' b t hu (.inr rfl))
 ·exact al.2 (hk h b t (Upd.refl _ _) (.inl rfl))
theorem Kg{W:Nat→Prop}{h:af}{r:Option Addr}{l:List Pr}(t:RadRoot W h r l)(hW:∀y,W y→y<h.size)(hr:bU l)(p:Pr)(hp:p.1.size≤1000000){K:Option Addr×Bool→af→Prop}
  (hk:∀h' b' added,Upd No h h'→RadAt W h' b'(fU p l)→(p∈l→r=some ⟨b',0,none⟩∨r=none)→K(some ⟨b',0,none⟩,added) h'):
  HC PG wV [.pointer none,.pointer r,.agg #[.string p.1,.string p.2]] [.c .ptr,.c .bool] K h:=by
 refine Ll none r p ?_;unfold Dm aj;have k1:=Upd.hnew No h [.string p.1,.string p.2] aq;have b1:=bW h [.string p.1,.string p.2] aq;refine bC ?_;simp only[cH h];generalize hnew h [.string p.1,.string p.2] aq=h1 at k1 b1;have w1:∀{h':af},Upd No h1 h'→∀i,aN h' (adr ⟨h.size,0,none⟩ i)=(#[.string p.1,.string p.2]:Array Value)[i]?:=fun k i=>by rw[cd,bj (k.get0 b1),aQ]
 have r0:=Upd.refl No h1;refine⟨p.1,w1 r0 0,p.2,w1 r0 1,Ha (t.upd0 k1) (fun y hy=>aJ (hW y hy) k1.size)fun h2 b t2 hu2 hb=>⟨w1 hu2 1,w1 hu2 0,?_⟩⟩
 obtain⟨w,F,r1,r2,r3⟩:=t2.ex;refine Qo (p.1.size+1) p.1 p.2 (by omega) hp r1 (fun y hy=>aJ (hW y hy) (k1.tr hu2).size) r2 fun h3 b3 w' F' added ch hu3 rn3 hc3 hp3 hsm hch=>?_
 refine hk h3 b3 added ((k1.tr hu2).tr hu3) ⟨w',F',rn3,hc3,fun k v=>?_⟩fun hm=>?_
 ·rw[mq,hp3 k v,←mq,r3 k v]
  constructor
  ·rintro(⟨rfl,rfl⟩|⟨hne,q,hq,rfl,rfl⟩)
   ·exact⟨p,(qF hr).2 (.inl rfl),rfl,rfl⟩
   ·exact⟨q,(qF hr).2 (.inr ⟨hq,fun e=>hne (by rw[e])⟩),rfl,rfl⟩
  ·rintro⟨q,hq,rfl,rfl⟩
   rcases(qF hr).1 hq with rfl|⟨hq,hne⟩
   ·exact.inl ⟨rfl,rfl⟩
   ·exact.inr ⟨fun e=>hne (sA.1 e),q,hq,rfl,rfl⟩
 ·have:=hch (mq.1 ((r3 _ _).2 ⟨p,hm,rfl,rfl⟩))
  rw[(hsm this).1];exact hb
end Go.Proofs
namespace Go.Proofs
open Go Go.Lift
theorem bH{h:af}{cs:List Value}{t:TypeId}{k:af→Prop}(hk:∀h',h'[h.size]?=some(.cells cs.toArray t(0,0))→Upd No h h'→k h'):At(hnew h cs t) k:=
 bC(hk _(bW h cs t)(Upd.hnew No h cs t))
theorem vc{h:af}{b:Nat}{c:Array Value}{t:TypeId}(hb:h[b]?=some(.cells c t(0,0)))(i:Nat):aN h(adr ⟨b,0,none⟩ i)=c[i]?:=by rw[cd,aQ];exact bj hb
theorem Id{h:af}{b:Nat}{c:Array Value}{t:TypeId}(hb:h[b]?=some(.cells c t(0,0)))(i j:Nat):aN h(adr(adr ⟨b,0,none⟩ i) j)=c[i+j]?:=by rw[cd,cd,aQ];exact bj hb
theorem ut{h:af}{b i:Nat}{c c':Array Value}{t:TypeId}{v:Value}{k:af→Prop}(hb:h[b]?=some(.cells c t(0,0)))(hi:i<c.size)(e:c.setIfInBounds i v=c')(hk:∀h',h'[b]?=some(.cells c' t(0,0))→Upd(·=b) h h'→k h'):Wr h(adr ⟨b,0,none⟩ i)∧At(hset h(adr ⟨b,0,none⟩ i) v) k:=by
 rw[cd,aQ];exact⟨ir hb hi,xa hb fun h' hb' hu=>hk h'(e▸hb') hu⟩
theorem _root_.Go.Lift.Upd.own{h h1 h2:af}{b:Nat}(k:Upd No h h1)(hu:Upd(·=b) h1 h2)(hb:h.size≤b):Upd No h h2:=k.trans hu fun x hx=>.inr (by have hx:x=b:=hx;omega)
theorem _root_.Go.Lift.Upd.oth{h h':af}{b c:Nat}{o:Obj}(hu:Upd(·=b) h h')(hc:h[c]?=some o)(hne:c≠b):h'[c]?=some o:=hu.get hc hne
abbrev Tr:=Int×Int×Int×Int×(Option Addr)×(Option Addr)
abbrev pX(t:Tr):List Value:= [.int .i64 t.1,.int .u64 t.2.1,.int .u64 t.2.2.1,.int .u64 t.2.2.2.1,.pointer t.2.2.2.2.1,.pointer t.2.2.2.2.2]
abbrev LZ(t:Tr):Value:=.agg #[.int .i64 t.1,.int .u64 t.2.1,.int .u64 t.2.2.1,.int .u64 t.2.2.2.1,.pointer t.2.2.2.2.1,.pointer t.2.2.2.2.2]
def Pro(W:Nat→Prop)(h h2:af)(y:Nat):Prop:=W y∨(h.size≤y∧y<h2.size)
theorem Pro.lt{W:Nat→Prop}{h h2:af}(hW:∀y,W y→y<h.size)(k:Upd No h h2):∀y,Pro W h h2 y→y<h2.size:=fun y hy=>hy.elim (fun h=>aJ (hW y h) k.size)fun h=>h.2
theorem Pro.hm{W:Nat→Prop}{h h2:af}:∀y,Pro W h h2 y→W y∨h.size≤y:=fun _ hy=>hy.imp id fun h=>h.1
theorem Pro.sub{W:Nat→Prop}{h h2 h3:af}:∀y,W y→Pro W h h2 y∨h3.size≤y:=fun _ hy=>.inl (.inl hy)
theorem RootAt.less{W W':Nat→Prop}{x:Hs}{h:af}(hm:∀b,W' b→W b∨h.size≤b){r:Option Addr}{l:List Pr}(t:RootAt W x h r l):RootAt W' x h r l:=t.imp id fun⟨b,e,t⟩=>⟨b,e,TrieAt.less hm t⟩
theorem RadRoot.less{W W':Nat→Prop}{h:af}(hm:∀b,W' b→W b∨h.size≤b){r:Option Addr}{l:List Pr}(t:RadRoot W h r l):RadRoot W' h r l:=t.imp id fun⟨b,e,t⟩=>⟨b,e,t.less hm⟩
def TreeIs(W:Nat→Prop)(h:af)(kind:Int)(x:Hs)(t:Tr)(l:List Pr):Prop:=(kind=0∧∃b,t=(0,x.k0,x.k1,x.mask,some ⟨b,0,none⟩,none)∧TrieAt W x h 13 b l)∨(kind=1∧∃b,t=(1,0,0,0,none,some ⟨b,0,none⟩)∧RadAt W h b l)
theorem TreeIs.upd0{W:Nat→Prop}{h h':af}{kind:Int}{x:Hs}{t:Tr}{l:List Pr}(k:Upd No h h')(i:TreeIs W h kind x t l):TreeIs W h' kind x t l:=
 i.imp (fun⟨e,b,e2,t⟩=>⟨e,b,e2,TrieAt.upd0 k t⟩)fun⟨e,b,e2,t⟩=>⟨e,b,e2,t.upd0 k⟩
theorem TreeIs.less{W W':Nat→Prop}{h:af}(hm:∀b,W' b→W b∨h.size≤b){kind:Int}{x:Hs}{t:Tr}{l:List Pr}(i:TreeIs W h kind x t l):TreeIs W' h kind x t l:=
 i.imp (fun⟨e,b,e2,t⟩=>⟨e,b,e2,TrieAt.less hm t⟩)fun⟨e,b,e2,t⟩=>⟨e,b,e2,t.less hm⟩
theorem TreeIs.updM{W M:Nat→Prop}{h h':af}(k:Upd M h h')(hm:∀b,M b→W b∨h.size≤b){kind:Int}{x:Hs}{t:Tr}{l:List Pr}(i:TreeIs W h kind x t l):TreeIs W h' kind x t l:=
 i.imp (fun⟨e,b,e2,t⟩=>⟨e,b,e2,TrieAt.updM k hm t⟩)fun⟨e,b,e2,t⟩=>⟨e,b,e2,t.updM k hm⟩
theorem TreeIs.pro{W:Nat→Prop}{h h2:af}(k:Upd No h h2){kind:Int}{x:Hs}{t:Tr}{l:List Pr}(i:TreeIs W h kind x t l):TreeIs (Pro W h h2) h2 kind x t l:=(i.less Pro.hm).upd0 k
theorem Gl{W:Nat→Prop}{x:Hs}{h:af}(hW:∀y,W y→y<h.size){K:Option Addr→af→Prop}(hk:∀h' b,TrieAt W x h' 13 b[]→Upd No h h'→K(some ⟨b,0,none⟩) h'):HC PG nQ [] [.c .ptr] K h:=by
 refine ye ?_;unfold un;exact pi hW fun h' b nd hu=>hk h' b (JR nd) hu
abbrev Ig:Tr:=(0,0,0,0,none,none)
theorem CM{W:Nat→Prop}{x:Hs}{h:af}{r:Option Addr}{l:List Pr}(t:RootAt W x h r l)(hW:∀y,W y→y<h.size){K:Tr→af→Prop}(hk:∀h' t,TreeIs W h' 0 x t l→Upd No h h'→K t h'):HC PG pn [.agg #[.int .u64 x.k0,.int .u64 x.k1,.int .u64 x.mask],.pointer r] [.agg [.int .i64,.int .u64,.int .u64,.int .u64,.ptr,.ptr]] K h:=by
 refine Fy (x.k0,x.k1,x.mask) r ?_;unfold xg aj;refine bH fun h1 b1 k1=>bH fun h2 b2 k2=>?_
 have z1:=bD b1;have z2:=bD b2;have k02:=k1.tr k2;refine Join.intro (fun t h'=>Upd No h2 h'∧∃b,t=some ⟨b,0,none⟩∧TrieAt (Pro W h h2) x h' 13 b l) (fun R hR=>?_) ?_
 ·rcases t with⟨rfl,rfl⟩|⟨b,rfl,t⟩
  ·exact ar.2 (Gl (Pro.lt hW k02)fun h3 b t hu3=>hR _ _ ⟨hu3,b,rfl,t⟩)
  ·exact al.2 (hR _ _ ⟨Upd.refl _ _,b,rfl,TrieAt.upd0 k02 (TrieAt.less Pro.hm t)⟩)
 ·rintro t3 h3 ⟨hu3,b,rfl,t3⟩
  have c1:=hu3.get0 (k2.get0 b1);refine⟨_,vc c1 0,_,vc c1 1,_,vc c1 2,?_⟩;refine dd (c:=pX Ig) (vs:=pX (0,x.k0,x.k1,x.mask,some ⟨b,0,none⟩,none)) (hu3.get0 b2) rfl fun h4 b4 hu4=>?_
  refine⟨_,vc b4 0,_,vc b4 1,_,vc b4 2,_,vc b4 3,_,vc b4 4,_,vc b4 5,?_⟩;have hb1:h.size≤h1.size:=k1.size;exact hk h4 _ (.inl ⟨rfl,b,rfl,TrieAt.less Pro.sub (TrieAt.updM hu4 (fun y hy=>.inl (.inr (by have hy:y=h1.size:=hy;omega))) t3)⟩) ((k02.tr hu3).own hu4 hb1)
theorem CL{W:Nat→Prop}{x:Hs}{h:af}{r:Option Addr}{l:List Pr}(t:RadRoot W h r l)(hW:∀y,W y→y<h.size){K:Tr→af→Prop}(hk:∀h' t,TreeIs W h' 1 x t l→Upd No h h'→K t h'):HC PG pm [.pointer r] [.agg [.int .i64,.int .u64,.int .u64,.int .u64,.ptr,.ptr]] K h:=by
 refine Fx r ?_;unfold xf aj;refine bH fun h2 b2 k02=>?_
 have z2:=bD b2;refine Join.intro (fun t h'=>Upd No h2 h'∧∃b,t=some ⟨b,0,none⟩∧RadAt (Pro W h h2) h' b l) (fun R hR=>?_) ?_
 ·rcases t with⟨rfl,rfl⟩|⟨b,rfl,t⟩
  ·exact ar.2 (EE (Pro.lt hW k02)fun h3 b t hu3=>hR _ _ ⟨hu3,b,rfl,t⟩)
  ·exact al.2 (hR _ _ ⟨Upd.refl _ _,b,rfl,(t.less Pro.hm).upd0 k02⟩)
 ·rintro t3 h3 ⟨hu3,b,rfl,t3⟩
  refine dd (c:=pX Ig) (vs:=pX (1,0,0,0,none,some ⟨b,0,none⟩)) (hu3.get0 b2) rfl fun h4 b4 hu4=>?_
  refine⟨_,vc b4 0,_,vc b4 1,_,vc b4 2,_,vc b4 3,_,vc b4 4,_,vc b4 5,?_⟩;exact hk h4 _ (.inr ⟨rfl,b,rfl,(t3.updM hu4 (fun y hy=>.inl (.inr (by have hy:y=h.size:=hy;omega)))).less Pro.sub⟩) ((k02.tr hu3).own hu4 (au _))
theorem NY{W:Nat→Prop}{x:Hs}{h:af}(hW:∀y,W y→y<h.size){kind:Int}(hkd:kind=0∨kind=1){K:Tr×Int→af→Prop}(hk:∀h' t,TreeIs W h' kind x t[]→Upd No h h'→K(t,0) h'):HC PG vx [.int .i64 kind,.agg #[.int .u64 x.k0,.int .u64 x.k1,.int .u64 x.mask]] [.agg [.int .i64,.int .u64,.int .u64,.int .u64,.ptr,.ptr],.c (.int .i64)] K h:=by
 refine Nk kind (x.k0,x.k1,x.mask) ?_;unfold FI aj;refine bH fun h1 b1 k1=>bH fun h2 b2 k2=>?_
 have z1:=bD b1;have z2:=bD b2;have k02:=k1.tr k2;have hb1:h.size≤h1.size:=k1.size;have c1:=k2.get0 b1;rcases hkd with rfl|rfl
 ·refine ar.2 ⟨_,vc c1 0,_,vc c1 1,_,vc c1 2,?_⟩
  refine CM (W:=Pro W h h2) (x:=x) (l:= []) (.inl ⟨rfl,rfl⟩) (Pro.lt hW k02)fun h3 t i3 hu3=>?_
  refine dd (c:=pX Ig) (vs:=pX t) (hu3.get0 b2) rfl fun h4 b4 hu4=>?_
  refine⟨_,vc b4 0,_,vc b4 1,_,vc b4 2,_,vc b4 3,_,vc b4 4,_,vc b4 5,?_⟩;exact hk h4 t ((i3.updM hu4 (fun y hy=>.inl (.inr (by have hy:y=h1.size:=hy;omega)))).less Pro.sub) ((k02.tr hu3).own hu4 hb1)
 ·refine al.2 (ar.2 ?_)
  refine CL (W:=Pro W h h2) (x:=x) (l:= []) (.inl ⟨rfl,rfl⟩) (Pro.lt hW k02)fun h3 t i3 hu3=>?_
  refine dd (c:=pX Ig) (vs:=pX t) (hu3.get0 b2) rfl fun h4 b4 hu4=>?_
  refine⟨_,vc b4 0,_,vc b4 1,_,vc b4 2,_,vc b4 3,_,vc b4 4,_,vc b4 5,?_⟩;exact hk h4 t ((i3.updM hu4 (fun y hy=>.inl (.inr (by have hy:y=h1.size:=hy;omega)))).less Pro.sub) ((k02.tr hu3).own hu4 hb1)
theorem ux{k v:ByteArray}(h1:k.size≤256)(h2:v.size≤4096){h:af}{K:Int→af→Prop}(hk:K 0 h):HC PG kK [.string k,.string v] [.c (.int .i64)] K h:=by
 refine Jp k v ?_;unfold AZ;refine ay (fun h=>absurd h (by omega))fun _=>ay (fun h=>absurd h (by omega))fun _=>hk
theorem Qg{W:Nat→Prop}{x:Hs}{h:af}{kind:Int}{t:Tr}{l:List Pr}(i:TreeIs W h kind x t l)(hW:∀y,W y→y<h.size)(hr:bU l)(hn:l.length≤1000000)(p:Pr)(hp1:p.1.size≤256)(hp2:p.2.size≤4096){K:Tr×Int→af→Prop}
  (hk:∀h' t',TreeIs W h' kind x t'(fU p l)→(p∈l→t'=t)→Upd No h h'→K(t',0) h'):HC PG qc [LZ t,.pointer none,.agg #[.string p.1,.string p.2]] [.agg [.int .i64,.int .u64,.int .u64,.int .u64,.ptr,.ptr],.c (.int .i64)] K h:=by
 refine Cd t none p ?_;unfold uQ aj;refine bH fun h1 b1 k1=>bH fun h2 b2 k2=>bH fun h3 b3 k3=>?_
 have z1:=bD b1;have z2:=bD b2;have z3:=bD b3;have s1:h.size≤h1.size:=k1.size;have s2:h1.size≤h2.size:=k2.size;have s3:=k3.size;have k03:=(k1.tr k2).tr k3;have v1:=k3.get0 (k2.get0 b1);have v2:=k3.get0 b2;have i3:=i.pro k03;have hW3:=Pro.lt hW k03;refine⟨_,vc v2 0,_,vc v2 1,ux hp1 hp2 (al.2 ?_)⟩;rcases i3 with⟨rfl,b,rfl,t3⟩|⟨rfl,b,rfl,t3⟩
 ·refine⟨_,vc v1 0,al.2 ⟨_,Id v1 1 0,_,Id v1 1 1,_,Id v1 1 2,_,vc v1 4,p.1,vc v2 0,p.2,vc v2 1,?_⟩⟩
  refine Lg (.inr ⟨b,rfl,t3⟩) hW3 hr hn p fun h4 b4 hu4 t4 hsame=>?_
  refine ut (i:=4) (c':=(pX (0,x.k0,x.k1,x.mask,some ⟨b4,0,none⟩,none)).toArray) (hu4.get0 v1) (show 4<6 by decide) rfl fun h5 v5 hu5=>?_
  refine⟨_,vc v5 0,_,vc v5 1,_,vc v5 2,_,vc v5 3,_,vc v5 4,_,vc v5 5,?_⟩;refine dd (c:=pX Ig) (vs:=pX (0,x.k0,x.k1,x.mask,some ⟨b4,0,none⟩,none)) (hu5.oth (hu4.get0 b3) (by omega)) rfl fun h6 v6 hu6=>?_
  refine⟨_,vc v6 0,_,vc v6 1,_,vc v6 2,_,vc v6 3,_,vc v6 4,_,vc v6 5,?_⟩;refine hk h6 _ (.inl ⟨rfl,b4,rfl,TrieAt.less Pro.sub (TrieAt.updM hu6 (fun y hy=>.inl (.inr (by have hy:y=h2.size:=hy;omega))) (TrieAt.updM hu5 (fun y hy=>.inl (.inr (by have hy:y=h.size:=hy;omega))) t4))⟩) (fun hm=>?_) (((k03.tr hu4).own hu5 (au _)).own hu6 (by omega))
  rcases hsame hm with e|e
  ·rw[e]
  ·cases e
 ·refine⟨_,vc v1 0,ar.2 ⟨_,vc v1 5,p.1,vc v2 0,p.2,vc v2 1,?_⟩⟩
  refine Kg (.inr ⟨b,rfl,t3⟩) hW3 hr p (by omega)fun h4 b4 added hu4 t4 hsame=>?_
  refine ut (i:=5) (c':=(pX (1,0,0,0,none,some ⟨b4,0,none⟩)).toArray) (hu4.get0 v1) (show 5<6 by decide) rfl fun h5 v5 hu5=>?_
  refine⟨_,vc v5 0,_,vc v5 1,_,vc v5 2,_,vc v5 3,_,vc v5 4,_,vc v5 5,?_⟩;refine dd (c:=pX Ig) (vs:=pX (1,0,0,0,none,some ⟨b4,0,none⟩)) (hu5.oth (hu4.get0 b3) (by omega)) rfl fun h6 v6 hu6=>?_
  refine⟨_,vc v6 0,_,vc v6 1,_,vc v6 2,_,vc v6 3,_,vc v6 4,_,vc v6 5,?_⟩;refine hk h6 _ (.inr ⟨rfl,b4,rfl,((t4.updM hu5 (fun y hy=>.inl (.inr (by have hy:y=h.size:=hy;omega)))).updM hu6 (fun y hy=>.inl (.inr (by have hy:y=h2.size:=hy;omega)))).less Pro.sub⟩) (fun hm=>?_) (((k03.tr hu4).own hu5 (au _)).own hu6 (by omega))
  rcases hsame hm with e|e
  ·rw[e]
  ·cases e
end Go.Proofs
namespace Go.Proofs
open Go Go.Lift
def pj(t u:Tr):Bool:=(t.1==u.1)&&((((t.2.1==u.2.1)&&((t.2.2.1==u.2.2.1)&&true)))&&((t.2.2.2.1==u.2.2.2.1)&&true))
theorem Qh{t u:Tr}{h:af}{K:Bool→af→Prop}(hk:∀h',Upd No h h'→K(pj t u) h'):HC PG wU [LZ t,LZ u] [.c .bool] K h:=by
 refine Lk t u ?_;unfold Dl aj;refine bH fun h1 b1 k1=>bH fun h2 b2 k2=>?_
 have c1:=k2.get0 b1;refine⟨_,vc c1 0,_,vc b2 0,?_⟩;have:=hk h2 (k1.tr k2);unfold pj at this;rcases hb:(t.1==u.1)with _|_
 ·rw[hb]at this
  exact al.2 this
 ·rw[hb]at this
  exact ar.2 ⟨_,Id c1 1 0,_,Id c1 1 1,_,Id c1 1 2,_,Id b2 1 0,_,Id b2 1 1,_,Id b2 1 2,this⟩
theorem G3{W:Nat→Prop}{x:Hs}{h:af}{b:Nat}{l:List Pr}(t:TrieAt W x h 13 b l){K:Option Addr→af→Prop}(hk:∀h',Upd No h h'→K(some ⟨b,0,none⟩) h'):HC PG lW [LZ (0,x.k0,x.k1,x.mask,some ⟨b,0,none⟩,none)] [.c .ptr] K h:=by
 refine AD (0,x.k0,x.k1,x.mask,some ⟨b,0,none⟩,none) ?_;unfold tH aj;refine bH fun h1 b1 k1=>?_
 refine Join.intro (fun t h'=>t=false∧h'=h1) (fun R hR=>⟨_,vc b1 0,ar.2 ⟨_,vc b1 4,hR _ _ ⟨rfl,rfl⟩⟩⟩) ?_
 rintro t h' ⟨rfl,rfl⟩;exact al.2 ⟨_,vc b1 4,hk h' k1⟩
theorem Pc{W W':Nat→Prop}{h h':af}{kind kind':Int}{x x':Hs}{t u:Tr}{l l':List Pr}(i:TreeIs W h kind x t l)(i':TreeIs W' h' kind' x' u l')(hl:pj t u=true):kind=kind'∧(kind=0→x=x'):=by
 rcases i with⟨rfl,b,rfl,_⟩|⟨rfl,b,rfl,_⟩<;>rcases i' with⟨rfl,b',rfl,_⟩|⟨rfl,b',rfl,_⟩
 ·refine⟨rfl,fun _=>?_⟩
  unfold pj at hl;simp only[bd,beq_iff_eq,Bool.and_true,true_and]at hl;cases x;cases x';simp only at hl;simp only[Hs.mk.injEq];exact⟨hl.1.1,hl.1.2,hl.2⟩
 ·simp[pj]at hl
 ·simp[pj]at hl
 ·exact⟨rfl,fun h=>by cases h⟩
theorem TreeIs.plain{W:Nat→Prop}{h:af}{kind:Int}{x:Hs}{t:Tr}{l:List Pr}(i:TreeIs W h kind x t l):(∀a,t.2.2.2.2.1=some a→fI h a)∧(∀a,t.2.2.2.2.2=some a→fI h a):=by
 rcases i with⟨rfl,b,rfl,t⟩|⟨rfl,b,rfl,t⟩
 ·obtain⟨s,nd,_⟩:=t
  obtain⟨d,n,sp,sk,ow,hb,_⟩:=nd.ex;refine⟨fun a ha=>?_,fun a ha=>(by cases ha)⟩
  cases ha;exact⟨_,_,hb,show 0<6 by decide⟩
 ·obtain⟨w,F,⟨val,s,ow,ks,hb,_⟩,_⟩:=t.ex
  refine⟨fun a ha=>(by cases ha),fun a ha=>?_⟩
  cases ha;exact⟨_,_,hb,show 0<5 by decide⟩
end Go.Proofs
namespace Go.Proofs
open Go Go.Lift
abbrev zPrL:List Value:= [.string (⟨#[]⟩:ByteArray),.string (⟨#[]⟩:ByteArray)]
theorem zS{h:af}{t:TypeId}{p:Pr}{k:af→Prop}(hk:∀h',h'[h.size]?=some(.cells #[.string p.1,.string p.2] t(0,0))→Upd No h h'→k h'):
  At(hnew h[.string(⟨#[]⟩:ByteArray),.string(⟨#[]⟩:ByteArray)] t)fun h8=>dq h8(some(ag h)) 0[.string p.1,.string p.2]∧At(aV h8(ag h) 0[.string p.1,.string p.2]) k:=by
 refine bH fun h1 b1 k1=>?_
 exact dd(c:=zPrL)(vs:= [.string p.1,.string p.2]) b1 rfl fun h2 b2 hu2=>hk h2 b2(k1.own hu2(au _))
theorem uJ{t:TypeId}{M:Nat→Prop}{h:af}{so:SliceV}{out:List Pr}{p:Pr}{K:SliceV→af→Prop}(ho:OwnS ee 2 t M h so out)(hM:∀b,h.size≤b→M b)(hn:out.length+1≤1000000000)
  (hk:∀s' h',OwnS ee 2 t M h' s'(out++ [p])→Upd M h h'→K s' h'):
  ∃xs,SRow (hnew h [.string p.1,.string p.2] t) (some (ag h)) (1*2) xs∧AppP (some [.string (⟨#[]⟩:ByteArray),.string (⟨#[]⟩:ByteArray)]) 2 32 t so.a so.len so.cap 1 xs (hnew h [.string p.1,.string p.2] t) K:=by
 have k:=Upd.hnew No h [.string p.1,.string p.2] t;have h1:OwnS ee 2 t (fun _=>True) (hnew h [.string p.1,.string p.2] t) ⟨some (ag h),1,1⟩ [p]:=⟨rfl,fS,au _,.inr ⟨h.size,[],rfl,trivial,bW ..,rfl⟩⟩
 refine⟨_,(h1.sl (W:=No)fun _ _ _ h=>h).srow,?_⟩
 refine AppP.own (ys:= [p]) (ho.upd k fun _ _ h=>h) rfl rfl rfl rfl (by omega) (by simp only[aU];omega) (hM _ (by rw[ja];omega))fun s' h' ho' hu=>?_
 exact hk s' h' ho' ((Upd.hnew M h _ _).tr hu)
theorem Ae{p:Pr}:∀{A B:List Pr},(∀r∈A,kl r.1 p.1)→fU p (A++B)=A++fU p B
 | [],_,_=>rfl
 |r::A,B,h=>by
  rw[dy,fT,if_pos (h r (ax ..)),Ae fun q hq=>h q (aF _ hq)];rfl
theorem KQ{p q:Pr}:∀{A:List Pr},(∃r∈A,kl p.1 r.1)→fU p (A++ [q])=fU p A++ [q]
 | [],h=>by obtain⟨r,hr,_⟩:=h;simp at hr
 |r::A,h=>by
  rw[dy,fT,fT];by_cases h1:kl r.1 p.1
  ·rw[if_pos h1,if_pos h1,KQ]
   ·rfl
   ·obtain⟨r',hr',hk⟩:=h
    rcases aB.1 hr' with rfl|hr'
    ·exact absurd (dV h1 hk) (bI _)
    ·exact⟨r',hr',hk⟩
  ·rw[if_neg h1,if_neg h1]
   by_cases h2:r.1=p.1
   ·rw[if_pos h2,if_pos h2];rfl
   ·rw[if_neg h2,if_neg h2];rfl
theorem KO{p:Pr}:∀{l:List Pr},(∀q∈l,kl p.1 q.1)→fU p l=p::l
 | [],_=>rfl
 |q::l,h=>by
  have h1:=h q (ax ..);rw[fT,if_neg fun h2=>bI _ (dV h1 h2),if_neg fun e=>by rw[e]at h1;exact bI _ h1]
theorem HD{p:Pr}:∀{l:List Pr},bU l→fU p (l.filter fun q=>decide (q.1≠p.1))=fU p l
 | [],_=>rfl
 |r::l,hr=>by
  have hr:=az.1 hr;have keep:∀{l:List Pr},(∀q∈l,kl p.1 q.1)→(l.filter fun q=>decide (q.1≠p.1))=l:=fun{l} h=>List.filter_eq_self.2 fun q hq=>decide_eq_true fun e=>by have:=h q hq;rw[e]at this;exact bI _ this
  rw[List.filter_cons,fT];by_cases e:r.1=p.1
  ·have hl:∀q∈l,kl p.1 q.1:=fun q hq=>by rw[←e];exact hr.1 q hq
   rw[if_neg (by simp[e]),if_neg (by rw[e];exact bI _),if_pos e,keep hl,KO hl]
  ·rw[if_pos (by simpa using e),fT]
   by_cases h1:kl r.1 p.1
   ·rw[if_pos h1,if_pos h1,HD hr.2]
   ·rw[if_neg h1,if_neg h1,if_neg e,if_neg e]
    have h2:=mt h1 e;rw[keep fun q hq=>dV h2 (hr.1 q hq)]
theorem eu{i n:Nat}(h:i<n)(hn:n≤9223372036854775807):ac .i64 ((i:Int)+1)=((i+1:Nat):Int):=by rw[Go.IntWalk.i64_in _ (by omega)];omega
theorem xD(p:Pr):∀{l:List Pr},(fU p l).length≤l.length+1
 | []=>au _
 |q::l=>by
  rw[fT];split
  ·have:=xD p (l:=l);simp only[ao];omega
  ·split<;>simp
theorem xB{W W':Nat→Prop}{h h':af}{kind:Int}{x:Hs}{t u:Tr}{l l':List Pr}(i:TreeIs W h kind x t l)(i':TreeIs W' h' kind x u l'):pj t u=true:=by
 rcases i with⟨rfl,b,rfl,_⟩|⟨rfl,b,rfl,_⟩<;>rcases i' with⟨e,b',rfl,_⟩|⟨e,b',rfl,_⟩
 ·simp[pj]
 ·cases e
 ·cases e
 ·simp[pj]
theorem TP{k:Int}(h0:0≤k)(h1:k≤255):ac .i64 (fq k 2)=0∨ac .i64 (fq k 2)=1:=by
 have:fq k 2=k%2:=Int.tmod_eq_emod_of_nonneg h0;rw[this,cR (by omega)];omega
abbrev hsL(x:Hs):List Value:= [.int .u64 x.k0,.int .u64 x.k1,.int .u64 x.mask]
end Go.Proofs
namespace Go.Proofs
open Go Go.Lift
abbrev Wk:=Option Addr×ByteArray×Bool
theorem OwnS.pop{α:Type}{f:α→List Value}{sz:Nat}{t:TypeId}{M:Nat→Prop}{h:af}{s:SliceV}{xs:List α}{x:α}(ho:OwnS f sz t M h s(xs++ [x])):OwnS f sz t M h ⟨aP s.a 0 s.cap sz,xs.length,s.cap⟩ xs:=by
 have hl:=ho.len;have hc:=ho.cap;rw[ad,aU]at hl;refine⟨rfl,ho.ne,by simp only;omega,ho.blk.imp id fun⟨b,rest,ha,hb,aN,hr⟩=>⟨b,f x++rest,?_,hb,?_,?_⟩⟩
 ·simp only;rw[ha,sub_zero]
 ·rw[aN,List.flatMap_append,aX,List.flatMap_nil,aL,aA]
 ·rw[ad,(ho.ne x).1,hr]
  simp only;have:s.cap-xs.length=(s.cap-s.len)+1:=by omega
  rw[this,Nat.add_mul];omega
structure It where
 b:Nat
 ah:ByteArray
 own:Bool
 sl:ByteArray
 w:Option ByteArray
 F:Fo
def It.raw(i:It):Wk:=(some ⟨i.b,0,none⟩,i.ah,i.own)
def It.key(i:It):List UInt8:=i.ah.data.toList++i.sl.data.toList
def It.cost(i:It):Nat:=if i.own then 1 else 2+2*Tq i.F
end Go.Proofs
namespace Go.Proofs
open Go Go.Lift
theorem mf{W:Nat→Prop}{h:af}{b:Nat}{sl:ByteArray}{w:Option ByteArray}{F:Fo}(r:RxN W h b sl w F){K:ByteArray→af→Prop}(hk:K sl h):HC PG dJ [.pointer (some ⟨b,0,none⟩)] [.c .str] K h:=by
 refine zh _ ?_;unfold sM aj;obtain⟨val,s,ow,ks,hb,_⟩:=r;exact al.2 ⟨_,rfl,sl,gD (i:=0) hb,hk⟩
theorem ED{W:Nat→Prop}{h:af}{b:Nat}{sl:ByteArray}{w:Option ByteArray}{F:Fo}(r:RxN W h b sl w F){K:ByteArray×Bool→af→Prop}(hk:∀v,(∀u,w=some u→v=u)→K(v,w.isSome) h):HC PG kJ [.pointer (some ⟨b,0,none⟩)] [.c .str,.c .bool] K h:=by
 refine ze _ ?_;unfold sJ aj;obtain⟨val,s,ow,ks,hb,hv,_⟩:=r;exact al.2 ⟨_,rfl,val,gD (i:=2) hb,_,rfl,w.isSome,gD (i:=1) hb,hk val (vw hv)⟩
theorem BI{W:Nat→Prop}{h:af}{b:Nat}{sl:ByteArray}{w:Option ByteArray}{F:Fo}(r:RxN W h b sl w F)(hn:F.toL.length≤256){K:SliceV→af→Prop}(hk:∀s' h' ks,OwnS oZ 1 aS(fun y=>h.size≤y) h' s' ks→RxL W h' ks F.toL→Upd No h h'→K s' h'):HC PG jB [.pointer (some ⟨b,0,none⟩)] [.c .slice] K h:=by
 refine AI _ ?_;unfold tN aj;obtain⟨val,s,ow,ks,hb,hv,hs,_,hF⟩:=r;have hL:=lU.1 hF;refine al.2 ⟨_,rfl,s,gD (i:=3) hb,?_⟩;refine HW hs (by rw[hL.1];omega)fun s' h' ho hu=>hk s' h' ks ho (hL.upd0 hu) hu
def It.Ok(W:Nat→Prop)(h:af)(i:It):Prop:=RxN W h i.b i.sl i.w i.F∧ie i.F∧i.key.length≤10000∧∀p∈yH i.w i.F,i.key.length+p.1.length≤10000
theorem It.Ok.updM{W M:Nat→Prop}{h h':af}(k:Upd M h h')(hm:∀b,M b→W b∨h.size≤b){i:It}(o:It.Ok W h i):It.Ok W h' i:=⟨o.1.updM k hm,o.2⟩
theorem O5(lab:List UInt8)(w:Option ByteArray)(kids rest:Fo):zP (.cons lab w kids rest)=((w.map fun v=>(([]:List UInt8),v)).toList++zP kids).map (fun p=>(lab++p.1,p.2))++zP rest:=rfl
end Go.Proofs
namespace Go.Proofs
open Go Go.Lift
end Go.Proofs
namespace Go.Proofs
open Go Go.Lift
abbrev To(x:Pr):List Value:= [.agg #[.string x.1,.string x.2]]
theorem Gn{h:af}{fv:Value}{N:Nat}{S:List Pr→Prop}{Q:Nat→Prop}(hg:Gives PG fv To N S Q h)(hN:N≤100000000){K:SliceV→af→Prop}
  (hk:∀s' h' xs,S xs→OwnS ee 2 aq(fun b=>h.size≤b) h' s' xs→Upd No h h'→K s' h'):HC PG eM [.slice none 0 0,fv] [.c .slice] K h:=by
 refine lI ⟨none,0,0⟩ fv ?_;unfold gR aj;have k0:=Upd.hnew No h [.slice none 0 0] cj;have b0:=bW h [.slice none 0 0] cj;have hsz:(hnew h [.slice none 0 0] cj).size=h.size+1:=ja ..;have hg1:=hg.upd k0 fun _ _=>id
 refine bC ?_;generalize hnew h [.slice none 0 0] cj=h1 at hg1 k0 b0 hsz;refine⟨fun lo hlo hround=>?_⟩
 obtain⟨f,first,cap,rfl,hrun⟩:=hg1.run
 refine⟨f,first,cap,rfl,?_⟩
 have k1:Upd No h1 ((h1.push (.deferred (some []))).push (lo .ready none)):=(Upd.push No _ _).tr (Upd.push No _ _);have l2:((h1.push (.deferred (some []))).push (lo .ready none))[h1.size+1]?=some (lo .ready none):=by
  have:=Kq (h1.push (.deferred (some []))) (lo .ready none);rwa [Array.size_push]at this
 have l1:((h1.push (.deferred (some []))).push (lo .ready none))[h1.size]?=some (.deferred (some [])):=(Upd.push No _ _).get0 (Kq h1 _);refine hrun (.func (.yield (h1.size+1)) #[] #[]) (fun pre A h'=>(∀b,A b→b<h'.size∧h.size≤b)∧A h.size∧A h1.size∧A (h1.size+1)∧h'[h1.size]?=some (.deferred (some []))∧h'[h1.size+1]?=some (lo .ready none)∧
   ∃s:SliceV,h'[h.size]?=some (.cells #[sv s] cj (0,0))∧OwnS ee 2 aq (fun b=>A b∧h1.size+1<b) h' s pre∧pre.length≤N)
  (fun b=>b=h.size∨b=h1.size∨b=h1.size+1) No _ _ ⟨fun _ _ _ hj b hb=>(hj.1 b hb).1,fun pre A h' h'' B hj hu hB=>?_,fun pre A h' x K' hj hlen hK=>?_⟩ ?_ k1 (fun _ _=>id) (fun b hb hq=>?_) ?_
 ·obtain⟨h1',h2,h3,h4,h5,h6,s,h7,h8,h9⟩:=hj
  exact⟨fun b hb=>⟨aJ (h1' b hb).1 hu.size,(h1' b hb).2⟩,h2,h3,h4,hu.get h5 (hB _ h3),hu.get h6 (hB _ h4),s,hu.get h7 (hB _ h2),h8.upd hu fun b hb=>hB b hb.1,h9⟩
 ·obtain⟨hA,hA1,hA2,hA3,hd,hl,s,hs,ho,hpl⟩:=hj
  refine hround x h' K' hl ?_;refine zS (p:=x)fun hp bp kp=>?_
  have zp:=bD bp;have hl:=kp.get0 hl;have hs:=kp.get0 hs;have hd:=kp.get0 hd;have hop:=ho.upd kp fun _ _ h=>h
  have sp:=kp.size;refine⟨hl,?_⟩;have kb:Upd (·=h1.size+1) hp (hp.setIfInBounds (h1.size+1) (lo .busy none)):=Upd.set _ _ rfl
  have lb:=jo (o:=lo .busy none) hl;have sb:=kb.size;refine bC ?_;generalize hp.setIfInBounds (h1.size+1) (lo .busy none)=h2 at kb lb sb;have hlt1:=(hA _ hA1).1;have hlt3:=(hA _ hA3).1;have bp2:=kb.get bp (by omega);have hs2:=kb.get hs (by omega);refine⟨s,by rw[cH,bj hs2];rfl,_,vc bp2 0,_,vc bp2 1,bC ?_⟩
  refine uJ (p:=x) (M:=fun b=>((A b∧b<h'.size)∨h2.size≤b)∧h1.size+1<b) ((hop.upd kb fun b hb=>by omega).more fun b hb=>⟨.inl ⟨hb.1,(hA b hb.1).1⟩,hb.2⟩) (fun b hb=>⟨.inr hb,by have:=bD lb;omega⟩) (by omega)fun s' h3 ho3 hu3=>?_
  have hs3:h3[h.size]?=some (.cells #[sv s] cj (0,0)):=hu3.get hs2 (by omega);refine⟨by rw[cH];exact ir hs3 (by simp),?_⟩;have k4:Upd (·=h.size) h3 (hset h3 (ag h) (.slice s'.a s'.len s'.cap)):=Upd.hset _ _ rfl
  have hs4:(hset h3 (ag h) (.slice s'.a s'.len s'.cap))[h.size]?=some (.cells #[sv s'] cj (0,0)):=by
   rw[cH,uC hs3,jo hs3];rfl
  refine bC ?_;generalize hset h3 (ag h) (.slice s'.a s'.len s'.cap)=h4 at k4 hs4;have hl4:h4[h1.size+1]?=some (lo .busy none):=k4.get (hu3.get lb (by omega)) (by omega);refine⟨hl4,?_⟩;have k5:Upd (·=h1.size+1) h4 (h4.setIfInBounds (h1.size+1) (lo .ready none)):=Upd.set _ _ rfl
  have hl5:=jo (o:=lo .ready none) hl4;have hall:Upd A h' h4:=((kp.wide.tr (kb.mono (M':=A)fun b hb=>.inl (hb▸hA3))).trans hu3 fun b hb=>hb.1.imp (fun h=>h.1)fun h=>by omega).trans k4 fun b hb=>.inl (hb▸hA1)
  have z3:=hu3.size;have z4:=k4.size;have z5:=k5.size;refine hK _ (fun b=>((A b∧b<h'.size)∨h2.size≤b)∧b<h4.size) ⟨fun b hb=>⟨aJ hb.2 z5,hb.1.elim (fun h=>(hA b h.1).2)fun h=>by omega⟩,⟨.inl ⟨hA1,hlt1⟩,by omega⟩,⟨.inl ⟨hA2,(hA _ hA2).1⟩,by have:=(hA _ hA2).1;omega⟩,⟨.inl ⟨hA3,hlt3⟩,by omega⟩,
   k5.get (k4.get (hu3.get (kb.get hd (by omega)) (by omega)) (by omega)) (by omega),hl5,s',k5.get hs4 (by omega),?_,by simp;omega⟩ (hall.trans k5 fun b hb=>.inl (hb▸hA3))fun b hb=>hb.1.imp (fun h=>h.1)fun h=>by omega
  exact(((ho3.upd k4 fun b hb=>by omega).within).more fun b hb=>⟨⟨hb.1.1,hb.2⟩,hb.1.2⟩).upd k5 fun b hb=>by omega
 ·refine⟨fun b hb=>?_,.inl rfl,.inr (.inl rfl),.inr (.inr rfl),l1,l2,⟨none,0,0⟩,k1.get0 b0,OwnS.nil fS,bf _⟩
  have:=bD l2;rcases hb with rfl|rfl|rfl<;>omega
 ·have:=hg.lt b hq
  rcases hb with rfl|rfl|rfl<;>omega
 ·rintro xs A' h' hS ⟨hA,hA1,hA2,hA3,hd,hl,s,hs,ho,hpl⟩ hu hA'
  refine⟨.ready,none,by decide,hl,?_⟩
  have k5:Upd (·=h1.size+1) h' (h'.setIfInBounds (h1.size+1) (lo .exhausted none)):=Upd.set _ _ rfl
  show∃v:SliceV,aN (h'.setIfInBounds (h1.size+1) (lo .exhausted none)) (ag h)=some (.slice v.a v.len v.cap)∧_
  have hd5:=k5.get hd (show ¬h1.size=h1.size+1 by omega)
  have hs5:=k5.get hs (show ¬h.size=h1.size+1 by omega)
  have ho5:=ho.upd k5 fun b hb=>by omega
  generalize h'.setIfInBounds (h1.size+1) (lo .exhausted none)=h5 at k5 hd5 hs5 ho5;refine⟨s,by rw[cH,bj hs5];rfl,hd5,?_⟩
  have k6:Upd (·=h1.size) h5 (h5.setIfInBounds h1.size (.deferred none)):=Upd.set _ _ rfl
  refine hk s _ xs hS ((ho5.upd k6 fun b hb=>by omega).more fun b hb=>(hA b hb.1).2) ?_
  refine(((k0.tr k1).trans hu fun b hb=>?_).trans k5 fun b hb=>.inr (by omega)).trans k6 fun b hb=>.inr (by omega)
  rcases hb with rfl|rfl|rfl<;>(right;omega)
theorem Le{h:af}{fv:Value}{N:Nat}{S:List Pr→Prop}{Q:Nat→Prop}(hg:Gives PG fv To N S Q h)(hN:N≤100000000){K:SliceV→af→Prop}
  (hk:∀s' h' xs,S xs→OwnS ee 2 aq(fun b=>h.size≤b) h' s' xs→Upd No h h'→K s' h'):HC PG jh [fv] [.c .slice] K h:=by
 refine sC fv ?_;unfold mC;exact Gn hg hN hk
end Go.Proofs
namespace Go.Proofs
structure WO{α:Type}(lt:α→α→Bool):Prop where
 irr:∀a,lt a a=false
 asy:∀a b,lt a b=true→lt b a=false
 ntr:∀a b c,lt a b=false→lt b c=false→lt a c=false
section
variable {α:Type} {lt:α→α→Bool}
def HU(lt:α→α→Bool)(x a:α):Bool:= !lt a x&& !lt x a
def Srt(lt:α→α→Bool)(l:List α):Prop:=l.Pairwise fun a b=>lt b a=false
structure Eqf(lt:α→α→Bool)(l l':List α):Prop where
 len:l'.length=l.length
 flt:∀x,l'.filter (HU lt x)=l.filter (HU lt x)
structure St(lt:α→α→Bool)(l l':List α):Prop where
 eqf:Eqf lt l l'
 srt:Srt lt l'
theorem Eqf.rfl(l:List α):Eqf lt l l:=⟨_root_.rfl,fun _=>_root_.rfl⟩
theorem Eqf.tr{a b c:List α}(h:Eqf lt a b)(k:Eqf lt b c):Eqf lt a c:=⟨k.len.trans h.len,fun x=>(k.flt x).trans (h.flt x)⟩
theorem Eqf.app{a b a' b':List α}(h:Eqf lt a a')(k:Eqf lt b b'):Eqf lt (a++b) (a'++b'):=
 ⟨by rw[ad,ad,h.len,k.len],fun x=>by rw[g5,g5,h.flt,k.flt]⟩
theorem Fg(w:WO lt)(a:α):HU lt a a=true:=by unfold HU;rw[w.irr];rfl
theorem Eqf.mem(w:WO lt){l l':List α}(h:Eqf lt l l'){a:α}:a∈l'↔a∈l:=by
 have e:=h.flt a;constructor
 ·intro hm
  have:a∈l'.filter (HU lt a):=db.2 ⟨hm,Fg w a⟩;rw[e]at this;exact(db.1 this).1
 ·intro hm
  have:a∈l.filter (HU lt a):=db.2 ⟨hm,Fg w a⟩;rw[←e]at this;exact(db.1 this).1
theorem Sy(w:WO lt){x u v:α}(hu:HU lt x u=true)(hv:HU lt x v=true):lt v u=false:=by
 unfold HU at hu hv;simp only[bd,Bool.not_eq_true']at hu hv;exact w.ntr v x u hv.1 hu.2
theorem Eqf.swap(w:WO lt){U V:List α}(h:∀u∈U,∀v∈V,lt v u=true):Eqf lt (U++V) (V++U):=by
 refine⟨by rw[ad,ad,Nat.add_comm],fun x=>?_⟩
 rw[g5,g5];cases hU:U.filter (HU lt x)with
 |nil=>rw[aL,ce]
 |cons u us=>
  cases hV:V.filter (HU lt x)with
  |nil=>rw[aL,ce]
  |cons v vs=>
   have hu:u∈U.filter (HU lt x):=by rw[hU];exact ax ..
   have hv:v∈V.filter (HU lt x):=by rw[hV];exact ax ..
   have h1:=db.1 hu;have h2:=db.1 hv;have h3:=h u h1.1 v h2.1;rw[Sy w h1.2 h2.2]at h3;cases h3
theorem Srt.app{a b:List α}(h:Srt lt a)(k:Srt lt b)(hab:∀x∈a,∀y∈b,lt y x=false):Srt lt (a++b):=bQ.2 ⟨h,k,hab⟩
theorem Srt.left{a b:List α}(h:Srt lt(a++b)):Srt lt a:=(bQ.1 h).1
theorem Srt.right{a b:List α}(h:Srt lt(a++b)):Srt lt b:=(bQ.1 h).2.1
theorem Srt.cross{a b:List α}(h:Srt lt(a++b)):∀x∈a,∀y∈b,lt y x=false:=(bQ.1 h).2.2
theorem Srt.nil:Srt lt ([]:List α):=eO
theorem Srt.one(a:α):Srt lt [a]:=List.pairwise_singleton ..
theorem Ij(w:WO lt){S L G:List α}{t:α}(h:St lt S(L++G))(hL:∀l∈L,lt t l=false)(hG:∀g∈G,lt t g=true):St lt (S++ [t]) (L++t::G):=by
 refine⟨(h.eqf.app (Eqf.rfl [t])).tr ?_,?_⟩
 ·rw[aA]
  exact(Eqf.rfl L).app (Eqf.swap w (U:=G) (V:= [t])fun u hu v hv=>by rw[aC.1 hv];exact hG u hu)
 ·refine h.srt.left.app (az.2 ⟨fun g hg=>w.asy t g (hG g hg),h.srt.right⟩)fun x hx y hy=>?_
  rcases aB.1 hy with rfl|hy
  ·exact hL x hx
  ·exact h.srt.cross x hx y hy
theorem zG(w:WO lt){V1 V2:List α}{u:α}(h:Srt lt(V1++V2))(h1:∀v∈V1,lt v u=true)(h2:∀v∈V2,lt v u=false):St lt ([u]++(V1++V2)) (V1++u::V2):=by
 refine⟨?_,?_⟩
 ·rw[←aA]
  have:=(Eqf.swap w (U:= [u]) (V:=V1)fun x hx y hy=>by rw[aC.1 hx];exact h1 y hy).app (Eqf.rfl V2)
  rw[aA V1]at this;exact this
 ·refine h.left.app (az.2 ⟨h2,h.right⟩)fun x hx y hy=>?_
  rcases aB.1 hy with rfl|hy
  ·exact w.asy x y (h1 x hx)
  ·exact h.cross x hx y hy
theorem CN(w:WO lt){U1 U2:List α}{v:α}(h:Srt lt(U1++U2))(h1:∀u∈U1,lt v u=false)(h2:∀u∈U2,lt v u=true):St lt ((U1++U2)++ [v]) (U1++v::U2):=
 Ij w ⟨Eqf.rfl _,h⟩ h1 h2
theorem G4(w:WO lt){U1 U2 V1 V2 R1 R2:List α}(hU:Srt lt(U1++U2))(hV:Srt lt(V1++V2))(h1:∀v∈V1,∀u∈U2,lt v u=true)(h2:∀u∈U1,∀v∈V2,lt v u=false)(s1:St lt(U1++V1) R1)(s2:St lt(U2++V2) R2):St lt ((U1++U2)++(V1++V2)) (R1++R2):=by
 refine⟨?_,s1.srt.app s2.srt fun x hx y hy=>?_⟩
 ·have e:Eqf lt ((U1++U2)++(V1++V2)) ((U1++V1)++(U2++V2)):=by
   have:=((Eqf.rfl U1).app (Eqf.swap w (U:=U2) (V:=V1)fun u hu v hv=>h1 v hv u hu)).app (Eqf.rfl (lt:=lt) V2)
   simp only[aA]at this⊢;exact this
  exact e.tr (s1.eqf.app s2.eqf)
 ·rcases be.1 ((s1.eqf.mem w).1 hx)with hx|hx<;>rcases be.1 ((s2.eqf.mem w).1 hy)with hy|hy
  ·exact hU.cross x hx y hy
  ·exact h2 x hx y hy
  ·exact w.asy x y (h1 x hx y hy)
  ·exact hV.cross x hx y hy
inductive Runs(lt:α→α→Bool)(bs:Nat):List α→Prop where
 |last (l:List α):l.length≤bs→Srt lt l→Runs lt bs l
 |more (b l:List α):b.length=bs→Srt lt b→Runs lt bs l→Runs lt bs (b++l)
theorem Runs.split{bs:Nat}{l:List α}(h:Runs lt bs l)(hl:bs≤l.length):∃b r,l=b++r∧b.length=bs∧Srt lt b∧Runs lt bs r:=by
 cases h with
 |last _ h1 h2=>exact⟨l,[],(aL l).symm,by omega,h2,.last _ (bf _) Srt.nil⟩
 |more b r h1 h2 h3=>exact⟨b,r,_root_.rfl,h1,h2,h3⟩
theorem Runs.short{bs:Nat}{l:List α}(h:Runs lt bs l)(hl:l.length≤bs):Srt lt l:=by
 cases h with
 |last _ h1 h2=>exact h2
 |more b r h1 h2 h3=>
  rw[ad]at hl;have:r= []:=List.length_eq_zero_iff.1 (by omega);rw[this,aL];exact h2
def Full(lt:α→α→Bool)(bs:Nat)(d:List α):Prop:=∀z,Runs lt bs z→Runs lt bs (d++z)
theorem Full.nil{bs:Nat}:Full lt bs ([]:List α):=fun _ h=>h
theorem Full.app{bs:Nat}{d b:List α}(h:Full lt bs d)(hb:b.length=bs)(hs:Srt lt b):Full lt bs (d++b):=fun z hz=>by
 rw[aA];exact h _ (.more b z hb hs hz)
end
end Go.Proofs
namespace Go.Proofs
open Go Go.Lift
abbrev qV(z:Hs)(p:Pr):List Value:= [.string p.1,.string p.2,.int .u64 (ef z p.1)]
theorem IR(z:Hs)(p:Pr):(qV z p).length=3∧0<3:=⟨rfl,by omega⟩
theorem Oi(z:Hs):∀xs:List Pr,cf (xs.flatMap (qV z))=true
 | []=>rfl
 |x::xs=>by rw[aX];exact mN rfl (Oi z xs)
section
variable {α:Type} {f:α→List Value} {sz:Nat} {t:TypeId} {M:Nat→Prop} {h:af} {s:SliceV} {P Q:List α} {x:α}
theorem eH(ho:OwnS f sz t M h s(P++x::Q)){i:Nat}(hi:i=P.length):∃a,s.a=some a∧∀j v,(f x)[j]?=some v→aN h (adr (adr a (i*sz)) j)=some v:=by
 obtain⟨a,ha,_,hv⟩:=(ho.sl (W:=No)fun _ _ _ h=>h).at (i:=i) (x:=x) (by rw[hi,aH (au _),Nat.sub_self];rfl)
 exact⟨a,ha,hv⟩
theorem jZ(ho:OwnS f sz t M h s(P++x::Q))(y:α){a:Addr}(ha:s.a=some a){i:Nat}(hi:i=P.length){G:af→Prop}(hk:∀h',OwnS f sz t M h' s(P++y::Q)→Upd M h h'→G h'):
  dq h (some (adr a (i*sz))) 0 (f y)∧At (aV h (adr a (i*sz)) 0 (f y)) G:=by
 obtain⟨a',ha',hM,hw,ho',hu⟩:=OwnS.setAt ho (k:=i) (by rw[hi,ad,ao];omega) y;rw[ha]at ha';cases ha';refine⟨hw,bC (hk _ ?_ (hu.mono fun b hb=>.inl (by have hb:b=a.block:=hb;rw[hb];exact hM)))⟩
 subst hi;have e1:(P++x::Q).take P.length=P:=List.take_left;have e2:(P++x::Q).drop (P.length+1)=Q:=by rw[←List.drop_drop,List.drop_left];rfl
 rw[e1,e2]at ho';exact ho'
end
theorem qu{α:Type}{f:α→List Value}{sz:Nat}{t:TypeId}{M:Nat→Prop}{h:af}{s:SliceV}{xs:List α}{x:α}(ho:OwnS f sz t M h s xs){i:Nat}(hi:xs[i]?=some x):∃a,s.a=some a∧∀j v,(f x)[j]?=some v→aN h(adr(adr a(i*sz)) j)=some v:=by
 obtain⟨a,ha,_,hv⟩:=(ho.sl(W:=No)fun _ _ _ h=>h).at hi
 exact⟨a,ha,hv⟩
theorem QQ{α:Type}{A U X:List α}{i:Nat}(hi:A.length+U.length≤i):(A++(U++X))[i]?=X[i-A.length-U.length]?:=by
 rw[aH (by omega),aH (by omega)]
theorem IT{α:Type}{A U V B:List α}{i k:Nat}{x:α}(hi:A.length+U.length+k=i)(hk:V[k]?=some x):(A++(U++(V++B)))[i]?=some x:=by
 rw[QQ(by omega),show i-A.length-U.length=k by omega,bo(bi.1 hk).1];exact hk
theorem Ea{α:Type}{A U X:List α}{i k:Nat}{x:α}(hi:A.length+k=i)(hk:U[k]?=some x):(A++(U++X))[i]?=some x:=by
 rw[aH(by omega),show i-A.length=k by omega,bo(bi.1 hk).1];exact hk
theorem tg{i j:Nat}(h:i+j≤4000000000):ac .i64 (Int.fdiv (ac .u64 (ac .i64 ((i:Int)+(j:Int)))) (2^(min (1:Int).toNat (ak .u64))))=(((i+j)/2:Nat):Int):=by
 have e3:(2^(min (1:Int).toNat (ak .u64)):Int)=2:=rfl;rw[e3,cR (x:=(i:Int)+(j:Int)) (by omega),Go.IntWalk.u64_in _ (by omega),Int.fdiv_eq_ediv_of_nonneg _ (by omega),cR (by omega)];omega
theorem iI{α:Type}{lt:α→α→Bool}(w:WO lt){l:List α}(h:Srt lt l){i j:Nat}(hij:i≤j){x y:α}(hx:l[i]?=some x)(hy:l[j]?=some y):lt y x=false:=by
 obtain⟨hi,rfl⟩:=bi.1 hx;obtain⟨hj,rfl⟩:=bi.1 hy;rcases cg i j with h1|h1
 ·exact bS.1 h i j hi hj h1
 ·have:i=j:=by omega
  subst this;exact w.irr _
theorem xG{α:Type}(l:List α):l= []∨∃l' y,l=l'++ [y]:=by
 rcases List.eq_nil_or_concat l with h|⟨l',y,h⟩
 ·exact.inl h
 ·exact.inr ⟨l',y,by rw[h,List.concat_eq_append]⟩
structure Cmp{α:Type}(lt:α→α→Bool)(f:α→List Value)(M:Nat→Prop)(Iv:af→Prop)(V:Value):Prop where
 call:∀(a b:α) {h:af} {K:Int→af→Prop},Iv h→(∀h' e,Upd No h h'→decide (e<0)=lt a b→K e h')→HV PG V [.agg (f a).toArray,.agg (f b).toArray] [.c (.int .i64)] K h
 step:∀{h h':af},Upd M h h'→Iv h→Iv h'
end Go.Proofs
