/- A part of the proof that the named laws of this program answer true, whatever the input. -/
import Derived.Test.YtncppacbfagpgaaGreatPart8
import Derived.Test.YtncppacbfagpgaaGreatPart7
import Derived.Test.YtncppacbfagpgaaGreatPart4
import Derived.Sort.AssemblyPlain
open Bool renaming and_eq_true→bd
open ByteArray renaming mk→lQ
open Int renaming toNat_natCast→aX,tdiv→nn
open List renaming length_append→ac,getElem_of_mem→bK,pairwise_iff_getElem→cn,getElem_mem→bN,set_eq_take_append_cons_drop→dD,any_eq_true→cr,getElem?_eq_getElem→ai,find?_cons→pa,mem_cons_self→ao,mem_cons_of_mem→aC,pairwise_cons→aG,mem_cons→az,singleton_append→qH,take_take→iK,take_succ_eq_append_getElem→ce
open Nat renaming lt_or_ge→ct,le_refl→aq,lt_irrefl→l9,lt_of_lt_of_le→aE,zero_le→bw,min_eq_right→gt,min_eq_left→bF,le_trans→bc
namespace Go.Proofs
open Go Go.Lift
theorem kO(s:ByteArray):s.data.toList.length=s.size:=by simp
theorem RY(a b:ByteArray):(a++b).data.toList=a.data.toList++b.data.toList:=by rw[ByteArray.data_append,Array.toList_append]
theorem Ps{a b:ByteArray}{h:ad}{K:Bool→ad→Prop}(hk:K (decide (b.data.toList<+:a.data.toList)) h):HC PG uX [.string a,.string b] [.c .bool] K h:=by
 refine GH a b ?_;unfold y5 jH;refine CG a b ?_;unfold vP jH;refine rS a b ?_;unfold lj;have la:=kO a;have lb:=kO b;refine aA (fun hge=>?_) fun hlt=>?_
 ·refine⟨⟨by omega,by omega⟩,?_⟩
  rw[gE,aX];have e:decide (a.extract 0 b.size=b)=decide (b.data.toList<+:a.data.toList):=by
   rw[decide_eq_decide,←tF,Fy,List.prefix_iff_eq_take,lb];exact eq_comm
  rw[e];exact hk
 ·have e:decide (b.data.toList<+:a.data.toList)=false:=decide_eq_false fun hp=>by
   have:=hp.length_le;omega
  rw[e]at hk;exact hk
theorem RF{a b:ByteArray}{h:ad}{K:ByteArray×Bool→ad→Prop}(h1:∀s:ByteArray,a.data.toList=b.data.toList++s.data.toList→K (s,true) h)(h2:(∀r,a.data.toList≠b.data.toList++r)→K (⟨#[]⟩,false) h):HC PG wG [.string a,.string b] [.c .str,.c .bool] K h:=by
 refine NA a b ?_;unfold F1 jH;refine Ps ?_;have la:=kO a;have lb:=kO b;by_cases hp:b.data.toList<+:a.data.toList
 ·rw[decide_eq_true hp]
  have hle:=hp.length_le;refine aj.2 ⟨⟨by omega,by omega⟩,?_⟩
  rw[aX];refine h1 _ ?_;rw[Fz];obtain⟨r,e⟩:=hp;rw[←e,←lb,List.drop_left]
 ·rw[decide_eq_false hp]
  exact av.2 (h2 fun r e=>hp ⟨r,e.symm⟩)
def VX(W:Nat→Prop)(h:ad)(r:Option Addr)(o:Option Bn):Prop:=(r=none∧o=none)∨∃b sl m,r=some ⟨b,0,none⟩∧o=some m∧sl.data.toList=m.1∧RxN W h b sl m.2.1 m.2.2
theorem Pg{W:Nat→Prop}{h:ad}{b:Nat}{sl:ByteArray}{w:Option ByteArray}{F:Fo}(r:RxN W h b sl w F)(hW:∀y,W y→y<h.size)(hc:fS F)(hne:sl.data.toList≠[])(hs1:sl.size≤1000000)(hs2:∀k v,qG F k v→k.length≤1000000)
  {K:Option Addr→ad→Prop}(hk:∀h' r o,Upd No h h'→TB (sl.data.toList,w,F) o→VX W h' r o→K r h'):HC PG p9 [.pointer (some ⟨b,0,none⟩),.pointer none] [.c .ptr] K h:=by
 refine Bh _ none ?_;unfold uD ay cj aD cd xu bI mN;have hr:=r;obtain⟨val,s,ow,ks,hb,hv,hs,hcap,hF⟩:=r;have hL:=lr.1 hF;have hn:=mC hc;have hlen:=hs.len;rw[hL.1]at hlen;refine Join.intro (fun t h'=>t=decide (w.isSome∨2≤F.toL.length)∧h'=h) (fun R hR=>⟨_,rfl,w.isSome,eo (i:=1) hb,?_⟩) ?_
 ·cases w with
  |some v=>exact av.2 (hR _ _ ⟨rfl,rfl⟩)
  |none=>
   refine aj.2 ⟨_,rfl,s,eo (i:=3) hb,hR _ _ ⟨?_,rfl⟩⟩;rw[decide_eq_decide];constructor
   ·intro h;exact .inr (by omega)
   ·rintro(h|h)
    ·cases h
    ·omega
 ·rintro t h' ⟨rfl,rfl⟩
  refine aA (fun h2=>?_) fun h2=>?_
  ·exact hk h' _ _ (Upd.refl _ _) (Pw hne hc h2) (.inr ⟨b,sl,_,rfl,rfl,rfl,hr⟩)
  ·have hw:w=none:=by
    cases w with
    |none=>rfl
    |some v=>exact absurd (.inl rfl) h2
   subst hw;have hl2:F.toL.length<2:=by
    rcases ct F.toL.length 2 with h|h
    ·exact h
    ·exact absurd (.inr h) h2
   refine⟨_,rfl,s,eo (i:=3) hb,?_⟩;match hFL:F.toL,hl2 with
   | [],_=>
    rw[hFL]at hlen;have e:((s.len:Int)==(0:Int))=true:=by rw[beq_iff_eq,hlen];rfl
    rw[e];exact av.2 (hk h' _ _ (Upd.refl _ _) (Px hFL) (.inl ⟨rfl,rfl⟩))
   | [(lk,wk,Fk)],_=>
    rw[hFL]at hlen;have e:((s.len:Int)==(0:Int))=false:=by rw[beq_eq_false_iff_ne,hlen];simp
    rw[e];have hmem:(lk,wk,Fk)∈F.toL:=by rw[hFL];exact List.mem_singleton.2 rfl
    have hcm:=(ef.1 hc).2 _ hmem;have h0:0<F.toL.length:=by rw[hFL];exact Nat.one_pos
    obtain⟨kb,ksl,hki,hkl,hkn⟩:=hL.at h0;have e0:F.toL[0]=(lk,wk,Fk):=by simp only[hFL];rfl
    rw[e0]at hkl hkn;simp only at hkl hkn;obtain⟨a,ha,_,hvv⟩:=hs.at0 hki;obtain⟨kval,kss,kow,kks,hkb,hkv,hkss,hkcap,hkF⟩:=hkn;have hkL:=lr.1 hkF;have hkn2:=mC hcm.2.2;refine aj.2 ⟨_,rfl,s,eo (i:=3) hb,⟨by omega,by rw[hlen];simp⟩,a,ha,some ⟨kb,0,none⟩,hvv,?_⟩
    refine pR hkb hkss (by rw[hkL.1];exact hkn2) fun h1 s1 b1 ho1 hu1=>?_
    obtain⟨rr,vv,hin⟩:=mZ hc _ hmem;have hbd:=hs2 (lk++rr) vv (fK.2 ⟨_,hmem,rr,rfl,hin⟩);rw[ac]at hbd;have hlkl:lk.length=ksl.size:=by rw[←hkl];exact kO ksl
    refine⟨_,rfl,sl,eo (i:=0) (hu1.get0 hb),_,rfl,ksl,eo (i:=0) b1,by omega,?_⟩
    have hbl:b<h'.size:=aO hb;refine wh b1 fun h2 b2 hu2=>?_
    have hu02:Upd No h' h2:=hu1.own hu2 (aq _);have ho2:=ho1.upd hu2 fun x hx e=>by have e:x=h'.size:=e;have:=hx.1;omega
    refine hk h2 _ _ hu02 (Rc hne hc hFL) (.inr ⟨h'.size,sl++ksl,_,rfl,rfl,by rw[←hkl];exact RY sl ksl,⟨kval,s1,none,kks,b2,hkv,ho2.sl (fun x hx _ hw=>by have:=hW _ hw;have:=hx.1;omega),⟨ho2.cap,fun hx=>l9 _ (hW _ hx)⟩,RxF.upd0 hu02 hkF⟩⟩)
set_option maxHeartbeats 1000000 in
theorem QV{W:Nat→Prop}:∀(n:Nat) {b:Nat} {sl:ByteArray} {w:Option ByteArray} {F:Fo} {h:ad} (k:ByteArray),k.size<n→RxN W h b sl w F→(∀y,W y→y<h.size)→fS F→(∀j v,qG F j v→j.length≤1000000)→∀{K:(Option Addr)×Bool→ad→Prop},
  (∀h' b' w' F' gone,Upd No h h'→RxN W h' b' sl w' F'→fS F'→uR (sf w F) (sf w' F') k.data.toList→(gone=false→b'=b∧∀v,¬sf w F k.data.toList v)→(gone=true→∃v,sf w F k.data.toList v)→K (some ⟨b',0,none⟩,gone) h')→
  HC PG mw [.pointer (some ⟨b,0,none⟩),.pointer none,.string k] [.c .ptr,.c .bool] K h:=by
 intro n;induction n with
 |zero=>intro b sl w F h k hk;omega
 |succ n ih=>
  intro b sl w F h k hkn r hW hc hbd K hk;refine Bj (some ⟨b,0,none⟩) none k ?_;unfold uF ay cj aD cd jH lx bI dU gm DY ED ja mN JL;have hr:=r;obtain⟨val,s,ow,ks,hb,hv,hs,hcap,hF⟩:=r;have hL:=lr.1 hF;have hn:=mC hc;have hcan:=ef.1 hc;have stay:∀{h':ad},Upd No h h'→(∀v,¬sf w F k.data.toList v)→K (some ⟨b,0,none⟩,false) h':=fun hu hno=>hk _ b w F false hu (hr.upd0 hu) hc (Ng hno) (fun _=>⟨rfl,hno⟩) fun h=>by cases h
  rw[gE];refine aA (fun hk0=>?_) fun hk0=>?_
  ·have hke:k.data.toList= []:=by rw[hk0]
   rw[hke]at hk stay;refine⟨_,rfl,w.isSome,eo (i:=1) hb,?_⟩;cases hw:w with
   |none=>
    refine av.2 (stay (Upd.refl _ _) fun v hin=>?_)
    rcases hin with⟨_,h⟩|h
    ·rw[hw]at h;cases h
    ·exact absurd rfl (pi hc h)
   |some u=>
    refine aj.2 (pR hb hs (by rw[hL.1];exact hn) fun h1 s1 b1 ho1 hu1=>?_)
    refine⟨_,rfl,Sp (i:=1) b1 (show 1<5 by decide),Gn (i:=1) (c':=B9 sl false val s1 none) b1 rfl fun h2 b2 hu2=>?_⟩
    refine⟨_,rfl,Sp (i:=2) b2 (show 2<5 by decide),Gn (i:=2) (c':=B9 sl false ⟨#[]⟩ s1 none) b2 rfl fun h3 b3 hu3=>?_⟩
    have hu03:Upd No h h3:=hu1.own (hu2.tr hu3) (aq _);have ho3:=ho1.upd (hu2.tr hu3) fun x hx e=>by have e:x=h.size:=e;have:=hx.1;omega
    refine hk h3 h.size none F true hu03 ⟨⟨#[]⟩,s1,none,ks,b3,rfl,ho3.sl (fun x hx _ hw=>by have:=hW _ hw;have:=hx.1;omega),⟨ho3.cap,fun hx=>l9 _ (hW _ hx)⟩,RxF.upd0 hu03 hF⟩ hc (Nf hc) (fun h=>by cases h) fun _=>⟨u,.inl ⟨rfl,hw⟩⟩
  ·have hkne:k.data.toList≠[]:=fun e=>hk0 (by cases k;exact congrArg lQ (Array.toList_inj.1 e))
   obtain⟨c0,hc0,hc0e⟩:=IV hkne;refine⟨c0,Int.le_refl _,hc0,?_⟩;have hlk:k.data.toList.length=k.size:=kO k;refine B8 hr hc (c:=c0.toNat) (UInt8.toNat_lt _) fun i ok hil hlo hhi hok=>?_
   rw[hc0e]at hlo hhi hok;cases ok with
   |false=>
    refine av.2 (stay (Upd.refl _ _) fun v hin=>?_)
    rcases hin with⟨h,_⟩|hin
    ·exact hkne h
    ·obtain⟨n',hn',e,_⟩:=qU hc hin
     obtain⟨j,hj,rfl⟩:=bK hn';rcases ct j i with hl|hl
     ·have:=hlo j hj hl;omega
     ·have h1:=hhi j hj hl
      have h2:=hhi i (by omega) (aq _);rcases ct i j with hl2|hl2
      ·have h3:=cn.1 hcan.1 i j (by omega) hj hl2
       omega
      ·have:i=j:=by omega
       subst this;have:=hok.2 ⟨hj,e⟩;cases this
   |true=>
    obtain⟨hi,hie⟩:=hok.1 rfl;refine aj.2 ⟨_,rfl,s,eo (i:=3) hb,?_⟩;obtain⟨kb,ksl,hki,hkl,hkn'⟩:=hL.at hi;have hmem:F.toL[i]∈F.toL:=bN hi;have hcm:=hcan.2 _ hmem;obtain⟨a,ha,_,hvv⟩:=hs.at0 hki;have hslen:=hs.len;rw[hL.1]at hslen;have hlt1:(i:Int)<((s.len:Nat):Int):=by omega
    refine⟨⟨by simp only;omega,hlt1⟩,a,ha,some ⟨kb,0,none⟩,hvv,_,rfl,?_⟩;obtain⟨kval,kss,kow,kks,hkb,_⟩:=id hkn';have hin_m:∀v,qG F k.data.toList v→vf F.toL[i] k.data.toList v:=fun v hin=>by
     obtain⟨n',hn',e,hN⟩:=qU hc hin;rw[←wR hc hn' hmem (by omega)];exact hN
    have hm_in:∀j v,vf F.toL[i] j v→qG F j v:=fun j v hin=>fK.2 ⟨_,hmem,hin⟩
    have hcanset:∀{m:Bn},Qc m→hd m.1=hd F.toL[i].1→fS (.ofL (F.toL.set i m)):=fun h1 h2=>OU hc hi h1 h2
    have hdset:∀{m:Bn},uR (vf F.toL[i]) (vf m) k.data.toList→uR (qG F) (qG (.ofL (F.toL.set i m))) k.data.toList:=fun hp=>PK hc hi hie hp
    have hddel:(∀k' v',vf F.toL[i] k' v'→k'=k.data.toList)→uR (qG F) (qG (.ofL (F.toL.take i++F.toL.drop (i+1)))) k.data.toList:=fun hp=>PL hc hi hie hp
    have hrset:∀{h':ad} {k':Option Addr} {m:Bn},Upd No h h'→Kid W h' k' m→RxL W h' (ks.set i k') (F.toL.set i m):=fun hu hkd=>(hL.upd0 hu).set hi hkd
    generalize F.toL[i]=m at hkl hkn' hcm hin_m hm_in hcanset hdset hddel hie;obtain⟨lab,wk,Fk⟩:=m;simp only at hkl hkn' hcm hie hcanset;refine⟨ksl,eo (i:=0) hkb,RF (fun rest hrest=>?_) fun hno=>?_⟩
    ·rw[hkl]at hrest
     have hlne:lab.length≠0:=fun e=>hcm.1 (List.length_eq_zero_iff.1 e)
     have hrl:rest.size<k.size:=by
      rw[←kO rest,←hlk,hrest,ac];omega
     refine aj.2 ⟨_,rfl,s,eo (i:=3) hb,⟨by simp only;omega,hlt1⟩,a,ha,some ⟨kb,0,none⟩,hvv,?_⟩;have hkbd:∀j v,qG Fk j v→j.length≤1000000:=fun j v hin=>by
      have:=hbd _ v (hm_in (lab++j) v ⟨j,rfl,.inr hin⟩);rw[ac]at this;omega
     refine ih rest (by omega) hkn' hW hcm.2.2 hkbd fun h2 b2 w2 F2 gone hu2 rn2 hc2 hd2 hg0 hg1=>?_
     cases gone with
     |false=>
      refine av.2 (stay hu2 fun v hin=>?_)
      rcases hin with⟨h,_⟩|hin
      ·exact hkne h
      ·obtain⟨r',e,hr'⟩:=hin_m v hin
       simp only at e;rw[hrest]at e;exact(hg0 rfl).2 v (by rw[List.append_cancel_left e];exact hr')
     |true=>
      obtain⟨v0,hv0⟩:=hg1 rfl;have hthere:∃v,sf w F k.data.toList v:=⟨v0,.inr (hm_in _ _ ⟨_,hrest,hv0⟩)⟩;have hdn:uR (vf (lab,wk,Fk)) (vf (lab,w2,F2)) k.data.toList:=by
       rw[hrest];exact Nh hd2
      refine aj.2 (pR (hu2.get0 hb) (hs.upd hu2 fun _ h=>h.elim) (by rw[hL.1];exact hn) fun h3 s3 b3 ho3 hu3=>?_)
      have hu03:=hu2.tr hu3;obtain⟨rr,vv,hin⟩:=mZ hc _ hmem;have hlb:lab.length≤1000000:=by
       have:=hbd _ v0 (hm_in _ _ ⟨_,hrest,hv0⟩);rw[hrest,ac]at this;omega
      have hb2:∀j v,qG F2 j v→j.length≤1000000:=fun j v hin=>by
       rcases((hd2 j v).1 (.inr hin)).2 with⟨e,_⟩|h
       ·rw[e];simp
       ·exact hkbd j v h
      refine Pg (W:=Pro W h2 h3) ((rn2.less Pro.hm).upd0 hu3) (Pro.lt (fun y hy=>aE (hW y hy) hu2.size) hu3) hc2 (by rw[hkl];exact hcm.1) (by rw[←kO ksl,hkl];exact hlb) hb2 fun h4 r4 o4 hu4 hm4 hr4=>?_
      rw[hkl]at hm4;have b4:=hu4.get0 b3;have ho4:=ho3.upd hu4 fun _ _ h=>h
      have hu04:=hu03.tr hu4;have hz2:h.size≤h2.size:=hu2.size;have hil:i<ks.length:=by rw[hL.1];exact hi
      have hlen4:=ho4.len;rcases hr4 with⟨rfl,rfl⟩|⟨b4',sl4,m4,rfl,rfl,hsl4,rn4⟩
      ·rcases hm4 with⟨_,hno⟩|⟨_,e,_⟩
       ·have ew:IntKind.wrap .i64 ((i:Int)+1)=((i+1:Nat):Int):=by rw[d8 (by omega)];omega
        refine av.2 ⟨_,rfl,s3,eo (i:=3) b4,?_⟩;simp only;rw[ew];refine Nj ho4 hil (by rw[hL.1];omega) fun s5 h5 ho5 hu5=>?_
        have b5:=hu5.get b4 fun hx=>by have:=hx.1;omega
        refine⟨_,rfl,Sp (i:=3) b5 (show 3<5 by decide),Gn (i:=3) (c':=B9 sl w.isSome val s5 none) b5 rfl fun h6 b6 hu6=>?_⟩
        have hu06:Upd No h h6:=(hu04.trans hu5 fun x hx=>.inr (by have:=hx.1;omega)).own hu6 hz2
        have ho6:=ho5.upd hu6 fun x hx e=>by have e:x=h2.size:=e;have:=hx.1;omega
        refine hk h6 h2.size w _ true hu06 ⟨val,s5,none,_,b6,hv,ho6.sl (fun x hx _ hw=>by have:=hW _ hw;have:=hx.1;omega),⟨ho6.cap,fun hx=>by have:=hW _ hx;omega⟩,lr.2 (by rw[Fo.to_of];exact((hL.upd0 hu06).take i).app ((hL.upd0 hu06).drop (i+1)))⟩ (Ts hc) (FC hkne (hddel fun k' v' hN=>?_)) (fun h=>by cases h) fun _=>hthere
        refine Classical.byContradiction fun hne=>hno k' v' ((hdn k' v').2 ⟨hne,hN⟩)
       ·cases e
      ·rcases hm4 with⟨e,_⟩|⟨m',e,hcn,hhd,hiff⟩
       ·cases e
       ·cases e
        obtain⟨a3,ha3,hab,hw3,ho5,hu5⟩:=OwnS.setAt ho4 hil (some ⟨b4',0,none⟩);refine aj.2 ⟨_,rfl,s3,eo (i:=3) b4,⟨by simp only;omega,by simp only;omega⟩,a3,ha3,?_⟩
        have hw1:Wr h4 (adr a3 (i*1)):=by
         rcases hw3 with hw|⟨b',hb',hw⟩
         ·cases hw
         ·cases hb';exact hw 0 (by simp)
        refine⟨hw1,bq ?_⟩;have b5:=hu5.get b4 fun e=>by have e:h2.size=a3.block:=e;have:=hab.1;omega
        have hu45:Upd No h2 _:=(hu3.tr hu4).trans hu5 fun x hx=>.inr (by have hx:x=a3.block:=hx;have:=hab.1;omega)
        have hu05:=hu2.tr hu45;have eset:ks.set i (some ⟨b4',0,none⟩)=ks.take i++some ⟨b4',0,none⟩::ks.drop (i+1):=by rw[dD,if_pos hil]
        rw[←eset]at ho5;have rn5:=(rn4.updM (M:=(· =a3.block)) hu5 fun y hy=>.inl (.inr (by have hy:y=a3.block:=hy;have:=hab.1;have:=hab.2;omega))).less (W':=W) fun y hy=>.inl (.inl hy)
        exact hk _ h2.size w _ true hu05 ⟨val,s3,none,_,b5,hv,ho5.sl (fun x hx _ hw=>by have:=hW _ hw;have:=hx.1;omega),⟨ho5.cap,fun hx=>by have:=hW _ hx;omega⟩,lr.2 (by rw[Fo.to_of];exact hrset hu05 ⟨b4',sl4,rfl,hsl4,rn5⟩)⟩ (hcanset hcn hhd) (FC hkne (hdset fun k' v'=>by rw[hiff k' v'];exact hdn k' v')) (fun h=>by cases h) fun _=>hthere
    ·rw[hkl]at hno
     refine av.2 (stay (Upd.refl _ _) fun v hin=>?_)
     rcases hin with⟨h,_⟩|hin
     ·exact hkne h
     ·obtain⟨r',e,_⟩:=hin_m v hin
      exact hno r' e
end Go.Proofs
namespace Go.Proofs
open Go Go.Lift
theorem Pk{w:Option ByteArray}{F:Fo}{l:List Pr}(h:∀k v,(k,v)∈vo w F↔∃p∈l,p.1.data.toList=k∧p.2=v)(hf:Fit l):∀j v,qG F j v→j.length≤1000000:=fun j v hi=>by
 obtain⟨p,hp,e,_⟩:=(h j v).1 (jV.2 (.inr hi));have:=(hf p hp).1;rw[←e,kO];omega
theorem Iw{W:Nat→Prop}{h:ad}{b:Nat}{l:List Pr}(t:RadAt W h b l)(hW:∀y,W y→y<h.size)(hf:Fit l)(k:ByteArray){K:Option Addr×Bool→ad→Prop}
  (hk:∀h' b',Upd No h h'→RadAt W h' b' (mG k l)→(cx l k=false→b'=b)→K (some ⟨b',0,none⟩,cx l k) h'):
  HC PG wJ [.pointer none,.pointer (some ⟨b,0,none⟩),.string k] [.c .ptr,.c .bool] K h:=by
 refine Jo none (some ⟨b,0,none⟩) k ?_;unfold BB gm DY;refine B6 (.inr ⟨b,rfl,t⟩) hW fun h2 b2 t2 hu2 hb2=>?_
 have hbb:b2=b:=by
  rcases hb2 with e|e
  ·cases e;rfl
  ·cases e
 subst hbb;obtain⟨w,F,r1,r2,r3⟩:=t2.ex;refine QV (k.size+1) k (by omega) r1 (fun y hy=>aE (hW y hy) hu2.size) r2 (Pk r3 hf) fun h3 b3 w' F' gone hu3 rn3 hc3 hd3 hg0 hg1=>?_
 have hin:∀v,sf w F k.data.toList v↔(k,v)∈l:=fun v=>by
  rw[←jV,r3];constructor
  ·rintro⟨p,hp,e1,rfl⟩
   rw[←tF.1 e1];exact hp
  ·intro hp;exact⟨_,hp,rfl,rfl⟩
 have hgt:gone=cx l k:=by
  cases gone with
  |false=>
   refine(xC fun q hq e=>(hg0 rfl).2 q.2 ((hin _).2 ?_)).symm
   rw[←e];exact hq
  |true=>
   obtain⟨v,hv⟩:=hg1 rfl;exact(cr.2 ⟨_,(hin v).1 hv,decide_eq_true rfl⟩).symm
 subst hgt;refine hk h3 b3 (hu2.tr hu3) ⟨w',F',rn3,hc3,fun j v=>?_⟩ fun ht=>(hg0 ht).1
 rw[jV,hd3 j v,←jV,r3];constructor
 ·rintro⟨hne,q,hq,rfl,rfl⟩
  exact⟨q,IP.2 ⟨hq,fun e=>hne (by rw[e])⟩,rfl,rfl⟩
 ·rintro⟨q,hq,rfl,rfl⟩
  obtain⟨hq,hne⟩:=IP.1 hq;exact⟨fun e=>hne (tF.1 e),q,hq,rfl,rfl⟩
theorem Da{W:Nat→Prop}{x:Hs}{h:ad}{kind:Int}{t:Tr}{l:List Pr}(i:TreeIs W h kind x t l)(hW:∀y,W y→y<h.size)(hr:bE l)(hf:Fit l)(hn:l.length≤1000000)(k:ByteArray)(hk1:k.size≤256){K:Tr×Int→ad→Prop}
  (hk:∀h' t',TreeIs W h' kind x t' (mG k l)→(cx l k=false→t'=t)→Upd No h h'→K (t',if cx l k then 0 else 4) h'):HC PG kw [zo t,.pointer none,.string k] [.agg [.int .i64,.int .u64,.int .u64,.int .u64,.ptr,.ptr],.c (.int .i64)] K h:=by
 refine yH t none k ?_;unfold sC aN ae aH ax cp nv zm rB oa jH tY bX dU gm DY;refine aM fun h1 b1 k1=>aM fun h2 b2 k2=>?_
 have z1:=aO b1;have z2:=aO b2;have s1:h.size≤h1.size:=k1.size;have k02:=k1.tr k2;refine Cg (v:=⟨#[]⟩) hk1 (bw 4096) (aj.2 ?_);have c1:=k2.get0 b1;refine⟨_,vc c1 0,_,vc c1 1,_,vc c1 2,_,vc c1 3,_,vc c1 4,_,vc c1 5,?_⟩;refine aM fun h3 b3 k3=>?_
 have z3:=aO b3;have s2:h1.size≤h2.size:=k2.size;refine be (c:=fz sH) (vs:=fz t) b3 rfl fun h4 b4 hu4=>?_
 have k04:Upd No h h4:=(k02.tr k3).own hu4 (by omega);have k24:Upd No h2 h4:=k3.own hu4 (aq _);have s4:h3.size≤h4.size:=hu4.size;have c4:=k24.get0 c1;have d4:=k24.get0 b2;have i4:=i.pro k04;have hW4:=Pro.lt hW k04;have fin:∀{h6:ad} {t':Tr},Upd No h h6→h6[h.size]? =some (.cells (fz t').toArray aL (0,0))→h6[h1.size]? =some (.cells (fz sH).toArray aL (0,0))→h6[h2.size]? =some (.cells (fz t).toArray aL (0,0))→TreeIs (Pro W h h4) h6 kind x t' (mG k l)→(cx l k=false→t'=t)→
   CondP (!cx l k) (∃v41:Int,aS h6 (adr (ag h2) 0)=some (.int .i64 v41)∧
    ∃v42:Int,aS h6 (adr (ag h2) 1)=some (.int .u64 v42)∧
    ∃v43:Int,aS h6 (adr (ag h2) 2)=some (.int .u64 v43)∧
    ∃v44:Int,aS h6 (adr (ag h2) 3)=some (.int .u64 v44)∧
    ∃v45:Option Addr,aS h6 (adr (ag h2) 4)=some (.pointer v45)∧
    ∃v46:Option Addr,aS h6 (adr (ag h2) 5)=some (.pointer v46)∧
    (qE h6 (some (ag h1)) 0 [.int .i64 v41,.int .u64 v42,.int .u64 v43,.int .u64 v44,.pointer v45,.pointer v46]∧
     At (fk h6 (ag h1) 0 [.int .i64 v41,.int .u64 v42,.int .u64 v43,.int .u64 v44,.pointer v45,.pointer v46]) (fun h47=>
      ∃v48:Int,aS h47 (adr (ag h1) 0)=some (.int .i64 v48)∧
      ∃v49:Int,aS h47 (adr (ag h1) 1)=some (.int .u64 v49)∧
      ∃v50:Int,aS h47 (adr (ag h1) 2)=some (.int .u64 v50)∧
      ∃v51:Int,aS h47 (adr (ag h1) 3)=some (.int .u64 v51)∧
      ∃v52:Option Addr,aS h47 (adr (ag h1) 4)=some (.pointer v52)∧
      ∃v53:Option Addr,aS h47 (adr (ag h1) 5)=some (.pointer v53)∧
      K ((v48,v49,v50,v51,v52,v53),4) h47))) (
    ∃v54:Int,aS h6 (adr (ag h) 0)=some (.int .i64 v54)∧
    ∃v55:Int,aS h6 (adr (ag h) 1)=some (.int .u64 v55)∧
    ∃v56:Int,aS h6 (adr (ag h) 2)=some (.int .u64 v56)∧
    ∃v57:Int,aS h6 (adr (ag h) 3)=some (.int .u64 v57)∧
    ∃v58:Option Addr,aS h6 (adr (ag h) 4)=some (.pointer v58)∧
    ∃v59:Option Addr,aS h6 (adr (ag h) 5)=some (.pointer v59)∧
    (qE h6 (some (ag h1)) 0 [.int .i64 v54,.int .u64 v55,.int .u64 v56,.int .u64 v57,.pointer v58,.pointer v59]∧
     At (fk h6 (ag h1) 0 [.int .i64 v54,.int .u64 v55,.int .u64 v56,.int .u64 v57,.pointer v58,.pointer v59]) (fun h60=>
      ∃v61:Int,aS h60 (adr (ag h1) 0)=some (.int .i64 v61)∧
      ∃v62:Int,aS h60 (adr (ag h1) 1)=some (.int .u64 v62)∧
      ∃v63:Int,aS h60 (adr (ag h1) 2)=some (.int .u64 v63)∧
      ∃v64:Int,aS h60 (adr (ag h1) 3)=some (.int .u64 v64)∧
      ∃v65:Option Addr,aS h60 (adr (ag h1) 4)=some (.pointer v65)∧
      ∃v66:Option Addr,aS h60 (adr (ag h1) 5)=some (.pointer v66)∧
      K ((v61,v62,v63,v64,v65,v66),0) h60))):=fun{h6 t'} k6 e0 e1 e2 i6 hsm=>by
  cases ht:cx l k with
  |false=>
   rw[ht]at hk hsm;have hte:=hsm rfl;subst hte;refine av.2 ⟨_,vc e2 0,_,vc e2 1,_,vc e2 2,_,vc e2 3,_,vc e2 4,_,vc e2 5,?_⟩;refine be (c:=fz sH) (vs:=fz t') e1 rfl fun h7 b7 hu7=>?_
   refine⟨_,vc b7 0,_,vc b7 1,_,vc b7 2,_,vc b7 3,_,vc b7 4,_,vc b7 5,?_⟩;exact hk h7 t' ((i6.updM hu7 (fun y hy=>.inl (.inr (by have hy:y=h1.size:=hy;omega)))).less Pro.sub) (fun _=>rfl) (k6.own hu7 s1)
  |true=>
   rw[ht]at hk hsm;refine aj.2 ⟨_,vc e0 0,_,vc e0 1,_,vc e0 2,_,vc e0 3,_,vc e0 4,_,vc e0 5,?_⟩;refine be (c:=fz sH) (vs:=fz t') e1 rfl fun h7 b7 hu7=>?_
   refine⟨_,vc b7 0,_,vc b7 1,_,vc b7 2,_,vc b7 3,_,vc b7 4,_,vc b7 5,?_⟩;exact hk h7 t' ((i6.updM hu7 (fun y hy=>.inl (.inr (by have hy:y=h1.size:=hy;omega)))).less Pro.sub) (fun h=>by cases h) (k6.own hu7 s1)
 refine Join.intro (fun tk h6=>tk=cx l k∧Upd No h h6∧∃t',h6[h.size]? =some (.cells (fz t').toArray aL (0,0))∧h6[h1.size]? =some (.cells (fz sH).toArray aL (0,0))∧h6[h2.size]? =some (.cells (fz t).toArray aL (0,0))∧TreeIs (Pro W h h4) h6 kind x t' (mG k l)∧(cx l k=false→t'=t)) (fun R hR=>?_) ?_
 ·rcases i4 with⟨rfl,b,rfl,t4⟩|⟨rfl,b,rfl,t4⟩
  ·refine⟨_,vc c4 0,aj.2 ⟨_,sy c4 1 0,_,sy c4 1 1,_,sy c4 1 2,_,vc c4 4,?_⟩⟩
   refine Jd t4 hW4 hr hn k fun h5 b5 hu5 t5 hsm=>?_
   refine BT (i:=4) (c':=(fz (0,x.k0,x.k1,x.mask,some ⟨b5,0,none⟩,none)).toArray) (hu5.get0 c4) (show 4<6 by decide) rfl fun h6 b6 hu6=>?_
   exact hR _ _ ⟨rfl,(k04.tr hu5).own hu6 (aq _),_,b6,hu6.oth (hu5.get0 d4) (by omega),hu6.oth (hu5.get0 b4) (by omega),.inl ⟨rfl,b5,rfl,TrieAt.updM hu6 (fun y hy=>.inl (.inr (by have hy:y=h.size:=hy;omega))) t5⟩,fun ht=>by rw[hsm ht]⟩
  ·refine⟨_,vc c4 0,av.2 ⟨_,vc c4 5,?_⟩⟩
   refine Iw t4 hW4 hf k fun h5 b5 hu5 t5 hsm=>?_
   refine BT (i:=5) (c':=(fz (1,0,0,0,none,some ⟨b5,0,none⟩)).toArray) (hu5.get0 c4) (show 5<6 by decide) rfl fun h6 b6 hu6=>?_
   exact hR _ _ ⟨rfl,(k04.tr hu5).own hu6 (aq _),_,b6,hu6.oth (hu5.get0 d4) (by omega),hu6.oth (hu5.get0 b4) (by omega),.inr ⟨rfl,b5,rfl,t5.updM hu6 (fun y hy=>.inl (.inr (by have hy:y=h.size:=hy;omega)))⟩,fun ht=>by rw[hsm ht]⟩
 ·rintro _ h6 ⟨rfl,k6,t',e0,e1,e2,i6,hsm⟩
  exact fin k6 e0 e1 e2 i6 hsm
end Go.Proofs
namespace Go.Proofs
open Go Go.Lift
theorem Q3{W:Nat→Prop}{h:ad}{s:SliceV}{l:List Pr}(hs:Sl eu 2 W h s l)(hr:bE l)(hf:Fit l)(hn:l.length≤1000000)(k:ByteArray){K:Int×Bool→ad→Prop}
  (hk:∀i:Nat,(cx l k=true→∃hi:i<l.length,l[i].1=k)→K ((i:Int),cx l k) h):HC PG zP [.slice s.a s.len s.cap,.string k] [.c (.int .i64),.c .bool] K h:=by
 refine NH s k ?_;unfold F8 cj aD jH;have hlen:=hs.len;refine LoopP.ghost (fun(i:Nat) (t:Int) h'=>t=(i:Int)∧i≤l.length∧h'=h∧∀j (hj:j<l.length),j<i→kl l[j].1 k) (fun i=>l.length-i) 0 ⟨rfl,bw _,rfl,fun j hj h=>by omega⟩ ?_
 rintro I i t h' ⟨rfl,hi,rfl,hlo⟩ hI;refine Join.intro (fun t h2=>h2=h'∧(t=true↔∃hi:i<l.length,kl l[i].1 k)) (fun R hR=>?_) ?_
 ·refine aA (fun hlt=>?_) fun hge=>hR _ _ ⟨rfl,⟨fun h=>(by cases h),fun⟨hi,_⟩=>by omega⟩⟩
  have hlt:i<l.length:=by omega
  obtain⟨a,ha,_,hv⟩:=hs.at (ai hlt);have hf1:=(hf _ (bN hlt)).1;refine⟨⟨by omega,by omega⟩,a,ha,l[i].1,hv 0 _ rfl,Kk (by omega) (hR _ _ ⟨rfl,?_⟩)⟩
  rw[decide_eq_true_iff];exact⟨fun h=>⟨hlt,h⟩,fun⟨_,h⟩=>h⟩
 ·rintro t h2 ⟨rfl,ht⟩
  cases t with
  |true=>
   obtain⟨hlt,hk1⟩:=ht.1 rfl;refine av.2 ?_;rw[pd hlt (by omega)];refine hI (i+1) _ _ ⟨rfl,hlt,rfl,fun j hj hji=>?_⟩ (by omega)
   rcases ct j i with h|h
   ·exact hlo j hj h
   ·have:j=i:=by omega
    subst this;exact hk1
  |false=>
   refine aj.2 (aA (fun hlt=>?_) fun hge=>?_)
   ·have hlt:i<l.length:=by omega
    have hnk:¬kl l[i].1 k:=fun h=>by have:=ht.2 ⟨hlt,h⟩;cases this
    obtain⟨a,ha,_,hv⟩:=hs.at (ai hlt);refine⟨⟨by omega,by omega⟩,a,ha,l[i].1,hv 0 _ rfl,?_⟩
    rw[gE];have e:decide (l[i].1=k)=cx l k:=by
     by_cases e:l[i].1=k
     ·rw[decide_eq_true e]
      exact(cr.2 ⟨_,bN hlt,decide_eq_true e⟩).symm
     ·rw[decide_eq_false e]
      refine(xC fun q hq e2=>?_).symm
      obtain⟨j,hj,rfl⟩:=bK hq;have hgt:=ph hnk e;rcases Nat.lt_trichotomy j i with h|h|h
      ·have:=hlo j hj h;rw[e2]at this;exact bW _ this
      ·subst h;exact e e2
      ·have:=cn.1 hr i j hlt hj h
       rw[e2]at this;exact bW _ (fE hgt this)
    rw[e];exact hk i fun ht=>⟨hlt,of_decide_eq_true (e.trans ht)⟩
   ·have e:cx l k=false:=xC fun q hq e2=>by
     obtain⟨j,hj,rfl⟩:=bK hq;have:=hlo j hj (by omega);rw[e2]at this;exact bW _ this
    have:=hk i fun h=>by rw[e]at h;cases h
    rw[e]at this;exact this
theorem SX{W:Nat→Prop}{h:ad}{s:SliceV}{l:List Pr}(hs:Sl eu 2 W h s l)(hr:bE l)(hf:Fit l)(hn:l.length≤1000000)(k:ByteArray){K:ByteArray×Bool→ad→Prop}
  (hk:∀v,(cx l k=true→(k,v)∈l)→(cx l k=false→v=⟨#[]⟩)→K (v,cx l k) h):HC PG Cr [.slice s.a s.len s.cap,.string k] [.c .str,.c .bool] K h:=by
 refine P9 s k ?_;unfold H3 cj aD qJ ja;have hlen:=hs.len;refine Q3 hs hr hf hn k fun i hi=>?_
 cases ht:cx l k with
 |false=>rw[ht]at hk;exact av.2 (hk _ (fun h=>(by cases h)) fun _=>rfl)
 |true=>
  rw[ht]at hk;obtain⟨hlt,hik⟩:=hi ht;obtain⟨a,ha,_,hv⟩:=hs.at (ai hlt);refine aj.2 ⟨⟨by simp only;omega,by simp only;omega⟩,a,ha,l[i].2,hv 1 _ rfl,hk _ (fun _=>by rw[←hik];exact bN hlt) fun h=>(by cases h)⟩
end Go.Proofs
namespace Go.Proofs
open Go Go.Lift
theorem gi(p:Pr)(l:List Pr)(k:ByteArray):look (p::l) k=if p.1=k then some p.2 else look l k:=by
 unfold look;rw[pa];by_cases e:p.1=k
 ·rw[decide_eq_true e,if_pos e];rfl
 ·rw[decide_eq_false e,if_neg e]
theorem AK{l:List Pr}{k:ByteArray}(h:∀p∈l,kl k p.1):look l k=none:=Hu (xC fun p hp e=>by have:=h p hp;rw[e]at this;exact bW _ this)
theorem td{k v:ByteArray}:∀{l:List Pr},look l k=some v→(k,v)∈l
 | [],h=>by cases h
 |p::l,h=>by
  rw[gi]at h;by_cases e:p.1=k
  ·rw[if_pos e]at h;cases h;rw[←e];exact ao ..
  ·rw[if_neg e]at h;exact aC _ (td h)
theorem Ri{l m:List Pr}(hl:bE l)(hm:bE m)(h:∀k,look l k=look m k):l=m:=
 vn hl hm fun p=>⟨fun hp=>td (by rw[←h];exact qS hl hp),fun hp=>td (by rw[h];exact qS hm hp)⟩
theorem KJ(p:Pr)(k:ByteArray):∀{l:List Pr},look (gV p l) k=if p.1=k then some p.2 else look l k
 | []=>gi p [] k
 |q::l=>by
  rw[fU];by_cases h1:kl q.1 p.1
  ·rw[if_pos h1,gi,KJ p k,gi]
   by_cases e:q.1=k
   ·rw[if_pos e,if_pos e,if_neg fun e2=>by rw[e,e2]at h1;exact bW _ h1]
   ·rw[if_neg e,if_neg e]
  ·rw[if_neg h1]
   by_cases h2:q.1=p.1
   ·rw[if_pos h2,gi,gi,h2]
    by_cases e:p.1=k
    ·rw[if_pos e,if_pos e]
    ·rw[if_neg e,if_neg e,if_neg e]
   ·rw[if_neg h2,gi]
theorem Ff(k' k:ByteArray):∀{l:List Pr},look (mG k' l) k=if k'=k then none else look l k
 | []=>by
  by_cases e:k'=k; · rw[if_pos e];rfl
  ·rw[if_neg e];rfl
 |q::l=>by
  rw[vz];by_cases h:q.1=k'
  ·rw[if_pos h,Ff k' k,gi,h]
   by_cases e:k'=k
   ·rw[if_pos e,if_pos e]
   ·rw[if_neg e,if_neg e,if_neg e]
  ·rw[if_neg h,gi,Ff k' k,gi]
   by_cases e:q.1=k
   ·rw[if_pos e,if_pos e,if_neg fun e2=>h (by rw[e,e2])]
   ·rw[if_neg e,if_neg e]
def TW(k:ByteArray)(a b:Option ByteArray):Option Ch:=if a=b then none else some (k,a.getD ⟨#[]⟩,b.getD ⟨#[]⟩,a.isSome,b.isSome)
theorem Ln(k:ByteArray)(a:Option ByteArray):TW k a a=none:=if_pos rfl
theorem Tt{k:ByteArray}{a b:Option ByteArray}{c:Ch}(h:TW k a b=some c):c=(k,a.getD ⟨#[]⟩,b.getD ⟨#[]⟩,a.isSome,b.isSome)∧a≠b:=by
 unfold TW at h;by_cases e:a=b
 ·rw[if_pos e]at h;cases h
 ·rw[if_neg e]at h;cases h;exact⟨rfl,e⟩
def fd(l:List Ch)(k:ByteArray):Option Ch:=l.find? fun c=>decide (c.1=k)
theorem wF(c:Ch)(l:List Ch)(k:ByteArray):fd (c::l) k=if c.1=k then some c else fd l k:=by
 unfold fd;rw[pa];by_cases e:c.1=k
 ·rw[decide_eq_true e,if_pos e]
 ·rw[decide_eq_false e,if_neg e]
theorem Na{k:ByteArray}{c:Ch}:∀{l:List Ch},fd l k=some c→c∈l∧c.1=k
 | [],h=>by cases h
 |a::l,h=>by
  rw[wF]at h;by_cases e:a.1=k
  ·rw[if_pos e]at h;cases h;exact⟨ao ..,e⟩
  ·rw[if_neg e]at h;exact⟨aC _ (Na h).1,(Na h).2⟩
theorem Rz{c:Ch}:∀{l:List Ch},CD l→c∈l→fd l c.1=some c
 |a::l,hr,h=>by
  have hr:=aG.1 hr;rw[wF];rcases az.1 h with rfl|h
  ·exact if_pos rfl
  ·rw[if_neg fun e=>by have:=hr.1 c h;rw[e]at this;exact bW _ this]
   exact Rz hr.2 h
theorem Nb{A B:List Pr}(hA:bE A)(hB:bE B)(k:ByteArray):fd (iM A B) k=TW k (look A k) (look B k):=by
 refine oD (P:=fun A B=>fd (iM A B) k=TW k (look A k) (look B k)) ?_ (fun a A B hA _ h i=>?_) (fun b A B _ hB h i=>?_) (fun a b A B e hA hB i=>?_) hA hB
 ·rw[jb];exact(Ln ..).symm
 ·rw[tE h,wF,gi,i]
  by_cases e:a.1=k
  ·rw[if_pos (show(GD a).1=k from e),if_pos e,←e,AK h];rfl
  ·rw[if_neg (show ¬(GD a).1=k from e),if_neg e]
 ·rw[tD h,wF,gi,i]
  by_cases e:b.1=k
  ·rw[if_pos (show(Sr b).1=k from e),if_pos e,←e,AK h];rfl
  ·rw[if_neg (show ¬(Sr b).1=k from e),if_neg e]
 ·rw[rP e,gi,gi,←e]
  by_cases h:a.1=k
  ·rw[if_pos h,if_pos h]
   unfold xq TW;by_cases h2:a.2=b.2
   ·rw[if_pos h2,if_pos (by rw[h2]),List.nil_append,i,←h,AK (aG.1 hA).1,e,AK (aG.1 hB).1,Ln]
   ·rw[if_neg h2,if_neg (fun e=>h2 (Option.some.inj e)),qH,wF,if_pos h,h];rfl
  ·rw[if_neg h,if_neg h,←i]
   unfold xq;by_cases h2:a.2=b.2
   ·rw[if_pos h2];rfl
   ·rw[if_neg h2,qH,wF,if_neg h]
def Ui(c:Ch):Bool:=(!((!c.2.2.2.1&& !c.2.2.2.2)||(c.2.2.2.1&&(c.2.2.2.2&&decide (c.2.1=c.2.2.1)))))&&((c.2.2.2.1||decide (c.2.1=⟨#[]⟩))&&(c.2.2.2.2||decide (c.2.2.1=⟨#[]⟩)))
def one(c:Ch):Option Ch:=if Ui c then some c else none
end Go.Proofs
namespace Go.Proofs
open Go Go.Lift
end Go.Proofs
namespace Go.Proofs
open Go Go.Lift
abbrev Ue(s:ByteArray):List Value:= [.string s]
def m0(L:List Pr)(g:List ByteArray):List Pr:=(g.take 15).foldl (fun acc s=>mG (vC s) acc) L
theorem K5{L:List Pr}{g:List ByteArray}{i:Nat}(hi:i<g.length)(h15:i<15):m0 L (g.take (i+1))=mG (vC g[i]) (m0 L (g.take i)):=by
 unfold m0;rw[iK,iK,gt (by omega),gt (by omega),ce hi,List.foldl_append];rfl
theorem K6{L:List Pr}{g:List ByteArray}{i:Nat}(h15:15≤i):m0 L (g.take (i+1))=m0 L (g.take i):=by
 unfold m0;rw[iK,iK,bF (by omega),bF (by omega)]
theorem Few.del{n:Nat}{L:List Pr}(f:Few n L)(k:ByteArray):Few n (mG k L):=⟨Hf f.up,bc RD f.len,fun p hp=>f.fit p (IP.1 hp).1⟩
theorem xQ{n:Nat}{L:List Pr}(f:Few n L)(g:List ByteArray):Few n (m0 L g):=by
 unfold m0;generalize g.take 15=m;induction m generalizing L with
 |nil=>exact f
 |cons s m ih=>rw[List.foldl_cons];exact ih (f.del _)
theorem Kh{W:Nat→Prop}{x:Hs}{h:ad}{kind:Int}{r:Rt}{l:List Pr}(i:RefIs W h kind x r l)(hW:∀y,W y→y<h.size)(hr:bE l)(hf:Fit l)(hn:l.length≤1000000)(k:ByteArray)(hk1:k.size≤256){K:Rt×Int→ad→Prop}
  (hk:∀h' r' e,RefIs W h' kind x r' (mG k l)→Upd No h h'→K (r',e) h'):HC PG u3 [VU r,.string k] [.agg [.int .i64,.int .u64,.int .u64,.int .u64,.slice],.c (.int .i64)] K h:=by
 refine GM r k ?_;unfold za aN ae cp lx df Am xB dU EE qJ;refine aM fun h1 b1 k1=>aM fun h2 b2 k2=>?_
 have z1:=aO b1;have z2:=aO b2;have s1:h.size≤h1.size:=k1.size;have k02:=k1.tr k2;have v1:=k2.get0 b1;obtain⟨s,rfl,hs,hc⟩:=i;refine aA (fun h=>absurd h (by omega)) fun _=>?_
 refine⟨s,vc v1 4,SX (hs.upd k02 fun _ h=>h.elim) hr hf hn k fun v _ _=>?_⟩
 refine CondP.intro (fun hb=>?_) fun hb=>?_
 ·have hno:cx l k=false:=by simpa using hb
  refine⟨_,vc v1 0,_,vc v1 1,_,vc v1 2,_,vc v1 3,s,vc v1 4,?_⟩;refine be (c:=pG Iu) (vs:=pG (kind,hx kind x.k0,hx kind x.k1,hx kind x.mask,s)) b2 rfl fun h6 v6 hu6=>?_
  refine⟨_,vc v6 0,_,vc v6 1,_,vc v6 2,_,vc v6 3,s,vc v6 4,?_⟩;refine hk h6 (kind,hx kind x.k0,hx kind x.k1,hx kind x.mask,s) 4 ⟨s,rfl,?_,hc⟩ (k02.own hu6 s1);rw[x9 (Au hno)];exact hs.upd (k02.own hu6 s1) fun _ h=>h.elim
 ·refine⟨s,vc v1 4,Kl (hs.upd k02 fun _ h=>h.elim) hn k fun s4 h4 ho4 hu4=>?_⟩
  refine BT (i:=4) (c':=(pG (kind,hx kind x.k0,hx kind x.k1,hx kind x.mask,s4)).toArray) (hu4.get0 v1) (show 4<5 by decide) rfl fun h5 v5 hu5=>?_
  refine⟨_,vc v5 0,_,vc v5 1,_,vc v5 2,_,vc v5 3,s4,vc v5 4,?_⟩;refine be (c:=pG Iu) (vs:=pG (kind,hx kind x.k0,hx kind x.k1,hx kind x.mask,s4)) (hu5.oth (hu4.get0 b2) (by omega)) rfl fun h6 v6 hu6=>?_
  refine⟨_,vc v6 0,_,vc v6 1,_,vc v6 2,_,vc v6 3,s4,vc v6 4,?_⟩;have ho6:=(ho4.upd hu5 fun y hy e=>by have e:y=h.size:=e;omega).upd hu6 fun y hy e=>by have e:y=h1.size:=e;omega
  refine hk h6 (kind,hx kind x.k0,hx kind x.k1,hx kind x.mask,s4) 0 ⟨s4,rfl,ho6.sl fun y hy _ hw=>by have:=hW y hw;omega,ho6.cap⟩ (((k02.tr hu4).own hu5 (aq _)).own hu6 (by omega))
end Go.Proofs
namespace Go.Proofs
open Go Go.Lift
end Go.Proofs
namespace Go.Proofs
open Go Go.Lift
end Go.Proofs
namespace Go.Proofs
open Go Go.Lift
end Go.Proofs
namespace Go.Proofs
open Go Go.Lift
theorem RL{A B:List Pr}(hA:bE A)(hB:bE B){c:Ch}(h:c∈iM A B):c=(c.1,(look A c.1).getD ⟨#[]⟩,(look B c.1).getD ⟨#[]⟩,(look A c.1).isSome,(look B c.1).isSome)∧look A c.1≠look B c.1:=by
 have:=Nb hA hB c.1;rw[Rz (ws hA hB) h]at this;exact Tt this.symm
theorem mY{n:Nat}{A:List Pr}(f:Few n A)(k:ByteArray):((look A k).getD ⟨#[]⟩).size≤30:=by
 cases e:look A k with
 |none=>exact bw _
 |some v=>exact(f.fit _ (td e)).2
theorem Dd{n m:Nat}{A B:List Pr}(fA:Few n A)(fB:Few m B):∀c∈iM A B,c.1.size≤30∧c.2.1.size≤30∧c.2.2.1.size≤30:=fun c hc=>by
 obtain⟨e,ne⟩:=RL fA.up fB.up hc;refine⟨?_,?_,?_⟩
 ·cases ea:look A c.1 with
  |some v=>exact(fA.fit _ (td ea)).1
  |none=>
   cases eb:look B c.1 with
   |some v=>exact(fB.fit _ (td eb)).1
   |none=>rw[ea,eb]at ne;exact absurd rfl ne
 ·rw[e];exact mY fA _
 ·rw[e];exact mY fB _
end Go.Proofs
namespace Go.Proofs
open Go Go.Lift
theorem QE{A B:List Pr}(hA:bE A)(hB:bE B)(k:ByteArray):(iM A B).any (fun c=>decide (c.1=k))=decide (look A k≠look B k):=by
 have h:=Nb hA hB k;unfold TW at h;by_cases e:look A k=look B k
 ·rw[if_pos e]at h
  rw[show decide (look A k≠look B k)=false by simpa using e]
  unfold fd at h;rw[List.find?_eq_none]at h;rw[List.any_eq_false];exact fun c hc=>h c hc
 ·rw[if_neg e]at h
  rw[show decide (look A k≠look B k)=true by simpa using e]
  obtain⟨hc,ek⟩:=Na h;exact cr.2 ⟨_,hc,by simp⟩
end Go.Proofs
namespace Go.Proofs
open Go Go.Lift
def jI(o:Option ByteArray):Sd:=(o.getD ⟨#[]⟩,o.isSome)
theorem Iq{a b:Option ByteArray}:jI a=jI b↔a=b:=by
 constructor
 ·intro h
  unfold jI at h;cases a<;>cases b<;>simp_all
 ·rintro rfl;rfl
def oB(b o t:Option ByteArray)(p:Int):Option ByteArray×Bool:=if o=t∨t=b then(o,true)else if o=b then(t,true)else if p=1 then(o,false)else if p=2 then(t,false)else(b,false)
theorem SD(b o t:Option ByteArray)(p:Int):EK (jI b) (jI o) (jI t) p=(jI (oB b o t p).1,(oB b o t p).2):=by
 unfold EK oB;simp only[Iq];split
 ·rfl
 ·split
  ·rfl
  ·split
   ·rfl
   ·split<;>rfl
theorem G7(b o t:Option ByteArray)(p:Int):(oB b o t p).1=b∨(oB b o t p).1=o∨(oB b o t p).1=t:=by
 unfold oB;split
 ·exact .inr (.inl rfl)
 ·split
  ·exact .inr (.inr rfl)
  ·split
   ·exact .inr (.inl rfl)
   ·split
    ·exact .inr (.inr rfl)
    ·exact .inl rfl
theorem QF{b o t:Option ByteArray}{p:Int}:(oB b o t p).2=false↔o≠t∧t≠b∧o≠b:=by
 unfold oB;by_cases h1:o=t∨t=b
 ·rw[if_pos h1]
  exact⟨fun h=>(by cases h),fun h=>absurd h1 fun e=>e.elim h.1 h.2.1⟩
 ·rw[if_neg h1]
  by_cases h2:o=b
  ·rw[if_pos h2]
   exact⟨fun h=>(by cases h),fun h=>absurd h2 h.2.2⟩
  ·rw[if_neg h2]
   refine⟨fun _=>⟨fun e=>h1 (.inl e),fun e=>h1 (.inr e),h2⟩,fun _=>?_⟩
   split
   ·rfl
   ·split<;>rfl
def Gl(L:List Pr)(k:ByteArray):Option ByteArray→List Pr
 |some v=>gV (k,v) L
 |none=>mG k L
theorem Pz(L:List Pr)(k:ByteArray)(o:Option ByteArray)(j:ByteArray):look (Gl L k o) j=if k=j then o else look L j:=by
 cases o with
 |some v=>exact KJ (k,v) j
 |none=>exact Ff k j
theorem Mr{L:List Pr}(h:bE L)(k:ByteArray)(o:Option ByteArray):bE (Gl L k o):=by
 cases o with
 |some v=>exact yr _ h
 |none=>exact Hf h
theorem Ry{n:Nat}{L:List Pr}(f:Few n L){k:ByteArray}{o:Option ByteArray}(hk:k.size≤30)(ho:(o.getD ⟨#[]⟩).size≤30):Few (n+1) (Gl L k o):=by
 cases o with
 |some v=>exact f.ins (k,v) hk ho
 |none=>have g:=f.del k;exact⟨g.up,Nat.le_succ_of_le g.len,g.fit⟩
def tk(B O T:List Pr)(p:Int)(k:ByteArray):Option ByteArray×Bool:=oB (look B k) (look O k) (look T k) p
def qQ(B O T:List Pr)(p:Int)(acc:List Pr)(l:List Ch):List Pr:=l.foldl (fun acc c=>Gl acc c.1 (tk B O T p c.1).1) acc
theorem KE{B O T:List Pr}{p:Int}{acc:List Pr}{l:List Ch}{i:Nat}(hi:i<l.length):qQ B O T p acc (l.take (i+1))=Gl (qQ B O T p acc (l.take i)) l[i].1 (tk B O T p l[i].1).1:=by
 unfold qQ;rw[ce hi,List.foldl_append];rfl
theorem Dt{B O T:List Pr}{p:Int}{k:ByteArray}:∀{l:List Ch} {acc:List Pr},look (qQ B O T p acc l) k=if(fd l k).isSome then(tk B O T p k).1 else look acc k
 | [],_=>rfl
 |c::l,acc=>by
  show look (qQ B O T p (Gl acc c.1 (tk B O T p c.1).1) l) k=_
  rw[Dt,wF,Pz];by_cases e:c.1=k
  ·subst e
   rw[if_pos rfl,if_pos rfl,if_pos (show(some c).isSome=true from rfl)]
   split<;>rfl
  ·rw[if_neg e,if_neg e]
theorem wr{B O T:List Pr}{p:Int}:∀{l:List Ch} {acc:List Pr},bE acc→bE (qQ B O T p acc l)
 | [],_,h=>h
 |c::l,_,h=>wr (l:=l) (Mr h c.1 _)
theorem zJ{B O T:List Pr}{p:Int}{nb no nt:Nat}(fB:Few nb B)(fO:Few no O)(fT:Few nt T):∀{l:List Ch} {n:Nat} {acc:List Pr},(∀c∈l,c.1.size≤30)→Few n acc→Few (n+l.length) (qQ B O T p acc l)
 | [],_,_,_,h=>h
 |c::l,n,_,hl,h=>by
  have h2:((tk B O T p c.1).1.getD ⟨#[]⟩).size≤30:=by
   unfold tk;rcases G7 (look B c.1) (look O c.1) (look T c.1) p with e|e|e
   ·rw[e];exact mY fB _
   ·rw[e];exact mY fO _
   ·rw[e];exact mY fT _
  have:=zJ (p:=p) fB fO fT (l:=l) (fun d hd=>hl d (aC _ hd)) (Ry h (hl c (ao ..)) h2)
  rw[List.length_cons,show n+(l.length+1)=n+1+l.length by omega]
  exact this
def pY(B O T:List Pr)(p:Int):List Pr:=qQ B O T p O (iM B T)
theorem wC{B O T:List Pr}{p:Int}(hB:bE B)(hT:bE T)(k:ByteArray):look (pY B O T p) k=(tk B O T p k).1:=by
 unfold pY;rw[Dt,Nb hB hT];unfold TW;by_cases e:look B k=look T k
 ·rw[if_pos e]
  show look O k=_
  unfold tk oB;rw[if_pos (.inr e.symm)]
 ·rw[if_neg e];rfl
def D5(B O T:List Pr)(p:Int)(l:List Ch):List ByteArray:=(l.map (·.1)).filter fun k=> !(tk B O T p k).2
theorem PP{B O T:List Pr}{p:Int}{l:List Ch}{i:Nat}(hi:i<l.length):D5 B O T p (l.take (i+1))=D5 B O T p (l.take i)++if(tk B O T p l[i].1).2 then[]else[l[i].1]:=by
 unfold D5;rw[ce hi,List.map_append,List.filter_append];congr 1
 rw[List.map_singleton,List.filter_cons,List.filter_nil];cases(tk B O T p l[i].1).2<;>rfl
theorem RH{B O T:List Pr}{p:Int}{l:List Ch}:(D5 B O T p l).length≤l.length:=bc (List.length_filter_le ..) (Nat.le_of_eq (List.length_map ..))
abbrev tC(B O T:List Pr)(p:Int):List ByteArray:=D5 B O T p (iM B T)
theorem KF{B O T:List Pr}{p:Int}(hB:bE B)(hT:bE T){k:ByteArray}:k∈tC B O T p↔(tk B O T p k).2=false:=by
 unfold tC D5;rw[List.mem_filter];refine⟨fun h=>by simpa using h.2,fun h=>⟨?_,by rw[h];rfl⟩⟩
 have ne:=(QF.1 h).2.1;have:=QE hB hT k;rw[show decide (look B k≠look T k)=true by simpa using fun e=>ne e.symm]at this
 obtain⟨c,hc,e⟩:=cr.1 this;exact List.mem_map.2 ⟨c,hc,by simpa using e⟩
theorem N3{B O T:List Pr}{p:Int}(hB:bE B)(hT:bE T):(tC B O T p).Pairwise kl:=by
 unfold tC D5;refine List.Pairwise.sublist List.filter_sublist ?_;exact List.pairwise_map.2 (ws hB hT)
theorem KM:∀{l m:List ByteArray},l.Pairwise kl→m.Pairwise kl→(∀k,k∈l↔k∈m)→l=m
 | [],[],_,_,_=>rfl
 | [],q::m,_,_,h=>absurd ((h q).2 (ao ..)) (by simp)
 |p::l,[],_,_,h=>absurd ((h p).1 (ao ..)) (by simp)
 |p::l,q::m,hr,hr',h=>by
  have hr:=aG.1 hr;have hr':=aG.1 hr';have e:p=q:=by
   rcases az.1 ((h p).1 (ao ..))with e|hp
   ·exact e
   ·rcases az.1 ((h q).2 (ao ..))with e|hq
    ·exact e.symm
    ·exact absurd (fE (hr.1 q hq) (hr'.1 p hp)) (bW _)
  subst e;rw[KM hr.2 hr'.2 fun z=>?_]
  constructor
  ·intro hz
   rcases az.1 ((h z).1 (aC _ hz))with e|hz'
   ·exact absurd (hr.1 z hz) (by rw[e];exact bW _)
   ·exact hz'
  ·intro hz
   rcases az.1 ((h z).2 (aC _ hz))with e|hz'
   ·exact absurd (hr'.1 z hz) (by rw[e];exact bW _)
   ·exact hz'
abbrev Cf:=ByteArray×Sd×Sd×Sd
def Qm(B O T:List Pr)(k:ByteArray):Cf:=(k,jI (look B k),jI (look O k),jI (look T k))
def JO(p:Int):Int:=if p=1 then 2 else if p=2 then 1 else p
theorem L7(b o t:Option ByteArray)(p:Int):oB b t o (JO p)=oB b o t p:=by
 unfold oB;by_cases h1:o=t
 ·subst h1;rw[if_pos (.inl rfl),if_pos (.inl rfl)]
 have n1:¬t=o:=fun e=>h1 e.symm
 by_cases h2:t=b
 ·subst h2
  rw[if_neg (show ¬(t=o∨o=t)from fun h=>h.elim n1 h1),if_pos rfl,if_pos (show o=t∨t=t from .inr rfl)]
 by_cases h3:o=b
 ·subst h3
  rw[if_pos (show t=o∨o=o from .inr rfl),if_neg (show ¬(o=t∨t=o)from fun h=>h.elim h1 n1),if_pos rfl]
 rw[if_neg (show ¬(t=o∨o=b)from fun h=>h.elim n1 h3),if_neg h2,if_neg (show ¬(o=t∨t=b)from fun h=>h.elim h1 h2),if_neg h3]
 unfold JO;by_cases e1:p=1
 ·subst e1;rfl
 ·by_cases e2:p=2
  ·subst e2;rfl
  ·rw[if_neg e1,if_neg e2,if_neg e1,if_neg e2,if_neg e1,if_neg e2]
theorem N7(B O T:List Pr)(p:Int)(k:ByteArray):tk B T O (JO p) k=tk B O T p k:=L7 ..
theorem MN{B O T:List Pr}{p:Int}(hB:bE B)(hO:bE O)(hT:bE T):pY B T O (JO p)=pY B O T p:=by
 refine Ri (wr hT) (wr hO) fun k=>?_
 rw[wC hB hO,wC hB hT,N7]
theorem PO{B O T:List Pr}{p:Int}(hB:bE B)(hO:bE O)(hT:bE T):tC B T O (JO p)=tC B O T p:=
 KM (N3 hB hO) (N3 hB hT) fun k=>by rw[KF hB hO,KF hB hT,N7]
end Go.Proofs
namespace Go.Proofs
open Go Go.Lift Go.Sort
abbrev q9:Value:=.func (.func ng) #[] #[]
def kP(dec:Int→Ch)(i j:Int):Bool:=Tb (dec i) (dec j)
structure SA(dec:Int→Ch)(M:Nat→Prop)(s:SliceV)(h:ad)(d:Array Int):Prop where
 own:OwnS BP 5 bT M h s (d.toList.map dec)
 small:d.size≤1000000000
 lt:∀b,M b→b<h.size
variable {dec:Int→Ch} {M:Nat→Prop} {s:SliceV} {h:ad} {d:Array Int}
theorem SA.len(hs:SA dec M s h d):s.len=d.size:=by have:=hs.own.len;simpa using this
theorem SA.updC{c:Nat}{h':ad}(hs:SA dec M s h d)(k:Upd (· =c) h h')(hc:¬M c):SA dec M s h' d:=⟨hs.own.upd k fun b hb e=>hc (by have e:b=c:=e;rw[←e];exact hb),hs.small,fun b hb=>aE (hs.lt b hb) k.size⟩
theorem SA.upd0{h':ad}(hs:SA dec M s h d)(k:Upd No h h'):SA dec M s h' d:=⟨hs.own.upd k fun _ _ h=>h,hs.small,fun b hb=>aE (hs.lt b hb) k.size⟩
theorem SA.at(hs:SA dec M s h d){i:Nat}(hi:i<d.size):∃a,s.a=some a∧∀j v,(BP (dec d[i]!))[j]? =some v→aS h (adr (adr a (((i:Int)).toNat*5)) j)=some v:=by
 have hx:(d.toList.map dec)[i]? =some (dec d[i]!):=by
  rw[List.getElem?_map,Array.getElem?_toList,Array.getElem?_eq_getElem hi,getElem!_pos d i hi];rfl
 obtain⟨a,ha,_,hv⟩:=(hs.own.sl (W:=No) fun _ _ _ h=>h).at hx
 exact⟨a,ha,by simpa using hv⟩
theorem SA.rd(hs:SA dec M s h d){t:Int}{i:Nat}(et:t=(i:Int))(hi:i<d.size){R:ByteArray→ByteArray→ByteArray→Bool→Bool→Prop}(hR:R (dec d[i]!).1 (dec d[i]!).2.1 (dec d[i]!).2.2.1 (dec d[i]!).2.2.2.1 (dec d[i]!).2.2.2.2):
  ((0:Int)≤t∧t<((s.len:Nat):Int))∧∃a:Addr,s.a=some a∧∃v1:ByteArray,aS h (adr (adr a (t.toNat*5)) 0)=some (.string v1)∧∃v2:ByteArray,aS h (adr (adr a (t.toNat*5)) 1)=some (.string v2)∧∃v3:ByteArray,aS h (adr (adr a (t.toNat*5)) 2)=some (.string v3)∧∃v4:Bool,aS h (adr (adr a (t.toNat*5)) 3)=some (.bool v4)∧∃v5:Bool,aS h (adr (adr a (t.toNat*5)) 4)=some (.bool v5)∧R v1 v2 v3 v4 v5:=by
 subst et;obtain⟨a,ha,hv⟩:=hs.at hi;exact⟨by rw[hs.len];omega,a,ha,_,hv 0 _ rfl,_,hv 1 _ rfl,_,hv 2 _ rfl,_,hv 3 _ rfl,_,hv 4 _ rfl,hR⟩
theorem SA.st(hs:SA dec M s h d){t:Int}{i:Nat}{x:Int}(et:t=(i:Int))(hi:i<d.size){R:ad→Prop}(hR:∀h',SA dec M s h' (d.setIfInBounds i x)→Upd M h h'→R h'):
  ((0:Int)≤t∧t<((s.len:Nat):Int))∧∃a:Addr,s.a=some a∧(qE h (some (adr a (t.toNat*5))) 0 [.string (dec x).1,.string (dec x).2.1,.string (dec x).2.2.1,.bool (dec x).2.2.2.1,.bool (dec x).2.2.2.2]∧At (fk h (adr a (t.toNat*5)) 0 [.string (dec x).1,.string (dec x).2.1,.string (dec x).2.2.1,.bool (dec x).2.2.2.1,.bool (dec x).2.2.2.2]) R):=by
 subst et;obtain⟨a,ha,hM,hw,ho,hu⟩:=OwnS.setAt hs.own (k:=i) (by simpa using hi) (dec x);refine⟨by rw[hs.len];omega,a,ha,?_⟩;rw[aX];have hu':Upd M h _:=hu.mono fun b hb=>.inl (by have hb:b=a.block:=hb;rw[hb];exact hM)
 refine⟨hw,bq (hR _ ⟨?_,by simpa using hs.small,fun b hb=>aE (hs.lt b hb) hu.size⟩ hu')⟩
 rw[show(d.setIfInBounds i x).toList.map dec=(d.toList.map dec).take i++dec x::(d.toList.map dec).drop (i+1) by
  rw[Array.toList_setIfInBounds,List.map_set,dD,if_pos (by simpa using hi)]]
 exact ho
@[simp] theorem U5(d:Array Int)(i j:Nat):(swp d i j).size=d.size:=by simp[swp]
theorem SA.swap(hs:SA dec M s h d){ti tj:Int}{i j:Nat}(ei:ti=(i:Int))(ej:tj=(j:Int))(hi:i<d.size)(hj:j<d.size){R:ad→Prop}(hR:∀h',SA dec M s h' (swp d i j)→Upd M h h'→R h'):
  ((0:Int)≤tj∧tj<((s.len:Nat):Int))∧∃a:Addr,s.a=some a∧∃v1:ByteArray,aS h (adr (adr a (tj.toNat*5)) 0)=some (.string v1)∧∃v2:ByteArray,aS h (adr (adr a (tj.toNat*5)) 1)=some (.string v2)∧∃v3:ByteArray,aS h (adr (adr a (tj.toNat*5)) 2)=some (.string v3)∧∃v4:Bool,aS h (adr (adr a (tj.toNat*5)) 3)=some (.bool v4)∧∃v5:Bool,aS h (adr (adr a (tj.toNat*5)) 4)=some (.bool v5)∧
   (((0:Int)≤ti∧ti<((s.len:Nat):Int))∧∃a:Addr,s.a=some a∧∃w1:ByteArray,aS h (adr (adr a (ti.toNat*5)) 0)=some (.string w1)∧∃w2:ByteArray,aS h (adr (adr a (ti.toNat*5)) 1)=some (.string w2)∧∃w3:ByteArray,aS h (adr (adr a (ti.toNat*5)) 2)=some (.string w3)∧∃w4:Bool,aS h (adr (adr a (ti.toNat*5)) 3)=some (.bool w4)∧∃w5:Bool,aS h (adr (adr a (ti.toNat*5)) 4)=some (.bool w5)∧
    (((0:Int)≤ti∧ti<((s.len:Nat):Int))∧∃a:Addr,s.a=some a∧(qE h (some (adr a (ti.toNat*5))) 0 [.string v1,.string v2,.string v3,.bool v4,.bool v5]∧At (fk h (adr a (ti.toNat*5)) 0 [.string v1,.string v2,.string v3,.bool v4,.bool v5]) (fun h1=>
     (((0:Int)≤tj∧tj<((s.len:Nat):Int))∧∃a:Addr,s.a=some a∧(qE h1 (some (adr a (tj.toNat*5))) 0 [.string w1,.string w2,.string w3,.bool w4,.bool w5]∧At (fk h1 (adr a (tj.toNat*5)) 0 [.string w1,.string w2,.string w3,.bool w4,.bool w5]) R)))))):=by
 refine hs.rd ej hj (hs.rd ei hi (hs.st (x:=d[j]!) ei hi fun h1 hs1 k1=>hs1.st (x:=d[i]!) ej (by simpa using hj) fun h2 hs2 k2=>hR h2 hs2 (k1.tr k2)))
theorem SA.less(hs:SA dec M s h d){ti tj:Int}{i j:Nat}(ei:ti=(i:Int))(ej:tj=(j:Int))(hi:i<d.size)(hj:j<d.size){R:Int→ad→Prop}(hR:∀h' e,SA dec M s h' d→Upd No h h'→decide (e<0)=kP dec d[i]! d[j]!→R e h'):
  ((0:Int)≤ti∧ti<((s.len:Nat):Int))∧∃a:Addr,s.a=some a∧∃v1:ByteArray,aS h (adr (adr a (ti.toNat*5)) 0)=some (.string v1)∧∃v2:ByteArray,aS h (adr (adr a (ti.toNat*5)) 1)=some (.string v2)∧∃v3:ByteArray,aS h (adr (adr a (ti.toNat*5)) 2)=some (.string v3)∧∃v4:Bool,aS h (adr (adr a (ti.toNat*5)) 3)=some (.bool v4)∧∃v5:Bool,aS h (adr (adr a (ti.toNat*5)) 4)=some (.bool v5)∧
   (((0:Int)≤tj∧tj<((s.len:Nat):Int))∧∃a:Addr,s.a=some a∧∃w1:ByteArray,aS h (adr (adr a (tj.toNat*5)) 0)=some (.string w1)∧∃w2:ByteArray,aS h (adr (adr a (tj.toNat*5)) 1)=some (.string w2)∧∃w3:ByteArray,aS h (adr (adr a (tj.toNat*5)) 2)=some (.string w3)∧∃w4:Bool,aS h (adr (adr a (tj.toNat*5)) 3)=some (.bool w4)∧∃w5:Bool,aS h (adr (adr a (tj.toNat*5)) 4)=some (.bool w5)∧
    HV PG q9 [.agg #[.string v1,.string v2,.string v3,.bool v4,.bool v5],.agg #[.string w1,.string w2,.string w3,.bool w4,.bool w5]] [.c (.int .i64)] R h):=
 hs.rd ei hi (hs.rd ej hj ((TU M).call (dec d[i]!) (dec d[j]!) trivial fun h' e k he=>hR h' e (hs.upd0 k) k he))
theorem M6(hs:SA dec M s h d){a e:Nat}(ha:a≤e)(he:e≤d.size){K:Unit→ad→Prop}(hk:∀h',SA dec M s h' (insertionSort (kP dec) d a e)→Upd M h h'→K () h'):
  HC PG dx [.slice s.a s.len s.cap,.int .i64 a,.int .i64 e,q9] [] K h:=by
 refine g6 s a e q9 ?_;unfold eO ay cj aD bX fC bI jJ ma;have hsm:=hs.small;refine LoopP.ghost (fun(g:Nat×Array Int) (t:Int) h'=>t=(g.1:Int)∧SA dec M s h' g.2∧g.2.size=d.size∧insOuter (kP dec) a e g.1 g.2=insertionSort (kP dec) d a e∧Upd M h h'∧a<g.1) (fun g=>e-g.1) (a+1,d)
  ⟨by rw[d8 (by omega)];rfl,hs,rfl,rfl,Upd.refl _ _,by simp⟩ ?_
 rintro I ⟨i,d1⟩ t h1 ⟨ht,hs1,hz1,hr1,hu1,hai⟩ hI;simp only at ht hs1 hz1 hr1 hai;subst ht;refine aA (fun hlt=>?_) fun hge=>?_
 ·have hlt:i<e:=by omega
  refine LoopP.ghost (fun(g:Nat×Array Int) (t:Int) h'=>t=(g.1:Int)∧SA dec M s h' g.2∧g.2.size=d.size∧insInner (kP dec) a g.1 g.2=insInner (kP dec) a i d1∧Upd M h h'∧g.1≤i) (fun g=>g.1) (i,d1)
   ⟨rfl,hs1,hz1,rfl,hu1,aq _⟩ ?_
  rintro I2 ⟨j,d2⟩ t h2 ⟨ht,hs2,hz2,hr2,hu2,hji⟩ hI2;simp only at ht hs2 hz2 hr2 hji;subst ht;refine Join.intro (fun t h'=>SA dec M s h' d2∧Upd No h2 h'∧(t=true↔a<j∧(kP dec) d2[j]! d2[j-1]! =true)) (fun R hR=>?_) ?_
  ·refine aA (fun hgt=>?_) fun hle=>hR _ _ ⟨hs2,Upd.refl _ _,by simp;omega⟩
   have hgt:a<j:=by omega
   exact hs2.less rfl (j:=j-1) (by rw[d8 (by omega)];omega) (by omega) (by omega) fun h3 e3 hs3 k3 he3=>hR _ _ ⟨hs3,k3,by rw[he3];simp[hgt]⟩
  ·rintro t h' ⟨hs3,k3,htr⟩
   have hu3:=hu2.tr k3.wide;refine CondP.intro (fun h3=>?_) fun h3=>?_
   ·obtain⟨h4,h5⟩:=htr.1 h3
    refine hs3.swap (i:=j) (j:=j-1) rfl (by rw[d8 (by omega)];omega) (by omega) (by omega) fun h6 hs6 hu6=>?_
    refine hI2 (j-1,swp d2 j (j-1)) _ _ ⟨by rw[d8 (by omega)];simp only;omega,hs6,by simp[hz2],?_,hu3.tr hu6,by simp only;omega⟩ (by simp only;omega)
    rw[←hr2];obtain⟨j',rfl⟩:∃j',j=j'+1:=⟨j-1,by omega⟩
    simp only[Nat.add_sub_cancel]at h5⊢;rw[insInner,if_pos (by simp[h5,h4])]
   ·have hnot:¬(a<j∧(kP dec) d2[j]! d2[j-1]! =true):=fun hh=>by rw[htr.2 hh]at h3;cases h3
    have hin:insInner (kP dec) a j d2=d2:=by
     cases j with
     |zero=>rw[insInner]
     |succ j=>
      simp only[Nat.add_sub_cancel]at hnot;rw[insInner,if_neg (by simpa using hnot)]
    refine hI (i+1,d2) _ _ ⟨by rw[d8 (by omega)];rfl,hs3,hz2,?_,hu3,by simp only;omega⟩ (by simp only;omega)
    rw[←hr1];conv=>rhs;rw[insOuter]
    rw[if_pos hlt,←hr2,hin]
 ·refine hk _ ?_ hu1
  rw[←hr1,insOuter,if_neg (by omega)];exact hs1
end Go.Proofs
namespace Go.Proofs
open Go Go.Lift Go.Sort
variable {dec:Int→Ch} {M:Nat→Prop} {s:SliceV} {h:ad} {d:Array Int}
@[simp] theorem Sm(lt:Int→Int→Bool)(hi first root:Nat)(d:Array Int):(siftDown lt hi first root d).size=d.size:=by
 fun_induction siftDown lt hi first root d<;>simp_all
@[simp] theorem Fs(lt:Int→Int→Bool)(hi first:Nat):∀(k:Nat) (d:Array Int),(heapBuild lt hi first k d).size=d.size
 |0,d=>rfl
 |k+1,d=>by rw[heapBuild,Fs lt hi first k];simp
theorem De{root hi first:Nat}(hs:SA dec M s h d)(hb:first+hi≤d.size){K:Unit→ad→Prop}(hk:∀h',SA dec M s h' (siftDown (kP dec) hi first root d)→Upd M h h'→K () h')(hr:root≤1000000000):
  HC PG dX [.slice s.a s.len s.cap,.int .i64 root,.int .i64 hi,.int .i64 first,q9] [] K h:=by
 refine oh s root hi first q9 ?_
 unfold jc ay cj aD bX fC bI jJ ma;have hsm:=hs.small;refine LoopP.ghost (fun(g:Nat×Array Int) (t:Int) h'=>t=(g.1:Int)∧SA dec M s h' g.2∧g.2.size=d.size∧siftDown (kP dec) hi first g.1 g.2=siftDown (kP dec) hi first root d∧Upd M h h'∧g.1≤1000000000) (fun g=>hi-g.1) (root,d)
  ⟨rfl,hs,rfl,rfl,Upd.refl _ _,hr⟩ ?_
 rintro I ⟨i,d1⟩ t h1 ⟨ht,hs1,hz1,hr1,hu1,hi1⟩ hI;simp only at ht hs1 hz1 hr1 hi1;subst ht;have w1:IntKind.wrap .i64 (IntKind.wrap .i64 (2*(i:Int))+1)=((2*i+1:Nat):Int):=by rw[d8 (x:=2*(i:Int)) (by omega),d8 (by omega)];omega
 have w2:IntKind.wrap .i64 (((2*i+1:Nat):Int)+1)=((2*i+2:Nat):Int):=by rw[d8 (by omega)];omega
 rw[w1];refine aA (fun hge=>?_) fun hlt=>?_
 ·refine hk _ ?_ hu1
  rw[←hr1,siftDown,dif_pos (by omega)];exact hs1
 ·have hlt:2*i+1<hi:=by omega
  refine Join.intro (fun t h'=>SA dec M s h' d1∧Upd No h1 h'∧∃c:Nat,t=(c:Int)∧c=if 2*i+2<hi∧(kP dec) d1[first+(2*i+1)]! d1[first+(2*i+1)+1]! =true then 2*i+2 else 2*i+1) (fun R hR=>?_) ?_
  ·refine Join.intro (fun t h'=>SA dec M s h' d1∧Upd No h1 h'∧(t=true↔2*i+2<hi∧(kP dec) d1[first+(2*i+1)]! d1[first+(2*i+1)+1]! =true)) (fun R2 hR2=>?_) ?_
   ·show CondP (decide (IntKind.wrap .i64 (((2*i+1:Nat):Int)+1)<(hi:Int))) _ _
    rw[w2];refine aA (fun h3=>?_) fun h3=>hR2 _ _ ⟨hs1,Upd.refl _ _,by simp;omega⟩
    show(((0:Int)≤IntKind.wrap .i64 ((first:Int)+((2*i+1:Nat):Int))∧_)∧_)
    refine hs1.less (i:=first+(2*i+1)) (j:=first+(2*i+1)+1) (by rw[d8 (by omega)];omega) (by rw[d8 (x:=(first:Int)+_) (by omega),d8 (by omega)];omega) (by omega) (by omega) fun h4 e4 hs4 k4 he4=>hR2 _ _ ⟨hs4,k4,?_⟩
    rw[he4];simp;omega
   ·rintro t h' ⟨hs4,k4,htr⟩
    refine CondP.intro (fun h3=>?_) fun h3=>?_
    ·show R (IntKind.wrap .i64 (((2*i+1:Nat):Int)+1)) _
     rw[w2];exact hR _ _ ⟨hs4,k4,_,rfl,by rw[if_pos (htr.1 h3)]⟩
    ·exact hR _ _ ⟨hs4,k4,_,rfl,by rw[if_neg fun hh=>by rw[htr.2 hh]at h3;cases h3]⟩
  ·rintro t h' ⟨hs4,k4,c,rfl,hc⟩
   have hcb:c<hi∧i<c:=by rw[hc];split<;>omega
   refine hs4.less (i:=first+i) (j:=first+c) (by rw[d8 (by omega)];omega) (by rw[d8 (by omega)];omega) (by omega) (by omega) fun h5 e5 hs5 k5 he5=>?_
   have hu5:=hu1.tr (k4.tr k5).wide;rw[he5];have hstep:siftDown (kP dec) hi first i d1=if !(kP dec) d1[first+i]! d1[first+c]! then d1 else siftDown (kP dec) hi first c (swp d1 (first+i) (first+c)):=by
    rw[siftDown,dif_neg (by omega)];by_cases hq:2*i+2<hi∧(kP dec) d1[first+(2*i+1)]! d1[first+(2*i+1)+1]! =true
    ·rw[if_pos (by simp only[bd,decide_eq_true_iff];exact hq),dif_pos hq.1]
     rw[if_pos hq]at hc;rw[hc]
    ·rw[if_neg (by simp only[bd,decide_eq_true_iff];exact hq)]
     rw[if_neg hq]at hc;rw[hc]
   refine CondP.intro (fun h3=>?_) fun h3=>?_
   ·refine hk _ ?_ hu5
    rw[←hr1,hstep,if_pos h3];exact hs5
   ·refine hs5.swap (i:=first+i) (j:=first+c) (by rw[d8 (by omega)];omega) (by rw[d8 (by omega)];omega) (by omega) (by omega) fun h6 hs6 hu6=>?_
    refine hI (c,swp d1 (first+i) (first+c)) _ _ ⟨rfl,hs6,by simp[hz1],?_,hu5.tr hu6,by simp only;omega⟩ (by simp only;omega)
    rw[←hr1,hstep,if_neg (by rw[h3];simp)]
theorem KZ{a e:Nat}(hs:SA dec M s h d)(ha:a≤e)(he:e≤d.size){K:Unit→ad→Prop}(hk:∀h',SA dec M s h' (heapSort (kP dec) d a e)→Upd M h h'→K () h'):
  HC PG fJ [.slice s.a s.len s.cap,.int .i64 a,.int .i64 e,q9] [] K h:=by
 refine ol s a e q9 ?_;unfold jd ay cj aD fC bI jJ;have hsm:=hs.small;have w1:IntKind.wrap .i64 ((e:Int)-(a:Int))=((e-a:Nat):Int):=by rw[d8 (by omega)];omega
 rw[w1];refine⟨by decide,?_⟩;have hst:IntKind.wrap .i64 (nn (IntKind.wrap .i64 (((e-a:Nat):Int)-1)) 2)=(((e-a-1)/2+1:Nat):Int)-1:=by
  rw[d8 (x:=((e-a:Nat):Int)-1) (by omega)];by_cases h0:e-a=0
  ·rw[h0];decide
  ·rw[Int.tdiv_eq_ediv_of_nonneg (by omega),d8 (by omega)];omega
 show LoopP _ (IntKind.wrap .i64 (nn (IntKind.wrap .i64 (((e-a:Nat):Int)-1)) 2)) h
 rw[hst];refine LoopP.ghost (fun(g:Nat×Array Int) (t:Int) h'=>t=(g.1:Int)-1∧SA dec M s h' g.2∧g.2.size=d.size∧heapBuild (kP dec) (e-a) a g.1 g.2=heapBuild (kP dec) (e-a) a ((e-a-1)/2+1) d∧Upd M h h'∧g.1≤1000000000) (fun g=>g.1) ((e-a-1)/2+1,d)
  ⟨rfl,hs,rfl,rfl,Upd.refl _ _,by simp only;omega⟩ ?_
 rintro I ⟨k,d1⟩ t h1 ⟨ht,hs1,hz1,hr1,hu1,hk1⟩ hI;simp only at ht hs1 hz1 hr1 hk1;subst ht;refine aA (fun hge=>?_) fun hlt=>?_
 ·obtain⟨k,rfl⟩:∃k',k=k'+1:=⟨k-1,by omega⟩
  have e1:((k+1:Nat):Int)-1=(k:Int):=by omega
  rw[e1];refine De hs1 (by omega) (fun h2 hs2 hu2=>hI (k,_) _ _ ⟨by rw[d8 (by omega)],hs2,by simp[hz1],?_,hu1.tr hu2,by simp only;omega⟩ (by simp)) (by omega)
  rw[←hr1];rfl
 ·have:k=0:=by omega
  subst this;rw[d8 (x:=((e-a:Nat):Int)-1) (by omega)];refine LoopP.ghost (fun(g:Nat×Array Int) (t:Int) h'=>t=(g.1:Int)-1∧SA dec M s h' g.2∧g.2.size=d.size∧heapPop (kP dec) a g.1 g.2=heapSort (kP dec) d a e∧Upd M h h'∧g.1≤e-a) (fun g=>g.1) (e-a,d1)
   ⟨rfl,hs1,hz1,by rw[heapSort,←hr1];rfl,hu1,aq _⟩ ?_
  rintro I2 ⟨k,d2⟩ t h2 ⟨ht,hs2,hz2,hr2,hu2,hk2⟩ hI2;simp only at ht hs2 hz2 hr2 hk2;subst ht;refine aA (fun hge=>?_) fun hlt2=>?_
  ·obtain⟨k,rfl⟩:∃k',k=k'+1:=⟨k-1,by omega⟩
   have e1:((k+1:Nat):Int)-1=(k:Int):=by omega
   rw[e1];refine hs2.swap (i:=a) (j:=a+k) rfl (by rw[d8 (by omega)];omega) (by omega) (by omega) fun h3 hs3 hu3=>?_
   refine De (root:=0) hs3 (by simp;omega) (fun h4 hs4 hu4=>hI2 (k,_) _ _ ⟨by rw[d8 (by omega)],hs4,by simp[hz2],?_,(hu2.tr hu3).tr hu4,by simp only;omega⟩ (by simp)) (by omega)
   rw[←hr2];rfl
  ·have:k=0:=by omega
   subst this;refine hk _ ?_ hu2;rw[←hr2];exact hs2
theorem Ka{a e:Nat}(hs:SA dec M s h d)(ha:a<e)(he:e≤d.size){K:Unit→ad→Prop}(hk:∀h',SA dec M s h' (reverseRange d a e)→Upd M h h'→K () h'):
  HC PG eR [.slice s.a s.len s.cap,.int .i64 a,.int .i64 e,q9] [] K h:=by
 refine me s a e q9 ?_;unfold ik cj aD fC bI jJ;have hsm:=hs.small;refine LoopP.ghost (fun(g:Nat×Nat×Array Int) (t:Int×Int) h'=>t.1=(g.1:Int)∧t.2=(g.2.1:Int)∧SA dec M s h' g.2.2∧g.2.2.size=d.size∧reverseLoop g.1 g.2.1 g.2.2=reverseRange d a e∧Upd M h h'∧g.2.1<e) (fun g=>g.2.1-g.1) (a,e-1,d)
  ⟨rfl,by simp only;rw[d8 (by omega)];omega,hs,rfl,rfl,Upd.refl _ _,by simp only;omega⟩ ?_
 rintro I ⟨i,j,d1⟩ ⟨t1,t2⟩ h1 ⟨ht1,ht2,hs1,hz1,hr1,hu1,hj⟩ hI;simp only at ht1 ht2 hs1 hz1 hr1 hj;subst ht1 ht2;refine aA (fun hlt=>?_) fun hge=>?_
 ·have hlt:i<j:=by have:(i:Int)<(j:Int):=hlt;omega
  refine hs1.swap (i:=i) (j:=j) rfl rfl (by omega) (by omega) fun h2 hs2 hu2=>?_
  refine hI (i+1,j-1,swp d1 i j) _ _ ⟨by simp only;rw[d8 (by omega)];rfl,by simp only;rw[d8 (by omega)];omega,hs2,by simp[hz1],?_,hu1.tr hu2,by simp only;omega⟩ (by simp only;omega)
  rw[←hr1];conv=>rhs;rw[reverseLoop]
  rw[if_pos hlt]
 ·refine hk _ ?_ hu1
  rw[←hr1,reverseLoop,if_neg (by have hge:¬(i:Int)<(j:Int):=hge;omega)];exact hs1
end Go.Proofs
namespace Go.Proofs
open Go Go.Lift Go.Sort
variable {dec:Int→Ch} {M:Nat→Prop} {s:SliceV} {h:ad} {d:Array Int}
theorem B4{T:Int→(Bool→ad→Prop)→ad→Prop}{REST:Int→ad→Prop}{p:Int→Bool}{tj t0:Int}{j i0:Nat}(e0:t0=(i0:Int))(ej:tj=(j:Int))(hj:j≤1000000000)(hi0:i0≤1000000000)
  (hs:SA dec M s h d)(hT:∀(i:Nat) (R:Bool→ad→Prop) (h1:ad),SA dec M s h1 d→i0≤i→i≤j→(∀h2,SA dec M s h2 d→Upd No h1 h2→R (p d[i]!) h2)→T (i:Int) R h1) (hR:∀h1,SA dec M s h1 d→Upd No h h1→REST ((scanUp p d j i0:Nat):Int) h1):
  LoopP (fun(I:Int→ad→Prop) (t:Int) h'=>Join (fun(c:Bool) h''=>CondP c (I (IntKind.wrap .i64 (t+1)) h'') (REST t h'')) (fun J=>CondP (decide (t≤tj)) (T t J h') (J false h'))) t0 h:=by
 subst e0 ej;refine LoopP.ghost (fun(i:Nat) (t:Int) h'=>t=(i:Int)∧SA dec M s h' d∧Upd No h h'∧i0≤i∧i≤1000000001∧scanUp p d j i=scanUp p d j i0) (fun i=>j+1-i) i0 ⟨rfl,hs,Upd.refl _ _,aq _,by omega,rfl⟩ ?_
 rintro I i t h' ⟨rfl,hs1,hu1,hi,hi2,hsc⟩ hI;refine Join.intro (fun c h''=>SA dec M s h'' d∧Upd No h' h''∧(c=true↔i≤j∧p d[i]! =true)) (fun R hR=>?_) ?_
 ·refine aA (fun hle=>?_) fun hgt=>hR _ _ ⟨hs1,Upd.refl _ _,by simp;omega⟩
  exact hT i _ h' hs1 hi (by omega) fun h2 hs2 k2=>hR _ _ ⟨hs2,k2,by simp;omega⟩
 ·rintro c h'' ⟨hs2,k2,hc⟩
  refine CondP.intro (fun h1=>?_) fun h1=>?_
  ·have hh:=hc.1 h1
   refine hI (i+1) _ _ ⟨by rw[d8 (by omega)];rfl,hs2,hu1.tr k2,by omega,by omega,?_⟩ (by omega)
   rw[←hsc];conv=>rhs;rw[scanUp]
   rw[if_pos (by simp[hh])]
  ·have:scanUp p d j i=i:=by
    rw[scanUp,if_neg];intro hh;simp only[bd,decide_eq_true_iff]at hh;rw[hc.2 hh]at h1;cases h1
   rw[←hsc,this]at hR;exact hR _ hs2 (hu1.tr k2)
theorem xy{T:Int→(Bool→ad→Prop)→ad→Prop}{REST:Int→ad→Prop}{p:Int→Bool}{ti t0:Int}{j0 i:Nat}(e0:t0=(j0:Int))(ei:ti=(i:Int))(hj:j0≤1000000000)(hi0:1≤i)
  (hs:SA dec M s h d)(hT:∀(j:Nat) (R:Bool→ad→Prop) (h1:ad),SA dec M s h1 d→i≤j→j≤j0→(∀h2,SA dec M s h2 d→Upd No h1 h2→R (p d[j]!) h2)→T (j:Int) R h1) (hR:∀h1,SA dec M s h1 d→Upd No h h1→REST ((scanDown p d i j0:Nat):Int) h1):
  LoopP (fun(I:Int→ad→Prop) (t:Int) h'=>Join (fun(c:Bool) h''=>CondP c (I (IntKind.wrap .i64 (t-1)) h'') (REST t h'')) (fun J=>CondP (decide (ti≤t)) (T t J h') (J false h'))) t0 h:=by
 subst e0 ei;refine LoopP.ghost (fun(j:Nat) (t:Int) h'=>t=(j:Int)∧SA dec M s h' d∧Upd No h h'∧j≤j0∧scanDown p d i j=scanDown p d i j0) (fun j=>j) j0 ⟨rfl,hs,Upd.refl _ _,aq _,rfl⟩ ?_
 rintro I j t h' ⟨rfl,hs1,hu1,hj2,hsc⟩ hI;refine Join.intro (fun c h''=>SA dec M s h'' d∧Upd No h' h''∧(c=true↔i≤j∧p d[j]! =true)) (fun R hR=>?_) ?_
 ·refine aA (fun hle=>?_) fun hgt=>hR _ _ ⟨hs1,Upd.refl _ _,by simp;omega⟩
  exact hT j _ h' hs1 (by omega) hj2 fun h2 hs2 k2=>hR _ _ ⟨hs2,k2,by simp;omega⟩
 ·rintro c h'' ⟨hs2,k2,hc⟩
  refine CondP.intro (fun h1=>?_) fun h1=>?_
  ·have hh:=hc.1 h1
   obtain⟨j,rfl⟩:∃k,j=k+1:=⟨j-1,by omega⟩
   refine hI j _ _ ⟨by rw[d8 (by omega)];omega,hs2,hu1.tr k2,by omega,?_⟩ (by omega)
   rw[←hsc];conv=>rhs;rw[scanDown]
   rw[if_pos (by simp[hh])]
  ·have:scanDown p d i j=j:=by
    cases j with
    |zero=>rw[scanDown]
    |succ j=>
     rw[scanDown,if_neg];intro hh;simp only[bd,decide_eq_true_iff]at hh;rw[hc.2 hh]at h1;cases h1
   rw[←hsc,this]at hR;exact hR _ hs2 (hu1.tr k2)
theorem Pu{a e pv:Nat}(hs:SA dec M s h d)(ha:a≤pv)(hp:pv<e)(he:e≤d.size){K:Int→ad→Prop}(hk:∀h',SA dec M s h' (partitionEqual (kP dec) d a e pv).2→Upd M h h'→K ((partitionEqual (kP dec) d a e pv).1:Nat) h'):
  HC PG eD [.slice s.a s.len s.cap,.int .i64 a,.int .i64 e,.int .i64 pv,q9] [.c (.int .i64)] K h:=by
 refine lF s a e pv q9 ?_;unfold gG cj aD bX fC bI jJ ma;have hsm:=hs.small;refine hs.swap (i:=a) (j:=pv) rfl rfl (by omega) (by omega) fun h0 hs0 hu0=>?_
 refine LoopP.ghost (fun(g:Nat×Nat×Array Int) (t:Int×Int) h'=>t.1=(g.1:Int)∧t.2=(g.2.1:Int)∧SA dec M s h' g.2.2∧g.2.2.size=d.size∧partEqLoop (kP dec) a g.1 g.2.1 g.2.2=partitionEqual (kP dec) d a e pv∧Upd M h h'∧g.2.1<e∧a<g.1∧g.1≤1000000000) (fun g=>g.2.1+1-g.1) (a+1,e-1,swp d a pv)
  ⟨by simp only;rw[d8 (by omega)];rfl,by simp only;rw[d8 (by omega)];omega,hs0,by simp,rfl,hu0,by simp only;omega,by simp,by simp only;omega⟩ ?_
 rintro I ⟨i,j,d1⟩ ⟨t1,t2⟩ h1 ⟨ht1,ht2,hs1,hz1,hr1,hu1,hj,hai,hi9⟩ hI;simp only at ht1 ht2 hs1 hz1 hr1 hj hai hi9;subst ht1 ht2;have g1:=scanUp_ge (fun x=> !(kP dec) d1[a]! x) d1 j i
 rw[partEqLoop_eq]at hr1;refine B4 (d:=d1) (p:=fun x=> !(kP dec) d1[a]! x) (i0:=i) rfl rfl (by omega) hi9 hs1 (fun k R h' hs' hk1 hk2 hR=>hs'.less (i:=a) (j:=k) rfl rfl (by omega) (by omega) fun h2 e2 hs2 k2 he2=>by rw[he2];exact hR _ hs2 k2) fun hA hsA kA=>?_
 generalize scanUp (fun x=> !(kP dec) d1[a]! x) d1 j i=i2 at g1 hr1
 have g2:=scanDown_le (fun x=>(kP dec) d1[a]! x) d1 i2 j
 refine xy (d:=d1) (p:=fun x=>(kP dec) d1[a]! x) (j0:=j) (i:=i2) rfl rfl (by omega) (by omega) hsA (fun k R h' hs' hk1 hk2 hR=>hs'.less (i:=a) (j:=k) rfl rfl (by omega) (by omega) fun h2 e2 hs2 k2 he2=>by rw[he2];exact hR _ hs2 k2) fun hB hsB kB=>?_
 generalize scanDown (fun x=>(kP dec) d1[a]! x) d1 i2 j=j2 at g2 hr1
 refine aA (fun hgt=>?_) fun hle=>?_
 ·rw[if_pos (by omega)]at hr1
  rw[←hr1]at hk;exact hk _ hsB (hu1.tr (kA.tr kB).wide)
 ·rw[if_neg (by omega)]at hr1
  refine hsB.swap (i:=i2) (j:=j2) rfl rfl (by omega) (by omega) fun h2 hs2 hu2=>?_
  exact hI (i2+1,j2-1,swp d1 i2 j2) _ _ ⟨by simp only;rw[d8 (by omega)];rfl,by simp only;rw[d8 (by omega)];omega,hs2,by simp[hz1],hr1,(hu1.tr (kA.tr kB).wide).tr hu2,by simp only;omega,by simp only;omega,by simp only;omega⟩ (by simp only;omega)
theorem SZ{a e pv:Nat}(hs:SA dec M s h d)(ha:a≤pv)(hp:pv<e)(he:e≤d.size){K:Int×Bool→ad→Prop}
  (hk:∀h',SA dec M s h' (partition (kP dec) d a e pv).2.2→Upd M h h'→K (((partition (kP dec) d a e pv).1:Nat),(partition (kP dec) d a e pv).2.1) h'):
  HC PG fu [.slice s.a s.len s.cap,.int .i64 a,.int .i64 e,.int .i64 pv,q9] [.c (.int .i64),.c .bool] K h:=by
 refine nK s a e pv q9 ?_;unfold iU cj aD bX fC bI jJ ma;have hsm:=hs.small;refine hs.swap (i:=a) (j:=pv) rfl rfl (by omega) (by omega) fun h0 hs0 hu0=>?_
 have hz0:(swp d a pv).size=d.size:=by simp
 have hP:partition (kP dec) d a e pv=(let d:=swp d a pv
  let i:=scanUp (fun x=>(kP dec) x d[a]!) d (e-1) (a+1)
  let j:=scanDown (fun x=> !(kP dec) x d[a]!) d i (e-1)
  if i>j then(j,true,swp d j a)else
  let r:=partLoop (kP dec) a (i+1) (j-1) (swp d i j)
  (r.1,false,swp r.2 r.1 a)):=rfl
 simp only at hP;generalize swp d a pv=d0 at hs0 hz0 hP;have we:IntKind.wrap .i64 ((e:Int)-1)=((e-1:Nat):Int):=by rw[d8 (by omega)];omega
 have wa:IntKind.wrap .i64 ((a:Int)+1)=((a+1:Nat):Int):=by rw[d8 (by omega)];rfl
 have g1:=scanUp_ge (fun x=>(kP dec) x d0[a]!) d0 (e-1) (a+1)
 refine B4 (d:=d0) (p:=fun x=>(kP dec) x d0[a]!) (j:=e-1) (i0:=a+1) wa we (by omega) (by omega) hs0 (fun k R h' hs' hk1 hk2 hR=>hs'.less (i:=k) (j:=a) rfl rfl (by omega) (by omega) fun h2 e2 hs2 k2 he2=>by rw[he2];exact hR _ hs2 k2) fun hA hsA kA=>?_
 generalize scanUp (fun x=>(kP dec) x d0[a]!) d0 (e-1) (a+1)=i2 at g1 hP
 have g2:=scanDown_le (fun x=> !(kP dec) x d0[a]!) d0 i2 (e-1)
 refine xy (d:=d0) (p:=fun x=> !(kP dec) x d0[a]!) (j0:=e-1) (i:=i2) we rfl (by omega) (by omega) hsA (fun k R h' hs' hk1 hk2 hR=>hs'.less (i:=k) (j:=a) rfl rfl (by omega) (by omega) fun h2 e2 hs2 k2 he2=>by rw[he2];exact hR _ hs2 k2) fun hB hsB kB=>?_
 generalize scanDown (fun x=> !(kP dec) x d0[a]!) d0 i2 (e-1)=j2 at g2 hP
 refine aA (fun hgt=>?_) fun hle=>?_
 ·rw[if_pos (by omega)]at hP
  rw[hP]at hk;exact hsB.swap (i:=j2) (j:=a) rfl rfl (by omega) (by omega) fun h2 hs2 hu2=>hk h2 hs2 ((hu0.tr (kA.tr kB).wide).tr hu2)
 ·rw[if_neg (by omega)]at hP
  refine hsB.swap (i:=i2) (j:=j2) rfl rfl (by omega) (by omega) fun h2 hs2 hu2=>?_
  refine LoopP.ghost (fun(g:Nat×Nat×Array Int) (t:Int×Int) h'=>t.1=(g.1:Int)∧t.2=(g.2.1:Int)∧SA dec M s h' g.2.2∧g.2.2.size=d.size∧partLoop (kP dec) a g.1 g.2.1 g.2.2=partLoop (kP dec) a (i2+1) (j2-1) (swp d0 i2 j2)∧Upd M h h'∧g.2.1<e∧a<g.1∧g.1≤1000000000) (fun g=>g.2.1+1-g.1) (i2+1,j2-1,swp d0 i2 j2)
   ⟨by simp only;rw[d8 (by omega)];rfl,by simp only;rw[d8 (by omega)];omega,hs2,by simp[hz0],rfl,(hu0.tr (kA.tr kB).wide).tr hu2,by simp only;omega,by simp only;omega,by simp only;omega⟩ ?_
  rintro I ⟨i,j,d1⟩ ⟨t1,t2⟩ h1 ⟨ht1,ht2,hs1,hz1,hr1,hu1,hj,hai,hi9⟩ hI;simp only at ht1 ht2 hs1 hz1 hr1 hj hai hi9;subst ht1 ht2;have g3:=scanUp_ge (fun x=>(kP dec) x d1[a]!) d1 j i
  rw[partLoop_eq]at hr1;refine B4 (d:=d1) (p:=fun x=>(kP dec) x d1[a]!) (i0:=i) rfl rfl (by omega) hi9 hs1 (fun k R h' hs' hk1 hk2 hR=>hs'.less (i:=k) (j:=a) rfl rfl (by omega) (by omega) fun h2 e2 hs2 k2 he2=>by rw[he2];exact hR _ hs2 k2) fun hC hsC kC=>?_
  generalize scanUp (fun x=>(kP dec) x d1[a]!) d1 j i=i3 at g3 hr1
  have g4:=scanDown_le (fun x=> !(kP dec) x d1[a]!) d1 i3 j
  refine xy (d:=d1) (p:=fun x=> !(kP dec) x d1[a]!) (j0:=j) (i:=i3) rfl rfl (by omega) (by omega) hsC (fun k R h' hs' hk1 hk2 hR=>hs'.less (i:=k) (j:=a) rfl rfl (by omega) (by omega) fun h2 e2 hs2 k2 he2=>by rw[he2];exact hR _ hs2 k2) fun hD hsD kD=>?_
  generalize scanDown (fun x=> !(kP dec) x d1[a]!) d1 i3 j=j3 at g4 hr1
  refine aA (fun hgt=>?_) fun hle3=>?_
  ·rw[if_pos (by omega)]at hr1
   rw[hP,←hr1]at hk;exact hsD.swap (i:=j3) (j:=a) rfl rfl (by omega) (by omega) fun h3 hs3 hu3=>hk h3 hs3 ((hu1.tr (kC.tr kD).wide).tr hu3)
  ·rw[if_neg (by omega)]at hr1
   refine hsD.swap (i:=i3) (j:=j3) rfl rfl (by omega) (by omega) fun h3 hs3 hu3=>?_
   exact hI (i3+1,j3-1,swp d1 i3 j3) _ _ ⟨by simp only;rw[d8 (by omega)];rfl,by simp only;rw[d8 (by omega)];omega,hs3,by simp[hz1],hr1,(hu1.tr (kC.tr kD).wide).tr hu3,by simp only;omega,by simp only;omega,by simp only;omega⟩ (by simp only;omega)
end Go.Proofs
