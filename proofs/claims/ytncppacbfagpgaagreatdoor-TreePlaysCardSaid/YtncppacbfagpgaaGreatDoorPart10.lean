/- A part of the proof that the named laws of this program answer true, whatever the input. -/
import Derived.Test.YtncppacbfagpgaaGreatDoorPart9
import Derived.Test.YtncppacbfagpgaaGreatDoorPart2
import Derived.Test.YtncppacbfagpgaaGreatDoorPart7
import Derived.Test.YtncppacbfagpgaaGreatDoorPart6
import Derived.Test.YtncppacbfagpgaaGreatDoorPart4
import Derived.Sort.AssemblyPlain
open Array renaming toList_inj→iR
open BitVec renaming ofInt→aq
open Bool renaming and_eq_true→bm
open ByteArray renaming data_append→pk,mk→kF,size_extract→fq
open Int renaming toNat_natCast→aJ,le_refl→sS
open List renaming length_append→ae,getElem_of_mem→bM,pairwise_iff_getElem→ci,getElem_mem→aU,length_eq_zero_iff→aG,append_cancel_left→eh,set_eq_take_append_cons_drop→cQ,any_eq_true→cp,replicate→eg,replicate_succ→iy,length_singleton→aD,find?_cons→qx,getElem?_eq_getElem→af
open List.Pairwise renaming nil→cN
open Nat renaming lt_or_ge→bE,le_refl→al,lt_irrefl→kS,lt_of_lt_of_le→aR,zero_le→aP
open UInt8 renaming toNat_lt→oT
namespace Go.Proofs
open Go Go.Lift
theorem jP(s:ByteArray):s.data.toList.length=s.size:=by simp
theorem Q3(a b:ByteArray):(a++b).data.toList=a.data.toList++b.data.toList:=by rw[pk,Array.toList_append]
theorem OC{a b:ByteArray}{h:ad}{K:Bool→ad→Prop}(hk:K (decide (b.data.toList<+:a.data.toList)) h):HC PG pO [.string a,.string b] [.c .bool] K h:=by
 refine Ff a b ?_;unfold xy gZ;refine Bg a b ?_;unfold ua gZ;refine qb a b ?_;unfold j9;have la:=jP a;have lb:=jP b;refine ay (fun hge=>?_) fun hlt=>?_
 ·refine⟨⟨by omega,by omega⟩,?_⟩
  rw[iv,aJ];have e:decide (a.extract 0 b.size=b)=decide (b.data.toList<+:a.data.toList):=by
   rw[decide_eq_decide,←nH,zx,List.prefix_iff_eq_take,lb];exact eq_comm
  rw[e];exact hk
 ·have e:decide (b.data.toList<+:a.data.toList)=false:=decide_eq_false fun hp=>by
   have:=hp.length_le;omega
  rw[e]at hk;exact hk
theorem QP{a b:ByteArray}{h:ad}{K:ByteArray×Bool→ad→Prop}(h1:∀s:ByteArray,a.data.toList=b.data.toList++s.data.toList→K (s,true) h)(h2:(∀r,a.data.toList≠b.data.toList++r)→K (⟨#[]⟩,false) h):HC PG uB [.string a,.string b] [.c .str,.c .bool] K h:=by
 refine Ms a b ?_;unfold Ep gZ;refine OC ?_;have la:=jP a;have lb:=jP b;by_cases hp:b.data.toList<+:a.data.toList
 ·rw[decide_eq_true hp]
  have hle:=hp.length_le;refine ag.2 ⟨⟨by omega,by omega⟩,?_⟩
  rw[aJ];refine h1 _ ?_;rw[zy];obtain⟨r,e⟩:=hp;rw[←e,←lb,List.drop_left]
 ·rw[decide_eq_false hp]
  exact au.2 (h2 fun r e=>hp ⟨r,e.symm⟩)
def Vm(W:Nat→Prop)(h:ad)(r:Option Addr)(o:Option Bn):Prop:=(r=none∧o=none)∨∃b sl m,r=some ⟨b,0,none⟩∧o=some m∧sl.data.toList=m.1∧RxN W h b sl m.2.1 m.2.2
theorem Ol{W:Nat→Prop}{h:ad}{b:Nat}{sl:ByteArray}{w:Option ByteArray}{F:Fo}(r:RxN W h b sl w F)(hW:∀y,W y→y<h.size)(hc:fx F)(hne:sl.data.toList≠[])(hs1:sl.size≤1000000)(hs2:∀k v,pe F k v→k.length≤1000000)
  {K:Option Addr→ad→Prop}(hk:∀h' r o,Upd No h h'→SR (sl.data.toList,w,F) o→Vm W h' r o→K r h'):HC PG oy [.pointer (some ⟨b,0,none⟩),.pointer none] [.c .ptr] K h:=by
 refine zO _ none ?_;unfold sC bl cD aQ bC qL dT lI;have hr:=r;obtain⟨val,s,ow,ks,hb,hv,hs,hcap,hF⟩:=r;have hL:=jm.1 hF;have hn:=ju hc;have hlen:=hs.len;rw[hL.1]at hlen;refine Join.intro (fun t h'=>t=decide (w.isSome∨2≤F.toL.length)∧h'=h) (fun R hR=>⟨_,rfl,w.isSome,dA (i:=1) hb,?_⟩) ?_
 ·cases w with
  |some v=>exact au.2 (hR _ _ ⟨rfl,rfl⟩)
  |none=>
   refine ag.2 ⟨_,rfl,s,dA (i:=3) hb,hR _ _ ⟨?_,rfl⟩⟩;rw[decide_eq_decide];constructor
   ·intro h;exact .inr (by omega)
   ·rintro(h|h)
    ·cases h
    ·omega
 ·rintro t h' ⟨rfl,rfl⟩
  refine ay (fun h2=>?_) fun h2=>?_
  ·exact hk h' _ _ (Upd.refl _ _) (OJ hne hc h2) (.inr ⟨b,sl,_,rfl,rfl,rfl,hr⟩)
  ·have hw:w=none:=by
    cases w with
    |none=>rfl
    |some v=>exact absurd (.inl rfl) h2
   subst hw;have hl2:F.toL.length<2:=by
    rcases bE F.toL.length 2 with h|h
    ·exact h
    ·exact absurd (.inr h) h2
   refine⟨_,rfl,s,dA (i:=3) hb,?_⟩;match hFL:F.toL,hl2 with
   | [],_=>
    rw[hFL]at hlen;have e:((s.len:Int)==(0:Int))=true:=by rw[beq_iff_eq,hlen];rfl
    rw[e];exact au.2 (hk h' _ _ (Upd.refl _ _) (OK hFL) (.inl ⟨rfl,rfl⟩))
   | [(lk,wk,Fk)],_=>
    rw[hFL]at hlen;have e:((s.len:Int)==(0:Int))=false:=by rw[beq_eq_false_iff_ne,hlen];simp
    rw[e];have hmem:(lk,wk,Fk)∈F.toL:=by rw[hFL];exact List.mem_singleton.2 rfl
    have hcm:=(eC.1 hc).2 _ hmem;have h0:0<F.toL.length:=by rw[hFL];exact Nat.one_pos
    obtain⟨kb,ksl,hki,hkl,hkn⟩:=hL.at h0;have e0:F.toL[0]=(lk,wk,Fk):=by simp only[hFL];rfl
    rw[e0]at hkl hkn;simp only at hkl hkn;obtain⟨a,ha,_,hvv⟩:=hs.at0 hki;obtain⟨kval,kss,kow,kks,hkb,hkv,hkss,hkcap,hkF⟩:=hkn;have hkL:=jm.1 hkF;have hkn2:=ju hcm.2.2;refine ag.2 ⟨_,rfl,s,dA (i:=3) hb,⟨by omega,by rw[hlen];simp⟩,a,ha,some ⟨kb,0,none⟩,hvv,?_⟩
    refine oc hkb hkss (by rw[hkL.1];exact hkn2) fun h1 s1 b1 ho1 hu1=>?_
    obtain⟨rr,vv,hin⟩:=lV hc _ hmem;have hbd:=hs2 (lk++rr) vv (fB.2 ⟨_,hmem,rr,rfl,hin⟩);rw[ae]at hbd;have hlkl:lk.length=ksl.size:=by rw[←hkl];exact jP ksl
    refine⟨_,rfl,sl,dA (i:=0) (hu1.get0 hb),_,rfl,ksl,dA (i:=0) b1,by omega,?_⟩
    have hbl:b<h'.size:=bh hb;refine ut b1 fun h2 b2 hu2=>?_
    have hu02:Upd No h' h2:=hu1.own hu2 (al _);have ho2:=ho1.upd hu2 fun x hx e=>by have e:x=h'.size:=e;have:=hx.1;omega
    refine hk h2 _ _ hu02 (Qq hne hc hFL) (.inr ⟨h'.size,sl++ksl,_,rfl,rfl,by rw[←hkl];exact Q3 sl ksl,⟨kval,s1,none,kks,b2,hkv,ho2.sl (fun x hx _ hw=>by have:=hW _ hw;have:=hx.1;omega),⟨ho2.cap,fun hx=>kS _ (hW _ hx)⟩,RxF.upd0 hu02 hkF⟩⟩)
set_option maxHeartbeats 1000000 in
theorem P2{W:Nat→Prop}:∀(n:Nat) {b:Nat} {sl:ByteArray} {w:Option ByteArray} {F:Fo} {h:ad} (k:ByteArray),k.size<n→RxN W h b sl w F→(∀y,W y→y<h.size)→fx F→(∀j v,pe F j v→j.length≤1000000)→∀{K:(Option Addr)×Bool→ad→Prop},
  (∀h' b' w' F' gone,Upd No h h'→RxN W h' b' sl w' F'→fx F'→sQ (qg w F) (qg w' F') k.data.toList→(gone=false→b'=b∧∀v,¬qg w F k.data.toList v)→(gone=true→∃v,qg w F k.data.toList v)→K (some ⟨b',0,none⟩,gone) h')→
  HC PG ll [.pointer (some ⟨b,0,none⟩),.pointer none,.string k] [.c .ptr,.c .bool] K h:=by
 intro n;induction n with
 |zero=>intro b sl w F h k hk;omega
 |succ n ih=>
  intro b sl w F h k hkn r hW hc hbd K hk;refine zQ (some ⟨b,0,none⟩) none k ?_;unfold sF bl cD aQ bC gZ kq cT jR NZ kW dT C2 lI Iw;have hr:=r;obtain⟨val,s,ow,ks,hb,hv,hs,hcap,hF⟩:=r;have hL:=jm.1 hF;have hn:=ju hc;have hcan:=eC.1 hc;have stay:∀{h':ad},Upd No h h'→(∀v,¬qg w F k.data.toList v)→K (some ⟨b,0,none⟩,false) h':=fun hu hno=>hk _ b w F false hu (hr.upd0 hu) hc (L7 hno) (fun _=>⟨rfl,hno⟩) fun h=>by cases h
  rw[iv];refine ay (fun hk0=>?_) fun hk0=>?_
  ·have hke:k.data.toList= []:=by rw[hk0]
   rw[hke]at hk stay;refine⟨_,rfl,w.isSome,dA (i:=1) hb,?_⟩;cases hw:w with
   |none=>
    refine au.2 (stay (Upd.refl _ _) fun v hin=>?_)
    rcases hin with⟨_,h⟩|h
    ·rw[hw]at h;cases h
    ·exact absurd rfl (nu hc h)
   |some u=>
    refine ag.2 (oc hb hs (by rw[hL.1];exact hn) fun h1 s1 b1 ho1 hu1=>?_)
    refine⟨_,rfl,Rz (i:=1) b1 (show 1<5 by decide),EW (i:=1) (c':=Ci sl false val s1 none) b1 rfl fun h2 b2 hu2=>?_⟩
    refine⟨_,rfl,Rz (i:=2) b2 (show 2<5 by decide),EW (i:=2) (c':=Ci sl false ⟨#[]⟩ s1 none) b2 rfl fun h3 b3 hu3=>?_⟩
    have hu03:Upd No h h3:=hu1.own (hu2.tr hu3) (al _);have ho3:=ho1.upd (hu2.tr hu3) fun x hx e=>by have e:x=h.size:=e;have:=hx.1;omega
    refine hk h3 h.size none F true hu03 ⟨⟨#[]⟩,s1,none,ks,b3,rfl,ho3.sl (fun x hx _ hw=>by have:=hW _ hw;have:=hx.1;omega),⟨ho3.cap,fun hx=>kS _ (hW _ hx)⟩,RxF.upd0 hu03 hF⟩ hc (L6 hc) (fun h=>by cases h) fun _=>⟨u,.inl ⟨rfl,hw⟩⟩
  ·have hkne:k.data.toList≠[]:=fun e=>hk0 (by cases k;exact congrArg kF (iR.1 e))
   obtain⟨c0,hc0,hc0e⟩:=AV hkne;refine⟨c0,sS _,hc0,?_⟩;have hlk:k.data.toList.length=k.size:=jP k;refine AH hr hc (c:=c0.toNat) (oT _) fun i ok hil hlo hhi hok=>?_
   rw[hc0e]at hlo hhi hok;cases ok with
   |false=>
    refine au.2 (stay (Upd.refl _ _) fun v hin=>?_)
    rcases hin with⟨h,_⟩|hin
    ·exact hkne h
    ·obtain⟨n',hn',e,_⟩:=pw hc hin
     obtain⟨j,hj,rfl⟩:=bM hn';rcases bE j i with hl|hl
     ·have:=hlo j hj hl;omega
     ·have h1:=hhi j hj hl
      have h2:=hhi i (by omega) (al _);rcases bE i j with hl2|hl2
      ·have h3:=ci.1 hcan.1 i j (by omega) hj hl2
       omega
      ·have:i=j:=by omega
       subst this;have:=hok.2 ⟨hj,e⟩;cases this
   |true=>
    obtain⟨hi,hie⟩:=hok.1 rfl;refine ag.2 ⟨_,rfl,s,dA (i:=3) hb,?_⟩;obtain⟨kb,ksl,hki,hkl,hkn'⟩:=hL.at hi;have hmem:F.toL[i]∈F.toL:=aU hi;have hcm:=hcan.2 _ hmem;obtain⟨a,ha,_,hvv⟩:=hs.at0 hki;have hslen:=hs.len;rw[hL.1]at hslen;have hlt1:(i:Int)<((s.len:Nat):Int):=by omega
    refine⟨⟨by simp only;omega,hlt1⟩,a,ha,some ⟨kb,0,none⟩,hvv,_,rfl,?_⟩;obtain⟨kval,kss,kow,kks,hkb,_⟩:=id hkn';have hin_m:∀v,pe F k.data.toList v→rN F.toL[i] k.data.toList v:=fun v hin=>by
     obtain⟨n',hn',e,hN⟩:=pw hc hin;rw[←uO hc hn' hmem (by omega)];exact hN
    have hm_in:∀j v,rN F.toL[i] j v→pe F j v:=fun j v hin=>fB.2 ⟨_,hmem,hin⟩
    have hcanset:∀{m:Bn},Kv m→hd m.1=hd F.toL[i].1→fx (.ofL (F.toL.set i m)):=fun h1 h2=>NP hc hi h1 h2
    have hdset:∀{m:Bn},sQ (rN F.toL[i]) (rN m) k.data.toList→sQ (pe F) (pe (.ofL (F.toL.set i m))) k.data.toList:=fun hp=>OY hc hi hie hp
    have hddel:(∀k' v',rN F.toL[i] k' v'→k'=k.data.toList)→sQ (pe F) (pe (.ofL (F.toL.take i++F.toL.drop (i+1)))) k.data.toList:=fun hp=>OZ hc hi hie hp
    have hrset:∀{h':ad} {k':Option Addr} {m:Bn},Upd No h h'→Kid W h' k' m→RxL W h' (ks.set i k') (F.toL.set i m):=fun hu hkd=>(hL.upd0 hu).set hi hkd
    generalize F.toL[i]=m at hkl hkn' hcm hin_m hm_in hcanset hdset hddel hie;obtain⟨lab,wk,Fk⟩:=m;simp only at hkl hkn' hcm hie hcanset;refine⟨ksl,dA (i:=0) hkb,QP (fun rest hrest=>?_) fun hno=>?_⟩
    ·rw[hkl]at hrest
     have hlne:lab.length≠0:=fun e=>hcm.1 (aG.1 e)
     have hrl:rest.size<k.size:=by
      rw[←jP rest,←hlk,hrest,ae];omega
     refine ag.2 ⟨_,rfl,s,dA (i:=3) hb,⟨by simp only;omega,hlt1⟩,a,ha,some ⟨kb,0,none⟩,hvv,?_⟩;have hkbd:∀j v,pe Fk j v→j.length≤1000000:=fun j v hin=>by
      have:=hbd _ v (hm_in (lab++j) v ⟨j,rfl,.inr hin⟩);rw[ae]at this;omega
     refine ih rest (by omega) hkn' hW hcm.2.2 hkbd fun h2 b2 w2 F2 gone hu2 rn2 hc2 hd2 hg0 hg1=>?_
     cases gone with
     |false=>
      refine au.2 (stay hu2 fun v hin=>?_)
      rcases hin with⟨h,_⟩|hin
      ·exact hkne h
      ·obtain⟨r',e,hr'⟩:=hin_m v hin
       simp only at e;rw[hrest]at e;exact(hg0 rfl).2 v (by rw[eh e];exact hr')
     |true=>
      obtain⟨v0,hv0⟩:=hg1 rfl;have hthere:∃v,qg w F k.data.toList v:=⟨v0,.inr (hm_in _ _ ⟨_,hrest,hv0⟩)⟩;have hdn:sQ (rN (lab,wk,Fk)) (rN (lab,w2,F2)) k.data.toList:=by
       rw[hrest];exact L8 hd2
      refine ag.2 (oc (hu2.get0 hb) (hs.upd hu2 fun _ h=>h.elim) (by rw[hL.1];exact hn) fun h3 s3 b3 ho3 hu3=>?_)
      have hu03:=hu2.tr hu3;obtain⟨rr,vv,hin⟩:=lV hc _ hmem;have hlb:lab.length≤1000000:=by
       have:=hbd _ v0 (hm_in _ _ ⟨_,hrest,hv0⟩);rw[hrest,ae]at this;omega
      have hb2:∀j v,pe F2 j v→j.length≤1000000:=fun j v hin=>by
       rcases((hd2 j v).1 (.inr hin)).2 with⟨e,_⟩|h
       ·rw[e];simp
       ·exact hkbd j v h
      refine Ol (W:=Pro W h2 h3) ((rn2.less Pro.hm).upd0 hu3) (Pro.lt (fun y hy=>aR (hW y hy) hu2.size) hu3) hc2 (by rw[hkl];exact hcm.1) (by rw[←jP ksl,hkl];exact hlb) hb2 fun h4 r4 o4 hu4 hm4 hr4=>?_
      rw[hkl]at hm4;have b4:=hu4.get0 b3;have ho4:=ho3.upd hu4 fun _ _ h=>h
      have hu04:=hu03.tr hu4;have hz2:h.size≤h2.size:=hu2.size;have hil:i<ks.length:=by rw[hL.1];exact hi
      have hlen4:=ho4.len;rcases hr4 with⟨rfl,rfl⟩|⟨b4',sl4,m4,rfl,rfl,hsl4,rn4⟩
      ·rcases hm4 with⟨_,hno⟩|⟨_,e,_⟩
       ·have ew:IntKind.wrap .i64 ((i:Int)+1)=((i+1:Nat):Int):=by rw[gr (by omega)];omega
        refine au.2 ⟨_,rfl,s3,dA (i:=3) b4,?_⟩;simp only;rw[ew];refine Mb ho4 hil (by rw[hL.1];omega) fun s5 h5 ho5 hu5=>?_
        have b5:=hu5.get b4 fun hx=>by have:=hx.1;omega
        refine⟨_,rfl,Rz (i:=3) b5 (show 3<5 by decide),EW (i:=3) (c':=Ci sl w.isSome val s5 none) b5 rfl fun h6 b6 hu6=>?_⟩
        have hu06:Upd No h h6:=(hu04.trans hu5 fun x hx=>.inr (by have:=hx.1;omega)).own hu6 hz2
        have ho6:=ho5.upd hu6 fun x hx e=>by have e:x=h2.size:=e;have:=hx.1;omega
        refine hk h6 h2.size w _ true hu06 ⟨val,s5,none,_,b6,hv,ho6.sl (fun x hx _ hw=>by have:=hW _ hw;have:=hx.1;omega),⟨ho6.cap,fun hx=>by have:=hW _ hx;omega⟩,jm.2 (by rw[Fo.to_of];exact((hL.upd0 hu06).take i).app ((hL.upd0 hu06).drop (i+1)))⟩ (SK hc) (D0 hkne (hddel fun k' v' hN=>?_)) (fun h=>by cases h) fun _=>hthere
        refine Classical.byContradiction fun hne=>hno k' v' ((hdn k' v').2 ⟨hne,hN⟩)
       ·cases e
      ·rcases hm4 with⟨e,_⟩|⟨m',e,hcn,hhd,hiff⟩
       ·cases e
       ·cases e
        obtain⟨a3,ha3,hab,hw3,ho5,hu5⟩:=OwnS.setAt ho4 hil (some ⟨b4',0,none⟩);refine ag.2 ⟨_,rfl,s3,dA (i:=3) b4,⟨by simp only;omega,by simp only;omega⟩,a3,ha3,?_⟩
        have hw1:Wr h4 (adr a3 (i*1)):=by
         rcases hw3 with hw|⟨b',hb',hw⟩
         ·cases hw
         ·cases hb';exact hw 0 (by simp)
        refine⟨hw1,bo ?_⟩;have b5:=hu5.get b4 fun e=>by have e:h2.size=a3.block:=e;have:=hab.1;omega
        have hu45:Upd No h2 _:=(hu3.tr hu4).trans hu5 fun x hx=>.inr (by have hx:x=a3.block:=hx;have:=hab.1;omega)
        have hu05:=hu2.tr hu45;have eset:ks.set i (some ⟨b4',0,none⟩)=ks.take i++some ⟨b4',0,none⟩::ks.drop (i+1):=by rw[cQ,if_pos hil]
        rw[←eset]at ho5;have rn5:=(rn4.updM (M:=(· =a3.block)) hu5 fun y hy=>.inl (.inr (by have hy:y=a3.block:=hy;have:=hab.1;have:=hab.2;omega))).less (W':=W) fun y hy=>.inl (.inl hy)
        exact hk _ h2.size w _ true hu05 ⟨val,s3,none,_,b5,hv,ho5.sl (fun x hx _ hw=>by have:=hW _ hw;have:=hx.1;omega),⟨ho5.cap,fun hx=>by have:=hW _ hx;omega⟩,jm.2 (by rw[Fo.to_of];exact hrset hu05 ⟨b4',sl4,rfl,hsl4,rn5⟩)⟩ (hcanset hcn hhd) (D0 hkne (hdset fun k' v'=>by rw[hiff k' v'];exact hdn k' v')) (fun h=>by cases h) fun _=>hthere
    ·rw[hkl]at hno
     refine au.2 (stay (Upd.refl _ _) fun v hin=>?_)
     rcases hin with⟨h,_⟩|hin
     ·exact hkne h
     ·obtain⟨r',e,_⟩:=hin_m v hin
      exact hno r' e
end Go.Proofs
namespace Go.Proofs
open Go Go.Lift
theorem Ot{w:Option ByteArray}{F:Fo}{l:List Pr}(h:∀k v,(k,v)∈mf w F↔∃p∈l,p.1.data.toList=k∧p.2=v)(hf:Fit l):∀j v,pe F j v→j.length≤1000000:=fun j v hi=>by
 obtain⟨p,hp,e,_⟩:=(h j v).1 (iS.2 (.inr hi));have:=(hf p hp).1;rw[←e,jP];omega
theorem G8{W:Nat→Prop}{h:ad}{b:Nat}{l:List Pr}(t:RadAt W h b l)(hW:∀y,W y→y<h.size)(hf:Fit l)(k:ByteArray){K:Option Addr×Bool→ad→Prop}
  (hk:∀h' b',Upd No h h'→RadAt W h' b' (nG k l)→(cg l k=false→b'=b)→K (some ⟨b',0,none⟩,cg l k) h'):
  HC PG uE [.pointer none,.pointer (some ⟨b,0,none⟩),.string k] [.c .ptr,.c .bool] K h:=by
 refine H3 none (some ⟨b,0,none⟩) k ?_;unfold Af jR NZ;refine AG (.inr ⟨b,rfl,t⟩) hW fun h2 b2 t2 hu2 hb2=>?_
 have hbb:b2=b:=by
  rcases hb2 with e|e
  ·cases e;rfl
  ·cases e
 subst hbb;obtain⟨w,F,r1,r2,r3⟩:=t2.ex;refine P2 (k.size+1) k (by omega) r1 (fun y hy=>aR (hW y hy) hu2.size) r2 (Ot r3 hf) fun h3 b3 w' F' gone hu3 rn3 hc3 hd3 hg0 hg1=>?_
 have hin:∀v,qg w F k.data.toList v↔(k,v)∈l:=fun v=>by
  rw[←iS,r3];constructor
  ·rintro⟨p,hp,e1,rfl⟩
   rw[←nH.1 e1];exact hp
  ·intro hp;exact⟨_,hp,rfl,rfl⟩
 have hgt:gone=cg l k:=by
  cases gone with
  |false=>
   refine(y9 fun q hq e=>(hg0 rfl).2 q.2 ((hin _).2 ?_)).symm
   rw[←e];exact hq
  |true=>
   obtain⟨v,hv⟩:=hg1 rfl;exact(cp.2 ⟨_,(hin v).1 hv,decide_eq_true rfl⟩).symm
 subst hgt;refine hk h3 b3 (hu2.tr hu3) ⟨w',F',rn3,hc3,fun j v=>?_⟩ fun ht=>(hg0 ht).1
 rw[iS,hd3 j v,←iS,r3];constructor
 ·rintro⟨hne,q,hq,rfl,rfl⟩
  exact⟨q,Hn.2 ⟨hq,fun e=>hne (by rw[e])⟩,rfl,rfl⟩
 ·rintro⟨q,hq,rfl,rfl⟩
  obtain⟨hq,hne⟩:=Hn.1 hq;exact⟨fun e=>hne (nH.1 e),q,hq,rfl,rfl⟩
theorem IA{W:Nat→Prop}{x:Hs}{h:ad}{kind:Int}{t:Tr}{l:List Pr}(i:TreeIs W h kind x t l)(hW:∀y,W y→y<h.size)(hr:cl l)(hf:Fit l)(hn:l.length≤1000000)(k:ByteArray)(hk1:k.size≤256){K:Tr×Int→ad→Prop}
  (hk:∀h' t',TreeIs W h' kind x t' (nG k l)→(cg l k=false→t'=t)→Upd No h h'→K (t',if cg l k then 0 else 4) h'):HC PG jI [Av t,.pointer none,.string k] [.agg [.int .i64,.int .u64,.int .u64,.int .u64,.ptr,.ptr],.c (.int .i64)] K h:=by
 refine qF t none k ?_;unfold mK bj ao cP aI fj nv tK Aw qY FH gZ cd cT jR NZ;refine aL fun h1 b1 k1=>aL fun h2 b2 k2=>?_
 have z1:=bh b1;have z2:=bh b2;have s1:h.size≤h1.size:=k1.size;have k02:=k1.tr k2;refine F1 (v:=⟨#[]⟩) hk1 (aP 4096) (ag.2 ?_);have c1:=k2.get0 b1;refine⟨_,vc c1 0,_,vc c1 1,_,vc c1 2,_,vc c1 3,_,vc c1 4,_,vc c1 5,?_⟩;refine aL fun h3 b3 k3=>?_
 have z3:=bh b3;have s2:h1.size≤h2.size:=k2.size;refine db (c:=nR yL) (vs:=nR t) b3 rfl fun h4 b4 hu4=>?_
 have k04:Upd No h h4:=(k02.tr k3).own hu4 (by omega);have k24:Upd No h2 h4:=k3.own hu4 (al _);have s4:h3.size≤h4.size:=hu4.size;have c4:=k24.get0 c1;have d4:=k24.get0 b2;have i4:=i.pro k04;have hW4:=Pro.lt hW k04;have fin:∀{h6:ad} {t':Tr},Upd No h h6→h6[h.size]? =some (.cells (nR t').toArray bF (0,0))→h6[h1.size]? =some (.cells (nR yL).toArray bF (0,0))→h6[h2.size]? =some (.cells (nR t).toArray bF (0,0))→TreeIs (Pro W h h4) h6 kind x t' (nG k l)→(cg l k=false→t'=t)→
   CondP (!cg l k) (∃v41:Int,aE h6 (adr (aA h2) 0)=some (.int .i64 v41)∧
    ∃v42:Int,aE h6 (adr (aA h2) 1)=some (.int .u64 v42)∧
    ∃v43:Int,aE h6 (adr (aA h2) 2)=some (.int .u64 v43)∧
    ∃v44:Int,aE h6 (adr (aA h2) 3)=some (.int .u64 v44)∧
    ∃v45:Option Addr,aE h6 (adr (aA h2) 4)=some (.pointer v45)∧
    ∃v46:Option Addr,aE h6 (adr (aA h2) 5)=some (.pointer v46)∧
    (rP h6 (some (aA h1)) 0 [.int .i64 v41,.int .u64 v42,.int .u64 v43,.int .u64 v44,.pointer v45,.pointer v46]∧
     At (g8 h6 (aA h1) 0 [.int .i64 v41,.int .u64 v42,.int .u64 v43,.int .u64 v44,.pointer v45,.pointer v46]) (fun h47=>
      ∃v48:Int,aE h47 (adr (aA h1) 0)=some (.int .i64 v48)∧
      ∃v49:Int,aE h47 (adr (aA h1) 1)=some (.int .u64 v49)∧
      ∃v50:Int,aE h47 (adr (aA h1) 2)=some (.int .u64 v50)∧
      ∃v51:Int,aE h47 (adr (aA h1) 3)=some (.int .u64 v51)∧
      ∃v52:Option Addr,aE h47 (adr (aA h1) 4)=some (.pointer v52)∧
      ∃v53:Option Addr,aE h47 (adr (aA h1) 5)=some (.pointer v53)∧
      K ((v48,v49,v50,v51,v52,v53),4) h47))) (
    ∃v54:Int,aE h6 (adr (aA h) 0)=some (.int .i64 v54)∧
    ∃v55:Int,aE h6 (adr (aA h) 1)=some (.int .u64 v55)∧
    ∃v56:Int,aE h6 (adr (aA h) 2)=some (.int .u64 v56)∧
    ∃v57:Int,aE h6 (adr (aA h) 3)=some (.int .u64 v57)∧
    ∃v58:Option Addr,aE h6 (adr (aA h) 4)=some (.pointer v58)∧
    ∃v59:Option Addr,aE h6 (adr (aA h) 5)=some (.pointer v59)∧
    (rP h6 (some (aA h1)) 0 [.int .i64 v54,.int .u64 v55,.int .u64 v56,.int .u64 v57,.pointer v58,.pointer v59]∧
     At (g8 h6 (aA h1) 0 [.int .i64 v54,.int .u64 v55,.int .u64 v56,.int .u64 v57,.pointer v58,.pointer v59]) (fun h60=>
      ∃v61:Int,aE h60 (adr (aA h1) 0)=some (.int .i64 v61)∧
      ∃v62:Int,aE h60 (adr (aA h1) 1)=some (.int .u64 v62)∧
      ∃v63:Int,aE h60 (adr (aA h1) 2)=some (.int .u64 v63)∧
      ∃v64:Int,aE h60 (adr (aA h1) 3)=some (.int .u64 v64)∧
      ∃v65:Option Addr,aE h60 (adr (aA h1) 4)=some (.pointer v65)∧
      ∃v66:Option Addr,aE h60 (adr (aA h1) 5)=some (.pointer v66)∧
      K ((v61,v62,v63,v64,v65,v66),0) h60))):=fun{h6 t'} k6 e0 e1 e2 i6 hsm=>by
  cases ht:cg l k with
  |false=>
   rw[ht]at hk hsm;have hte:=hsm rfl;subst hte;refine au.2 ⟨_,vc e2 0,_,vc e2 1,_,vc e2 2,_,vc e2 3,_,vc e2 4,_,vc e2 5,?_⟩;refine db (c:=nR yL) (vs:=nR t') e1 rfl fun h7 b7 hu7=>?_
   refine⟨_,vc b7 0,_,vc b7 1,_,vc b7 2,_,vc b7 3,_,vc b7 4,_,vc b7 5,?_⟩;exact hk h7 t' ((i6.updM hu7 (fun y hy=>.inl (.inr (by have hy:y=h1.size:=hy;omega)))).less Pro.sub) (fun _=>rfl) (k6.own hu7 s1)
  |true=>
   rw[ht]at hk hsm;refine ag.2 ⟨_,vc e0 0,_,vc e0 1,_,vc e0 2,_,vc e0 3,_,vc e0 4,_,vc e0 5,?_⟩;refine db (c:=nR yL) (vs:=nR t') e1 rfl fun h7 b7 hu7=>?_
   refine⟨_,vc b7 0,_,vc b7 1,_,vc b7 2,_,vc b7 3,_,vc b7 4,_,vc b7 5,?_⟩;exact hk h7 t' ((i6.updM hu7 (fun y hy=>.inl (.inr (by have hy:y=h1.size:=hy;omega)))).less Pro.sub) (fun h=>by cases h) (k6.own hu7 s1)
 refine Join.intro (fun tk h6=>tk=cg l k∧Upd No h h6∧∃t',h6[h.size]? =some (.cells (nR t').toArray bF (0,0))∧h6[h1.size]? =some (.cells (nR yL).toArray bF (0,0))∧h6[h2.size]? =some (.cells (nR t).toArray bF (0,0))∧TreeIs (Pro W h h4) h6 kind x t' (nG k l)∧(cg l k=false→t'=t)) (fun R hR=>?_) ?_
 ·rcases i4 with⟨rfl,b,rfl,t4⟩|⟨rfl,b,rfl,t4⟩
  ·refine⟨_,vc c4 0,ag.2 ⟨_,mP c4 1 0,_,mP c4 1 1,_,mP c4 1 2,_,vc c4 4,?_⟩⟩
   refine HJ t4 hW4 hr hn k fun h5 b5 hu5 t5 hsm=>?_
   refine rO (i:=4) (c':=(nR (0,x.k0,x.k1,x.mask,some ⟨b5,0,none⟩,none)).toArray) (hu5.get0 c4) (show 4<6 by decide) rfl fun h6 b6 hu6=>?_
   exact hR _ _ ⟨rfl,(k04.tr hu5).own hu6 (al _),_,b6,hu6.oth (hu5.get0 d4) (by omega),hu6.oth (hu5.get0 b4) (by omega),.inl ⟨rfl,b5,rfl,TrieAt.updM hu6 (fun y hy=>.inl (.inr (by have hy:y=h.size:=hy;omega))) t5⟩,fun ht=>by rw[hsm ht]⟩
  ·refine⟨_,vc c4 0,au.2 ⟨_,vc c4 5,?_⟩⟩
   refine G8 t4 hW4 hf k fun h5 b5 hu5 t5 hsm=>?_
   refine rO (i:=5) (c':=(nR (1,0,0,0,none,some ⟨b5,0,none⟩)).toArray) (hu5.get0 c4) (show 5<6 by decide) rfl fun h6 b6 hu6=>?_
   exact hR _ _ ⟨rfl,(k04.tr hu5).own hu6 (al _),_,b6,hu6.oth (hu5.get0 d4) (by omega),hu6.oth (hu5.get0 b4) (by omega),.inr ⟨rfl,b5,rfl,t5.updM hu6 (fun y hy=>.inl (.inr (by have hy:y=h.size:=hy;omega)))⟩,fun ht=>by rw[hsm ht]⟩
 ·rintro _ h6 ⟨rfl,k6,t',e0,e1,e2,i6,hsm⟩
  exact fin k6 e0 e1 e2 i6 hsm
end Go.Proofs
namespace Go.Proofs
open Go Go.Lift
end Go.Proofs
namespace Go.Proofs
open Go Go.Lift
def KG(p:Pr):Int:=if 256<p.1.size then 2 else if 4096<p.2.size then 3 else 0
theorem FQ{p:Pr}(h:KG p=0):p.1.size≤256∧p.2.size≤4096:=by
 unfold KG at h;split at h
 ·cases h
 ·split at h
  ·cases h
  ·omega
theorem Nm{p:Pr}{h:ad}{K:Int→ad→Prop}(hk:K (KG p) h):HC PG oA [.string p.1,.string p.2] [.c (.int .i64)] K h:=by
 refine zS p.1 p.2 ?_;unfold uU;unfold KG at hk;refine ay (fun e=>?_) fun e=>ay (fun e'=>?_) fun e'=>?_
 ·rw[if_pos (by omega)]at hk;exact hk
 ·rw[if_neg (by omega),if_pos (by omega)]at hk;exact hk
 ·rw[if_neg (by omega),if_neg (by omega)]at hk;exact hk
theorem Sa{p:Pr}{h:ad}{K:Int→ad→Prop}(hk:K (KG p) h):HC PG r7 [.string p.1,.string p.2] [.c (.int .i64)] K h:=by
 refine BX p.1 p.2 ?_;unfold ww;unfold KG at hk;refine ay (fun e=>?_) fun e=>ay (fun e'=>?_) fun e'=>?_
 ·rw[if_pos (by omega)]at hk;exact hk
 ·rw[if_neg (by omega),if_pos (by omega)]at hk;exact hk
 ·rw[if_neg (by omega),if_neg (by omega)]at hk;exact hk
theorem KY{x:Hs}{h:ad}{kind:Int}(h0:kind≠0)(h1:kind≠1){K:Tr×Int→ad→Prop}(hk:∀h',Upd No h h'→K (yL,11) h'):HC PG rk [.int .i64 kind,.agg #[.int .u64 x.k0,.int .u64 x.k1,.int .u64 x.mask]] [.agg [.int .i64,.int .u64,.int .u64,.int .u64,.ptr,.ptr],.c (.int .i64)] K h:=by
 refine Ek kind (x.k0,x.k1,x.mask) ?_;unfold yD bj ao aI fj yM tK Aw qY Jz;refine aL fun h1' b1 k1=>aL fun h2 b2 k2=>?_
 rw[beq_eq_false_iff_ne.2 h0,beq_eq_false_iff_ne.2 h1];refine ag.2 (ag.2 ?_);refine db (c:=nR yL) (vs:=nR yL) b2 rfl fun h4 b4 hu4=>?_
 exact⟨_,vc b4 0,_,vc b4 1,_,vc b4 2,_,vc b4 3,_,vc b4 4,_,vc b4 5,hk h4 ((k1.tr k2).own hu4 k1.size)⟩
theorem Lo{x:Hs}{h:ad}{kind:Int}(h0:kind≠0)(h1:kind≠1){K:Rt×Int→ad→Prop}(hk:∀h',Upd No h h'→K (Lh,11) h'):HC PG wN [.int .i64 kind,.agg #[.int .u64 x.k0,.int .u64 x.k1,.int .u64 x.mask]] [.agg [.int .i64,.int .u64,.int .u64,.int .u64,.slice],.c (.int .i64)] K h:=by
 refine GC kind (x.k0,x.k1,x.mask) ?_;unfold Bs bj ao dI fj yM Ik;refine aL fun h1' b1 k1=>aL fun h2 b2 k2=>?_
 rw[beq_eq_false_iff_ne.2 h0,beq_eq_false_iff_ne.2 h1];refine ag.2 (ag.2 ?_);refine db (c:=tf Lh) (vs:=tf Lh) b2 rfl fun h4 b4 hu4=>?_
 exact⟨_,vc b4 0,_,vc b4 1,_,vc b4 2,_,vc b4 3,⟨none,0,0⟩,vc b4 4,hk h4 ((k1.tr k2).own hu4 k1.size)⟩
end Go.Proofs
namespace Go.Proofs
open Go Go.Lift
theorem RE(n:Nat):dK n [.int .u8 0]=(eg n (0:UInt8)).flatMap nf:=by
 unfold dK;induction n with
 |zero=>rfl
 |succ n ih=>rw[iy,List.flatten_cons,iy,List.flatMap_cons,ih];rfl
theorem Px{h:ad}{n:Nat}{k:ad→Prop}(hk:∀h1,Upd No h h1→∀s:ByteArray,s.size=n→SRow h1 (some (aA h)) n (dS s)→k h1):At (hnew h (dK n [.int .u8 0]) cy) k:=by
 refine aL fun h1 b1 k1=>?_
 rw[RE]at b1;have o:OwnS nf 1 cy (fun _=>True) h1 ⟨some (aA h),n,n⟩ (eg n (0:UInt8)):=⟨by simp,qs,al _,.inr ⟨h.size,[],rfl,trivial,by rw[List.append_nil];exact b1,by simp⟩⟩
 have r:=(o.sl (W:=No) fun _ _ _ h=>h).srow
 refine hk h1 k1 ⟨(eg n (0:UInt8)).toArray⟩ (by show(eg n (0:UInt8)).toArray.size=n;simp) ?_;rw[si];simpa using r
end Go.Proofs
namespace Go.Proofs
open Go Go.Lift
theorem Ta{h:ad}{r:Rt}{k:ad→Prop}(hk:∀h',h'[h.size]? =some (.cells (tf r).toArray cY (0,0))→Upd No h h'→k h'):
  At (hnew h (tf Lh) cY) (fun h1=>rP h1 (some (aA h)) 0 (tf r)∧At (g8 h1 (aA h) 0 (tf r)) k):=
 aL fun h1 b1 k1=>db (c:=tf Lh) (vs:=tf r) b1 rfl fun h2 b2 hu2=>hk h2 b2 (k1.own hu2 (al _))
end Go.Proofs
namespace Go.Proofs
open Go Go.Lift
theorem PV{h:ad}{K:Int→ad→Prop}(hk:∀h',Upd No h h'→K 0 h'):HC PG ii [Av yL] [.c (.int .i64)] K h:=by
 refine qu yL ?_;unfold ng bj aI qY cd;refine aL fun h1 b1 k1=>⟨_,vc b1 0,ag.2 ⟨_,vc b1 4,?_⟩⟩
 refine wp _ ?_;unfold sP bl cD cd;refine oJ _ ?_;unfold lA bC;refine au.2 ?_;refine pD _ ?_;unfold mz bC;refine au.2 ?_;refine LoopP.ghost (fun(_:Unit) (t:Int×Int) h'=>t=(0,0)∧h'=h1) (fun _=>0) () ⟨rfl,rfl⟩ ?_
 rintro I _ t h3 ⟨rfl,e⟩ hI;rw[e];refine ay (fun hlt=>absurd hlt (by simp only;omega)) fun _=>hk h1 k1
end Go.Proofs
namespace Go.Proofs
open Go Go.Lift
theorem xP{x:Hs}{h:ad}{K:Option Addr→ad→Prop}(hk:∀h' b,TrieAt No x h' 13 b []→Upd No h h'→K (some ⟨b,0,none⟩) h'):HC PG fC [Av yL] [.c .ptr] K h:=by
 refine oG yL ?_;unfold lz bj aI qY;refine aL fun h1 b1 k1=>Join.plain ⟨_,vc b1 0,au.2 ⟨_,vc b1 4,au.2 ?_⟩⟩
 exact xp (x:=x) (fun _ h=>h.elim) fun h' b t k=>hk h' b t (k1.tr k)
theorem KU{h:ad}(tb:Tab h):TreeC h 0 ⟨0,0,0⟩ yL [] where
 kd:=.inl rfl
 f:=⟨rfl,rfl,rfl,rfl⟩
 radix:=rfl
 pairs k K hk:=by
  refine oF yL ?_;unfold ly bj aI qY Hh OT;refine aL fun h1 b1 k1=>⟨_,vc b1 0,ag.2 ⟨_,vc b1 4,?_⟩⟩
  exact xf (W:=No) (W':=No) (x:=⟨0,0,0⟩) (m:=13) (.inl ⟨rfl,rfl⟩) (al _) cN (by simp) (fun _ h=>h.elim) fun s4 h4 hs4 _ k4=>hk s4 h4 hs4 (k1.tr k4)
 len k K hk:=PV hk
 shape {h'} k K hk:=by
  refine sm yL ?_;unfold oK bj ao aI qY As;refine aL fun h1 b1 k1=>⟨_,vc b1 0,ag.2 (aL fun h2 b2 k2=>?_)⟩
  have z1:=k1.size;have c1:=k2.get0 b1;refine⟨_,vc c1 0,_,vc c1 1,_,vc c1 2,_,vc c1 3,_,vc c1 4,_,vc c1 5,?_⟩;refine xP (x:=⟨0,0,0⟩) fun h3 b t3 k3=>?_
  refine Na t3 (fun p hp=>by cases hp) (by simp) fun s4 h4 ho4 k4=>?_
  have hlen:=lL (x:=⟨0,0,0⟩) 13 (l:= []) (fun p hp=>by cases hp)
  have k24:=k3.tr k4;have hz:=bh b2;have s24:=k24.size;have z3:=k3.size;refine⟨_,(ho4.sl (W:=No) fun _ _ _ h=>h).srow,?_⟩
  have o1:OwnS nf 1 cy (fun y=>h'.size≤y) h4 ⟨some ⟨h1.size,0,none⟩,1,1⟩ [(0:UInt8)]:=((uP (b:=0) b2).upd k24 fun _ _ h=>h).more fun y hy=>by omega
  refine AppP.own (ys:=fc ⟨0,0,0⟩ 13 []) o1 ho4.len rfl (wI _) rfl (by omega) (by simp only[aD];simp only[List.length_nil]at hlen;omega) (by omega) fun s' h5 ho' hu'=>?_
  exact hk s' h5 _ (.inl ⟨rfl,rfl⟩) ho' (((k1.tr k2).tr k24).trans hu' fun y hy=>.inr hy)
 canon k K hk:=by
  refine sq yL ?_;unfold oL bj ao cP aI tK qY As;refine aL fun h1 b1 k1=>⟨_,vc b1 0,ag.2 ⟨_,mP b1 1 0,_,mP b1 1 1,_,mP b1 1 2,_,vc b1 0,_,vc b1 1,_,vc b1 2,_,vc b1 3,_,vc b1 4,_,vc b1 5,?_⟩⟩
  refine xP (x:=⟨0,0,0⟩) fun h2 b t2 k2=>⟨⟨mP (k2.get0 b1) 1 0,mP (k2.get0 b1) 1 1,mP (k2.get0 b1) 1 2⟩,?_⟩
  refine xt (0,0,0) _ ?_;unfold tH ao yM tK kW;refine aL fun h3 b3 k3=>ag.2 ⟨_,vc b3 0,_,vc b3 1,_,vc b3 2,?_⟩
  have k03:=(k1.tr k2).tr k3;refine JY (x:=⟨0,0,0⟩) 13 (al _) (sw:=⟨none,0,0⟩) (way:= []) (TrieAt.upd0 k3 t2) (tb.upd (k.tr k03) id) (Sl.nil Qn) (al _) rfl (fun p _ i c hc=>by simp at hc) cN (by simp) fun h4 k4=>?_
  exact hk h4 (k03.tr k4)
 champ k K hk:=xP (x:=⟨0,0,0⟩) fun h' b _ k'=>hk h' _ k' rfl
end Go.Proofs
namespace Go.Proofs
open Go Go.Lift
end Go.Proofs
namespace Go.Proofs
open Go Go.Lift
abbrev b1:ByteArray:=⟨#[49]⟩
abbrev b2:ByteArray:=⟨#[50]⟩
abbrev b3:ByteArray:=⟨#[51]⟩
end Go.Proofs
namespace Go.Proofs
open Go Go.Lift
def look(l:List Pr)(k:ByteArray):Option ByteArray:=(l.find? fun p=>decide (p.1=k)).map (·.2)
theorem OM{l:List Pr}{k:ByteArray}(h:cg l k=false):look l k=none:=by
 unfold look;rw[Option.map_eq_none_iff,List.find?_eq_none];intro p hp;unfold cg at h;rw[List.any_eq_false]at h;exact h p hp
theorem AR:∀{l:List Pr} {k v:ByteArray},cl l→(k,v)∈l→look l k=some v
 |p::l,k,v,hr,h=>by
  have hr:=List.pairwise_cons.1 hr;unfold look;rw[qx];rcases List.mem_cons.1 h with e|h
  ·subst e;simp
  ·have hne:p.1≠k:=fun e=>by
    have:=hr.1 _ h;simp only at this;rw[e]at this;exact cx _ this
   rw[decide_eq_false hne];exact AR hr.2 h
theorem Nu{l:List Pr}(hr:cl l){k v:ByteArray}(h1:cg l k=true→(k,v)∈l)(h2:cg l k=false→v=⟨#[]⟩):((look l k).getD ⟨#[]⟩,(look l k).isSome)=(v,cg l k):=by
 cases ht:cg l k with
 |true=>rw[AR hr (h1 ht)];rfl
 |false=>rw[OM ht,h2 ht];rfl
theorem OL{x:Hs}{lev:Nat}{l:List Pr}{k:ByteArray}:look (part x lev (ck x lev k) l) k=look l k:=by
 unfold look part;congr 1
 rw[List.find?_filter];congr 1
 funext p;by_cases e:p.1=k
 ·rw[e];simp
 ·simp[e]
theorem JW{W:Nat→Prop}{x:Hs}{h:ad}{b:Nat}{l:List Pr}(t:TrieAt W x h 13 b l)(hW:∀y,W y→y<h.size)(hr:cl l)(hn:l.length≤1000000)(k:ByteArray){K:ByteArray×Bool→ad→Prop}
  (hk:∀h',Upd No h h'→K ((look l k).getD ⟨#[]⟩,(look l k).isSome) h'):HC PG wa [.agg #[.int .u64 x.k0,.int .u64 x.k1,.int .u64 x.mask],.pointer (some ⟨b,0,none⟩),.string k] [.c .str,.c .bool] K h:=by
 refine Kr (x.k0,x.k1,x.mask) (some ⟨b,0,none⟩) k ?_;unfold Cf ao nv yM tK jN kq cd un aw rM jR qL g5 lJ lh;refine aL fun h1 b1 k1=>⟨_,vc b1 0,_,vc b1 1,_,vc b1 2,?_⟩
 refine rW fun h2 k2=>?_
 have k12:=k1.tr k2;refine G3 (.inr ⟨b,rfl,TrieAt.upd0 k12 t⟩) (fun y hy=>aR (hW y hy) k12.size) fun h3 b3 t3 k3 _=>?_
 have k13:=k12.tr k3;refine LoopP.ghost (fun(g:Nat×Nat×List Pr) (t:Option Addr×Int) h'=>t=(some ⟨g.2.1,0,none⟩,((13-g.1:Nat):Int))∧g.1≤13∧TrieAt W x h' g.1 g.2.1 g.2.2∧cl g.2.2∧g.2.2.length≤1000000∧look g.2.2 k=look l k∧Upd No h h') (fun g=>g.1) (13,b3,l)
  ⟨rfl,al _,t3,hr,hn,rfl,k13⟩ ?_
 rintro I ⟨m,c,lm⟩ t h4 ⟨rfl,hm,tm,hrm,hnm,hlk,hu⟩ hI;simp only at hm tm hrm hnm hlk;rcases m with _|m
 ·obtain⟨sp,sk,ow,hb,_⟩:=BuckAt.ex tm
  refine gi hb (au.2 (Qw tm hrm (by omega) k fun h5 v k5 e1 e2=>?_))
  have:=hk h5 (hu.tr k5);rw[←hlk,Nu hrm e1 e2]at this;exact this
 ·obtain⟨s,nd,hs⟩:=tm
  have hs:∀c,c<32→SlotIs W x h4 m s c (part x (12-m) c lm):=hs;obtain⟨d,n,sp,sk,ow,hb,_⟩:=nd.ex;refine gi hb (ag.2 ?_);refine O6 (by omega) ?_;rw[show 13-(m+1)=12-m by omega]
  have hi:=wd x (12-m) k;have hsi:=hs _ hi;have hlp:look (part x (12-m) (ck x (12-m) k) lm) k=look l k:=by rw[OL,hlk]
  have hrp:cl (part x (12-m) (ck x (12-m) k) lm):=pq hrm;have hnp:(part x (12-m) (ck x (12-m) k) lm).length≤1000000:=Nat.le_trans jn hnm;generalize part x (12-m) (ck x (12-m) k) lm=lp at hsi hlp hrp hnp;generalize ck x (12-m) k=i at hi hsi;refine ze nd hi fun h5 k5=>?_
  refine qD fun h6 b6 k6=>?_
  have k46:=k5.tr k6;rcases hsi with⟨e0,e1,e2⟩|⟨p,e0,e1,e2⟩|⟨_,e1,kb,e2,tk⟩
  ·rw[e1]
   refine ag.2 (zg (nd.upd k46 fun _ h=>h.elim) hi ?_)
   rw[e2];refine au.2 ?_;have:=hk h6 (hu.tr k46);rw[←hlp,e0]at this;exact this
  ·rw[e1]at b6⊢
   refine au.2 ⟨p.1,vc b6 0,?_⟩;rw[iv];have:=hk h6 (hu.tr k46);rw[←hlp,e0]at this;by_cases e:p.1=k
   ·rw[decide_eq_true e]
    refine ag.2 ⟨p.2,vc b6 1,?_⟩;have e3:look [p] k=some p.2:=by unfold look;rw[qx,decide_eq_true e];rfl
    rw[e3]at this;exact this
   ·rw[decide_eq_false e]
    have e3:look [p] k=none:=by unfold look;rw[qx,decide_eq_false e];rfl
    rw[e3]at this;exact au.2 this
  ·rw[e1]
   refine ag.2 (zg (nd.upd k46 fun _ h=>h.elim) hi ?_)
   rw[e2];refine ag.2 ?_;have ew:IntKind.wrap .i64 (((13-(m+1):Nat):Int)+1)=((13-m:Nat):Int):=by rw[gr (by omega)];omega
   rw[show 13-(m+1)=12-m by omega]at ew
   show I (some ⟨kb,0,none⟩,IntKind.wrap .i64 (((12-m:Nat):Int)+1)) h6
   rw[ew];exact hI (m,kb,lp) _ h6 ⟨rfl,by simp only;omega,TrieAt.upd0 k46 tk,hrp,hnp,hlp,hu.tr k46⟩ (by simp only;omega)
abbrev Sd:=ByteArray×Bool
end Go.Proofs
namespace Go.Proofs
open Go Go.Lift
theorem Qd{W:Nat→Prop}{h:ad}{s:SliceV}{l:List Pr}(hs:Sl eJ 2 W h s l)(hr:cl l)(hf:Fit l)(hn:l.length≤1000000)(k:ByteArray){K:Int×Bool→ad→Prop}
  (hk:∀i:Nat,(cg l k=true→∃hi:i<l.length,l[i].1=k)→K ((i:Int),cg l k) h):HC PG yh [.slice s.a s.len s.cap,.string k] [.c (.int .i64),.c .bool] K h:=by
 refine ME s k ?_;unfold EE cD aQ gZ;have hlen:=hs.len;refine LoopP.ghost (fun(i:Nat) (t:Int) h'=>t=(i:Int)∧i≤l.length∧h'=h∧∀j (hj:j<l.length),j<i→kl l[j].1 k) (fun i=>l.length-i) 0 ⟨rfl,aP _,rfl,fun j hj h=>by omega⟩ ?_
 rintro I i t h' ⟨rfl,hi,rfl,hlo⟩ hI;refine Join.intro (fun t h2=>h2=h'∧(t=true↔∃hi:i<l.length,kl l[i].1 k)) (fun R hR=>?_) ?_
 ·refine ay (fun hlt=>?_) fun hge=>hR _ _ ⟨rfl,⟨fun h=>(by cases h),fun⟨hi,_⟩=>by omega⟩⟩
  have hlt:i<l.length:=by omega
  obtain⟨a,ha,_,hv⟩:=hs.at (af hlt);have hf1:=(hf _ (aU hlt)).1;refine⟨⟨by omega,by omega⟩,a,ha,l[i].1,hv 0 _ rfl,Ja (by omega) (hR _ _ ⟨rfl,?_⟩)⟩
  rw[decide_eq_true_iff];exact⟨fun h=>⟨hlt,h⟩,fun⟨_,h⟩=>h⟩
 ·rintro t h2 ⟨rfl,ht⟩
  cases t with
  |true=>
   obtain⟨hlt,hk1⟩:=ht.1 rfl;refine au.2 ?_;rw[xL hlt (by omega)];refine hI (i+1) _ _ ⟨rfl,hlt,rfl,fun j hj hji=>?_⟩ (by omega)
   rcases bE j i with h|h
   ·exact hlo j hj h
   ·have:j=i:=by omega
    subst this;exact hk1
  |false=>
   refine ag.2 (ay (fun hlt=>?_) fun hge=>?_)
   ·have hlt:i<l.length:=by omega
    have hnk:¬kl l[i].1 k:=fun h=>by have:=ht.2 ⟨hlt,h⟩;cases this
    obtain⟨a,ha,_,hv⟩:=hs.at (af hlt);refine⟨⟨by omega,by omega⟩,a,ha,l[i].1,hv 0 _ rfl,?_⟩
    rw[iv];have e:decide (l[i].1=k)=cg l k:=by
     by_cases e:l[i].1=k
     ·rw[decide_eq_true e]
      exact(cp.2 ⟨_,aU hlt,decide_eq_true e⟩).symm
     ·rw[decide_eq_false e]
      refine(y9 fun q hq e2=>?_).symm
      obtain⟨j,hj,rfl⟩:=bM hq;have hgt:=qn hnk e;rcases Nat.lt_trichotomy j i with h|h|h
      ·have:=hlo j hj h;rw[e2]at this;exact cx _ this
      ·subst h;exact e e2
      ·have:=ci.1 hr i j hlt hj h
       rw[e2]at this;exact cx _ (ir hgt this)
    rw[e];exact hk i fun ht=>⟨hlt,of_decide_eq_true (e.trans ht)⟩
   ·have e:cg l k=false:=y9 fun q hq e2=>by
     obtain⟨j,hj,rfl⟩:=bM hq;have:=hlo j hj (by omega);rw[e2]at this;exact cx _ this
    have:=hk i fun h=>by rw[e]at h;cases h
    rw[e]at this;exact this
theorem Ng{W:Nat→Prop}{h:ad}{s:SliceV}{l:List Pr}(hs:Sl eJ 2 W h s l)(hr:cl l)(hf:Fit l)(hn:l.length≤1000000)(k:ByteArray){K:ByteArray×Bool→ad→Prop}
  (hk:∀v,(cg l k=true→(k,v)∈l)→(cg l k=false→v=⟨#[]⟩)→K (v,cg l k) h):HC PG wO [.slice s.a s.len s.cap,.string k] [.c .str,.c .bool] K h:=by
 refine Pg s k ?_;unfold GG cD aQ yR kW;have hlen:=hs.len;refine Qd hs hr hf hn k fun i hi=>?_
 cases ht:cg l k with
 |false=>rw[ht]at hk;exact au.2 (hk _ (fun h=>(by cases h)) fun _=>rfl)
 |true=>
  rw[ht]at hk;obtain⟨hlt,hik⟩:=hi ht;obtain⟨a,ha,_,hv⟩:=hs.at (af hlt);refine ag.2 ⟨⟨by simp only;omega,by simp only;omega⟩,a,ha,l[i].2,hv 1 _ rfl,hk _ (fun _=>by rw[←hik];exact aU hlt) fun h=>(by cases h)⟩
end Go.Proofs
namespace Go.Proofs
open Go Go.Lift
theorem ON(p:Pr)(l:List Pr)(k:ByteArray):look (p::l) k=if p.1=k then some p.2 else look l k:=by
 unfold look;rw[qx];by_cases e:p.1=k
 ·rw[decide_eq_true e,if_pos e];rfl
 ·rw[decide_eq_false e,if_neg e]
theorem Ju{k v:ByteArray}:∀{l:List Pr},look l k=some v→(k,v)∈l
 | [],h=>by cases h
 |p::l,h=>by
  rw[ON]at h;by_cases e:p.1=k
  ·rw[if_pos e]at h;cases h;rw[←e];exact List.mem_cons_self ..
  ·rw[if_neg e]at h;exact List.mem_cons_of_mem _ (Ju h)
def TE(c:Ch):Bool:=(!((!c.2.2.2.1&& !c.2.2.2.2)||(c.2.2.2.1&&(c.2.2.2.2&&decide (c.2.1=c.2.2.1)))))&&((c.2.2.2.1||decide (c.2.1=⟨#[]⟩))&&(c.2.2.2.2||decide (c.2.2.1=⟨#[]⟩)))
def one(c:Ch):Option Ch:=if TE c then some c else none
end Go.Proofs
namespace Go.Proofs
open Go Go.Lift
end Go.Proofs
namespace Go.Proofs
open Go Go.Lift
end Go.Proofs
namespace Go.Proofs
open Go Go.Lift
def OW(l:List Pr)(k:ByteArray):Int:=if 256<k.size then 2 else if cg l k then 0 else 4
def yQ(l:List Pr)(p:Pr):List Pr:=if KG p=0 then is p l else l
def zr(l:List Pr)(k:ByteArray):List Pr:=if 256<k.size then l else nG k l
theorem N6{W:Nat→Prop}{x:Hs}{h:ad}{kind:Int}{t:Tr}{l:List Pr}(i:TreeIs W h kind x t l)(hW:∀y,W y→y<h.size)(hr:cl l)(hn:l.length≤1000000)(p:Pr){K:Tr×Int→ad→Prop}
  (hk:∀h' t',TreeIs W h' kind x t' (yQ l p)→(KG p≠0→t'=t)→Upd No h h'→K (t',KG p) h'):HC PG jS [Av t,.pointer none,.agg #[.string p.1,.string p.2]] [.agg [.int .i64,.int .u64,.int .u64,.int .u64,.ptr,.ptr],.c (.int .i64)] K h:=by
 unfold yQ at hk;by_cases e:KG p=0
 ·rw[if_pos e]at hk
  have hs:=FQ e;rw[e]at hk;exact IB i hW hr hn p hs.1 hs.2 fun h' t' i' _ k=>hk h' t' i' (fun h=>absurd rfl h) k
 ·rw[if_neg e]at hk
  refine tV t none p ?_;unfold pE bj ao cP aI fj tK Aw qY FH pn gZ cd aw cT rM jR;refine aL fun h1 b1 k1=>aL fun h2 b2 k2=>aL fun h3 b3 k3=>?_
  have s2:h.size≤h2.size:=(k1.tr k2).size;have k03:=(k1.tr k2).tr k3;have c1:=k3.get0 (k2.get0 b1);have c2:=k3.get0 b2;refine⟨_,vc c2 0,_,vc c2 1,Nm (p:=p) ?_⟩;rw[show(KG p !=0)=true by simpa using e]
  refine au.2 ⟨_,vc c1 0,_,vc c1 1,_,vc c1 2,_,vc c1 3,_,vc c1 4,_,vc c1 5,?_⟩;refine db (c:=nR yL) (vs:=nR t) b3 rfl fun h4 b4 hu4=>?_
  exact⟨_,vc b4 0,_,vc b4 1,_,vc b4 2,_,vc b4 3,_,vc b4 4,_,vc b4 5,hk h4 t (i.upd0 (k03.own hu4 s2)) (fun _=>rfl) (k03.own hu4 s2)⟩
theorem Ou{W:Nat→Prop}{x:Hs}{h:ad}{kind:Int}{r:Rt}{l:List Pr}(i:RefIs W h kind x r l)(hW:∀y,W y→y<h.size)(hr:cl l)(hn:l.length≤1000000)(p:Pr){K:Rt×Int→ad→Prop}
  (hk:∀h' r',RefIs W h' kind x r' (yQ l p)→Upd No h h'→K (r',KG p) h'):HC PG uF [Uh r,.agg #[.string p.1,.string p.2]] [.agg [.int .i64,.int .u64,.int .u64,.int .u64,.slice],.c (.int .i64)] K h:=by
 unfold yQ at hk;by_cases e:KG p=0
 ·rw[if_pos e]at hk
  have hs:=FQ e;rw[e]at hk;exact Qa i hW hr hn p hs.1 hs.2 hk
 ·rw[if_neg e]at hk
  refine El r p ?_;unfold yE bj ao dI fj Ik OD M4 pn gZ cd aw cT rM;refine aL fun h1 b1 k1=>aL fun h2 b2 k2=>aL fun h3 b3 k3=>?_
  have s2:h.size≤h2.size:=(k1.tr k2).size;have k03:=(k1.tr k2).tr k3;have c1:=k3.get0 (k2.get0 b1);have c2:=k3.get0 b2;refine⟨_,vc c2 0,_,vc c2 1,Sa (p:=p) ?_⟩;rw[show(KG p !=0)=true by simpa using e]
  refine au.2 ⟨_,vc c1 0,_,vc c1 1,_,vc c1 2,_,vc c1 3,r.2.2.2.2,vc c1 4,?_⟩;refine db (c:=tf Lh) (vs:=tf r) b3 rfl fun h4 b4 hu4=>?_
  exact⟨_,vc b4 0,_,vc b4 1,_,vc b4 2,_,vc b4 3,r.2.2.2.2,vc b4 4,hk h4 r (i.upd0 (k03.own hu4 s2)) (k03.own hu4 s2)⟩
theorem GX{W:Nat→Prop}{x:Hs}{h:ad}{kind:Int}{t:Tr}{l:List Pr}(i:TreeIs W h kind x t l)(hW:∀y,W y→y<h.size)(hr:cl l)(hf:Fit l)(hn:l.length≤1000000)(k:ByteArray){K:Tr×Int→ad→Prop}
  (hk:∀h' t',TreeIs W h' kind x t' (zr l k)→(OW l k≠0→t'=t)→Upd No h h'→K (t',OW l k) h'):HC PG jI [Av t,.pointer none,.string k] [.agg [.int .i64,.int .u64,.int .u64,.int .u64,.ptr,.ptr],.c (.int .i64)] K h:=by
 unfold zr OW at hk;by_cases e:256<k.size
 ·rw[if_pos e,if_pos e]at hk
  refine qF t none k ?_;unfold mK bj ao cP aI fj nv tK Aw qY FH gZ cd cT jR NZ;refine aL fun h1 b1 k1=>aL fun h2 b2 k2=>?_
  have s1:h.size≤h1.size:=k1.size;have k02:=k1.tr k2;have c1:=k2.get0 b1;refine Nm (p:=(k,⟨#[]⟩)) ?_;rw[show KG (k,(⟨#[]⟩:ByteArray))=2 from if_pos e]
  refine au.2 ⟨_,vc c1 0,_,vc c1 1,_,vc c1 2,_,vc c1 3,_,vc c1 4,_,vc c1 5,?_⟩;refine db (c:=nR yL) (vs:=nR t) b2 rfl fun h4 b4 hu4=>?_
  exact⟨_,vc b4 0,_,vc b4 1,_,vc b4 2,_,vc b4 3,_,vc b4 4,_,vc b4 5,hk h4 t (i.upd0 (k02.own hu4 s1)) (fun _=>rfl) (k02.own hu4 s1)⟩
 ·rw[if_neg e,if_neg e]at hk
  refine IA i hW hr hf hn k (by omega) fun h' t' i' ht k'=>hk h' t' i' (fun hne=>ht ?_) k'
  cases hth:cg l k with
  |false=>rfl
  |true=>rw[hth]at hne;exact absurd rfl hne
theorem G9{W:Nat→Prop}{x:Hs}{h:ad}{kind:Int}{r:Rt}{l:List Pr}(i:RefIs W h kind x r l)(hW:∀y,W y→y<h.size)(hr:cl l)(hf:Fit l)(hn:l.length≤1000000)(k:ByteArray){K:Rt×Int→ad→Prop}
  (hk:∀h' r',RefIs W h' kind x r' (zr l k)→Upd No h h'→K (r',OW l k) h'):HC PG tw [Uh r,.string k] [.agg [.int .i64,.int .u64,.int .u64,.int .u64,.slice],.c (.int .i64)] K h:=by
 unfold zr OW at hk;refine Fp r k ?_;unfold xF bj ao dI fj Ik OD yR M4 kq cT;refine aL fun h1 b1 k1=>aL fun h2 b2 k2=>?_
 have z1:=bh b1;have z2:=bh b2;have s1:h.size≤h1.size:=k1.size;have k02:=k1.tr k2;have c1:=k2.get0 b1;refine ay (fun e=>?_) fun e=>?_
 ·have e:256<k.size:=by omega
  rw[if_pos e,if_pos e]at hk;refine⟨_,vc c1 0,_,vc c1 1,_,vc c1 2,_,vc c1 3,r.2.2.2.2,vc c1 4,?_⟩;refine db (c:=tf Lh) (vs:=tf r) b2 rfl fun h4 b4 hu4=>?_
  exact⟨_,vc b4 0,_,vc b4 1,_,vc b4 2,_,vc b4 3,r.2.2.2.2,vc b4 4,hk h4 r (i.upd0 (k02.own hu4 s1)) (k02.own hu4 s1)⟩
 ·have e:¬256<k.size:=by omega
  rw[if_neg e,if_neg e]at hk;have i0:=i;obtain⟨s,rfl,hs,hc⟩:=i;refine⟨s,vc c1 4,Ng (hs.upd k02 fun _ h=>h.elim) hr hf hn k fun v _ _=>?_⟩
  cases hth:cg l k with
  |false=>
   rw[hth]at hk;refine au.2 ⟨_,vc c1 0,_,vc c1 1,_,vc c1 2,_,vc c1 3,s,vc c1 4,?_⟩;refine db (c:=tf Lh) (vs:=tf (kind,hx kind x.k0,hx kind x.k1,hx kind x.mask,s)) b2 rfl fun h4 b4 hu4=>?_
   refine⟨_,vc b4 0,_,vc b4 1,_,vc b4 2,_,vc b4 3,s,vc b4 4,hk h4 _ ?_ (k02.own hu4 s1)⟩;rw[wc (yV hth)];exact i0.upd0 (k02.own hu4 s1)
  |true=>
   rw[hth]at hk;refine ag.2 ⟨s,vc c1 4,Jc (hs.upd k02 fun _ h=>h.elim) hn k fun s4 h4 ho4 k4=>?_⟩
   refine rO (i:=4) (c':=(tf (kind,hx kind x.k0,hx kind x.k1,hx kind x.mask,s4)).toArray) (k4.get0 c1) (show 4<5 by decide) rfl fun h5 v5 hu5=>?_
   have s4z:=k4.size;refine⟨_,vc v5 0,_,vc v5 1,_,vc v5 2,_,vc v5 3,s4,vc v5 4,?_⟩;refine db (c:=tf Lh) (vs:=tf (kind,hx kind x.k0,hx kind x.k1,hx kind x.mask,s4)) (hu5.oth (k4.get0 b2) (by omega)) rfl fun h6 v6 hu6=>?_
   refine⟨_,vc v6 0,_,vc v6 1,_,vc v6 2,_,vc v6 3,s4,vc v6 4,?_⟩;have ho6:=(ho4.upd hu5 fun y hy e=>by have e:y=h.size:=e;omega).upd hu6 fun y hy e=>by have e:y=h1.size:=e;omega
   exact hk h6 _ ⟨s4,rfl,ho6.sl fun y hy _ hw=>by have:=hW y hw;omega,ho6.cap⟩ (((k02.tr k4).own hu5 (al _)).own hu6 s1)
end Go.Proofs
namespace Go.Proofs
open Go Go.Lift
theorem vI{s:ByteArray}{m:Int}(hm:m≤5000){h:ad}{K:ByteArray→ad→Prop}(hk:∀s' h',s'.size≤5030→Upd No h h'→K s' h'):HC PG nD [.string s,.int .i64 m] [.c .str] K h:=by
 refine MI s m ?_;unfold EI;have e:(if 30<(s.size:Int)then(30:Int)else(s.size:Int))=((min s.size 30:Nat):Int):=by split<;>omega
 rw[e];refine⟨⟨by omega,by omega⟩,?_⟩
 simp only[Bd];rw[aJ];have z:(s.extract 0 (min s.size 30)).size≤30:=by rw[fq];omega
 refine ay (fun h0=>⟨⟨by omega,sS _,by omega,by omega⟩,?_⟩) fun _=>hk _ _ (by omega) (Upd.refl _ _)
 refine Px fun h2 k2 s3 e3 r3=>⟨s3,r3,by omega,hk _ h2 (by rw[ByteArray.size_append];omega) k2⟩
theorem KV(t:Tr):(nR t).length=6∧0<6:=⟨rfl,by omega⟩
theorem Lg(r:Rt):(tf r).length=5∧0<5:=⟨rfl,by omega⟩
theorem Ec{ty:TypeId}{M:Nat→Prop}{h:ad}{so:SliceV}{out:List Tr}{t:Tr}{b:Nat}{K:SliceV→ad→Prop}(ho:OwnS nR 6 ty M h so out)(hb:h[b]? =some (.cells (nR t).toArray ty (0,0))) (hM:∀y,h.size≤y→M y) (hn:out.length+1≤1000000)
  (hk:∀s' h',OwnS nR 6 ty M h' s' (out++ [t])→Upd M h h'→K s' h'):
  ∃xs,SRow h (some ⟨b,0,none⟩) (1*6) xs∧AppP (some (nR yL)) 6 48 ty so.a so.len so.cap 1 xs h K:=by
 have h1:OwnS nR 6 ty (fun _=>True) h ⟨some ⟨b,0,none⟩,1,1⟩ [t]:=⟨rfl,KV,al _,.inr ⟨b,[],rfl,trivial,by simpa using hb,rfl⟩⟩
 refine⟨_,(h1.sl (W:=No) fun _ _ _ h=>h).srow,?_⟩
 exact AppP.own (ys:= [t]) ho rfl rfl rfl rfl (by omega) (by simp only[aD];omega) (hM _ (al _)) hk
theorem Ed{ty:TypeId}{M:Nat→Prop}{h:ad}{so:SliceV}{out:List Rt}{t:Rt}{b:Nat}{K:SliceV→ad→Prop}(ho:OwnS tf 5 ty M h so out)(hb:h[b]? =some (.cells (tf t).toArray ty (0,0))) (hM:∀y,h.size≤y→M y) (hn:out.length+1≤1000000)
  (hk:∀s' h',OwnS tf 5 ty M h' s' (out++ [t])→Upd M h h'→K s' h'):
  ∃xs,SRow h (some ⟨b,0,none⟩) (1*5) xs∧AppP (some (tf Lh)) 5 56 ty so.a so.len so.cap 1 xs h K:=by
 have h1:OwnS tf 5 ty (fun _=>True) h ⟨some ⟨b,0,none⟩,1,1⟩ [t]:=⟨rfl,Lg,al _,.inr ⟨b,[],rfl,trivial,by simpa using hb,rfl⟩⟩
 refine⟨_,(h1.sl (W:=No) fun _ _ _ h=>h).srow,?_⟩
 exact AppP.own (ys:= [t]) ho rfl rfl rfl rfl (by omega) (by simp only[aD];omega) (hM _ (al _)) hk
abbrev Vr:=Tr×Rt×List Pr
end Go.Proofs
namespace Go.Proofs
open Go Go.Lift
end Go.Proofs
namespace Go.Proofs
open Go Go.Lift
end Go.Proofs
namespace Go.Proofs
open Go Go.Lift
end Go.Proofs
namespace Go.Proofs
open Go Go.Lift
end Go.Proofs
namespace Go.Proofs
open Go Go.Lift
end Go.Proofs
namespace Go.Proofs
open Go Go.Lift
end Go.Proofs
namespace Go.Proofs
open Go Go.Lift
def Uy(b o t:Option ByteArray)(p:Int):Option ByteArray×Bool:=if o=t∨t=b then(o,true)else if o=b then(t,true)else if p=1 then(o,false)else if p=2 then(t,false)else(b,false)
def tk(B O T:List Pr)(p:Int)(k:ByteArray):Option ByteArray×Bool:=Uy (look B k) (look O k) (look T k) p
end Go.Proofs
namespace Go.Proofs
open Go Go.Lift Go.Sort
abbrev QR:Value:=.func (.func vY) #[] #[]
def AQ(dec:Int→Ch)(i j:Int):Bool:=Vo (dec i) (dec j)
structure SA(dec:Int→Ch)(M:Nat→Prop)(s:SliceV)(h:ad)(d:Array Int):Prop where
 own:OwnS Vw 5 sY M h s (d.toList.map dec)
 small:d.size≤1000000000
 lt:∀b,M b→b<h.size
variable {dec:Int→Ch} {M:Nat→Prop} {s:SliceV} {h:ad} {d:Array Int}
theorem SA.len(hs:SA dec M s h d):s.len=d.size:=by have:=hs.own.len;simpa using this
theorem SA.upd0{h':ad}(hs:SA dec M s h d)(k:Upd No h h'):SA dec M s h' d:=⟨hs.own.upd k fun _ _ h=>h,hs.small,fun b hb=>aR (hs.lt b hb) k.size⟩
theorem SA.at(hs:SA dec M s h d){i:Nat}(hi:i<d.size):∃a,s.a=some a∧∀j v,(Vw (dec d[i]!))[j]? =some v→aE h (adr (adr a (((i:Int)).toNat*5)) j)=some v:=by
 have hx:(d.toList.map dec)[i]? =some (dec d[i]!):=by
  rw[List.getElem?_map,Array.getElem?_toList,Array.getElem?_eq_getElem hi,getElem!_pos d i hi];rfl
 obtain⟨a,ha,_,hv⟩:=(hs.own.sl (W:=No) fun _ _ _ h=>h).at hx
 exact⟨a,ha,by simpa using hv⟩
theorem SA.rd(hs:SA dec M s h d){t:Int}{i:Nat}(et:t=(i:Int))(hi:i<d.size){R:ByteArray→ByteArray→ByteArray→Bool→Bool→Prop}(hR:R (dec d[i]!).1 (dec d[i]!).2.1 (dec d[i]!).2.2.1 (dec d[i]!).2.2.2.1 (dec d[i]!).2.2.2.2):
  ((0:Int)≤t∧t<((s.len:Nat):Int))∧∃a:Addr,s.a=some a∧∃v1:ByteArray,aE h (adr (adr a (t.toNat*5)) 0)=some (.string v1)∧∃v2:ByteArray,aE h (adr (adr a (t.toNat*5)) 1)=some (.string v2)∧∃v3:ByteArray,aE h (adr (adr a (t.toNat*5)) 2)=some (.string v3)∧∃v4:Bool,aE h (adr (adr a (t.toNat*5)) 3)=some (.bool v4)∧∃v5:Bool,aE h (adr (adr a (t.toNat*5)) 4)=some (.bool v5)∧R v1 v2 v3 v4 v5:=by
 subst et;obtain⟨a,ha,hv⟩:=hs.at hi;exact⟨by rw[hs.len];omega,a,ha,_,hv 0 _ rfl,_,hv 1 _ rfl,_,hv 2 _ rfl,_,hv 3 _ rfl,_,hv 4 _ rfl,hR⟩
theorem SA.st(hs:SA dec M s h d){t:Int}{i:Nat}{x:Int}(et:t=(i:Int))(hi:i<d.size){R:ad→Prop}(hR:∀h',SA dec M s h' (d.setIfInBounds i x)→Upd M h h'→R h'):
  ((0:Int)≤t∧t<((s.len:Nat):Int))∧∃a:Addr,s.a=some a∧(rP h (some (adr a (t.toNat*5))) 0 [.string (dec x).1,.string (dec x).2.1,.string (dec x).2.2.1,.bool (dec x).2.2.2.1,.bool (dec x).2.2.2.2]∧At (g8 h (adr a (t.toNat*5)) 0 [.string (dec x).1,.string (dec x).2.1,.string (dec x).2.2.1,.bool (dec x).2.2.2.1,.bool (dec x).2.2.2.2]) R):=by
 subst et;obtain⟨a,ha,hM,hw,ho,hu⟩:=OwnS.setAt hs.own (k:=i) (by simpa using hi) (dec x);refine⟨by rw[hs.len];omega,a,ha,?_⟩;rw[aJ];have hu':Upd M h _:=hu.mono fun b hb=>.inl (by have hb:b=a.block:=hb;rw[hb];exact hM)
 refine⟨hw,bo (hR _ ⟨?_,by simpa using hs.small,fun b hb=>aR (hs.lt b hb) hu.size⟩ hu')⟩
 rw[show(d.setIfInBounds i x).toList.map dec=(d.toList.map dec).take i++dec x::(d.toList.map dec).drop (i+1) by
  rw[Array.toList_setIfInBounds,List.map_set,cQ,if_pos (by simpa using hi)]]
 exact ho
@[simp] theorem UB(d:Array Int)(i j:Nat):(swp d i j).size=d.size:=by simp[swp]
theorem SA.swap(hs:SA dec M s h d){ti tj:Int}{i j:Nat}(ei:ti=(i:Int))(ej:tj=(j:Int))(hi:i<d.size)(hj:j<d.size){R:ad→Prop}(hR:∀h',SA dec M s h' (swp d i j)→Upd M h h'→R h'):
  ((0:Int)≤tj∧tj<((s.len:Nat):Int))∧∃a:Addr,s.a=some a∧∃v1:ByteArray,aE h (adr (adr a (tj.toNat*5)) 0)=some (.string v1)∧∃v2:ByteArray,aE h (adr (adr a (tj.toNat*5)) 1)=some (.string v2)∧∃v3:ByteArray,aE h (adr (adr a (tj.toNat*5)) 2)=some (.string v3)∧∃v4:Bool,aE h (adr (adr a (tj.toNat*5)) 3)=some (.bool v4)∧∃v5:Bool,aE h (adr (adr a (tj.toNat*5)) 4)=some (.bool v5)∧
   (((0:Int)≤ti∧ti<((s.len:Nat):Int))∧∃a:Addr,s.a=some a∧∃w1:ByteArray,aE h (adr (adr a (ti.toNat*5)) 0)=some (.string w1)∧∃w2:ByteArray,aE h (adr (adr a (ti.toNat*5)) 1)=some (.string w2)∧∃w3:ByteArray,aE h (adr (adr a (ti.toNat*5)) 2)=some (.string w3)∧∃w4:Bool,aE h (adr (adr a (ti.toNat*5)) 3)=some (.bool w4)∧∃w5:Bool,aE h (adr (adr a (ti.toNat*5)) 4)=some (.bool w5)∧
    (((0:Int)≤ti∧ti<((s.len:Nat):Int))∧∃a:Addr,s.a=some a∧(rP h (some (adr a (ti.toNat*5))) 0 [.string v1,.string v2,.string v3,.bool v4,.bool v5]∧At (g8 h (adr a (ti.toNat*5)) 0 [.string v1,.string v2,.string v3,.bool v4,.bool v5]) (fun h1=>
     (((0:Int)≤tj∧tj<((s.len:Nat):Int))∧∃a:Addr,s.a=some a∧(rP h1 (some (adr a (tj.toNat*5))) 0 [.string w1,.string w2,.string w3,.bool w4,.bool w5]∧At (g8 h1 (adr a (tj.toNat*5)) 0 [.string w1,.string w2,.string w3,.bool w4,.bool w5]) R)))))):=by
 refine hs.rd ej hj (hs.rd ei hi (hs.st (x:=d[j]!) ei hi fun h1 hs1 k1=>hs1.st (x:=d[i]!) ej (by simpa using hj) fun h2 hs2 k2=>hR h2 hs2 (k1.tr k2)))
theorem SA.less(hs:SA dec M s h d){ti tj:Int}{i j:Nat}(ei:ti=(i:Int))(ej:tj=(j:Int))(hi:i<d.size)(hj:j<d.size){R:Int→ad→Prop}(hR:∀h' e,SA dec M s h' d→Upd No h h'→decide (e<0)=AQ dec d[i]! d[j]!→R e h'):
  ((0:Int)≤ti∧ti<((s.len:Nat):Int))∧∃a:Addr,s.a=some a∧∃v1:ByteArray,aE h (adr (adr a (ti.toNat*5)) 0)=some (.string v1)∧∃v2:ByteArray,aE h (adr (adr a (ti.toNat*5)) 1)=some (.string v2)∧∃v3:ByteArray,aE h (adr (adr a (ti.toNat*5)) 2)=some (.string v3)∧∃v4:Bool,aE h (adr (adr a (ti.toNat*5)) 3)=some (.bool v4)∧∃v5:Bool,aE h (adr (adr a (ti.toNat*5)) 4)=some (.bool v5)∧
   (((0:Int)≤tj∧tj<((s.len:Nat):Int))∧∃a:Addr,s.a=some a∧∃w1:ByteArray,aE h (adr (adr a (tj.toNat*5)) 0)=some (.string w1)∧∃w2:ByteArray,aE h (adr (adr a (tj.toNat*5)) 1)=some (.string w2)∧∃w3:ByteArray,aE h (adr (adr a (tj.toNat*5)) 2)=some (.string w3)∧∃w4:Bool,aE h (adr (adr a (tj.toNat*5)) 3)=some (.bool w4)∧∃w5:Bool,aE h (adr (adr a (tj.toNat*5)) 4)=some (.bool w5)∧
    HV PG QR [.agg #[.string v1,.string v2,.string v3,.bool v4,.bool v5],.agg #[.string w1,.string w2,.string w3,.bool w4,.bool w5]] [.c (.int .i64)] R h):=
 hs.rd ei hi (hs.rd ej hj ((UT M).call (dec d[i]!) (dec d[j]!) trivial fun h' e k he=>hR h' e (hs.upd0 k) k he))
end Go.Proofs
namespace Go.Proofs
open Go Go.Lift Go.Sort
variable {dec:Int→Ch} {M:Nat→Prop} {s:SliceV} {h:ad} {d:Array Int}
@[simp] theorem Rx(lt:Int→Int→Bool)(hi first root:Nat)(d:Array Int):(siftDown lt hi first root d).size=d.size:=by
 fun_induction siftDown lt hi first root d<;>simp_all
@[simp] theorem DQ(lt:Int→Int→Bool)(hi first:Nat):∀(k:Nat) (d:Array Int),(heapBuild lt hi first k d).size=d.size
 |0,d=>rfl
 |k+1,d=>by rw[heapBuild,DQ lt hi first k];simp
theorem S3{root hi first:Nat}(hs:SA dec M s h d)(hb:first+hi≤d.size){K:Unit→ad→Prop}(hk:∀h',SA dec M s h' (siftDown (AQ dec) hi first root d)→Upd M h h'→K () h')(hr:root≤1000000000):
  HC PG iu [.slice s.a s.len s.cap,.int .i64 root,.int .i64 hi,.int .i64 first,QR] [] K h:=by
 refine mI s root hi first QR ?_
 unfold iw bl cD aQ cd dT ni ES Cg;have hsm:=hs.small;refine LoopP.ghost (fun(g:Nat×Array Int) (t:Int) h'=>t=(g.1:Int)∧SA dec M s h' g.2∧g.2.size=d.size∧siftDown (AQ dec) hi first g.1 g.2=siftDown (AQ dec) hi first root d∧Upd M h h'∧g.1≤1000000000) (fun g=>hi-g.1) (root,d)
  ⟨rfl,hs,rfl,rfl,Upd.refl _ _,hr⟩ ?_
 rintro I ⟨i,d1⟩ t h1 ⟨ht,hs1,hz1,hr1,hu1,hi1⟩ hI;simp only at ht hs1 hz1 hr1 hi1;subst ht;have w1:IntKind.wrap .i64 (IntKind.wrap .i64 (2*(i:Int))+1)=((2*i+1:Nat):Int):=by rw[gr (x:=2*(i:Int)) (by omega),gr (by omega)];omega
 have w2:IntKind.wrap .i64 (((2*i+1:Nat):Int)+1)=((2*i+2:Nat):Int):=by rw[gr (by omega)];omega
 rw[w1];refine ay (fun hge=>?_) fun hlt=>?_
 ·refine hk _ ?_ hu1
  rw[←hr1,siftDown,dif_pos (by omega)];exact hs1
 ·have hlt:2*i+1<hi:=by omega
  refine Join.intro (fun t h'=>SA dec M s h' d1∧Upd No h1 h'∧∃c:Nat,t=(c:Int)∧c=if 2*i+2<hi∧(AQ dec) d1[first+(2*i+1)]! d1[first+(2*i+1)+1]! =true then 2*i+2 else 2*i+1) (fun R hR=>?_) ?_
  ·refine Join.intro (fun t h'=>SA dec M s h' d1∧Upd No h1 h'∧(t=true↔2*i+2<hi∧(AQ dec) d1[first+(2*i+1)]! d1[first+(2*i+1)+1]! =true)) (fun R2 hR2=>?_) ?_
   ·show CondP (decide (IntKind.wrap .i64 (((2*i+1:Nat):Int)+1)<(hi:Int))) _ _
    rw[w2];refine ay (fun h3=>?_) fun h3=>hR2 _ _ ⟨hs1,Upd.refl _ _,by simp;omega⟩
    show(((0:Int)≤IntKind.wrap .i64 ((first:Int)+((2*i+1:Nat):Int))∧_)∧_)
    refine hs1.less (i:=first+(2*i+1)) (j:=first+(2*i+1)+1) (by rw[gr (by omega)];omega) (by rw[gr (x:=(first:Int)+_) (by omega),gr (by omega)];omega) (by omega) (by omega) fun h4 e4 hs4 k4 he4=>hR2 _ _ ⟨hs4,k4,?_⟩
    rw[he4];simp;omega
   ·rintro t h' ⟨hs4,k4,htr⟩
    refine CondP.intro (fun h3=>?_) fun h3=>?_
    ·show R (IntKind.wrap .i64 (((2*i+1:Nat):Int)+1)) _
     rw[w2];exact hR _ _ ⟨hs4,k4,_,rfl,by rw[if_pos (htr.1 h3)]⟩
    ·exact hR _ _ ⟨hs4,k4,_,rfl,by rw[if_neg fun hh=>by rw[htr.2 hh]at h3;cases h3]⟩
  ·rintro t h' ⟨hs4,k4,c,rfl,hc⟩
   have hcb:c<hi∧i<c:=by rw[hc];split<;>omega
   refine hs4.less (i:=first+i) (j:=first+c) (by rw[gr (by omega)];omega) (by rw[gr (by omega)];omega) (by omega) (by omega) fun h5 e5 hs5 k5 he5=>?_
   have hu5:=hu1.tr (k4.tr k5).wide;rw[he5];have hstep:siftDown (AQ dec) hi first i d1=if !(AQ dec) d1[first+i]! d1[first+c]! then d1 else siftDown (AQ dec) hi first c (swp d1 (first+i) (first+c)):=by
    rw[siftDown,dif_neg (by omega)];by_cases hq:2*i+2<hi∧(AQ dec) d1[first+(2*i+1)]! d1[first+(2*i+1)+1]! =true
    ·rw[if_pos (by simp only[bm,decide_eq_true_iff];exact hq),dif_pos hq.1]
     rw[if_pos hq]at hc;rw[hc]
    ·rw[if_neg (by simp only[bm,decide_eq_true_iff];exact hq)]
     rw[if_neg hq]at hc;rw[hc]
   refine CondP.intro (fun h3=>?_) fun h3=>?_
   ·refine hk _ ?_ hu5
    rw[←hr1,hstep,if_pos h3];exact hs5
   ·refine hs5.swap (i:=first+i) (j:=first+c) (by rw[gr (by omega)];omega) (by rw[gr (by omega)];omega) (by omega) (by omega) fun h6 hs6 hu6=>?_
    refine hI (c,swp d1 (first+i) (first+c)) _ _ ⟨rfl,hs6,by simp[hz1],?_,hu5.tr hu6,by simp only;omega⟩ (by simp only;omega)
    rw[←hr1,hstep,if_neg (by rw[h3];simp)]
end Go.Proofs
namespace Go.Proofs
open Go Go.Lift Go.Sort
variable {dec:Int→Ch} {M:Nat→Prop} {s:SliceV} {h:ad} {d:Array Int}
end Go.Proofs
namespace Go.Proofs
open Go Go.Lift Go.Sort
variable {dec:Int→Ch} {M:Nat→Prop} {s:SliceV} {h:ad} {d:Array Int}
@[simp] theorem Dd(lt:Int→Int→Bool):∀(j:Nat) (d:Array Int),(shiftDown lt j d).size=d.size
 |0,d=>rfl
 |j+1,d=>by rw[shiftDown];split;rfl;rw[Dd lt j];simp
@[simp] theorem RV(lt:Int→Int→Bool)(e j:Nat)(d:Array Int):(shiftUp lt e j d).size=d.size:=by
 fun_induction shiftUp lt e j d<;>simp_all
theorem RA{a e:Nat}(hs:SA dec M s h d)(ha:a<e)(he:e≤d.size){K:Bool→ad→Prop}(hk:∀h',SA dec M s h' (partialInsertionSort (AQ dec) d a e).1→Upd M h h'→K (partialInsertionSort (AQ dec) d a e).2 h'):
  HC PG fu [.slice s.a s.len s.cap,.int .i64 a,.int .i64 e,QR] [.c .bool] K h:=by
 refine jc s a e QR ?_;unfold fw bl cD aQ cd dT ni ES Cg;have hsm:=hs.small;refine LoopP.ghost (fun(g:Nat×Nat×Array Int) (t:Int×Int) h'=>t.1=(g.2.1:Int)∧t.2=5-(g.1:Int)∧SA dec M s h' g.2.2∧g.2.2.size=d.size∧partialIns (AQ dec) a e g.1 g.2.1 g.2.2=partialInsertionSort (AQ dec) d a e∧Upd M h h'∧g.1≤5∧a<g.2.1∧g.2.1≤e) (fun g=>g.1) (5,a+1,d)
  ⟨by simp only;rw[gr (by omega)];rfl,by simp only;omega,hs,rfl,rfl,Upd.refl _ _,by simp,by simp,by simp only;omega⟩ ?_
 rintro I ⟨st,i0,d1⟩ ⟨t1,t2⟩ h1 ⟨ht1,ht2,hs1,hz1,hr1,hu1,hst,hai,hie⟩ hI;simp only at ht1 ht2 hs1 hz1 hr1 hst hai hie;subst ht1 ht2;refine ay (fun hlt=>?_) fun hge=>?_
 ·obtain⟨st,rfl⟩:∃k,st=k+1:=⟨st-1,by have:5-(st:Int)<5:=hlt;omega⟩
  refine Join.intro (fun t h'=>∃i2 d2,t=(i2:Nat)∧SA dec M s h' d2∧d2.size=d.size∧partialIns (AQ dec) a e st i2 d2=partialInsertionSort (AQ dec) d a e∧Upd M h h'∧a<i2∧i2≤e) (fun R hR=>?_) ?_
  ·refine LoopP.ghost (fun(i:Nat) (t:Int) h'=>t=(i:Int)∧SA dec M s h' d1∧Upd No h1 h'∧scanSorted (AQ dec) d1 e i=scanSorted (AQ dec) d1 e i0∧a<i∧i≤e) (fun i=>e-i) i0 ⟨rfl,hs1,Upd.refl _ _,rfl,hai,hie⟩ ?_
   rintro I2 i t h' ⟨rfl,hs2,k2,hsc,hai2,hie2⟩ hI2;refine Join.intro (fun c h''=>SA dec M s h'' d1∧Upd No h' h''∧(c=true↔i<e∧(AQ dec) d1[i]! d1[i-1]! =false)) (fun R2 hR2=>?_) ?_
   ·refine ay (fun hle=>?_) fun hgt=>hR2 _ _ ⟨hs2,Upd.refl _ _,by simp;omega⟩
    exact hs2.less (i:=i) (j:=i-1) rfl (by rw[gr (by omega)];omega) (by omega) (by omega) fun h3 e3 hs3 k3 he3=>hR2 _ _ ⟨hs3,k3,by rw[he3];simp;omega⟩
   ·rintro c h'' ⟨hs3,k3,hc⟩
    have huA:=hu1.tr (k2.tr k3).wide;refine CondP.intro (fun h2=>?_) fun h2=>?_
    ·have hh:=hc.1 h2
     refine hI2 (i+1) _ _ ⟨by rw[gr (by omega)];rfl,hs3,k2.tr k3,?_,by omega,by omega⟩ (by omega)
     rw[←hsc];conv=>rhs;rw[scanSorted]
     rw[if_pos (by simp[hh])]
    ·have hsi:scanSorted (AQ dec) d1 e i=i:=by
      rw[scanSorted,if_neg];intro hh;simp only[bm,decide_eq_true_iff,Bool.not_eq_eq_eq_not,Bool.not_true]at hh;rw[hc.2 hh]at h2;cases h2
     have hr2:=hr1;rw[partialIns]at hr2;simp only[←hsc,hsi]at hr2;refine CondP.intro (fun h3=>?_) fun h3=>?_
     ·have h3:i=e:=by
       have:(i:Int)=e:=by simpa using h3
       omega
      rw[if_pos h3]at hr2;rw[←hr2]at hk;exact hk _ hs3 huA
     ·have h3:i≠e:=fun e'=>by subst e';simp at h3
      rw[if_neg h3]at hr2;have we:IntKind.wrap .i64 ((e:Int)-(a:Int))=((e-a:Nat):Int):=by rw[gr (by omega)];omega
      show CondP (decide (IntKind.wrap .i64 ((e:Int)-(a:Int))<50)) _ _
      rw[we];refine ay (fun h4=>?_) fun h4=>?_
      ·rw[if_pos (by omega)]at hr2
       rw[←hr2]at hk;exact hk _ hs3 huA
      ·rw[if_neg (by omega)]at hr2
       have hi1:1≤i:=by omega
       refine hs3.swap (i:=i) (j:=i-1) rfl (by rw[gr (by omega)];omega) (by omega) (by omega) fun h5 hs5 hu5=>?_
       have hz5:(swp d1 i (i-1)).size=d.size:=by simp[hz1]
       generalize swp d1 i (i-1)=d5 at hs5 hz5 hr2;refine Join.intro (fun _ h'=>SA dec M s h' (if i-a≥2 then shiftDown (AQ dec) (i-1) d5 else d5)∧Upd M h h') (fun R3 hR3=>?_) ?_
       ·have wi:IntKind.wrap .i64 ((i:Int)-(a:Int))=((i-a:Nat):Int):=by rw[gr (by omega)];omega
        show CondP (decide (IntKind.wrap .i64 ((i:Int)-(a:Int))≥2)) _ _
        rw[wi];refine ay (fun h6=>?_) fun h6=>?_
        ·rw[if_pos (by omega)]at hR3
         refine LoopP.ghost (fun(g:Nat×Array Int) (t:Int) h'=>t=(g.1:Int)∧SA dec M s h' g.2∧g.2.size=d.size∧shiftDown (AQ dec) g.1 g.2=shiftDown (AQ dec) (i-1) d5∧Upd M h h'∧g.1<e) (fun g=>g.1) (i-1,d5)
          ⟨by rw[gr (by omega)];simp only;omega,hs5,hz5,rfl,huA.tr hu5,by simp only;omega⟩ ?_
         rintro I4 ⟨j,d6⟩ t h7 ⟨ht,hs7,hz7,hr7,hu7,hje⟩ hI4;simp only at ht hs7 hz7 hr7 hje;subst ht;refine ay (fun h8=>?_) fun h8=>?_
         ·obtain⟨j,rfl⟩:∃k,j=k+1:=⟨j-1,by omega⟩
          have e1:IntKind.wrap .i64 (((j+1:Nat):Int)-1)=(j:Int):=by rw[gr (by omega)];omega
          rw[shiftDown]at hr7;refine hs7.less (i:=j+1) (j:=j) rfl e1 (by omega) (by omega) fun hL eL hsL kL heL=>?_
          have huL:=hu7.tr kL.wide;rw[heL];refine CondP.intro (fun h9=>?_) fun h9=>?_
          ·rw[if_pos h9]at hr7
           exact hR3 _ _ ⟨by rw[←hr7];exact hsL,huL⟩
          ·rw[if_neg (by rw[h9];simp)]at hr7
           refine hsL.swap (i:=j+1) (j:=j) rfl e1 (by omega) (by omega) fun h10 hs10 hu10=>?_
           exact hI4 (j,swp d6 (j+1) j) _ _ ⟨e1,hs10,by simp[hz7],hr7,huL.tr hu10,by simp only;omega⟩ (by simp)
         ·have:j=0:=by omega
          subst this;exact hR3 _ _ ⟨by rw[←hr7];exact hs7,hu7⟩
        ·rw[if_neg (by omega)]at hR3
         exact hR3 _ _ ⟨hs5,huA.tr hu5⟩
       ·rintro _ h6 ⟨hs6,hu6⟩
        have hz6:(if i-a≥2 then shiftDown (AQ dec) (i-1) d5 else d5).size=d.size:=by split<;>simp[hz5]
        generalize (if i-a≥2 then shiftDown (AQ dec) (i-1) d5 else d5)=d6 at hs6 hz6 hr2
        have wi:IntKind.wrap .i64 ((e:Int)-(i:Int))=((e-i:Nat):Int):=by rw[gr (by omega)];omega
        show CondP (decide (IntKind.wrap .i64 ((e:Int)-(i:Int))≥2)) _ _
        rw[wi];refine ay (fun h7=>?_) fun h7=>?_
        ·rw[if_pos (by omega)]at hr2
         refine LoopP.ghost (fun(g:Nat×Array Int) (t:Int) h'=>t=(g.1:Int)∧SA dec M s h' g.2∧g.2.size=d.size∧shiftUp (AQ dec) e g.1 g.2=shiftUp (AQ dec) e (i+1) d6∧Upd M h h'∧1≤g.1∧g.1≤e) (fun g=>e-g.1) (i+1,d6)
          ⟨by rw[gr (by omega)];rfl,hs6,hz6,rfl,hu6,by simp,by simp only;omega⟩ ?_
         rintro I4 ⟨j,d7⟩ t h8 ⟨ht,hs8,hz8,hr8,hu8,hj1,hje⟩ hI4;simp only at ht hs8 hz8 hr8 hj1 hje;subst ht;refine ay (fun h9=>?_) fun h9=>?_
         ·have e1:IntKind.wrap .i64 ((j:Int)-1)=((j-1:Nat):Int):=by rw[gr (by omega)];omega
          rw[shiftUp,if_pos (by omega)]at hr8;refine hs8.less (i:=j) (j:=j-1) rfl e1 (by omega) (by omega) fun hL eL hsL kL heL=>?_
          have huL:=hu8.tr kL.wide;rw[heL];refine CondP.intro (fun h10=>?_) fun h10=>?_
          ·rw[if_pos h10]at hr8
           exact hR _ _ ⟨i,d7,rfl,hsL,hz8,by rw[hr8];exact hr2,huL,hai2,hie2⟩
          ·rw[if_neg (by rw[h10];simp)]at hr8
           refine hsL.swap (i:=j) (j:=j-1) rfl e1 (by omega) (by omega) fun h11 hs11 hu11=>?_
           exact hI4 (j+1,swp d7 j (j-1)) _ _ ⟨by rw[gr (by omega)];rfl,hs11,by simp[hz8],hr8,huL.tr hu11,by simp,by simp only;omega⟩ (by simp only;omega)
         ·rw[shiftUp,if_neg (by omega)]at hr8
          exact hR _ _ ⟨i,d7,rfl,hs8,hz8,by rw[hr8];exact hr2,hu8,hai2,hie2⟩
        ·rw[if_neg (by omega)]at hr2
         exact hR _ _ ⟨i,d6,rfl,hs6,hz6,hr2,hu6,hai2,hie2⟩
  ·rintro t h' ⟨i2,d2,rfl,hs2,hz2,hr2,hu2,hai2,hie2⟩
   exact hI (st,i2,d2) _ _ ⟨rfl,by simp only;rw[gr (by omega)];omega,hs2,hz2,hr2,hu2,by simp only;omega,hai2,hie2⟩ (by simp)
 ·have:st=0:=by have:¬5-(st:Int)<5:=hge;omega
  subst this;rw[partialIns]at hr1;rw[←hr1]at hk;exact hk _ hs1 hu1
end Go.Proofs
namespace Go.Proofs
open Go Go.Lift Go.Sort
variable {dec:Int→Ch} {M:Nat→Prop} {s:SliceV} {h:ad} {d:Array Int}
theorem Ve(x:Int):IntKind.wrap .u64 x=x%18446744073709551616:=by
 simp[IntKind.wrap,IntKind.bits,IntKind.signed]
theorem and_le_right(x:Int){m:Int}(h0:0≤m)(hm:m<18446744073709551616):0≤IntKind.wrap .u64 ((aq (IntKind.bits .u64) x&&&aq (IntKind.bits .u64) m).toNat:Int)∧IntKind.wrap .u64 ((aq (IntKind.bits .u64) x&&&aq (IntKind.bits .u64) m).toNat:Int)≤m:=by
 have h1:(aq (IntKind.bits .u64) x&&&aq (IntKind.bits .u64) m).toNat≤(aq (IntKind.bits .u64) m).toNat:=by
  rw[BitVec.toNat_and];exact Nat.and_le_right
 have h2:((aq (IntKind.bits .u64) m).toNat:Int)=m:=by
  show((aq 64 m).toNat:Int)=m
  rw[BitVec.toNat_ofInt];have:m%((2^64:Nat):Int)=m:=Int.emod_eq_of_lt h0 (by omega);rw[this];omega
 rw[Ve];omega
end Go.Proofs
namespace Go.Proofs
open Go Go.Lift Go.Sort
variable {dec:Int→Ch} {M:Nat→Prop} {s:SliceV} {h:ad} {d:Array Int}
end Go.Proofs
namespace Go.Proofs
open Go Go.Lift
end Go.Proofs
namespace Go.Proofs
open Go Go.Lift
end Go.Proofs
namespace Go.Proofs
open Go Go.Lift
theorem IY{W:Nat→Prop}{h:ad}{b:Nat}{l:List Pr}(t:RadAt W h b l)(hW:∀y,W y→y<h.size)(hr:cl l)(k:ByteArray){K:ByteArray×Bool→ad→Prop}
  (hk:∀h',Upd No h h'→K ((look l k).getD ⟨#[]⟩,(look l k).isSome) h'):HC PG vU [.pointer (some ⟨b,0,none⟩),.string k] [.c .str,.c .bool] K h:=by
 refine Ke (some ⟨b,0,none⟩) k ?_;unfold B5 bl cD aQ bC gZ kq kW C2;refine AG (.inr ⟨b,rfl,t⟩) hW fun h2 b2 t2 hu2 _=>?_
 obtain⟨w,F,r1,r2,r3⟩:=t2.ex;have hin:∀v,qg w F k.data.toList v↔look l k=some v:=fun v=>by
  rw[←iS,r3];constructor
  ·rintro⟨p,hp,e1,rfl⟩
   rw[←nH.1 e1];exact AR hr hp
  ·intro hp;exact⟨_,Ju hp,rfl,rfl⟩
 refine LoopP.ghost (fun(g:ByteArray×Nat×ByteArray×Option ByteArray×Fo) (t:ByteArray×Option Addr) h'=>t=(g.1,some ⟨g.2.1,0,none⟩)∧RxN W h' g.2.1 g.2.2.1 g.2.2.2.1 g.2.2.2.2∧fx g.2.2.2.2∧(∀v,qg g.2.2.2.1 g.2.2.2.2 g.1.data.toList v↔look l k=some v)∧Upd No h h') (fun g=>g.1.size) (k,b2,⟨#[]⟩,w,F) ⟨rfl,r1,r2,hin,hu2⟩ ?_
 clear hin r1 r2 r3 t2;rintro I ⟨kk,c,sl,w,F⟩ t h5 ⟨rfl,r,hc,hin,hu⟩ hI;simp only at r hc hin;simp only[iv];by_cases hk0:kk=⟨#[]⟩
 ·subst hk0
  refine ag.2 (IR r ?_);have e:look l k=w:=Option.ext fun v=>by
   rw[←hin v];constructor
   ·rintro(⟨_,h⟩|h)
    ·exact h
    ·exact absurd rfl (nu hc h)
   ·intro h;exact .inl ⟨rfl,h⟩
  rw[e]at hk;exact hk _ hu
 ·rw[decide_eq_false hk0]
  refine au.2 ?_;have hkne:kk.data.toList≠[]:=fun e=>hk0 (by cases kk;exact congrArg kF (iR.1 e))
  obtain⟨c0,hc0,hc0e⟩:=AV hkne;refine⟨c0,sS _,hc0,?_⟩;have hr0:=r;obtain⟨val,s,ow,ks,hb,_,hs,hcap,hF⟩:=r;have hL:=jm.1 hF;have hcan:=eC.1 hc;have none_of:(∀v,¬pe F kk.data.toList v)→K ((⟨#[]⟩:ByteArray),false) h5:=fun hno=>by
   have e:look l k=none:=by
    cases e:look l k with
    |none=>rfl
    |some v=>
     rcases(hin v).2 e with⟨h,_⟩|h
     ·exact absurd h hkne
     ·exact absurd h (hno v)
   rw[e]at hk;exact hk _ hu
  refine AH hr0 hc (c:=c0.toNat) (oT _) fun i ok hil hlo hhi hok=>?_
  rw[hc0e]at hlo hhi hok;cases ok with
  |false=>
   refine au.2 (none_of fun v hin=>?_)
   obtain⟨n',hn',e,_⟩:=pw hc hin;obtain⟨j,hj,rfl⟩:=bM hn';rcases bE j i with hl|hl
   ·have:=hlo j hj hl;omega
   ·have h1:=hhi j hj hl
    have h2:=hhi i (by omega) (al _);rcases bE i j with hl2|hl2
    ·have h3:=ci.1 hcan.1 i j (by omega) hj hl2
     omega
    ·have:i=j:=by omega
     subst this;have:=hok.2 ⟨hj,e⟩;cases this
  |true=>
   obtain⟨hi,hie⟩:=hok.1 rfl;refine ag.2 ⟨_,rfl,s,dA (i:=3) hb,?_⟩;obtain⟨kb,ksl,hki,hkl,hkn⟩:=hL.at hi;have hmem:F.toL[i]∈F.toL:=aU hi;have hcm:=hcan.2 _ hmem;obtain⟨a,ha,_,hvv⟩:=hs.at0 hki;have hslen:=hs.len;rw[hL.1]at hslen;have hin_m:∀v,pe F kk.data.toList v↔rN F.toL[i] kk.data.toList v:=fun v=>by
    constructor
    ·intro hin
     obtain⟨n',hn',e,hN⟩:=pw hc hin;rw[←uO hc hn' hmem (by omega)];exact hN
    ·intro hin;exact fB.2 ⟨_,hmem,hin⟩
   refine⟨⟨by simp only;omega,by simp only;omega⟩,a,ha,some ⟨kb,0,none⟩,hvv,_,rfl,?_⟩
   obtain⟨kval,kss,kow,kks,hkb,_⟩:=id hkn;generalize F.toL[i]=m at hkl hkn hcm hin_m hie;obtain⟨lab,wk,Fk⟩:=m;simp only at hkl hkn hcm hie hkb;refine⟨ksl,dA (i:=0) hkb,QP (fun rest hrest=>?_) fun hno=>?_⟩
   ·rw[hkl]at hrest
    have hlne:lab.length≠0:=fun e=>hcm.1 (aG.1 e)
    have hrl:rest.size<kk.size:=by
     rw[←jP rest,←jP kk,hrest,ae];omega
    refine ag.2 (hI (rest,kb,ksl,wk,Fk) _ _ ⟨rfl,hkn,hcm.2.2,fun v=>?_,hu⟩ hrl)
    rw[←hin v];constructor
    ·intro h;exact .inr ((hin_m v).2 ⟨_,hrest,h⟩)
    ·rintro(⟨h,_⟩|h)
     ·exact absurd h hkne
     ·obtain⟨r',e,hr'⟩:=(hin_m v).1 h
      simp only at e;rw[hrest]at e;rw[eh e];exact hr'
   ·rw[hkl]at hno
    refine au.2 (none_of fun v h=>?_)
    obtain⟨r',e,_⟩:=(hin_m v).1 h;exact hno r' e
theorem RS{W:Nat→Prop}{x:Hs}{h:ad}{kind:Int}{t:Tr}{l:List Pr}(i:TreeIs W h kind x t l)(hW:∀y,W y→y<h.size)(hr:cl l)(hn:l.length≤1000000)(k:ByteArray){K:Sd→ad→Prop}(hk:∀h',Upd No h h'→K ((look l k).getD ⟨#[]⟩,(look l k).isSome) h'):HC PG qo [Av t,.string k] [.c .str,.c .bool] K h:=by
 refine Co t k ?_;unfold vl bj cP aI tK qY kq qL;rcases i with⟨_,b,rfl,t⟩|⟨_,b,rfl,t⟩
 ·refine aL fun h1 b1 k1=>⟨_,vc b1 0,ag.2 ⟨_,mP b1 1 0,_,mP b1 1 1,_,mP b1 1 2,_,vc b1 4,?_⟩⟩
  exact JW (TrieAt.upd0 k1 t) (fun y hy=>aR (hW y hy) k1.size) hr hn k fun h2 k2=>hk h2 (k1.tr k2)
 ·refine aL fun h1 b1 k1=>⟨_,vc b1 0,au.2 ⟨_,vc b1 5,?_⟩⟩
  exact IY (t.upd0 k1) (fun y hy=>aR (hW y hy) k1.size) hr k fun h2 k2=>hk h2 (k1.tr k2)
end Go.Proofs
namespace Go.Proofs
open Go Go.Lift
end Go.Proofs
namespace Go.Proofs
open Go Go.Lift
end Go.Proofs
