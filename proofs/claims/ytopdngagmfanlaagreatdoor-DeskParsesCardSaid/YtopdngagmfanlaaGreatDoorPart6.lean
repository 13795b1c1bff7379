/- A part of the proof that the named laws of this program answer true, whatever the input. -/
import Derived.Test.YtopdngagmfanlaaGreatDoorPart5
import Derived.Test.YtopdngagmfanlaaGreatDoorPart3
import Derived.Sort.AssemblyPlain
open Array renaming toList_inj→kC
open BitVec renaming ofInt→aq
open Bool renaming and_eq_true→aJ
open ByteArray renaming mk→xy
open Go.IntKind renaming wrap→ac,bits→ag
open Int renaming toNat_natCast→ak,le_refl→vi
open List renaming length_append→ai,getElem_of_mem→dC,pairwise_iff_getElem→dE,getElem_mem→bV,length_eq_zero_iff→bj,append_cancel_left→iy,set_eq_take_append_cons_drop→dD
open Nat renaming lt_or_ge→cC,le_refl→au,lt_irrefl→j4,lt_of_lt_of_le→aO
open UInt8 renaming toNat_lt→ua
namespace Go.Proofs
open Go Go.Lift
theorem kg(s:ByteArray):s.data.toList.length=s.size:=by simp
theorem VO(a b:ByteArray):(a++b).data.toList=a.data.toList++b.data.toList:=by rw[ByteArray.data_append,Array.toList_append]
theorem Su{a b:ByteArray}{h:ad}{K:Bool→ad→Prop}(c:K (decide (b.data.toList<+:a.data.toList)) h):HC PG vr [.string a,.string b] [.c .bool] K h:=by
 refine IH a b ?_;unfold AG ez;refine Ec a b ?_;unfold wA ez;refine rl a b ?_;unfold kR;have j:=kg a;have i:=kg b;refine aF (fun g=>?_) fun d=>?_
 ·refine⟨⟨by omega,by omega⟩,?_⟩
  rw[di,ak];have e:decide (a.extract 0 b.size=b)=decide (b.data.toList<+:a.data.toList):=by
   rw[decide_eq_decide,←tI,Hi,List.prefix_iff_eq_take,i];exact eq_comm
  rw[e];exact c
 ·have e:decide (b.data.toList<+:a.data.toList)=false:=decide_eq_false fun f=>by
   have:=f.length_le;omega
  rw[e]at c;exact c
theorem Vs{a b:ByteArray}{h:ad}{K:ByteArray×Bool→ad→Prop}(g:∀s:ByteArray,a.data.toList=b.data.toList++s.data.toList→K (s,true) h)(f:(∀r,a.data.toList≠b.data.toList++r)→K (⟨#[]⟩,false) h):HC PG w8 [.string a,.string b] [.c .str,.c .bool] K h:=by
 refine Qv a b ?_;unfold HQ ez;refine Su ?_;have j:=kg a;have i:=kg b;by_cases c:b.data.toList<+:a.data.toList
 ·rw[decide_eq_true c]
  have d:=c.length_le;refine af.2 ⟨⟨by omega,by omega⟩,?_⟩
  rw[ak];refine g _ ?_;rw[Hj];obtain⟨r,e⟩:=c;rw[←e,←i,List.drop_left]
 ·rw[decide_eq_false c]
  exact aA.2 (f fun r e=>c ⟨r,e.symm⟩)
def Z8(W:Nat→Prop)(h:ad)(r:Option Addr)(o:Option Bn):Prop:=(r=none∧o=none)∨∃b sl m,r=some ⟨b,0,none⟩∧o=some m∧sl.data.toList=m.1∧RxN W h b sl m.2.1 m.2.2
theorem Se{W:Nat→Prop}{h:ad}{b:Nat}{sl:ByteArray}{w:Option ByteArray}{F:Fo}(r:RxN W h b sl w F)(Z:∀y,W y→y<h.size)(hc:jV F)(B:sl.data.toList≠[])(hs1:sl.size≤1000000)(Y:∀k v,uD F k v→k.length≤1000000)
  {K:Option Addr→ad→Prop}(Q:∀h' r o,Upd No h h'→Xs (sl.data.toList,w,F) o→Z8 W h' r o→K r h'):HC PG px [.pointer (some ⟨b,0,none⟩),.pointer none] [.c .ptr] K h:=by
 refine CS _ none ?_;unfold uN bf cU bP cJ bT nN iY;have hr:=r;obtain⟨val,s,ow,ks,p,hv,hs,hcap,hF⟩:=r;have hL:=mM.1 hF;have hn:=zU hc;have c:=hs.len;rw[hL.1]at c;refine Join.intro (fun t h'=>t=decide (w.isSome∨2≤F.toL.length)∧h'=h) (fun R hR=>⟨_,rfl,w.isSome,gq (i:=1) p,?_⟩) ?_
 ·cases w with
  |some v=>exact aA.2 (hR _ _ ⟨rfl,rfl⟩)
  |none=>
   refine af.2 ⟨_,rfl,s,gq (i:=3) p,hR _ _ ⟨?_,rfl⟩⟩;rw[decide_eq_decide];constructor
   ·intro h;exact .inr (by omega)
   ·rintro(h|h)
    ·cases h
    ·omega
 ·rintro t h' ⟨rfl,rfl⟩
  refine aF (fun m=>?_) fun m=>?_
  ·exact Q h' _ _ (Upd.refl _ _) (SG B hc m) (.inr ⟨b,sl,_,rfl,rfl,rfl,hr⟩)
  ·have I:w=none:=by
    cases w with
    |none=>rfl
    |some v=>exact absurd (.inl rfl) m
   subst I;have X:F.toL.length<2:=by
    rcases cC F.toL.length 2 with h|h
    ·exact h
    ·exact absurd (.inr h) m
   refine⟨_,rfl,s,gq (i:=3) p,?_⟩;match hFL:F.toL,X with
   | [],_=>
    rw[hFL]at c;have e:((s.len:Int)==(0:Int))=true:=by rw[beq_iff_eq,c];rfl
    rw[e];exact aA.2 (Q h' _ _ (Upd.refl _ _) (SH hFL) (.inl ⟨rfl,rfl⟩))
   | [(lk,wk,Fk)],_=>
    rw[hFL]at c;have e:((s.len:Int)==(0:Int))=false:=by rw[beq_eq_false_iff_ne,c];simp
    rw[e];have d:(lk,wk,Fk)∈F.toL:=by rw[hFL];exact List.mem_singleton.2 rfl
    have G:=(eX.1 hc).2 _ d;have h0:0<F.toL.length:=by rw[hFL];exact Nat.one_pos
    obtain⟨kb,f,T,g,n⟩:=hL.at h0;have e0:F.toL[0]=(lk,wk,Fk):=by simp only[hFL];rfl
    rw[e0]at g n;simp only at g n;obtain⟨a,ha,_,L⟩:=hs.at0 T;obtain⟨q,kss,kow,N,S,H,z,U,A⟩:=n;have J:=mM.1 A;have E:=zU G.2.2;refine af.2 ⟨_,rfl,s,gq (i:=3) p,⟨by omega,by rw[c];simp⟩,a,ha,some ⟨kb,0,none⟩,L,?_⟩
    refine ph S z (by rw[J.1];exact E) fun h1 s1 b1 P u=>?_
    obtain⟨rr,vv,O⟩:=vZ hc _ d;have V:=Y (lk++rr) vv (iR.2 ⟨_,d,rr,rfl,O⟩);rw[ai]at V;have hlkl:lk.length=f.size:=by rw[←g];exact kg f
    refine⟨_,rfl,sl,gq (i:=0) (u.get0 p),_,rfl,f,gq (i:=0) b1,by omega,?_⟩
    have hbl:b<h'.size:=bB p;refine wS b1 fun m b2 C=>?_
    have j:Upd No h' m:=u.own C (au _);have D:=P.upd C fun x hx e=>by have e:x=h'.size:=e;have:=hx.1;omega
    refine Q m _ _ j (US B hc hFL) (.inr ⟨h'.size,sl++f,_,rfl,rfl,by rw[←g];exact VO sl f,⟨q,s1,none,N,b2,H,D.sl (fun x hx _ I=>by have:=Z _ I;have:=hx.1;omega),⟨D.cap,fun hx=>j4 _ (Z _ hx)⟩,RxF.upd0 j A⟩⟩)
set_option maxHeartbeats 1000000 in
theorem Uq{W:Nat→Prop}:∀(n:Nat) {b:Nat} {sl:ByteArray} {w:Option ByteArray} {F:Fo} {h:ad} (k:ByteArray),k.size<n→RxN W h b sl w F→(∀y,W y→y<h.size)→jV F→(∀j v,uD F j v→j.length≤1000000)→∀{K:(Option Addr)×Bool→ad→Prop},
  (∀h' b' w' F' z,Upd No h h'→RxN W h' b' sl w' F'→jV F'→vg (ww w F) (ww w' F') k.data.toList→(z=false→b'=b∧∀v,¬ww w F k.data.toList v)→(z=true→∃v,ww w F k.data.toList v)→K (some ⟨b',0,none⟩,z) h')→
  HC PG lS [.pointer (some ⟨b,0,none⟩),.pointer none,.string k] [.c .ptr,.c .bool] K h:=by
 intro n;induction n with
 |zero=>intro b sl w F h k hk;omega
 |succ n ih=>
  intro b sl w F h k hkn r hW hc hbd K hk;refine CU (some ⟨b,0,none⟩) none k ?_;unfold uP bf cU OZ bP cJ ez bM bT iY Fj Mf;have hr:=r;obtain⟨val,s,ow,ks,hb,hv,hs,hcap,hF⟩:=r;have hL:=mM.1 hF;have hn:=zU hc;have hcan:=eX.1 hc;have t:∀{h':ad},Upd No h h'→(∀v,¬ww w F k.data.toList v)→K (some ⟨b,0,none⟩,false) h':=fun hu C=>hk _ b w F false hu (hr.upd0 hu) hc (Qe C) (fun _=>⟨rfl,C⟩) fun h=>by cases h
  rw[di];refine aF (fun hk0=>?_) fun hk0=>?_
  ·have hke:k.data.toList= []:=by rw[hk0]
   rw[hke]at hk t;refine⟨_,rfl,w.isSome,gq (i:=1) hb,?_⟩;cases L:w with
   |none=>
    refine aA.2 (t (Upd.refl _ _) fun v d=>?_)
    rcases d with⟨_,h⟩|h
    ·rw[L]at h;cases h
    ·exact absurd rfl (DZ hc h)
   |some u=>
    refine af.2 (ph hb hs (by rw[hL.1];exact hn) fun h1 s1 b1 ho1 hu1=>?_)
    refine⟨_,rfl,V8 (i:=1) b1 (show 1<5 by decide),Ie (i:=1) (c':=GA sl false val s1 none) b1 rfl fun Q b2 o=>?_⟩
    refine⟨_,rfl,V8 (i:=2) b2 (show 2<5 by decide),Ie (i:=2) (c':=GA sl false ⟨#[]⟩ s1 none) b2 rfl fun h3 b3 A=>?_⟩
    have G:Upd No h h3:=hu1.own (o.tr A) (au _);have X:=ho1.upd (o.tr A) fun x hx e=>by have e:x=h.size:=e;have:=hx.1;omega
    refine hk h3 h.size none F true G ⟨⟨#[]⟩,s1,none,ks,b3,rfl,X.sl (fun x hx _ L=>by have:=hW _ L;have:=hx.1;omega),⟨X.cap,fun hx=>j4 _ (hW _ hx)⟩,RxF.upd0 G hF⟩ hc (Qd hc) (fun h=>by cases h) fun _=>⟨u,.inl ⟨rfl,L⟩⟩
  ·have p:k.data.toList≠[]:=fun e=>hk0 (by cases k;exact congrArg xy (kC.1 e))
   obtain⟨c0,hc0,hc0e⟩:=Lk p;refine⟨c0,vi _,hc0,?_⟩;have hlk:k.data.toList.length=k.size:=kg k;refine DJ hr hc (c:=c0.toNat) (ua _) fun i ok Z hlo hhi hok=>?_
   rw[hc0e]at hlo hhi hok;cases ok with
   |false=>
    refine aA.2 (t (Upd.refl _ _) fun v d=>?_)
    rcases d with⟨h,_⟩|d
    ·exact p h
    ·obtain⟨n',hn',e,_⟩:=yB hc d
     obtain⟨j,hj,rfl⟩:=dC hn';rcases cC j i with hl|hl
     ·have:=hlo j hj hl;omega
     ·have h1:=hhi j hj hl
      have Q:=hhi i (by omega) (au _);rcases cC i j with hl2|hl2
      ·have h3:=dE.1 hcan.1 i j (by omega) hj hl2
       omega
      ·have:i=j:=by omega
       subst this;have:=hok.2 ⟨hj,e⟩;cases this
   |true=>
    obtain⟨hi,Y⟩:=hok.1 rfl;refine af.2 ⟨_,rfl,s,gq (i:=3) hb,?_⟩;obtain⟨kb,ksl,hki,B,H⟩:=hL.at hi;have E:F.toL[i]∈F.toL:=bV hi;have N:=hcan.2 _ E;obtain⟨a,ha,_,hvv⟩:=hs.at0 hki;have hslen:=hs.len;rw[hL.1]at hslen;have hlt1:(i:Int)<((s.len:Nat):Int):=by omega
    refine⟨⟨by simp only;omega,hlt1⟩,a,ha,some ⟨kb,0,none⟩,hvv,_,rfl,?_⟩;obtain⟨kval,kss,kow,kks,hkb,_⟩:=id H;have D:∀v,uD F k.data.toList v→yd F.toL[i] k.data.toList v:=fun v d=>by
     obtain⟨n',hn',e,hN⟩:=yB hc d;rw[←zT hc hn' E (by omega)];exact hN
    have q:∀j v,yd F.toL[i] j v→uD F j v:=fun j v d=>iR.2 ⟨_,E,d⟩
    have g:∀{m:Bn},Tu m→hd m.1=hd F.toL[i].1→jV (.ofL (F.toL.set i m)):=fun h1 Q=>RC hc hi h1 Q
    have P:∀{m:Bn},vg (yd F.toL[i]) (yd m) k.data.toList→vg (uD F) (uD (.ofL (F.toL.set i m))) k.data.toList:=fun hp=>S0 hc hi Y hp
    have O:(∀k' v',yd F.toL[i] k' v'→k'=k.data.toList)→vg (uD F) (uD (.ofL (F.toL.take i++F.toL.drop (i+1)))) k.data.toList:=fun hp=>S3 hc hi Y hp
    have hrset:∀{h':ad} {k':Option Addr} {m:Bn},Upd No h h'→Kid W h' k' m→RxL W h' (ks.set i k') (F.toL.set i m):=fun hu hkd=>(hL.upd0 hu).set hi hkd
    generalize F.toL[i]=m at B H N D q g P O Y;obtain⟨lab,wk,Fk⟩:=m;simp only at B H N Y g;refine⟨ksl,gq (i:=0) hkb,Vs (fun R f=>?_) fun C=>?_⟩
    ·rw[B]at f
     have hlne:lab.length≠0:=fun e=>N.1 (bj.1 e)
     have hrl:R.size<k.size:=by
      rw[←kg R,←hlk,f,ai];omega
     refine af.2 ⟨_,rfl,s,gq (i:=3) hb,⟨by simp only;omega,hlt1⟩,a,ha,some ⟨kb,0,none⟩,hvv,?_⟩;have hkbd:∀j v,uD Fk j v→j.length≤1000000:=fun j v d=>by
      have:=hbd _ v (q (lab++j) v ⟨j,rfl,.inr d⟩);rw[ai]at this;omega
     refine ih R (by omega) H hW N.2.2 hkbd fun Q b2 w2 F2 z o rn2 hc2 hd2 hg0 hg1=>?_
     cases z with
     |false=>
      refine aA.2 (t o fun v d=>?_)
      rcases d with⟨h,_⟩|d
      ·exact p h
      ·obtain⟨r',e,hr'⟩:=D v d
       simp only at e;rw[f]at e;exact(hg0 rfl).2 v (by rw[iy e];exact hr')
     |true=>
      obtain⟨v0,hv0⟩:=hg1 rfl;have I:∃v,ww w F k.data.toList v:=⟨v0,.inr (q _ _ ⟨_,f,hv0⟩)⟩;have hdn:vg (yd (lab,wk,Fk)) (yd (lab,w2,F2)) k.data.toList:=by
       rw[f];exact Qf hd2
      refine af.2 (ph (o.get0 hb) (hs.upd o fun _ h=>h.elim) (by rw[hL.1];exact hn) fun h3 s3 b3 X A=>?_)
      have G:=o.tr A;obtain⟨rr,vv,d⟩:=vZ hc _ E;have hlb:lab.length≤1000000:=by
       have:=hbd _ v0 (q _ _ ⟨_,f,hv0⟩);rw[f,ai]at this;omega
      have hb2:∀j v,uD F2 j v→j.length≤1000000:=fun j v d=>by
       rcases((hd2 j v).1 (.inr d)).2 with⟨e,_⟩|h
       ·rw[e];simp
       ·exact hkbd j v h
      refine Se (W:=Pro W Q h3) ((rn2.less Pro.hm).upd0 A) (Pro.lt (fun y hy=>aO (hW y hy) o.size) A) hc2 (by rw[B];exact N.1) (by rw[←kg ksl,B];exact hlb) hb2 fun h4 r4 o4 V hm4 hr4=>?_
      rw[B]at hm4;have b4:=V.get0 b3;have ho4:=X.upd V fun _ _ h=>h
      have hu04:=G.tr V;have hz2:h.size≤Q.size:=o.size;have Z:i<ks.length:=by rw[hL.1];exact hi
      have hlen4:=ho4.len;rcases hr4 with⟨rfl,rfl⟩|⟨U,sl4,m4,rfl,rfl,hsl4,rn4⟩
      ·rcases hm4 with⟨_,C⟩|⟨_,e,_⟩
       ·have ew:ac .i64 ((i:Int)+1)=((i+1:Nat):Int):=by rw[kD (by omega)];omega
        refine aA.2 ⟨_,rfl,s3,gq (i:=3) b4,?_⟩;simp only;rw[ew];refine Qh ho4 Z (by rw[hL.1];omega) fun s5 h5 S J=>?_
        have b5:=J.get b4 fun hx=>by have:=hx.1;omega
        refine⟨_,rfl,V8 (i:=3) b5 (show 3<5 by decide),Ie (i:=3) (c':=GA sl w.isSome val s5 none) b5 rfl fun h6 b6 hu6=>?_⟩
        have T:Upd No h h6:=(hu04.trans J fun x hx=>.inr (by have:=hx.1;omega)).own hu6 hz2
        have ho6:=S.upd hu6 fun x hx e=>by have e:x=Q.size:=e;have:=hx.1;omega
        refine hk h6 Q.size w _ true T ⟨val,s5,none,_,b6,hv,ho6.sl (fun x hx _ L=>by have:=hW _ L;have:=hx.1;omega),⟨ho6.cap,fun hx=>by have:=hW _ hx;omega⟩,mM.2 (by rw[Fo.to_of];exact((hL.upd0 T).take i).app ((hL.upd0 T).drop (i+1)))⟩ (Xj hc) (Hn p (O fun k' v' hN=>?_)) (fun h=>by cases h) fun _=>I
        refine Classical.byContradiction fun hne=>C k' v' ((hdn k' v').2 ⟨hne,hN⟩)
       ·cases e
      ·rcases hm4 with⟨e,_⟩|⟨m',e,hcn,hhd,hiff⟩
       ·cases e
       ·cases e
        obtain⟨a3,ha3,hab,hw3,S,J⟩:=OwnS.setAt ho4 Z (some ⟨U,0,none⟩);refine af.2 ⟨_,rfl,s3,gq (i:=3) b4,⟨by simp only;omega,by simp only;omega⟩,a3,ha3,?_⟩
        have hw1:Wr h4 (adr a3 (i*1)):=by
         rcases hw3 with L|⟨b',hb',L⟩
         ·cases L
         ·cases hb';exact L 0 (by simp)
        refine⟨hw1,bi ?_⟩;have b5:=J.get b4 fun e=>by have e:Q.size=a3.block:=e;have:=hab.1;omega
        have hu45:Upd No Q _:=(A.tr V).trans J fun x hx=>.inr (by have hx:x=a3.block:=hx;have:=hab.1;omega)
        have hu05:=o.tr hu45;have eset:ks.set i (some ⟨U,0,none⟩)=ks.take i++some ⟨U,0,none⟩::ks.drop (i+1):=by rw[dD,if_pos Z]
        rw[←eset]at S;have rn5:=(rn4.updM (M:=(· =a3.block)) J fun y hy=>.inl (.inr (by have hy:y=a3.block:=hy;have:=hab.1;have:=hab.2;omega))).less (W':=W) fun y hy=>.inl (.inl hy)
        exact hk _ Q.size w _ true hu05 ⟨val,s3,none,_,b5,hv,S.sl (fun x hx _ L=>by have:=hW _ L;have:=hx.1;omega),⟨S.cap,fun hx=>by have:=hW _ hx;omega⟩,mM.2 (by rw[Fo.to_of];exact hrset hu05 ⟨U,sl4,rfl,hsl4,rn5⟩)⟩ (g hcn hhd) (Hn p (P fun k' v'=>by rw[hiff k' v'];exact hdn k' v')) (fun h=>by cases h) fun _=>I
    ·rw[B]at C
     refine aA.2 (t (Upd.refl _ _) fun v d=>?_)
     rcases d with⟨h,_⟩|d
     ·exact p h
     ·obtain⟨r',e,_⟩:=D v d
      exact C r' e
end Go.Proofs
namespace Go.Proofs
open Go Go.Lift
theorem Sk{w:Option ByteArray}{F:Fo}{l:List Pr}(h:∀k v,(k,v)∈UE w F↔∃p∈l,p.1.data.toList=k∧p.2=v)(a:Fit l):∀j v,uD F j v→j.length≤1000000:=fun j v hi=>by
 obtain⟨p,b,e,_⟩:=(h j v).1 (qS.2 (.inr hi));have:=(a p b).1;rw[←e,kg];omega
theorem KO{W:Nat→Prop}{h:ad}{b:Nat}{l:List Pr}(t:RadAt W h b l)(D:∀y,W y→y<h.size)(J:Fit l)(k:ByteArray){K:Option Addr×Bool→ad→Prop}
  (P:∀h' b',Upd No h h'→RadAt W h' b' (oZ k l)→(cG l k=false→b'=b)→K (some ⟨b',0,none⟩,cG l k) h'):
  HC PG xb [.pointer none,.pointer (some ⟨b,0,none⟩),.string k] [.c .ptr,.c .bool] K h:=by
 refine LN none (some ⟨b,0,none⟩) k ?_;unfold Dc Fj;refine DI (.inr ⟨b,rfl,t⟩) D fun R b2 E i n=>?_
 have x:b2=b:=by
  rcases n with e|e
  ·cases e;rfl
  ·cases e
 subst x;obtain⟨w,F,N,O,A⟩:=E.ex;refine Uq (k.size+1) k (by omega) N (fun y H=>aO (D y H) i.size) O (Sk A J) fun Q b3 w' I a o s u z f B=>?_
 have g:∀v,ww w F k.data.toList v↔(k,v)∈l:=fun v=>by
  rw[←qS,A];constructor
  ·rintro⟨p,C,e1,rfl⟩
   rw[←tI.1 e1];exact C
  ·intro C;exact⟨_,C,rfl,rfl⟩
 have m:a=cG l k:=by
  cases a with
  |false=>
   refine(Ng fun q d e=>(f rfl).2 q.2 ((g _).2 ?_)).symm
   rw[←e];exact d
  |true=>
   obtain⟨v,G⟩:=B rfl;exact(List.any_eq_true.2 ⟨_,(g v).1 G,decide_eq_true rfl⟩).symm
 subst m;refine P Q b3 (i.tr o) ⟨w',I,s,u,fun j v=>?_⟩ fun L=>(f L).1
 rw[qS,z j v,←qS,A];constructor
 ·rintro⟨c,q,d,rfl,rfl⟩
  exact⟨q,Rm.2 ⟨d,fun e=>c (by rw[e])⟩,rfl,rfl⟩
 ·rintro⟨q,d,rfl,rfl⟩
  obtain⟨d,c⟩:=Rm.1 d;exact⟨fun e=>c (tI.1 e),q,d,rfl,rfl⟩
theorem Mv{W:Nat→Prop}{x:Hs}{h:ad}{kind:Int}{t:Tr}{l:List Pr}(i:TreeIs W h kind x t l)(hW:∀y,W y→y<h.size)(hr:eY l)(hf:Fit l)(hn:l.length≤1000000)(k:ByteArray)(P:k.size≤256){K:Tr×Int→ad→Prop}
  (H:∀h' j,TreeIs W h' kind x j (oZ k l)→(cG l k=false→j=t)→Upd No h h'→K (j,if cG l k then 0 else 4) h'):HC PG nt [RU t,.pointer none,.string k] [.agg [.int .i64,.int .u64,.int .u64,.int .u64,.ptr,.ptr],.c (.int .i64)] K h:=by
 refine Ae t none k ?_;unfold sh aj fx nv ez bM rD ae ao qc mP hG xT Fj;refine cH fun d b1 k1=>cH fun s b2 J=>?_
 have z1:=bB b1;have z2:=bB b2;have Y:h.size≤d.size:=k1.size;have U:=k1.tr J;refine Jy (v:=⟨#[]⟩) P (Nat.zero_le 4096) (af.2 ?_);have c1:=J.get0 b1;refine⟨_,vc c1 0,_,vc c1 1,_,vc c1 2,_,vc c1 3,_,vc c1 4,_,vc c1 5,?_⟩;refine cH fun h3 b3 X=>?_
 have z3:=bB b3;have s2:d.size≤s.size:=J.size;refine dd (c:=pU Dx) (vs:=pU t) b3 rfl fun F V A=>?_
 have w:Upd No h F:=(U.tr X).own A (by omega);have C:Upd No s F:=X.own A (au _);have s4:h3.size≤F.size:=A.size;have u:=C.get0 c1;have d4:=C.get0 b2;have i4:=i.pro w;have E:=Pro.lt hW w;have O:∀{a:ad} {j:Tr},Upd No h a→a[h.size]? =some (.cells (pU j).toArray cg (0,0))→a[d.size]? =some (.cells (pU Dx).toArray cg (0,0))→a[s.size]? =some (.cells (pU t).toArray cg (0,0))→TreeIs (Pro W h F) a kind x j (oZ k l)→(cG l k=false→j=t)→
   CondP (!cG l k) (∃v41:Int,aD a (adr (aH s) 0)=some (.int .i64 v41)∧
    ∃v42:Int,aD a (adr (aH s) 1)=some (.int .u64 v42)∧
    ∃v43:Int,aD a (adr (aH s) 2)=some (.int .u64 v43)∧
    ∃v44:Int,aD a (adr (aH s) 3)=some (.int .u64 v44)∧
    ∃v45:Option Addr,aD a (adr (aH s) 4)=some (.pointer v45)∧
    ∃v46:Option Addr,aD a (adr (aH s) 5)=some (.pointer v46)∧
    (sN a (some (aH d)) 0 [.int .i64 v41,.int .u64 v42,.int .u64 v43,.int .u64 v44,.pointer v45,.pointer v46]∧
     At (ib a (aH d) 0 [.int .i64 v41,.int .u64 v42,.int .u64 v43,.int .u64 v44,.pointer v45,.pointer v46]) (fun n=>
      ∃v48:Int,aD n (adr (aH d) 0)=some (.int .i64 v48)∧
      ∃v49:Int,aD n (adr (aH d) 1)=some (.int .u64 v49)∧
      ∃v50:Int,aD n (adr (aH d) 2)=some (.int .u64 v50)∧
      ∃v51:Int,aD n (adr (aH d) 3)=some (.int .u64 v51)∧
      ∃v52:Option Addr,aD n (adr (aH d) 4)=some (.pointer v52)∧
      ∃v53:Option Addr,aD n (adr (aH d) 5)=some (.pointer v53)∧
      K ((v48,v49,v50,v51,v52,v53),4) n))) (
    ∃v54:Int,aD a (adr (aH h) 0)=some (.int .i64 v54)∧
    ∃v55:Int,aD a (adr (aH h) 1)=some (.int .u64 v55)∧
    ∃v56:Int,aD a (adr (aH h) 2)=some (.int .u64 v56)∧
    ∃v57:Int,aD a (adr (aH h) 3)=some (.int .u64 v57)∧
    ∃v58:Option Addr,aD a (adr (aH h) 4)=some (.pointer v58)∧
    ∃v59:Option Addr,aD a (adr (aH h) 5)=some (.pointer v59)∧
    (sN a (some (aH d)) 0 [.int .i64 v54,.int .u64 v55,.int .u64 v56,.int .u64 v57,.pointer v58,.pointer v59]∧
     At (ib a (aH d) 0 [.int .i64 v54,.int .u64 v55,.int .u64 v56,.int .u64 v57,.pointer v58,.pointer v59]) (fun m=>
      ∃v61:Int,aD m (adr (aH d) 0)=some (.int .i64 v61)∧
      ∃v62:Int,aD m (adr (aH d) 1)=some (.int .u64 v62)∧
      ∃v63:Int,aD m (adr (aH d) 2)=some (.int .u64 v63)∧
      ∃v64:Int,aD m (adr (aH d) 3)=some (.int .u64 v64)∧
      ∃v65:Option Addr,aD m (adr (aH d) 4)=some (.pointer v65)∧
      ∃v66:Option Addr,aD m (adr (aH d) 5)=some (.pointer v66)∧
      K ((v61,v62,v63,v64,v65,v66),0) m))):=fun{a j} I z e1 e2 G e=>by
  cases B:cG l k with
  |false=>
   rw[B]at H e;have L:=e rfl;subst L;refine aA.2 ⟨_,vc e2 0,_,vc e2 1,_,vc e2 2,_,vc e2 3,_,vc e2 4,_,vc e2 5,?_⟩;refine dd (c:=pU Dx) (vs:=pU j) e1 rfl fun S o q=>?_
   refine⟨_,vc o 0,_,vc o 1,_,vc o 2,_,vc o 3,_,vc o 4,_,vc o 5,?_⟩;exact H S j ((G.updM q (fun y p=>.inl (.inr (by have p:y=d.size:=p;omega)))).less Pro.sub) (fun _=>rfl) (I.own q Y)
  |true=>
   rw[B]at H e;refine af.2 ⟨_,vc z 0,_,vc z 1,_,vc z 2,_,vc z 3,_,vc z 4,_,vc z 5,?_⟩;refine dd (c:=pU Dx) (vs:=pU j) e1 rfl fun S o q=>?_
   refine⟨_,vc o 0,_,vc o 1,_,vc o 2,_,vc o 3,_,vc o 4,_,vc o 5,?_⟩;exact H S j ((G.updM q (fun y p=>.inl (.inr (by have p:y=d.size:=p;omega)))).less Pro.sub) (fun h=>by cases h) (I.own q Y)
 refine Join.intro (fun tk a=>tk=cG l k∧Upd No h a∧∃j,a[h.size]? =some (.cells (pU j).toArray cg (0,0))∧a[d.size]? =some (.cells (pU Dx).toArray cg (0,0))∧a[s.size]? =some (.cells (pU t).toArray cg (0,0))∧TreeIs (Pro W h F) a kind x j (oZ k l)∧(cG l k=false→j=t)) (fun R Z=>?_) ?_
 ·rcases i4 with⟨rfl,b,rfl,Q⟩|⟨rfl,b,rfl,Q⟩
  ·refine⟨_,vc u 0,af.2 ⟨_,Aa u 1 0,_,Aa u 1 1,_,Aa u 1 2,_,vc u 4,?_⟩⟩
   refine LA Q E hr hn k fun h5 D g N e=>?_
   refine oz (i:=4) (c':=(pU (0,x.k0,x.k1,x.mask,some ⟨D,0,none⟩,none)).toArray) (g.get0 u) (show 4<6 by decide) rfl fun a T f=>?_
   exact Z _ _ ⟨rfl,(w.tr g).own f (au _),_,T,f.oth (g.get0 d4) (by omega),f.oth (g.get0 V) (by omega),.inl ⟨rfl,D,rfl,TrieAt.updM f (fun y p=>.inl (.inr (by have p:y=h.size:=p;omega))) N⟩,fun B=>by rw[e B]⟩
  ·refine⟨_,vc u 0,aA.2 ⟨_,vc u 5,?_⟩⟩
   refine KO Q E hf k fun h5 D g N e=>?_
   refine oz (i:=5) (c':=(pU (1,0,0,0,none,some ⟨D,0,none⟩)).toArray) (g.get0 u) (show 5<6 by decide) rfl fun a T f=>?_
   exact Z _ _ ⟨rfl,(w.tr g).own f (au _),_,T,f.oth (g.get0 d4) (by omega),f.oth (g.get0 V) (by omega),.inr ⟨rfl,D,rfl,N.updM f (fun y p=>.inl (.inr (by have p:y=h.size:=p;omega)))⟩,fun B=>by rw[e B]⟩
 ·rintro _ a ⟨rfl,I,j,z,e1,e2,G,e⟩
  exact O I z e1 e2 G e
end Go.Proofs
namespace Go.Proofs
open Go Go.Lift
end Go.Proofs
namespace Go.Proofs
open Go Go.Lift
theorem SM(p:Pr)(l:List Pr)(k:ByteArray):look (p::l) k=if p.1=k then some p.2 else look l k:=by
 unfold look;rw[List.find?_cons];by_cases e:p.1=k
 ·rw[decide_eq_true e,if_pos e];rfl
 ·rw[decide_eq_false e,if_neg e]
theorem Np{k v:ByteArray}:∀{l:List Pr},look l k=some v→(k,v)∈l
 | [],h=>by cases h
 |p::l,h=>by
  rw[SM]at h;by_cases e:p.1=k
  ·rw[if_pos e]at h;cases h;rw[←e];exact List.mem_cons_self ..
  ·rw[if_neg e]at h;exact List.mem_cons_of_mem _ (Np h)
def wU(c:Ch):Bool:=(!((!c.2.2.2.1&& !c.2.2.2.2)||(c.2.2.2.1&&(c.2.2.2.2&&decide (c.2.1=c.2.2.1)))))&&((c.2.2.2.1||decide (c.2.1=⟨#[]⟩))&&(c.2.2.2.2||decide (c.2.2.1=⟨#[]⟩)))
def YD(a b:Ch):Ch:=(a.1,a.2.1,b.2.2.1,a.2.2.2.1,b.2.2.2.2)
def Nk(a b:Ch):Bool:=a.2.2.2.2==b.2.2.2.1&&decide (a.2.2.1=b.2.1)
def one(c:Ch):Option Ch:=if wU c then some c else none
end Go.Proofs
namespace Go.Proofs
open Go Go.Lift
end Go.Proofs
namespace Go.Proofs
open Go Go.Lift
theorem Uu(k o n:ByteArray):wU (k,o,n,false,true)=decide (o=⟨#[]⟩):=by simp[wU]
theorem Ut(k o n:ByteArray):wU (k,o,n,true,false)=decide (n=⟨#[]⟩):=by simp[wU]
theorem Us(k o n:ByteArray):wU (k,o,n,true,true)= !decide (o=n):=by simp[wU]
theorem Ql{c:Ch}{h:ad}{K:Bool→ad→Prop}(a:∀h',Upd No h h'→K (wU c) h'):HC PG nA [.agg #[.string c.1,.string c.2.1,.string c.2.2.1,.bool c.2.2.2.1,.bool c.2.2.2.2]] [.c .bool] K h:=by
 refine Ak c ?_;unfold sx ah aZ PE;refine cH fun b b1 k1=>?_
 obtain⟨k,o,n,w,i⟩:=c;have a:=a b k1;refine Join.plain ?_;cases w<;>cases i
 ·exact⟨false,vc b1 3,aA.2 ⟨false,vc b1 4,aA.2 (aA.2 a)⟩⟩
 ·rw[Uu]at a
  refine⟨false,vc b1 3,aA.2 ⟨true,vc b1 4,af.2 ⟨false,vc b1 3,af.2 (af.2 ⟨false,vc b1 3,af.2 ⟨o,vc b1 1,?_⟩⟩)⟩⟩⟩;rw[di];cases e:decide (o=⟨#[]⟩)with
  |true=>rw[e]at a;exact aA.2 ⟨true,vc b1 4,aA.2 a⟩
  |false=>rw[e]at a;exact af.2 a
 ·rw[Ut]at a
  refine⟨true,vc b1 3,af.2 ⟨true,vc b1 3,aA.2 ⟨false,vc b1 4,af.2 (af.2 ⟨true,vc b1 3,aA.2 ⟨false,vc b1 4,af.2 ⟨n,vc b1 2,?_⟩⟩⟩)⟩⟩⟩;rw[di];exact a
 ·rw[Us]at a
  refine⟨true,vc b1 3,af.2 ⟨true,vc b1 3,aA.2 ⟨true,vc b1 4,aA.2 ⟨o,vc b1 1,n,vc b1 2,?_⟩⟩⟩⟩;rw[di];cases e:decide (o=n)with
  |true=>rw[e]at a;exact aA.2 a
  |false=>rw[e]at a;exact af.2 ⟨true,vc b1 3,aA.2 ⟨true,vc b1 4,aA.2 a⟩⟩
end Go.Proofs
namespace Go.Proofs
open Go Go.Lift
end Go.Proofs
namespace Go.Proofs
open Go Go.Lift
abbrev aaO(h h':ad)(s:SliceV)(O:List Ch):Prop:=OwnS sg 5 cx (fun y=>h.size≤y) h' s O
set_option maxRecDepth 100000 in
theorem joinTail{h g:ad}{d:SliceV×SliceV×SliceV}{O:List Ch}{a b:Ch}{s pb:Nat}{Z:SliceV×SliceV×SliceV→ad→Prop}{K:SliceV×Int→ad→Prop}
  (I:g[s]? =some (.cells (sg a).toArray cx (0,0))) (N:g[pb]? =some (.cells (sg b).toArray cx (0,0))) (ho:aaO h g d.2.2 O) (hO:O.length≤1000000) (Y:Upd No h g) (h1:1≤d.1.len) (h2:1≤d.2.1.len)
  (hc:Nk a b=false→K (⟨none,0,0⟩,8) g)
  (V:Nk a b=true→∀s' h',aaO h h' s' (O++(one (YD a b)).toList)→Upd No h h'→Z (⟨aV d.1.a 1 d.1.cap 5,d.1.len-1,d.1.cap-1⟩,⟨aV d.2.1.a 1 d.2.1.cap 5,d.2.1.len-1,d.2.1.cap-1⟩,s') h'):
  Join (fun(W:Bool) f=>
  CondP W (
  K (⟨none,0,0⟩,8) f) (
  ∃v78:ByteArray,aD f (adr ⟨s,0,none⟩ 0)=some (.string v78)∧
  ∃v79:ByteArray,aD f (adr ⟨s,0,none⟩ 1)=some (.string v79)∧
  ∃v80:ByteArray,aD f (adr ⟨pb,0,none⟩ 2)=some (.string v80)∧
  ∃v81:Bool,aD f (adr ⟨s,0,none⟩ 3)=some (.bool v81)∧
  ∃v82:Bool,aD f (adr ⟨pb,0,none⟩ 4)=some (.bool v82)∧
  At (hnew f [.string (⟨#[]⟩:ByteArray),.string (⟨#[]⟩:ByteArray),.string (⟨#[]⟩:ByteArray),.bool false,.bool false] cx) (fun H=>
  (sN H (some (aH f)) 0 [.string v78,.string v79,.string v80,.bool v81,.bool v82]∧
  At (ib H (aH f) 0 [.string v78,.string v79,.string v80,.bool v81,.bool v82]) (fun j=>
  Join (fun(F:SliceV) u=>
  (((0:Int)≤(1:Int)∧(1:Int)≤((d.1.len:Nat):Int))∧
  Bd (aV d.1.a ((1:Int).toNat) d.1.cap 5:Option Addr) (fun L=>Bd (d.1.len-((1:Int).toNat):Nat) (fun A=>Bd (d.1.cap-((1:Int).toNat):Nat) (fun z=>
  (((0:Int)≤(1:Int)∧(1:Int)≤((d.2.1.len:Nat):Int))∧
  Bd (aV d.2.1.a ((1:Int).toNat) d.2.1.cap 5:Option Addr) (fun J=>Bd (d.2.1.len-((1:Int).toNat):Nat) (fun D=>Bd (d.2.1.cap-((1:Int).toNat):Nat) (fun v=>
  Z (⟨L,A,z⟩,⟨J,D,v⟩,F) u))))))))) (fun B=>
  ∃v86:ByteArray,aD j (adr (aH f) 0)=some (.string v86)∧
  ∃v87:ByteArray,aD j (adr (aH f) 1)=some (.string v87)∧
  ∃v88:ByteArray,aD j (adr (aH f) 2)=some (.string v88)∧
  ∃v89:Bool,aD j (adr (aH f) 3)=some (.bool v89)∧
  ∃v90:Bool,aD j (adr (aH f) 4)=some (.bool v90)∧
  HC PG nA [.agg #[.string v86,.string v87,.string v88,.bool v89,.bool v90]] [.c .bool] (fun(T:Bool) i=>
  CondP T (
  ∃v93:ByteArray,aD i (adr (aH f) 0)=some (.string v93)∧
  ∃v94:ByteArray,aD i (adr (aH f) 1)=some (.string v94)∧
  ∃v95:ByteArray,aD i (adr (aH f) 2)=some (.string v95)∧
  ∃v96:Bool,aD i (adr (aH f) 3)=some (.bool v96)∧
  ∃v97:Bool,aD i (adr (aH f) 4)=some (.bool v97)∧
  At (hnew i [.string v93,.string v94,.string v95,.bool v96,.bool v97] cx) (fun C=>
  ∃xs99,SRow C (some (aH i)) (1*5) xs99∧
  AppP (some [.string (⟨#[]⟩:ByteArray),.string (⟨#[]⟩:ByteArray),.string (⟨#[]⟩:ByteArray),.bool false,.bool false]) 5 56 cx d.2.2.a d.2.2.len d.2.2.cap 1 xs99 C (fun w x=>
  B w x))) (
  B d.2.2 i)) j)))))) (fun E=>
  ∃v72:Bool,aD g (adr ⟨s,0,none⟩ 4)=some (.bool v72)∧
  ∃v73:Bool,aD g (adr ⟨pb,0,none⟩ 3)=some (.bool v73)∧
  CondP (!(v72==v73)) (
  E true g) (
  ∃v74:ByteArray,aD g (adr ⟨s,0,none⟩ 2)=some (.string v74)∧
  ∃v75:ByteArray,aD g (adr ⟨pb,0,none⟩ 1)=some (.string v75)∧
  E (!(v74.toList==v75.toList)) g)):=by
 have hm:Nk a b=(a.2.2.2.2==b.2.2.2.1&&decide (a.2.2.1=b.2.1)):=rfl;refine Join.intro (fun t f=>t=(!Nk a b)∧f=g) (fun R n=>?_) ?_
 ·refine⟨_,vc I 4,_,vc N 3,?_⟩
  rw[hm]at n;cases e:(a.2.2.2.2==b.2.2.2.1)with
  |false=>rw[e]at n;exact aA.2 (n _ _ ⟨rfl,rfl⟩)
  |true=>rw[e]at n;exact af.2 ⟨_,vc I 2,_,vc N 1,n _ _ ⟨by rw[di];rfl,rfl⟩⟩
 rintro t f ⟨rfl,rfl⟩;cases hme:Nk a b with
 |false=>exact aA.2 (hc hme)
 |true=>
  have V:=V hme;refine af.2 ⟨_,vc I 0,_,vc I 1,_,vc N 2,_,vc I 3,_,vc N 4,?_⟩;refine Y9 (c:=YD a b) fun j k G=>?_
  have S:=Y.tr G;have s77:=Y.size;refine Join.intro (fun s' h'=>aaO h h' s' (O++(one (YD a b)).toList)∧Upd No h h') (fun R n=>?_) ?_
  ·refine⟨_,vc k 0,_,vc k 1,_,vc k 2,_,vc k 3,_,vc k 4,?_⟩
   refine Ql (c:=YD a b) fun i p=>?_
   have m:=p.get0 k;have q:=S.tr p;have o:=ho.upd (G.tr p) fun _ _ h=>h
   unfold one at n;cases er:wU (YD a b)with
   |false=>
    rw[er]at n;refine af.2 (n _ _ ⟨?_,q⟩);rw[if_neg Bool.false_ne_true,Option.toList_none,List.append_nil];exact o
   |true=>
    rw[er]at n;refine aA.2 ⟨_,vc m 0,_,vc m 1,_,vc m 2,_,vc m 3,_,vc m 4,?_⟩;have s92:=q.size;refine VN (c:=YD a b) o (fun y X=>by omega) (by omega) fun s3 h3 U P=>n _ _ ⟨U,q.trans P fun y X=>.inr X⟩
  ·rintro s' h' ⟨Q,u'⟩
   exact⟨⟨by omega,by omega⟩,⟨by omega,by omega⟩,V s' h' Q u'⟩
end Go.Proofs
namespace Go.Proofs
open Go Go.Lift
end Go.Proofs
namespace Go.Proofs
open Go Go.Lift
end Go.Proofs
namespace Go.Proofs
open Go Go.Lift
end Go.Proofs
namespace Go.Proofs
open Go Go.Lift
end Go.Proofs
namespace Go.Proofs
open Go Go.Lift
def YW(o:Option ByteArray):Sd:=(o.getD ⟨#[]⟩,o.isSome)
def YS(b o t:Option ByteArray)(p:Int):Option ByteArray×Bool:=if o=t∨t=b then(o,true)else if o=b then(t,true)else if p=1 then(o,false)else if p=2 then(t,false)else(b,false)
def WA(L:List Pr)(k:ByteArray):Option ByteArray→List Pr
 |some v=>j8 (k,v) L
 |none=>oZ k L
def tk(B O T:List Pr)(p:Int)(k:ByteArray):Option ByteArray×Bool:=YS (look B k) (look O k) (look T k) p
end Go.Proofs
namespace Go.Proofs
open Go Go.Lift Go.Sort
abbrev Vu:Value:=.func (.func yQ) #[] #[]
def DW(dec:Int→Ch)(i j:Int):Bool:=aac (dec i) (dec j)
structure SA(dec:Int→Ch)(M:Nat→Prop)(s:SliceV)(h:ad)(d:Array Int):Prop where
 own:OwnS sg 5 cx M h s (d.toList.map dec)
 small:d.size≤1000000000
 lt:∀b,M b→b<h.size
variable {dec:Int→Ch} {M:Nat→Prop} {s:SliceV} {h:ad} {d:Array Int}
theorem SA.len(a:SA dec M s h d):s.len=d.size:=by have:=a.own.len;simpa using this
theorem SA.upd0{h':ad}(a:SA dec M s h d)(k:Upd No h h'):SA dec M s h' d:=⟨a.own.upd k fun _ _ h=>h,a.small,fun b c=>aO (a.lt b c) k.size⟩
theorem SA.at(c:SA dec M s h d){i:Nat}(hi:i<d.size):∃a,s.a=some a∧∀j v,(sg (dec d[i]!))[j]? =some v→aD h (adr (adr a (((i:Int)).toNat*5)) j)=some v:=by
 have hx:(d.toList.map dec)[i]? =some (dec d[i]!):=by
  rw[List.getElem?_map,Array.getElem?_toList,Array.getElem?_eq_getElem hi,getElem!_pos d i hi];rfl
 obtain⟨a,b,_,e⟩:=(c.own.sl (W:=No) fun _ _ _ h=>h).at hx
 exact⟨a,b,by simpa using e⟩
theorem SA.rd(c:SA dec M s h d){t:Int}{i:Nat}(e:t=(i:Int))(hi:i<d.size){R:ByteArray→ByteArray→ByteArray→Bool→Bool→Prop}(g:R (dec d[i]!).1 (dec d[i]!).2.1 (dec d[i]!).2.2.1 (dec d[i]!).2.2.2.1 (dec d[i]!).2.2.2.2):
  ((0:Int)≤t∧t<((s.len:Nat):Int))∧∃a:Addr,s.a=some a∧∃v1:ByteArray,aD h (adr (adr a (t.toNat*5)) 0)=some (.string v1)∧∃v2:ByteArray,aD h (adr (adr a (t.toNat*5)) 1)=some (.string v2)∧∃v3:ByteArray,aD h (adr (adr a (t.toNat*5)) 2)=some (.string v3)∧∃v4:Bool,aD h (adr (adr a (t.toNat*5)) 3)=some (.bool v4)∧∃v5:Bool,aD h (adr (adr a (t.toNat*5)) 4)=some (.bool v5)∧R v1 v2 v3 v4 v5:=by
 subst e;obtain⟨a,f,b⟩:=c.at hi;exact⟨by rw[c.len];omega,a,f,_,b 0 _ rfl,_,b 1 _ rfl,_,b 2 _ rfl,_,b 3 _ rfl,_,b 4 _ rfl,g⟩
theorem SA.st(e:SA dec M s h d){t:Int}{i:Nat}{x:Int}(m:t=(i:Int))(hi:i<d.size){R:ad→Prop}(p:∀h',SA dec M s h' (d.setIfInBounds i x)→Upd M h h'→R h'):
  ((0:Int)≤t∧t<((s.len:Nat):Int))∧∃a:Addr,s.a=some a∧(sN h (some (adr a (t.toNat*5))) 0 [.string (dec x).1,.string (dec x).2.1,.string (dec x).2.2.1,.bool (dec x).2.2.2.1,.bool (dec x).2.2.2.2]∧At (ib h (adr a (t.toNat*5)) 0 [.string (dec x).1,.string (dec x).2.1,.string (dec x).2.2.1,.bool (dec x).2.2.2.1,.bool (dec x).2.2.2.2]) R):=by
 subst m;obtain⟨a,o,hM,n,j,g⟩:=OwnS.setAt e.own (k:=i) (by simpa using hi) (dec x);refine⟨by rw[e.len];omega,a,o,?_⟩;rw[ak];have f:Upd M h _:=g.mono fun b c=>.inl (by have c:b=a.block:=c;rw[c];exact hM)
 refine⟨n,bi (p _ ⟨?_,by simpa using e.small,fun b c=>aO (e.lt b c) g.size⟩ f)⟩
 rw[show(d.setIfInBounds i x).toList.map dec=(d.toList.map dec).take i++dec x::(d.toList.map dec).drop (i+1) by
  rw[Array.toList_setIfInBounds,List.map_set,dD,if_pos (by simpa using hi)]]
 exact j
@[simp] theorem YV(d:Array Int)(i j:Nat):(swp d i j).size=d.size:=by simp[swp]
theorem SA.swap(e:SA dec M s h d){b c:Int}{i j:Nat}(m:b=(i:Int))(n:c=(j:Int))(hi:i<d.size)(o:j<d.size){R:ad→Prop}(t:∀h',SA dec M s h' (swp d i j)→Upd M h h'→R h'):
  ((0:Int)≤c∧c<((s.len:Nat):Int))∧∃a:Addr,s.a=some a∧∃v1:ByteArray,aD h (adr (adr a (c.toNat*5)) 0)=some (.string v1)∧∃v2:ByteArray,aD h (adr (adr a (c.toNat*5)) 1)=some (.string v2)∧∃v3:ByteArray,aD h (adr (adr a (c.toNat*5)) 2)=some (.string v3)∧∃v4:Bool,aD h (adr (adr a (c.toNat*5)) 3)=some (.bool v4)∧∃v5:Bool,aD h (adr (adr a (c.toNat*5)) 4)=some (.bool v5)∧
   (((0:Int)≤b∧b<((s.len:Nat):Int))∧∃a:Addr,s.a=some a∧∃w1:ByteArray,aD h (adr (adr a (b.toNat*5)) 0)=some (.string w1)∧∃w2:ByteArray,aD h (adr (adr a (b.toNat*5)) 1)=some (.string w2)∧∃w3:ByteArray,aD h (adr (adr a (b.toNat*5)) 2)=some (.string w3)∧∃w4:Bool,aD h (adr (adr a (b.toNat*5)) 3)=some (.bool w4)∧∃w5:Bool,aD h (adr (adr a (b.toNat*5)) 4)=some (.bool w5)∧
    (((0:Int)≤b∧b<((s.len:Nat):Int))∧∃a:Addr,s.a=some a∧(sN h (some (adr a (b.toNat*5))) 0 [.string v1,.string v2,.string v3,.bool v4,.bool v5]∧At (ib h (adr a (b.toNat*5)) 0 [.string v1,.string v2,.string v3,.bool v4,.bool v5]) (fun g=>
     (((0:Int)≤c∧c<((s.len:Nat):Int))∧∃a:Addr,s.a=some a∧(sN g (some (adr a (c.toNat*5))) 0 [.string w1,.string w2,.string w3,.bool w4,.bool w5]∧At (ib g (adr a (c.toNat*5)) 0 [.string w1,.string w2,.string w3,.bool w4,.bool w5]) R)))))):=by
 refine e.rd n o (e.rd m hi (e.st (x:=d[j]!) m hi fun g f k1=>f.st (x:=d[i]!) n (by simpa using o) fun p k q=>t p k (k1.tr q)))
theorem SA.less(f:SA dec M s h d){b c:Int}{i j:Nat}(g:b=(i:Int))(n:c=(j:Int))(hi:i<d.size)(o:j<d.size){R:Int→ad→Prop}(p:∀h' e,SA dec M s h' d→Upd No h h'→decide (e<0)=DW dec d[i]! d[j]!→R e h'):
  ((0:Int)≤b∧b<((s.len:Nat):Int))∧∃a:Addr,s.a=some a∧∃v1:ByteArray,aD h (adr (adr a (b.toNat*5)) 0)=some (.string v1)∧∃v2:ByteArray,aD h (adr (adr a (b.toNat*5)) 1)=some (.string v2)∧∃v3:ByteArray,aD h (adr (adr a (b.toNat*5)) 2)=some (.string v3)∧∃v4:Bool,aD h (adr (adr a (b.toNat*5)) 3)=some (.bool v4)∧∃v5:Bool,aD h (adr (adr a (b.toNat*5)) 4)=some (.bool v5)∧
   (((0:Int)≤c∧c<((s.len:Nat):Int))∧∃a:Addr,s.a=some a∧∃w1:ByteArray,aD h (adr (adr a (c.toNat*5)) 0)=some (.string w1)∧∃w2:ByteArray,aD h (adr (adr a (c.toNat*5)) 1)=some (.string w2)∧∃w3:ByteArray,aD h (adr (adr a (c.toNat*5)) 2)=some (.string w3)∧∃w4:Bool,aD h (adr (adr a (c.toNat*5)) 3)=some (.bool w4)∧∃w5:Bool,aD h (adr (adr a (c.toNat*5)) 4)=some (.bool w5)∧
    HV PG Vu [.agg #[.string v1,.string v2,.string v3,.bool v4,.bool v5],.agg #[.string w1,.string w2,.string w3,.bool w4,.bool w5]] [.c (.int .i64)] R h):=
 f.rd g hi (f.rd n o ((Zu M).call (dec d[i]!) (dec d[j]!) trivial fun h' e k m=>p h' e (f.upd0 k) k m))
end Go.Proofs
namespace Go.Proofs
open Go Go.Lift Go.Sort
variable {dec:Int→Ch} {M:Nat→Prop} {s:SliceV} {h:ad} {d:Array Int}
@[simp] theorem V6(lt:Int→Int→Bool)(hi first a:Nat)(d:Array Int):(siftDown lt hi first a d).size=d.size:=by
 fun_induction siftDown lt hi first a d<;>simp_all
@[simp] theorem G5(lt:Int→Int→Bool)(hi first:Nat):∀(k:Nat) (d:Array Int),(heapBuild lt hi first k d).size=d.size
 |0,d=>rfl
 |k+1,d=>by rw[heapBuild,G5 lt hi first k];simp
theorem Xy{a hi first:Nat}(L:SA dec M s h d)(Z:first+hi≤d.size){K:Unit→ad→Prop}(N:∀h',SA dec M s h' (siftDown (DW dec) hi first a d)→Upd M h h'→K () h')(V:a≤1000000000):
  HC PG iH [.slice s.a s.len s.cap,.int .i64 a,.int .i64 hi,.int .i64 first,Vu] [] K h:=by
 refine nC s a hi first Vu ?_
 unfold iI bf cU Cp bP cJ nO BZ Fi;have Q:=L.small;refine LoopP.ghost (fun(g:Nat×Array Int) (t:Int) h'=>t=(g.1:Int)∧SA dec M s h' g.2∧g.2.size=d.size∧siftDown (DW dec) hi first g.1 g.2=siftDown (DW dec) hi first a d∧Upd M h h'∧g.1≤1000000000) (fun g=>hi-g.1) (a,d)
  ⟨rfl,L,rfl,rfl,Upd.refl _ _,V⟩ ?_
 rintro I ⟨i,b⟩ t H ⟨G,n,q,m,p,A⟩ W;simp only at G n q m A;subst G;have X:ac .i64 (ac .i64 (2*(i:Int))+1)=((2*i+1:Nat):Int):=by rw[kD (x:=2*(i:Int)) (by omega),kD (by omega)];omega
 have O:ac .i64 (((2*i+1:Nat):Int)+1)=((2*i+2:Nat):Int):=by rw[kD (by omega)];omega
 rw[X];refine aF (fun T=>?_) fun E=>?_
 ·refine N _ ?_ p
  rw[←m,siftDown,dif_pos (by omega)];exact n
 ·have E:2*i+1<hi:=by omega
  refine Join.intro (fun t h'=>SA dec M s h' b∧Upd No H h'∧∃c:Nat,t=(c:Int)∧c=if 2*i+2<hi∧(DW dec) b[first+(2*i+1)]! b[first+(2*i+1)+1]! =true then 2*i+2 else 2*i+1) (fun R J=>?_) ?_
  ·refine Join.intro (fun t h'=>SA dec M s h' b∧Upd No H h'∧(t=true↔2*i+2<hi∧(DW dec) b[first+(2*i+1)]! b[first+(2*i+1)+1]! =true)) (fun Y w=>?_) ?_
   ·show CondP (decide (ac .i64 (((2*i+1:Nat):Int)+1)<(hi:Int))) _ _
    rw[O];refine aF (fun k=>?_) fun k=>w _ _ ⟨n,Upd.refl _ _,by simp;omega⟩
    show(((0:Int)≤ac .i64 ((first:Int)+((2*i+1:Nat):Int))∧_)∧_)
    refine n.less (i:=first+(2*i+1)) (j:=first+(2*i+1)+1) (by rw[kD (by omega)];omega) (by rw[kD (x:=(first:Int)+_) (by omega),kD (by omega)];omega) (by omega) (by omega) fun h4 e4 e o C=>w _ _ ⟨e,o,?_⟩
    rw[C];simp;omega
   ·rintro t h' ⟨e,o,u⟩
    refine CondP.intro (fun k=>?_) fun k=>?_
    ·show R (ac .i64 (((2*i+1:Nat):Int)+1)) _
     rw[O];exact J _ _ ⟨e,o,_,rfl,by rw[if_pos (u.1 k)]⟩
    ·exact J _ _ ⟨e,o,_,rfl,by rw[if_neg fun P=>by rw[u.2 P]at k;cases k]⟩
  ·rintro t h' ⟨e,o,c,rfl,hc⟩
   have U:c<hi∧i<c:=by rw[hc];split<;>omega
   refine e.less (i:=first+i) (j:=first+c) (by rw[kD (by omega)];omega) (by rw[kD (by omega)];omega) (by omega) (by omega) fun h5 e5 y S B=>?_
   have z:=p.tr (o.tr S).wide;rw[B];have f:siftDown (DW dec) hi first i b=if !(DW dec) b[first+i]! b[first+c]! then b else siftDown (DW dec) hi first c (swp b (first+i) (first+c)):=by
    rw[siftDown,dif_neg (by omega)];by_cases v:2*i+2<hi∧(DW dec) b[first+(2*i+1)]! b[first+(2*i+1)+1]! =true
    ·rw[if_pos (by simp only[aJ,decide_eq_true_iff];exact v),dif_pos v.1]
     rw[if_pos v]at hc;rw[hc]
    ·rw[if_neg (by simp only[aJ,decide_eq_true_iff];exact v)]
     rw[if_neg v]at hc;rw[hc]
   refine CondP.intro (fun k=>?_) fun k=>?_
   ·refine N _ ?_ z
    rw[←m,f,if_pos k];exact y
   ·refine y.swap (i:=first+i) (j:=first+c) (by rw[kD (by omega)];omega) (by rw[kD (by omega)];omega) (by omega) (by omega) fun h6 F D=>?_
    refine W (c,swp b (first+i) (first+c)) _ _ ⟨rfl,F,by simp[q],?_,z.tr D,by simp only;omega⟩ (by simp only;omega)
    rw[←m,f,if_neg (by rw[k];simp)]
end Go.Proofs
namespace Go.Proofs
open Go Go.Lift Go.Sort
variable {dec:Int→Ch} {M:Nat→Prop} {s:SliceV} {h:ad} {d:Array Int}
end Go.Proofs
namespace Go.Proofs
open Go Go.Lift Go.Sort
variable {dec:Int→Ch} {M:Nat→Prop} {s:SliceV} {h:ad} {d:Array Int}
@[simp] theorem Gw(lt:Int→Int→Bool):∀(j:Nat) (d:Array Int),(shiftDown lt j d).size=d.size
 |0,d=>rfl
 |j+1,d=>by rw[shiftDown];split;rfl;rw[Gw lt j];simp
@[simp] theorem Wz(lt:Int→Int→Bool)(e j:Nat)(d:Array Int):(shiftUp lt e j d).size=d.size:=by
 fun_induction shiftUp lt e j d<;>simp_all
theorem V9{a e:Nat}(hs:SA dec M s h d)(ha:a<e)(he:e≤d.size){K:Bool→ad→Prop}(Q:∀h',SA dec M s h' (partialInsertionSort (DW dec) d a e).1→Upd M h h'→K (partialInsertionSort (DW dec) d a e).2 h'):
  HC PG fA [.slice s.a s.len s.cap,.int .i64 a,.int .i64 e,Vu] [.c .bool] K h:=by
 refine jx s a e Vu ?_;unfold fC bf cU Cp bP cJ nO BZ Fi;have hsm:=hs.small;refine LoopP.ghost (fun(g:Nat×Nat×Array Int) (t:Int×Int) h'=>t.1=(g.2.1:Int)∧t.2=5-(g.1:Int)∧SA dec M s h' g.2.2∧g.2.2.size=d.size∧partialIns (DW dec) a e g.1 g.2.1 g.2.2=partialInsertionSort (DW dec) d a e∧Upd M h h'∧g.1≤5∧a<g.2.1∧g.2.1≤e) (fun g=>g.1) (5,a+1,d)
  ⟨by simp only;rw[kD (by omega)];rfl,by simp only;omega,hs,rfl,rfl,Upd.refl _ _,by simp,by simp,by simp only;omega⟩ ?_
 rintro I ⟨st,i0,z⟩ ⟨t1,t2⟩ h1 ⟨ht1,ht2,O,hz1,A,hu1,hst,hai,hie⟩ hI;simp only at ht1 ht2 O hz1 A hst hai hie;subst ht1 ht2;refine aF (fun hlt=>?_) fun hge=>?_
 ·obtain⟨st,rfl⟩:∃k,st=k+1:=⟨st-1,by have:5-(st:Int)<5:=hlt;omega⟩
  refine Join.intro (fun t h'=>∃S d2,t=(S:Nat)∧SA dec M s h' d2∧d2.size=d.size∧partialIns (DW dec) a e st S d2=partialInsertionSort (DW dec) d a e∧Upd M h h'∧a<S∧S≤e) (fun R hR=>?_) ?_
  ·refine LoopP.ghost (fun(i:Nat) (t:Int) h'=>t=(i:Int)∧SA dec M s h' z∧Upd No h1 h'∧scanSorted (DW dec) z e i=scanSorted (DW dec) z e i0∧a<i∧i≤e) (fun i=>e-i) i0 ⟨rfl,O,Upd.refl _ _,rfl,hai,hie⟩ ?_
   rintro I2 i t h' ⟨rfl,y,k2,T,f,m⟩ hI2;refine Join.intro (fun c H=>SA dec M s H z∧Upd No h' H∧(c=true↔i<e∧(DW dec) z[i]! z[i-1]! =false)) (fun R2 X=>?_) ?_
   ·refine aF (fun hle=>?_) fun hgt=>X _ _ ⟨y,Upd.refl _ _,by simp;omega⟩
    exact y.less (i:=i) (j:=i-1) rfl (by rw[kD (by omega)];omega) (by omega) (by omega) fun B e3 p k3 he3=>X _ _ ⟨p,k3,by rw[he3];simp;omega⟩
   ·rintro c H ⟨p,k3,hc⟩
    have x:=hu1.tr (k2.tr k3).wide;refine CondP.intro (fun h2=>?_) fun h2=>?_
    ·have hh:=hc.1 h2
     refine hI2 (i+1) _ _ ⟨by rw[kD (by omega)];rfl,p,k2.tr k3,?_,by omega,by omega⟩ (by omega)
     rw[←T];conv=>rhs;rw[scanSorted]
     rw[if_pos (by simp[hh])]
    ·have hsi:scanSorted (DW dec) z e i=i:=by
      rw[scanSorted,if_neg];intro hh;simp only[aJ,decide_eq_true_iff,Bool.not_eq_eq_eq_not,Bool.not_true]at hh;rw[hc.2 hh]at h2;cases h2
     have b:=A;rw[partialIns]at b;simp only[←T,hsi]at b;refine CondP.intro (fun B=>?_) fun B=>?_
     ·have B:i=e:=by
       have:(i:Int)=e:=by simpa using B
       omega
      rw[if_pos B]at b;rw[←b]at Q;exact Q _ p x
     ·have B:i≠e:=fun e'=>by subst e';simp at B
      rw[if_neg B]at b;have we:ac .i64 ((e:Int)-(a:Int))=((e-a:Nat):Int):=by rw[kD (by omega)];omega
      show CondP (decide (ac .i64 ((e:Int)-(a:Int))<50)) _ _
      rw[we];refine aF (fun h4=>?_) fun h4=>?_
      ·rw[if_pos (by omega)]at b
       rw[←b]at Q;exact Q _ p x
      ·rw[if_neg (by omega)]at b
       have hi1:1≤i:=by omega
       refine p.swap (i:=i) (j:=i-1) rfl (by rw[kD (by omega)];omega) (by omega) (by omega) fun h5 L hu5=>?_
       have N:(swp z i (i-1)).size=d.size:=by simp[hz1]
       generalize swp z i (i-1)=d5 at L N b;refine Join.intro (fun _ h'=>SA dec M s h' (if i-a≥2 then shiftDown (DW dec) (i-1) d5 else d5)∧Upd M h h') (fun R3 u=>?_) ?_
       ·have wi:ac .i64 ((i:Int)-(a:Int))=((i-a:Nat):Int):=by rw[kD (by omega)];omega
        show CondP (decide (ac .i64 ((i:Int)-(a:Int))≥2)) _ _
        rw[wi];refine aF (fun h6=>?_) fun h6=>?_
        ·rw[if_pos (by omega)]at u
         refine LoopP.ghost (fun(g:Nat×Array Int) (t:Int) h'=>t=(g.1:Int)∧SA dec M s h' g.2∧g.2.size=d.size∧shiftDown (DW dec) g.1 g.2=shiftDown (DW dec) (i-1) d5∧Upd M h h'∧g.1<e) (fun g=>g.1) (i-1,d5)
          ⟨by rw[kD (by omega)];simp only;omega,L,N,rfl,x.tr hu5,by simp only;omega⟩ ?_
         rintro I4 ⟨j,d6⟩ t h7 ⟨ht,C,hz7,o,W,D⟩ E;simp only at ht C hz7 o D;subst ht;refine aF (fun h8=>?_) fun h8=>?_
         ·obtain⟨j,rfl⟩:∃k,j=k+1:=⟨j-1,by omega⟩
          have e1:ac .i64 (((j+1:Nat):Int)-1)=(j:Int):=by rw[kD (by omega)];omega
          rw[shiftDown]at o;refine C.less (i:=j+1) (j:=j) rfl e1 (by omega) (by omega) fun hL eL hsL kL J=>?_
          have q:=W.tr kL.wide;rw[J];refine CondP.intro (fun Z=>?_) fun Z=>?_
          ·rw[if_pos Z]at o
           exact u _ _ ⟨by rw[←o];exact hsL,q⟩
          ·rw[if_neg (by rw[Z];simp)]at o
           refine hsL.swap (i:=j+1) (j:=j) rfl e1 (by omega) (by omega) fun v V hu10=>?_
           exact E (j,swp d6 (j+1) j) _ _ ⟨e1,V,by simp[hz7],o,q.tr hu10,by simp only;omega⟩ (by simp)
         ·have:j=0:=by omega
          subst this;exact u _ _ ⟨by rw[←o];exact C,W⟩
        ·rw[if_neg (by omega)]at u
         exact u _ _ ⟨L,x.tr hu5⟩
       ·rintro _ h6 ⟨P,hu6⟩
        have G:(if i-a≥2 then shiftDown (DW dec) (i-1) d5 else d5).size=d.size:=by split<;>simp[N]
        generalize (if i-a≥2 then shiftDown (DW dec) (i-1) d5 else d5)=d6 at P G b
        have wi:ac .i64 ((e:Int)-(i:Int))=((e-i:Nat):Int):=by rw[kD (by omega)];omega
        show CondP (decide (ac .i64 ((e:Int)-(i:Int))≥2)) _ _
        rw[wi];refine aF (fun h7=>?_) fun h7=>?_
        ·rw[if_pos (by omega)]at b
         refine LoopP.ghost (fun(g:Nat×Array Int) (t:Int) h'=>t=(g.1:Int)∧SA dec M s h' g.2∧g.2.size=d.size∧shiftUp (DW dec) e g.1 g.2=shiftUp (DW dec) e (i+1) d6∧Upd M h h'∧1≤g.1∧g.1≤e) (fun g=>e-g.1) (i+1,d6)
          ⟨by rw[kD (by omega)];rfl,P,G,rfl,hu6,by simp,by simp only;omega⟩ ?_
         rintro I4 ⟨j,d7⟩ t h8 ⟨ht,F,w,n,hu8,hj1,D⟩ E;simp only at ht F w n hj1 D;subst ht;refine aF (fun Z=>?_) fun Z=>?_
         ·have e1:ac .i64 ((j:Int)-1)=((j-1:Nat):Int):=by rw[kD (by omega)];omega
          rw[shiftUp,if_pos (by omega)]at n;refine F.less (i:=j) (j:=j-1) rfl e1 (by omega) (by omega) fun hL eL hsL kL J=>?_
          have q:=hu8.tr kL.wide;rw[J];refine CondP.intro (fun v=>?_) fun v=>?_
          ·rw[if_pos v]at n
           exact hR _ _ ⟨i,d7,rfl,hsL,w,by rw[n];exact b,q,f,m⟩
          ·rw[if_neg (by rw[v];simp)]at n
           refine hsL.swap (i:=j) (j:=j-1) rfl e1 (by omega) (by omega) fun h11 Y U=>?_
           exact E (j+1,swp d7 j (j-1)) _ _ ⟨by rw[kD (by omega)];rfl,Y,by simp[w],n,q.tr U,by simp,by simp only;omega⟩ (by simp only;omega)
         ·rw[shiftUp,if_neg (by omega)]at n
          exact hR _ _ ⟨i,d7,rfl,F,w,by rw[n];exact b,hu8,f,m⟩
        ·rw[if_neg (by omega)]at b
         exact hR _ _ ⟨i,d6,rfl,P,G,b,hu6,f,m⟩
  ·rintro t h' ⟨S,d2,rfl,y,hz2,b,hu2,f,m⟩
   exact hI (st,S,d2) _ _ ⟨rfl,by simp only;rw[kD (by omega)];omega,y,hz2,b,hu2,by simp only;omega,f,m⟩ (by simp)
 ·have:st=0:=by have:¬5-(st:Int)<5:=hge;omega
  subst this;rw[partialIns]at A;rw[←A]at Q;exact Q _ O hu1
end Go.Proofs
namespace Go.Proofs
open Go Go.Lift Go.Sort
variable {dec:Int→Ch} {M:Nat→Prop} {s:SliceV} {h:ad} {d:Array Int}
theorem ZV(x:Int):ac .u64 x=x%18446744073709551616:=by
 simp[ac,ag,IntKind.signed]
theorem and_le_right(x:Int){m:Int}(a:0≤m)(hm:m<18446744073709551616):0≤ac .u64 ((aq (ag .u64) x&&&aq (ag .u64) m).toNat:Int)∧ac .u64 ((aq (ag .u64) x&&&aq (ag .u64) m).toNat:Int)≤m:=by
 have c:(aq (ag .u64) x&&&aq (ag .u64) m).toNat≤(aq (ag .u64) m).toNat:=by
  rw[BitVec.toNat_and];exact Nat.and_le_right
 have b:((aq (ag .u64) m).toNat:Int)=m:=by
  show((aq 64 m).toNat:Int)=m
  rw[BitVec.toNat_ofInt];have:m%((2^64:Nat):Int)=m:=Int.emod_eq_of_lt a (by omega);rw[this];omega
 rw[ZV];omega
end Go.Proofs
namespace Go.Proofs
open Go Go.Lift Go.Sort
variable {dec:Int→Ch} {M:Nat→Prop} {s:SliceV} {h:ad} {d:Array Int}
end Go.Proofs
namespace Go.Proofs
open Go Go.Lift
end Go.Proofs
namespace Go.Proofs
open Go Go.Lift
theorem Few.mono{n m:Nat}{L:List Pr}(f:Few n L)(h:n≤m):Few m L:=⟨f.up,Nat.le_trans f.len h,f.fit⟩
end Go.Proofs
namespace Go.Proofs
open Go Go.Lift
theorem MR{W:Nat→Prop}{h:ad}{b:Nat}{l:List Pr}(t:RadAt W h b l)(hW:∀y,W y→y<h.size)(hr:eY l)(k:ByteArray){K:ByteArray×Bool→ad→Prop}
  (V:∀h',Upd No h h'→K ((look l k).getD ⟨#[]⟩,(look l k).isSome) h'):HC PG yK [.pointer (some ⟨b,0,none⟩),.string k] [.c .str,.c .bool] K h:=by
 refine Oc (some ⟨b,0,none⟩) k ?_;unfold EY bf cU OZ bP ez bT;refine DI (.inr ⟨b,rfl,t⟩) hW fun h2 b2 t2 hu2 _=>?_
 obtain⟨w,F,r1,r2,r3⟩:=t2.ex;have d:∀v,ww w F k.data.toList v↔look l k=some v:=fun v=>by
  rw[←qS,r3];constructor
  ·rintro⟨p,hp,e1,rfl⟩
   rw[←tI.1 e1];exact DX hr hp
  ·intro hp;exact⟨_,Np hp,rfl,rfl⟩
 refine LoopP.ghost (fun(g:ByteArray×Nat×ByteArray×Option ByteArray×Fo) (t:ByteArray×Option Addr) h'=>t=(g.1,some ⟨g.2.1,0,none⟩)∧RxN W h' g.2.1 g.2.2.1 g.2.2.2.1 g.2.2.2.2∧jV g.2.2.2.2∧(∀v,ww g.2.2.2.1 g.2.2.2.2 g.1.data.toList v↔look l k=some v)∧Upd No h h') (fun g=>g.1.size) (k,b2,⟨#[]⟩,w,F) ⟨rfl,r1,r2,d,hu2⟩ ?_
 clear d r1 r2 r3 t2;rintro I ⟨D,c,sl,w,F⟩ t h5 ⟨rfl,r,hc,d,hu⟩ hI;simp only at r hc d;simp only[di];by_cases H:D=⟨#[]⟩
 ·subst H
  refine af.2 (MH r ?_);have e:look l k=w:=Option.ext fun v=>by
   rw[←d v];constructor
   ·rintro(⟨_,h⟩|h)
    ·exact h
    ·exact absurd rfl (DZ hc h)
   ·intro h;exact .inl ⟨rfl,h⟩
  rw[e]at V;exact V _ hu
 ·rw[decide_eq_false H]
  refine aA.2 ?_;have q:D.data.toList≠[]:=fun e=>H (by cases D;exact congrArg xy (kC.1 e))
  obtain⟨c0,hc0,P⟩:=Lk q;refine⟨c0,vi _,hc0,?_⟩;have Z:=r;obtain⟨val,s,ow,ks,hb,_,hs,hcap,hF⟩:=r;have hL:=mM.1 hF;have E:=eX.1 hc;have o:(∀v,¬uD F D.data.toList v)→K ((⟨#[]⟩:ByteArray),false) h5:=fun B=>by
   have e:look l k=none:=by
    cases e:look l k with
    |none=>rfl
    |some v=>
     rcases(d v).2 e with⟨h,_⟩|h
     ·exact absurd h q
     ·exact absurd h (B v)
   rw[e]at V;exact V _ hu
  refine DJ Z hc (c:=c0.toNat) (ua _) fun i ok hil Q L N=>?_
  rw[P]at Q L N;cases ok with
  |false=>
   refine aA.2 (o fun v d=>?_)
   obtain⟨n',G,e,_⟩:=yB hc d;obtain⟨j,U,rfl⟩:=dC G;rcases cC j i with hl|hl
   ·have:=Q j U hl;omega
   ·have h1:=L j U hl
    have h2:=L i (by omega) (au _);rcases cC i j with T|T
    ·have h3:=dE.1 E.1 i j (by omega) U T
     omega
    ·have:i=j:=by omega
     subst this;have:=N.2 ⟨U,e⟩;cases this
  |true=>
   obtain⟨hi,R⟩:=N.1 rfl;refine af.2 ⟨_,rfl,s,gq (i:=3) hb,?_⟩;obtain⟨kb,O,hki,C,A⟩:=hL.at hi;have u:F.toL[i]∈F.toL:=bV hi;have z:=E.2 _ u;obtain⟨a,ha,_,Y⟩:=hs.at0 hki;have J:=hs.len;rw[hL.1]at J;have n:∀v,uD F D.data.toList v↔yd F.toL[i] D.data.toList v:=fun v=>by
    constructor
    ·intro d
     obtain⟨n',G,e,hN⟩:=yB hc d;rw[←zT hc G u (by omega)];exact hN
    ·intro d;exact iR.2 ⟨_,u,d⟩
   refine⟨⟨by simp only;omega,by simp only;omega⟩,a,ha,some ⟨kb,0,none⟩,Y,_,rfl,?_⟩
   obtain⟨kval,kss,kow,kks,S,_⟩:=id A;generalize F.toL[i]=m at C A z n R;obtain⟨lab,wk,Fk⟩:=m;simp only at C A z R S;refine⟨O,gq (i:=0) S,Vs (fun x f=>?_) fun B=>?_⟩
   ·rw[C]at f
    have hlne:lab.length≠0:=fun e=>z.1 (bj.1 e)
    have hrl:x.size<D.size:=by
     rw[←kg x,←kg D,f,ai];omega
    refine af.2 (hI (x,kb,O,wk,Fk) _ _ ⟨rfl,A,z.2.2,fun v=>?_,hu⟩ hrl)
    rw[←d v];constructor
    ·intro h;exact .inr ((n v).2 ⟨_,f,h⟩)
    ·rintro(⟨h,_⟩|h)
     ·exact absurd h q
     ·obtain⟨r',e,X⟩:=(n v).1 h
      simp only at e;rw[f]at e;rw[iy e];exact X
   ·rw[C]at B
    refine aA.2 (o fun v h=>?_)
    obtain⟨r',e,_⟩:=(n v).1 h;exact B r' e
theorem Wt{W:Nat→Prop}{x:Hs}{h:ad}{kind:Int}{t:Tr}{l:List Pr}(i:TreeIs W h kind x t l)(g:∀y,W y→y<h.size)(f:eY l)(j:l.length≤1000000)(k:ByteArray){K:Sd→ad→Prop}(e:∀h',Upd No h h'→K ((look l k).getD ⟨#[]⟩,(look l k).isSome) h'):HC PG rI [RU t,.string k] [.c .str,.c .bool] K h:=by
 refine Fz t k ?_;unfold xK aj nN rD ao mP hG;rcases i with⟨_,b,rfl,t⟩|⟨_,b,rfl,t⟩
 ·refine cH fun m b1 k1=>⟨_,vc b1 0,af.2 ⟨_,Aa b1 1 0,_,Aa b1 1 1,_,Aa b1 1 2,_,vc b1 4,?_⟩⟩
  exact N2 (TrieAt.upd0 k1 t) (fun y a=>aO (g y a) k1.size) f j k fun c d=>e c (k1.tr d)
 ·refine cH fun m b1 k1=>⟨_,vc b1 0,aA.2 ⟨_,vc b1 5,?_⟩⟩
  exact MR (t.upd0 k1) (fun y a=>aO (g y a) k1.size) f k fun c d=>e c (k1.tr d)
end Go.Proofs
namespace Go.Proofs
open Go Go.Lift
theorem WU{W:Nat→Prop}{x:Hs}{h:ad}{kind:Int}{t:Tr}{l:List Pr}(i:TreeIs W h kind x t l)(G:∀y,W y→y<h.size)(J:eY l)(N:Fit l)(H:l.length≤1000000)(k:ByteArray)(o:Option ByteArray)(s:k.size≤256)(F:(o.getD ⟨#[]⟩).size≤4096){K:Tr→ad→Prop}
  (S:∀h' a,TreeIs W h' kind x a (WA l k o)→Upd No h h'→K a h'):HC PG yO [RU t,.string k,.agg #[.string (YW o).1,.bool (YW o).2]] [.agg [.int .i64,.int .u64,.int .u64,.int .u64,.ptr,.ptr]] K h:=by
 refine Om t k (YW o) ?_;unfold E8 aj ah aZ fx ae ao qc mP xT xU mL Y1;refine cH fun I b1 k1=>cH fun w b2 A=>cH fun m b3 z=>?_
 have V:=bB b1;have z2:=bB b2;have z3:=bB b3;have Z:h.size≤I.size:=k1.size;have X:I.size≤w.size:=A.size;have Y:=z.size;have b:=(k1.tr A).tr z;have c1:=z.get0 (A.get0 b1);have C:=z.get0 b2;have D:Pro W h m h.size:=.inr (by omega);have E:Pro W h m w.size:=.inr (by omega);refine Join.intro (fun _ h'=>∃a,TreeIs (Pro W h m) h' kind x a (WA l k o)∧h'[h.size]? =some (.cells (pU a).toArray cg (0,0))∧h'[w.size]? =some (.cells (pU Dx).toArray cg (0,0))∧Upd (· =h.size) m h') (fun R U=>?_) ?_
 ·have q:∀{g:ad} {a:Tr},Upd No m g→TreeIs (Pro W h m) g kind x a (WA l k o)→sN g (some (aH h)) 0 (pU a)∧At (ib g (aH h) 0 (pU a)) (fun L=>R () L):=fun{g a} e u=>
   dd (c:=pU t) (vs:=pU a) (e.get0 c1) rfl fun L Q f=>U _ _ ⟨a,u.updM f fun y d=>.inl (by have d:y=h.size:=d;rw[d];exact D),Q,f.oth (e.get0 b3) (by omega),e.wide.tr f⟩
  cases o with
  |some v=>
   refine⟨true,vc C 1,aA.2 ⟨_,vc c1 0,_,vc c1 1,_,vc c1 2,_,vc c1 3,_,vc c1 4,_,vc c1 5,v,vc C 0,?_⟩⟩;exact Mw (i.pro b) (Pro.lt G b) J H (k,v) s F fun g a u _ e=>q e u
  |none=>
   refine⟨false,vc C 1,af.2 ⟨_,vc c1 0,_,vc c1 1,_,vc c1 2,_,vc c1 3,_,vc c1 4,_,vc c1 5,?_⟩⟩;exact Mv (i.pro b) (Pro.lt G b) J N H k s fun g a u _ e=>q e u
 ·rintro _ h6 ⟨a,P,n,O,B⟩
  refine⟨_,vc n 0,_,vc n 1,_,vc n 2,_,vc n 3,_,vc n 4,_,vc n 5,?_⟩;refine dd (c:=pU Dx) (vs:=pU a) O rfl fun T j p=>?_
  refine⟨_,vc j 0,_,vc j 1,_,vc j 2,_,vc j 3,_,vc j 4,_,vc j 5,S T a ((P.updM p fun y d=>.inl (by have d:y=w.size:=d;rw[d];exact E)).less Pro.sub) ?_⟩
  exact(b.own B (au _)).own p (by omega)
def Zz(k:ByteArray)(o:Option ByteArray):Prop:=∀{W:Nat→Prop} {x:Hs} {h:ad} {kind:Int} {t:Tr} {l:List Pr},TreeIs W h kind x t l→(∀y,W y→y<h.size)→eY l→Fit l→l.length≤1000000→k.size≤256→(o.getD ⟨#[]⟩).size≤4096→∀{K:Tr→ad→Prop},
 (∀h' t',TreeIs W h' kind x t' (WA l k o)→Upd No h h'→K t' h')→HC PG yO [RU t,.string k,.agg #[.string (YW o).1,.bool (YW o).2]] [.agg [.int .i64,.int .u64,.int .u64,.int .u64,.ptr,.ptr]] K h
theorem setOk(k:ByteArray)(o:Option ByteArray):Zz k o:=fun i c b g d f e _ a=>WU i c b g d k o f e a
end Go.Proofs
namespace Go.Proofs
open Go Go.Lift
def BaseOf(s:VS)(a:Int)(B:TD):Prop:=(a=0∧B=(s.e,[]))∨(a≠0∧dK s.D a=some B)
section
variable {W:Nat→Prop} {h:ad} {vp:Nat} {s:VS}
theorem Je(v:VaultAt W h vp s){id:Int}(hi:id=0∨id∈ids s.L){K:Tr×Int→ad→Prop}(a:∀B,BaseOf s id B→∀h',Upd No h h'→K (B.1,0) h'):HC PG je [pV vp,.int .u32 id] [.agg [.int .i64,.int .u64,.int .u64,.int .u64,.ptr,.ptr],.c (.int .i64)] K h:=
 T0 v id (fun e h' k=>a (s.e,[]) (.inl ⟨e,rfl⟩) h' k) (fun d hd e h' k=>a d (.inr ⟨e,hd⟩) h' k) fun hd e=>absurd ((v.sub id).2 (hi.resolve_left e)) (qr.1 hd)
end
end Go.Proofs
namespace Go.Proofs
open Go Go.Lift
abbrev eA:SliceV:=⟨none,0,0⟩
abbrev An:=Int×Int×Int×ByteArray×Bool×Int×SliceV×SliceV×SliceV×SliceV×SliceV
abbrev Wd:An:=(0,0,0,⟨#[]⟩,false,0,eA,eA,eA,eA,eA)
abbrev Yx(e:An):List Value:= [.int .i64 e.1,.int .u32 e.2.1,.int .i64 e.2.2.1,.string e.2.2.2.1,.bool e.2.2.2.2.1,.int .i64 e.2.2.2.2.2.1,.slice e.2.2.2.2.2.2.1.a e.2.2.2.2.2.2.1.len e.2.2.2.2.2.2.1.cap,.slice e.2.2.2.2.2.2.2.1.a e.2.2.2.2.2.2.2.1.len e.2.2.2.2.2.2.2.1.cap,.slice e.2.2.2.2.2.2.2.2.1.a e.2.2.2.2.2.2.2.2.1.len e.2.2.2.2.2.2.2.2.1.cap,.slice e.2.2.2.2.2.2.2.2.2.1.a e.2.2.2.2.2.2.2.2.2.1.len e.2.2.2.2.2.2.2.2.2.1.cap,.slice e.2.2.2.2.2.2.2.2.2.2.a e.2.2.2.2.2.2.2.2.2.2.len e.2.2.2.2.2.2.2.2.2.2.cap]
abbrev Qs:List Kind:= [.agg [.int .i64,.int .u32,.int .i64,.str,.bool,.int .i64,.slice,.slice,.slice,.slice,.slice]]
abbrev xp:=Int×ByteArray×ByteArray×ByteArray×ByteArray×Int×Int×Int×Int×Bool×ByteArray×ByteArray×Bool×SliceV×SliceV
abbrev ia(o:xp):List Value:= [.int .i64 o.1,.string o.2.1,.string o.2.2.1,.string o.2.2.2.1,.string o.2.2.2.2.1,.int .u32 o.2.2.2.2.2.1,.int .u32 o.2.2.2.2.2.2.1,.int .i64 o.2.2.2.2.2.2.2.1,.int .i64 o.2.2.2.2.2.2.2.2.1,.bool o.2.2.2.2.2.2.2.2.2.1,.string o.2.2.2.2.2.2.2.2.2.2.1,.string o.2.2.2.2.2.2.2.2.2.2.2.1,.bool o.2.2.2.2.2.2.2.2.2.2.2.2.1,.slice o.2.2.2.2.2.2.2.2.2.2.2.2.2.1.a o.2.2.2.2.2.2.2.2.2.2.2.2.2.1.len o.2.2.2.2.2.2.2.2.2.2.2.2.2.1.cap,.slice o.2.2.2.2.2.2.2.2.2.2.2.2.2.2.a o.2.2.2.2.2.2.2.2.2.2.2.2.2.2.len o.2.2.2.2.2.2.2.2.2.2.2.2.2.2.cap]
abbrev ON(o:xp):Value:=.agg #[.int .i64 o.1,.string o.2.1,.string o.2.2.1,.string o.2.2.2.1,.string o.2.2.2.2.1,.int .u32 o.2.2.2.2.2.1,.int .u32 o.2.2.2.2.2.2.1,.int .i64 o.2.2.2.2.2.2.2.1,.int .i64 o.2.2.2.2.2.2.2.2.1,.bool o.2.2.2.2.2.2.2.2.2.1,.string o.2.2.2.2.2.2.2.2.2.2.1,.string o.2.2.2.2.2.2.2.2.2.2.2.1,.bool o.2.2.2.2.2.2.2.2.2.2.2.2.1,.slice o.2.2.2.2.2.2.2.2.2.2.2.2.2.1.a o.2.2.2.2.2.2.2.2.2.2.2.2.2.1.len o.2.2.2.2.2.2.2.2.2.2.2.2.2.1.cap,.slice o.2.2.2.2.2.2.2.2.2.2.2.2.2.2.a o.2.2.2.2.2.2.2.2.2.2.2.2.2.2.len o.2.2.2.2.2.2.2.2.2.2.2.2.2.2.cap]
theorem Ca{h:ad}{b:Nat}{c e:An}{K:An→ad→Prop}(a:h[b]? =some (.cells (Yx c).toArray dS (0,0))) (d:∀h',Upd (· =b) h h'→K e h'):
  sN h (some ⟨b,0,none⟩) 0 (Yx e)∧At (ib h ⟨b,0,none⟩ 0 (Yx e)) (fun h'=>∃v0:Int,aD h' (adr ⟨b,0,none⟩ 0)=some (.int .i64 v0)∧∃v1:Int,aD h' (adr ⟨b,0,none⟩ 1)=some (.int .u32 v1)∧∃v2:Int,aD h' (adr ⟨b,0,none⟩ 2)=some (.int .i64 v2)∧∃v3:ByteArray,aD h' (adr ⟨b,0,none⟩ 3)=some (.string v3)∧∃v4:Bool,aD h' (adr ⟨b,0,none⟩ 4)=some (.bool v4)∧∃v5:Int,aD h' (adr ⟨b,0,none⟩ 5)=some (.int .i64 v5)∧∃v6:SliceV,aD h' (adr ⟨b,0,none⟩ 6)=some (.slice v6.a v6.len v6.cap)∧∃v7:SliceV,aD h' (adr ⟨b,0,none⟩ 7)=some (.slice v7.a v7.len v7.cap)∧∃v8:SliceV,aD h' (adr ⟨b,0,none⟩ 8)=some (.slice v8.a v8.len v8.cap)∧∃v9:SliceV,aD h' (adr ⟨b,0,none⟩ 9)=some (.slice v9.a v9.len v9.cap)∧∃v10:SliceV,aD h' (adr ⟨b,0,none⟩ 10)=some (.slice v10.a v10.len v10.cap)∧K (v0,v1,v2,v3,v4,v5,v6,v7,v8,v9,v10) h'):=by
 refine dd (c:=Yx c) (vs:=Yx e) a rfl fun h' b' u=>?_
 exact⟨e.1,vc b' 0,e.2.1,vc b' 1,e.2.2.1,vc b' 2,e.2.2.2.1,vc b' 3,e.2.2.2.2.1,vc b' 4,e.2.2.2.2.2.1,vc b' 5,e.2.2.2.2.2.2.1,vc b' 6,e.2.2.2.2.2.2.2.1,vc b' 7,e.2.2.2.2.2.2.2.2.1,vc b' 8,e.2.2.2.2.2.2.2.2.2.1,vc b' 9,e.2.2.2.2.2.2.2.2.2.2,vc b' 10,d h' u⟩
theorem xW{h:ad}{b:Nat}{t:TypeId}{o:xp}{P:Int→ByteArray→ByteArray→ByteArray→ByteArray→Int→Int→Int→Int→Bool→ByteArray→ByteArray→Bool→SliceV→SliceV→Prop}(a:h[b]? =some (.cells (ia o).toArray t (0,0))) (c:P (o.1) (o.2.1) (o.2.2.1) (o.2.2.2.1) (o.2.2.2.2.1) (o.2.2.2.2.2.1) (o.2.2.2.2.2.2.1) (o.2.2.2.2.2.2.2.1) (o.2.2.2.2.2.2.2.2.1) (o.2.2.2.2.2.2.2.2.2.1) (o.2.2.2.2.2.2.2.2.2.2.1) (o.2.2.2.2.2.2.2.2.2.2.2.1) (o.2.2.2.2.2.2.2.2.2.2.2.2.1) (o.2.2.2.2.2.2.2.2.2.2.2.2.2.1) (o.2.2.2.2.2.2.2.2.2.2.2.2.2.2)):
  ∃v0:Int,aD h (adr ⟨b,0,none⟩ 0)=some (.int .i64 v0)∧∃v1:ByteArray,aD h (adr ⟨b,0,none⟩ 1)=some (.string v1)∧∃v2:ByteArray,aD h (adr ⟨b,0,none⟩ 2)=some (.string v2)∧∃v3:ByteArray,aD h (adr ⟨b,0,none⟩ 3)=some (.string v3)∧∃v4:ByteArray,aD h (adr ⟨b,0,none⟩ 4)=some (.string v4)∧∃v5:Int,aD h (adr ⟨b,0,none⟩ 5)=some (.int .u32 v5)∧∃v6:Int,aD h (adr ⟨b,0,none⟩ 6)=some (.int .u32 v6)∧∃v7:Int,aD h (adr ⟨b,0,none⟩ 7)=some (.int .i64 v7)∧∃v8:Int,aD h (adr ⟨b,0,none⟩ 8)=some (.int .i64 v8)∧∃v9:Bool,aD h (adr ⟨b,0,none⟩ 9)=some (.bool v9)∧∃v10:ByteArray,aD h (adr ⟨b,0,none⟩ 10)=some (.string v10)∧∃v11:ByteArray,aD h (adr ⟨b,0,none⟩ 11)=some (.string v11)∧∃v12:Bool,aD h (adr ⟨b,0,none⟩ 12)=some (.bool v12)∧∃v13:SliceV,aD h (adr ⟨b,0,none⟩ 13)=some (.slice v13.a v13.len v13.cap)∧∃v14:SliceV,aD h (adr ⟨b,0,none⟩ 14)=some (.slice v14.a v14.len v14.cap)∧P v0 v1 v2 v3 v4 v5 v6 v7 v8 v9 v10 v11 v12 v13 v14:=
 ⟨o.1,vc a 0,o.2.1,vc a 1,o.2.2.1,vc a 2,o.2.2.2.1,vc a 3,o.2.2.2.2.1,vc a 4,o.2.2.2.2.2.1,vc a 5,o.2.2.2.2.2.2.1,vc a 6,o.2.2.2.2.2.2.2.1,vc a 7,o.2.2.2.2.2.2.2.2.1,vc a 8,o.2.2.2.2.2.2.2.2.2.1,vc a 9,o.2.2.2.2.2.2.2.2.2.2.1,vc a 10,o.2.2.2.2.2.2.2.2.2.2.2.1,vc a 11,o.2.2.2.2.2.2.2.2.2.2.2.2.1,vc a 12,o.2.2.2.2.2.2.2.2.2.2.2.2.2.1,vc a 13,o.2.2.2.2.2.2.2.2.2.2.2.2.2.2,vc a 14,c⟩
theorem VaultAt.pro{W:Nat→Prop}{h b:ad}{c:Nat}{s:VS}(v:VaultAt W h c s)(k:Upd No h b):VaultAt (Pro W h b) b c s:=
 v.re k (fun _ h=>h.elim) (fun y a=>⟨a.imp id fun e=>e.1,Pro.lt v.g.lt k y a⟩) fun y a=>.inl (v.w y a)
theorem VaultAt.dn{W:Nat→Prop}{d c h:ad}{a:Nat}{s:VS}(v:VaultAt (Pro W d c) h a s)(hM:∀y,s.M y→W y):VaultAt W h a s:=
 v.re (Upd.refl No h) (fun _ h=>h.elim) (fun y b=>⟨.inl (.inl b),v.g.lt y (.inl b)⟩) hM
theorem VaultAt.own{W:Nat→Prop}{a f h h':ad}{g b:Nat}{s:VS}(v:VaultAt (Pro W a f) h g s)(hM:∀y,s.M y→y<a.size)(u:Upd (· =b) h h')(i:a.size≤b)(c:b<f.size):VaultAt (Pro W a f) h' g s:=
 v.upd u fun y d=>by
  have d:y=b:=d;subst d;exact .inl ⟨.inr ⟨i,c⟩,fun e=>by have:=hM _ e;omega⟩
section
variable {h:ad}
theorem SY{e:Int}{K:An→ad→Prop}(d:∀h',Upd No h h'→K (e,0,0,⟨#[]⟩,false,0,eA,eA,eA,eA,eA) h'):HC PG gb [.int .i64 e] Qs K h:=by
 refine HP e ?_;unfold zC aj bJ ah aZ aL nv L7;exact cH fun f b1 k1=>Ca (c:=Wd) (e:=(e,0,0,⟨#[]⟩,false,0,eA,eA,eA,eA,eA)) b1 fun a b=>d a (k1.own b (au _))
theorem UR{id:Int}{K:An→ad→Prop}(d:∀h',Upd No h h'→K (0,id,0,⟨#[]⟩,false,0,eA,eA,eA,eA,eA) h'):HC PG vt [.int .u32 id,.int .i64 0] Qs K h:=by
 refine II id 0 ?_;unfold AH aj bJ ah aZ aL fx Fp L7;exact cH fun f b1 k1=>af.2 (Ca (c:=Wd) (e:=(0,id,0,⟨#[]⟩,false,0,eA,eA,eA,eA,eA)) b1 fun a b=>d a (k1.own b (au _)))
end
abbrev D3(f:FuncId):Value:=.func (.func f) #[] #[]
abbrev PR:List Value:= [D3 jN,D3 qW,D3 uq,D3 rU,D3 lQ,D3 tE,D3 tB,D3 pu,D3 rX,D3 rV,D3 lR,D3 tC,D3 tF,D3 rW,D3 se,D3 tD,D3 rZ,D3 tA,D3 qY,D3 qZ,D3 sd,D3 tw,D3 qX,D3 rY,D3 tu,D3 pr]
theorem UX{k:Nat}(g:k<26){v:Value}(a:PR[k]? =some v) {h:ad} {K:Value→ad→Prop} (f:∀h',Upd No h h'→K v h'):HC PG vu [.int .i64 k] [.c .raw] K h:=by
 refine IJ k ?_;unfold AI bf cU nv;refine cH fun i b1 k1=>dd (c:=List.replicate 26 .nilFunc) (vs:=PR) b1 rfl fun d b2 b=>Join.plain (aF (fun e=>absurd e (by omega)) fun _=>?_)
 rw[show decide ((k:Int)≥(26:Int))=false from decide_eq_false (by omega)]
 refine af.2 ⟨⟨by omega,by omega⟩,v,?_,f d (k1.own b (au _))⟩
 have:=vc b2 k;rw[List.getElem?_toArray,a]at this;rw[show(k:Int).toNat*1=k by omega]
 exact this
end Go.Proofs
