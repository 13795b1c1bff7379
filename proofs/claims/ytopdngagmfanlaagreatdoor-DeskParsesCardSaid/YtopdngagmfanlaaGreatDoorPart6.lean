/- A part of the proof that the named laws of this program answer true, whatever the input. -/
import Derived.Test.YtopdngagmfanlaaGreatDoorPart5
import Derived.Test.YtopdngagmfanlaaGreatDoorPart3
import Derived.Sort.AssemblyPlain
open Array renaming toList_inj→kC
open BitVec renaming ofInt→aq
open Bool renaming and_eq_true→aJ
open ByteArray renaming mk→xy
open Go.IntKind renaming wrap→ac,bits→ag
open Int renaming toNat_natCast→ak,le_refl→vi
open List renaming length_append→ai,getElem_of_mem→dC,pairwise_iff_getElem→dE,getElem_mem→bV,length_eq_zero_iff→bj,append_cancel_left→iy,set_eq_take_append_cons_drop→dD
open Nat renaming lt_or_ge→cC,le_refl→au,lt_irrefl→j4,lt_of_lt_of_le→aO
open UInt8 renaming toNat_lt→ua
namespace Go.Proofs
open Go Go.Lift
theorem kg(s:ByteArray):s.data.toList.length=s.size:=by simp
theorem VO(a b:ByteArray):(a++b).data.toList=a.data.toList++b.data.toList:=by rw[ByteArray.data_append,Array.toList_append]
theorem Su{a b:ByteArray}{h:ad}{K:Bool→ad→Prop}(c:K (decide (b.data.toList<+:a.data.toList)) h):HC PG vr [.string a,.string b] [.c .bool] K h:=by
 refine IH a b ?_;unfold AG ez;refine Ec a b ?_;unfold wA ez;refine rl a b ?_;unfold kR;have j:=kg a;have d:=kg b;refine aF (fun g=>?_) fun i=>?_
 ·refine⟨⟨by omega,by omega⟩,?_⟩
  rw[di,ak];have e:decide (a.extract 0 b.size=b)=decide (b.data.toList<+:a.data.toList):=by
   rw[decide_eq_decide,←tI,Hi,List.prefix_iff_eq_take,d];exact eq_comm
  rw[e];exact c
 ·have e:decide (b.data.toList<+:a.data.toList)=false:=decide_eq_false fun f=>by
   have:=f.length_le;omega
  rw[e]at c;exact c
theorem Vs{a b:ByteArray}{h:ad}{K:ByteArray×Bool→ad→Prop}(g:∀s:ByteArray,a.data.toList=b.data.toList++s.data.toList→K (s,true) h)(i:(∀r,a.data.toList≠b.data.toList++r)→K (⟨#[]⟩,false) h):HC PG w8 [.string a,.string b] [.c .str,.c .bool] K h:=by
 refine Qv a b ?_;unfold HQ ez;refine Su ?_;have j:=kg a;have f:=kg b;by_cases c:b.data.toList<+:a.data.toList
 ·rw[decide_eq_true c]
  have d:=c.length_le;refine af.2 ⟨⟨by omega,by omega⟩,?_⟩
  rw[ak];refine g _ ?_;rw[Hj];obtain⟨r,e⟩:=c;rw[←e,←f,List.drop_left]
 ·rw[decide_eq_false c]
  exact aA.2 (i fun r e=>c ⟨r,e.symm⟩)
def Z8(W:Nat→Prop)(h:ad)(r:Option Addr)(o:Option Bn):Prop:=(r=none∧o=none)∨∃b sl m,r=some ⟨b,0,none⟩∧o=some m∧sl.data.toList=m.1∧RxN W h b sl m.2.1 m.2.2
theorem Se{W:Nat→Prop}{h:ad}{b:Nat}{sl:ByteArray}{w:Option ByteArray}{F:Fo}(r:RxN W h b sl w F)(hW:∀y,W y→y<h.size)(hc:jV F)(A:sl.data.toList≠[])(hs1:sl.size≤1000000)(S:∀k v,uD F k v→k.length≤1000000)
  {K:Option Addr→ad→Prop}(N:∀h' r o,Upd No h h'→Xs (sl.data.toList,w,F) o→Z8 W h' r o→K r h'):HC PG px [.pointer (some ⟨b,0,none⟩),.pointer none] [.c .ptr] K h:=by
 refine CS _ none ?_;unfold uN bf cU bP cJ bT nN iY;have hr:=r;obtain⟨val,s,ow,ks,p,hv,hs,hcap,hF⟩:=r;have hL:=mM.1 hF;have hn:=zU hc;have c:=hs.len;rw[hL.1]at c;refine Join.intro (fun t h'=>t=decide (w.isSome∨2≤F.toL.length)∧h'=h) (fun R hR=>⟨_,rfl,w.isSome,gq (i:=1) p,?_⟩) ?_
 ·cases w with
  |some v=>exact aA.2 (hR _ _ ⟨rfl,rfl⟩)
  |none=>
   refine af.2 ⟨_,rfl,s,gq (i:=3) p,hR _ _ ⟨?_,rfl⟩⟩;rw[decide_eq_decide];constructor
   ·intro h;exact .inr (by omega)
   ·rintro(h|h)
    ·cases h
    ·omega
 ·rintro t h' ⟨rfl,rfl⟩
  refine aF (fun n=>?_) fun n=>?_
  ·exact N h' _ _ (Upd.refl _ _) (SG A hc n) (.inr ⟨b,sl,_,rfl,rfl,rfl,hr⟩)
  ·have L:w=none:=by
    cases w with
    |none=>rfl
    |some v=>exact absurd (.inl rfl) n
   subst L;have P:F.toL.length<2:=by
    rcases cC F.toL.length 2 with h|h
    ·exact h
    ·exact absurd (.inr h) n
   refine⟨_,rfl,s,gq (i:=3) p,?_⟩;match hFL:F.toL,P with
   | [],_=>
    rw[hFL]at c;have e:((s.len:Int)==(0:Int))=true:=by rw[beq_iff_eq,c];rfl
    rw[e];exact aA.2 (N h' _ _ (Upd.refl _ _) (SH hFL) (.inl ⟨rfl,rfl⟩))
   | [(lk,wk,Fk)],_=>
    rw[hFL]at c;have e:((s.len:Int)==(0:Int))=false:=by rw[beq_eq_false_iff_ne,c];simp
    rw[e];have f:(lk,wk,Fk)∈F.toL:=by rw[hFL];exact List.mem_singleton.2 rfl
    have X:=(eX.1 hc).2 _ f;have h0:0<F.toL.length:=by rw[hFL];exact Nat.one_pos
    obtain⟨kb,d,G,g,m⟩:=hL.at h0;have e0:F.toL[0]=(lk,wk,Fk):=by simp only[hFL];rfl
    rw[e0]at g m;simp only at g m;obtain⟨a,ha,_,Y⟩:=hs.at0 G;obtain⟨B,kss,kow,Q,V,I,z,H,D⟩:=m;have O:=mM.1 D;have C:=zU X.2.2;refine af.2 ⟨_,rfl,s,gq (i:=3) p,⟨by omega,by rw[c];simp⟩,a,ha,some ⟨kb,0,none⟩,Y,?_⟩
    refine ph V z (by rw[O.1];exact C) fun h1 s1 b1 T E=>?_
    obtain⟨rr,vv,J⟩:=vZ hc _ f;have U:=S (lk++rr) vv (iR.2 ⟨_,f,rr,rfl,J⟩);rw[ai]at U;have Z:lk.length=d.size:=by rw[←g];exact kg d
    refine⟨_,rfl,sl,gq (i:=0) (E.get0 p),_,rfl,d,gq (i:=0) b1,by omega,?_⟩
    have hbl:b<h'.size:=bB p;refine wS b1 fun n b2 q=>?_
    have j:Upd No h' n:=E.own q (au _);have u:=T.upd q fun x hx e=>by have e:x=h'.size:=e;have:=hx.1;omega
    refine N n _ _ j (US A hc hFL) (.inr ⟨h'.size,sl++d,_,rfl,rfl,by rw[←g];exact VO sl d,⟨B,s1,none,Q,b2,I,u.sl (fun x hx _ L=>by have:=hW _ L;have:=hx.1;omega),⟨u.cap,fun hx=>j4 _ (hW _ hx)⟩,RxF.upd0 j D⟩⟩)
set_option maxHeartbeats 1000000 in
theorem Uq{W:Nat→Prop}:∀(n:Nat) {b:Nat} {sl:ByteArray} {w:Option ByteArray} {F:Fo} {h:ad} (k:ByteArray),k.size<n→RxN W h b sl w F→(∀y,W y→y<h.size)→jV F→(∀j v,uD F j v→j.length≤1000000)→∀{K:(Option Addr)×Bool→ad→Prop},
  (∀h' b' w' F' z,Upd No h h'→RxN W h' b' sl w' F'→jV F'→vg (ww w F) (ww w' F') k.data.toList→(z=false→b'=b∧∀v,¬ww w F k.data.toList v)→(z=true→∃v,ww w F k.data.toList v)→K (some ⟨b',0,none⟩,z) h')→
  HC PG lS [.pointer (some ⟨b,0,none⟩),.pointer none,.string k] [.c .ptr,.c .bool] K h:=by
 intro n;induction n with
 |zero=>intro b sl w F h k hk;omega
 |succ n ih=>
  intro b sl w F h k hkn r hW hc hbd K hk;refine CU (some ⟨b,0,none⟩) none k ?_;unfold uP bf cU OZ bP cJ ez bM bT iY Fj Mf;have hr:=r;obtain⟨val,s,ow,ks,hb,hv,hs,hcap,hF⟩:=r;have X:=mM.1 hF;have hn:=zU hc;have hcan:=eX.1 hc;have t:∀{h':ad},Upd No h h'→(∀v,¬ww w F k.data.toList v)→K (some ⟨b,0,none⟩,false) h':=fun hu B=>hk _ b w F false hu (hr.upd0 hu) hc (Qe B) (fun _=>⟨rfl,B⟩) fun h=>by cases h
  rw[di];refine aF (fun hk0=>?_) fun hk0=>?_
  ·have hke:k.data.toList= []:=by rw[hk0]
   rw[hke]at hk t;refine⟨_,rfl,w.isSome,gq (i:=1) hb,?_⟩;cases L:w with
   |none=>
    refine aA.2 (t (Upd.refl _ _) fun v d=>?_)
    rcases d with⟨_,h⟩|h
    ·rw[L]at h;cases h
    ·exact absurd rfl (DZ hc h)
   |some u=>
    refine af.2 (ph hb hs (by rw[X.1];exact hn) fun h1 s1 b1 ho1 hu1=>?_)
    refine⟨_,rfl,V8 (i:=1) b1 (show 1<5 by decide),Ie (i:=1) (c':=GA sl false val s1 none) b1 rfl fun P b2 o=>?_⟩
    refine⟨_,rfl,V8 (i:=2) b2 (show 2<5 by decide),Ie (i:=2) (c':=GA sl false ⟨#[]⟩ s1 none) b2 rfl fun h3 b3 D=>?_⟩
    have E:Upd No h h3:=hu1.own (o.tr D) (au _);have U:=ho1.upd (o.tr D) fun x hx e=>by have e:x=h.size:=e;have:=hx.1;omega
    refine hk h3 h.size none F true E ⟨⟨#[]⟩,s1,none,ks,b3,rfl,U.sl (fun x hx _ L=>by have:=hW _ L;have:=hx.1;omega),⟨U.cap,fun hx=>j4 _ (hW _ hx)⟩,RxF.upd0 E hF⟩ hc (Qd hc) (fun h=>by cases h) fun _=>⟨u,.inl ⟨rfl,L⟩⟩
  ·have p:k.data.toList≠[]:=fun e=>hk0 (by cases k;exact congrArg xy (kC.1 e))
   obtain⟨c0,hc0,hc0e⟩:=Lk p;refine⟨c0,vi _,hc0,?_⟩;have hlk:k.data.toList.length=k.size:=kg k;refine DJ hr hc (c:=c0.toNat) (ua _) fun i ok hil hlo hhi hok=>?_
   rw[hc0e]at hlo hhi hok;cases ok with
   |false=>
    refine aA.2 (t (Upd.refl _ _) fun v d=>?_)
    rcases d with⟨h,_⟩|d
    ·exact p h
    ·obtain⟨n',hn',e,_⟩:=yB hc d
     obtain⟨j,hj,rfl⟩:=dC hn';rcases cC j i with hl|hl
     ·have:=hlo j hj hl;omega
     ·have h1:=hhi j hj hl
      have P:=hhi i (by omega) (au _);rcases cC i j with hl2|hl2
      ·have h3:=dE.1 hcan.1 i j (by omega) hj hl2
       omega
      ·have:i=j:=by omega
       subst this;have:=hok.2 ⟨hj,e⟩;cases this
   |true=>
    obtain⟨hi,Y⟩:=hok.1 rfl;refine af.2 ⟨_,rfl,s,gq (i:=3) hb,?_⟩;obtain⟨kb,ksl,hki,A,G⟩:=X.at hi;have H:F.toL[i]∈F.toL:=bV hi;have T:=hcan.2 _ H;obtain⟨a,ha,_,hvv⟩:=hs.at0 hki;have hslen:=hs.len;rw[X.1]at hslen;have hlt1:(i:Int)<((s.len:Nat):Int):=by omega
    refine⟨⟨by simp only;omega,hlt1⟩,a,ha,some ⟨kb,0,none⟩,hvv,_,rfl,?_⟩;obtain⟨kval,kss,kow,kks,hkb,_⟩:=id G;have C:∀v,uD F k.data.toList v→yd F.toL[i] k.data.toList v:=fun v d=>by
     obtain⟨n',hn',e,hN⟩:=yB hc d;rw[←zT hc hn' H (by omega)];exact hN
    have q:∀j v,yd F.toL[i] j v→uD F j v:=fun j v d=>iR.2 ⟨_,H,d⟩
    have g:∀{m:Bn},Tu m→hd m.1=hd F.toL[i].1→jV (.ofL (F.toL.set i m)):=fun h1 P=>RC hc hi h1 P
    have N:∀{m:Bn},vg (yd F.toL[i]) (yd m) k.data.toList→vg (uD F) (uD (.ofL (F.toL.set i m))) k.data.toList:=fun hp=>S0 hc hi Y hp
    have Q:(∀k' v',yd F.toL[i] k' v'→k'=k.data.toList)→vg (uD F) (uD (.ofL (F.toL.take i++F.toL.drop (i+1)))) k.data.toList:=fun hp=>S3 hc hi Y hp
    have hrset:∀{h':ad} {k':Option Addr} {m:Bn},Upd No h h'→Kid W h' k' m→RxL W h' (ks.set i k') (F.toL.set i m):=fun hu hkd=>(X.upd0 hu).set hi hkd
    generalize F.toL[i]=m at A G T C q g N Q Y;obtain⟨lab,wk,Fk⟩:=m;simp only at A G T Y g;refine⟨ksl,gq (i:=0) hkb,Vs (fun R f=>?_) fun B=>?_⟩
    ·rw[A]at f
     have hlne:lab.length≠0:=fun e=>T.1 (bj.1 e)
     have hrl:R.size<k.size:=by
      rw[←kg R,←hlk,f,ai];omega
     refine af.2 ⟨_,rfl,s,gq (i:=3) hb,⟨by simp only;omega,hlt1⟩,a,ha,some ⟨kb,0,none⟩,hvv,?_⟩;have hkbd:∀j v,uD Fk j v→j.length≤1000000:=fun j v d=>by
      have:=hbd _ v (q (lab++j) v ⟨j,rfl,.inr d⟩);rw[ai]at this;omega
     refine ih R (by omega) G hW T.2.2 hkbd fun P b2 w2 F2 z o rn2 hc2 hd2 hg0 hg1=>?_
     cases z with
     |false=>
      refine aA.2 (t o fun v d=>?_)
      rcases d with⟨h,_⟩|d
      ·exact p h
      ·obtain⟨r',e,hr'⟩:=C v d
       simp only at e;rw[f]at e;exact(hg0 rfl).2 v (by rw[iy e];exact hr')
     |true=>
      obtain⟨v0,hv0⟩:=hg1 rfl;have I:∃v,ww w F k.data.toList v:=⟨v0,.inr (q _ _ ⟨_,f,hv0⟩)⟩;have hdn:vg (yd (lab,wk,Fk)) (yd (lab,w2,F2)) k.data.toList:=by
       rw[f];exact Qf hd2
      refine af.2 (ph (o.get0 hb) (hs.upd o fun _ h=>h.elim) (by rw[X.1];exact hn) fun h3 s3 b3 U D=>?_)
      have E:=o.tr D;obtain⟨rr,vv,d⟩:=vZ hc _ H;have hlb:lab.length≤1000000:=by
       have:=hbd _ v0 (q _ _ ⟨_,f,hv0⟩);rw[f,ai]at this;omega
      have hb2:∀j v,uD F2 j v→j.length≤1000000:=fun j v d=>by
       rcases((hd2 j v).1 (.inr d)).2 with⟨e,_⟩|h
       ·rw[e];simp
       ·exact hkbd j v h
      refine Se (W:=Pro W P h3) ((rn2.less Pro.hm).upd0 D) (Pro.lt (fun y hy=>aO (hW y hy) o.size) D) hc2 (by rw[A];exact T.1) (by rw[←kg ksl,A];exact hlb) hb2 fun h4 r4 o4 V hm4 hr4=>?_
      rw[A]at hm4;have b4:=V.get0 b3;have ho4:=U.upd V fun _ _ h=>h
      have hu04:=E.tr V;have hz2:h.size≤P.size:=o.size;have hil:i<ks.length:=by rw[X.1];exact hi
      have hlen4:=ho4.len;rcases hr4 with⟨rfl,rfl⟩|⟨b4',sl4,m4,rfl,rfl,hsl4,rn4⟩
      ·rcases hm4 with⟨_,B⟩|⟨_,e,_⟩
       ·have ew:ac .i64 ((i:Int)+1)=((i+1:Nat):Int):=by rw[kD (by omega)];omega
        refine aA.2 ⟨_,rfl,s3,gq (i:=3) b4,?_⟩;simp only;rw[ew];refine Qh ho4 hil (by rw[X.1];omega) fun s5 h5 S J=>?_
        have b5:=J.get b4 fun hx=>by have:=hx.1;omega
        refine⟨_,rfl,V8 (i:=3) b5 (show 3<5 by decide),Ie (i:=3) (c':=GA sl w.isSome val s5 none) b5 rfl fun h6 b6 hu6=>?_⟩
        have O:Upd No h h6:=(hu04.trans J fun x hx=>.inr (by have:=hx.1;omega)).own hu6 hz2
        have ho6:=S.upd hu6 fun x hx e=>by have e:x=P.size:=e;have:=hx.1;omega
        refine hk h6 P.size w _ true O ⟨val,s5,none,_,b6,hv,ho6.sl (fun x hx _ L=>by have:=hW _ L;have:=hx.1;omega),⟨ho6.cap,fun hx=>by have:=hW _ hx;omega⟩,mM.2 (by rw[Fo.to_of];exact((X.upd0 O).take i).app ((X.upd0 O).drop (i+1)))⟩ (Xj hc) (Hn p (Q fun k' v' hN=>?_)) (fun h=>by cases h) fun _=>I
        refine Classical.byContradiction fun hne=>B k' v' ((hdn k' v').2 ⟨hne,hN⟩)
       ·cases e
      ·rcases hm4 with⟨e,_⟩|⟨m',e,hcn,hhd,hiff⟩
       ·cases e
       ·cases e
        obtain⟨a3,ha3,Z,hw3,S,J⟩:=OwnS.setAt ho4 hil (some ⟨b4',0,none⟩);refine af.2 ⟨_,rfl,s3,gq (i:=3) b4,⟨by simp only;omega,by simp only;omega⟩,a3,ha3,?_⟩
        have hw1:Wr h4 (adr a3 (i*1)):=by
         rcases hw3 with L|⟨b',hb',L⟩
         ·cases L
         ·cases hb';exact L 0 (by simp)
        refine⟨hw1,bi ?_⟩;have b5:=J.get b4 fun e=>by have e:P.size=a3.block:=e;have:=Z.1;omega
        have hu45:Upd No P _:=(D.tr V).trans J fun x hx=>.inr (by have hx:x=a3.block:=hx;have:=Z.1;omega)
        have hu05:=o.tr hu45;have eset:ks.set i (some ⟨b4',0,none⟩)=ks.take i++some ⟨b4',0,none⟩::ks.drop (i+1):=by rw[dD,if_pos hil]
        rw[←eset]at S;have rn5:=(rn4.updM (M:=(· =a3.block)) J fun y hy=>.inl (.inr (by have hy:y=a3.block:=hy;have:=Z.1;have:=Z.2;omega))).less (W':=W) fun y hy=>.inl (.inl hy)
        exact hk _ P.size w _ true hu05 ⟨val,s3,none,_,b5,hv,S.sl (fun x hx _ L=>by have:=hW _ L;have:=hx.1;omega),⟨S.cap,fun hx=>by have:=hW _ hx;omega⟩,mM.2 (by rw[Fo.to_of];exact hrset hu05 ⟨b4',sl4,rfl,hsl4,rn5⟩)⟩ (g hcn hhd) (Hn p (N fun k' v'=>by rw[hiff k' v'];exact hdn k' v')) (fun h=>by cases h) fun _=>I
    ·rw[A]at B
     refine aA.2 (t (Upd.refl _ _) fun v d=>?_)
     rcases d with⟨h,_⟩|d
     ·exact p h
     ·obtain⟨r',e,_⟩:=C v d
      exact B r' e
end Go.Proofs
namespace Go.Proofs
open Go Go.Lift
theorem Sk{w:Option ByteArray}{F:Fo}{l:List Pr}(h:∀k v,(k,v)∈UE w F↔∃p∈l,p.1.data.toList=k∧p.2=v)(b:Fit l):∀j v,uD F j v→j.length≤1000000:=fun j v hi=>by
 obtain⟨p,a,e,_⟩:=(h j v).1 (qS.2 (.inr hi));have:=(b p a).1;rw[←e,kg];omega
theorem KO{W:Nat→Prop}{h:ad}{b:Nat}{l:List Pr}(t:RadAt W h b l)(D:∀y,W y→y<h.size)(J:Fit l)(k:ByteArray){K:Option Addr×Bool→ad→Prop}
  (N:∀h' b',Upd No h h'→RadAt W h' b' (oZ k l)→(cG l k=false→b'=b)→K (some ⟨b',0,none⟩,cG l k) h'):
  HC PG xb [.pointer none,.pointer (some ⟨b,0,none⟩),.string k] [.c .ptr,.c .bool] K h:=by
 refine LN none (some ⟨b,0,none⟩) k ?_;unfold Dc Fj;refine DI (.inr ⟨b,rfl,t⟩) D fun R b2 E g B=>?_
 have u:b2=b:=by
  rcases B with e|e
  ·cases e;rfl
  ·cases e
 subst u;obtain⟨w,F,O,I,s⟩:=E.ex;refine Uq (k.size+1) k (by omega) O (fun y Q=>aO (D y Q) g.size) I (Sk s J) fun P b3 w' H a o m z C i x=>?_
 have f:∀v,ww w F k.data.toList v↔(k,v)∈l:=fun v=>by
  rw[←qS,s];constructor
  ·rintro⟨p,n,e1,rfl⟩
   rw[←tI.1 e1];exact n
  ·intro n;exact⟨_,n,rfl,rfl⟩
 have A:a=cG l k:=by
  cases a with
  |false=>
   refine(Ng fun q d e=>(i rfl).2 q.2 ((f _).2 ?_)).symm
   rw[←e];exact d
  |true=>
   obtain⟨v,G⟩:=x rfl;exact(List.any_eq_true.2 ⟨_,(f v).1 G,decide_eq_true rfl⟩).symm
 subst A;refine N P b3 (g.tr o) ⟨w',H,m,z,fun j v=>?_⟩ fun L=>(i L).1
 rw[qS,C j v,←qS,s];constructor
 ·rintro⟨c,q,d,rfl,rfl⟩
  exact⟨q,Rm.2 ⟨d,fun e=>c (by rw[e])⟩,rfl,rfl⟩
 ·rintro⟨q,d,rfl,rfl⟩
  obtain⟨d,c⟩:=Rm.1 d;exact⟨fun e=>c (tI.1 e),q,d,rfl,rfl⟩
theorem Mv{W:Nat→Prop}{x:Hs}{h:ad}{kind:Int}{t:Tr}{l:List Pr}(i:TreeIs W h kind x t l)(hW:∀y,W y→y<h.size)(hr:eY l)(hf:Fit l)(hn:l.length≤1000000)(k:ByteArray)(P:k.size≤256){K:Tr×Int→ad→Prop}
  (G:∀h' j,TreeIs W h' kind x j (oZ k l)→(cG l k=false→j=t)→Upd No h h'→K (j,if cG l k then 0 else 4) h'):HC PG nt [RU t,.pointer none,.string k] [.agg [.int .i64,.int .u64,.int .u64,.int .u64,.ptr,.ptr],.c (.int .i64)] K h:=by
 refine Ae t none k ?_;unfold sh aj fx nv ez bM rD ae ao qc mP hG xT Fj;refine cH fun d b1 k1=>cH fun s b2 Q=>?_
 have z1:=bB b1;have z2:=bB b2;have X:h.size≤d.size:=k1.size;have S:=k1.tr Q;refine Jy (v:=⟨#[]⟩) P (Nat.zero_le 4096) (af.2 ?_);have c1:=Q.get0 b1;refine⟨_,vc c1 0,_,vc c1 1,_,vc c1 2,_,vc c1 3,_,vc c1 4,_,vc c1 5,?_⟩;refine cH fun h3 b3 Z=>?_
 have z3:=bB b3;have s2:d.size≤s.size:=Q.size;refine dd (c:=pU Dx) (vs:=pU t) b3 rfl fun E V A=>?_
 have w:Upd No h E:=(S.tr Z).own A (by omega);have C:Upd No s E:=Z.own A (au _);have s4:h3.size≤E.size:=A.size;have u:=C.get0 c1;have Y:=C.get0 b2;have i4:=i.pro w;have D:=Pro.lt hW w;have N:∀{a:ad} {j:Tr},Upd No h a→a[h.size]? =some (.cells (pU j).toArray cg (0,0))→a[d.size]? =some (.cells (pU Dx).toArray cg (0,0))→a[s.size]? =some (.cells (pU t).toArray cg (0,0))→TreeIs (Pro W h E) a kind x j (oZ k l)→(cG l k=false→j=t)→
   CondP (!cG l k) (∃v41:Int,aD a (adr (aH s) 0)=some (.int .i64 v41)∧
    ∃v42:Int,aD a (adr (aH s) 1)=some (.int .u64 v42)∧
    ∃v43:Int,aD a (adr (aH s) 2)=some (.int .u64 v43)∧
    ∃v44:Int,aD a (adr (aH s) 3)=some (.int .u64 v44)∧
    ∃v45:Option Addr,aD a (adr (aH s) 4)=some (.pointer v45)∧
    ∃v46:Option Addr,aD a (adr (aH s) 5)=some (.pointer v46)∧
    (sN a (some (aH d)) 0 [.int .i64 v41,.int .u64 v42,.int .u64 v43,.int .u64 v44,.pointer v45,.pointer v46]∧
     At (ib a (aH d) 0 [.int .i64 v41,.int .u64 v42,.int .u64 v43,.int .u64 v44,.pointer v45,.pointer v46]) (fun n=>
      ∃v48:Int,aD n (adr (aH d) 0)=some (.int .i64 v48)∧
      ∃v49:Int,aD n (adr (aH d) 1)=some (.int .u64 v49)∧
      ∃v50:Int,aD n (adr (aH d) 2)=some (.int .u64 v50)∧
      ∃v51:Int,aD n (adr (aH d) 3)=some (.int .u64 v51)∧
      ∃v52:Option Addr,aD n (adr (aH d) 4)=some (.pointer v52)∧
      ∃v53:Option Addr,aD n (adr (aH d) 5)=some (.pointer v53)∧
      K ((v48,v49,v50,v51,v52,v53),4) n))) (
    ∃v54:Int,aD a (adr (aH h) 0)=some (.int .i64 v54)∧
    ∃v55:Int,aD a (adr (aH h) 1)=some (.int .u64 v55)∧
    ∃v56:Int,aD a (adr (aH h) 2)=some (.int .u64 v56)∧
    ∃v57:Int,aD a (adr (aH h) 3)=some (.int .u64 v57)∧
    ∃v58:Option Addr,aD a (adr (aH h) 4)=some (.pointer v58)∧
    ∃v59:Option Addr,aD a (adr (aH h) 5)=some (.pointer v59)∧
    (sN a (some (aH d)) 0 [.int .i64 v54,.int .u64 v55,.int .u64 v56,.int .u64 v57,.pointer v58,.pointer v59]∧
     At (ib a (aH d) 0 [.int .i64 v54,.int .u64 v55,.int .u64 v56,.int .u64 v57,.pointer v58,.pointer v59]) (fun m=>
      ∃v61:Int,aD m (adr (aH d) 0)=some (.int .i64 v61)∧
      ∃v62:Int,aD m (adr (aH d) 1)=some (.int .u64 v62)∧
      ∃v63:Int,aD m (adr (aH d) 2)=some (.int .u64 v63)∧
      ∃v64:Int,aD m (adr (aH d) 3)=some (.int .u64 v64)∧
      ∃v65:Option Addr,aD m (adr (aH d) 4)=some (.pointer v65)∧
      ∃v66:Option Addr,aD m (adr (aH d) 5)=some (.pointer v66)∧
      K ((v61,v62,v63,v64,v65,v66),0) m))):=fun{a j} H z e1 e2 I f=>by
  cases B:cG l k with
  |false=>
   rw[B]at G f;have J:=f rfl;subst J;refine aA.2 ⟨_,vc e2 0,_,vc e2 1,_,vc e2 2,_,vc e2 3,_,vc e2 4,_,vc e2 5,?_⟩;refine dd (c:=pU Dx) (vs:=pU j) e1 rfl fun O o p=>?_
   refine⟨_,vc o 0,_,vc o 1,_,vc o 2,_,vc o 3,_,vc o 4,_,vc o 5,?_⟩;exact G O j ((I.updM p (fun y q=>.inl (.inr (by have q:y=d.size:=q;omega)))).less Pro.sub) (fun _=>rfl) (H.own p X)
  |true=>
   rw[B]at G f;refine af.2 ⟨_,vc z 0,_,vc z 1,_,vc z 2,_,vc z 3,_,vc z 4,_,vc z 5,?_⟩;refine dd (c:=pU Dx) (vs:=pU j) e1 rfl fun O o p=>?_
   refine⟨_,vc o 0,_,vc o 1,_,vc o 2,_,vc o 3,_,vc o 4,_,vc o 5,?_⟩;exact G O j ((I.updM p (fun y q=>.inl (.inr (by have q:y=d.size:=q;omega)))).less Pro.sub) (fun h=>by cases h) (H.own p X)
 refine Join.intro (fun tk a=>tk=cG l k∧Upd No h a∧∃j,a[h.size]? =some (.cells (pU j).toArray cg (0,0))∧a[d.size]? =some (.cells (pU Dx).toArray cg (0,0))∧a[s.size]? =some (.cells (pU t).toArray cg (0,0))∧TreeIs (Pro W h E) a kind x j (oZ k l)∧(cG l k=false→j=t)) (fun R hR=>?_) ?_
 ·rcases i4 with⟨rfl,b,rfl,T⟩|⟨rfl,b,rfl,T⟩
  ·refine⟨_,vc u 0,af.2 ⟨_,Aa u 1 0,_,Aa u 1 1,_,Aa u 1 2,_,vc u 4,?_⟩⟩
   refine LA T D hr hn k fun h5 F g U f=>?_
   refine oz (i:=4) (c':=(pU (0,x.k0,x.k1,x.mask,some ⟨F,0,none⟩,none)).toArray) (g.get0 u) (show 4<6 by decide) rfl fun a L e=>?_
   exact hR _ _ ⟨rfl,(w.tr g).own e (au _),_,L,e.oth (g.get0 Y) (by omega),e.oth (g.get0 V) (by omega),.inl ⟨rfl,F,rfl,TrieAt.updM e (fun y q=>.inl (.inr (by have q:y=h.size:=q;omega))) U⟩,fun B=>by rw[f B]⟩
  ·refine⟨_,vc u 0,aA.2 ⟨_,vc u 5,?_⟩⟩
   refine KO T D hf k fun h5 F g U f=>?_
   refine oz (i:=5) (c':=(pU (1,0,0,0,none,some ⟨F,0,none⟩)).toArray) (g.get0 u) (show 5<6 by decide) rfl fun a L e=>?_
   exact hR _ _ ⟨rfl,(w.tr g).own e (au _),_,L,e.oth (g.get0 Y) (by omega),e.oth (g.get0 V) (by omega),.inr ⟨rfl,F,rfl,U.updM e (fun y q=>.inl (.inr (by have q:y=h.size:=q;omega)))⟩,fun B=>by rw[f B]⟩
 ·rintro _ a ⟨rfl,H,j,z,e1,e2,I,f⟩
  exact N H z e1 e2 I f
end Go.Proofs
namespace Go.Proofs
open Go Go.Lift
end Go.Proofs
namespace Go.Proofs
open Go Go.Lift
theorem SM(p:Pr)(l:List Pr)(k:ByteArray):look (p::l) k=if p.1=k then some p.2 else look l k:=by
 unfold look;rw[List.find?_cons];by_cases e:p.1=k
 ·rw[decide_eq_true e,if_pos e];rfl
 ·rw[decide_eq_false e,if_neg e]
theorem Np{k v:ByteArray}:∀{l:List Pr},look l k=some v→(k,v)∈l
 | [],h=>by cases h
 |p::l,h=>by
  rw[SM]at h;by_cases e:p.1=k
  ·rw[if_pos e]at h;cases h;rw[←e];exact List.mem_cons_self ..
  ·rw[if_neg e]at h;exact List.mem_cons_of_mem _ (Np h)
def wU(c:Ch):Bool:=(!((!c.2.2.2.1&& !c.2.2.2.2)||(c.2.2.2.1&&(c.2.2.2.2&&decide (c.2.1=c.2.2.1)))))&&((c.2.2.2.1||decide (c.2.1=⟨#[]⟩))&&(c.2.2.2.2||decide (c.2.2.1=⟨#[]⟩)))
def YD(a b:Ch):Ch:=(a.1,a.2.1,b.2.2.1,a.2.2.2.1,b.2.2.2.2)
def Nk(a b:Ch):Bool:=a.2.2.2.2==b.2.2.2.1&&decide (a.2.2.1=b.2.1)
def one(c:Ch):Option Ch:=if wU c then some c else none
end Go.Proofs
namespace Go.Proofs
open Go Go.Lift
end Go.Proofs
namespace Go.Proofs
open Go Go.Lift
theorem Uu(k o n:ByteArray):wU (k,o,n,false,true)=decide (o=⟨#[]⟩):=by simp[wU]
theorem Ut(k o n:ByteArray):wU (k,o,n,true,false)=decide (n=⟨#[]⟩):=by simp[wU]
theorem Us(k o n:ByteArray):wU (k,o,n,true,true)= !decide (o=n):=by simp[wU]
theorem Ql{c:Ch}{h:ad}{K:Bool→ad→Prop}(a:∀h',Upd No h h'→K (wU c) h'):HC PG nA [.agg #[.string c.1,.string c.2.1,.string c.2.2.1,.bool c.2.2.2.1,.bool c.2.2.2.2]] [.c .bool] K h:=by
 refine Ak c ?_;unfold sx ah aZ PE;refine cH fun b b1 k1=>?_
 obtain⟨k,o,n,w,i⟩:=c;have a:=a b k1;refine Join.plain ?_;cases w<;>cases i
 ·exact⟨false,vc b1 3,aA.2 ⟨false,vc b1 4,aA.2 (aA.2 a)⟩⟩
 ·rw[Uu]at a
  refine⟨false,vc b1 3,aA.2 ⟨true,vc b1 4,af.2 ⟨false,vc b1 3,af.2 (af.2 ⟨false,vc b1 3,af.2 ⟨o,vc b1 1,?_⟩⟩)⟩⟩⟩;rw[di];cases e:decide (o=⟨#[]⟩)with
  |true=>rw[e]at a;exact aA.2 ⟨true,vc b1 4,aA.2 a⟩
  |false=>rw[e]at a;exact af.2 a
 ·rw[Ut]at a
  refine⟨true,vc b1 3,af.2 ⟨true,vc b1 3,aA.2 ⟨false,vc b1 4,af.2 (af.2 ⟨true,vc b1 3,aA.2 ⟨false,vc b1 4,af.2 ⟨n,vc b1 2,?_⟩⟩⟩)⟩⟩⟩;rw[di];exact a
 ·rw[Us]at a
  refine⟨true,vc b1 3,af.2 ⟨true,vc b1 3,aA.2 ⟨true,vc b1 4,aA.2 ⟨o,vc b1 1,n,vc b1 2,?_⟩⟩⟩⟩;rw[di];cases e:decide (o=n)with
  |true=>rw[e]at a;exact aA.2 a
  |false=>rw[e]at a;exact af.2 ⟨true,vc b1 3,aA.2 ⟨true,vc b1 4,aA.2 a⟩⟩
end Go.Proofs
namespace Go.Proofs
open Go Go.Lift
end Go.Proofs
namespace Go.Proofs
open Go Go.Lift
abbrev aaO(h h':ad)(s:SliceV)(O:List Ch):Prop:=OwnS sg 5 cx (fun y=>h.size≤y) h' s O
set_option maxRecDepth 100000 in
theorem joinTail{h g:ad}{d:SliceV×SliceV×SliceV}{O:List Ch}{a b:Ch}{s pb:Nat}{X:SliceV×SliceV×SliceV→ad→Prop}{K:SliceV×Int→ad→Prop}
  (H:g[s]? =some (.cells (sg a).toArray cx (0,0))) (N:g[pb]? =some (.cells (sg b).toArray cx (0,0))) (ho:aaO h g d.2.2 O) (hO:O.length≤1000000) (Y:Upd No h g) (h1:1≤d.1.len) (h2:1≤d.2.1.len)
  (hc:Nk a b=false→K (⟨none,0,0⟩,8) g)
  (T:Nk a b=true→∀s' h',aaO h h' s' (O++(one (YD a b)).toList)→Upd No h h'→X (⟨aV d.1.a 1 d.1.cap 5,d.1.len-1,d.1.cap-1⟩,⟨aV d.2.1.a 1 d.2.1.cap 5,d.2.1.len-1,d.2.1.cap-1⟩,s') h'):
  Join (fun(S:Bool) f=>
  CondP S (
  K (⟨none,0,0⟩,8) f) (
  ∃v78:ByteArray,aD f (adr ⟨s,0,none⟩ 0)=some (.string v78)∧
  ∃v79:ByteArray,aD f (adr ⟨s,0,none⟩ 1)=some (.string v79)∧
  ∃v80:ByteArray,aD f (adr ⟨pb,0,none⟩ 2)=some (.string v80)∧
  ∃v81:Bool,aD f (adr ⟨s,0,none⟩ 3)=some (.bool v81)∧
  ∃v82:Bool,aD f (adr ⟨pb,0,none⟩ 4)=some (.bool v82)∧
  At (hnew f [.string (⟨#[]⟩:ByteArray),.string (⟨#[]⟩:ByteArray),.string (⟨#[]⟩:ByteArray),.bool false,.bool false] cx) (fun F=>
  (sN F (some (aH f)) 0 [.string v78,.string v79,.string v80,.bool v81,.bool v82]∧
  At (ib F (aH f) 0 [.string v78,.string v79,.string v80,.bool v81,.bool v82]) (fun j=>
  Join (fun(A:SliceV) v=>
  (((0:Int)≤(1:Int)∧(1:Int)≤((d.1.len:Nat):Int))∧
  Bd (aV d.1.a ((1:Int).toNat) d.1.cap 5:Option Addr) (fun I=>Bd (d.1.len-((1:Int).toNat):Nat) (fun z=>Bd (d.1.cap-((1:Int).toNat):Nat) (fun J=>
  (((0:Int)≤(1:Int)∧(1:Int)≤((d.2.1.len:Nat):Int))∧
  Bd (aV d.2.1.a ((1:Int).toNat) d.2.1.cap 5:Option Addr) (fun x=>Bd (d.2.1.len-((1:Int).toNat):Nat) (fun E=>Bd (d.2.1.cap-((1:Int).toNat):Nat) (fun u=>
  X (⟨I,z,J⟩,⟨x,E,u⟩,A) v))))))))) (fun B=>
  ∃v86:ByteArray,aD j (adr (aH f) 0)=some (.string v86)∧
  ∃v87:ByteArray,aD j (adr (aH f) 1)=some (.string v87)∧
  ∃v88:ByteArray,aD j (adr (aH f) 2)=some (.string v88)∧
  ∃v89:Bool,aD j (adr (aH f) 3)=some (.bool v89)∧
  ∃v90:Bool,aD j (adr (aH f) 4)=some (.bool v90)∧
  HC PG nA [.agg #[.string v86,.string v87,.string v88,.bool v89,.bool v90]] [.c .bool] (fun(W:Bool) i=>
  CondP W (
  ∃v93:ByteArray,aD i (adr (aH f) 0)=some (.string v93)∧
  ∃v94:ByteArray,aD i (adr (aH f) 1)=some (.string v94)∧
  ∃v95:ByteArray,aD i (adr (aH f) 2)=some (.string v95)∧
  ∃v96:Bool,aD i (adr (aH f) 3)=some (.bool v96)∧
  ∃v97:Bool,aD i (adr (aH f) 4)=some (.bool v97)∧
  At (hnew i [.string v93,.string v94,.string v95,.bool v96,.bool v97] cx) (fun C=>
  ∃xs99,SRow C (some (aH i)) (1*5) xs99∧
  AppP (some [.string (⟨#[]⟩:ByteArray),.string (⟨#[]⟩:ByteArray),.string (⟨#[]⟩:ByteArray),.bool false,.bool false]) 5 56 cx d.2.2.a d.2.2.len d.2.2.cap 1 xs99 C (fun D w=>
  B D w))) (
  B d.2.2 i)) j)))))) (fun G=>
  ∃v72:Bool,aD g (adr ⟨s,0,none⟩ 4)=some (.bool v72)∧
  ∃v73:Bool,aD g (adr ⟨pb,0,none⟩ 3)=some (.bool v73)∧
  CondP (!(v72==v73)) (
  G true g) (
  ∃v74:ByteArray,aD g (adr ⟨s,0,none⟩ 2)=some (.string v74)∧
  ∃v75:ByteArray,aD g (adr ⟨pb,0,none⟩ 1)=some (.string v75)∧
  G (!(v74.toList==v75.toList)) g)):=by
 have hm:Nk a b=(a.2.2.2.2==b.2.2.2.1&&decide (a.2.2.1=b.2.1)):=rfl;refine Join.intro (fun t f=>t=(!Nk a b)∧f=g) (fun R n=>?_) ?_
 ·refine⟨_,vc H 4,_,vc N 3,?_⟩
  rw[hm]at n;cases e:(a.2.2.2.2==b.2.2.2.1)with
  |false=>rw[e]at n;exact aA.2 (n _ _ ⟨rfl,rfl⟩)
  |true=>rw[e]at n;exact af.2 ⟨_,vc H 2,_,vc N 1,n _ _ ⟨by rw[di];rfl,rfl⟩⟩
 rintro t f ⟨rfl,rfl⟩;cases hme:Nk a b with
 |false=>exact aA.2 (hc hme)
 |true=>
  have T:=T hme;refine af.2 ⟨_,vc H 0,_,vc H 1,_,vc N 2,_,vc H 3,_,vc N 4,?_⟩;refine Y9 (c:=YD a b) fun j k L=>?_
  have Q:=Y.tr L;have s77:=Y.size;refine Join.intro (fun s' h'=>aaO h h' s' (O++(one (YD a b)).toList)∧Upd No h h') (fun R n=>?_) ?_
  ·refine⟨_,vc k 0,_,vc k 1,_,vc k 2,_,vc k 3,_,vc k 4,?_⟩
   refine Ql (c:=YD a b) fun i q=>?_
   have m:=q.get0 k;have p:=Q.tr q;have o:=ho.upd (L.tr q) fun _ _ h=>h
   unfold one at n;cases er:wU (YD a b)with
   |false=>
    rw[er]at n;refine af.2 (n _ _ ⟨?_,p⟩);rw[if_neg Bool.false_ne_true,Option.toList_none,List.append_nil];exact o
   |true=>
    rw[er]at n;refine aA.2 ⟨_,vc m 0,_,vc m 1,_,vc m 2,_,vc m 3,_,vc m 4,?_⟩;have s92:=p.size;refine VN (c:=YD a b) o (fun y Z=>by omega) (by omega) fun s3 h3 U P=>n _ _ ⟨U,p.trans P fun y Z=>.inr Z⟩
  ·rintro s' h' ⟨V,u'⟩
   exact⟨⟨by omega,by omega⟩,⟨by omega,by omega⟩,T s' h' V u'⟩
end Go.Proofs
namespace Go.Proofs
open Go Go.Lift
end Go.Proofs
namespace Go.Proofs
open Go Go.Lift
end Go.Proofs
namespace Go.Proofs
open Go Go.Lift
end Go.Proofs
namespace Go.Proofs
open Go Go.Lift
end Go.Proofs
namespace Go.Proofs
open Go Go.Lift
def YW(o:Option ByteArray):Sd:=(o.getD ⟨#[]⟩,o.isSome)
def YS(b o t:Option ByteArray)(p:Int):Option ByteArray×Bool:=if o=t∨t=b then(o,true)else if o=b then(t,true)else if p=1 then(o,false)else if p=2 then(t,false)else(b,false)
def WA(L:List Pr)(k:ByteArray):Option ByteArray→List Pr
 |some v=>j8 (k,v) L
 |none=>oZ k L
def tk(B O T:List Pr)(p:Int)(k:ByteArray):Option ByteArray×Bool:=YS (look B k) (look O k) (look T k) p
end Go.Proofs
namespace Go.Proofs
open Go Go.Lift Go.Sort
abbrev Vu:Value:=.func (.func yQ) #[] #[]
def DW(dec:Int→Ch)(i j:Int):Bool:=aac (dec i) (dec j)
structure SA(dec:Int→Ch)(M:Nat→Prop)(s:SliceV)(h:ad)(d:Array Int):Prop where
 own:OwnS sg 5 cx M h s (d.toList.map dec)
 small:d.size≤1000000000
 lt:∀b,M b→b<h.size
variable {dec:Int→Ch} {M:Nat→Prop} {s:SliceV} {h:ad} {d:Array Int}
theorem SA.len(a:SA dec M s h d):s.len=d.size:=by have:=a.own.len;simpa using this
theorem SA.upd0{h':ad}(a:SA dec M s h d)(k:Upd No h h'):SA dec M s h' d:=⟨a.own.upd k fun _ _ h=>h,a.small,fun b c=>aO (a.lt b c) k.size⟩
theorem SA.at(c:SA dec M s h d){i:Nat}(hi:i<d.size):∃a,s.a=some a∧∀j v,(sg (dec d[i]!))[j]? =some v→aD h (adr (adr a (((i:Int)).toNat*5)) j)=some v:=by
 have hx:(d.toList.map dec)[i]? =some (dec d[i]!):=by
  rw[List.getElem?_map,Array.getElem?_toList,Array.getElem?_eq_getElem hi,getElem!_pos d i hi];rfl
 obtain⟨a,b,_,e⟩:=(c.own.sl (W:=No) fun _ _ _ h=>h).at hx
 exact⟨a,b,by simpa using e⟩
theorem SA.rd(c:SA dec M s h d){t:Int}{i:Nat}(f:t=(i:Int))(hi:i<d.size){R:ByteArray→ByteArray→ByteArray→Bool→Bool→Prop}(e:R (dec d[i]!).1 (dec d[i]!).2.1 (dec d[i]!).2.2.1 (dec d[i]!).2.2.2.1 (dec d[i]!).2.2.2.2):
  ((0:Int)≤t∧t<((s.len:Nat):Int))∧∃a:Addr,s.a=some a∧∃v1:ByteArray,aD h (adr (adr a (t.toNat*5)) 0)=some (.string v1)∧∃v2:ByteArray,aD h (adr (adr a (t.toNat*5)) 1)=some (.string v2)∧∃v3:ByteArray,aD h (adr (adr a (t.toNat*5)) 2)=some (.string v3)∧∃v4:Bool,aD h (adr (adr a (t.toNat*5)) 3)=some (.bool v4)∧∃v5:Bool,aD h (adr (adr a (t.toNat*5)) 4)=some (.bool v5)∧R v1 v2 v3 v4 v5:=by
 subst f;obtain⟨a,g,b⟩:=c.at hi;exact⟨by rw[c.len];omega,a,g,_,b 0 _ rfl,_,b 1 _ rfl,_,b 2 _ rfl,_,b 3 _ rfl,_,b 4 _ rfl,e⟩
theorem SA.st(e:SA dec M s h d){t:Int}{i:Nat}{x:Int}(o:t=(i:Int))(hi:i<d.size){R:ad→Prop}(m:∀h',SA dec M s h' (d.setIfInBounds i x)→Upd M h h'→R h'):
  ((0:Int)≤t∧t<((s.len:Nat):Int))∧∃a:Addr,s.a=some a∧(sN h (some (adr a (t.toNat*5))) 0 [.string (dec x).1,.string (dec x).2.1,.string (dec x).2.2.1,.bool (dec x).2.2.2.1,.bool (dec x).2.2.2.2]∧At (ib h (adr a (t.toNat*5)) 0 [.string (dec x).1,.string (dec x).2.1,.string (dec x).2.2.1,.bool (dec x).2.2.2.1,.bool (dec x).2.2.2.2]) R):=by
 subst o;obtain⟨a,p,hM,n,j,g⟩:=OwnS.setAt e.own (k:=i) (by simpa using hi) (dec x);refine⟨by rw[e.len];omega,a,p,?_⟩;rw[ak];have f:Upd M h _:=g.mono fun b c=>.inl (by have c:b=a.block:=c;rw[c];exact hM)
 refine⟨n,bi (m _ ⟨?_,by simpa using e.small,fun b c=>aO (e.lt b c) g.size⟩ f)⟩
 rw[show(d.setIfInBounds i x).toList.map dec=(d.toList.map dec).take i++dec x::(d.toList.map dec).drop (i+1) by
  rw[Array.toList_setIfInBounds,List.map_set,dD,if_pos (by simpa using hi)]]
 exact j
@[simp] theorem YV(d:Array Int)(i j:Nat):(swp d i j).size=d.size:=by simp[swp]
theorem SA.swap(k:SA dec M s h d){c b:Int}{i j:Nat}(n:c=(i:Int))(o:b=(j:Int))(hi:i<d.size)(m:j<d.size){R:ad→Prop}(p:∀h',SA dec M s h' (swp d i j)→Upd M h h'→R h'):
  ((0:Int)≤b∧b<((s.len:Nat):Int))∧∃a:Addr,s.a=some a∧∃v1:ByteArray,aD h (adr (adr a (b.toNat*5)) 0)=some (.string v1)∧∃v2:ByteArray,aD h (adr (adr a (b.toNat*5)) 1)=some (.string v2)∧∃v3:ByteArray,aD h (adr (adr a (b.toNat*5)) 2)=some (.string v3)∧∃v4:Bool,aD h (adr (adr a (b.toNat*5)) 3)=some (.bool v4)∧∃v5:Bool,aD h (adr (adr a (b.toNat*5)) 4)=some (.bool v5)∧
   (((0:Int)≤c∧c<((s.len:Nat):Int))∧∃a:Addr,s.a=some a∧∃w1:ByteArray,aD h (adr (adr a (c.toNat*5)) 0)=some (.string w1)∧∃w2:ByteArray,aD h (adr (adr a (c.toNat*5)) 1)=some (.string w2)∧∃w3:ByteArray,aD h (adr (adr a (c.toNat*5)) 2)=some (.string w3)∧∃w4:Bool,aD h (adr (adr a (c.toNat*5)) 3)=some (.bool w4)∧∃w5:Bool,aD h (adr (adr a (c.toNat*5)) 4)=some (.bool w5)∧
    (((0:Int)≤c∧c<((s.len:Nat):Int))∧∃a:Addr,s.a=some a∧(sN h (some (adr a (c.toNat*5))) 0 [.string v1,.string v2,.string v3,.bool v4,.bool v5]∧At (ib h (adr a (c.toNat*5)) 0 [.string v1,.string v2,.string v3,.bool v4,.bool v5]) (fun g=>
     (((0:Int)≤b∧b<((s.len:Nat):Int))∧∃a:Addr,s.a=some a∧(sN g (some (adr a (b.toNat*5))) 0 [.string w1,.string w2,.string w3,.bool w4,.bool w5]∧At (ib g (adr a (b.toNat*5)) 0 [.string w1,.string w2,.string w3,.bool w4,.bool w5]) R)))))):=by
 refine k.rd o m (k.rd n hi (k.st (x:=d[j]!) n hi fun g e k1=>e.st (x:=d[i]!) o (by simpa using m) fun t f q=>p t f (k1.tr q)))
theorem SA.less(f:SA dec M s h d){c b:Int}{i j:Nat}(o:c=(i:Int))(p:b=(j:Int))(hi:i<d.size)(m:j<d.size){R:Int→ad→Prop}(n:∀h' e,SA dec M s h' d→Upd No h h'→decide (e<0)=DW dec d[i]! d[j]!→R e h'):
  ((0:Int)≤c∧c<((s.len:Nat):Int))∧∃a:Addr,s.a=some a∧∃v1:ByteArray,aD h (adr (adr a (c.toNat*5)) 0)=some (.string v1)∧∃v2:ByteArray,aD h (adr (adr a (c.toNat*5)) 1)=some (.string v2)∧∃v3:ByteArray,aD h (adr (adr a (c.toNat*5)) 2)=some (.string v3)∧∃v4:Bool,aD h (adr (adr a (c.toNat*5)) 3)=some (.bool v4)∧∃v5:Bool,aD h (adr (adr a (c.toNat*5)) 4)=some (.bool v5)∧
   (((0:Int)≤b∧b<((s.len:Nat):Int))∧∃a:Addr,s.a=some a∧∃w1:ByteArray,aD h (adr (adr a (b.toNat*5)) 0)=some (.string w1)∧∃w2:ByteArray,aD h (adr (adr a (b.toNat*5)) 1)=some (.string w2)∧∃w3:ByteArray,aD h (adr (adr a (b.toNat*5)) 2)=some (.string w3)∧∃w4:Bool,aD h (adr (adr a (b.toNat*5)) 3)=some (.bool w4)∧∃w5:Bool,aD h (adr (adr a (b.toNat*5)) 4)=some (.bool w5)∧
    HV PG Vu [.agg #[.string v1,.string v2,.string v3,.bool v4,.bool v5],.agg #[.string w1,.string w2,.string w3,.bool w4,.bool w5]] [.c (.int .i64)] R h):=
 f.rd o hi (f.rd p m ((Zu M).call (dec d[i]!) (dec d[j]!) trivial fun h' e k g=>n h' e (f.upd0 k) k g))
end Go.Proofs
namespace Go.Proofs
open Go Go.Lift Go.Sort
variable {dec:Int→Ch} {M:Nat→Prop} {s:SliceV} {h:ad} {d:Array Int}
@[simp] theorem V6(lt:Int→Int→Bool)(hi first a:Nat)(d:Array Int):(siftDown lt hi first a d).size=d.size:=by
 fun_induction siftDown lt hi first a d<;>simp_all
@[simp] theorem G5(lt:Int→Int→Bool)(hi first:Nat):∀(k:Nat) (d:Array Int),(heapBuild lt hi first k d).size=d.size
 |0,d=>rfl
 |k+1,d=>by rw[heapBuild,G5 lt hi first k];simp
theorem Xy{a hi first:Nat}(N:SA dec M s h d)(Y:first+hi≤d.size){K:Unit→ad→Prop}(J:∀h',SA dec M s h' (siftDown (DW dec) hi first a d)→Upd M h h'→K () h')(U:a≤1000000000):
  HC PG iH [.slice s.a s.len s.cap,.int .i64 a,.int .i64 hi,.int .i64 first,Vu] [] K h:=by
 refine nC s a hi first Vu ?_
 unfold iI bf cU Cp bP cJ nO BZ Fi;have Q:=N.small;refine LoopP.ghost (fun(g:Nat×Array Int) (t:Int) h'=>t=(g.1:Int)∧SA dec M s h' g.2∧g.2.size=d.size∧siftDown (DW dec) hi first g.1 g.2=siftDown (DW dec) hi first a d∧Upd M h h'∧g.1≤1000000000) (fun g=>hi-g.1) (a,d)
  ⟨rfl,N,rfl,rfl,Upd.refl _ _,U⟩ ?_
 rintro I ⟨i,b⟩ t G ⟨H,m,y,n,z,D⟩ V;simp only at H m y n D;subst H;have S:ac .i64 (ac .i64 (2*(i:Int))+1)=((2*i+1:Nat):Int):=by rw[kD (x:=2*(i:Int)) (by omega),kD (by omega)];omega
 have L:ac .i64 (((2*i+1:Nat):Int)+1)=((2*i+2:Nat):Int):=by rw[kD (by omega)];omega
 rw[S];refine aF (fun P=>?_) fun C=>?_
 ·refine J _ ?_ z
  rw[←n,siftDown,dif_pos (by omega)];exact m
 ·have C:2*i+1<hi:=by omega
  refine Join.intro (fun t h'=>SA dec M s h' b∧Upd No G h'∧∃c:Nat,t=(c:Int)∧c=if 2*i+2<hi∧(DW dec) b[first+(2*i+1)]! b[first+(2*i+1)+1]! =true then 2*i+2 else 2*i+1) (fun R O=>?_) ?_
  ·refine Join.intro (fun t h'=>SA dec M s h' b∧Upd No G h'∧(t=true↔2*i+2<hi∧(DW dec) b[first+(2*i+1)]! b[first+(2*i+1)+1]! =true)) (fun R2 u=>?_) ?_
   ·show CondP (decide (ac .i64 (((2*i+1:Nat):Int)+1)<(hi:Int))) _ _
    rw[L];refine aF (fun k=>?_) fun k=>u _ _ ⟨m,Upd.refl _ _,by simp;omega⟩
    show(((0:Int)≤ac .i64 ((first:Int)+((2*i+1:Nat):Int))∧_)∧_)
    refine m.less (i:=first+(2*i+1)) (j:=first+(2*i+1)+1) (by rw[kD (by omega)];omega) (by rw[kD (x:=(first:Int)+_) (by omega),kD (by omega)];omega) (by omega) (by omega) fun h4 e4 e o B=>u _ _ ⟨e,o,?_⟩
    rw[B];simp;omega
   ·rintro t h' ⟨e,o,q⟩
    refine CondP.intro (fun k=>?_) fun k=>?_
    ·show R (ac .i64 (((2*i+1:Nat):Int)+1)) _
     rw[L];exact O _ _ ⟨e,o,_,rfl,by rw[if_pos (q.1 k)]⟩
    ·exact O _ _ ⟨e,o,_,rfl,by rw[if_neg fun W=>by rw[q.2 W]at k;cases k]⟩
  ·rintro t h' ⟨e,o,c,rfl,hc⟩
   have X:c<hi∧i<c:=by rw[hc];split<;>omega
   refine e.less (i:=first+i) (j:=first+c) (by rw[kD (by omega)];omega) (by rw[kD (by omega)];omega) (by omega) (by omega) fun h5 e5 p T E=>?_
   have v:=z.tr (o.tr T).wide;rw[E];have f:siftDown (DW dec) hi first i b=if !(DW dec) b[first+i]! b[first+c]! then b else siftDown (DW dec) hi first c (swp b (first+i) (first+c)):=by
    rw[siftDown,dif_neg (by omega)];by_cases w:2*i+2<hi∧(DW dec) b[first+(2*i+1)]! b[first+(2*i+1)+1]! =true
    ·rw[if_pos (by simp only[aJ,decide_eq_true_iff];exact w),dif_pos w.1]
     rw[if_pos w]at hc;rw[hc]
    ·rw[if_neg (by simp only[aJ,decide_eq_true_iff];exact w)]
     rw[if_neg w]at hc;rw[hc]
   refine CondP.intro (fun k=>?_) fun k=>?_
   ·refine J _ ?_ v
    rw[←n,f,if_pos k];exact p
   ·refine p.swap (i:=first+i) (j:=first+c) (by rw[kD (by omega)];omega) (by rw[kD (by omega)];omega) (by omega) (by omega) fun Z F A=>?_
    refine V (c,swp b (first+i) (first+c)) _ _ ⟨rfl,F,by simp[y],?_,v.tr A,by simp only;omega⟩ (by simp only;omega)
    rw[←n,f,if_neg (by rw[k];simp)]
end Go.Proofs
namespace Go.Proofs
open Go Go.Lift Go.Sort
variable {dec:Int→Ch} {M:Nat→Prop} {s:SliceV} {h:ad} {d:Array Int}
end Go.Proofs
namespace Go.Proofs
open Go Go.Lift Go.Sort
variable {dec:Int→Ch} {M:Nat→Prop} {s:SliceV} {h:ad} {d:Array Int}
@[simp] theorem Gw(lt:Int→Int→Bool):∀(j:Nat) (d:Array Int),(shiftDown lt j d).size=d.size
 |0,d=>rfl
 |j+1,d=>by rw[shiftDown];split;rfl;rw[Gw lt j];simp
@[simp] theorem Wz(lt:Int→Int→Bool)(e j:Nat)(d:Array Int):(shiftUp lt e j d).size=d.size:=by
 fun_induction shiftUp lt e j d<;>simp_all
theorem V9{a e:Nat}(hs:SA dec M s h d)(ha:a<e)(he:e≤d.size){K:Bool→ad→Prop}(Q:∀h',SA dec M s h' (partialInsertionSort (DW dec) d a e).1→Upd M h h'→K (partialInsertionSort (DW dec) d a e).2 h'):
  HC PG fA [.slice s.a s.len s.cap,.int .i64 a,.int .i64 e,Vu] [.c .bool] K h:=by
 refine jx s a e Vu ?_;unfold fC bf cU Cp bP cJ nO BZ Fi;have hsm:=hs.small;refine LoopP.ghost (fun(g:Nat×Nat×Array Int) (t:Int×Int) h'=>t.1=(g.2.1:Int)∧t.2=5-(g.1:Int)∧SA dec M s h' g.2.2∧g.2.2.size=d.size∧partialIns (DW dec) a e g.1 g.2.1 g.2.2=partialInsertionSort (DW dec) d a e∧Upd M h h'∧g.1≤5∧a<g.2.1∧g.2.1≤e) (fun g=>g.1) (5,a+1,d)
  ⟨by simp only;rw[kD (by omega)];rfl,by simp only;omega,hs,rfl,rfl,Upd.refl _ _,by simp,by simp,by simp only;omega⟩ ?_
 rintro I ⟨st,i0,z⟩ ⟨t1,t2⟩ h1 ⟨T,ht2,G,hz1,w,hu1,hst,hai,hie⟩ hI;simp only at T ht2 G hz1 w hst hai hie;subst T ht2;refine aF (fun hlt=>?_) fun hge=>?_
 ·obtain⟨st,rfl⟩:∃k,st=k+1:=⟨st-1,by have:5-(st:Int)<5:=hlt;omega⟩
  refine Join.intro (fun t h'=>∃S d2,t=(S:Nat)∧SA dec M s h' d2∧d2.size=d.size∧partialIns (DW dec) a e st S d2=partialInsertionSort (DW dec) d a e∧Upd M h h'∧a<S∧S≤e) (fun R hR=>?_) ?_
  ·refine LoopP.ghost (fun(i:Nat) (t:Int) h'=>t=(i:Int)∧SA dec M s h' z∧Upd No h1 h'∧scanSorted (DW dec) z e i=scanSorted (DW dec) z e i0∧a<i∧i≤e) (fun i=>e-i) i0 ⟨rfl,G,Upd.refl _ _,rfl,hai,hie⟩ ?_
   rintro I2 i t h' ⟨rfl,v,k2,X,f,n⟩ hI2;refine Join.intro (fun c E=>SA dec M s E z∧Upd No h' E∧(c=true↔i<e∧(DW dec) z[i]! z[i-1]! =false)) (fun R2 hR2=>?_) ?_
   ·refine aF (fun hle=>?_) fun hgt=>hR2 _ _ ⟨v,Upd.refl _ _,by simp;omega⟩
    exact v.less (i:=i) (j:=i-1) rfl (by rw[kD (by omega)];omega) (by omega) (by omega) fun B e3 p k3 he3=>hR2 _ _ ⟨p,k3,by rw[he3];simp;omega⟩
   ·rintro c E ⟨p,k3,hc⟩
    have x:=hu1.tr (k2.tr k3).wide;refine CondP.intro (fun h2=>?_) fun h2=>?_
    ·have hh:=hc.1 h2
     refine hI2 (i+1) _ _ ⟨by rw[kD (by omega)];rfl,p,k2.tr k3,?_,by omega,by omega⟩ (by omega)
     rw[←X];conv=>rhs;rw[scanSorted]
     rw[if_pos (by simp[hh])]
    ·have hsi:scanSorted (DW dec) z e i=i:=by
      rw[scanSorted,if_neg];intro hh;simp only[aJ,decide_eq_true_iff,Bool.not_eq_eq_eq_not,Bool.not_true]at hh;rw[hc.2 hh]at h2;cases h2
     have b:=w;rw[partialIns]at b;simp only[←X,hsi]at b;refine CondP.intro (fun B=>?_) fun B=>?_
     ·have B:i=e:=by
       have:(i:Int)=e:=by simpa using B
       omega
      rw[if_pos B]at b;rw[←b]at Q;exact Q _ p x
     ·have B:i≠e:=fun e'=>by subst e';simp at B
      rw[if_neg B]at b;have we:ac .i64 ((e:Int)-(a:Int))=((e-a:Nat):Int):=by rw[kD (by omega)];omega
      show CondP (decide (ac .i64 ((e:Int)-(a:Int))<50)) _ _
      rw[we];refine aF (fun h4=>?_) fun h4=>?_
      ·rw[if_pos (by omega)]at b
       rw[←b]at Q;exact Q _ p x
      ·rw[if_neg (by omega)]at b
       have hi1:1≤i:=by omega
       refine p.swap (i:=i) (j:=i-1) rfl (by rw[kD (by omega)];omega) (by omega) (by omega) fun h5 F hu5=>?_
       have J:(swp z i (i-1)).size=d.size:=by simp[hz1]
       generalize swp z i (i-1)=d5 at F J b;refine Join.intro (fun _ h'=>SA dec M s h' (if i-a≥2 then shiftDown (DW dec) (i-1) d5 else d5)∧Upd M h h') (fun R3 q=>?_) ?_
       ·have wi:ac .i64 ((i:Int)-(a:Int))=((i-a:Nat):Int):=by rw[kD (by omega)];omega
        show CondP (decide (ac .i64 ((i:Int)-(a:Int))≥2)) _ _
        rw[wi];refine aF (fun h6=>?_) fun h6=>?_
        ·rw[if_pos (by omega)]at q
         refine LoopP.ghost (fun(g:Nat×Array Int) (t:Int) h'=>t=(g.1:Int)∧SA dec M s h' g.2∧g.2.size=d.size∧shiftDown (DW dec) g.1 g.2=shiftDown (DW dec) (i-1) d5∧Upd M h h'∧g.1<e) (fun g=>g.1) (i-1,d5)
          ⟨by rw[kD (by omega)];simp only;omega,F,J,rfl,x.tr hu5,by simp only;omega⟩ ?_
         rintro I4 ⟨j,d6⟩ t h7 ⟨ht,N,hz7,o,hu7,D⟩ H;simp only at ht N hz7 o D;subst ht;refine aF (fun h8=>?_) fun h8=>?_
         ·obtain⟨j,rfl⟩:∃k,j=k+1:=⟨j-1,by omega⟩
          have e1:ac .i64 (((j+1:Nat):Int)-1)=(j:Int):=by rw[kD (by omega)];omega
          rw[shiftDown]at o;refine N.less (i:=j+1) (j:=j) rfl e1 (by omega) (by omega) fun hL eL hsL kL O=>?_
          have u:=hu7.tr kL.wide;rw[O];refine CondP.intro (fun V=>?_) fun V=>?_
          ·rw[if_pos V]at o
           exact q _ _ ⟨by rw[←o];exact hsL,u⟩
          ·rw[if_neg (by rw[V];simp)]at o
           refine hsL.swap (i:=j+1) (j:=j) rfl e1 (by omega) (by omega) fun y W Z=>?_
           exact H (j,swp d6 (j+1) j) _ _ ⟨e1,W,by simp[hz7],o,u.tr Z,by simp only;omega⟩ (by simp)
         ·have:j=0:=by omega
          subst this;exact q _ _ ⟨by rw[←o];exact N,hu7⟩
        ·rw[if_neg (by omega)]at q
         exact q _ _ ⟨F,x.tr hu5⟩
       ·rintro _ h6 ⟨P,U⟩
        have L:(if i-a≥2 then shiftDown (DW dec) (i-1) d5 else d5).size=d.size:=by split<;>simp[J]
        generalize (if i-a≥2 then shiftDown (DW dec) (i-1) d5 else d5)=d6 at P L b
        have wi:ac .i64 ((e:Int)-(i:Int))=((e-i:Nat):Int):=by rw[kD (by omega)];omega
        show CondP (decide (ac .i64 ((e:Int)-(i:Int))≥2)) _ _
        rw[wi];refine aF (fun h7=>?_) fun h7=>?_
        ·rw[if_pos (by omega)]at b
         refine LoopP.ghost (fun(g:Nat×Array Int) (t:Int) h'=>t=(g.1:Int)∧SA dec M s h' g.2∧g.2.size=d.size∧shiftUp (DW dec) e g.1 g.2=shiftUp (DW dec) e (i+1) d6∧Upd M h h'∧1≤g.1∧g.1≤e) (fun g=>e-g.1) (i+1,d6)
          ⟨by rw[kD (by omega)];rfl,P,L,rfl,U,by simp,by simp only;omega⟩ ?_
         rintro I4 ⟨j,d7⟩ t h8 ⟨ht,C,A,m,Y,hj1,D⟩ H;simp only at ht C A m hj1 D;subst ht;refine aF (fun V=>?_) fun V=>?_
         ·have e1:ac .i64 ((j:Int)-1)=((j-1:Nat):Int):=by rw[kD (by omega)];omega
          rw[shiftUp,if_pos (by omega)]at m;refine C.less (i:=j) (j:=j-1) rfl e1 (by omega) (by omega) fun hL eL hsL kL O=>?_
          have u:=Y.tr kL.wide;rw[O];refine CondP.intro (fun y=>?_) fun y=>?_
          ·rw[if_pos y]at m
           exact hR _ _ ⟨i,d7,rfl,hsL,A,by rw[m];exact b,u,f,n⟩
          ·rw[if_neg (by rw[y];simp)]at m
           refine hsL.swap (i:=j) (j:=j-1) rfl e1 (by omega) (by omega) fun h11 hs11 hu11=>?_
           exact H (j+1,swp d7 j (j-1)) _ _ ⟨by rw[kD (by omega)];rfl,hs11,by simp[A],m,u.tr hu11,by simp,by simp only;omega⟩ (by simp only;omega)
         ·rw[shiftUp,if_neg (by omega)]at m
          exact hR _ _ ⟨i,d7,rfl,C,A,by rw[m];exact b,Y,f,n⟩
        ·rw[if_neg (by omega)]at b
         exact hR _ _ ⟨i,d6,rfl,P,L,b,U,f,n⟩
  ·rintro t h' ⟨S,d2,rfl,v,hz2,b,hu2,f,n⟩
   exact hI (st,S,d2) _ _ ⟨rfl,by simp only;rw[kD (by omega)];omega,v,hz2,b,hu2,by simp only;omega,f,n⟩ (by simp)
 ·have:st=0:=by have:¬5-(st:Int)<5:=hge;omega
  subst this;rw[partialIns]at w;rw[←w]at Q;exact Q _ G hu1
end Go.Proofs
namespace Go.Proofs
open Go Go.Lift Go.Sort
variable {dec:Int→Ch} {M:Nat→Prop} {s:SliceV} {h:ad} {d:Array Int}
theorem ZV(x:Int):ac .u64 x=x%18446744073709551616:=by
 simp[ac,ag,IntKind.signed]
theorem and_le_right(x:Int){m:Int}(a:0≤m)(hm:m<18446744073709551616):0≤ac .u64 ((aq (ag .u64) x&&&aq (ag .u64) m).toNat:Int)∧ac .u64 ((aq (ag .u64) x&&&aq (ag .u64) m).toNat:Int)≤m:=by
 have c:(aq (ag .u64) x&&&aq (ag .u64) m).toNat≤(aq (ag .u64) m).toNat:=by
  rw[BitVec.toNat_and];exact Nat.and_le_right
 have b:((aq (ag .u64) m).toNat:Int)=m:=by
  show((aq 64 m).toNat:Int)=m
  rw[BitVec.toNat_ofInt];have:m%((2^64:Nat):Int)=m:=Int.emod_eq_of_lt a (by omega);rw[this];omega
 rw[ZV];omega
end Go.Proofs
namespace Go.Proofs
open Go Go.Lift Go.Sort
variable {dec:Int→Ch} {M:Nat→Prop} {s:SliceV} {h:ad} {d:Array Int}
end Go.Proofs
namespace Go.Proofs
open Go Go.Lift
end Go.Proofs
namespace Go.Proofs
open Go Go.Lift
theorem Few.mono{n m:Nat}{L:List Pr}(f:Few n L)(h:n≤m):Few m L:=⟨f.up,Nat.le_trans f.len h,f.fit⟩
end Go.Proofs
namespace Go.Proofs
open Go Go.Lift
theorem MR{W:Nat→Prop}{h:ad}{b:Nat}{l:List Pr}(t:RadAt W h b l)(hW:∀y,W y→y<h.size)(hr:eY l)(k:ByteArray){K:ByteArray×Bool→ad→Prop}
  (U:∀h',Upd No h h'→K ((look l k).getD ⟨#[]⟩,(look l k).isSome) h'):HC PG yK [.pointer (some ⟨b,0,none⟩),.string k] [.c .str,.c .bool] K h:=by
 refine Oc (some ⟨b,0,none⟩) k ?_;unfold EY bf cU OZ bP ez bT;refine DI (.inr ⟨b,rfl,t⟩) hW fun h2 b2 t2 hu2 _=>?_
 obtain⟨w,F,r1,r2,r3⟩:=t2.ex;have d:∀v,ww w F k.data.toList v↔look l k=some v:=fun v=>by
  rw[←qS,r3];constructor
  ·rintro⟨p,Z,e1,rfl⟩
   rw[←tI.1 e1];exact DX hr Z
  ·intro Z;exact⟨_,Np Z,rfl,rfl⟩
 refine LoopP.ghost (fun(g:ByteArray×Nat×ByteArray×Option ByteArray×Fo) (t:ByteArray×Option Addr) h'=>t=(g.1,some ⟨g.2.1,0,none⟩)∧RxN W h' g.2.1 g.2.2.1 g.2.2.2.1 g.2.2.2.2∧jV g.2.2.2.2∧(∀v,ww g.2.2.2.1 g.2.2.2.2 g.1.data.toList v↔look l k=some v)∧Upd No h h') (fun g=>g.1.size) (k,b2,⟨#[]⟩,w,F) ⟨rfl,r1,r2,d,hu2⟩ ?_
 clear d r1 r2 r3 t2;rintro I ⟨D,c,sl,w,F⟩ t h5 ⟨rfl,r,hc,d,hu⟩ hI;simp only at r hc d;simp only[di];by_cases G:D=⟨#[]⟩
 ·subst G
  refine af.2 (MH r ?_);have e:look l k=w:=Option.ext fun v=>by
   rw[←d v];constructor
   ·rintro(⟨_,h⟩|h)
    ·exact h
    ·exact absurd rfl (DZ hc h)
   ·intro h;exact .inl ⟨rfl,h⟩
  rw[e]at U;exact U _ hu
 ·rw[decide_eq_false G]
  refine aA.2 ?_;have u:D.data.toList≠[]:=fun e=>G (by cases D;exact congrArg xy (kC.1 e))
  obtain⟨c0,hc0,S⟩:=Lk u;refine⟨c0,vi _,hc0,?_⟩;have hr0:=r;obtain⟨val,s,ow,ks,hb,_,hs,hcap,hF⟩:=r;have hL:=mM.1 hF;have E:=eX.1 hc;have o:(∀v,¬uD F D.data.toList v)→K ((⟨#[]⟩:ByteArray),false) h5:=fun C=>by
   have e:look l k=none:=by
    cases e:look l k with
    |none=>rfl
    |some v=>
     rcases(d v).2 e with⟨h,_⟩|h
     ·exact absurd h u
     ·exact absurd h (C v)
   rw[e]at U;exact U _ hu
  refine DJ hr0 hc (c:=c0.toNat) (ua _) fun i ok hil O H J=>?_
  rw[S]at O H J;cases ok with
  |false=>
   refine aA.2 (o fun v d=>?_)
   obtain⟨n',N,e,_⟩:=yB hc d;obtain⟨j,V,rfl⟩:=dC N;rcases cC j i with hl|hl
   ·have:=O j V hl;omega
   ·have h1:=H j V hl
    have h2:=H i (by omega) (au _);rcases cC i j with R|R
    ·have h3:=dE.1 E.1 i j (by omega) V R
     omega
    ·have:i=j:=by omega
     subst this;have:=J.2 ⟨V,e⟩;cases this
  |true=>
   obtain⟨hi,P⟩:=J.1 rfl;refine af.2 ⟨_,rfl,s,gq (i:=3) hb,?_⟩;obtain⟨kb,Q,Y,A,z⟩:=hL.at hi;have x:F.toL[i]∈F.toL:=bV hi;have B:=E.2 _ x;obtain⟨a,ha,_,hvv⟩:=hs.at0 Y;have L:=hs.len;rw[hL.1]at L;have f:∀v,uD F D.data.toList v↔yd F.toL[i] D.data.toList v:=fun v=>by
    constructor
    ·intro d
     obtain⟨n',N,e,hN⟩:=yB hc d;rw[←zT hc N x (by omega)];exact hN
    ·intro d;exact iR.2 ⟨_,x,d⟩
   refine⟨⟨by simp only;omega,by simp only;omega⟩,a,ha,some ⟨kb,0,none⟩,hvv,_,rfl,?_⟩
   obtain⟨kval,kss,kow,kks,T,_⟩:=id z;generalize F.toL[i]=m at A z B f P;obtain⟨lab,wk,Fk⟩:=m;simp only at A z B P T;refine⟨Q,gq (i:=0) T,Vs (fun q n=>?_) fun C=>?_⟩
   ·rw[A]at n
    have hlne:lab.length≠0:=fun e=>B.1 (bj.1 e)
    have X:q.size<D.size:=by
     rw[←kg q,←kg D,n,ai];omega
    refine af.2 (hI (q,kb,Q,wk,Fk) _ _ ⟨rfl,z,B.2.2,fun v=>?_,hu⟩ X)
    rw[←d v];constructor
    ·intro h;exact .inr ((f v).2 ⟨_,n,h⟩)
    ·rintro(⟨h,_⟩|h)
     ·exact absurd h u
     ·obtain⟨r',e,hr'⟩:=(f v).1 h
      simp only at e;rw[n]at e;rw[iy e];exact hr'
   ·rw[A]at C
    refine aA.2 (o fun v h=>?_)
    obtain⟨r',e,_⟩:=(f v).1 h;exact C r' e
theorem Wt{W:Nat→Prop}{x:Hs}{h:ad}{kind:Int}{t:Tr}{l:List Pr}(i:TreeIs W h kind x t l)(g:∀y,W y→y<h.size)(e:eY l)(j:l.length≤1000000)(k:ByteArray){K:Sd→ad→Prop}(f:∀h',Upd No h h'→K ((look l k).getD ⟨#[]⟩,(look l k).isSome) h'):HC PG rI [RU t,.string k] [.c .str,.c .bool] K h:=by
 refine Fz t k ?_;unfold xK aj nN rD ao mP hG;rcases i with⟨_,b,rfl,t⟩|⟨_,b,rfl,t⟩
 ·refine cH fun m b1 k1=>⟨_,vc b1 0,af.2 ⟨_,Aa b1 1 0,_,Aa b1 1 1,_,Aa b1 1 2,_,vc b1 4,?_⟩⟩
  exact N2 (TrieAt.upd0 k1 t) (fun y d=>aO (g y d) k1.size) e j k fun c a=>f c (k1.tr a)
 ·refine cH fun m b1 k1=>⟨_,vc b1 0,aA.2 ⟨_,vc b1 5,?_⟩⟩
  exact MR (t.upd0 k1) (fun y d=>aO (g y d) k1.size) e k fun c a=>f c (k1.tr a)
end Go.Proofs
namespace Go.Proofs
open Go Go.Lift
theorem WU{W:Nat→Prop}{x:Hs}{h:ad}{kind:Int}{t:Tr}{l:List Pr}(i:TreeIs W h kind x t l)(H:∀y,W y→y<h.size)(L:eY l)(N:Fit l)(J:l.length≤1000000)(k:ByteArray)(o:Option ByteArray)(q:k.size≤256)(A:(o.getD ⟨#[]⟩).size≤4096){K:Tr→ad→Prop}
  (O:∀h' a,TreeIs W h' kind x a (WA l k o)→Upd No h h'→K a h'):HC PG yO [RU t,.string k,.agg #[.string (YW o).1,.bool (YW o).2]] [.agg [.int .i64,.int .u64,.int .u64,.int .u64,.ptr,.ptr]] K h:=by
 refine Om t k (YW o) ?_;unfold E8 aj ah aZ fx ae ao qc mP xT xU mL Y1;refine cH fun G b1 k1=>cH fun w b2 E=>cH fun n b3 z=>?_
 have X:=bB b1;have z2:=bB b2;have z3:=bB b3;have s1:h.size≤G.size:=k1.size;have Z:G.size≤w.size:=E.size;have Y:=z.size;have b:=(k1.tr E).tr z;have c1:=z.get0 (E.get0 b1);have D:=z.get0 b2;have F:Pro W h n h.size:=.inr (by omega);have C:Pro W h n w.size:=.inr (by omega);refine Join.intro (fun _ h'=>∃a,TreeIs (Pro W h n) h' kind x a (WA l k o)∧h'[h.size]? =some (.cells (pU a).toArray cg (0,0))∧h'[w.size]? =some (.cells (pU Dx).toArray cg (0,0))∧Upd (· =h.size) n h') (fun R S=>?_) ?_
 ·have p:∀{f:ad} {a:Tr},Upd No n f→TreeIs (Pro W h n) f kind x a (WA l k o)→sN f (some (aH h)) 0 (pU a)∧At (ib f (aH h) 0 (pU a)) (fun I=>R () I):=fun{f a} d u=>
   dd (c:=pU t) (vs:=pU a) (d.get0 c1) rfl fun I T e=>S _ _ ⟨a,u.updM e fun y g=>.inl (by have g:y=h.size:=g;rw[g];exact F),T,e.oth (d.get0 b3) (by omega),d.wide.tr e⟩
  cases o with
  |some v=>
   refine⟨true,vc D 1,aA.2 ⟨_,vc c1 0,_,vc c1 1,_,vc c1 2,_,vc c1 3,_,vc c1 4,_,vc c1 5,v,vc D 0,?_⟩⟩;exact Mw (i.pro b) (Pro.lt H b) L J (k,v) q A fun f a u _ d=>p d u
  |none=>
   refine⟨false,vc D 1,af.2 ⟨_,vc c1 0,_,vc c1 1,_,vc c1 2,_,vc c1 3,_,vc c1 4,_,vc c1 5,?_⟩⟩;exact Mv (i.pro b) (Pro.lt H b) L N J k q fun f a u _ d=>p d u
 ·rintro _ V ⟨a,Q,j,U,B⟩
  refine⟨_,vc j 0,_,vc j 1,_,vc j 2,_,vc j 3,_,vc j 4,_,vc j 5,?_⟩;refine dd (c:=pU Dx) (vs:=pU a) U rfl fun P m s=>?_
  refine⟨_,vc m 0,_,vc m 1,_,vc m 2,_,vc m 3,_,vc m 4,_,vc m 5,O P a ((Q.updM s fun y g=>.inl (by have g:y=w.size:=g;rw[g];exact C)).less Pro.sub) ?_⟩
  exact(b.own B (au _)).own s (by omega)
def Zz(k:ByteArray)(o:Option ByteArray):Prop:=∀{W:Nat→Prop} {x:Hs} {h:ad} {kind:Int} {t:Tr} {l:List Pr},TreeIs W h kind x t l→(∀y,W y→y<h.size)→eY l→Fit l→l.length≤1000000→k.size≤256→(o.getD ⟨#[]⟩).size≤4096→∀{K:Tr→ad→Prop},
 (∀h' t',TreeIs W h' kind x t' (WA l k o)→Upd No h h'→K t' h')→HC PG yO [RU t,.string k,.agg #[.string (YW o).1,.bool (YW o).2]] [.agg [.int .i64,.int .u64,.int .u64,.int .u64,.ptr,.ptr]] K h
theorem setOk(k:ByteArray)(o:Option ByteArray):Zz k o:=fun i g e b a c d _ f=>WU i g e b a k o c d f
end Go.Proofs
namespace Go.Proofs
open Go Go.Lift
def BaseOf(s:VS)(a:Int)(B:TD):Prop:=(a=0∧B=(s.e,[]))∨(a≠0∧dK s.D a=some B)
section
variable {W:Nat→Prop} {h:ad} {vp:Nat} {s:VS}
theorem Je(v:VaultAt W h vp s){id:Int}(hi:id=0∨id∈ids s.L){K:Tr×Int→ad→Prop}(a:∀B,BaseOf s id B→∀h',Upd No h h'→K (B.1,0) h'):HC PG je [pV vp,.int .u32 id] [.agg [.int .i64,.int .u64,.int .u64,.int .u64,.ptr,.ptr],.c (.int .i64)] K h:=
 T0 v id (fun e h' k=>a (s.e,[]) (.inl ⟨e,rfl⟩) h' k) (fun d hd e h' k=>a d (.inr ⟨e,hd⟩) h' k) fun hd e=>absurd ((v.sub id).2 (hi.resolve_left e)) (qr.1 hd)
end
end Go.Proofs
namespace Go.Proofs
open Go Go.Lift
abbrev eA:SliceV:=⟨none,0,0⟩
abbrev An:=Int×Int×Int×ByteArray×Bool×Int×SliceV×SliceV×SliceV×SliceV×SliceV
abbrev Wd:An:=(0,0,0,⟨#[]⟩,false,0,eA,eA,eA,eA,eA)
abbrev Yx(e:An):List Value:= [.int .i64 e.1,.int .u32 e.2.1,.int .i64 e.2.2.1,.string e.2.2.2.1,.bool e.2.2.2.2.1,.int .i64 e.2.2.2.2.2.1,.slice e.2.2.2.2.2.2.1.a e.2.2.2.2.2.2.1.len e.2.2.2.2.2.2.1.cap,.slice e.2.2.2.2.2.2.2.1.a e.2.2.2.2.2.2.2.1.len e.2.2.2.2.2.2.2.1.cap,.slice e.2.2.2.2.2.2.2.2.1.a e.2.2.2.2.2.2.2.2.1.len e.2.2.2.2.2.2.2.2.1.cap,.slice e.2.2.2.2.2.2.2.2.2.1.a e.2.2.2.2.2.2.2.2.2.1.len e.2.2.2.2.2.2.2.2.2.1.cap,.slice e.2.2.2.2.2.2.2.2.2.2.a e.2.2.2.2.2.2.2.2.2.2.len e.2.2.2.2.2.2.2.2.2.2.cap]
abbrev Qs:List Kind:= [.agg [.int .i64,.int .u32,.int .i64,.str,.bool,.int .i64,.slice,.slice,.slice,.slice,.slice]]
abbrev xp:=Int×ByteArray×ByteArray×ByteArray×ByteArray×Int×Int×Int×Int×Bool×ByteArray×ByteArray×Bool×SliceV×SliceV
abbrev ia(o:xp):List Value:= [.int .i64 o.1,.string o.2.1,.string o.2.2.1,.string o.2.2.2.1,.string o.2.2.2.2.1,.int .u32 o.2.2.2.2.2.1,.int .u32 o.2.2.2.2.2.2.1,.int .i64 o.2.2.2.2.2.2.2.1,.int .i64 o.2.2.2.2.2.2.2.2.1,.bool o.2.2.2.2.2.2.2.2.2.1,.string o.2.2.2.2.2.2.2.2.2.2.1,.string o.2.2.2.2.2.2.2.2.2.2.2.1,.bool o.2.2.2.2.2.2.2.2.2.2.2.2.1,.slice o.2.2.2.2.2.2.2.2.2.2.2.2.2.1.a o.2.2.2.2.2.2.2.2.2.2.2.2.2.1.len o.2.2.2.2.2.2.2.2.2.2.2.2.2.1.cap,.slice o.2.2.2.2.2.2.2.2.2.2.2.2.2.2.a o.2.2.2.2.2.2.2.2.2.2.2.2.2.2.len o.2.2.2.2.2.2.2.2.2.2.2.2.2.2.cap]
abbrev ON(o:xp):Value:=.agg #[.int .i64 o.1,.string o.2.1,.string o.2.2.1,.string o.2.2.2.1,.string o.2.2.2.2.1,.int .u32 o.2.2.2.2.2.1,.int .u32 o.2.2.2.2.2.2.1,.int .i64 o.2.2.2.2.2.2.2.1,.int .i64 o.2.2.2.2.2.2.2.2.1,.bool o.2.2.2.2.2.2.2.2.2.1,.string o.2.2.2.2.2.2.2.2.2.2.1,.string o.2.2.2.2.2.2.2.2.2.2.2.1,.bool o.2.2.2.2.2.2.2.2.2.2.2.2.1,.slice o.2.2.2.2.2.2.2.2.2.2.2.2.2.1.a o.2.2.2.2.2.2.2.2.2.2.2.2.2.1.len o.2.2.2.2.2.2.2.2.2.2.2.2.2.1.cap,.slice o.2.2.2.2.2.2.2.2.2.2.2.2.2.2.a o.2.2.2.2.2.2.2.2.2.2.2.2.2.2.len o.2.2.2.2.2.2.2.2.2.2.2.2.2.2.cap]
theorem Ca{h:ad}{b:Nat}{c e:An}{K:An→ad→Prop}(a:h[b]? =some (.cells (Yx c).toArray dS (0,0))) (d:∀h',Upd (· =b) h h'→K e h'):
  sN h (some ⟨b,0,none⟩) 0 (Yx e)∧At (ib h ⟨b,0,none⟩ 0 (Yx e)) (fun h'=>∃v0:Int,aD h' (adr ⟨b,0,none⟩ 0)=some (.int .i64 v0)∧∃v1:Int,aD h' (adr ⟨b,0,none⟩ 1)=some (.int .u32 v1)∧∃v2:Int,aD h' (adr ⟨b,0,none⟩ 2)=some (.int .i64 v2)∧∃v3:ByteArray,aD h' (adr ⟨b,0,none⟩ 3)=some (.string v3)∧∃v4:Bool,aD h' (adr ⟨b,0,none⟩ 4)=some (.bool v4)∧∃v5:Int,aD h' (adr ⟨b,0,none⟩ 5)=some (.int .i64 v5)∧∃v6:SliceV,aD h' (adr ⟨b,0,none⟩ 6)=some (.slice v6.a v6.len v6.cap)∧∃v7:SliceV,aD h' (adr ⟨b,0,none⟩ 7)=some (.slice v7.a v7.len v7.cap)∧∃v8:SliceV,aD h' (adr ⟨b,0,none⟩ 8)=some (.slice v8.a v8.len v8.cap)∧∃v9:SliceV,aD h' (adr ⟨b,0,none⟩ 9)=some (.slice v9.a v9.len v9.cap)∧∃v10:SliceV,aD h' (adr ⟨b,0,none⟩ 10)=some (.slice v10.a v10.len v10.cap)∧K (v0,v1,v2,v3,v4,v5,v6,v7,v8,v9,v10) h'):=by
 refine dd (c:=Yx c) (vs:=Yx e) a rfl fun h' b' u=>?_
 exact⟨e.1,vc b' 0,e.2.1,vc b' 1,e.2.2.1,vc b' 2,e.2.2.2.1,vc b' 3,e.2.2.2.2.1,vc b' 4,e.2.2.2.2.2.1,vc b' 5,e.2.2.2.2.2.2.1,vc b' 6,e.2.2.2.2.2.2.2.1,vc b' 7,e.2.2.2.2.2.2.2.2.1,vc b' 8,e.2.2.2.2.2.2.2.2.2.1,vc b' 9,e.2.2.2.2.2.2.2.2.2.2,vc b' 10,d h' u⟩
theorem xW{h:ad}{b:Nat}{t:TypeId}{o:xp}{P:Int→ByteArray→ByteArray→ByteArray→ByteArray→Int→Int→Int→Int→Bool→ByteArray→ByteArray→Bool→SliceV→SliceV→Prop}(a:h[b]? =some (.cells (ia o).toArray t (0,0))) (c:P (o.1) (o.2.1) (o.2.2.1) (o.2.2.2.1) (o.2.2.2.2.1) (o.2.2.2.2.2.1) (o.2.2.2.2.2.2.1) (o.2.2.2.2.2.2.2.1) (o.2.2.2.2.2.2.2.2.1) (o.2.2.2.2.2.2.2.2.2.1) (o.2.2.2.2.2.2.2.2.2.2.1) (o.2.2.2.2.2.2.2.2.2.2.2.1) (o.2.2.2.2.2.2.2.2.2.2.2.2.1) (o.2.2.2.2.2.2.2.2.2.2.2.2.2.1) (o.2.2.2.2.2.2.2.2.2.2.2.2.2.2)):
  ∃v0:Int,aD h (adr ⟨b,0,none⟩ 0)=some (.int .i64 v0)∧∃v1:ByteArray,aD h (adr ⟨b,0,none⟩ 1)=some (.string v1)∧∃v2:ByteArray,aD h (adr ⟨b,0,none⟩ 2)=some (.string v2)∧∃v3:ByteArray,aD h (adr ⟨b,0,none⟩ 3)=some (.string v3)∧∃v4:ByteArray,aD h (adr ⟨b,0,none⟩ 4)=some (.string v4)∧∃v5:Int,aD h (adr ⟨b,0,none⟩ 5)=some (.int .u32 v5)∧∃v6:Int,aD h (adr ⟨b,0,none⟩ 6)=some (.int .u32 v6)∧∃v7:Int,aD h (adr ⟨b,0,none⟩ 7)=some (.int .i64 v7)∧∃v8:Int,aD h (adr ⟨b,0,none⟩ 8)=some (.int .i64 v8)∧∃v9:Bool,aD h (adr ⟨b,0,none⟩ 9)=some (.bool v9)∧∃v10:ByteArray,aD h (adr ⟨b,0,none⟩ 10)=some (.string v10)∧∃v11:ByteArray,aD h (adr ⟨b,0,none⟩ 11)=some (.string v11)∧∃v12:Bool,aD h (adr ⟨b,0,none⟩ 12)=some (.bool v12)∧∃v13:SliceV,aD h (adr ⟨b,0,none⟩ 13)=some (.slice v13.a v13.len v13.cap)∧∃v14:SliceV,aD h (adr ⟨b,0,none⟩ 14)=some (.slice v14.a v14.len v14.cap)∧P v0 v1 v2 v3 v4 v5 v6 v7 v8 v9 v10 v11 v12 v13 v14:=
 ⟨o.1,vc a 0,o.2.1,vc a 1,o.2.2.1,vc a 2,o.2.2.2.1,vc a 3,o.2.2.2.2.1,vc a 4,o.2.2.2.2.2.1,vc a 5,o.2.2.2.2.2.2.1,vc a 6,o.2.2.2.2.2.2.2.1,vc a 7,o.2.2.2.2.2.2.2.2.1,vc a 8,o.2.2.2.2.2.2.2.2.2.1,vc a 9,o.2.2.2.2.2.2.2.2.2.2.1,vc a 10,o.2.2.2.2.2.2.2.2.2.2.2.1,vc a 11,o.2.2.2.2.2.2.2.2.2.2.2.2.1,vc a 12,o.2.2.2.2.2.2.2.2.2.2.2.2.2.1,vc a 13,o.2.2.2.2.2.2.2.2.2.2.2.2.2.2,vc a 14,c⟩
theorem VaultAt.pro{W:Nat→Prop}{h b:ad}{c:Nat}{s:VS}(v:VaultAt W h c s)(k:Upd No h b):VaultAt (Pro W h b) b c s:=
 v.re k (fun _ h=>h.elim) (fun y a=>⟨a.imp id fun e=>e.1,Pro.lt v.g.lt k y a⟩) fun y a=>.inl (v.w y a)
theorem VaultAt.dn{W:Nat→Prop}{c d h:ad}{a:Nat}{s:VS}(v:VaultAt (Pro W c d) h a s)(hM:∀y,s.M y→W y):VaultAt W h a s:=
 v.re (Upd.refl No h) (fun _ h=>h.elim) (fun y b=>⟨.inl (.inl b),v.g.lt y (.inl b)⟩) hM
theorem VaultAt.own{W:Nat→Prop}{a c h h':ad}{g b:Nat}{s:VS}(v:VaultAt (Pro W a c) h g s)(hM:∀y,s.M y→y<a.size)(u:Upd (· =b) h h')(i:a.size≤b)(d:b<c.size):VaultAt (Pro W a c) h' g s:=
 v.upd u fun y f=>by
  have f:y=b:=f;subst f;exact .inl ⟨.inr ⟨i,d⟩,fun e=>by have:=hM _ e;omega⟩
section
variable {h:ad}
theorem SY{e:Int}{K:An→ad→Prop}(d:∀h',Upd No h h'→K (e,0,0,⟨#[]⟩,false,0,eA,eA,eA,eA,eA) h'):HC PG gb [.int .i64 e] Qs K h:=by
 refine HP e ?_;unfold zC aj bJ ah aZ aL nv L7;exact cH fun f b1 k1=>Ca (c:=Wd) (e:=(e,0,0,⟨#[]⟩,false,0,eA,eA,eA,eA,eA)) b1 fun a b=>d a (k1.own b (au _))
theorem UR{id:Int}{K:An→ad→Prop}(d:∀h',Upd No h h'→K (0,id,0,⟨#[]⟩,false,0,eA,eA,eA,eA,eA) h'):HC PG vt [.int .u32 id,.int .i64 0] Qs K h:=by
 refine II id 0 ?_;unfold AH aj bJ ah aZ aL fx Fp L7;exact cH fun f b1 k1=>af.2 (Ca (c:=Wd) (e:=(0,id,0,⟨#[]⟩,false,0,eA,eA,eA,eA,eA)) b1 fun a b=>d a (k1.own b (au _)))
end
abbrev D3(f:FuncId):Value:=.func (.func f) #[] #[]
abbrev PR:List Value:= [D3 jN,D3 qW,D3 uq,D3 rU,D3 lQ,D3 tE,D3 tB,D3 pu,D3 rX,D3 rV,D3 lR,D3 tC,D3 tF,D3 rW,D3 se,D3 tD,D3 rZ,D3 tA,D3 qY,D3 qZ,D3 sd,D3 tw,D3 qX,D3 rY,D3 tu,D3 pr]
theorem UX{k:Nat}(i:k<26){v:Value}(b:PR[k]? =some v) {h:ad} {K:Value→ad→Prop} (a:∀h',Upd No h h'→K v h'):HC PG vu [.int .i64 k] [.c .raw] K h:=by
 refine IJ k ?_;unfold AI bf cU nv;refine cH fun g b1 k1=>dd (c:=List.replicate 26 .nilFunc) (vs:=PR) b1 rfl fun d b2 f=>Join.plain (aF (fun e=>absurd e (by omega)) fun _=>?_)
 rw[show decide ((k:Int)≥(26:Int))=false from decide_eq_false (by omega)]
 refine af.2 ⟨⟨by omega,by omega⟩,v,?_,a d (k1.own f (au _))⟩
 have:=vc b2 k;rw[List.getElem?_toArray,b]at this;rw[show(k:Int).toNat*1=k by omega]
 exact this
end Go.Proofs
