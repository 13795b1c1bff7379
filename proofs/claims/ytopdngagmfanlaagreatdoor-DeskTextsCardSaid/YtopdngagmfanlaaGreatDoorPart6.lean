/- A part of the proof that the named laws of this program answer true, whatever the input. -/
import Derived.Test.YtopdngagmfanlaaGreatDoorPart5
import Derived.Test.YtopdngagmfanlaaGreatDoorPart3
import Derived.Sort.AssemblyPlain
open Array renaming toList_inj→kN
open BitVec renaming ofInt→au
open Bool renaming and_eq_true→aJ
open ByteArray renaming mk→xY
open Go.IntKind renaming wrap→ac,bits→ai
open Int renaming toNat_natCast→ak,le_refl→vC
open List renaming length_append→aj,getElem_of_mem→dC,pairwise_iff_getElem→dE,getElem_mem→bZ,length_eq_zero_iff→bp,append_cancel_left→iK,set_eq_take_append_cons_drop→dD
open Nat renaming lt_or_ge→cC,le_refl→av,lt_irrefl→kf,lt_of_lt_of_le→aQ
open UInt8 renaming toNat_lt→uq
namespace Go.Proofs
open Go Go.Lift
theorem kC(s:ByteArray):s.data.toList.length=s.size:=by simp
theorem WC(a b:ByteArray):(a++b).data.toList=a.data.toList++b.data.toList:=by rw[ByteArray.data_append,Array.toList_append]
theorem Td{a b:ByteArray}{h:ad}{K:Bool→ad→Prop}(c:K (decide (b.data.toList<+:a.data.toList)) h):HC PG vJ [.string a,.string b] [.c .bool] K h:=by
 refine Jo a b ?_;unfold Bb eu;refine EI a b ?_;unfold wQ eu;refine rD a b ?_;unfold lh;have j:=kC a;have i:=kC b;refine aF (fun d=>?_) fun g=>?_
 ·refine⟨⟨by omega,by omega⟩,?_⟩
  rw[di,ak];have e:decide (a.extract 0 b.size=b)=decide (b.data.toList<+:a.data.toList):=by
   rw[decide_eq_decide,←tW,HT,List.prefix_iff_eq_take,i];exact eq_comm
  rw[e];exact c
 ·have e:decide (b.data.toList<+:a.data.toList)=false:=decide_eq_false fun f=>by
   have:=f.length_le;omega
  rw[e]at c;exact c
theorem Wd{a b:ByteArray}{h:ad}{K:ByteArray×Bool→ad→Prop}(f:∀s:ByteArray,a.data.toList=b.data.toList++s.data.toList→K (s,true) h)(d:(∀r,a.data.toList≠b.data.toList++r)→K (⟨#[]⟩,false) h):HC PG xG [.string a,.string b] [.c .str,.c .bool] K h:=by
 refine Q8 a b ?_;unfold Iu eu;refine Td ?_;have j:=kC a;have i:=kC b;by_cases c:b.data.toList<+:a.data.toList
 ·rw[decide_eq_true c]
  have g:=c.length_le;refine af.2 ⟨⟨by omega,by omega⟩,?_⟩
  rw[ak];refine f _ ?_;rw[HU];obtain⟨r,e⟩:=c;rw[←e,←i,List.drop_left]
 ·rw[decide_eq_false c]
  exact aA.2 (d fun r e=>c ⟨r,e.symm⟩)
def aa1(W:Nat→Prop)(h:ad)(r:Option Addr)(o:Option Bn):Prop:=(r=none∧o=none)∨∃b sl m,r=some ⟨b,0,none⟩∧o=some m∧sl.data.toList=m.1∧RxN W h b sl m.2.1 m.2.2
theorem SZ{W:Nat→Prop}{h:ad}{b:Nat}{sl:ByteArray}{w:Option ByteArray}{F:Fo}(r:RxN W h b sl w F)(hW:∀y,W y→y<h.size)(hc:j5 F)(q:sl.data.toList≠[])(hs1:sl.size≤1000000)(G:∀k v,uT F k v→k.length≤1000000)
  {K:Option Addr→ad→Prop}(U:∀h' r o,Upd No h h'→Yf (sl.data.toList,w,F) o→aa1 W h' r o→K r h'):HC PG pJ [.pointer (some ⟨b,0,none⟩),.pointer none] [.c .ptr] K h:=by
 refine Dl _ none ?_;unfold ve bi cU bL cI bW nZ jf;have hr:=r;obtain⟨val,s,ow,ks,p,hv,hs,hcap,hF⟩:=r;have hL:=mY.1 hF;have hn:=AA hc;have c:=hs.len;rw[hL.1]at c;refine Join.intro (fun t h'=>t=decide (w.isSome∨2≤F.toL.length)∧h'=h) (fun R Z=>⟨_,rfl,w.isSome,gF (i:=1) p,?_⟩) ?_
 ·cases w with
  |some v=>exact aA.2 (Z _ _ ⟨rfl,rfl⟩)
  |none=>
   refine af.2 ⟨_,rfl,s,gF (i:=3) p,Z _ _ ⟨?_,rfl⟩⟩;rw[decide_eq_decide];constructor
   ·intro h;exact .inr (by omega)
   ·rintro(h|h)
    ·cases h
    ·omega
 ·rintro t h' ⟨rfl,rfl⟩
  refine aF (fun m=>?_) fun m=>?_
  ·exact U h' _ _ (Upd.refl _ _) (Tp q hc m) (.inr ⟨b,sl,_,rfl,rfl,rfl,hr⟩)
  ·have Q:w=none:=by
    cases w with
    |none=>rfl
    |some v=>exact absurd (.inl rfl) m
   subst Q;have N:F.toL.length<2:=by
    rcases cC F.toL.length 2 with h|h
    ·exact h
    ·exact absurd (.inr h) m
   refine⟨_,rfl,s,gF (i:=3) p,?_⟩;match hFL:F.toL,N with
   | [],_=>
    rw[hFL]at c;have e:((s.len:Int)==(0:Int))=true:=by rw[beq_iff_eq,c];rfl
    rw[e];exact aA.2 (U h' _ _ (Upd.refl _ _) (Tq hFL) (.inl ⟨rfl,rfl⟩))
   | [(lk,wk,Fk)],_=>
    rw[hFL]at c;have e:((s.len:Int)==(0:Int))=false:=by rw[beq_eq_false_iff_ne,c];simp
    rw[e];have d:(lk,wk,Fk)∈F.toL:=by rw[hFL];exact List.mem_singleton.2 rfl
    have L:=(fc.1 hc).2 _ d;have h0:0<F.toL.length:=by rw[hFL];exact Nat.one_pos
    obtain⟨kb,f,P,g,n⟩:=hL.at h0;have e0:F.toL[0]=(lk,wk,Fk):=by simp only[hFL];rfl
    rw[e0]at g n;simp only at g n;obtain⟨a,ha,_,T⟩:=hs.at0 P;obtain⟨B,kss,kow,O,X,V,E,I,C⟩:=n;have J:=mY.1 C;have u:=AA L.2.2;refine af.2 ⟨_,rfl,s,gF (i:=3) p,⟨by omega,by rw[c];simp⟩,a,ha,some ⟨kb,0,none⟩,T,?_⟩
    refine pw X E (by rw[J.1];exact u) fun h1 s1 b1 H A=>?_
    obtain⟨rr,vv,S⟩:=wC hc _ d;have Y:=G (lk++rr) vv (ja.2 ⟨_,d,rr,rfl,S⟩);rw[aj]at Y;have hlkl:lk.length=f.size:=by rw[←g];exact kC f
    refine⟨_,rfl,sl,gF (i:=0) (A.get0 p),_,rfl,f,gF (i:=0) b1,by omega,?_⟩
    have hbl:b<h'.size:=bB p;refine xw b1 fun m b2 D=>?_
    have j:Upd No h' m:=A.own D (av _);have z:=H.upd D fun x hx e=>by have e:x=h'.size:=e;have:=hx.1;omega
    refine U m _ _ j (VC q hc hFL) (.inr ⟨h'.size,sl++f,_,rfl,rfl,by rw[←g];exact WC sl f,⟨B,s1,none,O,b2,V,z.sl (fun x hx _ Q=>by have:=hW _ Q;have:=hx.1;omega),⟨z.cap,fun hx=>kf _ (hW _ hx)⟩,RxF.upd0 j C⟩⟩)
set_option maxHeartbeats 1000000 in
theorem U9{W:Nat→Prop}:∀(n:Nat) {b:Nat} {sl:ByteArray} {w:Option ByteArray} {F:Fo} {h:ad} (k:ByteArray),k.size<n→RxN W h b sl w F→(∀y,W y→y<h.size)→j5 F→(∀j v,uT F j v→j.length≤1000000)→∀{K:(Option Addr)×Bool→ad→Prop},
  (∀h' b' w' F' z,Upd No h h'→RxN W h' b' sl w' F'→j5 F'→vA (wM w F) (wM w' F') k.data.toList→(z=false→b'=b∧∀v,¬wM w F k.data.toList v)→(z=true→∃v,wM w F k.data.toList v)→K (some ⟨b',0,none⟩,z) h')→
  HC PG l9 [.pointer (some ⟨b,0,none⟩),.pointer none,.string k] [.c .ptr,.c .bool] K h:=by
 intro n;induction n with
 |zero=>intro b sl w F h k hk;omega
 |succ n ih=>
  intro b sl w F h k hkn r hW hc hbd K hk;refine Dn (some ⟨b,0,none⟩) none k ?_;unfold vg bi cU PC bL cI bM eu bW jf FV MV;have hr:=r;obtain⟨val,s,ow,ks,hb,hv,hs,hcap,hF⟩:=r;have hL:=mY.1 hF;have hn:=AA hc;have hcan:=fc.1 hc;have t:∀{h':ad},Upd No h h'→(∀v,¬wM w F k.data.toList v)→K (some ⟨b,0,none⟩,false) h':=fun hu A=>hk _ b w F false hu (hr.upd0 hu) hc (QO A) (fun _=>⟨rfl,A⟩) fun h=>by cases h
  rw[di];refine aF (fun hk0=>?_) fun hk0=>?_
  ·have hke:k.data.toList= []:=by rw[hk0]
   rw[hke]at hk t;refine⟨_,rfl,w.isSome,gF (i:=1) hb,?_⟩;cases L:w with
   |none=>
    refine aA.2 (t (Upd.refl _ _) fun v d=>?_)
    rcases d with⟨_,h⟩|h
    ·rw[L]at h;cases h
    ·exact absurd rfl (Et hc h)
   |some u=>
    refine af.2 (pw hb hs (by rw[hL.1];exact hn) fun h1 s1 b1 ho1 hu1=>?_)
    refine⟨_,rfl,WX (i:=1) b1 (show 1<5 by decide),IU (i:=1) (c':=G4 sl false val s1 none) b1 rfl fun N b2 o=>?_⟩
    refine⟨_,rfl,WX (i:=2) b2 (show 2<5 by decide),IU (i:=2) (c':=G4 sl false ⟨#[]⟩ s1 none) b2 rfl fun h3 b3 D=>?_⟩
    have G:Upd No h h3:=hu1.own (o.tr D) (av _);have U:=ho1.upd (o.tr D) fun x hx e=>by have e:x=h.size:=e;have:=hx.1;omega
    refine hk h3 h.size none F true G ⟨⟨#[]⟩,s1,none,ks,b3,rfl,U.sl (fun x hx _ L=>by have:=hW _ L;have:=hx.1;omega),⟨U.cap,fun hx=>kf _ (hW _ hx)⟩,RxF.upd0 G hF⟩ hc (QN hc) (fun h=>by cases h) fun _=>⟨u,.inl ⟨rfl,L⟩⟩
  ·have p:k.data.toList≠[]:=fun e=>hk0 (by cases k;exact congrArg xY (kN.1 e))
   obtain⟨c0,hc0,hc0e⟩:=LW p;refine⟨c0,vC _,hc0,?_⟩;have hlk:k.data.toList.length=k.size:=kC k;refine Ef hr hc (c:=c0.toNat) (uq _) fun i ok V hlo hhi hok=>?_
   rw[hc0e]at hlo hhi hok;cases ok with
   |false=>
    refine aA.2 (t (Upd.refl _ _) fun v d=>?_)
    rcases d with⟨h,_⟩|d
    ·exact p h
    ·obtain⟨n',hn',e,_⟩:=zd hc d
     obtain⟨j,hj,rfl⟩:=dC hn';rcases cC j i with hl|hl
     ·have:=hlo j hj hl;omega
     ·have h1:=hhi j hj hl
      have N:=hhi i (by omega) (av _);rcases cC i j with hl2|hl2
      ·have h3:=dE.1 hcan.1 i j (by omega) hj hl2
       omega
      ·have:i=j:=by omega
       subst this;have:=hok.2 ⟨hj,e⟩;cases this
   |true=>
    obtain⟨hi,X⟩:=hok.1 rfl;refine af.2 ⟨_,rfl,s,gF (i:=3) hb,?_⟩;obtain⟨kb,ksl,hki,B,E⟩:=hL.at hi;have I:F.toL[i]∈F.toL:=bZ hi;have T:=hcan.2 _ I;obtain⟨a,ha,_,hvv⟩:=hs.at0 hki;have hslen:=hs.len;rw[hL.1]at hslen;have hlt1:(i:Int)<((s.len:Nat):Int):=by omega
    refine⟨⟨by simp only;omega,hlt1⟩,a,ha,some ⟨kb,0,none⟩,hvv,_,rfl,?_⟩;obtain⟨kval,kss,kow,kks,hkb,_⟩:=id E;have C:∀v,uT F k.data.toList v→yL F.toL[i] k.data.toList v:=fun v d=>by
     obtain⟨n',hn',e,hN⟩:=zd hc d;rw[←Az hc hn' I (by omega)];exact hN
    have q:∀j v,yL F.toL[i] j v→uT F j v:=fun j v d=>ja.2 ⟨_,I,d⟩
    have g:∀{m:Bn},Ue m→hd m.1=hd F.toL[i].1→j5 (.ofL (F.toL.set i m)):=fun h1 N=>Su hc hi h1 N
    have P:∀{m:Bn},vA (yL F.toL[i]) (yL m) k.data.toList→vA (uT F) (uT (.ofL (F.toL.set i m))) k.data.toList:=fun hp=>TK hc hi X hp
    have S:(∀k' v',yL F.toL[i] k' v'→k'=k.data.toList)→vA (uT F) (uT (.ofL (F.toL.take i++F.toL.drop (i+1)))) k.data.toList:=fun hp=>TL hc hi X hp
    have hrset:∀{h':ad} {k':Option Addr} {m:Bn},Upd No h h'→Kid W h' k' m→RxL W h' (ks.set i k') (F.toL.set i m):=fun hu hkd=>(hL.upd0 hu).set hi hkd
    generalize F.toL[i]=m at B E T C q g P S X;obtain⟨lab,wk,Fk⟩:=m;simp only at B E T X g;refine⟨ksl,gF (i:=0) hkb,Wd (fun Q f=>?_) fun A=>?_⟩
    ·rw[B]at f
     have hlne:lab.length≠0:=fun e=>T.1 (bp.1 e)
     have hrl:Q.size<k.size:=by
      rw[←kC Q,←hlk,f,aj];omega
     refine af.2 ⟨_,rfl,s,gF (i:=3) hb,⟨by simp only;omega,hlt1⟩,a,ha,some ⟨kb,0,none⟩,hvv,?_⟩;have hkbd:∀j v,uT Fk j v→j.length≤1000000:=fun j v d=>by
      have:=hbd _ v (q (lab++j) v ⟨j,rfl,.inr d⟩);rw[aj]at this;omega
     refine ih Q (by omega) E hW T.2.2 hkbd fun N b2 w2 F2 z o rn2 hc2 hd2 hg0 hg1=>?_
     cases z with
     |false=>
      refine aA.2 (t o fun v d=>?_)
      rcases d with⟨h,_⟩|d
      ·exact p h
      ·obtain⟨r',e,hr'⟩:=C v d
       simp only at e;rw[f]at e;exact(hg0 rfl).2 v (by rw[iK e];exact hr')
     |true=>
      obtain⟨v0,hv0⟩:=hg1 rfl;have H:∃v,wM w F k.data.toList v:=⟨v0,.inr (q _ _ ⟨_,f,hv0⟩)⟩;have hdn:vA (yL (lab,wk,Fk)) (yL (lab,w2,F2)) k.data.toList:=by
       rw[f];exact QP hd2
      refine af.2 (pw (o.get0 hb) (hs.upd o fun _ h=>h.elim) (by rw[hL.1];exact hn) fun h3 s3 b3 U D=>?_)
      have G:=o.tr D;obtain⟨rr,vv,d⟩:=wC hc _ I;have hlb:lab.length≤1000000:=by
       have:=hbd _ v0 (q _ _ ⟨_,f,hv0⟩);rw[f,aj]at this;omega
      have hb2:∀j v,uT F2 j v→j.length≤1000000:=fun j v d=>by
       rcases((hd2 j v).1 (.inr d)).2 with⟨e,_⟩|h
       ·rw[e];simp
       ·exact hkbd j v h
      refine SZ (W:=Pro W N h3) ((rn2.less Pro.hm).upd0 D) (Pro.lt (fun y hy=>aQ (hW y hy) o.size) D) hc2 (by rw[B];exact T.1) (by rw[←kC ksl,B];exact hlb) hb2 fun h4 r4 o4 Z hm4 hr4=>?_
      rw[B]at hm4;have b4:=Z.get0 b3;have ho4:=U.upd Z fun _ _ h=>h
      have hu04:=G.tr Z;have hz2:h.size≤N.size:=o.size;have V:i<ks.length:=by rw[hL.1];exact hi
      have hlen4:=ho4.len;rcases hr4 with⟨rfl,rfl⟩|⟨Y,sl4,m4,rfl,rfl,hsl4,rn4⟩
      ·rcases hm4 with⟨_,A⟩|⟨_,e,_⟩
       ·have ew:ac .i64 ((i:Int)+1)=((i+1:Nat):Int):=by rw[kO (by omega)];omega
        refine aA.2 ⟨_,rfl,s3,gF (i:=3) b4,?_⟩;simp only;rw[ew];refine QR ho4 V (by rw[hL.1];omega) fun s5 h5 R J=>?_
        have b5:=J.get b4 fun hx=>by have:=hx.1;omega
        refine⟨_,rfl,WX (i:=3) b5 (show 3<5 by decide),IU (i:=3) (c':=G4 sl w.isSome val s5 none) b5 rfl fun h6 b6 hu6=>?_⟩
        have O:Upd No h h6:=(hu04.trans J fun x hx=>.inr (by have:=hx.1;omega)).own hu6 hz2
        have ho6:=R.upd hu6 fun x hx e=>by have e:x=N.size:=e;have:=hx.1;omega
        refine hk h6 N.size w _ true O ⟨val,s5,none,_,b6,hv,ho6.sl (fun x hx _ L=>by have:=hW _ L;have:=hx.1;omega),⟨ho6.cap,fun hx=>by have:=hW _ hx;omega⟩,mY.2 (by rw[Fo.to_of];exact((hL.upd0 O).take i).app ((hL.upd0 O).drop (i+1)))⟩ (X6 hc) (H0 p (S fun k' v' hN=>?_)) (fun h=>by cases h) fun _=>H
        refine Classical.byContradiction fun hne=>A k' v' ((hdn k' v').2 ⟨hne,hN⟩)
       ·cases e
      ·rcases hm4 with⟨e,_⟩|⟨m',e,hcn,hhd,hiff⟩
       ·cases e
       ·cases e
        obtain⟨a3,ha3,hab,hw3,R,J⟩:=OwnS.setAt ho4 V (some ⟨Y,0,none⟩);refine af.2 ⟨_,rfl,s3,gF (i:=3) b4,⟨by simp only;omega,by simp only;omega⟩,a3,ha3,?_⟩
        have hw1:Wr h4 (adr a3 (i*1)):=by
         rcases hw3 with L|⟨b',hb',L⟩
         ·cases L
         ·cases hb';exact L 0 (by simp)
        refine⟨hw1,bj ?_⟩;have b5:=J.get b4 fun e=>by have e:N.size=a3.block:=e;have:=hab.1;omega
        have hu45:Upd No N _:=(D.tr Z).trans J fun x hx=>.inr (by have hx:x=a3.block:=hx;have:=hab.1;omega)
        have hu05:=o.tr hu45;have eset:ks.set i (some ⟨Y,0,none⟩)=ks.take i++some ⟨Y,0,none⟩::ks.drop (i+1):=by rw[dD,if_pos V]
        rw[←eset]at R;have rn5:=(rn4.updM (M:=(· =a3.block)) J fun y hy=>.inl (.inr (by have hy:y=a3.block:=hy;have:=hab.1;have:=hab.2;omega))).less (W':=W) fun y hy=>.inl (.inl hy)
        exact hk _ N.size w _ true hu05 ⟨val,s3,none,_,b5,hv,R.sl (fun x hx _ L=>by have:=hW _ L;have:=hx.1;omega),⟨R.cap,fun hx=>by have:=hW _ hx;omega⟩,mY.2 (by rw[Fo.to_of];exact hrset hu05 ⟨Y,sl4,rfl,hsl4,rn5⟩)⟩ (g hcn hhd) (H0 p (P fun k' v'=>by rw[hiff k' v'];exact hdn k' v')) (fun h=>by cases h) fun _=>H
    ·rw[B]at A
     refine aA.2 (t (Upd.refl _ _) fun v d=>?_)
     rcases d with⟨h,_⟩|d
     ·exact p h
     ·obtain⟨r',e,_⟩:=C v d
      exact A r' e
end Go.Proofs
namespace Go.Proofs
open Go Go.Lift
theorem S7{w:Option ByteArray}{F:Fo}{l:List Pr}(h:∀k v,(k,v)∈Vn w F↔∃p∈l,p.1.data.toList=k∧p.2=v)(a:Fit l):∀j v,uT F j v→j.length≤1000000:=fun j v hi=>by
 obtain⟨p,b,e,_⟩:=(h j v).1 (rj.2 (.inr hi));have:=(a p b).1;rw[←e,kC];omega
theorem Lp{W:Nat→Prop}{h:ad}{b:Nat}{l:List Pr}(t:RadAt W h b l)(D:∀y,W y→y<h.size)(L:Fit l)(k:ByteArray){K:Option Addr×Bool→ad→Prop}
  (N:∀h' b',Upd No h h'→RadAt W h' b' (pq k l)→(cG l k=false→b'=b)→K (some ⟨b',0,none⟩,cG l k) h'):
  HC PG xJ [.pointer none,.pointer (some ⟨b,0,none⟩),.string k] [.c .ptr,.c .bool] K h:=by
 refine Mq none (some ⟨b,0,none⟩) k ?_;unfold DH FV;refine Ee (.inr ⟨b,rfl,t⟩) D fun R b2 E g C=>?_
 have B:b2=b:=by
  rcases C with e|e
  ·cases e;rfl
  ·cases e
 subst B;obtain⟨w,F,G,H,o⟩:=E.ex;refine U9 (k.size+1) k (by omega) G (fun y O=>aQ (D y O) g.size) H (S7 o L) fun J b3 w' P a A u n s f m=>?_
 have i:∀v,wM w F k.data.toList v↔(k,v)∈l:=fun v=>by
  rw[←rj,o];constructor
  ·rintro⟨p,z,e1,rfl⟩
   rw[←tW.1 e1];exact z
  ·intro z;exact⟨_,z,rfl,rfl⟩
 have x:a=cG l k:=by
  cases a with
  |false=>
   refine(NU fun q d e=>(f rfl).2 q.2 ((i _).2 ?_)).symm
   rw[←e];exact d
  |true=>
   obtain⟨v,I⟩:=m rfl;exact(List.any_eq_true.2 ⟨_,(i v).1 I,decide_eq_true rfl⟩).symm
 subst x;refine N J b3 (g.tr A) ⟨w',P,u,n,fun j v=>?_⟩ fun Q=>(f Q).1
 rw[rj,s j v,←rj,o];constructor
 ·rintro⟨c,q,d,rfl,rfl⟩
  exact⟨q,R9.2 ⟨d,fun e=>c (by rw[e])⟩,rfl,rfl⟩
 ·rintro⟨q,d,rfl,rfl⟩
  obtain⟨d,c⟩:=R9.1 d;exact⟨fun e=>c (tW.1 e),q,d,rfl,rfl⟩
theorem M8{W:Nat→Prop}{x:Hs}{h:ad}{kind:Int}{t:Tr}{l:List Pr}(i:TreeIs W h kind x t l)(hW:∀y,W y→y<h.size)(hr:fe l)(hf:Fit l)(hn:l.length≤1000000)(k:ByteArray)(U:k.size≤256){K:Tr×Int→ad→Prop}
  (H:∀h' j,TreeIs W h' kind x j (pq k l)→(cG l k=false→j=t)→Upd No h h'→K (j,if cG l k then 0 else 4) h'):HC PG nJ [SM t,.pointer none,.string k] [.agg [.int .i64,.int .u64,.int .u64,.int .u64,.ptr,.ptr],.c (.int .i64)] K h:=by
 refine AI t none k ?_;unfold sF ao eX nv bM eu rQ ae aq qo m6 im yE FV;refine cH fun d b1 k1=>cH fun s b2 L=>?_
 have z1:=bB b1;have z2:=bB b2;have Y:h.size≤d.size:=k1.size;have T:=k1.tr L;refine Kg (v:=⟨#[]⟩) U (Nat.zero_le 4096) (af.2 ?_);have c1:=L.get0 b1;refine⟨_,vc c1 0,_,vc c1 1,_,vc c1 2,_,vc c1 3,_,vc c1 4,_,vc c1 5,?_⟩;refine cH fun h3 b3 X=>?_
 have z3:=bB b3;have s2:d.size≤s.size:=L.size;refine cS (c:=qf D4) (vs:=qf t) b3 rfl fun F Z A=>?_
 have w:Upd No h F:=(T.tr X).own A (by omega);have C:Upd No s F:=X.own A (av _);have s4:h3.size≤F.size:=A.size;have u:=C.get0 c1;have d4:=C.get0 b2;have i4:=i.pro w;have D:=Pro.lt hW w;have O:∀{a:ad} {j:Tr},Upd No h a→a[h.size]? =some (.cells (qf j).toArray cn (0,0))→a[d.size]? =some (.cells (qf D4).toArray cn (0,0))→a[s.size]? =some (.cells (qf t).toArray cn (0,0))→TreeIs (Pro W h F) a kind x j (pq k l)→(cG l k=false→j=t)→
   CondP (!cG l k) (∃v41:Int,aD a (adr (aH s) 0)=some (.int .i64 v41)∧
    ∃v42:Int,aD a (adr (aH s) 1)=some (.int .u64 v42)∧
    ∃v43:Int,aD a (adr (aH s) 2)=some (.int .u64 v43)∧
    ∃v44:Int,aD a (adr (aH s) 3)=some (.int .u64 v44)∧
    ∃v45:Option Addr,aD a (adr (aH s) 4)=some (.pointer v45)∧
    ∃v46:Option Addr,aD a (adr (aH s) 5)=some (.pointer v46)∧
    (tc a (some (aH d)) 0 [.int .i64 v41,.int .u64 v42,.int .u64 v43,.int .u64 v44,.pointer v45,.pointer v46]∧
     At (ir a (aH d) 0 [.int .i64 v41,.int .u64 v42,.int .u64 v43,.int .u64 v44,.pointer v45,.pointer v46]) (fun m=>
      ∃v48:Int,aD m (adr (aH d) 0)=some (.int .i64 v48)∧
      ∃v49:Int,aD m (adr (aH d) 1)=some (.int .u64 v49)∧
      ∃v50:Int,aD m (adr (aH d) 2)=some (.int .u64 v50)∧
      ∃v51:Int,aD m (adr (aH d) 3)=some (.int .u64 v51)∧
      ∃v52:Option Addr,aD m (adr (aH d) 4)=some (.pointer v52)∧
      ∃v53:Option Addr,aD m (adr (aH d) 5)=some (.pointer v53)∧
      K ((v48,v49,v50,v51,v52,v53),4) m))) (
    ∃v54:Int,aD a (adr (aH h) 0)=some (.int .i64 v54)∧
    ∃v55:Int,aD a (adr (aH h) 1)=some (.int .u64 v55)∧
    ∃v56:Int,aD a (adr (aH h) 2)=some (.int .u64 v56)∧
    ∃v57:Int,aD a (adr (aH h) 3)=some (.int .u64 v57)∧
    ∃v58:Option Addr,aD a (adr (aH h) 4)=some (.pointer v58)∧
    ∃v59:Option Addr,aD a (adr (aH h) 5)=some (.pointer v59)∧
    (tc a (some (aH d)) 0 [.int .i64 v54,.int .u64 v55,.int .u64 v56,.int .u64 v57,.pointer v58,.pointer v59]∧
     At (ir a (aH d) 0 [.int .i64 v54,.int .u64 v55,.int .u64 v56,.int .u64 v57,.pointer v58,.pointer v59]) (fun n=>
      ∃v61:Int,aD n (adr (aH d) 0)=some (.int .i64 v61)∧
      ∃v62:Int,aD n (adr (aH d) 1)=some (.int .u64 v62)∧
      ∃v63:Int,aD n (adr (aH d) 2)=some (.int .u64 v63)∧
      ∃v64:Int,aD n (adr (aH d) 3)=some (.int .u64 v64)∧
      ∃v65:Option Addr,aD n (adr (aH d) 4)=some (.pointer v65)∧
      ∃v66:Option Addr,aD n (adr (aH d) 5)=some (.pointer v66)∧
      K ((v61,v62,v63,v64,v65,v66),0) n))):=fun{a j} G z e1 e2 I e=>by
  cases B:cG l k with
  |false=>
   rw[B]at H e;have P:=e rfl;subst P;refine aA.2 ⟨_,vc e2 0,_,vc e2 1,_,vc e2 2,_,vc e2 3,_,vc e2 4,_,vc e2 5,?_⟩;refine cS (c:=qf D4) (vs:=qf j) e1 rfl fun Q o p=>?_
   refine⟨_,vc o 0,_,vc o 1,_,vc o 2,_,vc o 3,_,vc o 4,_,vc o 5,?_⟩;exact H Q j ((I.updM p (fun y q=>.inl (.inr (by have q:y=d.size:=q;omega)))).less Pro.sub) (fun _=>rfl) (G.own p Y)
  |true=>
   rw[B]at H e;refine af.2 ⟨_,vc z 0,_,vc z 1,_,vc z 2,_,vc z 3,_,vc z 4,_,vc z 5,?_⟩;refine cS (c:=qf D4) (vs:=qf j) e1 rfl fun Q o p=>?_
   refine⟨_,vc o 0,_,vc o 1,_,vc o 2,_,vc o 3,_,vc o 4,_,vc o 5,?_⟩;exact H Q j ((I.updM p (fun y q=>.inl (.inr (by have q:y=d.size:=q;omega)))).less Pro.sub) (fun h=>by cases h) (G.own p Y)
 refine Join.intro (fun tk a=>tk=cG l k∧Upd No h a∧∃j,a[h.size]? =some (.cells (qf j).toArray cn (0,0))∧a[d.size]? =some (.cells (qf D4).toArray cn (0,0))∧a[s.size]? =some (.cells (qf t).toArray cn (0,0))∧TreeIs (Pro W h F) a kind x j (pq k l)∧(cG l k=false→j=t)) (fun R V=>?_) ?_
 ·rcases i4 with⟨rfl,b,rfl,J⟩|⟨rfl,b,rfl,J⟩
  ·refine⟨_,vc u 0,af.2 ⟨_,xg u 1 0,_,xg u 1 1,_,xg u 1 2,_,vc u 4,?_⟩⟩
   refine Mc J D hr hn k fun h5 E f S e=>?_
   refine kP (i:=4) (c':=(qf (0,x.k0,x.k1,x.mask,some ⟨E,0,none⟩,none)).toArray) (f.get0 u) (show 4<6 by decide) rfl fun a N g=>?_
   exact V _ _ ⟨rfl,(w.tr f).own g (av _),_,N,g.oth (f.get0 d4) (by omega),g.oth (f.get0 Z) (by omega),.inl ⟨rfl,E,rfl,TrieAt.updM g (fun y q=>.inl (.inr (by have q:y=h.size:=q;omega))) S⟩,fun B=>by rw[e B]⟩
  ·refine⟨_,vc u 0,aA.2 ⟨_,vc u 5,?_⟩⟩
   refine Lp J D hf k fun h5 E f S e=>?_
   refine kP (i:=5) (c':=(qf (1,0,0,0,none,some ⟨E,0,none⟩)).toArray) (f.get0 u) (show 5<6 by decide) rfl fun a N g=>?_
   exact V _ _ ⟨rfl,(w.tr f).own g (av _),_,N,g.oth (f.get0 d4) (by omega),g.oth (f.get0 Z) (by omega),.inr ⟨rfl,E,rfl,S.updM g (fun y q=>.inl (.inr (by have q:y=h.size:=q;omega)))⟩,fun B=>by rw[e B]⟩
 ·rintro _ a ⟨rfl,G,j,z,e1,e2,I,e⟩
  exact O G z e1 e2 I e
end Go.Proofs
namespace Go.Proofs
open Go Go.Lift
end Go.Proofs
namespace Go.Proofs
open Go Go.Lift
theorem Tw(p:Pr)(l:List Pr)(k:ByteArray):look (p::l) k=if p.1=k then some p.2 else look l k:=by
 unfold look;rw[List.find?_cons];by_cases e:p.1=k
 ·rw[decide_eq_true e,if_pos e];rfl
 ·rw[decide_eq_false e,if_neg e]
theorem N2{k v:ByteArray}:∀{l:List Pr},look l k=some v→(k,v)∈l
 | [],h=>by cases h
 |p::l,h=>by
  rw[Tw]at h;by_cases e:p.1=k
  ·rw[if_pos e]at h;cases h;rw[←e];exact List.mem_cons_self ..
  ·rw[if_neg e]at h;exact List.mem_cons_of_mem _ (N2 h)
def fd(l:List Ch)(k:ByteArray):Option Ch:=l.find? fun c=>decide (c.1=k)
def xy(c:Ch):Bool:=(!((!c.2.2.2.1&& !c.2.2.2.2)||(c.2.2.2.1&&(c.2.2.2.2&&decide (c.2.1=c.2.2.1)))))&&((c.2.2.2.1||decide (c.2.1=⟨#[]⟩))&&(c.2.2.2.2||decide (c.2.2.1=⟨#[]⟩)))
def Zs(a b:Ch):Ch:=(a.1,a.2.1,b.2.2.1,a.2.2.2.1,b.2.2.2.2)
def NY(a b:Ch):Bool:=a.2.2.2.2==b.2.2.2.1&&decide (a.2.2.1=b.2.1)
def one(c:Ch):Option Ch:=if xy c then some c else none
end Go.Proofs
namespace Go.Proofs
open Go Go.Lift
end Go.Proofs
namespace Go.Proofs
open Go Go.Lift
theorem Vd(k o n:ByteArray):xy (k,o,n,false,true)=decide (o=⟨#[]⟩):=by simp[xy]
theorem Vc(k o n:ByteArray):xy (k,o,n,true,false)=decide (n=⟨#[]⟩):=by simp[xy]
theorem Vb(k o n:ByteArray):xy (k,o,n,true,true)= !decide (o=n):=by simp[xy]
theorem QV{c:Ch}{h:ad}{K:Bool→ad→Prop}(a:∀h',Upd No h h'→K (xy c) h'):HC PG nN [.agg #[.string c.1,.string c.2.1,.string c.2.2.1,.bool c.2.2.2.1,.bool c.2.2.2.2]] [.c .bool] K h:=by
 refine AP c ?_;unfold sL ag aX Qh;refine cH fun b b1 k1=>?_
 obtain⟨k,o,n,w,i⟩:=c;have a:=a b k1;refine Join.plain ?_;cases w<;>cases i
 ·exact⟨false,vc b1 3,aA.2 ⟨false,vc b1 4,aA.2 (aA.2 a)⟩⟩
 ·rw[Vd]at a
  refine⟨false,vc b1 3,aA.2 ⟨true,vc b1 4,af.2 ⟨false,vc b1 3,af.2 (af.2 ⟨false,vc b1 3,af.2 ⟨o,vc b1 1,?_⟩⟩)⟩⟩⟩;rw[di];cases e:decide (o=⟨#[]⟩)with
  |true=>rw[e]at a;exact aA.2 ⟨true,vc b1 4,aA.2 a⟩
  |false=>rw[e]at a;exact af.2 a
 ·rw[Vc]at a
  refine⟨true,vc b1 3,af.2 ⟨true,vc b1 3,aA.2 ⟨false,vc b1 4,af.2 (af.2 ⟨true,vc b1 3,aA.2 ⟨false,vc b1 4,af.2 ⟨n,vc b1 2,?_⟩⟩⟩)⟩⟩⟩;rw[di];exact a
 ·rw[Vb]at a
  refine⟨true,vc b1 3,af.2 ⟨true,vc b1 3,aA.2 ⟨true,vc b1 4,aA.2 ⟨o,vc b1 1,n,vc b1 2,?_⟩⟩⟩⟩;rw[di];cases e:decide (o=n)with
  |true=>rw[e]at a;exact aA.2 a
  |false=>rw[e]at a;exact af.2 ⟨true,vc b1 3,aA.2 ⟨true,vc b1 4,aA.2 a⟩⟩
end Go.Proofs
namespace Go.Proofs
open Go Go.Lift
end Go.Proofs
namespace Go.Proofs
open Go Go.Lift
abbrev abK(h h':ad)(s:SliceV)(O:List Ch):Prop:=OwnS oX 5 bE (fun y=>h.size≤y) h' s O
set_option maxRecDepth 100000 in
theorem joinTail{h g:ad}{d:SliceV×SliceV×SliceV}{O:List Ch}{a b:Ch}{s pb:Nat}{Z:SliceV×SliceV×SliceV→ad→Prop}{K:SliceV×Int→ad→Prop}
  (G:g[s]? =some (.cells (oX a).toArray bE (0,0))) (N:g[pb]? =some (.cells (oX b).toArray bE (0,0))) (ho:abK h g d.2.2 O) (hO:O.length≤1000000) (X:Upd No h g) (h1:1≤d.1.len) (h2:1≤d.2.1.len)
  (hc:NY a b=false→K (⟨none,0,0⟩,8) g)
  (Q:NY a b=true→∀s' h',abK h h' s' (O++(one (Zs a b)).toList)→Upd No h h'→Z (⟨aY d.1.a 1 d.1.cap 5,d.1.len-1,d.1.cap-1⟩,⟨aY d.2.1.a 1 d.2.1.cap 5,d.2.1.len-1,d.2.1.cap-1⟩,s') h'):
  Join (fun(T:Bool) f=>
  CondP T (
  K (⟨none,0,0⟩,8) f) (
  ∃v78:ByteArray,aD f (adr ⟨s,0,none⟩ 0)=some (.string v78)∧
  ∃v79:ByteArray,aD f (adr ⟨s,0,none⟩ 1)=some (.string v79)∧
  ∃v80:ByteArray,aD f (adr ⟨pb,0,none⟩ 2)=some (.string v80)∧
  ∃v81:Bool,aD f (adr ⟨s,0,none⟩ 3)=some (.bool v81)∧
  ∃v82:Bool,aD f (adr ⟨pb,0,none⟩ 4)=some (.bool v82)∧
  At (hnew f [.string (⟨#[]⟩:ByteArray),.string (⟨#[]⟩:ByteArray),.string (⟨#[]⟩:ByteArray),.bool false,.bool false] bE) (fun u=>
  (tc u (some (aH f)) 0 [.string v78,.string v79,.string v80,.bool v81,.bool v82]∧
  At (ir u (aH f) 0 [.string v78,.string v79,.string v80,.bool v81,.bool v82]) (fun j=>
  Join (fun(J:SliceV) C=>
  (((0:Int)≤(1:Int)∧(1:Int)≤((d.1.len:Nat):Int))∧
  Bd (aY d.1.a ((1:Int).toNat) d.1.cap 5:Option Addr) (fun H=>Bd (d.1.len-((1:Int).toNat):Nat) (fun v=>Bd (d.1.cap-((1:Int).toNat):Nat) (fun z=>
  (((0:Int)≤(1:Int)∧(1:Int)≤((d.2.1.len:Nat):Int))∧
  Bd (aY d.2.1.a ((1:Int).toNat) d.2.1.cap 5:Option Addr) (fun L=>Bd (d.2.1.len-((1:Int).toNat):Nat) (fun I=>Bd (d.2.1.cap-((1:Int).toNat):Nat) (fun x=>
  Z (⟨H,v,z⟩,⟨L,I,x⟩,J) C))))))))) (fun A=>
  ∃v86:ByteArray,aD j (adr (aH f) 0)=some (.string v86)∧
  ∃v87:ByteArray,aD j (adr (aH f) 1)=some (.string v87)∧
  ∃v88:ByteArray,aD j (adr (aH f) 2)=some (.string v88)∧
  ∃v89:Bool,aD j (adr (aH f) 3)=some (.bool v89)∧
  ∃v90:Bool,aD j (adr (aH f) 4)=some (.bool v90)∧
  HC PG nN [.agg #[.string v86,.string v87,.string v88,.bool v89,.bool v90]] [.c .bool] (fun(V:Bool) i=>
  CondP V (
  ∃v93:ByteArray,aD i (adr (aH f) 0)=some (.string v93)∧
  ∃v94:ByteArray,aD i (adr (aH f) 1)=some (.string v94)∧
  ∃v95:ByteArray,aD i (adr (aH f) 2)=some (.string v95)∧
  ∃v96:Bool,aD i (adr (aH f) 3)=some (.bool v96)∧
  ∃v97:Bool,aD i (adr (aH f) 4)=some (.bool v97)∧
  At (hnew i [.string v93,.string v94,.string v95,.bool v96,.bool v97] bE) (fun F=>
  ∃xs99,SRow F (some (aH i)) (1*5) xs99∧
  AppP (some [.string (⟨#[]⟩:ByteArray),.string (⟨#[]⟩:ByteArray),.string (⟨#[]⟩:ByteArray),.bool false,.bool false]) 5 56 bE d.2.2.a d.2.2.len d.2.2.cap 1 xs99 F (fun E w=>
  A E w))) (
  A d.2.2 i)) j)))))) (fun B=>
  ∃v72:Bool,aD g (adr ⟨s,0,none⟩ 4)=some (.bool v72)∧
  ∃v73:Bool,aD g (adr ⟨pb,0,none⟩ 3)=some (.bool v73)∧
  CondP (!(v72==v73)) (
  B true g) (
  ∃v74:ByteArray,aD g (adr ⟨s,0,none⟩ 2)=some (.string v74)∧
  ∃v75:ByteArray,aD g (adr ⟨pb,0,none⟩ 1)=some (.string v75)∧
  B (!(v74.toList==v75.toList)) g)):=by
 have hm:NY a b=(a.2.2.2.2==b.2.2.2.1&&decide (a.2.2.1=b.2.1)):=rfl;refine Join.intro (fun t f=>t=(!NY a b)∧f=g) (fun R m=>?_) ?_
 ·refine⟨_,vc G 4,_,vc N 3,?_⟩
  rw[hm]at m;cases e:(a.2.2.2.2==b.2.2.2.1)with
  |false=>rw[e]at m;exact aA.2 (m _ _ ⟨rfl,rfl⟩)
  |true=>rw[e]at m;exact af.2 ⟨_,vc G 2,_,vc N 1,m _ _ ⟨by rw[di];rfl,rfl⟩⟩
 rintro t f ⟨rfl,rfl⟩;cases hme:NY a b with
 |false=>exact aA.2 (hc hme)
 |true=>
  have Q:=Q hme;refine af.2 ⟨_,vc G 0,_,vc G 1,_,vc N 2,_,vc G 3,_,vc N 4,?_⟩;refine ZY (c:=Zs a b) fun j k D=>?_
  have S:=X.tr D;have s77:=X.size;refine Join.intro (fun s' h'=>abK h h' s' (O++(one (Zs a b)).toList)∧Upd No h h') (fun R m=>?_) ?_
  ·refine⟨_,vc k 0,_,vc k 1,_,vc k 2,_,vc k 3,_,vc k 4,?_⟩
   refine QV (c:=Zs a b) fun i p=>?_
   have n:=p.get0 k;have q:=S.tr p;have o:=ho.upd (D.tr p) fun _ _ h=>h
   unfold one at m;cases er:xy (Zs a b)with
   |false=>
    rw[er]at m;refine af.2 (m _ _ ⟨?_,q⟩);rw[if_neg Bool.false_ne_true,Option.toList_none,List.append_nil];exact o
   |true=>
    rw[er]at m;refine aA.2 ⟨_,vc n 0,_,vc n 1,_,vc n 2,_,vc n 3,_,vc n 4,?_⟩;have s92:=q.size;refine WB (c:=Zs a b) o (fun y Y=>by omega) (by omega) fun s3 h3 W U=>m _ _ ⟨W,q.trans U fun y Y=>.inr Y⟩
  ·rintro s' h' ⟨P,u'⟩
   exact⟨⟨by omega,by omega⟩,⟨by omega,by omega⟩,Q s' h' P u'⟩
end Go.Proofs
namespace Go.Proofs
open Go Go.Lift
end Go.Proofs
namespace Go.Proofs
open Go Go.Lift
end Go.Proofs
namespace Go.Proofs
open Go Go.Lift
end Go.Proofs
namespace Go.Proofs
open Go Go.Lift
end Go.Proofs
namespace Go.Proofs
open Go Go.Lift
def ZL(o:Option ByteArray):Sd:=(o.getD ⟨#[]⟩,o.isSome)
def ZH(b o t:Option ByteArray)(p:Int):Option ByteArray×Bool:=if o=t∨t=b then(o,true)else if o=b then(t,true)else if p=1 then(o,false)else if p=2 then(t,false)else(b,false)
def Xo(L:List Pr)(k:ByteArray):Option ByteArray→List Pr
 |some v=>km (k,v) L
 |none=>pq k L
def tk(B O T:List Pr)(p:Int)(k:ByteArray):Option ByteArray×Bool:=ZH (look B k) (look O k) (look T k) p
end Go.Proofs
namespace Go.Proofs
open Go Go.Lift Go.Sort
abbrev Wf:Value:=.func (.func zF) #[] #[]
def Eo(dec:Int→Ch)(i j:Int):Bool:=aa5 (dec i) (dec j)
structure SA(dec:Int→Ch)(M:Nat→Prop)(s:SliceV)(h:ad)(d:Array Int):Prop where
 own:OwnS oX 5 bE M h s (d.toList.map dec)
 small:d.size≤1000000000
 lt:∀b,M b→b<h.size
variable {dec:Int→Ch} {M:Nat→Prop} {s:SliceV} {h:ad} {d:Array Int}
theorem SA.len(a:SA dec M s h d):s.len=d.size:=by have:=a.own.len;simpa using this
theorem SA.upd0{h':ad}(a:SA dec M s h d)(k:Upd No h h'):SA dec M s h' d:=⟨a.own.upd k fun _ _ h=>h,a.small,fun b c=>aQ (a.lt b c) k.size⟩
theorem SA.at(c:SA dec M s h d){i:Nat}(hi:i<d.size):∃a,s.a=some a∧∀j v,(oX (dec d[i]!))[j]? =some v→aD h (adr (adr a (((i:Int)).toNat*5)) j)=some v:=by
 have hx:(d.toList.map dec)[i]? =some (dec d[i]!):=by
  rw[List.getElem?_map,Array.getElem?_toList,Array.getElem?_eq_getElem hi,getElem!_pos d i hi];rfl
 obtain⟨a,e,_,b⟩:=(c.own.sl (W:=No) fun _ _ _ h=>h).at hx
 exact⟨a,e,by simpa using b⟩
theorem SA.rd(c:SA dec M s h d){t:Int}{i:Nat}(g:t=(i:Int))(hi:i<d.size){R:ByteArray→ByteArray→ByteArray→Bool→Bool→Prop}(e:R (dec d[i]!).1 (dec d[i]!).2.1 (dec d[i]!).2.2.1 (dec d[i]!).2.2.2.1 (dec d[i]!).2.2.2.2):
  ((0:Int)≤t∧t<((s.len:Nat):Int))∧∃a:Addr,s.a=some a∧∃v1:ByteArray,aD h (adr (adr a (t.toNat*5)) 0)=some (.string v1)∧∃v2:ByteArray,aD h (adr (adr a (t.toNat*5)) 1)=some (.string v2)∧∃v3:ByteArray,aD h (adr (adr a (t.toNat*5)) 2)=some (.string v3)∧∃v4:Bool,aD h (adr (adr a (t.toNat*5)) 3)=some (.bool v4)∧∃v5:Bool,aD h (adr (adr a (t.toNat*5)) 4)=some (.bool v5)∧R v1 v2 v3 v4 v5:=by
 subst g;obtain⟨a,f,b⟩:=c.at hi;exact⟨by rw[c.len];omega,a,f,_,b 0 _ rfl,_,b 1 _ rfl,_,b 2 _ rfl,_,b 3 _ rfl,_,b 4 _ rfl,e⟩
theorem SA.st(e:SA dec M s h d){t:Int}{i:Nat}{x:Int}(p:t=(i:Int))(hi:i<d.size){R:ad→Prop}(j:∀h',SA dec M s h' (d.setIfInBounds i x)→Upd M h h'→R h'):
  ((0:Int)≤t∧t<((s.len:Nat):Int))∧∃a:Addr,s.a=some a∧(tc h (some (adr a (t.toNat*5))) 0 [.string (dec x).1,.string (dec x).2.1,.string (dec x).2.2.1,.bool (dec x).2.2.2.1,.bool (dec x).2.2.2.2]∧At (ir h (adr a (t.toNat*5)) 0 [.string (dec x).1,.string (dec x).2.1,.string (dec x).2.2.1,.bool (dec x).2.2.2.1,.bool (dec x).2.2.2.2]) R):=by
 subst p;obtain⟨a,n,hM,o,m,g⟩:=OwnS.setAt e.own (k:=i) (by simpa using hi) (dec x);refine⟨by rw[e.len];omega,a,n,?_⟩;rw[ak];have f:Upd M h _:=g.mono fun b c=>.inl (by have c:b=a.block:=c;rw[c];exact hM)
 refine⟨o,bj (j _ ⟨?_,by simpa using e.small,fun b c=>aQ (e.lt b c) g.size⟩ f)⟩
 rw[show(d.setIfInBounds i x).toList.map dec=(d.toList.map dec).take i++dec x::(d.toList.map dec).drop (i+1) by
  rw[Array.toList_setIfInBounds,List.map_set,dD,if_pos (by simpa using hi)]]
 exact m
@[simp] theorem ZK(d:Array Int)(i j:Nat):(swp d i j).size=d.size:=by simp[swp]
theorem SA.swap(e:SA dec M s h d){b c:Int}{i j:Nat}(n:b=(i:Int))(m:c=(j:Int))(hi:i<d.size)(o:j<d.size){R:ad→Prop}(p:∀h',SA dec M s h' (swp d i j)→Upd M h h'→R h'):
  ((0:Int)≤c∧c<((s.len:Nat):Int))∧∃a:Addr,s.a=some a∧∃v1:ByteArray,aD h (adr (adr a (c.toNat*5)) 0)=some (.string v1)∧∃v2:ByteArray,aD h (adr (adr a (c.toNat*5)) 1)=some (.string v2)∧∃v3:ByteArray,aD h (adr (adr a (c.toNat*5)) 2)=some (.string v3)∧∃v4:Bool,aD h (adr (adr a (c.toNat*5)) 3)=some (.bool v4)∧∃v5:Bool,aD h (adr (adr a (c.toNat*5)) 4)=some (.bool v5)∧
   (((0:Int)≤b∧b<((s.len:Nat):Int))∧∃a:Addr,s.a=some a∧∃w1:ByteArray,aD h (adr (adr a (b.toNat*5)) 0)=some (.string w1)∧∃w2:ByteArray,aD h (adr (adr a (b.toNat*5)) 1)=some (.string w2)∧∃w3:ByteArray,aD h (adr (adr a (b.toNat*5)) 2)=some (.string w3)∧∃w4:Bool,aD h (adr (adr a (b.toNat*5)) 3)=some (.bool w4)∧∃w5:Bool,aD h (adr (adr a (b.toNat*5)) 4)=some (.bool w5)∧
    (((0:Int)≤b∧b<((s.len:Nat):Int))∧∃a:Addr,s.a=some a∧(tc h (some (adr a (b.toNat*5))) 0 [.string v1,.string v2,.string v3,.bool v4,.bool v5]∧At (ir h (adr a (b.toNat*5)) 0 [.string v1,.string v2,.string v3,.bool v4,.bool v5]) (fun f=>
     (((0:Int)≤c∧c<((s.len:Nat):Int))∧∃a:Addr,s.a=some a∧(tc f (some (adr a (c.toNat*5))) 0 [.string w1,.string w2,.string w3,.bool w4,.bool w5]∧At (ir f (adr a (c.toNat*5)) 0 [.string w1,.string w2,.string w3,.bool w4,.bool w5]) R)))))):=by
 refine e.rd m o (e.rd n hi (e.st (x:=d[j]!) n hi fun f k k1=>k.st (x:=d[i]!) m (by simpa using o) fun q g t=>p q g (k1.tr t)))
theorem SA.less(f:SA dec M s h d){b c:Int}{i j:Nat}(n:b=(i:Int))(g:c=(j:Int))(hi:i<d.size)(p:j<d.size){R:Int→ad→Prop}(m:∀h' e,SA dec M s h' d→Upd No h h'→decide (e<0)=Eo dec d[i]! d[j]!→R e h'):
  ((0:Int)≤b∧b<((s.len:Nat):Int))∧∃a:Addr,s.a=some a∧∃v1:ByteArray,aD h (adr (adr a (b.toNat*5)) 0)=some (.string v1)∧∃v2:ByteArray,aD h (adr (adr a (b.toNat*5)) 1)=some (.string v2)∧∃v3:ByteArray,aD h (adr (adr a (b.toNat*5)) 2)=some (.string v3)∧∃v4:Bool,aD h (adr (adr a (b.toNat*5)) 3)=some (.bool v4)∧∃v5:Bool,aD h (adr (adr a (b.toNat*5)) 4)=some (.bool v5)∧
   (((0:Int)≤c∧c<((s.len:Nat):Int))∧∃a:Addr,s.a=some a∧∃w1:ByteArray,aD h (adr (adr a (c.toNat*5)) 0)=some (.string w1)∧∃w2:ByteArray,aD h (adr (adr a (c.toNat*5)) 1)=some (.string w2)∧∃w3:ByteArray,aD h (adr (adr a (c.toNat*5)) 2)=some (.string w3)∧∃w4:Bool,aD h (adr (adr a (c.toNat*5)) 3)=some (.bool w4)∧∃w5:Bool,aD h (adr (adr a (c.toNat*5)) 4)=some (.bool w5)∧
    HV PG Wf [.agg #[.string v1,.string v2,.string v3,.bool v4,.bool v5],.agg #[.string w1,.string w2,.string w3,.bool w4,.bool w5]] [.c (.int .i64)] R h):=
 f.rd n hi (f.rd g p ((aam M).call (dec d[i]!) (dec d[j]!) trivial fun h' e k o=>m h' e (f.upd0 k) k o))
end Go.Proofs
namespace Go.Proofs
open Go Go.Lift Go.Sort
variable {dec:Int→Ch} {M:Nat→Prop} {s:SliceV} {h:ad} {d:Array Int}
@[simp] theorem WV(lt:Int→Int→Bool)(hi first a:Nat)(d:Array Int):(siftDown lt hi first a d).size=d.size:=by
 fun_induction siftDown lt hi first a d<;>simp_all
@[simp] theorem HG(lt:Int→Int→Bool)(hi first:Nat):∀(k:Nat) (d:Array Int),(heapBuild lt hi first k d).size=d.size
 |0,d=>rfl
 |k+1,d=>by rw[heapBuild,HG lt hi first k];simp
theorem Yk{a hi first:Nat}(N:SA dec M s h d)(Z:first+hi≤d.size){K:Unit→ad→Prop}(L:∀h',SA dec M s h' (siftDown (Eo dec) hi first a d)→Upd M h h'→K () h')(T:a≤1000000000):
  HC PG iS [.slice s.a s.len s.cap,.int .i64 a,.int .i64 hi,.int .i64 first,Wf] [] K h:=by
 refine nQ s a hi first Wf ?_
 unfold iT bi cU CQ bL cI my Cs FU;have S:=N.small;refine LoopP.ghost (fun(g:Nat×Array Int) (t:Int) h'=>t=(g.1:Int)∧SA dec M s h' g.2∧g.2.size=d.size∧siftDown (Eo dec) hi first g.1 g.2=siftDown (Eo dec) hi first a d∧Upd M h h'∧g.1≤1000000000) (fun g=>hi-g.1) (a,d)
  ⟨rfl,N,rfl,rfl,Upd.refl _ _,T⟩ ?_
 rintro I ⟨i,b⟩ t H ⟨O,m,p,n,w,D⟩ Q;simp only at O m p n D;subst O;have W:ac .i64 (ac .i64 (2*(i:Int))+1)=((2*i+1:Nat):Int):=by rw[kO (x:=2*(i:Int)) (by omega),kO (by omega)];omega
 have J:ac .i64 (((2*i+1:Nat):Int)+1)=((2*i+2:Nat):Int):=by rw[kO (by omega)];omega
 rw[W];refine aF (fun V=>?_) fun C=>?_
 ·refine L _ ?_ w
  rw[←n,siftDown,dif_pos (by omega)];exact m
 ·have C:2*i+1<hi:=by omega
  refine Join.intro (fun t h'=>SA dec M s h' b∧Upd No H h'∧∃c:Nat,t=(c:Int)∧c=if 2*i+2<hi∧(Eo dec) b[first+(2*i+1)]! b[first+(2*i+1)+1]! =true then 2*i+2 else 2*i+1) (fun R G=>?_) ?_
  ·refine Join.intro (fun t h'=>SA dec M s h' b∧Upd No H h'∧(t=true↔2*i+2<hi∧(Eo dec) b[first+(2*i+1)]! b[first+(2*i+1)+1]! =true)) (fun R2 v=>?_) ?_
   ·show CondP (decide (ac .i64 (((2*i+1:Nat):Int)+1)<(hi:Int))) _ _
    rw[J];refine aF (fun k=>?_) fun k=>v _ _ ⟨m,Upd.refl _ _,by simp;omega⟩
    show(((0:Int)≤ac .i64 ((first:Int)+((2*i+1:Nat):Int))∧_)∧_)
    refine m.less (i:=first+(2*i+1)) (j:=first+(2*i+1)+1) (by rw[kO (by omega)];omega) (by rw[kO (x:=(first:Int)+_) (by omega),kO (by omega)];omega) (by omega) (by omega) fun h4 e4 e o A=>v _ _ ⟨e,o,?_⟩
    rw[A];simp;omega
   ·rintro t h' ⟨e,o,y⟩
    refine CondP.intro (fun k=>?_) fun k=>?_
    ·show R (ac .i64 (((2*i+1:Nat):Int)+1)) _
     rw[J];exact G _ _ ⟨e,o,_,rfl,by rw[if_pos (y.1 k)]⟩
    ·exact G _ _ ⟨e,o,_,rfl,by rw[if_neg fun U=>by rw[y.2 U]at k;cases k]⟩
  ·rintro t h' ⟨e,o,c,rfl,hc⟩
   have P:c<hi∧i<c:=by rw[hc];split<;>omega
   refine e.less (i:=first+i) (j:=first+c) (by rw[kO (by omega)];omega) (by rw[kO (by omega)];omega) (by omega) (by omega) fun h5 Y z X F=>?_
   have u:=w.tr (o.tr X).wide;rw[F];have f:siftDown (Eo dec) hi first i b=if !(Eo dec) b[first+i]! b[first+c]! then b else siftDown (Eo dec) hi first c (swp b (first+i) (first+c)):=by
    rw[siftDown,dif_neg (by omega)];by_cases q:2*i+2<hi∧(Eo dec) b[first+(2*i+1)]! b[first+(2*i+1)+1]! =true
    ·rw[if_pos (by simp only[aJ,decide_eq_true_iff];exact q),dif_pos q.1]
     rw[if_pos q]at hc;rw[hc]
    ·rw[if_neg (by simp only[aJ,decide_eq_true_iff];exact q)]
     rw[if_neg q]at hc;rw[hc]
   refine CondP.intro (fun k=>?_) fun k=>?_
   ·refine L _ ?_ u
    rw[←n,f,if_pos k];exact z
   ·refine z.swap (i:=first+i) (j:=first+c) (by rw[kO (by omega)];omega) (by rw[kO (by omega)];omega) (by omega) (by omega) fun h6 B E=>?_
    refine Q (c,swp b (first+i) (first+c)) _ _ ⟨rfl,B,by simp[p],?_,u.tr E,by simp only;omega⟩ (by simp only;omega)
    rw[←n,f,if_neg (by rw[k];simp)]
end Go.Proofs
namespace Go.Proofs
open Go Go.Lift Go.Sort
variable {dec:Int→Ch} {M:Nat→Prop} {s:SliceV} {h:ad} {d:Array Int}
end Go.Proofs
namespace Go.Proofs
open Go Go.Lift Go.Sort
variable {dec:Int→Ch} {M:Nat→Prop} {s:SliceV} {h:ad} {d:Array Int}
@[simp] theorem G0(lt:Int→Int→Bool):∀(j:Nat) (d:Array Int),(shiftDown lt j d).size=d.size
 |0,d=>rfl
 |j+1,d=>by rw[shiftDown];split;rfl;rw[G0 lt j];simp
@[simp] theorem Xn(lt:Int→Int→Bool)(e j:Nat)(d:Array Int):(shiftUp lt e j d).size=d.size:=by
 fun_induction shiftUp lt e j d<;>simp_all
theorem WY{a e:Nat}(hs:SA dec M s h d)(ha:a<e)(he:e≤d.size){K:Bool→ad→Prop}(Q:∀h',SA dec M s h' (partialInsertionSort (Eo dec) d a e).1→Upd M h h'→K (partialInsertionSort (Eo dec) d a e).2 h'):
  HC PG fE [.slice s.a s.len s.cap,.int .i64 a,.int .i64 e,Wf] [.c .bool] K h:=by
 refine jG s a e Wf ?_;unfold fF bi cU CQ bL cI my Cs FU;have hsm:=hs.small;refine LoopP.ghost (fun(g:Nat×Nat×Array Int) (t:Int×Int) h'=>t.1=(g.2.1:Int)∧t.2=5-(g.1:Int)∧SA dec M s h' g.2.2∧g.2.2.size=d.size∧partialIns (Eo dec) a e g.1 g.2.1 g.2.2=partialInsertionSort (Eo dec) d a e∧Upd M h h'∧g.1≤5∧a<g.2.1∧g.2.1≤e) (fun g=>g.1) (5,a+1,d)
  ⟨by simp only;rw[kO (by omega)];rfl,by simp only;omega,hs,rfl,rfl,Upd.refl _ _,by simp,by simp,by simp only;omega⟩ ?_
 rintro I ⟨st,i0,v⟩ ⟨t1,t2⟩ h1 ⟨ht1,ht2,N,T,y,hu1,hst,hai,hie⟩ hI;simp only at ht1 ht2 N T y hst hai hie;subst ht1 ht2;refine aF (fun hlt=>?_) fun hge=>?_
 ·obtain⟨st,rfl⟩:∃k,st=k+1:=⟨st-1,by have:5-(st:Int)<5:=hlt;omega⟩
  refine Join.intro (fun t h'=>∃S W,t=(S:Nat)∧SA dec M s h' W∧W.size=d.size∧partialIns (Eo dec) a e st S W=partialInsertionSort (Eo dec) d a e∧Upd M h h'∧a<S∧S≤e) (fun R hR=>?_) ?_
  ·refine LoopP.ghost (fun(i:Nat) (t:Int) h'=>t=(i:Int)∧SA dec M s h' v∧Upd No h1 h'∧scanSorted (Eo dec) v e i=scanSorted (Eo dec) v e i0∧a<i∧i≤e) (fun i=>e-i) i0 ⟨rfl,N,Upd.refl _ _,rfl,hai,hie⟩ ?_
   rintro I2 i t h' ⟨rfl,z,k2,hsc,n,m⟩ hI2;refine Join.intro (fun c J=>SA dec M s J v∧Upd No h' J∧(c=true↔i<e∧(Eo dec) v[i]! v[i-1]! =false)) (fun R2 hR2=>?_) ?_
   ·refine aF (fun hle=>?_) fun hgt=>hR2 _ _ ⟨z,Upd.refl _ _,by simp;omega⟩
    exact z.less (i:=i) (j:=i-1) rfl (by rw[kO (by omega)];omega) (by omega) (by omega) fun B e3 p k3 he3=>hR2 _ _ ⟨p,k3,by rw[he3];simp;omega⟩
   ·rintro c J ⟨p,k3,hc⟩
    have x:=hu1.tr (k2.tr k3).wide;refine CondP.intro (fun h2=>?_) fun h2=>?_
    ·have hh:=hc.1 h2
     refine hI2 (i+1) _ _ ⟨by rw[kO (by omega)];rfl,p,k2.tr k3,?_,by omega,by omega⟩ (by omega)
     rw[←hsc];conv=>rhs;rw[scanSorted]
     rw[if_pos (by simp[hh])]
    ·have hsi:scanSorted (Eo dec) v e i=i:=by
      rw[scanSorted,if_neg];intro hh;simp only[aJ,decide_eq_true_iff,Bool.not_eq_eq_eq_not,Bool.not_true]at hh;rw[hc.2 hh]at h2;cases h2
     have b:=y;rw[partialIns]at b;simp only[←hsc,hsi]at b;refine CondP.intro (fun B=>?_) fun B=>?_
     ·have B:i=e:=by
       have:(i:Int)=e:=by simpa using B
       omega
      rw[if_pos B]at b;rw[←b]at Q;exact Q _ p x
     ·have B:i≠e:=fun e'=>by subst e';simp at B
      rw[if_neg B]at b;have we:ac .i64 ((e:Int)-(a:Int))=((e-a:Nat):Int):=by rw[kO (by omega)];omega
      show CondP (decide (ac .i64 ((e:Int)-(a:Int))<50)) _ _
      rw[we];refine aF (fun h4=>?_) fun h4=>?_
      ·rw[if_pos (by omega)]at b
       rw[←b]at Q;exact Q _ p x
      ·rw[if_neg (by omega)]at b
       have hi1:1≤i:=by omega
       refine p.swap (i:=i) (j:=i-1) rfl (by rw[kO (by omega)];omega) (by omega) (by omega) fun h5 H Z=>?_
       have G:(swp v i (i-1)).size=d.size:=by simp[T]
       generalize swp v i (i-1)=d5 at H G b;refine Join.intro (fun _ h'=>SA dec M s h' (if i-a≥2 then shiftDown (Eo dec) (i-1) d5 else d5)∧Upd M h h') (fun R3 u=>?_) ?_
       ·have wi:ac .i64 ((i:Int)-(a:Int))=((i-a:Nat):Int):=by rw[kO (by omega)];omega
        show CondP (decide (ac .i64 ((i:Int)-(a:Int))≥2)) _ _
        rw[wi];refine aF (fun h6=>?_) fun h6=>?_
        ·rw[if_pos (by omega)]at u
         refine LoopP.ghost (fun(g:Nat×Array Int) (t:Int) h'=>t=(g.1:Int)∧SA dec M s h' g.2∧g.2.size=d.size∧shiftDown (Eo dec) g.1 g.2=shiftDown (Eo dec) (i-1) d5∧Upd M h h'∧g.1<e) (fun g=>g.1) (i-1,d5)
          ⟨by rw[kO (by omega)];simp only;omega,H,G,rfl,x.tr Z,by simp only;omega⟩ ?_
         rintro I4 ⟨j,X⟩ t h7 ⟨ht,O,hz7,o,Y,L⟩ F;simp only at ht O hz7 o L;subst ht;refine aF (fun h8=>?_) fun h8=>?_
         ·obtain⟨j,rfl⟩:∃k,j=k+1:=⟨j-1,by omega⟩
          have e1:ac .i64 (((j+1:Nat):Int)-1)=(j:Int):=by rw[kO (by omega)];omega
          rw[shiftDown]at o;refine O.less (i:=j+1) (j:=j) rfl e1 (by omega) (by omega) fun hL eL hsL kL C=>?_
          have q:=Y.tr kL.wide;rw[C];refine CondP.intro (fun V=>?_) fun V=>?_
          ·rw[if_pos V]at o
           exact u _ _ ⟨by rw[←o];exact hsL,q⟩
          ·rw[if_neg (by rw[V];simp)]at o
           refine hsL.swap (i:=j+1) (j:=j) rfl e1 (by omega) (by omega) fun w U hu10=>?_
           exact F (j,swp X (j+1) j) _ _ ⟨e1,U,by simp[hz7],o,q.tr hu10,by simp only;omega⟩ (by simp)
         ·have:j=0:=by omega
          subst this;exact u _ _ ⟨by rw[←o];exact O,Y⟩
        ·rw[if_neg (by omega)]at u
         exact u _ _ ⟨H,x.tr Z⟩
       ·rintro _ h6 ⟨D,hu6⟩
        have E:(if i-a≥2 then shiftDown (Eo dec) (i-1) d5 else d5).size=d.size:=by split<;>simp[G]
        generalize (if i-a≥2 then shiftDown (Eo dec) (i-1) d5 else d5)=X at D E b
        have wi:ac .i64 ((e:Int)-(i:Int))=((e-i:Nat):Int):=by rw[kO (by omega)];omega
        show CondP (decide (ac .i64 ((e:Int)-(i:Int))≥2)) _ _
        rw[wi];refine aF (fun h7=>?_) fun h7=>?_
        ·rw[if_pos (by omega)]at b
         refine LoopP.ghost (fun(g:Nat×Array Int) (t:Int) h'=>t=(g.1:Int)∧SA dec M s h' g.2∧g.2.size=d.size∧shiftUp (Eo dec) e g.1 g.2=shiftUp (Eo dec) e (i+1) X∧Upd M h h'∧1≤g.1∧g.1≤e) (fun g=>e-g.1) (i+1,X)
          ⟨by rw[kO (by omega)];rfl,D,E,rfl,hu6,by simp,by simp only;omega⟩ ?_
         rintro I4 ⟨j,d7⟩ t h8 ⟨ht,P,A,f,hu8,hj1,L⟩ F;simp only at ht P A f hj1 L;subst ht;refine aF (fun V=>?_) fun V=>?_
         ·have e1:ac .i64 ((j:Int)-1)=((j-1:Nat):Int):=by rw[kO (by omega)];omega
          rw[shiftUp,if_pos (by omega)]at f;refine P.less (i:=j) (j:=j-1) rfl e1 (by omega) (by omega) fun hL eL hsL kL C=>?_
          have q:=hu8.tr kL.wide;rw[C];refine CondP.intro (fun w=>?_) fun w=>?_
          ·rw[if_pos w]at f
           exact hR _ _ ⟨i,d7,rfl,hsL,A,by rw[f];exact b,q,n,m⟩
          ·rw[if_neg (by rw[w];simp)]at f
           refine hsL.swap (i:=j) (j:=j-1) rfl e1 (by omega) (by omega) fun h11 hs11 hu11=>?_
           exact F (j+1,swp d7 j (j-1)) _ _ ⟨by rw[kO (by omega)];rfl,hs11,by simp[A],f,q.tr hu11,by simp,by simp only;omega⟩ (by simp only;omega)
         ·rw[shiftUp,if_neg (by omega)]at f
          exact hR _ _ ⟨i,d7,rfl,P,A,by rw[f];exact b,hu8,n,m⟩
        ·rw[if_neg (by omega)]at b
         exact hR _ _ ⟨i,X,rfl,D,E,b,hu6,n,m⟩
  ·rintro t h' ⟨S,W,rfl,z,hz2,b,hu2,n,m⟩
   exact hI (st,S,W) _ _ ⟨rfl,by simp only;rw[kO (by omega)];omega,z,hz2,b,hu2,by simp only;omega,n,m⟩ (by simp)
 ·have:st=0:=by have:¬5-(st:Int)<5:=hge;omega
  subst this;rw[partialIns]at y;rw[←y]at Q;exact Q _ N hu1
end Go.Proofs
namespace Go.Proofs
open Go Go.Lift Go.Sort
variable {dec:Int→Ch} {M:Nat→Prop} {s:SliceV} {h:ad} {d:Array Int}
theorem aaQ(x:Int):ac .u64 x=x%18446744073709551616:=by
 simp[ac,ai,IntKind.signed]
theorem and_le_right(x:Int){m:Int}(a:0≤m)(hm:m<18446744073709551616):0≤ac .u64 ((au (ai .u64) x&&&au (ai .u64) m).toNat:Int)∧ac .u64 ((au (ai .u64) x&&&au (ai .u64) m).toNat:Int)≤m:=by
 have b:(au (ai .u64) x&&&au (ai .u64) m).toNat≤(au (ai .u64) m).toNat:=by
  rw[BitVec.toNat_and];exact Nat.and_le_right
 have c:((au (ai .u64) m).toNat:Int)=m:=by
  show((au 64 m).toNat:Int)=m
  rw[BitVec.toNat_ofInt];have:m%((2^64:Nat):Int)=m:=Int.emod_eq_of_lt a (by omega);rw[this];omega
 rw[aaQ];omega
end Go.Proofs
namespace Go.Proofs
open Go Go.Lift Go.Sort
variable {dec:Int→Ch} {M:Nat→Prop} {s:SliceV} {h:ad} {d:Array Int}
end Go.Proofs
namespace Go.Proofs
open Go Go.Lift
end Go.Proofs
namespace Go.Proofs
open Go Go.Lift
theorem Few.mono{n m:Nat}{L:List Pr}(f:Few n L)(h:n≤m):Few m L:=⟨f.up,Nat.le_trans f.len h,f.fit⟩
end Go.Proofs
namespace Go.Proofs
open Go Go.Lift
theorem Nw{W:Nat→Prop}{h:ad}{b:Nat}{l:List Pr}(t:RadAt W h b l)(hW:∀y,W y→y<h.size)(hr:fe l)(k:ByteArray){K:ByteArray×Bool→ad→Prop}
  (U:∀h',Upd No h h'→K ((look l k).getD ⟨#[]⟩,(look l k).isSome) h'):HC PG zy [.pointer (some ⟨b,0,none⟩),.string k] [.c .str,.c .bool] K h:=by
 refine OT (some ⟨b,0,none⟩) k ?_;unfold Fz bi cU PC bL eu bW;refine Ee (.inr ⟨b,rfl,t⟩) hW fun h2 b2 t2 Y _=>?_
 obtain⟨w,F,r1,r2,r3⟩:=t2.ex;have d:∀v,wM w F k.data.toList v↔look l k=some v:=fun v=>by
  rw[←rj,r3];constructor
  ·rintro⟨p,hp,e1,rfl⟩
   rw[←tW.1 e1];exact Ep hr hp
  ·intro hp;exact⟨_,N2 hp,rfl,rfl⟩
 refine LoopP.ghost (fun(g:ByteArray×Nat×ByteArray×Option ByteArray×Fo) (t:ByteArray×Option Addr) h'=>t=(g.1,some ⟨g.2.1,0,none⟩)∧RxN W h' g.2.1 g.2.2.1 g.2.2.2.1 g.2.2.2.2∧j5 g.2.2.2.2∧(∀v,wM g.2.2.2.1 g.2.2.2.2 g.1.data.toList v↔look l k=some v)∧Upd No h h') (fun g=>g.1.size) (k,b2,⟨#[]⟩,w,F) ⟨rfl,r1,r2,d,Y⟩ ?_
 clear d r1 r2 r3 t2;rintro I ⟨E,c,sl,w,F⟩ t h5 ⟨rfl,r,hc,d,hu⟩ hI;simp only at r hc d;simp only[di];by_cases L:E=⟨#[]⟩
 ·subst L
  refine af.2 (Nl r ?_);have e:look l k=w:=Option.ext fun v=>by
   rw[←d v];constructor
   ·rintro(⟨_,h⟩|h)
    ·exact h
    ·exact absurd rfl (Et hc h)
   ·intro h;exact .inl ⟨rfl,h⟩
  rw[e]at U;exact U _ hu
 ·rw[decide_eq_false L]
  refine aA.2 ?_;have u:E.data.toList≠[]:=fun e=>L (by cases E;exact congrArg xY (kN.1 e))
  obtain⟨c0,hc0,O⟩:=LW u;refine⟨c0,vC _,hc0,?_⟩;have hr0:=r;obtain⟨val,s,ow,ks,hb,_,hs,hcap,hF⟩:=r;have hL:=mY.1 hF;have D:=fc.1 hc;have o:(∀v,¬uT F E.data.toList v)→K ((⟨#[]⟩:ByteArray),false) h5:=fun z=>by
   have e:look l k=none:=by
    cases e:look l k with
    |none=>rfl
    |some v=>
     rcases(d v).2 e with⟨h,_⟩|h
     ·exact absurd h u
     ·exact absurd h (z v)
   rw[e]at U;exact U _ hu
  refine Ef hr0 hc (c:=c0.toNat) (uq _) fun i ok hil R N H=>?_
  rw[O]at R N H;cases ok with
  |false=>
   refine aA.2 (o fun v d=>?_)
   obtain⟨n',G,e,_⟩:=zd hc d;obtain⟨j,V,rfl⟩:=dC G;rcases cC j i with X|X
   ·have:=R j V X;omega
   ·have h1:=N j V X
    have h2:=N i (by omega) (av _);rcases cC i j with P|P
    ·have h3:=dE.1 D.1 i j (by omega) V P
     omega
    ·have:i=j:=by omega
     subst this;have:=H.2 ⟨V,e⟩;cases this
  |true=>
   obtain⟨hi,Q⟩:=H.1 rfl;refine af.2 ⟨_,rfl,s,gF (i:=3) hb,?_⟩;obtain⟨kb,T,Z,C,B⟩:=hL.at hi;have x:F.toL[i]∈F.toL:=bZ hi;have A:=D.2 _ x;obtain⟨a,ha,_,hvv⟩:=hs.at0 Z;have J:=hs.len;rw[hL.1]at J;have n:∀v,uT F E.data.toList v↔yL F.toL[i] E.data.toList v:=fun v=>by
    constructor
    ·intro d
     obtain⟨n',G,e,hN⟩:=zd hc d;rw[←Az hc G x (by omega)];exact hN
    ·intro d;exact ja.2 ⟨_,x,d⟩
   refine⟨⟨by simp only;omega,by simp only;omega⟩,a,ha,some ⟨kb,0,none⟩,hvv,_,rfl,?_⟩
   obtain⟨kval,kss,kow,kks,S,_⟩:=id B;generalize F.toL[i]=m at C B A n Q;obtain⟨lab,wk,Fk⟩:=m;simp only at C B A Q S;refine⟨T,gF (i:=0) S,Wd (fun q f=>?_) fun z=>?_⟩
   ·rw[C]at f
    have hlne:lab.length≠0:=fun e=>A.1 (bp.1 e)
    have hrl:q.size<E.size:=by
     rw[←kC q,←kC E,f,aj];omega
    refine af.2 (hI (q,kb,T,wk,Fk) _ _ ⟨rfl,B,A.2.2,fun v=>?_,hu⟩ hrl)
    rw[←d v];constructor
    ·intro h;exact .inr ((n v).2 ⟨_,f,h⟩)
    ·rintro(⟨h,_⟩|h)
     ·exact absurd h u
     ·obtain⟨r',e,hr'⟩:=(n v).1 h
      simp only at e;rw[f]at e;rw[iK e];exact hr'
   ·rw[C]at z
    refine aA.2 (o fun v h=>?_)
    obtain⟨r',e,_⟩:=(n v).1 h;exact z r' e
theorem Xj{W:Nat→Prop}{x:Hs}{h:ad}{kind:Int}{t:Tr}{l:List Pr}(i:TreeIs W h kind x t l)(f:∀y,W y→y<h.size)(g:fe l)(m:l.length≤1000000)(k:ByteArray){K:Sd→ad→Prop}(e:∀h',Upd No h h'→K ((look l k).getD ⟨#[]⟩,(look l k).isSome) h'):HC PG rW [SM t,.string k] [.c .str,.c .bool] K h:=by
 refine F8 t k ?_;unfold yq ao nZ rQ aq m6 im;rcases i with⟨_,b,rfl,t⟩|⟨_,b,rfl,t⟩
 ·refine cH fun j b1 k1=>⟨_,vc b1 0,af.2 ⟨_,xg b1 1 0,_,xg b1 1 1,_,xg b1 1 2,_,vc b1 4,?_⟩⟩
  exact OG (TrieAt.upd0 k1 t) (fun y c=>aQ (f y c) k1.size) g m k fun a d=>e a (k1.tr d)
 ·refine cH fun j b1 k1=>⟨_,vc b1 0,aA.2 ⟨_,vc b1 5,?_⟩⟩
  exact Nw (t.upd0 k1) (fun y c=>aQ (f y c) k1.size) g k fun a d=>e a (k1.tr d)
end Go.Proofs
namespace Go.Proofs
open Go Go.Lift
theorem XI{W:Nat→Prop}{x:Hs}{h:ad}{kind:Int}{t:Tr}{l:List Pr}(i:TreeIs W h kind x t l)(I:∀y,W y→y<h.size)(H:fe l)(S:Fit l)(J:l.length≤1000000)(k:ByteArray)(o:Option ByteArray)(s:k.size≤256)(D:(o.getD ⟨#[]⟩).size≤4096){K:Tr→ad→Prop}
  (T:∀h' a,TreeIs W h' kind x a (Xo l k o)→Upd No h h'→K a h'):HC PG zD [SM t,.string k,.agg #[.string (ZL o).1,.bool (ZL o).2]] [.agg [.int .i64,.int .u64,.int .u64,.int .u64,.ptr,.ptr]] K h:=by
 refine O3 t k (ZL o) ?_;unfold FK ao ag aX eX ae aq qo m6 yE yF mW ZQ;refine cH fun G b1 k1=>cH fun w b2 B=>cH fun m b3 z=>?_
 have Z:=bB b1;have z2:=bB b2;have z3:=bB b3;have V:h.size≤G.size:=k1.size;have X:G.size≤w.size:=B.size;have Y:=z.size;have b:=(k1.tr B).tr z;have c1:=z.get0 (B.get0 b1);have C:=z.get0 b2;have A:Pro W h m h.size:=.inr (by omega);have F:Pro W h m w.size:=.inr (by omega);refine Join.intro (fun _ h'=>∃a,TreeIs (Pro W h m) h' kind x a (Xo l k o)∧h'[h.size]? =some (.cells (qf a).toArray cn (0,0))∧h'[w.size]? =some (.cells (qf D4).toArray cn (0,0))∧Upd (· =h.size) m h') (fun R N=>?_) ?_
 ·have q:∀{g:ad} {a:Tr},Upd No m g→TreeIs (Pro W h m) g kind x a (Xo l k o)→tc g (some (aH h)) 0 (qf a)∧At (ir g (aH h) 0 (qf a)) (fun L=>R () L):=fun{g a} e u=>
   cS (c:=qf t) (vs:=qf a) (e.get0 c1) rfl fun L P d=>N _ _ ⟨a,u.updM d fun y f=>.inl (by have f:y=h.size:=f;rw[f];exact A),P,d.oth (e.get0 b3) (by omega),e.wide.tr d⟩
  cases o with
  |some v=>
   refine⟨true,vc C 1,aA.2 ⟨_,vc c1 0,_,vc c1 1,_,vc c1 2,_,vc c1 3,_,vc c1 4,_,vc c1 5,v,vc C 0,?_⟩⟩;exact M9 (i.pro b) (Pro.lt I b) H J (k,v) s D fun g a u _ e=>q e u
  |none=>
   refine⟨false,vc C 1,af.2 ⟨_,vc c1 0,_,vc c1 1,_,vc c1 2,_,vc c1 3,_,vc c1 4,_,vc c1 5,?_⟩⟩;exact M8 (i.pro b) (Pro.lt I b) H S J k s fun g a u _ e=>q e u
 ·rintro _ h6 ⟨a,U,j,O,E⟩
  refine⟨_,vc j 0,_,vc j 1,_,vc j 2,_,vc j 3,_,vc j 4,_,vc j 5,?_⟩;refine cS (c:=qf D4) (vs:=qf a) O rfl fun Q n p=>?_
  refine⟨_,vc n 0,_,vc n 1,_,vc n 2,_,vc n 3,_,vc n 4,_,vc n 5,T Q a ((U.updM p fun y f=>.inl (by have f:y=w.size:=f;rw[f];exact F)).less Pro.sub) ?_⟩
  exact(b.own E (av _)).own p (by omega)
def aar(k:ByteArray)(o:Option ByteArray):Prop:=∀{W:Nat→Prop} {x:Hs} {h:ad} {kind:Int} {t:Tr} {l:List Pr},TreeIs W h kind x t l→(∀y,W y→y<h.size)→fe l→Fit l→l.length≤1000000→k.size≤256→(o.getD ⟨#[]⟩).size≤4096→∀{K:Tr→ad→Prop},
 (∀h' t',TreeIs W h' kind x t' (Xo l k o)→Upd No h h'→K t' h')→HC PG zD [SM t,.string k,.agg #[.string (ZL o).1,.bool (ZL o).2]] [.agg [.int .i64,.int .u64,.int .u64,.int .u64,.ptr,.ptr]] K h
theorem setOk(k:ByteArray)(o:Option ByteArray):aar k o:=fun i c g f e d b _ a=>XI i c g f e k o d b a
end Go.Proofs
namespace Go.Proofs
open Go Go.Lift
def BaseOf(s:VS)(a:Int)(B:TD):Prop:=(a=0∧B=(s.e,[]))∨(a≠0∧dM s.D a=some B)
section
variable {W:Nat→Prop} {h:ad} {vp:Nat} {s:VS}
theorem JM(v:VaultAt W h vp s){id:Int}(hi:id=0∨id∈ids s.L){K:Tr×Int→ad→Prop}(a:∀B,BaseOf s id B→∀h',Upd No h h'→K (B.1,0) h'):HC PG jn [pV vp,.int .u32 id] [.agg [.int .i64,.int .u64,.int .u64,.int .u64,.ptr,.ptr],.c (.int .i64)] K h:=
 UI v id (fun e h' k=>a (s.e,[]) (.inl ⟨e,rfl⟩) h' k) (fun d hd e h' k=>a d (.inr ⟨e,hd⟩) h' k) fun hd e=>absurd ((v.sub id).2 (hi.resolve_left e)) (qD.1 hd)
end
end Go.Proofs
namespace Go.Proofs
open Go Go.Lift
abbrev eH:SliceV:=⟨none,0,0⟩
abbrev An:=Int×Int×Int×ByteArray×Bool×Int×SliceV×SliceV×SliceV×SliceV×SliceV
abbrev W2:An:=(0,0,0,⟨#[]⟩,false,0,eH,eH,eH,eH,eH)
abbrev Zo(e:An):List Value:= [.int .i64 e.1,.int .u32 e.2.1,.int .i64 e.2.2.1,.string e.2.2.2.1,.bool e.2.2.2.2.1,.int .i64 e.2.2.2.2.2.1,.slice e.2.2.2.2.2.2.1.a e.2.2.2.2.2.2.1.len e.2.2.2.2.2.2.1.cap,.slice e.2.2.2.2.2.2.2.1.a e.2.2.2.2.2.2.2.1.len e.2.2.2.2.2.2.2.1.cap,.slice e.2.2.2.2.2.2.2.2.1.a e.2.2.2.2.2.2.2.2.1.len e.2.2.2.2.2.2.2.2.1.cap,.slice e.2.2.2.2.2.2.2.2.2.1.a e.2.2.2.2.2.2.2.2.2.1.len e.2.2.2.2.2.2.2.2.2.1.cap,.slice e.2.2.2.2.2.2.2.2.2.2.a e.2.2.2.2.2.2.2.2.2.2.len e.2.2.2.2.2.2.2.2.2.2.cap]
abbrev Q5:List Kind:= [.agg [.int .i64,.int .u32,.int .i64,.str,.bool,.int .i64,.slice,.slice,.slice,.slice,.slice]]
abbrev xm:=Int×ByteArray×ByteArray×ByteArray×ByteArray×Int×Int×Int×Int×Bool×ByteArray×ByteArray×Bool×SliceV×SliceV
abbrev gn(o:xm):List Value:= [.int .i64 o.1,.string o.2.1,.string o.2.2.1,.string o.2.2.2.1,.string o.2.2.2.2.1,.int .u32 o.2.2.2.2.2.1,.int .u32 o.2.2.2.2.2.2.1,.int .i64 o.2.2.2.2.2.2.2.1,.int .i64 o.2.2.2.2.2.2.2.2.1,.bool o.2.2.2.2.2.2.2.2.2.1,.string o.2.2.2.2.2.2.2.2.2.2.1,.string o.2.2.2.2.2.2.2.2.2.2.2.1,.bool o.2.2.2.2.2.2.2.2.2.2.2.2.1,.slice o.2.2.2.2.2.2.2.2.2.2.2.2.2.1.a o.2.2.2.2.2.2.2.2.2.2.2.2.2.1.len o.2.2.2.2.2.2.2.2.2.2.2.2.2.1.cap,.slice o.2.2.2.2.2.2.2.2.2.2.2.2.2.2.a o.2.2.2.2.2.2.2.2.2.2.2.2.2.2.len o.2.2.2.2.2.2.2.2.2.2.2.2.2.2.cap]
abbrev LG(o:xm):Value:=.agg #[.int .i64 o.1,.string o.2.1,.string o.2.2.1,.string o.2.2.2.1,.string o.2.2.2.2.1,.int .u32 o.2.2.2.2.2.1,.int .u32 o.2.2.2.2.2.2.1,.int .i64 o.2.2.2.2.2.2.2.1,.int .i64 o.2.2.2.2.2.2.2.2.1,.bool o.2.2.2.2.2.2.2.2.2.1,.string o.2.2.2.2.2.2.2.2.2.2.1,.string o.2.2.2.2.2.2.2.2.2.2.2.1,.bool o.2.2.2.2.2.2.2.2.2.2.2.2.1,.slice o.2.2.2.2.2.2.2.2.2.2.2.2.2.1.a o.2.2.2.2.2.2.2.2.2.2.2.2.2.1.len o.2.2.2.2.2.2.2.2.2.2.2.2.2.1.cap,.slice o.2.2.2.2.2.2.2.2.2.2.2.2.2.2.a o.2.2.2.2.2.2.2.2.2.2.2.2.2.2.len o.2.2.2.2.2.2.2.2.2.2.2.2.2.2.cap]
theorem CC{h:ad}{b:Nat}{c e:An}{K:An→ad→Prop}(d:h[b]? =some (.cells (Zo c).toArray dU (0,0))) (a:∀h',Upd (· =b) h h'→K e h'):
  tc h (some ⟨b,0,none⟩) 0 (Zo e)∧At (ir h ⟨b,0,none⟩ 0 (Zo e)) (fun h'=>∃v0:Int,aD h' (adr ⟨b,0,none⟩ 0)=some (.int .i64 v0)∧∃v1:Int,aD h' (adr ⟨b,0,none⟩ 1)=some (.int .u32 v1)∧∃v2:Int,aD h' (adr ⟨b,0,none⟩ 2)=some (.int .i64 v2)∧∃v3:ByteArray,aD h' (adr ⟨b,0,none⟩ 3)=some (.string v3)∧∃v4:Bool,aD h' (adr ⟨b,0,none⟩ 4)=some (.bool v4)∧∃v5:Int,aD h' (adr ⟨b,0,none⟩ 5)=some (.int .i64 v5)∧∃v6:SliceV,aD h' (adr ⟨b,0,none⟩ 6)=some (.slice v6.a v6.len v6.cap)∧∃v7:SliceV,aD h' (adr ⟨b,0,none⟩ 7)=some (.slice v7.a v7.len v7.cap)∧∃v8:SliceV,aD h' (adr ⟨b,0,none⟩ 8)=some (.slice v8.a v8.len v8.cap)∧∃v9:SliceV,aD h' (adr ⟨b,0,none⟩ 9)=some (.slice v9.a v9.len v9.cap)∧∃v10:SliceV,aD h' (adr ⟨b,0,none⟩ 10)=some (.slice v10.a v10.len v10.cap)∧K (v0,v1,v2,v3,v4,v5,v6,v7,v8,v9,v10) h'):=by
 refine cS (c:=Zo c) (vs:=Zo e) d rfl fun h' b' u=>?_
 exact⟨e.1,vc b' 0,e.2.1,vc b' 1,e.2.2.1,vc b' 2,e.2.2.2.1,vc b' 3,e.2.2.2.2.1,vc b' 4,e.2.2.2.2.2.1,vc b' 5,e.2.2.2.2.2.2.1,vc b' 6,e.2.2.2.2.2.2.2.1,vc b' 7,e.2.2.2.2.2.2.2.2.1,vc b' 8,e.2.2.2.2.2.2.2.2.2.1,vc b' 9,e.2.2.2.2.2.2.2.2.2.2,vc b' 10,a h' u⟩
theorem tA{h:ad}{b:Nat}{t:TypeId}{o:xm}{P:Int→ByteArray→ByteArray→ByteArray→ByteArray→Int→Int→Int→Int→Bool→ByteArray→ByteArray→Bool→SliceV→SliceV→Prop}(a:h[b]? =some (.cells (gn o).toArray t (0,0))) (c:P (o.1) (o.2.1) (o.2.2.1) (o.2.2.2.1) (o.2.2.2.2.1) (o.2.2.2.2.2.1) (o.2.2.2.2.2.2.1) (o.2.2.2.2.2.2.2.1) (o.2.2.2.2.2.2.2.2.1) (o.2.2.2.2.2.2.2.2.2.1) (o.2.2.2.2.2.2.2.2.2.2.1) (o.2.2.2.2.2.2.2.2.2.2.2.1) (o.2.2.2.2.2.2.2.2.2.2.2.2.1) (o.2.2.2.2.2.2.2.2.2.2.2.2.2.1) (o.2.2.2.2.2.2.2.2.2.2.2.2.2.2)):
  ∃v0:Int,aD h (adr ⟨b,0,none⟩ 0)=some (.int .i64 v0)∧∃v1:ByteArray,aD h (adr ⟨b,0,none⟩ 1)=some (.string v1)∧∃v2:ByteArray,aD h (adr ⟨b,0,none⟩ 2)=some (.string v2)∧∃v3:ByteArray,aD h (adr ⟨b,0,none⟩ 3)=some (.string v3)∧∃v4:ByteArray,aD h (adr ⟨b,0,none⟩ 4)=some (.string v4)∧∃v5:Int,aD h (adr ⟨b,0,none⟩ 5)=some (.int .u32 v5)∧∃v6:Int,aD h (adr ⟨b,0,none⟩ 6)=some (.int .u32 v6)∧∃v7:Int,aD h (adr ⟨b,0,none⟩ 7)=some (.int .i64 v7)∧∃v8:Int,aD h (adr ⟨b,0,none⟩ 8)=some (.int .i64 v8)∧∃v9:Bool,aD h (adr ⟨b,0,none⟩ 9)=some (.bool v9)∧∃v10:ByteArray,aD h (adr ⟨b,0,none⟩ 10)=some (.string v10)∧∃v11:ByteArray,aD h (adr ⟨b,0,none⟩ 11)=some (.string v11)∧∃v12:Bool,aD h (adr ⟨b,0,none⟩ 12)=some (.bool v12)∧∃v13:SliceV,aD h (adr ⟨b,0,none⟩ 13)=some (.slice v13.a v13.len v13.cap)∧∃v14:SliceV,aD h (adr ⟨b,0,none⟩ 14)=some (.slice v14.a v14.len v14.cap)∧P v0 v1 v2 v3 v4 v5 v6 v7 v8 v9 v10 v11 v12 v13 v14:=
 ⟨o.1,vc a 0,o.2.1,vc a 1,o.2.2.1,vc a 2,o.2.2.2.1,vc a 3,o.2.2.2.2.1,vc a 4,o.2.2.2.2.2.1,vc a 5,o.2.2.2.2.2.2.1,vc a 6,o.2.2.2.2.2.2.2.1,vc a 7,o.2.2.2.2.2.2.2.2.1,vc a 8,o.2.2.2.2.2.2.2.2.2.1,vc a 9,o.2.2.2.2.2.2.2.2.2.2.1,vc a 10,o.2.2.2.2.2.2.2.2.2.2.2.1,vc a 11,o.2.2.2.2.2.2.2.2.2.2.2.2.1,vc a 12,o.2.2.2.2.2.2.2.2.2.2.2.2.2.1,vc a 13,o.2.2.2.2.2.2.2.2.2.2.2.2.2.2,vc a 14,c⟩
theorem VaultAt.pro{W:Nat→Prop}{h b:ad}{c:Nat}{s:VS}(v:VaultAt W h c s)(k:Upd No h b):VaultAt (Pro W h b) b c s:=
 v.re k (fun _ h=>h.elim) (fun y a=>⟨a.imp id fun e=>e.1,Pro.lt v.g.lt k y a⟩) fun y a=>.inl (v.w y a)
theorem VaultAt.dn{W:Nat→Prop}{c d h:ad}{b:Nat}{s:VS}(v:VaultAt (Pro W c d) h b s)(hM:∀y,s.M y→W y):VaultAt W h b s:=
 v.re (Upd.refl No h) (fun _ h=>h.elim) (fun y a=>⟨.inl (.inl a),v.g.lt y (.inl a)⟩) hM
theorem VaultAt.own{W:Nat→Prop}{a c h h':ad}{g b:Nat}{s:VS}(v:VaultAt (Pro W a c) h g s)(hM:∀y,s.M y→y<a.size)(u:Upd (· =b) h h')(i:a.size≤b)(f:b<c.size):VaultAt (Pro W a c) h' g s:=
 v.upd u fun y d=>by
  have d:y=b:=d;subst d;exact .inl ⟨.inr ⟨i,f⟩,fun e=>by have:=hM _ e;omega⟩
section
variable {h:ad}
theorem TI{e:Int}{K:An→ad→Prop}(a:∀h',Upd No h h'→K (e,0,0,⟨#[]⟩,false,0,eH,eH,eH,eH,eH) h'):HC PG gq [.int .i64 e] Q5 K h:=by
 refine It e ?_;unfold Ag ao bC ag aX aI nv ML;exact cH fun f b1 k1=>CC (c:=W2) (e:=(e,0,0,⟨#[]⟩,false,0,eH,eH,eH,eH,eH)) b1 fun b d=>a b (k1.own d (av _))
theorem VB{id:Int}{K:An→ad→Prop}(a:∀h',Upd No h h'→K (0,id,0,⟨#[]⟩,false,0,eH,eH,eH,eH,eH) h'):HC PG vK [.int .u32 id,.int .i64 0] Q5 K h:=by
 refine Jp id 0 ?_;unfold Bc ao bC ag aX aI eX FZ ML;exact cH fun f b1 k1=>af.2 (CC (c:=W2) (e:=(0,id,0,⟨#[]⟩,false,0,eH,eH,eH,eH,eH)) b1 fun b d=>a b (k1.own d (av _)))
end
abbrev Ey(f:FuncId):Value:=.func (.func f) #[] #[]
abbrev Qr:List Value:= [Ey jW,Ey rp,Ey uG,Ey ss,Ey l7,Ey tS,Ey tP,Ey pG,Ey sy,Ey su,Ey l8,Ey tQ,Ey tT,Ey sx,Ey sD,Ey tR,Ey sB,Ey tO,Ey rt,Ey ru,Ey sC,Ey tN,Ey rq,Ey sA,Ey tM,Ey pF]
theorem VG{k:Nat}(g:k<26){v:Value}(a:Qr[k]? =some v) {h:ad} {K:Value→ad→Prop} (f:∀h',Upd No h h'→K v h'):HC PG vL [.int .i64 k] [.c .raw] K h:=by
 refine Jq k ?_;unfold Be bi cU nv;refine cH fun i b1 k1=>cS (c:=List.replicate 26 .nilFunc) (vs:=Qr) b1 rfl fun b b2 d=>Join.plain (aF (fun e=>absurd e (by omega)) fun _=>?_)
 rw[show decide ((k:Int)≥(26:Int))=false from decide_eq_false (by omega)]
 refine af.2 ⟨⟨by omega,by omega⟩,v,?_,f b (k1.own d (av _))⟩
 have:=vc b2 k;rw[List.getElem?_toArray,a]at this;rw[show(k:Int).toNat*1=k by omega]
 exact this
end Go.Proofs
