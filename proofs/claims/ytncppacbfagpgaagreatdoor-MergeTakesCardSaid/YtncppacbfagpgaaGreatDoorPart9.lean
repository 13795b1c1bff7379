/- A part of the proof that the named laws of this program answer true, whatever the input. -/
import Derived.Test.YtncppacbfagpgaaGreatDoorPart8
import Derived.Test.YtncppacbfagpgaaGreatDoorPart7
import Derived.Test.YtncppacbfagpgaaGreatDoorPart4
import Derived.Sort.AssemblyPlain
open Bool renaming and_eq_true→bq
open ByteArray renaming mk→nC
open Int renaming toNat_natCast→aU,tdiv→gj
open List renaming length_append→ac,getElem_of_mem→bQ,pairwise_iff_getElem→cn,getElem_mem→bh,set_eq_take_append_cons_drop→eA,any_eq_true→cE,getElem?_eq_getElem→af,find?_cons→qI,mem_cons_self→au,mem_cons_of_mem→aE,pairwise_cons→aF,mem_cons→aC,singleton_append→tx,take_take→iI,take_succ_eq_append_getElem→bj,foldl_append→oI
open Nat renaming lt_or_ge→bR,le_refl→aj,lt_irrefl→nV,lt_of_lt_of_le→aG,zero_le→aS,min_eq_right→il,min_eq_left→bH,le_trans→aX
namespace Go.Proofs
open Go Go.Lift
theorem mF(s:ByteArray):s.data.toList.length=s.size:=by simp
theorem YX(a b:ByteArray):(a++b).data.toList=a.data.toList++b.data.toList:=by rw[ByteArray.data_append,Array.toList_append]
theorem VW{a b:ByteArray}{h:ad}{K:Bool→ad→Prop}(c:K (decide (b.data.toList<+:a.data.toList)) h):HC PG xP [.string a,.string b] [.c .bool] K h:=by
 refine LC a b ?_;unfold Cn iU;refine Gp a b ?_;unfold yM iU;refine uM a b ?_;unfold mX;have j:=mF a;have i:=mF b;refine ax (fun g=>?_) fun d=>?_
 ·refine⟨⟨by omega,by omega⟩,?_⟩
  rw[ge,aU];have e:decide (a.extract 0 b.size=b)=decide (b.data.toList<+:a.data.toList):=by
   rw[decide_eq_decide,←tS,Er,List.prefix_iff_eq_take,i];exact eq_comm
  rw[e];exact c
 ·have e:decide (b.data.toList<+:a.data.toList)=false:=decide_eq_false fun f=>by
   have:=f.length_le;omega
  rw[e]at c;exact c
theorem YD{a b:ByteArray}{h:ad}{K:ByteArray×Bool→ad→Prop}(f:∀s:ByteArray,a.data.toList=b.data.toList++s.data.toList→K (s,true) h)(h2:(∀r,a.data.toList≠b.data.toList++r)→K (⟨#[]⟩,false) h):HC PG zl [.string a,.string b] [.c .str,.c .bool] K h:=by
 refine Tv a b ?_;unfold Kp iU;refine VW ?_;have i:=mF a;have g:=mF b;by_cases c:b.data.toList<+:a.data.toList
 ·rw[decide_eq_true c]
  have d:=c.length_le;refine ag.2 ⟨⟨by omega,by omega⟩,?_⟩
  rw[aU];refine f _ ?_;rw[Es];obtain⟨r,e⟩:=c;rw[←e,←g,List.drop_left]
 ·rw[decide_eq_false c]
  exact aw.2 (h2 fun r e=>c ⟨r,e.symm⟩)
def adx(W:Nat→Prop)(h:ad)(r:Option Addr)(o:Option Bn):Prop:=(r=none∧o=none)∨∃b sl m,r=some ⟨b,0,none⟩∧o=some m∧sl.data.toList=m.1∧RxN W h b sl m.2.1 m.2.2
theorem VJ{W:Nat→Prop}{h:ad}{b:Nat}{sl:ByteArray}{w:Option ByteArray}{F:Fo}(r:RxN W h b sl w F)(hW:∀y,W y→y<h.size)(hc:gf F)(q:sl.data.toList≠[])(hs1:sl.size≤1000000)(M:∀k v,tg F k v→k.length≤1000000)
  {K:Option Addr→ad→Prop}(G:∀h' r o,Upd No h h'→aaG (sl.data.toList,w,F) o→adx W h' r o→K r h'):HC PG rX [.pointer (some ⟨b,0,none⟩),.pointer none] [.c .ptr] K h:=by
 refine EN _ none ?_;unfold xq bE bT bK az Am bF oU;have hr:=r;obtain⟨val,s,ow,ks,n,hv,hs,hcap,hF⟩:=r;have X:=lW.1 hF;have hn:=lD hc;have c:=hs.len;rw[X.1]at c;refine Join.intro (fun t h'=>t=decide (w.isSome∨2≤F.toL.length)∧h'=h) (fun R hR=>⟨_,rfl,w.isSome,dU (i:=1) n,?_⟩) ?_
 ·cases w with
  |some v=>exact aw.2 (hR _ _ ⟨rfl,rfl⟩)
  |none=>
   refine ag.2 ⟨_,rfl,s,dU (i:=3) n,hR _ _ ⟨?_,rfl⟩⟩;rw[decide_eq_decide];constructor
   ·intro h;exact .inr (by omega)
   ·rintro(h|h)
    ·cases h
    ·omega
 ·rintro t h' ⟨rfl,rfl⟩
  refine ax (fun h2=>?_) fun h2=>?_
  ·exact G h' _ _ (Upd.refl _ _) (V7 q hc h2) (.inr ⟨b,sl,_,rfl,rfl,rfl,hr⟩)
  ·have U:w=none:=by
    cases w with
    |none=>rfl
    |some v=>exact absurd (.inl rfl) h2
   subst U;have I:F.toL.length<2:=by
    rcases bR F.toL.length 2 with h|h
    ·exact h
    ·exact absurd (.inr h) h2
   refine⟨_,rfl,s,dU (i:=3) n,?_⟩;match hFL:F.toL,I with
   | [],_=>
    rw[hFL]at c;have e:((s.len:Int)==(0:Int))=true:=by rw[beq_iff_eq,c];rfl
    rw[e];exact aw.2 (G h' _ _ (Upd.refl _ _) (V8 hFL) (.inl ⟨rfl,rfl⟩))
   | [(lk,wk,Fk)],_=>
    rw[hFL]at c;have e:((s.len:Int)==(0:Int))=false:=by rw[beq_eq_false_iff_ne,c];simp
    rw[e];have f:(lk,wk,Fk)∈F.toL:=by rw[hFL];exact List.mem_singleton.2 rfl
    have V:=(eP.1 hc).2 _ f;have h0:0<F.toL.length:=by rw[hFL];exact Nat.one_pos
    obtain⟨kb,d,J,g,m⟩:=X.at h0;have e0:F.toL[0]=(lk,wk,Fk):=by simp only[hFL];rfl
    rw[e0]at g m;simp only at g m;obtain⟨a,ha,_,E⟩:=hs.at0 J;obtain⟨C,kss,kow,O,Q,L,D,P,z⟩:=m;have H:=lW.1 z;have u:=lD V.2.2;refine ag.2 ⟨_,rfl,s,dU (i:=3) n,⟨by omega,by rw[c];simp⟩,a,ha,some ⟨kb,0,none⟩,E,?_⟩
    refine rI Q D (by rw[H.1];exact u) fun h1 s1 b1 N p=>?_
    obtain⟨Y,vv,S⟩:=pf hc _ f;have T:=M (lk++Y) vv (gM.2 ⟨_,f,Y,rfl,S⟩);rw[ac]at T;have Z:lk.length=d.size:=by rw[←g];exact mF d
    refine⟨_,rfl,sl,dU (i:=0) (p.get0 n),_,rfl,d,dU (i:=0) b1,by omega,?_⟩
    have hbl:b<h'.size:=aY n;refine y5 b1 fun h2 b2 B=>?_
    have j:Upd No h' h2:=p.own B (aj _);have A:=N.upd B fun x hx e=>by have e:x=h'.size:=e;have:=hx.1;omega
    refine G h2 _ _ j (X7 q hc hFL) (.inr ⟨h'.size,sl++d,_,rfl,rfl,by rw[←g];exact YX sl d,⟨C,s1,none,O,b2,L,A.sl (fun x hx _ U=>by have:=hW _ U;have:=hx.1;omega),⟨A.cap,fun hx=>nV _ (hW _ hx)⟩,RxF.upd0 j z⟩⟩)
set_option maxHeartbeats 1000000 in
theorem XK{W:Nat→Prop}:∀(n:Nat) {b:Nat} {sl:ByteArray} {w:Option ByteArray} {F:Fo} {h:ad} (k:ByteArray),k.size<n→RxN W h b sl w F→(∀y,W y→y<h.size)→gf F→(∀j v,tg F j v→j.length≤1000000)→∀{K:(Option Addr)×Bool→ad→Prop},
  (∀h' b' w' F' t,Upd No h h'→RxN W h' b' sl w' F'→gf F'→xH (uQ w F) (uQ w' F') k.data.toList→(t=false→b'=b∧∀v,¬uQ w F k.data.toList v)→(t=true→∃v,uQ w F k.data.toList v)→K (some ⟨b',0,none⟩,t) h')→
  HC PG oA [.pointer (some ⟨b,0,none⟩),.pointer none,.string k] [.c .ptr,.c .bool] K h:=by
 intro n;induction n with
 |zero=>intro b sl w F h k hk;omega
 |succ n ih=>
  intro b sl w F h k hkn r hW hc hbd K hk;refine EP (some ⟨b,0,none⟩) none k ?_;unfold xu bE bT bK az iU dy W3 bF Iq oU O6;have hr:=r;obtain⟨val,s,ow,ks,hb,hv,hs,hcap,hF⟩:=r;have X:=lW.1 hF;have hn:=lD hc;have hcan:=eP.1 hc;have z:∀{h':ad},Upd No h h'→(∀v,¬uQ w F k.data.toList v)→K (some ⟨b,0,none⟩,false) h':=fun hu A=>hk _ b w F false hu (hr.upd0 hu) hc (S5 A) (fun _=>⟨rfl,A⟩) fun h=>by cases h
  rw[ge];refine ax (fun hk0=>?_) fun hk0=>?_
  ·have hke:k.data.toList= []:=by rw[hk0]
   rw[hke]at hk z;refine⟨_,rfl,w.isSome,dU (i:=1) hb,?_⟩;cases L:w with
   |none=>
    refine aw.2 (z (Upd.refl _ _) fun v d=>?_)
    rcases d with⟨_,h⟩|h
    ·rw[L]at h;cases h
    ·exact absurd rfl (qR hc h)
   |some u=>
    refine ag.2 (rI hb hs (by rw[X.1];exact hn) fun h1 s1 b1 ho1 hu1=>?_)
    refine⟨_,rfl,Zo (i:=1) b1 (show 1<5 by decide),K7 (i:=1) (c':=Ft sl false val s1 none) b1 rfl fun h2 b2 o=>?_⟩
    refine⟨_,rfl,Zo (i:=2) b2 (show 2<5 by decide),K7 (i:=2) (c':=Ft sl false ⟨#[]⟩ s1 none) b2 rfl fun h3 b3 C=>?_⟩
    have H:Upd No h h3:=hu1.own (o.tr C) (aj _);have V:=ho1.upd (o.tr C) fun x hx e=>by have e:x=h.size:=e;have:=hx.1;omega
    refine hk h3 h.size none F true H ⟨⟨#[]⟩,s1,none,ks,b3,rfl,V.sl (fun x hx _ L=>by have:=hW _ L;have:=hx.1;omega),⟨V.cap,fun hx=>nV _ (hW _ hx)⟩,RxF.upd0 H hF⟩ hc (S4 hc) (fun h=>by cases h) fun _=>⟨u,.inl ⟨rfl,L⟩⟩
  ·have p:k.data.toList≠[]:=fun e=>hk0 (by cases k;exact congrArg nC (Array.toList_inj.1 e))
   obtain⟨c0,hc0,hc0e⟩:=F0 p;refine⟨c0,Int.le_refl _,hc0,?_⟩;have hlk:k.data.toList.length=k.size:=mF k;refine FM hr hc (c:=c0.toNat) (UInt8.toNat_lt _) fun i ok T hlo hhi hok=>?_
   rw[hc0e]at hlo hhi hok;cases ok with
   |false=>
    refine aw.2 (z (Upd.refl _ _) fun v d=>?_)
    rcases d with⟨h,_⟩|d
    ·exact p h
    ·obtain⟨n',hn',e,_⟩:=tJ hc d
     obtain⟨j,hj,rfl⟩:=bQ hn';rcases bR j i with hl|hl
     ·have:=hlo j hj hl;omega
     ·have h1:=hhi j hj hl
      have h2:=hhi i (by omega) (aj _);rcases bR i j with hl2|hl2
      ·have h3:=cn.1 hcan.1 i j (by omega) hj hl2
       omega
      ·have:i=j:=by omega
       subst this;have:=hok.2 ⟨hj,e⟩;cases this
   |true=>
    obtain⟨hi,Z⟩:=hok.1 rfl;refine ag.2 ⟨_,rfl,s,dU (i:=3) hb,?_⟩;obtain⟨kb,ksl,hki,D,I⟩:=X.at hi;have G:F.toL[i]∈F.toL:=bh hi;have S:=hcan.2 _ G;obtain⟨a,ha,_,hvv⟩:=hs.at0 hki;have hslen:=hs.len;rw[X.1]at hslen;have hlt1:(i:Int)<((s.len:Nat):Int):=by omega
    refine⟨⟨by simp only;omega,hlt1⟩,a,ha,some ⟨kb,0,none⟩,hvv,_,rfl,?_⟩;obtain⟨kval,kss,kow,kks,hkb,_⟩:=id I;have B:∀v,tg F k.data.toList v→wO F.toL[i] k.data.toList v:=fun v d=>by
     obtain⟨n',hn',e,hN⟩:=tJ hc d;rw[←zE hc hn' G (by omega)];exact hN
    have q:∀j v,wO F.toL[i] j v→tg F j v:=fun j v d=>gM.2 ⟨_,G,d⟩
    have g:∀{m:Bn},Q9 m→hd m.1=hd F.toL[i].1→gf (.ofL (F.toL.set i m)):=fun h1 h2=>Vc hc hi h1 h2
    have Q:∀{m:Bn},xH (wO F.toL[i]) (wO m) k.data.toList→xH (tg F) (tg (.ofL (F.toL.set i m))) k.data.toList:=fun hp=>Wp hc hi Z hp
    have O:(∀k' v',wO F.toL[i] k' v'→k'=k.data.toList)→xH (tg F) (tg (.ofL (F.toL.take i++F.toL.drop (i+1)))) k.data.toList:=fun hp=>Wq hc hi Z hp
    have hrset:∀{h':ad} {k':Option Addr} {m:Bn},Upd No h h'→Kid W h' k' m→RxL W h' (ks.set i k') (F.toL.set i m):=fun hu hkd=>(X.upd0 hu).set hi hkd
    generalize F.toL[i]=m at D I S B q g Q O Z;obtain⟨lab,wk,Fk⟩:=m;simp only at D I S Z g;refine⟨ksl,dU (i:=0) hkb,YD (fun N f=>?_) fun A=>?_⟩
    ·rw[D]at f
     have hlne:lab.length≠0:=fun e=>S.1 (List.length_eq_zero_iff.1 e)
     have hrl:N.size<k.size:=by
      rw[←mF N,←hlk,f,ac];omega
     refine ag.2 ⟨_,rfl,s,dU (i:=3) hb,⟨by simp only;omega,hlt1⟩,a,ha,some ⟨kb,0,none⟩,hvv,?_⟩;have hkbd:∀j v,tg Fk j v→j.length≤1000000:=fun j v d=>by
      have:=hbd _ v (q (lab++j) v ⟨j,rfl,.inr d⟩);rw[ac]at this;omega
     refine ih N (by omega) I hW S.2.2 hkbd fun h2 b2 w2 F2 t o rn2 hc2 hd2 hg0 hg1=>?_
     cases t with
     |false=>
      refine aw.2 (z o fun v d=>?_)
      rcases d with⟨h,_⟩|d
      ·exact p h
      ·obtain⟨r',e,hr'⟩:=B v d
       simp only at e;rw[f]at e;exact(hg0 rfl).2 v (by rw[List.append_cancel_left e];exact hr')
     |true=>
      obtain⟨v0,hv0⟩:=hg1 rfl;have E:∃v,uQ w F k.data.toList v:=⟨v0,.inr (q _ _ ⟨_,f,hv0⟩)⟩;have hdn:xH (wO (lab,wk,Fk)) (wO (lab,w2,F2)) k.data.toList:=by
       rw[f];exact S6 hd2
      refine ag.2 (rI (o.get0 hb) (hs.upd o fun _ h=>h.elim) (by rw[X.1];exact hn) fun h3 s3 b3 V C=>?_)
      have H:=o.tr C;obtain⟨rr,vv,d⟩:=pf hc _ G;have hlb:lab.length≤1000000:=by
       have:=hbd _ v0 (q _ _ ⟨_,f,hv0⟩);rw[f,ac]at this;omega
      have hb2:∀j v,tg F2 j v→j.length≤1000000:=fun j v d=>by
       rcases((hd2 j v).1 (.inr d)).2 with⟨e,_⟩|h
       ·rw[e];simp
       ·exact hkbd j v h
      refine VJ (W:=Pro W h2 h3) ((rn2.less Pro.hm).upd0 C) (Pro.lt (fun y hy=>aG (hW y hy) o.size) C) hc2 (by rw[D];exact S.1) (by rw[←mF ksl,D];exact hlb) hb2 fun h4 r4 o4 Y hm4 hr4=>?_
      rw[D]at hm4;have b4:=Y.get0 b3;have ho4:=V.upd Y fun _ _ h=>h
      have hu04:=H.tr Y;have hz2:h.size≤h2.size:=o.size;have T:i<ks.length:=by rw[X.1];exact hi
      have hlen4:=ho4.len;rcases hr4 with⟨rfl,rfl⟩|⟨b4',sl4,m4,rfl,rfl,hsl4,rn4⟩
      ·rcases hm4 with⟨_,A⟩|⟨_,e,_⟩
       ·have ew:IntKind.wrap .i64 ((i:Int)+1)=((i+1:Nat):Int):=by rw[eJ (by omega)];omega
        refine aw.2 ⟨_,rfl,s3,dU (i:=3) b4,?_⟩;simp only;rw[ew];refine S9 ho4 T (by rw[X.1];omega) fun s5 h5 P J=>?_
        have b5:=J.get b4 fun hx=>by have:=hx.1;omega
        refine⟨_,rfl,Zo (i:=3) b5 (show 3<5 by decide),K7 (i:=3) (c':=Ft sl w.isSome val s5 none) b5 rfl fun h6 b6 hu6=>?_⟩
        have R:Upd No h h6:=(hu04.trans J fun x hx=>.inr (by have:=hx.1;omega)).own hu6 hz2
        have ho6:=P.upd hu6 fun x hx e=>by have e:x=h2.size:=e;have:=hx.1;omega
        refine hk h6 h2.size w _ true R ⟨val,s5,none,_,b6,hv,ho6.sl (fun x hx _ L=>by have:=hW _ L;have:=hx.1;omega),⟨ho6.cap,fun hx=>by have:=hW _ hx;omega⟩,lW.2 (by rw[Fo.to_of];exact((X.upd0 R).take i).app ((X.upd0 R).drop (i+1)))⟩ (aay hc) (JI p (O fun k' v' hN=>?_)) (fun h=>by cases h) fun _=>E
        refine Classical.byContradiction fun hne=>A k' v' ((hdn k' v').2 ⟨hne,hN⟩)
       ·cases e
      ·rcases hm4 with⟨e,_⟩|⟨m',e,hcn,hhd,hiff⟩
       ·cases e
       ·cases e
        obtain⟨a3,ha3,U,hw3,P,J⟩:=OwnS.setAt ho4 T (some ⟨b4',0,none⟩);refine ag.2 ⟨_,rfl,s3,dU (i:=3) b4,⟨by simp only;omega,by simp only;omega⟩,a3,ha3,?_⟩
        have hw1:Wr h4 (adr a3 (i*1)):=by
         rcases hw3 with L|⟨b',hb',L⟩
         ·cases L
         ·cases hb';exact L 0 (by simp)
        refine⟨hw1,bG ?_⟩;have b5:=J.get b4 fun e=>by have e:h2.size=a3.block:=e;have:=U.1;omega
        have hu45:Upd No h2 _:=(C.tr Y).trans J fun x hx=>.inr (by have hx:x=a3.block:=hx;have:=U.1;omega)
        have hu05:=o.tr hu45;have eset:ks.set i (some ⟨b4',0,none⟩)=ks.take i++some ⟨b4',0,none⟩::ks.drop (i+1):=by rw[eA,if_pos T]
        rw[←eset]at P;have rn5:=(rn4.updM (M:=(· =a3.block)) J fun y hy=>.inl (.inr (by have hy:y=a3.block:=hy;have:=U.1;have:=U.2;omega))).less (W':=W) fun y hy=>.inl (.inl hy)
        exact hk _ h2.size w _ true hu05 ⟨val,s3,none,_,b5,hv,P.sl (fun x hx _ L=>by have:=hW _ L;have:=hx.1;omega),⟨P.cap,fun hx=>by have:=hW _ hx;omega⟩,lW.2 (by rw[Fo.to_of];exact hrset hu05 ⟨b4',sl4,rfl,hsl4,rn5⟩)⟩ (g hcn hhd) (JI p (Q fun k' v'=>by rw[hiff k' v'];exact hdn k' v')) (fun h=>by cases h) fun _=>E
    ·rw[D]at A
     refine aw.2 (z (Upd.refl _ _) fun v d=>?_)
     rcases d with⟨h,_⟩|d
     ·exact p h
     ·obtain⟨r',e,_⟩:=B v d
      exact A r' e
end Go.Proofs
namespace Go.Proofs
open Go Go.Lift
theorem VN{w:Option ByteArray}{F:Fo}{l:List Pr}(h:∀k v,(k,v)∈xM w F↔∃p∈l,p.1.data.toList=k∧p.2=v)(a:Fit l):∀j v,tg F j v→j.length≤1000000:=fun j v hi=>by
 obtain⟨p,b,e,_⟩:=(h j v).1 (lj.2 (.inr hi));have:=(a p b).1;rw[←e,mF];omega
theorem NG{W:Nat→Prop}{h:ad}{b:Nat}{l:List Pr}(t:RadAt W h b l)(D:∀y,W y→y<h.size)(I:Fit l)(k:ByteArray){K:Option Addr×Bool→ad→Prop}
  (G:∀h' b',Upd No h h'→RadAt W h' b' (oJ k l)→(cG l k=false→b'=b)→K (some ⟨b',0,none⟩,cG l k) h'):
  HC PG zo [.pointer none,.pointer (some ⟨b,0,none⟩),.string k] [.c .ptr,.c .bool] K h:=by
 refine Ox none (some ⟨b,0,none⟩) k ?_;unfold E5 W3;refine FK (.inr ⟨b,rfl,t⟩) D fun h2 b2 t2 g s=>?_
 have m:b2=b:=by
  rcases s with e|e
  ·cases e;rfl
  ·cases e
 subst m;obtain⟨w,F,r1,r2,B⟩:=t2.ex;refine XK (k.size+1) k (by omega) r1 (fun y M=>aG (D y M) g.size) r2 (VN B I) fun H b3 L F' a A o C u f n=>?_
 have i:∀v,uQ w F k.data.toList v↔(k,v)∈l:=fun v=>by
  rw[←lj,B];constructor
  ·rintro⟨p,z,J,rfl⟩
   rw[←tS.1 J];exact z
  ·intro z;exact⟨_,z,rfl,rfl⟩
 have x:a=cG l k:=by
  cases a with
  |false=>
   refine(AC fun q d e=>(f rfl).2 q.2 ((i _).2 ?_)).symm
   rw[←e];exact d
  |true=>
   obtain⟨v,hv⟩:=n rfl;exact(cE.2 ⟨_,(i v).1 hv,decide_eq_true rfl⟩).symm
 subst x;refine G H b3 (g.tr A) ⟨L,F',o,C,fun j v=>?_⟩ fun E=>(f E).1
 rw[lj,u j v,←lj,B];constructor
 ·rintro⟨c,q,d,rfl,rfl⟩
  exact⟨q,NY.2 ⟨d,fun e=>c (by rw[e])⟩,rfl,rfl⟩
 ·rintro⟨q,d,rfl,rfl⟩
  obtain⟨d,c⟩:=NY.1 d;exact⟨fun e=>c (tS.1 e),q,d,rfl,rfl⟩
theorem GK{W:Nat→Prop}{x:Hs}{h:ad}{o:Int}{t:Tr}{l:List Pr}(i:TreeIs W h o x t l)(hW:∀y,W y→y<h.size)(hr:bM l)(hf:Fit l)(hn:l.length≤1000000)(k:ByteArray)(S:k.size≤256){K:Tr×Int→ad→Prop}
  (I:∀h' j,TreeIs W h' o x j (oJ k l)→(cG l k=false→j=t)→Upd No h h'→K (j,if cG l k then 0 else 4) h'):HC PG my [yY t,.pointer none,.string k] [.agg [.int .i64,.int .u64,.int .u64,.int .u64,.ptr,.ptr],.c (.int .i64)] K h:=by
 refine BR t none k ?_;unfold vq aI ae cg aB df nv wN zP o9 iU Fz dy W3;refine aP fun d b1 k1=>aP fun h2 b2 T=>?_
 have z1:=aY b1;have z2:=aY b2;have Z:h.size≤d.size:=k1.size;have N:=k1.tr T;refine FV (v:=⟨#[]⟩) S (aS 4096) (ag.2 ?_);have B:=T.get0 b1;refine⟨_,vc B 0,_,vc B 1,_,vc B 2,_,vc B 3,_,vc B 4,_,vc B 5,?_⟩;refine aP fun h3 b3 k3=>?_
 have z3:=aY b3;have s2:d.size≤h2.size:=T.size;refine cF (c:=kg BM) (vs:=kg t) b3 rfl fun E Y C=>?_
 have w:Upd No h E:=(N.tr k3).own C (by omega);have H:Upd No h2 E:=k3.own C (aj _);have s4:h3.size≤E.size:=C.size;have u:=H.get0 B;have d4:=H.get0 b2;have i4:=i.pro w;have G:=Pro.lt hW w;have X:∀{a:ad} {j:Tr},Upd No h a→a[h.size]? =some (.cells (kg j).toArray bo (0,0))→a[d.size]? =some (.cells (kg BM).toArray bo (0,0))→a[h2.size]? =some (.cells (kg t).toArray bo (0,0))→TreeIs (Pro W h E) a o x j (oJ k l)→(cG l k=false→j=t)→
   CondP (!cG l k) (∃v41:Int,aJ a (adr (ay h2) 0)=some (.int .i64 v41)∧
    ∃v42:Int,aJ a (adr (ay h2) 1)=some (.int .u64 v42)∧
    ∃v43:Int,aJ a (adr (ay h2) 2)=some (.int .u64 v43)∧
    ∃v44:Int,aJ a (adr (ay h2) 3)=some (.int .u64 v44)∧
    ∃v45:Option Addr,aJ a (adr (ay h2) 4)=some (.pointer v45)∧
    ∃v46:Option Addr,aJ a (adr (ay h2) 5)=some (.pointer v46)∧
    (rE a (some (ay d)) 0 [.int .i64 v41,.int .u64 v42,.int .u64 v43,.int .u64 v44,.pointer v45,.pointer v46]∧
     At (fS a (ay d) 0 [.int .i64 v41,.int .u64 v42,.int .u64 v43,.int .u64 v44,.pointer v45,.pointer v46]) (fun m=>
      ∃v48:Int,aJ m (adr (ay d) 0)=some (.int .i64 v48)∧
      ∃v49:Int,aJ m (adr (ay d) 1)=some (.int .u64 v49)∧
      ∃v50:Int,aJ m (adr (ay d) 2)=some (.int .u64 v50)∧
      ∃v51:Int,aJ m (adr (ay d) 3)=some (.int .u64 v51)∧
      ∃v52:Option Addr,aJ m (adr (ay d) 4)=some (.pointer v52)∧
      ∃v53:Option Addr,aJ m (adr (ay d) 5)=some (.pointer v53)∧
      K ((v48,v49,v50,v51,v52,v53),4) m))) (
    ∃v54:Int,aJ a (adr (ay h) 0)=some (.int .i64 v54)∧
    ∃v55:Int,aJ a (adr (ay h) 1)=some (.int .u64 v55)∧
    ∃v56:Int,aJ a (adr (ay h) 2)=some (.int .u64 v56)∧
    ∃v57:Int,aJ a (adr (ay h) 3)=some (.int .u64 v57)∧
    ∃v58:Option Addr,aJ a (adr (ay h) 4)=some (.pointer v58)∧
    ∃v59:Option Addr,aJ a (adr (ay h) 5)=some (.pointer v59)∧
    (rE a (some (ay d)) 0 [.int .i64 v54,.int .u64 v55,.int .u64 v56,.int .u64 v57,.pointer v58,.pointer v59]∧
     At (fS a (ay d) 0 [.int .i64 v54,.int .u64 v55,.int .u64 v56,.int .u64 v57,.pointer v58,.pointer v59]) (fun n=>
      ∃v61:Int,aJ n (adr (ay d) 0)=some (.int .i64 v61)∧
      ∃v62:Int,aJ n (adr (ay d) 1)=some (.int .u64 v62)∧
      ∃v63:Int,aJ n (adr (ay d) 2)=some (.int .u64 v63)∧
      ∃v64:Int,aJ n (adr (ay d) 3)=some (.int .u64 v64)∧
      ∃v65:Option Addr,aJ n (adr (ay d) 4)=some (.pointer v65)∧
      ∃v66:Option Addr,aJ n (adr (ay d) 5)=some (.pointer v66)∧
      K ((v61,v62,v63,v64,v65,v66),0) n))):=fun{a j} M A L z J f=>by
  cases D:cG l k with
  |false=>
   rw[D]at I f;have U:=f rfl;subst U;refine aw.2 ⟨_,vc z 0,_,vc z 1,_,vc z 2,_,vc z 3,_,vc z 4,_,vc z 5,?_⟩;refine cF (c:=kg BM) (vs:=kg j) L rfl fun P p q=>?_
   refine⟨_,vc p 0,_,vc p 1,_,vc p 2,_,vc p 3,_,vc p 4,_,vc p 5,?_⟩;exact I P j ((J.updM q (fun y s=>.inl (.inr (by have s:y=d.size:=s;omega)))).less Pro.sub) (fun _=>rfl) (M.own q Z)
  |true=>
   rw[D]at I f;refine ag.2 ⟨_,vc A 0,_,vc A 1,_,vc A 2,_,vc A 3,_,vc A 4,_,vc A 5,?_⟩;refine cF (c:=kg BM) (vs:=kg j) L rfl fun P p q=>?_
   refine⟨_,vc p 0,_,vc p 1,_,vc p 2,_,vc p 3,_,vc p 4,_,vc p 5,?_⟩;exact I P j ((J.updM q (fun y s=>.inl (.inr (by have s:y=d.size:=s;omega)))).less Pro.sub) (fun h=>by cases h) (M.own q Z)
 refine Join.intro (fun tk a=>tk=cG l k∧Upd No h a∧∃j,a[h.size]? =some (.cells (kg j).toArray bo (0,0))∧a[d.size]? =some (.cells (kg BM).toArray bo (0,0))∧a[h2.size]? =some (.cells (kg t).toArray bo (0,0))∧TreeIs (Pro W h E) a o x j (oJ k l)∧(cG l k=false→j=t)) (fun R hR=>?_) ?_
 ·rcases i4 with⟨rfl,b,rfl,Q⟩|⟨rfl,b,rfl,Q⟩
  ·refine⟨_,vc u 0,ag.2 ⟨_,lJ u 1 0,_,lJ u 1 1,_,lJ u 1 2,_,vc u 4,?_⟩⟩
   refine Oh Q G hr hn k fun h5 F e V f=>?_
   refine vz (i:=4) (c':=(kg (0,x.k0,x.k1,x.mask,some ⟨F,0,none⟩,none)).toArray) (e.get0 u) (show 4<6 by decide) rfl fun a O g=>?_
   exact hR _ _ ⟨rfl,(w.tr e).own g (aj _),_,O,g.oth (e.get0 d4) (by omega),g.oth (e.get0 Y) (by omega),.inl ⟨rfl,F,rfl,TrieAt.updM g (fun y s=>.inl (.inr (by have s:y=h.size:=s;omega))) V⟩,fun D=>by rw[f D]⟩
  ·refine⟨_,vc u 0,aw.2 ⟨_,vc u 5,?_⟩⟩
   refine NG Q G hf k fun h5 F e V f=>?_
   refine vz (i:=5) (c':=(kg (1,0,0,0,none,some ⟨F,0,none⟩)).toArray) (e.get0 u) (show 5<6 by decide) rfl fun a O g=>?_
   exact hR _ _ ⟨rfl,(w.tr e).own g (aj _),_,O,g.oth (e.get0 d4) (by omega),g.oth (e.get0 Y) (by omega),.inr ⟨rfl,F,rfl,V.updM g (fun y s=>.inl (.inr (by have s:y=h.size:=s;omega)))⟩,fun D=>by rw[f D]⟩
 ·rintro _ a ⟨rfl,M,j,A,L,z,J,f⟩
  exact X M A L z J f
end Go.Proofs
namespace Go.Proofs
open Go Go.Lift
theorem XV{W:Nat→Prop}{h:ad}{s:SliceV}{l:List Pr}(v:Sl ey 2 W h s l)(C:bM l)(D:Fit l)(F:l.length≤1000000)(k:ByteArray){K:Int×Bool→ad→Prop}
  (x:∀i:Nat,(cG l k=true→∃hi:i<l.length,l[i].1=k)→K ((i:Int),cG l k) h):HC PG Dh [.slice s.a s.len s.cap,.string k] [.c (.int .i64),.c .bool] K h:=by
 refine TI s k ?_;unfold KG bT az iU;have z:=v.len;refine LoopP.ghost (fun(i:Nat) (t:Int) h'=>t=(i:Int)∧i≤l.length∧h'=h∧∀j (c:j<l.length),j<i→kl l[j].1 k) (fun i=>l.length-i) 0 ⟨rfl,aS _,rfl,fun j c h=>by omega⟩ ?_
 rintro I i t h' ⟨rfl,hi,rfl,d⟩ A;refine Join.intro (fun t h2=>h2=h'∧(t=true↔∃hi:i<l.length,kl l[i].1 k)) (fun R y=>?_) ?_
 ·refine ax (fun b=>?_) fun m=>y _ _ ⟨rfl,⟨fun h=>(by cases h),fun⟨hi,_⟩=>by omega⟩⟩
  have b:i<l.length:=by omega
  obtain⟨a,w,_,hv⟩:=v.at (af b);have E:=(D _ (bh b)).1;refine⟨⟨by omega,by omega⟩,a,w,l[i].1,hv 0 _ rfl,PE (by omega) (y _ _ ⟨rfl,?_⟩)⟩
  rw[decide_eq_true_iff];exact⟨fun h=>⟨b,h⟩,fun⟨_,h⟩=>h⟩
 ·rintro t h2 ⟨rfl,g⟩
  cases t with
  |true=>
   obtain⟨b,p⟩:=g.1 rfl;refine aw.2 ?_;rw[mg b (by omega)];refine A (i+1) _ _ ⟨rfl,b,rfl,fun j c B=>?_⟩ (by omega)
   rcases bR j i with h|h
   ·exact d j c h
   ·have:j=i:=by omega
    subst this;exact p
  |false=>
   refine ag.2 (ax (fun b=>?_) fun m=>?_)
   ·have b:i<l.length:=by omega
    have n:¬kl l[i].1 k:=fun h=>by have:=g.2 ⟨b,h⟩;cases this
    obtain⟨a,w,_,hv⟩:=v.at (af b);refine⟨⟨by omega,by omega⟩,a,w,l[i].1,hv 0 _ rfl,?_⟩
    rw[ge];have e:decide (l[i].1=k)=cG l k:=by
     by_cases e:l[i].1=k
     ·rw[decide_eq_true e]
      exact(cE.2 ⟨_,bh b,decide_eq_true e⟩).symm
     ·rw[decide_eq_false e]
      refine(AC fun q u f=>?_).symm
      obtain⟨j,c,rfl⟩:=bQ u;have o:=qQ n e;rcases Nat.lt_trichotomy j i with h|h|h
      ·have:=d j c h;rw[f]at this;exact bZ _ this
      ·subst h;exact e f
      ·have:=cn.1 C i j b c h
       rw[f]at this;exact bZ _ (gD o this)
    rw[e];exact x i fun g=>⟨b,of_decide_eq_true (e.trans g)⟩
   ·have e:cG l k=false:=AC fun q u f=>by
     obtain⟨j,c,rfl⟩:=bQ u;have:=d j c (by omega);rw[f]at this;exact bZ _ this
    have:=x i fun h=>by rw[e]at h;cases h
    rw[e]at this;exact this
theorem Uz{W:Nat→Prop}{h:ad}{s:SliceV}{l:List Pr}(e:Sl ey 2 W h s l)(m:bM l)(g:Fit l)(j:l.length≤1000000)(k:ByteArray){K:ByteArray×Bool→ad→Prop}
  (c:∀v,(cG l k=true→(k,v)∈l)→(cG l k=false→v=⟨#[]⟩)→K (v,cG l k) h):HC PG BG [.slice s.a s.len s.cap,.string k] [.c .str,.c .bool] K h:=by
 refine WU s k ?_;unfold Ng bT az DQ;have f:=e.len;refine XV e m g j k fun i hi=>?_
 cases ht:cG l k with
 |false=>rw[ht]at c;exact aw.2 (c _ (fun h=>(by cases h)) fun _=>rfl)
 |true=>
  rw[ht]at c;obtain⟨b,d⟩:=hi ht;obtain⟨a,n,_,hv⟩:=e.at (af b);refine ag.2 ⟨⟨by simp only;omega,by simp only;omega⟩,a,n,l[i].2,hv 1 _ rfl,c _ (fun _=>by rw[←d];exact bh b) fun h=>(by cases h)⟩
end Go.Proofs
namespace Go.Proofs
open Go Go.Lift
theorem P4(k:ByteArray):look [] k=none:=rfl
theorem fK(p:Pr)(l:List Pr)(k:ByteArray):look (p::l) k=if p.1=k then some p.2 else look l k:=by
 unfold look;rw[qI];by_cases e:p.1=k
 ·rw[decide_eq_true e,if_pos e];rfl
 ·rw[decide_eq_false e,if_neg e]
theorem AH{l:List Pr}{k:ByteArray}(h:∀p∈l,kl k p.1):look l k=none:=Mz (AC fun p a e=>by have:=h p a;rw[e]at this;exact bZ _ this)
theorem uA{k v:ByteArray}:∀{l:List Pr},look l k=some v→(k,v)∈l
 | [],h=>by cases h
 |p::l,h=>by
  rw[fK]at h;by_cases e:p.1=k
  ·rw[if_pos e]at h;cases h;rw[←e];exact au ..
  ·rw[if_neg e]at h;exact aE _ (uA h)
theorem Ye{l m:List Pr}(b:bM l)(hm:bM m)(h:∀k,look l k=look m k):l=m:=
 yj b hm fun p=>⟨fun a=>uA (by rw[←h];exact ym b a),fun a=>uA (by rw[h];exact ym hm a)⟩
theorem Jm(p:Pr)(k:ByteArray):∀{l:List Pr},look (iq p l) k=if p.1=k then some p.2 else look l k
 | []=>fK p [] k
 |q::l=>by
  rw[gR];by_cases a:kl q.1 p.1
  ·rw[if_pos a,fK,Jm p k,fK]
   by_cases e:q.1=k
   ·rw[if_pos e,if_pos e,if_neg fun b=>by rw[e,b]at a;exact bZ _ a]
   ·rw[if_neg e,if_neg e]
  ·rw[if_neg a]
   by_cases h2:q.1=p.1
   ·rw[if_pos h2,fK,fK,h2]
    by_cases e:p.1=k
    ·rw[if_pos e,if_pos e]
    ·rw[if_neg e,if_neg e,if_neg e]
   ·rw[if_neg h2,fK]
theorem Jn(k' k:ByteArray):∀{l:List Pr},look (oJ k' l) k=if k'=k then none else look l k
 | []=>by
  by_cases e:k'=k; · rw[if_pos e];rfl
  ·rw[if_neg e];rfl
 |q::l=>by
  rw[yx];by_cases h:q.1=k'
  ·rw[if_pos h,Jn k' k,fK,h]
   by_cases e:k'=k
   ·rw[if_pos e,if_pos e]
   ·rw[if_neg e,if_neg e,if_neg e]
  ·rw[if_neg h,fK,Jn k' k,fK]
   by_cases e:q.1=k
   ·rw[if_pos e,if_pos e,if_neg fun a=>h (by rw[e,a])]
   ·rw[if_neg e,if_neg e]
def aa9(k:ByteArray)(a b:Option ByteArray):Option Ch:=if a=b then none else some (k,a.getD ⟨#[]⟩,b.getD ⟨#[]⟩,a.isSome,b.isSome)
theorem QE(k:ByteArray)(a:Option ByteArray):aa9 k a a=none:=if_pos rfl
theorem aaz{k:ByteArray}{a b:Option ByteArray}{c:Ch}(h:aa9 k a b=some c):c=(k,a.getD ⟨#[]⟩,b.getD ⟨#[]⟩,a.isSome,b.isSome)∧a≠b:=by
 unfold aa9 at h;by_cases e:a=b
 ·rw[if_pos e]at h;cases h
 ·rw[if_neg e]at h;cases h;exact⟨rfl,e⟩
def fd(l:List Ch)(k:ByteArray):Option Ch:=l.find? fun c=>decide (c.1=k)
theorem zk(c:Ch)(l:List Ch)(k:ByteArray):fd (c::l) k=if c.1=k then some c else fd l k:=by
 unfold fd;rw[qI];by_cases e:c.1=k
 ·rw[decide_eq_true e,if_pos e]
 ·rw[decide_eq_false e,if_neg e]
theorem SY{k:ByteArray}{c:Ch}:∀{l:List Ch},fd l k=some c→c∈l∧c.1=k
 | [],h=>by cases h
 |a::l,h=>by
  rw[zk]at h;by_cases e:a.1=k
  ·rw[if_pos e]at h;cases h;exact⟨au ..,e⟩
  ·rw[if_neg e]at h;exact⟨aE _ (SY h).1,(SY h).2⟩
theorem Yt{c:Ch}:∀{l:List Ch},Gl l→c∈l→fd l c.1=some c
 |a::l,b,h=>by
  have b:=aF.1 b;rw[zk];rcases aC.1 h with rfl|h
  ·exact if_pos rfl
  ·rw[if_neg fun e=>by have:=b.1 c h;rw[e]at this;exact bZ _ this]
   exact Yt b.2 h
theorem SZ{A B:List Pr}(c:bM A)(d:bM B)(k:ByteArray):fd (jN A B) k=aa9 k (look A k) (look B k):=by
 refine qj (P:=fun A B=>fd (jN A B) k=aa9 k (look A k) (look B k)) ?_ (fun a A B c _ h i=>?_) (fun b A B _ d h i=>?_) (fun a b A B e c d i=>?_) c d
 ·rw[kE];exact(QE ..).symm
 ·rw[wh h,zk,fK,i]
  by_cases e:a.1=k
  ·rw[if_pos (show(Lr a).1=k from e),if_pos e,←e,AH h];rfl
  ·rw[if_neg (show ¬(Lr a).1=k from e),if_neg e]
 ·rw[wg h,zk,fK,i]
  by_cases e:b.1=k
  ·rw[if_pos (show(Zq b).1=k from e),if_pos e,←e,AH h];rfl
  ·rw[if_neg (show ¬(Zq b).1=k from e),if_neg e]
 ·rw[uJ e,fK,fK,←e]
  by_cases h:a.1=k
  ·rw[if_pos h,if_pos h]
   unfold Ai aa9;by_cases h2:a.2=b.2
   ·rw[if_pos h2,if_pos (by rw[h2]),List.nil_append,i,←h,AH (aF.1 c).1,e,AH (aF.1 d).1,QE]
   ·rw[if_neg h2,if_neg (fun e=>h2 (Option.some.inj e)),tx,zk,if_pos h,h];rfl
  ·rw[if_neg h,if_neg h,←i]
   unfold Ai;by_cases h2:a.2=b.2
   ·rw[if_pos h2];rfl
   ·rw[if_neg h2,tx,zk,if_neg h]
def abv(c:Ch):Bool:=(!((!c.2.2.2.1&& !c.2.2.2.2)||(c.2.2.2.1&&(c.2.2.2.2&&decide (c.2.1=c.2.2.1)))))&&((c.2.2.2.1||decide (c.2.1=⟨#[]⟩))&&(c.2.2.2.2||decide (c.2.2.1=⟨#[]⟩)))
def one(c:Ch):Option Ch:=if abv c then some c else none
end Go.Proofs
namespace Go.Proofs
open Go Go.Lift
end Go.Proofs
namespace Go.Proofs
open Go Go.Lift
end Go.Proofs
namespace Go.Proofs
open Go Go.Lift
abbrev abq(s:ByteArray):List Value:= [.string s]
def qk(L:List Pr)(g:List ByteArray):List Pr:=(g.take 15).foldl (fun acc s=>oJ (yz s) acc) L
theorem Qk{L:List Pr}{g:List ByteArray}{i:Nat}(hi:i<g.length)(a:i<15):qk L (g.take (i+1))=oJ (yz g[i]) (qk L (g.take i)):=by
 unfold qk;rw[iI,iI,il (by omega),il (by omega),bj hi,oI];rfl
theorem Ql{L:List Pr}{g:List ByteArray}{i:Nat}(a:15≤i):qk L (g.take (i+1))=qk L (g.take i):=by
 unfold qk;rw[iI,iI,bH (by omega),bH (by omega)]
theorem Few.del{n:Nat}{L:List Pr}(f:Few n L)(k:ByteArray):Few n (oJ k L):=⟨Mf f.up,aX YB f.len,fun p a=>f.fit p (NY.1 a).1⟩
theorem AU{n:Nat}{L:List Pr}(f:Few n L)(g:List ByteArray):Few n (qk L g):=by
 unfold qk;generalize g.take 15=m;induction m generalizing L with
 |nil=>exact f
 |cons s m ih=>rw[List.foldl_cons];exact ih (f.del _)
theorem PB{W:Nat→Prop}{x:Hs}{h:ad}{a:Int}{r:Rt}{l:List Pr}(i:RefIs W h a x r l)(G:∀y,W y→y<h.size)(H:bM l)(J:Fit l)(B:l.length≤1000000)(k:ByteArray)(I:k.size≤256){K:Rt×Int→ad→Prop}
  (z:∀h' r' e,RefIs W h' a x r' (oJ k l)→Upd No h h'→K (r',e) h'):HC PG xT [OX r,.string k] [.agg [.int .i64,.int .u64,.int .u64,.int .u64,.slice],.c (.int .i64)] K h:=by
 refine LL r k ?_;unfold Cv aI ae bV df KW BQ dy Ns DQ;refine aP fun E b1 k1=>aP fun h2 b2 C=>?_
 have M:=aY b1;have O:=aY b2;have A:h.size≤E.size:=k1.size;have d:=k1.tr C;have g:=C.get0 b1;obtain⟨s,rfl,u,hc⟩:=i;refine ax (fun h=>absurd h (by omega)) fun _=>?_
 refine⟨s,vc g 4,Uz (u.upd d fun _ h=>h.elim) H J B k fun v _ _=>?_⟩
 refine CondP.intro (fun F=>?_) fun F=>?_
 ·have t:cG l k=false:=by simpa using F
  refine⟨_,vc g 0,_,vc g 1,_,vc g 2,_,vc g 3,s,vc g 4,?_⟩;refine cF (c:=ou IT) (vs:=ou (a,hx a x.k0,hx a x.k1,hx a x.mask,s)) b2 rfl fun q b f=>?_
  refine⟨_,vc b 0,_,vc b 1,_,vc b 2,_,vc b 3,s,vc b 4,?_⟩;refine z q (a,hx a x.k0,hx a x.k1,hx a x.mask,s) 4 ⟨s,rfl,?_,hc⟩ (d.own f A);rw[A9 (DX t)];exact u.upd (d.own f A) fun _ h=>h.elim
 ·refine⟨s,vc g 4,PH (u.upd d fun _ h=>h.elim) B k fun n N w m=>?_⟩
  refine vz (i:=4) (c':=(ou (a,hx a x.k0,hx a x.k1,hx a x.mask,n)).toArray) (m.get0 g) (show 4<5 by decide) rfl fun P p j=>?_
  refine⟨_,vc p 0,_,vc p 1,_,vc p 2,_,vc p 3,n,vc p 4,?_⟩;refine cF (c:=ou IT) (vs:=ou (a,hx a x.k0,hx a x.k1,hx a x.mask,n)) (j.oth (m.get0 b2) (by omega)) rfl fun q b f=>?_
  refine⟨_,vc b 0,_,vc b 1,_,vc b 2,_,vc b 3,n,vc b 4,?_⟩;have o:=(w.upd j fun y D e=>by have e:y=h.size:=e;omega).upd f fun y D e=>by have e:y=E.size:=e;omega
  refine z q (a,hx a x.k0,hx a x.k1,hx a x.mask,n) 0 ⟨n,rfl,o.sl fun y D _ L=>by have:=G y L;omega,o.cap⟩ (((d.tr m).own j (aj _)).own f (by omega))
end Go.Proofs
namespace Go.Proofs
open Go Go.Lift
end Go.Proofs
namespace Go.Proofs
open Go Go.Lift
end Go.Proofs
namespace Go.Proofs
open Go Go.Lift
end Go.Proofs
namespace Go.Proofs
open Go Go.Lift
theorem YJ{A B:List Pr}(a:bM A)(b:bM B){c:Ch}(h:c∈jN A B):c=(c.1,(look A c.1).getD ⟨#[]⟩,(look B c.1).getD ⟨#[]⟩,(look A c.1).isSome,(look B c.1).isSome)∧look A c.1≠look B c.1:=by
 have:=SZ a b c.1;rw[Yt (y8 a b) h]at this;exact aaz this.symm
theorem pd{n:Nat}{A:List Pr}(f:Few n A)(k:ByteArray):((look A k).getD ⟨#[]⟩).size≤30:=by
 cases e:look A k with
 |none=>exact aS _
 |some v=>exact(f.fit _ (uA e)).2
theorem GO{n m:Nat}{A B:List Pr}(b:Few n A)(a:Few m B):∀c∈jN A B,c.1.size≤30∧c.2.1.size≤30∧c.2.2.1.size≤30:=fun c hc=>by
 obtain⟨e,ne⟩:=YJ b.up a.up hc;refine⟨?_,?_,?_⟩
 ·cases ea:look A c.1 with
  |some v=>exact(b.fit _ (uA ea)).1
  |none=>
   cases eb:look B c.1 with
   |some v=>exact(a.fit _ (uA eb)).1
   |none=>rw[ea,eb]at ne;exact absurd rfl ne
 ·rw[e];exact pd b _
 ·rw[e];exact pd a _
end Go.Proofs
namespace Go.Proofs
open Go Go.Lift
theorem Xt{A B:List Pr}(a:bM A)(b:bM B)(k:ByteArray):(jN A B).any (fun c=>decide (c.1=k))=decide (look A k≠look B k):=by
 have h:=SZ a b k;unfold aa9 at h;by_cases e:look A k=look B k
 ·rw[if_pos e]at h
  rw[show decide (look A k≠look B k)=false by simpa using e]
  unfold fd at h;rw[List.find?_eq_none]at h;rw[List.any_eq_false];exact fun c hc=>h c hc
 ·rw[if_neg e]at h
  rw[show decide (look A k≠look B k)=true by simpa using e]
  obtain⟨hc,ek⟩:=SY h;exact cE.2 ⟨_,hc,by simp⟩
end Go.Proofs
namespace Go.Proofs
open Go Go.Lift
def As(o:Option ByteArray):Sd:=(o.getD ⟨#[]⟩,o.isSome)
theorem ZP{a b:Option ByteArray}:As a=As b↔a=b:=by
 constructor
 ·intro h
  unfold As at h;cases a<;>cases b<;>simp_all
 ·rintro rfl;rfl
def vn(b o t:Option ByteArray)(p:Int):Option ByteArray×Bool:=if o=t∨t=b then(o,true)else if o=b then(t,true)else if p=1 then(o,false)else if p=2 then(t,false)else(b,false)
theorem Uk(b o t:Option ByteArray)(p:Int):Ao (As b) (As o) (As t) p=(As (vn b o t p).1,(vn b o t p).2):=by
 unfold Ao vn;simp only[ZP];split
 ·rfl
 ·split
  ·rfl
  ·split
   ·rfl
   ·split<;>rfl
theorem L8(b o t:Option ByteArray)(p:Int):(vn b o t p).1=b∨(vn b o t p).1=o∨(vn b o t p).1=t:=by
 unfold vn;split
 ·exact .inr (.inl rfl)
 ·split
  ·exact .inr (.inr rfl)
  ·split
   ·exact .inr (.inl rfl)
   ·split
    ·exact .inr (.inr rfl)
    ·exact .inl rfl
theorem Pc{b o t:Option ByteArray}{p:Int}:(vn b o t p).2=false↔o≠t∧t≠b∧o≠b:=by
 unfold vn;by_cases a:o=t∨t=b
 ·rw[if_pos a]
  exact⟨fun h=>(by cases h),fun h=>absurd a fun e=>e.elim h.1 h.2.1⟩
 ·rw[if_neg a]
  by_cases h2:o=b
  ·rw[if_pos h2]
   exact⟨fun h=>(by cases h),fun h=>absurd h2 h.2.2⟩
  ·rw[if_neg h2]
   refine⟨fun _=>⟨fun e=>a (.inl e),fun e=>a (.inr e),h2⟩,fun _=>?_⟩
   split
   ·rfl
   ·split<;>rfl
def K5(L:List Pr)(k:ByteArray):Option ByteArray→List Pr
 |some v=>iq (k,v) L
 |none=>oJ k L
theorem Wa(L:List Pr)(k:ByteArray)(o:Option ByteArray)(j:ByteArray):look (K5 L k o) j=if k=j then o else look L j:=by
 cases o with
 |some v=>exact Jm (k,v) j
 |none=>exact Jn k j
theorem RV{L:List Pr}(h:bM L)(k:ByteArray)(o:Option ByteArray):bM (K5 L k o):=by
 cases o with
 |some v=>exact vM _ h
 |none=>exact Mf h
theorem Ys{n:Nat}{L:List Pr}(f:Few n L){k:ByteArray}{o:Option ByteArray}(a:k.size≤30)(b:(o.getD ⟨#[]⟩).size≤30):Few (n+1) (K5 L k o):=by
 cases o with
 |some v=>exact f.ins (k,v) a b
 |none=>have g:=f.del k;exact⟨g.up,Nat.le_succ_of_le g.len,g.fit⟩
def tk(B O T:List Pr)(p:Int)(k:ByteArray):Option ByteArray×Bool:=vn (look B k) (look O k) (look T k) p
def tH(B O T:List Pr)(p:Int)(acc:List Pr)(l:List Ch):List Pr:=l.foldl (fun acc c=>K5 acc c.1 (tk B O T p c.1).1) acc
theorem PX{B O T:List Pr}{p:Int}{acc:List Pr}{l:List Ch}{i:Nat}(hi:i<l.length):tH B O T p acc (l.take (i+1))=K5 (tH B O T p acc (l.take i)) l[i].1 (tk B O T p l[i].1).1:=by
 unfold tH;rw[bj hi,oI];rfl
theorem G6{B O T:List Pr}{p:Int}{k:ByteArray}:∀{l:List Ch} {acc:List Pr},look (tH B O T p acc l) k=if(fd l k).isSome then(tk B O T p k).1 else look acc k
 | [],_=>rfl
 |c::l,acc=>by
  show look (tH B O T p (K5 acc c.1 (tk B O T p c.1).1) l) k=_
  rw[G6,zk,Wa];by_cases e:c.1=k
  ·subst e
   rw[if_pos rfl,if_pos rfl,if_pos (show(some c).isSome=true from rfl)]
   split<;>rfl
  ·rw[if_neg e,if_neg e]
theorem D2{B O T:List Pr}{p:Int}:∀{l:List Ch} {acc:List Pr},bM acc→bM (tH B O T p acc l)
 | [],_,h=>h
 |c::l,_,h=>D2 (l:=l) (RV h c.1 _)
theorem CZ{B O T:List Pr}{p:Int}{g no i:Nat}(b:Few g B)(f:Few no O)(a:Few i T):∀{l:List Ch} {n:Nat} {acc:List Pr},(∀c∈l,c.1.size≤30)→Few n acc→Few (n+l.length) (tH B O T p acc l)
 | [],_,_,_,h=>h
 |c::l,n,_,hl,h=>by
  have h2:((tk B O T p c.1).1.getD ⟨#[]⟩).size≤30:=by
   unfold tk;rcases L8 (look B c.1) (look O c.1) (look T c.1) p with e|e|e
   ·rw[e];exact pd b _
   ·rw[e];exact pd f _
   ·rw[e];exact pd a _
  have:=CZ (p:=p) b f a (l:=l) (fun d hd=>hl d (aE _ hd)) (Ys h (hl c (au ..)) h2)
  rw[List.length_cons,show n+(l.length+1)=n+1+l.length by omega]
  exact this
def vR(B O T:List Pr)(p:Int):List Pr:=tH B O T p O (jN B T)
theorem Sy{B O T:List Pr}{p:Int}(a:bM B)(b:bM T)(k:ByteArray):look (vR B O T p) k=(tk B O T p k).1:=by
 unfold vR;rw[G6,SZ a b];unfold aa9;by_cases e:look B k=look T k
 ·rw[if_pos e]
  show look O k=_
  unfold tk vn;rw[if_pos (.inr e.symm)]
 ·rw[if_neg e];rfl
def HK(B O T:List Pr)(p:Int)(l:List Ch):List ByteArray:=(l.map (·.1)).filter fun k=> !(tk B O T p k).2
theorem Wy{B O T:List Pr}{p:Int}{l:List Ch}{i:Nat}(hi:i<l.length):HK B O T p (l.take (i+1))=HK B O T p (l.take i)++if(tk B O T p l[i].1).2 then[]else[l[i].1]:=by
 unfold HK;rw[bj hi,List.map_append,List.filter_append];congr 1
 rw[List.map_singleton,List.filter_cons,List.filter_nil];cases(tk B O T p l[i].1).2<;>rfl
theorem Qy{B O T:List Pr}{p:Int}{l:List Ch}:(HK B O T p l).length≤l.length:=aX (List.length_filter_le ..) (Nat.le_of_eq (List.length_map ..))
abbrev tQ(B O T:List Pr)(p:Int):List ByteArray:=HK B O T p (jN B T)
theorem X9{B O T:List Pr}{p:Int}(a:bM B)(b:bM T){k:ByteArray}:k∈tQ B O T p↔(tk B O T p k).2=false:=by
 unfold tQ HK;rw[List.mem_filter];refine⟨fun h=>by simpa using h.2,fun h=>⟨?_,by rw[h];rfl⟩⟩
 have ne:=(Pc.1 h).2.1;have:=Xt a b k;rw[show decide (look B k≠look T k)=true by simpa using fun e=>ne e.symm]at this
 obtain⟨c,hc,e⟩:=cE.1 this;exact List.mem_map.2 ⟨c,hc,by simpa using e⟩
theorem Zy{B O T:List Pr}{p:Int}(a:bM B)(b:bM T):(tQ B O T p).Pairwise kl:=by
 unfold tQ HK;refine List.Pairwise.sublist List.filter_sublist ?_;exact List.pairwise_map.2 (y8 a b)
theorem P7:∀{l m:List ByteArray},l.Pairwise kl→m.Pairwise kl→(∀k,k∈l↔k∈m)→l=m
 | [],[],_,_,_=>rfl
 | [],q::m,_,_,h=>absurd ((h q).2 (au ..)) (by simp)
 |p::l,[],_,_,h=>absurd ((h p).1 (au ..)) (by simp)
 |p::l,q::m,d,a,h=>by
  have d:=aF.1 d;have a:=aF.1 a;have e:p=q:=by
   rcases aC.1 ((h p).1 (au ..))with e|g
   ·exact e
   ·rcases aC.1 ((h q).2 (au ..))with e|f
    ·exact e.symm
    ·exact absurd (gD (d.1 q f) (a.1 p g)) (bZ _)
  subst e;rw[P7 d.2 a.2 fun z=>?_]
  constructor
  ·intro c
   rcases aC.1 ((h z).1 (aE _ c))with e|b
   ·exact absurd (d.1 z c) (by rw[e];exact bZ _)
   ·exact b
  ·intro c
   rcases aC.1 ((h z).2 (aE _ c))with e|b
   ·exact absurd (a.1 z c) (by rw[e];exact bZ _)
   ·exact b
abbrev Cf:=ByteArray×Sd×Sd×Sd
def Hd(B O T:List Pr)(k:ByteArray):Cf:=(k,As (look B k),As (look O k),As (look T k))
end Go.Proofs
namespace Go.Proofs
open Go Go.Lift Go.Sort
abbrev tR:Value:=.func (.func pm) #[] #[]
def mH(dec:Int→Ch)(i j:Int):Bool:=aae (dec i) (dec j)
structure SA(dec:Int→Ch)(M:Nat→Prop)(s:SliceV)(h:ad)(d:Array Int):Prop where
 own:OwnS Fv 5 cl M h s (d.toList.map dec)
 small:d.size≤1000000000
 lt:∀b,M b→b<h.size
variable {dec:Int→Ch} {M:Nat→Prop} {s:SliceV} {h:ad} {d:Array Int}
theorem SA.len(a:SA dec M s h d):s.len=d.size:=by have:=a.own.len;simpa using this
theorem SA.updC{c:Nat}{h':ad}(a:SA dec M s h d)(k:Upd (· =c) h h')(hc:¬M c):SA dec M s h' d:=⟨a.own.upd k fun b f e=>hc (by have e:b=c:=e;rw[←e];exact f),a.small,fun b f=>aG (a.lt b f) k.size⟩
theorem SA.upd0{h':ad}(a:SA dec M s h d)(k:Upd No h h'):SA dec M s h' d:=⟨a.own.upd k fun _ _ h=>h,a.small,fun b c=>aG (a.lt b c) k.size⟩
theorem SA.at(b:SA dec M s h d){i:Nat}(hi:i<d.size):∃a,s.a=some a∧∀j v,(Fv (dec d[i]!))[j]? =some v→aJ h (adr (adr a (((i:Int)).toNat*5)) j)=some v:=by
 have hx:(d.toList.map dec)[i]? =some (dec d[i]!):=by
  rw[List.getElem?_map,Array.getElem?_toList,Array.getElem?_eq_getElem hi,getElem!_pos d i hi];rfl
 obtain⟨a,c,_,hv⟩:=(b.own.sl (W:=No) fun _ _ _ h=>h).at hx
 exact⟨a,c,by simpa using hv⟩
theorem SA.rd(b:SA dec M s h d){t:Int}{i:Nat}(c:t=(i:Int))(hi:i<d.size){R:ByteArray→ByteArray→ByteArray→Bool→Bool→Prop}(f:R (dec d[i]!).1 (dec d[i]!).2.1 (dec d[i]!).2.2.1 (dec d[i]!).2.2.2.1 (dec d[i]!).2.2.2.2):
  ((0:Int)≤t∧t<((s.len:Nat):Int))∧∃a:Addr,s.a=some a∧∃v1:ByteArray,aJ h (adr (adr a (t.toNat*5)) 0)=some (.string v1)∧∃v2:ByteArray,aJ h (adr (adr a (t.toNat*5)) 1)=some (.string v2)∧∃v3:ByteArray,aJ h (adr (adr a (t.toNat*5)) 2)=some (.string v3)∧∃v4:Bool,aJ h (adr (adr a (t.toNat*5)) 3)=some (.bool v4)∧∃v5:Bool,aJ h (adr (adr a (t.toNat*5)) 4)=some (.bool v5)∧R v1 v2 v3 v4 v5:=by
 subst c;obtain⟨a,e,hv⟩:=b.at hi;exact⟨by rw[b.len];omega,a,e,_,hv 0 _ rfl,_,hv 1 _ rfl,_,hv 2 _ rfl,_,hv 3 _ rfl,_,hv 4 _ rfl,f⟩
theorem SA.st(e:SA dec M s h d){t:Int}{i:Nat}{x:Int}(n:t=(i:Int))(hi:i<d.size){R:ad→Prop}(o:∀h',SA dec M s h' (d.setIfInBounds i x)→Upd M h h'→R h'):
  ((0:Int)≤t∧t<((s.len:Nat):Int))∧∃a:Addr,s.a=some a∧(rE h (some (adr a (t.toNat*5))) 0 [.string (dec x).1,.string (dec x).2.1,.string (dec x).2.2.1,.bool (dec x).2.2.2.1,.bool (dec x).2.2.2.2]∧At (fS h (adr a (t.toNat*5)) 0 [.string (dec x).1,.string (dec x).2.1,.string (dec x).2.2.1,.bool (dec x).2.2.2.1,.bool (dec x).2.2.2.2]) R):=by
 subst n;obtain⟨a,p,hM,j,m,g⟩:=OwnS.setAt e.own (k:=i) (by simpa using hi) (dec x);refine⟨by rw[e.len];omega,a,p,?_⟩;rw[aU];have f:Upd M h _:=g.mono fun b c=>.inl (by have c:b=a.block:=c;rw[c];exact hM)
 refine⟨j,bG (o _ ⟨?_,by simpa using e.small,fun b c=>aG (e.lt b c) g.size⟩ f)⟩
 rw[show(d.setIfInBounds i x).toList.map dec=(d.toList.map dec).take i++dec x::(d.toList.map dec).drop (i+1) by
  rw[Array.toList_setIfInBounds,List.map_set,eA,if_pos (by simpa using hi)]]
 exact m
@[simp] theorem acq(d:Array Int)(i j:Nat):(swp d i j).size=d.size:=by simp[swp]
theorem SA.swap(g:SA dec M s h d){b c:Int}{i j:Nat}(o:b=(i:Int))(m:c=(j:Int))(hi:i<d.size)(n:j<d.size){R:ad→Prop}(p:∀h',SA dec M s h' (swp d i j)→Upd M h h'→R h'):
  ((0:Int)≤c∧c<((s.len:Nat):Int))∧∃a:Addr,s.a=some a∧∃v1:ByteArray,aJ h (adr (adr a (c.toNat*5)) 0)=some (.string v1)∧∃v2:ByteArray,aJ h (adr (adr a (c.toNat*5)) 1)=some (.string v2)∧∃v3:ByteArray,aJ h (adr (adr a (c.toNat*5)) 2)=some (.string v3)∧∃v4:Bool,aJ h (adr (adr a (c.toNat*5)) 3)=some (.bool v4)∧∃v5:Bool,aJ h (adr (adr a (c.toNat*5)) 4)=some (.bool v5)∧
   (((0:Int)≤b∧b<((s.len:Nat):Int))∧∃a:Addr,s.a=some a∧∃w1:ByteArray,aJ h (adr (adr a (b.toNat*5)) 0)=some (.string w1)∧∃w2:ByteArray,aJ h (adr (adr a (b.toNat*5)) 1)=some (.string w2)∧∃w3:ByteArray,aJ h (adr (adr a (b.toNat*5)) 2)=some (.string w3)∧∃w4:Bool,aJ h (adr (adr a (b.toNat*5)) 3)=some (.bool w4)∧∃w5:Bool,aJ h (adr (adr a (b.toNat*5)) 4)=some (.bool w5)∧
    (((0:Int)≤b∧b<((s.len:Nat):Int))∧∃a:Addr,s.a=some a∧(rE h (some (adr a (b.toNat*5))) 0 [.string v1,.string v2,.string v3,.bool v4,.bool v5]∧At (fS h (adr a (b.toNat*5)) 0 [.string v1,.string v2,.string v3,.bool v4,.bool v5]) (fun f=>
     (((0:Int)≤c∧c<((s.len:Nat):Int))∧∃a:Addr,s.a=some a∧(rE f (some (adr a (c.toNat*5))) 0 [.string w1,.string w2,.string w3,.bool w4,.bool w5]∧At (fS f (adr a (c.toNat*5)) 0 [.string w1,.string w2,.string w3,.bool w4,.bool w5]) R)))))):=by
 refine g.rd m n (g.rd o hi (g.st (x:=d[j]!) o hi fun f k k1=>k.st (x:=d[i]!) m (by simpa using n) fun h2 e q=>p h2 e (k1.tr q)))
theorem SA.less(f:SA dec M s h d){b c:Int}{i j:Nat}(p:b=(i:Int))(m:c=(j:Int))(hi:i<d.size)(n:j<d.size){R:Int→ad→Prop}(o:∀h' e,SA dec M s h' d→Upd No h h'→decide (e<0)=mH dec d[i]! d[j]!→R e h'):
  ((0:Int)≤b∧b<((s.len:Nat):Int))∧∃a:Addr,s.a=some a∧∃v1:ByteArray,aJ h (adr (adr a (b.toNat*5)) 0)=some (.string v1)∧∃v2:ByteArray,aJ h (adr (adr a (b.toNat*5)) 1)=some (.string v2)∧∃v3:ByteArray,aJ h (adr (adr a (b.toNat*5)) 2)=some (.string v3)∧∃v4:Bool,aJ h (adr (adr a (b.toNat*5)) 3)=some (.bool v4)∧∃v5:Bool,aJ h (adr (adr a (b.toNat*5)) 4)=some (.bool v5)∧
   (((0:Int)≤c∧c<((s.len:Nat):Int))∧∃a:Addr,s.a=some a∧∃w1:ByteArray,aJ h (adr (adr a (c.toNat*5)) 0)=some (.string w1)∧∃w2:ByteArray,aJ h (adr (adr a (c.toNat*5)) 1)=some (.string w2)∧∃w3:ByteArray,aJ h (adr (adr a (c.toNat*5)) 2)=some (.string w3)∧∃w4:Bool,aJ h (adr (adr a (c.toNat*5)) 3)=some (.bool w4)∧∃w5:Bool,aJ h (adr (adr a (c.toNat*5)) 4)=some (.bool w5)∧
    HV PG tR [.agg #[.string v1,.string v2,.string v3,.bool v4,.bool v5],.agg #[.string w1,.string w2,.string w3,.bool w4,.bool w5]] [.c (.int .i64)] R h):=
 f.rd p hi (f.rd m n ((aa7 M).call (dec d[i]!) (dec d[j]!) trivial fun h' e k g=>o h' e (f.upd0 k) k g))
theorem SQ(S:SA dec M s h d){a e:Nat}(ha:a≤e)(he:e≤d.size){K:Unit→ad→Prop}(W:∀h',SA dec M s h' (insertionSort (mH dec) d a e)→Upd M h h'→K () h'):
  HC PG dV [.slice s.a s.len s.cap,.int .i64 a,.int .i64 e,tR] [] K h:=by
 refine iW s a e tR ?_;unfold fI bE bT az jR bF lH ga nY;have Z:=S.small;refine LoopP.ghost (fun(g:Nat×Array Int) (t:Int) h'=>t=(g.1:Int)∧SA dec M s h' g.2∧g.2.size=d.size∧insOuter (mH dec) a e g.1 g.2=insertionSort (mH dec) d a e∧Upd M h h'∧a<g.1) (fun g=>e-g.1) (a+1,d)
  ⟨by rw[eJ (by omega)];rfl,S,rfl,rfl,Upd.refl _ _,by simp⟩ ?_
 rintro I ⟨i,N⟩ t h1 ⟨q,k,v,p,u,J⟩ T;simp only at q k v p J;subst q;refine ax (fun A=>?_) fun X=>?_
 ·have A:i<e:=by omega
  refine LoopP.ghost (fun(g:Nat×Array Int) (t:Int) h'=>t=(g.1:Int)∧SA dec M s h' g.2∧g.2.size=d.size∧insInner (mH dec) a g.1 g.2=insInner (mH dec) a i N∧Upd M h h'∧g.1≤i) (fun g=>g.1) (i,N)
   ⟨rfl,k,v,rfl,u,aj _⟩ ?_
  rintro I2 ⟨j,c⟩ t h2 ⟨q,n,o,m,F,C⟩ B;simp only at q n o m C;subst q;refine Join.intro (fun t h'=>SA dec M s h' c∧Upd No h2 h'∧(t=true↔a<j∧(mH dec) c[j]! c[j-1]! =true)) (fun R P=>?_) ?_
  ·refine ax (fun w=>?_) fun U=>P _ _ ⟨n,Upd.refl _ _,by simp;omega⟩
   have w:a<j:=by omega
   exact n.less rfl (j:=j-1) (by rw[eJ (by omega)];omega) (by omega) (by omega) fun x e3 b E D=>P _ _ ⟨b,E,by rw[D];simp[w]⟩
  ·rintro t h' ⟨b,E,y⟩
   have z:=F.tr E.wide;refine CondP.intro (fun x=>?_) fun x=>?_
   ·obtain⟨V,Q⟩:=y.1 x
    refine b.swap (i:=j) (j:=j-1) rfl (by rw[eJ (by omega)];omega) (by omega) (by omega) fun h6 L G=>?_
    refine B (j-1,swp c j (j-1)) _ _ ⟨by rw[eJ (by omega)];simp only;omega,L,by simp[o],?_,z.tr G,by simp only;omega⟩ (by simp only;omega)
    rw[←m];obtain⟨O,rfl⟩:∃O,j=O+1:=⟨j-1,by omega⟩
    simp only[Nat.add_sub_cancel]at Q⊢;rw[insInner,if_pos (by simp[Q,V])]
   ·have f:¬(a<j∧(mH dec) c[j]! c[j-1]! =true):=fun Y=>by rw[y.2 Y]at x;cases x
    have H:insInner (mH dec) a j c=c:=by
     cases j with
     |zero=>rw[insInner]
     |succ j=>
      simp only[Nat.add_sub_cancel]at f;rw[insInner,if_neg (by simpa using f)]
    refine T (i+1,c) _ _ ⟨by rw[eJ (by omega)];rfl,b,o,?_,z,by simp only;omega⟩ (by simp only;omega)
    rw[←p];conv=>rhs;rw[insOuter]
    rw[if_pos A,←m,H]
 ·refine W _ ?_ u
  rw[←p,insOuter,if_neg (by omega)];exact k
end Go.Proofs
namespace Go.Proofs
open Go Go.Lift Go.Sort
variable {dec:Int→Ch} {M:Nat→Prop} {s:SliceV} {h:ad} {d:Array Int}
@[simp] theorem Zm(lt:Int→Int→Bool)(hi first root:Nat)(d:Array Int):(siftDown lt hi first root d).size=d.size:=by
 fun_induction siftDown lt hi first root d<;>simp_all
@[simp] theorem Jx(lt:Int→Int→Bool)(hi first:Nat):∀(k:Nat) (d:Array Int),(heapBuild lt hi first k d).size=d.size
 |0,d=>rfl
 |k+1,d=>by rw[heapBuild,Jx lt hi first k];simp
theorem GP{root hi first:Nat}(N:SA dec M s h d)(hb:first+hi≤d.size){K:Unit→ad→Prop}(G:∀h',SA dec M s h' (siftDown (mH dec) hi first root d)→Upd M h h'→K () h')(T:root≤1000000000):
  HC PG eT [.slice s.a s.len s.cap,.int .i64 root,.int .i64 hi,.int .i64 first,tR] [] K h:=by
 refine p6 s root hi first tR ?_
 unfold kF bE bT az jR bF lH ga nY;have V:=N.small;refine LoopP.ghost (fun(g:Nat×Array Int) (t:Int) h'=>t=(g.1:Int)∧SA dec M s h' g.2∧g.2.size=d.size∧siftDown (mH dec) hi first g.1 g.2=siftDown (mH dec) hi first root d∧Upd M h h'∧g.1≤1000000000) (fun g=>hi-g.1) (root,d)
  ⟨rfl,N,rfl,rfl,Upd.refl _ _,T⟩ ?_
 rintro I ⟨i,a⟩ t L ⟨F,k,q,m,o,B⟩ O;simp only at F k q m B;subst F;have U:IntKind.wrap .i64 (IntKind.wrap .i64 (2*(i:Int))+1)=((2*i+1:Nat):Int):=by rw[eJ (x:=2*(i:Int)) (by omega),eJ (by omega)];omega
 have H:IntKind.wrap .i64 (((2*i+1:Nat):Int)+1)=((2*i+2:Nat):Int):=by rw[eJ (by omega)];omega
 rw[U];refine ax (fun P=>?_) fun D=>?_
 ·refine G _ ?_ o
  rw[←m,siftDown,dif_pos (by omega)];exact k
 ·have D:2*i+1<hi:=by omega
  refine Join.intro (fun t h'=>SA dec M s h' a∧Upd No L h'∧∃c:Nat,t=(c:Int)∧c=if 2*i+2<hi∧(mH dec) a[first+(2*i+1)]! a[first+(2*i+1)+1]! =true then 2*i+2 else 2*i+1) (fun R J=>?_) ?_
  ·refine Join.intro (fun t h'=>SA dec M s h' a∧Upd No L h'∧(t=true↔2*i+2<hi∧(mH dec) a[first+(2*i+1)]! a[first+(2*i+1)+1]! =true)) (fun R2 w=>?_) ?_
   ·show CondP (decide (IntKind.wrap .i64 (((2*i+1:Nat):Int)+1)<(hi:Int))) _ _
    rw[H];refine ax (fun f=>?_) fun f=>w _ _ ⟨k,Upd.refl _ _,by simp;omega⟩
    show(((0:Int)≤IntKind.wrap .i64 ((first:Int)+((2*i+1:Nat):Int))∧_)∧_)
    refine k.less (i:=first+(2*i+1)) (j:=first+(2*i+1)+1) (by rw[eJ (by omega)];omega) (by rw[eJ (x:=(first:Int)+_) (by omega),eJ (by omega)];omega) (by omega) (by omega) fun X e4 b n z=>w _ _ ⟨b,n,?_⟩
    rw[z];simp;omega
   ·rintro t h' ⟨b,n,u⟩
    refine CondP.intro (fun f=>?_) fun f=>?_
    ·show R (IntKind.wrap .i64 (((2*i+1:Nat):Int)+1)) _
     rw[H];exact J _ _ ⟨b,n,_,rfl,by rw[if_pos (u.1 f)]⟩
    ·exact J _ _ ⟨b,n,_,rfl,by rw[if_neg fun S=>by rw[u.2 S]at f;cases f]⟩
  ·rintro t h' ⟨b,n,c,rfl,hc⟩
   have W:c<hi∧i<c:=by rw[hc];split<;>omega
   refine b.less (i:=first+i) (j:=first+c) (by rw[eJ (by omega)];omega) (by rw[eJ (by omega)];omega) (by omega) (by omega) fun h5 Y y Q A=>?_
   have p:=o.tr (n.tr Q).wide;rw[A];have e:siftDown (mH dec) hi first i a=if !(mH dec) a[first+i]! a[first+c]! then a else siftDown (mH dec) hi first c (swp a (first+i) (first+c)):=by
    rw[siftDown,dif_neg (by omega)];by_cases v:2*i+2<hi∧(mH dec) a[first+(2*i+1)]! a[first+(2*i+1)+1]! =true
    ·rw[if_pos (by simp only[bq,decide_eq_true_iff];exact v),dif_pos v.1]
     rw[if_pos v]at hc;rw[hc]
    ·rw[if_neg (by simp only[bq,decide_eq_true_iff];exact v)]
     rw[if_neg v]at hc;rw[hc]
   refine CondP.intro (fun f=>?_) fun f=>?_
   ·refine G _ ?_ p
    rw[←m,e,if_pos f];exact y
   ·refine y.swap (i:=first+i) (j:=first+c) (by rw[eJ (by omega)];omega) (by rw[eJ (by omega)];omega) (by omega) (by omega) fun Z E C=>?_
    refine O (c,swp a (first+i) (first+c)) _ _ ⟨rfl,E,by simp[q],?_,p.tr C,by simp only;omega⟩ (by simp only;omega)
    rw[←m,e,if_neg (by rw[f];simp)]
theorem Qg{a e:Nat}(H:SA dec M s h d)(Y:a≤e)(U:e≤d.size){K:Unit→ad→Prop}(N:∀h',SA dec M s h' (heapSort (mH dec) d a e)→Upd M h h'→K () h'):
  HC PG gI [.slice s.a s.len s.cap,.int .i64 a,.int .i64 e,tR] [] K h:=by
 refine p7 s a e tR ?_;unfold kG bE bT az bF lH ga;have Q:=H.small;have O:IntKind.wrap .i64 ((e:Int)-(a:Int))=((e-a:Nat):Int):=by rw[eJ (by omega)];omega
 rw[O];refine⟨by decide,?_⟩;have F:IntKind.wrap .i64 (gj (IntKind.wrap .i64 (((e-a:Nat):Int)-1)) 2)=(((e-a-1)/2+1:Nat):Int)-1:=by
  rw[eJ (x:=((e-a:Nat):Int)-1) (by omega)];by_cases P:e-a=0
  ·rw[P];decide
  ·rw[Int.tdiv_eq_ediv_of_nonneg (by omega),eJ (by omega)];omega
 show LoopP _ (IntKind.wrap .i64 (gj (IntKind.wrap .i64 (((e-a:Nat):Int)-1)) 2)) h
 rw[F];refine LoopP.ghost (fun(g:Nat×Array Int) (t:Int) h'=>t=(g.1:Int)-1∧SA dec M s h' g.2∧g.2.size=d.size∧heapBuild (mH dec) (e-a) a g.1 g.2=heapBuild (mH dec) (e-a) a ((e-a-1)/2+1) d∧Upd M h h'∧g.1≤1000000000) (fun g=>g.1) ((e-a-1)/2+1,d)
  ⟨rfl,H,rfl,rfl,Upd.refl _ _,by simp only;omega⟩ ?_
 rintro I ⟨k,L⟩ t X ⟨p,f,m,o,q,C⟩ J;simp only at p f m o C;subst p;refine ax (fun z=>?_) fun R=>?_
 ·obtain⟨k,rfl⟩:∃k',k=k'+1:=⟨k-1,by omega⟩
  have D:((k+1:Nat):Int)-1=(k:Int):=by omega
  rw[D];refine GP f (by omega) (fun h2 b c=>J (k,_) _ _ ⟨by rw[eJ (by omega)],b,by simp[m],?_,q.tr c,by simp only;omega⟩ (by simp)) (by omega)
  rw[←o];rfl
 ·have:k=0:=by omega
  subst this;rw[eJ (x:=((e-a:Nat):Int)-1) (by omega)];refine LoopP.ghost (fun(g:Nat×Array Int) (t:Int) h'=>t=(g.1:Int)-1∧SA dec M s h' g.2∧g.2.size=d.size∧heapPop (mH dec) a g.1 g.2=heapSort (mH dec) d a e∧Upd M h h'∧g.1≤e-a) (fun g=>g.1) (e-a,L)
   ⟨rfl,f,m,by rw[heapSort,←o];rfl,q,aj _⟩ ?_
  rintro S ⟨k,V⟩ t h2 ⟨p,b,u,n,c,y⟩ w;simp only at p b u n y;subst p;refine ax (fun z=>?_) fun G=>?_
  ·obtain⟨k,rfl⟩:∃k',k=k'+1:=⟨k-1,by omega⟩
   have D:((k+1:Nat):Int)-1=(k:Int):=by omega
   rw[D];refine b.swap (i:=a) (j:=a+k) rfl (by rw[eJ (by omega)];omega) (by omega) (by omega) fun W A E=>?_
   refine GP (root:=0) A (by simp;omega) (fun T v B=>w (k,_) _ _ ⟨by rw[eJ (by omega)],v,by simp[u],?_,(c.tr E).tr B,by simp only;omega⟩ (by simp)) (by omega)
   rw[←n];rfl
  ·have:k=0:=by omega
   subst this;refine N _ ?_ c;rw[←n];exact b
theorem Pv{a e:Nat}(v:SA dec M s h d)(D:a<e)(B:e≤d.size){K:Unit→ad→Prop}(y:∀h',SA dec M s h' (reverseRange d a e)→Upd M h h'→K () h'):
  HC PG fQ [.slice s.a s.len s.cap,.int .i64 a,.int .i64 e,tR] [] K h:=by
 refine od s a e tR ?_;unfold jh bT az bF lH ga;have A:=v.small;refine LoopP.ghost (fun(g:Nat×Nat×Array Int) (t:Int×Int) h'=>t.1=(g.1:Int)∧t.2=(g.2.1:Int)∧SA dec M s h' g.2.2∧g.2.2.size=d.size∧reverseLoop g.1 g.2.1 g.2.2=reverseRange d a e∧Upd M h h'∧g.2.1<e) (fun g=>g.2.1-g.1) (a,e-1,d)
  ⟨rfl,by simp only;rw[eJ (by omega)];omega,v,rfl,rfl,Upd.refl _ _,by simp only;omega⟩ ?_
 rintro I ⟨i,j,x⟩ ⟨t1,t2⟩ C ⟨p,o,b,m,c,k,z⟩ w;simp only at p o b m c z;subst p o;refine ax (fun f=>?_) fun n=>?_
 ·have f:i<j:=by have:(i:Int)<(j:Int):=f;omega
  refine b.swap (i:=i) (j:=j) rfl rfl (by omega) (by omega) fun h2 q u=>?_
  refine w (i+1,j-1,swp x i j) _ _ ⟨by simp only;rw[eJ (by omega)];rfl,by simp only;rw[eJ (by omega)];omega,q,by simp[m],?_,k.tr u,by simp only;omega⟩ (by simp only;omega)
  rw[←c];conv=>rhs;rw[reverseLoop]
  rw[if_pos f]
 ·refine y _ ?_ k
  rw[←c,reverseLoop,if_neg (by have n:¬(i:Int)<(j:Int):=n;omega)];exact b
end Go.Proofs
namespace Go.Proofs
open Go Go.Lift Go.Sort
variable {dec:Int→Ch} {M:Nat→Prop} {s:SliceV} {h:ad} {d:Array Int}
theorem FI{T:Int→(Bool→ad→Prop)→ad→Prop}{REST:Int→ad→Prop}{p:Int→Bool}{q t0:Int}{j i0:Nat}(B:t0=(i0:Int))(A:q=(j:Int))(D:j≤1000000000)(x:i0≤1000000000)
  (C:SA dec M s h d)(z:∀(i:Nat) (R:Bool→ad→Prop) (b:ad),SA dec M s b d→i0≤i→i≤j→(∀h2,SA dec M s h2 d→Upd No b h2→R (p d[i]!) h2)→T (i:Int) R b) (m:∀b,SA dec M s b d→Upd No h b→REST ((scanUp p d j i0:Nat):Int) b):
  LoopP (fun(I:Int→ad→Prop) (t:Int) h'=>Join (fun(c:Bool) a=>CondP c (I (IntKind.wrap .i64 (t+1)) a) (REST t a)) (fun J=>CondP (decide (t≤q)) (T t J h') (J false h'))) t0 h:=by
 subst B A;refine LoopP.ghost (fun(i:Nat) (t:Int) h'=>t=(i:Int)∧SA dec M s h' d∧Upd No h h'∧i0≤i∧i≤1000000001∧scanUp p d j i=scanUp p d j i0) (fun i=>j+1-i) i0 ⟨rfl,C,Upd.refl _ _,aj _,by omega,rfl⟩ ?_
 rintro I i t h' ⟨rfl,k,f,hi,y,g⟩ u;refine Join.intro (fun c a=>SA dec M s a d∧Upd No h' a∧(c=true↔i≤j∧p d[i]! =true)) (fun R m=>?_) ?_
 ·refine ax (fun v=>?_) fun w=>m _ _ ⟨k,Upd.refl _ _,by simp;omega⟩
  exact z i _ h' k hi (by omega) fun h2 e o=>m _ _ ⟨e,o,by simp;omega⟩
 ·rintro c a ⟨e,o,hc⟩
  refine CondP.intro (fun b=>?_) fun b=>?_
  ·have n:=hc.1 b
   refine u (i+1) _ _ ⟨by rw[eJ (by omega)];rfl,e,f.tr o,by omega,by omega,?_⟩ (by omega)
   rw[←g];conv=>rhs;rw[scanUp]
   rw[if_pos (by simp[n])]
  ·have:scanUp p d j i=i:=by
    rw[scanUp,if_neg];intro n;simp only[bq,decide_eq_true_iff]at n;rw[hc.2 n]at b;cases b
   rw[←g,this]at m;exact m _ e (f.tr o)
theorem Au{T:Int→(Bool→ad→Prop)→ad→Prop}{REST:Int→ad→Prop}{p:Int→Bool}{v t0:Int}{j0 i:Nat}(C:t0=(j0:Int))(y:v=(i:Int))(E:j0≤1000000000)(A:1≤i)
  (D:SA dec M s h d)(B:∀(j:Nat) (R:Bool→ad→Prop) (b:ad),SA dec M s b d→i≤j→j≤j0→(∀h2,SA dec M s h2 d→Upd No b h2→R (p d[j]!) h2)→T (j:Int) R b) (n:∀b,SA dec M s b d→Upd No h b→REST ((scanDown p d i j0:Nat):Int) b):
  LoopP (fun(I:Int→ad→Prop) (t:Int) h'=>Join (fun(c:Bool) a=>CondP c (I (IntKind.wrap .i64 (t-1)) a) (REST t a)) (fun J=>CondP (decide (v≤t)) (T t J h') (J false h'))) t0 h:=by
 subst C y;refine LoopP.ghost (fun(j:Nat) (t:Int) h'=>t=(j:Int)∧SA dec M s h' d∧Upd No h h'∧j≤j0∧scanDown p d i j=scanDown p d i j0) (fun j=>j) j0 ⟨rfl,D,Upd.refl _ _,aj _,rfl⟩ ?_
 rintro I j t h' ⟨rfl,m,f,u,g⟩ w;refine Join.intro (fun c a=>SA dec M s a d∧Upd No h' a∧(c=true↔i≤j∧p d[j]! =true)) (fun R n=>?_) ?_
 ·refine ax (fun x=>?_) fun z=>n _ _ ⟨m,Upd.refl _ _,by simp;omega⟩
  exact B j _ h' m (by omega) u fun h2 e q=>n _ _ ⟨e,q,by simp;omega⟩
 ·rintro c a ⟨e,q,hc⟩
  refine CondP.intro (fun b=>?_) fun b=>?_
  ·have o:=hc.1 b
   obtain⟨j,rfl⟩:∃k,j=k+1:=⟨j-1,by omega⟩
   refine w j _ _ ⟨by rw[eJ (by omega)];omega,e,f.tr q,by omega,?_⟩ (by omega)
   rw[←g];conv=>rhs;rw[scanDown]
   rw[if_pos (by simp[o])]
  ·have:scanDown p d i j=j:=by
    cases j with
    |zero=>rw[scanDown]
    |succ j=>
     rw[scanDown,if_neg];intro o;simp only[bq,decide_eq_true_iff]at o;rw[hc.2 o]at b;cases b
   rw[←g,this]at n;exact n _ e (f.tr q)
theorem V0{a e m:Nat}(Q:SA dec M s h d)(ha:a≤m)(hp:m<e)(he:e≤d.size){K:Int→ad→Prop}(N:∀h',SA dec M s h' (partitionEqual (mH dec) d a e m).2→Upd M h h'→K ((partitionEqual (mH dec) d a e m).1:Nat) h'):
  HC PG fu [.slice s.a s.len s.cap,.int .i64 a,.int .i64 e,.int .i64 m,tR] [.c (.int .i64)] K h:=by
 refine nm s a e m tR ?_;unfold iA bT az jR bF lH ga nY;have W:=Q.small;refine Q.swap (i:=a) (j:=m) rfl rfl (by omega) (by omega) fun h0 J F=>?_
 refine LoopP.ghost (fun(g:Nat×Nat×Array Int) (t:Int×Int) h'=>t.1=(g.1:Int)∧t.2=(g.2.1:Int)∧SA dec M s h' g.2.2∧g.2.2.size=d.size∧partEqLoop (mH dec) a g.1 g.2.1 g.2.2=partitionEqual (mH dec) d a e m∧Upd M h h'∧g.2.1<e∧a<g.1∧g.1≤1000000000) (fun g=>g.2.1+1-g.1) (a+1,e-1,swp d a m)
  ⟨by simp only;rw[eJ (by omega)];rfl,by simp only;rw[eJ (by omega)];omega,J,by simp,rfl,F,by simp only;omega,by simp,by simp only;omega⟩ ?_
 rintro I ⟨i,j,c⟩ ⟨t1,t2⟩ h1 ⟨A,y,u,w,b,q,V,H,z⟩ S;simp only at A y u w b V H z;subst A y;have Y:=scanUp_ge (fun x=> !(mH dec) c[a]! x) c j i
 rw[partEqLoop_eq]at b;refine FI (d:=c) (p:=fun x=> !(mH dec) c[a]! x) (i0:=i) rfl rfl (by omega) z u (fun k R h' o D B C=>o.less (i:=a) (j:=k) rfl rfl (by omega) (by omega) fun h2 X f G n=>by rw[n];exact C _ f G) fun hA L O=>?_
 generalize scanUp (fun x=> !(mH dec) c[a]! x) c j i=i2 at Y b
 have Z:=scanDown_le (fun x=>(mH dec) c[a]! x) c i2 j
 refine Au (d:=c) (p:=fun x=>(mH dec) c[a]! x) (j0:=j) (i:=i2) rfl rfl (by omega) (by omega) L (fun k R h' o D B C=>o.less (i:=a) (j:=k) rfl rfl (by omega) (by omega) fun h2 X f G n=>by rw[n];exact C _ f G) fun hB v P=>?_
 generalize scanDown (fun x=>(mH dec) c[a]! x) c i2 j=j2 at Z b
 refine ax (fun U=>?_) fun T=>?_
 ·rw[if_pos (by omega)]at b
  rw[←b]at N;exact N _ v (q.tr (O.tr P).wide)
 ·rw[if_neg (by omega)]at b
  refine v.swap (i:=i2) (j:=j2) rfl rfl (by omega) (by omega) fun h2 f E=>?_
  exact S (i2+1,j2-1,swp c i2 j2) _ _ ⟨by simp only;rw[eJ (by omega)];rfl,by simp only;rw[eJ (by omega)];omega,f,by simp[w],b,(q.tr (O.tr P).wide).tr E,by simp only;omega,by simp only;omega,by simp only;omega⟩ (by simp only;omega)
theorem Z4{a e o:Nat}(hs:SA dec M s h d)(ha:a≤o)(hp:o<e)(he:e≤d.size){K:Int×Bool→ad→Prop}
  (Q:∀h',SA dec M s h' (partition (mH dec) d a e o).2.2→Upd M h h'→K (((partition (mH dec) d a e o).1:Nat),(partition (mH dec) d a e o).2.1) h'):
  HC PG gv [.slice s.a s.len s.cap,.int .i64 a,.int .i64 e,.int .i64 o,tR] [.c (.int .i64),.c .bool] K h:=by
 refine pM s a e o tR ?_;unfold jY bT az jR bF lH ga nY;have hsm:=hs.small;refine hs.swap (i:=a) (j:=o) rfl rfl (by omega) (by omega) fun h0 N J=>?_
 have P:(swp d a o).size=d.size:=by simp
 have q:partition (mH dec) d a e o=(let d:=swp d a o
  let i:=scanUp (fun x=>(mH dec) x d[a]!) d (e-1) (a+1)
  let j:=scanDown (fun x=> !(mH dec) x d[a]!) d i (e-1)
  if i>j then(j,true,swp d j a)else
  let r:=partLoop (mH dec) a (i+1) (j-1) (swp d i j)
  (r.1,false,swp r.2 r.1 a)):=rfl
 simp only at q;generalize swp d a o=d0 at N P q;have Z:IntKind.wrap .i64 ((e:Int)-1)=((e-1:Nat):Int):=by rw[eJ (by omega)];omega
 have wa:IntKind.wrap .i64 ((a:Int)+1)=((a+1:Nat):Int):=by rw[eJ (by omega)];rfl
 have g1:=scanUp_ge (fun x=>(mH dec) x d0[a]!) d0 (e-1) (a+1)
 refine FI (d:=d0) (p:=fun x=>(mH dec) x d0[a]!) (j:=e-1) (i0:=a+1) wa Z (by omega) (by omega) N (fun k R h' m y u w=>m.less (i:=k) (j:=a) rfl rfl (by omega) (by omega) fun h2 T b A f=>by rw[f];exact w _ b A) fun hA V X=>?_
 generalize scanUp (fun x=>(mH dec) x d0[a]!) d0 (e-1) (a+1)=i2 at g1 q
 have g2:=scanDown_le (fun x=> !(mH dec) x d0[a]!) d0 i2 (e-1)
 refine Au (d:=d0) (p:=fun x=> !(mH dec) x d0[a]!) (j0:=e-1) (i:=i2) Z rfl (by omega) (by omega) V (fun k R h' m y u w=>m.less (i:=k) (j:=a) rfl rfl (by omega) (by omega) fun h2 T b A f=>by rw[f];exact w _ b A) fun hB E kB=>?_
 generalize scanDown (fun x=> !(mH dec) x d0[a]!) d0 i2 (e-1)=j2 at g2 q
 refine ax (fun S=>?_) fun hle=>?_
 ·rw[if_pos (by omega)]at q
  rw[q]at Q;exact E.swap (i:=j2) (j:=a) rfl rfl (by omega) (by omega) fun h2 b z=>Q h2 b ((J.tr (X.tr kB).wide).tr z)
 ·rw[if_neg (by omega)]at q
  refine E.swap (i:=i2) (j:=j2) rfl rfl (by omega) (by omega) fun h2 b z=>?_
  refine LoopP.ghost (fun(g:Nat×Nat×Array Int) (t:Int×Int) h'=>t.1=(g.1:Int)∧t.2=(g.2.1:Int)∧SA dec M s h' g.2.2∧g.2.2.size=d.size∧partLoop (mH dec) a g.1 g.2.1 g.2.2=partLoop (mH dec) a (i2+1) (j2-1) (swp d0 i2 j2)∧Upd M h h'∧g.2.1<e∧a<g.1∧g.1≤1000000000) (fun g=>g.2.1+1-g.1) (i2+1,j2-1,swp d0 i2 j2)
   ⟨by simp only;rw[eJ (by omega)];rfl,by simp only;rw[eJ (by omega)];omega,b,by simp[P],rfl,(J.tr (X.tr kB).wide).tr z,by simp only;omega,by simp only;omega,by simp only;omega⟩ ?_
  rintro I ⟨i,j,n⟩ ⟨t1,t2⟩ h1 ⟨O,H,D,F,c,C,hj,U,L⟩ hI;simp only at O H D F c hj U L;subst O H;have g3:=scanUp_ge (fun x=>(mH dec) x n[a]!) n j i
  rw[partLoop_eq]at c;refine FI (d:=n) (p:=fun x=>(mH dec) x n[a]!) (i0:=i) rfl rfl (by omega) L D (fun k R h' m y u w=>m.less (i:=k) (j:=a) rfl rfl (by omega) (by omega) fun h2 T b A f=>by rw[f];exact w _ b A) fun hC W Y=>?_
  generalize scanUp (fun x=>(mH dec) x n[a]!) n j i=i3 at g3 c
  have g4:=scanDown_le (fun x=> !(mH dec) x n[a]!) n i3 j
  refine Au (d:=n) (p:=fun x=> !(mH dec) x n[a]!) (j0:=j) (i:=i3) rfl rfl (by omega) (by omega) W (fun k R h' m y u w=>m.less (i:=k) (j:=a) rfl rfl (by omega) (by omega) fun h2 T b A f=>by rw[f];exact w _ b A) fun hD G kD=>?_
  generalize scanDown (fun x=> !(mH dec) x n[a]!) n i3 j=j3 at g4 c
  refine ax (fun S=>?_) fun hle3=>?_
  ·rw[if_pos (by omega)]at c
   rw[q,←c]at Q;exact G.swap (i:=j3) (j:=a) rfl rfl (by omega) (by omega) fun h3 v B=>Q h3 v ((C.tr (Y.tr kD).wide).tr B)
  ·rw[if_neg (by omega)]at c
   refine G.swap (i:=i3) (j:=j3) rfl rfl (by omega) (by omega) fun h3 v B=>?_
   exact hI (i3+1,j3-1,swp n i3 j3) _ _ ⟨by simp only;rw[eJ (by omega)];rfl,by simp only;rw[eJ (by omega)];omega,v,by simp[F],c,(C.tr (Y.tr kD).wide).tr B,by simp only;omega,by simp only;omega,by simp only;omega⟩ (by simp only;omega)
end Go.Proofs
