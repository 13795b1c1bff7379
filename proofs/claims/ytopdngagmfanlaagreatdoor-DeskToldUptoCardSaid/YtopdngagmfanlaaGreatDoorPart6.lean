/- A part of the proof that the named laws of this program answer true, whatever the input. -/
import Derived.Test.YtopdngagmfanlaaGreatDoorPart5
import Derived.Test.YtopdngagmfanlaaGreatDoorPart3
import Derived.Test.YtopdngagmfanlaaGreatDoorPart4
import Derived.Sort.AssemblyPlain
open Array renaming toList_inj→mD
open BitVec renaming ofInt→ao
open Bool renaming and_eq_true→aX
open ByteArray renaming mk→wK
open Go.IntKind renaming wrap→ac,bits→af
open Int renaming toNat_natCast→ai,le_refl→uI
open List renaming length_append→ah,getElem_of_mem→dq,pairwise_iff_getElem→du,getElem_mem→bp,length_eq_zero_iff→bJ,append_cancel_left→gK,set_eq_take_append_cons_drop→dt
open Nat renaming lt_or_ge→co,le_refl→ax,lt_irrefl→jw,lt_of_lt_of_le→aF
open UInt8 renaming toNat_lt→tI
namespace Go.Proofs
open Go Go.Lift
theorem jH(s:ByteArray):s.data.toList.length=s.size:=by simp
theorem Tw(a b:ByteArray):(a++b).data.toList=a.data.toList++b.data.toList:=by rw[ByteArray.data_append,Array.toList_append]
theorem PW{a b:ByteArray}{h:ad}{K:Bool→ad→Prop}(c:K (decide (b.data.toList<+:a.data.toList)) h):HC PG uP [.string a,.string b] [.c .bool] K h:=by
 refine HK a b ?_;unfold zJ kf;refine Di a b ?_;unfold vD kf;refine ka a b ?_;unfold gD;have j:=jH a;have d:=jH b;refine aK (fun g=>?_) fun f=>?_
 ·refine⟨⟨by omega,by omega⟩,?_⟩
  rw[eG,ai];have e:decide (a.extract 0 b.size=b)=decide (b.data.toList<+:a.data.toList):=by
   rw[decide_eq_decide,←tc,Gh,List.prefix_iff_eq_take,d];exact eq_comm
  rw[e];exact c
 ·have e:decide (b.data.toList<+:a.data.toList)=false:=decide_eq_false fun i=>by
   have:=i.length_le;omega
  rw[e]at c;exact c
theorem Ta{a b:ByteArray}{h:ad}{K:ByteArray×Bool→ad→Prop}(d:∀s:ByteArray,a.data.toList=b.data.toList++s.data.toList→K (s,true) h)(i:(∀r,a.data.toList≠b.data.toList++r)→K (⟨#[]⟩,false) h):HC PG wd [.string a,.string b] [.c .str,.c .bool] K h:=by
 refine Ot a b ?_;unfold GS kf;refine PW ?_;have j:=jH a;have f:=jH b;by_cases c:b.data.toList<+:a.data.toList
 ·rw[decide_eq_true c]
  have g:=c.length_le;refine aj.2 ⟨⟨by omega,by omega⟩,?_⟩
  rw[ai];refine d _ ?_;rw[Gi];obtain⟨r,e⟩:=c;rw[←e,←f,List.drop_left]
 ·rw[decide_eq_false c]
  exact aB.2 (i fun r e=>c ⟨r,e.symm⟩)
def XQ(W:Nat→Prop)(h:ad)(r:Option Addr)(o:Option Bn):Prop:=(r=none∧o=none)∨∃b sl m,r=some ⟨b,0,none⟩∧o=some m∧sl.data.toList=m.1∧RxN W h b sl m.2.1 m.2.2
theorem PN{W:Nat→Prop}{h:ad}{b:Nat}{sl:ByteArray}{w:Option ByteArray}{F:Fo}(r:RxN W h b sl w F)(Z:∀y,W y→y<h.size)(hc:jk F)(u:sl.data.toList≠[])(hs1:sl.size≤1000000)(G:∀k v,ud F k v→k.length≤1000000)
  {K:Option Addr→ad→Prop}(Y:∀h' r o,Upd No h h'→U6 (sl.data.toList,w,F) o→XQ W h' r o→K r h'):HC PG oQ [.pointer (some ⟨b,0,none⟩),.pointer none] [.c .ptr] K h:=by
 refine BX _ none ?_;unfold uo bL dE bE cq ce iL iY;have hr:=r;obtain⟨val,s,ow,ks,p,hv,hs,hcap,hF⟩:=r;have hL:=lZ.1 hF;have hn:=yL hc;have c:=hs.len;rw[hL.1]at c;refine Join.intro (fun t h'=>t=decide (w.isSome∨2≤F.toL.length)∧h'=h) (fun R hR=>⟨_,rfl,w.isSome,fQ (i:=1) p,?_⟩) ?_
 ·cases w with
  |some v=>exact aB.2 (hR _ _ ⟨rfl,rfl⟩)
  |none=>
   refine aj.2 ⟨_,rfl,s,fQ (i:=3) p,hR _ _ ⟨?_,rfl⟩⟩;rw[decide_eq_decide];constructor
   ·intro h;exact .inr (by omega)
   ·rintro(h|h)
    ·cases h
    ·omega
 ·rintro t h' ⟨rfl,rfl⟩
  refine aK (fun n=>?_) fun n=>?_
  ·exact Y h' _ _ (Upd.refl _ _) (P7 u hc n) (.inr ⟨b,sl,_,rfl,rfl,rfl,hr⟩)
  ·have P:w=none:=by
    cases w with
    |none=>rfl
    |some v=>exact absurd (.inl rfl) n
   subst P;have H:F.toL.length<2:=by
    rcases co F.toL.length 2 with h|h
    ·exact h
    ·exact absurd (.inr h) n
   refine⟨_,rfl,s,fQ (i:=3) p,?_⟩;match hFL:F.toL,H with
   | [],_=>
    rw[hFL]at c;have e:((s.len:Int)==(0:Int))=true:=by rw[beq_iff_eq,c];rfl
    rw[e];exact aB.2 (Y h' _ _ (Upd.refl _ _) (P8 hFL) (.inl ⟨rfl,rfl⟩))
   | [(lk,wk,Fk)],_=>
    rw[hFL]at c;have e:((s.len:Int)==(0:Int))=false:=by rw[beq_eq_false_iff_ne,c];simp
    rw[e];have f:(lk,wk,Fk)∈F.toL:=by rw[hFL];exact List.mem_singleton.2 rfl
    have T:=(eE.1 hc).2 _ f;have h0:0<F.toL.length:=by rw[hFL];exact Nat.one_pos
    obtain⟨kb,d,J,g,m⟩:=hL.at h0;have e0:F.toL[0]=(lk,wk,Fk):=by simp only[hFL];rfl
    rw[e0]at g m;simp only at g m;obtain⟨a,ha,_,O⟩:=hs.at0 J;obtain⟨q,kss,kow,L,X,I,C,U,z⟩:=m;have S:=lZ.1 z;have D:=yL T.2.2;refine aj.2 ⟨_,rfl,s,fQ (i:=3) p,⟨by omega,by rw[c];simp⟩,a,ha,some ⟨kb,0,none⟩,O,?_⟩
    refine oy X C (by rw[S.1];exact D) fun h1 s1 b1 N A=>?_
    obtain⟨rr,vv,V⟩:=vq hc _ f;have Q:=G (lk++rr) vv (gX.2 ⟨_,f,rr,rfl,V⟩);rw[ah]at Q;have hlkl:lk.length=d.size:=by rw[←g];exact jH d
    refine⟨_,rfl,sl,fQ (i:=0) (A.get0 p),_,rfl,d,fQ (i:=0) b1,by omega,?_⟩
    have hbl:b<h'.size:=bv p;refine vW b1 fun n b2 B=>?_
    have j:Upd No h' n:=A.own B (ax _);have E:=N.upd B fun x hx e=>by have e:x=h'.size:=e;have:=hx.1;omega
    refine Y n _ _ j (Sw u hc hFL) (.inr ⟨h'.size,sl++d,_,rfl,rfl,by rw[←g];exact Tw sl d,⟨q,s1,none,L,b2,I,E.sl (fun x hx _ P=>by have:=Z _ P;have:=hx.1;omega),⟨E.cap,fun hx=>jw _ (Z _ hx)⟩,RxF.upd0 j z⟩⟩)
set_option maxHeartbeats 1000000 in
theorem RV{W:Nat→Prop}:∀(n:Nat) {b:Nat} {sl:ByteArray} {w:Option ByteArray} {F:Fo} {h:ad} (k:ByteArray),k.size<n→RxN W h b sl w F→(∀y,W y→y<h.size)→jk F→(∀j v,ud F j v→j.length≤1000000)→∀{K:(Option Addr)×Bool→ad→Prop},
  (∀h' b' w' F' z,Upd No h h'→RxN W h' b' sl w' F'→jk F'→uG (vz w F) (vz w' F') k.data.toList→(z=false→b'=b∧∀v,¬vz w F k.data.toList v)→(z=true→∃v,vz w F k.data.toList v)→K (some ⟨b',0,none⟩,z) h')→
  HC PG lj [.pointer (some ⟨b,0,none⟩),.pointer none,.string k] [.c .ptr,.c .bool] K h:=by
 intro n;induction n with
 |zero=>intro b sl w F h k hk;omega
 |succ n ih=>
  intro b sl w F h k hkn r hW hc hbd K hk;refine B0 (some ⟨b,0,none⟩) none k ?_;unfold ur bL dE bE cq ci kf zW ce iY Ek K5;have hr:=r;obtain⟨val,s,ow,ks,hb,hv,hs,hcap,hF⟩:=r;have Y:=lZ.1 hF;have hn:=yL hc;have hcan:=eE.1 hc;have t:∀{h':ad},Upd No h h'→(∀v,¬vz w F k.data.toList v)→K (some ⟨b,0,none⟩,false) h':=fun hu C=>hk _ b w F false hu (hr.upd0 hu) hc (Oa C) (fun _=>⟨rfl,C⟩) fun h=>by cases h
  rw[eG];refine aK (fun hk0=>?_) fun hk0=>?_
  ·have hke:k.data.toList= []:=by rw[hk0]
   rw[hke]at hk t;refine⟨_,rfl,w.isSome,fQ (i:=1) hb,?_⟩;cases L:w with
   |none=>
    refine aB.2 (t (Upd.refl _ _) fun v d=>?_)
    rcases d with⟨_,h⟩|h
    ·rw[L]at h;cases h
    ·exact absurd rfl (C2 hc h)
   |some u=>
    refine aj.2 (oy hb hs (by rw[Y.1];exact hn) fun h1 s1 b1 ho1 hu1=>?_)
    refine⟨_,rfl,TP (i:=1) b1 (show 1<5 by decide),Hk (i:=1) (c':=FF sl false val s1 none) b1 rfl fun R b2 o=>?_⟩
    refine⟨_,rfl,TP (i:=2) b2 (show 2<5 by decide),Hk (i:=2) (c':=FF sl false ⟨#[]⟩ s1 none) b2 rfl fun h3 b3 D=>?_⟩
    have E:Upd No h h3:=hu1.own (o.tr D) (ax _);have ho3:=ho1.upd (o.tr D) fun x hx e=>by have e:x=h.size:=e;have:=hx.1;omega
    refine hk h3 h.size none F true E ⟨⟨#[]⟩,s1,none,ks,b3,rfl,ho3.sl (fun x hx _ L=>by have:=hW _ L;have:=hx.1;omega),⟨ho3.cap,fun hx=>jw _ (hW _ hx)⟩,RxF.upd0 E hF⟩ hc (N9 hc) (fun h=>by cases h) fun _=>⟨u,.inl ⟨rfl,L⟩⟩
  ·have p:k.data.toList≠[]:=fun e=>hk0 (by cases k;exact congrArg wK (mD.1 e))
   obtain⟨c0,hc0,hc0e⟩:=JW p;refine⟨c0,uI _,hc0,?_⟩;have hlk:k.data.toList.length=k.size:=jH k;refine CP hr hc (c:=c0.toNat) (tI _) fun i ok hil hlo hhi hok=>?_
   rw[hc0e]at hlo hhi hok;cases ok with
   |false=>
    refine aB.2 (t (Upd.refl _ _) fun v d=>?_)
    rcases d with⟨h,_⟩|d
    ·exact p h
    ·obtain⟨n',hn',e,_⟩:=xE hc d
     obtain⟨j,hj,rfl⟩:=dq hn';rcases co j i with hl|hl
     ·have:=hlo j hj hl;omega
     ·have h1:=hhi j hj hl
      have R:=hhi i (by omega) (ax _);rcases co i j with hl2|hl2
      ·have h3:=du.1 hcan.1 i j (by omega) hj hl2
       omega
      ·have:i=j:=by omega
       subst this;have:=hok.2 ⟨hj,e⟩;cases this
   |true=>
    obtain⟨hi,X⟩:=hok.1 rfl;refine aj.2 ⟨_,rfl,s,fQ (i:=3) hb,?_⟩;obtain⟨kb,ksl,hki,A,G⟩:=Y.at hi;have I:F.toL[i]∈F.toL:=bp hi;have T:=hcan.2 _ I;obtain⟨a,ha,_,hvv⟩:=hs.at0 hki;have hslen:=hs.len;rw[Y.1]at hslen;have hlt1:(i:Int)<((s.len:Nat):Int):=by omega
    refine⟨⟨by simp only;omega,hlt1⟩,a,ha,some ⟨kb,0,none⟩,hvv,_,rfl,?_⟩;obtain⟨kval,kss,kow,kks,hkb,_⟩:=id G;have B:∀v,ud F k.data.toList v→xh F.toL[i] k.data.toList v:=fun v d=>by
     obtain⟨n',hn',e,hN⟩:=xE hc d;rw[←yK hc hn' I (by omega)];exact hN
    have q:∀j v,xh F.toL[i] j v→ud F j v:=fun j v d=>gX.2 ⟨_,I,d⟩
    have g:∀{m:Bn},QS m→hd m.1=hd F.toL[i].1→jk (.ofL (F.toL.set i m)):=fun h1 R=>Pq hc hi h1 R
    have P:∀{m:Bn},uG (xh F.toL[i]) (xh m) k.data.toList→uG (ud F) (ud (.ofL (F.toL.set i m))) k.data.toList:=fun hp=>Qr hc hi X hp
    have O:(∀k' v',xh F.toL[i] k' v'→k'=k.data.toList)→uG (ud F) (ud (.ofL (F.toL.take i++F.toL.drop (i+1)))) k.data.toList:=fun hp=>Qs hc hi X hp
    have hrset:∀{h':ad} {k':Option Addr} {m:Bn},Upd No h h'→Kid W h' k' m→RxL W h' (ks.set i k') (F.toL.set i m):=fun hu hkd=>(Y.upd0 hu).set hi hkd
    generalize F.toL[i]=m at A G T B q g P O X;obtain⟨lab,wk,Fk⟩:=m;simp only at A G T X g;refine⟨ksl,fQ (i:=0) hkb,Ta (fun N f=>?_) fun C=>?_⟩
    ·rw[A]at f
     have hlne:lab.length≠0:=fun e=>T.1 (bJ.1 e)
     have hrl:N.size<k.size:=by
      rw[←jH N,←hlk,f,ah];omega
     refine aj.2 ⟨_,rfl,s,fQ (i:=3) hb,⟨by simp only;omega,hlt1⟩,a,ha,some ⟨kb,0,none⟩,hvv,?_⟩;have hkbd:∀j v,ud Fk j v→j.length≤1000000:=fun j v d=>by
      have:=hbd _ v (q (lab++j) v ⟨j,rfl,.inr d⟩);rw[ah]at this;omega
     refine ih N (by omega) G hW T.2.2 hkbd fun R b2 w2 F2 z o rn2 hc2 hd2 hg0 hg1=>?_
     cases z with
     |false=>
      refine aB.2 (t o fun v d=>?_)
      rcases d with⟨h,_⟩|d
      ·exact p h
      ·obtain⟨r',e,hr'⟩:=B v d
       simp only at e;rw[f]at e;exact(hg0 rfl).2 v (by rw[gK e];exact hr')
     |true=>
      obtain⟨v0,hv0⟩:=hg1 rfl;have H:∃v,vz w F k.data.toList v:=⟨v0,.inr (q _ _ ⟨_,f,hv0⟩)⟩;have hdn:uG (xh (lab,wk,Fk)) (xh (lab,w2,F2)) k.data.toList:=by
       rw[f];exact Ob hd2
      refine aj.2 (oy (o.get0 hb) (hs.upd o fun _ h=>h.elim) (by rw[Y.1];exact hn) fun h3 s3 b3 ho3 D=>?_)
      have E:=o.tr D;obtain⟨rr,vv,d⟩:=vq hc _ I;have hlb:lab.length≤1000000:=by
       have:=hbd _ v0 (q _ _ ⟨_,f,hv0⟩);rw[f,ah]at this;omega
      have hb2:∀j v,ud F2 j v→j.length≤1000000:=fun j v d=>by
       rcases((hd2 j v).1 (.inr d)).2 with⟨e,_⟩|h
       ·rw[e];simp
       ·exact hkbd j v h
      refine PN (W:=Pro W R h3) ((rn2.less Pro.hm).upd0 D) (Pro.lt (fun y hy=>aF (hW y hy) o.size) D) hc2 (by rw[A];exact T.1) (by rw[←jH ksl,A];exact hlb) hb2 fun h4 r4 o4 Z hm4 hr4=>?_
      rw[A]at hm4;have b4:=Z.get0 b3;have ho4:=ho3.upd Z fun _ _ h=>h
      have hu04:=E.tr Z;have hz2:h.size≤R.size:=o.size;have hil:i<ks.length:=by rw[Y.1];exact hi
      have hlen4:=ho4.len;rcases hr4 with⟨rfl,rfl⟩|⟨V,sl4,m4,rfl,rfl,hsl4,rn4⟩
      ·rcases hm4 with⟨_,C⟩|⟨_,e,_⟩
       ·have ew:ac .i64 ((i:Int)+1)=((i+1:Nat):Int):=by rw[lz (by omega)];omega
        refine aB.2 ⟨_,rfl,s3,fQ (i:=3) b4,?_⟩;simp only;rw[ew];refine Oc ho4 hil (by rw[Y.1];omega) fun s5 h5 S J=>?_
        have b5:=J.get b4 fun hx=>by have:=hx.1;omega
        refine⟨_,rfl,TP (i:=3) b5 (show 3<5 by decide),Hk (i:=3) (c':=FF sl w.isSome val s5 none) b5 rfl fun h6 b6 hu6=>?_⟩
        have Q:Upd No h h6:=(hu04.trans J fun x hx=>.inr (by have:=hx.1;omega)).own hu6 hz2
        have ho6:=S.upd hu6 fun x hx e=>by have e:x=R.size:=e;have:=hx.1;omega
        refine hk h6 R.size w _ true Q ⟨val,s5,none,_,b6,hv,ho6.sl (fun x hx _ L=>by have:=hW _ L;have:=hx.1;omega),⟨ho6.cap,fun hx=>by have:=hW _ hx;omega⟩,lZ.2 (by rw[Fo.to_of];exact((Y.upd0 Q).take i).app ((Y.upd0 Q).drop (i+1)))⟩ (UT hc) (Gp p (O fun k' v' hN=>?_)) (fun h=>by cases h) fun _=>H
        refine Classical.byContradiction fun hne=>C k' v' ((hdn k' v').2 ⟨hne,hN⟩)
       ·cases e
      ·rcases hm4 with⟨e,_⟩|⟨m',e,hcn,hhd,hiff⟩
       ·cases e
       ·cases e
        obtain⟨a3,ha3,U,hw3,S,J⟩:=OwnS.setAt ho4 hil (some ⟨V,0,none⟩);refine aj.2 ⟨_,rfl,s3,fQ (i:=3) b4,⟨by simp only;omega,by simp only;omega⟩,a3,ha3,?_⟩
        have hw1:Wr h4 (adr a3 (i*1)):=by
         rcases hw3 with L|⟨b',hb',L⟩
         ·cases L
         ·cases hb';exact L 0 (by simp)
        refine⟨hw1,aY ?_⟩;have b5:=J.get b4 fun e=>by have e:R.size=a3.block:=e;have:=U.1;omega
        have hu45:Upd No R _:=(D.tr Z).trans J fun x hx=>.inr (by have hx:x=a3.block:=hx;have:=U.1;omega)
        have hu05:=o.tr hu45;have eset:ks.set i (some ⟨V,0,none⟩)=ks.take i++some ⟨V,0,none⟩::ks.drop (i+1):=by rw[dt,if_pos hil]
        rw[←eset]at S;have rn5:=(rn4.updM (M:=(· =a3.block)) J fun y hy=>.inl (.inr (by have hy:y=a3.block:=hy;have:=U.1;have:=U.2;omega))).less (W':=W) fun y hy=>.inl (.inl hy)
        exact hk _ R.size w _ true hu05 ⟨val,s3,none,_,b5,hv,S.sl (fun x hx _ L=>by have:=hW _ L;have:=hx.1;omega),⟨S.cap,fun hx=>by have:=hW _ hx;omega⟩,lZ.2 (by rw[Fo.to_of];exact hrset hu05 ⟨V,sl4,rfl,hsl4,rn5⟩)⟩ (g hcn hhd) (Gp p (P fun k' v'=>by rw[hiff k' v'];exact hdn k' v')) (fun h=>by cases h) fun _=>H
    ·rw[A]at C
     refine aB.2 (t (Upd.refl _ _) fun v d=>?_)
     rcases d with⟨h,_⟩|d
     ·exact p h
     ·obtain⟨r',e,_⟩:=B v d
      exact C r' e
end Go.Proofs
namespace Go.Proofs
open Go Go.Lift
theorem PR{w:Option ByteArray}{F:Fo}{l:List Pr}(h:∀k v,(k,v)∈Se w F↔∃p∈l,p.1.data.toList=k∧p.2=v)(a:Fit l):∀j v,ud F j v→j.length≤1000000:=fun j v hi=>by
 obtain⟨p,b,e,_⟩:=(h j v).1 (qB.2 (.inr hi));have:=(a p b).1;rw[←e,jH];omega
theorem Jy{W:Nat→Prop}{h:ad}{b:Nat}{l:List Pr}(t:RadAt W h b l)(D:∀y,W y→y<h.size)(O:Fit l)(k:ByteArray){K:Option Addr×Bool→ad→Prop}
  (Q:∀h' b',Upd No h h'→RadAt W h' b' (oh k l)→(cu l k=false→b'=b)→K (some ⟨b',0,none⟩,cu l k) h'):
  HC PG wn [.pointer none,.pointer (some ⟨b,0,none⟩),.string k] [.c .ptr,.c .bool] K h:=by
 refine Kw none (some ⟨b,0,none⟩) k ?_;unfold Cl Ek;refine CO (.inr ⟨b,rfl,t⟩) D fun R b2 I f u=>?_
 have m:b2=b:=by
  rcases u with e|e
  ·cases e;rfl
  ·cases e
 subst m;obtain⟨w,F,G,P,o⟩:=I.ex;refine RV (k.size+1) k (by omega) G (fun y J=>aF (D y J) f.size) P (PR o O) fun N b3 w' H a n A z B g C=>?_
 have i:∀v,vz w F k.data.toList v↔(k,v)∈l:=fun v=>by
  rw[←qB,o];constructor
  ·rintro⟨p,s,e1,rfl⟩
   rw[←tc.1 e1];exact s
  ·intro s;exact⟨_,s,rfl,rfl⟩
 have x:a=cu l k:=by
  cases a with
  |false=>
   refine(LK fun q d e=>(g rfl).2 q.2 ((i _).2 ?_)).symm
   rw[←e];exact d
  |true=>
   obtain⟨v,E⟩:=C rfl;exact(List.any_eq_true.2 ⟨_,(i v).1 E,decide_eq_true rfl⟩).symm
 subst x;refine Q N b3 (f.tr n) ⟨w',H,A,z,fun j v=>?_⟩ fun L=>(g L).1
 rw[qB,B j v,←qB,o];constructor
 ·rintro⟨c,q,d,rfl,rfl⟩
  exact⟨q,Pb.2 ⟨d,fun e=>c (by rw[e])⟩,rfl,rfl⟩
 ·rintro⟨q,d,rfl,rfl⟩
  obtain⟨d,c⟩:=Pb.1 d;exact⟨fun e=>c (tc.1 e),q,d,rfl,rfl⟩
theorem La{W:Nat→Prop}{x:Hs}{h:ad}{kind:Int}{t:Tr}{l:List Pr}(i:TreeIs W h kind x t l)(hW:∀y,W y→y<h.size)(hr:eH l)(hf:Fit l)(hn:l.length≤1000000)(k:ByteArray)(L:k.size≤256){K:Tr×Int→ad→Prop}
  (I:∀h' j,TreeIs W h' kind x j (oh k l)→(cu l k=false→j=t)→Upd No h h'→K (j,if cu l k then 0 else 4) h'):HC PG mK [PE t,.pointer none,.string k] [.agg [.int .i64,.int .u64,.int .u64,.int .u64,.ptr,.ptr],.c (.int .i64)] K h:=by
 refine yX t none k ?_;unfold rN ar fe ci nv kf rc ae ak pD mc gx xb Ek;refine cx fun d b1 k1=>cx fun s b2 P=>?_
 have z1:=bv b1;have z2:=bv b2;have X:h.size≤d.size:=k1.size;have J:=k1.tr P;refine It (v:=⟨#[]⟩) L (Nat.zero_le 4096) (aj.2 ?_);have c1:=P.get0 b1;refine⟨_,vc c1 0,_,vc c1 1,_,vc c1 2,_,vc c1 3,_,vc c1 4,_,vc c1 5,?_⟩;refine cx fun h3 b3 Z=>?_
 have z3:=bv b3;have s2:d.size≤s.size:=P.size;refine cY (c:=pu CD) (vs:=pu t) b3 rfl fun D Y A=>?_
 have u:Upd No h D:=(J.tr Z).own A (by omega);have F:Upd No s D:=Z.own A (ax _);have s4:h3.size≤D.size:=A.size;have w:=F.get0 c1;have V:=F.get0 b2;have i4:=i.pro u;have C:=Pro.lt hW u;have N:∀{a:ad} {j:Tr},Upd No h a→a[h.size]? =some (.cells (pu j).toArray bW (0,0))→a[d.size]? =some (.cells (pu CD).toArray bW (0,0))→a[s.size]? =some (.cells (pu t).toArray bW (0,0))→TreeIs (Pro W h D) a kind x j (oh k l)→(cu l k=false→j=t)→
   CondP (!cu l k) (∃v41:Int,aC a (adr (aJ s) 0)=some (.int .i64 v41)∧
    ∃v42:Int,aC a (adr (aJ s) 1)=some (.int .u64 v42)∧
    ∃v43:Int,aC a (adr (aJ s) 2)=some (.int .u64 v43)∧
    ∃v44:Int,aC a (adr (aJ s) 3)=some (.int .u64 v44)∧
    ∃v45:Option Addr,aC a (adr (aJ s) 4)=some (.pointer v45)∧
    ∃v46:Option Addr,aC a (adr (aJ s) 5)=some (.pointer v46)∧
    (td a (some (aJ d)) 0 [.int .i64 v41,.int .u64 v42,.int .u64 v43,.int .u64 v44,.pointer v45,.pointer v46]∧
     At (gP a (aJ d) 0 [.int .i64 v41,.int .u64 v42,.int .u64 v43,.int .u64 v44,.pointer v45,.pointer v46]) (fun n=>
      ∃v48:Int,aC n (adr (aJ d) 0)=some (.int .i64 v48)∧
      ∃v49:Int,aC n (adr (aJ d) 1)=some (.int .u64 v49)∧
      ∃v50:Int,aC n (adr (aJ d) 2)=some (.int .u64 v50)∧
      ∃v51:Int,aC n (adr (aJ d) 3)=some (.int .u64 v51)∧
      ∃v52:Option Addr,aC n (adr (aJ d) 4)=some (.pointer v52)∧
      ∃v53:Option Addr,aC n (adr (aJ d) 5)=some (.pointer v53)∧
      K ((v48,v49,v50,v51,v52,v53),4) n))) (
    ∃v54:Int,aC a (adr (aJ h) 0)=some (.int .i64 v54)∧
    ∃v55:Int,aC a (adr (aJ h) 1)=some (.int .u64 v55)∧
    ∃v56:Int,aC a (adr (aJ h) 2)=some (.int .u64 v56)∧
    ∃v57:Int,aC a (adr (aJ h) 3)=some (.int .u64 v57)∧
    ∃v58:Option Addr,aC a (adr (aJ h) 4)=some (.pointer v58)∧
    ∃v59:Option Addr,aC a (adr (aJ h) 5)=some (.pointer v59)∧
    (td a (some (aJ d)) 0 [.int .i64 v54,.int .u64 v55,.int .u64 v56,.int .u64 v57,.pointer v58,.pointer v59]∧
     At (gP a (aJ d) 0 [.int .i64 v54,.int .u64 v55,.int .u64 v56,.int .u64 v57,.pointer v58,.pointer v59]) (fun m=>
      ∃v61:Int,aC m (adr (aJ d) 0)=some (.int .i64 v61)∧
      ∃v62:Int,aC m (adr (aJ d) 1)=some (.int .u64 v62)∧
      ∃v63:Int,aC m (adr (aJ d) 2)=some (.int .u64 v63)∧
      ∃v64:Int,aC m (adr (aJ d) 3)=some (.int .u64 v64)∧
      ∃v65:Option Addr,aC m (adr (aJ d) 4)=some (.pointer v65)∧
      ∃v66:Option Addr,aC m (adr (aJ d) 5)=some (.pointer v66)∧
      K ((v61,v62,v63,v64,v65,v66),0) m))):=fun{a j} G z e1 e2 H f=>by
  cases B:cu l k with
  |false=>
   rw[B]at I f;have S:=f rfl;subst S;refine aB.2 ⟨_,vc e2 0,_,vc e2 1,_,vc e2 2,_,vc e2 3,_,vc e2 4,_,vc e2 5,?_⟩;refine cY (c:=pu CD) (vs:=pu j) e1 rfl fun T o q=>?_
   refine⟨_,vc o 0,_,vc o 1,_,vc o 2,_,vc o 3,_,vc o 4,_,vc o 5,?_⟩;exact I T j ((H.updM q (fun y p=>.inl (.inr (by have p:y=d.size:=p;omega)))).less Pro.sub) (fun _=>rfl) (G.own q X)
  |true=>
   rw[B]at I f;refine aj.2 ⟨_,vc z 0,_,vc z 1,_,vc z 2,_,vc z 3,_,vc z 4,_,vc z 5,?_⟩;refine cY (c:=pu CD) (vs:=pu j) e1 rfl fun T o q=>?_
   refine⟨_,vc o 0,_,vc o 1,_,vc o 2,_,vc o 3,_,vc o 4,_,vc o 5,?_⟩;exact I T j ((H.updM q (fun y p=>.inl (.inr (by have p:y=d.size:=p;omega)))).less Pro.sub) (fun h=>by cases h) (G.own q X)
 refine Join.intro (fun tk a=>tk=cu l k∧Upd No h a∧∃j,a[h.size]? =some (.cells (pu j).toArray bW (0,0))∧a[d.size]? =some (.cells (pu CD).toArray bW (0,0))∧a[s.size]? =some (.cells (pu t).toArray bW (0,0))∧TreeIs (Pro W h D) a kind x j (oh k l)∧(cu l k=false→j=t)) (fun R hR=>?_) ?_
 ·rcases i4 with⟨rfl,b,rfl,Q⟩|⟨rfl,b,rfl,Q⟩
  ·refine⟨_,vc w 0,aj.2 ⟨_,yT w 1 0,_,yT w 1 1,_,yT w 1 2,_,vc w 4,?_⟩⟩
   refine Kg Q C hr hn k fun h5 E e U f=>?_
   refine kI (i:=4) (c':=(pu (0,x.k0,x.k1,x.mask,some ⟨E,0,none⟩,none)).toArray) (e.get0 w) (show 4<6 by decide) rfl fun a O g=>?_
   exact hR _ _ ⟨rfl,(u.tr e).own g (ax _),_,O,g.oth (e.get0 V) (by omega),g.oth (e.get0 Y) (by omega),.inl ⟨rfl,E,rfl,TrieAt.updM g (fun y p=>.inl (.inr (by have p:y=h.size:=p;omega))) U⟩,fun B=>by rw[f B]⟩
  ·refine⟨_,vc w 0,aB.2 ⟨_,vc w 5,?_⟩⟩
   refine Jy Q C hf k fun h5 E e U f=>?_
   refine kI (i:=5) (c':=(pu (1,0,0,0,none,some ⟨E,0,none⟩)).toArray) (e.get0 w) (show 5<6 by decide) rfl fun a O g=>?_
   exact hR _ _ ⟨rfl,(u.tr e).own g (ax _),_,O,g.oth (e.get0 V) (by omega),g.oth (e.get0 Y) (by omega),.inr ⟨rfl,E,rfl,U.updM g (fun y p=>.inl (.inr (by have p:y=h.size:=p;omega)))⟩,fun B=>by rw[f B]⟩
 ·rintro _ a ⟨rfl,G,j,z,e1,e2,H,f⟩
  exact N G z e1 e2 H f
end Go.Proofs
namespace Go.Proofs
open Go Go.Lift
end Go.Proofs
namespace Go.Proofs
open Go Go.Lift
theorem Qc(p:Pr)(l:List Pr)(k:ByteArray):look (p::l) k=if p.1=k then some p.2 else look l k:=by
 unfold look;rw[List.find?_cons];by_cases e:p.1=k
 ·rw[decide_eq_true e,if_pos e];rfl
 ·rw[decide_eq_false e,if_neg e]
theorem LP{k v:ByteArray}:∀{l:List Pr},look l k=some v→(k,v)∈l
 | [],h=>by cases h
 |p::l,h=>by
  rw[Qc]at h;by_cases e:p.1=k
  ·rw[if_pos e]at h;cases h;rw[←e];exact List.mem_cons_self ..
  ·rw[if_neg e]at h;exact List.mem_cons_of_mem _ (LP h)
def vY(c:Ch):Bool:=(!((!c.2.2.2.1&& !c.2.2.2.2)||(c.2.2.2.1&&(c.2.2.2.2&&decide (c.2.1=c.2.2.1)))))&&((c.2.2.2.1||decide (c.2.1=⟨#[]⟩))&&(c.2.2.2.2||decide (c.2.2.1=⟨#[]⟩)))
def Wk(a b:Ch):Ch:=(a.1,a.2.1,b.2.2.1,a.2.2.2.1,b.2.2.2.2)
def LN(a b:Ch):Bool:=a.2.2.2.2==b.2.2.2.1&&decide (a.2.2.1=b.2.1)
def one(c:Ch):Option Ch:=if vY c then some c else none
end Go.Proofs
namespace Go.Proofs
open Go Go.Lift
end Go.Proofs
namespace Go.Proofs
open Go Go.Lift
theorem RZ(k o n:ByteArray):vY (k,o,n,false,true)=decide (o=⟨#[]⟩):=by simp[vY]
theorem RY(k o n:ByteArray):vY (k,o,n,true,false)=decide (n=⟨#[]⟩):=by simp[vY]
theorem RX(k o n:ByteArray):vY (k,o,n,true,true)= !decide (o=n):=by simp[vY]
theorem Og{c:Ch}{h:ad}{K:Bool→ad→Prop}(a:∀h',Upd No h h'→K (vY c) h'):HC PG mN [.agg #[.string c.1,.string c.2.1,.string c.2.2.1,.bool c.2.2.2.1,.bool c.2.2.2.2]] [.c .bool] K h:=by
 refine zd c ?_;unfold rT aq bc VP;refine cx fun b b1 k1=>?_
 obtain⟨k,o,n,w,i⟩:=c;have a:=a b k1;refine Join.plain ?_;cases w<;>cases i
 ·exact⟨false,vc b1 3,aB.2 ⟨false,vc b1 4,aB.2 (aB.2 a)⟩⟩
 ·rw[RZ]at a
  refine⟨false,vc b1 3,aB.2 ⟨true,vc b1 4,aj.2 ⟨false,vc b1 3,aj.2 (aj.2 ⟨false,vc b1 3,aj.2 ⟨o,vc b1 1,?_⟩⟩)⟩⟩⟩;rw[eG];cases e:decide (o=⟨#[]⟩)with
  |true=>rw[e]at a;exact aB.2 ⟨true,vc b1 4,aB.2 a⟩
  |false=>rw[e]at a;exact aj.2 a
 ·rw[RY]at a
  refine⟨true,vc b1 3,aj.2 ⟨true,vc b1 3,aB.2 ⟨false,vc b1 4,aj.2 (aj.2 ⟨true,vc b1 3,aB.2 ⟨false,vc b1 4,aj.2 ⟨n,vc b1 2,?_⟩⟩⟩)⟩⟩⟩;rw[eG];exact a
 ·rw[RX]at a
  refine⟨true,vc b1 3,aj.2 ⟨true,vc b1 3,aB.2 ⟨true,vc b1 4,aB.2 ⟨o,vc b1 1,n,vc b1 2,?_⟩⟩⟩⟩;rw[eG];cases e:decide (o=n)with
  |true=>rw[e]at a;exact aB.2 a
  |false=>rw[e]at a;exact aj.2 ⟨true,vc b1 3,aB.2 ⟨true,vc b1 4,aB.2 a⟩⟩
end Go.Proofs
namespace Go.Proofs
open Go Go.Lift
end Go.Proofs
namespace Go.Proofs
open Go Go.Lift
abbrev Yi(h h':ad)(s:SliceV)(O:List Ch):Prop:=OwnS zD 5 bX (fun y=>h.size≤y) h' s O
set_option maxRecDepth 100000 in
theorem joinTail{h g:ad}{d:SliceV×SliceV×SliceV}{O:List Ch}{a b:Ch}{s pb:Nat}{Z:SliceV×SliceV×SliceV→ad→Prop}{K:SliceV×Int→ad→Prop}
  (u:g[s]? =some (.cells (zD a).toArray bX (0,0))) (N:g[pb]? =some (.cells (zD b).toArray bX (0,0))) (ho:Yi h g d.2.2 O) (hO:O.length≤1000000) (X:Upd No h g) (h1:1≤d.1.len) (h2:1≤d.2.1.len)
  (hc:LN a b=false→K (⟨none,0,0⟩,8) g)
  (V:LN a b=true→∀s' h',Yi h h' s' (O++(one (Wk a b)).toList)→Upd No h h'→Z (⟨aN d.1.a 1 d.1.cap 5,d.1.len-1,d.1.cap-1⟩,⟨aN d.2.1.a 1 d.2.1.cap 5,d.2.1.len-1,d.2.1.cap-1⟩,s') h'):
  Join (fun(T:Bool) f=>
  CondP T (
  K (⟨none,0,0⟩,8) f) (
  ∃v78:ByteArray,aC f (adr ⟨s,0,none⟩ 0)=some (.string v78)∧
  ∃v79:ByteArray,aC f (adr ⟨s,0,none⟩ 1)=some (.string v79)∧
  ∃v80:ByteArray,aC f (adr ⟨pb,0,none⟩ 2)=some (.string v80)∧
  ∃v81:Bool,aC f (adr ⟨s,0,none⟩ 3)=some (.bool v81)∧
  ∃v82:Bool,aC f (adr ⟨pb,0,none⟩ 4)=some (.bool v82)∧
  At (hnew f [.string (⟨#[]⟩:ByteArray),.string (⟨#[]⟩:ByteArray),.string (⟨#[]⟩:ByteArray),.bool false,.bool false] bX) (fun v=>
  (td v (some (aJ f)) 0 [.string v78,.string v79,.string v80,.bool v81,.bool v82]∧
  At (gP v (aJ f) 0 [.string v78,.string v79,.string v80,.bool v81,.bool v82]) (fun j=>
  Join (fun(A:SliceV) C=>
  (((0:Int)≤(1:Int)∧(1:Int)≤((d.1.len:Nat):Int))∧
  Bd (aN d.1.a ((1:Int).toNat) d.1.cap 5:Option Addr) (fun L=>Bd (d.1.len-((1:Int).toNat):Nat) (fun z=>Bd (d.1.cap-((1:Int).toNat):Nat) (fun J=>
  (((0:Int)≤(1:Int)∧(1:Int)≤((d.2.1.len:Nat):Int))∧
  Bd (aN d.2.1.a ((1:Int).toNat) d.2.1.cap 5:Option Addr) (fun B=>Bd (d.2.1.len-((1:Int).toNat):Nat) (fun F=>Bd (d.2.1.cap-((1:Int).toNat):Nat) (fun I=>
  Z (⟨L,z,J⟩,⟨B,F,I⟩,A) C))))))))) (fun G=>
  ∃v86:ByteArray,aC j (adr (aJ f) 0)=some (.string v86)∧
  ∃v87:ByteArray,aC j (adr (aJ f) 1)=some (.string v87)∧
  ∃v88:ByteArray,aC j (adr (aJ f) 2)=some (.string v88)∧
  ∃v89:Bool,aC j (adr (aJ f) 3)=some (.bool v89)∧
  ∃v90:Bool,aC j (adr (aJ f) 4)=some (.bool v90)∧
  HC PG mN [.agg #[.string v86,.string v87,.string v88,.bool v89,.bool v90]] [.c .bool] (fun(W:Bool) i=>
  CondP W (
  ∃v93:ByteArray,aC i (adr (aJ f) 0)=some (.string v93)∧
  ∃v94:ByteArray,aC i (adr (aJ f) 1)=some (.string v94)∧
  ∃v95:ByteArray,aC i (adr (aJ f) 2)=some (.string v95)∧
  ∃v96:Bool,aC i (adr (aJ f) 3)=some (.bool v96)∧
  ∃v97:Bool,aC i (adr (aJ f) 4)=some (.bool v97)∧
  At (hnew i [.string v93,.string v94,.string v95,.bool v96,.bool v97] bX) (fun E=>
  ∃xs99,SRow E (some (aJ i)) (1*5) xs99∧
  AppP (some [.string (⟨#[]⟩:ByteArray),.string (⟨#[]⟩:ByteArray),.string (⟨#[]⟩:ByteArray),.bool false,.bool false]) 5 56 bX d.2.2.a d.2.2.len d.2.2.cap 1 xs99 E (fun D x=>
  G D x))) (
  G d.2.2 i)) j)))))) (fun w=>
  ∃v72:Bool,aC g (adr ⟨s,0,none⟩ 4)=some (.bool v72)∧
  ∃v73:Bool,aC g (adr ⟨pb,0,none⟩ 3)=some (.bool v73)∧
  CondP (!(v72==v73)) (
  w true g) (
  ∃v74:ByteArray,aC g (adr ⟨s,0,none⟩ 2)=some (.string v74)∧
  ∃v75:ByteArray,aC g (adr ⟨pb,0,none⟩ 1)=some (.string v75)∧
  w (!(v74.toList==v75.toList)) g)):=by
 have hm:LN a b=(a.2.2.2.2==b.2.2.2.1&&decide (a.2.2.1=b.2.1)):=rfl;refine Join.intro (fun t f=>t=(!LN a b)∧f=g) (fun R n=>?_) ?_
 ·refine⟨_,vc u 4,_,vc N 3,?_⟩
  rw[hm]at n;cases e:(a.2.2.2.2==b.2.2.2.1)with
  |false=>rw[e]at n;exact aB.2 (n _ _ ⟨rfl,rfl⟩)
  |true=>rw[e]at n;exact aj.2 ⟨_,vc u 2,_,vc N 1,n _ _ ⟨by rw[eG];rfl,rfl⟩⟩
 rintro t f ⟨rfl,rfl⟩;cases hme:LN a b with
 |false=>exact aB.2 (hc hme)
 |true=>
  have V:=V hme;refine aj.2 ⟨_,vc u 0,_,vc u 1,_,vc N 2,_,vc u 3,_,vc N 4,?_⟩;refine WT (c:=Wk a b) fun j k H=>?_
  have U:=X.tr H;have s77:=X.size;refine Join.intro (fun s' h'=>Yi h h' s' (O++(one (Wk a b)).toList)∧Upd No h h') (fun R n=>?_) ?_
  ·refine⟨_,vc k 0,_,vc k 1,_,vc k 2,_,vc k 3,_,vc k 4,?_⟩
   refine Og (c:=Wk a b) fun i q=>?_
   have m:=q.get0 k;have p:=U.tr q;have o:=ho.upd (H.tr q) fun _ _ h=>h
   unfold one at n;cases er:vY (Wk a b)with
   |false=>
    rw[er]at n;refine aj.2 (n _ _ ⟨?_,p⟩);rw[if_neg Bool.false_ne_true,Option.toList_none,List.append_nil];exact o
   |true=>
    rw[er]at n;refine aB.2 ⟨_,vc m 0,_,vc m 1,_,vc m 2,_,vc m 3,_,vc m 4,?_⟩;have s92:=p.size;refine Tv (c:=Wk a b) o (fun y Y=>by omega) (by omega) fun s3 h3 Q P=>n _ _ ⟨Q,p.trans P fun y Y=>.inr Y⟩
  ·rintro s' h' ⟨S,u'⟩
   exact⟨⟨by omega,by omega⟩,⟨by omega,by omega⟩,V s' h' S u'⟩
end Go.Proofs
namespace Go.Proofs
open Go Go.Lift
end Go.Proofs
namespace Go.Proofs
open Go Go.Lift
end Go.Proofs
namespace Go.Proofs
open Go Go.Lift
end Go.Proofs
namespace Go.Proofs
open Go Go.Lift
end Go.Proofs
namespace Go.Proofs
open Go Go.Lift
def WI(o:Option ByteArray):Sd:=(o.getD ⟨#[]⟩,o.isSome)
def WF(b o t:Option ByteArray)(p:Int):Option ByteArray×Bool:=if o=t∨t=b then(o,true)else if o=b then(t,true)else if p=1 then(o,false)else if p=2 then(t,false)else(b,false)
def Uh(L:List Pr)(k:ByteArray):Option ByteArray→List Pr
 |some v=>jA (k,v) L
 |none=>oh k L
def tk(B O T:List Pr)(p:Int)(k:ByteArray):Option ByteArray×Bool:=WF (look B k) (look O k) (look T k) p
abbrev Cf:=ByteArray×Sd×Sd×Sd
end Go.Proofs
namespace Go.Proofs
open Go Go.Lift Go.Sort
abbrev Tc:Value:=.func (.func xT) #[] #[]
def CZ(dec:Int→Ch)(i j:Int):Bool:=XU (dec i) (dec j)
structure SA(dec:Int→Ch)(M:Nat→Prop)(s:SliceV)(h:ad)(d:Array Int):Prop where
 own:OwnS zD 5 bX M h s (d.toList.map dec)
 small:d.size≤1000000000
 lt:∀b,M b→b<h.size
variable {dec:Int→Ch} {M:Nat→Prop} {s:SliceV} {h:ad} {d:Array Int}
theorem SA.len(a:SA dec M s h d):s.len=d.size:=by have:=a.own.len;simpa using this
theorem SA.upd0{h':ad}(a:SA dec M s h d)(k:Upd No h h'):SA dec M s h' d:=⟨a.own.upd k fun _ _ h=>h,a.small,fun b c=>aF (a.lt b c) k.size⟩
theorem SA.at(e:SA dec M s h d){i:Nat}(hi:i<d.size):∃a,s.a=some a∧∀j v,(zD (dec d[i]!))[j]? =some v→aC h (adr (adr a (((i:Int)).toNat*5)) j)=some v:=by
 have hx:(d.toList.map dec)[i]? =some (dec d[i]!):=by
  rw[List.getElem?_map,Array.getElem?_toList,Array.getElem?_eq_getElem hi,getElem!_pos d i hi];rfl
 obtain⟨a,b,_,c⟩:=(e.own.sl (W:=No) fun _ _ _ h=>h).at hx
 exact⟨a,b,by simpa using c⟩
theorem SA.rd(c:SA dec M s h d){t:Int}{i:Nat}(e:t=(i:Int))(hi:i<d.size){R:ByteArray→ByteArray→ByteArray→Bool→Bool→Prop}(g:R (dec d[i]!).1 (dec d[i]!).2.1 (dec d[i]!).2.2.1 (dec d[i]!).2.2.2.1 (dec d[i]!).2.2.2.2):
  ((0:Int)≤t∧t<((s.len:Nat):Int))∧∃a:Addr,s.a=some a∧∃v1:ByteArray,aC h (adr (adr a (t.toNat*5)) 0)=some (.string v1)∧∃v2:ByteArray,aC h (adr (adr a (t.toNat*5)) 1)=some (.string v2)∧∃v3:ByteArray,aC h (adr (adr a (t.toNat*5)) 2)=some (.string v3)∧∃v4:Bool,aC h (adr (adr a (t.toNat*5)) 3)=some (.bool v4)∧∃v5:Bool,aC h (adr (adr a (t.toNat*5)) 4)=some (.bool v5)∧R v1 v2 v3 v4 v5:=by
 subst e;obtain⟨a,f,b⟩:=c.at hi;exact⟨by rw[c.len];omega,a,f,_,b 0 _ rfl,_,b 1 _ rfl,_,b 2 _ rfl,_,b 3 _ rfl,_,b 4 _ rfl,g⟩
theorem SA.st(e:SA dec M s h d){t:Int}{i:Nat}{x:Int}(j:t=(i:Int))(hi:i<d.size){R:ad→Prop}(p:∀h',SA dec M s h' (d.setIfInBounds i x)→Upd M h h'→R h'):
  ((0:Int)≤t∧t<((s.len:Nat):Int))∧∃a:Addr,s.a=some a∧(td h (some (adr a (t.toNat*5))) 0 [.string (dec x).1,.string (dec x).2.1,.string (dec x).2.2.1,.bool (dec x).2.2.2.1,.bool (dec x).2.2.2.2]∧At (gP h (adr a (t.toNat*5)) 0 [.string (dec x).1,.string (dec x).2.1,.string (dec x).2.2.1,.bool (dec x).2.2.2.1,.bool (dec x).2.2.2.2]) R):=by
 subst j;obtain⟨a,n,hM,m,o,g⟩:=OwnS.setAt e.own (k:=i) (by simpa using hi) (dec x);refine⟨by rw[e.len];omega,a,n,?_⟩;rw[ai];have f:Upd M h _:=g.mono fun b c=>.inl (by have c:b=a.block:=c;rw[c];exact hM)
 refine⟨m,aY (p _ ⟨?_,by simpa using e.small,fun b c=>aF (e.lt b c) g.size⟩ f)⟩
 rw[show(d.setIfInBounds i x).toList.map dec=(d.toList.map dec).take i++dec x::(d.toList.map dec).drop (i+1) by
  rw[Array.toList_setIfInBounds,List.map_set,dt,if_pos (by simpa using hi)]]
 exact o
@[simp] theorem WH(d:Array Int)(i j:Nat):(swp d i j).size=d.size:=by simp[swp]
theorem SA.swap(g:SA dec M s h d){b c:Int}{i j:Nat}(n:b=(i:Int))(o:c=(j:Int))(hi:i<d.size)(m:j<d.size){R:ad→Prop}(q:∀h',SA dec M s h' (swp d i j)→Upd M h h'→R h'):
  ((0:Int)≤c∧c<((s.len:Nat):Int))∧∃a:Addr,s.a=some a∧∃v1:ByteArray,aC h (adr (adr a (c.toNat*5)) 0)=some (.string v1)∧∃v2:ByteArray,aC h (adr (adr a (c.toNat*5)) 1)=some (.string v2)∧∃v3:ByteArray,aC h (adr (adr a (c.toNat*5)) 2)=some (.string v3)∧∃v4:Bool,aC h (adr (adr a (c.toNat*5)) 3)=some (.bool v4)∧∃v5:Bool,aC h (adr (adr a (c.toNat*5)) 4)=some (.bool v5)∧
   (((0:Int)≤b∧b<((s.len:Nat):Int))∧∃a:Addr,s.a=some a∧∃w1:ByteArray,aC h (adr (adr a (b.toNat*5)) 0)=some (.string w1)∧∃w2:ByteArray,aC h (adr (adr a (b.toNat*5)) 1)=some (.string w2)∧∃w3:ByteArray,aC h (adr (adr a (b.toNat*5)) 2)=some (.string w3)∧∃w4:Bool,aC h (adr (adr a (b.toNat*5)) 3)=some (.bool w4)∧∃w5:Bool,aC h (adr (adr a (b.toNat*5)) 4)=some (.bool w5)∧
    (((0:Int)≤b∧b<((s.len:Nat):Int))∧∃a:Addr,s.a=some a∧(td h (some (adr a (b.toNat*5))) 0 [.string v1,.string v2,.string v3,.bool v4,.bool v5]∧At (gP h (adr a (b.toNat*5)) 0 [.string v1,.string v2,.string v3,.bool v4,.bool v5]) (fun f=>
     (((0:Int)≤c∧c<((s.len:Nat):Int))∧∃a:Addr,s.a=some a∧(td f (some (adr a (c.toNat*5))) 0 [.string w1,.string w2,.string w3,.bool w4,.bool w5]∧At (gP f (adr a (c.toNat*5)) 0 [.string w1,.string w2,.string w3,.bool w4,.bool w5]) R)))))):=by
 refine g.rd o m (g.rd n hi (g.st (x:=d[j]!) n hi fun f k k1=>k.st (x:=d[i]!) o (by simpa using m) fun t e p=>q t e (k1.tr p)))
theorem SA.less(f:SA dec M s h d){b c:Int}{i j:Nat}(n:b=(i:Int))(o:c=(j:Int))(hi:i<d.size)(m:j<d.size){R:Int→ad→Prop}(p:∀h' e,SA dec M s h' d→Upd No h h'→decide (e<0)=CZ dec d[i]! d[j]!→R e h'):
  ((0:Int)≤b∧b<((s.len:Nat):Int))∧∃a:Addr,s.a=some a∧∃v1:ByteArray,aC h (adr (adr a (b.toNat*5)) 0)=some (.string v1)∧∃v2:ByteArray,aC h (adr (adr a (b.toNat*5)) 1)=some (.string v2)∧∃v3:ByteArray,aC h (adr (adr a (b.toNat*5)) 2)=some (.string v3)∧∃v4:Bool,aC h (adr (adr a (b.toNat*5)) 3)=some (.bool v4)∧∃v5:Bool,aC h (adr (adr a (b.toNat*5)) 4)=some (.bool v5)∧
   (((0:Int)≤c∧c<((s.len:Nat):Int))∧∃a:Addr,s.a=some a∧∃w1:ByteArray,aC h (adr (adr a (c.toNat*5)) 0)=some (.string w1)∧∃w2:ByteArray,aC h (adr (adr a (c.toNat*5)) 1)=some (.string w2)∧∃w3:ByteArray,aC h (adr (adr a (c.toNat*5)) 2)=some (.string w3)∧∃w4:Bool,aC h (adr (adr a (c.toNat*5)) 3)=some (.bool w4)∧∃w5:Bool,aC h (adr (adr a (c.toNat*5)) 4)=some (.bool w5)∧
    HV PG Tc [.agg #[.string v1,.string v2,.string v3,.bool v4,.bool v5],.agg #[.string w1,.string w2,.string w3,.bool w4,.bool w5]] [.c (.int .i64)] R h):=
 f.rd n hi (f.rd o m ((Xe M).call (dec d[i]!) (dec d[j]!) trivial fun h' e k g=>p h' e (f.upd0 k) k g))
end Go.Proofs
namespace Go.Proofs
open Go Go.Lift Go.Sort
variable {dec:Int→Ch} {M:Nat→Prop} {s:SliceV} {h:ad} {d:Array Int}
@[simp] theorem TN(lt:Int→Int→Bool)(hi first a:Nat)(d:Array Int):(siftDown lt hi first a d).size=d.size:=by
 fun_induction siftDown lt hi first a d<;>simp_all
@[simp] theorem F6(lt:Int→Int→Bool)(hi first:Nat):∀(k:Nat) (d:Array Int),(heapBuild lt hi first k d).size=d.size
 |0,d=>rfl
 |k+1,d=>by rw[heapBuild,F6 lt hi first k];simp
theorem Vc{a hi first:Nat}(N:SA dec M s h d)(hb:first+hi≤d.size){K:Unit→ad→Prop}(O:∀h',SA dec M s h' (siftDown (CZ dec) hi first a d)→Upd M h h'→K () h')(V:a≤1000000000):
  HC PG gS [.slice s.a s.len s.cap,.int .i64 a,.int .i64 hi,.int .i64 first,Tc] [] K h:=by
 refine mP s a hi first Tc ?_
 unfold gT bL dE bE cq AZ Bq OV Ej;have P:=N.small;refine LoopP.ghost (fun(g:Nat×Array Int) (t:Int) h'=>t=(g.1:Int)∧SA dec M s h' g.2∧g.2.size=d.size∧siftDown (CZ dec) hi first g.1 g.2=siftDown (CZ dec) hi first a d∧Upd M h h'∧g.1≤1000000000) (fun g=>hi-g.1) (a,d)
  ⟨rfl,N,rfl,rfl,Upd.refl _ _,V⟩ ?_
 rintro I ⟨i,b⟩ t J ⟨H,n,y,m,w,E⟩ S;simp only at H n y m E;subst H;have Q:ac .i64 (ac .i64 (2*(i:Int))+1)=((2*i+1:Nat):Int):=by rw[lz (x:=2*(i:Int)) (by omega),lz (by omega)];omega
 have L:ac .i64 (((2*i+1:Nat):Int)+1)=((2*i+2:Nat):Int):=by rw[lz (by omega)];omega
 rw[Q];refine aK (fun T=>?_) fun B=>?_
 ·refine O _ ?_ w
  rw[←m,siftDown,dif_pos (by omega)];exact n
 ·have B:2*i+1<hi:=by omega
  refine Join.intro (fun t h'=>SA dec M s h' b∧Upd No J h'∧∃c:Nat,t=(c:Int)∧c=if 2*i+2<hi∧(CZ dec) b[first+(2*i+1)]! b[first+(2*i+1)+1]! =true then 2*i+2 else 2*i+1) (fun R G=>?_) ?_
  ·refine Join.intro (fun t h'=>SA dec M s h' b∧Upd No J h'∧(t=true↔2*i+2<hi∧(CZ dec) b[first+(2*i+1)]! b[first+(2*i+1)+1]! =true)) (fun R2 v=>?_) ?_
   ·show CondP (decide (ac .i64 (((2*i+1:Nat):Int)+1)<(hi:Int))) _ _
    rw[L];refine aK (fun k=>?_) fun k=>v _ _ ⟨n,Upd.refl _ _,by simp;omega⟩
    show(((0:Int)≤ac .i64 ((first:Int)+((2*i+1:Nat):Int))∧_)∧_)
    refine n.less (i:=first+(2*i+1)) (j:=first+(2*i+1)+1) (by rw[lz (by omega)];omega) (by rw[lz (x:=(first:Int)+_) (by omega),lz (by omega)];omega) (by omega) (by omega) fun Z e4 e o F=>v _ _ ⟨e,o,?_⟩
    rw[F];simp;omega
   ·rintro t h' ⟨e,o,p⟩
    refine CondP.intro (fun k=>?_) fun k=>?_
    ·show R (ac .i64 (((2*i+1:Nat):Int)+1)) _
     rw[L];exact G _ _ ⟨e,o,_,rfl,by rw[if_pos (p.1 k)]⟩
    ·exact G _ _ ⟨e,o,_,rfl,by rw[if_neg fun X=>by rw[p.2 X]at k;cases k]⟩
  ·rintro t h' ⟨e,o,c,rfl,hc⟩
   have U:c<hi∧i<c:=by rw[hc];split<;>omega
   refine e.less (i:=first+i) (j:=first+c) (by rw[lz (by omega)];omega) (by rw[lz (by omega)];omega) (by omega) (by omega) fun Y e5 q W A=>?_
   have u:=w.tr (o.tr W).wide;rw[A];have f:siftDown (CZ dec) hi first i b=if !(CZ dec) b[first+i]! b[first+c]! then b else siftDown (CZ dec) hi first c (swp b (first+i) (first+c)):=by
    rw[siftDown,dif_neg (by omega)];by_cases z:2*i+2<hi∧(CZ dec) b[first+(2*i+1)]! b[first+(2*i+1)+1]! =true
    ·rw[if_pos (by simp only[aX,decide_eq_true_iff];exact z),dif_pos z.1]
     rw[if_pos z]at hc;rw[hc]
    ·rw[if_neg (by simp only[aX,decide_eq_true_iff];exact z)]
     rw[if_neg z]at hc;rw[hc]
   refine CondP.intro (fun k=>?_) fun k=>?_
   ·refine O _ ?_ u
    rw[←m,f,if_pos k];exact q
   ·refine q.swap (i:=first+i) (j:=first+c) (by rw[lz (by omega)];omega) (by rw[lz (by omega)];omega) (by omega) (by omega) fun h6 D C=>?_
    refine S (c,swp b (first+i) (first+c)) _ _ ⟨rfl,D,by simp[y],?_,u.tr C,by simp only;omega⟩ (by simp only;omega)
    rw[←m,f,if_neg (by rw[k];simp)]
end Go.Proofs
namespace Go.Proofs
open Go Go.Lift Go.Sort
variable {dec:Int→Ch} {M:Nat→Prop} {s:SliceV} {h:ad} {d:Array Int}
end Go.Proofs
namespace Go.Proofs
open Go Go.Lift Go.Sort
variable {dec:Int→Ch} {M:Nat→Prop} {s:SliceV} {h:ad} {d:Array Int}
@[simp] theorem FA(lt:Int→Int→Bool):∀(j:Nat) (d:Array Int),(shiftDown lt j d).size=d.size
 |0,d=>rfl
 |j+1,d=>by rw[shiftDown];split;rfl;rw[FA lt j];simp
@[simp] theorem Ug(lt:Int→Int→Bool)(e j:Nat)(d:Array Int):(shiftUp lt e j d).size=d.size:=by
 fun_induction shiftUp lt e j d<;>simp_all
theorem TQ{a e:Nat}(hs:SA dec M s h d)(ha:a<e)(he:e≤d.size){K:Bool→ad→Prop}(Q:∀h',SA dec M s h' (partialInsertionSort (CZ dec) d a e).1→Upd M h h'→K (partialInsertionSort (CZ dec) d a e).2 h'):
  HC PG eS [.slice s.a s.len s.cap,.int .i64 a,.int .i64 e,Tc] [.c .bool] K h:=by
 refine iQ s a e Tc ?_;unfold eT bL dE bE cq AZ Bq OV Ej;have hsm:=hs.small;refine LoopP.ghost (fun(g:Nat×Nat×Array Int) (t:Int×Int) h'=>t.1=(g.2.1:Int)∧t.2=5-(g.1:Int)∧SA dec M s h' g.2.2∧g.2.2.size=d.size∧partialIns (CZ dec) a e g.1 g.2.1 g.2.2=partialInsertionSort (CZ dec) d a e∧Upd M h h'∧g.1≤5∧a<g.2.1∧g.2.1≤e) (fun g=>g.1) (5,a+1,d)
  ⟨by simp only;rw[lz (by omega)];rfl,by simp only;omega,hs,rfl,rfl,Upd.refl _ _,by simp,by simp,by simp only;omega⟩ ?_
 rintro I ⟨st,i0,A⟩ ⟨t1,t2⟩ h1 ⟨U,ht2,G,hz1,x,hu1,hst,hai,X⟩ hI;simp only at U ht2 G hz1 x hst hai X;subst U ht2;refine aK (fun hlt=>?_) fun hge=>?_
 ·obtain⟨st,rfl⟩:∃k,st=k+1:=⟨st-1,by have:5-(st:Int)<5:=hlt;omega⟩
  refine Join.intro (fun t h'=>∃S d2,t=(S:Nat)∧SA dec M s h' d2∧d2.size=d.size∧partialIns (CZ dec) a e st S d2=partialInsertionSort (CZ dec) d a e∧Upd M h h'∧a<S∧S≤e) (fun R hR=>?_) ?_
  ·refine LoopP.ghost (fun(i:Nat) (t:Int) h'=>t=(i:Int)∧SA dec M s h' A∧Upd No h1 h'∧scanSorted (CZ dec) A e i=scanSorted (CZ dec) A e i0∧a<i∧i≤e) (fun i=>e-i) i0 ⟨rfl,G,Upd.refl _ _,rfl,hai,X⟩ ?_
   rintro I2 i t h' ⟨rfl,v,k2,hsc,m,f⟩ hI2;refine Join.intro (fun c D=>SA dec M s D A∧Upd No h' D∧(c=true↔i<e∧(CZ dec) A[i]! A[i-1]! =false)) (fun R2 Z=>?_) ?_
   ·refine aK (fun hle=>?_) fun hgt=>Z _ _ ⟨v,Upd.refl _ _,by simp;omega⟩
    exact v.less (i:=i) (j:=i-1) rfl (by rw[lz (by omega)];omega) (by omega) (by omega) fun B e3 p k3 he3=>Z _ _ ⟨p,k3,by rw[he3];simp;omega⟩
   ·rintro c D ⟨p,k3,hc⟩
    have y:=hu1.tr (k2.tr k3).wide;refine CondP.intro (fun h2=>?_) fun h2=>?_
    ·have hh:=hc.1 h2
     refine hI2 (i+1) _ _ ⟨by rw[lz (by omega)];rfl,p,k2.tr k3,?_,by omega,by omega⟩ (by omega)
     rw[←hsc];conv=>rhs;rw[scanSorted]
     rw[if_pos (by simp[hh])]
    ·have hsi:scanSorted (CZ dec) A e i=i:=by
      rw[scanSorted,if_neg];intro hh;simp only[aX,decide_eq_true_iff,Bool.not_eq_eq_eq_not,Bool.not_true]at hh;rw[hc.2 hh]at h2;cases h2
     have b:=x;rw[partialIns]at b;simp only[←hsc,hsi]at b;refine CondP.intro (fun B=>?_) fun B=>?_
     ·have B:i=e:=by
       have:(i:Int)=e:=by simpa using B
       omega
      rw[if_pos B]at b;rw[←b]at Q;exact Q _ p y
     ·have B:i≠e:=fun e'=>by subst e';simp at B
      rw[if_neg B]at b;have we:ac .i64 ((e:Int)-(a:Int))=((e-a:Nat):Int):=by rw[lz (by omega)];omega
      show CondP (decide (ac .i64 ((e:Int)-(a:Int))<50)) _ _
      rw[we];refine aK (fun h4=>?_) fun h4=>?_
      ·rw[if_pos (by omega)]at b
       rw[←b]at Q;exact Q _ p y
      ·rw[if_neg (by omega)]at b
       have hi1:1≤i:=by omega
       refine p.swap (i:=i) (j:=i-1) rfl (by rw[lz (by omega)];omega) (by omega) (by omega) fun h5 E T=>?_
       have L:(swp A i (i-1)).size=d.size:=by simp[hz1]
       generalize swp A i (i-1)=d5 at E L b;refine Join.intro (fun _ h'=>SA dec M s h' (if i-a≥2 then shiftDown (CZ dec) (i-1) d5 else d5)∧Upd M h h') (fun R3 u=>?_) ?_
       ·have wi:ac .i64 ((i:Int)-(a:Int))=((i-a:Nat):Int):=by rw[lz (by omega)];omega
        show CondP (decide (ac .i64 ((i:Int)-(a:Int))≥2)) _ _
        rw[wi];refine aK (fun h6=>?_) fun h6=>?_
        ·rw[if_pos (by omega)]at u
         refine LoopP.ghost (fun(g:Nat×Array Int) (t:Int) h'=>t=(g.1:Int)∧SA dec M s h' g.2∧g.2.size=d.size∧shiftDown (CZ dec) g.1 g.2=shiftDown (CZ dec) (i-1) d5∧Upd M h h'∧g.1<e) (fun g=>g.1) (i-1,d5)
          ⟨by rw[lz (by omega)];simp only;omega,E,L,rfl,y.tr T,by simp only;omega⟩ ?_
         rintro I4 ⟨j,Y⟩ t h7 ⟨ht,O,hz7,o,hu7,H⟩ J;simp only at ht O hz7 o H;subst ht;refine aK (fun h8=>?_) fun h8=>?_
         ·obtain⟨j,rfl⟩:∃k,j=k+1:=⟨j-1,by omega⟩
          have e1:ac .i64 (((j+1:Nat):Int)-1)=(j:Int):=by rw[lz (by omega)];omega
          rw[shiftDown]at o;refine O.less (i:=j+1) (j:=j) rfl e1 (by omega) (by omega) fun hL eL hsL kL F=>?_
          have q:=hu7.tr kL.wide;rw[F];refine CondP.intro (fun W=>?_) fun W=>?_
          ·rw[if_pos W]at o
           exact u _ _ ⟨by rw[←o];exact hsL,q⟩
          ·rw[if_neg (by rw[W];simp)]at o
           refine hsL.swap (i:=j+1) (j:=j) rfl e1 (by omega) (by omega) fun w hs10 hu10=>?_
           exact J (j,swp Y (j+1) j) _ _ ⟨e1,hs10,by simp[hz7],o,q.tr hu10,by simp only;omega⟩ (by simp)
         ·have:j=0:=by omega
          subst this;exact u _ _ ⟨by rw[←o];exact O,hu7⟩
        ·rw[if_neg (by omega)]at u
         exact u _ _ ⟨E,y.tr T⟩
       ·rintro _ h6 ⟨N,hu6⟩
        have P:(if i-a≥2 then shiftDown (CZ dec) (i-1) d5 else d5).size=d.size:=by split<;>simp[L]
        generalize (if i-a≥2 then shiftDown (CZ dec) (i-1) d5 else d5)=Y at N P b
        have wi:ac .i64 ((e:Int)-(i:Int))=((e-i:Nat):Int):=by rw[lz (by omega)];omega
        show CondP (decide (ac .i64 ((e:Int)-(i:Int))≥2)) _ _
        rw[wi];refine aK (fun h7=>?_) fun h7=>?_
        ·rw[if_pos (by omega)]at b
         refine LoopP.ghost (fun(g:Nat×Array Int) (t:Int) h'=>t=(g.1:Int)∧SA dec M s h' g.2∧g.2.size=d.size∧shiftUp (CZ dec) e g.1 g.2=shiftUp (CZ dec) e (i+1) Y∧Upd M h h'∧1≤g.1∧g.1≤e) (fun g=>e-g.1) (i+1,Y)
          ⟨by rw[lz (by omega)];rfl,N,P,rfl,hu6,by simp,by simp only;omega⟩ ?_
         rintro I4 ⟨j,d7⟩ t h8 ⟨ht,C,z,n,hu8,hj1,H⟩ J;simp only at ht C z n hj1 H;subst ht;refine aK (fun W=>?_) fun W=>?_
         ·have e1:ac .i64 ((j:Int)-1)=((j-1:Nat):Int):=by rw[lz (by omega)];omega
          rw[shiftUp,if_pos (by omega)]at n;refine C.less (i:=j) (j:=j-1) rfl e1 (by omega) (by omega) fun hL eL hsL kL F=>?_
          have q:=hu8.tr kL.wide;rw[F];refine CondP.intro (fun w=>?_) fun w=>?_
          ·rw[if_pos w]at n
           exact hR _ _ ⟨i,d7,rfl,hsL,z,by rw[n];exact b,q,m,f⟩
          ·rw[if_neg (by rw[w];simp)]at n
           refine hsL.swap (i:=j) (j:=j-1) rfl e1 (by omega) (by omega) fun h11 hs11 V=>?_
           exact J (j+1,swp d7 j (j-1)) _ _ ⟨by rw[lz (by omega)];rfl,hs11,by simp[z],n,q.tr V,by simp,by simp only;omega⟩ (by simp only;omega)
         ·rw[shiftUp,if_neg (by omega)]at n
          exact hR _ _ ⟨i,d7,rfl,C,z,by rw[n];exact b,hu8,m,f⟩
        ·rw[if_neg (by omega)]at b
         exact hR _ _ ⟨i,Y,rfl,N,P,b,hu6,m,f⟩
  ·rintro t h' ⟨S,d2,rfl,v,hz2,b,hu2,m,f⟩
   exact hI (st,S,d2) _ _ ⟨rfl,by simp only;rw[lz (by omega)];omega,v,hz2,b,hu2,by simp only;omega,m,f⟩ (by simp)
 ·have:st=0:=by have:¬5-(st:Int)<5:=hge;omega
  subst this;rw[partialIns]at x;rw[←x]at Q;exact Q _ G hu1
end Go.Proofs
namespace Go.Proofs
open Go Go.Lift Go.Sort
variable {dec:Int→Ch} {M:Nat→Prop} {s:SliceV} {h:ad} {d:Array Int}
theorem XI(x:Int):ac .u64 x=x%18446744073709551616:=by
 simp[ac,af,IntKind.signed]
theorem and_le_right(x:Int){m:Int}(a:0≤m)(hm:m<18446744073709551616):0≤ac .u64 ((ao (af .u64) x&&&ao (af .u64) m).toNat:Int)∧ac .u64 ((ao (af .u64) x&&&ao (af .u64) m).toNat:Int)≤m:=by
 have b:(ao (af .u64) x&&&ao (af .u64) m).toNat≤(ao (af .u64) m).toNat:=by
  rw[BitVec.toNat_and];exact Nat.and_le_right
 have c:((ao (af .u64) m).toNat:Int)=m:=by
  show((ao 64 m).toNat:Int)=m
  rw[BitVec.toNat_ofInt];have:m%((2^64:Nat):Int)=m:=Int.emod_eq_of_lt a (by omega);rw[this];omega
 rw[XI];omega
end Go.Proofs
namespace Go.Proofs
open Go Go.Lift Go.Sort
variable {dec:Int→Ch} {M:Nat→Prop} {s:SliceV} {h:ad} {d:Array Int}
end Go.Proofs
namespace Go.Proofs
open Go Go.Lift
end Go.Proofs
namespace Go.Proofs
open Go Go.Lift
theorem Few.mono{n m:Nat}{L:List Pr}(f:Few n L)(h:n≤m):Few m L:=⟨f.up,Nat.le_trans f.len h,f.fit⟩
end Go.Proofs
namespace Go.Proofs
open Go Go.Lift
theorem Lu{W:Nat→Prop}{h:ad}{b:Nat}{l:List Pr}(t:RadAt W h b l)(hW:∀y,W y→y<h.size)(hr:eH l)(k:ByteArray){K:ByteArray×Bool→ad→Prop}
  (V:∀h',Upd No h h'→K ((look l k).getD ⟨#[]⟩,(look l k).isSome) h'):HC PG xO [.pointer (some ⟨b,0,none⟩),.string k] [.c .str,.c .bool] K h:=by
 refine Mu (some ⟨b,0,none⟩) k ?_;unfold D7 bL dE bE kf zW ce;refine CO (.inr ⟨b,rfl,t⟩) hW fun h2 b2 t2 hu2 _=>?_
 obtain⟨w,F,r1,r2,r3⟩:=t2.ex;have d:∀v,vz w F k.data.toList v↔look l k=some v:=fun v=>by
  rw[←qB,r3];constructor
  ·rintro⟨p,Z,e1,rfl⟩
   rw[←tc.1 e1];exact C0 hr Z
  ·intro Z;exact⟨_,LP Z,rfl,rfl⟩
 refine LoopP.ghost (fun(g:ByteArray×Nat×ByteArray×Option ByteArray×Fo) (t:ByteArray×Option Addr) h'=>t=(g.1,some ⟨g.2.1,0,none⟩)∧RxN W h' g.2.1 g.2.2.1 g.2.2.2.1 g.2.2.2.2∧jk g.2.2.2.2∧(∀v,vz g.2.2.2.1 g.2.2.2.2 g.1.data.toList v↔look l k=some v)∧Upd No h h') (fun g=>g.1.size) (k,b2,⟨#[]⟩,w,F) ⟨rfl,r1,r2,d,hu2⟩ ?_
 clear d r1 r2 r3 t2;rintro I ⟨E,c,sl,w,F⟩ t h5 ⟨rfl,r,hc,d,hu⟩ hI;simp only at r hc d;simp only[eG];by_cases G:E=⟨#[]⟩
 ·subst G
  refine aj.2 (Lm r ?_);have e:look l k=w:=Option.ext fun v=>by
   rw[←d v];constructor
   ·rintro(⟨_,h⟩|h)
    ·exact h
    ·exact absurd rfl (C2 hc h)
   ·intro h;exact .inl ⟨rfl,h⟩
  rw[e]at V;exact V _ hu
 ·rw[decide_eq_false G]
  refine aB.2 ?_;have x:E.data.toList≠[]:=fun e=>G (by cases E;exact congrArg wK (mD.1 e))
  obtain⟨c0,X,R⟩:=JW x;refine⟨c0,uI _,X,?_⟩;have hr0:=r;obtain⟨val,s,ow,ks,hb,_,hs,hcap,hF⟩:=r;have hL:=lZ.1 hF;have D:=eE.1 hc;have o:(∀v,¬ud F E.data.toList v)→K ((⟨#[]⟩:ByteArray),false) h5:=fun B=>by
   have e:look l k=none:=by
    cases e:look l k with
    |none=>rfl
    |some v=>
     rcases(d v).2 e with⟨h,_⟩|h
     ·exact absurd h x
     ·exact absurd h (B v)
   rw[e]at V;exact V _ hu
  refine CP hr0 hc (c:=c0.toNat) (tI _) fun i ok hil P J H=>?_
  rw[R]at P J H;cases ok with
  |false=>
   refine aB.2 (o fun v d=>?_)
   obtain⟨n',L,e,_⟩:=xE hc d;obtain⟨j,U,rfl⟩:=dq L;rcases co j i with hl|hl
   ·have:=P j U hl;omega
   ·have h1:=J j U hl
    have h2:=J i (by omega) (ax _);rcases co i j with O|O
    ·have h3:=du.1 D.1 i j (by omega) U O
     omega
    ·have:i=j:=by omega
     subst this;have:=H.2 ⟨U,e⟩;cases this
  |true=>
   obtain⟨hi,T⟩:=H.1 rfl;refine aj.2 ⟨_,rfl,s,fQ (i:=3) hb,?_⟩;obtain⟨kb,Q,Y,z,A⟩:=hL.at hi;have u:F.toL[i]∈F.toL:=bp hi;have C:=D.2 _ u;obtain⟨a,ha,_,hvv⟩:=hs.at0 Y;have N:=hs.len;rw[hL.1]at N;have f:∀v,ud F E.data.toList v↔xh F.toL[i] E.data.toList v:=fun v=>by
    constructor
    ·intro d
     obtain⟨n',L,e,hN⟩:=xE hc d;rw[←yK hc L u (by omega)];exact hN
    ·intro d;exact gX.2 ⟨_,u,d⟩
   refine⟨⟨by simp only;omega,by simp only;omega⟩,a,ha,some ⟨kb,0,none⟩,hvv,_,rfl,?_⟩
   obtain⟨kval,kss,kow,kks,S,_⟩:=id A;generalize F.toL[i]=m at z A C f T;obtain⟨lab,wk,Fk⟩:=m;simp only at z A C T S;refine⟨Q,fQ (i:=0) S,Ta (fun q n=>?_) fun B=>?_⟩
   ·rw[z]at n
    have hlne:lab.length≠0:=fun e=>C.1 (bJ.1 e)
    have hrl:q.size<E.size:=by
     rw[←jH q,←jH E,n,ah];omega
    refine aj.2 (hI (q,kb,Q,wk,Fk) _ _ ⟨rfl,A,C.2.2,fun v=>?_,hu⟩ hrl)
    rw[←d v];constructor
    ·intro h;exact .inr ((f v).2 ⟨_,n,h⟩)
    ·rintro(⟨h,_⟩|h)
     ·exact absurd h x
     ·obtain⟨r',e,hr'⟩:=(f v).1 h
      simp only at e;rw[n]at e;rw[gK e];exact hr'
   ·rw[z]at B
    refine aB.2 (o fun v h=>?_)
    obtain⟨r',e,_⟩:=(f v).1 h;exact B r' e
theorem Uc{W:Nat→Prop}{x:Hs}{h:ad}{kind:Int}{t:Tr}{l:List Pr}(i:TreeIs W h kind x t l)(g:∀y,W y→y<h.size)(e:eH l)(j:l.length≤1000000)(k:ByteArray){K:Sd→ad→Prop}(f:∀h',Upd No h h'→K ((look l k).getD ⟨#[]⟩,(look l k).isSome) h'):HC PG rm [PE t,.string k] [.c .str,.c .bool] K h:=by
 refine Ey t k ?_;unfold wU ar iL rc ak mc gx;rcases i with⟨_,b,rfl,t⟩|⟨_,b,rfl,t⟩
 ·refine cx fun m b1 k1=>⟨_,vc b1 0,aj.2 ⟨_,yT b1 1 0,_,yT b1 1 1,_,yT b1 1 2,_,vc b1 4,?_⟩⟩
  exact Mh (TrieAt.upd0 k1 t) (fun y c=>aF (g y c) k1.size) e j k fun d a=>f d (k1.tr a)
 ·refine cx fun m b1 k1=>⟨_,vc b1 0,aB.2 ⟨_,vc b1 5,?_⟩⟩
  exact Lu (t.upd0 k1) (fun y c=>aF (g y c) k1.size) e k fun d a=>f d (k1.tr a)
end Go.Proofs
namespace Go.Proofs
open Go Go.Lift
theorem Uw{W:Nat→Prop}{x:Hs}{h:ad}{kind:Int}{t:Tr}{l:List Pr}(i:TreeIs W h kind x t l)(I:∀y,W y→y<h.size)(L:eH l)(O:Fit l)(G:l.length≤1000000)(k:ByteArray)(o:Option ByteArray)(p:k.size≤256)(C:(o.getD ⟨#[]⟩).size≤4096){K:Tr→ad→Prop}
  (T:∀h' a,TreeIs W h' kind x a (Uh l k o)→Upd No h h'→K a h'):HC PG xQ [PE t,.string k,.agg #[.string (WI o).1,.bool (WI o).2]] [.agg [.int .i64,.int .u64,.int .u64,.int .u64,.ptr,.ptr]] K h:=by
 refine My t k (WI o) ?_;unfold Eb ar aq bc fe xn ae ak pD mc xb xd pl6;refine cx fun J b1 k1=>cx fun w b2 E=>cx fun n b3 z=>?_
 have Y:=bv b1;have Z:=bv b2;have z3:=bv b3;have s1:h.size≤J.size:=k1.size;have V:J.size≤w.size:=E.size;have X:=z.size;have b:=(k1.tr E).tr z;have c1:=z.get0 (E.get0 b1);have D:=z.get0 b2;have B:Pro W h n h.size:=.inr (by omega);have A:Pro W h n w.size:=.inr (by omega);refine Join.intro (fun _ h'=>∃a,TreeIs (Pro W h n) h' kind x a (Uh l k o)∧h'[h.size]? =some (.cells (pu a).toArray bW (0,0))∧h'[w.size]? =some (.cells (pu CD).toArray bW (0,0))∧Upd (· =h.size) n h') (fun R U=>?_) ?_
 ·have q:∀{d:ad} {a:Tr},Upd No n d→TreeIs (Pro W h n) d kind x a (Uh l k o)→td d (some (aJ h)) 0 (pu a)∧At (gP d (aJ h) 0 (pu a)) (fun H=>R () H):=fun{d a} g s=>
   cY (c:=pu t) (vs:=pu a) (g.get0 c1) rfl fun H S e=>U _ _ ⟨a,s.updM e fun y f=>.inl (by have f:y=h.size:=f;rw[f];exact B),S,e.oth (g.get0 b3) (by omega),g.wide.tr e⟩
  cases o with
  |some v=>
   refine⟨true,vc D 1,aB.2 ⟨_,vc c1 0,_,vc c1 1,_,vc c1 2,_,vc c1 3,_,vc c1 4,_,vc c1 5,v,vc D 0,?_⟩⟩;exact Lb (i.pro b) (Pro.lt I b) L G (k,v) p C fun d a s _ g=>q g s
  |none=>
   refine⟨false,vc D 1,aj.2 ⟨_,vc c1 0,_,vc c1 1,_,vc c1 2,_,vc c1 3,_,vc c1 4,_,vc c1 5,?_⟩⟩;exact La (i.pro b) (Pro.lt I b) L O G k p fun d a s _ g=>q g s
 ·rintro _ h6 ⟨a,P,j,N,F⟩
  refine⟨_,vc j 0,_,vc j 1,_,vc j 2,_,vc j 3,_,vc j 4,_,vc j 5,?_⟩;refine cY (c:=pu CD) (vs:=pu a) N rfl fun Q m u=>?_
  refine⟨_,vc m 0,_,vc m 1,_,vc m 2,_,vc m 3,_,vc m 4,_,vc m 5,T Q a ((P.updM u fun y f=>.inl (by have f:y=w.size:=f;rw[f];exact A)).less Pro.sub) ?_⟩
  exact(b.own F (ax _)).own u (by omega)
def Xl(k:ByteArray)(o:Option ByteArray):Prop:=∀{W:Nat→Prop} {x:Hs} {h:ad} {kind:Int} {t:Tr} {l:List Pr},TreeIs W h kind x t l→(∀y,W y→y<h.size)→eH l→Fit l→l.length≤1000000→k.size≤256→(o.getD ⟨#[]⟩).size≤4096→∀{K:Tr→ad→Prop},
 (∀h' t',TreeIs W h' kind x t' (Uh l k o)→Upd No h h'→K t' h')→HC PG xQ [PE t,.string k,.agg #[.string (WI o).1,.bool (WI o).2]] [.agg [.int .i64,.int .u64,.int .u64,.int .u64,.ptr,.ptr]] K h
theorem setOk(k:ByteArray)(o:Option ByteArray):Xl k o:=fun i f c e a b g _ d=>Uw i f c e a k o b g d
abbrev Mj(c:Cf):List Value:= [.string c.1,.string c.2.1.1,.bool c.2.1.2,.string c.2.2.1.1,.bool c.2.2.1.2,.string c.2.2.2.1,.bool c.2.2.2.2]
theorem GA(c:Cf):(Mj c).length=7∧0<7:=⟨rfl,by omega⟩
end Go.Proofs
namespace Go.Proofs
open Go Go.Lift
def BaseOf(s:VS)(a:Int)(B:TD):Prop:=(a=0∧B=(s.e,[]))∨(a≠0∧dB s.D a=some B)
section
variable {W:Nat→Prop} {h:ad} {vp:Nat} {s:VS}
theorem H8(v:VaultAt W h vp s){id:Int}(hi:id=0∨id∈ids s.L){K:Tr×Int→ad→Prop}(a:∀B,BaseOf s id B→∀h',Upd No h h'→K (B.1,0) h'):HC PG ik [pV vp,.int .u32 id] [.agg [.int .i64,.int .u64,.int .u64,.int .u64,.ptr,.ptr],.c (.int .i64)] K h:=
 Rk v id (fun e h' k=>a (s.e,[]) (.inl ⟨e,rfl⟩) h' k) (fun d hd e h' k=>a d (.inr ⟨e,hd⟩) h' k) fun hd e=>absurd ((v.sub id).2 (hi.resolve_left e)) (pS.1 hd)
end
end Go.Proofs
namespace Go.Proofs
open Go Go.Lift
abbrev fP:SliceV:=⟨none,0,0⟩
abbrev An:=Int×Int×Int×ByteArray×Bool×Int×SliceV×SliceV×SliceV×SliceV×SliceV
abbrev Q6:An:=(0,0,0,⟨#[]⟩,false,0,fP,fP,fP,fP,fP)
abbrev AD(e:An):List Value:= [.int .i64 e.1,.int .u32 e.2.1,.int .i64 e.2.2.1,.string e.2.2.2.1,.bool e.2.2.2.2.1,.int .i64 e.2.2.2.2.2.1,.slice e.2.2.2.2.2.2.1.a e.2.2.2.2.2.2.1.len e.2.2.2.2.2.2.1.cap,.slice e.2.2.2.2.2.2.2.1.a e.2.2.2.2.2.2.2.1.len e.2.2.2.2.2.2.2.1.cap,.slice e.2.2.2.2.2.2.2.2.1.a e.2.2.2.2.2.2.2.2.1.len e.2.2.2.2.2.2.2.2.1.cap,.slice e.2.2.2.2.2.2.2.2.2.1.a e.2.2.2.2.2.2.2.2.2.1.len e.2.2.2.2.2.2.2.2.2.1.cap,.slice e.2.2.2.2.2.2.2.2.2.2.a e.2.2.2.2.2.2.2.2.2.2.len e.2.2.2.2.2.2.2.2.2.2.cap]
abbrev MP:List Kind:= [.agg [.int .i64,.int .u32,.int .i64,.str,.bool,.int .i64,.slice,.slice,.slice,.slice,.slice]]
abbrev AE:=Int×ByteArray×ByteArray×ByteArray×ByteArray×Int×Int×Int×Int×Bool×ByteArray×ByteArray×Bool×SliceV×SliceV
abbrev vi(o:AE):List Value:= [.int .i64 o.1,.string o.2.1,.string o.2.2.1,.string o.2.2.2.1,.string o.2.2.2.2.1,.int .u32 o.2.2.2.2.2.1,.int .u32 o.2.2.2.2.2.2.1,.int .i64 o.2.2.2.2.2.2.2.1,.int .i64 o.2.2.2.2.2.2.2.2.1,.bool o.2.2.2.2.2.2.2.2.2.1,.string o.2.2.2.2.2.2.2.2.2.2.1,.string o.2.2.2.2.2.2.2.2.2.2.2.1,.bool o.2.2.2.2.2.2.2.2.2.2.2.2.1,.slice o.2.2.2.2.2.2.2.2.2.2.2.2.2.1.a o.2.2.2.2.2.2.2.2.2.2.2.2.2.1.len o.2.2.2.2.2.2.2.2.2.2.2.2.2.1.cap,.slice o.2.2.2.2.2.2.2.2.2.2.2.2.2.2.a o.2.2.2.2.2.2.2.2.2.2.2.2.2.2.len o.2.2.2.2.2.2.2.2.2.2.2.2.2.2.cap]
abbrev TR(o:AE):Value:=.agg #[.int .i64 o.1,.string o.2.1,.string o.2.2.1,.string o.2.2.2.1,.string o.2.2.2.2.1,.int .u32 o.2.2.2.2.2.1,.int .u32 o.2.2.2.2.2.2.1,.int .i64 o.2.2.2.2.2.2.2.1,.int .i64 o.2.2.2.2.2.2.2.2.1,.bool o.2.2.2.2.2.2.2.2.2.1,.string o.2.2.2.2.2.2.2.2.2.2.1,.string o.2.2.2.2.2.2.2.2.2.2.2.1,.bool o.2.2.2.2.2.2.2.2.2.2.2.2.1,.slice o.2.2.2.2.2.2.2.2.2.2.2.2.2.1.a o.2.2.2.2.2.2.2.2.2.2.2.2.2.1.len o.2.2.2.2.2.2.2.2.2.2.2.2.2.1.cap,.slice o.2.2.2.2.2.2.2.2.2.2.2.2.2.2.a o.2.2.2.2.2.2.2.2.2.2.2.2.2.2.len o.2.2.2.2.2.2.2.2.2.2.2.2.2.2.cap]
theorem Bg{h:ad}{b:Nat}{c e:An}{K:An→ad→Prop}(d:h[b]? =some (.cells (AD c).toArray bN (0,0))) (a:∀h',Upd (· =b) h h'→K e h'):
  td h (some ⟨b,0,none⟩) 0 (AD e)∧At (gP h ⟨b,0,none⟩ 0 (AD e)) (fun h'=>∃v0:Int,aC h' (adr ⟨b,0,none⟩ 0)=some (.int .i64 v0)∧∃v1:Int,aC h' (adr ⟨b,0,none⟩ 1)=some (.int .u32 v1)∧∃v2:Int,aC h' (adr ⟨b,0,none⟩ 2)=some (.int .i64 v2)∧∃v3:ByteArray,aC h' (adr ⟨b,0,none⟩ 3)=some (.string v3)∧∃v4:Bool,aC h' (adr ⟨b,0,none⟩ 4)=some (.bool v4)∧∃v5:Int,aC h' (adr ⟨b,0,none⟩ 5)=some (.int .i64 v5)∧∃v6:SliceV,aC h' (adr ⟨b,0,none⟩ 6)=some (.slice v6.a v6.len v6.cap)∧∃v7:SliceV,aC h' (adr ⟨b,0,none⟩ 7)=some (.slice v7.a v7.len v7.cap)∧∃v8:SliceV,aC h' (adr ⟨b,0,none⟩ 8)=some (.slice v8.a v8.len v8.cap)∧∃v9:SliceV,aC h' (adr ⟨b,0,none⟩ 9)=some (.slice v9.a v9.len v9.cap)∧∃v10:SliceV,aC h' (adr ⟨b,0,none⟩ 10)=some (.slice v10.a v10.len v10.cap)∧K (v0,v1,v2,v3,v4,v5,v6,v7,v8,v9,v10) h'):=by
 refine cY (c:=AD c) (vs:=AD e) d rfl fun h' b' u=>?_
 exact⟨e.1,vc b' 0,e.2.1,vc b' 1,e.2.2.1,vc b' 2,e.2.2.2.1,vc b' 3,e.2.2.2.2.1,vc b' 4,e.2.2.2.2.2.1,vc b' 5,e.2.2.2.2.2.2.1,vc b' 6,e.2.2.2.2.2.2.2.1,vc b' 7,e.2.2.2.2.2.2.2.2.1,vc b' 8,e.2.2.2.2.2.2.2.2.2.1,vc b' 9,e.2.2.2.2.2.2.2.2.2.2,vc b' 10,a h' u⟩
theorem Sa{h:ad}{b:Nat}{t:TypeId}{o:AE}{P:Int→ByteArray→ByteArray→ByteArray→ByteArray→Int→Int→Int→Int→Bool→ByteArray→ByteArray→Bool→SliceV→SliceV→Prop}(a:h[b]? =some (.cells (vi o).toArray t (0,0))) (c:P (o.1) (o.2.1) (o.2.2.1) (o.2.2.2.1) (o.2.2.2.2.1) (o.2.2.2.2.2.1) (o.2.2.2.2.2.2.1) (o.2.2.2.2.2.2.2.1) (o.2.2.2.2.2.2.2.2.1) (o.2.2.2.2.2.2.2.2.2.1) (o.2.2.2.2.2.2.2.2.2.2.1) (o.2.2.2.2.2.2.2.2.2.2.2.1) (o.2.2.2.2.2.2.2.2.2.2.2.2.1) (o.2.2.2.2.2.2.2.2.2.2.2.2.2.1) (o.2.2.2.2.2.2.2.2.2.2.2.2.2.2)):
  ∃v0:Int,aC h (adr ⟨b,0,none⟩ 0)=some (.int .i64 v0)∧∃v1:ByteArray,aC h (adr ⟨b,0,none⟩ 1)=some (.string v1)∧∃v2:ByteArray,aC h (adr ⟨b,0,none⟩ 2)=some (.string v2)∧∃v3:ByteArray,aC h (adr ⟨b,0,none⟩ 3)=some (.string v3)∧∃v4:ByteArray,aC h (adr ⟨b,0,none⟩ 4)=some (.string v4)∧∃v5:Int,aC h (adr ⟨b,0,none⟩ 5)=some (.int .u32 v5)∧∃v6:Int,aC h (adr ⟨b,0,none⟩ 6)=some (.int .u32 v6)∧∃v7:Int,aC h (adr ⟨b,0,none⟩ 7)=some (.int .i64 v7)∧∃v8:Int,aC h (adr ⟨b,0,none⟩ 8)=some (.int .i64 v8)∧∃v9:Bool,aC h (adr ⟨b,0,none⟩ 9)=some (.bool v9)∧∃v10:ByteArray,aC h (adr ⟨b,0,none⟩ 10)=some (.string v10)∧∃v11:ByteArray,aC h (adr ⟨b,0,none⟩ 11)=some (.string v11)∧∃v12:Bool,aC h (adr ⟨b,0,none⟩ 12)=some (.bool v12)∧∃v13:SliceV,aC h (adr ⟨b,0,none⟩ 13)=some (.slice v13.a v13.len v13.cap)∧∃v14:SliceV,aC h (adr ⟨b,0,none⟩ 14)=some (.slice v14.a v14.len v14.cap)∧P v0 v1 v2 v3 v4 v5 v6 v7 v8 v9 v10 v11 v12 v13 v14:=
 ⟨o.1,vc a 0,o.2.1,vc a 1,o.2.2.1,vc a 2,o.2.2.2.1,vc a 3,o.2.2.2.2.1,vc a 4,o.2.2.2.2.2.1,vc a 5,o.2.2.2.2.2.2.1,vc a 6,o.2.2.2.2.2.2.2.1,vc a 7,o.2.2.2.2.2.2.2.2.1,vc a 8,o.2.2.2.2.2.2.2.2.2.1,vc a 9,o.2.2.2.2.2.2.2.2.2.2.1,vc a 10,o.2.2.2.2.2.2.2.2.2.2.2.1,vc a 11,o.2.2.2.2.2.2.2.2.2.2.2.2.1,vc a 12,o.2.2.2.2.2.2.2.2.2.2.2.2.2.1,vc a 13,o.2.2.2.2.2.2.2.2.2.2.2.2.2.2,vc a 14,c⟩
theorem VaultAt.pro{W:Nat→Prop}{h b:ad}{c:Nat}{s:VS}(v:VaultAt W h c s)(k:Upd No h b):VaultAt (Pro W h b) b c s:=
 v.re k (fun _ h=>h.elim) (fun y a=>⟨a.imp id fun e=>e.1,Pro.lt v.g.lt k y a⟩) fun y a=>.inl (v.w y a)
theorem VaultAt.dn{W:Nat→Prop}{c d h:ad}{b:Nat}{s:VS}(v:VaultAt (Pro W c d) h b s)(hM:∀y,s.M y→W y):VaultAt W h b s:=
 v.re (Upd.refl No h) (fun _ h=>h.elim) (fun y a=>⟨.inl (.inl a),v.g.lt y (.inl a)⟩) hM
theorem VaultAt.own{W:Nat→Prop}{a f h h':ad}{g b:Nat}{s:VS}(v:VaultAt (Pro W a f) h g s)(hM:∀y,s.M y→y<a.size)(u:Upd (· =b) h h')(i:a.size≤b)(d:b<f.size):VaultAt (Pro W a f) h' g s:=
 v.upd u fun y c=>by
  have c:y=b:=c;subst c;exact .inl ⟨.inr ⟨i,d⟩,fun e=>by have:=hM _ e;omega⟩
section
variable {h:ad}
theorem Qp{e:Int}{K:An→ad→Prop}(a:∀h',Upd No h h'→K (e,0,0,⟨#[]⟩,false,0,fP,fP,fP,fP,fP) h'):HC PG fE [.int .i64 e] MP K h:=by
 refine GN e ?_;unfold yv ar cg aq bc aD nv Hf;exact cx fun f b1 k1=>Bg (c:=Q6) (e:=(e,0,0,⟨#[]⟩,false,0,fP,fP,fP,fP,fP)) b1 fun b d=>a b (k1.own d (ax _))
theorem Sv{id:Int}{K:An→ad→Prop}(a:∀h',Upd No h h'→K (0,id,0,⟨#[]⟩,false,0,fP,fP,fP,fP,fP) h'):HC PG uQ [.int .u32 id,.int .i64 0] MP K h:=by
 refine HL id 0 ?_;unfold zK ar cg aq bc aD fe xf Hf;exact cx fun f b1 k1=>aj.2 (Bg (c:=Q6) (e:=(0,id,0,⟨#[]⟩,false,0,fP,fP,fP,fP,fP)) b1 fun b d=>a b (k1.own d (ax _)))
end
abbrev C5(f:FuncId):Value:=.func (.func f) #[] #[]
abbrev NL:List Value:= [C5 jc,C5 qF,C5 tU,C5 rE,C5 lh,C5 sX,C5 sU,C5 oM,C5 rH,C5 rF,C5 li,C5 sV,C5 sY,C5 rG,C5 rL,C5 sW,C5 rJ,C5 sS,C5 qH,C5 qI,C5 rK,C5 sR,C5 qG,C5 rI,C5 sQ,C5 oL]
theorem SB{k:Nat}(i:k<26){v:Value}(b:NL[k]? =some v) {h:ad} {K:Value→ad→Prop} (a:∀h',Upd No h h'→K v h'):HC PG uR [.int .i64 k] [.c .raw] K h:=by
 refine HM k ?_;unfold zL bL dE nv;refine cx fun g b1 k1=>cY (c:=List.replicate 26 .nilFunc) (vs:=NL) b1 rfl fun f b2 d=>Join.plain (aK (fun e=>absurd e (by omega)) fun _=>?_)
 rw[show decide ((k:Int)≥(26:Int))=false from decide_eq_false (by omega)]
 refine aj.2 ⟨⟨by omega,by omega⟩,v,?_,a f (k1.own d (ax _))⟩
 have:=vc b2 k;rw[List.getElem?_toArray,b]at this;rw[show(k:Int).toNat*1=k by omega]
 exact this
end Go.Proofs
