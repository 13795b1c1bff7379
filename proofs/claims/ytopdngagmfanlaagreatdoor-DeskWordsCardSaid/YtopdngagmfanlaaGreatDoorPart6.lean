/- A part of the proof that the named laws of this program answer true, whatever the input. -/
import Derived.Test.YtopdngagmfanlaaGreatDoorPart5
import Derived.Test.YtopdngagmfanlaaGreatDoorPart3
import Derived.Sort.AssemblyPlain
import Derived.Test.YtopdngagmfanlaaGreatDoorPart4
open Array renaming toList_inj→lf
open BitVec renaming ofInt→aj
open Bool renaming and_eq_true→aQ
open ByteArray renaming mk→tX
open Go.IntKind renaming wrap→ac,bits→af
open Int renaming toNat_natCast→aB,le_refl→rV
open List renaming length_append→ai,getElem_of_mem→cP,pairwise_iff_getElem→cR,getElem_mem→ce,length_eq_zero_iff→aY,append_cancel_left→ge,set_eq_take_append_cons_drop→cQ,foldl_append→nq
open Nat renaming lt_or_ge→bQ,le_refl→az,lt_irrefl→jJ,lt_of_lt_of_le→aC,zero_le→cu
open UInt8 renaming toNat_lt→qU
namespace Go.Proofs
open Go Go.Lift
theorem iM(s:ByteArray):s.data.toList.length=s.size:=by simp
theorem Ps(a b:ByteArray):(a++b).data.toList=a.data.toList++b.data.toList:=by rw[ByteArray.data_append,Array.toList_append]
theorem Mo{a b:ByteArray}{h:ad}{K:Bool→ad→Prop}(c:K (decide (b.data.toList<+:a.data.toList)) h):HC PG r8 [.string a,.string b] [.c .bool] K h:=by
 refine Es a b ?_;unfold wN eI;refine AH a b ?_;unfold sW eI;refine oZ a b ?_;unfold ji;have j:=iM a;have f:=iM b;refine aG (fun g=>?_) fun d=>?_
 ·refine⟨⟨by omega,by omega⟩,?_⟩
  rw[f8,aB];have e:decide (a.extract 0 b.size=b)=decide (b.data.toList<+:a.data.toList):=by
   rw[decide_eq_decide,←qE,Dh,List.prefix_iff_eq_take,f];exact eq_comm
  rw[e];exact c
 ·have e:decide (b.data.toList<+:a.data.toList)=false:=decide_eq_false fun i=>by
   have:=i.length_le;omega
  rw[e]at c;exact c
theorem O9{a b:ByteArray}{h:ad}{K:ByteArray×Bool→ad→Prop}(g:∀s:ByteArray,a.data.toList=b.data.toList++s.data.toList→K (s,true) h)(i:(∀r,a.data.toList≠b.data.toList++r)→K (⟨#[]⟩,false) h):HC PG tF [.string a,.string b] [.c .str,.c .bool] K h:=by
 refine KV a b ?_;unfold DN eI;refine Mo ?_;have j:=iM a;have f:=iM b;by_cases c:b.data.toList<+:a.data.toList
 ·rw[decide_eq_true c]
  have d:=c.length_le;refine ag.2 ⟨⟨by omega,by omega⟩,?_⟩
  rw[aB];refine g _ ?_;rw[Di];obtain⟨r,e⟩:=c;rw[←e,←f,List.drop_left]
 ·rw[decide_eq_false c]
  exact ay.2 (i fun r e=>c ⟨r,e.symm⟩)
def Tq(W:Nat→Prop)(h:ad)(r:Option Addr)(o:Option Bn):Prop:=(r=none∧o=none)∨∃b sl m,r=some ⟨b,0,none⟩∧o=some m∧sl.data.toList=m.1∧RxN W h b sl m.2.1 m.2.2
theorem Mc{W:Nat→Prop}{h:ad}{b:Nat}{sl:ByteArray}{w:Option ByteArray}{F:Fo}(r:RxN W h b sl w F)(hW:∀y,W y→y<h.size)(hc:ir F)(q:sl.data.toList≠[])(hs1:sl.size≤1000000)(Y:∀k v,rq F k v→k.length≤1000000)
  {K:Option Addr→ad→Prop}(Q:∀h' r o,Upd No h h'→QM (sl.data.toList,w,F) o→Tq W h' r o→K r h'):HC PG mW [.pointer (some ⟨b,0,none⟩),.pointer none] [.c .ptr] K h:=by
 refine yV _ none ?_;unfold rC bA dU cC cX bL lA hO;have hr:=r;obtain⟨val,s,ow,ks,p,hv,hs,Z,hF⟩:=r;have hL:=kE.1 hF;have hn:=vX hc;have c:=hs.len;rw[hL.1]at c;refine Join.intro (fun t h'=>t=decide (w.isSome∨2≤F.toL.length)∧h'=h) (fun R hR=>⟨_,rfl,w.isSome,fh (i:=1) p,?_⟩) ?_
 ·cases w with
  |some v=>exact ay.2 (hR _ _ ⟨rfl,rfl⟩)
  |none=>
   refine ag.2 ⟨_,rfl,s,fh (i:=3) p,hR _ _ ⟨?_,rfl⟩⟩;rw[decide_eq_decide];constructor
   ·intro h;exact .inr (by omega)
   ·rintro(h|h)
    ·cases h
    ·omega
 ·rintro t h' ⟨rfl,rfl⟩
  refine aG (fun n=>?_) fun n=>?_
  ·exact Q h' _ _ (Upd.refl _ _) (Mx q hc n) (.inr ⟨b,sl,_,rfl,rfl,rfl,hr⟩)
  ·have L:w=none:=by
    cases w with
    |none=>rfl
    |some v=>exact absurd (.inl rfl) n
   subst L;have V:F.toL.length<2:=by
    rcases bQ F.toL.length 2 with h|h
    ·exact h
    ·exact absurd (.inr h) n
   refine⟨_,rfl,s,fh (i:=3) p,?_⟩;match hFL:F.toL,V with
   | [],_=>
    rw[hFL]at c;have e:((s.len:Int)==(0:Int))=true:=by rw[beq_iff_eq,c];rfl
    rw[e];exact ay.2 (Q h' _ _ (Upd.refl _ _) (My hFL) (.inl ⟨rfl,rfl⟩))
   | [(lk,wk,Fk)],_=>
    rw[hFL]at c;have e:((s.len:Int)==(0:Int))=false:=by rw[beq_eq_false_iff_ne,c];simp
    rw[e];have d:(lk,wk,Fk)∈F.toL:=by rw[hFL];exact List.mem_singleton.2 rfl
    have X:=(dL.1 hc).2 _ d;have h0:0<F.toL.length:=by rw[hFL];exact Nat.one_pos
    obtain⟨kb,f,N,g,m⟩:=hL.at h0;have e0:F.toL[0]=(lk,wk,Fk):=by simp only[hFL];rfl
    rw[e0]at g m;simp only at g m;obtain⟨a,ha,_,S⟩:=hs.at0 N;obtain⟨z,kss,kow,I,P,G,D,U,u⟩:=m;have T:=kE.1 u;have E:=vX X.2.2;refine ag.2 ⟨_,rfl,s,fh (i:=3) p,⟨by omega,by rw[c];simp⟩,a,ha,some ⟨kb,0,none⟩,S,?_⟩
    refine mF P D (by rw[T.1];exact E) fun h1 s1 b1 J C=>?_
    obtain⟨rr,vv,H⟩:=sL hc _ d;have O:=Y (lk++rr) vv (gt.2 ⟨_,d,rr,rfl,H⟩);rw[ai]at O;have hlkl:lk.length=f.size:=by rw[←g];exact iM f
    refine⟨_,rfl,sl,fh (i:=0) (C.get0 p),_,rfl,f,fh (i:=0) b1,by omega,?_⟩
    have hbl:b<h'.size:=bp p;refine tx b1 fun n b2 B=>?_
    have j:Upd No h' n:=C.own B (az _);have A:=J.upd B fun x hx e=>by have e:x=h'.size:=e;have:=hx.1;omega
    refine Q n _ _ j (OA q hc hFL) (.inr ⟨h'.size,sl++f,_,rfl,rfl,by rw[←g];exact Ps sl f,⟨z,s1,none,I,b2,G,A.sl (fun x hx _ L=>by have:=hW _ L;have:=hx.1;omega),⟨A.cap,fun hx=>jJ _ (hW _ hx)⟩,RxF.upd0 j u⟩⟩)
set_option maxHeartbeats 1000000 in
theorem Od{W:Nat→Prop}:∀(n:Nat) {b:Nat} {sl:ByteArray} {w:Option ByteArray} {F:Fo} {h:ad} (k:ByteArray),k.size<n→RxN W h b sl w F→(∀y,W y→y<h.size)→ir F→(∀j v,rq F j v→j.length≤1000000)→∀{K:(Option Addr)×Bool→ad→Prop},
  (∀h' b' w' F' t,Upd No h h'→RxN W h' b' sl w' F'→ir F'→rT (sR w F) (sR w' F') k.data.toList→(t=false→b'=b∧∀v,¬sR w F k.data.toList v)→(t=true→∃v,sR w F k.data.toList v)→K (some ⟨b',0,none⟩,t) h')→
  HC PG jS [.pointer (some ⟨b,0,none⟩),.pointer none,.string k] [.c .ptr,.c .bool] K h:=by
 intro n;induction n with
 |zero=>intro b sl w F h k hk;omega
 |succ n ih=>
  intro b sl w F h k hkn r hW hc hbd K hk;refine yX (some ⟨b,0,none⟩) none k ?_;unfold rE bA dU Jn cC cX bL eI cg hO BH Hi;have hr:=r;obtain⟨val,s,ow,ks,hb,hv,hs,hcap,hF⟩:=r;have V:=kE.1 hF;have hn:=vX hc;have hcan:=dL.1 hc;have z:∀{h':ad},Upd No h h'→(∀v,¬sR w F k.data.toList v)→K (some ⟨b,0,none⟩,false) h':=fun hu B=>hk _ b w F false hu (hr.upd0 hu) hc (KD B) (fun _=>⟨rfl,B⟩) fun h=>by cases h
  rw[f8];refine aG (fun hk0=>?_) fun hk0=>?_
  ·have hke:k.data.toList= []:=by rw[hk0]
   rw[hke]at hk z;refine⟨_,rfl,w.isSome,fh (i:=1) hb,?_⟩;cases L:w with
   |none=>
    refine ay.2 (z (Upd.refl _ _) fun v d=>?_)
    rcases d with⟨_,h⟩|h
    ·rw[L]at h;cases h
    ·exact absurd rfl (Aq hc h)
   |some u=>
    refine ag.2 (mF hb hs (by rw[V.1];exact hn) fun h1 s1 b1 ho1 hu1=>?_)
    refine⟨_,rfl,PL (i:=1) b1 (show 1<5 by decide),D7 (i:=1) (c':=CM sl false val s1 none) b1 rfl fun O b2 o=>?_⟩
    refine⟨_,rfl,PL (i:=2) b2 (show 2<5 by decide),D7 (i:=2) (c':=CM sl false ⟨#[]⟩ s1 none) b2 rfl fun h3 b3 D=>?_⟩
    have G:Upd No h h3:=hu1.own (o.tr D) (az _);have X:=ho1.upd (o.tr D) fun x hx e=>by have e:x=h.size:=e;have:=hx.1;omega
    refine hk h3 h.size none F true G ⟨⟨#[]⟩,s1,none,ks,b3,rfl,X.sl (fun x hx _ L=>by have:=hW _ L;have:=hx.1;omega),⟨X.cap,fun hx=>jJ _ (hW _ hx)⟩,RxF.upd0 G hF⟩ hc (KC hc) (fun h=>by cases h) fun _=>⟨u,.inl ⟨rfl,L⟩⟩
  ·have p:k.data.toList≠[]:=fun e=>hk0 (by cases k;exact congrArg tX (lf.1 e))
   obtain⟨c0,hc0,hc0e⟩:=Gw p;refine⟨c0,rV _,hc0,?_⟩;have hlk:k.data.toList.length=k.size:=iM k;refine Ad hr hc (c:=c0.toNat) (qU _) fun i ok hil hlo hhi hok=>?_
   rw[hc0e]at hlo hhi hok;cases ok with
   |false=>
    refine ay.2 (z (Upd.refl _ _) fun v d=>?_)
    rcases d with⟨h,_⟩|d
    ·exact p h
    ·obtain⟨n',hn',e,_⟩:=uR hc d
     obtain⟨j,hj,rfl⟩:=cP hn';rcases bQ j i with hl|hl
     ·have:=hlo j hj hl;omega
     ·have h1:=hhi j hj hl
      have O:=hhi i (by omega) (az _);rcases bQ i j with hl2|hl2
      ·have h3:=cR.1 hcan.1 i j (by omega) hj hl2
       omega
      ·have:i=j:=by omega
       subst this;have:=hok.2 ⟨hj,e⟩;cases this
   |true=>
    obtain⟨hi,Z⟩:=hok.1 rfl;refine ag.2 ⟨_,rfl,s,fh (i:=3) hb,?_⟩;obtain⟨kb,ksl,hki,C,E⟩:=V.at hi;have H:F.toL[i]∈F.toL:=ce hi;have T:=hcan.2 _ H;obtain⟨a,ha,_,hvv⟩:=hs.at0 hki;have hslen:=hs.len;rw[V.1]at hslen;have hlt1:(i:Int)<((s.len:Nat):Int):=by omega
    refine⟨⟨by simp only;omega,hlt1⟩,a,ha,some ⟨kb,0,none⟩,hvv,_,rfl,?_⟩;obtain⟨kval,kss,kow,kks,hkb,_⟩:=id E;have A:∀v,rq F k.data.toList v→uA F.toL[i] k.data.toList v:=fun v d=>by
     obtain⟨n',hn',e,hN⟩:=uR hc d;rw[←vW hc hn' H (by omega)];exact hN
    have q:∀j v,uA F.toL[i] j v→rq F j v:=fun j v d=>gt.2 ⟨_,H,d⟩
    have g:∀{m:Bn},Nh m→hd m.1=hd F.toL[i].1→ir (.ofL (F.toL.set i m)):=fun h1 O=>LN hc hi h1 O
    have S:∀{m:Bn},rT (uA F.toL[i]) (uA m) k.data.toList→rT (rq F) (rq (.ofL (F.toL.set i m))) k.data.toList:=fun hp=>MO hc hi Z hp
    have R:(∀k' v',uA F.toL[i] k' v'→k'=k.data.toList)→rT (rq F) (rq (.ofL (F.toL.take i++F.toL.drop (i+1)))) k.data.toList:=fun hp=>MP hc hi Z hp
    have hrset:∀{h':ad} {k':Option Addr} {m:Bn},Upd No h h'→Kid W h' k' m→RxL W h' (ks.set i k') (F.toL.set i m):=fun hu hkd=>(V.upd0 hu).set hi hkd
    generalize F.toL[i]=m at C E T A q g S R Z;obtain⟨lab,wk,Fk⟩:=m;simp only at C E T Z g;refine⟨ksl,fh (i:=0) hkb,O9 (fun Q f=>?_) fun B=>?_⟩
    ·rw[C]at f
     have hlne:lab.length≠0:=fun e=>T.1 (aY.1 e)
     have hrl:Q.size<k.size:=by
      rw[←iM Q,←hlk,f,ai];omega
     refine ag.2 ⟨_,rfl,s,fh (i:=3) hb,⟨by simp only;omega,hlt1⟩,a,ha,some ⟨kb,0,none⟩,hvv,?_⟩;have hkbd:∀j v,rq Fk j v→j.length≤1000000:=fun j v d=>by
      have:=hbd _ v (q (lab++j) v ⟨j,rfl,.inr d⟩);rw[ai]at this;omega
     refine ih Q (by omega) E hW T.2.2 hkbd fun O b2 w2 F2 t o rn2 hc2 hd2 hg0 hg1=>?_
     cases t with
     |false=>
      refine ay.2 (z o fun v d=>?_)
      rcases d with⟨h,_⟩|d
      ·exact p h
      ·obtain⟨r',e,hr'⟩:=A v d
       simp only at e;rw[f]at e;exact(hg0 rfl).2 v (by rw[ge e];exact hr')
     |true=>
      obtain⟨v0,hv0⟩:=hg1 rfl;have I:∃v,sR w F k.data.toList v:=⟨v0,.inr (q _ _ ⟨_,f,hv0⟩)⟩;have hdn:rT (uA (lab,wk,Fk)) (uA (lab,w2,F2)) k.data.toList:=by
       rw[f];exact KF hd2
      refine ag.2 (mF (o.get0 hb) (hs.upd o fun _ h=>h.elim) (by rw[V.1];exact hn) fun h3 s3 b3 X D=>?_)
      have G:=o.tr D;obtain⟨rr,vv,d⟩:=sL hc _ H;have hlb:lab.length≤1000000:=by
       have:=hbd _ v0 (q _ _ ⟨_,f,hv0⟩);rw[f,ai]at this;omega
      have hb2:∀j v,rq F2 j v→j.length≤1000000:=fun j v d=>by
       rcases((hd2 j v).1 (.inr d)).2 with⟨e,_⟩|h
       ·rw[e];simp
       ·exact hkbd j v h
      refine Mc (W:=Pro W O h3) ((rn2.less Pro.hm).upd0 D) (Pro.lt (fun y hy=>aC (hW y hy) o.size) D) hc2 (by rw[C];exact T.1) (by rw[←iM ksl,C];exact hlb) hb2 fun h4 r4 o4 Y hm4 hr4=>?_
      rw[C]at hm4;have b4:=Y.get0 b3;have ho4:=X.upd Y fun _ _ h=>h
      have hu04:=G.tr Y;have hz2:h.size≤O.size:=o.size;have hil:i<ks.length:=by rw[V.1];exact hi
      have hlen4:=ho4.len;rcases hr4 with⟨rfl,rfl⟩|⟨b4',sl4,m4,rfl,rfl,hsl4,rn4⟩
      ·rcases hm4 with⟨_,B⟩|⟨_,e,_⟩
       ·have ew:ac .i64 ((i:Int)+1)=((i+1:Nat):Int):=by rw[j2 (by omega)];omega
        refine ay.2 ⟨_,rfl,s3,fh (i:=3) b4,?_⟩;simp only;rw[ew];refine KG ho4 hil (by rw[V.1];omega) fun s5 h5 P J=>?_
        have b5:=J.get b4 fun hx=>by have:=hx.1;omega
        refine⟨_,rfl,PL (i:=3) b5 (show 3<5 by decide),D7 (i:=3) (c':=CM sl w.isSome val s5 none) b5 rfl fun h6 b6 hu6=>?_⟩
        have N:Upd No h h6:=(hu04.trans J fun x hx=>.inr (by have:=hx.1;omega)).own hu6 hz2
        have ho6:=P.upd hu6 fun x hx e=>by have e:x=O.size:=e;have:=hx.1;omega
        refine hk h6 O.size w _ true N ⟨val,s5,none,_,b6,hv,ho6.sl (fun x hx _ L=>by have:=hW _ L;have:=hx.1;omega),⟨ho6.cap,fun hx=>by have:=hW _ hx;omega⟩,kE.2 (by rw[Fo.to_of];exact((V.upd0 N).take i).app ((V.upd0 N).drop (i+1)))⟩ (QD hc) (Dm p (R fun k' v' hN=>?_)) (fun h=>by cases h) fun _=>I
        refine Classical.byContradiction fun hne=>B k' v' ((hdn k' v').2 ⟨hne,hN⟩)
       ·cases e
      ·rcases hm4 with⟨e,_⟩|⟨m',e,hcn,hhd,hiff⟩
       ·cases e
       ·cases e
        obtain⟨a3,ha3,U,hw3,P,J⟩:=OwnS.setAt ho4 hil (some ⟨b4',0,none⟩);refine ag.2 ⟨_,rfl,s3,fh (i:=3) b4,⟨by simp only;omega,by simp only;omega⟩,a3,ha3,?_⟩
        have hw1:Wr h4 (adr a3 (i*1)):=by
         rcases hw3 with L|⟨b',hb',L⟩
         ·cases L
         ·cases hb';exact L 0 (by simp)
        refine⟨hw1,aU ?_⟩;have b5:=J.get b4 fun e=>by have e:O.size=a3.block:=e;have:=U.1;omega
        have hu45:Upd No O _:=(D.tr Y).trans J fun x hx=>.inr (by have hx:x=a3.block:=hx;have:=U.1;omega)
        have hu05:=o.tr hu45;have eset:ks.set i (some ⟨b4',0,none⟩)=ks.take i++some ⟨b4',0,none⟩::ks.drop (i+1):=by rw[cQ,if_pos hil]
        rw[←eset]at P;have rn5:=(rn4.updM (M:=(· =a3.block)) J fun y hy=>.inl (.inr (by have hy:y=a3.block:=hy;have:=U.1;have:=U.2;omega))).less (W':=W) fun y hy=>.inl (.inl hy)
        exact hk _ O.size w _ true hu05 ⟨val,s3,none,_,b5,hv,P.sl (fun x hx _ L=>by have:=hW _ L;have:=hx.1;omega),⟨P.cap,fun hx=>by have:=hW _ hx;omega⟩,kE.2 (by rw[Fo.to_of];exact hrset hu05 ⟨b4',sl4,rfl,hsl4,rn5⟩)⟩ (g hcn hhd) (Dm p (S fun k' v'=>by rw[hiff k' v'];exact hdn k' v')) (fun h=>by cases h) fun _=>I
    ·rw[C]at B
     refine ay.2 (z (Upd.refl _ _) fun v d=>?_)
     rcases d with⟨h,_⟩|d
     ·exact p h
     ·obtain⟨r',e,_⟩:=A v d
      exact B r' e
end Go.Proofs
namespace Go.Proofs
open Go Go.Lift
theorem Mg{w:Option ByteArray}{F:Fo}{l:List Pr}(h:∀k v,(k,v)∈Ok w F↔∃p∈l,p.1.data.toList=k∧p.2=v)(a:Fit l):∀j v,rq F j v→j.length≤1000000:=fun j v hi=>by
 obtain⟨p,b,e,_⟩:=(h j v).1 (oI.2 (.inr hi));have:=(a p b).1;rw[←e,iM];omega
theorem F4{W:Nat→Prop}{h:ad}{b:Nat}{l:List Pr}(t:RadAt W h b l)(D:∀y,W y→y<h.size)(J:Fit l)(k:ByteArray){K:Option Addr×Bool→ad→Prop}
  (N:∀h' b',Upd No h h'→RadAt W h' b' (mB k l)→(bX l k=false→b'=b)→K (some ⟨b',0,none⟩,bX l k) h'):
  HC PG tI [.pointer none,.pointer (some ⟨b,0,none⟩),.string k] [.c .ptr,.c .bool] K h:=by
 refine GW none (some ⟨b,0,none⟩) k ?_;unfold zx BH;refine Ac (.inr ⟨b,rfl,t⟩) D fun R b2 L i z=>?_
 have m:b2=b:=by
  rcases z with e|e
  ·cases e;rfl
  ·cases e
 subst m;obtain⟨w,F,H,P,s⟩:=L.ex;refine Od (k.size+1) k (by omega) H (fun y G=>aC (D y G) i.size) P (Mg s J) fun E b3 w' I a C o B A g n=>?_
 have f:∀v,sR w F k.data.toList v↔(k,v)∈l:=fun v=>by
  rw[←oI,s];constructor
  ·rintro⟨p,x,e1,rfl⟩
   rw[←qE.1 e1];exact x
  ·intro x;exact⟨_,x,rfl,rfl⟩
 have u:a=bX l k:=by
  cases a with
  |false=>
   refine(H0 fun q d e=>(g rfl).2 q.2 ((f _).2 ?_)).symm
   rw[←e];exact d
  |true=>
   obtain⟨v,Q⟩:=n rfl;exact(List.any_eq_true.2 ⟨_,(f v).1 Q,decide_eq_true rfl⟩).symm
 subst u;refine N E b3 (i.tr C) ⟨w',I,o,B,fun j v=>?_⟩ fun O=>(g O).1
 rw[oI,A j v,←oI,s];constructor
 ·rintro⟨c,q,d,rfl,rfl⟩
  exact⟨q,Lz.2 ⟨d,fun e=>c (by rw[e])⟩,rfl,rfl⟩
 ·rintro⟨q,d,rfl,rfl⟩
  obtain⟨d,c⟩:=Lz.1 d;exact⟨fun e=>c (qE.1 e),q,d,rfl,rfl⟩
theorem Hn{W:Nat→Prop}{x:Hs}{h:ad}{kind:Int}{t:Tr}{l:List Pr}(i:TreeIs W h kind x t l)(hW:∀y,W y→y<h.size)(hr:dM l)(hf:Fit l)(hn:l.length≤1000000)(k:ByteArray)(J:k.size≤256){K:Tr×Int→ad→Prop}
  (H:∀h' j,TreeIs W h' kind x j (mB k l)→(bX l k=false→j=t)→Upd No h h'→K (j,if bX l k then 0 else 4) h'):HC PG li [L4 t,.pointer none,.string k] [.agg [.int .i64,.int .u64,.int .u64,.int .u64,.ptr,.ptr],.c (.int .i64)] K h:=by
 refine wg t none k ?_;unfold pN ao eH nv eI cg pj ae ah nI kH fZ uv BH;refine cf fun d b1 k1=>cf fun s b2 P=>?_
 have z1:=bp b1;have z2:=bp b2;have Z:h.size≤d.size:=k1.size;have S:=k1.tr P;refine E1 (v:=⟨#[]⟩) J (cu 4096) (ag.2 ?_);have c1:=P.get0 b1;refine⟨_,vc c1 0,_,vc c1 1,_,vc c1 2,_,vc c1 3,_,vc c1 4,_,vc c1 5,?_⟩;refine cf fun h3 b3 k3=>?_
 have z3:=bp b3;have s2:d.size≤s.size:=P.size;refine eN (c:=nu zQ) (vs:=nu t) b3 rfl fun F X A=>?_
 have w:Upd No h F:=(S.tr k3).own A (by omega);have D:Upd No s F:=k3.own A (az _);have s4:h3.size≤F.size:=A.size;have u:=D.get0 c1;have V:=D.get0 b2;have i4:=i.pro w;have C:=Pro.lt hW w;have T:∀{a:ad} {j:Tr},Upd No h a→a[h.size]? =some (.cells (nu j).toArray bH (0,0))→a[d.size]? =some (.cells (nu zQ).toArray bH (0,0))→a[s.size]? =some (.cells (nu t).toArray bH (0,0))→TreeIs (Pro W h F) a kind x j (mB k l)→(bX l k=false→j=t)→
   CondP (!bX l k) (∃v41:Int,aE a (adr (aR s) 0)=some (.int .i64 v41)∧
    ∃v42:Int,aE a (adr (aR s) 1)=some (.int .u64 v42)∧
    ∃v43:Int,aE a (adr (aR s) 2)=some (.int .u64 v43)∧
    ∃v44:Int,aE a (adr (aR s) 3)=some (.int .u64 v44)∧
    ∃v45:Option Addr,aE a (adr (aR s) 4)=some (.pointer v45)∧
    ∃v46:Option Addr,aE a (adr (aR s) 5)=some (.pointer v46)∧
    (sq a (some (aR d)) 0 [.int .i64 v41,.int .u64 v42,.int .u64 v43,.int .u64 v44,.pointer v45,.pointer v46]∧
     At (ia a (aR d) 0 [.int .i64 v41,.int .u64 v42,.int .u64 v43,.int .u64 v44,.pointer v45,.pointer v46]) (fun n=>
      ∃v48:Int,aE n (adr (aR d) 0)=some (.int .i64 v48)∧
      ∃v49:Int,aE n (adr (aR d) 1)=some (.int .u64 v49)∧
      ∃v50:Int,aE n (adr (aR d) 2)=some (.int .u64 v50)∧
      ∃v51:Int,aE n (adr (aR d) 3)=some (.int .u64 v51)∧
      ∃v52:Option Addr,aE n (adr (aR d) 4)=some (.pointer v52)∧
      ∃v53:Option Addr,aE n (adr (aR d) 5)=some (.pointer v53)∧
      K ((v48,v49,v50,v51,v52,v53),4) n))) (
    ∃v54:Int,aE a (adr (aR h) 0)=some (.int .i64 v54)∧
    ∃v55:Int,aE a (adr (aR h) 1)=some (.int .u64 v55)∧
    ∃v56:Int,aE a (adr (aR h) 2)=some (.int .u64 v56)∧
    ∃v57:Int,aE a (adr (aR h) 3)=some (.int .u64 v57)∧
    ∃v58:Option Addr,aE a (adr (aR h) 4)=some (.pointer v58)∧
    ∃v59:Option Addr,aE a (adr (aR h) 5)=some (.pointer v59)∧
    (sq a (some (aR d)) 0 [.int .i64 v54,.int .u64 v55,.int .u64 v56,.int .u64 v57,.pointer v58,.pointer v59]∧
     At (ia a (aR d) 0 [.int .i64 v54,.int .u64 v55,.int .u64 v56,.int .u64 v57,.pointer v58,.pointer v59]) (fun m=>
      ∃v61:Int,aE m (adr (aR d) 0)=some (.int .i64 v61)∧
      ∃v62:Int,aE m (adr (aR d) 1)=some (.int .u64 v62)∧
      ∃v63:Int,aE m (adr (aR d) 2)=some (.int .u64 v63)∧
      ∃v64:Int,aE m (adr (aR d) 3)=some (.int .u64 v64)∧
      ∃v65:Option Addr,aE m (adr (aR d) 4)=some (.pointer v65)∧
      ∃v66:Option Addr,aE m (adr (aR d) 5)=some (.pointer v66)∧
      K ((v61,v62,v63,v64,v65,v66),0) m))):=fun{a j} G z e1 e2 I g=>by
  cases B:bX l k with
  |false=>
   rw[B]at H g;have N:=g rfl;subst N;refine ay.2 ⟨_,vc e2 0,_,vc e2 1,_,vc e2 2,_,vc e2 3,_,vc e2 4,_,vc e2 5,?_⟩;refine eN (c:=nu zQ) (vs:=nu j) e1 rfl fun U o q=>?_
   refine⟨_,vc o 0,_,vc o 1,_,vc o 2,_,vc o 3,_,vc o 4,_,vc o 5,?_⟩;exact H U j ((I.updM q (fun y p=>.inl (.inr (by have p:y=d.size:=p;omega)))).less Pro.sub) (fun _=>rfl) (G.own q Z)
  |true=>
   rw[B]at H g;refine ag.2 ⟨_,vc z 0,_,vc z 1,_,vc z 2,_,vc z 3,_,vc z 4,_,vc z 5,?_⟩;refine eN (c:=nu zQ) (vs:=nu j) e1 rfl fun U o q=>?_
   refine⟨_,vc o 0,_,vc o 1,_,vc o 2,_,vc o 3,_,vc o 4,_,vc o 5,?_⟩;exact H U j ((I.updM q (fun y p=>.inl (.inr (by have p:y=d.size:=p;omega)))).less Pro.sub) (fun h=>by cases h) (G.own q Z)
 refine Join.intro (fun tk a=>tk=bX l k∧Upd No h a∧∃j,a[h.size]? =some (.cells (nu j).toArray bH (0,0))∧a[d.size]? =some (.cells (nu zQ).toArray bH (0,0))∧a[s.size]? =some (.cells (nu t).toArray bH (0,0))∧TreeIs (Pro W h F) a kind x j (mB k l)∧(bX l k=false→j=t)) (fun R Y=>?_) ?_
 ·rcases i4 with⟨rfl,b,rfl,O⟩|⟨rfl,b,rfl,O⟩
  ·refine⟨_,vc u 0,ag.2 ⟨_,zX u 1 0,_,zX u 1 1,_,zX u 1 2,_,vc u 4,?_⟩⟩
   refine GK O C hr hn k fun h5 E f L g=>?_
   refine tq (i:=4) (c':=(nu (0,x.k0,x.k1,x.mask,some ⟨E,0,none⟩,none)).toArray) (f.get0 u) (show 4<6 by decide) rfl fun a Q e=>?_
   exact Y _ _ ⟨rfl,(w.tr f).own e (az _),_,Q,e.oth (f.get0 V) (by omega),e.oth (f.get0 X) (by omega),.inl ⟨rfl,E,rfl,TrieAt.updM e (fun y p=>.inl (.inr (by have p:y=h.size:=p;omega))) L⟩,fun B=>by rw[g B]⟩
  ·refine⟨_,vc u 0,ay.2 ⟨_,vc u 5,?_⟩⟩
   refine F4 O C hf k fun h5 E f L g=>?_
   refine tq (i:=5) (c':=(nu (1,0,0,0,none,some ⟨E,0,none⟩)).toArray) (f.get0 u) (show 5<6 by decide) rfl fun a Q e=>?_
   exact Y _ _ ⟨rfl,(w.tr f).own e (az _),_,Q,e.oth (f.get0 V) (by omega),e.oth (f.get0 X) (by omega),.inr ⟨rfl,E,rfl,L.updM e (fun y p=>.inl (.inr (by have p:y=h.size:=p;omega)))⟩,fun B=>by rw[g B]⟩
 ·rintro _ a ⟨rfl,G,j,z,e1,e2,I,g⟩
  exact T G z e1 e2 I g
end Go.Proofs
namespace Go.Proofs
open Go Go.Lift
end Go.Proofs
namespace Go.Proofs
open Go Go.Lift
theorem MC(p:Pr)(l:List Pr)(k:ByteArray):look (p::l) k=if p.1=k then some p.2 else look l k:=by
 unfold look;rw[List.find?_cons];by_cases e:p.1=k
 ·rw[decide_eq_true e,if_pos e];rfl
 ·rw[decide_eq_false e,if_neg e]
theorem H4{k v:ByteArray}:∀{l:List Pr},look l k=some v→(k,v)∈l
 | [],h=>by cases h
 |p::l,h=>by
  rw[MC]at h;by_cases e:p.1=k
  ·rw[if_pos e]at h;cases h;rw[←e];exact List.mem_cons_self ..
  ·rw[if_neg e]at h;exact List.mem_cons_of_mem _ (H4 h)
def Rn(c:Ch):Bool:=(!((!c.2.2.2.1&& !c.2.2.2.2)||(c.2.2.2.1&&(c.2.2.2.2&&decide (c.2.1=c.2.2.1)))))&&((c.2.2.2.1||decide (c.2.1=⟨#[]⟩))&&(c.2.2.2.2||decide (c.2.2.1=⟨#[]⟩)))
def one(c:Ch):Option Ch:=if Rn c then some c else none
end Go.Proofs
namespace Go.Proofs
open Go Go.Lift
end Go.Proofs
namespace Go.Proofs
open Go Go.Lift
end Go.Proofs
namespace Go.Proofs
open Go Go.Lift
end Go.Proofs
namespace Go.Proofs
open Go Go.Lift
end Go.Proofs
namespace Go.Proofs
open Go Go.Lift
end Go.Proofs
namespace Go.Proofs
open Go Go.Lift
end Go.Proofs
namespace Go.Proofs
open Go Go.Lift
end Go.Proofs
namespace Go.Proofs
open Go Go.Lift
end Go.Proofs
namespace Go.Proofs
open Go Go.Lift
def Sk(o:Option ByteArray):Sd:=(o.getD ⟨#[]⟩,o.isSome)
def Sg(b o t:Option ByteArray)(p:Int):Option ByteArray×Bool:=if o=t∨t=b then(o,true)else if o=b then(t,true)else if p=1 then(o,false)else if p=2 then(t,false)else(b,false)
def P5(L:List Pr)(k:ByteArray):Option ByteArray→List Pr
 |some v=>iG (k,v) L
 |none=>mB k L
def tk(B O T:List Pr)(p:Int)(k:ByteArray):Option ByteArray×Bool:=Sg (look B k) (look O k) (look T k) p
end Go.Proofs
namespace Go.Proofs
open Go Go.Lift Go.Sort
abbrev Pb:Value:=.func (.func vh) #[] #[]
def Am(dec:Int→Ch)(i j:Int):Bool:=Tv (dec i) (dec j)
structure SA(dec:Int→Ch)(M:Nat→Prop)(s:SliceV)(h:ad)(d:Array Int):Prop where
 own:OwnS TQ 5 jH M h s (d.toList.map dec)
 small:d.size≤1000000000
 lt:∀b,M b→b<h.size
variable {dec:Int→Ch} {M:Nat→Prop} {s:SliceV} {h:ad} {d:Array Int}
theorem SA.len(a:SA dec M s h d):s.len=d.size:=by have:=a.own.len;simpa using this
theorem SA.upd0{h':ad}(a:SA dec M s h d)(k:Upd No h h'):SA dec M s h' d:=⟨a.own.upd k fun _ _ h=>h,a.small,fun b c=>aC (a.lt b c) k.size⟩
theorem SA.at(b:SA dec M s h d){i:Nat}(hi:i<d.size):∃a,s.a=some a∧∀j v,(TQ (dec d[i]!))[j]? =some v→aE h (adr (adr a (((i:Int)).toNat*5)) j)=some v:=by
 have hx:(d.toList.map dec)[i]? =some (dec d[i]!):=by
  rw[List.getElem?_map,Array.getElem?_toList,Array.getElem?_eq_getElem hi,getElem!_pos d i hi];rfl
 obtain⟨a,e,_,c⟩:=(b.own.sl (W:=No) fun _ _ _ h=>h).at hx
 exact⟨a,e,by simpa using c⟩
theorem SA.rd(c:SA dec M s h d){t:Int}{i:Nat}(g:t=(i:Int))(hi:i<d.size){R:ByteArray→ByteArray→ByteArray→Bool→Bool→Prop}(f:R (dec d[i]!).1 (dec d[i]!).2.1 (dec d[i]!).2.2.1 (dec d[i]!).2.2.2.1 (dec d[i]!).2.2.2.2):
  ((0:Int)≤t∧t<((s.len:Nat):Int))∧∃a:Addr,s.a=some a∧∃v1:ByteArray,aE h (adr (adr a (t.toNat*5)) 0)=some (.string v1)∧∃v2:ByteArray,aE h (adr (adr a (t.toNat*5)) 1)=some (.string v2)∧∃v3:ByteArray,aE h (adr (adr a (t.toNat*5)) 2)=some (.string v3)∧∃v4:Bool,aE h (adr (adr a (t.toNat*5)) 3)=some (.bool v4)∧∃v5:Bool,aE h (adr (adr a (t.toNat*5)) 4)=some (.bool v5)∧R v1 v2 v3 v4 v5:=by
 subst g;obtain⟨a,e,b⟩:=c.at hi;exact⟨by rw[c.len];omega,a,e,_,b 0 _ rfl,_,b 1 _ rfl,_,b 2 _ rfl,_,b 3 _ rfl,_,b 4 _ rfl,f⟩
theorem SA.st(e:SA dec M s h d){t:Int}{i:Nat}{x:Int}(o:t=(i:Int))(hi:i<d.size){R:ad→Prop}(n:∀h',SA dec M s h' (d.setIfInBounds i x)→Upd M h h'→R h'):
  ((0:Int)≤t∧t<((s.len:Nat):Int))∧∃a:Addr,s.a=some a∧(sq h (some (adr a (t.toNat*5))) 0 [.string (dec x).1,.string (dec x).2.1,.string (dec x).2.2.1,.bool (dec x).2.2.2.1,.bool (dec x).2.2.2.2]∧At (ia h (adr a (t.toNat*5)) 0 [.string (dec x).1,.string (dec x).2.1,.string (dec x).2.2.1,.bool (dec x).2.2.2.1,.bool (dec x).2.2.2.2]) R):=by
 subst o;obtain⟨a,m,hM,j,p,g⟩:=OwnS.setAt e.own (k:=i) (by simpa using hi) (dec x);refine⟨by rw[e.len];omega,a,m,?_⟩;rw[aB];have f:Upd M h _:=g.mono fun b c=>.inl (by have c:b=a.block:=c;rw[c];exact hM)
 refine⟨j,aU (n _ ⟨?_,by simpa using e.small,fun b c=>aC (e.lt b c) g.size⟩ f)⟩
 rw[show(d.setIfInBounds i x).toList.map dec=(d.toList.map dec).take i++dec x::(d.toList.map dec).drop (i+1) by
  rw[Array.toList_setIfInBounds,List.map_set,cQ,if_pos (by simpa using hi)]]
 exact p
@[simp] theorem Si(d:Array Int)(i j:Nat):(swp d i j).size=d.size:=by simp[swp]
theorem SA.swap(e:SA dec M s h d){b c:Int}{i j:Nat}(o:b=(i:Int))(m:c=(j:Int))(hi:i<d.size)(n:j<d.size){R:ad→Prop}(t:∀h',SA dec M s h' (swp d i j)→Upd M h h'→R h'):
  ((0:Int)≤c∧c<((s.len:Nat):Int))∧∃a:Addr,s.a=some a∧∃v1:ByteArray,aE h (adr (adr a (c.toNat*5)) 0)=some (.string v1)∧∃v2:ByteArray,aE h (adr (adr a (c.toNat*5)) 1)=some (.string v2)∧∃v3:ByteArray,aE h (adr (adr a (c.toNat*5)) 2)=some (.string v3)∧∃v4:Bool,aE h (adr (adr a (c.toNat*5)) 3)=some (.bool v4)∧∃v5:Bool,aE h (adr (adr a (c.toNat*5)) 4)=some (.bool v5)∧
   (((0:Int)≤b∧b<((s.len:Nat):Int))∧∃a:Addr,s.a=some a∧∃w1:ByteArray,aE h (adr (adr a (b.toNat*5)) 0)=some (.string w1)∧∃w2:ByteArray,aE h (adr (adr a (b.toNat*5)) 1)=some (.string w2)∧∃w3:ByteArray,aE h (adr (adr a (b.toNat*5)) 2)=some (.string w3)∧∃w4:Bool,aE h (adr (adr a (b.toNat*5)) 3)=some (.bool w4)∧∃w5:Bool,aE h (adr (adr a (b.toNat*5)) 4)=some (.bool w5)∧
    (((0:Int)≤b∧b<((s.len:Nat):Int))∧∃a:Addr,s.a=some a∧(sq h (some (adr a (b.toNat*5))) 0 [.string v1,.string v2,.string v3,.bool v4,.bool v5]∧At (ia h (adr a (b.toNat*5)) 0 [.string v1,.string v2,.string v3,.bool v4,.bool v5]) (fun f=>
     (((0:Int)≤c∧c<((s.len:Nat):Int))∧∃a:Addr,s.a=some a∧(sq f (some (adr a (c.toNat*5))) 0 [.string w1,.string w2,.string w3,.bool w4,.bool w5]∧At (ia f (adr a (c.toNat*5)) 0 [.string w1,.string w2,.string w3,.bool w4,.bool w5]) R)))))):=by
 refine e.rd m n (e.rd o hi (e.st (x:=d[j]!) o hi fun f k k1=>k.st (x:=d[i]!) m (by simpa using n) fun q g p=>t q g (k1.tr p)))
theorem SA.less(f:SA dec M s h d){b c:Int}{i j:Nat}(o:b=(i:Int))(m:c=(j:Int))(hi:i<d.size)(n:j<d.size){R:Int→ad→Prop}(p:∀h' e,SA dec M s h' d→Upd No h h'→decide (e<0)=Am dec d[i]! d[j]!→R e h'):
  ((0:Int)≤b∧b<((s.len:Nat):Int))∧∃a:Addr,s.a=some a∧∃v1:ByteArray,aE h (adr (adr a (b.toNat*5)) 0)=some (.string v1)∧∃v2:ByteArray,aE h (adr (adr a (b.toNat*5)) 1)=some (.string v2)∧∃v3:ByteArray,aE h (adr (adr a (b.toNat*5)) 2)=some (.string v3)∧∃v4:Bool,aE h (adr (adr a (b.toNat*5)) 3)=some (.bool v4)∧∃v5:Bool,aE h (adr (adr a (b.toNat*5)) 4)=some (.bool v5)∧
   (((0:Int)≤c∧c<((s.len:Nat):Int))∧∃a:Addr,s.a=some a∧∃w1:ByteArray,aE h (adr (adr a (c.toNat*5)) 0)=some (.string w1)∧∃w2:ByteArray,aE h (adr (adr a (c.toNat*5)) 1)=some (.string w2)∧∃w3:ByteArray,aE h (adr (adr a (c.toNat*5)) 2)=some (.string w3)∧∃w4:Bool,aE h (adr (adr a (c.toNat*5)) 3)=some (.bool w4)∧∃w5:Bool,aE h (adr (adr a (c.toNat*5)) 4)=some (.bool w5)∧
    HV PG Pb [.agg #[.string v1,.string v2,.string v3,.bool v4,.bool v5],.agg #[.string w1,.string w2,.string w3,.bool w4,.bool w5]] [.c (.int .i64)] R h):=
 f.rd o hi (f.rd m n ((SR M).call (dec d[i]!) (dec d[j]!) trivial fun h' e k g=>p h' e (f.upd0 k) k g))
end Go.Proofs
namespace Go.Proofs
open Go Go.Lift Go.Sort
variable {dec:Int→Ch} {M:Nat→Prop} {s:SliceV} {h:ad} {d:Array Int}
@[simp] theorem PJ(lt:Int→Int→Bool)(hi first a:Nat)(d:Array Int):(siftDown lt hi first a d).size=d.size:=by
 fun_induction siftDown lt hi first a d<;>simp_all
@[simp] theorem C7(lt:Int→Int→Bool)(hi first:Nat):∀(k:Nat) (d:Array Int),(heapBuild lt hi first k d).size=d.size
 |0,d=>rfl
 |k+1,d=>by rw[heapBuild,C7 lt hi first k];simp
theorem QR{a hi first:Nat}(J:SA dec M s h d)(Z:first+hi≤d.size){K:Unit→ad→Prop}(L:∀h',SA dec M s h' (siftDown (Am dec) hi first a d)→Upd M h h'→K () h')(U:a≤1000000000):
  HC PG gk [.slice s.a s.len s.cap,.int .i64 a,.int .i64 hi,.int .i64 first,Pb] [] K h:=by
 refine lq s a hi first Pb ?_
 unfold gl bA dU yu cC cX sG BG BI;have X:=J.small;refine LoopP.ghost (fun(g:Nat×Array Int) (t:Int) h'=>t=(g.1:Int)∧SA dec M s h' g.2∧g.2.size=d.size∧siftDown (Am dec) hi first g.1 g.2=siftDown (Am dec) hi first a d∧Upd M h h'∧g.1≤1000000000) (fun g=>hi-g.1) (a,d)
  ⟨rfl,J,rfl,rfl,Upd.refl _ _,U⟩ ?_
 rintro I ⟨i,b⟩ t O ⟨N,n,z,m,y,F⟩ V;simp only at N n z m F;subst N;have S:ac .i64 (ac .i64 (2*(i:Int))+1)=((2*i+1:Nat):Int):=by rw[j2 (x:=2*(i:Int)) (by omega),j2 (by omega)];omega
 have H:ac .i64 (((2*i+1:Nat):Int)+1)=((2*i+2:Nat):Int):=by rw[j2 (by omega)];omega
 rw[S];refine aG (fun T=>?_) fun E=>?_
 ·refine L _ ?_ y
  rw[←m,siftDown,dif_pos (by omega)];exact n
 ·have E:2*i+1<hi:=by omega
  refine Join.intro (fun t h'=>SA dec M s h' b∧Upd No O h'∧∃c:Nat,t=(c:Int)∧c=if 2*i+2<hi∧(Am dec) b[first+(2*i+1)]! b[first+(2*i+1)+1]! =true then 2*i+2 else 2*i+1) (fun R G=>?_) ?_
  ·refine Join.intro (fun t h'=>SA dec M s h' b∧Upd No O h'∧(t=true↔2*i+2<hi∧(Am dec) b[first+(2*i+1)]! b[first+(2*i+1)+1]! =true)) (fun R2 v=>?_) ?_
   ·show CondP (decide (ac .i64 (((2*i+1:Nat):Int)+1)<(hi:Int))) _ _
    rw[H];refine aG (fun k=>?_) fun k=>v _ _ ⟨n,Upd.refl _ _,by simp;omega⟩
    show(((0:Int)≤ac .i64 ((first:Int)+((2*i+1:Nat):Int))∧_)∧_)
    refine n.less (i:=first+(2*i+1)) (j:=first+(2*i+1)+1) (by rw[j2 (by omega)];omega) (by rw[j2 (x:=(first:Int)+_) (by omega),j2 (by omega)];omega) (by omega) (by omega) fun h4 e4 e o D=>v _ _ ⟨e,o,?_⟩
    rw[D];simp;omega
   ·rintro t h' ⟨e,o,w⟩
    refine CondP.intro (fun k=>?_) fun k=>?_
    ·show R (ac .i64 (((2*i+1:Nat):Int)+1)) _
     rw[H];exact G _ _ ⟨e,o,_,rfl,by rw[if_pos (w.1 k)]⟩
    ·exact G _ _ ⟨e,o,_,rfl,by rw[if_neg fun P=>by rw[w.2 P]at k;cases k]⟩
  ·rintro t h' ⟨e,o,c,rfl,hc⟩
   have Q:c<hi∧i<c:=by rw[hc];split<;>omega
   refine e.less (i:=first+i) (j:=first+c) (by rw[j2 (by omega)];omega) (by rw[j2 (by omega)];omega) (by omega) (by omega) fun h5 e5 p W A=>?_
   have u:=y.tr (o.tr W).wide;rw[A];have f:siftDown (Am dec) hi first i b=if !(Am dec) b[first+i]! b[first+c]! then b else siftDown (Am dec) hi first c (swp b (first+i) (first+c)):=by
    rw[siftDown,dif_neg (by omega)];by_cases q:2*i+2<hi∧(Am dec) b[first+(2*i+1)]! b[first+(2*i+1)+1]! =true
    ·rw[if_pos (by simp only[aQ,decide_eq_true_iff];exact q),dif_pos q.1]
     rw[if_pos q]at hc;rw[hc]
    ·rw[if_neg (by simp only[aQ,decide_eq_true_iff];exact q)]
     rw[if_neg q]at hc;rw[hc]
   refine CondP.intro (fun k=>?_) fun k=>?_
   ·refine L _ ?_ u
    rw[←m,f,if_pos k];exact p
   ·refine p.swap (i:=first+i) (j:=first+c) (by rw[j2 (by omega)];omega) (by rw[j2 (by omega)];omega) (by omega) (by omega) fun Y C B=>?_
    refine V (c,swp b (first+i) (first+c)) _ _ ⟨rfl,C,by simp[z],?_,u.tr B,by simp only;omega⟩ (by simp only;omega)
    rw[←m,f,if_neg (by rw[k];simp)]
end Go.Proofs
namespace Go.Proofs
open Go Go.Lift Go.Sort
variable {dec:Int→Ch} {M:Nat→Prop} {s:SliceV} {h:ad} {d:Array Int}
end Go.Proofs
namespace Go.Proofs
open Go Go.Lift Go.Sort
variable {dec:Int→Ch} {M:Nat→Prop} {s:SliceV} {h:ad} {d:Array Int}
@[simp] theorem CH(lt:Int→Int→Bool):∀(j:Nat) (d:Array Int),(shiftDown lt j d).size=d.size
 |0,d=>rfl
 |j+1,d=>by rw[shiftDown];split;rfl;rw[CH lt j];simp
@[simp] theorem P4(lt:Int→Int→Bool)(e j:Nat)(d:Array Int):(shiftUp lt e j d).size=d.size:=by
 fun_induction shiftUp lt e j d<;>simp_all
theorem PM{a e:Nat}(hs:SA dec M s h d)(ha:a<e)(he:e≤d.size){K:Bool→ad→Prop}(Q:∀h',SA dec M s h' (partialInsertionSort (Am dec) d a e).1→Upd M h h'→K (partialInsertionSort (Am dec) d a e).2 h'):
  HC PG dY [.slice s.a s.len s.cap,.int .i64 a,.int .i64 e,Pb] [.c .bool] K h:=by
 refine g4 s a e Pb ?_;unfold dZ bA dU yu cC cX sG BG BI;have hsm:=hs.small;refine LoopP.ghost (fun(g:Nat×Nat×Array Int) (t:Int×Int) h'=>t.1=(g.2.1:Int)∧t.2=5-(g.1:Int)∧SA dec M s h' g.2.2∧g.2.2.size=d.size∧partialIns (Am dec) a e g.1 g.2.1 g.2.2=partialInsertionSort (Am dec) d a e∧Upd M h h'∧g.1≤5∧a<g.2.1∧g.2.1≤e) (fun g=>g.1) (5,a+1,d)
  ⟨by simp only;rw[j2 (by omega)];rfl,by simp only;omega,hs,rfl,rfl,Upd.refl _ _,by simp,by simp,by simp only;omega⟩ ?_
 rintro I ⟨st,i0,A⟩ ⟨t1,t2⟩ h1 ⟨ht1,U,D,hz1,x,hu1,hst,hai,hie⟩ hI;simp only at ht1 U D hz1 x hst hai hie;subst ht1 U;refine aG (fun hlt=>?_) fun hge=>?_
 ·obtain⟨st,rfl⟩:∃k,st=k+1:=⟨st-1,by have:5-(st:Int)<5:=hlt;omega⟩
  refine Join.intro (fun t h'=>∃S Z,t=(S:Nat)∧SA dec M s h' Z∧Z.size=d.size∧partialIns (Am dec) a e st S Z=partialInsertionSort (Am dec) d a e∧Upd M h h'∧a<S∧S≤e) (fun R hR=>?_) ?_
  ·refine LoopP.ghost (fun(i:Nat) (t:Int) h'=>t=(i:Int)∧SA dec M s h' A∧Upd No h1 h'∧scanSorted (Am dec) A e i=scanSorted (Am dec) A e i0∧a<i∧i≤e) (fun i=>e-i) i0 ⟨rfl,D,Upd.refl _ _,rfl,hai,hie⟩ ?_
   rintro I2 i t h' ⟨rfl,y,k2,Y,m,n⟩ hI2;refine Join.intro (fun c O=>SA dec M s O A∧Upd No h' O∧(c=true↔i<e∧(Am dec) A[i]! A[i-1]! =false)) (fun R2 hR2=>?_) ?_
   ·refine aG (fun hle=>?_) fun hgt=>hR2 _ _ ⟨y,Upd.refl _ _,by simp;omega⟩
    exact y.less (i:=i) (j:=i-1) rfl (by rw[j2 (by omega)];omega) (by omega) (by omega) fun B e3 p k3 he3=>hR2 _ _ ⟨p,k3,by rw[he3];simp;omega⟩
   ·rintro c O ⟨p,k3,hc⟩
    have z:=hu1.tr (k2.tr k3).wide;refine CondP.intro (fun h2=>?_) fun h2=>?_
    ·have hh:=hc.1 h2
     refine hI2 (i+1) _ _ ⟨by rw[j2 (by omega)];rfl,p,k2.tr k3,?_,by omega,by omega⟩ (by omega)
     rw[←Y];conv=>rhs;rw[scanSorted]
     rw[if_pos (by simp[hh])]
    ·have hsi:scanSorted (Am dec) A e i=i:=by
      rw[scanSorted,if_neg];intro hh;simp only[aQ,decide_eq_true_iff,Bool.not_eq_eq_eq_not,Bool.not_true]at hh;rw[hc.2 hh]at h2;cases h2
     have b:=x;rw[partialIns]at b;simp only[←Y,hsi]at b;refine CondP.intro (fun B=>?_) fun B=>?_
     ·have B:i=e:=by
       have:(i:Int)=e:=by simpa using B
       omega
      rw[if_pos B]at b;rw[←b]at Q;exact Q _ p z
     ·have B:i≠e:=fun e'=>by subst e';simp at B
      rw[if_neg B]at b;have we:ac .i64 ((e:Int)-(a:Int))=((e-a:Nat):Int):=by rw[j2 (by omega)];omega
      show CondP (decide (ac .i64 ((e:Int)-(a:Int))<50)) _ _
      rw[we];refine aG (fun h4=>?_) fun h4=>?_
      ·rw[if_pos (by omega)]at b
       rw[←b]at Q;exact Q _ p z
      ·rw[if_neg (by omega)]at b
       have hi1:1≤i:=by omega
       refine p.swap (i:=i) (j:=i-1) rfl (by rw[j2 (by omega)];omega) (by omega) (by omega) fun h5 H V=>?_
       have G:(swp A i (i-1)).size=d.size:=by simp[hz1]
       generalize swp A i (i-1)=d5 at H G b;refine Join.intro (fun _ h'=>SA dec M s h' (if i-a≥2 then shiftDown (Am dec) (i-1) d5 else d5)∧Upd M h h') (fun R3 u=>?_) ?_
       ·have wi:ac .i64 ((i:Int)-(a:Int))=((i-a:Nat):Int):=by rw[j2 (by omega)];omega
        show CondP (decide (ac .i64 ((i:Int)-(a:Int))≥2)) _ _
        rw[wi];refine aG (fun h6=>?_) fun h6=>?_
        ·rw[if_pos (by omega)]at u
         refine LoopP.ghost (fun(g:Nat×Array Int) (t:Int) h'=>t=(g.1:Int)∧SA dec M s h' g.2∧g.2.size=d.size∧shiftDown (Am dec) g.1 g.2=shiftDown (Am dec) (i-1) d5∧Upd M h h'∧g.1<e) (fun g=>g.1) (i-1,d5)
          ⟨by rw[j2 (by omega)];simp only;omega,H,G,rfl,z.tr V,by simp only;omega⟩ ?_
         rintro I4 ⟨j,d6⟩ t h7 ⟨ht,N,hz7,o,hu7,F⟩ C;simp only at ht N hz7 o F;subst ht;refine aG (fun h8=>?_) fun h8=>?_
         ·obtain⟨j,rfl⟩:∃k,j=k+1:=⟨j-1,by omega⟩
          have e1:ac .i64 (((j+1:Nat):Int)-1)=(j:Int):=by rw[j2 (by omega)];omega
          rw[shiftDown]at o;refine N.less (i:=j+1) (j:=j) rfl e1 (by omega) (by omega) fun hL eL hsL kL E=>?_
          have q:=hu7.tr kL.wide;rw[E];refine CondP.intro (fun h9=>?_) fun h9=>?_
          ·rw[if_pos h9]at o
           exact u _ _ ⟨by rw[←o];exact hsL,q⟩
          ·rw[if_neg (by rw[h9];simp)]at o
           refine hsL.swap (i:=j+1) (j:=j) rfl e1 (by omega) (by omega) fun w hs10 T=>?_
           exact C (j,swp d6 (j+1) j) _ _ ⟨e1,hs10,by simp[hz7],o,q.tr T,by simp only;omega⟩ (by simp)
         ·have:j=0:=by omega
          subst this;exact u _ _ ⟨by rw[←o];exact N,hu7⟩
        ·rw[if_neg (by omega)]at u
         exact u _ _ ⟨H,z.tr V⟩
       ·rintro _ h6 ⟨L,hu6⟩
        have J:(if i-a≥2 then shiftDown (Am dec) (i-1) d5 else d5).size=d.size:=by split<;>simp[G]
        generalize (if i-a≥2 then shiftDown (Am dec) (i-1) d5 else d5)=d6 at L J b
        have wi:ac .i64 ((e:Int)-(i:Int))=((e-i:Nat):Int):=by rw[j2 (by omega)];omega
        show CondP (decide (ac .i64 ((e:Int)-(i:Int))≥2)) _ _
        rw[wi];refine aG (fun h7=>?_) fun h7=>?_
        ·rw[if_pos (by omega)]at b
         refine LoopP.ghost (fun(g:Nat×Array Int) (t:Int) h'=>t=(g.1:Int)∧SA dec M s h' g.2∧g.2.size=d.size∧shiftUp (Am dec) e g.1 g.2=shiftUp (Am dec) e (i+1) d6∧Upd M h h'∧1≤g.1∧g.1≤e) (fun g=>e-g.1) (i+1,d6)
          ⟨by rw[j2 (by omega)];rfl,L,J,rfl,hu6,by simp,by simp only;omega⟩ ?_
         rintro I4 ⟨j,d7⟩ t h8 ⟨ht,P,v,f,hu8,hj1,F⟩ C;simp only at ht P v f hj1 F;subst ht;refine aG (fun h9=>?_) fun h9=>?_
         ·have e1:ac .i64 ((j:Int)-1)=((j-1:Nat):Int):=by rw[j2 (by omega)];omega
          rw[shiftUp,if_pos (by omega)]at f;refine P.less (i:=j) (j:=j-1) rfl e1 (by omega) (by omega) fun hL eL hsL kL E=>?_
          have q:=hu8.tr kL.wide;rw[E];refine CondP.intro (fun w=>?_) fun w=>?_
          ·rw[if_pos w]at f
           exact hR _ _ ⟨i,d7,rfl,hsL,v,by rw[f];exact b,q,m,n⟩
          ·rw[if_neg (by rw[w];simp)]at f
           refine hsL.swap (i:=j) (j:=j-1) rfl e1 (by omega) (by omega) fun h11 X W=>?_
           exact C (j+1,swp d7 j (j-1)) _ _ ⟨by rw[j2 (by omega)];rfl,X,by simp[v],f,q.tr W,by simp,by simp only;omega⟩ (by simp only;omega)
         ·rw[shiftUp,if_neg (by omega)]at f
          exact hR _ _ ⟨i,d7,rfl,P,v,by rw[f];exact b,hu8,m,n⟩
        ·rw[if_neg (by omega)]at b
         exact hR _ _ ⟨i,d6,rfl,L,J,b,hu6,m,n⟩
  ·rintro t h' ⟨S,Z,rfl,y,hz2,b,hu2,m,n⟩
   exact hI (st,S,Z) _ _ ⟨rfl,by simp only;rw[j2 (by omega)];omega,y,hz2,b,hu2,by simp only;omega,m,n⟩ (by simp)
 ·have:st=0:=by have:¬5-(st:Int)<5:=hge;omega
  subst this;rw[partialIns]at x;rw[←x]at Q;exact Q _ D hu1
end Go.Proofs
namespace Go.Proofs
open Go Go.Lift Go.Sort
variable {dec:Int→Ch} {M:Nat→Prop} {s:SliceV} {h:ad} {d:Array Int}
theorem Th(x:Int):ac .u64 x=x%18446744073709551616:=by
 simp[ac,af,IntKind.signed]
theorem and_le_right(x:Int){m:Int}(a:0≤m)(hm:m<18446744073709551616):0≤ac .u64 ((aj (af .u64) x&&&aj (af .u64) m).toNat:Int)∧ac .u64 ((aj (af .u64) x&&&aj (af .u64) m).toNat:Int)≤m:=by
 have b:(aj (af .u64) x&&&aj (af .u64) m).toNat≤(aj (af .u64) m).toNat:=by
  rw[BitVec.toNat_and];exact Nat.and_le_right
 have c:((aj (af .u64) m).toNat:Int)=m:=by
  show((aj 64 m).toNat:Int)=m
  rw[BitVec.toNat_ofInt];have:m%((2^64:Nat):Int)=m:=Int.emod_eq_of_lt a (by omega);rw[this];omega
 rw[Th];omega
end Go.Proofs
namespace Go.Proofs
open Go Go.Lift Go.Sort
variable {dec:Int→Ch} {M:Nat→Prop} {s:SliceV} {h:ad} {d:Array Int}
end Go.Proofs
namespace Go.Proofs
open Go Go.Lift
end Go.Proofs
namespace Go.Proofs
open Go Go.Lift
theorem Few.mono{n m:Nat}{L:List Pr}(f:Few n L)(h:n≤m):Few m L:=⟨f.up,Nat.le_trans f.len h,f.fit⟩
end Go.Proofs
namespace Go.Proofs
open Go Go.Lift
theorem HH{W:Nat→Prop}{h:ad}{b:Nat}{l:List Pr}(t:RadAt W h b l)(hW:∀y,W y→y<h.size)(hr:dM l)(k:ByteArray){K:ByteArray×Bool→ad→Prop}
  (U:∀h',Upd No h h'→K ((look l k).getD ⟨#[]⟩,(look l k).isSome) h'):HC PG vd [.pointer (some ⟨b,0,none⟩),.string k] [.c .str,.c .bool] K h:=by
 refine IP (some ⟨b,0,none⟩) k ?_;unfold Bt bA dU Jn cC bL eI;refine Ac (.inr ⟨b,rfl,t⟩) hW fun h2 b2 t2 hu2 _=>?_
 obtain⟨w,F,r1,r2,r3⟩:=t2.ex;have d:∀v,sR w F k.data.toList v↔look l k=some v:=fun v=>by
  rw[←oI,r3];constructor
  ·rintro⟨p,hp,e1,rfl⟩
   rw[←qE.1 e1];exact Ao hr hp
  ·intro hp;exact⟨_,H4 hp,rfl,rfl⟩
 refine LoopP.ghost (fun(g:ByteArray×Nat×ByteArray×Option ByteArray×Fo) (t:ByteArray×Option Addr) h'=>t=(g.1,some ⟨g.2.1,0,none⟩)∧RxN W h' g.2.1 g.2.2.1 g.2.2.2.1 g.2.2.2.2∧ir g.2.2.2.2∧(∀v,sR g.2.2.2.1 g.2.2.2.2 g.1.data.toList v↔look l k=some v)∧Upd No h h') (fun g=>g.1.size) (k,b2,⟨#[]⟩,w,F) ⟨rfl,r1,r2,d,hu2⟩ ?_
 clear d r1 r2 r3 t2;rintro I ⟨E,c,sl,w,F⟩ t h5 ⟨rfl,r,hc,d,hu⟩ hI;simp only at r hc d;simp only[f8];by_cases N:E=⟨#[]⟩
 ·subst N
  refine ag.2 (Hx r ?_);have e:look l k=w:=Option.ext fun v=>by
   rw[←d v];constructor
   ·rintro(⟨_,h⟩|h)
    ·exact h
    ·exact absurd rfl (Aq hc h)
   ·intro h;exact .inl ⟨rfl,h⟩
  rw[e]at U;exact U _ hu
 ·rw[decide_eq_false N]
  refine ay.2 ?_;have x:E.data.toList≠[]:=fun e=>N (by cases E;exact congrArg tX (lf.1 e))
  obtain⟨c0,Z,Q⟩:=Gw x;refine⟨c0,rV _,Z,?_⟩;have hr0:=r;obtain⟨val,s,ow,ks,hb,_,hs,hcap,hF⟩:=r;have hL:=kE.1 hF;have D:=dL.1 hc;have o:(∀v,¬rq F E.data.toList v)→K ((⟨#[]⟩:ByteArray),false) h5:=fun z=>by
   have e:look l k=none:=by
    cases e:look l k with
    |none=>rfl
    |some v=>
     rcases(d v).2 e with⟨h,_⟩|h
     ·exact absurd h x
     ·exact absurd h (z v)
   rw[e]at U;exact U _ hu
  refine Ad hr0 hc (c:=c0.toNat) (qU _) fun i ok hil S H L=>?_
  rw[Q]at S H L;cases ok with
  |false=>
   refine ay.2 (o fun v d=>?_)
   obtain⟨n',J,e,_⟩:=uR hc d;obtain⟨j,V,rfl⟩:=cP J;rcases bQ j i with hl|hl
   ·have:=S j V hl;omega
   ·have h1:=H j V hl
    have h2:=H i (by omega) (az _);rcases bQ i j with R|R
    ·have h3:=cR.1 D.1 i j (by omega) V R
     omega
    ·have:i=j:=by omega
     subst this;have:=L.2 ⟨V,e⟩;cases this
  |true=>
   obtain⟨hi,O⟩:=L.1 rfl;refine ag.2 ⟨_,rfl,s,fh (i:=3) hb,?_⟩;obtain⟨kb,T,hki,B,A⟩:=hL.at hi;have q:F.toL[i]∈F.toL:=ce hi;have C:=D.2 _ q;obtain⟨a,ha,_,hvv⟩:=hs.at0 hki;have G:=hs.len;rw[hL.1]at G;have n:∀v,rq F E.data.toList v↔uA F.toL[i] E.data.toList v:=fun v=>by
    constructor
    ·intro d
     obtain⟨n',J,e,hN⟩:=uR hc d;rw[←vW hc J q (by omega)];exact hN
    ·intro d;exact gt.2 ⟨_,q,d⟩
   refine⟨⟨by simp only;omega,by simp only;omega⟩,a,ha,some ⟨kb,0,none⟩,hvv,_,rfl,?_⟩
   obtain⟨kval,kss,kow,kks,P,_⟩:=id A;generalize F.toL[i]=m at B A C n O;obtain⟨lab,wk,Fk⟩:=m;simp only at B A C O P;refine⟨T,fh (i:=0) P,O9 (fun u f=>?_) fun z=>?_⟩
   ·rw[B]at f
    have hlne:lab.length≠0:=fun e=>C.1 (aY.1 e)
    have Y:u.size<E.size:=by
     rw[←iM u,←iM E,f,ai];omega
    refine ag.2 (hI (u,kb,T,wk,Fk) _ _ ⟨rfl,A,C.2.2,fun v=>?_,hu⟩ Y)
    rw[←d v];constructor
    ·intro h;exact .inr ((n v).2 ⟨_,f,h⟩)
    ·rintro(⟨h,_⟩|h)
     ·exact absurd h x
     ·obtain⟨r',e,X⟩:=(n v).1 h
      simp only at e;rw[f]at e;rw[ge e];exact X
   ·rw[B]at z
    refine ay.2 (o fun v h=>?_)
    obtain⟨r',e,_⟩:=(n v).1 h;exact z r' e
theorem P0{W:Nat→Prop}{x:Hs}{h:ad}{kind:Int}{t:Tr}{l:List Pr}(i:TreeIs W h kind x t l)(g:∀y,W y→y<h.size)(f:dM l)(j:l.length≤1000000)(k:ByteArray){K:Sd→ad→Prop}(e:∀h',Upd No h h'→K ((look l k).getD ⟨#[]⟩,(look l k).isSome) h'):HC PG pq [L4 t,.string k] [.c .str,.c .bool] K h:=by
 refine BS t k ?_;unfold uj ao lA pj ah kH fZ;rcases i with⟨_,b,rfl,t⟩|⟨_,b,rfl,t⟩
 ·refine cf fun m b1 k1=>⟨_,vc b1 0,ag.2 ⟨_,zX b1 1 0,_,zX b1 1 1,_,zX b1 1 2,_,vc b1 4,?_⟩⟩
  exact IB (TrieAt.upd0 k1 t) (fun y c=>aC (g y c) k1.size) f j k fun d a=>e d (k1.tr a)
 ·refine cf fun m b1 k1=>⟨_,vc b1 0,ay.2 ⟨_,vc b1 5,?_⟩⟩
  exact HH (t.upd0 k1) (fun y c=>aC (g y c) k1.size) f k fun d a=>e d (k1.tr a)
end Go.Proofs
namespace Go.Proofs
open Go Go.Lift
theorem Qh{W:Nat→Prop}{x:Hs}{h:ad}{kind:Int}{t:Tr}{l:List Pr}(i:TreeIs W h kind x t l)(J:∀y,W y→y<h.size)(H:dM l)(O:Fit l)(I:l.length≤1000000)(k:ByteArray)(o:Option ByteArray)(p:k.size≤256)(A:(o.getD ⟨#[]⟩).size≤4096){K:Tr→ad→Prop}
  (P:∀h' a,TreeIs W h' kind x a (P5 l k o)→Upd No h h'→K a h'):HC PG vg [L4 t,.string k,.agg #[.string (Sk o).1,.bool (Sk o).2]] [.agg [.int .i64,.int .u64,.int .u64,.int .u64,.ptr,.ptr]] K h:=by
 refine IU t k (Sk o) ?_;unfold Bz ao av bU eH ae ah nI kH uv uw kD Sn;refine cf fun L b1 k1=>cf fun z b2 E=>cf fun j b3 w=>?_
 have z1:=bp b1;have Z:=bp b2;have X:=bp b3;have Y:h.size≤L.size:=k1.size;have s2:L.size≤z.size:=E.size;have s3:=w.size;have b:=(k1.tr E).tr w;have c1:=w.get0 (E.get0 b1);have D:=w.get0 b2;have F:Pro W h j h.size:=.inr (by omega);have B:Pro W h j z.size:=.inr (by omega);refine Join.intro (fun _ h'=>∃a,TreeIs (Pro W h j) h' kind x a (P5 l k o)∧h'[h.size]? =some (.cells (nu a).toArray bH (0,0))∧h'[z.size]? =some (.cells (nu zQ).toArray bH (0,0))∧Upd (· =h.size) j h') (fun R N=>?_) ?_
 ·have s:∀{g:ad} {a:Tr},Upd No j g→TreeIs (Pro W h j) g kind x a (P5 l k o)→sq g (some (aR h)) 0 (nu a)∧At (ia g (aR h) 0 (nu a)) (fun G=>R () G):=fun{g a} f u=>
   eN (c:=nu t) (vs:=nu a) (f.get0 c1) rfl fun G T e=>N _ _ ⟨a,u.updM e fun y d=>.inl (by have d:y=h.size:=d;rw[d];exact F),T,e.oth (f.get0 b3) (by omega),f.wide.tr e⟩
  cases o with
  |some v=>
   refine⟨true,vc D 1,ay.2 ⟨_,vc c1 0,_,vc c1 1,_,vc c1 2,_,vc c1 3,_,vc c1 4,_,vc c1 5,v,vc D 0,?_⟩⟩;exact Ho (i.pro b) (Pro.lt J b) H I (k,v) p A fun g a u _ f=>s f u
  |none=>
   refine⟨false,vc D 1,ag.2 ⟨_,vc c1 0,_,vc c1 1,_,vc c1 2,_,vc c1 3,_,vc c1 4,_,vc c1 5,?_⟩⟩;exact Hn (i.pro b) (Pro.lt J b) H O I k p fun g a u _ f=>s f u
 ·rintro _ V ⟨a,Q,n,S,C⟩
  refine⟨_,vc n 0,_,vc n 1,_,vc n 2,_,vc n 3,_,vc n 4,_,vc n 5,?_⟩;refine eN (c:=nu zQ) (vs:=nu a) S rfl fun U m q=>?_
  refine⟨_,vc m 0,_,vc m 1,_,vc m 2,_,vc m 3,_,vc m 4,_,vc m 5,P U a ((Q.updM q fun y d=>.inl (by have d:y=z.size:=d;rw[d];exact B)).less Pro.sub) ?_⟩
  exact(b.own C (az _)).own q (by omega)
def SX(k:ByteArray)(o:Option ByteArray):Prop:=∀{W:Nat→Prop} {x:Hs} {h:ad} {kind:Int} {t:Tr} {l:List Pr},TreeIs W h kind x t l→(∀y,W y→y<h.size)→dM l→Fit l→l.length≤1000000→k.size≤256→(o.getD ⟨#[]⟩).size≤4096→∀{K:Tr→ad→Prop},
 (∀h' t',TreeIs W h' kind x t' (P5 l k o)→Upd No h h'→K t' h')→HC PG vg [L4 t,.string k,.agg #[.string (Sk o).1,.bool (Sk o).2]] [.agg [.int .i64,.int .u64,.int .u64,.int .u64,.ptr,.ptr]] K h
theorem setOk(k:ByteArray)(o:Option ByteArray):SX k o:=fun i e b d c f g _ a=>Qh i e b d c k o f g a
end Go.Proofs
namespace Go.Proofs
open Go Go.Lift
def BaseOf(s:VS)(a:Int)(B:TD):Prop:=(a=0∧B=(s.e,[]))∨(a≠0∧cV s.D a=some B)
section
variable {W:Nat→Prop} {h:ad} {vp:Nat} {s:VS}
theorem EM(v:VaultAt W h vp s){id:Int}(hi:id=0∨id∈ids s.L){K:Tr×Int→ad→Prop}(a:∀B,BaseOf s id B→∀h',Upd No h h'→K (B.1,0) h'):HC PG gJ [pV vp,.int .u32 id] [.agg [.int .i64,.int .u64,.int .u64,.int .u64,.ptr,.ptr],.c (.int .i64)] K h:=
 NH v id (fun e h' k=>a (s.e,[]) (.inl ⟨e,rfl⟩) h' k) (fun d hd e h' k=>a d (.inr ⟨e,hd⟩) h' k) fun hd e=>absurd ((v.sub id).2 (hi.resolve_left e)) (nW.1 hd)
end
end Go.Proofs
namespace Go.Proofs
open Go Go.Lift
abbrev gH:SliceV:=⟨none,0,0⟩
abbrev An:=Int×Int×Int×ByteArray×Bool×Int×SliceV×SliceV×SliceV×SliceV×SliceV
abbrev PP:An:=(0,0,0,⟨#[]⟩,false,0,gH,gH,gH,gH,gH)
abbrev RQ(e:An):List Value:= [.int .i64 e.1,.int .u32 e.2.1,.int .i64 e.2.2.1,.string e.2.2.2.1,.bool e.2.2.2.2.1,.int .i64 e.2.2.2.2.2.1,.slice e.2.2.2.2.2.2.1.a e.2.2.2.2.2.2.1.len e.2.2.2.2.2.2.1.cap,.slice e.2.2.2.2.2.2.2.1.a e.2.2.2.2.2.2.2.1.len e.2.2.2.2.2.2.2.1.cap,.slice e.2.2.2.2.2.2.2.2.1.a e.2.2.2.2.2.2.2.2.1.len e.2.2.2.2.2.2.2.2.1.cap,.slice e.2.2.2.2.2.2.2.2.2.1.a e.2.2.2.2.2.2.2.2.2.1.len e.2.2.2.2.2.2.2.2.2.1.cap,.slice e.2.2.2.2.2.2.2.2.2.2.a e.2.2.2.2.2.2.2.2.2.2.len e.2.2.2.2.2.2.2.2.2.2.cap]
abbrev KS:List Kind:= [.agg [.int .i64,.int .u32,.int .i64,.str,.bool,.int .i64,.slice,.slice,.slice,.slice,.slice]]
abbrev xB:=Int×ByteArray×ByteArray×ByteArray×ByteArray×Int×Int×Int×Int×Bool×ByteArray×ByteArray×Bool×SliceV×SliceV
abbrev sE(o:xB):List Value:= [.int .i64 o.1,.string o.2.1,.string o.2.2.1,.string o.2.2.2.1,.string o.2.2.2.2.1,.int .u32 o.2.2.2.2.2.1,.int .u32 o.2.2.2.2.2.2.1,.int .i64 o.2.2.2.2.2.2.2.1,.int .i64 o.2.2.2.2.2.2.2.2.1,.bool o.2.2.2.2.2.2.2.2.2.1,.string o.2.2.2.2.2.2.2.2.2.2.1,.string o.2.2.2.2.2.2.2.2.2.2.2.1,.bool o.2.2.2.2.2.2.2.2.2.2.2.2.1,.slice o.2.2.2.2.2.2.2.2.2.2.2.2.2.1.a o.2.2.2.2.2.2.2.2.2.2.2.2.2.1.len o.2.2.2.2.2.2.2.2.2.2.2.2.2.1.cap,.slice o.2.2.2.2.2.2.2.2.2.2.2.2.2.2.a o.2.2.2.2.2.2.2.2.2.2.2.2.2.2.len o.2.2.2.2.2.2.2.2.2.2.2.2.2.2.cap]
abbrev PN(o:xB):Value:=.agg #[.int .i64 o.1,.string o.2.1,.string o.2.2.1,.string o.2.2.2.1,.string o.2.2.2.2.1,.int .u32 o.2.2.2.2.2.1,.int .u32 o.2.2.2.2.2.2.1,.int .i64 o.2.2.2.2.2.2.2.1,.int .i64 o.2.2.2.2.2.2.2.2.1,.bool o.2.2.2.2.2.2.2.2.2.1,.string o.2.2.2.2.2.2.2.2.2.2.1,.string o.2.2.2.2.2.2.2.2.2.2.2.1,.bool o.2.2.2.2.2.2.2.2.2.2.2.2.1,.slice o.2.2.2.2.2.2.2.2.2.2.2.2.2.1.a o.2.2.2.2.2.2.2.2.2.2.2.2.2.1.len o.2.2.2.2.2.2.2.2.2.2.2.2.2.1.cap,.slice o.2.2.2.2.2.2.2.2.2.2.2.2.2.2.a o.2.2.2.2.2.2.2.2.2.2.2.2.2.2.len o.2.2.2.2.2.2.2.2.2.2.2.2.2.2.cap]
theorem yi{h:ad}{b:Nat}{c e:An}{K:An→ad→Prop}(a:h[b]? =some (.cells (RQ c).toArray de (0,0))) (d:∀h',Upd (· =b) h h'→K e h'):
  sq h (some ⟨b,0,none⟩) 0 (RQ e)∧At (ia h ⟨b,0,none⟩ 0 (RQ e)) (fun h'=>∃v0:Int,aE h' (adr ⟨b,0,none⟩ 0)=some (.int .i64 v0)∧∃v1:Int,aE h' (adr ⟨b,0,none⟩ 1)=some (.int .u32 v1)∧∃v2:Int,aE h' (adr ⟨b,0,none⟩ 2)=some (.int .i64 v2)∧∃v3:ByteArray,aE h' (adr ⟨b,0,none⟩ 3)=some (.string v3)∧∃v4:Bool,aE h' (adr ⟨b,0,none⟩ 4)=some (.bool v4)∧∃v5:Int,aE h' (adr ⟨b,0,none⟩ 5)=some (.int .i64 v5)∧∃v6:SliceV,aE h' (adr ⟨b,0,none⟩ 6)=some (.slice v6.a v6.len v6.cap)∧∃v7:SliceV,aE h' (adr ⟨b,0,none⟩ 7)=some (.slice v7.a v7.len v7.cap)∧∃v8:SliceV,aE h' (adr ⟨b,0,none⟩ 8)=some (.slice v8.a v8.len v8.cap)∧∃v9:SliceV,aE h' (adr ⟨b,0,none⟩ 9)=some (.slice v9.a v9.len v9.cap)∧∃v10:SliceV,aE h' (adr ⟨b,0,none⟩ 10)=some (.slice v10.a v10.len v10.cap)∧K (v0,v1,v2,v3,v4,v5,v6,v7,v8,v9,v10) h'):=by
 refine eN (c:=RQ c) (vs:=RQ e) a rfl fun h' b' u=>?_
 exact⟨e.1,vc b' 0,e.2.1,vc b' 1,e.2.2.1,vc b' 2,e.2.2.2.1,vc b' 3,e.2.2.2.2.1,vc b' 4,e.2.2.2.2.2.1,vc b' 5,e.2.2.2.2.2.2.1,vc b' 6,e.2.2.2.2.2.2.2.1,vc b' 7,e.2.2.2.2.2.2.2.2.1,vc b' 8,e.2.2.2.2.2.2.2.2.2.1,vc b' 9,e.2.2.2.2.2.2.2.2.2.2,vc b' 10,d h' u⟩
theorem Oh{h:ad}{b:Nat}{t:TypeId}{o:xB}{P:Int→ByteArray→ByteArray→ByteArray→ByteArray→Int→Int→Int→Int→Bool→ByteArray→ByteArray→Bool→SliceV→SliceV→Prop}(a:h[b]? =some (.cells (sE o).toArray t (0,0))) (c:P (o.1) (o.2.1) (o.2.2.1) (o.2.2.2.1) (o.2.2.2.2.1) (o.2.2.2.2.2.1) (o.2.2.2.2.2.2.1) (o.2.2.2.2.2.2.2.1) (o.2.2.2.2.2.2.2.2.1) (o.2.2.2.2.2.2.2.2.2.1) (o.2.2.2.2.2.2.2.2.2.2.1) (o.2.2.2.2.2.2.2.2.2.2.2.1) (o.2.2.2.2.2.2.2.2.2.2.2.2.1) (o.2.2.2.2.2.2.2.2.2.2.2.2.2.1) (o.2.2.2.2.2.2.2.2.2.2.2.2.2.2)):
  ∃v0:Int,aE h (adr ⟨b,0,none⟩ 0)=some (.int .i64 v0)∧∃v1:ByteArray,aE h (adr ⟨b,0,none⟩ 1)=some (.string v1)∧∃v2:ByteArray,aE h (adr ⟨b,0,none⟩ 2)=some (.string v2)∧∃v3:ByteArray,aE h (adr ⟨b,0,none⟩ 3)=some (.string v3)∧∃v4:ByteArray,aE h (adr ⟨b,0,none⟩ 4)=some (.string v4)∧∃v5:Int,aE h (adr ⟨b,0,none⟩ 5)=some (.int .u32 v5)∧∃v6:Int,aE h (adr ⟨b,0,none⟩ 6)=some (.int .u32 v6)∧∃v7:Int,aE h (adr ⟨b,0,none⟩ 7)=some (.int .i64 v7)∧∃v8:Int,aE h (adr ⟨b,0,none⟩ 8)=some (.int .i64 v8)∧∃v9:Bool,aE h (adr ⟨b,0,none⟩ 9)=some (.bool v9)∧∃v10:ByteArray,aE h (adr ⟨b,0,none⟩ 10)=some (.string v10)∧∃v11:ByteArray,aE h (adr ⟨b,0,none⟩ 11)=some (.string v11)∧∃v12:Bool,aE h (adr ⟨b,0,none⟩ 12)=some (.bool v12)∧∃v13:SliceV,aE h (adr ⟨b,0,none⟩ 13)=some (.slice v13.a v13.len v13.cap)∧∃v14:SliceV,aE h (adr ⟨b,0,none⟩ 14)=some (.slice v14.a v14.len v14.cap)∧P v0 v1 v2 v3 v4 v5 v6 v7 v8 v9 v10 v11 v12 v13 v14:=
 ⟨o.1,vc a 0,o.2.1,vc a 1,o.2.2.1,vc a 2,o.2.2.2.1,vc a 3,o.2.2.2.2.1,vc a 4,o.2.2.2.2.2.1,vc a 5,o.2.2.2.2.2.2.1,vc a 6,o.2.2.2.2.2.2.2.1,vc a 7,o.2.2.2.2.2.2.2.2.1,vc a 8,o.2.2.2.2.2.2.2.2.2.1,vc a 9,o.2.2.2.2.2.2.2.2.2.2.1,vc a 10,o.2.2.2.2.2.2.2.2.2.2.2.1,vc a 11,o.2.2.2.2.2.2.2.2.2.2.2.2.1,vc a 12,o.2.2.2.2.2.2.2.2.2.2.2.2.2.1,vc a 13,o.2.2.2.2.2.2.2.2.2.2.2.2.2.2,vc a 14,c⟩
theorem VaultAt.pro{W:Nat→Prop}{h b:ad}{c:Nat}{s:VS}(v:VaultAt W h c s)(k:Upd No h b):VaultAt (Pro W h b) b c s:=
 v.re k (fun _ h=>h.elim) (fun y a=>⟨a.imp id fun e=>e.1,Pro.lt v.g.lt k y a⟩) fun y a=>.inl (v.w y a)
theorem VaultAt.dn{W:Nat→Prop}{d c h:ad}{a:Nat}{s:VS}(v:VaultAt (Pro W d c) h a s)(hM:∀y,s.M y→W y):VaultAt W h a s:=
 v.re (Upd.refl No h) (fun _ h=>h.elim) (fun y b=>⟨.inl (.inl b),v.g.lt y (.inl b)⟩) hM
theorem VaultAt.own{W:Nat→Prop}{a f h h':ad}{g b:Nat}{s:VS}(v:VaultAt (Pro W a f) h g s)(hM:∀y,s.M y→y<a.size)(u:Upd (· =b) h h')(i:a.size≤b)(c:b<f.size):VaultAt (Pro W a f) h' g s:=
 v.upd u fun y d=>by
  have d:y=b:=d;subst d;exact .inl ⟨.inr ⟨i,c⟩,fun e=>by have:=hM _ e;omega⟩
section
variable {h:ad}
theorem MM{e:Int}{K:An→ad→Prop}(a:∀h',Upd No h h'→K (e,0,0,⟨#[]⟩,false,0,gH,gH,gH,gH,gH) h'):HC PG eU [.int .i64 e] KS K h:=by
 refine DL e ?_;unfold vI ao cF av bU aO nv Hc;exact cf fun f b1 k1=>yi (c:=PP) (e:=(e,0,0,⟨#[]⟩,false,0,gH,gH,gH,gH,gH)) b1 fun d b=>a d (k1.own b (az _))
theorem Oz{id:Int}{K:An→ad→Prop}(a:∀h',Upd No h h'→K (0,id,0,⟨#[]⟩,false,0,gH,gH,gH,gH,gH) h'):HC PG r9 [.int .u32 id,.int .i64 0] KS K h:=by
 refine Et id 0 ?_;unfold wO ao cF av bU aO BK eH Hc;exact cf fun f b1 k1=>ag.2 (yi (c:=PP) (e:=(0,id,0,⟨#[]⟩,false,0,gH,gH,gH,gH,gH)) b1 fun d b=>a d (k1.own b (az _)))
end
abbrev Au(f:FuncId):Value:=.func (.func f) #[] #[]
abbrev Ke:List Value:= [Au ig,Au oM,Au rg,Au pE,Au jQ,Au qA,Au qx,Au mS,Au pH,Au pF,Au jR,Au qy,Au qB,Au pG,Au pL,Au qz,Au pJ,Au qw,Au oO,Au oQ,Au pK,Au qv,Au oN,Au pI,Au qu,Au mR]
theorem OD{k:Nat}(g:k<26){v:Value}(b:Ke[k]? =some v) {h:ad} {K:Value→ad→Prop} (d:∀h',Upd No h h'→K v h'):HC PG sd [.int .i64 k] [.c .raw] K h:=by
 refine Eu k ?_;unfold wP bA dU nv;refine cf fun i b1 k1=>eN (c:=List.replicate 26 .nilFunc) (vs:=Ke) b1 rfl fun f b2 a=>Join.plain (aG (fun e=>absurd e (by omega)) fun _=>?_)
 rw[show decide ((k:Int)≥(26:Int))=false from decide_eq_false (by omega)]
 refine ag.2 ⟨⟨by omega,by omega⟩,v,?_,d f (k1.own a (az _))⟩
 have:=vc b2 k;rw[List.getElem?_toArray,b]at this;rw[show(k:Int).toNat*1=k by omega]
 exact this
end Go.Proofs
namespace Go.Proofs
open Go Go.Lift
abbrev S5(o:xB)(x:ByteArray):xB:=(o.1,x,o.2.2)
abbrev ptO(o:xB)(x:ByteArray):xB:=(o.1,o.2.1,x,o.2.2.2)
abbrev S3(o:xB)(x:ByteArray):xB:=(o.1,o.2.1,o.2.2.1,x,o.2.2.2.2)
abbrev Tn(o:xB)(x:ByteArray):xB:=(o.1,o.2.1,o.2.2.1,o.2.2.2.1,x,o.2.2.2.2.2)
abbrev S4(o:xB)(x:Int):xB:=(o.1,o.2.1,o.2.2.1,o.2.2.2.1,o.2.2.2.2.1,x,o.2.2.2.2.2.2)
abbrev ptT(o:xB)(x:Int):xB:=(o.1,o.2.1,o.2.2.1,o.2.2.2.1,o.2.2.2.2.1,o.2.2.2.2.2.1,x,o.2.2.2.2.2.2.2)
abbrev ptS(o:xB)(x:Int):xB:=(o.1,o.2.1,o.2.2.1,o.2.2.2.1,o.2.2.2.2.1,o.2.2.2.2.2.1,o.2.2.2.2.2.2.1,x,o.2.2.2.2.2.2.2.2)
abbrev ptW(o:xB)(x:Int):xB:=(o.1,o.2.1,o.2.2.1,o.2.2.2.1,o.2.2.2.2.1,o.2.2.2.2.2.1,o.2.2.2.2.2.2.1,o.2.2.2.2.2.2.2.1,x,o.2.2.2.2.2.2.2.2.2)
section
variable {W M:Nat→Prop} {h h':ad} {b ob:Nat} {s:LV} {o:xB}
theorem RdAt.updO(r:RdAt W h b s)(u:Upd (· =ob) h h')(a:ob≠b)(d:W ob):RdAt W h' b s:=r.upd u (fun e=>a (by have e:b=ob:=e;exact e.symm)) fun y c=>.inl (by have c:y=ob:=c;rw[c];exact d)
theorem AY{c:ad}(d:Upd (· =b) h c)(e:Upd (· =ob) c h'):Upd (fun y=>y=b∨y=ob) h h':=(d.mono fun _ a=>.inl (.inl a)).tr (e.mono fun _ a=>.inl (.inr a))
theorem NU(r:RdAt W h b s)(c:h[ob]? =some (.cells (sE o).toArray bf (0,0))) (a:ob≠b) (j:W ob) {K:Unit→ad→Prop}
  (g:∀h',RdAt W h' b (mK s).2→h'[ob]? =some (.cells (sE (S5 o (bN (mK s).1))).toArray bf (0,0))→Upd (fun y=>y=b∨y=ob) h h'→K () h'):HC PG cq [.pointer (some ⟨b,0,none⟩),.pointer (some ⟨ob,0,none⟩),.int .i32 98] [] K h:=by
 refine dN (some ⟨b,0,none⟩) (some ⟨ob,0,none⟩) 98 ?_;unfold du av bU cX bL nv eI cg uE hO jl D2 sG;refine CondP.intro (fun _=>?_) fun e=>absurd e (by decide)
 exact H2 r fun m i f=>⟨_,rfl,tq (f.get c a) (by simp) rfl fun k b2 d=>g k (i.updO d a j) b2 (AY f d)⟩
theorem NR(r:RdAt W h b s)(c:h[ob]? =some (.cells (sE o).toArray bf (0,0))) (a:ob≠b) (j:W ob) {K:Unit→ad→Prop}
  (g:∀h',RdAt W h' b (mK s).2→h'[ob]? =some (.cells (sE (ptO o (bN (mK s).1))).toArray bf (0,0))→Upd (fun y=>y=b∨y=ob) h h'→K () h'):HC PG cq [.pointer (some ⟨b,0,none⟩),.pointer (some ⟨ob,0,none⟩),.int .i32 111] [] K h:=by
 refine dN (some ⟨b,0,none⟩) (some ⟨ob,0,none⟩) 111 ?_;unfold du av bU cX bL nv eI cg uE hO jl D2 sG;refine CondP.intro (fun e=>absurd e (by decide)) fun _=>CondP.intro (fun _=>?_) fun e=>absurd e (by decide)
 exact H2 r fun m i f=>⟨_,rfl,tq (f.get c a) (by simp) rfl fun k b2 d=>g k (i.updO d a j) b2 (AY f d)⟩
theorem NS(r:RdAt W h b s)(c:h[ob]? =some (.cells (sE o).toArray bf (0,0))) (a:ob≠b) (j:W ob) {K:Unit→ad→Prop}
  (g:∀h',RdAt W h' b (pC s).2→h'[ob]? =some (.cells (sE (S3 o (bN (pC s).1))).toArray bf (0,0))→Upd (fun y=>y=b∨y=ob) h h'→K () h'):HC PG cq [.pointer (some ⟨b,0,none⟩),.pointer (some ⟨ob,0,none⟩),.int .i32 107] [] K h:=by
 refine dN (some ⟨b,0,none⟩) (some ⟨ob,0,none⟩) 107 ?_;unfold du av bU cX bL nv eI cg uE hO jl D2 sG;refine CondP.intro (fun e=>absurd e (by decide)) fun _=>CondP.intro (fun e=>absurd e (by decide)) fun _=>CondP.intro (fun _=>?_) fun e=>absurd e (by decide)
 exact LC r fun m i f=>⟨_,rfl,tq (f.get c a) (by simp) rfl fun k b2 d=>g k (i.updO d a j) b2 (AY f d)⟩
theorem NN(r:RdAt W h b s)(c:h[ob]? =some (.cells (sE o).toArray bf (0,0))) (a:ob≠b) (j:W ob) {K:Unit→ad→Prop}
  (g:∀h',RdAt W h' b (pC s).2→h'[ob]? =some (.cells (sE (Tn o (bN (pC s).1))).toArray bf (0,0))→Upd (fun y=>y=b∨y=ob) h h'→K () h'):HC PG cq [.pointer (some ⟨b,0,none⟩),.pointer (some ⟨ob,0,none⟩),.int .i32 118] [] K h:=by
 refine dN (some ⟨b,0,none⟩) (some ⟨ob,0,none⟩) 118 ?_;unfold du av bU cX bL nv eI cg uE hO jl D2 sG;refine CondP.intro (fun e=>absurd e (by decide)) fun _=>CondP.intro (fun e=>absurd e (by decide)) fun _=>CondP.intro (fun e=>absurd e (by decide)) fun _=>CondP.intro (fun _=>?_) fun e=>absurd e (by decide)
 exact LC r fun m i f=>⟨_,rfl,tq (f.get c a) (by simp) rfl fun k b2 d=>g k (i.updO d a j) b2 (AY f d)⟩
theorem NT(l:Laid h)(d:4≤b)(r:RdAt W h b s)(c:h[ob]? =some (.cells (sE o).toArray bf (0,0))) (a:ob≠b) (k:W ob) {K:Unit→ad→Prop}
  (i:∀h',RdAt W h' b (jc 4294967295 s).2→h'[ob]? =some (.cells (sE (S4 o (ac .u32 ((jc 4294967295 s).1:Int)))).toArray bf (0,0))→Upd (fun y=>y=b∨y=ob) h h'→K () h'):HC PG cq [.pointer (some ⟨b,0,none⟩),.pointer (some ⟨ob,0,none⟩),.int .i32 105] [] K h:=by
 refine dN (some ⟨b,0,none⟩) (some ⟨ob,0,none⟩) 105 ?_;unfold du av bU cX bL nv eI cg uE hO jl D2 sG;refine CondP.intro (fun e=>absurd e (by decide)) fun _=>CondP.intro (fun e=>absurd e (by decide)) fun _=>CondP.intro (fun e=>absurd e (by decide)) fun _=>CondP.intro (fun e=>absurd e (by decide)) fun _=>CondP.intro (fun _=>?_) fun e=>absurd e (by decide)
 exact B9 (most:=4294967295) l d (by omega) r fun n j g=>⟨_,rfl,tq (g.get c a) (by simp) rfl fun m b2 f=>i m (j.updO f a k) b2 (AY g f)⟩
theorem NO(l:Laid h)(d:4≤b)(r:RdAt W h b s)(c:h[ob]? =some (.cells (sE o).toArray bf (0,0))) (a:ob≠b) (k:W ob) {K:Unit→ad→Prop}
  (i:∀h',RdAt W h' b (jc 4294967295 s).2→h'[ob]? =some (.cells (sE (ptT o (ac .u32 ((jc 4294967295 s).1:Int)))).toArray bf (0,0))→Upd (fun y=>y=b∨y=ob) h h'→K () h'):HC PG cq [.pointer (some ⟨b,0,none⟩),.pointer (some ⟨ob,0,none⟩),.int .i32 116] [] K h:=by
 refine dN (some ⟨b,0,none⟩) (some ⟨ob,0,none⟩) 116 ?_;unfold du av bU cX bL nv eI cg uE hO jl D2 sG;refine CondP.intro (fun e=>absurd e (by decide)) fun _=>CondP.intro (fun e=>absurd e (by decide)) fun _=>CondP.intro (fun e=>absurd e (by decide)) fun _=>CondP.intro (fun e=>absurd e (by decide)) fun _=>CondP.intro (fun e=>absurd e (by decide)) fun _=>CondP.intro (fun _=>?_) fun e=>absurd e (by decide)
 exact B9 (most:=4294967295) l d (by omega) r fun n j g=>⟨_,rfl,tq (g.get c a) (by simp) rfl fun m b2 f=>i m (j.updO f a k) b2 (AY g f)⟩
theorem NP(l:Laid h)(d:4≤b)(r:RdAt W h b s)(c:h[ob]? =some (.cells (sE o).toArray bf (0,0))) (a:ob≠b) (k:W ob) {K:Unit→ad→Prop}
  (i:∀h',RdAt W h' b (jc 2147483647 s).2→h'[ob]? =some (.cells (sE (ptS o (ac .i64 ((jc 2147483647 s).1:Int)))).toArray bf (0,0))→Upd (fun y=>y=b∨y=ob) h h'→K () h'):HC PG cq [.pointer (some ⟨b,0,none⟩),.pointer (some ⟨ob,0,none⟩),.int .i32 115] [] K h:=by
 refine dN (some ⟨b,0,none⟩) (some ⟨ob,0,none⟩) 115 ?_;unfold du av bU cX bL nv eI cg uE hO jl D2 sG;refine CondP.intro (fun e=>absurd e (by decide)) fun _=>CondP.intro (fun e=>absurd e (by decide)) fun _=>CondP.intro (fun e=>absurd e (by decide)) fun _=>CondP.intro (fun e=>absurd e (by decide)) fun _=>CondP.intro (fun e=>absurd e (by decide)) fun _=>CondP.intro (fun e=>absurd e (by decide)) fun _=>CondP.intro (fun _=>?_) fun e=>absurd e (by decide)
 exact B9 (most:=2147483647) l d (by omega) r fun n j g=>⟨_,rfl,tq (g.get c a) (by simp) rfl fun m b2 f=>i m (j.updO f a k) b2 (AY g f)⟩
theorem NM(l:Laid h)(d:4≤b)(r:RdAt W h b s)(c:h[ob]? =some (.cells (sE o).toArray bf (0,0))) (a:ob≠b) (k:W ob) {K:Unit→ad→Prop}
  (i:∀h',RdAt W h' b (jc 2147483647 s).2→h'[ob]? =some (.cells (sE (ptW o (ac .i64 ((jc 2147483647 s).1:Int)))).toArray bf (0,0))→Upd (fun y=>y=b∨y=ob) h h'→K () h'):HC PG cq [.pointer (some ⟨b,0,none⟩),.pointer (some ⟨ob,0,none⟩),.int .i32 119] [] K h:=by
 refine dN (some ⟨b,0,none⟩) (some ⟨ob,0,none⟩) 119 ?_;unfold du av bU cX bL nv eI cg uE hO jl D2 sG;refine CondP.intro (fun e=>absurd e (by decide)) fun _=>CondP.intro (fun e=>absurd e (by decide)) fun _=>CondP.intro (fun e=>absurd e (by decide)) fun _=>CondP.intro (fun e=>absurd e (by decide)) fun _=>CondP.intro (fun e=>absurd e (by decide)) fun _=>CondP.intro (fun e=>absurd e (by decide)) fun _=>CondP.intro (fun e=>absurd e (by decide)) fun _=>CondP.intro (fun _=>?_) fun e=>absurd e (by decide)
 exact B9 (most:=2147483647) l d (by omega) r fun n j g=>⟨_,rfl,tq (g.get c a) (by simp) rfl fun m b2 f=>i m (j.updO f a k) b2 (AY g f)⟩
end
end Go.Proofs
namespace Go.Proofs
open Go Go.Lift
def Lm(p:UInt8)(x:LV×xB):LV×xB:=
 if p=98 then((mK x.1).2,S5 x.2 (bN (mK x.1).1))
 else if p=111 then((mK x.1).2,ptO x.2 (bN (mK x.1).1))
 else if p=107 then((pC x.1).2,S3 x.2 (bN (pC x.1).1))
 else if p=118 then((pC x.1).2,Tn x.2 (bN (pC x.1).1))
 else if p=105 then((jc 4294967295 x.1).2,S4 x.2 (ac .u32 ((jc 4294967295 x.1).1:Int)))
 else if p=116 then((jc 4294967295 x.1).2,ptT x.2 (ac .u32 ((jc 4294967295 x.1).1:Int)))
 else if p=115 then((jc 2147483647 x.1).2,ptS x.2 (ac .i64 ((jc 2147483647 x.1).1:Int)))
 else if p=119 then((jc 2147483647 x.1).2,ptW x.2 (ac .i64 ((jc 2147483647 x.1).1:Int)))
 else x
def CQ(p:UInt8):Prop:=p=98∨p=111∨p=107∨p=118∨p=105∨p=116∨p=115∨p=119
section
variable {W M:Nat→Prop} {h h':ad} {b ob i:Nat} {s:LV} {o:xB}
theorem NQ{p:UInt8}(g:CQ p)(l:Laid h)(d:4≤b)(r:RdAt W h b s)(c:h[ob]? =some (.cells (sE o).toArray bf (0,0))) (a:ob≠b) (f:W ob) {K:Unit→ad→Prop}
  (e:∀h',RdAt W h' b (Lm p (s,o)).1→h'[ob]? =some (.cells (sE (Lm p (s,o)).2).toArray bf (0,0))→Upd (fun y=>y=b∨y=ob) h h'→K () h'):HC PG cq [.pointer (some ⟨b,0,none⟩),.pointer (some ⟨ob,0,none⟩),.int .i32 (p.toNat:Int)] [] K h:=by
 rcases g with rfl|rfl|rfl|rfl|rfl|rfl|rfl|rfl
 ·exact NU r c a f e
 ·exact NR r c a f e
 ·exact NS r c a f e
 ·exact NN r c a f e
 ·exact NT l d r c a f e
 ·exact NO l d r c a f e
 ·exact NP l d r c a f e
 ·exact NM l d r c a f e
theorem Mp{p:UInt8}(a:CQ p):p.toNat<128:=by
 rcases a with rfl|rfl|rfl|rfl|rfl|rfl|rfl|rfl<;>decide
theorem Mq{a:List UInt8}(R:∀p∈a,CQ p)(l:Laid h)(J:4≤b)(Q:4≤ob)(T:4≤i)(r:RdAt W h b s)(G:h[ob]? =some (.cells (sE o).toArray bf (0,0))) (A:ob≠b) (V:W ob) (t:i≠b) (v:i≠ob) (D:W i)
  (E:h[i]? =some (.stringIter (bN a) 0)) {Kend:ad→Prop}
  (z:∀h',RdAt W h' b (a.foldl (fun x p=>Lm p x) (s,o)).1→h'[ob]? =some (.cells (sE (a.foldl (fun x p=>Lm p x) (s,o)).2).toArray bf (0,0))→Upd (fun y=>y=b∨y=ob∨y=i) h h'→Kend h'):
  LoopP (fun(I:Unit→ad→Prop) (_:Unit) q=>Q2 ⟨i,0,none⟩ q (Kend q) (fun _ B C=>HC PG cq [.pointer (some ⟨b,0,none⟩),.pointer (some ⟨ob,0,none⟩),.int .i32 (B.toNat:Int)] [] (fun(_:Unit) K=>I () K) C)) () h:=by
 refine LoopP.ghost (fun(n:Nat) (_:Unit) f=>n≤a.length∧RdAt W f b ((a.take n).foldl (fun x p=>Lm p x) (s,o)).1∧f[ob]? =some (.cells (sE ((a.take n).foldl (fun x p=>Lm p x) (s,o)).2).toArray bf (0,0))∧f[i]? =some (.stringIter (bN a) n)∧Upd (fun y=>y=b∨y=ob∨y=i) h f) (fun n=>a.length-n) 0 ⟨cu _,r,G,E,Upd.refl _ _⟩ ?_
 rintro I n _ f ⟨N,H,d,j,F⟩ S;refine⟨rfl,bN a,n,j,?_⟩;by_cases w:n<a.length
 ·obtain⟨p,k⟩:∃p,a[n]? =some p:=⟨_,List.getElem?_eq_getElem w⟩
  have m:=R p (List.mem_of_getElem? k);refine .inr ⟨p,by rw[MJ];simpa using k,Mp m,?_⟩
  have u:=Upd.set (M:=(· =i)) f (b:=i) (.stringIter (bN a) (n+1)) rfl
  have g:(f.setIfInBounds i (.stringIter (bN a) (n+1)))[i]? =some (.stringIter (bN a) (n+1)):=by
   have:=bp j;simp[this]
  show HC PG cq _ _ _ (f.setIfInBounds i (.stringIter (bN a) (n+1)))
  generalize f.setIfInBounds i (.stringIter (bN a) (n+1))=h3 at u g;have e:a.take (n+1)=a.take n++ [p]:=by rw[List.take_add_one,k];rfl
  have O:Laid h3:=l.upd (F.tr (u.mono fun y c=>.inl (.inr (.inr c)))) fun y c=>by rcases c with rfl|rfl|rfl<;>assumption
  refine NQ m O J (H.upd u (fun e=>t (by have e:b=i:=e;exact e.symm)) fun y c=>.inl (by have c:y=i:=c;rw[c];exact D)) (u.get d fun e=>v (by have e:ob=i:=e;exact e.symm)) A V fun X U P L=>?_
  refine S (n+1) () X ⟨w,?_,?_,L.get g (by rintro(e|e);exact t e;exact v e),(F.tr (u.mono fun y c=>.inl (.inr (.inr c)))).tr (L.mono fun y c=>.inl (c.imp id .inl))⟩ (by omega)
  ·rw[e,nq];exact U
  ·rw[e,nq];exact P
 ·have N:n=a.length:=by omega
  rw[N,List.take_length]at H d;exact .inl ⟨by rw[ga];omega,z f H d F⟩
end
end Go.Proofs
