/- A part of the proof that the named laws of this program answer true, whatever the input. -/
import Derived.Test.YtajpljopgikpgaaGreatDoorPart4
import Derived.Test.YtajpljopgikpgaaGreatDoorPart2
open ByteArray renaming mk→iJ
open Int renaming toNat_natCast→aM
open List renaming eraseIdx_eq_take_drop_succ→fe,getElem?_eraseIdx→mn,mem_singleton→aj,getElem_mem→aW,getElem?_eq_getElem→ag,length_append→ae,mem_of_getElem?→aw,getElem?_set→dT,getElem?_of_mem→fE,pairwise_singleton→eC
open List.Pairwise renaming nil→fO
open Nat renaming lt_or_ge→bM,one_pos→p9,le_refl→au,lt_of_lt_of_le→bI,zero_add→aD
namespace Go.Proofs
open Go Go.Lift
theorem MY{Ts:List (Nat→Prop)}(d:PD Ts)(i:Nat):PD (Ts.take i++Ts.drop (i+1)):=by
 intro a b A B e c eb;simp only[←fe,mn]at c eb;split at c<;>split at eb
 ·exact d a b A B e c eb
 ·exact d a (b+1) A B (by omega) c eb
 ·exact d (a+1) b A B (by omega) c eb
 ·exact d (a+1) (b+1) A B (by omega) c eb
theorem JO{o:Option Addr}{W S X A:Nat→Prop}{h:ad}{d b:Nat}{T:List (Nat→Prop)}(i:∀y,W y→y<h.size)(f:o=none→∀y,¬S y)(j:∀y,A y→S y∨h.size≤y)(g:S b∨h.size≤b)(e:o=none):(∀y,A y→¬(W y∨SR o d X T y))∧¬(W b∨SR o d X T b):=by
 have no:∀y,(S y∨h.size≤y)→¬(W y∨SR o d X T y):=fun y c a=>by
  rcases a with a|⟨a,_⟩
  ·rcases c with h|h
   ·exact f e y h
   ·have:=i y a;omega
  ·rw[e]at a;cases a
 exact⟨fun y c=>no y (j y c),no _ g⟩
theorem FL{o:Option Addr}{W S A:Nat→Prop}{h b:ad}{a:Nat}{sl val:ByteArray}{s3:SliceV}{w:Option ByteArray}{f:List (Option Addr)}{L':List Bn}{Us':List (Nat→Prop)}
  (q:∀y,W y→y<h.size)(k:o=none→∀y,¬S y)(m:b[a]? =some (.cells (tB sl w.isSome val s3 o) aU (0,0))) (hv:val=w.getD ⟨#[]⟩) (j:OwnS kC 1 aH A b s3 f) (g:∀y,A y→(S y∨h.size≤y)∧y≠a∧y<b.size) (d:S a∨h.size≤a)
  (s:∀U∈Us',∀y,U y→¬A y∧y≠a) (i:∀U∈Us',∀y,U y→(S y∨h.size≤y)∧y<b.size) (n:PD Us') (p:(∀y,SR o a A Us' y→(S y∨h.size≤y)∧y<b.size)→LsO o (fun y=>W y∨SR o a A Us' y) b f L' Us'):
  RxO o (fun y=>W y∨SR o a A Us' y) b a sl w (.ofL L') (SR o a A Us')∧∀y,SR o a A Us' y→(S y∨h.size≤y)∧y<b.size:=by
 have e:∀y,SR o a A Us' y→(S y∨h.size≤y)∧y<b.size:=fun y c=>vl d (aF m) (fun y c=>⟨(g y c).1,(g y c).2.2⟩) i c
 exact⟨sE m hv j (fun y c=>(g y c).2) s n (by rw[Fo.to_of];exact p e) (JO q k (fun y c=>(g y c).1) d),e⟩
def Ov(o:Option Addr)(W:Nat→Prop)(h:ad)(r:Option Addr)(m:Option Bn)(S:Nat→Prop):Prop:=(r=none∧m=none)∨∃n,m=some n∧KidO o W h r n S
set_option maxHeartbeats 1000000 in
theorem FO{w' o:Option Addr}{W S:Nat→Prop}{h:ad}{b:Nat}{sl:ByteArray}{w:Option ByteArray}{F:Fo}(r:RxO o W h b sl w F S)(t:By h w' o)(hW:∀y,W y→y<h.size)(D:∀y,S y→W y)(hWo:∀a,o=some a→W a.block)(hc:dW F)(N:sl.data.toList≠[])(hs1:sl.size≤1000000)(hs2:∀k v,m0 F k v→k.length≤1000000)
  {K:Option Addr→ad→Prop}(hk:∀j r m S2,Upd S h j→Md (sl.data.toList,w,F) m→Ov o (fun y=>W y∨S2 y) j r m S2→(∀y,S2 y→(S y∨h.size≤y)∧y<j.size)→K r j):HC PG lX [.pointer (some ⟨b,0,none⟩),.pointer w'] [.c .ptr] K h:=by
 refine wH _ w' ?_;unfold pO dC fH cG bL y9 rO ip;have hr:=r;have hno:o=none→∀y,¬S y:=fun e=>by subst e;exact r.off.2
 have hSb:∀y,S y→y<h.size:=fun y c=>hW y (D y c)
 obtain⟨val,s,ow,ks,Us,P,hv,hs,hL,hUS,hPD,hown⟩:=r.view;have hn:=iE hc;have f:=hs.len;rw[hL.1]at f;refine Join.intro (fun t j=>t=decide (w.isSome∨2≤F.toL.length)∧j=h) (fun R hR=>⟨_,rfl,w.isSome,cF (i:=1) P,?_⟩) ?_
 ·cases w with
  |some v=>exact az.2 (hR _ _ ⟨rfl,rfl⟩)
  |none=>
   refine ah.2 ⟨_,rfl,s,cF (i:=3) P,hR _ _ ⟨?_,rfl⟩⟩;rw[decide_eq_decide];constructor
   ·intro h;exact .inr (by omega)
   ·rintro(h|h)
    ·cases h
    ·omega
 ·rintro t' j ⟨rfl,rfl⟩
  refine bj (fun G=>?_) fun G=>?_
  ·exact hk j _ _ S (Upd.refl _ _) (IB N hc G) (.inr ⟨_,rfl,b,sl,rfl,rfl,hr.less fun y c=>.inl (c.elim id (D y))⟩) fun y c=>⟨.inl c,hSb y c⟩
  ·have hw:w=none:=by
    cases w with
    |none=>rfl
    |some v=>exact absurd (.inl rfl) G
   subst hw;have hl2:F.toL.length<2:=by
    rcases bM F.toL.length 2 with h|h
    ·exact h
    ·exact absurd (.inr h) G
   refine⟨_,rfl,s,cF (i:=3) P,?_⟩;match hFL:F.toL,hl2 with
   | [],_=>
    rw[hFL]at f;have e:((s.len:Int)==(0:Int))=true:=by rw[beq_iff_eq,f];rfl
    rw[e];exact az.2 (hk j _ _ No (Upd.refl _ _) (IC hFL) (.inl ⟨rfl,rfl⟩) fun y c=>c.elim)
   | [(lk,wk,Fk)],_=>
    rw[hFL]at f;have e:((s.len:Int)==(0:Int))=false:=by rw[beq_eq_false_iff_ne,f];simp
    rw[e];have q:(lk,wk,Fk)∈F.toL:=by rw[hFL];exact aj.2 rfl
    have hcm:=(dx.1 hc).2 _ q;have h0:F.toL[0]? =some (lk,wk,Fk):=by rw[hFL];rfl
    have M:0<ks.length:=by rw[hL.1,hFL];exact p9
    have Y:0<Us.length:=by rw[hL.2.1,hFL];exact p9
    have O:Us[0]∈Us:=aW Y;obtain⟨kb,A,hke,H,x⟩:=hL.2.2 0 _ _ _ (ag M) h0 (ag Y);have hki:ks[0]? =some (some ⟨kb,0,none⟩):=by rw[ag M,hke]
    have g:∀y,Us[0] y→S y:=hUS _ O;generalize Us[0]=U at x O g;simp only at H x;obtain⟨a,ha,_,hvv⟩:=hs.at0 hki;have hknr:=x;have hno2:o=none→∀y,¬U y:=fun e=>by subst e;exact x.off.2
    obtain⟨kval,kss,kow,kks,u,Q,hkv,hkss,hkL,E,hkPD,L⟩:=x.view;have Z:=iE hcm.2.2;have hUb:∀y,U y→y<j.size:=fun y c=>hSb y (g y c)
    have p:∀V∈u,∀y,V y→y<j.size:=fun V B y c=>hUb y (E V B y c)
    refine ah.2 ⟨_,rfl,s,cF (i:=3) P,⟨by omega,by rw[f];simp⟩,a,ha,some ⟨kb,0,none⟩,hvv,?_⟩
    refine iX (W:=W) (S:=U) (Us:=u) t hWo Q (by rw[hkL.1];exact Z) (xu (Us:=u) L (aF Q) (Upd.refl No j) (fun _ h=>h.elim) fun V B y c=>⟨.inl ⟨V,B,c⟩,p V B y c⟩) fun h1 b1 s1 A1 X hA1 d C hU1 I=>?_
    obtain⟨rr,vv,hin⟩:=kG hc _ q;have hbd:=hs2 (lk++rr) vv (ee.2 ⟨_,q,rr,rfl,hin⟩);rw[ae]at hbd;have hlkl:lk.length=A.size:=by rw[←H];exact jK A
    refine⟨_,rfl,sl,cF (i:=0) (I.get0 P),_,rfl,A,cF (i:=0) X,by omega,?_⟩
    refine rk X fun G b2 J=>?_
    have u02:Upd (· =b1) j G:=I.wide.tr J
    have z1:=I.size;have z2:=J.size;have zb:=aF b2;have n:∀{z:Nat},(U z∨j.size≤z)→S z∨j.size≤z:=fun h=>h.imp (g _) id
    have T:∀y,SR o b1 A1 u y→(S y∨j.size≤y)∧y<G.size:=fun y c=>vl (n C) zb (fun y c=>⟨n (d y c).1,by have:=(d y c).2.2;omega⟩) (fun V B y c=>⟨.inl (g y (E V B y c)),by have:=p V B y c;omega⟩) c
    refine hk G _ _ (SR o b1 A1 u) (u02.mono fun y c=>by have c:y=b1:=c;rw[c];exact n C) (Ki N hc hFL) (.inr ⟨_,rfl,b1,sl++A,rfl,by rw[←H];exact La sl A,sE b2 hkv (hA1.upd J fun y c=>(d y c).2.1) (fun y c=>⟨(d y c).2.1,by have:=(d y c).2.2;omega⟩) hU1 hkPD (hkL.move u02 p (fun y c=>?_) fun y c=>c.elim .inl fun h=>(T y h).1.imp (D y) id) (JO hW hno (fun y c=>n (d y c).1) (n C))⟩) T
    have c:y=b1:=c;subst c;exact C.imp (fun h=>⟨D y (g y h),fun V B hu=>(hU1 V B y hu).2 rfl⟩) id
end Go.Proofs
namespace Go.Proofs
open Go Go.Lift
set_option maxHeartbeats 4000000 in
theorem Ih{w' o:Option Addr}:∀(n:Nat) {W S:Nat→Prop} {b:Nat} {sl:ByteArray} {w:Option ByteArray} {F:Fo} {h:ad} (k:ByteArray),k.size<n→RxO o W h b sl w F S→By h w' o→(∀y,W y→y<h.size)→(∀y,S y→W y)→(∀a,o=some a→W a.block)→(∀a,w'=some a→¬S a.block)→dW F→(∀j v,m0 F j v→j.length≤1000000)→∀{K:(Option Addr)×Bool→ad→Prop},
  (∀h' G w2 F2 S2 R,Upd S h h'→RxO o (fun y=>W y∨S2 y) h' G sl w2 F2 S2→(∀y,S2 y→(S y∨h.size≤y)∧y<h'.size)→dW F2→p7 (nF w F) (nF w2 F2) k.data.toList→(R=false→G=b∧w2=w∧F2=F∧Upd No h h'∧∀v,¬nF w F k.data.toList v)→(R=true→∃v,nF w F k.data.toList v)→K (some ⟨G,0,none⟩,R) h')→
  HC PG jl [.pointer (some ⟨b,0,none⟩),.pointer w',.string k] [.c .ptr,.c .bool] K h:=by
 intro n;induction n with
 |zero=>intro W S b sl w F h k hk;omega
 |succ n ih=>
  intro W S b sl w F h k hkn r t hW B hWo hwS hc hbd K hk;refine wJ (some ⟨b,0,none⟩) w' k ?_;unfold pQ dC fH cG bL qz c8 rO Jj ip CR Ea;have hr:=r;have hno:o=none→∀y,¬S y:=fun e=>by subst e;exact r.off.2
  obtain⟨val,s,ow,ks,Us,hb,hv,hs,hL,hUS,hPD,hown⟩:=r.view;have hn:=iE hc;have hcan:=dx.1 hc;have hSb:∀y,S y→y<h.size:=fun y d=>hW y (B y d)
  have L:∀U∈Us,∀y,U y→y<h.size:=fun U C y d=>hSb y (hUS U C y d)
  have zb:=aF hb;have own2:=fun{h2:ad} {M:Nat→Prop} (ku:Upd M h h2) (hM:∀y,M y→S y∧∃U∈Us,U y) (Us':List (Nat→Prop)) (C:∀U∈Us',∀y,U y→((∃V∈Us,V y)∨h.size≤y)∧y<h2.size)=>xu (Us':=Us') hown zb ku hM C
  have X:∀{h':ad},Upd No h h'→(∀v,¬nF w F k.data.toList v)→K (some ⟨b,0,none⟩,false) h':=fun hu hnin=>hk _ b w F S false hu.wide ((hr.upd0 hu).less fun y d=>.inl (d.elim id (B y))) (fun y d=>⟨.inl d,by have:=hSb y d;have:=hu.size;omega⟩) hc (GE hnin) (fun _=>⟨rfl,rfl,rfl,hu,hnin⟩) fun h=>by cases h
  rw[kM];refine bj (fun hk0=>?_) fun hk0=>?_
  ·have hke:k.data.toList= []:=by rw[hk0]
   rw[hke]at hk X;refine⟨_,rfl,w.isSome,cF (i:=1) hb,?_⟩;cases hw:w with
   |none=>
    refine az.2 (X (Upd.refl _ _) fun v f=>?_)
    rcases f with⟨_,h⟩|h
    ·rw[hw]at h;cases h
    ·exact absurd rfl (lS hc h)
   |some u=>
    refine ah.2 (iX (S:=S) (Us:=Us) t hWo hb (by rw[hL.1];exact hn) (own2 (Upd.refl No h) (fun _ h=>h.elim) Us fun U C y d=>⟨.inl ⟨U,C,d⟩,L U C y d⟩) fun h1 G s1 A1 b1 hA1 hA1s P hU1 hu1=>?_)
    refine⟨_,rfl,JP (i:=1) b1 (show 1<5 by decide),Ac (i:=1) (c':=tB sl false val s1 o) b1 rfl fun h2 b2 hu2=>?_⟩
    refine⟨_,rfl,JP (i:=2) b2 (show 2<5 by decide),Ac (i:=2) (c':=tB sl false ⟨#[]⟩ s1 o) b2 rfl fun h3 b3 hu3=>?_⟩
    have hu13:=hu2.tr hu3;have z1:=hu1.size;have z3:=hu13.size;have u03:Upd (· =G) h h3:=hu1.wide.tr hu13
    obtain⟨rx,E⟩:=FL (W:=W) (S:=S) (w:=none) (val:=⟨#[]⟩) (L':=F.toL) hW hno b3 rfl (hA1.upd hu13 fun y d=>(hA1s y d).2.1) (fun y d=>⟨(hA1s y d).1,(hA1s y d).2.1,by have:=(hA1s y d).2.2;omega⟩) P hU1 (fun U C y d=>⟨.inl (hUS U C y d),by have:=L U C y d;omega⟩) hPD fun E=>hL.move u03 L (fun y d=>by
     have d:y=G:=d
     subst d
     exact P.imp (fun h=>⟨B y h,fun U C hu=>(hU1 U C y hu).2 rfl⟩) id) fun y d=>d.elim .inl fun h=>(E y h).1.imp (B y) id
    rw[Fo.of_to]at rx;exact hk h3 G none F _ true (u03.mono fun y d=>by have d:y=G:=d;rw[d];exact P) rx E hc (GD hc) (fun h=>by cases h) fun _=>⟨u,.inl ⟨rfl,hw⟩⟩
  ·have J:k.data.toList≠[]:=fun e=>hk0 (by cases k;exact congrArg iJ (Array.toList_inj.1 e))
   obtain⟨c0,hc0,hc0e⟩:=Az J;refine⟨c0,Int.le_refl _,hc0,?_⟩;have hlk:k.data.toList.length=k.size:=jK k;refine B7 (hr.read t) hc (c:=c0.toNat) (UInt8.toNat_lt _) fun i ok hil hlo hhi hok=>?_
   rw[hc0e]at hlo hhi hok;cases ok with
   |false=>
    refine az.2 (X (Upd.refl _ _) fun v f=>?_)
    rcases f with⟨h,_⟩|f
    ·exact J h
    ·obtain⟨n',hn',e,_⟩:=nC hc f
     obtain⟨j,p,rfl⟩:=List.getElem_of_mem hn';rcases bM j i with hl|hl
     ·have:=hlo j p hl;omega
     ·have h1:=hhi j p hl
      have h2:=hhi i (by omega) (au _);rcases bM i j with hl2|hl2
      ·have h3:=List.pairwise_iff_getElem.1 hcan.1 i j (by omega) p hl2
       omega
      ·have:i=j:=by omega
       subst this;have:=hok.2 ⟨p,e⟩;cases this
   |true=>
    obtain⟨hi,hie⟩:=hok.1 rfl;refine ah.2 ⟨_,rfl,s,cF (i:=3) hb,?_⟩;have Q:i<ks.length:=by rw[hL.1];exact hi
    have hUi0:i<Us.length:=by rw[hL.2.1];exact hi
    obtain⟨kb,ksl,hke,hkl,O⟩:=hL.2.2 i _ _ _ (ag Q) (ag hi) (ag hUi0);have hki:ks[i]? =some (some ⟨kb,0,none⟩):=by rw[ag Q,hke]
    have hUie:Us[i]? =some Us[i]:=ag hUi0;have I:Us[i]∈Us:=aW hUi0;have hmem:F.toL[i]∈F.toL:=aW hi;have hcm:=hcan.2 _ hmem;obtain⟨a,ha,_,hvv⟩:=hs.at0 hki;have hslen:=hs.len;rw[hL.1]at hslen;have hlt1:(i:Int)<((s.len:Nat):Int):=by omega
    refine⟨⟨by simp only;omega,hlt1⟩,a,ha,some ⟨kb,0,none⟩,hvv,_,rfl,?_⟩;obtain⟨kval,kss,kow,kks,kUs,hkb,_⟩:=O.view;have hin_m:∀v,m0 F k.data.toList v→qq F.toL[i] k.data.toList v:=fun v f=>by
     obtain⟨n',hn',e,hN⟩:=nC hc f;rw[←tK hc hn' hmem (by omega)];exact hN
    have N:∀j v,qq F.toL[i] j v→m0 F j v:=fun j v f=>ee.2 ⟨_,hmem,f⟩
    have D:∀{m:Bn},Jg m→hd m.1=hd F.toL[i].1→dW (.ofL (F.toL.set i m)):=fun h1 h2=>HO hc hi h1 h2
    have hdset:∀{m:Bn},p7 (qq F.toL[i]) (qq m) k.data.toList→p7 (m0 F) (m0 (.ofL (F.toL.set i m))) k.data.toList:=fun hp=>IR hc hi hie hp
    have hddel:(∀k' v',qq F.toL[i] k' v'→k'=k.data.toList)→p7 (m0 F) (m0 (.ofL (F.toL.take i++F.toL.drop (i+1)))) k.data.toList:=fun hp=>IS hc hi hie hp
    have q:∀y,Us[i] y→S y:=hUS _ I;have hUib:∀y,Us[i] y→y<h.size:=L _ I;have hUid:∀j U,j≠i→Us[j]? =some U→Dj Us[i] U:=fun j U p H=>hPD i j _ _ (Ne.symm p) hUie H
    have nUb:¬Us[i] b:=fun hu=>by
     rcases hown with⟨_,_,_,hS0⟩|⟨_,_,A,_,_,_,hUA⟩
     ·exact hS0 _ (q _ hu)
     ·exact(hUA _ I b hu).2 rfl
    generalize F.toL[i]=m at hkl O hcm hin_m N D hdset hddel hie;generalize Us[i]=Ui at O hUie I q hUib hUid nUb;obtain⟨lab,wk,Fk⟩:=m;simp only at hkl O hcm hie D;refine⟨ksl,cF (i:=0) hkb,Nl (fun rest x=>?_) fun hnr=>?_⟩
    ·rw[hkl]at x
     have hlne:lab.length≠0:=fun e=>hcm.1 (List.length_eq_zero_iff.1 e)
     have hrl:rest.size<k.size:=by
      rw[←jK rest,←hlk,x,ae];omega
     refine ah.2 ⟨_,rfl,s,cF (i:=3) hb,⟨by simp only;omega,hlt1⟩,a,ha,some ⟨kb,0,none⟩,hvv,?_⟩;have hkbd:∀j v,m0 Fk j v→j.length≤1000000:=fun j v f=>by
      have:=hbd _ v (N (lab++j) v ⟨j,rfl,.inr f⟩);rw[ae]at this;omega
     have tU:∀{M:Nat→Prop} {h':ad},Upd M h h'→(∀y,M y→Ui y)→By h' w' o:=fun ku hM=>t.upd ku fun b e d=>absurd (q _ (hM _ d)) (hwS _ e)
     refine ih (W:=W) (S:=Ui) rest (by omega) O t hW (fun y d=>B y (q y d)) hWo (fun a e d=>hwS a e (q _ d)) hcm.2.2 hkbd fun h2 b2 w2 F2 SV R ku rn2 Z hc2 hd2 hg0 hg1=>?_
     have z02:=ku.size;cases R with
     |false=>
      obtain⟨_,_,_,hu20,hnin⟩:=hg0 rfl;refine az.2 (X hu20 fun v f=>?_)
      rcases f with⟨h,_⟩|f
      ·exact J h
      ·obtain⟨r',e,hr'⟩:=hin_m v f
       simp only at e;rw[x]at e;exact hnin v (by rw[List.append_cancel_left e];exact hr')
     |true=>
      obtain⟨v0,hv0⟩:=hg1 rfl;have hthere:∃v,nF w F k.data.toList v:=⟨v0,.inr (N _ _ ⟨_,x,hv0⟩)⟩;have hdn:p7 (qq (lab,wk,Fk)) (qq (lab,w2,F2)) k.data.toList:=by
       rw[x];exact GF hd2
      have hmem2:∀{V:Nat→Prop},∀U∈Us.set i V,U∈Us∨U=V:=fun U C=>List.mem_or_eq_of_mem_set C
      have hsetm:∀V:Nat→Prop,V∈Us.set i V:=fun V=>aw (i:=i) (by rw[dT,if_pos rfl,if_pos hUi0])
      refine ah.2 (iX (W:=W) (S:=S) (Us:=Us.set i SV) (tU ku fun _ h=>h) hWo (ku.get hb nUb) (by rw[hL.1];exact hn) (own2 ku (fun y d=>⟨q y d,_,I,d⟩) _ fun U C y d=>?_) fun h3 G s3 A3 b3 ho3 g P hU3 hu3=>?_)
      ·rcases hmem2 U C with h|rfl
       ·exact⟨.inl ⟨U,h,d⟩,by have:=L U h y d;omega⟩
       ·exact⟨(Z y d).1.imp (fun h=>⟨_,I,h⟩) id,(Z y d).2⟩
      have hUj:∀{j U},j≠i→Us[j]? =some U→U∈Us.set i SV:=fun{j U} p H=>aw (i:=j) (by rw[dT,if_neg (Ne.symm p)];exact H)
      have z23:=hu3.size;obtain⟨rr,vv,f⟩:=kG hc _ hmem;have hlb:lab.length≤1000000:=by
       have:=hbd _ v0 (N _ _ ⟨_,x,hv0⟩);rw[x,ae]at this;omega
      have hb2:∀j v,m0 F2 j v→j.length≤1000000:=fun j v f=>by
       rcases((hd2 j v).1 (.inr f)).2 with⟨e,_⟩|h
       ·rw[e];simp
       ·exact hkbd j v h
      refine FO (W:=fun y=>(W y∨SV y)∨(h2.size≤y∧y<h3.size)) (S:=SV) ((rn2.less (W':=fun y=>(W y∨SV y)∨(h2.size≤y∧y<h3.size)) fun y d=>d.imp id fun h=>h.1).upd0 hu3) ((tU ku fun _ h=>h).upd0 hu3) (fun y d=>?_) (fun y d=>.inl (.inr d)) (fun a e=>.inl (.inl (hWo a e))) hc2 (by rw[hkl];exact hcm.1) (by rw[←jK ksl,hkl];exact hlb) hb2 fun h4 r4 o4 S4 hu4 hm4 hr4 hS4=>?_
      ·rcases d with(h|h)|h
       ·have:=hW y h;omega
       ·have:=(Z y h).2;omega
       ·exact h.2
      rw[hkl]at hm4;have z34:=hu4.size;have b4:=hu4.get b3 fun h=>(hU3 SV (hsetm SV) _ h).2 rfl
      have ho4:=ho3.upd hu4 fun y d h=>(hU3 SV (hsetm SV) y h).1 d
      have hlen4:=ho4.len;have u04:Upd Ui h h4:=(ku.tr hu3.wide).trans hu4 fun y d=>(Z y d).1
      have z:∀y,A3 y→(S y∨h.size≤y)∧y≠G∧y<h4.size:=fun y d=>⟨(g y d).1.imp id fun h=>by omega,(g y d).2.1,by have:=(g y d).2.2;omega⟩
      have T:S G∨h.size≤G:=P.imp id fun h=>by omega
      have hS4':∀y,S4 y→(Ui y∨h.size≤y)∧y<h4.size:=fun y d=>⟨(hS4 y d).1.elim (fun h=>(Z y h).1) fun h=>.inr (by omega),(hS4 y d).2⟩
      have hS4A:∀y,S4 y→¬A3 y∧y≠G:=fun y d=>by
       rcases(hS4 y d).1 with h|h
       ·exact hU3 SV (hsetm SV) y h
       ·exact⟨fun ha=>by have:=(g y ha).2.2;omega,by have:=aF b3;omega⟩
      have oth:∀{h5:ad} {W':Nat→Prop} {j:Nat} {k':Option Addr} {n':Bn} {U:Nat→Prop},j≠i→ks[j]? =some k'→F.toL[j]? =some n'→Us[j]? =some U→Upd (fun y=>Ui y∨A3 y∨y=G) h h5→(∀y,W' y→W y∨h.size≤y)→KidO o W' h5 k' n' U:=fun{h5 W' j k' n' U} p ek en H ku5 hW'=>
       KidO.move ku5 (hL.2.2 j k' n' U ek en H) (L U (aw H)) (fun y d=>by
        rcases d with h|h|rfl
        ·exact .inl ⟨B y (q y h),hUid j U p H y h⟩
        ·exact(z y h).1.imp (fun hs=>⟨B y hs,fun hu=>(hU3 U (hUj p H) y hu).1 h⟩) id
        ·exact T.imp (fun hs=>⟨B _ hs,fun hu=>(hU3 U (hUj p H) _ hu).2 rfl⟩) id) hW'
      rcases hr4 with⟨rfl,rfl⟩|⟨m4,rfl,kid4⟩
      ·rcases hm4 with⟨_,hnone⟩|⟨_,e,_⟩
       ·have ew:IntKind.wrap .i64 ((i:Int)+1)=((i+1:Nat):Int):=by rw[nA (by omega)];omega
        refine az.2 ⟨_,rfl,s3,cF (i:=3) b4,?_⟩;simp only;rw[ew];refine GG ho4 Q (by rw[hL.1];omega) fun s5 h5 ho5 Y=>?_
        have b5:=Y.get b4 fun hx=>(g _ hx).2.1 rfl
        refine⟨_,rfl,JP (i:=3) b5 (show 3<5 by decide),Ac (i:=3) (c':=tB sl w.isSome val s5 o) b5 rfl fun h6 b6 hu6=>?_⟩
        have z45:=Y.size;have z56:=hu6.size;have u06:Upd (fun y=>Ui y∨A3 y∨y=G) h h6:=((u04.mono fun y d=>.inl (.inl d)).trans Y fun y d=>.inl (.inr (.inl d))).trans hu6 fun y d=>.inl (.inr (.inr d))
        have hmd:∀U∈Us.take i++Us.drop (i+1),∃j,j≠i∧Us[j]? =some U:=fun U C=>by
         obtain⟨j,p⟩:=fE C;rw[←fe,mn]at p;split at p
         ·exact⟨j,by omega,p⟩
         ·exact⟨j+1,by omega,p⟩
        obtain⟨rx,E⟩:=FL (W:=W) (S:=S) (Us':=Us.take i++Us.drop (i+1)) (L':=F.toL.take i++F.toL.drop (i+1)) hW hno b6 hv (ho5.upd hu6 fun y d=>(g y d).2.1) (fun y d=>⟨(z y d).1,(z y d).2.1,by have:=(z y d).2.2;omega⟩) T (fun U C y d=>by
         obtain⟨j,p,e⟩:=hmd U C
         exact hU3 U (hUj p e) y d) (fun U C y d=>by
         obtain⟨j,p,e⟩:=hmd U C
         have hm:=aw e
         exact⟨.inl (hUS U hm y d),by have:=L U hm y d;omega⟩) (MY hPD i) fun E=>by
          refine⟨by simp[hL.1],by simp[hL.2.1],fun j k' n' U ek en H=>?_⟩
          simp only[←fe,mn]at ek en H;have hw:∀y,(W y∨SR o G A3 (Us.take i++Us.drop (i+1)) y)→W y∨h.size≤y:=fun y d=>d.elim .inl fun h=>(E y h).1.imp (B y) id
          split at ek
          ·rename_i p
           rw[if_pos p]at en H;exact oth (by omega) ek en H u06 hw
          ·rename_i p
           rw[if_neg p]at en H;exact oth (by omega) ek en H u06 hw
        refine hk h6 G w _ _ true (u06.mono fun y d=>?_) rx E (L5 hc) (AJ J (hddel fun k' v' hN=>Classical.byContradiction fun hne=>hnone k' v' ((hdn k' v').2 ⟨hne,hN⟩))) (fun h=>by cases h) fun _=>hthere
        rcases d with h|h|rfl
        ·exact .inl (q y h)
        ·exact(z y h).1
        ·exact T
       ·cases e
      ·rcases hm4 with⟨e,_⟩|⟨m',e,hcn,hhd,hiff⟩
       ·cases e
       ·cases e
        obtain⟨kb4,ksl4,rfl,hkl4,rn4⟩:=id kid4;obtain⟨a3,ha3,hab,hw3,ho5,Y⟩:=OwnS.setAt ho4 Q (some ⟨kb4,0,none⟩);refine ah.2 ⟨_,rfl,s3,cF (i:=3) b4,⟨by simp only;omega,by simp only;omega⟩,a3,ha3,?_⟩
        have hw1:Wr h4 (adr a3 (i*1)):=by
         rcases hw3 with hw|⟨G,P,hw⟩
         ·cases hw
         ·cases P;exact hw 0 (by simp)
        refine⟨hw1,bK ?_⟩;change K (some ⟨G,0,none⟩,true) (gd h4 (adr a3 (i*1)) 0 (kC (some ⟨kb4,0,none⟩)));have b5:=Y.get b4 fun e=>by have e:G=a3.block:=e;exact(g _ hab).2.1 e.symm
        have z45:=Y.size;have eset:ks.set i (some ⟨kb4,0,none⟩)=ks.take i++some ⟨kb4,0,none⟩::ks.drop (i+1):=by rw[List.set_eq_take_append_cons_drop,if_pos Q]
        rw[←eset]at ho5;generalize gd h4 (adr a3 (i*1)) 0 (kC (some ⟨kb4,0,none⟩))=h5 at*;have u05:Upd (fun y=>Ui y∨A3 y∨y=G) h h5:=(u04.mono fun y d=>.inl (.inl d)).trans Y fun y d=>.inl (.inr (.inl (by have d:y=a3.block:=d;rw[d];exact hab)))
        have kid5:KidO o (fun y=>W y∨SR o G A3 (Us.set i S4) y) h5 (some ⟨kb4,0,none⟩) m4 S4:=by
         refine KidO.move Y kid4 (fun y d=>(hS4 y d).2) (fun y d=>?_) fun y d=>?_
         ·have d:y=a3.block:=d
          rw[←d]at hab;refine .inl ⟨?_,fun h=>(hS4A y h).1 hab⟩
          rcases(g y hab).1 with h|h
          ·exact .inl (.inl (.inl (B y h)))
          ·exact .inl (.inr ⟨h,(g y hab).2.2⟩)
         ·have f:∀y,(S y∨h2.size≤y)→y<h3.size→(((W y∨SV y)∨(h2.size≤y∧y<h3.size))∨S4 y)∨h4.size≤y:=fun y d hl=>by
           rcases d with h|h
           ·exact .inl (.inl (.inl (.inl (B y h))))
           ·exact .inl (.inl (.inr ⟨h,hl⟩))
          rcases d with h|⟨_,rfl|h|⟨U,C,h⟩⟩
          ·exact .inl (.inl (.inl (.inl h)))
          ·exact f _ P (aF b3)
          ·exact f _ (g y h).1 (g y h).2.2
          ·rcases hmem2 U C with h2'|rfl
           ·exact .inl (.inl (.inl (.inl (B _ (hUS U h2' y h)))))
           ·exact .inl (.inr h)
        obtain⟨rx,E⟩:=FL (W:=W) (S:=S) (Us':=Us.set i S4) (L':=F.toL.set i m4) hW hno b5 hv ho5 (fun y d=>⟨(z y d).1,(z y d).2.1,by have:=(z y d).2.2;omega⟩) T (fun U C y d=>by
         obtain⟨j,p⟩:=fE C
         rw[dT]at p
         split at p
         ·rename_i e
          cases p;exact hS4A y d
         ·rename_i e
          exact hU3 U (hUj (Ne.symm e) p) y d) (fun U C y d=>by
         rcases hmem2 U C with h|rfl
         ·exact⟨.inl (hUS U h y d),by have:=L U h y d;omega⟩
         ·exact⟨(hS4' y d).1.imp (q y) id,by have:=(hS4' y d).2;omega⟩) (J0 hPD fun j U p H y d hu=>by
          rcases(hS4' y d).1 with h|h
          ·exact hUid j U p H y h hu
          ·have:=L U (aw H) y hu;omega) fun E=>LsO.set hL.1 hL.2.1 (fun j k' n' U p ek en H=>oth p ek en H u05 fun y d=>d.elim .inl fun h=>(E y h).1.imp (B y) id) kid5
        refine hk h5 G w _ _ true (u05.mono fun y d=>?_) rx E (D hcn hhd) (AJ J (hdset fun k' v'=>by rw[hiff k' v'];exact hdn k' v')) (fun h=>by cases h) fun _=>hthere
        rcases d with h|h|rfl
        ·exact .inl (q y h)
        ·exact(z y h).1
        ·exact T
    ·rw[hkl]at hnr
     refine az.2 (X (Upd.refl _ _) fun v f=>?_)
     rcases f with⟨h,_⟩|f
     ·exact J h
     ·obtain⟨r',e,_⟩:=hin_m v f
      exact hnr r' e
end Go.Proofs
namespace Go.Proofs
open Go.Lift
theorem NodeO.upd0{o:Option Addr}{W S:Nat→Prop}{h a:ad}{b:Nat}{s:Slots}(c:NodeO o W h b s S)(k:Upd No h a):NodeO o W a b s S:=
 c.imp (fun n=>⟨n.1.upd k fun _ h=>h.elim,n.2⟩) fun⟨e,d,n,sp,sk,f⟩=>⟨e,d,n,sp,sk,f.upd k fun _ h=>h.elim⟩
theorem NodeO.read{o w:Option Addr}{W S:Nat→Prop}{h:ad}{b:Nat}{s:Slots}(c:NodeO o W h b s S)(t:By h w o):NodeAt No h b s:=by
 rcases c with⟨n,_⟩|⟨e,d,n,sp,sk,f⟩
 ·exact n.less fun _ h=>h.elim
 ·exact f.node (fun _ _ h=>h) fun a e=>⟨id,t.plain a (t.tok e)⟩
set_option maxHeartbeats 1000000 in
theorem m8{W S:Nat→Prop}{h:ad}{w o:Option Addr}{b:Nat}{s:Slots}(nd:NodeO o W h b s S)(t:By h w o)(hW:∀a,o=some a→W a.block)(hS:∀y,S y→y<h.size){i:Nat}(hi:i<32)(hx:∀y,s.p i=some y→s.k i=none)(p:Pr){K:Option Addr→ad→Prop}
  (hk:∀h' b' d n sp sk,OwnN (fun y=>S y∨h.size≤y) h' b' d n sp sk ⟨upd s.p i (some p),upd s.k i none⟩ o→Upd S h h'→K (some ⟨b',0,none⟩) h'):
  HC PG dP [.pointer (some ⟨b,0,none⟩),.pointer w,.int .i64 i,.agg #[.string p.1,.string p.2]] [.c .ptr] K h:=by
 refine tV _ w i p ?_;unfold nW fH aE bL qz c8 ui rO Ls ld fJ kZ;have k1:=Upd.hnew No h [.string p.1,.string p.2] ar;have b1:=cu h [.string p.1,.string p.2] ar;refine bK ?_;simp only[fy h];generalize hnew h [.string p.1,.string p.2] ar=h1 at k1 b1;have z1:=aF b1;have Q:=nd.upd0 k1;have t1:=t.upd0 k1
 refine Ax (Q.read t1) hi (ah.2 ?_);refine Da Q t1 hW fun h2 F d n sp sk v L=>?_
 have bits:=v.bits;have O:∀{x},(S x∨h1.size≤x)→(S x∨h.size≤x):=fun h=>h.imp id fun h=>by omega
 have z2:=L.size;have zb:=aF v.blk;obtain⟨A,B,hA,hB,q,M⟩:=v.ex;have H:=k1.tr L;have z:=L.get0 b1;refine⟨_,rfl,_,db (i:=0) v.blk,xy bits.d32 hi ?_⟩;rw[bits.dp i hi];cases hp:s.p i with
 |some y=>
  refine az.2 ⟨_,rfl,sp,db (i:=2) v.blk,_,rfl,_,db (i:=0) v.blk,p.1,by rw[bG,aS z];rfl,p.2,by rw[bG,aS z];rfl,?_⟩
  refine mW bits.d32 hi ⟨⟨by rw[bG,aS z];rfl,by rw[bG,aS z];rfl⟩,db (i:=2) v.blk,?_⟩
  have hlt:=Cx hi bits.dp hp;obtain⟨a,ha,J,hw,R,m⟩:=OwnS.setAt hA hlt p;have hlen:=hA.len;refine⟨by omega,a,ha,?_⟩;rw[aM];refine⟨hw,bK ?_⟩;rw[←Kr hi bits.dp hp]at R;have ob:=m.get v.blk fun e=>(q _ J).2.2.1 e.symm
  have z3:=m.size;have o3:OwnN (fun x=>S x∨h1.size≤x) _ F d n sp sk ⟨upd s.p i (some p),upd s.k i none⟩ o:=⟨ob,⟨bits.d32,bits.n32,fun c hc=>by
    rw[bits.dp c hc];simp only[upd];split
    ·rename_i e;rw[e,hp];rfl
    ·rfl,fun c hc=>by rw[bits.nk c hc,qA (hx y hp)]⟩,
   ⟨A,B,R,by rw[qA (hx y hp)];exact hB.upd m fun x hx e=>(q _ J).2.1 (e▸hx),fun x hx=>⟨(q x hx).1,(q x hx).2.1,(q x hx).2.2.1,by have:=(q x hx).2.2.2;omega⟩,fun x hx=>⟨(M x hx).1,(M x hx).2.1,by have:=(M x hx).2.2;omega⟩⟩,v.mb⟩
  refine hk _ _ _ _ _ _ (o3.mono fun _=>O) (H.wide.trans m fun x hx=>?_)
  have hx:x=a.block:=hx;rw[hx];exact O (q _ J).1
 |none=>
  refine ah.2 ⟨_,rfl,Dw v hi fun D d3 n3 G I o3 m=>?_⟩
  have f:=o3.bits;obtain⟨A3,B3,hA3,hB3,j,k⟩:=o3.ex;have z3:=m.size;have C:=m.get z fun e=>e.elim (fun e=>by have:=hS _ e;omega) fun e=>by omega
  have hu03:Upd S h D:=H.wide.trans m fun x hx=>O hx
  refine⟨_,rfl,G,db (i:=2) o3.blk,_,rfl,_,db (i:=0) o3.blk,p.1,by rw[bG,aS C];rfl,p.2,by rw[bG,aS C];rfl,?_⟩
  have Z:=Upd.hnew No D [.string p.1,.string p.2] ar;have b4:=cu D [.string p.1,.string p.2] ar;have z4:=jP D [.string p.1,.string p.2] ar;have P:=o3.upd Z fun _ h=>h.elim
  have fin:HC PG cd [.slice G.a G.len G.cap,.int .i64 (ra i d3),.slice (some (aC D)) 1 1] [.c .slice] (fun(N:SliceV) V=>
       ∃a34:Addr,some (⟨F,0,none⟩:Addr)=some a34∧
       (Wr V (adr (adr a34 0) 2)∧
        At (hset V (adr (adr a34 0) 2) (.slice N.a N.len N.cap)) (fun h35=>
         ∃a36:Addr,some (⟨F,0,none⟩:Addr)=some a36∧
         ∃v37:Int,aG h35 (adr (adr a36 0) 0)=some (.int .u32 v37)∧
         HC PG dR [.int .u32 v37,.int .i64 i] [.c (.int .u32)] (fun(e38:Int) T=>
          ∃a40:Addr,some (⟨F,0,none⟩:Addr)=some a40∧
          (Wr T (adr (adr a40 0) 0)∧
           At (hset T (adr (adr a40 0) 0) (.int .u32 e38)) (fun h41=>
            K (some ⟨F,0,none⟩) h41))) h35))) (hnew D [.string p.1,.string p.2] ar):=by
   generalize hnew D [.string p.1,.string p.2] ar=h4 at Z b4 z4 P;rw[fy D];have hA4:=(hA3.upd Z fun _ _ h=>h).more (M':=fun x=>A3 x∨h4.size≤x) fun x hx=>.inl hx
   have hpn:(⟨upd s.p i none,upd s.k i none⟩:Slots).p i=none:=fg;refine Gs hA4 (Mr hi f.dp) (by have:=sO (g:=(⟨upd s.p i none,upd s.k i none⟩:Slots).p);omega) (x:=p) b4 (fun e=>e.elim (fun e=>by have:=(j _ e).2.2.2;omega) fun e=>by omega) (fun x hx=>.inr hx) fun s5 h5 X E=>?_
   rw[←Ks hi f.dp hpn p]at X;have hbl:F<D.size:=aF o3.blk;have b5:=E.get P.blk fun e=>e.elim (fun e=>(j _ e).2.2.1 rfl) fun e=>by omega
   refine⟨_,rfl,Lq (i:=2) b5 (show 2<6 by decide),Bp (i:=2) (c':=eg d3 n3 s5 I false o) b5 rfl fun h6 b6 hu6=>?_⟩
   refine⟨_,rfl,_,db (i:=0) b6,Hd f.d32 hi fun w1 hw hwt=>?_⟩
   refine⟨_,rfl,Lq (i:=0) b6 (show 0<6 by decide),Bp (i:=0) (c':=eg w1 n3 s5 I false o) b6 rfl fun h7 b7 hu7=>?_⟩
   have u:=hu6.tr hu7;have z5:=E.size;have z7:=u.size;have Y:=X.within;have e1:(⟨upd (⟨upd s.p i none,upd s.k i none⟩:Slots).p i (some p),upd s.k i none⟩:Slots)=⟨upd s.p i (some p),upd s.k i none⟩:=by rw[He]
   have o7:OwnN (fun x=>S x∨h1.size≤x) h7 F w1 n3 s5 I ⟨upd s.p i (some p),upd s.k i none⟩ o:=by
    rw[←e1];refine⟨b7,⟨hw,f.n32,fun c hc=>?_,f.nk⟩,⟨fun x=>(A3 x∨h4.size≤x)∧x<h5.size,B3,Y.upd u fun x hx e=>?_,((hB3.upd Z fun _ _ h=>h).upd E fun x hx e=>?_).upd u fun x hx e=>(k x hx).2.1 e,fun x hx=>⟨?_,?_,?_,by omega⟩,fun x hx=>⟨(k x hx).1,(k x hx).2.1,by have:=(k x hx).2.2;omega⟩⟩,v.mb⟩
    ·rw[hwt,f.dp c hc];simp only[upd];split<;>simp[*]
    ·have e:x=F:=e
     rcases hx.1 with h|h
     ·exact(j x h).2.2.1 e
     ·omega
    ·rcases e with e|e
     ·exact(j x e).2.1 hx
     ·have:=(k x hx).2.2;omega
    ·rcases hx.1 with h|h
     ·exact(j x h).1
     ·exact .inr (by omega)
    ·rcases hx.1 with h|h
     ·exact(j x h).2.1
     ·exact fun hb=>by have:=(k x hb).2.2;omega
    ·rcases hx.1 with h|h
     ·exact(j x h).2.2.1
     ·omega
   refine hk _ _ _ _ _ _ (o7.mono fun _=>O) (((hu03.tr Z.wide).trans E fun x hx=>?_).trans u fun x hx=>?_)
   ·rcases hx with h|h
    ·exact O (j x h).1
    ·exact .inr (by omega)
   ·have hx:x=F:=hx
    rw[hx];exact O v.mb
  refine⟨mW f.d32 hi ⟨⟨by rw[bG,aS C];rfl,by rw[bG,aS C];rfl⟩,db (i:=2) o3.blk,bK ⟨db (i:=2) P.blk,fin⟩⟩,bK ⟨db (i:=0) P.blk,db (i:=2) P.blk,mW f.d32 hi ⟨db (i:=2) P.blk,fin⟩⟩⟩
theorem IX{W S:Nat→Prop}{h:ad}{w o:Option Addr}{b:Nat}{s:Slots}(f:NodeO o W h b s S)(t:By h w o)(p:∀a,o=some a→W a.block){i:Nat}(hi:i<32){K:Option Addr→ad→Prop}
  (g:∀h' b' d n sp sk,OwnN (fun y=>S y∨h.size≤y) h' b' d n sp sk ⟨upd s.p i none,upd s.k i none⟩ o→Upd S h h'→K (some ⟨b',0,none⟩) h'):
  HC PG jm [.pointer (some ⟨b,0,none⟩),.pointer w,.int .i64 i] [.c .ptr] K h:=by
 refine wQ _ w i ?_;unfold pX rO ld;refine Ax (f.read t) hi (ah.2 ?_);refine Da f t p fun A q d n sp sk k e=>⟨_,rfl,Dw k hi fun v u z j m o3 c=>?_⟩
 exact g _ _ _ _ _ _ o3 (e.wide.trans c fun x hx=>hx)
set_option maxHeartbeats 1000000 in
theorem rj{W S:Nat→Prop}{h:ad}{w o:Option Addr}{b:Nat}{s:Slots}(nd:NodeO o W h b s S)(t:By h w o)(hW:∀a,o=some a→W a.block){i:Nat}(hi:i<32)(hx:∀y,s.k i=some y→s.p i=none)(j:Addr){K:Option Addr→ad→Prop}
  (hk:∀h' Z d n sp sk,OwnN (fun y=>S y∨h.size≤y) h' Z d n sp sk ⟨upd s.p i none,upd s.k i (some (some j))⟩ o→Upd S h h'→K (some ⟨Z,0,none⟩) h'):
  HC PG fl [.pointer (some ⟨b,0,none⟩),.pointer w,.int .i64 i,.pointer (some j)] [.c .ptr] K h:=by
 refine vu _ w i (some j) ?_;unfold o8 fH bL c8 rO ld CQ fJ kZ;refine ah.2 ?_;refine Ax (nd.read t) hi (ah.2 ?_);refine Da nd t hW fun h2 F d n sp sk u H=>?_
 have bits:=u.bits;have z2:=H.size;have zb:=aF u.blk;obtain⟨A,B,hA,hB,v,z⟩:=u.ex;refine⟨_,rfl,_,db (i:=1) u.blk,xy bits.n32 hi ?_⟩;rw[bits.nk i hi];cases hp:s.k i with
 |some y=>
  refine az.2 ⟨_,rfl,sk,db (i:=3) u.blk,_,rfl,_,db (i:=1) u.blk,?_⟩;refine mW bits.n32 hi ⟨db (i:=3) u.blk,?_⟩;have hlt:=Cx hi bits.nk hp;obtain⟨a,ha,G,I,N,p⟩:=OwnS.setAt hB hlt (some j);have hlen:=hB.len;refine⟨by omega,a,ha,?_⟩;rw[aM];have hw1:Wr h2 (adr a (ra i n*1)):=by
   rcases I with I|⟨Z,hb',I⟩
   ·cases I
   ·cases hb';exact I 0 (by simp)
  refine⟨hw1,bK ?_⟩;rw[←Kr hi bits.nk hp]at N;have ob:=p.get u.blk fun e=>(z _ G).2.1 e.symm
  have z3:=p.size;have o3:OwnN (fun x=>S x∨h.size≤x) _ F d n sp sk ⟨upd s.p i none,upd s.k i (some (some j))⟩ o:=⟨ob,⟨bits.d32,bits.n32,fun c hc=>by rw[bits.dp c hc,qA (hx y hp)],fun c hc=>by
    rw[bits.nk c hc];simp only[upd];split
    ·rename_i e;rw[e,hp];rfl
    ·rfl⟩,
   ⟨A,B,by rw[qA (hx y hp)];exact hA.upd p fun x hx e=>(v _ hx).2.1 (e▸G),N,fun x hx=>⟨(v x hx).1,(v x hx).2.1,(v x hx).2.2.1,by have:=(v x hx).2.2.2;omega⟩,fun x hx=>⟨(z x hx).1,(z x hx).2.1,by have:=(z x hx).2.2;omega⟩⟩,u.mb⟩
  refine hk _ _ _ _ _ _ o3 (H.wide.trans p fun x hx=>?_)
  have hx:x=a.block:=hx;rw[hx];exact(z _ G).1
 |none=>
  refine ah.2 ⟨_,rfl,Dw u hi fun C d3 n3 L D o3 p=>?_⟩
  have f:=o3.bits;obtain⟨A3,B3,Y,hB3,k,m⟩:=o3.ex;have z3:=p.size;have X:Upd S h C:=H.wide.trans p fun x hx=>hx
  refine⟨_,rfl,D,db (i:=3) o3.blk,_,rfl,_,db (i:=1) o3.blk,?_⟩;have T:=Upd.hnew No C [.pointer (some j)] ba;have b4:=cu C [.pointer (some j)] ba;have z4:=jP C [.pointer (some j)] ba;have M:=o3.upd T fun _ h=>h.elim
  have fin:HC PG bS [.slice D.a D.len D.cap,.int .i64 (ra i n3),.slice (some (aC C)) 1 1] [.c .slice] (fun(J:SliceV) P=>
       ∃a34:Addr,some (⟨F,0,none⟩:Addr)=some a34∧
       (Wr P (adr (adr a34 0) 3)∧
        At (hset P (adr (adr a34 0) 3) (.slice J.a J.len J.cap)) (fun V=>
         ∃a36:Addr,some (⟨F,0,none⟩:Addr)=some a36∧
         ∃v37:Int,aG V (adr (adr a36 0) 1)=some (.int .u32 v37)∧
         HC PG dR [.int .u32 v37,.int .i64 i] [.c (.int .u32)] (fun(e38:Int) O=>
          ∃a40:Addr,some (⟨F,0,none⟩:Addr)=some a40∧
          (Wr O (adr (adr a40 0) 1)∧
           At (hset O (adr (adr a40 0) 1) (.int .u32 e38)) (fun h41=>
            K (some ⟨F,0,none⟩) h41))) V))) (hnew C [.pointer (some j)] ba):=by
   generalize hnew C [.pointer (some j)] ba=h4 at T b4 z4 M;rw[fy C];have hB4:=(hB3.upd T fun _ _ h=>h).more (M':=fun x=>B3 x∨h4.size≤x) fun x hx=>.inl hx
   have hpn:(⟨upd s.p i none,upd s.k i none⟩:Slots).k i=none:=fg;refine Gt hB4 (Mr hi f.nk) (by have:=sO (g:=(⟨upd s.p i none,upd s.k i none⟩:Slots).k);omega) (x:=some j) b4 (fun e=>e.elim (fun e=>by have:=(m _ e).2.2;omega) fun e=>by omega) (fun x hx=>.inr hx) fun s5 h5 Q E=>?_
   rw[←Ks hi f.nk hpn (some j)]at Q;have hbl:F<C.size:=aF o3.blk;have b5:=E.get M.blk fun e=>e.elim (fun e=>(m _ e).2.1 rfl) fun e=>by omega
   refine⟨_,rfl,Lq (i:=3) b5 (show 3<6 by decide),Bp (i:=3) (c':=eg d3 n3 L s5 false o) b5 rfl fun h6 b6 hu6=>?_⟩
   refine⟨_,rfl,_,db (i:=1) b6,Hd f.n32 hi fun w1 I hwt=>?_⟩
   refine⟨_,rfl,Lq (i:=1) b6 (show 1<6 by decide),Bp (i:=1) (c':=eg d3 w1 L s5 false o) b6 rfl fun h7 b7 hu7=>?_⟩
   have q:=hu6.tr hu7;have z5:=E.size;have z7:=q.size;have R:=Q.within;have e1:(⟨upd s.p i none,upd (⟨upd s.p i none,upd s.k i none⟩:Slots).k i (some (some j))⟩:Slots)=⟨upd s.p i none,upd s.k i (some (some j))⟩:=by rw[He]
   have o7:OwnN (fun x=>S x∨h.size≤x) h7 F d3 w1 L s5 ⟨upd s.p i none,upd s.k i (some (some j))⟩ o:=by
    rw[←e1];refine⟨b7,⟨f.d32,I,f.dp,fun c hc=>?_⟩,⟨A3,fun x=>(B3 x∨h4.size≤x)∧x<h5.size,((Y.upd T fun _ _ h=>h).upd E fun x hx e=>?_).upd q fun x hx e=>(k x hx).2.2.1 e,R.upd q fun x hx e=>?_,fun x hx=>⟨(k x hx).1,?_,(k x hx).2.2.1,by have:=(k x hx).2.2.2;omega⟩,fun x hx=>⟨?_,?_,by omega⟩⟩,u.mb⟩
    ·rw[hwt,f.nk c hc];simp only[upd];split<;>simp[*]
    ·rcases e with e|e
     ·exact(k x hx).2.1 e
     ·have:=(k x hx).2.2.2;omega
    ·have e:x=F:=e
     rcases hx.1 with h|h
     ·exact(m x h).2.1 e
     ·omega
    ·rintro⟨h|h,_⟩
     ·exact(k x hx).2.1 h
     ·have:=(k x hx).2.2.2;omega
    ·rcases hx.1 with h|h
     ·exact(m x h).1
     ·exact .inr (by omega)
    ·rcases hx.1 with h|h
     ·exact(m x h).2.1
     ·omega
   refine hk _ _ _ _ _ _ o7 (((X.tr T.wide).trans E fun x hx=>?_).trans q fun x hx=>?_)
   ·rcases hx with h|h
    ·exact(m x h).1
    ·exact .inr (by omega)
   ·have hx:x=F:=hx
    rw[hx];exact u.mb
  refine⟨mW f.n32 hi ⟨db (i:=3) o3.blk,bK ⟨db (i:=3) M.blk,fin⟩⟩,bK ⟨db (i:=1) M.blk,db (i:=3) M.blk,mW f.n32 hi ⟨db (i:=3) M.blk,fin⟩⟩⟩
end Go.Proofs
namespace Go.Proofs
open Go.Lift
def OwnB(M:Nat→Prop)(h:ad)(b:Nat)(sp sk:SliceV)(l:List Pr)(o:Option Addr):Prop:=
 h[b]? =some (.cells (eg 0 0 sp sk true o) bm (0,0))∧M b∧∃A B:Nat→Prop,OwnS iY 2 ar A h sp l∧OwnS ny 1 ba B h sk []∧(∀x,A x→M x∧x≠b∧x<h.size)∧(∀x,B x→M x∧x≠b∧x<h.size)
theorem OwnB.upd{M M':Nat→Prop}{h f:ad}{b:Nat}{sp sk:SliceV}{l:List Pr}{o:Option Addr}(n:OwnB M h b sp sk l o)(k:Upd M' h f)(hm:∀x,M' x→¬M x):OwnB M f b sp sk l o:=by
 obtain⟨i,e,A,B,j,g,c,a⟩:=n;have z:=k.size;exact⟨k.get i fun hx=>hm _ hx e,e,A,B,j.upd k fun x hx d=>hm _ d (c x hx).1,g.upd k fun x hx d=>hm _ d (a x hx).1,fun x hx=>⟨(c x hx).1,(c x hx).2.1,by have:=(c x hx).2.2;omega⟩,fun x hx=>⟨(a x hx).1,(a x hx).2.1,by have:=(a x hx).2.2;omega⟩⟩
theorem OwnB.mono{M M':Nat→Prop}{h:ad}{b:Nat}{sp sk:SliceV}{l:List Pr}{o:Option Addr}(n:OwnB M h b sp sk l o)(hm:∀x,M x→M' x):OwnB M' h b sp sk l o:=by
 obtain⟨e,g,A,B,f,d,c,a⟩:=n;exact⟨e,hm _ g,A,B,f,d,fun x hx=>⟨hm _ (c x hx).1,(c x hx).2⟩,fun x hx=>⟨hm _ (a x hx).1,(a x hx).2⟩⟩
theorem OwnB.within{M:Nat→Prop}{h:ad}{b:Nat}{sp sk:SliceV}{l:List Pr}{o:Option Addr}(n:OwnB M h b sp sk l o):OwnB (fun x=>M x∧x<h.size) h b sp sk l o:=by
 obtain⟨d,g,A,B,f,e,c,a⟩:=n;exact⟨d,⟨g,aF d⟩,A,B,f,e,fun x hx=>⟨⟨(c x hx).1,(c x hx).2.2⟩,(c x hx).2⟩,fun x hx=>⟨⟨(a x hx).1,(a x hx).2.2⟩,(a x hx).2⟩⟩
theorem OwnB.buck{M W:Nat→Prop}{h:ad}{b:Nat}{sp sk:SliceV}{l:List Pr}{o:Option Addr}(n:OwnB M h b sp sk l o)(a:∀x,M x→¬W x)(i:OwOk W h o):BuckAt W h b l:=by
 obtain⟨f,j,A,B,d,c,g,e⟩:=n;exact⟨⟨sp,sk,o,f,d.sl fun x hx _=>a _ (g x hx).1,c.sl fun x hx _=>a _ (e x hx).1,d.cap,c.cap,i⟩,a _ j⟩
def BuckO(o:Option Addr)(W:Nat→Prop)(h:ad)(b:Nat)(l:List Pr)(S:Nat→Prop):Prop:=
 (BuckAt W h b l∧∀y,¬S y)∨(o.isSome=true∧∃sp sk,OwnB S h b sp sk l o)
theorem BuckO.upd0{o:Option Addr}{W S:Nat→Prop}{h a:ad}{b:Nat}{l:List Pr}(n:BuckO o W h b l S)(k:Upd No h a):BuckO o W a b l S:=
 n.imp (fun n=>⟨n.1.upd k fun _ h=>h.elim,n.2⟩) fun⟨e,sp,sk,c⟩=>⟨e,sp,sk,c.upd k fun _ h=>h.elim⟩
theorem BuckO.read{o w:Option Addr}{W S:Nat→Prop}{h:ad}{b:Nat}{l:List Pr}(c:BuckO o W h b l S)(t:By h w o):BuckAt No h b l:=by
 rcases c with⟨n,_⟩|⟨e,sp,sk,d⟩
 ·exact n.less fun _ h=>h.elim
 ·exact d.buck (fun _ _ h=>h) fun a e=>⟨id,t.plain a (t.tok e)⟩
theorem EH{W S:Nat→Prop}{h:ad}{w o:Option Addr}{b:Nat}{l:List Pr}(g:BuckO o W h b l S)(t:By h w o)(H:∀a,o=some a→W a.block)(F:l.length≤1000000000){K:Option Addr→ad→Prop}
  (v:∀j m sp sk,OwnB (fun y=>S y∨h.size≤y) j m sp sk l o→Upd No h j→K (some ⟨m,0,none⟩) j):
  HC PG dF [.pointer (some ⟨b,0,none⟩),.pointer w] [.c .ptr] K h:=by
 rcases g with⟨g,_⟩|⟨z,sp,sk,g⟩
 ·obtain⟨sp,sk,ow,D,q,u,E,I,i⟩:=g.ex
  refine Ht (d:=0) (n:=0) t D (fun a e=>(i a e).2) ?_ q u F (by simp) fun j s p A B m J G f c k=>?_
  ·cases ho:o with
   |none=>rfl
   |some a=>
    have e:=t.tok ho;rw[Option.isSome_some,Bool.true_and,beq_eq_false_iff_ne];intro C;rw[e]at C;exact(i a C).1 (H a ho)
  ·exact v j h.size s p ⟨m,.inr (au _),A,B,J,G,fun x hx=>⟨.inr (by have:=(f x hx).1;omega),by have:=(f x hx).1;omega,(f x hx).2.2⟩,fun x hx=>⟨.inr (by have:=(c x hx).1;omega),by have:=(c x hx).1;omega,(c x hx).2⟩⟩ k
 ·refine Hr (d:=0) (n:=0) t g.1 (fun a e=>t.plain a (t.tok e)) ?_ (v h b sp sk (g.mono fun _ h=>.inl h) (Upd.refl _ _))
  obtain⟨a,e⟩:=Option.isSome_iff_exists.1 z;rw[z,e,t.tok e];simp
theorem AV{W S:Nat→Prop}{h:ad}{w o:Option Addr}{b:Nat}{l:List Pr}(X:BuckO o W h b l S)(t:By h w o)(Q:∀a,o=some a→W a.block)(hS:∀y,S y→y<h.size)(C:cp l)(v:l.length≤1000000000)(p:Pr){K:Option Addr→ad→Prop}
  (G:∀h' b' sp sk,OwnB (fun y=>S y∨h.size≤y) h' b' sp sk (jc p l) o→Upd S h h'→K (some ⟨b',0,none⟩) h'):
  HC PG iP [.pointer (some ⟨b,0,none⟩),.pointer w,.agg #[.string p.1,.string p.2]] [.c .ptr] K h:=by
 refine y2 _ w p ?_;unfold r8 aE bL rP c8 ui rO;have k1:=Upd.hnew No h [.string p.1,.string p.2] ar;have b1:=cu h [.string p.1,.string p.2] ar;refine bK ?_;simp only[fy h];generalize hnew h [.string p.1,.string p.2] ar=h1 at k1 b1;have Y:=aF b1;have q:=X.upd0 k1;have D:=t.upd0 k1;obtain⟨sp,sk,ow,F,I,O,H,R⟩:=(q.read D).ex
 refine f6 (d:=0) (n:=0) F (ah.2 ?_);refine EH q D Q v fun L u s2 z V j=>?_
 obtain⟨b2,hM,A,B,E,P,ha,g⟩:=V;have k:=j.get0 b1;refine⟨_,rfl,s2,db (i:=2) b2,p.1,by rw[bG,aS k];rfl,p.2,by rw[bG,aS k];rfl,?_⟩
 refine Gd (E.sl (W:=No) fun _ _ _ h=>h) E.cap C v p fun s3 J m f=>?_
 rw[HA p C]at m;have b3:=f.get0 b2;refine⟨_,rfl,Lq (i:=2) b3 (show 2<6 by decide),Bp (i:=2) (c':=eg 0 0 s3 z true o) b3 rfl fun N M c=>?_⟩
 have z2:=aF b2;have T:=j.size;have z3:=f.size;have Z:=c.size;have s:∀{x},(S x∨h1.size≤x)→(S x∨h.size≤x):=fun h=>h.imp id fun h=>by omega
 refine G N u s3 z ⟨M,s hM,fun x=>L.size≤x∧x<J.size,B,m.within.upd c fun x hx e=>?_,(P.upd f fun _ _ h=>h).upd c fun x hx e=>(g x hx).2.1 e,fun x hx=>⟨.inr (by omega),by omega,by omega⟩,fun x hx=>⟨s (g x hx).1,(g x hx).2.1,by have:=(g x hx).2.2;omega⟩⟩ ((((k1.tr j).tr f).wide).trans c fun x hx=>?_)
 ·have e:x=u:=e
  have:=hx.1;omega
 ·have hx:x=u:=hx
  rw[hx];exact s hM
def TrieO(o:Option Addr)(W:Nat→Prop)(x:Hs)(h:ad):Nat→Nat→List Pr→(Nat→Prop)→Prop
 |0,b,l,S=>BuckO o W h b l S
 |m+1,b,l,S=>(TrieAt W x h (m+1) b l∧∀y,¬S y)∨(o.isSome=true∧∃(s:Slots) (d n:Nat) (sp sk:SliceV) (S0:Nat→Prop) (T:Nat→Nat→Prop),OwnN S0 h b d n sp sk s o∧(∀y,S0 y→S y)∧(∀c y,T c y→S y∧¬S0 y)∧(∀c c' y,T c y→T c' y→c=c')∧∀c,c<32→
  ((part x (12-m) c l= []∧s.p c=none∧s.k c=none∧∀y,¬T c y)∨(∃p,part x (12-m) c l= [p]∧s.p c=some p∧s.k c=none∧∀y,¬T c y)∨
   (2≤(part x (12-m) c l).length∧s.p c=none∧∃kb,s.k c=some (some ⟨kb,0,none⟩)∧TrieO o W x h m kb (part x (12-m) c l) (T c))))
def SlotO(o:Option Addr)(W:Nat→Prop)(x:Hs)(h:ad)(m:Nat)(s:Slots)(c:Nat)(l:List Pr)(T:Nat→Prop):Prop:=
 (l= []∧s.p c=none∧s.k c=none∧∀y,¬T y)∨(∃p,l= [p]∧s.p c=some p∧s.k c=none∧∀y,¬T y)∨(2≤l.length∧s.p c=none∧∃kb,s.k c=some (some ⟨kb,0,none⟩)∧TrieO o W x h m kb l T)
theorem Ec{o:Option Addr}{W:Nat→Prop}{x:Hs}{h:ad}:∀{m b:Nat} {l:List Pr},TrieAt W x h m b l→TrieO o W x h m b l No
 |0,_,_,t=>.inl ⟨t,fun _ h=>h⟩
 |_+1,_,_,t=>.inl ⟨t,fun _ h=>h⟩
theorem TrieO.freeze{o:Option Addr}{W W':Nat→Prop}{x:Hs}{h:ad}(g:∀y,W' y→W y)(i:OwOk W' h o):∀{m b:Nat} {l:List Pr} {S:Nat→Prop},TrieO o W x h m b l S→(∀y,S y→¬W' y)→TrieAt W' x h m b l
 |0,_,_,_,t,hS=>t.elim (fun t=>t.1.less fun y a=>.inl (g y a)) fun⟨_,_,_,t⟩=>t.buck hS i
 |m+1,b,l,S,t,hS=>by
  rcases t with⟨t,_⟩|⟨_,s,d,n,sp,sk,A,T,v,z,w,_,hc⟩
  ·exact TrieAt.less (fun y a=>.inl (g y a)) t
  ·exact⟨s,v.node (fun y a=>hS y (z y a)) i,fun c k=>(hc c k).imp (fun h=>⟨h.1,h.2.1,h.2.2.1⟩) fun o=>o.imp (fun⟨p,e,j,f,_⟩=>⟨p,e,j,f⟩) fun⟨e,j,u,f,q⟩=>⟨e,j,u,f,TrieO.freeze g i q fun y a=>hS y (w c y a).1⟩⟩
theorem TrieO.read{o w:Option Addr}{W S:Nat→Prop}{x:Hs}{h:ad}{m b:Nat}{l:List Pr}(t:TrieO o W x h m b l S)(by_:By h w o):TrieAt No x h m b l:=
 TrieO.freeze (fun _ h=>h.elim) (fun a e=>⟨id,by_.plain a (by_.tok e)⟩) t fun _ _ h=>h
theorem TrieO.off{W S:Nat→Prop}{x:Hs}{h:ad}{m b:Nat}{l:List Pr}(t:TrieO none W x h m b l S):TrieAt W x h m b l∧∀y,¬S y:=by
 cases m with
 |zero=>exact t.elim id fun h=>absurd h.1 (by simp)
 |succ m=>exact t.elim id fun h=>absurd h.1 (by simp)
theorem TrieO.upd{o:Option Addr}{W M:Nat→Prop}{x:Hs}{h p:ad}(k:Upd M h p):∀{m b:Nat} {l:List Pr} {S:Nat→Prop},TrieO o W x h m b l S→(∀y,S y→y<h.size)→(∀y,M y→(W y∧¬S y)∨h.size≤y)→TrieO o W x p m b l S
 |0,_,_,S,t,hS,hm=>t.imp (fun t=>⟨t.1.upd k fun y a=>(hm y a).imp (fun h=>h.1) id,t.2⟩) fun⟨e,sp,sk,t⟩=>⟨e,sp,sk,t.upd k fun y a f=>by
   have:=hS y f
   rcases hm y a with h|h
   ·exact h.2 f
   ·omega⟩
 |m+1,b,l,S,t,hS,hm=>by
  rcases t with⟨t,e⟩|⟨e,s,d,n,sp,sk,A,T,z,i,g,hd,hc⟩
  ·exact .inl ⟨TrieAt.updM k (fun y a=>(hm y a).imp (fun h=>h.1) id) t,e⟩
  ·refine .inr ⟨e,s,d,n,sp,sk,A,T,z.upd k fun y a f=>?_,i,g,hd,fun c j=>(hc c j).imp id fun o=>o.imp id fun⟨v,C,u,B,q⟩=>⟨v,C,u,B,TrieO.upd k q (fun y a=>hS y (g c y a).1) fun y a=>(hm y a).imp (fun h=>⟨h.1,fun w=>h.2 (g c y w).1⟩) id⟩⟩
   have:=hS y (i y f);rcases hm y a with h|h
   ·exact h.2 (i y f)
   ·omega
theorem TrieO.upd0{o:Option Addr}{W:Nat→Prop}{x:Hs}{h f:ad}(k:Upd No h f):∀{m b:Nat} {l:List Pr} {S:Nat→Prop},TrieO o W x h m b l S→TrieO o W x f m b l S
 |0,_,_,_,t=>BuckO.upd0 t k
 |m+1,b,l,S,t=>by
  rcases t with⟨t,e⟩|⟨e,s,d,n,sp,sk,u,T,p,y,q,hd,hc⟩
  ·exact .inl ⟨TrieAt.upd0 k t,e⟩
  ·exact .inr ⟨e,s,d,n,sp,sk,u,T,p.upd k fun _ h=>h.elim,y,q,hd,fun c a=>(hc c a).imp id fun o=>o.imp id fun⟨j,w,i,v,g⟩=>⟨j,w,i,v,TrieO.upd0 k g⟩⟩
theorem TrieO.less{o:Option Addr}{W W':Nat→Prop}{x:Hs}{h:ad}(hm:∀y,W' y→W y∨h.size≤y):∀{m b:Nat} {l:List Pr} {S:Nat→Prop},TrieO o W x h m b l S→TrieO o W' x h m b l S
 |0,_,_,_,t=>t.imp (fun t=>⟨t.1.less hm,t.2⟩) id
 |m+1,b,l,S,t=>by
  rcases t with⟨t,e⟩|⟨e,s,d,n,sp,sk,p,T,j,v,k,hd,hc⟩
  ·exact .inl ⟨TrieAt.less hm t,e⟩
  ·exact .inr ⟨e,s,d,n,sp,sk,p,T,j,v,k,hd,fun c a=>(hc c a).imp id fun o=>o.imp id fun⟨i,u,g,q,f⟩=>⟨i,u,g,q,TrieO.less hm f⟩⟩
theorem SlotO.upd{o:Option Addr}{W M:Nat→Prop}{x:Hs}{h a:ad}(k:Upd M h a){m:Nat}{s:Slots}{c:Nat}{l:List Pr}{T:Nat→Prop}(t:SlotO o W x h m s c l T)(i:∀y,T y→y<h.size)(hm:∀y,M y→(W y∧¬T y)∨h.size≤y):SlotO o W x a m s c l T:=
 t.imp id fun o=>o.imp id fun⟨e,g,d,f,b⟩=>⟨e,g,d,f,TrieO.upd k b i hm⟩
theorem SlotO.less{o:Option Addr}{W W':Nat→Prop}{x:Hs}{h:ad}(hm:∀y,W' y→W y∨h.size≤y){m:Nat}{s:Slots}{c:Nat}{l:List Pr}{T:Nat→Prop}(t:SlotO o W x h m s c l T):SlotO o W' x h m s c l T:=
 t.imp id fun o=>o.imp id fun⟨d,f,b,e,a⟩=>⟨d,f,b,e,TrieO.less hm a⟩
theorem SlotO.turn{o:Option Addr}{W:Nat→Prop}{x:Hs}{h:ad}{m:Nat}{s s':Slots}{c:Nat}{l:List Pr}{T:Nat→Prop}(t:SlotO o W x h m s c l T)(b:s'.p c=s.p c)(a:s'.k c=s.k c):SlotO o W x h m s' c l T:=by
 unfold SlotO at t⊢;rw[b,a];exact t
theorem TrieO.view{o:Option Addr}{W S:Nat→Prop}{x:Hs}{h:ad}{m b:Nat}{l:List Pr}(t:TrieO o W x h (m+1) b l S):
  ∃(s:Slots) (a:Nat→Prop) (T:Nat→Nat→Prop),NodeO o W h b s a∧(∀y,a y→S y)∧(∀c y,T c y→S y∧¬a y)∧(∀c c' y,T c y→T c' y→c=c')∧∀c,c<32→SlotO o W x h m s c (part x (12-m) c l) (T c):=by
 rcases t with⟨⟨s,w,hc⟩,e⟩|⟨e,s,d,n,sp,sk,a,T,u,z,v,hd,hc⟩
 ·exact⟨s,No,fun _=>No,.inl ⟨w,fun _ h=>h⟩,fun _ h=>h.elim,fun _ _ h=>h.elim,fun _ _ _ h=>h.elim,fun c j=>(hc c j).imp (fun h=>⟨h.1,h.2.1,h.2.2,fun _ h=>h⟩) fun o=>o.imp (fun⟨p,f,i,g⟩=>⟨p,f,i,g,fun _ h=>h⟩) fun⟨f,i,q,g,k⟩=>⟨f,i,q,g,Ec k⟩⟩
 ·exact⟨s,a,T,.inr ⟨e,d,n,sp,sk,u⟩,z,v,hd,hc⟩
theorem BX{o:Option Addr}{W j:Nat→Prop}{T:Nat→Nat→Prop}{x:Hs}{k:ad}{m t d n z:Nat}{sp sk:SliceV}{s':Slots}{l':List Pr}(u:OwnN (fun y=>j y∨z≤y) k t d n sp sk s' o)
  (hc:∀c,c<32→SlotO o W x k m s' c (part x (12-m) c l') (T c))(B:∀c y,T c y→y<z∧¬j y)(hd:∀c c' y,T c y→T c' y→c=c')(C:o=none→(∀y,¬j y)∧∀y,W y→y<z):
  TrieO o W x k (m+1) t l' (fun y=>o.isSome=true∧(((j y∨z≤y)∧y<k.size)∨∃c,c<32∧T c y)):=by
 cases o with
 |none=>
  obtain⟨D,A⟩:=C rfl;refine .inl ⟨⟨s',u.node (fun y f s=>?_) iZ,fun c b=>?_⟩,fun y f=>by simp at f⟩
  ·have:=A y s
   rcases f with h|h
   ·exact D y h
   ·omega
  ·exact(hc c b).imp (fun h=>⟨h.1,h.2.1,h.2.2.1⟩) fun o=>o.imp (fun⟨p,i,g,q,_⟩=>⟨p,i,g,q⟩) fun⟨i,g,w,q,v⟩=>⟨i,g,w,q,v.off.1⟩
 |some a=>
  refine .inr ⟨rfl,s',d,n,sp,sk,fun y=>(j y∨z≤y)∧y<k.size,fun c y=>c<32∧T c y,u.within,fun y f=>⟨rfl,.inl f⟩,fun c y f=>⟨⟨rfl,.inr ⟨c,f⟩⟩,fun h=>?_⟩,fun c c' y i g=>hd c c' y i.2 g.2,fun c b=>?_⟩
  ·obtain⟨i,g⟩:=B c y f.2
   rcases h.1 with h|h
   ·exact g h
   ·omega
  ·have e:(fun y=>c<32∧T c y)=T c:=funext fun y=>propext ⟨fun h=>h.2,fun h=>⟨b,h⟩⟩
   have:=hc c b;unfold SlotO at this;rw[←e]at this;exact this
end Go.Proofs
namespace Go.Proofs
open Go.Lift
theorem IA{o:Option Addr}{W c:Nat→Prop}{f:ad}{i d n z:Nat}{sp sk:SliceV}{s':Slots}(g:OwnN (fun y=>c y∨z≤y) f i d n sp sk s' o)(k:o=none→(∀y,¬c y)∧∀y,W y→y<z):
  NodeO o W f i s' (fun y=>o.isSome=true∧(c y∨z≤y)∧y<f.size):=by
 cases o with
 |none=>
  obtain⟨m,j⟩:=k rfl;refine .inl ⟨g.node (fun y b e=>?_) iZ,fun y b=>by simp at b⟩
  have:=j y e;rcases b with h|h
  ·exact m y h
  ·omega
 |some a=>exact .inr ⟨rfl,d,n,sp,sk,g.within.mono fun y b=>⟨rfl,b⟩⟩
theorem tL{o:Option Addr}{W c:Nat→Prop}{e:ad}{g z:Nat}{sp sk:SliceV}{l:List Pr}(f:OwnB (fun y=>c y∨z≤y) e g sp sk l o)(j:o=none→(∀y,¬c y)∧∀y,W y→y<z):
  BuckO o W e g l (fun y=>o.isSome=true∧(c y∨z≤y)∧y<e.size):=by
 cases o with
 |none=>
  obtain⟨k,i⟩:=j rfl;refine .inl ⟨f.buck (fun y b d=>?_) iZ,fun y b=>by simp at b⟩
  have:=i y d;rcases b with h|h
  ·exact k y h
  ·omega
 |some a=>exact .inr ⟨rfl,sp,sk,f.within.mono fun y b=>⟨rfl,b⟩⟩
def SN(o:Option Addr)(b:Nat→Prop)(z:Nat)(a:ad)(T:Nat→Nat→Prop)(y:Nat):Prop:=o.isSome=true∧(((b y∨z≤y)∧y<a.size)∨∃c,c<32∧T c y)
def sT(T:Nat→Nat→Prop)(i:Nat)(S:Nat→Prop)(c:Nat):Nat→Prop:=if c=i then S else T c
theorem vQ{T:Nat→Nat→Prop}{i:Nat}{S:Nat→Prop}:sT T i S i=S:=if_pos rfl
theorem oB{T:Nat→Nat→Prop}{i c:Nat}{S:Nat→Prop}(h:c≠i):sT T i S c=T c:=if_neg h
theorem GR{o:Option Addr}{S f T':Nat→Prop}{z z0 c0:Nat}{a:ad}{T:Nat→Nat→Prop}(j:∀y,f y→S y)(d:∀c y,T c y→S y∧y<a.size)(b:∀y,T' y→(S y∨z0≤y)∧y<a.size)(hz:z0≤z){y:Nat}(i:SN o f z a (sT T c0 T') y):(S y∨z0≤y)∧y<a.size:=by
 rcases i.2 with⟨h|h,g⟩|⟨c,_,h⟩
 ·exact⟨.inl (j y h),g⟩
 ·exact⟨.inr (Nat.le_trans hz h),g⟩
 ·by_cases e:c=c0
  ·subst e;rw[vQ]at h;exact b y h
  ·rw[oB e]at h;exact⟨.inl (d c y h).1,(d c y h).2⟩
theorem uH{o:Option Addr}{W W1 f T':Nat→Prop}{T:Nat→Nat→Prop}{x:Hs}{hz g:ad}{m w d n c0:Nat}{sp sk:SliceV}{s s':Slots}{l':List Pr}
  (H:OwnN (fun y=>f y∨hz.size≤y) g w d n sp sk s' o)(G:Upd f hz g)(E:∀c,c<32→c≠c0→SlotO o W1 x hz m s c (part x (12-m) c l') (T c))(D:∀c,c≠c0→s'.p c=s.p c∧s'.k c=s.k c)
  (hi:SlotO o W1 x hz m s' c0 (part x (12-m) c0 l') T')(p:∀y,W y→W1 y)(u:∀y,f y→W1 y)(v:∀c y,T c y→W1 y)(k:∀y,T' y→W1 y)(B:∀c y,T c y→y<hz.size∧¬f y)(b:∀y,T' y→y<hz.size∧¬f y∧∀c,c≠c0→¬T c y)
  (hd:∀c c' y,T c y→T c' y→c=c')(z:o=none→(∀y,¬f y)∧∀y,W1 y→y<hz.size):
  TrieO o (fun y=>W y∨SN o f hz.size g (sT T c0 T') y) x g (m+1) w l' (SN o f hz.size g (sT T c0 T')):=by
 have q:∀c y,sT T c0 T' c y→W1 y∧y<hz.size∧¬f y:=fun c y h=>by
  by_cases e:c=c0
  ·subst e;rw[vQ]at h;exact⟨k y h,(b y h).1,(b y h).2.1⟩
  ·rw[oB e]at h;exact⟨v c y h,B c y h⟩
 have F:∀y,(W y∨SN o f hz.size g (sT T c0 T') y)→(W1 y∨hz.size≤y):=fun y a=>by
  rcases a with h|⟨_,⟨h|h,_⟩|⟨c,_,h⟩⟩
  ·exact .inl (p y h)
  ·exact .inl (u y h)
  ·exact .inr h
  ·exact .inl (q c y h).1
 have A:∀{s:Slots} {c:Nat} {l:List Pr} {U:Nat→Prop},SlotO o W1 x hz m s c l U→(∀y,U y→y<hz.size∧¬f y)→SlotO o (fun y=>W y∨SN o f hz.size g (sT T c0 T') y) x g m s c l U:=fun t C=>
  ((t.less (W':=fun y=>W1 y∨hz.size≤y) fun y a=>a).upd G (fun y a=>(C y a).1) fun y a=>.inl ⟨.inl (u y a),fun h=>(C y h).2 a⟩).less fun y a=>.inl (F y a)
 refine BX H (fun c hc=>?_) (fun c y h=>(q c y h).2) (fun c c' y j i=>?_) fun e=>⟨(z e).1,fun y a=>?_⟩
 ·by_cases e:c=c0
  ·subst e;rw[vQ];exact A hi fun y a=>⟨(b y a).1,(b y a).2.1⟩
  ·rw[oB e];exact(A (E c hc e) fun y a=>B c y a).turn (D c e).1 (D c e).2
 ·by_cases e:c=c0<;>by_cases e':c'=c0
  ·omega
  ·subst e;rw[vQ]at j;rw[oB e']at i;exact absurd i ((b y j).2.2 c' e')
  ·subst e';rw[vQ]at i;rw[oB e]at j;exact absurd j ((b y i).2.2 c e)
  ·rw[oB e]at j;rw[oB e']at i;exact hd c c' y j i
 ·rcases a with h|⟨h,_⟩
  ·exact(z e).2 y (p y h)
  ·rw[e]at h;cases h
abbrev Jr(x:Hs)(w:Option Addr)(k:ByteArray):Value:=.agg #[.int .u64 x.k0,.int .u64 x.k1,.int .u64 x.mask,.pointer w,.string k,.int .u64 (lG x k)]
set_option maxHeartbeats 1000000 in
theorem K5{W:Nat→Prop}{x:Hs}{w o:Option Addr}:∀(m:Nat) (p q:Pr),m≤13→p.1≠q.1→∀{h:ad},(∀y,W y→y<h.size)→By h w o→(∀a,o=some a→W a.block)→∀{K:Option Addr→ad→Prop},(∀h' b' S',TrieO o (fun y=>W y∨S' y) x h' m b' (jc q [p]) S'→(∀y,S' y→h.size≤y∧y<h'.size)→Upd No h h'→K (some ⟨b',0,none⟩) h')→
  HC PG jo [Jr x w q.1,.agg #[.string p.1,.string p.2],.agg #[.string q.1,.string q.2],.int .i64 ((13-m:Nat):Int)] [.c .ptr] K h:=by
 intro m;induction m with
 |zero=>
  intro p q _ Z h hW t F K hk;have L:∀{h'},Upd No h h'→∀y,W y→y<h'.size:=fun k y g=>bI (hW y g) k.size
  refine pJ (x.k0,x.k1,x.mask,w,q.1,lG x q.1) p q ((13-0:Nat):Int) ?_;unfold ma af cE aA aE vE rP ui uG C9 qd zH;refine aX fun h1 b1 k1=>aX fun h2 b2 k2=>aX fun P b3 k3=>?_
  have j:=(k1.tr k2).tr k3;have u:∀{h':ad},Upd No P h'→∀i,aG h' (adr ⟨h.size,0,none⟩ i)=(#[.int .u64 x.k0,.int .u64 x.k1,.int .u64 x.mask,.pointer w,.string q.1,.int .u64 (lG x q.1)]:Array Value)[i]?:=fun k i=>by
   rw[bG,aS (k.get0 (k3.get0 (k2.get0 b1))),aD]
  have H:∀{h':ad},Upd No P h'→∀i,aG h' (adr ⟨h1.size,0,none⟩ i)=(#[.string p.1,.string p.2]:Array Value)[i]?:=fun k i=>by rw[bG,aS (k.get0 (k3.get0 b2)),aD]
  have E:∀{h':ad},Upd No P h'→∀i,aG h' (adr ⟨h2.size,0,none⟩ i)=(#[.string q.1,.string q.2]:Array Value)[i]?:=fun k i=>by rw[bG,aS (k.get0 b3),aD]
  have r:=Upd.refl No P;have z03:=j.size;refine az.2 ⟨w,u r 3,p.1,H r 0,p.2,H r 1,w,u r 3,q.1,E r 0,q.2,E r 1,?_⟩;refine I0 (L j) fun h4 b4 bk4 f=>⟨⟨E f 0,E f 1⟩,u f 3,⟨H f 0,H f 1⟩,u f 3,?_⟩
  have t4:=t.upd0 (j.tr f);have z4:=f.size;refine AV (S:=No) (.inl ⟨bk4,fun _ h=>h⟩) t4 F (fun _ h=>h.elim) fO (by simp) p fun R b5 sp5 sk5 on5 C=>?_
  have D:=f.tr C;have z5:=C.size;refine⟨⟨E D 0,E D 1⟩,u D 3,?_⟩;have bk5:=tL (W:=W) (z:=h4.size) on5 fun e=>⟨fun _ h=>h,L (j.tr f)⟩
  have t5:=t4.upd0 C;refine AV bk5 t5 F (fun y g=>g.2.2) (eC ..) (by simp[jc]) q fun M b6 sp6 sk6 V A=>?_
  have z6:=A.size;have bk6:=tL (W:=fun y=>W y∨(o.isSome=true∧((o.isSome=true∧((No y∨h4.size≤y)∧y<R.size))∨R.size≤y)∧y<M.size)) (z:=R.size) V fun e=>⟨fun y g=>(by rw[e]at g;cases g.1),fun y g=>(by
   rcases g with g|g
   ·exact L (j.tr D) y g
   ·rw[e]at g;cases g.1)⟩
  refine hk M b6 _ bk6 (fun y g=>?_) ((j.tr D).trans A fun y g=>.inr ?_)
  ·rcases g.2.1 with h|h
   ·rcases h.2.1 with h|h
    ·exact h.elim
    ·exact⟨by omega,g.2.2⟩
   ·exact⟨by omega,g.2.2⟩
  ·rcases g.2.1 with h|h
   ·exact h.elim
   ·omega
 |succ m ih=>
  intro p q hm Z h hW t F K hk;have L:∀{h'},Upd No h h'→∀y,W y→y<h'.size:=fun k y g=>bI (hW y g) k.size
  have hl:13-(m+1)<13:=by omega
  have B:13-(m+1)=12-m:=by omega
  refine pJ (x.k0,x.k1,x.mask,w,q.1,lG x q.1) p q ((13-(m+1):Nat):Int) ?_;unfold ma af cE aA aE vE rP ui uG C9 qd zH;refine aX fun h1 b1 k1=>aX fun h2 b2 k2=>aX fun P b3 k3=>?_
  have j:=(k1.tr k2).tr k3;have u:∀{h':ad},Upd No P h'→∀i,aG h' (adr ⟨h.size,0,none⟩ i)=(#[.int .u64 x.k0,.int .u64 x.k1,.int .u64 x.mask,.pointer w,.string q.1,.int .u64 (lG x q.1)]:Array Value)[i]?:=fun k i=>by
   rw[bG,aS (k.get0 (k3.get0 (k2.get0 b1))),aD]
  have H:∀{h':ad},Upd No P h'→∀i,aG h' (adr ⟨h1.size,0,none⟩ i)=(#[.string p.1,.string p.2]:Array Value)[i]?:=fun k i=>by rw[bG,aS (k.get0 (k3.get0 b2)),aD]
  have E:∀{h':ad},Upd No P h'→∀i,aG h' (adr ⟨h2.size,0,none⟩ i)=(#[.string q.1,.string q.2]:Array Value)[i]?:=fun k i=>by rw[bG,aS (k.get0 b3),aD]
  have r:=Upd.refl No P;have z03:=j.size;have ne:(((13-(m+1):Nat):Int)==(13:Int))=false:=by rw[beq_eq_false_iff_ne];omega
  rw[ne];refine ah.2 ⟨_,u r 0,_,u r 1,_,u r 2,_,H r 0,_,u r 5,?_⟩;refine rv fun h4 f=>⟨u f 5,KY hl ⟨u f 5,KY hl ?_⟩⟩
  have hi:=ww x (13-(m+1)) p.1;have hj:=ww x (13-(m+1)) q.1;have hcl:=Hf Z;have z4:=f.size;refine CondP.intro (fun e=>?_) fun e=>?_
  ·have e:ck x (13-(m+1)) p.1=ck x (13-(m+1)) q.1:=by have:=eq_of_beq e;omega
   refine⟨_,u f 3,_,u f 0,_,u f 1,_,u f 2,_,u f 3,_,u f 4,_,u f 5,_,H f 0,_,H f 1,_,E f 0,_,E f 1,?_⟩;refine rq (L (j.tr f)) fun R b5 X C=>?_
   have b:=f.tr C;have z5:=C.size;refine⟨⟨E b 0,E b 1⟩,⟨H b 0,H b 1⟩,⟨u b 0,u b 1,u b 2,u b 3,u b 4,u b 5⟩,u b 3,?_⟩;have ew:IntKind.wrap .i64 (((13-(m+1):Nat):Int)+1)=((13-m:Nat):Int):=by rw[nA (by omega)];omega
   rw[ew];refine ih p q (by omega) Z (L (j.tr b)) (t.upd0 (j.tr b)) F fun M b6 Sk t6 N A=>?_
   have v:=b.tr A;have z6:=A.size;refine⟨u v 3,?_⟩;refine rj (S:=No) (.inl ⟨X.upd A fun _ h=>h.elim,fun _ h=>h⟩) (t.upd0 (j.tr v)) F hi (fun y h=>by cases h) ⟨b6,0,none⟩ fun h7 b7 d n sp sk on7 I=>?_
   have z7:=I.size;refine hk h7 b7 _ (uH (W:=W) (W1:=fun y=>W y∨Sk y) (T:=fun _=>No) (T':=Sk) (c0:=ck x (13-(m+1)) p.1) (s:=⟨fun _=>none,fun _=>none⟩) (hz:=M) on7 I (fun c hc hcc=>?_) (fun c hc=>⟨eP hc,eP hc⟩) ?_ (fun y g=>.inl g) (fun _ h=>h.elim) (fun _ _ h=>h.elim) (fun y g=>.inr g) (fun _ _ h=>h.elim) (fun y g=>⟨(N y g).2,id,fun _ _ h=>h⟩) (fun _ _ _ h=>h.elim) fun eo=>⟨fun _ h=>h,fun y g=>g.elim (L (j.tr v) y) fun h=>(N y h).2⟩) (fun y g=>?_) ((j.tr v).tr I)
   ·refine .inl ⟨Hp fun r Y=>?_,rfl,rfl,fun _ h=>h⟩
    rw[B]at hcc e;rcases Hv Y with rfl|rfl
    ·exact fun e=>hcc e.symm
    ·rw[←e];exact fun e=>hcc e.symm
   ·have ea:part x (12-m) (ck x (13-(m+1)) p.1) (jc q [p])=jc q [p]:=EC fun r Y=>by
     rw[B]at e⊢;rcases Hv Y with rfl|rfl
     ·rfl
     ·rw[e]
    rw[ea];exact .inr (.inr ⟨by omega,fg,b6,fg,t6⟩)
   ·have:=GR (S:=No) (z0:=h.size) (fun _ h=>h) (fun _ _ h=>h.elim) (fun y g=>⟨.inr (by have:=(N y g).1;omega),by have:=(N y g).2;omega⟩) (by omega) g
    exact⟨this.1.elim (fun h=>h.elim) id,this.2⟩
  ·have e:ck x (13-(m+1)) p.1≠ck x (13-(m+1)) q.1:=fun h=>by rw[h]at e;simp at e
   refine⟨_,u f 3,_,H f 0,_,H f 1,_,u f 3,_,E f 0,_,E f 1,?_⟩;refine rq (L (j.tr f)) fun R b5 X C=>?_
   have b:=f.tr C;have z5:=C.size;have t5:=t.upd0 (j.tr b);refine⟨⟨E b 0,E b 1⟩,u b 3,⟨H b 0,H b 1⟩,u b 3,?_⟩;refine m8 (S:=No) (.inl ⟨X,fun _ h=>h⟩) t5 F (fun _ h=>h.elim) hi (fun y h=>by cases h) p fun M b6 d6 n6 sp6 sk6 V A=>?_
   have v:=b.tr A;have z6:=A.size;have nd6:=IA (W:=W) V fun _=>⟨fun _ h=>h,L (j.tr b)⟩
   refine⟨⟨E v 0,E v 1⟩,u v 3,?_⟩;refine m8 nd6 (t5.upd0 A) F (fun y g=>g.2.2) hj (fun y h=>by simp[upd]) q fun h7 b7 d7 n7 sp7 sk7 on7 I=>?_
   have z7:=I.size;have Q:∀y,(o.isSome=true∧(No y∨R.size≤y)∧y<M.size)→R.size≤y:=fun y g=>g.2.1.elim (fun h=>h.elim) id
   refine hk h7 b7 _ (BX (T:=fun _=>No) (z:=M.size) (W:=fun y=>W y∨SN o (fun y=>o.isSome=true∧(No y∨R.size≤y)∧y<M.size) M.size h7 (fun _=>No) y) on7 (fun c hc=>?_) (fun _ _ h=>h.elim) (fun _ _ _ h=>h.elim) fun eo=>⟨fun y g=>(by rw[eo]at g;cases g.1),fun y g=>(by
    rcases g with g|g
    ·exact L (j.tr v) y g
    ·rw[eo]at g;cases g.1)⟩) (fun y g=>?_) ((j.tr v).trans I fun y g=>.inr (by have:=Q y g;omega))
   ·have G:=Aj (x:=x) (lev:=12-m) (c:=c) (p:=q) (l:= [p]) (eC ..)
    rw[B]at e;by_cases O:c=ck x (12-m) p.1
    ·have J:ck x (12-m) q.1≠c:=fun h=>e (by omega)
     have e1:part x (12-m) c [p]= [p]:=EC fun r Y=>by rw[aj.1 Y,O]
     rw[if_neg J,e1]at G;exact .inr (.inl ⟨p,G,by simp[upd,B,O,e],by simp[upd],fun _ h=>h⟩)
    ·have e1:part x (12-m) c [p]= []:=Hp fun r Y=>by rw[aj.1 Y];exact fun h=>O h.symm
     rw[e1]at G;by_cases J:c=ck x (12-m) q.1
     ·rw[if_pos J.symm]at G
      exact .inr (.inl ⟨q,G,by simp[upd,B,J],by simp[upd],fun _ h=>h⟩)
     ·rw[if_neg fun h=>J h.symm]at G
      exact .inl ⟨G,by simp[upd,B,J,O],by simp[upd],fun _ h=>h⟩
   ·rcases g.2 with⟨h|h,h2⟩|⟨_,_,h⟩
    ·exact⟨by have:=Q y h;omega,h2⟩
    ·exact⟨by omega,h2⟩
    ·exact h.elim
end Go.Proofs
