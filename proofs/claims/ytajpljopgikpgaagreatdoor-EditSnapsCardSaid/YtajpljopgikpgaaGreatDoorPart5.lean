/- A part of the proof that the named laws of this program answer true, whatever the input. -/
import Derived.Test.YtajpljopgikpgaaGreatDoorPart4
import Derived.Test.YtajpljopgikpgaaGreatDoorPart2
open ByteArray renaming mk→iJ
open Int renaming toNat_natCast→aM
open List renaming eraseIdx_eq_take_drop_succ→fe,getElem?_eraseIdx→mn,mem_singleton→aj,getElem_mem→aW,getElem?_eq_getElem→ag,length_append→ae,mem_of_getElem?→aw,getElem?_set→dT,getElem?_of_mem→fE,pairwise_singleton→eC
open List.Pairwise renaming nil→fO
open Nat renaming lt_or_ge→bM,one_pos→p9,le_refl→au,lt_of_lt_of_le→bI,zero_add→aD
namespace Go.Proofs
open Go Go.Lift
theorem MW{Ts:List (Nat→Prop)}(d:PD Ts)(i:Nat):PD (Ts.take i++Ts.drop (i+1)):=by
 intro a b A B e c eb;simp only[←fe,mn]at c eb;split at c<;>split at eb
 ·exact d a b A B e c eb
 ·exact d a (b+1) A B (by omega) c eb
 ·exact d (a+1) b A B (by omega) c eb
 ·exact d (a+1) (b+1) A B (by omega) c eb
theorem JM{o:Option Addr}{W S X A:Nat→Prop}{h:ad}{c b:Nat}{T:List (Nat→Prop)}(i:∀y,W y→y<h.size)(f:o=none→∀y,¬S y)(g:∀y,A y→S y∨h.size≤y)(j:S b∨h.size≤b)(e:o=none):(∀y,A y→¬(W y∨SR o c X T y))∧¬(W b∨SR o c X T b):=by
 have no:∀y,(S y∨h.size≤y)→¬(W y∨SR o c X T y):=fun y d a=>by
  rcases a with a|⟨a,_⟩
  ·rcases d with h|h
   ·exact f e y h
   ·have:=i y a;omega
  ·rw[e]at a;cases a
 exact⟨fun y d=>no y (g y d),no _ j⟩
theorem FJ{o:Option Addr}{W S A:Nat→Prop}{h b:ad}{a:Nat}{sl val:ByteArray}{s3:SliceV}{w:Option ByteArray}{e:List (Option Addr)}{L':List Bn}{Us':List (Nat→Prop)}
  (p:∀y,W y→y<h.size)(j:o=none→∀y,¬S y)(m:b[a]? =some (.cells (tB sl w.isSome val s3 o) aU (0,0))) (hv:val=w.getD ⟨#[]⟩) (k:OwnS kC 1 aH A b s3 e) (g:∀y,A y→(S y∨h.size≤y)∧y≠a∧y<b.size) (f:S a∨h.size≤a)
  (q:∀U∈Us',∀y,U y→¬A y∧y≠a) (i:∀U∈Us',∀y,U y→(S y∨h.size≤y)∧y<b.size) (n:PD Us') (s:(∀y,SR o a A Us' y→(S y∨h.size≤y)∧y<b.size)→LsO o (fun y=>W y∨SR o a A Us' y) b e L' Us'):
  RxO o (fun y=>W y∨SR o a A Us' y) b a sl w (.ofL L') (SR o a A Us')∧∀y,SR o a A Us' y→(S y∨h.size≤y)∧y<b.size:=by
 have d:∀y,SR o a A Us' y→(S y∨h.size≤y)∧y<b.size:=fun y c=>vl f (aF m) (fun y c=>⟨(g y c).1,(g y c).2.2⟩) i c
 exact⟨sE m hv k (fun y c=>(g y c).2) q n (by rw[Fo.to_of];exact s d) (JM p j (fun y c=>(g y c).1) f),d⟩
def Oq(o:Option Addr)(W:Nat→Prop)(h:ad)(r:Option Addr)(m:Option Bn)(S:Nat→Prop):Prop:=(r=none∧m=none)∨∃n,m=some n∧KidO o W h r n S
set_option maxHeartbeats 1000000 in
theorem FL{w' o:Option Addr}{W S:Nat→Prop}{h:ad}{b:Nat}{sl:ByteArray}{w:Option ByteArray}{F:Fo}(r:RxO o W h b sl w F S)(t:By h w' o)(hW:∀y,W y→y<h.size)(C:∀y,S y→W y)(hWo:∀a,o=some a→W a.block)(hc:dW F)(hne:sl.data.toList≠[])(hs1:sl.size≤1000000)(hs2:∀k v,m0 F k v→k.length≤1000000)
  {K:Option Addr→ad→Prop}(hk:∀j r m S2,Upd S h j→Mb (sl.data.toList,w,F) m→Oq o (fun y=>W y∨S2 y) j r m S2→(∀y,S2 y→(S y∨h.size≤y)∧y<j.size)→K r j):HC PG lX [.pointer (some ⟨b,0,none⟩),.pointer w'] [.c .ptr] K h:=by
 refine wH _ w' ?_;unfold pO dC fH cG bL y9 rO ip;have hr:=r;have hno:o=none→∀y,¬S y:=fun e=>by subst e;exact r.off.2
 have X:∀y,S y→y<h.size:=fun y c=>hW y (C y c)
 obtain⟨val,s,ow,ks,Us,P,hv,hs,hL,hUS,hPD,hown⟩:=r.view;have hn:=iE hc;have d:=hs.len;rw[hL.1]at d;refine Join.intro (fun t j=>t=decide (w.isSome∨2≤F.toL.length)∧j=h) (fun R hR=>⟨_,rfl,w.isSome,cF (i:=1) P,?_⟩) ?_
 ·cases w with
  |some v=>exact az.2 (hR _ _ ⟨rfl,rfl⟩)
  |none=>
   refine ah.2 ⟨_,rfl,s,cF (i:=3) P,hR _ _ ⟨?_,rfl⟩⟩;rw[decide_eq_decide];constructor
   ·intro h;exact .inr (by omega)
   ·rintro(h|h)
    ·cases h
    ·omega
 ·rintro t' j ⟨rfl,rfl⟩
  refine bj (fun G=>?_) fun G=>?_
  ·exact hk j _ _ S (Upd.refl _ _) (Iz hne hc G) (.inr ⟨_,rfl,b,sl,rfl,rfl,hr.less fun y c=>.inl (c.elim id (C y))⟩) fun y c=>⟨.inl c,X y c⟩
  ·have hw:w=none:=by
    cases w with
    |none=>rfl
    |some v=>exact absurd (.inl rfl) G
   subst hw;have hl2:F.toL.length<2:=by
    rcases bM F.toL.length 2 with h|h
    ·exact h
    ·exact absurd (.inr h) G
   refine⟨_,rfl,s,cF (i:=3) P,?_⟩;match hFL:F.toL,hl2 with
   | [],_=>
    rw[hFL]at d;have e:((s.len:Int)==(0:Int))=true:=by rw[beq_iff_eq,d];rfl
    rw[e];exact az.2 (hk j _ _ No (Upd.refl _ _) (IA hFL) (.inl ⟨rfl,rfl⟩) fun y c=>c.elim)
   | [(lk,wk,Fk)],_=>
    rw[hFL]at d;have e:((s.len:Int)==(0:Int))=false:=by rw[beq_eq_false_iff_ne,d];simp
    rw[e];have x:(lk,wk,Fk)∈F.toL:=by rw[hFL];exact aj.2 rfl
    have hcm:=(dx.1 hc).2 _ x;have h0:F.toL[0]? =some (lk,wk,Fk):=by rw[hFL];rfl
    have T:0<ks.length:=by rw[hL.1,hFL];exact p9
    have Y:0<Us.length:=by rw[hL.2.1,hFL];exact p9
    have hUm:Us[0]∈Us:=aW Y;obtain⟨kb,u,hke,L,n⟩:=hL.2.2 0 _ _ _ (ag T) h0 (ag Y);have hki:ks[0]? =some (some ⟨kb,0,none⟩):=by rw[ag T,hke]
    have g:∀y,Us[0] y→S y:=hUS _ hUm;generalize Us[0]=U at n hUm g;simp only at L n;obtain⟨a,ha,_,hvv⟩:=hs.at0 hki;have hknr:=n;have hno2:o=none→∀y,¬U y:=fun e=>by subst e;exact n.off.2
    obtain⟨kval,kss,kow,kks,A,hkb,hkv,hkss,O,E,Q,H⟩:=n.view;have hkn2:=iE hcm.2.2;have hUb:∀y,U y→y<j.size:=fun y c=>X y (g y c)
    have q:∀V∈A,∀y,V y→y<j.size:=fun V D y c=>hUb y (E V D y c)
    refine ah.2 ⟨_,rfl,s,cF (i:=3) P,⟨by omega,by rw[d];simp⟩,a,ha,some ⟨kb,0,none⟩,hvv,?_⟩
    refine iX (W:=W) (S:=U) (Us:=A) t hWo hkb (by rw[O.1];exact hkn2) (xu (Us:=A) H (aF hkb) (Upd.refl No j) (fun _ h=>h.elim) fun V D y c=>⟨.inl ⟨V,D,c⟩,q V D y c⟩) fun h1 b1 s1 A1 N hA1 f B Z I=>?_
    obtain⟨rr,vv,hin⟩:=kG hc _ x;have hbd:=hs2 (lk++rr) vv (ee.2 ⟨_,x,rr,rfl,hin⟩);rw[ae]at hbd;have hlkl:lk.length=u.size:=by rw[←L];exact jK u
    refine⟨_,rfl,sl,cF (i:=0) (I.get0 P),_,rfl,u,cF (i:=0) N,by omega,?_⟩
    refine rk N fun G b2 J=>?_
    have u02:Upd (· =b1) j G:=I.wide.tr J
    have z1:=I.size;have z2:=J.size;have zb:=aF b2;have p:∀{z:Nat},(U z∨j.size≤z)→S z∨j.size≤z:=fun h=>h.imp (g _) id
    have M:∀y,SR o b1 A1 A y→(S y∨j.size≤y)∧y<G.size:=fun y c=>vl (p B) zb (fun y c=>⟨p (f y c).1,by have:=(f y c).2.2;omega⟩) (fun V D y c=>⟨.inl (g y (E V D y c)),by have:=q V D y c;omega⟩) c
    refine hk G _ _ (SR o b1 A1 A) (u02.mono fun y c=>by have c:y=b1:=c;rw[c];exact p B) (Kg hne hc hFL) (.inr ⟨_,rfl,b1,sl++u,rfl,by rw[←L];exact K8 sl u,sE b2 hkv (hA1.upd J fun y c=>(f y c).2.1) (fun y c=>⟨(f y c).2.1,by have:=(f y c).2.2;omega⟩) Z Q (O.move u02 q (fun y c=>?_) fun y c=>c.elim .inl fun h=>(M y h).1.imp (C y) id) (JM hW hno (fun y c=>p (f y c).1) (p B))⟩) M
    have c:y=b1:=c;subst c;exact B.imp (fun h=>⟨C y (g y h),fun V D hu=>(Z V D y hu).2 rfl⟩) id
end Go.Proofs
namespace Go.Proofs
open Go Go.Lift
set_option maxHeartbeats 4000000 in
theorem Ie{w' o:Option Addr}:∀(n:Nat) {W S:Nat→Prop} {b:Nat} {sl:ByteArray} {w:Option ByteArray} {F:Fo} {h:ad} (k:ByteArray),k.size<n→RxO o W h b sl w F S→By h w' o→(∀y,W y→y<h.size)→(∀y,S y→W y)→(∀a,o=some a→W a.block)→(∀a,w'=some a→¬S a.block)→dW F→(∀j v,m0 F j v→j.length≤1000000)→∀{K:(Option Addr)×Bool→ad→Prop},
  (∀h' G w2 F2 S2 P,Upd S h h'→RxO o (fun y=>W y∨S2 y) h' G sl w2 F2 S2→(∀y,S2 y→(S y∨h.size≤y)∧y<h'.size)→dW F2→p7 (nF w F) (nF w2 F2) k.data.toList→(P=false→G=b∧w2=w∧F2=F∧Upd No h h'∧∀v,¬nF w F k.data.toList v)→(P=true→∃v,nF w F k.data.toList v)→K (some ⟨G,0,none⟩,P) h')→
  HC PG jl [.pointer (some ⟨b,0,none⟩),.pointer w',.string k] [.c .ptr,.c .bool] K h:=by
 intro n;induction n with
 |zero=>intro W S b sl w F h k hk;omega
 |succ n ih=>
  intro W S b sl w F h k hkn r t hW C hWo hwS hc hbd K hk;refine wJ (some ⟨b,0,none⟩) w' k ?_;unfold pQ dC fH cG bL qz c8 rO Jh ip CR D9;have hr:=r;have hno:o=none→∀y,¬S y:=fun e=>by subst e;exact r.off.2
  obtain⟨val,s,ow,ks,Us,hb,hv,hs,hL,hUS,hPD,hown⟩:=r.view;have hn:=iE hc;have hcan:=dx.1 hc;have hSb:∀y,S y→y<h.size:=fun y d=>hW y (C y d)
  have L:∀U∈Us,∀y,U y→y<h.size:=fun U B y d=>hSb y (hUS U B y d)
  have zb:=aF hb;have own2:=fun{h2:ad} {M:Nat→Prop} (ku:Upd M h h2) (hM:∀y,M y→S y∧∃U∈Us,U y) (Us':List (Nat→Prop)) (B:∀U∈Us',∀y,U y→((∃V∈Us,V y)∨h.size≤y)∧y<h2.size)=>xu (Us':=Us') hown zb ku hM B
  have R:∀{h':ad},Upd No h h'→(∀v,¬nF w F k.data.toList v)→K (some ⟨b,0,none⟩,false) h':=fun hu hnin=>hk _ b w F S false hu.wide ((hr.upd0 hu).less fun y d=>.inl (d.elim id (C y))) (fun y d=>⟨.inl d,by have:=hSb y d;have:=hu.size;omega⟩) hc (GC hnin) (fun _=>⟨rfl,rfl,rfl,hu,hnin⟩) fun h=>by cases h
  rw[kM];refine bj (fun hk0=>?_) fun hk0=>?_
  ·have hke:k.data.toList= []:=by rw[hk0]
   rw[hke]at hk R;refine⟨_,rfl,w.isSome,cF (i:=1) hb,?_⟩;cases hw:w with
   |none=>
    refine az.2 (R (Upd.refl _ _) fun v f=>?_)
    rcases f with⟨_,h⟩|h
    ·rw[hw]at h;cases h
    ·exact absurd rfl (lS hc h)
   |some u=>
    refine ah.2 (iX (S:=S) (Us:=Us) t hWo hb (by rw[hL.1];exact hn) (own2 (Upd.refl No h) (fun _ h=>h.elim) Us fun U B y d=>⟨.inl ⟨U,B,d⟩,L U B y d⟩) fun h1 G s1 A1 b1 hA1 hA1s Q hU1 hu1=>?_)
    refine⟨_,rfl,JN (i:=1) b1 (show 1<5 by decide),Ac (i:=1) (c':=tB sl false val s1 o) b1 rfl fun h2 b2 hu2=>?_⟩
    refine⟨_,rfl,JN (i:=2) b2 (show 2<5 by decide),Ac (i:=2) (c':=tB sl false ⟨#[]⟩ s1 o) b2 rfl fun h3 b3 hu3=>?_⟩
    have hu13:=hu2.tr hu3;have z1:=hu1.size;have z3:=hu13.size;have u03:Upd (· =G) h h3:=hu1.wide.tr hu13
    obtain⟨rx,D⟩:=FJ (W:=W) (S:=S) (w:=none) (val:=⟨#[]⟩) (L':=F.toL) hW hno b3 rfl (hA1.upd hu13 fun y d=>(hA1s y d).2.1) (fun y d=>⟨(hA1s y d).1,(hA1s y d).2.1,by have:=(hA1s y d).2.2;omega⟩) Q hU1 (fun U B y d=>⟨.inl (hUS U B y d),by have:=L U B y d;omega⟩) hPD fun D=>hL.move u03 L (fun y d=>by
     have d:y=G:=d
     subst d
     exact Q.imp (fun h=>⟨C y h,fun U B hu=>(hU1 U B y hu).2 rfl⟩) id) fun y d=>d.elim .inl fun h=>(D y h).1.imp (C y) id
    rw[Fo.of_to]at rx;exact hk h3 G none F _ true (u03.mono fun y d=>by have d:y=G:=d;rw[d];exact Q) rx D hc (GB hc) (fun h=>by cases h) fun _=>⟨u,.inl ⟨rfl,hw⟩⟩
  ·have H:k.data.toList≠[]:=fun e=>hk0 (by cases k;exact congrArg iJ (Array.toList_inj.1 e))
   obtain⟨c0,hc0,hc0e⟩:=Az H;refine⟨c0,Int.le_refl _,hc0,?_⟩;have hlk:k.data.toList.length=k.size:=jK k;refine B7 (hr.read t) hc (c:=c0.toNat) (UInt8.toNat_lt _) fun i ok hil hlo hhi hok=>?_
   rw[hc0e]at hlo hhi hok;cases ok with
   |false=>
    refine az.2 (R (Upd.refl _ _) fun v f=>?_)
    rcases f with⟨h,_⟩|f
    ·exact H h
    ·obtain⟨n',hn',e,_⟩:=nC hc f
     obtain⟨j,p,rfl⟩:=List.getElem_of_mem hn';rcases bM j i with hl|hl
     ·have:=hlo j p hl;omega
     ·have h1:=hhi j p hl
      have h2:=hhi i (by omega) (au _);rcases bM i j with hl2|hl2
      ·have h3:=List.pairwise_iff_getElem.1 hcan.1 i j (by omega) p hl2
       omega
      ·have:i=j:=by omega
       subst this;have:=hok.2 ⟨p,e⟩;cases this
   |true=>
    obtain⟨hi,hie⟩:=hok.1 rfl;refine ah.2 ⟨_,rfl,s,cF (i:=3) hb,?_⟩;have T:i<ks.length:=by rw[hL.1];exact hi
    have hUi0:i<Us.length:=by rw[hL.2.1];exact hi
    obtain⟨kb,ksl,hke,hkl,Z⟩:=hL.2.2 i _ _ _ (ag T) (ag hi) (ag hUi0);have hki:ks[i]? =some (some ⟨kb,0,none⟩):=by rw[ag T,hke]
    have hUie:Us[i]? =some Us[i]:=ag hUi0;have I:Us[i]∈Us:=aW hUi0;have hmem:F.toL[i]∈F.toL:=aW hi;have hcm:=hcan.2 _ hmem;obtain⟨a,ha,_,hvv⟩:=hs.at0 hki;have hslen:=hs.len;rw[hL.1]at hslen;have hlt1:(i:Int)<((s.len:Nat):Int):=by omega
    refine⟨⟨by simp only;omega,hlt1⟩,a,ha,some ⟨kb,0,none⟩,hvv,_,rfl,?_⟩;obtain⟨kval,kss,kow,kks,kUs,hkb,_⟩:=Z.view;have hin_m:∀v,m0 F k.data.toList v→qq F.toL[i] k.data.toList v:=fun v f=>by
     obtain⟨n',hn',e,hN⟩:=nC hc f;rw[←tK hc hn' hmem (by omega)];exact hN
    have N:∀j v,qq F.toL[i] j v→m0 F j v:=fun j v f=>ee.2 ⟨_,hmem,f⟩
    have E:∀{m:Bn},Je m→hd m.1=hd F.toL[i].1→dW (.ofL (F.toL.set i m)):=fun h1 h2=>HM hc hi h1 h2
    have hdset:∀{m:Bn},p7 (qq F.toL[i]) (qq m) k.data.toList→p7 (m0 F) (m0 (.ofL (F.toL.set i m))) k.data.toList:=fun hp=>IP hc hi hie hp
    have hddel:(∀k' v',qq F.toL[i] k' v'→k'=k.data.toList)→p7 (m0 F) (m0 (.ofL (F.toL.take i++F.toL.drop (i+1)))) k.data.toList:=fun hp=>IQ hc hi hie hp
    have q:∀y,Us[i] y→S y:=hUS _ I;have hUib:∀y,Us[i] y→y<h.size:=L _ I;have hUid:∀j U,j≠i→Us[j]? =some U→Dj Us[i] U:=fun j U p J=>hPD i j _ _ (Ne.symm p) hUie J
    have nUb:¬Us[i] b:=fun hu=>by
     rcases hown with⟨_,_,_,hS0⟩|⟨_,_,A,_,_,_,hUA⟩
     ·exact hS0 _ (q _ hu)
     ·exact(hUA _ I b hu).2 rfl
    generalize F.toL[i]=m at hkl Z hcm hin_m N E hdset hddel hie;generalize Us[i]=Ui at Z hUie I q hUib hUid nUb;obtain⟨lab,wk,Fk⟩:=m;simp only at hkl Z hcm hie E;refine⟨ksl,cF (i:=0) hkb,Nj (fun rest x=>?_) fun hnr=>?_⟩
    ·rw[hkl]at x
     have hlne:lab.length≠0:=fun e=>hcm.1 (List.length_eq_zero_iff.1 e)
     have hrl:rest.size<k.size:=by
      rw[←jK rest,←hlk,x,ae];omega
     refine ah.2 ⟨_,rfl,s,cF (i:=3) hb,⟨by simp only;omega,hlt1⟩,a,ha,some ⟨kb,0,none⟩,hvv,?_⟩;have hkbd:∀j v,m0 Fk j v→j.length≤1000000:=fun j v f=>by
      have:=hbd _ v (N (lab++j) v ⟨j,rfl,.inr f⟩);rw[ae]at this;omega
     have tU:∀{M:Nat→Prop} {h':ad},Upd M h h'→(∀y,M y→Ui y)→By h' w' o:=fun ku hM=>t.upd ku fun b e d=>absurd (q _ (hM _ d)) (hwS _ e)
     refine ih (W:=W) (S:=Ui) rest (by omega) Z t hW (fun y d=>C y (q y d)) hWo (fun a e d=>hwS a e (q _ d)) hcm.2.2 hkbd fun h2 b2 w2 F2 SV P ku rn2 X hc2 hd2 hg0 hg1=>?_
     have z02:=ku.size;cases P with
     |false=>
      obtain⟨_,_,_,hu20,hnin⟩:=hg0 rfl;refine az.2 (R hu20 fun v f=>?_)
      rcases f with⟨h,_⟩|f
      ·exact H h
      ·obtain⟨r',e,hr'⟩:=hin_m v f
       simp only at e;rw[x]at e;exact hnin v (by rw[List.append_cancel_left e];exact hr')
     |true=>
      obtain⟨v0,hv0⟩:=hg1 rfl;have hthere:∃v,nF w F k.data.toList v:=⟨v0,.inr (N _ _ ⟨_,x,hv0⟩)⟩;have hdn:p7 (qq (lab,wk,Fk)) (qq (lab,w2,F2)) k.data.toList:=by
       rw[x];exact GD hd2
      have hmem2:∀{V:Nat→Prop},∀U∈Us.set i V,U∈Us∨U=V:=fun U B=>List.mem_or_eq_of_mem_set B
      have hsetm:∀V:Nat→Prop,V∈Us.set i V:=fun V=>aw (i:=i) (by rw[dT,if_pos rfl,if_pos hUi0])
      refine ah.2 (iX (W:=W) (S:=S) (Us:=Us.set i SV) (tU ku fun _ h=>h) hWo (ku.get hb nUb) (by rw[hL.1];exact hn) (own2 ku (fun y d=>⟨q y d,_,I,d⟩) _ fun U B y d=>?_) fun h3 G s3 A3 b3 ho3 g Q hU3 hu3=>?_)
      ·rcases hmem2 U B with h|rfl
       ·exact⟨.inl ⟨U,h,d⟩,by have:=L U h y d;omega⟩
       ·exact⟨(X y d).1.imp (fun h=>⟨_,I,h⟩) id,(X y d).2⟩
      have hUj:∀{j U},j≠i→Us[j]? =some U→U∈Us.set i SV:=fun{j U} p J=>aw (i:=j) (by rw[dT,if_neg (Ne.symm p)];exact J)
      have z23:=hu3.size;obtain⟨rr,vv,f⟩:=kG hc _ hmem;have hlb:lab.length≤1000000:=by
       have:=hbd _ v0 (N _ _ ⟨_,x,hv0⟩);rw[x,ae]at this;omega
      have hb2:∀j v,m0 F2 j v→j.length≤1000000:=fun j v f=>by
       rcases((hd2 j v).1 (.inr f)).2 with⟨e,_⟩|h
       ·rw[e];simp
       ·exact hkbd j v h
      refine FL (W:=fun y=>(W y∨SV y)∨(h2.size≤y∧y<h3.size)) (S:=SV) ((rn2.less (W':=fun y=>(W y∨SV y)∨(h2.size≤y∧y<h3.size)) fun y d=>d.imp id fun h=>h.1).upd0 hu3) ((tU ku fun _ h=>h).upd0 hu3) (fun y d=>?_) (fun y d=>.inl (.inr d)) (fun a e=>.inl (.inl (hWo a e))) hc2 (by rw[hkl];exact hcm.1) (by rw[←jK ksl,hkl];exact hlb) hb2 fun h4 r4 o4 S4 hu4 hm4 hr4 hS4=>?_
      ·rcases d with(h|h)|h
       ·have:=hW y h;omega
       ·have:=(X y h).2;omega
       ·exact h.2
      rw[hkl]at hm4;have z34:=hu4.size;have b4:=hu4.get b3 fun h=>(hU3 SV (hsetm SV) _ h).2 rfl
      have ho4:=ho3.upd hu4 fun y d h=>(hU3 SV (hsetm SV) y h).1 d
      have hlen4:=ho4.len;have u04:Upd Ui h h4:=(ku.tr hu3.wide).trans hu4 fun y d=>(X y d).1
      have z:∀y,A3 y→(S y∨h.size≤y)∧y≠G∧y<h4.size:=fun y d=>⟨(g y d).1.imp id fun h=>by omega,(g y d).2.1,by have:=(g y d).2.2;omega⟩
      have Y:S G∨h.size≤G:=Q.imp id fun h=>by omega
      have hS4':∀y,S4 y→(Ui y∨h.size≤y)∧y<h4.size:=fun y d=>⟨(hS4 y d).1.elim (fun h=>(X y h).1) fun h=>.inr (by omega),(hS4 y d).2⟩
      have hS4A:∀y,S4 y→¬A3 y∧y≠G:=fun y d=>by
       rcases(hS4 y d).1 with h|h
       ·exact hU3 SV (hsetm SV) y h
       ·exact⟨fun ha=>by have:=(g y ha).2.2;omega,by have:=aF b3;omega⟩
      have oth:∀{h5:ad} {W':Nat→Prop} {j:Nat} {k':Option Addr} {n':Bn} {U:Nat→Prop},j≠i→ks[j]? =some k'→F.toL[j]? =some n'→Us[j]? =some U→Upd (fun y=>Ui y∨A3 y∨y=G) h h5→(∀y,W' y→W y∨h.size≤y)→KidO o W' h5 k' n' U:=fun{h5 W' j k' n' U} p ek en J ku5 hW'=>
       KidO.move ku5 (hL.2.2 j k' n' U ek en J) (L U (aw J)) (fun y d=>by
        rcases d with h|h|rfl
        ·exact .inl ⟨C y (q y h),hUid j U p J y h⟩
        ·exact(z y h).1.imp (fun hs=>⟨C y hs,fun hu=>(hU3 U (hUj p J) y hu).1 h⟩) id
        ·exact Y.imp (fun hs=>⟨C _ hs,fun hu=>(hU3 U (hUj p J) _ hu).2 rfl⟩) id) hW'
      rcases hr4 with⟨rfl,rfl⟩|⟨m4,rfl,kid4⟩
      ·rcases hm4 with⟨_,hnone⟩|⟨_,e,_⟩
       ·have ew:IntKind.wrap .i64 ((i:Int)+1)=((i+1:Nat):Int):=by rw[nA (by omega)];omega
        refine az.2 ⟨_,rfl,s3,cF (i:=3) b4,?_⟩;simp only;rw[ew];refine GE ho4 T (by rw[hL.1];omega) fun s5 h5 ho5 O=>?_
        have b5:=O.get b4 fun hx=>(g _ hx).2.1 rfl
        refine⟨_,rfl,JN (i:=3) b5 (show 3<5 by decide),Ac (i:=3) (c':=tB sl w.isSome val s5 o) b5 rfl fun h6 b6 hu6=>?_⟩
        have z45:=O.size;have z56:=hu6.size;have u06:Upd (fun y=>Ui y∨A3 y∨y=G) h h6:=((u04.mono fun y d=>.inl (.inl d)).trans O fun y d=>.inl (.inr (.inl d))).trans hu6 fun y d=>.inl (.inr (.inr d))
        have hmd:∀U∈Us.take i++Us.drop (i+1),∃j,j≠i∧Us[j]? =some U:=fun U B=>by
         obtain⟨j,p⟩:=fE B;rw[←fe,mn]at p;split at p
         ·exact⟨j,by omega,p⟩
         ·exact⟨j+1,by omega,p⟩
        obtain⟨rx,D⟩:=FJ (W:=W) (S:=S) (Us':=Us.take i++Us.drop (i+1)) (L':=F.toL.take i++F.toL.drop (i+1)) hW hno b6 hv (ho5.upd hu6 fun y d=>(g y d).2.1) (fun y d=>⟨(z y d).1,(z y d).2.1,by have:=(z y d).2.2;omega⟩) Y (fun U B y d=>by
         obtain⟨j,p,e⟩:=hmd U B
         exact hU3 U (hUj p e) y d) (fun U B y d=>by
         obtain⟨j,p,e⟩:=hmd U B
         have hm:=aw e
         exact⟨.inl (hUS U hm y d),by have:=L U hm y d;omega⟩) (MW hPD i) fun D=>by
          refine⟨by simp[hL.1],by simp[hL.2.1],fun j k' n' U ek en J=>?_⟩
          simp only[←fe,mn]at ek en J;have hw:∀y,(W y∨SR o G A3 (Us.take i++Us.drop (i+1)) y)→W y∨h.size≤y:=fun y d=>d.elim .inl fun h=>(D y h).1.imp (C y) id
          split at ek
          ·rename_i p
           rw[if_pos p]at en J;exact oth (by omega) ek en J u06 hw
          ·rename_i p
           rw[if_neg p]at en J;exact oth (by omega) ek en J u06 hw
        refine hk h6 G w _ _ true (u06.mono fun y d=>?_) rx D (L3 hc) (AJ H (hddel fun k' v' hN=>Classical.byContradiction fun hne=>hnone k' v' ((hdn k' v').2 ⟨hne,hN⟩))) (fun h=>by cases h) fun _=>hthere
        rcases d with h|h|rfl
        ·exact .inl (q y h)
        ·exact(z y h).1
        ·exact Y
       ·cases e
      ·rcases hm4 with⟨e,_⟩|⟨m',e,hcn,hhd,hiff⟩
       ·cases e
       ·cases e
        obtain⟨kb4,ksl4,rfl,hkl4,rn4⟩:=id kid4;obtain⟨a3,ha3,hab,hw3,ho5,O⟩:=OwnS.setAt ho4 T (some ⟨kb4,0,none⟩);refine ah.2 ⟨_,rfl,s3,cF (i:=3) b4,⟨by simp only;omega,by simp only;omega⟩,a3,ha3,?_⟩
        have hw1:Wr h4 (adr a3 (i*1)):=by
         rcases hw3 with hw|⟨G,Q,hw⟩
         ·cases hw
         ·cases Q;exact hw 0 (by simp)
        refine⟨hw1,bK ?_⟩;change K (some ⟨G,0,none⟩,true) (gd h4 (adr a3 (i*1)) 0 (kC (some ⟨kb4,0,none⟩)));have b5:=O.get b4 fun e=>by have e:G=a3.block:=e;exact(g _ hab).2.1 e.symm
        have z45:=O.size;have eset:ks.set i (some ⟨kb4,0,none⟩)=ks.take i++some ⟨kb4,0,none⟩::ks.drop (i+1):=by rw[List.set_eq_take_append_cons_drop,if_pos T]
        rw[←eset]at ho5;generalize gd h4 (adr a3 (i*1)) 0 (kC (some ⟨kb4,0,none⟩))=h5 at*;have u05:Upd (fun y=>Ui y∨A3 y∨y=G) h h5:=(u04.mono fun y d=>.inl (.inl d)).trans O fun y d=>.inl (.inr (.inl (by have d:y=a3.block:=d;rw[d];exact hab)))
        have kid5:KidO o (fun y=>W y∨SR o G A3 (Us.set i S4) y) h5 (some ⟨kb4,0,none⟩) m4 S4:=by
         refine KidO.move O kid4 (fun y d=>(hS4 y d).2) (fun y d=>?_) fun y d=>?_
         ·have d:y=a3.block:=d
          rw[←d]at hab;refine .inl ⟨?_,fun h=>(hS4A y h).1 hab⟩
          rcases(g y hab).1 with h|h
          ·exact .inl (.inl (.inl (C y h)))
          ·exact .inl (.inr ⟨h,(g y hab).2.2⟩)
         ·have f:∀y,(S y∨h2.size≤y)→y<h3.size→(((W y∨SV y)∨(h2.size≤y∧y<h3.size))∨S4 y)∨h4.size≤y:=fun y d hl=>by
           rcases d with h|h
           ·exact .inl (.inl (.inl (.inl (C y h))))
           ·exact .inl (.inl (.inr ⟨h,hl⟩))
          rcases d with h|⟨_,rfl|h|⟨U,B,h⟩⟩
          ·exact .inl (.inl (.inl (.inl h)))
          ·exact f _ Q (aF b3)
          ·exact f _ (g y h).1 (g y h).2.2
          ·rcases hmem2 U B with h2'|rfl
           ·exact .inl (.inl (.inl (.inl (C _ (hUS U h2' y h)))))
           ·exact .inl (.inr h)
        obtain⟨rx,D⟩:=FJ (W:=W) (S:=S) (Us':=Us.set i S4) (L':=F.toL.set i m4) hW hno b5 hv ho5 (fun y d=>⟨(z y d).1,(z y d).2.1,by have:=(z y d).2.2;omega⟩) Y (fun U B y d=>by
         obtain⟨j,p⟩:=fE B
         rw[dT]at p
         split at p
         ·rename_i e
          cases p;exact hS4A y d
         ·rename_i e
          exact hU3 U (hUj (Ne.symm e) p) y d) (fun U B y d=>by
         rcases hmem2 U B with h|rfl
         ·exact⟨.inl (hUS U h y d),by have:=L U h y d;omega⟩
         ·exact⟨(hS4' y d).1.imp (q y) id,by have:=(hS4' y d).2;omega⟩) (JY hPD fun j U p J y d hu=>by
          rcases(hS4' y d).1 with h|h
          ·exact hUid j U p J y h hu
          ·have:=L U (aw J) y hu;omega) fun D=>LsO.set hL.1 hL.2.1 (fun j k' n' U p ek en J=>oth p ek en J u05 fun y d=>d.elim .inl fun h=>(D y h).1.imp (C y) id) kid5
        refine hk h5 G w _ _ true (u05.mono fun y d=>?_) rx D (E hcn hhd) (AJ H (hdset fun k' v'=>by rw[hiff k' v'];exact hdn k' v')) (fun h=>by cases h) fun _=>hthere
        rcases d with h|h|rfl
        ·exact .inl (q y h)
        ·exact(z y h).1
        ·exact Y
    ·rw[hkl]at hnr
     refine az.2 (R (Upd.refl _ _) fun v f=>?_)
     rcases f with⟨h,_⟩|f
     ·exact H h
     ·obtain⟨r',e,_⟩:=hin_m v f
      exact hnr r' e
end Go.Proofs
namespace Go.Proofs
open Go.Lift
theorem NodeO.upd0{o:Option Addr}{W S:Nat→Prop}{h a:ad}{b:Nat}{s:Slots}(c:NodeO o W h b s S)(k:Upd No h a):NodeO o W a b s S:=
 c.imp (fun n=>⟨n.1.upd k fun _ h=>h.elim,n.2⟩) fun⟨e,d,n,sp,sk,f⟩=>⟨e,d,n,sp,sk,f.upd k fun _ h=>h.elim⟩
theorem NodeO.read{o w:Option Addr}{W S:Nat→Prop}{h:ad}{b:Nat}{s:Slots}(c:NodeO o W h b s S)(t:By h w o):NodeAt No h b s:=by
 rcases c with⟨n,_⟩|⟨e,d,n,sp,sk,f⟩
 ·exact n.less fun _ h=>h.elim
 ·exact f.node (fun _ _ h=>h) fun a e=>⟨id,t.plain a (t.tok e)⟩
set_option maxHeartbeats 1000000 in
theorem m8{W S:Nat→Prop}{h:ad}{w o:Option Addr}{b:Nat}{s:Slots}(nd:NodeO o W h b s S)(t:By h w o)(hW:∀a,o=some a→W a.block)(hS:∀y,S y→y<h.size){i:Nat}(hi:i<32)(hx:∀y,s.p i=some y→s.k i=none)(p:Pr){K:Option Addr→ad→Prop}
  (hk:∀h' b' d n sp sk,OwnN (fun y=>S y∨h.size≤y) h' b' d n sp sk ⟨upd s.p i (some p),upd s.k i none⟩ o→Upd S h h'→K (some ⟨b',0,none⟩) h'):
  HC PG dP [.pointer (some ⟨b,0,none⟩),.pointer w,.int .i64 i,.agg #[.string p.1,.string p.2]] [.c .ptr] K h:=by
 refine tV _ w i p ?_;unfold nW fH aE bL qz c8 ui rO Lq ld fJ kZ;have k1:=Upd.hnew No h [.string p.1,.string p.2] ar;have b1:=cu h [.string p.1,.string p.2] ar;refine bK ?_;simp only[fy h];generalize hnew h [.string p.1,.string p.2] ar=h1 at k1 b1;have z1:=aF b1;have V:=nd.upd0 k1;have t1:=t.upd0 k1
 refine Ax (V.read t1) hi (ah.2 ?_);refine C9 V t1 hW fun h2 G d n sp sk v L=>?_
 have bits:=v.bits;have O:∀{x},(S x∨h1.size≤x)→(S x∨h.size≤x):=fun h=>h.imp id fun h=>by omega
 have z2:=L.size;have zb:=aF v.blk;obtain⟨A,B,hA,hB,q,N⟩:=v.ex;have H:=k1.tr L;have z:=L.get0 b1;refine⟨_,rfl,_,db (i:=0) v.blk,xy bits.d32 hi ?_⟩;rw[bits.dp i hi];cases hp:s.p i with
 |some y=>
  refine az.2 ⟨_,rfl,sp,db (i:=2) v.blk,_,rfl,_,db (i:=0) v.blk,p.1,by rw[bG,aS z];rfl,p.2,by rw[bG,aS z];rfl,?_⟩
  refine mW bits.d32 hi ⟨⟨by rw[bG,aS z];rfl,by rw[bG,aS z];rfl⟩,db (i:=2) v.blk,?_⟩
  have hlt:=Cx hi bits.dp hp;obtain⟨a,ha,J,hw,Q,m⟩:=OwnS.setAt hA hlt p;have hlen:=hA.len;refine⟨by omega,a,ha,?_⟩;rw[aM];refine⟨hw,bK ?_⟩;rw[←Kp hi bits.dp hp]at Q;have ob:=m.get v.blk fun e=>(q _ J).2.2.1 e.symm
  have z3:=m.size;have o3:OwnN (fun x=>S x∨h1.size≤x) _ G d n sp sk ⟨upd s.p i (some p),upd s.k i none⟩ o:=⟨ob,⟨bits.d32,bits.n32,fun c hc=>by
    rw[bits.dp c hc];simp only[upd];split
    ·rename_i e;rw[e,hp];rfl
    ·rfl,fun c hc=>by rw[bits.nk c hc,qA (hx y hp)]⟩,
   ⟨A,B,Q,by rw[qA (hx y hp)];exact hB.upd m fun x hx e=>(q _ J).2.1 (e▸hx),fun x hx=>⟨(q x hx).1,(q x hx).2.1,(q x hx).2.2.1,by have:=(q x hx).2.2.2;omega⟩,fun x hx=>⟨(N x hx).1,(N x hx).2.1,by have:=(N x hx).2.2;omega⟩⟩,v.mb⟩
  refine hk _ _ _ _ _ _ (o3.mono fun _=>O) (H.wide.trans m fun x hx=>?_)
  have hx:x=a.block:=hx;rw[hx];exact O (q _ J).1
 |none=>
  refine ah.2 ⟨_,rfl,Dv v hi fun D d3 n3 E M o3 m=>?_⟩
  have f:=o3.bits;obtain⟨A3,B3,hA3,hB3,j,k⟩:=o3.ex;have z3:=m.size;have F:=m.get z fun e=>e.elim (fun e=>by have:=hS _ e;omega) fun e=>by omega
  have Z:Upd S h D:=H.wide.trans m fun x hx=>O hx
  refine⟨_,rfl,E,db (i:=2) o3.blk,_,rfl,_,db (i:=0) o3.blk,p.1,by rw[bG,aS F];rfl,p.2,by rw[bG,aS F];rfl,?_⟩
  have T:=Upd.hnew No D [.string p.1,.string p.2] ar;have b4:=cu D [.string p.1,.string p.2] ar;have z4:=jP D [.string p.1,.string p.2] ar;have P:=o3.upd T fun _ h=>h.elim
  have fin:HC PG cd [.slice E.a E.len E.cap,.int .i64 (ra i d3),.slice (some (aC D)) 1 1] [.c .slice] (fun(I:SliceV) R=>
       ∃a34:Addr,some (⟨G,0,none⟩:Addr)=some a34∧
       (Wr R (adr (adr a34 0) 2)∧
        At (hset R (adr (adr a34 0) 2) (.slice I.a I.len I.cap)) (fun h35=>
         ∃a36:Addr,some (⟨G,0,none⟩:Addr)=some a36∧
         ∃v37:Int,aG h35 (adr (adr a36 0) 0)=some (.int .u32 v37)∧
         HC PG dR [.int .u32 v37,.int .i64 i] [.c (.int .u32)] (fun(e38:Int) X=>
          ∃a40:Addr,some (⟨G,0,none⟩:Addr)=some a40∧
          (Wr X (adr (adr a40 0) 0)∧
           At (hset X (adr (adr a40 0) 0) (.int .u32 e38)) (fun h41=>
            K (some ⟨G,0,none⟩) h41))) h35))) (hnew D [.string p.1,.string p.2] ar):=by
   generalize hnew D [.string p.1,.string p.2] ar=h4 at T b4 z4 P;rw[fy D];have hA4:=(hA3.upd T fun _ _ h=>h).more (M':=fun x=>A3 x∨h4.size≤x) fun x hx=>.inl hx
   have hpn:(⟨upd s.p i none,upd s.k i none⟩:Slots).p i=none:=fg;refine Gq hA4 (Mp hi f.dp) (by have:=sO (g:=(⟨upd s.p i none,upd s.k i none⟩:Slots).p);omega) (x:=p) b4 (fun e=>e.elim (fun e=>by have:=(j _ e).2.2.2;omega) fun e=>by omega) (fun x hx=>.inr hx) fun s5 h5 ho5 C=>?_
   rw[←Kq hi f.dp hpn p]at ho5;have hbl:G<D.size:=aF o3.blk;have b5:=C.get P.blk fun e=>e.elim (fun e=>(j _ e).2.2.1 rfl) fun e=>by omega
   refine⟨_,rfl,Lo (i:=2) b5 (show 2<6 by decide),Bp (i:=2) (c':=eg d3 n3 s5 M false o) b5 rfl fun h6 b6 hu6=>?_⟩
   refine⟨_,rfl,_,db (i:=0) b6,Hb f.d32 hi fun w1 hw hwt=>?_⟩
   refine⟨_,rfl,Lo (i:=0) b6 (show 0<6 by decide),Bp (i:=0) (c':=eg w1 n3 s5 M false o) b6 rfl fun h7 b7 hu7=>?_⟩
   have u:=hu6.tr hu7;have z5:=C.size;have z7:=u.size;have Y:=ho5.within;have e1:(⟨upd (⟨upd s.p i none,upd s.k i none⟩:Slots).p i (some p),upd s.k i none⟩:Slots)=⟨upd s.p i (some p),upd s.k i none⟩:=by rw[Hc]
   have o7:OwnN (fun x=>S x∨h1.size≤x) h7 G w1 n3 s5 M ⟨upd s.p i (some p),upd s.k i none⟩ o:=by
    rw[←e1];refine⟨b7,⟨hw,f.n32,fun c hc=>?_,f.nk⟩,⟨fun x=>(A3 x∨h4.size≤x)∧x<h5.size,B3,Y.upd u fun x hx e=>?_,((hB3.upd T fun _ _ h=>h).upd C fun x hx e=>?_).upd u fun x hx e=>(k x hx).2.1 e,fun x hx=>⟨?_,?_,?_,by omega⟩,fun x hx=>⟨(k x hx).1,(k x hx).2.1,by have:=(k x hx).2.2;omega⟩⟩,v.mb⟩
    ·rw[hwt,f.dp c hc];simp only[upd];split<;>simp[*]
    ·have e:x=G:=e
     rcases hx.1 with h|h
     ·exact(j x h).2.2.1 e
     ·omega
    ·rcases e with e|e
     ·exact(j x e).2.1 hx
     ·have:=(k x hx).2.2;omega
    ·rcases hx.1 with h|h
     ·exact(j x h).1
     ·exact .inr (by omega)
    ·rcases hx.1 with h|h
     ·exact(j x h).2.1
     ·exact fun hb=>by have:=(k x hb).2.2;omega
    ·rcases hx.1 with h|h
     ·exact(j x h).2.2.1
     ·omega
   refine hk _ _ _ _ _ _ (o7.mono fun _=>O) (((Z.tr T.wide).trans C fun x hx=>?_).trans u fun x hx=>?_)
   ·rcases hx with h|h
    ·exact O (j x h).1
    ·exact .inr (by omega)
   ·have hx:x=G:=hx
    rw[hx];exact O v.mb
  refine⟨mW f.d32 hi ⟨⟨by rw[bG,aS F];rfl,by rw[bG,aS F];rfl⟩,db (i:=2) o3.blk,bK ⟨db (i:=2) P.blk,fin⟩⟩,bK ⟨db (i:=0) P.blk,db (i:=2) P.blk,mW f.d32 hi ⟨db (i:=2) P.blk,fin⟩⟩⟩
theorem IV{W S:Nat→Prop}{h:ad}{w o:Option Addr}{b:Nat}{s:Slots}(f:NodeO o W h b s S)(t:By h w o)(k:∀a,o=some a→W a.block){i:Nat}(hi:i<32){K:Option Addr→ad→Prop}
  (g:∀h' b' d n sp sk,OwnN (fun y=>S y∨h.size≤y) h' b' d n sp sk ⟨upd s.p i none,upd s.k i none⟩ o→Upd S h h'→K (some ⟨b',0,none⟩) h'):
  HC PG jm [.pointer (some ⟨b,0,none⟩),.pointer w,.int .i64 i] [.c .ptr] K h:=by
 refine wQ _ w i ?_;unfold pX rO ld;refine Ax (f.read t) hi (ah.2 ?_);refine C9 f t k fun v u d n sp sk j c=>⟨_,rfl,Dv j hi fun A q z m p o3 e=>?_⟩
 exact g _ _ _ _ _ _ o3 (c.wide.trans e fun x hx=>hx)
set_option maxHeartbeats 1000000 in
theorem rj{W S:Nat→Prop}{h:ad}{w o:Option Addr}{b:Nat}{s:Slots}(nd:NodeO o W h b s S)(t:By h w o)(hW:∀a,o=some a→W a.block){i:Nat}(hi:i<32)(hx:∀y,s.k i=some y→s.p i=none)(j:Addr){K:Option Addr→ad→Prop}
  (hk:∀h' b' d n sp sk,OwnN (fun y=>S y∨h.size≤y) h' b' d n sp sk ⟨upd s.p i none,upd s.k i (some (some j))⟩ o→Upd S h h'→K (some ⟨b',0,none⟩) h'):
  HC PG fl [.pointer (some ⟨b,0,none⟩),.pointer w,.int .i64 i,.pointer (some j)] [.c .ptr] K h:=by
 refine vu _ w i (some j) ?_;unfold o8 fH bL c8 rO ld CQ fJ kZ;refine ah.2 ?_;refine Ax (nd.read t) hi (ah.2 ?_);refine C9 nd t hW fun h2 E d n sp sk u L=>?_
 have bits:=u.bits;have z2:=L.size;have zb:=aF u.blk;obtain⟨A,B,hA,hB,v,z⟩:=u.ex;refine⟨_,rfl,_,db (i:=1) u.blk,xy bits.n32 hi ?_⟩;rw[bits.nk i hi];cases hp:s.k i with
 |some y=>
  refine az.2 ⟨_,rfl,sk,db (i:=3) u.blk,_,rfl,_,db (i:=1) u.blk,?_⟩;refine mW bits.n32 hi ⟨db (i:=3) u.blk,?_⟩;have hlt:=Cx hi bits.nk hp;obtain⟨a,ha,J,I,N,p⟩:=OwnS.setAt hB hlt (some j);have hlen:=hB.len;refine⟨by omega,a,ha,?_⟩;rw[aM];have hw1:Wr h2 (adr a (ra i n*1)):=by
   rcases I with I|⟨b',hb',I⟩
   ·cases I
   ·cases hb';exact I 0 (by simp)
  refine⟨hw1,bK ?_⟩;rw[←Kp hi bits.nk hp]at N;have ob:=p.get u.blk fun e=>(z _ J).2.1 e.symm
  have z3:=p.size;have o3:OwnN (fun x=>S x∨h.size≤x) _ E d n sp sk ⟨upd s.p i none,upd s.k i (some (some j))⟩ o:=⟨ob,⟨bits.d32,bits.n32,fun c hc=>by rw[bits.dp c hc,qA (hx y hp)],fun c hc=>by
    rw[bits.nk c hc];simp only[upd];split
    ·rename_i e;rw[e,hp];rfl
    ·rfl⟩,
   ⟨A,B,by rw[qA (hx y hp)];exact hA.upd p fun x hx e=>(v _ hx).2.1 (e▸J),N,fun x hx=>⟨(v x hx).1,(v x hx).2.1,(v x hx).2.2.1,by have:=(v x hx).2.2.2;omega⟩,fun x hx=>⟨(z x hx).1,(z x hx).2.1,by have:=(z x hx).2.2;omega⟩⟩,u.mb⟩
  refine hk _ _ _ _ _ _ o3 (L.wide.trans p fun x hx=>?_)
  have hx:x=a.block:=hx;rw[hx];exact(z _ J).1
 |none=>
  refine ah.2 ⟨_,rfl,Dv u hi fun D d3 n3 H F o3 p=>?_⟩
  have f:=o3.bits;obtain⟨A3,B3,hA3,hB3,k,m⟩:=o3.ex;have z3:=p.size;have T:Upd S h D:=L.wide.trans p fun x hx=>hx
  refine⟨_,rfl,F,db (i:=3) o3.blk,_,rfl,_,db (i:=1) o3.blk,?_⟩;have P:=Upd.hnew No D [.pointer (some j)] ba;have b4:=cu D [.pointer (some j)] ba;have z4:=jP D [.pointer (some j)] ba;have M:=o3.upd P fun _ h=>h.elim
  have fin:HC PG bS [.slice F.a F.len F.cap,.int .i64 (ra i n3),.slice (some (aC D)) 1 1] [.c .slice] (fun(G:SliceV) O=>
       ∃a34:Addr,some (⟨E,0,none⟩:Addr)=some a34∧
       (Wr O (adr (adr a34 0) 3)∧
        At (hset O (adr (adr a34 0) 3) (.slice G.a G.len G.cap)) (fun X=>
         ∃a36:Addr,some (⟨E,0,none⟩:Addr)=some a36∧
         ∃v37:Int,aG X (adr (adr a36 0) 1)=some (.int .u32 v37)∧
         HC PG dR [.int .u32 v37,.int .i64 i] [.c (.int .u32)] (fun(e38:Int) Q=>
          ∃a40:Addr,some (⟨E,0,none⟩:Addr)=some a40∧
          (Wr Q (adr (adr a40 0) 1)∧
           At (hset Q (adr (adr a40 0) 1) (.int .u32 e38)) (fun Y=>
            K (some ⟨E,0,none⟩) Y))) X))) (hnew D [.pointer (some j)] ba):=by
   generalize hnew D [.pointer (some j)] ba=h4 at P b4 z4 M;rw[fy D];have hB4:=(hB3.upd P fun _ _ h=>h).more (M':=fun x=>B3 x∨h4.size≤x) fun x hx=>.inl hx
   have Z:(⟨upd s.p i none,upd s.k i none⟩:Slots).k i=none:=fg;refine Gr hB4 (Mp hi f.nk) (by have:=sO (g:=(⟨upd s.p i none,upd s.k i none⟩:Slots).k);omega) (x:=some j) b4 (fun e=>e.elim (fun e=>by have:=(m _ e).2.2;omega) fun e=>by omega) (fun x hx=>.inr hx) fun s5 h5 V C=>?_
   rw[←Kq hi f.nk Z (some j)]at V;have hbl:E<D.size:=aF o3.blk;have b5:=C.get M.blk fun e=>e.elim (fun e=>(m _ e).2.1 rfl) fun e=>by omega
   refine⟨_,rfl,Lo (i:=3) b5 (show 3<6 by decide),Bp (i:=3) (c':=eg d3 n3 H s5 false o) b5 rfl fun h6 b6 hu6=>?_⟩
   refine⟨_,rfl,_,db (i:=1) b6,Hb f.n32 hi fun w1 I hwt=>?_⟩
   refine⟨_,rfl,Lo (i:=1) b6 (show 1<6 by decide),Bp (i:=1) (c':=eg d3 w1 H s5 false o) b6 rfl fun h7 b7 hu7=>?_⟩
   have q:=hu6.tr hu7;have z5:=C.size;have z7:=q.size;have R:=V.within;have e1:(⟨upd s.p i none,upd (⟨upd s.p i none,upd s.k i none⟩:Slots).k i (some (some j))⟩:Slots)=⟨upd s.p i none,upd s.k i (some (some j))⟩:=by rw[Hc]
   have o7:OwnN (fun x=>S x∨h.size≤x) h7 E d3 w1 H s5 ⟨upd s.p i none,upd s.k i (some (some j))⟩ o:=by
    rw[←e1];refine⟨b7,⟨f.d32,I,f.dp,fun c hc=>?_⟩,⟨A3,fun x=>(B3 x∨h4.size≤x)∧x<h5.size,((hA3.upd P fun _ _ h=>h).upd C fun x hx e=>?_).upd q fun x hx e=>(k x hx).2.2.1 e,R.upd q fun x hx e=>?_,fun x hx=>⟨(k x hx).1,?_,(k x hx).2.2.1,by have:=(k x hx).2.2.2;omega⟩,fun x hx=>⟨?_,?_,by omega⟩⟩,u.mb⟩
    ·rw[hwt,f.nk c hc];simp only[upd];split<;>simp[*]
    ·rcases e with e|e
     ·exact(k x hx).2.1 e
     ·have:=(k x hx).2.2.2;omega
    ·have e:x=E:=e
     rcases hx.1 with h|h
     ·exact(m x h).2.1 e
     ·omega
    ·rintro⟨h|h,_⟩
     ·exact(k x hx).2.1 h
     ·have:=(k x hx).2.2.2;omega
    ·rcases hx.1 with h|h
     ·exact(m x h).1
     ·exact .inr (by omega)
    ·rcases hx.1 with h|h
     ·exact(m x h).2.1
     ·omega
   refine hk _ _ _ _ _ _ o7 (((T.tr P.wide).trans C fun x hx=>?_).trans q fun x hx=>?_)
   ·rcases hx with h|h
    ·exact(m x h).1
    ·exact .inr (by omega)
   ·have hx:x=E:=hx
    rw[hx];exact u.mb
  refine⟨mW f.n32 hi ⟨db (i:=3) o3.blk,bK ⟨db (i:=3) M.blk,fin⟩⟩,bK ⟨db (i:=1) M.blk,db (i:=3) M.blk,mW f.n32 hi ⟨db (i:=3) M.blk,fin⟩⟩⟩
end Go.Proofs
namespace Go.Proofs
open Go.Lift
def OwnB(M:Nat→Prop)(h:ad)(b:Nat)(sp sk:SliceV)(l:List Pr)(o:Option Addr):Prop:=
 h[b]? =some (.cells (eg 0 0 sp sk true o) bm (0,0))∧M b∧∃A B:Nat→Prop,OwnS iY 2 ar A h sp l∧OwnS ny 1 ba B h sk []∧(∀x,A x→M x∧x≠b∧x<h.size)∧(∀x,B x→M x∧x≠b∧x<h.size)
theorem OwnB.upd{M M':Nat→Prop}{h e:ad}{b:Nat}{sp sk:SliceV}{l:List Pr}{o:Option Addr}(n:OwnB M h b sp sk l o)(k:Upd M' h e)(hm:∀x,M' x→¬M x):OwnB M e b sp sk l o:=by
 obtain⟨i,f,A,B,g,j,a,c⟩:=n;have z:=k.size;exact⟨k.get i fun hx=>hm _ hx f,f,A,B,g.upd k fun x hx d=>hm _ d (a x hx).1,j.upd k fun x hx d=>hm _ d (c x hx).1,fun x hx=>⟨(a x hx).1,(a x hx).2.1,by have:=(a x hx).2.2;omega⟩,fun x hx=>⟨(c x hx).1,(c x hx).2.1,by have:=(c x hx).2.2;omega⟩⟩
theorem OwnB.mono{M M':Nat→Prop}{h:ad}{b:Nat}{sp sk:SliceV}{l:List Pr}{o:Option Addr}(n:OwnB M h b sp sk l o)(hm:∀x,M x→M' x):OwnB M' h b sp sk l o:=by
 obtain⟨e,g,A,B,d,f,a,c⟩:=n;exact⟨e,hm _ g,A,B,d,f,fun x hx=>⟨hm _ (a x hx).1,(a x hx).2⟩,fun x hx=>⟨hm _ (c x hx).1,(c x hx).2⟩⟩
theorem OwnB.within{M:Nat→Prop}{h:ad}{b:Nat}{sp sk:SliceV}{l:List Pr}{o:Option Addr}(n:OwnB M h b sp sk l o):OwnB (fun x=>M x∧x<h.size) h b sp sk l o:=by
 obtain⟨d,f,A,B,e,g,c,a⟩:=n;exact⟨d,⟨f,aF d⟩,A,B,e,g,fun x hx=>⟨⟨(c x hx).1,(c x hx).2.2⟩,(c x hx).2⟩,fun x hx=>⟨⟨(a x hx).1,(a x hx).2.2⟩,(a x hx).2⟩⟩
theorem OwnB.buck{M W:Nat→Prop}{h:ad}{b:Nat}{sp sk:SliceV}{l:List Pr}{o:Option Addr}(n:OwnB M h b sp sk l o)(a:∀x,M x→¬W x)(f:OwOk W h o):BuckAt W h b l:=by
 obtain⟨e,g,A,B,c,d,i,j⟩:=n;exact⟨⟨sp,sk,o,e,c.sl fun x hx _=>a _ (i x hx).1,d.sl fun x hx _=>a _ (j x hx).1,c.cap,d.cap,f⟩,a _ g⟩
def BuckO(o:Option Addr)(W:Nat→Prop)(h:ad)(b:Nat)(l:List Pr)(S:Nat→Prop):Prop:=
 (BuckAt W h b l∧∀y,¬S y)∨(o.isSome=true∧∃sp sk,OwnB S h b sp sk l o)
theorem BuckO.upd0{o:Option Addr}{W S:Nat→Prop}{h a:ad}{b:Nat}{l:List Pr}(n:BuckO o W h b l S)(k:Upd No h a):BuckO o W a b l S:=
 n.imp (fun n=>⟨n.1.upd k fun _ h=>h.elim,n.2⟩) fun⟨e,sp,sk,c⟩=>⟨e,sp,sk,c.upd k fun _ h=>h.elim⟩
theorem BuckO.read{o w:Option Addr}{W S:Nat→Prop}{h:ad}{b:Nat}{l:List Pr}(c:BuckO o W h b l S)(t:By h w o):BuckAt No h b l:=by
 rcases c with⟨n,_⟩|⟨e,sp,sk,d⟩
 ·exact n.less fun _ h=>h.elim
 ·exact d.buck (fun _ _ h=>h) fun a e=>⟨id,t.plain a (t.tok e)⟩
theorem EG{W S:Nat→Prop}{h:ad}{w o:Option Addr}{b:Nat}{l:List Pr}(g:BuckO o W h b l S)(t:By h w o)(F:∀a,o=some a→W a.block)(D:l.length≤1000000000){K:Option Addr→ad→Prop}
  (v:∀i m sp sk,OwnB (fun y=>S y∨h.size≤y) i m sp sk l o→Upd No h i→K (some ⟨m,0,none⟩) i):
  HC PG dF [.pointer (some ⟨b,0,none⟩),.pointer w] [.c .ptr] K h:=by
 rcases g with⟨g,_⟩|⟨z,sp,sk,g⟩
 ·obtain⟨sp,sk,ow,E,q,u,I,G,j⟩:=g.ex
  refine Hq (d:=0) (n:=0) t E (fun a e=>(j a e).2) ?_ q u D (by simp) fun i p s A B m H J c f k=>?_
  ·cases ho:o with
   |none=>rfl
   |some a=>
    have e:=t.tok ho;rw[Option.isSome_some,Bool.true_and,beq_eq_false_iff_ne];intro C;rw[e]at C;exact(j a C).1 (F a ho)
  ·exact v i h.size p s ⟨m,.inr (au _),A,B,H,J,fun x hx=>⟨.inr (by have:=(c x hx).1;omega),by have:=(c x hx).1;omega,(c x hx).2.2⟩,fun x hx=>⟨.inr (by have:=(f x hx).1;omega),by have:=(f x hx).1;omega,(f x hx).2⟩⟩ k
 ·refine Hp (d:=0) (n:=0) t g.1 (fun a e=>t.plain a (t.tok e)) ?_ (v h b sp sk (g.mono fun _ h=>.inl h) (Upd.refl _ _))
  obtain⟨a,e⟩:=Option.isSome_iff_exists.1 z;rw[z,e,t.tok e];simp
theorem AV{W S:Nat→Prop}{h:ad}{w o:Option Addr}{b:Nat}{l:List Pr}(X:BuckO o W h b l S)(t:By h w o)(N:∀a,o=some a→W a.block)(hS:∀y,S y→y<h.size)(C:cp l)(z:l.length≤1000000000)(p:Pr){K:Option Addr→ad→Prop}
  (F:∀h' b' sp sk,OwnB (fun y=>S y∨h.size≤y) h' b' sp sk (jc p l) o→Upd S h h'→K (some ⟨b',0,none⟩) h'):
  HC PG iP [.pointer (some ⟨b,0,none⟩),.pointer w,.agg #[.string p.1,.string p.2]] [.c .ptr] K h:=by
 refine y2 _ w p ?_;unfold r8 aE bL rP c8 ui rO;have k1:=Upd.hnew No h [.string p.1,.string p.2] ar;have b1:=cu h [.string p.1,.string p.2] ar;refine bK ?_;simp only[fy h];generalize hnew h [.string p.1,.string p.2] ar=h1 at k1 b1;have z1:=aF b1;have q:=X.upd0 k1;have v:=t.upd0 k1;obtain⟨sp,sk,ow,L,J,Q,T,P⟩:=(q.read v).ex
 refine f6 (d:=0) (n:=0) L (ah.2 ?_);refine EG q v N z fun H u s2 E G j=>?_
 obtain⟨b2,hM,A,B,D,V,ha,g⟩:=G;have m:=j.get0 b1;refine⟨_,rfl,s2,db (i:=2) b2,p.1,by rw[bG,aS m];rfl,p.2,by rw[bG,aS m];rfl,?_⟩
 refine Gb (D.sl (W:=No) fun _ _ _ h=>h) D.cap C z p fun s3 I k f=>?_
 rw[Hy p C]at k;have b3:=f.get0 b2;refine⟨_,rfl,Lo (i:=2) b3 (show 2<6 by decide),Bp (i:=2) (c':=eg 0 0 s3 E true o) b3 rfl fun O M c=>?_⟩
 have Y:=aF b2;have R:=j.size;have Z:=f.size;have z4:=c.size;have s:∀{x},(S x∨h1.size≤x)→(S x∨h.size≤x):=fun h=>h.imp id fun h=>by omega
 refine F O u s3 E ⟨M,s hM,fun x=>H.size≤x∧x<I.size,B,k.within.upd c fun x hx e=>?_,(V.upd f fun _ _ h=>h).upd c fun x hx e=>(g x hx).2.1 e,fun x hx=>⟨.inr (by omega),by omega,by omega⟩,fun x hx=>⟨s (g x hx).1,(g x hx).2.1,by have:=(g x hx).2.2;omega⟩⟩ ((((k1.tr j).tr f).wide).trans c fun x hx=>?_)
 ·have e:x=u:=e
  have:=hx.1;omega
 ·have hx:x=u:=hx
  rw[hx];exact s hM
def TrieO(o:Option Addr)(W:Nat→Prop)(x:Hs)(h:ad):Nat→Nat→List Pr→(Nat→Prop)→Prop
 |0,b,l,S=>BuckO o W h b l S
 |m+1,b,l,S=>(TrieAt W x h (m+1) b l∧∀y,¬S y)∨(o.isSome=true∧∃(s:Slots) (d n:Nat) (sp sk:SliceV) (S0:Nat→Prop) (T:Nat→Nat→Prop),OwnN S0 h b d n sp sk s o∧(∀y,S0 y→S y)∧(∀c y,T c y→S y∧¬S0 y)∧(∀c c' y,T c y→T c' y→c=c')∧∀c,c<32→
  ((part x (12-m) c l= []∧s.p c=none∧s.k c=none∧∀y,¬T c y)∨(∃p,part x (12-m) c l= [p]∧s.p c=some p∧s.k c=none∧∀y,¬T c y)∨
   (2≤(part x (12-m) c l).length∧s.p c=none∧∃kb,s.k c=some (some ⟨kb,0,none⟩)∧TrieO o W x h m kb (part x (12-m) c l) (T c))))
def SlotO(o:Option Addr)(W:Nat→Prop)(x:Hs)(h:ad)(m:Nat)(s:Slots)(c:Nat)(l:List Pr)(T:Nat→Prop):Prop:=
 (l= []∧s.p c=none∧s.k c=none∧∀y,¬T y)∨(∃p,l= [p]∧s.p c=some p∧s.k c=none∧∀y,¬T y)∨(2≤l.length∧s.p c=none∧∃kb,s.k c=some (some ⟨kb,0,none⟩)∧TrieO o W x h m kb l T)
theorem Eb{o:Option Addr}{W:Nat→Prop}{x:Hs}{h:ad}:∀{m b:Nat} {l:List Pr},TrieAt W x h m b l→TrieO o W x h m b l No
 |0,_,_,t=>.inl ⟨t,fun _ h=>h⟩
 |_+1,_,_,t=>.inl ⟨t,fun _ h=>h⟩
theorem TrieO.freeze{o:Option Addr}{W W':Nat→Prop}{x:Hs}{h:ad}(i:∀y,W' y→W y)(g:OwOk W' h o):∀{m b:Nat} {l:List Pr} {S:Nat→Prop},TrieO o W x h m b l S→(∀y,S y→¬W' y)→TrieAt W' x h m b l
 |0,_,_,_,t,hS=>t.elim (fun t=>t.1.less fun y a=>.inl (i y a)) fun⟨_,_,_,t⟩=>t.buck hS g
 |m+1,b,l,S,t,hS=>by
  rcases t with⟨t,_⟩|⟨_,s,d,n,sp,sk,A,T,u,v,q,_,hc⟩
  ·exact TrieAt.less (fun y a=>.inl (i y a)) t
  ·exact⟨s,u.node (fun y a=>hS y (v y a)) g,fun c e=>(hc c e).imp (fun h=>⟨h.1,h.2.1,h.2.2.1⟩) fun o=>o.imp (fun⟨p,f,j,k,_⟩=>⟨p,f,j,k⟩) fun⟨f,j,z,k,w⟩=>⟨f,j,z,k,TrieO.freeze i g w fun y a=>hS y (q c y a).1⟩⟩
theorem TrieO.read{o w:Option Addr}{W S:Nat→Prop}{x:Hs}{h:ad}{m b:Nat}{l:List Pr}(t:TrieO o W x h m b l S)(by_:By h w o):TrieAt No x h m b l:=
 TrieO.freeze (fun _ h=>h.elim) (fun a e=>⟨id,by_.plain a (by_.tok e)⟩) t fun _ _ h=>h
theorem TrieO.off{W S:Nat→Prop}{x:Hs}{h:ad}{m b:Nat}{l:List Pr}(t:TrieO none W x h m b l S):TrieAt W x h m b l∧∀y,¬S y:=by
 cases m with
 |zero=>exact t.elim id fun h=>absurd h.1 (by simp)
 |succ m=>exact t.elim id fun h=>absurd h.1 (by simp)
theorem TrieO.upd{o:Option Addr}{W M:Nat→Prop}{x:Hs}{h p:ad}(k:Upd M h p):∀{m b:Nat} {l:List Pr} {S:Nat→Prop},TrieO o W x h m b l S→(∀y,S y→y<h.size)→(∀y,M y→(W y∧¬S y)∨h.size≤y)→TrieO o W x p m b l S
 |0,_,_,S,t,hS,hm=>t.imp (fun t=>⟨t.1.upd k fun y a=>(hm y a).imp (fun h=>h.1) id,t.2⟩) fun⟨e,sp,sk,t⟩=>⟨e,sp,sk,t.upd k fun y a f=>by
   have:=hS y f
   rcases hm y a with h|h
   ·exact h.2 f
   ·omega⟩
 |m+1,b,l,S,t,hS,hm=>by
  rcases t with⟨t,e⟩|⟨e,s,d,n,sp,sk,q,T,u,j,g,hd,hc⟩
  ·exact .inl ⟨TrieAt.updM k (fun y a=>(hm y a).imp (fun h=>h.1) id) t,e⟩
  ·refine .inr ⟨e,s,d,n,sp,sk,q,T,u.upd k fun y a f=>?_,j,g,hd,fun c i=>(hc c i).imp id fun o=>o.imp id fun⟨v,w,A,C,z⟩=>⟨v,w,A,C,TrieO.upd k z (fun y a=>hS y (g c y a).1) fun y a=>(hm y a).imp (fun h=>⟨h.1,fun B=>h.2 (g c y B).1⟩) id⟩⟩
   have:=hS y (j y f);rcases hm y a with h|h
   ·exact h.2 (j y f)
   ·omega
theorem TrieO.upd0{o:Option Addr}{W:Nat→Prop}{x:Hs}{h f:ad}(k:Upd No h f):∀{m b:Nat} {l:List Pr} {S:Nat→Prop},TrieO o W x h m b l S→TrieO o W x f m b l S
 |0,_,_,_,t=>BuckO.upd0 t k
 |m+1,b,l,S,t=>by
  rcases t with⟨t,e⟩|⟨e,s,d,n,sp,sk,g,T,j,q,i,hd,hc⟩
  ·exact .inl ⟨TrieAt.upd0 k t,e⟩
  ·exact .inr ⟨e,s,d,n,sp,sk,g,T,j.upd k fun _ h=>h.elim,q,i,hd,fun c a=>(hc c a).imp id fun o=>o.imp id fun⟨p,u,w,y,v⟩=>⟨p,u,w,y,TrieO.upd0 k v⟩⟩
theorem TrieO.less{o:Option Addr}{W W':Nat→Prop}{x:Hs}{h:ad}(hm:∀y,W' y→W y∨h.size≤y):∀{m b:Nat} {l:List Pr} {S:Nat→Prop},TrieO o W x h m b l S→TrieO o W' x h m b l S
 |0,_,_,_,t=>t.imp (fun t=>⟨t.1.less hm,t.2⟩) id
 |m+1,b,l,S,t=>by
  rcases t with⟨t,e⟩|⟨e,s,d,n,sp,sk,f,T,i,k,g,hd,hc⟩
  ·exact .inl ⟨TrieAt.less hm t,e⟩
  ·exact .inr ⟨e,s,d,n,sp,sk,f,T,i,k,g,hd,fun c a=>(hc c a).imp id fun o=>o.imp id fun⟨j,p,u,v,q⟩=>⟨j,p,u,v,TrieO.less hm q⟩⟩
theorem SlotO.upd{o:Option Addr}{W M:Nat→Prop}{x:Hs}{h a:ad}(k:Upd M h a){m:Nat}{s:Slots}{c:Nat}{l:List Pr}{T:Nat→Prop}(t:SlotO o W x h m s c l T)(g:∀y,T y→y<h.size)(hm:∀y,M y→(W y∧¬T y)∨h.size≤y):SlotO o W x a m s c l T:=
 t.imp id fun o=>o.imp id fun⟨b,d,f,i,e⟩=>⟨b,d,f,i,TrieO.upd k e g hm⟩
theorem SlotO.less{o:Option Addr}{W W':Nat→Prop}{x:Hs}{h:ad}(hm:∀y,W' y→W y∨h.size≤y){m:Nat}{s:Slots}{c:Nat}{l:List Pr}{T:Nat→Prop}(t:SlotO o W x h m s c l T):SlotO o W' x h m s c l T:=
 t.imp id fun o=>o.imp id fun⟨a,b,e,f,d⟩=>⟨a,b,e,f,TrieO.less hm d⟩
theorem SlotO.turn{o:Option Addr}{W:Nat→Prop}{x:Hs}{h:ad}{m:Nat}{s s':Slots}{c:Nat}{l:List Pr}{T:Nat→Prop}(t:SlotO o W x h m s c l T)(a:s'.p c=s.p c)(b:s'.k c=s.k c):SlotO o W x h m s' c l T:=by
 unfold SlotO at t⊢;rw[a,b];exact t
theorem TrieO.view{o:Option Addr}{W S:Nat→Prop}{x:Hs}{h:ad}{m b:Nat}{l:List Pr}(t:TrieO o W x h (m+1) b l S):
  ∃(s:Slots) (a:Nat→Prop) (T:Nat→Nat→Prop),NodeO o W h b s a∧(∀y,a y→S y)∧(∀c y,T c y→S y∧¬a y)∧(∀c c' y,T c y→T c' y→c=c')∧∀c,c<32→SlotO o W x h m s c (part x (12-m) c l) (T c):=by
 rcases t with⟨⟨s,k,hc⟩,e⟩|⟨e,s,d,n,sp,sk,a,T,u,v,q,hd,hc⟩
 ·exact⟨s,No,fun _=>No,.inl ⟨k,fun _ h=>h⟩,fun _ h=>h.elim,fun _ _ h=>h.elim,fun _ _ _ h=>h.elim,fun c f=>(hc c f).imp (fun h=>⟨h.1,h.2.1,h.2.2,fun _ h=>h⟩) fun o=>o.imp (fun⟨p,g,i,j⟩=>⟨p,g,i,j,fun _ h=>h⟩) fun⟨g,i,z,j,w⟩=>⟨g,i,z,j,Eb w⟩⟩
 ·exact⟨s,a,T,.inr ⟨e,d,n,sp,sk,u⟩,v,q,hd,hc⟩
theorem BX{o:Option Addr}{W j:Nat→Prop}{T:Nat→Nat→Prop}{x:Hs}{k:ad}{m u d n z:Nat}{sp sk:SliceV}{s':Slots}{l':List Pr}(t:OwnN (fun y=>j y∨z≤y) k u d n sp sk s' o)
  (hc:∀c,c<32→SlotO o W x k m s' c (part x (12-m) c l') (T c))(v:∀c y,T c y→y<z∧¬j y)(hd:∀c c' y,T c y→T c' y→c=c')(w:o=none→(∀y,¬j y)∧∀y,W y→y<z):
  TrieO o W x k (m+1) u l' (fun y=>o.isSome=true∧(((j y∨z≤y)∧y<k.size)∨∃c,c<32∧T c y)):=by
 cases o with
 |none=>
  obtain⟨A,D⟩:=w rfl;refine .inl ⟨⟨s',t.node (fun y f q=>?_) iZ,fun c b=>?_⟩,fun y f=>by simp at f⟩
  ·have:=D y q
   rcases f with h|h
   ·exact A y h
   ·omega
  ·exact(hc c b).imp (fun h=>⟨h.1,h.2.1,h.2.2.1⟩) fun o=>o.imp (fun⟨p,i,g,s,_⟩=>⟨p,i,g,s⟩) fun⟨i,g,C,s,B⟩=>⟨i,g,C,s,B.off.1⟩
 |some a=>
  refine .inr ⟨rfl,s',d,n,sp,sk,fun y=>(j y∨z≤y)∧y<k.size,fun c y=>c<32∧T c y,t.within,fun y f=>⟨rfl,.inl f⟩,fun c y f=>⟨⟨rfl,.inr ⟨c,f⟩⟩,fun h=>?_⟩,fun c c' y i g=>hd c c' y i.2 g.2,fun c b=>?_⟩
  ·obtain⟨i,g⟩:=v c y f.2
   rcases h.1 with h|h
   ·exact g h
   ·omega
  ·have e:(fun y=>c<32∧T c y)=T c:=funext fun y=>propext ⟨fun h=>h.2,fun h=>⟨b,h⟩⟩
   have:=hc c b;unfold SlotO at this;rw[←e]at this;exact this
end Go.Proofs
namespace Go.Proofs
open Go.Lift
theorem Iy{o:Option Addr}{W c:Nat→Prop}{f:ad}{i d n z:Nat}{sp sk:SliceV}{s':Slots}(g:OwnN (fun y=>c y∨z≤y) f i d n sp sk s' o)(j:o=none→(∀y,¬c y)∧∀y,W y→y<z):
  NodeO o W f i s' (fun y=>o.isSome=true∧(c y∨z≤y)∧y<f.size):=by
 cases o with
 |none=>
  obtain⟨k,m⟩:=j rfl;refine .inl ⟨g.node (fun y b e=>?_) iZ,fun y b=>by simp at b⟩
  have:=m y e;rcases b with h|h
  ·exact k y h
  ·omega
 |some a=>exact .inr ⟨rfl,d,n,sp,sk,g.within.mono fun y b=>⟨rfl,b⟩⟩
theorem tL{o:Option Addr}{W c:Nat→Prop}{e:ad}{g z:Nat}{sp sk:SliceV}{l:List Pr}(f:OwnB (fun y=>c y∨z≤y) e g sp sk l o)(i:o=none→(∀y,¬c y)∧∀y,W y→y<z):
  BuckO o W e g l (fun y=>o.isSome=true∧(c y∨z≤y)∧y<e.size):=by
 cases o with
 |none=>
  obtain⟨j,k⟩:=i rfl;refine .inl ⟨f.buck (fun y b d=>?_) iZ,fun y b=>by simp at b⟩
  have:=k y d;rcases b with h|h
  ·exact j y h
  ·omega
 |some a=>exact .inr ⟨rfl,sp,sk,f.within.mono fun y b=>⟨rfl,b⟩⟩
def SN(o:Option Addr)(a:Nat→Prop)(z:Nat)(b:ad)(T:Nat→Nat→Prop)(y:Nat):Prop:=o.isSome=true∧(((a y∨z≤y)∧y<b.size)∨∃c,c<32∧T c y)
def sT(T:Nat→Nat→Prop)(i:Nat)(S:Nat→Prop)(c:Nat):Nat→Prop:=if c=i then S else T c
theorem vQ{T:Nat→Nat→Prop}{i:Nat}{S:Nat→Prop}:sT T i S i=S:=if_pos rfl
theorem oB{T:Nat→Nat→Prop}{i c:Nat}{S:Nat→Prop}(h:c≠i):sT T i S c=T c:=if_neg h
theorem GP{o:Option Addr}{S d T':Nat→Prop}{z z0 c0:Nat}{a:ad}{T:Nat→Nat→Prop}(i:∀y,d y→S y)(f:∀c y,T c y→S y∧y<a.size)(b:∀y,T' y→(S y∨z0≤y)∧y<a.size)(hz:z0≤z){y:Nat}(j:SN o d z a (sT T c0 T') y):(S y∨z0≤y)∧y<a.size:=by
 rcases j.2 with⟨h|h,g⟩|⟨c,_,h⟩
 ·exact⟨.inl (i y h),g⟩
 ·exact⟨.inr (Nat.le_trans hz h),g⟩
 ·by_cases e:c=c0
  ·subst e;rw[vQ]at h;exact b y h
  ·rw[oB e]at h;exact⟨.inl (f c y h).1,(f c y h).2⟩
theorem uH{o:Option Addr}{W W1 f T':Nat→Prop}{T:Nat→Nat→Prop}{x:Hs}{hz g:ad}{m D d n c0:Nat}{sp sk:SliceV}{s s':Slots}{l':List Pr}
  (E:OwnN (fun y=>f y∨hz.size≤y) g D d n sp sk s' o)(H:Upd f hz g)(G:∀c,c<32→c≠c0→SlotO o W1 x hz m s c (part x (12-m) c l') (T c))(z:∀c,c≠c0→s'.p c=s.p c∧s'.k c=s.k c)
  (hi:SlotO o W1 x hz m s' c0 (part x (12-m) c0 l') T')(u:∀y,W y→W1 y)(p:∀y,f y→W1 y)(v:∀c y,T c y→W1 y)(k:∀y,T' y→W1 y)(w:∀c y,T c y→y<hz.size∧¬f y)(b:∀y,T' y→y<hz.size∧¬f y∧∀c,c≠c0→¬T c y)
  (hd:∀c c' y,T c y→T c' y→c=c')(B:o=none→(∀y,¬f y)∧∀y,W1 y→y<hz.size):
  TrieO o (fun y=>W y∨SN o f hz.size g (sT T c0 T') y) x g (m+1) D l' (SN o f hz.size g (sT T c0 T')):=by
 have q:∀c y,sT T c0 T' c y→W1 y∧y<hz.size∧¬f y:=fun c y h=>by
  by_cases e:c=c0
  ·subst e;rw[vQ]at h;exact⟨k y h,(b y h).1,(b y h).2.1⟩
  ·rw[oB e]at h;exact⟨v c y h,w c y h⟩
 have F:∀y,(W y∨SN o f hz.size g (sT T c0 T') y)→(W1 y∨hz.size≤y):=fun y a=>by
  rcases a with h|⟨_,⟨h|h,_⟩|⟨c,_,h⟩⟩
  ·exact .inl (u y h)
  ·exact .inl (p y h)
  ·exact .inr h
  ·exact .inl (q c y h).1
 have C:∀{s:Slots} {c:Nat} {l:List Pr} {U:Nat→Prop},SlotO o W1 x hz m s c l U→(∀y,U y→y<hz.size∧¬f y)→SlotO o (fun y=>W y∨SN o f hz.size g (sT T c0 T') y) x g m s c l U:=fun t A=>
  ((t.less (W':=fun y=>W1 y∨hz.size≤y) fun y a=>a).upd H (fun y a=>(A y a).1) fun y a=>.inl ⟨.inl (p y a),fun h=>(A y h).2 a⟩).less fun y a=>.inl (F y a)
 refine BX E (fun c hc=>?_) (fun c y h=>(q c y h).2) (fun c c' y i j=>?_) fun e=>⟨(B e).1,fun y a=>?_⟩
 ·by_cases e:c=c0
  ·subst e;rw[vQ];exact C hi fun y a=>⟨(b y a).1,(b y a).2.1⟩
  ·rw[oB e];exact(C (G c hc e) fun y a=>w c y a).turn (z c e).1 (z c e).2
 ·by_cases e:c=c0<;>by_cases e':c'=c0
  ·omega
  ·subst e;rw[vQ]at i;rw[oB e']at j;exact absurd j ((b y i).2.2 c' e')
  ·subst e';rw[vQ]at j;rw[oB e]at i;exact absurd i ((b y j).2.2 c e)
  ·rw[oB e]at i;rw[oB e']at j;exact hd c c' y i j
 ·rcases a with h|⟨h,_⟩
  ·exact(B e).2 y (u y h)
  ·rw[e]at h;cases h
abbrev Jp(x:Hs)(w:Option Addr)(k:ByteArray):Value:=.agg #[.int .u64 x.k0,.int .u64 x.k1,.int .u64 x.mask,.pointer w,.string k,.int .u64 (lG x k)]
set_option maxHeartbeats 1000000 in
theorem K3{W:Nat→Prop}{x:Hs}{w o:Option Addr}:∀(m:Nat) (p q:Pr),m≤13→p.1≠q.1→∀{h:ad},(∀y,W y→y<h.size)→By h w o→(∀a,o=some a→W a.block)→∀{K:Option Addr→ad→Prop},(∀h' b' S',TrieO o (fun y=>W y∨S' y) x h' m b' (jc q [p]) S'→(∀y,S' y→h.size≤y∧y<h'.size)→Upd No h h'→K (some ⟨b',0,none⟩) h')→
  HC PG jo [Jp x w q.1,.agg #[.string p.1,.string p.2],.agg #[.string q.1,.string q.2],.int .i64 ((13-m:Nat):Int)] [.c .ptr] K h:=by
 intro m;induction m with
 |zero=>
  intro p q _ V h hW t F K hk;have L:∀{h'},Upd No h h'→∀y,W y→y<h'.size:=fun k y g=>bI (hW y g) k.size
  refine pJ (x.k0,x.k1,x.mask,w,q.1,lG x q.1) p q ((13-0:Nat):Int) ?_;unfold ma af cE aA aE vE rP ui uG C8 qd zH;refine aX fun h1 b1 k1=>aX fun h2 b2 k2=>aX fun N b3 k3=>?_
  have j:=(k1.tr k2).tr k3;have u:∀{h':ad},Upd No N h'→∀i,aG h' (adr ⟨h.size,0,none⟩ i)=(#[.int .u64 x.k0,.int .u64 x.k1,.int .u64 x.mask,.pointer w,.string q.1,.int .u64 (lG x q.1)]:Array Value)[i]?:=fun k i=>by
   rw[bG,aS (k.get0 (k3.get0 (k2.get0 b1))),aD]
  have H:∀{h':ad},Upd No N h'→∀i,aG h' (adr ⟨h1.size,0,none⟩ i)=(#[.string p.1,.string p.2]:Array Value)[i]?:=fun k i=>by rw[bG,aS (k.get0 (k3.get0 b2)),aD]
  have D:∀{h':ad},Upd No N h'→∀i,aG h' (adr ⟨h2.size,0,none⟩ i)=(#[.string q.1,.string q.2]:Array Value)[i]?:=fun k i=>by rw[bG,aS (k.get0 b3),aD]
  have r:=Upd.refl No N;have z03:=j.size;refine az.2 ⟨w,u r 3,p.1,H r 0,p.2,H r 1,w,u r 3,q.1,D r 0,q.2,D r 1,?_⟩;refine IY (L j) fun h4 b4 bk4 f=>⟨⟨D f 0,D f 1⟩,u f 3,⟨H f 0,H f 1⟩,u f 3,?_⟩
  have t4:=t.upd0 (j.tr f);have z4:=f.size;refine AV (S:=No) (.inl ⟨bk4,fun _ h=>h⟩) t4 F (fun _ h=>h.elim) fO (by simp) p fun R b5 sp5 sk5 on5 C=>?_
  have E:=f.tr C;have z5:=C.size;refine⟨⟨D E 0,D E 1⟩,u E 3,?_⟩;have bk5:=tL (W:=W) (z:=h4.size) on5 fun e=>⟨fun _ h=>h,L (j.tr f)⟩
  have t5:=t4.upd0 C;refine AV bk5 t5 F (fun y g=>g.2.2) (eC ..) (by simp[jc]) q fun O b6 sp6 sk6 X A=>?_
  have z6:=A.size;have bk6:=tL (W:=fun y=>W y∨(o.isSome=true∧((o.isSome=true∧((No y∨h4.size≤y)∧y<R.size))∨R.size≤y)∧y<O.size)) (z:=R.size) X fun e=>⟨fun y g=>(by rw[e]at g;cases g.1),fun y g=>(by
   rcases g with g|g
   ·exact L (j.tr E) y g
   ·rw[e]at g;cases g.1)⟩
  refine hk O b6 _ bk6 (fun y g=>?_) ((j.tr E).trans A fun y g=>.inr ?_)
  ·rcases g.2.1 with h|h
   ·rcases h.2.1 with h|h
    ·exact h.elim
    ·exact⟨by omega,g.2.2⟩
   ·exact⟨by omega,g.2.2⟩
  ·rcases g.2.1 with h|h
   ·exact h.elim
   ·omega
 |succ m ih=>
  intro p q hm V h hW t F K hk;have L:∀{h'},Upd No h h'→∀y,W y→y<h'.size:=fun k y g=>bI (hW y g) k.size
  have hl:13-(m+1)<13:=by omega
  have B:13-(m+1)=12-m:=by omega
  refine pJ (x.k0,x.k1,x.mask,w,q.1,lG x q.1) p q ((13-(m+1):Nat):Int) ?_;unfold ma af cE aA aE vE rP ui uG C8 qd zH;refine aX fun h1 b1 k1=>aX fun h2 b2 k2=>aX fun N b3 k3=>?_
  have j:=(k1.tr k2).tr k3;have u:∀{h':ad},Upd No N h'→∀i,aG h' (adr ⟨h.size,0,none⟩ i)=(#[.int .u64 x.k0,.int .u64 x.k1,.int .u64 x.mask,.pointer w,.string q.1,.int .u64 (lG x q.1)]:Array Value)[i]?:=fun k i=>by
   rw[bG,aS (k.get0 (k3.get0 (k2.get0 b1))),aD]
  have H:∀{h':ad},Upd No N h'→∀i,aG h' (adr ⟨h1.size,0,none⟩ i)=(#[.string p.1,.string p.2]:Array Value)[i]?:=fun k i=>by rw[bG,aS (k.get0 (k3.get0 b2)),aD]
  have D:∀{h':ad},Upd No N h'→∀i,aG h' (adr ⟨h2.size,0,none⟩ i)=(#[.string q.1,.string q.2]:Array Value)[i]?:=fun k i=>by rw[bG,aS (k.get0 b3),aD]
  have r:=Upd.refl No N;have z03:=j.size;have ne:(((13-(m+1):Nat):Int)==(13:Int))=false:=by rw[beq_eq_false_iff_ne];omega
  rw[ne];refine ah.2 ⟨_,u r 0,_,u r 1,_,u r 2,_,H r 0,_,u r 5,?_⟩;refine rv fun h4 f=>⟨u f 5,KV hl ⟨u f 5,KV hl ?_⟩⟩
  have hi:=ww x (13-(m+1)) p.1;have hj:=ww x (13-(m+1)) q.1;have hcl:=Hd V;have z4:=f.size;refine CondP.intro (fun e=>?_) fun e=>?_
  ·have e:ck x (13-(m+1)) p.1=ck x (13-(m+1)) q.1:=by have:=eq_of_beq e;omega
   refine⟨_,u f 3,_,u f 0,_,u f 1,_,u f 2,_,u f 3,_,u f 4,_,u f 5,_,H f 0,_,H f 1,_,D f 0,_,D f 1,?_⟩;refine rq (L (j.tr f)) fun R b5 nd5 C=>?_
   have b:=f.tr C;have z5:=C.size;refine⟨⟨D b 0,D b 1⟩,⟨H b 0,H b 1⟩,⟨u b 0,u b 1,u b 2,u b 3,u b 4,u b 5⟩,u b 3,?_⟩;have ew:IntKind.wrap .i64 (((13-(m+1):Nat):Int)+1)=((13-m:Nat):Int):=by rw[nA (by omega)];omega
   rw[ew];refine ih p q (by omega) V (L (j.tr b)) (t.upd0 (j.tr b)) F fun O b6 Sk t6 M A=>?_
   have v:=b.tr A;have z6:=A.size;refine⟨u v 3,?_⟩;refine rj (S:=No) (.inl ⟨nd5.upd A fun _ h=>h.elim,fun _ h=>h⟩) (t.upd0 (j.tr v)) F hi (fun y h=>by cases h) ⟨b6,0,none⟩ fun h7 b7 d n sp sk Y J=>?_
   have z7:=J.size;refine hk h7 b7 _ (uH (W:=W) (W1:=fun y=>W y∨Sk y) (T:=fun _=>No) (T':=Sk) (c0:=ck x (13-(m+1)) p.1) (s:=⟨fun _=>none,fun _=>none⟩) (hz:=O) Y J (fun c hc Z=>?_) (fun c hc=>⟨eP hc,eP hc⟩) ?_ (fun y g=>.inl g) (fun _ h=>h.elim) (fun _ _ h=>h.elim) (fun y g=>.inr g) (fun _ _ h=>h.elim) (fun y g=>⟨(M y g).2,id,fun _ _ h=>h⟩) (fun _ _ _ h=>h.elim) fun eo=>⟨fun _ h=>h,fun y g=>g.elim (L (j.tr v) y) fun h=>(M y h).2⟩) (fun y g=>?_) ((j.tr v).tr J)
   ·refine .inl ⟨Hn fun r hr=>?_,rfl,rfl,fun _ h=>h⟩
    rw[B]at Z e;rcases Ht hr with rfl|rfl
    ·exact fun e=>Z e.symm
    ·rw[←e];exact fun e=>Z e.symm
   ·have ea:part x (12-m) (ck x (13-(m+1)) p.1) (jc q [p])=jc q [p]:=EB fun r hr=>by
     rw[B]at e⊢;rcases Ht hr with rfl|rfl
     ·rfl
     ·rw[e]
    rw[ea];exact .inr (.inr ⟨by omega,fg,b6,fg,t6⟩)
   ·have:=GP (S:=No) (z0:=h.size) (fun _ h=>h) (fun _ _ h=>h.elim) (fun y g=>⟨.inr (by have:=(M y g).1;omega),by have:=(M y g).2;omega⟩) (by omega) g
    exact⟨this.1.elim (fun h=>h.elim) id,this.2⟩
  ·have e:ck x (13-(m+1)) p.1≠ck x (13-(m+1)) q.1:=fun h=>by rw[h]at e;simp at e
   refine⟨_,u f 3,_,H f 0,_,H f 1,_,u f 3,_,D f 0,_,D f 1,?_⟩;refine rq (L (j.tr f)) fun R b5 nd5 C=>?_
   have b:=f.tr C;have z5:=C.size;have t5:=t.upd0 (j.tr b);refine⟨⟨D b 0,D b 1⟩,u b 3,⟨H b 0,H b 1⟩,u b 3,?_⟩;refine m8 (S:=No) (.inl ⟨nd5,fun _ h=>h⟩) t5 F (fun _ h=>h.elim) hi (fun y h=>by cases h) p fun O b6 d6 n6 sp6 sk6 X A=>?_
   have v:=b.tr A;have z6:=A.size;have nd6:=Iy (W:=W) X fun _=>⟨fun _ h=>h,L (j.tr b)⟩
   refine⟨⟨D v 0,D v 1⟩,u v 3,?_⟩;refine m8 nd6 (t5.upd0 A) F (fun y g=>g.2.2) hj (fun y h=>by simp[upd]) q fun h7 b7 d7 n7 sp7 sk7 Y J=>?_
   have z7:=J.size;have Q:∀y,(o.isSome=true∧(No y∨R.size≤y)∧y<O.size)→R.size≤y:=fun y g=>g.2.1.elim (fun h=>h.elim) id
   refine hk h7 b7 _ (BX (T:=fun _=>No) (z:=O.size) (W:=fun y=>W y∨SN o (fun y=>o.isSome=true∧(No y∨R.size≤y)∧y<O.size) O.size h7 (fun _=>No) y) Y (fun c hc=>?_) (fun _ _ h=>h.elim) (fun _ _ _ h=>h.elim) fun eo=>⟨fun y g=>(by rw[eo]at g;cases g.1),fun y g=>(by
    rcases g with g|g
    ·exact L (j.tr v) y g
    ·rw[eo]at g;cases g.1)⟩) (fun y g=>?_) ((j.tr v).trans J fun y g=>.inr (by have:=Q y g;omega))
   ·have G:=Aj (x:=x) (lev:=12-m) (c:=c) (p:=q) (l:= [p]) (eC ..)
    rw[B]at e;by_cases P:c=ck x (12-m) p.1
    ·have I:ck x (12-m) q.1≠c:=fun h=>e (by omega)
     have e1:part x (12-m) c [p]= [p]:=EB fun r hr=>by rw[aj.1 hr,P]
     rw[if_neg I,e1]at G;exact .inr (.inl ⟨p,G,by simp[upd,B,P,e],by simp[upd],fun _ h=>h⟩)
    ·have e1:part x (12-m) c [p]= []:=Hn fun r hr=>by rw[aj.1 hr];exact fun h=>P h.symm
     rw[e1]at G;by_cases I:c=ck x (12-m) q.1
     ·rw[if_pos I.symm]at G
      exact .inr (.inl ⟨q,G,by simp[upd,B,I],by simp[upd],fun _ h=>h⟩)
     ·rw[if_neg fun h=>I h.symm]at G
      exact .inl ⟨G,by simp[upd,B,I,P],by simp[upd],fun _ h=>h⟩
   ·rcases g.2 with⟨h|h,h2⟩|⟨_,_,h⟩
    ·exact⟨by have:=Q y h;omega,h2⟩
    ·exact⟨by omega,h2⟩
    ·exact h.elim
end Go.Proofs
