/- A part of the proof that the named laws of this program answer true, whatever the input. -/
import Derived.Test.YtajpljopgikpgaaGreatDoorPart4
import Derived.Test.YtajpljopgikpgaaGreatDoorPart2
open ByteArray renaming mk→jy
open Int renaming toNat_natCast→aE
open List renaming eraseIdx_eq_take_drop_succ→fR,getElem?_eraseIdx→ni,mem_singleton→aq,getElem_mem→aP,getElem?_eq_getElem→ag,length_append→ae,mem_of_getElem?→aF,getElem?_set→eN,getElem?_of_mem→kE,pairwise_singleton→fq
open List.Pairwise renaming nil→fF
open Nat renaming lt_or_ge→bD,one_pos→q9,le_refl→al,lt_of_lt_of_le→cg,zero_add→aB
namespace Go.Proofs
open Go Go.Lift
theorem QF{Ts:List (Nat→Prop)}(d:PD Ts)(i:Nat):PD (Ts.take i++Ts.drop (i+1)):=by
 intro a b A B e c eb;simp only[←fR,ni]at c eb;split at c<;>split at eb
 ·exact d a b A B e c eb
 ·exact d a (b+1) A B (by omega) c eb
 ·exact d (a+1) b A B (by omega) c eb
 ·exact d (a+1) (b+1) A B (by omega) c eb
theorem M6{o:Option Addr}{W S X A:Nat→Prop}{h:ad}{f b:Nat}{T:List (Nat→Prop)}(i:∀y,W y→y<h.size)(c:o=none→∀y,¬S y)(j:∀y,A y→S y∨h.size≤y)(g:S b∨h.size≤b)(e:o=none):(∀y,A y→¬(W y∨SR o f X T y))∧¬(W b∨SR o f X T b):=by
 have no:∀y,(S y∨h.size≤y)→¬(W y∨SR o f X T y):=fun y d a=>by
  rcases a with a|⟨a,_⟩
  ·rcases d with h|h
   ·exact c e y h
   ·have:=i y a;omega
  ·rw[e]at a;cases a
 exact⟨fun y d=>no y (j y d),no _ g⟩
theorem Ia{o:Option Addr}{W S A:Nat→Prop}{h b:ad}{a:Nat}{sl val:ByteArray}{m:SliceV}{w:Option ByteArray}{d:List (Option Addr)}{L':List Bn}{Us':List (Nat→Prop)}
  (q:∀y,W y→y<h.size)(i:o=none→∀y,¬S y)(n:b[a]? =some (.cells (uM sl w.isSome val m o) bh (0,0))) (hv:val=w.getD ⟨#[]⟩) (j:OwnS kK 1 aR A b m d) (g:∀y,A y→(S y∨h.size≤y)∧y≠a∧y<b.size) (f:S a∨h.size≤a)
  (s:∀U∈Us',∀y,U y→¬A y∧y≠a) (k:∀U∈Us',∀y,U y→(S y∨h.size≤y)∧y<b.size) (t:PD Us') (p:(∀y,SR o a A Us' y→(S y∨h.size≤y)∧y<b.size)→LsO o (fun y=>W y∨SR o a A Us' y) b d L' Us'):
  RxO o (fun y=>W y∨SR o a A Us' y) b a sl w (.ofL L') (SR o a A Us')∧∀y,SR o a A Us' y→(S y∨h.size≤y)∧y<b.size:=by
 have e:∀y,SR o a A Us' y→(S y∨h.size≤y)∧y<b.size:=fun y c=>wM f (aD n) (fun y c=>⟨(g y c).1,(g y c).2.2⟩) k c
 exact⟨tP n hv j (fun y c=>(g y c).2) s t (by rw[Fo.to_of];exact p e) (M6 q i (fun y c=>(g y c).1) f),e⟩
def Sy(o:Option Addr)(W:Nat→Prop)(h:ad)(r:Option Addr)(m:Option Bn)(S:Nat→Prop):Prop:=(r=none∧m=none)∨∃n,m=some n∧KidO o W h r n S
set_option maxHeartbeats 1000000 in
theorem Ic{w' o:Option Addr}{W S:Nat→Prop}{h:ad}{b:Nat}{sl:ByteArray}{w:Option ByteArray}{F:Fo}(r:RxO o W h b sl w F S)(t:By h w' o)(hW:∀y,W y→y<h.size)(D:∀y,S y→W y)(hWo:∀a,o=some a→W a.block)(hc:eH F)(hne:sl.data.toList≠[])(hs1:sl.size≤1000000)(hs2:∀k v,nu F k v→k.length≤1000000)
  {K:Option Addr→ad→Prop}(hk:∀j r m S2,Upd S h j→PR (sl.data.toList,w,F) m→Sy o (fun y=>W y∨S2 y) j r m S2→(∀y,S2 y→(S y∨h.size≤y)∧y<j.size)→K r j):HC PG mU [.pointer (some ⟨b,0,none⟩),.pointer w'] [.c .ptr] K h:=by
 refine yc _ w' ?_;unfold qJ cT dz bG AN tc bI gT;have hr:=r;have hno:o=none→∀y,¬S y:=fun e=>by subst e;exact r.off.2
 have T:∀y,S y→y<h.size:=fun y c=>hW y (D y c)
 obtain⟨val,s,ow,ks,Us,Y,hv,hs,hL,hUS,hPD,hown⟩:=r.view;have hn:=iH hc;have f:=hs.len;rw[hL.1]at f;refine Join.intro (fun t j=>t=decide (w.isSome∨2≤F.toL.length)∧j=h) (fun R hR=>⟨_,rfl,w.isSome,c5 (i:=1) Y,?_⟩) ?_
 ·cases w with
  |some v=>exact ax.2 (hR _ _ ⟨rfl,rfl⟩)
  |none=>
   refine aj.2 ⟨_,rfl,s,c5 (i:=3) Y,hR _ _ ⟨?_,rfl⟩⟩;rw[decide_eq_decide];constructor
   ·intro h;exact .inr (by omega)
   ·rintro(h|h)
    ·cases h
    ·omega
 ·rintro t' j ⟨rfl,rfl⟩
  refine aH (fun G=>?_) fun G=>?_
  ·exact hk j _ _ S (Upd.refl _ _) (LQ hne hc G) (.inr ⟨_,rfl,b,sl,rfl,rfl,hr.less fun y c=>.inl (c.elim id (D y))⟩) fun y c=>⟨.inl c,T y c⟩
  ·have hw:w=none:=by
    cases w with
    |none=>rfl
    |some v=>exact absurd (.inl rfl) G
   subst hw;have hl2:F.toL.length<2:=by
    rcases bD F.toL.length 2 with h|h
    ·exact h
    ·exact absurd (.inr h) G
   refine⟨_,rfl,s,c5 (i:=3) Y,?_⟩;match hFL:F.toL,hl2 with
   | [],_=>
    rw[hFL]at f;have e:((s.len:Int)==(0:Int))=true:=by rw[beq_iff_eq,f];rfl
    rw[e];exact ax.2 (hk j _ _ No (Upd.refl _ _) (LR hFL) (.inl ⟨rfl,rfl⟩) fun y c=>c.elim)
   | [(lk,wk,Fk)],_=>
    rw[hFL]at f;have e:((s.len:Int)==(0:Int))=false:=by rw[beq_eq_false_iff_ne,f];simp
    rw[e];have q:(lk,wk,Fk)∈F.toL:=by rw[hFL];exact aq.2 rfl
    have hcm:=(dS.1 hc).2 _ q;have h0:F.toL[0]? =some (lk,wk,Fk):=by rw[hFL];rfl
    have hk0:0<ks.length:=by rw[hL.1,hFL];exact q9
    have hU0:0<Us.length:=by rw[hL.2.1,hFL];exact q9
    have M:Us[0]∈Us:=aP hU0;obtain⟨kb,p,hke,I,A⟩:=hL.2.2 0 _ _ _ (ag hk0) h0 (ag hU0);have hki:ks[0]? =some (some ⟨kb,0,none⟩):=by rw[ag hk0,hke]
    have g:∀y,Us[0] y→S y:=hUS _ M;generalize Us[0]=U at A M g;simp only at I A;obtain⟨a,ha,_,hvv⟩:=hs.at0 hki;have hknr:=A;have hno2:o=none→∀y,¬U y:=fun e=>by subst e;exact A.off.2
    obtain⟨kval,kss,kow,kks,u,O,hkv,hkss,X,E,P,L⟩:=A.view;have Z:=iH hcm.2.2;have hUb:∀y,U y→y<j.size:=fun y c=>T y (g y c)
    have x:∀V∈u,∀y,V y→y<j.size:=fun V B y c=>hUb y (E V B y c)
    refine aj.2 ⟨_,rfl,s,c5 (i:=3) Y,⟨by omega,by rw[f];simp⟩,a,ha,some ⟨kb,0,none⟩,hvv,?_⟩
    refine jK (W:=W) (S:=U) (Us:=u) t hWo O (by rw[X.1];exact Z) (y3 (Us:=u) L (aD O) (Upd.refl No j) (fun _ h=>h.elim) fun V B y c=>⟨.inl ⟨V,B,c⟩,x V B y c⟩) fun h1 b1 s1 A1 bb1 hA1 d C N H=>?_
    obtain⟨rr,vv,hin⟩:=lL hc _ q;have hbd:=hs2 (lk++rr) vv (fc.2 ⟨_,q,rr,rfl,hin⟩);rw[ae]at hbd;have hlkl:lk.length=p.size:=by rw[←I];exact kN p
    refine⟨_,rfl,sl,c5 (i:=0) (H.get0 Y),_,rfl,p,c5 (i:=0) bb1,by omega,?_⟩
    refine sq bb1 fun G b2 J=>?_
    have Q:Upd (· =b1) j G:=H.wide.tr J
    have z1:=H.size;have z2:=J.size;have zb:=aD b2;have n:∀{z:Nat},(U z∨j.size≤z)→S z∨j.size≤z:=fun h=>h.imp (g _) id
    have hS2:∀y,SR o b1 A1 u y→(S y∨j.size≤y)∧y<G.size:=fun y c=>wM (n C) zb (fun y c=>⟨n (d y c).1,by have:=(d y c).2.2;omega⟩) (fun V B y c=>⟨.inl (g y (E V B y c)),by have:=x V B y c;omega⟩) c
    refine hk G _ _ (SR o b1 A1 u) (Q.mono fun y c=>by have c:y=b1:=c;rw[c];exact n C) (Nv hne hc hFL) (.inr ⟨_,rfl,b1,sl++p,rfl,by rw[←I];exact Ol sl p,tP b2 hkv (hA1.upd J fun y c=>(d y c).2.1) (fun y c=>⟨(d y c).2.1,by have:=(d y c).2.2;omega⟩) N P (X.move Q x (fun y c=>?_) fun y c=>c.elim .inl fun h=>(hS2 y h).1.imp (D y) id) (M6 hW hno (fun y c=>n (d y c).1) (n C))⟩) hS2
    have c:y=b1:=c;subst c;exact C.imp (fun h=>⟨D y (g y h),fun V B hu=>(N V B y hu).2 rfl⟩) id
end Go.Proofs
namespace Go.Proofs
open Go Go.Lift
set_option maxHeartbeats 4000000 in
theorem Ls{w' o:Option Addr}:∀(n:Nat) {W S:Nat→Prop} {b:Nat} {sl:ByteArray} {w:Option ByteArray} {F:Fo} {h:ad} (k:ByteArray),k.size<n→RxO o W h b sl w F S→By h w' o→(∀y,W y→y<h.size)→(∀y,S y→W y)→(∀a,o=some a→W a.block)→(∀a,w'=some a→¬S a.block)→eH F→(∀j v,nu F j v→j.length≤1000000)→∀{K:(Option Addr)×Bool→ad→Prop},
  (∀h' G w2 F2 S2 Q,Upd S h h'→RxO o (fun y=>W y∨S2 y) h' G sl w2 F2 S2→(∀y,S2 y→(S y∨h.size≤y)∧y<h'.size)→eH F2→qX (oK w F) (oK w2 F2) k.data.toList→(Q=false→G=b∧w2=w∧F2=F∧Upd No h h'∧∀v,¬oK w F k.data.toList v)→(Q=true→∃v,oK w F k.data.toList v)→K (some ⟨G,0,none⟩,Q) h')→
  HC PG jW [.pointer (some ⟨b,0,none⟩),.pointer w',.string k] [.c .ptr,.c .bool] K h:=by
 intro n;induction n with
 |zero=>intro W S b sl w F h k hk;omega
 |succ n ih=>
  intro W S b sl w F h k hkn r t hW C hWo hwS hc hbd K hk;refine ye (some ⟨b,0,none⟩) w' k ?_;unfold qL cT dz bG jO cL tc Az bI gT EH Gg;have hr:=r;have hno:o=none→∀y,¬S y:=fun e=>by subst e;exact r.off.2
  obtain⟨val,s,ow,ks,Us,hb,hv,hs,hL,hUS,hPD,hown⟩:=r.view;have hn:=iH hc;have hcan:=dS.1 hc;have hSb:∀y,S y→y<h.size:=fun y d=>hW y (C y d)
  have L:∀U∈Us,∀y,U y→y<h.size:=fun U B y d=>hSb y (hUS U B y d)
  have zb:=aD hb;have own2:=fun{h2:ad} {M:Nat→Prop} (ku:Upd M h h2) (hM:∀y,M y→S y∧∃U∈Us,U y) (Us':List (Nat→Prop)) (B:∀U∈Us',∀y,U y→((∃V∈Us,V y)∨h.size≤y)∧y<h2.size)=>y3 (Us':=Us') hown zb ku hM B
  have P:∀{h':ad},Upd No h h'→(∀v,¬oK w F k.data.toList v)→K (some ⟨b,0,none⟩,false) h':=fun hu hnin=>hk _ b w F S false hu.wide ((hr.upd0 hu).less fun y d=>.inl (d.elim id (C y))) (fun y d=>⟨.inl d,by have:=hSb y d;have:=hu.size;omega⟩) hc (Jh hnin) (fun _=>⟨rfl,rfl,rfl,hu,hnin⟩) fun h=>by cases h
  rw[iU];refine aH (fun hk0=>?_) fun hk0=>?_
  ·have hke:k.data.toList= []:=by rw[hk0]
   rw[hke]at hk P;refine⟨_,rfl,w.isSome,c5 (i:=1) hb,?_⟩;cases hw:w with
   |none=>
    refine ax.2 (P (Upd.refl _ _) fun v f=>?_)
    rcases f with⟨_,h⟩|h
    ·rw[hw]at h;cases h
    ·exact absurd rfl (mO hc h)
   |some u=>
    refine aj.2 (jK (S:=S) (Us:=Us) t hWo hb (by rw[hL.1];exact hn) (own2 (Upd.refl No h) (fun _ h=>h.elim) Us fun U B y d=>⟨.inl ⟨U,B,d⟩,L U B y d⟩) fun h1 G s1 A1 b1 hA1 hA1s T hU1 hu1=>?_)
    refine⟨_,rfl,M7 (i:=1) b1 (show 1<5 by decide),BD (i:=1) (c':=uM sl false val s1 o) b1 rfl fun h2 b2 hu2=>?_⟩
    refine⟨_,rfl,M7 (i:=2) b2 (show 2<5 by decide),BD (i:=2) (c':=uM sl false ⟨#[]⟩ s1 o) b2 rfl fun h3 b3 hu3=>?_⟩
    have hu13:=hu2.tr hu3;have z1:=hu1.size;have z3:=hu13.size;have u03:Upd (· =G) h h3:=hu1.wide.tr hu13
    obtain⟨rx,D⟩:=Ia (W:=W) (S:=S) (w:=none) (val:=⟨#[]⟩) (L':=F.toL) hW hno b3 rfl (hA1.upd hu13 fun y d=>(hA1s y d).2.1) (fun y d=>⟨(hA1s y d).1,(hA1s y d).2.1,by have:=(hA1s y d).2.2;omega⟩) T hU1 (fun U B y d=>⟨.inl (hUS U B y d),by have:=L U B y d;omega⟩) hPD fun D=>hL.move u03 L (fun y d=>by
     have d:y=G:=d
     subst d
     exact T.imp (fun h=>⟨C y h,fun U B hu=>(hU1 U B y hu).2 rfl⟩) id) fun y d=>d.elim .inl fun h=>(D y h).1.imp (C y) id
    rw[Fo.of_to]at rx;exact hk h3 G none F _ true (u03.mono fun y d=>by have d:y=G:=d;rw[d];exact T) rx D hc (Jg hc) (fun h=>by cases h) fun _=>⟨u,.inl ⟨rfl,hw⟩⟩
  ·have H:k.data.toList≠[]:=fun e=>hk0 (by cases k;exact congrArg jy (Array.toList_inj.1 e))
   obtain⟨c0,hc0,hc0e⟩:=B4 H;refine⟨c0,Int.le_refl _,hc0,?_⟩;have hlk:k.data.toList.length=k.size:=kN k;refine DH (hr.read t) hc (c:=c0.toNat) (UInt8.toNat_lt _) fun i ok hil hlo hhi hok=>?_
   rw[hc0e]at hlo hhi hok;cases ok with
   |false=>
    refine ax.2 (P (Upd.refl _ _) fun v f=>?_)
    rcases f with⟨h,_⟩|f
    ·exact H h
    ·obtain⟨n',hn',e,_⟩:=oO hc f
     obtain⟨j,p,rfl⟩:=List.getElem_of_mem hn';rcases bD j i with hl|hl
     ·have:=hlo j p hl;omega
     ·have h1:=hhi j p hl
      have h2:=hhi i (by omega) (al _);rcases bD i j with hl2|hl2
      ·have h3:=List.pairwise_iff_getElem.1 hcan.1 i j (by omega) p hl2
       omega
      ·have:i=j:=by omega
       subst this;have:=hok.2 ⟨p,e⟩;cases this
   |true=>
    obtain⟨hi,hie⟩:=hok.1 rfl;refine aj.2 ⟨_,rfl,s,c5 (i:=3) hb,?_⟩;have Y:i<ks.length:=by rw[hL.1];exact hi
    have hUi0:i<Us.length:=by rw[hL.2.1];exact hi
    obtain⟨kb,ksl,hke,hkl,O⟩:=hL.2.2 i _ _ _ (ag Y) (ag hi) (ag hUi0);have hki:ks[i]? =some (some ⟨kb,0,none⟩):=by rw[ag Y,hke]
    have hUie:Us[i]? =some Us[i]:=ag hUi0;have J:Us[i]∈Us:=aP hUi0;have hmem:F.toL[i]∈F.toL:=aP hi;have hcm:=hcan.2 _ hmem;obtain⟨a,ha,_,hvv⟩:=hs.at0 hki;have hslen:=hs.len;rw[hL.1]at hslen;have hlt1:(i:Int)<((s.len:Nat):Int):=by omega
    refine⟨⟨by simp only;omega,hlt1⟩,a,ha,some ⟨kb,0,none⟩,hvv,_,rfl,?_⟩;obtain⟨kval,kss,kow,kks,kUs,hkb,_⟩:=O.view;have hin_m:∀v,nu F k.data.toList v→qk F.toL[i] k.data.toList v:=fun v f=>by
     obtain⟨n',hn',e,hN⟩:=oO hc f;rw[←uY hc hn' hmem (by omega)];exact hN
    have N:∀j v,qk F.toL[i] j v→nu F j v:=fun j v f=>fc.2 ⟨_,hmem,f⟩
    have E:∀{m:Bn},HK m→hd m.1=hd F.toL[i].1→eH (.ofL (F.toL.set i m)):=fun h1 h2=>K2 hc hi h1 h2
    have hdset:∀{m:Bn},qX (qk F.toL[i]) (qk m) k.data.toList→qX (nu F) (nu (.ofL (F.toL.set i m))) k.data.toList:=fun hp=>L2 hc hi hie hp
    have hddel:(∀k' v',qk F.toL[i] k' v'→k'=k.data.toList)→qX (nu F) (nu (.ofL (F.toL.take i++F.toL.drop (i+1)))) k.data.toList:=fun hp=>L3 hc hi hie hp
    have q:∀y,Us[i] y→S y:=hUS _ J;have hUib:∀y,Us[i] y→y<h.size:=L _ J;have hUid:∀j U,j≠i→Us[j]? =some U→Dj Us[i] U:=fun j U p I=>hPD i j _ _ (Ne.symm p) hUie I
    have nUb:¬Us[i] b:=fun hu=>by
     rcases hown with⟨_,_,_,hS0⟩|⟨_,_,A,_,_,_,hUA⟩
     ·exact hS0 _ (q _ hu)
     ·exact(hUA _ J b hu).2 rfl
    generalize F.toL[i]=m at hkl O hcm hin_m N E hdset hddel hie;generalize Us[i]=Ui at O hUie J q hUib hUid nUb;obtain⟨lab,wk,Fk⟩:=m;simp only at hkl O hcm hie E;refine⟨ksl,c5 (i:=0) hkb,Q2 (fun rest x=>?_) fun hnr=>?_⟩
    ·rw[hkl]at x
     have hlne:lab.length≠0:=fun e=>hcm.1 (List.length_eq_zero_iff.1 e)
     have hrl:rest.size<k.size:=by
      rw[←kN rest,←hlk,x,ae];omega
     refine aj.2 ⟨_,rfl,s,c5 (i:=3) hb,⟨by simp only;omega,hlt1⟩,a,ha,some ⟨kb,0,none⟩,hvv,?_⟩;have hkbd:∀j v,nu Fk j v→j.length≤1000000:=fun j v f=>by
      have:=hbd _ v (N (lab++j) v ⟨j,rfl,.inr f⟩);rw[ae]at this;omega
     have tU:∀{M:Nat→Prop} {h':ad},Upd M h h'→(∀y,M y→Ui y)→By h' w' o:=fun ku hM=>t.upd ku fun b e d=>absurd (q _ (hM _ d)) (hwS _ e)
     refine ih (W:=W) (S:=Ui) rest (by omega) O t hW (fun y d=>C y (q y d)) hWo (fun a e d=>hwS a e (q _ d)) hcm.2.2 hkbd fun h2 b2 w2 F2 SV Q ku rn2 Z hc2 hd2 hg0 hg1=>?_
     have z02:=ku.size;cases Q with
     |false=>
      obtain⟨_,_,_,hu20,hnin⟩:=hg0 rfl;refine ax.2 (P hu20 fun v f=>?_)
      rcases f with⟨h,_⟩|f
      ·exact H h
      ·obtain⟨r',e,hr'⟩:=hin_m v f
       simp only at e;rw[x]at e;exact hnin v (by rw[List.append_cancel_left e];exact hr')
     |true=>
      obtain⟨v0,hv0⟩:=hg1 rfl;have hthere:∃v,oK w F k.data.toList v:=⟨v0,.inr (N _ _ ⟨_,x,hv0⟩)⟩;have hdn:qX (qk (lab,wk,Fk)) (qk (lab,w2,F2)) k.data.toList:=by
       rw[x];exact Ji hd2
      have hmem2:∀{V:Nat→Prop},∀U∈Us.set i V,U∈Us∨U=V:=fun U B=>List.mem_or_eq_of_mem_set B
      have hsetm:∀V:Nat→Prop,V∈Us.set i V:=fun V=>aF (i:=i) (by rw[eN,if_pos rfl,if_pos hUi0])
      refine aj.2 (jK (W:=W) (S:=S) (Us:=Us.set i SV) (tU ku fun _ h=>h) hWo (ku.get hb nUb) (by rw[hL.1];exact hn) (own2 ku (fun y d=>⟨q y d,_,J,d⟩) _ fun U B y d=>?_) fun h3 G s3 A3 b3 ho3 g T hU3 hu3=>?_)
      ·rcases hmem2 U B with h|rfl
       ·exact⟨.inl ⟨U,h,d⟩,by have:=L U h y d;omega⟩
       ·exact⟨(Z y d).1.imp (fun h=>⟨_,J,h⟩) id,(Z y d).2⟩
      have hUj:∀{j U},j≠i→Us[j]? =some U→U∈Us.set i SV:=fun{j U} p I=>aF (i:=j) (by rw[eN,if_neg (Ne.symm p)];exact I)
      have z23:=hu3.size;obtain⟨rr,vv,f⟩:=lL hc _ hmem;have hlb:lab.length≤1000000:=by
       have:=hbd _ v0 (N _ _ ⟨_,x,hv0⟩);rw[x,ae]at this;omega
      have hb2:∀j v,nu F2 j v→j.length≤1000000:=fun j v f=>by
       rcases((hd2 j v).1 (.inr f)).2 with⟨e,_⟩|h
       ·rw[e];simp
       ·exact hkbd j v h
      refine Ic (W:=fun y=>(W y∨SV y)∨(h2.size≤y∧y<h3.size)) (S:=SV) ((rn2.less (W':=fun y=>(W y∨SV y)∨(h2.size≤y∧y<h3.size)) fun y d=>d.imp id fun h=>h.1).upd0 hu3) ((tU ku fun _ h=>h).upd0 hu3) (fun y d=>?_) (fun y d=>.inl (.inr d)) (fun a e=>.inl (.inl (hWo a e))) hc2 (by rw[hkl];exact hcm.1) (by rw[←kN ksl,hkl];exact hlb) hb2 fun h4 r4 o4 S4 hu4 hm4 hr4 hS4=>?_
      ·rcases d with(h|h)|h
       ·have:=hW y h;omega
       ·have:=(Z y h).2;omega
       ·exact h.2
      rw[hkl]at hm4;have z34:=hu4.size;have b4:=hu4.get b3 fun h=>(hU3 SV (hsetm SV) _ h).2 rfl
      have ho4:=ho3.upd hu4 fun y d h=>(hU3 SV (hsetm SV) y h).1 d
      have hlen4:=ho4.len;have u04:Upd Ui h h4:=(ku.tr hu3.wide).trans hu4 fun y d=>(Z y d).1
      have z:∀y,A3 y→(S y∨h.size≤y)∧y≠G∧y<h4.size:=fun y d=>⟨(g y d).1.imp id fun h=>by omega,(g y d).2.1,by have:=(g y d).2.2;omega⟩
      have R:S G∨h.size≤G:=T.imp id fun h=>by omega
      have hS4':∀y,S4 y→(Ui y∨h.size≤y)∧y<h4.size:=fun y d=>⟨(hS4 y d).1.elim (fun h=>(Z y h).1) fun h=>.inr (by omega),(hS4 y d).2⟩
      have hS4A:∀y,S4 y→¬A3 y∧y≠G:=fun y d=>by
       rcases(hS4 y d).1 with h|h
       ·exact hU3 SV (hsetm SV) y h
       ·exact⟨fun ha=>by have:=(g y ha).2.2;omega,by have:=aD b3;omega⟩
      have oth:∀{h5:ad} {W':Nat→Prop} {j:Nat} {k':Option Addr} {n':Bn} {U:Nat→Prop},j≠i→ks[j]? =some k'→F.toL[j]? =some n'→Us[j]? =some U→Upd (fun y=>Ui y∨A3 y∨y=G) h h5→(∀y,W' y→W y∨h.size≤y)→KidO o W' h5 k' n' U:=fun{h5 W' j k' n' U} p ek en I ku5 hW'=>
       KidO.move ku5 (hL.2.2 j k' n' U ek en I) (L U (aF I)) (fun y d=>by
        rcases d with h|h|rfl
        ·exact .inl ⟨C y (q y h),hUid j U p I y h⟩
        ·exact(z y h).1.imp (fun hs=>⟨C y hs,fun hu=>(hU3 U (hUj p I) y hu).1 h⟩) id
        ·exact R.imp (fun hs=>⟨C _ hs,fun hu=>(hU3 U (hUj p I) _ hu).2 rfl⟩) id) hW'
      rcases hr4 with⟨rfl,rfl⟩|⟨m4,rfl,kid4⟩
      ·rcases hm4 with⟨_,hnone⟩|⟨_,e,_⟩
       ·have ew:IntKind.wrap .i64 ((i:Int)+1)=((i+1:Nat):Int):=by rw[nq (by omega)];omega
        refine ax.2 ⟨_,rfl,s3,c5 (i:=3) b4,?_⟩;simp only;rw[ew];refine Jk ho4 Y (by rw[hL.1];omega) fun s5 h5 ho5 X=>?_
        have b5:=X.get b4 fun hx=>(g _ hx).2.1 rfl
        refine⟨_,rfl,M7 (i:=3) b5 (show 3<5 by decide),BD (i:=3) (c':=uM sl w.isSome val s5 o) b5 rfl fun h6 b6 hu6=>?_⟩
        have z45:=X.size;have z56:=hu6.size;have u06:Upd (fun y=>Ui y∨A3 y∨y=G) h h6:=((u04.mono fun y d=>.inl (.inl d)).trans X fun y d=>.inl (.inr (.inl d))).trans hu6 fun y d=>.inl (.inr (.inr d))
        have hmd:∀U∈Us.take i++Us.drop (i+1),∃j,j≠i∧Us[j]? =some U:=fun U B=>by
         obtain⟨j,p⟩:=kE B;rw[←fR,ni]at p;split at p
         ·exact⟨j,by omega,p⟩
         ·exact⟨j+1,by omega,p⟩
        obtain⟨rx,D⟩:=Ia (W:=W) (S:=S) (Us':=Us.take i++Us.drop (i+1)) (L':=F.toL.take i++F.toL.drop (i+1)) hW hno b6 hv (ho5.upd hu6 fun y d=>(g y d).2.1) (fun y d=>⟨(z y d).1,(z y d).2.1,by have:=(z y d).2.2;omega⟩) R (fun U B y d=>by
         obtain⟨j,p,e⟩:=hmd U B
         exact hU3 U (hUj p e) y d) (fun U B y d=>by
         obtain⟨j,p,e⟩:=hmd U B
         have hm:=aF e
         exact⟨.inl (hUS U hm y d),by have:=L U hm y d;omega⟩) (QF hPD i) fun D=>by
          refine⟨by simp[hL.1],by simp[hL.2.1],fun j k' n' U ek en I=>?_⟩
          simp only[←fR,ni]at ek en I;have hw:∀y,(W y∨SR o G A3 (Us.take i++Us.drop (i+1)) y)→W y∨h.size≤y:=fun y d=>d.elim .inl fun h=>(D y h).1.imp (C y) id
          split at ek
          ·rename_i p
           rw[if_pos p]at en I;exact oth (by omega) ek en I u06 hw
          ·rename_i p
           rw[if_neg p]at en I;exact oth (by omega) ek en I u06 hw
        refine hk h6 G w _ _ true (u06.mono fun y d=>?_) rx D (PL hc) (Cd H (hddel fun k' v' hN=>Classical.byContradiction fun hne=>hnone k' v' ((hdn k' v').2 ⟨hne,hN⟩))) (fun h=>by cases h) fun _=>hthere
        rcases d with h|h|rfl
        ·exact .inl (q y h)
        ·exact(z y h).1
        ·exact R
       ·cases e
      ·rcases hm4 with⟨e,_⟩|⟨m',e,hcn,hhd,hiff⟩
       ·cases e
       ·cases e
        obtain⟨kb4,ksl4,rfl,hkl4,rn4⟩:=id kid4;obtain⟨a3,ha3,hab,hw3,ho5,X⟩:=OwnS.setAt ho4 Y (some ⟨kb4,0,none⟩);refine aj.2 ⟨_,rfl,s3,c5 (i:=3) b4,⟨by simp only;omega,by simp only;omega⟩,a3,ha3,?_⟩
        have hw1:Wr h4 (adr a3 (i*1)):=by
         rcases hw3 with hw|⟨G,T,hw⟩
         ·cases hw
         ·cases T;exact hw 0 (by simp)
        refine⟨hw1,bL ?_⟩;change K (some ⟨G,0,none⟩,true) (gD h4 (adr a3 (i*1)) 0 (kK (some ⟨kb4,0,none⟩)));have b5:=X.get b4 fun e=>by have e:G=a3.block:=e;exact(g _ hab).2.1 e.symm
        have z45:=X.size;have eset:ks.set i (some ⟨kb4,0,none⟩)=ks.take i++some ⟨kb4,0,none⟩::ks.drop (i+1):=by rw[List.set_eq_take_append_cons_drop,if_pos Y]
        rw[←eset]at ho5;generalize gD h4 (adr a3 (i*1)) 0 (kK (some ⟨kb4,0,none⟩))=h5 at*;have u05:Upd (fun y=>Ui y∨A3 y∨y=G) h h5:=(u04.mono fun y d=>.inl (.inl d)).trans X fun y d=>.inl (.inr (.inl (by have d:y=a3.block:=d;rw[d];exact hab)))
        have kid5:KidO o (fun y=>W y∨SR o G A3 (Us.set i S4) y) h5 (some ⟨kb4,0,none⟩) m4 S4:=by
         refine KidO.move X kid4 (fun y d=>(hS4 y d).2) (fun y d=>?_) fun y d=>?_
         ·have d:y=a3.block:=d
          rw[←d]at hab;refine .inl ⟨?_,fun h=>(hS4A y h).1 hab⟩
          rcases(g y hab).1 with h|h
          ·exact .inl (.inl (.inl (C y h)))
          ·exact .inl (.inr ⟨h,(g y hab).2.2⟩)
         ·have f:∀y,(S y∨h2.size≤y)→y<h3.size→(((W y∨SV y)∨(h2.size≤y∧y<h3.size))∨S4 y)∨h4.size≤y:=fun y d hl=>by
           rcases d with h|h
           ·exact .inl (.inl (.inl (.inl (C y h))))
           ·exact .inl (.inl (.inr ⟨h,hl⟩))
          rcases d with h|⟨_,rfl|h|⟨U,B,h⟩⟩
          ·exact .inl (.inl (.inl (.inl h)))
          ·exact f _ T (aD b3)
          ·exact f _ (g y h).1 (g y h).2.2
          ·rcases hmem2 U B with h2'|rfl
           ·exact .inl (.inl (.inl (.inl (C _ (hUS U h2' y h)))))
           ·exact .inl (.inr h)
        obtain⟨rx,D⟩:=Ia (W:=W) (S:=S) (Us':=Us.set i S4) (L':=F.toL.set i m4) hW hno b5 hv ho5 (fun y d=>⟨(z y d).1,(z y d).2.1,by have:=(z y d).2.2;omega⟩) R (fun U B y d=>by
         obtain⟨j,p⟩:=kE B
         rw[eN]at p
         split at p
         ·rename_i e
          cases p;exact hS4A y d
         ·rename_i e
          exact hU3 U (hUj (Ne.symm e) p) y d) (fun U B y d=>by
         rcases hmem2 U B with h|rfl
         ·exact⟨.inl (hUS U h y d),by have:=L U h y d;omega⟩
         ·exact⟨(hS4' y d).1.imp (q y) id,by have:=(hS4' y d).2;omega⟩) (Nn hPD fun j U p I y d hu=>by
          rcases(hS4' y d).1 with h|h
          ·exact hUid j U p I y h hu
          ·have:=L U (aF I) y hu;omega) fun D=>LsO.set hL.1 hL.2.1 (fun j k' n' U p ek en I=>oth p ek en I u05 fun y d=>d.elim .inl fun h=>(D y h).1.imp (C y) id) kid5
        refine hk h5 G w _ _ true (u05.mono fun y d=>?_) rx D (E hcn hhd) (Cd H (hdset fun k' v'=>by rw[hiff k' v'];exact hdn k' v')) (fun h=>by cases h) fun _=>hthere
        rcases d with h|h|rfl
        ·exact .inl (q y h)
        ·exact(z y h).1
        ·exact R
    ·rw[hkl]at hnr
     refine ax.2 (P (Upd.refl _ _) fun v f=>?_)
     rcases f with⟨h,_⟩|f
     ·exact H h
     ·obtain⟨r',e,_⟩:=hin_m v f
      exact hnr r' e
end Go.Proofs
namespace Go.Proofs
open Go.Lift
theorem NodeO.upd0{o:Option Addr}{W S:Nat→Prop}{h a:ad}{b:Nat}{s:Slots}(c:NodeO o W h b s S)(k:Upd No h a):NodeO o W a b s S:=
 c.imp (fun n=>⟨n.1.upd k fun _ h=>h.elim,n.2⟩) fun⟨e,d,n,sp,sk,f⟩=>⟨e,d,n,sp,sk,f.upd k fun _ h=>h.elim⟩
theorem NodeO.read{o w:Option Addr}{W S:Nat→Prop}{h:ad}{b:Nat}{s:Slots}(c:NodeO o W h b s S)(t:By h w o):NodeAt No h b s:=by
 rcases c with⟨n,_⟩|⟨e,d,n,sp,sk,f⟩
 ·exact n.less fun _ h=>h.elim
 ·exact f.node (fun _ _ h=>h) fun a e=>⟨id,t.plain a (t.tok e)⟩
set_option maxHeartbeats 1000000 in
theorem oq{W S:Nat→Prop}{h:ad}{w o:Option Addr}{b:Nat}{s:Slots}(nd:NodeO o W h b s S)(t:By h w o)(hW:∀a,o=some a→W a.block)(hS:∀y,S y→y<h.size){i:Nat}(hi:i<32)(hx:∀y,s.p i=some y→s.k i=none)(p:Pr){K:Option Addr→ad→Prop}
  (hk:∀h' b' d n sp sk,OwnN (fun y=>S y∨h.size≤y) h' b' d n sp sk ⟨upd s.p i (some p),upd s.k i none⟩ o→Upd S h h'→K (some ⟨b',0,none⟩) h'):
  HC PG eI [.pointer (some ⟨b,0,none⟩),.pointer w,.int .i64 i,.agg #[.string p.1,.string p.2]] [.c .ptr] K h:=by
 refine vn _ w i p ?_;unfold pi dz az bG jO cL tG tc HW jP gm l4;have k1:=Upd.hnew No h [.string p.1,.string p.2] ay;have b1:=cJ h [.string p.1,.string p.2] ay;refine bL ?_;simp only[fy h];generalize hnew h [.string p.1,.string p.2] ay=h1 at k1 b1;have z1:=aD b1;have T:=nd.upd0 k1;have t1:=t.upd0 k1
 refine B1 (T.read t1) hi (aj.2 ?_);refine E3 T t1 hW fun h2 F d n sp sk v I=>?_
 have bits:=v.bits;have P:∀{x},(S x∨h1.size≤x)→(S x∨h.size≤x):=fun h=>h.imp id fun h=>by omega
 have z2:=I.size;have zb:=aD v.blk;obtain⟨A,B,hA,hB,q,L⟩:=v.ex;have H:=k1.tr I;have z:=I.get0 b1;refine⟨_,rfl,_,dD (i:=0) v.blk,y5 bits.d32 hi ?_⟩;rw[bits.dp i hi];cases hp:s.p i with
 |some y=>
  refine ax.2 ⟨_,rfl,sp,dD (i:=2) v.blk,_,rfl,_,dD (i:=0) v.blk,p.1,by rw[bF,aY z];rfl,p.2,by rw[bF,aY z];rfl,?_⟩
  refine nZ bits.d32 hi ⟨⟨by rw[bF,aY z];rfl,by rw[bF,aY z];rfl⟩,dD (i:=2) v.blk,?_⟩
  have hlt:=Ef hi bits.dp hp;obtain⟨a,ha,M,hw,ho3,m⟩:=OwnS.setAt hA hlt p;have hlen:=hA.len;refine⟨by omega,a,ha,?_⟩;rw[aE];refine⟨hw,bL ?_⟩;rw[←NG hi bits.dp hp]at ho3;have ob:=m.get v.blk fun e=>(q _ M).2.2.1 e.symm
  have z3:=m.size;have o3:OwnN (fun x=>S x∨h1.size≤x) _ F d n sp sk ⟨upd s.p i (some p),upd s.k i none⟩ o:=⟨ob,⟨bits.d32,bits.n32,fun c hc=>by
    rw[bits.dp c hc];simp only[upd];split
    ·rename_i e;rw[e,hp];rfl
    ·rfl,fun c hc=>by rw[bits.nk c hc,rD (hx y hp)]⟩,
   ⟨A,B,ho3,by rw[rD (hx y hp)];exact hB.upd m fun x hx e=>(q _ M).2.1 (e▸hx),fun x hx=>⟨(q x hx).1,(q x hx).2.1,(q x hx).2.2.1,by have:=(q x hx).2.2.2;omega⟩,fun x hx=>⟨(L x hx).1,(L x hx).2.1,by have:=(L x hx).2.2;omega⟩⟩,v.mb⟩
  refine hk _ _ _ _ _ _ (o3.mono fun _=>P) (H.wide.trans m fun x hx=>?_)
  have hx:x=a.block:=hx;rw[hx];exact P (q _ M).1
 |none=>
  refine aj.2 ⟨_,rfl,Fs v hi fun G d3 n3 C N o3 m=>?_⟩
  have f:=o3.bits;obtain⟨A3,B3,hA3,hB3,j,k⟩:=o3.ex;have z3:=m.size;have E:=m.get z fun e=>e.elim (fun e=>by have:=hS _ e;omega) fun e=>by omega
  have Y:Upd S h G:=H.wide.trans m fun x hx=>P hx
  refine⟨_,rfl,C,dD (i:=2) o3.blk,_,rfl,_,dD (i:=0) o3.blk,p.1,by rw[bF,aY E];rfl,p.2,by rw[bF,aY E];rfl,?_⟩
  have U:=Upd.hnew No G [.string p.1,.string p.2] ay;have b4:=cJ G [.string p.1,.string p.2] ay;have z4:=jM G [.string p.1,.string p.2] ay;have O:=o3.upd U fun _ h=>h.elim
  have fin:HC PG cE [.slice C.a C.len C.cap,.int .i64 (r8 i d3),.slice (some (aA G)) 1 1] [.c .slice] (fun(J:SliceV) Z=>
       ∃a34:Addr,some (⟨F,0,none⟩:Addr)=some a34∧
       (Wr Z (adr (adr a34 0) 2)∧
        At (hset Z (adr (adr a34 0) 2) (.slice J.a J.len J.cap)) (fun R=>
         ∃a36:Addr,some (⟨F,0,none⟩:Addr)=some a36∧
         ∃v37:Int,aK R (adr (adr a36 0) 0)=some (.int .u32 v37)∧
         HC PG eL [.int .u32 v37,.int .i64 i] [.c (.int .u32)] (fun(e38:Int) X=>
          ∃a40:Addr,some (⟨F,0,none⟩:Addr)=some a40∧
          (Wr X (adr (adr a40 0) 0)∧
           At (hset X (adr (adr a40 0) 0) (.int .u32 e38)) (fun h41=>
            K (some ⟨F,0,none⟩) h41))) R))) (hnew G [.string p.1,.string p.2] ay):=by
   generalize hnew G [.string p.1,.string p.2] ay=h4 at U b4 z4 O;rw[fy G];have hA4:=(hA3.upd U fun _ _ h=>h).more (M':=fun x=>A3 x∨h4.size≤x) fun x hx=>.inl hx
   have hpn:(⟨upd s.p i none,upd s.k i none⟩:Slots).p i=none:=fU;refine IX hA4 (P6 hi f.dp) (by have:=uc (g:=(⟨upd s.p i none,upd s.k i none⟩:Slots).p);omega) (x:=p) b4 (fun e=>e.elim (fun e=>by have:=(j _ e).2.2.2;omega) fun e=>by omega) (fun x hx=>.inr hx) fun s5 h5 Q D=>?_
   rw[←NH hi f.dp hpn p]at Q;have hbl:F<G.size:=aD o3.blk;have b5:=D.get O.blk fun e=>e.elim (fun e=>(j _ e).2.2.1 rfl) fun e=>by omega
   refine⟨_,rfl,OQ (i:=2) b5 (show 2<6 by decide),C4 (i:=2) (c':=ff d3 n3 s5 N false o) b5 rfl fun h6 b6 hu6=>?_⟩
   refine⟨_,rfl,_,dD (i:=0) b6,Kf f.d32 hi fun w1 hw hwt=>?_⟩
   refine⟨_,rfl,OQ (i:=0) b6 (show 0<6 by decide),C4 (i:=0) (c':=ff w1 n3 s5 N false o) b6 rfl fun h7 b7 hu7=>?_⟩
   have u:=hu6.tr hu7;have z5:=D.size;have z7:=u.size;have V:=Q.within;have e1:(⟨upd (⟨upd s.p i none,upd s.k i none⟩:Slots).p i (some p),upd s.k i none⟩:Slots)=⟨upd s.p i (some p),upd s.k i none⟩:=by rw[Kh]
   have o7:OwnN (fun x=>S x∨h1.size≤x) h7 F w1 n3 s5 N ⟨upd s.p i (some p),upd s.k i none⟩ o:=by
    rw[←e1];refine⟨b7,⟨hw,f.n32,fun c hc=>?_,f.nk⟩,⟨fun x=>(A3 x∨h4.size≤x)∧x<h5.size,B3,V.upd u fun x hx e=>?_,((hB3.upd U fun _ _ h=>h).upd D fun x hx e=>?_).upd u fun x hx e=>(k x hx).2.1 e,fun x hx=>⟨?_,?_,?_,by omega⟩,fun x hx=>⟨(k x hx).1,(k x hx).2.1,by have:=(k x hx).2.2;omega⟩⟩,v.mb⟩
    ·rw[hwt,f.dp c hc];simp only[upd];split<;>simp[*]
    ·have e:x=F:=e
     rcases hx.1 with h|h
     ·exact(j x h).2.2.1 e
     ·omega
    ·rcases e with e|e
     ·exact(j x e).2.1 hx
     ·have:=(k x hx).2.2;omega
    ·rcases hx.1 with h|h
     ·exact(j x h).1
     ·exact .inr (by omega)
    ·rcases hx.1 with h|h
     ·exact(j x h).2.1
     ·exact fun hb=>by have:=(k x hb).2.2;omega
    ·rcases hx.1 with h|h
     ·exact(j x h).2.2.1
     ·omega
   refine hk _ _ _ _ _ _ (o7.mono fun _=>P) (((Y.tr U.wide).trans D fun x hx=>?_).trans u fun x hx=>?_)
   ·rcases hx with h|h
    ·exact P (j x h).1
    ·exact .inr (by omega)
   ·have hx:x=F:=hx
    rw[hx];exact P v.mb
  refine⟨nZ f.d32 hi ⟨⟨by rw[bF,aY E];rfl,by rw[bF,aY E];rfl⟩,dD (i:=2) o3.blk,bL ⟨dD (i:=2) O.blk,fin⟩⟩,bL ⟨dD (i:=0) O.blk,dD (i:=2) O.blk,nZ f.d32 hi ⟨dD (i:=2) O.blk,fin⟩⟩⟩
theorem L8{W S:Nat→Prop}{h:ad}{w o:Option Addr}{b:Nat}{s:Slots}(f:NodeO o W h b s S)(t:By h w o)(j:∀a,o=some a→W a.block){i:Nat}(hi:i<32){K:Option Addr→ad→Prop}
  (g:∀h' b' d n sp sk,OwnN (fun y=>S y∨h.size≤y) h' b' d n sp sk ⟨upd s.p i none,upd s.k i none⟩ o→Upd S h h'→K (some ⟨b',0,none⟩) h'):
  HC PG jX [.pointer (some ⟨b,0,none⟩),.pointer w,.int .i64 i] [.c .ptr] K h:=by
 refine yl _ w i ?_;unfold qS tc jP;refine B1 (f.read t) hi (aj.2 ?_);refine E3 f t j fun z q d n sp sk k e=>⟨_,rfl,Fs k hi fun u A v m p o3 c=>?_⟩
 exact g _ _ _ _ _ _ o3 (e.wide.trans c fun x hx=>hx)
set_option maxHeartbeats 1000000 in
theorem si{W S:Nat→Prop}{h:ad}{w o:Option Addr}{b:Nat}{s:Slots}(nd:NodeO o W h b s S)(t:By h w o)(hW:∀a,o=some a→W a.block){i:Nat}(hi:i<32)(hx:∀y,s.k i=some y→s.p i=none)(kid:Addr){K:Option Addr→ad→Prop}
  (hk:∀h' b' d n sp sk,OwnN (fun y=>S y∨h.size≤y) h' b' d n sp sk ⟨upd s.p i none,upd s.k i (some (some kid))⟩ o→Upd S h h'→K (some ⟨b',0,none⟩) h'):
  HC PG f7 [.pointer (some ⟨b,0,none⟩),.pointer w,.int .i64 i,.pointer (some kid)] [.c .ptr] K h:=by
 refine wV _ w i (some kid) ?_;unfold p8 dz bG cL tc jP EG gm l4;refine aj.2 ?_;refine B1 (nd.read t) hi (aj.2 ?_);refine E3 nd t hW fun h2 C d n sp sk q F=>?_
 have bits:=q.bits;have z2:=F.size;have zb:=aD q.blk;obtain⟨A,B,hA,hB,v,u⟩:=q.ex;refine⟨_,rfl,_,dD (i:=1) q.blk,y5 bits.n32 hi ?_⟩;rw[bits.nk i hi];cases hp:s.k i with
 |some y=>
  refine ax.2 ⟨_,rfl,sk,dD (i:=3) q.blk,_,rfl,_,dD (i:=1) q.blk,?_⟩;refine nZ bits.n32 hi ⟨dD (i:=3) q.blk,?_⟩;have hlt:=Ef hi bits.nk hp;obtain⟨a,ha,I,J,U,m⟩:=OwnS.setAt hB hlt (some kid);have hlen:=hB.len;refine⟨by omega,a,ha,?_⟩;rw[aE];have hw1:Wr h2 (adr a (r8 i n*1)):=by
   rcases J with J|⟨b',hb',J⟩
   ·cases J
   ·cases hb';exact J 0 (by simp)
  refine⟨hw1,bL ?_⟩;rw[←NG hi bits.nk hp]at U;have ob:=m.get q.blk fun e=>(u _ I).2.1 e.symm
  have z3:=m.size;have o3:OwnN (fun x=>S x∨h.size≤x) _ C d n sp sk ⟨upd s.p i none,upd s.k i (some (some kid))⟩ o:=⟨ob,⟨bits.d32,bits.n32,fun c hc=>by rw[bits.dp c hc,rD (hx y hp)],fun c hc=>by
    rw[bits.nk c hc];simp only[upd];split
    ·rename_i e;rw[e,hp];rfl
    ·rfl⟩,
   ⟨A,B,by rw[rD (hx y hp)];exact hA.upd m fun x hx e=>(v _ hx).2.1 (e▸I),U,fun x hx=>⟨(v x hx).1,(v x hx).2.1,(v x hx).2.2.1,by have:=(v x hx).2.2.2;omega⟩,fun x hx=>⟨(u x hx).1,(u x hx).2.1,by have:=(u x hx).2.2;omega⟩⟩,q.mb⟩
  refine hk _ _ _ _ _ _ o3 (F.wide.trans m fun x hx=>?_)
  have hx:x=a.block:=hx;rw[hx];exact(u _ I).1
 |none=>
  refine aj.2 ⟨_,rfl,Fs q hi fun D d3 n3 H E o3 m=>?_⟩
  have f:=o3.bits;obtain⟨A3,B3,hA3,hB3,j,k⟩:=o3.ex;have z3:=m.size;have T:Upd S h D:=F.wide.trans m fun x hx=>hx
  refine⟨_,rfl,E,dD (i:=3) o3.blk,_,rfl,_,dD (i:=1) o3.blk,?_⟩;have O:=Upd.hnew No D [.pointer (some kid)] bA;have b4:=cJ D [.pointer (some kid)] bA;have z4:=jM D [.pointer (some kid)] bA;have L:=o3.upd O fun _ h=>h.elim
  have fin:HC PG cp [.slice E.a E.len E.cap,.int .i64 (r8 i n3),.slice (some (aA D)) 1 1] [.c .slice] (fun(G:SliceV) R=>
       ∃a34:Addr,some (⟨C,0,none⟩:Addr)=some a34∧
       (Wr R (adr (adr a34 0) 3)∧
        At (hset R (adr (adr a34 0) 3) (.slice G.a G.len G.cap)) (fun N=>
         ∃a36:Addr,some (⟨C,0,none⟩:Addr)=some a36∧
         ∃v37:Int,aK N (adr (adr a36 0) 1)=some (.int .u32 v37)∧
         HC PG eL [.int .u32 v37,.int .i64 i] [.c (.int .u32)] (fun(Y:Int) Q=>
          ∃a40:Addr,some (⟨C,0,none⟩:Addr)=some a40∧
          (Wr Q (adr (adr a40 0) 1)∧
           At (hset Q (adr (adr a40 0) 1) (.int .u32 Y)) (fun h41=>
            K (some ⟨C,0,none⟩) h41))) N))) (hnew D [.pointer (some kid)] bA):=by
   generalize hnew D [.pointer (some kid)] bA=h4 at O b4 z4 L;rw[fy D];have hB4:=(hB3.upd O fun _ _ h=>h).more (M':=fun x=>B3 x∨h4.size≤x) fun x hx=>.inl hx
   have Z:(⟨upd s.p i none,upd s.k i none⟩:Slots).k i=none:=fU;refine IY hB4 (P6 hi f.nk) (by have:=uc (g:=(⟨upd s.p i none,upd s.k i none⟩:Slots).k);omega) (x:=some kid) b4 (fun e=>e.elim (fun e=>by have:=(k _ e).2.2;omega) fun e=>by omega) (fun x hx=>.inr hx) fun V h5 M z=>?_
   rw[←NH hi f.nk Z (some kid)]at M;have hbl:C<D.size:=aD o3.blk;have b5:=z.get L.blk fun e=>e.elim (fun e=>(k _ e).2.1 rfl) fun e=>by omega
   refine⟨_,rfl,OQ (i:=3) b5 (show 3<6 by decide),C4 (i:=3) (c':=ff d3 n3 H V false o) b5 rfl fun h6 b6 X=>?_⟩
   refine⟨_,rfl,_,dD (i:=1) b6,Kf f.n32 hi fun w1 J hwt=>?_⟩
   refine⟨_,rfl,OQ (i:=1) b6 (show 1<6 by decide),C4 (i:=1) (c':=ff d3 w1 H V false o) b6 rfl fun h7 b7 hu7=>?_⟩
   have p:=X.tr hu7;have z5:=z.size;have z7:=p.size;have P:=M.within;have e1:(⟨upd s.p i none,upd (⟨upd s.p i none,upd s.k i none⟩:Slots).k i (some (some kid))⟩:Slots)=⟨upd s.p i none,upd s.k i (some (some kid))⟩:=by rw[Kh]
   have o7:OwnN (fun x=>S x∨h.size≤x) h7 C d3 w1 H V ⟨upd s.p i none,upd s.k i (some (some kid))⟩ o:=by
    rw[←e1];refine⟨b7,⟨f.d32,J,f.dp,fun c hc=>?_⟩,⟨A3,fun x=>(B3 x∨h4.size≤x)∧x<h5.size,((hA3.upd O fun _ _ h=>h).upd z fun x hx e=>?_).upd p fun x hx e=>(j x hx).2.2.1 e,P.upd p fun x hx e=>?_,fun x hx=>⟨(j x hx).1,?_,(j x hx).2.2.1,by have:=(j x hx).2.2.2;omega⟩,fun x hx=>⟨?_,?_,by omega⟩⟩,q.mb⟩
    ·rw[hwt,f.nk c hc];simp only[upd];split<;>simp[*]
    ·rcases e with e|e
     ·exact(j x hx).2.1 e
     ·have:=(j x hx).2.2.2;omega
    ·have e:x=C:=e
     rcases hx.1 with h|h
     ·exact(k x h).2.1 e
     ·omega
    ·rintro⟨h|h,_⟩
     ·exact(j x hx).2.1 h
     ·have:=(j x hx).2.2.2;omega
    ·rcases hx.1 with h|h
     ·exact(k x h).1
     ·exact .inr (by omega)
    ·rcases hx.1 with h|h
     ·exact(k x h).2.1
     ·omega
   refine hk _ _ _ _ _ _ o7 (((T.tr O.wide).trans z fun x hx=>?_).trans p fun x hx=>?_)
   ·rcases hx with h|h
    ·exact(k x h).1
    ·exact .inr (by omega)
   ·have hx:x=C:=hx
    rw[hx];exact q.mb
  refine⟨nZ f.n32 hi ⟨dD (i:=3) o3.blk,bL ⟨dD (i:=3) L.blk,fin⟩⟩,bL ⟨dD (i:=1) L.blk,dD (i:=3) L.blk,nZ f.n32 hi ⟨dD (i:=3) L.blk,fin⟩⟩⟩
end Go.Proofs
namespace Go.Proofs
open Go.Lift
def OwnB(M:Nat→Prop)(h:ad)(b:Nat)(sp sk:SliceV)(l:List Pr)(o:Option Addr):Prop:=
 h[b]? =some (.cells (ff 0 0 sp sk true o) bE (0,0))∧M b∧∃A B:Nat→Prop,OwnS gC 2 ay A h sp l∧OwnS oJ 1 bA B h sk []∧(∀x,A x→M x∧x≠b∧x<h.size)∧(∀x,B x→M x∧x≠b∧x<h.size)
theorem OwnB.upd{M M':Nat→Prop}{h e:ad}{b:Nat}{sp sk:SliceV}{l:List Pr}{o:Option Addr}(n:OwnB M h b sp sk l o)(k:Upd M' h e)(hm:∀x,M' x→¬M x):OwnB M e b sp sk l o:=by
 obtain⟨i,f,A,B,j,g,a,c⟩:=n;have z:=k.size;exact⟨k.get i fun hx=>hm _ hx f,f,A,B,j.upd k fun x hx d=>hm _ d (a x hx).1,g.upd k fun x hx d=>hm _ d (c x hx).1,fun x hx=>⟨(a x hx).1,(a x hx).2.1,by have:=(a x hx).2.2;omega⟩,fun x hx=>⟨(c x hx).1,(c x hx).2.1,by have:=(c x hx).2.2;omega⟩⟩
theorem OwnB.mono{M M':Nat→Prop}{h:ad}{b:Nat}{sp sk:SliceV}{l:List Pr}{o:Option Addr}(n:OwnB M h b sp sk l o)(hm:∀x,M x→M' x):OwnB M' h b sp sk l o:=by
 obtain⟨e,f,A,B,g,d,a,c⟩:=n;exact⟨e,hm _ f,A,B,g,d,fun x hx=>⟨hm _ (a x hx).1,(a x hx).2⟩,fun x hx=>⟨hm _ (c x hx).1,(c x hx).2⟩⟩
theorem OwnB.within{M:Nat→Prop}{h:ad}{b:Nat}{sp sk:SliceV}{l:List Pr}{o:Option Addr}(n:OwnB M h b sp sk l o):OwnB (fun x=>M x∧x<h.size) h b sp sk l o:=by
 obtain⟨d,f,A,B,g,e,a,c⟩:=n;exact⟨d,⟨f,aD d⟩,A,B,g,e,fun x hx=>⟨⟨(a x hx).1,(a x hx).2.2⟩,(a x hx).2⟩,fun x hx=>⟨⟨(c x hx).1,(c x hx).2.2⟩,(c x hx).2⟩⟩
theorem OwnB.buck{M W:Nat→Prop}{h:ad}{b:Nat}{sp sk:SliceV}{l:List Pr}{o:Option Addr}(n:OwnB M h b sp sk l o)(a:∀x,M x→¬W x)(f:OwOk W h o):BuckAt W h b l:=by
 obtain⟨e,j,A,B,d,c,g,i⟩:=n;exact⟨⟨sp,sk,o,e,d.sl fun x hx _=>a _ (g x hx).1,c.sl fun x hx _=>a _ (i x hx).1,d.cap,c.cap,f⟩,a _ j⟩
def BuckO(o:Option Addr)(W:Nat→Prop)(h:ad)(b:Nat)(l:List Pr)(S:Nat→Prop):Prop:=
 (BuckAt W h b l∧∀y,¬S y)∨(o.isSome=true∧∃sp sk,OwnB S h b sp sk l o)
theorem BuckO.upd0{o:Option Addr}{W S:Nat→Prop}{h a:ad}{b:Nat}{l:List Pr}(n:BuckO o W h b l S)(k:Upd No h a):BuckO o W a b l S:=
 n.imp (fun n=>⟨n.1.upd k fun _ h=>h.elim,n.2⟩) fun⟨e,sp,sk,c⟩=>⟨e,sp,sk,c.upd k fun _ h=>h.elim⟩
theorem BuckO.read{o w:Option Addr}{W S:Nat→Prop}{h:ad}{b:Nat}{l:List Pr}(c:BuckO o W h b l S)(t:By h w o):BuckAt No h b l:=by
 rcases c with⟨n,_⟩|⟨e,sp,sk,d⟩
 ·exact n.less fun _ h=>h.elim
 ·exact d.buck (fun _ _ h=>h) fun a e=>⟨id,t.plain a (t.tok e)⟩
theorem GO{W S:Nat→Prop}{h:ad}{w o:Option Addr}{b:Nat}{l:List Pr}(g:BuckO o W h b l S)(t:By h w o)(F:∀a,o=some a→W a.block)(G:l.length≤1000000000){K:Option Addr→ad→Prop}
  (z:∀j m sp sk,OwnB (fun y=>S y∨h.size≤y) j m sp sk l o→Upd No h j→K (some ⟨m,0,none⟩) j):
  HC PG ey [.pointer (some ⟨b,0,none⟩),.pointer w] [.c .ptr] K h:=by
 rcases g with⟨g,_⟩|⟨v,sp,sk,g⟩
 ·obtain⟨sp,sk,ow,E,s,q,I,H,i⟩:=g.ex
  refine Kz (d:=0) (n:=0) t E (fun a e=>(i a e).2) ?_ s q G (by simp) fun j u p A B m J D c f k=>?_
  ·cases ho:o with
   |none=>rfl
   |some a=>
    have e:=t.tok ho;rw[Option.isSome_some,Bool.true_and,beq_eq_false_iff_ne];intro C;rw[e]at C;exact(i a C).1 (F a ho)
  ·exact z j h.size u p ⟨m,.inr (al _),A,B,J,D,fun x hx=>⟨.inr (by have:=(c x hx).1;omega),by have:=(c x hx).1;omega,(c x hx).2.2⟩,fun x hx=>⟨.inr (by have:=(f x hx).1;omega),by have:=(f x hx).1;omega,(f x hx).2⟩⟩ k
 ·refine Ky (d:=0) (n:=0) t g.1 (fun a e=>t.plain a (t.tok e)) ?_ (z h b sp sk (g.mono fun _ h=>.inl h) (Upd.refl _ _))
  obtain⟨a,e⟩:=Option.isSome_iff_exists.1 v;rw[v,e,t.tok e];simp
theorem Cp{W S:Nat→Prop}{h:ad}{w o:Option Addr}{b:Nat}{l:List Pr}(X:BuckO o W h b l S)(t:By h w o)(J:∀a,o=some a→W a.block)(hS:∀y,S y→y<h.size)(z:cB l)(v:l.length≤1000000000)(p:Pr){K:Option Addr→ad→Prop}
  (L:∀h' b' sp sk,OwnB (fun y=>S y∨h.size≤y) h' b' sp sk (gG p l) o→Upd S h h'→K (some ⟨b',0,none⟩) h'):
  HC PG jB [.pointer (some ⟨b,0,none⟩),.pointer w,.agg #[.string p.1,.string p.2]] [.c .ptr] K h:=by
 refine AH _ w p ?_;unfold tB az bG rC cL tG tc;have k1:=Upd.hnew No h [.string p.1,.string p.2] ay;have b1:=cJ h [.string p.1,.string p.2] ay;refine bL ?_;simp only[fy h];generalize hnew h [.string p.1,.string p.2] ay=h1 at k1 b1;have Z:=aD b1;have q:=X.upd0 k1;have D:=t.upd0 k1;obtain⟨sp,sk,ow,I,Q,N,T,M⟩:=(q.read D).ex
 refine gL (d:=0) (n:=0) I (aj.2 ?_);refine GO q D J v fun V u H F O j=>?_
 obtain⟨b2,hM,A,B,E,G,ha,f⟩:=O;have k:=j.get0 b1;refine⟨_,rfl,H,dD (i:=2) b2,p.1,by rw[bF,aY k];rfl,p.2,by rw[bF,aY k];rfl,?_⟩
 refine IC (E.sl (W:=No) fun _ _ _ h=>h) E.cap z v p fun C U m g=>?_
 rw[KH p z]at m;have b3:=g.get0 b2;refine⟨_,rfl,OQ (i:=2) b3 (show 2<6 by decide),C4 (i:=2) (c':=ff 0 0 C F true o) b3 rfl fun P Y c=>?_⟩
 have z2:=aD b2;have R:=j.size;have z3:=g.size;have z4:=c.size;have s:∀{x},(S x∨h1.size≤x)→(S x∨h.size≤x):=fun h=>h.imp id fun h=>by omega
 refine L P u C F ⟨Y,s hM,fun x=>V.size≤x∧x<U.size,B,m.within.upd c fun x hx e=>?_,(G.upd g fun _ _ h=>h).upd c fun x hx e=>(f x hx).2.1 e,fun x hx=>⟨.inr (by omega),by omega,by omega⟩,fun x hx=>⟨s (f x hx).1,(f x hx).2.1,by have:=(f x hx).2.2;omega⟩⟩ ((((k1.tr j).tr g).wide).trans c fun x hx=>?_)
 ·have e:x=u:=e
  have:=hx.1;omega
 ·have hx:x=u:=hx
  rw[hx];exact s hM
def TrieO(o:Option Addr)(W:Nat→Prop)(x:Hs)(h:ad):Nat→Nat→List Pr→(Nat→Prop)→Prop
 |0,b,l,S=>BuckO o W h b l S
 |m+1,b,l,S=>(TrieAt W x h (m+1) b l∧∀y,¬S y)∨(o.isSome=true∧∃(s:Slots) (d n:Nat) (sp sk:SliceV) (S0:Nat→Prop) (T:Nat→Nat→Prop),OwnN S0 h b d n sp sk s o∧(∀y,S0 y→S y)∧(∀c y,T c y→S y∧¬S0 y)∧(∀c c' y,T c y→T c' y→c=c')∧∀c,c<32→
  ((part x (12-m) c l= []∧s.p c=none∧s.k c=none∧∀y,¬T c y)∨(∃p,part x (12-m) c l= [p]∧s.p c=some p∧s.k c=none∧∀y,¬T c y)∨
   (2≤(part x (12-m) c l).length∧s.p c=none∧∃kb,s.k c=some (some ⟨kb,0,none⟩)∧TrieO o W x h m kb (part x (12-m) c l) (T c))))
def SlotO(o:Option Addr)(W:Nat→Prop)(x:Hs)(h:ad)(m:Nat)(s:Slots)(c:Nat)(l:List Pr)(T:Nat→Prop):Prop:=
 (l= []∧s.p c=none∧s.k c=none∧∀y,¬T y)∨(∃p,l= [p]∧s.p c=some p∧s.k c=none∧∀y,¬T y)∨(2≤l.length∧s.p c=none∧∃kb,s.k c=some (some ⟨kb,0,none⟩)∧TrieO o W x h m kb l T)
theorem Gi{o:Option Addr}{W:Nat→Prop}{x:Hs}{h:ad}:∀{m b:Nat} {l:List Pr},TrieAt W x h m b l→TrieO o W x h m b l No
 |0,_,_,t=>.inl ⟨t,fun _ h=>h⟩
 |_+1,_,_,t=>.inl ⟨t,fun _ h=>h⟩
theorem TrieO.freeze{o:Option Addr}{W W':Nat→Prop}{x:Hs}{h:ad}(i:∀y,W' y→W y)(g:OwOk W' h o):∀{m b:Nat} {l:List Pr} {S:Nat→Prop},TrieO o W x h m b l S→(∀y,S y→¬W' y)→TrieAt W' x h m b l
 |0,_,_,_,t,hS=>t.elim (fun t=>t.1.less fun y a=>.inl (i y a)) fun⟨_,_,_,t⟩=>t.buck hS g
 |m+1,b,l,S,t,hS=>by
  rcases t with⟨t,_⟩|⟨_,s,d,n,sp,sk,A,T,u,v,z,_,hc⟩
  ·exact TrieAt.less (fun y a=>.inl (i y a)) t
  ·exact⟨s,u.node (fun y a=>hS y (v y a)) g,fun c f=>(hc c f).imp (fun h=>⟨h.1,h.2.1,h.2.2.1⟩) fun o=>o.imp (fun⟨p,e,k,j,_⟩=>⟨p,e,k,j⟩) fun⟨e,k,q,j,w⟩=>⟨e,k,q,j,TrieO.freeze i g w fun y a=>hS y (z c y a).1⟩⟩
theorem TrieO.read{o w:Option Addr}{W S:Nat→Prop}{x:Hs}{h:ad}{m b:Nat}{l:List Pr}(t:TrieO o W x h m b l S)(by_:By h w o):TrieAt No x h m b l:=
 TrieO.freeze (fun _ h=>h.elim) (fun a e=>⟨id,by_.plain a (by_.tok e)⟩) t fun _ _ h=>h
theorem TrieO.off{W S:Nat→Prop}{x:Hs}{h:ad}{m b:Nat}{l:List Pr}(t:TrieO none W x h m b l S):TrieAt W x h m b l∧∀y,¬S y:=by
 cases m with
 |zero=>exact t.elim id fun h=>absurd h.1 (by simp)
 |succ m=>exact t.elim id fun h=>absurd h.1 (by simp)
theorem TrieO.upd{o:Option Addr}{W M:Nat→Prop}{x:Hs}{h p:ad}(k:Upd M h p):∀{m b:Nat} {l:List Pr} {S:Nat→Prop},TrieO o W x h m b l S→(∀y,S y→y<h.size)→(∀y,M y→(W y∧¬S y)∨h.size≤y)→TrieO o W x p m b l S
 |0,_,_,S,t,hS,hm=>t.imp (fun t=>⟨t.1.upd k fun y a=>(hm y a).imp (fun h=>h.1) id,t.2⟩) fun⟨e,sp,sk,t⟩=>⟨e,sp,sk,t.upd k fun y a f=>by
   have:=hS y f
   rcases hm y a with h|h
   ·exact h.2 f
   ·omega⟩
 |m+1,b,l,S,t,hS,hm=>by
  rcases t with⟨t,e⟩|⟨e,s,d,n,sp,sk,v,T,w,i,j,hd,hc⟩
  ·exact .inl ⟨TrieAt.updM k (fun y a=>(hm y a).imp (fun h=>h.1) id) t,e⟩
  ·refine .inr ⟨e,s,d,n,sp,sk,v,T,w.upd k fun y a f=>?_,i,j,hd,fun c g=>(hc c g).imp id fun o=>o.imp id fun⟨q,B,u,A,z⟩=>⟨q,B,u,A,TrieO.upd k z (fun y a=>hS y (j c y a).1) fun y a=>(hm y a).imp (fun h=>⟨h.1,fun C=>h.2 (j c y C).1⟩) id⟩⟩
   have:=hS y (i y f);rcases hm y a with h|h
   ·exact h.2 (i y f)
   ·omega
theorem TrieO.upd0{o:Option Addr}{W:Nat→Prop}{x:Hs}{h f:ad}(k:Upd No h f):∀{m b:Nat} {l:List Pr} {S:Nat→Prop},TrieO o W x h m b l S→TrieO o W x f m b l S
 |0,_,_,_,t=>BuckO.upd0 t k
 |m+1,b,l,S,t=>by
  rcases t with⟨t,e⟩|⟨e,s,d,n,sp,sk,j,T,u,q,y,hd,hc⟩
  ·exact .inl ⟨TrieAt.upd0 k t,e⟩
  ·exact .inr ⟨e,s,d,n,sp,sk,j,T,u.upd k fun _ h=>h.elim,q,y,hd,fun c a=>(hc c a).imp id fun o=>o.imp id fun⟨g,w,i,v,p⟩=>⟨g,w,i,v,TrieO.upd0 k p⟩⟩
theorem TrieO.less{o:Option Addr}{W W':Nat→Prop}{x:Hs}{h:ad}(hm:∀y,W' y→W y∨h.size≤y):∀{m b:Nat} {l:List Pr} {S:Nat→Prop},TrieO o W x h m b l S→TrieO o W' x h m b l S
 |0,_,_,_,t=>t.imp (fun t=>⟨t.1.less hm,t.2⟩) id
 |m+1,b,l,S,t=>by
  rcases t with⟨t,e⟩|⟨e,s,d,n,sp,sk,i,T,p,k,v,hd,hc⟩
  ·exact .inl ⟨TrieAt.less hm t,e⟩
  ·exact .inr ⟨e,s,d,n,sp,sk,i,T,p,k,v,hd,fun c a=>(hc c a).imp id fun o=>o.imp id fun⟨f,u,g,q,j⟩=>⟨f,u,g,q,TrieO.less hm j⟩⟩
theorem SlotO.upd{o:Option Addr}{W M:Nat→Prop}{x:Hs}{h a:ad}(k:Upd M h a){m:Nat}{s:Slots}{c:Nat}{l:List Pr}{T:Nat→Prop}(t:SlotO o W x h m s c l T)(i:∀y,T y→y<h.size)(hm:∀y,M y→(W y∧¬T y)∨h.size≤y):SlotO o W x a m s c l T:=
 t.imp id fun o=>o.imp id fun⟨b,g,d,f,e⟩=>⟨b,g,d,f,TrieO.upd k e i hm⟩
theorem SlotO.less{o:Option Addr}{W W':Nat→Prop}{x:Hs}{h:ad}(hm:∀y,W' y→W y∨h.size≤y){m:Nat}{s:Slots}{c:Nat}{l:List Pr}{T:Nat→Prop}(t:SlotO o W x h m s c l T):SlotO o W' x h m s c l T:=
 t.imp id fun o=>o.imp id fun⟨a,f,b,e,d⟩=>⟨a,f,b,e,TrieO.less hm d⟩
theorem SlotO.turn{o:Option Addr}{W:Nat→Prop}{x:Hs}{h:ad}{m:Nat}{s s':Slots}{c:Nat}{l:List Pr}{T:Nat→Prop}(t:SlotO o W x h m s c l T)(b:s'.p c=s.p c)(a:s'.k c=s.k c):SlotO o W x h m s' c l T:=by
 unfold SlotO at t⊢;rw[b,a];exact t
theorem TrieO.view{o:Option Addr}{W S:Nat→Prop}{x:Hs}{h:ad}{m b:Nat}{l:List Pr}(t:TrieO o W x h (m+1) b l S):
  ∃(s:Slots) (a:Nat→Prop) (T:Nat→Nat→Prop),NodeO o W h b s a∧(∀y,a y→S y)∧(∀c y,T c y→S y∧¬a y)∧(∀c c' y,T c y→T c' y→c=c')∧∀c,c<32→SlotO o W x h m s c (part x (12-m) c l) (T c):=by
 rcases t with⟨⟨s,z,hc⟩,e⟩|⟨e,s,d,n,sp,sk,a,T,v,u,w,hd,hc⟩
 ·exact⟨s,No,fun _=>No,.inl ⟨z,fun _ h=>h⟩,fun _ h=>h.elim,fun _ _ h=>h.elim,fun _ _ _ h=>h.elim,fun c g=>(hc c g).imp (fun h=>⟨h.1,h.2.1,h.2.2,fun _ h=>h⟩) fun o=>o.imp (fun⟨p,f,j,i⟩=>⟨p,f,j,i,fun _ h=>h⟩) fun⟨f,j,k,i,q⟩=>⟨f,j,k,i,Gi q⟩⟩
 ·exact⟨s,a,T,.inr ⟨e,d,n,sp,sk,v⟩,u,w,hd,hc⟩
theorem DB{o:Option Addr}{W j:Nat→Prop}{T:Nat→Nat→Prop}{x:Hs}{k:ad}{m t d n z:Nat}{sp sk:SliceV}{s':Slots}{l':List Pr}(u:OwnN (fun y=>j y∨z≤y) k t d n sp sk s' o)
  (hc:∀c,c<32→SlotO o W x k m s' c (part x (12-m) c l') (T c))(D:∀c y,T c y→y<z∧¬j y)(hd:∀c c' y,T c y→T c' y→c=c')(w:o=none→(∀y,¬j y)∧∀y,W y→y<z):
  TrieO o W x k (m+1) t l' (fun y=>o.isSome=true∧(((j y∨z≤y)∧y<k.size)∨∃c,c<32∧T c y)):=by
 cases o with
 |none=>
  obtain⟨B,C⟩:=w rfl;refine .inl ⟨⟨s',u.node (fun y f s=>?_) jL,fun c b=>?_⟩,fun y f=>by simp at f⟩
  ·have:=C y s
   rcases f with h|h
   ·exact B y h
   ·omega
  ·exact(hc c b).imp (fun h=>⟨h.1,h.2.1,h.2.2.1⟩) fun o=>o.imp (fun⟨p,i,g,q,_⟩=>⟨p,i,g,q⟩) fun⟨i,g,v,q,A⟩=>⟨i,g,v,q,A.off.1⟩
 |some a=>
  refine .inr ⟨rfl,s',d,n,sp,sk,fun y=>(j y∨z≤y)∧y<k.size,fun c y=>c<32∧T c y,u.within,fun y f=>⟨rfl,.inl f⟩,fun c y f=>⟨⟨rfl,.inr ⟨c,f⟩⟩,fun h=>?_⟩,fun c c' y i g=>hd c c' y i.2 g.2,fun c b=>?_⟩
  ·obtain⟨i,g⟩:=D c y f.2
   rcases h.1 with h|h
   ·exact g h
   ·omega
  ·have e:(fun y=>c<32∧T c y)=T c:=funext fun y=>propext ⟨fun h=>h.2,fun h=>⟨b,h⟩⟩
   have:=hc c b;unfold SlotO at this;rw[←e]at this;exact this
end Go.Proofs
namespace Go.Proofs
open Go.Lift
theorem LP{o:Option Addr}{W c:Nat→Prop}{e:ad}{g d n z:Nat}{sp sk:SliceV}{s':Slots}(i:OwnN (fun y=>c y∨z≤y) e g d n sp sk s' o)(k:o=none→(∀y,¬c y)∧∀y,W y→y<z):
  NodeO o W e g s' (fun y=>o.isSome=true∧(c y∨z≤y)∧y<e.size):=by
 cases o with
 |none=>
  obtain⟨j,m⟩:=k rfl;refine .inl ⟨i.node (fun y b f=>?_) jL,fun y b=>by simp at b⟩
  have:=m y f;rcases b with h|h
  ·exact j y h
  ·omega
 |some a=>exact .inr ⟨rfl,d,n,sp,sk,i.within.mono fun y b=>⟨rfl,b⟩⟩
theorem u0{o:Option Addr}{W c:Nat→Prop}{d:ad}{f z:Nat}{sp sk:SliceV}{l:List Pr}(g:OwnB (fun y=>c y∨z≤y) d f sp sk l o)(j:o=none→(∀y,¬c y)∧∀y,W y→y<z):
  BuckO o W d f l (fun y=>o.isSome=true∧(c y∨z≤y)∧y<d.size):=by
 cases o with
 |none=>
  obtain⟨i,k⟩:=j rfl;refine .inl ⟨g.buck (fun y b e=>?_) jL,fun y b=>by simp at b⟩
  have:=k y e;rcases b with h|h
  ·exact i y h
  ·omega
 |some a=>exact .inr ⟨rfl,sp,sk,g.within.mono fun y b=>⟨rfl,b⟩⟩
def SN(o:Option Addr)(a:Nat→Prop)(z:Nat)(b:ad)(T:Nat→Nat→Prop)(y:Nat):Prop:=o.isSome=true∧(((a y∨z≤y)∧y<b.size)∨∃c,c<32∧T c y)
def sT(T:Nat→Nat→Prop)(i:Nat)(S:Nat→Prop)(c:Nat):Nat→Prop:=if c=i then S else T c
theorem xo{T:Nat→Nat→Prop}{i:Nat}{S:Nat→Prop}:sT T i S i=S:=if_pos rfl
theorem pG{T:Nat→Nat→Prop}{i c:Nat}{S:Nat→Prop}(h:c≠i):sT T i S c=T c:=if_neg h
theorem Jw{o:Option Addr}{S d T':Nat→Prop}{z z0 c0:Nat}{a:ad}{T:Nat→Nat→Prop}(j:∀y,d y→S y)(g:∀c y,T c y→S y∧y<a.size)(b:∀y,T' y→(S y∨z0≤y)∧y<a.size)(hz:z0≤z){y:Nat}(i:SN o d z a (sT T c0 T') y):(S y∨z0≤y)∧y<a.size:=by
 rcases i.2 with⟨h|h,f⟩|⟨c,_,h⟩
 ·exact⟨.inl (j y h),f⟩
 ·exact⟨.inr (Nat.le_trans hz h),f⟩
 ·by_cases e:c=c0
  ·subst e;rw[xo]at h;exact b y h
  ·rw[pG e]at h;exact⟨.inl (g c y h).1,(g c y h).2⟩
theorem vY{o:Option Addr}{W W1 f T':Nat→Prop}{T:Nat→Nat→Prop}{x:Hs}{hz g:ad}{m C d n c0:Nat}{sp sk:SliceV}{s s':Slots}{l':List Pr}
  (G:OwnN (fun y=>f y∨hz.size≤y) g C d n sp sk s' o)(H:Upd f hz g)(E:∀c,c<32→c≠c0→SlotO o W1 x hz m s c (part x (12-m) c l') (T c))(A:∀c,c≠c0→s'.p c=s.p c∧s'.k c=s.k c)
  (hi:SlotO o W1 x hz m s' c0 (part x (12-m) c0 l') T')(k:∀y,W y→W1 y)(q:∀y,f y→W1 y)(v:∀c y,T c y→W1 y)(u:∀y,T' y→W1 y)(D:∀c y,T c y→y<hz.size∧¬f y)(b:∀y,T' y→y<hz.size∧¬f y∧∀c,c≠c0→¬T c y)
  (hd:∀c c' y,T c y→T c' y→c=c')(w:o=none→(∀y,¬f y)∧∀y,W1 y→y<hz.size):
  TrieO o (fun y=>W y∨SN o f hz.size g (sT T c0 T') y) x g (m+1) C l' (SN o f hz.size g (sT T c0 T')):=by
 have p:∀c y,sT T c0 T' c y→W1 y∧y<hz.size∧¬f y:=fun c y h=>by
  by_cases e:c=c0
  ·subst e;rw[xo]at h;exact⟨u y h,(b y h).1,(b y h).2.1⟩
  ·rw[pG e]at h;exact⟨v c y h,D c y h⟩
 have F:∀y,(W y∨SN o f hz.size g (sT T c0 T') y)→(W1 y∨hz.size≤y):=fun y a=>by
  rcases a with h|⟨_,⟨h|h,_⟩|⟨c,_,h⟩⟩
  ·exact .inl (k y h)
  ·exact .inl (q y h)
  ·exact .inr h
  ·exact .inl (p c y h).1
 have B:∀{s:Slots} {c:Nat} {l:List Pr} {U:Nat→Prop},SlotO o W1 x hz m s c l U→(∀y,U y→y<hz.size∧¬f y)→SlotO o (fun y=>W y∨SN o f hz.size g (sT T c0 T') y) x g m s c l U:=fun t z=>
  ((t.less (W':=fun y=>W1 y∨hz.size≤y) fun y a=>a).upd H (fun y a=>(z y a).1) fun y a=>.inl ⟨.inl (q y a),fun h=>(z y h).2 a⟩).less fun y a=>.inl (F y a)
 refine DB G (fun c hc=>?_) (fun c y h=>(p c y h).2) (fun c c' y i j=>?_) fun e=>⟨(w e).1,fun y a=>?_⟩
 ·by_cases e:c=c0
  ·subst e;rw[xo];exact B hi fun y a=>⟨(b y a).1,(b y a).2.1⟩
  ·rw[pG e];exact(B (E c hc e) fun y a=>D c y a).turn (A c e).1 (A c e).2
 ·by_cases e:c=c0<;>by_cases e':c'=c0
  ·omega
  ·subst e;rw[xo]at i;rw[pG e']at j;exact absurd j ((b y i).2.2 c' e')
  ·subst e';rw[xo]at j;rw[pG e]at i;exact absurd i ((b y j).2.2 c e)
  ·rw[pG e]at i;rw[pG e']at j;exact hd c c' y i j
 ·rcases a with h|⟨h,_⟩
  ·exact(w e).2 y (k y h)
  ·rw[e]at h;cases h
abbrev MH(x:Hs)(w:Option Addr)(k:ByteArray):Value:=.agg #[.int .u64 x.k0,.int .u64 x.k1,.int .u64 x.mask,.pointer w,.string k,.int .u64 (ko x k)]
set_option maxHeartbeats 1000000 in
theorem Oi{W:Nat→Prop}{x:Hs}{w o:Option Addr}:∀(m:Nat) (p q:Pr),m≤13→p.1≠q.1→∀{h:ad},(∀y,W y→y<h.size)→By h w o→(∀a,o=some a→W a.block)→∀{K:Option Addr→ad→Prop},(∀h' b' S',TrieO o (fun y=>W y∨S' y) x h' m b' (gG q [p]) S'→(∀y,S' y→h.size≤y∧y<h'.size)→Upd No h h'→K (some ⟨b',0,none⟩) h')→
  HC PG jZ [MH x w q.1,.agg #[.string p.1,.string p.2],.agg #[.string q.1,.string q.2],.int .i64 ((13-m:Nat):Int)] [.c .ptr] K h:=by
 intro m;induction m with
 |zero=>
  intro p q _ hne h hW t G K hk;have L:∀{h'},Upd No h h'→∀y,W y→y<h'.size:=fun k y g=>cg (hW y g) k.size
  refine qE (x.k0,x.k1,x.mask,w,q.1,ko x q.1) p q ((13-0:Nat):Int) ?_;unfold m6 af cz aJ az uI rC tG vW E2 lr Bj;refine aQ fun h1 b1 k1=>aQ fun h2 b2 k2=>aQ fun P b3 k3=>?_
  have j:=(k1.tr k2).tr k3;have u:∀{h':ad},Upd No P h'→∀i,aK h' (adr ⟨h.size,0,none⟩ i)=(#[.int .u64 x.k0,.int .u64 x.k1,.int .u64 x.mask,.pointer w,.string q.1,.int .u64 (ko x q.1)]:Array Value)[i]?:=fun k i=>by
   rw[bF,aY (k.get0 (k3.get0 (k2.get0 b1))),aB]
  have H:∀{h':ad},Upd No P h'→∀i,aK h' (adr ⟨h1.size,0,none⟩ i)=(#[.string p.1,.string p.2]:Array Value)[i]?:=fun k i=>by rw[bF,aY (k.get0 (k3.get0 b2)),aB]
  have D:∀{h':ad},Upd No P h'→∀i,aK h' (adr ⟨h2.size,0,none⟩ i)=(#[.string q.1,.string q.2]:Array Value)[i]?:=fun k i=>by rw[bF,aY (k.get0 b3),aB]
  have r:=Upd.refl No P;have z03:=j.size;refine ax.2 ⟨w,u r 3,p.1,H r 0,p.2,H r 1,w,u r 3,q.1,D r 0,q.2,D r 1,?_⟩;refine Mb (L j) fun h4 b4 bk4 f=>⟨⟨D f 0,D f 1⟩,u f 3,⟨H f 0,H f 1⟩,u f 3,?_⟩
  have t4:=t.upd0 (j.tr f);have z4:=f.size;refine Cp (S:=No) (.inl ⟨bk4,fun _ h=>h⟩) t4 G (fun _ h=>h.elim) fF (by simp) p fun R b5 sp5 sk5 on5 C=>?_
  have E:=f.tr C;have z5:=C.size;refine⟨⟨D E 0,D E 1⟩,u E 3,?_⟩;have bk5:=u0 (W:=W) (z:=h4.size) on5 fun e=>⟨fun _ h=>h,L (j.tr f)⟩
  have t5:=t4.upd0 C;refine Cp bk5 t5 G (fun y g=>g.2.2) (fq ..) (by simp[gG]) q fun N b6 sp6 sk6 Y A=>?_
  have z6:=A.size;have bk6:=u0 (W:=fun y=>W y∨(o.isSome=true∧((o.isSome=true∧((No y∨h4.size≤y)∧y<R.size))∨R.size≤y)∧y<N.size)) (z:=R.size) Y fun e=>⟨fun y g=>(by rw[e]at g;cases g.1),fun y g=>(by
   rcases g with g|g
   ·exact L (j.tr E) y g
   ·rw[e]at g;cases g.1)⟩
  refine hk N b6 _ bk6 (fun y g=>?_) ((j.tr E).trans A fun y g=>.inr ?_)
  ·rcases g.2.1 with h|h
   ·rcases h.2.1 with h|h
    ·exact h.elim
    ·exact⟨by omega,g.2.2⟩
   ·exact⟨by omega,g.2.2⟩
  ·rcases g.2.1 with h|h
   ·exact h.elim
   ·omega
 |succ m ih=>
  intro p q hm hne h hW t G K hk;have L:∀{h'},Upd No h h'→∀y,W y→y<h'.size:=fun k y g=>cg (hW y g) k.size
  have hl:13-(m+1)<13:=by omega
  have B:13-(m+1)=12-m:=by omega
  refine qE (x.k0,x.k1,x.mask,w,q.1,ko x q.1) p q ((13-(m+1):Nat):Int) ?_;unfold m6 af cz aJ az uI rC tG vW E2 lr Bj;refine aQ fun h1 b1 k1=>aQ fun h2 b2 k2=>aQ fun P b3 k3=>?_
  have j:=(k1.tr k2).tr k3;have u:∀{h':ad},Upd No P h'→∀i,aK h' (adr ⟨h.size,0,none⟩ i)=(#[.int .u64 x.k0,.int .u64 x.k1,.int .u64 x.mask,.pointer w,.string q.1,.int .u64 (ko x q.1)]:Array Value)[i]?:=fun k i=>by
   rw[bF,aY (k.get0 (k3.get0 (k2.get0 b1))),aB]
  have H:∀{h':ad},Upd No P h'→∀i,aK h' (adr ⟨h1.size,0,none⟩ i)=(#[.string p.1,.string p.2]:Array Value)[i]?:=fun k i=>by rw[bF,aY (k.get0 (k3.get0 b2)),aB]
  have D:∀{h':ad},Upd No P h'→∀i,aK h' (adr ⟨h2.size,0,none⟩ i)=(#[.string q.1,.string q.2]:Array Value)[i]?:=fun k i=>by rw[bF,aY (k.get0 b3),aB]
  have r:=Upd.refl No P;have z03:=j.size;have ne:(((13-(m+1):Nat):Int)==(13:Int))=false:=by rw[beq_eq_false_iff_ne];omega
  rw[ne];refine aj.2 ⟨_,u r 0,_,u r 1,_,u r 2,_,H r 0,_,u r 5,?_⟩;refine sB fun h4 f=>⟨u f 5,Ob hl ⟨u f 5,Ob hl ?_⟩⟩
  have hi:=xT x (13-(m+1)) p.1;have hj:=xT x (13-(m+1)) q.1;have hcl:=Ki hne;have z4:=f.size;refine CondP.intro (fun e=>?_) fun e=>?_
  ·have e:ck x (13-(m+1)) p.1=ck x (13-(m+1)) q.1:=by have:=eq_of_beq e;omega
   refine⟨_,u f 3,_,u f 0,_,u f 1,_,u f 2,_,u f 3,_,u f 4,_,u f 5,_,H f 0,_,H f 1,_,D f 0,_,D f 1,?_⟩;refine sy (L (j.tr f)) fun R b5 U C=>?_
   have b:=f.tr C;have z5:=C.size;refine⟨⟨D b 0,D b 1⟩,⟨H b 0,H b 1⟩,⟨u b 0,u b 1,u b 2,u b 3,u b 4,u b 5⟩,u b 3,?_⟩;have ew:IntKind.wrap .i64 (((13-(m+1):Nat):Int)+1)=((13-m:Nat):Int):=by rw[nq (by omega)];omega
   rw[ew];refine ih p q (by omega) hne (L (j.tr b)) (t.upd0 (j.tr b)) G fun N b6 Sk t6 M A=>?_
   have v:=b.tr A;have z6:=A.size;refine⟨u v 3,?_⟩;refine si (S:=No) (.inl ⟨U.upd A fun _ h=>h.elim,fun _ h=>h⟩) (t.upd0 (j.tr v)) G hi (fun y h=>by cases h) ⟨b6,0,none⟩ fun h7 b7 d n sp sk V I=>?_
   have z7:=I.size;refine hk h7 b7 _ (vY (W:=W) (W1:=fun y=>W y∨Sk y) (T:=fun _=>No) (T':=Sk) (c0:=ck x (13-(m+1)) p.1) (s:=⟨fun _=>none,fun _=>none⟩) (hz:=N) V I (fun c hc Z=>?_) (fun c hc=>⟨fH hc,fH hc⟩) ?_ (fun y g=>.inl g) (fun _ h=>h.elim) (fun _ _ h=>h.elim) (fun y g=>.inr g) (fun _ _ h=>h.elim) (fun y g=>⟨(M y g).2,id,fun _ _ h=>h⟩) (fun _ _ _ h=>h.elim) fun eo=>⟨fun _ h=>h,fun y g=>g.elim (L (j.tr v) y) fun h=>(M y h).2⟩) (fun y g=>?_) ((j.tr v).tr I)
   ·refine .inl ⟨Kv fun r X=>?_,rfl,rfl,fun _ h=>h⟩
    rw[B]at Z e;rcases KB X with rfl|rfl
    ·exact fun e=>Z e.symm
    ·rw[←e];exact fun e=>Z e.symm
   ·have ea:part x (12-m) (ck x (13-(m+1)) p.1) (gG q [p])=gG q [p]:=GK fun r X=>by
     rw[B]at e⊢;rcases KB X with rfl|rfl
     ·rfl
     ·rw[e]
    rw[ea];exact .inr (.inr ⟨by omega,fU,b6,fU,t6⟩)
   ·have:=Jw (S:=No) (z0:=h.size) (fun _ h=>h) (fun _ _ h=>h.elim) (fun y g=>⟨.inr (by have:=(M y g).1;omega),by have:=(M y g).2;omega⟩) (by omega) g
    exact⟨this.1.elim (fun h=>h.elim) id,this.2⟩
  ·have e:ck x (13-(m+1)) p.1≠ck x (13-(m+1)) q.1:=fun h=>by rw[h]at e;simp at e
   refine⟨_,u f 3,_,H f 0,_,H f 1,_,u f 3,_,D f 0,_,D f 1,?_⟩;refine sy (L (j.tr f)) fun R b5 U C=>?_
   have b:=f.tr C;have z5:=C.size;have t5:=t.upd0 (j.tr b);refine⟨⟨D b 0,D b 1⟩,u b 3,⟨H b 0,H b 1⟩,u b 3,?_⟩;refine oq (S:=No) (.inl ⟨U,fun _ h=>h⟩) t5 G (fun _ h=>h.elim) hi (fun y h=>by cases h) p fun N b6 d6 n6 sp6 sk6 Y A=>?_
   have v:=b.tr A;have z6:=A.size;have nd6:=LP (W:=W) Y fun _=>⟨fun _ h=>h,L (j.tr b)⟩
   refine⟨⟨D v 0,D v 1⟩,u v 3,?_⟩;refine oq nd6 (t5.upd0 A) G (fun y g=>g.2.2) hj (fun y h=>by simp[upd]) q fun h7 b7 d7 n7 sp7 sk7 V I=>?_
   have z7:=I.size;have Q:∀y,(o.isSome=true∧(No y∨R.size≤y)∧y<N.size)→R.size≤y:=fun y g=>g.2.1.elim (fun h=>h.elim) id
   refine hk h7 b7 _ (DB (T:=fun _=>No) (z:=N.size) (W:=fun y=>W y∨SN o (fun y=>o.isSome=true∧(No y∨R.size≤y)∧y<N.size) N.size h7 (fun _=>No) y) V (fun c hc=>?_) (fun _ _ h=>h.elim) (fun _ _ _ h=>h.elim) fun eo=>⟨fun y g=>(by rw[eo]at g;cases g.1),fun y g=>(by
    rcases g with g|g
    ·exact L (j.tr v) y g
    ·rw[eo]at g;cases g.1)⟩) (fun y g=>?_) ((j.tr v).trans I fun y g=>.inr (by have:=Q y g;omega))
   ·have F:=BM (x:=x) (lev:=12-m) (c:=c) (p:=q) (l:= [p]) (fq ..)
    rw[B]at e;by_cases O:c=ck x (12-m) p.1
    ·have J:ck x (12-m) q.1≠c:=fun h=>e (by omega)
     have e1:part x (12-m) c [p]= [p]:=GK fun r X=>by rw[aq.1 X,O]
     rw[if_neg J,e1]at F;exact .inr (.inl ⟨p,F,by simp[upd,B,O,e],by simp[upd],fun _ h=>h⟩)
    ·have e1:part x (12-m) c [p]= []:=Kv fun r X=>by rw[aq.1 X];exact fun h=>O h.symm
     rw[e1]at F;by_cases J:c=ck x (12-m) q.1
     ·rw[if_pos J.symm]at F
      exact .inr (.inl ⟨q,F,by simp[upd,B,J],by simp[upd],fun _ h=>h⟩)
     ·rw[if_neg fun h=>J h.symm]at F
      exact .inl ⟨F,by simp[upd,B,J,O],by simp[upd],fun _ h=>h⟩
   ·rcases g.2 with⟨h|h,h2⟩|⟨_,_,h⟩
    ·exact⟨by have:=Q y h;omega,h2⟩
    ·exact⟨by omega,h2⟩
    ·exact h.elim
end Go.Proofs
