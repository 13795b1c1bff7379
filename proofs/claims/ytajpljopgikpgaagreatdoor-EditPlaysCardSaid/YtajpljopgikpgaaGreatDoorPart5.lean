/- A part of the proof that the named laws of this program answer true, whatever the input. -/
import Derived.Test.YtajpljopgikpgaaGreatDoorPart4
import Derived.Test.YtajpljopgikpgaaGreatDoorPart2
open ByteArray renaming mk→kO
open Int renaming toNat_natCast→aX
open List renaming eraseIdx_eq_take_drop_succ→ii,getElem?_eraseIdx→qI,mem_singleton→au,getElem_mem→aY,getElem?_eq_getElem→ag,length_append→ad,mem_of_getElem?→aE,getElem?_set→eE,getElem?_of_mem→iU,pairwise_singleton→db
open List.Pairwise renaming nil→fc
open Nat renaming lt_or_ge→bO,one_pos→vS,le_refl→ao,lt_of_lt_of_le→bG,zero_add→aU
namespace Go.Proofs
open Go Go.Lift
theorem ZE{Ts:List (Nat→Prop)}(d:PD Ts)(i:Nat):PD (Ts.take i++Ts.drop (i+1)):=by
 intro a b A B f c eb;simp only[←ii,qI]at c eb;split at c<;>split at eb
 ·exact d a b A B f c eb
 ·exact d a (b+1) A B (by omega) c eb
 ·exact d (a+1) b A B (by omega) c eb
 ·exact d (a+1) (b+1) A B (by omega) c eb
theorem Vn{o:Option Addr}{W S X A:Nat→Prop}{h:af}{f b:Nat}{T:List (Nat→Prop)}(j:∀y,W y→y<h.size)(c:o=none→∀y,¬S y)(i:∀y,A y→S y∨h.size≤y)(g:S b∨h.size≤b)(e:o=none):(∀y,A y→¬(W y∨SR o f X T y))∧¬(W b∨SR o f X T b):=by
 have no:∀y,(S y∨h.size≤y)→¬(W y∨SR o f X T y):=fun y d a=>by
  rcases a with a|⟨a,_⟩
  ·rcases d with h|h
   ·exact c e y h
   ·have:=j y a;omega
  ·rw[e]at a;cases a
 exact⟨fun y d=>no y (i y d),no _ g⟩
theorem PE{o:Option Addr}{W S A:Nat→Prop}{h b:af}{a:Nat}{sl val:ByteArray}{s3:SliceV}{w:Option ByteArray}{f:List (Option Addr)}{L':List Bn}{Us':List (Nat→Prop)}
  (u:∀y,W y→y<h.size)(k:o=none→∀y,¬S y)(n:b[a]? =some (.cells (zP sl w.isSome val s3 o) bS (0,0))) (hv:val=w.getD ⟨#[]⟩) (m:OwnS m9 1 bw A b s3 f) (i:∀y,A y→(S y∨h.size≤y)∧y≠a∧y<b.size) (g:S a∨h.size≤a)
  (p:∀U∈Us',∀y,U y→¬A y∧y≠a) (j:∀U∈Us',∀y,U y→(S y∨h.size≤y)∧y<b.size) (q:PD Us') (s:(∀y,SR o a A Us' y→(S y∨h.size≤y)∧y<b.size)→LsO o (fun y=>W y∨SR o a A Us' y) b f L' Us'):
  RxO o (fun y=>W y∨SR o a A Us' y) b a sl w (.ofL L') (SR o a A Us')∧∀y,SR o a A Us' y→(S y∨h.size≤y)∧y<b.size:=by
 have d:∀y,SR o a A Us' y→(S y∨h.size≤y)∧y<b.size:=fun y c=>BL g (aL n) (fun y c=>⟨(i y c).1,(i y c).2.2⟩) j c
 exact⟨yR n hv m (fun y c=>(i y c).2) p q (by rw[Fo.to_of];exact s d) (Vn u k (fun y c=>(i y c).1) g),d⟩
def abA(o:Option Addr)(W:Nat→Prop)(h:af)(r:Option Addr)(m:Option Bn)(S:Nat→Prop):Prop:=(r=none∧m=none)∨∃n,m=some n∧KidO o W h r n S
set_option maxHeartbeats 1000000 in
theorem PF{w' o:Option Addr}{W S:Nat→Prop}{h:af}{b:Nat}{sl:ByteArray}{w:Option ByteArray}{F:Fo}(r:RxO o W h b sl w F S)(t:By h w' o)(hW:∀y,W y→y<h.size)(E:∀y,S y→W y)(hWo:∀a,o=some a→W a.block)(hc:fU F)(hne:sl.data.toList≠[])(hs1:sl.size≤1000000)(hs2:∀k v,qt F k v→k.length≤1000000)
  {K:Option Addr→af→Prop}(hk:∀j r m S2,Upd S h j→YJ (sl.data.toList,w,F) m→abA o (fun y=>W y∨S2 y) j r m S2→(∀y,S2 y→(S y∨h.size≤y)∧y<j.size)→K r j):HC PG qj [.pointer (some ⟨b,0,none⟩),.pointer w'] [.c .ptr] K h:=by
 refine Dh _ w' ?_;unfold vB bH cS bo Ao uP aK dZ;have hr:=r;have hno:o=none→∀y,¬S y:=fun e=>by subst e;exact r.off.2
 have hSb:∀y,S y→y<h.size:=fun y c=>hW y (E y c)
 obtain⟨val,s,ow,ks,Us,O,hv,hs,hL,hUS,hPD,hown⟩:=r.view;have hn:=kJ hc;have d:=hs.len;rw[hL.1]at d;refine Join.intro (fun t j=>t=decide (w.isSome∨2≤F.toL.length)∧j=h) (fun R hR=>⟨_,rfl,w.isSome,dI (i:=1) O,?_⟩) ?_
 ·cases w with
  |some v=>exact aA.2 (hR _ _ ⟨rfl,rfl⟩)
  |none=>
   refine aj.2 ⟨_,rfl,s,dI (i:=3) O,hR _ _ ⟨?_,rfl⟩⟩;rw[decide_eq_decide];constructor
   ·intro h;exact .inr (by omega)
   ·rintro(h|h)
    ·cases h
    ·omega
 ·rintro t' j ⟨rfl,rfl⟩
  refine aM (fun G=>?_) fun G=>?_
  ·exact hk j _ _ S (Upd.refl _ _) (TK hne hc G) (.inr ⟨_,rfl,b,sl,rfl,rfl,hr.less fun y c=>.inl (c.elim id (E y))⟩) fun y c=>⟨.inl c,hSb y c⟩
  ·have hw:w=none:=by
    cases w with
    |none=>rfl
    |some v=>exact absurd (.inl rfl) G
   subst hw;have hl2:F.toL.length<2:=by
    rcases bO F.toL.length 2 with h|h
    ·exact h
    ·exact absurd (.inr h) G
   refine⟨_,rfl,s,dI (i:=3) O,?_⟩;match hFL:F.toL,hl2 with
   | [],_=>
    rw[hFL]at d;have e:((s.len:Int)==(0:Int))=true:=by rw[beq_iff_eq,d];rfl
    rw[e];exact aA.2 (hk j _ _ No (Upd.refl _ _) (TL hFL) (.inl ⟨rfl,rfl⟩) fun y c=>c.elim)
   | [(lk,wk,Fk)],_=>
    rw[hFL]at d;have e:((s.len:Int)==(0:Int))=false:=by rw[beq_eq_false_iff_ne,d];simp
    rw[e];have B:(lk,wk,Fk)∈F.toL:=by rw[hFL];exact au.2 rfl
    have hcm:=(fi.1 hc).2 _ B;have h0:F.toL[0]? =some (lk,wk,Fk):=by rw[hFL];rfl
    have hk0:0<ks.length:=by rw[hL.1,hFL];exact vS
    have P:0<Us.length:=by rw[hL.2.1,hFL];exact vS
    have hUm:Us[0]∈Us:=aY P;obtain⟨kb,u,hke,I,A⟩:=hL.2.2 0 _ _ _ (ag hk0) h0 (ag P);have hki:ks[0]? =some (some ⟨kb,0,none⟩):=by rw[ag hk0,hke]
    have g:∀y,Us[0] y→S y:=hUS _ hUm;generalize Us[0]=U at A hUm g;simp only at I A;obtain⟨a,ha,_,hvv⟩:=hs.at0 hki;have hknr:=A;have hno2:o=none→∀y,¬U y:=fun e=>by subst e;exact A.off.2
    obtain⟨kval,kss,kow,kks,p,Y,hkv,hkss,T,H,hkPD,J⟩:=A.view;have hkn2:=kJ hcm.2.2;have hUb:∀y,U y→y<j.size:=fun y c=>hSb y (g y c)
    have n:∀V∈p,∀y,V y→y<j.size:=fun V C y c=>hUb y (H V C y c)
    refine aj.2 ⟨_,rfl,s,dI (i:=3) O,⟨by omega,by rw[d];simp⟩,a,ha,some ⟨kb,0,none⟩,hvv,?_⟩
    refine mz (W:=W) (S:=U) (Us:=p) t hWo Y (by rw[T.1];exact hkn2) (Ee (Us:=p) J (aL Y) (Upd.refl No j) (fun _ h=>h.elim) fun V C y c=>⟨.inl ⟨V,C,c⟩,n V C y c⟩) fun h1 b1 s1 A1 Q hA1 f D Z M=>?_
    obtain⟨rr,vv,hin⟩:=nq hc _ B;have hbd:=hs2 (lk++rr) vv (fY.2 ⟨_,B,rr,rfl,hin⟩);rw[ad]at hbd;have hlkl:lk.length=u.size:=by rw[←I];exact lh u
    refine⟨_,rfl,sl,dI (i:=0) (M.get0 O),_,rfl,u,dI (i:=0) Q,by omega,?_⟩
    refine xy Q fun G b2 L=>?_
    have N:Upd (· =b1) j G:=M.wide.tr L
    have z1:=M.size;have z2:=L.size;have zb:=aL b2;have q:∀{z:Nat},(U z∨j.size≤z)→S z∨j.size≤z:=fun h=>h.imp (g _) id
    have X:∀y,SR o b1 A1 p y→(S y∨j.size≤y)∧y<G.size:=fun y c=>BL (q D) zb (fun y c=>⟨q (f y c).1,by have:=(f y c).2.2;omega⟩) (fun V C y c=>⟨.inl (g y (H V C y c)),by have:=n V C y c;omega⟩) c
    refine hk G _ _ (SR o b1 A1 p) (N.mono fun y c=>by have c:y=b1:=c;rw[c];exact q D) (VO hne hc hFL) (.inr ⟨_,rfl,b1,sl++u,rfl,by rw[←I];exact WZ sl u,yR b2 hkv (hA1.upd L fun y c=>(f y c).2.1) (fun y c=>⟨(f y c).2.1,by have:=(f y c).2.2;omega⟩) Z hkPD (T.move N n (fun y c=>?_) fun y c=>c.elim .inl fun h=>(X y h).1.imp (E y) id) (Vn hW hno (fun y c=>q (f y c).1) (q D))⟩) X
    have c:y=b1:=c;subst c;exact D.imp (fun h=>⟨E y (g y h),fun V C hu=>(Z V C y hu).2 rfl⟩) id
end Go.Proofs
namespace Go.Proofs
open Go Go.Lift
set_option maxHeartbeats 4000000 in
theorem To{w' o:Option Addr}:∀(n:Nat) {W S:Nat→Prop} {b:Nat} {sl:ByteArray} {w:Option ByteArray} {F:Fo} {h:af} (k:ByteArray),k.size<n→RxO o W h b sl w F S→By h w' o→(∀y,W y→y<h.size)→(∀y,S y→W y)→(∀a,o=some a→W a.block)→(∀a,w'=some a→¬S a.block)→fU F→(∀j v,qt F j v→j.length≤1000000)→∀{K:(Option Addr)×Bool→af→Prop},
  (∀h' G w2 F2 S2 Y,Upd S h h'→RxO o (fun y=>W y∨S2 y) h' G sl w2 F2 S2→(∀y,S2 y→(S y∨h.size≤y)∧y<h'.size)→fU F2→vQ (rO w F) (rO w2 F2) k.data.toList→(Y=false→G=b∧w2=w∧F2=F∧Upd No h h'∧∀v,¬rO w F k.data.toList v)→(Y=true→∃v,rO w F k.data.toList v)→K (some ⟨G,0,none⟩,Y) h')→
  HC PG mN [.pointer (some ⟨b,0,none⟩),.pointer w',.string k] [.c .ptr,.c .bool] K h:=by
 intro n;induction n with
 |zero=>intro W S b sl w F h k hk;omega
 |succ n ih=>
  intro W S b sl w F h k hkn r t hW D hWo hwS hc hbd K hk;refine Dk (some ⟨b,0,none⟩) w' k ?_;unfold vD bH cS bo cz jm uP FT aK dZ GM Nc;have hr:=r;have hno:o=none→∀y,¬S y:=fun e=>by subst e;exact r.off.2
  obtain⟨val,s,ow,ks,Us,hb,hv,hs,hL,hUS,hPD,hown⟩:=r.view;have hn:=kJ hc;have hcan:=fi.1 hc;have hSb:∀y,S y→y<h.size:=fun y d=>hW y (D y d)
  have N:∀U∈Us,∀y,U y→y<h.size:=fun U C y d=>hSb y (hUS U C y d)
  have zb:=aL hb;have own2:=fun{h2:af} {M:Nat→Prop} (ku:Upd M h h2) (hM:∀y,M y→S y∧∃U∈Us,U y) (Us':List (Nat→Prop)) (C:∀U∈Us',∀y,U y→((∃V∈Us,V y)∨h.size≤y)∧y<h2.size)=>Ee (Us':=Us') hown zb ku hM C
  have X:∀{h':af},Upd No h h'→(∀v,¬rO w F k.data.toList v)→K (some ⟨b,0,none⟩,false) h':=fun hu hnin=>hk _ b w F S false hu.wide ((hr.upd0 hu).less fun y d=>.inl (d.elim id (D y))) (fun y d=>⟨.inl d,by have:=hSb y d;have:=hu.size;omega⟩) hc (QC hnin) (fun _=>⟨rfl,rfl,rfl,hu,hnin⟩) fun h=>by cases h
  rw[jq];refine aM (fun hk0=>?_) fun hk0=>?_
  ·have hke:k.data.toList= []:=by rw[hk0]
   rw[hke]at hk X;refine⟨_,rfl,w.isSome,dI (i:=1) hb,?_⟩;cases hw:w with
   |none=>
    refine aA.2 (X (Upd.refl _ _) fun v f=>?_)
    rcases f with⟨_,h⟩|h
    ·rw[hw]at h;cases h
    ·exact absurd rfl (pq hc h)
   |some u=>
    refine aj.2 (mz (S:=S) (Us:=Us) t hWo hb (by rw[hL.1];exact hn) (own2 (Upd.refl No h) (fun _ h=>h.elim) Us fun U C y d=>⟨.inl ⟨U,C,d⟩,N U C y d⟩) fun h1 G s1 A1 b1 hA1 hA1s R hU1 hu1=>?_)
    refine⟨_,rfl,Vo (i:=1) b1 (show 1<5 by decide),Hb (i:=1) (c':=zP sl false val s1 o) b1 rfl fun h2 b2 hu2=>?_⟩
    refine⟨_,rfl,Vo (i:=2) b2 (show 2<5 by decide),Hb (i:=2) (c':=zP sl false ⟨#[]⟩ s1 o) b2 rfl fun h3 b3 hu3=>?_⟩
    have hu13:=hu2.tr hu3;have z1:=hu1.size;have z3:=hu13.size;have u03:Upd (· =G) h h3:=hu1.wide.tr hu13
    obtain⟨rx,E⟩:=PE (W:=W) (S:=S) (w:=none) (val:=⟨#[]⟩) (L':=F.toL) hW hno b3 rfl (hA1.upd hu13 fun y d=>(hA1s y d).2.1) (fun y d=>⟨(hA1s y d).1,(hA1s y d).2.1,by have:=(hA1s y d).2.2;omega⟩) R hU1 (fun U C y d=>⟨.inl (hUS U C y d),by have:=N U C y d;omega⟩) hPD fun E=>hL.move u03 N (fun y d=>by
     have d:y=G:=d
     subst d
     exact R.imp (fun h=>⟨D y h,fun U C hu=>(hU1 U C y hu).2 rfl⟩) id) fun y d=>d.elim .inl fun h=>(E y h).1.imp (D y) id
    rw[Fo.of_to]at rx;exact hk h3 G none F _ true (u03.mono fun y d=>by have d:y=G:=d;rw[d];exact R) rx E hc (QB hc) (fun h=>by cases h) fun _=>⟨u,.inl ⟨rfl,hw⟩⟩
  ·have J:k.data.toList≠[]:=fun e=>hk0 (by cases k;exact congrArg kO (Array.toList_inj.1 e))
   obtain⟨c0,hc0,hc0e⟩:=Ei J;refine⟨c0,Int.le_refl _,hc0,?_⟩;have hlk:k.data.toList.length=k.size:=lh k;refine D5 (hr.read t) hc (c:=c0.toNat) (UInt8.toNat_lt _) fun i ok hil hlo hhi hok=>?_
   rw[hc0e]at hlo hhi hok;cases ok with
   |false=>
    refine aA.2 (X (Upd.refl _ _) fun v f=>?_)
    rcases f with⟨h,_⟩|f
    ·exact J h
    ·obtain⟨n',hn',e,_⟩:=qe hc f
     obtain⟨j,p,rfl⟩:=List.getElem_of_mem hn';rcases bO j i with hl|hl
     ·have:=hlo j p hl;omega
     ·have h1:=hhi j p hl
      have h2:=hhi i (by omega) (ao _);rcases bO i j with hl2|hl2
      ·have h3:=List.pairwise_iff_getElem.1 hcan.1 i j (by omega) p hl2
       omega
      ·have:i=j:=by omega
       subst this;have:=hok.2 ⟨p,e⟩;cases this
   |true=>
    obtain⟨hi,hie⟩:=hok.1 rfl;refine aj.2 ⟨_,rfl,s,dI (i:=3) hb,?_⟩;have T:i<ks.length:=by rw[hL.1];exact hi
    have hUi0:i<Us.length:=by rw[hL.2.1];exact hi
    obtain⟨kb,ksl,hke,hkl,Z⟩:=hL.2.2 i _ _ _ (ag T) (ag hi) (ag hUi0);have hki:ks[i]? =some (some ⟨kb,0,none⟩):=by rw[ag T,hke]
    have hUie:Us[i]? =some Us[i]:=ag hUi0;have L:Us[i]∈Us:=aY hUi0;have hmem:F.toL[i]∈F.toL:=aY hi;have hcm:=hcan.2 _ hmem;obtain⟨a,ha,_,hvv⟩:=hs.at0 hki;have hslen:=hs.len;rw[hL.1]at hslen;have hlt1:(i:Int)<((s.len:Nat):Int):=by omega
    refine⟨⟨by simp only;omega,hlt1⟩,a,ha,some ⟨kb,0,none⟩,hvv,_,rfl,?_⟩;obtain⟨kval,kss,kow,kks,kUs,hkb,_⟩:=Z.view;have hin_m:∀v,qt F k.data.toList v→um F.toL[i] k.data.toList v:=fun v f=>by
     obtain⟨n',hn',e,hN⟩:=qe hc f;rw[←xV hc hn' hmem (by omega)];exact hN
    have O:∀j v,um F.toL[i] j v→qt F j v:=fun j v f=>fY.2 ⟨_,hmem,f⟩
    have H:∀{m:Bn},O2 m→hd m.1=hd F.toL[i].1→fU (.ofL (F.toL.set i m)):=fun h1 h2=>SE hc hi h1 h2
    have hdset:∀{m:Bn},vQ (um F.toL[i]) (um m) k.data.toList→vQ (qt F) (qt (.ofL (F.toL.set i m))) k.data.toList:=fun hp=>T0 hc hi hie hp
    have hddel:(∀k' v',um F.toL[i] k' v'→k'=k.data.toList)→vQ (qt F) (qt (.ofL (F.toL.take i++F.toL.drop (i+1)))) k.data.toList:=fun hp=>T3 hc hi hie hp
    have q:∀y,Us[i] y→S y:=hUS _ L;have hUib:∀y,Us[i] y→y<h.size:=N _ L;have hUid:∀j U,j≠i→Us[j]? =some U→Dj Us[i] U:=fun j U p I=>hPD i j _ _ (Ne.symm p) hUie I
    have nUb:¬Us[i] b:=fun hu=>by
     rcases hown with⟨_,_,_,hS0⟩|⟨_,_,A,_,_,_,hUA⟩
     ·exact hS0 _ (q _ hu)
     ·exact(hUA _ L b hu).2 rfl
    generalize F.toL[i]=m at hkl Z hcm hin_m O H hdset hddel hie;generalize Us[i]=Ui at Z hUie L q hUib hUid nUb;obtain⟨lab,wk,Fk⟩:=m;simp only at hkl Z hcm hie H;refine⟨ksl,dI (i:=0) hkb,WI (fun rest z=>?_) fun hnr=>?_⟩
    ·rw[hkl]at z
     have hlne:lab.length≠0:=fun e=>hcm.1 (List.length_eq_zero_iff.1 e)
     have hrl:rest.size<k.size:=by
      rw[←lh rest,←hlk,z,ad];omega
     refine aj.2 ⟨_,rfl,s,dI (i:=3) hb,⟨by simp only;omega,hlt1⟩,a,ha,some ⟨kb,0,none⟩,hvv,?_⟩;have hkbd:∀j v,qt Fk j v→j.length≤1000000:=fun j v f=>by
      have:=hbd _ v (O (lab++j) v ⟨j,rfl,.inr f⟩);rw[ad]at this;omega
     have tU:∀{M:Nat→Prop} {h':af},Upd M h h'→(∀y,M y→Ui y)→By h' w' o:=fun ku hM=>t.upd ku fun b e d=>absurd (q _ (hM _ d)) (hwS _ e)
     refine ih (W:=W) (S:=Ui) rest (by omega) Z t hW (fun y d=>D y (q y d)) hWo (fun a e d=>hwS a e (q _ d)) hcm.2.2 hkbd fun h2 b2 w2 F2 SV Y ku rn2 hSV' hc2 hd2 hg0 hg1=>?_
     have z02:=ku.size;cases Y with
     |false=>
      obtain⟨_,_,_,hu20,hnin⟩:=hg0 rfl;refine aA.2 (X hu20 fun v f=>?_)
      rcases f with⟨h,_⟩|f
      ·exact J h
      ·obtain⟨r',e,hr'⟩:=hin_m v f
       simp only at e;rw[z]at e;exact hnin v (by rw[List.append_cancel_left e];exact hr')
     |true=>
      obtain⟨v0,hv0⟩:=hg1 rfl;have hthere:∃v,rO w F k.data.toList v:=⟨v0,.inr (O _ _ ⟨_,z,hv0⟩)⟩;have hdn:vQ (um (lab,wk,Fk)) (um (lab,w2,F2)) k.data.toList:=by
       rw[z];exact QD hd2
      have hmem2:∀{V:Nat→Prop},∀U∈Us.set i V,U∈Us∨U=V:=fun U C=>List.mem_or_eq_of_mem_set C
      have hsetm:∀V:Nat→Prop,V∈Us.set i V:=fun V=>aE (i:=i) (by rw[eE,if_pos rfl,if_pos hUi0])
      refine aj.2 (mz (W:=W) (S:=S) (Us:=Us.set i SV) (tU ku fun _ h=>h) hWo (ku.get hb nUb) (by rw[hL.1];exact hn) (own2 ku (fun y d=>⟨q y d,_,L,d⟩) _ fun U C y d=>?_) fun h3 G s3 A3 b3 ho3 g R hU3 hu3=>?_)
      ·rcases hmem2 U C with h|rfl
       ·exact⟨.inl ⟨U,h,d⟩,by have:=N U h y d;omega⟩
       ·exact⟨(hSV' y d).1.imp (fun h=>⟨_,L,h⟩) id,(hSV' y d).2⟩
      have hUj:∀{j U},j≠i→Us[j]? =some U→U∈Us.set i SV:=fun{j U} p I=>aE (i:=j) (by rw[eE,if_neg (Ne.symm p)];exact I)
      have z23:=hu3.size;obtain⟨rr,vv,f⟩:=nq hc _ hmem;have hlb:lab.length≤1000000:=by
       have:=hbd _ v0 (O _ _ ⟨_,z,hv0⟩);rw[z,ad]at this;omega
      have hb2:∀j v,qt F2 j v→j.length≤1000000:=fun j v f=>by
       rcases((hd2 j v).1 (.inr f)).2 with⟨e,_⟩|h
       ·rw[e];simp
       ·exact hkbd j v h
      refine PF (W:=fun y=>(W y∨SV y)∨(h2.size≤y∧y<h3.size)) (S:=SV) ((rn2.less (W':=fun y=>(W y∨SV y)∨(h2.size≤y∧y<h3.size)) fun y d=>d.imp id fun h=>h.1).upd0 hu3) ((tU ku fun _ h=>h).upd0 hu3) (fun y d=>?_) (fun y d=>.inl (.inr d)) (fun a e=>.inl (.inl (hWo a e))) hc2 (by rw[hkl];exact hcm.1) (by rw[←lh ksl,hkl];exact hlb) hb2 fun h4 r4 o4 S4 hu4 hm4 hr4 hS4=>?_
      ·rcases d with(h|h)|h
       ·have:=hW y h;omega
       ·have:=(hSV' y h).2;omega
       ·exact h.2
      rw[hkl]at hm4;have z34:=hu4.size;have b4:=hu4.get b3 fun h=>(hU3 SV (hsetm SV) _ h).2 rfl
      have ho4:=ho3.upd hu4 fun y d h=>(hU3 SV (hsetm SV) y h).1 d
      have hlen4:=ho4.len;have u04:Upd Ui h h4:=(ku.tr hu3.wide).trans hu4 fun y d=>(hSV' y d).1
      have B:∀y,A3 y→(S y∨h.size≤y)∧y≠G∧y<h4.size:=fun y d=>⟨(g y d).1.imp id fun h=>by omega,(g y d).2.1,by have:=(g y d).2.2;omega⟩
      have Q:S G∨h.size≤G:=R.imp id fun h=>by omega
      have hS4':∀y,S4 y→(Ui y∨h.size≤y)∧y<h4.size:=fun y d=>⟨(hS4 y d).1.elim (fun h=>(hSV' y h).1) fun h=>.inr (by omega),(hS4 y d).2⟩
      have hS4A:∀y,S4 y→¬A3 y∧y≠G:=fun y d=>by
       rcases(hS4 y d).1 with h|h
       ·exact hU3 SV (hsetm SV) y h
       ·exact⟨fun ha=>by have:=(g y ha).2.2;omega,by have:=aL b3;omega⟩
      have oth:∀{h5:af} {W':Nat→Prop} {j:Nat} {k':Option Addr} {n':Bn} {U:Nat→Prop},j≠i→ks[j]? =some k'→F.toL[j]? =some n'→Us[j]? =some U→Upd (fun y=>Ui y∨A3 y∨y=G) h h5→(∀y,W' y→W y∨h.size≤y)→KidO o W' h5 k' n' U:=fun{h5 W' j k' n' U} p ek en I ku5 hW'=>
       KidO.move ku5 (hL.2.2 j k' n' U ek en I) (N U (aE I)) (fun y d=>by
        rcases d with h|h|rfl
        ·exact .inl ⟨D y (q y h),hUid j U p I y h⟩
        ·exact(B y h).1.imp (fun hs=>⟨D y hs,fun hu=>(hU3 U (hUj p I) y hu).1 h⟩) id
        ·exact Q.imp (fun hs=>⟨D _ hs,fun hu=>(hU3 U (hUj p I) _ hu).2 rfl⟩) id) hW'
      rcases hr4 with⟨rfl,rfl⟩|⟨m4,rfl,kid4⟩
      ·rcases hm4 with⟨_,hnone⟩|⟨_,e,_⟩
       ·have ew:IntKind.wrap .i64 ((i:Int)+1)=((i+1:Nat):Int):=by rw[jj (by omega)];omega
        refine aA.2 ⟨_,rfl,s3,dI (i:=3) b4,?_⟩;simp only;rw[ew];refine QF ho4 T (by rw[hL.1];omega) fun s5 h5 ho5 P=>?_
        have b5:=P.get b4 fun hx=>(g _ hx).2.1 rfl
        refine⟨_,rfl,Vo (i:=3) b5 (show 3<5 by decide),Hb (i:=3) (c':=zP sl w.isSome val s5 o) b5 rfl fun h6 b6 hu6=>?_⟩
        have z45:=P.size;have z56:=hu6.size;have u06:Upd (fun y=>Ui y∨A3 y∨y=G) h h6:=((u04.mono fun y d=>.inl (.inl d)).trans P fun y d=>.inl (.inr (.inl d))).trans hu6 fun y d=>.inl (.inr (.inr d))
        have hmd:∀U∈Us.take i++Us.drop (i+1),∃j,j≠i∧Us[j]? =some U:=fun U C=>by
         obtain⟨j,p⟩:=iU C;rw[←ii,qI]at p;split at p
         ·exact⟨j,by omega,p⟩
         ·exact⟨j+1,by omega,p⟩
        obtain⟨rx,E⟩:=PE (W:=W) (S:=S) (Us':=Us.take i++Us.drop (i+1)) (L':=F.toL.take i++F.toL.drop (i+1)) hW hno b6 hv (ho5.upd hu6 fun y d=>(g y d).2.1) (fun y d=>⟨(B y d).1,(B y d).2.1,by have:=(B y d).2.2;omega⟩) Q (fun U C y d=>by
         obtain⟨j,p,e⟩:=hmd U C
         exact hU3 U (hUj p e) y d) (fun U C y d=>by
         obtain⟨j,p,e⟩:=hmd U C
         have hm:=aE e
         exact⟨.inl (hUS U hm y d),by have:=N U hm y d;omega⟩) (ZE hPD i) fun E=>by
          refine⟨by simp[hL.1],by simp[hL.2.1],fun j k' n' U ek en I=>?_⟩
          simp only[←ii,qI]at ek en I;have hw:∀y,(W y∨SR o G A3 (Us.take i++Us.drop (i+1)) y)→W y∨h.size≤y:=fun y d=>d.elim .inl fun h=>(E y h).1.imp (D y) id
          split at ek
          ·rename_i p
           rw[if_pos p]at en I;exact oth (by omega) ek en I u06 hw
          ·rename_i p
           rw[if_neg p]at en I;exact oth (by omega) ek en I u06 hw
        refine hk h6 G w _ _ true (u06.mono fun y d=>?_) rx E (YB hc) (HT J (hddel fun k' v' hN=>Classical.byContradiction fun hne=>hnone k' v' ((hdn k' v').2 ⟨hne,hN⟩))) (fun h=>by cases h) fun _=>hthere
        rcases d with h|h|rfl
        ·exact .inl (q y h)
        ·exact(B y h).1
        ·exact Q
       ·cases e
      ·rcases hm4 with⟨e,_⟩|⟨m',e,hcn,hhd,hiff⟩
       ·cases e
       ·cases e
        obtain⟨kb4,ksl4,rfl,hkl4,rn4⟩:=id kid4;obtain⟨a3,ha3,hab,hw3,ho5,P⟩:=OwnS.setAt ho4 T (some ⟨kb4,0,none⟩);refine aj.2 ⟨_,rfl,s3,dI (i:=3) b4,⟨by simp only;omega,by simp only;omega⟩,a3,ha3,?_⟩
        have hw1:Wr h4 (adr a3 (i*1)):=by
         rcases hw3 with hw|⟨G,R,hw⟩
         ·cases hw
         ·cases R;exact hw 0 (by simp)
        refine⟨hw1,ce ?_⟩;change K (some ⟨G,0,none⟩,true) (g8 h4 (adr a3 (i*1)) 0 (m9 (some ⟨kb4,0,none⟩)));have b5:=P.get b4 fun e=>by have e:G=a3.block:=e;exact(g _ hab).2.1 e.symm
        have z45:=P.size;have eset:ks.set i (some ⟨kb4,0,none⟩)=ks.take i++some ⟨kb4,0,none⟩::ks.drop (i+1):=by rw[List.set_eq_take_append_cons_drop,if_pos T]
        rw[←eset]at ho5;generalize g8 h4 (adr a3 (i*1)) 0 (m9 (some ⟨kb4,0,none⟩))=h5 at*;have u05:Upd (fun y=>Ui y∨A3 y∨y=G) h h5:=(u04.mono fun y d=>.inl (.inl d)).trans P fun y d=>.inl (.inr (.inl (by have d:y=a3.block:=d;rw[d];exact hab)))
        have kid5:KidO o (fun y=>W y∨SR o G A3 (Us.set i S4) y) h5 (some ⟨kb4,0,none⟩) m4 S4:=by
         refine KidO.move P kid4 (fun y d=>(hS4 y d).2) (fun y d=>?_) fun y d=>?_
         ·have d:y=a3.block:=d
          rw[←d]at hab;refine .inl ⟨?_,fun h=>(hS4A y h).1 hab⟩
          rcases(g y hab).1 with h|h
          ·exact .inl (.inl (.inl (D y h)))
          ·exact .inl (.inr ⟨h,(g y hab).2.2⟩)
         ·have f:∀y,(S y∨h2.size≤y)→y<h3.size→(((W y∨SV y)∨(h2.size≤y∧y<h3.size))∨S4 y)∨h4.size≤y:=fun y d hl=>by
           rcases d with h|h
           ·exact .inl (.inl (.inl (.inl (D y h))))
           ·exact .inl (.inl (.inr ⟨h,hl⟩))
          rcases d with h|⟨_,rfl|h|⟨U,C,h⟩⟩
          ·exact .inl (.inl (.inl (.inl h)))
          ·exact f _ R (aL b3)
          ·exact f _ (g y h).1 (g y h).2.2
          ·rcases hmem2 U C with h2'|rfl
           ·exact .inl (.inl (.inl (.inl (D _ (hUS U h2' y h)))))
           ·exact .inl (.inr h)
        obtain⟨rx,E⟩:=PE (W:=W) (S:=S) (Us':=Us.set i S4) (L':=F.toL.set i m4) hW hno b5 hv ho5 (fun y d=>⟨(B y d).1,(B y d).2.1,by have:=(B y d).2.2;omega⟩) Q (fun U C y d=>by
         obtain⟨j,p⟩:=iU C
         rw[eE]at p
         split at p
         ·rename_i e
          cases p;exact hS4A y d
         ·rename_i e
          exact hU3 U (hUj (Ne.symm e) p) y d) (fun U C y d=>by
         rcases hmem2 U C with h|rfl
         ·exact⟨.inl (hUS U h y d),by have:=N U h y d;omega⟩
         ·exact⟨(hS4' y d).1.imp (q y) id,by have:=(hS4' y d).2;omega⟩) (VG hPD fun j U p I y d hu=>by
          rcases(hS4' y d).1 with h|h
          ·exact hUid j U p I y h hu
          ·have:=N U (aE I) y hu;omega) fun E=>LsO.set hL.1 hL.2.1 (fun j k' n' U p ek en I=>oth p ek en I u05 fun y d=>d.elim .inl fun h=>(E y h).1.imp (D y) id) kid5
        refine hk h5 G w _ _ true (u05.mono fun y d=>?_) rx E (H hcn hhd) (HT J (hdset fun k' v'=>by rw[hiff k' v'];exact hdn k' v')) (fun h=>by cases h) fun _=>hthere
        rcases d with h|h|rfl
        ·exact .inl (q y h)
        ·exact(B y h).1
        ·exact Q
    ·rw[hkl]at hnr
     refine aA.2 (X (Upd.refl _ _) fun v f=>?_)
     rcases f with⟨h,_⟩|f
     ·exact J h
     ·obtain⟨r',e,_⟩:=hin_m v f
      exact hnr r' e
end Go.Proofs
namespace Go.Proofs
open Go.Lift
theorem NodeO.upd0{o:Option Addr}{W S:Nat→Prop}{h a:af}{b:Nat}{s:Slots}(c:NodeO o W h b s S)(k:Upd No h a):NodeO o W a b s S:=
 c.imp (fun n=>⟨n.1.upd k fun _ h=>h.elim,n.2⟩) fun⟨e,d,n,sp,sk,f⟩=>⟨e,d,n,sp,sk,f.upd k fun _ h=>h.elim⟩
theorem NodeO.read{o w:Option Addr}{W S:Nat→Prop}{h:af}{b:Nat}{s:Slots}(c:NodeO o W h b s S)(t:By h w o):NodeAt No h b s:=by
 rcases c with⟨n,_⟩|⟨e,d,n,sp,sk,f⟩
 ·exact n.less fun _ h=>h.elim
 ·exact f.node (fun _ _ h=>h) fun a e=>⟨id,t.plain a (t.tok e)⟩
set_option maxHeartbeats 1000000 in
theorem rS{W S:Nat→Prop}{h:af}{w o:Option Addr}{b:Nat}{s:Slots}(nd:NodeO o W h b s S)(t:By h w o)(hW:∀a,o=some a→W a.block)(hS:∀y,S y→y<h.size){i:Nat}(hi:i<32)(hx:∀y,s.p i=some y→s.k i=none)(p:Pr){K:Option Addr→af→Prop}
  (hk:∀h' b' d n sp sk,OwnN (fun y=>S y∨h.size≤y) h' b' d n sp sk ⟨upd s.p i (some p),upd s.k i none⟩ o→Upd S h h'→K (some ⟨b',0,none⟩) h'):
  HC PG gc [.pointer (some ⟨b,0,none⟩),.pointer w,.int .i64 i,.agg #[.string p.1,.string p.2]] [.c .ptr] K h:=by
 refine Aw _ w i p ?_;unfold tA cS aD cz tc jm uP aK ph jQ iX pi;have k1:=Upd.hnew No h [.string p.1,.string p.2] ay;have b1:=dq h [.string p.1,.string p.2] ay;refine ce ?_;simp only[fX h];generalize hnew h [.string p.1,.string p.2] ay=h1 at k1 b1;have z1:=aL b1;have Z:=nd.upd0 k1;have t1:=t.upd0 k1
 refine HH (Z.read t1) hi (aj.2 ?_);refine LY Z t1 hW fun h2 F d n sp sk v N=>?_
 have bits:=v.bits;have O:∀{x},(S x∨h1.size≤x)→(S x∨h.size≤x):=fun h=>h.imp id fun h=>by omega
 have z2:=N.size;have zb:=aL v.blk;obtain⟨A,B,hA,hB,q,L⟩:=v.ex;have H:=k1.tr N;have z:=N.get0 b1;refine⟨_,rfl,_,fh (i:=0) v.blk,Ej bits.d32 hi ?_⟩;rw[bits.dp i hi];cases hp:s.p i with
 |some y=>
  refine aA.2 ⟨_,rfl,sp,fh (i:=2) v.blk,_,rfl,_,fh (i:=0) v.blk,p.1,by rw[cd,bI z];rfl,p.2,by rw[cd,bI z];rfl,?_⟩
  refine rE bits.d32 hi ⟨⟨by rw[cd,bI z];rfl,by rw[cd,bI z];rfl⟩,fh (i:=2) v.blk,?_⟩
  have hlt:=KU hi bits.dp hp;obtain⟨a,ha,I,hw,R,m⟩:=OwnS.setAt hA hlt p;have hlen:=hA.len;refine⟨by omega,a,ha,?_⟩;rw[aX];refine⟨hw,ce ?_⟩;rw[←V4 hi bits.dp hp]at R;have ob:=m.get v.blk fun e=>(q _ I).2.2.1 e.symm
  have z3:=m.size;have o3:OwnN (fun x=>S x∨h1.size≤x) _ F d n sp sk ⟨upd s.p i (some p),upd s.k i none⟩ o:=⟨ob,⟨bits.d32,bits.n32,fun c hc=>by
    rw[bits.dp c hc];simp only[upd];split
    ·rename_i e;rw[e,hp];rfl
    ·rfl,fun c hc=>by rw[bits.nk c hc,wF (hx y hp)]⟩,
   ⟨A,B,R,by rw[wF (hx y hp)];exact hB.upd m fun x hx e=>(q _ I).2.1 (e▸hx),fun x hx=>⟨(q x hx).1,(q x hx).2.1,(q x hx).2.2.1,by have:=(q x hx).2.2.2;omega⟩,fun x hx=>⟨(L x hx).1,(L x hx).2.1,by have:=(L x hx).2.2;omega⟩⟩,v.mb⟩
  refine hk _ _ _ _ _ _ (o3.mono fun _=>O) (H.wide.trans m fun x hx=>?_)
  have hx:x=a.block:=hx;rw[hx];exact O (q _ I).1
 |none=>
  refine aj.2 ⟨_,rfl,Mj v hi fun E d3 n3 G M o3 m=>?_⟩
  have f:=o3.bits;obtain⟨A3,B3,hA3,hB3,j,k⟩:=o3.ex;have z3:=m.size;have D:=m.get z fun e=>e.elim (fun e=>by have:=hS _ e;omega) fun e=>by omega
  have hu03:Upd S h E:=H.wide.trans m fun x hx=>O hx
  refine⟨_,rfl,G,fh (i:=2) o3.blk,_,rfl,_,fh (i:=0) o3.blk,p.1,by rw[cd,bI D];rfl,p.2,by rw[cd,bI D];rfl,?_⟩
  have V:=Upd.hnew No E [.string p.1,.string p.2] ay;have b4:=dq E [.string p.1,.string p.2] ay;have z4:=ki E [.string p.1,.string p.2] ay;have P:=o3.upd V fun _ h=>h.elim
  have fin:HC PG dz [.slice G.a G.len G.cap,.int .i64 (xp i d3),.slice (some (aI E)) 1 1] [.c .slice] (fun(J:SliceV) Q=>
       ∃a34:Addr,some (⟨F,0,none⟩:Addr)=some a34∧
       (Wr Q (adr (adr a34 0) 2)∧
        At (hset Q (adr (adr a34 0) 2) (.slice J.a J.len J.cap)) (fun h35=>
         ∃a36:Addr,some (⟨F,0,none⟩:Addr)=some a36∧
         ∃v37:Int,aR h35 (adr (adr a36 0) 0)=some (.int .u32 v37)∧
         HC PG ge [.int .u32 v37,.int .i64 i] [.c (.int .u32)] (fun(e38:Int) Y=>
          ∃a40:Addr,some (⟨F,0,none⟩:Addr)=some a40∧
          (Wr Y (adr (adr a40 0) 0)∧
           At (hset Y (adr (adr a40 0) 0) (.int .u32 e38)) (fun h41=>
            K (some ⟨F,0,none⟩) h41))) h35))) (hnew E [.string p.1,.string p.2] ay):=by
   generalize hnew E [.string p.1,.string p.2] ay=h4 at V b4 z4 P;rw[fX E];have hA4:=(hA3.upd V fun _ _ h=>h).more (M':=fun x=>A3 x∨h4.size≤x) fun x hx=>.inl hx
   have hpn:(⟨upd s.p i none,upd s.k i none⟩:Slots).p i=none:=ik;refine Qo hA4 (Y0 hi f.dp) (by have:=yi (g:=(⟨upd s.p i none,upd s.k i none⟩:Slots).p);omega) (x:=p) b4 (fun e=>e.elim (fun e=>by have:=(j _ e).2.2.2;omega) fun e=>by omega) (fun x hx=>.inr hx) fun s5 h5 T C=>?_
   rw[←V5 hi f.dp hpn p]at T;have hbl:F<E.size:=aL o3.blk;have b5:=C.get P.blk fun e=>e.elim (fun e=>(j _ e).2.2.1 rfl) fun e=>by omega
   refine⟨_,rfl,Xs (i:=2) b5 (show 2<6 by decide),Jl (i:=2) (c':=gj d3 n3 s5 M false o) b5 rfl fun h6 b6 hu6=>?_⟩
   refine⟨_,rfl,_,fh (i:=0) b6,RF f.d32 hi fun w1 hw hwt=>?_⟩
   refine⟨_,rfl,Xs (i:=0) b6 (show 0<6 by decide),Jl (i:=0) (c':=gj w1 n3 s5 M false o) b6 rfl fun h7 b7 hu7=>?_⟩
   have u:=hu6.tr hu7;have z5:=C.size;have z7:=u.size;have X:=T.within;have e1:(⟨upd (⟨upd s.p i none,upd s.k i none⟩:Slots).p i (some p),upd s.k i none⟩:Slots)=⟨upd s.p i (some p),upd s.k i none⟩:=by rw[RG]
   have o7:OwnN (fun x=>S x∨h1.size≤x) h7 F w1 n3 s5 M ⟨upd s.p i (some p),upd s.k i none⟩ o:=by
    rw[←e1];refine⟨b7,⟨hw,f.n32,fun c hc=>?_,f.nk⟩,⟨fun x=>(A3 x∨h4.size≤x)∧x<h5.size,B3,X.upd u fun x hx e=>?_,((hB3.upd V fun _ _ h=>h).upd C fun x hx e=>?_).upd u fun x hx e=>(k x hx).2.1 e,fun x hx=>⟨?_,?_,?_,by omega⟩,fun x hx=>⟨(k x hx).1,(k x hx).2.1,by have:=(k x hx).2.2;omega⟩⟩,v.mb⟩
    ·rw[hwt,f.dp c hc];simp only[upd];split<;>simp[*]
    ·have e:x=F:=e
     rcases hx.1 with h|h
     ·exact(j x h).2.2.1 e
     ·omega
    ·rcases e with e|e
     ·exact(j x e).2.1 hx
     ·have:=(k x hx).2.2;omega
    ·rcases hx.1 with h|h
     ·exact(j x h).1
     ·exact .inr (by omega)
    ·rcases hx.1 with h|h
     ·exact(j x h).2.1
     ·exact fun hb=>by have:=(k x hb).2.2;omega
    ·rcases hx.1 with h|h
     ·exact(j x h).2.2.1
     ·omega
   refine hk _ _ _ _ _ _ (o7.mono fun _=>O) (((hu03.tr V.wide).trans C fun x hx=>?_).trans u fun x hx=>?_)
   ·rcases hx with h|h
    ·exact O (j x h).1
    ·exact .inr (by omega)
   ·have hx:x=F:=hx
    rw[hx];exact O v.mb
  refine⟨rE f.d32 hi ⟨⟨by rw[cd,bI D];rfl,by rw[cd,bI D];rfl⟩,fh (i:=2) o3.blk,ce ⟨fh (i:=2) P.blk,fin⟩⟩,ce ⟨fh (i:=0) P.blk,fh (i:=2) P.blk,rE f.d32 hi ⟨fh (i:=2) P.blk,fin⟩⟩⟩
theorem Uc{W S:Nat→Prop}{h:af}{w o:Option Addr}{b:Nat}{s:Slots}(g:NodeO o W h b s S)(t:By h w o)(q:∀a,o=some a→W a.block){i:Nat}(hi:i<32){K:Option Addr→af→Prop}
  (m:∀h' b' d n sp sk,OwnN (fun y=>S y∨h.size≤y) h' b' d n sp sk ⟨upd s.p i none,upd s.k i none⟩ o→Upd S h h'→K (some ⟨b',0,none⟩) h'):
  HC PG mP [.pointer (some ⟨b,0,none⟩),.pointer w,.int .i64 i] [.c .ptr] K h:=by
 refine Ds _ w i ?_;unfold vJ uP jQ;refine HH (g.read t) hi (aj.2 ?_);refine LY g t q fun z B d n sp sk p c=>⟨_,rfl,Mj p hi fun u A v k j o3 f=>?_⟩
 exact m _ _ _ _ _ _ o3 (c.wide.trans f fun x hx=>hx)
set_option maxHeartbeats 1000000 in
theorem xu{W S:Nat→Prop}{h:af}{w o:Option Addr}{b:Nat}{s:Slots}(nd:NodeO o W h b s S)(t:By h w o)(hW:∀a,o=some a→W a.block){i:Nat}(hi:i<32)(hx:∀y,s.k i=some y→s.p i=none)(kid:Addr){K:Option Addr→af→Prop}
  (hk:∀h' b' d n sp sk,OwnN (fun y=>S y∨h.size≤y) h' b' d n sp sk ⟨upd s.p i none,upd s.k i (some (some kid))⟩ o→Upd S h h'→K (some ⟨b',0,none⟩) h'):
  HC PG iz [.pointer (some ⟨b,0,none⟩),.pointer w,.int .i64 i,.pointer (some kid)] [.c .ptr] K h:=by
 refine BX _ w i (some kid) ?_;unfold uE cS cz uP aK jQ Lv iX pi;refine aj.2 ?_;refine HH (nd.read t) hi (aj.2 ?_);refine LY nd t hW fun h2 D d n sp sk q J=>?_
 have bits:=q.bits;have z2:=J.size;have zb:=aL q.blk;obtain⟨A,B,hA,hB,u,v⟩:=q.ex;refine⟨_,rfl,_,fh (i:=1) q.blk,Ej bits.n32 hi ?_⟩;rw[bits.nk i hi];cases hp:s.k i with
 |some y=>
  refine aA.2 ⟨_,rfl,sk,fh (i:=3) q.blk,_,rfl,_,fh (i:=1) q.blk,?_⟩;refine rE bits.n32 hi ⟨fh (i:=3) q.blk,?_⟩;have hlt:=KU hi bits.nk hp;obtain⟨a,ha,F,G,N,m⟩:=OwnS.setAt hB hlt (some kid);have hlen:=hB.len;refine⟨by omega,a,ha,?_⟩;rw[aX];have hw1:Wr h2 (adr a (xp i n*1)):=by
   rcases G with G|⟨b',hb',G⟩
   ·cases G
   ·cases hb';exact G 0 (by simp)
  refine⟨hw1,ce ?_⟩;rw[←V4 hi bits.nk hp]at N;have ob:=m.get q.blk fun e=>(v _ F).2.1 e.symm
  have z3:=m.size;have o3:OwnN (fun x=>S x∨h.size≤x) _ D d n sp sk ⟨upd s.p i none,upd s.k i (some (some kid))⟩ o:=⟨ob,⟨bits.d32,bits.n32,fun c hc=>by rw[bits.dp c hc,wF (hx y hp)],fun c hc=>by
    rw[bits.nk c hc];simp only[upd];split
    ·rename_i e;rw[e,hp];rfl
    ·rfl⟩,
   ⟨A,B,by rw[wF (hx y hp)];exact hA.upd m fun x hx e=>(u _ hx).2.1 (e▸F),N,fun x hx=>⟨(u x hx).1,(u x hx).2.1,(u x hx).2.2.1,by have:=(u x hx).2.2.2;omega⟩,fun x hx=>⟨(v x hx).1,(v x hx).2.1,by have:=(v x hx).2.2;omega⟩⟩,q.mb⟩
  refine hk _ _ _ _ _ _ o3 (J.wide.trans m fun x hx=>?_)
  have hx:x=a.block:=hx;rw[hx];exact(v _ F).1
 |none=>
  refine aj.2 ⟨_,rfl,Mj q hi fun C d3 n3 H E o3 m=>?_⟩
  have f:=o3.bits;obtain⟨A3,B3,Y,hB3,j,k⟩:=o3.ex;have z3:=m.size;have T:Upd S h C:=J.wide.trans m fun x hx=>hx
  refine⟨_,rfl,E,fh (i:=3) o3.blk,_,rfl,_,fh (i:=1) o3.blk,?_⟩;have P:=Upd.hnew No C [.pointer (some kid)] bZ;have b4:=dq C [.pointer (some kid)] bZ;have z4:=ki C [.pointer (some kid)] bZ;have L:=o3.upd P fun _ h=>h.elim
  have fin:HC PG cY [.slice E.a E.len E.cap,.int .i64 (xp i n3),.slice (some (aI C)) 1 1] [.c .slice] (fun(I:SliceV) M=>
       ∃a34:Addr,some (⟨D,0,none⟩:Addr)=some a34∧
       (Wr M (adr (adr a34 0) 3)∧
        At (hset M (adr (adr a34 0) 3) (.slice I.a I.len I.cap)) (fun V=>
         ∃a36:Addr,some (⟨D,0,none⟩:Addr)=some a36∧
         ∃v37:Int,aR V (adr (adr a36 0) 1)=some (.int .u32 v37)∧
         HC PG ge [.int .u32 v37,.int .i64 i] [.c (.int .u32)] (fun(e38:Int) R=>
          ∃a40:Addr,some (⟨D,0,none⟩:Addr)=some a40∧
          (Wr R (adr (adr a40 0) 1)∧
           At (hset R (adr (adr a40 0) 1) (.int .u32 e38)) (fun h41=>
            K (some ⟨D,0,none⟩) h41))) V))) (hnew C [.pointer (some kid)] bZ):=by
   generalize hnew C [.pointer (some kid)] bZ=h4 at P b4 z4 L;rw[fX C];have hB4:=(hB3.upd P fun _ _ h=>h).more (M':=fun x=>B3 x∨h4.size≤x) fun x hx=>.inl hx
   have hpn:(⟨upd s.p i none,upd s.k i none⟩:Slots).k i=none:=ik;refine Qp hB4 (Y0 hi f.nk) (by have:=yi (g:=(⟨upd s.p i none,upd s.k i none⟩:Slots).k);omega) (x:=some kid) b4 (fun e=>e.elim (fun e=>by have:=(k _ e).2.2;omega) fun e=>by omega) (fun x hx=>.inr hx) fun s5 h5 O z=>?_
   rw[←V5 hi f.nk hpn (some kid)]at O;have hbl:D<C.size:=aL o3.blk;have b5:=z.get L.blk fun e=>e.elim (fun e=>(k _ e).2.1 rfl) fun e=>by omega
   refine⟨_,rfl,Xs (i:=3) b5 (show 3<6 by decide),Jl (i:=3) (c':=gj d3 n3 H s5 false o) b5 rfl fun h6 X hu6=>?_⟩
   refine⟨_,rfl,_,fh (i:=1) X,RF f.n32 hi fun w1 G hwt=>?_⟩
   refine⟨_,rfl,Xs (i:=1) X (show 1<6 by decide),Jl (i:=1) (c':=gj d3 w1 H s5 false o) X rfl fun h7 b7 Z=>?_⟩
   have p:=hu6.tr Z;have z5:=z.size;have z7:=p.size;have Q:=O.within;have e1:(⟨upd s.p i none,upd (⟨upd s.p i none,upd s.k i none⟩:Slots).k i (some (some kid))⟩:Slots)=⟨upd s.p i none,upd s.k i (some (some kid))⟩:=by rw[RG]
   have o7:OwnN (fun x=>S x∨h.size≤x) h7 D d3 w1 H s5 ⟨upd s.p i none,upd s.k i (some (some kid))⟩ o:=by
    rw[←e1];refine⟨b7,⟨f.d32,G,f.dp,fun c hc=>?_⟩,⟨A3,fun x=>(B3 x∨h4.size≤x)∧x<h5.size,((Y.upd P fun _ _ h=>h).upd z fun x hx e=>?_).upd p fun x hx e=>(j x hx).2.2.1 e,Q.upd p fun x hx e=>?_,fun x hx=>⟨(j x hx).1,?_,(j x hx).2.2.1,by have:=(j x hx).2.2.2;omega⟩,fun x hx=>⟨?_,?_,by omega⟩⟩,q.mb⟩
    ·rw[hwt,f.nk c hc];simp only[upd];split<;>simp[*]
    ·rcases e with e|e
     ·exact(j x hx).2.1 e
     ·have:=(j x hx).2.2.2;omega
    ·have e:x=D:=e
     rcases hx.1 with h|h
     ·exact(k x h).2.1 e
     ·omega
    ·rintro⟨h|h,_⟩
     ·exact(j x hx).2.1 h
     ·have:=(j x hx).2.2.2;omega
    ·rcases hx.1 with h|h
     ·exact(k x h).1
     ·exact .inr (by omega)
    ·rcases hx.1 with h|h
     ·exact(k x h).2.1
     ·omega
   refine hk _ _ _ _ _ _ o7 (((T.tr P.wide).trans z fun x hx=>?_).trans p fun x hx=>?_)
   ·rcases hx with h|h
    ·exact(k x h).1
    ·exact .inr (by omega)
   ·have hx:x=D:=hx
    rw[hx];exact q.mb
  refine⟨rE f.n32 hi ⟨fh (i:=3) o3.blk,ce ⟨fh (i:=3) L.blk,fin⟩⟩,ce ⟨fh (i:=1) L.blk,fh (i:=3) L.blk,rE f.n32 hi ⟨fh (i:=3) L.blk,fin⟩⟩⟩
end Go.Proofs
namespace Go.Proofs
open Go.Lift
def OwnB(M:Nat→Prop)(h:af)(b:Nat)(sp sk:SliceV)(l:List Pr)(o:Option Addr):Prop:=
 h[b]? =some (.cells (gj 0 0 sp sk true o) cj (0,0))∧M b∧∃A B:Nat→Prop,OwnS fe 2 ay A h sp l∧OwnS rG 1 bZ B h sk []∧(∀x,A x→M x∧x≠b∧x<h.size)∧(∀x,B x→M x∧x≠b∧x<h.size)
theorem OwnB.upd{M M':Nat→Prop}{h g:af}{b:Nat}{sp sk:SliceV}{l:List Pr}{o:Option Addr}(n:OwnB M h b sp sk l o)(k:Upd M' h g)(hm:∀x,M' x→¬M x):OwnB M g b sp sk l o:=by
 obtain⟨m,f,A,B,j,i,c,a⟩:=n;have z:=k.size;exact⟨k.get m fun hx=>hm _ hx f,f,A,B,j.upd k fun x hx d=>hm _ d (c x hx).1,i.upd k fun x hx d=>hm _ d (a x hx).1,fun x hx=>⟨(c x hx).1,(c x hx).2.1,by have:=(c x hx).2.2;omega⟩,fun x hx=>⟨(a x hx).1,(a x hx).2.1,by have:=(a x hx).2.2;omega⟩⟩
theorem OwnB.mono{M M':Nat→Prop}{h:af}{b:Nat}{sp sk:SliceV}{l:List Pr}{o:Option Addr}(n:OwnB M h b sp sk l o)(hm:∀x,M x→M' x):OwnB M' h b sp sk l o:=by
 obtain⟨i,g,A,B,f,d,c,a⟩:=n;exact⟨i,hm _ g,A,B,f,d,fun x hx=>⟨hm _ (c x hx).1,(c x hx).2⟩,fun x hx=>⟨hm _ (a x hx).1,(a x hx).2⟩⟩
theorem OwnB.within{M:Nat→Prop}{h:af}{b:Nat}{sp sk:SliceV}{l:List Pr}{o:Option Addr}(n:OwnB M h b sp sk l o):OwnB (fun x=>M x∧x<h.size) h b sp sk l o:=by
 obtain⟨d,i,A,B,g,f,c,a⟩:=n;exact⟨d,⟨i,aL d⟩,A,B,g,f,fun x hx=>⟨⟨(c x hx).1,(c x hx).2.2⟩,(c x hx).2⟩,fun x hx=>⟨⟨(a x hx).1,(a x hx).2.2⟩,(a x hx).2⟩⟩
theorem OwnB.buck{M W:Nat→Prop}{h:af}{b:Nat}{sp sk:SliceV}{l:List Pr}{o:Option Addr}(n:OwnB M h b sp sk l o)(a:∀x,M x→¬W x)(k:OwOk W h o):BuckAt W h b l:=by
 obtain⟨j,i,A,B,d,c,g,f⟩:=n;exact⟨⟨sp,sk,o,j,d.sl fun x hx _=>a _ (g x hx).1,c.sl fun x hx _=>a _ (f x hx).1,d.cap,c.cap,k⟩,a _ i⟩
def BuckO(o:Option Addr)(W:Nat→Prop)(h:af)(b:Nat)(l:List Pr)(S:Nat→Prop):Prop:=
 (BuckAt W h b l∧∀y,¬S y)∨(o.isSome=true∧∃sp sk,OwnB S h b sp sk l o)
theorem BuckO.upd0{o:Option Addr}{W S:Nat→Prop}{h a:af}{b:Nat}{l:List Pr}(n:BuckO o W h b l S)(k:Upd No h a):BuckO o W a b l S:=
 n.imp (fun n=>⟨n.1.upd k fun _ h=>h.elim,n.2⟩) fun⟨e,sp,sk,c⟩=>⟨e,sp,sk,c.upd k fun _ h=>h.elim⟩
theorem BuckO.read{o w:Option Addr}{W S:Nat→Prop}{h:af}{b:Nat}{l:List Pr}(c:BuckO o W h b l S)(t:By h w o):BuckAt No h b l:=by
 rcases c with⟨n,_⟩|⟨e,sp,sk,d⟩
 ·exact n.less fun _ h=>h.elim
 ·exact d.buck (fun _ _ h=>h) fun a e=>⟨id,t.plain a (t.tok e)⟩
theorem NU{W S:Nat→Prop}{h:af}{w o:Option Addr}{b:Nat}{l:List Pr}(g:BuckO o W h b l S)(t:By h w o)(G:∀a,o=some a→W a.block)(J:l.length≤1000000000){K:Option Addr→af→Prop}
  (C:∀j m sp sk,OwnB (fun y=>S y∨h.size≤y) j m sp sk l o→Upd No h j→K (some ⟨m,0,none⟩) j):
  HC PG fT [.pointer (some ⟨b,0,none⟩),.pointer w] [.c .ptr] K h:=by
 rcases g with⟨g,_⟩|⟨z,sp,sk,g⟩
 ·obtain⟨sp,sk,ow,H,q,u,F,D,i⟩:=g.ex
  refine RW (d:=0) (n:=0) t H (fun a e=>(i a e).2) ?_ q u J (by simp) fun j p s A B m E I f c k=>?_
  ·cases ho:o with
   |none=>rfl
   |some a=>
    have e:=t.tok ho;rw[Option.isSome_some,Bool.true_and,beq_eq_false_iff_ne];intro v;rw[e]at v;exact(i a v).1 (G a ho)
  ·exact C j h.size p s ⟨m,.inr (ao _),A,B,E,I,fun x hx=>⟨.inr (by have:=(f x hx).1;omega),by have:=(f x hx).1;omega,(f x hx).2.2⟩,fun x hx=>⟨.inr (by have:=(c x hx).1;omega),by have:=(c x hx).1;omega,(c x hx).2⟩⟩ k
 ·refine RV (d:=0) (n:=0) t g.1 (fun a e=>t.plain a (t.tok e)) ?_ (C h b sp sk (g.mono fun _ h=>.inl h) (Upd.refl _ _))
  obtain⟨a,e⟩:=Option.isSome_iff_exists.1 z;rw[z,e,t.tok e];simp
theorem H9{W S:Nat→Prop}{h:af}{w o:Option Addr}{b:Nat}{l:List Pr}(X:BuckO o W h b l S)(t:By h w o)(P:∀a,o=some a→W a.block)(hS:∀y,S y→y<h.size)(C:cA l)(E:l.length≤1000000000)(p:Pr){K:Option Addr→af→Prop}
  (T:∀h' b' sp sk,OwnB (fun y=>S y∨h.size≤y) h' b' sp sk (iV p l) o→Upd S h h'→K (some ⟨b',0,none⟩) h'):
  HC PG ml [.pointer (some ⟨b,0,none⟩),.pointer w,.agg #[.string p.1,.string p.2]] [.c .ptr] K h:=by
 refine F7 _ w p ?_;unfold yy aD oZ cz tc uP aK;have k1:=Upd.hnew No h [.string p.1,.string p.2] ay;have b1:=dq h [.string p.1,.string p.2] ay;refine ce ?_;simp only[fX h];generalize hnew h [.string p.1,.string p.2] ay=h1 at k1 b1;have Z:=aL b1;have q:=X.upd0 k1;have D:=t.upd0 k1;obtain⟨sp,sk,ow,Q,J,O,N,M⟩:=(q.read D).ex
 refine g7 (d:=0) (n:=0) Q (aj.2 ?_);refine NU q D P E fun G u s2 z I j=>?_
 obtain⟨b2,hM,A,B,v,R,ha,g⟩:=I;have m:=j.get0 b1;refine⟨_,rfl,s2,fh (i:=2) b2,p.1,by rw[cd,bI m];rfl,p.2,by rw[cd,bI m];rfl,?_⟩
 refine P6 (v.sl (W:=No) fun _ _ _ h=>h) v.cap C E p fun s3 L k f=>?_
 rw[Sg p C]at k;have b3:=f.get0 b2;refine⟨_,rfl,Xs (i:=2) b3 (show 2<6 by decide),Jl (i:=2) (c':=gj 0 0 s3 z true o) b3 rfl fun V F c=>?_⟩
 have z2:=aL b2;have H:=j.size;have Y:=f.size;have z4:=c.size;have s:∀{x},(S x∨h1.size≤x)→(S x∨h.size≤x):=fun h=>h.imp id fun h=>by omega
 refine T V u s3 z ⟨F,s hM,fun x=>G.size≤x∧x<L.size,B,k.within.upd c fun x hx e=>?_,(R.upd f fun _ _ h=>h).upd c fun x hx e=>(g x hx).2.1 e,fun x hx=>⟨.inr (by omega),by omega,by omega⟩,fun x hx=>⟨s (g x hx).1,(g x hx).2.1,by have:=(g x hx).2.2;omega⟩⟩ ((((k1.tr j).tr f).wide).trans c fun x hx=>?_)
 ·have e:x=u:=e
  have:=hx.1;omega
 ·have hx:x=u:=hx
  rw[hx];exact s hM
def TrieO(o:Option Addr)(W:Nat→Prop)(x:Hs)(h:af):Nat→Nat→List Pr→(Nat→Prop)→Prop
 |0,b,l,S=>BuckO o W h b l S
 |m+1,b,l,S=>(TrieAt W x h (m+1) b l∧∀y,¬S y)∨(o.isSome=true∧∃(s:Slots) (d n:Nat) (sp sk:SliceV) (S0:Nat→Prop) (T:Nat→Nat→Prop),OwnN S0 h b d n sp sk s o∧(∀y,S0 y→S y)∧(∀c y,T c y→S y∧¬S0 y)∧(∀c c' y,T c y→T c' y→c=c')∧∀c,c<32→
  ((part x (12-m) c l= []∧s.p c=none∧s.k c=none∧∀y,¬T c y)∨(∃p,part x (12-m) c l= [p]∧s.p c=some p∧s.k c=none∧∀y,¬T c y)∨
   (2≤(part x (12-m) c l).length∧s.p c=none∧∃kb,s.k c=some (some ⟨kb,0,none⟩)∧TrieO o W x h m kb (part x (12-m) c l) (T c))))
def SlotO(o:Option Addr)(W:Nat→Prop)(x:Hs)(h:af)(m:Nat)(s:Slots)(c:Nat)(l:List Pr)(T:Nat→Prop):Prop:=
 (l= []∧s.p c=none∧s.k c=none∧∀y,¬T y)∨(∃p,l= [p]∧s.p c=some p∧s.k c=none∧∀y,¬T y)∨(2≤l.length∧s.p c=none∧∃kb,s.k c=some (some ⟨kb,0,none⟩)∧TrieO o W x h m kb l T)
theorem Ng{o:Option Addr}{W:Nat→Prop}{x:Hs}{h:af}:∀{m b:Nat} {l:List Pr},TrieAt W x h m b l→TrieO o W x h m b l No
 |0,_,_,t=>.inl ⟨t,fun _ h=>h⟩
 |_+1,_,_,t=>.inl ⟨t,fun _ h=>h⟩
theorem TrieO.freeze{o:Option Addr}{W W':Nat→Prop}{x:Hs}{h:af}(j:∀y,W' y→W y)(q:OwOk W' h o):∀{m b:Nat} {l:List Pr} {S:Nat→Prop},TrieO o W x h m b l S→(∀y,S y→¬W' y)→TrieAt W' x h m b l
 |0,_,_,_,t,hS=>t.elim (fun t=>t.1.less fun y a=>.inl (j y a)) fun⟨_,_,_,t⟩=>t.buck hS q
 |m+1,b,l,S,t,hS=>by
  rcases t with⟨t,_⟩|⟨_,s,d,n,sp,sk,B,T,z,w,u,_,hc⟩
  ·exact TrieAt.less (fun y a=>.inl (j y a)) t
  ·exact⟨s,z.node (fun y a=>hS y (w y a)) q,fun c g=>(hc c g).imp (fun h=>⟨h.1,h.2.1,h.2.2.1⟩) fun o=>o.imp (fun⟨p,f,i,k,_⟩=>⟨p,f,i,k⟩) fun⟨f,i,v,k,A⟩=>⟨f,i,v,k,TrieO.freeze j q A fun y a=>hS y (u c y a).1⟩⟩
theorem TrieO.read{o w:Option Addr}{W S:Nat→Prop}{x:Hs}{h:af}{m b:Nat}{l:List Pr}(t:TrieO o W x h m b l S)(by_:By h w o):TrieAt No x h m b l:=
 TrieO.freeze (fun _ h=>h.elim) (fun a e=>⟨id,by_.plain a (by_.tok e)⟩) t fun _ _ h=>h
theorem TrieO.off{W S:Nat→Prop}{x:Hs}{h:af}{m b:Nat}{l:List Pr}(t:TrieO none W x h m b l S):TrieAt W x h m b l∧∀y,¬S y:=by
 cases m with
 |zero=>exact t.elim id fun h=>absurd h.1 (by simp)
 |succ m=>exact t.elim id fun h=>absurd h.1 (by simp)
theorem TrieO.upd{o:Option Addr}{W M:Nat→Prop}{x:Hs}{h p:af}(k:Upd M h p):∀{m b:Nat} {l:List Pr} {S:Nat→Prop},TrieO o W x h m b l S→(∀y,S y→y<h.size)→(∀y,M y→(W y∧¬S y)∨h.size≤y)→TrieO o W x p m b l S
 |0,_,_,S,t,hS,hm=>t.imp (fun t=>⟨t.1.upd k fun y a=>(hm y a).imp (fun h=>h.1) id,t.2⟩) fun⟨e,sp,sk,t⟩=>⟨e,sp,sk,t.upd k fun y a f=>by
   have:=hS y f
   rcases hm y a with h|h
   ·exact h.2 f
   ·omega⟩
 |m+1,b,l,S,t,hS,hm=>by
  rcases t with⟨t,e⟩|⟨e,s,d,n,sp,sk,v,T,q,j,g,hd,hc⟩
  ·exact .inl ⟨TrieAt.updM k (fun y a=>(hm y a).imp (fun h=>h.1) id) t,e⟩
  ·refine .inr ⟨e,s,d,n,sp,sk,v,T,q.upd k fun y a f=>?_,j,g,hd,fun c i=>(hc c i).imp id fun o=>o.imp id fun⟨w,u,C,B,z⟩=>⟨w,u,C,B,TrieO.upd k z (fun y a=>hS y (g c y a).1) fun y a=>(hm y a).imp (fun h=>⟨h.1,fun A=>h.2 (g c y A).1⟩) id⟩⟩
   have:=hS y (j y f);rcases hm y a with h|h
   ·exact h.2 (j y f)
   ·omega
theorem TrieO.upd0{o:Option Addr}{W:Nat→Prop}{x:Hs}{h f:af}(k:Upd No h f):∀{m b:Nat} {l:List Pr} {S:Nat→Prop},TrieO o W x h m b l S→TrieO o W x f m b l S
 |0,_,_,_,t=>BuckO.upd0 t k
 |m+1,b,l,S,t=>by
  rcases t with⟨t,e⟩|⟨e,s,d,n,sp,sk,q,T,i,p,g,hd,hc⟩
  ·exact .inl ⟨TrieAt.upd0 k t,e⟩
  ·exact .inr ⟨e,s,d,n,sp,sk,q,T,i.upd k fun _ h=>h.elim,p,g,hd,fun c a=>(hc c a).imp id fun o=>o.imp id fun⟨u,j,y,w,v⟩=>⟨u,j,y,w,TrieO.upd0 k v⟩⟩
theorem TrieO.less{o:Option Addr}{W W':Nat→Prop}{x:Hs}{h:af}(hm:∀y,W' y→W y∨h.size≤y):∀{m b:Nat} {l:List Pr} {S:Nat→Prop},TrieO o W x h m b l S→TrieO o W' x h m b l S
 |0,_,_,_,t=>t.imp (fun t=>⟨t.1.less hm,t.2⟩) id
 |m+1,b,l,S,t=>by
  rcases t with⟨t,e⟩|⟨e,s,d,n,sp,sk,k,T,p,j,f,hd,hc⟩
  ·exact .inl ⟨TrieAt.less hm t,e⟩
  ·exact .inr ⟨e,s,d,n,sp,sk,k,T,p,j,f,hd,fun c a=>(hc c a).imp id fun o=>o.imp id fun⟨g,i,v,u,q⟩=>⟨g,i,v,u,TrieO.less hm q⟩⟩
theorem SlotO.upd{o:Option Addr}{W M:Nat→Prop}{x:Hs}{h a:af}(k:Upd M h a){m:Nat}{s:Slots}{c:Nat}{l:List Pr}{T:Nat→Prop}(t:SlotO o W x h m s c l T)(b:∀y,T y→y<h.size)(hm:∀y,M y→(W y∧¬T y)∨h.size≤y):SlotO o W x a m s c l T:=
 t.imp id fun o=>o.imp id fun⟨f,d,j,i,g⟩=>⟨f,d,j,i,TrieO.upd k g b hm⟩
theorem SlotO.less{o:Option Addr}{W W':Nat→Prop}{x:Hs}{h:af}(hm:∀y,W' y→W y∨h.size≤y){m:Nat}{s:Slots}{c:Nat}{l:List Pr}{T:Nat→Prop}(t:SlotO o W x h m s c l T):SlotO o W' x h m s c l T:=
 t.imp id fun o=>o.imp id fun⟨b,a,g,f,d⟩=>⟨b,a,g,f,TrieO.less hm d⟩
theorem SlotO.turn{o:Option Addr}{W:Nat→Prop}{x:Hs}{h:af}{m:Nat}{s s':Slots}{c:Nat}{l:List Pr}{T:Nat→Prop}(t:SlotO o W x h m s c l T)(b:s'.p c=s.p c)(a:s'.k c=s.k c):SlotO o W x h m s' c l T:=by
 unfold SlotO at t⊢;rw[b,a];exact t
theorem TrieO.view{o:Option Addr}{W S:Nat→Prop}{x:Hs}{h:af}{m b:Nat}{l:List Pr}(t:TrieO o W x h (m+1) b l S):
  ∃(s:Slots) (a:Nat→Prop) (T:Nat→Nat→Prop),NodeO o W h b s a∧(∀y,a y→S y)∧(∀c y,T c y→S y∧¬a y)∧(∀c c' y,T c y→T c' y→c=c')∧∀c,c<32→SlotO o W x h m s c (part x (12-m) c l) (T c):=by
 rcases t with⟨⟨s,q,hc⟩,e⟩|⟨e,s,d,n,sp,sk,a,T,v,u,k,hd,hc⟩
 ·exact⟨s,No,fun _=>No,.inl ⟨q,fun _ h=>h⟩,fun _ h=>h.elim,fun _ _ h=>h.elim,fun _ _ _ h=>h.elim,fun c g=>(hc c g).imp (fun h=>⟨h.1,h.2.1,h.2.2,fun _ h=>h⟩) fun o=>o.imp (fun⟨p,f,i,j⟩=>⟨p,f,i,j,fun _ h=>h⟩) fun⟨f,i,z,j,w⟩=>⟨f,i,z,j,Ng w⟩⟩
 ·exact⟨s,a,T,.inr ⟨e,d,n,sp,sk,v⟩,u,k,hd,hc⟩
theorem JX{o:Option Addr}{W j:Nat→Prop}{T:Nat→Nat→Prop}{x:Hs}{k:af}{m v d n z:Nat}{sp sk:SliceV}{s':Slots}{l':List Pr}(u:OwnN (fun y=>j y∨z≤y) k v d n sp sk s' o)
  (hc:∀c,c<32→SlotO o W x k m s' c (part x (12-m) c l') (T c))(w:∀c y,T c y→y<z∧¬j y)(hd:∀c c' y,T c y→T c' y→c=c')(B:o=none→(∀y,¬j y)∧∀y,W y→y<z):
  TrieO o W x k (m+1) v l' (fun y=>o.isSome=true∧(((j y∨z≤y)∧y<k.size)∨∃c,c<32∧T c y)):=by
 cases o with
 |none=>
  obtain⟨C,D⟩:=B rfl;refine .inl ⟨⟨s',u.node (fun y f q=>?_) mA,fun c b=>?_⟩,fun y f=>by simp at f⟩
  ·have:=D y q
   rcases f with h|h
   ·exact C y h
   ·omega
  ·exact(hc c b).imp (fun h=>⟨h.1,h.2.1,h.2.2.1⟩) fun o=>o.imp (fun⟨p,i,g,s,_⟩=>⟨p,i,g,s⟩) fun⟨i,g,E,s,A⟩=>⟨i,g,E,s,A.off.1⟩
 |some a=>
  refine .inr ⟨rfl,s',d,n,sp,sk,fun y=>(j y∨z≤y)∧y<k.size,fun c y=>c<32∧T c y,u.within,fun y f=>⟨rfl,.inl f⟩,fun c y f=>⟨⟨rfl,.inr ⟨c,f⟩⟩,fun h=>?_⟩,fun c c' y i g=>hd c c' y i.2 g.2,fun c b=>?_⟩
  ·obtain⟨i,g⟩:=w c y f.2
   rcases h.1 with h|h
   ·exact g h
   ·omega
  ·have e:(fun y=>c<32∧T c y)=T c:=funext fun y=>propext ⟨fun h=>h.2,fun h=>⟨b,h⟩⟩
   have:=hc c b;unfold SlotO at this;rw[←e]at this;exact this
end Go.Proofs
namespace Go.Proofs
open Go.Lift
theorem TJ{o:Option Addr}{W f:Nat→Prop}{g:af}{i d n z:Nat}{sp sk:SliceV}{s':Slots}(j:OwnN (fun y=>f y∨z≤y) g i d n sp sk s' o)(k:o=none→(∀y,¬f y)∧∀y,W y→y<z):
  NodeO o W g i s' (fun y=>o.isSome=true∧(f y∨z≤y)∧y<g.size):=by
 cases o with
 |none=>
  obtain⟨m,p⟩:=k rfl;refine .inl ⟨j.node (fun y b c=>?_) mA,fun y b=>by simp at b⟩
  have:=p y c;rcases b with h|h
  ·exact m y h
  ·omega
 |some a=>exact .inr ⟨rfl,d,n,sp,sk,j.within.mono fun y b=>⟨rfl,b⟩⟩
theorem Aj{o:Option Addr}{W d:Nat→Prop}{f:af}{g z:Nat}{sp sk:SliceV}{l:List Pr}(i:OwnB (fun y=>d y∨z≤y) f g sp sk l o)(j:o=none→(∀y,¬d y)∧∀y,W y→y<z):
  BuckO o W f g l (fun y=>o.isSome=true∧(d y∨z≤y)∧y<f.size):=by
 cases o with
 |none=>
  obtain⟨k,m⟩:=j rfl;refine .inl ⟨i.buck (fun y b c=>?_) mA,fun y b=>by simp at b⟩
  have:=m y c;rcases b with h|h
  ·exact k y h
  ·omega
 |some a=>exact .inr ⟨rfl,sp,sk,i.within.mono fun y b=>⟨rfl,b⟩⟩
def SN(o:Option Addr)(b:Nat→Prop)(z:Nat)(a:af)(T:Nat→Nat→Prop)(y:Nat):Prop:=o.isSome=true∧(((b y∨z≤y)∧y<a.size)∨∃c,c<32∧T c y)
def sT(T:Nat→Nat→Prop)(i:Nat)(S:Nat→Prop)(c:Nat):Nat→Prop:=if c=i then S else T c
theorem Cw{T:Nat→Nat→Prop}{i:Nat}{S:Nat→Prop}:sT T i S i=S:=if_pos rfl
theorem tV{T:Nat→Nat→Prop}{i c:Nat}{S:Nat→Prop}(h:c≠i):sT T i S c=T c:=if_neg h
theorem QS{o:Option Addr}{S g T':Nat→Prop}{z z0 c0:Nat}{a:af}{T:Nat→Nat→Prop}(i:∀y,g y→S y)(d:∀c y,T c y→S y∧y<a.size)(b:∀y,T' y→(S y∨z0≤y)∧y<a.size)(hz:z0≤z){y:Nat}(j:SN o g z a (sT T c0 T') y):(S y∨z0≤y)∧y<a.size:=by
 rcases j.2 with⟨h|h,f⟩|⟨c,_,h⟩
 ·exact⟨.inl (i y h),f⟩
 ·exact⟨.inr (Nat.le_trans hz h),f⟩
 ·by_cases e:c=c0
  ·subst e;rw[Cw]at h;exact b y h
  ·rw[tV e]at h;exact⟨.inl (d c y h).1,(d c y h).2⟩
theorem Bf{o:Option Addr}{W W1 f T':Nat→Prop}{T:Nat→Nat→Prop}{x:Hs}{hz g:af}{m z d n c0:Nat}{sp sk:SliceV}{s s':Slots}{l':List Pr}
  (F:OwnN (fun y=>f y∨hz.size≤y) g z d n sp sk s' o)(E:Upd f hz g)(G:∀c,c<32→c≠c0→SlotO o W1 x hz m s c (part x (12-m) c l') (T c))(D:∀c,c≠c0→s'.p c=s.p c∧s'.k c=s.k c)
  (hi:SlotO o W1 x hz m s' c0 (part x (12-m) c0 l') T')(p:∀y,W y→W1 y)(q:∀y,f y→W1 y)(v:∀c y,T c y→W1 y)(u:∀y,T' y→W1 y)(B:∀c y,T c y→y<hz.size∧¬f y)(b:∀y,T' y→y<hz.size∧¬f y∧∀c,c≠c0→¬T c y)
  (hd:∀c c' y,T c y→T c' y→c=c')(C:o=none→(∀y,¬f y)∧∀y,W1 y→y<hz.size):
  TrieO o (fun y=>W y∨SN o f hz.size g (sT T c0 T') y) x g (m+1) z l' (SN o f hz.size g (sT T c0 T')):=by
 have k:∀c y,sT T c0 T' c y→W1 y∧y<hz.size∧¬f y:=fun c y h=>by
  by_cases e:c=c0
  ·subst e;rw[Cw]at h;exact⟨u y h,(b y h).1,(b y h).2.1⟩
  ·rw[tV e]at h;exact⟨v c y h,B c y h⟩
 have H:∀y,(W y∨SN o f hz.size g (sT T c0 T') y)→(W1 y∨hz.size≤y):=fun y a=>by
  rcases a with h|⟨_,⟨h|h,_⟩|⟨c,_,h⟩⟩
  ·exact .inl (p y h)
  ·exact .inl (q y h)
  ·exact .inr h
  ·exact .inl (k c y h).1
 have w:∀{s:Slots} {c:Nat} {l:List Pr} {U:Nat→Prop},SlotO o W1 x hz m s c l U→(∀y,U y→y<hz.size∧¬f y)→SlotO o (fun y=>W y∨SN o f hz.size g (sT T c0 T') y) x g m s c l U:=fun t A=>
  ((t.less (W':=fun y=>W1 y∨hz.size≤y) fun y a=>a).upd E (fun y a=>(A y a).1) fun y a=>.inl ⟨.inl (q y a),fun h=>(A y h).2 a⟩).less fun y a=>.inl (H y a)
 refine JX F (fun c hc=>?_) (fun c y h=>(k c y h).2) (fun c c' y j i=>?_) fun e=>⟨(C e).1,fun y a=>?_⟩
 ·by_cases e:c=c0
  ·subst e;rw[Cw];exact w hi fun y a=>⟨(b y a).1,(b y a).2.1⟩
  ·rw[tV e];exact(w (G c hc e) fun y a=>B c y a).turn (D c e).1 (D c e).2
 ·by_cases e:c=c0<;>by_cases e':c'=c0
  ·omega
  ·subst e;rw[Cw]at j;rw[tV e']at i;exact absurd i ((b y j).2.2 c' e')
  ·subst e';rw[Cw]at i;rw[tV e]at j;exact absurd j ((b y i).2.2 c e)
  ·rw[tV e]at j;rw[tV e']at i;exact hd c c' y j i
 ·rcases a with h|⟨h,_⟩
  ·exact(C e).2 y (p y h)
  ·rw[e]at h;cases h
abbrev US(x:Hs)(w:Option Addr)(k:ByteArray):Value:=.agg #[.int .u64 x.k0,.int .u64 x.k1,.int .u64 x.mask,.pointer w,.string k,.int .u64 (nr x k)]
set_option maxHeartbeats 1000000 in
theorem WT{W:Nat→Prop}{x:Hs}{w o:Option Addr}:∀(m:Nat) (p q:Pr),m≤13→p.1≠q.1→∀{h:af},(∀y,W y→y<h.size)→By h w o→(∀a,o=some a→W a.block)→∀{K:Option Addr→af→Prop},(∀h' b' S',TrieO o (fun y=>W y∨S' y) x h' m b' (iV q [p]) S'→(∀y,S' y→h.size≤y∧y<h'.size)→Upd No h h'→K (some ⟨b',0,none⟩) h')→
  HC PG mR [US x w q.1,.agg #[.string p.1,.string p.2],.agg #[.string q.1,.string q.2],.int .i64 ((13-m:Nat):Int)] [.c .ptr] K h:=by
 intro m;induction m with
 |zero=>
  intro p q _ hne h hW t G K hk;have L:∀{h'},Upd No h h'→∀y,W y→y<h'.size:=fun k y g=>bG (hW y g) k.size
  refine vt (x.k0,x.k1,x.mask,w,q.1,nr x q.1) p q ((13-0:Nat):Int) ?_;unfold qz aq aD yg aQ oZ tc ci Bc LX m0 GL;refine aN fun h1 b1 k1=>aN fun h2 b2 k2=>aN fun N b3 X=>?_
  have j:=(k1.tr k2).tr X;have v:∀{h':af},Upd No N h'→∀i,aR h' (adr ⟨h.size,0,none⟩ i)=(#[.int .u64 x.k0,.int .u64 x.k1,.int .u64 x.mask,.pointer w,.string q.1,.int .u64 (nr x q.1)]:Array Value)[i]?:=fun k i=>by
   rw[cd,bI (k.get0 (X.get0 (k2.get0 b1))),aU]
  have H:∀{h':af},Upd No N h'→∀i,aR h' (adr ⟨h1.size,0,none⟩ i)=(#[.string p.1,.string p.2]:Array Value)[i]?:=fun k i=>by rw[cd,bI (k.get0 (X.get0 b2)),aU]
  have D:∀{h':af},Upd No N h'→∀i,aR h' (adr ⟨h2.size,0,none⟩ i)=(#[.string q.1,.string q.2]:Array Value)[i]?:=fun k i=>by rw[cd,bI (k.get0 b3),aU]
  have r:=Upd.refl No N;have z03:=j.size;refine aA.2 ⟨w,v r 3,p.1,H r 0,p.2,H r 1,w,v r 3,q.1,D r 0,q.2,D r 1,?_⟩;refine Ug (L j) fun h4 b4 bk4 f=>⟨⟨D f 0,D f 1⟩,v f 3,⟨H f 0,H f 1⟩,v f 3,?_⟩
  have t4:=t.upd0 (j.tr f);have z4:=f.size;refine H9 (S:=No) (.inl ⟨bk4,fun _ h=>h⟩) t4 G (fun _ h=>h.elim) fc (by simp) p fun Q b5 sp5 sk5 on5 C=>?_
  have E:=f.tr C;have z5:=C.size;refine⟨⟨D E 0,D E 1⟩,v E 3,?_⟩;have bk5:=Aj (W:=W) (z:=h4.size) on5 fun e=>⟨fun _ h=>h,L (j.tr f)⟩
  have t5:=t4.upd0 C;refine H9 bk5 t5 G (fun y g=>g.2.2) (db ..) (by simp[iV]) q fun O b6 sp6 sk6 V A=>?_
  have z6:=A.size;have bk6:=Aj (W:=fun y=>W y∨(o.isSome=true∧((o.isSome=true∧((No y∨h4.size≤y)∧y<Q.size))∨Q.size≤y)∧y<O.size)) (z:=Q.size) V fun e=>⟨fun y g=>(by rw[e]at g;cases g.1),fun y g=>(by
   rcases g with g|g
   ·exact L (j.tr E) y g
   ·rw[e]at g;cases g.1)⟩
  refine hk O b6 _ bk6 (fun y g=>?_) ((j.tr E).trans A fun y g=>.inr ?_)
  ·rcases g.2.1 with h|h
   ·rcases h.2.1 with h|h
    ·exact h.elim
    ·exact⟨by omega,g.2.2⟩
   ·exact⟨by omega,g.2.2⟩
  ·rcases g.2.1 with h|h
   ·exact h.elim
   ·omega
 |succ m ih=>
  intro p q hm hne h hW t G K hk;have L:∀{h'},Upd No h h'→∀y,W y→y<h'.size:=fun k y g=>bG (hW y g) k.size
  have hl:13-(m+1)<13:=by omega
  have B:13-(m+1)=12-m:=by omega
  refine vt (x.k0,x.k1,x.mask,w,q.1,nr x q.1) p q ((13-(m+1):Nat):Int) ?_;unfold qz aq aD yg aQ oZ tc ci Bc LX m0 GL;refine aN fun h1 b1 k1=>aN fun h2 b2 k2=>aN fun N b3 X=>?_
  have j:=(k1.tr k2).tr X;have v:∀{h':af},Upd No N h'→∀i,aR h' (adr ⟨h.size,0,none⟩ i)=(#[.int .u64 x.k0,.int .u64 x.k1,.int .u64 x.mask,.pointer w,.string q.1,.int .u64 (nr x q.1)]:Array Value)[i]?:=fun k i=>by
   rw[cd,bI (k.get0 (X.get0 (k2.get0 b1))),aU]
  have H:∀{h':af},Upd No N h'→∀i,aR h' (adr ⟨h1.size,0,none⟩ i)=(#[.string p.1,.string p.2]:Array Value)[i]?:=fun k i=>by rw[cd,bI (k.get0 (X.get0 b2)),aU]
  have D:∀{h':af},Upd No N h'→∀i,aR h' (adr ⟨h2.size,0,none⟩ i)=(#[.string q.1,.string q.2]:Array Value)[i]?:=fun k i=>by rw[cd,bI (k.get0 b3),aU]
  have r:=Upd.refl No N;have z03:=j.size;have ne:(((13-(m+1):Nat):Int)==(13:Int))=false:=by rw[beq_eq_false_iff_ne];omega
  rw[ne];refine aj.2 ⟨_,v r 0,_,v r 1,_,v r 2,_,H r 0,_,v r 5,?_⟩;refine uV fun h4 f=>⟨v f 5,Ud hl ⟨v f 5,Ud hl ?_⟩⟩
  have hi:=zq x (13-(m+1)) p.1;have hj:=zq x (13-(m+1)) q.1;have hcl:=RH hne;have z4:=f.size;refine CondP.intro (fun e=>?_) fun e=>?_
  ·have e:ck x (13-(m+1)) p.1=ck x (13-(m+1)) q.1:=by have:=eq_of_beq e;omega
   refine⟨_,v f 3,_,v f 0,_,v f 1,_,v f 2,_,v f 3,_,v f 4,_,v f 5,_,H f 0,_,H f 1,_,D f 0,_,D f 1,?_⟩;refine tD (L (j.tr f)) fun Q b5 nd5 C=>?_
   have b:=f.tr C;have z5:=C.size;refine⟨⟨D b 0,D b 1⟩,⟨H b 0,H b 1⟩,⟨v b 0,v b 1,v b 2,v b 3,v b 4,v b 5⟩,v b 3,?_⟩;have ew:IntKind.wrap .i64 (((13-(m+1):Nat):Int)+1)=((13-m:Nat):Int):=by rw[jj (by omega)];omega
   rw[ew];refine ih p q (by omega) hne (L (j.tr b)) (t.upd0 (j.tr b)) G fun O b6 Sk t6 M A=>?_
   have u:=b.tr A;have z6:=A.size;refine⟨v u 3,?_⟩;refine xu (S:=No) (.inl ⟨nd5.upd A fun _ h=>h.elim,fun _ h=>h⟩) (t.upd0 (j.tr u)) G hi (fun y h=>by cases h) ⟨b6,0,none⟩ fun h7 b7 d n sp sk Y I=>?_
   have z7:=I.size;refine hk h7 b7 _ (Bf (W:=W) (W1:=fun y=>W y∨Sk y) (T:=fun _=>No) (T':=Sk) (c0:=ck x (13-(m+1)) p.1) (s:=⟨fun _=>none,fun _=>none⟩) (hz:=O) Y I (fun c hc hcc=>?_) (fun c hc=>⟨gY hc,gY hc⟩) ?_ (fun y g=>.inl g) (fun _ h=>h.elim) (fun _ _ h=>h.elim) (fun y g=>.inr g) (fun _ _ h=>h.elim) (fun y g=>⟨(M y g).2,id,fun _ _ h=>h⟩) (fun _ _ _ h=>h.elim) fun eo=>⟨fun _ h=>h,fun y g=>g.elim (L (j.tr u) y) fun h=>(M y h).2⟩) (fun y g=>?_) ((j.tr u).tr I)
   ·refine .inl ⟨RS fun r Z=>?_,rfl,rfl,fun _ h=>h⟩
    rw[B]at hcc e;rcases R0 Z with rfl|rfl
    ·exact fun e=>hcc e.symm
    ·rw[←e];exact fun e=>hcc e.symm
   ·have ea:part x (12-m) (ck x (13-(m+1)) p.1) (iV q [p])=iV q [p]:=NQ fun r Z=>by
     rw[B]at e⊢;rcases R0 Z with rfl|rfl
     ·rfl
     ·rw[e]
    rw[ea];exact .inr (.inr ⟨by omega,ik,b6,ik,t6⟩)
   ·have:=QS (S:=No) (z0:=h.size) (fun _ h=>h) (fun _ _ h=>h.elim) (fun y g=>⟨.inr (by have:=(M y g).1;omega),by have:=(M y g).2;omega⟩) (by omega) g
    exact⟨this.1.elim (fun h=>h.elim) id,this.2⟩
  ·have e:ck x (13-(m+1)) p.1≠ck x (13-(m+1)) q.1:=fun h=>by rw[h]at e;simp at e
   refine⟨_,v f 3,_,H f 0,_,H f 1,_,v f 3,_,D f 0,_,D f 1,?_⟩;refine tD (L (j.tr f)) fun Q b5 nd5 C=>?_
   have b:=f.tr C;have z5:=C.size;have t5:=t.upd0 (j.tr b);refine⟨⟨D b 0,D b 1⟩,v b 3,⟨H b 0,H b 1⟩,v b 3,?_⟩;refine rS (S:=No) (.inl ⟨nd5,fun _ h=>h⟩) t5 G (fun _ h=>h.elim) hi (fun y h=>by cases h) p fun O b6 d6 n6 sp6 sk6 V A=>?_
   have u:=b.tr A;have z6:=A.size;have nd6:=TJ (W:=W) V fun _=>⟨fun _ h=>h,L (j.tr b)⟩
   refine⟨⟨D u 0,D u 1⟩,v u 3,?_⟩;refine rS nd6 (t5.upd0 A) G (fun y g=>g.2.2) hj (fun y h=>by simp[upd]) q fun h7 b7 d7 n7 sp7 sk7 Y I=>?_
   have z7:=I.size;have R:∀y,(o.isSome=true∧(No y∨Q.size≤y)∧y<O.size)→Q.size≤y:=fun y g=>g.2.1.elim (fun h=>h.elim) id
   refine hk h7 b7 _ (JX (T:=fun _=>No) (z:=O.size) (W:=fun y=>W y∨SN o (fun y=>o.isSome=true∧(No y∨Q.size≤y)∧y<O.size) O.size h7 (fun _=>No) y) Y (fun c hc=>?_) (fun _ _ h=>h.elim) (fun _ _ _ h=>h.elim) fun eo=>⟨fun y g=>(by rw[eo]at g;cases g.1),fun y g=>(by
    rcases g with g|g
    ·exact L (j.tr u) y g
    ·rw[eo]at g;cases g.1)⟩) (fun y g=>?_) ((j.tr u).trans I fun y g=>.inr (by have:=R y g;omega))
   ·have F:=Hl (x:=x) (lev:=12-m) (c:=c) (p:=q) (l:= [p]) (db ..)
    rw[B]at e;by_cases P:c=ck x (12-m) p.1
    ·have J:ck x (12-m) q.1≠c:=fun h=>e (by omega)
     have e1:part x (12-m) c [p]= [p]:=NQ fun r Z=>by rw[au.1 Z,P]
     rw[if_neg J,e1]at F;exact .inr (.inl ⟨p,F,by simp[upd,B,P,e],by simp[upd],fun _ h=>h⟩)
    ·have e1:part x (12-m) c [p]= []:=RS fun r Z=>by rw[au.1 Z];exact fun h=>P h.symm
     rw[e1]at F;by_cases J:c=ck x (12-m) q.1
     ·rw[if_pos J.symm]at F
      exact .inr (.inl ⟨q,F,by simp[upd,B,J],by simp[upd],fun _ h=>h⟩)
     ·rw[if_neg fun h=>J h.symm]at F
      exact .inl ⟨F,by simp[upd,B,J,P],by simp[upd],fun _ h=>h⟩
   ·rcases g.2 with⟨h|h,h2⟩|⟨_,_,h⟩
    ·exact⟨by have:=R y h;omega,h2⟩
    ·exact⟨by omega,h2⟩
    ·exact h.elim
end Go.Proofs
