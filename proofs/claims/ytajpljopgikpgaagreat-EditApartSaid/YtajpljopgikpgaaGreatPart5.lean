/- A part of the proof that the named laws of this program answer true, whatever the input. -/
import Derived.Test.YtajpljopgikpgaaGreatPart4
import Derived.Test.YtajpljopgikpgaaGreatPart2
open ByteArray renaming mk→gU
open Int renaming toNat_natCast→aN
open List renaming eraseIdx_eq_take_drop_succ→eG,getElem?_eraseIdx→lh,mem_singleton→ai,getElem_mem→bm,getElem?_eq_getElem→aj,length_append→af,mem_of_getElem?→au,getElem?_set→dG,getElem?_of_mem→ff,pairwise_singleton→dY
open List.Pairwise renaming nil→fq
open Nat renaming lt_or_ge→bP,one_pos→oY,le_refl→aw,lt_of_lt_of_le→bv,zero_add→aC
namespace Go.Proofs
open Go Go.Lift
theorem Kg{Ts:List (Nat→Prop)}(d:PD Ts)(i:Nat):PD (Ts.take i++Ts.drop (i+1)):=by
 intro a b A B e c eb;simp only[←eG,lh]at c eb;split at c<;>split at eb
 ·exact d a b A B e c eb
 ·exact d a (b+1) A B (by omega) c eb
 ·exact d (a+1) b A B (by omega) c eb
 ·exact d (a+1) (b+1) A B (by omega) c eb
theorem Hb{o:Option Addr}{W S X A:Nat→Prop}{h:ae}{d b:Nat}{T:List (Nat→Prop)}(g:∀y,W y→y<h.size)(f:o=none→∀y,¬S y)(j:∀y,A y→S y∨h.size≤y)(i:S b∨h.size≤b)(e:o=none):(∀y,A y→¬(W y∨SR o d X T y))∧¬(W b∨SR o d X T b):=by
 have no:∀y,(S y∨h.size≤y)→¬(W y∨SR o d X T y):=fun y c a=>by
  rcases a with a|⟨a,_⟩
  ·rcases c with h|h
   ·exact f e y h
   ·have:=g y a;omega
  ·rw[e]at a;cases a
 exact⟨fun y c=>no y (j y c),no _ i⟩
theorem Dp{o:Option Addr}{W S A:Nat→Prop}{h a:ae}{b':Nat}{sl val:ByteArray}{k:SliceV}{w:Option ByteArray}{e:List (Option Addr)}{L':List Bn}{Us':List (Nat→Prop)}
  (n:∀y,W y→y<h.size)(j:o=none→∀y,¬S y)(m:a[b']? =some (.cells (rP sl w.isSome val k o) aR (0,0))) (hv:val=w.getD ⟨#[]⟩) (g:OwnS jW 1 aE A a k e) (f:∀y,A y→(S y∨h.size≤y)∧y≠b'∧y<a.size) (c:S b'∨h.size≤b')
  (p:∀U∈Us',∀y,U y→¬A y∧y≠b') (i:∀U∈Us',∀y,U y→(S y∨h.size≤y)∧y<a.size) (q:PD Us') (s:(∀y,SR o b' A Us' y→(S y∨h.size≤y)∧y<a.size)→LsO o (fun y=>W y∨SR o b' A Us' y) a e L' Us'):
  RxO o (fun y=>W y∨SR o b' A Us' y) a b' sl w (.ofL L') (SR o b' A Us')∧∀y,SR o b' A Us' y→(S y∨h.size≤y)∧y<a.size:=by
 have d:∀y,SR o b' A Us' y→(S y∨h.size≤y)∧y<a.size:=fun y b=>th c (aG m) (fun y b=>⟨(f y b).1,(f y b).2.2⟩) i b
 exact⟨qP m hv g (fun y b=>(f y b).2) p q (by rw[Fo.to_of];exact s d) (Hb n j (fun y b=>(f y b).1) c),d⟩
def LL(o:Option Addr)(W:Nat→Prop)(h:ae)(r:Option Addr)(m:Option Bn)(S:Nat→Prop):Prop:=(r=none∧m=none)∨∃n,m=some n∧KidO o W h r n S
set_option maxHeartbeats 1000000 in
theorem Dr{w' o:Option Addr}{W S:Nat→Prop}{h:ae}{b:Nat}{sl:ByteArray}{w:Option ByteArray}{F:Fo}(r:RxO o W h b sl w F S)(t:By h w' o)(hW:∀y,W y→y<h.size)(C:∀y,S y→W y)(hWo:∀a,o=some a→W a.block)(hc:dS F)(Z:sl.data.toList≠[])(hs1:sl.size≤1000000)(hs2:∀k v,l6 F k v→k.length≤1000000)
  {K:Option Addr→ae→Prop}(hk:∀j r m S2,Upd S h j→Ju (sl.data.toList,w,F) m→LL o (fun y=>W y∨S2 y) j r m S2→(∀y,S2 y→(S y∨h.size≤y)∧y<j.size)→K r j):HC PG kQ [.pointer (some ⟨b,0,none⟩),.pointer w'] [.c .ptr] K h:=by
 refine uy _ w' ?_;unfold oG cG f6 bQ bL xi qu ii;have hr:=r;have hno:o=none→∀y,¬S y:=fun e=>by subst e;exact r.off.2
 have M:∀y,S y→y<h.size:=fun y c=>hW y (C y c)
 obtain⟨val,s,ow,ks,Us,P,hv,hs,hL,hUS,hPD,hown⟩:=r.view;have hn:=j2 hc;have d:=hs.len;rw[hL.1]at d;refine Join.intro (fun t j=>t=decide (w.isSome∨2≤F.toL.length)∧j=h) (fun R hR=>⟨_,rfl,w.isSome,c5 (i:=1) P,?_⟩) ?_
 ·cases w with
  |some v=>exact aA.2 (hR _ _ ⟨rfl,rfl⟩)
  |none=>
   refine ak.2 ⟨_,rfl,s,c5 (i:=3) P,hR _ _ ⟨?_,rfl⟩⟩;rw[decide_eq_decide];constructor
   ·intro h;exact .inr (by omega)
   ·rintro(h|h)
    ·cases h
    ·omega
 ·rintro t' j ⟨rfl,rfl⟩
  refine bf (fun G=>?_) fun G=>?_
  ·exact hk j _ _ S (Upd.refl _ _) (Gc Z hc G) (.inr ⟨_,rfl,b,sl,rfl,rfl,hr.less fun y c=>.inl (c.elim id (C y))⟩) fun y c=>⟨.inl c,M y c⟩
  ·have hw:w=none:=by
    cases w with
    |none=>rfl
    |some v=>exact absurd (.inl rfl) G
   subst hw;have hl2:F.toL.length<2:=by
    rcases bP F.toL.length 2 with h|h
    ·exact h
    ·exact absurd (.inr h) G
   refine⟨_,rfl,s,c5 (i:=3) P,?_⟩;match hFL:F.toL,hl2 with
   | [],_=>
    rw[hFL]at d;have e:((s.len:Int)==(0:Int))=true:=by rw[beq_iff_eq,d];rfl
    rw[e];exact aA.2 (hk j _ _ No (Upd.refl _ _) (Gd hFL) (.inl ⟨rfl,rfl⟩) fun y c=>c.elim)
   | [(lk,wk,Fk)],_=>
    rw[hFL]at d;have e:((s.len:Int)==(0:Int))=false:=by rw[beq_eq_false_iff_ne,d];simp
    rw[e];have p:(lk,wk,Fk)∈F.toL:=by rw[hFL];exact ai.2 rfl
    have hcm:=(dt.1 hc).2 _ p;have h0:F.toL[0]? =some (lk,wk,Fk):=by rw[hFL];rfl
    have hk0:0<ks.length:=by rw[hL.1,hFL];exact oY
    have hU0:0<Us.length:=by rw[hL.2.1,hFL];exact oY
    have X:Us[0]∈Us:=bm hU0;obtain⟨kb,x,hke,J,n⟩:=hL.2.2 0 _ _ _ (aj hk0) h0 (aj hU0);have hki:ks[0]? =some (some ⟨kb,0,none⟩):=by rw[aj hk0,hke]
    have g:∀y,Us[0] y→S y:=hUS _ X;generalize Us[0]=U at n X g;simp only at J n;obtain⟨a,ha,_,hvv⟩:=hs.at0 hki;have hknr:=n;have hno2:o=none→∀y,¬U y:=fun e=>by subst e;exact n.off.2
    obtain⟨kval,kss,kow,kks,q,Q,hkv,hkss,Y,E,hkPD,I⟩:=n.view;have hkn2:=j2 hcm.2.2;have hUb:∀y,U y→y<j.size:=fun y c=>M y (g y c)
    have A:∀V∈q,∀y,V y→y<j.size:=fun V D y c=>hUb y (E V D y c)
    refine ak.2 ⟨_,rfl,s,c5 (i:=3) P,⟨by omega,by rw[d];simp⟩,a,ha,some ⟨kb,0,none⟩,hvv,?_⟩
    refine hO (W:=W) (S:=U) (Us:=q) t hWo Q (by rw[Y.1];exact hkn2) (vo (Us:=q) I (aG Q) (Upd.refl No j) (fun _ h=>h.elim) fun V D y c=>⟨.inl ⟨V,D,c⟩,A V D y c⟩) fun h1 b1 s1 A1 N hA1 f B O L=>?_
    obtain⟨rr,vv,hin⟩:=jL hc _ p;have hbd:=hs2 (lk++rr) vv (dL.2 ⟨_,p,rr,rfl,hin⟩);rw[af]at hbd;have hlkl:lk.length=x.size:=by rw[←J];exact iX x
    refine⟨_,rfl,sl,c5 (i:=0) (L.get0 P),_,rfl,x,c5 (i:=0) N,by omega,?_⟩
    refine p5 N fun G b2 H=>?_
    have u02:Upd (· =b1) j G:=L.wide.tr H
    have z1:=L.size;have z2:=H.size;have zb:=aG b2;have u:∀{z:Nat},(U z∨j.size≤z)→S z∨j.size≤z:=fun h=>h.imp (g _) id
    have T:∀y,SR o b1 A1 q y→(S y∨j.size≤y)∧y<G.size:=fun y c=>th (u B) zb (fun y c=>⟨u (f y c).1,by have:=(f y c).2.2;omega⟩) (fun V D y c=>⟨.inl (g y (E V D y c)),by have:=A V D y c;omega⟩) c
    refine hk G _ _ (SR o b1 A1 q) (u02.mono fun y c=>by have c:y=b1:=c;rw[c];exact u B) (Hy Z hc hFL) (.inr ⟨_,rfl,b1,sl++x,rfl,by rw[←J];exact Il sl x,qP b2 hkv (hA1.upd H fun y c=>(f y c).2.1) (fun y c=>⟨(f y c).2.1,by have:=(f y c).2.2;omega⟩) O hkPD (Y.move u02 A (fun y c=>?_) fun y c=>c.elim .inl fun h=>(T y h).1.imp (C y) id) (Hb hW hno (fun y c=>u (f y c).1) (u B))⟩) T
    have c:y=b1:=c;subst c;exact B.imp (fun h=>⟨C y (g y h),fun V D hu=>(O V D y hu).2 rfl⟩) id
end Go.Proofs
namespace Go.Proofs
open Go Go.Lift
set_option maxHeartbeats 4000000 in
theorem FV{w' o:Option Addr}:∀(n:Nat) {W S:Nat→Prop} {b:Nat} {sl:ByteArray} {w:Option ByteArray} {F:Fo} {h:ae} (k:ByteArray),k.size<n→RxO o W h b sl w F S→By h w' o→(∀y,W y→y<h.size)→(∀y,S y→W y)→(∀a,o=some a→W a.block)→(∀a,w'=some a→¬S a.block)→dS F→(∀j v,l6 F j v→j.length≤1000000)→∀{K:(Option Addr)×Bool→ae→Prop},
  (∀h' b' w2 F2 S2 T,Upd S h h'→RxO o (fun y=>W y∨S2 y) h' b' sl w2 F2 S2→(∀y,S2 y→(S y∨h.size≤y)∧y<h'.size)→dS F2→oX (mD w F) (mD w2 F2) k.data.toList→(T=false→b'=b∧w2=w∧F2=F∧Upd No h h'∧∀v,¬mD w F k.data.toList v)→(T=true→∃v,mD w F k.data.toList v)→K (some ⟨b',0,none⟩,T) h')→
  HC PG il [.pointer (some ⟨b,0,none⟩),.pointer w',.string k] [.c .ptr,.c .bool] K h:=by
 intro n;induction n with
 |zero=>intro W S b sl w F h k hk;omega
 |succ n ih=>
  intro W S b sl w F h k hkn r t hW B hWo hwS hc hbd K hk;refine uA (some ⟨b,0,none⟩) w' k ?_;unfold oI cG f6 bQ bL oZ cZ GJ qu ii AC BT;have hr:=r;have hno:o=none→∀y,¬S y:=fun e=>by subst e;exact r.off.2
  obtain⟨val,s,ow,ks,Us,hb,hv,hs,hL,hUS,hPD,hown⟩:=r.view;have hn:=j2 hc;have hcan:=dt.1 hc;have hSb:∀y,S y→y<h.size:=fun y d=>hW y (B y d)
  have J:∀U∈Us,∀y,U y→y<h.size:=fun U C y d=>hSb y (hUS U C y d)
  have zb:=aG hb;have own2:=fun{h2:ae} {M:Nat→Prop} (ku:Upd M h h2) (hM:∀y,M y→S y∧∃U∈Us,U y) (Us':List (Nat→Prop)) (C:∀U∈Us',∀y,U y→((∃V∈Us,V y)∨h.size≤y)∧y<h2.size)=>vo (Us':=Us') hown zb ku hM C
  have Y:∀{h':ae},Upd No h h'→(∀v,¬mD w F k.data.toList v)→K (some ⟨b,0,none⟩,false) h':=fun Z hnin=>hk _ b w F S false Z.wide ((hr.upd0 Z).less fun y d=>.inl (d.elim id (B y))) (fun y d=>⟨.inl d,by have:=hSb y d;have:=Z.size;omega⟩) hc (Ei hnin) (fun _=>⟨rfl,rfl,rfl,Z,hnin⟩) fun h=>by cases h
  rw[jP];refine bf (fun hk0=>?_) fun hk0=>?_
  ·have hke:k.data.toList= []:=by rw[hk0]
   rw[hke]at hk Y;refine⟨_,rfl,w.isSome,c5 (i:=1) hb,?_⟩;cases hw:w with
   |none=>
    refine aA.2 (Y (Upd.refl _ _) fun v f=>?_)
    rcases f with⟨_,h⟩|h
    ·rw[hw]at h;cases h
    ·exact absurd rfl (kM hc h)
   |some u=>
    refine ak.2 (hO (S:=S) (Us:=Us) t hWo hb (by rw[hL.1];exact hn) (own2 (Upd.refl No h) (fun _ h=>h.elim) Us fun U C y d=>⟨.inl ⟨U,C,d⟩,J U C y d⟩) fun h1 b' s1 A1 b1 hA1 hA1s O hU1 hu1=>?_)
    refine⟨_,rfl,Hc (i:=1) b1 (show 1<5 by decide),x9 (i:=1) (c':=rP sl false val s1 o) b1 rfl fun h2 b2 hu2=>?_⟩
    refine⟨_,rfl,Hc (i:=2) b2 (show 2<5 by decide),x9 (i:=2) (c':=rP sl false ⟨#[]⟩ s1 o) b2 rfl fun h3 b3 hu3=>?_⟩
    have hu13:=hu2.tr hu3;have z1:=hu1.size;have z3:=hu13.size;have u03:Upd (· =b') h h3:=hu1.wide.tr hu13
    obtain⟨rx,E⟩:=Dp (W:=W) (S:=S) (w:=none) (val:=⟨#[]⟩) (L':=F.toL) hW hno b3 rfl (hA1.upd hu13 fun y d=>(hA1s y d).2.1) (fun y d=>⟨(hA1s y d).1,(hA1s y d).2.1,by have:=(hA1s y d).2.2;omega⟩) O hU1 (fun U C y d=>⟨.inl (hUS U C y d),by have:=J U C y d;omega⟩) hPD fun E=>hL.move u03 J (fun y d=>by
     have d:y=b':=d
     subst d
     exact O.imp (fun h=>⟨B y h,fun U C Z=>(hU1 U C y Z).2 rfl⟩) id) fun y d=>d.elim .inl fun h=>(E y h).1.imp (B y) id
    rw[Fo.of_to]at rx;exact hk h3 b' none F _ true (u03.mono fun y d=>by have d:y=b':=d;rw[d];exact O) rx E hc (Eh hc) (fun h=>by cases h) fun _=>⟨u,.inl ⟨rfl,hw⟩⟩
  ·have H:k.data.toList≠[]:=fun e=>hk0 (by cases k;exact congrArg gU (Array.toList_inj.1 e))
   obtain⟨c0,hc0,hc0e⟩:=D8 H;refine⟨c0,Int.le_refl _,hc0,?_⟩;have hlk:k.data.toList.length=k.size:=iX k;refine zM (hr.read t) hc (c:=c0.toNat) (UInt8.toNat_lt _) fun i ok hil hlo hhi hok=>?_
   rw[hc0e]at hlo hhi hok;cases ok with
   |false=>
    refine aA.2 (Y (Upd.refl _ _) fun v f=>?_)
    rcases f with⟨h,_⟩|f
    ·exact H h
    ·obtain⟨n',hn',e,_⟩:=mB hc f
     obtain⟨j,p,rfl⟩:=List.getElem_of_mem hn';rcases bP j i with hl|hl
     ·have:=hlo j p hl;omega
     ·have h1:=hhi j p hl
      have h2:=hhi i (by omega) (aw _);rcases bP i j with hl2|hl2
      ·have h3:=List.pairwise_iff_getElem.1 hcan.1 i j (by omega) p hl2
       omega
      ·have:i=j:=by omega
       subst this;have:=hok.2 ⟨p,e⟩;cases this
   |true=>
    obtain⟨hi,hie⟩:=hok.1 rfl;refine ak.2 ⟨_,rfl,s,c5 (i:=3) hb,?_⟩;have N:i<ks.length:=by rw[hL.1];exact hi
    have hUi0:i<Us.length:=by rw[hL.2.1];exact hi
    obtain⟨kb,ksl,hke,hkl,X⟩:=hL.2.2 i _ _ _ (aj N) (aj hi) (aj hUi0);have hki:ks[i]? =some (some ⟨kb,0,none⟩):=by rw[aj N,hke]
    have hUie:Us[i]? =some Us[i]:=aj hUi0;have G:Us[i]∈Us:=bm hUi0;have hmem:F.toL[i]∈F.toL:=bm hi;have hcm:=hcan.2 _ hmem;obtain⟨a,ha,_,hvv⟩:=hs.at0 hki;have hslen:=hs.len;rw[hL.1]at hslen;have hlt1:(i:Int)<((s.len:Nat):Int):=by omega
    refine⟨⟨by simp only;omega,hlt1⟩,a,ha,some ⟨kb,0,none⟩,hvv,_,rfl,?_⟩;obtain⟨kval,kss,kow,kks,kUs,hkb,_⟩:=X.view;have hin_m:∀v,l6 F k.data.toList v→pj F.toL[i] k.data.toList v:=fun v f=>by
     obtain⟨n',hn',e,hN⟩:=mB hc f;rw[←rL hc hn' hmem (by omega)];exact hN
    have L:∀j v,pj F.toL[i] j v→l6 F j v:=fun j v f=>dL.2 ⟨_,hmem,f⟩
    have D:∀{m:Bn},GG m→hd m.1=hd F.toL[i].1→dS (.ofL (F.toL.set i m)):=fun h1 h2=>Fy hc hi h1 h2
    have hdset:∀{m:Bn},oX (pj F.toL[i]) (pj m) k.data.toList→oX (l6 F) (l6 (.ofL (F.toL.set i m))) k.data.toList:=fun hp=>Gn hc hi hie hp
    have hddel:(∀k' v',pj F.toL[i] k' v'→k'=k.data.toList)→oX (l6 F) (l6 (.ofL (F.toL.take i++F.toL.drop (i+1)))) k.data.toList:=fun hp=>Gp hc hi hie hp
    have q:∀y,Us[i] y→S y:=hUS _ G;have hUib:∀y,Us[i] y→y<h.size:=J _ G;have hUid:∀j U,j≠i→Us[j]? =some U→Dj Us[i] U:=fun j U p I=>hPD i j _ _ (Ne.symm p) hUie I
    have nUb:¬Us[i] b:=fun Z=>by
     rcases hown with⟨_,_,_,hS0⟩|⟨_,_,A,_,_,_,hUA⟩
     ·exact hS0 _ (q _ Z)
     ·exact(hUA _ G b Z).2 rfl
    generalize F.toL[i]=m at hkl X hcm hin_m L D hdset hddel hie;generalize Us[i]=Ui at X hUie G q hUib hUid nUb;obtain⟨lab,wk,Fk⟩:=m;simp only at hkl X hcm hie D;refine⟨ksl,c5 (i:=0) hkb,KC (fun rest x=>?_) fun hnr=>?_⟩
    ·rw[hkl]at x
     have hlne:lab.length≠0:=fun e=>hcm.1 (List.length_eq_zero_iff.1 e)
     have hrl:rest.size<k.size:=by
      rw[←iX rest,←hlk,x,af];omega
     refine ak.2 ⟨_,rfl,s,c5 (i:=3) hb,⟨by simp only;omega,hlt1⟩,a,ha,some ⟨kb,0,none⟩,hvv,?_⟩;have hkbd:∀j v,l6 Fk j v→j.length≤1000000:=fun j v f=>by
      have:=hbd _ v (L (lab++j) v ⟨j,rfl,.inr f⟩);rw[af]at this;omega
     have tU:∀{M:Nat→Prop} {h':ae},Upd M h h'→(∀y,M y→Ui y)→By h' w' o:=fun ku hM=>t.upd ku fun b e d=>absurd (q _ (hM _ d)) (hwS _ e)
     refine ih (W:=W) (S:=Ui) rest (by omega) X t hW (fun y d=>B y (q y d)) hWo (fun a e d=>hwS a e (q _ d)) hcm.2.2 hkbd fun h2 b2 w2 F2 SV T ku rn2 Q hc2 hd2 hg0 hg1=>?_
     have z02:=ku.size;cases T with
     |false=>
      obtain⟨_,_,_,hu20,hnin⟩:=hg0 rfl;refine aA.2 (Y hu20 fun v f=>?_)
      rcases f with⟨h,_⟩|f
      ·exact H h
      ·obtain⟨r',e,hr'⟩:=hin_m v f
       simp only at e;rw[x]at e;exact hnin v (by rw[List.append_cancel_left e];exact hr')
     |true=>
      obtain⟨v0,hv0⟩:=hg1 rfl;have hthere:∃v,mD w F k.data.toList v:=⟨v0,.inr (L _ _ ⟨_,x,hv0⟩)⟩;have hdn:oX (pj (lab,wk,Fk)) (pj (lab,w2,F2)) k.data.toList:=by
       rw[x];exact Ej hd2
      have hmem2:∀{V:Nat→Prop},∀U∈Us.set i V,U∈Us∨U=V:=fun U C=>List.mem_or_eq_of_mem_set C
      have hsetm:∀V:Nat→Prop,V∈Us.set i V:=fun V=>au (i:=i) (by rw[dG,if_pos rfl,if_pos hUi0])
      refine ak.2 (hO (W:=W) (S:=S) (Us:=Us.set i SV) (tU ku fun _ h=>h) hWo (ku.get hb nUb) (by rw[hL.1];exact hn) (own2 ku (fun y d=>⟨q y d,_,G,d⟩) _ fun U C y d=>?_) fun h3 b' s3 A3 b3 ho3 g O hU3 hu3=>?_)
      ·rcases hmem2 U C with h|rfl
       ·exact⟨.inl ⟨U,h,d⟩,by have:=J U h y d;omega⟩
       ·exact⟨(Q y d).1.imp (fun h=>⟨_,G,h⟩) id,(Q y d).2⟩
      have hUj:∀{j U},j≠i→Us[j]? =some U→U∈Us.set i SV:=fun{j U} p I=>au (i:=j) (by rw[dG,if_neg (Ne.symm p)];exact I)
      have z23:=hu3.size;obtain⟨rr,vv,f⟩:=jL hc _ hmem;have hlb:lab.length≤1000000:=by
       have:=hbd _ v0 (L _ _ ⟨_,x,hv0⟩);rw[x,af]at this;omega
      have hb2:∀j v,l6 F2 j v→j.length≤1000000:=fun j v f=>by
       rcases((hd2 j v).1 (.inr f)).2 with⟨e,_⟩|h
       ·rw[e];simp
       ·exact hkbd j v h
      refine Dr (W:=fun y=>(W y∨SV y)∨(h2.size≤y∧y<h3.size)) (S:=SV) ((rn2.less (W':=fun y=>(W y∨SV y)∨(h2.size≤y∧y<h3.size)) fun y d=>d.imp id fun h=>h.1).upd0 hu3) ((tU ku fun _ h=>h).upd0 hu3) (fun y d=>?_) (fun y d=>.inl (.inr d)) (fun a e=>.inl (.inl (hWo a e))) hc2 (by rw[hkl];exact hcm.1) (by rw[←iX ksl,hkl];exact hlb) hb2 fun h4 r4 o4 S4 hu4 hm4 hr4 hS4=>?_
      ·rcases d with(h|h)|h
       ·have:=hW y h;omega
       ·have:=(Q y h).2;omega
       ·exact h.2
      rw[hkl]at hm4;have z34:=hu4.size;have b4:=hu4.get b3 fun h=>(hU3 SV (hsetm SV) _ h).2 rfl
      have ho4:=ho3.upd hu4 fun y d h=>(hU3 SV (hsetm SV) y h).1 d
      have hlen4:=ho4.len;have u04:Upd Ui h h4:=(ku.tr hu3.wide).trans hu4 fun y d=>(Q y d).1
      have z:∀y,A3 y→(S y∨h.size≤y)∧y≠b'∧y<h4.size:=fun y d=>⟨(g y d).1.imp id fun h=>by omega,(g y d).2.1,by have:=(g y d).2.2;omega⟩
      have R:S b'∨h.size≤b':=O.imp id fun h=>by omega
      have hS4':∀y,S4 y→(Ui y∨h.size≤y)∧y<h4.size:=fun y d=>⟨(hS4 y d).1.elim (fun h=>(Q y h).1) fun h=>.inr (by omega),(hS4 y d).2⟩
      have hS4A:∀y,S4 y→¬A3 y∧y≠b':=fun y d=>by
       rcases(hS4 y d).1 with h|h
       ·exact hU3 SV (hsetm SV) y h
       ·exact⟨fun ha=>by have:=(g y ha).2.2;omega,by have:=aG b3;omega⟩
      have oth:∀{h5:ae} {W':Nat→Prop} {j:Nat} {k':Option Addr} {n':Bn} {U:Nat→Prop},j≠i→ks[j]? =some k'→F.toL[j]? =some n'→Us[j]? =some U→Upd (fun y=>Ui y∨A3 y∨y=b') h h5→(∀y,W' y→W y∨h.size≤y)→KidO o W' h5 k' n' U:=fun{h5 W' j k' n' U} p ek en I ku5 hW'=>
       KidO.move ku5 (hL.2.2 j k' n' U ek en I) (J U (au I)) (fun y d=>by
        rcases d with h|h|rfl
        ·exact .inl ⟨B y (q y h),hUid j U p I y h⟩
        ·exact(z y h).1.imp (fun hs=>⟨B y hs,fun Z=>(hU3 U (hUj p I) y Z).1 h⟩) id
        ·exact R.imp (fun hs=>⟨B _ hs,fun Z=>(hU3 U (hUj p I) _ Z).2 rfl⟩) id) hW'
      rcases hr4 with⟨rfl,rfl⟩|⟨m4,rfl,kid4⟩
      ·rcases hm4 with⟨_,hnone⟩|⟨_,e,_⟩
       ·have ew:IntKind.wrap .i64 ((i:Int)+1)=((i+1:Nat):Int):=by rw[nT (by omega)];omega
        refine aA.2 ⟨_,rfl,s3,c5 (i:=3) b4,?_⟩;simp only;rw[ew];refine Ek ho4 N (by rw[hL.1];omega) fun s5 h5 ho5 P=>?_
        have b5:=P.get b4 fun hx=>(g _ hx).2.1 rfl
        refine⟨_,rfl,Hc (i:=3) b5 (show 3<5 by decide),x9 (i:=3) (c':=rP sl w.isSome val s5 o) b5 rfl fun h6 b6 hu6=>?_⟩
        have z45:=P.size;have z56:=hu6.size;have u06:Upd (fun y=>Ui y∨A3 y∨y=b') h h6:=((u04.mono fun y d=>.inl (.inl d)).trans P fun y d=>.inl (.inr (.inl d))).trans hu6 fun y d=>.inl (.inr (.inr d))
        have hmd:∀U∈Us.take i++Us.drop (i+1),∃j,j≠i∧Us[j]? =some U:=fun U C=>by
         obtain⟨j,p⟩:=ff C;rw[←eG,lh]at p;split at p
         ·exact⟨j,by omega,p⟩
         ·exact⟨j+1,by omega,p⟩
        obtain⟨rx,E⟩:=Dp (W:=W) (S:=S) (Us':=Us.take i++Us.drop (i+1)) (L':=F.toL.take i++F.toL.drop (i+1)) hW hno b6 hv (ho5.upd hu6 fun y d=>(g y d).2.1) (fun y d=>⟨(z y d).1,(z y d).2.1,by have:=(z y d).2.2;omega⟩) R (fun U C y d=>by
         obtain⟨j,p,e⟩:=hmd U C
         exact hU3 U (hUj p e) y d) (fun U C y d=>by
         obtain⟨j,p,e⟩:=hmd U C
         have hm:=au e
         exact⟨.inl (hUS U hm y d),by have:=J U hm y d;omega⟩) (Kg hPD i) fun E=>by
          refine⟨by simp[hL.1],by simp[hL.2.1],fun j k' n' U ek en I=>?_⟩
          simp only[←eG,lh]at ek en I;have hw:∀y,(W y∨SR o b' A3 (Us.take i++Us.drop (i+1)) y)→W y∨h.size≤y:=fun y d=>d.elim .inl fun h=>(E y h).1.imp (B y) id
          split at ek
          ·rename_i p
           rw[if_pos p]at en I;exact oth (by omega) ek en I u06 hw
          ·rename_i p
           rw[if_neg p]at en I;exact oth (by omega) ek en I u06 hw
        refine hk h6 b' w _ _ true (u06.mono fun y d=>?_) rx E (Jn hc) (yE H (hddel fun k' v' hN=>Classical.byContradiction fun hne=>hnone k' v' ((hdn k' v').2 ⟨hne,hN⟩))) (fun h=>by cases h) fun _=>hthere
        rcases d with h|h|rfl
        ·exact .inl (q y h)
        ·exact(z y h).1
        ·exact R
       ·cases e
      ·rcases hm4 with⟨e,_⟩|⟨m',e,hcn,hhd,hiff⟩
       ·cases e
       ·cases e
        obtain⟨kb4,ksl4,rfl,hkl4,rn4⟩:=id kid4;obtain⟨a3,ha3,hab,hw3,ho5,P⟩:=OwnS.setAt ho4 N (some ⟨kb4,0,none⟩);refine ak.2 ⟨_,rfl,s3,c5 (i:=3) b4,⟨by simp only;omega,by simp only;omega⟩,a3,ha3,?_⟩
        have hw1:Wr h4 (adr a3 (i*1)):=by
         rcases hw3 with hw|⟨b',O,hw⟩
         ·cases hw
         ·cases O;exact hw 0 (by simp)
        refine⟨hw1,bG ?_⟩;change K (some ⟨b',0,none⟩,true) (fi h4 (adr a3 (i*1)) 0 (jW (some ⟨kb4,0,none⟩)));have b5:=P.get b4 fun e=>by have e:b'=a3.block:=e;exact(g _ hab).2.1 e.symm
        have z45:=P.size;have eset:ks.set i (some ⟨kb4,0,none⟩)=ks.take i++some ⟨kb4,0,none⟩::ks.drop (i+1):=by rw[List.set_eq_take_append_cons_drop,if_pos N]
        rw[←eset]at ho5;generalize fi h4 (adr a3 (i*1)) 0 (jW (some ⟨kb4,0,none⟩))=h5 at*;have u05:Upd (fun y=>Ui y∨A3 y∨y=b') h h5:=(u04.mono fun y d=>.inl (.inl d)).trans P fun y d=>.inl (.inr (.inl (by have d:y=a3.block:=d;rw[d];exact hab)))
        have kid5:KidO o (fun y=>W y∨SR o b' A3 (Us.set i S4) y) h5 (some ⟨kb4,0,none⟩) m4 S4:=by
         refine KidO.move P kid4 (fun y d=>(hS4 y d).2) (fun y d=>?_) fun y d=>?_
         ·have d:y=a3.block:=d
          rw[←d]at hab;refine .inl ⟨?_,fun h=>(hS4A y h).1 hab⟩
          rcases(g y hab).1 with h|h
          ·exact .inl (.inl (.inl (B y h)))
          ·exact .inl (.inr ⟨h,(g y hab).2.2⟩)
         ·have f:∀y,(S y∨h2.size≤y)→y<h3.size→(((W y∨SV y)∨(h2.size≤y∧y<h3.size))∨S4 y)∨h4.size≤y:=fun y d hl=>by
           rcases d with h|h
           ·exact .inl (.inl (.inl (.inl (B y h))))
           ·exact .inl (.inl (.inr ⟨h,hl⟩))
          rcases d with h|⟨_,rfl|h|⟨U,C,h⟩⟩
          ·exact .inl (.inl (.inl (.inl h)))
          ·exact f _ O (aG b3)
          ·exact f _ (g y h).1 (g y h).2.2
          ·rcases hmem2 U C with h2'|rfl
           ·exact .inl (.inl (.inl (.inl (B _ (hUS U h2' y h)))))
           ·exact .inl (.inr h)
        obtain⟨rx,E⟩:=Dp (W:=W) (S:=S) (Us':=Us.set i S4) (L':=F.toL.set i m4) hW hno b5 hv ho5 (fun y d=>⟨(z y d).1,(z y d).2.1,by have:=(z y d).2.2;omega⟩) R (fun U C y d=>by
         obtain⟨j,p⟩:=ff C
         rw[dG]at p
         split at p
         ·rename_i e
          cases p;exact hS4A y d
         ·rename_i e
          exact hU3 U (hUj (Ne.symm e) p) y d) (fun U C y d=>by
         rcases hmem2 U C with h|rfl
         ·exact⟨.inl (hUS U h y d),by have:=J U h y d;omega⟩
         ·exact⟨(hS4' y d).1.imp (q y) id,by have:=(hS4' y d).2;omega⟩) (Hn hPD fun j U p I y d Z=>by
          rcases(hS4' y d).1 with h|h
          ·exact hUid j U p I y h Z
          ·have:=J U (au I) y Z;omega) fun E=>LsO.set hL.1 hL.2.1 (fun j k' n' U p ek en I=>oth p ek en I u05 fun y d=>d.elim .inl fun h=>(E y h).1.imp (B y) id) kid5
        refine hk h5 b' w _ _ true (u05.mono fun y d=>?_) rx E (D hcn hhd) (yE H (hdset fun k' v'=>by rw[hiff k' v'];exact hdn k' v')) (fun h=>by cases h) fun _=>hthere
        rcases d with h|h|rfl
        ·exact .inl (q y h)
        ·exact(z y h).1
        ·exact R
    ·rw[hkl]at hnr
     refine aA.2 (Y (Upd.refl _ _) fun v f=>?_)
     rcases f with⟨h,_⟩|f
     ·exact H h
     ·obtain⟨r',e,_⟩:=hin_m v f
      exact hnr r' e
end Go.Proofs
namespace Go.Proofs
open Go.Lift
theorem NodeO.upd0{o:Option Addr}{W S:Nat→Prop}{h a:ae}{b:Nat}{s:Slots}(f:NodeO o W h b s S)(k:Upd No h a):NodeO o W a b s S:=
 f.imp (fun n=>⟨n.1.upd k fun _ h=>h.elim,n.2⟩) fun⟨e,d,n,sp,sk,c⟩=>⟨e,d,n,sp,sk,c.upd k fun _ h=>h.elim⟩
theorem NodeO.read{o w:Option Addr}{W S:Nat→Prop}{h:ae}{b:Nat}{s:Slots}(f:NodeO o W h b s S)(t:By h w o):NodeAt No h b s:=by
 rcases f with⟨n,_⟩|⟨e,d,n,sp,sk,c⟩
 ·exact n.less fun _ h=>h.elim
 ·exact c.node (fun _ _ h=>h) fun a e=>⟨id,t.plain a (t.tok e)⟩
set_option maxHeartbeats 1000000 in
theorem ma{W S:Nat→Prop}{h:ae}{w o:Option Addr}{b:Nat}{s:Slots}(nd:NodeO o W h b s S)(t:By h w o)(hW:∀a,o=some a→W a.block)(hS:∀y,S y→y<h.size){i:Nat}(hi:i<32)(hx:∀y,s.p i=some y→s.k i=none)(p:Pr){K:Option Addr→ae→Prop}
  (hk:∀h' b' d n sp sk,OwnN (fun y=>S y∨h.size≤y) h' b' d n sp sk ⟨upd s.p i (some p),upd s.k i none⟩ o→Upd S h h'→K (some ⟨b',0,none⟩) h'):
  HC PG dC [.pointer (some ⟨b,0,none⟩),.pointer w,.int .i64 i,.agg #[.string p.1,.string p.2]] [.c .ptr] K h:=by
 refine rU _ w i p ?_;unfold mS f6 aD bL BO oZ cZ tW qu l9 fh j7;have k1:=Upd.hnew No h [.string p.1,.string p.2] al;have b1:=ci h [.string p.1,.string p.2] al;refine bG ?_;simp only[eZ h];generalize hnew h [.string p.1,.string p.2] al=h1 at k1 b1;have z1:=aG b1;have nd1:=nd.upd0 k1;have t1:=t.upd0 k1
 refine yp (nd1.read t1) hi (ak.2 ?_);refine AY nd1 t1 hW fun h2 G d n sp sk v M=>?_
 have bits:=v.bits;have O:∀{x},(S x∨h1.size≤x)→(S x∨h.size≤x):=fun h=>h.imp id fun h=>by omega
 have z2:=M.size;have zb:=aG v.blk;obtain⟨A,B,hA,hB,q,N⟩:=v.ex;have H:=k1.tr M;have z:=M.get0 b1;refine⟨_,rfl,_,cV (i:=0) v.blk,vr bits.d32 hi ?_⟩;rw[bits.dp i hi];cases hp:s.p i with
 |some y=>
  refine aA.2 ⟨_,rfl,sp,cV (i:=2) v.blk,_,rfl,_,cV (i:=0) v.blk,p.1,by rw[bC,aV z];rfl,p.2,by rw[bC,aV z];rfl,?_⟩
  refine lZ bits.d32 hi ⟨⟨by rw[bC,aV z];rfl,by rw[bC,aV z];rfl⟩,cV (i:=2) v.blk,?_⟩
  have hlt:=Al hi bits.dp hp;obtain⟨a,ha,I,hw,R,m⟩:=OwnS.setAt hA hlt p;have hlen:=hA.len;refine⟨by omega,a,ha,?_⟩;rw[aN];refine⟨hw,bG ?_⟩;rw[←HJ hi bits.dp hp]at R;have ob:=m.get v.blk fun e=>(q _ I).2.2.1 e.symm
  have z3:=m.size;have o3:OwnN (fun x=>S x∨h1.size≤x) _ G d n sp sk ⟨upd s.p i (some p),upd s.k i none⟩ o:=⟨ob,⟨bits.d32,bits.n32,fun c hc=>by
    rw[bits.dp c hc];simp only[upd];split
    ·rename_i e;rw[e,hp];rfl
    ·rfl,fun c hc=>by rw[bits.nk c hc,pr (hx y hp)]⟩,
   ⟨A,B,R,by rw[pr (hx y hp)];exact hB.upd m fun x hx e=>(q _ I).2.1 (e▸hx),fun x hx=>⟨(q x hx).1,(q x hx).2.1,(q x hx).2.2.1,by have:=(q x hx).2.2.2;omega⟩,fun x hx=>⟨(N x hx).1,(N x hx).2.1,by have:=(N x hx).2.2;omega⟩⟩,v.mb⟩
  refine hk _ _ _ _ _ _ (o3.mono fun _=>O) (H.wide.trans m fun x hx=>?_)
  have hx:x=a.block:=hx;rw[hx];exact O (q _ I).1
 |none=>
  refine ak.2 ⟨_,rfl,Bk v hi fun C d3 n3 E L o3 m=>?_⟩
  have f:=o3.bits;obtain⟨A3,B3,hA3,hB3,j,k⟩:=o3.ex;have z3:=m.size;have F:=m.get z fun e=>e.elim (fun e=>by have:=hS _ e;omega) fun e=>by omega
  have V:Upd S h C:=H.wide.trans m fun x hx=>O hx
  refine⟨_,rfl,E,cV (i:=2) o3.blk,_,rfl,_,cV (i:=0) o3.blk,p.1,by rw[bC,aV F];rfl,p.2,by rw[bC,aV F];rfl,?_⟩
  have U:=Upd.hnew No C [.string p.1,.string p.2] al;have b4:=ci C [.string p.1,.string p.2] al;have z4:=jd C [.string p.1,.string p.2] al;have P:=o3.upd U fun _ h=>h.elim
  have fin:HC PG bS [.slice E.a E.len E.cap,.int .i64 (pV i d3),.slice (some (aU C)) 1 1] [.c .slice] (fun(J:SliceV) Y=>
       ∃a34:Addr,some (⟨G,0,none⟩:Addr)=some a34∧
       (Wr Y (adr (adr a34 0) 2)∧
        At (hset Y (adr (adr a34 0) 2) (.slice J.a J.len J.cap)) (fun X=>
         ∃a36:Addr,some (⟨G,0,none⟩:Addr)=some a36∧
         ∃v37:Int,aQ X (adr (adr a36 0) 0)=some (.int .u32 v37)∧
         HC PG dE [.int .u32 v37,.int .i64 i] [.c (.int .u32)] (fun(e38:Int) T=>
          ∃a40:Addr,some (⟨G,0,none⟩:Addr)=some a40∧
          (Wr T (adr (adr a40 0) 0)∧
           At (hset T (adr (adr a40 0) 0) (.int .u32 e38)) (fun h41=>
            K (some ⟨G,0,none⟩) h41))) X))) (hnew C [.string p.1,.string p.2] al):=by
   generalize hnew C [.string p.1,.string p.2] al=h4 at U b4 z4 P;rw[eZ C];have hA4:=(hA3.upd U fun _ _ h=>h).more (M':=fun x=>A3 x∨h4.size≤x) fun x hx=>.inl hx
   have hpn:(⟨upd s.p i none,upd s.k i none⟩:Slots).p i=none:=eJ;refine D4 hA4 (JG hi f.dp) (by have:=sf (g:=(⟨upd s.p i none,upd s.k i none⟩:Slots).p);omega) (x:=p) b4 (fun e=>e.elim (fun e=>by have:=(j _ e).2.2.2;omega) fun e=>by omega) (fun x hx=>.inr hx) fun s5 h5 Z D=>?_
   rw[←HK hi f.dp hpn p]at Z;have hbl:G<C.size:=aG o3.blk;have b5:=D.get P.blk fun e=>e.elim (fun e=>(j _ e).2.2.1 rfl) fun e=>by omega
   refine⟨_,rfl,IE (i:=2) b5 (show 2<6 by decide),zg (i:=2) (c':=dR d3 n3 s5 L false o) b5 rfl fun h6 b6 hu6=>?_⟩
   refine⟨_,rfl,_,cV (i:=0) b6,ET f.d32 hi fun w1 hw hwt=>?_⟩
   refine⟨_,rfl,IE (i:=0) b6 (show 0<6 by decide),zg (i:=0) (c':=dR w1 n3 s5 L false o) b6 rfl fun h7 b7 hu7=>?_⟩
   have u:=hu6.tr hu7;have z5:=D.size;have z7:=u.size;have Q:=Z.within;have e1:(⟨upd (⟨upd s.p i none,upd s.k i none⟩:Slots).p i (some p),upd s.k i none⟩:Slots)=⟨upd s.p i (some p),upd s.k i none⟩:=by rw[EV]
   have o7:OwnN (fun x=>S x∨h1.size≤x) h7 G w1 n3 s5 L ⟨upd s.p i (some p),upd s.k i none⟩ o:=by
    rw[←e1];refine⟨b7,⟨hw,f.n32,fun c hc=>?_,f.nk⟩,⟨fun x=>(A3 x∨h4.size≤x)∧x<h5.size,B3,Q.upd u fun x hx e=>?_,((hB3.upd U fun _ _ h=>h).upd D fun x hx e=>?_).upd u fun x hx e=>(k x hx).2.1 e,fun x hx=>⟨?_,?_,?_,by omega⟩,fun x hx=>⟨(k x hx).1,(k x hx).2.1,by have:=(k x hx).2.2;omega⟩⟩,v.mb⟩
    ·rw[hwt,f.dp c hc];simp only[upd];split<;>simp[*]
    ·have e:x=G:=e
     rcases hx.1 with h|h
     ·exact(j x h).2.2.1 e
     ·omega
    ·rcases e with e|e
     ·exact(j x e).2.1 hx
     ·have:=(k x hx).2.2;omega
    ·rcases hx.1 with h|h
     ·exact(j x h).1
     ·exact .inr (by omega)
    ·rcases hx.1 with h|h
     ·exact(j x h).2.1
     ·exact fun hb=>by have:=(k x hb).2.2;omega
    ·rcases hx.1 with h|h
     ·exact(j x h).2.2.1
     ·omega
   refine hk _ _ _ _ _ _ (o7.mono fun _=>O) (((V.tr U.wide).trans D fun x hx=>?_).trans u fun x hx=>?_)
   ·rcases hx with h|h
    ·exact O (j x h).1
    ·exact .inr (by omega)
   ·have hx:x=G:=hx
    rw[hx];exact O v.mb
  refine⟨lZ f.d32 hi ⟨⟨by rw[bC,aV F];rfl,by rw[bC,aV F];rfl⟩,cV (i:=2) o3.blk,bG ⟨cV (i:=2) P.blk,fin⟩⟩,bG ⟨cV (i:=0) P.blk,cV (i:=2) P.blk,lZ f.d32 hi ⟨cV (i:=2) P.blk,fin⟩⟩⟩
theorem Gt{W S:Nat→Prop}{h:ae}{w o:Option Addr}{b:Nat}{s:Slots}(f:NodeO o W h b s S)(t:By h w o)(g:∀a,o=some a→W a.block){i:Nat}(hi:i<32){K:Option Addr→ae→Prop}
  (p:∀h' b' d n sp sk,OwnN (fun y=>S y∨h.size≤y) h' b' d n sp sk ⟨upd s.p i none,upd s.k i none⟩ o→Upd S h h'→K (some ⟨b',0,none⟩) h'):
  HC PG im [.pointer (some ⟨b,0,none⟩),.pointer w,.int .i64 i] [.c .ptr] K h:=by
 refine uH _ w i ?_;unfold oQ qu l9;refine yp (f.read t) hi (ak.2 ?_);refine AY f t g fun z v d n sp sk k c=>⟨_,rfl,Bk k hi fun u A q j m o3 e=>?_⟩
 exact p _ _ _ _ _ _ o3 (c.wide.trans e fun x hx=>hx)
set_option maxHeartbeats 1000000 in
theorem p4{W S:Nat→Prop}{h:ae}{w o:Option Addr}{b:Nat}{s:Slots}(nd:NodeO o W h b s S)(t:By h w o)(hW:∀a,o=some a→W a.block){i:Nat}(hi:i<32)(hx:∀y,s.k i=some y→s.p i=none)(j:Addr){K:Option Addr→ae→Prop}
  (hk:∀h' b' d n sp sk,OwnN (fun y=>S y∨h.size≤y) h' b' d n sp sk ⟨upd s.p i none,upd s.k i (some (some j))⟩ o→Upd S h h'→K (some ⟨b',0,none⟩) h'):
  HC PG eP [.pointer (some ⟨b,0,none⟩),.pointer w,.int .i64 i,.pointer (some j)] [.c .ptr] K h:=by
 refine tC _ w i (some j) ?_;unfold nH f6 bL cZ qu AB l9 fh j7;refine ak.2 ?_;refine yp (nd.read t) hi (ak.2 ?_);refine AY nd t hW fun h2 F d n sp sk u L=>?_
 have bits:=u.bits;have z2:=L.size;have zb:=aG u.blk;obtain⟨A,B,hA,hB,z,v⟩:=u.ex;refine⟨_,rfl,_,cV (i:=1) u.blk,vr bits.n32 hi ?_⟩;rw[bits.nk i hi];cases hp:s.k i with
 |some y=>
  refine aA.2 ⟨_,rfl,sk,cV (i:=3) u.blk,_,rfl,_,cV (i:=1) u.blk,?_⟩;refine lZ bits.n32 hi ⟨cV (i:=3) u.blk,?_⟩;have hlt:=Al hi bits.nk hp;obtain⟨a,ha,G,H,O,p⟩:=OwnS.setAt hB hlt (some j);have hlen:=hB.len;refine⟨by omega,a,ha,?_⟩;rw[aN];have hw1:Wr h2 (adr a (pV i n*1)):=by
   rcases H with H|⟨b',hb',H⟩
   ·cases H
   ·cases hb';exact H 0 (by simp)
  refine⟨hw1,bG ?_⟩;rw[←HJ hi bits.nk hp]at O;have ob:=p.get u.blk fun e=>(v _ G).2.1 e.symm
  have z3:=p.size;have o3:OwnN (fun x=>S x∨h.size≤x) _ F d n sp sk ⟨upd s.p i none,upd s.k i (some (some j))⟩ o:=⟨ob,⟨bits.d32,bits.n32,fun c hc=>by rw[bits.dp c hc,pr (hx y hp)],fun c hc=>by
    rw[bits.nk c hc];simp only[upd];split
    ·rename_i e;rw[e,hp];rfl
    ·rfl⟩,
   ⟨A,B,by rw[pr (hx y hp)];exact hA.upd p fun x hx e=>(z _ hx).2.1 (e▸G),O,fun x hx=>⟨(z x hx).1,(z x hx).2.1,(z x hx).2.2.1,by have:=(z x hx).2.2.2;omega⟩,fun x hx=>⟨(v x hx).1,(v x hx).2.1,by have:=(v x hx).2.2;omega⟩⟩,u.mb⟩
  refine hk _ _ _ _ _ _ o3 (L.wide.trans p fun x hx=>?_)
  have hx:x=a.block:=hx;rw[hx];exact(v _ G).1
 |none=>
  refine ak.2 ⟨_,rfl,Bk u hi fun C d3 n3 J E o3 p=>?_⟩
  have f:=o3.bits;obtain⟨A3,B3,hA3,hB3,k,m⟩:=o3.ex;have z3:=p.size;have R:Upd S h C:=L.wide.trans p fun x hx=>hx
  refine⟨_,rfl,E,cV (i:=3) o3.blk,_,rfl,_,cV (i:=1) o3.blk,?_⟩;have Q:=Upd.hnew No C [.pointer (some j)] aY;have b4:=ci C [.pointer (some j)] aY;have z4:=jd C [.pointer (some j)] aY;have M:=o3.upd Q fun _ h=>h.elim
  have fin:HC PG bM [.slice E.a E.len E.cap,.int .i64 (pV i n3),.slice (some (aU C)) 1 1] [.c .slice] (fun(I:SliceV) U=>
       ∃a34:Addr,some (⟨F,0,none⟩:Addr)=some a34∧
       (Wr U (adr (adr a34 0) 3)∧
        At (hset U (adr (adr a34 0) 3) (.slice I.a I.len I.cap)) (fun T=>
         ∃a36:Addr,some (⟨F,0,none⟩:Addr)=some a36∧
         ∃v37:Int,aQ T (adr (adr a36 0) 1)=some (.int .u32 v37)∧
         HC PG dE [.int .u32 v37,.int .i64 i] [.c (.int .u32)] (fun(e38:Int) P=>
          ∃a40:Addr,some (⟨F,0,none⟩:Addr)=some a40∧
          (Wr P (adr (adr a40 0) 1)∧
           At (hset P (adr (adr a40 0) 1) (.int .u32 e38)) (fun Y=>
            K (some ⟨F,0,none⟩) Y))) T))) (hnew C [.pointer (some j)] aY):=by
   generalize hnew C [.pointer (some j)] aY=h4 at Q b4 z4 M;rw[eZ C];have Z:=(hB3.upd Q fun _ _ h=>h).more (M':=fun x=>B3 x∨h4.size≤x) fun x hx=>.inl hx
   have hpn:(⟨upd s.p i none,upd s.k i none⟩:Slots).k i=none:=eJ;refine D5 Z (JG hi f.nk) (by have:=sf (g:=(⟨upd s.p i none,upd s.k i none⟩:Slots).k);omega) (x:=some j) b4 (fun e=>e.elim (fun e=>by have:=(m _ e).2.2;omega) fun e=>by omega) (fun x hx=>.inr hx) fun X h5 V D=>?_
   rw[←HK hi f.nk hpn (some j)]at V;have hbl:F<C.size:=aG o3.blk;have b5:=D.get M.blk fun e=>e.elim (fun e=>(m _ e).2.1 rfl) fun e=>by omega
   refine⟨_,rfl,IE (i:=3) b5 (show 3<6 by decide),zg (i:=3) (c':=dR d3 n3 J X false o) b5 rfl fun h6 b6 hu6=>?_⟩
   refine⟨_,rfl,_,cV (i:=1) b6,ET f.n32 hi fun w1 H hwt=>?_⟩
   refine⟨_,rfl,IE (i:=1) b6 (show 1<6 by decide),zg (i:=1) (c':=dR d3 w1 J X false o) b6 rfl fun h7 b7 hu7=>?_⟩
   have q:=hu6.tr hu7;have z5:=D.size;have z7:=q.size;have N:=V.within;have e1:(⟨upd s.p i none,upd (⟨upd s.p i none,upd s.k i none⟩:Slots).k i (some (some j))⟩:Slots)=⟨upd s.p i none,upd s.k i (some (some j))⟩:=by rw[EV]
   have o7:OwnN (fun x=>S x∨h.size≤x) h7 F d3 w1 J X ⟨upd s.p i none,upd s.k i (some (some j))⟩ o:=by
    rw[←e1];refine⟨b7,⟨f.d32,H,f.dp,fun c hc=>?_⟩,⟨A3,fun x=>(B3 x∨h4.size≤x)∧x<h5.size,((hA3.upd Q fun _ _ h=>h).upd D fun x hx e=>?_).upd q fun x hx e=>(k x hx).2.2.1 e,N.upd q fun x hx e=>?_,fun x hx=>⟨(k x hx).1,?_,(k x hx).2.2.1,by have:=(k x hx).2.2.2;omega⟩,fun x hx=>⟨?_,?_,by omega⟩⟩,u.mb⟩
    ·rw[hwt,f.nk c hc];simp only[upd];split<;>simp[*]
    ·rcases e with e|e
     ·exact(k x hx).2.1 e
     ·have:=(k x hx).2.2.2;omega
    ·have e:x=F:=e
     rcases hx.1 with h|h
     ·exact(m x h).2.1 e
     ·omega
    ·rintro⟨h|h,_⟩
     ·exact(k x hx).2.1 h
     ·have:=(k x hx).2.2.2;omega
    ·rcases hx.1 with h|h
     ·exact(m x h).1
     ·exact .inr (by omega)
    ·rcases hx.1 with h|h
     ·exact(m x h).2.1
     ·omega
   refine hk _ _ _ _ _ _ o7 (((R.tr Q.wide).trans D fun x hx=>?_).trans q fun x hx=>?_)
   ·rcases hx with h|h
    ·exact(m x h).1
    ·exact .inr (by omega)
   ·have hx:x=F:=hx
    rw[hx];exact u.mb
  refine⟨lZ f.n32 hi ⟨cV (i:=3) o3.blk,bG ⟨cV (i:=3) M.blk,fin⟩⟩,bG ⟨cV (i:=1) M.blk,cV (i:=3) M.blk,lZ f.n32 hi ⟨cV (i:=3) M.blk,fin⟩⟩⟩
end Go.Proofs
namespace Go.Proofs
open Go.Lift
def OwnB(M:Nat→Prop)(h:ae)(b:Nat)(sp sk:SliceV)(l:List Pr)(o:Option Addr):Prop:=
 h[b]? =some (.cells (dR 0 0 sp sk true o) ba (0,0))∧M b∧∃A B:Nat→Prop,OwnS gz 2 al A h sp l∧OwnS my 1 aY B h sk []∧(∀x,A x→M x∧x≠b∧x<h.size)∧(∀x,B x→M x∧x≠b∧x<h.size)
theorem OwnB.upd{M M':Nat→Prop}{h f:ae}{b:Nat}{sp sk:SliceV}{l:List Pr}{o:Option Addr}(n:OwnB M h b sp sk l o)(k:Upd M' h f)(hm:∀x,M' x→¬M x):OwnB M f b sp sk l o:=by
 obtain⟨g,e,A,B,j,i,a,c⟩:=n;have z:=k.size;exact⟨k.get g fun hx=>hm _ hx e,e,A,B,j.upd k fun x hx d=>hm _ d (a x hx).1,i.upd k fun x hx d=>hm _ d (c x hx).1,fun x hx=>⟨(a x hx).1,(a x hx).2.1,by have:=(a x hx).2.2;omega⟩,fun x hx=>⟨(c x hx).1,(c x hx).2.1,by have:=(c x hx).2.2;omega⟩⟩
theorem OwnB.mono{M M':Nat→Prop}{h:ae}{b:Nat}{sp sk:SliceV}{l:List Pr}{o:Option Addr}(n:OwnB M h b sp sk l o)(hm:∀x,M x→M' x):OwnB M' h b sp sk l o:=by
 obtain⟨d,f,A,B,g,e,a,c⟩:=n;exact⟨d,hm _ f,A,B,g,e,fun x hx=>⟨hm _ (a x hx).1,(a x hx).2⟩,fun x hx=>⟨hm _ (c x hx).1,(c x hx).2⟩⟩
theorem OwnB.within{M:Nat→Prop}{h:ae}{b:Nat}{sp sk:SliceV}{l:List Pr}{o:Option Addr}(n:OwnB M h b sp sk l o):OwnB (fun x=>M x∧x<h.size) h b sp sk l o:=by
 obtain⟨d,e,A,B,g,f,a,c⟩:=n;exact⟨d,⟨e,aG d⟩,A,B,g,f,fun x hx=>⟨⟨(a x hx).1,(a x hx).2.2⟩,(a x hx).2⟩,fun x hx=>⟨⟨(c x hx).1,(c x hx).2.2⟩,(c x hx).2⟩⟩
theorem OwnB.buck{M W:Nat→Prop}{h:ae}{b:Nat}{sp sk:SliceV}{l:List Pr}{o:Option Addr}(n:OwnB M h b sp sk l o)(a:∀x,M x→¬W x)(g:OwOk W h o):BuckAt W h b l:=by
 obtain⟨e,f,A,B,d,c,i,j⟩:=n;exact⟨⟨sp,sk,o,e,d.sl fun x hx _=>a _ (i x hx).1,c.sl fun x hx _=>a _ (j x hx).1,d.cap,c.cap,g⟩,a _ f⟩
def BuckO(o:Option Addr)(W:Nat→Prop)(h:ae)(b:Nat)(l:List Pr)(S:Nat→Prop):Prop:=
 (BuckAt W h b l∧∀y,¬S y)∨(o.isSome=true∧∃sp sk,OwnB S h b sp sk l o)
theorem BuckO.upd0{o:Option Addr}{W S:Nat→Prop}{h a:ae}{b:Nat}{l:List Pr}(n:BuckO o W h b l S)(k:Upd No h a):BuckO o W a b l S:=
 n.imp (fun n=>⟨n.1.upd k fun _ h=>h.elim,n.2⟩) fun⟨e,sp,sk,c⟩=>⟨e,sp,sk,c.upd k fun _ h=>h.elim⟩
theorem BuckO.read{o w:Option Addr}{W S:Nat→Prop}{h:ae}{b:Nat}{l:List Pr}(d:BuckO o W h b l S)(t:By h w o):BuckAt No h b l:=by
 rcases d with⟨n,_⟩|⟨e,sp,sk,c⟩
 ·exact n.less fun _ h=>h.elim
 ·exact c.buck (fun _ _ h=>h) fun a e=>⟨id,t.plain a (t.tok e)⟩
theorem Ct{W S:Nat→Prop}{h:ae}{w o:Option Addr}{b:Nat}{l:List Pr}(g:BuckO o W h b l S)(t:By h w o)(G:∀a,o=some a→W a.block)(E:l.length≤1000000000){K:Option Addr→ae→Prop}
  (u:∀j b' sp sk,OwnB (fun y=>S y∨h.size≤y) j b' sp sk l o→Upd No h j→K (some ⟨b',0,none⟩) j):
  HC PG dw [.pointer (some ⟨b,0,none⟩),.pointer w] [.c .ptr] K h:=by
 rcases g with⟨g,_⟩|⟨v,sp,sk,g⟩
 ·obtain⟨sp,sk,ow,C,p,q,F,D,i⟩:=g.ex
  refine E9 (d:=0) (n:=0) t C (fun a e=>(i a e).2) ?_ p q E (by simp) fun j m s A B b' I H c f k=>?_
  ·cases ho:o with
   |none=>rfl
   |some a=>
    have e:=t.tok ho;rw[Option.isSome_some,Bool.true_and,beq_eq_false_iff_ne];intro z;rw[e]at z;exact(i a z).1 (G a ho)
  ·exact u j h.size m s ⟨b',.inr (aw _),A,B,I,H,fun x hx=>⟨.inr (by have:=(c x hx).1;omega),by have:=(c x hx).1;omega,(c x hx).2.2⟩,fun x hx=>⟨.inr (by have:=(f x hx).1;omega),by have:=(f x hx).1;omega,(f x hx).2⟩⟩ k
 ·refine E8 (d:=0) (n:=0) t g.1 (fun a e=>t.plain a (t.tok e)) ?_ (u h b sp sk (g.mono fun _ h=>.inl h) (Upd.refl _ _))
  obtain⟨a,e⟩:=Option.isSome_iff_exists.1 v;rw[v,e,t.tok e];simp
theorem yN{W S:Nat→Prop}{h:ae}{w o:Option Addr}{b:Nat}{l:List Pr}(Y:BuckO o W h b l S)(t:By h w o)(Q:∀a,o=some a→W a.block)(hS:∀y,S y→y<h.size)(C:cq l)(z:l.length≤1000000000)(p:Pr){K:Option Addr→ae→Prop}
  (J:∀h' b' sp sk,OwnB (fun y=>S y∨h.size≤y) h' b' sp sk (ic p l) o→Upd S h h'→K (some ⟨b',0,none⟩) h'):
  HC PG gZ [.pointer (some ⟨b,0,none⟩),.pointer w,.agg #[.string p.1,.string p.2]] [.c .ptr] K h:=by
 refine xa _ w p ?_;unfold qE aD bL pq cZ tW qu;have k1:=Upd.hnew No h [.string p.1,.string p.2] al;have b1:=ci h [.string p.1,.string p.2] al;refine bG ?_;simp only[eZ h];generalize hnew h [.string p.1,.string p.2] al=h1 at k1 b1;have z1:=aG b1;have k:=Y.upd0 k1;have E:=t.upd0 k1;obtain⟨sp,sk,ow,H,M,R,P,I⟩:=(k.read E).ex
 refine gI (d:=0) (n:=0) H (ak.2 ?_);refine Ct k E Q z fun T u N D L j=>?_
 obtain⟨b2,hM,A,B,F,U,ha,c⟩:=L;have q:=j.get0 b1;refine⟨_,rfl,N,cV (i:=2) b2,p.1,by rw[bC,aV q];rfl,p.2,by rw[bC,aV q];rfl,?_⟩
 refine DN (F.sl (W:=No) fun _ _ _ h=>h) F.cap C z p fun v G m f=>?_
 rw[Fi p C]at m;have b3:=f.get0 b2;refine⟨_,rfl,IE (i:=2) b3 (show 2<6 by decide),zg (i:=2) (c':=dR 0 0 v D true o) b3 rfl fun O X g=>?_⟩
 have z2:=aG b2;have V:=j.size;have Z:=f.size;have z4:=g.size;have s:∀{x},(S x∨h1.size≤x)→(S x∨h.size≤x):=fun h=>h.imp id fun h=>by omega
 refine J O u v D ⟨X,s hM,fun x=>T.size≤x∧x<G.size,B,m.within.upd g fun x hx e=>?_,(U.upd f fun _ _ h=>h).upd g fun x hx e=>(c x hx).2.1 e,fun x hx=>⟨.inr (by omega),by omega,by omega⟩,fun x hx=>⟨s (c x hx).1,(c x hx).2.1,by have:=(c x hx).2.2;omega⟩⟩ ((((k1.tr j).tr f).wide).trans g fun x hx=>?_)
 ·have e:x=u:=e
  have:=hx.1;omega
 ·have hx:x=u:=hx
  rw[hx];exact s hM
def TrieO(o:Option Addr)(W:Nat→Prop)(x:Hs)(h:ae):Nat→Nat→List Pr→(Nat→Prop)→Prop
 |0,b,l,S=>BuckO o W h b l S
 |m+1,b,l,S=>(TrieAt W x h (m+1) b l∧∀y,¬S y)∨(o.isSome=true∧∃(s:Slots) (d n:Nat) (sp sk:SliceV) (S0:Nat→Prop) (T:Nat→Nat→Prop),OwnN S0 h b d n sp sk s o∧(∀y,S0 y→S y)∧(∀c y,T c y→S y∧¬S0 y)∧(∀c c' y,T c y→T c' y→c=c')∧∀c,c<32→
  ((part x (12-m) c l= []∧s.p c=none∧s.k c=none∧∀y,¬T c y)∨(∃p,part x (12-m) c l= [p]∧s.p c=some p∧s.k c=none∧∀y,¬T c y)∨
   (2≤(part x (12-m) c l).length∧s.p c=none∧∃kb,s.k c=some (some ⟨kb,0,none⟩)∧TrieO o W x h m kb (part x (12-m) c l) (T c))))
def SlotO(o:Option Addr)(W:Nat→Prop)(x:Hs)(h:ae)(m:Nat)(s:Slots)(c:Nat)(l:List Pr)(T:Nat→Prop):Prop:=
 (l= []∧s.p c=none∧s.k c=none∧∀y,¬T y)∨(∃p,l= [p]∧s.p c=some p∧s.k c=none∧∀y,¬T y)∨(2≤l.length∧s.p c=none∧∃kb,s.k c=some (some ⟨kb,0,none⟩)∧TrieO o W x h m kb l T)
theorem BV{o:Option Addr}{W:Nat→Prop}{x:Hs}{h:ae}:∀{m b:Nat} {l:List Pr},TrieAt W x h m b l→TrieO o W x h m b l No
 |0,_,_,t=>.inl ⟨t,fun _ h=>h⟩
 |_+1,_,_,t=>.inl ⟨t,fun _ h=>h⟩
theorem TrieO.freeze{o:Option Addr}{W W':Nat→Prop}{x:Hs}{h:ae}(i:∀y,W' y→W y)(f:OwOk W' h o):∀{m b:Nat} {l:List Pr} {S:Nat→Prop},TrieO o W x h m b l S→(∀y,S y→¬W' y)→TrieAt W' x h m b l
 |0,_,_,_,t,hS=>t.elim (fun t=>t.1.less fun y a=>.inl (i y a)) fun⟨_,_,_,t⟩=>t.buck hS f
 |m+1,b,l,S,t,hS=>by
  rcases t with⟨t,_⟩|⟨_,s,d,n,sp,sk,A,T,v,z,w,_,hc⟩
  ·exact TrieAt.less (fun y a=>.inl (i y a)) t
  ·exact⟨s,v.node (fun y a=>hS y (z y a)) f,fun c g=>(hc c g).imp (fun h=>⟨h.1,h.2.1,h.2.2.1⟩) fun o=>o.imp (fun⟨p,e,k,j,_⟩=>⟨p,e,k,j⟩) fun⟨e,k,u,j,q⟩=>⟨e,k,u,j,TrieO.freeze i f q fun y a=>hS y (w c y a).1⟩⟩
theorem TrieO.read{o w:Option Addr}{W S:Nat→Prop}{x:Hs}{h:ae}{m b:Nat}{l:List Pr}(t:TrieO o W x h m b l S)(by_:By h w o):TrieAt No x h m b l:=
 TrieO.freeze (fun _ h=>h.elim) (fun a e=>⟨id,by_.plain a (by_.tok e)⟩) t fun _ _ h=>h
theorem TrieO.off{W S:Nat→Prop}{x:Hs}{h:ae}{m b:Nat}{l:List Pr}(t:TrieO none W x h m b l S):TrieAt W x h m b l∧∀y,¬S y:=by
 cases m with
 |zero=>exact t.elim id fun h=>absurd h.1 (by simp)
 |succ m=>exact t.elim id fun h=>absurd h.1 (by simp)
theorem TrieO.upd{o:Option Addr}{W M:Nat→Prop}{x:Hs}{h p:ae}(k:Upd M h p):∀{m b:Nat} {l:List Pr} {S:Nat→Prop},TrieO o W x h m b l S→(∀y,S y→y<h.size)→(∀y,M y→(W y∧¬S y)∨h.size≤y)→TrieO o W x p m b l S
 |0,_,_,S,t,hS,hm=>t.imp (fun t=>⟨t.1.upd k fun y a=>(hm y a).imp (fun h=>h.1) id,t.2⟩) fun⟨e,sp,sk,t⟩=>⟨e,sp,sk,t.upd k fun y a f=>by
   have:=hS y f
   rcases hm y a with h|h
   ·exact h.2 f
   ·omega⟩
 |m+1,b,l,S,t,hS,hm=>by
  rcases t with⟨t,e⟩|⟨e,s,d,n,sp,sk,A,T,w,j,i,hd,hc⟩
  ·exact .inl ⟨TrieAt.updM k (fun y a=>(hm y a).imp (fun h=>h.1) id) t,e⟩
  ·refine .inr ⟨e,s,d,n,sp,sk,A,T,w.upd k fun y a f=>?_,j,i,hd,fun c g=>(hc c g).imp id fun o=>o.imp id fun⟨q,B,v,z,u⟩=>⟨q,B,v,z,TrieO.upd k u (fun y a=>hS y (i c y a).1) fun y a=>(hm y a).imp (fun h=>⟨h.1,fun C=>h.2 (i c y C).1⟩) id⟩⟩
   have:=hS y (j y f);rcases hm y a with h|h
   ·exact h.2 (j y f)
   ·omega
theorem TrieO.upd0{o:Option Addr}{W:Nat→Prop}{x:Hs}{h f:ae}(k:Upd No h f):∀{m b:Nat} {l:List Pr} {S:Nat→Prop},TrieO o W x h m b l S→TrieO o W x f m b l S
 |0,_,_,_,t=>BuckO.upd0 t k
 |m+1,b,l,S,t=>by
  rcases t with⟨t,e⟩|⟨e,s,d,n,sp,sk,v,T,p,y,q,hd,hc⟩
  ·exact .inl ⟨TrieAt.upd0 k t,e⟩
  ·exact .inr ⟨e,s,d,n,sp,sk,v,T,p.upd k fun _ h=>h.elim,y,q,hd,fun c a=>(hc c a).imp id fun o=>o.imp id fun⟨g,w,j,u,i⟩=>⟨g,w,j,u,TrieO.upd0 k i⟩⟩
theorem TrieO.less{o:Option Addr}{W W':Nat→Prop}{x:Hs}{h:ae}(hm:∀y,W' y→W y∨h.size≤y):∀{m b:Nat} {l:List Pr} {S:Nat→Prop},TrieO o W x h m b l S→TrieO o W' x h m b l S
 |0,_,_,_,t=>t.imp (fun t=>⟨t.1.less hm,t.2⟩) id
 |m+1,b,l,S,t=>by
  rcases t with⟨t,e⟩|⟨e,s,d,n,sp,sk,q,T,j,v,k,hd,hc⟩
  ·exact .inl ⟨TrieAt.less hm t,e⟩
  ·exact .inr ⟨e,s,d,n,sp,sk,q,T,j,v,k,hd,fun c a=>(hc c a).imp id fun o=>o.imp id fun⟨f,u,i,p,g⟩=>⟨f,u,i,p,TrieO.less hm g⟩⟩
theorem SlotO.upd{o:Option Addr}{W M:Nat→Prop}{x:Hs}{h a:ae}(k:Upd M h a){m:Nat}{s:Slots}{c:Nat}{l:List Pr}{T:Nat→Prop}(t:SlotO o W x h m s c l T)(i:∀y,T y→y<h.size)(hm:∀y,M y→(W y∧¬T y)∨h.size≤y):SlotO o W x a m s c l T:=
 t.imp id fun o=>o.imp id fun⟨b,g,e,f,d⟩=>⟨b,g,e,f,TrieO.upd k d i hm⟩
theorem SlotO.less{o:Option Addr}{W W':Nat→Prop}{x:Hs}{h:ae}(hm:∀y,W' y→W y∨h.size≤y){m:Nat}{s:Slots}{c:Nat}{l:List Pr}{T:Nat→Prop}(t:SlotO o W x h m s c l T):SlotO o W' x h m s c l T:=
 t.imp id fun o=>o.imp id fun⟨a,f,d,e,b⟩=>⟨a,f,d,e,TrieO.less hm b⟩
theorem SlotO.turn{o:Option Addr}{W:Nat→Prop}{x:Hs}{h:ae}{m:Nat}{s s':Slots}{c:Nat}{l:List Pr}{T:Nat→Prop}(t:SlotO o W x h m s c l T)(a:s'.p c=s.p c)(b:s'.k c=s.k c):SlotO o W x h m s' c l T:=by
 unfold SlotO at t⊢;rw[a,b];exact t
theorem TrieO.view{o:Option Addr}{W S:Nat→Prop}{x:Hs}{h:ae}{m b:Nat}{l:List Pr}(t:TrieO o W x h (m+1) b l S):
  ∃(s:Slots) (a:Nat→Prop) (T:Nat→Nat→Prop),NodeO o W h b s a∧(∀y,a y→S y)∧(∀c y,T c y→S y∧¬a y)∧(∀c c' y,T c y→T c' y→c=c')∧∀c,c<32→SlotO o W x h m s c (part x (12-m) c l) (T c):=by
 rcases t with⟨⟨s,q,hc⟩,e⟩|⟨e,s,d,n,sp,sk,a,T,v,z,w,hd,hc⟩
 ·exact⟨s,No,fun _=>No,.inl ⟨q,fun _ h=>h⟩,fun _ h=>h.elim,fun _ _ h=>h.elim,fun _ _ _ h=>h.elim,fun c g=>(hc c g).imp (fun h=>⟨h.1,h.2.1,h.2.2,fun _ h=>h⟩) fun o=>o.imp (fun⟨p,f,j,i⟩=>⟨p,f,j,i,fun _ h=>h⟩) fun⟨f,j,u,i,k⟩=>⟨f,j,u,i,BV k⟩⟩
 ·exact⟨s,a,T,.inr ⟨e,d,n,sp,sk,v⟩,z,w,hd,hc⟩
theorem zG{o:Option Addr}{W j:Nat→Prop}{T:Nat→Nat→Prop}{x:Hs}{k:ae}{m b' d n z:Nat}{sp sk:SliceV}{s':Slots}{l':List Pr}(t:OwnN (fun y=>j y∨z≤y) k b' d n sp sk s' o)
  (hc:∀c,c<32→SlotO o W x k m s' c (part x (12-m) c l') (T c))(w:∀c y,T c y→y<z∧¬j y)(hd:∀c c' y,T c y→T c' y→c=c')(A:o=none→(∀y,¬j y)∧∀y,W y→y<z):
  TrieO o W x k (m+1) b' l' (fun y=>o.isSome=true∧(((j y∨z≤y)∧y<k.size)∨∃c,c<32∧T c y)):=by
 cases o with
 |none=>
  obtain⟨C,B⟩:=A rfl;refine .inl ⟨⟨s',t.node (fun y f s=>?_) ia,fun c b=>?_⟩,fun y f=>by simp at f⟩
  ·have:=B y s
   rcases f with h|h
   ·exact C y h
   ·omega
  ·exact(hc c b).imp (fun h=>⟨h.1,h.2.1,h.2.2.1⟩) fun o=>o.imp (fun⟨p,i,g,q,_⟩=>⟨p,i,g,q⟩) fun⟨i,g,v,q,u⟩=>⟨i,g,v,q,u.off.1⟩
 |some a=>
  refine .inr ⟨rfl,s',d,n,sp,sk,fun y=>(j y∨z≤y)∧y<k.size,fun c y=>c<32∧T c y,t.within,fun y f=>⟨rfl,.inl f⟩,fun c y f=>⟨⟨rfl,.inr ⟨c,f⟩⟩,fun h=>?_⟩,fun c c' y i g=>hd c c' y i.2 g.2,fun c b=>?_⟩
  ·obtain⟨i,g⟩:=w c y f.2
   rcases h.1 with h|h
   ·exact g h
   ·omega
  ·have e:(fun y=>c<32∧T c y)=T c:=funext fun y=>propext ⟨fun h=>h.2,fun h=>⟨b,h⟩⟩
   have:=hc c b;unfold SlotO at this;rw[←e]at this;exact this
end Go.Proofs
namespace Go.Proofs
open Go.Lift
theorem Gb{o:Option Addr}{W c:Nat→Prop}{e:ae}{b' d n z:Nat}{sp sk:SliceV}{s':Slots}(g:OwnN (fun y=>c y∨z≤y) e b' d n sp sk s' o)(i:o=none→(∀y,¬c y)∧∀y,W y→y<z):
  NodeO o W e b' s' (fun y=>o.isSome=true∧(c y∨z≤y)∧y<e.size):=by
 cases o with
 |none=>
  obtain⟨k,j⟩:=i rfl;refine .inl ⟨g.node (fun y b f=>?_) ia,fun y b=>by simp at b⟩
  have:=j y f;rcases b with h|h
  ·exact k y h
  ·omega
 |some a=>exact .inr ⟨rfl,d,n,sp,sk,g.within.mono fun y b=>⟨rfl,b⟩⟩
theorem rM{o:Option Addr}{W c:Nat→Prop}{d:ae}{b' z:Nat}{sp sk:SliceV}{l:List Pr}(f:OwnB (fun y=>c y∨z≤y) d b' sp sk l o)(g:o=none→(∀y,¬c y)∧∀y,W y→y<z):
  BuckO o W d b' l (fun y=>o.isSome=true∧(c y∨z≤y)∧y<d.size):=by
 cases o with
 |none=>
  obtain⟨j,i⟩:=g rfl;refine .inl ⟨f.buck (fun y b e=>?_) ia,fun y b=>by simp at b⟩
  have:=i y e;rcases b with h|h
  ·exact j y h
  ·omega
 |some a=>exact .inr ⟨rfl,sp,sk,f.within.mono fun y b=>⟨rfl,b⟩⟩
def SN(o:Option Addr)(a:Nat→Prop)(z:Nat)(b:ae)(T:Nat→Nat→Prop)(y:Nat):Prop:=o.isSome=true∧(((a y∨z≤y)∧y<b.size)∨∃c,c<32∧T c y)
def sT(T:Nat→Nat→Prop)(i:Nat)(S:Nat→Prop)(c:Nat):Nat→Prop:=if c=i then S else T c
theorem tS{T:Nat→Nat→Prop}{i:Nat}{S:Nat→Prop}:sT T i S i=S:=if_pos rfl
theorem m7{T:Nat→Nat→Prop}{i c:Nat}{S:Nat→Prop}(h:c≠i):sT T i S c=T c:=if_neg h
theorem Ev{o:Option Addr}{S f T':Nat→Prop}{z z0 c0:Nat}{a:ae}{T:Nat→Nat→Prop}(j:∀y,f y→S y)(d:∀c y,T c y→S y∧y<a.size)(b:∀y,T' y→(S y∨z0≤y)∧y<a.size)(hz:z0≤z){y:Nat}(i:SN o f z a (sT T c0 T') y):(S y∨z0≤y)∧y<a.size:=by
 rcases i.2 with⟨h|h,g⟩|⟨c,_,h⟩
 ·exact⟨.inl (j y h),g⟩
 ·exact⟨.inr (Nat.le_trans hz h),g⟩
 ·by_cases e:c=c0
  ·subst e;rw[tS]at h;exact b y h
  ·rw[m7 e]at h;exact⟨.inl (d c y h).1,(d c y h).2⟩
theorem sF{o:Option Addr}{W W1 f T':Nat→Prop}{T:Nat→Nat→Prop}{x:Hs}{hz g:ae}{m b' d n c0:Nat}{sp sk:SliceV}{s s':Slots}{l':List Pr}
  (E:OwnN (fun y=>f y∨hz.size≤y) g b' d n sp sk s' o)(D:Upd f hz g)(F:∀c,c<32→c≠c0→SlotO o W1 x hz m s c (part x (12-m) c l') (T c))(B:∀c,c≠c0→s'.p c=s.p c∧s'.k c=s.k c)
  (hi:SlotO o W1 x hz m s' c0 (part x (12-m) c0 l') T')(p:∀y,W y→W1 y)(k:∀y,f y→W1 y)(v:∀c y,T c y→W1 y)(u:∀y,T' y→W1 y)(z:∀c y,T c y→y<hz.size∧¬f y)(b:∀y,T' y→y<hz.size∧¬f y∧∀c,c≠c0→¬T c y)
  (hd:∀c c' y,T c y→T c' y→c=c')(w:o=none→(∀y,¬f y)∧∀y,W1 y→y<hz.size):
  TrieO o (fun y=>W y∨SN o f hz.size g (sT T c0 T') y) x g (m+1) b' l' (SN o f hz.size g (sT T c0 T')):=by
 have q:∀c y,sT T c0 T' c y→W1 y∧y<hz.size∧¬f y:=fun c y h=>by
  by_cases e:c=c0
  ·subst e;rw[tS]at h;exact⟨u y h,(b y h).1,(b y h).2.1⟩
  ·rw[m7 e]at h;exact⟨v c y h,z c y h⟩
 have G:∀y,(W y∨SN o f hz.size g (sT T c0 T') y)→(W1 y∨hz.size≤y):=fun y a=>by
  rcases a with h|⟨_,⟨h|h,_⟩|⟨c,_,h⟩⟩
  ·exact .inl (p y h)
  ·exact .inl (k y h)
  ·exact .inr h
  ·exact .inl (q c y h).1
 have C:∀{s:Slots} {c:Nat} {l:List Pr} {U:Nat→Prop},SlotO o W1 x hz m s c l U→(∀y,U y→y<hz.size∧¬f y)→SlotO o (fun y=>W y∨SN o f hz.size g (sT T c0 T') y) x g m s c l U:=fun t A=>
  ((t.less (W':=fun y=>W1 y∨hz.size≤y) fun y a=>a).upd D (fun y a=>(A y a).1) fun y a=>.inl ⟨.inl (k y a),fun h=>(A y h).2 a⟩).less fun y a=>.inl (G y a)
 refine zG E (fun c hc=>?_) (fun c y h=>(q c y h).2) (fun c c' y i j=>?_) fun e=>⟨(w e).1,fun y a=>?_⟩
 ·by_cases e:c=c0
  ·subst e;rw[tS];exact C hi fun y a=>⟨(b y a).1,(b y a).2.1⟩
  ·rw[m7 e];exact(C (F c hc e) fun y a=>z c y a).turn (B c e).1 (B c e).2
 ·by_cases e:c=c0<;>by_cases e':c'=c0
  ·omega
  ·subst e;rw[tS]at i;rw[m7 e']at j;exact absurd j ((b y i).2.2 c' e')
  ·subst e';rw[tS]at j;rw[m7 e]at i;exact absurd i ((b y j).2.2 c e)
  ·rw[m7 e]at i;rw[m7 e']at j;exact hd c c' y i j
 ·rcases a with h|⟨h,_⟩
  ·exact(w e).2 y (p y h)
  ·rw[e]at h;cases h
abbrev GR(x:Hs)(w:Option Addr)(k:ByteArray):Value:=.agg #[.int .u64 x.k0,.int .u64 x.k1,.int .u64 x.mask,.pointer w,.string k,.int .u64 (lx x k)]
set_option maxHeartbeats 1000000 in
theorem Ii{W:Nat→Prop}{x:Hs}{w o:Option Addr}:∀(m:Nat) (p q:Pr),m≤13→p.1≠q.1→∀{h:ae},(∀y,W y→y<h.size)→By h w o→(∀a,o=some a→W a.block)→∀{K:Option Addr→ae→Prop},(∀h' b' S',TrieO o (fun y=>W y∨S' y) x h' m b' (ic q [p]) S'→(∀y,S' y→h.size≤y∧y<h'.size)→Upd No h h'→K (some ⟨b',0,none⟩) h')→
  HC PG iw [GR x w q.1,.agg #[.string p.1,.string p.2],.agg #[.string q.1,.string q.2],.int .i64 ((13-m:Nat):Int)] [.c .ptr] K h:=by
 intro m;induction m with
 |zero=>
  intro p q _ Z h hW t F K hk;have L:∀{h'},Upd No h h'→∀y,W y→y<h'.size:=fun k y g=>bv (hW y g) k.size
  refine oC (x.k0,x.k1,x.mask,w,q.1,lx x q.1) p q ((13-0:Nat):Int) ?_;unfold kY ag dQ ay aD AD pq tW sE AX pW xJ;refine bi fun h1 b1 k1=>bi fun h2 b2 k2=>bi fun M b3 k3=>?_
  have j:=(k1.tr k2).tr k3;have v:∀{h':ae},Upd No M h'→∀i,aQ h' (adr ⟨h.size,0,none⟩ i)=(#[.int .u64 x.k0,.int .u64 x.k1,.int .u64 x.mask,.pointer w,.string q.1,.int .u64 (lx x q.1)]:Array Value)[i]?:=fun k i=>by
   rw[bC,aV (k.get0 (k3.get0 (k2.get0 b1))),aC]
  have H:∀{h':ae},Upd No M h'→∀i,aQ h' (adr ⟨h1.size,0,none⟩ i)=(#[.string p.1,.string p.2]:Array Value)[i]?:=fun k i=>by rw[bC,aV (k.get0 (k3.get0 b2)),aC]
  have D:∀{h':ae},Upd No M h'→∀i,aQ h' (adr ⟨h2.size,0,none⟩ i)=(#[.string q.1,.string q.2]:Array Value)[i]?:=fun k i=>by rw[bC,aV (k.get0 b3),aC]
  have r:=Upd.refl No M;have z03:=j.size;refine aA.2 ⟨w,v r 3,p.1,H r 0,p.2,H r 1,w,v r 3,q.1,D r 0,q.2,D r 1,?_⟩;refine Gw (L j) fun h4 b4 bk4 f=>⟨⟨D f 0,D f 1⟩,v f 3,⟨H f 0,H f 1⟩,v f 3,?_⟩
  have t4:=t.upd0 (j.tr f);have z4:=f.size;refine yN (S:=No) (.inl ⟨bk4,fun _ h=>h⟩) t4 F (fun _ h=>h.elim) fq (by simp) p fun Q b5 sp5 sk5 on5 C=>?_
  have E:=f.tr C;have z5:=C.size;refine⟨⟨D E 0,D E 1⟩,v E 3,?_⟩;have bk5:=rM (W:=W) (z:=h4.size) on5 fun e=>⟨fun _ h=>h,L (j.tr f)⟩
  have t5:=t4.upd0 C;refine yN bk5 t5 F (fun y g=>g.2.2) (dY ..) (by simp[ic]) q fun P b6 sp6 sk6 Y A=>?_
  have z6:=A.size;have bk6:=rM (W:=fun y=>W y∨(o.isSome=true∧((o.isSome=true∧((No y∨h4.size≤y)∧y<Q.size))∨Q.size≤y)∧y<P.size)) (z:=Q.size) Y fun e=>⟨fun y g=>(by rw[e]at g;cases g.1),fun y g=>(by
   rcases g with g|g
   ·exact L (j.tr E) y g
   ·rw[e]at g;cases g.1)⟩
  refine hk P b6 _ bk6 (fun y g=>?_) ((j.tr E).trans A fun y g=>.inr ?_)
  ·rcases g.2.1 with h|h
   ·rcases h.2.1 with h|h
    ·exact h.elim
    ·exact⟨by omega,g.2.2⟩
   ·exact⟨by omega,g.2.2⟩
  ·rcases g.2.1 with h|h
   ·exact h.elim
   ·omega
 |succ m ih=>
  intro p q hm Z h hW t F K hk;have L:∀{h'},Upd No h h'→∀y,W y→y<h'.size:=fun k y g=>bv (hW y g) k.size
  have hl:13-(m+1)<13:=by omega
  have B:13-(m+1)=12-m:=by omega
  refine oC (x.k0,x.k1,x.mask,w,q.1,lx x q.1) p q ((13-(m+1):Nat):Int) ?_;unfold kY ag dQ ay aD AD pq tW sE AX pW xJ;refine bi fun h1 b1 k1=>bi fun h2 b2 k2=>bi fun M b3 k3=>?_
  have j:=(k1.tr k2).tr k3;have v:∀{h':ae},Upd No M h'→∀i,aQ h' (adr ⟨h.size,0,none⟩ i)=(#[.int .u64 x.k0,.int .u64 x.k1,.int .u64 x.mask,.pointer w,.string q.1,.int .u64 (lx x q.1)]:Array Value)[i]?:=fun k i=>by
   rw[bC,aV (k.get0 (k3.get0 (k2.get0 b1))),aC]
  have H:∀{h':ae},Upd No M h'→∀i,aQ h' (adr ⟨h1.size,0,none⟩ i)=(#[.string p.1,.string p.2]:Array Value)[i]?:=fun k i=>by rw[bC,aV (k.get0 (k3.get0 b2)),aC]
  have D:∀{h':ae},Upd No M h'→∀i,aQ h' (adr ⟨h2.size,0,none⟩ i)=(#[.string q.1,.string q.2]:Array Value)[i]?:=fun k i=>by rw[bC,aV (k.get0 b3),aC]
  have r:=Upd.refl No M;have z03:=j.size;have ne:(((13-(m+1):Nat):Int)==(13:Int))=false:=by rw[beq_eq_false_iff_ne];omega
  rw[ne];refine ak.2 ⟨_,v r 0,_,v r 1,_,v r 2,_,H r 0,_,v r 5,?_⟩;refine xx fun h4 f=>⟨v f 5,Jm hl ⟨v f 5,Jm hl ?_⟩⟩
  have hi:=wJ x (13-(m+1)) p.1;have hj:=wJ x (13-(m+1)) q.1;have hcl:=EW Z;have z4:=f.size;refine CondP.intro (fun e=>?_) fun e=>?_
  ·have e:ck x (13-(m+1)) p.1=ck x (13-(m+1)) q.1:=by have:=eq_of_beq e;omega
   refine⟨_,v f 3,_,v f 0,_,v f 1,_,v f 2,_,v f 3,_,v f 4,_,v f 5,_,H f 0,_,H f 1,_,D f 0,_,D f 1,?_⟩;refine qc (L (j.tr f)) fun Q b5 U C=>?_
   have b:=f.tr C;have z5:=C.size;refine⟨⟨D b 0,D b 1⟩,⟨H b 0,H b 1⟩,⟨v b 0,v b 1,v b 2,v b 3,v b 4,v b 5⟩,v b 3,?_⟩;have ew:IntKind.wrap .i64 (((13-(m+1):Nat):Int)+1)=((13-m:Nat):Int):=by rw[nT (by omega)];omega
   rw[ew];refine ih p q (by omega) Z (L (j.tr b)) (t.upd0 (j.tr b)) F fun P b6 Sk t6 O A=>?_
   have u:=b.tr A;have z6:=A.size;refine⟨v u 3,?_⟩;refine p4 (S:=No) (.inl ⟨U.upd A fun _ h=>h.elim,fun _ h=>h⟩) (t.upd0 (j.tr u)) F hi (fun y h=>by cases h) ⟨b6,0,none⟩ fun h7 b7 d n sp sk V J=>?_
   have z7:=J.size;refine hk h7 b7 _ (sF (W:=W) (W1:=fun y=>W y∨Sk y) (T:=fun _=>No) (T':=Sk) (c0:=ck x (13-(m+1)) p.1) (s:=⟨fun _=>none,fun _=>none⟩) (hz:=P) V J (fun c hc X=>?_) (fun c hc=>⟨ep hc,ep hc⟩) ?_ (fun y g=>.inl g) (fun _ h=>h.elim) (fun _ _ h=>h.elim) (fun y g=>.inr g) (fun _ _ h=>h.elim) (fun y g=>⟨(O y g).2,id,fun _ _ h=>h⟩) (fun _ _ _ h=>h.elim) fun eo=>⟨fun _ h=>h,fun y g=>g.elim (L (j.tr u) y) fun h=>(O y h).2⟩) (fun y g=>?_) ((j.tr u).tr J)
   ·refine .inl ⟨E6 fun r hr=>?_,rfl,rfl,fun _ h=>h⟩
    rw[B]at X e;rcases Fc hr with rfl|rfl
    ·exact fun e=>X e.symm
    ·rw[←e];exact fun e=>X e.symm
   ·have ea:part x (12-m) (ck x (13-(m+1)) p.1) (ic q [p])=ic q [p]:=Co fun r hr=>by
     rw[B]at e⊢;rcases Fc hr with rfl|rfl
     ·rfl
     ·rw[e]
    rw[ea];exact .inr (.inr ⟨by omega,eJ,b6,eJ,t6⟩)
   ·have:=Ev (S:=No) (z0:=h.size) (fun _ h=>h) (fun _ _ h=>h.elim) (fun y g=>⟨.inr (by have:=(O y g).1;omega),by have:=(O y g).2;omega⟩) (by omega) g
    exact⟨this.1.elim (fun h=>h.elim) id,this.2⟩
  ·have e:ck x (13-(m+1)) p.1≠ck x (13-(m+1)) q.1:=fun h=>by rw[h]at e;simp at e
   refine⟨_,v f 3,_,H f 0,_,H f 1,_,v f 3,_,D f 0,_,D f 1,?_⟩;refine qc (L (j.tr f)) fun Q b5 U C=>?_
   have b:=f.tr C;have z5:=C.size;have t5:=t.upd0 (j.tr b);refine⟨⟨D b 0,D b 1⟩,v b 3,⟨H b 0,H b 1⟩,v b 3,?_⟩;refine ma (S:=No) (.inl ⟨U,fun _ h=>h⟩) t5 F (fun _ h=>h.elim) hi (fun y h=>by cases h) p fun P b6 d6 n6 sp6 sk6 Y A=>?_
   have u:=b.tr A;have z6:=A.size;have nd6:=Gb (W:=W) Y fun _=>⟨fun _ h=>h,L (j.tr b)⟩
   refine⟨⟨D u 0,D u 1⟩,v u 3,?_⟩;refine ma nd6 (t5.upd0 A) F (fun y g=>g.2.2) hj (fun y h=>by simp[upd]) q fun h7 b7 d7 n7 sp7 sk7 V J=>?_
   have z7:=J.size;have R:∀y,(o.isSome=true∧(No y∨Q.size≤y)∧y<P.size)→Q.size≤y:=fun y g=>g.2.1.elim (fun h=>h.elim) id
   refine hk h7 b7 _ (zG (T:=fun _=>No) (z:=P.size) (W:=fun y=>W y∨SN o (fun y=>o.isSome=true∧(No y∨Q.size≤y)∧y<P.size) P.size h7 (fun _=>No) y) V (fun c hc=>?_) (fun _ _ h=>h.elim) (fun _ _ _ h=>h.elim) fun eo=>⟨fun y g=>(by rw[eo]at g;cases g.1),fun y g=>(by
    rcases g with g|g
    ·exact L (j.tr u) y g
    ·rw[eo]at g;cases g.1)⟩) (fun y g=>?_) ((j.tr u).trans J fun y g=>.inr (by have:=R y g;omega))
   ·have G:=yd (x:=x) (lev:=12-m) (c:=c) (p:=q) (l:= [p]) (dY ..)
    rw[B]at e;by_cases N:c=ck x (12-m) p.1
    ·have I:ck x (12-m) q.1≠c:=fun h=>e (by omega)
     have e1:part x (12-m) c [p]= [p]:=Co fun r hr=>by rw[ai.1 hr,N]
     rw[if_neg I,e1]at G;exact .inr (.inl ⟨p,G,by simp[upd,B,N,e],by simp[upd],fun _ h=>h⟩)
    ·have e1:part x (12-m) c [p]= []:=E6 fun r hr=>by rw[ai.1 hr];exact fun h=>N h.symm
     rw[e1]at G;by_cases I:c=ck x (12-m) q.1
     ·rw[if_pos I.symm]at G
      exact .inr (.inl ⟨q,G,by simp[upd,B,I],by simp[upd],fun _ h=>h⟩)
     ·rw[if_neg fun h=>I h.symm]at G
      exact .inl ⟨G,by simp[upd,B,I,N],by simp[upd],fun _ h=>h⟩
   ·rcases g.2 with⟨h|h,h2⟩|⟨_,_,h⟩
    ·exact⟨by have:=R y h;omega,h2⟩
    ·exact⟨by omega,h2⟩
    ·exact h.elim
end Go.Proofs
