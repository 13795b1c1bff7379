/- A part of the proof that the named laws of this program answer true, whatever the input. -/
import Derived.Test.YtajpljopgikpgaaGreatDoorPart4
import Derived.Test.YtajpljopgikpgaaGreatDoorPart2
open ByteArray renaming mk→kS
open Int renaming toNat_natCast→aM
open List renaming eraseIdx_eq_take_drop_succ→gI,getElem?_eraseIdx→po,mem_singleton→aq,getElem_mem→aU,getElem?_eq_getElem→af,length_append→ad,mem_of_getElem?→bK,getElem?_set→fe,pairwise_singleton→cL
open List.Pairwise renaming nil→ey
open Nat renaming lt_or_ge→bG,one_pos→tM,le_refl→aj,lt_of_lt_of_le→bI,zero_add→aI
namespace Go.Proofs
open Go Go.Lift
theorem UY{Ts:List (Nat→Prop)}(e:PD Ts)(i:Nat):PD (Ts.take i++Ts.drop (i+1)):=by
 intro a b A B f d c;simp only[←gI,po]at d c;split at d<;>split at c
 ·exact e a b A B f d c
 ·exact e a (b+1) A B (by omega) d c
 ·exact e (a+1) b A B (by omega) d c
 ·exact e (a+1) (b+1) A B (by omega) d c
theorem QH{o:Option Addr}{W S X A:Nat→Prop}{h:ae}{c b:Nat}{T:List (Nat→Prop)}(j:∀y,W y→y<h.size)(d:o=none→∀y,¬S y)(g:∀y,A y→S y∨h.size≤y)(i:S b∨h.size≤b)(e:o=none):(∀y,A y→¬(W y∨SR o c X T y))∧¬(W b∨SR o c X T b):=by
 have no:∀y,(S y∨h.size≤y)→¬(W y∨SR o c X T y):=fun y f a=>by
  rcases a with a|⟨a,_⟩
  ·rcases f with h|h
   ·exact d e y h
   ·have:=j y a;omega
  ·rw[e]at a;cases a
 exact⟨fun y f=>no y (g y f),no _ i⟩
theorem LN{o:Option Addr}{W S A:Nat→Prop}{h b:ae}{a:Nat}{sl val:ByteArray}{m:SliceV}{w:Option ByteArray}{f:List (Option Addr)}{L':List Bn}{Us':List (Nat→Prop)}
  (t:∀y,W y→y<h.size)(j:o=none→∀y,¬S y)(n:b[a]? =some (.cells (xf sl w.isSome val m o) bC (0,0))) (hv:val=w.getD ⟨#[]⟩) (k:OwnS lY 1 aW A b m f) (g:∀y,A y→(S y∨h.size≤y)∧y≠a∧y<b.size) (d:S a∨h.size≤a)
  (p:∀U∈Us',∀y,U y→¬A y∧y≠a) (i:∀U∈Us',∀y,U y→(S y∨h.size≤y)∧y<b.size) (s:PD Us') (q:(∀y,SR o a A Us' y→(S y∨h.size≤y)∧y<b.size)→LsO o (fun y=>W y∨SR o a A Us' y) b f L' Us'):
  RxO o (fun y=>W y∨SR o a A Us' y) b a sl w (.ofL L') (SR o a A Us')∧∀y,SR o a A Us' y→(S y∨h.size≤y)∧y<b.size:=by
 have e:∀y,SR o a A Us' y→(S y∨h.size≤y)∧y<b.size:=fun y c=>y4 d (aN n) (fun y c=>⟨(g y c).1,(g y c).2.2⟩) i c
 exact⟨wp n hv k (fun y c=>(g y c).2) p s (by rw[Fo.to_of];exact q e) (QH t j (fun y c=>(g y c).1) d),e⟩
def WU(o:Option Addr)(W:Nat→Prop)(h:ae)(r:Option Addr)(m:Option Bn)(S:Nat→Prop):Prop:=(r=none∧m=none)∨∃n,m=some n∧KidO o W h r n S
set_option maxHeartbeats 1000000 in
theorem LO{w' o:Option Addr}{W S:Nat→Prop}{h:ae}{b:Nat}{sl:ByteArray}{w:Option ByteArray}{F:Fo}(r:RxO o W h b sl w F S)(t:By h w' o)(hW:∀y,W y→y<h.size)(D:∀y,S y→W y)(hWo:∀a,o=some a→W a.block)(hc:fG F)(X:sl.data.toList≠[])(hs1:sl.size≤1000000)(hs2:∀k v,pv F k v→k.length≤1000000)
  {K:Option Addr→ae→Prop}(hk:∀j r m S2,Upd S h j→T7 (sl.data.toList,w,F) m→WU o (fun y=>W y∨S2 y) j r m S2→(∀y,S2 y→(S y∨h.size≤y)∧y<j.size)→K r j):HC PG oN [.pointer (some ⟨b,0,none⟩),.pointer w'] [.c .ptr] K h:=by
 refine AD _ w' ?_;unfold tl bR cQ aY vJ bD f9 tP;have hr:=r;have hno:o=none→∀y,¬S y:=fun e=>by subst e;exact r.off.2
 have hSb:∀y,S y→y<h.size:=fun y c=>hW y (D y c)
 obtain⟨val,s,ow,ks,Us,T,hv,hs,hL,hUS,hPD,hown⟩:=r.view;have hn:=jA hc;have d:=hs.len;rw[hL.1]at d;refine Join.intro (fun t j=>t=decide (w.isSome∨2≤F.toL.length)∧j=h) (fun R hR=>⟨_,rfl,w.isSome,dE (i:=1) T,?_⟩) ?_
 ·cases w with
  |some v=>exact ax.2 (hR _ _ ⟨rfl,rfl⟩)
  |none=>
   refine al.2 ⟨_,rfl,s,dE (i:=3) T,hR _ _ ⟨?_,rfl⟩⟩;rw[decide_eq_decide];constructor
   ·intro h;exact .inr (by omega)
   ·rintro(h|h)
    ·cases h
    ·omega
 ·rintro t' j ⟨rfl,rfl⟩
  refine aB (fun G=>?_) fun G=>?_
  ·exact hk j _ _ S (Upd.refl _ _) (Pt X hc G) (.inr ⟨_,rfl,b,sl,rfl,rfl,hr.less fun y c=>.inl (c.elim id (D y))⟩) fun y c=>⟨.inl c,hSb y c⟩
  ·have hw:w=none:=by
    cases w with
    |none=>rfl
    |some v=>exact absurd (.inl rfl) G
   subst hw;have hl2:F.toL.length<2:=by
    rcases bG F.toL.length 2 with h|h
    ·exact h
    ·exact absurd (.inr h) G
   refine⟨_,rfl,s,dE (i:=3) T,?_⟩;match hFL:F.toL,hl2 with
   | [],_=>
    rw[hFL]at d;have e:((s.len:Int)==(0:Int))=true:=by rw[beq_iff_eq,d];rfl
    rw[e];exact ax.2 (hk j _ _ No (Upd.refl _ _) (Pu hFL) (.inl ⟨rfl,rfl⟩) fun y c=>c.elim)
   | [(lk,wk,Fk)],_=>
    rw[hFL]at d;have e:((s.len:Int)==(0:Int))=false:=by rw[beq_eq_false_iff_ne,d];simp
    rw[e];have p:(lk,wk,Fk)∈F.toL:=by rw[hFL];exact aq.2 rfl
    have hcm:=(eN.1 hc).2 _ p;have h0:F.toL[0]? =some (lk,wk,Fk):=by rw[hFL];rfl
    have N:0<ks.length:=by rw[hL.1,hFL];exact tM
    have M:0<Us.length:=by rw[hL.2.1,hFL];exact tM
    have O:Us[0]∈Us:=aU M;obtain⟨kb,q,hke,J,u⟩:=hL.2.2 0 _ _ _ (af N) h0 (af M);have hki:ks[0]? =some (some ⟨kb,0,none⟩):=by rw[af N,hke]
    have g:∀y,Us[0] y→S y:=hUS _ O;generalize Us[0]=U at u O g;simp only at J u;obtain⟨a,ha,_,hvv⟩:=hs.at0 hki;have hknr:=u;have hno2:o=none→∀y,¬U y:=fun e=>by subst e;exact u.off.2
    obtain⟨kval,kss,kow,kks,x,Z,hkv,hkss,Y,E,hkPD,L⟩:=u.view;have P:=jA hcm.2.2;have hUb:∀y,U y→y<j.size:=fun y c=>hSb y (g y c)
    have n:∀V∈x,∀y,V y→y<j.size:=fun V B y c=>hUb y (E V B y c)
    refine al.2 ⟨_,rfl,s,dE (i:=3) T,⟨by omega,by rw[d];simp⟩,a,ha,some ⟨kb,0,none⟩,hvv,?_⟩
    refine ll (W:=W) (S:=U) (Us:=x) t hWo Z (by rw[Y.1];exact P) (Bz (Us:=x) L (aN Z) (Upd.refl No j) (fun _ h=>h.elim) fun V B y c=>⟨.inl ⟨V,B,c⟩,n V B y c⟩) fun h1 b1 s1 A1 Q hA1 f C hU1 H=>?_
    obtain⟨rr,vv,hin⟩:=mc hc _ p;have hbd:=hs2 (lk++rr) vv (fK.2 ⟨_,p,rr,rfl,hin⟩);rw[ad]at hbd;have hlkl:lk.length=q.size:=by rw[←J];exact mC q
    refine⟨_,rfl,sl,dE (i:=0) (H.get0 T),_,rfl,q,dE (i:=0) Q,by omega,?_⟩
    refine vd Q fun G b2 I=>?_
    have u02:Upd (· =b1) j G:=H.wide.tr I
    have z1:=H.size;have z2:=I.size;have zb:=aN b2;have A:∀{z:Nat},(U z∨j.size≤z)→S z∨j.size≤z:=fun h=>h.imp (g _) id
    have hS2:∀y,SR o b1 A1 x y→(S y∨j.size≤y)∧y<G.size:=fun y c=>y4 (A C) zb (fun y c=>⟨A (f y c).1,by have:=(f y c).2.2;omega⟩) (fun V B y c=>⟨.inl (g y (E V B y c)),by have:=n V B y c;omega⟩) c
    refine hk G _ _ (SR o b1 A1 x) (u02.mono fun y c=>by have c:y=b1:=c;rw[c];exact A C) (Q8 X hc hFL) (.inr ⟨_,rfl,b1,sl++q,rfl,by rw[←J];exact Si sl q,wp b2 hkv (hA1.upd I fun y c=>(f y c).2.1) (fun y c=>⟨(f y c).2.1,by have:=(f y c).2.2;omega⟩) hU1 hkPD (Y.move u02 n (fun y c=>?_) fun y c=>c.elim .inl fun h=>(hS2 y h).1.imp (D y) id) (QH hW hno (fun y c=>A (f y c).1) (A C))⟩) hS2
    have c:y=b1:=c;subst c;exact C.imp (fun h=>⟨D y (g y h),fun V B hu=>(hU1 V B y hu).2 rfl⟩) id
end Go.Proofs
namespace Go.Proofs
open Go Go.Lift
set_option maxHeartbeats 4000000 in
theorem O8{w' o:Option Addr}:∀(n:Nat) {W S:Nat→Prop} {b:Nat} {sl:ByteArray} {w:Option ByteArray} {F:Fo} {h:ae} (k:ByteArray),k.size<n→RxO o W h b sl w F S→By h w' o→(∀y,W y→y<h.size)→(∀y,S y→W y)→(∀a,o=some a→W a.block)→(∀a,w'=some a→¬S a.block)→fG F→(∀j v,pv F j v→j.length≤1000000)→∀{K:(Option Addr)×Bool→ae→Prop},
  (∀h' G w2 F2 S2 Z,Upd S h h'→RxO o (fun y=>W y∨S2 y) h' G sl w2 F2 S2→(∀y,S2 y→(S y∨h.size≤y)∧y<h'.size)→fG F2→tJ (qy w F) (qy w2 F2) k.data.toList→(Z=false→G=b∧w2=w∧F2=F∧Upd No h h'∧∀v,¬qy w F k.data.toList v)→(Z=true→∃v,qy w F k.data.toList v)→K (some ⟨G,0,none⟩,Z) h')→
  HC PG lH [.pointer (some ⟨b,0,none⟩),.pointer w',.string k] [.c .ptr,.c .bool] K h:=by
 intro n;induction n with
 |zero=>intro W S b sl w F h k hk;omega
 |succ n ih=>
  intro W S b sl w F h k hkn r t hW C hWo hwS hc hbd K hk;refine AF (some ⟨b,0,none⟩) w' k ?_;unfold tx bR cQ aY im vJ cY P2 bD f9 Hv Ji;have hr:=r;have hno:o=none→∀y,¬S y:=fun e=>by subst e;exact r.off.2
  obtain⟨val,s,ow,ks,Us,hb,hv,hs,hL,hUS,hPD,hown⟩:=r.view;have hn:=jA hc;have hcan:=eN.1 hc;have hSb:∀y,S y→y<h.size:=fun y d=>hW y (C y d)
  have L:∀U∈Us,∀y,U y→y<h.size:=fun U B y d=>hSb y (hUS U B y d)
  have zb:=aN hb;have own2:=fun{h2:ae} {M:Nat→Prop} (ku:Upd M h h2) (hM:∀y,M y→S y∧∃U∈Us,U y) (Us':List (Nat→Prop)) (B:∀U∈Us',∀y,U y→((∃V∈Us,V y)∨h.size≤y)∧y<h2.size)=>Bz (Us':=Us') hown zb ku hM B
  have Q:∀{h':ae},Upd No h h'→(∀v,¬qy w F k.data.toList v)→K (some ⟨b,0,none⟩,false) h':=fun hu hnin=>hk _ b w F S false hu.wide ((hr.upd0 hu).less fun y d=>.inl (d.elim id (C y))) (fun y d=>⟨.inl d,by have:=hSb y d;have:=hu.size;omega⟩) hc (MM hnin) (fun _=>⟨rfl,rfl,rfl,hu,hnin⟩) fun h=>by cases h
  rw[jB];refine aB (fun hk0=>?_) fun hk0=>?_
  ·have hke:k.data.toList= []:=by rw[hk0]
   rw[hke]at hk Q;refine⟨_,rfl,w.isSome,dE (i:=1) hb,?_⟩;cases hw:w with
   |none=>
    refine ax.2 (Q (Upd.refl _ _) fun v f=>?_)
    rcases f with⟨_,h⟩|h
    ·rw[hw]at h;cases h
    ·exact absurd rfl (oI hc h)
   |some u=>
    refine al.2 (ll (S:=S) (Us:=Us) t hWo hb (by rw[hL.1];exact hn) (own2 (Upd.refl No h) (fun _ h=>h.elim) Us fun U B y d=>⟨.inl ⟨U,B,d⟩,L U B y d⟩) fun h1 G s1 A1 b1 hA1 hA1s T hU1 hu1=>?_)
    refine⟨_,rfl,QI (i:=1) b1 (show 1<5 by decide),D3 (i:=1) (c':=xf sl false val s1 o) b1 rfl fun h2 b2 hu2=>?_⟩
    refine⟨_,rfl,QI (i:=2) b2 (show 2<5 by decide),D3 (i:=2) (c':=xf sl false ⟨#[]⟩ s1 o) b2 rfl fun h3 b3 hu3=>?_⟩
    have hu13:=hu2.tr hu3;have z1:=hu1.size;have z3:=hu13.size;have u03:Upd (· =G) h h3:=hu1.wide.tr hu13
    obtain⟨rx,E⟩:=LN (W:=W) (S:=S) (w:=none) (val:=⟨#[]⟩) (L':=F.toL) hW hno b3 rfl (hA1.upd hu13 fun y d=>(hA1s y d).2.1) (fun y d=>⟨(hA1s y d).1,(hA1s y d).2.1,by have:=(hA1s y d).2.2;omega⟩) T hU1 (fun U B y d=>⟨.inl (hUS U B y d),by have:=L U B y d;omega⟩) hPD fun E=>hL.move u03 L (fun y d=>by
     have d:y=G:=d
     subst d
     exact T.imp (fun h=>⟨C y h,fun U B hu=>(hU1 U B y hu).2 rfl⟩) id) fun y d=>d.elim .inl fun h=>(E y h).1.imp (C y) id
    rw[Fo.of_to]at rx;exact hk h3 G none F _ true (u03.mono fun y d=>by have d:y=G:=d;rw[d];exact T) rx E hc (ML hc) (fun h=>by cases h) fun _=>⟨u,.inl ⟨rfl,hw⟩⟩
  ·have J:k.data.toList≠[]:=fun e=>hk0 (by cases k;exact congrArg kS (Array.toList_inj.1 e))
   obtain⟨c0,hc0,hc0e⟩:=Eu J;refine⟨c0,Int.le_refl _,hc0,?_⟩;have hlk:k.data.toList.length=k.size:=mC k;refine Gu (hr.read t) hc (c:=c0.toNat) (UInt8.toNat_lt _) fun i ok hil hlo hhi hok=>?_
   rw[hc0e]at hlo hhi hok;cases ok with
   |false=>
    refine ax.2 (Q (Upd.refl _ _) fun v f=>?_)
    rcases f with⟨h,_⟩|f
    ·exact J h
    ·obtain⟨n',hn',e,_⟩:=qF hc f
     obtain⟨j,p,rfl⟩:=List.getElem_of_mem hn';rcases bG j i with hl|hl
     ·have:=hlo j p hl;omega
     ·have h1:=hhi j p hl
      have h2:=hhi i (by omega) (aj _);rcases bG i j with hl2|hl2
      ·have h3:=List.pairwise_iff_getElem.1 hcan.1 i j (by omega) p hl2
       omega
      ·have:i=j:=by omega
       subst this;have:=hok.2 ⟨p,e⟩;cases this
   |true=>
    obtain⟨hi,hie⟩:=hok.1 rfl;refine al.2 ⟨_,rfl,s,dE (i:=3) hb,?_⟩;have X:i<ks.length:=by rw[hL.1];exact hi
    have hUi0:i<Us.length:=by rw[hL.2.1];exact hi
    obtain⟨kb,ksl,hke,hkl,P⟩:=hL.2.2 i _ _ _ (af X) (af hi) (af hUi0);have hki:ks[i]? =some (some ⟨kb,0,none⟩):=by rw[af X,hke]
    have hUie:Us[i]? =some Us[i]:=af hUi0;have H:Us[i]∈Us:=aU hUi0;have hmem:F.toL[i]∈F.toL:=aU hi;have hcm:=hcan.2 _ hmem;obtain⟨a,ha,_,hvv⟩:=hs.at0 hki;have hslen:=hs.len;rw[hL.1]at hslen;have hlt1:(i:Int)<((s.len:Nat):Int):=by omega
    refine⟨⟨by simp only;omega,hlt1⟩,a,ha,some ⟨kb,0,none⟩,hvv,_,rfl,?_⟩;obtain⟨kval,kss,kow,kks,kUs,hkb,_⟩:=P.view;have hin_m:∀v,pv F k.data.toList v→sy F.toL[i] k.data.toList v:=fun v f=>by
     obtain⟨n',hn',e,hN⟩:=qF hc f;rw[←xz hc hn' hmem (by omega)];exact hN
    have N:∀j v,sy F.toL[i] j v→pv F j v:=fun j v f=>fK.2 ⟨_,hmem,f⟩
    have D:∀{m:Bn},Lg m→hd m.1=hd F.toL[i].1→fG (.ofL (F.toL.set i m)):=fun h1 h2=>Oz hc hi h1 h2
    have hdset:∀{m:Bn},tJ (sy F.toL[i]) (sy m) k.data.toList→tJ (pv F) (pv (.ofL (F.toL.set i m))) k.data.toList:=fun hp=>PA hc hi hie hp
    have hddel:(∀k' v',sy F.toL[i] k' v'→k'=k.data.toList)→tJ (pv F) (pv (.ofL (F.toL.take i++F.toL.drop (i+1)))) k.data.toList:=fun hp=>PB hc hi hie hp
    have q:∀y,Us[i] y→S y:=hUS _ H;have hUib:∀y,Us[i] y→y<h.size:=L _ H;have hUid:∀j U,j≠i→Us[j]? =some U→Dj Us[i] U:=fun j U p I=>hPD i j _ _ (Ne.symm p) hUie I
    have nUb:¬Us[i] b:=fun hu=>by
     rcases hown with⟨_,_,_,hS0⟩|⟨_,_,A,_,_,_,hUA⟩
     ·exact hS0 _ (q _ hu)
     ·exact(hUA _ H b hu).2 rfl
    generalize F.toL[i]=m at hkl P hcm hin_m N D hdset hddel hie;generalize Us[i]=Ui at P hUie H q hUib hUid nUb;obtain⟨lab,wk,Fk⟩:=m;simp only at hkl P hcm hie D;refine⟨ksl,dE (i:=0) hkb,Vr (fun rest x=>?_) fun hnr=>?_⟩
    ·rw[hkl]at x
     have hlne:lab.length≠0:=fun e=>hcm.1 (List.length_eq_zero_iff.1 e)
     have hrl:rest.size<k.size:=by
      rw[←mC rest,←hlk,x,ad];omega
     refine al.2 ⟨_,rfl,s,dE (i:=3) hb,⟨by simp only;omega,hlt1⟩,a,ha,some ⟨kb,0,none⟩,hvv,?_⟩;have hkbd:∀j v,pv Fk j v→j.length≤1000000:=fun j v f=>by
      have:=hbd _ v (N (lab++j) v ⟨j,rfl,.inr f⟩);rw[ad]at this;omega
     have tU:∀{M:Nat→Prop} {h':ae},Upd M h h'→(∀y,M y→Ui y)→By h' w' o:=fun ku hM=>t.upd ku fun b e d=>absurd (q _ (hM _ d)) (hwS _ e)
     refine ih (W:=W) (S:=Ui) rest (by omega) P t hW (fun y d=>C y (q y d)) hWo (fun a e d=>hwS a e (q _ d)) hcm.2.2 hkbd fun h2 b2 w2 F2 SV Z ku rn2 Y hc2 hd2 hg0 hg1=>?_
     have z02:=ku.size;cases Z with
     |false=>
      obtain⟨_,_,_,hu20,hnin⟩:=hg0 rfl;refine ax.2 (Q hu20 fun v f=>?_)
      rcases f with⟨h,_⟩|f
      ·exact J h
      ·obtain⟨r',e,hr'⟩:=hin_m v f
       simp only at e;rw[x]at e;exact hnin v (by rw[List.append_cancel_left e];exact hr')
     |true=>
      obtain⟨v0,hv0⟩:=hg1 rfl;have hthere:∃v,qy w F k.data.toList v:=⟨v0,.inr (N _ _ ⟨_,x,hv0⟩)⟩;have hdn:tJ (sy (lab,wk,Fk)) (sy (lab,w2,F2)) k.data.toList:=by
       rw[x];exact MN hd2
      have hmem2:∀{V:Nat→Prop},∀U∈Us.set i V,U∈Us∨U=V:=fun U B=>List.mem_or_eq_of_mem_set B
      have hsetm:∀V:Nat→Prop,V∈Us.set i V:=fun V=>bK (i:=i) (by rw[fe,if_pos rfl,if_pos hUi0])
      refine al.2 (ll (W:=W) (S:=S) (Us:=Us.set i SV) (tU ku fun _ h=>h) hWo (ku.get hb nUb) (by rw[hL.1];exact hn) (own2 ku (fun y d=>⟨q y d,_,H,d⟩) _ fun U B y d=>?_) fun h3 G s3 A3 b3 ho3 g T hU3 hu3=>?_)
      ·rcases hmem2 U B with h|rfl
       ·exact⟨.inl ⟨U,h,d⟩,by have:=L U h y d;omega⟩
       ·exact⟨(Y y d).1.imp (fun h=>⟨_,H,h⟩) id,(Y y d).2⟩
      have hUj:∀{j U},j≠i→Us[j]? =some U→U∈Us.set i SV:=fun{j U} p I=>bK (i:=j) (by rw[fe,if_neg (Ne.symm p)];exact I)
      have z23:=hu3.size;obtain⟨rr,vv,f⟩:=mc hc _ hmem;have hlb:lab.length≤1000000:=by
       have:=hbd _ v0 (N _ _ ⟨_,x,hv0⟩);rw[x,ad]at this;omega
      have hb2:∀j v,pv F2 j v→j.length≤1000000:=fun j v f=>by
       rcases((hd2 j v).1 (.inr f)).2 with⟨e,_⟩|h
       ·rw[e];simp
       ·exact hkbd j v h
      refine LO (W:=fun y=>(W y∨SV y)∨(h2.size≤y∧y<h3.size)) (S:=SV) ((rn2.less (W':=fun y=>(W y∨SV y)∨(h2.size≤y∧y<h3.size)) fun y d=>d.imp id fun h=>h.1).upd0 hu3) ((tU ku fun _ h=>h).upd0 hu3) (fun y d=>?_) (fun y d=>.inl (.inr d)) (fun a e=>.inl (.inl (hWo a e))) hc2 (by rw[hkl];exact hcm.1) (by rw[←mC ksl,hkl];exact hlb) hb2 fun h4 r4 o4 S4 hu4 hm4 hr4 hS4=>?_
      ·rcases d with(h|h)|h
       ·have:=hW y h;omega
       ·have:=(Y y h).2;omega
       ·exact h.2
      rw[hkl]at hm4;have z34:=hu4.size;have b4:=hu4.get b3 fun h=>(hU3 SV (hsetm SV) _ h).2 rfl
      have ho4:=ho3.upd hu4 fun y d h=>(hU3 SV (hsetm SV) y h).1 d
      have hlen4:=ho4.len;have u04:Upd Ui h h4:=(ku.tr hu3.wide).trans hu4 fun y d=>(Y y d).1
      have z:∀y,A3 y→(S y∨h.size≤y)∧y≠G∧y<h4.size:=fun y d=>⟨(g y d).1.imp id fun h=>by omega,(g y d).2.1,by have:=(g y d).2.2;omega⟩
      have O:S G∨h.size≤G:=T.imp id fun h=>by omega
      have hS4':∀y,S4 y→(Ui y∨h.size≤y)∧y<h4.size:=fun y d=>⟨(hS4 y d).1.elim (fun h=>(Y y h).1) fun h=>.inr (by omega),(hS4 y d).2⟩
      have hS4A:∀y,S4 y→¬A3 y∧y≠G:=fun y d=>by
       rcases(hS4 y d).1 with h|h
       ·exact hU3 SV (hsetm SV) y h
       ·exact⟨fun ha=>by have:=(g y ha).2.2;omega,by have:=aN b3;omega⟩
      have oth:∀{h5:ae} {W':Nat→Prop} {j:Nat} {k':Option Addr} {n':Bn} {U:Nat→Prop},j≠i→ks[j]? =some k'→F.toL[j]? =some n'→Us[j]? =some U→Upd (fun y=>Ui y∨A3 y∨y=G) h h5→(∀y,W' y→W y∨h.size≤y)→KidO o W' h5 k' n' U:=fun{h5 W' j k' n' U} p ek en I ku5 hW'=>
       KidO.move ku5 (hL.2.2 j k' n' U ek en I) (L U (bK I)) (fun y d=>by
        rcases d with h|h|rfl
        ·exact .inl ⟨C y (q y h),hUid j U p I y h⟩
        ·exact(z y h).1.imp (fun hs=>⟨C y hs,fun hu=>(hU3 U (hUj p I) y hu).1 h⟩) id
        ·exact O.imp (fun hs=>⟨C _ hs,fun hu=>(hU3 U (hUj p I) _ hu).2 rfl⟩) id) hW'
      rcases hr4 with⟨rfl,rfl⟩|⟨m4,rfl,kid4⟩
      ·rcases hm4 with⟨_,hnone⟩|⟨_,e,_⟩
       ·have ew:IntKind.wrap .i64 ((i:Int)+1)=((i+1:Nat):Int):=by rw[ji (by omega)];omega
        refine ax.2 ⟨_,rfl,s3,dE (i:=3) b4,?_⟩;simp only;rw[ew];refine MP ho4 X (by rw[hL.1];omega) fun s5 h5 ho5 R=>?_
        have b5:=R.get b4 fun hx=>(g _ hx).2.1 rfl
        refine⟨_,rfl,QI (i:=3) b5 (show 3<5 by decide),D3 (i:=3) (c':=xf sl w.isSome val s5 o) b5 rfl fun h6 b6 hu6=>?_⟩
        have z45:=R.size;have z56:=hu6.size;have u06:Upd (fun y=>Ui y∨A3 y∨y=G) h h6:=((u04.mono fun y d=>.inl (.inl d)).trans R fun y d=>.inl (.inr (.inl d))).trans hu6 fun y d=>.inl (.inr (.inr d))
        have hmd:∀U∈Us.take i++Us.drop (i+1),∃j,j≠i∧Us[j]? =some U:=fun U B=>by
         obtain⟨j,p⟩:=List.getElem?_of_mem B;rw[←gI,po]at p;split at p
         ·exact⟨j,by omega,p⟩
         ·exact⟨j+1,by omega,p⟩
        obtain⟨rx,E⟩:=LN (W:=W) (S:=S) (Us':=Us.take i++Us.drop (i+1)) (L':=F.toL.take i++F.toL.drop (i+1)) hW hno b6 hv (ho5.upd hu6 fun y d=>(g y d).2.1) (fun y d=>⟨(z y d).1,(z y d).2.1,by have:=(z y d).2.2;omega⟩) O (fun U B y d=>by
         obtain⟨j,p,e⟩:=hmd U B
         exact hU3 U (hUj p e) y d) (fun U B y d=>by
         obtain⟨j,p,e⟩:=hmd U B
         have hm:=bK e
         exact⟨.inl (hUS U hm y d),by have:=L U hm y d;omega⟩) (UY hPD i) fun E=>by
          refine⟨by simp[hL.1],by simp[hL.2.1],fun j k' n' U ek en I=>?_⟩
          simp only[←gI,po]at ek en I;have hw:∀y,(W y∨SR o G A3 (Us.take i++Us.drop (i+1)) y)→W y∨h.size≤y:=fun y d=>d.elim .inl fun h=>(E y h).1.imp (C y) id
          split at ek
          ·rename_i p
           rw[if_pos p]at en I;exact oth (by omega) ek en I u06 hw
          ·rename_i p
           rw[if_neg p]at en I;exact oth (by omega) ek en I u06 hw
        refine hk h6 G w _ _ true (u06.mono fun y d=>?_) rx E (TY hc) (EE J (hddel fun k' v' hN=>Classical.byContradiction fun hne=>hnone k' v' ((hdn k' v').2 ⟨hne,hN⟩))) (fun h=>by cases h) fun _=>hthere
        rcases d with h|h|rfl
        ·exact .inl (q y h)
        ·exact(z y h).1
        ·exact O
       ·cases e
      ·rcases hm4 with⟨e,_⟩|⟨m',e,hcn,hhd,hiff⟩
       ·cases e
       ·cases e
        obtain⟨kb4,ksl4,rfl,hkl4,rn4⟩:=id kid4;obtain⟨a3,ha3,hab,hw3,ho5,R⟩:=OwnS.setAt ho4 X (some ⟨kb4,0,none⟩);refine al.2 ⟨_,rfl,s3,dE (i:=3) b4,⟨by simp only;omega,by simp only;omega⟩,a3,ha3,?_⟩
        have hw1:Wr h4 (adr a3 (i*1)):=by
         rcases hw3 with hw|⟨G,T,hw⟩
         ·cases hw
         ·cases T;exact hw 0 (by simp)
        refine⟨hw1,bU ?_⟩;change K (some ⟨G,0,none⟩,true) (iC h4 (adr a3 (i*1)) 0 (lY (some ⟨kb4,0,none⟩)));have b5:=R.get b4 fun e=>by have e:G=a3.block:=e;exact(g _ hab).2.1 e.symm
        have z45:=R.size;have eset:ks.set i (some ⟨kb4,0,none⟩)=ks.take i++some ⟨kb4,0,none⟩::ks.drop (i+1):=by rw[List.set_eq_take_append_cons_drop,if_pos X]
        rw[←eset]at ho5;generalize iC h4 (adr a3 (i*1)) 0 (lY (some ⟨kb4,0,none⟩))=h5 at*;have u05:Upd (fun y=>Ui y∨A3 y∨y=G) h h5:=(u04.mono fun y d=>.inl (.inl d)).trans R fun y d=>.inl (.inr (.inl (by have d:y=a3.block:=d;rw[d];exact hab)))
        have kid5:KidO o (fun y=>W y∨SR o G A3 (Us.set i S4) y) h5 (some ⟨kb4,0,none⟩) m4 S4:=by
         refine KidO.move R kid4 (fun y d=>(hS4 y d).2) (fun y d=>?_) fun y d=>?_
         ·have d:y=a3.block:=d
          rw[←d]at hab;refine .inl ⟨?_,fun h=>(hS4A y h).1 hab⟩
          rcases(g y hab).1 with h|h
          ·exact .inl (.inl (.inl (C y h)))
          ·exact .inl (.inr ⟨h,(g y hab).2.2⟩)
         ·have f:∀y,(S y∨h2.size≤y)→y<h3.size→(((W y∨SV y)∨(h2.size≤y∧y<h3.size))∨S4 y)∨h4.size≤y:=fun y d hl=>by
           rcases d with h|h
           ·exact .inl (.inl (.inl (.inl (C y h))))
           ·exact .inl (.inl (.inr ⟨h,hl⟩))
          rcases d with h|⟨_,rfl|h|⟨U,B,h⟩⟩
          ·exact .inl (.inl (.inl (.inl h)))
          ·exact f _ T (aN b3)
          ·exact f _ (g y h).1 (g y h).2.2
          ·rcases hmem2 U B with h2'|rfl
           ·exact .inl (.inl (.inl (.inl (C _ (hUS U h2' y h)))))
           ·exact .inl (.inr h)
        obtain⟨rx,E⟩:=LN (W:=W) (S:=S) (Us':=Us.set i S4) (L':=F.toL.set i m4) hW hno b5 hv ho5 (fun y d=>⟨(z y d).1,(z y d).2.1,by have:=(z y d).2.2;omega⟩) O (fun U B y d=>by
         obtain⟨j,p⟩:=List.getElem?_of_mem B
         rw[fe]at p
         split at p
         ·rename_i e
          cases p;exact hS4A y d
         ·rename_i e
          exact hU3 U (hUj (Ne.symm e) p) y d) (fun U B y d=>by
         rcases hmem2 U B with h|rfl
         ·exact⟨.inl (hUS U h y d),by have:=L U h y d;omega⟩
         ·exact⟨(hS4' y d).1.imp (q y) id,by have:=(hS4' y d).2;omega⟩) (QZ hPD fun j U p I y d hu=>by
          rcases(hS4' y d).1 with h|h
          ·exact hUid j U p I y h hu
          ·have:=L U (bK I) y hu;omega) fun E=>LsO.set hL.1 hL.2.1 (fun j k' n' U p ek en I=>oth p ek en I u05 fun y d=>d.elim .inl fun h=>(E y h).1.imp (C y) id) kid5
        refine hk h5 G w _ _ true (u05.mono fun y d=>?_) rx E (D hcn hhd) (EE J (hdset fun k' v'=>by rw[hiff k' v'];exact hdn k' v')) (fun h=>by cases h) fun _=>hthere
        rcases d with h|h|rfl
        ·exact .inl (q y h)
        ·exact(z y h).1
        ·exact O
    ·rw[hkl]at hnr
     refine ax.2 (Q (Upd.refl _ _) fun v f=>?_)
     rcases f with⟨h,_⟩|f
     ·exact J h
     ·obtain⟨r',e,_⟩:=hin_m v f
      exact hnr r' e
end Go.Proofs
namespace Go.Proofs
open Go.Lift
theorem NodeO.upd0{o:Option Addr}{W S:Nat→Prop}{h a:ae}{b:Nat}{s:Slots}(c:NodeO o W h b s S)(k:Upd No h a):NodeO o W a b s S:=
 c.imp (fun n=>⟨n.1.upd k fun _ h=>h.elim,n.2⟩) fun⟨e,d,n,sp,sk,f⟩=>⟨e,d,n,sp,sk,f.upd k fun _ h=>h.elim⟩
theorem NodeO.read{o w:Option Addr}{W S:Nat→Prop}{h:ae}{b:Nat}{s:Slots}(c:NodeO o W h b s S)(t:By h w o):NodeAt No h b s:=by
 rcases c with⟨n,_⟩|⟨e,d,n,sp,sk,f⟩
 ·exact n.less fun _ h=>h.elim
 ·exact f.node (fun _ _ h=>h) fun a e=>⟨id,t.plain a (t.tok e)⟩
set_option maxHeartbeats 1000000 in
theorem qi{W S:Nat→Prop}{h:ae}{w o:Option Addr}{b:Nat}{s:Slots}(nd:NodeO o W h b s S)(t:By h w o)(hW:∀a,o=some a→W a.block)(hS:∀y,S y→y<h.size){i:Nat}(hi:i<32)(hx:∀y,s.p i=some y→s.k i=none)(p:Pr){K:Option Addr→ae→Prop}
  (hk:∀h' b' d n sp sk,OwnN (fun y=>S y∨h.size≤y) h' b' d n sp sk ⟨upd s.p i (some p),upd s.k i none⟩ o→Upd S h h'→K (some ⟨b',0,none⟩) h'):
  HC PG fI [.pointer (some ⟨b,0,none⟩),.pointer w,.int .i64 i,.agg #[.string p.1,.string p.2]] [.c .ptr] K h:=by
 refine xL _ w i p ?_;unfold q9 cQ qg im vJ cY ay tV lq bD ig nI;have k1:=Upd.hnew No h [.string p.1,.string p.2] ar;have b1:=cO h [.string p.1,.string p.2] ar;refine bU ?_;simp only[fE h];generalize hnew h [.string p.1,.string p.2] ar=h1 at k1 b1;have z1:=aN b1;have nd1:=nd.upd0 k1;have t1:=t.upd0 k1
 refine Et (nd1.read t1) hi (al.2 ?_);refine HT nd1 t1 hW fun h2 C d n sp sk v L=>?_
 have bits:=v.bits;have Q:∀{x},(S x∨h1.size≤x)→(S x∨h.size≤x):=fun h=>h.imp id fun h=>by omega
 have z2:=L.size;have zb:=aN v.blk;obtain⟨A,B,hA,hB,q,N⟩:=v.ex;have I:=k1.tr L;have z:=L.get0 b1;refine⟨_,rfl,_,eC (i:=0) v.blk,BC bits.d32 hi ?_⟩;rw[bits.dp i hi];cases hp:s.p i with
 |some y=>
  refine ax.2 ⟨_,rfl,sp,eC (i:=2) v.blk,_,rfl,_,eC (i:=0) v.blk,p.1,by rw[bV,bl z];rfl,p.2,by rw[bV,bl z];rfl,?_⟩
  refine pZ bits.d32 hi ⟨⟨by rw[bV,bl z];rfl,by rw[bV,bl z];rfl⟩,eC (i:=2) v.blk,?_⟩
  have hlt:=GX hi bits.dp hp;obtain⟨a,ha,O,hw,V,m⟩:=OwnS.setAt hA hlt p;have hlen:=hA.len;refine⟨by omega,a,ha,?_⟩;rw[aM];refine⟨hw,bU ?_⟩;rw[←Ru hi bits.dp hp]at V;have ob:=m.get v.blk fun e=>(q _ O).2.2.1 e.symm
  have z3:=m.size;have F:OwnN (fun x=>S x∨h1.size≤x) _ C d n sp sk ⟨upd s.p i (some p),upd s.k i none⟩ o:=⟨ob,⟨bits.d32,bits.n32,fun c hc=>by
    rw[bits.dp c hc];simp only[upd];split
    ·rename_i e;rw[e,hp];rfl
    ·rfl,fun c hc=>by rw[bits.nk c hc,ur (hx y hp)]⟩,
   ⟨A,B,V,by rw[ur (hx y hp)];exact hB.upd m fun x hx e=>(q _ O).2.1 (e▸hx),fun x hx=>⟨(q x hx).1,(q x hx).2.1,(q x hx).2.2.1,by have:=(q x hx).2.2.2;omega⟩,fun x hx=>⟨(N x hx).1,(N x hx).2.1,by have:=(N x hx).2.2;omega⟩⟩,v.mb⟩
  refine hk _ _ _ _ _ _ (F.mono fun _=>Q) (I.wide.trans m fun x hx=>?_)
  have hx:x=a.block:=hx;rw[hx];exact Q (q _ O).1
 |none=>
  refine al.2 ⟨_,rfl,Ih v hi fun H d3 n3 E J F m=>?_⟩
  have f:=F.bits;obtain⟨A3,B3,hA3,hB3,j,k⟩:=F.ex;have z3:=m.size;have G:=m.get z fun e=>e.elim (fun e=>by have:=hS _ e;omega) fun e=>by omega
  have T:Upd S h H:=I.wide.trans m fun x hx=>Q hx
  refine⟨_,rfl,E,eC (i:=2) F.blk,_,rfl,_,eC (i:=0) F.blk,p.1,by rw[bV,bl G];rfl,p.2,by rw[bV,bl G];rfl,?_⟩
  have Y:=Upd.hnew No H [.string p.1,.string p.2] ar;have b4:=cO H [.string p.1,.string p.2] ar;have z4:=jm H [.string p.1,.string p.2] ar;have P:=F.upd Y fun _ h=>h.elim
  have Z:HC PG cU [.slice E.a E.len E.cap,.int .i64 (uV i d3),.slice (some (aC H)) 1 1] [.c .slice] (fun(M:SliceV) U=>
       ∃a34:Addr,some (⟨C,0,none⟩:Addr)=some a34∧
       (Wr U (adr (adr a34 0) 2)∧
        At (hset U (adr (adr a34 0) 2) (.slice M.a M.len M.cap)) (fun R=>
         ∃a36:Addr,some (⟨C,0,none⟩:Addr)=some a36∧
         ∃v37:Int,aJ R (adr (adr a36 0) 0)=some (.int .u32 v37)∧
         HC PG fL [.int .u32 v37,.int .i64 i] [.c (.int .u32)] (fun(e38:Int) h39=>
          ∃a40:Addr,some (⟨C,0,none⟩:Addr)=some a40∧
          (Wr h39 (adr (adr a40 0) 0)∧
           At (hset h39 (adr (adr a40 0) 0) (.int .u32 e38)) (fun h41=>
            K (some ⟨C,0,none⟩) h41))) R))) (hnew H [.string p.1,.string p.2] ar):=by
   generalize hnew H [.string p.1,.string p.2] ar=h4 at Y b4 z4 P;rw[fE H];have hA4:=(hA3.upd Y fun _ _ h=>h).more (M':=fun x=>A3 x∨h4.size≤x) fun x hx=>.inl hx
   have hpn:(⟨upd s.p i none,upd s.k i none⟩:Slots).p i=none:=gK;refine Mz hA4 (Ur hi f.dp) (by have:=vO (g:=(⟨upd s.p i none,upd s.k i none⟩:Slots).p);omega) (x:=p) b4 (fun e=>e.elim (fun e=>by have:=(j _ e).2.2.2;omega) fun e=>by omega) (fun x hx=>.inr hx) fun s5 h5 ho5 D=>?_
   rw[←Rv hi f.dp hpn p]at ho5;have hbl:C<H.size:=aN F.blk;have b5:=D.get P.blk fun e=>e.elim (fun e=>(j _ e).2.2.1 rfl) fun e=>by omega
   refine⟨_,rfl,SM (i:=2) b5 (show 2<6 by decide),FK (i:=2) (c':=fR d3 n3 s5 J false o) b5 rfl fun h6 b6 hu6=>?_⟩
   refine⟨_,rfl,_,eC (i:=0) b6,NM f.d32 hi fun w1 hw hwt=>?_⟩
   refine⟨_,rfl,SM (i:=0) b6 (show 0<6 by decide),FK (i:=0) (c':=fR w1 n3 s5 J false o) b6 rfl fun h7 b7 hu7=>?_⟩
   have u:=hu6.tr hu7;have z5:=D.size;have z7:=u.size;have X:=ho5.within;have e1:(⟨upd (⟨upd s.p i none,upd s.k i none⟩:Slots).p i (some p),upd s.k i none⟩:Slots)=⟨upd s.p i (some p),upd s.k i none⟩:=by rw[NN]
   have o7:OwnN (fun x=>S x∨h1.size≤x) h7 C w1 n3 s5 J ⟨upd s.p i (some p),upd s.k i none⟩ o:=by
    rw[←e1];refine⟨b7,⟨hw,f.n32,fun c hc=>?_,f.nk⟩,⟨fun x=>(A3 x∨h4.size≤x)∧x<h5.size,B3,X.upd u fun x hx e=>?_,((hB3.upd Y fun _ _ h=>h).upd D fun x hx e=>?_).upd u fun x hx e=>(k x hx).2.1 e,fun x hx=>⟨?_,?_,?_,by omega⟩,fun x hx=>⟨(k x hx).1,(k x hx).2.1,by have:=(k x hx).2.2;omega⟩⟩,v.mb⟩
    ·rw[hwt,f.dp c hc];simp only[upd];split<;>simp[*]
    ·have e:x=C:=e
     rcases hx.1 with h|h
     ·exact(j x h).2.2.1 e
     ·omega
    ·rcases e with e|e
     ·exact(j x e).2.1 hx
     ·have:=(k x hx).2.2;omega
    ·rcases hx.1 with h|h
     ·exact(j x h).1
     ·exact .inr (by omega)
    ·rcases hx.1 with h|h
     ·exact(j x h).2.1
     ·exact fun hb=>by have:=(k x hb).2.2;omega
    ·rcases hx.1 with h|h
     ·exact(j x h).2.2.1
     ·omega
   refine hk _ _ _ _ _ _ (o7.mono fun _=>Q) (((T.tr Y.wide).trans D fun x hx=>?_).trans u fun x hx=>?_)
   ·rcases hx with h|h
    ·exact Q (j x h).1
    ·exact .inr (by omega)
   ·have hx:x=C:=hx
    rw[hx];exact Q v.mb
  refine⟨pZ f.d32 hi ⟨⟨by rw[bV,bl G];rfl,by rw[bV,bl G];rfl⟩,eC (i:=2) F.blk,bU ⟨eC (i:=2) P.blk,Z⟩⟩,bU ⟨eC (i:=0) P.blk,eC (i:=2) P.blk,pZ f.d32 hi ⟨eC (i:=2) P.blk,Z⟩⟩⟩
theorem PJ{W S:Nat→Prop}{h:ae}{w o:Option Addr}{b:Nat}{s:Slots}(f:NodeO o W h b s S)(t:By h w o)(p:∀a,o=some a→W a.block){i:Nat}(hi:i<32){K:Option Addr→ae→Prop}
  (q:∀h' b' d n sp sk,OwnN (fun y=>S y∨h.size≤y) h' b' d n sp sk ⟨upd s.p i none,upd s.k i none⟩ o→Upd S h h'→K (some ⟨b',0,none⟩) h'):
  HC PG lJ [.pointer (some ⟨b,0,none⟩),.pointer w,.int .i64 i] [.c .ptr] K h:=by
 refine AL _ w i ?_;unfold tF vJ lq;refine Et (f.read t) hi (al.2 ?_);refine HT f t p fun u z d n sp sk j c=>⟨_,rfl,Ih j hi fun A v B m k g e=>?_⟩
 exact q _ _ _ _ _ _ g (c.wide.trans e fun x hx=>hx)
set_option maxHeartbeats 1000000 in
theorem uZ{W S:Nat→Prop}{h:ae}{w o:Option Addr}{b:Nat}{s:Slots}(nd:NodeO o W h b s S)(t:By h w o)(hW:∀a,o=some a→W a.block){i:Nat}(hi:i<32)(hx:∀y,s.k i=some y→s.p i=none)(kid:Addr){K:Option Addr→ae→Prop}
  (hk:∀h' b' d n sp sk,OwnN (fun y=>S y∨h.size≤y) h' b' d n sp sk ⟨upd s.p i none,upd s.k i (some (some kid))⟩ o→Upd S h h'→K (some ⟨b',0,none⟩) h'):
  HC PG gT [.pointer (some ⟨b,0,none⟩),.pointer w,.int .i64 i,.pointer (some kid)] [.c .ptr] K h:=by
 refine zk _ w i (some kid) ?_;unfold r9 cQ vJ cY lq bD Hu ig nI;refine al.2 ?_;refine Et (nd.read t) hi (al.2 ?_);refine HT nd t hW fun h2 D d n sp sk q L=>?_
 have bits:=q.bits;have z2:=L.size;have zb:=aN q.blk;obtain⟨A,B,hA,hB,v,u⟩:=q.ex;refine⟨_,rfl,_,eC (i:=1) q.blk,BC bits.n32 hi ?_⟩;rw[bits.nk i hi];cases hp:s.k i with
 |some y=>
  refine ax.2 ⟨_,rfl,sk,eC (i:=3) q.blk,_,rfl,_,eC (i:=1) q.blk,?_⟩;refine pZ bits.n32 hi ⟨eC (i:=3) q.blk,?_⟩;have hlt:=GX hi bits.nk hp;obtain⟨a,ha,J,H,T,m⟩:=OwnS.setAt hB hlt (some kid);have hlen:=hB.len;refine⟨by omega,a,ha,?_⟩;rw[aM];have hw1:Wr h2 (adr a (uV i n*1)):=by
   rcases H with H|⟨b',Y,H⟩
   ·cases H
   ·cases Y;exact H 0 (by simp)
  refine⟨hw1,bU ?_⟩;rw[←Ru hi bits.nk hp]at T;have ob:=m.get q.blk fun e=>(u _ J).2.1 e.symm
  have z3:=m.size;have C:OwnN (fun x=>S x∨h.size≤x) _ D d n sp sk ⟨upd s.p i none,upd s.k i (some (some kid))⟩ o:=⟨ob,⟨bits.d32,bits.n32,fun c hc=>by rw[bits.dp c hc,ur (hx y hp)],fun c hc=>by
    rw[bits.nk c hc];simp only[upd];split
    ·rename_i e;rw[e,hp];rfl
    ·rfl⟩,
   ⟨A,B,by rw[ur (hx y hp)];exact hA.upd m fun x hx e=>(v _ hx).2.1 (e▸J),T,fun x hx=>⟨(v x hx).1,(v x hx).2.1,(v x hx).2.2.1,by have:=(v x hx).2.2.2;omega⟩,fun x hx=>⟨(u x hx).1,(u x hx).2.1,by have:=(u x hx).2.2;omega⟩⟩,q.mb⟩
  refine hk _ _ _ _ _ _ C (L.wide.trans m fun x hx=>?_)
  have hx:x=a.block:=hx;rw[hx];exact(u _ J).1
 |none=>
  refine al.2 ⟨_,rfl,Ih q hi fun z d3 n3 I E C m=>?_⟩
  have f:=C.bits;obtain⟨A3,B3,hA3,hB3,j,k⟩:=C.ex;have z3:=m.size;have V:Upd S h z:=L.wide.trans m fun x hx=>hx
  refine⟨_,rfl,E,eC (i:=3) C.blk,_,rfl,_,eC (i:=1) C.blk,?_⟩;have P:=Upd.hnew No z [.pointer (some kid)] bO;have b4:=cO z [.pointer (some kid)] bO;have z4:=jm z [.pointer (some kid)] bO;have M:=C.upd P fun _ h=>h.elim
  have R:HC PG cJ [.slice E.a E.len E.cap,.int .i64 (uV i n3),.slice (some (aC z)) 1 1] [.c .slice] (fun(G:SliceV) Q=>
       ∃a34:Addr,some (⟨D,0,none⟩:Addr)=some a34∧
       (Wr Q (adr (adr a34 0) 3)∧
        At (hset Q (adr (adr a34 0) 3) (.slice G.a G.len G.cap)) (fun U=>
         ∃a36:Addr,some (⟨D,0,none⟩:Addr)=some a36∧
         ∃v37:Int,aJ U (adr (adr a36 0) 1)=some (.int .u32 v37)∧
         HC PG fL [.int .u32 v37,.int .i64 i] [.c (.int .u32)] (fun(e38:Int) N=>
          ∃a40:Addr,some (⟨D,0,none⟩:Addr)=some a40∧
          (Wr N (adr (adr a40 0) 1)∧
           At (hset N (adr (adr a40 0) 1) (.int .u32 e38)) (fun h41=>
            K (some ⟨D,0,none⟩) h41))) U))) (hnew z [.pointer (some kid)] bO):=by
   generalize hnew z [.pointer (some kid)] bO=h4 at P b4 z4 M;rw[fE z];have hB4:=(hB3.upd P fun _ _ h=>h).more (M':=fun x=>B3 x∨h4.size≤x) fun x hx=>.inl hx
   have hpn:(⟨upd s.p i none,upd s.k i none⟩:Slots).k i=none:=gK;refine MA hB4 (Ur hi f.nk) (by have:=vO (g:=(⟨upd s.p i none,upd s.k i none⟩:Slots).k);omega) (x:=some kid) b4 (fun e=>e.elim (fun e=>by have:=(k _ e).2.2;omega) fun e=>by omega) (fun x hx=>.inr hx) fun s5 h5 O F=>?_
   rw[←Rv hi f.nk hpn (some kid)]at O;have hbl:D<z.size:=aN C.blk;have b5:=F.get M.blk fun e=>e.elim (fun e=>(k _ e).2.1 rfl) fun e=>by omega
   refine⟨_,rfl,SM (i:=3) b5 (show 3<6 by decide),FK (i:=3) (c':=fR d3 n3 I s5 false o) b5 rfl fun h6 Z hu6=>?_⟩
   refine⟨_,rfl,_,eC (i:=1) Z,NM f.n32 hi fun w1 H hwt=>?_⟩
   refine⟨_,rfl,SM (i:=1) Z (show 1<6 by decide),FK (i:=1) (c':=fR d3 w1 I s5 false o) Z rfl fun h7 b7 hu7=>?_⟩
   have p:=hu6.tr hu7;have z5:=F.size;have z7:=p.size;have X:=O.within;have e1:(⟨upd s.p i none,upd (⟨upd s.p i none,upd s.k i none⟩:Slots).k i (some (some kid))⟩:Slots)=⟨upd s.p i none,upd s.k i (some (some kid))⟩:=by rw[NN]
   have o7:OwnN (fun x=>S x∨h.size≤x) h7 D d3 w1 I s5 ⟨upd s.p i none,upd s.k i (some (some kid))⟩ o:=by
    rw[←e1];refine⟨b7,⟨f.d32,H,f.dp,fun c hc=>?_⟩,⟨A3,fun x=>(B3 x∨h4.size≤x)∧x<h5.size,((hA3.upd P fun _ _ h=>h).upd F fun x hx e=>?_).upd p fun x hx e=>(j x hx).2.2.1 e,X.upd p fun x hx e=>?_,fun x hx=>⟨(j x hx).1,?_,(j x hx).2.2.1,by have:=(j x hx).2.2.2;omega⟩,fun x hx=>⟨?_,?_,by omega⟩⟩,q.mb⟩
    ·rw[hwt,f.nk c hc];simp only[upd];split<;>simp[*]
    ·rcases e with e|e
     ·exact(j x hx).2.1 e
     ·have:=(j x hx).2.2.2;omega
    ·have e:x=D:=e
     rcases hx.1 with h|h
     ·exact(k x h).2.1 e
     ·omega
    ·rintro⟨h|h,_⟩
     ·exact(j x hx).2.1 h
     ·have:=(j x hx).2.2.2;omega
    ·rcases hx.1 with h|h
     ·exact(k x h).1
     ·exact .inr (by omega)
    ·rcases hx.1 with h|h
     ·exact(k x h).2.1
     ·omega
   refine hk _ _ _ _ _ _ o7 (((V.tr P.wide).trans F fun x hx=>?_).trans p fun x hx=>?_)
   ·rcases hx with h|h
    ·exact(k x h).1
    ·exact .inr (by omega)
   ·have hx:x=D:=hx
    rw[hx];exact q.mb
  refine⟨pZ f.n32 hi ⟨eC (i:=3) C.blk,bU ⟨eC (i:=3) M.blk,R⟩⟩,bU ⟨eC (i:=1) M.blk,eC (i:=3) M.blk,pZ f.n32 hi ⟨eC (i:=3) M.blk,R⟩⟩⟩
end Go.Proofs
namespace Go.Proofs
open Go.Lift
def OwnB(M:Nat→Prop)(h:ae)(b:Nat)(sp sk:SliceV)(l:List Pr)(o:Option Addr):Prop:=
 h[b]? =some (.cells (fR 0 0 sp sk true o) bT (0,0))∧M b∧∃A B:Nat→Prop,OwnS eg 2 ar A h sp l∧OwnS p6 1 bO B h sk []∧(∀x,A x→M x∧x≠b∧x<h.size)∧(∀x,B x→M x∧x≠b∧x<h.size)
theorem OwnB.upd{M M':Nat→Prop}{h f:ae}{b:Nat}{sp sk:SliceV}{l:List Pr}{o:Option Addr}(n:OwnB M h b sp sk l o)(k:Upd M' h f)(hm:∀x,M' x→¬M x):OwnB M f b sp sk l o:=by
 obtain⟨g,e,A,B,j,i,a,c⟩:=n;have z:=k.size;exact⟨k.get g fun hx=>hm _ hx e,e,A,B,j.upd k fun x hx d=>hm _ d (a x hx).1,i.upd k fun x hx d=>hm _ d (c x hx).1,fun x hx=>⟨(a x hx).1,(a x hx).2.1,by have:=(a x hx).2.2;omega⟩,fun x hx=>⟨(c x hx).1,(c x hx).2.1,by have:=(c x hx).2.2;omega⟩⟩
theorem OwnB.mono{M M':Nat→Prop}{h:ae}{b:Nat}{sp sk:SliceV}{l:List Pr}{o:Option Addr}(n:OwnB M h b sp sk l o)(hm:∀x,M x→M' x):OwnB M' h b sp sk l o:=by
 obtain⟨e,d,A,B,g,f,a,c⟩:=n;exact⟨e,hm _ d,A,B,g,f,fun x hx=>⟨hm _ (a x hx).1,(a x hx).2⟩,fun x hx=>⟨hm _ (c x hx).1,(c x hx).2⟩⟩
theorem OwnB.within{M:Nat→Prop}{h:ae}{b:Nat}{sp sk:SliceV}{l:List Pr}{o:Option Addr}(n:OwnB M h b sp sk l o):OwnB (fun x=>M x∧x<h.size) h b sp sk l o:=by
 obtain⟨d,e,A,B,g,f,a,c⟩:=n;exact⟨d,⟨e,aN d⟩,A,B,g,f,fun x hx=>⟨⟨(a x hx).1,(a x hx).2.2⟩,(a x hx).2⟩,fun x hx=>⟨⟨(c x hx).1,(c x hx).2.2⟩,(c x hx).2⟩⟩
theorem OwnB.buck{M W:Nat→Prop}{h:ae}{b:Nat}{sp sk:SliceV}{l:List Pr}{o:Option Addr}(n:OwnB M h b sp sk l o)(a:∀x,M x→¬W x)(j:OwOk W h o):BuckAt W h b l:=by
 obtain⟨f,e,A,B,d,c,g,i⟩:=n;exact⟨⟨sp,sk,o,f,d.sl fun x hx _=>a _ (g x hx).1,c.sl fun x hx _=>a _ (i x hx).1,d.cap,c.cap,j⟩,a _ e⟩
def BuckO(o:Option Addr)(W:Nat→Prop)(h:ae)(b:Nat)(l:List Pr)(S:Nat→Prop):Prop:=
 (BuckAt W h b l∧∀y,¬S y)∨(o.isSome=true∧∃sp sk,OwnB S h b sp sk l o)
theorem BuckO.upd0{o:Option Addr}{W S:Nat→Prop}{h a:ae}{b:Nat}{l:List Pr}(n:BuckO o W h b l S)(k:Upd No h a):BuckO o W a b l S:=
 n.imp (fun n=>⟨n.1.upd k fun _ h=>h.elim,n.2⟩) fun⟨e,sp,sk,c⟩=>⟨e,sp,sk,c.upd k fun _ h=>h.elim⟩
theorem BuckO.read{o w:Option Addr}{W S:Nat→Prop}{h:ae}{b:Nat}{l:List Pr}(c:BuckO o W h b l S)(t:By h w o):BuckAt No h b l:=by
 rcases c with⟨n,_⟩|⟨e,sp,sk,d⟩
 ·exact n.less fun _ h=>h.elim
 ·exact d.buck (fun _ _ h=>h) fun a e=>⟨id,t.plain a (t.tok e)⟩
theorem J0{W S:Nat→Prop}{h:ae}{w o:Option Addr}{b:Nat}{l:List Pr}(g:BuckO o W h b l S)(t:By h w o)(H:∀a,o=some a→W a.block)(I:l.length≤1000000000){K:Option Addr→ae→Prop}
  (C:∀i m sp sk,OwnB (fun y=>S y∨h.size≤y) i m sp sk l o→Upd No h i→K (some ⟨m,0,none⟩) i):
  HC PG fA [.pointer (some ⟨b,0,none⟩),.pointer w] [.c .ptr] K h:=by
 rcases g with⟨g,_⟩|⟨z,sp,sk,g⟩
 ·obtain⟨sp,sk,ow,E,u,p,G,J,j⟩:=g.ex
  refine N2 (d:=0) (n:=0) t E (fun a e=>(j a e).2) ?_ u p I (by simp) fun i q s A B m F D c f k=>?_
  ·cases ho:o with
   |none=>rfl
   |some a=>
    have e:=t.tok ho;rw[Option.isSome_some,Bool.true_and,beq_eq_false_iff_ne];intro v;rw[e]at v;exact(j a v).1 (H a ho)
  ·exact C i h.size q s ⟨m,.inr (aj _),A,B,F,D,fun x hx=>⟨.inr (by have:=(c x hx).1;omega),by have:=(c x hx).1;omega,(c x hx).2.2⟩,fun x hx=>⟨.inr (by have:=(f x hx).1;omega),by have:=(f x hx).1;omega,(f x hx).2⟩⟩ k
 ·refine N1 (d:=0) (n:=0) t g.1 (fun a e=>t.plain a (t.tok e)) ?_ (C h b sp sk (g.mono fun _ h=>.inl h) (Upd.refl _ _))
  obtain⟨a,e⟩:=Option.isSome_iff_exists.1 z;rw[z,e,t.tok e];simp
theorem EP{W S:Nat→Prop}{h:ae}{w o:Option Addr}{b:Nat}{l:List Pr}(R:BuckO o W h b l S)(t:By h w o)(Q:∀a,o=some a→W a.block)(hS:∀y,S y→y<h.size)(z:cx l)(E:l.length≤1000000000)(p:Pr){K:Option Addr→ae→Prop}
  (Y:∀h' b' sp sk,OwnB (fun y=>S y∨h.size≤y) h' b' sp sk (gA p l) o→Upd S h h'→K (some ⟨b',0,none⟩) h'):
  HC PG kX [.pointer (some ⟨b,0,none⟩),.pointer w,.agg #[.string p.1,.string p.2]] [.c .ptr] K h:=by
 refine C4 _ w p ?_;unfold vZ pt vJ cY ay tV bD;have k1:=Upd.hnew No h [.string p.1,.string p.2] ar;have b1:=cO h [.string p.1,.string p.2] ar;refine bU ?_;simp only[fE h];generalize hnew h [.string p.1,.string p.2] ar=h1 at k1 b1;have z1:=aN b1;have q:=R.upd0 k1;have C:=t.upd0 k1;obtain⟨sp,sk,ow,H,M,I,N,V⟩:=(q.read C).ex
 refine iM (d:=0) (n:=0) H (al.2 ?_);refine J0 q C Q E fun U u X D P j=>?_
 obtain⟨b2,hM,A,B,v,G,ha,g⟩:=P;have k:=j.get0 b1;refine⟨_,rfl,X,eC (i:=2) b2,p.1,by rw[bV,bl k];rfl,p.2,by rw[bV,bl k];rfl,?_⟩
 refine Md (v.sl (W:=No) fun _ _ _ h=>h) v.cap z E p fun F J m f=>?_
 rw[Oe p z]at m;have b3:=f.get0 b2;refine⟨_,rfl,SM (i:=2) b3 (show 2<6 by decide),FK (i:=2) (c':=fR 0 0 F D true o) b3 rfl fun L T c=>?_⟩
 have z2:=aN b2;have O:=j.size;have z3:=f.size;have Z:=c.size;have s:∀{x},(S x∨h1.size≤x)→(S x∨h.size≤x):=fun h=>h.imp id fun h=>by omega
 refine Y L u F D ⟨T,s hM,fun x=>U.size≤x∧x<J.size,B,m.within.upd c fun x hx e=>?_,(G.upd f fun _ _ h=>h).upd c fun x hx e=>(g x hx).2.1 e,fun x hx=>⟨.inr (by omega),by omega,by omega⟩,fun x hx=>⟨s (g x hx).1,(g x hx).2.1,by have:=(g x hx).2.2;omega⟩⟩ ((((k1.tr j).tr f).wide).trans c fun x hx=>?_)
 ·have e:x=u:=e
  have:=hx.1;omega
 ·have hx:x=u:=hx
  rw[hx];exact s hM
def TrieO(o:Option Addr)(W:Nat→Prop)(x:Hs)(h:ae):Nat→Nat→List Pr→(Nat→Prop)→Prop
 |0,b,l,S=>BuckO o W h b l S
 |m+1,b,l,S=>(TrieAt W x h (m+1) b l∧∀y,¬S y)∨(o.isSome=true∧∃(s:Slots) (d n:Nat) (sp sk:SliceV) (S0:Nat→Prop) (T:Nat→Nat→Prop),OwnN S0 h b d n sp sk s o∧(∀y,S0 y→S y)∧(∀c y,T c y→S y∧¬S0 y)∧(∀c c' y,T c y→T c' y→c=c')∧∀c,c<32→
  ((part x (12-m) c l= []∧s.p c=none∧s.k c=none∧∀y,¬T c y)∨(∃p,part x (12-m) c l= [p]∧s.p c=some p∧s.k c=none∧∀y,¬T c y)∨
   (2≤(part x (12-m) c l).length∧s.p c=none∧∃kb,s.k c=some (some ⟨kb,0,none⟩)∧TrieO o W x h m kb (part x (12-m) c l) (T c))))
def SlotO(o:Option Addr)(W:Nat→Prop)(x:Hs)(h:ae)(m:Nat)(s:Slots)(c:Nat)(l:List Pr)(T:Nat→Prop):Prop:=
 (l= []∧s.p c=none∧s.k c=none∧∀y,¬T y)∨(∃p,l= [p]∧s.p c=some p∧s.k c=none∧∀y,¬T y)∨(2≤l.length∧s.p c=none∧∃kb,s.k c=some (some ⟨kb,0,none⟩)∧TrieO o W x h m kb l T)
theorem Jk{o:Option Addr}{W:Nat→Prop}{x:Hs}{h:ae}:∀{m b:Nat} {l:List Pr},TrieAt W x h m b l→TrieO o W x h m b l No
 |0,_,_,t=>.inl ⟨t,fun _ h=>h⟩
 |_+1,_,_,t=>.inl ⟨t,fun _ h=>h⟩
theorem TrieO.freeze{o:Option Addr}{W W':Nat→Prop}{x:Hs}{h:ae}(k:∀y,W' y→W y)(j:OwOk W' h o):∀{m b:Nat} {l:List Pr} {S:Nat→Prop},TrieO o W x h m b l S→(∀y,S y→¬W' y)→TrieAt W' x h m b l
 |0,_,_,_,t,hS=>t.elim (fun t=>t.1.less fun y a=>.inl (k y a)) fun⟨_,_,_,t⟩=>t.buck hS j
 |m+1,b,l,S,t,hS=>by
  rcases t with⟨t,_⟩|⟨_,s,d,n,sp,sk,A,T,z,v,q,_,hc⟩
  ·exact TrieAt.less (fun y a=>.inl (k y a)) t
  ·exact⟨s,z.node (fun y a=>hS y (v y a)) j,fun c g=>(hc c g).imp (fun h=>⟨h.1,h.2.1,h.2.2.1⟩) fun o=>o.imp (fun⟨p,f,e,i,_⟩=>⟨p,f,e,i⟩) fun⟨f,e,w,i,u⟩=>⟨f,e,w,i,TrieO.freeze k j u fun y a=>hS y (q c y a).1⟩⟩
theorem TrieO.read{o w:Option Addr}{W S:Nat→Prop}{x:Hs}{h:ae}{m b:Nat}{l:List Pr}(t:TrieO o W x h m b l S)(by_:By h w o):TrieAt No x h m b l:=
 TrieO.freeze (fun _ h=>h.elim) (fun a e=>⟨id,by_.plain a (by_.tok e)⟩) t fun _ _ h=>h
theorem TrieO.off{W S:Nat→Prop}{x:Hs}{h:ae}{m b:Nat}{l:List Pr}(t:TrieO none W x h m b l S):TrieAt W x h m b l∧∀y,¬S y:=by
 cases m with
 |zero=>exact t.elim id fun h=>absurd h.1 (by simp)
 |succ m=>exact t.elim id fun h=>absurd h.1 (by simp)
theorem TrieO.upd{o:Option Addr}{W M:Nat→Prop}{x:Hs}{h p:ae}(k:Upd M h p):∀{m b:Nat} {l:List Pr} {S:Nat→Prop},TrieO o W x h m b l S→(∀y,S y→y<h.size)→(∀y,M y→(W y∧¬S y)∨h.size≤y)→TrieO o W x p m b l S
 |0,_,_,S,t,hS,hm=>t.imp (fun t=>⟨t.1.upd k fun y a=>(hm y a).imp (fun h=>h.1) id,t.2⟩) fun⟨e,sp,sk,t⟩=>⟨e,sp,sk,t.upd k fun y a f=>by
   have:=hS y f
   rcases hm y a with h|h
   ·exact h.2 f
   ·omega⟩
 |m+1,b,l,S,t,hS,hm=>by
  rcases t with⟨t,e⟩|⟨e,s,d,n,sp,sk,w,T,A,j,g,hd,hc⟩
  ·exact .inl ⟨TrieAt.updM k (fun y a=>(hm y a).imp (fun h=>h.1) id) t,e⟩
  ·refine .inr ⟨e,s,d,n,sp,sk,w,T,A.upd k fun y a f=>?_,j,g,hd,fun c i=>(hc c i).imp id fun o=>o.imp id fun⟨u,q,B,z,v⟩=>⟨u,q,B,z,TrieO.upd k v (fun y a=>hS y (g c y a).1) fun y a=>(hm y a).imp (fun h=>⟨h.1,fun C=>h.2 (g c y C).1⟩) id⟩⟩
   have:=hS y (j y f);rcases hm y a with h|h
   ·exact h.2 (j y f)
   ·omega
theorem TrieO.upd0{o:Option Addr}{W:Nat→Prop}{x:Hs}{h f:ae}(k:Upd No h f):∀{m b:Nat} {l:List Pr} {S:Nat→Prop},TrieO o W x h m b l S→TrieO o W x f m b l S
 |0,_,_,_,t=>BuckO.upd0 t k
 |m+1,b,l,S,t=>by
  rcases t with⟨t,e⟩|⟨e,s,d,n,sp,sk,u,T,w,q,i,hd,hc⟩
  ·exact .inl ⟨TrieAt.upd0 k t,e⟩
  ·exact .inr ⟨e,s,d,n,sp,sk,u,T,w.upd k fun _ h=>h.elim,q,i,hd,fun c a=>(hc c a).imp id fun o=>o.imp id fun⟨j,g,y,v,p⟩=>⟨j,g,y,v,TrieO.upd0 k p⟩⟩
theorem TrieO.less{o:Option Addr}{W W':Nat→Prop}{x:Hs}{h:ae}(hm:∀y,W' y→W y∨h.size≤y):∀{m b:Nat} {l:List Pr} {S:Nat→Prop},TrieO o W x h m b l S→TrieO o W' x h m b l S
 |0,_,_,_,t=>t.imp (fun t=>⟨t.1.less hm,t.2⟩) id
 |m+1,b,l,S,t=>by
  rcases t with⟨t,e⟩|⟨e,s,d,n,sp,sk,p,T,u,k,g,hd,hc⟩
  ·exact .inl ⟨TrieAt.less hm t,e⟩
  ·exact .inr ⟨e,s,d,n,sp,sk,p,T,u,k,g,hd,fun c a=>(hc c a).imp id fun o=>o.imp id fun⟨i,f,v,q,j⟩=>⟨i,f,v,q,TrieO.less hm j⟩⟩
theorem SlotO.upd{o:Option Addr}{W M:Nat→Prop}{x:Hs}{h a:ae}(k:Upd M h a){m:Nat}{s:Slots}{c:Nat}{l:List Pr}{T:Nat→Prop}(t:SlotO o W x h m s c l T)(i:∀y,T y→y<h.size)(hm:∀y,M y→(W y∧¬T y)∨h.size≤y):SlotO o W x a m s c l T:=
 t.imp id fun o=>o.imp id fun⟨d,b,g,f,e⟩=>⟨d,b,g,f,TrieO.upd k e i hm⟩
theorem SlotO.less{o:Option Addr}{W W':Nat→Prop}{x:Hs}{h:ae}(hm:∀y,W' y→W y∨h.size≤y){m:Nat}{s:Slots}{c:Nat}{l:List Pr}{T:Nat→Prop}(t:SlotO o W x h m s c l T):SlotO o W' x h m s c l T:=
 t.imp id fun o=>o.imp id fun⟨b,a,f,e,d⟩=>⟨b,a,f,e,TrieO.less hm d⟩
theorem SlotO.turn{o:Option Addr}{W:Nat→Prop}{x:Hs}{h:ae}{m:Nat}{s s':Slots}{c:Nat}{l:List Pr}{T:Nat→Prop}(t:SlotO o W x h m s c l T)(b:s'.p c=s.p c)(a:s'.k c=s.k c):SlotO o W x h m s' c l T:=by
 unfold SlotO at t⊢;rw[b,a];exact t
theorem TrieO.view{o:Option Addr}{W S:Nat→Prop}{x:Hs}{h:ae}{m b:Nat}{l:List Pr}(t:TrieO o W x h (m+1) b l S):
  ∃(s:Slots) (a:Nat→Prop) (T:Nat→Nat→Prop),NodeO o W h b s a∧(∀y,a y→S y)∧(∀c y,T c y→S y∧¬a y)∧(∀c c' y,T c y→T c' y→c=c')∧∀c,c<32→SlotO o W x h m s c (part x (12-m) c l) (T c):=by
 rcases t with⟨⟨s,z,hc⟩,e⟩|⟨e,s,d,n,sp,sk,a,T,v,u,k,hd,hc⟩
 ·exact⟨s,No,fun _=>No,.inl ⟨z,fun _ h=>h⟩,fun _ h=>h.elim,fun _ _ h=>h.elim,fun _ _ _ h=>h.elim,fun c i=>(hc c i).imp (fun h=>⟨h.1,h.2.1,h.2.2,fun _ h=>h⟩) fun o=>o.imp (fun⟨p,g,f,j⟩=>⟨p,g,f,j,fun _ h=>h⟩) fun⟨g,f,w,j,q⟩=>⟨g,f,w,j,Jk q⟩⟩
 ·exact⟨s,a,T,.inr ⟨e,d,n,sp,sk,v⟩,u,k,hd,hc⟩
theorem Gm{o:Option Addr}{W j:Nat→Prop}{T:Nat→Nat→Prop}{x:Hs}{k:ae}{m t d n z:Nat}{sp sk:SliceV}{s':Slots}{l':List Pr}(u:OwnN (fun y=>j y∨z≤y) k t d n sp sk s' o)
  (hc:∀c,c<32→SlotO o W x k m s' c (part x (12-m) c l') (T c))(v:∀c y,T c y→y<z∧¬j y)(hd:∀c c' y,T c y→T c' y→c=c')(w:o=none→(∀y,¬j y)∧∀y,W y→y<z):
  TrieO o W x k (m+1) t l' (fun y=>o.isSome=true∧(((j y∨z≤y)∧y<k.size)∨∃c,c<32∧T c y)):=by
 cases o with
 |none=>
  obtain⟨B,C⟩:=w rfl;refine .inl ⟨⟨s',u.node (fun y f q=>?_) lm,fun c b=>?_⟩,fun y f=>by simp at f⟩
  ·have:=C y q
   rcases f with h|h
   ·exact B y h
   ·omega
  ·exact(hc c b).imp (fun h=>⟨h.1,h.2.1,h.2.2.1⟩) fun o=>o.imp (fun⟨p,i,g,s,_⟩=>⟨p,i,g,s⟩) fun⟨i,g,D,s,A⟩=>⟨i,g,D,s,A.off.1⟩
 |some a=>
  refine .inr ⟨rfl,s',d,n,sp,sk,fun y=>(j y∨z≤y)∧y<k.size,fun c y=>c<32∧T c y,u.within,fun y f=>⟨rfl,.inl f⟩,fun c y f=>⟨⟨rfl,.inr ⟨c,f⟩⟩,fun h=>?_⟩,fun c c' y i g=>hd c c' y i.2 g.2,fun c b=>?_⟩
  ·obtain⟨i,g⟩:=v c y f.2
   rcases h.1 with h|h
   ·exact g h
   ·omega
  ·have e:(fun y=>c<32∧T c y)=T c:=funext fun y=>propext ⟨fun h=>h.2,fun h=>⟨b,h⟩⟩
   have:=hc c b;unfold SlotO at this;rw[←e]at this;exact this
end Go.Proofs
namespace Go.Proofs
open Go.Lift
theorem Ps{o:Option Addr}{W e:Nat→Prop}{f:ae}{g d n z:Nat}{sp sk:SliceV}{s':Slots}(i:OwnN (fun y=>e y∨z≤y) f g d n sp sk s' o)(j:o=none→(∀y,¬e y)∧∀y,W y→y<z):
  NodeO o W f g s' (fun y=>o.isSome=true∧(e y∨z≤y)∧y<f.size):=by
 cases o with
 |none=>
  obtain⟨k,m⟩:=j rfl;refine .inl ⟨i.node (fun y b c=>?_) lm,fun y b=>by simp at b⟩
  have:=m y c;rcases b with h|h
  ·exact k y h
  ·omega
 |some a=>exact .inr ⟨rfl,d,n,sp,sk,i.within.mono fun y b=>⟨rfl,b⟩⟩
theorem xB{o:Option Addr}{W d:Nat→Prop}{e:ae}{f z:Nat}{sp sk:SliceV}{l:List Pr}(g:OwnB (fun y=>d y∨z≤y) e f sp sk l o)(i:o=none→(∀y,¬d y)∧∀y,W y→y<z):
  BuckO o W e f l (fun y=>o.isSome=true∧(d y∨z≤y)∧y<e.size):=by
 cases o with
 |none=>
  obtain⟨j,k⟩:=i rfl;refine .inl ⟨g.buck (fun y b c=>?_) lm,fun y b=>by simp at b⟩
  have:=k y c;rcases b with h|h
  ·exact j y h
  ·omega
 |some a=>exact .inr ⟨rfl,sp,sk,g.within.mono fun y b=>⟨rfl,b⟩⟩
def SN(o:Option Addr)(a:Nat→Prop)(z:Nat)(b:ae)(T:Nat→Nat→Prop)(y:Nat):Prop:=o.isSome=true∧(((a y∨z≤y)∧y<b.size)∨∃c,c<32∧T c y)
def sT(T:Nat→Nat→Prop)(i:Nat)(S:Nat→Prop)(c:Nat):Nat→Prop:=if c=i then S else T c
theorem zP{T:Nat→Nat→Prop}{i:Nat}{S:Nat→Prop}:sT T i S i=S:=if_pos rfl
theorem rC{T:Nat→Nat→Prop}{i c:Nat}{S:Nat→Prop}(h:c≠i):sT T i S c=T c:=if_neg h
theorem M3{o:Option Addr}{S g T':Nat→Prop}{z z0 c0:Nat}{a:ae}{T:Nat→Nat→Prop}(i:∀y,g y→S y)(f:∀c y,T c y→S y∧y<a.size)(b:∀y,T' y→(S y∨z0≤y)∧y<a.size)(hz:z0≤z){y:Nat}(j:SN o g z a (sT T c0 T') y):(S y∨z0≤y)∧y<a.size:=by
 rcases j.2 with⟨h|h,d⟩|⟨c,_,h⟩
 ·exact⟨.inl (i y h),d⟩
 ·exact⟨.inr (Nat.le_trans hz h),d⟩
 ·by_cases e:c=c0
  ·subst e;rw[zP]at h;exact b y h
  ·rw[rC e]at h;exact⟨.inl (f c y h).1,(f c y h).2⟩
theorem yw{o:Option Addr}{W W1 f T':Nat→Prop}{T:Nat→Nat→Prop}{x:Hs}{hz g:ae}{m C d n c0:Nat}{sp sk:SliceV}{s s':Slots}{l':List Pr}
  (G:OwnN (fun y=>f y∨hz.size≤y) g C d n sp sk s' o)(H:Upd f hz g)(I:∀c,c<32→c≠c0→SlotO o W1 x hz m s c (part x (12-m) c l') (T c))(B:∀c,c≠c0→s'.p c=s.p c∧s'.k c=s.k c)
  (hi:SlotO o W1 x hz m s' c0 (part x (12-m) c0 l') T')(u:∀y,W y→W1 y)(p:∀y,f y→W1 y)(w:∀c y,T c y→W1 y)(q:∀y,T' y→W1 y)(z:∀c y,T c y→y<hz.size∧¬f y)(b:∀y,T' y→y<hz.size∧¬f y∧∀c,c≠c0→¬T c y)
  (hd:∀c c' y,T c y→T c' y→c=c')(E:o=none→(∀y,¬f y)∧∀y,W1 y→y<hz.size):
  TrieO o (fun y=>W y∨SN o f hz.size g (sT T c0 T') y) x g (m+1) C l' (SN o f hz.size g (sT T c0 T')):=by
 have k:∀c y,sT T c0 T' c y→W1 y∧y<hz.size∧¬f y:=fun c y h=>by
  by_cases e:c=c0
  ·subst e;rw[zP]at h;exact⟨q y h,(b y h).1,(b y h).2.1⟩
  ·rw[rC e]at h;exact⟨w c y h,z c y h⟩
 have F:∀y,(W y∨SN o f hz.size g (sT T c0 T') y)→(W1 y∨hz.size≤y):=fun y a=>by
  rcases a with h|⟨_,⟨h|h,_⟩|⟨c,_,h⟩⟩
  ·exact .inl (u y h)
  ·exact .inl (p y h)
  ·exact .inr h
  ·exact .inl (k c y h).1
 have A:∀{s:Slots} {c:Nat} {l:List Pr} {U:Nat→Prop},SlotO o W1 x hz m s c l U→(∀y,U y→y<hz.size∧¬f y)→SlotO o (fun y=>W y∨SN o f hz.size g (sT T c0 T') y) x g m s c l U:=fun t D=>
  ((t.less (W':=fun y=>W1 y∨hz.size≤y) fun y a=>a).upd H (fun y a=>(D y a).1) fun y a=>.inl ⟨.inl (p y a),fun h=>(D y h).2 a⟩).less fun y a=>.inl (F y a)
 refine Gm G (fun c hc=>?_) (fun c y h=>(k c y h).2) (fun c c' y i j=>?_) fun e=>⟨(E e).1,fun y a=>?_⟩
 ·by_cases e:c=c0
  ·subst e;rw[zP];exact A hi fun y a=>⟨(b y a).1,(b y a).2.1⟩
  ·rw[rC e];exact(A (I c hc e) fun y a=>z c y a).turn (B c e).1 (B c e).2
 ·by_cases e:c=c0<;>by_cases v:c'=c0
  ·omega
  ·subst e;rw[zP]at i;rw[rC v]at j;exact absurd j ((b y i).2.2 c' v)
  ·subst v;rw[zP]at j;rw[rC e]at i;exact absurd i ((b y j).2.2 c e)
  ·rw[rC e]at i;rw[rC v]at j;exact hd c c' y i j
 ·rcases a with h|⟨h,_⟩
  ·exact(E e).2 y (u y h)
  ·rw[e]at h;cases h
abbrev Qh(x:Hs)(w:Option Addr)(k:ByteArray):Value:=.agg #[.int .u64 x.k0,.int .u64 x.k1,.int .u64 x.mask,.pointer w,.string k,.int .u64 (me x k)]
set_option maxHeartbeats 1000000 in
theorem Sf{W:Nat→Prop}{x:Hs}{w o:Option Addr}:∀(m:Nat) (p q:Pr),m≤13→p.1≠q.1→∀{h:ae},(∀y,W y→y<h.size)→By h w o→(∀a,o=some a→W a.block)→∀{K:Option Addr→ae→Prop},(∀h' b' S',TrieO o (fun y=>W y∨S' y) x h' m b' (gA q [p]) S'→(∀y,S' y→h.size≤y∧y<h'.size)→Upd No h h'→K (some ⟨b',0,none⟩) h')→
  HC PG lL [Qh x w q.1,.agg #[.string p.1,.string p.2],.agg #[.string q.1,.string q.2],.int .i64 ((13-m:Nat):Int)] [.c .ptr] K h:=by
 intro m;induction m with
 |zero=>
  intro p q _ V h hW t F K hk;have L:∀{h'},Upd No h h'→∀y,W y→y<h'.size:=fun k y g=>bI (hW y g) k.size
  refine tc (x.k0,x.k1,x.mask,w,q.1,me x q.1) p q ((13-0:Nat):Int) ?_;unfold pd ag aH xb pt ay tV dQ yu HS mZ DE;refine aP fun h1 b1 k1=>aP fun h2 b2 k2=>aP fun M b3 k3=>?_
  have j:=(k1.tr k2).tr k3;have v:∀{h':ae},Upd No M h'→∀i,aJ h' (adr ⟨h.size,0,none⟩ i)=(#[.int .u64 x.k0,.int .u64 x.k1,.int .u64 x.mask,.pointer w,.string q.1,.int .u64 (me x q.1)]:Array Value)[i]?:=fun k i=>by
   rw[bV,bl (k.get0 (k3.get0 (k2.get0 b1))),aI]
  have H:∀{h':ae},Upd No M h'→∀i,aJ h' (adr ⟨h1.size,0,none⟩ i)=(#[.string p.1,.string p.2]:Array Value)[i]?:=fun k i=>by rw[bV,bl (k.get0 (k3.get0 b2)),aI]
  have E:∀{h':ae},Upd No M h'→∀i,aJ h' (adr ⟨h2.size,0,none⟩ i)=(#[.string q.1,.string q.2]:Array Value)[i]?:=fun k i=>by rw[bV,bl (k.get0 b3),aI]
  have r:=Upd.refl No M;have z03:=j.size;refine ax.2 ⟨w,v r 3,p.1,H r 0,p.2,H r 1,w,v r 3,q.1,E r 0,q.2,E r 1,?_⟩;refine PM (L j) fun h4 b4 bk4 f=>⟨⟨E f 0,E f 1⟩,v f 3,⟨H f 0,H f 1⟩,v f 3,?_⟩
  have t4:=t.upd0 (j.tr f);have z4:=f.size;refine EP (S:=No) (.inl ⟨bk4,fun _ h=>h⟩) t4 F (fun _ h=>h.elim) ey (by simp) p fun Q b5 sp5 sk5 on5 C=>?_
  have D:=f.tr C;have z5:=C.size;refine⟨⟨E D 0,E D 1⟩,v D 3,?_⟩;have bk5:=xB (W:=W) (z:=h4.size) on5 fun e=>⟨fun _ h=>h,L (j.tr f)⟩
  have t5:=t4.upd0 C;refine EP bk5 t5 F (fun y g=>g.2.2) (cL ..) (by simp[gA]) q fun O b6 sp6 sk6 on6 A=>?_
  have z6:=A.size;have bk6:=xB (W:=fun y=>W y∨(o.isSome=true∧((o.isSome=true∧((No y∨h4.size≤y)∧y<Q.size))∨Q.size≤y)∧y<O.size)) (z:=Q.size) on6 fun e=>⟨fun y g=>(by rw[e]at g;cases g.1),fun y g=>(by
   rcases g with g|g
   ·exact L (j.tr D) y g
   ·rw[e]at g;cases g.1)⟩
  refine hk O b6 _ bk6 (fun y g=>?_) ((j.tr D).trans A fun y g=>.inr ?_)
  ·rcases g.2.1 with h|h
   ·rcases h.2.1 with h|h
    ·exact h.elim
    ·exact⟨by omega,g.2.2⟩
   ·exact⟨by omega,g.2.2⟩
  ·rcases g.2.1 with h|h
   ·exact h.elim
   ·omega
 |succ m ih=>
  intro p q hm V h hW t F K hk;have L:∀{h'},Upd No h h'→∀y,W y→y<h'.size:=fun k y g=>bI (hW y g) k.size
  have hl:13-(m+1)<13:=by omega
  have B:13-(m+1)=12-m:=by omega
  refine tc (x.k0,x.k1,x.mask,w,q.1,me x q.1) p q ((13-(m+1):Nat):Int) ?_;unfold pd ag aH xb pt ay tV dQ yu HS mZ DE;refine aP fun h1 b1 k1=>aP fun h2 b2 k2=>aP fun M b3 k3=>?_
  have j:=(k1.tr k2).tr k3;have v:∀{h':ae},Upd No M h'→∀i,aJ h' (adr ⟨h.size,0,none⟩ i)=(#[.int .u64 x.k0,.int .u64 x.k1,.int .u64 x.mask,.pointer w,.string q.1,.int .u64 (me x q.1)]:Array Value)[i]?:=fun k i=>by
   rw[bV,bl (k.get0 (k3.get0 (k2.get0 b1))),aI]
  have H:∀{h':ae},Upd No M h'→∀i,aJ h' (adr ⟨h1.size,0,none⟩ i)=(#[.string p.1,.string p.2]:Array Value)[i]?:=fun k i=>by rw[bV,bl (k.get0 (k3.get0 b2)),aI]
  have E:∀{h':ae},Upd No M h'→∀i,aJ h' (adr ⟨h2.size,0,none⟩ i)=(#[.string q.1,.string q.2]:Array Value)[i]?:=fun k i=>by rw[bV,bl (k.get0 b3),aI]
  have r:=Upd.refl No M;have z03:=j.size;have ne:(((13-(m+1):Nat):Int)==(13:Int))=false:=by rw[beq_eq_false_iff_ne];omega
  rw[ne];refine al.2 ⟨_,v r 0,_,v r 1,_,v r 2,_,H r 0,_,v r 5,?_⟩;refine vj fun h4 f=>⟨v f 5,R8 hl ⟨v f 5,R8 hl ?_⟩⟩
  have hi:=x8 x (13-(m+1)) p.1;have hj:=x8 x (13-(m+1)) q.1;have hcl:=NO V;have z4:=f.size;refine CondP.intro (fun e=>?_) fun e=>?_
  ·have e:ck x (13-(m+1)) p.1=ck x (13-(m+1)) q.1:=by have:=eq_of_beq e;omega
   refine⟨_,v f 3,_,v f 0,_,v f 1,_,v f 2,_,v f 3,_,v f 4,_,v f 5,_,H f 0,_,H f 1,_,E f 0,_,E f 1,?_⟩;refine vh (L (j.tr f)) fun Q b5 Z C=>?_
   have b:=f.tr C;have z5:=C.size;refine⟨⟨E b 0,E b 1⟩,⟨H b 0,H b 1⟩,⟨v b 0,v b 1,v b 2,v b 3,v b 4,v b 5⟩,v b 3,?_⟩;have ew:IntKind.wrap .i64 (((13-(m+1):Nat):Int)+1)=((13-m:Nat):Int):=by rw[ji (by omega)];omega
   rw[ew];refine ih p q (by omega) V (L (j.tr b)) (t.upd0 (j.tr b)) F fun O b6 Sk t6 P A=>?_
   have u:=b.tr A;have z6:=A.size;refine⟨v u 3,?_⟩;refine uZ (S:=No) (.inl ⟨Z.upd A fun _ h=>h.elim,fun _ h=>h⟩) (t.upd0 (j.tr u)) F hi (fun y h=>by cases h) ⟨b6,0,none⟩ fun h7 b7 d n sp sk Y J=>?_
   have z7:=J.size;refine hk h7 b7 _ (yw (W:=W) (W1:=fun y=>W y∨Sk y) (T:=fun _=>No) (T':=Sk) (c0:=ck x (13-(m+1)) p.1) (s:=⟨fun _=>none,fun _=>none⟩) (hz:=O) Y J (fun c hc X=>?_) (fun c hc=>⟨gw hc,gw hc⟩) ?_ (fun y g=>.inl g) (fun _ h=>h.elim) (fun _ _ h=>h.elim) (fun y g=>.inr g) (fun _ _ h=>h.elim) (fun y g=>⟨(P y g).2,id,fun _ _ h=>h⟩) (fun _ _ _ h=>h.elim) fun eo=>⟨fun _ h=>h,fun y g=>g.elim (L (j.tr u) y) fun h=>(P y h).2⟩) (fun y g=>?_) ((j.tr u).tr J)
   ·refine .inl ⟨NZ fun r U=>?_,rfl,rfl,fun _ h=>h⟩
    rw[B]at X e;rcases N6 U with rfl|rfl
    ·exact fun e=>X e.symm
    ·rw[←e];exact fun e=>X e.symm
   ·have ea:part x (12-m) (ck x (13-(m+1)) p.1) (gA q [p])=gA q [p]:=JW fun r U=>by
     rw[B]at e⊢;rcases N6 U with rfl|rfl
     ·rfl
     ·rw[e]
    rw[ea];exact .inr (.inr ⟨by omega,gK,b6,gK,t6⟩)
   ·have:=M3 (S:=No) (z0:=h.size) (fun _ h=>h) (fun _ _ h=>h.elim) (fun y g=>⟨.inr (by have:=(P y g).1;omega),by have:=(P y g).2;omega⟩) (by omega) g
    exact⟨this.1.elim (fun h=>h.elim) id,this.2⟩
  ·have e:ck x (13-(m+1)) p.1≠ck x (13-(m+1)) q.1:=fun h=>by rw[h]at e;simp at e
   refine⟨_,v f 3,_,H f 0,_,H f 1,_,v f 3,_,E f 0,_,E f 1,?_⟩;refine vh (L (j.tr f)) fun Q b5 Z C=>?_
   have b:=f.tr C;have z5:=C.size;have t5:=t.upd0 (j.tr b);refine⟨⟨E b 0,E b 1⟩,v b 3,⟨H b 0,H b 1⟩,v b 3,?_⟩;refine qi (S:=No) (.inl ⟨Z,fun _ h=>h⟩) t5 F (fun _ h=>h.elim) hi (fun y h=>by cases h) p fun O b6 d6 n6 sp6 sk6 on6 A=>?_
   have u:=b.tr A;have z6:=A.size;have nd6:=Ps (W:=W) on6 fun _=>⟨fun _ h=>h,L (j.tr b)⟩
   refine⟨⟨E u 0,E u 1⟩,v u 3,?_⟩;refine qi nd6 (t5.upd0 A) F (fun y g=>g.2.2) hj (fun y h=>by simp[upd]) q fun h7 b7 d7 n7 sp7 sk7 Y J=>?_
   have z7:=J.size;have R:∀y,(o.isSome=true∧(No y∨Q.size≤y)∧y<O.size)→Q.size≤y:=fun y g=>g.2.1.elim (fun h=>h.elim) id
   refine hk h7 b7 _ (Gm (T:=fun _=>No) (z:=O.size) (W:=fun y=>W y∨SN o (fun y=>o.isSome=true∧(No y∨Q.size≤y)∧y<O.size) O.size h7 (fun _=>No) y) Y (fun c hc=>?_) (fun _ _ h=>h.elim) (fun _ _ _ h=>h.elim) fun eo=>⟨fun y g=>(by rw[eo]at g;cases g.1),fun y g=>(by
    rcases g with g|g
    ·exact L (j.tr u) y g
    ·rw[eo]at g;cases g.1)⟩) (fun y g=>?_) ((j.tr u).trans J fun y g=>.inr (by have:=R y g;omega))
   ·have G:=Ec (x:=x) (lev:=12-m) (c:=c) (p:=q) (l:= [p]) (cL ..)
    rw[B]at e;by_cases N:c=ck x (12-m) p.1
    ·have I:ck x (12-m) q.1≠c:=fun h=>e (by omega)
     have e1:part x (12-m) c [p]= [p]:=JW fun r U=>by rw[aq.1 U,N]
     rw[if_neg I,e1]at G;exact .inr (.inl ⟨p,G,by simp[upd,B,N,e],by simp[upd],fun _ h=>h⟩)
    ·have e1:part x (12-m) c [p]= []:=NZ fun r U=>by rw[aq.1 U];exact fun h=>N h.symm
     rw[e1]at G;by_cases I:c=ck x (12-m) q.1
     ·rw[if_pos I.symm]at G
      exact .inr (.inl ⟨q,G,by simp[upd,B,I],by simp[upd],fun _ h=>h⟩)
     ·rw[if_neg fun h=>I h.symm]at G
      exact .inl ⟨G,by simp[upd,B,I,N],by simp[upd],fun _ h=>h⟩
   ·rcases g.2 with⟨h|h,h2⟩|⟨_,_,h⟩
    ·exact⟨by have:=R y h;omega,h2⟩
    ·exact⟨by omega,h2⟩
    ·exact h.elim
end Go.Proofs
