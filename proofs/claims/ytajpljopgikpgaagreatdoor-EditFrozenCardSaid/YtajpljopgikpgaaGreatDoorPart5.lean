/- A part of the proof that the named laws of this program answer true, whatever the input. -/
import Derived.Test.YtajpljopgikpgaaGreatDoorPart4
import Derived.Test.YtajpljopgikpgaaGreatDoorPart2
open ByteArray renaming mk→jE
open Int renaming toNat_natCast→aO
open List renaming eraseIdx_eq_take_drop_succ→gB,getElem?_eraseIdx→pg,mem_singleton→au,getElem_mem→aP,getElem?_eq_getElem→ag,length_append→af,mem_of_getElem?→az,getElem?_set→eM,getElem?_of_mem→g8,pairwise_singleton→fZ
open List.Pairwise renaming nil→gn
open Nat renaming lt_or_ge→bK,one_pos→tD,le_refl→ao,lt_of_lt_of_le→bP,zero_add→aL
namespace Go.Proofs
open Go Go.Lift
theorem UP{Ts:List (Nat→Prop)}(d:PD Ts)(i:Nat):PD (Ts.take i++Ts.drop (i+1)):=by
 intro a b A B f c eb;simp only[←gB,pg]at c eb;split at c<;>split at eb
 ·exact d a b A B f c eb
 ·exact d a (b+1) A B (by omega) c eb
 ·exact d (a+1) b A B (by omega) c eb
 ·exact d (a+1) (b+1) A B (by omega) c eb
theorem Qz{o:Option Addr}{W S X A:Nat→Prop}{h:ad}{d b:Nat}{T:List (Nat→Prop)}(i:∀y,W y→y<h.size)(c:o=none→∀y,¬S y)(g:∀y,A y→S y∨h.size≤y)(j:S b∨h.size≤b)(e:o=none):(∀y,A y→¬(W y∨SR o d X T y))∧¬(W b∨SR o d X T b):=by
 have no:∀y,(S y∨h.size≤y)→¬(W y∨SR o d X T y):=fun y f a=>by
  rcases a with a|⟨a,_⟩
  ·rcases f with h|h
   ·exact c e y h
   ·have:=i y a;omega
  ·rw[e]at a;cases a
 exact⟨fun y f=>no y (g y f),no _ j⟩
theorem LD{o:Option Addr}{W S A:Nat→Prop}{h b:ad}{a:Nat}{sl val:ByteArray}{s3:SliceV}{w:Option ByteArray}{g:List (Option Addr)}{L':List Bn}{Us':List (Nat→Prop)}
  (u:∀y,W y→y<h.size)(j:o=none→∀y,¬S y)(n:b[a]? =some (.cells (xr sl w.isSome val s3 o) bG (0,0))) (hv:val=w.getD ⟨#[]⟩) (m:OwnS mw 1 bj A b s3 g) (i:∀y,A y→(S y∨h.size≤y)∧y≠a∧y<b.size) (d:S a∨h.size≤a)
  (q:∀U∈Us',∀y,U y→¬A y∧y≠a) (k:∀U∈Us',∀y,U y→(S y∨h.size≤y)∧y<b.size) (p:PD Us') (s:(∀y,SR o a A Us' y→(S y∨h.size≤y)∧y<b.size)→LsO o (fun y=>W y∨SR o a A Us' y) b g L' Us'):
  RxO o (fun y=>W y∨SR o a A Us' y) b a sl w (.ofL L') (SR o a A Us')∧∀y,SR o a A Us' y→(S y∨h.size≤y)∧y<b.size:=by
 have f:∀y,SR o a A Us' y→(S y∨h.size≤y)∧y<b.size:=fun y c=>y5 d (aH n) (fun y c=>⟨(i y c).1,(i y c).2.2⟩) k c
 exact⟨wy n hv m (fun y c=>(i y c).2) q p (by rw[Fo.to_of];exact s f) (Qz u j (fun y c=>(i y c).1) d),f⟩
def WI(o:Option Addr)(W:Nat→Prop)(h:ad)(r:Option Addr)(m:Option Bn)(S:Nat→Prop):Prop:=(r=none∧m=none)∨∃n,m=some n∧KidO o W h r n S
set_option maxHeartbeats 1000000 in
theorem LG{w' o:Option Addr}{W S:Nat→Prop}{h:ad}{b:Nat}{sl:ByteArray}{w:Option ByteArray}{F:Fo}(r:RxO o W h b sl w F S)(t:By h w' o)(hW:∀y,W y→y<h.size)(E:∀y,S y→W y)(hWo:∀a,o=some a→W a.block)(hc:fi F)(N:sl.data.toList≠[])(hs1:sl.size≤1000000)(hs2:∀k v,pi F k v→k.length≤1000000)
  {K:Option Addr→ad→Prop}(hk:∀j r m S2,Upd S h j→TR (sl.data.toList,w,F) m→WI o (fun y=>W y∨S2 y) j r m S2→(∀y,S2 y→(S y∨h.size≤y)∧y<j.size)→K r j):HC PG oQ [.pointer (some ⟨b,0,none⟩),.pointer w'] [.c .ptr] K h:=by
 refine AG _ w' ?_;unfold sW bJ dH bw aM wm jp fL;have hr:=r;have hno:o=none→∀y,¬S y:=fun e=>by subst e;exact r.off.2
 have P:∀y,S y→y<h.size:=fun y c=>hW y (E y c)
 obtain⟨val,s,ow,ks,Us,hb,hv,hs,hL,hUS,hPD,hown⟩:=r.view;have hn:=jO hc;have f:=hs.len;rw[hL.1]at f;refine Join.intro (fun t j=>t=decide (w.isSome∨2≤F.toL.length)∧j=h) (fun R hR=>⟨_,rfl,w.isSome,dh (i:=1) hb,?_⟩) ?_
 ·cases w with
  |some v=>exact ay.2 (hR _ _ ⟨rfl,rfl⟩)
  |none=>
   refine aj.2 ⟨_,rfl,s,dh (i:=3) hb,hR _ _ ⟨?_,rfl⟩⟩;rw[decide_eq_decide];constructor
   ·intro h;exact .inr (by omega)
   ·rintro(h|h)
    ·cases h
    ·omega
 ·rintro t' j ⟨rfl,rfl⟩
  refine aQ (fun H=>?_) fun H=>?_
  ·exact hk j _ _ S (Upd.refl _ _) (Pg N hc H) (.inr ⟨_,rfl,b,sl,rfl,rfl,hr.less fun y c=>.inl (c.elim id (E y))⟩) fun y c=>⟨.inl c,P y c⟩
  ·have hw:w=none:=by
    cases w with
    |none=>rfl
    |some v=>exact absurd (.inl rfl) H
   subst hw;have hl2:F.toL.length<2:=by
    rcases bK F.toL.length 2 with h|h
    ·exact h
    ·exact absurd (.inr h) H
   refine⟨_,rfl,s,dh (i:=3) hb,?_⟩;match hFL:F.toL,hl2 with
   | [],_=>
    rw[hFL]at f;have e:((s.len:Int)==(0:Int))=true:=by rw[beq_iff_eq,f];rfl
    rw[e];exact ay.2 (hk j _ _ No (Upd.refl _ _) (Ph hFL) (.inl ⟨rfl,rfl⟩) fun y c=>c.elim)
   | [(lk,wk,Fk)],_=>
    rw[hFL]at f;have e:((s.len:Int)==(0:Int))=false:=by rw[beq_eq_false_iff_ne,f];simp
    rw[e];have u:(lk,wk,Fk)∈F.toL:=by rw[hFL];exact au.2 rfl
    have hcm:=(eI.1 hc).2 _ u;have h0:F.toL[0]? =some (lk,wk,Fk):=by rw[hFL];rfl
    have X:0<ks.length:=by rw[hL.1,hFL];exact tD
    have hU0:0<Us.length:=by rw[hL.2.1,hFL];exact tD
    have hUm:Us[0]∈Us:=aP hU0;obtain⟨kb,q,hke,L,p⟩:=hL.2.2 0 _ _ _ (ag X) h0 (ag hU0);have hki:ks[0]? =some (some ⟨kb,0,none⟩):=by rw[ag X,hke]
    have g:∀y,Us[0] y→S y:=hUS _ hUm;generalize Us[0]=U at p hUm g;simp only at L p;obtain⟨a,ha,_,hvv⟩:=hs.at0 hki;have hknr:=p;have hno2:o=none→∀y,¬U y:=fun e=>by subst e;exact p.off.2
    obtain⟨kval,kss,kow,kks,B,hkb,hkv,hkss,Y,G,O,I⟩:=p.view;have hkn2:=jO hcm.2.2;have hUb:∀y,U y→y<j.size:=fun y c=>P y (g y c)
    have A:∀V∈B,∀y,V y→y<j.size:=fun V C y c=>hUb y (G V C y c)
    refine aj.2 ⟨_,rfl,s,dh (i:=3) hb,⟨by omega,by rw[f];simp⟩,a,ha,some ⟨kb,0,none⟩,hvv,?_⟩
    refine lq (W:=W) (S:=U) (Us:=B) t hWo hkb (by rw[Y.1];exact hkn2) (BF (Us:=B) I (aH hkb) (Upd.refl No j) (fun _ h=>h.elim) fun V C y c=>⟨.inl ⟨V,C,c⟩,A V C y c⟩) fun h1 b1 s1 A1 Z hA1 d D hU1 J=>?_
    obtain⟨rr,vv,hin⟩:=nr hc _ u;have hbd:=hs2 (lk++rr) vv (fq.2 ⟨_,u,rr,rfl,hin⟩);rw[af]at hbd;have hlkl:lk.length=q.size:=by rw[←L];exact jU q
    refine⟨_,rfl,sl,dh (i:=0) (J.get0 hb),_,rfl,q,dh (i:=0) Z,by omega,?_⟩
    refine uR Z fun H b2 M=>?_
    have Q:Upd (· =b1) j H:=J.wide.tr M
    have z1:=J.size;have z2:=M.size;have zb:=aH b2;have n:∀{z:Nat},(U z∨j.size≤z)→S z∨j.size≤z:=fun h=>h.imp (g _) id
    have T:∀y,SR o b1 A1 B y→(S y∨j.size≤y)∧y<H.size:=fun y c=>y5 (n D) zb (fun y c=>⟨n (d y c).1,by have:=(d y c).2.2;omega⟩) (fun V C y c=>⟨.inl (g y (G V C y c)),by have:=A V C y c;omega⟩) c
    refine hk H _ _ (SR o b1 A1 B) (Q.mono fun y c=>by have c:y=b1:=c;rw[c];exact n D) (QZ N hc hFL) (.inr ⟨_,rfl,b1,sl++q,rfl,by rw[←L];exact RU sl q,wy b2 hkv (hA1.upd M fun y c=>(d y c).2.1) (fun y c=>⟨(d y c).2.1,by have:=(d y c).2.2;omega⟩) hU1 O (Y.move Q A (fun y c=>?_) fun y c=>c.elim .inl fun h=>(T y h).1.imp (E y) id) (Qz hW hno (fun y c=>n (d y c).1) (n D))⟩) T
    have c:y=b1:=c;subst c;exact D.imp (fun h=>⟨E y (g y h),fun V C hu=>(hU1 V C y hu).2 rfl⟩) id
end Go.Proofs
namespace Go.Proofs
open Go Go.Lift
set_option maxHeartbeats 4000000 in
theorem OW{w' o:Option Addr}:∀(n:Nat) {W S:Nat→Prop} {b:Nat} {sl:ByteArray} {w:Option ByteArray} {F:Fo} {h:ad} (k:ByteArray),k.size<n→RxO o W h b sl w F S→By h w' o→(∀y,W y→y<h.size)→(∀y,S y→W y)→(∀a,o=some a→W a.block)→(∀a,w'=some a→¬S a.block)→fi F→(∀j v,pi F j v→j.length≤1000000)→∀{K:(Option Addr)×Bool→ad→Prop},
  (∀h' E w2 F2 S2 gone,Upd S h h'→RxO o (fun y=>W y∨S2 y) h' E sl w2 F2 S2→(∀y,S2 y→(S y∨h.size≤y)∧y<h'.size)→fi F2→tB (p7 w F) (p7 w2 F2) k.data.toList→(gone=false→E=b∧w2=w∧F2=F∧Upd No h h'∧∀v,¬p7 w F k.data.toList v)→(gone=true→∃v,p7 w F k.data.toList v)→K (some ⟨E,0,none⟩,gone) h')→
  HC PG lG [.pointer (some ⟨b,0,none⟩),.pointer w',.string k] [.c .ptr,.c .bool] K h:=by
 intro n;induction n with
 |zero=>intro W S b sl w F h k hk;omega
 |succ n ih=>
  intro W S b sl w F h k hkn r t hW C hWo hwS hc hbd K hk;refine AI (some ⟨b,0,none⟩) w' k ?_;unfold sY bJ dH bw aM cp jS jp C6 fL DW Js;have hr:=r;have hno:o=none→∀y,¬S y:=fun e=>by subst e;exact r.off.2
  obtain⟨val,s,ow,ks,Us,hb,hv,hs,hL,hUS,hPD,hown⟩:=r.view;have hn:=jO hc;have hcan:=eI.1 hc;have hSb:∀y,S y→y<h.size:=fun y d=>hW y (C y d)
  have O:∀U∈Us,∀y,U y→y<h.size:=fun U D y d=>hSb y (hUS U D y d)
  have zb:=aH hb;have own2:=fun{h2:ad} {M:Nat→Prop} (ku:Upd M h h2) (hM:∀y,M y→S y∧∃U∈Us,U y) (Us':List (Nat→Prop)) (D:∀U∈Us',∀y,U y→((∃V∈Us,V y)∨h.size≤y)∧y<h2.size)=>BF (Us':=Us') hown zb ku hM D
  have Z:∀{h':ad},Upd No h h'→(∀v,¬p7 w F k.data.toList v)→K (some ⟨b,0,none⟩,false) h':=fun hu hnin=>hk _ b w F S false hu.wide ((hr.upd0 hu).less fun y d=>.inl (d.elim id (C y))) (fun y d=>⟨.inl d,by have:=hSb y d;have:=hu.size;omega⟩) hc (MF hnin) (fun _=>⟨rfl,rfl,rfl,hu,hnin⟩) fun h=>by cases h
  rw[iW];refine aQ (fun hk0=>?_) fun hk0=>?_
  ·have hke:k.data.toList= []:=by rw[hk0]
   rw[hke]at hk Z;refine⟨_,rfl,w.isSome,dh (i:=1) hb,?_⟩;cases hw:w with
   |none=>
    refine ay.2 (Z (Upd.refl _ _) fun v f=>?_)
    rcases f with⟨_,h⟩|h
    ·rw[hw]at h;cases h
    ·exact absurd rfl (nU hc h)
   |some u=>
    refine aj.2 (lq (S:=S) (Us:=Us) t hWo hb (by rw[hL.1];exact hn) (own2 (Upd.refl No h) (fun _ h=>h.elim) Us fun U D y d=>⟨.inl ⟨U,D,d⟩,O U D y d⟩) fun h1 E s1 A1 b1 hA1 hA1s Y hU1 hu1=>?_)
    refine⟨_,rfl,QA (i:=1) b1 (show 1<5 by decide),Ef (i:=1) (c':=xr sl false val s1 o) b1 rfl fun h2 b2 hu2=>?_⟩
    refine⟨_,rfl,QA (i:=2) b2 (show 2<5 by decide),Ef (i:=2) (c':=xr sl false ⟨#[]⟩ s1 o) b2 rfl fun h3 b3 hu3=>?_⟩
    have hu13:=hu2.tr hu3;have z1:=hu1.size;have z3:=hu13.size;have u03:Upd (· =E) h h3:=hu1.wide.tr hu13
    obtain⟨rx,H⟩:=LD (W:=W) (S:=S) (w:=none) (val:=⟨#[]⟩) (L':=F.toL) hW hno b3 rfl (hA1.upd hu13 fun y d=>(hA1s y d).2.1) (fun y d=>⟨(hA1s y d).1,(hA1s y d).2.1,by have:=(hA1s y d).2.2;omega⟩) Y hU1 (fun U D y d=>⟨.inl (hUS U D y d),by have:=O U D y d;omega⟩) hPD fun H=>hL.move u03 O (fun y d=>by
     have d:y=E:=d
     subst d
     exact Y.imp (fun h=>⟨C y h,fun U D hu=>(hU1 U D y hu).2 rfl⟩) id) fun y d=>d.elim .inl fun h=>(H y h).1.imp (C y) id
    rw[Fo.of_to]at rx;exact hk h3 E none F _ true (u03.mono fun y d=>by have d:y=E:=d;rw[d];exact Y) rx H hc (ME hc) (fun h=>by cases h) fun _=>⟨u,.inl ⟨rfl,hw⟩⟩
  ·have I:k.data.toList≠[]:=fun e=>hk0 (by cases k;exact congrArg jE (Array.toList_inj.1 e))
   obtain⟨c0,hc0,hc0e⟩:=BK I;refine⟨c0,Int.le_refl _,hc0,?_⟩;have hlk:k.data.toList.length=k.size:=jU k;refine Bw (hr.read t) hc (c:=c0.toNat) (UInt8.toNat_lt _) fun i ok hil hlo hhi hok=>?_
   rw[hc0e]at hlo hhi hok;cases ok with
   |false=>
    refine ay.2 (Z (Upd.refl _ _) fun v f=>?_)
    rcases f with⟨h,_⟩|f
    ·exact I h
    ·obtain⟨n',hn',e,_⟩:=oK hc f
     obtain⟨j,p,rfl⟩:=List.getElem_of_mem hn';rcases bK j i with hl|hl
     ·have:=hlo j p hl;omega
     ·have h1:=hhi j p hl
      have h2:=hhi i (by omega) (ao _);rcases bK i j with hl2|hl2
      ·have h3:=List.pairwise_iff_getElem.1 hcan.1 i j (by omega) p hl2
       omega
      ·have:i=j:=by omega
       subst this;have:=hok.2 ⟨p,e⟩;cases this
   |true=>
    obtain⟨hi,hie⟩:=hok.1 rfl;refine aj.2 ⟨_,rfl,s,dh (i:=3) hb,?_⟩;have P:i<ks.length:=by rw[hL.1];exact hi
    have hUi0:i<Us.length:=by rw[hL.2.1];exact hi
    obtain⟨kb,ksl,hke,hkl,Q⟩:=hL.2.2 i _ _ _ (ag P) (ag hi) (ag hUi0);have hki:ks[i]? =some (some ⟨kb,0,none⟩):=by rw[ag P,hke]
    have hUie:Us[i]? =some Us[i]:=ag hUi0;have J:Us[i]∈Us:=aP hUi0;have hmem:F.toL[i]∈F.toL:=aP hi;have hcm:=hcan.2 _ hmem;obtain⟨a,ha,_,hvv⟩:=hs.at0 hki;have hslen:=hs.len;rw[hL.1]at hslen;have hlt1:(i:Int)<((s.len:Nat):Int):=by omega
    refine⟨⟨by simp only;omega,hlt1⟩,a,ha,some ⟨kb,0,none⟩,hvv,_,rfl,?_⟩;obtain⟨kval,kss,kow,kks,kUs,hkb,_⟩:=Q.view;have hin_m:∀v,pi F k.data.toList v→rK F.toL[i] k.data.toList v:=fun v f=>by
     obtain⟨n',hn',e,hN⟩:=oK hc f;rw[←vp hc hn' hmem (by omega)];exact hN
    have N:∀j v,rK F.toL[i] j v→pi F j v:=fun j v f=>fq.2 ⟨_,hmem,f⟩
    have G:∀{m:Bn},Lc m→hd m.1=hd F.toL[i].1→fi (.ofL (F.toL.set i m)):=fun h1 h2=>Ol hc hi h1 h2
    have hdset:∀{m:Bn},tB (rK F.toL[i]) (rK m) k.data.toList→tB (pi F) (pi (.ofL (F.toL.set i m))) k.data.toList:=fun hp=>Pu hc hi hie hp
    have hddel:(∀k' v',rK F.toL[i] k' v'→k'=k.data.toList)→tB (pi F) (pi (.ofL (F.toL.take i++F.toL.drop (i+1)))) k.data.toList:=fun hp=>Pv hc hi hie hp
    have q:∀y,Us[i] y→S y:=hUS _ J;have hUib:∀y,Us[i] y→y<h.size:=O _ J;have hUid:∀j U,j≠i→Us[j]? =some U→Dj Us[i] U:=fun j U p L=>hPD i j _ _ (Ne.symm p) hUie L
    have nUb:¬Us[i] b:=fun hu=>by
     rcases hown with⟨_,_,_,hS0⟩|⟨_,_,A,_,_,_,hUA⟩
     ·exact hS0 _ (q _ hu)
     ·exact(hUA _ J b hu).2 rfl
    generalize F.toL[i]=m at hkl Q hcm hin_m N G hdset hddel hie;generalize Us[i]=Ui at Q hUie J q hUib hUid nUb;obtain⟨lab,wk,Fk⟩:=m;simp only at hkl Q hcm hie G;refine⟨ksl,dh (i:=0) hkb,RG (fun rest z=>?_) fun hnr=>?_⟩
    ·rw[hkl]at z
     have hlne:lab.length≠0:=fun e=>hcm.1 (List.length_eq_zero_iff.1 e)
     have hrl:rest.size<k.size:=by
      rw[←jU rest,←hlk,z,af];omega
     refine aj.2 ⟨_,rfl,s,dh (i:=3) hb,⟨by simp only;omega,hlt1⟩,a,ha,some ⟨kb,0,none⟩,hvv,?_⟩;have hkbd:∀j v,pi Fk j v→j.length≤1000000:=fun j v f=>by
      have:=hbd _ v (N (lab++j) v ⟨j,rfl,.inr f⟩);rw[af]at this;omega
     have tU:∀{M:Nat→Prop} {h':ad},Upd M h h'→(∀y,M y→Ui y)→By h' w' o:=fun ku hM=>t.upd ku fun b e d=>absurd (q _ (hM _ d)) (hwS _ e)
     refine ih (W:=W) (S:=Ui) rest (by omega) Q t hW (fun y d=>C y (q y d)) hWo (fun a e d=>hwS a e (q _ d)) hcm.2.2 hkbd fun h2 b2 w2 F2 SV gone ku rn2 X hc2 hd2 hg0 hg1=>?_
     have z02:=ku.size;cases gone with
     |false=>
      obtain⟨_,_,_,hu20,hnin⟩:=hg0 rfl;refine ay.2 (Z hu20 fun v f=>?_)
      rcases f with⟨h,_⟩|f
      ·exact I h
      ·obtain⟨r',e,hr'⟩:=hin_m v f
       simp only at e;rw[z]at e;exact hnin v (by rw[List.append_cancel_left e];exact hr')
     |true=>
      obtain⟨v0,hv0⟩:=hg1 rfl;have hthere:∃v,p7 w F k.data.toList v:=⟨v0,.inr (N _ _ ⟨_,z,hv0⟩)⟩;have hdn:tB (rK (lab,wk,Fk)) (rK (lab,w2,F2)) k.data.toList:=by
       rw[z];exact MG hd2
      have hmem2:∀{V:Nat→Prop},∀U∈Us.set i V,U∈Us∨U=V:=fun U D=>List.mem_or_eq_of_mem_set D
      have hsetm:∀V:Nat→Prop,V∈Us.set i V:=fun V=>az (i:=i) (by rw[eM,if_pos rfl,if_pos hUi0])
      refine aj.2 (lq (W:=W) (S:=S) (Us:=Us.set i SV) (tU ku fun _ h=>h) hWo (ku.get hb nUb) (by rw[hL.1];exact hn) (own2 ku (fun y d=>⟨q y d,_,J,d⟩) _ fun U D y d=>?_) fun h3 E s3 A3 b3 ho3 g Y hU3 hu3=>?_)
      ·rcases hmem2 U D with h|rfl
       ·exact⟨.inl ⟨U,h,d⟩,by have:=O U h y d;omega⟩
       ·exact⟨(X y d).1.imp (fun h=>⟨_,J,h⟩) id,(X y d).2⟩
      have hUj:∀{j U},j≠i→Us[j]? =some U→U∈Us.set i SV:=fun{j U} p L=>az (i:=j) (by rw[eM,if_neg (Ne.symm p)];exact L)
      have z23:=hu3.size;obtain⟨rr,vv,f⟩:=nr hc _ hmem;have hlb:lab.length≤1000000:=by
       have:=hbd _ v0 (N _ _ ⟨_,z,hv0⟩);rw[z,af]at this;omega
      have hb2:∀j v,pi F2 j v→j.length≤1000000:=fun j v f=>by
       rcases((hd2 j v).1 (.inr f)).2 with⟨e,_⟩|h
       ·rw[e];simp
       ·exact hkbd j v h
      refine LG (W:=fun y=>(W y∨SV y)∨(h2.size≤y∧y<h3.size)) (S:=SV) ((rn2.less (W':=fun y=>(W y∨SV y)∨(h2.size≤y∧y<h3.size)) fun y d=>d.imp id fun h=>h.1).upd0 hu3) ((tU ku fun _ h=>h).upd0 hu3) (fun y d=>?_) (fun y d=>.inl (.inr d)) (fun a e=>.inl (.inl (hWo a e))) hc2 (by rw[hkl];exact hcm.1) (by rw[←jU ksl,hkl];exact hlb) hb2 fun h4 r4 o4 S4 hu4 hm4 hr4 hS4=>?_
      ·rcases d with(h|h)|h
       ·have:=hW y h;omega
       ·have:=(X y h).2;omega
       ·exact h.2
      rw[hkl]at hm4;have z34:=hu4.size;have b4:=hu4.get b3 fun h=>(hU3 SV (hsetm SV) _ h).2 rfl
      have ho4:=ho3.upd hu4 fun y d h=>(hU3 SV (hsetm SV) y h).1 d
      have hlen4:=ho4.len;have u04:Upd Ui h h4:=(ku.tr hu3.wide).trans hu4 fun y d=>(X y d).1
      have B:∀y,A3 y→(S y∨h.size≤y)∧y≠E∧y<h4.size:=fun y d=>⟨(g y d).1.imp id fun h=>by omega,(g y d).2.1,by have:=(g y d).2.2;omega⟩
      have R:S E∨h.size≤E:=Y.imp id fun h=>by omega
      have hS4':∀y,S4 y→(Ui y∨h.size≤y)∧y<h4.size:=fun y d=>⟨(hS4 y d).1.elim (fun h=>(X y h).1) fun h=>.inr (by omega),(hS4 y d).2⟩
      have hS4A:∀y,S4 y→¬A3 y∧y≠E:=fun y d=>by
       rcases(hS4 y d).1 with h|h
       ·exact hU3 SV (hsetm SV) y h
       ·exact⟨fun ha=>by have:=(g y ha).2.2;omega,by have:=aH b3;omega⟩
      have oth:∀{h5:ad} {W':Nat→Prop} {j:Nat} {k':Option Addr} {n':Bn} {U:Nat→Prop},j≠i→ks[j]? =some k'→F.toL[j]? =some n'→Us[j]? =some U→Upd (fun y=>Ui y∨A3 y∨y=E) h h5→(∀y,W' y→W y∨h.size≤y)→KidO o W' h5 k' n' U:=fun{h5 W' j k' n' U} p ek en L ku5 hW'=>
       KidO.move ku5 (hL.2.2 j k' n' U ek en L) (O U (az L)) (fun y d=>by
        rcases d with h|h|rfl
        ·exact .inl ⟨C y (q y h),hUid j U p L y h⟩
        ·exact(B y h).1.imp (fun hs=>⟨C y hs,fun hu=>(hU3 U (hUj p L) y hu).1 h⟩) id
        ·exact R.imp (fun hs=>⟨C _ hs,fun hu=>(hU3 U (hUj p L) _ hu).2 rfl⟩) id) hW'
      rcases hr4 with⟨rfl,rfl⟩|⟨m4,rfl,kid4⟩
      ·rcases hm4 with⟨_,hnone⟩|⟨_,e,_⟩
       ·have ew:IntKind.wrap .i64 ((i:Int)+1)=((i+1:Nat):Int):=by rw[oD (by omega)];omega
        refine ay.2 ⟨_,rfl,s3,dh (i:=3) b4,?_⟩;simp only;rw[ew];refine MI ho4 P (by rw[hL.1];omega) fun s5 h5 ho5 T=>?_
        have b5:=T.get b4 fun hx=>(g _ hx).2.1 rfl
        refine⟨_,rfl,QA (i:=3) b5 (show 3<5 by decide),Ef (i:=3) (c':=xr sl w.isSome val s5 o) b5 rfl fun h6 b6 hu6=>?_⟩
        have z45:=T.size;have z56:=hu6.size;have u06:Upd (fun y=>Ui y∨A3 y∨y=E) h h6:=((u04.mono fun y d=>.inl (.inl d)).trans T fun y d=>.inl (.inr (.inl d))).trans hu6 fun y d=>.inl (.inr (.inr d))
        have hmd:∀U∈Us.take i++Us.drop (i+1),∃j,j≠i∧Us[j]? =some U:=fun U D=>by
         obtain⟨j,p⟩:=g8 D;rw[←gB,pg]at p;split at p
         ·exact⟨j,by omega,p⟩
         ·exact⟨j+1,by omega,p⟩
        obtain⟨rx,H⟩:=LD (W:=W) (S:=S) (Us':=Us.take i++Us.drop (i+1)) (L':=F.toL.take i++F.toL.drop (i+1)) hW hno b6 hv (ho5.upd hu6 fun y d=>(g y d).2.1) (fun y d=>⟨(B y d).1,(B y d).2.1,by have:=(B y d).2.2;omega⟩) R (fun U D y d=>by
         obtain⟨j,p,e⟩:=hmd U D
         exact hU3 U (hUj p e) y d) (fun U D y d=>by
         obtain⟨j,p,e⟩:=hmd U D
         have hm:=az e
         exact⟨.inl (hUS U hm y d),by have:=O U hm y d;omega⟩) (UP hPD i) fun H=>by
          refine⟨by simp[hL.1],by simp[hL.2.1],fun j k' n' U ek en L=>?_⟩
          simp only[←gB,pg]at ek en L;have hw:∀y,(W y∨SR o E A3 (Us.take i++Us.drop (i+1)) y)→W y∨h.size≤y:=fun y d=>d.elim .inl fun h=>(H y h).1.imp (C y) id
          split at ek
          ·rename_i p
           rw[if_pos p]at en L;exact oth (by omega) ek en L u06 hw
          ·rename_i p
           rw[if_neg p]at en L;exact oth (by omega) ek en L u06 hw
        refine hk h6 E w _ _ true (u06.mono fun y d=>?_) rx H (TK hc) (EU I (hddel fun k' v' hN=>Classical.byContradiction fun hne=>hnone k' v' ((hdn k' v').2 ⟨hne,hN⟩))) (fun h=>by cases h) fun _=>hthere
        rcases d with h|h|rfl
        ·exact .inl (q y h)
        ·exact(B y h).1
        ·exact R
       ·cases e
      ·rcases hm4 with⟨e,_⟩|⟨m',e,hcn,hhd,hiff⟩
       ·cases e
       ·cases e
        obtain⟨kb4,ksl4,rfl,hkl4,rn4⟩:=id kid4;obtain⟨a3,ha3,hab,hw3,ho5,T⟩:=OwnS.setAt ho4 P (some ⟨kb4,0,none⟩);refine aj.2 ⟨_,rfl,s3,dh (i:=3) b4,⟨by simp only;omega,by simp only;omega⟩,a3,ha3,?_⟩
        have hw1:Wr h4 (adr a3 (i*1)):=by
         rcases hw3 with hw|⟨E,Y,hw⟩
         ·cases hw
         ·cases Y;exact hw 0 (by simp)
        refine⟨hw1,bV ?_⟩;change K (some ⟨E,0,none⟩,true) (gT h4 (adr a3 (i*1)) 0 (mw (some ⟨kb4,0,none⟩)));have b5:=T.get b4 fun e=>by have e:E=a3.block:=e;exact(g _ hab).2.1 e.symm
        have z45:=T.size;have eset:ks.set i (some ⟨kb4,0,none⟩)=ks.take i++some ⟨kb4,0,none⟩::ks.drop (i+1):=by rw[List.set_eq_take_append_cons_drop,if_pos P]
        rw[←eset]at ho5;generalize gT h4 (adr a3 (i*1)) 0 (mw (some ⟨kb4,0,none⟩))=h5 at*;have u05:Upd (fun y=>Ui y∨A3 y∨y=E) h h5:=(u04.mono fun y d=>.inl (.inl d)).trans T fun y d=>.inl (.inr (.inl (by have d:y=a3.block:=d;rw[d];exact hab)))
        have kid5:KidO o (fun y=>W y∨SR o E A3 (Us.set i S4) y) h5 (some ⟨kb4,0,none⟩) m4 S4:=by
         refine KidO.move T kid4 (fun y d=>(hS4 y d).2) (fun y d=>?_) fun y d=>?_
         ·have d:y=a3.block:=d
          rw[←d]at hab;refine .inl ⟨?_,fun h=>(hS4A y h).1 hab⟩
          rcases(g y hab).1 with h|h
          ·exact .inl (.inl (.inl (C y h)))
          ·exact .inl (.inr ⟨h,(g y hab).2.2⟩)
         ·have f:∀y,(S y∨h2.size≤y)→y<h3.size→(((W y∨SV y)∨(h2.size≤y∧y<h3.size))∨S4 y)∨h4.size≤y:=fun y d hl=>by
           rcases d with h|h
           ·exact .inl (.inl (.inl (.inl (C y h))))
           ·exact .inl (.inl (.inr ⟨h,hl⟩))
          rcases d with h|⟨_,rfl|h|⟨U,D,h⟩⟩
          ·exact .inl (.inl (.inl (.inl h)))
          ·exact f _ Y (aH b3)
          ·exact f _ (g y h).1 (g y h).2.2
          ·rcases hmem2 U D with h2'|rfl
           ·exact .inl (.inl (.inl (.inl (C _ (hUS U h2' y h)))))
           ·exact .inl (.inr h)
        obtain⟨rx,H⟩:=LD (W:=W) (S:=S) (Us':=Us.set i S4) (L':=F.toL.set i m4) hW hno b5 hv ho5 (fun y d=>⟨(B y d).1,(B y d).2.1,by have:=(B y d).2.2;omega⟩) R (fun U D y d=>by
         obtain⟨j,p⟩:=g8 D
         rw[eM]at p
         split at p
         ·rename_i e
          cases p;exact hS4A y d
         ·rename_i e
          exact hU3 U (hUj (Ne.symm e) p) y d) (fun U D y d=>by
         rcases hmem2 U D with h|rfl
         ·exact⟨.inl (hUS U h y d),by have:=O U h y d;omega⟩
         ·exact⟨(hS4' y d).1.imp (q y) id,by have:=(hS4' y d).2;omega⟩) (QQ hPD fun j U p L y d hu=>by
          rcases(hS4' y d).1 with h|h
          ·exact hUid j U p L y h hu
          ·have:=O U (az L) y hu;omega) fun H=>LsO.set hL.1 hL.2.1 (fun j k' n' U p ek en L=>oth p ek en L u05 fun y d=>d.elim .inl fun h=>(H y h).1.imp (C y) id) kid5
        refine hk h5 E w _ _ true (u05.mono fun y d=>?_) rx H (G hcn hhd) (EU I (hdset fun k' v'=>by rw[hiff k' v'];exact hdn k' v')) (fun h=>by cases h) fun _=>hthere
        rcases d with h|h|rfl
        ·exact .inl (q y h)
        ·exact(B y h).1
        ·exact R
    ·rw[hkl]at hnr
     refine ay.2 (Z (Upd.refl _ _) fun v f=>?_)
     rcases f with⟨h,_⟩|f
     ·exact I h
     ·obtain⟨r',e,_⟩:=hin_m v f
      exact hnr r' e
end Go.Proofs
namespace Go.Proofs
open Go.Lift
theorem NodeO.upd0{o:Option Addr}{W S:Nat→Prop}{h a:ad}{b:Nat}{s:Slots}(c:NodeO o W h b s S)(k:Upd No h a):NodeO o W a b s S:=
 c.imp (fun n=>⟨n.1.upd k fun _ h=>h.elim,n.2⟩) fun⟨e,d,n,sp,sk,f⟩=>⟨e,d,n,sp,sk,f.upd k fun _ h=>h.elim⟩
theorem NodeO.read{o w:Option Addr}{W S:Nat→Prop}{h:ad}{b:Nat}{s:Slots}(c:NodeO o W h b s S)(t:By h w o):NodeAt No h b s:=by
 rcases c with⟨n,_⟩|⟨e,d,n,sp,sk,f⟩
 ·exact n.less fun _ h=>h.elim
 ·exact f.node (fun _ _ h=>h) fun a e=>⟨id,t.plain a (t.tok e)⟩
set_option maxHeartbeats 1000000 in
theorem qd{W S:Nat→Prop}{h:ad}{w o:Option Addr}{b:Nat}{s:Slots}(nd:NodeO o W h b s S)(t:By h w o)(hW:∀a,o=some a→W a.block)(hS:∀y,S y→y<h.size){i:Nat}(hi:i<32)(hx:∀y,s.p i=some y→s.k i=none)(p:Pr){K:Option Addr→ad→Prop}
  (hk:∀h' b' d n sp sk,OwnN (fun y=>S y∨h.size≤y) h' b' d n sp sk ⟨upd s.p i (some p),upd s.k i none⟩ o→Upd S h h'→K (some ⟨b',0,none⟩) h'):
  HC PG fo [.pointer (some ⟨b,0,none⟩),.pointer w,.int .i64 i,.agg #[.string p.1,.string p.2]] [.c .ptr] K h:=by
 refine xT _ w i p ?_;unfold qT dH aG aM cp jS tZ jp yA iR hG nN;have k1:=Upd.hnew No h [.string p.1,.string p.2] aB;have b1:=db h [.string p.1,.string p.2] aB;refine bV ?_;simp only[gf h];generalize hnew h [.string p.1,.string p.2] aB=h1 at k1 b1;have z1:=aH b1;have T:=nd.upd0 k1;have t1:=t.upd0 k1
 refine EH (T.read t1) hi (aj.2 ?_);refine Ij T t1 hW fun h2 C d n sp sk v J=>?_
 have bits:=v.bits;have O:∀{x},(S x∨h1.size≤x)→(S x∨h.size≤x):=fun h=>h.imp id fun h=>by omega
 have z2:=J.size;have zb:=aH v.blk;obtain⟨A,B,hA,hB,q,L⟩:=v.ex;have H:=k1.tr J;have z:=J.get0 b1;refine⟨_,rfl,_,eA (i:=0) v.blk,BL bits.d32 hi ?_⟩;rw[bits.dp i hi];cases hp:s.p i with
 |some y=>
  refine ay.2 ⟨_,rfl,sp,eA (i:=2) v.blk,_,rfl,_,eA (i:=0) v.blk,p.1,by rw[bO,bA z];rfl,p.2,by rw[bO,bA z];rfl,?_⟩
  refine pW bits.d32 hi ⟨⟨by rw[bO,bA z];rfl,by rw[bO,bA z];rfl⟩,eA (i:=2) v.blk,?_⟩
  have hlt:=Hl hi bits.dp hp;obtain⟨a,ha,I,hw,R,m⟩:=OwnS.setAt hA hlt p;have hlen:=hA.len;refine⟨by omega,a,ha,?_⟩;rw[aO];refine⟨hw,bV ?_⟩;rw[←Ra hi bits.dp hp]at R;have ob:=m.get v.blk fun e=>(q _ I).2.2.1 e.symm
  have z3:=m.size;have o3:OwnN (fun x=>S x∨h1.size≤x) _ C d n sp sk ⟨upd s.p i (some p),upd s.k i none⟩ o:=⟨ob,⟨bits.d32,bits.n32,fun c hc=>by
    rw[bits.dp c hc];simp only[upd];split
    ·rename_i e;rw[e,hp];rfl
    ·rfl,fun c hc=>by rw[bits.nk c hc,tX (hx y hp)]⟩,
   ⟨A,B,R,by rw[tX (hx y hp)];exact hB.upd m fun x hx e=>(q _ I).2.1 (e▸hx),fun x hx=>⟨(q x hx).1,(q x hx).2.1,(q x hx).2.2.1,by have:=(q x hx).2.2.2;omega⟩,fun x hx=>⟨(L x hx).1,(L x hx).2.1,by have:=(L x hx).2.2;omega⟩⟩,v.mb⟩
  refine hk _ _ _ _ _ _ (o3.mono fun _=>O) (H.wide.trans m fun x hx=>?_)
  have hx:x=a.block:=hx;rw[hx];exact O (q _ I).1
 |none=>
  refine aj.2 ⟨_,rfl,IC v hi fun F d3 n3 E M o3 m=>?_⟩
  have f:=o3.bits;obtain⟨A3,B3,hA3,hB3,j,k⟩:=o3.ex;have z3:=m.size;have D:=m.get z fun e=>e.elim (fun e=>by have:=hS _ e;omega) fun e=>by omega
  have V:Upd S h F:=H.wide.trans m fun x hx=>O hx
  refine⟨_,rfl,E,eA (i:=2) o3.blk,_,rfl,_,eA (i:=0) o3.blk,p.1,by rw[bO,bA D];rfl,p.2,by rw[bO,bA D];rfl,?_⟩
  have Y:=Upd.hnew No F [.string p.1,.string p.2] aB;have b4:=db F [.string p.1,.string p.2] aB;have z4:=ly F [.string p.1,.string p.2] aB;have P:=o3.upd Y fun _ h=>h.elim
  have fin:HC PG cV [.slice E.a E.len E.cap,.int .i64 (uL i d3),.slice (some (aD F)) 1 1] [.c .slice] (fun(N:SliceV) Z=>
       ∃a34:Addr,some (⟨C,0,none⟩:Addr)=some a34∧
       (Wr Z (adr (adr a34 0) 2)∧
        At (hset Z (adr (adr a34 0) 2) (.slice N.a N.len N.cap)) (fun h35=>
         ∃a36:Addr,some (⟨C,0,none⟩:Addr)=some a36∧
         ∃v37:Int,aR h35 (adr (adr a36 0) 0)=some (.int .u32 v37)∧
         HC PG fu [.int .u32 v37,.int .i64 i] [.c (.int .u32)] (fun(e38:Int) X=>
          ∃a40:Addr,some (⟨C,0,none⟩:Addr)=some a40∧
          (Wr X (adr (adr a40 0) 0)∧
           At (hset X (adr (adr a40 0) 0) (.int .u32 e38)) (fun h41=>
            K (some ⟨C,0,none⟩) h41))) h35))) (hnew F [.string p.1,.string p.2] aB):=by
   generalize hnew F [.string p.1,.string p.2] aB=h4 at Y b4 z4 P;rw[gf F];have hA4:=(hA3.upd Y fun _ _ h=>h).more (M':=fun x=>A3 x∨h4.size≤x) fun x hx=>.inl hx
   have hpn:(⟨upd s.p i none,upd s.k i none⟩:Slots).p i=none:=gD;refine Mp hA4 (T8 hi f.dp) (by have:=wJ (g:=(⟨upd s.p i none,upd s.k i none⟩:Slots).p);omega) (x:=p) b4 (fun e=>e.elim (fun e=>by have:=(j _ e).2.2.2;omega) fun e=>by omega) (fun x hx=>.inr hx) fun s5 h5 Q G=>?_
   rw[←Rb hi f.dp hpn p]at Q;have hbl:C<F.size:=aH o3.blk;have b5:=G.get P.blk fun e=>e.elim (fun e=>(j _ e).2.2.1 rfl) fun e=>by omega
   refine⟨_,rfl,Sy (i:=2) b5 (show 2<6 by decide),F6 (i:=2) (c':=fM d3 n3 s5 M false o) b5 rfl fun h6 b6 hu6=>?_⟩
   refine⟨_,rfl,_,eA (i:=0) b6,NC f.d32 hi fun w1 hw hwt=>?_⟩
   refine⟨_,rfl,Sy (i:=0) b6 (show 0<6 by decide),F6 (i:=0) (c':=fM w1 n3 s5 M false o) b6 rfl fun h7 b7 hu7=>?_⟩
   have u:=hu6.tr hu7;have z5:=G.size;have z7:=u.size;have ho5':=Q.within;have e1:(⟨upd (⟨upd s.p i none,upd s.k i none⟩:Slots).p i (some p),upd s.k i none⟩:Slots)=⟨upd s.p i (some p),upd s.k i none⟩:=by rw[ND]
   have o7:OwnN (fun x=>S x∨h1.size≤x) h7 C w1 n3 s5 M ⟨upd s.p i (some p),upd s.k i none⟩ o:=by
    rw[←e1];refine⟨b7,⟨hw,f.n32,fun c hc=>?_,f.nk⟩,⟨fun x=>(A3 x∨h4.size≤x)∧x<h5.size,B3,ho5'.upd u fun x hx e=>?_,((hB3.upd Y fun _ _ h=>h).upd G fun x hx e=>?_).upd u fun x hx e=>(k x hx).2.1 e,fun x hx=>⟨?_,?_,?_,by omega⟩,fun x hx=>⟨(k x hx).1,(k x hx).2.1,by have:=(k x hx).2.2;omega⟩⟩,v.mb⟩
    ·rw[hwt,f.dp c hc];simp only[upd];split<;>simp[*]
    ·have e:x=C:=e
     rcases hx.1 with h|h
     ·exact(j x h).2.2.1 e
     ·omega
    ·rcases e with e|e
     ·exact(j x e).2.1 hx
     ·have:=(k x hx).2.2;omega
    ·rcases hx.1 with h|h
     ·exact(j x h).1
     ·exact .inr (by omega)
    ·rcases hx.1 with h|h
     ·exact(j x h).2.1
     ·exact fun hb=>by have:=(k x hb).2.2;omega
    ·rcases hx.1 with h|h
     ·exact(j x h).2.2.1
     ·omega
   refine hk _ _ _ _ _ _ (o7.mono fun _=>O) (((V.tr Y.wide).trans G fun x hx=>?_).trans u fun x hx=>?_)
   ·rcases hx with h|h
    ·exact O (j x h).1
    ·exact .inr (by omega)
   ·have hx:x=C:=hx
    rw[hx];exact O v.mb
  refine⟨pW f.d32 hi ⟨⟨by rw[bO,bA D];rfl,by rw[bO,bA D];rfl⟩,eA (i:=2) o3.blk,bV ⟨eA (i:=2) P.blk,fin⟩⟩,bV ⟨eA (i:=0) P.blk,eA (i:=2) P.blk,pW f.d32 hi ⟨eA (i:=2) P.blk,fin⟩⟩⟩
theorem PB{W S:Nat→Prop}{h:ad}{w o:Option Addr}{b:Nat}{s:Slots}(g:NodeO o W h b s S)(t:By h w o)(m:∀a,o=some a→W a.block){i:Nat}(hi:i<32){K:Option Addr→ad→Prop}
  (j:∀h' b' d n sp sk,OwnN (fun y=>S y∨h.size≤y) h' b' d n sp sk ⟨upd s.p i none,upd s.k i none⟩ o→Upd S h h'→K (some ⟨b',0,none⟩) h'):
  HC PG lH [.pointer (some ⟨b,0,none⟩),.pointer w,.int .i64 i] [.c .ptr] K h:=by
 refine AR _ w i ?_;unfold th jp iR;refine EH (g.read t) hi (aj.2 ?_);refine Ij g t m fun B u d n sp sk q c=>⟨_,rfl,IC q hi fun v z A p k o3 f=>?_⟩
 exact j _ _ _ _ _ _ o3 (c.wide.trans f fun x hx=>hx)
set_option maxHeartbeats 1000000 in
theorem uP{W S:Nat→Prop}{h:ad}{w o:Option Addr}{b:Nat}{s:Slots}(nd:NodeO o W h b s S)(t:By h w o)(hW:∀a,o=some a→W a.block){i:Nat}(hi:i<32)(hx:∀y,s.k i=some y→s.p i=none)(kid:Addr){K:Option Addr→ad→Prop}
  (hk:∀h' b' d n sp sk,OwnN (fun y=>S y∨h.size≤y) h' b' d n sp sk ⟨upd s.p i none,upd s.k i (some (some kid))⟩ o→Upd S h h'→K (some ⟨b',0,none⟩) h'):
  HC PG gM [.pointer (some ⟨b,0,none⟩),.pointer w,.int .i64 i,.pointer (some kid)] [.c .ptr] K h:=by
 refine zh _ w i (some kid) ?_;unfold rT dH aM cp jp iR HS hG nN;refine aj.2 ?_;refine EH (nd.read t) hi (aj.2 ?_);refine Ij nd t hW fun h2 z d n sp sk q G=>?_
 have bits:=q.bits;have z2:=G.size;have zb:=aH q.blk;obtain⟨A,B,hA,hB,v,u⟩:=q.ex;refine⟨_,rfl,_,eA (i:=1) q.blk,BL bits.n32 hi ?_⟩;rw[bits.nk i hi];cases hp:s.k i with
 |some y=>
  refine ay.2 ⟨_,rfl,sk,eA (i:=3) q.blk,_,rfl,_,eA (i:=1) q.blk,?_⟩;refine pW bits.n32 hi ⟨eA (i:=3) q.blk,?_⟩;have hlt:=Hl hi bits.nk hp;obtain⟨a,ha,F,I,N,m⟩:=OwnS.setAt hB hlt (some kid);have hlen:=hB.len;refine⟨by omega,a,ha,?_⟩;rw[aO];have hw1:Wr h2 (adr a (uL i n*1)):=by
   rcases I with I|⟨b',X,I⟩
   ·cases I
   ·cases X;exact I 0 (by simp)
  refine⟨hw1,bV ?_⟩;rw[←Ra hi bits.nk hp]at N;have ob:=m.get q.blk fun e=>(u _ F).2.1 e.symm
  have z3:=m.size;have o3:OwnN (fun x=>S x∨h.size≤x) _ z d n sp sk ⟨upd s.p i none,upd s.k i (some (some kid))⟩ o:=⟨ob,⟨bits.d32,bits.n32,fun c hc=>by rw[bits.dp c hc,tX (hx y hp)],fun c hc=>by
    rw[bits.nk c hc];simp only[upd];split
    ·rename_i e;rw[e,hp];rfl
    ·rfl⟩,
   ⟨A,B,by rw[tX (hx y hp)];exact hA.upd m fun x hx e=>(v _ hx).2.1 (e▸F),N,fun x hx=>⟨(v x hx).1,(v x hx).2.1,(v x hx).2.2.1,by have:=(v x hx).2.2.2;omega⟩,fun x hx=>⟨(u x hx).1,(u x hx).2.1,by have:=(u x hx).2.2;omega⟩⟩,q.mb⟩
  refine hk _ _ _ _ _ _ o3 (G.wide.trans m fun x hx=>?_)
  have hx:x=a.block:=hx;rw[hx];exact(u _ F).1
 |none=>
  refine aj.2 ⟨_,rfl,IC q hi fun C d3 n3 H D o3 m=>?_⟩
  have f:=o3.bits;obtain⟨A3,B3,hA3,hB3,j,k⟩:=o3.ex;have z3:=m.size;have O:Upd S h C:=G.wide.trans m fun x hx=>hx
  refine⟨_,rfl,D,eA (i:=3) o3.blk,_,rfl,_,eA (i:=1) o3.blk,?_⟩;have Q:=Upd.hnew No C [.pointer (some kid)] bM;have b4:=db C [.pointer (some kid)] bM;have z4:=ly C [.pointer (some kid)] bM;have L:=o3.upd Q fun _ h=>h.elim
  have fin:HC PG cM [.slice D.a D.len D.cap,.int .i64 (uL i n3),.slice (some (aD C)) 1 1] [.c .slice] (fun(J:SliceV) R=>
       ∃a34:Addr,some (⟨z,0,none⟩:Addr)=some a34∧
       (Wr R (adr (adr a34 0) 3)∧
        At (hset R (adr (adr a34 0) 3) (.slice J.a J.len J.cap)) (fun T=>
         ∃a36:Addr,some (⟨z,0,none⟩:Addr)=some a36∧
         ∃v37:Int,aR T (adr (adr a36 0) 1)=some (.int .u32 v37)∧
         HC PG fu [.int .u32 v37,.int .i64 i] [.c (.int .u32)] (fun(e38:Int) P=>
          ∃a40:Addr,some (⟨z,0,none⟩:Addr)=some a40∧
          (Wr P (adr (adr a40 0) 1)∧
           At (hset P (adr (adr a40 0) 1) (.int .u32 e38)) (fun Z=>
            K (some ⟨z,0,none⟩) Z))) T))) (hnew C [.pointer (some kid)] bM):=by
   generalize hnew C [.pointer (some kid)] bM=h4 at Q b4 z4 L;rw[gf C];have hB4:=(hB3.upd Q fun _ _ h=>h).more (M':=fun x=>B3 x∨h4.size≤x) fun x hx=>.inl hx
   have Y:(⟨upd s.p i none,upd s.k i none⟩:Slots).k i=none:=gD;refine Mq hB4 (T8 hi f.nk) (by have:=wJ (g:=(⟨upd s.p i none,upd s.k i none⟩:Slots).k);omega) (x:=some kid) b4 (fun e=>e.elim (fun e=>by have:=(k _ e).2.2;omega) fun e=>by omega) (fun x hx=>.inr hx) fun s5 h5 M E=>?_
   rw[←Rb hi f.nk Y (some kid)]at M;have hbl:z<C.size:=aH o3.blk;have b5:=E.get L.blk fun e=>e.elim (fun e=>(k _ e).2.1 rfl) fun e=>by omega
   refine⟨_,rfl,Sy (i:=3) b5 (show 3<6 by decide),F6 (i:=3) (c':=fM d3 n3 H s5 false o) b5 rfl fun h6 b6 hu6=>?_⟩
   refine⟨_,rfl,_,eA (i:=1) b6,NC f.n32 hi fun w1 I hwt=>?_⟩
   refine⟨_,rfl,Sy (i:=1) b6 (show 1<6 by decide),F6 (i:=1) (c':=fM d3 w1 H s5 false o) b6 rfl fun h7 b7 hu7=>?_⟩
   have p:=hu6.tr hu7;have z5:=E.size;have z7:=p.size;have V:=M.within;have e1:(⟨upd s.p i none,upd (⟨upd s.p i none,upd s.k i none⟩:Slots).k i (some (some kid))⟩:Slots)=⟨upd s.p i none,upd s.k i (some (some kid))⟩:=by rw[ND]
   have o7:OwnN (fun x=>S x∨h.size≤x) h7 z d3 w1 H s5 ⟨upd s.p i none,upd s.k i (some (some kid))⟩ o:=by
    rw[←e1];refine⟨b7,⟨f.d32,I,f.dp,fun c hc=>?_⟩,⟨A3,fun x=>(B3 x∨h4.size≤x)∧x<h5.size,((hA3.upd Q fun _ _ h=>h).upd E fun x hx e=>?_).upd p fun x hx e=>(j x hx).2.2.1 e,V.upd p fun x hx e=>?_,fun x hx=>⟨(j x hx).1,?_,(j x hx).2.2.1,by have:=(j x hx).2.2.2;omega⟩,fun x hx=>⟨?_,?_,by omega⟩⟩,q.mb⟩
    ·rw[hwt,f.nk c hc];simp only[upd];split<;>simp[*]
    ·rcases e with e|e
     ·exact(j x hx).2.1 e
     ·have:=(j x hx).2.2.2;omega
    ·have e:x=z:=e
     rcases hx.1 with h|h
     ·exact(k x h).2.1 e
     ·omega
    ·rintro⟨h|h,_⟩
     ·exact(j x hx).2.1 h
     ·have:=(j x hx).2.2.2;omega
    ·rcases hx.1 with h|h
     ·exact(k x h).1
     ·exact .inr (by omega)
    ·rcases hx.1 with h|h
     ·exact(k x h).2.1
     ·omega
   refine hk _ _ _ _ _ _ o7 (((O.tr Q.wide).trans E fun x hx=>?_).trans p fun x hx=>?_)
   ·rcases hx with h|h
    ·exact(k x h).1
    ·exact .inr (by omega)
   ·have hx:x=z:=hx
    rw[hx];exact q.mb
  refine⟨pW f.n32 hi ⟨eA (i:=3) o3.blk,bV ⟨eA (i:=3) L.blk,fin⟩⟩,bV ⟨eA (i:=1) L.blk,eA (i:=3) L.blk,pW f.n32 hi ⟨eA (i:=3) L.blk,fin⟩⟩⟩
end Go.Proofs
namespace Go.Proofs
open Go.Lift
def OwnB(M:Nat→Prop)(h:ad)(b:Nat)(sp sk:SliceV)(l:List Pr)(o:Option Addr):Prop:=
 h[b]? =some (.cells (fM 0 0 sp sk true o) bQ (0,0))∧M b∧∃A B:Nat→Prop,OwnS ge 2 aB A h sp l∧OwnS qu 1 bM B h sk []∧(∀x,A x→M x∧x≠b∧x<h.size)∧(∀x,B x→M x∧x≠b∧x<h.size)
theorem OwnB.upd{M M':Nat→Prop}{h g:ad}{b:Nat}{sp sk:SliceV}{l:List Pr}{o:Option Addr}(n:OwnB M h b sp sk l o)(k:Upd M' h g)(hm:∀x,M' x→¬M x):OwnB M g b sp sk l o:=by
 obtain⟨j,f,A,B,i,m,a,c⟩:=n;have z:=k.size;exact⟨k.get j fun hx=>hm _ hx f,f,A,B,i.upd k fun x hx d=>hm _ d (a x hx).1,m.upd k fun x hx d=>hm _ d (c x hx).1,fun x hx=>⟨(a x hx).1,(a x hx).2.1,by have:=(a x hx).2.2;omega⟩,fun x hx=>⟨(c x hx).1,(c x hx).2.1,by have:=(c x hx).2.2;omega⟩⟩
theorem OwnB.mono{M M':Nat→Prop}{h:ad}{b:Nat}{sp sk:SliceV}{l:List Pr}{o:Option Addr}(n:OwnB M h b sp sk l o)(hm:∀x,M x→M' x):OwnB M' h b sp sk l o:=by
 obtain⟨f,i,A,B,d,g,a,c⟩:=n;exact⟨f,hm _ i,A,B,d,g,fun x hx=>⟨hm _ (a x hx).1,(a x hx).2⟩,fun x hx=>⟨hm _ (c x hx).1,(c x hx).2⟩⟩
theorem OwnB.within{M:Nat→Prop}{h:ad}{b:Nat}{sp sk:SliceV}{l:List Pr}{o:Option Addr}(n:OwnB M h b sp sk l o):OwnB (fun x=>M x∧x<h.size) h b sp sk l o:=by
 obtain⟨d,i,A,B,f,g,a,c⟩:=n;exact⟨d,⟨i,aH d⟩,A,B,f,g,fun x hx=>⟨⟨(a x hx).1,(a x hx).2.2⟩,(a x hx).2⟩,fun x hx=>⟨⟨(c x hx).1,(c x hx).2.2⟩,(c x hx).2⟩⟩
theorem OwnB.buck{M W:Nat→Prop}{h:ad}{b:Nat}{sp sk:SliceV}{l:List Pr}{o:Option Addr}(n:OwnB M h b sp sk l o)(a:∀x,M x→¬W x)(g:OwOk W h o):BuckAt W h b l:=by
 obtain⟨i,k,A,B,c,d,f,j⟩:=n;exact⟨⟨sp,sk,o,i,c.sl fun x hx _=>a _ (f x hx).1,d.sl fun x hx _=>a _ (j x hx).1,c.cap,d.cap,g⟩,a _ k⟩
def BuckO(o:Option Addr)(W:Nat→Prop)(h:ad)(b:Nat)(l:List Pr)(S:Nat→Prop):Prop:=
 (BuckAt W h b l∧∀y,¬S y)∨(o.isSome=true∧∃sp sk,OwnB S h b sp sk l o)
theorem BuckO.upd0{o:Option Addr}{W S:Nat→Prop}{h a:ad}{b:Nat}{l:List Pr}(n:BuckO o W h b l S)(k:Upd No h a):BuckO o W a b l S:=
 n.imp (fun n=>⟨n.1.upd k fun _ h=>h.elim,n.2⟩) fun⟨e,sp,sk,c⟩=>⟨e,sp,sk,c.upd k fun _ h=>h.elim⟩
theorem BuckO.read{o w:Option Addr}{W S:Nat→Prop}{h:ad}{b:Nat}{l:List Pr}(c:BuckO o W h b l S)(t:By h w o):BuckAt No h b l:=by
 rcases c with⟨n,_⟩|⟨e,sp,sk,d⟩
 ·exact n.less fun _ h=>h.elim
 ·exact d.buck (fun _ _ h=>h) fun a e=>⟨id,t.plain a (t.tok e)⟩
theorem Kb{W S:Nat→Prop}{h:ad}{w o:Option Addr}{b:Nat}{l:List Pr}(g:BuckO o W h b l S)(t:By h w o)(H:∀a,o=some a→W a.block)(D:l.length≤1000000000){K:Option Addr→ad→Prop}
  (C:∀i m sp sk,OwnB (fun y=>S y∨h.size≤y) i m sp sk l o→Upd No h i→K (some ⟨m,0,none⟩) i):
  HC PG fe [.pointer (some ⟨b,0,none⟩),.pointer w] [.c .ptr] K h:=by
 rcases g with⟨g,_⟩|⟨z,sp,sk,g⟩
 ·obtain⟨sp,sk,ow,E,s,q,I,F,j⟩:=g.ex
  refine NW (d:=0) (n:=0) t E (fun a e=>(j a e).2) ?_ s q D (by simp) fun i p u A B m J G c f k=>?_
  ·cases ho:o with
   |none=>rfl
   |some a=>
    have e:=t.tok ho;rw[Option.isSome_some,Bool.true_and,beq_eq_false_iff_ne];intro v;rw[e]at v;exact(j a v).1 (H a ho)
  ·exact C i h.size p u ⟨m,.inr (ao _),A,B,J,G,fun x hx=>⟨.inr (by have:=(c x hx).1;omega),by have:=(c x hx).1;omega,(c x hx).2.2⟩,fun x hx=>⟨.inr (by have:=(f x hx).1;omega),by have:=(f x hx).1;omega,(f x hx).2⟩⟩ k
 ·refine NV (d:=0) (n:=0) t g.1 (fun a e=>t.plain a (t.tok e)) ?_ (C h b sp sk (g.mono fun _ h=>.inl h) (Upd.refl _ _))
  obtain⟨a,e⟩:=Option.isSome_iff_exists.1 z;rw[z,e,t.tok e];simp
theorem E7{W S:Nat→Prop}{h:ad}{w o:Option Addr}{b:Nat}{l:List Pr}(X:BuckO o W h b l S)(t:By h w o)(N:∀a,o=some a→W a.block)(hS:∀y,S y→y<h.size)(C:cA l)(v:l.length≤1000000000)(p:Pr){K:Option Addr→ad→Prop}
  (R:∀h' b' sp sk,OwnB (fun y=>S y∨h.size≤y) h' b' sp sk (ix p l) o→Upd S h h'→K (some ⟨b',0,none⟩) h'):
  HC PG kX [.pointer (some ⟨b,0,none⟩),.pointer w,.agg #[.string p.1,.string p.2]] [.c .ptr] K h:=by
 refine Di _ w p ?_;unfold vU aG aM cp qK tZ jp;have k1:=Upd.hnew No h [.string p.1,.string p.2] aB;have b1:=db h [.string p.1,.string p.2] aB;refine bV ?_;simp only[gf h];generalize hnew h [.string p.1,.string p.2] aB=h1 at k1 b1;have z1:=aH b1;have q:=X.upd0 k1;have D:=t.upd0 k1;obtain⟨sp,sk,ow,H,M,G,V,J⟩:=(q.read D).ex
 refine gt (d:=0) (n:=0) H (aj.2 ?_);refine Kb q D N v fun O s s2 z P j=>?_
 obtain⟨b2,hM,A,B,E,L,Z,g⟩:=P;have m:=j.get0 b1;refine⟨_,rfl,s2,eA (i:=2) b2,p.1,by rw[bO,bA m];rfl,p.2,by rw[bO,bA m];rfl,?_⟩
 refine L4 (E.sl (W:=No) fun _ _ _ h=>h) E.cap C v p fun s3 T k f=>?_
 rw[N5 p C]at k;have b3:=f.get0 b2;refine⟨_,rfl,Sy (i:=2) b3 (show 2<6 by decide),F6 (i:=2) (c':=fM 0 0 s3 z true o) b3 rfl fun Q I c=>?_⟩
 have z2:=aH b2;have F:=j.size;have Y:=f.size;have z4:=c.size;have u:∀{x},(S x∨h1.size≤x)→(S x∨h.size≤x):=fun h=>h.imp id fun h=>by omega
 refine R Q s s3 z ⟨I,u hM,fun x=>O.size≤x∧x<T.size,B,k.within.upd c fun x hx e=>?_,(L.upd f fun _ _ h=>h).upd c fun x hx e=>(g x hx).2.1 e,fun x hx=>⟨.inr (by omega),by omega,by omega⟩,fun x hx=>⟨u (g x hx).1,(g x hx).2.1,by have:=(g x hx).2.2;omega⟩⟩ ((((k1.tr j).tr f).wide).trans c fun x hx=>?_)
 ·have e:x=s:=e
  have:=hx.1;omega
 ·have hx:x=s:=hx
  rw[hx];exact u hM
def TrieO(o:Option Addr)(W:Nat→Prop)(x:Hs)(h:ad):Nat→Nat→List Pr→(Nat→Prop)→Prop
 |0,b,l,S=>BuckO o W h b l S
 |m+1,b,l,S=>(TrieAt W x h (m+1) b l∧∀y,¬S y)∨(o.isSome=true∧∃(s:Slots) (d n:Nat) (sp sk:SliceV) (S0:Nat→Prop) (T:Nat→Nat→Prop),OwnN S0 h b d n sp sk s o∧(∀y,S0 y→S y)∧(∀c y,T c y→S y∧¬S0 y)∧(∀c c' y,T c y→T c' y→c=c')∧∀c,c<32→
  ((part x (12-m) c l= []∧s.p c=none∧s.k c=none∧∀y,¬T c y)∨(∃p,part x (12-m) c l= [p]∧s.p c=some p∧s.k c=none∧∀y,¬T c y)∨
   (2≤(part x (12-m) c l).length∧s.p c=none∧∃kb,s.k c=some (some ⟨kb,0,none⟩)∧TrieO o W x h m kb (part x (12-m) c l) (T c))))
def SlotO(o:Option Addr)(W:Nat→Prop)(x:Hs)(h:ad)(m:Nat)(s:Slots)(c:Nat)(l:List Pr)(T:Nat→Prop):Prop:=
 (l= []∧s.p c=none∧s.k c=none∧∀y,¬T y)∨(∃p,l= [p]∧s.p c=some p∧s.k c=none∧∀y,¬T y)∨(2≤l.length∧s.p c=none∧∃kb,s.k c=some (some ⟨kb,0,none⟩)∧TrieO o W x h m kb l T)
theorem Jv{o:Option Addr}{W:Nat→Prop}{x:Hs}{h:ad}:∀{m b:Nat} {l:List Pr},TrieAt W x h m b l→TrieO o W x h m b l No
 |0,_,_,t=>.inl ⟨t,fun _ h=>h⟩
 |_+1,_,_,t=>.inl ⟨t,fun _ h=>h⟩
theorem TrieO.freeze{o:Option Addr}{W W':Nat→Prop}{x:Hs}{h:ad}(i:∀y,W' y→W y)(f:OwOk W' h o):∀{m b:Nat} {l:List Pr} {S:Nat→Prop},TrieO o W x h m b l S→(∀y,S y→¬W' y)→TrieAt W' x h m b l
 |0,_,_,_,t,hS=>t.elim (fun t=>t.1.less fun y a=>.inl (i y a)) fun⟨_,_,_,t⟩=>t.buck hS f
 |m+1,b,l,S,t,hS=>by
  rcases t with⟨t,_⟩|⟨_,s,d,n,sp,sk,B,T,A,w,u,_,hc⟩
  ·exact TrieAt.less (fun y a=>.inl (i y a)) t
  ·exact⟨s,A.node (fun y a=>hS y (w y a)) f,fun c k=>(hc c k).imp (fun h=>⟨h.1,h.2.1,h.2.2.1⟩) fun o=>o.imp (fun⟨p,g,q,j,_⟩=>⟨p,g,q,j⟩) fun⟨g,q,z,j,v⟩=>⟨g,q,z,j,TrieO.freeze i f v fun y a=>hS y (u c y a).1⟩⟩
theorem TrieO.read{o w:Option Addr}{W S:Nat→Prop}{x:Hs}{h:ad}{m b:Nat}{l:List Pr}(t:TrieO o W x h m b l S)(by_:By h w o):TrieAt No x h m b l:=
 TrieO.freeze (fun _ h=>h.elim) (fun a e=>⟨id,by_.plain a (by_.tok e)⟩) t fun _ _ h=>h
theorem TrieO.off{W S:Nat→Prop}{x:Hs}{h:ad}{m b:Nat}{l:List Pr}(t:TrieO none W x h m b l S):TrieAt W x h m b l∧∀y,¬S y:=by
 cases m with
 |zero=>exact t.elim id fun h=>absurd h.1 (by simp)
 |succ m=>exact t.elim id fun h=>absurd h.1 (by simp)
theorem TrieO.upd{o:Option Addr}{W M:Nat→Prop}{x:Hs}{h p:ad}(k:Upd M h p):∀{m b:Nat} {l:List Pr} {S:Nat→Prop},TrieO o W x h m b l S→(∀y,S y→y<h.size)→(∀y,M y→(W y∧¬S y)∨h.size≤y)→TrieO o W x p m b l S
 |0,_,_,S,t,hS,hm=>t.imp (fun t=>⟨t.1.upd k fun y a=>(hm y a).imp (fun h=>h.1) id,t.2⟩) fun⟨e,sp,sk,t⟩=>⟨e,sp,sk,t.upd k fun y a f=>by
   have:=hS y f
   rcases hm y a with h|h
   ·exact h.2 f
   ·omega⟩
 |m+1,b,l,S,t,hS,hm=>by
  rcases t with⟨t,e⟩|⟨e,s,d,n,sp,sk,A,T,C,i,g,hd,hc⟩
  ·exact .inl ⟨TrieAt.updM k (fun y a=>(hm y a).imp (fun h=>h.1) id) t,e⟩
  ·refine .inr ⟨e,s,d,n,sp,sk,A,T,C.upd k fun y a f=>?_,i,g,hd,fun c j=>(hc c j).imp id fun o=>o.imp id fun⟨w,B,u,z,q⟩=>⟨w,B,u,z,TrieO.upd k q (fun y a=>hS y (g c y a).1) fun y a=>(hm y a).imp (fun h=>⟨h.1,fun v=>h.2 (g c y v).1⟩) id⟩⟩
   have:=hS y (i y f);rcases hm y a with h|h
   ·exact h.2 (i y f)
   ·omega
theorem TrieO.upd0{o:Option Addr}{W:Nat→Prop}{x:Hs}{h f:ad}(k:Upd No h f):∀{m b:Nat} {l:List Pr} {S:Nat→Prop},TrieO o W x h m b l S→TrieO o W x f m b l S
 |0,_,_,_,t=>BuckO.upd0 t k
 |m+1,b,l,S,t=>by
  rcases t with⟨t,e⟩|⟨e,s,d,n,sp,sk,w,T,j,p,g,hd,hc⟩
  ·exact .inl ⟨TrieAt.upd0 k t,e⟩
  ·exact .inr ⟨e,s,d,n,sp,sk,w,T,j.upd k fun _ h=>h.elim,p,g,hd,fun c a=>(hc c a).imp id fun o=>o.imp id fun⟨u,y,q,v,i⟩=>⟨u,y,q,v,TrieO.upd0 k i⟩⟩
theorem TrieO.less{o:Option Addr}{W W':Nat→Prop}{x:Hs}{h:ad}(hm:∀y,W' y→W y∨h.size≤y):∀{m b:Nat} {l:List Pr} {S:Nat→Prop},TrieO o W x h m b l S→TrieO o W' x h m b l S
 |0,_,_,_,t=>t.imp (fun t=>⟨t.1.less hm,t.2⟩) id
 |m+1,b,l,S,t=>by
  rcases t with⟨t,e⟩|⟨e,s,d,n,sp,sk,q,T,v,i,f,hd,hc⟩
  ·exact .inl ⟨TrieAt.less hm t,e⟩
  ·exact .inr ⟨e,s,d,n,sp,sk,q,T,v,i,f,hd,fun c a=>(hc c a).imp id fun o=>o.imp id fun⟨k,u,j,p,g⟩=>⟨k,u,j,p,TrieO.less hm g⟩⟩
theorem SlotO.upd{o:Option Addr}{W M:Nat→Prop}{x:Hs}{h a:ad}(k:Upd M h a){m:Nat}{s:Slots}{c:Nat}{l:List Pr}{T:Nat→Prop}(t:SlotO o W x h m s c l T)(d:∀y,T y→y<h.size)(hm:∀y,M y→(W y∧¬T y)∨h.size≤y):SlotO o W x a m s c l T:=
 t.imp id fun o=>o.imp id fun⟨g,j,f,i,b⟩=>⟨g,j,f,i,TrieO.upd k b d hm⟩
theorem SlotO.less{o:Option Addr}{W W':Nat→Prop}{x:Hs}{h:ad}(hm:∀y,W' y→W y∨h.size≤y){m:Nat}{s:Slots}{c:Nat}{l:List Pr}{T:Nat→Prop}(t:SlotO o W x h m s c l T):SlotO o W' x h m s c l T:=
 t.imp id fun o=>o.imp id fun⟨d,g,b,f,a⟩=>⟨d,g,b,f,TrieO.less hm a⟩
theorem SlotO.turn{o:Option Addr}{W:Nat→Prop}{x:Hs}{h:ad}{m:Nat}{s s':Slots}{c:Nat}{l:List Pr}{T:Nat→Prop}(t:SlotO o W x h m s c l T)(a:s'.p c=s.p c)(b:s'.k c=s.k c):SlotO o W x h m s' c l T:=by
 unfold SlotO at t⊢;rw[a,b];exact t
theorem TrieO.view{o:Option Addr}{W S:Nat→Prop}{x:Hs}{h:ad}{m b:Nat}{l:List Pr}(t:TrieO o W x h (m+1) b l S):
  ∃(s:Slots) (a:Nat→Prop) (T:Nat→Nat→Prop),NodeO o W h b s a∧(∀y,a y→S y)∧(∀c y,T c y→S y∧¬a y)∧(∀c c' y,T c y→T c' y→c=c')∧∀c,c<32→SlotO o W x h m s c (part x (12-m) c l) (T c):=by
 rcases t with⟨⟨s,w,hc⟩,e⟩|⟨e,s,d,n,sp,sk,a,T,z,u,k,hd,hc⟩
 ·exact⟨s,No,fun _=>No,.inl ⟨w,fun _ h=>h⟩,fun _ h=>h.elim,fun _ _ h=>h.elim,fun _ _ _ h=>h.elim,fun c i=>(hc c i).imp (fun h=>⟨h.1,h.2.1,h.2.2,fun _ h=>h⟩) fun o=>o.imp (fun⟨p,f,j,g⟩=>⟨p,f,j,g,fun _ h=>h⟩) fun⟨f,j,v,g,q⟩=>⟨f,j,v,g,Jv q⟩⟩
 ·exact⟨s,a,T,.inr ⟨e,d,n,sp,sk,z⟩,u,k,hd,hc⟩
theorem GJ{o:Option Addr}{W k:Nat→Prop}{T:Nat→Nat→Prop}{x:Hs}{j:ad}{m u d n z:Nat}{sp sk:SliceV}{s':Slots}{l':List Pr}(v:OwnN (fun y=>k y∨z≤y) j u d n sp sk s' o)
  (hc:∀c,c<32→SlotO o W x j m s' c (part x (12-m) c l') (T c))(w:∀c y,T c y→y<z∧¬k y)(hd:∀c c' y,T c y→T c' y→c=c')(E:o=none→(∀y,¬k y)∧∀y,W y→y<z):
  TrieO o W x j (m+1) u l' (fun y=>o.isSome=true∧(((k y∨z≤y)∧y<j.size)∨∃c,c<32∧T c y)):=by
 cases o with
 |none=>
  obtain⟨C,B⟩:=E rfl;refine .inl ⟨⟨s',v.node (fun y f q=>?_) lw,fun c b=>?_⟩,fun y f=>by simp at f⟩
  ·have:=B y q
   rcases f with h|h
   ·exact C y h
   ·omega
  ·exact(hc c b).imp (fun h=>⟨h.1,h.2.1,h.2.2.1⟩) fun o=>o.imp (fun⟨p,i,g,s,_⟩=>⟨p,i,g,s⟩) fun⟨i,g,D,s,A⟩=>⟨i,g,D,s,A.off.1⟩
 |some a=>
  refine .inr ⟨rfl,s',d,n,sp,sk,fun y=>(k y∨z≤y)∧y<j.size,fun c y=>c<32∧T c y,v.within,fun y f=>⟨rfl,.inl f⟩,fun c y f=>⟨⟨rfl,.inr ⟨c,f⟩⟩,fun h=>?_⟩,fun c c' y i g=>hd c c' y i.2 g.2,fun c b=>?_⟩
  ·obtain⟨i,g⟩:=w c y f.2
   rcases h.1 with h|h
   ·exact g h
   ·omega
  ·have e:(fun y=>c<32∧T c y)=T c:=funext fun y=>propext ⟨fun h=>h.2,fun h=>⟨b,h⟩⟩
   have:=hc c b;unfold SlotO at this;rw[←e]at this;exact this
end Go.Proofs
namespace Go.Proofs
open Go.Lift
theorem Pf{o:Option Addr}{W g:Nat→Prop}{c:ad}{i d n z:Nat}{sp sk:SliceV}{s':Slots}(j:OwnN (fun y=>g y∨z≤y) c i d n sp sk s' o)(p:o=none→(∀y,¬g y)∧∀y,W y→y<z):
  NodeO o W c i s' (fun y=>o.isSome=true∧(g y∨z≤y)∧y<c.size):=by
 cases o with
 |none=>
  obtain⟨m,k⟩:=p rfl;refine .inl ⟨j.node (fun y b f=>?_) lw,fun y b=>by simp at b⟩
  have:=k y f;rcases b with h|h
  ·exact m y h
  ·omega
 |some a=>exact .inr ⟨rfl,d,n,sp,sk,j.within.mono fun y b=>⟨rfl,b⟩⟩
theorem xI{o:Option Addr}{W d:Nat→Prop}{f:ad}{i z:Nat}{sp sk:SliceV}{l:List Pr}(g:OwnB (fun y=>d y∨z≤y) f i sp sk l o)(m:o=none→(∀y,¬d y)∧∀y,W y→y<z):
  BuckO o W f i l (fun y=>o.isSome=true∧(d y∨z≤y)∧y<f.size):=by
 cases o with
 |none=>
  obtain⟨k,j⟩:=m rfl;refine .inl ⟨g.buck (fun y b c=>?_) lw,fun y b=>by simp at b⟩
  have:=j y c;rcases b with h|h
  ·exact k y h
  ·omega
 |some a=>exact .inr ⟨rfl,sp,sk,g.within.mono fun y b=>⟨rfl,b⟩⟩
def SN(o:Option Addr)(a:Nat→Prop)(z:Nat)(b:ad)(T:Nat→Nat→Prop)(y:Nat):Prop:=o.isSome=true∧(((a y∨z≤y)∧y<b.size)∨∃c,c<32∧T c y)
def sT(T:Nat→Nat→Prop)(i:Nat)(S:Nat→Prop)(c:Nat):Nat→Prop:=if c=i then S else T c
theorem zN{T:Nat→Nat→Prop}{i:Nat}{S:Nat→Prop}:sT T i S i=S:=if_pos rfl
theorem rv{T:Nat→Nat→Prop}{i c:Nat}{S:Nat→Prop}(h:c≠i):sT T i S c=T c:=if_neg h
theorem MW{o:Option Addr}{S f T':Nat→Prop}{z z0 c0:Nat}{a:ad}{T:Nat→Nat→Prop}(i:∀y,f y→S y)(d:∀c y,T c y→S y∧y<a.size)(b:∀y,T' y→(S y∨z0≤y)∧y<a.size)(hz:z0≤z){y:Nat}(j:SN o f z a (sT T c0 T') y):(S y∨z0≤y)∧y<a.size:=by
 rcases j.2 with⟨h|h,g⟩|⟨c,_,h⟩
 ·exact⟨.inl (i y h),g⟩
 ·exact⟨.inr (Nat.le_trans hz h),g⟩
 ·by_cases e:c=c0
  ·subst e;rw[zN]at h;exact b y h
  ·rw[rv e]at h;exact⟨.inl (d c y h).1,(d c y h).2⟩
theorem yD{o:Option Addr}{W W1 f T':Nat→Prop}{T:Nat→Nat→Prop}{x:Hs}{hz g:ad}{m D d n c0:Nat}{sp sk:SliceV}{s s':Slots}{l':List Pr}
  (G:OwnN (fun y=>f y∨hz.size≤y) g D d n sp sk s' o)(H:Upd f hz g)(E:∀c,c<32→c≠c0→SlotO o W1 x hz m s c (part x (12-m) c l') (T c))(A:∀c,c≠c0→s'.p c=s.p c∧s'.k c=s.k c)
  (hi:SlotO o W1 x hz m s' c0 (part x (12-m) c0 l') T')(k:∀y,W y→W1 y)(q:∀y,f y→W1 y)(v:∀c y,T c y→W1 y)(u:∀y,T' y→W1 y)(z:∀c y,T c y→y<hz.size∧¬f y)(b:∀y,T' y→y<hz.size∧¬f y∧∀c,c≠c0→¬T c y)
  (hd:∀c c' y,T c y→T c' y→c=c')(B:o=none→(∀y,¬f y)∧∀y,W1 y→y<hz.size):
  TrieO o (fun y=>W y∨SN o f hz.size g (sT T c0 T') y) x g (m+1) D l' (SN o f hz.size g (sT T c0 T')):=by
 have p:∀c y,sT T c0 T' c y→W1 y∧y<hz.size∧¬f y:=fun c y h=>by
  by_cases e:c=c0
  ·subst e;rw[zN]at h;exact⟨u y h,(b y h).1,(b y h).2.1⟩
  ·rw[rv e]at h;exact⟨v c y h,z c y h⟩
 have F:∀y,(W y∨SN o f hz.size g (sT T c0 T') y)→(W1 y∨hz.size≤y):=fun y a=>by
  rcases a with h|⟨_,⟨h|h,_⟩|⟨c,_,h⟩⟩
  ·exact .inl (k y h)
  ·exact .inl (q y h)
  ·exact .inr h
  ·exact .inl (p c y h).1
 have w:∀{s:Slots} {c:Nat} {l:List Pr} {U:Nat→Prop},SlotO o W1 x hz m s c l U→(∀y,U y→y<hz.size∧¬f y)→SlotO o (fun y=>W y∨SN o f hz.size g (sT T c0 T') y) x g m s c l U:=fun t C=>
  ((t.less (W':=fun y=>W1 y∨hz.size≤y) fun y a=>a).upd H (fun y a=>(C y a).1) fun y a=>.inl ⟨.inl (q y a),fun h=>(C y h).2 a⟩).less fun y a=>.inl (F y a)
 refine GJ G (fun c hc=>?_) (fun c y h=>(p c y h).2) (fun c c' y j i=>?_) fun e=>⟨(B e).1,fun y a=>?_⟩
 ·by_cases e:c=c0
  ·subst e;rw[zN];exact w hi fun y a=>⟨(b y a).1,(b y a).2.1⟩
  ·rw[rv e];exact(w (E c hc e) fun y a=>z c y a).turn (A c e).1 (A c e).2
 ·by_cases e:c=c0<;>by_cases e':c'=c0
  ·omega
  ·subst e;rw[zN]at j;rw[rv e']at i;exact absurd i ((b y j).2.2 c' e')
  ·subst e';rw[zN]at i;rw[rv e]at j;exact absurd j ((b y i).2.2 c e)
  ·rw[rv e]at j;rw[rv e']at i;exact hd c c' y j i
 ·rcases a with h|⟨h,_⟩
  ·exact(B e).2 y (k y h)
  ·rw[e]at h;cases h
abbrev Qb(x:Hs)(w:Option Addr)(k:ByteArray):Value:=.agg #[.int .u64 x.k0,.int .u64 x.k1,.int .u64 x.mask,.pointer w,.string k,.int .u64 (l9 x k)]
set_option maxHeartbeats 1000000 in
theorem RQ{W:Nat→Prop}{x:Hs}{w o:Option Addr}:∀(m:Nat) (p q:Pr),m≤13→p.1≠q.1→∀{h:ad},(∀y,W y→y<h.size)→By h w o→(∀a,o=some a→W a.block)→∀{K:Option Addr→ad→Prop},(∀h' b' S',TrieO o (fun y=>W y∨S' y) x h' m b' (ix q [p]) S'→(∀y,S' y→h.size≤y∧y<h'.size)→Upd No h h'→K (some ⟨b',0,none⟩) h')→
  HC PG lK [Qb x w q.1,.agg #[.string p.1,.string p.2],.agg #[.string q.1,.string q.2],.int .i64 ((13-m:Nat):Int)] [.c .ptr] K h:=by
 intro m;induction m with
 |zero=>
  intro p q _ V h hW t G K hk;have L:∀{h'},Upd No h h'→∀y,W y→y<h'.size:=fun k y g=>bP (hW y g) k.size
  refine sQ (x.k0,x.k1,x.mask,w,q.1,l9 x q.1) p q ((13-0:Nat):Int) ?_;unfold o5 ah bS aI aG vH qK tZ yB Ii lR DU;refine aJ fun h1 b1 k1=>aJ fun h2 b2 k2=>aJ fun N b3 Z=>?_
  have j:=(k1.tr k2).tr Z;have v:∀{h':ad},Upd No N h'→∀i,aR h' (adr ⟨h.size,0,none⟩ i)=(#[.int .u64 x.k0,.int .u64 x.k1,.int .u64 x.mask,.pointer w,.string q.1,.int .u64 (l9 x q.1)]:Array Value)[i]?:=fun k i=>by
   rw[bO,bA (k.get0 (Z.get0 (k2.get0 b1))),aL]
  have H:∀{h':ad},Upd No N h'→∀i,aR h' (adr ⟨h1.size,0,none⟩ i)=(#[.string p.1,.string p.2]:Array Value)[i]?:=fun k i=>by rw[bO,bA (k.get0 (Z.get0 b2)),aL]
  have E:∀{h':ad},Upd No N h'→∀i,aR h' (adr ⟨h2.size,0,none⟩ i)=(#[.string q.1,.string q.2]:Array Value)[i]?:=fun k i=>by rw[bO,bA (k.get0 b3),aL]
  have r:=Upd.refl No N;have z03:=j.size;refine ay.2 ⟨w,v r 3,p.1,H r 0,p.2,H r 1,w,v r 3,q.1,E r 0,q.2,E r 1,?_⟩;refine PH (L j) fun h4 b4 bk4 f=>⟨⟨E f 0,E f 1⟩,v f 3,⟨H f 0,H f 1⟩,v f 3,?_⟩
  have t4:=t.upd0 (j.tr f);have z4:=f.size;refine E7 (S:=No) (.inl ⟨bk4,fun _ h=>h⟩) t4 G (fun _ h=>h.elim) gn (by simp) p fun Q b5 sp5 sk5 on5 C=>?_
  have D:=f.tr C;have z5:=C.size;refine⟨⟨E D 0,E D 1⟩,v D 3,?_⟩;have bk5:=xI (W:=W) (z:=h4.size) on5 fun e=>⟨fun _ h=>h,L (j.tr f)⟩
  have t5:=t4.upd0 C;refine E7 bk5 t5 G (fun y g=>g.2.2) (fZ ..) (by simp[ix]) q fun O b6 sp6 sk6 Y A=>?_
  have z6:=A.size;have bk6:=xI (W:=fun y=>W y∨(o.isSome=true∧((o.isSome=true∧((No y∨h4.size≤y)∧y<Q.size))∨Q.size≤y)∧y<O.size)) (z:=Q.size) Y fun e=>⟨fun y g=>(by rw[e]at g;cases g.1),fun y g=>(by
   rcases g with g|g
   ·exact L (j.tr D) y g
   ·rw[e]at g;cases g.1)⟩
  refine hk O b6 _ bk6 (fun y g=>?_) ((j.tr D).trans A fun y g=>.inr ?_)
  ·rcases g.2.1 with h|h
   ·rcases h.2.1 with h|h
    ·exact h.elim
    ·exact⟨by omega,g.2.2⟩
   ·exact⟨by omega,g.2.2⟩
  ·rcases g.2.1 with h|h
   ·exact h.elim
   ·omega
 |succ m ih=>
  intro p q hm V h hW t G K hk;have L:∀{h'},Upd No h h'→∀y,W y→y<h'.size:=fun k y g=>bP (hW y g) k.size
  have hl:13-(m+1)<13:=by omega
  have B:13-(m+1)=12-m:=by omega
  refine sQ (x.k0,x.k1,x.mask,w,q.1,l9 x q.1) p q ((13-(m+1):Nat):Int) ?_;unfold o5 ah bS aI aG vH qK tZ yB Ii lR DU;refine aJ fun h1 b1 k1=>aJ fun h2 b2 k2=>aJ fun N b3 Z=>?_
  have j:=(k1.tr k2).tr Z;have v:∀{h':ad},Upd No N h'→∀i,aR h' (adr ⟨h.size,0,none⟩ i)=(#[.int .u64 x.k0,.int .u64 x.k1,.int .u64 x.mask,.pointer w,.string q.1,.int .u64 (l9 x q.1)]:Array Value)[i]?:=fun k i=>by
   rw[bO,bA (k.get0 (Z.get0 (k2.get0 b1))),aL]
  have H:∀{h':ad},Upd No N h'→∀i,aR h' (adr ⟨h1.size,0,none⟩ i)=(#[.string p.1,.string p.2]:Array Value)[i]?:=fun k i=>by rw[bO,bA (k.get0 (Z.get0 b2)),aL]
  have E:∀{h':ad},Upd No N h'→∀i,aR h' (adr ⟨h2.size,0,none⟩ i)=(#[.string q.1,.string q.2]:Array Value)[i]?:=fun k i=>by rw[bO,bA (k.get0 b3),aL]
  have r:=Upd.refl No N;have z03:=j.size;have ne:(((13-(m+1):Nat):Int)==(13:Int))=false:=by rw[beq_eq_false_iff_ne];omega
  rw[ne];refine aj.2 ⟨_,v r 0,_,v r 1,_,v r 2,_,H r 0,_,v r 5,?_⟩;refine sA fun h4 f=>⟨v f 5,PC hl ⟨v f 5,PC hl ?_⟩⟩
  have hi:=yg x (13-(m+1)) p.1;have hj:=yg x (13-(m+1)) q.1;have hcl:=NF V;have z4:=f.size;refine CondP.intro (fun e=>?_) fun e=>?_
  ·have e:ck x (13-(m+1)) p.1=ck x (13-(m+1)) q.1:=by have:=eq_of_beq e;omega
   refine⟨_,v f 3,_,v f 0,_,v f 1,_,v f 2,_,v f 3,_,v f 4,_,v f 5,_,H f 0,_,H f 1,_,E f 0,_,E f 1,?_⟩;refine qW (L (j.tr f)) fun Q b5 nd5 C=>?_
   have b:=f.tr C;have z5:=C.size;refine⟨⟨E b 0,E b 1⟩,⟨H b 0,H b 1⟩,⟨v b 0,v b 1,v b 2,v b 3,v b 4,v b 5⟩,v b 3,?_⟩;have ew:IntKind.wrap .i64 (((13-(m+1):Nat):Int)+1)=((13-m:Nat):Int):=by rw[oD (by omega)];omega
   rw[ew];refine ih p q (by omega) V (L (j.tr b)) (t.upd0 (j.tr b)) G fun O b6 Sk t6 M A=>?_
   have u:=b.tr A;have z6:=A.size;refine⟨v u 3,?_⟩;refine uP (S:=No) (.inl ⟨nd5.upd A fun _ h=>h.elim,fun _ h=>h⟩) (t.upd0 (j.tr u)) G hi (fun y h=>by cases h) ⟨b6,0,none⟩ fun h7 b7 d n sp sk on7 I=>?_
   have z7:=I.size;refine hk h7 b7 _ (yD (W:=W) (W1:=fun y=>W y∨Sk y) (T:=fun _=>No) (T':=Sk) (c0:=ck x (13-(m+1)) p.1) (s:=⟨fun _=>none,fun _=>none⟩) (hz:=O) on7 I (fun c hc hcc=>?_) (fun c hc=>⟨gp hc,gp hc⟩) ?_ (fun y g=>.inl g) (fun _ h=>h.elim) (fun _ _ h=>h.elim) (fun y g=>.inr g) (fun _ _ h=>h.elim) (fun y g=>⟨(M y g).2,id,fun _ _ h=>h⟩) (fun _ _ _ h=>h.elim) fun eo=>⟨fun _ h=>h,fun y g=>g.elim (L (j.tr u) y) fun h=>(M y h).2⟩) (fun y g=>?_) ((j.tr u).tr I)
   ·refine .inl ⟨NT fun r X=>?_,rfl,rfl,fun _ h=>h⟩
    rw[B]at hcc e;rcases NZ X with rfl|rfl
    ·exact fun e=>hcc e.symm
    ·rw[←e];exact fun e=>hcc e.symm
   ·have ea:part x (12-m) (ck x (13-(m+1)) p.1) (ix q [p])=ix q [p]:=JZ fun r X=>by
     rw[B]at e⊢;rcases NZ X with rfl|rfl
     ·rfl
     ·rw[e]
    rw[ea];exact .inr (.inr ⟨by omega,gD,b6,gD,t6⟩)
   ·have:=MW (S:=No) (z0:=h.size) (fun _ h=>h) (fun _ _ h=>h.elim) (fun y g=>⟨.inr (by have:=(M y g).1;omega),by have:=(M y g).2;omega⟩) (by omega) g
    exact⟨this.1.elim (fun h=>h.elim) id,this.2⟩
  ·have e:ck x (13-(m+1)) p.1≠ck x (13-(m+1)) q.1:=fun h=>by rw[h]at e;simp at e
   refine⟨_,v f 3,_,H f 0,_,H f 1,_,v f 3,_,E f 0,_,E f 1,?_⟩;refine qW (L (j.tr f)) fun Q b5 nd5 C=>?_
   have b:=f.tr C;have z5:=C.size;have t5:=t.upd0 (j.tr b);refine⟨⟨E b 0,E b 1⟩,v b 3,⟨H b 0,H b 1⟩,v b 3,?_⟩;refine qd (S:=No) (.inl ⟨nd5,fun _ h=>h⟩) t5 G (fun _ h=>h.elim) hi (fun y h=>by cases h) p fun O b6 d6 n6 sp6 sk6 Y A=>?_
   have u:=b.tr A;have z6:=A.size;have nd6:=Pf (W:=W) Y fun _=>⟨fun _ h=>h,L (j.tr b)⟩
   refine⟨⟨E u 0,E u 1⟩,v u 3,?_⟩;refine qd nd6 (t5.upd0 A) G (fun y g=>g.2.2) hj (fun y h=>by simp[upd]) q fun h7 b7 d7 n7 sp7 sk7 on7 I=>?_
   have z7:=I.size;have R:∀y,(o.isSome=true∧(No y∨Q.size≤y)∧y<O.size)→Q.size≤y:=fun y g=>g.2.1.elim (fun h=>h.elim) id
   refine hk h7 b7 _ (GJ (T:=fun _=>No) (z:=O.size) (W:=fun y=>W y∨SN o (fun y=>o.isSome=true∧(No y∨Q.size≤y)∧y<O.size) O.size h7 (fun _=>No) y) on7 (fun c hc=>?_) (fun _ _ h=>h.elim) (fun _ _ _ h=>h.elim) fun eo=>⟨fun y g=>(by rw[eo]at g;cases g.1),fun y g=>(by
    rcases g with g|g
    ·exact L (j.tr u) y g
    ·rw[eo]at g;cases g.1)⟩) (fun y g=>?_) ((j.tr u).trans I fun y g=>.inr (by have:=R y g;omega))
   ·have F:=Er (x:=x) (lev:=12-m) (c:=c) (p:=q) (l:= [p]) (fZ ..)
    rw[B]at e;by_cases P:c=ck x (12-m) p.1
    ·have J:ck x (12-m) q.1≠c:=fun h=>e (by omega)
     have e1:part x (12-m) c [p]= [p]:=JZ fun r X=>by rw[au.1 X,P]
     rw[if_neg J,e1]at F;exact .inr (.inl ⟨p,F,by simp[upd,B,P,e],by simp[upd],fun _ h=>h⟩)
    ·have e1:part x (12-m) c [p]= []:=NT fun r X=>by rw[au.1 X];exact fun h=>P h.symm
     rw[e1]at F;by_cases J:c=ck x (12-m) q.1
     ·rw[if_pos J.symm]at F
      exact .inr (.inl ⟨q,F,by simp[upd,B,J],by simp[upd],fun _ h=>h⟩)
     ·rw[if_neg fun h=>J h.symm]at F
      exact .inl ⟨F,by simp[upd,B,J,P],by simp[upd],fun _ h=>h⟩
   ·rcases g.2 with⟨h|h,h2⟩|⟨_,_,h⟩
    ·exact⟨by have:=R y h;omega,h2⟩
    ·exact⟨by omega,h2⟩
    ·exact h.elim
end Go.Proofs
