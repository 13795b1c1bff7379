/- A part of the proof that the named laws of this program answer true, whatever the input. -/
import Derived.Test.YtajpljopgikpgaaGreatDoorPart4
import Derived.Test.YtajpljopgikpgaaGreatDoorPart2
open ByteArray renaming mk→jZ
open Int renaming toNat_natCast→aH
open List renaming eraseIdx_eq_take_drop_succ→gc,getElem?_eraseIdx→om,mem_singleton→aq,getElem_mem→aP,getElem?_eq_getElem→af,length_append→ae,mem_of_getElem?→ay,getElem?_set→fe,getElem?_of_mem→fL,pairwise_singleton→fK
open List.Pairwise renaming nil→fX
open Nat renaming lt_or_ge→bH,one_pos→rY,le_refl→ao,lt_of_lt_of_le→bR,zero_add→aE
namespace Go.Proofs
open Go Go.Lift
theorem Sr{Ts:List (Nat→Prop)}(d:PD Ts)(i:Nat):PD (Ts.take i++Ts.drop (i+1)):=by
 intro a b A B e c eb;simp only[←gc,om]at c eb;split at c<;>split at eb
 ·exact d a b A B e c eb
 ·exact d a (b+1) A B (by omega) c eb
 ·exact d (a+1) b A B (by omega) c eb
 ·exact d (a+1) (b+1) A B (by omega) c eb
theorem Oy{o:Option Addr}{W S X A:Nat→Prop}{h:ad}{c b:Nat}{T:List (Nat→Prop)}(i:∀y,W y→y<h.size)(d:o=none→∀y,¬S y)(g:∀y,A y→S y∨h.size≤y)(j:S b∨h.size≤b)(e:o=none):(∀y,A y→¬(W y∨SR o c X T y))∧¬(W b∨SR o c X T b):=by
 have no:∀y,(S y∨h.size≤y)→¬(W y∨SR o c X T y):=fun y f a=>by
  rcases a with a|⟨a,_⟩
  ·rcases f with h|h
   ·exact d e y h
   ·have:=i y a;omega
  ·rw[e]at a;cases a
 exact⟨fun y f=>no y (g y f),no _ j⟩
theorem Jx{o:Option Addr}{W S A:Nat→Prop}{h b:ad}{a:Nat}{sl val:ByteArray}{s3:SliceV}{w:Option ByteArray}{d:List (Option Addr)}{L':List Bn}{Us':List (Nat→Prop)}
  (s:∀y,W y→y<h.size)(k:o=none→∀y,¬S y)(m:b[a]? =some (.cells (vQ sl w.isSome val s3 o) bw (0,0))) (hv:val=w.getD ⟨#[]⟩) (i:OwnS lB 1 aY A b s3 d) (g:∀y,A y→(S y∨h.size≤y)∧y≠a∧y<b.size) (f:S a∨h.size≤a)
  (p:∀U∈Us',∀y,U y→¬A y∧y≠a) (j:∀U∈Us',∀y,U y→(S y∨h.size≤y)∧y<b.size) (q:PD Us') (n:(∀y,SR o a A Us' y→(S y∨h.size≤y)∧y<b.size)→LsO o (fun y=>W y∨SR o a A Us' y) b d L' Us'):
  RxO o (fun y=>W y∨SR o a A Us' y) b a sl w (.ofL L') (SR o a A Us')∧∀y,SR o a A Us' y→(S y∨h.size≤y)∧y<b.size:=by
 have e:∀y,SR o a A Us' y→(S y∨h.size≤y)∧y<b.size:=fun y c=>xM f (aD m) (fun y c=>⟨(g y c).1,(g y c).2.2⟩) j c
 exact⟨uT m hv i (fun y c=>(g y c).2) p q (by rw[Fo.to_of];exact n e) (Oy s k (fun y c=>(g y c).1) f),e⟩
def Ul(o:Option Addr)(W:Nat→Prop)(h:ad)(r:Option Addr)(m:Option Bn)(S:Nat→Prop):Prop:=(r=none∧m=none)∨∃n,m=some n∧KidO o W h r n S
set_option maxHeartbeats 1000000 in
theorem Jz{w' o:Option Addr}{W S:Nat→Prop}{h:ad}{b:Nat}{sl:ByteArray}{w:Option ByteArray}{F:Fo}(r:RxO o W h b sl w F S)(t:By h w' o)(hW:∀y,W y→y<h.size)(D:∀y,S y→W y)(hWo:∀a,o=some a→W a.block)(hc:eW F)(P:sl.data.toList≠[])(hs1:sl.size≤1000000)(hs2:∀k v,ox F k v→k.length≤1000000)
  {K:Option Addr→ad→Prop}(hk:∀j r m S2,Upd S h j→Rk (sl.data.toList,w,F) m→Ul o (fun y=>W y∨S2 y) j r m S2→(∀y,S2 y→(S y∨h.size≤y)∧y<j.size)→K r j):HC PG nN [.pointer (some ⟨b,0,none⟩),.pointer w'] [.c .ptr] K h:=by
 refine y8 _ w' ?_;unfold rH bQ dK bM bD BU uw ie;have hr:=r;have hno:o=none→∀y,¬S y:=fun e=>by subst e;exact r.off.2
 have hSb:∀y,S y→y<h.size:=fun y c=>hW y (D y c)
 obtain⟨val,s,ow,ks,Us,hb,hv,hs,hL,hUS,hPD,hown⟩:=r.view;have hn:=iY hc;have f:=hs.len;rw[hL.1]at f;refine Join.intro (fun t j=>t=decide (w.isSome∨2≤F.toL.length)∧j=h) (fun R hR=>⟨_,rfl,w.isSome,dz (i:=1) hb,?_⟩) ?_
 ·cases w with
  |some v=>exact aA.2 (hR _ _ ⟨rfl,rfl⟩)
  |none=>
   refine aj.2 ⟨_,rfl,s,dz (i:=3) hb,hR _ _ ⟨?_,rfl⟩⟩;rw[decide_eq_decide];constructor
   ·intro h;exact .inr (by omega)
   ·rintro(h|h)
    ·cases h
    ·omega
 ·rintro t' j ⟨rfl,rfl⟩
  refine aG (fun G=>?_) fun G=>?_
  ·exact hk j _ _ S (Upd.refl _ _) (Ni P hc G) (.inr ⟨_,rfl,b,sl,rfl,rfl,hr.less fun y c=>.inl (c.elim id (D y))⟩) fun y c=>⟨.inl c,hSb y c⟩
  ·have hw:w=none:=by
    cases w with
    |none=>rfl
    |some v=>exact absurd (.inl rfl) G
   subst hw;have hl2:F.toL.length<2:=by
    rcases bH F.toL.length 2 with h|h
    ·exact h
    ·exact absurd (.inr h) G
   refine⟨_,rfl,s,dz (i:=3) hb,?_⟩;match hFL:F.toL,hl2 with
   | [],_=>
    rw[hFL]at f;have e:((s.len:Int)==(0:Int))=true:=by rw[beq_iff_eq,f];rfl
    rw[e];exact aA.2 (hk j _ _ No (Upd.refl _ _) (Nj hFL) (.inl ⟨rfl,rfl⟩) fun y c=>c.elim)
   | [(lk,wk,Fk)],_=>
    rw[hFL]at f;have e:((s.len:Int)==(0:Int))=false:=by rw[beq_eq_false_iff_ne,f];simp
    rw[e];have p:(lk,wk,Fk)∈F.toL:=by rw[hFL];exact aq.2 rfl
    have hcm:=(eg.1 hc).2 _ p;have h0:F.toL[0]? =some (lk,wk,Fk):=by rw[hFL];rfl
    have hk0:0<ks.length:=by rw[hL.1,hFL];exact rY
    have Y:0<Us.length:=by rw[hL.2.1,hFL];exact rY
    have M:Us[0]∈Us:=aP Y;obtain⟨kb,A,hke,J,x⟩:=hL.2.2 0 _ _ _ (af hk0) h0 (af Y);have hki:ks[0]? =some (some ⟨kb,0,none⟩):=by rw[af hk0,hke]
    have g:∀y,Us[0] y→S y:=hUS _ M;generalize Us[0]=U at x M g;simp only at J x;obtain⟨a,ha,_,hvv⟩:=hs.at0 hki;have hknr:=x;have hno2:o=none→∀y,¬U y:=fun e=>by subst e;exact x.off.2
    obtain⟨kval,kss,kow,kks,u,N,hkv,hkss,O,E,X,H⟩:=x.view;have Q:=iY hcm.2.2;have hUb:∀y,U y→y<j.size:=fun y c=>hSb y (g y c)
    have q:∀V∈u,∀y,V y→y<j.size:=fun V B y c=>hUb y (E V B y c)
    refine aj.2 ⟨_,rfl,s,dz (i:=3) hb,⟨by omega,by rw[f];simp⟩,a,ha,some ⟨kb,0,none⟩,hvv,?_⟩
    refine kq (W:=W) (S:=U) (Us:=u) t hWo N (by rw[O.1];exact Q) (Ag (Us:=u) H (aD N) (Upd.refl No j) (fun _ h=>h.elim) fun V B y c=>⟨.inl ⟨V,B,c⟩,q V B y c⟩) fun h1 b1 s1 A1 Z hA1 d C hU1 I=>?_
    obtain⟨rr,vv,hin⟩:=mz hc _ p;have hbd:=hs2 (lk++rr) vv (fw.2 ⟨_,p,rr,rfl,hin⟩);rw[ae]at hbd;have hlkl:lk.length=A.size:=by rw[←J];exact lD A
    refine⟨_,rfl,sl,dz (i:=0) (I.get0 hb),_,rfl,A,dz (i:=0) Z,by omega,?_⟩
    refine tK Z fun G b2 L=>?_
    have T:Upd (· =b1) j G:=I.wide.tr L
    have z1:=I.size;have z2:=L.size;have zb:=aD b2;have n:∀{z:Nat},(U z∨j.size≤z)→S z∨j.size≤z:=fun h=>h.imp (g _) id
    have hS2:∀y,SR o b1 A1 u y→(S y∨j.size≤y)∧y<G.size:=fun y c=>xM (n C) zb (fun y c=>⟨n (d y c).1,by have:=(d y c).2.2;omega⟩) (fun V B y c=>⟨.inl (g y (E V B y c)),by have:=q V B y c;omega⟩) c
    refine hk G _ _ (SR o b1 A1 u) (T.mono fun y c=>by have c:y=b1:=c;rw[c];exact n C) (OZ P hc hFL) (.inr ⟨_,rfl,b1,sl++A,rfl,by rw[←J];exact PR sl A,uT b2 hkv (hA1.upd L fun y c=>(d y c).2.1) (fun y c=>⟨(d y c).2.1,by have:=(d y c).2.2;omega⟩) hU1 X (O.move T q (fun y c=>?_) fun y c=>c.elim .inl fun h=>(hS2 y h).1.imp (D y) id) (Oy hW hno (fun y c=>n (d y c).1) (n C))⟩) hS2
    have c:y=b1:=c;subst c;exact C.imp (fun h=>⟨D y (g y h),fun V B hu=>(hU1 V B y hu).2 rfl⟩) id
end Go.Proofs
namespace Go.Proofs
open Go Go.Lift
set_option maxHeartbeats 4000000 in
theorem MV{w' o:Option Addr}:∀(n:Nat) {W S:Nat→Prop} {b:Nat} {sl:ByteArray} {w:Option ByteArray} {F:Fo} {h:ad} (k:ByteArray),k.size<n→RxO o W h b sl w F S→By h w' o→(∀y,W y→y<h.size)→(∀y,S y→W y)→(∀a,o=some a→W a.block)→(∀a,w'=some a→¬S a.block)→eW F→(∀j v,ox F j v→j.length≤1000000)→∀{K:(Option Addr)×Bool→ad→Prop},
  (∀h' D w2 F2 S2 X,Upd S h h'→RxO o (fun y=>W y∨S2 y) h' D sl w2 F2 S2→(∀y,S2 y→(S y∨h.size≤y)∧y<h'.size)→eW F2→rV (py w F) (py w2 F2) k.data.toList→(X=false→D=b∧w2=w∧F2=F∧Upd No h h'∧∀v,¬py w F k.data.toList v)→(X=true→∃v,py w F k.data.toList v)→K (some ⟨D,0,none⟩,X) h')→
  HC PG kI [.pointer (some ⟨b,0,none⟩),.pointer w',.string k] [.c .ptr,.c .bool] K h:=by
 intro n;induction n with
 |zero=>intro W S b sl w F h k hk;omega
 |succ n ih=>
  intro W S b sl w F h k hkn r t hW C hWo hwS hc hbd K hk;refine za (some ⟨b,0,none⟩) w' k ?_;unfold rJ bQ dK bM bD cV jw uw BD ie FX Hm;have hr:=r;have hno:o=none→∀y,¬S y:=fun e=>by subst e;exact r.off.2
  obtain⟨val,s,ow,ks,Us,hb,hv,hs,hL,hUS,hPD,hown⟩:=r.view;have hn:=iY hc;have hcan:=eg.1 hc;have hSb:∀y,S y→y<h.size:=fun y d=>hW y (C y d)
  have N:∀U∈Us,∀y,U y→y<h.size:=fun U B y d=>hSb y (hUS U B y d)
  have zb:=aD hb;have own2:=fun{h2:ad} {M:Nat→Prop} (ku:Upd M h h2) (hM:∀y,M y→S y∧∃U∈Us,U y) (Us':List (Nat→Prop)) (B:∀U∈Us',∀y,U y→((∃V∈Us,V y)∨h.size≤y)∧y<h2.size)=>Ag (Us':=Us') hown zb ku hM B
  have R:∀{h':ad},Upd No h h'→(∀v,¬py w F k.data.toList v)→K (some ⟨b,0,none⟩,false) h':=fun hu hnin=>hk _ b w F S false hu.wide ((hr.upd0 hu).less fun y d=>.inl (d.elim id (C y))) (fun y d=>⟨.inl d,by have:=hSb y d;have:=hu.size;omega⟩) hc (KD hnin) (fun _=>⟨rfl,rfl,rfl,hu,hnin⟩) fun h=>by cases h
  rw[jp];refine aG (fun hk0=>?_) fun hk0=>?_
  ·have hke:k.data.toList= []:=by rw[hk0]
   rw[hke]at hk R;refine⟨_,rfl,w.isSome,dz (i:=1) hb,?_⟩;cases hw:w with
   |none=>
    refine aA.2 (R (Upd.refl _ _) fun v f=>?_)
    rcases f with⟨_,h⟩|h
    ·rw[hw]at h;cases h
    ·exact absurd rfl (nH hc h)
   |some u=>
    refine aj.2 (kq (S:=S) (Us:=Us) t hWo hb (by rw[hL.1];exact hn) (own2 (Upd.refl No h) (fun _ h=>h.elim) Us fun U B y d=>⟨.inl ⟨U,B,d⟩,N U B y d⟩) fun h1 D s1 A1 b1 hA1 hA1s Z hU1 hu1=>?_)
    refine⟨_,rfl,Oz (i:=1) b1 (show 1<5 by decide),CE (i:=1) (c':=vQ sl false val s1 o) b1 rfl fun h2 b2 hu2=>?_⟩
    refine⟨_,rfl,Oz (i:=2) b2 (show 2<5 by decide),CE (i:=2) (c':=vQ sl false ⟨#[]⟩ s1 o) b2 rfl fun h3 b3 hu3=>?_⟩
    have hu13:=hu2.tr hu3;have z1:=hu1.size;have z3:=hu13.size;have u03:Upd (· =D) h h3:=hu1.wide.tr hu13
    obtain⟨rx,E⟩:=Jx (W:=W) (S:=S) (w:=none) (val:=⟨#[]⟩) (L':=F.toL) hW hno b3 rfl (hA1.upd hu13 fun y d=>(hA1s y d).2.1) (fun y d=>⟨(hA1s y d).1,(hA1s y d).2.1,by have:=(hA1s y d).2.2;omega⟩) Z hU1 (fun U B y d=>⟨.inl (hUS U B y d),by have:=N U B y d;omega⟩) hPD fun E=>hL.move u03 N (fun y d=>by
     have d:y=D:=d
     subst d
     exact Z.imp (fun h=>⟨C y h,fun U B hu=>(hU1 U B y hu).2 rfl⟩) id) fun y d=>d.elim .inl fun h=>(E y h).1.imp (C y) id
    rw[Fo.of_to]at rx;exact hk h3 D none F _ true (u03.mono fun y d=>by have d:y=D:=d;rw[d];exact Z) rx E hc (KC hc) (fun h=>by cases h) fun _=>⟨u,.inl ⟨rfl,hw⟩⟩
  ·have I:k.data.toList≠[]:=fun e=>hk0 (by cases k;exact congrArg jZ (Array.toList_inj.1 e))
   obtain⟨c0,hc0,hc0e⟩:=C4 I;refine⟨c0,Int.le_refl _,hc0,?_⟩;have hlk:k.data.toList.length=k.size:=lD k;refine EP (hr.read t) hc (c:=c0.toNat) (UInt8.toNat_lt _) fun i ok hil hlo hhi hok=>?_
   rw[hc0e]at hlo hhi hok;cases ok with
   |false=>
    refine aA.2 (R (Upd.refl _ _) fun v f=>?_)
    rcases f with⟨h,_⟩|f
    ·exact I h
    ·obtain⟨n',hn',e,_⟩:=pD hc f
     obtain⟨j,p,rfl⟩:=List.getElem_of_mem hn';rcases bH j i with hl|hl
     ·have:=hlo j p hl;omega
     ·have h1:=hhi j p hl
      have h2:=hhi i (by omega) (ao _);rcases bH i j with hl2|hl2
      ·have h3:=List.pairwise_iff_getElem.1 hcan.1 i j (by omega) p hl2
       omega
      ·have:i=j:=by omega
       subst this;have:=hok.2 ⟨p,e⟩;cases this
   |true=>
    obtain⟨hi,hie⟩:=hok.1 rfl;refine aj.2 ⟨_,rfl,s,dz (i:=3) hb,?_⟩;have T:i<ks.length:=by rw[hL.1];exact hi
    have hUi0:i<Us.length:=by rw[hL.2.1];exact hi
    obtain⟨kb,ksl,hke,hkl,Y⟩:=hL.2.2 i _ _ _ (af T) (af hi) (af hUi0);have hki:ks[i]? =some (some ⟨kb,0,none⟩):=by rw[af T,hke]
    have hUie:Us[i]? =some Us[i]:=af hUi0;have H:Us[i]∈Us:=aP hUi0;have hmem:F.toL[i]∈F.toL:=aP hi;have hcm:=hcan.2 _ hmem;obtain⟨a,ha,_,hvv⟩:=hs.at0 hki;have hslen:=hs.len;rw[hL.1]at hslen;have hlt1:(i:Int)<((s.len:Nat):Int):=by omega
    refine⟨⟨by simp only;omega,hlt1⟩,a,ha,some ⟨kb,0,none⟩,hvv,_,rfl,?_⟩;obtain⟨kval,kss,kow,kks,kUs,hkb,_⟩:=Y.view;have hin_m:∀v,ox F k.data.toList v→qW F.toL[i] k.data.toList v:=fun v f=>by
     obtain⟨n',hn',e,hN⟩:=pD hc f;rw[←wc hc hn' hmem (by omega)];exact hN
    have L:∀j v,qW F.toL[i] j v→ox F j v:=fun j v f=>fw.2 ⟨_,hmem,f⟩
    have G:∀{m:Bn},Ja m→hd m.1=hd F.toL[i].1→eW (.ofL (F.toL.set i m)):=fun h1 h2=>Mq hc hi h1 h2
    have hdset:∀{m:Bn},rV (qW F.toL[i]) (qW m) k.data.toList→rV (ox F) (ox (.ofL (F.toL.set i m))) k.data.toList:=fun hp=>Nu hc hi hie hp
    have hddel:(∀k' v',qW F.toL[i] k' v'→k'=k.data.toList)→rV (ox F) (ox (.ofL (F.toL.take i++F.toL.drop (i+1)))) k.data.toList:=fun hp=>Nv hc hi hie hp
    have q:∀y,Us[i] y→S y:=hUS _ H;have hUib:∀y,Us[i] y→y<h.size:=N _ H;have hUid:∀j U,j≠i→Us[j]? =some U→Dj Us[i] U:=fun j U p J=>hPD i j _ _ (Ne.symm p) hUie J
    have nUb:¬Us[i] b:=fun hu=>by
     rcases hown with⟨_,_,_,hS0⟩|⟨_,_,A,_,_,_,hUA⟩
     ·exact hS0 _ (q _ hu)
     ·exact(hUA _ H b hu).2 rfl
    generalize F.toL[i]=m at hkl Y hcm hin_m L G hdset hddel hie;generalize Us[i]=Ui at Y hUie H q hUib hUid nUb;obtain⟨lab,wk,Fk⟩:=m;simp only at hkl Y hcm hie G;refine⟨ksl,dz (i:=0) hkb,SQ (fun rest x=>?_) fun hnr=>?_⟩
    ·rw[hkl]at x
     have hlne:lab.length≠0:=fun e=>hcm.1 (List.length_eq_zero_iff.1 e)
     have hrl:rest.size<k.size:=by
      rw[←lD rest,←hlk,x,ae];omega
     refine aj.2 ⟨_,rfl,s,dz (i:=3) hb,⟨by simp only;omega,hlt1⟩,a,ha,some ⟨kb,0,none⟩,hvv,?_⟩;have hkbd:∀j v,ox Fk j v→j.length≤1000000:=fun j v f=>by
      have:=hbd _ v (L (lab++j) v ⟨j,rfl,.inr f⟩);rw[ae]at this;omega
     have tU:∀{M:Nat→Prop} {h':ad},Upd M h h'→(∀y,M y→Ui y)→By h' w' o:=fun ku hM=>t.upd ku fun b e d=>absurd (q _ (hM _ d)) (hwS _ e)
     refine ih (W:=W) (S:=Ui) rest (by omega) Y t hW (fun y d=>C y (q y d)) hWo (fun a e d=>hwS a e (q _ d)) hcm.2.2 hkbd fun h2 b2 w2 F2 SV X ku rn2 P hc2 hd2 hg0 hg1=>?_
     have z02:=ku.size;cases X with
     |false=>
      obtain⟨_,_,_,hu20,hnin⟩:=hg0 rfl;refine aA.2 (R hu20 fun v f=>?_)
      rcases f with⟨h,_⟩|f
      ·exact I h
      ·obtain⟨r',e,hr'⟩:=hin_m v f
       simp only at e;rw[x]at e;exact hnin v (by rw[List.append_cancel_left e];exact hr')
     |true=>
      obtain⟨v0,hv0⟩:=hg1 rfl;have hthere:∃v,py w F k.data.toList v:=⟨v0,.inr (L _ _ ⟨_,x,hv0⟩)⟩;have hdn:rV (qW (lab,wk,Fk)) (qW (lab,w2,F2)) k.data.toList:=by
       rw[x];exact KE hd2
      have hmem2:∀{V:Nat→Prop},∀U∈Us.set i V,U∈Us∨U=V:=fun U B=>List.mem_or_eq_of_mem_set B
      have hsetm:∀V:Nat→Prop,V∈Us.set i V:=fun V=>ay (i:=i) (by rw[fe,if_pos rfl,if_pos hUi0])
      refine aj.2 (kq (W:=W) (S:=S) (Us:=Us.set i SV) (tU ku fun _ h=>h) hWo (ku.get hb nUb) (by rw[hL.1];exact hn) (own2 ku (fun y d=>⟨q y d,_,H,d⟩) _ fun U B y d=>?_) fun h3 D s3 A3 b3 ho3 g Z hU3 hu3=>?_)
      ·rcases hmem2 U B with h|rfl
       ·exact⟨.inl ⟨U,h,d⟩,by have:=N U h y d;omega⟩
       ·exact⟨(P y d).1.imp (fun h=>⟨_,H,h⟩) id,(P y d).2⟩
      have hUj:∀{j U},j≠i→Us[j]? =some U→U∈Us.set i SV:=fun{j U} p J=>ay (i:=j) (by rw[fe,if_neg (Ne.symm p)];exact J)
      have z23:=hu3.size;obtain⟨rr,vv,f⟩:=mz hc _ hmem;have hlb:lab.length≤1000000:=by
       have:=hbd _ v0 (L _ _ ⟨_,x,hv0⟩);rw[x,ae]at this;omega
      have hb2:∀j v,ox F2 j v→j.length≤1000000:=fun j v f=>by
       rcases((hd2 j v).1 (.inr f)).2 with⟨e,_⟩|h
       ·rw[e];simp
       ·exact hkbd j v h
      refine Jz (W:=fun y=>(W y∨SV y)∨(h2.size≤y∧y<h3.size)) (S:=SV) ((rn2.less (W':=fun y=>(W y∨SV y)∨(h2.size≤y∧y<h3.size)) fun y d=>d.imp id fun h=>h.1).upd0 hu3) ((tU ku fun _ h=>h).upd0 hu3) (fun y d=>?_) (fun y d=>.inl (.inr d)) (fun a e=>.inl (.inl (hWo a e))) hc2 (by rw[hkl];exact hcm.1) (by rw[←lD ksl,hkl];exact hlb) hb2 fun h4 r4 o4 S4 hu4 hm4 hr4 hS4=>?_
      ·rcases d with(h|h)|h
       ·have:=hW y h;omega
       ·have:=(P y h).2;omega
       ·exact h.2
      rw[hkl]at hm4;have z34:=hu4.size;have b4:=hu4.get b3 fun h=>(hU3 SV (hsetm SV) _ h).2 rfl
      have ho4:=ho3.upd hu4 fun y d h=>(hU3 SV (hsetm SV) y h).1 d
      have hlen4:=ho4.len;have u04:Upd Ui h h4:=(ku.tr hu3.wide).trans hu4 fun y d=>(P y d).1
      have z:∀y,A3 y→(S y∨h.size≤y)∧y≠D∧y<h4.size:=fun y d=>⟨(g y d).1.imp id fun h=>by omega,(g y d).2.1,by have:=(g y d).2.2;omega⟩
      have Q:S D∨h.size≤D:=Z.imp id fun h=>by omega
      have hS4':∀y,S4 y→(Ui y∨h.size≤y)∧y<h4.size:=fun y d=>⟨(hS4 y d).1.elim (fun h=>(P y h).1) fun h=>.inr (by omega),(hS4 y d).2⟩
      have hS4A:∀y,S4 y→¬A3 y∧y≠D:=fun y d=>by
       rcases(hS4 y d).1 with h|h
       ·exact hU3 SV (hsetm SV) y h
       ·exact⟨fun ha=>by have:=(g y ha).2.2;omega,by have:=aD b3;omega⟩
      have oth:∀{h5:ad} {W':Nat→Prop} {j:Nat} {k':Option Addr} {n':Bn} {U:Nat→Prop},j≠i→ks[j]? =some k'→F.toL[j]? =some n'→Us[j]? =some U→Upd (fun y=>Ui y∨A3 y∨y=D) h h5→(∀y,W' y→W y∨h.size≤y)→KidO o W' h5 k' n' U:=fun{h5 W' j k' n' U} p ek en J ku5 hW'=>
       KidO.move ku5 (hL.2.2 j k' n' U ek en J) (N U (ay J)) (fun y d=>by
        rcases d with h|h|rfl
        ·exact .inl ⟨C y (q y h),hUid j U p J y h⟩
        ·exact(z y h).1.imp (fun hs=>⟨C y hs,fun hu=>(hU3 U (hUj p J) y hu).1 h⟩) id
        ·exact Q.imp (fun hs=>⟨C _ hs,fun hu=>(hU3 U (hUj p J) _ hu).2 rfl⟩) id) hW'
      rcases hr4 with⟨rfl,rfl⟩|⟨m4,rfl,kid4⟩
      ·rcases hm4 with⟨_,hnone⟩|⟨_,e,_⟩
       ·have ew:IntKind.wrap .i64 ((i:Int)+1)=((i+1:Nat):Int):=by rw[oq (by omega)];omega
        refine aA.2 ⟨_,rfl,s3,dz (i:=3) b4,?_⟩;simp only;rw[ew];refine KG ho4 T (by rw[hL.1];omega) fun s5 h5 ho5 O=>?_
        have b5:=O.get b4 fun hx=>(g _ hx).2.1 rfl
        refine⟨_,rfl,Oz (i:=3) b5 (show 3<5 by decide),CE (i:=3) (c':=vQ sl w.isSome val s5 o) b5 rfl fun h6 b6 hu6=>?_⟩
        have z45:=O.size;have z56:=hu6.size;have u06:Upd (fun y=>Ui y∨A3 y∨y=D) h h6:=((u04.mono fun y d=>.inl (.inl d)).trans O fun y d=>.inl (.inr (.inl d))).trans hu6 fun y d=>.inl (.inr (.inr d))
        have hmd:∀U∈Us.take i++Us.drop (i+1),∃j,j≠i∧Us[j]? =some U:=fun U B=>by
         obtain⟨j,p⟩:=fL B;rw[←gc,om]at p;split at p
         ·exact⟨j,by omega,p⟩
         ·exact⟨j+1,by omega,p⟩
        obtain⟨rx,E⟩:=Jx (W:=W) (S:=S) (Us':=Us.take i++Us.drop (i+1)) (L':=F.toL.take i++F.toL.drop (i+1)) hW hno b6 hv (ho5.upd hu6 fun y d=>(g y d).2.1) (fun y d=>⟨(z y d).1,(z y d).2.1,by have:=(z y d).2.2;omega⟩) Q (fun U B y d=>by
         obtain⟨j,p,e⟩:=hmd U B
         exact hU3 U (hUj p e) y d) (fun U B y d=>by
         obtain⟨j,p,e⟩:=hmd U B
         have hm:=ay e
         exact⟨.inl (hUS U hm y d),by have:=N U hm y d;omega⟩) (Sr hPD i) fun E=>by
          refine⟨by simp[hL.1],by simp[hL.2.1],fun j k' n' U ek en J=>?_⟩
          simp only[←gc,om]at ek en J;have hw:∀y,(W y∨SR o D A3 (Us.take i++Us.drop (i+1)) y)→W y∨h.size≤y:=fun y d=>d.elim .inl fun h=>(E y h).1.imp (C y) id
          split at ek
          ·rename_i p
           rw[if_pos p]at en J;exact oth (by omega) ek en J u06 hw
          ·rename_i p
           rw[if_neg p]at en J;exact oth (by omega) ek en J u06 hw
        refine hk h6 D w _ _ true (u06.mono fun y d=>?_) rx E (Rd hc) (Df I (hddel fun k' v' hN=>Classical.byContradiction fun hne=>hnone k' v' ((hdn k' v').2 ⟨hne,hN⟩))) (fun h=>by cases h) fun _=>hthere
        rcases d with h|h|rfl
        ·exact .inl (q y h)
        ·exact(z y h).1
        ·exact Q
       ·cases e
      ·rcases hm4 with⟨e,_⟩|⟨m',e,hcn,hhd,hiff⟩
       ·cases e
       ·cases e
        obtain⟨kb4,ksl4,rfl,hkl4,rn4⟩:=id kid4;obtain⟨a3,ha3,hab,hw3,ho5,O⟩:=OwnS.setAt ho4 T (some ⟨kb4,0,none⟩);refine aj.2 ⟨_,rfl,s3,dz (i:=3) b4,⟨by simp only;omega,by simp only;omega⟩,a3,ha3,?_⟩
        have hw1:Wr h4 (adr a3 (i*1)):=by
         rcases hw3 with hw|⟨D,Z,hw⟩
         ·cases hw
         ·cases Z;exact hw 0 (by simp)
        refine⟨hw1,bT ?_⟩;change K (some ⟨D,0,none⟩,true) (gT h4 (adr a3 (i*1)) 0 (lB (some ⟨kb4,0,none⟩)));have b5:=O.get b4 fun e=>by have e:D=a3.block:=e;exact(g _ hab).2.1 e.symm
        have z45:=O.size;have eset:ks.set i (some ⟨kb4,0,none⟩)=ks.take i++some ⟨kb4,0,none⟩::ks.drop (i+1):=by rw[List.set_eq_take_append_cons_drop,if_pos T]
        rw[←eset]at ho5;generalize gT h4 (adr a3 (i*1)) 0 (lB (some ⟨kb4,0,none⟩))=h5 at*;have u05:Upd (fun y=>Ui y∨A3 y∨y=D) h h5:=(u04.mono fun y d=>.inl (.inl d)).trans O fun y d=>.inl (.inr (.inl (by have d:y=a3.block:=d;rw[d];exact hab)))
        have kid5:KidO o (fun y=>W y∨SR o D A3 (Us.set i S4) y) h5 (some ⟨kb4,0,none⟩) m4 S4:=by
         refine KidO.move O kid4 (fun y d=>(hS4 y d).2) (fun y d=>?_) fun y d=>?_
         ·have d:y=a3.block:=d
          rw[←d]at hab;refine .inl ⟨?_,fun h=>(hS4A y h).1 hab⟩
          rcases(g y hab).1 with h|h
          ·exact .inl (.inl (.inl (C y h)))
          ·exact .inl (.inr ⟨h,(g y hab).2.2⟩)
         ·have f:∀y,(S y∨h2.size≤y)→y<h3.size→(((W y∨SV y)∨(h2.size≤y∧y<h3.size))∨S4 y)∨h4.size≤y:=fun y d hl=>by
           rcases d with h|h
           ·exact .inl (.inl (.inl (.inl (C y h))))
           ·exact .inl (.inl (.inr ⟨h,hl⟩))
          rcases d with h|⟨_,rfl|h|⟨U,B,h⟩⟩
          ·exact .inl (.inl (.inl (.inl h)))
          ·exact f _ Z (aD b3)
          ·exact f _ (g y h).1 (g y h).2.2
          ·rcases hmem2 U B with h2'|rfl
           ·exact .inl (.inl (.inl (.inl (C _ (hUS U h2' y h)))))
           ·exact .inl (.inr h)
        obtain⟨rx,E⟩:=Jx (W:=W) (S:=S) (Us':=Us.set i S4) (L':=F.toL.set i m4) hW hno b5 hv ho5 (fun y d=>⟨(z y d).1,(z y d).2.1,by have:=(z y d).2.2;omega⟩) Q (fun U B y d=>by
         obtain⟨j,p⟩:=fL B
         rw[fe]at p
         split at p
         ·rename_i e
          cases p;exact hS4A y d
         ·rename_i e
          exact hU3 U (hUj (Ne.symm e) p) y d) (fun U B y d=>by
         rcases hmem2 U B with h|rfl
         ·exact⟨.inl (hUS U h y d),by have:=N U h y d;omega⟩
         ·exact⟨(hS4' y d).1.imp (q y) id,by have:=(hS4' y d).2;omega⟩) (OQ hPD fun j U p J y d hu=>by
          rcases(hS4' y d).1 with h|h
          ·exact hUid j U p J y h hu
          ·have:=N U (ay J) y hu;omega) fun E=>LsO.set hL.1 hL.2.1 (fun j k' n' U p ek en J=>oth p ek en J u05 fun y d=>d.elim .inl fun h=>(E y h).1.imp (C y) id) kid5
        refine hk h5 D w _ _ true (u05.mono fun y d=>?_) rx E (G hcn hhd) (Df I (hdset fun k' v'=>by rw[hiff k' v'];exact hdn k' v')) (fun h=>by cases h) fun _=>hthere
        rcases d with h|h|rfl
        ·exact .inl (q y h)
        ·exact(z y h).1
        ·exact Q
    ·rw[hkl]at hnr
     refine aA.2 (R (Upd.refl _ _) fun v f=>?_)
     rcases f with⟨h,_⟩|f
     ·exact I h
     ·obtain⟨r',e,_⟩:=hin_m v f
      exact hnr r' e
end Go.Proofs
namespace Go.Proofs
open Go.Lift
theorem NodeO.upd0{o:Option Addr}{W S:Nat→Prop}{h a:ad}{b:Nat}{s:Slots}(f:NodeO o W h b s S)(k:Upd No h a):NodeO o W a b s S:=
 f.imp (fun n=>⟨n.1.upd k fun _ h=>h.elim,n.2⟩) fun⟨e,d,n,sp,sk,c⟩=>⟨e,d,n,sp,sk,c.upd k fun _ h=>h.elim⟩
theorem NodeO.read{o w:Option Addr}{W S:Nat→Prop}{h:ad}{b:Nat}{s:Slots}(f:NodeO o W h b s S)(t:By h w o):NodeAt No h b s:=by
 rcases f with⟨n,_⟩|⟨e,d,n,sp,sk,c⟩
 ·exact n.less fun _ h=>h.elim
 ·exact c.node (fun _ _ h=>h) fun a e=>⟨id,t.plain a (t.tok e)⟩
set_option maxHeartbeats 1000000 in
theorem pc{W S:Nat→Prop}{h:ad}{w o:Option Addr}{b:Nat}{s:Slots}(nd:NodeO o W h b s S)(t:By h w o)(hW:∀a,o=some a→W a.block)(hS:∀y,S y→y<h.size){i:Nat}(hi:i<32)(hx:∀y,s.p i=some y→s.k i=none)(p:Pr){K:Option Addr→ad→Prop}
  (hk:∀h' b' d n sp sk,OwnN (fun y=>S y∨h.size≤y) h' b' d n sp sk ⟨upd s.p i (some p),upd s.k i none⟩ o→Upd S h h'→K (some ⟨b',0,none⟩) h'):
  HC PG eX [.pointer (some ⟨b,0,none⟩),.pointer w,.int .i64 i,.agg #[.string p.1,.string p.2]] [.c .ptr] K h:=by
 refine wA _ w i p ?_;unfold pV dK aB bD D5 cV jw uL uw kC gF mQ;have k1:=Upd.hnew No h [.string p.1,.string p.2] aw;have b1:=cW h [.string p.1,.string p.2] aw;refine bT ?_;simp only[fR h];generalize hnew h [.string p.1,.string p.2] aw=h1 at k1 b1;have z1:=aD b1;have nd1:=nd.upd0 k1;have t1:=t.upd0 k1
 refine C2 (nd1.read t1) hi (aj.2 ?_);refine Gj nd1 t1 hW fun h2 G d n sp sk v N=>?_
 have bits:=v.bits;have P:∀{x},(S x∨h1.size≤x)→(S x∨h.size≤x):=fun h=>h.imp id fun h=>by omega
 have z2:=N.size;have zb:=aD v.blk;obtain⟨A,B,hA,hB,q,I⟩:=v.ex;have H:=k1.tr N;have z:=N.get0 b1;refine⟨_,rfl,_,dT (i:=0) v.blk,Ai bits.d32 hi ?_⟩;rw[bits.dp i hi];cases hp:s.p i with
 |some y=>
  refine aA.2 ⟨_,rfl,sp,dT (i:=2) v.blk,_,rfl,_,dT (i:=0) v.blk,p.1,by rw[bL,bj z];rfl,p.2,by rw[bL,bj z];rfl,?_⟩
  refine oX bits.d32 hi ⟨⟨by rw[bL,bj z];rfl,by rw[bL,bj z];rfl⟩,dT (i:=2) v.blk,?_⟩
  have hlt:=Fq hi bits.dp hp;obtain⟨a,ha,L,hw,Y,m⟩:=OwnS.setAt hA hlt p;have hlen:=hA.len;refine⟨by omega,a,ha,?_⟩;rw[aH];refine⟨hw,bT ?_⟩;rw[←O7 hi bits.dp hp]at Y;have ob:=m.get v.blk fun e=>(q _ L).2.2.1 e.symm
  have z3:=m.size;have o3:OwnN (fun x=>S x∨h1.size≤x) _ G d n sp sk ⟨upd s.p i (some p),upd s.k i none⟩ o:=⟨ob,⟨bits.d32,bits.n32,fun c hc=>by
    rw[bits.dp c hc];simp only[upd];split
    ·rename_i e;rw[e,hp];rfl
    ·rfl,fun c hc=>by rw[bits.nk c hc,sI (hx y hp)]⟩,
   ⟨A,B,Y,by rw[sI (hx y hp)];exact hB.upd m fun x hx e=>(q _ L).2.1 (e▸hx),fun x hx=>⟨(q x hx).1,(q x hx).2.1,(q x hx).2.2.1,by have:=(q x hx).2.2.2;omega⟩,fun x hx=>⟨(I x hx).1,(I x hx).2.1,by have:=(I x hx).2.2;omega⟩⟩,v.mb⟩
  refine hk _ _ _ _ _ _ (o3.mono fun _=>P) (H.wide.trans m fun x hx=>?_)
  have hx:x=a.block:=hx;rw[hx];exact P (q _ L).1
 |none=>
  refine aj.2 ⟨_,rfl,GD v hi fun D d3 n3 F M o3 m=>?_⟩
  have f:=o3.bits;obtain⟨A3,B3,hA3,hB3,j,k⟩:=o3.ex;have z3:=m.size;have E:=m.get z fun e=>e.elim (fun e=>by have:=hS _ e;omega) fun e=>by omega
  have X:Upd S h D:=H.wide.trans m fun x hx=>P hx
  refine⟨_,rfl,F,dT (i:=2) o3.blk,_,rfl,_,dT (i:=0) o3.blk,p.1,by rw[bL,bj E];rfl,p.2,by rw[bL,bj E];rfl,?_⟩
  have Q:=Upd.hnew No D [.string p.1,.string p.2] aw;have b4:=cW D [.string p.1,.string p.2] aw;have z4:=kA D [.string p.1,.string p.2] aw;have O:=o3.upd Q fun _ h=>h.elim
  have fin:HC PG cN [.slice F.a F.len F.cap,.int .i64 (tE i d3),.slice (some (aC D)) 1 1] [.c .slice] (fun(J:SliceV) V=>
       ∃a34:Addr,some (⟨G,0,none⟩:Addr)=some a34∧
       (Wr V (adr (adr a34 0) 2)∧
        At (hset V (adr (adr a34 0) 2) (.slice J.a J.len J.cap)) (fun R=>
         ∃a36:Addr,some (⟨G,0,none⟩:Addr)=some a36∧
         ∃v37:Int,aM R (adr (adr a36 0) 0)=some (.int .u32 v37)∧
         HC PG fa [.int .u32 v37,.int .i64 i] [.c (.int .u32)] (fun(e38:Int) Z=>
          ∃a40:Addr,some (⟨G,0,none⟩:Addr)=some a40∧
          (Wr Z (adr (adr a40 0) 0)∧
           At (hset Z (adr (adr a40 0) 0) (.int .u32 e38)) (fun h41=>
            K (some ⟨G,0,none⟩) h41))) R))) (hnew D [.string p.1,.string p.2] aw):=by
   generalize hnew D [.string p.1,.string p.2] aw=h4 at Q b4 z4 O;rw[fR D];have hA4:=(hA3.upd Q fun _ _ h=>h).more (M':=fun x=>A3 x∨h4.size≤x) fun x hx=>.inl hx
   have hpn:(⟨upd s.p i none,upd s.k i none⟩:Slots).p i=none:=gg;refine Ko hA4 (RD hi f.dp) (by have:=vi (g:=(⟨upd s.p i none,upd s.k i none⟩:Slots).p);omega) (x:=p) b4 (fun e=>e.elim (fun e=>by have:=(j _ e).2.2.2;omega) fun e=>by omega) (fun x hx=>.inr hx) fun s5 h5 ho5 C=>?_
   rw[←O8 hi f.dp hpn p]at ho5;have hbl:G<D.size:=aD o3.blk;have b5:=C.get O.blk fun e=>e.elim (fun e=>(j _ e).2.2.1 rfl) fun e=>by omega
   refine⟨_,rfl,Qh (i:=2) b5 (show 2<6 by decide),Ee (i:=2) (c':=fy d3 n3 s5 M false o) b5 rfl fun h6 b6 hu6=>?_⟩
   refine⟨_,rfl,_,dT (i:=0) b6,LG f.d32 hi fun w1 hw hwt=>?_⟩
   refine⟨_,rfl,Qh (i:=0) b6 (show 0<6 by decide),Ee (i:=0) (c':=fy w1 n3 s5 M false o) b6 rfl fun h7 b7 hu7=>?_⟩
   have u:=hu6.tr hu7;have z5:=C.size;have z7:=u.size;have T:=ho5.within;have e1:(⟨upd (⟨upd s.p i none,upd s.k i none⟩:Slots).p i (some p),upd s.k i none⟩:Slots)=⟨upd s.p i (some p),upd s.k i none⟩:=by rw[LH]
   have o7:OwnN (fun x=>S x∨h1.size≤x) h7 G w1 n3 s5 M ⟨upd s.p i (some p),upd s.k i none⟩ o:=by
    rw[←e1];refine⟨b7,⟨hw,f.n32,fun c hc=>?_,f.nk⟩,⟨fun x=>(A3 x∨h4.size≤x)∧x<h5.size,B3,T.upd u fun x hx e=>?_,((hB3.upd Q fun _ _ h=>h).upd C fun x hx e=>?_).upd u fun x hx e=>(k x hx).2.1 e,fun x hx=>⟨?_,?_,?_,by omega⟩,fun x hx=>⟨(k x hx).1,(k x hx).2.1,by have:=(k x hx).2.2;omega⟩⟩,v.mb⟩
    ·rw[hwt,f.dp c hc];simp only[upd];split<;>simp[*]
    ·have e:x=G:=e
     rcases hx.1 with h|h
     ·exact(j x h).2.2.1 e
     ·omega
    ·rcases e with e|e
     ·exact(j x e).2.1 hx
     ·have:=(k x hx).2.2;omega
    ·rcases hx.1 with h|h
     ·exact(j x h).1
     ·exact .inr (by omega)
    ·rcases hx.1 with h|h
     ·exact(j x h).2.1
     ·exact fun hb=>by have:=(k x hb).2.2;omega
    ·rcases hx.1 with h|h
     ·exact(j x h).2.2.1
     ·omega
   refine hk _ _ _ _ _ _ (o7.mono fun _=>P) (((X.tr Q.wide).trans C fun x hx=>?_).trans u fun x hx=>?_)
   ·rcases hx with h|h
    ·exact P (j x h).1
    ·exact .inr (by omega)
   ·have hx:x=G:=hx
    rw[hx];exact P v.mb
  refine⟨oX f.d32 hi ⟨⟨by rw[bL,bj E];rfl,by rw[bL,bj E];rfl⟩,dT (i:=2) o3.blk,bT ⟨dT (i:=2) O.blk,fin⟩⟩,bT ⟨dT (i:=0) O.blk,dT (i:=2) O.blk,oX f.d32 hi ⟨dT (i:=2) O.blk,fin⟩⟩⟩
theorem NA{W S:Nat→Prop}{h:ad}{w o:Option Addr}{b:Nat}{s:Slots}(f:NodeO o W h b s S)(t:By h w o)(p:∀a,o=some a→W a.block){i:Nat}(hi:i<32){K:Option Addr→ad→Prop}
  (j:∀h' b' d n sp sk,OwnN (fun y=>S y∨h.size≤y) h' b' d n sp sk ⟨upd s.p i none,upd s.k i none⟩ o→Upd S h h'→K (some ⟨b',0,none⟩) h'):
  HC PG kJ [.pointer (some ⟨b,0,none⟩),.pointer w,.int .i64 i] [.c .ptr] K h:=by
 refine zl _ w i ?_;unfold rQ uw kC;refine C2 (f.read t) hi (aj.2 ?_);refine Gj f t p fun A z d n sp sk g c=>⟨_,rfl,GD g hi fun v q u k m o3 e=>?_⟩
 exact j _ _ _ _ _ _ o3 (c.wide.trans e fun x hx=>hx)
set_option maxHeartbeats 1000000 in
theorem tJ{W S:Nat→Prop}{h:ad}{w o:Option Addr}{b:Nat}{s:Slots}(nd:NodeO o W h b s S)(t:By h w o)(hW:∀a,o=some a→W a.block){i:Nat}(hi:i<32)(hx:∀y,s.k i=some y→s.p i=none)(kid:Addr){K:Option Addr→ad→Prop}
  (hk:∀h' b' d n sp sk,OwnN (fun y=>S y∨h.size≤y) h' b' d n sp sk ⟨upd s.p i none,upd s.k i (some (some kid))⟩ o→Upd S h h'→K (some ⟨b',0,none⟩) h'):
  HC PG gq [.pointer (some ⟨b,0,none⟩),.pointer w,.int .i64 i,.pointer (some kid)] [.c .ptr] K h:=by
 refine xV _ w i (some kid) ?_;unfold qM dK bD cV uw kC FV gF mQ;refine aj.2 ?_;refine C2 (nd.read t) hi (aj.2 ?_);refine Gj nd t hW fun h2 E d n sp sk q J=>?_
 have bits:=q.bits;have z2:=J.size;have zb:=aD q.blk;obtain⟨A,B,hA,hB,v,u⟩:=q.ex;refine⟨_,rfl,_,dT (i:=1) q.blk,Ai bits.n32 hi ?_⟩;rw[bits.nk i hi];cases hp:s.k i with
 |some y=>
  refine aA.2 ⟨_,rfl,sk,dT (i:=3) q.blk,_,rfl,_,dT (i:=1) q.blk,?_⟩;refine oX bits.n32 hi ⟨dT (i:=3) q.blk,?_⟩;have X:=Fq hi bits.nk hp;obtain⟨a,ha,G,H,R,m⟩:=OwnS.setAt hB X (some kid);have hlen:=hB.len;refine⟨by omega,a,ha,?_⟩;rw[aH];have Y:Wr h2 (adr a (tE i n*1)):=by
   rcases H with H|⟨b',hb',H⟩
   ·cases H
   ·cases hb';exact H 0 (by simp)
  refine⟨Y,bT ?_⟩;rw[←O7 hi bits.nk hp]at R;have ob:=m.get q.blk fun e=>(u _ G).2.1 e.symm
  have z3:=m.size;have o3:OwnN (fun x=>S x∨h.size≤x) _ E d n sp sk ⟨upd s.p i none,upd s.k i (some (some kid))⟩ o:=⟨ob,⟨bits.d32,bits.n32,fun c hc=>by rw[bits.dp c hc,sI (hx y hp)],fun c hc=>by
    rw[bits.nk c hc];simp only[upd];split
    ·rename_i e;rw[e,hp];rfl
    ·rfl⟩,
   ⟨A,B,by rw[sI (hx y hp)];exact hA.upd m fun x hx e=>(v _ hx).2.1 (e▸G),R,fun x hx=>⟨(v x hx).1,(v x hx).2.1,(v x hx).2.2.1,by have:=(v x hx).2.2.2;omega⟩,fun x hx=>⟨(u x hx).1,(u x hx).2.1,by have:=(u x hx).2.2;omega⟩⟩,q.mb⟩
  refine hk _ _ _ _ _ _ o3 (J.wide.trans m fun x hx=>?_)
  have hx:x=a.block:=hx;rw[hx];exact(u _ G).1
 |none=>
  refine aj.2 ⟨_,rfl,GD q hi fun C d3 n3 I D o3 m=>?_⟩
  have f:=o3.bits;obtain⟨A3,B3,Z,hB3,j,k⟩:=o3.ex;have z3:=m.size;have Q:Upd S h C:=J.wide.trans m fun x hx=>hx
  refine⟨_,rfl,D,dT (i:=3) o3.blk,_,rfl,_,dT (i:=1) o3.blk,?_⟩;have M:=Upd.hnew No C [.pointer (some kid)] bG;have b4:=cW C [.pointer (some kid)] bG;have z4:=kA C [.pointer (some kid)] bG;have L:=o3.upd M fun _ h=>h.elim
  have fin:HC PG cE [.slice D.a D.len D.cap,.int .i64 (tE i n3),.slice (some (aC C)) 1 1] [.c .slice] (fun(F:SliceV) P=>
       ∃a34:Addr,some (⟨E,0,none⟩:Addr)=some a34∧
       (Wr P (adr (adr a34 0) 3)∧
        At (hset P (adr (adr a34 0) 3) (.slice F.a F.len F.cap)) (fun N=>
         ∃a36:Addr,some (⟨E,0,none⟩:Addr)=some a36∧
         ∃v37:Int,aM N (adr (adr a36 0) 1)=some (.int .u32 v37)∧
         HC PG fa [.int .u32 v37,.int .i64 i] [.c (.int .u32)] (fun(e38:Int) T=>
          ∃a40:Addr,some (⟨E,0,none⟩:Addr)=some a40∧
          (Wr T (adr (adr a40 0) 1)∧
           At (hset T (adr (adr a40 0) 1) (.int .u32 e38)) (fun h41=>
            K (some ⟨E,0,none⟩) h41))) N))) (hnew C [.pointer (some kid)] bG):=by
   generalize hnew C [.pointer (some kid)] bG=h4 at M b4 z4 L;rw[fR C];have hB4:=(hB3.upd M fun _ _ h=>h).more (M':=fun x=>B3 x∨h4.size≤x) fun x hx=>.inl hx
   have hpn:(⟨upd s.p i none,upd s.k i none⟩:Slots).k i=none:=gg;refine Kp hB4 (RD hi f.nk) (by have:=vi (g:=(⟨upd s.p i none,upd s.k i none⟩:Slots).k);omega) (x:=some kid) b4 (fun e=>e.elim (fun e=>by have:=(k _ e).2.2;omega) fun e=>by omega) (fun x hx=>.inr hx) fun s5 h5 V z=>?_
   rw[←O8 hi f.nk hpn (some kid)]at V;have hbl:E<C.size:=aD o3.blk;have b5:=z.get L.blk fun e=>e.elim (fun e=>(k _ e).2.1 rfl) fun e=>by omega
   refine⟨_,rfl,Qh (i:=3) b5 (show 3<6 by decide),Ee (i:=3) (c':=fy d3 n3 I s5 false o) b5 rfl fun h6 b6 hu6=>?_⟩
   refine⟨_,rfl,_,dT (i:=1) b6,LG f.n32 hi fun w1 H hwt=>?_⟩
   refine⟨_,rfl,Qh (i:=1) b6 (show 1<6 by decide),Ee (i:=1) (c':=fy d3 w1 I s5 false o) b6 rfl fun h7 b7 hu7=>?_⟩
   have p:=hu6.tr hu7;have z5:=z.size;have z7:=p.size;have O:=V.within;have e1:(⟨upd s.p i none,upd (⟨upd s.p i none,upd s.k i none⟩:Slots).k i (some (some kid))⟩:Slots)=⟨upd s.p i none,upd s.k i (some (some kid))⟩:=by rw[LH]
   have o7:OwnN (fun x=>S x∨h.size≤x) h7 E d3 w1 I s5 ⟨upd s.p i none,upd s.k i (some (some kid))⟩ o:=by
    rw[←e1];refine⟨b7,⟨f.d32,H,f.dp,fun c hc=>?_⟩,⟨A3,fun x=>(B3 x∨h4.size≤x)∧x<h5.size,((Z.upd M fun _ _ h=>h).upd z fun x hx e=>?_).upd p fun x hx e=>(j x hx).2.2.1 e,O.upd p fun x hx e=>?_,fun x hx=>⟨(j x hx).1,?_,(j x hx).2.2.1,by have:=(j x hx).2.2.2;omega⟩,fun x hx=>⟨?_,?_,by omega⟩⟩,q.mb⟩
    ·rw[hwt,f.nk c hc];simp only[upd];split<;>simp[*]
    ·rcases e with e|e
     ·exact(j x hx).2.1 e
     ·have:=(j x hx).2.2.2;omega
    ·have e:x=E:=e
     rcases hx.1 with h|h
     ·exact(k x h).2.1 e
     ·omega
    ·rintro⟨h|h,_⟩
     ·exact(j x hx).2.1 h
     ·have:=(j x hx).2.2.2;omega
    ·rcases hx.1 with h|h
     ·exact(k x h).1
     ·exact .inr (by omega)
    ·rcases hx.1 with h|h
     ·exact(k x h).2.1
     ·omega
   refine hk _ _ _ _ _ _ o7 (((Q.tr M.wide).trans z fun x hx=>?_).trans p fun x hx=>?_)
   ·rcases hx with h|h
    ·exact(k x h).1
    ·exact .inr (by omega)
   ·have hx:x=E:=hx
    rw[hx];exact q.mb
  refine⟨oX f.n32 hi ⟨dT (i:=3) o3.blk,bT ⟨dT (i:=3) L.blk,fin⟩⟩,bT ⟨dT (i:=1) L.blk,dT (i:=3) L.blk,oX f.n32 hi ⟨dT (i:=3) L.blk,fin⟩⟩⟩
end Go.Proofs
namespace Go.Proofs
open Go.Lift
def OwnB(M:Nat→Prop)(h:ad)(b:Nat)(sp sk:SliceV)(l:List Pr)(o:Option Addr):Prop:=
 h[b]? =some (.cells (fy 0 0 sp sk true o) bK (0,0))∧M b∧∃A B:Nat→Prop,OwnS fP 2 aw A h sp l∧OwnS px 1 bG B h sk []∧(∀x,A x→M x∧x≠b∧x<h.size)∧(∀x,B x→M x∧x≠b∧x<h.size)
theorem OwnB.upd{M M':Nat→Prop}{h e:ad}{b:Nat}{sp sk:SliceV}{l:List Pr}{o:Option Addr}(n:OwnB M h b sp sk l o)(k:Upd M' h e)(hm:∀x,M' x→¬M x):OwnB M e b sp sk l o:=by
 obtain⟨j,f,A,B,i,g,a,c⟩:=n;have z:=k.size;exact⟨k.get j fun hx=>hm _ hx f,f,A,B,i.upd k fun x hx d=>hm _ d (a x hx).1,g.upd k fun x hx d=>hm _ d (c x hx).1,fun x hx=>⟨(a x hx).1,(a x hx).2.1,by have:=(a x hx).2.2;omega⟩,fun x hx=>⟨(c x hx).1,(c x hx).2.1,by have:=(c x hx).2.2;omega⟩⟩
theorem OwnB.mono{M M':Nat→Prop}{h:ad}{b:Nat}{sp sk:SliceV}{l:List Pr}{o:Option Addr}(n:OwnB M h b sp sk l o)(hm:∀x,M x→M' x):OwnB M' h b sp sk l o:=by
 obtain⟨f,g,A,B,e,d,a,c⟩:=n;exact⟨f,hm _ g,A,B,e,d,fun x hx=>⟨hm _ (a x hx).1,(a x hx).2⟩,fun x hx=>⟨hm _ (c x hx).1,(c x hx).2⟩⟩
theorem OwnB.within{M:Nat→Prop}{h:ad}{b:Nat}{sp sk:SliceV}{l:List Pr}{o:Option Addr}(n:OwnB M h b sp sk l o):OwnB (fun x=>M x∧x<h.size) h b sp sk l o:=by
 obtain⟨d,e,A,B,f,g,a,c⟩:=n;exact⟨d,⟨e,aD d⟩,A,B,f,g,fun x hx=>⟨⟨(a x hx).1,(a x hx).2.2⟩,(a x hx).2⟩,fun x hx=>⟨⟨(c x hx).1,(c x hx).2.2⟩,(c x hx).2⟩⟩
theorem OwnB.buck{M W:Nat→Prop}{h:ad}{b:Nat}{sp sk:SliceV}{l:List Pr}{o:Option Addr}(n:OwnB M h b sp sk l o)(a:∀x,M x→¬W x)(i:OwOk W h o):BuckAt W h b l:=by
 obtain⟨j,e,A,B,c,d,f,g⟩:=n;exact⟨⟨sp,sk,o,j,c.sl fun x hx _=>a _ (f x hx).1,d.sl fun x hx _=>a _ (g x hx).1,c.cap,d.cap,i⟩,a _ e⟩
def BuckO(o:Option Addr)(W:Nat→Prop)(h:ad)(b:Nat)(l:List Pr)(S:Nat→Prop):Prop:=
 (BuckAt W h b l∧∀y,¬S y)∨(o.isSome=true∧∃sp sk,OwnB S h b sp sk l o)
theorem BuckO.upd0{o:Option Addr}{W S:Nat→Prop}{h a:ad}{b:Nat}{l:List Pr}(n:BuckO o W h b l S)(k:Upd No h a):BuckO o W a b l S:=
 n.imp (fun n=>⟨n.1.upd k fun _ h=>h.elim,n.2⟩) fun⟨e,sp,sk,c⟩=>⟨e,sp,sk,c.upd k fun _ h=>h.elim⟩
theorem BuckO.read{o w:Option Addr}{W S:Nat→Prop}{h:ad}{b:Nat}{l:List Pr}(d:BuckO o W h b l S)(t:By h w o):BuckAt No h b l:=by
 rcases d with⟨n,_⟩|⟨e,sp,sk,c⟩
 ·exact n.less fun _ h=>h.elim
 ·exact c.buck (fun _ _ h=>h) fun a e=>⟨id,t.plain a (t.tok e)⟩
theorem HZ{W S:Nat→Prop}{h:ad}{w o:Option Addr}{b:Nat}{l:List Pr}(g:BuckO o W h b l S)(t:By h w o)(G:∀a,o=some a→W a.block)(E:l.length≤1000000000){K:Option Addr→ad→Prop}
  (z:∀i m sp sk,OwnB (fun y=>S y∨h.size≤y) i m sp sk l o→Upd No h i→K (some ⟨m,0,none⟩) i):
  HC PG eM [.pointer (some ⟨b,0,none⟩),.pointer w] [.c .ptr] K h:=by
 rcases g with⟨g,_⟩|⟨C,sp,sk,g⟩
 ·obtain⟨sp,sk,ow,I,s,q,F,J,j⟩:=g.ex
  refine LZ (d:=0) (n:=0) t I (fun a e=>(j a e).2) ?_ s q E (by simp) fun i u p A B m H D f c k=>?_
  ·cases ho:o with
   |none=>rfl
   |some a=>
    have e:=t.tok ho;rw[Option.isSome_some,Bool.true_and,beq_eq_false_iff_ne];intro v;rw[e]at v;exact(j a v).1 (G a ho)
  ·exact z i h.size u p ⟨m,.inr (ao _),A,B,H,D,fun x hx=>⟨.inr (by have:=(f x hx).1;omega),by have:=(f x hx).1;omega,(f x hx).2.2⟩,fun x hx=>⟨.inr (by have:=(c x hx).1;omega),by have:=(c x hx).1;omega,(c x hx).2⟩⟩ k
 ·refine LY (d:=0) (n:=0) t g.1 (fun a e=>t.plain a (t.tok e)) ?_ (z h b sp sk (g.mono fun _ h=>.inl h) (Upd.refl _ _))
  obtain⟨a,e⟩:=Option.isSome_iff_exists.1 C;rw[C,e,t.tok e];simp
theorem Du{W S:Nat→Prop}{h:ad}{w o:Option Addr}{b:Nat}{l:List Pr}(V:BuckO o W h b l S)(t:By h w o)(M:∀a,o=some a→W a.block)(hS:∀y,S y→y<h.size)(C:cu l)(v:l.length≤1000000000)(p:Pr){K:Option Addr→ad→Prop}
  (J:∀h' b' sp sk,OwnB (fun y=>S y∨h.size≤y) h' b' sp sk (gY p l) o→Upd S h h'→K (some ⟨b',0,none⟩) h'):
  HC PG j5 [.pointer (some ⟨b,0,none⟩),.pointer w,.agg #[.string p.1,.string p.2]] [.c .ptr] K h:=by
 refine BO _ w p ?_;unfold uG aB bD cV qX uL uw;have k1:=Upd.hnew No h [.string p.1,.string p.2] aw;have b1:=cW h [.string p.1,.string p.2] aw;refine bT ?_;simp only[fR h];generalize hnew h [.string p.1,.string p.2] aw=h1 at k1 b1;have z1:=aD b1;have m:=V.upd0 k1;have E:=t.upd0 k1;obtain⟨sp,sk,ow,N,T,P,H,R⟩:=(m.read E).ex
 refine g7 (d:=0) (n:=0) N (aj.2 ?_);refine HZ m E M v fun G s s2 z I j=>?_
 obtain⟨b2,hM,A,B,D,F,Z,c⟩:=I;have q:=j.get0 b1;refine⟨_,rfl,s2,dT (i:=2) b2,p.1,by rw[bL,bj q];rfl,p.2,by rw[bL,bj q];rfl,?_⟩
 refine JX (D.sl (W:=No) fun _ _ _ h=>h) D.cap C v p fun s3 L k f=>?_
 rw[L6 p C]at k;have b3:=f.get0 b2;refine⟨_,rfl,Qh (i:=2) b3 (show 2<6 by decide),Ee (i:=2) (c':=fy 0 0 s3 z true o) b3 rfl fun Q X g=>?_⟩
 have z2:=aD b2;have O:=j.size;have z3:=f.size;have Y:=g.size;have u:∀{x},(S x∨h1.size≤x)→(S x∨h.size≤x):=fun h=>h.imp id fun h=>by omega
 refine J Q s s3 z ⟨X,u hM,fun x=>G.size≤x∧x<L.size,B,k.within.upd g fun x hx e=>?_,(F.upd f fun _ _ h=>h).upd g fun x hx e=>(c x hx).2.1 e,fun x hx=>⟨.inr (by omega),by omega,by omega⟩,fun x hx=>⟨u (c x hx).1,(c x hx).2.1,by have:=(c x hx).2.2;omega⟩⟩ ((((k1.tr j).tr f).wide).trans g fun x hx=>?_)
 ·have e:x=s:=e
  have:=hx.1;omega
 ·have hx:x=s:=hx
  rw[hx];exact u hM
def TrieO(o:Option Addr)(W:Nat→Prop)(x:Hs)(h:ad):Nat→Nat→List Pr→(Nat→Prop)→Prop
 |0,b,l,S=>BuckO o W h b l S
 |m+1,b,l,S=>(TrieAt W x h (m+1) b l∧∀y,¬S y)∨(o.isSome=true∧∃(s:Slots) (d n:Nat) (sp sk:SliceV) (S0:Nat→Prop) (T:Nat→Nat→Prop),OwnN S0 h b d n sp sk s o∧(∀y,S0 y→S y)∧(∀c y,T c y→S y∧¬S0 y)∧(∀c c' y,T c y→T c' y→c=c')∧∀c,c<32→
  ((part x (12-m) c l= []∧s.p c=none∧s.k c=none∧∀y,¬T c y)∨(∃p,part x (12-m) c l= [p]∧s.p c=some p∧s.k c=none∧∀y,¬T c y)∨
   (2≤(part x (12-m) c l).length∧s.p c=none∧∃kb,s.k c=some (some ⟨kb,0,none⟩)∧TrieO o W x h m kb (part x (12-m) c l) (T c))))
def SlotO(o:Option Addr)(W:Nat→Prop)(x:Hs)(h:ad)(m:Nat)(s:Slots)(c:Nat)(l:List Pr)(T:Nat→Prop):Prop:=
 (l= []∧s.p c=none∧s.k c=none∧∀y,¬T y)∨(∃p,l= [p]∧s.p c=some p∧s.k c=none∧∀y,¬T y)∨(2≤l.length∧s.p c=none∧∃kb,s.k c=some (some ⟨kb,0,none⟩)∧TrieO o W x h m kb l T)
theorem Ho{o:Option Addr}{W:Nat→Prop}{x:Hs}{h:ad}:∀{m b:Nat} {l:List Pr},TrieAt W x h m b l→TrieO o W x h m b l No
 |0,_,_,t=>.inl ⟨t,fun _ h=>h⟩
 |_+1,_,_,t=>.inl ⟨t,fun _ h=>h⟩
theorem TrieO.freeze{o:Option Addr}{W W':Nat→Prop}{x:Hs}{h:ad}(i:∀y,W' y→W y)(f:OwOk W' h o):∀{m b:Nat} {l:List Pr} {S:Nat→Prop},TrieO o W x h m b l S→(∀y,S y→¬W' y)→TrieAt W' x h m b l
 |0,_,_,_,t,hS=>t.elim (fun t=>t.1.less fun y a=>.inl (i y a)) fun⟨_,_,_,t⟩=>t.buck hS f
 |m+1,b,l,S,t,hS=>by
  rcases t with⟨t,_⟩|⟨_,s,d,n,sp,sk,A,T,u,q,v,_,hc⟩
  ·exact TrieAt.less (fun y a=>.inl (i y a)) t
  ·exact⟨s,u.node (fun y a=>hS y (q y a)) f,fun c e=>(hc c e).imp (fun h=>⟨h.1,h.2.1,h.2.2.1⟩) fun o=>o.imp (fun⟨p,j,k,g,_⟩=>⟨p,j,k,g⟩) fun⟨j,k,z,g,w⟩=>⟨j,k,z,g,TrieO.freeze i f w fun y a=>hS y (v c y a).1⟩⟩
theorem TrieO.read{o w:Option Addr}{W S:Nat→Prop}{x:Hs}{h:ad}{m b:Nat}{l:List Pr}(t:TrieO o W x h m b l S)(by_:By h w o):TrieAt No x h m b l:=
 TrieO.freeze (fun _ h=>h.elim) (fun a e=>⟨id,by_.plain a (by_.tok e)⟩) t fun _ _ h=>h
theorem TrieO.off{W S:Nat→Prop}{x:Hs}{h:ad}{m b:Nat}{l:List Pr}(t:TrieO none W x h m b l S):TrieAt W x h m b l∧∀y,¬S y:=by
 cases m with
 |zero=>exact t.elim id fun h=>absurd h.1 (by simp)
 |succ m=>exact t.elim id fun h=>absurd h.1 (by simp)
theorem TrieO.upd{o:Option Addr}{W M:Nat→Prop}{x:Hs}{h p:ad}(k:Upd M h p):∀{m b:Nat} {l:List Pr} {S:Nat→Prop},TrieO o W x h m b l S→(∀y,S y→y<h.size)→(∀y,M y→(W y∧¬S y)∨h.size≤y)→TrieO o W x p m b l S
 |0,_,_,S,t,hS,hm=>t.imp (fun t=>⟨t.1.upd k fun y a=>(hm y a).imp (fun h=>h.1) id,t.2⟩) fun⟨e,sp,sk,t⟩=>⟨e,sp,sk,t.upd k fun y a f=>by
   have:=hS y f
   rcases hm y a with h|h
   ·exact h.2 f
   ·omega⟩
 |m+1,b,l,S,t,hS,hm=>by
  rcases t with⟨t,e⟩|⟨e,s,d,n,sp,sk,q,T,u,g,i,hd,hc⟩
  ·exact .inl ⟨TrieAt.updM k (fun y a=>(hm y a).imp (fun h=>h.1) id) t,e⟩
  ·refine .inr ⟨e,s,d,n,sp,sk,q,T,u.upd k fun y a f=>?_,g,i,hd,fun c j=>(hc c j).imp id fun o=>o.imp id fun⟨z,A,B,w,v⟩=>⟨z,A,B,w,TrieO.upd k v (fun y a=>hS y (i c y a).1) fun y a=>(hm y a).imp (fun h=>⟨h.1,fun C=>h.2 (i c y C).1⟩) id⟩⟩
   have:=hS y (g y f);rcases hm y a with h|h
   ·exact h.2 (g y f)
   ·omega
theorem TrieO.upd0{o:Option Addr}{W:Nat→Prop}{x:Hs}{h f:ad}(k:Upd No h f):∀{m b:Nat} {l:List Pr} {S:Nat→Prop},TrieO o W x h m b l S→TrieO o W x f m b l S
 |0,_,_,_,t=>BuckO.upd0 t k
 |m+1,b,l,S,t=>by
  rcases t with⟨t,e⟩|⟨e,s,d,n,sp,sk,i,T,j,g,p,hd,hc⟩
  ·exact .inl ⟨TrieAt.upd0 k t,e⟩
  ·exact .inr ⟨e,s,d,n,sp,sk,i,T,j.upd k fun _ h=>h.elim,g,p,hd,fun c a=>(hc c a).imp id fun o=>o.imp id fun⟨v,w,y,u,q⟩=>⟨v,w,y,u,TrieO.upd0 k q⟩⟩
theorem TrieO.less{o:Option Addr}{W W':Nat→Prop}{x:Hs}{h:ad}(hm:∀y,W' y→W y∨h.size≤y):∀{m b:Nat} {l:List Pr} {S:Nat→Prop},TrieO o W x h m b l S→TrieO o W' x h m b l S
 |0,_,_,_,t=>t.imp (fun t=>⟨t.1.less hm,t.2⟩) id
 |m+1,b,l,S,t=>by
  rcases t with⟨t,e⟩|⟨e,s,d,n,sp,sk,g,T,i,f,j,hd,hc⟩
  ·exact .inl ⟨TrieAt.less hm t,e⟩
  ·exact .inr ⟨e,s,d,n,sp,sk,g,T,i,f,j,hd,fun c a=>(hc c a).imp id fun o=>o.imp id fun⟨q,u,v,p,k⟩=>⟨q,u,v,p,TrieO.less hm k⟩⟩
theorem SlotO.upd{o:Option Addr}{W M:Nat→Prop}{x:Hs}{h a:ad}(k:Upd M h a){m:Nat}{s:Slots}{c:Nat}{l:List Pr}{T:Nat→Prop}(t:SlotO o W x h m s c l T)(b:∀y,T y→y<h.size)(hm:∀y,M y→(W y∧¬T y)∨h.size≤y):SlotO o W x a m s c l T:=
 t.imp id fun o=>o.imp id fun⟨f,g,i,e,d⟩=>⟨f,g,i,e,TrieO.upd k d b hm⟩
theorem SlotO.less{o:Option Addr}{W W':Nat→Prop}{x:Hs}{h:ad}(hm:∀y,W' y→W y∨h.size≤y){m:Nat}{s:Slots}{c:Nat}{l:List Pr}{T:Nat→Prop}(t:SlotO o W x h m s c l T):SlotO o W' x h m s c l T:=
 t.imp id fun o=>o.imp id fun⟨d,e,f,b,a⟩=>⟨d,e,f,b,TrieO.less hm a⟩
theorem SlotO.turn{o:Option Addr}{W:Nat→Prop}{x:Hs}{h:ad}{m:Nat}{s s':Slots}{c:Nat}{l:List Pr}{T:Nat→Prop}(t:SlotO o W x h m s c l T)(a:s'.p c=s.p c)(b:s'.k c=s.k c):SlotO o W x h m s' c l T:=by
 unfold SlotO at t⊢;rw[a,b];exact t
theorem TrieO.view{o:Option Addr}{W S:Nat→Prop}{x:Hs}{h:ad}{m b:Nat}{l:List Pr}(t:TrieO o W x h (m+1) b l S):
  ∃(s:Slots) (a:Nat→Prop) (T:Nat→Nat→Prop),NodeO o W h b s a∧(∀y,a y→S y)∧(∀c y,T c y→S y∧¬a y)∧(∀c c' y,T c y→T c' y→c=c')∧∀c,c<32→SlotO o W x h m s c (part x (12-m) c l) (T c):=by
 rcases t with⟨⟨s,q,hc⟩,e⟩|⟨e,s,d,n,sp,sk,a,T,u,k,v,hd,hc⟩
 ·exact⟨s,No,fun _=>No,.inl ⟨q,fun _ h=>h⟩,fun _ h=>h.elim,fun _ _ h=>h.elim,fun _ _ _ h=>h.elim,fun c f=>(hc c f).imp (fun h=>⟨h.1,h.2.1,h.2.2,fun _ h=>h⟩) fun o=>o.imp (fun⟨p,i,j,g⟩=>⟨p,i,j,g,fun _ h=>h⟩) fun⟨i,j,z,g,w⟩=>⟨i,j,z,g,Ho w⟩⟩
 ·exact⟨s,a,T,.inr ⟨e,d,n,sp,sk,u⟩,k,v,hd,hc⟩
theorem EJ{o:Option Addr}{W j:Nat→Prop}{T:Nat→Nat→Prop}{x:Hs}{k:ad}{m u d n z:Nat}{sp sk:SliceV}{s':Slots}{l':List Pr}(t:OwnN (fun y=>j y∨z≤y) k u d n sp sk s' o)
  (hc:∀c,c<32→SlotO o W x k m s' c (part x (12-m) c l') (T c))(A:∀c y,T c y→y<z∧¬j y)(hd:∀c c' y,T c y→T c' y→c=c')(v:o=none→(∀y,¬j y)∧∀y,W y→y<z):
  TrieO o W x k (m+1) u l' (fun y=>o.isSome=true∧(((j y∨z≤y)∧y<k.size)∨∃c,c<32∧T c y)):=by
 cases o with
 |none=>
  obtain⟨w,C⟩:=v rfl;refine .inl ⟨⟨s',t.node (fun y f s=>?_) kz,fun c b=>?_⟩,fun y f=>by simp at f⟩
  ·have:=C y s
   rcases f with h|h
   ·exact w y h
   ·omega
  ·exact(hc c b).imp (fun h=>⟨h.1,h.2.1,h.2.2.1⟩) fun o=>o.imp (fun⟨p,i,g,q,_⟩=>⟨p,i,g,q⟩) fun⟨i,g,D,q,B⟩=>⟨i,g,D,q,B.off.1⟩
 |some a=>
  refine .inr ⟨rfl,s',d,n,sp,sk,fun y=>(j y∨z≤y)∧y<k.size,fun c y=>c<32∧T c y,t.within,fun y f=>⟨rfl,.inl f⟩,fun c y f=>⟨⟨rfl,.inr ⟨c,f⟩⟩,fun h=>?_⟩,fun c c' y i g=>hd c c' y i.2 g.2,fun c b=>?_⟩
  ·obtain⟨i,g⟩:=A c y f.2
   rcases h.1 with h|h
   ·exact g h
   ·omega
  ·have e:(fun y=>c<32∧T c y)=T c:=funext fun y=>propext ⟨fun h=>h.2,fun h=>⟨b,h⟩⟩
   have:=hc c b;unfold SlotO at this;rw[←e]at this;exact this
end Go.Proofs
namespace Go.Proofs
open Go.Lift
theorem Nh{o:Option Addr}{W c:Nat→Prop}{e:ad}{i d n z:Nat}{sp sk:SliceV}{s':Slots}(g:OwnN (fun y=>c y∨z≤y) e i d n sp sk s' o)(j:o=none→(∀y,¬c y)∧∀y,W y→y<z):
  NodeO o W e i s' (fun y=>o.isSome=true∧(c y∨z≤y)∧y<e.size):=by
 cases o with
 |none=>
  obtain⟨k,m⟩:=j rfl;refine .inl ⟨g.node (fun y b f=>?_) kz,fun y b=>by simp at b⟩
  have:=m y f;rcases b with h|h
  ·exact k y h
  ·omega
 |some a=>exact .inr ⟨rfl,d,n,sp,sk,g.within.mono fun y b=>⟨rfl,b⟩⟩
theorem wg{o:Option Addr}{W c:Nat→Prop}{d:ad}{g z:Nat}{sp sk:SliceV}{l:List Pr}(f:OwnB (fun y=>c y∨z≤y) d g sp sk l o)(i:o=none→(∀y,¬c y)∧∀y,W y→y<z):
  BuckO o W d g l (fun y=>o.isSome=true∧(c y∨z≤y)∧y<d.size):=by
 cases o with
 |none=>
  obtain⟨j,k⟩:=i rfl;refine .inl ⟨f.buck (fun y b e=>?_) kz,fun y b=>by simp at b⟩
  have:=k y e;rcases b with h|h
  ·exact j y h
  ·omega
 |some a=>exact .inr ⟨rfl,sp,sk,f.within.mono fun y b=>⟨rfl,b⟩⟩
def SN(o:Option Addr)(b:Nat→Prop)(z:Nat)(a:ad)(T:Nat→Nat→Prop)(y:Nat):Prop:=o.isSome=true∧(((b y∨z≤y)∧y<a.size)∨∃c,c<32∧T c y)
def sT(T:Nat→Nat→Prop)(i:Nat)(S:Nat→Prop)(c:Nat):Nat→Prop:=if c=i then S else T c
theorem yq{T:Nat→Nat→Prop}{i:Nat}{S:Nat→Prop}:sT T i S i=S:=if_pos rfl
theorem qo{T:Nat→Nat→Prop}{i c:Nat}{S:Nat→Prop}(h:c≠i):sT T i S c=T c:=if_neg h
theorem KW{o:Option Addr}{S d T':Nat→Prop}{z z0 c0:Nat}{a:ad}{T:Nat→Nat→Prop}(i:∀y,d y→S y)(f:∀c y,T c y→S y∧y<a.size)(b:∀y,T' y→(S y∨z0≤y)∧y<a.size)(hz:z0≤z){y:Nat}(j:SN o d z a (sT T c0 T') y):(S y∨z0≤y)∧y<a.size:=by
 rcases j.2 with⟨h|h,g⟩|⟨c,_,h⟩
 ·exact⟨.inl (i y h),g⟩
 ·exact⟨.inr (Nat.le_trans hz h),g⟩
 ·by_cases e:c=c0
  ·subst e;rw[yq]at h;exact b y h
  ·rw[qo e]at h;exact⟨.inl (f c y h).1,(f c y h).2⟩
theorem xi{o:Option Addr}{W W1 f T':Nat→Prop}{T:Nat→Nat→Prop}{x:Hs}{hz g:ad}{m D d n c0:Nat}{sp sk:SliceV}{s s':Slots}{l':List Pr}
  (F:OwnN (fun y=>f y∨hz.size≤y) g D d n sp sk s' o)(H:Upd f hz g)(G:∀c,c<32→c≠c0→SlotO o W1 x hz m s c (part x (12-m) c l') (T c))(B:∀c,c≠c0→s'.p c=s.p c∧s'.k c=s.k c)
  (hi:SlotO o W1 x hz m s' c0 (part x (12-m) c0 l') T')(q:∀y,W y→W1 y)(u:∀y,f y→W1 y)(v:∀c y,T c y→W1 y)(k:∀y,T' y→W1 y)(A:∀c y,T c y→y<hz.size∧¬f y)(b:∀y,T' y→y<hz.size∧¬f y∧∀c,c≠c0→¬T c y)
  (hd:∀c c' y,T c y→T c' y→c=c')(z:o=none→(∀y,¬f y)∧∀y,W1 y→y<hz.size):
  TrieO o (fun y=>W y∨SN o f hz.size g (sT T c0 T') y) x g (m+1) D l' (SN o f hz.size g (sT T c0 T')):=by
 have p:∀c y,sT T c0 T' c y→W1 y∧y<hz.size∧¬f y:=fun c y h=>by
  by_cases e:c=c0
  ·subst e;rw[yq]at h;exact⟨k y h,(b y h).1,(b y h).2.1⟩
  ·rw[qo e]at h;exact⟨v c y h,A c y h⟩
 have E:∀y,(W y∨SN o f hz.size g (sT T c0 T') y)→(W1 y∨hz.size≤y):=fun y a=>by
  rcases a with h|⟨_,⟨h|h,_⟩|⟨c,_,h⟩⟩
  ·exact .inl (q y h)
  ·exact .inl (u y h)
  ·exact .inr h
  ·exact .inl (p c y h).1
 have w:∀{s:Slots} {c:Nat} {l:List Pr} {U:Nat→Prop},SlotO o W1 x hz m s c l U→(∀y,U y→y<hz.size∧¬f y)→SlotO o (fun y=>W y∨SN o f hz.size g (sT T c0 T') y) x g m s c l U:=fun t C=>
  ((t.less (W':=fun y=>W1 y∨hz.size≤y) fun y a=>a).upd H (fun y a=>(C y a).1) fun y a=>.inl ⟨.inl (u y a),fun h=>(C y h).2 a⟩).less fun y a=>.inl (E y a)
 refine EJ F (fun c hc=>?_) (fun c y h=>(p c y h).2) (fun c c' y j i=>?_) fun e=>⟨(z e).1,fun y a=>?_⟩
 ·by_cases e:c=c0
  ·subst e;rw[yq];exact w hi fun y a=>⟨(b y a).1,(b y a).2.1⟩
  ·rw[qo e];exact(w (G c hc e) fun y a=>A c y a).turn (B c e).1 (B c e).2
 ·by_cases e:c=c0<;>by_cases e':c'=c0
  ·omega
  ·subst e;rw[yq]at j;rw[qo e']at i;exact absurd i ((b y j).2.2 c' e')
  ·subst e';rw[yq]at i;rw[qo e]at j;exact absurd j ((b y i).2.2 c e)
  ·rw[qo e]at j;rw[qo e']at i;exact hd c c' y j i
 ·rcases a with h|⟨h,_⟩
  ·exact(z e).2 y (q y h)
  ·rw[e]at h;cases h
abbrev N5(x:Hs)(w:Option Addr)(k:ByteArray):Value:=.agg #[.int .u64 x.k0,.int .u64 x.k1,.int .u64 x.mask,.pointer w,.string k,.int .u64 (kX x k)]
set_option maxHeartbeats 1000000 in
theorem PN{W:Nat→Prop}{x:Hs}{w o:Option Addr}:∀(m:Nat) (p q:Pr),m≤13→p.1≠q.1→∀{h:ad},(∀y,W y→y<h.size)→By h w o→(∀a,o=some a→W a.block)→∀{K:Option Addr→ad→Prop},(∀h' b' S',TrieO o (fun y=>W y∨S' y) x h' m b' (gY q [p]) S'→(∀y,S' y→h.size≤y∧y<h'.size)→Upd No h h'→K (some ⟨b',0,none⟩) h')→
  HC PG kL [N5 x w q.1,.agg #[.string p.1,.string p.2],.agg #[.string q.1,.string q.2],.int .i64 ((13-m:Nat):Int)] [.c .ptr] K h:=by
 intro m;induction m with
 |zero=>
  intro p q _ Y h hW t G K hk;have L:∀{h'},Upd No h h'→∀y,W y→y<h'.size:=fun k y g=>bR (hW y g) k.size
  refine rC (x.k0,x.k1,x.mask,w,q.1,kX x q.1) p q ((13-0:Nat):Int) ?_;unfold nX ag bN aB vM qX aJ uL xg Gi l9 Cn;refine aO fun h1 b1 k1=>aO fun h2 b2 k2=>aO fun O b3 k3=>?_
  have j:=(k1.tr k2).tr k3;have u:∀{h':ad},Upd No O h'→∀i,aM h' (adr ⟨h.size,0,none⟩ i)=(#[.int .u64 x.k0,.int .u64 x.k1,.int .u64 x.mask,.pointer w,.string q.1,.int .u64 (kX x q.1)]:Array Value)[i]?:=fun k i=>by
   rw[bL,bj (k.get0 (k3.get0 (k2.get0 b1))),aE]
  have H:∀{h':ad},Upd No O h'→∀i,aM h' (adr ⟨h1.size,0,none⟩ i)=(#[.string p.1,.string p.2]:Array Value)[i]?:=fun k i=>by rw[bL,bj (k.get0 (k3.get0 b2)),aE]
  have E:∀{h':ad},Upd No O h'→∀i,aM h' (adr ⟨h2.size,0,none⟩ i)=(#[.string q.1,.string q.2]:Array Value)[i]?:=fun k i=>by rw[bL,bj (k.get0 b3),aE]
  have r:=Upd.refl No O;have z03:=j.size;refine aA.2 ⟨w,u r 3,p.1,H r 0,p.2,H r 1,w,u r 3,q.1,E r 0,q.2,E r 1,?_⟩;refine ND (L j) fun h4 b4 bk4 f=>⟨⟨E f 0,E f 1⟩,u f 3,⟨H f 0,H f 1⟩,u f 3,?_⟩
  have t4:=t.upd0 (j.tr f);have z4:=f.size;refine Du (S:=No) (.inl ⟨bk4,fun _ h=>h⟩) t4 G (fun _ h=>h.elim) fX (by simp) p fun Q b5 sp5 sk5 on5 C=>?_
  have D:=f.tr C;have z5:=C.size;refine⟨⟨E D 0,E D 1⟩,u D 3,?_⟩;have bk5:=wg (W:=W) (z:=h4.size) on5 fun e=>⟨fun _ h=>h,L (j.tr f)⟩
  have t5:=t4.upd0 C;refine Du bk5 t5 G (fun y g=>g.2.2) (fK ..) (by simp[gY]) q fun M b6 sp6 sk6 on6 A=>?_
  have z6:=A.size;have bk6:=wg (W:=fun y=>W y∨(o.isSome=true∧((o.isSome=true∧((No y∨h4.size≤y)∧y<Q.size))∨Q.size≤y)∧y<M.size)) (z:=Q.size) on6 fun e=>⟨fun y g=>(by rw[e]at g;cases g.1),fun y g=>(by
   rcases g with g|g
   ·exact L (j.tr D) y g
   ·rw[e]at g;cases g.1)⟩
  refine hk M b6 _ bk6 (fun y g=>?_) ((j.tr D).trans A fun y g=>.inr ?_)
  ·rcases g.2.1 with h|h
   ·rcases h.2.1 with h|h
    ·exact h.elim
    ·exact⟨by omega,g.2.2⟩
   ·exact⟨by omega,g.2.2⟩
  ·rcases g.2.1 with h|h
   ·exact h.elim
   ·omega
 |succ m ih=>
  intro p q hm Y h hW t G K hk;have L:∀{h'},Upd No h h'→∀y,W y→y<h'.size:=fun k y g=>bR (hW y g) k.size
  have hl:13-(m+1)<13:=by omega
  have B:13-(m+1)=12-m:=by omega
  refine rC (x.k0,x.k1,x.mask,w,q.1,kX x q.1) p q ((13-(m+1):Nat):Int) ?_;unfold nX ag bN aB vM qX aJ uL xg Gi l9 Cn;refine aO fun h1 b1 k1=>aO fun h2 b2 k2=>aO fun O b3 k3=>?_
  have j:=(k1.tr k2).tr k3;have u:∀{h':ad},Upd No O h'→∀i,aM h' (adr ⟨h.size,0,none⟩ i)=(#[.int .u64 x.k0,.int .u64 x.k1,.int .u64 x.mask,.pointer w,.string q.1,.int .u64 (kX x q.1)]:Array Value)[i]?:=fun k i=>by
   rw[bL,bj (k.get0 (k3.get0 (k2.get0 b1))),aE]
  have H:∀{h':ad},Upd No O h'→∀i,aM h' (adr ⟨h1.size,0,none⟩ i)=(#[.string p.1,.string p.2]:Array Value)[i]?:=fun k i=>by rw[bL,bj (k.get0 (k3.get0 b2)),aE]
  have E:∀{h':ad},Upd No O h'→∀i,aM h' (adr ⟨h2.size,0,none⟩ i)=(#[.string q.1,.string q.2]:Array Value)[i]?:=fun k i=>by rw[bL,bj (k.get0 b3),aE]
  have r:=Upd.refl No O;have z03:=j.size;have ne:(((13-(m+1):Nat):Int)==(13:Int))=false:=by rw[beq_eq_false_iff_ne];omega
  rw[ne];refine aj.2 ⟨_,u r 0,_,u r 1,_,u r 2,_,H r 0,_,u r 5,?_⟩;refine tP fun h4 f=>⟨u f 5,PE hl ⟨u f 5,PE hl ?_⟩⟩
  have hi:=yU x (13-(m+1)) p.1;have hj:=yU x (13-(m+1)) q.1;have hcl:=LI Y;have z4:=f.size;refine CondP.intro (fun e=>?_) fun e=>?_
  ·have e:ck x (13-(m+1)) p.1=ck x (13-(m+1)) q.1:=by have:=eq_of_beq e;omega
   refine⟨_,u f 3,_,u f 0,_,u f 1,_,u f 2,_,u f 3,_,u f 4,_,u f 5,_,H f 0,_,H f 1,_,E f 0,_,E f 1,?_⟩;refine tN (L (j.tr f)) fun Q b5 V C=>?_
   have b:=f.tr C;have z5:=C.size;refine⟨⟨E b 0,E b 1⟩,⟨H b 0,H b 1⟩,⟨u b 0,u b 1,u b 2,u b 3,u b 4,u b 5⟩,u b 3,?_⟩;have ew:IntKind.wrap .i64 (((13-(m+1):Nat):Int)+1)=((13-m:Nat):Int):=by rw[oq (by omega)];omega
   rw[ew];refine ih p q (by omega) Y (L (j.tr b)) (t.upd0 (j.tr b)) G fun M b6 Sk t6 P A=>?_
   have v:=b.tr A;have z6:=A.size;refine⟨u v 3,?_⟩;refine tJ (S:=No) (.inl ⟨V.upd A fun _ h=>h.elim,fun _ h=>h⟩) (t.upd0 (j.tr v)) G hi (fun y h=>by cases h) ⟨b6,0,none⟩ fun h7 b7 d n sp sk on7 J=>?_
   have z7:=J.size;refine hk h7 b7 _ (xi (W:=W) (W1:=fun y=>W y∨Sk y) (T:=fun _=>No) (T':=Sk) (c0:=ck x (13-(m+1)) p.1) (s:=⟨fun _=>none,fun _=>none⟩) (hz:=M) on7 J (fun c hc X=>?_) (fun c hc=>⟨fY hc,fY hc⟩) ?_ (fun y g=>.inl g) (fun _ h=>h.elim) (fun _ _ h=>h.elim) (fun y g=>.inr g) (fun _ _ h=>h.elim) (fun y g=>⟨(P y g).2,id,fun _ _ h=>h⟩) (fun _ _ _ h=>h.elim) fun eo=>⟨fun _ h=>h,fun y g=>g.elim (L (j.tr v) y) fun h=>(P y h).2⟩) (fun y g=>?_) ((j.tr v).tr J)
   ·refine .inl ⟨LW fun r Z=>?_,rfl,rfl,fun _ h=>h⟩
    rw[B]at X e;rcases L1 Z with rfl|rfl
    ·exact fun e=>X e.symm
    ·rw[←e];exact fun e=>X e.symm
   ·have ea:part x (12-m) (ck x (13-(m+1)) p.1) (gY q [p])=gY q [p]:=HT fun r Z=>by
     rw[B]at e⊢;rcases L1 Z with rfl|rfl
     ·rfl
     ·rw[e]
    rw[ea];exact .inr (.inr ⟨by omega,gg,b6,gg,t6⟩)
   ·have:=KW (S:=No) (z0:=h.size) (fun _ h=>h) (fun _ _ h=>h.elim) (fun y g=>⟨.inr (by have:=(P y g).1;omega),by have:=(P y g).2;omega⟩) (by omega) g
    exact⟨this.1.elim (fun h=>h.elim) id,this.2⟩
  ·have e:ck x (13-(m+1)) p.1≠ck x (13-(m+1)) q.1:=fun h=>by rw[h]at e;simp at e
   refine⟨_,u f 3,_,H f 0,_,H f 1,_,u f 3,_,E f 0,_,E f 1,?_⟩;refine tN (L (j.tr f)) fun Q b5 V C=>?_
   have b:=f.tr C;have z5:=C.size;have t5:=t.upd0 (j.tr b);refine⟨⟨E b 0,E b 1⟩,u b 3,⟨H b 0,H b 1⟩,u b 3,?_⟩;refine pc (S:=No) (.inl ⟨V,fun _ h=>h⟩) t5 G (fun _ h=>h.elim) hi (fun y h=>by cases h) p fun M b6 d6 n6 sp6 sk6 on6 A=>?_
   have v:=b.tr A;have z6:=A.size;have nd6:=Nh (W:=W) on6 fun _=>⟨fun _ h=>h,L (j.tr b)⟩
   refine⟨⟨E v 0,E v 1⟩,u v 3,?_⟩;refine pc nd6 (t5.upd0 A) G (fun y g=>g.2.2) hj (fun y h=>by simp[upd]) q fun h7 b7 d7 n7 sp7 sk7 on7 J=>?_
   have z7:=J.size;have R:∀y,(o.isSome=true∧(No y∨Q.size≤y)∧y<M.size)→Q.size≤y:=fun y g=>g.2.1.elim (fun h=>h.elim) id
   refine hk h7 b7 _ (EJ (T:=fun _=>No) (z:=M.size) (W:=fun y=>W y∨SN o (fun y=>o.isSome=true∧(No y∨Q.size≤y)∧y<M.size) M.size h7 (fun _=>No) y) on7 (fun c hc=>?_) (fun _ _ h=>h.elim) (fun _ _ _ h=>h.elim) fun eo=>⟨fun y g=>(by rw[eo]at g;cases g.1),fun y g=>(by
    rcases g with g|g
    ·exact L (j.tr v) y g
    ·rw[eo]at g;cases g.1)⟩) (fun y g=>?_) ((j.tr v).trans J fun y g=>.inr (by have:=R y g;omega))
   ·have F:=CN (x:=x) (lev:=12-m) (c:=c) (p:=q) (l:= [p]) (fK ..)
    rw[B]at e;by_cases N:c=ck x (12-m) p.1
    ·have I:ck x (12-m) q.1≠c:=fun h=>e (by omega)
     have e1:part x (12-m) c [p]= [p]:=HT fun r Z=>by rw[aq.1 Z,N]
     rw[if_neg I,e1]at F;exact .inr (.inl ⟨p,F,by simp[upd,B,N,e],by simp[upd],fun _ h=>h⟩)
    ·have e1:part x (12-m) c [p]= []:=LW fun r Z=>by rw[aq.1 Z];exact fun h=>N h.symm
     rw[e1]at F;by_cases I:c=ck x (12-m) q.1
     ·rw[if_pos I.symm]at F
      exact .inr (.inl ⟨q,F,by simp[upd,B,I],by simp[upd],fun _ h=>h⟩)
     ·rw[if_neg fun h=>I h.symm]at F
      exact .inl ⟨F,by simp[upd,B,I,N],by simp[upd],fun _ h=>h⟩
   ·rcases g.2 with⟨h|h,h2⟩|⟨_,_,h⟩
    ·exact⟨by have:=R y h;omega,h2⟩
    ·exact⟨by omega,h2⟩
    ·exact h.elim
end Go.Proofs
