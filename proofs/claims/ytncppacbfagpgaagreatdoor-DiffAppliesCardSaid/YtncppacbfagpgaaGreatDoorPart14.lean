/- A part of the proof that the named laws of this program answer true, whatever the input. -/
import Derived.Test.YtncppacbfagpgaaGreatDoorPart13
import Derived.Test.YtncppacbfagpgaaGreatDoorPart12
import Derived.Test.YtncppacbfagpgaaGreatDoorPart7
import Derived.Test.YtncppacbfagpgaaGreatDoorPart11
open Int renaming tmod→eB,le_refl→qL
open List renaming length_append→ac,append_assoc→ar,flatMap_append→bO,flatMap_cons→aO,length_cons→ao,getElem?_eq_getElem→af,mem_append→bF,getElem_mem→aZ,length_take→aH,mem_of_mem_take→eO,mem_cons→aA,mem_of_mem_drop→lC
open Nat renaming le_refl→al,zero_add→aR,le_trans→bj,mul_le_mul_right→cz,zero_le→aS,min_eq_left→bJ
namespace Go.Proofs
open Go Go.Lift
theorem WJ{c:Nat}:IntKind.wrap .u32 (((2^c%4294967296:Nat):Int)*2)=((2^(c+1)%4294967296:Nat):Int):=by
 rw[IntKind.wrap_u32,Nat.pow_succ];omega
theorem YU{q:List Pr}:(RE q==(1:Int))=(jM q).isSome:=by
 match q with
 | []=>rfl
 | [a]=>rfl
 |a::b::q=>rw[show RE (a::b::q)=2 by unfold RE;rw[if_neg (by simp),if_pos (by simp)]];rfl
theorem YT{q:List Pr}:(RE q==(2:Int))=(fQ q).isSome:=by
 match q with
 | []=>rfl
 | [a]=>rfl
 |a::b::q=>rw[show RE (a::b::q)=2 by unfold RE;rw[if_neg (by simp),if_pos (by simp)]];rw[show fQ (a::b::q)=some (a::b::q) by unfold fQ;rw[if_pos (by simp)]];rfl
def TwoB(n0 a:Nat)(h:ae)(so c:SliceV)(L:List Pr)(B:List UInt8):Prop:=
 ∃M N:Nat→Prop,OwnS eC 2 cq M h so L∧OwnS qI 1 cM N h c B∧(∀b,M b→n0≤b∧b<a∧¬N b)∧∀b,N b→n0≤b∧b<a
theorem TwoB.upd0{n0 a:Nat}{h h':ae}{so b:SliceV}{L:List Pr}{B:List UInt8}(t:TwoB n0 a h so b L B)(k:Upd No h h'):TwoB n0 a h' so b L B:=by
 obtain⟨M,N,d,h2,c,e⟩:=t;exact⟨M,N,d.upd k fun _ _ h=>h,h2.upd k fun _ _ h=>h,c,e⟩
theorem TwoB.up{n0 d e:Nat}{h:ae}{so f:SliceV}{L:List Pr}{B:List UInt8}(t:TwoB n0 d h so f L B)(j:d≤e):TwoB n0 e h so f L B:=by
 obtain⟨M,N,i,h2,c,g⟩:=t;exact⟨M,N,i,h2,fun b a=>⟨(c b a).1,by have:=(c b a).2.1;omega,(c b a).2.2⟩,fun b a=>⟨(g b a).1,by have:=(g b a).2;omega⟩⟩
theorem TwoB.appP{n0 e:Nat}{h:ae}{so i:SliceV}{L:List Pr}{B:List UInt8}{p:Pr}(t:TwoB n0 e h so i L B)(o:n0≤e)(n:e≤h.size)(q:L.length≤1000000){xs:List Value}(hx:xs=eC p){K:SliceV→ae→Prop}
  (k:∀s' h',TwoB n0 h'.size h' s' i (L++ [p]) B→Upd (fun b=>n0≤b) h h'→K s' h'):AppP (some [.string (⟨#[]⟩:ByteArray),.string (⟨#[]⟩:ByteArray)]) 2 32 cq so.a so.len so.cap 1 xs h K:=by
 subst hx;obtain⟨M,N,m,h2,c,d⟩:=t;refine AppP.own (ys:= [p]) (m.more (M':=fun b=>M b∨h.size≤b) fun _ h=>.inl h) rfl rfl rfl rfl (by omega) (by simp only[List.length_singleton];omega) (.inr (al _)) fun s' h' j f=>?_
 have s:=f.size;refine k s' h' ⟨_,N,j.within,h2.upd f fun b a hm=>hm.elim (fun hm=>(c b hm).2.2 a) fun hm=>by have:=(d b a).2;omega,fun b a=>⟨?_,a.2,fun g=>?_⟩,fun b a=>⟨(d b a).1,by have:=(d b a).2;omega⟩⟩ (f.mono fun b a=>a.elim (fun a=>.inl (c b a).1) .inr)
 ·rcases a.1 with a|a
  ·exact(c b a).1
  ·omega
 ·rcases a.1 with a|a
  ·exact(c b a).2.2 g
  ·have:=(d b g).2;omega
theorem TwoB.appB{W:Nat→Prop}{n0 g:Nat}{h:ae}{so f e:SliceV}{L:List Pr}{B ys:List UInt8}(t:TwoB n0 g h so f L B)(u:n0≤g)(p:g≤h.size)(m:Sl qI 1 W h e ys)(q:B.length+ys.length≤140737488355328){K:SliceV→ae→Prop}
  (o:∀s' h',TwoB n0 h'.size h' so s' L (B++ys)→Upd (fun b=>n0≤b) h h'→K s' h'):∃xs,SRow h e.a (e.len*1) xs∧AppP (some [.int .u8 0]) 1 1 cM f.a f.len f.cap e.len xs h K:=by
 obtain⟨M,N,n,h2,c,j⟩:=t;refine Ab (M:=fun b=>N b∨h.size≤b) (h2.more fun _ h=>.inl h) m (fun _ h=>.inr h) q fun s' h' k i=>?_
 have s:=i.size;refine o s' h' ⟨M,_,n.upd i fun b a hm=>hm.elim (fun hm=>(c b a).2.2 hm) fun hm=>by have:=(c b a).2.1;omega,k.within,fun b a=>⟨(c b a).1,by have:=(c b a).2.1;omega,fun d=>?_⟩,fun b a=>⟨?_,a.2⟩⟩ (i.mono fun b a=>a.elim (fun a=>.inl (j b a).1) .inr)
 ·rcases d.1 with d|d
  ·exact(c b a).2.2 d
  ·have:=(c b a).2.1;omega
 ·rcases a.1 with a|a
  ·exact(j b a).1
  ·omega
theorem E7{β:Type}(g:Nat→Option β):∀n,(fm g n).length≤n
 |0=>by simp[fm]
 |n+1=>by
  rw[jp,ac];have:=E7 g n;cases g n<;>simp<;>omega
theorem aah{β:Type}(g:Nat→Option β){n m:Nat}(h:n≤m):∃r,fm g m=fm g n++r:=by
 obtain⟨j,rfl⟩:∃j,m=n+j:=⟨m-n,by omega⟩
 clear h;induction j with
 |zero=>exact⟨[],by simp⟩
 |succ j ih=>obtain⟨r,a⟩:=ih;exact⟨r++(g (n+j)).toList,by rw[←Nat.add_assoc,jp,a,ar]⟩
set_option maxRecDepth 4000 in
theorem YC{x:Hs}:∀(m:Nat),m≤13→∀{h:ae} {b:Nat} {l:List Pr},DTrie No x h m b l→Fit l→l.length≤60000→∀{K:SliceV→ae→Prop},(∀s' h',OwnS qI 1 cM (fun y=>h.size≤y) h' s' (gf x m l)→Upd No h h'→K s' h')→
  HC PG Dw [.pointer (some ⟨b,0,none⟩),.int .i64 ((13-m:Nat):Int)] [.c .slice] K h:=by
 intro m;induction m with
 |zero=>
  intro _ h b l t X hn K hk;refine P8 (some ⟨b,0,none⟩) ((13-0:Nat):Int) ?_;unfold JE bI cl aK lM hP uy cD bU;obtain⟨_,⟨sa,sn,sc⟩,hb,hs⟩:=t;obtain rfl:sn=l.length:=hs.len;have g:∀{h':ae} {i:Nat},Upd No h h'→i<130→aP h' (adr ⟨b,0,none⟩ i)=some (dF true ⟨sa,l.length,sc⟩ (fun _=> []) (fun _=>none) i):=fun k hi=>by rw[cj,bH (k.get0 hb),aR,IV hi]
  have r0:=Upd.refl No h;have e1:gf x 0 l= [1]++ol l.length 2++l0 l:=by unfold gf;simp
  have hpl:=oe X;rw[e1]at hk;refine⟨_,rfl,true,g (i:=0) r0 (by omega),au.2 ⟨_,rfl,⟨sa,l.length,sc⟩,g (i:=1) r0 (by omega),_,rfl,⟨sa,l.length,sc⟩,g (i:=1) r0 (by omega),?_,?_⟩⟩
  ·refine aW fun U b1 k1=>⟨g (i:=1) k1 (by omega),g (i:=1) k1 (by omega),?_⟩
   have o1:=AO (b:=1) b1;refine Hg (n:=l.length) (by omega) fun s2 h2 A e=>⟨g (i:=1) (k1.tr e) (by omega),g (i:=1) (k1.tr e) (by omega),?_⟩
   have s1:=k1.size;have s2':=e.size;refine Ab (o1.upd e fun _ _ h=>h) (A.sl (W:=No) fun _ _ _ h=>h) (fun y d=>by show h.size≤y;omega) (by rw[dS];simp) fun s3 u w T=>?_
   have s:Upd No h u:=(k1.tr e).trans T fun y d=>.inr d
   refine⟨g (i:=1) s (by omega),g (i:=1) s (by omega),?_⟩;refine ET (hs.upd s fun _ h=>h.elim) X hn fun s4 h4 o f=>⟨g (i:=1) (s.tr f) (by omega),?_⟩
   have s3':=s.size;have G:=f.size;refine Ab (w.upd f fun _ _ h=>h) (o.sl (W:=No) fun _ _ _ h=>h) (fun y d=>by show h.size≤y;omega) (by rw[ac,dS];simp;omega) fun s5 J v H=>?_
   have Q:Upd No h J:=(s.tr f).trans H fun y d=>.inr d
   exact⟨g (i:=1) Q (by omega),hk s5 J v Q⟩
  ·refine Hg (n:=l.length) (by omega) fun s2 h2 A e=>⟨g (i:=1) e (by omega),g (i:=1) e (by omega),?_⟩
   refine aW fun U b1 k1=>⟨g (i:=1) (e.tr k1) (by omega),g (i:=1) (e.tr k1) (by omega),?_⟩
   have o1:=AO (b:=1) b1;have s1:=k1.size;have s2':=e.size;refine Ab (M:=fun y=>h.size≤y) (o1.more fun y d=>by show h.size≤y;omega) ((A.upd k1 fun _ _ h=>h).sl (W:=No) fun _ _ _ h=>h) (fun y d=>by show h.size≤y;omega) (by rw[dS];simp) fun s3 u w T=>?_
   have s:Upd No h u:=(e.tr k1).trans T fun y d=>.inr d
   refine⟨g (i:=1) s (by omega),g (i:=1) s (by omega),?_⟩;refine ET (hs.upd s fun _ h=>h.elim) X hn fun s4 h4 o f=>⟨g (i:=1) (s.tr f) (by omega),?_⟩
   have s3':=s.size;have G:=f.size;refine Ab (w.upd f fun _ _ h=>h) (o.sl (W:=No) fun _ _ _ h=>h) (fun y d=>by show h.size≤y;omega) (by rw[ac,dS];simp;omega) fun s5 J v H=>?_
   have Q:Upd No h J:=(s.tr f).trans H fun y d=>.inr d
   exact⟨g (i:=1) Q (by omega),hk s5 J v Q⟩
 |succ m ih=>
  intro hm h b l t X hn K hk;refine P8 (some ⟨b,0,none⟩) ((13-(m+1):Nat):Int) ?_;unfold JE bI cl aK lM hP uy cD bU;obtain⟨_,kk,hb,hkid⟩:=t;have elev:(13-(m+1):Nat)=12-m:=by omega
  rw[elev];obtain⟨q,hq⟩:∃q:Nat→List Pr,q=fun c=>part x (12-m) c l:=⟨_,rfl⟩
  have C:∀c,part x (12-m) c l=q c:=fun c=>by rw[hq]
  rw[←hq]at hb;have g:∀{h':ae} {i j:Nat},Upd No h h'→i+j<130→aP h' (adr (adr ⟨b,0,none⟩ i) j)=some (dF false ⟨none,0,0⟩ q kk (i+j)):=fun k hi=>by rw[cj,cj,bH (k.get0 hb),aR,IV hi]
  have g0:aP h (adr ⟨b,0,none⟩ 0)=some (dF false ⟨none,0,0⟩ q kk 0):=by rw[cj,bH hb,IV (by omega)]
  refine⟨_,rfl,false,g0,aj.2 ?_⟩;have hML:∀L∈lN x (12-m) l,2≤L.length∧(gf x m L).length≤9+L.length*(20004+9*(m+1)):=fun L hL=>by
   obtain⟨u,c,rfl⟩:=qE hL;exact⟨u,qh m X.part⟩
  have htot:((lN x (12-m) l).flatMap (gf x m)).length≤60000*(20004+9*(m+1)+9):=by
   have U:=Hd hML;have h2:=xr x (12-m) l;exact bj U (cz _ (by omega))
  have hm20:20004+9*(m+1)+9≤20200:=by omega
  have htot2:((lN x (12-m) l).flatMap (gf x m)).length≤60000*20200:=bj htot (Nat.mul_le_mul_left _ hm20);have P:∀c,c≤32→((fm (fun j=>fQ (q j)) c).flatMap (gf x m)).length≤60000*20200:=fun c hc=>by
   obtain⟨r,hr⟩:=aah (fun j=>fQ (q j)) hc
   have:((fm (fun j=>fQ (q j)) 32).flatMap (gf x m)).length≤60000*20200:=by rw[hq];exact htot2
   rw[hr,bO,ac]at this;omega
  refine LoopP.ghost (fun(c:Nat) (t:Int×Int×SliceV×SliceV×Int×Int) h'=>t.1=((kG (fun j=>(jM (q j)).isSome) c:Nat):Int)∧t.2.1=((kG (fun j=>(fQ (q j)).isSome) c:Nat):Int)∧t.2.2.2.2.1=((2^c%4294967296:Nat):Int)∧t.2.2.2.2.2=(c:Int)∧c≤32∧
   TwoB h.size h'.size h' t.2.2.1 t.2.2.2.1 (fm (fun j=>jM (q j)) c) ((fm (fun j=>fQ (q j)) c).flatMap (gf x m))∧Upd No h h') (fun c=>32-c) 0 ⟨rfl,rfl,rfl,rfl,by omega,⟨No,No,OwnS.nil gq,OwnS.nil um,fun _ h=>h.elim,fun _ h=>h.elim⟩,Upd.refl _ _⟩ ?_
  rintro I c ⟨dt,nt,sl,sk,bt,ct⟩ h' ⟨e1,e2,e3,e4,hc32,hT,Y⟩ hI;simp only at e1 e2 e3 e4 hT;subst e1 e2 e3 e4;have s0:=Y.size;have wide:∀{U h2:ae},Upd No h U→Upd (fun b=>h.size≤b) U h2→Upd No h h2:=fun a k=>a.trans k fun y d=>.inr d
  refine az (fun z=>?_) fun hge=>?_
  ·have z:c<32:=by have:(c:Int)<32:=z;omega
   have ec:(c:Int).toNat*1=c:=by omega
   have ec2:(c:Int).toNat*2=c*2:=by omega
   have hbd:=oy (fun j=>(jM (q j)).isSome) c
   have hbn:=oy (fun j=>(fQ (q j)).isSome) c
   have hpw:2^c≤2^31:=Nat.pow_le_pow_right (by omega) (by omega);have O:2^c%4294967296=2^c:=Nat.mod_eq_of_lt (by omega);have vis:dF false ⟨none,0,0⟩ q kk (2+c)=.int .i64 (RE (q c)):=by rw[TU (by omega) (by omega),show 2+c-2=c by omega]
   refine Join.intro (fun(t:Int×SliceV) h2=>t.1=((kG (fun j=>(jM (q j)).isSome) (c+1):Nat):Int)∧TwoB h.size h2.size h2 t.2 sk (fm (fun j=>jM (q j)) (c+1)) ((fm (fun j=>fQ (q j)) c).flatMap (gf x m))∧Upd No h h2) (fun R hR=>?_) ?_
   ·refine⟨_,rfl,⟨by simp only;omega,by simp only;omega⟩,RE (q c),?_,?_⟩
    ·simp only[ec];rw[g Y (by omega),vis]
    rw[YU];have F:kG (fun j=>(jM (q j)).isSome) (c+1)=kG (fun j=>(jM (q j)).isSome) c+(if(jM (q c)).isSome then 2^c else 0):=rfl
    cases hso:jM (q c)with
    |none=>
     rw[hso]at F;refine aj.2 (hR _ _ ⟨by rw[F];rfl,?_,Y⟩);rw[jp,hso];simpa using hT
    |some p=>
     rw[hso]at F;have ep:E5 (jM (q c))=p:=by rw[hso];rfl
     refine au.2 ⟨_,rfl,⟨by simp only;omega,by simp only;omega⟩,p.1,?_,p.2,?_,aW fun h2 b2 e=>⟨_,mB b2,?_⟩⟩
     ·simp only[ec2];rw[cj,cj,cj,bH (Y.get0 hb),aR,IV (by omega),PM (by omega) (by omega) (by omega),show(34+c*2+0-34)/2=c by omega,ep]
     ·simp only[ec2];rw[cj,cj,cj,bH (Y.get0 hb),aR,IV (by omega),PK (by omega) (by omega) (by omega),show(34+c*2+1-34)/2=c by omega,ep]
     ·have s2:=e.size
      have hl:=E7 (fun j=>jM (q j)) c
      refine(hT.upd0 e).appP (p:=p) s0 s2 (by omega) rfl fun s3 u E T=>hR _ _ ⟨?_,?_,wide (Y.tr e) T⟩
      ·rw[F,O]
       simp only[Option.isSome_some,if_true];rw[IntKind.wrap_u32];omega
      ·rw[jp,hso];exact E
   rintro⟨dt,sl2⟩ h2 ⟨rfl,V,u2⟩;simp only at V⊢;have s2:=u2.size;refine Join.intro (fun(t:Int×SliceV) u=>t.1=((kG (fun j=>(fQ (q j)).isSome) (c+1):Nat):Int)∧TwoB h.size u.size u sl2 t.2 (fm (fun j=>jM (q j)) (c+1)) ((fm (fun j=>fQ (q j)) (c+1)).flatMap (gf x m))∧Upd No h u) (fun R hR=>?_) ?_
   ·refine⟨_,rfl,⟨by omega,by omega⟩,RE (q c),?_,?_⟩
    ·rw[ec,g u2 (by omega),vis]
    rw[YT];have F:kG (fun j=>(fQ (q j)).isSome) (c+1)=kG (fun j=>(fQ (q j)).isSome) c+(if(fQ (q c)).isSome then 2^c else 0):=rfl
    cases hma:fQ (q c)with
    |none=>
     rw[hma]at F;refine aj.2 (hR _ _ ⟨by rw[F];rfl,?_,u2⟩);rw[jp (fun j=>fQ (q j)),hma];simpa using V
    |some L=>
     rw[hma]at F;have hL2:2≤(q c).length∧L=q c:=by
      unfold fQ at hma;by_cases h2:2≤(q c).length
      ·rw[if_pos h2]at hma;exact⟨h2,(Option.some.inj hma).symm⟩
      ·rw[if_neg h2]at hma;cases hma
     obtain⟨h2l,rfl⟩:=hL2;refine au.2 (az (fun _=>?_) fun hx=>absurd (show((12-m:Nat):Int)<13 by omega) hx)
     obtain⟨kb,hkb,td⟩:=hkid c z (by rw[C];exact h2l);rw[C]at td;have hpt:(q c).length≤l.length:=by rw[←C];exact kB
     have hpf:Fit (q c):=by rw[←C];exact X.part
     have e14:IntKind.wrap .i64 (((12-m:Nat):Int)+1)=((13-m:Nat):Int):=by rw[fx (by omega)];omega
     refine⟨_,rfl,⟨by omega,by omega⟩,some ⟨kb,0,none⟩,?_,?_⟩
     ·rw[ec,g u2 (by omega),PL (by omega),show 98+c-98=c by omega,hkb]
     rw[e14];refine ih (by omega) (DTrie.upd u2 (fun _ h=>h.elim) td) hpf (by omega) fun s4 h4 o f=>?_
     have G:=f.size;have Z:=P (c+1) (by omega);rw[jp,hma,bO,ac]at Z;simp only[Option.toList_some,aO,List.flatMap_nil,List.append_nil]at Z;refine(V.upd0 f).appB s2 G (o.sl (W:=No) fun _ _ _ h=>h) (by omega) fun s5 J hT5 H=>hR _ _ ⟨?_,?_,wide (u2.tr f) H⟩
     ·rw[F,O]
      simp only[Option.isSome_some,if_true];rw[IntKind.wrap_u32];omega
     ·rw[jp (fun j=>fQ (q j)),hma,bO]
      simpa using hT5
   rintro⟨nt,sk2⟩ u ⟨rfl,E,s⟩;simp only at E⊢;rw[dd z (by omega),WJ];exact hI (c+1) _ _ ⟨rfl,rfl,rfl,rfl,z,E,s⟩ (by omega)
  ·obtain rfl:c=32:=by have:¬(c:Int)<32:=hge;omega
   have e1:gf x (m+1) l= [0]++ol (kG (fun j=>(jM (q j)).isSome) 32) 4++ol (kG (fun j=>(fQ (q j)).isSome) 32) 4++l0 (fm (fun j=>jM (q j)) 32)++(fm (fun j=>fQ (q j)) 32).flatMap (gf x m):=by
    rw[hq];unfold gf;simp[ia,lN]
   rw[e1]at hk;have hD:=oy (fun j=>(jM (q j)).isSome) 32
   have hN:=oy (fun j=>(fQ (q j)).isSome) 32
   have hsf:Fit (fm (fun j=>jM (q j)) 32):=fun p hp=>X p (sE (x:=x) (lev:=12-m) (by unfold ia;rw[hq]at hp;exact hp))
   have hsl:=E7 (fun j=>jM (q j)) 32
   have hps:=oe hsf;have Z:=P 32 (al _);obtain⟨M,N,o1,o2,hMb,hNb⟩:=hT;generalize kG (fun j=>(jM (q j)).isSome) 32=D at*
   generalize kG (fun j=>(fQ (q j)).isSome) 32=N' at*
   generalize fm (fun j=>jM (q j)) 32=S at*
   generalize (fm (fun j=>fQ (q j)) 32).flatMap (gf x m)=B at*
   have hsS:Sl eC 2 No h' sl S:=o1.sl fun _ _ _ h=>h
   have hsB:Sl qI 1 No h' sk B:=o2.sl fun _ _ _ h=>h
   refine Join.plain (aW fun U b1 k1=>?_)
   simp only;have ob:=AO (b:=0) b1;refine O3 (by omega) fun s2 h2 A e=>?_
   have s1:=k1.size;have s2':=e.size;refine Ab (M:=fun y=>h'.size≤y) (ob.upd e fun _ _ h=>h) (A.sl (W:=No) fun _ _ _ h=>h) (fun y d=>by show h'.size≤y;omega) (by rw[dS];simp) fun s3 u w T=>?_
   have s3':=T.size;refine Join.plain (O3 (by omega) fun s4 h4 o f=>?_)
   have G:=f.size;refine Ab (M:=fun y=>h'.size≤y) (w.upd f fun _ _ h=>h) (o.sl (W:=No) fun _ _ _ h=>h) (fun y d=>by show h'.size≤y;omega) (by rw[ac,dS,dS];simp) fun s5 J v H=>?_
   have s5':=H.size;have Q:Upd No h' J:=(((k1.tr e).trans T fun y d=>.inr d).tr f).trans H fun y d=>.inr d
   refine Join.plain (ET (hsS.upd Q fun _ h=>h.elim) hsf (by omega) fun s6 h6 ho6 k6=>?_)
   have s6':=k6.size;refine Ab (M:=fun y=>h'.size≤y) (v.upd k6 fun _ _ h=>h) (ho6.sl (W:=No) fun _ _ _ h=>h) (fun y d=>by show h'.size≤y;omega) (by rw[ac,ac,dS,dS];simp;omega) fun s7 h7 ho7 k7=>?_
   have u7:Upd No h' h7:=(Q.tr k6).trans k7 fun y d=>.inr d
   refine Ab (M:=fun y=>h'.size≤y) ho7 (hsB.upd u7 fun _ h=>h.elim) (fun y d=>by have:=u7.size;show h'.size≤y;omega) (by rw[ac,ac,ac,dS,dS];simp;omega) fun s8 h8 ho8 k8=>?_
   refine hk s8 h8 (ho8.more fun y d=>by show h.size≤y;omega) ((Y.tr u7).trans k8 fun y d=>.inr (by omega))
end Go.Proofs
namespace Go.Proofs
open Go Go.Lift
theorem Uk{a:Int}{x:Hs}{l:List Pr}{xs:List UInt8}(hv:Mq a x l xs)(b:Fit l)(e:l.length≤60000):xs.length≤100000000000:=by
 rcases hv with⟨_,rfl⟩|⟨_,ys,c,rfl⟩
 ·have d:=qh (x:=x) 13 b
  have h2:l.length*(20004+9*(13+1))≤60000*(20004+9*(13+1)):=cz _ e;rw[ao];omega
 ·have d:=Dc c b
  rw[ao];omega
theorem UF{W:Nat→Prop}{x:Hs}{h:ae}{a:Int}{r:Rt}{l:List Pr}(E:a=0∨a=1)(i:RefIs W h a x r l)(P:cf l)(m:Fit l)(C:l.length≤60000){K:SliceV→ae→Prop}
  (N:∀s' h' xs,OwnS qI 1 cM (fun y=>h.size≤y) h' s' xs→Mq a x l xs→Upd No h h'→K s' h'):HC PG zQ [Zr r] [.c .slice] K h:=by
 refine P5 r ?_;unfold Gz bw cT vO GO dK uy;obtain⟨s,rfl,z,hc⟩:=i;have z:=z.less (W':=No) fun _ h=>h.elim
 refine aW fun B b1 k1=>⟨_,vc b1 0,?_⟩
 have A:=k1.size;rcases E with rfl|rfl
 ·refine aj.2 (aW fun X b3 c=>⟨_,BS (c.get0 b1) 1 0,_,BS (c.get0 b1) 1 1,_,BS (c.get0 b1) 1 2,s,vc (c.get0 b1) 4,?_⟩)
  have H:=AO (b:=0) b3;have u:=k1.tr c;have Y:∀v,hx 0 v=v:=fun v=>if_pos rfl
  simp only[Y];refine WD (x:=x) (z.upd u fun _ h=>h.elim) C (fun p L=>by have:=m p L;omega) fun T b V e=>?_
  have U:=c.size;have S:=e.size;refine YC 13 (al _) V m C fun Q O k f=>?_
  have D:=f.size;have q:=qh (x:=x) 13 m;have h2:l.length*(20004+9*(13+1))≤60000*(20004+9*(13+1)):=cz _ C;refine Ab (M:=fun y=>B.size≤y) ((H.upd e fun _ _ h=>h).upd f fun _ _ h=>h) (k.sl (W:=No) fun _ _ _ h=>h) (fun y d=>by show B.size≤y;omega) (by simp;omega) fun J I j G=>?_
  exact N J I _ (j.more fun y d=>bj A d) (.inl ⟨rfl,rfl⟩) (((u.tr e).tr f).trans G fun y d=>.inr (bj A d))
 ·refine au.2 (aW fun X b3 c=>⟨s,vc (c.get0 b1) 4,?_⟩)
  have H:=AO (b:=1) b3;have u:=k1.tr c;refine Yz (z.upd u fun _ h=>h.elim) hc P C (fun p L=>by have:=m p L;have:=Iz p.1;show(ky p).length≤_;unfold ky;omega) fun T b w F Z g n e=>?_
  have U:=c.size;have S:=e.size;obtain⟨o,R⟩:=zI g n m;have t:Sq l (jN ([],w,F)):=⟨w,F,g,n,rfl⟩;have q:=Dc t m;refine TS (lab:= []) (by simp) R (jC g) (IU o) Z rfl (by omega) fun Q O k f=>?_
  have D:=f.size;refine Ab (M:=fun y=>B.size≤y) ((H.upd e fun _ _ h=>h).upd f fun _ _ h=>h) (k.sl (W:=No) fun _ _ _ h=>h) (fun y d=>by show B.size≤y;omega) (by simp;omega) fun J I j G=>?_
  exact N J I _ (j.more fun y d=>bj A d) (.inr ⟨rfl,_,t,rfl⟩) (((u.tr e).tr f).trans G fun y d=>.inr (bj A d))
theorem E0{W W':Nat→Prop}{x:Hs}{h:ae}{a:Int}{t:Tr}{r:Rt}{l:List Pr}(tb:Tab h)(i:TreeIs W h a x t l)(j:RefIs W' h a x r l)(g:cf l)(k:Fit l)(f:l.length≤60000){K:Bool→ae→Prop}(B:∀h',Upd No h h'→K true h'):HC PG vj [HJ t,Zr r] [.c .bool] K h:=by
 refine SM t r ?_;unfold JN bw ag aQ cT r7 GO yc QA MH;have o:a=0∨a=1:=i.imp (fun h=>h.1) fun h=>h.1
 refine aW fun D b1 k1=>aW fun h2 b2 v=>?_
 have w:=k1.tr v;have b:=v.get0 b1;refine⟨_,vc b 0,_,vc b 1,_,vc b 2,_,vc b 3,_,vc b 4,_,vc b 5,_,vc b2 0,_,vc b2 1,_,vc b2 2,_,vc b2 3,r.2.2.2.2,vc b2 4,?_⟩;refine Um (i.upd0 w) g k f fun G H xs m s c=>⟨⟨vc (c.get0 b2) 0,vc (c.get0 b2) 1,vc (c.get0 b2) 2,vc (c.get0 b2) 3,vc (c.get0 b2) 4⟩,?_⟩
 have y:=w.tr c;refine UF o (j.upd0 y) g k f fun E F ys p q n=>?_
 have u:=y.tr n;have e:xs=ys:=(Wb (fun _=>rfl) m q k k f f g g).2 rfl
 subst e;have C:=Uk m k f;refine UH ((s.upd n fun _ _ h=>h).sl (W:=No) fun _ _ _ h=>h) (p.sl (W:=No) fun _ _ _ h=>h) (by omega) ?_
 have d:=n.get0 (c.get0 b);refine au.2 ⟨_,vc d 0,_,vc d 1,_,vc d 2,_,vc d 3,_,vc d 4,_,vc d 5,?_⟩;exact Un (i.upd0 u) (tb.upd u id) g f fun A z=>B A (u.tr z)
end Go.Proofs
namespace Go.Proofs
open Go Go.Lift
def AR(c:Ch):Prop:=c.1.size≤330∧c.2.1.size≤30∧c.2.2.1.size≤4230
set_option maxHeartbeats 2000000 in
theorem Va{W:Nat→Prop}{h:ae}{s:SliceV}{l:List Ch}{a m:Int}(V:Sl pk 5 W h s l)(hn:l.length≤9223372036854775807)(hm:0≤m∧m≤65535){K:SliceV→ae→Prop}
  (Y:∀s' h' out,OwnS pk 5 bE (fun y=>h.size≤y) h' s' out→out.length≤20→(∀c∈out,AR c)→Upd No h h'→K s' h'):HC PG Ff [.slice s.a s.len s.cap,.int .u8 a,.int .u16 m] [.c .slice] K h:=by
 refine VE s a m ?_;unfold MA cl aK db nv J0 ax cD dh AV;have hl:=V.len;have em:IntKind.wrap .i64 m=m:=fx (by omega);have m3:0≤eB (IntKind.wrap .i64 m) 300∧eB (IntKind.wrap .i64 m) 300<300:=⟨by rw[em];exact Int.tmod_nonneg _ hm.1,Int.tmod_lt_of_pos _ (by decide)⟩;have m4:0≤eB (IntKind.wrap .i64 m) 4200∧eB (IntKind.wrap .i64 m) 4200<4200:=⟨by rw[em];exact Int.tmod_nonneg _ hm.1,Int.tmod_lt_of_pos _ (by decide)⟩
 generalize eB (IntKind.wrap .i64 m) 300=m3v at m3⊢;generalize eB (IntKind.wrap .i64 m) 4200=m4v at m4⊢;refine LoopP.ghost (fun(g:Nat×List Ch) (t:SliceV×Int) h'=>OwnS pk 5 bE (fun y=>h.size≤y) h' t.1 g.2∧t.2=(g.1:Int)∧g.1≤l.length∧g.1≤20∧g.2.length=g.1∧(∀c∈g.2,AR c)∧Upd No h h') (fun g=>l.length-g.1) (0,[]) ⟨OwnS.nil Cs,rfl,aS _,aS _,rfl,fun _ h=>(by cases h),Upd.refl _ _⟩ ?_
 rintro I ⟨i,out⟩ ⟨ts,ti⟩ h' ⟨F,e,hi,x,B,n,v⟩ hI;simp only at F e hi x B n;subst e;have sz:=v.size;refine az (fun d=>?_) fun hge=>Y _ h' _ F (by omega) n v
 have d:i<l.length:=by have d:(i:Int)<(s.len:Int):=d;omega
 obtain⟨a',ha,_,hv⟩:=(V.upd v fun _ h=>h.elim).at (af d)
 refine Join.plain ⟨⟨by simp only;omega,by simp only;omega⟩,a',ha,_,hv 0 _ rfl,_,hv 1 _ rfl,_,hv 2 _ rfl,_,hv 3 _ rfl,_,hv 4 _ rfl,?_⟩
 refine Im (c:=l[i]) fun h2 b2 E=>?_
 have s2:=E.size;refine az (fun k=>Y _ h2 _ (F.upd E fun _ _ h=>h) (by omega) n (v.tr E)) fun k=>?_
 have k:i<20:=by have k:¬(i:Int)≥20:=k;omega
 obtain⟨q1,e1⟩:=Vh l[i].1;obtain⟨q2,e2⟩:=Vh l[i].2.1;obtain⟨q3,e3⟩:=Vh l[i].2.2.1;refine⟨_,vc b2 0,_,vc b2 0,q1,?_⟩;simp only[Bd];refine⟨_,vc b2 1,_,vc b2 1,q2,?_⟩;refine⟨_,vc b2 2,_,vc b2 2,q3,?_⟩;rw[e1,e2,e3];refine Y3 b2 fun h5 j Q=>?_
 have G:Upd No h' h5:=E.own Q (al _);have z1:=ox l[i].1;have z2:=ox l[i].2.1;have z3:=ox l[i].2.2.1;generalize uD l[i].1=c1 at j z1;generalize uD l[i].2.1=c2 at j z2;generalize uD l[i].2.2.1=c3 at j z3;generalize l[i].2.2.2.1=w at j;generalize l[i].2.2.2.2=ii at j;have s5:=G.size;have z5:=bD j;refine Join.intro (fun _ O=>∃b,b.size≤330∧O[h'.size]? =some (.cells (pk (b,c2,c3,w,ii)).toArray bE (0,0))∧Upd No h' O) (fun R C=>?_) ?_
 ·refine CondP.intro (fun _=>?_) fun _=>C _ _ ⟨c1,by omega,j,G⟩
  refine⟨c1,vc j 0,by decide,⟨by omega,qL _,by omega,by omega⟩,?_⟩
  refine On fun h27 q o es L=>⟨vc (q.get0 j) 0,o,L,by omega,?_⟩
  refine qN (i:=0) (c':=(pk (c1++o,c2,c3,w,ii)).toArray) (q.get0 j) (show 0<5 by decide) rfl fun h29 H z=>C _ _ ⟨c1++o,by rw[ByteArray.size_append];omega,H,(G.tr q).own z (al _)⟩
 rintro _ O ⟨b,T,D,X⟩;refine Join.intro (fun _ P=>∃f,f.size≤4230∧P[h'.size]? =some (.cells (pk (b,c2,f,w,ii)).toArray bE (0,0))∧Upd No h' P) (fun R C=>?_) ?_
 ·refine CondP.intro (fun _=>?_) fun _=>C _ _ ⟨c3,by omega,D,X⟩
  refine⟨c3,vc D 2,by decide,⟨by omega,qL _,by omega,by omega⟩,?_⟩
  refine On fun h34 u p es L=>⟨vc (u.get0 D) 2,p,L,by omega,?_⟩
  refine qN (i:=2) (c':=(pk (b,c2,c3++p,w,ii)).toArray) (u.get0 D) (show 2<5 by decide) rfl fun h36 M A=>C _ _ ⟨c3++p,by rw[ByteArray.size_append];omega,M,(X.tr u).own A (al _)⟩
 rintro _ P ⟨f,N,b7,S⟩;have s7:=S.size;refine aaW b7 ?_;refine PW (c:=(b,c2,f,w,ii)) (F.upd S fun _ _ h=>h) (fun y Z=>by omega) (by omega) fun s8 h8 J U=>?_
 rw[fy d (by omega)];refine hI (i+1,out++ [(b,c2,f,w,ii)]) _ _ ⟨J,rfl,d,by omega,by simp[B],fun c hc=>?_,(v.tr S).trans U fun y Z=>.inr Z⟩ (by show l.length-(i+1)<l.length-i;omega)
 rcases bF.1 hc with hc|hc
 ·exact n c hc
 ·rw[List.mem_singleton.1 hc];exact⟨T,by omega,N⟩
def l7(L:List Pr)(l:List Ch):Int:=if mD l≠0 then mD l else if l.any (fun c=> !vZ L c)then 8 else 0
theorem zv{l:List Ch}(h:mD l=0):qj l=0∧Fs l:=by
 unfold mD at h;by_cases e:qj l=0
 ·rw[if_neg (fun h=>h e)]at h;exact⟨e,FY h⟩
 ·rw[if_pos e]at h;exact absurd h e
theorem Xz{L:List Pr}{l:List Ch}(h:mD l=0):xg L l=l7 L l:=by
 unfold xg l7;simp[(zv h).1,h]
set_option maxHeartbeats 1000000 in
theorem Kw{W W':Nat→Prop}{x:Hs}{h:ae}{d:Int}{t:Tr}{L:List Pr}{s:SliceV}{l:List Ch}(i:TreeIs W h d x t L)(u:∀y,W y→y<h.size)(v:cf L)(A:Fit L)(B:L.length≤500000)(o:Sl pk 5 W' h s l)(n:l.length≤500000){K:Tr×Int→ae→Prop}
  (b:l7 L l≠0→∀h',Upd No h h'→K (t,l7 L l) h')(p:l7 L l=0→∀h' t',TreeIs W h' d x t' (mI L l)→Upd No h h'→K (t',0) h'):HC PG rx [HJ t,.slice s.a s.len s.cap] [.agg [.int .i64,.int .u64,.int .u64,.int .u64,.ptr,.ptr],.c (.int .i64)] K h:=by
 by_cases e:mD l=0
 ·rw[←Xz e]at b p
  exact Nz i u v A B o n (zv e).2 b p
 ·have q:l7 L l=mD l:=by unfold l7;rw[if_pos e]
  rw[q]at b;refine Eb t s ?_;unfold yN cl bw ag aQ aK eJ nv AU r7 yc J0 ax Ka qO cD dh AV;refine aW fun z b1 k1=>aW fun h2 b2 m=>?_
  have w:h.size≤z.size:=k1.size;refine xf (o.upd (k1.tr m) fun _ h=>h.elim) (by omega) fun C j=>?_
  rw[show(mD l !=(0:Int))=true by simpa using e]
  have f:=j.get0 (m.get0 b1);refine au.2 ⟨_,vc f 0,_,vc f 1,_,vc f 2,_,vc f 3,_,vc f 4,_,vc f 5,?_⟩;refine cU (c:=pi Kc) (vs:=pi t) (j.get0 b2) rfl fun k a g=>?_
  exact⟨_,vc a 0,_,vc a 1,_,vc a 2,_,vc a 3,_,vc a 4,_,vc a 5,b e k (((k1.tr m).tr j).own g w)⟩
set_option maxHeartbeats 2000000 in
theorem O5{W:Nat→Prop}{x:Hs}{h:ae}{f:Int}{r:Rt}{L:List Pr}{s:SliceV}{l:List Ch}(j:RefIs W h f x r L)(hW:∀y,W y→y<h.size)(hr:cf L)(hf:Fit L)(hn:L.length≤500000)(hs:Sl pk 5 No h s l)(hln:l.length≤500000)(hz:∀c∈l,c.1.size≤1000000){K:Rt×Int→ae→Prop}
  (B:l7 L l≠0→∀h',Upd No h h'→K (r,l7 L l) h')(hk:l7 L l=0→∀h' r',RefIs W h' f x r' (mI L l)→Upd No h h'→K (r',0) h'):
  HC PG qG [Zr r,.slice s.a s.len s.cap] [.agg [.int .i64,.int .u64,.int .u64,.int .u64,.slice],.c (.int .i64)] K h:=by
 refine P4 r s ?_;unfold Gy cl bw ag aK cT eJ nv J9 GO QA J0 ax qO Ow CM cD dh AV;refine aW fun O b1 k1=>aW fun h2 b2 k2=>?_
 have z1:=bD b1;have z2:=bD b2;have s1:h.size≤O.size:=k1.size;have V:=k1.tr k2;refine De (hs.upd V fun _ h=>h.elim) (by omega) hz fun A k4=>?_
 have k04:=V.tr k4;have v:=k4.get0 (k2.get0 b1);have c2:=k4.get0 b2;by_cases P:mD l=0
 rotate_left
 ·have ea:l7 L l=mD l:=by unfold l7;rw[if_pos P]
  rw[ea]at B;rw[show(mD l !=(0:Int))=true by simpa using P]
  refine au.2 ⟨_,vc v 0,_,vc v 1,_,vc v 2,_,vc v 3,r.2.2.2.2,vc v 4,?_⟩;refine cU (c:=qQ MX) (vs:=qQ r) c2 rfl fun h10 w Z=>?_
  exact⟨_,vc w 0,_,vc w 1,_,vc w 2,_,vc w 3,r.2.2.2.2,vc w 4,B P h10 (k04.own Z s1)⟩
 have eF:l7 L l=if l.any (fun c=> !vZ L c)then 8 else 0:=by unfold l7;rw[if_neg (fun h=>h P)]
 have sm:=(zv P).2;rw[P];refine aj.2 ⟨_,vc v 0,_,vc v 1,_,vc v 2,_,vc v 3,r.2.2.2.2,vc v 4,?_⟩;refine WS (r:=r) fun M Y G=>?_
 have z4:=k4.size;have z22:=bD Y;have F:=k04.tr G;have d1:=G.get0 v;have d2:=G.get0 c2;have j0:RefIs (fun y=>W y∨y=h.size∨y=O.size∨y=A.size) M f x r L:=(j.less fun y o=>o.imp id fun o=>by omega).upd0 F
 obtain⟨sr,er,hsr,_⟩:=j;have er4:r.2.2.2.2=sr:=by rw[er]
 have hl:=hs.len;refine LoopP.ghost (fun(i:Nat) (t:Int) h'=>t=(i:Int)∧i≤l.length∧(l.take i).any (fun c=> !vZ L c)=false∧(∃q,RefIs (fun y=>W y∨y=h.size∨y=O.size∨y=A.size) h' f x q (mI L (l.take i))∧h'[A.size]? =some (.cells (qQ q).toArray cQ (0,0)))∧Upd (· =A.size) M h') (fun i=>l.length-i) 0 ⟨rfl,aS _,rfl,⟨r,j0,Y⟩,Upd.refl _ _⟩ ?_
 rintro I i t h25 ⟨rfl,hi,u,⟨q,jq,N⟩,Q⟩ hI;have z25:=Q.size;have g:Upd No h h25:=F.trans Q fun y o=>.inr (by have o:y=A.size:=o;omega)
 have d1':=Q.get d1 (show ¬h.size=A.size by omega)
 have S:=Q.get d2 (show ¬O.size=A.size by omega)
 have fW:∀{h':ae},h25.size≤h'.size→∀y,(W y∨y=h.size∨y=O.size∨y=A.size)→y<h'.size:=fun hz y o=>by
  rcases o with h|h
  ·have:=hW y h;have:=g.size;omega
  ·omega
 refine az (fun m=>?_) fun hge=>?_
 ·have m:i<l.length:=by omega
  obtain⟨a,ha,_,hv⟩:=(hs.upd g fun _ h=>h.elim).at (af m)
  obtain⟨y1,y2,y3⟩:=sm _ (aZ m);have lj:=AF (l.take i) L;rw[aH]at lj;have rj:cf (mI L (l.take i)):=vT hr;have fj:Fit (mI L (l.take i)):=AJ hf fun c hc=>by have:=sm c (eO hc);omega
  refine Join.intro (fun _ h'=>(l.take (i+1)).any (fun c=> !vZ L c)=false∧(∃q,RefIs (fun y=>W y∨y=h.size∨y=O.size∨y=A.size) h' f x q (mI L (l.take (i+1)))∧h'[A.size]? =some (.cells (qQ q).toArray cQ (0,0)))∧Upd (· =A.size) M h') (fun R H=>?_) ?_
  ·rw[Jh m,List.take_succ_eq_append_getElem m,List.any_append,u,Bool.false_or]at H
   have hin:l[i]∈l:=aZ m;refine⟨⟨by omega,by omega⟩,a,ha,_,hv 0 _ rfl,_,hv 1 _ rfl,_,hv 2 _ rfl,_,hv 3 _ rfl,_,hv 4 _ rfl,?_⟩
   generalize l[i]=c at H y1 y2 y3 hin;refine Im (c:=c) fun h34 n d=>?_
   have X:=d.size;refine⟨r.2.2.2.2,vc (d.get0 d1') 4,c.1,vc n 0,?_⟩;rw[er4];refine WF (hsr.upd (g.tr d) fun _ h=>h.elim) hr hf (by omega) c.1 ?_
   refine Join.intro (fun t h'=>t=(!vZ L c)∧h'=h34) (fun R2 U=>?_) ?_
   ·refine⟨c.2.2.2.1,vc n 3,CondP.intro (fun e=>U _ _ ⟨?_,rfl⟩) fun e=>⟨c.2.1,vc n 1,U _ _ ⟨?_,rfl⟩⟩⟩
    ·have e:((look L c.1).isSome==c.2.2.2.1)=false:=by simpa using e
     unfold vZ;rw[e];rfl
    ·have e:((look L c.1).isSome==c.2.2.2.1)=true:=by simpa using e
     unfold vZ;rw[e,Bool.true_and,ey]
   rintro t h43 ⟨rfl,rfl⟩;cases ef:vZ L c with
   |false=>
    have ea:l7 L l=8:=by rw[eF,if_pos (List.any_eq_true.2 ⟨c,hin,by rw[ef];rfl⟩)]
    rw[ea]at B;have k:=d.get0 d1';refine au.2 ⟨_,vc k 0,_,vc k 1,_,vc k 2,_,vc k 3,r.2.2.2.2,vc k 4,?_⟩;refine cU (c:=qQ MX) (vs:=qQ r) (d.get0 S) rfl fun h49 z T=>?_
    exact⟨_,vc z 0,_,vc z 1,_,vc z 2,_,vc z 3,r.2.2.2.2,vc z 4,B (by decide) h49 ((g.tr d).own T s1)⟩
   |true=>
    have es: [c].any (fun c=> !vZ L c)=false:=by simp[ef]
    have b:=d.get0 N;have j34:=jq.upd0 d;refine aj.2 ⟨c.2.2.2.2,vc n 4,?_⟩;unfold yS at H;cases eI:c.2.2.2.2 with
    |true=>
     rw[eI,if_pos rfl]at H;refine au.2 ⟨_,vc b 0,_,vc b 1,_,vc b 2,_,vc b 3,q.2.2.2.2,vc b 4,c.1,vc n 0,c.2.2.1,vc n 2,?_⟩;refine O0 j34 (fW X) rj (by omega) (c.1,c.2.2.1) y1 y3 fun h64 q' j64 k64=>?_
     refine cU (c:=qQ q) (vs:=qQ q') (k64.get0 b) rfl fun h65 b65 D=>?_
     exact H _ _ ⟨es,⟨q',j64.updM D fun y o=>.inl (.inr (.inr (.inr o))),b65⟩,(Q.tr (d.tr k64).wide).tr D⟩
    |false=>
     rw[eI,if_neg (by decide)]at H;refine aj.2 ⟨_,vc b 0,_,vc b 1,_,vc b 2,_,vc b 3,q.2.2.2.2,vc b 4,c.1,vc n 0,?_⟩;refine M1 j34 (fW X) rj fj (by omega) c.1 fun h73 q' J k73=>?_
     unfold W5 at J;rw[if_neg (by omega)]at J;refine cU (c:=qQ q) (vs:=qQ q') (k73.get0 b) rfl fun h74 b74 E=>?_
     exact H _ _ ⟨es,⟨q',J.updM E fun y o=>.inl (.inr (.inr (.inr o))),b74⟩,(Q.tr (d.tr k73).wide).tr E⟩
  ·rintro _ h' ⟨ha',hq',hu'⟩
   rw[fy m (by omega)];exact hI (i+1) _ _ ⟨rfl,m,ha',hq',hu'⟩ (by omega)
 ·have hil:i=l.length:=by omega
  subst hil;rw[List.take_length]at u jq;rw[u]at eF;refine⟨_,vc N 0,_,vc N 1,_,vc N 2,_,vc N 3,q.2.2.2.2,vc N 4,?_⟩;refine cU (c:=qQ MX) (vs:=qQ q) S rfl fun h82 p C=>?_
  refine⟨_,vc p 0,_,vc p 1,_,vc p 2,_,vc p 3,q.2.2.2.2,vc p 4,?_⟩;exact hk eF h82 q ((jq.updM C fun y o=>.inl (.inr (.inr (.inl o)))).less fun _ h=>.inl (.inl h)) (g.own C s1)
end Go.Proofs
namespace Go.Proofs
open Go Go.Lift
theorem TC:∀xs:List Ch,cG (xs.flatMap pk)=true
 | []=>rfl
 |x::xs=>by rw[aO];exact kZ rfl (TC xs)
theorem OG{α:Type}{f:α→List Value}{d:Nat}{t:TypeId}{M:Nat→Prop}{h:ae}{s:SliceV}{xs:List α}(m:OwnS f d t M h s xs){k j:Nat}(q:k<xs.length)(K:j<d){v:Value}{x:α}(e:f x=(f xs[k]).set j v){G:ae→Prop}
  (J:∀h',OwnS f d t M h' s (xs.take k++x::xs.drop (k+1))→Upd M h h'→G h'):∃a,s.a=some a∧Wr h (adr (adr a (k*d)) j)∧At (hset h (adr (adr a (k*d)) j) v) G:=by
 have o:∀x,(f x).length=d∧0<d:=m.ne;have C:=m.len;have i:=m.cap;rcases m.blk with L|⟨b,g,u,z,hc,F⟩
 ·omega
 have w:((xs.take k).flatMap f).length=k*d:=by rw[lW o,aH,bJ (by omega)]
 have I:xs.flatMap f=(xs.take k).flatMap f++(f xs[k]++(xs.drop (k+1)).flatMap f):=by
  rw[←aO,←List.drop_eq_getElem_cons q];exact Aa xs k
 rw[I]at hc;have H:=(o xs[k]).1;have c:(xs.take k++x::xs.drop (k+1)).flatMap f=(xs.take k).flatMap f++((f xs[k]).set j v++(xs.drop (k+1)).flatMap f):=by rw[bO,aO,e]
 generalize (xs.take k).flatMap f=A at w hc c;generalize (xs.drop (k+1)).flatMap f=B at hc c;generalize f xs[k]=X at H hc c;have D:adr (adr ⟨b,0,none⟩ (k*d)) j=⟨b,k*d+j,none⟩:=by rw[cj,cj,aR]
 refine⟨⟨b,0,none⟩,u,?_⟩;rw[D];refine⟨iV hc (by rw[List.size_toArray];simp only[ac];omega),un hc fun h' n E=>J h' ⟨by simp;omega,o,i,.inr ⟨b,g,u,z,?_,?_⟩⟩ (E.mono fun y p=>.inl (by have p:y=b:=p;rw[p];exact z))⟩
 ·rw[n,c]
  congr 3
  rw[List.setIfInBounds_toArray,ar A,List.set_append_right _ _ (by omega),w,Nat.add_sub_cancel_left,ar X,List.set_append_left _ _ (by omega)];simp only[ar]
 ·exact F
def H9(L:List Pr)(l:List Ch):List Pr:=if l7 L l=0 then mI L l else L
theorem Vv{x:Hs}{h:ae}{a:Int}{t:Tr}{L:List Pr}{s:SliceV}{l:List Ch}(i:TreeIs No h a x t L)(f:cf L)(g:Fit L)(j:L.length≤500000)(d:Sl pk 5 No h s l)(c:l.length≤500000){K:Tr×Int→ae→Prop}
  (b:∀h' u,TreeIs No h' a x u (H9 L l)→(l7 L l≠0→u=t)→Upd No h h'→K (u,l7 L l) h'):HC PG rx [HJ t,.slice s.a s.len s.cap] [.agg [.int .i64,.int .u64,.int .u64,.int .u64,.ptr,.ptr],.c (.int .i64)] K h:=by
 refine Kw i (fun _ h=>h.elim) f g j d c (fun e h' k=>b h' t ?_ (fun _=>rfl) k) fun e h' u m k=>?_
 ·unfold H9;rw[if_neg e];exact i.upd0 k
 ·have b:=b h' u
  unfold H9 at b;rw[if_pos e,e]at b;exact b m (fun h=>absurd rfl h) k
theorem yh{W:Nat→Prop}{x:Hs}{h:ae}{a:Int}{r:Rt}{L:List Pr}{s:SliceV}{l:List Ch}(j:RefIs W h a x r L)(n:∀y,W y→y<h.size)(g:cf L)(m:Fit L)(p:L.length≤500000)(f:Sl pk 5 No h s l)(d:l.length≤500000)(o:∀c∈l,c.1.size≤1000000){K:Rt×Int→ae→Prop}
  (b:∀h' q,RefIs W h' a x q (H9 L l)→Upd No h h'→K (q,l7 L l) h'):HC PG qG [Zr r,.slice s.a s.len s.cap] [.agg [.int .i64,.int .u64,.int .u64,.int .u64,.slice],.c (.int .i64)] K h:=by
 refine O5 j n g m p f d o (fun e h' k=>b h' r ?_ k) fun e h' q i k=>?_
 ·unfold H9;rw[if_neg e];exact j.upd0 k
 ·have b:=b h' q
  unfold H9 at b;rw[if_pos e,e]at b;exact b i k
theorem Yw{n:Nat}{L:List Pr}{l:List Ch}(f:Few n L)(a:∀c∈l,AR c)(b:n≤1000)(d:l.length≤20):cf (H9 L l)∧Fit (H9 L l)∧(H9 L l).length≤60000:=by
 have:=f.len;have:=AF l L;unfold H9;split
 ·exact⟨vT f.up,AJ f.fits fun c hc=>by have:=a c hc;unfold AR at this;omega,by omega⟩
 ·exact⟨f.up,f.fits,by omega⟩
set_option maxHeartbeats 4000000 in
set_option maxRecDepth 100000 in
theorem IT{h:ae}{k a m:Int}{x:Hs}{sl sc:SliceV}{l:List Pr}{c:List Ch}{right:Bool}(tb:Tab h)(hl:Sl eC 2 No h sl l)(hll:l.length≤9223372036854775807)(hc:Sl pk 5 No h sc c)(hcl:c.length≤9223372036854775807)(hk0:0≤k)(hk1:k≤255)(hm:0≤m∧m≤65535):
  HC PG wh [.int .u8 k,.agg #[.int .u64 x.k0,.int .u64 x.k1,.int .u64 x.mask],.slice sl.a sl.len sl.cap,.slice sc.a sc.len sc.cap,.int .u8 a,.int .u16 m,.bool right] [.c .bool] (fun b h'=>b=true∧Upd No h h') h:=by
 refine Ea k (x.k0,x.k1,x.mask) sl sc a m right ?_;unfold wO bI cl bw ag aQ aK cT eJ db nv AC vO AU J9 r7 GO yc QA abw MH J0;refine aW fun h1 b1 k1=>Sj fun h3 k3=>aj.2 ?_
 have c3:=k3.get0 b1;refine⟨_,vc c3 0,_,vc c3 1,_,vc c3 2,?_⟩;refine Si (W:=No) (x:=x) hk0 hk1 (fun _ h=>h.elim) fun h8 t r i8 j8 k8=>?_
 generalize IntKind.wrap .i64 (eB k 2)=kind at i8 j8;refine Zv (t:=t) (r:=r) fun h9 h12 k12 Z x12 z9=>?_
 refine⟨_,vc Z 0,_,vc Z 1,_,vc Z 2,_,vc Z 3,_,vc Z 4,_,vc Z 5,_,vc x12 0,_,vc x12 1,_,vc x12 2,_,vc x12 3,r.2.2.2.2,vc x12 4,?_⟩;have k012:Upd No h h12:=((k1.tr k3).tr k8).tr k12;refine W4 (W:=No) (g:= []) (sg:=⟨none,0,0⟩) (i8.upd0 k12) (j8.upd0 k12) Nu Nu (by omega) (hl.upd k012 fun _ h=>h.elim) (Sl.nil fun _=>⟨rfl,by omega⟩) (fun _ h=>h.elim) hll (aS _) fun h25 ta ra i25 j25 k25=>?_
 have i25:TreeIs No h25 kind x ta (l3 [] l):=i25;have j25:RefIs No h25 kind x ra (l3 [] l):=j25;have E:Few 25 (l3 [] l):=xA Nu l;generalize l3 [] l=A at i25 j25 E;refine Zv (t:=ta) (r:=ra) fun h26 h29 k29 a29 y29 z26=>?_
 have k029:=(k012.tr k25).tr k29;have nA:=E.len;have za:=bD a29;have zy:=bD y29;refine Va (hc.upd k029 fun _ h=>h.elim) hcl hm fun e30 s out0 ho0 lo0 sm0 k31=>?_
 have z31:=k31.size;have iW:TreeIs (fun y=>h29.size≤y∧y<s.size) s kind x ta A:=((i25.upd0 k29).less fun y hy=>.inr hy.1).upd0 k31
 have jW:RefIs (fun y=>h29.size≤y∧y<s.size) s kind x ra A:=((j25.upd0 k29).less fun y hy=>.inr hy.1).upd0 k31
 have a31:=k31.get0 a29;have y31:=k31.get0 y29;refine Join.intro (fun(_:Unit) h'=>∃out,OwnS pk 5 bE (fun y=>h29.size≤y∧y<s.size) h' e30 out∧out.length≤20∧(∀c∈out,AR c)∧Upd (fun y=>h29.size≤y∧y<s.size) s h') (fun R hR=>?_) ?_
 ·cases right with
  |false=>exact aj.2 (hR _ _ ⟨out0,ho0.within,lo0,sm0,Upd.refl _ _⟩)
  |true=>
   refine au.2 ?_;refine LoopP.ghost (fun(g:Nat×List Ch) (t:Int) h'=>t=(g.1:Int)∧g.1≤g.2.length∧OwnS pk 5 bE (fun y=>h29.size≤y∧y<s.size) h' e30 g.2∧g.2.length≤20∧(∀c∈g.2,AR c)∧Upd (fun y=>h29.size≤y∧y<s.size) s h') (fun g=>20-g.1) (0,out0) ⟨rfl,aS _,ho0.within,lo0,sm0,Upd.refl _ _⟩ ?_
   rintro I ⟨i,out⟩ t h35 ⟨rfl,hi,ho,lo,sm,X⟩ hI;simp only at hi ho lo sm;have le:=ho.len;refine az (fun Q=>?_) fun _=>hR _ _ ⟨out,ho,lo,sm,X⟩
   have Q:i<out.length:=by simp only at Q;omega
   have a35:=X.get a31 (by omega);obtain⟨ad,ha,_,hv⟩:=(ho.sl (W:=No) fun _ _ _ h=>h).at (af Q)
   refine⟨_,vc a35 0,_,vc a35 1,_,vc a35 2,_,vc a35 3,_,vc a35 4,_,vc a35 5,⟨by omega,by omega⟩,ad,ha,out[i].1,hv 0 _ rfl,?_⟩
   refine Tg (iW.updM X fun _ h=>.inl h) (fun y hy=>by have:=X.size;omega) E.up (by omega) out[i].1 fun h45 k45=>?_
   have U:=Rv E out[i].1;have ho45:=ho.upd k45 fun _ _ h=>h
   obtain⟨q1,_,q3⟩:=sm _ (aZ Q);have l35:=X.size;refine⟨⟨by omega,by omega⟩,?_⟩
   have e1:pk (out[i].1,(look A out[i].1).getD ⟨#[]⟩,out[i].2.2.1,out[i].2.2.2.1,out[i].2.2.2.2)=(pk out[i]).set 1 (.string ((look A out[i].1).getD ⟨#[]⟩)):=rfl;have e2:pk (out[i].1,(look A out[i].1).getD ⟨#[]⟩,out[i].2.2.1,(look A out[i].1).isSome,out[i].2.2.2.2)=(pk (out[i].1,(look A out[i].1).getD ⟨#[]⟩,out[i].2.2.1,out[i].2.2.2.1,out[i].2.2.2.2)).set 3 (.bool (look A out[i].1).isSome):=rfl;generalize (look A out[i].1).getD ⟨#[]⟩=nv at e1 e2 U
   generalize (look A out[i].1).isSome=ns at e2;refine OG ho45 Q (by omega) e1 fun h47 ho47 hu47=>⟨⟨by omega,by omega⟩,?_⟩
   have ht:(out.take i++(out[i].1,nv,out[i].2.2.1,out[i].2.2.2.1,out[i].2.2.2.2)::out.drop (i+1)).length=out.length:=by simp;omega
   have hg:(out.take i++(out[i].1,nv,out[i].2.2.1,out[i].2.2.2.1,out[i].2.2.2.2)::out.drop (i+1))[i]'(by omega)=(out[i].1,nv,out[i].2.2.1,out[i].2.2.2.1,out[i].2.2.2.2):=by
    rw[List.getElem_append_right (by simp;omega)];simp[bJ (Nat.le_of_lt Q)]
   refine OG (k:=i) (x:=(out[i].1,nv,out[i].2.2.1,ns,out[i].2.2.2.2)) ho47 (by omega) (by omega) (by rw[hg];exact e2) fun h49 ho49 hu49=>?_
   rw[fy Q (by omega)];refine hI (i+1,_) _ _ ⟨rfl,?_,ho49,?_,fun c hc=>?_,((X.tr k45.wide).tr hu47).tr hu49⟩ (by show 20-(i+1)<20-i;omega)
   ·simp;omega
   ·simp;omega
   ·rcases bF.1 hc with hc|hc
    ·have hc:=eO hc
     rcases bF.1 hc with hc|hc
     ·exact sm c (eO hc)
     ·rcases aA.1 hc with rfl|hc
      ·exact⟨q1,U,q3⟩
      ·exact sm c (lC hc)
    ·rcases aA.1 hc with rfl|hc
     ·exact⟨q1,U,q3⟩
     ·have hc:=lC hc
      rcases bF.1 hc with hc|hc
      ·exact sm c (eO hc)
      ·rcases aA.1 hc with rfl|hc
       ·exact⟨q1,U,q3⟩
       ·exact sm c (lC hc)
 rintro _ h51 ⟨out,ho,lo,sm,X⟩;have hz:∀c∈out,c.1.size≤1000000:=fun c hc=>by have:=(sm c hc).1;omega
 have J:Upd No h h51:=((k029.tr k31).trans X fun y hy=>.inr (bj k029.size hy.1))
 have C51:Sl pk 5 No h51 e30 out:=ho.sl fun _ _ _ h=>h
 have a51:=X.get a31 (by omega);have y51:=X.get y31 (by omega);have iA:=(iW.updM X fun _ h=>.inl h).less (W':=No) fun _ h=>h.elim
 have jA:=(jW.updM X fun _ h=>.inl h).less (W':=No) fun _ h=>h.elim
 obtain⟨rr,rf,rn⟩:=Yw E sm (by omega) lo;refine Join.intro (fun t' h'=>Sl pk 5 No h' t' out∧Upd No h51 h') (fun R hR=>?_) ?_
 ·refine aW fun h53 b53 k53=>⟨_,(C51.upd k53 fun _ h=>h.elim).srow,?_⟩
  refine AppP.own (ys:=out) (M:=fun y=>h51.size≤y) (OwnS.nil (a:=some (aF h51)) Cs) C51.len rfl (TC _) rfl (by omega) (by simp only[List.length_nil];omega) k53.size fun t h' ho X=>hR _ _ ⟨ho.sl fun _ _ _ h=>h,(k53.wide.tr X).mono fun y hy=>.inr hy⟩
 rintro sm' h58 ⟨M58,k58⟩;have a58:=k58.get0 a51;have y58:=k58.get0 y51;refine⟨_,vc a58 0,_,vc a58 1,_,vc a58 2,_,vc a58 3,_,vc a58 4,_,vc a58 5,?_⟩;refine Vv (iA.upd0 k58) E.up E.fits (by omega) M58 (by omega) fun h66 u iu hsame k66=>?_
 refine EX (t:=u) fun h68 u68 k68=>?_
 have D:=k66.tr k68;have P:=k58.tr D;have O:=D.get0 y58;have C68:=C51.upd P fun _ h=>h.elim
 have j68:=jA.upd0 P;refine Join.intro (fun t' h'=>∃(p:Nat) (q:Rt),t'=(⟨p,0,none⟩,l7 A out)∧h'[p]? =some (.cells (qQ q).toArray cQ (0,0))∧RefIs No h' kind x q (H9 A out)∧Upd No h68 h') (fun R hR=>?_) ?_
 ·refine⟨_,vc O 0,_,vc O 1,_,vc O 2,_,vc O 3,ra.2.2.2.2,vc O 4,?_,?_⟩
  ·refine yF C68 (by omega) fun s111 h112 h111 C=>?_
   have w:=C.get0 O;have I112:Sl pk 5 No h112 s111 out:=h111.sl fun _ _ _ h=>h
   refine⟨⟨vc w 0,vc w 1,vc w 2,vc w 3,vc w 4⟩,?_,?_⟩
   ·refine yh (W:=No) (j68.upd0 C) (fun _ h=>h.elim) E.up E.fits (by omega) I112 (by omega) hz fun h114 q jq k114=>?_
    exact WS (r:=q) fun h116 b116 k116=>hR _ _ ⟨h114.size,q,rfl,b116,jq.upd0 k116,(C.tr k114).tr k116⟩
   ·refine aW fun h117 b117 V=>?_
    have y0:=V.get0 w;refine⟨⟨vc y0 0,vc y0 1,vc y0 2,vc y0 3,vc y0 4⟩,?_⟩;refine yh (W:=fun y=>y=h112.size) (((j68.upd0 C).less fun y e=>.inr (by omega)).upd0 V) (fun y e=>by have:=bD b117;omega) E.up E.fits (by omega) (I112.upd V fun _ h=>h.elim) (by omega) hz fun h119 q jq k119=>?_
    refine cU (c:=qQ MX) (vs:=qQ q) (k119.get0 b117) rfl fun h120 b120 hu120=>hR _ _ ⟨h112.size,q,rfl,b120,?_,((C.tr V).tr k119).own hu120 C.size⟩
    exact(jq.updM hu120 fun _ h=>.inl h).less fun _ h=>h.elim
  ·refine aW fun h121 b121 T=>?_
   have y0:=T.get0 O;refine⟨⟨vc y0 0,vc y0 1,vc y0 2,vc y0 3,vc y0 4⟩,?_⟩;refine yF (C68.upd T fun _ h=>h.elim) (by omega) fun s122 h123 h122 K=>?_
   have G:=K.get0 y0;refine⟨⟨vc G 0,vc G 1,vc G 2,vc G 3,vc G 4⟩,?_⟩;refine yh (W:=fun y=>y=h68.size) ((j68.less fun y e=>.inr (by omega)).upd0 (T.tr K)) (fun y e=>by have:=bD (K.get0 b121);omega) E.up E.fits (by omega) (h122.sl (W:=No) fun _ _ _ h=>h) (by omega) hz fun h125 q jq k125=>?_
   refine cU (c:=qQ MX) (vs:=qQ q) ((K.tr k125).get0 b121) rfl fun h126 b126 hu126=>hR _ _ ⟨h68.size,q,rfl,b126,?_,((T.tr K).tr k125).own hu126 (al _)⟩
   exact(jq.updM hu126 fun _ h=>.inl h).less fun _ h=>h.elim
 rintro _ h128 ⟨p,q,rfl,q128,jq,B⟩;have Y:=P.tr B;rw[beq_self_eq_true];refine au.2 ?_;have C128:=C51.upd Y fun _ h=>h.elim
 refine xf C128 (by omega) fun h130 k130=>?_
 refine yF (C128.upd k130 fun _ h=>h.elim) (by omega) fun s131 h132 h131 k132=>?_
 refine De (h131.sl (W:=No) fun _ _ _ h=>h) (by omega) hz fun h134 k134=>?_
 rw[beq_self_eq_true];have d:=(k130.tr k132).tr k134;have o:=(B.tr d).get0 u68;have N:=d.get0 q128;refine au.2 ⟨_,vc o 0,_,vc o 1,_,vc o 2,_,vc o 3,_,vc o 4,_,vc o 5,_,vc N 0,_,vc N 1,_,vc N 2,_,vc N 3,q.2.2.2.2,vc N 4,?_⟩;have S:=Y.tr d;refine E0 (tb.upd (J.tr S) id) (iu.upd0 ((k68.tr B).tr d)) (jq.upd0 d) rr rf rn fun h147 L=>au.2 ?_
 have f:=S.tr L;have n:=f.get0 a51;have H:=f.get0 y51;have z:=L.get0 o;refine CondP.intro (fun e=>?_) fun e=>?_
 ·refine⟨_,vc n 0,_,vc n 1,_,vc n 2,_,vc n 3,_,vc n 4,_,vc n 5,_,vc H 0,_,vc H 1,_,vc H 2,_,vc H 3,ra.2.2.2.2,vc H 4,?_⟩
  refine E0 (tb.upd (J.tr f) id) (iA.upd0 f) (jA.upd0 f) E.up E.fits (by omega) fun h160 k160=>au.2 ?_
  exact Gk (M58.upd ((((D.tr B).tr d).tr L).tr k160) fun _ h=>h.elim) (C51.upd (f.tr k160) fun _ h=>h.elim) (by omega) ⟨decide_eq_true rfl,(J.tr f).tr k160⟩
 ·have eu:u=ta:=hsame (by simpa using e)
  refine⟨_,vc z 0,_,vc z 1,_,vc z 2,_,vc z 3,_,vc z 4,_,vc z 5,_,vc n 0,_,vc n 1,_,vc n 2,_,vc n 3,_,vc n 4,_,vc n 5,?_⟩;refine Yg (iu.upd0 (((k68.tr B).tr d).tr L)) (iA.upd0 f) fun h176 k176=>?_
  rw[decide_eq_true eu];have j:=f.tr k176;have v:=j.get0 a51;have F:=j.get0 y51;refine au.2 ⟨_,vc v 0,_,vc v 1,_,vc v 2,_,vc v 3,_,vc v 4,_,vc v 5,_,vc F 0,_,vc F 1,_,vc F 2,_,vc F 3,ra.2.2.2.2,vc F 4,?_⟩;refine E0 (tb.upd (J.tr j) id) (iA.upd0 j) (jA.upd0 j) E.up E.fits (by omega) fun h189 k189=>au.2 ?_
  exact Gk (M58.upd (((((D.tr B).tr d).tr L).tr k176).tr k189) fun _ h=>h.elim) (C51.upd (j.tr k189) fun _ h=>h.elim) (by omega) ⟨decide_eq_true rfl,(J.tr j).tr k189⟩
end Go.Proofs
