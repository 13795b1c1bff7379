/- A part of the proof that the named laws of this program answer true, whatever the input. -/
import Derived.Test.YtajpljopgikpgaaGreatDoorPart9
import Derived.Test.YtajpljopgikpgaaGreatDoorPart7
import Derived.Test.YtajpljopgikpgaaGreatDoorPart8
import Derived.Test.YtajpljopgikpgaaGreatDoorPart6
open Int renaming tmod→gk
open List renaming length_singleton→aO,length_append→ae,flatMap_append→bj,length_cons→aL,mem_singleton→aq,mem_of_getElem?→aF,getElem?_of_mem→kE,getElem?_eq_some_iff→bM,range→cC
open List.Pairwise renaming nil→fF
open Nat renaming le_refl→al,zero_add→aB,le_trans→aX,mul_le_mul_right→bQ
open Option renaming isSome_some→jt
namespace Go.Proofs
open Go Go.Lift
theorem Nj{c:Nat}:IntKind.wrap .u32 (((2^c%4294967296:Nat):Int)*2)=((2^(c+1)%4294967296:Nat):Int):=by
 rw[IntKind.wrap_u32,Nat.pow_succ];omega
theorem Pz{q:List Pr}:(IU q==(1:Int))=(fX q).isSome:=by
 match q with
 | []=>rfl
 | [a]=>rfl
 |a::b::q=>rw[show IU (a::b::q)=2 by unfold IU;rw[if_neg (by simp),if_pos (by simp)]];rfl
theorem Py{q:List Pr}:(IU q==(2:Int))=(dN q).isSome:=by
 match q with
 | []=>rfl
 | [a]=>rfl
 |a::b::q=>rw[show IU (a::b::q)=2 by unfold IU;rw[if_neg (by simp),if_pos (by simp)]];rw[show dN (a::b::q)=some (a::b::q) by unfold dN;rw[if_pos (by simp)]];rfl
def TwoB(a c:Nat)(h:ad)(e d:SliceV)(L:List Pr)(B:List UInt8):Prop:=
 ∃M N:Nat→Prop,OwnS gC 2 bH M h e L∧OwnS mE 1 bX N h d B∧(∀b,M b→a≤b∧b<c∧¬N b)∧∀b,N b→a≤b∧b<c
theorem TwoB.upd0{a e:Nat}{h c:ad}{b d:SliceV}{L:List Pr}{B:List UInt8}(t:TwoB a e h b d L B)(k:Upd No h c):TwoB a e c b d L B:=by
 obtain⟨M,N,f,j,i,g⟩:=t;exact⟨M,N,f.upd k fun _ _ h=>h,j.upd k fun _ _ h=>h,i,g⟩
theorem TwoB.up{d j i:Nat}{h:ad}{f g:SliceV}{L:List Pr}{B:List UInt8}(t:TwoB d j h f g L B)(n:j≤i):TwoB d i h f g L B:=by
 obtain⟨M,N,k,m,c,e⟩:=t;exact⟨M,N,k,m,fun b a=>⟨(c b a).1,by have:=(c b a).2.1;omega,(c b a).2.2⟩,fun b a=>⟨(e b a).1,by have:=(e b a).2;omega⟩⟩
theorem TwoB.appP{d j:Nat}{h:ad}{e m:SliceV}{L:List Pr}{B:List UInt8}{p:Pr}(t:TwoB d j h e m L B)(w:d≤j)(v:j≤h.size)(x:L.length≤1000000){xs:List Value}(hx:xs=gC p){K:SliceV→ad→Prop}
  (q:∀s' c,TwoB d c.size c s' m (L++ [p]) B→Upd (fun b=>d≤b) h c→K s' c):AppP (some [.string (⟨#[]⟩:ByteArray),.string (⟨#[]⟩:ByteArray)]) 2 32 bH e.a e.len e.cap 1 xs h K:=by
 subst hx;obtain⟨M,N,n,u,g,f⟩:=t;refine AppP.own (ys:= [p]) (n.more (M':=fun b=>M b∨h.size≤b) fun _ h=>.inl h) rfl rfl rfl rfl (by omega) (by simp only[aO];omega) (.inr (al _)) fun s' c o i=>?_
 have s:=i.size;refine q s' c ⟨_,N,o.within,u.upd i fun b a hm=>hm.elim (fun hm=>(g b hm).2.2 a) fun hm=>by have:=(f b a).2;omega,fun b a=>⟨?_,a.2,fun k=>?_⟩,fun b a=>⟨(f b a).1,by have:=(f b a).2;omega⟩⟩ (i.mono fun b a=>a.elim (fun a=>.inl (g b a).1) .inr)
 ·rcases a.1 with a|a
  ·exact(g b a).1
  ·omega
 ·rcases a.1 with a|a
  ·exact(g b a).2.2 k
  ·have:=(f b k).2;omega
theorem TwoB.appB{W:Nat→Prop}{g k:Nat}{h:ad}{m i e:SliceV}{L:List Pr}{B ys:List UInt8}(t:TwoB g k h m i L B)(y:g≤k)(x:k≤h.size)(v:Sl mE 1 W h e ys)(u:B.length+ys.length≤140737488355328){K:SliceV→ad→Prop}
  (q:∀s' c,TwoB g c.size c m s' L (B++ys)→Upd (fun b=>g≤b) h c→K s' c):∃xs,SRow h e.a (e.len*1) xs∧AppP (some [.int .u8 0]) 1 1 bX i.a i.len i.cap e.len xs h K:=by
 obtain⟨M,N,o,w,d,n⟩:=t;refine ux (M:=fun b=>N b∨h.size≤b) (w.more fun _ h=>.inl h) v (fun _ h=>.inr h) u fun s' c p j=>?_
 have s:=j.size;refine q s' c ⟨M,_,o.upd j fun b a hm=>hm.elim (fun hm=>(d b a).2.2 hm) fun hm=>by have:=(d b a).2.1;omega,p.within,fun b a=>⟨(d b a).1,by have:=(d b a).2.1;omega,fun f=>?_⟩,fun b a=>⟨?_,a.2⟩⟩ (j.mono fun b a=>a.elim (fun a=>.inl (n b a).1) .inr)
 ·rcases f.1 with f|f
  ·exact(d b a).2.2 f
  ·have:=(d b a).2.1;omega
 ·rcases a.1 with a|a
  ·exact(n b a).1
  ·omega
theorem y7{β:Type}(g:Nat→Option β):∀n,(fm g n).length≤n
 |0=>by simp[fm]
 |n+1=>by
  rw[fz,ae];have:=y7 g n;cases g n<;>simp<;>omega
theorem QO{β:Type}(g:Nat→Option β){n m:Nat}(h:n≤m):∃r,fm g m=fm g n++r:=by
 obtain⟨j,rfl⟩:∃j,m=n+j:=⟨m-n,by omega⟩
 clear h;induction j with
 |zero=>exact⟨[],by simp⟩
 |succ j ih=>obtain⟨r,a⟩:=ih;exact⟨r++(g (n+j)).toList,by rw[←Nat.add_assoc,fz,a,List.append_assoc]⟩
set_option maxRecDepth 4000 in
theorem Pm{x:Hs}:∀(m:Nat),m≤13→∀{h:ad} {b:Nat} {l:List Pr},DTrie No x h m b l→Fit l→l.length≤60000→∀{K:SliceV→ad→Prop},(∀s' d,OwnS mE 1 bX (fun y=>h.size≤y) d s' (eB x m l)→Upd No h d→K s' d)→
  HC PG xK [.pointer (some ⟨b,0,none⟩),.int .i64 ((13-m:Nat):Int)] [.c .slice] K h:=by
 intro m;induction m with
 |zero=>
  intro _ h b l t Y hn K hk;refine Hr (some ⟨b,0,none⟩) ((13-0:Nat):Int) ?_;unfold CD cT dz bG mC jO bI jP gT;obtain⟨_,⟨sa,sn,sc⟩,V,hs⟩:=t;obtain rfl:sn=l.length:=hs.len;have g:∀{d:ad} {i:Nat},Upd No h d→i<130→aK d (adr ⟨b,0,none⟩ i)=some (dF true ⟨sa,l.length,sc⟩ (fun _=> []) (fun _=>none) i):=fun k hi=>by rw[bF,aY (k.get0 V),aB,Cf hi]
  have r0:=Upd.refl No h;have e1:eB x 0 l= [1]++km l.length 2++iM l:=by unfold eB;simp
  have hpl:=kg Y;rw[e1]at hk;refine⟨_,rfl,true,g (i:=0) r0 (by omega),ax.2 ⟨_,rfl,⟨sa,l.length,sc⟩,g (i:=1) r0 (by omega),_,rfl,⟨sa,l.length,sc⟩,g (i:=1) r0 (by omega),?_,?_⟩⟩
  ·refine aQ fun X b1 k1=>⟨g (i:=1) k1 (by omega),g (i:=1) k1 (by omega),?_⟩
   have o1:=uZ (b:=1) b1;refine AR (n:=l.length) (by omega) fun s2 s C f=>⟨g (i:=1) (k1.tr f) (by omega),g (i:=1) (k1.tr f) (by omega),?_⟩
   have s1:=k1.size;have s2':=f.size;refine ux (o1.upd f fun _ _ h=>h) (C.sl (W:=No) fun _ _ _ h=>h) (fun y e=>by show h.size≤y;omega) (by rw[cQ];simp) fun s3 w z U=>?_
   have u:Upd No h w:=(k1.tr f).trans U fun y e=>.inr e
   refine⟨g (i:=1) u (by omega),g (i:=1) u (by omega),?_⟩;refine yW (hs.upd u fun _ h=>h.elim) Y hn fun s4 h4 v o=>⟨g (i:=1) (u.tr o) (by omega),?_⟩
   have s3':=u.size;have F:=o.size;refine ux (z.upd o fun _ _ h=>h) (v.sl (W:=No) fun _ _ _ h=>h) (fun y e=>by show h.size≤y;omega) (by rw[ae,cQ];simp;omega) fun s5 J A P=>?_
   have O:Upd No h J:=(u.tr o).trans P fun y e=>.inr e
   exact⟨g (i:=1) O (by omega),hk s5 J A O⟩
  ·refine AR (n:=l.length) (by omega) fun s2 s C f=>⟨g (i:=1) f (by omega),g (i:=1) f (by omega),?_⟩
   refine aQ fun X b1 k1=>⟨g (i:=1) (f.tr k1) (by omega),g (i:=1) (f.tr k1) (by omega),?_⟩
   have o1:=uZ (b:=1) b1;have s1:=k1.size;have s2':=f.size;refine ux (M:=fun y=>h.size≤y) (o1.more fun y e=>by show h.size≤y;omega) ((C.upd k1 fun _ _ h=>h).sl (W:=No) fun _ _ _ h=>h) (fun y e=>by show h.size≤y;omega) (by rw[cQ];simp) fun s3 w z U=>?_
   have u:Upd No h w:=(f.tr k1).trans U fun y e=>.inr e
   refine⟨g (i:=1) u (by omega),g (i:=1) u (by omega),?_⟩;refine yW (hs.upd u fun _ h=>h.elim) Y hn fun s4 h4 v o=>⟨g (i:=1) (u.tr o) (by omega),?_⟩
   have s3':=u.size;have F:=o.size;refine ux (z.upd o fun _ _ h=>h) (v.sl (W:=No) fun _ _ _ h=>h) (fun y e=>by show h.size≤y;omega) (by rw[ae,cQ];simp;omega) fun s5 J A P=>?_
   have O:Upd No h J:=(u.tr o).trans P fun y e=>.inr e
   exact⟨g (i:=1) O (by omega),hk s5 J A O⟩
 |succ m ih=>
  intro hm h b l t Y hn K hk;refine Hr (some ⟨b,0,none⟩) ((13-(m+1):Nat):Int) ?_;unfold CD cT dz bG mC jO bI jP gT;obtain⟨_,kk,V,hkid⟩:=t;have elev:(13-(m+1):Nat)=12-m:=by omega
  rw[elev];obtain⟨q,hq⟩:∃q:Nat→List Pr,q=fun c=>part x (12-m) c l:=⟨_,rfl⟩
  have G:∀c,part x (12-m) c l=q c:=fun c=>by rw[hq]
  rw[←hq]at V;have g:∀{d:ad} {i j:Nat},Upd No h d→i+j<130→aK d (adr (adr ⟨b,0,none⟩ i) j)=some (dF false ⟨none,0,0⟩ q kk (i+j)):=fun k hi=>by rw[bF,bF,aY (k.get0 V),aB,Cf hi]
  have g0:aK h (adr ⟨b,0,none⟩ 0)=some (dF false ⟨none,0,0⟩ q kk 0):=by rw[bF,aY V,Cf (by omega)]
  refine⟨_,rfl,false,g0,aj.2 ?_⟩;have hML:∀L∈iC x (12-m) l,2≤L.length∧(eB x m L).length≤9+L.length*(20004+9*(m+1)):=fun L hL=>by
   obtain⟨w,c,rfl⟩:=nG hL;exact⟨w,l7 m Y.part⟩
  have htot:((iC x (12-m) l).flatMap (eB x m)).length≤60000*(20004+9*(m+1)+9):=by
   have X:=AP hML;have s:=yQ x (12-m) l;exact aX X (bQ _ (by omega))
  have hm20:20004+9*(m+1)+9≤20200:=by omega
  have Z:((iC x (12-m) l).flatMap (eB x m)).length≤60000*20200:=aX htot (Nat.mul_le_mul_left _ hm20);have Q:∀c,c≤32→((fm (fun j=>dN (q j)) c).flatMap (eB x m)).length≤60000*20200:=fun c hc=>by
   obtain⟨r,hr⟩:=QO (fun j=>dN (q j)) hc
   have:((fm (fun j=>dN (q j)) 32).flatMap (eB x m)).length≤60000*20200:=by rw[hq];exact Z
   rw[hr,bj,ae]at this;omega
  refine LoopP.ghost (fun(c:Nat) (t:Int×Int×SliceV×SliceV×Int×Int) d=>t.1=((gY (fun j=>(fX (q j)).isSome) c:Nat):Int)∧t.2.1=((gY (fun j=>(dN (q j)).isSome) c:Nat):Int)∧t.2.2.2.2.1=((2^c%4294967296:Nat):Int)∧t.2.2.2.2.2=(c:Int)∧c≤32∧
   TwoB h.size d.size d t.2.2.1 t.2.2.2.1 (fm (fun j=>fX (q j)) c) ((fm (fun j=>dN (q j)) c).flatMap (eB x m))∧Upd No h d) (fun c=>32-c) 0 ⟨rfl,rfl,rfl,rfl,by omega,⟨No,No,OwnS.nil hJ,OwnS.nil pU,fun _ h=>h.elim,fun _ h=>h.elim⟩,Upd.refl _ _⟩ ?_
  rintro I c ⟨dt,nt,sl,sk,bt,ct⟩ d ⟨e1,e2,e3,e4,hc32,hT,hu⟩ hI;simp only at e1 e2 e3 e4 hT;subst e1 e2 e3 e4;have s0:=hu.size;have wide:∀{X s:ad},Upd No h X→Upd (fun b=>h.size≤b) X s→Upd No h s:=fun a k=>a.trans k fun y e=>.inr e
  refine aH (fun E=>?_) fun hge=>?_
  ·have E:c<32:=by have:(c:Int)<32:=E;omega
   have ec:(c:Int).toNat*1=c:=by omega
   have ec2:(c:Int).toNat*2=c*2:=by omega
   have hbd:=kC (fun j=>(fX (q j)).isSome) c
   have hbn:=kC (fun j=>(dN (q j)).isSome) c
   have hpw:2^c≤2^31:=Nat.pow_le_pow_right (by omega) (by omega);have T:2^c%4294967296=2^c:=Nat.mod_eq_of_lt (by omega);have vis:dF false ⟨none,0,0⟩ q kk (2+c)=.int .i64 (IU (q c)):=by rw[KT (by omega) (by omega),show 2+c-2=c by omega]
   refine Join.intro (fun(t:Int×SliceV) s=>t.1=((gY (fun j=>(fX (q j)).isSome) (c+1):Nat):Int)∧TwoB h.size s.size s t.2 sk (fm (fun j=>fX (q j)) (c+1)) ((fm (fun j=>dN (q j)) c).flatMap (eB x m))∧Upd No h s) (fun R hR=>?_) ?_
   ·refine⟨_,rfl,⟨by simp only;omega,by simp only;omega⟩,IU (q c),?_,?_⟩
    ·simp only[ec];rw[g hu (by omega),vis]
    rw[Pz];have eb:gY (fun j=>(fX (q j)).isSome) (c+1)=gY (fun j=>(fX (q j)).isSome) c+(if(fX (q c)).isSome then 2^c else 0):=rfl
    cases hso:fX (q c)with
    |none=>
     rw[hso]at eb;refine aj.2 (hR _ _ ⟨by rw[eb];rfl,?_,hu⟩);rw[fz,hso];simpa using hT
    |some p=>
     rw[hso]at eb;have ep:y6 (fX (q c))=p:=by rw[hso];rfl
     refine ax.2 ⟨_,rfl,⟨by simp only;omega,by simp only;omega⟩,p.1,?_,p.2,?_,aQ fun s b2 f=>⟨_,jj b2,?_⟩⟩
     ·simp only[ec2];rw[bF,bF,bF,aY (hu.get0 V),aB,Cf (by omega),Hd (by omega) (by omega) (by omega),show(34+c*2+0-34)/2=c by omega,ep]
     ·simp only[ec2];rw[bF,bF,bF,aY (hu.get0 V),aB,Cf (by omega),Hb (by omega) (by omega) (by omega),show(34+c*2+1-34)/2=c by omega,ep]
     ·have s2:=f.size
      have hl:=y7 (fun j=>fX (q j)) c
      refine(hT.upd0 f).appP (p:=p) s0 s2 (by omega) rfl fun s3 w H U=>hR _ _ ⟨?_,?_,wide (hu.tr f) U⟩
      ·rw[eb,T]
       simp only[jt,if_true];rw[IntKind.wrap_u32];omega
      ·rw[fz,hso];exact H
   rintro⟨dt,sl2⟩ s ⟨rfl,hT2,u2⟩;simp only at hT2⊢;have s2:=u2.size;refine Join.intro (fun(t:Int×SliceV) w=>t.1=((gY (fun j=>(dN (q j)).isSome) (c+1):Nat):Int)∧TwoB h.size w.size w sl2 t.2 (fm (fun j=>fX (q j)) (c+1)) ((fm (fun j=>dN (q j)) (c+1)).flatMap (eB x m))∧Upd No h w) (fun R hR=>?_) ?_
   ·refine⟨_,rfl,⟨by omega,by omega⟩,IU (q c),?_,?_⟩
    ·rw[ec,g u2 (by omega),vis]
    rw[Py];have eb:gY (fun j=>(dN (q j)).isSome) (c+1)=gY (fun j=>(dN (q j)).isSome) c+(if(dN (q c)).isSome then 2^c else 0):=rfl
    cases hma:dN (q c)with
    |none=>
     rw[hma]at eb;refine aj.2 (hR _ _ ⟨by rw[eb];rfl,?_,u2⟩);rw[fz (fun j=>dN (q j)),hma];simpa using hT2
    |some L=>
     rw[hma]at eb;have hL2:2≤(q c).length∧L=q c:=by
      unfold dN at hma;by_cases s:2≤(q c).length
      ·rw[if_pos s]at hma;exact⟨s,(Option.some.inj hma).symm⟩
      ·rw[if_neg s]at hma;cases hma
     obtain⟨h2l,rfl⟩:=hL2;refine ax.2 (aH (fun _=>?_) fun hx=>absurd (show((12-m:Nat):Int)<13 by omega) hx)
     obtain⟨kb,hkb,td⟩:=hkid c E (by rw[G];exact h2l);rw[G]at td;have hpt:(q c).length≤l.length:=by rw[←G];exact jA
     have hpf:Fit (q c):=by rw[←G];exact Y.part
     have e14:IntKind.wrap .i64 (((12-m:Nat):Int)+1)=((13-m:Nat):Int):=by rw[nq (by omega)];omega
     refine⟨_,rfl,⟨by omega,by omega⟩,some ⟨kb,0,none⟩,?_,?_⟩
     ·rw[ec,g u2 (by omega),Hc (by omega),show 98+c-98=c by omega,hkb]
     rw[e14];refine ih (by omega) (DTrie.upd u2 (fun _ h=>h.elim) td) hpf (by omega) fun s4 h4 v o=>?_
     have F:=o.size;have hpr:=Q (c+1) (by omega);rw[fz,hma,bj,ae]at hpr;simp only[Option.toList_some,List.flatMap_cons,List.flatMap_nil,List.append_nil]at hpr;refine(hT2.upd0 o).appB s2 F (v.sl (W:=No) fun _ _ _ h=>h) (by omega) fun s5 J hT5 P=>hR _ _ ⟨?_,?_,wide (u2.tr o) P⟩
     ·rw[eb,T]
      simp only[jt,if_true];rw[IntKind.wrap_u32];omega
     ·rw[fz (fun j=>dN (q j)),hma,bj]
      simpa using hT5
   rintro⟨nt,sk2⟩ w ⟨rfl,H,u⟩;simp only at H⊢;rw[ci E (by omega),Nj];exact hI (c+1) _ _ ⟨rfl,rfl,rfl,rfl,E,H,u⟩ (by omega)
  ·obtain rfl:c=32:=by have:¬(c:Int)<32:=hge;omega
   have e1:eB x (m+1) l= [0]++km (gY (fun j=>(fX (q j)).isSome) 32) 4++km (gY (fun j=>(dN (q j)).isSome) 32) 4++iM (fm (fun j=>fX (q j)) 32)++(fm (fun j=>dN (q j)) 32).flatMap (eB x m):=by
    rw[hq];unfold eB;simp[fi,iC]
   rw[e1]at hk;have hD:=kC (fun j=>(fX (q j)).isSome) 32
   have hN:=kC (fun j=>(dN (q j)).isSome) 32
   have hsf:Fit (fm (fun j=>fX (q j)) 32):=fun p hp=>Y p (pE (x:=x) (lev:=12-m) (by unfold fi;rw[hq]at hp;exact hp))
   have hsl:=y7 (fun j=>fX (q j)) 32
   have hps:=kg hsf;have hpr:=Q 32 (al _);obtain⟨M,N,o1,o2,hMb,hNb⟩:=hT;generalize gY (fun j=>(fX (q j)).isSome) 32=D at*
   generalize gY (fun j=>(dN (q j)).isSome) 32=N' at*
   generalize fm (fun j=>fX (q j)) 32=S at*
   generalize (fm (fun j=>dN (q j)) 32).flatMap (eB x m)=B at*
   have hsS:Sl gC 2 No d sl S:=o1.sl fun _ _ _ h=>h
   have hsB:Sl mE 1 No d sk B:=o2.sl fun _ _ _ h=>h
   refine Join.plain (aQ fun X b1 k1=>?_)
   simp only;have ob:=uZ (b:=0) b1;refine GA (by omega) fun s2 s C f=>?_
   have s1:=k1.size;have s2':=f.size;refine ux (M:=fun y=>d.size≤y) (ob.upd f fun _ _ h=>h) (C.sl (W:=No) fun _ _ _ h=>h) (fun y e=>by show d.size≤y;omega) (by rw[cQ];simp) fun s3 w z U=>?_
   have s3':=U.size;refine Join.plain (GA (by omega) fun s4 h4 v o=>?_)
   have F:=o.size;refine ux (M:=fun y=>d.size≤y) (z.upd o fun _ _ h=>h) (v.sl (W:=No) fun _ _ _ h=>h) (fun y e=>by show d.size≤y;omega) (by rw[ae,cQ,cQ];simp) fun s5 J A P=>?_
   have s5':=P.size;have O:Upd No d J:=(((k1.tr f).trans U fun y e=>.inr e).tr o).trans P fun y e=>.inr e
   refine Join.plain (yW (hsS.upd O fun _ h=>h.elim) hsf (by omega) fun s6 h6 ho6 k6=>?_)
   have s6':=k6.size;refine ux (M:=fun y=>d.size≤y) (A.upd k6 fun _ _ h=>h) (ho6.sl (W:=No) fun _ _ _ h=>h) (fun y e=>by show d.size≤y;omega) (by rw[ae,ae,cQ,cQ];simp;omega) fun s7 h7 ho7 k7=>?_
   have u7:Upd No d h7:=(O.tr k6).trans k7 fun y e=>.inr e
   refine ux (M:=fun y=>d.size≤y) ho7 (hsB.upd u7 fun _ h=>h.elim) (fun y e=>by have:=u7.size;show d.size≤y;omega) (by rw[ae,ae,ae,cQ,cQ];simp;omega) fun s8 h8 ho8 k8=>?_
   refine hk s8 h8 (ho8.more fun y e=>by show h.size≤y;omega) ((hu.tr u7).trans k8 fun y e=>.inr (by omega))
end Go.Proofs
namespace Go.Proofs
open Go Go.Lift
theorem Ld{a:Int}{x:Hs}{l:List Pr}{xs:List UInt8}(hv:Et a x l xs)(b:Fit l)(d:l.length≤60000):xs.length≤100000000000:=by
 rcases hv with⟨_,rfl⟩|⟨_,ys,e,rfl⟩
 ·have c:=l7 (x:=x) 13 b
  have f:l.length*(20004+9*(13+1))≤60000*(20004+9*(13+1)):=bQ _ d;rw[aL];omega
 ·have c:=xt e b
  rw[aL];omega
theorem Lz{W:Nat→Prop}{x:Hs}{h:ad}{a:Int}{r:Rt}{l:List Pr}(E:a=0∨a=1)(i:RefIs W h a x r l)(P:cB l)(m:Fit l)(A:l.length≤60000){K:SliceV→ad→Prop}
  (N:∀s' h' xs,OwnS mE 1 bX (fun y=>h.size≤y) h' s' xs→Et a x l xs→Upd No h h'→K s' h'):HC PG ul [RL r] [.c .slice] K h:=by
 refine Ho r ?_;unfold Aq bo cz dU uI Ku jP;obtain⟨s,rfl,z,hc⟩:=i;have z:=z.less (W':=No) fun _ h=>h.elim
 refine aQ fun B b1 k1=>⟨_,vc b1 0,?_⟩
 have C:=k1.size;rcases E with rfl|rfl
 ·refine aj.2 (aQ fun X b3 c=>⟨_,kJ (c.get0 b1) 1 0,_,kJ (c.get0 b1) 1 1,_,kJ (c.get0 b1) 1 2,s,vc (c.get0 b1) 4,?_⟩)
  have L:=uZ (b:=0) b3;have n:=k1.tr c;have T:∀v,hx 0 v=v:=fun v=>if_pos rfl
  simp only[T];refine Nd (x:=x) (z.upd n fun _ h=>h.elim) A (fun p H=>by have:=m p H;omega) fun S b U k=>?_
  have Q:=c.size;have Y:=k.size;refine Pm 13 (al _) U m A fun O V e j=>?_
  have I:=j.size;have o:=l7 (x:=x) 13 m;have h2:l.length*(20004+9*(13+1))≤60000*(20004+9*(13+1)):=bQ _ A;refine ux (M:=fun y=>B.size≤y) ((L.upd k fun _ _ h=>h).upd j fun _ _ h=>h) (e.sl (W:=No) fun _ _ _ h=>h) (fun y d=>by show B.size≤y;omega) (by simp;omega) fun J G g D=>?_
  exact N J G _ (g.more fun y d=>aX C d) (.inl ⟨rfl,rfl⟩) (((n.tr k).tr j).trans D fun y d=>.inr (aX C d))
 ·refine ax.2 (aQ fun X b3 c=>⟨s,vc (c.get0 b1) 4,?_⟩)
  have L:=uZ (b:=1) b3;have n:=k1.tr c;refine Pi (z.upd n fun _ h=>h.elim) hc P A (fun p H=>by have:=m p H;have:=IS p.1;show(ky p).length≤_;unfold ky;omega) fun S b w F R f t k=>?_
  have Q:=c.size;have Y:=k.size;obtain⟨q,Z⟩:=ud f t m;have u:Jx l (gu ([],w,F)):=⟨w,F,f,t,rfl⟩;have o:=xt u m;refine KQ (lab:= []) (by simp) Z (iH f) (Ce q) R rfl (by omega) fun O V e j=>?_
  have I:=j.size;refine ux (M:=fun y=>B.size≤y) ((L.upd k fun _ _ h=>h).upd j fun _ _ h=>h) (e.sl (W:=No) fun _ _ _ h=>h) (fun y d=>by show B.size≤y;omega) (by simp;omega) fun J G g D=>?_
  exact N J G _ (g.more fun y d=>aX C d) (.inr ⟨rfl,_,u,rfl⟩) (((n.tr k).tr j).trans D fun y d=>.inr (aX C d))
end Go.Proofs
namespace Go.Proofs
open Go Go.Lift
end Go.Proofs
namespace Go.Proofs
open Go Go.Lift
theorem ML{l:List Pr}{p:Pr}{n:Nat}(c:cB l)(b:Fit l)(d:l.length≤n)(e:p.1.size≤5030∧p.2.size≤5030):cB (o6 l p)∧Fit (o6 l p)∧(o6 l p).length≤n+1:=by
 unfold o6;split
 ·refine⟨yV p c,fun q a=>?_,aX (D6 p) (by omega)⟩
  rcases xC a with rfl|a
  ·exact⟨by omega,by omega⟩
  ·exact b q a
 ·exact⟨c,b,by omega⟩
theorem ND{l:List Pr}{k:ByteArray}{n:Nat}(b:cB l)(a:Fit l)(d:l.length≤n):cB (pa l k)∧Fit (pa l k)∧(pa l k).length≤n+1:=by
 unfold pa;split
 ·exact⟨b,a,by omega⟩
 ·exact⟨DK b,fun q c=>a q (AX.1 c).1,aX N7 (by omega)⟩
end Go.Proofs
namespace Go.Proofs
open Go Go.Lift
set_option maxHeartbeats 1000000 in
theorem L1{W S:Nat→Prop}{h:ad}{eb pb tb:Nat}{ti:Int}{g:Int}{x:Hs}{tu:Tr}{lu:List Pr}(e:EdO W S h eb pb tb ti g x tu lu)(L:lu.length≤1000000)(k:ByteArray){K:Int→ad→Prop}
  (A:∀m b s,EdO W s m eb pb tb ti g x b (pa lu k)→Upd (fun y=>S y∨y=eb) h m→(∀y,s y→(S y∨h.size≤y)∧y<m.size)→K (Fq lu k) m):HC PG kU [.pointer (some ⟨eb,0,none⟩),.string k] [.c (.int .i64)] K h:=by
 refine zH _ k ?_;unfold rZ;refine aQ fun Z b1 k1=>aQ fun h2 b2 z=>?_
 have V:=aD b1;have X:=aD b2;have s1:=k1.size;have Y:=z.size;have c1:=z.get0 b1;have d:=k1.tr z;refine⟨_,vc c1 0,uU (e.ed.upd d id) (e.tk.upd d id) (aj.2 ⟨_,vc c1 0,?_⟩)⟩;refine Ah (e.ed.upd d id) (wZ _ _ _ ?_);unfold qe xr bo af cz iB aJ fT CX yI tH;refine aQ fun h3 b3 C=>?_
 have I:=aD b3;have a:=d.tr C;have i:=e.ed.upd a id;have T:=C.get0 b2;have J:=C.get0 c1;refine⟨_,vc J 0,_,rfl,_,kJ i 2 0,_,kJ i 2 1,_,kJ i 2 2,_,kJ i 2 3,_,kJ i 2 4,_,kJ i 2 5,k,vc T 0,?_⟩;have p:∀y,S y→y<h.size:=fun y P=>e.lt y (.inr P)
 refine EM (e.iu.pro a) (e.can.pro a) e.up e.fit L k fun h4 b s o G v Q=>?_
 have s4:=o.size;refine⟨vc (o.get J fun t=>by have:=p _ t;omega) 0,?_⟩
 refine dT (c:=nW DC) (vs:=nW b) (o.get b3 fun t=>by have:=p _ t;omega) rfl fun R n j=>?_
 refine⟨_,vc n 0,_,vc n 1,_,vc n 2,_,vc n 3,_,vc n 4,_,vc n 5,?_⟩;have H:EdAt R eb pb tb tu:=(i.upd o fun t=>e.ap _ t e.we).upd j (by have:=e.lt _ (.inl e.we);omega)
 have f:Fit (pa lu k):=by
  unfold pa;split
  ·exact e.fit
  ·exact fun q N=>e.fit q (AX.1 N).1
 have u:cB (pa lu k):=by
  unfold pa;split
  ·exact e.up
  ·exact DK e.up
 refine⟨H,fun M w=>⟨fun hz m U D=>?_,fun hz=>?_⟩⟩
 ·obtain⟨B,E,F⟩:=e.fin a o G v j (by omega) I w U D u f
  have hz:Fq lu k=0:=hz;rw[hz]at A;exact A m b s B E F
 ·have hz:Fq lu k≠0:=hz
  have O:=Q hz;subst O;obtain⟨B,E,F⟩:=e.fin a o G v j (by omega) I w (H.upd w id) (Upd.refl _ _) u f;exact A M b s B E F
theorem N2{h:ad}{eb pb tb cb cap:Nat}{b:List Int}{tu:Tr}{ti:Int}{a:Bool}(e:EdAt h eb pb tb tu)(k:TokAt h tb pb ti a)(p:PoolAt h pb cb cap b):eb≠cb∧eb≠tb∧tb≠cb:=by
 obtain⟨n,c,s,r,hc⟩:=p;refine⟨fun h=>?_,fun h=>?_,fun h=>?_⟩
 ·subst h;have:=e.symm.trans hc;simp at this
 ·subst h;have:=e.symm.trans k;simp at this
 ·subst h;have:=k.symm.trans hc;simp at this
theorem Cc{h:ad}{pb cb cap:Nat}{i:Int}{b:List Int}(p:PoolAt h pb cb cap (i::b))(t:Tr){K:Option Addr×Int→ad→Prop}(g:∀h' eb tb,Upd (· =cb) h h'→PoolAt h' pb cb cap b→TokAt h' tb pb i true→EdAt h' eb pb tb t→h.size≤eb→h.size≤tb→K (some ⟨eb,0,none⟩,0) h'):HC PG mY [.pointer (some ⟨pb,0,none⟩),Mx t] [.c .ptr,.c (.int .i64)] K h:=by
 refine FV _ t ?_;unfold yC bo af aJ tH vl7;refine aQ fun e b1 k1=>?_
 have q:=aD b1;have s:cb<h.size:=by obtain⟨_,_,_,_,hc⟩:=p;exact aD hc
 have j:=k1.size;refine GH (p.upd0 k1) fun m c f o=>aj.2 ?_
 have a:=c.get b1 (show ¬h.size=cb by omega)
 have u:=c.size;refine⟨_,vc a 0,_,vc a 1,_,vc a 2,_,vc a 3,_,vc a 4,_,vc a 5,aQ fun k n d=>?_⟩
 exact g k m.size e.size ((k1.wide.tr c).tr d.wide) (f.upd0 d) (o.upd d fun h=>h) n (by omega) j
theorem Ag{h:ad}{eb pb tb cb cap:Nat}{b:List Int}{tu:Tr}{ti:Int}(e:EdAt h eb pb tb tu)(k:TokAt h tb pb ti true)(p:PoolAt h pb cb cap b)(m:b.length<cap){K:Tr×Int→ad→Prop}(n:∀h',Upd (fun y=>y=cb∨y=tb) h h'→PoolAt h' pb cb cap (b++ [ti])→TokAt h' tb pb ti false→EdAt h' eb pb tb tu→K (tu,0) h'):HC PG gV [.pointer (some ⟨eb,0,none⟩)] Qn K h:=by
 obtain⟨E,z,C⟩:=N2 e k p;refine wY _ ?_;unfold qd xr bo af cz iB aJ fT yI Dy tc;refine aQ fun u b1 k1=>?_
 have x:cb<h.size:=by obtain⟨_,_,_,_,hc⟩:=p;exact aD hc
 have v:=aD k;have B:=k1.size;have f:=e.upd k1 fun h=>h
 refine uU f (k.upd k1 fun h=>h) (aj.2 ⟨_,rfl,_,vc f 0,_,rfl,_,vc f 1,?_⟩)
 refine Iy (p.upd0 k1) (k.upd k1 fun h=>h) m fun D g o s=>?_
 have d:=f.upd g (by omega);refine⟨_,rfl,_,kJ d 2 0,_,kJ d 2 1,_,kJ d 2 2,_,kJ d 2 3,_,kJ d 2 4,_,kJ d 2 5,?_⟩;refine dT (c:=nW DC) (vs:=nW tu) (g.get b1 (by omega)) rfl fun q b3 a=>?_
 refine⟨_,vc b3 0,_,vc b3 1,_,vc b3 2,_,vc b3 3,_,vc b3 4,_,vc b3 5,?_⟩;have t:=g.size;have A:=aD e;obtain⟨_,i,_⟩:=id p;have w:=aD i;exact n q ((k1.wide.tr g).trans a fun y j=>.inr (by have j:y=h.size:=j;omega)) (o.upd a (by omega) (by omega)) (s.upd a (by omega)) (d.upd a (by omega))
theorem N3{h:ad}{eb pb tb:Nat}{tu:Tr}{ti:Int}(e:EdAt h eb pb tb tu)(k:TokAt h tb pb ti false)(p:Pr){K:Int→ad→Prop}(c:∀h',Upd No h h'→K 5 h'):HC PG gw [.pointer (some ⟨eb,0,none⟩),.agg #[.string p.1,.string p.2]] [.c (.int .i64)] K h:=by
 refine tx _ p ?_;unfold oX tG;refine aQ fun f b1 k1=>aQ fun d b2 b=>?_
 have a:=k1.tr b;exact⟨_,vc (b.get0 b1) 0,uU (e.upd a fun h=>h) (k.upd a fun h=>h) (ax.2 (c d a))⟩
end Go.Proofs
namespace Go.Proofs
open Go Go.Lift
theorem GP{x:Hs}{h:ad}{K:Int×Int×Int→ad→Prop}(e:∀h',Upd No h h'→K (x.k0,x.k1,x.mask) h'):HC PG uT [.agg #[.int .u64 x.k0,.int .u64 x.k1,.int .u64 x.mask]] [.agg [.int .u64,.int .u64,.int .u64]] K h:=by
 refine Mp (x.k0,x.k1,x.mask) ?_;unfold EC af cz fT y2 Se Sf;refine aQ fun g b1 k1=>aQ fun i b2 d=>?_
 have c1:=d.get0 b1;refine⟨_,kJ c1 0 0,_,kJ c1 0 1,_,vc c1 2,?_⟩;refine dT (c:= [.int .u64 0,.int .u64 0,.int .u64 0]) (vs:= [.int .u64 x.k0,.int .u64 x.k1,.int .u64 x.mask]) b2 rfl fun f b a=>?_
 exact⟨_,vc b 0,_,vc b 1,_,vc b 2,e f ((k1.tr d).own a k1.size)⟩
theorem LU{W W':Nat→Prop}{x:Hs}{h:ad}{a:Int}{t:Tr}{r:Rt}{l:List Pr}(tb:Tab h)(i:TreeIs W h a x t l)(j:RefIs W' h a x r l)(B:cB l)(D:Fit l)(A:l.length≤60000){K:Bool→ad→Prop}(R:∀h',Upd No h h'→K true h'):HC PG wG [Mx t,RL r] [.c .bool] K h:=by
 refine JO t r ?_;unfold CO bo af cz aJ dU CX Ri Ku tH GI Gh;have F:a=0∨a=1:=i.imp (fun h=>h.1) fun h=>h.1
 have T:t.1=a∧t.2.1=hx a x.k0∧t.2.2.1=hx a x.k1∧t.2.2.2.1=hx a x.mask:=by rcases i with⟨rfl,b,rfl,_⟩|⟨rfl,b,rfl,_⟩<;>simp[hx]
 obtain⟨s,H,P,hc⟩:=j;have j:RefIs W' h a x r l:=⟨s,H,P,hc⟩;refine aQ fun h1 b1 k1=>aQ fun h2 b2 N=>?_
 have u2:=k1.tr N;have c1:=N.get0 b1;rw[H]at b2;subst H;obtain⟨V,t2,U,Q⟩:=T;refine⟨_,vc c1 0,_,vc c1 1,_,vc c1 2,_,vc c1 3,_,vc c1 4,_,vc c1 5,_,vc b2 0,?_⟩;refine M2 (t:=t) fun S p=>⟨vc (p.get0 b2) 0,?_⟩
 have f:=p.get0 c1;have q:=p.get0 b2;rw[show(t.1==a)=true by rw[V];simp]
 refine ax.2 ⟨_,vc f 0,_,vc f 1,_,vc f 2,_,vc f 3,_,vc f 4,_,vc f 5,_,kJ q 1 0,_,kJ q 1 1,_,kJ q 1 2,?_⟩;refine H3 (t:=t) fun Y v=>?_
 have m:=v.get0 q;refine⟨⟨kJ m 1 0,kJ m 1 1,kJ m 1 2⟩,vc m 0,?_⟩;refine GP (x:=⟨t.2.1,t.2.2.1,t.2.2.2.1⟩) fun h33 y=>?_
 have d:=y.get0 m;have g:=y.get0 (v.get0 f);refine⟨⟨kJ d 1 0,kJ d 1 1,kJ d 1 2⟩,vc d 0,?_⟩;rw[t2,U,Q,show((hx a x.k0==hx a x.k0)&&((hx a x.k1==hx a x.k1)&&((hx a x.mask==hx a x.mask)&&true)))=true by simp]
 have z:=u2.tr ((p.tr v).tr y);refine ax.2 ⟨_,vc g 0,_,vc g 1,_,vc g 2,_,vc g 3,_,vc g 4,_,vc g 5,_,vc d 0,_,vc d 1,_,vc d 2,_,vc d 3,s,vc d 4,?_⟩;refine Lh (i.upd0 z) B D A fun s3 Z xs C I o=>?_
 have c:=o.get0 d;refine⟨⟨vc c 0,vc c 1,vc c 2,vc c 3,vc c 4⟩,⟨kJ c 1 0,kJ c 1 1,kJ c 1 2⟩,vc c 0,?_⟩;refine Lz F (j.upd0 (z.tr o)) B D A fun s4 O ys J G u=>?_
 have e:=u.get0 c;refine⟨⟨kJ e 1 0,kJ e 1 1,kJ e 1 2⟩,vc e 0,?_⟩;have M:xs=ys:=(MU (fun _=>rfl) C G D D A A B B).2 rfl
 subst M;have X:=Ld C D A;refine LB ((I.upd u fun _ _ h=>h).sl (W:=No) fun _ _ _ h=>h) (J.sl (W:=No) fun _ _ _ h=>h) (by omega) ?_
 have k:=(o.tr u).get0 g;refine⟨⟨kJ e 1 0,kJ e 1 1,kJ e 1 2⟩,vc e 0,ax.2 ⟨_,vc k 0,_,vc k 1,_,vc k 2,_,vc k 3,_,vc k 4,_,vc k 5,?_⟩⟩;have w:=z.tr (o.tr u);refine Li (i.upd0 w) (tb.upd w id) B A fun L E=>?_
 have n:=E.get0 e;exact⟨⟨kJ n 1 0,kJ n 1 1,kJ n 1 2⟩,vc n 0,R L (w.tr E)⟩
theorem EdO.end_{W S:Nat→Prop}{h d:ad}{eb pb tb cb:Nat}{ti:Int}{b:Int}{x:Hs}{tu:Tr}{lu:List Pr}(e:EdO W S h eb pb tb ti b x tu lu)(c:W cb)(k:Upd (fun y=>y=cb∨y=tb) h d)(t:TokAt d tb pb ti false):TreeIs No d b x tu lu:=
 (e.iu.upd k (fun y f=>e.lt y (.inr f)) fun y f=>by
  rcases f with rfl|rfl
  ·exact .inl ⟨.inl c,fun h=>e.ap _ h c⟩
  ·exact .inl ⟨.inl e.wt,fun h=>e.ap _ h e.wt⟩).freeze (W':=No) (fun _ h=>h.elim) (fun a h=>by cases h;exact⟨id,_,_,t,by simp⟩) fun _ _ h=>h
theorem EdO.upd0{W S:Nat→Prop}{h b:ad}{eb pb tb:Nat}{ti:Int}{a:Int}{x:Hs}{tu:Tr}{lu:List Pr}(e:EdO W S h eb pb tb ti a x tu lu)(k:Upd No h b):EdO W S b eb pb tb ti a x tu lu:=
 ⟨e.ed.upd k fun h=>h,e.tk.upd k fun h=>h,e.iu.upd0 k,fun y c=>Nat.lt_of_lt_of_le (e.lt y c) k.size,e.we,e.wt,e.ap,e.up,e.fit⟩
theorem L0{W:Nat→Prop}{h:ad}{eb pb tb:Nat}{ti:Int}{a:Int}{x:Hs}{t:Tr}{l:List Pr}(e:EdAt h eb pb tb t)(k:TokAt h tb pb ti true)(i:TreeIs W h a x t l)(lt:∀y,W y→y<h.size)(we:W eb)(wt:W tb)(up:cB l)(fit:Fit l):EdO W No h eb pb tb ti a x t l:=
 ⟨e,k,Bl (i.less fun y b=>.inl (b.elim id fun h=>h.elim)),fun y b=>b.elim (lt y) fun h=>h.elim,we,wt,fun _ h=>h.elim,up,fit⟩
set_option maxRecDepth 100000 in
theorem Js{h:ad}{K:Bool→ad→Prop}(hk:∀q,Upd No h q→K true q):HC PG uo [] [.c .bool] K h:=by
 refine Hx ?_;unfold Ax bo af aJ nv CX rC yI tH zg0;refine BR (n:=1) (al _) (by omega) fun E k2 H=>?_
 have H:PoolAt E (h.size+1) h.size 1 [1]:=H;have z2:=aD H.2.1;refine Ko (W:=fun y=>y<E.size) (x:=⟨0,0,0⟩) (fun _ h=>h) (.inl rfl) fun I t i4 X=>E8 (t:=t) fun h6 o F=>?_
 have z6:=aD o;have s4:=X.size;refine⟨_,vc o 0,_,vc o 1,_,vc o 2,_,vc o 3,_,vc o 4,_,vc o 5,?_⟩;refine Cc (H.upd0 (X.tr F)) t fun i eb tb m V A v he ht=>?_
 have s14:=m.size;have ze:=aD v;have zt:=aD A;let W:Nat→Prop:=fun y=>y<E.size∨h6.size≤y∧y<i.size
 have w:TreeIs W i 0 ⟨0,0,0⟩ t []:=((((i4.less (W':=fun y=>y<E.size∨I.size≤y) fun _ h=>h).upd0 F).updM m fun y a=>.inl (.inl (by have a:y=h.size:=a;omega))).less fun y a=>.inl (a.imp id fun h=>by omega))
 have i6:TreeIs (fun y=>y=h.size) h6 0 ⟨0,0,0⟩ t []:=(i4.less (W':=fun y=>y=h.size) fun y a=>.inl (by have a:y=h.size:=a;show y<E.size;omega)).upd0 F
 have e:=L0 (W:=W) v A w (fun y a=>by rcases a with h|h<;>omega) (.inr ⟨he,ze⟩) (.inr ⟨ht,zt⟩) fF (fun p G=>by cases G)
 refine Join.intro (fun b q=>b=false∧∃tu S,EdO W S q eb (h.size+1) tb 1 0 ⟨0,0,0⟩ tu [(⟨#[97]⟩,⟨#[]⟩)]∧Upd (fun y=>S y∨y=eb) i q∧∀y,S y→i.size≤y∧y<q.size) (fun R hR=>?_) ?_
 ·refine aj.2 (aj.2 ?_)
  refine G7 e (by simp) (⟨#[97]⟩,⟨#[]⟩) (fun q tu' S' e' k' u=>?_) (fun p G=>?_)
  ·have er:CU (⟨#[97]⟩,⟨#[]⟩)=0:=rfl
   rw[er];refine hR _ _ ⟨rfl,tu',S',e',k'.mono fun y a=>a.elim (fun h=>h.elim) fun h=>.inl (.inr h),fun y a=>⟨(u y a).1.elim (fun h=>h.elim) id,(u y a).2⟩⟩
  ·have:p=(⟨#[97]⟩,⟨#[]⟩):=by
    have hw:o6 [] ((⟨#[97]⟩,⟨#[]⟩):Pr)= [(⟨#[97]⟩,⟨#[]⟩)]:=rfl;rw[hw]at G;exact aq.1 G
   rw[this];exact⟨by decide,by decide⟩
 ·rintro _ h17 ⟨rfl,tu,S,s,k,Q⟩
  refine aj.2 ?_;have P:∀{z},z<i.size→¬S z:=fun hz h=>by have:=(Q _ h).1;omega
  have hne:h.size+1≠eb∧h.size≠eb:=by omega
  have p17:=V.upd k (fun h=>h.elim (P (by omega)) fun h=>by omega) (fun h=>h.elim (P (by omega)) fun h=>by omega)
  refine Ag s.ed s.tk p17 (by simp) fun U j p21 B M=>?_
  have J:=s.end_ (cb:=h.size) (.inl (by omega)) j B;have z17:=k.size;have z21:=j.size;have b14:=m.get o (show ¬I.size=h.size by omega)
  have L:=j.get (k.get b14 (fun h=>h.elim (P (by omega)) fun h=>by omega)) (show ¬(I.size=h.size∨I.size=tb) by omega)
  have D:Upd No h U:=(((k2.tr (X.tr F)).trans m fun y a=>.inr (by have a:y=h.size:=a;omega)).trans k fun y a=>.inr (a.elim (fun h=>by have:=(Q _ h).1;omega) fun h=>by omega)).trans j fun y a=>.inr (by rcases a with h|h<;>omega)
  refine E8 (t:=tu) fun h23 g C=>ax.2 ⟨_,vc g 0,_,vc g 1,_,vc g 2,_,vc g 3,_,vc g 4,_,vc g 5,?_⟩
  refine EN (J.upd0 C) (List.pairwise_singleton _ _) (by simp) fun h31 N=>ax.2 ?_
  have c:=C.tr N;refine N3 (M.upd c fun h=>h) (B.upd c fun h=>h) (⟨#[98]⟩,⟨#[]⟩) fun h33 Y=>ax.2 ?_
  have d:=c.tr Y;have f:=d.get0 L;refine⟨_,vc f 0,_,vc f 1,_,vc f 2,_,vc f 3,_,vc f 4,_,vc f 5,?_⟩;have O:TreeIs No h33 0 ⟨0,0,0⟩ t []:=((((w.updM k fun y a=>a.elim (fun h=>.inr (Q y h).1) fun h=>.inl (.inr ⟨by omega,by omega⟩)).less (W':=W) fun y a=>.inl a).updM j fun y a=>.inl (a.elim (fun h=>.inl (by omega)) fun h=>.inr ⟨by omega,by omega⟩)).less fun _ h=>h.elim).upd0 d
  refine EN O fF (by simp) fun T Z=>hk T (D.tr (d.tr Z))
end Go.Proofs
namespace Go.Proofs
open Go Go.Lift
def Mv(U:Nat→Prop)(h:ad)(a:Nat→Prop)(b:ad):Prop:=Upd U h b∧∀y,a y→U y∨h.size≤y
section
variable {U U' U1 U2 M:Nat→Prop} {h h' h1 h2:ad}
theorem Mv.refl(U:Nat→Prop)(h:ad):Mv U h U h:=⟨Upd.refl _ _,fun _ h=>.inl h⟩
theorem Mv.tr(a:Mv U h U1 h1)(b:Mv U1 h1 U2 h2):Mv U h U2 h2:=⟨a.1.trans b.1 a.2,fun y c=>(b.2 y c).elim (a.2 y) fun h=>.inr (aX a.1.size h)⟩
theorem Mv.of0(k:Upd No h h'):Mv U h U h':=⟨k.wide,fun _ h=>.inl h⟩
theorem Mv.up0(a:Mv U h U1 h1)(k:Upd No h1 h2):Mv U h U1 h2:=a.tr (.of0 k)
theorem Mv.new(a:∀y,U' y→U y∨h.size≤y):Mv U h U' h:=⟨Upd.refl _ _,a⟩
theorem Mv.upM(k:Upd M h h')(hm:∀y,M y→U y∨h.size≤y):Mv U h U h':=⟨k.mono hm,fun _ h=>.inl h⟩
theorem Mv.get(a:Mv U h U' h'){b:Nat}{o:Obj}(d:h[b]? =some o) (c:¬U b):h'[b]? =some o:=a.1.get d c
theorem Mv.not(a:Mv U h U' h'){b:Nat}{o:Obj}(e:h[b]? =some o) (c:¬U b):¬U' b:=fun d=>(a.2 b d).elim c fun h=>by have:=aD e;omega
theorem TreeIs.mv{a:Int}{x:Hs}{t:Tr}{l:List Pr}(i:TreeIs U h a x t l)(m:Mv U h U' h'):TreeIs U' h' a x t l:=
 ((i.less (W':=fun y=>U y∨h.size≤y) fun _ h=>h).updM m.1 fun _ b=>.inl (.inl b)).less fun y b=>.inl (m.2 y b)
theorem RefIs.mv{a:Int}{x:Hs}{t:Rt}{l:List Pr}(i:RefIs U h a x t l)(m:Mv U h U' h'):RefIs U' h' a x t l:=
 ((i.less (W':=fun y=>U y∨h.size≤y) fun _ h=>h).updM m.1 fun _ b=>.inl (.inl b)).less fun y b=>.inl (m.2 y b)
end
structure Ed where
 eb:Nat
 tb:Nat
 ti:Int
 lv:Bool
 tu:Tr
 lu:List Pr
 S:Nat→Prop
def Un(A:Nat→Prop)(cb:Nat)(es:List Ed)(y:Nat):Prop:=A y∨y=cb∨∃e∈es,y=e.eb∨(e.lv=true∧y=e.tb)∨e.S y
def tok(e:Ed):Option Addr:=if e.lv then some ⟨e.tb,0,none⟩else none
structure EdW(U:Nat→Prop)(h:ad)(pb:Nat)(kind:Int)(x:Hs)(n:Nat)(e:Ed):Prop where
 ed:EdAt h e.eb pb e.tb e.tu
 tk:TokAt h e.tb pb e.ti e.lv
 iu:TreeO (tok e) U h kind x e.tu e.lu e.S
 up:cB e.lu
 fit:Fit e.lu
 len:e.lu.length≤n
def qq:List Ed→Nat
 | []=>0
 |e::es=>(if e.lv then 1 else 0)+qq es
structure Wo(A:Nat→Prop)(h:ad)(pb cb cap:Nat)(ids:List Int)(kind:Int)(x:Hs)(n:Nat)(es:List Ed):Prop where
 pl:PoolAt h pb cb cap ids
 rm:ids.length+qq es=cap
 lt:∀y,A y→y<h.size
 ac:¬A cb
 pv:¬Un A cb es pb
 ew:∀e∈es,EdW (Un A cb es) h pb kind x n e
 av:∀e∈es,¬A e.eb∧¬A e.tb∧(∀y,e.S y→¬A y∧y≠cb∧(∀f∈es,y≠f.eb∧y≠f.tb)∧y<h.size)∧(e.lv=false→¬Un A cb es e.tb)
 pw:∀(i j:Nat) (a b:Ed),es[i]? =some a→es[j]? =some b→i≠j→a.eb≠b.eb∧a.tb≠b.tb∧∀y,a.S y→¬b.S y
def Me(A:Nat→Prop)(cb:Nat)(es:List Ed)(h:ad)(a:List Ed)(b:ad):Prop:=Mv (Un A cb es) h (Un A cb a) b∧Upd (fun y=>¬A y) h b
section
variable {A A' M:Nat→Prop} {h h':ad} {pb cb cap n m:Nat} {ids ids':List Int} {kind:Int} {x:Hs} {es:List Ed}
theorem Wo.ult(w:Wo A h pb cb cap ids kind x n es):∀y,Un A cb es y→y<h.size:=by
 rintro y (b|rfl|⟨e,a,rfl|⟨_,rfl⟩|b⟩)
 ·exact w.lt y b
 ·obtain⟨_,_,_,_,hc⟩:=w.pl;exact aD hc
 ·exact aD (w.ew e a).ed
 ·exact aD (w.ew e a).tk
 ·exact((w.av e a).2.2.1 y b).2.2.2
theorem EdW.mono{U:Nat→Prop}{e:Ed}(w:EdW U h pb kind x n e)(hm:n≤m):EdW U h pb kind x m e:=⟨w.ed,w.tk,w.iu,w.up,w.fit,aX w.len hm⟩
theorem Wo.mono(w:Wo A h pb cb cap ids kind x n es)(hm:n≤m):Wo A h pb cb cap ids kind x m es:=⟨w.pl,w.rm,w.lt,w.ac,w.pv,fun e a=>(w.ew e a).mono hm,w.av,w.pw⟩
theorem Wo.cb_ne(w:Wo A h pb cb cap ids kind x n es):cb<h.size∧pb<h.size∧∀e∈es,cb≠e.eb∧cb≠e.tb∧∀f∈es,e.eb≠f.tb:=by
 refine⟨w.ult _ (.inr (.inl rfl)),aD w.pl.2.1,fun e c=>?_⟩
 obtain⟨j,k,i⟩:=N2 (w.ew e c).ed (w.ew e c).tk w.pl;refine⟨Ne.symm j,Ne.symm i,fun f d g=>?_⟩
 have a:=(w.ew e c).ed;have b:=(w.ew f d).tk;rw[←g]at b;have:=a.symm.trans b;simp at this
theorem Wo.own(w:Wo A h pb cb cap ids kind x n es)(k:Upd M h h')(hm:∀y,M y→A y∨h.size≤y)(d:∀y,A' y→(A y∨h.size≤y)∧y<h'.size):Wo A' h' pb cb cap ids kind x n es∧Mv (Un A cb es) h (Un A' cb es) h':=by
 have mv:Mv (Un A cb es) h (Un A' cb es) h':=⟨k.mono fun y a=>(hm y a).imp .inl id,fun y a=>a.elim (fun h=>(d y h).1.imp .inl id) fun h=>.inl (.inr h)⟩
 have un:∀{y},y<h.size→¬A y→¬A' y:=fun j f h=>(d _ h).1.elim f fun h=>by omega
 have c:∀{y},y<h.size→¬A y→¬M y:=fun j f h=>(hm _ h).elim f fun h=>by omega
 obtain⟨hc,m,_⟩:=w.cb_ne;have p:=k.size;refine⟨⟨w.pl.upd k (c m fun h=>w.pv (.inl h)) (c hc w.ac),w.rm,fun y a=>(d y a).2,un hc w.ac,fun g=>(mv.2 _ g).elim w.pv fun h=>by omega,fun e b=>?_,fun e b=>?_,w.pw⟩,mv⟩
 ·have v:=w.av e b
  have q:=w.ew e b;exact⟨q.ed.upd k (c (aD q.ed) v.1),q.tk.upd k (c (aD q.tk) v.2.1),((q.iu.less (W':=fun y=>Un A cb es y∨h.size≤y) fun _ h=>h).upd k (fun y a=>(v.2.2.1 y a).2.2.2) fun y a=>(hm y a).imp (fun h=>⟨.inl (.inl h),fun o=>(v.2.2.1 y o).1 h⟩) id).less fun y a=>.inl (mv.2 y a),q.up,q.fit,q.len⟩
 ·have v:=w.av e b
  have q:=w.ew e b;exact⟨un (aD q.ed) v.1,un (aD q.tk) v.2.1,fun y a=>⟨un (v.2.2.1 y a).2.2.2 (v.2.2.1 y a).1,(v.2.2.1 y a).2.1,(v.2.2.1 y a).2.2.1,by have:=(v.2.2.1 y a).2.2.2;omega⟩,fun i g=>(mv.2 _ g).elim (v.2.2.2 i) fun h=>by have:=aD q.tk;omega⟩
theorem Wo.up0(w:Wo A h pb cb cap ids kind x n es)(k:Upd No h h'):Wo A h' pb cb cap ids kind x n es:=(w.own k (fun _ h=>h.elim) fun y a=>⟨.inl a,by have:=w.lt y a;have:=k.size;omega⟩).1
def Ot(A:Nat→Prop)(cb:Nat)(es:List Ed)(i:Nat)(y:Nat):Prop:=A y∨y=cb∨(∃e∈es,y=e.eb∨(e.lv=true∧y=e.tb))∨∃j b,es[j]? =some b∧j≠i∧b.S y
theorem Ot.un{i:Nat}{e:Ed}(d:es[i]? =some e) (y:Nat):(Ot A cb es i y∨e.S y)↔Un A cb es y:=by
 constructor
 ·rintro((h|h|⟨f,a,h⟩|⟨j,b,g,_,h⟩)|h)
  ·exact .inl h
  ·exact .inr (.inl h)
  ·exact .inr (.inr ⟨f,a,h.imp id .inl⟩)
  ·exact .inr (.inr ⟨b,aF g,.inr (.inr h)⟩)
  ·exact .inr (.inr ⟨e,aF d,.inr (.inr h)⟩)
 ·rintro(h|h|⟨f,a,h|h|h⟩)
  ·exact .inl (.inl h)
  ·exact .inl (.inr (.inl h))
  ·exact .inl (.inr (.inr (.inl ⟨f,a,.inl h⟩)))
  ·exact .inl (.inr (.inr (.inl ⟨f,a,.inr h⟩)))
  ·obtain⟨j,c⟩:=kE a
   by_cases e:j=i
   ·subst e;rw[d]at c;cases c;exact .inr h
   ·exact .inl (.inr (.inr (.inr ⟨j,f,c,e,h⟩)))
theorem Wo.edO(w:Wo A h pb cb cap ids kind x n es){i:Nat}{e:Ed}(c:es[i]? =some e) (d:e.lv=true):EdO (Ot A cb es i) e.S h e.eb pb e.tb e.ti kind x e.tu e.lu:=by
 have hm:=aF c;have q:=w.ew e hm;have v:=w.av e hm;have k:tok e=some ⟨e.tb,0,none⟩:=by unfold tok;rw[d];rfl
 refine⟨q.ed,d▸q.tk,(k▸q.iu).less fun y a=>.inl ((Ot.un c y).1 a),fun y a=>w.ult y ((Ot.un c y).1 a),.inr (.inr (.inl ⟨e,hm,.inl rfl⟩)),.inr (.inr (.inl ⟨e,hm,.inr ⟨d,rfl⟩⟩)),fun y a=>?_,q.up,q.fit⟩
 rintro(h|h|⟨f,g,h⟩|⟨j,b,m,o,h⟩)
 ·exact(v.2.2.1 y a).1 h
 ·exact(v.2.2.1 y a).2.1 h
 ·exact h.elim ((v.2.2.1 y a).2.2.1 f g).1 fun h=>((v.2.2.1 y a).2.2.1 f g).2 h.2
 ·exact(w.pw i j e b c m (Ne.symm o)).2.2 y a h
theorem DZ{e e':Ed}:∀{es:List Ed} {i:Nat},es[i]? =some e→qq (es.set i e')+(if e.lv then 1 else 0)=qq es+(if e'.lv then 1 else 0)
 |a::es,0,h=>by cases h;simp only[List.set_cons_zero,qq];omega
 |a::es,i+1,h=>by
  simp only[List.set_cons_succ,qq];have:=DZ (e':=e') (es:=es) (i:=i) (by simpa using h);omega
 | [],i,h=>by simp at h
theorem D1{e:Ed}:∀{es:List Ed},qq (es++ [e])=qq es+if e.lv then 1 else 0
 | []=>by simp only[List.nil_append,qq];omega
 |a::es=>by simp only[List.cons_append,qq,D1 (es:=es)];omega
theorem KC{α:Type}{l:List α}{i:Nat}{a b:α}(h:b∈l.set i a):b=a∨∃j,j≠i∧l[j]? =some b:=by
 obtain⟨j,c⟩:=kE h;rw[List.getElem?_set]at c;split at c
 ·split at c
  ·cases c;exact .inl rfl
  ·cases c
 ·exact .inr ⟨j,by omega,c⟩
theorem Wo.repl{P0:Prop}(w:Wo A h pb cb cap ids kind x n es){i:Nat}{e e':Ed}(S:es[i]? =some e) (X:e.lv=true) (u:e'.eb=e.eb) (k:Upd M h h') (hM:∀y,M y→y=cb∨y=e.tb∨y=e.eb∨e.S y) (p:PoolAt h' pb cb cap ids') (hcap:ids'.length+(if e'.lv then 1 else 0)=ids.length+1)
  (B:e'.tb=e.tb∨h.size≤e'.tb) (R:∀y,e'.S y→(e.S y∨(h.size≤y∧y≠e'.tb))∧y<h'.size) (ed:EdAt h' e'.eb pb e'.tb e'.tu) (tk:TokAt h' e'.tb pb e'.ti e'.lv) (hn:n≤m) (up:cB e'.lu) (fit:Fit e'.lu) (len:e'.lu.length≤m)
  (O:Mv (Un A cb es) h (Un A cb (es.set i e')) h'→(∀y,Un A cb (es.set i e') y↔(Ot A cb (es.set i e') i y∨e'.S y))→(∀y,e.S y→¬Ot A cb (es.set i e') i y)→((e'.lv=false∨e'.tb≠e.tb)→¬Un A cb (es.set i e') e.tb)→TreeO (tok e') (Un A cb (es.set i e')) h' kind x e'.tu e'.lu e'.S∧P0):
  Wo A h' pb cb cap ids' kind x m (es.set i e')∧Me A cb es h (es.set i e') h'∧P0:=by
 have c:=aF S;have hi:i<es.length:=(bM.1 S).1;have v:=w.av e c;have q:=w.ew e c;have hz:=k.size;obtain⟨hc,hp,F⟩:=w.cb_ne;have lb:=aD q.tk;have K:(es.set i e')[i]? =some e':=List.getElem?_set_self hi;have oth:∀{f},f∈es.set i e'→f=e'∨∃j,j≠i∧es[j]? =some f∧f∈es∧f.eb≠e.eb∧f.tb≠e.tb∧(∀y,f.S y→¬e.S y)∧f.eb<h.size∧f.tb<h.size:=fun t=>(KC t).imp id fun⟨j,D,t⟩=>by
  have pw:=w.pw j i _ e t S D;have hm:=aF t;exact⟨j,D,t,hm,pw.1,pw.2.1,pw.2.2,aD (w.ew _ hm).ed,aD (w.ew _ hm).tk⟩
 have mv:Mv (Un A cb es) h (Un A cb (es.set i e')) h':=by
  refine⟨k.mono fun y d=>.inl ?_,?_⟩
  ·rcases hM y d with rfl|rfl|rfl|d
   ·exact .inr (.inl rfl)
   ·exact .inr (.inr ⟨e,c,.inr (.inl ⟨X,rfl⟩)⟩)
   ·exact .inr (.inr ⟨e,c,.inl rfl⟩)
   ·exact .inr (.inr ⟨e,c,.inr (.inr d)⟩)
  ·rintro y (d|d|⟨f,t,d⟩)
   ·exact .inl (.inl d)
   ·exact .inl (.inr (.inl d))
   ·rcases oth t with rfl|⟨j,D,J,o,_⟩
    ·rcases d with rfl|⟨_,rfl⟩|d
     ·rw[u];exact .inl (.inr (.inr ⟨e,c,.inl rfl⟩))
     ·rcases B with h|h
      ·rw[h];exact .inl (.inr (.inr ⟨e,c,.inr (.inl ⟨X,rfl⟩)⟩))
      ·exact .inr h
     ·exact(R y d).1.imp (fun h=>.inr (.inr ⟨e,c,.inr (.inr h)⟩)) And.left
    ·exact .inl (.inr (.inr ⟨f,o,d⟩))
 have nM:∀{y},y≠cb→y≠e.tb→y≠e.eb→¬e.S y→¬M y:=fun s C h3 h4 h=>by rcases hM _ h with h|h|h|h<;>contradiction
 have L:∀{f},f∈es→∀{y},y=f.eb∨y=f.tb→¬e.S y:=fun t y d z=>by
  have:=(v.2.2.1 y z).2.2.1 _ t;exact d.elim this.1 this.2
 have sep:∀y,e.S y→¬Ot A cb (es.set i e') i y:=by
  rintro y z (h|h|⟨f,t,h⟩|⟨j,b,I,D,h⟩)
  ·exact(v.2.2.1 y z).1 h
  ·exact(v.2.2.1 y z).2.1 h
  ·have d:=(v.2.2.1 y z).2.2.2
   rcases oth t with rfl|⟨j,D,J,o,_⟩
   ·rcases h with h|⟨_,h⟩
    ·exact L c (.inl (h.trans u)) z
    ·rcases B with Q|Q
     ·exact L c (.inr (h.trans Q)) z
     ·omega
   ·exact L o (h.imp id And.right) z
  ·rw[List.getElem?_set_ne (Ne.symm D)]at I
   exact(w.pw i j e b S I (Ne.symm D)).2.2 y z h
 have V:(e'.lv=false∨e'.tb≠e.tb)→¬Un A cb (es.set i e') e.tb:=by
  rintro H (h|h|⟨f,t,h⟩)
  ·exact v.2.1 h
  ·exact(F e c).2.1 h.symm
  ·rcases oth t with rfl|⟨j,D,J,o,Q,W,e3,_⟩
   ·rcases h with h|⟨s,h⟩|h
    ·exact(F e c).2.2 e c (u.symm.trans h.symm)
    ·rcases H with H|H
     ·rw[H]at s;cases s
     ·exact H h.symm
    ·exact(R _ h).1.elim (fun h=>L c (.inr rfl) h) fun h=>by omega
   ·rcases h with h|⟨_,h⟩|h
    ·exact(F f o).2.2 e c h.symm
    ·exact W h.symm
    ·exact((w.av f o).2.2.1 _ h).2.2.1 e c|>.2 rfl
 obtain⟨O,Y⟩:=O mv (fun y=>(Ot.un K y).symm) sep V
 refine⟨⟨p,?_,fun y d=>by have:=w.lt y d;omega,w.ac,fun P=>(mv.2 _ P).elim w.pv fun h=>by omega,fun f t=>?_,fun f t=>?_,fun i' j' a b G I hij=>?_⟩,⟨mv,k.mono fun y d=>.inl ?_⟩,Y⟩
 ·have:=DZ (e':=e') S
  have:=w.rm;rw[X]at*;simp only[if_true]at*;omega
 ·rcases oth t with rfl|⟨j,D,J,o,Q,W,e3,e4,e5⟩
  ·exact⟨ed,tk,O,up,fit,len⟩
  ·have g:=w.ew f o
   have E:=w.av f o;have cf:=F f o;refine⟨g.ed.upd k (nM (Ne.symm cf.1) (cf.2.2 e c) Q (L o (.inl rfl))),g.tk.upd k (nM (Ne.symm cf.2.1) W (Ne.symm ((F e c).2.2 f o)) (L o (.inr rfl))),((g.iu.less (W':=fun y=>Un A cb es y∨h.size≤y) fun _ h=>h).upd k (fun y d=>(E.2.2.1 y d).2.2.2) fun y d=>.inl ⟨?_,fun z=>?_⟩).less fun y d=>.inl (mv.2 y d),g.up,g.fit,aX g.len hn⟩
   ·rcases hM y d with rfl|rfl|rfl|d
    ·exact .inl (.inr (.inl rfl))
    ·exact .inl (.inr (.inr ⟨e,c,.inr (.inl ⟨X,rfl⟩)⟩))
    ·exact .inl (.inr (.inr ⟨e,c,.inl rfl⟩))
    ·exact .inl (.inr (.inr ⟨e,c,.inr (.inr d)⟩))
   ·have a:=E.2.2.1 y z
    rcases hM y d with h|h|h|h
    ·exact a.2.1 h
    ·exact(a.2.2.1 e c).2 h
    ·exact(a.2.2.1 e c).1 h
    ·exact e3 y z h
 ·rcases oth t with rfl|⟨j,D,J,o,Q,W,e3,e4,e5⟩
  ·refine⟨u▸v.1,?_,fun y d=>?_,fun H P=>?_⟩
   ·rcases B with h|h
    ·rw[h];exact v.2.1
    ·exact fun G=>by have:=w.lt _ G;omega
   ·have U:=(R y d).1
    refine⟨fun G=>?_,fun hc'=>?_,fun g hg=>?_,(R y d).2⟩
    ·exact U.elim (fun h=>(v.2.2.1 y h).1 G) fun h=>by have:=w.lt y G;omega
    ·exact U.elim (fun h=>(v.2.2.1 y h).2.1 hc') fun h=>by omega
    ·rcases oth hg with rfl|⟨_,_,_,N,_,_,_,e4,e5⟩
     ·refine⟨fun h=>?_,fun h=>?_⟩
      ·exact U.elim (L c (.inl (h.trans u))) fun s=>by have:=aD q.ed;omega
      ·refine U.elim (fun z=>?_) fun s=>s.2 h
       rcases B with C|C
       ·exact L c (.inr (h.trans C)) z
       ·have:=(v.2.2.1 y z).2.2.2;omega
     ·exact U.elim (fun h=>(v.2.2.1 y h).2.2.1 g N) fun h=>⟨by omega,by omega⟩
   ·rcases B with h|h
    ·rw[h]at P;exact V (.inl H) P
    ·rcases P with s|s|⟨f,t,s⟩
     ·have:=w.lt _ s;omega
     ·omega
     ·rcases oth t with rfl|⟨_,_,_,o,_,_,_,e4,e5⟩
      ·rcases s with s|⟨s,_⟩|s
       ·rw[u]at s;have:=aD q.ed;omega
       ·rw[H]at s;cases s
       ·exact(R _ s).1.elim (fun C=>by have:=(v.2.2.1 _ C).2.2.2;omega) fun C=>C.2 rfl
      ·rcases s with s|⟨_,s⟩|s
       ·omega
       ·omega
       ·have:=((w.av f o).2.2.1 _ s).2.2.2;omega
  ·have E:=w.av f o
   refine⟨E.1,E.2.1,fun y d=>⟨(E.2.2.1 y d).1,(E.2.2.1 y d).2.1,fun g hg=>?_,by have:=(E.2.2.1 y d).2.2.2;omega⟩,fun H P=>(mv.2 _ P).elim (E.2.2.2 H) fun h=>by omega⟩
   have hy2:=(E.2.2.1 y d).2.2.2;rcases oth hg with rfl|⟨_,_,_,N,_⟩
   ·have a:=(E.2.2.1 y d).2.2.1 e c
    refine⟨fun h=>a.1 (h.trans u),fun h=>?_⟩
    rcases B with C|C
    ·exact a.2 (h.trans C)
    ·omega
   ·exact(E.2.2.1 y d).2.2.1 g N
 ·have val:∀{j a},(es.set i e')[j]? =some a→(j≠i∧es[j]? =some a)∨(j=i∧a=e'):=fun{j a} G=>by
   by_cases Z:j=i
   ·subst Z
    rw[K]at G;cases G;exact .inr ⟨rfl,rfl⟩
   ·rw[List.getElem?_set_ne (Ne.symm Z)]at G
    exact .inl ⟨Z,G⟩
  have one:∀{j b},es[j]? =some b→j≠i→e'.eb≠b.eb∧e'.tb≠b.tb∧∀y,e'.S y→¬b.S y:=fun{j b} I D=>by
   have pw:=w.pw i j e b S I (Ne.symm D);have T:=aF I;have lt:=aD (w.ew b T).tk;refine⟨u▸pw.1,?_,fun y d I=>?_⟩
   ·rcases B with h|h
    ·rw[h];exact pw.2.1
    ·omega
   ·have:=((w.av b T).2.2.1 y I).2.2.2
    exact(R y d).1.elim (fun h=>pw.2.2 y h I) fun h=>by omega
  rcases val G with⟨s,qa⟩|⟨s,rfl⟩<;>rcases val I with⟨C,qb⟩|⟨C,rfl⟩
  ·exact w.pw i' j' a b qa qb hij
  ·obtain⟨p1,p2,p3⟩:=one qa s
   exact⟨Ne.symm p1,Ne.symm p2,fun y d h=>p3 y h d⟩
  ·exact one qb C
  ·omega
 ·rcases hM y d with rfl|rfl|rfl|d
  ·exact w.ac
  ·exact v.2.1
  ·exact v.1
  ·exact(v.2.2.1 y d).1
theorem Wo.goes(w:Wo A h pb cb cap ids kind x n es){i:Nat}{e:Ed}(C:es[i]? =some e) (p:e.lv=true) {o:Nat→Prop} {d:Tr} {a:List Pr} (e':EdO (Ot A cb es i) o h' e.eb pb e.tb e.ti kind x d a) (k:Upd (fun y=>e.S y∨y=e.eb) h h') (z:∀y,o y→(e.S y∨h.size≤y)∧y<h'.size) (G:n≤m) (hm:a.length≤m):
  Wo A h' pb cb cap ids kind x m (es.set i {e with tu:=d,lu:=a,S:=o})∧Me A cb es h (es.set i {e with tu:=d,lu:=a,S:=o}) h':=by
 have c:=aF C;have v:=w.av e c;have q:=w.ew e c;obtain⟨hc,H,s⟩:=w.cb_ne;refine(fun r=>⟨r.1,r.2.1⟩) (w.repl (P0:=True) (e':={e with tu:=d,lu:=a,S:=o}) C p rfl k (fun y g=>g.elim (fun h=>.inr (.inr (.inr h))) fun h=>.inr (.inr (.inl h))) (w.pl.upd k (fun h=>w.pv ?_) (fun h=>?_)) (by simp[p]) (.inl rfl) (fun y g=>⟨(z y g).1.imp id fun h=>⟨h,by have:=aD q.tk;show y≠e.tb;omega⟩,(z y g).2⟩) e'.ed (p▸e'.tk) G e'.up e'.fit hm fun mv un E F=>⟨?_,trivial⟩)
 ·rcases h with h|h
  ·exact .inr (.inr ⟨e,c,.inr (.inr h)⟩)
  ·exact .inr (.inr ⟨e,c,.inl h⟩)
 ·rcases h with h|h
  ·exact(v.2.2.1 _ h).2.1 rfl
  ·exact(s e c).1 h
 ·have D:tok {e with tu:=d,lu:=a,S:=o}=some ⟨e.tb,0,none⟩:=by unfold tok;rw[p];rfl
  rw[D];refine e'.iu.less fun y g=>.inl (((un y).1 g).imp (fun h=>?_) id)
  rcases h with h|h|⟨f,t,h⟩|⟨j,b,B,u,h⟩
  ·exact .inl h
  ·exact .inr (.inl h)
  ·rcases KC t with rfl|⟨j,u,t⟩
   ·exact .inr (.inr (.inl ⟨e,c,h⟩))
   ·exact .inr (.inr (.inl ⟨f,aF t,h⟩))
  ·rw[List.getElem?_set_ne (Ne.symm u)]at B
   exact .inr (.inr (.inr ⟨j,b,B,u,h⟩))
theorem Wo.turn(w:Wo A h pb cb cap ids kind x n es){i:Nat}{e:Ed}(B:es[i]? =some e) (t:e.lv=true) {tb':Nat} {ti':Int} {lv' g:Bool} (k:Upd (fun y=>y=cb∨y=e.tb∨y=e.eb) h h') (p:PoolAt h' pb cb cap ids') (d:ids'.length+(if lv' then 1 else 0)=ids.length+1)
  (ed:EdAt h' e.eb pb tb' e.tu) (tk:TokAt h' tb' pb ti' lv') (o:TokAt h' e.tb pb e.ti g) (f:(tb'=e.tb∧lv'=false)∨h.size≤tb'):
  Wo A h' pb cb cap ids' kind x n (es.set i {e with tb:=tb',ti:=ti',lv:=lv',S:=No})∧Me A cb es h (es.set i {e with tb:=tb',ti:=ti',lv:=lv',S:=No}) h'∧TreeIs (Un A cb (es.set i {e with tb:=tb',ti:=ti',lv:=lv',S:=No})) h' kind x e.tu e.lu:=by
 have c:=aF B;have v:=w.av e c;have q:=w.ew e c;have F:=aD q.tk;have r:=w.repl (e':={e with tb:=tb',ti:=ti',lv:=lv',S:=No}) (m:=n) (P0:=TreeIs (Un A cb (es.set i {e with tb:=tb',ti:=ti',lv:=lv',S:=No})) h' kind x e.tu e.lu) B t rfl k (fun y b=>b.imp id fun h=>h.imp id .inl) p d (f.imp And.left id) (fun y b=>b.elim) ed tk (al _) q.up q.fit q.len fun mv un j s=>?_
 ·exact⟨r.1,r.2.1,r.2.2⟩
 ·have C:tok e=some ⟨e.tb,0,none⟩:=by unfold tok;rw[t];rfl
  have u:∀y,(y=cb∨y=e.tb∨y=e.eb)→(Un A cb es y∨h.size≤y)∧¬e.S y:=fun y b=>by
   refine⟨?_,fun E=>?_⟩
   ·rcases b with rfl|rfl|rfl
    ·exact .inl (.inr (.inl rfl))
    ·exact .inl (.inr (.inr ⟨e,c,.inr (.inl ⟨t,rfl⟩)⟩))
    ·exact .inl (.inr (.inr ⟨e,c,.inl rfl⟩))
   ·have a:=v.2.2.1 y E
    rcases b with h|h|h
    ·exact a.2.1 h
    ·exact(a.2.2.1 e c).2 h
    ·exact(a.2.2.1 e c).1 h
  have i1:=((C▸q.iu).less (W':=fun y=>Un A cb es y∨h.size≤y) fun _ h=>h).upd k (fun y b=>(v.2.2.1 y b).2.2.2) fun y b=>.inl (u y b)
  have z:TreeIs (Un A cb (es.set i {e with tb:=tb',ti:=ti',lv:=lv',S:=No})) h' kind x e.tu e.lu:=i1.freeze (fun y b=>mv.2 y b) (fun a h=>by
   cases h
   exact⟨s (f.symm.imp (fun h=>by show tb'≠e.tb;omega) And.right).symm,_,_,o,by simp⟩) fun y b D=>((un y).1 D).elim (j y b) fun h=>h
  exact⟨Bl z,z⟩
theorem Wo.begin(w:Wo A h pb cb cap ids kind x n es){i:Int}{eb tb:Nat}{tu:Tr}{lu:List Pr}(q:ids=i::ids')(k:Upd (· =cb) h h')(p:PoolAt h' pb cb cap ids')(t:TokAt h' tb pb i true)(ed:EdAt h' eb pb tb tu)(F:h.size≤eb)(L:h.size≤tb)(I:TreeIs (Un A cb es) h kind x tu lu)(up:cB lu)(fit:Fit lu)(len:lu.length≤n):
  Wo A h' pb cb cap ids' kind x n (es++ [⟨eb,tb,i,true,tu,lu,No⟩])∧Me A cb es h (es++ [⟨eb,tb,i,true,tu,lu,No⟩]) h':=by
 obtain⟨hc,N,s⟩:=w.cb_ne;have hz:=k.size;have G:eb≠tb:=(N2 ed t p).2.1;have mem:∀{f},f∈es++ [⟨eb,tb,i,true,tu,lu,No⟩]→f∈es∨f=⟨eb,tb,i,true,tu,lu,No⟩:=fun d=>(List.mem_append.1 d).imp id aq.1
 have mv:Mv (Un A cb es) h (Un A cb (es++ [⟨eb,tb,i,true,tu,lu,No⟩])) h':=by
  refine⟨k.mono fun y c=>.inl (.inr (.inl c)),?_⟩
  rintro y (c|c|⟨f,d,c⟩)
  ·exact .inl (.inl c)
  ·exact .inl (.inr (.inl c))
  ·rcases mem d with d|rfl
   ·exact .inl (.inr (.inr ⟨f,d,c⟩))
   ·rcases c with rfl|⟨_,rfl⟩|c
    ·exact .inr F
    ·exact .inr L
    ·exact c.elim
 have o:∀{f},f∈es→f.eb<h.size∧f.tb<h.size:=fun d=>⟨aD (w.ew _ d).ed,aD (w.ew _ d).tk⟩
 refine⟨⟨p,?_,fun y c=>by have:=w.lt y c;omega,w.ac,fun C=>(mv.2 _ C).elim w.pv fun h=>by omega,fun f d=>?_,fun f d=>?_,fun M J a b e v D=>?_⟩,mv,k.mono fun y c=>.inl (c▸w.ac)⟩
 ·have:=w.rm
  rw[q]at this;rw[D1];simp only[aL,if_true]at*;omega
 ·rcases mem d with d|rfl
  ·have g:=w.ew f d
   have m:=w.av f d;exact⟨g.ed.upd k (Ne.symm (s f d).1),g.tk.upd k (Ne.symm (s f d).2.1),((g.iu.less (W':=fun y=>Un A cb es y∨h.size≤y) fun _ h=>h).upd k (fun y c=>(m.2.2.1 y c).2.2.2) fun y c=>.inl ⟨.inl (.inr (.inl c)),fun H=>(m.2.2.1 y H).2.1 c⟩).less fun y c=>.inl (mv.2 y c),g.up,g.fit,g.len⟩
  ·exact⟨ed,t,Bl (I.mv mv),up,fit,len⟩
 ·rcases mem d with d|rfl
  ·have m:=w.av f d
   refine⟨m.1,m.2.1,fun y c=>⟨(m.2.2.1 y c).1,(m.2.2.1 y c).2.1,fun g B=>?_,by have:=(m.2.2.1 y c).2.2.2;omega⟩,fun u C=>(mv.2 _ C).elim (m.2.2.2 u) fun h=>by have:=(o d).2;omega⟩
   have K:=(m.2.2.1 y c).2.2.2;rcases mem B with B|rfl
   ·exact(m.2.2.1 y c).2.2.1 g B
   ·exact⟨by show y≠eb;omega,by show y≠tb;omega⟩
  ·exact⟨fun e=>by have:=w.lt _ e;simp only at this;omega,fun e=>by have:=w.lt _ e;simp only at this;omega,fun y c=>c.elim,fun u=>by cases u⟩
 ·have val:∀{j a},(es++ [⟨eb,tb,i,true,tu,lu,No⟩])[j]? =some a→es[j]? =some a∨(j=es.length∧a=⟨eb,tb,i,true,tu,lu,No⟩):=fun{j a} e=>by
   rw[List.getElem?_append]at e;split at e
   ·exact .inl e
   ·have:j-es.length=0:=by
     have:=(bM.1 e).1;simp only[aO]at this;omega
    rw[this]at e;cases e;exact .inr ⟨by omega,rfl⟩
  have one:∀{j:Nat} {b:Ed},es[j]? =some b→eb≠b.eb∧tb≠b.tb:=fun{j b} v=>by
   have:=o (aF v);exact⟨by omega,by omega⟩
  rcases val e with z|⟨P,rfl⟩<;>rcases val v with E|⟨O,rfl⟩
  ·exact w.pw M J a b z E D
  ·exact⟨Ne.symm (one z).1,Ne.symm (one z).2,fun y _ h=>h.elim⟩
  ·exact⟨(one E).1,(one E).2,fun y h=>h.elim⟩
  ·omega
end
end Go.Proofs
namespace Go.Proofs
open Go Go.Lift
end Go.Proofs
namespace Go.Proofs
open Go Go.Lift
end Go.Proofs
namespace Go.Proofs
open Go Go.Lift
end Go.Proofs
namespace Go.Proofs
open Go Go.Lift
end Go.Proofs
namespace Go.Proofs
open Go Go.Lift
end Go.Proofs
namespace Go.Proofs
open Go Go.Lift
end Go.Proofs
namespace Go.Proofs
open Go Go.Lift
end Go.Proofs
namespace Go.Proofs
open Go Go.Lift
theorem D0{e:Ed}:∀{es:List Ed} {i:Nat},es[i]? =some e→e.lv=true→1≤qq es
 |a::es,0,h,hl=>by cases h;simp only[qq];rw[if_pos hl];omega
 |a::es,i+1,h,hl=>by
  have:=D0 (es:=es) (i:=i) (by simpa using h) hl;simp only[qq];omega
 | [],i,h,hl=>by simp at h
section
variable {A:Nat→Prop} {h:ad} {pb cb cap n:Nat} {ids:List Int} {kind:Int} {x:Hs} {es:List Ed} {i:Nat} {e:Ed}
theorem Ru(w:Wo A h pb cb cap ids kind x n es)(d:es[i]? =some e) (f:e.lv=true) (o:n≤1000) (p:Pr) (m:p.1.size≤5030∧p.2.size≤5030) {K:Int→ad→Prop}
  (j:∀b a c,Wo A b pb cb cap ids kind x (n+1) (es.set i {e with tu:=a,lu:=o6 e.lu p,S:=c})→Me A cb es h (es.set i {e with tu:=a,lu:=o6 e.lu p,S:=c}) b→K (CU p) b):HC PG gw [.pointer (some ⟨e.eb,0,none⟩),.agg #[.string p.1,.string p.2]] [.c (.int .i64)] K h:=by
 have q:=w.ew e (aF d);have wl:=ML q.up q.fit q.len m;exact G7 (w.edO d f) (by have:=q.len;omega) p (fun b a c e' k g=>let r:=w.goes d f e' k g (Nat.le_succ n) wl.2.2;j b a c r.1 r.2) wl.2.1
theorem Qd(w:Wo A h pb cb cap ids kind x n es)(d:es[i]? =some e) (f:e.lv=true) (m:n≤1000) (k:ByteArray) {K:Int→ad→Prop}
  (j:∀b a c,Wo A b pb cb cap ids kind x (n+1) (es.set i {e with tu:=a,lu:=pa e.lu k,S:=c})→Me A cb es h (es.set i {e with tu:=a,lu:=pa e.lu k,S:=c}) b→K (Fq e.lu k) b):HC PG kU [.pointer (some ⟨e.eb,0,none⟩),.string k] [.c (.int .i64)] K h:=by
 have q:=w.ew e (aF d);have wl:=ND (k:=k) q.up q.fit q.len;exact L1 (w.edO d f) (by have:=q.len;omega) k (fun b a c e' k g=>let r:=w.goes d f e' k g (Nat.le_succ n) wl.2.2;j b a c r.1 r.2)
theorem MI(w:Wo A h pb cb cap ids kind x n es)(c:es[i]? =some e) (b:e.lv=true) {K:Tr×Int→ad→Prop}
  (f:∀a,Wo A a pb cb cap (ids++ [e.ti]) kind x n (es.set i {e with lv:=false,S:=No})→Me A cb es h (es.set i {e with lv:=false,S:=No}) a→TreeIs (Un A cb (es.set i {e with lv:=false,S:=No})) a kind x e.tu e.lu→K (e.tu,0) a):HC PG gV [.pointer (some ⟨e.eb,0,none⟩)] Qn K h:=by
 have q:=w.ew e (aF c);have hv:=D0 c b;refine Ag q.ed (b▸q.tk) w.pl (by have:=w.rm;omega) fun a k p t ed=>?_
 have r:=w.turn (tb':=e.tb) (ti':=e.ti) (lv':=false) c b (k.mono fun y d=>.inl (d.imp id .inl)) p (by simp) ed t t (.inl ⟨rfl,rfl⟩)
 exact f a r.1 r.2.1 r.2.2
theorem OV(w:Wo A h pb cb cap ids kind x n es){j:Int}{ids2:List Int}(hi:ids=j::ids2){t:Tr}{l:List Pr}(e:TreeIs (Un A cb es) h kind x t l)(up:cB l)(fit:Fit l)(len:l.length≤n){K:Option Addr×Int→ad→Prop}
  (c:∀a eb tb,Wo A a pb cb cap ids2 kind x n (es++ [⟨eb,tb,j,true,t,l,No⟩])→Me A cb es h (es++ [⟨eb,tb,j,true,t,l,No⟩]) a→K (some ⟨eb,0,none⟩,0) a):HC PG mY [.pointer (some ⟨pb,0,none⟩),Mx t] [.c .ptr,.c (.int .i64)] K h:=by
 subst hi;refine Cc w.pl t fun a eb tb k p tk ed b d=>?_
 have r:=w.begin rfl k p tk ed b d e up fit len;exact c a eb tb r.1 r.2
theorem Qo{U:Nat→Prop}(q:EdW U h pb kind x n e):By h (some ⟨e.tb,0,none⟩) (tok e):=q.tk.by_
theorem EdW.is{U:Nat→Prop}(q:EdW U h pb kind x n e):TreeIs No h kind x e.tu e.lu:=q.iu.read (Qo q)
end
end Go.Proofs
namespace Go.Proofs
open Go Go.Lift
def sb(s:SliceV)(y:Nat):Prop:=s.cap≠0∧∃a,s.a=some a∧y=a.block
section
variable {α:Type} {f:α→List Value} {sz:Nat} {ty:TypeId} {M:Nat→Prop} {h:ad} {s so:SliceV} {xs out:List α}
theorem _root_.Go.Lift.OwnS.sub(o:OwnS f sz ty M h s xs):∀y,sb s y→M y∧y<h.size:=fun y ⟨hc,a,i,c⟩=>by
 rcases o.blk with j|⟨b,e,d,hm,g,_⟩
 ·exact absurd j hc
 ·rw[i]at d
  cases d;exact⟨c▸hm,c▸aD g⟩
theorem _root_.Go.Lift.OwnS.its(o:OwnS f sz ty M h s xs):OwnS f sz ty (sb s) h s xs:=by
 refine⟨o.len,o.ne,o.cap,?_⟩;by_cases hc:s.cap=0
 ·exact .inl hc
 ·rcases o.blk with e|⟨b,a,c,hm,d,g⟩
  ·exact absurd e hc
  ·exact .inr ⟨b,a,c,⟨hc,_,c,rfl⟩,d,g⟩
theorem Qu{a:Option Addr}{n:Nat}:∀y,¬sb ⟨a,n,0⟩ y:=fun _ h=>h.1 rfl
theorem _root_.Go.Lift.OwnS.one{x:α}{b:Nat}(a:∀x,(f x).length=sz∧0<sz)(c:h[b]? =some (.cells (f x).toArray ty (0,0))):OwnS f sz ty (sb ⟨some ⟨b,0,none⟩,1,1⟩) h ⟨some ⟨b,0,none⟩,1,1⟩ [x]:=
 ⟨rfl,a,al _,.inr ⟨b,[],rfl,⟨by simp,_,rfl,rfl⟩,by simpa using c,by simp⟩⟩
theorem Rb{a:Nat}{z:List Value}{t:α}{b:Nat}{K:SliceV→ad→Prop}(j:OwnS f sz ty (sb so) h so out)(m:h[b]? =some (.cells (f t).toArray ty (0,0))) (e:bS (f t)=true) (hz:z.length=sz) (d:0<a∧a≤64) (n:out.length+1≤1000000)
  (k:∀s' c,OwnS f sz ty (sb s') c s' (out++ [t])→Upd (sb so) h c→(∀y,sb s' y→(sb so y∨h.size≤y)∧y<c.size)→K s' c):
  ∃xs,SRow h (some ⟨b,0,none⟩) (1*sz) xs∧AppP (some z) sz a ty so.a so.len so.cap 1 xs h K:=by
 refine⟨_,((OwnS.one j.ne m).sl (W:=No) fun _ _ _ h=>h).srow,?_⟩
 refine AppP.own (M:=fun y=>sb so y∨h.size≤y) (ys:= [t]) (j.more fun y i=>.inl i) rfl rfl (by simpa using e) hz d.1 ?_ (.inr (al _)) fun s' c g o=>k s' c g.its (o.mono fun y i=>i) g.sub
 simp only[aO];calc (out.length+1)*a≤1000000*64:=Nat.mul_le_mul n d.2
  _≤140737488355328:=by omega
end
abbrev i1(n:Int):List Value:= [.int .i64 n]
abbrev b1V(b:Bool):List Value:= [.bool b]
theorem NA(n:Int):(i1 n).length=1∧0<1:=⟨rfl,by omega⟩
theorem Qa(n:Bool):(b1V n).length=1∧0<1:=⟨rfl,by omega⟩
abbrev r4L(n:Int)(a b c:SliceV):List Value:= [.int .i64 n,.slice a.a a.len a.cap,.slice b.a b.len b.cap,.slice c.a c.len c.cap]
structure R4(h:ad)(rb:Nat)(s1 s2 s3:SliceV)(ids:List Int)(lv:List Bool)(is:List Int):Prop where
 bl:∃n,h[rb]? =some (.cells (r4L n s1 s2 s3).toArray vZ (0,0))
 o1:OwnS i1 1 oo (sb s1) h s1 ids
 o2:OwnS b1V 1 re (sb s2) h s2 lv
 o3:OwnS i1 1 oo (sb s3) h s3 is
theorem LC{n:Nat}(L:n≤1000){h:ad}{K:Option Addr→ad→Prop}(F:∀a s1,R4 a h.size s1 ⟨none,0,0⟩ ⟨none,0,0⟩ ((cC n).map fun j=>((j:Nat):Int)+1) [] []→Upd No h a→(∀y,sb s1 y→h.size<y)→K (some ⟨h.size,0,none⟩) a):HC PG zd [.int .i64 n] [.c .ptr] K h:=by
 refine Mk _ ?_;unfold Ey bG cL;refine aQ fun M b1 k1=>?_
 have J:=aD b1;refine LoopP.ghost (fun(g:Nat×SliceV) (t:Int) a=>t=(g.1:Int)+1∧g.1≤n∧a[h.size]? =some (.cells (r4L n g.2 ⟨none,0,0⟩ ⟨none,0,0⟩).toArray vZ (0,0))∧OwnS i1 1 oo (sb g.2) a g.2 ((cC g.1).map fun j=>((j:Nat):Int)+1)∧Upd No h a∧∀y,sb g.2 y→h.size<y) (fun g=>n-g.1) (0,⟨none,0,0⟩) ⟨rfl,Nat.zero_le _,b1,OwnS.nil NA,k1,fun y c=>absurd c (Qu y)⟩ ?_
 rintro I ⟨i,s⟩ t A ⟨rfl,hi,k,u,p,d⟩ D;simp only at hi k u p d⊢;refine aH (fun v=>?_) fun H=>?_
 ·have v:i<n:=by omega
  refine Join.plain ⟨_,rfl,s,vc k 1,aQ fun Q C o=>?_⟩
  have P:=p.size;have O:=aD k;refine Rb (f:=i1) (t:=(i:Int)+1) (b:=A.size) (u.upd o fun _ _ h=>h) C rfl rfl ⟨by omega,by omega⟩ (by simp;omega) fun s' a G k' q=>?_
  refine⟨_,rfl,pj (k'.get (o.get0 k) fun h=>by have:=d _ h;omega) (i:=1) (by simp) rfl fun E w m=>?_⟩
  rw[show IntKind.wrap .i64 ((i:Int)+1+1)=((i+1:Nat):Int)+1 by rw[nq (by omega)];omega]
  have N:=o.size;have z:∀y,sb s' y→h.size<y:=fun y c=>(q y c).1.elim (d y) fun h=>by omega
  refine D (i+1,s') _ _ ⟨rfl,by omega,w,?_,((p.tr o).trans k' fun y c=>.inr (by have:=d y c;omega)).own m (al _),z⟩ (by show n-(i+1)<n-i;omega)
  have e:((cC (i+1)).map fun j=>((j:Nat):Int)+1)=((cC i).map fun j=>((j:Nat):Int)+1)++ [(i:Int)+1]:=by rw[List.range_succ,List.map_append];rfl
  rw[e];exact G.upd m fun y c B=>by have:=z y c;have B:y=h.size:=B;omega
 ·have x:i=n:=by omega
  subst x;exact F A s ⟨⟨_,k⟩,u,OwnS.nil Qa,OwnS.nil NA⟩ p d
end Go.Proofs
namespace Go.Proofs
open Go Go.Lift
abbrev wdL(sl b c a:SliceV)(pb d:Option Addr):List Value:= [.slice sl.a sl.len sl.cap,.slice b.a b.len b.cap,.slice c.a c.len c.cap,.slice a.a a.len a.cap,.pointer pb,.pointer d]
abbrev s0:SliceV:=⟨none,0,0⟩
abbrev Rk(b:Nat):SliceV:=⟨some ⟨b,0,none⟩,1,1⟩
abbrev pA(b:Nat):Option Addr:=some ⟨b,0,none⟩
def Pa(c:Nat):List Int:=(cC c).map fun j=>((j:Nat):Int)+1
def OT(c b1 b2 b:Nat)(a:SliceV)(y:Nat):Prop:=y=c∨y=b1∨y=b2∨y=b∨sb a y
structure Made(h h':ad)(kk:Int)(x:Hs)(c:Nat)(t:Tr)(r:Rt)(wb b1 b2 pb cb rb:Nat)(s1:SliceV):Prop where
 cw:h'[wb]? =some (.cells (wdL (Rk b1) (Rk b2) s0 s0 (pA pb) (pA rb)).toArray tL (0,0))
 c1:h'[b1]? =some (.cells (nW t).toArray bB (0,0))
 c2:h'[b2]? =some (.cells (xd r).toArray dP (0,0))
 r4:R4 h' rb s1 s0 s0 (Pa c) [] []
 wo:Wo (OT wb b1 b2 rb s1) h' pb cb c (Pa c) kk x 0 []
 it:TreeIs (Un (OT wb b1 b2 rb s1) cb []) h' kk x t []
 ir:RefIs (Un (OT wb b1 b2 rb s1) cb []) h' kk x r []
 od:wb<b1∧wb<b2∧b1≠b2∧b1<cb∧b2<cb∧pb=cb+1∧pb<rb∧∀y,sb s1 y→rb<y
 mv:Mv No h (Un (OT wb b1 b2 rb s1) cb []) h'
set_option maxRecDepth 100000 in
set_option maxHeartbeats 1000000 in
theorem LS{h:ad}{k n kk:Int}{x:Hs}(hkk:kk=0∨kk=1)(ek:IntKind.wrap .i64 (gk k 2)=kk){c:Nat}(ec:IntKind.wrap .i64 (1+IntKind.wrap .i64 (gk n 4))=(c:Int))(h1c:1≤c)(h2c:c≤4){K:Option Addr→ad→Prop}
  (hk:∀S t r wb b1 b2 pb cb rb s1,Made h S kk x c t r wb b1 b2 pb cb rb s1→K (pA wb) S):HC PG wF [.int .u8 k,.agg #[.int .u64 x.k0,.int .u64 x.k1,.int .u64 x.mask],.int .u8 n] [.c .ptr] K h:=by
 refine JN k (x.k0,x.k1,x.mask) n ?_;unfold CN bo af aJ dU nv y2 uI Mw Kg Ku yI tH GI cL zl6 Dy;rw[ek,ec];refine aQ fun q b1 k1=>aQ fun h2 b2 k2=>?_
 have z1:=aD b1;have z2:=aD b2;have g1:=k2.get0 b1;refine⟨by decide,_,vc g1 0,_,vc g1 1,_,vc g1 2,?_⟩;refine Ko (W:=fun y=>y<h2.size) (x:=x) (fun _ h=>h) hkk fun h7 t i7 k7=>E8 (t:=t) fun h9 b9 k9=>?_
 have z9:=aD b9;have g9:=(k7.tr k9).get0 g1;refine⟨by decide,_,vc g9 0,_,vc g9 1,_,vc g9 2,GP fun Y k14=>?_⟩
 have s7:=k7.size;have s14:=k14.size;refine Pk (W:=fun y=>y<Y.size) (x:=x) hkk fun h16 r j16 k16=>P3 (r:=r) fun d u k18=>?_
 have s16:=k16.size;have z18:=aD u;have m:=k14.tr (k16.tr k18);have v:=m.get0 b9;have w18:=((k7.tr k9).tr m).get0 b2;have n1:q.size≠h7.size∧q.size≠h16.size∧h7.size≠h16.size:=by omega
 have s1:=k1.size;refine Join.intro (fun _ S=>∃b1 b2,S[q.size]? =some (.cells (wdL (Rk b1) (Rk b2) s0 s0 none none).toArray tL (0,0))∧S[b1]? =some (.cells (nW t).toArray bB (0,0))∧S[b2]? =some (.cells (xd r).toArray dP (0,0))∧d.size≤b1∧d.size≤b2∧b1≠b2∧Upd (· =q.size) d S) (fun R hR=>?_) ?_
 ·refine⟨_,vc v 0,_,vc v 1,_,vc v 2,_,vc v 3,_,vc v 4,_,vc v 5,_,vc u 0,_,vc u 1,_,vc u 2,_,vc u 3,r.2.2.2.2,vc u 4,⟨?_,?_⟩⟩
  ·refine aQ fun h31 O G=>?_
   have z31:=aD O;have B:=G.get0 u;have w31:=G.get0 w18;refine⟨⟨vc B 0,vc B 1,vc B 2,vc B 3,vc B 4⟩,_,rfl,?_,?_⟩
   ·refine aQ fun h33 b33 V=>?_
    have z33:=aD b33;refine pj (V.get0 w31) (i:=0) (by simp) rfl fun h34 L p=>⟨_,rfl,pj L (i:=1) (by simp) rfl fun h36 w36 P=>?_⟩
    exact hR _ _ ⟨d.size,h31.size,w36,P.oth (p.oth (V.get0 O) (by omega)) (by omega),P.oth (p.oth b33 (by omega)) (by omega),al _,by omega,by omega,((G.tr V).wide.tr p).tr P⟩
   ·refine pj w31 (i:=0) (by simp) rfl fun h34 L p=>?_
    have D:=p.oth B (by omega);refine⟨⟨vc D 0,vc D 1,vc D 2,vc D 3,vc D 4⟩,aQ fun h38 b38 Q=>⟨_,rfl,pj (Q.get0 L) (i:=1) (by simp) rfl fun h40 w40 U=>?_⟩⟩
    have z38:=aD b38;have s34:=p.size;exact hR _ _ ⟨d.size,h34.size,w40,U.oth (Q.get0 (p.oth O (by omega))) (by omega),U.oth b38 (by omega),al _,by omega,by omega,((G.wide.tr p).tr Q.wide).tr U⟩
  ·refine aQ fun h41 b41 M=>?_
   have z41:=aD b41;have z:=M.get0 v;refine⟨⟨vc z 0,vc z 1,vc z 2,vc z 3,vc z 4,vc z 5⟩,aQ fun h42 b42 Z=>⟨_,rfl,pj (Z.get0 (M.get0 w18)) (i:=0) (by simp) rfl fun h44 w44 T=>⟨_,rfl,pj w44 (i:=1) (by simp) rfl fun h46 w46 X=>?_⟩⟩⟩
   have z42:=aD b42;exact hR _ _ ⟨h41.size,d.size,w46,X.oth (T.oth b42 (by omega)) (by omega),X.oth (T.oth (Z.get0 b41) (by omega)) (by omega),by omega,al _,by omega,((M.tr Z).wide.tr T).tr X⟩
 rintro _ A ⟨N,J,w48,c1,c2,hb1,hb2,hne,I⟩;have zb1:=aD c1;have zb2:=aD c2;have s48:=I.size;refine⟨by decide,BR h1c (by omega) fun h50 C p50=>?_⟩
 have zp:=aD p50.2.1;have w50:=C.get0 w48;refine⟨_,rfl,pj w50 (i:=4) (by simp) rfl fun h52 w52 s=>⟨by decide,LC (by omega) fun h54 E r4 o F=>?_⟩⟩
 have s52:=s.size;have zr:=aD r4.bl.choose_spec;refine⟨_,rfl,pj (o.get0 w52) (i:=5) (by simp) rfl fun w w56 g=>?_⟩
 have s54:=o.size;have s56:=g.size;have kw:Upd (· =q.size) h2 w:=((((((k7.tr k9).tr m).wide.tr I).tr C.wide).tr s).tr o.wide).tr g
 have ns:∀{y},sb E y→y≠q.size:=fun f=>by have:=F _ f;omega
 have lts:∀{y},sb E y→y<w.size:=fun f=>by have:=(r4.o1.sub _ f).2;omega
 have un:∀y,Un (OT q.size N J h52.size E) A.size [] y→y=q.size∨d.size≤y:=by
  rintro y ((h|h|h|h|h)|h|⟨e,H,_⟩)
  ·exact .inl h
  ·exact .inr (by omega)
  ·exact .inr (by omega)
  ·exact .inr (by omega)
  ·exact .inr (by have:=F y h;omega)
  ·exact .inr (by omega)
  ·cases H
 have unl:∀y,Un (OT q.size N J h52.size E) A.size [] y→y<w.size:=by
  rintro y ((h|h|h|h|h)|h|⟨e,H,_⟩)
  ·omega
  ·omega
  ·omega
  ·omega
  ·exact lts h
  ·omega
  ·cases H
 have pl:PoolAt w (A.size+1) A.size c (Pa c):=((p50.upd s (by omega) (by omega)).upd0 o).upd g (by omega) (by omega);refine hk w t r q.size N J (A.size+1) A.size h52.size E ⟨w56,?_,?_,⟨⟨_,g.oth r4.bl.choose_spec (by omega)⟩,r4.o1.upd g fun y f h=>ns f h,OwnS.nil Qa,OwnS.nil NA⟩,⟨pl,by simp[Pa,qq],fun y f=>unl y (.inl f),?_,?_,fun e H=>by(cases H),fun e H=>by(cases H),fun i j a b ha=>by(simp at ha)⟩,?_,?_,⟨by omega,by omega,hne,by omega,by omega,rfl,by omega,F⟩,⟨(k1.tr k2).trans kw fun y f=>.inr (by have f:y=q.size:=f;omega),fun y f=>.inr (by rcases un y f with h|h<;>omega)⟩⟩
 ·exact g.oth (o.get0 (s.oth (C.get0 c1) (by omega))) (by omega)
 ·exact g.oth (o.get0 (s.oth (C.get0 c2) (by omega))) (by omega)
 ·rintro(h|h|h|h|h)
  ·omega
  ·omega
  ·omega
  ·omega
  ·have:=F _ h;omega
 ·rintro((h|h|h|h|h)|h|⟨e,H,_⟩)
  ·omega
  ·omega
  ·omega
  ·omega
  ·have:=F _ h;omega
  ·omega
  ·cases H
 ·have i9:TreeIs (fun y=>y<h2.size∨d.size≤y) d kk x t []:=((i7.upd0 k9).upd0 m).less fun y f=>f
  have kr:Upd (· =q.size) d w:=(((I.tr C.wide).tr s).tr o.wide).tr g
  exact(i9.updM kr fun y f=>.inl (.inl (by have f:y=q.size:=f;omega))).less fun y f=>.inl ((un y f).imp (fun h=>by show y<h2.size;omega) id)
 ·have i9:RefIs (fun y=>y<Y.size∨d.size≤y) d kk x r []:=(j16.upd0 k18).less fun y f=>f
  have kr:Upd (· =q.size) d w:=(((I.tr C.wide).tr s).tr o.wide).tr g
  exact(i9.updM kr fun y f=>.inl (.inl (by have f:y=q.size:=f;omega))).less fun y f=>.inl ((un y f).imp (fun h=>by show y<Y.size;omega) id)
end Go.Proofs
