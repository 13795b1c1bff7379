/- A part of the proof that the named laws of this program answer true, whatever the input. -/
import Derived.Test.YtajpljopgikpgaaGreatDoorPart9
import Derived.Test.YtajpljopgikpgaaGreatDoorPart7
import Derived.Test.YtajpljopgikpgaaGreatDoorPart8
import Derived.Test.YtajpljopgikpgaaGreatDoorPart6
open ByteArray renaming size_extract→dV
open Int renaming toNat_natCast→aH,tmod→ju
open List renaming length_singleton→aK,length_append→ae,flatMap_append→bA,length_cons→aN,mem_singleton→aq,mem_of_getElem?→ay,getElem?_of_mem→fL,getElem?_eq_some_iff→aW,getElem?_set_ne→ll,range→cK
open List.Pairwise renaming nil→fX
open Nat renaming le_refl→ao,zero_add→aE,le_trans→ba,mul_le_mul_right→bZ
open Option renaming isSome_some→jU
namespace Go.Proofs
open Go Go.Lift
theorem OK{c:Nat}:IntKind.wrap .u32 (((2^c%4294967296:Nat):Int)*2)=((2^(c+1)%4294967296:Nat):Int):=by
 rw[IntKind.wrap_u32,Nat.pow_succ];omega
theorem Q0{q:List Pr}:(Kk q==(1:Int))=(gk q).isSome:=by
 match q with
 | []=>rfl
 | [a]=>rfl
 |a::b::q=>rw[show Kk (a::b::q)=2 by unfold Kk;rw[if_neg (by simp),if_pos (by simp)]];rfl
theorem QZ{q:List Pr}:(Kk q==(2:Int))=(dZ q).isSome:=by
 match q with
 | []=>rfl
 | [a]=>rfl
 |a::b::q=>rw[show Kk (a::b::q)=2 by unfold Kk;rw[if_neg (by simp),if_pos (by simp)]];rw[show dZ (a::b::q)=some (a::b::q) by unfold dZ;rw[if_pos (by simp)]];rfl
def TwoB(c a:Nat)(h:ad)(d e:SliceV)(L:List Pr)(B:List UInt8):Prop:=
 ∃M N:Nat→Prop,OwnS fP 2 bO M h d L∧OwnS nq 1 cp N h e B∧(∀b,M b→c≤b∧b<a∧¬N b)∧∀b,N b→c≤b∧b<a
theorem TwoB.upd0{c e:Nat}{h b:ad}{a d:SliceV}{L:List Pr}{B:List UInt8}(t:TwoB c e h a d L B)(k:Upd No h b):TwoB c e b a d L B:=by
 obtain⟨M,N,i,j,g,f⟩:=t;exact⟨M,N,i.upd k fun _ _ h=>h,j.upd k fun _ _ h=>h,g,f⟩
theorem TwoB.up{f j g:Nat}{h:ad}{d i:SliceV}{L:List Pr}{B:List UInt8}(t:TwoB f j h d i L B)(n:j≤g):TwoB f g h d i L B:=by
 obtain⟨M,N,k,m,c,e⟩:=t;exact⟨M,N,k,m,fun b a=>⟨(c b a).1,by have:=(c b a).2.1;omega,(c b a).2.2⟩,fun b a=>⟨(e b a).1,by have:=(e b a).2;omega⟩⟩
theorem TwoB.appP{f j:Nat}{h:ad}{d m:SliceV}{L:List Pr}{B:List UInt8}{p:Pr}(t:TwoB f j h d m L B)(w:f≤j)(n:j≤h.size)(x:L.length≤1000000){xs:List Value}(hx:xs=fP p){K:SliceV→ad→Prop}
  (q:∀s' c,TwoB f c.size c s' m (L++ [p]) B→Upd (fun b=>f≤b) h c→K s' c):AppP (some [.string (⟨#[]⟩:ByteArray),.string (⟨#[]⟩:ByteArray)]) 2 32 bO d.a d.len d.cap 1 xs h K:=by
 subst hx;obtain⟨M,N,o,v,g,e⟩:=t;refine AppP.own (ys:= [p]) (o.more (M':=fun b=>M b∨h.size≤b) fun _ h=>.inl h) rfl rfl rfl rfl (by omega) (by simp only[aK];omega) (.inr (ao _)) fun s' c u i=>?_
 have s:=i.size;refine q s' c ⟨_,N,u.within,v.upd i fun b a hm=>hm.elim (fun hm=>(g b hm).2.2 a) fun hm=>by have:=(e b a).2;omega,fun b a=>⟨?_,a.2,fun k=>?_⟩,fun b a=>⟨(e b a).1,by have:=(e b a).2;omega⟩⟩ (i.mono fun b a=>a.elim (fun a=>.inl (g b a).1) .inr)
 ·rcases a.1 with a|a
  ·exact(g b a).1
  ·omega
 ·rcases a.1 with a|a
  ·exact(g b a).2.2 k
  ·have:=(e b k).2;omega
theorem TwoB.appB{W:Nat→Prop}{g k:Nat}{h:ad}{m i e:SliceV}{L:List Pr}{B ys:List UInt8}(t:TwoB g k h m i L B)(y:g≤k)(o:k≤h.size)(w:Sl nq 1 W h e ys)(v:B.length+ys.length≤140737488355328){K:SliceV→ad→Prop}
  (q:∀s' c,TwoB g c.size c m s' L (B++ys)→Upd (fun b=>g≤b) h c→K s' c):∃xs,SRow h e.a (e.len*1) xs∧AppP (some [.int .u8 0]) 1 1 cp i.a i.len i.cap e.len xs h K:=by
 obtain⟨M,N,p,x,d,n⟩:=t;refine vB (M:=fun b=>N b∨h.size≤b) (x.more fun _ h=>.inl h) w (fun _ h=>.inr h) v fun s' c u j=>?_
 have s:=j.size;refine q s' c ⟨M,_,p.upd j fun b a hm=>hm.elim (fun hm=>(d b a).2.2 hm) fun hm=>by have:=(d b a).2.1;omega,u.within,fun b a=>⟨(d b a).1,by have:=(d b a).2.1;omega,fun f=>?_⟩,fun b a=>⟨?_,a.2⟩⟩ (j.mono fun b a=>a.elim (fun a=>.inl (n b a).1) .inr)
 ·rcases f.1 with f|f
  ·exact(d b a).2.2 f
  ·have:=(d b a).2.1;omega
 ·rcases a.1 with a|a
  ·exact(n b a).1
  ·omega
theorem Ak{β:Type}(g:Nat→Option β):∀n,(fm g n).length≤n
 |0=>by simp[fm]
 |n+1=>by
  rw[fS,ae];have:=Ak g n;cases g n<;>simp<;>omega
theorem SB{β:Type}(g:Nat→Option β){n m:Nat}(h:n≤m):∃r,fm g m=fm g n++r:=by
 obtain⟨j,rfl⟩:∃j,m=n+j:=⟨m-n,by omega⟩
 clear h;induction j with
 |zero=>exact⟨[],by simp⟩
 |succ j ih=>obtain⟨r,a⟩:=ih;exact⟨r++(g (n+j)).toList,by rw[←Nat.add_assoc,fS,a,List.append_assoc]⟩
set_option maxRecDepth 4000 in
theorem QM{x:Hs}:∀(m:Nat),m≤13→∀{h:ad} {b:Nat} {l:List Pr},DTrie No x h m b l→Fit l→l.length≤60000→∀{K:SliceV→ad→Prop},(∀s' e,OwnS nq 1 cp (fun y=>h.size≤y) e s' (eP x m l)→Upd No h e→K s' e)→
  HC PG yL [.pointer (some ⟨b,0,none⟩),.int .i64 ((13-m:Nat):Int)] [.c .slice] K h:=by
 intro m;induction m with
 |zero=>
  intro _ h b l t X hn K hk;refine IL (some ⟨b,0,none⟩) ((13-0:Nat):Int) ?_;unfold DK bQ dK bM bD mo jw kC ie;obtain⟨_,⟨sa,sn,sc⟩,hb,hs⟩:=t;obtain rfl:sn=l.length:=hs.len;have g:∀{e:ad} {i:Nat},Upd No h e→i<130→aM e (adr ⟨b,0,none⟩ i)=some (dF true ⟨sa,l.length,sc⟩ (fun _=> []) (fun _=>none) i):=fun k hi=>by rw[bL,bj (k.get0 hb),aE,Dk hi]
  have r0:=Upd.refl No h;have e1:eP x 0 l= [1]++kW l.length 2++jg l:=by unfold eP;simp
  have hpl:=kU X;rw[e1]at hk;refine⟨_,rfl,true,g (i:=0) r0 (by omega),aA.2 ⟨_,rfl,⟨sa,l.length,sc⟩,g (i:=1) r0 (by omega),_,rfl,⟨sa,l.length,sc⟩,g (i:=1) r0 (by omega),?_,?_⟩⟩
  ·refine aO fun h1 b1 k1=>⟨g (i:=1) k1 (by omega),g (i:=1) k1 (by omega),?_⟩
   have o1:=wd (b:=1) b1;refine BZ (n:=l.length) (by omega) fun s2 s z f=>⟨g (i:=1) (k1.tr f) (by omega),g (i:=1) (k1.tr f) (by omega),?_⟩
   have s1:=k1.size;have s2':=f.size;refine vB (o1.upd f fun _ _ h=>h) (z.sl (W:=No) fun _ _ _ h=>h) (fun y d=>by show h.size≤y;omega) (by rw[c7];simp) fun s3 w C V=>?_
   have v:Upd No h w:=(k1.tr f).trans V fun y d=>.inr d
   refine⟨g (i:=1) v (by omega),g (i:=1) v (by omega),?_⟩;refine Aa (hs.upd v fun _ h=>h.elim) X hn fun s4 h4 u o=>⟨g (i:=1) (v.tr o) (by omega),?_⟩
   have s3':=v.size;have F:=o.size;refine vB (C.upd o fun _ _ h=>h) (u.sl (W:=No) fun _ _ _ h=>h) (fun y d=>by show h.size≤y;omega) (by rw[ae,c7];simp;omega) fun s5 J E T=>?_
   have P:Upd No h J:=(v.tr o).trans T fun y d=>.inr d
   exact⟨g (i:=1) P (by omega),hk s5 J E P⟩
  ·refine BZ (n:=l.length) (by omega) fun s2 s z f=>⟨g (i:=1) f (by omega),g (i:=1) f (by omega),?_⟩
   refine aO fun h1 b1 k1=>⟨g (i:=1) (f.tr k1) (by omega),g (i:=1) (f.tr k1) (by omega),?_⟩
   have o1:=wd (b:=1) b1;have s1:=k1.size;have s2':=f.size;refine vB (M:=fun y=>h.size≤y) (o1.more fun y d=>by show h.size≤y;omega) ((z.upd k1 fun _ _ h=>h).sl (W:=No) fun _ _ _ h=>h) (fun y d=>by show h.size≤y;omega) (by rw[c7];simp) fun s3 w C V=>?_
   have v:Upd No h w:=(f.tr k1).trans V fun y d=>.inr d
   refine⟨g (i:=1) v (by omega),g (i:=1) v (by omega),?_⟩;refine Aa (hs.upd v fun _ h=>h.elim) X hn fun s4 h4 u o=>⟨g (i:=1) (v.tr o) (by omega),?_⟩
   have s3':=v.size;have F:=o.size;refine vB (C.upd o fun _ _ h=>h) (u.sl (W:=No) fun _ _ _ h=>h) (fun y d=>by show h.size≤y;omega) (by rw[ae,c7];simp;omega) fun s5 J E T=>?_
   have P:Upd No h J:=(v.tr o).trans T fun y d=>.inr d
   exact⟨g (i:=1) P (by omega),hk s5 J E P⟩
 |succ m ih=>
  intro hm h b l t X hn K hk;refine IL (some ⟨b,0,none⟩) ((13-(m+1):Nat):Int) ?_;unfold DK bQ dK bM bD mo jw kC ie;obtain⟨_,kk,hb,hkid⟩:=t;have elev:(13-(m+1):Nat)=12-m:=by omega
  rw[elev];obtain⟨q,hq⟩:∃q:Nat→List Pr,q=fun c=>part x (12-m) c l:=⟨_,rfl⟩
  have G:∀c,part x (12-m) c l=q c:=fun c=>by rw[hq]
  rw[←hq]at hb;have g:∀{e:ad} {i j:Nat},Upd No h e→i+j<130→aM e (adr (adr ⟨b,0,none⟩ i) j)=some (dF false ⟨none,0,0⟩ q kk (i+j)):=fun k hi=>by rw[bL,bL,bj (k.get0 hb),aE,Dk hi]
  have g0:aM h (adr ⟨b,0,none⟩ 0)=some (dF false ⟨none,0,0⟩ q kk 0):=by rw[bL,bj hb,Dk (by omega)]
  refine⟨_,rfl,false,g0,aj.2 ?_⟩;have hML:∀L∈iV x (12-m) l,2≤L.length∧(eP x m L).length≤9+L.length*(20004+9*(m+1)):=fun L hL=>by
   obtain⟨w,c,rfl⟩:=oF hL;exact⟨w,mS m X.part⟩
  have htot:((iV x (12-m) l).flatMap (eP x m)).length≤60000*(20004+9*(m+1)+9):=by
   have h1:=BW hML;have s:=zT x (12-m) l;exact ba h1 (bZ _ (by omega))
  have hm20:20004+9*(m+1)+9≤20200:=by omega
  have htot2:((iV x (12-m) l).flatMap (eP x m)).length≤60000*20200:=ba htot (Nat.mul_le_mul_left _ hm20);have Q:∀c,c≤32→((fm (fun j=>dZ (q j)) c).flatMap (eP x m)).length≤60000*20200:=fun c hc=>by
   obtain⟨r,hr⟩:=SB (fun j=>dZ (q j)) hc
   have:((fm (fun j=>dZ (q j)) 32).flatMap (eP x m)).length≤60000*20200:=by rw[hq];exact htot2
   rw[hr,bA,ae]at this;omega
  refine LoopP.ghost (fun(c:Nat) (t:Int×Int×SliceV×SliceV×Int×Int) e=>t.1=((ij (fun j=>(gk (q j)).isSome) c:Nat):Int)∧t.2.1=((ij (fun j=>(dZ (q j)).isSome) c:Nat):Int)∧t.2.2.2.2.1=((2^c%4294967296:Nat):Int)∧t.2.2.2.2.2=(c:Int)∧c≤32∧
   TwoB h.size e.size e t.2.2.1 t.2.2.2.1 (fm (fun j=>gk (q j)) c) ((fm (fun j=>dZ (q j)) c).flatMap (eP x m))∧Upd No h e) (fun c=>32-c) 0 ⟨rfl,rfl,rfl,rfl,by omega,⟨No,No,OwnS.nil gX,OwnS.nil pF,fun _ h=>h.elim,fun _ h=>h.elim⟩,Upd.refl _ _⟩ ?_
  rintro I c ⟨dt,nt,sl,sk,bt,ct⟩ e ⟨e1,e2,e3,e4,hc32,hT,Z⟩ hI;simp only at e1 e2 e3 e4 hT;subst e1 e2 e3 e4;have s0:=Z.size;have wide:∀{h1 s:ad},Upd No h h1→Upd (fun b=>h.size≤b) h1 s→Upd No h s:=fun a k=>a.trans k fun y d=>.inr d
  refine aG (fun A=>?_) fun hge=>?_
  ·have A:c<32:=by have:(c:Int)<32:=A;omega
   have ec:(c:Int).toNat*1=c:=by omega
   have ec2:(c:Int).toNat*2=c*2:=by omega
   have hbd:=li (fun j=>(gk (q j)).isSome) c
   have hbn:=li (fun j=>(dZ (q j)).isSome) c
   have hpw:2^c≤2^31:=Nat.pow_le_pow_right (by omega) (by omega);have O:2^c%4294967296=2^c:=Nat.mod_eq_of_lt (by omega);have vis:dF false ⟨none,0,0⟩ q kk (2+c)=.int .i64 (Kk (q c)):=by rw[Mi (by omega) (by omega),show 2+c-2=c by omega]
   refine Join.intro (fun(t:Int×SliceV) s=>t.1=((ij (fun j=>(gk (q j)).isSome) (c+1):Nat):Int)∧TwoB h.size s.size s t.2 sk (fm (fun j=>gk (q j)) (c+1)) ((fm (fun j=>dZ (q j)) c).flatMap (eP x m))∧Upd No h s) (fun R hR=>?_) ?_
   ·refine⟨_,rfl,⟨by simp only;omega,by simp only;omega⟩,Kk (q c),?_,?_⟩
    ·simp only[ec];rw[g Z (by omega),vis]
    rw[Q0];have eb:ij (fun j=>(gk (q j)).isSome) (c+1)=ij (fun j=>(gk (q j)).isSome) c+(if(gk (q c)).isSome then 2^c else 0):=rfl
    cases hso:gk (q c)with
    |none=>
     rw[hso]at eb;refine aj.2 (hR _ _ ⟨by rw[eb];rfl,?_,Z⟩);rw[fS,hso];simpa using hT
    |some p=>
     rw[hso]at eb;have ep:Aj (gk (q c))=p:=by rw[hso];rfl
     refine aA.2 ⟨_,rfl,⟨by simp only;omega,by simp only;omega⟩,p.1,?_,p.2,?_,aO fun s b2 f=>⟨_,jN b2,?_⟩⟩
     ·simp only[ec2];rw[bL,bL,bL,bj (Z.get0 hb),aE,Dk (by omega),Iv (by omega) (by omega) (by omega),show(34+c*2+0-34)/2=c by omega,ep]
     ·simp only[ec2];rw[bL,bL,bL,bj (Z.get0 hb),aE,Dk (by omega),It (by omega) (by omega) (by omega),show(34+c*2+1-34)/2=c by omega,ep]
     ·have s2:=f.size
      have hl:=Ak (fun j=>gk (q j)) c
      refine(hT.upd0 f).appP (p:=p) s0 s2 (by omega) rfl fun s3 w H V=>hR _ _ ⟨?_,?_,wide (Z.tr f) V⟩
      ·rw[eb,O]
       simp only[jU,if_true];rw[IntKind.wrap_u32];omega
      ·rw[fS,hso];exact H
   rintro⟨dt,sl2⟩ s ⟨rfl,Y,u2⟩;simp only at Y⊢;have s2:=u2.size;refine Join.intro (fun(t:Int×SliceV) w=>t.1=((ij (fun j=>(dZ (q j)).isSome) (c+1):Nat):Int)∧TwoB h.size w.size w sl2 t.2 (fm (fun j=>gk (q j)) (c+1)) ((fm (fun j=>dZ (q j)) (c+1)).flatMap (eP x m))∧Upd No h w) (fun R hR=>?_) ?_
   ·refine⟨_,rfl,⟨by omega,by omega⟩,Kk (q c),?_,?_⟩
    ·rw[ec,g u2 (by omega),vis]
    rw[QZ];have eb:ij (fun j=>(dZ (q j)).isSome) (c+1)=ij (fun j=>(dZ (q j)).isSome) c+(if(dZ (q c)).isSome then 2^c else 0):=rfl
    cases hma:dZ (q c)with
    |none=>
     rw[hma]at eb;refine aj.2 (hR _ _ ⟨by rw[eb];rfl,?_,u2⟩);rw[fS (fun j=>dZ (q j)),hma];simpa using Y
    |some L=>
     rw[hma]at eb;have hL2:2≤(q c).length∧L=q c:=by
      unfold dZ at hma;by_cases s:2≤(q c).length
      ·rw[if_pos s]at hma;exact⟨s,(Option.some.inj hma).symm⟩
      ·rw[if_neg s]at hma;cases hma
     obtain⟨h2l,rfl⟩:=hL2;refine aA.2 (aG (fun _=>?_) fun hx=>absurd (show((12-m:Nat):Int)<13 by omega) hx)
     obtain⟨kb,hkb,td⟩:=hkid c A (by rw[G];exact h2l);rw[G]at td;have hpt:(q c).length≤l.length:=by rw[←G];exact j3
     have hpf:Fit (q c):=by rw[←G];exact X.part
     have e14:IntKind.wrap .i64 (((12-m:Nat):Int)+1)=((13-m:Nat):Int):=by rw[oq (by omega)];omega
     refine⟨_,rfl,⟨by omega,by omega⟩,some ⟨kb,0,none⟩,?_,?_⟩
     ·rw[ec,g u2 (by omega),Iu (by omega),show 98+c-98=c by omega,hkb]
     rw[e14];refine ih (by omega) (DTrie.upd u2 (fun _ h=>h.elim) td) hpf (by omega) fun s4 h4 u o=>?_
     have F:=o.size;have hpr:=Q (c+1) (by omega);rw[fS,hma,bA,ae]at hpr;simp only[Option.toList_some,List.flatMap_cons,List.flatMap_nil,List.append_nil]at hpr;refine(Y.upd0 o).appB s2 F (u.sl (W:=No) fun _ _ _ h=>h) (by omega) fun s5 J hT5 T=>hR _ _ ⟨?_,?_,wide (u2.tr o) T⟩
     ·rw[eb,O]
      simp only[jU,if_true];rw[IntKind.wrap_u32];omega
     ·rw[fS (fun j=>dZ (q j)),hma,bA]
      simpa using hT5
   rintro⟨nt,sk2⟩ w ⟨rfl,H,v⟩;simp only at H⊢;rw[cz A (by omega),OK];exact hI (c+1) _ _ ⟨rfl,rfl,rfl,rfl,A,H,v⟩ (by omega)
  ·obtain rfl:c=32:=by have:¬(c:Int)<32:=hge;omega
   have e1:eP x (m+1) l= [0]++kW (ij (fun j=>(gk (q j)).isSome) 32) 4++kW (ij (fun j=>(dZ (q j)).isSome) 32) 4++jg (fm (fun j=>gk (q j)) 32)++(fm (fun j=>dZ (q j)) 32).flatMap (eP x m):=by
    rw[hq];unfold eP;simp[fC,iV]
   rw[e1]at hk;have hD:=li (fun j=>(gk (q j)).isSome) 32
   have hN:=li (fun j=>(dZ (q j)).isSome) 32
   have hsf:Fit (fm (fun j=>gk (q j)) 32):=fun p hp=>X p (qj (x:=x) (lev:=12-m) (by unfold fC;rw[hq]at hp;exact hp))
   have hsl:=Ak (fun j=>gk (q j)) 32
   have hps:=kU hsf;have hpr:=Q 32 (ao _);obtain⟨M,N,o1,o2,hMb,hNb⟩:=hT;generalize ij (fun j=>(gk (q j)).isSome) 32=D at*
   generalize ij (fun j=>(dZ (q j)).isSome) 32=N' at*
   generalize fm (fun j=>gk (q j)) 32=S at*
   generalize (fm (fun j=>dZ (q j)) 32).flatMap (eP x m)=B at*
   have hsS:Sl fP 2 No e sl S:=o1.sl fun _ _ _ h=>h
   have hsB:Sl nq 1 No e sk B:=o2.sl fun _ _ _ h=>h
   refine Join.plain (aO fun h1 b1 k1=>?_)
   simp only;have ob:=wd (b:=0) b1;refine HJ (by omega) fun s2 s z f=>?_
   have s1:=k1.size;have s2':=f.size;refine vB (M:=fun y=>e.size≤y) (ob.upd f fun _ _ h=>h) (z.sl (W:=No) fun _ _ _ h=>h) (fun y d=>by show e.size≤y;omega) (by rw[c7];simp) fun s3 w C V=>?_
   have s3':=V.size;refine Join.plain (HJ (by omega) fun s4 h4 u o=>?_)
   have F:=o.size;refine vB (M:=fun y=>e.size≤y) (C.upd o fun _ _ h=>h) (u.sl (W:=No) fun _ _ _ h=>h) (fun y d=>by show e.size≤y;omega) (by rw[ae,c7,c7];simp) fun s5 J E T=>?_
   have s5':=T.size;have P:Upd No e J:=(((k1.tr f).trans V fun y d=>.inr d).tr o).trans T fun y d=>.inr d
   refine Join.plain (Aa (hsS.upd P fun _ h=>h.elim) hsf (by omega) fun s6 h6 ho6 k6=>?_)
   have s6':=k6.size;refine vB (M:=fun y=>e.size≤y) (E.upd k6 fun _ _ h=>h) (ho6.sl (W:=No) fun _ _ _ h=>h) (fun y d=>by show e.size≤y;omega) (by rw[ae,ae,c7,c7];simp;omega) fun s7 h7 ho7 k7=>?_
   have u7:Upd No e h7:=(P.tr k6).trans k7 fun y d=>.inr d
   refine vB (M:=fun y=>e.size≤y) ho7 (hsB.upd u7 fun _ h=>h.elim) (fun y d=>by have:=u7.size;show e.size≤y;omega) (by rw[ae,ae,ae,c7,c7];simp;omega) fun s8 h8 ho8 k8=>?_
   refine hk s8 h8 (ho8.more fun y d=>by show h.size≤y;omega) ((Z.tr u7).trans k8 fun y d=>.inr (by omega))
end Go.Proofs
namespace Go.Proofs
open Go Go.Lift
theorem MG{a:Int}{x:Hs}{l:List Pr}{xs:List UInt8}(hv:FH a x l xs)(b:Fit l)(c:l.length≤60000):xs.length≤100000000000:=by
 rcases hv with⟨_,rfl⟩|⟨_,ys,d,rfl⟩
 ·have e:=mS (x:=x) 13 b
  have f:l.length*(20004+9*(13+1))≤60000*(20004+9*(13+1)):=bZ _ c;rw[aN];omega
 ·have e:=yv d b
  rw[aN];omega
theorem M1{W:Nat→Prop}{x:Hs}{h:ad}{a:Int}{r:Rt}{l:List Pr}(E:a=0∨a=1)(i:RefIs W h a x r l)(T:cu l)(m:Fit l)(z:l.length≤60000){K:SliceV→ad→Prop}
  (L:∀s' h' xs,OwnS nq 1 cp (fun y=>h.size≤y) h' s' xs→FH a x l xs→Upd No h h'→K s' h'):HC PG vr [TE r] [.c .slice] K h:=by
 refine II r ?_;unfold Bt bo bN eD vM JV kC;obtain⟨s,rfl,B,hc⟩:=i;have B:=B.less (W':=No) fun _ h=>h.elim
 refine aO fun A b1 k1=>⟨_,vc b1 0,?_⟩
 have s1:=k1.size;rcases E with rfl|rfl
 ·refine aj.2 (aO fun R b3 c=>⟨_,fu (c.get0 b1) 1 0,_,fu (c.get0 b1) 1 1,_,fu (c.get0 b1) 1 2,s,vc (c.get0 b1) 4,?_⟩)
  have J:=wd (b:=0) b3;have t:=k1.tr c;have N:∀v,hx 0 v=v:=fun v=>if_pos rfl
  simp only[N];refine OF (x:=x) (B.upd t fun _ h=>h.elim) z (fun p G=>by have:=m p G;omega) fun X b Y e=>?_
  have s3:=c.size;have V:=e.size;refine QM 13 (ao _) Y m z fun S O k f=>?_
  have C:=f.size;have u:=mS (x:=x) 13 m;have Z:l.length*(20004+9*(13+1))≤60000*(20004+9*(13+1)):=bZ _ z;refine vB (M:=fun y=>A.size≤y) ((J.upd e fun _ _ h=>h).upd f fun _ _ h=>h) (k.sl (W:=No) fun _ _ _ h=>h) (fun y d=>by show A.size≤y;omega) (by simp;omega) fun H D g I=>?_
  exact L H D _ (g.more fun y d=>ba s1 d) (.inl ⟨rfl,rfl⟩) (((t.tr e).tr f).trans I fun y d=>.inr (ba s1 d))
 ·refine aA.2 (aO fun R b3 c=>⟨s,vc (c.get0 b1) 4,?_⟩)
  have J:=wd (b:=1) b3;have t:=k1.tr c;refine QI (B.upd t fun _ h=>h.elim) hc T z (fun p G=>by have:=m p G;have:=Ki p.1;show(ky p).length≤_;unfold ky;omega) fun X b w F P j n e=>?_
  have s3:=c.size;have V:=e.size;obtain⟨q,Q⟩:=vl j n m;have o:KY l (gL ([],w,F)):=⟨w,F,j,n,rfl⟩;have u:=yv o m;refine Mg (lab:= []) (by simp) Q (iY j) (Di q) P rfl (by omega) fun S O k f=>?_
  have C:=f.size;refine vB (M:=fun y=>A.size≤y) ((J.upd e fun _ _ h=>h).upd f fun _ _ h=>h) (k.sl (W:=No) fun _ _ _ h=>h) (fun y d=>by show A.size≤y;omega) (by simp;omega) fun H D g I=>?_
  exact L H D _ (g.more fun y d=>ba s1 d) (.inr ⟨rfl,_,o,rfl⟩) (((t.tr e).tr f).trans I fun y d=>.inr (ba s1 d))
end Go.Proofs
namespace Go.Proofs
open Go Go.Lift
end Go.Proofs
namespace Go.Proofs
open Go Go.Lift
theorem Cg{l:List Pr}{p:Pr}{n:Nat}(c:cu l)(b:Fit l)(d:l.length≤n)(e:p.1.size≤5030∧p.2.size≤5030):cu (l6 l p)∧Fit (l6 l p)∧(l6 l p).length≤n+1:=by
 unfold l6;split
 ·refine⟨zZ p c,fun q a=>?_,ba (Ff p) (by omega)⟩
  rcases yD a with rfl|a
  ·exact⟨by omega,by omega⟩
  ·exact b q a
 ·exact⟨c,b,by omega⟩
theorem Ib{l:List Pr}{k:ByteArray}{n:Nat}(b:cu l)(a:Fit l)(d:l.length≤n):cu (jH l k)∧Fit (jH l k)∧(jH l k).length≤n+1:=by
 unfold jH;split
 ·exact⟨b,a,by omega⟩
 ·exact⟨ET b,fun q c=>a q (B5.1 c).1,ba Pz (by omega)⟩
end Go.Proofs
namespace Go.Proofs
open Go Go.Lift
set_option maxHeartbeats 1000000 in
theorem Nt{W S:Nat→Prop}{h:ad}{eb pb tb:Nat}{ti:Int}{f:Int}{x:Hs}{tu:Tr}{lu:List Pr}(e:EdO W S h eb pb tb ti f x tu lu)(N:lu.length≤1000000)(k:ByteArray){K:Int→ad→Prop}
  (C:∀m a p,EdO W p m eb pb tb ti f x a (jH lu k)→Upd (fun y=>S y∨y=eb) h m→(∀y,p y→(S y∨h.size≤y)∧y<m.size)→K (BK lu k) m):HC PG lM [.pointer (some ⟨eb,0,none⟩),.string k] [.c (.int .i64)] K h:=by
 refine AO _ k ?_;unfold tB;refine aO fun h1 b1 k1=>aO fun X b2 B=>?_
 have z1:=aD b1;have z2:=aD b2;have s1:=k1.size;have s2:=B.size;have c1:=B.get0 b1;have d:=k1.tr B;refine⟨_,vc c1 0,vY (e.ed.upd d id) (e.tk.upd d id) (aj.2 ⟨_,vc c1 0,?_⟩)⟩;refine Bi (e.ed.upd d id) (xZ _ _ _ ?_);unfold qP bo mu ag bN fE eO BE sK uO aJ;refine aO fun Y b3 F=>?_
 have H:=aD b3;have b:=d.tr F;have j:=e.ed.upd b id;have T:=F.get0 b2;have J:=F.get0 c1;refine⟨_,vc J 0,_,rfl,_,fu j 2 0,_,fu j 2 1,_,fu j 2 2,_,fu j 2 3,_,fu j 2 4,_,fu j 2 5,k,vc T 0,?_⟩;have u:∀y,S y→y<h.size:=fun y V=>e.lt y (.inr V)
 refine F4 (e.iu.pro b) (e.can.pro b) e.up e.fit N k fun h4 a p n G v O=>?_
 have Z:=n.size;refine⟨vc (n.get J fun s=>by have:=u _ s;omega) 0,?_⟩
 refine dd (c:=je wM) (vs:=je a) (n.get b3 fun s=>by have:=u _ s;omega) rfl fun M o i=>?_
 refine⟨_,vc o 0,_,vc o 1,_,vc o 2,_,vc o 3,_,vc o 4,_,vc o 5,?_⟩;have I:EdAt M eb pb tb tu:=(j.upd n fun s=>e.ap _ s e.we).upd i (by have:=e.lt _ (.inl e.we);omega)
 have g:Fit (jH lu k):=by
  unfold jH;split
  ·exact e.fit
  ·exact fun q P=>e.fit q (B5.1 P).1
 have t:cu (jH lu k):=by
  unfold jH;split
  ·exact e.up
  ·exact ET e.up
 refine⟨I,fun L D=>⟨fun hz m Q E=>?_,fun hz=>?_⟩⟩
 ·obtain⟨A,z,w⟩:=e.fin b n G v i (by omega) H D Q E t g
  have hz:BK lu k=0:=hz;rw[hz]at C;exact C m a p A z w
 ·have hz:BK lu k≠0:=hz
  have R:=O hz;subst R;obtain⟨A,z,w⟩:=e.fin b n G v i (by omega) H D (I.upd D id) (Upd.refl _ _) t g;exact C L a p A z w
theorem Pu{h:ad}{eb pb tb cb cap:Nat}{ids:List Int}{tu:Tr}{ti:Int}{a:Bool}(e:EdAt h eb pb tb tu)(k:TokAt h tb pb ti a)(p:PoolAt h pb cb cap ids):eb≠cb∧eb≠tb∧tb≠cb:=by
 obtain⟨n,b,s,r,hc⟩:=p;refine⟨fun h=>?_,fun h=>?_,fun h=>?_⟩
 ·subst h;have:=e.symm.trans hc;simp at this
 ·subst h;have:=e.symm.trans k;simp at this
 ·subst h;have:=k.symm.trans hc;simp at this
theorem De{h:ad}{pb cb cap:Nat}{i:Int}{ids:List Int}(p:PoolAt h pb cb cap (i::ids))(t:Tr){K:Option Addr×Int→ad→Prop}(f:∀h' eb tb,Upd (· =cb) h h'→PoolAt h' pb cb cap ids→TokAt h' tb pb i true→EdAt h' eb pb tb t→h.size≤eb→h.size≤tb→K (some ⟨eb,0,none⟩,0) h'):HC PG nR [.pointer (some ⟨pb,0,none⟩),LK t] [.c .ptr,.c (.int .i64)] K h:=by
 refine G3 _ t ?_;unfold zG bo ag sK aJ vl6;refine aO fun m b1 k1=>?_
 have n:=aD b1;have o:cb<h.size:=by obtain⟨_,_,_,_,hc⟩:=p;exact aD hc
 have s1:=k1.size;refine HQ (p.upd0 k1) fun k c j g=>aj.2 ?_
 have a:=c.get b1 (show ¬h.size=cb by omega)
 have s3:=c.size;refine⟨_,vc a 0,_,vc a 1,_,vc a 2,_,vc a 3,_,vc a 4,_,vc a 5,aO fun e d b=>?_⟩
 exact f e k.size m.size ((k1.wide.tr c).tr b.wide) (j.upd0 b) (g.upd b fun h=>h) d (by omega) s1
theorem Dd{h:ad}{eb pb tb cb cap:Nat}{ids:List Int}{tu:Tr}{ti:Int}(e:EdAt h eb pb tb tu)(k:TokAt h tb pb ti true)(p:PoolAt h pb cb cap ids)(j:ids.length<cap){K:Tr×Int→ad→Prop}(m:∀h',Upd (fun y=>y=cb∨y=tb) h h'→PoolAt h' pb cb cap (ids++ [ti])→TokAt h' tb pb ti false→EdAt h' eb pb tb tu→K (tu,0) h'):il (some ⟨eb,0,none⟩) K h:=by
 obtain⟨A,t,v⟩:=Pu e k p;unfold il bo mu ag bN fE eO uO BC aJ uw;refine aO fun B b1 k1=>?_
 have z:cb<h.size:=by obtain⟨_,_,_,_,hc⟩:=p;exact aD hc
 have x:=aD k;have s1:=k1.size;have f:=e.upd k1 fun h=>h
 refine vY f (k.upd k1 fun h=>h) (aj.2 ⟨_,rfl,_,vc f 0,_,rfl,_,vc f 1,?_⟩)
 refine JS (p.upd0 k1) (k.upd k1 fun h=>h) j fun u d q o=>?_
 have b:=f.upd d (by omega);refine⟨_,rfl,_,fu b 2 0,_,fu b 2 1,_,fu b 2 2,_,fu b 2 3,_,fu b 2 4,_,fu b 2 5,?_⟩;refine dd (c:=je wM) (vs:=je tu) (d.get b1 (by omega)) rfl fun n b3 a=>?_
 refine⟨_,vc b3 0,_,vc b3 1,_,vc b3 2,_,vc b3 3,_,vc b3 4,_,vc b3 5,?_⟩;have s2:=d.size;have s:=aD e;obtain⟨_,g,_⟩:=id p;have w:=aD g;exact m n ((k1.wide.tr d).trans a fun y i=>.inr (by have i:y=h.size:=i;omega)) (q.upd a (by omega) (by omega)) (o.upd a (by omega)) (b.upd a (by omega))
theorem Iq{h:ad}{eb pb tb cb cap:Nat}{ids:List Int}{tu:Tr}{ti:Int}(e:EdAt h eb pb tb tu)(k:TokAt h tb pb ti true)(p:PoolAt h pb cb cap ids)(a:ids.length<cap){K:Tr×Int→ad→Prop}(b:∀h',Upd (fun y=>y=cb∨y=tb) h h'→PoolAt h' pb cb cap (ids++ [ti])→TokAt h' tb pb ti false→EdAt h' eb pb tb tu→K (tu,0) h'):HC PG eH [.pointer (some ⟨eb,0,none⟩)] RW K h:=
 xY _ (Dd e k p a b)
theorem Pv{h:ad}{eb pb tb:Nat}{tu:Tr}{ti:Int}(e:EdAt h eb pb tb tu)(k:TokAt h tb pb ti false)(p:Pr){K:Int→ad→Prop}(c:∀h',Upd No h h'→K 5 h'):HC PG gN [.pointer (some ⟨eb,0,none⟩),.agg #[.string p.1,.string p.2]] [.c (.int .i64)] K h:=by
 refine uE _ p ?_;unfold pK uL;refine aO fun f b1 k1=>aO fun d b2 b=>?_
 have a:=k1.tr b;exact⟨_,vc (b.get0 b1) 0,vY (e.upd a fun h=>h) (k.upd a fun h=>h) (aA.2 (c d a))⟩
end Go.Proofs
namespace Go.Proofs
open Go Go.Lift
theorem H0{x:Hs}{h:ad}{K:Int×Int×Int→ad→Prop}(f:∀h',Upd No h h'→K (x.k0,x.k1,x.mask) h'):HC PG vX [.agg #[.int .u64 x.k0,.int .u64 x.k1,.int .u64 x.mask]] [.agg [.int .u64,.int .u64,.int .u64]] K h:=by
 refine NQ (x.k0,x.k1,x.mask) ?_;unfold FQ ag bN eO Ae T1 T3;refine aO fun g b1 k1=>aO fun i b2 d=>?_
 have c1:=d.get0 b1;refine⟨_,fu c1 0 0,_,fu c1 0 1,_,vc c1 2,?_⟩;refine dd (c:= [.int .u64 0,.int .u64 0,.int .u64 0]) (vs:= [.int .u64 x.k0,.int .u64 x.k1,.int .u64 x.mask]) b2 rfl fun e b a=>?_
 exact⟨_,vc b 0,_,vc b 1,_,vc b 2,f e ((k1.tr d).own a k1.size)⟩
theorem E9{W W':Nat→Prop}{x:Hs}{h:ad}{a:Int}{t:Tr}{r:Rt}{l:List Pr}(tb:Tab h)(i:TreeIs W h a x t l)(j:RefIs W' h a x r l)(D:cu l)(B:Fit l)(A:l.length≤60000){K:Bool→ad→Prop}(R:∀h',Upd No h h'→K true h'):HC PG ud [LK t,TE r] [.c .bool] K h:=by
 refine Li t r ?_;unfold DX bo ag bN eD BE sK Ro JV HR aJ Hn;have H:a=0∨a=1:=i.imp (fun h=>h.1) fun h=>h.1
 have ht:t.1=a∧t.2.1=hx a x.k0∧t.2.2.1=hx a x.k1∧t.2.2.2.1=hx a x.mask:=by rcases i with⟨rfl,b,rfl,_⟩|⟨rfl,b,rfl,_⟩<;>simp[hx]
 obtain⟨s,M,hs,hc⟩:=j;have j:RefIs W' h a x r l:=⟨s,M,hs,hc⟩;refine aO fun h1 b1 k1=>aO fun h2 b2 N=>?_
 have Z:=k1.tr N;have c1:=N.get0 b1;rw[M]at b2;subst M;obtain⟨t1,V,t3,O⟩:=ht;refine⟨_,vc c1 0,_,vc c1 1,_,vc c1 2,_,vc c1 3,_,vc c1 4,_,vc c1 5,_,vc b2 0,?_⟩;refine Oq (t:=t) fun X n=>⟨vc (n.get0 b2) 0,?_⟩
 have g:=n.get0 c1;have p:=n.get0 b2;rw[show(t.1==a)=true by rw[t1];simp]
 refine aA.2 ⟨_,vc g 0,_,vc g 1,_,vc g 2,_,vc g 3,_,vc g 4,_,vc g 5,_,fu p 1 0,_,fu p 1 1,_,fu p 1 2,?_⟩;refine Jq (t:=t) fun P z=>?_
 have m:=z.get0 p;refine⟨⟨fu m 1 0,fu m 1 1,fu m 1 2⟩,vc m 0,?_⟩;refine H0 (x:=⟨t.2.1,t.2.2.1,t.2.2.2.1⟩) fun T w=>?_
 have c:=w.get0 m;have f:=w.get0 (z.get0 g);refine⟨⟨fu c 1 0,fu c 1 1,fu c 1 2⟩,vc c 0,?_⟩;rw[V,t3,O,show((hx a x.k0==hx a x.k0)&&((hx a x.k1==hx a x.k1)&&((hx a x.mask==hx a x.mask)&&true)))=true by simp]
 have y:=Z.tr ((n.tr z).tr w);refine aA.2 ⟨_,vc f 0,_,vc f 1,_,vc f 2,_,vc f 3,_,vc f 4,_,vc f 5,_,vc c 0,_,vc c 1,_,vc c 2,_,vc c 3,s,vc c 4,?_⟩;refine MJ (i.upd0 y) D B A fun s3 S xs E J q=>?_
 have d:=q.get0 c;refine⟨⟨vc d 0,vc d 1,vc d 2,vc d 3,vc d 4⟩,⟨fu d 1 0,fu d 1 1,fu d 1 2⟩,vc d 0,?_⟩;refine M1 H (j.upd0 (y.tr q)) D B A fun s4 Y ys F L o=>?_
 have e:=o.get0 d;refine⟨⟨fu e 1 0,fu e 1 1,fu e 1 2⟩,vc e 0,?_⟩;have I:xs=ys:=(Oh (fun _=>rfl) E L B B A A D D).2 rfl
 subst I;have Q:=MG E B A;refine M3 ((J.upd o fun _ _ h=>h).sl (W:=No) fun _ _ _ h=>h) (F.sl (W:=No) fun _ _ _ h=>h) (by omega) ?_
 have k:=(q.tr o).get0 f;refine⟨⟨fu e 1 0,fu e 1 1,fu e 1 2⟩,vc e 0,aA.2 ⟨_,vc k 0,_,vc k 1,_,vc k 2,_,vc k 3,_,vc k 4,_,vc k 5,?_⟩⟩;have v:=y.tr (q.tr o);refine MK (i.upd0 v) (tb.upd v id) D A fun G C=>?_
 have u:=C.get0 e;exact⟨⟨fu u 1 0,fu u 1 1,fu u 1 2⟩,vc u 0,R G (v.tr C)⟩
theorem EdO.end_{W S:Nat→Prop}{h f:ad}{eb pb tb cb:Nat}{ti:Int}{b:Int}{x:Hs}{tu:Tr}{lu:List Pr}(e:EdO W S h eb pb tb ti b x tu lu)(c:W cb)(k:Upd (fun y=>y=cb∨y=tb) h f)(t:TokAt f tb pb ti false):TreeIs No f b x tu lu:=
 (e.iu.upd k (fun y d=>e.lt y (.inr d)) fun y d=>by
  rcases d with rfl|rfl
  ·exact .inl ⟨.inl c,fun h=>e.ap _ h c⟩
  ·exact .inl ⟨.inl e.wt,fun h=>e.ap _ h e.wt⟩).freeze (W':=No) (fun _ h=>h.elim) (fun a h=>by cases h;exact⟨id,_,_,t,by simp⟩) fun _ _ h=>h
theorem EdO.upd0{W S:Nat→Prop}{h b:ad}{eb pb tb:Nat}{ti:Int}{a:Int}{x:Hs}{tu:Tr}{lu:List Pr}(e:EdO W S h eb pb tb ti a x tu lu)(k:Upd No h b):EdO W S b eb pb tb ti a x tu lu:=
 ⟨e.ed.upd k fun h=>h,e.tk.upd k fun h=>h,e.iu.upd0 k,fun y c=>Nat.lt_of_lt_of_le (e.lt y c) k.size,e.we,e.wt,e.ap,e.up,e.fit⟩
theorem Ns{W:Nat→Prop}{h:ad}{eb pb tb:Nat}{ti:Int}{a:Int}{x:Hs}{t:Tr}{l:List Pr}(e:EdAt h eb pb tb t)(k:TokAt h tb pb ti true)(i:TreeIs W h a x t l)(lt:∀y,W y→y<h.size)(we:W eb)(wt:W tb)(up:cu l)(fit:Fit l):EdO W No h eb pb tb ti a x t l:=
 ⟨e,k,yl (i.less fun y b=>.inl (b.elim id fun h=>h.elim)),fun y b=>b.elim (lt y) fun h=>h.elim,we,wt,fun _ h=>h.elim,up,fit⟩
set_option maxRecDepth 100000 in
theorem KQ{h:ad}{K:Bool→ad→Prop}(hk:∀q,Upd No h q→K true q):HC PG vu [] [.c .bool] K h:=by
 refine IS ?_;unfold BA bo ag nv BE qX sK uO aJ zg0;refine CS (n:=1) (ao _) (by omega) fun A k2 H=>?_
 have H:PoolAt A (h.size+1) h.size 1 [1]:=H;have z2:=aD H.2.1;refine LP (W:=fun y=>y<A.size) (x:=⟨0,0,0⟩) (fun _ h=>h) (.inl rfl) fun I t i4 N=>Gp (t:=t) fun h6 o G=>?_
 have z6:=aD o;have s4:=N.size;refine⟨_,vc o 0,_,vc o 1,_,vc o 2,_,vc o 3,_,vc o 4,_,vc o 5,?_⟩;refine De (H.upd0 (N.tr G)) t fun j eb tb m Q D C he ht=>?_
 have s14:=m.size;have ze:=aD C;have zt:=aD D;let W:Nat→Prop:=fun y=>y<A.size∨h6.size≤y∧y<j.size
 have B:TreeIs W j 0 ⟨0,0,0⟩ t []:=((((i4.less (W':=fun y=>y<A.size∨I.size≤y) fun _ h=>h).upd0 G).updM m fun y a=>.inl (.inl (by have a:y=h.size:=a;omega))).less fun y a=>.inl (a.imp id fun h=>by omega))
 have i6:TreeIs (fun y=>y=h.size) h6 0 ⟨0,0,0⟩ t []:=(i4.less (W':=fun y=>y=h.size) fun y a=>.inl (by have a:y=h.size:=a;show y<A.size;omega)).upd0 G
 have e:=Ns (W:=W) C D B (fun y a=>by rcases a with h|h<;>omega) (.inr ⟨he,ze⟩) (.inr ⟨ht,zt⟩) fX (fun p F=>by cases F)
 refine Join.intro (fun b q=>b=false∧∃tu S,EdO W S q eb (h.size+1) tb 1 0 ⟨0,0,0⟩ tu [(⟨#[97]⟩,⟨#[]⟩)]∧Upd (fun y=>S y∨y=eb) j q∧∀y,S y→j.size≤y∧y<q.size) (fun R hR=>?_) ?_
 ·refine aj.2 (aj.2 ?_)
  refine Im e (by simp) (⟨#[97]⟩,⟨#[]⟩) (fun q L S' e' k' w=>?_) (fun p F=>?_)
  ·have er:yf (⟨#[97]⟩,⟨#[]⟩)=0:=rfl
   rw[er];refine hR _ _ ⟨rfl,L,S',e',k'.mono fun y a=>a.elim (fun h=>h.elim) fun h=>.inl (.inr h),fun y a=>⟨(w y a).1.elim (fun h=>h.elim) id,(w y a).2⟩⟩
  ·have:p=(⟨#[97]⟩,⟨#[]⟩):=by
    have hw:l6 [] ((⟨#[97]⟩,⟨#[]⟩):Pr)= [(⟨#[97]⟩,⟨#[]⟩)]:=rfl;rw[hw]at F;exact aq.1 F
   rw[this];exact⟨by decide,by decide⟩
 ·rintro _ h17 ⟨rfl,tu,S,s,k,Y⟩
  refine aj.2 ?_;have n1:∀{z},z<j.size→¬S z:=fun hz h=>by have:=(Y _ h).1;omega
  have hne:h.size+1≠eb∧h.size≠eb:=by omega
  have M:=Q.upd k (fun h=>h.elim (n1 (by omega)) fun h=>by omega) (fun h=>h.elim (n1 (by omega)) fun h=>by omega)
  refine Iq s.ed s.tk M (by simp) fun T i p21 E e21=>?_
  have O:=s.end_ (cb:=h.size) (.inl (by omega)) i E;have z17:=k.size;have z21:=i.size;have J:=m.get o (show ¬I.size=h.size by omega)
  have X:=i.get (k.get J (fun h=>h.elim (n1 (by omega)) fun h=>by omega)) (show ¬(I.size=h.size∨I.size=tb) by omega)
  have v:Upd No h T:=(((k2.tr (N.tr G)).trans m fun y a=>.inr (by have a:y=h.size:=a;omega)).trans k fun y a=>.inr (a.elim (fun h=>by have:=(Y _ h).1;omega) fun h=>by omega)).trans i fun y a=>.inr (by rcases a with h|h<;>omega)
  refine Gp (t:=tu) fun h23 f u=>aA.2 ⟨_,vc f 0,_,vc f 1,_,vc f 2,_,vc f 3,_,vc f 4,_,vc f 5,?_⟩
  refine LQ (O.upd0 u) (List.pairwise_singleton _ _) (by simp) fun h31 Z=>aA.2 ?_
  have c:=u.tr Z;refine Pv (e21.upd c fun h=>h) (E.upd c fun h=>h) (⟨#[98]⟩,⟨#[]⟩) fun V P=>aA.2 ?_
  have d:=c.tr P;have g:=d.get0 X;refine⟨_,vc g 0,_,vc g 1,_,vc g 2,_,vc g 3,_,vc g 4,_,vc g 5,?_⟩;have i33:TreeIs No V 0 ⟨0,0,0⟩ t []:=((((B.updM k fun y a=>a.elim (fun h=>.inr (Y y h).1) fun h=>.inl (.inr ⟨by omega,by omega⟩)).less (W':=W) fun y a=>.inl a).updM i fun y a=>.inl (a.elim (fun h=>.inl (by omega)) fun h=>.inr ⟨by omega,by omega⟩)).less fun _ h=>h.elim).upd0 d
  refine LQ i33 fX (by simp) fun h41 k41=>hk h41 (v.tr (d.tr k41))
end Go.Proofs
namespace Go.Proofs
open Go Go.Lift
def Mv(U:Nat→Prop)(h:ad)(b:Nat→Prop)(a:ad):Prop:=Upd U h a∧∀y,b y→U y∨h.size≤y
section
variable {U U' U1 U2 M:Nat→Prop} {h h' h1 h2:ad}
theorem Mv.refl(U:Nat→Prop)(h:ad):Mv U h U h:=⟨Upd.refl _ _,fun _ h=>.inl h⟩
theorem Mv.tr(a:Mv U h U1 h1)(b:Mv U1 h1 U2 h2):Mv U h U2 h2:=⟨a.1.trans b.1 a.2,fun y c=>(b.2 y c).elim (a.2 y) fun h=>.inr (ba a.1.size h)⟩
theorem Mv.of0(k:Upd No h h'):Mv U h U h':=⟨k.wide,fun _ h=>.inl h⟩
theorem Mv.up0(a:Mv U h U1 h1)(k:Upd No h1 h2):Mv U h U1 h2:=a.tr (.of0 k)
theorem Mv.new(a:∀y,U' y→U y∨h.size≤y):Mv U h U' h:=⟨Upd.refl _ _,a⟩
theorem Mv.upM(k:Upd M h h')(hm:∀y,M y→U y∨h.size≤y):Mv U h U h':=⟨k.mono hm,fun _ h=>.inl h⟩
theorem Mv.get(a:Mv U h U' h'){b:Nat}{o:Obj}(d:h[b]? =some o) (c:¬U b):h'[b]? =some o:=a.1.get d c
theorem Mv.not(a:Mv U h U' h'){b:Nat}{o:Obj}(d:h[b]? =some o) (c:¬U b):¬U' b:=fun e=>(a.2 b e).elim c fun h=>by have:=aD d;omega
theorem TreeIs.mv{a:Int}{x:Hs}{t:Tr}{l:List Pr}(i:TreeIs U h a x t l)(m:Mv U h U' h'):TreeIs U' h' a x t l:=
 ((i.less (W':=fun y=>U y∨h.size≤y) fun _ h=>h).updM m.1 fun _ b=>.inl (.inl b)).less fun y b=>.inl (m.2 y b)
theorem RefIs.mv{a:Int}{x:Hs}{t:Rt}{l:List Pr}(i:RefIs U h a x t l)(m:Mv U h U' h'):RefIs U' h' a x t l:=
 ((i.less (W':=fun y=>U y∨h.size≤y) fun _ h=>h).updM m.1 fun _ b=>.inl (.inl b)).less fun y b=>.inl (m.2 y b)
end
structure Ed where
 eb:Nat
 tb:Nat
 ti:Int
 lv:Bool
 tu:Tr
 lu:List Pr
 S:Nat→Prop
def Un(A:Nat→Prop)(cb:Nat)(es:List Ed)(y:Nat):Prop:=A y∨y=cb∨∃e∈es,y=e.eb∨(e.lv=true∧y=e.tb)∨e.S y
def tok(e:Ed):Option Addr:=if e.lv then some ⟨e.tb,0,none⟩else none
structure EdW(U:Nat→Prop)(h:ad)(pb:Nat)(kind:Int)(x:Hs)(n:Nat)(e:Ed):Prop where
 ed:EdAt h e.eb pb e.tb e.tu
 tk:TokAt h e.tb pb e.ti e.lv
 iu:TreeO (tok e) U h kind x e.tu e.lu e.S
 up:cu e.lu
 fit:Fit e.lu
 len:e.lu.length≤n
def rd:List Ed→Nat
 | []=>0
 |e::es=>(if e.lv then 1 else 0)+rd es
structure Wo(A:Nat→Prop)(h:ad)(pb cb cap:Nat)(ids:List Int)(kind:Int)(x:Hs)(n:Nat)(es:List Ed):Prop where
 pl:PoolAt h pb cb cap ids
 rm:ids.length+rd es=cap
 lt:∀y,A y→y<h.size
 ac:¬A cb
 pv:¬Un A cb es pb
 ew:∀e∈es,EdW (Un A cb es) h pb kind x n e
 av:∀e∈es,¬A e.eb∧¬A e.tb∧(∀y,e.S y→¬A y∧y≠cb∧(∀f∈es,y≠f.eb∧y≠f.tb)∧y<h.size)∧(e.lv=false→¬Un A cb es e.tb)
 pw:∀(i j:Nat) (a b:Ed),es[i]? =some a→es[j]? =some b→i≠j→a.eb≠b.eb∧a.tb≠b.tb∧∀y,a.S y→¬b.S y
def Me(A:Nat→Prop)(cb:Nat)(es:List Ed)(h:ad)(a:List Ed)(b:ad):Prop:=Mv (Un A cb es) h (Un A cb a) b∧Upd (fun y=>¬A y) h b
section
variable {A A' M:Nat→Prop} {h h':ad} {pb cb cap n m:Nat} {ids ids':List Int} {kind:Int} {x:Hs} {es:List Ed}
theorem Wo.ult(w:Wo A h pb cb cap ids kind x n es):∀y,Un A cb es y→y<h.size:=by
 rintro y (b|rfl|⟨e,a,rfl|⟨_,rfl⟩|b⟩)
 ·exact w.lt y b
 ·obtain⟨_,_,_,_,hc⟩:=w.pl;exact aD hc
 ·exact aD (w.ew e a).ed
 ·exact aD (w.ew e a).tk
 ·exact((w.av e a).2.2.1 y b).2.2.2
theorem EdW.mono{U:Nat→Prop}{e:Ed}(w:EdW U h pb kind x n e)(hm:n≤m):EdW U h pb kind x m e:=⟨w.ed,w.tk,w.iu,w.up,w.fit,ba w.len hm⟩
theorem Wo.mono(w:Wo A h pb cb cap ids kind x n es)(hm:n≤m):Wo A h pb cb cap ids kind x m es:=⟨w.pl,w.rm,w.lt,w.ac,w.pv,fun e a=>(w.ew e a).mono hm,w.av,w.pw⟩
theorem Wo.cb_ne(w:Wo A h pb cb cap ids kind x n es):cb<h.size∧pb<h.size∧∀e∈es,cb≠e.eb∧cb≠e.tb∧∀f∈es,e.eb≠f.tb:=by
 refine⟨w.ult _ (.inr (.inl rfl)),aD w.pl.2.1,fun e c=>?_⟩
 obtain⟨j,k,i⟩:=Pu (w.ew e c).ed (w.ew e c).tk w.pl;refine⟨Ne.symm j,Ne.symm i,fun f d g=>?_⟩
 have a:=(w.ew e c).ed;have b:=(w.ew f d).tk;rw[←g]at b;have:=a.symm.trans b;simp at this
theorem Wo.own(w:Wo A h pb cb cap ids kind x n es)(k:Upd M h h')(hm:∀y,M y→A y∨h.size≤y)(g:∀y,A' y→(A y∨h.size≤y)∧y<h'.size):Wo A' h' pb cb cap ids kind x n es∧Mv (Un A cb es) h (Un A' cb es) h':=by
 have mv:Mv (Un A cb es) h (Un A' cb es) h':=⟨k.mono fun y a=>(hm y a).imp .inl id,fun y a=>a.elim (fun h=>(g y h).1.imp .inl id) fun h=>.inl (.inr h)⟩
 have un:∀{y},y<h.size→¬A y→¬A' y:=fun o d h=>(g _ h).1.elim d fun h=>by omega
 have c:∀{y},y<h.size→¬A y→¬M y:=fun o d h=>(hm _ h).elim d fun h=>by omega
 obtain⟨hc,m,_⟩:=w.cb_ne;have p:=k.size;refine⟨⟨w.pl.upd k (c m fun h=>w.pv (.inl h)) (c hc w.ac),w.rm,fun y a=>(g y a).2,un hc w.ac,fun f=>(mv.2 _ f).elim w.pv fun h=>by omega,fun e b=>?_,fun e b=>?_,w.pw⟩,mv⟩
 ·have v:=w.av e b
  have q:=w.ew e b;exact⟨q.ed.upd k (c (aD q.ed) v.1),q.tk.upd k (c (aD q.tk) v.2.1),((q.iu.less (W':=fun y=>Un A cb es y∨h.size≤y) fun _ h=>h).upd k (fun y a=>(v.2.2.1 y a).2.2.2) fun y a=>(hm y a).imp (fun h=>⟨.inl (.inl h),fun j=>(v.2.2.1 y j).1 h⟩) id).less fun y a=>.inl (mv.2 y a),q.up,q.fit,q.len⟩
 ·have v:=w.av e b
  have q:=w.ew e b;exact⟨un (aD q.ed) v.1,un (aD q.tk) v.2.1,fun y a=>⟨un (v.2.2.1 y a).2.2.2 (v.2.2.1 y a).1,(v.2.2.1 y a).2.1,(v.2.2.1 y a).2.2.1,by have:=(v.2.2.1 y a).2.2.2;omega⟩,fun i f=>(mv.2 _ f).elim (v.2.2.2 i) fun h=>by have:=aD q.tk;omega⟩
theorem Wo.up0(w:Wo A h pb cb cap ids kind x n es)(k:Upd No h h'):Wo A h' pb cb cap ids kind x n es:=(w.own k (fun _ h=>h.elim) fun y a=>⟨.inl a,by have:=w.lt y a;have:=k.size;omega⟩).1
def Ot(A:Nat→Prop)(cb:Nat)(es:List Ed)(i:Nat)(y:Nat):Prop:=A y∨y=cb∨(∃e∈es,y=e.eb∨(e.lv=true∧y=e.tb))∨∃j b,es[j]? =some b∧j≠i∧b.S y
theorem Ot.un{i:Nat}{e:Ed}(d:es[i]? =some e) (y:Nat):(Ot A cb es i y∨e.S y)↔Un A cb es y:=by
 constructor
 ·rintro((h|h|⟨f,a,h⟩|⟨j,b,g,_,h⟩)|h)
  ·exact .inl h
  ·exact .inr (.inl h)
  ·exact .inr (.inr ⟨f,a,h.imp id .inl⟩)
  ·exact .inr (.inr ⟨b,ay g,.inr (.inr h)⟩)
  ·exact .inr (.inr ⟨e,ay d,.inr (.inr h)⟩)
 ·rintro(h|h|⟨f,a,h|h|h⟩)
  ·exact .inl (.inl h)
  ·exact .inl (.inr (.inl h))
  ·exact .inl (.inr (.inr (.inl ⟨f,a,.inl h⟩)))
  ·exact .inl (.inr (.inr (.inl ⟨f,a,.inr h⟩)))
  ·obtain⟨j,c⟩:=fL a
   by_cases e:j=i
   ·subst e;rw[d]at c;cases c;exact .inr h
   ·exact .inl (.inr (.inr (.inr ⟨j,f,c,e,h⟩)))
theorem Wo.edO(w:Wo A h pb cb cap ids kind x n es){i:Nat}{e:Ed}(c:es[i]? =some e) (d:e.lv=true):EdO (Ot A cb es i) e.S h e.eb pb e.tb e.ti kind x e.tu e.lu:=by
 have hm:=ay c;have q:=w.ew e hm;have v:=w.av e hm;have o:tok e=some ⟨e.tb,0,none⟩:=by unfold tok;rw[d];rfl
 refine⟨q.ed,d▸q.tk,(o▸q.iu).less fun y a=>.inl ((Ot.un c y).1 a),fun y a=>w.ult y ((Ot.un c y).1 a),.inr (.inr (.inl ⟨e,hm,.inl rfl⟩)),.inr (.inr (.inl ⟨e,hm,.inr ⟨d,rfl⟩⟩)),fun y a=>?_,q.up,q.fit⟩
 rintro(h|h|⟨f,g,h⟩|⟨j,b,k,m,h⟩)
 ·exact(v.2.2.1 y a).1 h
 ·exact(v.2.2.1 y a).2.1 h
 ·exact h.elim ((v.2.2.1 y a).2.2.1 f g).1 fun h=>((v.2.2.1 y a).2.2.1 f g).2 h.2
 ·exact(w.pw i j e b c k (Ne.symm m)).2.2 y a h
theorem E6{e e':Ed}:∀{es:List Ed} {i:Nat},es[i]? =some e→rd (es.set i e')+(if e.lv then 1 else 0)=rd es+(if e'.lv then 1 else 0)
 |a::es,0,h=>by cases h;simp only[List.set_cons_zero,rd];omega
 |a::es,i+1,h=>by
  simp only[List.set_cons_succ,rd];have:=E6 (e':=e') (es:=es) (i:=i) (by simpa using h);omega
 | [],i,h=>by simp at h
theorem E8{e:Ed}:∀{es:List Ed},rd (es++ [e])=rd es+if e.lv then 1 else 0
 | []=>by simp only[List.nil_append,rd];omega
 |a::es=>by simp only[List.cons_append,rd,E8 (es:=es)];omega
theorem Gt{α:Type}{l:List α}{i:Nat}{a b:α}(h:b∈l.set i a):b=a∨∃j,j≠i∧l[j]? =some b:=by
 obtain⟨j,c⟩:=fL h;rw[List.getElem?_set]at c;split at c
 ·split at c
  ·cases c;exact .inl rfl
  ·cases c
 ·exact .inr ⟨j,by omega,c⟩
theorem Wo.repl{P0:Prop}(w:Wo A h pb cb cap ids kind x n es){i:Nat}{e e':Ed}(Q:es[i]? =some e) (Y:e.lv=true) (u:e'.eb=e.eb) (k:Upd M h h') (hM:∀y,M y→y=cb∨y=e.tb∨y=e.eb∨e.S y) (p:PoolAt h' pb cb cap ids') (hcap:ids'.length+(if e'.lv then 1 else 0)=ids.length+1)
  (z:e'.tb=e.tb∨h.size≤e'.tb) (S:∀y,e'.S y→(e.S y∨(h.size≤y∧y≠e'.tb))∧y<h'.size) (ed:EdAt h' e'.eb pb e'.tb e'.tu) (tk:TokAt h' e'.tb pb e'.ti e'.lv) (hn:n≤m) (up:cu e'.lu) (fit:Fit e'.lu) (len:e'.lu.length≤m)
  (O:Mv (Un A cb es) h (Un A cb (es.set i e')) h'→(∀y,Un A cb (es.set i e') y↔(Ot A cb (es.set i e') i y∨e'.S y))→(∀y,e.S y→¬Ot A cb (es.set i e') i y)→((e'.lv=false∨e'.tb≠e.tb)→¬Un A cb (es.set i e') e.tb)→TreeO (tok e') (Un A cb (es.set i e')) h' kind x e'.tu e'.lu e'.S∧P0):
  Wo A h' pb cb cap ids' kind x m (es.set i e')∧Me A cb es h (es.set i e') h'∧P0:=by
 have c:=ay Q;have hi:i<es.length:=(aW.1 Q).1;have v:=w.av e c;have q:=w.ew e c;have hz:=k.size;obtain⟨hc,hp,G⟩:=w.cb_ne;have lb:=aD q.tk;have L:(es.set i e')[i]? =some e':=List.getElem?_set_self hi;have oth:∀{f},f∈es.set i e'→f=e'∨∃j,j≠i∧es[j]? =some f∧f∈es∧f.eb≠e.eb∧f.tb≠e.tb∧(∀y,f.S y→¬e.S y)∧f.eb<h.size∧f.tb<h.size:=fun t=>(Gt t).imp id fun⟨j,E,t⟩=>by
  have pw:=w.pw j i _ e t Q E;have hm:=ay t;exact⟨j,E,t,hm,pw.1,pw.2.1,pw.2.2,aD (w.ew _ hm).ed,aD (w.ew _ hm).tk⟩
 have mv:Mv (Un A cb es) h (Un A cb (es.set i e')) h':=by
  refine⟨k.mono fun y d=>.inl ?_,?_⟩
  ·rcases hM y d with rfl|rfl|rfl|d
   ·exact .inr (.inl rfl)
   ·exact .inr (.inr ⟨e,c,.inr (.inl ⟨Y,rfl⟩)⟩)
   ·exact .inr (.inr ⟨e,c,.inl rfl⟩)
   ·exact .inr (.inr ⟨e,c,.inr (.inr d)⟩)
  ·rintro y (d|d|⟨f,t,d⟩)
   ·exact .inl (.inl d)
   ·exact .inl (.inr (.inl d))
   ·rcases oth t with rfl|⟨j,E,J,o,_⟩
    ·rcases d with rfl|⟨_,rfl⟩|d
     ·rw[u];exact .inl (.inr (.inr ⟨e,c,.inl rfl⟩))
     ·rcases z with h|h
      ·rw[h];exact .inl (.inr (.inr ⟨e,c,.inr (.inl ⟨Y,rfl⟩)⟩))
      ·exact .inr h
     ·exact(S y d).1.imp (fun h=>.inr (.inr ⟨e,c,.inr (.inr h)⟩)) And.left
    ·exact .inl (.inr (.inr ⟨f,o,d⟩))
 have nM:∀{y},y≠cb→y≠e.tb→y≠e.eb→¬e.S y→¬M y:=fun s C h3 h4 h=>by rcases hM _ h with h|h|h|h<;>contradiction
 have K:∀{f},f∈es→∀{y},y=f.eb∨y=f.tb→¬e.S y:=fun t y d B=>by
  have:=(v.2.2.1 y B).2.2.1 _ t;exact d.elim this.1 this.2
 have Z:∀y,e.S y→¬Ot A cb (es.set i e') i y:=by
  rintro y B (h|h|⟨f,t,h⟩|⟨j,b,I,E,h⟩)
  ·exact(v.2.2.1 y B).1 h
  ·exact(v.2.2.1 y B).2.1 h
  ·have d:=(v.2.2.1 y B).2.2.2
   rcases oth t with rfl|⟨j,E,J,o,_⟩
   ·rcases h with h|⟨_,h⟩
    ·exact K c (.inl (h.trans u)) B
    ·rcases z with R|R
     ·exact K c (.inr (h.trans R)) B
     ·omega
   ·exact K o (h.imp id And.right) B
  ·rw[ll (Ne.symm E)]at I
   exact(w.pw i j e b Q I (Ne.symm E)).2.2 y B h
 have T:(e'.lv=false∨e'.tb≠e.tb)→¬Un A cb (es.set i e') e.tb:=by
  rintro H (h|h|⟨f,t,h⟩)
  ·exact v.2.1 h
  ·exact(G e c).2.1 h.symm
  ·rcases oth t with rfl|⟨j,E,J,o,R,X,e3,_⟩
   ·rcases h with h|⟨s,h⟩|h
    ·exact(G e c).2.2 e c (u.symm.trans h.symm)
    ·rcases H with H|H
     ·rw[H]at s;cases s
     ·exact H h.symm
    ·exact(S _ h).1.elim (fun h=>K c (.inr rfl) h) fun h=>by omega
   ·rcases h with h|⟨_,h⟩|h
    ·exact(G f o).2.2 e c h.symm
    ·exact X h.symm
    ·exact((w.av f o).2.2.1 _ h).2.2.1 e c|>.2 rfl
 obtain⟨O,hP0⟩:=O mv (fun y=>(Ot.un L y).symm) Z T
 refine⟨⟨p,?_,fun y d=>by have:=w.lt y d;omega,w.ac,fun P=>(mv.2 _ P).elim w.pv fun h=>by omega,fun f t=>?_,fun f t=>?_,fun i' j' a b F I hij=>?_⟩,⟨mv,k.mono fun y d=>.inl ?_⟩,hP0⟩
 ·have:=E6 (e':=e') Q
  have:=w.rm;rw[Y]at*;simp only[if_true]at*;omega
 ·rcases oth t with rfl|⟨j,E,J,o,R,X,e3,e4,e5⟩
  ·exact⟨ed,tk,O,up,fit,len⟩
  ·have g:=w.ew f o
   have D:=w.av f o;have cf:=G f o;refine⟨g.ed.upd k (nM (Ne.symm cf.1) (cf.2.2 e c) R (K o (.inl rfl))),g.tk.upd k (nM (Ne.symm cf.2.1) X (Ne.symm ((G e c).2.2 f o)) (K o (.inr rfl))),((g.iu.less (W':=fun y=>Un A cb es y∨h.size≤y) fun _ h=>h).upd k (fun y d=>(D.2.2.1 y d).2.2.2) fun y d=>.inl ⟨?_,fun B=>?_⟩).less fun y d=>.inl (mv.2 y d),g.up,g.fit,ba g.len hn⟩
   ·rcases hM y d with rfl|rfl|rfl|d
    ·exact .inl (.inr (.inl rfl))
    ·exact .inl (.inr (.inr ⟨e,c,.inr (.inl ⟨Y,rfl⟩)⟩))
    ·exact .inl (.inr (.inr ⟨e,c,.inl rfl⟩))
    ·exact .inl (.inr (.inr ⟨e,c,.inr (.inr d)⟩))
   ·have a:=D.2.2.1 y B
    rcases hM y d with h|h|h|h
    ·exact a.2.1 h
    ·exact(a.2.2.1 e c).2 h
    ·exact(a.2.2.1 e c).1 h
    ·exact e3 y B h
 ·rcases oth t with rfl|⟨j,E,J,o,R,X,e3,e4,e5⟩
  ·refine⟨u▸v.1,?_,fun y d=>?_,fun H P=>?_⟩
   ·rcases z with h|h
    ·rw[h];exact v.2.1
    ·exact fun F=>by have:=w.lt _ F;omega
   ·have V:=(S y d).1
    refine⟨fun F=>?_,fun hc'=>?_,fun g hg=>?_,(S y d).2⟩
    ·exact V.elim (fun h=>(v.2.2.1 y h).1 F) fun h=>by have:=w.lt y F;omega
    ·exact V.elim (fun h=>(v.2.2.1 y h).2.1 hc') fun h=>by omega
    ·rcases oth hg with rfl|⟨_,_,_,N,_,_,_,e4,e5⟩
     ·refine⟨fun h=>?_,fun h=>?_⟩
      ·exact V.elim (K c (.inl (h.trans u))) fun s=>by have:=aD q.ed;omega
      ·refine V.elim (fun B=>?_) fun s=>s.2 h
       rcases z with C|C
       ·exact K c (.inr (h.trans C)) B
       ·have:=(v.2.2.1 y B).2.2.2;omega
     ·exact V.elim (fun h=>(v.2.2.1 y h).2.2.1 g N) fun h=>⟨by omega,by omega⟩
   ·rcases z with h|h
    ·rw[h]at P;exact T (.inl H) P
    ·rcases P with s|s|⟨f,t,s⟩
     ·have:=w.lt _ s;omega
     ·omega
     ·rcases oth t with rfl|⟨_,_,_,o,_,_,_,e4,e5⟩
      ·rcases s with s|⟨s,_⟩|s
       ·rw[u]at s;have:=aD q.ed;omega
       ·rw[H]at s;cases s
       ·exact(S _ s).1.elim (fun C=>by have:=(v.2.2.1 _ C).2.2.2;omega) fun C=>C.2 rfl
      ·rcases s with s|⟨_,s⟩|s
       ·omega
       ·omega
       ·have:=((w.av f o).2.2.1 _ s).2.2.2;omega
  ·have D:=w.av f o
   refine⟨D.1,D.2.1,fun y d=>⟨(D.2.2.1 y d).1,(D.2.2.1 y d).2.1,fun g hg=>?_,by have:=(D.2.2.1 y d).2.2.2;omega⟩,fun H P=>(mv.2 _ P).elim (D.2.2.2 H) fun h=>by omega⟩
   have hy2:=(D.2.2.1 y d).2.2.2;rcases oth hg with rfl|⟨_,_,_,N,_⟩
   ·have a:=(D.2.2.1 y d).2.2.1 e c
    refine⟨fun h=>a.1 (h.trans u),fun h=>?_⟩
    rcases z with C|C
    ·exact a.2 (h.trans C)
    ·omega
   ·exact(D.2.2.1 y d).2.2.1 g N
 ·have val:∀{j a},(es.set i e')[j]? =some a→(j≠i∧es[j]? =some a)∨(j=i∧a=e'):=fun{j a} F=>by
   by_cases ej:j=i
   ·subst ej
    rw[L]at F;cases F;exact .inr ⟨rfl,rfl⟩
   ·rw[ll (Ne.symm ej)]at F
    exact .inl ⟨ej,F⟩
  have one:∀{j b},es[j]? =some b→j≠i→e'.eb≠b.eb∧e'.tb≠b.tb∧∀y,e'.S y→¬b.S y:=fun{j b} I E=>by
   have pw:=w.pw i j e b Q I (Ne.symm E);have W:=ay I;have lt:=aD (w.ew b W).tk;refine⟨u▸pw.1,?_,fun y d I=>?_⟩
   ·rcases z with h|h
    ·rw[h];exact pw.2.1
    ·omega
   ·have:=((w.av b W).2.2.1 y I).2.2.2
    exact(S y d).1.elim (fun h=>pw.2.2 y h I) fun h=>by omega
  rcases val F with⟨s,qa⟩|⟨s,rfl⟩<;>rcases val I with⟨C,qb⟩|⟨C,rfl⟩
  ·exact w.pw i' j' a b qa qb hij
  ·obtain⟨p1,p2,p3⟩:=one qa s
   exact⟨Ne.symm p1,Ne.symm p2,fun y d h=>p3 y h d⟩
  ·exact one qb C
  ·omega
 ·rcases hM y d with rfl|rfl|rfl|d
  ·exact w.ac
  ·exact v.2.1
  ·exact v.1
  ·exact(v.2.2.1 y d).1
theorem Wo.goes(w:Wo A h pb cb cap ids kind x n es){i:Nat}{e:Ed}(B:es[i]? =some e) (p:e.lv=true) {g:Nat→Prop} {d:Tr} {c:List Pr} (e':EdO (Ot A cb es i) g h' e.eb pb e.tb e.ti kind x d c) (k:Upd (fun y=>e.S y∨y=e.eb) h h') (C:∀y,g y→(e.S y∨h.size≤y)∧y<h'.size) (D:n≤m) (hm:c.length≤m):
  Wo A h' pb cb cap ids kind x m (es.set i {e with tu:=d,lu:=c,S:=g})∧Me A cb es h (es.set i {e with tu:=d,lu:=c,S:=g}) h':=by
 have a:=ay B;have v:=w.av e a;have q:=w.ew e a;obtain⟨hc,H,t⟩:=w.cb_ne;refine(fun r=>⟨r.1,r.2.1⟩) (w.repl (P0:=True) (e':={e with tu:=d,lu:=c,S:=g}) B p rfl k (fun y o=>o.elim (fun h=>.inr (.inr (.inr h))) fun h=>.inr (.inr (.inl h))) (w.pl.upd k (fun h=>w.pv ?_) (fun h=>?_)) (by simp[p]) (.inl rfl) (fun y o=>⟨(C y o).1.imp id fun h=>⟨h,by have:=aD q.tk;show y≠e.tb;omega⟩,(C y o).2⟩) e'.ed (p▸e'.tk) D e'.up e'.fit hm fun mv un E F=>⟨?_,trivial⟩)
 ·rcases h with h|h
  ·exact .inr (.inr ⟨e,a,.inr (.inr h)⟩)
  ·exact .inr (.inr ⟨e,a,.inl h⟩)
 ·rcases h with h|h
  ·exact(v.2.2.1 _ h).2.1 rfl
  ·exact(t e a).1 h
 ·have G:tok {e with tu:=d,lu:=c,S:=g}=some ⟨e.tb,0,none⟩:=by unfold tok;rw[p];rfl
  rw[G];refine e'.iu.less fun y o=>.inl (((un y).1 o).imp (fun h=>?_) id)
  rcases h with h|h|⟨f,s,h⟩|⟨j,b,z,u,h⟩
  ·exact .inl h
  ·exact .inr (.inl h)
  ·rcases Gt s with rfl|⟨j,u,s⟩
   ·exact .inr (.inr (.inl ⟨e,a,h⟩))
   ·exact .inr (.inr (.inl ⟨f,ay s,h⟩))
  ·rw[ll (Ne.symm u)]at z
   exact .inr (.inr (.inr ⟨j,b,z,u,h⟩))
theorem Wo.turn(w:Wo A h pb cb cap ids kind x n es){i:Nat}{e:Ed}(B:es[i]? =some e) (t:e.lv=true) {tb':Nat} {ti':Int} {lv' g:Bool} (k:Upd (fun y=>y=cb∨y=e.tb∨y=e.eb) h h') (p:PoolAt h' pb cb cap ids') (f:ids'.length+(if lv' then 1 else 0)=ids.length+1)
  (ed:EdAt h' e.eb pb tb' e.tu) (tk:TokAt h' tb' pb ti' lv') (u:TokAt h' e.tb pb e.ti g) (d:(tb'=e.tb∧lv'=false)∨h.size≤tb'):
  Wo A h' pb cb cap ids' kind x n (es.set i {e with tb:=tb',ti:=ti',lv:=lv',S:=No})∧Me A cb es h (es.set i {e with tb:=tb',ti:=ti',lv:=lv',S:=No}) h'∧TreeIs (Un A cb (es.set i {e with tb:=tb',ti:=ti',lv:=lv',S:=No})) h' kind x e.tu e.lu:=by
 have c:=ay B;have v:=w.av e c;have q:=w.ew e c;have F:=aD q.tk;have r:=w.repl (e':={e with tb:=tb',ti:=ti',lv:=lv',S:=No}) (m:=n) (P0:=TreeIs (Un A cb (es.set i {e with tb:=tb',ti:=ti',lv:=lv',S:=No})) h' kind x e.tu e.lu) B t rfl k (fun y b=>b.imp id fun h=>h.imp id .inl) p f (d.imp And.left id) (fun y b=>b.elim) ed tk (ao _) q.up q.fit q.len fun mv un j o=>?_
 ·exact⟨r.1,r.2.1,r.2.2⟩
 ·have E:tok e=some ⟨e.tb,0,none⟩:=by unfold tok;rw[t];rfl
  have s:∀y,(y=cb∨y=e.tb∨y=e.eb)→(Un A cb es y∨h.size≤y)∧¬e.S y:=fun y b=>by
   refine⟨?_,fun C=>?_⟩
   ·rcases b with rfl|rfl|rfl
    ·exact .inl (.inr (.inl rfl))
    ·exact .inl (.inr (.inr ⟨e,c,.inr (.inl ⟨t,rfl⟩)⟩))
    ·exact .inl (.inr (.inr ⟨e,c,.inl rfl⟩))
   ·have a:=v.2.2.1 y C
    rcases b with h|h|h
    ·exact a.2.1 h
    ·exact(a.2.2.1 e c).2 h
    ·exact(a.2.2.1 e c).1 h
  have i1:=((E▸q.iu).less (W':=fun y=>Un A cb es y∨h.size≤y) fun _ h=>h).upd k (fun y b=>(v.2.2.1 y b).2.2.2) fun y b=>.inl (s y b)
  have z:TreeIs (Un A cb (es.set i {e with tb:=tb',ti:=ti',lv:=lv',S:=No})) h' kind x e.tu e.lu:=i1.freeze (fun y b=>mv.2 y b) (fun a h=>by
   cases h
   exact⟨o (d.symm.imp (fun h=>by show tb'≠e.tb;omega) And.right).symm,_,_,u,by simp⟩) fun y b D=>((un y).1 D).elim (j y b) fun h=>h
  exact⟨yl z,z⟩
theorem Wo.begin(w:Wo A h pb cb cap ids kind x n es){i:Int}{eb tb:Nat}{tu:Tr}{lu:List Pr}(q:ids=i::ids')(k:Upd (· =cb) h h')(p:PoolAt h' pb cb cap ids')(t:TokAt h' tb pb i true)(ed:EdAt h' eb pb tb tu)(M:h.size≤eb)(F:h.size≤tb)(J:TreeIs (Un A cb es) h kind x tu lu)(up:cu lu)(fit:Fit lu)(len:lu.length≤n):
  Wo A h' pb cb cap ids' kind x n (es++ [⟨eb,tb,i,true,tu,lu,No⟩])∧Me A cb es h (es++ [⟨eb,tb,i,true,tu,lu,No⟩]) h':=by
 obtain⟨hc,N,s⟩:=w.cb_ne;have hz:=k.size;have G:eb≠tb:=(Pu ed t p).2.1;have mem:∀{f},f∈es++ [⟨eb,tb,i,true,tu,lu,No⟩]→f∈es∨f=⟨eb,tb,i,true,tu,lu,No⟩:=fun d=>(List.mem_append.1 d).imp id aq.1
 have mv:Mv (Un A cb es) h (Un A cb (es++ [⟨eb,tb,i,true,tu,lu,No⟩])) h':=by
  refine⟨k.mono fun y c=>.inl (.inr (.inl c)),?_⟩
  rintro y (c|c|⟨f,d,c⟩)
  ·exact .inl (.inl c)
  ·exact .inl (.inr (.inl c))
  ·rcases mem d with d|rfl
   ·exact .inl (.inr (.inr ⟨f,d,c⟩))
   ·rcases c with rfl|⟨_,rfl⟩|c
    ·exact .inr M
    ·exact .inr F
    ·exact c.elim
 have o:∀{f},f∈es→f.eb<h.size∧f.tb<h.size:=fun d=>⟨aD (w.ew _ d).ed,aD (w.ew _ d).tk⟩
 refine⟨⟨p,?_,fun y c=>by have:=w.lt y c;omega,w.ac,fun C=>(mv.2 _ C).elim w.pv fun h=>by omega,fun f d=>?_,fun f d=>?_,fun L K a b e D v=>?_⟩,mv,k.mono fun y c=>.inl (c▸w.ac)⟩
 ·have:=w.rm
  rw[q]at this;rw[E8];simp only[aN,if_true]at*;omega
 ·rcases mem d with d|rfl
  ·have g:=w.ew f d
   have m:=w.av f d;exact⟨g.ed.upd k (Ne.symm (s f d).1),g.tk.upd k (Ne.symm (s f d).2.1),((g.iu.less (W':=fun y=>Un A cb es y∨h.size≤y) fun _ h=>h).upd k (fun y c=>(m.2.2.1 y c).2.2.2) fun y c=>.inl ⟨.inl (.inr (.inl c)),fun I=>(m.2.2.1 y I).2.1 c⟩).less fun y c=>.inl (mv.2 y c),g.up,g.fit,g.len⟩
  ·exact⟨ed,t,yl (J.mv mv),up,fit,len⟩
 ·rcases mem d with d|rfl
  ·have m:=w.av f d
   refine⟨m.1,m.2.1,fun y c=>⟨(m.2.2.1 y c).1,(m.2.2.1 y c).2.1,fun g B=>?_,by have:=(m.2.2.1 y c).2.2.2;omega⟩,fun z C=>(mv.2 _ C).elim (m.2.2.2 z) fun h=>by have:=(o d).2;omega⟩
   have H:=(m.2.2.1 y c).2.2.2;rcases mem B with B|rfl
   ·exact(m.2.2.1 y c).2.2.1 g B
   ·exact⟨by show y≠eb;omega,by show y≠tb;omega⟩
  ·exact⟨fun e=>by have:=w.lt _ e;simp only at this;omega,fun e=>by have:=w.lt _ e;simp only at this;omega,fun y c=>c.elim,fun z=>by cases z⟩
 ·have val:∀{j a},(es++ [⟨eb,tb,i,true,tu,lu,No⟩])[j]? =some a→es[j]? =some a∨(j=es.length∧a=⟨eb,tb,i,true,tu,lu,No⟩):=fun{j a} e=>by
   rw[List.getElem?_append]at e;split at e
   ·exact .inl e
   ·have:j-es.length=0:=by
     have:=(aW.1 e).1;simp only[aK]at this;omega
    rw[this]at e;cases e;exact .inr ⟨by omega,rfl⟩
  have one:∀{j:Nat} {b:Ed},es[j]? =some b→eb≠b.eb∧tb≠b.tb:=fun{j b} D=>by
   have:=o (ay D);exact⟨by omega,by omega⟩
  rcases val e with E|⟨O,rfl⟩<;>rcases val D with u|⟨P,rfl⟩
  ·exact w.pw L K a b E u v
  ·exact⟨Ne.symm (one E).1,Ne.symm (one E).2,fun y _ h=>h.elim⟩
  ·exact⟨(one u).1,(one u).2,fun y h=>h.elim⟩
  ·omega
end
end Go.Proofs
namespace Go.Proofs
open Go Go.Lift
end Go.Proofs
namespace Go.Proofs
open Go Go.Lift
end Go.Proofs
namespace Go.Proofs
open Go Go.Lift
end Go.Proofs
namespace Go.Proofs
open Go Go.Lift
end Go.Proofs
namespace Go.Proofs
open Go Go.Lift
end Go.Proofs
namespace Go.Proofs
open Go Go.Lift
end Go.Proofs
namespace Go.Proofs
open Go Go.Lift
end Go.Proofs
namespace Go.Proofs
open Go Go.Lift
theorem E7{e:Ed}:∀{es:List Ed} {i:Nat},es[i]? =some e→e.lv=true→1≤rd es
 |a::es,0,h,hl=>by cases h;simp only[rd];rw[if_pos hl];omega
 |a::es,i+1,h,hl=>by
  have:=E7 (es:=es) (i:=i) (by simpa using h) hl;simp only[rd];omega
 | [],i,h,hl=>by simp at h
section
variable {A:Nat→Prop} {h:ad} {pb cb cap n:Nat} {ids:List Int} {kind:Int} {x:Hs} {es:List Ed} {i:Nat} {e:Ed}
theorem Tn(w:Wo A h pb cb cap ids kind x n es)(d:es[i]? =some e) (f:e.lv=true) (o:n≤1000) (p:Pr) (g:p.1.size≤5030∧p.2.size≤5030) {K:Int→ad→Prop}
  (j:∀b a c,Wo A b pb cb cap ids kind x (n+1) (es.set i {e with tu:=a,lu:=l6 e.lu p,S:=c})→Me A cb es h (es.set i {e with tu:=a,lu:=l6 e.lu p,S:=c}) b→K (yf p) b):HC PG gN [.pointer (some ⟨e.eb,0,none⟩),.agg #[.string p.1,.string p.2]] [.c (.int .i64)] K h:=by
 have q:=w.ew e (ay d);have wl:=Cg q.up q.fit q.len g;exact Im (w.edO d f) (by have:=q.len;omega) p (fun b a c e' k m=>let r:=w.goes d f e' k m (Nat.le_succ n) wl.2.2;j b a c r.1 r.2) wl.2.1
theorem RI(w:Wo A h pb cb cap ids kind x n es)(d:es[i]? =some e) (f:e.lv=true) (m:n≤1000) (k:ByteArray) {K:Int→ad→Prop}
  (g:∀b a c,Wo A b pb cb cap ids kind x (n+1) (es.set i {e with tu:=a,lu:=jH e.lu k,S:=c})→Me A cb es h (es.set i {e with tu:=a,lu:=jH e.lu k,S:=c}) b→K (BK e.lu k) b):HC PG lM [.pointer (some ⟨e.eb,0,none⟩),.string k] [.c (.int .i64)] K h:=by
 have q:=w.ew e (ay d);have wl:=Ib (k:=k) q.up q.fit q.len;exact Nt (w.edO d f) (by have:=q.len;omega) k (fun b a c e' k j=>let r:=w.goes d f e' k j (Nat.le_succ n) wl.2.2;g b a c r.1 r.2)
theorem MB(w:Wo A h pb cb cap ids kind x n es)(c:es[i]? =some e) (b:e.lv=true) {K:Tr×Int→ad→Prop}
  (d:∀a,Wo A a pb cb cap (ids++ [e.ti]) kind x n (es.set i {e with lv:=false,S:=No})→Me A cb es h (es.set i {e with lv:=false,S:=No}) a→TreeIs (Un A cb (es.set i {e with lv:=false,S:=No})) a kind x e.tu e.lu→K (e.tu,0) a):il (some ⟨e.eb,0,none⟩) K h:=by
 have q:=w.ew e (ay c);have hv:=E7 c b;refine Dd q.ed (b▸q.tk) w.pl (by have:=w.rm;omega) fun a k p t ed=>?_
 have r:=w.turn (tb':=e.tb) (ti':=e.ti) (lv':=false) c b (k.mono fun y f=>.inl (f.imp id .inl)) p (by simp) ed t t (.inl ⟨rfl,rfl⟩)
 exact d a r.1 r.2.1 r.2.2
theorem Qk(w:Wo A h pb cb cap ids kind x n es){j:Int}{a:List Int}(hi:ids=j::a){t:Tr}{l:List Pr}(c:TreeIs (Un A cb es) h kind x t l)(up:cu l)(fit:Fit l)(len:l.length≤n){K:Option Addr×Int→ad→Prop}
  (d:∀b eb tb,Wo A b pb cb cap a kind x n (es++ [⟨eb,tb,j,true,t,l,No⟩])→Me A cb es h (es++ [⟨eb,tb,j,true,t,l,No⟩]) b→K (some ⟨eb,0,none⟩,0) b):HC PG nR [.pointer (some ⟨pb,0,none⟩),LK t] [.c .ptr,.c (.int .i64)] K h:=by
 subst hi;refine De w.pl t fun b eb tb k p tk ed e f=>?_
 have r:=w.begin rfl k p tk ed e f c up fit len;exact d b eb tb r.1 r.2
theorem RX{U:Nat→Prop}(q:EdW U h pb kind x n e):By h (some ⟨e.tb,0,none⟩) (tok e):=q.tk.by_
theorem EdW.is{U:Nat→Prop}(q:EdW U h pb kind x n e):TreeIs No h kind x e.tu e.lu:=q.iu.read (RX q)
end
end Go.Proofs
namespace Go.Proofs
open Go Go.Lift
def sb(s:SliceV)(y:Nat):Prop:=s.cap≠0∧∃a,s.a=some a∧y=a.block
section
variable {α:Type} {f:α→List Value} {sz:Nat} {ty:TypeId} {M:Nat→Prop} {h:ad} {s so:SliceV} {xs out:List α}
theorem _root_.Go.Lift.OwnS.sub(o:OwnS f sz ty M h s xs):∀y,sb s y→M y∧y<h.size:=fun y ⟨hc,a,i,c⟩=>by
 rcases o.blk with g|⟨b,e,d,hm,j,_⟩
 ·exact absurd g hc
 ·rw[i]at d
  cases d;exact⟨c▸hm,c▸aD j⟩
theorem _root_.Go.Lift.OwnS.its(o:OwnS f sz ty M h s xs):OwnS f sz ty (sb s) h s xs:=by
 refine⟨o.len,o.ne,o.cap,?_⟩;by_cases hc:s.cap=0
 ·exact .inl hc
 ·rcases o.blk with d|⟨b,a,c,hm,g,e⟩
  ·exact absurd d hc
  ·exact .inr ⟨b,a,c,⟨hc,_,c,rfl⟩,g,e⟩
theorem qn{a:Option Addr}{n:Nat}:∀y,¬sb ⟨a,n,0⟩ y:=fun _ h=>h.1 rfl
theorem _root_.Go.Lift.OwnS.one{x:α}{b:Nat}(a:∀x,(f x).length=sz∧0<sz)(c:h[b]? =some (.cells (f x).toArray ty (0,0))):OwnS f sz ty (sb ⟨some ⟨b,0,none⟩,1,1⟩) h ⟨some ⟨b,0,none⟩,1,1⟩ [x]:=
 ⟨rfl,a,ao _,.inr ⟨b,[],rfl,⟨by simp,_,rfl,rfl⟩,by simpa using c,by simp⟩⟩
theorem KU{a:Nat}{z:List Value}{t:α}{b:Nat}{K:SliceV→ad→Prop}(j:OwnS f sz ty (sb so) h so out)(o:h[b]? =some (.cells (f t).toArray ty (0,0))) (d:ce (f t)=true) (hz:z.length=sz) (e:0<a∧a≤64) (k:out.length+1≤1000000)
  (n:∀s' c,OwnS f sz ty (sb s') c s' (out++ [t])→Upd (sb so) h c→(∀y,sb s' y→(sb so y∨h.size≤y)∧y<c.size)→K s' c):
  ∃xs,SRow h (some ⟨b,0,none⟩) (1*sz) xs∧AppP (some z) sz a ty so.a so.len so.cap 1 xs h K:=by
 refine⟨_,((OwnS.one j.ne o).sl (W:=No) fun _ _ _ h=>h).srow,?_⟩
 refine AppP.own (M:=fun y=>sb so y∨h.size≤y) (ys:= [t]) (j.more fun y i=>.inl i) rfl rfl (by simpa using d) hz e.1 ?_ (.inr (ao _)) fun s' c g m=>n s' c g.its (m.mono fun y i=>i) g.sub
 simp only[aK];calc (out.length+1)*a≤1000000*64:=Nat.mul_le_mul k e.2
  _≤140737488355328:=by omega
end
abbrev i1(n:Int):List Value:= [.int .i64 n]
abbrev UH(b:Bool):List Value:= [.bool b]
theorem L8(n:Int):(i1 n).length=1∧0<1:=⟨rfl,by omega⟩
theorem PP(n:Bool):(UH n).length=1∧0<1:=⟨rfl,by omega⟩
abbrev Uj(n:Int)(s1 s2 s3:SliceV):List Value:= [.int .i64 n,.slice s1.a s1.len s1.cap,.slice s2.a s2.len s2.cap,.slice s3.a s3.len s3.cap]
structure R4(h:ad)(rb:Nat)(s1 s2 s3:SliceV)(ids:List Int)(lv:List Bool)(is:List Int):Prop where
 bl:∃n,h[rb]? =some (.cells (Uj n s1 s2 s3).toArray tF (0,0))
 o1:OwnS i1 1 nz (sb s1) h s1 ids
 o2:OwnS UH 1 qm (sb s2) h s2 lv
 o3:OwnS i1 1 nz (sb s3) h s3 is
theorem M4{n:Nat}(L:n≤1000){h:ad}{K:Option Addr→ad→Prop}(E:∀a s1,R4 a h.size s1 ⟨none,0,0⟩ ⟨none,0,0⟩ ((cK n).map fun j=>((j:Nat):Int)+1) [] []→Upd No h a→(∀y,sb s1 y→h.size<y)→K (some ⟨h.size,0,none⟩) a):HC PG Ao [.int .i64 n] [.c .ptr] K h:=by
 refine NM _ ?_;unfold FL bD cV;refine aO fun Q b1 k1=>?_
 have O:=aD b1;refine LoopP.ghost (fun(g:Nat×SliceV) (t:Int) a=>t=(g.1:Int)+1∧g.1≤n∧a[h.size]? =some (.cells (Uj n g.2 ⟨none,0,0⟩ ⟨none,0,0⟩).toArray tF (0,0))∧OwnS i1 1 nz (sb g.2) a g.2 ((cK g.1).map fun j=>((j:Nat):Int)+1)∧Upd No h a∧∀y,sb g.2 y→h.size<y) (fun g=>n-g.1) (0,⟨none,0,0⟩) ⟨rfl,Nat.zero_le _,b1,OwnS.nil L8,k1,fun y c=>absurd c (qn y)⟩ ?_
 rintro I ⟨i,s⟩ t B ⟨rfl,hi,d,x,o,m⟩ D;simp only at hi d x o m⊢;refine aG (fun u=>?_) fun H=>?_
 ·have u:i<n:=by omega
  refine Join.plain ⟨_,rfl,s,vc d 1,aO fun P F p=>?_⟩
  have N:=o.size;have J:=aD d;refine KU (f:=i1) (t:=(i:Int)+1) (b:=B.size) (x.upd p fun _ _ h=>h) F rfl rfl ⟨by omega,by omega⟩ (by simp;omega) fun s' a C k' v=>?_
  refine⟨_,rfl,pB (k'.get (p.get0 d) fun h=>by have:=m _ h;omega) (i:=1) (by simp) rfl fun G w k=>?_⟩
  rw[show IntKind.wrap .i64 ((i:Int)+1+1)=((i+1:Nat):Int)+1 by rw[oq (by omega)];omega]
  have M:=p.size;have z:∀y,sb s' y→h.size<y:=fun y c=>(v y c).1.elim (m y) fun h=>by omega
  refine D (i+1,s') _ _ ⟨rfl,by omega,w,?_,((o.tr p).trans k' fun y c=>.inr (by have:=m y c;omega)).own k (ao _),z⟩ (by show n-(i+1)<n-i;omega)
  have e:((cK (i+1)).map fun j=>((j:Nat):Int)+1)=((cK i).map fun j=>((j:Nat):Int)+1)++ [(i:Int)+1]:=by rw[List.range_succ,List.map_append];rfl
  rw[e];exact C.upd k fun y c A=>by have:=z y c;have A:y=h.size:=A;omega
 ·have q:i=n:=by omega
  subst q;exact E B s ⟨⟨_,d⟩,x,OwnS.nil PP,OwnS.nil L8⟩ o m
theorem Nl{s:ByteArray}{m:Int}(hm:m≤5000){h:ad}{K:ByteArray→ad→Prop}(a:∀s' h',s'.size≤5030→(m≤0→s'=jo s)→Upd No h h'→K s' h'):HC PG iS [.string s,.int .i64 m] [.c .str] K h:=by
 refine DC s m ?_;unfold ya;have e:(if 30<(s.size:Int)then(30:Int)else(s.size:Int))=((min s.size 30:Nat):Int):=by split<;>omega
 rw[e];refine⟨⟨by omega,by omega⟩,?_⟩
 simp only[Bd];rw[aH];have z:(s.extract 0 (min s.size 30)).size≤30:=by rw[dV];omega
 refine aG (fun f=>⟨⟨by omega,Int.le_refl _,by omega,by omega⟩,?_⟩) fun _=>a _ _ (by omega) (fun _=>by unfold jo;rfl) (Upd.refl _ _)
 refine N2 fun d c s3 g b=>⟨s3,b,by omega,a _ d (by rw[ByteArray.size_append];omega) (fun h=>by omega) c⟩
theorem sP{s:ByteArray}{h:ad}{K:ByteArray→ad→Prop}(a:K (jo s) h):HC PG iS [.string s,.int .i64 0] [.c .str] K h:=by
 refine DC s 0 ?_;unfold ya;have e:(if 30<(s.size:Int)then(30:Int)else(s.size:Int))=((min s.size 30:Nat):Int):=by split<;>omega
 rw[e];refine⟨⟨by omega,by omega⟩,?_⟩
 simp only[Bd];rw[aH];refine aj.2 ?_;unfold jo at a;exact a
end Go.Proofs
namespace Go.Proofs
open Go Go.Lift
abbrev T2(sl sm se sx:SliceV)(pb rb:Option Addr):List Value:= [.slice sl.a sl.len sl.cap,.slice sm.a sm.len sm.cap,.slice se.a se.len se.cap,.slice sx.a sx.len sx.cap,.pointer pb,.pointer rb]
abbrev s0:SliceV:=⟨none,0,0⟩
abbrev Ox(b:Nat):SliceV:=⟨some ⟨b,0,none⟩,1,1⟩
abbrev pA(b:Nat):Option Addr:=some ⟨b,0,none⟩
def MX(c:Nat):List Int:=(cK c).map fun j=>((j:Nat):Int)+1
def Td(wb b1 b2 rb:Nat)(s1:SliceV)(y:Nat):Prop:=y=wb∨y=b1∨y=b2∨y=rb∨sb s1 y
structure Made(h h':ad)(kk:Int)(x:Hs)(c:Nat)(t:Tr)(r:Rt)(wb b1 b2 pb cb rb:Nat)(s1:SliceV):Prop where
 cw:h'[wb]? =some (.cells (T2 (Ox b1) (Ox b2) s0 s0 (pA pb) (pA rb)).toArray pa (0,0))
 c1:h'[b1]? =some (.cells (je t).toArray aS (0,0))
 c2:h'[b2]? =some (.cells (mn r).toArray bE (0,0))
 r4:R4 h' rb s1 s0 s0 (MX c) [] []
 wo:Wo (Td wb b1 b2 rb s1) h' pb cb c (MX c) kk x 0 []
 it:TreeIs (Un (Td wb b1 b2 rb s1) cb []) h' kk x t []
 ir:RefIs (Un (Td wb b1 b2 rb s1) cb []) h' kk x r []
 od:wb<b1∧wb<b2∧b1≠b2∧b1<cb∧b2<cb∧pb=cb+1∧pb<rb∧∀y,sb s1 y→rb<y
 mv:Mv No h (Un (Td wb b1 b2 rb s1) cb []) h'
set_option maxRecDepth 100000 in
set_option maxHeartbeats 1000000 in
theorem Nk{h:ad}{k n kk:Int}{x:Hs}(hkk:kk=0∨kk=1)(ek:IntKind.wrap .i64 (ju k 2)=kk){c:Nat}(ec:IntKind.wrap .i64 (1+IntKind.wrap .i64 (ju n 4))=(c:Int))(h1c:1≤c)(h2c:c≤4){K:Option Addr→ad→Prop}
  (hk:∀X t r wb b1 b2 pb cb rb s1,Made h X kk x c t r wb b1 b2 pb cb rb s1→K (pA wb) X):HC PG xF [.int .u8 k,.agg #[.int .u64 x.k0,.int .u64 x.k1,.int .u64 x.mask],.int .u8 n] [.c .ptr] K h:=by
 refine Lh k (x.k0,x.k1,x.mask) n ?_;unfold DW bo ag eD cV nv Ae vM sK JV LA Jk uO BC HR aJ zl5;rw[ek,ec];refine aO fun w b1 k1=>aO fun h2 b2 k2=>?_
 have z1:=aD b1;have z2:=aD b2;have g1:=k2.get0 b1;refine⟨by decide,_,vc g1 0,_,vc g1 1,_,vc g1 2,?_⟩;refine LP (W:=fun y=>y<h2.size) (x:=x) (fun _ h=>h) hkk fun h7 t i7 k7=>Gp (t:=t) fun h9 b9 k9=>?_
 have z9:=aD b9;have g9:=(k7.tr k9).get0 g1;refine⟨by decide,_,vc g9 0,_,vc g9 1,_,vc g9 2,H0 fun L k14=>?_⟩
 have s7:=k7.size;have s14:=k14.size;refine QK (W:=fun y=>y<L.size) (x:=x) hkk fun h16 r j16 k16=>TJ (r:=r) fun d u k18=>?_
 have s16:=k16.size;have z18:=aD u;have g:=k14.tr (k16.tr k18);have s:=g.get0 b9;have w18:=((k7.tr k9).tr g).get0 b2;have n1:w.size≠h7.size∧w.size≠h16.size∧h7.size≠h16.size:=by omega
 have s1:=k1.size;refine Join.intro (fun _ X=>∃b1 b2,X[w.size]? =some (.cells (T2 (Ox b1) (Ox b2) s0 s0 none none).toArray pa (0,0))∧X[b1]? =some (.cells (je t).toArray aS (0,0))∧X[b2]? =some (.cells (mn r).toArray bE (0,0))∧d.size≤b1∧d.size≤b2∧b1≠b2∧Upd (· =w.size) d X) (fun R hR=>?_) ?_
 ·refine⟨_,vc s 0,_,vc s 1,_,vc s 2,_,vc s 3,_,vc s 4,_,vc s 5,_,vc u 0,_,vc u 1,_,vc u 2,_,vc u 3,r.2.2.2.2,vc u 4,⟨?_,?_⟩⟩
  ·refine aO fun h31 M G=>?_
   have z31:=aD M;have z:=G.get0 u;have w31:=G.get0 w18;refine⟨⟨vc z 0,vc z 1,vc z 2,vc z 3,vc z 4⟩,_,rfl,?_,?_⟩
   ·refine aO fun h33 b33 Z=>?_
    have z33:=aD b33;refine pB (Z.get0 w31) (i:=0) (by simp) rfl fun h34 w34 p=>⟨_,rfl,pB w34 (i:=1) (by simp) rfl fun h36 w36 u36=>?_⟩
    exact hR _ _ ⟨d.size,h31.size,w36,u36.oth (p.oth (Z.get0 M) (by omega)) (by omega),u36.oth (p.oth b33 (by omega)) (by omega),ao _,by omega,by omega,((G.tr Z).wide.tr p).tr u36⟩
   ·refine pB w31 (i:=0) (by simp) rfl fun h34 w34 p=>?_
    have E:=p.oth z (by omega);refine⟨⟨vc E 0,vc E 1,vc E 2,vc E 3,vc E 4⟩,aO fun h38 b38 J=>⟨_,rfl,pB (J.get0 w34) (i:=1) (by simp) rfl fun h40 w40 S=>?_⟩⟩
    have z38:=aD b38;have s34:=p.size;exact hR _ _ ⟨d.size,h34.size,w40,S.oth (J.get0 (p.oth M (by omega))) (by omega),S.oth b38 (by omega),ao _,by omega,by omega,((G.wide.tr p).tr J.wide).tr S⟩
  ·refine aO fun h41 b41 N=>?_
   have z41:=aD b41;have A:=N.get0 s;refine⟨⟨vc A 0,vc A 1,vc A 2,vc A 3,vc A 4,vc A 5⟩,aO fun h42 b42 P=>⟨_,rfl,pB (P.get0 (N.get0 w18)) (i:=0) (by simp) rfl fun h44 w44 Y=>⟨_,rfl,pB w44 (i:=1) (by simp) rfl fun h46 w46 T=>?_⟩⟩⟩
   have z42:=aD b42;exact hR _ _ ⟨h41.size,d.size,w46,T.oth (Y.oth b42 (by omega)) (by omega),T.oth (Y.oth (P.get0 b41) (by omega)) (by omega),by omega,ao _,by omega,((N.tr P).wide.tr Y).tr T⟩
 rintro _ B ⟨V,Q,w48,c1,c2,hb1,hb2,hne,I⟩;have zb1:=aD c1;have zb2:=aD c2;have s48:=I.size;refine⟨by decide,CS h1c (by omega) fun h50 C p50=>?_⟩
 have zp:=aD p50.2.1;have w50:=C.get0 w48;refine⟨_,rfl,pB w50 (i:=4) (by simp) rfl fun O w52 q=>⟨by decide,M4 (by omega) fun h54 F r4 o D=>?_⟩⟩
 have s52:=q.size;have zr:=aD r4.bl.choose_spec;refine⟨_,rfl,pB (o.get0 w52) (i:=5) (by simp) rfl fun v w56 m=>?_⟩
 have s54:=o.size;have s56:=m.size;have kw:Upd (· =w.size) h2 v:=((((((k7.tr k9).tr g).wide.tr I).tr C.wide).tr q).tr o.wide).tr m
 have ns:∀{y},sb F y→y≠w.size:=fun f=>by have:=D _ f;omega
 have lts:∀{y},sb F y→y<v.size:=fun f=>by have:=(r4.o1.sub _ f).2;omega
 have un:∀y,Un (Td w.size V Q O.size F) B.size [] y→y=w.size∨d.size≤y:=by
  rintro y ((h|h|h|h|h)|h|⟨e,H,_⟩)
  ·exact .inl h
  ·exact .inr (by omega)
  ·exact .inr (by omega)
  ·exact .inr (by omega)
  ·exact .inr (by have:=D y h;omega)
  ·exact .inr (by omega)
  ·cases H
 have unl:∀y,Un (Td w.size V Q O.size F) B.size [] y→y<v.size:=by
  rintro y ((h|h|h|h|h)|h|⟨e,H,_⟩)
  ·omega
  ·omega
  ·omega
  ·omega
  ·exact lts h
  ·omega
  ·cases H
 have pl:PoolAt v (B.size+1) B.size c (MX c):=((p50.upd q (by omega) (by omega)).upd0 o).upd m (by omega) (by omega);refine hk v t r w.size V Q (B.size+1) B.size O.size F ⟨w56,?_,?_,⟨⟨_,m.oth r4.bl.choose_spec (by omega)⟩,r4.o1.upd m fun y f h=>ns f h,OwnS.nil PP,OwnS.nil L8⟩,⟨pl,by simp[MX,rd],fun y f=>unl y (.inl f),?_,?_,fun e H=>by(cases H),fun e H=>by(cases H),fun i j a b ha=>by(simp at ha)⟩,?_,?_,⟨by omega,by omega,hne,by omega,by omega,rfl,by omega,D⟩,⟨(k1.tr k2).trans kw fun y f=>.inr (by have f:y=w.size:=f;omega),fun y f=>.inr (by rcases un y f with h|h<;>omega)⟩⟩
 ·exact m.oth (o.get0 (q.oth (C.get0 c1) (by omega))) (by omega)
 ·exact m.oth (o.get0 (q.oth (C.get0 c2) (by omega))) (by omega)
 ·rintro(h|h|h|h|h)
  ·omega
  ·omega
  ·omega
  ·omega
  ·have:=D _ h;omega
 ·rintro((h|h|h|h|h)|h|⟨e,H,_⟩)
  ·omega
  ·omega
  ·omega
  ·omega
  ·have:=D _ h;omega
  ·omega
  ·cases H
 ·have i9:TreeIs (fun y=>y<h2.size∨d.size≤y) d kk x t []:=((i7.upd0 k9).upd0 g).less fun y f=>f
  have kr:Upd (· =w.size) d v:=(((I.tr C.wide).tr q).tr o.wide).tr m
  exact(i9.updM kr fun y f=>.inl (.inl (by have f:y=w.size:=f;omega))).less fun y f=>.inl ((un y f).imp (fun h=>by show y<h2.size;omega) id)
 ·have i9:RefIs (fun y=>y<L.size∨d.size≤y) d kk x r []:=(j16.upd0 k18).less fun y f=>f
  have kr:Upd (· =w.size) d v:=(((I.tr C.wide).tr q).tr o.wide).tr m
  exact(i9.updM kr fun y f=>.inl (.inl (by have f:y=w.size:=f;omega))).less fun y f=>.inl ((un y f).imp (fun h=>by show y<L.size;omega) id)
end Go.Proofs
