/- A part of the proof that the named laws of this program answer true, whatever the input. -/
import Derived.Test.YtajpljopgikpgaaGreatDoorPart11
import Derived.Test.YtajpljopgikpgaaGreatDoorPart9
import Derived.Test.YtajpljopgikpgaaGreatDoorPart10
import Derived.Test.YtajpljopgikpgaaGreatDoorPart6
open List renaming length_append→ad,flatMap_append→bq,length_cons→az,getElem?_eq_getElem→af
open Nat renaming le_refl→aj,zero_add→aI,le_trans→aX,mul_le_mul_right→cg,zero_le→aS
open Option renaming isSome_some→kO
namespace Go.Proofs
open Go Go.Lift
theorem QU{c:Nat}:IntKind.wrap .u32 (((2^c%4294967296:Nat):Int)*2)=((2^(c+1)%4294967296:Nat):Int):=by
 rw[IntKind.wrap_u32,Nat.pow_succ];omega
theorem TM{q:List Pr}:(Mw q==(1:Int))=(gL q).isSome:=by
 match q with
 | []=>rfl
 | [a]=>rfl
 |a::b::q=>rw[show Mw (a::b::q)=2 by unfold Mw;rw[if_neg (by simp),if_pos (by simp)]];rfl
theorem TL{q:List Pr}:(Mw q==(2:Int))=(eL q).isSome:=by
 match q with
 | []=>rfl
 | [a]=>rfl
 |a::b::q=>rw[show Mw (a::b::q)=2 by unfold Mw;rw[if_neg (by simp),if_pos (by simp)]];rw[show eL (a::b::q)=some (a::b::q) by unfold eL;rw[if_pos (by simp)]];rfl
def TwoB(n0 a:Nat)(h:ae)(d c:SliceV)(L:List Pr)(B:List UInt8):Prop:=
 ∃M N:Nat→Prop,OwnS eg 2 bX M h d L∧OwnS nX 1 cr N h c B∧(∀b,M b→n0≤b∧b<a∧¬N b)∧∀b,N b→n0≤b∧b<a
theorem TwoB.upd0{n0 c:Nat}{h d:ae}{a b:SliceV}{L:List Pr}{B:List UInt8}(t:TwoB n0 c h a b L B)(k:Upd No h d):TwoB n0 c d a b L B:=by
 obtain⟨M,N,f,e,i,g⟩:=t;exact⟨M,N,f.upd k fun _ _ h=>h,e.upd k fun _ _ h=>h,i,g⟩
theorem TwoB.up{n0 i g:Nat}{h:ae}{d e:SliceV}{L:List Pr}{B:List UInt8}(t:TwoB n0 i h d e L B)(m:i≤g):TwoB n0 g h d e L B:=by
 obtain⟨M,N,k,j,c,f⟩:=t;exact⟨M,N,k,j,fun b a=>⟨(c b a).1,by have:=(c b a).2.1;omega,(c b a).2.2⟩,fun b a=>⟨(f b a).1,by have:=(f b a).2;omega⟩⟩
theorem TwoB.appP{n0 g:Nat}{h:ae}{d k:SliceV}{L:List Pr}{B:List UInt8}{p:Pr}(t:TwoB n0 g h d k L B)(v:n0≤g)(o:g≤h.size)(w:L.length≤1000000){xs:List Value}(hx:xs=eg p){K:SliceV→ae→Prop}
  (u:∀s' c,TwoB n0 c.size c s' k (L++ [p]) B→Upd (fun b=>n0≤b) h c→K s' c):AppP (some [.string (⟨#[]⟩:ByteArray),.string (⟨#[]⟩:ByteArray)]) 2 32 bX d.a d.len d.cap 1 xs h K:=by
 subst hx;obtain⟨M,N,n,m,f,e⟩:=t;refine AppP.own (ys:= [p]) (n.more (M':=fun b=>M b∨h.size≤b) fun _ h=>.inl h) rfl rfl rfl rfl (by omega) (by simp only[List.length_singleton];omega) (.inr (aj _)) fun s' c q i=>?_
 have s:=i.size;refine u s' c ⟨_,N,q.within,m.upd i fun b a hm=>hm.elim (fun hm=>(f b hm).2.2 a) fun hm=>by have:=(e b a).2;omega,fun b a=>⟨?_,a.2,fun j=>?_⟩,fun b a=>⟨(e b a).1,by have:=(e b a).2;omega⟩⟩ (i.mono fun b a=>a.elim (fun a=>.inl (f b a).1) .inr)
 ·rcases a.1 with a|a
  ·exact(f b a).1
  ·omega
 ·rcases a.1 with a|a
  ·exact(f b a).2.2 j
  ·have:=(e b j).2;omega
theorem TwoB.appB{W:Nat→Prop}{n0 i:Nat}{h:ae}{k g e:SliceV}{L:List Pr}{B ys:List UInt8}(t:TwoB n0 i h k g L B)(x:n0≤i)(q:i≤h.size)(p:Sl nX 1 W h e ys)(u:B.length+ys.length≤140737488355328){K:SliceV→ae→Prop}
  (w:∀s' d,TwoB n0 d.size d k s' L (B++ys)→Upd (fun b=>n0≤b) h d→K s' d):∃xs,SRow h e.a (e.len*1) xs∧AppP (some [.int .u8 0]) 1 1 cr g.a g.len g.cap e.len xs h K:=by
 obtain⟨M,N,o,n,c,m⟩:=t;refine wT (M:=fun b=>N b∨h.size≤b) (n.more fun _ h=>.inl h) p (fun _ h=>.inr h) u fun s' d v j=>?_
 have s:=j.size;refine w s' d ⟨M,_,o.upd j fun b a hm=>hm.elim (fun hm=>(c b a).2.2 hm) fun hm=>by have:=(c b a).2.1;omega,v.within,fun b a=>⟨(c b a).1,by have:=(c b a).2.1;omega,fun f=>?_⟩,fun b a=>⟨?_,a.2⟩⟩ (j.mono fun b a=>a.elim (fun a=>.inl (m b a).1) .inr)
 ·rcases f.1 with f|f
  ·exact(c b a).2.2 f
  ·have:=(c b a).2.1;omega
 ·rcases a.1 with a|a
  ·exact(m b a).1
  ·omega
theorem BF{β:Type}(g:Nat→Option β):∀n,(fm g n).length≤n
 |0=>by simp[fm]
 |n+1=>by
  rw[gj,ad];have:=BF g n;cases g n<;>simp<;>omega
theorem Vc{β:Type}(g:Nat→Option β){n m:Nat}(h:n≤m):∃r,fm g m=fm g n++r:=by
 obtain⟨j,rfl⟩:∃j,m=n+j:=⟨m-n,by omega⟩
 clear h;induction j with
 |zero=>exact⟨[],by simp⟩
 |succ j ih=>obtain⟨r,a⟩:=ih;exact⟨r++(g (n+j)).toList,by rw[←Nat.add_assoc,gj,a,List.append_assoc]⟩
set_option maxRecDepth 4000 in
theorem Tv{x:Hs}:∀(m:Nat),m≤13→∀{h:ae} {b:Nat} {l:List Pr},DTrie No x h m b l→Fit l→l.length≤60000→∀{K:SliceV→ae→Prop},(∀s' e,OwnS nX 1 cr (fun y=>h.size≤y) e s' (fC x m l)→Upd No h e→K s' e)→
  HC PG Ai [.pointer (some ⟨b,0,none⟩),.int .i64 ((13-m:Nat):Int)] [.c .slice] K h:=by
 intro m;induction m with
 |zero=>
  intro _ h b l t hf hn K hk;refine K5 (some ⟨b,0,none⟩) ((13-0:Nat):Int) ?_;unfold Fb bR cQ aY jU im lq bD f9;obtain⟨_,⟨sa,sn,sc⟩,Z,hs⟩:=t;obtain rfl:sn=l.length:=hs.len;have g:∀{e:ae} {i:Nat},Upd No h e→i<130→aJ e (adr ⟨b,0,none⟩ i)=some (dF true ⟨sa,l.length,sc⟩ (fun _=> []) (fun _=>none) i):=fun k hi=>by rw[bV,bl (k.get0 Z),aI,EG hi]
  have r0:=Upd.refl No h;have e1:fC x 0 l= [1]++ma l.length 2++jY l:=by unfold fC;simp
  have hpl:=l7 hf;rw[e1]at hk;refine⟨_,rfl,true,g (i:=0) r0 (by omega),ax.2 ⟨_,rfl,⟨sa,l.length,sc⟩,g (i:=1) r0 (by omega),_,rfl,⟨sa,l.length,sc⟩,g (i:=1) r0 (by omega),?_,?_⟩⟩
  ·refine aP fun X b1 k1=>⟨g (i:=1) k1 (by omega),g (i:=1) k1 (by omega),?_⟩
   have o1:=xA (b:=1) b1;refine Dc (n:=l.length) (by omega) fun s2 s C f=>⟨g (i:=1) (k1.tr f) (by omega),g (i:=1) (k1.tr f) (by omega),?_⟩
   have s1:=k1.size;have s2':=f.size;refine wT (o1.upd f fun _ _ h=>h) (C.sl (W:=No) fun _ _ _ h=>h) (fun y d=>by show h.size≤y;omega) (by rw[df];simp) fun s3 w z U=>?_
   have u:Upd No h w:=(k1.tr f).trans U fun y d=>.inr d
   refine⟨g (i:=1) u (by omega),g (i:=1) u (by omega),?_⟩;refine Bt (hs.upd u fun _ h=>h.elim) hf hn fun s4 h4 v o=>⟨g (i:=1) (u.tr o) (by omega),?_⟩
   have s3':=u.size;have H:=o.size;refine wT (z.upd o fun _ _ h=>h) (v.sl (W:=No) fun _ _ _ h=>h) (fun y d=>by show h.size≤y;omega) (by rw[ad,df];simp;omega) fun s5 O E P=>?_
   have V:Upd No h O:=(u.tr o).trans P fun y d=>.inr d
   exact⟨g (i:=1) V (by omega),hk s5 O E V⟩
  ·refine Dc (n:=l.length) (by omega) fun s2 s C f=>⟨g (i:=1) f (by omega),g (i:=1) f (by omega),?_⟩
   refine aP fun X b1 k1=>⟨g (i:=1) (f.tr k1) (by omega),g (i:=1) (f.tr k1) (by omega),?_⟩
   have o1:=xA (b:=1) b1;have s1:=k1.size;have s2':=f.size;refine wT (M:=fun y=>h.size≤y) (o1.more fun y d=>by show h.size≤y;omega) ((C.upd k1 fun _ _ h=>h).sl (W:=No) fun _ _ _ h=>h) (fun y d=>by show h.size≤y;omega) (by rw[df];simp) fun s3 w z U=>?_
   have u:Upd No h w:=(f.tr k1).trans U fun y d=>.inr d
   refine⟨g (i:=1) u (by omega),g (i:=1) u (by omega),?_⟩;refine Bt (hs.upd u fun _ h=>h.elim) hf hn fun s4 h4 v o=>⟨g (i:=1) (u.tr o) (by omega),?_⟩
   have s3':=u.size;have H:=o.size;refine wT (z.upd o fun _ _ h=>h) (v.sl (W:=No) fun _ _ _ h=>h) (fun y d=>by show h.size≤y;omega) (by rw[ad,df];simp;omega) fun s5 O E P=>?_
   have V:Upd No h O:=(u.tr o).trans P fun y d=>.inr d
   exact⟨g (i:=1) V (by omega),hk s5 O E V⟩
 |succ m ih=>
  intro hm h b l t hf hn K hk;refine K5 (some ⟨b,0,none⟩) ((13-(m+1):Nat):Int) ?_;unfold Fb bR cQ aY jU im lq bD f9;obtain⟨_,kk,Z,hkid⟩:=t;have elev:(13-(m+1):Nat)=12-m:=by omega
  rw[elev];obtain⟨q,hq⟩:∃q:Nat→List Pr,q=fun c=>part x (12-m) c l:=⟨_,rfl⟩
  have F:∀c,part x (12-m) c l=q c:=fun c=>by rw[hq]
  rw[←hq]at Z;have g:∀{e:ae} {i j:Nat},Upd No h e→i+j<130→aJ e (adr (adr ⟨b,0,none⟩ i) j)=some (dF false ⟨none,0,0⟩ q kk (i+j)):=fun k hi=>by rw[bV,bV,bl (k.get0 Z),aI,EG hi]
  have g0:aJ h (adr ⟨b,0,none⟩ 0)=some (dF false ⟨none,0,0⟩ q kk 0):=by rw[bV,bl Z,EG (by omega)]
  refine⟨_,rfl,false,g0,al.2 ?_⟩;have hML:∀L∈iA x (12-m) l,2≤L.length∧(fC x m L).length≤9+L.length*(20004+9*(m+1)):=fun L hL=>by
   obtain⟨w,c,rfl⟩:=mE hL;exact⟨w,nK m hf.part⟩
  have htot:((iA x (12-m) l).flatMap (fC x m)).length≤60000*(20004+9*(m+1)+9):=by
   have X:=Da hML;have s:=uv x (12-m) l;exact aX X (cg _ (by omega))
  have hm20:20004+9*(m+1)+9≤20200:=by omega
  have Y:((iA x (12-m) l).flatMap (fC x m)).length≤60000*20200:=aX htot (Nat.mul_le_mul_left _ hm20);have T:∀c,c≤32→((fm (fun j=>eL (q j)) c).flatMap (fC x m)).length≤60000*20200:=fun c hc=>by
   obtain⟨r,hr⟩:=Vc (fun j=>eL (q j)) hc
   have:((fm (fun j=>eL (q j)) 32).flatMap (fC x m)).length≤60000*20200:=by rw[hq];exact Y
   rw[hr,bq,ad]at this;omega
  refine LoopP.ghost (fun(c:Nat) (t:Int×Int×SliceV×SliceV×Int×Int) e=>t.1=((i7 (fun j=>(gL (q j)).isSome) c:Nat):Int)∧t.2.1=((i7 (fun j=>(eL (q j)).isSome) c:Nat):Int)∧t.2.2.2.2.1=((2^c%4294967296:Nat):Int)∧t.2.2.2.2.2=(c:Int)∧c≤32∧
   TwoB h.size e.size e t.2.2.1 t.2.2.2.1 (fm (fun j=>gL (q j)) c) ((fm (fun j=>eL (q j)) c).flatMap (fC x m))∧Upd No h e) (fun c=>32-c) 0 ⟨rfl,rfl,rfl,rfl,by omega,⟨No,No,OwnS.nil g9,OwnS.nil qJ,fun _ h=>h.elim,fun _ h=>h.elim⟩,Upd.refl _ _⟩ ?_
  rintro I c ⟨dt,nt,sl,sk,bt,ct⟩ e ⟨e1,e2,e3,e4,hc32,hT,hu⟩ hI;simp only at e1 e2 e3 e4 hT;subst e1 e2 e3 e4;have s0:=hu.size;have wide:∀{X s:ae},Upd No h X→Upd (fun b=>h.size≤b) X s→Upd No h s:=fun a k=>a.trans k fun y d=>.inr d
  refine aB (fun A=>?_) fun hge=>?_
  ·have A:c<32:=by have:(c:Int)<32:=A;omega
   have ec:(c:Int).toNat*1=c:=by omega
   have ec2:(c:Int).toNat*2=c*2:=by omega
   have hbd:=mo (fun j=>(gL (q j)).isSome) c
   have hbn:=mo (fun j=>(eL (q j)).isSome) c
   have hpw:2^c≤2^31:=Nat.pow_le_pow_right (by omega) (by omega);have Q:2^c%4294967296=2^c:=Nat.mod_eq_of_lt (by omega);have vis:dF false ⟨none,0,0⟩ q kk (2+c)=.int .i64 (Mw (q c)):=by rw[Ot (by omega) (by omega),show 2+c-2=c by omega]
   refine Join.intro (fun(t:Int×SliceV) s=>t.1=((i7 (fun j=>(gL (q j)).isSome) (c+1):Nat):Int)∧TwoB h.size s.size s t.2 sk (fm (fun j=>gL (q j)) (c+1)) ((fm (fun j=>eL (q j)) c).flatMap (fC x m))∧Upd No h s) (fun R hR=>?_) ?_
   ·refine⟨_,rfl,⟨by simp only;omega,by simp only;omega⟩,Mw (q c),?_,?_⟩
    ·simp only[ec];rw[g hu (by omega),vis]
    rw[TM];have G:i7 (fun j=>(gL (q j)).isSome) (c+1)=i7 (fun j=>(gL (q j)).isSome) c+(if(gL (q c)).isSome then 2^c else 0):=rfl
    cases hso:gL (q c)with
    |none=>
     rw[hso]at G;refine al.2 (hR _ _ ⟨by rw[G];rfl,?_,hu⟩);rw[gj,hso];simpa using hT
    |some p=>
     rw[hso]at G;have ep:BD (gL (q c))=p:=by rw[hso];rfl
     refine ax.2 ⟨_,rfl,⟨by simp only;omega,by simp only;omega⟩,p.1,?_,p.2,?_,aP fun s b2 f=>⟨_,kE b2,?_⟩⟩
     ·simp only[ec2];rw[bV,bV,bV,bl (hu.get0 Z),aI,EG (by omega),KE (by omega) (by omega) (by omega),show(34+c*2+0-34)/2=c by omega,ep]
     ·simp only[ec2];rw[bV,bV,bV,bl (hu.get0 Z),aI,EG (by omega),KC (by omega) (by omega) (by omega),show(34+c*2+1-34)/2=c by omega,ep]
     ·have s2:=f.size
      have hl:=BF (fun j=>gL (q j)) c
      refine(hT.upd0 f).appP (p:=p) s0 s2 (by omega) rfl fun s3 w J U=>hR _ _ ⟨?_,?_,wide (hu.tr f) U⟩
      ·rw[G,Q]
       simp only[kO,if_true];rw[IntKind.wrap_u32];omega
      ·rw[gj,hso];exact J
   rintro⟨dt,sl2⟩ s ⟨rfl,hT2,u2⟩;simp only at hT2⊢;have s2:=u2.size;refine Join.intro (fun(t:Int×SliceV) w=>t.1=((i7 (fun j=>(eL (q j)).isSome) (c+1):Nat):Int)∧TwoB h.size w.size w sl2 t.2 (fm (fun j=>gL (q j)) (c+1)) ((fm (fun j=>eL (q j)) (c+1)).flatMap (fC x m))∧Upd No h w) (fun R hR=>?_) ?_
   ·refine⟨_,rfl,⟨by omega,by omega⟩,Mw (q c),?_,?_⟩
    ·rw[ec,g u2 (by omega),vis]
    rw[TL];have G:i7 (fun j=>(eL (q j)).isSome) (c+1)=i7 (fun j=>(eL (q j)).isSome) c+(if(eL (q c)).isSome then 2^c else 0):=rfl
    cases hma:eL (q c)with
    |none=>
     rw[hma]at G;refine al.2 (hR _ _ ⟨by rw[G];rfl,?_,u2⟩);rw[gj (fun j=>eL (q j)),hma];simpa using hT2
    |some L=>
     rw[hma]at G;have hL2:2≤(q c).length∧L=q c:=by
      unfold eL at hma;by_cases s:2≤(q c).length
      ·rw[if_pos s]at hma;exact⟨s,(Option.some.inj hma).symm⟩
      ·rw[if_neg s]at hma;cases hma
     obtain⟨h2l,rfl⟩:=hL2;refine ax.2 (aB (fun _=>?_) fun hx=>absurd (show((12-m:Nat):Int)<13 by omega) hx)
     obtain⟨kb,hkb,td⟩:=hkid c A (by rw[F];exact h2l);rw[F]at td;have hpt:(q c).length≤l.length:=by rw[←F];exact jX
     have hpf:Fit (q c):=by rw[←F];exact hf.part
     have e14:IntKind.wrap .i64 (((12-m:Nat):Int)+1)=((13-m:Nat):Int):=by rw[ji (by omega)];omega
     refine⟨_,rfl,⟨by omega,by omega⟩,some ⟨kb,0,none⟩,?_,?_⟩
     ·rw[ec,g u2 (by omega),KD (by omega),show 98+c-98=c by omega,hkb]
     rw[e14];refine ih (by omega) (DTrie.upd u2 (fun _ h=>h.elim) td) hpf (by omega) fun s4 h4 v o=>?_
     have H:=o.size;have hpr:=T (c+1) (by omega);rw[gj,hma,bq,ad]at hpr;simp only[Option.toList_some,List.flatMap_cons,List.flatMap_nil,List.append_nil]at hpr;refine(hT2.upd0 o).appB s2 H (v.sl (W:=No) fun _ _ _ h=>h) (by omega) fun s5 O hT5 P=>hR _ _ ⟨?_,?_,wide (u2.tr o) P⟩
     ·rw[G,Q]
      simp only[kO,if_true];rw[IntKind.wrap_u32];omega
     ·rw[gj (fun j=>eL (q j)),hma,bq]
      simpa using hT5
   rintro⟨nt,sk2⟩ w ⟨rfl,J,u⟩;simp only at J⊢;rw[cz A (by omega),QU];exact hI (c+1) _ _ ⟨rfl,rfl,rfl,rfl,A,J,u⟩ (by omega)
  ·obtain rfl:c=32:=by have:¬(c:Int)<32:=hge;omega
   have e1:fC x (m+1) l= [0]++ma (i7 (fun j=>(gL (q j)).isSome) 32) 4++ma (i7 (fun j=>(eL (q j)).isSome) 32) 4++jY (fm (fun j=>gL (q j)) 32)++(fm (fun j=>eL (q j)) 32).flatMap (fC x m):=by
    rw[hq];unfold fC;simp[fQ,iA]
   rw[e1]at hk;have hD:=mo (fun j=>(gL (q j)).isSome) 32
   have hN:=mo (fun j=>(eL (q j)).isSome) 32
   have hsf:Fit (fm (fun j=>gL (q j)) 32):=fun p hp=>hf p (pI (x:=x) (lev:=12-m) (by unfold fQ;rw[hq]at hp;exact hp))
   have hsl:=BF (fun j=>gL (q j)) 32
   have hps:=l7 hsf;have hpr:=T 32 (aj _);obtain⟨M,N,o1,o2,hMb,hNb⟩:=hT;generalize i7 (fun j=>(gL (q j)).isSome) 32=D at*
   generalize i7 (fun j=>(eL (q j)).isSome) 32=N' at*
   generalize fm (fun j=>gL (q j)) 32=S at*
   generalize (fm (fun j=>eL (q j)) 32).flatMap (fC x m)=B at*
   have hsS:Sl eg 2 No e sl S:=o1.sl fun _ _ _ h=>h
   have hsB:Sl nX 1 No e sk B:=o2.sl fun _ _ _ h=>h
   refine Join.plain (aP fun X b1 k1=>?_)
   simp only;have ob:=xA (b:=0) b1;refine JK (by omega) fun s2 s C f=>?_
   have s1:=k1.size;have s2':=f.size;refine wT (M:=fun y=>e.size≤y) (ob.upd f fun _ _ h=>h) (C.sl (W:=No) fun _ _ _ h=>h) (fun y d=>by show e.size≤y;omega) (by rw[df];simp) fun s3 w z U=>?_
   have s3':=U.size;refine Join.plain (JK (by omega) fun s4 h4 v o=>?_)
   have H:=o.size;refine wT (M:=fun y=>e.size≤y) (z.upd o fun _ _ h=>h) (v.sl (W:=No) fun _ _ _ h=>h) (fun y d=>by show e.size≤y;omega) (by rw[ad,df,df];simp) fun s5 O E P=>?_
   have s5':=P.size;have V:Upd No e O:=(((k1.tr f).trans U fun y d=>.inr d).tr o).trans P fun y d=>.inr d
   refine Join.plain (Bt (hsS.upd V fun _ h=>h.elim) hsf (by omega) fun s6 h6 ho6 k6=>?_)
   have s6':=k6.size;refine wT (M:=fun y=>e.size≤y) (E.upd k6 fun _ _ h=>h) (ho6.sl (W:=No) fun _ _ _ h=>h) (fun y d=>by show e.size≤y;omega) (by rw[ad,ad,df,df];simp;omega) fun s7 h7 ho7 k7=>?_
   have u7:Upd No e h7:=(V.tr k6).trans k7 fun y d=>.inr d
   refine wT (M:=fun y=>e.size≤y) ho7 (hsB.upd u7 fun _ h=>h.elim) (fun y d=>by have:=u7.size;show e.size≤y;omega) (by rw[ad,ad,ad,df,df];simp;omega) fun s8 h8 ho8 k8=>?_
   refine hk s8 h8 (ho8.more fun y d=>by show h.size≤y;omega) ((hu.tr u7).trans k8 fun y d=>.inr (by omega))
end Go.Proofs
namespace Go.Proofs
open Go Go.Lift
theorem OO{a:Int}{x:Hs}{l:List Pr}{xs:List UInt8}(hv:EU a x l xs)(b:Fit l)(d:l.length≤60000):xs.length≤100000000000:=by
 rcases hv with⟨_,rfl⟩|⟨_,ys,e,rfl⟩
 ·have c:=nK (x:=x) 13 b
  have f:l.length*(20004+9*(13+1))≤60000*(20004+9*(13+1)):=cg _ d;rw[az];omega
 ·have c:=zS e b
  rw[az];omega
theorem Pf{W:Nat→Prop}{x:Hs}{h:ae}{a:Int}{r:Rt}{l:List Pr}(D:a=0∨a=1)(i:RefIs W h a x r l)(S:cx l)(m:Fit l)(B:l.length≤60000){K:SliceV→ae→Prop}
  (N:∀s' h' xs,OwnS nX 1 cr (fun y=>h.size≤y) h' s' xs→EU a x l xs→Upd No h h'→K s' h'):HC PG wL [VI r] [.c .slice] K h:=by
 refine K2 r ?_;unfold CJ bj cS xb Lo dQ lq;obtain⟨s,rfl,C,hc⟩:=i;have C:=C.less (W':=No) fun _ h=>h.elim
 refine aP fun z b1 k1=>⟨_,vc b1 0,?_⟩
 have A:=k1.size;rcases D with rfl|rfl
 ·refine al.2 (aP fun P b3 c=>⟨_,oz (c.get0 b1) 1 0,_,oz (c.get0 b1) 1 1,_,oz (c.get0 b1) 1 2,s,vc (c.get0 b1) 4,?_⟩)
  have J:=xA (b:=0) b3;have q:=k1.tr c;have U:∀v,hx 0 v=v:=fun v=>if_pos rfl
  simp only[U];refine QP (x:=x) (C.upd q fun _ h=>h.elim) B (fun p E=>by have:=m p E;omega) fun T b X f=>?_
  have Z:=c.size;have V:=f.size;refine Tv 13 (aj _) X m B fun Y O e j=>?_
  have G:=j.size;have n:=nK (x:=x) 13 m;have h2:l.length*(20004+9*(13+1))≤60000*(20004+9*(13+1)):=cg _ B;refine wT (M:=fun y=>z.size≤y) ((J.upd f fun _ _ h=>h).upd j fun _ _ h=>h) (e.sl (W:=No) fun _ _ _ h=>h) (fun y d=>by show z.size≤y;omega) (by simp;omega) fun I H g L=>?_
  exact N I H _ (g.more fun y d=>aX A d) (.inl ⟨rfl,rfl⟩) (((q.tr f).tr j).trans L fun y d=>.inr (aX A d))
 ·refine ax.2 (aP fun P b3 c=>⟨s,vc (c.get0 b1) 4,?_⟩)
  have J:=xA (b:=1) b3;have q:=k1.tr c;refine Tp (C.upd q fun _ h=>h.elim) hc S B (fun p E=>by have:=m p E;have:=Mu p.1;show(ky p).length≤_;unfold ky;omega) fun T b w F R k t f=>?_
  have Z:=c.size;have V:=f.size;obtain⟨o,Q⟩:=wF k t m;have u:M4 l (iq ([],w,F)):=⟨w,F,k,t,rfl⟩;have n:=zS u m;refine Oo (lab:= []) (by simp) Q (jA k) (EF o) R rfl (by omega) fun Y O e j=>?_
  have G:=j.size;refine wT (M:=fun y=>z.size≤y) ((J.upd f fun _ _ h=>h).upd j fun _ _ h=>h) (e.sl (W:=No) fun _ _ _ h=>h) (fun y d=>by show z.size≤y;omega) (by simp;omega) fun I H g L=>?_
  exact N I H _ (g.more fun y d=>aX A d) (.inr ⟨rfl,_,u,rfl⟩) (((q.tr f).tr j).trans L fun y d=>.inr (aX A d))
end Go.Proofs
namespace Go.Proofs
open Go Go.Lift
theorem LC{W:Nat→Prop}{x:Hs}{h:ae}{a:Int}{t:Tr}{l:List Pr}(i:TreeIs W h a x t l){K:Option Addr→ae→Prop}(e:∀d c,Upd No h d→(!(Option.isNone c))=(a==0)→K c d):HC PG gl [DG t] [.c .ptr] K h:=by
 rcases i with⟨rfl,b,rfl,g⟩|⟨rfl,b,rfl,_⟩
 ·exact Bl g fun d k=>e d _ k rfl
 ·refine sX _ ?_
  unfold o8 bj aH uU;exact aP fun f b2 j=>Join.plain ⟨_,vc b2 0,al.2 (al.2 ⟨_,vc b2 4,e f _ j rfl⟩)⟩
structure TreeC(h:ae)(kind:Int)(x:Hs)(t:Tr)(l:List Pr):Prop where
 kd:kind=0∨kind=1
 f:t.1=kind∧t.2.1=hx kind x.k0∧t.2.2.1=hx kind x.k1∧t.2.2.2.1=hx kind x.mask
 radix:(!(Option.isNone t.2.2.2.2.2))=(kind==1)
 pairs:∀{h':ae},Upd No h h'→∀{K:SliceV→ae→Prop},(∀s' h2,Sl eg 2 No h2 s' l→Upd No h' h2→K s' h2)→HC PG gk [DG t] [.c .slice] K h'
 len:∀{h':ae},Upd No h h'→∀{K:Int→ae→Prop},(∀h2,Upd No h' h2→K (l.length:Int) h2)→HC PG jn [DG t] [.c (.int .i64)] K h'
 shape:∀{h':ae},Upd No h h'→∀{K:SliceV→ae→Prop},(∀s' h2 xs,EU kind x l xs→OwnS nX 1 cr (fun y=>h'.size≤y) h2 s' xs→Upd No h' h2→K s' h2)→HC PG lD [DG t] [.c .slice] K h'
 canon:∀{h':ae},Upd No h h'→∀{K:Bool→ae→Prop},(∀h2,Upd No h' h2→K true h2)→HC PG lF [DG t] [.c .bool] K h'
 champ:∀{h':ae},Upd No h h'→∀{K:Option Addr→ae→Prop},(∀h2 c,Upd No h' h2→(!(Option.isNone c))=(kind==0)→K c h2)→HC PG gl [DG t] [.c .ptr] K h'
theorem Qv{W:Nat→Prop}{x:Hs}{h:ae}{a:Int}{t:Tr}{l:List Pr}(tb:Tab h)(i:TreeIs W h a x t l)(d:cx l)(e:Fit l)(c:l.length≤60000):TreeC h a x t l where
 kd:=i.imp (fun h=>h.1) fun h=>h.1
 f:=by rcases i with⟨rfl,b,rfl,_⟩|⟨rfl,b,rfl,_⟩<;>simp[hx]
 radix:=by rcases i with⟨rfl,b,rfl,_⟩|⟨rfl,b,rfl,_⟩<;>rfl
 pairs k _ hk:=OW (W':=No) (i.upd0 k) d e c (fun _ h=>h.elim) hk
 len k _ hk:=Td (i.upd0 k) d c hk
 shape k _ hk:=OU (i.upd0 k) d e c hk
 canon k _ hk:=OX (i.upd0 k) (tb.upd k id) d c hk
 champ k _ hk:=LC (i.upd0 k) hk
set_option maxHeartbeats 1000000 in
theorem Mj{W':Nat→Prop}{x:Hs}{h:ae}{d:Int}{t:Tr}{r:Rt}{l:List Pr}(i:TreeC h d x t l)(j:RefIs W' h d x r l)(hr:cx l)(hf:Fit l)(hn:l.length≤60000){K:Bool→ae→Prop}(hk:∀Z,Upd No h Z→K true Z):HC PG nV [DG t,VI r] [.c .bool] K h:=by
 refine Nr t r ?_;unfold Fp cQ bj ag aH aY cS uU Lo zD Qo JU dQ Qm;have hkd:=i.kd;have ht:=i.f;obtain⟨s,er,hs,hc⟩:=j;refine aP fun h1 b1 k1=>aP fun h2 b2 k2=>?_
 have u2:=k1.tr k2;have U:=k2.get0 b1;rw[er]at b2;have j:RefIs W' h d x r l:=⟨s,er,hs,hc⟩;subst er;obtain⟨t1,t2,t3,t4⟩:=ht;refine⟨_,vc U 0,_,vc U 1,_,vc U 2,_,vc U 3,_,vc U 4,_,vc U 5,?_⟩;refine i.pairs u2 fun s9 h10 S9 S=>?_
 have M:=u2.tr S;have m:=S.get0 U;have J:=S.get0 b2;have l9:=S9.len;have Y:=hs.len;refine Join.intro (fun b Z=>b=false∧Upd No h10 Z) (fun R hR'=>?_) ?_
 ·refine⟨_,vc m 0,_,vc m 1,_,vc m 2,_,vc m 3,_,vc m 4,_,vc m 5,_,vc J 0,?_⟩
  refine Jr (t:=t) fun h20 H=>⟨vc (H.get0 J) 0,?_⟩
  have o:=H.get0 m;have N:=H.get0 J;rw[show(t.1 !=d)=false by rw[t1];simp]
  refine al.2 ⟨_,vc o 0,_,vc o 1,_,vc o 2,_,vc o 3,_,vc o 4,_,vc o 5,_,oz N 1 0,_,oz N 1 1,_,oz N 1 2,?_⟩;refine LB (t:=t) fun h31 T=>?_
  have z:=T.get0 N;refine⟨⟨oz z 1 0,oz z 1 1,oz z 1 2⟩,vc z 0,?_⟩;refine Oa (x:=⟨t.2.1,t.2.2.1,t.2.2.2.1⟩) fun h33 P=>?_
  have v:=P.get0 z;have u:=P.get0 (T.get0 o);refine⟨⟨oz v 1 0,oz v 1 1,oz v 1 2⟩,vc v 0,?_⟩;rw[t2,t3,t4,show(!((hx d x.k0==hx d x.k0)&&((hx d x.k1==hx d x.k1)&&((hx d x.mask==hx d x.mask)&&true))))=false by simp]
  refine al.2 ⟨s,vc v 4,?_⟩;rw[l9,Y,show((l.length:Int) !=(l.length:Int))=false by simp]
  refine al.2 ⟨_,vc u 0,_,vc u 1,_,vc u 2,_,vc u 3,_,vc u 4,_,vc u 5,?_⟩;have E:=(H.tr T).tr P;refine i.len (M.tr E) fun h42 G=>?_
  have k:=G.get0 v;have q:=G.get0 u;refine⟨by rw[←Y];exact vc k 4,⟨oz k 1 0,oz k 1 1,oz k 1 2⟩,vc k 0,?_⟩;rw[show((l.length:Int) !=(l.length:Int))=false by simp]
  refine al.2 ⟨_,vc q 0,_,vc q 1,_,vc q 2,_,vc q 3,_,vc q 4,_,vc q 5,_,vc k 0,_,vc k 1,_,vc k 2,_,vc k 3,s,vc k 4,?_⟩;have X:=(M.tr E).tr G;refine i.shape X fun s3 h55 xs hv3 ho3 D=>?_
  have f:=D.get0 k;refine⟨⟨vc f 0,vc f 1,vc f 2,vc f 3,vc f 4⟩,by rw[←Y];exact vc f 4,⟨oz f 1 0,oz f 1 1,oz f 1 2⟩,vc f 0,?_⟩
  refine Pf hkd (j.upd0 (X.tr D)) hr hf hn fun s4 h57 ys ho4 hv4 C=>?_
  have g:=C.get0 f;refine⟨by rw[←Y];exact vc g 4,⟨oz g 1 0,oz g 1 1,oz g 1 2⟩,vc g 0,?_⟩;have exy:xs=ys:=(Qu (fun _=>rfl) hv3 hv4 hf hf hn hn hr hr).2 rfl
  subst exy;have hlx:=OO hv3 hf hn;refine Ph ((ho3.upd C fun _ _ h=>h).sl (W:=No) fun _ _ _ h=>h) (ho4.sl (W:=No) fun _ _ _ h=>h) (by omega) ?_
  have w:=(D.tr C).get0 q;refine⟨by rw[←Y];exact vc g 4,⟨oz g 1 0,oz g 1 1,oz g 1 2⟩,vc g 0,al.2 ⟨_,vc w 0,_,vc w 1,_,vc w 2,_,vc w 3,_,vc w 4,_,vc w 5,?_⟩⟩;have u57:=(X.tr D).tr C;refine i.canon u57 fun h67 k67=>?_
  have B:=k67.get0 g;exact⟨by rw[←Y];exact vc B 4,⟨oz B 1 0,oz B 1 1,oz B 1 2⟩,vc B 0,hR' _ _ ⟨rfl,((E.tr G).tr (D.tr C)).tr k67⟩⟩
 rintro _ h69 ⟨rfl,F⟩;refine al.2 ?_;have S69:=S9.upd F fun _ h=>h.elim
 have hs69:=hs.upd (M.tr F) fun _ h=>h.elim
 refine LoopP.ghost (fun(i:Nat) (t:Int) Z=>t=(i:Int)∧i≤l.length∧Upd No h69 Z) (fun i=>l.length-i) 0 ⟨rfl,aS _,Upd.refl _ _⟩ ?_
 rintro I n tn h72 ⟨rfl,hi,hu⟩ hI;have p:=hu.get0 (F.get0 m);have L:=hu.get0 (F.get0 J);refine aB (fun A=>?_) fun hge=>?_
 ·have A:n<l.length:=by omega
  obtain⟨a,ha,_,hv⟩:=(S69.upd hu fun _ h=>h.elim).at (af A)
  obtain⟨a',ha',_,hw⟩:=(hs69.upd hu fun _ h=>h.elim).at (af A)
  refine⟨⟨by omega,by omega⟩,a,ha,l[n].1,hv 0 _ rfl,l[n].2,hv 1 _ rfl,s,vc L 4,⟨by omega,by omega⟩,a',ha',l[n].1,hw 0 _ rfl,l[n].2,hw 1 _ rfl,?_⟩
  rw[show(!((l[n].1.toList==l[n].1.toList)&&((l[n].2.toList==l[n].2.toList)&&true)))=false by simp]
  refine al.2 ?_;rw[cz A (by omega)];exact hI (n+1) _ _ ⟨rfl,A,hu⟩ (by omega)
 ·have u72:=(M.tr F).tr hu
  refine⟨_,vc p 0,_,vc p 1,_,vc p 2,_,vc p 3,_,vc p 4,_,vc p 5,_,vc L 0,?_⟩;refine i.champ u72 fun h88 c O e=>⟨vc (O.get0 L) 0,?_⟩
  have y:=O.get0 p;have V:=O.get0 L;rw[e,show((d==(0:Int))==(d==(0:Int)))=true by simp]
  refine ax.2 ⟨_,vc y 0,_,vc y 1,_,vc y 2,_,vc y 3,_,vc y 4,_,vc y 5,_,vc V 0,?_⟩;refine OV (t:=t) fun h97 Q=>⟨vc (Q.get0 V) 0,vc (Q.get0 V) 0,?_⟩
  rw[i.radix,show((d==(1:Int))==(d==(1:Int)))=true by simp]
  exact hk h97 ((u72.tr O).tr Q)
theorem xo{W W':Nat→Prop}{x:Hs}{h:ae}{a:Int}{t:Tr}{r:Rt}{l:List Pr}(tb:Tab h)(i:TreeIs W h a x t l)(j:RefIs W' h a x r l)(d:cx l)(c:Fit l)(b:l.length≤60000){K:Bool→ae→Prop}(e:∀h',Upd No h h'→K true h'):HC PG nV [DG t,VI r] [.c .bool] K h:=Mj (Qv tb i d c b) j d c b e
end Go.Proofs
namespace Go.Proofs
open Go Go.Lift
abbrev Ac:=Int×ByteArray×ByteArray×Int×Int×Int
abbrev Qc(a:Ac):List Value:= [.int .u8 a.1,.string a.2.1,.string a.2.2.1,.int .u8 a.2.2.2.1,.int .u16 a.2.2.2.2.1,.int .u16 a.2.2.2.2.2]
abbrev zAc:Ac:=(0,⟨#[]⟩,⟨#[]⟩,0,0,0)
theorem Um{h:ae}{t:TypeId}{a:Ac}{k:ae→Prop}(f:∀h',h'[h.size]? =some (.cells (Qc a).toArray t (0,0))→Upd No h h'→k h'):
  At (hnew h (Qc zAc) t) fun d=>uD d (some (aC h)) 0 (Qc a)∧At (iC d (aC h) 0 (Qc a)) k:=
 aP fun _ b1 k1=>cC (c:=Qc zAc) (vs:=Qc a) b1 rfl fun e b2 b=>f e b2 (k1.own b (aj _))
def Xg(a:Ac):Prop:=(0≤a.1∧a.1≤255)∧(0≤a.2.2.2.1∧a.2.2.2.1≤255)∧(0≤a.2.2.2.2.1∧a.2.2.2.2.1≤65535)∧(0≤a.2.2.2.2.2∧a.2.2.2.2.2≤65535)
theorem Je{l:List Pr}{p:Pr}{n:Nat}(c:cx l)(b:Fit l)(d:l.length≤n)(e:p.1.size≤5030∧p.2.size≤5030):cx (xT l p)∧Fit (xT l p)∧(xT l p).length≤n+1:=by
 unfold xT;split
 ·refine⟨xh p c,fun q a=>?_,aX (BB p) (by omega)⟩
  rcases wx a with rfl|a
  ·exact⟨by omega,by omega⟩
  ·exact b q a
 ·exact⟨c,b,by omega⟩
theorem Kq{l:List Pr}{k:ByteArray}{n:Nat}(b:cx l)(a:Fit l)(d:l.length≤n):cx (Ct l k)∧Fit (Ct l k)∧(Ct l k).length≤n+1:=by
 unfold Ct;split
 ·exact⟨b,a,by omega⟩
 ·exact⟨Pa b,fun q c=>a q (H3.1 c).1,aX RX (by omega)⟩
end Go.Proofs
namespace Go.Proofs
open Go Go.Lift
def Vo(a by_ tb cb y:Nat):Prop:=y=a∨y=by_∨y=tb∨y=cb
structure StO(bu by_ tb cb lo:Nat)(kind:Int)(x:Hs)(t:Tr)(r:Rt)(l0:List Pr)(n:Nat)(h:ae)(tu:Tr)(ru:Rt)(lu:List Pr)(S:Nat→Prop):Prop where
 cu:h[bu]? =some (.cells (lP tu).toArray bF (0,0))
 cy:h[by_]? =some (.cells (vL ru).toArray eR (0,0))
 iu:TreeO (some ⟨tb,0,none⟩) (fun y=>Vo bu by_ tb cb y∨S y) h kind x tu lu S
 it:TreeIs (fun y=>Vo bu by_ tb cb y∨S y) h kind x t l0
 ju:RefIs (fun y=>Vo bu by_ tb cb y∨S y) h kind x ru lu
 jr:RefIs (fun y=>Vo bu by_ tb cb y∨S y) h kind x r l0
 sb:∀y,S y→lo≤y∧y<h.size
 fw:cx lu∧Fit lu∧lu.length≤n
section
variable {bu by_ tb cb lo n:Nat} {kind:Int} {x:Hs} {t tu tu':Tr} {r ru ru':Rt} {l0 lu lu':List Pr} {h h1 h2 h3 h4 h5:ae} {S S':Nat→Prop}
theorem StO.upd0(a:StO bu by_ tb cb lo kind x t r l0 n h tu ru lu S)(k:Upd No h h1):StO bu by_ tb cb lo kind x t r l0 n h1 tu ru lu S:=
 ⟨k.get0 a.cu,k.get0 a.cy,a.iu.upd0 k,a.it.upd0 k,a.ju.upd0 k,a.jr.upd0 k,fun y b=>⟨(a.sb y b).1,by have:=(a.sb y b).2;have:=k.size;omega⟩,a.fw⟩
theorem Ht{W:Nat→Prop}{z:Nat}(b:∀y,S' y→(S y∨z≤y)):∀y,(W y∨S' y)→(W y∨S y)∨z≤y:=fun y a=>a.elim (fun h=>.inl (.inl h)) fun h=>(b y h).elim (fun h=>.inl (.inr h)) .inr
theorem StO.ref(b:StO bu by_ tb cb lo kind x t r l0 n h1 tu ru lu S)(c:Upd S h1 h2)(e:∀y,S' y→(S y∨h1.size≤y)∧y<h2.size)(d:Upd (· =bu) h2 h3):RefIs (fun y=>Vo bu by_ tb cb y∨S' y) h3 kind x ru lu:=
 (((b.ju.less (W':=fun y=>(Vo bu by_ tb cb y∨S y)∨h1.size≤y) fun _ h=>h).updM c fun y a=>.inl (.inl (.inr a))).less fun y a=>.inl (Ht (fun y h=>(e y h).1) y a)).updM d fun y a=>.inl (.inl (.inl a))
theorem StO.step(e:StO bu by_ tb cb lo kind x t r l0 n h1 tu ru lu S)(g:bu<lo∧by_<lo∧bu≠by_∧lo≤h1.size)(f:Upd S h1 h2)(iu:TreeO (some ⟨tb,0,none⟩) (fun y=>(Vo bu by_ tb cb y∨S y)∨S' y) h2 kind x tu' lu' S')(c:∀y,S' y→(S y∨h1.size≤y)∧y<h2.size)
  (b3:h3[bu]? =some (.cells (lP tu').toArray bF (0,0))) (m:Upd (· =bu) h2 h3) (i:Upd No h3 h4) (p:RefIs (fun y=>Vo bu by_ tb cb y∨S' y) h4 kind x ru' lu') (o:h5[by_]? =some (.cells (vL ru').toArray eR (0,0))) (d:Upd (· =by_) h4 h5) (fw:cx lu'∧Fit lu'∧lu'.length≤n+1):StO bu by_ tb cb lo kind x t r l0 (n+1) h5 tu' ru' lu' S':=by
 have v:=f.size;have u:=m.size;have q:=i.size;have s:=d.size;have k:∀y,S' y→lo≤y:=fun y a=>(c y a).1.elim (fun h=>(e.sb y h).1) fun h=>by omega
 have b:Upd (fun y=>y=bu∨y=by_) h2 h5:=((m.mono fun y a=>.inl (.inl a)).tr i.wide).tr (d.mono fun y a=>.inl (.inr a))
 have j:∀y,(y=bu∨y=by_)→Vo bu by_ tb cb y:=fun y a=>a.elim .inl fun h=>.inr (.inl h)
 refine⟨d.get (i.get0 b3) g.2.2.1,o,(iu.less fun y a=>.inl (a.elim (fun h=>.inl (.inl h)) .inr)).upd b (fun y a=>(c y a).2) fun y a=>.inl ⟨.inl (j y a),fun h=>?_⟩,?_,p.updM d fun y a=>.inl (.inl (.inr (.inl a))),?_,fun y a=>⟨k y a,by have:=(c y a).2;omega⟩,fw⟩
 ·have:=k y h
  rcases a with a|a<;>omega
 ·exact(((e.it.less (W':=fun y=>(Vo bu by_ tb cb y∨S y)∨h1.size≤y) fun _ h=>h).updM f fun y a=>.inl (.inl (.inr a))).less fun y a=>.inl (Ht (fun y h=>(c y h).1) y a)).updM b fun y a=>.inl (.inl (j y a))
 ·exact(((e.jr.less (W':=fun y=>(Vo bu by_ tb cb y∨S y)∨h1.size≤y) fun _ h=>h).updM f fun y a=>.inl (.inl (.inr a))).less fun y a=>.inl (Ht (fun y h=>(c y h).1) y a)).updM b fun y a=>.inl (.inl (j y a))
end
end Go.Proofs
namespace Go.Proofs
open Go Go.Lift
theorem MS(s:ByteArray):(lM s).size≤5030:=aX (rP s) (by omega)
set_option maxRecDepth 100000 in
set_option maxHeartbeats 4000000 in
theorem Jl{h:ae}{k:Int}{x:Hs}{s s2 s3:SliceV}{l:List Pr}{G w:List Ac}(tab:Tab h)(hs:Sl eg 2 No h s l)(hl:l.length≤9223372036854775807)(ha:Sl Qc 6 No h s2 G)(hal:G.length≤9223372036854775807)(hz:Sl Qc 6 No h s3 w)(hzl:w.length≤9223372036854775807)(hk0:0≤k)(hk1:k≤255):
  HC PG wO [.int .u8 k,.agg #[.int .u64 x.k0,.int .u64 x.k1,.int .u64 x.mask],.slice s.a s.len s.cap,.slice s2.a s2.len s2.cap,.slice s3.a s3.len s3.cap] [.c .bool] (fun b D=>b=true∧Upd No h D) h:=by
 refine EZ k (x.k0,x.k1,x.mask) s s2 s3 ?_;unfold w7 bR cQ bj ag JF QO aH aY cS eP qg nv Bx xb Dt Lr uU Lo WG WI zD Qo pt OI jU im vJ Hw OM;have hkk:=V9 hk0 hk1;generalize IntKind.wrap .i64 (Int.tmod k 2)=kk at hkk;refine aP fun h1 b1 k1=>MZ fun L k3=>al.2 ?_
 have z1:=aN b1;have c3:=k3.get0 b1;have k03:=k1.tr k3;have Tg:=k03.size;refine Mf (n:=1) (aj _) (by omega) fun H k5 p5=>?_
 have p5':PoolAt H (L.size+1) L.size 1 [1]:=p5;have z5:=aN p5.2.1;refine JS p5' fun h7 k7 p7 t7=>?_
 have z7:=aN t7;have s7:=k7.size;have k37:Upd No L h7:=k5.trans k7 fun y m=>.inr (by have m:y=L.size:=m;omega)
 have k07:=k03.tr k37;have c7:=k37.get0 c3;refine⟨by decide,_,vc c7 0,_,vc c7 1,_,vc c7 2,?_⟩;have hs7:Sl eg 2 (fun y=>y=H.size∨y=L.size) h7 s l:=((hs.less (W':=fun y=>h.size≤y) fun y m=>.inr m).upd k07 fun _ h=>h.elim).less fun y m=>.inl (by show h.size≤y;omega)
 refine TF (W:=fun y=>y=H.size∨y=L.size) (x:=x) hs7 (fun y m=>by omega) hkk hl fun h12 t r it jr k12=>?_
 have s12:=k12.size;refine aP fun h13 b13 k13=>aP fun h14 b14 k14=>?_
 have z13:=aN b13;have z14:=aN b14;refine cC (c:=lP DH) (vs:=lP t) (k14.get0 b13) rfl fun h15 b15 hu15=>?_
 refine cC (c:=vL Qa) (vs:=vL r) (hu15.oth b14 (by omega)) rfl fun Y b16 hu16=>?_
 have k1216:Upd No h12 Y:=((k13.tr k14).own hu15 (aj _)).own hu16 (by omega);have vt:=hu16.oth b15 (by omega);have s16:=k1216.size;have z16:=aN b16;have fl:=Ky l;have k716:=k12.tr k1216;have k016:=k07.tr k716;have p16:=p7.upd0 k716;have t16:TokAt Y H.size (L.size+1) 1 true:=k716.get0 t7;have it16:=it.upd0 k1216;have jr16:=jr.upd0 k1216;refine Join.intro (fun t' D=>∃O by_,t'=(⟨O,0,none⟩,⟨by_,0,none⟩)∧O≠by_∧Y.size≤O∧Y.size≤by_∧D[O]? =some (.cells (lP t).toArray bF (0,0))∧D[by_]? =some (.cells (vL r).toArray eR (0,0))∧Upd No Y D) (fun R hR=>?_) ?_
 ·refine⟨_,vc vt 0,_,vc vt 1,_,vc vt 2,_,vc vt 3,_,vc vt 4,_,vc vt 5,_,vc b16 0,_,vc b16 1,_,vc b16 2,_,vc b16 3,r.2.2.2.2,vc b16 4,?_,?_⟩
  ·refine aP fun h17 b17 k17=>?_
   have y1:=aN b17;have A:=k17.get0 b16;have F:=k17.get0 vt;refine⟨⟨vc A 0,vc A 1,vc A 2,vc A 3,vc A 4⟩,⟨vc F 0,vc F 1,vc F 2,vc F 3,vc F 4,vc F 5⟩,aP fun h18 b18 k18=>?_⟩
   have y2:=aN b18;have A:=k18.get0 A;have F:=k18.get0 F;refine⟨⟨vc A 0,vc A 1,vc A 2,vc A 3,vc A 4⟩,⟨vc F 0,vc F 1,vc F 2,vc F 3,vc F 4,vc F 5⟩,?_⟩;refine cC (c:=lP DH) (vs:=lP t) (k18.get0 b17) rfl fun h19 b19 T=>?_
   have A:=T.oth A (by omega);refine⟨⟨vc A 0,vc A 1,vc A 2,vc A 3,vc A 4⟩,?_⟩;refine cC (c:=vL Qa) (vs:=vL r) (T.oth b18 (by omega)) rfl fun h20 b20 hu20=>?_
   exact hR _ _ ⟨Y.size,h17.size,rfl,by omega,aj _,by omega,hu20.oth b19 (by omega),b20,((k17.tr k18).own T (aj _)).own hu20 (by omega)⟩
  ·refine aP fun h17 b17 k17=>?_
   have y1:=aN b17;have A:=k17.get0 b16;have F:=k17.get0 vt;refine⟨⟨vc A 0,vc A 1,vc A 2,vc A 3,vc A 4⟩,⟨vc F 0,vc F 1,vc F 2,vc F 3,vc F 4,vc F 5⟩,aP fun h18 b18 k18=>?_⟩
   have y2:=aN b18;have A:=k18.get0 A;have F:=k18.get0 F;refine⟨⟨vc A 0,vc A 1,vc A 2,vc A 3,vc A 4⟩,⟨vc F 0,vc F 1,vc F 2,vc F 3,vc F 4,vc F 5⟩,?_⟩;refine cC (c:=lP DH) (vs:=lP t) b18 rfl fun h19 b19 T=>?_
   have A:=T.oth A (by omega);refine⟨⟨vc A 0,vc A 1,vc A 2,vc A 3,vc A 4⟩,?_⟩;refine cC (c:=vL Qa) (vs:=vL r) (T.oth (k18.get0 b17) (by omega)) rfl fun h20 b20 hu20=>?_
   exact hR _ _ ⟨h17.size,Y.size,rfl,by omega,by omega,aj _,hu20.oth b19 (by omega),b20,((k17.tr k18).own T (by omega)).own hu20 (aj _)⟩
 rintro _ hL ⟨O,by_,rfl,hne,hbu,hby,cu,cy,kL⟩;have zu:=aN cu;have zy:=aN cy;have sL:=kL.size;have hW0:∀y,Vo O by_ H.size L.size y→(y=H.size∨y=L.size)∨Y.size≤y:=fun y m=>by
  rcases m with e|e|e|e
  ·exact .inr (by omega)
  ·exact .inr (by omega)
  ·exact .inl (.inl e)
  ·exact .inl (.inr e)
 have iL:TreeIs (fun y=>Vo O by_ H.size L.size y∨No y) hL kk x t (kV l):=((it16.less (W':=fun y=>(y=H.size∨y=L.size)∨Y.size≤y) fun _ h=>h).upd0 kL).less fun y m=>.inl (m.elim (hW0 y) fun h=>h.elim)
 have jL:RefIs (fun y=>Vo O by_ H.size L.size y∨No y) hL kk x r (kV l):=((jr16.less (W':=fun y=>(y=H.size∨y=L.size)∨Y.size≤y) fun _ h=>h).upd0 kL).less fun y m=>.inl (m.elim (hW0 y) fun h=>h.elim)
 have st0:StO O by_ H.size L.size hL.size kk x t r (kV l) 25 hL t r (kV l) No:=⟨cu,cy,zG iL,iL,jL,jL,fun _ h=>h.elim,fl.up,fl.fits,fl.len⟩
 have hlo:O<hL.size∧by_<hL.size∧O≠by_:=⟨zu,zy,hne⟩;have pL:=p16.upd0 kL;have tL:TokAt hL H.size (L.size+1) 1 true:=kL.get0 t16;have k0L:=k016.tr kL;refine LoopP.ghost (fun(g:Nat×Tr×Rt×List Pr×(Nat→Prop)) (t':Int) D=>t'=(g.1:Int)∧g.1≤G.length∧StO O by_ H.size L.size hL.size kk x t r (kV l) (25+min g.1 25) D g.2.1 g.2.2.1 g.2.2.2.1 g.2.2.2.2∧Upd (fun y=>y=O∨y=by_) hL D) (fun g=>G.length-g.1) (0,t,r,kV l,No) ⟨rfl,aS _,st0,Upd.refl _ _⟩ ?_
 rintro I ⟨i,tu,ru,lu,S⟩ ti h34 ⟨rfl,hil,st,ku⟩ hI;simp only at hil st ku hI⊢;have u0:Upd No h h34:=k0L.trans ku fun y m=>.inr (by omega)
 have s34:=ku.size;refine aB (fun hlt=>?_) fun hge=>?_
 ·have hlt:i<G.length:=by have:=ha.len;omega
  refine Join.intro (fun _ D=>∃M N V S',StO O by_ H.size L.size hL.size kk x t r (kV l) (25+min (i+1) 25) D M N V S'∧Upd (fun y=>y=O∨y=by_) hL D) (fun R hR=>?_) ?_
  ·obtain⟨a,hav,_,hv⟩:=(ha.upd u0 fun _ h=>h.elim).at (af hlt)
   refine⟨⟨by omega,by have:=ha.len;omega⟩,a,hav,_,hv 0 _ rfl,_,hv 1 _ rfl,_,hv 2 _ rfl,_,hv 3 _ rfl,_,hv 4 _ rfl,_,hv 5 _ rfl,Um (a:=G[i]) fun h44 b44 k44=>?_⟩
   generalize G[i]=ac at b44;have st44:=st.upd0 k44;have ku44:=ku.tr k44.wide;have z44:=aN b44;have s44:=k44.size;refine aB (fun h25=>?_) fun h25=>?_
   ·have h25:i<25:=by omega
    refine Join.intro (fun t' D=>∃b,t'=⟨b,0,none⟩∧D[b]? =some (.cells (eg (lM ac.2.1,lM ac.2.2.1)).toArray ar (0,0))∧h44.size≤b∧Upd No h44 D) (fun R3 hR3=>?_) ?_
    ·refine⟨_,oz b44 1 0,_,oz b44 1 1,?_,?_⟩
     ·refine rd ⟨oz b44 1 1,?_,?_⟩
      ·refine rd (aP fun h51 b51 k51=>cC (c:=eg Hl) (vs:=eg (lM ac.2.1,lM ac.2.2.1)) b51 rfl fun X b52 hu52=>hR3 _ _ ⟨h44.size,rfl,b52,aj _,k51.own hu52 (aj _)⟩)
      ·exact aP fun h51 b51 k51=>⟨oz (k51.get0 b44) 1 1,rd (cC (c:=eg Hl) (vs:=eg (lM ac.2.1,lM ac.2.2.1)) b51 rfl fun X b52 hu52=>hR3 _ _ ⟨h44.size,rfl,b52,aj _,k51.own hu52 (aj _)⟩)⟩
     ·refine aP fun h51 b51 k51=>?_
      have d:=k51.get0 b44;exact⟨oz d 1 1,oz d 1 0,rd ⟨oz d 1 1,rd (cC (c:=eg Hl) (vs:=eg (lM ac.2.1,lM ac.2.2.1)) b51 rfl fun X b52 hu52=>hR3 _ _ ⟨h44.size,rfl,b52,aj _,k51.own hu52 (aj _)⟩)⟩⟩
    rintro _ X ⟨bp,rfl,Q,hbp,k52⟩;have f:=st44.upd0 k52;have b52:=k52.get0 b44;have ku52:=ku44.tr k52.wide;have s52:=k52.size;have zp:=aN Q;have hp1:((lM ac.2.1,lM ac.2.2.1):Pr).1.size≤5030∧((lM ac.2.1,lM ac.2.2.1):Pr).2.size≤5030:=⟨MS _,MS _⟩;generalize ((lM ac.2.1,lM ac.2.2.1):Pr)=p at Q hp1;have tk:TokAt X H.size (L.size+1) 1 true:=ku52.get tL (by omega)
    have cc:Can (some ⟨H.size,0,none⟩) (some ⟨H.size,0,none⟩) (fun y=>Vo O by_ H.size L.size y∨S y) S X:=⟨tk.by_,fun y m=>by
     rcases m with(e|e|e|e)|e
     ·omega
     ·omega
     ·omega
     ·omega
     ·exact(f.sb y e).2,fun y m=>.inr m,fun a e=>by cases e;exact .inl (.inr (.inr (.inl rfl))),fun a e hS=>by
      cases e
      have:=(f.sb _ hS).1
      simp only at this
      omega⟩
    have hln:lu.length≤1000000:=by have:=f.fw.2.2;omega
    have n25:25+min (i+1) 25=25+min i 25+1:=by omega
    have hlo2:O<hL.size∧by_<hL.size∧O≠by_∧hL.size≤X.size:=⟨zu,zy,hne,by omega⟩
    have nS:∀{S':Nat→Prop} {z:Nat},X.size≤z→(∀y,S' y→(S y∨X.size≤y)∧y<z)→∀y,(Vo O by_ H.size L.size y∨S' y)→y<z:=fun hz hs y m=>by
     rcases m with(e|e|e|e)|e
     ·omega
     ·omega
     ·omega
     ·omega
     ·exact(hs y e).2
    have nb:∀{b:Nat},b<hL.size→¬S b:=fun hb hS=>by have:=(f.sb _ hS).1;omega
    have fin:∀{h62 h63:ae} {M:Tr} {S':Nat→Prop} {V:List Pr} {h71:ae} {N:Rt} {h72:ae},Upd S X h62→TreeO (some ⟨H.size,0,none⟩) (fun y=>(Vo O by_ H.size L.size y∨S y)∨S' y) h62 kk x M V S'→(∀y,S' y→(S y∨X.size≤y)∧y<h62.size)→h63[O]? =some (.cells (lP M).toArray bF (0,0))→Upd (· =O) h62 h63→Upd No h63 h71→RefIs (fun y=>Vo O by_ H.size L.size y∨S' y) h71 kk x N V→h72[by_]? =some (.cells (vL N).toArray eR (0,0))→Upd (· =by_) h71 h72→(cx V∧Fit V∧V.length≤25+min i 25+1)→R () h72:=fun{h62 h63 M S' V h71 N h72} C i62 B b63 E k71 j71 b72 u72 fw=>by
     refine hR _ _ ⟨M,N,V,S',?_,?_⟩
     ·rw[n25]
      exact f.step hlo2 C i62 B b63 E k71 j71 b72 u72 fw
     ·exact(((ku52.trans C fun y m=>.inr (f.sb y m).1).trans E fun y m=>.inl (.inl m)).tr k71.wide).trans u72 fun y m=>.inl (.inr m)
    refine⟨_,vc b52 0,by decide,CondP.intro (fun _=>?_) fun _=>?_⟩
    ·have o:=f.cu
     refine⟨_,vc o 0,_,vc o 1,_,vc o 2,_,vc o 3,_,vc o 4,_,vc o 5,p.1,vc Q 0,?_⟩;refine zK f.iu cc f.fw.1 f.fw.2.1 hln p.1 fun h62 M S' C i62 B _=>?_
     have s62:=C.size;refine cC (c:=lP tu) (vs:=lP M) (C.get o (nb zu)) rfl fun h63 b63 E=>?_
     have v:=E.oth (C.get f.cy (nb zy)) (Ne.symm hne);have s63:=E.size;have bp63:=E.oth (C.get Q fun hS=>by have:=(st44.sb _ hS).2;omega) (by omega)
     refine⟨_,vc v 0,_,vc v 1,_,vc v 2,_,vc v 3,ru.2.2.2.2,vc v 4,p.1,vc bp63 0,?_⟩;refine HL (f.ref C B E) (nS (by omega) fun y m=>⟨(B y m).1,by have:=(B y m).2;omega⟩) f.fw.1 f.fw.2.1 hln p.1 fun h71 N j71 k71=>?_
     refine cC (c:=vL ru) (vs:=vL N) (k71.get0 v) rfl fun h72 b72 u72=>?_
     exact fin C i62 B b63 E k71 j71 b72 u72 (Kq f.fw.1 f.fw.2.1 f.fw.2.2)
    ·have o:=f.cu
     refine⟨_,vc o 0,_,vc o 1,_,vc o 2,_,vc o 3,_,vc o 4,_,vc o 5,p.1,vc Q 0,p.2,vc Q 1,?_⟩;refine Bk f.iu cc f.fw.1 hln p fun h62 M S' C i62 B _=>?_
     have s62:=C.size;refine cC (c:=lP tu) (vs:=lP M) (C.get o (nb zu)) rfl fun h63 b63 E=>?_
     have v:=E.oth (C.get f.cy (nb zy)) (Ne.symm hne);have s63:=E.size;have bp63:=E.oth (C.get Q fun hS=>by have:=(st44.sb _ hS).2;omega) (by omega)
     refine⟨_,vc v 0,_,vc v 1,_,vc v 2,_,vc v 3,ru.2.2.2.2,vc v 4,p.1,vc bp63 0,p.2,vc bp63 1,?_⟩;refine Pd (f.ref C B E) (nS (by omega) fun y m=>⟨(B y m).1,by have:=(B y m).2;omega⟩) f.fw.1 hln p fun h71 N j71 k71=>?_
     refine cC (c:=vL ru) (vs:=vL N) (k71.get0 v) rfl fun h72 b72 u72=>?_
     exact fin C i62 B b63 E k71 j71 b72 u72 (Je f.fw.1 f.fw.2.1 f.fw.2.2 hp1)
   ·refine hR _ _ ⟨tu,ru,lu,S,?_,ku44⟩
    have e:25+min (i+1) 25=25+min i 25:=by omega
    rw[e];exact st44
  ·rintro _ D ⟨M,N,V,S',st',ku'⟩
   rw[rB hlt (by omega)];exact hI (i+1,M,N,V,S') _ _ ⟨rfl,hlt,st',ku'⟩ (by show G.length-(i+1)<G.length-i;omega)
 ·have tk34:TokAt h34 H.size (L.size+1) 1 true:=ku.get tL (by omega)
  have zpb:=aN pL.2.1;have p34:=pL.upd ku (by omega) (by omega);have vt34:=ku.get (kL.get0 vt) (by omega);have vr34:=ku.get (kL.get0 b16) (by omega);have tab34:=tab.upd u0 id;refine Join.intro (fun t' D=>t'=false∧Upd No h34 D) (fun R hR=>?_) ?_
  ·have cu34:=st.cu
   have cy34:=st.cy;refine⟨_,vc cu34 0,_,vc cu34 1,_,vc cu34 2,_,vc cu34 3,_,vc cu34 4,_,vc cu34 5,_,vc cy34 0,_,vc cy34 1,_,vc cy34 2,_,vc cy34 3,ru.2.2.2.2,vc cy34 4,?_⟩;refine xo tab34 (st.iu.read tk34.by_) st.ju st.fw.1 st.fw.2.1 (by have:=st.fw.2.2;omega) fun h35 k35=>al.2 ?_
   have vt35:=k35.get0 vt34;have vr35:=k35.get0 vr34;refine⟨_,vc vt35 0,_,vc vt35 1,_,vc vt35 2,_,vc vt35 3,_,vc vt35 4,_,vc vt35 5,_,vc vr35 0,_,vc vr35 1,_,vc vr35 2,_,vc vr35 3,r.2.2.2.2,vc vr35 4,?_⟩;exact xo (tab34.upd k35 id) (st.it.upd0 k35) (st.jr.upd0 k35) fl.up fl.fits (by have:=fl.len;omega) fun h36 k36=>hR _ _ ⟨rfl,k35.tr k36⟩
  rintro _ h37 ⟨rfl,k37⟩;refine al.2 ?_;have K:=st.upd0 k37;refine L8 (p34.upd0 k37) (show TokAt h37 H.size (L.size+1) 1 true from k37.get0 tk34) (by simp) fun u Z p38 t38=>?_
  have u37:=u0.tr k37;have s37:=k37.size;have s38:=Z.size;have u38:Upd No h u:=u37.trans Z fun y m=>.inr (by rcases m with e|e<;>omega)
  have hV:∀y,(y=L.size∨y=H.size)→Vo O by_ H.size L.size y:=fun y m=>m.elim (fun h=>.inr (.inr (.inr h))) fun h=>.inr (.inr (.inl h))
  have U:=Z.get K.cu (by omega);have cy38:=Z.get K.cy (by omega);have vt38:=Z.get (k37.get0 vt34) (by omega);have vr38:=Z.get (k37.get0 vr34) (by omega);have iu38:TreeIs No u kk x tu lu:=(K.iu.upd Z (fun y m=>(K.sb y m).2) fun y m=>.inl ⟨.inl (hV y m),fun hS=>by have:=(K.sb y hS).1;omega⟩).freeze (W':=No) (fun _ h=>h.elim) (fun a e=>by cases e;exact⟨id,_,_,t38,by simp⟩) fun _ _ h=>h
  have it38:TreeIs No u kk x t (kV l):=(K.it.updM Z fun y m=>.inl (.inl (hV y m))).less fun _ h=>h.elim
  have ju38:RefIs No u kk x ru lu:=(K.ju.updM Z fun y m=>.inl (.inl (hV y m))).less fun _ h=>h.elim
  have jr38:RefIs No u kk x r (kV l):=(K.jr.updM Z fun y m=>.inl (.inl (hV y m))).less fun _ h=>h.elim
  refine⟨_,vc U 0,_,vc U 1,_,vc U 2,_,vc U 3,_,vc U 4,_,vc U 5,U0 (t:=tu) fun h40 b40 k40=>?_⟩
  have zb:=aN b40;have i40:TreeIs (· =u.size) h40 kk x tu lu:=((iu38.less (W':=fun y=>u.size≤y) fun y m=>.inr m).upd0 k40).less fun y m=>.inl (by show u.size≤y;have m:y=u.size:=m;omega)
  refine LoopP.ghost (fun(g:Nat×Tr×List Pr) (t':Int) D=>t'=(g.1:Int)∧g.1≤w.length∧D[u.size]? =some (.cells (lP g.2.1).toArray bF (0,0))∧TreeIs (· =u.size) D kk x g.2.1 g.2.2∧(cx g.2.2∧Fit g.2.2∧g.2.2.length≤50+2*min g.1 15)∧Upd No u D) (fun g=>w.length-g.1) (0,tu,lu) ⟨rfl,aS _,b40,i40,⟨st.fw.1,st.fw.2.1,by have:=st.fw.2.2;simp only;omega⟩,k40⟩ ?_
  rintro I ⟨j,tv,lv⟩ tj h73 ⟨rfl,hjl,cv,iv,fv,kv⟩ hI;simp only at hjl cv iv fv kv hI⊢;have s73:=kv.size;have zv:=aN cv;refine aB (fun hlt=>?_) fun hge=>?_
  ·have hlt:j<w.length:=by have:=hz.len;omega
   refine Join.intro (fun _ D=>∃tv' lv',D[u.size]? =some (.cells (lP tv').toArray bF (0,0))∧TreeIs (· =u.size) D kk x tv' lv'∧(cx lv'∧Fit lv'∧lv'.length≤50+2*min (j+1) 15)∧Upd No u D) (fun R hR=>?_) ?_
   ·obtain⟨a,hav,_,hv⟩:=(hz.upd (u38.tr kv) fun _ h=>h.elim).at (af hlt)
    refine⟨⟨by omega,by have:=hz.len;omega⟩,a,hav,_,hv 0 _ rfl,_,hv 1 _ rfl,_,hv 2 _ rfl,_,hv 3 _ rfl,_,hv 4 _ rfl,_,hv 5 _ rfl,Um (a:=w[j]) fun h83 b83 k83=>?_⟩
    generalize w[j]=ac at b83;have q:=k83.get0 cv;have kv83:=kv.tr k83;refine aB (fun h15=>?_) fun h15=>?_
    ·have h15:j<15:=by omega
     refine⟨_,vc q 0,_,vc q 1,_,vc q 2,_,vc q 3,_,vc q 4,_,vc q 5,_,oz b83 1 0,_,oz b83 1 1,?_⟩;refine rd ⟨oz b83 1 1,⟨vc q 0,vc q 1,vc q 2,vc q 3,vc q 4,vc q 5⟩,?_⟩;refine Re (by omega) fun sv h95 hsv k95=>?_
     have P:=k95.get0 q;have kv95:=kv83.tr k95;refine⟨⟨vc P 0,vc P 1,vc P 2,vc P 3,vc P 4,vc P 5⟩,?_⟩;have can:∀{D:ae},Upd No u D→u.size<D.size→Can none (some ⟨H.size,0,none⟩) (· =u.size) No D:=fun k hz=>⟨(show By u (some ⟨H.size,0,none⟩) none from t38.by_).upd0 k,fun y m=>by have m:y=u.size:=m;omega,fun _ h=>h.elim,fun _ e=>(by cases e),fun _ _ h=>h⟩
     have s95:=(k83.tr k95).size;refine Bk (zG ((iv.upd0 k83).upd0 k95)) (can kv95 (by omega)) fv.1 (by have:=fv.2.2;omega) (lM ac.2.1,sv) fun h97 tw Sw k97 iw _ _=>?_
     have iw:=iw.nil;have fw:=Je fv.1 fv.2.1 fv.2.2 (p:=(lM ac.2.1,sv)) ⟨MS _,hsv⟩;have s97:=k97.size;refine cC (c:=lP tv) (vs:=lP tw) (k97.get0 P) rfl fun h98 J u98=>?_
     have s98:=u98.size;have kv98:Upd No u h98:=(kv95.tr k97).own u98 (aj _);have iw98:=iw.updM u98 fun y m=>.inl m
     have bk98:=u98.oth (k97.get0 (k95.get0 b83)) (by omega);refine⟨_,vc J 0,_,vc J 1,_,vc J 2,_,vc J 3,_,vc J 4,_,vc J 5,_,oz bk98 1 0,?_⟩;refine rd ⟨⟨vc J 0,vc J 1,vc J 2,vc J 3,vc J 4,vc J 5⟩,?_⟩;refine zK (zG iw98) (can kv98 (by omega)) fw.1 fw.2.1 (by have:=fw.2.2;omega) (lM ac.2.1) fun h99 tz Sz k99 iz _ _=>?_
     have iz:=iz.nil;have fz:=Kq (k:=lM ac.2.1) fw.1 fw.2.1 fw.2.2;refine cC (c:=lP tw) (vs:=lP tz) (k99.get0 J) rfl fun h100 b100 u100=>?_
     exact hR _ _ ⟨tz,_,b100,iz.updM u100 fun y m=>.inl m,⟨fz.1,fz.2.1,by have:=fz.2.2;omega⟩,(kv98.tr k99).own u100 (aj _)⟩
    ·exact hR _ _ ⟨tv,lv,q,iv.upd0 k83,⟨fv.1,fv.2.1,by have:=fv.2.2;omega⟩,kv83⟩
   ·rintro _ D ⟨tv',lv',cv',iv',fv',kv'⟩
    rw[rB hlt (by omega)];exact hI (j+1,tv',lv') _ _ ⟨rfl,hlt,cv',iv',fv',kv'⟩ (by show w.length-(j+1)<w.length-j;omega)
  ·have cu73:=kv.get0 U
   have cy73:=kv.get0 cy38;have tab73:=(tab.upd u38 id).upd kv id;refine⟨_,vc cu73 0,_,vc cu73 1,_,vc cu73 2,_,vc cu73 3,_,vc cu73 4,_,vc cu73 5,_,vc cy73 0,_,vc cy73 1,_,vc cy73 2,_,vc cy73 3,ru.2.2.2.2,vc cy73 4,?_⟩;refine xo tab73 (iu38.upd0 kv) (ju38.upd0 kv) st.fw.1 st.fw.2.1 (by have:=st.fw.2.2;omega) fun h74 k74=>ax.2 ?_
   have vt74:=(kv.tr k74).get0 vt38;have vr74:=(kv.tr k74).get0 vr38;refine⟨_,vc vt74 0,_,vc vt74 1,_,vc vt74 2,_,vc vt74 3,_,vc vt74 4,_,vc vt74 5,_,vc vr74 0,_,vc vr74 1,_,vc vr74 2,_,vc vr74 3,r.2.2.2.2,vc vr74 4,?_⟩;exact xo (tab73.upd k74 id) (it38.upd0 (kv.tr k74)) (jr38.upd0 (kv.tr k74)) fl.up fl.fits (by have:=fl.len;omega) fun h75 k75=>⟨rfl,u38.tr ((kv.tr k74).tr k75)⟩
end Go.Proofs
