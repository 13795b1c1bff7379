/- A part of the proof that the named laws of this program answer true, whatever the input. -/
import Derived.Test.YtajpljopgikpgaaGreatDoorPart11
import Derived.Test.YtajpljopgikpgaaGreatDoorPart9
import Derived.Test.YtajpljopgikpgaaGreatDoorPart10
import Derived.Test.YtajpljopgikpgaaGreatDoorPart8
import Derived.Test.YtajpljopgikpgaaGreatDoorPart6
open ByteArray renaming mk→kO
open List renaming length_singleton→aF,length_append→ad,flatMap_append→bN,length_cons→aH,mem_singleton→au,mem_of_getElem?→aE,getElem?_of_mem→iU,getElem?_eq_some_iff→aG,getElem?_set_ne→fj
open List.Pairwise renaming nil→fc
open Nat renaming le_refl→ao,zero_add→aU,le_trans→bv,mul_le_mul_right→cD,lt_of_lt_of_le→bG,lt_or_ge→bO,le_succ→gI
open Option renaming isSome_some→ma
namespace Go.Proofs
open Go Go.Lift
theorem VC{c:Nat}:IntKind.wrap .u32 (((2^c%4294967296:Nat):Int)*2)=((2^(c+1)%4294967296:Nat):Int):=by
 rw[IntKind.wrap_u32,Nat.pow_succ];omega
theorem Ym{q:List Pr}:(Ql q==(1:Int))=(il q).isSome:=by
 match q with
 | []=>rfl
 | [a]=>rfl
 |a::b::q=>rw[show Ql (a::b::q)=2 by unfold Ql;rw[if_neg (by simp),if_pos (by simp)]];rfl
theorem Yl{q:List Pr}:(Ql q==(2:Int))=(fu q).isSome:=by
 match q with
 | []=>rfl
 | [a]=>rfl
 |a::b::q=>rw[show Ql (a::b::q)=2 by unfold Ql;rw[if_neg (by simp),if_pos (by simp)]];rw[show fu (a::b::q)=some (a::b::q) by unfold fu;rw[if_pos (by simp)]];rfl
def TwoB(n0 a:Nat)(h:af)(d c:SliceV)(L:List Pr)(B:List UInt8):Prop:=
 ∃M N:Nat→Prop,OwnS fe 2 cn M h d L∧OwnS pW 1 cK N h c B∧(∀b,M b→n0≤b∧b<a∧¬N b)∧∀b,N b→n0≤b∧b<a
theorem TwoB.upd0{n0 b:Nat}{h d:af}{c a:SliceV}{L:List Pr}{B:List UInt8}(t:TwoB n0 b h c a L B)(k:Upd No h d):TwoB n0 b d c a L B:=by
 obtain⟨M,N,g,f,j,i⟩:=t;exact⟨M,N,g.upd k fun _ _ h=>h,f.upd k fun _ _ h=>h,j,i⟩
theorem TwoB.up{n0 g j:Nat}{h:af}{f d:SliceV}{L:List Pr}{B:List UInt8}(t:TwoB n0 g h f d L B)(n:g≤j):TwoB n0 j h f d L B:=by
 obtain⟨M,N,m,k,c,i⟩:=t;exact⟨M,N,m,k,fun b a=>⟨(c b a).1,by have:=(c b a).2.1;omega,(c b a).2.2⟩,fun b a=>⟨(i b a).1,by have:=(i b a).2;omega⟩⟩
theorem TwoB.appP{n0 j:Nat}{h:af}{d m:SliceV}{L:List Pr}{B:List UInt8}{p:Pr}(t:TwoB n0 j h d m L B)(w:n0≤j)(n:j≤h.size)(y:L.length≤1000000){xs:List Value}(hx:xs=fe p){K:SliceV→af→Prop}
  (o:∀s' c,TwoB n0 c.size c s' m (L++ [p]) B→Upd (fun b=>n0≤b) h c→K s' c):AppP (some [.string (⟨#[]⟩:ByteArray),.string (⟨#[]⟩:ByteArray)]) 2 32 cn d.a d.len d.cap 1 xs h K:=by
 subst hx;obtain⟨M,N,u,q,g,f⟩:=t;refine AppP.own (ys:= [p]) (u.more (M':=fun b=>M b∨h.size≤b) fun _ h=>.inl h) rfl rfl rfl rfl (by omega) (by simp only[aF];omega) (.inr (ao _)) fun s' c v i=>?_
 have s:=i.size;refine o s' c ⟨_,N,v.within,q.upd i fun b a hm=>hm.elim (fun hm=>(g b hm).2.2 a) fun hm=>by have:=(f b a).2;omega,fun b a=>⟨?_,a.2,fun k=>?_⟩,fun b a=>⟨(f b a).1,by have:=(f b a).2;omega⟩⟩ (i.mono fun b a=>a.elim (fun a=>.inl (g b a).1) .inr)
 ·rcases a.1 with a|a
  ·exact(g b a).1
  ·omega
 ·rcases a.1 with a|a
  ·exact(g b a).2.2 k
  ·have:=(f b k).2;omega
theorem TwoB.appB{W:Nat→Prop}{n0 j:Nat}{h:af}{k g e:SliceV}{L:List Pr}{B ys:List UInt8}(t:TwoB n0 j h k g L B)(y:n0≤j)(n:j≤h.size)(o:Sl pW 1 W h e ys)(q:B.length+ys.length≤140737488355328){K:SliceV→af→Prop}
  (p:∀s' c,TwoB n0 c.size c k s' L (B++ys)→Upd (fun b=>n0≤b) h c→K s' c):∃xs,SRow h e.a (e.len*1) xs∧AppP (some [.int .u8 0]) 1 1 cK g.a g.len g.cap e.len xs h K:=by
 obtain⟨M,N,v,u,d,m⟩:=t;refine zv (M:=fun b=>N b∨h.size≤b) (u.more fun _ h=>.inl h) o (fun _ h=>.inr h) q fun s' c w i=>?_
 have s:=i.size;refine p s' c ⟨M,_,v.upd i fun b a hm=>hm.elim (fun hm=>(d b a).2.2 hm) fun hm=>by have:=(d b a).2.1;omega,w.within,fun b a=>⟨(d b a).1,by have:=(d b a).2.1;omega,fun f=>?_⟩,fun b a=>⟨?_,a.2⟩⟩ (i.mono fun b a=>a.elim (fun a=>.inl (m b a).1) .inr)
 ·rcases f.1 with f|f
  ·exact(d b a).2.2 f
  ·have:=(d b a).2.1;omega
 ·rcases a.1 with a|a
  ·exact(m b a).1
  ·omega
theorem Em{β:Type}(g:Nat→Option β):∀n,(fm g n).length≤n
 |0=>by simp[fm]
 |n+1=>by
  rw[gP,ad];have:=Em g n;cases g n<;>simp<;>omega
theorem ZQ{β:Type}(g:Nat→Option β){n m:Nat}(h:n≤m):∃r,fm g m=fm g n++r:=by
 obtain⟨j,rfl⟩:∃j,m=n+j:=⟨m-n,by omega⟩
 clear h;induction j with
 |zero=>exact⟨[],by simp⟩
 |succ j ih=>obtain⟨r,a⟩:=ih;exact⟨r++(g (n+j)).toList,by rw[←Nat.add_assoc,gP,a,List.append_assoc]⟩
set_option maxRecDepth 4000 in
theorem X3{x:Hs}:∀(m:Nat),m≤13→∀{h:af} {b:Nat} {l:List Pr},DTrie No x h m b l→Fit l→l.length≤60000→∀{K:SliceV→af→Prop},(∀s' d,OwnS pW 1 cK (fun y=>h.size≤y) d s' (fW x m l)→Upd No h d→K s' d)→
  HC PG CU [.pointer (some ⟨b,0,none⟩),.int .i64 ((13-m:Nat):Int)] [.c .slice] K h:=by
 intro m;induction m with
 |zero=>
  intro _ h b l t hf hn K hk;refine OO (some ⟨b,0,none⟩) ((13-0:Nat):Int) ?_;unfold IG bH cS bo jm aK lf dZ jQ;obtain⟨_,⟨sa,sn,sc⟩,Z,hs⟩:=t;obtain rfl:sn=l.length:=hs.len;have g:∀{d:af} {i:Nat},Upd No h d→i<130→aR d (adr ⟨b,0,none⟩ i)=some (dF true ⟨sa,l.length,sc⟩ (fun _=> []) (fun _=>none) i):=fun k hi=>by rw[cd,bI (k.get0 Z),aU,HZ hi]
  have r0:=Upd.refl No h;have e1:fW x 0 l= [1]++np l.length 2++lj l:=by unfold fW;simp
  have hpl:=nh hf;rw[e1]at hk;refine⟨_,rfl,true,g (i:=0) r0 (by omega),aA.2 ⟨_,rfl,⟨sa,l.length,sc⟩,g (i:=1) r0 (by omega),_,rfl,⟨sa,l.length,sc⟩,g (i:=1) r0 (by omega),?_,?_⟩⟩
  ·refine aN fun h1 b1 k1=>⟨g (i:=1) k1 (by omega),g (i:=1) k1 (by omega),?_⟩
   have o1:=Ai (b:=1) b1;refine Gj (n:=l.length) (by omega) fun s2 u C o=>⟨g (i:=1) (k1.tr o) (by omega),g (i:=1) (k1.tr o) (by omega),?_⟩
   have s1:=k1.size;have s2':=o.size;refine zv (o1.upd o fun _ _ h=>h) (C.sl (W:=No) fun _ _ _ h=>h) (fun y f=>by show h.size≤y;omega) (by rw[dM];simp) fun s3 z E T=>?_
   have v:Upd No h z:=(k1.tr o).trans T fun y f=>.inr f
   refine⟨g (i:=1) v (by omega),g (i:=1) v (by omega),?_⟩;refine D9 (hs.upd v fun _ h=>h.elim) hf hn fun s4 h4 w s=>⟨g (i:=1) (v.tr s) (by omega),?_⟩
   have s3':=v.size;have G:=s.size;refine zv (E.upd s fun _ _ h=>h) (w.sl (W:=No) fun _ _ _ h=>h) (fun y f=>by show h.size≤y;omega) (by rw[ad,dM];simp;omega) fun s5 V F O=>?_
   have Q:Upd No h V:=(v.tr s).trans O fun y f=>.inr f
   exact⟨g (i:=1) Q (by omega),hk s5 V F Q⟩
  ·refine Gj (n:=l.length) (by omega) fun s2 u C o=>⟨g (i:=1) o (by omega),g (i:=1) o (by omega),?_⟩
   refine aN fun h1 b1 k1=>⟨g (i:=1) (o.tr k1) (by omega),g (i:=1) (o.tr k1) (by omega),?_⟩
   have o1:=Ai (b:=1) b1;have s1:=k1.size;have s2':=o.size;refine zv (M:=fun y=>h.size≤y) (o1.more fun y f=>by show h.size≤y;omega) ((C.upd k1 fun _ _ h=>h).sl (W:=No) fun _ _ _ h=>h) (fun y f=>by show h.size≤y;omega) (by rw[dM];simp) fun s3 z E T=>?_
   have v:Upd No h z:=(o.tr k1).trans T fun y f=>.inr f
   refine⟨g (i:=1) v (by omega),g (i:=1) v (by omega),?_⟩;refine D9 (hs.upd v fun _ h=>h.elim) hf hn fun s4 h4 w s=>⟨g (i:=1) (v.tr s) (by omega),?_⟩
   have s3':=v.size;have G:=s.size;refine zv (E.upd s fun _ _ h=>h) (w.sl (W:=No) fun _ _ _ h=>h) (fun y f=>by show h.size≤y;omega) (by rw[ad,dM];simp;omega) fun s5 V F O=>?_
   have Q:Upd No h V:=(v.tr s).trans O fun y f=>.inr f
   exact⟨g (i:=1) Q (by omega),hk s5 V F Q⟩
 |succ m ih=>
  intro hm h b l t hf hn K hk;refine OO (some ⟨b,0,none⟩) ((13-(m+1):Nat):Int) ?_;unfold IG bH cS bo jm aK lf dZ jQ;obtain⟨_,kk,Z,hkid⟩:=t;have elev:(13-(m+1):Nat)=12-m:=by omega
  rw[elev];obtain⟨q,hq⟩:∃q:Nat→List Pr,q=fun c=>part x (12-m) c l:=⟨_,rfl⟩
  have H:∀c,part x (12-m) c l=q c:=fun c=>by rw[hq]
  rw[←hq]at Z;have g:∀{d:af} {i j:Nat},Upd No h d→i+j<130→aR d (adr (adr ⟨b,0,none⟩ i) j)=some (dF false ⟨none,0,0⟩ q kk (i+j)):=fun k hi=>by rw[cd,cd,bI (k.get0 Z),aU,HZ hi]
  have g0:aR h (adr ⟨b,0,none⟩ 0)=some (dF false ⟨none,0,0⟩ q kk 0):=by rw[cd,bI Z,HZ (by omega)]
  refine⟨_,rfl,false,g0,aj.2 ?_⟩;have hML:∀L∈jn x (12-m) l,2≤L.length∧(fW x m L).length≤9+L.length*(20004+9*(m+1)):=fun L hL=>by
   obtain⟨z,c,rfl⟩:=nQ hL;exact⟨z,pk m hf.part⟩
  have htot:((jn x (12-m) l).flatMap (fW x m)).length≤60000*(20004+9*(m+1)+9):=by
   have h1:=Gh hML;have u:=wG x (12-m) l;exact bv h1 (cD _ (by omega))
  have hm20:20004+9*(m+1)+9≤20200:=by omega
  have htot2:((jn x (12-m) l).flatMap (fW x m)).length≤60000*20200:=bv htot (Nat.mul_le_mul_left _ hm20);have P:∀c,c≤32→((fm (fun j=>fu (q j)) c).flatMap (fW x m)).length≤60000*20200:=fun c hc=>by
   obtain⟨r,hr⟩:=ZQ (fun j=>fu (q j)) hc
   have:((fm (fun j=>fu (q j)) 32).flatMap (fW x m)).length≤60000*20200:=by rw[hq];exact htot2
   rw[hr,bN,ad]at this;omega
  refine LoopP.ghost (fun(c:Nat) (t:Int×Int×SliceV×SliceV×Int×Int) d=>t.1=((jU (fun j=>(il (q j)).isSome) c:Nat):Int)∧t.2.1=((jU (fun j=>(fu (q j)).isSome) c:Nat):Int)∧t.2.2.2.2.1=((2^c%4294967296:Nat):Int)∧t.2.2.2.2.2=(c:Int)∧c≤32∧
   TwoB h.size d.size d t.2.2.1 t.2.2.2.1 (fm (fun j=>il (q j)) c) ((fm (fun j=>fu (q j)) c).flatMap (fW x m))∧Upd No h d) (fun c=>32-c) 0 ⟨rfl,rfl,rfl,rfl,by omega,⟨No,No,OwnS.nil jx,OwnS.nil sO,fun _ h=>h.elim,fun _ h=>h.elim⟩,Upd.refl _ _⟩ ?_
  rintro I c ⟨dt,nt,sl,sk,bt,ct⟩ d ⟨e1,e2,e3,e4,hc32,hT,hu⟩ hI;simp only at e1 e2 e3 e4 hT;subst e1 e2 e3 e4;have s0:=hu.size;have wide:∀{h1 u:af},Upd No h h1→Upd (fun b=>h.size≤b) h1 u→Upd No h u:=fun a k=>a.trans k fun y f=>.inr f
  refine aM (fun A=>?_) fun hge=>?_
  ·have A:c<32:=by have:(c:Int)<32:=A;omega
   have ec:(c:Int).toNat*1=c:=by omega
   have ec2:(c:Int).toNat*2=c*2:=by omega
   have hbd:=nB (fun j=>(il (q j)).isSome) c
   have hbn:=nB (fun j=>(fu (q j)).isSome) c
   have hpw:2^c≤2^31:=Nat.pow_le_pow_right (by omega) (by omega);have X:2^c%4294967296=2^c:=Nat.mod_eq_of_lt (by omega);have vis:dF false ⟨none,0,0⟩ q kk (2+c)=.int .i64 (Ql (q c)):=by rw[Sy (by omega) (by omega),show 2+c-2=c by omega]
   refine Join.intro (fun(t:Int×SliceV) u=>t.1=((jU (fun j=>(il (q j)).isSome) (c+1):Nat):Int)∧TwoB h.size u.size u t.2 sk (fm (fun j=>il (q j)) (c+1)) ((fm (fun j=>fu (q j)) c).flatMap (fW x m))∧Upd No h u) (fun R hR=>?_) ?_
   ·refine⟨_,rfl,⟨by simp only;omega,by simp only;omega⟩,Ql (q c),?_,?_⟩
    ·simp only[ec];rw[g hu (by omega),vis]
    rw[Ym];have eb:jU (fun j=>(il (q j)).isSome) (c+1)=jU (fun j=>(il (q j)).isSome) c+(if(il (q c)).isSome then 2^c else 0):=rfl
    cases hso:il (q c)with
    |none=>
     rw[hso]at eb;refine aj.2 (hR _ _ ⟨by rw[eb];rfl,?_,hu⟩);rw[gP,hso];simpa using hT
    |some p=>
     rw[hso]at eb;have ep:Ek (il (q c))=p:=by rw[hso];rfl
     refine aA.2 ⟨_,rfl,⟨by simp only;omega,by simp only;omega⟩,p.1,?_,p.2,?_,aN fun u b2 o=>⟨_,lU b2,?_⟩⟩
     ·simp only[ec2];rw[cd,cd,cd,bI (hu.get0 Z),aU,HZ (by omega),Oy (by omega) (by omega) (by omega),show(34+c*2+0-34)/2=c by omega,ep]
     ·simp only[ec2];rw[cd,cd,cd,bI (hu.get0 Z),aU,HZ (by omega),Ow (by omega) (by omega) (by omega),show(34+c*2+1-34)/2=c by omega,ep]
     ·have s2:=o.size
      have hl:=Em (fun j=>il (q j)) c
      refine(hT.upd0 o).appP (p:=p) s0 s2 (by omega) rfl fun s3 z J T=>hR _ _ ⟨?_,?_,wide (hu.tr o) T⟩
      ·rw[eb,X]
       simp only[ma,if_true];rw[IntKind.wrap_u32];omega
      ·rw[gP,hso];exact J
   rintro⟨dt,sl2⟩ u ⟨rfl,hT2,u2⟩;simp only at hT2⊢;have s2:=u2.size;refine Join.intro (fun(t:Int×SliceV) z=>t.1=((jU (fun j=>(fu (q j)).isSome) (c+1):Nat):Int)∧TwoB h.size z.size z sl2 t.2 (fm (fun j=>il (q j)) (c+1)) ((fm (fun j=>fu (q j)) (c+1)).flatMap (fW x m))∧Upd No h z) (fun R hR=>?_) ?_
   ·refine⟨_,rfl,⟨by omega,by omega⟩,Ql (q c),?_,?_⟩
    ·rw[ec,g u2 (by omega),vis]
    rw[Yl];have eb:jU (fun j=>(fu (q j)).isSome) (c+1)=jU (fun j=>(fu (q j)).isSome) c+(if(fu (q c)).isSome then 2^c else 0):=rfl
    cases hma:fu (q c)with
    |none=>
     rw[hma]at eb;refine aj.2 (hR _ _ ⟨by rw[eb];rfl,?_,u2⟩);rw[gP (fun j=>fu (q j)),hma];simpa using hT2
    |some L=>
     rw[hma]at eb;have hL2:2≤(q c).length∧L=q c:=by
      unfold fu at hma;by_cases u:2≤(q c).length
      ·rw[if_pos u]at hma;exact⟨u,(Option.some.inj hma).symm⟩
      ·rw[if_neg u]at hma;cases hma
     obtain⟨h2l,rfl⟩:=hL2;refine aA.2 (aM (fun _=>?_) fun hx=>absurd (show((12-m:Nat):Int)<13 by omega) hx)
     obtain⟨kb,hkb,td⟩:=hkid c A (by rw[H];exact h2l);rw[H]at td;have hpt:(q c).length≤l.length:=by rw[←H];exact kz
     have hpf:Fit (q c):=by rw[←H];exact hf.part
     have e14:IntKind.wrap .i64 (((12-m:Nat):Int)+1)=((13-m:Nat):Int):=by rw[jj (by omega)];omega
     refine⟨_,rfl,⟨by omega,by omega⟩,some ⟨kb,0,none⟩,?_,?_⟩
     ·rw[ec,g u2 (by omega),Ox (by omega),show 98+c-98=c by omega,hkb]
     rw[e14];refine ih (by omega) (DTrie.upd u2 (fun _ h=>h.elim) td) hpf (by omega) fun s4 h4 w s=>?_
     have G:=s.size;have Y:=P (c+1) (by omega);rw[gP,hma,bN,ad]at Y;simp only[Option.toList_some,List.flatMap_cons,List.flatMap_nil,List.append_nil]at Y;refine(hT2.upd0 s).appB s2 G (w.sl (W:=No) fun _ _ _ h=>h) (by omega) fun s5 V hT5 O=>hR _ _ ⟨?_,?_,wide (u2.tr s) O⟩
     ·rw[eb,X]
      simp only[ma,if_true];rw[IntKind.wrap_u32];omega
     ·rw[gP (fun j=>fu (q j)),hma,bN]
      simpa using hT5
   rintro⟨nt,sk2⟩ z ⟨rfl,J,v⟩;simp only at J⊢;rw[cO A (by omega),VC];exact hI (c+1) _ _ ⟨rfl,rfl,rfl,rfl,A,J,v⟩ (by omega)
  ·obtain rfl:c=32:=by have:¬(c:Int)<32:=hge;omega
   have e1:fW x (m+1) l= [0]++np (jU (fun j=>(il (q j)).isSome) 32) 4++np (jU (fun j=>(fu (q j)).isSome) 32) 4++lj (fm (fun j=>il (q j)) 32)++(fm (fun j=>fu (q j)) 32).flatMap (fW x m):=by
    rw[hq];unfold fW;simp[gi,jn]
   rw[e1]at hk;have hD:=nB (fun j=>(il (q j)).isSome) 32
   have hN:=nB (fun j=>(fu (q j)).isSome) 32
   have hsf:Fit (fm (fun j=>il (q j)) 32):=fun p hp=>hf p (qZ (x:=x) (lev:=12-m) (by unfold gi;rw[hq]at hp;exact hp))
   have hsl:=Em (fun j=>il (q j)) 32
   have hps:=nh hsf;have Y:=P 32 (ao _);obtain⟨M,N,o1,o2,hMb,hNb⟩:=hT;generalize jU (fun j=>(il (q j)).isSome) 32=D at*
   generalize jU (fun j=>(fu (q j)).isSome) 32=N' at*
   generalize fm (fun j=>il (q j)) 32=S at*
   generalize (fm (fun j=>fu (q j)) 32).flatMap (fW x m)=B at*
   have hsS:Sl fe 2 No d sl S:=o1.sl fun _ _ _ h=>h
   have hsB:Sl pW 1 No d sk B:=o2.sl fun _ _ _ h=>h
   refine Join.plain (aN fun h1 b1 k1=>?_)
   simp only;have ob:=Ai (b:=0) b1;refine NF (by omega) fun s2 u C o=>?_
   have s1:=k1.size;have s2':=o.size;refine zv (M:=fun y=>d.size≤y) (ob.upd o fun _ _ h=>h) (C.sl (W:=No) fun _ _ _ h=>h) (fun y f=>by show d.size≤y;omega) (by rw[dM];simp) fun s3 z E T=>?_
   have s3':=T.size;refine Join.plain (NF (by omega) fun s4 h4 w s=>?_)
   have G:=s.size;refine zv (M:=fun y=>d.size≤y) (E.upd s fun _ _ h=>h) (w.sl (W:=No) fun _ _ _ h=>h) (fun y f=>by show d.size≤y;omega) (by rw[ad,dM,dM];simp) fun s5 V F O=>?_
   have s5':=O.size;have Q:Upd No d V:=(((k1.tr o).trans T fun y f=>.inr f).tr s).trans O fun y f=>.inr f
   refine Join.plain (D9 (hsS.upd Q fun _ h=>h.elim) hsf (by omega) fun s6 h6 ho6 k6=>?_)
   have s6':=k6.size;refine zv (M:=fun y=>d.size≤y) (F.upd k6 fun _ _ h=>h) (ho6.sl (W:=No) fun _ _ _ h=>h) (fun y f=>by show d.size≤y;omega) (by rw[ad,ad,dM,dM];simp;omega) fun s7 h7 ho7 k7=>?_
   have u7:Upd No d h7:=(Q.tr k6).trans k7 fun y f=>.inr f
   refine zv (M:=fun y=>d.size≤y) ho7 (hsB.upd u7 fun _ h=>h.elim) (fun y f=>by have:=u7.size;show d.size≤y;omega) (by rw[ad,ad,ad,dM,dM];simp;omega) fun s8 h8 ho8 k8=>?_
   refine hk s8 h8 (ho8.more fun y f=>by show h.size≤y;omega) ((hu.tr u7).trans k8 fun y f=>.inr (by omega))
end Go.Proofs
namespace Go.Proofs
open Go Go.Lift
theorem S8{a:Int}{x:Hs}{l:List Pr}{xs:List UInt8}(hv:La a x l xs)(b:Fit l)(d:l.length≤60000):xs.length≤100000000000:=by
 rcases hv with⟨_,rfl⟩|⟨_,ys,c,rfl⟩
 ·have f:=pk (x:=x) 13 b
  have g:l.length*(20004+9*(13+1))≤60000*(20004+9*(13+1)):=cD _ d;rw[aH];omega
 ·have f:=Cz c b
  rw[aH];omega
theorem Tv{W:Nat→Prop}{x:Hs}{h:af}{a:Int}{r:Rt}{l:List Pr}(L:a=0∨a=1)(i:RefIs W h a x r l)(V:cA l)(n:Fit l)(D:l.length≤60000){K:SliceV→af→Prop}
  (O:∀s' h' xs,OwnS pW 1 cK (fun y=>h.size≤y) h' s' xs→La a x l xs→Upd No h h'→K s' h'):HC PG zh [XS r] [.c .slice] K h:=by
 refine OL r ?_;unfold FJ yg bD dR FX ci jQ;obtain⟨s,rfl,C,hc⟩:=i;have C:=C.less (W':=No) fun _ h=>h.elim
 refine aN fun B b1 k1=>⟨_,vc b1 0,?_⟩
 have s1:=k1.size;rcases L with rfl|rfl
 ·refine aj.2 (aN fun S b3 c=>⟨_,ga (c.get0 b1) 1 0,_,ga (c.get0 b1) 1 1,_,ga (c.get0 b1) 1 2,s,vc (c.get0 b1) 4,?_⟩)
  have I:=Ai (b:=0) b3;have q:=k1.tr c;have T:∀v,hx 0 v=v:=fun v=>if_pos rfl
  simp only[T];refine Vw (x:=x) (C.upd q fun _ h=>h.elim) D (fun p N=>by have:=n p N;omega) fun h4 b Y m=>?_
  have s3:=c.size;have X:=m.size;refine X3 13 (ao _) Y n D fun Z Q j g=>?_
  have E:=g.size;have o:=pk (x:=x) 13 n;have h2:l.length*(20004+9*(13+1))≤60000*(20004+9*(13+1)):=cD _ D;refine zv (M:=fun y=>B.size≤y) ((I.upd m fun _ _ h=>h).upd g fun _ _ h=>h) (j.sl (W:=No) fun _ _ _ h=>h) (fun y d=>by show B.size≤y;omega) (by simp;omega) fun H J k G=>?_
  exact O H J _ (k.more fun y d=>bv s1 d) (.inl ⟨rfl,rfl⟩) (((q.tr m).tr g).trans G fun y d=>.inr (bv s1 d))
 ·refine aA.2 (aN fun S b3 c=>⟨s,vc (c.get0 b1) 4,?_⟩)
  have I:=Ai (b:=1) b3;have q:=k1.tr c;refine X0 (C.upd q fun _ h=>h.elim) hc V D (fun p N=>by have:=n p N;have:=Qj p.1;show(ky p).length≤_;unfold ky;omega) fun h4 b w F P f A m=>?_
  have s3:=c.size;have X:=m.size;obtain⟨u,R⟩:=y5 f A n;have z:QT l (jf ([],w,F)):=⟨w,F,f,A,rfl⟩;have o:=Cz z n;refine Sw (lab:= []) (by simp) R (kJ f) (HX u) P rfl (by omega) fun Z Q j g=>?_
  have E:=g.size;refine zv (M:=fun y=>B.size≤y) ((I.upd m fun _ _ h=>h).upd g fun _ _ h=>h) (j.sl (W:=No) fun _ _ _ h=>h) (fun y d=>by show B.size≤y;omega) (by simp;omega) fun H J k G=>?_
  exact O H J _ (k.more fun y d=>bv s1 d) (.inr ⟨rfl,_,z,rfl⟩) (((q.tr m).tr g).trans G fun y d=>.inr (bv s1 d))
end Go.Proofs
namespace Go.Proofs
open Go Go.Lift
end Go.Proofs
namespace Go.Proofs
open Go Go.Lift
def VrW(W:Nat→Prop)(h:af)(a:Int)(x:Hs)(n:Nat)(z:Vr):Prop:=TreeIs W h a x z.1 z.2.2∧RefIs W h a x z.2.1 z.2.2∧cA z.2.2∧Fit z.2.2∧z.2.2.length≤n
theorem VrW.updM{W M:Nat→Prop}{h c:af}(k:Upd M h c)(hm:∀b,M b→W b∨h.size≤b){a:Int}{x:Hs}{n:Nat}{z:Vr}(v:VrW W h a x n z):VrW W c a x n z:=⟨v.1.updM k hm,v.2.1.updM k hm,v.2.2⟩
theorem VrW.mono{W:Nat→Prop}{h:af}{a:Int}{x:Hs}{n m:Nat}{z:Vr}(v:VrW W h a x n z)(hm:n≤m):VrW W h a x m z:=⟨v.1,v.2.1,v.2.2.1,v.2.2.2.1,bv v.2.2.2.2 hm⟩
theorem M8{l:List Pr}{p:Pr}{n:Nat}(b:cA l)(c:Fit l)(d:l.length≤n)(f:p.1.size≤5030∧p.2.size≤5030):cA (mZ l p)∧Fit (mZ l p)∧(mZ l p).length≤n+1:=by
 unfold mZ;split
 ·refine⟨zR p b,fun q a=>?_,bv (KJ p) (by omega)⟩
  rcases CM a with rfl|a
  ·exact⟨by omega,by omega⟩
  ·exact c q a
 ·exact⟨b,c,by omega⟩
theorem Oe{l:List Pr}{k:ByteArray}{n:Nat}(a:cA l)(b:Fit l)(d:l.length≤n):cA (pV l k)∧Fit (pV l k)∧(pV l k).length≤n+1:=by
 unfold pV;split
 ·exact⟨a,b,by omega⟩
 ·exact⟨Kg a,fun q c=>b q (Gq.1 c).1,bv WF (by omega)⟩
end Go.Proofs
namespace Go.Proofs
open Go Go.Lift
set_option maxHeartbeats 1000000 in
theorem TY{W S:Nat→Prop}{h:af}{eb pb tb:Nat}{ti:Int}{g:Int}{x:Hs}{tu:Tr}{lu:List Pr}(e:EdO W S h eb pb tb ti g x tu lu)(V:lu.length≤1000000)(k:ByteArray){K:Int→af→Prop}
  (G:∀o a p,EdO W p o eb pb tb ti g x a (pV lu k)→Upd (fun y=>S y∨y=eb) h o→(∀y,p y→(S y∨h.size≤y)∧y<o.size)→K (Eu lu k) o):HC PG jM [.pointer (some ⟨eb,0,none⟩),.string k] [.c (.int .i64)] K h:=by
 refine wV _ k ?_;unfold rp;refine aN fun Z b1 k1=>aN fun Y b2 D=>?_
 have z1:=aL b1;have z2:=aL b2;have s1:=k1.size;have s2:=D.size;have c1:=D.get0 b1;have d:=k1.tr D;refine⟨_,vc c1 0,tT (e.ed.upd d id) (e.tk.upd d id) (aj.2 ⟨_,vc c1 0,?_⟩)⟩;refine Ft (e.ed.upd d id) (B5 _ _ _ ?_);unfold uI aq eX bD aQ uO rF yM gO ci eH;refine aN fun h3 b3 B=>?_
 have H:=aL b3;have b:=d.tr B;have j:=e.ed.upd b id;have N:=B.get0 b2;have I:=B.get0 c1;refine⟨_,vc I 0,_,rfl,_,ga j 2 0,_,ga j 2 1,_,ga j 2 2,_,ga j 2 3,_,ga j 2 4,_,ga j 2 5,k,vc N 0,?_⟩;have s:∀y,S y→y<h.size:=fun y O=>e.lt y (.inr O)
 refine Cs (e.iu.pro b) (e.can.pro b) e.up e.fit V k fun h4 a p n L w T=>?_
 have s4:=n.size;refine⟨vc (n.get I fun v=>by have:=s _ v;omega) 0,?_⟩
 refine cW (c:=lD yF) (vs:=lD a) (n.get b3 fun v=>by have:=s _ v;omega) rfl fun P m i=>?_
 refine⟨_,vc m 0,_,vc m 1,_,vc m 2,_,vc m 3,_,vc m 4,_,vc m 5,?_⟩;have J:EdAt P eb pb tb tu:=(j.upd n fun v=>e.ap _ v e.we).upd i (by have:=e.lt _ (.inl e.we);omega)
 have f:Fit (pV lu k):=by
  unfold pV;split
  ·exact e.fit
  ·exact fun q X=>e.fit q (Gq.1 X).1
 have u:cA (pV lu k):=by
  unfold pV;split
  ·exact e.up
  ·exact Kg e.up
 refine⟨J,fun R z=>⟨fun hz o M A=>?_,fun hz=>?_⟩⟩
 ·obtain⟨C,E,F⟩:=e.fin b n L w i (by omega) H z M A u f
  have hz:Eu lu k=0:=hz;rw[hz]at G;exact G o a p C E F
 ·have hz:Eu lu k≠0:=hz
  have Q:=T hz;subst Q;obtain⟨C,E,F⟩:=e.fin b n L w i (by omega) H z (J.upd z id) (Upd.refl _ _) u f;exact G R a p C E F
theorem Sq{h:af}{eb pb tb cb cap:Nat}{ids:List Int}{tu:Tr}{ti:Int}{a:Bool}(e:EdAt h eb pb tb tu)(k:TokAt h tb pb ti a)(p:PoolAt h pb cb cap ids):eb≠cb∧eb≠tb∧tb≠cb:=by
 obtain⟨n,b,s,r,hc⟩:=p;refine⟨fun h=>?_,fun h=>?_,fun h=>?_⟩
 ·subst h;have:=e.symm.trans hc;simp at this
 ·subst h;have:=e.symm.trans k;simp at this
 ·subst h;have:=k.symm.trans hc;simp at this
theorem HS{h:af}{pb cb cap:Nat}{i:Int}{ids:List Int}(p:PoolAt h pb cb cap (i::ids))(t:Tr){K:Option Addr×Int→af→Prop}(j:∀h' eb tb,Upd (· =cb) h h'→PoolAt h' pb cb cap ids→TokAt h' tb pb i true→EdAt h' eb pb tb t→h.size≤eb→h.size≤tb→K (some ⟨eb,0,none⟩,0) h'):HC PG nW [.pointer (some ⟨pb,0,none⟩),Jb t] [.c .ptr,.c (.int .i64)] K h:=by
 refine Dw _ t ?_;unfold yb aq bD aQ rF abo;refine aN fun d b1 k1=>?_
 have o:=aL b1;have q:cb<h.size:=by obtain⟨_,_,_,_,hc⟩:=p;exact aL hc
 have s1:=k1.size;refine Fc (p.upd0 k1) fun m b g n=>aj.2 ?_
 have a:=b.get b1 (show ¬h.size=cb by omega)
 have s3:=b.size;refine⟨_,vc a 0,_,vc a 1,_,vc a 2,_,vc a 3,_,vc a 4,_,vc a 5,aN fun k f c=>?_⟩
 exact j k m.size d.size ((k1.wide.tr b).tr c.wide) (g.upd0 c) (n.upd c fun h=>h) f (by omega) s1
theorem Mi{h:af}{pb cb cap:Nat}(p:PoolAt h pb cb cap [])(t:Tr){K:Option Addr×Int→af→Prop}(a:∀h',Upd No h h'→K (none,6) h'):HC PG nW [.pointer (some ⟨pb,0,none⟩),Jb t] [.c .ptr,.c (.int .i64)] K h:=by
 refine Dw _ t ?_;unfold yb aq bD aQ rF abo;exact aN fun b b1 k1=>Ji (p.upd0 k1) (aA.2 (a b k1))
theorem HR{h:af}{eb pb tb cb cap:Nat}{ids:List Int}{tu:Tr}{ti:Int}(e:EdAt h eb pb tb tu)(k:TokAt h tb pb ti true)(p:PoolAt h pb cb cap ids)(n:ids.length<cap){K:Tr×Int→af→Prop}(o:∀h',Upd (fun y=>y=cb∨y=tb) h h'→PoolAt h' pb cb cap (ids++ [ti])→TokAt h' tb pb ti false→EdAt h' eb pb tb tu→K (tu,0) h'):jX (some ⟨eb,0,none⟩) K h:=by
 obtain⟨C,w,D⟩:=Sq e k p;unfold jX aq eX bD aQ uO Cm gO ci eH uP;refine aN fun u b1 k1=>?_
 have A:cb<h.size:=by obtain⟨_,_,_,_,hc⟩:=p;exact aL hc
 have z:=aL k;have s1:=k1.size;have f:=e.upd k1 fun h=>h
 refine tT f (k.upd k1 fun h=>h) (aj.2 ⟨_,rfl,_,vc f 0,_,rfl,_,vc f 1,?_⟩)
 refine P2 (p.upd0 k1) (k.upd k1 fun h=>h) n fun s d q m=>?_
 have b:=f.upd d (by omega);refine⟨_,rfl,_,ga b 2 0,_,ga b 2 1,_,ga b 2 2,_,ga b 2 3,_,ga b 2 4,_,ga b 2 5,?_⟩;refine cW (c:=lD yF) (vs:=lD tu) (d.get b1 (by omega)) rfl fun j b3 a=>?_
 refine⟨_,vc b3 0,_,vc b3 1,_,vc b3 2,_,vc b3 3,_,vc b3 4,_,vc b3 5,?_⟩;have s2:=d.size;have v:=aL e;obtain⟨_,g,_⟩:=id p;have B:=aL g;exact o j ((k1.wide.tr d).trans a fun y i=>.inr (by have i:y=h.size:=i;omega)) (q.upd a (by omega) (by omega)) (m.upd a (by omega)) (b.upd a (by omega))
theorem Fq{h:af}{eb pb tb cb cap:Nat}{ids:List Int}{tu:Tr}{ti:Int}(e:EdAt h eb pb tb tu)(k:TokAt h tb pb ti true)(p:PoolAt h pb cb cap ids)(b:ids.length<cap){K:Tr×Int→af→Prop}(a:∀h',Upd (fun y=>y=cb∨y=tb) h h'→PoolAt h' pb cb cap (ids++ [ti])→TokAt h' tb pb ti false→EdAt h' eb pb tb tu→K (tu,0) h'):HC PG gw [.pointer (some ⟨eb,0,none⟩)] Po K h:=
 pH _ (HR e k p b a)
theorem Fs{h:af}{eb pb tb:Nat}{tu:Tr}{ti:Int}(e:EdAt h eb pb tb tu)(k:TokAt h tb pb ti false){K:Tr×Int→af→Prop}(b:∀h',Upd No h h'→K (yF,5) h'):HC PG gw [.pointer (some ⟨eb,0,none⟩)] Po K h:=by
 refine pH _ ?_;unfold jX aq eX bD aQ uO Cm gO ci eH uP;refine aN fun f b1 k1=>?_
 refine tT (e.upd k1 fun h=>h) (k.upd k1 fun h=>h) (aA.2 ?_)
 refine cW (c:=lD yF) (vs:=lD yF) b1 rfl fun d b3 a=>?_
 exact⟨_,vc b3 0,_,vc b3 1,_,vc b3 2,_,vc b3 3,_,vc b3 4,_,vc b3 5,b d (k1.own a (ao _))⟩
theorem Oq{h:af}{eb pb tb:Nat}{tu:Tr}{ti:Int}(e:EdAt h eb pb tb tu)(k:TokAt h tb pb ti false)(p:Pr){K:Int→af→Prop}(c:∀h',Upd No h h'→K 5 h'):HC PG hE [.pointer (some ⟨eb,0,none⟩),.agg #[.string p.1,.string p.2]] [.c (.int .i64)] K h:=by
 refine yr _ p ?_;unfold sW tc;refine aN fun f b1 k1=>aN fun d b2 b=>?_
 have a:=k1.tr b;exact⟨_,vc (b.get0 b1) 0,tT (e.upd a fun h=>h) (k.upd a fun h=>h) (aA.2 (c d a))⟩
theorem TZ{h:af}{eb pb tb:Nat}{tu:Tr}{ti:Int}(e:EdAt h eb pb tb tu)(k:TokAt h tb pb ti false)(p:ByteArray){K:Int→af→Prop}(c:∀h',Upd No h h'→K 5 h'):HC PG jM [.pointer (some ⟨eb,0,none⟩),.string p] [.c (.int .i64)] K h:=by
 refine wV _ p ?_;unfold rp;refine aN fun f b1 k1=>aN fun d b2 b=>?_
 have a:=k1.tr b;exact⟨_,vc (b.get0 b1) 0,tT (e.upd a fun h=>h) (k.upd a fun h=>h) (aA.2 (c d a))⟩
end Go.Proofs
namespace Go.Proofs
open Go Go.Lift
theorem NV{x:Hs}{h:af}{K:Int×Int×Int→af→Prop}(f:∀h',Upd No h h'→K (x.k0,x.k1,x.mask) h'):HC PG Ad [.agg #[.int .u64 x.k0,.int .u64 x.k1,.int .u64 x.mask]] [.agg [.int .u64,.int .u64,.int .u64]] K h:=by
 refine Uy (x.k0,x.k1,x.mask) ?_;unfold Lm aq eX CC ci abh abi;refine aN fun j b1 k1=>aN fun i b2 d=>?_
 have c1:=d.get0 b1;refine⟨_,ga c1 0 0,_,ga c1 0 1,_,vc c1 2,?_⟩;refine cW (c:= [.int .u64 0,.int .u64 0,.int .u64 0]) (vs:= [.int .u64 x.k0,.int .u64 x.k1,.int .u64 x.mask]) b2 rfl fun g a b=>?_
 exact⟨_,vc a 0,_,vc a 1,_,vc a 2,f g ((k1.tr d).own b k1.size)⟩
theorem KB{W W':Nat→Prop}{x:Hs}{h:af}{a:Int}{t:Tr}{r:Rt}{l:List Pr}(tb:Tab h)(i:TreeIs W h a x t l)(j:RefIs W' h a x r l)(E:cA l)(F:Fit l)(B:l.length≤60000){K:Bool→af→Prop}(hk:∀h',Upd No h h'→K true h'):HC PG xS [Jb t,XS r] [.c .bool] K h:=by
 refine Rh t r ?_;unfold IS aq M3 bD aQ rF yM dR FX ci Lw GN;have M:a=0∨a=1:=i.imp (fun h=>h.1) fun h=>h.1
 have Q:t.1=a∧t.2.1=hx a x.k0∧t.2.2.1=hx a x.k1∧t.2.2.2.1=hx a x.mask:=by rcases i with⟨rfl,b,rfl,_⟩|⟨rfl,b,rfl,_⟩<;>simp[hx]
 obtain⟨s,er,V,hc⟩:=j;have j:RefIs W' h a x r l:=⟨s,er,V,hc⟩;refine aN fun h1 b1 k1=>aN fun h2 b2 N=>?_
 have Z:=k1.tr N;have c1:=N.get0 b1;rw[er]at b2;subst er;obtain⟨t1,Y,t3,X⟩:=Q;refine⟨_,vc c1 0,_,vc c1 1,_,vc c1 2,_,vc c1 3,_,vc c1 4,_,vc c1 5,_,vc b2 0,?_⟩;refine Vh (t:=t) fun P v=>⟨vc (v.get0 b2) 0,?_⟩
 have g:=v.get0 c1;have u:=v.get0 b2;rw[show(t.1==a)=true by rw[t1];simp]
 refine aA.2 ⟨_,vc g 0,_,vc g 1,_,vc g 2,_,vc g 3,_,vc g 4,_,vc g 5,_,ga u 1 0,_,ga u 1 1,_,ga u 1 2,?_⟩;refine Pt (t:=t) fun h31 y=>?_
 have n:=y.get0 u;refine⟨⟨ga n 1 0,ga n 1 1,ga n 1 2⟩,vc n 0,?_⟩;refine NV (x:=⟨t.2.1,t.2.2.1,t.2.2.2.1⟩) fun S z=>?_
 have c:=z.get0 n;have k:=z.get0 (y.get0 g);refine⟨⟨ga c 1 0,ga c 1 1,ga c 1 2⟩,vc c 0,?_⟩;rw[Y,t3,X,show((hx a x.k0==hx a x.k0)&&((hx a x.k1==hx a x.k1)&&((hx a x.mask==hx a x.mask)&&true)))=true by simp]
 have A:=Z.tr ((v.tr y).tr z);refine aA.2 ⟨_,vc k 0,_,vc k 1,_,vc k 2,_,vc k 3,_,vc k 4,_,vc k 5,_,vc c 0,_,vc c 1,_,vc c 2,_,vc c 3,s,vc c 4,?_⟩;refine Ta (i.upd0 A) E F B fun s3 T xs D J p=>?_
 have d:=p.get0 c;refine⟨⟨vc d 0,vc d 1,vc d 2,vc d 3,vc d 4⟩,⟨ga d 1 0,ga d 1 1,ga d 1 2⟩,vc d 0,?_⟩;refine Tv M (j.upd0 (A.tr p)) E F B fun s4 O ys H L q=>?_
 have f:=q.get0 d;refine⟨⟨ga f 1 0,ga f 1 1,ga f 1 2⟩,vc f 0,?_⟩;have G:xs=ys:=(U7 (fun _=>rfl) D L F F B B E E).2 rfl
 subst G;have R:=S8 D F B;refine Tx ((J.upd q fun _ _ h=>h).sl (W:=No) fun _ _ _ h=>h) (H.sl (W:=No) fun _ _ _ h=>h) (by omega) ?_
 have m:=(p.tr q).get0 k;refine⟨⟨ga f 1 0,ga f 1 1,ga f 1 2⟩,vc f 0,aA.2 ⟨_,vc m 0,_,vc m 1,_,vc m 2,_,vc m 3,_,vc m 4,_,vc m 5,?_⟩⟩;have w:=A.tr (p.tr q);refine Tc (i.upd0 w) (tb.upd w id) E B fun I C=>?_
 have o:=C.get0 f;exact⟨⟨ga o 1 0,ga o 1 1,ga o 1 2⟩,vc o 0,hk I (w.tr C)⟩
theorem EdO.end_{W S:Nat→Prop}{h d:af}{eb pb tb cb:Nat}{ti:Int}{b:Int}{x:Hs}{tu:Tr}{lu:List Pr}(e:EdO W S h eb pb tb ti b x tu lu)(c:W cb)(k:Upd (fun y=>y=cb∨y=tb) h d)(t:TokAt d tb pb ti false):TreeIs No d b x tu lu:=
 (e.iu.upd k (fun y f=>e.lt y (.inr f)) fun y f=>by
  rcases f with rfl|rfl
  ·exact .inl ⟨.inl c,fun h=>e.ap _ h c⟩
  ·exact .inl ⟨.inl e.wt,fun h=>e.ap _ h e.wt⟩).freeze (W':=No) (fun _ h=>h.elim) (fun a h=>by cases h;exact⟨id,_,_,t,by simp⟩) fun _ _ h=>h
theorem EdO.upd0{W S:Nat→Prop}{h b:af}{eb pb tb:Nat}{ti:Int}{a:Int}{x:Hs}{tu:Tr}{lu:List Pr}(e:EdO W S h eb pb tb ti a x tu lu)(k:Upd No h b):EdO W S b eb pb tb ti a x tu lu:=
 ⟨e.ed.upd k fun h=>h,e.tk.upd k fun h=>h,e.iu.upd0 k,fun y c=>bG (e.lt y c) k.size,e.we,e.wt,e.ap,e.up,e.fit⟩
theorem TX{W:Nat→Prop}{h:af}{eb pb tb:Nat}{ti:Int}{a:Int}{x:Hs}{t:Tr}{l:List Pr}(e:EdAt h eb pb tb t)(k:TokAt h tb pb ti true)(i:TreeIs W h a x t l)(lt:∀y,W y→y<h.size)(we:W eb)(wt:W tb)(up:cA l)(fit:Fit l):EdO W No h eb pb tb ti a x t l:=
 ⟨e,k,yN (i.less fun y b=>.inl (b.elim id fun h=>h.elim)),fun y b=>b.elim (lt y) fun h=>h.elim,we,wt,fun _ h=>h.elim,up,fit⟩
set_option maxRecDepth 100000 in
theorem QO{h:af}{K:Bool→af→Prop}(hk:∀s,Upd No h s→K true s):HC PG zj [] [.c .bool] K h:=by
 refine OW ?_;unfold FQ aq nv bD aQ zg0 uO rF yM oZ;refine Hq (n:=1) (ao _) (by omega) fun v k2 I=>?_
 have I:PoolAt v (h.size+1) h.size 1 [1]:=I;have z2:=aL I.2.1;refine RM (W:=fun y=>y<v.size) (x:=⟨0,0,0⟩) (fun _ h=>h) (.inl rfl) fun G t i4 X=>vY (t:=t) fun h6 o F=>?_
 have z6:=aL o;have s4:=X.size;refine⟨_,vc o 0,_,vc o 1,_,vc o 2,_,vc o 3,_,vc o 4,_,vc o 5,?_⟩;refine HS (I.upd0 (X.tr F)) t fun k eb tb m p14 B E he ht=>?_
 have s14:=m.size;have ze:=aL E;have zt:=aL B;let W:Nat→Prop:=fun y=>y<v.size∨h6.size≤y∧y<k.size
 have C:TreeIs W k 0 ⟨0,0,0⟩ t []:=((((i4.less (W':=fun y=>y<v.size∨G.size≤y) fun _ h=>h).upd0 F).updM m fun y a=>.inl (.inl (by have a:y=h.size:=a;omega))).less fun y a=>.inl (a.imp id fun h=>by omega))
 have i6:TreeIs (fun y=>y=h.size) h6 0 ⟨0,0,0⟩ t []:=(i4.less (W':=fun y=>y=h.size) fun y a=>.inl (by have a:y=h.size:=a;show y<v.size;omega)).upd0 F
 have e:=TX (W:=W) E B C (fun y a=>by rcases a with h|h<;>omega) (.inr ⟨he,ze⟩) (.inr ⟨ht,zt⟩) fc (fun p H=>by cases H)
 refine Join.intro (fun b s=>b=false∧∃tu S,EdO W S s eb (h.size+1) tb 1 0 ⟨0,0,0⟩ tu [(⟨#[97]⟩,⟨#[]⟩)]∧Upd (fun y=>S y∨y=eb) k s∧∀y,S y→k.size≤y∧y<s.size) (fun R hR=>?_) ?_
 ·refine aj.2 (aj.2 ?_)
  refine Oo e (by simp) (⟨#[97]⟩,⟨#[]⟩) (fun s T S' e' k' w=>?_) (fun p H=>?_)
  ·have er:DW (⟨#[97]⟩,⟨#[]⟩)=0:=rfl
   rw[er];refine hR _ _ ⟨rfl,T,S',e',k'.mono fun y a=>a.elim (fun h=>h.elim) fun h=>.inl (.inr h),fun y a=>⟨(w y a).1.elim (fun h=>h.elim) id,(w y a).2⟩⟩
  ·have:p=(⟨#[97]⟩,⟨#[]⟩):=by
    have hw:mZ [] ((⟨#[97]⟩,⟨#[]⟩):Pr)= [(⟨#[97]⟩,⟨#[]⟩)]:=rfl;rw[hw]at H;exact au.1 H
   rw[this];exact⟨by decide,by decide⟩
 ·rintro _ h17 ⟨rfl,tu,S,q,i,P⟩
  refine aj.2 ?_;have Y:∀{z},z<k.size→¬S z:=fun hz h=>by have:=(P _ h).1;omega
  have hne:h.size+1≠eb∧h.size≠eb:=by omega
  have p17:=p14.upd i (fun h=>h.elim (Y (by omega)) fun h=>by omega) (fun h=>h.elim (Y (by omega)) fun h=>by omega)
  refine Fq q.ed q.tk p17 (by simp) fun L j p21 u Q=>?_
  have V:=q.end_ (cb:=h.size) (.inl (by omega)) j u;have z17:=i.size;have z21:=j.size;have Z:=m.get o (show ¬G.size=h.size by omega)
  have M:=j.get (i.get Z (fun h=>h.elim (Y (by omega)) fun h=>by omega)) (show ¬(G.size=h.size∨G.size=tb) by omega)
  have D:Upd No h L:=(((k2.tr (X.tr F)).trans m fun y a=>.inr (by have a:y=h.size:=a;omega)).trans i fun y a=>.inr (a.elim (fun h=>by have:=(P _ h).1;omega) fun h=>by omega)).trans j fun y a=>.inr (by rcases a with h|h<;>omega)
  refine vY (t:=tu) fun h23 f A=>aA.2 ⟨_,vc f 0,_,vc f 1,_,vc f 2,_,vc f 3,_,vc f 4,_,vc f 5,?_⟩
  refine LD (V.upd0 A) (List.pairwise_singleton _ _) (by simp) fun h31 O=>aA.2 ?_
  have d:=A.tr O;refine Oq (Q.upd d fun h=>h) (u.upd d fun h=>h) (⟨#[98]⟩,⟨#[]⟩) fun N k33=>aA.2 ?_
  have c:=d.tr k33;have g:=c.get0 M;refine⟨_,vc g 0,_,vc g 1,_,vc g 2,_,vc g 3,_,vc g 4,_,vc g 5,?_⟩;have J:TreeIs No N 0 ⟨0,0,0⟩ t []:=((((C.updM i fun y a=>a.elim (fun h=>.inr (P y h).1) fun h=>.inl (.inr ⟨by omega,by omega⟩)).less (W':=W) fun y a=>.inl a).updM j fun y a=>.inl (a.elim (fun h=>.inl (by omega)) fun h=>.inr ⟨by omega,by omega⟩)).less fun _ h=>h.elim).upd0 c
  refine LD J fc (by simp) fun h41 k41=>hk h41 (D.tr (c.tr k41))
end Go.Proofs
namespace Go.Proofs
open Go Go.Lift
def Mv(U:Nat→Prop)(h:af)(U':Nat→Prop)(a:af):Prop:=Upd U h a∧∀y,U' y→U y∨h.size≤y
section
variable {U U' U1 U2 M:Nat→Prop} {h h' h1 h2:af}
theorem Mv.refl(U:Nat→Prop)(h:af):Mv U h U h:=⟨Upd.refl _ _,fun _ h=>.inl h⟩
theorem Mv.tr(a:Mv U h U1 h1)(b:Mv U1 h1 U2 h2):Mv U h U2 h2:=⟨a.1.trans b.1 a.2,fun y c=>(b.2 y c).elim (a.2 y) fun h=>.inr (bv a.1.size h)⟩
theorem Mv.of0(k:Upd No h h'):Mv U h U h':=⟨k.wide,fun _ h=>.inl h⟩
theorem Mv.up0(a:Mv U h U1 h1)(k:Upd No h1 h2):Mv U h U1 h2:=a.tr (.of0 k)
theorem Mv.new(a:∀y,U' y→U y∨h.size≤y):Mv U h U' h:=⟨Upd.refl _ _,a⟩
theorem Mv.upM(k:Upd M h h')(hm:∀y,M y→U y∨h.size≤y):Mv U h U h':=⟨k.mono hm,fun _ h=>.inl h⟩
theorem Mv.get(a:Mv U h U' h'){b:Nat}{o:Obj}(c:h[b]? =some o) (d:¬U b):h'[b]? =some o:=a.1.get c d
theorem Mv.not(a:Mv U h U' h'){b:Nat}{o:Obj}(c:h[b]? =some o) (d:¬U b):¬U' b:=fun f=>(a.2 b f).elim d fun h=>by have:=aL c;omega
theorem TreeIs.mv{a:Int}{x:Hs}{t:Tr}{l:List Pr}(i:TreeIs U h a x t l)(m:Mv U h U' h'):TreeIs U' h' a x t l:=
 ((i.less (W':=fun y=>U y∨h.size≤y) fun _ h=>h).updM m.1 fun _ b=>.inl (.inl b)).less fun y b=>.inl (m.2 y b)
theorem RefIs.mv{a:Int}{x:Hs}{t:Rt}{l:List Pr}(i:RefIs U h a x t l)(m:Mv U h U' h'):RefIs U' h' a x t l:=
 ((i.less (W':=fun y=>U y∨h.size≤y) fun _ h=>h).updM m.1 fun _ b=>.inl (.inl b)).less fun y b=>.inl (m.2 y b)
end
structure Ed where
 eb:Nat
 tb:Nat
 ti:Int
 lv:Bool
 tu:Tr
 lu:List Pr
 S:Nat→Prop
def Un(A:Nat→Prop)(cb:Nat)(es:List Ed)(y:Nat):Prop:=A y∨y=cb∨∃e∈es,y=e.eb∨(e.lv=true∧y=e.tb)∨e.S y
def tok(e:Ed):Option Addr:=if e.lv then some ⟨e.tb,0,none⟩else none
structure EdW(U:Nat→Prop)(h:af)(pb:Nat)(kind:Int)(x:Hs)(n:Nat)(e:Ed):Prop where
 ed:EdAt h e.eb pb e.tb e.tu
 tk:TokAt h e.tb pb e.ti e.lv
 iu:TreeO (tok e) U h kind x e.tu e.lu e.S
 up:cA e.lu
 fit:Fit e.lu
 len:e.lu.length≤n
def uU:List Ed→Nat
 | []=>0
 |e::es=>(if e.lv then 1 else 0)+uU es
structure Wo(A:Nat→Prop)(h:af)(pb cb cap:Nat)(ids:List Int)(kind:Int)(x:Hs)(n:Nat)(es:List Ed):Prop where
 pl:PoolAt h pb cb cap ids
 rm:ids.length+uU es=cap
 lt:∀y,A y→y<h.size
 ac:¬A cb
 pv:¬Un A cb es pb
 ew:∀e∈es,EdW (Un A cb es) h pb kind x n e
 av:∀e∈es,¬A e.eb∧¬A e.tb∧(∀y,e.S y→¬A y∧y≠cb∧(∀f∈es,y≠f.eb∧y≠f.tb)∧y<h.size)∧(e.lv=false→¬Un A cb es e.tb)
 pw:∀(i j:Nat) (a b:Ed),es[i]? =some a→es[j]? =some b→i≠j→a.eb≠b.eb∧a.tb≠b.tb∧∀y,a.S y→¬b.S y
def Me(A:Nat→Prop)(cb:Nat)(es:List Ed)(h:af)(a:List Ed)(b:af):Prop:=Mv (Un A cb es) h (Un A cb a) b∧Upd (fun y=>¬A y) h b
section
variable {A A' M:Nat→Prop} {h h':af} {pb cb cap n m:Nat} {ids ids':List Int} {kind:Int} {x:Hs} {es:List Ed}
theorem Wo.ult(w:Wo A h pb cb cap ids kind x n es):∀y,Un A cb es y→y<h.size:=by
 rintro y (b|rfl|⟨e,a,rfl|⟨_,rfl⟩|b⟩)
 ·exact w.lt y b
 ·obtain⟨_,_,_,_,hc⟩:=w.pl;exact aL hc
 ·exact aL (w.ew e a).ed
 ·exact aL (w.ew e a).tk
 ·exact((w.av e a).2.2.1 y b).2.2.2
theorem EdW.mono{U:Nat→Prop}{e:Ed}(w:EdW U h pb kind x n e)(hm:n≤m):EdW U h pb kind x m e:=⟨w.ed,w.tk,w.iu,w.up,w.fit,bv w.len hm⟩
theorem Wo.mono(w:Wo A h pb cb cap ids kind x n es)(hm:n≤m):Wo A h pb cb cap ids kind x m es:=⟨w.pl,w.rm,w.lt,w.ac,w.pv,fun e a=>(w.ew e a).mono hm,w.av,w.pw⟩
theorem Wo.cb_ne(w:Wo A h pb cb cap ids kind x n es):cb<h.size∧pb<h.size∧∀e∈es,cb≠e.eb∧cb≠e.tb∧∀f∈es,e.eb≠f.tb:=by
 refine⟨w.ult _ (.inr (.inl rfl)),aL w.pl.2.1,fun e c=>?_⟩
 obtain⟨j,k,g⟩:=Sq (w.ew e c).ed (w.ew e c).tk w.pl;refine⟨Ne.symm j,Ne.symm g,fun f i d=>?_⟩
 have a:=(w.ew e c).ed;have b:=(w.ew f i).tk;rw[←d]at b;have:=a.symm.trans b;simp at this
theorem Wo.own(w:Wo A h pb cb cap ids kind x n es)(k:Upd M h h')(hm:∀y,M y→A y∨h.size≤y)(d:∀y,A' y→(A y∨h.size≤y)∧y<h'.size):Wo A' h' pb cb cap ids kind x n es∧Mv (Un A cb es) h (Un A' cb es) h':=by
 have mv:Mv (Un A cb es) h (Un A' cb es) h':=⟨k.mono fun y a=>(hm y a).imp .inl id,fun y a=>a.elim (fun h=>(d y h).1.imp .inl id) fun h=>.inl (.inr h)⟩
 have un:∀{y},y<h.size→¬A y→¬A' y:=fun o g h=>(d _ h).1.elim g fun h=>by omega
 have c:∀{y},y<h.size→¬A y→¬M y:=fun o g h=>(hm _ h).elim g fun h=>by omega
 obtain⟨hc,m,_⟩:=w.cb_ne;have p:=k.size;refine⟨⟨w.pl.upd k (c m fun h=>w.pv (.inl h)) (c hc w.ac),w.rm,fun y a=>(d y a).2,un hc w.ac,fun f=>(mv.2 _ f).elim w.pv fun h=>by omega,fun e b=>?_,fun e b=>?_,w.pw⟩,mv⟩
 ·have v:=w.av e b
  have q:=w.ew e b;exact⟨q.ed.upd k (c (aL q.ed) v.1),q.tk.upd k (c (aL q.tk) v.2.1),((q.iu.less (W':=fun y=>Un A cb es y∨h.size≤y) fun _ h=>h).upd k (fun y a=>(v.2.2.1 y a).2.2.2) fun y a=>(hm y a).imp (fun h=>⟨.inl (.inl h),fun i=>(v.2.2.1 y i).1 h⟩) id).less fun y a=>.inl (mv.2 y a),q.up,q.fit,q.len⟩
 ·have v:=w.av e b
  have q:=w.ew e b;exact⟨un (aL q.ed) v.1,un (aL q.tk) v.2.1,fun y a=>⟨un (v.2.2.1 y a).2.2.2 (v.2.2.1 y a).1,(v.2.2.1 y a).2.1,(v.2.2.1 y a).2.2.1,by have:=(v.2.2.1 y a).2.2.2;omega⟩,fun j f=>(mv.2 _ f).elim (v.2.2.2 j) fun h=>by have:=aL q.tk;omega⟩
theorem Wo.up0(w:Wo A h pb cb cap ids kind x n es)(k:Upd No h h'):Wo A h' pb cb cap ids kind x n es:=(w.own k (fun _ h=>h.elim) fun y a=>⟨.inl a,by have:=w.lt y a;have:=k.size;omega⟩).1
def Ot(A:Nat→Prop)(cb:Nat)(es:List Ed)(i:Nat)(y:Nat):Prop:=A y∨y=cb∨(∃e∈es,y=e.eb∨(e.lv=true∧y=e.tb))∨∃j b,es[j]? =some b∧j≠i∧b.S y
theorem Ot.un{i:Nat}{e:Ed}(d:es[i]? =some e) (y:Nat):(Ot A cb es i y∨e.S y)↔Un A cb es y:=by
 constructor
 ·rintro((h|h|⟨f,a,h⟩|⟨j,b,g,_,h⟩)|h)
  ·exact .inl h
  ·exact .inr (.inl h)
  ·exact .inr (.inr ⟨f,a,h.imp id .inl⟩)
  ·exact .inr (.inr ⟨b,aE g,.inr (.inr h)⟩)
  ·exact .inr (.inr ⟨e,aE d,.inr (.inr h)⟩)
 ·rintro(h|h|⟨f,a,h|h|h⟩)
  ·exact .inl (.inl h)
  ·exact .inl (.inr (.inl h))
  ·exact .inl (.inr (.inr (.inl ⟨f,a,.inl h⟩)))
  ·exact .inl (.inr (.inr (.inl ⟨f,a,.inr h⟩)))
  ·obtain⟨j,c⟩:=iU a
   by_cases e:j=i
   ·subst e;rw[d]at c;cases c;exact .inr h
   ·exact .inl (.inr (.inr (.inr ⟨j,f,c,e,h⟩)))
theorem Wo.edO(w:Wo A h pb cb cap ids kind x n es){i:Nat}{e:Ed}(c:es[i]? =some e) (d:e.lv=true):EdO (Ot A cb es i) e.S h e.eb pb e.tb e.ti kind x e.tu e.lu:=by
 have hm:=aE c;have q:=w.ew e hm;have v:=w.av e hm;have o:tok e=some ⟨e.tb,0,none⟩:=by unfold tok;rw[d];rfl
 refine⟨q.ed,d▸q.tk,(o▸q.iu).less fun y a=>.inl ((Ot.un c y).1 a),fun y a=>w.ult y ((Ot.un c y).1 a),.inr (.inr (.inl ⟨e,hm,.inl rfl⟩)),.inr (.inr (.inl ⟨e,hm,.inr ⟨d,rfl⟩⟩)),fun y a=>?_,q.up,q.fit⟩
 rintro(h|h|⟨f,g,h⟩|⟨j,b,k,m,h⟩)
 ·exact(v.2.2.1 y a).1 h
 ·exact(v.2.2.1 y a).2.1 h
 ·exact h.elim ((v.2.2.1 y a).2.2.1 f g).1 fun h=>((v.2.2.1 y a).2.2.1 f g).2 h.2
 ·exact(w.pw i j e b c k (Ne.symm m)).2.2 y a h
theorem Kz{e e':Ed}:∀{es:List Ed} {i:Nat},es[i]? =some e→uU (es.set i e')+(if e.lv then 1 else 0)=uU es+(if e'.lv then 1 else 0)
 |a::es,0,h=>by cases h;simp only[List.set_cons_zero,uU];omega
 |a::es,i+1,h=>by
  simp only[List.set_cons_succ,uU];have:=Kz (e':=e') (es:=es) (i:=i) (by simpa using h);omega
 | [],i,h=>by simp at h
theorem KA{e:Ed}:∀{es:List Ed},uU (es++ [e])=uU es+if e.lv then 1 else 0
 | []=>by simp only[List.nil_append,uU];omega
 |a::es=>by simp only[List.cons_append,uU,KA (es:=es)];omega
theorem Gp{α:Type}{l:List α}{i:Nat}{a b:α}(h:b∈l.set i a):b=a∨∃j,j≠i∧l[j]? =some b:=by
 obtain⟨j,c⟩:=iU h;rw[List.getElem?_set]at c;split at c
 ·split at c
  ·cases c;exact .inl rfl
  ·cases c
 ·exact .inr ⟨j,by omega,c⟩
theorem Wo.repl{P0:Prop}(w:Wo A h pb cb cap ids kind x n es){i:Nat}{e e':Ed}(S:es[i]? =some e) (Y:e.lv=true) (z:e'.eb=e.eb) (k:Upd M h h') (hM:∀y,M y→y=cb∨y=e.tb∨y=e.eb∨e.S y) (p:PoolAt h' pb cb cap ids') (hcap:ids'.length+(if e'.lv then 1 else 0)=ids.length+1)
  (C:e'.tb=e.tb∨h.size≤e'.tb) (R:∀y,e'.S y→(e.S y∨(h.size≤y∧y≠e'.tb))∧y<h'.size) (ed:EdAt h' e'.eb pb e'.tb e'.tu) (tk:TokAt h' e'.tb pb e'.ti e'.lv) (hn:n≤m) (up:cA e'.lu) (fit:Fit e'.lu) (len:e'.lu.length≤m)
  (P:Mv (Un A cb es) h (Un A cb (es.set i e')) h'→(∀y,Un A cb (es.set i e') y↔(Ot A cb (es.set i e') i y∨e'.S y))→(∀y,e.S y→¬Ot A cb (es.set i e') i y)→((e'.lv=false∨e'.tb≠e.tb)→¬Un A cb (es.set i e') e.tb)→TreeO (tok e') (Un A cb (es.set i e')) h' kind x e'.tu e'.lu e'.S∧P0):
  Wo A h' pb cb cap ids' kind x m (es.set i e')∧Me A cb es h (es.set i e') h'∧P0:=by
 have c:=aE S;have hi:i<es.length:=(aG.1 S).1;have v:=w.av e c;have q:=w.ew e c;have hz:=k.size;obtain⟨hc,hp,G⟩:=w.cb_ne;have lb:=aL q.tk;have N:(es.set i e')[i]? =some e':=List.getElem?_set_self hi;have oth:∀{f},f∈es.set i e'→f=e'∨∃j,j≠i∧es[j]? =some f∧f∈es∧f.eb≠e.eb∧f.tb≠e.tb∧(∀y,f.S y→¬e.S y)∧f.eb<h.size∧f.tb<h.size:=fun u=>(Gp u).imp id fun⟨j,E,u⟩=>by
  have pw:=w.pw j i _ e u S E;have hm:=aE u;exact⟨j,E,u,hm,pw.1,pw.2.1,pw.2.2,aL (w.ew _ hm).ed,aL (w.ew _ hm).tk⟩
 have mv:Mv (Un A cb es) h (Un A cb (es.set i e')) h':=by
  refine⟨k.mono fun y d=>.inl ?_,?_⟩
  ·rcases hM y d with rfl|rfl|rfl|d
   ·exact .inr (.inl rfl)
   ·exact .inr (.inr ⟨e,c,.inr (.inl ⟨Y,rfl⟩)⟩)
   ·exact .inr (.inr ⟨e,c,.inl rfl⟩)
   ·exact .inr (.inr ⟨e,c,.inr (.inr d)⟩)
  ·rintro y (d|d|⟨f,u,d⟩)
   ·exact .inl (.inl d)
   ·exact .inl (.inr (.inl d))
   ·rcases oth u with rfl|⟨j,E,K,o,_⟩
    ·rcases d with rfl|⟨_,rfl⟩|d
     ·rw[z];exact .inl (.inr (.inr ⟨e,c,.inl rfl⟩))
     ·rcases C with h|h
      ·rw[h];exact .inl (.inr (.inr ⟨e,c,.inr (.inl ⟨Y,rfl⟩)⟩))
      ·exact .inr h
     ·exact(R y d).1.imp (fun h=>.inr (.inr ⟨e,c,.inr (.inr h)⟩)) And.left
    ·exact .inl (.inr (.inr ⟨f,o,d⟩))
 have nM:∀{y},y≠cb→y≠e.tb→y≠e.eb→¬e.S y→¬M y:=fun s D h3 h4 h=>by rcases hM _ h with h|h|h|h<;>contradiction
 have L:∀{f},f∈es→∀{y},y=f.eb∨y=f.tb→¬e.S y:=fun u y d B=>by
  have:=(v.2.2.1 y B).2.2.1 _ u;exact d.elim this.1 this.2
 have sep:∀y,e.S y→¬Ot A cb (es.set i e') i y:=by
  rintro y B (h|h|⟨f,u,h⟩|⟨j,b,I,E,h⟩)
  ·exact(v.2.2.1 y B).1 h
  ·exact(v.2.2.1 y B).2.1 h
  ·have d:=(v.2.2.1 y B).2.2.2
   rcases oth u with rfl|⟨j,E,K,o,_⟩
   ·rcases h with h|⟨_,h⟩
    ·exact L c (.inl (h.trans z)) B
    ·rcases C with T|T
     ·exact L c (.inr (h.trans T)) B
     ·omega
   ·exact L o (h.imp id And.right) B
  ·rw[fj (Ne.symm E)]at I
   exact(w.pw i j e b S I (Ne.symm E)).2.2 y B h
 have X:(e'.lv=false∨e'.tb≠e.tb)→¬Un A cb (es.set i e') e.tb:=by
  rintro J (h|h|⟨f,u,h⟩)
  ·exact v.2.1 h
  ·exact(G e c).2.1 h.symm
  ·rcases oth u with rfl|⟨j,E,K,o,T,Z,e3,_⟩
   ·rcases h with h|⟨s,h⟩|h
    ·exact(G e c).2.2 e c (z.symm.trans h.symm)
    ·rcases J with J|J
     ·rw[J]at s;cases s
     ·exact J h.symm
    ·exact(R _ h).1.elim (fun h=>L c (.inr rfl) h) fun h=>by omega
   ·rcases h with h|⟨_,h⟩|h
    ·exact(G f o).2.2 e c h.symm
    ·exact Z h.symm
    ·exact((w.av f o).2.2.1 _ h).2.2.1 e c|>.2 rfl
 obtain⟨P,hP0⟩:=P mv (fun y=>(Ot.un N y).symm) sep X
 refine⟨⟨p,?_,fun y d=>by have:=w.lt y d;omega,w.ac,fun O=>(mv.2 _ O).elim w.pv fun h=>by omega,fun f u=>?_,fun f u=>?_,fun i' j' a b H I hij=>?_⟩,⟨mv,k.mono fun y d=>.inl ?_⟩,hP0⟩
 ·have:=Kz (e':=e') S
  have:=w.rm;rw[Y]at*;simp only[if_true]at*;omega
 ·rcases oth u with rfl|⟨j,E,K,o,T,Z,e3,e4,e5⟩
  ·exact⟨ed,tk,P,up,fit,len⟩
  ·have g:=w.ew f o
   have F:=w.av f o;have cf:=G f o;refine⟨g.ed.upd k (nM (Ne.symm cf.1) (cf.2.2 e c) T (L o (.inl rfl))),g.tk.upd k (nM (Ne.symm cf.2.1) Z (Ne.symm ((G e c).2.2 f o)) (L o (.inr rfl))),((g.iu.less (W':=fun y=>Un A cb es y∨h.size≤y) fun _ h=>h).upd k (fun y d=>(F.2.2.1 y d).2.2.2) fun y d=>.inl ⟨?_,fun B=>?_⟩).less fun y d=>.inl (mv.2 y d),g.up,g.fit,bv g.len hn⟩
   ·rcases hM y d with rfl|rfl|rfl|d
    ·exact .inl (.inr (.inl rfl))
    ·exact .inl (.inr (.inr ⟨e,c,.inr (.inl ⟨Y,rfl⟩)⟩))
    ·exact .inl (.inr (.inr ⟨e,c,.inl rfl⟩))
    ·exact .inl (.inr (.inr ⟨e,c,.inr (.inr d)⟩))
   ·have a:=F.2.2.1 y B
    rcases hM y d with h|h|h|h
    ·exact a.2.1 h
    ·exact(a.2.2.1 e c).2 h
    ·exact(a.2.2.1 e c).1 h
    ·exact e3 y B h
 ·rcases oth u with rfl|⟨j,E,K,o,T,Z,e3,e4,e5⟩
  ·refine⟨z▸v.1,?_,fun y d=>?_,fun J O=>?_⟩
   ·rcases C with h|h
    ·rw[h];exact v.2.1
    ·exact fun H=>by have:=w.lt _ H;omega
   ·have W:=(R y d).1
    refine⟨fun H=>?_,fun hc'=>?_,fun g hg=>?_,(R y d).2⟩
    ·exact W.elim (fun h=>(v.2.2.1 y h).1 H) fun h=>by have:=w.lt y H;omega
    ·exact W.elim (fun h=>(v.2.2.1 y h).2.1 hc') fun h=>by omega
    ·rcases oth hg with rfl|⟨_,_,_,Q,_,_,_,e4,e5⟩
     ·refine⟨fun h=>?_,fun h=>?_⟩
      ·exact W.elim (L c (.inl (h.trans z))) fun s=>by have:=aL q.ed;omega
      ·refine W.elim (fun B=>?_) fun s=>s.2 h
       rcases C with D|D
       ·exact L c (.inr (h.trans D)) B
       ·have:=(v.2.2.1 y B).2.2.2;omega
     ·exact W.elim (fun h=>(v.2.2.1 y h).2.2.1 g Q) fun h=>⟨by omega,by omega⟩
   ·rcases C with h|h
    ·rw[h]at O;exact X (.inl J) O
    ·rcases O with s|s|⟨f,u,s⟩
     ·have:=w.lt _ s;omega
     ·omega
     ·rcases oth u with rfl|⟨_,_,_,o,_,_,_,e4,e5⟩
      ·rcases s with s|⟨s,_⟩|s
       ·rw[z]at s;have:=aL q.ed;omega
       ·rw[J]at s;cases s
       ·exact(R _ s).1.elim (fun D=>by have:=(v.2.2.1 _ D).2.2.2;omega) fun D=>D.2 rfl
      ·rcases s with s|⟨_,s⟩|s
       ·omega
       ·omega
       ·have:=((w.av f o).2.2.1 _ s).2.2.2;omega
  ·have F:=w.av f o
   refine⟨F.1,F.2.1,fun y d=>⟨(F.2.2.1 y d).1,(F.2.2.1 y d).2.1,fun g hg=>?_,by have:=(F.2.2.1 y d).2.2.2;omega⟩,fun J O=>(mv.2 _ O).elim (F.2.2.2 J) fun h=>by omega⟩
   have hy2:=(F.2.2.1 y d).2.2.2;rcases oth hg with rfl|⟨_,_,_,Q,_⟩
   ·have a:=(F.2.2.1 y d).2.2.1 e c
    refine⟨fun h=>a.1 (h.trans z),fun h=>?_⟩
    rcases C with D|D
    ·exact a.2 (h.trans D)
    ·omega
   ·exact(F.2.2.1 y d).2.2.1 g Q
 ·have val:∀{j a},(es.set i e')[j]? =some a→(j≠i∧es[j]? =some a)∨(j=i∧a=e'):=fun{j a} H=>by
   by_cases ej:j=i
   ·subst ej
    rw[N]at H;cases H;exact .inr ⟨rfl,rfl⟩
   ·rw[fj (Ne.symm ej)]at H
    exact .inl ⟨ej,H⟩
  have one:∀{j b},es[j]? =some b→j≠i→e'.eb≠b.eb∧e'.tb≠b.tb∧∀y,e'.S y→¬b.S y:=fun{j b} I E=>by
   have pw:=w.pw i j e b S I (Ne.symm E);have V:=aE I;have lt:=aL (w.ew b V).tk;refine⟨z▸pw.1,?_,fun y d I=>?_⟩
   ·rcases C with h|h
    ·rw[h];exact pw.2.1
    ·omega
   ·have:=((w.av b V).2.2.1 y I).2.2.2
    exact(R y d).1.elim (fun h=>pw.2.2 y h I) fun h=>by omega
  rcases val H with⟨s,qa⟩|⟨s,rfl⟩<;>rcases val I with⟨D,qb⟩|⟨D,rfl⟩
  ·exact w.pw i' j' a b qa qb hij
  ·obtain⟨p1,p2,p3⟩:=one qa s
   exact⟨Ne.symm p1,Ne.symm p2,fun y d h=>p3 y h d⟩
  ·exact one qb D
  ·omega
 ·rcases hM y d with rfl|rfl|rfl|d
  ·exact w.ac
  ·exact v.2.1
  ·exact v.1
  ·exact(v.2.2.1 y d).1
theorem Wo.goes(w:Wo A h pb cb cap ids kind x n es){i:Nat}{e:Ed}(C:es[i]? =some e) (p:e.lv=true) {g:Nat→Prop} {d:Tr} {a:List Pr} (e':EdO (Ot A cb es i) g h' e.eb pb e.tb e.ti kind x d a) (k:Upd (fun y=>e.S y∨y=e.eb) h h') (D:∀y,g y→(e.S y∨h.size≤y)∧y<h'.size) (E:n≤m) (hm:a.length≤m):
  Wo A h' pb cb cap ids kind x m (es.set i {e with tu:=d,lu:=a,S:=g})∧Me A cb es h (es.set i {e with tu:=d,lu:=a,S:=g}) h':=by
 have c:=aE C;have v:=w.av e c;have q:=w.ew e c;obtain⟨hc,I,z⟩:=w.cb_ne;refine(fun r=>⟨r.1,r.2.1⟩) (w.repl (P0:=True) (e':={e with tu:=d,lu:=a,S:=g}) C p rfl k (fun y o=>o.elim (fun h=>.inr (.inr (.inr h))) fun h=>.inr (.inr (.inl h))) (w.pl.upd k (fun h=>w.pv ?_) (fun h=>?_)) (by simp[p]) (.inl rfl) (fun y o=>⟨(D y o).1.imp id fun h=>⟨h,by have:=aL q.tk;show y≠e.tb;omega⟩,(D y o).2⟩) e'.ed (p▸e'.tk) E e'.up e'.fit hm fun mv un G H=>⟨?_,trivial⟩)
 ·rcases h with h|h
  ·exact .inr (.inr ⟨e,c,.inr (.inr h)⟩)
  ·exact .inr (.inr ⟨e,c,.inl h⟩)
 ·rcases h with h|h
  ·exact(v.2.2.1 _ h).2.1 rfl
  ·exact(z e c).1 h
 ·have F:tok {e with tu:=d,lu:=a,S:=g}=some ⟨e.tb,0,none⟩:=by unfold tok;rw[p];rfl
  rw[F];refine e'.iu.less fun y o=>.inl (((un y).1 o).imp (fun h=>?_) id)
  rcases h with h|h|⟨f,u,h⟩|⟨j,b,B,s,h⟩
  ·exact .inl h
  ·exact .inr (.inl h)
  ·rcases Gp u with rfl|⟨j,s,u⟩
   ·exact .inr (.inr (.inl ⟨e,c,h⟩))
   ·exact .inr (.inr (.inl ⟨f,aE u,h⟩))
  ·rw[fj (Ne.symm s)]at B
   exact .inr (.inr (.inr ⟨j,b,B,s,h⟩))
theorem Wo.turn(w:Wo A h pb cb cap ids kind x n es){i:Nat}{e:Ed}(B:es[i]? =some e) (o:e.lv=true) {tb':Nat} {ti':Int} {lv' g:Bool} (k:Upd (fun y=>y=cb∨y=e.tb∨y=e.eb) h h') (p:PoolAt h' pb cb cap ids') (f:ids'.length+(if lv' then 1 else 0)=ids.length+1)
  (ed:EdAt h' e.eb pb tb' e.tu) (tk:TokAt h' tb' pb ti' lv') (s:TokAt h' e.tb pb e.ti g) (d:(tb'=e.tb∧lv'=false)∨h.size≤tb'):
  Wo A h' pb cb cap ids' kind x n (es.set i {e with tb:=tb',ti:=ti',lv:=lv',S:=No})∧Me A cb es h (es.set i {e with tb:=tb',ti:=ti',lv:=lv',S:=No}) h'∧TreeIs (Un A cb (es.set i {e with tb:=tb',ti:=ti',lv:=lv',S:=No})) h' kind x e.tu e.lu:=by
 have c:=aE B;have v:=w.av e c;have q:=w.ew e c;have D:=aL q.tk;have r:=w.repl (e':={e with tb:=tb',ti:=ti',lv:=lv',S:=No}) (m:=n) (P0:=TreeIs (Un A cb (es.set i {e with tb:=tb',ti:=ti',lv:=lv',S:=No})) h' kind x e.tu e.lu) B o rfl k (fun y b=>b.imp id fun h=>h.imp id .inl) p f (d.imp And.left id) (fun y b=>b.elim) ed tk (ao _) q.up q.fit q.len fun mv un u z=>?_
 ·exact⟨r.1,r.2.1,r.2.2⟩
 ·have G:tok e=some ⟨e.tb,0,none⟩:=by unfold tok;rw[o];rfl
  have j:∀y,(y=cb∨y=e.tb∨y=e.eb)→(Un A cb es y∨h.size≤y)∧¬e.S y:=fun y b=>by
   refine⟨?_,fun E=>?_⟩
   ·rcases b with rfl|rfl|rfl
    ·exact .inl (.inr (.inl rfl))
    ·exact .inl (.inr (.inr ⟨e,c,.inr (.inl ⟨o,rfl⟩)⟩))
    ·exact .inl (.inr (.inr ⟨e,c,.inl rfl⟩))
   ·have a:=v.2.2.1 y E
    rcases b with h|h|h
    ·exact a.2.1 h
    ·exact(a.2.2.1 e c).2 h
    ·exact(a.2.2.1 e c).1 h
  have i1:=((G▸q.iu).less (W':=fun y=>Un A cb es y∨h.size≤y) fun _ h=>h).upd k (fun y b=>(v.2.2.1 y b).2.2.2) fun y b=>.inl (j y b)
  have C:TreeIs (Un A cb (es.set i {e with tb:=tb',ti:=ti',lv:=lv',S:=No})) h' kind x e.tu e.lu:=i1.freeze (fun y b=>mv.2 y b) (fun a h=>by
   cases h
   exact⟨z (d.symm.imp (fun h=>by show tb'≠e.tb;omega) And.right).symm,_,_,s,by simp⟩) fun y b F=>((un y).1 F).elim (u y b) fun h=>h
  exact⟨yN C,C⟩
theorem Wo.begin(w:Wo A h pb cb cap ids kind x n es){i:Int}{eb tb:Nat}{tu:Tr}{lu:List Pr}(s:ids=i::ids')(k:Upd (· =cb) h h')(p:PoolAt h' pb cb cap ids')(t:TokAt h' tb pb i true)(ed:EdAt h' eb pb tb tu)(I:h.size≤eb)(H:h.size≤tb)(M:TreeIs (Un A cb es) h kind x tu lu)(up:cA lu)(fit:Fit lu)(len:lu.length≤n):
  Wo A h' pb cb cap ids' kind x n (es++ [⟨eb,tb,i,true,tu,lu,No⟩])∧Me A cb es h (es++ [⟨eb,tb,i,true,tu,lu,No⟩]) h':=by
 obtain⟨hc,P,q⟩:=w.cb_ne;have hz:=k.size;have J:eb≠tb:=(Sq ed t p).2.1;have mem:∀{f},f∈es++ [⟨eb,tb,i,true,tu,lu,No⟩]→f∈es∨f=⟨eb,tb,i,true,tu,lu,No⟩:=fun d=>(List.mem_append.1 d).imp id au.1
 have mv:Mv (Un A cb es) h (Un A cb (es++ [⟨eb,tb,i,true,tu,lu,No⟩])) h':=by
  refine⟨k.mono fun y c=>.inl (.inr (.inl c)),?_⟩
  rintro y (c|c|⟨f,d,c⟩)
  ·exact .inl (.inl c)
  ·exact .inl (.inr (.inl c))
  ·rcases mem d with d|rfl
   ·exact .inl (.inr (.inr ⟨f,d,c⟩))
   ·rcases c with rfl|⟨_,rfl⟩|c
    ·exact .inr I
    ·exact .inr H
    ·exact c.elim
 have u:∀{f},f∈es→f.eb<h.size∧f.tb<h.size:=fun d=>⟨aL (w.ew _ d).ed,aL (w.ew _ d).tk⟩
 refine⟨⟨p,?_,fun y c=>by have:=w.lt y c;omega,w.ac,fun z=>(mv.2 _ z).elim w.pv fun h=>by omega,fun f d=>?_,fun f d=>?_,fun L G a b m D B=>?_⟩,mv,k.mono fun y c=>.inl (c▸w.ac)⟩
 ·have:=w.rm
  rw[s]at this;rw[KA];simp only[aH,if_true]at*;omega
 ·rcases mem d with d|rfl
  ·have g:=w.ew f d
   have o:=w.av f d;exact⟨g.ed.upd k (Ne.symm (q f d).1),g.tk.upd k (Ne.symm (q f d).2.1),((g.iu.less (W':=fun y=>Un A cb es y∨h.size≤y) fun _ h=>h).upd k (fun y c=>(o.2.2.1 y c).2.2.2) fun y c=>.inl ⟨.inl (.inr (.inl c)),fun K=>(o.2.2.1 y K).2.1 c⟩).less fun y c=>.inl (mv.2 y c),g.up,g.fit,g.len⟩
  ·exact⟨ed,t,yN (M.mv mv),up,fit,len⟩
 ·rcases mem d with d|rfl
  ·have o:=w.av f d
   refine⟨o.1,o.2.1,fun y c=>⟨(o.2.2.1 y c).1,(o.2.2.1 y c).2.1,fun g C=>?_,by have:=(o.2.2.1 y c).2.2.2;omega⟩,fun F z=>(mv.2 _ z).elim (o.2.2.2 F) fun h=>by have:=(u d).2;omega⟩
   have N:=(o.2.2.1 y c).2.2.2;rcases mem C with C|rfl
   ·exact(o.2.2.1 y c).2.2.1 g C
   ·exact⟨by show y≠eb;omega,by show y≠tb;omega⟩
  ·exact⟨fun m=>by have:=w.lt _ m;simp only at this;omega,fun m=>by have:=w.lt _ m;simp only at this;omega,fun y c=>c.elim,fun F=>by cases F⟩
 ·have val:∀{j a},(es++ [⟨eb,tb,i,true,tu,lu,No⟩])[j]? =some a→es[j]? =some a∨(j=es.length∧a=⟨eb,tb,i,true,tu,lu,No⟩):=fun{j a} m=>by
   rw[List.getElem?_append]at m;split at m
   ·exact .inl m
   ·have:j-es.length=0:=by
     have:=(aG.1 m).1;simp only[aF]at this;omega
    rw[this]at m;cases m;exact .inr ⟨by omega,rfl⟩
  have one:∀{j:Nat} {b:Ed},es[j]? =some b→eb≠b.eb∧tb≠b.tb:=fun{j b} D=>by
   have:=u (aE D);exact⟨by omega,by omega⟩
  rcases val m with v|⟨O,rfl⟩<;>rcases val D with E|⟨Q,rfl⟩
  ·exact w.pw L G a b v E B
  ·exact⟨Ne.symm (one v).1,Ne.symm (one v).2,fun y _ h=>h.elim⟩
  ·exact⟨(one E).1,(one E).2,fun y h=>h.elim⟩
  ·omega
end
end Go.Proofs
namespace Go.Proofs
open Go Go.Lift
end Go.Proofs
namespace Go.Proofs
open Go Go.Lift
end Go.Proofs
namespace Go.Proofs
open Go Go.Lift
end Go.Proofs
namespace Go.Proofs
open Go Go.Lift
end Go.Proofs
namespace Go.Proofs
open Go Go.Lift
end Go.Proofs
namespace Go.Proofs
open Go Go.Lift
end Go.Proofs
namespace Go.Proofs
open Go Go.Lift
theorem NA{W:Nat→Prop}{h:af}{b:Nat}{l:List Pr}(t:RadAt W h b l)(hW:∀y,W y→y<h.size)(hr:cA l)(k:ByteArray){K:ByteArray×Bool→af→Prop}
  (X:∀R,Upd No h R→K ((look l k).getD ⟨#[]⟩,(look l k).isSome) R):HC PG zg [.pointer (some ⟨b,0,none⟩),.string k] [.c .str,.c .bool] K h:=by
 refine OK (some ⟨b,0,none⟩) k ?_;unfold FI bH cS bo jm aK GM;refine Tm (.inr ⟨b,rfl,t⟩) hW fun h2 b2 t2 hu2 _=>?_
 obtain⟨w,F,r1,r2,r3⟩:=t2.ex;have d:∀v,rO w F k.data.toList v↔look l k=some v:=fun v=>by
  rw[←kB,r3];constructor
  ·rintro⟨p,hp,e1,rfl⟩
   rw[←pE.1 e1];exact Ef hr hp
  ·intro hp;exact⟨_,N1 hp,rfl,rfl⟩
 refine LoopP.ghost (fun(g:ByteArray×Nat×ByteArray×Option ByteArray×Fo) (t:ByteArray×Option Addr) R=>t=(g.1,some ⟨g.2.1,0,none⟩)∧RxN W R g.2.1 g.2.2.1 g.2.2.2.1 g.2.2.2.2∧fU g.2.2.2.2∧(∀v,rO g.2.2.2.1 g.2.2.2.2 g.1.data.toList v↔look l k=some v)∧Upd No h R) (fun g=>g.1.size) (k,b2,⟨#[]⟩,w,F) ⟨rfl,r1,r2,d,hu2⟩ ?_
 clear d r1 r2 r3 t2;rintro I ⟨kk,c,sl,w,F⟩ t h5 ⟨rfl,r,hc,d,Y⟩ hI;simp only at r hc d;simp only[jq];by_cases H:kk=⟨#[]⟩
 ·subst H
  refine aj.2 (Nt r ?_);have e:look l k=w:=Option.ext fun v=>by
   rw[←d v];constructor
   ·rintro(⟨_,h⟩|h)
    ·exact h
    ·exact absurd rfl (pq hc h)
   ·intro h;exact .inl ⟨rfl,h⟩
  rw[e]at X;exact X _ Y
 ·rw[decide_eq_false H]
  refine aA.2 ?_;have q:kk.data.toList≠[]:=fun e=>H (by cases kk;exact congrArg kO (Array.toList_inj.1 e))
  obtain⟨c0,hc0,N⟩:=Ei q;refine⟨c0,Int.le_refl _,hc0,?_⟩;have Z:=r;obtain⟨val,s,ow,ks,hb,_,hs,hcap,hF⟩:=r;have hL:=rB.1 hF;have E:=fi.1 hc;have o:(∀v,¬qt F kk.data.toList v)→K ((⟨#[]⟩:ByteArray),false) h5:=fun B=>by
   have e:look l k=none:=by
    cases e:look l k with
    |none=>rfl
    |some v=>
     rcases(d v).2 e with⟨h,_⟩|h
     ·exact absurd h q
     ·exact absurd h (B v)
   rw[e]at X;exact X _ Y
  refine D5 Z hc (c:=c0.toNat) (UInt8.toNat_lt _) fun i ok hil T J G=>?_
  rw[N]at T J G;cases ok with
  |false=>
   refine aA.2 (o fun v d=>?_)
   obtain⟨n',M,e,_⟩:=qe hc d;obtain⟨j,V,rfl⟩:=List.getElem_of_mem M;rcases bO j i with hl|hl
   ·have:=T j V hl;omega
   ·have h1:=J j V hl
    have h2:=J i (by omega) (ao _);rcases bO i j with P|P
    ·have h3:=List.pairwise_iff_getElem.1 E.1 i j (by omega) V P
     omega
    ·have:i=j:=by omega
     subst this;have:=G.2 ⟨V,e⟩;cases this
  |true=>
   obtain⟨hi,O⟩:=G.1 rfl;refine aj.2 ⟨_,rfl,s,dI (i:=3) hb,?_⟩;obtain⟨kb,Q,hki,A,C⟩:=hL.at hi;have z:F.toL[i]∈F.toL:=List.getElem_mem hi;have D:=E.2 _ z;obtain⟨a,ha,_,hvv⟩:=hs.at0 hki;have L:=hs.len;rw[hL.1]at L;have f:∀v,qt F kk.data.toList v↔um F.toL[i] kk.data.toList v:=fun v=>by
    constructor
    ·intro d
     obtain⟨n',M,e,hN⟩:=qe hc d;rw[←xV hc M z (by omega)];exact hN
    ·intro d;exact fY.2 ⟨_,z,d⟩
   refine⟨⟨by simp only;omega,by simp only;omega⟩,a,ha,some ⟨kb,0,none⟩,hvv,_,rfl,?_⟩
   obtain⟨kval,kss,kow,kks,S,_⟩:=id C;generalize F.toL[i]=m at A C D f O;obtain⟨lab,wk,Fk⟩:=m;simp only at A C D O S;refine⟨Q,dI (i:=0) S,WI (fun u n=>?_) fun B=>?_⟩
   ·rw[A]at n
    have hlne:lab.length≠0:=fun e=>D.1 (List.length_eq_zero_iff.1 e)
    have hrl:u.size<kk.size:=by
     rw[←lh u,←lh kk,n,ad];omega
    refine aj.2 (hI (u,kb,Q,wk,Fk) _ _ ⟨rfl,C,D.2.2,fun v=>?_,Y⟩ hrl)
    rw[←d v];constructor
    ·intro h;exact .inr ((f v).2 ⟨_,n,h⟩)
    ·rintro(⟨h,_⟩|h)
     ·exact absurd h q
     ·obtain⟨r',e,hr'⟩:=(f v).1 h
      simp only at e;rw[n]at e;rw[List.append_cancel_left e];exact hr'
   ·rw[A]at B
    refine aA.2 (o fun v h=>?_)
    obtain⟨r',e,_⟩:=(f v).1 h;exact B r' e
theorem XM{W:Nat→Prop}{x:Hs}{h:af}{a:Int}{t:Tr}{l:List Pr}(i:TreeIs W h a x t l)(m:∀y,W y→y<h.size)(g:cA l)(n:l.length≤1000000)(k:ByteArray){K:Sd→af→Prop}(j:∀h',Upd No h h'→K ((look l k).getD ⟨#[]⟩,(look l k).isSome) h'):HC PG sI [Jb t,.string k] [.c .str,.c .bool] K h:=by
 refine F3 t k ?_;unfold yu yg bD aQ rF Ao ci;rcases i with⟨_,b,rfl,t⟩|⟨_,b,rfl,t⟩
 ·refine aN fun o b1 k1=>⟨_,vc b1 0,aj.2 ⟨_,ga b1 1 0,_,ga b1 1 1,_,ga b1 1 2,_,vc b1 4,?_⟩⟩
  exact OC (TrieAt.upd0 k1 t) (fun y f=>bG (m y f) k1.size) g n k fun c d=>j c (k1.tr d)
 ·refine aN fun o b1 k1=>⟨_,vc b1 0,aA.2 ⟨_,vc b1 5,?_⟩⟩
  exact NA (t.upd0 k1) (fun y f=>bG (m y f) k1.size) g k fun c d=>j c (k1.tr d)
end Go.Proofs
namespace Go.Proofs
open Go Go.Lift
theorem TV{h:af}{eb pb tb cb cap:Nat}{i ti:Int}{ids j:List Int}{tu:Tr}(e:EdAt h eb pb tb tu)(k:TokAt h tb pb ti true)(p:PoolAt h pb cb cap ids)(Y:ids.length<cap)(hi:ids++ [ti]=i::j){K:Tr×Int→af→Prop}
  (Z:∀h' tb',Upd (fun y=>y=cb∨y=tb∨y=eb) h h'→PoolAt h' pb cb cap j→TokAt h' tb pb ti false→TokAt h' tb' pb i true→EdAt h' eb pb tb' tu→h.size≤tb'→K (tu,0) h'):HC PG lz [.pointer (some ⟨eb,0,none⟩)] Po K h:=by
 obtain⟨S,n2,X⟩:=Sq e k p;have ze:=aL e;have zt:=aL k;obtain⟨pn,E,_,_,hc⟩:=id p;have zp:=aL E;have zc:=aL hc;have O:pb≠tb:=fun h=>by subst h;have:=E.symm.trans k;simp at this
 have J:pb≠eb:=fun h=>by subst h;have:=E.symm.trans e;simp at this
 refine wU _ ?_;unfold rl aq eX nv bD aQ uO rF cz Cm eH;refine aN fun M b1 k1=>Fq (e.upd k1 id) (k.upd k1 id) (p.upd0 k1) Y fun Q s N V I=>vY (t:=tu) fun G L n=>Join.plain (aA.2 ?_)
 have s1:=k1.size;have z1:=aL b1;have s3:=s.size;have s5:=n.size;have H:=I.upd n id;have F:=N.upd0 n;have T:=V.upd n id;rw[hi]at F;refine⟨_,rfl,_,vc H 0,Fc F fun q d z o=>?_⟩
 have W:=aL o;have s10:=d.size;have D:=H.upd d S;refine⟨_,rfl,kU D (i:=1) (by simp) rfl fun C A a=>?_⟩
 have R:=n.get0 (s.get b1 (by omega));have m:=a.oth (d.get L (by omega)) (by omega);refine⟨_,vc m 0,_,vc m 1,_,vc m 2,_,vc m 3,_,vc m 4,_,vc m 5,?_⟩;refine cW (c:=lD yF) (vs:=lD tu) (a.oth (d.get R (by omega)) (by omega)) rfl fun u b f=>?_
 refine⟨_,vc b 0,_,vc b 1,_,vc b 2,_,vc b 3,_,vc b 4,_,vc b 5,?_⟩;have w:=(z.upd a (by omega) (by omega)).upd f (by omega) (by omega);refine Z u G.size ?_ w (((T.upd d X).upd a (by omega)).upd f (by omega)) ((o.upd a (by omega)).upd f (by omega)) ((EdAt.upd (t:=tu) A (Upd.refl (fun _=>False) _) id).upd f (by omega)) (by omega)
 have P:Upd (fun y=>y=cb∨y=tb∨y=eb) M Q:=s.mono fun y g=>.inl (g.imp id .inl)
 have v:Upd (fun y=>y=cb∨y=tb∨y=eb) G q:=d.mono fun y g=>.inl (.inl g)
 have B:Upd (fun y=>y=cb∨y=tb∨y=eb) q C:=a.mono fun y g=>.inl (.inr (.inr g))
 exact((((k1.wide.tr P).tr n.wide).tr v).tr B).trans f fun y g=>.inr (by have g:y=h.size:=g;omega)
theorem Eg{e:Ed}:∀{es:List Ed} {i:Nat},es[i]? =some e→e.lv=true→1≤uU es
 |a::es,0,h,hl=>by cases h;simp only[uU];rw[if_pos hl];omega
 |a::es,i+1,h,hl=>by
  have:=Eg (es:=es) (i:=i) (by simpa using h) hl;simp only[uU];omega
 | [],i,h,hl=>by simp at h
section
variable {A:Nat→Prop} {h:af} {pb cb cap n:Nat} {ids:List Int} {kind:Int} {x:Hs} {es:List Ed} {i:Nat} {e:Ed}
theorem aat(w:Wo A h pb cb cap ids kind x n es)(d:es[i]? =some e) (f:e.lv=true) (o:n≤1000) (p:Pr) (j:p.1.size≤5030∧p.2.size≤5030) {K:Int→af→Prop}
  (g:∀b a c,Wo A b pb cb cap ids kind x (n+1) (es.set i {e with tu:=a,lu:=mZ e.lu p,S:=c})→Me A cb es h (es.set i {e with tu:=a,lu:=mZ e.lu p,S:=c}) b→K (DW p) b):HC PG hE [.pointer (some ⟨e.eb,0,none⟩),.agg #[.string p.1,.string p.2]] [.c (.int .i64)] K h:=by
 have q:=w.ew e (aE d);have wl:=M8 q.up q.fit q.len j;exact Oo (w.edO d f) (by have:=q.len;omega) p (fun b a c e' k m=>let r:=w.goes d f e' k m (gI n) wl.2.2;g b a c r.1 r.2) wl.2.1
theorem Y7(w:Wo A h pb cb cap ids kind x n es)(d:es[i]? =some e) (f:e.lv=true) (m:n≤1000) (k:ByteArray) {K:Int→af→Prop}
  (g:∀b a c,Wo A b pb cb cap ids kind x (n+1) (es.set i {e with tu:=a,lu:=pV e.lu k,S:=c})→Me A cb es h (es.set i {e with tu:=a,lu:=pV e.lu k,S:=c}) b→K (Eu e.lu k) b):HC PG jM [.pointer (some ⟨e.eb,0,none⟩),.string k] [.c (.int .i64)] K h:=by
 have q:=w.ew e (aE d);have wl:=Oe (k:=k) q.up q.fit q.len;exact TY (w.edO d f) (by have:=q.len;omega) k (fun b a c e' k j=>let r:=w.goes d f e' k j (gI n) wl.2.2;g b a c r.1 r.2)
theorem SP(w:Wo A h pb cb cap ids kind x n es)(b:es[i]? =some e) (c:e.lv=true) {K:Tr×Int→af→Prop}
  (d:∀a,Wo A a pb cb cap (ids++ [e.ti]) kind x n (es.set i {e with lv:=false,S:=No})→Me A cb es h (es.set i {e with lv:=false,S:=No}) a→TreeIs (Un A cb (es.set i {e with lv:=false,S:=No})) a kind x e.tu e.lu→K (e.tu,0) a):jX (some ⟨e.eb,0,none⟩) K h:=by
 have q:=w.ew e (aE b);have hv:=Eg b c;refine HR q.ed (c▸q.tk) w.pl (by have:=w.rm;omega) fun a k p t ed=>?_
 have r:=w.turn (tb':=e.tb) (ti':=e.ti) (lv':=false) b c (k.mono fun y f=>.inl (f.imp id .inl)) p (by simp) ed t t (.inl ⟨rfl,rfl⟩)
 exact d a r.1 r.2.1 r.2.2
theorem UT(w:Wo A h pb cb cap ids kind x n es)(a:es[i]? =some e) (c:e.lv=true) {K:Tr×Int→af→Prop}
  (b:∀h',Wo A h' pb cb cap (ids++ [e.ti]) kind x n (es.set i {e with lv:=false,S:=No})→Me A cb es h (es.set i {e with lv:=false,S:=No}) h'→TreeIs (Un A cb (es.set i {e with lv:=false,S:=No})) h' kind x e.tu e.lu→K (e.tu,0) h'):HC PG gw [.pointer (some ⟨e.eb,0,none⟩)] Po K h:=
 pH _ (SP w a c b)
theorem Y6(w:Wo A h pb cb cap ids kind x n es)(d:es[i]? =some e) (f:e.lv=true) {j:Int} {a:List Int} (hi:ids++ [e.ti]=j::a) {K:Tr×Int→af→Prop}
  (m:∀b tb',Wo A b pb cb cap a kind x n (es.set i {e with tb:=tb',ti:=j,lv:=true,S:=No})→Me A cb es h (es.set i {e with tb:=tb',ti:=j,lv:=true,S:=No}) b→TreeIs (Un A cb (es.set i {e with tb:=tb',ti:=j,lv:=true,S:=No})) b kind x e.tu e.lu→K (e.tu,0) b):HC PG lz [.pointer (some ⟨e.eb,0,none⟩)] Po K h:=by
 have q:=w.ew e (aE d);have hv:=Eg d f;refine TV q.ed (f▸q.tk) w.pl (by have:=w.rm;omega) hi fun b tb' k p t o ed g=>?_
 have c:ids.length+1=a.length+1:=by have:=congrArg List.length hi;simpa using this
 have r:=w.turn (tb':=tb') (ti':=j) (lv':=true) d f k p (by simpa using c.symm) ed o t (.inr g);exact m b tb' r.1 r.2.1 r.2.2
theorem Xy(w:Wo A h pb cb cap ids kind x n es){j:Int}{a:List Int}(hi:ids=j::a){t:Tr}{l:List Pr}(c:TreeIs (Un A cb es) h kind x t l)(up:cA l)(fit:Fit l)(len:l.length≤n){K:Option Addr×Int→af→Prop}
  (d:∀b eb tb,Wo A b pb cb cap a kind x n (es++ [⟨eb,tb,j,true,t,l,No⟩])→Me A cb es h (es++ [⟨eb,tb,j,true,t,l,No⟩]) b→K (some ⟨eb,0,none⟩,0) b):HC PG nW [.pointer (some ⟨pb,0,none⟩),Jb t] [.c .ptr,.c (.int .i64)] K h:=by
 subst hi;refine HS w.pl t fun b eb tb k p tk ed g f=>?_
 have r:=w.begin rfl k p tk ed g f c up fit len;exact d b eb tb r.1 r.2
theorem Zl{U:Nat→Prop}(q:EdW U h pb kind x n e):By h (some ⟨e.tb,0,none⟩) (tok e):=q.tk.by_
theorem EdW.is{U:Nat→Prop}(q:EdW U h pb kind x n e):TreeIs No h kind x e.tu e.lu:=q.iu.read (Zl q)
theorem Wz{U:Nat→Prop}(q:EdW U h pb kind x n e)(b:n≤60000)(k:ByteArray){K:ByteArray×Bool→af→Prop}(a:∀h',Upd No h h'→K ((look e.lu k).getD ⟨#[]⟩,(look e.lu k).isSome) h'):HC PG sM [.pointer (some ⟨e.eb,0,none⟩),.string k] [.c .str,.c .bool] K h:=by
 refine Gb _ k ?_;unfold yC yM gO ci eH;have ed:=q.ed;exact aj.2 ⟨_,rfl,_,ga ed 2 0,_,ga ed 2 1,_,ga ed 2 2,_,ga ed 2 3,_,ga ed 2 4,_,ga ed 2 5,XM q.is (fun _ h=>h.elim) q.up (by have:=q.len;omega) k a⟩
theorem Wy{U:Nat→Prop}(q:EdW U h pb kind x n e)(b:n≤60000){K:Int→af→Prop}(a:∀h',Upd No h h'→K (e.lu.length:Int) h'):HC PG sL [.pointer (some ⟨e.eb,0,none⟩)] [.c (.int .i64)] K h:=by
 refine Ga _ ?_;unfold yB yM gO ci eH;have ed:=q.ed;exact aj.2 ⟨_,rfl,_,ga ed 2 0,_,ga ed 2 1,_,ga ed 2 2,_,ga ed 2 3,_,ga ed 2 4,_,ga ed 2 5,LD q.is q.up (by have:=q.len;omega) a⟩
theorem QA{U W':Nat→Prop}(q:EdW U h pb kind x n e)(c:n≤60000)(a:∀y,W' y→y<h.size){K:SliceV→af→Prop}(b:∀s' h',Sl fe 2 W' h' s' e.lu→Upd No h h'→K s' h'):HC PG qo [.pointer (some ⟨e.eb,0,none⟩)] [.c .slice] K h:=by
 refine Dv _ ?_;unfold vM yM gO ci eH;have ed:=q.ed;exact aj.2 ⟨_,rfl,_,ga ed 2 0,_,ga ed 2 1,_,ga ed 2 2,_,ga ed 2 3,_,ga ed 2 4,_,ga ed 2 5,Tb q.is q.up q.fit (by have:=q.len;omega) a b⟩
theorem Sr{U:Nat→Prop}(q:EdW U h pb kind x n e){K:Int→af→Prop}(a:K e.ti h):HC PG qp [.pointer (some ⟨e.eb,0,none⟩)] [.c (.int .i64)] K h:=by
 refine Ip _ ?_;unfold zI eH;have ed:=q.ed;refine aj.2 ⟨_,rfl,_,vc ed 1,EF _ ?_⟩;unfold w7 gO;exact aj.2 ⟨_,rfl,_,vc q.tk 1,a⟩
theorem On{U:Nat→Prop}(q:EdW U h pb kind x n e){K:Tr×Bool→af→Prop}(d:∀h',Upd No h h'→K (if e.lv then yF else e.tu, !e.lv) h'):HC PG pC [.pointer (some ⟨e.eb,0,none⟩)] [.agg [.int .i64,.int .u64,.int .u64,.int .u64,.ptr,.ptr],.c .bool] K h:=by
 refine B0 _ ?_;unfold uG aq eX bD aQ uO Cm gO ci eH;refine aN fun f b1 k1=>zm (q.ed.upd k1 id) (q.tk.upd k1 id) ?_
 have ed:=q.ed.upd k1 id;cases hl:e.lv
 ·refine aj.2 ⟨_,rfl,_,ga ed 2 0,_,ga ed 2 1,_,ga ed 2 2,_,ga ed 2 3,_,ga ed 2 4,_,ga ed 2 5,?_⟩
  refine cW (c:=lD yF) (vs:=lD e.tu) b1 rfl fun a b3 b=>⟨_,vc b3 0,_,vc b3 1,_,vc b3 2,_,vc b3 3,_,vc b3 4,_,vc b3 5,?_⟩
  have:=d a (k1.own b (ao _));rw[hl]at this;exact this
 ·refine aA.2 (cW (c:=lD yF) (vs:=lD yF) b1 rfl fun a b3 b=>⟨_,vc b3 0,_,vc b3 1,_,vc b3 2,_,vc b3 3,_,vc b3 4,_,vc b3 5,?_⟩)
  have:=d a (k1.own b (ao _));rw[hl]at this;exact this
end
end Go.Proofs
