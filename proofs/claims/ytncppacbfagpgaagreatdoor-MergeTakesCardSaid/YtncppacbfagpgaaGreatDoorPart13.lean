/- A part of the proof that the named laws of this program answer true, whatever the input. -/
import Derived.Test.YtncppacbfagpgaaGreatDoorPart12
import Derived.Test.YtncppacbfagpgaaGreatDoorPart11
import Derived.Test.YtncppacbfagpgaaGreatDoorPart6
import Derived.Test.YtncppacbfagpgaaGreatDoorPart10
open Bool renaming true_and→nW
open Int renaming tmod→kI
open List renaming length_append→ac,append_assoc→aq,flatMap_append→bI,getElem?_eq_getElem→af,getElem_mem→bh,mem_singleton→aD,mem_cons→aC,length_cons→ar,foldl_cons→jd,pairwise_singleton→cD,take_take→iI,take_length→ce
open Nat renaming le_refl→aj,add_assoc→mr,zero_add→aR,le_trans→aX,mul_le_mul_right→cz,lt_or_ge→bR,zero_le→aS,min_eq_right→il,min_eq_left→bH,lt_of_lt_of_le→aG
open Option renaming some→bO
namespace Go.Proofs
open Go Go.Lift
theorem XY{c:Nat}:IntKind.wrap .u32 (((2^c%4294967296:Nat):Int)*2)=((2^(c+1)%4294967296:Nat):Int):=by
 rw[IntKind.wrap_u32,Nat.pow_succ];omega
theorem aam{q:List Pr}:(SK q==(1:Int))=(km q).isSome:=by
 match q with
 | []=>rfl
 | [a]=>rfl
 |a::b::q=>rw[show SK (a::b::q)=2 by unfold SK;rw[if_neg (by simp),if_pos (by simp)]];rfl
theorem aal{q:List Pr}:(SK q==(2:Int))=(fZ q).isSome:=by
 match q with
 | []=>rfl
 | [a]=>rfl
 |a::b::q=>rw[show SK (a::b::q)=2 by unfold SK;rw[if_neg (by simp),if_pos (by simp)]];rw[show fZ (a::b::q)=some (a::b::q) by unfold fZ;rw[if_pos (by simp)]];rfl
def TwoB(n0 a:Nat)(h:ad)(so c:SliceV)(L:List Pr)(B:List UInt8):Prop:=
 ∃M N:Nat→Prop,OwnS ey 2 bU M h so L∧OwnS rD 1 cQ N h c B∧(∀b,M b→n0≤b∧b<a∧¬N b)∧∀b,N b→n0≤b∧b<a
theorem TwoB.upd0{n0 b:Nat}{h h':ad}{so a:SliceV}{L:List Pr}{B:List UInt8}(t:TwoB n0 b h so a L B)(k:Upd No h h'):TwoB n0 b h' so a L B:=by
 obtain⟨M,N,c,h2,e,d⟩:=t;exact⟨M,N,c.upd k fun _ _ h=>h,h2.upd k fun _ _ h=>h,e,d⟩
theorem TwoB.up{n0 e g:Nat}{h:ad}{so d:SliceV}{L:List Pr}{B:List UInt8}(t:TwoB n0 e h so d L B)(j:e≤g):TwoB n0 g h so d L B:=by
 obtain⟨M,N,i,h2,c,f⟩:=t;exact⟨M,N,i,h2,fun b a=>⟨(c b a).1,by have:=(c b a).2.1;omega,(c b a).2.2⟩,fun b a=>⟨(f b a).1,by have:=(f b a).2;omega⟩⟩
theorem TwoB.appP{n0 e:Nat}{h:ad}{so g:SliceV}{L:List Pr}{B:List UInt8}{p:Pr}(t:TwoB n0 e h so g L B)(o:n0≤e)(n:e≤h.size)(q:L.length≤1000000){xs:List Value}(hx:xs=ey p){K:SliceV→ad→Prop}
  (k:∀s' h',TwoB n0 h'.size h' s' g (L++ [p]) B→Upd (fun b=>n0≤b) h h'→K s' h'):AppP (some [.string (⟨#[]⟩:ByteArray),.string (⟨#[]⟩:ByteArray)]) 2 32 bU so.a so.len so.cap 1 xs h K:=by
 subst hx;obtain⟨M,N,j,h2,d,c⟩:=t;refine AppP.own (ys:= [p]) (j.more (M':=fun b=>M b∨h.size≤b) fun _ h=>.inl h) rfl rfl rfl rfl (by omega) (by simp only[List.length_singleton];omega) (.inr (aj _)) fun s' h' m f=>?_
 have s:=f.size;refine k s' h' ⟨_,N,m.within,h2.upd f fun b a hm=>hm.elim (fun hm=>(d b hm).2.2 a) fun hm=>by have:=(c b a).2;omega,fun b a=>⟨?_,a.2,fun i=>?_⟩,fun b a=>⟨(c b a).1,by have:=(c b a).2;omega⟩⟩ (f.mono fun b a=>a.elim (fun a=>.inl (d b a).1) .inr)
 ·rcases a.1 with a|a
  ·exact(d b a).1
  ·omega
 ·rcases a.1 with a|a
  ·exact(d b a).2.2 i
  ·have:=(c b i).2;omega
theorem TwoB.appB{W:Nat→Prop}{n0 g:Nat}{h:ad}{so d e:SliceV}{L:List Pr}{B ys:List UInt8}(t:TwoB n0 g h so d L B)(u:n0≤g)(q:g≤h.size)(n:Sl rD 1 W h e ys)(p:B.length+ys.length≤140737488355328){K:SliceV→ad→Prop}
  (m:∀s' h',TwoB n0 h'.size h' so s' L (B++ys)→Upd (fun b=>n0≤b) h h'→K s' h'):∃xs,SRow h e.a (e.len*1) xs∧AppP (some [.int .u8 0]) 1 1 cQ d.a d.len d.cap e.len xs h K:=by
 obtain⟨M,N,k,h2,c,j⟩:=t;refine Bb (M:=fun b=>N b∨h.size≤b) (h2.more fun _ h=>.inl h) n (fun _ h=>.inr h) p fun s' h' o i=>?_
 have s:=i.size;refine m s' h' ⟨M,_,k.upd i fun b a hm=>hm.elim (fun hm=>(c b a).2.2 hm) fun hm=>by have:=(c b a).2.1;omega,o.within,fun b a=>⟨(c b a).1,by have:=(c b a).2.1;omega,fun f=>?_⟩,fun b a=>⟨?_,a.2⟩⟩ (i.mono fun b a=>a.elim (fun a=>.inl (j b a).1) .inr)
 ·rcases f.1 with f|f
  ·exact(c b a).2.2 f
  ·have:=(c b a).2.1;omega
 ·rcases a.1 with a|a
  ·exact(j b a).1
  ·omega
theorem F6{β:Type}(g:Nat→Option β):∀n,(fm g n).length≤n
 |0=>by simp[fm]
 |n+1=>by
  rw[jG,ac];have:=F6 g n;cases g n<;>simp<;>omega
theorem abP{β:Type}(g:Nat→Option β){n m:Nat}(h:n≤m):∃r,fm g m=fm g n++r:=by
 obtain⟨j,rfl⟩:∃j,m=n+j:=⟨m-n,by omega⟩
 clear h;induction j with
 |zero=>exact⟨[],by simp⟩
 |succ j ih=>obtain⟨r,a⟩:=ih;exact⟨r++(g (n+j)).toList,by rw[←mr,jG,a,aq]⟩
set_option maxRecDepth 4000 in
theorem Z0{x:Hs}:∀(m:Nat),m≤13→∀{h:ad} {b:Nat} {l:List Pr},DTrie No x h m b l→Fit l→l.length≤60000→∀{K:SliceV→ad→Prop},(∀s' h',OwnS rD 1 cQ (fun y=>h.size≤y) h' s' (gu x m l)→Upd No h h'→K s' h')→
  HC PG En [.pointer (some ⟨b,0,none⟩),.int .i64 ((13-m:Nat):Int)] [.c .slice] K h:=by
 intro m;induction m with
 |zero=>
  intro _ h b l t X hn K hk;refine QR (some ⟨b,0,none⟩) ((13-0:Nat):Int) ?_;unfold KB bE bT bK az lO iU vl bF;obtain⟨_,⟨sa,sn,sc⟩,hb,hs⟩:=t;obtain rfl:sn=l.length:=hs.len;have g:∀{h':ad} {i:Nat},Upd No h h'→i<130→aJ h' (adr ⟨b,0,none⟩ i)=some (dF true ⟨sa,l.length,sc⟩ (fun _=> []) (fun _=>none) i):=fun k hi=>by rw[cd,bm (k.get0 hb),aR,JL hi]
  have r0:=Upd.refl No h;have e1:gu x 0 l= [1]++pe l.length 2++mG l:=by unfold gu;simp
  have hpl:=pa X;rw[e1]at hk;refine⟨_,rfl,true,g (i:=0) r0 (by omega),aw.2 ⟨_,rfl,⟨sa,l.length,sc⟩,g (i:=1) r0 (by omega),_,rfl,⟨sa,l.length,sc⟩,g (i:=1) r0 (by omega),?_,?_⟩⟩
  ·refine aP fun h1 b1 k1=>⟨g (i:=1) k1 (by omega),g (i:=1) k1 (by omega),?_⟩
   have o1:=BI (b:=1) b1;refine H1 (n:=l.length) (by omega) fun s2 h2 v e=>⟨g (i:=1) (k1.tr e) (by omega),g (i:=1) (k1.tr e) (by omega),?_⟩
   have s1:=k1.size;have s2':=e.size;refine Bb (o1.upd e fun _ _ h=>h) (v.sl (W:=No) fun _ _ _ h=>h) (fun y d=>by show h.size≤y;omega) (by rw[dK];simp) fun s3 u A T=>?_
   have s:Upd No h u:=(k1.tr e).trans T fun y d=>.inr d
   refine⟨g (i:=1) s (by omega),g (i:=1) s (by omega),?_⟩;refine FR (hs.upd s fun _ h=>h.elim) X hn fun s4 h4 o f=>⟨g (i:=1) (s.tr f) (by omega),?_⟩
   have s3':=s.size;have G:=f.size;refine Bb (A.upd f fun _ _ h=>h) (o.sl (W:=No) fun _ _ _ h=>h) (fun y d=>by show h.size≤y;omega) (by rw[ac,dK];simp;omega) fun s5 H w O=>?_
   have Q:Upd No h H:=(s.tr f).trans O fun y d=>.inr d
   exact⟨g (i:=1) Q (by omega),hk s5 H w Q⟩
  ·refine H1 (n:=l.length) (by omega) fun s2 h2 v e=>⟨g (i:=1) e (by omega),g (i:=1) e (by omega),?_⟩
   refine aP fun h1 b1 k1=>⟨g (i:=1) (e.tr k1) (by omega),g (i:=1) (e.tr k1) (by omega),?_⟩
   have o1:=BI (b:=1) b1;have s1:=k1.size;have s2':=e.size;refine Bb (M:=fun y=>h.size≤y) (o1.more fun y d=>by show h.size≤y;omega) ((v.upd k1 fun _ _ h=>h).sl (W:=No) fun _ _ _ h=>h) (fun y d=>by show h.size≤y;omega) (by rw[dK];simp) fun s3 u A T=>?_
   have s:Upd No h u:=(e.tr k1).trans T fun y d=>.inr d
   refine⟨g (i:=1) s (by omega),g (i:=1) s (by omega),?_⟩;refine FR (hs.upd s fun _ h=>h.elim) X hn fun s4 h4 o f=>⟨g (i:=1) (s.tr f) (by omega),?_⟩
   have s3':=s.size;have G:=f.size;refine Bb (A.upd f fun _ _ h=>h) (o.sl (W:=No) fun _ _ _ h=>h) (fun y d=>by show h.size≤y;omega) (by rw[ac,dK];simp;omega) fun s5 H w O=>?_
   have Q:Upd No h H:=(s.tr f).trans O fun y d=>.inr d
   exact⟨g (i:=1) Q (by omega),hk s5 H w Q⟩
 |succ m ih=>
  intro hm h b l t X hn K hk;refine QR (some ⟨b,0,none⟩) ((13-(m+1):Nat):Int) ?_;unfold KB bE bT bK az lO iU vl bF;obtain⟨_,kk,hb,hkid⟩:=t;have elev:(13-(m+1):Nat)=12-m:=by omega
  rw[elev];obtain⟨q,hq⟩:∃q:Nat→List Pr,q=fun c=>part x (12-m) c l:=⟨_,rfl⟩
  have E:∀c,part x (12-m) c l=q c:=fun c=>by rw[hq]
  rw[←hq]at hb;have g:∀{h':ad} {i j:Nat},Upd No h h'→i+j<130→aJ h' (adr (adr ⟨b,0,none⟩ i) j)=some (dF false ⟨none,0,0⟩ q kk (i+j)):=fun k hi=>by rw[cd,cd,bm (k.get0 hb),aR,JL hi]
  have g0:aJ h (adr ⟨b,0,none⟩ 0)=some (dF false ⟨none,0,0⟩ q kk 0):=by rw[cd,bm hb,JL (by omega)]
  refine⟨_,rfl,false,g0,ag.2 ?_⟩;have hML:∀L∈mu x (12-m) l,2≤L.length∧(gu x m L).length≤9+L.length*(20004+9*(m+1)):=fun L hL=>by
   obtain⟨u,c,rfl⟩:=rp hL;exact⟨u,qM m X.part⟩
  have htot:((mu x (12-m) l).flatMap (gu x m)).length≤60000*(20004+9*(m+1)+9):=by
   have h1:=HZ hML;have h2:=yg x (12-m) l;exact aX h1 (cz _ (by omega))
  have hm20:20004+9*(m+1)+9≤20200:=by omega
  have V:((mu x (12-m) l).flatMap (gu x m)).length≤60000*20200:=aX htot (Nat.mul_le_mul_left _ hm20);have P:∀c,c≤32→((fm (fun j=>fZ (q j)) c).flatMap (gu x m)).length≤60000*20200:=fun c hc=>by
   obtain⟨r,hr⟩:=abP (fun j=>fZ (q j)) hc
   have:((fm (fun j=>fZ (q j)) 32).flatMap (gu x m)).length≤60000*20200:=by rw[hq];exact V
   rw[hr,bI,ac]at this;omega
  refine LoopP.ghost (fun(c:Nat) (t:Int×Int×SliceV×SliceV×Int×Int) h'=>t.1=((lu (fun j=>(km (q j)).isSome) c:Nat):Int)∧t.2.1=((lu (fun j=>(fZ (q j)).isSome) c:Nat):Int)∧t.2.2.2.2.1=((2^c%4294967296:Nat):Int)∧t.2.2.2.2.2=(c:Int)∧c≤32∧
   TwoB h.size h'.size h' t.2.2.1 t.2.2.2.1 (fm (fun j=>km (q j)) c) ((fm (fun j=>fZ (q j)) c).flatMap (gu x m))∧Upd No h h') (fun c=>32-c) 0 ⟨rfl,rfl,rfl,rfl,by omega,⟨No,No,OwnS.nil fU,OwnS.nil wn,fun _ h=>h.elim,fun _ h=>h.elim⟩,Upd.refl _ _⟩ ?_
  rintro I c ⟨dt,nt,sl,sk,bt,ct⟩ h' ⟨e1,e2,e3,e4,hc32,hT,Y⟩ hI;simp only at e1 e2 e3 e4 hT;subst e1 e2 e3 e4;have s0:=Y.size;have wide:∀{h1 h2:ad},Upd No h h1→Upd (fun b=>h.size≤b) h1 h2→Upd No h h2:=fun a k=>a.trans k fun y d=>.inr d
  refine ax (fun z=>?_) fun hge=>?_
  ·have z:c<32:=by have:(c:Int)<32:=z;omega
   have ec:(c:Int).toNat*1=c:=by omega
   have ec2:(c:Int).toNat*2=c*2:=by omega
   have hbd:=pn (fun j=>(km (q j)).isSome) c
   have hbn:=pn (fun j=>(fZ (q j)).isSome) c
   have hpw:2^c≤2^31:=Nat.pow_le_pow_right (by omega) (by omega);have J:2^c%4294967296=2^c:=Nat.mod_eq_of_lt (by omega);have vis:dF false ⟨none,0,0⟩ q kk (2+c)=.int .i64 (SK (q c)):=by rw[U6 (by omega) (by omega),show 2+c-2=c by omega]
   refine Join.intro (fun(t:Int×SliceV) h2=>t.1=((lu (fun j=>(km (q j)).isSome) (c+1):Nat):Int)∧TwoB h.size h2.size h2 t.2 sk (fm (fun j=>km (q j)) (c+1)) ((fm (fun j=>fZ (q j)) c).flatMap (gu x m))∧Upd No h h2) (fun R hR=>?_) ?_
   ·refine⟨_,rfl,⟨by simp only;omega,by simp only;omega⟩,SK (q c),?_,?_⟩
    ·simp only[ec];rw[g Y (by omega),vis]
    rw[aam];have C:lu (fun j=>(km (q j)).isSome) (c+1)=lu (fun j=>(km (q j)).isSome) c+(if(km (q c)).isSome then 2^c else 0):=rfl
    cases hso:km (q c)with
    |none=>
     rw[hso]at C;refine ag.2 (hR _ _ ⟨by rw[C];rfl,?_,Y⟩);rw[jG,hso];simpa using hT
    |some p=>
     rw[hso]at C;have ep:F4 (km (q c))=p:=by rw[hso];rfl
     refine aw.2 ⟨_,rfl,⟨by simp only;omega,by simp only;omega⟩,p.1,?_,p.2,?_,aP fun h2 b2 e=>⟨_,m0 b2,?_⟩⟩
     ·simp only[ec2];rw[cd,cd,cd,bm (Y.get0 hb),aR,JL (by omega),Qx (by omega) (by omega) (by omega),show(34+c*2+0-34)/2=c by omega,ep]
     ·simp only[ec2];rw[cd,cd,cd,bm (Y.get0 hb),aR,JL (by omega),Qv (by omega) (by omega) (by omega),show(34+c*2+1-34)/2=c by omega,ep]
     ·have s2:=e.size
      have hl:=F6 (fun j=>km (q j)) c
      refine(hT.upd0 e).appP (p:=p) s0 s2 (by omega) rfl fun s3 u F T=>hR _ _ ⟨?_,?_,wide (Y.tr e) T⟩
      ·rw[C,J]
       simp only[Option.isSome_some,if_true];rw[IntKind.wrap_u32];omega
      ·rw[jG,hso];exact F
   rintro⟨dt,sl2⟩ h2 ⟨rfl,Z,u2⟩;simp only at Z⊢;have s2:=u2.size;refine Join.intro (fun(t:Int×SliceV) u=>t.1=((lu (fun j=>(fZ (q j)).isSome) (c+1):Nat):Int)∧TwoB h.size u.size u sl2 t.2 (fm (fun j=>km (q j)) (c+1)) ((fm (fun j=>fZ (q j)) (c+1)).flatMap (gu x m))∧Upd No h u) (fun R hR=>?_) ?_
   ·refine⟨_,rfl,⟨by omega,by omega⟩,SK (q c),?_,?_⟩
    ·rw[ec,g u2 (by omega),vis]
    rw[aal];have C:lu (fun j=>(fZ (q j)).isSome) (c+1)=lu (fun j=>(fZ (q j)).isSome) c+(if(fZ (q c)).isSome then 2^c else 0):=rfl
    cases hma:fZ (q c)with
    |none=>
     rw[hma]at C;refine ag.2 (hR _ _ ⟨by rw[C];rfl,?_,u2⟩);rw[jG (fun j=>fZ (q j)),hma];simpa using Z
    |some L=>
     rw[hma]at C;have hL2:2≤(q c).length∧L=q c:=by
      unfold fZ at hma;by_cases h2:2≤(q c).length
      ·rw[if_pos h2]at hma;exact⟨h2,(bO.inj hma).symm⟩
      ·rw[if_neg h2]at hma;cases hma
     obtain⟨h2l,rfl⟩:=hL2;refine aw.2 (ax (fun _=>?_) fun hx=>absurd (show((12-m:Nat):Int)<13 by omega) hx)
     obtain⟨kb,hkb,td⟩:=hkid c z (by rw[E];exact h2l);rw[E]at td;have hpt:(q c).length≤l.length:=by rw[←E];exact li
     have hpf:Fit (q c):=by rw[←E];exact X.part
     have e14:IntKind.wrap .i64 (((12-m:Nat):Int)+1)=((13-m:Nat):Int):=by rw[eJ (by omega)];omega
     refine⟨_,rfl,⟨by omega,by omega⟩,some ⟨kb,0,none⟩,?_,?_⟩
     ·rw[ec,g u2 (by omega),Qw (by omega),show 98+c-98=c by omega,hkb]
     rw[e14];refine ih (by omega) (DTrie.upd u2 (fun _ h=>h.elim) td) hpf (by omega) fun s4 h4 o f=>?_
     have G:=f.size;have U:=P (c+1) (by omega);rw[jG,hma,bI,ac]at U;simp only[Option.toList_some,List.flatMap_cons,List.flatMap_nil,List.append_nil]at U;refine(Z.upd0 f).appB s2 G (o.sl (W:=No) fun _ _ _ h=>h) (by omega) fun s5 H hT5 O=>hR _ _ ⟨?_,?_,wide (u2.tr f) O⟩
     ·rw[C,J]
      simp only[Option.isSome_some,if_true];rw[IntKind.wrap_u32];omega
     ·rw[jG (fun j=>fZ (q j)),hma,bI]
      simpa using hT5
   rintro⟨nt,sk2⟩ u ⟨rfl,F,s⟩;simp only at F⊢;rw[cS z (by omega),XY];exact hI (c+1) _ _ ⟨rfl,rfl,rfl,rfl,z,F,s⟩ (by omega)
  ·obtain rfl:c=32:=by have:¬(c:Int)<32:=hge;omega
   have e1:gu x (m+1) l= [0]++pe (lu (fun j=>(km (q j)).isSome) 32) 4++pe (lu (fun j=>(fZ (q j)).isSome) 32) 4++mG (fm (fun j=>km (q j)) 32)++(fm (fun j=>fZ (q j)) 32).flatMap (gu x m):=by
    rw[hq];unfold gu;simp[iw,mu]
   rw[e1]at hk;have hD:=pn (fun j=>(km (q j)).isSome) 32
   have hN:=pn (fun j=>(fZ (q j)).isSome) 32
   have hsf:Fit (fm (fun j=>km (q j)) 32):=fun p hp=>X p (tI (x:=x) (lev:=12-m) (by unfold iw;rw[hq]at hp;exact hp))
   have hsl:=F6 (fun j=>km (q j)) 32
   have hps:=pa hsf;have U:=P 32 (aj _);obtain⟨M,N,o1,o2,hMb,hNb⟩:=hT;generalize lu (fun j=>(km (q j)).isSome) 32=D at*
   generalize lu (fun j=>(fZ (q j)).isSome) 32=N' at*
   generalize fm (fun j=>km (q j)) 32=S at*
   generalize (fm (fun j=>fZ (q j)) 32).flatMap (gu x m)=B at*
   have hsS:Sl ey 2 No h' sl S:=o1.sl fun _ _ _ h=>h
   have hsB:Sl rD 1 No h' sk B:=o2.sl fun _ _ _ h=>h
   refine Join.plain (aP fun h1 b1 k1=>?_)
   simp only;have ob:=BI (b:=0) b1;refine PF (by omega) fun s2 h2 v e=>?_
   have s1:=k1.size;have s2':=e.size;refine Bb (M:=fun y=>h'.size≤y) (ob.upd e fun _ _ h=>h) (v.sl (W:=No) fun _ _ _ h=>h) (fun y d=>by show h'.size≤y;omega) (by rw[dK];simp) fun s3 u A T=>?_
   have s3':=T.size;refine Join.plain (PF (by omega) fun s4 h4 o f=>?_)
   have G:=f.size;refine Bb (M:=fun y=>h'.size≤y) (A.upd f fun _ _ h=>h) (o.sl (W:=No) fun _ _ _ h=>h) (fun y d=>by show h'.size≤y;omega) (by rw[ac,dK,dK];simp) fun s5 H w O=>?_
   have s5':=O.size;have Q:Upd No h' H:=(((k1.tr e).trans T fun y d=>.inr d).tr f).trans O fun y d=>.inr d
   refine Join.plain (FR (hsS.upd Q fun _ h=>h.elim) hsf (by omega) fun s6 h6 ho6 k6=>?_)
   have s6':=k6.size;refine Bb (M:=fun y=>h'.size≤y) (w.upd k6 fun _ _ h=>h) (ho6.sl (W:=No) fun _ _ _ h=>h) (fun y d=>by show h'.size≤y;omega) (by rw[ac,ac,dK,dK];simp;omega) fun s7 h7 ho7 k7=>?_
   have u7:Upd No h' h7:=(Q.tr k6).trans k7 fun y d=>.inr d
   refine Bb (M:=fun y=>h'.size≤y) ho7 (hsB.upd u7 fun _ h=>h.elim) (fun y d=>by have:=u7.size;show h'.size≤y;omega) (by rw[ac,ac,ac,dK,dK];simp;omega) fun s8 h8 ho8 k8=>?_
   refine hk s8 h8 (ho8.more fun y d=>by show h.size≤y;omega) ((Y.tr u7).trans k8 fun y d=>.inr (by omega))
end Go.Proofs
namespace Go.Proofs
open Go Go.Lift
theorem VD{W:Nat→Prop}{x:Hs}{h:ad}{m:Nat}{s:Slots}{c:Nat}{l:List Pr}(t:SlotIs W x h m s c l)(b:(s.p c).isSome):∃p,l= [p]∧s.p c=some p:=by
 rcases t with⟨_,a,_⟩|⟨p,d,a,_⟩|⟨_,a,_⟩
 ·rw[a]at b;cases b
 ·exact⟨p,d,a⟩
 ·rw[a]at b;cases b
theorem VE{W:Nat→Prop}{x:Hs}{h:ad}{m:Nat}{s:Slots}{c:Nat}{l:List Pr}(t:SlotIs W x h m s c l)(b:(s.k c).isSome):2≤l.length∧∃a,s.k c=some (some ⟨a,0,none⟩)∧TrieAt W x h m a l:=by
 rcases t with⟨_,_,h2⟩|⟨p,_,_,h2⟩|⟨e,_,a,h2,d⟩
 ·rw[h2]at b;cases b
 ·rw[h2]at b;cases b
 ·exact⟨e,a,h2,d⟩
theorem Nm{W:Nat→Prop}{h:ad}{s:SliceV}{way:List Nat}{c:Nat}{xs:List Value}(d:Sl aaY 1 W h s way)(hc:s.cap=s.len)(f:way.length≤13)(hx:xs= [.int .i64 (c:Int)]){K:SliceV→ad→Prop}
  (e:∀s' h',Sl aaY 1 No h' s' (way++ [c])→s'.len≤s'.cap→Upd No h h'→K s' h'):AppP (some [.int .i64 0]) 1 8 jJ s.a s.len s.cap 1 xs h K:=by
 subst hx;refine QH (ys:= [c]) d rfl rfl rfl (by omega) (by omega) (by simp;omega) fun s' h' a b=>e s' h' (a.sl fun _ _ _ h=>h) a.cap b
def OnWay(x:Hs)(way:List Nat)(l:List Pr):Prop:=∀p∈l,∀i c,way[i]? =some c→ck x i p.1=c
theorem OnWay.part{x:Hs}{way:List Nat}{l:List Pr}{c:Nat}(o:OnWay x way l):OnWay x (way++ [c]) (part x way.length c l):=fun p a i d hd=>by
 have a:=nF.1 a;rcases bR i way.length with h|h
 ·rw[List.getElem?_append_left h]at hd;exact o p a.1 i d hd
 ·rw[List.getElem?_append_right h]at hd
  have:i-way.length=0:=by have:=(List.getElem?_eq_some_iff.1 hd).1;simp at this;omega
  rw[this]at hd;simp only[List.getElem?_cons_zero,bO.injEq]at hd;subst hd;rw[show i=way.length by omega];exact a.2
theorem YL{W:Nat→Prop}{x:Hs}:∀(m:Nat),m≤13→∀{h:ad} {b:Nat} {l:List Pr} {sw:SliceV} {way:List Nat},TrieAt W x h m b l→Tab h→Sl aaY 1 No h sw way→sw.len≤sw.cap→way.length=13-m→OnWay x way l→bM l→l.length≤60000→∀{K:Int×Bool→ad→Prop},(∀h',Upd No h h'→K ((l.length:Int),true) h')→
  HC PG qm [.agg #[.int .u64 x.k0,.int .u64 x.k1,.int .u64 x.mask],.pointer (some ⟨b,0,none⟩),.slice sw.a sw.len sw.cap] [.c (.int .i64),.c .bool] K h:=by
 intro m;induction m with
 |zero=>
  intro _ h b l sw way t tb hs hcp hw U hr hn K hk;refine Cj (x.k0,x.k1,x.mask) (some ⟨b,0,none⟩) sw ?_;unfold yb bT ae nv AA wN az av lO iU jR vl wT Vo;refine aP fun h1 b1 k1=>aP fun h2 b2 k2=>aP fun h3 b3 X=>aP fun h4 b4 Q=>aP fun h5 b5 P=>?_
  have J:Upd No h h5:=(((k1.tr k2).tr X).tr Q).tr P;have c1:=P.get0 (Q.get0 (X.get0 (k2.get0 b1)));have c2:=P.get0 (Q.get0 (X.get0 b2));have c3:=P.get0 (Q.get0 b3);have c4:=P.get0 b4;have s1:=k1.size;have s2:=k2.size;have s3:=X.size;have s4:=Q.size;have z3:=aY b3;have z4:=aY b4;have z5:=aY b5;obtain⟨sp,sk,ow,hb,hsp,_⟩:=(BuckAt.upd t J fun _ h=>h.elim:BuckAt W h5 b l).ex
  refine⟨_,Fs c2,rO hb hsp (by omega) fun s8 E ho8 z=>?_⟩
  refine⟨_,Fs (z.get0 c2),gL (z.get0 hb) (aw.2 ?_)⟩;have d1:=z.get0 c1;have d3:=z.get0 c3;have d4:=z.get0 c4;have d5:=z.get0 b5;have s8':=z.size;have hs8:Sl ey 2 No E s8 l:=ho8.sl fun _ _ _ h=>h
  have hlen:=hs8.len;have hwl:=hs.len;have hs':Sl aaY 1 No E sw way:=(hs.upd J fun _ h=>h.elim).upd z fun _ h=>h.elim
  refine Join.plain ⟨sw,Fs d3,?_⟩;rw[show((sw.len:Int) !=(13:Int))=false by rw[bne_eq_false_iff_eq];omega]
  refine ag.2 (V4 hs8 hr (by omega) (ag.2 ?_));refine LoopP.ghost (fun(i:Nat) (t:Int) h'=>t=(i:Int)∧i≤l.length∧Upd No E h') (fun i=>l.length-i) 0 ⟨rfl,aS _,Upd.refl _ _⟩ ?_
  rintro I i t h' ⟨rfl,hi,S⟩ hI;refine ax (fun O=>?_) fun hge=>?_
  ·have O:i<l.length:=by omega
   obtain⟨a,ha,_,hv⟩:=(hs8.upd S fun _ h=>h.elim).at (af O)
   refine⟨⟨by omega,by omega⟩,a,ha,_,hv 0 _ rfl,_,hv 1 _ rfl,tl (p:=l[i]) fun h9 b9 k9=>?_⟩
   have A:=S.tr k9;refine⟨_,vc (A.get0 d1) 0,_,vc (A.get0 d1) 1,_,vc (A.get0 d1) 2,_,vc b9 0,sw,Fs (A.get0 d3),vE fun h10 k10=>⟨Fs (k10.get0 (A.get0 d3)),?_⟩⟩
   refine Jp ((hs'.upd A fun _ h=>h.elim).upd k10 fun _ h=>h.elim) (by omega) (fun j c hj=>U _ (bh O) j c hj) (ag.2 ?_)
   rw[cS O (by omega)];exact hI (i+1) _ _ ⟨rfl,O,A.tr k10⟩ (by omega)
  ·have hil:i=l.length:=by omega
   subst hil;refine Ip (S.get0 d4) (by simp) rfl fun h9 b9 A=>Ip (A.oth (S.get0 d5) (by omega)) (by simp) rfl fun h10 b10 v=>?_
   refine⟨_,Fs (v.oth b9 (by omega)),_,Fs b10,?_⟩;have e:((s8.len:Nat):Int)=(l.length:Int):=by omega
   rw[e];exact hk _ ((((J.tr z).tr S).own A (by omega)).own v (by omega))
 |succ m ih=>
  intro hm h b l sw way t tb hs hcp hw U hr hn K hk;refine Cj (x.k0,x.k1,x.mask) (some ⟨b,0,none⟩) sw ?_;unfold yb bT ae nv AA wN az av lO iU jR vl wT Vo;obtain⟨sl,nd,hs0⟩:=t;have M:∀c,c<32→SlotIs W x h m sl c (part x (12-m) c l):=hs0;refine aP fun h1 b1 k1=>aP fun h2 b2 k2=>aP fun h3 b3 X=>aP fun h4 b4 Q=>aP fun h5 b5 P=>?_
  have J:Upd No h h5:=(((k1.tr k2).tr X).tr Q).tr P;have c1:=P.get0 (Q.get0 (X.get0 (k2.get0 b1)));have c2:=P.get0 (Q.get0 (X.get0 b2));have c3:=P.get0 (Q.get0 b3);have c4:=P.get0 b4;have s1:=k1.size;have s2:=k2.size;have s3:=X.size;have s4:=Q.size;have z1:=aY b1;have z2:=aY b2;have z3:=aY b3;have z4:=aY b4;have z5:=aY b5;obtain⟨d,n,sp,sk,ow,hb,bits,hsp,hsk,_⟩:=(nd.upd J fun _ h=>h.elim).ex
  have hfp:(fm sl.p 32).length≤32:=AN;refine⟨_,Fs c2,rO hb hsp (by omega) fun s8 E ho8 z=>?_⟩
  refine⟨_,Fs (z.get0 c2),gL (z.get0 hb) (ag.2 ⟨sw,Fs (z.get0 c3),?_⟩)⟩;have k08:=J.tr z;have hl8:=ho8.len;rw[H0 M]at hl8;have hwl:=hs.len;rw[decide_eq_false (by omega)];refine ag.2 (aP fun h9 b9 k9=>?_)
  have A:=z.tr k9;have s8':=z.size;have z9:=aY b9;refine Ip b9 (by simp) rfl fun h10 b10 v=>?_
  have d1:=v.oth (A.get0 c1) (by omega);have d2:=v.oth (A.get0 c2) (by omega);have d3:=v.oth (A.get0 c3) (by omega);have d4:=v.oth (A.get0 c4) (by omega);have d5:=v.oth (A.get0 b5) (by omega);refine⟨sw,Fs d3,sw,Fs d3,sw,Fs d3,⟨by omega,by omega⟩,⟨by omega,by omega⟩,?_⟩
  refine Ip d3 (by simp) rfl fun H b11 B=>?_
  have g:Upd No h H:=((k08.tr k9).own v (by omega)).own B (by omega);have D:=B.oth d1 (by omega);have e2:=B.oth d2 (by omega);have e4:=B.oth d4 (by omega);have e5:=B.oth d5 (by omega);have e9:=B.oth b10 (by omega);have s11:=g.size;have s10a:=v.size;have s11a:=B.size;have G:Sl aaY 1 (fun y=>h.size≤y) H ⟨aW sw.a 0 ((sw.len:Int).toNat) 1,((sw.len:Int).toNat)-0,((sw.len:Int).toNat)-0⟩ way:=by
   have:=Sl.sub ((hs.less (W':=fun y=>h.size≤y) fun _ h=>.inr h).upd g fun _ h=>h.elim) (l:=0) (hi:=sw.len) (m:=sw.len) (c:=sw.len-0) (aS _) (by omega) (aj _)
   rw[List.drop_zero,List.take_of_length_le (by omega)]at this;exact this
  have V:(⟨aW sw.a 0 ((sw.len:Int).toNat) 1,((sw.len:Int).toNat)-0,((sw.len:Int).toNat)-0⟩:SliceV).cap=(⟨aW sw.a 0 ((sw.len:Int).toNat) 1,((sw.len:Int).toNat)-0,((sw.len:Int).toNat)-0⟩:SliceV).len:=rfl;have s:H[h2.size]? =some (.cells #[sv ⟨aW sw.a 0 ((sw.len:Int).toNat) 1,((sw.len:Int).toNat)-0,((sw.len:Int).toNat)-0⟩] Um (0,0)):=b11;clear b11;generalize (⟨aW sw.a 0 ((sw.len:Int).toNat) 1,((sw.len:Int).toNat)-0,((sw.len:Int).toNat)-0⟩:SliceV)=s0 at G V s
  obtain⟨d',n',sp',sk',ow',hb',N,_⟩:=(nd.upd g fun _ h=>h.elim).ex
  have tb11:=tb.upd g id;refine⟨_,Fs e2,Ob hb' (yI d' (aP fun h12 b12 k12=>?_))⟩
  have s12:=k12.size;have z12:=aY b12;refine Mj (d:=d') N.d32 b12 (fun k h'=>Upd No H h') No (fun k h1 hi=>tb11.upd hi id) k12 (fun k ha hb hi hle S=>hi.trans S fun y q=>.inr (by omega)) (fun _ h=>h.elim) (fun k c ha KK hi hkc hc hdc _ hK=>?_) fun k ha hi _ hde=>?_
  ·
   have hdc':=hdc;rw[N.dp c hc]at hdc';obtain⟨p,hp1,hp2⟩:=VD (M c hc) hdc';refine⟨_,Fs (hi.get0 e2),AE (nd.upd (g.tr hi) fun _ h=>h.elim) hc fun hb kb=>?_⟩
   rw[hp2];have ib:=hi.tr kb;refine tl (p:=p) fun hc' bc kc=>?_
   have F:=ib.tr kc;have hon:∀i c',(way++ [c])[i]? =some c'→ck x i p.1=c':=by
    have:=U.part (c:=c);rw[hw,show 13-(m+1)=12-m by omega,hp1]at this
    exact this p (aD.2 rfl)
   refine Join.intro (fun t hd=>t=false∧Upd No hc' hd) (fun R hR=>?_) ?_
   ·refine⟨_,vc (F.get0 D) 0,_,vc (F.get0 D) 1,_,vc (F.get0 D) 2,_,vc bc 0,s0,Fs (F.get0 s),?_,?_⟩
    ·refine vE fun hd f=>⟨Fs (f.get0 (F.get0 s)),aP fun he be T=>⟨Fs (T.get0 (f.get0 (F.get0 s))),_,m0 be,?_⟩⟩
     refine Nm (((G.upd F fun _ h=>h.elim).upd f fun _ h=>h.elim).upd T fun _ h=>h.elim) V (by omega) rfl fun s' hf hsf _ kf=>?_
     exact Jp hsf (by simp;omega) hon (hR _ _ ⟨rfl,(f.tr T).tr kf⟩)
    ·refine aP fun hd bd f=>⟨Fs (f.get0 (F.get0 s)),vc (f.get0 bc) 0,⟨vc (f.get0 (F.get0 D)) 0,vc (f.get0 (F.get0 D)) 1,vc (f.get0 (F.get0 D)) 2⟩,?_⟩
     refine vE fun he T=>⟨Fs (T.get0 (f.get0 (F.get0 s))),_,m0 (T.get0 bd),?_⟩
     refine Nm (((G.upd F fun _ h=>h.elim).upd f fun _ h=>h.elim).upd T fun _ h=>h.elim) V (by omega) rfl fun s' hf hsf _ kf=>?_
     exact Jp hsf (by simp;omega) hon (hR _ _ ⟨rfl,(f.tr T).tr kf⟩)
   ·rintro t hd ⟨rfl,f⟩
    exact ag.2 (hK hd (F.tr f) ((kb.tr kc).tr f))
  ·
   obtain⟨d'',n'',sp'',sk'',ow'',hb'',u,_⟩:=(nd.upd (g.tr hi) fun _ h=>h.elim).ex
   refine⟨_,Fs (hi.get0 e2),Ea hb'' (yI n'' (aP fun h13 b13 k13=>?_))⟩
   have i13:=hi.tr k13;have s13:=k13.size;have z13:=aY b13;have sa:=hi.size;have zde:=aY hde;have hl8':s8.len=(iw x (12-m) l).length:=hl8;have hall:=VA x (12-m) l;have hfl:∀k,(fm (fun c=>fZ (part x (12-m) c l)) k).flatten.length≤60000∨32<k:=fun k=>by
    rcases bR 32 k with h|h
    ·exact .inr h
    ·refine .inl ?_
     have:((fm (fun c=>fZ (part x (12-m) c l)) k).flatten).length≤(mu x (12-m) l).flatten.length:=by
      unfold mu;have hj:∀j,∃r,fm (fun c=>fZ (part x (12-m) c l)) (k+j)=fm (fun c=>fZ (part x (12-m) c l)) k++r:=fun j=>by
       induction j with
       |zero=>exact⟨[],by simp⟩
       |succ j ihj=>obtain⟨r,hr⟩:=ihj;exact⟨r++(fZ (part x (12-m) (k+j) l)).toList,by rw[←mr,jG,hr,aq]⟩
      have this:=hj (32-k);rw[show k+(32-k)=32 by omega]at this
      obtain⟨r,hr⟩:=this;rw[hr,List.flatten_append,ac];omega
     omega
   refine Mj (d:=n'') u.n32 b13 (fun k h'=>k≤32∧Upd (· =E.size) ha h'∧h'[E.size]? =some (.cells #[.int .i64 (((iw x (12-m) l).length+(fm (fun c=>fZ (part x (12-m) c l)) k).flatten.length:Nat):Int)] jJ (0,0))) (· =E.size)
    (fun k hx q=>(tb11.upd hi id).upd q.2.1 fun e=>by have e:0=E.size:=e;omega) ⟨aS _,k13.wide,?_⟩ (fun k hx q hz hle S=>⟨hz.1,hz.2.1.trans S fun y q=>.inr (by omega),S.get hz.2.2 (by omega)⟩) (fun y q=>⟨by have q:y=E.size:=q;omega,by have q:y=E.size:=q;omega⟩) (fun k c hx KK q hkc hc hnc hno hK=>?_) fun k hx q hno hdx=>?_
   ·have:=i13.get0 e9
    rw[show((iw x (12-m) l).length+(fm (fun c=>fZ (part x (12-m) c l)) 0).flatten.length:Nat)=s8.len by rw[hl8'];simp[fm]]
    exact this
   ·obtain⟨Y,w,L⟩:=q
    have hnc':=hnc;rw[u.nk c hc]at hnc';obtain⟨h2l,kb,hkb,tk⟩:=VE (M c hc) hnc';have C:∀{y:Nat} {o:Obj},H[y]? =some o→y≠E.size→hx[y]? =some o:=fun q hne=>w.get (hi.get0 q) hne
    have uW:Upd No h hx:=(g.tr hi).trans w fun y q=>.inr (by have q:y=E.size:=q;omega)
    refine⟨_,Fs (C e2 (by omega)),wU (nd.upd uW fun _ h=>h.elim) hc ?_⟩
    rw[hkb];have hmc:fZ (part x (12-m) c l)=some (part x (12-m) c l):=by unfold fZ;rw[if_pos h2l]
    have hskip:fm (fun c=>fZ (part x (12-m) c l)) c=fm (fun c=>fZ (part x (12-m) c l)) k:=N5 hkc fun j h1 h2=>by
     have:=hno j h1 h2;rw[u.nk j (by omega),(IH (M j (by omega))).2]at this;simpa using this
    have hnext:(fm (fun c=>fZ (part x (12-m) c l)) (c+1)).flatten.length=(fm (fun c=>fZ (part x (12-m) c l)) k).flatten.length+(part x (12-m) c l).length:=by
     rw[jG,hskip,hmc];simp
    have hpl:(part x (12-m) c l).length≤l.length:=li;refine Join.intro (fun t hd=>t=(((part x (12-m) c l).length:Int),true)∧Upd No hx hd) (fun R hR=>?_) ?_
    ·refine⟨_,vc (C D (by omega)) 0,_,vc (C D (by omega)) 1,_,vc (C D (by omega)) 2,s0,Fs (C s (by omega)),aP fun hd bd f=>?_⟩
     refine⟨Fs (f.get0 (C s (by omega))),⟨vc (f.get0 (C D (by omega))) 0,vc (f.get0 (C D (by omega))) 1,vc (f.get0 (C D (by omega))) 2⟩,_,m0 bd,?_⟩;have hsx:Sl aaY 1 (fun y=>h.size≤y) hd s0 way:=((G.upd hi fun _ h=>h.elim).upd w fun y q=>.inl (by have q:y=E.size:=q;omega)).upd f fun _ h=>h.elim
     refine Nm hsx V (by omega) rfl fun s' he hse hce T=>?_
     have gE:=f.tr T;refine⟨⟨vc (gE.get0 (C D (by omega))) 0,vc (gE.get0 (C D (by omega))) 1,vc (gE.get0 (C D (by omega))) 2⟩,?_⟩;refine ih (by omega) (TrieAt.upd0 (uW.tr gE) tk) (tb.upd (uW.tr gE) id) hse hce (by simp;omega) ?_ (jl hr) (by omega) fun hf kf=>hR _ _ ⟨rfl,gE.tr kf⟩
     have:=U.part (c:=c);rw[hw,show 13-(m+1)=12-m by omega]at this
     exact this
    ·rintro t hd ⟨rfl,f⟩
     refine Join.plain (ag.2 ?_);rw[decide_eq_false (by simp only;omega)];refine ag.2 ⟨_,Fs (f.get0 L),?_⟩;have hf1:=(hfl k).resolve_right (by omega);have hS:(iw x (12-m) l).length≤60000:=by omega
     refine Ip (c':= #[.int .i64 (((iw x (12-m) l).length+(fm (fun c=>fZ (part x (12-m) c l)) (c+1)).flatten.length:Nat):Int)]) (f.get0 L) (by simp) ?_ fun hf bf Z=>?_
     ·rw[hnext]
      have:IntKind.wrap .i64 ((((iw x (12-m) l).length+(fm (fun c=>fZ (part x (12-m) c l)) k).flatten.length:Nat):Int)+((part x (12-m) c l).length:Int))=(((iw x (12-m) l).length+((fm (fun c=>fZ (part x (12-m) c l)) k).flatten.length+(part x (12-m) c l).length):Nat):Int):=by rw[eJ (by omega)];omega
      simp only[this];rfl
     ·exact hK hf ⟨hc,(w.tr f.wide).tr Z,bf⟩ (f.wide.tr Z)
   ·obtain⟨Y,w,L⟩:=q
    have C:∀{y:Nat} {o:Obj},H[y]? =some o→y≠E.size→hx[y]? =some o:=fun q hne=>w.get (hi.get0 q) hne
    have hkm:fm (fun c=>fZ (part x (12-m) c l)) 32=fm (fun c=>fZ (part x (12-m) c l)) k:=N5 Y fun j h1 h2=>by
     have:=hno j h1 h2;rw[u.nk j (by omega),(IH (M j (by omega))).2]at this;simpa using this
    have ev:((iw x (12-m) l).length+(fm (fun c=>fZ (part x (12-m) c l)) k).flatten.length:Nat)=l.length:=by rw[←hkm];exact hall
    rw[ev]at L;have sx:=w.size;refine⟨_,Fs L,Ip (C e4 (by omega)) (by simp) rfl fun hf bf Z=>Ip (Z.oth (C e5 (by omega)) (by omega)) (by simp) rfl fun hg bg ug=>?_⟩
    have sf:=Z.size;have sg:=ug.size;have g2:=ug.oth (Z.oth hdx (by omega)) (by omega);have kh:Upd (· =h13.size) hg (hg.setIfInBounds h13.size (.deferred none)):=Upd.set _ _ rfl
    refine⟨g2,bG ?_⟩;generalize hg.setIfInBounds h13.size (.deferred none)=hh at kh;have g3:=kh.oth (ug.oth (Z.oth (w.get hde (by omega)) (by omega)) (by omega)) (by omega);have kj:Upd (· =h12.size) hh (hh.setIfInBounds h12.size (.deferred none)):=Upd.set _ _ rfl
    refine⟨g3,bG ?_⟩;generalize hh.setIfInBounds h12.size (.deferred none)=hj at kj;refine⟨_,Fs (kj.oth (kh.oth (ug.oth bf (by omega)) (by omega)) (by omega)),_,Fs (kj.oth (kh.oth bg (by omega)) (by omega)),?_⟩;refine hk hj ?_;refine(((((g.tr hi).trans w fun y q=>.inr ?_).own Z (by omega)).own ug (by omega)).own kh (by omega)).own kj (by omega)
    have q:y=E.size:=q;omega
end Go.Proofs
namespace Go.Proofs
open Go Go.Lift
theorem IQ{W:Nat→Prop}{h:ad}{b:Nat}{sl val:ByteArray}{has:Bool}{s:SliceV}{ow:Option Addr}{ks:List (Option Addr)}{F:Fo}(O:h[b]? =some (.cells (Ft sl has val s ow) cq (0,0))) (H:Sl rJ 1 W h s ks) (v:RxL W h ks F.toL) (hc:gf F) {K:Bool→ad→Prop} (S:K true h):HC PG ng [.pointer (some ⟨b,0,none⟩)] [.c .bool] K h:=by
 refine Dw (some ⟨b,0,none⟩) ?_;unfold wD bE bT bK az;refine⟨_,rfl,s,dU (i:=3) O,?_⟩;have p:=H.len;rw[v.1]at p;have L:=lD hc;have j:=eP.1 hc;refine LoopP.ghost (fun(i:Nat) (t:Int) h'=>t=(i:Int)∧i≤F.toL.length∧h'=h) (fun i=>F.toL.length-i) 0 ⟨rfl,aS _,rfl⟩ ?_
 rintro I i t h' ⟨rfl,hi,rfl⟩ Q;refine ax (fun e=>?_) fun _=>S
 have e:i<F.toL.length:=by omega
 obtain⟨Z,g,y,m,kv,P,V,kk,o,_⟩:=v.at e;obtain⟨a,Y,_,hv⟩:=H.at0 y;have k:g.data.toList≠[]:=by rw[m];exact(j.2 _ (bh e)).1
 have X:(g.toList==(⟨#[]⟩:ByteArray).toList)=false:=by
  rw[beq_eq_false_iff_ne,ByteArray.toList_eq,ByteArray.toList_eq];exact k
 obtain⟨c,z,D⟩:=F0 k;refine⟨⟨by omega,by omega⟩,a,Y,_,hv,Join.intro (fun t h2=>t=false∧h2=h') (fun R J=>?_) ?_⟩
 ·refine⟨_,rfl,g,dU (i:=0) o,?_⟩
  rw[X];refine ag.2 (ax (fun C=>?_) fun _=>J _ _ ⟨rfl,rfl⟩)
  have N:0<i:=by have:(i:Int)>0:=C;omega
  have U:IntKind.wrap .i64 ((i:Int)-1)=((i-1:Nat):Int):=by rw[eJ (by omega)];omega
  rw[U];have f:i-1<F.toL.length:=by omega
  obtain⟨jb,u,w,q,jv,M,T,jk,A,_⟩:=v.at f;obtain⟨a',B,_,G⟩:=H.at0 w;have n:u.data.toList≠[]:=by rw[q];exact(j.2 _ (bh f)).1
  obtain⟨d,x,E⟩:=F0 n;refine⟨_,rfl,s,dU (i:=3) O,⟨by omega,by omega⟩,a',B,_,G,_,rfl,u,dU (i:=0) A,d,by decide,x,_,rfl,g,dU (i:=0) o,c,by decide,z,J _ _ ⟨?_,rfl⟩⟩
  have:=List.pairwise_iff_getElem.1 j.1 (i-1) i f e (by omega);rw[m]at D;rw[q]at E;exact decide_eq_false (by omega)
 ·rintro t h2 ⟨rfl,rfl⟩
  refine ag.2 ?_;rw[cS e (by omega)];exact Q (i+1) _ _ ⟨rfl,e,rfl⟩ (by omega)
theorem M7{W:Nat→Prop}{h:ad}{s:SliceV}{ks:List (Option Addr)}{L:List Bn}{f:FuncId}(j:Sl rJ 1 W h s ks)(g:RxL W h ks L)(w:L.length≤256)(m:∀i (hi:i<L.length) {b:Nat} {sl:ByteArray},RxN W h b sl L[i].2.1 L[i].2.2→∀{K:Bool→ad→Prop},K false h→HC PG f [.pointer (some ⟨b,0,none⟩)] [.c .bool] K h){K:Bool→ad→Prop}(p:K false h):
  HC PG c7 [.slice s.a s.len s.cap,.func (.func f) #[] #[]] [.c .bool] K h:=by
 refine lI s _ ?_;unfold gr;refine mo s _ ?_;unfold g6 bE bT;have d:=j.len;rw[g.1]at d;refine LoopP.ghost (fun(i:Nat) (t:Int) h'=>t=(i:Int)∧i≤L.length∧h'=h) (fun i=>L.length-i) 0 ⟨rfl,aS _,rfl⟩ ?_
 rintro I i t h' ⟨rfl,hi,rfl⟩ k;refine ax (fun c=>?_) fun _=>p
 have c:i<L.length:=by omega
 obtain⟨v,o,e,q,n⟩:=g.at c;obtain⟨a,u,_,hv⟩:=j.at0 e;refine⟨⟨by omega,by omega⟩,a,u,_,hv,HV.mk' (m i c n (ag.2 ?_))⟩
 rw[cS c (by omega)];exact k (i+1) _ _ ⟨rfl,c,rfl⟩ (by omega)
def adX(n:Bn):Prop:=∀{W:Nat→Prop} {h:ad} {b:Nat} {sl:ByteArray},RxN W h b sl n.2.1 n.2.2→∀{K:Bool→ad→Prop},K true h→HC PG mB [.pointer (some ⟨b,0,none⟩)] [.c .bool] K h
theorem ab0{lab:List UInt8}{w:Option ByteArray}{F:Fo}(hc:gf F)(a:w.isSome∨2≤F.toL.length)(o:∀n∈F.toL,adX n):adX (lab,w,F):=by
 intro W h b sl r K m;simp only at r;obtain⟨val,s,ow,ks,d,hv,g,q,p⟩:=r;have e:=lW.1 p;have c:=g.len;rw[e.1]at c;refine BV (some ⟨b,0,none⟩) ?_;unfold vx bK bF;refine Join.intro (fun t h'=>t=false∧h'=h) (fun R j=>?_) ?_
 ·refine IQ d g e hc (ag.2 ⟨_,rfl,w.isSome,dU (i:=1) d,?_⟩)
  cases hwS:w.isSome with
  |true=>exact ag.2 (j _ _ ⟨rfl,rfl⟩)
  |false=>
   refine aw.2 ⟨_,rfl,s,dU (i:=3) d,j _ _ ⟨decide_eq_false ?_,rfl⟩⟩;rw[hwS]at a;rcases a with a|a
   ·cases a
   ·omega
 ·rintro t h' ⟨rfl,rfl⟩
  refine ag.2 ⟨_,rfl,s,dU (i:=3) d,M7 g e (lD hc) (fun i hi b sl k u f=>?_) m⟩
  refine Aj _ ?_;unfold tw;exact o _ (bh hi) k f
theorem Oj:∀{F:Fo},gf F→∀n∈F.toL,adX n
 | .nil,_,n,a=>by simp[Fo.toL]at a
 | .cons lab w kids rest,h,n,a=>by
  rcases aC.1 a with rfl|a
  ·exact ab0 h.2.2.1 h.2.1 (Oj h.2.2.1)
  ·exact Oj h.2.2.2.2 n a
theorem RQ{W:Nat→Prop}{h:ad}{b:Nat}{l:List Pr}(t:RadAt W h b l){K:Bool→ad→Prop}(j:K true h):HC PG xS [.pointer (some ⟨b,0,none⟩)] [.c .bool] K h:=by
 obtain⟨w,F,r,hc,_⟩:=t.ex;obtain⟨val,s,ow,ks,c,hv,e,f,k⟩:=r;have d:=lW.1 k;refine LK (some ⟨b,0,none⟩) ?_;unfold Cu bK az;refine aw.2 ⟨_,rfl,_,dU (i:=0) c,?_⟩;rw[beq_self_eq_true];refine aw.2 (IQ c e d hc (aw.2 ⟨_,rfl,s,dU (i:=3) c,M7 e d (lD hc) (fun i hi b sl g m a=>?_) j⟩))
 refine HN _ ?_;unfold zZ;exact Oj hc _ (bh hi) g a
theorem Vx{W:Nat→Prop}{x:Hs}{h:ad}{d:Int}{t:Tr}{l:List Pr}(i:TreeIs W h d x t l)(tb:Tab h)(o:bM l)(n:l.length≤60000){K:Bool→ad→Prop}(f:∀h',Upd No h h'→K true h'):HC PG rS [yY t] [.c .bool] K h:=by
 refine EL t ?_;unfold xn aI ae cg aB wN th o9;refine aP fun k b1 k1=>⟨_,vc b1 0,?_⟩
 rcases i with⟨_,b,rfl,t⟩|⟨_,b,rfl,t⟩
 ·refine ag.2 ⟨_,lJ b1 1 0,_,lJ b1 1 1,_,lJ b1 1 2,_,vc b1 0,_,vc b1 1,_,vc b1 2,_,vc b1 3,_,vc b1 4,_,vc b1 5,?_⟩
  refine Bu (TrieAt.upd0 k1 t) fun h2 e=>⟨⟨lJ (e.get0 b1) 1 0,lJ (e.get0 b1) 1 1,lJ (e.get0 b1) 1 2⟩,?_⟩
  refine LG (x.k0,x.k1,x.mask) _ ?_;unfold Cq ae AA wN;refine aP fun q b3 j=>ag.2 ⟨_,vc b3 0,_,vc b3 1,_,vc b3 2,?_⟩
  have a:=(k1.tr e).tr j;refine YL 13 (aj _) (sw:=⟨none,0,0⟩) (way:= []) (TrieAt.upd0 a t) (tb.upd a id) (Sl.nil abG) (aj _) rfl (fun p _ i c hc=>by simp at hc) o n fun m g=>?_
  exact f m (a.tr g)
 ·refine aw.2 ⟨_,vc b1 5,RQ (t.upd0 k1) (f k k1)⟩
end Go.Proofs
namespace Go.Proofs
open Go Go.Lift
theorem Vt{a:Int}{x:Hs}{l:List Pr}{xs:List UInt8}(hv:M8 a x l xs)(b:Fit l)(c:l.length≤60000):xs.length≤100000000000:=by
 rcases hv with⟨_,rfl⟩|⟨_,ys,e,rfl⟩
 ·have d:=qM (x:=x) 13 b
  have h2:l.length*(20004+9*(13+1))≤60000*(20004+9*(13+1)):=cz _ c;rw[ar];omega
 ·have d:=D4 e b
  rw[ar];omega
theorem VP{W:Nat→Prop}{x:Hs}{h:ad}{a:Int}{r:Rt}{l:List Pr}(G:a=0∨a=1)(i:RefIs W h a x r l)(Q:bM l)(m:Fit l)(A:l.length≤60000){K:SliceV→ad→Prop}
  (N:∀s' h' xs,OwnS rD 1 cQ (fun y=>h.size≤y) h' s' xs→M8 a x l xs→Upd No h h'→K s' h'):HC PG AY [OX r] [.c .slice] K h:=by
 refine QO r ?_;unfold Hn aI cg bV wN BQ vl;obtain⟨s,rfl,B,hc⟩:=i;have B:=B.less (W':=No) fun _ h=>h.elim
 refine aP fun C b1 k1=>⟨_,vc b1 0,?_⟩
 have z:=k1.size;rcases G with rfl|rfl
 ·refine ag.2 (aP fun R b3 c=>⟨_,lJ (c.get0 b1) 1 0,_,lJ (c.get0 b1) 1 1,_,lJ (c.get0 b1) 1 2,s,vc (c.get0 b1) 4,?_⟩)
  have J:=BI (b:=0) b3;have o:=k1.tr c;have Y:∀v,hx 0 v=v:=fun v=>if_pos rfl
  simp only[Y];refine XS (x:=x) (B.upd o fun _ h=>h.elim) A (fun p L=>by have:=m p L;omega) fun O b S k=>?_
  have V:=c.size;have P:=k.size;refine Z0 13 (aj _) S m A fun T U j f=>?_
  have I:=f.size;have t:=qM (x:=x) 13 m;have h2:l.length*(20004+9*(13+1))≤60000*(20004+9*(13+1)):=cz _ A;refine Bb (M:=fun y=>C.size≤y) ((J.upd k fun _ _ h=>h).upd f fun _ _ h=>h) (j.sl (W:=No) fun _ _ _ h=>h) (fun y d=>by show C.size≤y;omega) (by simp;omega) fun D E e H=>?_
  exact N D E _ (e.more fun y d=>aX z d) (.inl ⟨rfl,rfl⟩) (((o.tr k).tr f).trans H fun y d=>.inr (aX z d))
 ·refine aw.2 (aP fun R b3 c=>⟨s,vc (c.get0 b1) 4,?_⟩)
  have J:=BI (b:=1) b3;have o:=k1.tr c;refine ZY (B.upd o fun _ h=>h.elim) hc Q A (fun p L=>by have:=m p L;have:=SI p.1;show(ky p).length≤_;unfold ky;omega) fun O b w F X g n k=>?_
  have V:=c.size;have P:=k.size;obtain⟨q,Z⟩:=AP g n m;have u:Tp l (kq ([],w,F)):=⟨w,F,g,n,rfl⟩;have t:=D4 u m;refine U4 (lab:= []) (by simp) Z (lD g) (JK q) X rfl (by omega) fun T U j f=>?_
  have I:=f.size;refine Bb (M:=fun y=>C.size≤y) ((J.upd k fun _ _ h=>h).upd f fun _ _ h=>h) (j.sl (W:=No) fun _ _ _ h=>h) (fun y d=>by show C.size≤y;omega) (by simp;omega) fun D E e H=>?_
  exact N D E _ (e.more fun y d=>aX z d) (.inr ⟨rfl,_,u,rfl⟩) (((o.tr k).tr f).trans H fun y d=>.inr (aX z d))
theorem MB{W W':Nat→Prop}{x:Hs}{h:ad}{a:Int}{t:Tr}{r:Rt}{l:List Pr}(tb:Tab h)(i:TreeIs W h a x t l)(j:RefIs W' h a x r l)(k:bM l)(m:Fit l)(f:l.length≤60000){K:Bool→ad→Prop}(z:∀h',Upd No h h'→K true h'):HC PG qX [yY t,OX r] [.c .bool] K h:=by
 refine TO t r ?_;unfold KO aI ae aB bV th o9 Bq BQ Ue;have o:a=0∨a=1:=i.imp (fun h=>h.1) fun h=>h.1
 refine aP fun H b1 k1=>aP fun h2 b2 y=>?_
 have w:=k1.tr y;have b:=y.get0 b1;refine⟨_,vc b 0,_,vc b 1,_,vc b 2,_,vc b 3,_,vc b 4,_,vc b 5,_,vc b2 0,_,vc b2 1,_,vc b2 2,_,vc b2 3,r.2.2.2.2,vc b2 4,?_⟩;refine Vw (i.upd0 w) k m f fun G E xs g s c=>⟨⟨vc (c.get0 b2) 0,vc (c.get0 b2) 1,vc (c.get0 b2) 2,vc (c.get0 b2) 3,vc (c.get0 b2) 4⟩,?_⟩
 have v:=w.tr c;refine VP o (j.upd0 v) k m f fun D C ys u q p=>?_
 have n:=v.tr p;have e:xs=ys:=(Xs (fun _=>rfl) g q m m f f k k).2 rfl
 subst e;have F:=Vt g m f;refine VR ((s.upd p fun _ _ h=>h).sl (W:=No) fun _ _ _ h=>h) (u.sl (W:=No) fun _ _ _ h=>h) (by omega) ?_
 have d:=p.get0 (c.get0 b);refine aw.2 ⟨_,vc d 0,_,vc d 1,_,vc d 2,_,vc d 3,_,vc d 4,_,vc d 5,?_⟩;exact Vx (i.upd0 n) (tb.upd n id) k f fun B A=>z B (n.tr A)
end Go.Proofs
namespace Go.Proofs
open Go Go.Lift
theorem acE{h:ad}{t:TypeId}{c:Cf}{k:ad→Prop}(d:∀h',h'[h.size]? =some (.cells (xW c).toArray t (0,0))→Upd No h h'→k h'):
  At (hnew h (xW Zt) t) fun b=>rE b (some (ay h)) 0 (xW c)∧At (fS b (ay h) 0 (xW c)) k:=
 aP fun _ b1 k1=>cF (c:=xW Zt) (vs:=xW c) b1 rfl fun h2 b2 a=>d h2 b2 (k1.own a (aj _))
theorem VF{W W':Nat→Prop}{h:ad}{s s':SliceV}{l:List Cf}(p:Sl xW 7 W h s l)(j:Sl xW 7 W' h s' l)(A:l.length≤1000000){K:Bool→ad→Prop}(u:∀h',Upd No h h'→K true h'):HC PG Dj [.slice s.a s.len s.cap,.slice s'.a s'.len s'.cap] [.c .bool] K h:=by
 refine TM s s' ?_;unfold KL bT nv az av bF DR DJ;have x:=p.len;have y:=j.len;refine CondP.intro (fun g=>?_) fun _=>?_
 ·rw[x,y]at g;simp at g
 refine LoopP.ghost (fun(i:Nat) (t:Int) h'=>t=(i:Int)∧i≤l.length∧Upd No h h') (fun i=>l.length-i) 0 ⟨rfl,aS _,Upd.refl _ _⟩ ?_
 rintro I i t h' ⟨rfl,hi,n⟩ q;refine ax (fun d=>?_) fun _=>u _ n
 have d:i<l.length:=by omega
 obtain⟨a,z,_,hv⟩:=(p.upd n fun _ h=>h.elim).at (af d)
 have k:=j.upd n fun _ h=>h.elim
 refine⟨⟨by omega,by omega⟩,a,z,_,hv 0 _ rfl,_,hv 1 _ rfl,_,hv 2 _ rfl,_,hv 3 _ rfl,_,hv 4 _ rfl,_,hv 5 _ rfl,_,hv 6 _ rfl,?_⟩
 refine acE (c:=l[i]) fun o b m=>?_
 obtain⟨a',e,_,f⟩:=(k.upd m fun _ h=>h.elim).at (af d)
 generalize l[i]=c at b f⊢;refine Join.intro (fun t h2=>t=false∧h2=o) (fun R v=>?_) ?_
 ·refine⟨c.1,vc b 0,⟨by omega,by omega⟩,a',e,c.1,f 0 _ rfl,?_⟩
  rw[ge,decide_eq_true rfl];refine ag.2 ⟨c.2.1.1,lJ b 1 0,c.2.1.2,lJ b 1 1,⟨by omega,by omega⟩,a',e,c.2.1.1,by rw[sy];exact f 1 _ rfl,c.2.1.2,by rw[sy];exact f 2 _ rfl,?_⟩
  rw[NC c.2.1 c.2.1,decide_eq_true rfl];refine ag.2 ⟨c.2.2.1.1,lJ b 3 0,c.2.2.1.2,lJ b 3 1,⟨by omega,by omega⟩,a',e,c.2.2.1.1,by rw[sy];exact f 3 _ rfl,c.2.2.1.2,by rw[sy];exact f 4 _ rfl,?_⟩
  rw[NC c.2.2.1 c.2.2.1,decide_eq_true rfl];refine ag.2 ⟨c.2.2.2.1,lJ b 5 0,c.2.2.2.2,lJ b 5 1,⟨by omega,by omega⟩,a',e,c.2.2.2.1,by rw[sy];exact f 5 _ rfl,c.2.2.2.2,by rw[sy];exact f 6 _ rfl,?_⟩
  rw[NC c.2.2.2 c.2.2.2,decide_eq_true rfl];exact v _ _ ⟨rfl,rfl⟩
 ·rintro t h2 ⟨rfl,w⟩
  rw[w];refine ag.2 ?_;rw[cS d (by omega)];exact q (i+1) _ _ ⟨rfl,d,n.tr m⟩ (by omega)
theorem V6{p:Int}(a:p<0∨3<p):Mw p=⟨#[]⟩:=by
 unfold Mw;rw[if_neg (by omega),if_neg (by omega),if_neg (by omega),if_neg (by omega)]
theorem Lh{h:ad}{tb to n:Tr}{p:Int}(x:(p<0∨3<p)∨(jK tb to&&jK tb n)=false){K:Tr×SliceV×Int→ad→Prop}(o:∀h',Upd No h h'→K (to,⟨none,0,0⟩,if p<0∨3<p then 1 else 11) h'):
  HC PG qW [yY tb,yY to,yY n,.int .i64 p] [.agg [.int .i64,.int .u64,.int .u64,.int .u64,.ptr,.ptr],.c .slice,.c (.int .i64)] K h:=by
 refine Ki tb to n p ?_;unfold DD bT aI ae aB df nv th zP o9 az av Fz bF cU Rs lH Ir DK xN DR DJ;refine aP fun J b1 k1=>aP fun h2 b2 y=>aP fun D b3 s=>aP fun C z v=>?_
 have B:h.size≤D.size:=((k1.tr y).tr s).size;have m:=((k1.tr y).tr s).tr v;have g:=v.get0 (s.get0 (y.get0 b1));have b:=v.get0 (s.get0 b2);have G:=v.get0 b3;refine PZ ?_;by_cases w:p<0∨3<p
 ·rw[ge,decide_eq_true (V6 w)]
  rw[if_pos w]at o;refine aw.2 ⟨_,vc b 0,_,vc b 1,_,vc b 2,_,vc b 3,_,vc b 4,_,vc b 5,?_⟩;refine cF (c:=kg BM) (vs:=kg to) z rfl fun e a d=>?_
  exact⟨_,vc a 0,_,vc a 1,_,vc a 2,_,vc a 3,_,vc a 4,_,vc a 5,o e (m.own d B)⟩
 ·rw[ge,decide_eq_false (Jj (by omega) (by omega))]
  rw[if_neg w]at o;have x:=x.resolve_left w;refine ag.2 ?_;refine Join.intro (fun t h'=>t=true∧Upd No C h') (fun R A=>?_) ?_
  ·refine⟨_,vc g 0,_,vc g 1,_,vc g 2,_,vc g 3,_,vc g 4,_,vc g 5,_,vc b 0,_,vc b 1,_,vc b 2,_,vc b 3,_,vc b 4,_,vc b 5,?_⟩
   refine Ap (t:=tb) (u:=to) fun I q=>?_
   cases hl:jK tb to with
   |false=>exact aw.2 (A _ _ ⟨rfl,q⟩)
   |true=>
    rw[hl,nW]at x;have k:=q.get0 g;have j:=q.get0 G;refine ag.2 ⟨_,vc k 0,_,vc k 1,_,vc k 2,_,vc k 3,_,vc k 4,_,vc k 5,_,vc j 0,_,vc j 1,_,vc j 2,_,vc j 3,_,vc j 4,_,vc j 5,?_⟩;refine Ap (t:=tb) (u:=n) fun H E=>?_
    rw[x];exact A _ _ ⟨rfl,q.tr E⟩
  rintro t F ⟨rfl,f⟩;have i:=f.get0 b;refine aw.2 ⟨_,vc i 0,_,vc i 1,_,vc i 2,_,vc i 3,_,vc i 4,_,vc i 5,?_⟩;refine cF (c:=kg BM) (vs:=kg to) (f.get0 z) rfl fun e a d=>?_
  exact⟨_,vc a 0,_,vc a 1,_,vc a 2,_,vc a 3,_,vc a 4,_,vc a 5,o e ((m.tr f).own d B)⟩
theorem PK{h:ad}{tb to j:Rt}{p:Int}(z:(p<0∨3<p)∨(Ef tb to&&Ef tb j)=false){K:Rt×SliceV×Int→ad→Prop}(u:∀h',Upd No h h'→K (to,⟨none,0,0⟩,if p<0∨3<p then 1 else 11) h'):
  HC PG AX [OX tb,OX to,OX j,.int .i64 p] [.agg [.int .i64,.int .u64,.int .u64,.int .u64,.slice],.c .slice,.c (.int .i64)] K h:=by
 refine QN tb to j p ?_;unfold Kv bT pW aI ae cg bK bV df nv Bq KW BQ az av lO iU dy rC Ns bF cU Ir DK xN DR DJ abj;refine aP fun N b1 k1=>aP fun h2 b2 A=>aP fun E b3 w=>aP fun B C x=>?_
 have D:h.size≤E.size:=((k1.tr A).tr w).size;have s:=((k1.tr A).tr w).tr x;have i:=x.get0 (w.get0 (A.get0 b1));have b:=x.get0 (w.get0 b2);have H:=x.get0 b3;refine Join.intro (fun t h'=>t=decide (p<0∨3<p)∧h'=B) (fun R n=>?_) ?_
 ·refine ax (fun e=>n _ _ ⟨(decide_eq_true (.inl e)).symm,rfl⟩) fun e=>n _ _ ⟨decide_eq_decide.2 (by omega),rfl⟩
 rintro _ J ⟨rfl,I⟩;rw[I];refine ax (fun y=>?_) fun y=>?_
 ·rw[if_pos y]at u
  refine⟨_,vc b 0,_,vc b 1,_,vc b 2,_,vc b 3,to.2.2.2.2,vc b 4,?_⟩;refine cF (c:=ou IT) (vs:=ou to) C rfl fun f a d=>?_
  exact⟨_,vc a 0,_,vc a 1,_,vc a 2,_,vc a 3,to.2.2.2.2,vc a 4,u f (s.own d D)⟩
 ·rw[if_neg y]at u
  have z:=z.resolve_left y;refine Join.intro (fun t h'=>t=true∧Upd No B h') (fun R n=>?_) ?_
  ·refine⟨_,vc i 0,_,vc i 1,_,vc i 2,_,vc i 3,tb.2.2.2.2,vc i 4,_,vc b 0,_,vc b 1,_,vc b 2,_,vc b 3,to.2.2.2.2,vc b 4,?_⟩
   refine D6 (r:=tb) (q:=to) fun M v=>?_
   cases hl:Ef tb to with
   |false=>exact aw.2 (n _ _ ⟨rfl,v⟩)
   |true=>
    rw[hl,nW]at z;have o:=v.get0 i;have m:=v.get0 H;refine ag.2 ⟨_,vc o 0,_,vc o 1,_,vc o 2,_,vc o 3,tb.2.2.2.2,vc o 4,_,vc m 0,_,vc m 1,_,vc m 2,_,vc m 3,j.2.2.2.2,vc m 4,?_⟩;refine D6 (r:=tb) (q:=j) fun L F=>?_
    rw[z];exact n _ _ ⟨rfl,v.tr F⟩
  rintro t G ⟨rfl,g⟩;have k:=g.get0 b;refine aw.2 ⟨_,vc k 0,_,vc k 1,_,vc k 2,_,vc k 3,to.2.2.2.2,vc k 4,?_⟩;refine cF (c:=ou IT) (vs:=ou to) (g.get0 C) rfl fun f a d=>?_
  exact⟨_,vc a 0,_,vc a 1,_,vc a 2,_,vc a 3,to.2.2.2.2,vc a 4,u f ((s.tr g).own d D)⟩
theorem MA{W W':Nat→Prop}{h h':ad}{c a:Int}{x d:Hs}{t u:Tr}{l l':List Pr}(i:TreeIs W h c x t l)(f:TreeIs W' h' a d u l')(e:jK t u=true):a=c∧(c=0→d=x):=by
 rcases i with⟨rfl,b,rfl,_⟩|⟨rfl,b,rfl,_⟩<;>rcases f with⟨rfl,b',rfl,_⟩|⟨rfl,b',rfl,_⟩
 ·refine⟨rfl,fun _=>?_⟩
  cases x;cases d;simp[jK]at e;simp[e.1.1,e.1.2,e.2]
 ·simp[jK]at e
 ·simp[jK]at e
 ·exact⟨rfl,fun h=>by cases h⟩
theorem TreeIs.turn{W:Nat→Prop}{h:ad}{c a:Int}{x f:Hs}{u:Tr}{l:List Pr}(i:TreeIs W h a f u l)(e:a=c∧(c=0→f=x)):TreeIs W h c x u l:=by
 obtain⟨rfl,e⟩:=e;rcases i with⟨g,b,d,t⟩|⟨j,b,d,t⟩
 ·rw[←e g];exact .inl ⟨g,b,d,t⟩
 ·exact .inr ⟨j,b,d,t⟩
theorem RefIs.turn{W:Nat→Prop}{h:ad}{a b:Int}{x d:Hs}{r:Rt}{l:List Pr}(c:a=0∨a=1)(i:RefIs W h b d r l)(e:b=a∧(a=0→d=x)):RefIs W h a x r l:=by
 obtain⟨rfl,e⟩:=e;obtain⟨s,g,f⟩:=i;rcases c with rfl|rfl
 ·rw[←e rfl];exact⟨s,g,f⟩
 ·exact⟨s,g,f⟩
def Pk(h:ad)(t:Tr)(r:Rt):Prop:=∃kind x L,TreeIs No h kind x t L∧RefIs No h kind x r L∧Few 200 L
theorem Pk.upd0{h h':ad}{t:Tr}{r:Rt}(k:Upd No h h')(i:Pk h t r):Pk h' t r:=
 let⟨a,x,L,i,j,f⟩:=i;⟨a,x,L,i.upd0 k,j.upd0 k,f⟩
theorem NX{h:ad}{tb to y:Tr}{U ro Q:Rt}{p:Int}(Pb:Pk h tb U)(Po:Pk h to ro)(Pt:Pk h y Q){K:Tr×SliceV×Int→ad→Prop}
  (I:∀h2 u s (e:Int) kind x L C,TreeIs No h2 kind x u L→Few 600 L→Sl xW 7 No h2 s C→C.length≤1000→Upd No h h2→(e≠0→u=to)→
   (∀t (D:Rt×SliceV×Int→ad→Prop),Upd No h2 t→(∀d r s',RefIs No d kind x r L→Sl xW 7 No d s' C→Upd No t d→D (r,s',e) d)→HC PG AX [OX U,OX ro,OX Q,.int .i64 p] [.agg [.int .i64,.int .u64,.int .u64,.int .u64,.slice],.c .slice,.c (.int .i64)] D t)→K (u,s,e) h2):
  HC PG qW [yY tb,yY to,yY y,.int .i64 p] [.agg [.int .i64,.int .u64,.int .u64,.int .u64,.ptr,.ptr],.c .slice,.c (.int .i64)] K h:=by
 obtain⟨F,W,B,w,G,g⟩:=Pb;obtain⟨X,Z,O,k,o,q⟩:=Po;obtain⟨kt,xt,T,A,E,i⟩:=Pt;by_cases H:(p<0∨3<p)∨(jK tb to&&jK tb y)=false
 ·refine Lh H fun h2 a=>?_
  refine I h2 to ⟨none,0,0⟩ _ X Z O [] (k.upd0 a) (q.mono (by omega)) (Sl.nil JS) (aS _) a (fun _=>rfl) fun t D f b=>?_
  refine PK (by rw[←UQ w k G o,←UQ w A G E];exact H) fun d n=>?_
  exact b d ro _ (o.upd0 ((a.tr f).tr n)) (Sl.nil JS) n
 ·have v:0≤p∧p≤3:=by
   constructor<;>exact Int.not_lt.1 fun h=>H (.inl (by omega))
  have S:jK tb to=true∧jK tb y=true:=by
   have:¬(jK tb to&&jK tb y)=false:=fun h=>H (.inr h)
   simpa using this
  have R:=MA w k S.1;have V:=MA w A S.2;have z:F=0∨F=1:=w.imp (fun h=>h.1) fun h=>h.1
  have k:=k.turn R;have A:=A.turn V;have o:=o.turn z R;have E:=E.turn z V;have lC:=w9 g.up i.up;have fM:Few 600 (vR B O T p):=(CZ (p:=p) g q i (l:=jN B T) (fun c hc=>(GO g i c hc).1) q).mono (by have:=g.len;have:=i.len;omega)
  have P:((tQ B O T p).map (Hd B O T)).length≤1000:=by
   rw[List.length_map];have h1:(tQ B O T p).length≤(jN B T).length:=Qy;have:=g.len;have:=i.len;omega
  refine Su w k A (fun _ h=>h.elim) g q i (by omega) (by omega) (by omega) v.1 v.2 (fun J j h2 s N a=>?_) fun J h2 u s i2 N a=>?_
  ·refine I h2 to s 8 F W O _ (k.upd0 a) (q.mono (by omega)) (N.sl fun _ _ _ h=>h) P a (fun _=>rfl) fun t D f b=>?_
   refine PJ (G.upd0 (a.tr f)) (o.upd0 (a.tr f)) (E.upd0 (a.tr f)) (fun _ h=>h.elim) g q i (by omega) (by omega) (by omega) v.1 v.2 (fun _ _ d s' m n=>b d ro s' (o.upd0 ((a.tr f).tr n)) m n) fun h'=>absurd (h' J) j
  ·refine I h2 u s 0 F W _ _ i2 fM (N.sl fun _ _ _ h=>h) P a (fun h=>absurd rfl h) fun t D f b=>?_
   exact PJ (G.upd0 (a.tr f)) (o.upd0 (a.tr f)) (E.upd0 (a.tr f)) (fun _ h=>h.elim) g q i (by omega) (by omega) (by omega) v.1 v.2 (fun M j=>absurd (J M) j) fun _ d r' s' Y m n=>b d r' s' Y m n
end Go.Proofs
namespace Go.Proofs
open Go Go.Lift
theorem xa:jN [(bA,b1)] [(bA,b1),(bB,b3)]= [(bB,⟨#[]⟩,b3,false,true)]:=by
 rw[uJ (a:=(bA,b1)) (b:=(bA,b1)) rfl,kE];unfold Ai;rw[if_pos rfl];rfl
theorem Yd(v w:ByteArray):look [(bA,v),(bB,w)] bB=some w:=by
 rw[fK,if_neg (fun e:bA=bB=>ac5 e.symm),fK,if_pos rfl]
theorem P3(v:ByteArray):look [(bA,v)] bB=none:=by
 rw[fK,if_neg (fun e:bA=bB=>ac5 e.symm)];rfl
theorem CF:tk [(bA,b1)] [(bA,b2)] [(bA,b1),(bB,b3)] 0 bB=(some b3,true):=by
 unfold tk;rw[P3,P3,Yd];unfold vn;rw[if_neg (by rintro(h|h)<;>cases h),if_pos rfl]
theorem Hc:(tQ [(bA,b1)] [(bA,b2)] [(bA,b1),(bB,b3)] 0)= []:=by
 unfold tQ HK;rw[xa,List.map_singleton,List.filter_cons,CF];rfl
theorem Lf:vR [(bA,b1)] [(bA,b2)] [(bA,b1),(bB,b3)] 0= [(bA,b2),(bB,b3)]:=by
 unfold vR tH;rw[xa,jd,List.foldl_nil];simp only;rw[CF];show iq (bB,b3) [(bA,b2)]=_
 rw[gR,if_pos adl];rfl
theorem Tk{h:ad}{K:Bool→ad→Prop}(hk:∀h',Upd No h h'→K true h'):HC PG A5 [] [.c .bool] K h:=by
 refine Q0 ?_;unfold Hy bT aI ae aB nv th zP o9 az iU adb aci;refine aP fun h1 Q k1=>?_
 have hs:Sl ey 2 No h1 ⟨some (ay h),1,1⟩ [(bA,b1)]:=⟨rfl,fU,fun _=>⟨_,rfl,fun h=>h.elim,ox Q fun i v hv=>by simpa using hv⟩⟩
 refine xX XC XD (by omega) (W:=No) (x:=⟨0,0,0⟩) hs (fun _ h=>h.elim) (by simp) (fun p f=>by have:=Mb (v:=b1) (by decide) p f;omega) fun h3 t V k3=>?_
 rw[Uq]at V;refine AD (t:=t) fun h5 b5 X=>?_
 refine aP fun h6 b6 k6=>?_
 have S:Sl ey 2 No h6 ⟨some (ay h5),1,1⟩ [(bA,b2)]:=⟨rfl,fU,fun _=>⟨_,rfl,fun h=>h.elim,ox b6 fun i v hv=>by simpa using hv⟩⟩
 refine xX XC XD (by omega) (W:=No) (x:=⟨0,0,0⟩) S (fun _ h=>h.elim) (by simp) (fun p f=>by have:=Mb (v:=b2) (by decide) p f;omega) fun h8 u Y k8=>?_
 rw[Uq]at Y;refine AD (t:=u) fun R O C=>?_
 refine aP fun F H M=>?_
 have z:Sl ey 2 No F ⟨some (ay R),2,2⟩ [(bA,b1),(bB,b3)]:=⟨rfl,fU,fun _=>⟨_,rfl,fun h=>h.elim,ox H fun i v hv=>by simpa using hv⟩⟩
 refine xX XC XD (by omega) (W:=No) (x:=⟨0,0,0⟩) z (fun _ h=>h.elim) (by simp) (fun p f=>by have:=VC (v:=b1) (w:=b3) (by decide) (by decide) p f;omega) fun h13 w s P=>?_
 rw[ZL]at s;refine AD (t:=w) fun h15 d B=>?_
 have b:=(M.tr P).tr B;have k:=((k6.tr k8).tr C).tr b;have q:=k.get0 b5;have e:=b.get0 O;refine⟨_,vc q 0,_,vc q 1,_,vc q 2,_,vc q 3,_,vc q 4,_,vc q 5,_,vc e 0,_,vc e 1,_,vc e 2,_,vc e 3,_,vc e 4,_,vc e 5,_,vc d 0,_,vc d 1,_,vc d 2,_,vc d 3,_,vc d 4,_,vc d 5,?_⟩;have Z:Few 2 [(bA,b1)]:=⟨cD ..,by decide,fun p f=>by rw[aD.1 f];exact⟨(by decide:bA.size≤30),(by decide:b1.size≤30)⟩⟩
 have fO:Few 2 [(bA,b2)]:=⟨cD ..,by decide,fun p f=>by rw[aD.1 f];exact⟨(by decide:bA.size≤30),(by decide:b2.size≤30)⟩⟩
 have fT:Few 2 [(bA,b1),(bB,b3)]:=⟨Me,by decide,fun p f=>by
  rcases aC.1 f with rfl|f
  ·exact⟨(by decide:bA.size≤30),(by decide:b1.size≤30)⟩
  ·rw[aD.1 f];exact⟨(by decide:bB.size≤30),(by decide:b3.size≤30)⟩⟩
 refine G4 (p:=0) (V.upd0 (X.tr k)) (Y.upd0 (C.tr b)) (s.upd0 B) (fun _ h=>h.elim) Z fO fT (by omega) (by omega) (by omega) (by omega) (by omega) (abU Z fT (by omega) (by omega) (by rw[xa];decide)) (fun c hc=>by
  rw[xa]at hc
  rw[aD.1 hc]
  simp only
  rw[CF]
  exact abs _ _) (fun _ G=>absurd Hc G) fun _ h35 o so D n T=>?_
 rw[Hc]at n;have E:=n.len;rw[Lf]at D;refine AD (t:=o) fun h37 g y=>?_
 refine⟨_,vc g 0,_,vc g 1,_,vc g 2,_,vc g 3,_,vc g 4,_,vc g 5,?_⟩;refine RD (W':=No) (D.upd0 y) Me (by decide) (fun _ h=>h.elim) fun L N j J=>?_
 have m:=j.len;obtain⟨a,U,_,hv⟩:=j.at (i:=0) (x:=(bA,b2)) rfl;obtain⟨a',A,_,I⟩:=j.at (i:=1) (x:=(bB,b3)) rfl;rw[U]at A;cases A;refine aw.2 ?_;rw[show((so.len:Int)==(0:Int))=true by rw[E];rfl]
 refine aw.2 ?_;rw[show((L.len:Int)==(2:Int))=true by rw[m];rfl]
 refine aw.2 ⟨⟨by omega,by rw[m];decide⟩,a,U,b2,hv 1 _ rfl,?_⟩
 rw[beq_self_eq_true];refine aw.2 ⟨⟨by omega,by rw[m];decide⟩,a,U,b3,I 1 _ rfl,?_⟩
 rw[beq_self_eq_true];exact hk N ((((((k1.tr k3).tr X).tr k).tr T).tr y).tr J)
end Go.Proofs
namespace Go.Proofs
open Go Go.Lift
def gH(a l:List Pr):List Pr:=(l.take 20).foldl (fun acc p=>iq (Lo p) acc) a
theorem MN{b l:List Pr}{i:Nat}(hi:i<l.length)(a:i<20):gH b (l.take (i+1))=iq (Lo l[i]) (gH b (l.take i)):=by
 unfold gH;rw[iI,iI,il (by omega),il (by omega),List.take_succ_eq_append_getElem hi,List.foldl_append];rfl
theorem MO{b l:List Pr}{i:Nat}(a:20≤i):gH b (l.take (i+1))=gH b (l.take i):=by
 unfold gH;rw[iI,iI,bH (by omega),bH (by omega)]
theorem na{n:Nat}{a:List Pr}(f:Few n a)(l:List Pr):Few (n+20) (gH a l):=by
 unfold gH;have:∀(m:List Pr) (n:Nat) (acc:List Pr),Few n acc→Few (n+m.length) (m.foldl (fun acc p=>iq (Lo p) acc) acc):=by
  intro m;induction m with
  |nil=>intro n acc h;exact h
  |cons p m ih=>
   intro n acc h;have:=ih (n+1) _ (h.ins (Lo p) (wd _) (wd _));rw[jd,ar];rw[mr,Nat.add_comm 1]at this;exact this
 have h:=this (l.take 20) n a f;exact⟨h.up,aX h.len (by rw[List.length_take];omega),h.fit⟩
theorem X3{x:Hs}{h:ad}{K:Int×Int×Int→ad→Prop}(e:∀h',Upd No h h'→K (x.k0,x.k1,x.mask) h'):HC PG Gb [.agg #[.int .u64 x.k0,.int .u64 x.k1,.int .u64 x.mask]] [.agg [.int .u64,.int .u64,.int .u64]] K h:=by
 refine WW (x.k0,x.k1,x.mask) ?_;unfold Ni ae cg df AA ada ade;refine aP fun g b1 k1=>aP fun h2 b2 d=>?_
 have b:=d.get0 b1;refine⟨_,lJ b 0 0,_,lJ b 0 1,_,vc b 2,?_⟩;refine cF (c:= [.int .u64 0,.int .u64 0,.int .u64 0]) (vs:= [.int .u64 x.k0,.int .u64 x.k1,.int .u64 x.mask]) b2 rfl fun f b3 a=>?_
 exact⟨_,vc b3 0,_,vc b3 1,_,vc b3 2,e f ((k1.tr d).own a k1.size)⟩
theorem Tj{W:Nat→Prop}{x:Hs}{h:ad}{k:Int}(Y:0≤k)(s:k≤255)(T:∀y,W y→y<h.size){K:Tr×Rt→ad→Prop}
  (O:∀h' t r,TreeIs W h' (IntKind.wrap .i64 (kI k 2)) x t []→RefIs W h' (IntKind.wrap .i64 (kI k 2)) x r []→Upd No h h'→K (t,r) h'):
  HC PG A4 [.int .u8 k,.agg #[.int .u64 x.k0,.int .u64 x.k1,.int .u64 x.mask]] [.agg [.int .i64,.int .u64,.int .u64,.int .u64,.ptr,.ptr],.agg [.int .i64,.int .u64,.int .u64,.int .u64,.slice]] K h:=by
 refine QZ k (x.k0,x.k1,x.mask) ?_;unfold Hx aI ae aB bV df nv AA wN zP o9 KW BQ NQ Fz Ns;have o:=acJ Y s;generalize IntKind.wrap .i64 (kI k 2)=kind at o O⊢;refine aP fun s b1 k1=>aP fun h2 b2 J=>aP fun E b3 D=>⟨by decide,?_⟩
 have z1:=aY b1;have z2:=aY b2;have z3:=aY b3;have R:h.size≤s.size:=k1.size;have s2:s.size≤h2.size:=J.size;have B:=(k1.tr J).tr D;have C:=D.get0 (J.get0 b1);have c2:=D.get0 b2;have s3:=D.size;refine⟨_,vc C 0,_,vc C 1,_,vc C 2,?_⟩;refine Un (W:=Pro W h E) (x:=x) (Pro.lt T B) o fun P t V w=>?_
 refine AD (t:=t) fun h10 A g=>⟨by decide,?_⟩
 have s8:=w.size;have aaT:=g.size;have Z:=aY A;have F:=g.get0 (w.get0 C);refine⟨_,vc F 0,_,vc F 1,_,vc F 2,?_⟩;refine X3 (x:=x) fun h15 n=>?_
 have s15:=n.size;refine ZZ (x:=x) (W:=Pro W h E) o fun S r I p=>?_
 have X:=p.size;refine UJ (r:=r) fun N q e=>?_
 have sL:=e.size;have zL:=aY q;have m:Upd No P N:=((g.tr n).tr p).tr e;have U:Upd No h N:=(B.tr w).tr m;have u:=e.get0 ((n.tr p).get0 A);have L:=m.get0 (w.get0 c2);have H:=m.get0 (w.get0 b3);have z:Pro W h E s.size:=.inr (by omega);have v:Pro W h E h2.size:=.inr (by omega);refine⟨_,vc u 0,_,vc u 1,_,vc u 2,_,vc u 3,_,vc u 4,_,vc u 5,_,vc q 0,_,vc q 1,_,vc q 2,_,vc q 3,r.2.2.2.2,vc q 4,?_⟩
 refine cF (c:=kg BM) (vs:=kg t) L rfl fun Q G a=>?_
 have i:=a.oth q (by omega);refine⟨⟨vc i 0,vc i 1,vc i 2,vc i 3,vc i 4⟩,?_⟩;refine cF (c:=ou IT) (vs:=ou r) (a.oth H (by omega)) rfl fun M j d=>?_
 have f:=d.oth G (by omega);refine⟨_,vc f 0,_,vc f 1,_,vc f 2,_,vc f 3,_,vc f 4,_,vc f 5,_,vc j 0,_,vc j 1,_,vc j 2,_,vc j 3,r.2.2.2.2,vc j 4,?_⟩;refine O M t r ((((V.upd0 m).updM a fun y b=>.inl (by have b:y=s.size:=b;rw[b];exact z)).updM d fun y b=>.inl (by have b:y=h2.size:=b;rw[b];exact v)).less Pro.sub) ((((I.upd0 e).updM a fun y b=>.inl (by have b:y=s.size:=b;rw[b];exact z)).updM d fun y b=>.inl (by have b:y=h2.size:=b;rw[b];exact v)).less Pro.sub) ((U.own a R).own d (by omega))
set_option maxHeartbeats 1000000 in
theorem vU{W:Nat→Prop}{x:Hs}{h:ad}{s sg:SliceV}{l L0 R0:List Pr}{g:List ByteArray}{d:Int}{t:Tr}{r:Rt}{n:Nat}(L:TreeIs W h d x t L0)(N:RefIs W h d x r R0)(fw0:Few n L0)(fr0:Few n R0)(hn0:n≤1000)(hs:Sl ey 2 W h s l)(hg:Sl abq 1 W h sg g)(hW:∀y,W y→y<h.size)(hn:l.length≤9223372036854775807)(hgn:g.length≤9223372036854775807){K:Tr×Rt→ad→Prop}
  (hk:∀h' t' Z,TreeIs W h' d x t' (qk (gH L0 l) g)→RefIs W h' d x Z (qk (gH R0 l) g)→Upd No h h'→K (t',Z) h'):
  HC PG pk [yY t,OX r,.slice s.a s.len s.cap,.slice sg.a sg.len sg.cap] [.agg [.int .i64,.int .u64,.int .u64,.int .u64,.ptr,.ptr],.agg [.int .i64,.int .u64,.int .u64,.int .u64,.slice]] K h:=by
 refine QY t r s sg ?_;unfold Hw bE bT aI ae aB bV df nv th zP o9 Bq KW BQ az av lO iU Fz dy rC Ns;refine aP fun C b1 k1=>aP fun h2 b2 k2=>aP fun h3 b3 k3=>aP fun z b4 k4=>?_
 have z1:=aY b1;have z2:=aY b2;have z3:=aY b3;have z4:=aY b4;have s1:h.size≤C.size:=k1.size;have s2:C.size≤h2.size:=k2.size;have s3:h2.size≤h3.size:=k3.size;have s4:=k4.size;have kL:Upd No h z:=((k1.tr k2).tr k3).tr k4;have t0:=k4.get0 (k3.get0 (k2.get0 b1));have x0:=k4.get0 (k3.get0 b2);have rL1:=k4.get0 b3;have rL2:=b4;have iL:=L.pro kL;have jL:RefIs (Pro W h z) z d x r R0:=(N.less (W':=Pro W h z) Pro.hm).upd0 kL
 have V:=Pro.lt hW kL;have U:Pro W h z h.size:=.inr (by omega);have X:Pro W h z C.size:=.inr (by omega);have hP1:Pro W h z h2.size:=.inr (by omega);have hP2:Pro W h z h3.size:=.inr (by omega);have hlen:=hs.len;refine LoopP.ghost (fun(i:Nat) (ti:Int) h'=>ti=(i:Int)∧i≤l.length∧(∃w u,TreeIs (Pro W h z) h' d x w (gH L0 (l.take i))∧RefIs (Pro W h z) h' d x u (gH R0 (l.take i))∧h'[h.size]? =some (.cells (kg w).toArray bo (0,0))∧h'[C.size]? =some (.cells (ou u).toArray cJ (0,0)))∧Upd (fun y=>y=h.size∨y=C.size) z h') (fun i=>l.length-i) 0 ⟨rfl,aS _,⟨t,r,iL,jL,t0,x0⟩,Upd.refl _ _⟩ ?_
 rintro I i ti h' ⟨rfl,hi,⟨w,u,L,N,bt,M⟩,F⟩ hI;have hus:=F.size;have S:Upd No h h':=kL.trans F fun y b=>.inr (by rcases b with rfl|rfl<;>omega)
 refine ax (fun o=>?_) fun hge=>?_
 ·have o:i<l.length:=by omega
  obtain⟨a,ha,_,hv⟩:=(hs.upd S fun _ h=>h.elim).at (af o)
  refine Join.intro (fun _ f=>(∃w u,TreeIs (Pro W h z) f d x w (gH L0 (l.take (i+1)))∧RefIs (Pro W h z) f d x u (gH R0 (l.take (i+1)))∧f[h.size]? =some (.cells (kg w).toArray bo (0,0))∧f[C.size]? =some (.cells (ou u).toArray cJ (0,0)))∧Upd (fun y=>y=h.size∨y=C.size) z f) (fun R Y=>⟨⟨by omega,by omega⟩,a,ha,l[i].1,hv 0 _ rfl,l[i].2,hv 1 _ rfl,?_⟩) ?_
  ·refine tl (p:=l[i]) fun h28 J O=>?_
   have z28:=aY J;have nt:h'.size≠h.size:=by omega
   have nx:h'.size≠C.size:=by omega
   refine ax (fun v=>?_) fun v=>?_
   ·have v:i<20:=by omega
    rw[MN o v,MN o v]at Y;obtain⟨q1,e1⟩:=abW l[i].1;obtain⟨q2,e2⟩:=abW l[i].2;refine⟨_,vc J 0,_,vc J 0,q1,?_⟩;simp only[Bd];refine⟨_,vc J 1,_,vc J 1,q2,?_⟩;rw[e1,e2];refine vz (c':= #[.string (yz l[i].1),.string l[i].2]) J (by simp) rfl fun h29 b29 hu29=>?_
    refine vz (c':= #[.string (yz l[i].1),.string (yz l[i].2)]) b29 (by simp) rfl fun h35 b35 hu35=>?_
    have P:Upd No h' h35:=(O.own hu29 (aj _)).own hu35 (aj _);have D:=P.get0 bt;have x35:=P.get0 M;have s35:=P.size;have fw:=na fw0 (l.take i);have fl:=fw.len;have gw:=na fr0 (l.take i);have gl:=gw.len;have p1:=wd l[i].1;have p2:=wd l[i].2;refine⟨_,vc D 0,_,vc D 1,_,vc D 2,_,vc D 3,_,vc D 4,_,vc D 5,_,vc b35 0,_,vc b35 1,?_⟩;refine IB (L.upd0 P) (fun y b=>aG (V y b) (by omega)) fw.up (by omega) (Lo l[i]) (by unfold Lo;simp only;omega) (by unfold Lo;simp only;omega) fun h45 t' i45 _ q=>?_
    refine cF (c:=kg w) (vs:=kg t') (q.get0 D) rfl fun h46 t46 j=>?_
    have m:=j.oth (q.get0 x35) (by omega);have p46:=j.oth (q.get0 b35) nt;have j46:=((N.upd0 P).upd0 q).updM j fun y b=>.inl (by have b:y=h.size:=b;rw[b];exact U)
    have s45:=q.size;have s46:=j.size;refine⟨_,vc m 0,_,vc m 1,_,vc m 2,_,vc m 3,u.2.2.2.2,vc m 4,_,vc p46 0,_,vc p46 1,?_⟩;refine XR j46 (fun y b=>aG (V y b) (by omega)) gw.up (by omega) (Lo l[i]) (by unfold Lo;simp only;omega) (by unfold Lo;simp only;omega) fun h55 Z j55 A=>?_
    refine cF (c:=ou u) (vs:=ou Z) (A.get0 m) rfl fun h56 x56 k=>Y _ _ ⟨⟨t',Z,?_,j55.updM k fun y b=>.inl (by have b:y=C.size:=b;rw[b];exact X),k.oth (A.get0 t46) (by omega),x56⟩,?_⟩
    ·exact((i45.updM j fun y b=>.inl (by have b:y=h.size:=b;rw[b];exact U)).upd0 A).updM k fun y b=>.inl (by have b:y=C.size:=b;rw[b];exact X)
    ·exact((((F.tr P.wide).tr q.wide).trans j fun y b=>.inl (.inl b)).tr A.wide).trans k fun y b=>.inl (.inr b)
   ·have v:20≤i:=by omega
    rw[MO v,MO v]at Y;exact Y _ _ ⟨⟨w,u,L.upd0 O,N.upd0 O,O.get0 bt,O.get0 M⟩,F.tr O.wide⟩
  ·rintro _ f ⟨hex,hu2⟩
   rw[mg o hn];exact hI (i+1) _ _ ⟨rfl,o,hex,hu2⟩ (by omega)
 ·have hil:i=l.length:=by omega
  subst hil;rw[ce]at L N;have y1:=F.get rL1 (by rintro(e|e)<;>omega)
  have y2:=F.get rL2 (by rintro(e|e)<;>omega)
  have hgl:=hg.len;have fw1:=na fw0 l;have fr1:=na fr0 l;generalize gH L0 l=L1 at L hk fw1;generalize gH R0 l=R1 at N hk fr1;refine LoopP.ghost (fun(i:Nat) (ti:Int) f=>ti=(i:Int)∧i≤g.length∧(∃w u,TreeIs (Pro W h z) f d x w (qk L1 (g.take i))∧RefIs (Pro W h z) f d x u (qk R1 (g.take i))∧f[h.size]? =some (.cells (kg w).toArray bo (0,0))∧f[C.size]? =some (.cells (ou u).toArray cJ (0,0)))∧Upd (fun y=>y=h.size∨y=C.size) z f) (fun i=>g.length-i) 0 ⟨rfl,aS _,⟨w,u,L,N,bt,M⟩,F⟩ ?_
  clear hI L N bt M y1 y2 F hus S w u;rintro I2 i ti h' ⟨rfl,hi,⟨w,u,L,N,bt,M⟩,F⟩ hI2;have hus:=F.size;have S:Upd No h h':=kL.trans F fun y b=>.inr (by rcases b with rfl|rfl<;>omega)
  refine ax (fun o=>?_) fun hge=>?_
  ·have o:i<g.length:=by omega
   obtain⟨a,ha,_,hv⟩:=(hg.upd S fun _ h=>h.elim).at0 (af o)
   refine Join.intro (fun _ f=>(∃w u,TreeIs (Pro W h z) f d x w (qk L1 (g.take (i+1)))∧RefIs (Pro W h z) f d x u (qk R1 (g.take (i+1)))∧f[h.size]? =some (.cells (kg w).toArray bo (0,0))∧f[C.size]? =some (.cells (ou u).toArray cJ (0,0)))∧Upd (fun y=>y=h.size∨y=C.size) z f) (fun R Y=>⟨⟨by omega,by omega⟩,a,ha,g[i],hv,?_⟩) ?_
   ·refine ax (fun E=>?_) fun E=>?_
    ·have E:i<15:=by omega
     rw[Qk o E,Qk o E]at Y;obtain⟨q1,e1⟩:=abW g[i];refine⟨q1,?_⟩;simp only[Bd];rw[e1];refine⟨_,vc bt 0,_,vc bt 1,_,vc bt 2,_,vc bt 3,_,vc bt 4,_,vc bt 5,?_⟩;have fw:=AU fw1 (g.take i);have fl:=fw.len;have gw:=AU fr1 (g.take i);have gl:=gw.len;have p1:=wd g[i];refine GK L (fun y b=>aG (V y b) (by omega)) fw.up fw.fits (by omega) (yz g[i]) (by omega) fun h45 t' i45 _ q=>?_
     refine cF (c:=kg w) (vs:=kg t') (q.get0 bt) rfl fun h46 t46 j=>?_
     have m:=j.oth (q.get0 M) (by omega);have j46:=(N.upd0 q).updM j fun y b=>.inl (by have b:y=h.size:=b;rw[b];exact U)
     have s45:=q.size;have s46:=j.size;refine⟨_,vc m 0,_,vc m 1,_,vc m 2,_,vc m 3,u.2.2.2.2,vc m 4,?_⟩;refine PB j46 (fun y b=>aG (V y b) (by omega)) gw.up gw.fits (by omega) (yz g[i]) (by omega) fun h55 Z _ j55 A=>?_
     refine cF (c:=ou u) (vs:=ou Z) (A.get0 m) rfl fun h56 x56 k=>Y _ _ ⟨⟨t',Z,?_,j55.updM k fun y b=>.inl (by have b:y=C.size:=b;rw[b];exact X),k.oth (A.get0 t46) (by omega),x56⟩,?_⟩
     ·exact((i45.updM j fun y b=>.inl (by have b:y=h.size:=b;rw[b];exact U)).upd0 A).updM k fun y b=>.inl (by have b:y=C.size:=b;rw[b];exact X)
     ·exact(((F.tr q.wide).trans j fun y b=>.inl (.inl b)).tr A.wide).trans k fun y b=>.inl (.inr b)
    ·have E:15≤i:=by omega
     rw[Ql E,Ql E]at Y;exact Y _ _ ⟨⟨w,u,L,N,bt,M⟩,F⟩
   ·rintro _ f ⟨hex,hu2⟩
    rw[mg o hgn];exact hI2 (i+1) _ _ ⟨rfl,o,hex,hu2⟩ (by omega)
  have hil:i=g.length:=by omega
  subst hil;rw[ce]at L N;have y1:=F.get rL1 (by rintro(e|e)<;>omega)
  have y2:=F.get rL2 (by rintro(e|e)<;>omega)
  refine⟨_,vc bt 0,_,vc bt 1,_,vc bt 2,_,vc bt 3,_,vc bt 4,_,vc bt 5,_,vc M 0,_,vc M 1,_,vc M 2,_,vc M 3,u.2.2.2.2,vc M 4,?_⟩;refine cF (c:=kg BM) (vs:=kg w) y1 rfl fun h70 b70 B=>?_
  have T:=B.oth M (by omega);refine⟨⟨vc T 0,vc T 1,vc T 2,vc T 3,vc T 4⟩,?_⟩;refine cF (c:=ou IT) (vs:=ou u) (B.oth y2 (by omega)) rfl fun h71 Q G=>?_
  have H:=G.oth b70 (by omega);refine⟨_,vc H 0,_,vc H 1,_,vc H 2,_,vc H 3,_,vc H 4,_,vc H 5,_,vc Q 0,_,vc Q 1,_,vc Q 2,_,vc Q 3,u.2.2.2.2,vc Q 4,?_⟩;refine hk h71 w u (((L.updM B fun y b=>.inl (by have b:y=h2.size:=b;rw[b];exact hP1)).updM G fun y b=>.inl (by have b:y=h3.size:=b;rw[b];exact hP2)).less Pro.sub) (((N.updM B fun y b=>.inl (by have b:y=h2.size:=b;rw[b];exact hP1)).updM G fun y b=>.inl (by have b:y=h3.size:=b;rw[b];exact hP2)).less Pro.sub) ((S.own B (by omega)).own G (by omega))
end Go.Proofs
