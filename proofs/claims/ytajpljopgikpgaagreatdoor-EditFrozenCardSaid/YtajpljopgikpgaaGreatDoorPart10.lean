/- A part of the proof that the named laws of this program answer true, whatever the input. -/
import Derived.Test.YtajpljopgikpgaaGreatDoorPart9
import Derived.Test.YtajpljopgikpgaaGreatDoorPart7
import Derived.Test.YtajpljopgikpgaaGreatDoorPart8
import Derived.Test.YtajpljopgikpgaaGreatDoorPart6
open ByteArray renaming mk→jE
open List renaming length_singleton→aK,length_append→af,flatMap_append→bH,length_cons→aV,mem_singleton→au,mem_of_getElem?→az,getElem?_of_mem→g8,getElem?_eq_some_iff→aF,getElem?_set_ne→eB
open List.Pairwise renaming nil→gn
open Nat renaming le_refl→ao,zero_add→aL,le_trans→bv,mul_le_mul_right→ci,lt_of_lt_of_le→bP,lt_or_ge→bK,le_succ→fY
open Option renaming isSome_some→kP
namespace Go.Proofs
open Go Go.Lift
theorem QM{c:Nat}:IntKind.wrap .u32 (((2^c%4294967296:Nat):Int)*2)=((2^(c+1)%4294967296:Nat):Int):=by
 rw[IntKind.wrap_u32,Nat.pow_succ];omega
theorem TA{q:List Pr}:(Ml q==(1:Int))=(gI q).isSome:=by
 match q with
 | []=>rfl
 | [a]=>rfl
 |a::b::q=>rw[show Ml (a::b::q)=2 by unfold Ml;rw[if_neg (by simp),if_pos (by simp)]];rfl
theorem Tz{q:List Pr}:(Ml q==(2:Int))=(eJ q).isSome:=by
 match q with
 | []=>rfl
 | [a]=>rfl
 |a::b::q=>rw[show Ml (a::b::q)=2 by unfold Ml;rw[if_neg (by simp),if_pos (by simp)]];rw[show eJ (a::b::q)=some (a::b::q) by unfold eJ;rw[if_pos (by simp)]];rfl
def TwoB(c a:Nat)(h:ad)(d f:SliceV)(L:List Pr)(B:List UInt8):Prop:=
 ∃M N:Nat→Prop,OwnS ge 2 bR M h d L∧OwnS oz 1 cz N h f B∧(∀b,M b→c≤b∧b<a∧¬N b)∧∀b,N b→c≤b∧b<a
theorem TwoB.upd0{d a:Nat}{h f:ad}{c b:SliceV}{L:List Pr}{B:List UInt8}(t:TwoB d a h c b L B)(k:Upd No h f):TwoB d a f c b L B:=by
 obtain⟨M,N,i,m,j,g⟩:=t;exact⟨M,N,i.upd k fun _ _ h=>h,m.upd k fun _ _ h=>h,j,g⟩
theorem TwoB.up{k f i:Nat}{h:ad}{j g:SliceV}{L:List Pr}{B:List UInt8}(t:TwoB k f h j g L B)(o:f≤i):TwoB k i h j g L B:=by
 obtain⟨M,N,m,n,c,d⟩:=t;exact⟨M,N,m,n,fun b a=>⟨(c b a).1,by have:=(c b a).2.1;omega,(c b a).2.2⟩,fun b a=>⟨(d b a).1,by have:=(d b a).2;omega⟩⟩
theorem TwoB.appP{g j:Nat}{h:ad}{f m:SliceV}{L:List Pr}{B:List UInt8}{p:Pr}(t:TwoB g j h f m L B)(z:g≤j)(q:j≤h.size)(y:L.length≤1000000){xs:List Value}(hx:xs=ge p){K:SliceV→ad→Prop}
  (u:∀s' c,TwoB g c.size c s' m (L++ [p]) B→Upd (fun b=>g≤b) h c→K s' c):AppP (some [.string (⟨#[]⟩:ByteArray),.string (⟨#[]⟩:ByteArray)]) 2 32 bR f.a f.len f.cap 1 xs h K:=by
 subst hx;obtain⟨M,N,v,w,i,d⟩:=t;refine AppP.own (ys:= [p]) (v.more (M':=fun b=>M b∨h.size≤b) fun _ h=>.inl h) rfl rfl rfl rfl (by omega) (by simp only[aK];omega) (.inr (ao _)) fun s' c o k=>?_
 have s:=k.size;refine u s' c ⟨_,N,o.within,w.upd k fun b a hm=>hm.elim (fun hm=>(i b hm).2.2 a) fun hm=>by have:=(d b a).2;omega,fun b a=>⟨?_,a.2,fun n=>?_⟩,fun b a=>⟨(d b a).1,by have:=(d b a).2;omega⟩⟩ (k.mono fun b a=>a.elim (fun a=>.inl (i b a).1) .inr)
 ·rcases a.1 with a|a
  ·exact(i b a).1
  ·omega
 ·rcases a.1 with a|a
  ·exact(i b a).2.2 n
  ·have:=(d b n).2;omega
theorem TwoB.appB{W:Nat→Prop}{i j:Nat}{h:ad}{n f e:SliceV}{L:List Pr}{B ys:List UInt8}(t:TwoB i j h n f L B)(z:i≤j)(q:j≤h.size)(u:Sl oz 1 W h e ys)(p:B.length+ys.length≤140737488355328){K:SliceV→ad→Prop}
  (v:∀s' d,TwoB i d.size d n s' L (B++ys)→Upd (fun b=>i≤b) h d→K s' d):∃xs,SRow h e.a (e.len*1) xs∧AppP (some [.int .u8 0]) 1 1 cz f.a f.len f.cap e.len xs h K:=by
 obtain⟨M,N,w,y,c,m⟩:=t;refine w7 (M:=fun b=>N b∨h.size≤b) (y.more fun _ h=>.inl h) u (fun _ h=>.inr h) p fun s' d o k=>?_
 have s:=k.size;refine v s' d ⟨M,_,w.upd k fun b a hm=>hm.elim (fun hm=>(c b a).2.2 hm) fun hm=>by have:=(c b a).2.1;omega,o.within,fun b a=>⟨(c b a).1,by have:=(c b a).2.1;omega,fun g=>?_⟩,fun b a=>⟨?_,a.2⟩⟩ (k.mono fun b a=>a.elim (fun a=>.inl (m b a).1) .inr)
 ·rcases g.1 with g|g
  ·exact(c b a).2.2 g
  ·have:=(c b a).2.1;omega
 ·rcases a.1 with a|a
  ·exact(m b a).1
  ·omega
theorem BN{β:Type}(g:Nat→Option β):∀n,(fm g n).length≤n
 |0=>by simp[fm]
 |n+1=>by
  rw[gg,af];have:=BN g n;cases g n<;>simp<;>omega
theorem UX{β:Type}(g:Nat→Option β){n m:Nat}(h:n≤m):∃r,fm g m=fm g n++r:=by
 obtain⟨j,rfl⟩:∃j,m=n+j:=⟨m-n,by omega⟩
 clear h;induction j with
 |zero=>exact⟨[],by simp⟩
 |succ j ih=>obtain⟨r,a⟩:=ih;exact⟨r++(g (n+j)).toList,by rw[←Nat.add_assoc,gg,a,List.append_assoc]⟩
set_option maxRecDepth 4000 in
theorem Tk{x:Hs}:∀(m:Nat),m≤13→∀{h:ad} {b:Nat} {l:List Pr},DTrie No x h m b l→Fit l→l.length≤60000→∀{K:SliceV→ad→Prop},(∀s' f,OwnS oz 1 cz (fun y=>h.size≤y) f s' (fg x m l)→Upd No h f→K s' f)→
  HC PG Ak [.pointer (some ⟨b,0,none⟩),.int .i64 ((13-m:Nat):Int)] [.c .slice] K h:=by
 intro m;induction m with
 |zero=>
  intro _ h b l t Z hn K hk;refine KZ (some ⟨b,0,none⟩) ((13-0:Nat):Int) ?_;unfold Fw bJ dH bw aM my jS iR fL;obtain⟨_,⟨sa,sn,sc⟩,hb,hs⟩:=t;obtain rfl:sn=l.length:=hs.len;have g:∀{f:ad} {i:Nat},Upd No h f→i<130→aR f (adr ⟨b,0,none⟩ i)=some (dF true ⟨sa,l.length,sc⟩ (fun _=> []) (fun _=>none) i):=fun k hi=>by rw[bO,bA (k.get0 hb),aL,EY hi]
  have r0:=Upd.refl No h;have e1:fg x 0 l= [1]++l8 l.length 2++jX l:=by unfold fg;simp
  have hpl:=lY Z;rw[e1]at hk;refine⟨_,rfl,true,g (i:=0) r0 (by omega),ay.2 ⟨_,rfl,⟨sa,l.length,sc⟩,g (i:=1) r0 (by omega),_,rfl,⟨sa,l.length,sc⟩,g (i:=1) r0 (by omega),?_,?_⟩⟩
  ·refine aJ fun h1 b1 k1=>⟨g (i:=1) k1 (by omega),g (i:=1) k1 (by omega),?_⟩
   have o1:=xH (b:=1) b1;refine Dt (n:=l.length) (by omega) fun s2 u F o=>⟨g (i:=1) (k1.tr o) (by omega),g (i:=1) (k1.tr o) (by omega),?_⟩
   have s1:=k1.size;have s2':=o.size;refine w7 (o1.upd o fun _ _ h=>h) (F.sl (W:=No) fun _ _ _ h=>h) (fun y d=>by show h.size≤y;omega) (by rw[di];simp) fun s3 z E P=>?_
   have v:Upd No h z:=(k1.tr o).trans P fun y d=>.inr d
   refine⟨g (i:=1) v (by omega),g (i:=1) v (by omega),?_⟩;refine BB (hs.upd v fun _ h=>h.elim) Z hn fun s4 h4 w s=>⟨g (i:=1) (v.tr s) (by omega),?_⟩
   have s3':=v.size;have H:=s.size;refine w7 (E.upd s fun _ _ h=>h) (w.sl (W:=No) fun _ _ _ h=>h) (fun y d=>by show h.size≤y;omega) (by rw[af,di];simp;omega) fun s5 V C O=>?_
   have X:Upd No h V:=(v.tr s).trans O fun y d=>.inr d
   exact⟨g (i:=1) X (by omega),hk s5 V C X⟩
  ·refine Dt (n:=l.length) (by omega) fun s2 u F o=>⟨g (i:=1) o (by omega),g (i:=1) o (by omega),?_⟩
   refine aJ fun h1 b1 k1=>⟨g (i:=1) (o.tr k1) (by omega),g (i:=1) (o.tr k1) (by omega),?_⟩
   have o1:=xH (b:=1) b1;have s1:=k1.size;have s2':=o.size;refine w7 (M:=fun y=>h.size≤y) (o1.more fun y d=>by show h.size≤y;omega) ((F.upd k1 fun _ _ h=>h).sl (W:=No) fun _ _ _ h=>h) (fun y d=>by show h.size≤y;omega) (by rw[di];simp) fun s3 z E P=>?_
   have v:Upd No h z:=(o.tr k1).trans P fun y d=>.inr d
   refine⟨g (i:=1) v (by omega),g (i:=1) v (by omega),?_⟩;refine BB (hs.upd v fun _ h=>h.elim) Z hn fun s4 h4 w s=>⟨g (i:=1) (v.tr s) (by omega),?_⟩
   have s3':=v.size;have H:=s.size;refine w7 (E.upd s fun _ _ h=>h) (w.sl (W:=No) fun _ _ _ h=>h) (fun y d=>by show h.size≤y;omega) (by rw[af,di];simp;omega) fun s5 V C O=>?_
   have X:Upd No h V:=(v.tr s).trans O fun y d=>.inr d
   exact⟨g (i:=1) X (by omega),hk s5 V C X⟩
 |succ m ih=>
  intro hm h b l t Z hn K hk;refine KZ (some ⟨b,0,none⟩) ((13-(m+1):Nat):Int) ?_;unfold Fw bJ dH bw aM my jS iR fL;obtain⟨_,kk,hb,hkid⟩:=t;have elev:(13-(m+1):Nat)=12-m:=by omega
  rw[elev];obtain⟨q,hq⟩:∃q:Nat→List Pr,q=fun c=>part x (12-m) c l:=⟨_,rfl⟩
  have G:∀c,part x (12-m) c l=q c:=fun c=>by rw[hq]
  rw[←hq]at hb;have g:∀{f:ad} {i j:Nat},Upd No h f→i+j<130→aR f (adr (adr ⟨b,0,none⟩ i) j)=some (dF false ⟨none,0,0⟩ q kk (i+j)):=fun k hi=>by rw[bO,bO,bA (k.get0 hb),aL,EY hi]
  have g0:aR h (adr ⟨b,0,none⟩ 0)=some (dF false ⟨none,0,0⟩ q kk 0):=by rw[bO,bA hb,EY (by omega)]
  refine⟨_,rfl,false,g0,aj.2 ?_⟩;have hML:∀L∈jJ x (12-m) l,2≤L.length∧(fg x m L).length≤9+L.length*(20004+9*(m+1)):=fun L hL=>by
   obtain⟨z,c,rfl⟩:=pC hL;exact⟨z,nP m Z.part⟩
  have htot:((jJ x (12-m) l).flatMap (fg x m)).length≤60000*(20004+9*(m+1)+9):=by
   have h1:=Dr hML;have u:=Bt x (12-m) l;exact bv h1 (ci _ (by omega))
  have hm20:20004+9*(m+1)+9≤20200:=by omega
  have htot2:((jJ x (12-m) l).flatMap (fg x m)).length≤60000*20200:=bv htot (Nat.mul_le_mul_left _ hm20);have T:∀c,c≤32→((fm (fun j=>eJ (q j)) c).flatMap (fg x m)).length≤60000*20200:=fun c hc=>by
   obtain⟨r,hr⟩:=UX (fun j=>eJ (q j)) hc
   have:((fm (fun j=>eJ (q j)) 32).flatMap (fg x m)).length≤60000*20200:=by rw[hq];exact htot2
   rw[hr,bH,af]at this;omega
  refine LoopP.ghost (fun(c:Nat) (t:Int×Int×SliceV×SliceV×Int×Int) f=>t.1=((iV (fun j=>(gI (q j)).isSome) c:Nat):Int)∧t.2.1=((iV (fun j=>(eJ (q j)).isSome) c:Nat):Int)∧t.2.2.2.2.1=((2^c%4294967296:Nat):Int)∧t.2.2.2.2.2=(c:Int)∧c≤32∧
   TwoB h.size f.size f t.2.2.1 t.2.2.2.1 (fm (fun j=>gI (q j)) c) ((fm (fun j=>eJ (q j)) c).flatMap (fg x m))∧Upd No h f) (fun c=>32-c) 0 ⟨rfl,rfl,rfl,rfl,by omega,⟨No,No,OwnS.nil jh,OwnS.nil qB,fun _ h=>h.elim,fun _ h=>h.elim⟩,Upd.refl _ _⟩ ?_
  rintro I c ⟨dt,nt,sl,sk,bt,ct⟩ f ⟨e1,e2,e3,e4,hc32,hT,hu⟩ hI;simp only at e1 e2 e3 e4 hT;subst e1 e2 e3 e4;have s0:=hu.size;have wide:∀{h1 u:ad},Upd No h h1→Upd (fun b=>h.size≤b) h1 u→Upd No h u:=fun a k=>a.trans k fun y d=>.inr d
  refine aQ (fun A=>?_) fun hge=>?_
  ·have A:c<32:=by have:(c:Int)<32:=A;omega
   have ec:(c:Int).toNat*1=c:=by omega
   have ec2:(c:Int).toNat*2=c*2:=by omega
   have hbd:=mg (fun j=>(gI (q j)).isSome) c
   have hbn:=mg (fun j=>(eJ (q j)).isSome) c
   have hpw:2^c≤2^31:=Nat.pow_le_pow_right (by omega) (by omega);have Q:2^c%4294967296=2^c:=Nat.mod_eq_of_lt (by omega);have vis:dF false ⟨none,0,0⟩ q kk (2+c)=.int .i64 (Ml (q c)):=by rw[Of (by omega) (by omega),show 2+c-2=c by omega]
   refine Join.intro (fun(t:Int×SliceV) u=>t.1=((iV (fun j=>(gI (q j)).isSome) (c+1):Nat):Int)∧TwoB h.size u.size u t.2 sk (fm (fun j=>gI (q j)) (c+1)) ((fm (fun j=>eJ (q j)) c).flatMap (fg x m))∧Upd No h u) (fun R hR=>?_) ?_
   ·refine⟨_,rfl,⟨by simp only;omega,by simp only;omega⟩,Ml (q c),?_,?_⟩
    ·simp only[ec];rw[g hu (by omega),vis]
    rw[TA];have eb:iV (fun j=>(gI (q j)).isSome) (c+1)=iV (fun j=>(gI (q j)).isSome) c+(if(gI (q c)).isSome then 2^c else 0):=rfl
    cases hso:gI (q c)with
    |none=>
     rw[hso]at eb;refine aj.2 (hR _ _ ⟨by rw[eb];rfl,?_,hu⟩);rw[gg,hso];simpa using hT
    |some p=>
     rw[hso]at eb;have ep:BM (gI (q c))=p:=by rw[hso];rfl
     refine ay.2 ⟨_,rfl,⟨by simp only;omega,by simp only;omega⟩,p.1,?_,p.2,?_,aJ fun u b2 o=>⟨_,kF b2,?_⟩⟩
     ·simp only[ec2];rw[bO,bO,bO,bA (hu.get0 hb),aL,EY (by omega),KE (by omega) (by omega) (by omega),show(34+c*2+0-34)/2=c by omega,ep]
     ·simp only[ec2];rw[bO,bO,bO,bA (hu.get0 hb),aL,EY (by omega),KC (by omega) (by omega) (by omega),show(34+c*2+1-34)/2=c by omega,ep]
     ·have s2:=o.size
      have hl:=BN (fun j=>gI (q j)) c
      refine(hT.upd0 o).appP (p:=p) s0 s2 (by omega) rfl fun s3 z J P=>hR _ _ ⟨?_,?_,wide (hu.tr o) P⟩
      ·rw[eb,Q]
       simp only[kP,if_true];rw[IntKind.wrap_u32];omega
      ·rw[gg,hso];exact J
   rintro⟨dt,sl2⟩ u ⟨rfl,hT2,u2⟩;simp only at hT2⊢;have s2:=u2.size;refine Join.intro (fun(t:Int×SliceV) z=>t.1=((iV (fun j=>(eJ (q j)).isSome) (c+1):Nat):Int)∧TwoB h.size z.size z sl2 t.2 (fm (fun j=>gI (q j)) (c+1)) ((fm (fun j=>eJ (q j)) (c+1)).flatMap (fg x m))∧Upd No h z) (fun R hR=>?_) ?_
   ·refine⟨_,rfl,⟨by omega,by omega⟩,Ml (q c),?_,?_⟩
    ·rw[ec,g u2 (by omega),vis]
    rw[Tz];have eb:iV (fun j=>(eJ (q j)).isSome) (c+1)=iV (fun j=>(eJ (q j)).isSome) c+(if(eJ (q c)).isSome then 2^c else 0):=rfl
    cases hma:eJ (q c)with
    |none=>
     rw[hma]at eb;refine aj.2 (hR _ _ ⟨by rw[eb];rfl,?_,u2⟩);rw[gg (fun j=>eJ (q j)),hma];simpa using hT2
    |some L=>
     rw[hma]at eb;have hL2:2≤(q c).length∧L=q c:=by
      unfold eJ at hma;by_cases u:2≤(q c).length
      ·rw[if_pos u]at hma;exact⟨u,(Option.some.inj hma).symm⟩
      ·rw[if_neg u]at hma;cases hma
     obtain⟨h2l,rfl⟩:=hL2;refine ay.2 (aQ (fun _=>?_) fun hx=>absurd (show((12-m:Nat):Int)<13 by omega) hx)
     obtain⟨kb,hkb,td⟩:=hkid c A (by rw[G];exact h2l);rw[G]at td;have hpt:(q c).length≤l.length:=by rw[←G];exact jW
     have hpf:Fit (q c):=by rw[←G];exact Z.part
     have e14:IntKind.wrap .i64 (((12-m:Nat):Int)+1)=((13-m:Nat):Int):=by rw[oD (by omega)];omega
     refine⟨_,rfl,⟨by omega,by omega⟩,some ⟨kb,0,none⟩,?_,?_⟩
     ·rw[ec,g u2 (by omega),KD (by omega),show 98+c-98=c by omega,hkb]
     rw[e14];refine ih (by omega) (DTrie.upd u2 (fun _ h=>h.elim) td) hpf (by omega) fun s4 h4 w s=>?_
     have H:=s.size;have Y:=T (c+1) (by omega);rw[gg,hma,bH,af]at Y;simp only[Option.toList_some,List.flatMap_cons,List.flatMap_nil,List.append_nil]at Y;refine(hT2.upd0 s).appB s2 H (w.sl (W:=No) fun _ _ _ h=>h) (by omega) fun s5 V hT5 O=>hR _ _ ⟨?_,?_,wide (u2.tr s) O⟩
     ·rw[eb,Q]
      simp only[kP,if_true];rw[IntKind.wrap_u32];omega
     ·rw[gg (fun j=>eJ (q j)),hma,bH]
      simpa using hT5
   rintro⟨nt,sk2⟩ z ⟨rfl,J,v⟩;simp only at J⊢;rw[cI A (by omega),QM];exact hI (c+1) _ _ ⟨rfl,rfl,rfl,rfl,A,J,v⟩ (by omega)
  ·obtain rfl:c=32:=by have:¬(c:Int)<32:=hge;omega
   have e1:fg x (m+1) l= [0]++l8 (iV (fun j=>(gI (q j)).isSome) 32) 4++l8 (iV (fun j=>(eJ (q j)).isSome) 32) 4++jX (fm (fun j=>gI (q j)) 32)++(fm (fun j=>eJ (q j)) 32).flatMap (fg x m):=by
    rw[hq];unfold fg;simp[fS,jJ]
   rw[e1]at hk;have hD:=mg (fun j=>(gI (q j)).isSome) 32
   have hN:=mg (fun j=>(eJ (q j)).isSome) 32
   have hsf:Fit (fm (fun j=>gI (q j)) 32):=fun p hp=>Z p (rp (x:=x) (lev:=12-m) (by unfold fS;rw[hq]at hp;exact hp))
   have hsl:=BN (fun j=>gI (q j)) 32
   have hps:=lY hsf;have Y:=T 32 (ao _);obtain⟨M,N,o1,o2,hMb,hNb⟩:=hT;generalize iV (fun j=>(gI (q j)).isSome) 32=D at*
   generalize iV (fun j=>(eJ (q j)).isSome) 32=N' at*
   generalize fm (fun j=>gI (q j)) 32=S at*
   generalize (fm (fun j=>eJ (q j)) 32).flatMap (fg x m)=B at*
   have hsS:Sl ge 2 No f sl S:=o1.sl fun _ _ _ h=>h
   have hsB:Sl oz 1 No f sk B:=o2.sl fun _ _ _ h=>h
   refine Join.plain (aJ fun h1 b1 k1=>?_)
   simp only;have ob:=xH (b:=0) b1;refine JP (by omega) fun s2 u F o=>?_
   have s1:=k1.size;have s2':=o.size;refine w7 (M:=fun y=>f.size≤y) (ob.upd o fun _ _ h=>h) (F.sl (W:=No) fun _ _ _ h=>h) (fun y d=>by show f.size≤y;omega) (by rw[di];simp) fun s3 z E P=>?_
   have s3':=P.size;refine Join.plain (JP (by omega) fun s4 h4 w s=>?_)
   have H:=s.size;refine w7 (M:=fun y=>f.size≤y) (E.upd s fun _ _ h=>h) (w.sl (W:=No) fun _ _ _ h=>h) (fun y d=>by show f.size≤y;omega) (by rw[af,di,di];simp) fun s5 V C O=>?_
   have s5':=O.size;have X:Upd No f V:=(((k1.tr o).trans P fun y d=>.inr d).tr s).trans O fun y d=>.inr d
   refine Join.plain (BB (hsS.upd X fun _ h=>h.elim) hsf (by omega) fun s6 h6 ho6 k6=>?_)
   have s6':=k6.size;refine w7 (M:=fun y=>f.size≤y) (C.upd k6 fun _ _ h=>h) (ho6.sl (W:=No) fun _ _ _ h=>h) (fun y d=>by show f.size≤y;omega) (by rw[af,af,di,di];simp;omega) fun s7 h7 ho7 k7=>?_
   have u7:Upd No f h7:=(X.tr k6).trans k7 fun y d=>.inr d
   refine w7 (M:=fun y=>f.size≤y) ho7 (hsB.upd u7 fun _ h=>h.elim) (fun y d=>by have:=u7.size;show f.size≤y;omega) (by rw[af,af,af,di,di];simp;omega) fun s8 h8 ho8 k8=>?_
   refine hk s8 h8 (ho8.more fun y d=>by show h.size≤y;omega) ((hu.tr u7).trans k8 fun y d=>.inr (by omega))
end Go.Proofs
namespace Go.Proofs
open Go Go.Lift
theorem OF{a:Int}{x:Hs}{l:List Pr}{xs:List UInt8}(hv:HB a x l xs)(b:Fit l)(c:l.length≤60000):xs.length≤100000000000:=by
 rcases hv with⟨_,rfl⟩|⟨_,ys,f,rfl⟩
 ·have d:=nP (x:=x) 13 b
  have g:l.length*(20004+9*(13+1))≤60000*(20004+9*(13+1)):=ci _ c;rw[aV];omega
 ·have d:=zQ f b
  rw[aV];omega
theorem O1{W:Nat→Prop}{x:Hs}{h:ad}{a:Int}{r:Rt}{l:List Pr}(G:a=0∨a=1)(i:RefIs W h a x r l)(T:cA l)(n:Fit l)(B:l.length≤60000){K:SliceV→ad→Prop}
  (O:∀s' h' xs,OwnS oz 1 cz (fun y=>h.size≤y) h' s' xs→HB a x l xs→Upd No h h'→K s' h'):HC PG wS [S9 r] [.c .slice] K h:=by
 refine KV r ?_;unfold CX bh bS vH dK C9 iR;obtain⟨s,rfl,C,hc⟩:=i;have C:=C.less (W':=No) fun _ h=>h.elim
 refine aJ fun D b1 k1=>⟨_,vc b1 0,?_⟩
 have s1:=k1.size;rcases G with rfl|rfl
 ·refine aj.2 (aJ fun Y b3 c=>⟨_,fI (c.get0 b1) 1 0,_,fI (c.get0 b1) 1 1,_,fI (c.get0 b1) 1 2,s,vc (c.get0 b1) 4,?_⟩)
  have N:=xH (b:=0) b3;have u:=k1.tr c;have Z:∀v,hx 0 v=v:=fun v=>if_pos rfl
  simp only[Z];refine QG (x:=x) (C.upd u fun _ h=>h.elim) B (fun p H=>by have:=n p H;omega) fun V b S k=>?_
  have s3:=c.size;have Q:=k.size;refine Tk 13 (ao _) S n B fun P R f j=>?_
  have J:=j.size;have q:=nP (x:=x) 13 n;have h2:l.length*(20004+9*(13+1))≤60000*(20004+9*(13+1)):=ci _ B;refine w7 (M:=fun y=>D.size≤y) ((N.upd k fun _ _ h=>h).upd j fun _ _ h=>h) (f.sl (W:=No) fun _ _ _ h=>h) (fun y d=>by show D.size≤y;omega) (by simp;omega) fun L I g E=>?_
  exact O L I _ (g.more fun y d=>bv s1 d) (.inl ⟨rfl,rfl⟩) (((u.tr k).tr j).trans E fun y d=>.inr (bv s1 d))
 ·refine ay.2 (aJ fun Y b3 c=>⟨s,vc (c.get0 b1) 4,?_⟩)
  have N:=xH (b:=1) b3;have u:=k1.tr c;refine Th (C.upd u fun _ h=>h.elim) hc T B (fun p H=>by have:=n p H;have:=Mi p.1;show(ky p).length≤_;unfold ky;omega) fun V b w F X m o k=>?_
  have s3:=c.size;have Q:=k.size;obtain⟨A,hw⟩:=wL m o n;have z:MX l (ie ([],w,F)):=⟨w,F,m,o,rfl⟩;have q:=zQ z n;refine Od (lab:= []) (by simp) hw (jO m) (EX A) X rfl (by omega) fun P R f j=>?_
  have J:=j.size;refine w7 (M:=fun y=>D.size≤y) ((N.upd k fun _ _ h=>h).upd j fun _ _ h=>h) (f.sl (W:=No) fun _ _ _ h=>h) (fun y d=>by show D.size≤y;omega) (by simp;omega) fun L I g E=>?_
  exact O L I _ (g.more fun y d=>bv s1 d) (.inr ⟨rfl,_,z,rfl⟩) (((u.tr k).tr j).trans E fun y d=>.inr (bv s1 d))
end Go.Proofs
namespace Go.Proofs
open Go Go.Lift
end Go.Proofs
namespace Go.Proofs
open Go Go.Lift
def VrW(W:Nat→Prop)(h:ad)(a:Int)(x:Hs)(n:Nat)(z:Vr):Prop:=TreeIs W h a x z.1 z.2.2∧RefIs W h a x z.2.1 z.2.2∧cA z.2.2∧Fit z.2.2∧z.2.2.length≤n
theorem VrW.updM{W M:Nat→Prop}{h c:ad}(k:Upd M h c)(hm:∀b,M b→W b∨h.size≤b){a:Int}{x:Hs}{n:Nat}{z:Vr}(v:VrW W h a x n z):VrW W c a x n z:=⟨v.1.updM k hm,v.2.1.updM k hm,v.2.2⟩
theorem VrW.mono{W:Nat→Prop}{h:ad}{a:Int}{x:Hs}{n m:Nat}{z:Vr}(v:VrW W h a x n z)(hm:n≤m):VrW W h a x m z:=⟨v.1,v.2.1,v.2.2.1,v.2.2.2.1,bv v.2.2.2.2 hm⟩
theorem Jp{l:List Pr}{p:Pr}{n:Nat}(c:cA l)(b:Fit l)(f:l.length≤n)(d:p.1.size≤5030∧p.2.size≤5030):cA (lQ l p)∧Fit (lQ l p)∧(lQ l p).length≤n+1:=by
 unfold lQ;split
 ·refine⟨BA p c,fun q a=>?_,bv (Hd p) (by omega)⟩
  rcases Ac a with rfl|a
  ·exact⟨by omega,by omega⟩
  ·exact b q a
 ·exact⟨c,b,by omega⟩
theorem Kq{l:List Pr}{k:ByteArray}{n:Nat}(a:cA l)(b:Fit l)(d:l.length≤n):cA (oy l k)∧Fit (oy l k)∧(oy l k).length≤n+1:=by
 unfold oy;split
 ·exact⟨a,b,by omega⟩
 ·exact⟨GT a,fun q c=>b q (Dz.1 c).1,bv RE (by omega)⟩
end Go.Proofs
namespace Go.Proofs
open Go Go.Lift
set_option maxHeartbeats 1000000 in
theorem Pt{W S:Nat→Prop}{h:ad}{eb pb tb:Nat}{ti:Int}{f:Int}{x:Hs}{tu:Tr}{lu:List Pr}(e:EdO W S h eb pb tb ti f x tu lu)(M:lu.length≤1000000)(k:ByteArray){K:Int→ad→Prop}
  (G:∀m b v,EdO W v m eb pb tb ti f x b (oy lu k)→Upd (fun y=>S y∨y=eb) h m→(∀y,v y→(S y∨h.size≤y)∧y<m.size)→K (BU lu k) m):HC PG gO [.pointer (some ⟨eb,0,none⟩),.string k] [.c (.int .i64)] K h:=by
 refine ur _ k ?_;unfold pM;refine aJ fun h1 b1 k1=>aJ fun h2 b2 F=>?_
 have z1:=aH b1;have Z:=aH b2;have s1:=k1.size;have s2:=F.size;have c1:=F.get0 b1;have d:=k1.tr F;refine⟨_,vc c1 0,rt (e.ed.upd d id) (e.tk.upd d id) (aj.2 ⟨_,vc c1 0,?_⟩)⟩;refine CM (e.ed.upd d id) (zl _ _ _ ?_);unfold rX bh jt ah bS aI eK rk pj xn f9;refine aJ fun h3 b3 C=>?_
 have J:=aH b3;have a:=d.tr C;have i:=e.ed.upd a id;have X:=C.get0 b2;have H:=C.get0 c1;refine⟨_,vc H 0,_,rfl,_,fI i 2 0,_,fI i 2 1,_,fI i 2 2,_,fI i 2 3,_,fI i 2 4,_,fI i 2 5,k,vc X 0,?_⟩;have s:∀y,S y→y<h.size:=fun y R=>e.lt y (.inr R)
 refine zL (e.iu.pro a) (e.can.pro a) e.up e.fit M k fun h4 b v n I w Q=>?_
 have Y:=n.size;refine⟨vc (n.get H fun u=>by have:=s _ u;omega) 0,?_⟩
 refine cS (c:=jT vI) (vs:=jT b) (n.get b3 fun u=>by have:=s _ u;omega) rfl fun P o j=>?_
 refine⟨_,vc o 0,_,vc o 1,_,vc o 2,_,vc o 3,_,vc o 4,_,vc o 5,?_⟩;have L:EdAt P eb pb tb tu:=(i.upd n fun u=>e.ap _ u e.we).upd j (by have:=e.lt _ (.inl e.we);omega)
 have g:Fit (oy lu k):=by
  unfold oy;split
  ·exact e.fit
  ·exact fun q T=>e.fit q (Dz.1 T).1
 have p:cA (oy lu k):=by
  unfold oy;split
  ·exact e.up
  ·exact GT e.up
 refine⟨L,fun V z=>⟨fun hz m O B=>?_,fun hz=>?_⟩⟩
 ·obtain⟨D,A,E⟩:=e.fin a n I w j (by omega) J z O B p g
  have hz:BU lu k=0:=hz;rw[hz]at G;exact G m b v D A E
 ·have hz:BU lu k≠0:=hz
  have N:=Q hz;subst N;obtain⟨D,A,E⟩:=e.fin a n I w j (by omega) J z (L.upd z id) (Upd.refl _ _) p g;exact G V b v D A E
theorem Oa{h:ad}{eb pb tb cb cap:Nat}{ids:List Int}{tu:Tr}{ti:Int}{a:Bool}(e:EdAt h eb pb tb tu)(k:TokAt h tb pb ti a)(p:PoolAt h pb cb cap ids):eb≠cb∧eb≠tb∧tb≠cb:=by
 obtain⟨n,b,s,r,hc⟩:=p;refine⟨fun h=>?_,fun h=>?_,fun h=>?_⟩
 ·subst h;have:=e.symm.trans hc;simp at this
 ·subst h;have:=e.symm.trans k;simp at this
 ·subst h;have:=k.symm.trans hc;simp at this
theorem ET{h:ad}{pb cb cap:Nat}{i:Int}{ids:List Int}(p:PoolAt h pb cb cap (i::ids))(t:Tr){K:Option Addr×Int→ad→Prop}(k:∀h' eb tb,Upd (· =cb) h h'→PoolAt h' pb cb cap ids→TokAt h' tb pb i true→EdAt h' eb pb tb t→h.size≤eb→h.size≤tb→K (some ⟨eb,0,none⟩,0) h'):HC PG mJ [.pointer (some ⟨pb,0,none⟩),GK t] [.c .ptr,.c (.int .i64)] K h:=by
 refine AV _ t ?_;unfold vA bh ah aI pj Wq;refine aJ fun m b1 k1=>?_
 have q:=aH b1;have o:cb<h.size:=by obtain⟨_,_,_,_,hc⟩:=p;exact aH hc
 have s1:=k1.size;refine CA (p.upd0 k1) fun n b j g=>aj.2 ?_
 have a:=b.get b1 (show ¬h.size=cb by omega)
 have s3:=b.size;refine⟨_,vc a 0,_,vc a 1,_,vc a 2,_,vc a 3,_,vc a 4,_,vc a 5,aJ fun f d c=>?_⟩
 exact k f n.size m.size ((k1.wide.tr b).tr c.wide) (j.upd0 c) (g.upd c fun h=>h) d (by omega) s1
theorem IB{h:ad}{pb cb cap:Nat}(p:PoolAt h pb cb cap [])(t:Tr){K:Option Addr×Int→ad→Prop}(a:∀h',Upd No h h'→K (none,6) h'):HC PG mJ [.pointer (some ⟨pb,0,none⟩),GK t] [.c .ptr,.c (.int .i64)] K h:=by
 refine AV _ t ?_;unfold vA bh ah aI pj Wq;exact aJ fun b b1 k1=>F4 (p.upd0 k1) (ay.2 (a b k1))
theorem ES{h:ad}{eb pb tb cb cap:Nat}{ids:List Int}{tu:Tr}{ti:Int}(e:EdAt h eb pb tb tu)(k:TokAt h tb pb ti true)(p:PoolAt h pb cb cap ids)(j:ids.length<cap){K:Tr×Int→ad→Prop}(n:∀h',Upd (fun y=>y=cb∨y=tb) h h'→PoolAt h' pb cb cap (ids++ [ti])→TokAt h' tb pb ti false→EdAt h' eb pb tb tu→K (tu,0) h'):iY (some ⟨eb,0,none⟩) K h:=by
 obtain⟨v,w,C⟩:=Oa e k p;unfold iY bh jt ah bS aI eK rk zF f9 jp;refine aJ fun z b1 k1=>?_
 have A:cb<h.size:=by obtain⟨_,_,_,_,hc⟩:=p;exact aH hc
 have D:=aH k;have s1:=k1.size;have f:=e.upd k1 fun h=>h
 refine rt f (k.upd k1 fun h=>h) (aj.2 ⟨_,rfl,_,vc f 0,_,rfl,_,vc f 1,?_⟩)
 refine L0 (p.upd0 k1) (k.upd k1 fun h=>h) j fun u d q m=>?_
 have b:=f.upd d (by omega);refine⟨_,rfl,_,fI b 2 0,_,fI b 2 1,_,fI b 2 2,_,fI b 2 3,_,fI b 2 4,_,fI b 2 5,?_⟩;refine cS (c:=jT vI) (vs:=jT tu) (d.get b1 (by omega)) rfl fun o b3 a=>?_
 refine⟨_,vc b3 0,_,vc b3 1,_,vc b3 2,_,vc b3 3,_,vc b3 4,_,vc b3 5,?_⟩;have s2:=d.size;have s:=aH e;obtain⟨_,g,_⟩:=id p;have B:=aH g;exact n o ((k1.wide.tr d).trans a fun y i=>.inr (by have i:y=h.size:=i;omega)) (q.upd a (by omega) (by omega)) (m.upd a (by omega)) (b.upd a (by omega))
theorem CL{h:ad}{eb pb tb cb cap:Nat}{ids:List Int}{tu:Tr}{ti:Int}(e:EdAt h eb pb tb tu)(k:TokAt h tb pb ti true)(p:PoolAt h pb cb cap ids)(a:ids.length<cap){K:Tr×Int→ad→Prop}(b:∀h',Upd (fun y=>y=cb∨y=tb) h h'→PoolAt h' pb cb cap (ids++ [ti])→TokAt h' tb pb ti false→EdAt h' eb pb tb tu→K (tu,0) h'):HC PG eD [.pointer (some ⟨eb,0,none⟩)] Lu K h:=
 oe _ (ES e k p a b)
theorem wX{h:ad}{eb pb tb:Nat}{tu:Tr}{ti:Int}(e:EdAt h eb pb tb tu)(k:TokAt h tb pb ti false){K:Tr×Int→ad→Prop}(b:∀h',Upd No h h'→K (vI,5) h'):HC PG eD [.pointer (some ⟨eb,0,none⟩)] Lu K h:=by
 refine oe _ ?_;unfold iY bh jt ah bS aI eK rk zF f9 jp;refine aJ fun f b1 k1=>?_
 refine rt (e.upd k1 fun h=>h) (k.upd k1 fun h=>h) (ay.2 ?_)
 refine cS (c:=jT vI) (vs:=jT vI) b1 rfl fun d b3 a=>?_
 exact⟨_,vc b3 0,_,vc b3 1,_,vc b3 2,_,vc b3 3,_,vc b3 4,_,vc b3 5,b d (k1.own a (ao _))⟩
theorem ER{h:ad}{eb pb tb:Nat}{tu:Tr}{ti:Int}(e:EdAt h eb pb tb tu)(k:TokAt h tb pb ti false)(p:Pr){K:Int→ad→Prop}(c:∀h',Upd No h h'→K 5 h'):HC PG fK [.pointer (some ⟨eb,0,none⟩),.agg #[.string p.1,.string p.2]] [.c (.int .i64)] K h:=by
 refine vR _ p ?_;unfold qG tZ;refine aJ fun f b1 k1=>aJ fun d b2 b=>?_
 have a:=k1.tr b;exact⟨_,vc (b.get0 b1) 0,rt (e.upd a fun h=>h) (k.upd a fun h=>h) (ay.2 (c d a))⟩
theorem Hp{h:ad}{eb pb tb:Nat}{tu:Tr}{ti:Int}(e:EdAt h eb pb tb tu)(k:TokAt h tb pb ti false)(p:ByteArray){K:Int→ad→Prop}(c:∀h',Upd No h h'→K 5 h'):HC PG gO [.pointer (some ⟨eb,0,none⟩),.string p] [.c (.int .i64)] K h:=by
 refine ur _ p ?_;unfold pM;refine aJ fun f b1 k1=>aJ fun d b2 b=>?_
 have a:=k1.tr b;exact⟨_,vc (b.get0 b1) 0,rt (e.upd a fun h=>h) (k.upd a fun h=>h) (ay.2 (c d a))⟩
end Go.Proofs
namespace Go.Proofs
open Go Go.Lift
theorem Kc{x:Hs}{h:ad}{K:Int×Int×Int→ad→Prop}(g:∀h',Upd No h h'→K (x.k0,x.k1,x.mask) h'):HC PG xF [.agg #[.int .u64 x.k0,.int .u64 x.k1,.int .u64 x.mask]] [.agg [.int .u64,.int .u64,.int .u64]] K h:=by
 refine PV (x.k0,x.k1,x.mask) ?_;unfold HO ah bS eK zT Wg Wh;refine aJ fun i b1 k1=>aJ fun j b2 d=>?_
 have c1:=d.get0 b1;refine⟨_,fI c1 0 0,_,fI c1 0 1,_,vc c1 2,?_⟩;refine cS (c:= [.int .u64 0,.int .u64 0,.int .u64 0]) (vs:= [.int .u64 x.k0,.int .u64 x.k1,.int .u64 x.mask]) b2 rfl fun f a b=>?_
 exact⟨_,vc a 0,_,vc a 1,_,vc a 2,g f ((k1.tr d).own b k1.size)⟩
theorem BI{W W':Nat→Prop}{x:Hs}{h:ad}{a:Int}{t:Tr}{r:Rt}{l:List Pr}(tb:Tab h)(i:TreeIs W h a x t l)(j:RefIs W' h a x r l)(F:cA l)(C:Fit l)(B:l.length≤60000){K:Bool→ad→Prop}(V:∀h',Upd No h h'→K true h'):HC PG rH [GK t,S9 r] [.c .bool] K h:=by
 refine Nh t r ?_;unfold FH bh ah bS aI pj xn GH Jk dK C9 Jt;have G:a=0∨a=1:=i.imp (fun h=>h.1) fun h=>h.1
 have R:t.1=a∧t.2.1=hx a x.k0∧t.2.2.1=hx a x.k1∧t.2.2.2.1=hx a x.mask:=by rcases i with⟨rfl,b,rfl,_⟩|⟨rfl,b,rfl,_⟩<;>simp[hx]
 obtain⟨s,er,P,hc⟩:=j;have j:RefIs W' h a x r l:=⟨s,er,P,hc⟩;refine aJ fun h1 b1 k1=>aJ fun h2 b2 N=>?_
 have O:=k1.tr N;have c1:=N.get0 b1;rw[er]at b2;subst er;obtain⟨Z,Q,t3,Y⟩:=R;refine⟨_,vc c1 0,_,vc c1 1,_,vc c1 2,_,vc c1 3,_,vc c1 4,_,vc c1 5,_,vc b2 0,?_⟩;refine Qv (t:=t) fun h20 q=>⟨vc (q.get0 b2) 0,?_⟩
 have k:=q.get0 c1;have v:=q.get0 b2;rw[show(t.1==a)=true by rw[Z];simp]
 refine ay.2 ⟨_,vc k 0,_,vc k 1,_,vc k 2,_,vc k 3,_,vc k 4,_,vc k 5,_,fI v 1 0,_,fI v 1 1,_,fI v 1 2,?_⟩;refine Lw (t:=t) fun S y=>?_
 have n:=y.get0 v;refine⟨⟨fI n 1 0,fI n 1 1,fI n 1 2⟩,vc n 0,?_⟩;refine Kc (x:=⟨t.2.1,t.2.2.1,t.2.2.2.1⟩) fun T A=>?_
 have c:=A.get0 n;have g:=A.get0 (y.get0 k);refine⟨⟨fI c 1 0,fI c 1 1,fI c 1 2⟩,vc c 0,?_⟩;rw[Q,t3,Y,show((hx a x.k0==hx a x.k0)&&((hx a x.k1==hx a x.k1)&&((hx a x.mask==hx a x.mask)&&true)))=true by simp]
 have z:=O.tr ((q.tr y).tr A);refine ay.2 ⟨_,vc g 0,_,vc g 1,_,vc g 2,_,vc g 3,_,vc g 4,_,vc g 5,_,vc c 0,_,vc c 1,_,vc c 2,_,vc c 3,s,vc c 4,?_⟩;refine OH (i.upd0 z) F C B fun s3 h55 xs E H o=>?_
 have d:=o.get0 c;refine⟨⟨vc d 0,vc d 1,vc d 2,vc d 3,vc d 4⟩,⟨fI d 1 0,fI d 1 1,fI d 1 2⟩,vc d 0,?_⟩;refine O1 G (j.upd0 (z.tr o)) F C B fun s4 h57 ys M L u=>?_
 have f:=u.get0 d;refine⟨⟨fI f 1 0,fI f 1 1,fI f 1 2⟩,vc f 0,?_⟩;have I:xs=ys:=(Qm (fun _=>rfl) E L C C B B F F).2 rfl
 subst I;have X:=OF E C B;refine O3 ((H.upd u fun _ _ h=>h).sl (W:=No) fun _ _ _ h=>h) (M.sl (W:=No) fun _ _ _ h=>h) (by omega) ?_
 have m:=(o.tr u).get0 g;refine⟨⟨fI f 1 0,fI f 1 1,fI f 1 2⟩,vc f 0,ay.2 ⟨_,vc m 0,_,vc m 1,_,vc m 2,_,vc m 3,_,vc m 4,_,vc m 5,?_⟩⟩;have w:=z.tr (o.tr u);refine OI (i.upd0 w) (tb.upd w id) F B fun J D=>?_
 have p:=D.get0 f;exact⟨⟨fI p 1 0,fI p 1 1,fI p 1 2⟩,vc p 0,V J (w.tr D)⟩
theorem EdO.end_{W S:Nat→Prop}{h d:ad}{eb pb tb cb:Nat}{ti:Int}{b:Int}{x:Hs}{tu:Tr}{lu:List Pr}(e:EdO W S h eb pb tb ti b x tu lu)(c:W cb)(k:Upd (fun y=>y=cb∨y=tb) h d)(t:TokAt d tb pb ti false):TreeIs No d b x tu lu:=
 (e.iu.upd k (fun y f=>e.lt y (.inr f)) fun y f=>by
  rcases f with rfl|rfl
  ·exact .inl ⟨.inl c,fun h=>e.ap _ h c⟩
  ·exact .inl ⟨.inl e.wt,fun h=>e.ap _ h e.wt⟩).freeze (W':=No) (fun _ h=>h.elim) (fun a h=>by cases h;exact⟨id,_,_,t,by simp⟩) fun _ _ h=>h
theorem EdO.upd0{W S:Nat→Prop}{h b:ad}{eb pb tb:Nat}{ti:Int}{a:Int}{x:Hs}{tu:Tr}{lu:List Pr}(e:EdO W S h eb pb tb ti a x tu lu)(k:Upd No h b):EdO W S b eb pb tb ti a x tu lu:=
 ⟨e.ed.upd k fun h=>h,e.tk.upd k fun h=>h,e.iu.upd0 k,fun y c=>bP (e.lt y c) k.size,e.we,e.wt,e.ap,e.up,e.fit⟩
theorem Ps{W:Nat→Prop}{h:ad}{eb pb tb:Nat}{ti:Int}{a:Int}{x:Hs}{t:Tr}{l:List Pr}(e:EdAt h eb pb tb t)(k:TokAt h tb pb ti true)(i:TreeIs W h a x t l)(lt:∀y,W y→y<h.size)(we:W eb)(wt:W tb)(up:cA l)(fit:Fit l):EdO W No h eb pb tb ti a x t l:=
 ⟨e,k,wn (i.less fun y b=>.inl (b.elim id fun h=>h.elim)),fun y b=>b.elim (lt y) fun h=>h.elim,we,wt,fun _ h=>h.elim,up,fit⟩
set_option maxRecDepth 100000 in
theorem MR{h:ad}{K:Bool→ad→Prop}(hk:∀q,Upd No h q→K true q):HC PG wU [] [.c .bool] K h:=by
 refine K6 ?_;unfold C3 bh ah aI nv rk pj xn qK zg0;refine Ew (n:=1) (ao _) (by omega) fun w k2 I=>?_
 have I:PoolAt w (h.size+1) h.size 1 [1]:=I;have z2:=aH I.2.1;refine NL (W:=fun y=>y<w.size) (x:=⟨0,0,0⟩) (fun _ h=>h) (.inl rfl) fun H t i4 Y=>pB (t:=t) fun h6 o F=>?_
 have z6:=aH o;have s4:=Y.size;refine⟨_,vc o 0,_,vc o 1,_,vc o 2,_,vc o 3,_,vc o 4,_,vc o 5,?_⟩;refine ET (I.upd0 (Y.tr F)) t fun j eb tb m V u A he ht=>?_
 have s14:=m.size;have ze:=aH A;have zt:=aH u;let W:Nat→Prop:=fun y=>y<w.size∨h6.size≤y∧y<j.size
 have E:TreeIs W j 0 ⟨0,0,0⟩ t []:=((((i4.less (W':=fun y=>y<w.size∨H.size≤y) fun _ h=>h).upd0 F).updM m fun y a=>.inl (.inl (by have a:y=h.size:=a;omega))).less fun y a=>.inl (a.imp id fun h=>by omega))
 have i6:TreeIs (fun y=>y=h.size) h6 0 ⟨0,0,0⟩ t []:=(i4.less (W':=fun y=>y=h.size) fun y a=>.inl (by have a:y=h.size:=a;show y<w.size;omega)).upd0 F
 have e:=Ps (W:=W) A u E (fun y a=>by rcases a with h|h<;>omega) (.inr ⟨he,ze⟩) (.inr ⟨ht,zt⟩) gn (fun p G=>by cases G)
 refine Join.intro (fun b q=>b=false∧∃tu S,EdO W S q eb (h.size+1) tb 1 0 ⟨0,0,0⟩ tu [(⟨#[97]⟩,⟨#[]⟩)]∧Upd (fun y=>S y∨y=eb) j q∧∀y,S y→j.size≤y∧y<q.size) (fun R hR=>?_) ?_
 ·refine aj.2 (aj.2 ?_)
  refine Kz e (by simp) (⟨#[97]⟩,⟨#[]⟩) (fun q O S' e' k' C=>?_) (fun p G=>?_)
  ·have er:Bl (⟨#[97]⟩,⟨#[]⟩)=0:=rfl
   rw[er];refine hR _ _ ⟨rfl,O,S',e',k'.mono fun y a=>a.elim (fun h=>h.elim) fun h=>.inl (.inr h),fun y a=>⟨(C y a).1.elim (fun h=>h.elim) id,(C y a).2⟩⟩
  ·have:p=(⟨#[97]⟩,⟨#[]⟩):=by
    have hw:lQ [] ((⟨#[97]⟩,⟨#[]⟩):Pr)= [(⟨#[97]⟩,⟨#[]⟩)]:=rfl;rw[hw]at G;exact au.1 G
   rw[this];exact⟨by decide,by decide⟩
 ·rintro _ h17 ⟨rfl,tu,S,s,i,P⟩
  refine aj.2 ?_;have Z:∀{z},z<j.size→¬S z:=fun hz h=>by have:=(P _ h).1;omega
  have hne:h.size+1≠eb∧h.size≠eb:=by omega
  have Q:=V.upd i (fun h=>h.elim (Z (by omega)) fun h=>by omega) (fun h=>h.elim (Z (by omega)) fun h=>by omega)
  refine CL s.ed s.tk Q (by simp) fun X k p21 D e21=>?_
  have i21:=s.end_ (cb:=h.size) (.inl (by omega)) k D;have z17:=i.size;have z21:=k.size;have N:=m.get o (show ¬H.size=h.size by omega)
  have L:=k.get (i.get N (fun h=>h.elim (Z (by omega)) fun h=>by omega)) (show ¬(H.size=h.size∨H.size=tb) by omega)
  have v:Upd No h X:=(((k2.tr (Y.tr F)).trans m fun y a=>.inr (by have a:y=h.size:=a;omega)).trans i fun y a=>.inr (a.elim (fun h=>by have:=(P _ h).1;omega) fun h=>by omega)).trans k fun y a=>.inr (by rcases a with h|h<;>omega)
  refine pB (t:=tu) fun h23 g B=>ay.2 ⟨_,vc g 0,_,vc g 1,_,vc g 2,_,vc g 3,_,vc g 4,_,vc g 5,?_⟩
  refine NM (i21.upd0 B) (List.pairwise_singleton _ _) (by simp) fun h31 T=>ay.2 ?_
  have d:=B.tr T;refine ER (e21.upd d fun h=>h) (D.upd d fun h=>h) (⟨#[98]⟩,⟨#[]⟩) fun h33 k33=>ay.2 ?_
  have c:=d.tr k33;have f:=c.get0 L;refine⟨_,vc f 0,_,vc f 1,_,vc f 2,_,vc f 3,_,vc f 4,_,vc f 5,?_⟩;have i33:TreeIs No h33 0 ⟨0,0,0⟩ t []:=((((E.updM i fun y a=>a.elim (fun h=>.inr (P y h).1) fun h=>.inl (.inr ⟨by omega,by omega⟩)).less (W':=W) fun y a=>.inl a).updM k fun y a=>.inl (a.elim (fun h=>.inl (by omega)) fun h=>.inr ⟨by omega,by omega⟩)).less fun _ h=>h.elim).upd0 c
  refine NM i33 gn (by simp) fun J M=>hk J (v.tr (c.tr M))
end Go.Proofs
namespace Go.Proofs
open Go Go.Lift
def Mv(U:Nat→Prop)(h:ad)(a:Nat→Prop)(b:ad):Prop:=Upd U h b∧∀y,a y→U y∨h.size≤y
section
variable {U U' U1 U2 M:Nat→Prop} {h h' h1 h2:ad}
theorem Mv.refl(U:Nat→Prop)(h:ad):Mv U h U h:=⟨Upd.refl _ _,fun _ h=>.inl h⟩
theorem Mv.tr(a:Mv U h U1 h1)(b:Mv U1 h1 U2 h2):Mv U h U2 h2:=⟨a.1.trans b.1 a.2,fun y c=>(b.2 y c).elim (a.2 y) fun h=>.inr (bv a.1.size h)⟩
theorem Mv.of0(k:Upd No h h'):Mv U h U h':=⟨k.wide,fun _ h=>.inl h⟩
theorem Mv.up0(a:Mv U h U1 h1)(k:Upd No h1 h2):Mv U h U1 h2:=a.tr (.of0 k)
theorem Mv.new(a:∀y,U' y→U y∨h.size≤y):Mv U h U' h:=⟨Upd.refl _ _,a⟩
theorem Mv.upM(k:Upd M h h')(hm:∀y,M y→U y∨h.size≤y):Mv U h U h':=⟨k.mono hm,fun _ h=>.inl h⟩
theorem Mv.get(a:Mv U h U' h'){b:Nat}{o:Obj}(d:h[b]? =some o) (c:¬U b):h'[b]? =some o:=a.1.get d c
theorem Mv.not(a:Mv U h U' h'){b:Nat}{o:Obj}(f:h[b]? =some o) (c:¬U b):¬U' b:=fun d=>(a.2 b d).elim c fun h=>by have:=aH f;omega
theorem TreeIs.mv{a:Int}{x:Hs}{t:Tr}{l:List Pr}(i:TreeIs U h a x t l)(m:Mv U h U' h'):TreeIs U' h' a x t l:=
 ((i.less (W':=fun y=>U y∨h.size≤y) fun _ h=>h).updM m.1 fun _ b=>.inl (.inl b)).less fun y b=>.inl (m.2 y b)
theorem RefIs.mv{a:Int}{x:Hs}{t:Rt}{l:List Pr}(i:RefIs U h a x t l)(m:Mv U h U' h'):RefIs U' h' a x t l:=
 ((i.less (W':=fun y=>U y∨h.size≤y) fun _ h=>h).updM m.1 fun _ b=>.inl (.inl b)).less fun y b=>.inl (m.2 y b)
end
structure Ed where
 eb:Nat
 tb:Nat
 ti:Int
 lv:Bool
 tu:Tr
 lu:List Pr
 S:Nat→Prop
def Un(A:Nat→Prop)(cb:Nat)(es:List Ed)(y:Nat):Prop:=A y∨y=cb∨∃e∈es,y=e.eb∨(e.lv=true∧y=e.tb)∨e.S y
def tok(e:Ed):Option Addr:=if e.lv then some ⟨e.tb,0,none⟩else none
structure EdW(U:Nat→Prop)(h:ad)(pb:Nat)(kind:Int)(x:Hs)(n:Nat)(e:Ed):Prop where
 ed:EdAt h e.eb pb e.tb e.tu
 tk:TokAt h e.tb pb e.ti e.lv
 iu:TreeO (tok e) U h kind x e.tu e.lu e.S
 up:cA e.lu
 fit:Fit e.lu
 len:e.lu.length≤n
def sy:List Ed→Nat
 | []=>0
 |e::es=>(if e.lv then 1 else 0)+sy es
structure Wo(A:Nat→Prop)(h:ad)(pb cb cap:Nat)(ids:List Int)(kind:Int)(x:Hs)(n:Nat)(es:List Ed):Prop where
 pl:PoolAt h pb cb cap ids
 rm:ids.length+sy es=cap
 lt:∀y,A y→y<h.size
 ac:¬A cb
 pv:¬Un A cb es pb
 ew:∀e∈es,EdW (Un A cb es) h pb kind x n e
 av:∀e∈es,¬A e.eb∧¬A e.tb∧(∀y,e.S y→¬A y∧y≠cb∧(∀f∈es,y≠f.eb∧y≠f.tb)∧y<h.size)∧(e.lv=false→¬Un A cb es e.tb)
 pw:∀(i j:Nat) (a b:Ed),es[i]? =some a→es[j]? =some b→i≠j→a.eb≠b.eb∧a.tb≠b.tb∧∀y,a.S y→¬b.S y
def Me(A:Nat→Prop)(cb:Nat)(es:List Ed)(h:ad)(a:List Ed)(b:ad):Prop:=Mv (Un A cb es) h (Un A cb a) b∧Upd (fun y=>¬A y) h b
section
variable {A A' M:Nat→Prop} {h h':ad} {pb cb cap n m:Nat} {ids ids':List Int} {kind:Int} {x:Hs} {es:List Ed}
theorem Wo.ult(w:Wo A h pb cb cap ids kind x n es):∀y,Un A cb es y→y<h.size:=by
 rintro y (b|rfl|⟨e,a,rfl|⟨_,rfl⟩|b⟩)
 ·exact w.lt y b
 ·obtain⟨_,_,_,_,hc⟩:=w.pl;exact aH hc
 ·exact aH (w.ew e a).ed
 ·exact aH (w.ew e a).tk
 ·exact((w.av e a).2.2.1 y b).2.2.2
theorem EdW.mono{U:Nat→Prop}{e:Ed}(w:EdW U h pb kind x n e)(hm:n≤m):EdW U h pb kind x m e:=⟨w.ed,w.tk,w.iu,w.up,w.fit,bv w.len hm⟩
theorem Wo.mono(w:Wo A h pb cb cap ids kind x n es)(hm:n≤m):Wo A h pb cb cap ids kind x m es:=⟨w.pl,w.rm,w.lt,w.ac,w.pv,fun e a=>(w.ew e a).mono hm,w.av,w.pw⟩
theorem Wo.cb_ne(w:Wo A h pb cb cap ids kind x n es):cb<h.size∧pb<h.size∧∀e∈es,cb≠e.eb∧cb≠e.tb∧∀f∈es,e.eb≠f.tb:=by
 refine⟨w.ult _ (.inr (.inl rfl)),aH w.pl.2.1,fun e c=>?_⟩
 obtain⟨d,k,i⟩:=Oa (w.ew e c).ed (w.ew e c).tk w.pl;refine⟨Ne.symm d,Ne.symm i,fun f g j=>?_⟩
 have a:=(w.ew e c).ed;have b:=(w.ew f g).tk;rw[←j]at b;have:=a.symm.trans b;simp at this
theorem Wo.own(w:Wo A h pb cb cap ids kind x n es)(k:Upd M h h')(hm:∀y,M y→A y∨h.size≤y)(d:∀y,A' y→(A y∨h.size≤y)∧y<h'.size):Wo A' h' pb cb cap ids kind x n es∧Mv (Un A cb es) h (Un A' cb es) h':=by
 have mv:Mv (Un A cb es) h (Un A' cb es) h':=⟨k.mono fun y a=>(hm y a).imp .inl id,fun y a=>a.elim (fun h=>(d y h).1.imp .inl id) fun h=>.inl (.inr h)⟩
 have un:∀{y},y<h.size→¬A y→¬A' y:=fun o f h=>(d _ h).1.elim f fun h=>by omega
 have c:∀{y},y<h.size→¬A y→¬M y:=fun o f h=>(hm _ h).elim f fun h=>by omega
 obtain⟨hc,i,_⟩:=w.cb_ne;have p:=k.size;refine⟨⟨w.pl.upd k (c i fun h=>w.pv (.inl h)) (c hc w.ac),w.rm,fun y a=>(d y a).2,un hc w.ac,fun g=>(mv.2 _ g).elim w.pv fun h=>by omega,fun e b=>?_,fun e b=>?_,w.pw⟩,mv⟩
 ·have v:=w.av e b
  have q:=w.ew e b;exact⟨q.ed.upd k (c (aH q.ed) v.1),q.tk.upd k (c (aH q.tk) v.2.1),((q.iu.less (W':=fun y=>Un A cb es y∨h.size≤y) fun _ h=>h).upd k (fun y a=>(v.2.2.1 y a).2.2.2) fun y a=>(hm y a).imp (fun h=>⟨.inl (.inl h),fun j=>(v.2.2.1 y j).1 h⟩) id).less fun y a=>.inl (mv.2 y a),q.up,q.fit,q.len⟩
 ·have v:=w.av e b
  have q:=w.ew e b;exact⟨un (aH q.ed) v.1,un (aH q.tk) v.2.1,fun y a=>⟨un (v.2.2.1 y a).2.2.2 (v.2.2.1 y a).1,(v.2.2.1 y a).2.1,(v.2.2.1 y a).2.2.1,by have:=(v.2.2.1 y a).2.2.2;omega⟩,fun m g=>(mv.2 _ g).elim (v.2.2.2 m) fun h=>by have:=aH q.tk;omega⟩
theorem Wo.up0(w:Wo A h pb cb cap ids kind x n es)(k:Upd No h h'):Wo A h' pb cb cap ids kind x n es:=(w.own k (fun _ h=>h.elim) fun y a=>⟨.inl a,by have:=w.lt y a;have:=k.size;omega⟩).1
def Ot(A:Nat→Prop)(cb:Nat)(es:List Ed)(i:Nat)(y:Nat):Prop:=A y∨y=cb∨(∃e∈es,y=e.eb∨(e.lv=true∧y=e.tb))∨∃j b,es[j]? =some b∧j≠i∧b.S y
theorem Ot.un{i:Nat}{e:Ed}(d:es[i]? =some e) (y:Nat):(Ot A cb es i y∨e.S y)↔Un A cb es y:=by
 constructor
 ·rintro((h|h|⟨f,a,h⟩|⟨j,b,g,_,h⟩)|h)
  ·exact .inl h
  ·exact .inr (.inl h)
  ·exact .inr (.inr ⟨f,a,h.imp id .inl⟩)
  ·exact .inr (.inr ⟨b,az g,.inr (.inr h)⟩)
  ·exact .inr (.inr ⟨e,az d,.inr (.inr h)⟩)
 ·rintro(h|h|⟨f,a,h|h|h⟩)
  ·exact .inl (.inl h)
  ·exact .inl (.inr (.inl h))
  ·exact .inl (.inr (.inr (.inl ⟨f,a,.inl h⟩)))
  ·exact .inl (.inr (.inr (.inl ⟨f,a,.inr h⟩)))
  ·obtain⟨j,c⟩:=g8 a
   by_cases e:j=i
   ·subst e;rw[d]at c;cases c;exact .inr h
   ·exact .inl (.inr (.inr (.inr ⟨j,f,c,e,h⟩)))
theorem Wo.edO(w:Wo A h pb cb cap ids kind x n es){i:Nat}{e:Ed}(c:es[i]? =some e) (d:e.lv=true):EdO (Ot A cb es i) e.S h e.eb pb e.tb e.ti kind x e.tu e.lu:=by
 have hm:=az c;have q:=w.ew e hm;have v:=w.av e hm;have k:tok e=some ⟨e.tb,0,none⟩:=by unfold tok;rw[d];rfl
 refine⟨q.ed,d▸q.tk,(k▸q.iu).less fun y a=>.inl ((Ot.un c y).1 a),fun y a=>w.ult y ((Ot.un c y).1 a),.inr (.inr (.inl ⟨e,hm,.inl rfl⟩)),.inr (.inr (.inl ⟨e,hm,.inr ⟨d,rfl⟩⟩)),fun y a=>?_,q.up,q.fit⟩
 rintro(h|h|⟨f,g,h⟩|⟨j,b,o,m,h⟩)
 ·exact(v.2.2.1 y a).1 h
 ·exact(v.2.2.1 y a).2.1 h
 ·exact h.elim ((v.2.2.1 y a).2.2.1 f g).1 fun h=>((v.2.2.1 y a).2.2.1 f g).2 h.2
 ·exact(w.pw i j e b c o (Ne.symm m)).2.2 y a h
theorem G7{e e':Ed}:∀{es:List Ed} {i:Nat},es[i]? =some e→sy (es.set i e')+(if e.lv then 1 else 0)=sy es+(if e'.lv then 1 else 0)
 |a::es,0,h=>by cases h;simp only[List.set_cons_zero,sy];omega
 |a::es,i+1,h=>by
  simp only[List.set_cons_succ,sy];have:=G7 (e':=e') (es:=es) (i:=i) (by simpa using h);omega
 | [],i,h=>by simp at h
theorem G8{e:Ed}:∀{es:List Ed},sy (es++ [e])=sy es+if e.lv then 1 else 0
 | []=>by simp only[List.nil_append,sy];omega
 |a::es=>by simp only[List.cons_append,sy,G8 (es:=es)];omega
theorem Dy{α:Type}{l:List α}{i:Nat}{a b:α}(h:b∈l.set i a):b=a∨∃j,j≠i∧l[j]? =some b:=by
 obtain⟨j,c⟩:=g8 h;rw[List.getElem?_set]at c;split at c
 ·split at c
  ·cases c;exact .inl rfl
  ·cases c
 ·exact .inr ⟨j,by omega,c⟩
theorem Wo.repl{P0:Prop}(w:Wo A h pb cb cap ids kind x n es){i:Nat}{e e':Ed}(S:es[i]? =some e) (Z:e.lv=true) (z:e'.eb=e.eb) (k:Upd M h h') (hM:∀y,M y→y=cb∨y=e.tb∨y=e.eb∨e.S y) (p:PoolAt h' pb cb cap ids') (hcap:ids'.length+(if e'.lv then 1 else 0)=ids.length+1)
  (C:e'.tb=e.tb∨h.size≤e'.tb) (R:∀y,e'.S y→(e.S y∨(h.size≤y∧y≠e'.tb))∧y<h'.size) (ed:EdAt h' e'.eb pb e'.tb e'.tu) (tk:TokAt h' e'.tb pb e'.ti e'.lv) (hn:n≤m) (up:cA e'.lu) (fit:Fit e'.lu) (len:e'.lu.length≤m)
  (O:Mv (Un A cb es) h (Un A cb (es.set i e')) h'→(∀y,Un A cb (es.set i e') y↔(Ot A cb (es.set i e') i y∨e'.S y))→(∀y,e.S y→¬Ot A cb (es.set i e') i y)→((e'.lv=false∨e'.tb≠e.tb)→¬Un A cb (es.set i e') e.tb)→TreeO (tok e') (Un A cb (es.set i e')) h' kind x e'.tu e'.lu e'.S∧P0):
  Wo A h' pb cb cap ids' kind x m (es.set i e')∧Me A cb es h (es.set i e') h'∧P0:=by
 have c:=az S;have hi:i<es.length:=(aF.1 S).1;have v:=w.av e c;have q:=w.ew e c;have hz:=k.size;obtain⟨hc,hp,G⟩:=w.cb_ne;have lb:=aH q.tk;have L:(es.set i e')[i]? =some e':=List.getElem?_set_self hi;have oth:∀{f},f∈es.set i e'→f=e'∨∃j,j≠i∧es[j]? =some f∧f∈es∧f.eb≠e.eb∧f.tb≠e.tb∧(∀y,f.S y→¬e.S y)∧f.eb<h.size∧f.tb<h.size:=fun u=>(Dy u).imp id fun⟨j,F,u⟩=>by
  have pw:=w.pw j i _ e u S F;have hm:=az u;exact⟨j,F,u,hm,pw.1,pw.2.1,pw.2.2,aH (w.ew _ hm).ed,aH (w.ew _ hm).tk⟩
 have mv:Mv (Un A cb es) h (Un A cb (es.set i e')) h':=by
  refine⟨k.mono fun y d=>.inl ?_,?_⟩
  ·rcases hM y d with rfl|rfl|rfl|d
   ·exact .inr (.inl rfl)
   ·exact .inr (.inr ⟨e,c,.inr (.inl ⟨Z,rfl⟩)⟩)
   ·exact .inr (.inr ⟨e,c,.inl rfl⟩)
   ·exact .inr (.inr ⟨e,c,.inr (.inr d)⟩)
  ·rintro y (d|d|⟨f,u,d⟩)
   ·exact .inl (.inl d)
   ·exact .inl (.inr (.inl d))
   ·rcases oth u with rfl|⟨j,F,K,o,_⟩
    ·rcases d with rfl|⟨_,rfl⟩|d
     ·rw[z];exact .inl (.inr (.inr ⟨e,c,.inl rfl⟩))
     ·rcases C with h|h
      ·rw[h];exact .inl (.inr (.inr ⟨e,c,.inr (.inl ⟨Z,rfl⟩)⟩))
      ·exact .inr h
     ·exact(R y d).1.imp (fun h=>.inr (.inr ⟨e,c,.inr (.inr h)⟩)) And.left
    ·exact .inl (.inr (.inr ⟨f,o,d⟩))
 have nM:∀{y},y≠cb→y≠e.tb→y≠e.eb→¬e.S y→¬M y:=fun s D h3 h4 h=>by rcases hM _ h with h|h|h|h<;>contradiction
 have N:∀{f},f∈es→∀{y},y=f.eb∨y=f.tb→¬e.S y:=fun u y d B=>by
  have:=(v.2.2.1 y B).2.2.1 _ u;exact d.elim this.1 this.2
 have sep:∀y,e.S y→¬Ot A cb (es.set i e') i y:=by
  rintro y B (h|h|⟨f,u,h⟩|⟨j,b,I,F,h⟩)
  ·exact(v.2.2.1 y B).1 h
  ·exact(v.2.2.1 y B).2.1 h
  ·have d:=(v.2.2.1 y B).2.2.2
   rcases oth u with rfl|⟨j,F,K,o,_⟩
   ·rcases h with h|⟨_,h⟩
    ·exact N c (.inl (h.trans z)) B
    ·rcases C with T|T
     ·exact N c (.inr (h.trans T)) B
     ·omega
   ·exact N o (h.imp id And.right) B
  ·rw[eB (Ne.symm F)]at I
   exact(w.pw i j e b S I (Ne.symm F)).2.2 y B h
 have W:(e'.lv=false∨e'.tb≠e.tb)→¬Un A cb (es.set i e') e.tb:=by
  rintro J (h|h|⟨f,u,h⟩)
  ·exact v.2.1 h
  ·exact(G e c).2.1 h.symm
  ·rcases oth u with rfl|⟨j,F,K,o,T,Y,e3,_⟩
   ·rcases h with h|⟨s,h⟩|h
    ·exact(G e c).2.2 e c (z.symm.trans h.symm)
    ·rcases J with J|J
     ·rw[J]at s;cases s
     ·exact J h.symm
    ·exact(R _ h).1.elim (fun h=>N c (.inr rfl) h) fun h=>by omega
   ·rcases h with h|⟨_,h⟩|h
    ·exact(G f o).2.2 e c h.symm
    ·exact Y h.symm
    ·exact((w.av f o).2.2.1 _ h).2.2.1 e c|>.2 rfl
 obtain⟨O,hP0⟩:=O mv (fun y=>(Ot.un L y).symm) sep W
 refine⟨⟨p,?_,fun y d=>by have:=w.lt y d;omega,w.ac,fun Q=>(mv.2 _ Q).elim w.pv fun h=>by omega,fun f u=>?_,fun f u=>?_,fun i' j' a b H I hij=>?_⟩,⟨mv,k.mono fun y d=>.inl ?_⟩,hP0⟩
 ·have:=G7 (e':=e') S
  have:=w.rm;rw[Z]at*;simp only[if_true]at*;omega
 ·rcases oth u with rfl|⟨j,F,K,o,T,Y,e3,e4,e5⟩
  ·exact⟨ed,tk,O,up,fit,len⟩
  ·have g:=w.ew f o
   have E:=w.av f o;have cf:=G f o;refine⟨g.ed.upd k (nM (Ne.symm cf.1) (cf.2.2 e c) T (N o (.inl rfl))),g.tk.upd k (nM (Ne.symm cf.2.1) Y (Ne.symm ((G e c).2.2 f o)) (N o (.inr rfl))),((g.iu.less (W':=fun y=>Un A cb es y∨h.size≤y) fun _ h=>h).upd k (fun y d=>(E.2.2.1 y d).2.2.2) fun y d=>.inl ⟨?_,fun B=>?_⟩).less fun y d=>.inl (mv.2 y d),g.up,g.fit,bv g.len hn⟩
   ·rcases hM y d with rfl|rfl|rfl|d
    ·exact .inl (.inr (.inl rfl))
    ·exact .inl (.inr (.inr ⟨e,c,.inr (.inl ⟨Z,rfl⟩)⟩))
    ·exact .inl (.inr (.inr ⟨e,c,.inl rfl⟩))
    ·exact .inl (.inr (.inr ⟨e,c,.inr (.inr d)⟩))
   ·have a:=E.2.2.1 y B
    rcases hM y d with h|h|h|h
    ·exact a.2.1 h
    ·exact(a.2.2.1 e c).2 h
    ·exact(a.2.2.1 e c).1 h
    ·exact e3 y B h
 ·rcases oth u with rfl|⟨j,F,K,o,T,Y,e3,e4,e5⟩
  ·refine⟨z▸v.1,?_,fun y d=>?_,fun J Q=>?_⟩
   ·rcases C with h|h
    ·rw[h];exact v.2.1
    ·exact fun H=>by have:=w.lt _ H;omega
   ·have V:=(R y d).1
    refine⟨fun H=>?_,fun hc'=>?_,fun g hg=>?_,(R y d).2⟩
    ·exact V.elim (fun h=>(v.2.2.1 y h).1 H) fun h=>by have:=w.lt y H;omega
    ·exact V.elim (fun h=>(v.2.2.1 y h).2.1 hc') fun h=>by omega
    ·rcases oth hg with rfl|⟨_,_,_,P,_,_,_,e4,e5⟩
     ·refine⟨fun h=>?_,fun h=>?_⟩
      ·exact V.elim (N c (.inl (h.trans z))) fun s=>by have:=aH q.ed;omega
      ·refine V.elim (fun B=>?_) fun s=>s.2 h
       rcases C with D|D
       ·exact N c (.inr (h.trans D)) B
       ·have:=(v.2.2.1 y B).2.2.2;omega
     ·exact V.elim (fun h=>(v.2.2.1 y h).2.2.1 g P) fun h=>⟨by omega,by omega⟩
   ·rcases C with h|h
    ·rw[h]at Q;exact W (.inl J) Q
    ·rcases Q with s|s|⟨f,u,s⟩
     ·have:=w.lt _ s;omega
     ·omega
     ·rcases oth u with rfl|⟨_,_,_,o,_,_,_,e4,e5⟩
      ·rcases s with s|⟨s,_⟩|s
       ·rw[z]at s;have:=aH q.ed;omega
       ·rw[J]at s;cases s
       ·exact(R _ s).1.elim (fun D=>by have:=(v.2.2.1 _ D).2.2.2;omega) fun D=>D.2 rfl
      ·rcases s with s|⟨_,s⟩|s
       ·omega
       ·omega
       ·have:=((w.av f o).2.2.1 _ s).2.2.2;omega
  ·have E:=w.av f o
   refine⟨E.1,E.2.1,fun y d=>⟨(E.2.2.1 y d).1,(E.2.2.1 y d).2.1,fun g hg=>?_,by have:=(E.2.2.1 y d).2.2.2;omega⟩,fun J Q=>(mv.2 _ Q).elim (E.2.2.2 J) fun h=>by omega⟩
   have hy2:=(E.2.2.1 y d).2.2.2;rcases oth hg with rfl|⟨_,_,_,P,_⟩
   ·have a:=(E.2.2.1 y d).2.2.1 e c
    refine⟨fun h=>a.1 (h.trans z),fun h=>?_⟩
    rcases C with D|D
    ·exact a.2 (h.trans D)
    ·omega
   ·exact(E.2.2.1 y d).2.2.1 g P
 ·have val:∀{j a},(es.set i e')[j]? =some a→(j≠i∧es[j]? =some a)∨(j=i∧a=e'):=fun{j a} H=>by
   by_cases ej:j=i
   ·subst ej
    rw[L]at H;cases H;exact .inr ⟨rfl,rfl⟩
   ·rw[eB (Ne.symm ej)]at H
    exact .inl ⟨ej,H⟩
  have one:∀{j b},es[j]? =some b→j≠i→e'.eb≠b.eb∧e'.tb≠b.tb∧∀y,e'.S y→¬b.S y:=fun{j b} I F=>by
   have pw:=w.pw i j e b S I (Ne.symm F);have X:=az I;have lt:=aH (w.ew b X).tk;refine⟨z▸pw.1,?_,fun y d I=>?_⟩
   ·rcases C with h|h
    ·rw[h];exact pw.2.1
    ·omega
   ·have:=((w.av b X).2.2.1 y I).2.2.2
    exact(R y d).1.elim (fun h=>pw.2.2 y h I) fun h=>by omega
  rcases val H with⟨s,qa⟩|⟨s,rfl⟩<;>rcases val I with⟨D,qb⟩|⟨D,rfl⟩
  ·exact w.pw i' j' a b qa qb hij
  ·obtain⟨p1,p2,p3⟩:=one qa s
   exact⟨Ne.symm p1,Ne.symm p2,fun y d h=>p3 y h d⟩
  ·exact one qb D
  ·omega
 ·rcases hM y d with rfl|rfl|rfl|d
  ·exact w.ac
  ·exact v.2.1
  ·exact v.1
  ·exact(v.2.2.1 y d).1
theorem Wo.goes(w:Wo A h pb cb cap ids kind x n es){i:Nat}{e:Ed}(B:es[i]? =some e) (p:e.lv=true) {o:Nat→Prop} {d:Tr} {c:List Pr} (e':EdO (Ot A cb es i) o h' e.eb pb e.tb e.ti kind x d c) (k:Upd (fun y=>e.S y∨y=e.eb) h h') (D:∀y,o y→(e.S y∨h.size≤y)∧y<h'.size) (G:n≤m) (hm:c.length≤m):
  Wo A h' pb cb cap ids kind x m (es.set i {e with tu:=d,lu:=c,S:=o})∧Me A cb es h (es.set i {e with tu:=d,lu:=c,S:=o}) h':=by
 have a:=az B;have v:=w.av e a;have q:=w.ew e a;obtain⟨hc,I,s⟩:=w.cb_ne;refine(fun r=>⟨r.1,r.2.1⟩) (w.repl (P0:=True) (e':={e with tu:=d,lu:=c,S:=o}) B p rfl k (fun y g=>g.elim (fun h=>.inr (.inr (.inr h))) fun h=>.inr (.inr (.inl h))) (w.pl.upd k (fun h=>w.pv ?_) (fun h=>?_)) (by simp[p]) (.inl rfl) (fun y g=>⟨(D y g).1.imp id fun h=>⟨h,by have:=aH q.tk;show y≠e.tb;omega⟩,(D y g).2⟩) e'.ed (p▸e'.tk) G e'.up e'.fit hm fun mv un F E=>⟨?_,trivial⟩)
 ·rcases h with h|h
  ·exact .inr (.inr ⟨e,a,.inr (.inr h)⟩)
  ·exact .inr (.inr ⟨e,a,.inl h⟩)
 ·rcases h with h|h
  ·exact(v.2.2.1 _ h).2.1 rfl
  ·exact(s e a).1 h
 ·have H:tok {e with tu:=d,lu:=c,S:=o}=some ⟨e.tb,0,none⟩:=by unfold tok;rw[p];rfl
  rw[H];refine e'.iu.less fun y g=>.inl (((un y).1 g).imp (fun h=>?_) id)
  rcases h with h|h|⟨f,u,h⟩|⟨j,b,C,z,h⟩
  ·exact .inl h
  ·exact .inr (.inl h)
  ·rcases Dy u with rfl|⟨j,z,u⟩
   ·exact .inr (.inr (.inl ⟨e,a,h⟩))
   ·exact .inr (.inr (.inl ⟨f,az u,h⟩))
  ·rw[eB (Ne.symm z)]at C
   exact .inr (.inr (.inr ⟨j,b,C,z,h⟩))
theorem Wo.turn(w:Wo A h pb cb cap ids kind x n es){i:Nat}{e:Ed}(C:es[i]? =some e) (z:e.lv=true) {tb':Nat} {ti':Int} {lv' u:Bool} (k:Upd (fun y=>y=cb∨y=e.tb∨y=e.eb) h h') (p:PoolAt h' pb cb cap ids') (f:ids'.length+(if lv' then 1 else 0)=ids.length+1)
  (ed:EdAt h' e.eb pb tb' e.tu) (tk:TokAt h' tb' pb ti' lv') (o:TokAt h' e.tb pb e.ti u) (d:(tb'=e.tb∧lv'=false)∨h.size≤tb'):
  Wo A h' pb cb cap ids' kind x n (es.set i {e with tb:=tb',ti:=ti',lv:=lv',S:=No})∧Me A cb es h (es.set i {e with tb:=tb',ti:=ti',lv:=lv',S:=No}) h'∧TreeIs (Un A cb (es.set i {e with tb:=tb',ti:=ti',lv:=lv',S:=No})) h' kind x e.tu e.lu:=by
 have c:=az C;have v:=w.av e c;have q:=w.ew e c;have F:=aH q.tk;have r:=w.repl (e':={e with tb:=tb',ti:=ti',lv:=lv',S:=No}) (m:=n) (P0:=TreeIs (Un A cb (es.set i {e with tb:=tb',ti:=ti',lv:=lv',S:=No})) h' kind x e.tu e.lu) C z rfl k (fun y b=>b.imp id fun h=>h.imp id .inl) p f (d.imp And.left id) (fun y b=>b.elim) ed tk (ao _) q.up q.fit q.len fun mv un j s=>?_
 ·exact⟨r.1,r.2.1,r.2.2⟩
 ·have E:tok e=some ⟨e.tb,0,none⟩:=by unfold tok;rw[z];rfl
  have g:∀y,(y=cb∨y=e.tb∨y=e.eb)→(Un A cb es y∨h.size≤y)∧¬e.S y:=fun y b=>by
   refine⟨?_,fun D=>?_⟩
   ·rcases b with rfl|rfl|rfl
    ·exact .inl (.inr (.inl rfl))
    ·exact .inl (.inr (.inr ⟨e,c,.inr (.inl ⟨z,rfl⟩)⟩))
    ·exact .inl (.inr (.inr ⟨e,c,.inl rfl⟩))
   ·have a:=v.2.2.1 y D
    rcases b with h|h|h
    ·exact a.2.1 h
    ·exact(a.2.2.1 e c).2 h
    ·exact(a.2.2.1 e c).1 h
  have i1:=((E▸q.iu).less (W':=fun y=>Un A cb es y∨h.size≤y) fun _ h=>h).upd k (fun y b=>(v.2.2.1 y b).2.2.2) fun y b=>.inl (g y b)
  have B:TreeIs (Un A cb (es.set i {e with tb:=tb',ti:=ti',lv:=lv',S:=No})) h' kind x e.tu e.lu:=i1.freeze (fun y b=>mv.2 y b) (fun a h=>by
   cases h
   exact⟨s (d.symm.imp (fun h=>by show tb'≠e.tb;omega) And.right).symm,_,_,o,by simp⟩) fun y b G=>((un y).1 G).elim (j y b) fun h=>h
  exact⟨wn B,B⟩
theorem Wo.begin(w:Wo A h pb cb cap ids kind x n es){i:Int}{eb tb:Nat}{tu:Tr}{lu:List Pr}(u:ids=i::ids')(k:Upd (· =cb) h h')(p:PoolAt h' pb cb cap ids')(t:TokAt h' tb pb i true)(ed:EdAt h' eb pb tb tu)(N:h.size≤eb)(K:h.size≤tb)(H:TreeIs (Un A cb es) h kind x tu lu)(up:cA lu)(fit:Fit lu)(len:lu.length≤n):
  Wo A h' pb cb cap ids' kind x n (es++ [⟨eb,tb,i,true,tu,lu,No⟩])∧Me A cb es h (es++ [⟨eb,tb,i,true,tu,lu,No⟩]) h':=by
 obtain⟨hc,O,s⟩:=w.cb_ne;have hz:=k.size;have G:eb≠tb:=(Oa ed t p).2.1;have mem:∀{f},f∈es++ [⟨eb,tb,i,true,tu,lu,No⟩]→f∈es∨f=⟨eb,tb,i,true,tu,lu,No⟩:=fun d=>(List.mem_append.1 d).imp id au.1
 have mv:Mv (Un A cb es) h (Un A cb (es++ [⟨eb,tb,i,true,tu,lu,No⟩])) h':=by
  refine⟨k.mono fun y c=>.inl (.inr (.inl c)),?_⟩
  rintro y (c|c|⟨f,d,c⟩)
  ·exact .inl (.inl c)
  ·exact .inl (.inr (.inl c))
  ·rcases mem d with d|rfl
   ·exact .inl (.inr (.inr ⟨f,d,c⟩))
   ·rcases c with rfl|⟨_,rfl⟩|c
    ·exact .inr N
    ·exact .inr K
    ·exact c.elim
 have q:∀{f},f∈es→f.eb<h.size∧f.tb<h.size:=fun d=>⟨aH (w.ew _ d).ed,aH (w.ew _ d).tk⟩
 refine⟨⟨p,?_,fun y c=>by have:=w.lt y c;omega,w.ac,fun E=>(mv.2 _ E).elim w.pv fun h=>by omega,fun f d=>?_,fun f d=>?_,fun M J a b m z F=>?_⟩,mv,k.mono fun y c=>.inl (c▸w.ac)⟩
 ·have:=w.rm
  rw[u]at this;rw[G8];simp only[aV,if_true]at*;omega
 ·rcases mem d with d|rfl
  ·have g:=w.ew f d
   have o:=w.av f d;exact⟨g.ed.upd k (Ne.symm (s f d).1),g.tk.upd k (Ne.symm (s f d).2.1),((g.iu.less (W':=fun y=>Un A cb es y∨h.size≤y) fun _ h=>h).upd k (fun y c=>(o.2.2.1 y c).2.2.2) fun y c=>.inl ⟨.inl (.inr (.inl c)),fun I=>(o.2.2.1 y I).2.1 c⟩).less fun y c=>.inl (mv.2 y c),g.up,g.fit,g.len⟩
  ·exact⟨ed,t,wn (H.mv mv),up,fit,len⟩
 ·rcases mem d with d|rfl
  ·have o:=w.av f d
   refine⟨o.1,o.2.1,fun y c=>⟨(o.2.2.1 y c).1,(o.2.2.1 y c).2.1,fun g v=>?_,by have:=(o.2.2.1 y c).2.2.2;omega⟩,fun B E=>(mv.2 _ E).elim (o.2.2.2 B) fun h=>by have:=(q d).2;omega⟩
   have L:=(o.2.2.1 y c).2.2.2;rcases mem v with v|rfl
   ·exact(o.2.2.1 y c).2.2.1 g v
   ·exact⟨by show y≠eb;omega,by show y≠tb;omega⟩
  ·exact⟨fun m=>by have:=w.lt _ m;simp only at this;omega,fun m=>by have:=w.lt _ m;simp only at this;omega,fun y c=>c.elim,fun B=>by cases B⟩
 ·have val:∀{j a},(es++ [⟨eb,tb,i,true,tu,lu,No⟩])[j]? =some a→es[j]? =some a∨(j=es.length∧a=⟨eb,tb,i,true,tu,lu,No⟩):=fun{j a} m=>by
   rw[List.getElem?_append]at m;split at m
   ·exact .inl m
   ·have:j-es.length=0:=by
     have:=(aF.1 m).1;simp only[aK]at this;omega
    rw[this]at m;cases m;exact .inr ⟨by omega,rfl⟩
  have one:∀{j:Nat} {b:Ed},es[j]? =some b→eb≠b.eb∧tb≠b.tb:=fun{j b} z=>by
   have:=q (az z);exact⟨by omega,by omega⟩
  rcases val m with C|⟨Q,rfl⟩<;>rcases val z with D|⟨P,rfl⟩
  ·exact w.pw M J a b C D F
  ·exact⟨Ne.symm (one C).1,Ne.symm (one C).2,fun y _ h=>h.elim⟩
  ·exact⟨(one D).1,(one D).2,fun y h=>h.elim⟩
  ·omega
end
end Go.Proofs
namespace Go.Proofs
open Go Go.Lift
end Go.Proofs
namespace Go.Proofs
open Go Go.Lift
end Go.Proofs
namespace Go.Proofs
open Go Go.Lift
end Go.Proofs
namespace Go.Proofs
open Go Go.Lift
end Go.Proofs
namespace Go.Proofs
open Go Go.Lift
end Go.Proofs
namespace Go.Proofs
open Go Go.Lift
end Go.Proofs
namespace Go.Proofs
open Go Go.Lift
theorem JL{W:Nat→Prop}{h:ad}{b:Nat}{l:List Pr}(t:RadAt W h b l)(hW:∀y,W y→y<h.size)(hr:cA l)(k:ByteArray){K:ByteArray×Bool→ad→Prop}
  (X:∀R,Upd No h R→K ((look l k).getD ⟨#[]⟩,(look l k).isSome) R):HC PG wR [.pointer (some ⟨b,0,none⟩),.string k] [.c .str,.c .bool] K h:=by
 refine KU (some ⟨b,0,none⟩) k ?_;unfold CW bJ dH bw aM jS DW;refine OT (.inr ⟨b,rfl,t⟩) hW fun h2 b2 t2 hu2 _=>?_
 obtain⟨w,F,r1,r2,r3⟩:=t2.ex;have d:∀v,p7 w F k.data.toList v↔look l k=some v:=fun v=>by
  rw[←l0,r3];constructor
  ·rintro⟨p,Y,e1,rfl⟩
   rw[←pJ.1 e1];exact BG hr Y
  ·intro Y;exact⟨_,Kg Y,rfl,rfl⟩
 refine LoopP.ghost (fun(g:ByteArray×Nat×ByteArray×Option ByteArray×Fo) (t:ByteArray×Option Addr) R=>t=(g.1,some ⟨g.2.1,0,none⟩)∧RxN W R g.2.1 g.2.2.1 g.2.2.2.1 g.2.2.2.2∧fi g.2.2.2.2∧(∀v,p7 g.2.2.2.1 g.2.2.2.2 g.1.data.toList v↔look l k=some v)∧Upd No h R) (fun g=>g.1.size) (k,b2,⟨#[]⟩,w,F) ⟨rfl,r1,r2,d,hu2⟩ ?_
 clear d r1 r2 r3 t2;rintro I ⟨kk,c,sl,w,F⟩ t h5 ⟨rfl,r,hc,d,hu⟩ hI;simp only at r hc d;simp only[iW];by_cases G:kk=⟨#[]⟩
 ·subst G
  refine aj.2 (JD r ?_);have e:look l k=w:=Option.ext fun v=>by
   rw[←d v];constructor
   ·rintro(⟨_,h⟩|h)
    ·exact h
    ·exact absurd rfl (nU hc h)
   ·intro h;exact .inl ⟨rfl,h⟩
  rw[e]at X;exact X _ hu
 ·rw[decide_eq_false G]
  refine ay.2 ?_;have q:kk.data.toList≠[]:=fun e=>G (by cases kk;exact congrArg jE (Array.toList_inj.1 e))
  obtain⟨c0,hc0,N⟩:=BK q;refine⟨c0,Int.le_refl _,hc0,?_⟩;have hr0:=r;obtain⟨val,s,ow,ks,hb,_,hs,hcap,hF⟩:=r;have hL:=pT.1 hF;have E:=eI.1 hc;have o:(∀v,¬pi F kk.data.toList v)→K ((⟨#[]⟩:ByteArray),false) h5:=fun C=>by
   have e:look l k=none:=by
    cases e:look l k with
    |none=>rfl
    |some v=>
     rcases(d v).2 e with⟨h,_⟩|h
     ·exact absurd h q
     ·exact absurd h (C v)
   rw[e]at X;exact X _ hu
  refine Bw hr0 hc (c:=c0.toNat) (UInt8.toNat_lt _) fun i ok hil O J H=>?_
  rw[N]at O J H;cases ok with
  |false=>
   refine ay.2 (o fun v d=>?_)
   obtain⟨n',M,e,_⟩:=oK hc d;obtain⟨j,V,rfl⟩:=List.getElem_of_mem M;rcases bK j i with hl|hl
   ·have:=O j V hl;omega
   ·have h1:=J j V hl
    have h2:=J i (by omega) (ao _);rcases bK i j with S|S
    ·have h3:=List.pairwise_iff_getElem.1 E.1 i j (by omega) V S
     omega
    ·have:i=j:=by omega
     subst this;have:=H.2 ⟨V,e⟩;cases this
  |true=>
   obtain⟨hi,P⟩:=H.1 rfl;refine aj.2 ⟨_,rfl,s,dh (i:=3) hb,?_⟩;obtain⟨kb,T,hki,D,A⟩:=hL.at hi;have u:F.toL[i]∈F.toL:=List.getElem_mem hi;have B:=E.2 _ u;obtain⟨a,ha,_,Z⟩:=hs.at0 hki;have L:=hs.len;rw[hL.1]at L;have f:∀v,pi F kk.data.toList v↔rK F.toL[i] kk.data.toList v:=fun v=>by
    constructor
    ·intro d
     obtain⟨n',M,e,hN⟩:=oK hc d;rw[←vp hc M u (by omega)];exact hN
    ·intro d;exact fq.2 ⟨_,u,d⟩
   refine⟨⟨by simp only;omega,by simp only;omega⟩,a,ha,some ⟨kb,0,none⟩,Z,_,rfl,?_⟩
   obtain⟨kval,kss,kow,kks,Q,_⟩:=id A;generalize F.toL[i]=m at D A B f P;obtain⟨lab,wk,Fk⟩:=m;simp only at D A B P Q;refine⟨T,dh (i:=0) Q,RG (fun z n=>?_) fun C=>?_⟩
   ·rw[D]at n
    have hlne:lab.length≠0:=fun e=>B.1 (List.length_eq_zero_iff.1 e)
    have hrl:z.size<kk.size:=by
     rw[←jU z,←jU kk,n,af];omega
    refine aj.2 (hI (z,kb,T,wk,Fk) _ _ ⟨rfl,A,B.2.2,fun v=>?_,hu⟩ hrl)
    rw[←d v];constructor
    ·intro h;exact .inr ((f v).2 ⟨_,n,h⟩)
    ·rintro(⟨h,_⟩|h)
     ·exact absurd h q
     ·obtain⟨r',e,hr'⟩:=(f v).1 h
      simp only at e;rw[n]at e;rw[List.append_cancel_left e];exact hr'
   ·rw[D]at C
    refine ay.2 (o fun v h=>?_)
    obtain⟨r',e,_⟩:=(f v).1 h;exact C r' e
theorem SX{W:Nat→Prop}{x:Hs}{h:ad}{a:Int}{t:Tr}{l:List Pr}(i:TreeIs W h a x t l)(m:∀y,W y→y<h.size)(j:cA l)(n:l.length≤1000000)(k:ByteArray){K:Sd→ad→Prop}(g:∀h',Upd No h h'→K ((look l k).getD ⟨#[]⟩,(look l k).isSome) h'):HC PG qy [GK t,.string k] [.c .str,.c .bool] K h:=by
 refine Dg t k ?_;unfold vS bh bS aI vH pj wm;rcases i with⟨_,b,rfl,t⟩|⟨_,b,rfl,t⟩
 ·refine aJ fun o b1 k1=>⟨_,vc b1 0,aj.2 ⟨_,fI b1 1 0,_,fI b1 1 1,_,fI b1 1 2,_,vc b1 4,?_⟩⟩
  exact KJ (TrieAt.upd0 k1 t) (fun y d=>bP (m y d) k1.size) j n k fun f c=>g f (k1.tr c)
 ·refine aJ fun o b1 k1=>⟨_,vc b1 0,ay.2 ⟨_,vc b1 5,?_⟩⟩
  exact JL (t.upd0 k1) (fun y d=>bP (m y d) k1.size) j k fun f c=>g f (k1.tr c)
end Go.Proofs
namespace Go.Proofs
open Go Go.Lift
theorem Pq{h:ad}{eb pb tb cb cap:Nat}{i ti:Int}{ids j:List Int}{tu:Tr}(e:EdAt h eb pb tb tu)(k:TokAt h tb pb ti true)(p:PoolAt h pb cb cap ids)(I:ids.length<cap)(hi:ids++ [ti]=i::j){K:Tr×Int→ad→Prop}
  (P:∀h' tb',Upd (fun y=>y=cb∨y=tb∨y=eb) h h'→PoolAt h' pb cb cap j→TokAt h' tb pb ti false→TokAt h' tb' pb i true→EdAt h' eb pb tb' tu→h.size≤tb'→K (tu,0) h'):HC PG iK [.pointer (some ⟨eb,0,none⟩)] Lu K h:=by
 obtain⟨O,n2,X⟩:=Oa e k p;have ze:=aH e;have zt:=aH k;obtain⟨pn,u,_,_,hc⟩:=id p;have zp:=aH u;have zc:=aH hc;have V:pb≠tb:=fun h=>by subst h;have:=u.symm.trans k;simp at this
 have J:pb≠eb:=fun h=>by subst h;have:=u.symm.trans e;simp at this
 refine uq _ ?_;unfold pL bh ah aI eK cp nv rk pj zF f9;refine aJ fun W b1 k1=>CL (e.upd k1 id) (k.upd k1 id) (p.upd0 k1) I fun Q B T S N=>pB (t:=tu) fun G R n=>Join.plain (ay.2 ?_)
 have s1:=k1.size;have z1:=aH b1;have s3:=B.size;have s5:=n.size;have H:=N.upd n id;have F:=T.upd0 n;have Z:=S.upd n id;rw[hi]at F;refine⟨_,rfl,_,vc H 0,CA F fun q b v o=>?_⟩
 have L:=aH o;have s10:=b.size;have D:=H.upd b O;refine⟨_,rfl,lN D (i:=1) (by simp) rfl fun C E d=>?_⟩
 have Y:=n.get0 (B.get b1 (by omega));have m:=d.oth (b.get R (by omega)) (by omega);refine⟨_,vc m 0,_,vc m 1,_,vc m 2,_,vc m 3,_,vc m 4,_,vc m 5,?_⟩;refine cS (c:=jT vI) (vs:=jT tu) (d.oth (b.get Y (by omega)) (by omega)) rfl fun z a f=>?_
 refine⟨_,vc a 0,_,vc a 1,_,vc a 2,_,vc a 3,_,vc a 4,_,vc a 5,?_⟩;have s:=(v.upd d (by omega) (by omega)).upd f (by omega) (by omega);refine P z G.size ?_ s (((Z.upd b X).upd d (by omega)).upd f (by omega)) ((o.upd d (by omega)).upd f (by omega)) ((EdAt.upd (t:=tu) E (Upd.refl (fun _=>False) _) id).upd f (by omega)) (by omega)
 have M:Upd (fun y=>y=cb∨y=tb∨y=eb) W Q:=B.mono fun y g=>.inl (g.imp id .inl)
 have w:Upd (fun y=>y=cb∨y=tb∨y=eb) G q:=b.mono fun y g=>.inl (.inl g)
 have A:Upd (fun y=>y=cb∨y=tb∨y=eb) q C:=d.mono fun y g=>.inl (.inr (.inr g))
 exact((((k1.wide.tr M).tr n.wide).tr w).tr A).trans f fun y g=>.inr (by have g:y=h.size:=g;omega)
theorem BH{e:Ed}:∀{es:List Ed} {i:Nat},es[i]? =some e→e.lv=true→1≤sy es
 |a::es,0,h,hl=>by cases h;simp only[sy];rw[if_pos hl];omega
 |a::es,i+1,h,hl=>by
  have:=BH (es:=es) (i:=i) (by simpa using h) hl;simp only[sy];omega
 | [],i,h,hl=>by simp at h
section
variable {A:Nat→Prop} {h:ad} {pb cb cap n:Nat} {ids:List Int} {kind:Int} {x:Hs} {es:List Ed} {i:Nat} {e:Ed}
theorem VB(w:Wo A h pb cb cap ids kind x n es)(d:es[i]? =some e) (f:e.lv=true) (o:n≤1000) (p:Pr) (g:p.1.size≤5030∧p.2.size≤5030) {K:Int→ad→Prop}
  (j:∀b a c,Wo A b pb cb cap ids kind x (n+1) (es.set i {e with tu:=a,lu:=lQ e.lu p,S:=c})→Me A cb es h (es.set i {e with tu:=a,lu:=lQ e.lu p,S:=c}) b→K (Bl p) b):HC PG fK [.pointer (some ⟨e.eb,0,none⟩),.agg #[.string p.1,.string p.2]] [.c (.int .i64)] K h:=by
 have q:=w.ew e (az d);have wl:=Jp q.up q.fit q.len g;exact Kz (w.edO d f) (by have:=q.len;omega) p (fun b a c e' k m=>let r:=w.goes d f e' k m (fY n) wl.2.2;j b a c r.1 r.2) wl.2.1
theorem Ug(w:Wo A h pb cb cap ids kind x n es)(d:es[i]? =some e) (f:e.lv=true) (m:n≤1000) (k:ByteArray) {K:Int→ad→Prop}
  (g:∀b a c,Wo A b pb cb cap ids kind x (n+1) (es.set i {e with tu:=a,lu:=oy e.lu k,S:=c})→Me A cb es h (es.set i {e with tu:=a,lu:=oy e.lu k,S:=c}) b→K (BU e.lu k) b):HC PG gO [.pointer (some ⟨e.eb,0,none⟩),.string k] [.c (.int .i64)] K h:=by
 have q:=w.ew e (az d);have wl:=Kq (k:=k) q.up q.fit q.len;exact Pt (w.edO d f) (by have:=q.len;omega) k (fun b a c e' k j=>let r:=w.goes d f e' k j (fY n) wl.2.2;g b a c r.1 r.2)
theorem Oz(w:Wo A h pb cb cap ids kind x n es)(c:es[i]? =some e) (b:e.lv=true) {K:Tr×Int→ad→Prop}
  (d:∀a,Wo A a pb cb cap (ids++ [e.ti]) kind x n (es.set i {e with lv:=false,S:=No})→Me A cb es h (es.set i {e with lv:=false,S:=No}) a→TreeIs (Un A cb (es.set i {e with lv:=false,S:=No})) a kind x e.tu e.lu→K (e.tu,0) a):iY (some ⟨e.eb,0,none⟩) K h:=by
 have q:=w.ew e (az c);have hv:=BH c b;refine ES q.ed (b▸q.tk) w.pl (by have:=w.rm;omega) fun a k p t ed=>?_
 have r:=w.turn (tb':=e.tb) (ti':=e.ti) (lv':=false) c b (k.mono fun y f=>.inl (f.imp id .inl)) p (by simp) ed t t (.inl ⟨rfl,rfl⟩)
 exact d a r.1 r.2.1 r.2.2
theorem Jo(w:Wo A h pb cb cap ids kind x n es)(a:es[i]? =some e) (c:e.lv=true) {K:Tr×Int→ad→Prop}
  (b:∀h',Wo A h' pb cb cap (ids++ [e.ti]) kind x n (es.set i {e with lv:=false,S:=No})→Me A cb es h (es.set i {e with lv:=false,S:=No}) h'→TreeIs (Un A cb (es.set i {e with lv:=false,S:=No})) h' kind x e.tu e.lu→K (e.tu,0) h'):HC PG eD [.pointer (some ⟨e.eb,0,none⟩)] Lu K h:=
 oe _ (Oz w a c b)
theorem Uf(w:Wo A h pb cb cap ids kind x n es)(d:es[i]? =some e) (f:e.lv=true) {j:Int} {a:List Int} (hi:ids++ [e.ti]=j::a) {K:Tr×Int→ad→Prop}
  (g:∀b tb',Wo A b pb cb cap a kind x n (es.set i {e with tb:=tb',ti:=j,lv:=true,S:=No})→Me A cb es h (es.set i {e with tb:=tb',ti:=j,lv:=true,S:=No}) b→TreeIs (Un A cb (es.set i {e with tb:=tb',ti:=j,lv:=true,S:=No})) b kind x e.tu e.lu→K (e.tu,0) b):HC PG iK [.pointer (some ⟨e.eb,0,none⟩)] Lu K h:=by
 have q:=w.ew e (az d);have hv:=BH d f;refine Pq q.ed (f▸q.tk) w.pl (by have:=w.rm;omega) hi fun b tb' k p t m ed o=>?_
 have c:ids.length+1=a.length+1:=by have:=congrArg List.length hi;simpa using this
 have r:=w.turn (tb':=tb') (ti':=j) (lv':=true) d f k p (by simpa using c.symm) ed m t (.inr o);exact g b tb' r.1 r.2.1 r.2.2
theorem SD(w:Wo A h pb cb cap ids kind x n es){j:Int}{a:List Int}(hi:ids=j::a){t:Tr}{l:List Pr}(c:TreeIs (Un A cb es) h kind x t l)(up:cA l)(fit:Fit l)(len:l.length≤n){K:Option Addr×Int→ad→Prop}
  (d:∀b eb tb,Wo A b pb cb cap a kind x n (es++ [⟨eb,tb,j,true,t,l,No⟩])→Me A cb es h (es++ [⟨eb,tb,j,true,t,l,No⟩]) b→K (some ⟨eb,0,none⟩,0) b):HC PG mJ [.pointer (some ⟨pb,0,none⟩),GK t] [.c .ptr,.c (.int .i64)] K h:=by
 subst hi;refine ET w.pl t fun b eb tb k p tk ed f g=>?_
 have r:=w.begin rfl k p tk ed f g c up fit len;exact d b eb tb r.1 r.2
theorem Ux{U:Nat→Prop}(q:EdW U h pb kind x n e):By h (some ⟨e.tb,0,none⟩) (tok e):=q.tk.by_
theorem EdW.is{U:Nat→Prop}(q:EdW U h pb kind x n e):TreeIs No h kind x e.tu e.lu:=q.iu.read (Ux q)
theorem Rz{U:Nat→Prop}(q:EdW U h pb kind x n e)(b:n≤60000)(k:ByteArray){K:ByteArray×Bool→ad→Prop}(a:∀h',Upd No h h'→K ((look e.lu k).getD ⟨#[]⟩,(look e.lu k).isSome) h'):HC PG qz [.pointer (some ⟨e.eb,0,none⟩),.string k] [.c .str,.c .bool] K h:=by
 refine Dl _ k ?_;unfold vW jt bS xn f9;have ed:=q.ed;exact aj.2 ⟨_,rfl,_,fI ed 2 0,_,fI ed 2 1,_,fI ed 2 2,_,fI ed 2 3,_,fI ed 2 4,_,fI ed 2 5,SX q.is (fun _ h=>h.elim) q.up (by have:=q.len;omega) k a⟩
theorem Ky{U:Nat→Prop}(q:EdW U h pb kind x n e){K:Tr×Bool→ad→Prop}(d:∀h',Upd No h h'→K (if e.lv then vI else e.tu, !e.lv) h'):HC PG nZ [.pointer (some ⟨e.eb,0,none⟩)] [.agg [.int .i64,.int .u64,.int .u64,.int .u64,.ptr,.ptr],.c .bool] K h:=by
 refine zj _ ?_;unfold rV bh jt ah bS aI eK rk zF f9;refine aJ fun f b1 k1=>CJ (q.ed.upd k1 id) (q.tk.upd k1 id) ?_
 have ed:=q.ed.upd k1 id;cases hl:e.lv
 ·refine aj.2 ⟨_,rfl,_,fI ed 2 0,_,fI ed 2 1,_,fI ed 2 2,_,fI ed 2 3,_,fI ed 2 4,_,fI ed 2 5,?_⟩
  refine cS (c:=jT vI) (vs:=jT e.tu) b1 rfl fun b b3 a=>⟨_,vc b3 0,_,vc b3 1,_,vc b3 2,_,vc b3 3,_,vc b3 4,_,vc b3 5,?_⟩
  have:=d b (k1.own a (ao _));rw[hl]at this;exact this
 ·refine ay.2 (cS (c:=jT vI) (vs:=jT vI) b1 rfl fun b b3 a=>⟨_,vc b3 0,_,vc b3 1,_,vc b3 2,_,vc b3 3,_,vc b3 4,_,vc b3 5,?_⟩)
  have:=d b (k1.own a (ao _));rw[hl]at this;exact this
end
end Go.Proofs
