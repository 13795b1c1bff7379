/- A part of the proof that the named laws of this program answer true, whatever the input. -/
import Derived.Test.YtncppacbfagpgaaGreatDoorPart8
import Derived.Test.YtncppacbfagpgaaGreatDoorPart6
import Derived.Test.YtncppacbfagpgaaGreatDoorPart7
import Derived.Test.YtncppacbfagpgaaGreatDoorPart5
open List renaming length_append→ac,flatMap_append→bC,length_cons→ap,getElem?_eq_getElem→ae
open Nat renaming le_refl→ag,zero_add→aR,le_trans→bh,mul_le_mul_right→bZ,zero_le→aK
namespace Go.Proofs
open Go Go.Lift
theorem L5{c:Nat}:IntKind.wrap .u32 (((2^c%4294967296:Nat):Int)*2)=((2^(c+1)%4294967296:Nat):Int):=by
 rw[IntKind.wrap_u32,Nat.pow_succ];omega
theorem N6{q:List Pr}:(HS q==(1:Int))=(fM q).isSome:=by
 match q with
 | []=>rfl
 | [a]=>rfl
 |a::b::q=>rw[show HS (a::b::q)=2 by unfold HS;rw[if_neg (by simp),if_pos (by simp)]];rfl
theorem N5{q:List Pr}:(HS q==(2:Int))=(dU q).isSome:=by
 match q with
 | []=>rfl
 | [a]=>rfl
 |a::b::q=>rw[show HS (a::b::q)=2 by unfold HS;rw[if_neg (by simp),if_pos (by simp)]];rw[show dU (a::b::q)=some (a::b::q) by unfold dU;rw[if_pos (by simp)]];rfl
def TwoB(n0 n1:Nat)(h:ad)(so ss:SliceV)(L:List Pr)(B:List UInt8):Prop:=
 ∃M N:Nat→Prop,OwnS dD 2 bG M h so L∧OwnS l8 1 ci N h ss B∧(∀b,M b→n0≤b∧b<n1∧¬N b)∧∀b,N b→n0≤b∧b<n1
theorem TwoB.upd0{n0 n1:Nat}{h h':ad}{so ss:SliceV}{L:List Pr}{B:List UInt8}(t:TwoB n0 n1 h so ss L B)(k:Upd No h h'):TwoB n0 n1 h' so ss L B:=by
 obtain⟨M,N,h1,h2,h3,h4⟩:=t;exact⟨M,N,h1.upd k fun _ _ h=>h,h2.upd k fun _ _ h=>h,h3,h4⟩
theorem TwoB.up{n0 n1 n2:Nat}{h:ad}{so ss:SliceV}{L:List Pr}{B:List UInt8}(t:TwoB n0 n1 h so ss L B)(hn:n1≤n2):TwoB n0 n2 h so ss L B:=by
 obtain⟨M,N,h1,h2,h3,h4⟩:=t;exact⟨M,N,h1,h2,fun b hb=>⟨(h3 b hb).1,by have:=(h3 b hb).2.1;omega,(h3 b hb).2.2⟩,fun b hb=>⟨(h4 b hb).1,by have:=(h4 b hb).2;omega⟩⟩
theorem TwoB.appP{n0 n1:Nat}{h:ad}{so ss:SliceV}{L:List Pr}{B:List UInt8}{p:Pr}(t:TwoB n0 n1 h so ss L B)(hn:n0≤n1)(hn1:n1≤h.size)(hl:L.length≤1000000){xs:List Value}(hx:xs=dD p){K:SliceV→ad→Prop}
  (hk:∀s' h',TwoB n0 h'.size h' s' ss (L++ [p]) B→Upd (fun b=>n0≤b) h h'→K s' h'):AppP (some [.string (⟨#[]⟩:ByteArray),.string (⟨#[]⟩:ByteArray)]) 2 32 bG so.a so.len so.cap 1 xs h K:=by
 subst hx;obtain⟨M,N,h1,h2,h3,h4⟩:=t;refine AppP.own (ys:= [p]) (h1.more (M':=fun b=>M b∨h.size≤b) fun _ h=>.inl h) rfl rfl rfl rfl (by omega) (by simp only[List.length_singleton];omega) (.inr (ag _)) fun s' h' ho hu=>?_
 have s:=hu.size;refine hk s' h' ⟨_,N,ho.within,h2.upd hu fun b hb hm=>hm.elim (fun hm=>(h3 b hm).2.2 hb) fun hm=>by have:=(h4 b hb).2;omega,fun b hb=>⟨?_,hb.2,fun hB=>?_⟩,fun b hb=>⟨(h4 b hb).1,by have:=(h4 b hb).2;omega⟩⟩ (hu.mono fun b hb=>hb.elim (fun hb=>.inl (h3 b hb).1) .inr)
 ·rcases hb.1 with hb|hb
  ·exact(h3 b hb).1
  ·omega
 ·rcases hb.1 with hb|hb
  ·exact(h3 b hb).2.2 hB
  ·have:=(h4 b hB).2;omega
theorem TwoB.appB{W:Nat→Prop}{n0 n1:Nat}{h:ad}{so ss e:SliceV}{L:List Pr}{B ys:List UInt8}(t:TwoB n0 n1 h so ss L B)(hn:n0≤n1)(hn1:n1≤h.size)(he:Sl l8 1 W h e ys)(hl:B.length+ys.length≤140737488355328){K:SliceV→ad→Prop}
  (hk:∀s' h',TwoB n0 h'.size h' so s' L (B++ys)→Upd (fun b=>n0≤b) h h'→K s' h'):∃xs,SRow h e.a (e.len*1) xs∧AppP (some [.int .u8 0]) 1 1 ci ss.a ss.len ss.cap e.len xs h K:=by
 obtain⟨M,N,h1,h2,h3,h4⟩:=t;refine tH (M:=fun b=>N b∨h.size≤b) (h2.more fun _ h=>.inl h) he (fun _ h=>.inr h) hl fun s' h' ho hu=>?_
 have s:=hu.size;refine hk s' h' ⟨M,_,h1.upd hu fun b hb hm=>hm.elim (fun hm=>(h3 b hb).2.2 hm) fun hm=>by have:=(h3 b hb).2.1;omega,ho.within,fun b hb=>⟨(h3 b hb).1,by have:=(h3 b hb).2.1;omega,fun hB=>?_⟩,fun b hb=>⟨?_,hb.2⟩⟩ (hu.mono fun b hb=>hb.elim (fun hb=>.inl (h4 b hb).1) .inr)
 ·rcases hB.1 with hB|hB
  ·exact(h3 b hb).2.2 hB
  ·have:=(h3 b hb).2.1;omega
 ·rcases hb.1 with hb|hb
  ·exact(h4 b hb).1
  ·omega
theorem yd{β:Type}(g:Nat→Option β):∀n,(fm g n).length≤n
 |0=>by simp[fm]
 |n+1=>by
  rw[fE,ac];have:=yd g n;cases g n<;>simp<;>omega
theorem Pg{β:Type}(g:Nat→Option β){n m:Nat}(h:n≤m):∃r,fm g m=fm g n++r:=by
 obtain⟨j,rfl⟩:∃j,m=n+j:=⟨m-n,by omega⟩
 clear h;induction j with
 |zero=>exact⟨[],by simp⟩
 |succ j ih=>obtain⟨r,hr⟩:=ih;exact⟨r++(g (n+j)).toList,by rw[←Nat.add_assoc,fE,hr,List.append_assoc]⟩
set_option maxRecDepth 4000 in
theorem NL{x:Hs}:∀(m:Nat),m≤13→∀{h:ad} {b:Nat} {l:List Pr},DTrie No x h m b l→Fit l→l.length≤60000→∀{K:SliceV→ad→Prop},(∀s' h',OwnS l8 1 ci (fun y=>h.size≤y) h' s' (eD x m l)→Upd No h h'→K s' h')→
  HC PG wR [.pointer (some ⟨b,0,none⟩),.int .i64 ((13-m:Nat):Int)] [.c .slice] K h:=by
 intro m;induction m with
 |zero=>
  intro _ h b l t hf hn K hk;refine Gw (some ⟨b,0,none⟩) ((13-0:Nat):Int) ?_;unfold BK bR cn jm aL im yH hH bU;obtain⟨_,⟨sa,sn,sc⟩,hb,hs⟩:=t;obtain rfl:sn=l.length:=hs.len;have g:∀{h':ad} {i:Nat},Upd No h h'→i<130→aO h' (adr ⟨b,0,none⟩ i)=some (dF true ⟨sa,l.length,sc⟩ (fun _=> []) (fun _=>none) i):=fun k hi=>by rw[cc,bo (k.get0 hb),aR,Ba hi]
  have r0:=Upd.refl No h;have e1:eD x 0 l= [1]++kB l.length 2++iW l:=by unfold eD;simp
  have hpl:=kA hf;rw[e1]at hk;refine⟨_,rfl,true,g (i:=0) r0 (by omega),aB.2 ⟨_,rfl,⟨sa,l.length,sc⟩,g (i:=1) r0 (by omega),_,rfl,⟨sa,l.length,sc⟩,g (i:=1) r0 (by omega),?_,?_⟩⟩
  ·refine aQ fun h1 b1 k1=>⟨g (i:=1) k1 (by omega),g (i:=1) k1 (by omega),?_⟩
   have o1:=ui (b:=1) b1;refine zP (n:=l.length) (by omega) fun s2 h2 ho2 k2=>⟨g (i:=1) (k1.tr k2) (by omega),g (i:=1) (k1.tr k2) (by omega),?_⟩
   have s1:=k1.size;have s2':=k2.size;refine tH (o1.upd k2 fun _ _ h=>h) (ho2.sl (W:=No) fun _ _ _ h=>h) (fun y hy=>by show h.size≤y;omega) (by rw[cY];simp) fun s3 h3 ho3 k3=>?_
   have u3:Upd No h h3:=(k1.tr k2).trans k3 fun y hy=>.inr hy
   refine⟨g (i:=1) u3 (by omega),g (i:=1) u3 (by omega),?_⟩;refine x7 (hs.upd u3 fun _ h=>h.elim) hf hn fun s4 h4 ho4 k4=>⟨g (i:=1) (u3.tr k4) (by omega),?_⟩
   have s3':=u3.size;have s4':=k4.size;refine tH (ho3.upd k4 fun _ _ h=>h) (ho4.sl (W:=No) fun _ _ _ h=>h) (fun y hy=>by show h.size≤y;omega) (by rw[ac,cY];simp;omega) fun s5 h5 ho5 k5=>?_
   have u5:Upd No h h5:=(u3.tr k4).trans k5 fun y hy=>.inr hy
   exact⟨g (i:=1) u5 (by omega),hk s5 h5 ho5 u5⟩
  ·refine zP (n:=l.length) (by omega) fun s2 h2 ho2 k2=>⟨g (i:=1) k2 (by omega),g (i:=1) k2 (by omega),?_⟩
   refine aQ fun h1 b1 k1=>⟨g (i:=1) (k2.tr k1) (by omega),g (i:=1) (k2.tr k1) (by omega),?_⟩
   have o1:=ui (b:=1) b1;have s1:=k1.size;have s2':=k2.size;refine tH (M:=fun y=>h.size≤y) (o1.more fun y hy=>by show h.size≤y;omega) ((ho2.upd k1 fun _ _ h=>h).sl (W:=No) fun _ _ _ h=>h) (fun y hy=>by show h.size≤y;omega) (by rw[cY];simp) fun s3 h3 ho3 k3=>?_
   have u3:Upd No h h3:=(k2.tr k1).trans k3 fun y hy=>.inr hy
   refine⟨g (i:=1) u3 (by omega),g (i:=1) u3 (by omega),?_⟩;refine x7 (hs.upd u3 fun _ h=>h.elim) hf hn fun s4 h4 ho4 k4=>⟨g (i:=1) (u3.tr k4) (by omega),?_⟩
   have s3':=u3.size;have s4':=k4.size;refine tH (ho3.upd k4 fun _ _ h=>h) (ho4.sl (W:=No) fun _ _ _ h=>h) (fun y hy=>by show h.size≤y;omega) (by rw[ac,cY];simp;omega) fun s5 h5 ho5 k5=>?_
   have u5:Upd No h h5:=(u3.tr k4).trans k5 fun y hy=>.inr hy
   exact⟨g (i:=1) u5 (by omega),hk s5 h5 ho5 u5⟩
 |succ m ih=>
  intro hm h b l t hf hn K hk;refine Gw (some ⟨b,0,none⟩) ((13-(m+1):Nat):Int) ?_;unfold BK bR cn jm aL im yH hH bU;obtain⟨_,kk,hb,hkid⟩:=t;have elev:(13-(m+1):Nat)=12-m:=by omega
  rw[elev];obtain⟨q,hq⟩:∃q:Nat→List Pr,q=fun c=>part x (12-m) c l:=⟨_,rfl⟩
  have hqc:∀c,part x (12-m) c l=q c:=fun c=>by rw[hq]
  rw[←hq]at hb;have g:∀{h':ad} {i j:Nat},Upd No h h'→i+j<130→aO h' (adr (adr ⟨b,0,none⟩ i) j)=some (dF false ⟨none,0,0⟩ q kk (i+j)):=fun k hi=>by rw[cc,cc,bo (k.get0 hb),aR,Ba hi]
  have g0:aO h (adr ⟨b,0,none⟩ 0)=some (dF false ⟨none,0,0⟩ q kk 0):=by rw[cc,bo hb,Ba (by omega)]
  refine⟨_,rfl,false,g0,aj.2 ?_⟩;have hML:∀L∈iL x (12-m) l,2≤L.length∧(eD x m L).length≤9+L.length*(20004+9*(m+1)):=fun L hL=>by
   obtain⟨h3,c,rfl⟩:=nx hL;exact⟨h3,me m hf.part⟩
  have htot:((iL x (12-m) l).flatMap (eD x m)).length≤60000*(20004+9*(m+1)+9):=by
   have h1:=zM hML;have h2:=xW x (12-m) l;exact bh h1 (bZ _ (by omega))
  have hm20:20004+9*(m+1)+9≤20200:=by omega
  have htot2:((iL x (12-m) l).flatMap (eD x m)).length≤60000*20200:=bh htot (Nat.mul_le_mul_left _ hm20);have hpre:∀c,c≤32→((fm (fun j=>dU (q j)) c).flatMap (eD x m)).length≤60000*20200:=fun c hc=>by
   obtain⟨r,hr⟩:=Pg (fun j=>dU (q j)) hc
   have:((fm (fun j=>dU (q j)) 32).flatMap (eD x m)).length≤60000*20200:=by rw[hq];exact htot2
   rw[hr,bC,ac]at this;omega
  refine LoopP.ghost (fun(c:Nat) (t:Int×Int×SliceV×SliceV×Int×Int) h'=>t.1=((g5 (fun j=>(fM (q j)).isSome) c:Nat):Int)∧t.2.1=((g5 (fun j=>(dU (q j)).isSome) c:Nat):Int)∧t.2.2.2.2.1=((2^c%4294967296:Nat):Int)∧t.2.2.2.2.2=(c:Int)∧c≤32∧
   TwoB h.size h'.size h' t.2.2.1 t.2.2.2.1 (fm (fun j=>fM (q j)) c) ((fm (fun j=>dU (q j)) c).flatMap (eD x m))∧Upd No h h') (fun c=>32-c) 0 ⟨rfl,rfl,rfl,rfl,by omega,⟨No,No,OwnS.nil fq,OwnS.nil oL,fun _ h=>h.elim,fun _ h=>h.elim⟩,Upd.refl _ _⟩ ?_
  rintro I c ⟨dt,nt,sl,sk,bt,ct⟩ h' ⟨e1,e2,e3,e4,hc32,hT,hu⟩ hI;simp only at e1 e2 e3 e4 hT;subst e1 e2 e3 e4;have s0:=hu.size;have wide:∀{h1 h2:ad},Upd No h h1→Upd (fun b=>h.size≤b) h1 h2→Upd No h h2:=fun a k=>a.trans k fun y hy=>.inr hy
  refine av (fun hlt=>?_) fun hge=>?_
  ·have hlt:c<32:=by have:(c:Int)<32:=hlt;omega
   have ec:(c:Int).toNat*1=c:=by omega
   have ec2:(c:Int).toNat*2=c*2:=by omega
   have hbd:=kH (fun j=>(fM (q j)).isSome) c
   have hbn:=kH (fun j=>(dU (q j)).isSome) c
   have hpw:2^c≤2^31:=Nat.pow_le_pow_right (by omega) (by omega);have hmod:2^c%4294967296=2^c:=Nat.mod_eq_of_lt (by omega);have vis:dF false ⟨none,0,0⟩ q kk (2+c)=.int .i64 (HS (q c)):=by rw[Jy (by omega) (by omega),show 2+c-2=c by omega]
   refine Join.intro (fun(t:Int×SliceV) h2=>t.1=((g5 (fun j=>(fM (q j)).isSome) (c+1):Nat):Int)∧TwoB h.size h2.size h2 t.2 sk (fm (fun j=>fM (q j)) (c+1)) ((fm (fun j=>dU (q j)) c).flatMap (eD x m))∧Upd No h h2) (fun R hR=>?_) ?_
   ·refine⟨_,rfl,⟨by simp only;omega,by simp only;omega⟩,HS (q c),?_,?_⟩
    ·simp only[ec];rw[g hu (by omega),vis]
    rw[N6];have eb:g5 (fun j=>(fM (q j)).isSome) (c+1)=g5 (fun j=>(fM (q j)).isSome) c+(if(fM (q c)).isSome then 2^c else 0):=rfl
    cases hso:fM (q c)with
    |none=>
     rw[hso]at eb;refine aj.2 (hR _ _ ⟨by rw[eb];rfl,?_,hu⟩);rw[fE,hso];simpa using hT
    |some p=>
     rw[hso]at eb;have ep:Er (fM (q c))=p:=by rw[hso];rfl
     refine aB.2 ⟨_,rfl,⟨by simp only;omega,by simp only;omega⟩,p.1,?_,p.2,?_,aQ fun h2 b2 k2=>⟨_,jo b2,?_⟩⟩
     ·simp only[ec2];rw[cc,cc,cc,bo (hu.get0 hb),aR,Ba (by omega),Gc (by omega) (by omega) (by omega),show(34+c*2+0-34)/2=c by omega,ep]
     ·simp only[ec2];rw[cc,cc,cc,bo (hu.get0 hb),aR,Ba (by omega),Ga (by omega) (by omega) (by omega),show(34+c*2+1-34)/2=c by omega,ep]
     ·have s2:=k2.size
      have hl:=yd (fun j=>fM (q j)) c
      refine(hT.upd0 k2).appP (p:=p) s0 s2 (by omega) rfl fun s3 h3 hT3 k3=>hR _ _ ⟨?_,?_,wide (hu.tr k2) k3⟩
      ·rw[eb,hmod]
       simp only[Option.isSome_some,if_true];rw[IntKind.wrap_u32];omega
      ·rw[fE,hso];exact hT3
   rintro⟨dt,sl2⟩ h2 ⟨rfl,hT2,u2⟩;simp only at hT2⊢;have s2:=u2.size;refine Join.intro (fun(t:Int×SliceV) h3=>t.1=((g5 (fun j=>(dU (q j)).isSome) (c+1):Nat):Int)∧TwoB h.size h3.size h3 sl2 t.2 (fm (fun j=>fM (q j)) (c+1)) ((fm (fun j=>dU (q j)) (c+1)).flatMap (eD x m))∧Upd No h h3) (fun R hR=>?_) ?_
   ·refine⟨_,rfl,⟨by omega,by omega⟩,HS (q c),?_,?_⟩
    ·rw[ec,g u2 (by omega),vis]
    rw[N5];have eb:g5 (fun j=>(dU (q j)).isSome) (c+1)=g5 (fun j=>(dU (q j)).isSome) c+(if(dU (q c)).isSome then 2^c else 0):=rfl
    cases hma:dU (q c)with
    |none=>
     rw[hma]at eb;refine aj.2 (hR _ _ ⟨by rw[eb];rfl,?_,u2⟩);rw[fE (fun j=>dU (q j)),hma];simpa using hT2
    |some L=>
     rw[hma]at eb;have hL2:2≤(q c).length∧L=q c:=by
      unfold dU at hma;by_cases h2:2≤(q c).length
      ·rw[if_pos h2]at hma;exact⟨h2,(Option.some.inj hma).symm⟩
      ·rw[if_neg h2]at hma;cases hma
     obtain⟨h2l,rfl⟩:=hL2;refine aB.2 (av (fun _=>?_) fun hx=>absurd (show((12-m:Nat):Int)<13 by omega) hx)
     obtain⟨kb,hkb,td⟩:=hkid c hlt (by rw[hqc];exact h2l);rw[hqc]at td;have hpt:(q c).length≤l.length:=by rw[←hqc];exact nZ
     have hpf:Fit (q c):=by rw[←hqc];exact hf.part
     have e14:IntKind.wrap .i64 (((12-m:Nat):Int)+1)=((13-m:Nat):Int):=by rw[fL (by omega)];omega
     refine⟨_,rfl,⟨by omega,by omega⟩,some ⟨kb,0,none⟩,?_,?_⟩
     ·rw[ec,g u2 (by omega),Gb (by omega),show 98+c-98=c by omega,hkb]
     rw[e14];refine ih (by omega) (DTrie.upd u2 (fun _ h=>h.elim) td) hpf (by omega) fun s4 h4 ho4 k4=>?_
     have s4':=k4.size;have hpr:=hpre (c+1) (by omega);rw[fE,hma,bC,ac]at hpr;simp only[Option.toList_some,List.flatMap_cons,List.flatMap_nil,List.append_nil]at hpr;refine(hT2.upd0 k4).appB s2 s4' (ho4.sl (W:=No) fun _ _ _ h=>h) (by omega) fun s5 h5 hT5 k5=>hR _ _ ⟨?_,?_,wide (u2.tr k4) k5⟩
     ·rw[eb,hmod]
      simp only[Option.isSome_some,if_true];rw[IntKind.wrap_u32];omega
     ·rw[fE (fun j=>dU (q j)),hma,bC]
      simpa using hT5
   rintro⟨nt,sk2⟩ h3 ⟨rfl,hT3,u3⟩;simp only at hT3⊢;rw[cl hlt (by omega),L5];exact hI (c+1) _ _ ⟨rfl,rfl,rfl,rfl,hlt,hT3,u3⟩ (by omega)
  ·obtain rfl:c=32:=by have:¬(c:Int)<32:=hge;omega
   have e1:eD x (m+1) l= [0]++kB (g5 (fun j=>(fM (q j)).isSome) 32) 4++kB (g5 (fun j=>(dU (q j)).isSome) 32) 4++iW (fm (fun j=>fM (q j)) 32)++(fm (fun j=>dU (q j)) 32).flatMap (eD x m):=by
    rw[hq];unfold eD;simp[fP,iL]
   rw[e1]at hk;have hD:=kH (fun j=>(fM (q j)).isSome) 32
   have hN:=kH (fun j=>(dU (q j)).isSome) 32
   have hsf:Fit (fm (fun j=>fM (q j)) 32):=fun p hp=>hf p (rc (x:=x) (lev:=12-m) (by unfold fP;rw[hq]at hp;exact hp))
   have hsl:=yd (fun j=>fM (q j)) 32
   have hps:=kA hsf;have hpr:=hpre 32 (ag _);obtain⟨M,N,o1,o2,hMb,hNb⟩:=hT;generalize g5 (fun j=>(fM (q j)).isSome) 32=D at*
   generalize g5 (fun j=>(dU (q j)).isSome) 32=N' at*
   generalize fm (fun j=>fM (q j)) 32=S at*
   generalize (fm (fun j=>dU (q j)) 32).flatMap (eD x m)=B at*
   have hsS:Sl dD 2 No h' sl S:=o1.sl fun _ _ _ h=>h
   have hsB:Sl l8 1 No h' sk B:=o2.sl fun _ _ _ h=>h
   refine Join.plain (aQ fun h1 b1 k1=>?_)
   simp only;have ob:=ui (b:=0) b1;refine Fw (by omega) fun s2 h2 ho2 k2=>?_
   have s1:=k1.size;have s2':=k2.size;refine tH (M:=fun y=>h'.size≤y) (ob.upd k2 fun _ _ h=>h) (ho2.sl (W:=No) fun _ _ _ h=>h) (fun y hy=>by show h'.size≤y;omega) (by rw[cY];simp) fun s3 h3 ho3 k3=>?_
   have s3':=k3.size;refine Join.plain (Fw (by omega) fun s4 h4 ho4 k4=>?_)
   have s4':=k4.size;refine tH (M:=fun y=>h'.size≤y) (ho3.upd k4 fun _ _ h=>h) (ho4.sl (W:=No) fun _ _ _ h=>h) (fun y hy=>by show h'.size≤y;omega) (by rw[ac,cY,cY];simp) fun s5 h5 ho5 k5=>?_
   have s5':=k5.size;have u5:Upd No h' h5:=(((k1.tr k2).trans k3 fun y hy=>.inr hy).tr k4).trans k5 fun y hy=>.inr hy
   refine Join.plain (x7 (hsS.upd u5 fun _ h=>h.elim) hsf (by omega) fun s6 h6 ho6 k6=>?_)
   have s6':=k6.size;refine tH (M:=fun y=>h'.size≤y) (ho5.upd k6 fun _ _ h=>h) (ho6.sl (W:=No) fun _ _ _ h=>h) (fun y hy=>by show h'.size≤y;omega) (by rw[ac,ac,cY,cY];simp;omega) fun s7 h7 ho7 k7=>?_
   have u7:Upd No h' h7:=(u5.tr k6).trans k7 fun y hy=>.inr hy
   refine tH (M:=fun y=>h'.size≤y) ho7 (hsB.upd u7 fun _ h=>h.elim) (fun y hy=>by have:=u7.size;show h'.size≤y;omega) (by rw[ac,ac,ac,cY,cY];simp;omega) fun s8 h8 ho8 k8=>?_
   refine hk s8 h8 (ho8.more fun y hy=>by show h.size≤y;omega) ((hu.tr u7).trans k8 fun y hy=>.inr (by omega))
end Go.Proofs
namespace Go.Proofs
open Go Go.Lift
theorem JT{kind:Int}{x:Hs}{l:List Pr}{xs:List UInt8}(hv:DL kind x l xs)(hf:Fit l)(hn:l.length≤60000):xs.length≤100000000000:=by
 rcases hv with⟨_,rfl⟩|⟨_,ys,hr,rfl⟩
 ·have h1:=me (x:=x) 13 hf
  have h2:l.length*(20004+9*(13+1))≤60000*(20004+9*(13+1)):=bZ _ hn;rw[ap];omega
 ·have h1:=wy hr hf
  rw[ap];omega
theorem Ki{W:Nat→Prop}{x:Hs}{h:ad}{kind:Int}{r:Rt}{l:List Pr}(hkd:kind=0∨kind=1)(i:RefIs W h kind x r l)(hr:d9 l)(hf:Fit l)(hn:l.length≤60000){K:SliceV→ad→Prop}
  (hk:∀s' h' xs,OwnS l8 1 ci (fun y=>h.size≤y) h' s' xs→DL kind x l xs→Upd No h h'→K s' h'):HC PG tx [rtV r] [.c .slice] K h:=by
 refine Gt r ?_;unfold zi bW jq un PC eB yH;obtain⟨s,rfl,hs,hc⟩:=i;have hs:=hs.less (W':=No) fun _ h=>h.elim
 refine aQ fun h1 b1 k1=>⟨_,vc b1 0,?_⟩
 have s1:=k1.size;rcases hkd with rfl|rfl
 ·refine aj.2 (aQ fun h3 b3 k3=>⟨_,xO (k3.get0 b1) 1 0,_,xO (k3.get0 b1) 1 1,_,xO (k3.get0 b1) 1 2,s,vc (k3.get0 b1) 4,?_⟩)
  have ob:=ui (b:=0) b3;have u3:=k1.tr k3;have e0:∀v,hx 0 v=v:=fun v=>if_pos rfl
  simp only[e0];refine LZ (x:=x) (hs.upd u3 fun _ h=>h.elim) hn (fun p hp=>by have:=hf p hp;omega) fun h4 b td k4=>?_
  have s3:=k3.size;have s4:=k4.size;refine NL 13 (ag _) td hf hn fun s5 h5 ho5 k5=>?_
  have s5':=k5.size;have hlen:=me (x:=x) 13 hf;have h2:l.length*(20004+9*(13+1))≤60000*(20004+9*(13+1)):=bZ _ hn;refine tH (M:=fun y=>h1.size≤y) ((ob.upd k4 fun _ _ h=>h).upd k5 fun _ _ h=>h) (ho5.sl (W:=No) fun _ _ _ h=>h) (fun y hy=>by show h1.size≤y;omega) (by simp;omega) fun s6 h6 ho6 k6=>?_
  exact hk s6 h6 _ (ho6.more fun y hy=>bh s1 hy) (.inl ⟨rfl,rfl⟩) (((u3.tr k4).tr k5).trans k6 fun y hy=>.inr (bh s1 hy))
 ·refine aB.2 (aQ fun h3 b3 k3=>⟨s,vc (k3.get0 b1) 4,?_⟩)
  have ob:=ui (b:=1) b3;have u3:=k1.tr k3;refine NI (hs.upd u3 fun _ h=>h.elim) hc hr hn (fun p hp=>by have:=hf p hp;have:=AW p.1;show(ky p).length≤_;unfold ky;omega) fun h4 b w F dx hcF hpr k4=>?_
  have s3:=k3.size;have s4:=k4.size;obtain⟨hfit,hw⟩:=tg hcF hpr hf;have hrv:Ii l (gm ([],w,F)):=⟨w,F,hcF,hpr,rfl⟩;have hlen:=wy hrv hf;refine Jw (lab:= []) (by simp) hw (kY hcF) (A9 hfit) dx rfl (by omega) fun s5 h5 ho5 k5=>?_
  have s5':=k5.size;refine tH (M:=fun y=>h1.size≤y) ((ob.upd k4 fun _ _ h=>h).upd k5 fun _ _ h=>h) (ho5.sl (W:=No) fun _ _ _ h=>h) (fun y hy=>by show h1.size≤y;omega) (by simp;omega) fun s6 h6 ho6 k6=>?_
  exact hk s6 h6 _ (ho6.more fun y hy=>bh s1 hy) (.inr ⟨rfl,_,hrv,rfl⟩) (((u3.tr k4).tr k5).trans k6 fun y hy=>.inr (bh s1 hy))
end Go.Proofs
namespace Go.Proofs
open Go Go.Lift
theorem Mf{h:ad}{r:Rt}{k:ad→Prop}(hk:∀h',h'[h.size]? =some (.cells (Ea r).toArray mc (0,0))→Upd No h h'→k h'):
  At (hnew h (Ea Fm) mc) (fun h1=>uv h1 (some (aC h)) 0 (Ea r)∧At (iM h1 (aC h) 0 (Ea r)) k):=
 aQ fun h1 b1 k1=>eL (c:=Ea Fm) (vs:=Ea r) b1 rfl fun h2 b2 hu2=>hk h2 b2 (k1.own hu2 (ag _))
end Go.Proofs
namespace Go.Proofs
open Go Go.Lift
theorem Ht{W0:Nat→Prop}{x:Hs}{h:ad}{s:SliceV}{l:List Pr}{kind:Int}(hs:Sl dD 2 W0 h s l)(hn:l.length≤100000)(hB:∀p∈l,p.1.size≤1000000){K:Rt×Int→ad→Prop}
  (h11:kind≠0→kind≠1→∀h',Upd No h h'→K (Fm,11) h')(he:(kind=0∨kind=1)→nH l≠0→∀h',Upd No h h'→K (Fm,nH l) h')(hk:(kind=0∨kind=1)→nH l=0→∀h' r,RefIs No h' kind x r (lG l)→Upd No h h'→K (r,0) h'):
  HC PG rN [.int .i64 kind,.agg #[.int .u64 x.k0,.int .u64 x.k1,.int .u64 x.mask],.slice s.a s.len s.cap] [.agg [.int .i64,.int .u64,.int .u64,.int .u64,.slice],.c (.int .i64)] K h:=by
 refine Is kind (x.k0,x.k1,x.mask) s ?_;unfold BH cn bW ar jq hJ nv uJ un M7 PC jm FS bV aL aF d6 im Qj;refine aQ fun h1 b1 k1=>aQ fun h2 b2 k2=>?_
 have z1:=bw b1;have z2:=bw b2;have s1:h.size≤h1.size:=k1.size;have c1:=k2.get0 b1;have k02:=k1.tr k2;refine⟨_,vc c1 0,_,vc c1 1,_,vc c1 2,?_⟩;by_cases hkd:kind=0∨kind=1
 ·refine NK (x:=x) (W:=No) hkd fun h7 r j7 k7=>?_
  obtain⟨s0,rfl,_,_⟩:=j7;refine Mf (r:=(kind,hx kind x.k0,hx kind x.k1,hx kind x.mask,s0)) fun h9 b9 k9=>aj.2 ?_
  have z9:=bw b9;have s7:=k7.size;have k29:=k7.tr k9;have k09:=k02.tr k29;have hlen:=hs.len;refine LoopP.ghost (fun(i:Nat) (t:Int) h'=>t=(i:Int)∧i≤l.length∧nH (l.drop i)=nH l∧Upd No h9 h') (fun i=>l.length-i) 0 ⟨rfl,aK _,rfl,Upd.refl _ _⟩ ?_
  rintro I i t h23 ⟨rfl,hi,hd,ku⟩ hI;have k0:=k09.tr ku;have s23:=ku.size;refine av (fun hlt=>?_) fun hge=>?_
  ·have hlt:i<l.length:=by omega
   rw[DD hlt]at hd;obtain⟨a,ha,_,hv⟩:=(hs.upd k0 fun _ h=>h.elim).at (ae hlt)
   refine⟨⟨by omega,by omega⟩,a,ha,l[i].1,hv 0 _ rfl,l[i].2,hv 1 _ rfl,?_⟩
   refine py (p:=l[i]) fun h28 b28 k28=>⟨_,vc b28 0,_,vc b28 1,NH (p:=l[i]) ?_⟩
   by_cases e:GP l[i]=0
   ·rw[if_pos e]at hd
    rw[show(GP l[i] !=0)=false by rw[e];rfl]
    refine aj.2 ?_;rw[iG hlt (by omega)];exact hI (i+1) _ _ ⟨rfl,hlt,hd,ku.tr k28⟩ (by omega)
   ·rw[if_neg e]at hd
    rw[show(GP l[i] !=0)=true by simpa using e]
    refine aB.2 ?_;refine eL (c:=Ea Fm) (vs:=Ea Fm) (((k29.tr ku).tr k28).get0 b2) rfl fun h33 b33 u33=>?_
    refine⟨_,vc b33 0,_,vc b33 1,_,vc b33 2,_,vc b33 3,⟨none,0,0⟩,vc b33 4,?_⟩;have h0:nH l≠0:=by rw[←hd];exact e
    rw[hd];exact he hkd h0 h33 ((k0.tr k28).own u33 s1)
  ·have hil:i=l.length:=by omega
   subst hil;rw[List.drop_length]at hd;have h0:nH l=0:=hd.symm;refine Hi (hs.upd k0 fun _ h=>h.elim) hn hB fun s' h40 hs' hc' k40=>?_
   refine rx (i:=4) (c':=(Ea (kind,hx kind x.k0,hx kind x.k1,hx kind x.mask,s')).toArray) ((ku.tr k40).get0 b9) (show 4<5 by decide) rfl fun h41 b41 u41=>?_
   refine⟨_,vc b41 0,_,vc b41 1,_,vc b41 2,_,vc b41 3,s',vc b41 4,?_⟩;refine eL (c:=Ea Fm) (vs:=Ea (kind,hx kind x.k0,hx kind x.k1,hx kind x.mask,s')) (u41.oth (((k29.tr ku).tr k40).get0 b2) (by omega)) rfl fun h47 b47 u47=>?_
   refine⟨_,vc b47 0,_,vc b47 1,_,vc b47 2,_,vc b47 3,s',vc b47 4,?_⟩;have hz2:=k02.size;refine hk hkd h0 h47 (kind,hx kind x.k0,hx kind x.k1,hx kind x.mask,s') ⟨s',rfl,((hs'.upd u41 fun y hy=>.inl ?_).upd u47 fun y hy=>.inl ?_).less fun _ h=>h.elim,hc'⟩ (((k0.tr k40).own u41 (by omega)).own u47 s1)
   ·have hy:y=h7.size:=hy;omega
   ·have hy:y=h1.size:=hy;omega
 ·have n0:kind≠0:=fun e=>hkd (.inl e)
  have n1:kind≠1:=fun e=>hkd (.inr e)
  refine Hk n0 n1 fun h7 k7=>?_
  refine Mf (r:=Fm) fun h9 b9 k9=>aB.2 ⟨_,vc b9 0,_,vc b9 1,_,vc b9 2,_,vc b9 3,⟨none,0,0⟩,vc b9 4,?_⟩
  refine eL (c:=Ea Fm) (vs:=Ea Fm) ((k7.tr k9).get0 b2) rfl fun h33 b33 u33=>?_
  exact⟨_,vc b33 0,_,vc b33 1,_,vc b33 2,_,vc b33 3,⟨none,0,0⟩,vc b33 4,h11 n0 n1 h33 ((k02.tr (k7.tr k9)).own u33 s1)⟩
theorem ED{W0:Nat→Prop}{h:ad}{s:SliceV}{l:List Pr}{t:Tr}(hs:Sl dD 2 W0 h s l)(hn:l.length≤100000){K:Tr×Int→ad→Prop}
  (h11:t.1≠0→t.1≠1→∀h',Upd No h h'→K (uo,11) h')(he:(t.1=0∨t.1=1)→nH l≠0→∀h',Upd No h h'→K (uo,nH l) h')(hk:(t.1=0∨t.1=1)→nH l=0→∀h' v,TreeIs No h' t.1 ⟨t.2.1,t.2.2.1,t.2.2.2.1⟩ v (lG l)→Upd No h h'→K (v,0) h'):
  HC PG pj [GV t,.slice s.a s.len s.cap] [.agg [.int .i64,.int .u64,.int .u64,.int .u64,.ptr,.ptr],.c (.int .i64)] K h:=by
 refine EX t s ?_;unfold xI bW ar bD hJ zH qV FE B5 rI FT bV;refine aQ fun h1 b1 k1=>aQ fun h2 b2 k2=>?_
 have z1:=bw b1;have z2:=bw b2;have s1:h.size≤h1.size:=k1.size;have c1:=k2.get0 b1;have k02:=k1.tr k2;refine⟨_,vc c1 0,_,vc c1 1,_,vc c1 2,_,vc c1 3,_,vc c1 4,_,vc c1 5,_,vc c1 0,_,vc c1 1,_,vc c1 2,_,vc c1 3,_,vc c1 4,_,vc c1 5,?_⟩;refine LL (t:=t) fun h16 k16=>?_
 have c16:=k16.get0 c1;refine⟨⟨vc c16 0,vc c16 1,vc c16 2,vc c16 3,vc c16 4,vc c16 5⟩,?_⟩;refine GX (t:=t) fun h18 k18=>?_
 have k018:=k02.tr (k16.tr k18);have s18:=(k16.tr k18).size;have hW:∀y,Pro No h h2 y→y<h18.size:=fun y hy=>Nat.lt_of_lt_of_le (Pro.lt (fun _ h=>h.elim) k02 y hy) s18
 refine uN (W:=Pro No h h2) (x:=⟨t.2.1,t.2.2.1,t.2.2.2.1⟩) (kind:=t.1) (hs.upd k018 fun _ h=>h.elim) hW hn (fun n0 n1 h20 k20=>?_) (fun hkd h0 h20 k20=>?_) fun hkd h0 h20 v i20 k20=>?_
 ·refine eL (c:=wg uo) (vs:=wg uo) (((k16.tr k18).tr k20).get0 b2) rfl fun h21 b21 u21=>?_
  exact⟨_,vc b21 0,_,vc b21 1,_,vc b21 2,_,vc b21 3,_,vc b21 4,_,vc b21 5,h11 n0 n1 h21 ((k018.tr k20).own u21 s1)⟩
 ·refine eL (c:=wg uo) (vs:=wg uo) (((k16.tr k18).tr k20).get0 b2) rfl fun h21 b21 u21=>?_
  exact⟨_,vc b21 0,_,vc b21 1,_,vc b21 2,_,vc b21 3,_,vc b21 4,_,vc b21 5,he hkd h0 h21 ((k018.tr k20).own u21 s1)⟩
 ·refine eL (c:=wg uo) (vs:=wg v) (((k16.tr k18).tr k20).get0 b2) rfl fun h21 b21 u21=>?_
  exact⟨_,vc b21 0,_,vc b21 1,_,vc b21 2,_,vc b21 3,_,vc b21 4,_,vc b21 5,hk hkd h0 h21 v ((i20.updM u21 fun y hy=>.inl (.inr (by have hy:y=h1.size:=hy;omega))).less Pro.sub) ((k018.tr k20).own u21 s1)⟩
theorem Md{x:Hs}{h:ad}{K:Int×Int×Int→ad→Prop}(hk:∀h',Upd No h h'→K (x.k0,x.k1,x.mask) h'):HC PG yi [.agg #[.int .u64 x.k0,.int .u64 x.k1,.int .u64 x.mask]] [.agg [.int .u64,.int .u64,.int .u64]] K h:=by
 refine K5 (x.k0,x.k1,x.mask) ?_;unfold DT ar hJ uJ eB Qd Qf;refine aQ fun h1 b1 k1=>aQ fun h2 b2 k2=>?_
 have c1:=k2.get0 b1;refine⟨_,xO c1 0 0,_,xO c1 0 1,_,vc c1 2,?_⟩;refine eL (c:= [.int .u64 0,.int .u64 0,.int .u64 0]) (vs:= [.int .u64 x.k0,.int .u64 x.k1,.int .u64 x.mask]) b2 rfl fun h3 b3 hu3=>?_
 exact⟨_,vc b3 0,_,vc b3 1,_,vc b3 2,hk h3 ((k1.tr k2).own hu3 k1.size)⟩
theorem HA{W:Nat→Prop}{h:ad}{s:SliceV}{l:List Pr}(hs:Sl dD 2 W h s l)(hn:l.length≤100000){K:SliceV→ad→Prop}(hk:∀s' h',Sl dD 2 No h' s' l→Upd No h h'→K s' h'):HC PG tD [.slice s.a s.len s.cap] [.c .slice] K h:=by
 refine GC s ?_;unfold zq cn nv jm aL aF im;have hlen:=hs.len;refine LoopP.ghost (fun(i:Nat) (t:SliceV×Int) h'=>t.2=(i:Int)∧i≤l.length∧OwnS dD 2 bG (fun y=>h.size≤y) h' t.1 (l.take i)∧Upd No h h') (fun i=>l.length-i) 0 ⟨rfl,aK _,OwnS.nil fq,Upd.refl _ _⟩ ?_
 rintro I i ⟨so,ti⟩ h3 ⟨e,hi,ho,hu⟩ hI;simp only at e ho;subst e;refine av (fun hlt=>?_) fun hge=>?_
 ·have hlt:i<l.length:=by simp only at hlt;omega
  obtain⟨a,ha,_,hv⟩:=(hs.upd hu fun _ h=>h.elim).at (ae hlt)
  refine Join.intro (fun t h'=>OwnS dD 2 bG (fun y=>h.size≤y) h' t (l.take (i+1))∧Upd No h h') (fun R hR=>⟨⟨by simp only;omega,by simp only;omega⟩,a,ha,l[i].1,hv 0 _ rfl,l[i].2,hv 1 _ rfl,?_⟩) ?_
  ·refine vy (p:=l[i]) fun h9 b9 k9=>⟨_,vc b9 0,_,vc b9 1,bM ?_⟩
   have hz:=(hu.tr k9).size;refine pM (p:=l[i]) (ho.upd k9 fun _ _ h=>h) (fun b hb=>by omega) (by rw[List.length_take];omega) fun s' h'' ho' hu'=>hR _ _ ⟨?_,(hu.tr k9).trans hu' fun b hb=>.inr hb⟩
   rw[List.take_succ_eq_append_getElem hlt];exact ho'
  ·rintro s' h' ⟨ho',hu'⟩
   simp only;rw[iG hlt (by omega)];exact hI (i+1) _ _ ⟨rfl,hlt,ho',hu'⟩ (by omega)
 ·have hil:i=l.length:=by simp only at hge;omega
  subst hil;rw[List.take_length]at ho;exact hk _ _ (ho.sl fun _ _ _ h=>h) hu
theorem LK{h:ad}{K:Int→ad→Prop}(hk:∀h',Upd No h h'→K 0 h'):HC PG ie [GV uo] [.c (.int .i64)] K h:=by
 refine oN uo ?_;unfold l9 bW bD qV bV;refine aQ fun h1 b1 k1=>⟨_,vc b1 0,aj.2 ⟨_,vc b1 4,?_⟩⟩
 refine tK _ ?_;unfold qB bR cn bV;refine qm _ ?_;unfold m5 bU;refine aB.2 ?_;refine rj _ ?_;unfold nI bU;refine aB.2 ?_;refine LoopP.ghost (fun(_:Unit) (t:Int×Int) h'=>t=(0,0)∧h'=h1) (fun _=>0) () ⟨rfl,rfl⟩ ?_
 rintro I _ t h3 ⟨rfl,e⟩ hI;rw[e];refine av (fun hlt=>absurd hlt (by simp only;omega)) fun _=>hk h1 k1
end Go.Proofs
namespace Go.Proofs
open Go Go.Lift
theorem Co{W0:Nat→Prop}{x:Hs}{h:ad}{s:SliceV}{l:List Pr}{kind:Int}(hs:Sl dD 2 W0 h s l)(hn:l.length≤100000){K:Tr×Int→ad→Prop}
  (hk:∀h' t (er:Int),(kind≠0→kind≠1→er=11)→((kind=0∨kind=1)→er=nH l)→(er≠0→t=uo)→(er=0→TreeIs No h' kind x t (lG l))→Upd No h h'→K (t,er) h'):
  HC PG gG [.int .i64 kind,.agg #[.int .u64 x.k0,.int .u64 x.k1,.int .u64 x.mask],.slice s.a s.len s.cap] [.agg [.int .i64,.int .u64,.int .u64,.int .u64,.ptr,.ptr],.c (.int .i64)] K h:=
 uN (W:=No) hs (fun _ h=>h.elim) hn (fun n0 n1 h' k=>hk h' uo 11 (fun _ _=>rfl) (fun h=>absurd h fun h=>h.elim n0 n1) (fun _=>rfl) (fun h=>absurd h (by decide)) k) (fun hkd h0 h' k=>hk h' uo _ (fun n0 n1=>absurd hkd fun h=>h.elim n0 n1) (fun _=>rfl) (fun _=>rfl) (fun h=>absurd h h0) k) fun hkd h0 h' t i k=>hk h' t 0 (fun n0 n1=>absurd hkd fun h=>h.elim n0 n1) (fun _=>h0.symm) (fun h=>absurd rfl h) (fun _=>i) k
theorem Fy{W0:Nat→Prop}{x:Hs}{h:ad}{s:SliceV}{l:List Pr}{kind er:Int}(hs:Sl dD 2 W0 h s l)(hn:l.length≤100000)(hB:∀p∈l,p.1.size≤1000000)(h1:kind≠0→kind≠1→er=11)(h2:(kind=0∨kind=1)→er=nH l){K:Rt×Int→ad→Prop}
  (hk:∀h' r,(er=0→RefIs No h' kind x r (lG l))→Upd No h h'→K (r,er) h'):
  HC PG rN [.int .i64 kind,.agg #[.int .u64 x.k0,.int .u64 x.k1,.int .u64 x.mask],.slice s.a s.len s.cap] [.agg [.int .i64,.int .u64,.int .u64,.int .u64,.slice],.c (.int .i64)] K h:=by
 refine Ht hs hn hB (fun n0 n1 h' k=>?_) (fun hkd h0 h' k=>?_) fun hkd h0 h' r j k=>?_
 ·have e:=h1 n0 n1
  subst e;exact hk h' Fm (fun h=>absurd h (by decide)) k
 ·have e:=h2 hkd
  subst e;exact hk h' Fm (fun h=>absurd h h0) k
 ·have e:=(h2 hkd).trans h0
  subst e;exact hk h' r (fun _=>j) k
theorem LH{x:Hs}{h:ad}{kind:Int}{K:Tr×Int→ad→Prop}(hk:∀h' t e,((kind=0∨kind=1)→TreeIs No h' kind x t [])→Upd No h h'→K (t,e) h'):HC PG nA [.int .i64 kind,.agg #[.int .u64 x.k0,.int .u64 x.k1,.int .u64 x.mask]] [.agg [.int .i64,.int .u64,.int .u64,.int .u64,.ptr,.ptr],.c (.int .i64)] K h:=by
 by_cases hkd:kind=0∨kind=1
 ·exact zL (W:=No) (x:=x) (fun _ h=>h.elim) hkd fun h' t i k=>hk h' t 0 (fun _=>i) k
 ·exact Ao (fun e=>hkd (.inl e)) (fun e=>hkd (.inr e)) fun h' k=>hk h' uo 11 (fun h=>absurd h hkd) k
theorem Cr{W0:Nat→Prop}{h:ad}{s:SliceV}{l:List Pr}{t:Tr}(hs:Sl dD 2 W0 h s l)(hn:l.length≤100000){K:Tr×Int→ad→Prop}
  (hk:∀h' v (g:Int),((t.1=0∨t.1=1)→g=nH l∧(g=0→TreeIs No h' t.1 ⟨t.2.1,t.2.2.1,t.2.2.2.1⟩ v (lG l)))→Upd No h h'→K (v,g) h'):
  HC PG pj [GV t,.slice s.a s.len s.cap] [.agg [.int .i64,.int .u64,.int .u64,.int .u64,.ptr,.ptr],.c (.int .i64)] K h:=
 ED hs hn (fun n0 n1 h' k=>hk h' uo 11 (fun h=>absurd h fun h=>h.elim n0 n1) k) (fun _ h0 h' k=>hk h' uo _ (fun _=>⟨rfl,fun h=>absurd h h0⟩) k) fun _ h0 h' v i k=>hk h' v 0 (fun _=>⟨h0.symm,fun _=>i⟩) k
set_option maxRecDepth 100000 in
set_option maxHeartbeats 4000000 in
theorem Cn{h:ad}{kind at' kx vx:Int}{x:Hs}{s:SliceV}{l:List Pr}(tb:Tab h)(hs:Sl dD 2 No h s l)(hl:l.length≤9223372036854775807)(hx:0≤kx∧kx≤65535)(hv:0≤vx∧vx≤65535):
  HC PG rg [.int .i64 kind,.agg #[.int .u64 x.k0,.int .u64 x.k1,.int .u64 x.mask],.slice s.a s.len s.cap,.int .u8 at',.int .u16 kx,.int .u16 vx] [.c .bool] (fun b h'=>b=true∧Upd No h h') h:=by
 refine yA kind (x.k0,x.k1,x.mask) s at' kx vx ?_;unfold rs bW ar bD jq nv uJ Qk un zH qV FE M7 PC B5 vg3 GO jm rI FT FS bV;refine aQ fun h1 b1 k1=>Ie fun h3 k3=>aj.2 ?_
 have k03:=k1.tr k3;refine Kw (hs.upd k03 fun _ h=>h.elim) hl hx hv fun e h5 L hL hsz ho5 k5=>?_
 have k05:=k03.tr k5;have S5:Sl dD 2 No h5 e L:=ho5.sl fun _ _ _ h=>h
 have hLn:L.length≤100000:=by omega
 have hLB:∀p∈L,p.1.size≤1000000:=fun p hp=>by have:=hsz p hp;omega
 refine Join.intro (fun t h'=>Sl dD 2 No h' t L∧Upd No h5 h') (fun R hR=>bM ?_) ?_
 ·have k9:=Upd.hnew No h5 [] al
  have S9:=S5.upd k9 fun _ h=>h.elim
  refine⟨_,S9.srow,?_⟩;refine AppP.own (f:=dD) (M:=fun b=>h5.size≤b) (xs:= []) (ys:=L) ⟨rfl,fq,ag _,.inl rfl⟩ S5.len rfl (rF L) rfl (by omega) (by simp only[List.length_nil];omega) (by rw[f9];omega) fun s' h' ho hu=>?_
  exact hR _ _ ⟨ho.sl fun _ _ _ h=>h,k9.trans hu fun b hb=>.inr hb⟩
 rintro mine h12 ⟨Sm,k12⟩;have k012:=k05.tr k12;have c12:=(k5.tr k12).get0 (k3.get0 b1);have Se:=S5.upd k12 fun _ h=>h.elim
 have hrS:=qZ L;have hlS:=zN L;have hfS:nH L=0→Fit (lG L):=fun h0 p hp=>by have:=vL h0 p (I9 hp);omega
 refine⟨_,vc c12 0,_,vc c12 1,_,vc c12 2,?_⟩;refine Co (x:=x) Sm hLn fun h17 t er her1 her2 hz hi k17=>?_
 refine sS (t:=t) fun h19 b19 k19=>?_
 have c19:=(k17.tr k19).get0 c12;refine⟨_,vc c19 0,_,vc c19 1,_,vc c19 2,?_⟩;refine Md fun h24 k24=>?_
 have u24:=(k17.tr k19).tr k24;refine HA (Se.upd u24 fun _ h=>h.elim) hLn fun s26 h26 S26 k26=>?_
 refine Fy (x:=x) (er:=er) S26 hLn hLB her1 her2 fun h28 r hj k28=>?_
 refine Mf (r:=r) fun h30 b30 k30=>?_
 have u30:=k26.tr (k28.tr k30);have v30:=(k24.tr u30);refine Join.intro (fun t h'=>t=false∧Upd No h30 h') (fun R hR=>?_) ?_
 ·rw[show(er !=er)=false by simp]
  refine aj.2 ?_;refine FG (Se.upd (u24.tr u30) fun _ h=>h.elim) (Sm.upd (u24.tr u30) fun _ h=>h.elim) (by omega) ?_
  exact hR _ _ ⟨rfl,Upd.refl _ _⟩
 rintro _ h35 ⟨rfl,k35⟩;have u35:=u30.tr k35;have c35:=(u24.tr u35).get0 c12;refine aj.2 ⟨_,vc c35 0,_,vc c35 1,_,vc c35 2,?_⟩;have S35:=Sm.upd (u24.tr u35) fun _ h=>h.elim
 refine LH (x:=x) fun h40 u e0 hu1 k40=>?_
 refine sS (t:=u) fun h42 b42 k42=>⟨_,vc b42 0,_,vc b42 1,_,vc b42 2,_,vc b42 3,_,vc b42 4,_,vc b42 5,?_⟩
 have u42:=k40.tr k42;refine Cr (t:=u) (S35.upd u42 fun _ h=>h.elim) hLn fun h50 v g hgv k50=>?_
 have hgk:(kind=0∨kind=1)→g=nH L∧(g=0→TreeIs No h50 kind x v (lG L)):=fun hkd=>by
  rcases hu1 hkd with⟨rfl,b,rfl,_⟩|⟨rfl,b,rfl,_⟩
  ·exact hgv (.inl rfl)
  ·obtain⟨e1,e2⟩:=hgv (.inr rfl)
   refine⟨e1,fun h=>?_⟩
   rcases e2 h with⟨e,_⟩|j
   ·exact absurd (show(1:Int)=0 from e) (by decide)
   ·exact .inr j
 have hg:er=11∨g=er:=by
  by_cases hkd:kind=0∨kind=1
  ·exact .inr ((hgk hkd).1.trans (her2 hkd).symm)
  ·exact .inl (her1 (fun e=>hkd (.inl e)) fun e=>hkd (.inr e))
 refine sS (t:=v) fun h52 b52 k52=>?_
 have w52:=k50.tr k52;have v52:Upd No h19 h52:=(v30.tr (k35.tr u42)).tr w52;have t52:=v52.get0 b19;have r52:=((k35.tr u42).tr w52).get0 b30;have fin:Upd No h h52:=(k012.tr (k17.tr k19)).tr v52;by_cases e0':er=0
 ·have hkd:kind=0∨kind=1:=by
   by_cases h:kind=0∨kind=1
   ·exact h
   ·have:=her1 (fun e=>h (.inl e)) fun e=>h (.inr e)
    rw[e0']at this;exact absurd this (by decide)
  have h0:nH L=0:=(her2 hkd).symm.trans e0';have i52:=(hi e0').upd0 (k19.tr v52);have j52:=(hj e0').upd0 ((k30.tr (k35.tr u42)).tr w52);have g0:g=0:=(hgk hkd).1.trans h0;have v52':=((hgk hkd).2 g0).upd0 k52;have hf:=hfS h0;subst g0;rw[e0'];refine aj.2 (aB.2 ⟨_,vc t52 0,_,vc t52 1,_,vc t52 2,_,vc t52 3,_,vc t52 4,_,vc t52 5,_,vc b52 0,_,vc b52 1,_,vc b52 2,_,vc b52 3,_,vc b52 4,_,vc b52 5,?_⟩)
  refine LG i52 v52' hrS hf (by omega) hrS hf (by omega) fun h74 k74=>?_
  rw[Kp i52 v52',decide_eq_true rfl];have t74:=k74.get0 t52;have r74:=k74.get0 r52;refine aB.2 ⟨_,vc t74 0,_,vc t74 1,_,vc t74 2,_,vc t74 3,_,vc t74 4,_,vc t74 5,_,vc r74 0,_,vc r74 1,_,vc r74 2,_,vc r74 3,r.2.2.2.2,vc r74 4,?_⟩;refine xV (i52.upd0 k74) hrS hf (by omega) fun s3 h87 xs hv3 ho3 k87=>?_
  have r87:=k87.get0 r74;refine⟨⟨vc r87 0,vc r87 1,vc r87 2,vc r87 3,vc r87 4⟩,?_⟩;refine Ki hkd (j52.upd0 (k74.tr k87)) hrS hf (by omega) fun s4 h89 ys ho4 hv4 k89=>?_
  have exy:xs=ys:=(Ff (fun _=>rfl) hv3 hv4 hf hf (by omega) (by omega) hrS hrS).2 rfl
  subst exy;have hlx:=JT hv3 hf (by omega);refine Kj ((ho3.upd k89 fun _ _ h=>h).sl (W:=No) fun _ _ _ h=>h) (ho4.sl (W:=No) fun _ _ _ h=>h) (by omega) ?_
  have q89:=(k74.tr k87).tr k89;have t89:=q89.get0 t52;refine aB.2 ⟨_,vc t89 0,_,vc t89 1,_,vc t89 2,_,vc t89 3,_,vc t89 4,_,vc t89 5,?_⟩;refine JV (i52.upd0 q89) (tb.upd (fin.tr q89) id) hrS (by omega) fun h99 k99=>?_
  have q99:=q89.tr k99;have t99:=q99.get0 t52;have r99:=q99.get0 r52;refine aB.2 ⟨_,vc t99 0,_,vc t99 1,_,vc t99 2,_,vc t99 3,_,vc t99 4,_,vc t99 5,r.2.2.2.2,vc r99 4,?_⟩;refine Nw (i52.upd0 q99) hrS (by omega) fun h108 k108=>?_
  refine⟨vc (k108.get0 r99) 4,?_,(fin.tr q99).tr k108⟩;obtain⟨s',rfl,hs',_⟩:=j52;simp only;rw[hs'.len];simp;rfl
 ·have ht:=hz e0'
  subst ht;rw[show(er !=0)=true by simpa using e0']
  refine aB.2 ⟨_,vc t52 0,_,vc t52 1,_,vc t52 2,_,vc t52 3,_,vc t52 4,_,vc t52 5,?_⟩;refine LK fun h60 k60=>aB.2 ?_
  refine CondP.intro (fun _=>⟨rfl,fin.tr k60⟩) fun ne=>⟨?_,fin.tr k60⟩
  have ne:er≠11:=by simpa using ne
  rw[hg.resolve_left ne];simp;rfl
end Go.Proofs
