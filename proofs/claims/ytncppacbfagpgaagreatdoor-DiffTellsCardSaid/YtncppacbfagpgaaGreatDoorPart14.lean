/- A part of the proof that the named laws of this program answer true, whatever the input. -/
import Derived.Test.YtncppacbfagpgaaGreatDoorPart13
import Derived.Test.YtncppacbfagpgaaGreatDoorPart7
import Derived.Test.YtncppacbfagpgaaGreatDoorPart12
open List renaming length_append→ac,append_assoc→ar,flatMap_append→bR,getElem_mem→bw,length_cons→al
open Nat renaming le_refl→aj,add_assoc→mz,zero_add→aQ,le_trans→bh,mul_le_mul_right→cB,lt_or_ge→bZ,zero_le→aS
open Option renaming some→bQ
namespace Go.Proofs
open Go Go.Lift
theorem Yw{c:Nat}:IntKind.wrap .u32 (((2^c%4294967296:Nat):Int)*2)=((2^(c+1)%4294967296:Nat):Int):=by
 rw[IntKind.wrap_u32,Nat.pow_succ];omega
theorem aaK{q:List Pr}:(To q==(1:Int))=(kz q).isSome:=by
 match q with
 | []=>rfl
 | [a]=>rfl
 |a::b::q=>rw[show To (a::b::q)=2 by unfold To;rw[if_neg (by simp),if_pos (by simp)]];rfl
theorem aaJ{q:List Pr}:(To q==(2:Int))=(fY q).isSome:=by
 match q with
 | []=>rfl
 | [a]=>rfl
 |a::b::q=>rw[show To (a::b::q)=2 by unfold To;rw[if_neg (by simp),if_pos (by simp)]];rw[show fY (a::b::q)=some (a::b::q) by unfold fY;rw[if_pos (by simp)]];rfl
def TwoB(n0 a:Nat)(h:ad)(so c:SliceV)(L:List Pr)(B:List UInt8):Prop:=
 ∃M N:Nat→Prop,OwnS eu 2 cj M h so L∧OwnS rO 1 cP N h c B∧(∀b,M b→n0≤b∧b<a∧¬N b)∧∀b,N b→n0≤b∧b<a
theorem TwoB.upd0{n0 a:Nat}{h h':ad}{so b:SliceV}{L:List Pr}{B:List UInt8}(t:TwoB n0 a h so b L B)(k:Upd No h h'):TwoB n0 a h' so b L B:=by
 obtain⟨M,N,c,h2,e,d⟩:=t;exact⟨M,N,c.upd k fun _ _ h=>h,h2.upd k fun _ _ h=>h,e,d⟩
theorem TwoB.up{n0 f e:Nat}{h:ad}{so g:SliceV}{L:List Pr}{B:List UInt8}(t:TwoB n0 f h so g L B)(j:f≤e):TwoB n0 e h so g L B:=by
 obtain⟨M,N,i,h2,c,d⟩:=t;exact⟨M,N,i,h2,fun b a=>⟨(c b a).1,by have:=(c b a).2.1;omega,(c b a).2.2⟩,fun b a=>⟨(d b a).1,by have:=(d b a).2;omega⟩⟩
theorem TwoB.appP{n0 f:Nat}{h:ad}{so i:SliceV}{L:List Pr}{B:List UInt8}{p:Pr}(t:TwoB n0 f h so i L B)(q:n0≤f)(k:f≤h.size)(o:L.length≤1000000){xs:List Value}(hx:xs=eu p){K:SliceV→ad→Prop}
  (n:∀s' h',TwoB n0 h'.size h' s' i (L++ [p]) B→Upd (fun b=>n0≤b) h h'→K s' h'):AppP (some [.string (⟨#[]⟩:ByteArray),.string (⟨#[]⟩:ByteArray)]) 2 32 cj so.a so.len so.cap 1 xs h K:=by
 subst hx;obtain⟨M,N,j,h2,d,c⟩:=t;refine AppP.own (ys:= [p]) (j.more (M':=fun b=>M b∨h.size≤b) fun _ h=>.inl h) rfl rfl rfl rfl (by omega) (by simp only[List.length_singleton];omega) (.inr (aj _)) fun s' h' m e=>?_
 have s:=e.size;refine n s' h' ⟨_,N,m.within,h2.upd e fun b a hm=>hm.elim (fun hm=>(d b hm).2.2 a) fun hm=>by have:=(c b a).2;omega,fun b a=>⟨?_,a.2,fun g=>?_⟩,fun b a=>⟨(c b a).1,by have:=(c b a).2;omega⟩⟩ (e.mono fun b a=>a.elim (fun a=>.inl (d b a).1) .inr)
 ·rcases a.1 with a|a
  ·exact(d b a).1
  ·omega
 ·rcases a.1 with a|a
  ·exact(d b a).2.2 g
  ·have:=(c b g).2;omega
theorem TwoB.appB{W:Nat→Prop}{n0 i:Nat}{h:ad}{so f e:SliceV}{L:List Pr}{B ys:List UInt8}(t:TwoB n0 i h so f L B)(u:n0≤i)(m:i≤h.size)(o:Sl rO 1 W h e ys)(q:B.length+ys.length≤140737488355328){K:SliceV→ad→Prop}
  (p:∀s' h',TwoB n0 h'.size h' so s' L (B++ys)→Upd (fun b=>n0≤b) h h'→K s' h'):∃xs,SRow h e.a (e.len*1) xs∧AppP (some [.int .u8 0]) 1 1 cP f.a f.len f.cap e.len xs h K:=by
 obtain⟨M,N,k,h2,c,j⟩:=t;refine Bi (M:=fun b=>N b∨h.size≤b) (h2.more fun _ h=>.inl h) o (fun _ h=>.inr h) q fun s' h' n g=>?_
 have s:=g.size;refine p s' h' ⟨M,_,k.upd g fun b a hm=>hm.elim (fun hm=>(c b a).2.2 hm) fun hm=>by have:=(c b a).2.1;omega,n.within,fun b a=>⟨(c b a).1,by have:=(c b a).2.1;omega,fun d=>?_⟩,fun b a=>⟨?_,a.2⟩⟩ (g.mono fun b a=>a.elim (fun a=>.inl (j b a).1) .inr)
 ·rcases d.1 with d|d
  ·exact(c b a).2.2 d
  ·have:=(c b a).2.1;omega
 ·rcases a.1 with a|a
  ·exact(j b a).1
  ·omega
theorem Gf{β:Type}(g:Nat→Option β):∀n,(fm g n).length≤n
 |0=>by simp[fm]
 |n+1=>by
  rw[jP,ac];have:=Gf g n;cases g n<;>simp<;>omega
theorem abZ{β:Type}(g:Nat→Option β){n m:Nat}(h:n≤m):∃r,fm g m=fm g n++r:=by
 obtain⟨j,rfl⟩:∃j,m=n+j:=⟨m-n,by omega⟩
 clear h;induction j with
 |zero=>exact⟨[],by simp⟩
 |succ j ih=>obtain⟨r,a⟩:=ih;exact⟨r++(g (n+j)).toList,by rw[←mz,jP,a,ar]⟩
set_option maxRecDepth 4000 in
theorem aar{x:Hs}:∀(m:Nat),m≤13→∀{h:ad} {b:Nat} {l:List Pr},DTrie No x h m b l→Fit l→l.length≤60000→∀{K:SliceV→ad→Prop},(∀s' h',OwnS rO 1 cP (fun y=>h.size≤y) h' s' (gt x m l)→Upd No h h'→K s' h')→
  HC PG ED [.pointer (some ⟨b,0,none⟩),.int .i64 ((13-m:Nat):Int)] [.c .slice] K h:=by
 intro m;induction m with
 |zero=>
  intro _ h b l t hf hn K hk;refine Rz (some ⟨b,0,none⟩) ((13-0:Nat):Int) ?_;unfold KW bE bX ay lN is vu bK bV;obtain⟨_,⟨sa,sn,sc⟩,U,hs⟩:=t;obtain rfl:sn=l.length:=hs.len;have g:∀{h':ad} {i:Nat},Upd No h h'→i<130→aO h' (adr ⟨b,0,none⟩ i)=some (dF true ⟨sa,l.length,sc⟩ (fun _=> []) (fun _=>none) i):=fun k hi=>by rw[cp,bF (k.get0 U),aQ,Kd hi]
  have r0:=Upd.refl No h;have e1:gt x 0 l= [1]++pm l.length 2++mL l:=by unfold gt;simp
  have hpl:=pj hf;rw[e1]at hk;refine⟨_,rfl,true,g (i:=0) r0 (by omega),au.2 ⟨_,rfl,⟨sa,l.length,sc⟩,g (i:=1) r0 (by omega),_,rfl,⟨sa,l.length,sc⟩,g (i:=1) r0 (by omega),?_,?_⟩⟩
  ·refine aW fun h1 b1 k1=>⟨g (i:=1) k1 (by omega),g (i:=1) k1 (by omega),?_⟩
   have o1:=BU (b:=1) b1;refine Ig (n:=l.length) (by omega) fun s2 h2 A e=>⟨g (i:=1) (k1.tr e) (by omega),g (i:=1) (k1.tr e) (by omega),?_⟩
   have s1:=k1.size;have s2':=e.size;refine Bi (o1.upd e fun _ _ h=>h) (A.sl (W:=No) fun _ _ _ h=>h) (fun y d=>by show h.size≤y;omega) (by rw[dS];simp) fun s3 u v P=>?_
   have s:Upd No h u:=(k1.tr e).trans P fun y d=>.inr d
   refine⟨g (i:=1) s (by omega),g (i:=1) s (by omega),?_⟩;refine F3 (hs.upd s fun _ h=>h.elim) hf hn fun s4 h4 o f=>⟨g (i:=1) (s.tr f) (by omega),?_⟩
   have s3':=s.size;have F:=f.size;refine Bi (v.upd f fun _ _ h=>h) (o.sl (W:=No) fun _ _ _ h=>h) (fun y d=>by show h.size≤y;omega) (by rw[ac,dS];simp;omega) fun s5 J z Q=>?_
   have T:Upd No h J:=(s.tr f).trans Q fun y d=>.inr d
   exact⟨g (i:=1) T (by omega),hk s5 J z T⟩
  ·refine Ig (n:=l.length) (by omega) fun s2 h2 A e=>⟨g (i:=1) e (by omega),g (i:=1) e (by omega),?_⟩
   refine aW fun h1 b1 k1=>⟨g (i:=1) (e.tr k1) (by omega),g (i:=1) (e.tr k1) (by omega),?_⟩
   have o1:=BU (b:=1) b1;have s1:=k1.size;have s2':=e.size;refine Bi (M:=fun y=>h.size≤y) (o1.more fun y d=>by show h.size≤y;omega) ((A.upd k1 fun _ _ h=>h).sl (W:=No) fun _ _ _ h=>h) (fun y d=>by show h.size≤y;omega) (by rw[dS];simp) fun s3 u v P=>?_
   have s:Upd No h u:=(e.tr k1).trans P fun y d=>.inr d
   refine⟨g (i:=1) s (by omega),g (i:=1) s (by omega),?_⟩;refine F3 (hs.upd s fun _ h=>h.elim) hf hn fun s4 h4 o f=>⟨g (i:=1) (s.tr f) (by omega),?_⟩
   have s3':=s.size;have F:=f.size;refine Bi (v.upd f fun _ _ h=>h) (o.sl (W:=No) fun _ _ _ h=>h) (fun y d=>by show h.size≤y;omega) (by rw[ac,dS];simp;omega) fun s5 J z Q=>?_
   have T:Upd No h J:=(s.tr f).trans Q fun y d=>.inr d
   exact⟨g (i:=1) T (by omega),hk s5 J z T⟩
 |succ m ih=>
  intro hm h b l t hf hn K hk;refine Rz (some ⟨b,0,none⟩) ((13-(m+1):Nat):Int) ?_;unfold KW bE bX ay lN is vu bK bV;obtain⟨_,kk,U,hkid⟩:=t;have elev:(13-(m+1):Nat)=12-m:=by omega
  rw[elev];obtain⟨q,hq⟩:∃q:Nat→List Pr,q=fun c=>part x (12-m) c l:=⟨_,rfl⟩
  have G:∀c,part x (12-m) c l=q c:=fun c=>by rw[hq]
  rw[←hq]at U;have g:∀{h':ad} {i j:Nat},Upd No h h'→i+j<130→aO h' (adr (adr ⟨b,0,none⟩ i) j)=some (dF false ⟨none,0,0⟩ q kk (i+j)):=fun k hi=>by rw[cp,cp,bF (k.get0 U),aQ,Kd hi]
  have g0:aO h (adr ⟨b,0,none⟩ 0)=some (dF false ⟨none,0,0⟩ q kk 0):=by rw[cp,bF U,Kd (by omega)]
  refine⟨_,rfl,false,g0,ag.2 ?_⟩;have hML:∀L∈mA x (12-m) l,2≤L.length∧(gt x m L).length≤9+L.length*(20004+9*(m+1)):=fun L hL=>by
   obtain⟨u,c,rfl⟩:=rM hL;exact⟨u,rg m hf.part⟩
  have htot:((mA x (12-m) l).flatMap (gt x m)).length≤60000*(20004+9*(m+1)+9):=by
   have h1:=Ic hML;have h2:=yr x (12-m) l;exact bh h1 (cB _ (by omega))
  have hm20:20004+9*(m+1)+9≤20200:=by omega
  have V:((mA x (12-m) l).flatMap (gt x m)).length≤60000*20200:=bh htot (Nat.mul_le_mul_left _ hm20);have H:∀c,c≤32→((fm (fun j=>fY (q j)) c).flatMap (gt x m)).length≤60000*20200:=fun c hc=>by
   obtain⟨r,hr⟩:=abZ (fun j=>fY (q j)) hc
   have:((fm (fun j=>fY (q j)) 32).flatMap (gt x m)).length≤60000*20200:=by rw[hq];exact V
   rw[hr,bR,ac]at this;omega
  refine LoopP.ghost (fun(c:Nat) (t:Int×Int×SliceV×SliceV×Int×Int) h'=>t.1=((lB (fun j=>(kz (q j)).isSome) c:Nat):Int)∧t.2.1=((lB (fun j=>(fY (q j)).isSome) c:Nat):Int)∧t.2.2.2.2.1=((2^c%4294967296:Nat):Int)∧t.2.2.2.2.2=(c:Int)∧c≤32∧
   TwoB h.size h'.size h' t.2.2.1 t.2.2.2.1 (fm (fun j=>kz (q j)) c) ((fm (fun j=>fY (q j)) c).flatMap (gt x m))∧Upd No h h') (fun c=>32-c) 0 ⟨rfl,rfl,rfl,rfl,by omega,⟨No,No,OwnS.nil gu,OwnS.nil wJ,fun _ h=>h.elim,fun _ h=>h.elim⟩,Upd.refl _ _⟩ ?_
  rintro I c ⟨dt,nt,sl,sk,bt,ct⟩ h' ⟨e1,e2,e3,e4,hc32,hT,Z⟩ hI;simp only at e1 e2 e3 e4 hT;subst e1 e2 e3 e4;have s0:=Z.size;have wide:∀{h1 h2:ad},Upd No h h1→Upd (fun b=>h.size≤b) h1 h2→Upd No h h2:=fun a k=>a.trans k fun y d=>.inr d
  refine ax (fun w=>?_) fun hge=>?_
  ·have w:c<32:=by have:(c:Int)<32:=w;omega
   have ec:(c:Int).toNat*1=c:=by omega
   have ec2:(c:Int).toNat*2=c*2:=by omega
   have hbd:=pw (fun j=>(kz (q j)).isSome) c
   have hbn:=pw (fun j=>(fY (q j)).isSome) c
   have hpw:2^c≤2^31:=Nat.pow_le_pow_right (by omega) (by omega);have O:2^c%4294967296=2^c:=Nat.mod_eq_of_lt (by omega);have vis:dF false ⟨none,0,0⟩ q kk (2+c)=.int .i64 (To (q c)):=by rw[VA (by omega) (by omega),show 2+c-2=c by omega]
   refine Join.intro (fun(t:Int×SliceV) h2=>t.1=((lB (fun j=>(kz (q j)).isSome) (c+1):Nat):Int)∧TwoB h.size h2.size h2 t.2 sk (fm (fun j=>kz (q j)) (c+1)) ((fm (fun j=>fY (q j)) c).flatMap (gt x m))∧Upd No h h2) (fun R hR=>?_) ?_
   ·refine⟨_,rfl,⟨by simp only;omega,by simp only;omega⟩,To (q c),?_,?_⟩
    ·simp only[ec];rw[g Z (by omega),vis]
    rw[aaK];have E:lB (fun j=>(kz (q j)).isSome) (c+1)=lB (fun j=>(kz (q j)).isSome) c+(if(kz (q c)).isSome then 2^c else 0):=rfl
    cases hso:kz (q c)with
    |none=>
     rw[hso]at E;refine ag.2 (hR _ _ ⟨by rw[E];rfl,?_,Z⟩);rw[jP,hso];simpa using hT
    |some p=>
     rw[hso]at E;have ep:Gd (kz (q c))=p:=by rw[hso];rfl
     refine au.2 ⟨_,rfl,⟨by simp only;omega,by simp only;omega⟩,p.1,?_,p.2,?_,aW fun h2 b2 e=>⟨_,nf b2,?_⟩⟩
     ·simp only[ec2];rw[cp,cp,cp,bF (Z.get0 U),aQ,Kd (by omega),Rb (by omega) (by omega) (by omega),show(34+c*2+0-34)/2=c by omega,ep]
     ·simp only[ec2];rw[cp,cp,cp,bF (Z.get0 U),aQ,Kd (by omega),Q9 (by omega) (by omega) (by omega),show(34+c*2+1-34)/2=c by omega,ep]
     ·have s2:=e.size
      have hl:=Gf (fun j=>kz (q j)) c
      refine(hT.upd0 e).appP (p:=p) s0 s2 (by omega) rfl fun s3 u C P=>hR _ _ ⟨?_,?_,wide (Z.tr e) P⟩
      ·rw[E,O]
       simp only[Option.isSome_some,if_true];rw[IntKind.wrap_u32];omega
      ·rw[jP,hso];exact C
   rintro⟨dt,sl2⟩ h2 ⟨rfl,X,u2⟩;simp only at X⊢;have s2:=u2.size;refine Join.intro (fun(t:Int×SliceV) u=>t.1=((lB (fun j=>(fY (q j)).isSome) (c+1):Nat):Int)∧TwoB h.size u.size u sl2 t.2 (fm (fun j=>kz (q j)) (c+1)) ((fm (fun j=>fY (q j)) (c+1)).flatMap (gt x m))∧Upd No h u) (fun R hR=>?_) ?_
   ·refine⟨_,rfl,⟨by omega,by omega⟩,To (q c),?_,?_⟩
    ·rw[ec,g u2 (by omega),vis]
    rw[aaJ];have E:lB (fun j=>(fY (q j)).isSome) (c+1)=lB (fun j=>(fY (q j)).isSome) c+(if(fY (q c)).isSome then 2^c else 0):=rfl
    cases hma:fY (q c)with
    |none=>
     rw[hma]at E;refine ag.2 (hR _ _ ⟨by rw[E];rfl,?_,u2⟩);rw[jP (fun j=>fY (q j)),hma];simpa using X
    |some L=>
     rw[hma]at E;have hL2:2≤(q c).length∧L=q c:=by
      unfold fY at hma;by_cases h2:2≤(q c).length
      ·rw[if_pos h2]at hma;exact⟨h2,(bQ.inj hma).symm⟩
      ·rw[if_neg h2]at hma;cases hma
     obtain⟨h2l,rfl⟩:=hL2;refine au.2 (ax (fun _=>?_) fun hx=>absurd (show((12-m:Nat):Int)<13 by omega) hx)
     obtain⟨kb,hkb,td⟩:=hkid c w (by rw[G];exact h2l);rw[G]at td;have hpt:(q c).length≤l.length:=by rw[←G];exact lx
     have hpf:Fit (q c):=by rw[←G];exact hf.part
     have e14:IntKind.wrap .i64 (((12-m:Nat):Int)+1)=((13-m:Nat):Int):=by rw[dI (by omega)];omega
     refine⟨_,rfl,⟨by omega,by omega⟩,some ⟨kb,0,none⟩,?_,?_⟩
     ·rw[ec,g u2 (by omega),Ra (by omega),show 98+c-98=c by omega,hkb]
     rw[e14];refine ih (by omega) (DTrie.upd u2 (fun _ h=>h.elim) td) hpf (by omega) fun s4 h4 o f=>?_
     have F:=f.size;have Y:=H (c+1) (by omega);rw[jP,hma,bR,ac]at Y;simp only[Option.toList_some,List.flatMap_cons,List.flatMap_nil,List.append_nil]at Y;refine(X.upd0 f).appB s2 F (o.sl (W:=No) fun _ _ _ h=>h) (by omega) fun s5 J hT5 Q=>hR _ _ ⟨?_,?_,wide (u2.tr f) Q⟩
     ·rw[E,O]
      simp only[Option.isSome_some,if_true];rw[IntKind.wrap_u32];omega
     ·rw[jP (fun j=>fY (q j)),hma,bR]
      simpa using hT5
   rintro⟨nt,sk2⟩ u ⟨rfl,C,s⟩;simp only at C⊢;rw[db w (by omega),Yw];exact hI (c+1) _ _ ⟨rfl,rfl,rfl,rfl,w,C,s⟩ (by omega)
  ·obtain rfl:c=32:=by have:¬(c:Int)<32:=hge;omega
   have e1:gt x (m+1) l= [0]++pm (lB (fun j=>(kz (q j)).isSome) 32) 4++pm (lB (fun j=>(fY (q j)).isSome) 32) 4++mL (fm (fun j=>kz (q j)) 32)++(fm (fun j=>fY (q j)) 32).flatMap (gt x m):=by
    rw[hq];unfold gt;simp[ix,mA]
   rw[e1]at hk;have hD:=pw (fun j=>(kz (q j)).isSome) 32
   have hN:=pw (fun j=>(fY (q j)).isSome) 32
   have hsf:Fit (fm (fun j=>kz (q j)) 32):=fun p hp=>hf p (tS (x:=x) (lev:=12-m) (by unfold ix;rw[hq]at hp;exact hp))
   have hsl:=Gf (fun j=>kz (q j)) 32
   have hps:=pj hsf;have Y:=H 32 (aj _);obtain⟨M,N,o1,o2,hMb,hNb⟩:=hT;generalize lB (fun j=>(kz (q j)).isSome) 32=D at*
   generalize lB (fun j=>(fY (q j)).isSome) 32=N' at*
   generalize fm (fun j=>kz (q j)) 32=S at*
   generalize (fm (fun j=>fY (q j)) 32).flatMap (gt x m)=B at*
   have hsS:Sl eu 2 No h' sl S:=o1.sl fun _ _ _ h=>h
   have hsB:Sl rO 1 No h' sk B:=o2.sl fun _ _ _ h=>h
   refine Join.plain (aW fun h1 b1 k1=>?_)
   simp only;have ob:=BU (b:=0) b1;refine Qq (by omega) fun s2 h2 A e=>?_
   have s1:=k1.size;have s2':=e.size;refine Bi (M:=fun y=>h'.size≤y) (ob.upd e fun _ _ h=>h) (A.sl (W:=No) fun _ _ _ h=>h) (fun y d=>by show h'.size≤y;omega) (by rw[dS];simp) fun s3 u v P=>?_
   have s3':=P.size;refine Join.plain (Qq (by omega) fun s4 h4 o f=>?_)
   have F:=f.size;refine Bi (M:=fun y=>h'.size≤y) (v.upd f fun _ _ h=>h) (o.sl (W:=No) fun _ _ _ h=>h) (fun y d=>by show h'.size≤y;omega) (by rw[ac,dS,dS];simp) fun s5 J z Q=>?_
   have s5':=Q.size;have T:Upd No h' J:=(((k1.tr e).trans P fun y d=>.inr d).tr f).trans Q fun y d=>.inr d
   refine Join.plain (F3 (hsS.upd T fun _ h=>h.elim) hsf (by omega) fun s6 h6 ho6 k6=>?_)
   have s6':=k6.size;refine Bi (M:=fun y=>h'.size≤y) (z.upd k6 fun _ _ h=>h) (ho6.sl (W:=No) fun _ _ _ h=>h) (fun y d=>by show h'.size≤y;omega) (by rw[ac,ac,dS,dS];simp;omega) fun s7 h7 ho7 k7=>?_
   have u7:Upd No h' h7:=(T.tr k6).trans k7 fun y d=>.inr d
   refine Bi (M:=fun y=>h'.size≤y) ho7 (hsB.upd u7 fun _ h=>h.elim) (fun y d=>by have:=u7.size;show h'.size≤y;omega) (by rw[ac,ac,ac,dS,dS];simp;omega) fun s8 h8 ho8 k8=>?_
   refine hk s8 h8 (ho8.more fun y d=>by show h.size≤y;omega) ((Z.tr u7).trans k8 fun y d=>.inr (by omega))
end Go.Proofs
namespace Go.Proofs
open Go Go.Lift
theorem V5{W:Nat→Prop}{x:Hs}{h:ad}{m:Nat}{s:Slots}{c:Nat}{l:List Pr}(t:SlotIs W x h m s c l)(b:(s.p c).isSome):∃p,l= [p]∧s.p c=some p:=by
 rcases t with⟨_,a,_⟩|⟨p,d,a,_⟩|⟨_,a,_⟩
 ·rw[a]at b;cases b
 ·exact⟨p,d,a⟩
 ·rw[a]at b;cases b
theorem V6{W:Nat→Prop}{x:Hs}{h:ad}{m:Nat}{s:Slots}{c:Nat}{l:List Pr}(t:SlotIs W x h m s c l)(b:(s.k c).isSome):2≤l.length∧∃a,s.k c=some (some ⟨a,0,none⟩)∧TrieAt W x h m a l:=by
 rcases t with⟨_,_,h2⟩|⟨p,_,_,h2⟩|⟨e,_,a,h2,d⟩
 ·rw[h2]at b;cases b
 ·rw[h2]at b;cases b
 ·exact⟨e,a,h2,d⟩
theorem NT{W:Nat→Prop}{h:ad}{s:SliceV}{way:List Nat}{c:Nat}{xs:List Value}(d:Sl abg 1 W h s way)(hc:s.cap=s.len)(f:way.length≤13)(hx:xs= [.int .i64 (c:Int)]){K:SliceV→ad→Prop}
  (e:∀s' h',Sl abg 1 No h' s' (way++ [c])→s'.len≤s'.cap→Upd No h h'→K s' h'):AppP (some [.int .i64 0]) 1 8 lY s.a s.len s.cap 1 xs h K:=by
 subst hx;refine Rn (ys:= [c]) d rfl rfl rfl (by omega) (by omega) (by simp;omega) fun s' h' a b=>e s' h' (a.sl fun _ _ _ h=>h) a.cap b
def OnWay(x:Hs)(way:List Nat)(l:List Pr):Prop:=∀p∈l,∀i c,way[i]? =some c→ck x i p.1=c
theorem OnWay.part{x:Hs}{way:List Nat}{l:List Pr}{c:Nat}(o:OnWay x way l):OnWay x (way++ [c]) (part x way.length c l):=fun p a i d hd=>by
 have a:=nM.1 a;rcases bZ i way.length with h|h
 ·rw[List.getElem?_append_left h]at hd;exact o p a.1 i d hd
 ·rw[List.getElem?_append_right h]at hd
  have:i-way.length=0:=by have:=(List.getElem?_eq_some_iff.1 hd).1;simp at this;omega
  rw[this]at hd;simp only[List.getElem?_cons_zero,bQ.injEq]at hd;subst hd;rw[show i=way.length by omega];exact a.2
theorem Zd{W:Nat→Prop}{x:Hs}:∀(m:Nat),m≤13→∀{h:ad} {b:Nat} {l:List Pr} {sw:SliceV} {way:List Nat},TrieAt W x h m b l→Tab h→Sl abg 1 No h sw way→sw.len≤sw.cap→way.length=13-m→OnWay x way l→bS l→l.length≤60000→∀{K:Int×Bool→ad→Prop},(∀h',Upd No h h'→K ((l.length:Int),true) h')→
  HC PG qA [.agg #[.int .u64 x.k0,.int .u64 x.k1,.int .u64 x.mask],.pointer (some ⟨b,0,none⟩),.slice sw.a sw.len sw.cap] [.c (.int .i64),.c .bool] K h:=by
 intro m;induction m with
 |zero=>
  intro _ h b l sw way t tb hs hcp hw U hr hn K hk;refine Cy (x.k0,x.k1,x.mask) (some ⟨b,0,none⟩) sw ?_;unfold yn bX af nv BK xa ji ay az lN is vu w9 VS;refine aW fun h1 b1 k1=>aW fun h2 b2 k2=>aW fun h3 b3 X=>aW fun h4 b4 L=>aW fun h5 b5 Q=>?_
  have H:Upd No h h5:=(((k1.tr k2).tr X).tr L).tr Q;have c1:=Q.get0 (L.get0 (X.get0 (k2.get0 b1)));have c2:=Q.get0 (L.get0 (X.get0 b2));have c3:=Q.get0 (L.get0 b3);have c4:=Q.get0 b4;have s1:=k1.size;have s2:=k2.size;have s3:=X.size;have s4:=L.size;have z3:=bC b3;have z4:=bC b4;have z5:=bC b5;obtain⟨sp,sk,ow,hb,hsp,_⟩:=(BuckAt.upd t H fun _ h=>h.elim:BuckAt W h5 b l).ex
  refine⟨_,FK c2,r9 hb hsp (by omega) fun s8 E ho8 A=>?_⟩
  refine⟨_,FK (A.get0 c2),gL (A.get0 hb) (au.2 ?_)⟩;have d1:=A.get0 c1;have Y:=A.get0 c3;have d4:=A.get0 c4;have d5:=A.get0 b5;have s8':=A.size;have hs8:Sl eu 2 No E s8 l:=ho8.sl fun _ _ _ h=>h
  have hlen:=hs8.len;have hwl:=hs.len;have hs':Sl abg 1 No E sw way:=(hs.upd H fun _ h=>h.elim).upd A fun _ h=>h.elim
  refine Join.plain ⟨sw,FK Y,?_⟩;rw[show((sw.len:Int) !=(13:Int))=false by rw[bne_eq_false_iff_eq];omega]
  refine ag.2 (WF hs8 hr (by omega) (ag.2 ?_));refine LoopP.ghost (fun(i:Nat) (t:Int) h'=>t=(i:Int)∧i≤l.length∧Upd No E h') (fun i=>l.length-i) 0 ⟨rfl,aS _,Upd.refl _ _⟩ ?_
  rintro I i t h' ⟨rfl,hi,S⟩ hI;refine ax (fun M=>?_) fun hge=>?_
  ·have M:i<l.length:=by omega
   obtain⟨a,ha,_,hv⟩:=(hs8.upd S fun _ h=>h.elim).at (List.getElem?_eq_getElem M)
   refine⟨⟨by omega,by omega⟩,a,ha,_,hv 0 _ rfl,_,hv 1 _ rfl,tG (p:=l[i]) fun h9 b9 k9=>?_⟩
   have z:=S.tr k9;refine⟨_,vc (z.get0 d1) 0,_,vc (z.get0 d1) 1,_,vc (z.get0 d1) 2,_,vc b9 0,sw,FK (z.get0 Y),vN fun h10 k10=>⟨FK (k10.get0 (z.get0 Y)),?_⟩⟩
   refine JG ((hs'.upd z fun _ h=>h.elim).upd k10 fun _ h=>h.elim) (by omega) (fun j c hj=>U _ (bw M) j c hj) (ag.2 ?_)
   rw[db M (by omega)];exact hI (i+1) _ _ ⟨rfl,M,z.tr k10⟩ (by omega)
  ·have hil:i=l.length:=by omega
   subst hil;refine II (S.get0 d4) (by simp) rfl fun h9 b9 z=>II (z.oth (S.get0 d5) (by omega)) (by simp) rfl fun h10 b10 v=>?_
   refine⟨_,FK (v.oth b9 (by omega)),_,FK b10,?_⟩;have e:((s8.len:Nat):Int)=(l.length:Int):=by omega
   rw[e];exact hk _ ((((H.tr A).tr S).own z (by omega)).own v (by omega))
 |succ m ih=>
  intro hm h b l sw way t tb hs hcp hw U hr hn K hk;refine Cy (x.k0,x.k1,x.mask) (some ⟨b,0,none⟩) sw ?_;unfold yn bX af nv BK xa ji ay az lN is vu w9 VS;obtain⟨sl,nd,hs0⟩:=t;have O:∀c,c<32→SlotIs W x h m sl c (part x (12-m) c l):=hs0;refine aW fun h1 b1 k1=>aW fun h2 b2 k2=>aW fun h3 b3 X=>aW fun h4 b4 L=>aW fun h5 b5 Q=>?_
  have H:Upd No h h5:=(((k1.tr k2).tr X).tr L).tr Q;have c1:=Q.get0 (L.get0 (X.get0 (k2.get0 b1)));have c2:=Q.get0 (L.get0 (X.get0 b2));have c3:=Q.get0 (L.get0 b3);have c4:=Q.get0 b4;have s1:=k1.size;have s2:=k2.size;have s3:=X.size;have s4:=L.size;have z1:=bC b1;have z2:=bC b2;have z3:=bC b3;have z4:=bC b4;have z5:=bC b5;obtain⟨d,n,sp,sk,ow,hb,bits,hsp,hsk,_⟩:=(nd.upd H fun _ h=>h.elim).ex
  have hfp:(fm sl.p 32).length≤32:=AS;refine⟨_,FK c2,r9 hb hsp (by omega) fun s8 E ho8 A=>?_⟩
  refine⟨_,FK (A.get0 c2),gL (A.get0 hb) (ag.2 ⟨sw,FK (A.get0 c3),?_⟩)⟩;have k08:=H.tr A;have hl8:=ho8.len;rw[Ie O]at hl8;have hwl:=hs.len;rw[decide_eq_false (by omega)];refine ag.2 (aW fun h9 b9 k9=>?_)
  have z:=A.tr k9;have s8':=A.size;have z9:=bC b9;refine II b9 (by simp) rfl fun h10 b10 v=>?_
  have d1:=v.oth (z.get0 c1) (by omega);have d2:=v.oth (z.get0 c2) (by omega);have Y:=v.oth (z.get0 c3) (by omega);have d4:=v.oth (z.get0 c4) (by omega);have d5:=v.oth (z.get0 b5) (by omega);refine⟨sw,FK Y,sw,FK Y,sw,FK Y,⟨by omega,by omega⟩,⟨by omega,by omega⟩,?_⟩
  refine II Y (by simp) rfl fun J b11 C=>?_
  have s:Upd No h J:=((k08.tr k9).own v (by omega)).own C (by omega);have B:=C.oth d1 (by omega);have e2:=C.oth d2 (by omega);have e4:=C.oth d4 (by omega);have e5:=C.oth d5 (by omega);have e9:=C.oth b10 (by omega);have s11:=s.size;have s10a:=v.size;have s11a:=C.size;have G:Sl abg 1 (fun y=>h.size≤y) J ⟨aY sw.a 0 ((sw.len:Int).toNat) 1,((sw.len:Int).toNat)-0,((sw.len:Int).toNat)-0⟩ way:=by
   have:=Sl.sub ((hs.less (W':=fun y=>h.size≤y) fun _ h=>.inr h).upd s fun _ h=>h.elim) (l:=0) (hi:=sw.len) (m:=sw.len) (c:=sw.len-0) (aS _) (by omega) (aj _)
   rw[List.drop_zero,List.take_of_length_le (by omega)]at this;exact this
  have V:(⟨aY sw.a 0 ((sw.len:Int).toNat) 1,((sw.len:Int).toNat)-0,((sw.len:Int).toNat)-0⟩:SliceV).cap=(⟨aY sw.a 0 ((sw.len:Int).toNat) 1,((sw.len:Int).toNat)-0,((sw.len:Int).toNat)-0⟩:SliceV).len:=rfl;have g:J[h2.size]? =some (.cells #[sv ⟨aY sw.a 0 ((sw.len:Int).toNat) 1,((sw.len:Int).toNat)-0,((sw.len:Int).toNat)-0⟩] UU (0,0)):=b11;clear b11;generalize (⟨aY sw.a 0 ((sw.len:Int).toNat) 1,((sw.len:Int).toNat)-0,((sw.len:Int).toNat)-0⟩:SliceV)=s0 at G V g
  obtain⟨d',n',sp',sk',ow',hb',N,_⟩:=(nd.upd s fun _ h=>h.elim).ex
  have tb11:=tb.upd s id;refine⟨_,FK e2,OO hb' (yU d' (aW fun h12 b12 k12=>?_))⟩
  have s12:=k12.size;have z12:=bC b12;refine MN (d:=d') N.d32 b12 (fun k h'=>Upd No J h') No (fun k h1 hi=>tb11.upd hi id) k12 (fun k ha hb hi hle S=>hi.trans S fun y q=>.inr (by omega)) (fun _ h=>h.elim) (fun k c ha KK hi hkc hc hdc _ hK=>?_) fun k ha hi _ hde=>?_
  ·
   have hdc':=hdc;rw[N.dp c hc]at hdc';obtain⟨p,hp1,hp2⟩:=V5 (O c hc) hdc';refine⟨_,FK (hi.get0 e2),AL (nd.upd (s.tr hi) fun _ h=>h.elim) hc fun hb kb=>?_⟩
   rw[hp2];have ib:=hi.tr kb;refine tG (p:=p) fun hc' bc kc=>?_
   have F:=ib.tr kc;have hon:∀i c',(way++ [c])[i]? =some c'→ck x i p.1=c':=by
    have:=U.part (c:=c);rw[hw,show 13-(m+1)=12-m by omega,hp1]at this
    exact this p (List.mem_singleton.2 rfl)
   refine Join.intro (fun t hd=>t=false∧Upd No hc' hd) (fun R hR=>?_) ?_
   ·refine⟨_,vc (F.get0 B) 0,_,vc (F.get0 B) 1,_,vc (F.get0 B) 2,_,vc bc 0,s0,FK (F.get0 g),?_,?_⟩
    ·refine vN fun hd f=>⟨FK (f.get0 (F.get0 g)),aW fun he be T=>⟨FK (T.get0 (f.get0 (F.get0 g))),_,nf be,?_⟩⟩
     refine NT (((G.upd F fun _ h=>h.elim).upd f fun _ h=>h.elim).upd T fun _ h=>h.elim) V (by omega) rfl fun s' hf hsf _ kf=>?_
     exact JG hsf (by simp;omega) hon (hR _ _ ⟨rfl,(f.tr T).tr kf⟩)
    ·refine aW fun hd bd f=>⟨FK (f.get0 (F.get0 g)),vc (f.get0 bc) 0,⟨vc (f.get0 (F.get0 B)) 0,vc (f.get0 (F.get0 B)) 1,vc (f.get0 (F.get0 B)) 2⟩,?_⟩
     refine vN fun he T=>⟨FK (T.get0 (f.get0 (F.get0 g))),_,nf (T.get0 bd),?_⟩
     refine NT (((G.upd F fun _ h=>h.elim).upd f fun _ h=>h.elim).upd T fun _ h=>h.elim) V (by omega) rfl fun s' hf hsf _ kf=>?_
     exact JG hsf (by simp;omega) hon (hR _ _ ⟨rfl,(f.tr T).tr kf⟩)
   ·rintro t hd ⟨rfl,f⟩
    exact ag.2 (hK hd (F.tr f) ((kb.tr kc).tr f))
  ·
   obtain⟨d'',n'',sp'',sk'',ow'',hb'',u,_⟩:=(nd.upd (s.tr hi) fun _ h=>h.elim).ex
   refine⟨_,FK (hi.get0 e2),En hb'' (yU n'' (aW fun h13 b13 k13=>?_))⟩
   have i13:=hi.tr k13;have s13:=k13.size;have z13:=bC b13;have sa:=hi.size;have zde:=bC hde;have hl8':s8.len=(ix x (12-m) l).length:=hl8;have hall:=V3 x (12-m) l;have hfl:∀k,(fm (fun c=>fY (part x (12-m) c l)) k).flatten.length≤60000∨32<k:=fun k=>by
    rcases bZ 32 k with h|h
    ·exact .inr h
    ·refine .inl ?_
     have:((fm (fun c=>fY (part x (12-m) c l)) k).flatten).length≤(mA x (12-m) l).flatten.length:=by
      unfold mA;have hj:∀j,∃r,fm (fun c=>fY (part x (12-m) c l)) (k+j)=fm (fun c=>fY (part x (12-m) c l)) k++r:=fun j=>by
       induction j with
       |zero=>exact⟨[],by simp⟩
       |succ j ihj=>obtain⟨r,hr⟩:=ihj;exact⟨r++(fY (part x (12-m) (k+j) l)).toList,by rw[←mz,jP,hr,ar]⟩
      have this:=hj (32-k);rw[show k+(32-k)=32 by omega]at this
      obtain⟨r,hr⟩:=this;rw[hr,List.flatten_append,ac];omega
     omega
   refine MN (d:=n'') u.n32 b13 (fun k h'=>k≤32∧Upd (· =E.size) ha h'∧h'[E.size]? =some (.cells #[.int .i64 (((ix x (12-m) l).length+(fm (fun c=>fY (part x (12-m) c l)) k).flatten.length:Nat):Int)] lY (0,0))) (· =E.size)
    (fun k hx q=>(tb11.upd hi id).upd q.2.1 fun e=>by have e:0=E.size:=e;omega) ⟨aS _,k13.wide,?_⟩ (fun k hx q hz hle S=>⟨hz.1,hz.2.1.trans S fun y q=>.inr (by omega),S.get hz.2.2 (by omega)⟩) (fun y q=>⟨by have q:y=E.size:=q;omega,by have q:y=E.size:=q;omega⟩) (fun k c hx KK q hkc hc hnc hno hK=>?_) fun k hx q hno hdx=>?_
   ·have:=i13.get0 e9
    rw[show((ix x (12-m) l).length+(fm (fun c=>fY (part x (12-m) c l)) 0).flatten.length:Nat)=s8.len by rw[hl8'];simp[fm]]
    exact this
   ·obtain⟨Z,w,P⟩:=q
    have hnc':=hnc;rw[u.nk c hc]at hnc';obtain⟨h2l,kb,hkb,tk⟩:=V6 (O c hc) hnc';have D:∀{y:Nat} {o:Obj},J[y]? =some o→y≠E.size→hx[y]? =some o:=fun q hne=>w.get (hi.get0 q) hne
    have uW:Upd No h hx:=(s.tr hi).trans w fun y q=>.inr (by have q:y=E.size:=q;omega)
    refine⟨_,FK (D e2 (by omega)),xk (nd.upd uW fun _ h=>h.elim) hc ?_⟩
    rw[hkb];have hmc:fY (part x (12-m) c l)=some (part x (12-m) c l):=by unfold fY;rw[if_pos h2l]
    have hskip:fm (fun c=>fY (part x (12-m) c l)) c=fm (fun c=>fY (part x (12-m) c l)) k:=OE hkc fun j h1 h2=>by
     have:=hno j h1 h2;rw[u.nk j (by omega),(IY (O j (by omega))).2]at this;simpa using this
    have hnext:(fm (fun c=>fY (part x (12-m) c l)) (c+1)).flatten.length=(fm (fun c=>fY (part x (12-m) c l)) k).flatten.length+(part x (12-m) c l).length:=by
     rw[jP,hskip,hmc];simp
    have hpl:(part x (12-m) c l).length≤l.length:=lx;refine Join.intro (fun t hd=>t=(((part x (12-m) c l).length:Int),true)∧Upd No hx hd) (fun R hR=>?_) ?_
    ·refine⟨_,vc (D B (by omega)) 0,_,vc (D B (by omega)) 1,_,vc (D B (by omega)) 2,s0,FK (D g (by omega)),aW fun hd bd f=>?_⟩
     refine⟨FK (f.get0 (D g (by omega))),⟨vc (f.get0 (D B (by omega))) 0,vc (f.get0 (D B (by omega))) 1,vc (f.get0 (D B (by omega))) 2⟩,_,nf bd,?_⟩;have hsx:Sl abg 1 (fun y=>h.size≤y) hd s0 way:=((G.upd hi fun _ h=>h.elim).upd w fun y q=>.inl (by have q:y=E.size:=q;omega)).upd f fun _ h=>h.elim
     refine NT hsx V (by omega) rfl fun s' he hse hce T=>?_
     have gE:=f.tr T;refine⟨⟨vc (gE.get0 (D B (by omega))) 0,vc (gE.get0 (D B (by omega))) 1,vc (gE.get0 (D B (by omega))) 2⟩,?_⟩;refine ih (by omega) (TrieAt.upd0 (uW.tr gE) tk) (tb.upd (uW.tr gE) id) hse hce (by simp;omega) ?_ (ju hr) (by omega) fun hf kf=>hR _ _ ⟨rfl,gE.tr kf⟩
     have:=U.part (c:=c);rw[hw,show 13-(m+1)=12-m by omega]at this
     exact this
    ·rintro t hd ⟨rfl,f⟩
     refine Join.plain (ag.2 ?_);rw[decide_eq_false (by simp only;omega)];refine ag.2 ⟨_,FK (f.get0 P),?_⟩;have hf1:=(hfl k).resolve_right (by omega);have hS:(ix x (12-m) l).length≤60000:=by omega
     refine II (c':= #[.int .i64 (((ix x (12-m) l).length+(fm (fun c=>fY (part x (12-m) c l)) (c+1)).flatten.length:Nat):Int)]) (f.get0 P) (by simp) ?_ fun hf bf uf=>?_
     ·rw[hnext]
      have:IntKind.wrap .i64 ((((ix x (12-m) l).length+(fm (fun c=>fY (part x (12-m) c l)) k).flatten.length:Nat):Int)+((part x (12-m) c l).length:Int))=(((ix x (12-m) l).length+((fm (fun c=>fY (part x (12-m) c l)) k).flatten.length+(part x (12-m) c l).length):Nat):Int):=by rw[dI (by omega)];omega
      simp only[this];rfl
     ·exact hK hf ⟨hc,(w.tr f.wide).tr uf,bf⟩ (f.wide.tr uf)
   ·obtain⟨Z,w,P⟩:=q
    have D:∀{y:Nat} {o:Obj},J[y]? =some o→y≠E.size→hx[y]? =some o:=fun q hne=>w.get (hi.get0 q) hne
    have hkm:fm (fun c=>fY (part x (12-m) c l)) 32=fm (fun c=>fY (part x (12-m) c l)) k:=OE Z fun j h1 h2=>by
     have:=hno j h1 h2;rw[u.nk j (by omega),(IY (O j (by omega))).2]at this;simpa using this
    have ev:((ix x (12-m) l).length+(fm (fun c=>fY (part x (12-m) c l)) k).flatten.length:Nat)=l.length:=by rw[←hkm];exact hall
    rw[ev]at P;have sx:=w.size;refine⟨_,FK P,II (D e4 (by omega)) (by simp) rfl fun hf bf uf=>II (uf.oth (D e5 (by omega)) (by omega)) (by simp) rfl fun hg bg ug=>?_⟩
    have sf:=uf.size;have sg:=ug.size;have g2:=ug.oth (uf.oth hdx (by omega)) (by omega);have kh:Upd (· =h13.size) hg (hg.setIfInBounds h13.size (.deferred none)):=Upd.set _ _ rfl
    refine⟨g2,bM ?_⟩;generalize hg.setIfInBounds h13.size (.deferred none)=hh at kh;have g3:=kh.oth (ug.oth (uf.oth (w.get hde (by omega)) (by omega)) (by omega)) (by omega);have kj:Upd (· =h12.size) hh (hh.setIfInBounds h12.size (.deferred none)):=Upd.set _ _ rfl
    refine⟨g3,bM ?_⟩;generalize hh.setIfInBounds h12.size (.deferred none)=hj at kj;refine⟨_,FK (kj.oth (kh.oth (ug.oth bf (by omega)) (by omega)) (by omega)),_,FK (kj.oth (kh.oth bg (by omega)) (by omega)),?_⟩;refine hk hj ?_;refine(((((s.tr hi).trans w fun y q=>.inr ?_).own uf (by omega)).own ug (by omega)).own kh (by omega)).own kj (by omega)
    have q:y=E.size:=q;omega
end Go.Proofs
namespace Go.Proofs
open Go Go.Lift
theorem Jf{W:Nat→Prop}{h:ad}{b:Nat}{sl val:ByteArray}{has:Bool}{s:SliceV}{ow:Option Addr}{ks:List (Option Addr)}{F:Fo}(L:h[b]? =some (.cells (B7 sl has val s ow) cf (0,0))) (A:Sl qd 1 W h s ks) (v:RxL W h ks F.toL) (hc:ge F) {K:Bool→ad→Prop} (Y:K true h):HC PG nm [.pointer (some ⟨b,0,none⟩)] [.c .bool] K h:=by
 refine DQ (some ⟨b,0,none⟩) ?_;unfold wT bE bX ay bV;refine⟨_,rfl,s,dZ (i:=3) L,?_⟩;have u:=A.len;rw[v.1]at u;have P:=j6 hc;have j:=eT.1 hc;refine LoopP.ghost (fun(i:Nat) (t:Int) h'=>t=(i:Int)∧i≤F.toL.length∧h'=h) (fun i=>F.toL.length-i) 0 ⟨rfl,aS _,rfl⟩ ?_
 rintro I i t h' ⟨rfl,hi,rfl⟩ S;refine ax (fun e=>?_) fun _=>Y
 have e:i<F.toL.length:=by omega
 obtain⟨kb,g,w,m,kv,J,Q,kk,p,_⟩:=v.at e;obtain⟨a,U,_,hv⟩:=A.at0 w;have n:g.data.toList≠[]:=by rw[m];exact(j.2 _ (bw e)).1
 have X:(g.toList==(⟨#[]⟩:ByteArray).toList)=false:=by
  rw[beq_eq_false_iff_ne,ByteArray.toList_eq,ByteArray.toList_eq];exact n
 obtain⟨c,D,E⟩:=Gb n;refine⟨⟨by omega,by omega⟩,a,U,_,hv,Join.intro (fun t h2=>t=false∧h2=h') (fun R N=>?_) ?_⟩
 ·refine⟨_,rfl,g,dZ (i:=0) p,?_⟩
  rw[X];refine ag.2 (ax (fun G=>?_) fun _=>N _ _ ⟨rfl,rfl⟩)
  have O:0<i:=by have:(i:Int)>0:=G;omega
  have T:IntKind.wrap .i64 ((i:Int)-1)=((i-1:Nat):Int):=by rw[dI (by omega)];omega
  rw[T];have f:i-1<F.toL.length:=by omega
  obtain⟨jb,k,x,o,jv,M,V,Z,B,_⟩:=v.at f;obtain⟨a',z,_,C⟩:=A.at0 x;have q:k.data.toList≠[]:=by rw[o];exact(j.2 _ (bw f)).1
  obtain⟨d,H,y⟩:=Gb q;refine⟨_,rfl,s,dZ (i:=3) L,⟨by omega,by omega⟩,a',z,_,C,_,rfl,k,dZ (i:=0) B,d,by decide,H,_,rfl,g,dZ (i:=0) p,c,by decide,D,N _ _ ⟨?_,rfl⟩⟩
  have:=List.pairwise_iff_getElem.1 j.1 (i-1) i f e (by omega);rw[m]at E;rw[o]at y;exact decide_eq_false (by omega)
 ·rintro t h2 ⟨rfl,rfl⟩
  refine ag.2 ?_;rw[db e (by omega)];exact S (i+1) _ _ ⟨rfl,e,rfl⟩ (by omega)
theorem NG{W:Nat→Prop}{h:ad}{s:SliceV}{ks:List (Option Addr)}{L:List Bn}{f:FuncId}(j:Sl qd 1 W h s ks)(g:RxL W h ks L)(w:L.length≤256)(m:∀i (hi:i<L.length) {b:Nat} {sl:ByteArray},RxN W h b sl L[i].2.1 L[i].2.2→∀{K:Bool→ad→Prop},K false h→HC PG f [.pointer (some ⟨b,0,none⟩)] [.c .bool] K h){K:Bool→ad→Prop}(p:K false h):
  HC PG cZ [.slice s.a s.len s.cap,.func (.func f) #[] #[]] [.c .bool] K h:=by
 refine lM s _ ?_;unfold gq;refine mu s _ ?_;unfold g5 bE bX;have d:=j.len;rw[g.1]at d;refine LoopP.ghost (fun(i:Nat) (t:Int) h'=>t=(i:Int)∧i≤L.length∧h'=h) (fun i=>L.length-i) 0 ⟨rfl,aS _,rfl⟩ ?_
 rintro I i t h' ⟨rfl,hi,rfl⟩ u;refine ax (fun c=>?_) fun _=>p
 have c:i<L.length:=by omega
 obtain⟨v,q,e,k,o⟩:=g.at c;obtain⟨a,n,_,hv⟩:=j.at0 e;refine⟨⟨by omega,by omega⟩,a,n,_,hv,HV.mk' (m i c o (ag.2 ?_))⟩
 rw[db c (by omega)];exact u (i+1) _ _ ⟨rfl,c,rfl⟩ (by omega)
def adN(n:Bn):Prop:=∀{W:Nat→Prop} {h:ad} {b:Nat} {sl:ByteArray},RxN W h b sl n.2.1 n.2.2→∀{K:Bool→ad→Prop},K true h→HC PG mH [.pointer (some ⟨b,0,none⟩)] [.c .bool] K h
theorem ab9{lab:List UInt8}{w:Option ByteArray}{F:Fo}(hc:ge F)(c:w.isSome∨2≤F.toL.length)(k:∀n∈F.toL,adN n):adN (lab,w,F):=by
 intro W h b sl r K p;simp only at r;obtain⟨val,s,ow,ks,d,hv,g,o,q⟩:=r;have f:=lJ.1 q;have a:=g.len;rw[f.1]at a;refine Ce (some ⟨b,0,none⟩) ?_;unfold vF bK bV;refine Join.intro (fun t h'=>t=false∧h'=h) (fun R j=>?_) ?_
 ·refine Jf d g f hc (ag.2 ⟨_,rfl,w.isSome,dZ (i:=1) d,?_⟩)
  cases hwS:w.isSome with
  |true=>exact ag.2 (j _ _ ⟨rfl,rfl⟩)
  |false=>
   refine au.2 ⟨_,rfl,s,dZ (i:=3) d,j _ _ ⟨decide_eq_false ?_,rfl⟩⟩;rw[hwS]at c;rcases c with c|c
   ·cases c
   ·omega
 ·rintro t h' ⟨rfl,rfl⟩
  refine ag.2 ⟨_,rfl,s,dZ (i:=3) d,NG g f (j6 hc) (fun i hi b sl m u e=>?_) p⟩
  refine Ax _ ?_;unfold tJ;exact k _ (bw hi) m e
theorem O2:∀{F:Fo},ge F→∀n∈F.toL,adN n
 | .nil,_,n,a=>by simp[Fo.toL]at a
 | .cons lab w kids rest,h,n,a=>by
  rcases List.mem_cons.1 a with rfl|a
  ·exact ab9 h.2.2.1 h.2.1 (O2 h.2.2.1)
  ·exact O2 h.2.2.2.2 n a
theorem SG{W:Nat→Prop}{h:ad}{b:Nat}{l:List Pr}(t:RadAt W h b l){K:Bool→ad→Prop}(j:K true h):HC PG yd [.pointer (some ⟨b,0,none⟩)] [.c .bool] K h:=by
 obtain⟨w,F,r,hc,_⟩:=t.ex;obtain⟨val,s,ow,ks,c,hv,e,g,k⟩:=r;have d:=lJ.1 k;refine LX (some ⟨b,0,none⟩) ?_;unfold CJ ay bV;refine au.2 ⟨_,rfl,_,dZ (i:=0) c,?_⟩;rw[beq_self_eq_true];refine au.2 (Jf c e d hc (au.2 ⟨_,rfl,s,dZ (i:=3) c,NG e d (j6 hc) (fun i hi b sl f m a=>?_) j⟩))
 refine HZ _ ?_;unfold Al;exact O2 hc _ (bw hi) f a
theorem VZ{W:Nat→Prop}{x:Hs}{h:ad}{d:Int}{t:Tr}{l:List Pr}(i:TreeIs W h d x t l)(tb:Tab h)(k:bS l)(o:l.length≤60000){K:Bool→ad→Prop}(f:∀h',Upd No h h'→K true h'):HC PG si [Ia t] [.c .bool] K h:=by
 refine E0 t ?_;unfold xE aZ af aH xa rT ut df;refine aW fun j b1 k1=>⟨_,vc b1 0,?_⟩
 rcases i with⟨_,b,rfl,t⟩|⟨_,b,rfl,t⟩
 ·refine ag.2 ⟨_,Av b1 1 0,_,Av b1 1 1,_,Av b1 1 2,_,vc b1 0,_,vc b1 1,_,vc b1 2,_,vc b1 3,_,vc b1 4,_,vc b1 5,?_⟩
  refine BF (TrieAt.upd0 k1 t) fun h2 e=>⟨⟨Av (e.get0 b1) 1 0,Av (e.get0 b1) 1 1,Av (e.get0 b1) 1 2⟩,?_⟩
  refine LS (x.k0,x.k1,x.mask) _ ?_;unfold CF af BK xa;refine aW fun q b3 g=>ag.2 ⟨_,vc b3 0,_,vc b3 1,_,vc b3 2,?_⟩
  have a:=(k1.tr e).tr g;refine Zd 13 (aj _) (sw:=⟨none,0,0⟩) (way:= []) (TrieAt.upd0 a t) (tb.upd a id) (Sl.nil abR) (aj _) rfl (fun p _ i c hc=>by simp at hc) k o fun n m=>?_
  exact f n (a.tr m)
 ·refine au.2 ⟨_,vc b1 5,SG (t.upd0 k1) (f j k1)⟩
end Go.Proofs
namespace Go.Proofs
open Go Go.Lift
theorem VX{a:Int}{x:Hs}{l:List Pr}{xs:List UInt8}(hv:NH a x l xs)(b:Fit l)(e:l.length≤60000):xs.length≤100000000000:=by
 rcases hv with⟨_,rfl⟩|⟨_,ys,d,rfl⟩
 ·have c:=rg (x:=x) 13 b
  have h2:l.length*(20004+9*(13+1))≤60000*(20004+9*(13+1)):=cB _ e;rw[al];omega
 ·have c:=Ei d b
  rw[al];omega
theorem Wm{W:Nat→Prop}{x:Hs}{h:ad}{a:Int}{r:Rt}{l:List Pr}(D:a=0∨a=1)(i:RefIs W h a x r l)(O:bS l)(m:Fit l)(C:l.length≤60000){K:SliceV→ad→Prop}
  (N:∀s' h' xs,OwnS rO 1 cP (fun y=>h.size≤y) h' s' xs→NH a x l xs→Upd No h h'→K s' h'):HC PG A4 [aai r] [.c .slice] K h:=by
 refine Rw r ?_;unfold Hy aZ dy xa HR df vu;obtain⟨s,rfl,A,hc⟩:=i;have A:=A.less (W':=No) fun _ h=>h.elim
 refine aW fun z b1 k1=>⟨_,vc b1 0,?_⟩
 have B:=k1.size;rcases D with rfl|rfl
 ·refine ag.2 (aW fun U b3 c=>⟨_,Av (c.get0 b1) 1 0,_,Av (c.get0 b1) 1 1,_,Av (c.get0 b1) 1 2,s,vc (c.get0 b1) 4,?_⟩)
  have H:=BU (b:=0) b3;have u:=k1.tr c;have X:∀v,hx 0 v=v:=fun v=>if_pos rfl
  simp only[X];refine Yo (x:=x) (A.upd u fun _ h=>h.elim) C (fun p J=>by have:=m p J;omega) fun Z b T g=>?_
  have V:=c.size;have R:=g.size;refine aar 13 (aj _) T m C fun S Q e k=>?_
  have G:=k.size;have t:=rg (x:=x) 13 m;have h2:l.length*(20004+9*(13+1))≤60000*(20004+9*(13+1)):=cB _ C;refine Bi (M:=fun y=>z.size≤y) ((H.upd g fun _ _ h=>h).upd k fun _ _ h=>h) (e.sl (W:=No) fun _ _ _ h=>h) (fun y d=>by show z.size≤y;omega) (by simp;omega) fun L I f E=>?_
  exact N L I _ (f.more fun y d=>bh B d) (.inl ⟨rfl,rfl⟩) (((u.tr g).tr k).trans E fun y d=>.inr (bh B d))
 ·refine au.2 (aW fun U b3 c=>⟨s,vc (c.get0 b1) 4,?_⟩)
  have H:=BU (b:=1) b3;have u:=k1.tr c;refine aap (A.upd u fun _ h=>h.elim) hc O C (fun p J=>by have:=m p J;have:=JL p.1;show(ky p).length≤_;unfold ky;omega) fun Z b w F Y j n g=>?_
  have V:=c.size;have R:=g.size;obtain⟨o,P⟩:=AV j n m;have q:T3 l (kE ([],w,F)):=⟨w,F,j,n,rfl⟩;have t:=Ei q m;refine Vy (lab:= []) (by simp) P (j6 j) (Kc o) Y rfl (by omega) fun S Q e k=>?_
  have G:=k.size;refine Bi (M:=fun y=>z.size≤y) ((H.upd g fun _ _ h=>h).upd k fun _ _ h=>h) (e.sl (W:=No) fun _ _ _ h=>h) (fun y d=>by show z.size≤y;omega) (by simp;omega) fun L I f E=>?_
  exact N L I _ (f.more fun y d=>bh B d) (.inr ⟨rfl,_,q,rfl⟩) (((u.tr g).tr k).trans E fun y d=>.inr (bh B d))
theorem M3{W W':Nat→Prop}{x:Hs}{h:ad}{a:Int}{t:Tr}{r:Rt}{l:List Pr}(tb:Tab h)(i:TreeIs W h a x t l)(j:RefIs W' h a x r l)(k:bS l)(g:Fit l)(f:l.length≤60000){K:Bool→ad→Prop}(B:∀h',Upd No h h'→K true h'):HC PG zI [Ia t,aai r] [.c .bool] K h:=by
 refine Us t r ?_;unfold K9 aZ af aH dy rT HR ut Sc HP;have n:a=0∨a=1:=i.imp (fun h=>h.1) fun h=>h.1
 refine aW fun E b1 k1=>aW fun h2 b2 v=>?_
 have w:=k1.tr v;have c:=v.get0 b1;refine⟨_,vc c 0,_,vc c 1,_,vc c 2,_,vc c 3,_,vc c 4,_,vc c 5,_,vc b2 0,_,vc b2 1,_,vc b2 2,_,vc b2 3,r.2.2.2.2,vc b2 4,?_⟩;refine FR (i.upd0 w) k g f fun G F xs m p b=>⟨⟨vc (b.get0 b2) 0,vc (b.get0 b2) 1,vc (b.get0 b2) 2,vc (b.get0 b2) 3,vc (b.get0 b2) 4⟩,?_⟩
 have y:=w.tr b;refine Wm n (j.upd0 y) k g f fun D H ys u q o=>?_
 have s:=y.tr o;have e:xs=ys:=(PW (fun _=>rfl) m q g g f f k k).2 rfl
 subst e;have C:=VX m g f;refine Wo ((p.upd o fun _ _ h=>h).sl (W:=No) fun _ _ _ h=>h) (u.sl (W:=No) fun _ _ _ h=>h) (by omega) ?_
 have d:=o.get0 (b.get0 c);refine au.2 ⟨_,vc d 0,_,vc d 1,_,vc d 2,_,vc d 3,_,vc d 4,_,vc d 5,?_⟩;exact VZ (i.upd0 s) (tb.upd s id) k f fun z A=>B z (s.tr A)
end Go.Proofs
namespace Go.Proofs
open Go Go.Lift
theorem TW{A B:List Pr}(a:bS A)(b:bS B):wL A (jX A B)=0:=Xg (Jo a b) fun _ h=>YX a b h
theorem aaW{A B:List Pr}(a:bS A)(b:bS B)(h:jX A B= []):A=B:=by
 have:=NF a b;rw[h]at this;exact this
theorem BW{W:Nat→Prop}{x:Hs}{h:ad}{a:Int}{t:Tr}{A B:List Pr}{s:SliceV}{n m:Nat}(i:TreeIs W h a x t A)(o:∀y,W y→y<h.size)(b:Few n A)(c:Few m B)(p:n≤1000)(q:m≤1000)(g:Sl tI 5 No h s (jX A B)){K:Tr×Int→ad→Prop}
  (j:∀h' d,TreeIs W h' a x d B→Upd No h h'→K (d,0) h'):HC PG np [Ia t,.slice s.a s.len s.cap] [.agg [.int .i64,.int .u64,.int .u64,.int .u64,.ptr,.ptr],.c (.int .i64)] K h:=by
 have w:=b.len;have u:=c.len;have v:=vS b.up c.up;refine ON i o b.up b.fits (by omega) g (by omega) (IX b c) (fun e=>absurd (TW b.up c.up) e) fun _ h' d f k=>?_
 rw[NF b.up c.up]at f;exact j h' d f k
set_option maxHeartbeats 4000000 in
set_option maxRecDepth 100000 in
theorem OM{h:ad}{k:Int}{x:Hs}{sl sm sg:SliceV}{l m:List Pr}{g:List ByteArray}{on:Bool}(tb:Tab h)(hl:Sl eu 2 No h sl l)(hll:l.length≤9223372036854775807)(hm:Sl eu 2 No h sm m)(hml:m.length≤9223372036854775807)(hg:Sl ac8 1 No h sg g)(hgl:g.length≤9223372036854775807)(hk0:0≤k)(hk1:k≤255):
  HC PG Ad [.int .u8 k,.agg #[.int .u64 x.k0,.int .u64 x.k1,.int .u64 x.mask],.slice sl.a sl.len sl.cap,.slice sm.a sm.len sm.cap,.slice sg.a sg.len sg.cap,.bool on] [.c .bool] (fun b h'=>b=true∧Upd No h h') h:=by
 refine H4 k (x.k0,x.k1,x.mask) sl sm sg on ?_;unfold Aq bE aZ af aH dy eW nv BK xa Ay Sa rT HR ut Sc HP;refine aW fun h1 b1 k1=>TU fun h3 k3=>ag.2 ?_
 have c3:=k3.get0 b1;refine⟨_,vc c3 0,_,vc c3 1,_,vc c3 2,?_⟩;refine TT (W:=No) (x:=x) hk0 hk1 (fun _ h=>h.elim) fun h8 t r i8 j8 k8=>?_
 generalize IntKind.wrap .i64 (Int.tmod k 2)=kind at i8 j8;refine YC (t:=t) (r:=r) fun h9 h12 k12 Z x12 z9=>?_
 refine⟨_,vc Z 0,_,vc Z 1,_,vc Z 2,_,vc Z 3,_,vc Z 4,_,vc Z 5,_,vc x12 0,_,vc x12 1,_,vc x12 2,_,vc x12 3,r.2.2.2.2,vc x12 4,?_⟩;have k012:Upd No h h12:=((k1.tr k3).tr k8).tr k12;refine JS (W:=No) (g:= []) (sg:=⟨none,0,0⟩) (i8.upd0 k12) (j8.upd0 k12) BP BP (by omega) (hl.upd k012 fun _ h=>h.elim) (Sl.nil fun _=>⟨rfl,by omega⟩) (fun _ h=>h.elim) hll (aS _) fun h25 ta ra i25 j25 k25=>?_
 have i25:TreeIs No h25 kind x ta (lO [] l):=i25;have j25:RefIs No h25 kind x ra (lO [] l):=j25;have a:Few 25 (lO [] l):=tV BP l;generalize lO [] l=A at i25 j25 a;refine YC (t:=ta) (r:=ra) fun h26 h29 k29 a29 y29 z26=>?_
 have t29:=(k25.tr k29).get0 Z;have x29:=(k25.tr k29).get0 x12;refine⟨_,vc t29 0,_,vc t29 1,_,vc t29 2,_,vc t29 3,_,vc t29 4,_,vc t29 5,_,vc x29 0,_,vc x29 1,_,vc x29 2,_,vc x29 3,r.2.2.2.2,vc x29 4,?_⟩;have X:=k25.tr k29;have k029:=k012.tr X;refine JS (W:=No) (i8.upd0 (k12.tr X)) (j8.upd0 (k12.tr X)) BP BP (by omega) (hm.upd k029 fun _ h=>h.elim) (hg.upd k029 fun _ h=>h.elim) (fun _ h=>h.elim) hml hgl fun U tb0 rb0 i42 j42 k42=>?_
 have fB0:Few 25 (vz (lO [] m) g):=EC (tV BP m) g;generalize vz (lO [] m) g=B0 at i42 j42 fB0;refine YC (t:=tb0) (r:=rb0) fun h43 h46 k46 b46 q46 z43=>?_
 have o:=k42.tr k46;have k046:=k029.tr o;have V:=o.get0 a29;have y46:=o.get0 y29;have z29:h29.size≤U.size:=k42.size;have z25:h25.size≤h29.size:=k29.size;have za:=bC a29;have zy:=bC y29;have z46:=bC q46;have iA0:TreeIs (fun y=>y=U.size∨y=h43.size) h46 kind x ta A:=(i25.less fun y hy=>.inr (by omega)).upd0 (k29.tr o)
 have jA0:RefIs (fun y=>y=U.size∨y=h43.size) h46 kind x ra A:=(j25.less fun y hy=>.inr (by omega)).upd0 (k29.tr o)
 have z0:h.size≤U.size:=bh k029.size z29;refine Join.intro (fun(_:Unit) h'=>∃(tb:Tr) (rb:Rt) (B:List Pr),h'[U.size]? =some (.cells (oF tb).toArray bD (0,0))∧h'[h43.size]? =some (.cells (zm rb).toArray dh (0,0))∧TreeIs No h' kind x tb B∧RefIs No h' kind x rb B∧Few 50 B∧Upd (fun y=>y=U.size∨y=h43.size) h46 h') (fun R hR=>?_) ?_
 ·cases on with
  |false=>exact ag.2 (hR _ _ ⟨tb0,rb0,B0,b46,q46,i42.upd0 k46,j42.upd0 k46,fB0.mono (by omega),Upd.refl _ _⟩)
  |true=>
   refine au.2 ⟨_,vc V 0,_,vc V 1,_,vc V 2,_,vc V 3,_,vc V 4,_,vc V 5,_,vc y46 0,_,vc y46 1,_,vc y46 2,_,vc y46 3,ra.2.2.2.2,vc y46 4,?_⟩;refine JS (W:=fun y=>y=U.size∨y=h43.size) iA0 jA0 a a (by omega) ((hm.less fun y hy=>.inr (by omega)).upd k046 fun _ h=>h.elim) ((hg.less fun y hy=>.inr (by omega)).upd k046 fun _ h=>h.elim) (fun y hy=>by omega) hml hgl fun h59 tb' rb' i59 j59 k59=>?_
   refine dH (c:=oF tb0) (vs:=oF tb') (k59.get0 b46) rfl fun h61 b61 hu61=>?_
   refine dH (c:=zm rb0) (vs:=zm rb') (hu61.oth (k59.get0 q46) (by omega)) rfl fun h62 b62 hu62=>?_
   have u2:Upd (fun y=>y=U.size∨y=h43.size) h59 h62:=(hu61.mono fun y e=>.inl (.inl e)).tr (hu62.mono fun y e=>.inl (.inr e))
   exact hR _ _ ⟨tb',rb',_,hu62.oth b61 (by omega),b62,(i59.updM u2 fun _ h=>.inl h).less fun _ h=>h.elim,(j59.updM u2 fun _ h=>.inl h).less fun _ h=>h.elim,EC (tV a m) g,k59.wide.tr u2⟩
 rintro _ h64 ⟨tb',rb,B,q,q64,iB,jB,f,k64⟩;have iA:=(iA0.updM k64 fun _ h=>.inl h).less (W':=No) fun _ h=>h.elim
 have jA:=(jA0.updM k64 fun _ h=>.inl h).less (W':=No) fun _ h=>h.elim
 have j:=k64.get V (by omega);have y64:=k64.get y46 (by omega);have k064:Upd No h h64:=k046.trans k64 fun y hy=>.inr (by omega)
 have nA:=a.len;have nB:=f.len;refine⟨_,vc j 0,_,vc j 1,_,vc j 2,_,vc j 3,_,vc j 4,_,vc j 5,_,vc q 0,_,vc q 1,_,vc q 2,_,vc q 3,_,vc q 4,_,vc q 5,?_⟩;refine Kb iA iB a.up a.fits (by omega) f.up f.fits (by omega) (fun e=>by rw[wd iA iB]at e;cases e) fun _ h78 sc hc k78=>?_
 have y78:=k78.get0 y64;have q78:=k78.get0 q64;refine⟨_,vc y78 0,_,vc y78 1,_,vc y78 2,_,vc y78 3,ra.2.2.2.2,vc y78 4,_,vc q78 0,_,vc q78 1,_,vc q78 2,_,vc q78 3,rb.2.2.2.2,vc q78 4,?_⟩;refine Yt (jA.upd0 k78) (jB.upd0 k78) a.up f.up (by omega) (by omega) a.fits f.fits fun h90 sw hw k90=>?_
 have n:=k78.tr k90;have b90:=n.get0 q;have a90:=n.get0 j;refine⟨_,vc b90 0,_,vc b90 1,_,vc b90 2,_,vc b90 3,_,vc b90 4,_,vc b90 5,_,vc a90 0,_,vc a90 1,_,vc a90 2,_,vc a90 3,_,vc a90 4,_,vc a90 5,?_⟩;refine Kb (iB.upd0 n) (iA.upd0 n) f.up f.fits (by omega) a.up a.fits (by omega) (fun e=>by rw[wd iB iA]at e;cases e) fun _ h104 sd hd k104=>?_
 have lc:=vS a.up f.up;have ld:=vS f.up a.up;have C104:Sl tI 5 No h104 sc (jX A B):=(hc.sl fun _ _ _ h=>h).upd (k90.tr k104) fun _ h=>h.elim
 have W104:Sl tI 5 No h104 sw (jX A B):=hw.upd k104 fun _ h=>h.elim
 have D104:Sl tI 5 No h104 sd (jX B A):=hd.sl fun _ _ _ h=>h
 refine Join.intro (fun t' h'=>t'=false∧Upd No h104 h') (fun R hR=>?_) ?_
 ·refine ag.2 (ag.2 (ag.2 ?_))
  refine OY C104 (by omega) fun s106 h107 h106 N=>?_
  refine V7 (h106.sl (W:=No) fun _ _ _ h=>h) (W104.upd N fun _ h=>h.elim) (by omega) (CondP.intro (fun e=>absurd e (by simp)) fun _=>?_)
  refine Ga (C104.upd N fun _ h=>h.elim) (by omega) fun s110 h111 h110 k111=>?_
  rw[OX a.up f.up]at h110;refine Q8 (D104.upd (N.tr k111) fun _ h=>h.elim) (h110.sl (W:=No) fun _ _ _ h=>h) (by omega) (CondP.intro (fun e=>absurd e (by simp)) fun _=>?_)
  refine EK (C104.upd (N.tr k111) fun _ h=>h.elim) (by omega) (IX a f) fun h115 k115=>hR _ _ ⟨?_,(N.tr k111).tr k115⟩
  rw[Jo a.up f.up];rfl
 rintro t' h117 ⟨rfl,k117⟩;have M:=(n.tr k104).tr k117;have J:=M.get0 j;refine ag.2 ⟨_,vc J 0,_,vc J 1,_,vc J 2,_,vc J 3,_,vc J 4,_,vc J 5,?_⟩;have C117:=C104.upd k117 fun _ h=>h.elim
 refine BW (W:=No) (iA.upd0 M) (fun _ h=>h.elim) a f (by omega) (by omega) C117 fun h125 u iu k125=>?_
 refine Dn (t:=u) fun h127 u127 k127=>?_
 have T:=k125.tr k127;have L:=M.tr T;have i:=L.get0 q;have C127:=C117.upd T fun _ h=>h.elim
 have Y:=iB.upd0 L;refine Join.intro (fun t' h'=>∃(p:Nat) (v:Tr),t'=(⟨p,0,none⟩,0)∧h'[p]? =some (.cells (oF v).toArray bD (0,0))∧TreeIs No h' kind x v A∧Upd No h127 h') (fun R hR=>?_) ?_
 ·refine⟨_,vc i 0,_,vc i 1,_,vc i 2,_,vc i 3,_,vc i 4,_,vc i 5,?_,?_⟩
  ·refine Ga C127 (by omega) fun s174 h175 h174 K=>?_
   rw[OX a.up f.up]at h174;have s:=K.get0 i;have I175:Sl tI 5 No h175 s174 (jX B A):=h174.sl fun _ _ _ h=>h
   refine⟨⟨vc s 0,vc s 1,vc s 2,vc s 3,vc s 4,vc s 5⟩,?_,?_⟩
   ·refine BW (W:=No) (Y.upd0 K) (fun _ h=>h.elim) f a (by omega) (by omega) I175 fun h177 v iv k177=>?_
    exact Dn (t:=v) fun h179 b179 k179=>hR _ _ ⟨h177.size,v,rfl,b179,iv.upd0 k179,(K.tr k177).tr k179⟩
   ·refine aW fun h180 b180 k180=>?_
    have b0:=k180.get0 s;refine⟨⟨vc b0 0,vc b0 1,vc b0 2,vc b0 3,vc b0 4,vc b0 5⟩,?_⟩;refine BW (W:=fun y=>y=h175.size) (((Y.upd0 K).less fun y e=>.inr (by omega)).upd0 k180) (fun y e=>by have:=bC b180;omega) f a (by omega) (by omega) (I175.upd k180 fun _ h=>h.elim) fun h182 v iv k182=>?_
    exact dH (c:=oF IM) (vs:=oF v) (k182.get0 b180) rfl fun h183 b183 hu183=>hR _ _ ⟨h175.size,v,rfl,b183,(iv.updM hu183 fun _ h=>.inl h).less fun _ h=>h.elim,((K.tr k180).tr k182).own hu183 K.size⟩
  ·refine aW fun h184 b184 k184=>?_
   have b0:=k184.get0 i;refine⟨⟨vc b0 0,vc b0 1,vc b0 2,vc b0 3,vc b0 4,vc b0 5⟩,?_⟩;refine Ga (C127.upd k184 fun _ h=>h.elim) (by omega) fun s185 h186 h185 Q=>?_
   rw[OX a.up f.up]at h185;have G:=Q.get0 b0;refine⟨⟨vc G 0,vc G 1,vc G 2,vc G 3,vc G 4,vc G 5⟩,?_⟩;refine BW (W:=fun y=>y=h127.size) ((Y.less fun y e=>.inr (by omega)).upd0 (k184.tr Q)) (fun y e=>by have:=bC (Q.get0 b184);omega) f a (by omega) (by omega) (h185.sl (W:=No) fun _ _ _ h=>h) fun h188 v iv k188=>?_
   exact dH (c:=oF IM) (vs:=oF v) ((Q.tr k188).get0 b184) rfl fun h189 b189 hu189=>hR _ _ ⟨h127.size,v,rfl,b189,(iv.updM hu189 fun _ h=>.inl h).less fun _ h=>h.elim,((k184.tr Q).tr k188).own hu189 (aj _)⟩
 rintro _ h191 ⟨p,v,rfl,v191,iv,k191⟩;have I:=k191.get0 u127;have d:=L.tr k191;have E:=d.get0 q;refine au.2 (au.2 ⟨_,vc I 0,_,vc I 1,_,vc I 2,_,vc I 3,_,vc I 4,_,vc I 5,_,vc E 0,_,vc E 1,_,vc E 2,_,vc E 3,_,vc E 4,_,vc E 5,?_⟩);refine IU (iu.upd0 (k127.tr k191)) (iB.upd0 d) f.up f.fits (by omega) f.up f.fits (by omega) fun h205 S=>?_
 rw[wd iu iB,decide_eq_true (rfl:B=B)];have H:=S.get0 v191;have C:=(d.tr S).get0 j;refine au.2 ⟨_,vc H 0,_,vc H 1,_,vc H 2,_,vc H 3,_,vc H 4,_,vc H 5,_,vc C 0,_,vc C 1,_,vc C 2,_,vc C 3,_,vc C 4,_,vc C 5,?_⟩;refine IU (iv.upd0 S) (iA.upd0 (d.tr S)) a.up a.fits (by omega) a.up a.fits (by omega) fun h219 k219=>?_
 rw[wd iv iA,decide_eq_true (rfl:A=A)];have kk:=(d.tr S).tr k219;have w:=kk.get0 j;have P:=kk.get0 y64;refine au.2 ⟨_,vc w 0,_,vc w 1,_,vc w 2,_,vc w 3,_,vc w 4,_,vc w 5,_,vc P 0,_,vc P 1,_,vc P 2,_,vc P 3,ra.2.2.2.2,vc P 4,?_⟩;refine M3 (tb.upd (k064.tr kk) id) (iA.upd0 kk) (jA.upd0 kk) a.up a.fits (by omega) fun h232 k232=>?_
 have kk2:=kk.tr k232;have z:=kk2.get0 q;have O:=kk2.get0 q64;refine au.2 ⟨_,vc z 0,_,vc z 1,_,vc z 2,_,vc z 3,_,vc z 4,_,vc z 5,_,vc O 0,_,vc O 1,_,vc O 2,_,vc O 3,rb.2.2.2.2,vc O 4,?_⟩;refine M3 (tb.upd (k064.tr kk2) id) (iB.upd0 kk2) (jB.upd0 kk2) f.up f.fits (by omega) fun h245 k245=>?_
 have kk3:=kk2.tr k245;have F:=kk3.get0 j;have D:=kk3.get0 q;refine au.2 ⟨_,vc F 0,_,vc F 1,_,vc F 2,_,vc F 3,_,vc F 4,_,vc F 5,_,vc D 0,_,vc D 1,_,vc D 2,_,vc D 3,_,vc D 4,_,vc D 5,?_⟩;refine IU (iA.upd0 kk3) (iB.upd0 kk3) a.up a.fits (by omega) f.up f.fits (by omega) fun h259 k259=>⟨?_,(k064.tr kk3).tr k259⟩
 rw[wd iA iB,Bool.true_and];have ls:=C104.len;by_cases e:A=B
 ·subst e
  rw[Bh]at ls;simp only[List.length_nil]at ls;rw[decide_eq_true rfl,ls];rfl
 ·rw[decide_eq_false e]
  have:((sc.len:Int)==0)=false:=by
   rw[beq_eq_false_iff_ne];exact fun h0=>e (aaW a.up f.up (List.length_eq_zero_iff.1 (by omega)))
  rw[this];rfl
end Go.Proofs
