/- A part of the proof that the named laws of this program answer true, whatever the input. -/
import Derived.Test.YtcpiahjlddmfiaaGreatPart8
import Derived.Test.YtcpiahjlddmfiaaGreatPart7
import Derived.Test.YtcpiahjlddmfiaaGreatPart5
import Derived.Test.YtcpiahjlddmfiaaGreatPart6
import Derived.Test.YtcpiahjlddmfiaaGreatPart3
open ByteArray renaming size_extract→eh
open List renaming length_append→ae,flatMap_append→bA,length_cons→aN,getElem?_eq_getElem→al,getElem_mem→aU,mem_map→bE,length_map→cZ
open List.Pairwise renaming nil→cQ
open Nat renaming le_refl→aj,zero_add→aA,le_trans→aW,mul_le_mul_right→bP,mod_eq_of_lt→cW,zero_le→aP,lt_of_lt_of_le→aO,le_of_lt→jB
open UInt8 renaming ofNat→dW
namespace Go.Proofs
open Go Go.Lift
theorem O9{c:Nat}:IntKind.wrap .u32 (((2^c%4294967296:Nat):Int)*2)=((2^(c+1)%4294967296:Nat):Int):=by
 rw[IntKind.wrap_u32,Nat.pow_succ];omega
theorem Rs{q:List Pr}:(KF q==(1:Int))=(gE q).isSome:=by
 match q with
 | []=>rfl
 | [a]=>rfl
 |a::b::q=>rw[show KF (a::b::q)=2 by unfold KF;rw[if_neg (by simp),if_pos (by simp)]];rfl
theorem Rr{q:List Pr}:(KF q==(2:Int))=(ge q).isSome:=by
 match q with
 | []=>rfl
 | [a]=>rfl
 |a::b::q=>rw[show KF (a::b::q)=2 by unfold KF;rw[if_neg (by simp),if_pos (by simp)]];rw[show ge (a::b::q)=some (a::b::q) by unfold ge;rw[if_pos (by simp)]];rfl
def TwoB(c a:Nat)(h:ac)(so d:SliceV)(L:List Pr)(B:List UInt8):Prop:=
 ∃M N:Nat→Prop,OwnS il 2 bL M h so L∧OwnS m8 1 bX N h d B∧(∀b,M b→c≤b∧b<a∧¬N b)∧∀b,N b→c≤b∧b<a
theorem TwoB.upd0{c b:Nat}{h h':ac}{so a:SliceV}{L:List Pr}{B:List UInt8}(t:TwoB c b h so a L B)(k:Upd No h h'):TwoB c b h' so a L B:=by
 obtain⟨M,N,f,d,g,e⟩:=t;exact⟨M,N,f.upd k fun _ _ h=>h,d.upd k fun _ _ h=>h,g,e⟩
theorem TwoB.up{e d g:Nat}{h:ac}{so c:SliceV}{L:List Pr}{B:List UInt8}(t:TwoB e d h so c L B)(k:d≤g):TwoB e g h so c L B:=by
 obtain⟨M,N,j,i,a,f⟩:=t;exact⟨M,N,j,i,fun b hb=>⟨(a b hb).1,by have:=(a b hb).2.1;omega,(a b hb).2.2⟩,fun b hb=>⟨(f b hb).1,by have:=(f b hb).2;omega⟩⟩
theorem TwoB.appP{c e:Nat}{h:ac}{so i:SliceV}{L:List Pr}{B:List UInt8}{p:Pr}(t:TwoB c e h so i L B)(q:c≤e)(o:e≤h.size)(u:L.length≤1000000){xs:List Value}(hx:xs=il p){K:SliceV→ac→Prop}
  (j:∀s' h',TwoB c h'.size h' s' i (L++ [p]) B→Upd (fun b=>c≤b) h h'→K s' h'):AppP (some [.string (⟨#[]⟩:ByteArray),.string (⟨#[]⟩:ByteArray)]) 2 32 bL so.a so.len so.cap 1 xs h K:=by
 subst hx;obtain⟨M,N,m,k,d,a⟩:=t;refine AppP.own (ys:= [p]) (m.more (M':=fun b=>M b∨h.size≤b) fun _ h=>.inl h) rfl rfl rfl rfl (by omega) (by simp only[List.length_singleton];omega) (.inr (aj _)) fun s' h' n f=>?_
 have s:=f.size;refine j s' h' ⟨_,N,n.within,k.upd f fun b hb hm=>hm.elim (fun hm=>(d b hm).2.2 hb) fun hm=>by have:=(a b hb).2;omega,fun b hb=>⟨?_,hb.2,fun g=>?_⟩,fun b hb=>⟨(a b hb).1,by have:=(a b hb).2;omega⟩⟩ (f.mono fun b hb=>hb.elim (fun hb=>.inl (d b hb).1) .inr)
 ·rcases hb.1 with hb|hb
  ·exact(d b hb).1
  ·omega
 ·rcases hb.1 with hb|hb
  ·exact(d b hb).2.2 g
  ·have:=(a b g).2;omega
theorem TwoB.appB{W:Nat→Prop}{f g:Nat}{h:ac}{so d e:SliceV}{L:List Pr}{B ys:List UInt8}(t:TwoB f g h so d L B)(v:f≤g)(u:g≤h.size)(k:Sl m8 1 W h e ys)(n:B.length+ys.length≤140737488355328){K:SliceV→ac→Prop}
  (m:∀s' h',TwoB f h'.size h' so s' L (B++ys)→Upd (fun b=>f≤b) h h'→K s' h'):∃xs,SRow h e.a (e.len*1) xs∧AppP (some [.int .u8 0]) 1 1 bX d.a d.len d.cap e.len xs h K:=by
 obtain⟨M,N,p,o,a,j⟩:=t;refine wy (M:=fun b=>N b∨h.size≤b) (o.more fun _ h=>.inl h) k (fun _ h=>.inr h) n fun s' h' q i=>?_
 have s:=i.size;refine m s' h' ⟨M,_,p.upd i fun b hb hm=>hm.elim (fun hm=>(a b hb).2.2 hm) fun hm=>by have:=(a b hb).2.1;omega,q.within,fun b hb=>⟨(a b hb).1,by have:=(a b hb).2.1;omega,fun c=>?_⟩,fun b hb=>⟨?_,hb.2⟩⟩ (i.mono fun b hb=>hb.elim (fun hb=>.inl (j b hb).1) .inr)
 ·rcases c.1 with c|c
  ·exact(a b hb).2.2 c
  ·have:=(a b hb).2.1;omega
 ·rcases hb.1 with hb|hb
  ·exact(j b hb).1
  ·omega
theorem AO{β:Type}(g:Nat→Option β):∀n,(fm g n).length≤n
 |0=>by simp[fm]
 |n+1=>by
  rw[iK,ae];have:=AO g n;cases g n<;>simp<;>omega
theorem SQ{β:Type}(g:Nat→Option β){n m:Nat}(h:n≤m):∃r,fm g m=fm g n++r:=by
 obtain⟨j,rfl⟩:∃j,m=n+j:=⟨m-n,by omega⟩
 clear h;induction j with
 |zero=>exact⟨[],by simp⟩
 |succ j ih=>obtain⟨r,a⟩:=ih;exact⟨r++(g (n+j)).toList,by rw[←Nat.add_assoc,iK,a,List.append_assoc]⟩
set_option maxRecDepth 4000 in
theorem Q5{x:Hs}:∀(m:Nat),m≤13→∀{h:ac} {b:Nat} {l:List Pr},DTrie No x h m b l→Fit l→l.length≤60000→∀{K:SliceV→ac→Prop},(∀s' h',OwnS m8 1 bX (fun y=>h.size≤y) h' s' (d8 x m l)→Upd No h h'→K s' h')→
  HC PG zm [.pointer (some ⟨b,0,none⟩),.int .i64 ((13-m:Nat):Int)] [.c .slice] K h:=by
 intro m;induction m with
 |zero=>
  intro _ h b l t hf hn K hk;refine IZ (some ⟨b,0,none⟩) ((13-0:Nat):Int) ?_;unfold Eh aR cx bj pq bK qT p6 eY;obtain⟨_,⟨sa,sn,sc⟩,hb,hs⟩:=t;obtain rfl:sn=l.length:=hs.len;have g:∀{h':ac} {i:Nat},Upd No h h'→i<130→aX h' (adr ⟨b,0,none⟩ i)=some (dF true ⟨sa,l.length,sc⟩ (fun _=> []) (fun _=>none) i):=fun k hi=>by rw[bB,aL (k.get0 hb),aA,DN hi]
  have r0:=Upd.refl No h;have e1:d8 x 0 l= [1]++kQ l.length 2++jb l:=by unfold d8;simp
  have hpl:=kO hf;rw[e1]at hk;refine⟨_,rfl,true,g (i:=0) r0 (by omega),ay.2 ⟨_,rfl,⟨sa,l.length,sc⟩,g (i:=1) r0 (by omega),_,rfl,⟨sa,l.length,sc⟩,g (i:=1) r0 (by omega),?_,?_⟩⟩
  ·refine aV fun V b1 k1=>⟨g (i:=1) k1 (by omega),g (i:=1) k1 (by omega),?_⟩
   have o1:=wX (b:=1) b1;refine Cu (n:=l.length) (by omega) fun s2 o C e=>⟨g (i:=1) (k1.tr e) (by omega),g (i:=1) (k1.tr e) (by omega),?_⟩
   have s1:=k1.size;have s2':=e.size;refine wy (o1.upd e fun _ _ h=>h) (C.sl (W:=No) fun _ _ _ h=>h) (fun y d=>by show h.size≤y;omega) (by rw[cI];simp) fun s3 v A J=>?_
   have u:Upd No h v:=(k1.tr e).trans J fun y d=>.inr d
   refine⟨g (i:=1) u (by omega),g (i:=1) u (by omega),?_⟩;refine AD (hs.upd u fun _ h=>h.elim) hf hn fun s4 h4 s f=>⟨g (i:=1) (u.tr f) (by omega),?_⟩
   have s3':=u.size;have E:=f.size;refine wy (A.upd f fun _ _ h=>h) (s.sl (W:=No) fun _ _ _ h=>h) (fun y d=>by show h.size≤y;omega) (by rw[ae,cI];simp;omega) fun s5 O z T=>?_
   have Q:Upd No h O:=(u.tr f).trans T fun y d=>.inr d
   exact⟨g (i:=1) Q (by omega),hk s5 O z Q⟩
  ·refine Cu (n:=l.length) (by omega) fun s2 o C e=>⟨g (i:=1) e (by omega),g (i:=1) e (by omega),?_⟩
   refine aV fun V b1 k1=>⟨g (i:=1) (e.tr k1) (by omega),g (i:=1) (e.tr k1) (by omega),?_⟩
   have o1:=wX (b:=1) b1;have s1:=k1.size;have s2':=e.size;refine wy (M:=fun y=>h.size≤y) (o1.more fun y d=>by show h.size≤y;omega) ((C.upd k1 fun _ _ h=>h).sl (W:=No) fun _ _ _ h=>h) (fun y d=>by show h.size≤y;omega) (by rw[cI];simp) fun s3 v A J=>?_
   have u:Upd No h v:=(e.tr k1).trans J fun y d=>.inr d
   refine⟨g (i:=1) u (by omega),g (i:=1) u (by omega),?_⟩;refine AD (hs.upd u fun _ h=>h.elim) hf hn fun s4 h4 s f=>⟨g (i:=1) (u.tr f) (by omega),?_⟩
   have s3':=u.size;have E:=f.size;refine wy (A.upd f fun _ _ h=>h) (s.sl (W:=No) fun _ _ _ h=>h) (fun y d=>by show h.size≤y;omega) (by rw[ae,cI];simp;omega) fun s5 O z T=>?_
   have Q:Upd No h O:=(u.tr f).trans T fun y d=>.inr d
   exact⟨g (i:=1) Q (by omega),hk s5 O z Q⟩
 |succ m ih=>
  intro hm h b l t hf hn K hk;refine IZ (some ⟨b,0,none⟩) ((13-(m+1):Nat):Int) ?_;unfold Eh aR cx bj pq bK qT p6 eY;obtain⟨_,kk,hb,hkid⟩:=t;have elev:(13-(m+1):Nat)=12-m:=by omega
  rw[elev];obtain⟨q,hq⟩:∃q:Nat→List Pr,q=fun c=>part x (12-m) c l:=⟨_,rfl⟩
  have F:∀c,part x (12-m) c l=q c:=fun c=>by rw[hq]
  rw[←hq]at hb;have g:∀{h':ac} {i j:Nat},Upd No h h'→i+j<130→aX h' (adr (adr ⟨b,0,none⟩ i) j)=some (dF false ⟨none,0,0⟩ q kk (i+j)):=fun k hi=>by rw[bB,bB,aL (k.get0 hb),aA,DN hi]
  have g0:aX h (adr ⟨b,0,none⟩ 0)=some (dF false ⟨none,0,0⟩ q kk 0):=by rw[bB,aL hb,DN (by omega)]
  refine⟨_,rfl,false,g0,ah.2 ?_⟩;have hML:∀L∈j8 x (12-m) l,2≤L.length∧(d8 x m L).length≤9+L.length*(20004+9*(m+1)):=fun L hL=>by
   obtain⟨v,c,rfl⟩:=oH hL;exact⟨v,mH m hf.part⟩
  have htot:((j8 x (12-m) l).flatMap (d8 x m)).length≤60000*(20004+9*(m+1)+9):=by
   have V:=Ct hML;have o:=Ax x (12-m) l;exact aW V (bP _ (by omega))
  have hm20:20004+9*(m+1)+9≤20200:=by omega
  have X:((j8 x (12-m) l).flatMap (d8 x m)).length≤60000*20200:=aW htot (Nat.mul_le_mul_left _ hm20);have U:∀c,c≤32→((fm (fun j=>ge (q j)) c).flatMap (d8 x m)).length≤60000*20200:=fun c hc=>by
   obtain⟨r,hr⟩:=SQ (fun j=>ge (q j)) hc
   have:((fm (fun j=>ge (q j)) 32).flatMap (d8 x m)).length≤60000*20200:=by rw[hq];exact X
   rw[hr,bA,ae]at this;omega
  refine LoopP.ghost (fun(c:Nat) (t:Int×Int×SliceV×SliceV×Int×Int) h'=>t.1=((hH (fun j=>(gE (q j)).isSome) c:Nat):Int)∧t.2.1=((hH (fun j=>(ge (q j)).isSome) c:Nat):Int)∧t.2.2.2.2.1=((2^c%4294967296:Nat):Int)∧t.2.2.2.2.2=(c:Int)∧c≤32∧
   TwoB h.size h'.size h' t.2.2.1 t.2.2.2.1 (fm (fun j=>gE (q j)) c) ((fm (fun j=>ge (q j)) c).flatMap (d8 x m))∧Upd No h h') (fun c=>32-c) 0 ⟨rfl,rfl,rfl,rfl,by omega,⟨No,No,OwnS.nil iu,OwnS.nil rt,fun _ h=>h.elim,fun _ h=>h.elim⟩,Upd.refl _ _⟩ ?_
  rintro I c ⟨dt,nt,sl,sk,bt,ct⟩ h' ⟨e1,e2,e3,e4,hc32,hT,Z⟩ hI;simp only at e1 e2 e3 e4 hT;subst e1 e2 e3 e4;have s0:=Z.size;have wide:∀{V o:ac},Upd No h V→Upd (fun b=>h.size≤b) V o→Upd No h o:=fun a k=>a.trans k fun y d=>.inr d
  refine aw (fun w=>?_) fun hge=>?_
  ·have w:c<32:=by have:(c:Int)<32:=w;omega
   have ec:(c:Int).toNat*1=c:=by omega
   have ec2:(c:Int).toNat*2=c*2:=by omega
   have hbd:=kY (fun j=>(gE (q j)).isSome) c
   have hbn:=kY (fun j=>(ge (q j)).isSome) c
   have hpw:2^c≤2^31:=Nat.pow_le_pow_right (by omega) (by omega);have P:2^c%4294967296=2^c:=cW (by omega);have vis:dF false ⟨none,0,0⟩ q kk (2+c)=.int .i64 (KF (q c)):=by rw[Ms (by omega) (by omega),show 2+c-2=c by omega]
   refine Join.intro (fun(t:Int×SliceV) o=>t.1=((hH (fun j=>(gE (q j)).isSome) (c+1):Nat):Int)∧TwoB h.size o.size o t.2 sk (fm (fun j=>gE (q j)) (c+1)) ((fm (fun j=>ge (q j)) c).flatMap (d8 x m))∧Upd No h o) (fun R hR=>?_) ?_
   ·refine⟨_,rfl,⟨by simp only;omega,by simp only;omega⟩,KF (q c),?_,?_⟩
    ·simp only[ec];rw[g Z (by omega),vis]
    rw[Rs];have G:hH (fun j=>(gE (q j)).isSome) (c+1)=hH (fun j=>(gE (q j)).isSome) c+(if(gE (q c)).isSome then 2^c else 0):=rfl
    cases hso:gE (q c)with
    |none=>
     rw[hso]at G;refine ah.2 (hR _ _ ⟨by rw[G];rfl,?_,Z⟩);rw[iK,hso];simpa using hT
    |some p=>
     rw[hso]at G;have ep:Cd (gE (q c))=p:=by rw[hso];rfl
     refine ay.2 ⟨_,rfl,⟨by simp only;omega,by simp only;omega⟩,p.1,?_,p.2,?_,aV fun o b2 e=>⟨_,mr b2,?_⟩⟩
     ·simp only[ec2];rw[bB,bB,bB,aL (Z.get0 hb),aA,DN (by omega),IC (by omega) (by omega) (by omega),show(34+c*2+0-34)/2=c by omega,ep]
     ·simp only[ec2];rw[bB,bB,bB,aL (Z.get0 hb),aA,DN (by omega),IA (by omega) (by omega) (by omega),show(34+c*2+1-34)/2=c by omega,ep]
     ·have s2:=e.size
      have hl:=AO (fun j=>gE (q j)) c
      refine(hT.upd0 e).appP (p:=p) s0 s2 (by omega) rfl fun s3 v H J=>hR _ _ ⟨?_,?_,wide (Z.tr e) J⟩
      ·rw[G,P]
       simp only[Option.isSome_some,if_true];rw[IntKind.wrap_u32];omega
      ·rw[iK,hso];exact H
   rintro⟨dt,sl2⟩ o ⟨rfl,hT2,u2⟩;simp only at hT2⊢;have s2:=u2.size;refine Join.intro (fun(t:Int×SliceV) v=>t.1=((hH (fun j=>(ge (q j)).isSome) (c+1):Nat):Int)∧TwoB h.size v.size v sl2 t.2 (fm (fun j=>gE (q j)) (c+1)) ((fm (fun j=>ge (q j)) (c+1)).flatMap (d8 x m))∧Upd No h v) (fun R hR=>?_) ?_
   ·refine⟨_,rfl,⟨by omega,by omega⟩,KF (q c),?_,?_⟩
    ·rw[ec,g u2 (by omega),vis]
    rw[Rr];have G:hH (fun j=>(ge (q j)).isSome) (c+1)=hH (fun j=>(ge (q j)).isSome) c+(if(ge (q c)).isSome then 2^c else 0):=rfl
    cases hma:ge (q c)with
    |none=>
     rw[hma]at G;refine ah.2 (hR _ _ ⟨by rw[G];rfl,?_,u2⟩);rw[iK (fun j=>ge (q j)),hma];simpa using hT2
    |some L=>
     rw[hma]at G;have hL2:2≤(q c).length∧L=q c:=by
      unfold ge at hma;by_cases o:2≤(q c).length
      ·rw[if_pos o]at hma;exact⟨o,(Option.some.inj hma).symm⟩
      ·rw[if_neg o]at hma;cases hma
     obtain⟨h2l,rfl⟩:=hL2;refine ay.2 (aw (fun _=>?_) fun hx=>absurd (show((12-m:Nat):Int)<13 by omega) hx)
     obtain⟨kb,hkb,td⟩:=hkid c w (by rw[F];exact h2l);rw[F]at td;have hpt:(q c).length≤l.length:=by rw[←F];exact pv
     have hpf:Fit (q c):=by rw[←F];exact hf.part
     have e14:IntKind.wrap .i64 (((12-m:Nat):Int)+1)=((13-m:Nat):Int):=by rw[kE (by omega)];omega
     refine⟨_,rfl,⟨by omega,by omega⟩,some ⟨kb,0,none⟩,?_,?_⟩
     ·rw[ec,g u2 (by omega),IB (by omega),show 98+c-98=c by omega,hkb]
     rw[e14];refine ih (by omega) (DTrie.upd u2 (fun _ h=>h.elim) td) hpf (by omega) fun s4 h4 s f=>?_
     have E:=f.size;have Y:=U (c+1) (by omega);rw[iK,hma,bA,ae]at Y;simp only[Option.toList_some,List.flatMap_cons,List.flatMap_nil,List.append_nil]at Y;refine(hT2.upd0 f).appB s2 E (s.sl (W:=No) fun _ _ _ h=>h) (by omega) fun s5 O hT5 T=>hR _ _ ⟨?_,?_,wide (u2.tr f) T⟩
     ·rw[G,P]
      simp only[Option.isSome_some,if_true];rw[IntKind.wrap_u32];omega
     ·rw[iK (fun j=>ge (q j)),hma,bA]
      simpa using hT5
   rintro⟨nt,sk2⟩ v ⟨rfl,H,u⟩;simp only at H⊢;rw[bN w (by omega),O9];exact hI (c+1) _ _ ⟨rfl,rfl,rfl,rfl,w,H,u⟩ (by omega)
  ·obtain rfl:c=32:=by have:¬(c:Int)<32:=hge;omega
   have e1:d8 x (m+1) l= [0]++kQ (hH (fun j=>(gE (q j)).isSome) 32) 4++kQ (hH (fun j=>(ge (q j)).isSome) 32) 4++jb (fm (fun j=>gE (q j)) 32)++(fm (fun j=>ge (q j)) 32).flatMap (d8 x m):=by
    rw[hq];unfold d8;simp[jo,j8]
   rw[e1]at hk;have hD:=kY (fun j=>(gE (q j)).isSome) 32
   have hN:=kY (fun j=>(ge (q j)).isSome) 32
   have hsf:Fit (fm (fun j=>gE (q j)) 32):=fun p hp=>hf p (tM (x:=x) (lev:=12-m) (by unfold jo;rw[hq]at hp;exact hp))
   have hsl:=AO (fun j=>gE (q j)) 32
   have hps:=kO hsf;have Y:=U 32 (aj _);obtain⟨M,N,o1,o2,hMb,hNb⟩:=hT;generalize hH (fun j=>(gE (q j)).isSome) 32=D at*
   generalize hH (fun j=>(ge (q j)).isSome) 32=N' at*
   generalize fm (fun j=>gE (q j)) 32=S at*
   generalize (fm (fun j=>ge (q j)) 32).flatMap (d8 x m)=B at*
   have hsS:Sl il 2 No h' sl S:=o1.sl fun _ _ _ h=>h
   have hsB:Sl m8 1 No h' sk B:=o2.sl fun _ _ _ h=>h
   refine Join.plain (aV fun V b1 k1=>?_)
   simp only;have ob:=wX (b:=0) b1;refine HX (by omega) fun s2 o C e=>?_
   have s1:=k1.size;have s2':=e.size;refine wy (M:=fun y=>h'.size≤y) (ob.upd e fun _ _ h=>h) (C.sl (W:=No) fun _ _ _ h=>h) (fun y d=>by show h'.size≤y;omega) (by rw[cI];simp) fun s3 v A J=>?_
   have s3':=J.size;refine Join.plain (HX (by omega) fun s4 h4 s f=>?_)
   have E:=f.size;refine wy (M:=fun y=>h'.size≤y) (A.upd f fun _ _ h=>h) (s.sl (W:=No) fun _ _ _ h=>h) (fun y d=>by show h'.size≤y;omega) (by rw[ae,cI,cI];simp) fun s5 O z T=>?_
   have s5':=T.size;have Q:Upd No h' O:=(((k1.tr e).trans J fun y d=>.inr d).tr f).trans T fun y d=>.inr d
   refine Join.plain (AD (hsS.upd Q fun _ h=>h.elim) hsf (by omega) fun s6 h6 ho6 k6=>?_)
   have s6':=k6.size;refine wy (M:=fun y=>h'.size≤y) (z.upd k6 fun _ _ h=>h) (ho6.sl (W:=No) fun _ _ _ h=>h) (fun y d=>by show h'.size≤y;omega) (by rw[ae,ae,cI,cI];simp;omega) fun s7 h7 ho7 k7=>?_
   have u7:Upd No h' h7:=(Q.tr k6).trans k7 fun y d=>.inr d
   refine wy (M:=fun y=>h'.size≤y) ho7 (hsB.upd u7 fun _ h=>h.elim) (fun y d=>by have:=u7.size;show h'.size≤y;omega) (by rw[ae,ae,ae,cI,cI];simp;omega) fun s8 h8 ho8 k8=>?_
   refine hk s8 h8 (ho8.more fun y d=>by show h.size≤y;omega) ((Z.tr u7).trans k8 fun y d=>.inr (by omega))
end Go.Proofs
namespace Go.Proofs
open Go Go.Lift
end Go.Proofs
namespace Go.Proofs
open Go Go.Lift
end Go.Proofs
namespace Go.Proofs
open Go Go.Lift
theorem MS{kind:Int}{x:Hs}{l:List Pr}{xs:List UInt8}(hv:FU kind x l xs)(a:Fit l)(b:l.length≤60000):xs.length≤100000000000:=by
 rcases hv with⟨_,rfl⟩|⟨_,ys,c,rfl⟩
 ·have d:=mH (x:=x) 13 a
  have e:l.length*(20004+9*(13+1))≤60000*(20004+9*(13+1)):=bP _ b;rw[aN];omega
 ·have d:=y5 c a
  rw[aN];omega
theorem M7{W:Nat→Prop}{x:Hs}{h:ac}{kind:Int}{r:Rt}{l:List Pr}(C:kind=0∨kind=1)(i:RefIs W h kind x r l)(S:dL l)(k:Fit l)(z:l.length≤60000){K:SliceV→ac→Prop}
  (L:∀s' h' xs,OwnS m8 1 bX (fun y=>h.size≤y) h' s' xs→FU kind x l xs→Upd No h h'→K s' h'):HC PG wd [Th r] [.c .slice] K h:=by
 refine IW r ?_;unfold BW az bO Cr Ho f7 p6;obtain⟨s,rfl,u,hc⟩:=i;have u:=u.less (W':=No) fun _ h=>h.elim
 refine aV fun B b1 k1=>⟨_,vc b1 0,?_⟩
 have A:=k1.size;rcases C with rfl|rfl
 ·refine ah.2 (aV fun X b3 a=>⟨_,iW (a.get0 b1) 1 0,_,iW (a.get0 b1) 1 1,_,iW (a.get0 b1) 1 2,s,vc (a.get0 b1) 4,?_⟩)
  have H:=wX (b:=0) b3;have t:=k1.tr a;have Y:∀v,hx 0 v=v:=fun v=>if_pos rfl
  simp only[Y];refine O2 (x:=x) (u.upd t fun _ h=>h.elim) z (fun p G=>by have:=k p G;omega) fun P b V e=>?_
  have R:=a.size;have N:=e.size;refine Q5 13 (aj _) V k z fun T Q d g=>?_
  have E:=g.size;have n:=mH (x:=x) 13 k;have Z:l.length*(20004+9*(13+1))≤60000*(20004+9*(13+1)):=bP _ z;refine wy (M:=fun y=>B.size≤y) ((H.upd e fun _ _ h=>h).upd g fun _ _ h=>h) (d.sl (W:=No) fun _ _ _ h=>h) (fun y c=>by show B.size≤y;omega) (by simp;omega) fun J I j D=>?_
  exact L J I _ (j.more fun y c=>aW A c) (.inl ⟨rfl,rfl⟩) (((t.tr e).tr g).trans D fun y c=>.inr (aW A c))
 ·refine ay.2 (aV fun X b3 a=>⟨s,vc (a.get0 b1) 4,?_⟩)
  have H:=wX (b:=1) b3;have t:=k1.tr a;refine Q1 (u.upd t fun _ h=>h.elim) hc S z (fun p G=>by have:=k p G;have:=KC p.1;show(ky p).length≤_;unfold ky;omega) fun P b w F U f q e=>?_
  have R:=a.size;have N:=e.size;obtain⟨o,O⟩:=vT f q k;have m:Lc l (gy ([],w,F)):=⟨w,F,f,q,rfl⟩;have n:=y5 m k;refine Mq (lab:= []) (by simp) O (pj f) (DL o) U rfl (by omega) fun T Q d g=>?_
  have E:=g.size;refine wy (M:=fun y=>B.size≤y) ((H.upd e fun _ _ h=>h).upd g fun _ _ h=>h) (d.sl (W:=No) fun _ _ _ h=>h) (fun y c=>by show B.size≤y;omega) (by simp;omega) fun J I j D=>?_
  exact L J I _ (j.more fun y c=>aW A c) (.inr ⟨rfl,_,m,rfl⟩) (((t.tr e).tr g).trans D fun y c=>.inr (aW A c))
end Go.Proofs
namespace Go.Proofs
open Go Go.Lift
theorem AH{α:Type}[DecidableEq α]:∀{l m:List α},l.Nodup→(∀y∈l,y∈m)→l.length≤m.length
 | [],_,_,_=>aP _
 |a::l,m,b,hs=>by
  have b:=List.nodup_cons.1 b;have c:=hs a List.mem_cons_self;have:=AH (m:=m.erase a) b.2 fun y d=>(List.mem_erase_of_ne fun e:y=a=>b.1 (by rw[←e];exact d)).2 (hs y (List.mem_cons_of_mem _ d))
  rw[List.length_erase_of_mem c]at this;have:=List.length_pos_of_mem c;rw[aN];omega
theorem EC{W:Nat→Prop}{h:ac}{a:Nat}{s:VS}(v:VaultAt W h a s)(b:s.B= []){K:SliceV→ac→Prop}(c:∀h',Upd No h h'→K ⟨none,0,0⟩ h'):HC PG ft [pV a] [.c .slice] K h:=by
 refine nQ (some ⟨a,0,none⟩) ?_;unfold jA aR;exact ah.2 ⟨_,rfl,_,vc v.blk 8,Fp (b▸v.b) c⟩
theorem MP{W:Nat→Prop}{h:ac}{a:Nat}{s:VS}(v:VaultAt W h a s)(b:s.G= []){K:SliceV→ac→Prop}(c:∀h',Upd No h h'→K ⟨none,0,0⟩ h'):HC PG g4 [pV a] [.c .slice] K h:=by
 refine rx (some ⟨a,0,none⟩) ?_;unfold mW aR;exact ah.2 ⟨_,rfl,_,vc v.blk 9,Fp (b▸v.n) c⟩
set_option maxHeartbeats 2000000 in
theorem Ns{h:ac}{vp xp xg st:Nat}{s:VS}{re:Rt}{ts:SliceV}{Ds:List (Int×Rt)}(g:St21 h vp xp xg s re ts Ds)(b:h[st]? =some (.cells #[.pointer (some ⟨vp,0,none⟩),.pointer (some ⟨xp,0,none⟩)] pu (0,0))) (hf:∀d∈s.D,d.2.2.length≤60000) {K:Bool→ac→Prop} (hk:∀h',Upd No h h'→K true h'):
  HC PG oO [.pointer (some ⟨st,0,none⟩)] [.c .bool] K h:=by
 refine Bh (some ⟨st,0,none⟩) ?_;unfold uf aR cx az gT ad bO ci bw ag bj eB nv rO ol vA rP vr uW Qk Hq Ho aC w8 f7 kN bK Hu EA Ht MM;refine⟨_,rfl,_,vc b 0,MQ g.v fun h4 k4 gr=>?_⟩
 obtain⟨sg,tg,Ls,bg,lg,pg,cg⟩:=g.f.r.blk;have lenL:sg.len=s.L.length:=by rw[lg.len,pg.len]
 have fw:=g.v.inv.few;have two:∀v∈s.L,v.2.length*4≤140737488355328:=fun v hv=>by have:=g.v.inv.good.two v hv;omega
 have key:∀{h'},Upd No h h'→h'[st]? =some (.cells #[.pointer (some ⟨vp,0,none⟩),.pointer (some ⟨xp,0,none⟩)] pu (0,0))∧h'[xp]? =some (.cells (xC re++ [Value.pointer (some ⟨xg,0,none⟩),.slice ts.a ts.len ts.cap,.slice none 0 0,.slice none 0 0]).toArray m4 (0,0))∧h'[xg]? =some (.cells #[sv sg,.int .u32 s.nx] tg (0,0)):=fun k=>⟨k.get0 b,k.get0 g.f.blk,k.get0 bg⟩
 refine Join.intro (fun t h'=>t=false∧Upd No h4 h') (fun R V=>?_) ?_
 ·obtain⟨b4,x4,y4⟩:=key k4
  refine⟨_,rfl,_,vc b4 0,_,rfl,_,vc b4 1,_,rfl,(⟨none,0,0⟩:SliceV),vc x4 7,EC (g.upd0 k4).v g.nB.1 fun h13 k13=>?_⟩
  obtain⟨b13,x13,y13⟩:=key (k4.tr k13);refine⟨vc x13 7,vc b13 1,HK ⟨vc b13 1,ah.2 ⟨_,rfl,_,vc b13 0,_,rfl,_,vc b13 1,_,rfl,(⟨none,0,0⟩:SliceV),vc x13 8,MP (g.upd0 (k4.tr k13)).v g.nB.2 fun h23 k23=>?_⟩⟩⟩
  obtain⟨p,U,y23⟩:=key ((k4.tr k13).tr k23);have gr23:=gr.upd0 (k13.tr k23);refine⟨vc U 8,vc p 1,vc p 1,HK ⟨vc p 1,vc p 1,ah.2 ⟨_,rfl,_,vc p 1,_,rfl,_,vc U 5,_,rfl,sg,vc y23 0,RA gr23 ⟨vc y23 0,vc U 5,vc p 1,vc p 1,vc p 1,CondP.intro (fun e=>absurd e (by rw[lenL];simp)) fun _=>?_⟩⟩⟩⟩
  refine⟨_,rfl,_,vc p 1,_,rfl,_,vc U 5,_,rfl,_,vc y23 1,Px gr23 ⟨vc y23 1,vc U 5,vc p 1,vc y23 0,vc U 5,vc p 1,vc p 1,vc p 1,V _ _ ⟨bne_self_eq_false _,k13.tr k23⟩⟩⟩
 ·rintro _ h43 ⟨rfl,k43⟩
  have k043:=k4.tr k43;obtain⟨b43,x43,y43⟩:=key k043;refine ah.2 ⟨_,rfl,_,vc b43 1,_,rfl,(⟨none,0,0⟩:SliceV),vc x43 7,?_⟩;refine LoopP.ghost (fun(_:Unit) (t:Int) h'=>t=0∧h'=h43) (fun _=>0) () ⟨rfl,rfl⟩ ?_
  rintro I _ t h' ⟨rfl,rfl⟩ _;refine aw (fun e=>absurd e (by simp)) fun _=>⟨_,rfl,_,vc b43 1,_,rfl,(⟨none,0,0⟩:SliceV),vc x43 8,?_⟩
  refine LoopP.ghost (fun(_:Unit) (t:Int) h2=>t=0∧h2=h') (fun _=>0) () ⟨rfl,rfl⟩ ?_
  rintro I _ t h2 ⟨rfl,rfl⟩ _;refine aw (fun e=>absurd e (by simp)) fun _=>⟨_,rfl,_,vc b43 1,_,rfl,_,vc x43 5,_,rfl,sg,vc y43 0,?_⟩
  refine LoopP.ghost (fun(i:Nat) (t:Int) h'=>t=(i:Int)∧i≤s.L.length∧Upd No h2 h') (fun i=>s.L.length-i) 0 ⟨rfl,aP _,Upd.refl _ _⟩ ?_
  rintro I i t h94 ⟨rfl,hi,k94⟩ hI;have f:=k043.tr k94;refine aw (fun T=>?_) fun hge=>?_
  ·have T:i<s.L.length:=by omega
   have hlt2:i<Ls.length:=by rw[pg.len];exact T
   obtain⟨pe,pn⟩:=pg.get hlt2 T;obtain⟨a,ha,_,hv⟩:=(lg.upd f fun _ h=>h.elim).at (al hlt2)
   have hmem:s.L[i]∈s.L:=aU T;have hid:s.L[i].1∈kC s.L:=bE.2 ⟨_,hmem,rfl⟩;have hpos:=g.v.inv.pos _ hid;obtain⟨d,hd⟩:∃d,cE s.D s.L[i].1=some d:=by
    cases e:cE s.D s.L[i].1 with
    |none=>exact absurd ((g.v.sub _).2 hid) (hJ.1 e)
    |some d=>exact⟨d,rfl⟩
   have hdm:=D2 hd;have H:=hf _ hdm;have nd:(s.D.map (·.1)).Nodup:=g.v.t.nodup
   have hDl:s.D.length≤100000:=by
    have h1:(s.D.map (·.1)).length≤(kC s.L).length:=AH nd fun y hy=>(g.v.sub y).1 hy
    rw[cZ,cZ]at h1;omega
   have hps:(cE s.L s.L[i].1).getD []=s.L[i].2:=by
    have hm:(s.L[i].1,s.L[i].2)∈s.L:=hmem;rw[(m9 g.v.inv.good.nd).2 hm];rfl
   refine⟨⟨by omega,by omega⟩,a,ha,_,hv 0 _ rfl,Ls[i].2,hv 1 _ rfl,?_⟩
   refine aV fun h98 b98 k98=>cy (c:= [.int .u32 0,.slice none 0 0]) (vs:=vf Ls[i]) b98 rfl fun h99 Z u99=>?_
   have k99:Upd No h94 h99:=k98.own u99 (aj _);have J:=f.tr k99;refine Join.intro (fun(t:Addr×Int) h'=>∃ub,t=(⟨ub,0,none⟩,0)∧h'[ub]? =some (.cells (kG d.1).toArray bl (0,0))∧Upd No h99 h') (fun R V=>?_) ?_
   ·refine⟨_,rfl,_,vc (key J).1 0,_,vc Z 0,?_,aV fun h175 b175 O=>⟨vc (O.get0 Z) 0,vc (key (J.tr O)).1 0,?_⟩⟩
    ·rw[pe]
     refine vC (g.upd0 J).v s.L[i].1 (fun e=>by omega) (fun d' w _ h172 k172=>?_) fun e=>by rw[hd]at e;cases e
     rw[hd]at w;cases w;refine aV fun h173 b173 k173=>cy (c:=kG qW) (vs:=kG d.1) b173 rfl fun h174 b174 u174=>V _ _ ⟨_,rfl,b174,(k172.tr k173).own u174 k172.size⟩
    ·rw[pe]
     refine vC (g.upd0 (J.tr O)).v s.L[i].1 (fun e=>by omega) (fun d' w _ h177 k177=>?_) fun e=>by rw[hd]at e;cases e
     rw[hd]at w;cases w;exact cy (c:=kG qW) (vs:=kG d.1) (k177.get0 b175) rfl fun h178 b178 u178=>V _ _ ⟨_,rfl,b178,(O.tr k177).own u178 (aj _)⟩
   ·rintro⟨ua,ue⟩ F ⟨ub,eu,bu,D⟩
    obtain⟨rfl,rfl⟩:=Prod.mk.inj eu;have j:=J.tr D;refine Join.intro (fun(t:Addr) h'=>∃ur r,t=⟨ur,0,none⟩∧h'[ur]? =some (.cells (xC r).toArray dA (0,0))∧RefIs (fun y=>s.M y∨y=xg∨y=xp) h' s.kind s.x r d.2∧Upd No F h') (fun R V=>?_) ?_
    ·refine⟨_,rfl,_,vc (key j).1 1,_,vc (D.get0 Z) 0,?_,aV fun h215 b215 S=>⟨vc ((D.tr S).get0 Z) 0,vc (key (j.tr S)).1 1,?_⟩⟩
     ·rw[pe]
      refine H1 (g.upd0 j).f nd hd (by omega) hid (by omega) hDl fun h212 q q1 q2 qe k212=>?_
      have kq:∀{h'},Upd No F h'→RefIs (fun y=>s.M y∨y=xg∨y=xp) h' s.kind s.x Ds[q].2 d.2:=fun k=>by rw[←qe];exact((g.upd0 (j.tr k)).f.par q q1 q2).2
      generalize Ds[q].2=r at kq;refine aV fun h213 b213 k213=>cy (c:=xC OX) (vs:=xC r) b213 rfl fun h214 b214 u214=>?_
      have kk:Upd No F h214:=(k212.tr k213).own u214 k212.size;exact V _ _ ⟨_,r,rfl,b214,kq kk,kk⟩
     ·rw[pe]
      refine H1 (g.upd0 (j.tr S)).f nd hd (by omega) hid (by omega) hDl fun h217 q q1 q2 qe k217=>?_
      have kq:∀{h'},Upd No F h'→RefIs (fun y=>s.M y∨y=xg∨y=xp) h' s.kind s.x Ds[q].2 d.2:=fun k=>by rw[←qe];exact((g.upd0 (j.tr k)).f.par q q1 q2).2
      generalize Ds[q].2=r at kq;refine cy (c:=xC OX) (vs:=xC r) (k217.get0 b215) rfl fun h218 b218 u218=>?_
      have kk:Upd No F h218:=(S.tr k217).own u218 (aj _);exact V _ _ ⟨_,r,rfl,b218,kq kk,kk⟩
    ·rintro _ h220 ⟨ur,r,rfl,br,jr,L⟩
     have k0220:=j.tr L;refine Join.intro (fun t h'=>t=false∧Upd No h220 h') (fun R V=>?_) ?_
     ·have Y:=(D.tr L).get0 Z
      refine ah.2 ⟨_,vc Y 0,Ls[i].2,vc Y 1,?_⟩;rw[pe];have gr220:=gr.upd0 (k43.tr (k94.tr (k99.tr (D.tr L))));refine It gr220 s.L[i].1 two fun s' h225 o C=>⟨vc (C.get0 Y) 1,?_⟩
      rw[hps]at o;refine PF (W:=No) (W':=fun y=>s.M y∨y=xg∨y=xp) (o.sl fun _ _ _ h=>h) (pn.upd (k0220.tr C) fun _ h=>h.elim) (by have:=g.v.inv.good.two _ hmem;omega) ?_
      rw[decide_eq_true rfl];have u:=C.get0 (L.get0 bu);have m:=C.get0 br;obtain⟨i1,i2,i3⟩:=(g.upd0 (k0220.tr C)).v.ts _ hdm;refine ah.2 ⟨_,vc u 0,_,vc u 1,_,vc u 2,_,vc u 3,_,vc u 4,_,vc u 5,_,vc m 0,_,vc m 1,_,vc m 2,_,vc m 3,r.2.2.2.2,vc m 4,?_⟩;refine Aw i1 i2 i3 H fun s1 h240 xs tv o1 X=>?_
      have z:=X.get0 m;refine⟨⟨vc z 0,vc z 1,vc z 2,vc z 3,vc z 4⟩,M7 g.v.kd ((jr.upd0 C).upd0 X) i2 i3 H fun s2 h242 ys o2 tv2 k242=>?_⟩
      have exy:xs=ys:=(HF (fun _=>rfl) tv tv2 i3 i3 H H i2 i2).2 rfl
      subst exy;have hl:=MS tv i3 H;exact M9 ((o1.upd k242 fun _ _ h=>h).sl (W:=No) fun _ _ _ h=>h) (o2.sl (W:=No) fun _ _ _ h=>h) (by omega) (V _ _ ⟨rfl,(C.tr X).tr k242⟩)
     ·rintro _ h246 ⟨rfl,k246⟩
      rw[bN (n:=s.L.length) T (by omega)];exact ah.2 (hI (i+1) _ _ ⟨rfl,T,((k94.tr k99).tr (D.tr L)).tr k246⟩ (by omega))
  ·have hnx:s.nx∉kC s.L:=fun hm=>by have:=(g.v.inv.pos _ hm).2;omega
   have hnD:cE s.D s.nx=none:=hJ.2 fun hm=>hnx ((g.v.sub _).1 hm)
   have nx1:=g.v.inv.nx1;obtain⟨b94,x94,y94⟩:=key f;refine Join.intro (fun(t:Int) h'=>t=4∧Upd No h94 h') (fun R V=>?_) ?_
   ·refine⟨_,rfl,_,vc b94 0,_,rfl,_,vc b94 1,_,rfl,_,vc x94 5,_,rfl,_,vc y94 1,?_,aV fun h260 b260 Q=>?_⟩
    ·refine vC (g.upd0 f).v s.nx (fun e=>by omega) (fun d' w=>by rw[hnD]at w;cases w) fun _ _ h257 P=>?_
     obtain⟨b257,x257,y257⟩:=key (f.tr P);refine⟨vc x257 5,vc b257 1,aV fun h258 b258 k258=>?_⟩
     obtain⟨b2,x2,y2⟩:=key ((f.tr P).tr k258);exact⟨vc x2 5,vc b2 1,cy (c:=kG qW) (vs:=kG qW) b258 rfl fun h259 b259 u259=>V _ _ ⟨rfl,(P.tr k258).own u259 P.size⟩⟩
    ·obtain⟨b2,x2,y2⟩:=key (f.tr Q)
     refine⟨vc y2 1,vc x2 5,vc b2 1,vc b2 0,vC (g.upd0 (f.tr Q)).v s.nx (fun e=>by omega) (fun d' w=>by rw[hnD]at w;cases w) fun _ _ h262 k262=>?_⟩
     obtain⟨b3,x3,y3⟩:=key ((f.tr Q).tr k262);exact⟨vc x3 5,vc b3 1,cy (c:=kG qW) (vs:=kG qW) (k262.get0 b260) rfl fun h263 b263 u263=>V _ _ ⟨rfl,(Q.tr k262).own u263 (aj _)⟩⟩
   ·rintro _ h265 ⟨rfl,k265⟩
    have N:=f.tr k265;refine⟨_,rfl,_,vc (key N).1 0,vC (g.upd0 N).v 0 (fun _ h269 k269=>?_) (fun _ _ e=>absurd rfl e) fun _ e=>absurd rfl e⟩
    refine aV fun h270 b270 k270=>cy (c:=kG qW) (vs:=kG s.e) b270 rfl fun h271 B u271=>?_
    have k271:Upd No h265 h271:=(k269.tr k270).own u271 k269.size;have x:=N.tr k271;refine ay.2 (ay.2 ⟨_,vc B 0,_,vc B 1,_,vc B 2,_,vc B 3,_,vc B 4,_,vc B 5,QP (g.upd0 x).v.em cQ (by simp) fun h279 G=>ay.2 ?_⟩)
    have A:=G.get0 B;refine⟨_,vc A 0,_,vc A 1,_,vc A 2,_,vc A 3,_,vc A 4,_,vc A 5,_,rfl,_,vc (key (x.tr G)).1 0,oC (g.upd0 (x.tr G)).v fun h289 k289=>?_⟩
    have E:=k289.get0 A;have em:=(g.upd0 ((x.tr G).tr k289)).v.em;refine⟨⟨vc E 0,vc E 1,vc E 2,vc E 3,vc E 4,vc E 5⟩,OI em em cQ (fun _ h=>by cases h) (by simp) cQ (fun _ h=>by cases h) (by simp) fun h291 k291=>?_⟩
    rw[Kt];exact hk _ (((x.tr G).tr k289).tr k291)
end Go.Proofs
namespace Go.Proofs
open Go Go.Lift
end Go.Proofs
namespace Go.Proofs
open Go Go.Lift
end Go.Proofs
namespace Go.Proofs
open Go Go.Lift
end Go.Proofs
namespace Go.Proofs
open Go Go.Lift
end Go.Proofs
namespace Go.Proofs
open Go Go.Lift
theorem OK{h:ac}{K:Int→ac→Prop}(c:∀h',Upd No h h'→K 0 h'):HC PG iz [Hm qW] [.c (.int .i64)] K h:=by
 refine qi qW ?_;unfold mz az ag ol;refine aV fun b b1 k1=>⟨_,vc b1 0,ah.2 ⟨_,vc b1 4,?_⟩⟩
 refine wF _ ?_;unfold sV aR cx;refine sr _ ?_;unfold nS bj;refine ay.2 ?_;refine tT _ ?_;unfold oV bj;refine ay.2 ?_;refine LoopP.ghost (fun(_:Unit) (t:Int×Int) h'=>t=(0,0)∧h'=b) (fun _=>0) () ⟨rfl,rfl⟩ ?_
 rintro I _ t f ⟨rfl,e⟩ d;rw[e];refine aw (fun a=>absurd a (by simp only;omega)) fun _=>c b k1
end Go.Proofs
namespace Go.Proofs
open Go Go.Lift
theorem Ka{x:Hs}{h:ac}{kind:Int}(i:kind=0∨kind=1){K:Option Addr×Int→ac→Prop}(t:∀h' re xg xp,RefIs No h' kind x re []→h'[xg]? =some (.cells #[.slice none 0 0,.int .u32 1] Bs (0,0))→h'[xp]? =some (.cells (xC re++ [Value.pointer (some ⟨xg,0,none⟩),.slice none 0 0,.slice none 0 0,.slice none 0 0]).toArray m4 (0,0))→h.size≤xg→xg<xp→Upd No h h'→K (some ⟨xp,0,none⟩,0) h'):
  HC PG AS [.int .i64 kind,.agg #[.int .u64 x.k0,.int .u64 x.k1,.int .u64 x.mask]] [.c .ptr,.c (.int .i64)] K h:=by
 refine NR kind (x.k0,x.k1,x.mask) ?_;unfold FY az ad nv Cv Cr Hq Ho f7;refine aV fun y b1 k1=>⟨_,vc b1 0,_,vc b1 1,_,vc b1 2,?_⟩
 refine Q3 (W:=No) (x:=x) i fun u r s p=>?_
 refine aV fun w q v=>cy (c:=xC OX) (vs:=xC r) q rfl fun o g k=>ah.2 ⟨_,vc g 0,_,vc g 1,_,vc g 2,_,vc g 3,r.2.2.2.2,vc g 4,?_⟩
 have f:Upd No u o:=v.own k (aj _);have e:=(k1.tr p).tr f;refine aV fun m b d=>aV fun j n a=>t j r o.size m.size (s.upd0 ((f.tr d).tr a)) (a.get0 b) n e.size (bF b) ((e.tr d).tr a)
theorem Kq{x:Hs}{h:ac}{kind:Int}(f:kind=0∨kind=1){K:Option Addr→ac→Prop}
  (F:∀h' n gp gm tm bm nm t st e j re,St21 h' n e j ⟨gp,gm,tm,bm,nm,kind,x,t,[],1,[],[],[]⟩ re ⟨none,0,0⟩ []→h'[st]? =some (.cells #[.pointer (some ⟨n,0,none⟩),.pointer (some ⟨e,0,none⟩)] pu (0,0))→
   (∀y,(VS.M ⟨gp,gm,tm,bm,nm,kind,x,t,[],1,[],[],[]⟩ y∨y=j∨y=e)→h.size≤y∧y<st)→Upd No h h'→K (some ⟨st,0,none⟩) h'):
  HC PG yl [.int .i64 kind,.agg #[.int .u64 x.k0,.int .u64 x.k1,.int .u64 x.mask]] [.c .ptr] K h:=by
 refine Lu kind (x.k0,x.k1,x.mask) ?_;unfold Ep ad Cv Cr L7 Bo;refine aV fun m b1 k1=>⟨_,vc b1 0,_,vc b1 1,_,vc b1 2,?_⟩
 have R:=k1.size;refine LO (W:=No) (x:=x) (fun _ h=>h.elim) f fun I n gp gm tm bm nm t v P J o=>?_
 have u:=o.get0 b1;refine⟨_,vc u 0,_,vc u 1,_,vc u 2,?_⟩;refine Pe fun N g=>Ka (x:=x) f fun k re j e G L A Q B s=>?_
 refine Join.plain (ah.2 (ah.2 (aV fun q w b=>?_)))
 have c:=(g.tr s).tr b;have S:=o.size;have D:=g.size;have O:=bF A;have E:=b.size;have hM:∀y,VS.M ⟨gp,gm,tm,bm,nm,kind,x,t,[],1,[],[],[]⟩ y→m.size≤y∧y<I.size:=fun y a=>⟨J y a,v.size a⟩
 have d:∀y,(VS.M ⟨gp,gm,tm,bm,nm,kind,x,t,[],1,[],[],[]⟩ y∨y=j∨y=e)→m.size≤y∧y<k.size:=fun y a=>by
  rcases a with a|rfl|rfl
  ·have:=hM y a;omega
  ·omega
  ·omega
 obtain⟨C,p,z,H⟩:=G;refine F q n gp gm tm bm nm t k.size e j re ⟨v.re c (fun _ h=>h.elim) (fun y a=>⟨?_,?_⟩) fun _=>.inl,fun y a=>by have:=hM y a;omega,?_,rfl,rfl⟩ w (fun y a=>?_) ((k1.tr o).tr c)
 ·rcases a with a|rfl|rfl
  ·exact .inl (.inr a)
  ·exact .inr (by omega)
  ·exact .inr (by omega)
 ·have:=d y a;omega
 ·exact⟨⟨⟨⟨none,0,0⟩,_,[],b.get0 L,Sl.nil Ou,trivial,aj _⟩,.inr (.inl rfl),fun y a=>by have:=d y a;omega⟩,.inr (.inr rfl),by omega,b.get0 A,⟨C,p,⟨z.len,z.ne,fun h=>absurd rfl h⟩,H⟩,Sl.nil L1,rfl,fun i m _=>by cases m⟩
 ·have:=d y a;omega
end Go.Proofs
namespace Go.Proofs
open Go Go.Lift
theorem Ty{h:ac}{b:Nat}{vs:List Value}{t:TypeId}(hb:h[b]? =some (.cells vs.toArray t (0,0))):SRow h (some ⟨b,0,none⟩) vs.length vs:=
 ⟨rfl,.inr ⟨_,rfl,np hb fun i v hv=>by rw[aA,List.getElem?_toArray];exact hv⟩⟩
def vB(a:Int):ByteArray:=⟨#[dW (a%256).toNat]⟩
theorem Ul(a:Int):Value.int .u8 (IntKind.wrap .u8 a)=.int .u8 (((dW (a%256).toNat).toNat:Nat):Int):=by
 have e:IntKind.wrap .u8 a=a%256:=by simp[IntKind.wrap,IntKind.signed,IntKind.bits]
 rw[e];congr 1
 rw[UInt8.toNat_ofNat'];have c:0≤a%256:=Int.emod_nonneg _ (by decide);have b:a%256<256:=Int.emod_lt_of_pos _ (by decide);rw[cW (by omega)];omega
theorem oo{h:ac}{b:Nat}{t:TypeId}{a:Int}(hb:h[b]? =some (.cells #[.int .u8 (IntKind.wrap .u8 a)] t (0,0))):SRow h (some ⟨b,0,none⟩) 1 (bv (vB a)):=by
 rw[Ul a]at hb;exact Ty hb
abbrev nK:ByteArray:=⟨#[107]⟩
abbrev pK(a:Int):Pr:=(nK,vB a)
def sP(s:VS)(L:de)(nx:Int)(D:List (Int×TD)):VS:={s with L:=L,nx:=nx,D:=D}
theorem Q6{s:VS}{L:de}{nx:Int}{D:List (Int×TD)}{id:Int}{d:TD}{ps:List Int}:Kb (sP s L nx D) id d ps=sP s (gA L nx id ps).2.1 (gA L nx id ps).2.2 (if(gA L nx id ps).1=0 then jZ D id d else D):=by
 unfold Kb;by_cases e:(gA L nx id ps).1=0
 ·rw[if_pos (show(gA (sP s L nx D).L (sP s L nx D).nx id ps).1=0 from e),if_pos e];rfl
 ·rw[if_neg (show ¬(gA (sP s L nx D).L (sP s L nx D).nx id ps).1=0 from e),if_neg e,Dc e]
abbrev Uq(q:SliceV):List Value:= [.slice q.a q.len q.cap]
theorem rT{W:Nat→Prop}{h:ac}{d:Nat}{s:VS}(v:VaultAt W h d s)(a:Int){hc:ac}(k:Upd No h hc){K:Tr×Int→ac→Prop}(e:∀h' b,TreeIs (Pro W h hc) h' s.kind s.x b [pK a]→Upd No hc h'→K (b,0) h'):
  HC PG cL [Hm s.e,.pointer none,.agg #[.string nK,.string (vB a)]] [.agg [.int .i64,.int .u64,.int .u64,.int .u64,.ptr,.ptr],.c (.int .i64)] K hc:=
 CY (v.em.pro k) (Pro.lt v.g.lt k) cQ (by simp) (pK a) (by show(1:Nat)≤256;omega) (by show(1:Nat)≤4096;omega) fun h' b c _ k'=>e h' b c k'
theorem Gw{W:Nat→Prop}{h:ac}{kind:Int}{x:Hs}{re:Rt}(e:RefIs W h kind x re [])(c:∀y,W y→y<h.size)(a:Int){hc:ac}(k:Upd No h hc){K:Rt×Int→ac→Prop}(b:∀h' r,RefIs (Pro W h hc) h' kind x r [pK a]→Upd No hc h'→K (r,0) h'):
  HC PG oL [Th re,.agg #[.string nK,.string (vB a)]] [.agg [.int .i64,.int .u64,.int .u64,.int .u64,.slice],.c (.int .i64)] K hc:=
 O1 ((e.less Pro.hm).upd0 k) (Pro.lt c k) cQ (by simp) (pK a) (by show(1:Nat)≤256;omega) (by show(1:Nat)≤4096;omega) b
theorem Rk{W W':Nat→Prop}{h h':ac}{kind a:Int}{x c:Hs}{t u:Tr}{l l':List Pr}(i:TreeIs W h kind x t l)(d:TreeIs W' h' a c u l')(f:kind≠a):qq t u=false:=by
 have e:∀{W:Nat→Prop} {h:ac} {kind:Int} {x:Hs} {t:Tr} {l:List Pr},TreeIs W h kind x t l→t.1=kind:=fun i=>by
  rcases i with⟨rfl,b,rfl,_⟩|⟨rfl,b,rfl,_⟩<;>rfl
 unfold qq;rw[e i,e d,beq_false_of_ne f,Bool.false_and]
structure PtI(h h':ac)(vp xp xg st:Nat)(s:VS)(re:Rt)(L:de)(nx:Int)(D:List (Int×TD))(ts:SliceV)(Ds:List (Int×Rt)):Prop where
 g:St21 h' vp xp xg (sP s L nx D) re ts Ds
 len:∀d∈D,d.2.2.length≤1
 st:h'[st]? =some (.cells #[.pointer (some ⟨vp,0,none⟩),.pointer (some ⟨xp,0,none⟩)] pu (0,0))
 k:Upd No h h'
 hb:h'[h.size]? =some (.cells #[.int .u64 s.x.k0,.int .u64 s.x.k1,.int .u64 s.x.mask] cq (0,0))
theorem PtI.up0{h h' a:ac}{c d b st:Nat}{s:VS}{re:Rt}{L:de}{nx:Int}{D:List (Int×TD)}{ts:SliceV}{Ds:List (Int×Rt)}(p:PtI h h' c d b st s re L nx D ts Ds)(k:Upd No h' a):PtI h a c d b st s re L nx D ts Ds:=⟨p.g.upd0 k,p.len,k.get0 p.st,p.k.tr k,k.get0 p.hb⟩
set_option maxHeartbeats 4000000 in
theorem F9{h:ac}{k:Int}{x:Hs}{si sp:SliceV}{is:List Int}{pp:List SliceV}{txt:ByteArray}(hi:Nums No h si is)(hi0:∀n∈is,0≤n)(hp:Sl Uq 1 No h sp pp)(hpp:∀q∈pp,∃ps,Nums No h q ps∧q.len≤q.cap)(hk0:0≤k)(hk1:k≤255):
  HC PG uX [.int .u8 k,.agg #[.int .u64 x.k0,.int .u64 x.k1,.int .u64 x.mask],.slice si.a si.len si.cap,.slice sp.a sp.len sp.cap,.string txt] [.c .bool] (fun b h'=>b=true∧Upd No h h') h:=by
 refine Cm k (x.k0,x.k1,x.mask) si sp txt ?_;unfold vm aR cx az gT ad bO ci bw ag bj eB nv Cv Cr rO ol zl2 N6 To vA rP vr Qj uW Qk rQ Hq Ho;have hkk:=TM hk0 hk1;generalize IntKind.wrap .i64 (Int.tmod k 2)=kind at hkk;refine aV fun h1 b1 k1=>K8 fun h3 k3=>ah.2 ⟨by decide,?_⟩
 have c3:=k3.get0 b1;refine⟨_,vc c3 0,_,vc c3 1,_,vc c3 2,?_⟩;refine Kq (x:=x) hkk fun h8 vp gp gm tm bm nm e st xp xg re g8 b8 hlt k8=>?_
 have k38:=(k1.tr k3).tr k8;have s13:=(k1.tr k3).size;generalize hsv:(⟨gp,gm,tm,bm,nm,kind,x,e,[],1,[],[],[]⟩:VS)=s at g8 hlt;have hsk:s.kind=kind∧s.x=x∧s.e=e:=by rw[←hsv];exact⟨rfl,rfl,rfl⟩
 have hW:∀y,(s.M y∨y=xg∨y=xp)→h.size<y∧st≠y:=fun y f=>by have:=hlt y f;have:=bF b1;have:=k3.size;omega
 have p0:PtI h h8 vp xp xg st s re [] 1 [] ⟨none,0,0⟩ []:=⟨by rw[←hsv]at g8⊢;exact g8,(fun _ h=>by cases h),b8,k38,by rw[hsk.2.1];exact k8.get0 c3⟩
 refine ah.2 (Join.intro (fun _ h'=>∃L nx D ts Ds,PtI h h' vp xp xg st s re L nx D ts Ds) (fun R9 hR9=>?_) ?_)
 ·have hil:=hi.len
  have hpl:=hp.len;refine LoopP.ghost (fun(q:Nat×de×Int×List (Int×TD)×SliceV×List (Int×Rt)) (t:Int) h'=>t=(q.1:Int)∧q.1≤is.length∧PtI h h' vp xp xg st s re q.2.1 q.2.2.1 q.2.2.2.1 q.2.2.2.2.1 q.2.2.2.2.2) (fun q=>is.length-q.1) (0,[],1,[],⟨none,0,0⟩,[]) ⟨rfl,aP _,p0⟩ ?_
  rintro I ⟨i,L,nx,D,ts,Ds⟩ t h12 ⟨rfl,hil',p⟩ hI;simp only at hil' p hI⊢;refine aw (fun hlt'=>?_) fun _=>hR9 _ _ ⟨L,nx,D,ts,Ds,p⟩
  have hlt':i<is.length:=by omega
  obtain⟨a,ha,_,hv⟩:=Nums.at (hi.upd p.k fun _ h=>h.elim) hlt'
  have id0:=hi0 _ (aU hlt');generalize is[i]=id at hv id0;refine⟨⟨by omega,by omega⟩,a,ha,_,hv,?_⟩
  refine Join.intro (fun t h'=>t=decide (i≥12∨i≥pp.length)∧h'=h12) (fun R hR=>aw (fun e=>hR _ _ ⟨?_,rfl⟩) fun e=>hR _ _ ⟨?_,rfl⟩) ?_
  ·rw[decide_eq_true (.inl (by omega))]
  ·rw[decide_eq_decide];omega
  ·rintro _ W ⟨rfl,rfl⟩
   refine aw (fun _=>hR9 _ _ ⟨L,nx,D,ts,Ds,p⟩) fun hnot=>?_
   have i12:i<12:=by omega
   have ipp:i<pp.length:=by omega
   obtain⟨ap,hap,_,hvp⟩:=(hp.upd p.k fun _ h=>h.elim).at0 (g:=fun q:SliceV=>.slice q.a q.len q.cap) (al ipp)
   obtain⟨ps,hps,hcap⟩:=hpp _ (aU ipp);generalize pp[i]=q at hvp hps hcap;obtain⟨mn,hmn,m3,ml⟩:∃mn:Nat,(if 3<(q.len:Int)then(3:Int)else(q.len:Int))=(mn:Int)∧mn≤3∧mn≤q.len:=by
    by_cases e:3<(q.len:Int)
    ·exact⟨3,by rw[if_pos e];rfl,by omega,by omega⟩
    ·exact⟨q.len,by rw[if_neg e],by omega,by omega⟩
   have w:=p.g;have hlt17:∀y,(s.M y∨y=xg∨y=xp)→y<W.size:=w.v.g.lt;refine⟨⟨by omega,by omega⟩,ap,hap,q,hvp,⟨by omega,by omega⟩,ap,hap,q,hvp,?_⟩
   rw[hmn];refine⟨⟨by omega,by omega⟩,?_⟩
   refine Join.intro (fun(t:Addr) h'=>∃tb K,t=⟨tb,0,none⟩∧W.size≤tb∧h'[tb]? =some (.cells (kG K).toArray bl (0,0))∧TreeIs (fun y=>s.M y∨y=xg∨y=xp) h' s.kind s.x K [pK i]∧Upd No W h') (fun R hR=>?_) ?_
   ·have finA:∀{hc hw h3:ac} {tb:Nat} {K:Tr},Upd No W hc→Upd No hc hw→TreeIs (Pro (fun y=>s.M y∨y=xg∨y=xp) W hc) hw s.kind s.x K [pK i]→Upd No hw h3→W.size≤tb→h3[tb]? =some (.cells (kG K).toArray bl (0,0))→R ⟨tb,0,none⟩ h3:=fun kc kw E k3 ht hb=>hR _ _ ⟨_,_,rfl,ht,hb,(E.upd0 k3).less fun y f=>.inl (.inl f),(kc.tr kw).tr k3⟩
    have J:∀{hc hw h3:ac} {tb:Nat} {K:Tr},Upd No W hc→Upd No hc hw→TreeIs (Pro (fun y=>s.M y∨y=xg∨y=xp) W hc) hw s.kind s.x K [pK i]→Upd (· =tb) hw h3→W.size≤tb→tb<hc.size→h3[tb]? =some (.cells (kG K).toArray bl (0,0))→R ⟨tb,0,none⟩ h3:=fun{hc hw h3 tb K} kc kw E u ht hc' hb=>hR _ _ ⟨_,_,rfl,ht,hb,(E.updM u fun y f=>.inl (.inr (by have f:y=tb:=f;omega))).less fun y f=>.inl (.inl f),(kc.tr kw).own u ht⟩
    refine⟨_,rfl,_,vc p.st 0,oC w.v fun h159 H=>⟨aV fun h160 b160 k160=>⟨_,oo b160,rT w.v i (H.tr k160) fun h163 K E k163=>⟨oo (k163.get0 b160),aV fun h164 b164 k164=>⟨oo (k164.get0 (k163.get0 b160)),cy (c:=kG qW) (vs:=kG K) b164 rfl fun h165 b165 u165=>?_⟩⟩,aV fun h166 b166 k166=>⟨oo (k166.get0 b160),rT w.v i ((H.tr k160).tr k166) fun h168 K E k168=>⟨oo (k168.get0 (k166.get0 b160)),cy (c:=kG qW) (vs:=kG K) (k168.get0 b166) rfl fun h169 b169 u169=>?_⟩⟩⟩,aV fun h170 b170 k170=>aV fun h171 b171 k171=>⟨_,oo b171,rT w.v i ((H.tr k170).tr k171) fun h174 K E k174=>⟨oo (k174.get0 b171),cy (c:=kG qW) (vs:=kG K) (k174.get0 (k171.get0 b170)) rfl fun h175 b175 u175=>?_⟩⟩⟩,aV fun h176 F v=>⟨vc (v.get0 p.st) 0,_,oo F,oC (w.upd0 v).v fun h179 z=>⟨oo (z.get0 F),rT w.v i (v.tr z) fun h181 K E k181=>⟨oo (k181.get0 (z.get0 F)),aV fun h182 b182 k182=>⟨oo (k182.get0 (k181.get0 (z.get0 F))),cy (c:=kG qW) (vs:=kG K) b182 rfl fun h183 b183 u183=>?_⟩⟩,aV fun h184 b184 k184=>⟨oo (k184.get0 (z.get0 F)),rT w.v i ((v.tr z).tr k184) fun h186 K E k186=>⟨oo (k186.get0 (k184.get0 (z.get0 F))),cy (c:=kG qW) (vs:=kG K) (k186.get0 b184) rfl fun h187 b187 u187=>?_⟩⟩⟩,aV fun h188 b188 U=>⟨oo (U.get0 F),vc ((v.tr U).get0 p.st) 0,oC (w.upd0 (v.tr U)).v fun h190 Z=>⟨oo (Z.get0 (U.get0 F)),rT w.v i ((v.tr U).tr Z) fun h192 K E k192=>⟨oo (k192.get0 (Z.get0 (U.get0 F))),cy (c:=kG qW) (vs:=kG K) (k192.get0 (Z.get0 b188)) rfl fun h193 b193 u193=>?_⟩⟩⟩⟩,aV fun h194 b194 O=>⟨vc (O.get0 p.st) 0,oC (w.upd0 O).v fun h196 k196=>aV fun h197 b197 k197=>⟨_,oo b197,rT w.v i ((O.tr k196).tr k197) fun h199 K E k199=>⟨oo (k199.get0 b197),cy (c:=kG qW) (vs:=kG K) (k199.get0 (k197.get0 (k196.get0 b194))) rfl fun h201 b201 u201=>?_⟩⟩,aV fun h202 b202 k202=>⟨vc ((O.tr k202).get0 p.st) 0,_,oo b202,oC (w.upd0 (O.tr k202)).v fun h205 k205=>⟨oo (k205.get0 b202),rT w.v i ((O.tr k202).tr k205) fun h207 K E k207=>⟨oo (k207.get0 (k205.get0 b202)),cy (c:=kG qW) (vs:=kG K) (k207.get0 (k205.get0 (k202.get0 b194))) rfl fun h208 b208 u208=>?_⟩⟩⟩⟩⟩
    ·exact finA (H.tr k160) k163 E (k164.own u165 (aj _)) ((H.tr k160).tr k163).size b165
    ·exact J ((H.tr k160).tr k166) k168 E u169 (H.tr k160).size (bF b166) b169
    ·exact J ((H.tr k170).tr k171) k174 E u175 H.size (aO (bF b170) k171.size) b175
    ·exact finA (v.tr z) k181 E (k182.own u183 (aj _)) ((v.tr z).tr k181).size b183
    ·exact J ((v.tr z).tr k184) k186 E u187 (v.tr z).size (bF b184) b187
    ·exact J ((v.tr U).tr Z) k192 E u193 v.size (aO (bF b188) Z.size) b193
    ·exact J ((O.tr k196).tr k197) k199 E u201 (aj _) (aO (bF b194) (k196.tr k197).size) b201
    ·exact J ((O.tr k202).tr k205) k207 E u208 (aj _) (aO (bF b194) (k202.tr k205).size) b208
   ·rintro _ P ⟨tb,K,rfl,htb,bt,E,k210⟩
    have A:=p.up0 k210;have g210:=A.g;have z17:=k210.size;refine Join.intro (fun(t:Addr) h'=>∃rb r,t=⟨rb,0,none⟩∧W.size≤rb∧h'[rb]? =some (.cells (xC r).toArray dA (0,0))∧RefIs (fun y=>s.M y∨y=xg∨y=xp) h' s.kind s.x r [pK i]∧Upd No P h') (fun R hR=>?_) ?_
    ·have finA:∀{hc hw h3:ac} {rb:Nat} {r:Rt},Upd No P hc→Upd No hc hw→RefIs (Pro (fun y=>s.M y∨y=xg∨y=xp) P hc) hw s.kind s.x r [pK i]→Upd No hw h3→W.size≤rb→h3[rb]? =some (.cells (xC r).toArray dA (0,0))→R ⟨rb,0,none⟩ h3:=fun kc kw E k3 ht hb=>hR _ _ ⟨_,_,rfl,ht,hb,(E.upd0 k3).less fun y f=>.inl (.inl f),(kc.tr kw).tr k3⟩
     have J:∀{hc hw h3:ac} {rb:Nat} {r:Rt},Upd No P hc→Upd No hc hw→RefIs (Pro (fun y=>s.M y∨y=xg∨y=xp) P hc) hw s.kind s.x r [pK i]→Upd (· =rb) hw h3→P.size≤rb→rb<hc.size→h3[rb]? =some (.cells (xC r).toArray dA (0,0))→R ⟨rb,0,none⟩ h3:=fun{hc hw h3 rb r} kc kw E u ht hc' hb=>hR _ _ ⟨_,_,rfl,aW z17 ht,hb,(E.updM u fun y f=>.inl (.inr (by have f:y=rb:=f;omega))).less fun y f=>.inl (.inl f),(kc.tr kw).own u ht⟩
     have lt210:∀y,(s.M y∨y=xg∨y=xp)→y<P.size:=g210.v.g.lt;have ck:∀{h'},Upd No P h'→h'[xp]? =some (.cells (xC re++ [Value.pointer (some ⟨xg,0,none⟩),.slice ts.a ts.len ts.cap,.slice none 0 0,.slice none 0 0]).toArray m4 (0,0)):=fun k=>k.get0 g210.f.blk
     have c0:=g210.f.blk;refine⟨_,rfl,_,vc A.st 1,_,rfl,_,iW c0 0 0,_,iW c0 0 1,_,iW c0 0 2,_,iW c0 0 3,re.2.2.2.2,iW c0 0 4,aV fun h257 b257 j=>⟨?_,vc (j.get0 A.st) 1,_,oo b257,Gw g210.f.e lt210 i j fun h260 r E k260=>⟨oo (k260.get0 b257),vc ((j.tr k260).get0 A.st) 1,aV fun h261 b261 k261=>⟨oo (k261.get0 (k260.get0 b257)),vc ((j.tr (k260.tr k261)).get0 A.st) 1,cy (c:=xC OX) (vs:=xC r) b261 rfl fun h262 b262 u262=>?_⟩⟩,aV fun h263 b263 V=>⟨oo (V.get0 b257),?_,vc ((j.tr V).get0 A.st) 1,Gw g210.f.e lt210 i (j.tr V) fun h265 r E k265=>⟨oo (k265.get0 (V.get0 b257)),vc ((j.tr (V.tr k265)).get0 A.st) 1,cy (c:=xC OX) (vs:=xC r) (k265.get0 b263) rfl fun h266 b266 u266=>?_⟩⟩⟩,aV fun h267 b267 X=>⟨?_,vc (X.get0 A.st) 1,aV fun h268 b268 T=>⟨?_,vc ((X.tr T).get0 A.st) 1,_,oo b268,Gw g210.f.e lt210 i (X.tr T) fun h271 r E k271=>⟨oo (k271.get0 b268),vc ((X.tr (T.tr k271)).get0 A.st) 1,cy (c:=xC OX) (vs:=xC r) (k271.get0 (T.get0 b267)) rfl fun h272 b272 u272=>?_⟩⟩⟩⟩
     ·have c:=ck j
      exact⟨iW c 0 0,iW c 0 1,iW c 0 2,iW c 0 3,iW c 0 4⟩
     ·exact finA j k260 E (k261.own u262 (aj _)) (aW z17 (j.tr k260).size) b262
     ·have c:=ck (j.tr V)
      exact⟨iW c 0 0,iW c 0 1,iW c 0 2,iW c 0 3,iW c 0 4⟩
     ·exact J (j.tr V) k265 E u266 j.size (bF b263) b266
     ·have c:=ck X
      exact⟨iW c 0 0,iW c 0 1,iW c 0 2,iW c 0 3,iW c 0 4⟩
     ·have c:=ck (X.tr T)
      exact⟨iW c 0 0,iW c 0 1,iW c 0 2,iW c 0 3,iW c 0 4⟩
     ·exact J (X.tr T) k271 E u272 (aj _) (aO (bF b267) T.size) b272
    ·rintro _ h274 ⟨rb,r,rfl,hrb,br,jr,k274⟩
     have Q:=A.up0 k274;have g274:=Q.g;have N:=k274.get0 bt;have hWn:∀y,(s.M y∨y=xg∨y=xp)→y≠rb:=fun y f=>by have:=hlt17 y f;omega
     refine⟨_,rfl,_,vc Q.st 0,_,vc N 0,_,vc N 1,_,vc N 2,_,vc N 3,_,vc N 4,_,vc N 5,_,rfl,_,vc Q.st 1,_,vc br 0,_,vc br 1,_,vc br 2,_,vc br 3,r.2.2.2.2,vc br 4,?_⟩;have nums:∀{h'},Upd No h h'→Nums (fun y=>s.M y∨y=xg∨y=xp) h' ⟨aS q.a 0 q.cap 1,mn-0,q.cap-0⟩ ((ps.drop 0).take (mn-0)):=fun k=>by
      have hl:=hps.len;exact(((hps.sub (l:=0) (hi:=mn) (m:=q.cap) (c:=q.cap-0) (aP _) (by omega) (by omega)).less (W':=fun y=>s.M y∨y=xg∨y=xp) fun y f=>.inr (by have:=(hW y f).1;omega)).upd k fun _ h=>h.elim)
     generalize eps:(ps.drop 0).take (mn-0)=ps' at nums;have hpl':ps'.length*4≤140737488355328:=by rw[←eps,List.length_take];omega
     have rp:dL [pK (i:Int)]:=List.pairwise_singleton _ _;have fp:Fit [pK (i:Int)]:=fun q hq=>by rw[List.mem_singleton.1 hq];exact⟨by show(1:Nat)≤10000;omega,by show(1:Nat)≤10000;omega⟩
     refine QF g274.v id0 (d:=(K,[pK i])) (E.upd0 k274) rp fp (sl:=⟨aS q.a 0 q.cap 1,mn-0,q.cap-0⟩) (nums Q.k) hpl' fun h291 u291 v291=>?_
     rw[Q6]at v291;have S:=u291.get br fun e=>hWn _ (.inl e) rfl
     have st291:=u291.get Q.st fun e=>(hW _ (.inl e)).2 rfl
     have ku291:Upd No h h291:=Q.k.fresh u291 fun y f=>jB (hW y (.inl f)).1
     have f291:=g274.f.upd u291 fun y f=>.inl ⟨.inl f,(p.g.a y f).1,(p.g.a y f).2⟩
     have hD:∀d∈D,d.1∈kC L:=fun d hd=>(w.v.sub d.1).1 (bE.2 ⟨d,hd,rfl⟩)
     have fw:=w.v.inv.few;have nd:(D.map (·.1)).Nodup:=w.v.t.nodup
     have hDl:D.length≤1024:=by
      have h1:(D.map (·.1)).length≤(kC L).length:=AH nd fun y f=>(w.v.sub y).1 f
      have fw:L.length≤1024:=fw;rw[cZ,cZ]at h1;omega
     refine⟨⟨vc S 0,vc S 1,vc S 2,vc S 3,vc S 4⟩,vc st291 1,?_⟩;refine Na (r:=r) f291 hD id0 (jr.updM u291 fun y f=>.inl (.inl f)) (sl:=⟨aS q.a 0 q.cap 1,mn-0,q.cap-0⟩) (nums ku291) hpl' (by have fw:L.length≤1024:=fw;show L.length≤100000;omega) (by show D.length≤100000;omega) fun h293 ts' Ds' u293 f293=>?_
     have ea:∀y,(y=xg∨y=xp)→(s.M y∨y=xg∨y=xp)∧¬s.M y:=fun y f=>⟨.inr f,fun hM=>f.elim (p.g.a y hM).1 (p.g.a y hM).2⟩
     have v293:=v291.upd u293 fun y f=>.inl (ea y f)
     rw[show((gA (sP s L nx D).L (sP s L nx D).nx id ps').1 !=(gA (sP s L nx D).L (sP s L nx D).nx id ps').1)=false from bne_self_eq_false _]
     rw[show IntKind.wrap .i64 ((i:Int)+1)=((i+1:Nat):Int) by rw[kE (by omega)];omega]
     refine ah.2 (hI (i+1,(gA L nx id ps').2.1,(gA L nx id ps').2.2,(if(gA L nx id ps').1=0 then jZ D id (K,[pK i])else D),ts',Ds') _ _ ⟨rfl,hlt',⟨v293,p.g.a,f293 K,p.g.nB⟩,fun d hd=>?_,u293.get st291 fun e=>(hW _ (.inr e)).2 rfl,ku291.fresh u293 fun y f=>jB (hW y (.inr f)).1,u293.get (u291.get Q.hb fun e=>by have:=(hW _ (.inl e)).1;omega) fun e=>by have:=(hW _ (.inr e)).1;omega⟩ (by simp only;omega))
     simp only at hd;split at hd
     ·rcases zy hd with rfl|hd
      ·exact aj 1
      ·exact p.len d hd
     ·exact p.len d hd
 ·rintro _ h295 ⟨L,nx,D,ts,Ds,p⟩
  obtain⟨kd',hkd',hne⟩:∃kd',IntKind.wrap .i64 (1-kind)=kd'∧kind≠kd'∧(kd'=0∨kd'=1):=by
   rcases hkk with rfl|rfl
   ·exact⟨1,by decide,by decide,.inr rfl⟩
   ·exact⟨0,by decide,by decide,.inl rfl⟩
  have c295:h295[h.size]? =some (.cells #[.int .u64 x.k0,.int .u64 x.k1,.int .u64 x.mask] cq (0,0)):=by have:=p.hb;rw[hsk.2.1]at this;exact this
  rw[hkd'];refine⟨by decide,_,vc c295 0,_,vc c295 1,_,vc c295 2,L0 (x:=x) p.g.v.g.lt hne.2 fun h300 o io k300=>?_⟩
  refine aV fun h301 b301 k301=>cy (c:=kG qW) (vs:=kG o) b301 rfl fun h302 b302 u302=>?_
  have k302:Upd No h295 h302:=(k300.tr k301).own u302 k300.size;obtain⟨mn,hmn,m40,ml⟩:∃mn:Nat,(if 40<(txt.size:Int)then(40:Int)else(txt.size:Int))=(mn:Int)∧mn≤40∧mn≤txt.size:=by
   by_cases e:40<(txt.size:Int)
   ·exact⟨40,by rw[if_pos e];rfl,by omega,by omega⟩
   ·exact⟨txt.size,by rw[if_neg e],by omega,by omega⟩
  rw[hmn];have hsz:(txt.extract 0 ((mn:Int).toNat)).size≤1000:=by rw[eh];omega
  refine⟨⟨by omega,by omega⟩,?_⟩
  generalize txt.extract 0 ((mn:Int).toNat)=tx at hsz;show HC _ _ _ _ _ _
  refine Pi fun h305 k305=>aV fun h306 b306 k306=>cy (c:=kG qW) (vs:=kG qW) b306 rfl fun h307 b307 u307=>?_
  have k307:Upd No h302 h307:=(k305.tr k306).own u307 k305.size;refine Km (t:=qW) fun h309 k309=>Nn (vL (Kj ?_))
  have k9:=(k302.tr k307).tr k309;have p309:=p.up0 k9;refine Join.intro (fun t h'=>t=false∧Upd No h309 h') (fun R hR=>?_) ?_
  ·refine E3 fun h318 k318=>H0 hsz ?_
   rw[show(!(m5 tx==m5 tx))=false by simp]
   have p318:=p309.up0 k318;have Y:=k318.get0 (k309.get0 (k307.get0 b302));have io318:=io.upd0 ((((k301.own u302 (aj _)).tr k307).tr k309).tr k318);refine ah.2 ⟨_,rfl,_,vc p318.st 0,_,vc Y 0,_,vc Y 1,_,vc Y 2,_,vc Y 3,_,vc Y 4,_,vc Y 5,Ox (t:=o) (sl:=⟨none,0,0⟩) p318.g.v (Rk io318 p318.g.v.em (by show kd'≠s.kind;rw[hsk.1];exact hne.1.symm)) fun h330 k330=>?_⟩
   refine ah.2 (ah.2 (ah.2 (ah.2 (ah.2 (ah.2 (ah.2 ?_))))));refine Kl (ah.2 ?_);refine Kk (ah.2 ?_);refine Re (ah.2 ?_);refine Nl (ah.2 ?_);refine GB (ah.2 ?_);refine Rh (t:=qW) (s:=⟨none,0,0⟩) fun h342 k342=>ah.2 ?_
   refine GA (ah.2 ?_);refine Np (ah.2 ?_);refine GC (Pj (Nm ?_));refine CondP.intro (fun e=>absurd e (by decide)) fun _=>Nq fun h355 k355=>OK fun h357 k357=>hR _ _ ⟨rfl,(((k318.tr k330).tr k342).tr k355).tr k357⟩
  ·rintro _ h359 ⟨rfl,k359⟩
   have p359:=p309.up0 k359;refine ah.2 (Ns p359.g p359.st (fun d hd=>by have:=p.len d hd;omega) fun h361 k361=>ay.2 ?_)
   have p361:=p359.up0 k361;have C:=p361.g.v;have nx1:1≤nx:=C.inv.nx1;have nx2:nx≤2147483648:=C.inv.nx2;refine⟨_,rfl,_,vc p361.st 0,Bp C 0 fun h365 u365 g365=>?_⟩
   have e0:((0:Int)<(sP s L nx D).nx∨(0:Int)>2147483648):=.inl (show(0:Int)<nx by omega)
   rw[if_pos e0]at g365;rw[decide_eq_true e0];have hTM:∀y,uP s.gp s.gm y→s.M y:=fun y f=>VS.mG f
   have uM:Upd s.M h361 h365:=u365.mono fun y f=>.inl (hTM y f)
   have st365:=uM.get p361.st fun e=>(hW _ (.inl e)).2 rfl
   have f365:=p361.g.f.upd uM fun y f=>.inl ⟨.inl f,p.g.a y f⟩
   obtain⟨sg,tg,Ls,bg,_,_,_⟩:=f365.r.blk;obtain⟨n1,n2,n3,n4,n5,n6,n7,n8,n9,n10⟩:=VS.neB C.ne;have ntg:∀y,y≠s.gp→y≠s.gm→¬uP s.gp s.gm y:=fun y h1 h2 h=>h.elim h1 h2
   have v365:=C.turn (L:=L) (nx:=nx) (D:=D) (B:= []) (G:= []) u365 (fun y f=>.inl (.inl (hTM y f))) g365 (C.t.upd u365 (ntg _ n2.symm n5.symm)) (p.g.nB.1▸C.b.upd u365 (ntg _ n3.symm n6.symm)) (p.g.nB.2▸C.n.upd u365 (ntg _ n4.symm n7.symm)) (fun d hd=>.inl hd) C.sub C.inv
   refine ay.2 ⟨_,rfl,_,vc st365 0,_,rfl,_,vc st365 1,_,rfl,_,vc f365.blk 5,_,rfl,_,vc bg 1,Bp v365 nx fun h375 u375 g375=>?_⟩
   have en:¬(nx<nx∨nx>2147483648):=by omega
   have uM2:Upd s.M h365 h375:=u375.mono fun y f=>.inl (hTM y f)
   have st375:=uM2.get st365 fun e=>(hW _ (.inl e)).2 rfl
   have f375:=f365.upd uM2 fun y f=>.inl ⟨.inl f,p.g.a y f⟩
   refine⟨vc f375.blk 5,vc st375 1,?_,?_⟩
   ·show(!decide (nx<nx∨nx>2147483648))=true
    rw[decide_eq_false en];rfl
   ·exact(p361.k.fresh uM fun y f=>jB (hW y (.inl f)).1).fresh uM2 fun y f=>jB (hW y (.inl f)).1
end Go.Proofs
