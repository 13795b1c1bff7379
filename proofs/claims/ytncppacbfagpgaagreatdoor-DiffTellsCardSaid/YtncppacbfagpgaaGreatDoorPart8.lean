/- A part of the proof that the named laws of this program answer true, whatever the input. -/
import Derived.Test.YtncppacbfagpgaaGreatDoorPart7
import Derived.Test.YtncppacbfagpgaaGreatDoorPart4
import Derived.Test.YtncppacbfagpgaaGreatDoorPart6
open Array renaming length_toList→qv
open List renaming append_nil→aL,append_assoc→ar,length_append→ac,flatMap_cons→aP,map_append→du,map_map→tl,map_congr_left→qu,mem_map→gA,take_append_drop→aK,flatMap_append→bR,flatMap_nil→jJ,mem_cons→aB,length_cons→al,map_nil→kT,length_nil→aJ,length_eq_zero_iff→aw,length_pos_iff→fL,not_mem_nil→im,getElem_cons_zero→gB,mem_cons_self→av,pairwise_cons→aA,sublist_cons_self→nH,mem_cons_of_mem→aC,length_take→aI,mem_append→bI,mem_singleton→aF,nil_append→cz,getElem_of_mem→bm,pairwise_iff_getElem→ce,getElem?_append_right→aN,length_singleton→aE
open List.Lex renaming nil→zY
open Nat renaming lt_of_lt_of_le→aD,le_refl→aj,le_trans→bh,zero_le→aS,succ_pos→qa,pow_add→rR,mul_comm→kS,mul_assoc→uD,mul_le_mul_left→gJ,sub_self→dP
open Prod renaming mk→sZ
namespace Go.Proofs
open Go Go.Lift
theorem SZ{h:ad}{b:Nat}{c:Array Value}{t:TypeId}(a:h[b]? =some (.cells c t (0,0))) (hc:0<c.size):gT h ⟨b,0,none⟩:=⟨c,t,a,hc⟩
theorem TrieAt.plain{W:Nat→Prop}{x:Hs}{h:ad}:∀{m b:Nat} {l:List Pr},TrieAt W x h m b l→gT h ⟨b,0,none⟩
 |0,_,_,t=>by obtain⟨_,_,_,a,_⟩:=BuckAt.ex t;exact SZ a (by simp[gc])
 |m+1,_,_,⟨s,nd,_⟩=>by obtain⟨_,_,_,_,_,a,_⟩:=nd.ex;exact SZ a (by simp[gc])
theorem UX{W Wx:Nat→Prop}{x:Hs}{h:ad}{m b:Nat}{s:Slots}{c:Nat}{l:List Pr}(u:NodeAt W h b s)(hc:c<32)(sl:SlotIs W x h m s c l)(hm:m≤13)(B:bS l)(G:l.length≤100000)(g:∀y,Wx y→y<h.size){K:SliceV→ad→Prop}
  (w:∀s' h',Sl eu 2 Wx h' s' l→s'.len≤s'.cap→Upd No h h'→K s' h'):HC PG xt [.pointer (some ⟨b,0,none⟩),.int .i64 c] [.c .slice] K h:=by
 refine RI _ c ?_;unfold HK nv az lN is vu w9;refine AL u hc fun H k1=>?_
 refine tG fun h2 b2 z=>?_
 have a:=k1.tr z;have f:s.p c=none→Below W x h m ((s.k c).getD none) l:=fun d=>by
  rcases sl with⟨rfl,_,e⟩|⟨p,_,e,_⟩|⟨_,_,F,e,t⟩
  ·rw[e];exact .inl ⟨rfl,rfl⟩
  ·rw[d]at e;cases e
  ·rw[e];exact .inr ⟨F,rfl,t⟩
 rcases d:s.p c with _|p
 ·refine ag.2 (xk (u.upd a fun _ h=>h.elim) hc ?_)
  exact Ll (W':=Wx) ((f d).upd0 a) hm B G (fun y o=>aD (g y o) a.size) fun D i k n j=>w D i k n (a.tr j)
 ·have E:l= [p]:=by
   rcases sl with⟨_,e,_⟩|⟨q,e,v,_⟩|⟨_,e,_⟩
   ·rw[d]at e;cases e
   ·rw[d]at v;cases v;exact e
   ·rw[d]at e;cases e
  subst E;rw[d]at b2;refine au.2 ⟨p.1,vc b2 0,p.2,vc b2 1,aW fun i b3 j=>?_⟩
  have A:OwnS eu 2 ao (fun y=>h.size≤y) i ⟨some (aG h2),1,1⟩ [p]:=⟨rfl,gu,aj _,.inr ⟨h2.size,[],rfl,a.size,b3,rfl⟩⟩
  exact w _ i (A.sl fun y o _ C=>by have:=g y C;omega) (aj _) (a.tr j)
theorem XV{W:Nat→Prop}{x z:Hs}{w:Nat}:∀(m:Nat),m≤13→∀{b b':Nat} {l l':List Pr} {C:Nat→Prop} {h:ad} {L:List Ch},TrieAt W x h m b l→TrieAt W x h m b' l'→SetAt C h w z L→(∀y,C y∨y=w→W y)→(∀y,h.size≤y→W y)→bS l→bS l'→l.length≤100000→l'.length≤100000→L.length+(m+1)*200000≤10000000→
  ∀{K:Unit→ad→Prop},(∀ys,ys.Perm (jX l l')→Xh C h w z (L++ys) (K ()))→HC PG pQ [.pointer (some ⟨w,0,none⟩),.pointer (some ⟨b,0,none⟩),.pointer (some ⟨b',0,none⟩)] [] K h:=by
 intro m;induction m with
 |zero=>
  intro hm b b' l l' C h L t Q st B N S q hn hn' hL K hk;refine yS _ _ _ ?_;unfold ui vu VV NX;refine⟨trivial,fun a a' e e'=>by cases e;cases e';exact⟨t.plain,Q.plain⟩,CondP.intro (fun e=>?_) fun e=>?_⟩
  ·obtain rfl:b=b':=by simpa using e
   obtain rfl:=IL t Q S q;refine hk [] (by rw[Bh]) h C (by rw[aL];exact st) (fun _ h=>.inl h) (Upd.refl _ _)
  ·obtain⟨sp,sk,ow,hb,hsp,_⟩:=BuckAt.ex t
   obtain⟨sp',sk',ow',hb',hsp',_⟩:=BuckAt.ex Q;refine gL hb (au.2 ?_);refine r9 hb hsp (by omega) fun s1 D ho1 k1=>?_
   refine r9 (k1.get0 hb') (hsp'.upd k1 fun _ h=>h.elim) (by omega) fun s2 h2 ho2 k2=>?_
   have s1z:=k1.size;obtain⟨_,G,_⟩:=st.ex;have zsb:=bC G;have Z:=ho1.upd k2 fun _ _ h=>h
   refine Et (st.upd0 (k1.tr k2)) (Z.sl fun y j _ hw=>?_) (ho2.sl fun y j _ hw=>?_) ho1.cap ho2.cap (by omega) fun U C3 M T H=>?_
   ·rcases hw with h|h
    ·have:=st.lt y h;omega
    ·omega
   ·rcases hw with h|h
    ·have:=st.lt y h;omega
    ·omega
   ·have s2z:=k2.size
    exact hk (jX l l') (.refl _) U C3 M (fun y j=>(T y j).imp id fun h=>by omega) ((k1.tr k2).wide.tr H)
 |succ m ih=>
  intro hm b b' l l' C h L t Q st B N S q hn hn' hL K hk;refine yS _ _ _ ?_;unfold ui vu VV NX;refine⟨trivial,fun a a' e e'=>by cases e;cases e';exact⟨t.plain,Q.plain⟩,CondP.intro (fun e=>?_) fun e=>?_⟩
  ·obtain rfl:b=b':=by simpa using e
   obtain rfl:=IL t Q S q;exact hk [] (by rw[Bh]) h C (by rw[aL];exact st) (fun _ h=>.inl h) (Upd.refl _ _)
  have hcl:=vS S q;obtain⟨s,nd,hs⟩:=t;obtain⟨s',nd',P⟩:=Q;have hs:∀c,c<32→SlotIs W x h m s c (part x (12-m) c l):=hs;have P:∀c,c<32→SlotIs W x h m s' c (part x (12-m) c l'):=P;obtain⟨d,n,sp,sk,ow,hb,_⟩:=nd.ex;refine gL hb (ag.2 ?_);refine LoopP.ghost (fun(g:Nat×List Ch×(Nat→Prop)) (t:Int) h'=>t=(g.1:Int)∧g.1≤32∧SetAt g.2.2 h' w z (L++g.2.1)∧(∀y,g.2.2 y→C y∨h.size≤y)∧Upd (fun y=>C y∨y=w) h h'∧g.2.1.Perm ((jX l l').filter fun c=>decide (ck x (12-m) c.1<g.1))) (fun g=>32-g.1) (0,[],C)
   ⟨rfl,by omega,by rw[aL];exact st,fun _ h=>.inl h,Upd.refl _ _,by simp⟩ ?_
  rintro I ⟨i,ys,F⟩ t D ⟨rfl,hi,v,A,u,hp⟩ hI;simp only at hi v A hp;have hCW1:∀y,F y∨y=w→W y:=fun y j=>j.elim (fun h=>(A y h).elim (fun h=>B y (.inl h)) (N y)) fun h=>B y (.inr h)
  have O:∀y,C y∨y=w→W y∨h.size≤y:=fun y j=>.inl (B y j)
  refine ax (fun f=>?_) fun hge=>?_
  rotate_left
  ·have Y:i=32:=by omega
   subst Y;refine hk ys (hp.trans ?_) D F v A u;rw[List.filter_eq_self.2 fun c _=>decide_eq_true (Af x (12-m) c.1)]
  have f:i<32:=by omega
  have J:(jX l l').filter (fun c=>decide (ck x (12-m) c.1=i))=jX (part x (12-m) i l) (part x (12-m) i l'):=(TN (fun k=>decide (ck x (12-m) k=i)) S q).symm
  have hyl:ys.length≤200000:=by
   have:=hp.length_eq;have:=List.length_filter_le (fun c:Ch=>decide (ck x (12-m) c.1<i)) (jX l l')
   omega
  have hpl:=lx (x:=x) (lev:=12-m) (c:=i) (l:=l);have hpl':=lx (x:=x) (lev:=12-m) (c:=i) (l:=l');have step:∀X:List Ch,X.Perm (jX (part x (12-m) i l) (part x (12-m) i l'))→∀h2 C2,SetAt C2 h2 w z ((L++ys)++X)→(∀y,C2 y→F y∨D.size≤y)→Upd (fun y=>F y∨y=w) D h2→I (IntKind.wrap .i64 ((i:Int)+1)) h2:=by
   intro X hz h2 C2 st2 hC2 hu2;rw[ga f (by omega)];refine hI (i+1,ys++X,C2) _ h2 ⟨rfl,f,by rw[←ar];exact st2,fun y j=>?_,?_,?_⟩ (by show 32-(i+1)<32-i;omega)
   ·rcases hC2 y j with h|h
    ·exact A y h
    ·exact .inr (bh u.size h)
   ·exact u.trans hu2 fun y j=>j.elim (fun h=>(A y h).imp .inl id) fun h=>.inl (.inr h)
   ·rw[←J]at hz
    exact(hp.append hz).trans (G9 (fun c:Ch=>ck x (12-m) c.1) i (jX l l'))
  have nd1:=nd.upd u O;have E:=nd'.upd u O;have up:∀{s:Slots} {l:List Pr},SlotIs W x h m s i l→SlotIs W x D m s i l:=fun o=>o.imp id fun o=>o.imp id fun⟨D,h2,kb,U,h4⟩=>⟨D,h2,kb,U,TrieAt.updM u O h4⟩
  have sl:=up (hs i f);have sl':=up (P i f);have hWn1:∀y,D.size≤y→W y:=fun y j=>N y (bh u.size j)
  refine Join.plain (xk nd1 f (xk E f ?_));refine Join.intro (fun t h'=>h'=D∧(t=true→(s.k i).isSome=true∧(s'.k i).isSome=true)) (fun R hR=>?_) ?_
  ·refine CondP.intro (fun e=>hR _ _ ⟨rfl,fun e'=>⟨e,e'⟩⟩) fun e=>hR _ _ ⟨rfl,fun e=>by cases e⟩
  rintro t h2 ⟨rfl,ht⟩;refine CondP.intro (fun e=>?_) fun e=>?_
  ·obtain⟨e1,e2⟩:=ht e
   rcases sl with⟨_,_,e3⟩|⟨p,_,_,e3⟩|⟨_,_,kb,e3,tk⟩
   ·rw[e3]at e1;cases e1
   ·rw[e3]at e1;cases e1
   rcases sl' with⟨_,_,e4⟩|⟨p,_,_,e4⟩|⟨_,_,kb',e4,tk'⟩
   ·rw[e4]at e2;cases e2
   ·rw[e4]at e2;cases e2
   rw[e3,e4];refine ih (by omega) tk tk' v hCW1 hWn1 (ju S) (ju q) (by omega) (by omega) (by rw[ac];omega) fun X hz U C3 M T H=>?_
   exact step X hz U C3 M T H
  ·obtain⟨_,G,_⟩:=v.ex
   have zsb:=bC G;have hWx:∀y,F y∨y=w→y<h2.size:=fun y j=>j.elim (v.lt y) fun h=>by omega
   refine UX (Wx:=fun y=>F y∨y=w) nd1 f sl (by omega) (ju S) (by omega) hWx fun s3 U hs3 hc3 V=>?_
   refine UX (Wx:=fun y=>F y∨y=w) (E.upd V fun _ h=>h.elim) f (sl'.upd0 V) (by omega) (ju q) (by omega) (fun y j=>aD (hWx y j) V.size) fun s4 h4 hs4 hc4 k4=>?_
   refine Et (v.upd0 (V.tr k4)) (hs3.upd k4 fun _ h=>h.elim) hs4 hc3 hc4 (by rw[ac];omega) fun h5 C5 st5 hC5 hu5=>?_
   have s34:=(V.tr k4).size;exact step _ (.refl _) h5 C5 st5 (fun y j=>(hC5 y j).imp id fun h=>by omega) ((V.tr k4).wide.tr hu5)
end Go.Proofs
namespace Go.Proofs
open Go Go.Lift
def abh(pre:List UInt8):ByteArray:=⟨pre.toArray⟩
theorem QF(pre:List UInt8):(abh pre).data.toList=pre:=by unfold abh;simp
theorem S9(k:ByteArray):abh k.data.toList=k:=by cases k;rfl
def EA(pre:List UInt8)(p:List UInt8×ByteArray):Pr:=(abh (pre++p.1),p.2)
def pp(pre:List UInt8)(n:Bn):List Pr:=(x7 n.2.1 n.2.2).map (EA (pre++n.1))
def yz(key:List UInt8)(w:Option ByteArray):List Pr:=(w.map fun v=>(abh key,v)).toList
theorem YM{x y:List UInt8}:kl (abh x) (abh y)↔x<y:=by rw[Ow,ByteArray.toList_eq,ByteArray.toList_eq,QF,QF]
theorem WS(a b:List UInt8)(p:List UInt8×ByteArray):EA a (b++p.1,p.2)=EA (a++b) p:=by unfold EA;rw[ar]
theorem Vc(pre:List UInt8):∀F:Fo,(B8 F).map (EA pre)=F.toL.flatMap (pp pre)
 | .nil=>rfl
 | .cons lab w kids rest=>by
  rw[Ww,Fo.toL_cons,aP,du,Vc pre rest,tl];congr 1
  unfold pp x7;exact qu fun p _=>WS pre lab p
theorem MQ(pre lab:List UInt8)(w:Option ByteArray)(F:Fo):pp pre (lab,w,F)=yz (pre++lab) w++F.toL.flatMap (pp (pre++lab)):=by
 unfold pp;rw[show x7 w F=(w.map fun v=>(([]:List UInt8),v)).toList++B8 F from rfl,du,Vc]
 congr 1
 cases w with
 |none=>rfl
 |some v=>show[EA (pre++lab) ([],v)]=_;unfold EA yz;rw[aL];rfl
theorem uG{pre:List UInt8}{n:Bn}(hc:ge n.2.2):bS (pp pre n):=by
 unfold pp;rw[bS,List.pairwise_map];exact(Vb (w:=n.2.1) hc).imp fun{p q} h=>YM.2 (O6 h)
structure NodeK(n:Bn)(pre:List UInt8):Prop where
 can:ge n.2.2
 len:pre.length+n.1.length≤10000
 all:∀p∈x7 n.2.1 n.2.2,pre.length+n.1.length+p.1.length≤10000
theorem NodeK.kid{n m:Bn}{pre:List UInt8}(k:NodeK n pre)(hm:m∈n.2.2.toL):NodeK m (pre++n.1):=by
 have c:=(eT.1 k.can).2 _ hm;have a:∀p∈x7 m.2.1 m.2.2,(pre++n.1).length+m.1.length+p.1.length≤10000:=fun p d=>by
  have b:tF n.2.2 (m.1++p.1) p.2:=gM.2 ⟨_,hm,p.1,rfl,kI.1 (show(p.1,p.2)∈_ from d)⟩
  have:=k.all (m.1++p.1,p.2) (kI.2 (.inr b));simp only[ac]at this⊢;omega
 obtain⟨r,v,e⟩:=pn k.can _ hm;have:=a (r,v) (kI.2 e);exact⟨c.2.2,by simp only at this;omega,a⟩
theorem G8{pre:List UInt8}{m n:Bn}(hm:m.1≠[])(c:n.1≠[])(h:hd m.1<hd n.1):∀p∈pp pre m,∀q∈pp pre n,kl p.1 q.1:=by
 intro p e q d;unfold pp at e d;obtain⟨a,_,rfl⟩:=gA.1 e;obtain⟨b,_,rfl⟩:=gA.1 d;refine YM.2 ?_;rw[ar,ar];refine O6 (QT (by simp[c]) ?_);rw[qi hm,qi c];exact h
theorem Oi{key:List UInt8}{w:Option ByteArray}{n:Bn}(e:n.1≠[]):∀p∈yz key w,∀q∈pp key n,kl p.1 q.1:=by
 intro p a q d;unfold yz at a;rw[Option.mem_toList,Option.map_eq_some_iff]at a;obtain⟨v,_,rfl⟩:=a;unfold pp at d;obtain⟨b,_,rfl⟩:=gA.1 d;refine YM.2 ?_;rw[ar];conv=>lhs;rw[←aL key]
 refine O6 ?_;match n.1,e with
 |c::l,_=>exact zY
theorem WT{f:Bn→List Pr}(L:List Bn)(i:Nat):((L.take i).flatMap f).length≤(L.flatMap f).length:=by
 conv=>rhs;rw[←aK i L,bR,ac]
 omega
theorem acC{a b:ByteArray}:a.data.toList++b.data.toList=(a++b).data.toList:=by
 rw[ByteArray.data_append,Array.toList_append]
theorem RxL.updN{W M:Nat→Prop}{h h':ad}(k:Upd M h h')(hm:∀b,M b→W b∨h.size≤b){ks:List (Option Addr)}{L:List Bn}(r:RxL W h ks L):RxL W h' ks L:=
 ⟨r.1,fun p e=>let⟨b,sl,d,a,c⟩:=r.2 p e;⟨b,sl,d,a,c.updM k hm⟩⟩
def Zx(n:Bn):Prop:=∀{W:Nat→Prop} {h:ad} {b:Nat} {sl:ByteArray} {ahead:ByteArray},RxN W h b sl n.2.1 n.2.2→sl.data.toList=n.1→NodeK n ahead.data.toList→(pp ahead.data.toList n).length≤1000000→∀{K:SliceV→ad→Prop},(∀s' h',OwnS eu 2 ao (fun y=>h.size≤y) h' s' (pp ahead.data.toList n)→Upd No h h'→K s' h')→HC PG ma [.pointer (some ⟨b,0,none⟩),.string ahead] [.c .slice] K h
theorem P3{lab:List UInt8}{w:Option ByteArray}{F:Fo}(ih:∀n∈F.toL,Zx n):Zx (lab,w,F):=by
 intro W h b sl ahead r e nk V K hk;simp only at r e;have r:=r.less (W':=fun y=>h.size≤y) fun _ h=>.inr h
 refine Ht (some ⟨b,0,none⟩) ahead ?_;unfold Bq bE bX lN is AB;refine ag.2 (pd r ?_);have j:=nk.len;simp only at j;have L:∀k:ByteArray,k.size=k.data.toList.length:=fun k=>by rw[qv];rfl
 have e1:=L ahead;have e2:=L sl;rw[e]at e2;refine⟨by omega,?_⟩;have d:(ahead++sl).data.toList=ahead.data.toList++lab:=by rw[←acC,e]
 have Y:abh (ahead.data.toList++lab)=ahead++sl:=by rw[←d,S9]
 rw[MQ]at V hk;refine Join.intro (fun t h'=>OwnS eu 2 ao (fun y=>h.size≤y) h' t (yz (ahead.data.toList++lab) w)∧Upd No h h') (fun R hR=>?_) ?_
 ·refine Je r fun v hv=>?_
  cases w with
  |none=>exact ag.2 (hR _ _ ⟨OwnS.nil gu,Upd.refl _ _⟩)
  |some u=>
   refine au.2 ?_;have:=hv u rfl;subst this;refine bM ?_;refine yN (p:=(ahead++sl,v)) (M:=fun y=>h.size≤y) (out:= []) (so:=⟨none,0,0⟩) (OwnS.nil gu) (fun _ h=>h) (by simp) fun s1 O x k1=>hR _ _ ⟨?_,k1.mono fun y g=>.inr g⟩
   rw[show yz (ahead.data.toList++lab) (some v)= []++ [(ahead++sl,v)] by unfold yz;rw[Y];rfl]
   exact x
 rintro t O ⟨x,k1⟩;refine FY (r.upd0 k1) (j6 nk.can) fun N h2 ks D J Q=>?_
 have s:Sl qd 1 No h2 N ks:=D.sl fun _ _ _ h=>h
 have G:=s.len;rw[J.1]at G;have H:=j6 nk.can;simp only at H;have z1:=k1.size;have z2:=Q.size;have s:Sl qd 1 (fun y=>h.size≤y∧(y<O.size∨h2.size≤y)) h2 N ks:=D.sl fun y g V hw=>by omega
 refine LoopP.ghost (fun(i:Nat) (t:SliceV×Int) P=>OwnS eu 2 ao (fun y=>h.size≤y∧(y<O.size∨h2.size≤y)) P t.1 (yz (ahead.data.toList++lab) w++(F.toL.take i).flatMap (pp (ahead.data.toList++lab)))∧t.2=(i:Int)∧i≤F.toL.length∧Upd (fun y=>h.size≤y∧(y<O.size∨h2.size≤y)) h2 P) (fun i=>F.toL.length-i) 0 ⟨?_,rfl,aS _,Upd.refl _ _⟩ ?_
 ·rw[List.take_zero,jJ,aL]
  exact(x.within.more fun y g=>⟨g.1,.inl g.2⟩).upd Q fun _ _ h=>h
 rintro I i ⟨ta,ti⟩ P ⟨o,e3,hi,B⟩ hI;simp only at o e3;subst e3;have C:((F.toL.take (i+1)).flatMap (pp (ahead.data.toList++lab))).length≤(F.toL.flatMap (pp (ahead.data.toList++lab))).length:=WT _ _;rw[ac]at V;refine ax (fun c=>?_) fun Z=>?_
 ·have c:i<F.toL.length:=by have:(i:Int)<(N.len:Int):=c;omega
  have U:=J.updN B fun y g=>.inl g.1
  obtain⟨kb,ksl,X,j,E⟩:=U.at c;obtain⟨a,ha,_,hv⟩:=(s.upd B fun _ h=>.inl h).at0 X
  refine Join.plain ⟨⟨by simp only;omega,by simp only;omega⟩,a,ha,some ⟨kb,0,none⟩,hv,?_⟩
  have A:(F.toL.take (i+1)).flatMap (pp (ahead.data.toList++lab))=(F.toL.take i).flatMap (pp (ahead.data.toList++lab))++pp (ahead.data.toList++lab) F.toL[i]:=by
   rw[List.take_succ_eq_append_getElem c,bR];simp
  rw[A,ac]at C;have f:=List.getElem_mem c;generalize F.toL[i]=m at j E A C f;refine ih m f E j (by rw[d];exact nk.kid f) (by rw[d];omega) fun s4 h4 q z=>?_
  rw[d]at q;refine⟨_,(q.sl (W:=No) fun _ _ _ h=>h).srow,?_⟩
  have z3:=B.size;have z4:=z.size;refine AppP.own (ys:=pp (ahead.data.toList++lab) m) (o.upd z fun _ _ h=>h) q.len rfl (xj _) rfl (by omega) (by rw[ac];omega) ⟨by omega,.inr (by omega)⟩ fun s5 h5 T S=>?_
  rw[db c (by omega)];refine hI (i+1) _ _ ⟨?_,rfl,c,(B.tr z.wide).tr S⟩ (by omega);rw[A,←ar];exact T
 ·have hil:i=F.toL.length:=by have:¬(i:Int)<(N.len:Int):=Z;omega
  subst hil;rw[List.take_length]at o;exact hk _ P (o.more fun y g=>g.1) ((k1.tr Q).trans B fun y g=>.inr g.1)
theorem FS:∀{F:Fo},ge F→∀n∈F.toL,Zx n
 | .nil,_,n,a=>by simp[Fo.toL]at a
 | .cons lab w kids rest,h,n,a=>by
  rcases aB.1 a with rfl|a
  ·exact P3 (FS h.2.2.1)
  ·exact FS h.2.2.2.2 n a
theorem X7{n:Bn}{W:Nat→Prop}{h:ad}{b:Nat}{sl:ByteArray}{ahead:ByteArray}(r:RxN W h b sl n.2.1 n.2.2)(e:sl.data.toList=n.1)(nk:NodeK n ahead.data.toList)(c:(pp ahead.data.toList n).length≤1000000){K:SliceV→ad→Prop}(a:∀s' h',OwnS eu 2 ao (fun y=>h.size≤y) h' s' (pp ahead.data.toList n)→Upd No h h'→K s' h'):HC PG ma [.pointer (some ⟨b,0,none⟩),.string ahead] [.c .slice] K h:=
 P3 (FS nk.can) r e nk c a
theorem Hc{W:Nat→Prop}{h:ad}{b:Nat}{sl key:ByteArray}{w:Option ByteArray}{F:Fo}(r:RxN W h b sl w F){K:SliceV→ad→Prop}(a:∀s' h',OwnS eu 2 ao (fun y=>h.size≤y) h' s' (yz key.data.toList w)→Upd No h h'→K s' h'):HC PG zJ [.pointer (some ⟨b,0,none⟩),.string key] [.c .slice] K h:=by
 refine Ut _ key ?_;unfold Lc is;refine Je r fun v hv=>?_
 cases w with
 |none=>exact au.2 (a _ h (OwnS.nil gu) (Upd.refl _ _))
 |some u=>
  have:=hv u rfl;subst this;refine ag.2 (aW fun c b1 k1=>?_)
  refine a _ c ⟨rfl,gu,aj _,.inr ⟨h.size,[],rfl,aj _,?_,rfl⟩⟩ k1;rw[b1];unfold yz;rw[S9];rfl
end Go.Proofs
namespace Go.Proofs
open Go Go.Lift
theorem Z9{α:Type}{f:α→List Value}{a:Nat}{W:Nat→Prop}{h:ad}{s:SliceV}{p:α}{l:List α}(b:Sl f a W h s (p::l))(hc:s.len≤s.cap):Sl f a W h ⟨aY s.a 1 s.cap a,s.len-1,s.cap-1⟩ l:=by
 have d:=b.len;rw[al]at d;have:=Sl.sub b (l:=1) (hi:=s.len) (m:=s.cap) (c:=s.cap-1) (by omega) (by rw[al];omega) hc;rw[show((p::l).drop 1).take (s.len-1)=l by rw[List.drop_succ_cons,List.drop_zero];exact List.take_of_length_le (by omega)]at this
 exact this
theorem aah{W W':Nat→Prop}{h:ad}{b:Nat}{sl a:ByteArray}{w e:Option ByteArray}{F F':Fo}(r:RxN W h b sl w F)(n:RxN W' h b a e F'):sl=a∧w=e∧F=F':=by
 obtain⟨val,s,ow,ks,k,m,j,v,i⟩:=r;obtain⟨d,s',u,q,c,t,g,x,p⟩:=n;rw[k]at c;simp only[Option.some.injEq,Obj.cells.injEq,and_true]at c;obtain⟨o,f,rfl,rfl⟩:=U6 c;have:=Sl.det U5 j g;subst this;exact⟨o,Vg f m t,SD i p⟩
theorem RxN.plain{W:Nat→Prop}{h:ad}{b:Nat}{sl:ByteArray}{w:Option ByteArray}{F:Fo}(r:RxN W h b sl w F):gT h ⟨b,0,none⟩:=by
 obtain⟨val,s,ow,ks,a,_⟩:=r;exact SZ a (by simp[B7])
def NdO(W:Nat→Prop)(h:ad)(pre:List UInt8)(r:Option Addr)(A:List Pr):Prop:=(r=none∧A= [])∨∃b sl n,r=some ⟨b,0,none⟩∧RxN W h b sl n.2.1 n.2.2∧sl.data.toList=n.1∧NodeK n pre∧A=pp pre n
theorem NdO.upd0{W:Nat→Prop}{h h':ad}{pre:List UInt8}{r:Option Addr}{A:List Pr}(k:Upd No h h')(o:NdO W h pre r A):NdO W h' pre r A:=o.imp id fun⟨b,sl,n,c,a,d⟩=>⟨b,sl,n,c,a.upd0 k,d⟩
theorem P2{W:Nat→Prop}{h:ad}{ahead:ByteArray}{r:Option Addr}{A:List Pr}(o:NdO W h ahead.data.toList r A)(c:A.length≤1000000){K:SliceV→ad→Prop}(a:∀s' h',OwnS eu 2 ao (fun y=>h.size≤y) h' s' A→Upd No h h'→K s' h'):HC PG ma [.pointer r,.string ahead] [.c .slice] K h:=by
 rcases o with⟨rfl,rfl⟩|⟨b,sl,n,rfl,r,e,nk,rfl⟩
 ·refine Ht none ahead ?_
  unfold Bq bE bX lN is AB;exact au.2 (a _ h (OwnS.nil gu) (Upd.refl _ _))
 ·exact X7 r e nk c a
theorem Ed{W C:Nat→Prop}{h:ad}{ahead:ByteArray}{r t:Option Addr}{A B:List Pr}{L:List Ch}{j:Nat}{z:Hs}(o:NdO W h ahead.data.toList r A)(v:NdO W h ahead.data.toList t B)(st:SetAt C h j z L)(x:A.length≤1000000)(D:B.length≤1000000)(K:L.length+A.length+B.length≤10000000){G:Unit→ad→Prop}(J:Xh C h j z (L++jX A B) (G ())):
  HC PG ma [.pointer r,.string ahead] [.c .slice] (fun(k:SliceV) u=>HC PG ma [.pointer t,.string ahead] [.c .slice] (fun(a:SliceV) n=>HC PG jF [.pointer (some ⟨j,0,none⟩),.slice k.a k.len k.cap,.slice a.a a.len a.cap] [] (fun(_:Unit) f=>G () f) n) u) h:=by
 refine P2 o x fun O N d k1=>P2 (v.upd0 k1) D fun M h2 b e=>?_
 have H:=k1.size;obtain⟨_,p,_⟩:=st.ex;have w:=bC p;have c:=d.upd e fun _ _ h=>h
 refine Et (st.upd0 (k1.tr e)) (c.sl fun y m _ i=>?_) (b.sl fun y m _ i=>?_) d.cap b.cap (by omega) fun E I g s q=>?_
 ·rcases i with h|h
  ·have:=st.lt y h;omega
  ·omega
 ·rcases i with h|h
  ·have:=st.lt y h;omega
  ·omega
 ·have F:=e.size
  exact J E I g (fun y m=>(s y m).imp id fun h=>by omega) ((k1.tr e).wide.tr q)
theorem Mz{W C:Nat→Prop}{h:ad}{ahead:ByteArray}{r b:Option Addr}{A B:List Pr}{L:List Ch}{c:Nat}{z:Hs}(o:NdO W h ahead.data.toList r A)(g:NdO W h ahead.data.toList b B)(f:r=none∨b=none)(st:SetAt C h c z L)(k:A.length≤1000000)(m:B.length≤1000000)(n:L.length+A.length+B.length≤10000000){K:Unit→ad→Prop}(i:Xh C h c z (L++jX A B) (K ())):
  HC PG jE [.pointer (some ⟨c,0,none⟩),.pointer r,.pointer b,.string ahead] [] K h:=by
 refine yT _ r b ahead ?_;unfold uj bE bX AB PU NX;refine⟨trivial,fun a a' e p=>by rcases f with h|h<;>simp_all,CondP.intro (fun e=>?_) fun e=>?_⟩
 ·have q:r=b:=by simpa using e
  have j:r=none∧b=none:=by rcases f with h|h<;>simp_all
  obtain⟨rfl,rfl⟩:=j;obtain rfl:A= []:=by rcases o with⟨_,h⟩|⟨_,_,_,h,_⟩;exact h;cases h
  obtain rfl:B= []:=by rcases g with⟨_,h⟩|⟨_,_,_,h,_⟩;exact h;cases h
  exact i h C (by rw[jT,kT,aL];exact st) (fun _ h=>.inl h) (Upd.refl _ _)
 ·refine Join.intro (fun t h'=>t=true∧h'=h) (fun R d=>?_) ?_
  ·rcases f with rfl|rfl
   ·exact au.2 (d _ _ ⟨rfl,rfl⟩)
   ·exact CondP.intro (fun _=>d _ _ ⟨rfl,rfl⟩) fun _=>au.2 (d _ _ ⟨rfl,rfl⟩)
  ·rintro t h' ⟨rfl,rfl⟩
   exact au.2 (Ed o g st k m n i)
theorem aaI{sl:ByteArray}{l:List UInt8}(e:sl.data.toList=l)(b:l≠[]):∃c:UInt8,(0:Int)≤0∧sl[(0:Int).toNat]? =some c∧c.toNat=hd l:=by
 match l,b with
 |c::l,_=>
  refine⟨c,Int.le_refl _,?_,rfl⟩;have a:0<sl.size:=by
   have:sl.data.toList.length=sl.size:=qv;rw[←this,e];simp
  have:sl.data[0]? =some c:=by rw[←Array.getElem?_toList,e];rfl
  rw[show(0:Int).toNat=0 from rfl]
  rw[getElem?_pos sl 0 a];rw[Array.getElem?_eq_getElem a]at this;exact this
def T0(n:Bn):Prop:=∀{W C:Nat→Prop} {h:ad} {b b':Nat} {sl sl' ahead:ByteArray} {n':Bn} {L:List Ch} {sb:Nat} {z:Hs},RxN W h b sl n.2.1 n.2.2→sl.data.toList=n.1→RxN W h b' sl' n'.2.1 n'.2.2→sl'.data.toList=n'.1→NodeK n ahead.data.toList→NodeK n' ahead.data.toList→SetAt C h sb z L→
 (∀y,C y∨y=sb→W y)→(∀y,h.size≤y→W y)→(pp ahead.data.toList n).length≤1000000→(pp ahead.data.toList n').length≤1000000→L.length+(pp ahead.data.toList n).length+(pp ahead.data.toList n').length≤10000000→
 ∀{K:Unit→ad→Prop},Xh C h sb z (L++jX (pp ahead.data.toList n) (pp ahead.data.toList n')) (K ())→HC PG jE [.pointer (some ⟨sb,0,none⟩),.pointer (some ⟨b,0,none⟩),.pointer (some ⟨b',0,none⟩),.string ahead] [] K h
theorem nN{key:List UInt8}{P:List Pr}{L:List Bn}(h:∀n∈L,∀p∈P,∀q∈pp key n,kl p.1 q.1):∀p∈P,∀q∈L.flatMap (pp key),kl p.1 q.1:=by
 intro p b q a;obtain⟨n,c,a⟩:=List.mem_flatMap.1 a;exact h n c p b q a
set_option maxHeartbeats 1000000 in
theorem MA{lab:List UInt8}{w:Option ByteArray}{F:Fo}(ih:∀n∈F.toL,T0 n):T0 (lab,w,F):=by
 intro W C h b b' sl sl' ahead n' L E z r e r' e' nk nk' st hCW hWn hA hB hL K hk;obtain⟨lab',w',F'⟩:=n';simp only at r e r' e';refine yT _ _ _ ahead ?_;unfold uj bE bX AB PU NX;refine⟨trivial,fun a a' e1 e2=>by cases e1;cases e2;exact⟨r.plain,r'.plain⟩,CondP.intro (fun e1=>?_) fun e1=>?_⟩
 ·obtain rfl:b=b':=by simpa using e1
  obtain⟨rfl,rfl,rfl⟩:=aah r r';subst e e';exact hk h C (by rw[Bh,aL];exact st) (fun _ h=>.inl h) (Upd.refl _ _)
 clear e1;refine Join.intro (fun t h'=>h'=h∧t= !(decide (sl=sl'))) (fun R hR=>?_) ?_
 ·refine ag.2 (ag.2 (pd r (pd r' (hR _ _ ⟨rfl,?_⟩))))
  have eb:(sl.toList==sl'.toList)=decide (sl=sl'):=fg;rw[eb]
 rintro t h0 ⟨rfl,et⟩;by_cases hsl:sl=sl'
 rotate_left
 ·rw[decide_eq_false hsl]at et
  subst et;refine au.2 ?_;exact Ed (.inr ⟨b,sl,(lab,w,F),rfl,r,e,nk,rfl⟩) (.inr ⟨b',sl',(lab',w',F'),rfl,r',e',nk',rfl⟩) st hA hB hL hk
 rw[decide_eq_true hsl]at et;subst et hsl;obtain rfl:lab=lab':=by rw[←e,←e']
 refine ag.2 (pd r ?_);have hkl:=nk.len;simp only at hkl;have esz:∀k:ByteArray,k.size=k.data.toList.length:=fun k=>by rw[qv];rfl
 have e1:=esz ahead;have e2:=esz sl;rw[e]at e2;refine⟨by omega,?_⟩;have U:(ahead++sl).data.toList=ahead.data.toList++lab:=by rw[←acC,e]
 rw[MQ,ac]at hA hB;rw[MQ,MQ,ac,ac]at hL;rw[MQ,MQ]at hk;have Z:=eT.1 nk.can;have J:=eT.1 nk'.can;have hkid:∀m∈F.toL,NodeK m (ahead++sl).data.toList:=fun m hm=>by rw[U];exact nk.kid hm
 have N:∀m∈F'.toL,NodeK m (ahead++sl).data.toList:=fun m hm=>by rw[U];exact nk'.kid hm
 rw[←U]at hA hB hL hk;generalize ahead++sl=key at U hkid N hA hB hL hk⊢;have S:∀{u:Option ByteArray},bS (yz key.data.toList u):=fun{u}=>by cases u<;>simp[yz,bS]
 rw[Iu S S (nN fun m hm=>Oi (Z.2 m hm).1) (nN fun m hm=>Oi (J.2 m hm).1) (nN fun m hm=>Oi (Z.2 m hm).1) (nN fun m hm=>Oi (J.2 m hm).1),←ar]at hk
 refine Hc r fun s1 h1 ho1 k1=>Hc (r'.upd0 k1) fun s2 h2 ho2 k2=>?_
 have k12:=k1.tr k2;have s1z:=k1.size;have s2z:=k2.size;obtain⟨_,hsb,_⟩:=st.ex;have zsb:=bC hsb;refine Et (st.upd0 k12) ((ho1.upd k2 fun _ _ h=>h).sl fun y d _ hw=>?_) (ho2.sl fun y d _ hw=>?_) ho1.cap ho2.cap (by omega) fun h3 T st3 hC3 hu3=>?_
 ·rcases hw with h|h
  ·have:=st.lt y h;omega
  ·omega
 ·rcases hw with h|h
  ·have:=st.lt y h;omega
  ·omega
 have hlo:∀u v:Option ByteArray,(jX (yz key.data.toList u) (yz key.data.toList v)).length≤(yz key.data.toList u).length+(yz key.data.toList v).length:=fun u v=>vS S S
 have hlo:=hlo w w';generalize jX (yz key.data.toList w) (yz key.data.toList w')=X at st3 hk hlo;generalize (yz key.data.toList w).length=x1 at hA hL hlo;generalize (yz key.data.toList w').length=x2 at hB hL hlo;have hM3:∀y,C y∨y=E→W y∨h2.size≤y:=fun y d=>.inl (hCW y d)
 have s3z:=hu3.size;refine FY ((r.upd0 k12).updM hu3 hM3) (j6 nk.can) fun s4 h4 ks ho4 hL4 k4=>?_
 refine FY (((r'.upd0 k12).updM hu3 hM3).upd0 k4) (j6 nk'.can) fun s5 O ks' ho5 hL5 k5=>?_
 have s4z:=k4.size;have s5z:=k5.size;obtain⟨_,hsb3,_⟩:=st3.ex;have zsb3:=bC hsb3;have st5:=st3.upd0 (k4.tr k5);have hW5:∀y,O.size≤y→W y:=fun y d=>hWn y (by omega)
 have hC3W:∀y,T y∨y=E→W y:=fun y d=>d.elim (fun h=>(hC3 y h).elim (fun h=>hCW y (.inl h)) fun h=>hWn y (by omega)) fun h=>hCW y (.inr h)
 have hv4:Sl qd 1 (fun y=>T y∨y=E∨O.size≤y) O s4 ks:=(ho4.sl (W:=fun y=>T y∨y=E∨O.size≤y) fun y d hl hw=>by
  rcases hw with h|h|h
  ·have:=st3.lt y h;omega
  ·omega
  ·omega).upd k5 fun _ h=>h.elim
 have hv5:Sl qd 1 (fun y=>T y∨y=E∨O.size≤y) O s5 ks':=ho5.sl (W:=fun y=>T y∨y=E∨O.size≤y) fun y d hl hw=>by
  rcases hw with h|h|h
  ·have:=st3.lt y h;omega
  ·omega
  ·omega
 have hku:Upd (fun y=>C y∨y=E) h0 O:=(k12.wide.tr hu3).tr (k4.tr k5).wide
 have hC5:∀y,T y→C y∨h0.size≤y:=fun y d=>(hC3 y d).imp id fun h=>by omega
 refine LoopP.ghost (fun(g:(List (Option Addr)×List Bn)×(List (Option Addr)×List Bn)×List Ch×(Nat→Prop)) (t:SliceV×SliceV) h'=>SetAt g.2.2.2 h' E z g.2.2.1∧(∀y,g.2.2.2 y→T y∨O.size≤y)∧Upd (fun y=>T y∨y=E) O h'∧Sl qd 1 (fun y=>T y∨y=E∨O.size≤y) h' t.1 g.1.1∧Sl qd 1 (fun y=>T y∨y=E∨O.size≤y) h' t.2 g.2.1.1∧t.1.len≤t.1.cap∧t.2.len≤t.2.cap∧
   RxL W h' g.1.1 g.1.2∧RxL W h' g.2.1.1 g.2.1.2∧(∀m∈g.1.2,m∈F.toL)∧(∀m∈g.2.1.2,m∈F'.toL)∧g.1.2.Pairwise (fun m n=>hd m.1<hd n.1)∧g.2.1.2.Pairwise (fun m n=>hd m.1<hd n.1)∧
   g.2.2.1++jX (g.1.2.flatMap (pp key.data.toList)) (g.2.1.2.flatMap (pp key.data.toList))=(L++X)++jX (F.toL.flatMap (pp key.data.toList)) (F'.toL.flatMap (pp key.data.toList))∧
   g.2.2.1.length+(g.1.2.flatMap (pp key.data.toList)).length+(g.2.1.2.flatMap (pp key.data.toList)).length≤10000000∧(g.1.2.flatMap (pp key.data.toList)).length≤1000000∧(g.2.1.2.flatMap (pp key.data.toList)).length≤1000000)
  (fun g=>g.1.2.length+g.2.1.2.length) ((ks,F.toL),(ks',F'.toL),L++X,T)
  ⟨st5,fun _ h=>.inl h,Upd.refl _ _,hv4,hv5,ho4.cap,ho5.cap,hL4.upd0 k5,hL5,fun _ h=>h,fun _ h=>h,Z.1,J.1,rfl,by rw[ac];simp only;omega,by(try simp only);omega,by(try simp only);omega⟩ ?_
 rintro I ⟨⟨ka,La⟩,⟨kb,Lb⟩,L1,C1⟩ ⟨t1,t2⟩ j ⟨st1,Y,hu1,s,P,hc1,hc2,D,M,H,V,hpa,hpb,he,hl1,hl2,hl3⟩ hI;simp only at st1 Y s P hc1 hc2 D M H V hpa hpb he hl1 hl2 hl3;have z1:t1.len=La.length:=s.len.trans D.1;have z2:t2.len=Lb.length:=P.len.trans M.1;have hC1W:∀y,C1 y∨y=E→W y:=fun y d=>d.elim (fun h=>(Y y h).elim (fun h=>hC3W y (.inl h)) (hW5 y)) fun h=>hC3W y (.inr h)
 have hW1:∀y,j.size≤y→W y:=fun y d=>hW5 y (bh hu1.size d)
 have go:∀(c:List Ch) (u1 u2:SliceV) (ka2 kb2:List (Option Addr)) (A2 B2:List Bn) (h2:ad) (C2:Nat→Prop),SetAt C2 h2 E z (L1++c)→(∀y,C2 y→C1 y∨j.size≤y)→Upd (fun y=>C1 y∨y=E) j h2→jX (La.flatMap (pp key.data.toList)) (Lb.flatMap (pp key.data.toList))=c++jX (A2.flatMap (pp key.data.toList)) (B2.flatMap (pp key.data.toList))→
   c.length+(A2.flatMap (pp key.data.toList)).length+(B2.flatMap (pp key.data.toList)).length≤(La.flatMap (pp key.data.toList)).length+(Lb.flatMap (pp key.data.toList)).length→(A2.flatMap (pp key.data.toList)).length≤1000000→(B2.flatMap (pp key.data.toList)).length≤1000000→
   Sl qd 1 (fun y=>T y∨y=E∨O.size≤y) j u1 ka2→Sl qd 1 (fun y=>T y∨y=E∨O.size≤y) j u2 kb2→u1.len≤u1.cap→u2.len≤u2.cap→RxL W j ka2 A2→RxL W j kb2 B2→A2.Sublist La→B2.Sublist Lb→A2.length+B2.length<La.length+Lb.length→I (u1,u2) h2:=by
  intro c u1 u2 ka2 kb2 A2 B2 h2 C2 st2 hC2 hu2 ec hlc hlA hlB v1 v2 w1 w2 ra rb sa sb' G;have hm:∀y,C1 y∨y=E→(T y∨y=E∨O.size≤y)∨j.size≤y:=fun y d=>.inl (d.elim (fun h=>(Y y h).imp id .inr) fun h=>.inr (.inl h))
  have hmW:∀y,C1 y∨y=E→W y∨j.size≤y:=fun y d=>.inl (hC1W y d)
  refine hI ((ka2,A2),(kb2,B2),L1++c,C2) (u1,u2) h2 ⟨st2,fun y d=>?_,?_,v1.upd hu2 hm,v2.upd hu2 hm,w1,w2,ra.updN hu2 hmW,rb.updN hu2 hmW,fun m hm=>H m (sa.subset hm),fun m hm=>V m (sb'.subset hm),hpa.sublist sa,hpb.sublist sb',?_,?_,hlA,hlB⟩ G
  ·rcases hC2 y d with h|h
   ·exact Y y h
   ·exact .inr (bh hu1.size h)
  ·exact hu1.trans hu2 fun y d=>d.elim (fun h=>(Y y h).imp .inl id) fun h=>.inl (.inr h)
  ·show(L1++c)++_=_
   rw[ar,←ec,he]
  ·show(L1++c).length+(A2.flatMap (pp key.data.toList)).length+(B2.flatMap (pp key.data.toList)).length≤10000000
   rw[ac];omega
 refine Join.intro (fun t h'=>h'=j∧(t=true↔La≠[]∨Lb≠[])) (fun R hR=>?_) ?_
 ·refine ax (fun o=>hR _ _ ⟨rfl,?_⟩) fun o=>hR _ _ ⟨rfl,?_⟩
  ·have o:(t1.len:Int)>0:=o
   simp only[true_iff];left;intro e;rw[e]at z1;simp only[aJ]at z1;omega
  ·have o:¬(t1.len:Int)>0:=o
   have e1:La= []:=aw.1 (by omega);show decide ((t2.len:Int)>0)=true↔_
   rw[decide_eq_true_iff];constructor
   ·intro h;right;intro e;rw[e]at z2;simp only[aJ]at z2;omega
   ·intro h
    rcases h with h|h
    ·exact absurd e1 h
    ·have:=fL.2 h;omega
 rintro t h6 ⟨rfl,ht⟩;refine CondP.intro (fun et=>?_) fun et=>?_
 rotate_left
 ·have hn:La= []∧Lb= []:=by
   rw[et]at ht;constructor
   ·exact Decidable.byContradiction fun h=>absurd (ht.2 (.inl h)) (by simp)
   ·exact Decidable.byContradiction fun h=>absurd (ht.2 (.inr h)) (by simp)
  obtain⟨rfl,rfl⟩:=hn;rw[jJ,jT,kT,aL]at he;subst he;exact hk h6 C1 st1 (fun y d=>(Y y d).elim (hC5 y) fun h=>.inr (by omega)) (hku.trans hu1 fun y d=>d.elim (fun h=>(hC5 y h).imp .inl id) fun h=>.inl (.inr h))
 have hne:=ht.1 et;clear ht et;have hna:∀m∈La,m.1≠[]:=fun m hm=>(Z.2 m (H m hm)).1
 have hnb:∀m∈Lb,m.1≠[]:=fun m hm=>(J.2 m (V m hm)).1
 refine Join.intro (fun t h'=>h'=h6∧((t=true∧∃a A',La=a::A'∧∀q∈Lb,hd a.1<hd q.1)∨(t=false∧∃b B',Lb=b::B'∧(La= []∨∃a A',La=a::A'∧¬hd a.1<hd b.1)))) (fun R hR=>?_) ?_
 ·rcases Lb with _|⟨q,B'⟩
  ·rcases La with _|⟨a,A'⟩
   ·exact absurd hne (by simp)
   rw[show(((t2.len:Nat):Int)==0)=true by rw[z2];rfl]
   exact au.2 (hR _ _ ⟨rfl,.inl ⟨rfl,a,A',rfl,fun q hq=>absurd hq im⟩⟩)
  ·rw[al]at z2
   rw[show(((t2.len:Nat):Int)==0)=false by rw[beq_eq_false_iff_ne];omega]
   refine ag.2 ?_;rcases La with _|⟨a,A'⟩
   ·rw[aJ]at z1
    rw[decide_eq_false (show ¬((t1.len:Int)>0) by omega)]
    exact ag.2 (hR _ _ ⟨rfl,.inr ⟨rfl,q,B',rfl,.inl rfl⟩⟩)
   ·rw[al]at z1
    rw[decide_eq_true (show((t1.len:Int)>0) by omega)]
    obtain⟨b1,l1,g1,g2,g3⟩:=D.at (i:=0) (qa _);obtain⟨b2,l2,f1,f2,f3⟩:=M.at (i:=0) (qa _);simp only[gB]at g2 g3 f2 f3;obtain⟨a1,Q,_,v1⟩:=s.at0 g1;obtain⟨a2,ha2,_,v2⟩:=P.at0 f1;obtain⟨c1,cc1,cd1,ce1⟩:=aaI g2 (hna a (av ..));obtain⟨c2,cc2,cd2,ce2⟩:=aaI f2 (hnb q (av ..));refine au.2 ⟨⟨by(try simp only);omega,by(try simp only);omega⟩,a1,Q,_,v1,⟨by(try simp only);omega,by(try simp only);omega⟩,a2,ha2,_,v2,pd g3 ⟨v2,c1,cc1,cd1,pd f3 ⟨c2,cc2,cd2,hR _ _ ⟨rfl,?_⟩⟩⟩⟩
    rw[ce1,ce2];by_cases G:hd a.1<hd q.1
    ·refine .inl ⟨decide_eq_true (by omega),a,A',rfl,fun m hm=>?_⟩
     rcases aB.1 hm with rfl|hm
     ·exact G
     ·exact Nat.lt_trans G ((aA.1 hpb).1 m hm)
    ·exact .inr ⟨decide_eq_false (by omega),q,B',rfl,.inr ⟨a,A',rfl,G⟩⟩
 rintro t h7 ⟨rfl,⟨rfl,a,A',rfl,hlow⟩|⟨rfl,q,B',rfl,hor⟩⟩
 ·
  rw[al]at z1;obtain⟨b1,l1,g1,g2,g3⟩:=D.at (i:=0) (qa _);simp only[gB]at g2 g3;obtain⟨a1,Q,_,v1⟩:=s.at0 g1;rw[aP,ac]at hl1 hl2;refine au.2 ⟨⟨by(try simp only);omega,by(try simp only);omega⟩,a1,Q,_,v1,?_⟩
  refine Mz (A:=pp key.data.toList a) (B:= []) (.inr ⟨b1,l1,a,rfl,g3,g2,hkid a (H a (av ..)),rfl⟩) (.inl ⟨rfl,rfl⟩) (.inr rfl) st1 (by omega) (aS _) (by rw[aJ];omega) fun h8 C8 st8 hC8 hu8=>?_
  refine⟨⟨by(try simp only);omega,by(try simp only);omega⟩,?_⟩
  simp only[Bd];rcases ka with _|⟨k0,ka⟩
  ·simp at g1
  have ca:=Z.2 a (H a (av ..));have o:=aA.1 hpa;refine go (jX (pp key.data.toList a) []) _ t2 ka kb A' Lb h8 C8 st8 hC8 hu8 ?_ ?_ (by omega) hl3 (Z9 s hc1) P (by show t1.len-1≤t1.cap-1;omega) hc2 (D.drop 1) M (nH ..) (.refl _) (by rw[al];omega)
  ·rw[aP]
   exact Iu (B1:= []) (uG ca.2.2) .nil (nN fun m hm=>G8 ca.1 (hna m (aC _ hm)) (o.1 m hm)) (nN fun m hm=>G8 ca.1 (hnb m hm) (hlow m hm)) (fun p o=>absurd o im) (fun p o=>absurd o im)
  ·have:=vS (uG (pre:=key.data.toList) ca.2.2) (B:= []) .nil
   rw[aP,ac];rw[aJ]at this;omega
 refine ag.2 ?_;rw[al]at z2;obtain⟨b2,l2,f1,f2,f3⟩:=M.at (i:=0) (qa _);simp only[gB]at f2 f3;obtain⟨a2,ha2,_,v2⟩:=P.at0 f1;obtain⟨c2,cc2,cd2,ce2⟩:=aaI f2 (hnb q (av ..));rcases kb with _|⟨k0',kb⟩
 ·simp at f1
 have cb:=J.2 q (V q (av ..));have hpq:=aA.1 hpb;rw[aP (f:=pp key.data.toList),ac]at hl3;rw[aP (f:=pp key.data.toList) (x:=q),ac]at hl1;refine Join.intro (fun t h'=>h'=h7∧((t=true∧∀p∈La,hd q.1<hd p.1)∨(t=false∧∃a A',La=a::A'∧hd a.1=hd q.1))) (fun R hR=>?_) ?_
 ·rcases hor with rfl|⟨a,A',rfl,hnl⟩
  ·rw[show(((t1.len:Nat):Int)==0)=true by rw[z1];rfl]
   exact au.2 (hR _ _ ⟨rfl,.inl ⟨rfl,fun p o=>absurd o im⟩⟩)
  ·rw[al]at z1
   rw[show(((t1.len:Nat):Int)==0)=false by rw[beq_eq_false_iff_ne];omega]
   obtain⟨b1,l1,g1,g2,g3⟩:=D.at (i:=0) (qa _);simp only[gB]at g2 g3;obtain⟨a1,Q,_,v1⟩:=s.at0 g1;obtain⟨c1,cc1,cd1,ce1⟩:=aaI g2 (hna a (av ..));refine ag.2 ⟨⟨by(try simp only);omega,by(try simp only);omega⟩,a2,ha2,_,v2,⟨by(try simp only);omega,by(try simp only);omega⟩,a1,Q,_,v1,pd f3 ⟨v1,c2,cc2,cd2,pd g3 ⟨c1,cc1,cd1,hR _ _ ⟨rfl,?_⟩⟩⟩⟩
   rw[ce1,ce2];by_cases G:hd q.1<hd a.1
   ·refine .inl ⟨decide_eq_true (by omega),fun m hm=>?_⟩
    rcases aB.1 hm with rfl|hm
    ·exact G
    ·exact Nat.lt_trans G ((aA.1 hpa).1 m hm)
   ·exact .inr ⟨decide_eq_false (by omega),a,A',rfl,by omega⟩
 rintro t h8 ⟨rfl,⟨rfl,hlow⟩|⟨rfl,a,A',rfl,heq⟩⟩
 ·
  refine au.2 ⟨⟨by(try simp only);omega,by(try simp only);omega⟩,a2,ha2,_,v2,?_⟩
  refine Mz (A:= []) (B:=pp key.data.toList q) (.inl ⟨rfl,rfl⟩) (.inr ⟨b2,l2,q,rfl,f3,f2,N q (V q (av ..)),rfl⟩) (.inl rfl) st1 (aS _) (by omega) (by rw[aJ];omega) fun h9 C9 st9 hC9 hu9=>?_
  refine⟨⟨by(try simp only);omega,by(try simp only);omega⟩,?_⟩
  simp only[Bd];refine go (jX [] (pp key.data.toList q)) t1 _ ka kb La B' h9 C9 st9 hC9 hu9 ?_ ?_ hl2 (by omega) s (Z9 P hc2) hc1 (by show t2.len-1≤t2.cap-1;omega) D (M.drop 1) (.refl _) (nH ..) (by rw[al];omega)
  ·rw[aP]
   exact Iu (A1:= []) .nil (uG cb.2.2) (fun p o=>absurd o im) (fun p o=>absurd o im) (nN fun m hm=>G8 cb.1 (hna m hm) (hlow m hm)) (nN fun m hm=>G8 cb.1 (hnb m (aC _ hm)) (hpq.1 m hm))
  ·have:=vS (A:= []) (B:=pp key.data.toList q) .nil (uG cb.2.2)
   rw[aP,ac];rw[aJ]at this;omega
 ·
  rw[al]at z1;obtain⟨b1,l1,g1,g2,g3⟩:=D.at (i:=0) (qa _);simp only[gB]at g2 g3;obtain⟨a1,Q,_,v1⟩:=s.at0 g1;rcases ka with _|⟨k0,ka⟩
  ·simp at g1
  have ca:=Z.2 a (H a (av ..));have o:=aA.1 hpa;rw[aP,ac]at hl1 hl2;refine ag.2 ⟨⟨by(try simp only);omega,by(try simp only);omega⟩,a1,Q,_,v1,⟨by(try simp only);omega,by(try simp only);omega⟩,a2,ha2,_,v2,?_⟩
  refine ih a (H a (av ..)) (n':=q) g3 g2 f3 f2 (hkid a (H a (av ..))) (N q (V q (av ..))) st1 hC1W hW1 (by omega) (by omega) (by omega) fun h9 C9 st9 hC9 hu9=>?_
  refine⟨⟨by(try simp only);omega,by(try simp only);omega⟩,?_⟩
  simp only[Bd];refine⟨⟨by(try simp only);omega,by(try simp only);omega⟩,?_⟩
  refine go (jX (pp key.data.toList a) (pp key.data.toList q)) _ _ ka kb A' B' h9 C9 st9 hC9 hu9 ?_ ?_ (by omega) (by omega) (Z9 s hc1) (Z9 P hc2) (by show t1.len-1≤t1.cap-1;omega) (by show t2.len-1≤t2.cap-1;omega) (D.drop 1) (M.drop 1) (nH ..) (nH ..) (by rw[al,al];omega)
  ·rw[aP,aP]
   exact Iu (uG ca.2.2) (uG cb.2.2) (nN fun m hm=>G8 ca.1 (hna m (aC _ hm)) (o.1 m hm)) (nN fun m hm=>G8 ca.1 (hnb m (aC _ hm)) (by rw[heq];exact hpq.1 m hm)) (nN fun m hm=>G8 cb.1 (hna m (aC _ hm)) (by rw[←heq];exact o.1 m hm)) (nN fun m hm=>G8 cb.1 (hnb m (aC _ hm)) (hpq.1 m hm))
  ·have:=vS (uG (pre:=key.data.toList) ca.2.2) (uG (pre:=key.data.toList) cb.2.2)
   rw[aP,aP,ac,ac];omega
theorem CY:∀{F:Fo},ge F→∀n∈F.toL,T0 n
 | .nil,_,n,a=>by simp[Fo.toL]at a
 | .cons lab w kids rest,h,n,a=>by
  rcases aB.1 a with rfl|a
  ·exact MA (CY h.2.2.1)
  ·exact CY h.2.2.2.2 n a
end Go.Proofs
namespace Go.Proofs
open Go Go.Lift
theorem QO{lt:Ch→Ch→Bool}(w:WO lt){M:Nat→Prop}{Iv:ad→Prop}{v:Value}(hc:Cmp lt tI M Iv v){h:ad}{s:SliceV}{A S B:List (Ch)}(ho:OwnS tI 5 bO M h s (A++(S++B)))(hi:Iv h)(hn:s.len≤1000000000){a b:Nat}(d:a=A.length)(H:b=A.length+S.length){K:Unit→ad→Prop}
  (hk:∀h' R,OwnS tI 5 bO M h' s (A++(R++B))→St lt S R→Upd M h h'→K () h'):HC PG d8 [.slice s.a s.len s.cap,.int .i64 a,.int .i64 b,v] [] K h:=by
 subst d H;refine iX s A.length (A.length+S.length:Nat) v ?_;unfold fI bE bX ji ay bK jt mo gD;have k:=ho.len;simp only[ac]at k;have ea:IntKind.wrap .i64 ((A.length:Int)+1)=((A.length+1:Nat):Int):=by rw[dI (by omega)];omega
 rw[ea];refine LoopP.ghost (fun(g:List (Ch)×List (Ch)×List (Ch)) (t:Int) h'=>t=((A.length+max 1 g.1.length:Nat):Int)∧S=g.1++g.2.2∧(g.1= []→g.2.2= [])∧St lt g.1 g.2.1∧OwnS tI 5 bO M h' s (A++(g.2.1++(g.2.2++B)))∧Upd M h h') (fun g=>g.2.2.length) (S.take 1,S.take 1,S.drop 1)
  ⟨?_,(aK ..).symm,fun e=>?_,⟨Eqf.rfl _,?_⟩,by rw[←ar (S.take 1),aK];exact ho,Upd.refl _ _⟩ ?_
 ·simp only[aI];omega
 ·have:=congrArg List.length e
  simp only[aI,aJ]at this;exact aw.1 (by simp only[List.length_drop];omega)
 ·match S with
  | []=>exact Srt.nil
  |x::S=>exact Srt.one x
 rintro I ⟨S1,R1,T⟩ t h' ⟨N,Q,m,n,o,hu⟩ hI;simp only at N Q m n o;subst N Q;simp only[ac]at k;have hR1:=n.eqf.len;refine ax (fun D=>?_) fun hge=>?_
 ·simp only[ac]at D
  have W:S1≠[]:=fun e=>by
   have:=m e;subst e;subst this;simp only[aJ]at D;omega
  have hS1l:0<S1.length:=fL.2 W;match T with
  | []=>simp only[aJ]at D;omega
  |x::T=>
   have P:A.length+max 1 S1.length=A.length+S1.length:=by omega
   rw[P];refine LoopP.ghost (fun(g:List (Ch)×List (Ch)) (t:Int) h2=>t=((A.length+g.1.length:Nat):Int)∧R1=g.1++g.2∧(∀y∈g.2,lt x y=true)∧OwnS tI 5 bO M h2 s (A++(g.1++(x::(g.2++(T++B)))))∧Upd M h h2) (fun g=>g.1.length) (R1,[])
    ⟨by simp only;omega,by simp,fun y c=>(by cases c),by simpa using o,hu⟩ ?_
   rintro I2 ⟨L,G⟩ t2 h2 ⟨N,Q,hG,f,C⟩ X;simp only at N Q hG f;subst N Q;simp only[ac]at hR1;simp only[al]at k;refine Join.intro (fun t h3=>Upd M h h3∧OwnS tI 5 bO M h3 s (A++(L++(x::(G++(T++B)))))∧(t=true→∃L' y,L=L'++ [y]∧lt x y=true)∧(t=false→∀y∈L,lt x y=false)) (fun Rj F=>?_) ?_
   ·refine ax (fun hgt=>?_) fun hle=>?_
    ·rcases BR L with rfl|⟨L',y,rfl⟩
     ·simp only[aJ]at hgt;omega
     have p:(L'++ [y]).length=L'.length+1:=by simp
     have J:IntKind.wrap .i64 (((A.length+(L'++ [y]).length:Nat):Int)-1)=((A.length+L'.length:Nat):Int):=by rw[p,dI (by omega)];omega
     rw[J];have O:A++((L'++ [y])++(x::(G++(T++B))))=(A++L')++y::(x::(G++(T++B))):=by simp
     have f2:A++((L'++ [y])++(x::(G++(T++B))))=(A++(L'++ [y]))++x::(G++(T++B)):=by simp
     have o3:=f;have E:=f;rw[O]at o3;rw[f2]at E;obtain⟨a,d,c⟩:=fK o3 (i:=A.length+L'.length) (by first|omega|(simp;done)|(simp;omega))
     obtain⟨a',j,hx⟩:=fK E (i:=A.length+(L'++ [y]).length) (by first|omega|(simp;done)|(simp;omega))
     rw[d]at j;cases j;refine⟨⟨by omega,by omega⟩,a,d,x.1,hx 0 _ rfl,x.2.1,hx 1 _ rfl,x.2.2.1,hx 2 _ rfl,x.2.2.2.1,hx 3 _ rfl,x.2.2.2.2,hx 4 _ rfl,⟨by omega,by omega⟩,a,d,y.1,c 0 _ rfl,y.2.1,c 1 _ rfl,y.2.2.1,c 2 _ rfl,y.2.2.2.1,c 3 _ rfl,y.2.2.2.2,c 4 _ rfl,?_⟩
     refine hc.call x y (hc.step C hi) fun h5 e V he=>?_
     rw[he];have Y:=f.upd V fun _ _ h=>h
     refine F _ _ ⟨C.tr V.wide,Y,fun h=>⟨L',y,rfl,h⟩,fun h z u=>?_⟩
     have hs:=n.srt.left;rcases bI.1 u with u|u
     ·exact w.ntr x y z h (hs.cross z u y (aF.2 rfl))
     ·rw[aF.1 u];exact h
    ·have hL:L= []:=aw.1 (by omega)
     exact F _ _ ⟨C,f,fun h=>(by cases h),fun _ y c=>(by rw[hL]at c;cases c)⟩
   ·rintro t3 h3 ⟨U,q,ht,hf⟩
    cases t3 with
    |true=>
     obtain⟨L',y,rfl,Z⟩:=ht rfl;have p:(L'++ [y]).length=L'.length+1:=by simp
     refine au.2 ?_;have J:IntKind.wrap .i64 (((A.length+(L'++ [y]).length:Nat):Int)-1)=((A.length+L'.length:Nat):Int):=by rw[p,dI (by omega)];omega
     rw[J];have O:A++((L'++ [y])++(x::(G++(T++B))))=(A++L')++y::(x::(G++(T++B))):=by simp
     have f2:(A++L')++y::(x::(G++(T++B)))=(A++(L'++ [y]))++x::(G++(T++B)):=by simp
     have f3:(A++(L'++ [y]))++y::(G++(T++B))=(A++L')++y::(y::(G++(T++B))):=by simp
     have f4:(A++L')++x::(y::(G++(T++B)))=A++(L'++(x::((y::G)++(T++B)))):=by simp
     rw[O]at q;have E:=q;rw[f2]at E;obtain⟨a,d,c⟩:=fK q (i:=A.length+L'.length) (by first|omega|(simp;done)|(simp;omega))
     obtain⟨a',j,hx⟩:=fK E (i:=A.length+(L'++ [y]).length) (by first|omega|(simp;done)|(simp;omega))
     rw[d]at j;cases j;refine⟨⟨by omega,by omega⟩,a,d,y.1,c 0 _ rfl,y.2.1,c 1 _ rfl,y.2.2.1,c 2 _ rfl,y.2.2.2.1,c 3 _ rfl,y.2.2.2.2,c 4 _ rfl,⟨by omega,by omega⟩,a,d,x.1,hx 0 _ rfl,x.2.1,hx 1 _ rfl,x.2.2.1,hx 2 _ rfl,x.2.2.2.1,hx 3 _ rfl,x.2.2.2.2,hx 4 _ rfl,⟨by omega,by omega⟩,a,d,?_⟩
     refine mK E y d (by first|omega|(simp;done)|(simp;omega)) fun h5 o5 V=>⟨⟨by omega,by omega⟩,a,d,?_⟩
     rw[f3]at o5;refine mK o5 x d (by first|omega|(simp;done)|(simp;omega)) fun h6 o6 k6=>?_
     rw[f4]at o6;refine X (L',y::G) _ _ ⟨rfl,by simp,fun z u=>?_,o6,(U.trans V fun b H=>.inl H).trans k6 fun b H=>.inl H⟩ (by simp only[p];omega)
     rcases aB.1 u with rfl|u
     ·exact Z
     ·exact hG z u
    |false=>
     refine ag.2 ?_;have J:IntKind.wrap .i64 (((A.length+S1.length:Nat):Int)+1)=((A.length+max 1 (S1.length+1):Nat):Int):=by rw[dI (by omega)];omega
     rw[J];refine hI (S1++ [x],L++x::G,T) _ _ ⟨by simp,by simp,fun e=>(by simp at e),N3 w n (hf rfl) hG,?_,U⟩ (by simp)
     have O:A++((L++x::G)++(T++B))=A++(L++(x::(G++(T++B)))):=by simp
     rw[O];exact q
 ·simp only[ac]at hge
  have hT:T= []:=by
   rcases Nat.eq_zero_or_pos S1.length with h0|h0
   ·exact m (aw.1 h0)
   ·exact aw.1 (by omega)
  subst hT;rw[cz]at o;rw[aL]at hk;exact hk h' R1 o n hu
end Go.Proofs
namespace Go.Proofs
open Go Go.Lift
abbrev aaF:ByteArray:=⟨#[0,1,2,2,3,3,3,3,4,4,4,4,4,4,4,4,5,5,5,5,5,5,5,5,5,5,5,5,5,5,5,5,6,6,6,6,6,6,6,6,6,6,6,6,6,6,6,6,6,6,6,6,6,6,6,6,6,6,6,6,6,6,6,6,7,7,7,7,7,7,7,7,7,7,7,7,7,7,7,7,7,7,7,7,7,7,7,7,7,7,7,7,7,7,7,7,7,7,7,7,7,7,7,7,7,7,7,7,7,7,7,7,7,7,7,7,7,7,7,7,7,7,7,7,7,7,7,7,8,8,8,8,8,8,8,8,8,8,8,8,8,8,8,8,8,8,8,8,8,8,8,8,8,8,8,8,8,8,8,8,8,8,8,8,8,8,8,8,8,8,8,8,8,8,8,8,8,8,8,8,8,8,8,8,8,8,8,8,8,8,8,8,8,8,8,8,8,8,8,8,8,8,8,8,8,8,8,8,8,8,8,8,8,8,8,8,8,8,8,8,8,8,8,8,8,8,8,8,8,8,8,8,8,8,8,8,8,8,8,8,8,8,8,8,8,8,8,8,8,8,8,8,8,8,8,8]⟩
theorem aaE:∀x:Nat,x<256→∃c:UInt8,aaF[x]? =some c∧c.toNat≤8∧(1≤x→2^c.toNat≤2*x)∧(x=0→c.toNat=0):=by
 have key:∀x:Fin 256,∃c:UInt8,aaF[x.val]? =some c∧c.toNat≤8∧(1≤x.val→2^c.toNat≤2*x.val)∧(x.val=0→c.toNat=0):=by
  intro x;have:∀x:Fin 256,(match aaF[x.val]? with|some c=>decide (c.toNat≤8∧(1≤x.val→2^c.toNat≤2*x.val)∧(x.val=0→c.toNat=0))|none=>false)=true:=by decide+kernel
  have hx:=this x;split at hx
  ·rename_i c hc
   exact⟨c,hc,of_decide_eq_true hx⟩
  ·cases hx
 exact fun x hx=>key ⟨x,hx⟩
theorem YK{h:ad}{n:Nat}(v:n<4294967296){K:Int→ad→Prop}(q:∀L:Nat,L≤64→(1≤n→2^L≤2*n)→K (L:Int) h):HC PG sE [.int .u64 n] [.c (.int .i64)] K h:=by
 refine Fc n ?_;unfold xP;have fd:∀(x k:Nat),Int.fdiv (x:Int) (2^k)=((x/2^k:Nat):Int):=fun x k=>by
  rw[Int.fdiv_eq_ediv_of_nonneg _ (Int.pow_nonneg (by omega))];rw[Int.natCast_ediv,Int.natCast_pow];rfl
 refine Join.intro (fun t h'=>h'=h∧t=((n:Int),(0:Int))) (fun R d=>?_) ?_
 ·exact ax (fun a=>by omega) fun a=>d _ _ ⟨rfl,rfl⟩
 ·rintro t h' ⟨rfl,rfl⟩
  refine Join.intro (fun t h2=>h2=h'∧∃x s:Nat,t=((x:Int),(s:Int))∧x*2^s≤n∧(1≤n→1≤x)∧x<65536∧s≤16) (fun R d=>?_) ?_
  ·refine ax (fun a=>?_) fun a=>d _ _ ⟨rfl,n,0,rfl,by simp,fun h=>h,by have a:¬(n:Int)≥65536:=a;omega,by omega⟩
   have a:65536≤n:=by have a:(n:Int)≥65536:=a;omega
   refine⟨by omega,d _ _ ⟨rfl,n/2^16,16,?_,Nat.div_mul_le_self ..,fun _=>by omega,by omega,by omega⟩⟩
   simp only[sZ.injEq];exact⟨fd n 16,by decide⟩
  ·rintro t h2 ⟨rfl,x,s,rfl,hx,b,e,i⟩
   refine Join.intro (fun t f=>f=h2∧∃x s:Nat,t=((x:Int),(s:Int))∧x*2^s≤n∧(1≤n→1≤x)∧x<256∧s≤24) (fun R d=>?_) ?_
   ·refine ax (fun a=>?_) fun a=>d _ _ ⟨rfl,x,s,rfl,hx,b,by have a:¬(x:Int)≥256:=a;omega,by omega⟩
    have a:256≤x:=by have a:(x:Int)≥256:=a;omega
    refine⟨by omega,d _ _ ⟨rfl,x/2^8,s+8,?_,?_,fun _=>by omega,by omega,by omega⟩⟩
    ·simp only[sZ.injEq]
     exact⟨fd x 8,by rw[dI (by omega)];omega⟩
    ·rw[rR,kS (2^s),←uD]
     exact bh (Nat.mul_le_mul_right _ (Nat.div_mul_le_self ..)) hx
   ·rintro t f ⟨rfl,x,s,rfl,hx,b,e,i⟩
    obtain⟨c,hc,m,g,j⟩:=aaE x e;have u:IntKind.wrap .u8 (x:Int)=(x:Int):=by
     simp[IntKind.wrap,IntKind.bits,IntKind.signed];omega
    show∃b10:UInt8,(0:Int)≤IntKind.wrap .u8 (x:Int)∧aaF[(IntKind.wrap .u8 (x:Int)).toNat]? =some b10∧_
    rw[u];refine⟨c,by omega,by simpa using hc,?_⟩
    have o:IntKind.wrap .i64 (c.toNat:Int)=(c.toNat:Int):=dI (by omega);have p:IntKind.wrap .i64 ((s:Int)+IntKind.wrap .i64 (c.toNat:Int))=((s+c.toNat:Nat):Int):=by rw[o,dI (by omega)];omega
    show K (IntKind.wrap .i64 ((s:Int)+IntKind.wrap .i64 (c.toNat:Int))) f
    rw[p];refine q _ (by omega) fun a=>?_
    have:=g (b a);rw[rR];calc 2^s*2^c.toNat≤2^s*(2*x):=gJ _ this
     _=2*(x*2^s):=by rw[kS (2^s),uD]
     _≤2*n:=gJ _ hx
theorem Tf{h:ad}{n:Nat}(b:n<4294967296){K:Int→ad→Prop}(a:∀L:Nat,L≤64→(1≤n→2^L≤2*n)→K (L:Int) h):HC PG qU [.int .u64 n] [.c (.int .i64)] K h:=by
 refine H3 n ?_;unfold Ap;exact YK b a
def aaC(a b:Ch):Bool:=decide (kl a.1 b.1)
theorem woG:WO aaC:=by
 refine⟨fun a=>decide_eq_false (co _),fun a b h=>decide_eq_false (JI (of_decide_eq_true h)),fun a b c d h2=>decide_eq_false fun h=>?_⟩
 have d:¬kl a.1 b.1:=of_decide_eq_false d;have h2:¬kl b.1 c.1:=of_decide_eq_false h2;by_cases e:a.1=b.1
 ·rw[e]at h;exact h2 h
 ·exact h2 (fR (qh d e) h)
theorem abn(M:Nat→Prop):Cmp aaC tI M (fun _=>True) (.func (.func pu) #[] #[]):=by
 refine⟨fun a b h K _ d=>HV.mk' (RL a b ?_),fun _ h=>h⟩
 unfold HM az is Jt;refine aW fun e b1 k1=>aW fun h2 b2 c=>?_
 refine⟨a.1,vc (c.get0 b1) 0,b.1,vc b2 0,Ke (d h2 _ (k1.tr c) ?_)⟩;unfold LH aaC;split
 ·rename_i h;rw[decide_eq_true h];rfl
 ·rename_i h
  rw[decide_eq_false h];split<;>rfl
theorem Eqf.perm{α:Type}[DecidableEq α]{lt:α→α→Bool}(w:WO lt){l l':List α}(h:Eqf lt l l'):l'.Perm l:=by
 rw[List.perm_iff_count];intro a;have e:∀m:List α,m.count a=(m.filter (Ny lt a)).count a:=fun m=>(List.count_filter (Kf w a)).symm
 rw[e l',e l,h.flt a]
theorem P1{R X:List Ch}(m:R.Perm X)(p:Srt aaC R)(g:oo X):R=X:=by
 have n:X.Pairwise fun a b=>aaC b a=false:=g.imp fun h=>decide_eq_false (JI h)
 refine m.eq_of_pairwise (fun a b f o d h2=>?_) p n
 have d:¬kl b.1 a.1:=of_decide_eq_false d;have h2:¬kl a.1 b.1:=of_decide_eq_false h2;have f:=m.mem_iff.1 f;have e:a.1=b.1:=Decidable.byContradiction fun c=>d (qh h2 c)
 refine Decidable.byContradiction fun c=>?_
 obtain⟨i,hi,rfl⟩:=bm f;obtain⟨j,k,rfl⟩:=bm o;rcases Nat.lt_trichotomy i j with h|h|h
 ·have:=ce.1 g i j hi k h
  rw[e]at this;exact co _ this
 ·subst h;exact c rfl
 ·have:=ce.1 g j i k hi h
  rw[e]at this;exact co _ this
theorem X6{M:Nat→Prop}{h:ad}{s:SliceV}{L X:List Ch}(f:OwnS tI 5 bO M h s L)(m:L.Perm X)(n:oo X)(p:L.length≤12){K:Unit→ad→Prop}(o:∀h',OwnS tI 5 bO M h' s X→Upd M h h'→K () h'):
  HC PG cQ [.slice s.a s.len s.cap,.func (.func pu) #[] #[]] [] K h:=by
 refine ip s _ ?_;unfold fx;have d:=f.len;rw[Go.IntWalk.u64_in _ (by omega)];refine Tf (by omega) fun g _ _=>?_
 refine kX s 0 s.len g _ ?_;unfold gY bE bX ji ay bK mo;refine LoopP.ghost (fun(_:Unit) (t:Int×Int×Int×Bool×Bool) h'=>t=(0,(s.len:Int),(g:Int),true,true)∧h'=h) (fun _=>0) () ⟨rfl,rfl⟩ ?_
 rintro I ⟨⟩ t h' ⟨rfl,rfl⟩ _;have e:IntKind.wrap .i64 ((s.len:Int)-0)=(s.len:Int):=by rw[dI (by omega)];omega
 simp only;rw[e];rw[decide_eq_true (show(s.len:Int)≤12 by omega)]
 refine au.2 ?_;have c:OwnS tI 5 bO M h' s ([]++(L++ [])):=by simpa using f
 refine QO (A:= []) (B:= []) (a:=0) (b:=s.len) woG (abn M) c trivial (by omega) rfl (by simp;omega) fun h2 R i j k=>?_
 rw[cz,aL]at i;have:=P1 ((j.eqf.perm woG).trans m) j.srt n;subst this;exact o h2 i k
theorem Ss{t:Tr}{h:ad}{K:Int×Int×Int→ad→Prop}(f:∀h',Upd No h h'→K (t.2.1,t.2.2.1,t.2.2.2.1) h'):HC PG rq [Ia t] [.agg [.int .u64,.int .u64,.int .u64]] K h:=by
 refine DK t ?_;unfold wP af eW rT df ac4 ac5;refine aW fun g b1 k1=>aW fun h2 b2 d=>?_
 have a:=d.get0 b1;refine⟨_,Av a 1 0,_,Av a 1 1,_,Av a 1 2,?_⟩;refine dH (c:= [.int .u64 0,.int .u64 0,.int .u64 0]) (vs:= [.int .u64 t.2.1,.int .u64 t.2.2.1,.int .u64 t.2.2.2.1]) b2 rfl fun e b3 b=>?_
 exact⟨_,vc b3 0,_,vc b3 1,_,vc b3 2,f e ((k1.tr d).own b k1.size)⟩
theorem MC{t:Tr}{h:ad}{K:Option Addr→ad→Prop}(a:∀h',Upd No h h'→K t.2.2.2.2.2 h'):HC PG oH [Ia t] [.c .ptr] K h:=by
 refine EY t ?_;unfold xC aH rT;exact aW fun b b1 k1=>⟨_,vc b1 5,a b k1⟩
theorem Ym{W:Nat→Prop}{h:ad}{b:Nat}{l:List Pr}(t:RadAt W h b l)(f:bS l)(i:Fit l):∃n:Bn,n.1= []∧RxN W h b ⟨#[]⟩ n.2.1 n.2.2∧NodeK n []∧pp [] n=l:=by
 obtain⟨w,F,j,d,c⟩:=t.ex;have a:=Oc d f c;refine⟨([],w,F),rfl,j,⟨d,by simp,fun p a=>?_⟩,?_⟩
 ·obtain⟨q,g,e,_⟩:=(c p.1 p.2).1 a
  have:=(i q g).1;rw[←e];have k:q.1.data.toList.length=q.1.size:=qv;simp only[aJ];omega
 ·unfold pp
  show(x7 w F).map (EA ([]++ []))=l
  rw[a];unfold US;rw[tl];conv=>rhs;rw[←List.map_id l]
  exact qu fun p _=>by unfold EA;simp[S9]
theorem Ka{W W':Nat→Prop}{x x':Hs}{h:ad}{V N:Int}{t u:Tr}{l l':List Pr}(i:TreeIs W h V x t l)(i':TreeIs W' h N x' u l')(hr:bS l)(hf:Fit l)(hn:l.length≤60000)(T:bS l')(hf':Fit l')(hn':l'.length≤60000)(E:qy t u=true→∀{M:Nat→Prop} {h':ad} {s:SliceV} {L:List Ch} {K':Unit→ad→Prop},OwnS tI 5 bO M h' s L→(∀b,M b→b<h'.size)→L.Perm (jX l l')→(∀h2,OwnS tI 5 bO M h2 s (jX l l')→Upd M h' h2→K' () h2)→HC PG cQ [.slice s.a s.len s.cap,.func (.func pu) #[] #[]] [] K' h'){K:SliceV×Int→ad→Prop}
  (h0:qy t u=false→∀h',Upd No h h'→K (⟨none,0,0⟩,11) h')(hk:qy t u=true→∀h' s',OwnS tI 5 bO (fun y=>h.size≤y) h' s' (jX l l')→Upd No h h'→K (s',0) h'):HC PG ua [Ia t,Ia u] [.c .slice,.c (.int .i64)] K h:=by
 refine Xp t u ?_;unfold NQ aZ af aH rT ut bV PU VV;refine aW fun h1 b1 k1=>aW fun h2 b2 k2=>?_
 have B:=k2.get0 b1;refine⟨_,vc B 0,_,vc B 1,_,vc B 2,_,vc B 3,_,vc B 4,_,vc B 5,_,vc b2 0,_,vc b2 1,_,vc b2 2,_,vc b2 3,_,vc b2 4,_,vc b2 5,?_⟩;refine PZ fun h3 k3=>?_
 have D:=(k1.tr k2).tr k3;have J:=k3.get0 B;have b3:=k3.get0 b2;rcases hl:qy t u with _|_
 ·exact au.2 (h0 hl h3 D)
 refine ag.2 ⟨_,vc J 0,_,vc J 1,_,vc J 2,_,vc J 3,_,vc J 4,_,vc J 5,?_⟩;refine Ss fun q k4=>?_
 refine aW fun Q b5 k5=>?_
 have G:=(D.tr k4).tr k5;have P:=k5.get0 (k4.get0 J);have d5:=k5.get0 (k4.get0 b3);have z5:=bC b5;have s4:=(D.tr k4).size;have s5:=k5.size;obtain⟨rfl,hx⟩:=M2 i i' hl;let z:Hs:=⟨t.2.1,t.2.2.1,t.2.2.2.1⟩
 have st:SetAt No Q q.size z []:=⟨⟨⟨none,0,0⟩,b5,OwnS.nil Gp⟩,fun _ h=>h.elim,id⟩
 have U:∀S,Upd No Q S→∀h' j ys,SetAt j h' q.size z ([]++ys)→(∀b,j b→No b∨S.size≤b)→Upd (fun b=>No b∨b=q.size) S h'→ys.Perm (jX l l')→∃j ys,SetAt j h' q.size z ys∧(∀y,j y→Q.size≤y)∧Upd (fun y=>y=q.size) Q h'∧ys.Perm (jX l l'):=
  fun S o h' j ys st' hC' hu' v=>⟨j,ys,st',fun y m=>(hC' y m).elim (fun h=>h.elim) fun h=>bh o.size h,o.wide.trans hu' fun b hb=>hb.elim (fun h=>h.elim) fun h=>.inl h,v⟩
 refine Join.intro (fun _ h'=>∃j ys,SetAt j h' q.size z ys∧(∀y,j y→Q.size≤y)∧Upd (fun y=>y=q.size) Q h'∧ys.Perm (jX l l')) (fun R hR=>?_) ?_
 ·refine⟨_,vc P 0,_,vc P 1,_,vc P 2,_,vc P 3,_,vc P 4,_,vc P 5,?_⟩
  refine X3 fun S o=>?_
  have g:=o.get0 P;have c:=o.get0 d5;have i6:=(i.less (W':=fun y=>h.size≤y) fun _ h=>.inr h).upd0 (G.tr o)
  have Z:=(i'.less (W':=fun y=>h.size≤y) fun _ h=>.inr h).upd0 (G.tr o)
  have Y:∀y,No y∨y=q.size→h.size≤y:=fun y m=>m.elim (fun h=>h.elim) fun e=>by omega
  rcases i6 with⟨rfl,b,rfl,tt⟩|⟨rfl,b,rfl,tt⟩
  ·rcases Z with⟨_,b',rfl,p⟩|⟨e,_⟩
   ·obtain rfl:=hx rfl
    refine ag.2 ⟨_,vc g 0,_,vc g 1,_,vc g 2,_,vc g 3,_,vc g 4,_,vc g 5,_,vc c 0,_,vc c 1,_,vc c 2,_,vc c 3,_,vc c 4,_,vc c 5,?_⟩;refine BF tt fun h7 k=>?_
    have f:=k.get0 c;refine⟨⟨vc f 0,vc f 1,vc f 2,vc f 3,vc f 4,vc f 5⟩,?_⟩;refine BF (TrieAt.upd0 k p) fun h8 I=>?_
    have a:=(o.tr k).tr I;refine XV 13 (aj _) (TrieAt.upd0 (k.tr I) tt) (TrieAt.upd0 (k.tr I) p) (st.upd0 a) Y (fun y m=>by have:=a.size;omega) hr T (by omega) (by omega) (by simp) fun ys v h9 C9 d H O=>?_
    exact hR _ _ (U h8 a h9 C9 ys d H O v)
   ·cases e
  ·rcases Z with⟨e,_⟩|⟨_,b',rfl,p⟩
   ·cases e
   ·refine au.2 ⟨_,vc g 0,_,vc g 1,_,vc g 2,_,vc g 3,_,vc g 4,_,vc g 5,_,vc c 0,_,vc c 1,_,vc c 2,_,vc c 3,_,vc c 4,_,vc c 5,?_⟩
    refine MC fun h7 k=>?_
    have f:=k.get0 c;refine⟨⟨vc f 0,vc f 1,vc f 2,vc f 3,vc f 4,vc f 5⟩,?_⟩;refine MC fun h8 I=>?_
    have a:=(o.tr k).tr I;obtain⟨n,e1,r1,nk,v⟩:=Ym (tt.upd0 (k.tr I)) hr hf;obtain⟨n',e1',r1',nk',A⟩:=Ym (p.upd0 (k.tr I)) T hf';obtain⟨lab,w,F⟩:=n;simp only at e1;subst e1;refine MA (CY nk.can) (sl:=⟨#[]⟩) (ahead:=⟨#[]⟩) r1 rfl r1' (by rw[e1']) nk nk' (st.upd0 a) Y (fun y m=>by have:=a.size;omega) (by show(pp [] _).length≤_;rw[v];omega) (by show(pp [] _).length≤_;rw[A];omega) (by show 0+(pp [] _).length+(pp [] _).length≤_;rw[v,A];omega) fun h9 C9 d H O=>?_
    have d:SetAt C9 h9 q.size z ([]++jX (pp [] ([],w,F)) (pp [] n')):=d;rw[v,A]at d;exact hR _ _ (U h8 a h9 C9 _ d H O (.refl _))
 ·rintro _ S ⟨C6,ys,C,X,hu6,v⟩
  obtain⟨s,e6,ho6⟩:=C.ex;refine⟨_,rfl,s,vc e6 3,?_⟩;refine E hl ho6 C.lt v fun h7 ho7 hu7=>?_
  have e7:=hu7.get e6 C.ne;refine⟨_,rfl,s,vc e7 3,hk hl h7 s (ho7.more fun y m=>by have:=X y m;omega) ?_⟩
  exact(G.trans hu6 fun y m=>.inr (by omega)).trans hu7 fun y m=>.inr (by have:=X y m;omega)
theorem W1{W W':Nat→Prop}{x m:Hs}{h:ad}{c a:Int}{t u:Tr}{l l':List Pr}(i:TreeIs W h c x t l)(n:TreeIs W' h a m u l')(k:bS l)(o:Fit l)(v:l.length≤60000)(b:bS l')(g:Fit l')(d:l'.length≤60000)(e:qy t u=true→(jX l l').length≤12){K:SliceV×Int→ad→Prop}
  (q:qy t u=false→∀h',Upd No h h'→K (⟨none,0,0⟩,11) h')(f:qy t u=true→∀h' s',OwnS tI 5 bO (fun y=>h.size≤y) h' s' (jX l l')→Upd No h h'→K (s',0) h'):HC PG ua [Ia t,Ia u] [.c .slice,.c (.int .i64)] K h:=
 Ka i n k o v b g d (fun s {_ _ _ _ _} p _ j f=>X6 p j (ri k b) (by rw[j.length_eq];exact e s) f) q f
end Go.Proofs
namespace Go.Proofs
open Go Go.Lift
theorem Lj{h:ad}{b:Nat}{c:Array Value}{t:TypeId}(a:h[b]? =some (.cells c t (0,0))):aO h ⟨b,0,none⟩=c[0]?:=bF a
theorem W6{z:Hs}{W:Nat→Prop}{h:ad}{s:SliceV}{xs:List Pr}(c:Sl (tU z) 3 W h s xs)(n:xs.length*40≤140737488355328){K:SliceV→ad→Prop}
  (g:∀s' h',OwnS (tU z) 3 aX (fun b=>h.size≤b) h' s' xs→Upd No h h'→K s' h'):HC PG fE [.slice s.a s.len s.cap] [.c .slice] K h:=by
 refine nz s ?_;unfold iH Sh;refine CondP.intro (fun d=>?_) (fun m=>?_)
 ·have d:s.a=none:=by simpa using d
  have hx:xs= []:=by
   by_cases hx:xs= []
   ·exact hx
   ·obtain⟨a,e,_⟩:=c.row hx
    rw[d]at e;cases e
  subst hx;exact g _ _ (OwnS.nil (Oz z)) (Upd.refl _ _)
 ·have h2:=c.upd (Upd.hnew No h [] aX) (fun _ h=>h.elim)
  refine⟨_,h2.srow,?_⟩;refine AppP.own (f:=tU z) (M:=fun b=>h.size≤b) (xs:= []) (ys:=xs) ⟨rfl,Oz z,aj _,.inl rfl⟩ c.len rfl (Vh z xs) rfl (by omega) (by simpa using n) (by rw[jw];omega) fun s' h' j i=>?_
  exact g _ _ j ((Upd.hnew No h [] aX).trans i fun b k=>.inr k)
theorem WP{z:Hs}{W:Nat→Prop}{h:ad}{s:SliceV}{xs:List Pr}(u:Sl (tU z) 3 W h s xs)(w:xs.length≤1000000000){g:Pr→Bool}{V:Value}(D:∀p∈xs,∀{h':ad} {K:Bool→ad→Prop},Upd No h h'→(∀h'',Upd No h' h''→K (g p) h'')→HV PG V [.agg (tU z p).toArray] [.c .bool] K h'){K:Int→ad→Prop}
  (v:∀h' A B e,xs=A++B→(∀a∈A,g a=false)→(B= []→e= -1)→(∀b m,B=b::m→e=(A.length:Int)∧g b=true)→Upd No h h'→K e h'):HC PG dz [.slice s.a s.len s.cap,V] [.c (.int .i64)] K h:=by
 refine mr s V ?_;unfold gZ bX ay df xX;have d:=u.len;refine LoopP.ghost (fun(k:List Pr×List Pr) (t:Int) h'=>t=(k.1.length:Int)∧xs=k.1++k.2∧(∀a∈k.1,g a=false)∧Upd No h h') (fun g=>g.2.length) ([],xs) ⟨rfl,rfl,fun a c=>(by cases c),Upd.refl _ _⟩ ?_
 rintro I ⟨A,B⟩ t h' ⟨q,o,j,f⟩ G;simp only at q o j;subst q o;simp only[ac]at d w;refine ax (fun y=>?_) fun F=>?_
 ·rcases B with _|⟨p,B⟩
  ·simp only[aJ]at d;omega
  ·obtain⟨a,c,_,hv⟩:=(u.upd f fun _ h=>h.elim).at (i:=A.length) (x:=p) (by rw[aN (aj _),dP];rfl)
   refine⟨⟨by omega,by omega⟩,a,c,p.1,hv 0 _ rfl,p.2,hv 1 _ rfl,eP z p.1,hv 2 _ rfl,?_⟩
   refine D p (by simp) f fun h2 n=>?_
   cases hgp:g p with
   |true=>exact au.2 (v h2 A (p::B) _ rfl j (fun h=>by cases h) (fun b m e=>by cases e;exact⟨rfl,hgp⟩) (f.tr n))
   |false=>
    refine ag.2 ?_;have C:IntKind.wrap .i64 ((A.length:Int)+1)=((A++ [p]).length:Int):=by simp only[al]at w;rw[ac,aE,dI (by omega)];omega
    rw[C];refine G (A++ [p],B) _ _ ⟨rfl,by simp,fun a c=>?_,f.tr n⟩ (by simp)
    rcases bI.1 c with c|c
    ·exact j a c
    ·rw[aF.1 c];exact hgp
 ·have E:B= []:=aw.1 (by omega)
  subst E;exact v h' A [] _ rfl j (fun _=>rfl) (fun b m e=>by cases e) f
theorem WN{W:Nat→Prop}{h:ad}{s:SliceV}{xs:List Pr}(u:Sl eu 2 W h s xs)(w:xs.length≤1000000000){g:Pr→Bool}{V:Value}(C:∀p∈xs,∀{h':ad} {K:Bool→ad→Prop},Upd No h h'→(∀h'',Upd No h' h''→K (g p) h'')→HV PG V [.agg (eu p).toArray] [.c .bool] K h'){K:Int→ad→Prop}
  (v:∀h' A B e,xs=A++B→(∀a∈A,g a=false)→(B= []→e= -1)→(∀b m,B=b::m→e=(A.length:Int)∧g b=true)→Upd No h h'→K e h'):HC PG fO [.slice s.a s.len s.cap,V] [.c (.int .i64)] K h:=by
 refine ot s V ?_;unfold jn bX ay rV;have d:=u.len;refine LoopP.ghost (fun(k:List Pr×List Pr) (t:Int) h'=>t=(k.1.length:Int)∧xs=k.1++k.2∧(∀a∈k.1,g a=false)∧Upd No h h') (fun g=>g.2.length) ([],xs) ⟨rfl,rfl,fun a c=>(by cases c),Upd.refl _ _⟩ ?_
 rintro I ⟨A,B⟩ t h' ⟨q,o,j,f⟩ F;simp only at q o j;subst q o;simp only[ac]at d w;refine ax (fun y=>?_) fun E=>?_
 ·rcases B with _|⟨p,B⟩
  ·simp only[aJ]at d;omega
  ·obtain⟨a,c,_,hv⟩:=(u.upd f fun _ h=>h.elim).at (i:=A.length) (x:=p) (by rw[aN (aj _),dP];rfl)
   refine⟨⟨by omega,by omega⟩,a,c,p.1,hv 0 _ rfl,p.2,hv 1 _ rfl,?_⟩
   refine C p (by simp) f fun h2 n=>?_
   cases hgp:g p with
   |true=>exact au.2 (v h2 A (p::B) _ rfl j (fun h=>by cases h) (fun b m e=>by cases e;exact⟨rfl,hgp⟩) (f.tr n))
   |false=>
    refine ag.2 ?_;have z:IntKind.wrap .i64 ((A.length:Int)+1)=((A++ [p]).length:Int):=by simp only[al]at w;rw[ac,aE,dI (by omega)];omega
    rw[z];refine F (A++ [p],B) _ _ ⟨rfl,by simp,fun a c=>?_,f.tr n⟩ (by simp)
    rcases bI.1 c with c|c
    ·exact j a c
    ·rw[aF.1 c];exact hgp
 ·have D:B= []:=aw.1 (by omega)
  subst D;exact v h' A [] _ rfl j (fun _=>rfl) (fun b m e=>by cases e) f
abbrev atV(a:Nat):Value:=.func (.func wE) #[] #[.pointer (some ⟨a,0,none⟩)]
theorem Ks{z:Hs}{lev:Nat}(e:lev<13){h:ad}{a:Nat}{t:TypeId}(d:h[a]? =some (.cells #[.int .i64 (lev:Int)] t (0,0))) (p:Pr) {K:Int→ad→Prop} (c:∀h',Upd No h h'→K (ck z lev p.1:Int) h'):
  HV PG (atV a) [.agg (tU z p).toArray] [.c (.int .i64)] K h:=by
 refine HV.mk' (KF (p.1,p.2,eP z p.1) ⟨a,0,none⟩ ?_);unfold Bx af od S2;refine aW fun b b1 k1=>?_
 exact⟨_,vc b1 2,_,Lj (k1.get0 d),TM e (c b k1)⟩
theorem QN{a:Int}{h:ad}{K:Bool→ad→Prop}(b:K false h):HC PG qW [.int .i64 a] [.c .bool] K h:=by
 refine H6 a ?_;unfold As;rw[bne_self_eq_false];exact b
theorem W3{a b:Int}{h:ad}{K:Int→ad→Prop}(d:∀e,decide (e<0)=decide (a<b)→K e h):HC PG sG [.int .i64 a,.int .i64 b] [.c (.int .i64)] K h:=by
 refine Ff a b ?_;unfold xR;refine QN (QN (ag.2 (ag.2 ?_)));refine ax (fun c=>d _ ?_) fun c=>ax (fun h2=>d _ ?_) fun h2=>d _ ?_
 ·rw[decide_eq_true c];rfl
 ·rw[decide_eq_false c];rfl
 ·rw[decide_eq_false c];rfl
def abU(z:Hs)(lev:Nat)(a b:Pr):Bool:=decide (ck z lev a.1<ck z lev b.1)
theorem abT(z:Hs)(lev:Nat):WO (abU z lev):=by
 refine⟨fun a=>decide_eq_false (by omega),fun a b h=>decide_eq_false ?_,fun a b c h k=>decide_eq_false ?_⟩
 ·have:=of_decide_eq_true h;omega
 ·have:=of_decide_eq_false h;have:=of_decide_eq_false k;omega
theorem aaV(z:Hs)(lev:Nat)(x a:Pr):Ny (abU z lev) x a=decide (ck z lev a.1=ck z lev x.1):=by
 unfold Ny abU;by_cases e:ck z lev a.1=ck z lev x.1
 ·rw[decide_eq_true e,e];simp
 ·rw[decide_eq_false e]
  rcases Nat.lt_or_gt_of_ne e with h|h
  ·rw[decide_eq_true h];rfl
  ·rw[decide_eq_true (p:=ck z lev x.1<ck z lev a.1) h];simp
def Two(a b:Nat)(lev:Nat)(h:ad):Prop:=h[a]? =some (.cells #[.int .i64 (lev:Int)] lY (0,0))∧h[b]? =some (.cells #[atV a] rL (0,0))
theorem Two.upd{a b lev:Nat}{h h':ad}(t:Two a b lev h)(k:Upd No h h'):Two a b lev h':=⟨k.get0 t.1,k.get0 t.2⟩
theorem adG{z:Hs}{lev:Nat}(o:lev<13){j d:Nat}{M:Nat→Prop}(m:¬M j)(h2:¬M d):Cmp (abU z lev) (tU z) M (Two j d lev) (.func (.func wD) #[] #[.pointer (some ⟨d,0,none⟩)]):=by
 refine⟨fun a b h K t v=>HV.mk' (KE (a.1,a.2,eP z a.1) (b.1,b.2,eP z b.1) ⟨d,0,none⟩ ?_),fun k t=>⟨k.get t.1 m,k.get t.2 h2⟩⟩
 unfold Bw af ji az xX S2 abt;refine aW fun m b1 k1=>aW fun h2 b2 n=>?_
 have c:=k1.tr n;have f:=t.upd c;have i:=n.get0 b1;refine⟨_,Lj f.2,_,vc i 0,_,vc i 1,_,vc i 2,_,Lj f.2,_,vc b2 0,_,vc b2 1,_,vc b2 2,?_⟩;refine Ks (z:=z) o f.1 a fun w g=>?_
 have p:=f.upd g;have b3:=g.get0 b2;refine⟨⟨vc b3 0,vc b3 1,vc b3 2⟩,Lj p.2,?_⟩;refine Ks (z:=z) o p.1 b fun s q=>?_
 refine W3 fun e u=>v s e ((c.tr g).tr q) ?_
 rw[u];unfold abU;exact decide_eq_decide.2 (by omega)
end Go.Proofs
