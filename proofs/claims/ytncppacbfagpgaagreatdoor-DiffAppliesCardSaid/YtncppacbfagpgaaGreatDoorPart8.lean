/- A part of the proof that the named laws of this program answer true, whatever the input. -/
import Derived.Test.YtncppacbfagpgaaGreatDoorPart7
import Derived.Test.YtncppacbfagpgaaGreatDoorPart4
import Derived.Test.YtncppacbfagpgaaGreatDoorPart6
open Array renaming length_toList→pG
open List renaming append_nil→aL,append_assoc→ar,length_append→ac,flatMap_cons→aO,map_append→d9,map_map→rQ,map_congr_left→pF,mem_map→gi,take_append_drop→aI,flatMap_append→bO,flatMap_nil→jl,mem_cons→aA,length_cons→ao,map_nil→j2,length_nil→aG,length_eq_zero_iff→ay,length_pos_iff→fI,not_mem_nil→hE,getElem_cons_zero→gj,mem_cons_self→aw,pairwise_cons→aJ,sublist_cons_self→mO,mem_cons_of_mem→aB,length_take→aH,mem_append→bF,mem_singleton→aD,nil_append→cB,getElem_of_mem→bC,pairwise_iff_getElem→ce,getElem?_append_right→aN,length_singleton→aE
open List.Lex renaming nil→yQ
open Nat renaming lt_of_lt_of_le→aC,le_refl→al,le_trans→bj,zero_le→aS,succ_pos→pg,pow_add→qK,mul_comm→j1,mul_assoc→tA,mul_le_mul_left→ix,sub_self→dP
open Prod renaming mk→qd
namespace Go.Proofs
open Go Go.Lift
theorem Re{h:ae}{b:Nat}{c:Array Value}{t:TypeId}(a:h[b]? =some (.cells c t (0,0))) (hc:0<c.size):gI h ⟨b,0,none⟩:=⟨c,t,a,hc⟩
theorem TrieAt.plain{W:Nat→Prop}{x:Hs}{h:ae}:∀{m b:Nat} {l:List Pr},TrieAt W x h m b l→gI h ⟨b,0,none⟩
 |0,_,_,t=>by obtain⟨_,_,_,a,_⟩:=BuckAt.ex t;exact Re a (by simp[fT])
 |m+1,_,_,⟨s,nd,_⟩=>by obtain⟨_,_,_,_,_,a,_⟩:=nd.ex;exact Re a (by simp[fT])
theorem Tj{W Wx:Nat→Prop}{x:Hs}{h:ae}{m b:Nat}{s:Slots}{c:Nat}{l:List Pr}(o:NodeAt W h b s)(hc:c<32)(sl:SlotIs W x h m s c l)(hm:m≤13)(A:cf l)(G:l.length≤100000)(g:∀y,Wx y→y<h.size){K:SliceV→ae→Prop}
  (v:∀s' h',Sl eC 2 Wx h' s' l→s'.len≤s'.cap→Upd No h h'→K s' h'):HC PG wm [.pointer (some ⟨b,0,none⟩),.int .i64 c] [.c .slice] K h:=by
 refine Qg _ c ?_;unfold GI nv ax lM hP uy vN;refine zx o hc fun H k1=>?_
 refine uB fun h2 b2 C=>?_
 have a:=k1.tr C;have f:s.p c=none→Below W x h m ((s.k c).getD none) l:=fun d=>by
  rcases sl with⟨rfl,_,e⟩|⟨p,_,e,_⟩|⟨_,_,F,e,t⟩
  ·rw[e];exact .inl ⟨rfl,rfl⟩
  ·rw[d]at e;cases e
  ·rw[e];exact .inr ⟨F,rfl,t⟩
 rcases d:s.p c with _|p
 ·refine aj.2 (vV (o.upd a fun _ h=>h.elim) hc ?_)
  exact Ke (W':=Wx) ((f d).upd0 a) hm A G (fun y w=>aC (g y w) a.size) fun D i k n j=>v D i k n (a.tr j)
 ·have z:l= [p]:=by
   rcases sl with⟨_,e,_⟩|⟨q,e,u,_⟩|⟨_,e,_⟩
   ·rw[d]at e;cases e
   ·rw[d]at u;cases u;exact e
   ·rw[d]at e;cases e
  subst z;rw[d]at b2;refine au.2 ⟨p.1,vc b2 0,p.2,vc b2 1,aW fun i b3 j=>?_⟩
  have E:OwnS eC 2 aq (fun y=>h.size≤y) i ⟨some (aF h2),1,1⟩ [p]:=⟨rfl,gq,al _,.inr ⟨h2.size,[],rfl,a.size,b3,rfl⟩⟩
  exact v _ i (E.sl fun y w _ B=>by have:=g y B;omega) (al _) (a.tr j)
theorem Wa{W:Nat→Prop}{x z:Hs}{v:Nat}:∀(m:Nat),m≤13→∀{b b':Nat} {l l':List Pr} {C:Nat→Prop} {h:ae} {L:List Ch},TrieAt W x h m b l→TrieAt W x h m b' l'→SetAt C h v z L→(∀y,C y∨y=v→W y)→(∀y,h.size≤y→W y)→cf l→cf l'→l.length≤100000→l'.length≤100000→L.length+(m+1)*200000≤10000000→
  ∀{K:Unit→ae→Prop},(∀ys,ys.Perm (me l l')→Vw C h v z (L++ys) (K ()))→HC PG oU [.pointer (some ⟨v,0,none⟩),.pointer (some ⟨b,0,none⟩),.pointer (some ⟨b',0,none⟩)] [] K h:=by
 intro m;induction m with
 |zero=>
  intro hm b b' l l' C h L t H st D N F u hn hn' hL K hk;refine xN _ _ _ ?_;unfold sQ uy Ui MJ;refine⟨trivial,fun a a' e e'=>by cases e;cases e';exact⟨t.plain,H.plain⟩,CondP.intro (fun e=>?_) fun e=>?_⟩
  ·obtain rfl:b=b':=by simpa using e
   obtain rfl:=HI t H F u;refine hk [] (by rw[DI]) h C (by rw[aL];exact st) (fun _ h=>.inl h) (Upd.refl _ _)
  ·obtain⟨sp,sk,ow,hb,hsp,_⟩:=BuckAt.ex t
   obtain⟨sp',sk',ow',hb',hsp',_⟩:=BuckAt.ex H;refine gu hb (au.2 ?_);refine q9 hb hsp (by omega) fun s1 B ho1 k1=>?_
   refine q9 (k1.get0 hb') (hsp'.upd k1 fun _ h=>h.elim) (by omega) fun s2 h2 ho2 k2=>?_
   have s1z:=k1.size;obtain⟨_,G,_⟩:=st.ex;have zsb:=bD G;have Z:=ho1.upd k2 fun _ _ h=>h
   refine Dn (st.upd0 (k1.tr k2)) (Z.sl fun y f _ hw=>?_) (ho2.sl fun y f _ hw=>?_) ho1.cap ho2.cap (by omega) fun X C3 J Q O=>?_
   ·rcases hw with h|h
    ·have:=st.lt y h;omega
    ·omega
   ·rcases hw with h|h
    ·have:=st.lt y h;omega
    ·omega
   ·have s2z:=k2.size
    exact hk (me l l') (.refl _) X C3 J (fun y f=>(Q y f).imp id fun h=>by omega) ((k1.tr k2).wide.tr O)
 |succ m ih=>
  intro hm b b' l l' C h L t H st D N F u hn hn' hL K hk;refine xN _ _ _ ?_;unfold sQ uy Ui MJ;refine⟨trivial,fun a a' e e'=>by cases e;cases e';exact⟨t.plain,H.plain⟩,CondP.intro (fun e=>?_) fun e=>?_⟩
  ·obtain rfl:b=b':=by simpa using e
   obtain rfl:=HI t H F u;exact hk [] (by rw[DI]) h C (by rw[aL];exact st) (fun _ h=>.inl h) (Upd.refl _ _)
  have hcl:=DJ F u;obtain⟨s,nd,hs⟩:=t;obtain⟨s',nd',T⟩:=H;have hs:∀c,c<32→SlotIs W x h m s c (part x (12-m) c l):=hs;have T:∀c,c<32→SlotIs W x h m s' c (part x (12-m) c l'):=T;obtain⟨d,n,sp,sk,ow,hb,_⟩:=nd.ex;refine gu hb (aj.2 ?_);refine LoopP.ghost (fun(g:Nat×List Ch×(Nat→Prop)) (t:Int) h'=>t=(g.1:Int)∧g.1≤32∧SetAt g.2.2 h' v z (L++g.2.1)∧(∀y,g.2.2 y→C y∨h.size≤y)∧Upd (fun y=>C y∨y=v) h h'∧g.2.1.Perm ((me l l').filter fun c=>decide (ck x (12-m) c.1<g.1))) (fun g=>32-g.1) (0,[],C)
   ⟨rfl,by omega,by rw[aL];exact st,fun _ h=>.inl h,Upd.refl _ _,by simp⟩ ?_
  rintro I ⟨i,ys,M⟩ t B ⟨rfl,hi,w,A,q,hp⟩ hI;simp only at hi w A hp;have hCW1:∀y,M y∨y=v→W y:=fun y f=>f.elim (fun h=>(A y h).elim (fun h=>D y (.inl h)) (N y)) fun h=>D y (.inr h)
  have S:∀y,C y∨y=v→W y∨h.size≤y:=fun y f=>.inl (D y f)
  refine az (fun j=>?_) fun hge=>?_
  rotate_left
  ·have hi32:i=32:=by omega
   subst hi32;refine hk ys (hp.trans ?_) B M w A q;rw[List.filter_eq_self.2 fun c _=>decide_eq_true (yX x (12-m) c.1)]
  have j:i<32:=by omega
  have P:(me l l').filter (fun c=>decide (ck x (12-m) c.1=i))=me (part x (12-m) i l) (part x (12-m) i l'):=(Sc (fun k=>decide (ck x (12-m) k=i)) F u).symm
  have hyl:ys.length≤200000:=by
   have:=hp.length_eq;have:=List.length_filter_le (fun c:Ch=>decide (ck x (12-m) c.1<i)) (me l l')
   omega
  have hpl:=kB (x:=x) (lev:=12-m) (c:=i) (l:=l);have hpl':=kB (x:=x) (lev:=12-m) (c:=i) (l:=l');have step:∀U:List Ch,U.Perm (me (part x (12-m) i l) (part x (12-m) i l'))→∀h2 C2,SetAt C2 h2 v z ((L++ys)++U)→(∀y,C2 y→M y∨B.size≤y)→Upd (fun y=>M y∨y=v) B h2→I (IntKind.wrap .i64 ((i:Int)+1)) h2:=by
   intro U hz h2 C2 st2 hC2 hu2;rw[fy j (by omega)];refine hI (i+1,ys++U,C2) _ h2 ⟨rfl,j,by rw[←ar];exact st2,fun y f=>?_,?_,?_⟩ (by show 32-(i+1)<32-i;omega)
   ·rcases hC2 y f with h|h
    ·exact A y h
    ·exact .inr (bj q.size h)
   ·exact q.trans hu2 fun y f=>f.elim (fun h=>(A y h).imp .inl id) fun h=>.inl (.inr h)
   ·rw[←P]at hz
    exact(hp.append hz).trans (F8 (fun c:Ch=>ck x (12-m) c.1) i (me l l'))
  have nd1:=nd.upd q S;have E:=nd'.upd q S;have up:∀{s:Slots} {l:List Pr},SlotIs W x h m s i l→SlotIs W x B m s i l:=fun o=>o.imp id fun o=>o.imp id fun⟨B,h2,kb,X,h4⟩=>⟨B,h2,kb,X,TrieAt.updM q S h4⟩
  have sl:=up (hs i j);have sl':=up (T i j);have hWn1:∀y,B.size≤y→W y:=fun y f=>N y (bj q.size f)
  refine Join.plain (vV nd1 j (vV E j ?_));refine Join.intro (fun t h'=>h'=B∧(t=true→(s.k i).isSome=true∧(s'.k i).isSome=true)) (fun R hR=>?_) ?_
  ·refine CondP.intro (fun e=>hR _ _ ⟨rfl,fun e'=>⟨e,e'⟩⟩) fun e=>hR _ _ ⟨rfl,fun e=>by cases e⟩
  rintro t h2 ⟨rfl,ht⟩;refine CondP.intro (fun e=>?_) fun e=>?_
  ·obtain⟨e1,e2⟩:=ht e
   rcases sl with⟨_,_,e3⟩|⟨p,_,_,e3⟩|⟨_,_,kb,e3,tk⟩
   ·rw[e3]at e1;cases e1
   ·rw[e3]at e1;cases e1
   rcases sl' with⟨_,_,Y⟩|⟨p,_,_,Y⟩|⟨_,_,kb',Y,tk'⟩
   ·rw[Y]at e2;cases e2
   ·rw[Y]at e2;cases e2
   rw[e3,Y];refine ih (by omega) tk tk' w hCW1 hWn1 (iX F) (iX u) (by omega) (by omega) (by rw[ac];omega) fun U hz X C3 J Q O=>?_
   exact step U hz X C3 J Q O
  ·obtain⟨_,G,_⟩:=w.ex
   have zsb:=bD G;have hWx:∀y,M y∨y=v→y<h2.size:=fun y f=>f.elim (w.lt y) fun h=>by omega
   refine Tj (Wx:=fun y=>M y∨y=v) nd1 j sl (by omega) (iX F) (by omega) hWx fun s3 X hs3 hc3 V=>?_
   refine Tj (Wx:=fun y=>M y∨y=v) (E.upd V fun _ h=>h.elim) j (sl'.upd0 V) (by omega) (iX u) (by omega) (fun y f=>aC (hWx y f) V.size) fun s4 h4 hs4 hc4 k4=>?_
   refine Dn (w.upd0 (V.tr k4)) (hs3.upd k4 fun _ h=>h.elim) hs4 hc3 hc4 (by rw[ac];omega) fun h5 C5 st5 hC5 hu5=>?_
   have s34:=(V.tr k4).size;exact step _ (.refl _) h5 C5 st5 (fun y f=>(hC5 y f).imp id fun h=>by omega) ((V.tr k4).wide.tr hu5)
end Go.Proofs
namespace Go.Proofs
open Go Go.Lift
def Zw(pre:List UInt8):ByteArray:=⟨pre.toArray⟩
theorem Pi(pre:List UInt8):(Zw pre).data.toList=pre:=by unfold Zw;simp
theorem Rp(k:ByteArray):Zw k.data.toList=k:=by cases k;rfl
def Du(pre:List UInt8)(p:List UInt8×ByteArray):Pr:=(Zw (pre++p.1),p.2)
def pp(pre:List UInt8)(n:Bn):List Pr:=(wZ n.2.1 n.2.2).map (Du (pre++n.1))
def xx(key:List UInt8)(w:Option ByteArray):List Pr:=(w.map fun v=>(Zw key,v)).toList
theorem WZ{x y:List UInt8}:kl (Zw x) (Zw y)↔x<y:=by rw[Nj,ByteArray.toList_eq,ByteArray.toList_eq,Pi,Pi]
theorem U6(a b:List UInt8)(p:List UInt8×ByteArray):Du a (b++p.1,p.2)=Du (a++b) p:=by unfold Du;rw[ar]
theorem Tw(pre:List UInt8):∀F:Fo,(AZ F).map (Du pre)=F.toL.flatMap (pp pre)
 | .nil=>rfl
 | .cons lab w kids rest=>by
  rw[UL,Fo.toL_cons,aO,d9,Tw pre rest,rQ];congr 1
  unfold pp wZ;exact pF fun p _=>U6 pre lab p
theorem LG(pre lab:List UInt8)(w:Option ByteArray)(F:Fo):pp pre (lab,w,F)=xx (pre++lab) w++F.toL.flatMap (pp (pre++lab)):=by
 unfold pp;rw[show wZ w F=(w.map fun v=>(([]:List UInt8),v)).toList++AZ F from rfl,d9,Tw]
 congr 1
 cases w with
 |none=>rfl
 |some v=>show[Du (pre++lab) ([],v)]=_;unfold Du xx;rw[aL];rfl
theorem tF{pre:List UInt8}{n:Bn}(hc:fV n.2.2):cf (pp pre n):=by
 unfold pp;rw[cf,List.pairwise_map];exact(Tv (w:=n.2.1) hc).imp fun{p q} h=>WZ.2 (NO h)
structure NodeK(n:Bn)(pre:List UInt8):Prop where
 can:fV n.2.2
 len:pre.length+n.1.length≤10000
 all:∀p∈wZ n.2.1 n.2.2,pre.length+n.1.length+p.1.length≤10000
theorem NodeK.kid{n m:Bn}{pre:List UInt8}(k:NodeK n pre)(hm:m∈n.2.2.toL):NodeK m (pre++n.1):=by
 have c:=(eW.1 k.can).2 _ hm;have a:∀p∈wZ m.2.1 m.2.2,(pre++n.1).length+m.1.length+p.1.length≤10000:=fun p e=>by
  have b:rZ n.2.2 (m.1++p.1) p.2:=gv.2 ⟨_,hm,p.1,rfl,jR.1 (show(p.1,p.2)∈_ from e)⟩
  have:=k.all (m.1++p.1,p.2) (jR.2 (.inr b));simp only[ac]at this⊢;omega
 obtain⟨r,v,d⟩:=om k.can _ hm;have:=a (r,v) (jR.2 d);exact⟨c.2.2,by simp only at this;omega,a⟩
theorem F7{pre:List UInt8}{m n:Bn}(hm:m.1≠[])(d:n.1≠[])(h:hd m.1<hd n.1):∀p∈pp pre m,∀q∈pp pre n,kl p.1 q.1:=by
 intro p c q e;unfold pp at c e;obtain⟨a,_,rfl⟩:=gi.1 c;obtain⟨b,_,rfl⟩:=gi.1 e;refine WZ.2 ?_;rw[ar,ar];refine NO (Pv (by simp[d]) ?_);rw[pq hm,pq d];exact h
theorem M8{key:List UInt8}{w:Option ByteArray}{n:Bn}(e:n.1≠[]):∀p∈xx key w,∀q∈pp key n,kl p.1 q.1:=by
 intro p a q d;unfold xx at a;rw[Option.mem_toList,Option.map_eq_some_iff]at a;obtain⟨v,_,rfl⟩:=a;unfold pp at d;obtain⟨b,_,rfl⟩:=gi.1 d;refine WZ.2 ?_;rw[ar];conv=>lhs;rw[←aL key]
 refine NO ?_;match n.1,e with
 |c::l,_=>exact yQ
theorem U7{f:Bn→List Pr}(L:List Bn)(i:Nat):((L.take i).flatMap f).length≤(L.flatMap f).length:=by
 conv=>rhs;rw[←aI i L,bO,ac]
 omega
theorem aaU{a b:ByteArray}:a.data.toList++b.data.toList=(a++b).data.toList:=by
 rw[ByteArray.data_append,Array.toList_append]
theorem RxL.updN{W M:Nat→Prop}{h h':ae}(k:Upd M h h')(hm:∀b,M b→W b∨h.size≤b){ks:List (Option Addr)}{L:List Bn}(r:RxL W h ks L):RxL W h' ks L:=
 ⟨r.1,fun p c=>let⟨b,sl,e,d,a⟩:=r.2 p c;⟨b,sl,e,d,a.updM k hm⟩⟩
def XK(n:Bn):Prop:=∀{W:Nat→Prop} {h:ae} {b:Nat} {sl:ByteArray} {ahead:ByteArray},RxN W h b sl n.2.1 n.2.2→sl.data.toList=n.1→NodeK n ahead.data.toList→(pp ahead.data.toList n).length≤1000000→∀{K:SliceV→ae→Prop},(∀s' h',OwnS eC 2 aq (fun y=>h.size≤y) h' s' (pp ahead.data.toList n)→Upd No h h'→K s' h')→HC PG lu [.pointer (some ⟨b,0,none⟩),.string ahead] [.c .slice] K h
theorem OE{lab:List UInt8}{w:Option ByteArray}{F:Fo}(ih:∀n∈F.toL,XK n):XK (lab,w,F):=by
 intro W h b sl ahead r g nk T K hk;simp only at r g;have r:=r.less (W':=fun y=>h.size≤y) fun _ h=>.inr h
 refine Gt (some ⟨b,0,none⟩) ahead ?_;unfold Aj bI cl lM hP nW;refine aj.2 (nZ r ?_);have o:=nk.len;simp only at o;have C:∀k:ByteArray,k.size=k.data.toList.length:=fun k=>by rw[pG];rfl
 have e1:=C ahead;have e2:=C sl;rw[g]at e2;refine⟨by omega,?_⟩;have d:(ahead++sl).data.toList=ahead.data.toList++lab:=by rw[←aaU,g]
 have Q:Zw (ahead.data.toList++lab)=ahead++sl:=by rw[←d,Rp]
 rw[LG]at T hk;refine Join.intro (fun t h'=>OwnS eC 2 aq (fun y=>h.size≤y) h' t (xx (ahead.data.toList++lab) w)∧Upd No h h') (fun R hR=>?_) ?_
 ·refine HX r fun v hv=>?_
  cases w with
  |none=>exact aj.2 (hR _ _ ⟨OwnS.nil gq,Upd.refl _ _⟩)
  |some u=>
   refine au.2 ?_;have:=hv u rfl;subst this;refine bP ?_;refine xJ (p:=(ahead++sl,v)) (M:=fun y=>h.size≤y) (out:= []) (so:=⟨none,0,0⟩) (OwnS.nil gq) (fun _ h=>h) (by simp) fun s1 N z k1=>hR _ _ ⟨?_,k1.mono fun y f=>.inr f⟩
   rw[show xx (ahead.data.toList++lab) (some v)= []++ [(ahead++sl,v)] by unfold xx;rw[Q];rfl]
   exact z
 rintro t N ⟨z,k1⟩;refine EO (r.upd0 k1) (jC nk.can) fun O h2 ks J G U=>?_
 have x:Sl pj 1 No h2 O ks:=J.sl fun _ _ _ h=>h
 have H:=x.len;rw[G.1]at H;have E:=jC nk.can;simp only at E;have z1:=k1.size;have z2:=U.size;have x:Sl pj 1 (fun y=>h.size≤y∧(y<N.size∨h2.size≤y)) h2 O ks:=J.sl fun y f T hw=>by omega
 refine LoopP.ghost (fun(i:Nat) (t:SliceV×Int) P=>OwnS eC 2 aq (fun y=>h.size≤y∧(y<N.size∨h2.size≤y)) P t.1 (xx (ahead.data.toList++lab) w++(F.toL.take i).flatMap (pp (ahead.data.toList++lab)))∧t.2=(i:Int)∧i≤F.toL.length∧Upd (fun y=>h.size≤y∧(y<N.size∨h2.size≤y)) h2 P) (fun i=>F.toL.length-i) 0 ⟨?_,rfl,aS _,Upd.refl _ _⟩ ?_
 ·rw[List.take_zero,jl,aL]
  exact(z.within.more fun y f=>⟨f.1,.inl f.2⟩).upd U fun _ _ h=>h
 rintro I i ⟨ta,ti⟩ P ⟨j,e3,hi,B⟩ hI;simp only at j e3;subst e3;have L:((F.toL.take (i+1)).flatMap (pp (ahead.data.toList++lab))).length≤(F.toL.flatMap (pp (ahead.data.toList++lab))).length:=U7 _ _;rw[ac]at T;refine az (fun c=>?_) fun Z=>?_
 ·have c:i<F.toL.length:=by have:(i:Int)<(O.len:Int):=c;omega
  have S:=G.updN B fun y f=>.inl f.1
  obtain⟨kb,ksl,V,o,D⟩:=S.at c;obtain⟨a,ha,_,hv⟩:=(x.upd B fun _ h=>.inl h).at0 V
  refine Join.plain ⟨⟨by simp only;omega,by simp only;omega⟩,a,ha,some ⟨kb,0,none⟩,hv,?_⟩
  have A:(F.toL.take (i+1)).flatMap (pp (ahead.data.toList++lab))=(F.toL.take i).flatMap (pp (ahead.data.toList++lab))++pp (ahead.data.toList++lab) F.toL[i]:=by
   rw[List.take_succ_eq_append_getElem c,bO];simp
  rw[A,ac]at L;have e:=List.getElem_mem c;generalize F.toL[i]=m at o D A L e;refine ih m e D o (by rw[d];exact nk.kid e) (by rw[d];omega) fun s4 h4 s q=>?_
  rw[d]at s;refine⟨_,(s.sl (W:=No) fun _ _ _ h=>h).srow,?_⟩
  have z3:=B.size;have z4:=q.size;refine AppP.own (ys:=pp (ahead.data.toList++lab) m) (j.upd q fun _ _ h=>h) s.len rfl (yj _) rfl (by omega) (by rw[ac];omega) ⟨by omega,.inr (by omega)⟩ fun s5 h5 ho5 Y=>?_
  rw[dd c (by omega)];refine hI (i+1) _ _ ⟨?_,rfl,c,(B.tr q.wide).tr Y⟩ (by omega);rw[A,←ar];exact ho5
 ·have X:i=F.toL.length:=by have:¬(i:Int)<(O.len:Int):=Z;omega
  subst X;rw[List.take_length]at j;exact hk _ P (j.more fun y f=>f.1) ((k1.tr U).trans B fun y f=>.inr f.1)
theorem EK:∀{F:Fo},fV F→∀n∈F.toL,XK n
 | .nil,_,n,a=>by simp[Fo.toL]at a
 | .cons lab w kids rest,h,n,a=>by
  rcases aA.1 a with rfl|a
  ·exact OE (EK h.2.2.1)
  ·exact EK h.2.2.2.2 n a
theorem Wo{n:Bn}{W:Nat→Prop}{h:ae}{b:Nat}{sl:ByteArray}{ahead:ByteArray}(r:RxN W h b sl n.2.1 n.2.2)(e:sl.data.toList=n.1)(nk:NodeK n ahead.data.toList)(c:(pp ahead.data.toList n).length≤1000000){K:SliceV→ae→Prop}(a:∀s' h',OwnS eC 2 aq (fun y=>h.size≤y) h' s' (pp ahead.data.toList n)→Upd No h h'→K s' h'):HC PG lu [.pointer (some ⟨b,0,none⟩),.string ahead] [.c .slice] K h:=
 OE (EK nk.can) r e nk c a
theorem Gb{W:Nat→Prop}{h:ae}{b:Nat}{sl key:ByteArray}{w:Option ByteArray}{F:Fo}(r:RxN W h b sl w F){K:SliceV→ae→Prop}(a:∀s' h',OwnS eC 2 aq (fun y=>h.size≤y) h' s' (xx key.data.toList w)→Upd No h h'→K s' h'):HC PG yB [.pointer (some ⟨b,0,none⟩),.string key] [.c .slice] K h:=by
 refine SN _ key ?_;unfold JO hP;refine HX r fun v hv=>?_
 cases w with
 |none=>exact au.2 (a _ h (OwnS.nil gq) (Upd.refl _ _))
 |some u=>
  have:=hv u rfl;subst this;refine aj.2 (aW fun c b1 k1=>?_)
  refine a _ c ⟨rfl,gq,al _,.inr ⟨h.size,[],rfl,al _,?_,rfl⟩⟩ k1;rw[b1];unfold xx;rw[Rp];rfl
end Go.Proofs
namespace Go.Proofs
open Go Go.Lift
theorem Yi{α:Type}{f:α→List Value}{a:Nat}{W:Nat→Prop}{h:ae}{s:SliceV}{p:α}{l:List α}(b:Sl f a W h s (p::l))(hc:s.len≤s.cap):Sl f a W h ⟨bh s.a 1 s.cap a,s.len-1,s.cap-1⟩ l:=by
 have d:=b.len;rw[ao]at d;have:=Sl.sub b (l:=1) (hi:=s.len) (m:=s.cap) (c:=s.cap-1) (by omega) (by rw[ao];omega) hc;rw[show((p::l).drop 1).take (s.len-1)=l by rw[List.drop_succ_cons,List.drop_zero];exact List.take_of_length_le (by omega)]at this
 exact this
theorem Yq{W W':Nat→Prop}{h:ae}{b:Nat}{sl a:ByteArray}{w e:Option ByteArray}{F F':Fo}(r:RxN W h b sl w F)(q:RxN W' h b a e F'):sl=a∧w=e∧F=F':=by
 obtain⟨val,s,ow,ks,j,k,g,v,n⟩:=r;obtain⟨d,s',i,p,c,u,f,x,t⟩:=q;rw[j]at c;simp only[Option.some.injEq,Obj.cells.injEq,and_true]at c;obtain⟨o,m,rfl,rfl⟩:=Tq c;have:=Sl.det Tp g f;subst this;exact⟨o,TA m k u,QT n t⟩
theorem RxN.plain{W:Nat→Prop}{h:ae}{b:Nat}{sl:ByteArray}{w:Option ByteArray}{F:Fo}(r:RxN W h b sl w F):gI h ⟨b,0,none⟩:=by
 obtain⟨val,s,ow,ks,a,_⟩:=r;exact Re a (by simp[AY])
def NdO(W:Nat→Prop)(h:ae)(pre:List UInt8)(r:Option Addr)(A:List Pr):Prop:=(r=none∧A= [])∨∃b sl n,r=some ⟨b,0,none⟩∧RxN W h b sl n.2.1 n.2.2∧sl.data.toList=n.1∧NodeK n pre∧A=pp pre n
theorem NdO.upd0{W:Nat→Prop}{h h':ae}{pre:List UInt8}{r:Option Addr}{A:List Pr}(k:Upd No h h')(o:NdO W h pre r A):NdO W h' pre r A:=o.imp id fun⟨b,sl,n,d,c,a⟩=>⟨b,sl,n,d,c.upd0 k,a⟩
theorem OD{W:Nat→Prop}{h:ae}{ahead:ByteArray}{r:Option Addr}{A:List Pr}(o:NdO W h ahead.data.toList r A)(c:A.length≤1000000){K:SliceV→ae→Prop}(a:∀s' h',OwnS eC 2 aq (fun y=>h.size≤y) h' s' A→Upd No h h'→K s' h'):HC PG lu [.pointer r,.string ahead] [.c .slice] K h:=by
 rcases o with⟨rfl,rfl⟩|⟨b,sl,n,rfl,r,e,nk,rfl⟩
 ·refine Gt none ahead ?_
  unfold Aj bI cl lM hP nW;exact au.2 (a _ h (OwnS.nil gq) (Upd.refl _ _))
 ·exact Wo r e nk c a
theorem CW{W C:Nat→Prop}{h:ae}{ahead:ByteArray}{r t:Option Addr}{A B:List Pr}{L:List Ch}{p:Nat}{z:Hs}(o:NdO W h ahead.data.toList r A)(H:NdO W h ahead.data.toList t B)(st:SetAt C h p z L)(w:A.length≤1000000)(v:B.length≤1000000)(K:L.length+A.length+B.length≤10000000){G:Unit→ae→Prop}(E:Vw C h p z (L++me A B) (G ())):
  HC PG lu [.pointer r,.string ahead] [.c .slice] (fun(f:SliceV) x=>HC PG lu [.pointer t,.string ahead] [.c .slice] (fun(a:SliceV) i=>HC PG jg [.pointer (some ⟨p,0,none⟩),.slice f.a f.len f.cap,.slice a.a a.len a.cap] [] (fun(_:Unit) q=>G () q) i) x) h:=by
 refine OD o w fun M N c k1=>OD (H.upd0 k1) v fun O h2 d e=>?_
 have F:=k1.size;obtain⟨_,g,_⟩:=st.ex;have D:=bD g;have b:=c.upd e fun _ _ h=>h
 refine Dn (st.upd0 (k1.tr e)) (b.sl fun y s _ k=>?_) (d.sl fun y s _ k=>?_) c.cap d.cap (by omega) fun I J m j n=>?_
 ·rcases k with h|h
  ·have:=st.lt y h;omega
  ·omega
 ·rcases k with h|h
  ·have:=st.lt y h;omega
  ·omega
 ·have u:=e.size
  exact E I J m (fun y s=>(j y s).imp id fun h=>by omega) ((k1.tr e).wide.tr n)
theorem Ll{W C:Nat→Prop}{h:ae}{ahead:ByteArray}{r b:Option Addr}{A B:List Pr}{L:List Ch}{f:Nat}{z:Hs}(o:NdO W h ahead.data.toList r A)(g:NdO W h ahead.data.toList b B)(d:r=none∨b=none)(st:SetAt C h f z L)(m:A.length≤1000000)(k:B.length≤1000000)(n:L.length+A.length+B.length≤10000000){K:Unit→ae→Prop}(i:Vw C h f z (L++me A B) (K ())):
  HC PG jf [.pointer (some ⟨f,0,none⟩),.pointer r,.pointer b,.string ahead] [] K h:=by
 refine xO _ r b ahead ?_;unfold sR bI cl nW Ox MJ;refine⟨trivial,fun a a' e q=>by rcases d with h|h<;>simp_all,CondP.intro (fun e=>?_) fun e=>?_⟩
 ·have p:r=b:=by simpa using e
  have j:r=none∧b=none:=by rcases d with h|h<;>simp_all
  obtain⟨rfl,rfl⟩:=j;obtain rfl:A= []:=by rcases o with⟨_,h⟩|⟨_,_,_,h,_⟩;exact h;cases h
  obtain rfl:B= []:=by rcases g with⟨_,h⟩|⟨_,_,_,h,_⟩;exact h;cases h
  exact i h C (by rw[kF,j2,aL];exact st) (fun _ h=>.inl h) (Upd.refl _ _)
 ·refine Join.intro (fun t h'=>t=true∧h'=h) (fun R c=>?_) ?_
  ·rcases d with rfl|rfl
   ·exact au.2 (c _ _ ⟨rfl,rfl⟩)
   ·exact CondP.intro (fun _=>c _ _ ⟨rfl,rfl⟩) fun _=>au.2 (c _ _ ⟨rfl,rfl⟩)
  ·rintro t h' ⟨rfl,rfl⟩
   exact au.2 (CW o g st m k n i)
theorem YS{sl:ByteArray}{l:List UInt8}(e:sl.data.toList=l)(b:l≠[]):∃c:UInt8,(0:Int)≤0∧sl[(0:Int).toNat]? =some c∧c.toNat=hd l:=by
 match l,b with
 |c::l,_=>
  refine⟨c,Int.le_refl _,?_,rfl⟩;have a:0<sl.size:=by
   have:sl.data.toList.length=sl.size:=pG;rw[←this,e];simp
  have:sl.data[0]? =some c:=by rw[←Array.getElem?_toList,e];rfl
  rw[show(0:Int).toNat=0 from rfl]
  rw[getElem?_pos sl 0 a];rw[Array.getElem?_eq_getElem a]at this;exact this
def Sp(n:Bn):Prop:=∀{W C:Nat→Prop} {h:ae} {b b':Nat} {sl sl' ahead:ByteArray} {n':Bn} {L:List Ch} {sb:Nat} {z:Hs},RxN W h b sl n.2.1 n.2.2→sl.data.toList=n.1→RxN W h b' sl' n'.2.1 n'.2.2→sl'.data.toList=n'.1→NodeK n ahead.data.toList→NodeK n' ahead.data.toList→SetAt C h sb z L→
 (∀y,C y∨y=sb→W y)→(∀y,h.size≤y→W y)→(pp ahead.data.toList n).length≤1000000→(pp ahead.data.toList n').length≤1000000→L.length+(pp ahead.data.toList n).length+(pp ahead.data.toList n').length≤10000000→
 ∀{K:Unit→ae→Prop},Vw C h sb z (L++me (pp ahead.data.toList n) (pp ahead.data.toList n')) (K ())→HC PG jf [.pointer (some ⟨sb,0,none⟩),.pointer (some ⟨b,0,none⟩),.pointer (some ⟨b',0,none⟩),.string ahead] [] K h
theorem mU{key:List UInt8}{P:List Pr}{L:List Bn}(h:∀n∈L,∀p∈P,∀q∈pp key n,kl p.1 q.1):∀p∈P,∀q∈L.flatMap (pp key),kl p.1 q.1:=by
 intro p b q a;obtain⟨n,c,a⟩:=List.mem_flatMap.1 a;exact h n c p b q a
set_option maxHeartbeats 1000000 in
theorem Lm{lab:List UInt8}{w:Option ByteArray}{F:Fo}(ih:∀n∈F.toL,Sp n):Sp (lab,w,F):=by
 intro W C h b b' sl sl' ahead n' L E z r e r' e' nk nk' st hCW hWn hA hB hL K hk;obtain⟨lab',w',F'⟩:=n';simp only at r e r' e';refine xO _ _ _ ahead ?_;unfold sR bI cl nW Ox MJ;refine⟨trivial,fun a a' e1 e2=>by cases e1;cases e2;exact⟨r.plain,r'.plain⟩,CondP.intro (fun e1=>?_) fun e1=>?_⟩
 ·obtain rfl:b=b':=by simpa using e1
  obtain⟨rfl,rfl,rfl⟩:=Yq r r';subst e e';exact hk h C (by rw[DI,aL];exact st) (fun _ h=>.inl h) (Upd.refl _ _)
 clear e1;refine Join.intro (fun t h'=>h'=h∧t= !(decide (sl=sl'))) (fun R hR=>?_) ?_
 ·refine aj.2 (aj.2 (nZ r (nZ r' (hR _ _ ⟨rfl,?_⟩))))
  have eb:(sl.toList==sl'.toList)=decide (sl=sl'):=ey;rw[eb]
 rintro t h0 ⟨rfl,et⟩;by_cases hsl:sl=sl'
 rotate_left
 ·rw[decide_eq_false hsl]at et
  subst et;refine au.2 ?_;exact CW (.inr ⟨b,sl,(lab,w,F),rfl,r,e,nk,rfl⟩) (.inr ⟨b',sl',(lab',w',F'),rfl,r',e',nk',rfl⟩) st hA hB hL hk
 rw[decide_eq_true hsl]at et;subst et hsl;obtain rfl:lab=lab':=by rw[←e,←e']
 refine aj.2 (nZ r ?_);have hkl:=nk.len;simp only at hkl;have esz:∀k:ByteArray,k.size=k.data.toList.length:=fun k=>by rw[pG];rfl
 have e1:=esz ahead;have e2:=esz sl;rw[e]at e2;refine⟨by omega,?_⟩;have U:(ahead++sl).data.toList=ahead.data.toList++lab:=by rw[←aaU,e]
 rw[LG,ac]at hA hB;rw[LG,LG,ac,ac]at hL;rw[LG,LG]at hk;have hcF:=eW.1 nk.can;have H:=eW.1 nk'.can;have hkid:∀m∈F.toL,NodeK m (ahead++sl).data.toList:=fun m hm=>by rw[U];exact nk.kid hm
 have N:∀m∈F'.toL,NodeK m (ahead++sl).data.toList:=fun m hm=>by rw[U];exact nk'.kid hm
 rw[←U]at hA hB hL hk;generalize ahead++sl=key at U hkid N hA hB hL hk⊢;have S:∀{u:Option ByteArray},cf (xx key.data.toList u):=fun{u}=>by cases u<;>simp[xx,cf]
 rw[Hr S S (mU fun m hm=>M8 (hcF.2 m hm).1) (mU fun m hm=>M8 (H.2 m hm).1) (mU fun m hm=>M8 (hcF.2 m hm).1) (mU fun m hm=>M8 (H.2 m hm).1),←ar]at hk
 refine Gb r fun s1 h1 ho1 k1=>Gb (r'.upd0 k1) fun s2 h2 ho2 k2=>?_
 have k12:=k1.tr k2;have s1z:=k1.size;have s2z:=k2.size;obtain⟨_,hsb,_⟩:=st.ex;have zsb:=bD hsb;refine Dn (st.upd0 k12) ((ho1.upd k2 fun _ _ h=>h).sl fun y d _ hw=>?_) (ho2.sl fun y d _ hw=>?_) ho1.cap ho2.cap (by omega) fun h3 T st3 hC3 hu3=>?_
 ·rcases hw with h|h
  ·have:=st.lt y h;omega
  ·omega
 ·rcases hw with h|h
  ·have:=st.lt y h;omega
  ·omega
 have hlo:∀u v:Option ByteArray,(me (xx key.data.toList u) (xx key.data.toList v)).length≤(xx key.data.toList u).length+(xx key.data.toList v).length:=fun u v=>DJ S S
 have hlo:=hlo w w';generalize me (xx key.data.toList w) (xx key.data.toList w')=X at st3 hk hlo;generalize (xx key.data.toList w).length=x1 at hA hL hlo;generalize (xx key.data.toList w').length=x2 at hB hL hlo;have hM3:∀y,C y∨y=E→W y∨h2.size≤y:=fun y d=>.inl (hCW y d)
 have s3z:=hu3.size;refine EO ((r.upd0 k12).updM hu3 hM3) (jC nk.can) fun s4 h4 ks ho4 hL4 k4=>?_
 refine EO (((r'.upd0 k12).updM hu3 hM3).upd0 k4) (jC nk'.can) fun s5 M ks' ho5 hL5 k5=>?_
 have s4z:=k4.size;have s5z:=k5.size;obtain⟨_,hsb3,_⟩:=st3.ex;have zsb3:=bD hsb3;have st5:=st3.upd0 (k4.tr k5);have hW5:∀y,M.size≤y→W y:=fun y d=>hWn y (by omega)
 have hC3W:∀y,T y∨y=E→W y:=fun y d=>d.elim (fun h=>(hC3 y h).elim (fun h=>hCW y (.inl h)) fun h=>hWn y (by omega)) fun h=>hCW y (.inr h)
 have hv4:Sl pj 1 (fun y=>T y∨y=E∨M.size≤y) M s4 ks:=(ho4.sl (W:=fun y=>T y∨y=E∨M.size≤y) fun y d hl hw=>by
  rcases hw with h|h|h
  ·have:=st3.lt y h;omega
  ·omega
  ·omega).upd k5 fun _ h=>h.elim
 have hv5:Sl pj 1 (fun y=>T y∨y=E∨M.size≤y) M s5 ks':=ho5.sl (W:=fun y=>T y∨y=E∨M.size≤y) fun y d hl hw=>by
  rcases hw with h|h|h
  ·have:=st3.lt y h;omega
  ·omega
  ·omega
 have hku:Upd (fun y=>C y∨y=E) h0 M:=(k12.wide.tr hu3).tr (k4.tr k5).wide
 have hC5:∀y,T y→C y∨h0.size≤y:=fun y d=>(hC3 y d).imp id fun h=>by omega
 refine LoopP.ghost (fun(g:(List (Option Addr)×List Bn)×(List (Option Addr)×List Bn)×List Ch×(Nat→Prop)) (t:SliceV×SliceV) h'=>SetAt g.2.2.2 h' E z g.2.2.1∧(∀y,g.2.2.2 y→T y∨M.size≤y)∧Upd (fun y=>T y∨y=E) M h'∧Sl pj 1 (fun y=>T y∨y=E∨M.size≤y) h' t.1 g.1.1∧Sl pj 1 (fun y=>T y∨y=E∨M.size≤y) h' t.2 g.2.1.1∧t.1.len≤t.1.cap∧t.2.len≤t.2.cap∧
   RxL W h' g.1.1 g.1.2∧RxL W h' g.2.1.1 g.2.1.2∧(∀m∈g.1.2,m∈F.toL)∧(∀m∈g.2.1.2,m∈F'.toL)∧g.1.2.Pairwise (fun m n=>hd m.1<hd n.1)∧g.2.1.2.Pairwise (fun m n=>hd m.1<hd n.1)∧
   g.2.2.1++me (g.1.2.flatMap (pp key.data.toList)) (g.2.1.2.flatMap (pp key.data.toList))=(L++X)++me (F.toL.flatMap (pp key.data.toList)) (F'.toL.flatMap (pp key.data.toList))∧
   g.2.2.1.length+(g.1.2.flatMap (pp key.data.toList)).length+(g.2.1.2.flatMap (pp key.data.toList)).length≤10000000∧(g.1.2.flatMap (pp key.data.toList)).length≤1000000∧(g.2.1.2.flatMap (pp key.data.toList)).length≤1000000)
  (fun g=>g.1.2.length+g.2.1.2.length) ((ks,F.toL),(ks',F'.toL),L++X,T)
  ⟨st5,fun _ h=>.inl h,Upd.refl _ _,hv4,hv5,ho4.cap,ho5.cap,hL4.upd0 k5,hL5,fun _ h=>h,fun _ h=>h,hcF.1,H.1,rfl,by rw[ac];simp only;omega,by(try simp only);omega,by(try simp only);omega⟩ ?_
 rintro I ⟨⟨ka,La⟩,⟨kb,Lb⟩,L1,C1⟩ ⟨t1,t2⟩ j ⟨st1,hC1,hu1,D,Q,hc1,hc2,s,P,G,Y,hpa,hpb,he,hl1,hl2,hl3⟩ hI;simp only at st1 hC1 D Q hc1 hc2 s P G Y hpa hpb he hl1 hl2 hl3;have z1:t1.len=La.length:=D.len.trans s.1;have z2:t2.len=Lb.length:=Q.len.trans P.1;have hC1W:∀y,C1 y∨y=E→W y:=fun y d=>d.elim (fun h=>(hC1 y h).elim (fun h=>hC3W y (.inl h)) (hW5 y)) fun h=>hC3W y (.inr h)
 have hW1:∀y,j.size≤y→W y:=fun y d=>hW5 y (bj hu1.size d)
 have go:∀(c:List Ch) (u1 u2:SliceV) (ka2 kb2:List (Option Addr)) (A2 B2:List Bn) (h2:ae) (C2:Nat→Prop),SetAt C2 h2 E z (L1++c)→(∀y,C2 y→C1 y∨j.size≤y)→Upd (fun y=>C1 y∨y=E) j h2→me (La.flatMap (pp key.data.toList)) (Lb.flatMap (pp key.data.toList))=c++me (A2.flatMap (pp key.data.toList)) (B2.flatMap (pp key.data.toList))→
   c.length+(A2.flatMap (pp key.data.toList)).length+(B2.flatMap (pp key.data.toList)).length≤(La.flatMap (pp key.data.toList)).length+(Lb.flatMap (pp key.data.toList)).length→(A2.flatMap (pp key.data.toList)).length≤1000000→(B2.flatMap (pp key.data.toList)).length≤1000000→
   Sl pj 1 (fun y=>T y∨y=E∨M.size≤y) j u1 ka2→Sl pj 1 (fun y=>T y∨y=E∨M.size≤y) j u2 kb2→u1.len≤u1.cap→u2.len≤u2.cap→RxL W j ka2 A2→RxL W j kb2 B2→A2.Sublist La→B2.Sublist Lb→A2.length+B2.length<La.length+Lb.length→I (u1,u2) h2:=by
  intro c u1 u2 ka2 kb2 A2 B2 h2 C2 st2 hC2 hu2 ec hlc hlA hlB v1 v2 w1 w2 ra rb sa sb' J;have hm:∀y,C1 y∨y=E→(T y∨y=E∨M.size≤y)∨j.size≤y:=fun y d=>.inl (d.elim (fun h=>(hC1 y h).imp id .inr) fun h=>.inr (.inl h))
  have hmW:∀y,C1 y∨y=E→W y∨j.size≤y:=fun y d=>.inl (hC1W y d)
  refine hI ((ka2,A2),(kb2,B2),L1++c,C2) (u1,u2) h2 ⟨st2,fun y d=>?_,?_,v1.upd hu2 hm,v2.upd hu2 hm,w1,w2,ra.updN hu2 hmW,rb.updN hu2 hmW,fun m hm=>G m (sa.subset hm),fun m hm=>Y m (sb'.subset hm),hpa.sublist sa,hpb.sublist sb',?_,?_,hlA,hlB⟩ J
  ·rcases hC2 y d with h|h
   ·exact hC1 y h
   ·exact .inr (bj hu1.size h)
  ·exact hu1.trans hu2 fun y d=>d.elim (fun h=>(hC1 y h).imp .inl id) fun h=>.inl (.inr h)
  ·show(L1++c)++_=_
   rw[ar,←ec,he]
  ·show(L1++c).length+(A2.flatMap (pp key.data.toList)).length+(B2.flatMap (pp key.data.toList)).length≤10000000
   rw[ac];omega
 refine Join.intro (fun t h'=>h'=j∧(t=true↔La≠[]∨Lb≠[])) (fun R hR=>?_) ?_
 ·refine az (fun o=>hR _ _ ⟨rfl,?_⟩) fun o=>hR _ _ ⟨rfl,?_⟩
  ·have o:(t1.len:Int)>0:=o
   simp only[true_iff];left;intro e;rw[e]at z1;simp only[aG]at z1;omega
  ·have o:¬(t1.len:Int)>0:=o
   have e1:La= []:=ay.1 (by omega);show decide ((t2.len:Int)>0)=true↔_
   rw[decide_eq_true_iff];constructor
   ·intro h;right;intro e;rw[e]at z2;simp only[aG]at z2;omega
   ·intro h
    rcases h with h|h
    ·exact absurd e1 h
    ·have:=fI.2 h;omega
 rintro t h6 ⟨rfl,ht⟩;refine CondP.intro (fun et=>?_) fun et=>?_
 rotate_left
 ·have hn:La= []∧Lb= []:=by
   rw[et]at ht;constructor
   ·exact Decidable.byContradiction fun h=>absurd (ht.2 (.inl h)) (by simp)
   ·exact Decidable.byContradiction fun h=>absurd (ht.2 (.inr h)) (by simp)
  obtain⟨rfl,rfl⟩:=hn;rw[jl,kF,j2,aL]at he;subst he;exact hk h6 C1 st1 (fun y d=>(hC1 y d).elim (hC5 y) fun h=>.inr (by omega)) (hku.trans hu1 fun y d=>d.elim (fun h=>(hC5 y h).imp .inl id) fun h=>.inl (.inr h))
 have hne:=ht.1 et;clear ht et;have V:∀m∈La,m.1≠[]:=fun m hm=>(hcF.2 m (G m hm)).1
 have Z:∀m∈Lb,m.1≠[]:=fun m hm=>(H.2 m (Y m hm)).1
 refine Join.intro (fun t h'=>h'=h6∧((t=true∧∃a A',La=a::A'∧∀q∈Lb,hd a.1<hd q.1)∨(t=false∧∃b B',Lb=b::B'∧(La= []∨∃a A',La=a::A'∧¬hd a.1<hd b.1)))) (fun R hR=>?_) ?_
 ·rcases Lb with _|⟨q,B'⟩
  ·rcases La with _|⟨a,A'⟩
   ·exact absurd hne (by simp)
   rw[show(((t2.len:Nat):Int)==0)=true by rw[z2];rfl]
   exact au.2 (hR _ _ ⟨rfl,.inl ⟨rfl,a,A',rfl,fun q hq=>absurd hq hE⟩⟩)
  ·rw[ao]at z2
   rw[show(((t2.len:Nat):Int)==0)=false by rw[beq_eq_false_iff_ne];omega]
   refine aj.2 ?_;rcases La with _|⟨a,A'⟩
   ·rw[aG]at z1
    rw[decide_eq_false (show ¬((t1.len:Int)>0) by omega)]
    exact aj.2 (hR _ _ ⟨rfl,.inr ⟨rfl,q,B',rfl,.inl rfl⟩⟩)
   ·rw[ao]at z1
    rw[decide_eq_true (show((t1.len:Int)>0) by omega)]
    obtain⟨b1,l1,g1,g2,g3⟩:=s.at (i:=0) (pg _);obtain⟨b2,l2,f1,f2,f3⟩:=P.at (i:=0) (pg _);simp only[gj]at g2 g3 f2 f3;obtain⟨a1,O,_,v1⟩:=D.at0 g1;obtain⟨a2,ha2,_,v2⟩:=Q.at0 f1;obtain⟨c1,cc1,cd1,ce1⟩:=YS g2 (V a (aw ..));obtain⟨c2,cc2,cd2,ce2⟩:=YS f2 (Z q (aw ..));refine au.2 ⟨⟨by(try simp only);omega,by(try simp only);omega⟩,a1,O,_,v1,⟨by(try simp only);omega,by(try simp only);omega⟩,a2,ha2,_,v2,nZ g3 ⟨v2,c1,cc1,cd1,nZ f3 ⟨c2,cc2,cd2,hR _ _ ⟨rfl,?_⟩⟩⟩⟩
    rw[ce1,ce2];by_cases J:hd a.1<hd q.1
    ·refine .inl ⟨decide_eq_true (by omega),a,A',rfl,fun m hm=>?_⟩
     rcases aA.1 hm with rfl|hm
     ·exact J
     ·exact Nat.lt_trans J ((aJ.1 hpb).1 m hm)
    ·exact .inr ⟨decide_eq_false (by omega),q,B',rfl,.inr ⟨a,A',rfl,J⟩⟩
 rintro t h7 ⟨rfl,⟨rfl,a,A',rfl,hlow⟩|⟨rfl,q,B',rfl,hor⟩⟩
 ·
  rw[ao]at z1;obtain⟨b1,l1,g1,g2,g3⟩:=s.at (i:=0) (pg _);simp only[gj]at g2 g3;obtain⟨a1,O,_,v1⟩:=D.at0 g1;rw[aO,ac]at hl1 hl2;refine au.2 ⟨⟨by(try simp only);omega,by(try simp only);omega⟩,a1,O,_,v1,?_⟩
  refine Ll (A:=pp key.data.toList a) (B:= []) (.inr ⟨b1,l1,a,rfl,g3,g2,hkid a (G a (aw ..)),rfl⟩) (.inl ⟨rfl,rfl⟩) (.inr rfl) st1 (by omega) (aS _) (by rw[aG];omega) fun h8 C8 st8 hC8 hu8=>?_
  refine⟨⟨by(try simp only);omega,by(try simp only);omega⟩,?_⟩
  simp only[Bd];rcases ka with _|⟨k0,ka⟩
  ·simp at g1
  have ca:=hcF.2 a (G a (aw ..));have o:=aJ.1 hpa;refine go (me (pp key.data.toList a) []) _ t2 ka kb A' Lb h8 C8 st8 hC8 hu8 ?_ ?_ (by omega) hl3 (Yi D hc1) Q (by show t1.len-1≤t1.cap-1;omega) hc2 (s.drop 1) P (mO ..) (.refl _) (by rw[ao];omega)
  ·rw[aO]
   exact Hr (B1:= []) (tF ca.2.2) .nil (mU fun m hm=>F7 ca.1 (V m (aB _ hm)) (o.1 m hm)) (mU fun m hm=>F7 ca.1 (Z m hm) (hlow m hm)) (fun p o=>absurd o hE) (fun p o=>absurd o hE)
  ·have:=DJ (tF (pre:=key.data.toList) ca.2.2) (B:= []) .nil
   rw[aO,ac];rw[aG]at this;omega
 refine aj.2 ?_;rw[ao]at z2;obtain⟨b2,l2,f1,f2,f3⟩:=P.at (i:=0) (pg _);simp only[gj]at f2 f3;obtain⟨a2,ha2,_,v2⟩:=Q.at0 f1;obtain⟨c2,cc2,cd2,ce2⟩:=YS f2 (Z q (aw ..));rcases kb with _|⟨k0',kb⟩
 ·simp at f1
 have cb:=H.2 q (Y q (aw ..));have hpq:=aJ.1 hpb;rw[aO (f:=pp key.data.toList),ac]at hl3;rw[aO (f:=pp key.data.toList) (x:=q),ac]at hl1;refine Join.intro (fun t h'=>h'=h7∧((t=true∧∀p∈La,hd q.1<hd p.1)∨(t=false∧∃a A',La=a::A'∧hd a.1=hd q.1))) (fun R hR=>?_) ?_
 ·rcases hor with rfl|⟨a,A',rfl,hnl⟩
  ·rw[show(((t1.len:Nat):Int)==0)=true by rw[z1];rfl]
   exact au.2 (hR _ _ ⟨rfl,.inl ⟨rfl,fun p o=>absurd o hE⟩⟩)
  ·rw[ao]at z1
   rw[show(((t1.len:Nat):Int)==0)=false by rw[beq_eq_false_iff_ne];omega]
   obtain⟨b1,l1,g1,g2,g3⟩:=s.at (i:=0) (pg _);simp only[gj]at g2 g3;obtain⟨a1,O,_,v1⟩:=D.at0 g1;obtain⟨c1,cc1,cd1,ce1⟩:=YS g2 (V a (aw ..));refine aj.2 ⟨⟨by(try simp only);omega,by(try simp only);omega⟩,a2,ha2,_,v2,⟨by(try simp only);omega,by(try simp only);omega⟩,a1,O,_,v1,nZ f3 ⟨v1,c2,cc2,cd2,nZ g3 ⟨c1,cc1,cd1,hR _ _ ⟨rfl,?_⟩⟩⟩⟩
   rw[ce1,ce2];by_cases J:hd q.1<hd a.1
   ·refine .inl ⟨decide_eq_true (by omega),fun m hm=>?_⟩
    rcases aA.1 hm with rfl|hm
    ·exact J
    ·exact Nat.lt_trans J ((aJ.1 hpa).1 m hm)
   ·exact .inr ⟨decide_eq_false (by omega),a,A',rfl,by omega⟩
 rintro t h8 ⟨rfl,⟨rfl,hlow⟩|⟨rfl,a,A',rfl,heq⟩⟩
 ·
  refine au.2 ⟨⟨by(try simp only);omega,by(try simp only);omega⟩,a2,ha2,_,v2,?_⟩
  refine Ll (A:= []) (B:=pp key.data.toList q) (.inl ⟨rfl,rfl⟩) (.inr ⟨b2,l2,q,rfl,f3,f2,N q (Y q (aw ..)),rfl⟩) (.inl rfl) st1 (aS _) (by omega) (by rw[aG];omega) fun h9 C9 st9 hC9 hu9=>?_
  refine⟨⟨by(try simp only);omega,by(try simp only);omega⟩,?_⟩
  simp only[Bd];refine go (me [] (pp key.data.toList q)) t1 _ ka kb La B' h9 C9 st9 hC9 hu9 ?_ ?_ hl2 (by omega) D (Yi Q hc2) hc1 (by show t2.len-1≤t2.cap-1;omega) s (P.drop 1) (.refl _) (mO ..) (by rw[ao];omega)
  ·rw[aO]
   exact Hr (A1:= []) .nil (tF cb.2.2) (fun p o=>absurd o hE) (fun p o=>absurd o hE) (mU fun m hm=>F7 cb.1 (V m hm) (hlow m hm)) (mU fun m hm=>F7 cb.1 (Z m (aB _ hm)) (hpq.1 m hm))
  ·have:=DJ (A:= []) (B:=pp key.data.toList q) .nil (tF cb.2.2)
   rw[aO,ac];rw[aG]at this;omega
 ·
  rw[ao]at z1;obtain⟨b1,l1,g1,g2,g3⟩:=s.at (i:=0) (pg _);simp only[gj]at g2 g3;obtain⟨a1,O,_,v1⟩:=D.at0 g1;rcases ka with _|⟨k0,ka⟩
  ·simp at g1
  have ca:=hcF.2 a (G a (aw ..));have o:=aJ.1 hpa;rw[aO,ac]at hl1 hl2;refine aj.2 ⟨⟨by(try simp only);omega,by(try simp only);omega⟩,a1,O,_,v1,⟨by(try simp only);omega,by(try simp only);omega⟩,a2,ha2,_,v2,?_⟩
  refine ih a (G a (aw ..)) (n':=q) g3 g2 f3 f2 (hkid a (G a (aw ..))) (N q (Y q (aw ..))) st1 hC1W hW1 (by omega) (by omega) (by omega) fun h9 C9 st9 hC9 hu9=>?_
  refine⟨⟨by(try simp only);omega,by(try simp only);omega⟩,?_⟩
  simp only[Bd];refine⟨⟨by(try simp only);omega,by(try simp only);omega⟩,?_⟩
  refine go (me (pp key.data.toList a) (pp key.data.toList q)) _ _ ka kb A' B' h9 C9 st9 hC9 hu9 ?_ ?_ (by omega) (by omega) (Yi D hc1) (Yi Q hc2) (by show t1.len-1≤t1.cap-1;omega) (by show t2.len-1≤t2.cap-1;omega) (s.drop 1) (P.drop 1) (mO ..) (mO ..) (by rw[ao,ao];omega)
  ·rw[aO,aO]
   exact Hr (tF ca.2.2) (tF cb.2.2) (mU fun m hm=>F7 ca.1 (V m (aB _ hm)) (o.1 m hm)) (mU fun m hm=>F7 ca.1 (Z m (aB _ hm)) (by rw[heq];exact hpq.1 m hm)) (mU fun m hm=>F7 cb.1 (V m (aB _ hm)) (by rw[←heq];exact o.1 m hm)) (mU fun m hm=>F7 cb.1 (Z m (aB _ hm)) (hpq.1 m hm))
  ·have:=DJ (tF (pre:=key.data.toList) ca.2.2) (tF (pre:=key.data.toList) cb.2.2)
   rw[aO,aO,ac,ac];omega
theorem BU:∀{F:Fo},fV F→∀n∈F.toL,Sp n
 | .nil,_,n,a=>by simp[Fo.toL]at a
 | .cons lab w kids rest,h,n,a=>by
  rcases aA.1 a with rfl|a
  ·exact Lm (BU h.2.2.1)
  ·exact BU h.2.2.2.2 n a
end Go.Proofs
namespace Go.Proofs
open Go Go.Lift
theorem Pq{lt:Ch→Ch→Bool}(w:WO lt){M:Nat→Prop}{Iv:ae→Prop}{v:Value}(hc:Cmp lt pk M Iv v){h:ae}{s:SliceV}{A S B:List (Ch)}(ho:OwnS pk 5 bE M h s (A++(S++B)))(hi:Iv h)(hn:s.len≤1000000000){a b:Nat}(d:a=A.length)(J:b=A.length+S.length){K:Unit→ae→Prop}
  (hk:∀h' R,OwnS pk 5 bE M h' s (A++(R++B))→St lt S R→Upd M h h'→K () h'):HC PG fC [.slice s.a s.len s.cap,.int .i64 a,.int .i64 b,v] [] K h:=by
 subst d J;refine mY s A.length (A.length+S.length:Nat) v ?_;unfold iB bI cl aK ld cD AV Hb lP;have j:=ho.len;simp only[ac]at j;have ea:IntKind.wrap .i64 ((A.length:Int)+1)=((A.length+1:Nat):Int):=by rw[fx (by omega)];omega
 rw[ea];refine LoopP.ghost (fun(g:List (Ch)×List (Ch)×List (Ch)) (t:Int) h'=>t=((A.length+max 1 g.1.length:Nat):Int)∧S=g.1++g.2.2∧(g.1= []→g.2.2= [])∧St lt g.1 g.2.1∧OwnS pk 5 bE M h' s (A++(g.2.1++(g.2.2++B)))∧Upd M h h') (fun g=>g.2.2.length) (S.take 1,S.take 1,S.drop 1)
  ⟨?_,(aI ..).symm,fun e=>?_,⟨Eqf.rfl _,?_⟩,by rw[←ar (S.take 1),aI];exact ho,Upd.refl _ _⟩ ?_
 ·simp only[aH];omega
 ·have:=congrArg List.length e
  simp only[aH,aG]at this;exact ay.1 (by simp only[List.length_drop];omega)
 ·match S with
  | []=>exact Srt.nil
  |x::S=>exact Srt.one x
 rintro I ⟨S1,R1,T⟩ t h' ⟨N,P,n,k,o,hu⟩ hI;simp only at N P n k o;subst N P;simp only[ac]at j;have X:=k.eqf.len;refine az (fun D=>?_) fun hge=>?_
 ·simp only[ac]at D
  have W:S1≠[]:=fun e=>by
   have:=n e;subst e;subst this;simp only[aG]at D;omega
  have hS1l:0<S1.length:=fI.2 W;match T with
  | []=>simp only[aG]at D;omega
  |x::T=>
   have H:A.length+max 1 S1.length=A.length+S1.length:=by omega
   rw[H];refine LoopP.ghost (fun(g:List (Ch)×List (Ch)) (t:Int) h2=>t=((A.length+g.1.length:Nat):Int)∧R1=g.1++g.2∧(∀y∈g.2,lt x y=true)∧OwnS pk 5 bE M h2 s (A++(g.1++(x::(g.2++(T++B)))))∧Upd M h h2) (fun g=>g.1.length) (R1,[])
    ⟨by simp only;omega,by simp,fun y c=>(by cases c),by simpa using o,hu⟩ ?_
   rintro I2 ⟨L,G⟩ t2 h2 ⟨N,P,Y,m,C⟩ hI2;simp only at N P Y m;subst N P;simp only[ac]at X;simp only[ao]at j;refine Join.intro (fun t h3=>Upd M h h3∧OwnS pk 5 bE M h3 s (A++(L++(x::(G++(T++B)))))∧(t=true→∃L' y,L=L'++ [y]∧lt x y=true)∧(t=false→∀y∈L,lt x y=false)) (fun Rj Q=>?_) ?_
   ·refine az (fun hgt=>?_) fun hle=>?_
    ·rcases AL L with rfl|⟨L',y,rfl⟩
     ·simp only[aG]at hgt;omega
     have u:(L'++ [y]).length=L'.length+1:=by simp
     have U:IntKind.wrap .i64 (((A.length+(L'++ [y]).length:Nat):Int)-1)=((A.length+L'.length:Nat):Int):=by rw[u,fx (by omega)];omega
     rw[U];have F:A++((L'++ [y])++(x::(G++(T++B))))=(A++L')++y::(x::(G++(T++B))):=by simp
     have Z:A++((L'++ [y])++(x::(G++(T++B))))=(A++(L'++ [y]))++x::(G++(T++B)):=by simp
     have o3:=m;have E:=m;rw[F]at o3;rw[Z]at E;obtain⟨a,d,c⟩:=fG o3 (i:=A.length+L'.length) (by first|omega|(simp;done)|(simp;omega))
     obtain⟨a',f,hx⟩:=fG E (i:=A.length+(L'++ [y]).length) (by first|omega|(simp;done)|(simp;omega))
     rw[d]at f;cases f;refine⟨⟨by omega,by omega⟩,a,d,x.1,hx 0 _ rfl,x.2.1,hx 1 _ rfl,x.2.2.1,hx 2 _ rfl,x.2.2.2.1,hx 3 _ rfl,x.2.2.2.2,hx 4 _ rfl,⟨by omega,by omega⟩,a,d,y.1,c 0 _ rfl,y.2.1,c 1 _ rfl,y.2.2.1,c 2 _ rfl,y.2.2.2.1,c 3 _ rfl,y.2.2.2.2,c 4 _ rfl,?_⟩
     refine hc.call x y (hc.step C hi) fun h5 e V he=>?_
     rw[he];have ho5:=m.upd V fun _ _ h=>h
     refine Q _ _ ⟨C.tr V.wide,ho5,fun h=>⟨L',y,rfl,h⟩,fun h z p=>?_⟩
     have hs:=k.srt.left;rcases bF.1 p with p|p
     ·exact w.ntr x y z h (hs.cross z p y (aD.2 rfl))
     ·rw[aD.1 p];exact h
    ·have hL:L= []:=ay.1 (by omega)
     exact Q _ _ ⟨C,m,fun h=>(by cases h),fun _ y c=>(by rw[hL]at c;cases c)⟩
   ·rintro t3 h3 ⟨O,q,ht,hf⟩
    cases t3 with
    |true=>
     obtain⟨L',y,rfl,hxy⟩:=ht rfl;have u:(L'++ [y]).length=L'.length+1:=by simp
     refine au.2 ?_;have U:IntKind.wrap .i64 (((A.length+(L'++ [y]).length:Nat):Int)-1)=((A.length+L'.length:Nat):Int):=by rw[u,fx (by omega)];omega
     rw[U];have F:A++((L'++ [y])++(x::(G++(T++B))))=(A++L')++y::(x::(G++(T++B))):=by simp
     have Z:(A++L')++y::(x::(G++(T++B)))=(A++(L'++ [y]))++x::(G++(T++B)):=by simp
     have f3:(A++(L'++ [y]))++y::(G++(T++B))=(A++L')++y::(y::(G++(T++B))):=by simp
     have f4:(A++L')++x::(y::(G++(T++B)))=A++(L'++(x::((y::G)++(T++B)))):=by simp
     rw[F]at q;have E:=q;rw[Z]at E;obtain⟨a,d,c⟩:=fG q (i:=A.length+L'.length) (by first|omega|(simp;done)|(simp;omega))
     obtain⟨a',f,hx⟩:=fG E (i:=A.length+(L'++ [y]).length) (by first|omega|(simp;done)|(simp;omega))
     rw[d]at f;cases f;refine⟨⟨by omega,by omega⟩,a,d,y.1,c 0 _ rfl,y.2.1,c 1 _ rfl,y.2.2.1,c 2 _ rfl,y.2.2.2.1,c 3 _ rfl,y.2.2.2.2,c 4 _ rfl,⟨by omega,by omega⟩,a,d,x.1,hx 0 _ rfl,x.2.1,hx 1 _ rfl,x.2.2.1,hx 2 _ rfl,x.2.2.2.1,hx 3 _ rfl,x.2.2.2.2,hx 4 _ rfl,⟨by omega,by omega⟩,a,d,?_⟩
     refine lZ E y d (by first|omega|(simp;done)|(simp;omega)) fun h5 o5 V=>⟨⟨by omega,by omega⟩,a,d,?_⟩
     rw[f3]at o5;refine lZ o5 x d (by first|omega|(simp;done)|(simp;omega)) fun h6 o6 k6=>?_
     rw[f4]at o6;refine hI2 (L',y::G) _ _ ⟨rfl,by simp,fun z p=>?_,o6,(O.trans V fun b J=>.inl J).trans k6 fun b J=>.inl J⟩ (by simp only[u];omega)
     rcases aA.1 p with rfl|p
     ·exact hxy
     ·exact Y z p
    |false=>
     refine aj.2 ?_;have U:IntKind.wrap .i64 (((A.length+S1.length:Nat):Int)+1)=((A.length+max 1 (S1.length+1):Nat):Int):=by rw[fx (by omega)];omega
     rw[U];refine hI (S1++ [x],L++x::G,T) _ _ ⟨by simp,by simp,fun e=>(by simp at e),MQ w k (hf rfl) Y,?_,O⟩ (by simp)
     have F:A++((L++x::G)++(T++B))=A++(L++(x::(G++(T++B)))):=by simp
     rw[F];exact q
 ·simp only[ac]at hge
  have hT:T= []:=by
   rcases Nat.eq_zero_or_pos S1.length with h0|h0
   ·exact n (ay.1 h0)
   ·exact ay.1 (by omega)
  subst hT;rw[cB]at o;rw[aL]at hk;exact hk h' R1 o k hu
end Go.Proofs
namespace Go.Proofs
open Go Go.Lift
abbrev YP:ByteArray:=⟨#[0,1,2,2,3,3,3,3,4,4,4,4,4,4,4,4,5,5,5,5,5,5,5,5,5,5,5,5,5,5,5,5,6,6,6,6,6,6,6,6,6,6,6,6,6,6,6,6,6,6,6,6,6,6,6,6,6,6,6,6,6,6,6,6,7,7,7,7,7,7,7,7,7,7,7,7,7,7,7,7,7,7,7,7,7,7,7,7,7,7,7,7,7,7,7,7,7,7,7,7,7,7,7,7,7,7,7,7,7,7,7,7,7,7,7,7,7,7,7,7,7,7,7,7,7,7,7,7,8,8,8,8,8,8,8,8,8,8,8,8,8,8,8,8,8,8,8,8,8,8,8,8,8,8,8,8,8,8,8,8,8,8,8,8,8,8,8,8,8,8,8,8,8,8,8,8,8,8,8,8,8,8,8,8,8,8,8,8,8,8,8,8,8,8,8,8,8,8,8,8,8,8,8,8,8,8,8,8,8,8,8,8,8,8,8,8,8,8,8,8,8,8,8,8,8,8,8,8,8,8,8,8,8,8,8,8,8,8,8,8,8,8,8,8,8,8,8,8,8,8,8,8,8,8,8,8]⟩
theorem YO:∀x:Nat,x<256→∃c:UInt8,YP[x]? =some c∧c.toNat≤8∧(1≤x→2^c.toNat≤2*x)∧(x=0→c.toNat=0):=by
 have key:∀x:Fin 256,∃c:UInt8,YP[x.val]? =some c∧c.toNat≤8∧(1≤x.val→2^c.toNat≤2*x.val)∧(x.val=0→c.toNat=0):=by
  intro x;have:∀x:Fin 256,(match YP[x.val]? with|some c=>decide (c.toNat≤8∧(1≤x.val→2^c.toNat≤2*x.val)∧(x.val=0→c.toNat=0))|none=>false)=true:=by decide+kernel
  have hx:=this x;split at hx
  ·rename_i c hc
   exact⟨c,hc,of_decide_eq_true hx⟩
  ·cases hx
 exact fun x hx=>key ⟨x,hx⟩
theorem WX{h:ae}{n:Nat}(v:n<4294967296){K:Int→ae→Prop}(q:∀L:Nat,L≤64→(1≤n→2^L≤2*n)→K (L:Int) h):HC PG rt [.int .u64 n] [.c (.int .i64)] K h:=by
 refine D9 n ?_;unfold wN;have fd:∀(x k:Nat),Int.fdiv (x:Int) (2^k)=((x/2^k:Nat):Int):=fun x k=>by
  rw[Int.fdiv_eq_ediv_of_nonneg _ (Int.pow_nonneg (by omega))];rw[Int.natCast_ediv,Int.natCast_pow];rfl
 refine Join.intro (fun t h'=>h'=h∧t=((n:Int),(0:Int))) (fun R b=>?_) ?_
 ·exact az (fun a=>by omega) fun a=>b _ _ ⟨rfl,rfl⟩
 ·rintro t h' ⟨rfl,rfl⟩
  refine Join.intro (fun t h2=>h2=h'∧∃x s:Nat,t=((x:Int),(s:Int))∧x*2^s≤n∧(1≤n→1≤x)∧x<65536∧s≤16) (fun R b=>?_) ?_
  ·refine az (fun a=>?_) fun a=>b _ _ ⟨rfl,n,0,rfl,by simp,fun h=>h,by have a:¬(n:Int)≥65536:=a;omega,by omega⟩
   have a:65536≤n:=by have a:(n:Int)≥65536:=a;omega
   refine⟨by omega,b _ _ ⟨rfl,n/2^16,16,?_,Nat.div_mul_le_self ..,fun _=>by omega,by omega,by omega⟩⟩
   simp only[qd.injEq];exact⟨fd n 16,by decide⟩
  ·rintro t h2 ⟨rfl,x,s,rfl,hx,d,e,i⟩
   refine Join.intro (fun t g=>g=h2∧∃x s:Nat,t=((x:Int),(s:Int))∧x*2^s≤n∧(1≤n→1≤x)∧x<256∧s≤24) (fun R b=>?_) ?_
   ·refine az (fun a=>?_) fun a=>b _ _ ⟨rfl,x,s,rfl,hx,d,by have a:¬(x:Int)≥256:=a;omega,by omega⟩
    have a:256≤x:=by have a:(x:Int)≥256:=a;omega
    refine⟨by omega,b _ _ ⟨rfl,x/2^8,s+8,?_,?_,fun _=>by omega,by omega,by omega⟩⟩
    ·simp only[qd.injEq]
     exact⟨fd x 8,by rw[fx (by omega)];omega⟩
    ·rw[qK,j1 (2^s),←tA]
     exact bj (Nat.mul_le_mul_right _ (Nat.div_mul_le_self ..)) hx
   ·rintro t g ⟨rfl,x,s,rfl,hx,d,e,i⟩
    obtain⟨c,hc,o,f,j⟩:=YO x e;have u:IntKind.wrap .u8 (x:Int)=(x:Int):=by
     simp[IntKind.wrap,IntKind.bits,IntKind.signed];omega
    show∃b10:UInt8,(0:Int)≤IntKind.wrap .u8 (x:Int)∧YP[(IntKind.wrap .u8 (x:Int)).toNat]? =some b10∧_
    rw[u];refine⟨c,by omega,by simpa using hc,?_⟩
    have p:IntKind.wrap .i64 (c.toNat:Int)=(c.toNat:Int):=fx (by omega);have m:IntKind.wrap .i64 ((s:Int)+IntKind.wrap .i64 (c.toNat:Int))=((s+c.toNat:Nat):Int):=by rw[p,fx (by omega)];omega
    show K (IntKind.wrap .i64 ((s:Int)+IntKind.wrap .i64 (c.toNat:Int))) g
    rw[m];refine q _ (by omega) fun a=>?_
    have:=f (d a);rw[qK];calc 2^s*2^c.toNat≤2^s*(2*x):=ix _ this
     _=2*(x*2^s):=by rw[j1 (2^s),tA]
     _≤2*n:=ix _ hx
theorem aac{h:ae}{n:Nat}(a:n<4294967296){K:Int→ae→Prop}(b:∀L:Nat,L≤64→(1≤n→2^L≤2*n)→K (L:Int) h):HC PG uk [.int .u64 n] [.c (.int .i64)] K h:=by
 refine GY n ?_;unfold ze;exact WX a b
def aaB(a b:Ch):Bool:=decide (kl a.1 b.1)
theorem woG:WO aaB:=by
 refine⟨fun a=>decide_eq_false (cr _),fun a b h=>decide_eq_false (Iw (of_decide_eq_true h)),fun a b c d h2=>decide_eq_false fun h=>?_⟩
 have d:¬kl a.1 b.1:=of_decide_eq_false d;have h2:¬kl b.1 c.1:=of_decide_eq_false h2;by_cases e:a.1=b.1
 ·rw[e]at h;exact h2 h
 ·exact h2 (gJ (ql d e) h)
theorem ZC(M:Nat→Prop):Cmp aaB pk M (fun _=>True) (.func (.func qH) #[] #[]):=by
 refine⟨fun a b h K _ d=>HV.mk' (Qi a b ?_),fun _ h=>h⟩
 unfold GK ax hP WN;refine aW fun e b1 k1=>aW fun h2 b2 c=>?_
 refine⟨a.1,vc (c.get0 b1) 0,b.1,vc b2 0,IW (d h2 _ (k1.tr c) ?_)⟩;unfold Kz aaB;split
 ·rename_i h;rw[decide_eq_true h];rfl
 ·rename_i h
  rw[decide_eq_false h];split<;>rfl
theorem Eqf.perm{α:Type}[DecidableEq α]{lt:α→α→Bool}(w:WO lt){l l':List α}(h:Eqf lt l l'):l'.Perm l:=by
 rw[List.perm_iff_count];intro a;have e:∀m:List α,m.count a=(m.filter (Mj lt a)).count a:=fun m=>(List.count_filter (IX w a)).symm
 rw[e l',e l,h.flt a]
theorem Wm{R X:List Ch}(m:R.Perm X)(n:Srt aaB R)(g:sO X):R=X:=by
 have p:X.Pairwise fun a b=>aaB b a=false:=g.imp fun h=>decide_eq_false (Iw h)
 refine m.eq_of_pairwise (fun a b d o f h2=>?_) n p
 have f:¬kl b.1 a.1:=of_decide_eq_false f;have h2:¬kl a.1 b.1:=of_decide_eq_false h2;have d:=m.mem_iff.1 d;have e:a.1=b.1:=Decidable.byContradiction fun c=>f (ql h2 c)
 refine Decidable.byContradiction fun c=>?_
 obtain⟨i,hi,rfl⟩:=bC d;obtain⟨j,k,rfl⟩:=bC o;rcases Nat.lt_trichotomy i j with h|h|h
 ·have:=ce.1 g i j hi k h
  rw[e]at this;exact cr _ this
 ·subst h;exact c rfl
 ·have:=ce.1 g j i k hi h
  rw[e]at this;exact cr _ this
theorem Wn{M:Nat→Prop}{h:ae}{s:SliceV}{L X:List Ch}(g:OwnS pk 5 bE M h s L)(o:L.Perm X)(n:sO X)(p:L.length≤12){K:Unit→ae→Prop}(k:∀h',OwnS pk 5 bE M h' s X→Upd M h h'→K () h'):
  HC PG dJ [.slice s.a s.len s.cap,.func (.func qH) #[] #[]] [] K h:=by
 refine mf s _ ?_;unfold hH;have i:=g.len;rw[Go.IntWalk.u64_in _ (by omega)];refine aac (by omega) fun d _ _=>?_
 refine pU s 0 s.len d _ ?_;unfold kg bI cl aK ld cD Hb;refine LoopP.ghost (fun(_:Unit) (t:Int×Int×Int×Bool×Bool) h'=>t=(0,(s.len:Int),(d:Int),true,true)∧h'=h) (fun _=>0) () ⟨rfl,rfl⟩ ?_
 rintro I ⟨⟩ t h' ⟨rfl,rfl⟩ _;have e:IntKind.wrap .i64 ((s.len:Int)-0)=(s.len:Int):=by rw[fx (by omega)];omega
 simp only;rw[e];rw[decide_eq_true (show(s.len:Int)≤12 by omega)]
 refine au.2 ?_;have c:OwnS pk 5 bE M h' s ([]++(L++ [])):=by simpa using g
 refine Pq (A:= []) (B:= []) (a:=0) (b:=s.len) woG (ZC M) c trivial (by omega) rfl (by simp;omega) fun h2 R j f m=>?_
 rw[cB,aL]at j;have:=Wm ((f.eqf.perm woG).trans o) f.srt n;subst this;exact k h2 j m
theorem QK{t:Tr}{h:ae}{K:Int×Int×Int→ae→Prop}(f:∀h',Upd No h h'→K (t.2.1,t.2.2.1,t.2.2.2.1) h'):HC PG qo [HJ t] [.agg [.int .u64,.int .u64,.int .u64]] K h:=by
 refine Cv t ?_;unfold vz ag eJ r7 dK abn abo;refine aW fun g b1 k1=>aW fun h2 b2 d=>?_
 have b:=d.get0 b1;refine⟨_,BS b 1 0,_,BS b 1 1,_,BS b 1 2,?_⟩;refine cU (c:= [.int .u64 0,.int .u64 0,.int .u64 0]) (vs:= [.int .u64 t.2.1,.int .u64 t.2.2.1,.int .u64 t.2.2.2.1]) b2 rfl fun e b3 a=>?_
 exact⟨_,vc b3 0,_,vc b3 1,_,vc b3 2,f e ((k1.tr d).own a k1.size)⟩
theorem Lp{t:Tr}{h:ae}{K:Option Addr→ae→Prop}(a:∀h',Upd No h h'→K t.2.2.2.2.2 h'):HC PG nG [HJ t] [.c .ptr] K h:=by
 refine DU t ?_;unfold wA aQ r7;exact aW fun b b1 k1=>⟨_,vc b1 5,a b k1⟩
theorem WC{W:Nat→Prop}{h:ae}{b:Nat}{l:List Pr}(t:RadAt W h b l)(f:cf l)(j:Fit l):∃n:Bn,n.1= []∧RxN W h b ⟨#[]⟩ n.2.1 n.2.2∧NodeK n []∧pp [] n=l:=by
 obtain⟨w,F,i,d,c⟩:=t.ex;have a:=M0 d f c;refine⟨([],w,F),rfl,i,⟨d,by simp,fun p a=>?_⟩,?_⟩
 ·obtain⟨q,g,e,_⟩:=(c p.1 p.2).1 a
  have:=(j q g).1;rw[←e];have k:q.1.data.toList.length=q.1.size:=pG;simp only[aG];omega
 ·unfold pp
  show(wZ w F).map (Du ([]++ []))=l
  rw[a];unfold Td;rw[rQ];conv=>rhs;rw[←List.map_id l]
  exact pF fun p _=>by unfold Du;simp[Rp]
theorem RY{W W':Nat→Prop}{x x':Hs}{h:ae}{T J:Int}{t u:Tr}{l l':List Pr}(i:TreeIs W h T x t l)(i':TreeIs W' h J x' u l')(hr:cf l)(hf:Fit l)(hn:l.length≤60000)(Y:cf l')(hf':Fit l')(hn':l'.length≤60000)(P:tK t u=true→∀{M:Nat→Prop} {h':ae} {s:SliceV} {L:List Ch} {K':Unit→ae→Prop},OwnS pk 5 bE M h' s L→(∀b,M b→b<h'.size)→L.Perm (me l l')→(∀h2,OwnS pk 5 bE M h2 s (me l l')→Upd M h' h2→K' () h2)→HC PG dJ [.slice s.a s.len s.cap,.func (.func qH) #[] #[]] [] K' h'){K:SliceV×Int→ae→Prop}
  (h0:tK t u=false→∀h',Upd No h h'→K (⟨none,0,0⟩,11) h')(hk:tK t u=true→∀h' s',OwnS pk 5 bE (fun y=>h.size≤y) h' s' (me l l')→Upd No h h'→K (s',0) h'):HC PG AK [HJ t,HJ u] [.c .slice,.c (.int .i64)] K h:=by
 refine VF t u ?_;unfold MB bw ag aQ r7 yc bU Ox Ui;refine aW fun h1 b1 k1=>aW fun h2 b2 k2=>?_
 have G:=k2.get0 b1;refine⟨_,vc G 0,_,vc G 1,_,vc G 2,_,vc G 3,_,vc G 4,_,vc G 5,_,vc b2 0,_,vc b2 1,_,vc b2 2,_,vc b2 3,_,vc b2 4,_,vc b2 5,?_⟩;refine Wj fun h3 k3=>?_
 have I:=(k1.tr k2).tr k3;have B:=k3.get0 G;have b3:=k3.get0 b2;rcases hl:tK t u with _|_
 ·exact au.2 (h0 hl h3 I)
 refine aj.2 ⟨_,vc B 0,_,vc B 1,_,vc B 2,_,vc B 3,_,vc B 4,_,vc B 5,?_⟩;refine QK fun o k4=>?_
 refine aW fun Q b5 k5=>?_
 have C:=(I.tr k4).tr k5;have H:=k5.get0 (k4.get0 B);have d5:=k5.get0 (k4.get0 b3);have z5:=bD b5;have s4:=(I.tr k4).size;have s5:=k5.size;obtain⟨rfl,hx⟩:=UY i i' hl;let z:Hs:=⟨t.2.1,t.2.2.1,t.2.2.2.1⟩
 have st:SetAt No Q o.size z []:=⟨⟨⟨none,0,0⟩,b5,OwnS.nil Cs⟩,fun _ h=>h.elim,id⟩
 have X:∀S,Upd No Q S→∀h' j ys,SetAt j h' o.size z ([]++ys)→(∀b,j b→No b∨S.size≤b)→Upd (fun b=>No b∨b=o.size) S h'→ys.Perm (me l l')→∃j ys,SetAt j h' o.size z ys∧(∀y,j y→Q.size≤y)∧Upd (fun y=>y=o.size) Q h'∧ys.Perm (me l l'):=
  fun S p h' j ys st' hC' hu' v=>⟨j,ys,st',fun y m=>(hC' y m).elim (fun h=>h.elim) fun h=>bj p.size h,p.wide.trans hu' fun b hb=>hb.elim (fun h=>h.elim) fun h=>.inl h,v⟩
 refine Join.intro (fun _ h'=>∃j ys,SetAt j h' o.size z ys∧(∀y,j y→Q.size≤y)∧Upd (fun y=>y=o.size) Q h'∧ys.Perm (me l l')) (fun R hR=>?_) ?_
 ·refine⟨_,vc H 0,_,vc H 1,_,vc H 2,_,vc H 3,_,vc H 4,_,vc H 5,?_⟩
  refine Wl fun S p=>?_
  have g:=p.get0 H;have c:=p.get0 d5;have i6:=(i.less (W':=fun y=>h.size≤y) fun _ h=>.inr h).upd0 (C.tr p)
  have U:=(i'.less (W':=fun y=>h.size≤y) fun _ h=>.inr h).upd0 (C.tr p)
  have V:∀y,No y∨y=o.size→h.size≤y:=fun y m=>m.elim (fun h=>h.elim) fun e=>by omega
  rcases i6 with⟨rfl,b,rfl,tt⟩|⟨rfl,b,rfl,tt⟩
  ·rcases U with⟨_,b',rfl,q⟩|⟨e,_⟩
   ·obtain rfl:=hx rfl
    refine aj.2 ⟨_,vc g 0,_,vc g 1,_,vc g 2,_,vc g 3,_,vc g 4,_,vc g 5,_,vc c 0,_,vc c 1,_,vc c 2,_,vc c 3,_,vc c 4,_,vc c 5,?_⟩;refine Av tt fun h7 k=>?_
    have d:=k.get0 c;refine⟨⟨vc d 0,vc d 1,vc d 2,vc d 3,vc d 4,vc d 5⟩,?_⟩;refine Av (TrieAt.upd0 k q) fun h8 E=>?_
    have a:=(p.tr k).tr E;refine Wa 13 (al _) (TrieAt.upd0 (k.tr E) tt) (TrieAt.upd0 (k.tr E) q) (st.upd0 a) V (fun y m=>by have:=a.size;omega) hr Y (by omega) (by omega) (by simp) fun ys v h9 C9 f O D=>?_
    exact hR _ _ (X h8 a h9 C9 ys f O D v)
   ·cases e
  ·rcases U with⟨e,_⟩|⟨_,b',rfl,q⟩
   ·cases e
   ·refine au.2 ⟨_,vc g 0,_,vc g 1,_,vc g 2,_,vc g 3,_,vc g 4,_,vc g 5,_,vc c 0,_,vc c 1,_,vc c 2,_,vc c 3,_,vc c 4,_,vc c 5,?_⟩
    refine Lp fun h7 k=>?_
    have d:=k.get0 c;refine⟨⟨vc d 0,vc d 1,vc d 2,vc d 3,vc d 4,vc d 5⟩,?_⟩;refine Lp fun h8 E=>?_
    have a:=(p.tr k).tr E;obtain⟨n,e1,r1,nk,v⟩:=WC (tt.upd0 (k.tr E)) hr hf;obtain⟨n',e1',r1',nk',N⟩:=WC (q.upd0 (k.tr E)) Y hf';obtain⟨lab,w,F⟩:=n;simp only at e1;subst e1;refine Lm (BU nk.can) (sl:=⟨#[]⟩) (ahead:=⟨#[]⟩) r1 rfl r1' (by rw[e1']) nk nk' (st.upd0 a) V (fun y m=>by have:=a.size;omega) (by show(pp [] _).length≤_;rw[v];omega) (by show(pp [] _).length≤_;rw[N];omega) (by show 0+(pp [] _).length+(pp [] _).length≤_;rw[v,N];omega) fun h9 C9 f O D=>?_
    have f:SetAt C9 h9 o.size z ([]++me (pp [] ([],w,F)) (pp [] n')):=f;rw[v,N]at f;exact hR _ _ (X h8 a h9 C9 _ f O D (.refl _))
 ·rintro _ S ⟨C6,ys,A,Z,hu6,v⟩
  obtain⟨s,e6,ho6⟩:=A.ex;refine⟨_,rfl,s,vc e6 3,?_⟩;refine P hl ho6 A.lt v fun h7 ho7 hu7=>?_
  have e7:=hu7.get e6 A.ne;refine⟨_,rfl,s,vc e7 3,hk hl h7 s (ho7.more fun y m=>by have:=Z y m;omega) ?_⟩
  exact(C.trans hu6 fun y m=>.inr (by omega)).trans hu7 fun y m=>.inr (by have:=Z y m;omega)
theorem Vf{W W':Nat→Prop}{x o:Hs}{h:ae}{c a:Int}{t u:Tr}{l l':List Pr}(i:TreeIs W h c x t l)(q:TreeIs W' h a o u l')(j:cf l)(p:Fit l)(s:l.length≤60000)(b:cf l')(e:Fit l')(d:l'.length≤60000)(g:tK t u=true→(me l l').length≤12){K:SliceV×Int→ae→Prop}
  (n:tK t u=false→∀h',Upd No h h'→K (⟨none,0,0⟩,11) h')(f:tK t u=true→∀h' s',OwnS pk 5 bE (fun y=>h.size≤y) h' s' (me l l')→Upd No h h'→K (s',0) h'):HC PG AK [HJ t,HJ u] [.c .slice,.c (.int .i64)] K h:=
 RY i q j p s b e d (fun v {_ _ _ _ _} m _ k f=>Wn m k (Q1 j b) (by rw[k.length_eq];exact g v) f) n f
end Go.Proofs
namespace Go.Proofs
open Go Go.Lift
theorem Kb{h:ae}{b:Nat}{c:Array Value}{t:TypeId}(a:h[b]? =some (.cells c t (0,0))):aP h ⟨b,0,none⟩=c[0]?:=bH a
theorem Vl{z:Hs}{W:Nat→Prop}{h:ae}{s:SliceV}{xs:List Pr}(d:Sl (sG z) 3 W h s xs)(n:xs.length*40≤140737488355328){K:SliceV→ae→Prop}
  (g:∀s' h',OwnS (sG z) 3 aY (fun b=>h.size≤b) h' s' xs→Upd No h h'→K s' h'):HC PG fz [.slice s.a s.len s.cap] [.c .slice] K h:=by
 refine mK s ?_;unfold ik QB;refine CondP.intro (fun c=>?_) (fun m=>?_)
 ·have c:s.a=none:=by simpa using c
  have hx:xs= []:=by
   by_cases hx:xs= []
   ·exact hx
   ·obtain⟨a,e,_⟩:=d.row hx
    rw[c]at e;cases e
  subst hx;exact g _ _ (OwnS.nil (Nm z)) (Upd.refl _ _)
 ·have h2:=d.upd (Upd.hnew No h [] aY) (fun _ h=>h.elim)
  refine⟨_,h2.srow,?_⟩;refine AppP.own (f:=sG z) (M:=fun b=>h.size≤b) (xs:= []) (ys:=xs) ⟨rfl,Nm z,al _,.inl rfl⟩ d.len rfl (TB z xs) rfl (by omega) (by simpa using n) (by rw[iY];omega) fun s' h' j k=>?_
  exact g _ _ j ((Upd.hnew No h [] aY).trans k fun b i=>.inr i)
theorem U4{z:Hs}{W:Nat→Prop}{h:ae}{s:SliceV}{xs:List Pr}(n:Sl (sG z) 3 W h s xs)(w:xs.length≤1000000000){g:Pr→Bool}{V:Value}(C:∀p∈xs,∀{h':ae} {K:Bool→ae→Prop},Upd No h h'→(∀h'',Upd No h' h''→K (g p) h'')→HV PG V [.agg (sG z p).toArray] [.c .bool] K h'){K:Int→ae→Prop}
  (u:∀h' A B e,xs=A++B→(∀a∈A,g a=false)→(B= []→e= -1)→(∀b m,B=b::m→e=(A.length:Int)∧g b=true)→Upd No h h'→K e h'):HC PG dw [.slice s.a s.len s.cap,V] [.c (.int .i64)] K h:=by
 refine lH s V ?_;unfold gN cl aK dK wV;have d:=n.len;refine LoopP.ghost (fun(k:List Pr×List Pr) (t:Int) h'=>t=(k.1.length:Int)∧xs=k.1++k.2∧(∀a∈k.1,g a=false)∧Upd No h h') (fun g=>g.2.length) ([],xs) ⟨rfl,rfl,fun a c=>(by cases c),Upd.refl _ _⟩ ?_
 rintro I ⟨A,B⟩ t h' ⟨q,o,j,f⟩ F;simp only at q o j;subst q o;simp only[ac]at d w;refine az (fun E=>?_) fun G=>?_
 ·rcases B with _|⟨p,B⟩
  ·simp only[aG]at d;omega
  ·obtain⟨a,c,_,hv⟩:=(n.upd f fun _ h=>h.elim).at (i:=A.length) (x:=p) (by rw[aN (al _),dP];rfl)
   refine⟨⟨by omega,by omega⟩,a,c,p.1,hv 0 _ rfl,p.2,hv 1 _ rfl,eP z p.1,hv 2 _ rfl,?_⟩
   refine C p (by simp) f fun h2 v=>?_
   cases hgp:g p with
   |true=>exact au.2 (u h2 A (p::B) _ rfl j (fun h=>by cases h) (fun b m e=>by cases e;exact⟨rfl,hgp⟩) (f.tr v))
   |false=>
    refine aj.2 ?_;have D:IntKind.wrap .i64 ((A.length:Int)+1)=((A++ [p]).length:Int):=by simp only[ao]at w;rw[ac,aE,fx (by omega)];omega
    rw[D];refine F (A++ [p],B) _ _ ⟨rfl,by simp,fun a c=>?_,f.tr v⟩ (by simp)
    rcases bF.1 c with c|c
    ·exact j a c
    ·rw[aD.1 c];exact hgp
 ·have y:B= []:=ay.1 (by omega)
  subst y;exact u h' A [] _ rfl j (fun _=>rfl) (fun b m e=>by cases e) f
theorem U3{W:Nat→Prop}{h:ae}{s:SliceV}{xs:List Pr}(n:Sl eC 2 W h s xs)(w:xs.length≤1000000000){g:Pr→Bool}{V:Value}(z:∀p∈xs,∀{h':ae} {K:Bool→ae→Prop},Upd No h h'→(∀h'',Upd No h' h''→K (g p) h'')→HV PG V [.agg (eC p).toArray] [.c .bool] K h'){K:Int→ae→Prop}
  (u:∀h' A B e,xs=A++B→(∀a∈A,g a=false)→(B= []→e= -1)→(∀b m,B=b::m→e=(A.length:Int)∧g b=true)→Upd No h h'→K e h'):HC PG fJ [.slice s.a s.len s.cap,V] [.c (.int .i64)] K h:=by
 refine nq s V ?_;unfold iR cl aK qO;have d:=n.len;refine LoopP.ghost (fun(k:List Pr×List Pr) (t:Int) h'=>t=(k.1.length:Int)∧xs=k.1++k.2∧(∀a∈k.1,g a=false)∧Upd No h h') (fun g=>g.2.length) ([],xs) ⟨rfl,rfl,fun a c=>(by cases c),Upd.refl _ _⟩ ?_
 rintro I ⟨A,B⟩ t h' ⟨q,o,j,f⟩ E;simp only at q o j;subst q o;simp only[ac]at d w;refine az (fun D=>?_) fun F=>?_
 ·rcases B with _|⟨p,B⟩
  ·simp only[aG]at d;omega
  ·obtain⟨a,c,_,hv⟩:=(n.upd f fun _ h=>h.elim).at (i:=A.length) (x:=p) (by rw[aN (al _),dP];rfl)
   refine⟨⟨by omega,by omega⟩,a,c,p.1,hv 0 _ rfl,p.2,hv 1 _ rfl,?_⟩
   refine z p (by simp) f fun h2 v=>?_
   cases hgp:g p with
   |true=>exact au.2 (u h2 A (p::B) _ rfl j (fun h=>by cases h) (fun b m e=>by cases e;exact⟨rfl,hgp⟩) (f.tr v))
   |false=>
    refine aj.2 ?_;have C:IntKind.wrap .i64 ((A.length:Int)+1)=((A++ [p]).length:Int):=by simp only[ao]at w;rw[ac,aE,fx (by omega)];omega
    rw[C];refine E (A++ [p],B) _ _ ⟨rfl,by simp,fun a c=>?_,f.tr v⟩ (by simp)
    rcases bF.1 c with c|c
    ·exact j a c
    ·rw[aD.1 c];exact hgp
 ·have y:B= []:=ay.1 (by omega)
  subst y;exact u h' A [] _ rfl j (fun _=>rfl) (fun b m e=>by cases e) f
abbrev atV(a:Nat):Value:=.func (.func vo) #[] #[.pointer (some ⟨a,0,none⟩)]
theorem Jg{z:Hs}{lev:Nat}(e:lev<13){h:ae}{a:Nat}{t:TypeId}(b:h[a]? =some (.cells #[.int .i64 (lev:Int)] t (0,0))) (p:Pr) {K:Int→ae→Prop} (d:∀h',Upd No h h'→K (ck z lev p.1:Int) h'):
  HV PG (atV a) [.agg (sG z p).toArray] [.c (.int .i64)] K h:=by
 refine HV.mk' (Jr (p.1,p.2,eP z p.1) ⟨a,0,none⟩ ?_);unfold Ao ag ng Rh;refine aW fun c b1 k1=>?_
 exact⟨_,vc b1 2,_,Kb (k1.get0 b),Sb e (d c k1)⟩
theorem Pp{a:Int}{h:ae}{K:Bool→ae→Prop}(b:K false h):HC PG qb [.int .i64 a] [.c .bool] K h:=by
 refine G3 a ?_;unfold zh;rw[bne_self_eq_false];exact b
theorem Vi{a b:Int}{h:ae}{K:Int→ae→Prop}(d:∀e,decide (e<0)=decide (a<b)→K e h):HC PG ry [.int .i64 a,.int .i64 b] [.c (.int .i64)] K h:=by
 refine Ed a b ?_;unfold wQ;refine Pp (Pp (aj.2 (aj.2 ?_)));refine az (fun c=>d _ ?_) fun c=>az (fun h2=>d _ ?_) fun h2=>d _ ?_
 ·rw[decide_eq_true c];rfl
 ·rw[decide_eq_false c];rfl
 ·rw[decide_eq_false c];rfl
def aab(z:Hs)(lev:Nat)(a b:Pr):Bool:=decide (ck z lev a.1<ck z lev b.1)
theorem aaa(z:Hs)(lev:Nat):WO (aab z lev):=by
 refine⟨fun a=>decide_eq_false (by omega),fun a b h=>decide_eq_false ?_,fun a b c h k=>decide_eq_false ?_⟩
 ·have:=of_decide_eq_true h;omega
 ·have:=of_decide_eq_false h;have:=of_decide_eq_false k;omega
theorem Y6(z:Hs)(lev:Nat)(x a:Pr):Mj (aab z lev) x a=decide (ck z lev a.1=ck z lev x.1):=by
 unfold Mj aab;by_cases e:ck z lev a.1=ck z lev x.1
 ·rw[decide_eq_true e,e];simp
 ·rw[decide_eq_false e]
  rcases Nat.lt_or_gt_of_ne e with h|h
  ·rw[decide_eq_true h];rfl
  ·rw[decide_eq_true (p:=ck z lev x.1<ck z lev a.1) h];simp
def Two(a b:Nat)(lev:Nat)(h:ae):Prop:=h[a]? =some (.cells #[.int .i64 (lev:Int)] tE (0,0))∧h[b]? =some (.cells #[atV a] qD (0,0))
theorem Two.upd{b a lev:Nat}{h h':ae}(t:Two b a lev h)(k:Upd No h h'):Two b a lev h':=⟨k.get0 t.1,k.get0 t.2⟩
theorem ab1{z:Hs}{lev:Nat}(p:lev<13){o d:Nat}{M:Nat→Prop}(j:¬M o)(h2:¬M d):Cmp (aab z lev) (sG z) M (Two o d lev) (.func (.func vn) #[] #[.pointer (some ⟨d,0,none⟩)]):=by
 refine⟨fun a b h K t u=>HV.mk' (Jq (a.1,a.2,eP z a.1) (b.1,b.2,eP z b.1) ⟨d,0,none⟩ ?_),fun k t=>⟨k.get t.1 j,k.get t.2 h2⟩⟩
 unfold An ag ld ax wV Rh ZJ;refine aW fun j b1 k1=>aW fun h2 b2 n=>?_
 have c:=k1.tr n;have f:=t.upd c;have g:=n.get0 b1;refine⟨_,Kb f.2,_,vc g 0,_,vc g 1,_,vc g 2,_,Kb f.2,_,vc b2 0,_,vc b2 1,_,vc b2 2,?_⟩;refine Jg (z:=z) p f.1 a fun w i=>?_
 have m:=f.upd i;have b3:=i.get0 b2;refine⟨⟨vc b3 0,vc b3 1,vc b3 2⟩,Kb m.2,?_⟩;refine Jg (z:=z) p m.1 b fun v q=>?_
 refine Vi fun e s=>u v e ((c.tr i).tr q) ?_
 rw[s];unfold aab;exact decide_eq_decide.2 (by omega)
end Go.Proofs
