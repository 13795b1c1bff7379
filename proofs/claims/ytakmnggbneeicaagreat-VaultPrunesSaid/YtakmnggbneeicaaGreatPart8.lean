/- A part of the proof that the named laws of this program answer true, whatever the input. -/
import Derived.Test.YtakmnggbneeicaaGreatPart7
import Derived.Test.YtakmnggbneeicaaGreatPart5
import Derived.Test.YtakmnggbneeicaaGreatPart6
open Array renaming length_toList→dL
open Bool renaming and_eq_true→bj
open Go.IntKind renaming wrap→ac
open Go.Op renaming bytesLess→bI
open Iff renaming rfl→rv
open List renaming append_nil→be,append_assoc→aE,length_append→ae,flatMap_cons→aU,map_append→cD,map_map→hE,mem_map→aP,take_append_drop→bJ,flatMap_append→co,flatMap_nil→pC,mem_cons→aq,length_cons→au,map_nil→fk,length_nil→bA,not_mem_nil→dy,getElem_cons_zero→dH,mem_cons_self→ar,pairwise_cons→ay,sublist_cons_self→jR,mem_cons_of_mem→ax,cons_append→dz,pairwise_append→ct,mem_append_left→bQ,mem_append_right→bW,mem_append→aF,mem_singleton→al,find?_cons→kj,nodup_nil→oL
open List.Lex renaming nil→vV
open List.Pairwise renaming nil→cf
open Nat renaming lt_of_lt_of_le→az,le_refl→ai,le_trans→aW,zero_le→aN,succ_pos→ml
namespace Go.Proofs
open Go Go.Lift
theorem Ny{h:ad}{b:Nat}{c:Array Value}{t:TypeId}(hb:h[b]? =some (.cells c t (0,0))) (hc:0<c.size):eE h ⟨b,0,none⟩:=⟨c,t,hb,hc⟩
theorem TrieAt.plain{W:Nat→Prop}{x:Hs}{h:ad}:∀{m b:Nat} {l:List Pr},TrieAt W x h m b l→eE h ⟨b,0,none⟩
 |0,_,_,t=>by obtain⟨_,_,_,hb,_⟩:=BuckAt.ex t;exact Ny hb (by simp[dY])
 |m+1,_,_,⟨s,nd,_⟩=>by obtain⟨_,_,_,_,_,hb,_⟩:=nd.ex;exact Ny hb (by simp[dY])
theorem O4{W Wx:Nat→Prop}{x:Hs}{h:ad}{m b:Nat}{s:Slots}{c:Nat}{l:List Pr}(nd:NodeAt W h b s)(hc:c<32)(sl:SlotIs W x h m s c l)(hm:m≤13)(C:bM l)(D:l.length≤100000)(g:∀y,Wx y→y<h.size){K:SliceV→ad→Prop}
  (v:∀s' h',Sl dQ 2 Wx h' s' l→s'.len≤s'.cap→Upd No h h'→K s' h'):eP 257 [gS b,.int .i64 c] K h:=by
 refine Mv _ c ?_;dsimp only[Dx,nv,yg,kJ,mY,jK,mF,bi];refine Aq nd hc fun H k1=>?_
 refine yx fun o b2 E=>?_
 have a:=k1.tr E;have f:s.p c=none→Below W x h m ((s.k c).getD none) l:=fun d=>by
  rcases sl with⟨rfl,_,e⟩|⟨p,_,e,_⟩|⟨_,_,F,e,t⟩
  ·rw[e];exact .inl ⟨rfl,rfl⟩
  ·rw[d]at e;cases e
  ·rw[e];exact .inr ⟨F,rfl,t⟩
 rcases d:s.p c with _|p
 ·refine ag.2 (vF (nd.upd a fun _ h=>h.elim) hc ?_)
  exact GP (W':=Wx) ((f d).upd0 a) hm C D (fun y u=>az (g y u) a.size) fun G i n k j=>v G i n k (a.tr j)
 ·have A:l= [p]:=by
   rcases sl with⟨_,e,_⟩|⟨q,e,w,_⟩|⟨_,e,_⟩
   ·rw[d]at e;cases e
   ·rw[d]at w;cases w;exact e
   ·rw[d]at e;cases e
  subst A;rw[d]at b2;refine aw.2 ⟨p.1,vc b2 0,p.2,vc b2 1,ba fun i b3 j=>?_⟩
  have B:OwnS dQ 2 33 (fun y=>h.size≤y) i ⟨some (aL o),1,1⟩ [p]:=⟨rfl,fc,ai _,.inr ⟨o.size,[],rfl,a.size,b3,rfl⟩⟩
  exact v _ i (B.sl fun y u _ z=>by have:=g y z;omega) (ai _) (a.tr j)
theorem RO{W:Nat→Prop}{x z:Hs}{sb:Nat}:∀(m:Nat),m≤13→∀{b b':Nat} {l l':List Pr} {C:Nat→Prop} {h:ad} {L:List Ch},TrieAt W x h m b l→TrieAt W x h m b' l'→SetAt C h sb z L→(∀y,C y∨y=sb→W y)→(∀y,h.size≤y→W y)→bM l→bM l'→l.length≤100000→l'.length≤100000→L.length+(m+1)*200000≤10000000→
  ∀{K:Unit→ad→Prop},(∀ys,ys.Perm (gM l l')→Q8 C h sb z (L++ys) (K ()))→dd 185 [gS sb,gS b,gS b'] K h:=by
 intro m;induction m with
 |zero=>
  intro hm b b' l l' C h L t F st B N P u hn hn' hL K hk;refine uV _ _ _ ?_;unfold pt jK P0 KI;refine⟨trivial,fun a a' e e'=>by cases e;cases e';exact⟨t.plain,F.plain⟩,CondP.intro (fun e=>?_) fun e=>?_⟩
  ·obtain rfl:b=b':=by simpa using e
   obtain rfl:=EO t F P u;refine hk [] (by rw[AL]) h C (by rw[be];exact st) (fun _ h=>.inl h) (Upd.refl _ _)
  ·obtain⟨sp,sk,ow,hb,hsp,_⟩:=BuckAt.ex t
   obtain⟨sp',sk',ow',hb',hsp',_⟩:=BuckAt.ex F;refine ie hb (aw.2 ?_);refine wW hb hsp (by omega) fun s1 D ho1 k1=>?_
   refine wW (k1.get0 hb') (hsp'.upd k1 fun _ h=>h.elim) (by omega) fun s2 A ho2 k2=>?_
   have s1z:=k1.size;obtain⟨_,Q,_⟩:=st.ex;have zsb:=bw Q;have ho1':=ho1.upd k2 fun _ _ h=>h
   refine Ax (st.upd0 (k1.tr k2)) (ho1'.sl fun y j _ hw=>?_) (ho2.sl fun y j _ hw=>?_) ho1.cap ho2.cap (by omega) fun X C3 J O G=>?_
   ·rcases hw with h|h
    ·have:=st.lt y h;omega
    ·omega
   ·rcases hw with h|h
    ·have:=st.lt y h;omega
    ·omega
   ·have s2z:=k2.size
    exact hk (gM l l') (.refl _) X C3 J (fun y j=>(O y j).imp id fun h=>by omega) ((k1.tr k2).wide.tr G)
 |succ m ih=>
  intro hm b b' l l' C h L t F st B N P u hn hn' hL K hk;refine uV _ _ _ ?_;unfold pt jK P0 KI;refine⟨trivial,fun a a' e e'=>by cases e;cases e';exact⟨t.plain,F.plain⟩,CondP.intro (fun e=>?_) fun e=>?_⟩
  ·obtain rfl:b=b':=by simpa using e
   obtain rfl:=EO t F P u;exact hk [] (by rw[AL]) h C (by rw[be];exact st) (fun _ h=>.inl h) (Upd.refl _ _)
  have hcl:=ri P u;obtain⟨s,nd,hs⟩:=t;obtain⟨s',nd',U⟩:=F;have hs:∀c,c<32→SlotIs W x h m s c (part x (12-m) c l):=hs;have U:∀c,c<32→SlotIs W x h m s' c (part x (12-m) c l'):=U;obtain⟨d,n,sp,sk,ow,hb,_⟩:=nd.ex;refine ie hb (ag.2 ?_);refine LoopP.ghost (fun(g:Nat×List Ch×(Nat→Prop)) (t:Int) h'=>t=(g.1:Int)∧g.1≤32∧SetAt g.2.2 h' sb z (L++g.2.1)∧(∀y,g.2.2 y→C y∨h.size≤y)∧Upd (fun y=>C y∨y=sb) h h'∧g.2.1.Perm ((gM l l').filter fun c=>decide (ck x (12-m) c.1<g.1))) (fun g=>32-g.1) (0,[],C)
   ⟨rfl,by omega,by rw[be];exact st,fun _ h=>.inl h,Upd.refl _ _,by simp⟩ ?_
  rintro I ⟨i,ys,T⟩ t D ⟨rfl,hi,v,w,q,hp⟩ hI;simp only at hi v w hp;have hCW1:∀y,T y∨y=sb→W y:=fun y j=>j.elim (fun h=>(w y h).elim (fun h=>B y (.inl h)) (N y)) fun h=>B y (.inr h)
  have S:∀y,C y∨y=sb→W y∨h.size≤y:=fun y j=>.inl (B y j)
  refine ao (fun f=>?_) fun hge=>?_
  rotate_left
  ·have hi32:i=32:=by omega
   subst hi32;refine hk ys (hp.trans ?_) D T v w q;rw[List.filter_eq_self.2 fun c _=>decide_eq_true (yA x (12-m) c.1)]
  have f:i<32:=by omega
  have H:(gM l l').filter (fun c=>decide (ck x (12-m) c.1=i))=gM (part x (12-m) i l) (part x (12-m) i l'):=(Og (fun k=>decide (ck x (12-m) k=i)) P u).symm
  have hyl:ys.length≤200000:=by
   have:=hp.length_eq;have:=List.length_filter_le (fun c:Ch=>decide (ck x (12-m) c.1<i)) (gM l l')
   omega
  have hpl:=pR (x:=x) (lev:=12-m) (c:=i) (l:=l);have hpl':=pR (x:=x) (lev:=12-m) (c:=i) (l:=l');have step:∀Y:List Ch,Y.Perm (gM (part x (12-m) i l) (part x (12-m) i l'))→∀A C2,SetAt C2 A sb z ((L++ys)++Y)→(∀y,C2 y→T y∨D.size≤y)→Upd (fun y=>T y∨y=sb) D A→I (ac .i64 ((i:Int)+1)) A:=by
   intro Y hz A C2 st2 hC2 hu2;rw[kX f (by omega)];refine hI (i+1,ys++Y,C2) _ A ⟨rfl,f,by rw[←aE];exact st2,fun y j=>?_,?_,?_⟩ (by show 32-(i+1)<32-i;omega)
   ·rcases hC2 y j with h|h
    ·exact w y h
    ·exact .inr (aW q.size h)
   ·exact q.trans hu2 fun y j=>j.elim (fun h=>(w y h).imp .inl id) fun h=>.inl (.inr h)
   ·rw[←H]at hz
    exact(hp.append hz).trans (CN (fun c:Ch=>ck x (12-m) c.1) i (gM l l'))
  have nd1:=nd.upd q S;have E:=nd'.upd q S;have up:∀{s:Slots} {l:List Pr},SlotIs W x h m s i l→SlotIs W x D m s i l:=fun o=>o.imp id fun o=>o.imp id fun⟨D,A,kb,X,h4⟩=>⟨D,A,kb,X,TrieAt.updM q S h4⟩
  have sl:=up (hs i f);have sl':=up (U i f);have hWn1:∀y,D.size≤y→W y:=fun y j=>N y (aW q.size j)
  refine Join.plain (vF nd1 f (vF E f ?_));refine Join.intro (fun t h'=>h'=D∧(t=true→(s.k i).isSome=true∧(s'.k i).isSome=true)) (fun R hR=>?_) ?_
  ·refine CondP.intro (fun e=>hR _ _ ⟨rfl,fun e'=>⟨e,e'⟩⟩) fun e=>hR _ _ ⟨rfl,fun e=>by cases e⟩
  rintro t A ⟨rfl,ht⟩;refine CondP.intro (fun e=>?_) fun e=>?_
  ·obtain⟨e1,e2⟩:=ht e
   rcases sl with⟨_,_,e3⟩|⟨p,_,_,e3⟩|⟨_,_,kb,e3,tk⟩
   ·rw[e3]at e1;cases e1
   ·rw[e3]at e1;cases e1
   rcases sl' with⟨_,_,Z⟩|⟨p,_,_,Z⟩|⟨_,_,kb',Z,tk'⟩
   ·rw[Z]at e2;cases e2
   ·rw[Z]at e2;cases e2
   rw[e3,Z];refine ih (by omega) tk tk' v hCW1 hWn1 (jM P) (jM u) (by omega) (by omega) (by rw[ae];omega) fun Y hz X C3 J O G=>?_
   exact step Y hz X C3 J O G
  ·obtain⟨_,Q,_⟩:=v.ex
   have zsb:=bw Q;have hWx:∀y,T y∨y=sb→y<A.size:=fun y j=>j.elim (v.lt y) fun h=>by omega
   refine O4 (Wx:=fun y=>T y∨y=sb) nd1 f sl (by omega) (jM P) (by omega) hWx fun s3 X hs3 hc3 V=>?_
   refine O4 (Wx:=fun y=>T y∨y=sb) (E.upd V fun _ h=>h.elim) f (sl'.upd0 V) (by omega) (jM u) (by omega) (fun y j=>az (hWx y j) V.size) fun s4 h4 hs4 hc4 k4=>?_
   refine Ax (v.upd0 (V.tr k4)) (hs3.upd k4 fun _ h=>h.elim) hs4 hc3 hc4 (by rw[ae];omega) fun h5 C5 st5 hC5 hu5=>?_
   have s34:=(V.tr k4).size;exact step _ (.refl _) h5 C5 st5 (fun y j=>(hC5 y j).imp id fun h=>by omega) ((V.tr k4).wide.tr hu5)
end Go.Proofs
namespace Go.Proofs
open Go Go.Lift
def VM(pre:List UInt8):ByteArray:=⟨pre.toArray⟩
theorem LJ(pre:List UInt8):(VM pre).data.toList=pre:=by unfold VM;simp
theorem NG(k:ByteArray):VM k.data.toList=k:=by cases k;rfl
def AE(pre:List UInt8)(p:List UInt8×ByteArray):Pr:=(VM (pre++p.1),p.2)
def pp(pre:List UInt8)(n:Bn):List Pr:=(ze n.2.1 n.2.2).map (AE (pre++n.1))
def uG(key:List UInt8)(w:Option ByteArray):List Pr:=(w.map fun v=>(VM key,v)).toList
theorem SH{x y:List UInt8}:kl (VM x) (VM y)↔x<y:=by rw[JH,ByteArray.toList_eq,ByteArray.toList_eq,LJ,LJ]
theorem QH(a b:List UInt8)(p:List UInt8×ByteArray):AE a (b++p.1,p.2)=AE (a++b) p:=by unfold AE;rw[aE]
theorem Pi(pre:List UInt8):∀F:Fo,(An F).map (AE pre)=F.toL.flatMap (pp pre)
 | .nil=>rfl
 | .cons lab w kids rest=>by
  rw[Qm,Fo.toL_cons,aU,cD,Pi pre rest,hE];congr 1
  unfold pp ze;exact List.map_congr_left fun p _=>QH pre lab p
theorem HJ(pre lab:List UInt8)(w:Option ByteArray)(F:Fo):pp pre (lab,w,F)=uG (pre++lab) w++F.toL.flatMap (pp (pre++lab)):=by
 unfold pp;rw[show ze w F=(w.map fun v=>(([]:List UInt8),v)).toList++An F from rfl,cD,Pi]
 congr 1
 cases w with
 |none=>rfl
 |some v=>show[AE (pre++lab) ([],v)]=_;unfold AE uG;rw[be];rfl
theorem pQ{pre:List UInt8}{n:Bn}(hc:gA n.2.2):bM (pp pre n):=by
 unfold pp;rw[bM,List.pairwise_map];exact(Ph (w:=n.2.1) hc).imp fun{p q} h=>SH.2 (Kg h)
structure NodeK(n:Bn)(pre:List UInt8):Prop where
 can:gA n.2.2
 len:pre.length+n.1.length≤10000
 all:∀p∈ze n.2.1 n.2.2,pre.length+n.1.length+p.1.length≤10000
theorem NodeK.kid{n m:Bn}{pre:List UInt8}(k:NodeK n pre)(hm:m∈n.2.2.toL):NodeK m (pre++n.1):=by
 have c:=(dA.1 k.can).2 _ hm;have a:∀p∈ze m.2.1 m.2.2,(pre++n.1).length+m.1.length+p.1.length≤10000:=fun p e=>by
  have b:sX n.2.2 (m.1++p.1) p.2:=gB.2 ⟨_,hm,p.1,rfl,lu.1 (show(p.1,p.2)∈_ from e)⟩
  have:=k.all (m.1++p.1,p.2) (lu.2 (.inr b));simp only[ae]at this⊢;omega
 obtain⟨r,v,d⟩:=rL k.can _ hm;have:=a (r,v) (lu.2 d);exact⟨c.2.2,by simp only at this;omega,a⟩
theorem CM{pre:List UInt8}{m n:Bn}(hm:m.1≠[])(d:n.1≠[])(h:hd m.1<hd n.1):∀p∈pp pre m,∀q∈pp pre n,kl p.1 q.1:=by
 intro p c q e;unfold pp at c e;obtain⟨a,_,rfl⟩:=aP.1 c;obtain⟨b,_,rfl⟩:=aP.1 e;refine SH.2 ?_;rw[aE,aE];refine Kg (LZ (by simp[d]) ?_);rw[pi hm,pi d];exact h
theorem Jy{key:List UInt8}{w:Option ByteArray}{n:Bn}(e:n.1≠[]):∀p∈uG key w,∀q∈pp key n,kl p.1 q.1:=by
 intro p a q d;unfold uG at a;rw[Option.mem_toList,Option.map_eq_some_iff]at a;obtain⟨v,_,rfl⟩:=a;unfold pp at d;obtain⟨b,_,rfl⟩:=aP.1 d;refine SH.2 ?_;rw[aE];conv=>lhs;rw[←be key]
 refine Kg ?_;match n.1,e with
 |c::l,_=>exact vV
theorem QI{f:Bn→List Pr}(L:List Bn)(i:Nat):((L.take i).flatMap f).length≤(L.flatMap f).length:=by
 conv=>rhs;rw[←bJ i L,co,ae]
 omega
theorem Xf{a b:ByteArray}:a.data.toList++b.data.toList=(a++b).data.toList:=by
 rw[ByteArray.data_append,Array.toList_append]
theorem RxL.updN{W M:Nat→Prop}{h h':ad}(k:Upd M h h')(hm:∀b,M b→W b∨h.size≤b){ks:List (Option Addr)}{L:List Bn}(r:RxL W h ks L):RxL W h' ks L:=
 ⟨r.1,fun p d=>let⟨b,sl,a,c,e⟩:=r.2 p d;⟨b,sl,a,c,e.updM k hm⟩⟩
def TV(n:Bn):Prop:=∀{W:Nat→Prop} {h:ad} {b:Nat} {sl:ByteArray} {ahead:ByteArray},RxN W h b sl n.2.1 n.2.2→sl.data.toList=n.1→NodeK n ahead.data.toList→(pp ahead.data.toList n).length≤1000000→∀{K:SliceV→ad→Prop},(∀s' h',OwnS dQ 2 33 (fun y=>h.size≤y) h' s' (pp ahead.data.toList n)→Upd No h h'→K s' h')→eP 255 [gS b,.string ahead] K h
theorem K6{lab:List UInt8}{w:Option ByteArray}{F:Fo}(ih:∀n∈F.toL,TV n):TV (lab,w,F):=by
 intro W h b sl ahead r f nk X K hk;(try simp only at r f)
 have r:=r.less (W':=fun y=>h.size≤y) fun _ h=>.inr h
 refine Dc (some ⟨b,0,none⟩) ahead ?_;dsimp only[xJ,fP,kJ,mY,zD,cB,jA,fQ];refine ag.2 (li r ?_);have j:=nk.len;(try simp only at j)
 have J:∀k:ByteArray,k.size=k.data.toList.length:=fun k=>by rw[dL];rfl
 have e1:=J ahead;have e2:=J sl;rw[f]at e2;refine⟨by omega,?_⟩;have d:(ahead++sl).data.toList=ahead.data.toList++lab:=by rw[←Xf,f]
 have S:VM (ahead.data.toList++lab)=ahead++sl:=by rw[←d,NG]
 rw[HJ]at X hk;refine Join.intro (fun t h'=>OwnS dQ 2 33 (fun y=>h.size≤y) h' t (uG (ahead.data.toList++lab) w)∧Upd No h h') (fun R hR=>?_) ?_
 ·refine E1 r fun v hv=>?_
  cases w with
  |none=>exact ag.2 (hR _ _ ⟨OwnS.nil fc,Upd.refl _ _⟩)
  |some u=>
   refine aw.2 ?_;have:=hv u rfl;subst this;refine bL ?_;refine rX (p:=(ahead++sl,v)) (M:=fun y=>h.size≤y) (out:= []) (so:=⟨none,0,0⟩) (OwnS.nil fc) (fun _ h=>h) (by simp) fun s1 Q s k1=>hR _ _ ⟨?_,k1.mono fun y g=>.inr g⟩
   rw[show uG (ahead.data.toList++lab) (some v)= []++ [(ahead++sl,v)] by unfold uG;rw[S];rfl]
   exact s
 rintro t Q ⟨s,k1⟩;refine BO (r.upd0 k1) (pI nk.can) fun P B ks E G Z=>?_
 have q:Sl ql 1 No B P ks:=E.sl fun _ _ _ h=>h
 have C:=q.len;rw[G.1]at C;have D:=pI nk.can;(try simp only at D)
 have z1:=k1.size;have z2:=Z.size;have q:Sl ql 1 (fun y=>h.size≤y∧(y<Q.size∨B.size≤y)) B P ks:=E.sl fun y g X hw=>by omega
 refine LoopP.ghost (fun(i:Nat) (t:SliceV×Int) O=>OwnS dQ 2 33 (fun y=>h.size≤y∧(y<Q.size∨B.size≤y)) O t.1 (uG (ahead.data.toList++lab) w++(F.toL.take i).flatMap (pp (ahead.data.toList++lab)))∧t.2=(i:Int)∧i≤F.toL.length∧Upd (fun y=>h.size≤y∧(y<Q.size∨B.size≤y)) B O) (fun i=>F.toL.length-i) 0 ⟨?_,rfl,aN _,Upd.refl _ _⟩ ?_
 ·rw[List.take_zero,pC,be]
  exact(s.within.more fun y g=>⟨g.1,.inl g.2⟩).upd Z fun _ _ h=>h
 rintro I i ⟨ta,ti⟩ O ⟨o,e3,hi,N⟩ hI;(try simp only at o e3)
 subst e3;have H:((F.toL.take (i+1)).flatMap (pp (ahead.data.toList++lab))).length≤(F.toL.flatMap (pp (ahead.data.toList++lab))).length:=QI _ _;rw[ae]at X;refine ao (fun c=>?_) fun T=>?_
 ·have c:i<F.toL.length:=by have:(i:Int)<(P.len:Int):=c;omega
  have hL3:=G.updN N fun y g=>.inl g.1
  obtain⟨kb,ksl,hki,j,L⟩:=hL3.at c;obtain⟨a,ha,_,hv⟩:=(q.upd N fun _ h=>.inl h).at0 hki
  refine Join.plain ⟨⟨by(try simp only);omega,by(try simp only);omega⟩,a,ha,some ⟨kb,0,none⟩,hv,?_⟩
  have A:(F.toL.take (i+1)).flatMap (pp (ahead.data.toList++lab))=(F.toL.take i).flatMap (pp (ahead.data.toList++lab))++pp (ahead.data.toList++lab) F.toL[i]:=by
   rw[List.take_succ_eq_append_getElem c,co];simp
  rw[A,ae]at H;have e:=List.getElem_mem c;generalize F.toL[i]=m at j L A H e;refine ih m e L j (by rw[d];exact nk.kid e) (by rw[d];omega) fun s4 h4 z x=>?_
  rw[d]at z;refine⟨_,(z.sl (W:=No) fun _ _ _ h=>h).srow,?_⟩
  have z3:=N.size;have z4:=x.size;refine AppP.own (ys:=pp (ahead.data.toList++lab) m) (o.upd x fun _ _ h=>h) z.len rfl (vC _) rfl (by omega) (by rw[ae];omega) ⟨by omega,.inr (by omega)⟩ fun s5 h5 Y V=>?_
  rw[cp c (by omega)];refine hI (i+1) _ _ ⟨?_,rfl,c,(N.tr x.wide).tr V⟩ (by omega);rw[A,←aE];exact Y
 ·have U:i=F.toL.length:=by have:¬(i:Int)<(P.len:Int):=T;omega
  subst U;rw[List.take_length]at o;exact hk _ O (o.more fun y g=>g.1) ((k1.tr Z).trans N fun y g=>.inr g.1)
theorem BK:∀{F:Fo},gA F→∀n∈F.toL,TV n
 | .nil,_,n,a=>by simp[Fo.toL]at a
 | .cons lab w kids rest,h,n,a=>by
  rcases aq.1 a with rfl|a
  ·exact K6 (BK h.2.2.1)
  ·exact BK h.2.2.2.2 n a
theorem RV{n:Bn}{W:Nat→Prop}{h:ad}{b:Nat}{sl:ByteArray}{ahead:ByteArray}(r:RxN W h b sl n.2.1 n.2.2)(e:sl.data.toList=n.1)(nk:NodeK n ahead.data.toList)(c:(pp ahead.data.toList n).length≤1000000){K:SliceV→ad→Prop}(a:∀s' h',OwnS dQ 2 33 (fun y=>h.size≤y) h' s' (pp ahead.data.toList n)→Upd No h h'→K s' h'):eP 255 [gS b,.string ahead] K h:=
 K6 (BK nk.can) r e nk c a
theorem CO{W:Nat→Prop}{h:ad}{b:Nat}{sl key:ByteArray}{w:Option ByteArray}{F:Fo}(r:RxN W h b sl w F){K:SliceV→ad→Prop}(a:∀s' h',OwnS dQ 2 33 (fun y=>h.size≤y) h' s' (uG key.data.toList w)→Upd No h h'→K s' h'):eP 256 [gS b,.string key] K h:=by
 refine Ov _ key ?_;unfold GG kJ;refine E1 r fun v hv=>?_
 cases w with
 |none=>exact aw.2 (a _ h (OwnS.nil fc) (Upd.refl _ _))
 |some u=>
  have:=hv u rfl;subst this;refine ag.2 (ba fun c b1 k1=>?_)
  refine a _ c ⟨rfl,fc,ai _,.inr ⟨h.size,[],rfl,ai _,?_,rfl⟩⟩ k1;rw[b1];unfold uG;rw[NG];rfl
end Go.Proofs
namespace Go.Proofs
open Go Go.Lift
theorem Uz{α:Type}{f:α→List Value}{sz:Nat}{W:Nat→Prop}{h:ad}{s:SliceV}{p:α}{l:List α}(a:Sl f sz W h s (p::l))(hc:s.len≤s.cap):Sl f sz W h ⟨aV s.a 1 s.cap sz,s.len-1,s.cap-1⟩ l:=by
 have b:=a.len;rw[au]at b;have:=Sl.sub a (l:=1) (hi:=s.len) (m:=s.cap) (c:=s.cap-1) (by omega) (by rw[au];omega) hc;rw[show((p::l).drop 1).take (s.len-1)=l by rw[List.drop_succ_cons,List.drop_zero];exact List.take_of_length_le (by omega)]at this
 exact this
theorem UE{W W':Nat→Prop}{h:ad}{b:Nat}{sl a:ByteArray}{w d:Option ByteArray}{F F':Fo}(r:RxN W h b sl w F)(g:RxN W' h b a d F'):sl=a∧w=d∧F=F':=by
 obtain⟨val,s,ow,ks,q,u,i,x,o⟩:=r;obtain⟨e,s',t,f,c,p,k,v,j⟩:=g;rw[q]at c;simp only[Option.some.injEq,Obj.cells.injEq,and_true]at c;obtain⟨m,n,rfl,rfl⟩:=O8 c;have:=Sl.det O7 i k;subst this;exact⟨m,Pm n u p,Nf o j⟩
theorem RxN.plain{W:Nat→Prop}{h:ad}{b:Nat}{sl:ByteArray}{w:Option ByteArray}{F:Fo}(r:RxN W h b sl w F):eE h ⟨b,0,none⟩:=by
 obtain⟨val,s,ow,ks,hb,_⟩:=r;exact Ny hb (by simp[CH])
def NdO(W:Nat→Prop)(h:ad)(pre:List UInt8)(r:Option Addr)(A:List Pr):Prop:=(r=none∧A= [])∨∃b sl n,r=some ⟨b,0,none⟩∧RxN W h b sl n.2.1 n.2.2∧sl.data.toList=n.1∧NodeK n pre∧A=pp pre n
theorem NdO.upd0{W:Nat→Prop}{h h':ad}{pre:List UInt8}{r:Option Addr}{A:List Pr}(k:Upd No h h')(o:NdO W h pre r A):NdO W h' pre r A:=o.imp id fun⟨b,sl,n,a,c,d⟩=>⟨b,sl,n,a,c.upd0 k,d⟩
theorem K5{W:Nat→Prop}{h:ad}{ahead:ByteArray}{r:Option Addr}{A:List Pr}(o:NdO W h ahead.data.toList r A)(c:A.length≤1000000){K:SliceV→ad→Prop}(a:∀s' h',OwnS dQ 2 33 (fun y=>h.size≤y) h' s' A→Upd No h h'→K s' h'):eP 255 [.pointer r,.string ahead] K h:=by
 rcases o with⟨rfl,rfl⟩|⟨b,sl,n,rfl,r,e,nk,rfl⟩
 ·refine Dc none ahead ?_
  dsimp only[xJ,fP,kJ,mY,zD,cB,jA,fQ];exact aw.2 (a _ h (OwnS.nil fc) (Upd.refl _ _))
 ·exact RV r e nk c a
theorem Ah{W C:Nat→Prop}{h:ad}{ahead:ByteArray}{r s:Option Addr}{A B:List Pr}{L:List Ch}{sb:Nat}{z:Hs}(o:NdO W h ahead.data.toList r A)(w:NdO W h ahead.data.toList s B)(st:SetAt C h sb z L)(E:A.length≤1000000)(u:B.length≤1000000)(O:L.length+A.length+B.length≤10000000){G:Unit→ad→Prop}(H:Q8 C h sb z (L++gM A B) (G ())):
  eP 255 [.pointer r,.string ahead] (fun(g:SliceV) t=>eP 255 [.pointer s,.string ahead] (fun(a:SliceV) m=>dd 254 [gS sb,.slice g.a g.len g.cap,.slice a.a a.len a.cap] (fun(_:Unit) i=>G () i) m) t) h:=by
 refine K5 o E fun P N c k1=>K5 (w.upd0 k1) u fun K J d e=>?_
 have x:=k1.size;obtain⟨_,n,_⟩:=st.ex;have F:=bw n;have b:=c.upd e fun _ _ h=>h
 refine Ax (st.upd0 (k1.tr e)) (b.sl fun y p _ j=>?_) (d.sl fun y p _ j=>?_) c.cap d.cap (by omega) fun D v f k q=>?_
 ·rcases j with h|h
  ·have:=st.lt y h;omega
  ·omega
 ·rcases j with h|h
  ·have:=st.lt y h;omega
  ·omega
 ·have I:=e.size
  exact H D v f (fun y p=>(k y p).imp id fun h=>by omega) ((k1.tr e).wide.tr q)
theorem Hu{W C:Nat→Prop}{h:ad}{ahead:ByteArray}{r b:Option Addr}{A B:List Pr}{L:List Ch}{sb:Nat}{z:Hs}(o:NdO W h ahead.data.toList r A)(g:NdO W h ahead.data.toList b B)(c:r=none∨b=none)(st:SetAt C h sb z L)(j:A.length≤1000000)(k:B.length≤1000000)(m:L.length+A.length+B.length≤10000000){K:Unit→ad→Prop}(f:Q8 C h sb z (L++gM A B) (K ())):
  dd 183 [gS sb,.pointer r,.pointer b,.string ahead] K h:=by
 refine uW _ r b ahead ?_;dsimp only[pu,fP,KJ,KI,D4,cB,fQ,Gc,AX,Vs,AW];refine⟨trivial,fun a a' e p=>by rcases c with h|h<;>simp_all,CondP.intro (fun e=>?_) fun e=>?_⟩
 ·have n:r=b:=by simpa using e
  have i:r=none∧b=none:=by rcases c with h|h<;>simp_all
  obtain⟨rfl,rfl⟩:=i;obtain rfl:A= []:=by rcases o with⟨_,h⟩|⟨_,_,_,h,_⟩;exact h;cases h
  obtain rfl:B= []:=by rcases g with⟨_,h⟩|⟨_,_,_,h,_⟩;exact h;cases h
  exact f h C (by rw[iu,fk,be];exact st) (fun _ h=>.inl h) (Upd.refl _ _)
 ·refine Join.intro (fun t h'=>t=true∧h'=h) (fun R d=>?_) ?_
  ·rcases c with rfl|rfl
   ·exact aw.2 (d _ _ ⟨rfl,rfl⟩)
   ·exact CondP.intro (fun _=>d _ _ ⟨rfl,rfl⟩) fun _=>aw.2 (d _ _ ⟨rfl,rfl⟩)
  ·rintro t h' ⟨rfl,rfl⟩
   exact aw.2 (Ah o g st j k m f)
theorem UY{sl:ByteArray}{l:List UInt8}(e:sl.data.toList=l)(b:l≠[]):∃c:UInt8,(0:Int)≤0∧sl[(0:Int).toNat]? =some c∧c.toNat=hd l:=by
 match l,b with
 |c::l,_=>
  refine⟨c,Int.le_refl _,?_,rfl⟩;have a:0<sl.size:=by
   have:sl.data.toList.length=sl.size:=dL;rw[←this,e];simp
  have:sl.data[0]? =some c:=by rw[←Array.getElem?_toList,e];rfl
  rw[show(0:Int).toNat=0 from rfl]
  rw[getElem?_pos sl 0 a];rw[Array.getElem?_eq_getElem a]at this;exact this
def Ou(n:Bn):Prop:=∀{W C:Nat→Prop} {h:ad} {b b':Nat} {sl sl' ahead:ByteArray} {n':Bn} {L:List Ch} {sb:Nat} {z:Hs},RxN W h b sl n.2.1 n.2.2→sl.data.toList=n.1→RxN W h b' sl' n'.2.1 n'.2.2→sl'.data.toList=n'.1→NodeK n ahead.data.toList→NodeK n' ahead.data.toList→SetAt C h sb z L→
 (∀y,C y∨y=sb→W y)→(∀y,h.size≤y→W y)→(pp ahead.data.toList n).length≤1000000→(pp ahead.data.toList n').length≤1000000→L.length+(pp ahead.data.toList n).length+(pp ahead.data.toList n').length≤10000000→
 ∀{K:Unit→ad→Prop},Q8 C h sb z (L++gM (pp ahead.data.toList n) (pp ahead.data.toList n')) (K ())→dd 183 [gS sb,gS b,gS b',.string ahead] K h
theorem j1{key:List UInt8}{P:List Pr}{L:List Bn}(h:∀n∈L,∀p∈P,∀q∈pp key n,kl p.1 q.1):∀p∈P,∀q∈L.flatMap (pp key),kl p.1 q.1:=by
 intro p b q a;obtain⟨n,c,a⟩:=List.mem_flatMap.1 a;exact h n c p b q a
set_option maxHeartbeats 1000000 in
theorem Hv{lab:List UInt8}{w:Option ByteArray}{F:Fo}(ih:∀n∈F.toL,Ou n):Ou (lab,w,F):=by
 intro W C h b b' sl sl' ahead n' L sb z r e r' e' nk nk' st hCW hWn hA hB hL K hk;obtain⟨lab',w',F'⟩:=n';(try simp only at r e r' e')
 refine uW _ _ _ ahead ?_;dsimp only[pu,fP,KJ,KI,D4,cB,fQ,Gc,AX,Vs,AW];refine⟨trivial,fun a a' e1 e2=>by cases e1;cases e2;exact⟨r.plain,r'.plain⟩,CondP.intro (fun e1=>?_) fun e1=>?_⟩
 ·obtain rfl:b=b':=by simpa using e1
  obtain⟨rfl,rfl,rfl⟩:=UE r r';subst e e';exact hk h C (by rw[AL,be];exact st) (fun _ h=>.inl h) (Upd.refl _ _)
 clear e1;refine Join.intro (fun t h'=>h'=h∧t= !(decide (sl=sl'))) (fun R hR=>?_) ?_
 ·refine ag.2 (ag.2 (li r (li r' (hR _ _ ⟨rfl,?_⟩))))
  have eb:(sl.toList==sl'.toList)=decide (sl=sl'):=dI;rw[eb]
 rintro t h0 ⟨rfl,et⟩;by_cases hsl:sl=sl'
 rotate_left
 ·rw[decide_eq_false hsl]at et
  subst et;refine aw.2 ?_;exact Ah (.inr ⟨b,sl,(lab,w,F),rfl,r,e,nk,rfl⟩) (.inr ⟨b',sl',(lab',w',F'),rfl,r',e',nk',rfl⟩) st hA hB hL hk
 rw[decide_eq_true hsl]at et;subst et hsl;obtain rfl:lab=lab':=by rw[←e,←e']
 refine ag.2 (li r ?_);have hkl:=nk.len;(try simp only at hkl)
 have esz:∀k:ByteArray,k.size=k.data.toList.length:=fun k=>by rw[dL];rfl
 have e1:=esz ahead;have e2:=esz sl;rw[e]at e2;refine⟨by omega,?_⟩;have T:(ahead++sl).data.toList=ahead.data.toList++lab:=by rw[←Xf,e]
 rw[HJ,ae]at hA hB;rw[HJ,HJ,ae,ae]at hL;rw[HJ,HJ]at hk;have Y:=dA.1 nk.can;have H:=dA.1 nk'.can;have hkid:∀m∈F.toL,NodeK m (ahead++sl).data.toList:=fun m hm=>by rw[T];exact nk.kid hm
 have O:∀m∈F'.toL,NodeK m (ahead++sl).data.toList:=fun m hm=>by rw[T];exact nk'.kid hm
 rw[←T]at hA hB hL hk;generalize ahead++sl=key at T hkid O hA hB hL hk⊢;have U:∀{u:Option ByteArray},bM (uG key.data.toList u):=fun{u}=>by cases u<;>simp[uG,bM]
 rw[Ew U U (j1 fun m hm=>Jy (Y.2 m hm).1) (j1 fun m hm=>Jy (H.2 m hm).1) (j1 fun m hm=>Jy (Y.2 m hm).1) (j1 fun m hm=>Jy (H.2 m hm).1),←aE]at hk
 refine CO r fun s1 h1 ho1 k1=>CO (r'.upd0 k1) fun s2 h2 ho2 k2=>?_
 have k12:=k1.tr k2;have s1z:=k1.size;have s2z:=k2.size;obtain⟨_,hsb,_⟩:=st.ex;have zsb:=bw hsb;refine Ax (st.upd0 k12) ((ho1.upd k2 fun _ _ h=>h).sl fun y d _ hw=>?_) (ho2.sl fun y d _ hw=>?_) ho1.cap ho2.cap (by omega) fun h3 S st3 hC3 hu3=>?_
 ·rcases hw with h|h
  ·have:=st.lt y h;omega
  ·omega
 ·rcases hw with h|h
  ·have:=st.lt y h;omega
  ·omega
 have hlo:∀u v:Option ByteArray,(gM (uG key.data.toList u) (uG key.data.toList v)).length≤(uG key.data.toList u).length+(uG key.data.toList v).length:=fun u v=>ri U U
 have hlo:=hlo w w';generalize gM (uG key.data.toList w) (uG key.data.toList w')=X at st3 hk hlo;generalize (uG key.data.toList w).length=x1 at hA hL hlo;generalize (uG key.data.toList w').length=x2 at hB hL hlo;have hM3:∀y,C y∨y=sb→W y∨h2.size≤y:=fun y d=>.inl (hCW y d)
 have s3z:=hu3.size;refine BO ((r.upd0 k12).updM hu3 hM3) (pI nk.can) fun s4 h4 ks ho4 hL4 k4=>?_
 refine BO (((r'.upd0 k12).updM hu3 hM3).upd0 k4) (pI nk'.can) fun s5 P ks' ho5 hL5 k5=>?_
 have s4z:=k4.size;have s5z:=k5.size;obtain⟨_,hsb3,_⟩:=st3.ex;have zsb3:=bw hsb3;have st5:=st3.upd0 (k4.tr k5);have hW5:∀y,P.size≤y→W y:=fun y d=>hWn y (by omega)
 have hC3W:∀y,S y∨y=sb→W y:=fun y d=>d.elim (fun h=>(hC3 y h).elim (fun h=>hCW y (.inl h)) fun h=>hWn y (by omega)) fun h=>hCW y (.inr h)
 have hv4:Sl ql 1 (fun y=>S y∨y=sb∨P.size≤y) P s4 ks:=(ho4.sl (W:=fun y=>S y∨y=sb∨P.size≤y) fun y d hl hw=>by
  rcases hw with h|h|h
  ·have:=st3.lt y h;omega
  ·omega
  ·omega).upd k5 fun _ h=>h.elim
 have hv5:Sl ql 1 (fun y=>S y∨y=sb∨P.size≤y) P s5 ks':=ho5.sl (W:=fun y=>S y∨y=sb∨P.size≤y) fun y d hl hw=>by
  rcases hw with h|h|h
  ·have:=st3.lt y h;omega
  ·omega
  ·omega
 have hku:Upd (fun y=>C y∨y=sb) h0 P:=(k12.wide.tr hu3).tr (k4.tr k5).wide
 have hC5:∀y,S y→C y∨h0.size≤y:=fun y d=>(hC3 y d).imp id fun h=>by omega
 refine LoopP.ghost (fun(g:(List (Option Addr)×List Bn)×(List (Option Addr)×List Bn)×List Ch×(Nat→Prop)) (t:SliceV×SliceV) h'=>SetAt g.2.2.2 h' sb z g.2.2.1∧(∀y,g.2.2.2 y→S y∨P.size≤y)∧Upd (fun y=>S y∨y=sb) P h'∧Sl ql 1 (fun y=>S y∨y=sb∨P.size≤y) h' t.1 g.1.1∧Sl ql 1 (fun y=>S y∨y=sb∨P.size≤y) h' t.2 g.2.1.1∧t.1.len≤t.1.cap∧t.2.len≤t.2.cap∧
   RxL W h' g.1.1 g.1.2∧RxL W h' g.2.1.1 g.2.1.2∧(∀m∈g.1.2,m∈F.toL)∧(∀m∈g.2.1.2,m∈F'.toL)∧g.1.2.Pairwise (fun m n=>hd m.1<hd n.1)∧g.2.1.2.Pairwise (fun m n=>hd m.1<hd n.1)∧
   g.2.2.1++gM (g.1.2.flatMap (pp key.data.toList)) (g.2.1.2.flatMap (pp key.data.toList))=(L++X)++gM (F.toL.flatMap (pp key.data.toList)) (F'.toL.flatMap (pp key.data.toList))∧
   g.2.2.1.length+(g.1.2.flatMap (pp key.data.toList)).length+(g.2.1.2.flatMap (pp key.data.toList)).length≤10000000∧(g.1.2.flatMap (pp key.data.toList)).length≤1000000∧(g.2.1.2.flatMap (pp key.data.toList)).length≤1000000)
  (fun g=>g.1.2.length+g.2.1.2.length) ((ks,F.toL),(ks',F'.toL),L++X,S)
  ⟨st5,fun _ h=>.inl h,Upd.refl _ _,hv4,hv5,ho4.cap,ho5.cap,hL4.upd0 k5,hL5,fun _ h=>h,fun _ h=>h,Y.1,H.1,rfl,by rw[ae];(try simp only);omega,by(try simp only);omega,by(try simp only);omega⟩ ?_
 rintro I ⟨⟨ka,La⟩,⟨kb,Lb⟩,L1,C1⟩ ⟨t1,t2⟩ j ⟨st1,hC1,hu1,D,J,hc1,hc2,s,Q,E,Z,hpa,hpb,he,hl1,hl2,hl3⟩ hI;(try simp only at st1 hC1 D J hc1 hc2 s Q E Z hpa hpb he hl1 hl2 hl3)
 have z1:t1.len=La.length:=D.len.trans s.1;have z2:t2.len=Lb.length:=J.len.trans Q.1;have hC1W:∀y,C1 y∨y=sb→W y:=fun y d=>d.elim (fun h=>(hC1 y h).elim (fun h=>hC3W y (.inl h)) (hW5 y)) fun h=>hC3W y (.inr h)
 have hW1:∀y,j.size≤y→W y:=fun y d=>hW5 y (aW hu1.size d)
 have go:∀(c:List Ch) (u1 u2:SliceV) (ka2 kb2:List (Option Addr)) (A2 B2:List Bn) (h2:ad) (C2:Nat→Prop),SetAt C2 h2 sb z (L1++c)→(∀y,C2 y→C1 y∨j.size≤y)→Upd (fun y=>C1 y∨y=sb) j h2→gM (La.flatMap (pp key.data.toList)) (Lb.flatMap (pp key.data.toList))=c++gM (A2.flatMap (pp key.data.toList)) (B2.flatMap (pp key.data.toList))→
   c.length+(A2.flatMap (pp key.data.toList)).length+(B2.flatMap (pp key.data.toList)).length≤(La.flatMap (pp key.data.toList)).length+(Lb.flatMap (pp key.data.toList)).length→(A2.flatMap (pp key.data.toList)).length≤1000000→(B2.flatMap (pp key.data.toList)).length≤1000000→
   Sl ql 1 (fun y=>S y∨y=sb∨P.size≤y) j u1 ka2→Sl ql 1 (fun y=>S y∨y=sb∨P.size≤y) j u2 kb2→u1.len≤u1.cap→u2.len≤u2.cap→RxL W j ka2 A2→RxL W j kb2 B2→A2.Sublist La→B2.Sublist Lb→A2.length+B2.length<La.length+Lb.length→I (u1,u2) h2:=by
  intro c u1 u2 ka2 kb2 A2 B2 h2 C2 st2 hC2 hu2 ec hlc hlA hlB v1 v2 w1 w2 ra rb sa sb' G;have hm:∀y,C1 y∨y=sb→(S y∨y=sb∨P.size≤y)∨j.size≤y:=fun y d=>.inl (d.elim (fun h=>(hC1 y h).imp id .inr) fun h=>.inr (.inl h))
  have hmW:∀y,C1 y∨y=sb→W y∨j.size≤y:=fun y d=>.inl (hC1W y d)
  refine hI ((ka2,A2),(kb2,B2),L1++c,C2) (u1,u2) h2 ⟨st2,fun y d=>?_,?_,v1.upd hu2 hm,v2.upd hu2 hm,w1,w2,ra.updN hu2 hmW,rb.updN hu2 hmW,fun m hm=>E m (sa.subset hm),fun m hm=>Z m (sb'.subset hm),hpa.sublist sa,hpb.sublist sb',?_,?_,hlA,hlB⟩ G
  ·rcases hC2 y d with h|h
   ·exact hC1 y h
   ·exact .inr (aW hu1.size h)
  ·exact hu1.trans hu2 fun y d=>d.elim (fun h=>(hC1 y h).imp .inl id) fun h=>.inl (.inr h)
  ·show(L1++c)++_=_
   rw[aE,←ec,he]
  ·show(L1++c).length+(A2.flatMap (pp key.data.toList)).length+(B2.flatMap (pp key.data.toList)).length≤10000000
   rw[ae];omega
 refine Join.intro (fun t h'=>h'=j∧(t=true↔La≠[]∨Lb≠[])) (fun R hR=>?_) ?_
 ·refine ao (fun o=>hR _ _ ⟨rfl,?_⟩) fun o=>hR _ _ ⟨rfl,?_⟩
  ·have o:(t1.len:Int)>0:=o
   simp only[true_iff];left;intro e;rw[e]at z1;simp only[bA]at z1;omega
  ·have o:¬(t1.len:Int)>0:=o
   have e1:La= []:=List.length_eq_zero_iff.1 (by omega);show decide ((t2.len:Int)>0)=true↔_
   rw[decide_eq_true_iff];constructor
   ·intro h;right;intro e;rw[e]at z2;simp only[bA]at z2;omega
   ·intro h
    rcases h with h|h
    ·exact absurd e1 h
    ·have:=List.length_pos_iff.2 h;omega
 rintro t h6 ⟨rfl,ht⟩;refine CondP.intro (fun et=>?_) fun et=>?_
 rotate_left
 ·have hn:La= []∧Lb= []:=by
   rw[et]at ht;constructor
   ·exact Decidable.byContradiction fun h=>absurd (ht.2 (.inl h)) (by simp)
   ·exact Decidable.byContradiction fun h=>absurd (ht.2 (.inr h)) (by simp)
  obtain⟨rfl,rfl⟩:=hn;rw[pC,iu,fk,be]at he;subst he;exact hk h6 C1 st1 (fun y d=>(hC1 y d).elim (hC5 y) fun h=>.inr (by omega)) (hku.trans hu1 fun y d=>d.elim (fun h=>(hC5 y h).imp .inl id) fun h=>.inl (.inr h))
 have hne:=ht.1 et;clear ht et;have hna:∀m∈La,m.1≠[]:=fun m hm=>(Y.2 m (E m hm)).1
 have V:∀m∈Lb,m.1≠[]:=fun m hm=>(H.2 m (Z m hm)).1
 refine Join.intro (fun t h'=>h'=h6∧((t=true∧∃a A',La=a::A'∧∀q∈Lb,hd a.1<hd q.1)∨(t=false∧∃b B',Lb=b::B'∧(La= []∨∃a A',La=a::A'∧¬hd a.1<hd b.1)))) (fun R hR=>?_) ?_
 ·rcases Lb with _|⟨q,B'⟩
  ·rcases La with _|⟨a,A'⟩
   ·exact absurd hne (by simp)
   rw[show(((t2.len:Nat):Int)==0)=true by rw[z2];rfl]
   exact aw.2 (hR _ _ ⟨rfl,.inl ⟨rfl,a,A',rfl,fun q hq=>absurd hq dy⟩⟩)
  ·rw[au]at z2
   rw[show(((t2.len:Nat):Int)==0)=false by rw[beq_eq_false_iff_ne];omega]
   refine ag.2 ?_;rcases La with _|⟨a,A'⟩
   ·rw[bA]at z1
    rw[decide_eq_false (show ¬((t1.len:Int)>0) by omega)]
    exact ag.2 (hR _ _ ⟨rfl,.inr ⟨rfl,q,B',rfl,.inl rfl⟩⟩)
   ·rw[au]at z1
    rw[decide_eq_true (show((t1.len:Int)>0) by omega)]
    obtain⟨b1,l1,g1,g2,g3⟩:=s.at (i:=0) (ml _);obtain⟨b2,l2,f1,f2,f3⟩:=Q.at (i:=0) (ml _);simp only[dH]at g2 g3 f2 f3;obtain⟨a1,N,_,v1⟩:=D.at0 g1;obtain⟨a2,ha2,_,v2⟩:=J.at0 f1;obtain⟨c1,cc1,cd1,ce1⟩:=UY g2 (hna a (ar ..));obtain⟨c2,cc2,cd2,ce2⟩:=UY f2 (V q (ar ..));refine aw.2 ⟨⟨by(try simp only);omega,by(try simp only);omega⟩,a1,N,_,v1,⟨by(try simp only);omega,by(try simp only);omega⟩,a2,ha2,_,v2,li g3 ⟨v2,c1,cc1,cd1,li f3 ⟨c2,cc2,cd2,hR _ _ ⟨rfl,?_⟩⟩⟩⟩
    rw[ce1,ce2];by_cases G:hd a.1<hd q.1
    ·refine .inl ⟨decide_eq_true (by omega),a,A',rfl,fun m hm=>?_⟩
     rcases aq.1 hm with rfl|hm
     ·exact G
     ·exact Nat.lt_trans G ((ay.1 hpb).1 m hm)
    ·exact .inr ⟨decide_eq_false (by omega),q,B',rfl,.inr ⟨a,A',rfl,G⟩⟩
 rintro t h7 ⟨rfl,⟨rfl,a,A',rfl,hlow⟩|⟨rfl,q,B',rfl,hor⟩⟩
 ·
  rw[au]at z1;obtain⟨b1,l1,g1,g2,g3⟩:=s.at (i:=0) (ml _);simp only[dH]at g2 g3;obtain⟨a1,N,_,v1⟩:=D.at0 g1;rw[aU,ae]at hl1 hl2;refine aw.2 ⟨⟨by(try simp only);omega,by(try simp only);omega⟩,a1,N,_,v1,?_⟩
  refine Hu (A:=pp key.data.toList a) (B:= []) (.inr ⟨b1,l1,a,rfl,g3,g2,hkid a (E a (ar ..)),rfl⟩) (.inl ⟨rfl,rfl⟩) (.inr rfl) st1 (by omega) (aN _) (by rw[bA];omega) fun h8 C8 st8 hC8 hu8=>?_
  refine⟨⟨by(try simp only);omega,by(try simp only);omega⟩,?_⟩
  simp only[Bd];rcases ka with _|⟨k0,ka⟩
  ·simp at g1
  have ca:=Y.2 a (E a (ar ..));have o:=ay.1 hpa;refine go (gM (pp key.data.toList a) []) _ t2 ka kb A' Lb h8 C8 st8 hC8 hu8 ?_ ?_ (by omega) hl3 (Uz D hc1) J (by show t1.len-1≤t1.cap-1;omega) hc2 (s.drop 1) Q (jR ..) (.refl _) (by rw[au];omega)
  ·rw[aU]
   exact Ew (B1:= []) (pQ ca.2.2) .nil (j1 fun m hm=>CM ca.1 (hna m (ax _ hm)) (o.1 m hm)) (j1 fun m hm=>CM ca.1 (V m hm) (hlow m hm)) (fun p o=>absurd o dy) (fun p o=>absurd o dy)
  ·have:=ri (pQ (pre:=key.data.toList) ca.2.2) (B:= []) .nil
   rw[aU,ae];rw[bA]at this;omega
 refine ag.2 ?_;rw[au]at z2;obtain⟨b2,l2,f1,f2,f3⟩:=Q.at (i:=0) (ml _);simp only[dH]at f2 f3;obtain⟨a2,ha2,_,v2⟩:=J.at0 f1;obtain⟨c2,cc2,cd2,ce2⟩:=UY f2 (V q (ar ..));rcases kb with _|⟨k0',kb⟩
 ·simp at f1
 have cb:=H.2 q (Z q (ar ..));have hpq:=ay.1 hpb;rw[aU (f:=pp key.data.toList),ae]at hl3;rw[aU (f:=pp key.data.toList) (x:=q),ae]at hl1;refine Join.intro (fun t h'=>h'=h7∧((t=true∧∀p∈La,hd q.1<hd p.1)∨(t=false∧∃a A',La=a::A'∧hd a.1=hd q.1))) (fun R hR=>?_) ?_
 ·rcases hor with rfl|⟨a,A',rfl,hnl⟩
  ·rw[show(((t1.len:Nat):Int)==0)=true by rw[z1];rfl]
   exact aw.2 (hR _ _ ⟨rfl,.inl ⟨rfl,fun p o=>absurd o dy⟩⟩)
  ·rw[au]at z1
   rw[show(((t1.len:Nat):Int)==0)=false by rw[beq_eq_false_iff_ne];omega]
   obtain⟨b1,l1,g1,g2,g3⟩:=s.at (i:=0) (ml _);simp only[dH]at g2 g3;obtain⟨a1,N,_,v1⟩:=D.at0 g1;obtain⟨c1,cc1,cd1,ce1⟩:=UY g2 (hna a (ar ..));refine ag.2 ⟨⟨by(try simp only);omega,by(try simp only);omega⟩,a2,ha2,_,v2,⟨by(try simp only);omega,by(try simp only);omega⟩,a1,N,_,v1,li f3 ⟨v1,c2,cc2,cd2,li g3 ⟨c1,cc1,cd1,hR _ _ ⟨rfl,?_⟩⟩⟩⟩
   rw[ce1,ce2];by_cases G:hd q.1<hd a.1
   ·refine .inl ⟨decide_eq_true (by omega),fun m hm=>?_⟩
    rcases aq.1 hm with rfl|hm
    ·exact G
    ·exact Nat.lt_trans G ((ay.1 hpa).1 m hm)
   ·exact .inr ⟨decide_eq_false (by omega),a,A',rfl,by omega⟩
 rintro t h8 ⟨rfl,⟨rfl,hlow⟩|⟨rfl,a,A',rfl,heq⟩⟩
 ·
  refine aw.2 ⟨⟨by(try simp only);omega,by(try simp only);omega⟩,a2,ha2,_,v2,?_⟩
  refine Hu (A:= []) (B:=pp key.data.toList q) (.inl ⟨rfl,rfl⟩) (.inr ⟨b2,l2,q,rfl,f3,f2,O q (Z q (ar ..)),rfl⟩) (.inl rfl) st1 (aN _) (by omega) (by rw[bA];omega) fun h9 C9 st9 hC9 hu9=>?_
  refine⟨⟨by(try simp only);omega,by(try simp only);omega⟩,?_⟩
  simp only[Bd];refine go (gM [] (pp key.data.toList q)) t1 _ ka kb La B' h9 C9 st9 hC9 hu9 ?_ ?_ hl2 (by omega) D (Uz J hc2) hc1 (by show t2.len-1≤t2.cap-1;omega) s (Q.drop 1) (.refl _) (jR ..) (by rw[au];omega)
  ·rw[aU]
   exact Ew (A1:= []) .nil (pQ cb.2.2) (fun p o=>absurd o dy) (fun p o=>absurd o dy) (j1 fun m hm=>CM cb.1 (hna m hm) (hlow m hm)) (j1 fun m hm=>CM cb.1 (V m (ax _ hm)) (hpq.1 m hm))
  ·have:=ri (A:= []) (B:=pp key.data.toList q) .nil (pQ cb.2.2)
   rw[aU,ae];rw[bA]at this;omega
 ·
  rw[au]at z1;obtain⟨b1,l1,g1,g2,g3⟩:=s.at (i:=0) (ml _);simp only[dH]at g2 g3;obtain⟨a1,N,_,v1⟩:=D.at0 g1;rcases ka with _|⟨k0,ka⟩
  ·simp at g1
  have ca:=Y.2 a (E a (ar ..));have o:=ay.1 hpa;rw[aU,ae]at hl1 hl2;refine ag.2 ⟨⟨by(try simp only);omega,by(try simp only);omega⟩,a1,N,_,v1,⟨by(try simp only);omega,by(try simp only);omega⟩,a2,ha2,_,v2,?_⟩
  refine ih a (E a (ar ..)) (n':=q) g3 g2 f3 f2 (hkid a (E a (ar ..))) (O q (Z q (ar ..))) st1 hC1W hW1 (by omega) (by omega) (by omega) fun h9 C9 st9 hC9 hu9=>?_
  refine⟨⟨by(try simp only);omega,by(try simp only);omega⟩,?_⟩
  simp only[Bd];refine⟨⟨by(try simp only);omega,by(try simp only);omega⟩,?_⟩
  refine go (gM (pp key.data.toList a) (pp key.data.toList q)) _ _ ka kb A' B' h9 C9 st9 hC9 hu9 ?_ ?_ (by omega) (by omega) (Uz D hc1) (Uz J hc2) (by show t1.len-1≤t1.cap-1;omega) (by show t2.len-1≤t2.cap-1;omega) (s.drop 1) (Q.drop 1) (jR ..) (jR ..) (by rw[au,au];omega)
  ·rw[aU,aU]
   exact Ew (pQ ca.2.2) (pQ cb.2.2) (j1 fun m hm=>CM ca.1 (hna m (ax _ hm)) (o.1 m hm)) (j1 fun m hm=>CM ca.1 (V m (ax _ hm)) (by rw[heq];exact hpq.1 m hm)) (j1 fun m hm=>CM cb.1 (hna m (ax _ hm)) (by rw[←heq];exact o.1 m hm)) (j1 fun m hm=>CM cb.1 (V m (ax _ hm)) (hpq.1 m hm))
  ·have:=ri (pQ (pre:=key.data.toList) ca.2.2) (pQ (pre:=key.data.toList) cb.2.2)
   rw[aU,aU,ae,ae];omega
theorem yW:∀{F:Fo},gA F→∀n∈F.toL,Ou n
 | .nil,_,n,a=>by simp[Fo.toL]at a
 | .cons lab w kids rest,h,n,a=>by
  rcases aq.1 a with rfl|a
  ·exact Hv (yW h.2.2.1)
  ·exact yW h.2.2.2.2 n a
end Go.Proofs
namespace Go.Proofs
open Go Go.Lift
end Go.Proofs
namespace Go.Proofs
open Go Go.Lift
def Yx(a b:Ch):Bool:=decide (kl a.1 b.1)
theorem XV(M:Nat→Prop):Cmp Yx GN M (fun _=>True) (.func (.func 187) #[] #[]):=by
 refine⟨fun a b h K _ e=>HV.mk' (cW (Dy a b) .nil Tryz.func187 Tryz.call187 ?_),fun _ h=>h⟩
 dsimp only[Dy,kJ,Wg,fY,bi];refine ba fun f b1 k1=>ba fun d b2 c=>?_
 refine⟨a.1,vc (c.get0 b1) 0,b.1,vc b2 0,FV (e d _ (k1.tr c) ?_)⟩;unfold uK Yx;split
 ·rename_i h;rw[decide_eq_true h];rfl
 ·rename_i h
  rw[decide_eq_false h];split<;>rfl
theorem Eqf.perm{α:Type}[DecidableEq α]{lt:α→α→Bool}(w:WO lt){l l':List α}(h:Eqf lt l l'):l'.Perm l:=by
 rw[List.perm_iff_count];intro a;have e:∀m:List α,m.count a=(m.filter (Me lt a)).count a:=fun m=>(List.count_filter (FX w a)).symm
 rw[e l',e l,h.flt a]
theorem M3{t:Tr}{h:ad}{K:Int×Int×Int→ad→Prop}(d:∀h',Upd No h h'→K (t.2.1,t.2.2.1,t.2.2.2.1) h'):Ya 182 [Ab t] K h:=by
 refine cW (sf t) .nil Tryz.func182 Tryz.call182 ?_;dsimp only[sf,dt,X3,X4,mc,aj,AY,ge,l7,tf];refine ba fun f b1 k1=>ba fun g b2 b=>?_
 have c1:=b.get0 b1;refine⟨_,gw c1 1 0,_,gw c1 1 1,_,gw c1 1 2,?_⟩;refine cn (c:= [.int .u64 0,.int .u64 0,.int .u64 0]) (vs:= [.int .u64 t.2.1,.int .u64 t.2.2.1,.int .u64 t.2.2.2.1]) b2 rfl fun e b3 a=>?_
 exact⟨_,vc b3 0,_,vc b3 1,_,vc b3 2,d e ((k1.tr b).own a k1.size)⟩
theorem Hw{t:Tr}{h:ad}{K:Option Addr→ad→Prop}(a:∀h',Upd No h h'→K t.2.2.2.2.2 h'):eT 184 [Ab t] K h:=by
 refine cW (tI t) .nil Tryz.func184 Tryz.call184 ?_;dsimp only[tI,aD,l7,tf];exact ba fun b b1 k1=>⟨_,vc b1 5,a b k1⟩
theorem Sb{W:Nat→Prop}{h:ad}{b:Nat}{l:List Pr}(t:RadAt W h b l)(g:bM l)(i:Fit l):∃n:Bn,n.1= []∧RxN W h b ⟨#[]⟩ n.2.1 n.2.2∧NodeK n []∧pp [] n=l:=by
 obtain⟨w,F,f,d,c⟩:=t.ex;have a:=UF d g c;refine⟨([],w,F),rfl,f,⟨d,by simp,fun p a=>?_⟩,?_⟩
 ·obtain⟨q,j,e,_⟩:=(c p.1 p.2).1 a
  have:=(i q j).1;rw[←e];have k:q.1.data.toList.length=q.1.size:=dL;simp only[bA];omega
 ·unfold pp
  show(ze w F).map (AE ([]++ []))=l
  rw[a];unfold Xa;rw[hE];conv=>rhs;rw[←List.map_id l]
  exact List.map_congr_left fun p _=>by unfold AE;simp[NG]
theorem Oa{W W':Nat→Prop}{x x':Hs}{h:ad}{kind O:Int}{t u:Tr}{l l':List Pr}(i:TreeIs W h kind x t l)(i':TreeIs W' h O x' u l')(hr:bM l)(hf:Fit l)(hn:l.length≤60000)(S:bM l')(hf':Fit l')(hn':l'.length≤60000)(C:lz t u=true→∀{M:Nat→Prop} {h':ad} {s:SliceV} {L:List Ch} {K':Unit→ad→Prop},OwnS GN 5 209 M h' s L→(∀b,M b→b<h'.size)→L.Perm (gM l l')→(∀h2,OwnS GN 5 209 M h2 s (gM l l')→Upd M h' h2→K' () h2)→dd 186 [.slice s.a s.len s.cap,.func (.func 187) #[] #[]] K' h'){K:SliceV×Int→ad→Prop}
  (h0:lz t u=false→∀h',Upd No h h'→K (⟨none,0,0⟩,11) h')(hk:lz t u=true→∀h' s',OwnS GN 5 209 (fun y=>h.size≤y) h' s' (gM l l')→Upd No h h'→K (s',0) h'):G7 120 [Ab t,Ab u] K h:=by
 refine cW (IQ t u) Rh Tryz.func120 Tryz.call120 ?_;dsimp only[IQ,sM,cg,KJ,P0,nh,aD,wL,aY,aj,yh,l7,tf,TS];refine ba fun h1 b1 k1=>ba fun h2 b2 k2=>?_
 have c1:=k2.get0 b1;refine⟨_,vc c1 0,_,vc c1 1,_,vc c1 2,_,vc c1 3,_,vc c1 4,_,vc c1 5,_,vc b2 0,_,vc b2 1,_,vc b2 2,_,vc b2 3,_,vc b2 4,_,vc b2 5,?_⟩;refine wQ fun h3 k3=>?_
 have E:=(k1.tr k2).tr k3;have I:=k3.get0 c1;have b3:=k3.get0 b2;rcases hl:lz t u with _|_
 ·exact aw.2 (h0 hl h3 E)
 refine ag.2 ⟨_,vc I 0,_,vc I 1,_,vc I 2,_,vc I 3,_,vc I 4,_,vc I 5,?_⟩;refine M3 fun p k4=>?_
 refine ba fun P b5 k5=>?_
 have D:=(E.tr k4).tr k5;have H:=k5.get0 (k4.get0 I);have d5:=k5.get0 (k4.get0 b3);have z5:=bw b5;have s4:=(E.tr k4).size;have s5:=k5.size;obtain⟨rfl,hx⟩:=Qx i i' hl;let z:Hs:=⟨t.2.1,t.2.2.1,t.2.2.2.1⟩
 have st:SetAt No P p.size z []:=⟨⟨⟨none,0,0⟩,b5,OwnS.nil Tw⟩,fun _ h=>h.elim,id⟩
 have U:∀Q,Upd No P Q→∀h' k ys,SetAt k h' p.size z ([]++ys)→(∀b,k b→No b∨Q.size≤b)→Upd (fun b=>No b∨b=p.size) Q h'→ys.Perm (gM l l')→∃k ys,SetAt k h' p.size z ys∧(∀y,k y→P.size≤y)∧Upd (fun y=>y=p.size) P h'∧ys.Perm (gM l l'):=
  fun Q o h' k ys st' hC' hu' q=>⟨k,ys,st',fun y m=>(hC' y m).elim (fun h=>h.elim) fun h=>aW o.size h,o.wide.trans hu' fun b hb=>hb.elim (fun h=>h.elim) fun h=>.inl h,q⟩
 refine Join.intro (fun _ h'=>∃k ys,SetAt k h' p.size z ys∧(∀y,k y→P.size≤y)∧Upd (fun y=>y=p.size) P h'∧ys.Perm (gM l l')) (fun R hR=>?_) ?_
 ·refine⟨_,vc H 0,_,vc H 1,_,vc H 2,_,vc H 3,_,vc H 4,_,vc H 5,?_⟩
  refine KZ fun Q o=>?_
  have g:=o.get0 H;have c:=o.get0 d5;have i6:=(i.less (W':=fun y=>h.size≤y) fun _ h=>.inr h).upd0 (D.tr o)
  have V:=(i'.less (W':=fun y=>h.size≤y) fun _ h=>.inr h).upd0 (D.tr o)
  have X:∀y,No y∨y=p.size→h.size≤y:=fun y m=>m.elim (fun h=>h.elim) fun e=>by omega
  rcases i6 with⟨rfl,b,rfl,tt⟩|⟨rfl,b,rfl,tt⟩
  ·rcases V with⟨_,b',rfl,v⟩|⟨e,_⟩
   ·obtain rfl:=hx rfl
    refine ag.2 ⟨_,vc g 0,_,vc g 1,_,vc g 2,_,vc g 3,_,vc g 4,_,vc g 5,_,vc c 0,_,vc c 1,_,vc c 2,_,vc c 3,_,vc c 4,_,vc c 5,?_⟩;refine Hx tt fun h7 j=>?_
    have d:=j.get0 c;refine⟨⟨vc d 0,vc d 1,vc d 2,vc d 3,vc d 4,vc d 5⟩,?_⟩;refine Hx (TrieAt.upd0 j v) fun h8 A=>?_
    have a:=(o.tr j).tr A;refine RO 13 (ai _) (TrieAt.upd0 (j.tr A) tt) (TrieAt.upd0 (j.tr A) v) (st.upd0 a) X (fun y m=>by have:=a.size;omega) hr S (by omega) (by omega) (by simp) fun ys q Z C9 f G J=>?_
    exact hR _ _ (U h8 a Z C9 ys f G J q)
   ·cases e
  ·rcases V with⟨e,_⟩|⟨_,b',rfl,v⟩
   ·cases e
   ·refine aw.2 ⟨_,vc g 0,_,vc g 1,_,vc g 2,_,vc g 3,_,vc g 4,_,vc g 5,_,vc c 0,_,vc c 1,_,vc c 2,_,vc c 3,_,vc c 4,_,vc c 5,?_⟩
    refine Hw fun h7 j=>?_
    have d:=j.get0 c;refine⟨⟨vc d 0,vc d 1,vc d 2,vc d 3,vc d 4,vc d 5⟩,?_⟩;refine Hw fun h8 A=>?_
    have a:=(o.tr j).tr A;obtain⟨n,e1,r1,nk,q⟩:=Sb (tt.upd0 (j.tr A)) hr hf;obtain⟨n',e1',r1',nk',N⟩:=Sb (v.upd0 (j.tr A)) S hf';obtain⟨lab,w,F⟩:=n;(try simp only at e1)
    subst e1;refine Hv (yW nk.can) (sl:=⟨#[]⟩) (ahead:=⟨#[]⟩) r1 rfl r1' (by rw[e1']) nk nk' (st.upd0 a) X (fun y m=>by have:=a.size;omega) (by show(pp [] _).length≤_;rw[q];omega) (by show(pp [] _).length≤_;rw[N];omega) (by show 0+(pp [] _).length+(pp [] _).length≤_;rw[q,N];omega) fun Z C9 f G J=>?_
    have f:SetAt C9 Z p.size z ([]++gM (pp [] ([],w,F)) (pp [] n')):=f;rw[q,N]at f;exact hR _ _ (U h8 a Z C9 _ f G J (.refl _))
 ·rintro _ Q ⟨C6,ys,B,T,hu6,q⟩
  obtain⟨s,e6,ho6⟩:=B.ex;refine⟨_,rfl,s,vc e6 3,?_⟩;refine C hl ho6 B.lt q fun h7 ho7 Y=>?_
  have e7:=Y.get e6 B.ne;refine⟨_,rfl,s,vc e7 3,hk hl h7 s (ho7.more fun y m=>by have:=T y m;omega) ?_⟩
  exact(D.trans hu6 fun y m=>.inr (by omega)).trans Y fun y m=>.inr (by have:=T y m;omega)
end Go.Proofs
namespace Go.Proofs
open Go Go.Lift
end Go.Proofs
namespace Go.Proofs
open Go Go.Lift
end Go.Proofs
namespace Go.Proofs
open Go Go.Lift
theorem StP.less{N M:Nat}(h:StP N)(hm:M≤N):StP M:=fun w _ _ _ hc _ _ _ a hi c _ b=>h w hc a hi (aW c hm) b
end Go.Proofs
namespace Go.Proofs
open Go Go.Lift
theorem UZ{a b:ByteArray}:kl a b↔bI a.data.toList b.data.toList=true:=by unfold kl;rw[ByteArray.toList_eq,ByteArray.toList_eq]
theorem PR{a b:UInt8}{x y:List UInt8}:bI (a::x) (b::y)=true↔a.toNat<b.toNat∨(a=b∧bI x y=true):=by
 simp only[bI,Bool.or_eq_true,decide_eq_true_iff,bj,beq_iff_eq,UInt8.lt_iff_toNat_lt]
theorem TE{x y:List UInt8}:∀pre:List UInt8,bI (pre++x) (pre++y)=true↔bI x y=true
 | []=>rv
 |a::pre=>by rw[dz,dz,PR,TE pre];simp
theorem XY{x y:List UInt8}(h:bI x y=true)(hx:x≠[])(c:y≠[]):hd x≤hd y:=by
 match x,y,hx,c with
 |a::x,b::y,_,_=>
  show a.toNat≤b.toNat
  rcases PR.1 h with h|⟨rfl,_⟩<;>omega
abbrev ky(p:Pr):List UInt8:=p.1.data.toList
def YQ(l:List Pr)(pre k:List UInt8)(v:ByteArray):Prop:=∃p∈l,ky p=pre++k∧p.2=v
structure Beg(l:List Pr)(pre:List UInt8):Prop where
 up:bM l
 at_:∀p∈l,(ky p).take pre.length=pre∧pre.length<(ky p).length
theorem Beg.sub{l l':List Pr}{pre:List UInt8}(b:Beg l pre)(h:l'.Sublist l):Beg l' pre:=⟨b.up.sublist h,fun p a=>b.at_ p (h.subset a)⟩
theorem Beg.split{l:List Pr}{pre:List UInt8}(b:Beg l pre){p:Pr}(a:p∈l):ky p=pre++(ky p).drop pre.length∧(ky p).drop pre.length≠[]:=by
 obtain⟨c,d⟩:=b.at_ p a;refine⟨?_,fun e=>?_⟩
 ·conv=>lhs;rw[←bJ pre.length (ky p),c]
 ·have:=congrArg List.length e
  rw[List.length_drop,bA]at this;omega
def bt(n:Nat)(p:Pr):Nat:=hd ((ky p).drop n)
theorem Beg.mono{A B:List Pr}{pre:List UInt8}(b:Beg (A++B) pre){x y:Pr}(hx:x∈A)(a:y∈B):bt pre.length x≤bt pre.length y:=by
 have h:=(ct.1 b.up).2.2 x hx y a;rw[UZ]at h;obtain⟨c,e⟩:=b.split (bQ B hx);obtain⟨f,d⟩:=b.split (bW A a);change bI (ky x) (ky y)=true at h;rw[c,f,TE]at h;exact XY h e d
structure Row(L:List Bn)(D T:List Pr)(pre:List UInt8):Prop where
 can:∀n∈L,Ra n
 up:L.Pairwise fun m n=>hd m.1<hd n.1
 lo:∀n∈L,∀p∈T,hd n.1<bt pre.length p
 got:∀k v,(∃n∈L,wK n k v)↔YQ D pre k v
theorem Row.nil(T:List Pr)(pre:List UInt8):Row [] [] T pre:=⟨fun n h=>(by cases h),cf,fun n h=>(by cases h),fun k v=>⟨fun⟨n,h,_⟩=>(by cases h),fun⟨p,h,_⟩=>(by cases h)⟩⟩
theorem Row.more{L:List Bn}{D A B:List Pr}{pre:List UInt8}{n:Bn}{p:Pr}(r:Row L D (A++B) pre)(o:Beg (A++B) pre)(j:p∈A)(_:∀a∈A,bt pre.length a=bt pre.length p)(u:∀b d,B=b::d→bt pre.length b≠bt pre.length p)(hc:Ra n)(i:hd n.1=bt pre.length p)(s:∀k v,wK n k v↔YQ A pre k v):Row (L++ [n]) (D++A) B pre:=by
 refine⟨fun m hm=>?_,ct.2 ⟨r.up,List.pairwise_singleton ..,fun a t b hb=>?_⟩,fun m hm q c=>?_,fun k v=>?_⟩
 ·rcases aF.1 hm with hm|hm
  ·exact r.can m hm
  ·rw[al.1 hm];exact hc
 ·rw[al.1 hb,i]
  exact r.lo a t p (bQ _ j)
 ·rcases aF.1 hm with hm|hm
  ·exact r.lo m hm q (bW _ c)
  ·rw[al.1 hm,i]
   rcases B with _|⟨f,d⟩
   ·cases c
   have w:=u f d rfl;have y:=o.mono j (ar (a:=f) (l:=d));rcases aq.1 c with rfl|c
   ·omega
   ·have g:Beg ([f]++d) pre:=o.sub (List.sublist_append_right A _)
    have:=g.mono (al.2 rfl) c;omega
 ·constructor
  ·rintro⟨m,hm,hi⟩
   rcases aF.1 hm with hm|hm
   ·obtain⟨q,c,e⟩:=(r.got k v).1 ⟨m,hm,hi⟩
    exact⟨q,bQ _ c,e⟩
   ·rw[al.1 hm]at hi
    obtain⟨q,c,e⟩:=(s k v).1 hi;exact⟨q,bW _ c,e⟩
  ·rintro⟨q,c,e⟩
   rcases aF.1 c with c|c
   ·obtain⟨m,hm,hi⟩:=(r.got k v).2 ⟨q,c,e⟩
    exact⟨m,bQ _ hm,hi⟩
   ·exact⟨n,bW _ (al.2 rfl),(s k v).2 ⟨q,c,e⟩⟩
theorem Row.done{L:List Bn}{D:List Pr}{pre:List UInt8}(r:Row L D [] pre):gA (.ofL L)∧∀k v,sX (.ofL L) k v↔YQ D pre k v:=by
 refine⟨dA.2 ?_,fun k v=>?_⟩
 ·rw[Fo.to_of];exact⟨r.up,r.can⟩
 ·rw[gB,Fo.to_of];exact r.got k v
end Go.Proofs
namespace Go.Proofs
open Go Go.Lift
theorem Kid.less{W W':Nat→Prop}{h:ad}(hm:∀b,W' b→W b∨h.size≤b){a:Option Addr}{n:Bn}:Kid W h a n→Kid W' h a n
 |⟨b,sl,e1,e2,e3⟩=>⟨b,sl,e1,e2,e3.less hm⟩
theorem Kid.updM{W M:Nat→Prop}{h h':ad}(k:Upd M h h')(hm:∀b,M b→W b∨h.size≤b){a:Option Addr}{n:Bn}:Kid W h a n→Kid W h' a n
 |⟨b,sl,e1,e2,e3⟩=>⟨b,sl,e1,e2,e3.updM k hm⟩
theorem RxL.less{W W':Nat→Prop}{h:ad}(hm:∀b,W' b→W b∨h.size≤b){ks:List (Option Addr)}{L:List Bn}(r:RxL W h ks L):RxL W' h ks L:=⟨r.1,fun p a=>(r.2 p a).less hm⟩
theorem RxL.updM{W M:Nat→Prop}{h h':ad}(k:Upd M h h')(hm:∀b,M b→W b∨h.size≤b){ks:List (Option Addr)}{L:List Bn}(r:RxL W h ks L):RxL W h' ks L:=⟨r.1,fun p a=>(r.2 p a).updM k hm⟩
end Go.Proofs
namespace Go.Proofs
open Go Go.Lift
theorem Wl{h:ad}{t:Tr}{k:ad→Prop}(e:∀h',h'[h.size]? =some (.cells (iH t).toArray 53 (0,0))→Upd No h h'→k h'):
  At (hnew h (iH sY) 53) (fun b=>pk b (some (aL h)) 0 (iH t)∧At (eN b (aL h) 0 (iH t)) k):=
 ba fun _ b1 k1=>cn (c:=iH sY) (vs:=iH t) b1 rfl fun d b2 a=>e d b2 (k1.own a (ai _))
def WV(s:ByteArray):ByteArray:=s.extract 0 (if 40<(s.size:Int)then 40 else(s.size:Int)).toNat
end Go.Proofs
namespace Go.Proofs
open Go Go.Lift
theorem Fh{h:ad}{r:Rt}{k:ad→Prop}(e:∀h',h'[h.size]? =some (.cells (sN r).toArray 111 (0,0))→Upd No h h'→k h'):
  At (hnew h (sN O9) 111) (fun b=>pk b (some (aL h)) 0 (sN r)∧At (eN b (aL h) 0 (sN r)) k):=
 ba fun _ b1 k1=>cn (c:=sN O9) (vs:=sN r) b1 rfl fun d b2 a=>e d b2 (k1.own a (ai _))
end Go.Proofs
namespace Go.Proofs
open Go Go.Lift
abbrev WY:List Value:= [.string (⟨#[]⟩:ByteArray),.string (⟨#[]⟩:ByteArray),.string (⟨#[]⟩:ByteArray),.bool false,.bool false]
theorem Xn{h:ad}{t:TypeId}{c:Ch}{k:ad→Prop}(d:∀h',h'[h.size]? =some (.cells (GN c).toArray t (0,0))→Upd No h h'→k h'):
  At (hnew h WY t) fun b=>pk b (some (aL h)) 0 (GN c)∧At (eN b (aL h) 0 (GN c)) k:=
 ba fun _ b1 k1=>cn (c:=WY) (vs:=GN c) b1 rfl fun e b2 a=>d e b2 (k1.own a (ai _))
end Go.Proofs
namespace Go.Proofs
open Go Go.Lift
end Go.Proofs
namespace Go.Proofs
open Go Go.Lift
abbrev b1:ByteArray:=⟨#[49]⟩
abbrev b2:ByteArray:=⟨#[50]⟩
abbrev b3:ByteArray:=⟨#[51]⟩
end Go.Proofs
namespace Go.Proofs
open Go Go.Lift
def look(l:List Pr)(k:ByteArray):Option ByteArray:=(l.find? fun p=>decide (p.1=k)).map (·.2)
theorem HW{l:List Pr}{k:ByteArray}(h:cy l k=false):look l k=none:=by
 unfold look;rw[Option.map_eq_none_iff,List.find?_eq_none];intro p a;unfold cy at h;rw[List.any_eq_false]at h;exact h p a
theorem ry:∀{l:List Pr} {k v:ByteArray},bM l→(k,v)∈l→look l k=some v
 |p::l,k,v,a,h=>by
  have a:=ay.1 a;unfold look;rw[kj];rcases aq.1 h with e|h
  ·subst e;simp
  ·have b:p.1≠k:=fun e=>by
    have:=a.1 _ h;simp only at this;rw[e]at this;exact bN _ this
   rw[decide_eq_false b];exact ry a.2 h
theorem Pv{l:List Pr}(c:bM l){k v:ByteArray}(a:cy l k=true→(k,v)∈l)(b:cy l k=false→v=⟨#[]⟩):((look l k).getD ⟨#[]⟩,(look l k).isSome)=(v,cy l k):=by
 cases ht:cy l k with
 |true=>rw[ry c (a ht)];rfl
 |false=>rw[HW ht,b ht];rfl
theorem Qw{x:Hs}{lev:Nat}{l:List Pr}{k:ByteArray}:look (part x lev (ck x lev k) l) k=look l k:=by
 unfold look part;congr 1
 rw[List.find?_filter];congr 1
 funext p;by_cases e:p.1=k
 ·rw[e];simp
 ·simp[e]
theorem Mi{W:Nat→Prop}{x:Hs}{h:ad}{b:Nat}{l:List Pr}(t:TrieAt W x h 13 b l)(X:∀y,W y→y<h.size)(Y:bM l)(Z:l.length≤1000000)(k:ByteArray){K:ByteArray×Bool→ad→Prop}
  (O:∀h',Upd No h h'→K ((look l k).getD ⟨#[]⟩,(look l k).isSome) h'):q9 260 [.agg #[.int .u64 x.k0,.int .u64 x.k1,.int .u64 x.mask],gS b,.string k] K h:=by
 refine cW (DC (x.k0,x.k1,x.mask) (some ⟨b,0,none⟩) k) MI Tryz.func260 Tryz.call260 ?_;dsimp only[DC,bi,nv,Ei,BG,fP,yg,mY,vr,jK,mc,aj,fY];refine ba fun h1 b1 k1=>⟨_,vc b1 0,_,vc b1 1,_,vc b1 2,?_⟩
 refine AB fun h2 k2=>?_
 have o:=k1.tr k2;refine Jk (.inr ⟨b,rfl,TrieAt.upd0 o t⟩) (fun y hy=>az (X y hy) o.size) fun h3 b3 t3 T _=>?_
 have L:=o.tr T;refine LoopP.ghost (fun(g:Nat×Nat×List Pr) (t:Option Addr×Int) h'=>t=(some ⟨g.2.1,0,none⟩,((13-g.1:Nat):Int))∧g.1≤13∧TrieAt W x h' g.1 g.2.1 g.2.2∧bM g.2.2∧g.2.2.length≤1000000∧look g.2.2 k=look l k∧Upd No h h') (fun g=>g.1) (13,b3,l)
  ⟨rfl,ai _,t3,Y,Z,rfl,L⟩ ?_
 rintro I ⟨m,c,A⟩ t V ⟨rfl,hm,tm,j,D,u,F⟩ hI;(try simp only at hm tm j D u)
 rcases m with _|m
 ·obtain⟨sp,sk,ow,hb,_⟩:=BuckAt.ex tm
  refine ie hb (aw.2 (SP tm j (by omega) k fun S v H w z=>?_))
  have:=O S (F.tr H);rw[←u,Pv j w z]at this;exact this
 ·obtain⟨s,nd,N⟩:=tm
  have N:∀c,c<32→SlotIs W x V m s c (part x (12-m) c A):=N;obtain⟨d,n,sp,sk,ow,hb,_⟩:=nd.ex;refine ie hb (ag.2 ?_);refine Tu (by omega) ?_;rw[show 13-(m+1)=12-m by omega]
  have hi:=yA x (12-m) k;have q:=N _ hi;have f:look (part x (12-m) (ck x (12-m) k) A) k=look l k:=by rw[Qw,u]
  have C:bM (part x (12-m) (ck x (12-m) k) A):=jM j;have B:(part x (12-m) (ck x (12-m) k) A).length≤1000000:=aW pR D;generalize part x (12-m) (ck x (12-m) k) A=lp at q f C B;generalize ck x (12-m) k=i at hi q;refine Aq nd hi fun S H=>?_
  refine yx fun E G U=>?_
  have a:=H.tr U;rcases q with⟨P,w,z⟩|⟨p,P,w,z⟩|⟨_,w,R,z,tk⟩
  ·rw[w]
   refine ag.2 (vF (nd.upd a fun _ h=>h.elim) hi ?_)
   rw[z];refine aw.2 ?_;have:=O E (F.tr a);rw[←f,P]at this;exact this
  ·rw[w]at G⊢
   refine aw.2 ⟨p.1,vc G 0,?_⟩;rw[dI];have:=O E (F.tr a);rw[←f,P]at this;by_cases e:p.1=k
   ·rw[decide_eq_true e]
    refine ag.2 ⟨p.2,vc G 1,?_⟩;have J:look [p] k=some p.2:=by unfold look;rw[kj,decide_eq_true e];rfl
    rw[J]at this;exact this
   ·rw[decide_eq_false e]
    have J:look [p] k=none:=by unfold look;rw[kj,decide_eq_false e];rfl
    rw[J]at this;exact aw.2 this
  ·rw[w]
   refine ag.2 (vF (nd.upd a fun _ h=>h.elim) hi ?_)
   rw[z];refine ag.2 ?_;have Q:ac .i64 (((13-(m+1):Nat):Int)+1)=((13-m:Nat):Int):=by rw[df (by omega)];omega
   rw[show 13-(m+1)=12-m by omega]at Q
   show I (some ⟨R,0,none⟩,ac .i64 (((12-m:Nat):Int)+1)) E
   rw[Q];exact hI (m,R,lp) _ E ⟨rfl,by(try simp only);omega,TrieAt.upd0 a tk,C,B,f,F.tr a⟩ (by(try simp only);omega)
abbrev Sd:=ByteArray×Bool
abbrev V9(s:Sd):List Value:= [.string s.1,.bool s.2]
theorem Jn(a b:Sd):((a.1.toList==b.1.toList)&&((a.2==b.2)&&true))=decide (a=b):=by
 rw[dI];by_cases e:a=b
 ·subst e;simp
 ·rw[decide_eq_false e]
  obtain⟨c,d⟩:=a;obtain⟨b1,b2⟩:=b;simp only[Prod.mk.injEq]at e;rw[Bool.eq_false_iff];intro h;simp only[bj,decide_eq_true_iff,beq_iff_eq,and_true]at h;exact e h
theorem VK{h:ad}{t:TypeId}{s:Sd}{k:ad→Prop}(d:∀h',h'[h.size]? =some (.cells (V9 s).toArray t (0,0))→Upd No h h'→k h'):
  At (hnew h [.string (⟨#[]⟩:ByteArray),.bool false] t) fun b=>pk b (some (aL h)) 0 (V9 s)∧At (eN b (aL h) 0 (V9 s)) k:=
 ba fun _ b1 k1=>cn (c:= [.string (⟨#[]⟩:ByteArray),.bool false]) (vs:=V9 s) b1 rfl fun e b2 a=>d e b2 (k1.own a (ai _))
def wP(b o t:Sd)(p:Int):Sd×Bool:=if o=t∨t=b then(o,true)else if o=b then(t,true)else if p=1 then(o,false)else if p=2 then(t,false)else(b,false)
theorem wX{h:ad}{b:Nat}{t:TypeId}{c:List Value}{s:Sd}{g:Bool}{K:Sd×Bool→ad→Prop}(hb:h[b]? =some (.cells c.toArray t (0,0))) (hc:c.length=2) (e:∀h',Upd (· =b) h h'→K (s,g) h'):
  pk h (some ⟨b,0,none⟩) 0 [.string s.1,.bool s.2]∧At (eN h ⟨b,0,none⟩ 0 [.string s.1,.bool s.2]) (fun h'=>∃v1:ByteArray,aK h' (adr ⟨b,0,none⟩ 0)=some (.string v1)∧∃v2:Bool,aK h' (adr ⟨b,0,none⟩ 1)=some (.bool v2)∧K ((v1,v2),g) h'):=
 cn (c:=c) (vs:=V9 s) hb (by rw[hc];rfl) fun d b2 a=>⟨s.1,vc b2 0,s.2,vc b2 1,e d a⟩
theorem SD{b o t:Sd}{p:Int}{h:ad}{K:Sd×Bool→ad→Prop}(x:∀h',Upd No h h'→K (wP b o t p) h'):U5 122 [.agg #[.string b.1,.bool b.2],.agg #[.string o.1,.bool o.2],.agg #[.string t.1,.bool t.2],.int .i64 p] K h:=by
 refine cW (Bl b o t p) Kv Tryz.func122 Tryz.call122 ?_;dsimp only[Bl,DD,wH,sS,bi,gI,Ck,dt,VX];refine ba fun z b1 k1=>ba fun A b2 n=>ba fun w b3 i=>ba fun q f k=>?_
 have c1:=k.get0 (i.get0 (n.get0 b1));have d:=k.get0 (i.get0 b2);have c:=k.get0 b3;have y:h.size≤w.size:=((k1.tr n).tr i).size;have m:Upd No h q:=((k1.tr n).tr i).tr k;have fin:∀{h'} (s:Sd) (g:Bool),wP b o t p=(s,g)→Upd (· =w.size) q h'→K (s,g) h':=fun s g e a=>by rw[←e];exact x _ (m.own a y)
 unfold wP at fin;refine Join.intro (fun v h'=>h'=q∧v=decide (o=t∨t=b)) (fun R u=>?_) ?_
 ·refine⟨o.1,vc d 0,o.2,vc d 1,t.1,vc c 0,t.2,vc c 1,?_⟩
  rw[Jn o t];by_cases e:o=t
  ·rw[decide_eq_true e]
   exact aw.2 (u _ _ ⟨rfl,(decide_eq_true (.inl e)).symm⟩)
  ·rw[decide_eq_false e]
   refine ag.2 ⟨t.1,vc c 0,t.2,vc c 1,b.1,vc c1 0,b.2,vc c1 1,u _ _ ⟨rfl,?_⟩⟩;rw[Jn t b,decide_eq_decide];exact⟨.inr,fun h=>h.elim (fun h=>absurd h e) id⟩
 rintro v h' ⟨rfl,rfl⟩;refine ao (fun e=>?_) fun e=>?_
 ·rw[if_pos e]at fin
  exact⟨o.1,vc d 0,o.2,vc d 1,wX (s:=o) f rfl fun j a=>fin _ _ rfl a⟩
 rw[if_neg e]at fin;refine⟨o.1,vc d 0,o.2,vc d 1,b.1,vc c1 0,b.2,vc c1 1,?_⟩;rw[Jn o b];refine ao (fun e=>?_) fun e=>?_
 ·rw[if_pos e]at fin
  exact⟨t.1,vc c 0,t.2,vc c 1,wX (s:=t) f rfl fun j a=>fin _ _ rfl a⟩
 rw[if_neg e]at fin;refine CondP.intro (fun e=>?_) fun e=>?_
 ·rw[if_pos (by simpa using e)]at fin
  exact⟨o.1,vc d 0,o.2,vc d 1,wX (s:=o) f rfl fun j a=>fin _ _ rfl a⟩
 rw[if_neg (by simpa using e)]at fin;refine CondP.intro (fun e=>?_) fun e=>?_
 ·rw[if_pos (by simpa using e)]at fin
  exact⟨t.1,vc c 0,t.2,vc c 1,wX (s:=t) f rfl fun j a=>fin _ _ rfl a⟩
 ·rw[if_neg (by simpa using e)]at fin
  exact⟨b.1,vc c1 0,b.2,vc c1 1,wX (s:=b) f rfl fun j a=>fin _ _ rfl a⟩
theorem Se{b o t:Sd}{p:Int}{h:ad}{K:Sd×Bool→ad→Prop}(w:∀h',Upd No h h'→K (wP b o t p) h'):U5 131 [.agg #[.string b.1,.bool b.2],.agg #[.string o.1,.bool o.2],.agg #[.string t.1,.bool t.2],.int .i64 p] K h:=by
 refine cW (Gw b o t p) .nil Tryz.func131 Tryz.call131 ?_;dsimp only[Gw,DD,wH,sS,bi,gI,Ck,dt,VX];refine ba fun A b1 k1=>ba fun B b2 q=>ba fun u b3 j=>ba fun v f k=>?_
 have c1:=k.get0 (j.get0 (q.get0 b1));have c:=k.get0 (j.get0 b2);have d:=k.get0 b3;have y:h.size≤u.size:=((k1.tr q).tr j).size;have n:Upd No h v:=((k1.tr q).tr j).tr k;have fin:∀{h'} (s:Sd) (g:Bool),wP b o t p=(s,g)→Upd (· =u.size) v h'→K (s,g) h':=fun s g e a=>by rw[←e];exact w _ (n.own a y)
 unfold wP at fin;refine⟨o.1,vc c 0,o.2,vc c 1,t.1,vc d 0,t.2,vc d 1,?_⟩;rw[Jn o t];refine ao (fun e=>?_) fun m=>?_
 ·rw[if_pos (.inl e)]at fin
  exact⟨o.1,vc c 0,o.2,vc c 1,wX (s:=o) f rfl fun i a=>fin _ _ rfl a⟩
 refine⟨o.1,vc c 0,o.2,vc c 1,b.1,vc c1 0,b.2,vc c1 1,?_⟩;rw[Jn o b];refine ao (fun e=>?_) fun x=>?_
 ·rw[if_neg (fun h=>h.elim m fun h=>m (by rw[e,h])),if_pos e]at fin
  exact⟨t.1,vc d 0,t.2,vc d 1,wX (s:=t) f rfl fun i a=>fin _ _ rfl a⟩
 refine⟨t.1,vc d 0,t.2,vc d 1,b.1,vc c1 0,b.2,vc c1 1,?_⟩;rw[Jn t b];refine ao (fun e=>?_) fun z=>?_
 ·rw[if_pos (.inr e)]at fin
  exact⟨o.1,vc c 0,o.2,vc c 1,wX (s:=o) f rfl fun i a=>fin _ _ rfl a⟩
 rw[if_neg (fun h=>h.elim m z),if_neg x]at fin
 refine CondP.intro (fun e=>?_) fun e=>?_
 ·rw[if_pos (by simpa using e)]at fin
  exact⟨o.1,vc c 0,o.2,vc c 1,wX (s:=o) f rfl fun i a=>fin _ _ rfl a⟩
 rw[if_neg (by simpa using e)]at fin;refine CondP.intro (fun e=>?_) fun e=>?_
 ·rw[if_pos (by simpa using e)]at fin
  exact⟨t.1,vc d 0,t.2,vc d 1,wX (s:=t) f rfl fun i a=>fin _ _ rfl a⟩
 ·rw[if_neg (by simpa using e)]at fin
  exact⟨b.1,vc c1 0,b.2,vc c1 1,wX (s:=b) f rfl fun i a=>fin _ _ rfl a⟩
abbrev Xr:ByteArray:=⟨#[102,97,105,108]⟩
abbrev Xp:ByteArray:=⟨#[111,117,114,115]⟩
abbrev UP:ByteArray:=⟨#[116,104,101,105,114,115]⟩
abbrev Xq:ByteArray:=⟨#[107,101,101,112]⟩
def CQ(p:Int):ByteArray:=if p=0 then Xr else if p=1 then Xp else if p=2 then UP else if p=3 then Xq else⟨#[]⟩
theorem Aw{p:Int}{h:ad}{K:ByteArray→ad→Prop}(a:K (CQ p) h):AD 67 [.int .i64 p] K h:=by
 refine cW (Bm p) .nil Tryz.func67 Tryz.call67 ?_;unfold Bm;unfold CQ at a;refine CondP.intro (fun e=>?_) fun e=>?_
 ·rw[if_pos (by simpa using e)]at a;exact a
 rw[if_neg (by simpa using e)]at a;refine CondP.intro (fun e=>?_) fun e=>?_
 ·rw[if_pos (by simpa using e)]at a;exact a
 rw[if_neg (by simpa using e)]at a;refine CondP.intro (fun e=>?_) fun e=>?_
 ·rw[if_pos (by simpa using e)]at a;exact a
 rw[if_neg (by simpa using e)]at a;refine CondP.intro (fun e=>?_) fun e=>?_
 ·rw[if_pos (by simpa using e)]at a;exact a
 ·rw[if_neg (by simpa using e)]at a;exact a
end Go.Proofs
namespace Go.Proofs
open Go Go.Lift
section
variable {W:Nat→Prop} {h:ad} {vp:Nat} {s:VS}
theorem yT(v:VaultAt W h vp s){n m:ByteArray}{a b:Int}(z:bC s.B n=some a)(hb:bC s.B m=some b){p:Int}(D:((CQ p).toList==(⟨#[]⟩:ByteArray).toList)=false)(A:(b=0∨UpG s.L a b)∨(a=0∨UpG s.L b a))
  {K:Int×SliceV×Int→ad→Prop}(i:(b=0∨UpG s.L a b)→∀h',Upd No h h'→K (a,⟨none,0,0⟩,0) h')(k:¬(b=0∨UpG s.L a b)→∀h',Upd s.M h h'→VaultAt W h' vp {s with B:=j5 s.B n b}→K (b,⟨none,0,0⟩,0) h'):
  SR 24 [pV vp,.string n,.string m,.int .i64 p] K h:=by
 refine jk (some ⟨vp,0,none⟩) n m p ?_;dsimp only[gP,cB,aY,aj,dg,dt,nv,Ef,sL,ux,tf,aD,Lw,sM,fP,T0,uB,nh,wL,cH,yh,DZ];refine gN v n (gN v m ?_);rw[z,hb];refine Join.plain (ag.2 (ag.2 (Aw ?_)));rw[D];refine ag.2 (rx v b a fun c C hc k1=>CondP.intro (fun e=>i (hc.1 e) C k1) fun e=>?_)
 have q:¬(b=0∨UpG s.L a b):=fun E=>by rw[hc.2 E]at e;cases e
 have t:=v.upd0 k1;refine rx t a b fun F o g w=>?_
 rw[g.2 (A.resolve_left q)];have d:=t.upd0 w;refine aw.2 ⟨_,rfl,_,vc d.blk 8,_,rfl,d.b.isMap,F4 fun j f=>?_⟩
 have f:j=lY o s.bm (kStr.enc n) (LY b):=f;have u:Upd (· =s.bm) o j:=by rw[f];exact mI o _ _ rfl
 exact k q j ((k1.tr w).wide.tr (u.mono fun y x=>.inl (.inr (.inr (.inr (.inl x)))))) (d.setB u (by rw[f];exact d.b.put n b))
end
end Go.Proofs
namespace Go.Proofs
open Go Go.Lift
structure NSt(h8:ad)(b:Nat)(t:Tr)(h:ad)(ps ms:List Nat):Prop where
 k:Upd No h8 h
 blk:h[b]? =some (.cells (iH t).toArray 53 (0,0))
 gs:∀p∈ps,GraphAt (zG (p+1) p) h (p+1) p [] 1∧h8.size≤p
 mp:∀m∈ms,h[m]? =some (.map #[] 0)∧h8.size≤m
section
variable {h8 h h':ad} {b:Nat} {t:Tr} {ps ms:List Nat}
theorem NSt.upd(n:NSt h8 b t h ps ms)(k:Upd No h h'):NSt h8 b t h' ps ms:=
 ⟨n.k.tr k,k.get0 n.blk,fun p a=>⟨(n.gs p a).1.upd0 k,(n.gs p a).2⟩,fun m hm=>⟨k.get0 (n.mp m hm).1,(n.mp m hm).2⟩⟩
theorem NSt.rds(n:NSt h8 b t h ps ms):aK h (adr ⟨b,0,none⟩ 0)=some (.int .i64 t.1)∧aK h (adr ⟨b,0,none⟩ 1)=some (.int .u64 t.2.1)∧aK h (adr ⟨b,0,none⟩ 2)=some (.int .u64 t.2.2.1)∧aK h (adr ⟨b,0,none⟩ 3)=some (.int .u64 t.2.2.2.1)∧aK h (adr ⟨b,0,none⟩ 4)=some (.pointer t.2.2.2.2.1)∧aK h (adr ⟨b,0,none⟩ 5)=some (.pointer t.2.2.2.2.2):=
 ⟨vc n.blk 0,vc n.blk 1,vc n.blk 2,vc n.blk 3,vc n.blk 4,vc n.blk 5⟩
theorem NSt.map(n:NSt h8 b t h ps ms){k:ad→Prop}(a:∀h',NSt h8 b t h' ps (h.size::ms)→h.size<h'.size→k h'):At (Array.push h (.map #[] 0)) k:=by
 have c:=Upd.push No h (.map #[] 0);have n':=n.upd c;refine bL (a _ ⟨n'.k,n'.blk,n'.gs,fun m hm=>?_⟩ (by simp))
 rcases aq.1 hm with rfl|hm
 ·exact⟨oh h _,n.k.size⟩
 ·exact n'.mp m hm
theorem NSt.graph(n:NSt h8 b t h ps ms){K:Option Addr→ad→Prop}(c:∀h',NSt h8 b t h' (h.size::ps) ms→h.size+1<h'.size→K (some ⟨h.size+1,0,none⟩) h'):eT 60 [] K h:=by
 refine U7 fun h' d g=>?_
 have n':=n.upd d;refine c h' ⟨n'.k,n'.blk,fun p a=>?_,n'.mp⟩ (g.lt _ (.inl rfl))
 rcases aq.1 a with rfl|a
 ·exact⟨g,n.k.size⟩
 ·exact n'.gs p a
theorem NSt.put(n:NSt h8 b t h ps ms){cs:List Value}{ty:TypeId}{k:ad→Prop}(a:∀h',NSt h8 b t h' ps ms→h'[h.size]? =some (.cells cs.toArray ty (0,0))→h8.size≤h.size→k h'):At (hnew h cs ty) k:=
 ba fun h' b' k'=>a h' (n.upd k') b' n.k.size
theorem NSt.done{W:Nat→Prop}{kind:Int}{x:Hs}(n:NSt h8 b t h ps ms)(A:∀y,W y→y<h8.size)(i:TreeIs W h8 kind x t [])(z:kind=0∨kind=1){c p k o j:Nat}{K:Option Addr×Int→ad→Prop}
  (B:∀h' vp gp gm tm bm nm,VaultAt (fun y=>W y∨VS.M ⟨gp,gm,tm,bm,nm,kind,x,t,[],1,[],[],[]⟩ y) h' vp ⟨gp,gm,tm,bm,nm,kind,x,t,[],1,[],[],[]⟩→h8.size≤vp→(∀y,VS.M ⟨gp,gm,tm,bm,nm,kind,x,t,[],1,[],[],[]⟩ y→h8.size≤y)→Upd No h8 h'→K (some ⟨vp,0,none⟩,0) h')
  (C:h[c]? =some (.cells (iH t++ [Value.pointer (some ⟨p+1,0,none⟩),Value.map (some k),Value.map (some o),Value.map (some j)]).toArray 96 (0,0)))
  (hv:h8.size≤c) (f:∀m∈(p+1)::p::ms,c≠m) (D:p∈ps) (q:k∈ms) (v:o∈ms) (u:j∈ms) (ne: [p+1,p,k,o,j].Nodup):K (some ⟨c,0,none⟩,0) h:=by
 obtain⟨g,F⟩:=n.gs p D;have s:∀y,VS.M ⟨p+1,p,k,o,j,kind,x,t,[],1,[],[],[]⟩ y→h8.size≤y∧y<h.size∧c≠y:=fun y a=>by
  rcases a with e|e|e|e|e<;>(simp only at e;subst e)
  ·exact⟨by omega,g.lt _ (.inl rfl),f _ (by simp)⟩
  ·exact⟨F,g.lt _ (.inr rfl),f _ (by simp)⟩
  ·exact⟨(n.mp _ q).2,bw (n.mp _ q).1,f _ (by simp[q])⟩
  ·exact⟨(n.mp _ v).2,bw (n.mp _ v).1,f _ (by simp[v])⟩
  ·exact⟨(n.mp _ u).2,bw (n.mp _ u).1,f _ (by simp[u])⟩
 obtain⟨m,hm,w⟩:=g.map;have em:∀{κ β:Type} {E:KeyE κ} {g:β→Value} {r:Nat},h[r]? =some (.map #[] 0)→MapAt E g h r []:=fun w=>⟨[],0,⟨w,oL,oL,fun _ h=>by cases h⟩,rfl⟩
 refine B h c (p+1) p k o j ⟨C,⟨g.blk,⟨m,hm,fun id=>(w id).elim (fun⟨_,_,_,e,_⟩=>by cases e) .inr⟩,.inr (.inl rfl),.inr (.inr (.inl rfl)),fun y a=>a.elim (fun e=>az (A y e) n.k.size) fun e=>(s y e).2.1,g.nd⟩,em (n.mp _ q).1,em (n.mp _ v).1,em (n.mp _ u).1,fun y a=>.inr a,fun a=>a.elim (fun e=>by have:=A _ e;omega) fun e=>(s _ e).2.2 rfl,ne,?_,fun d hd=>(by cases hd),fun id=>rv,Inv.nil,z⟩ hv (fun y a=>(s y a).1) n.k
 exact(i.less fun y a=>a.imp id fun e=>(s y e).1).upd0 n.k
end
theorem OU{W:Nat→Prop}{h:ad}(p:∀y,W y→y<h.size){kind:Int}(m:kind=0∨kind=1){x:Hs}{K:Option Addr×Int→ad→Prop}
  (A:∀h' d gp gm tm bm nm t,VaultAt (fun y=>W y∨VS.M ⟨gp,gm,tm,bm,nm,kind,x,t,[],1,[],[],[]⟩ y) h' d ⟨gp,gm,tm,bm,nm,kind,x,t,[],1,[],[],[]⟩→h.size≤d→(∀y,VS.M ⟨gp,gm,tm,bm,nm,kind,x,t,[],1,[],[],[]⟩ y→h.size≤y)→Upd No h h'→K (some ⟨d,0,none⟩,0) h'):
  XJ 19 [.int .i64 kind,.agg #[.int .u64 x.k0,.int .u64 x.k1,.int .u64 x.mask]] K h:=by
 refine cW (Dd kind (x.k0,x.k1,x.mask)) .nil Tryz.func19 Tryz.call19 ?_;dsimp only[Dd,aY,aj,nv,Ei,BG,ux,tf,aD,nh,wL,mc,yh];refine ba fun I b1 k1=>⟨_,vc b1 0,_,vc b1 1,_,vc b1 2,?_⟩
 refine O1 (W:=W) (x:=x) (fun y b=>az (p y b) k1.size) m fun B t i w=>?_
 have j:=k1.tr w;refine ba fun H u o=>cn (c:=iH sY) (vs:=iH t) u rfl fun f g k=>ag.2 ?_
 have a:Upd No h f:=(j.tr o).own k j.size;have D:TreeIs W f kind x t []:=((i.less (W':=fun y=>W y∨y=B.size) fun y b=>b.imp id fun e=>Nat.le_of_eq e.symm).updM (o.wide.tr (k.mono fun _ e=>.inl (.inr e))) fun y b=>.inl b).less fun y b=>.inl (.inl b)
 have s:∀y,W y→y<f.size:=fun y b=>az (p y b) a.size
 have q:∀h' d gp gm tm bm nm,VaultAt (fun y=>W y∨VS.M ⟨gp,gm,tm,bm,nm,kind,x,t,[],1,[],[],[]⟩ y) h' d ⟨gp,gm,tm,bm,nm,kind,x,t,[],1,[],[],[]⟩→f.size≤d→(∀y,VS.M ⟨gp,gm,tm,bm,nm,kind,x,t,[],1,[],[],[]⟩ y→f.size≤y)→Upd No f h'→K (some ⟨d,0,none⟩,0) h':=
  fun h' d gp gm tm bm nm v hv C F=>A h' d gp gm tm bm nm t v (aW a.size hv) (fun y b=>aW a.size (C y b)) (a.tr F)
 have n:NSt f B.size t f [] []:=⟨Upd.refl _ _,g,fun _ h=>(by cases h),fun _ h=>(by cases h)⟩
 refine⟨_,vc g 0,_,vc g 1,_,vc g 2,_,vc g 3,_,vc g 4,_,vc g 5,?_⟩;clear A a p g k j i w o u b1 k1;repeat' first
  |refine⟨n.rds,?_⟩
  |refine n.graph fun _ n z=>?_
  |refine n.map fun _ n z=>?_
  |refine n.put fun _ n E G=>?_
  |exact n.done s D m q E G (by simp;omega) (by simp) (by simp) (by simp) (by simp) (by simp;omega)
  |refine And.intro ?_ ?_
end Go.Proofs
